/- What the code does, step by step, and plain facts: part 6. They have no conditions. -/
import Derived.Test.YtdlpoonfcdoiiaaGreatMB3
namespace Go.Proofs.YtdlpoonfcdoiiaaGreat
open Go.RowKit Go.Proofs.Tryz
set_option maxHeartbeats 40000000
set_option linter.all false
namespace DF
def jV:fB prog 74 5 1 1 (.int .u8 0):=.mk' underlying74 (by kernel_rfl) rfl (by decide)
def nf:fB prog 52 87 2 32 (.agg #[vE,vE]):=.mk' underlying52 (by kernel_rfl) rfl (by decide)
def bv (b:C Nat):C M:=b.map λa:Nat=>Value.int .u8 (a:Int)
def F6 (c:C Nat):∀b∈bv c,b.oneCell'=true:=by intro b a;simp only[bv,dz]at a;obtain⟨d,_,rfl⟩:=a;rfl
def JT (a:C Nat):(bv a).length=a.length:=by simp[bv]
def tR (b a:C Nat):bv (b++a)=bv b++bv a:=by simp[bv]
def Oe (b:C Nat)(a:Nat)(c:a<b.length):(bv b)[a]? =some (.int .u8 (b[a]:Int)):=by simp[bv,c]
def sb (a:U):C Nat:=a.data.toList.map UInt8.toNat
def nS (a:U):(sb a).length=a.size:=by show _=a.data.size;simp[sb]
def Ez (a:U):Lib.strCells a=bv (sb a):=by simp[Lib.strCells,bv,sb]
def zW (d:U):∀b∈sb d,b<256:=by intro b a;simp only[sb,dz]at a;obtain⟨c,_,rfl⟩:=a;exact c.toNat_lt
def enc:Nat->Nat->C Nat
 |0,a=>[a]
 |b+1,a=>if a<128 then[a]else(a % 128+128)::enc b (a/128)
def er (a:Nat):C Nat:=enc 10 a
def Ph:∀a b,(enc a b).length<=a+1/\1<=(enc a b).length
 |0,b=>by simp[enc]
 |a+1,b=>by
  unfold enc;split
  .simp
  .have:=Ph a (b/128);simp;omega
def nF (a:Nat):(er a).length<=11/\1<=(er a).length:=Ph 10 a
def Gq (b a:Nat)(c:a<128):enc b a=[a]:=by cases b<;>simp[enc,c]
def Pg (b a:Nat)(c:128<=a):enc (b+1) a=(a % 128+128)::enc b (a/128):=by rw[enc,cJ (by omega)]
def Pj:∀c d,d<128^c->∀b∈enc c d,b<256
 |0,d,e,b,a=>by simp[enc]at a;simp at e;omega
 |c+1,d,e,b,a=>by
  unfold enc at a;split at a
  .simp at a;omega
  .rcases dh.1 a with rfl|a
   .omega
   .exact Pj c _ (by rw[zf]at e;exact Nat.div_lt_of_lt_mul (by omega)) b a
def ahm (a:Nat):bits .or .u8 ((a % 256:Nat):Int) 128=((a % 128+128:Nat):Int):=by
 have c:∀b:Fin 256,bits .or .u8 (b.val:Int) 128=((b.val % 128+128:Nat):Int):=by decide+kernel
 have:=c ⟨a % 256,by omega⟩;simp only at this;rw[this];congr 2;omega
def ajt (a:Nat):((a:Nat):Int).fdiv (2^min (Int.toNat 7) IntKind.u64.bits)=((a/128:Nat):Int):=by show((a:Nat):Int).fdiv ((128:Nat):Int)=_;rw[Int.fdiv_eq_ediv_of_nonneg _ (by omega)];rfl
def IH (a:Nat):IntKind.u8.wrap (a:Int)=((a % 256:Nat):Int):=by rw[IntKind.wrap_u8];omega
abbrev Tg:=U×U
def dW (b:C Tg):C M:=b.flatMap λa=>[.string a.1,.string a.2]
def rR (a:C Tg):(dW a).length=a.length*2:=by
 induction a with
 |nil=>rfl
 |cons c a b=>simp only[dW,ji,cX,eE,qp]at b|-;omega
def UB (d:C Tg):∀c∈dW d,c.oneCell'=true:=by intro c a;simp only[dW,rZ]at a;obtain⟨e,_,b⟩:=a;simp at b;rcases b with rfl|rfl<;>rfl
def sJ (b a:C Tg):dW (b++a)=dW b++dW a:=by simp[dW]
def Im:∀(d:C Tg)(a:Nat)(b:Tg),d[a]? =some b->(dW d)[a*2]? =some (.string b.1)/\(dW d)[a*2+1]? =some (.string b.2)
 |[],a,b,c=>by simp at c
 |e::d,0,b,c=>by simp at c;subst c;simp[dW]
 |e::d,a+1,b,c=>by have:=Im d a b (by simpa using c);rw[show(a+1)*2=(a*2)+2 from by omega];simpa[dW]using this
def UA {l:O}{k b:Nat}{j:C Tg}(e:∀c d,(dW j)[c]? =some d->l.cell? ⟨k,b+c,.none⟩=some d){f:Nat}{g:Tg}(i:j[f]? =some g):
 ∀c d,[Value.string g.1,Value.string g.2][c]? =some d->l.cell? ⟨k,b+f*2+c,.none⟩=some d:=by
 obtain⟨h0,h⟩:=Im j f g i
 intro c d a
 match c,a with
 |0,a=>simp at a;subst a;exact e _ _ h0
 |1,a=>simp at a;subst a;have:=e _ _ h;rwa [show b+(f*2+1)=b+f*2+1 from by omega]at this
 |c+2,a=>simp at a
def xp (a:Tg):C Nat:=er a.1.size++sb a.1++er a.2.size++sb a.2
def qf (a:Tg):Prop:=a.1.size<=4096/\a.2.size<=4096
def akH (a:Tg)(b:qf a):(xp a).length<=8214:=by have c:=nF a.1.size;have d:=nF a.2.size;unfold qf at b;simp only[xp,cX,nS];omega
def kW:C Tg->C Nat
 |[]=>[]
 |b::a=>xp b++kW a
def akJ (a:C Tg)(c:Tg):kW (a++[c])=kW a++xp c:=by
 induction a with
 |nil=>simp[kW]
 |cons d a b=>simp[kW,b]
def Ur (a:C Tg)(e:∀b∈a,qf b):(kW a).length<=a.length*8214:=by
 induction a with
 |nil=>simp[kW]
 |cons b a d=>have f:=akH b (e b (dQ ..));have g:=d λh c=>e h (dN _ c);simp only[kW,cX,eE];omega
instance auf (a:Tg):Decidable (qf a):=by unfold qf;infer_instance
def mw (a:C Tg)(b:Int)(wt:Nat):C Nat×Int:=if b<0\/1099511627776<b then([],1)else if 8<a.length then([],5)else if∀c∈a,qf c then(er b.toNat++er wt++er a.length++kW a,0)else([],4)
end DF
namespace DF
def VW (f:fR):Prop:=∀(c:M)(a:C Nat)(b:Nat)(d:O),Rd d cW 1 c a.length (bv a)->a.length<=1000000->b<18446744073709551616->Sn f [c,J b] d λg e=>e=[row g 5 1 (a++er b).length (bv (a++er b))]
def xS:VW 49:=by
 intro D e s j m l x;refine dR func49 hS ?_;refine jJ ?_;refine kj ?_;refine N [0,1] ?_;refine jJ ?_;refine kj ?_;refine dw (tX jV) ?_;rintro _ _ z ⟨u,rfl,rfl⟩;refine Y ?_;refine dw (DD jV rfl rfl (λj d=>m.dx d) (F6 e) (by omega) (by omega)) ?_;rintro p _ A rfl;refine N [1,5] ?_;refine jJ (CI ?_);refine dB (λb y t j=>∃(c:Nat)(a:C Nat)(o:M),y=[(1,J c),(5,o)]/\t=[row o 5 1 (e++a).length (bv (e++a))]/\a++enc b c=er s/\c<128^b/\a.length+b=10) 10 ⟨s,[],p,rfl,by simp,rfl,by omega,rfl⟩ ?_;rintro b _ _ B ⟨c,a,o,rfl,rfl,f,g,w⟩;refine jJ (jJ ?_);refine kj ?_;refine Y ?_;refine I (m6 rfl rfl) ?_;refine cZ (λv=>?_) λv=>?_
 .refine iY ?_;refine CI ?_;refine jJ ?_;refine kj ?_;refine cC ?_;refine I (wO rfl underlying23 underlying5 (IH c)) ?_;refine I (KD rfl rfl (ahm c)) ?_;refine gZ jV λk q=>?_;refine dw (DE jV rfl rfl (λj d=>Rd.dM d (l:=0) rfl) (by simp[Value.oneCell']) (by simp;omega) (by simp;omega)) ?_;rintro h _ r rfl;refine Y ?_;refine sM ?_;refine cH [1,5] ?_;refine kj ?_;refine Y ?_;refine I (zA rfl rfl (by omega) (ajt c)) ?_;refine N [1,5] ?_;obtain⟨b,rfl⟩:∃n,b=n+1:=⟨b-1,by cases b with|zero=>simp at g;omega|succ b=>rfl⟩;refine⟨b,by omega,c/128,a++[c % 128+128],h,rfl,?_,?_,?_,?_⟩
  .rw[<-dJ,tR (e++a)];simp[bv,ma]
  .rw[Pg b c (by omega)]at f;simpa using f
  .rw[zf]at g;exact Nat.div_lt_of_lt_mul (by omega)
  .simp;omega
 .refine dI ?_;refine jJ ?_;refine kj ?_;refine cC ?_;refine I (wO rfl underlying23 underlying5 (IH c)) ?_;refine gZ jV λk q=>?_;refine dw (DE jV rfl rfl (λj d=>Rd.dM d (l:=0) rfl) (by simp[Value.oneCell']) (by simp;omega) (by simp;omega)) ?_;rintro h _ r rfl;refine Y ?_;refine sM ?_;refine db results49 ?_;rw[Gq b c (by omega)]at f;rw[<-f,<-dJ,tR (e++a),wk (by omega)];simp[bv,l8,ma]
end DF
namespace DF
def VZ (g:fR):Prop:=∀(c:M)(a:C Tg)(b:Int)(wt:Nat)(e:O),Rd e cW 2 c a.length (dW a)->a.length<=1000000->-9223372036854775808<=b/\b<=9223372036854775807->wt<18446744073709551616->Sn g [.agg #[c,F b,J wt]] e λh f=>∃d,h=.tuple #[d,F (mw a b wt).2]/\f=[row d 5 1 (mw a b wt).1.length (bv (mw a b wt).1)]/\(mw a b wt).1.length<=100000
def aas {a:C Tg}{b:Int}{wt:Nat}(c:¬(b<0\/1099511627776<b))(d:¬8<a.length)(e:∀f∈a,qf f):mw a b wt=(er b.toNat++er wt++er a.length++kW a,0):=by rw[mw,cJ c,cJ d,cM e]
def Kl {a:C Tg}{c:Int}{wt:Nat}:(mw a c wt).1.length<=100000:=by
 unfold mw;split
 .simp
 split
 .simp
 split
 .rename_i d e b;have f:=nF c.toNat;have g:=nF wt;have h:=nF a.length;have i:=Ur a b;simp only[cX];omega
 .simp
def sI {a:Type}(c:C a)(b:Nat)(d:a)(e:c[b]? =some d):c.take (b+1)=c.take b++[d]:=by rw[ia,e];rfl
def aat:VZ 76:=by
 intro sl a o wt n x hn ht y;obtain⟨A,c,rfl,R,K,H⟩:=id x;refine fz.mono (Φ:=λaf B=>∃D,af=.tuple #[D,F (mw a o wt).2]/\B=[row D 5 1 (mw a o wt).1.length (bv (mw a o wt).1)]) ?_ (λaf B ⟨D,E,s⟩=>⟨D,E,s,Kl⟩);refine dS func76 hS ?_;refine jJ ?_;refine kj ?_;refine dK λb1 w1=>?_;refine N [1] ?_;refine jJ ?_;refine jJ ?_;refine kj ?_;refine cC ?_;refine I (gN rfl rfl) ?_;refine Y ?_;refine lj (H:=3) (A:=decide (1099511627776<o)) 3 [(1,_)] ⟨rfl,trivial⟩ rfl rfl rfl rfl rfl (λL=>?_) (λab=>?_)
 .refine Y ?_;refine Y ?_;refine dZ rfl rfl (gA rfl rfl) ?_;exact iy
 refine fP (λr=>?_) λr=>?_
 .refine jJ ?_;refine kj ?_;refine N [2,3] ?_;refine gh 5 1 (EU (eM ?_));simp only[jh,fU]at r;refine⟨_,[_],λv l f=>im results76 rfl v l _,gq _,?_⟩;rw[mw,cM r];exact⟨_,rfl,rfl⟩
 simp only[jh,fU]at r;refine iY ?_;refine jJ ?_;refine jJ ?_;refine kj ?_;refine cQ ?_;refine I (gA rfl rfl) ?_;refine cZ (λs=>?_) λs=>?_
 .refine jJ ?_;refine kj ?_;refine N [2,3] ?_;refine gh 5 1 (EU (eM ?_));refine⟨_,[_],λv l f=>im results76 rfl v l _,gq _,?_⟩;rw[mw,cJ r,cM (by omega)];exact⟨_,rfl,rfl⟩
 refine iY ?_;refine jJ ?_;refine kj ?_;refine cC ?_;refine I (wO (r:=(o.toNat:Int)) rfl underlying3 underlying23 (by rw[yT _ (by omega)];omega)) ?_;refine dd func49 (λn f=>xS vN [] o.toNat n (Rd.nil _ _ _) (by simp) (by omega)) ?_;rintro v2 _ w2 rfl;refine N [1,4] ?_;have l1:=nF o.toNat;have l2:=nF wt;have l3:=nF a.length;refine jJ ?_;refine kj ?_;refine cQ ?_;refine dd func49 (λn f=>xS _ _ wt n (Rd.dM f (l:=0) rfl) (by simp;omega) y) ?_;rintro v3 _ w3 rfl;refine Y ?_;refine IE ?_;refine cH [1,4] ?_;refine jJ ?_;refine kj ?_;refine df ?_;refine dd func49 (λn f=>xS _ _ a.length n (Rd.dM f (l:=0) rfl) (by simp;omega) (by omega)) ?_;rintro P _ w4 rfl;refine Y ?_;refine IE ?_;refine cH [1,4] ?_;refine jJ ?_;refine jJ ?_;refine kj ?_;refine N [4,34,35,36] ?_;refine CI ?_;refine EU ?_;refine dB (λS m B n=>∃(i:Nat)(X:M),m=[(4,X),(34,PA A a.length c),(35,F a.length),(36,F i)]/\B=[row X 5 1 (er o.toNat++er wt++er a.length++kW (a.take i)).length (bv (er o.toNat++er wt++er a.length++kW (a.take i)))]/\S+i=a.length/\∀ad∈a.take i,qf ad) a.length ⟨0,P,rfl,by simp[kW],rfl,by simp⟩ ?_;rintro S _ _ w5 ⟨i,X,rfl,rfl,hk,g⟩;refine jJ ?_;refine kj ?_;refine I (gN rfl rfl) ?_;refine cH [4,34,35,36,37] ?_;refine jJ ?_;refine jc rfl (λG=>?_) (λG=>?_)
 .obtain⟨d,h⟩:∃d,a[i]? =some d:=⟨a[i]'(by omega),dr (by omega)⟩;obtain⟨b,ae,rfl,_,_,p⟩:=H.resolve_left (by omega);have w:=Ur (a.take i) g;rw[eD,o5 (by omega)]at w;refine iY ?_;refine jJ ?_;refine CI ?_;refine jJ ?_;refine kj ?_;refine Y ?_;refine I (kY (b:=[.string d.1,.string d.2]) (hc:=UA p h)) ?_;refine dj [vE,vE] λb5 w6=>?_;refine cO 0 λw7=>?_;refine cH [4,6,34,35,36] ?_;refine jJ ?_;refine jJ ?_;refine kj ?_;refine cQ ?_;refine I (gA rfl rfl) ?_;refine Y ?_;refine lj (H:=4) (A:=decide (4096<(d.2.size:Int))) 4 [(4,_),(6,_),(34,_),(35,_),(36,_)] ⟨rfl,rfl,rfl,rfl,rfl,trivial⟩ rfl rfl rfl rfl rfl (λL=>?_) (λab=>?_)
  .refine Y ?_;refine cC ?_;refine dZ rfl rfl (gA rfl rfl) ?_;exact iy
  refine fP (λt=>?_) λt=>?_
  .refine jJ ?_;refine kj ?_;refine N [2,3] ?_;refine gh 5 1 (EU (EU (eM ?_)));refine⟨_,[_],λv l f=>im results76 rfl v l _,gq _,?_⟩;simp only[jh,fU]at t;rw[mw,cJ r,cJ (by omega),cJ (λu=>by have:=u d (eH h);unfold qf at this;omega)];exact⟨_,rfl,rfl⟩
  simp only[jh,fU]at t;have q:qf d:=by unfold qf;omega
  unfold qf at q;refine iY ?_;refine jJ ?_;have q1:=nF d.1.size;have q2:=nF d.2.size;refine oW [0,1,2,3,4,6,7,1005,1008,9] [_] [_] (cD _) λw8=>?_;refine fw ?_;refine eh rfl (eB func49 (λn f=>xS _ _ d.1.size n (Rd.dM f (l:=1) rfl) (by simp;omega) (by omega))) ?_;rintro v8 _ w9 ⟨_,rfl,rfl⟩;refine⟨_,jQ _ _ _,?_⟩;refine eh rfl (BH jV underlying9 rfl rfl (by simp;omega)) ?_;rintro v9 _ ah rfl;refine⟨_,cD _,?_⟩;refine N [4,6,34,35,36] ?_;refine Vb ?_;refine oW [0,1,2,3,4,6,7,1005,1008,9] [_] [_] (cD _) λai=>?_;refine fw ?_;refine eh rfl (eB func49 (λn f=>xS _ (er o.toNat++er wt++er a.length++kW (a.take i)++er d.1.size++sb d.1) d.2.size n ?_ (by simp[nS];omega) (by omega))) ?_
  .have:=Rd.dM f (l:=1) rfl;rw[Ez,<-tR]at this;have e:∀(T:C Nat)(W:U),T.length+W.size=(T++sb W).length:=λT W=>by simp[nS]
   rw[e]at this;exact this
  rintro ag _ aj ⟨_,rfl,rfl⟩;refine⟨_,jQ _ _ _,?_⟩;refine eh rfl (BH jV underlying9 rfl rfl (by simp[nS];omega)) ?_;rintro z _ ak rfl;refine⟨_,cD _,?_⟩;refine N [4,34,35,36] ?_;refine Vb (IA ?_);refine kj ?_;refine N [4,34,35,36] ?_;refine⟨S-1,by omega,i+1,z,rfl,?_,by omega,?_⟩
  .rw[sI a i d h,akJ,Ez,<-tR];simp only[xp,dJ,cX,nS,ma]
  .rw[sI a i d h];intro ad k;rcases dV.1 k with k|k
   .exact g ad k
   .simp at k;subst k;exact q
 refine dI ?_;refine jJ ?_;refine kj ?_;refine db results76 ?_;have Q:a.take i=a:=gS (by omega);rw[Q]at g|-;rw[aas r (by omega) g];exact⟨_,rfl,rfl⟩
end DF
namespace DF
def JS (b:C Nat)(a:Nat)(c:a<b.length):(bv b)[a*1]? =some (.int .u8 (b[a]:Int)):=by rw[fT];exact Oe b a c
def Bz (a b:U)(c:O):(Instr.build 87 [(0,.string a),(1,.string b)].toArray).run prog c=.ok (PE [.string a,.string b]) c:=by kernel_rfl
def Oa (a:cG Addr)(c b:Nat)(d wt:Int)(e:O):(Instr.build 79 [(0,PA a c b),(1,F d),(2,J wt)].toArray).run prog e=.ok (PE [PA a c b,F d,J wt]) e:=by kernel_rfl
end DF
namespace DF
def nb (a:Nat):Bool:=(((decide (97<=a)&&decide (a<=122))||(decide (48<=a)&&decide (a<=57)))||decide (a=95)||decide (a=46))||decide (a=45)
def ac6 (a:Nat)(r:O):Sn 149 [.int .u8 a] r λq p=>q=.bool (nb a)/\p=[]:=by
 refine dS func149 hS ?_;refine N [0] ?_;refine cQ ?_;refine I (m6 rfl rfl) ?_;refine Y ?_;refine oV (H:=2) (A:=decide (((a:Nat):Int)<=122)) 2 [(0,_)] ⟨rfl,trivial⟩ rfl rfl rfl rfl rfl (λh=>?_) (λo=>?_)
 .refine Y ?_;refine dZ rfl rfl (wP rfl rfl) ?_;exact iy
 refine Y ?_;refine lj (H:=6) (A:=decide ((48:Int)<=((a:Nat):Int))&&decide (((a:Nat):Int)<=57)) 6 [(0,_)] ⟨rfl,trivial⟩ rfl rfl rfl rfl rfl (λd=>?_) (λk=>?_)
 .refine Y ?_;refine dZ rfl rfl (m6 rfl rfl) ?_;refine Y ?_;refine ath (H:=9) (B:=decide (((a:Nat):Int)<=57)) 2 [(0,_),(9,_)] ⟨rfl,rfl,trivial⟩ rfl rfl rfl rfl rfl rfl rfl (λb=>?_) (λi=>?_)
  .refine Y ?_;refine dZ rfl rfl (wP rfl rfl) ?_;exact iy
  exact iy
 refine Y ?_;refine lj (H:=14) (A:=decide (((a:Nat):Int)=95)) 2 [(0,_)] ⟨rfl,trivial⟩ rfl rfl rfl rfl rfl (λe=>?_) (λl=>?_)
 .refine Y ?_;refine dZ rfl rfl (e9 rfl rfl) ?_;exact iy
 refine Y ?_;refine lj (H:=18) (A:=decide (((a:Nat):Int)=46)) 2 [(0,_)] ⟨rfl,trivial⟩ rfl rfl rfl rfl rfl (λf=>?_) (λm=>?_)
 .refine Y ?_;refine dZ rfl rfl (e9 rfl rfl) ?_;exact iy
 refine Y ?_;refine lj (H:=22) (A:=decide (((a:Nat):Int)=45)) 2 [] trivial rfl rfl rfl rfl rfl (λg=>?_) (λn=>?_)
 .refine Y ?_;refine dZ rfl rfl (e9 rfl rfl) ?_;exact iy
 refine db results149 ?_;exact⟨dq Value.bool (CQ.2 (by simp only[nb,jh,iu,fU];omega)),rfl⟩
def iJ (a:Tg):Int:=if a.1.size=0 then 3 else if(sb a.1).all nb then(if 32<a.1.size\/64<a.2.size then 4 else 0)else 3
def EB {a:U}(b:a.size=0):a=⟨#[]⟩:=by
 cases a with
 |mk c=>exact dq ByteArray.mk (Array.eq_empty_of_size_eq_zero b)
def S8 (b:U)(a:Nat)(e:a<b.size):∃d:UInt8,b.data[a]? =some d/\(sb b)[a]? =some d.toNat:=by have c:a<b.data.size:=e;exact⟨b.data[a],by simp,by simp only[sb,eK,vU,yR c,tK]⟩
def akM (c:U)(b:Nat)(d:UInt8)(e:(sb c)[b]? =some d.toNat)(a:((sb c).take b).all nb=true):((sb c).take (b+1)).all nb=nb d.toNat:=by rw[ia,e,List.all_append,a];simp
def WV (c:U)(e:Nat)(a:UInt8)(d:(sb c)[e]? =some a.toNat)(b:nb a.toNat=false):(sb c).all nb=false:=by rw[List.all_eq_false];exact⟨a.toNat,eH d,by simp[b]⟩
def asY (d:Tg)(n:O)(w:d.1.size<=140737488355328):Sn 108 [.agg #[.string d.1,.string d.2]] n λy o=>y=F (iJ d)/\o=[]:=by
 refine dS func108 hS ?_;refine Mf λe r=>?_;refine N [1] ?_;refine df ?_;refine I (oO rfl rfl) ?_;refine cZ (λa=>?_) λa=>?_
 .refine N [2] ?_;refine pF [] (iw _) ?_;refine dP results108 ?_;exact⟨by rw[iJ,cM (by rw[a];rfl)];rfl,rfl⟩
 .refine K4 [1,9,10] ?_;refine dB (λq x o n=>∃i:Nat,x=[(1,Z e),(9,F d.1.size),(10,F i)]/\o=[cF e [.string d.1,.string d.2] 87]/\q+i=d.1.size/\((sb d.1).take i).all nb=true) d.1.size ⟨0,rfl,rfl,rfl,by simp⟩ ?_;rintro q _ _ z ⟨i,rfl,rfl,v,b⟩;refine cC ?_;refine I (gN rfl rfl) ?_;refine cZ (λl=>?_) λl=>?_
  .obtain⟨t,k,h⟩:=S8 d.1 i (by omega);refine cB ?_;refine I (BQ rfl rfl underlying9 rfl k) ?_;refine dd func149 (λn u=>ac6 _ n) ?_;rintro _ _ A ⟨rfl,rfl⟩;refine I (jl rfl rfl) ?_;refine fP (λf=>?_) λf=>?_
   .refine N [2] ?_;refine pF [] (iw _) ?_;refine dP results108 ?_;exact⟨by simp[iJ,WV _ i t h (by simpa using f),l8],rfl⟩
   .refine N [1,9,10] ?_;exact⟨q-1,by omega,i+1,rfl,rfl,by omega,by rw[akM _ i t h b];simpa using f⟩
  .rw[gS (by rw[nS];omega)]at b;refine dI ?_;refine eL ?_;refine I (gA rfl rfl) ?_;refine Y ?_;refine lj (H:=4) (A:=decide (64<(d.2.size:Int))) 4 [] trivial rfl rfl rfl rfl rfl (λm=>?_) (λs=>?_)
   .refine cQ ?_;refine dZ rfl rfl (gA rfl rfl) ?_;exact iy
   refine fP (λg=>?_) λg=>?_
   .refine N [2] ?_;refine pF [] (iw _) ?_;refine dP results108 ?_;have h0:¬d.1.size=0:=λp=>a (EB p);simp only[jh,fU]at g;exact⟨by rw[iJ,cJ h0,cM b,cM (by omega)];rfl,rfl⟩
   .refine N [2] ?_;refine pF [] (iw _) ?_;refine dP results108 ?_;have h0:¬d.1.size=0:=λp=>a (EB p);simp only[jh,fU]at g;exact⟨by rw[iJ,cJ h0,cM b,cJ (by omega)];rfl,rfl⟩
end DF
namespace DF
def Dq:∀a:C UInt8,Op.bytesLess a a=false
 |[]=>rfl
 |b::a=>by simp[Op.bytesLess,Dq a]
def Ds:∀c d e:C UInt8,Op.bytesLess c d=true->Op.bytesLess d e=true->Op.bytesLess c e=true
 |_,[],_,f,_=>by simp[Op.bytesLess]at f
 |_,_::_,[],_,f=>by simp[Op.bytesLess]at f
 |[],_::_,_::_,_,_=>rfl
 |c::g,d::h,e::i,b,a=>by
  simp only[Op.bytesLess,jh,iu,fU,uT]at*;rcases b with b|⟨rfl,b⟩
  .rcases a with a|⟨rfl,a⟩
   .exact .inl (UInt8.lt_trans b a)
   .exact .inl b
  .rcases a with a|⟨rfl,a⟩
   .exact .inl a
   .exact .inr ⟨rfl,Ds g h i b a⟩
def Dr:∀a b:C UInt8,Op.bytesLess a b=false->Op.bytesLess b a=false->a=b
 |[],[],_,_=>rfl
 |[],_::_,e,_=>by simp[Op.bytesLess]at e
 |_::_,[],_,e=>by simp[Op.bytesLess]at e
 |a::g,b::h,c,d=>by simp only[Op.bytesLess,I1,I0,Bg,Jt]at*;have f:a=b:=FC (xK.1 d.1) (xK.1 c.1);subst f;rw[Dr g h (c.2.resolve_left (by simp)) (d.2.resolve_left (by simp))]
def Ox:∀a b:C UInt8,decide (Lib.compareBytes a b<0)=Op.bytesLess a b
 |[],[]=>rfl
 |[],_::_=>rfl
 |_::_,[]=>rfl
 |a::f,b::g=>by
  unfold Lib.compareBytes Op.bytesLess;by_cases d:a<b
  .simp[d]
  .by_cases c:b<a
   .have:a≠b:=λe=>by subst e;exact d c
    simp[d,c,this]
   .have:a=b:=FC (xK.1 c) (xK.1 d);subst this;simp[Ox f g]
def eI (a b:U):Bool:=Op.bytesLess a.data.toList b.data.toList
def yr (a:U):eI a a=false:=Dq _
def sC {c d e:U}(a:eI c d=true)(b:eI d e=true):eI c e=true:=Ds _ _ _ a b
def uk {a b:U}(c:eI a b=false)(d:eI b a=false):a=b:=by have:=Dr _ _ c d;cases a;cases b;exact dq ByteArray.mk (lS this)
def pj {a b:U}(c:eI a b=true):a≠b:=λd=>by subst d;rw[yr]at c;cases c
def zN {a b:U}(d:eI a b=true):eI b a=false:=by
 cases c:eI b a with
 |false=>rfl
 |true=>have:=sC d c;rw[yr]at this;cases this
def Hu {c d e:U}(g:eI d c=false)(a:eI e d=false):eI e c=false:=by
 cases f:eI e c with
 |false=>rfl
 |true=>
  cases b:eI c d with
  |true=>rw[sC f b]at a;cases a
  |false=>rw[uk b g]at f;rw[f]at a;cases a
def qW (c:C Tg):Prop:=c.Pairwise λa b=>eI a.1 b.1=true
def Wk (c:C Tg):Prop:=c.Pairwise λa b=>eI b.1 a.1=false
def tq (a:C Tg):C U:=a.map Prod.fst
def Mx:∀{c d:C Tg},qW c->qW d->c.Perm d->c=d
 |[],d,_,_,b=>by rw[List.nil_perm.1 b]
 |l::c,[],_,_,b=>by have:=b.length_eq;simp at this
 |l::c,m::d,j,k,b=>by
  obtain⟨e,f⟩:=jD.1 j;obtain⟨g,h⟩:=jD.1 k;have n:l=m:=by
   rcases dh.1 (b.mem_iff.1 (dQ ..))with i|i
   .exact i
   .rcases dh.1 (b.mem_iff.2 (dQ ..))with a|a
    .exact a.symm
    .have:=zN (g l i);rw[e m a]at this;cases this
  subst n;rw[Mx f h (List.Perm.cons_inv b)]
def ajX {b:C Tg}(a:qW b):(tq b).Nodup:=by unfold tq List.Nodup;rw[oE];exact a.imp λa=>pj a
def ajY {f:C Tg}{d g:Tg}(e:qW (f++[d]))(c:eI d.1 g.1=true):qW (f++[d]++[g]):=by
 unfold qW at*;rw[mU];refine⟨e,r4 _ _,λh a i b=>?_⟩;rw[fI]at b;subst b;rcases dV.1 a with a|a
 .exact sC ((mU.1 e).2.2 h a d (fI.2 rfl)) c
 .rw[fI]at a;subst a;exact c
def fW (a:Tg):C Tg->C Tg
 |[]=>[a]
 |b::c=>if eI b.1 a.1 then b::fW a c else a::b::c
def gy (a:C Tg):C Tg:=a.foldl (λb c=>fW c b) []
def ug (a:C Tg)(b:Tg):gy (a++[b])=fW b (gy a):=by simp[gy]
def Lj (b:Tg):∀a,(fW b a).Perm (b::a)
 |[]=>cD _
 |c::a=>by
  unfold fW;split
  .exact((Lj b a).cons c).trans (List.Perm.swap ..)
  .exact cD _
def pg (b:C Tg):(gy b).Perm b:=by
 have:∀a,(gy (b.take a)).Perm (b.take a):=by
  intro a;induction a with
  |zero=>simp[gy]
  |succ a d=>
   cases e:b[a]?with
   |none=>rwa [ia,e,Option.toList_none,eN]
   |some c=>rw[sI b a c e,ug];exact(Lj c _).trans ((d.cons c).trans (pK c _).symm)
 have:=this b.length
 rwa [gS (dT _)]at this
def Q5 (d:Tg):∀{i:C Tg},qW i->(∀e∈i,e.1≠d.1)->qW (fW d i)
 |[],_,_=>r4 _ _
 |e::i,k,g=>by
  obtain⟨f,l⟩:=jD.1 k;unfold fW;split
  .rename_i c;refine jD.2 ⟨λj a=>?_,Q5 d l λj a=>g j (dN _ a)⟩;rcases dh.1 ((Lj d i).mem_iff.1 a)with rfl|a
   .exact c
   .exact f j a
  .rename_i c;have h:eI e.1 d.1=false:=by simpa using c
   have b:eI d.1 e.1=true:=by
    cases k:eI d.1 e.1 with
    |true=>rfl
    |false=>exact absurd (uk h k) (g e (dQ ..))
   refine jD.2 ⟨λj a=>?_,k⟩;rcases dh.1 a with rfl|a
   .exact b
   .exact sC b (f j a)
def GZ (a:C Tg)(k:(tq a).Nodup):qW (gy a):=by
 have:∀c,qW (gy (a.take c)):=by
  intro c;induction c with
  |zero=>exact List.Pairwise.nil
  |succ c i=>
   cases d:a[c]?with
   |none=>rwa [ia,d,Option.toList_none,eN]
   |some g=>rw[sI a c g d,ug];refine Q5 g i λl h j=>?_;have f:=(pg _).mem_iff.1 h;have e:(a.take (c+1)).Sublist a:=wg _ _;rw[sI a c g d]at e;have b:=(e.map Prod.fst).nodup k;rw[dE,kR]at b;exact b.2.2 l.1 (gu f) g.1 (by simp) j
 have:=this a.length
 rwa [gS (dT _)]at this
def TQ {a out:C Tg}(d:qW out)(c:out.Perm a):(tq a).Nodup/\out=gy a:=by have b:(tq a).Nodup:=(c.map Prod.fst).nodup_iff.1 (ajX d);exact⟨b,Mx d (GZ a b) (c.trans (pg a).symm)⟩
def lz (a:C Tg):Int:=
 if a.length=0\/8<a.length then 5 else
 match a.find? λb=>iJ b≠0 with
 |some b=>iJ b
 |none=>if(tq a).Nodup then 0 else 5
def sF (a:C Tg):C Tg:=if lz a=0 then gy a else[]
def ajN {a:C Tg}(h0:¬(a.length=0\/8<a.length))(d:Nat)(b:Tg)(f:a[d]? =some b)(j:∀l∈a.take d,iJ l=0)(i:iJ b≠0):lz a=iJ b:=by
 have:a.find? (λb=>iJ b≠0)=some b:=by
  have h:a=a.take d++b::a.drop (d+1):=by obtain⟨c,e⟩:=da.1 f;rw[<-e,<-jP c,gJ]
  rw[h,Fg];have g:(a.take d).find? (λb=>iJ b≠0)=none:=by rw[wa];intro l k;simp[j l k]
  rw[g];simp[i]
 rw[lz,cJ h0,this]
def Mt {a:C Tg}(h0:¬(a.length=0\/8<a.length))(b:∀d∈a,iJ d=0):lz a=if(tq a).Nodup then 0 else 5:=by
 have:a.find? (λe=>iJ e≠0)=none:=by rw[wa];intro d c;simp[b d c]
 rw[lz,cJ h0,this]
end DF
namespace DF
def xX (a b:U):Int:=Lib.compareBytes a.data.toList b.data.toList
def zr (a b:U):decide (xX a b<0)=eI a b:=Ox _ _
def Y5 (a b:U)(c:O):Sn 152 [.string a,.string b] c λe d=>e=F (xX a b)/\d=[]:=by refine dR func152 hS ?_;refine cB ?_;refine I (PM rfl func200 (by kernel_rfl) rfl (by kernel_rfl) (by kernel_rfl) (λc=>Lib.run_compareString a b c)) ?_;refine db results152 ?_;exact⟨rfl,rfl⟩
def Gc (a b:U)(c:O):Sn 112 [.string a,.string b] c λf d=>f=F (xX a b)/\d=[]:=by refine dR func112 hS ?_;refine Ku func152 (λc e=>Y5 a b c) ?_;rintro _ _ g ⟨rfl,rfl⟩;refine db results112 ?_;exact⟨rfl,rfl⟩
def Ly (a b:Tg)(e:O):Sn 111 [.agg #[.string a.1,.string a.2],.agg #[.string b.1,.string b.2]] e λj h=>j=F (xX a.1 b.1)/\h=[]:=by refine dR func111 hS ?_;refine Mf λc f=>?_;refine dK λd g=>?_;refine Ku func112 (λe i=>Gc a.1 b.1 e) ?_;rintro _ _ k ⟨rfl,rfl⟩;refine N [4] ?_;refine pF [] (iw _) ?_;refine dP results111 ?_;exact⟨rfl,rfl⟩
def F9 (o:M)(a:C Tg)(j:O)(b:Rd j cW 2 o a.length (dW a))(r:a.length<=1000000)(h0:0<a.length):Sn 109 [o] j λs p=>p=[row s 87 2 a.length (dW a)]:=by obtain⟨t,v,rfl,h,f,e⟩:=id b;obtain⟨u,n,rfl,q,m,c⟩:=e.resolve_left (by omega);refine dS func109 hS ?_;refine cB ?_;refine I (vh rfl rfl underlying52) ?_;refine cB ?_;refine dw (tX nf) ?_;rintro _ _ k ⟨d,rfl,rfl⟩;refine Y ?_;refine dw (DD nf rfl rfl (λj g=>b.dx g) (UB a) (by omega) (by omega)) ?_;rintro i _ l rfl;refine db results109 ?_;simp[l8]
set_option maxRecDepth 100000 in
def Lx (d:Nat)(j:O)(c:d<256):Sn 199 [J d] j λi f=>∃h:Int,i=F h/\f=[]:=by refine dS func199 hS ?_;refine N [0,2] ?_;refine cL ?_;refine I (m6 rfl rfl) ?_;refine cH [0,2,4] ?_;refine jc rfl (λa=>absurd a (by omega)) (λ_=>?_);refine df ?_;refine I (m6 rfl rfl) ?_;refine cH [0,2,8] ?_;refine jc rfl (λa=>absurd a (by omega)) (λ_=>?_);refine df ?_;refine I (m6 rfl rfl) ?_;refine cH [0,2,14] ?_;refine jc rfl (λa=>absurd a (by omega)) (λ_=>?_);refine df ?_;refine I (BO rfl underlying23 underlying5 (by omega)) ?_;refine I (BQ rfl rfl underlying9 rfl (yR (show d<256 from c))) ?_;generalize b:UInt8.toNat _=g;have e:g<256:=b▸UInt8.toNat_lt _;clear b;refine Y ?_;refine I (BM rfl rfl) ?_;refine db results199 ?_;exact⟨_,rfl,rfl⟩
def Ce (b:Nat)(c:O)(a:b<256):Sn 151 [J b] c λg e=>∃d:Int,g=F d/\e=[]:=by refine dS func151 hS ?_;refine Ku func199 (λc f=>Lx b c a) ?_;rintro _ _ h ⟨d,rfl,rfl⟩;refine db results151 ?_;exact⟨_,rfl,rfl⟩
def zq:M:=.func (.func 111) #[] #[]
def CD (a:Tg)(b:C Tg):dW (a::b)=.string a.1::.string a.2::dW b:=rfl
def akV (a c:C Tg)(d:Tg){b:Nat}(e:a.length=b):(dW (a++d::c)).take (0+b*2)=dW a:=by rw[sJ,C7 (by rw[rR];omega)]
def akS (a b:C Tg)(d:Tg){c:Nat}(e:a.length=c):(dW (a++d::b)).drop (0+c*2+2)=dW b:=by rw[sJ,<-xy,AQ (by rw[rR];omega)];rfl
def CC (b d:C Tg)(a:Tg){c:Nat}(e:b.length=c):((dW (b++a::d)).drop (0+c*2)).take 2=[.string a.1,.string a.2]:=by rw[sJ,AQ (by rw[rR];omega)];rfl
def ML (a b:C Tg)(c e:Tg){d:Nat}(f:a.length=d):(dW (a++c::b)).take (0+d*2)++[.string e.1,.string e.2]++(dW (a++c::b)).drop (0+d*2+2)=dW (a++e::b):=by rw[akV a b c f,akS a b c f,sJ,CD];simp
def atf {h i:C Tg}{j:Tg}(d:Wk (h++i))(e:∀c∈h,eI j.1 c.1=false)(f:∀c∈i,eI j.1 c.1=true):Wk (h++j::i):=by
 unfold Wk at*;rw[mU]at d|-;refine⟨d.1,jD.2 ⟨λc g=>zN (f c g),d.2.1⟩,λk b l a=>?_⟩;rcases dh.1 a with rfl|a
 .exact e k b
 .exact d.2.2 k b l a
def Ll (r cap:Nat)(b:C Tg)(B:O)(h0:0<b.length)(hn:b.length<=1000000)(hs:Hl B (row (vS r b.length cap) 87 2 b.length (dW b))):Sr 190 [vS r b.length cap,F 0,F b.length,zq] B (row (vS r b.length cap) 87 2 b.length (dW b)) λ_ w=>∃t,w=[row (vS r b.length cap) 87 2 b.length (dW t)]/\t.Perm b/\Wk t:=by
 refine sP func190 hs ?_;refine K4 [0,1,2,3,8] ?_;refine dB (λk T w B=>∃(g:Nat)(v:C Tg),T=[(0,vS r b.length cap),(1,F 0),(2,F b.length),(3,zq),(8,F g)]/\w=[row (vS r b.length cap) 87 2 b.length (dW (v++b.drop g))]/\v.length=g/\1<=g/\k+g=b.length/\v.Perm (b.take g)/\Wk v) (b.length-1) ⟨1,b.take 1,rfl,by rw[gJ],by rw[eD];omega,by omega,by omega,cD _,by obtain⟨ad,t,rfl⟩:=yZ h0;exact r4 _ _⟩ ?_;rintro k _ _ w1 ⟨g,v,rfl,rfl,K,ae,hk,h,i⟩;refine df ?_;refine I (gN rfl rfl) ?_;refine cZ (λD=>?_) λD=>?_
 .obtain⟨e,R⟩:∃e,b[g]? =some e:=⟨b[g]'(by omega),dr (by omega)⟩;have s:b.drop g=e::b.drop (g+1):=by obtain⟨H,he⟩:=da.1 R;rw[<-he,jP H]
  refine K4 [0,1,2,3,8,9] ?_;refine dB (λj T w B=>∃(n o:C Tg),T=[(0,vS r b.length cap),(1,F 0),(2,F b.length),(3,zq),(8,F g),(9,F j)]/\w=[row (vS r b.length cap) 87 2 b.length (dW (n++e::(o++b.drop (g+1))))]/\n.length=j/\n++o=v/\∀ad∈o,eI e.1 ad.1=true) g ⟨v,[],rfl,by rw[s];simp,K,by simp,by simp⟩ ?_;rintro j _ _ w2 ⟨n,o,rfl,rfl,l,f,Q⟩;refine cC ?_;refine eS (λT w w'=>∃X:Bool,T=[(0,vS r b.length cap),(1,F 0),(2,F b.length),(3,zq),(8,F g),(9,F j),(34,.bool X)]/\w=[row (vS r b.length cap) 87 2 b.length (dW (n++e::(o++b.drop (g+1))))]/\(X=true->∃c d,n=c++[d]/\eI e.1 d.1=true)/\(X=false->∀d∈n,eI e.1 d.1=false)) ?_ ?_
  .by_cases u:(0:Int)<(j:Int)
   .obtain⟨c,d,rfl⟩:∃c d,n=c++[d]:=⟨n.dropLast,n.getLast (by rintro rfl;simp at l;omega),(CT _).symm⟩;have L:c.length+1=j:=by simpa using l
    have q:j<b.length:=by have:=dq List.length f;simp at this;omega
    refine kB 17 [14] λW=>?_;refine cC ?_;refine cN rfl (cU (gA rfl rfl) (dq Value.bool (gb u))) ?_;refine cL ?_;refine fX rfl rfl rfl (cR (ab:=j) (ad:=q)) ?_;refine fX rfl rfl rfl (je 0 (b:=[.string e.1,.string e.2]) (hv:=CC _ _ _ l)) ?_;refine cQ ?_;refine fX rfl rfl rfl (cR (ab:=c.length) (hi:=by omega)) ?_;refine fX rfl rfl rfl (je 0 (b:=[.string d.1,.string d.2]) (hv:=by rw[dJ,nJ];exact CC c _ d rfl)) ?_;refine Og rfl rfl rfl (q7 [] _ rfl rfl func111 (by kernel_rfl) (cD _) (λB hh _=>by rw[so];exact Ly e d B)) ?_;rintro _ _ w4 ⟨_,rfl,rfl,rfl⟩;refine⟨_,cD _,?_⟩;refine fX rfl rfl rfl (gN rfl rfl) ?_;refine cN rfl (mC rfl rfl rfl) ?_;refine iK [0,1,2,3,8,9,34] ?_;rw[zr];refine⟨eI e.1 d.1,rfl,rfl,λA=>⟨c,d,rfl,A⟩,λA z m=>?_⟩;rcases dV.1 m with m|m
    .rw[<-f]at i;have:=(mU.1 (mU.1 i).1).2.2 z m d (fI.2 rfl);exact Hu this A
    .rw[fI]at m;subst m;exact A
   .refine kB 17 [14] λW=>?_;refine cC ?_;refine cN rfl (cU (gA rfl rfl) (dq Value.bool (fL u))) ?_;refine fh ?_;refine cC ?_;refine Am rfl rfl rfl ?_;refine Y ?_;refine cN rfl (mC rfl rfl rfl) ?_;refine iK [0,1,2,3,8,9,34] ?_;refine⟨false,rfl,rfl,λA=>(by cases A),λ_ d hy=>?_⟩;have:n=[]:=ll (by omega);subst this;cases hy
  rintro _ _ w5 ⟨X,rfl,rfl,G,E⟩;refine kL rfl (λp=>?_) (λp=>?_)
  .obtain⟨c,d,rfl,S⟩:=G p;have L:c.length+1=j:=by simpa using l
   have q:j<b.length:=by have:=dq List.length f;simp at this;omega
   rw[dJ,nJ];refine cQ ?_;refine mm 18 [15,17] [(_,some 15)] [] (cD _) λaf=>?_;refine iq ?_;refine ew rfl (cR (ab:=c.length) (hi:=by omega)) ?_;refine ew rfl (je 0 (b:=[.string d.1,.string d.2]) (hv:=CC c _ d rfl)) ?_;refine cC ?_;refine ew rfl (cR (ab:=j)) ?_;refine ew rfl (je 0 (b:=[.string e.1,.string e.2]) (hv:=by have:=CC (c++[d]) (o++b.drop (g+1)) e l;simpa using this)) ?_;refine ew rfl (cR (ab:=j)) ?_;refine jC rfl (fK 0 (q:=[.string d.1,.string d.2]) (y:=dW (c++d::d::(o++b.drop (g+1)))) (hl:=by rw[rR];simp;omega) (ae:=by have:=ML (c++[d]) (o++b.drop (g+1)) e d l;simpa using this)) ?_;rintro _ _ P rfl;refine⟨_,cD _,?_⟩;refine ew rfl (cR (ab:=c.length) (hi:=by omega)) ?_;refine jC rfl (fK 0 (q:=[.string e.1,.string e.2]) (y:=dW (c++e::d::(o++b.drop (g+1)))) (hl:=by rw[rR];simp;omega) (ae:=ML c _ d e rfl)) ?_;rintro _ _ ab rfl;refine⟨_,cD _,?_⟩;refine ir [0,1,2,3,8,9] ?_;refine⟨j-1,by omega,c,d::o,?_,rfl,by omega,by rw[<-f];simp,?_⟩
   .rw[show((j-1:Nat):Int)=(j:Int)-1 by omega]
   .intro ad y;rcases dh.1 y with rfl|y
    .exact S
    .exact Q ad y
  .have x:=E (by simpa using p);refine dI ?_;refine N [0,1,2,3,8] ?_;refine⟨k-1,by omega,g+1,n++e::o,rfl,by simp,?_,by omega,by omega,?_,?_⟩
   .have:=dq List.length f;simp at this|-;omega
   .rw[sI b g e R];refine List.Perm.trans ?_ ((h.append_right [e]));rw[<-f,dJ];exact vX n (pK e o).symm
   .rw[<-f]at i;exact atf i x Q
 .rw[gS (by omega)]at h;rw[qn (by omega),eN];refine dI ?_;refine⟨_,_,λa ha hh=>im (p:=[]) results190 rfl a ha _,gq _,?_⟩;exact⟨v,rfl,h,i⟩
end DF
namespace DF
def rd:C Nat->Nat->Nat->Nat×Nat×Int
 |[],a,_=>if a<10 then(0,0,2)else(0,0,3)
 |c::d,a,b=>if 10<=a then(0,0,3)else if a=9/\1<c % 128 then(0,0,3)else if 128<=c then rd d (a+1) (b+c % 128*128^a)else if c=0/\0<a then(0,0,3)else(b+c % 128*128^a,a+1,0)
def gC (a:C Nat):Nat×Nat×Int:=rd a 0 0
def SG (b:C Nat)(a:Nat):rd b 10 a=(0,0,3):=by cases b<;>simp[rd]
def WZ (a:Nat)(d:a<256):bits .andNot .u8 (a:Int) 128=((a % 128:Nat):Int):=by
 have b:∀c:Fin 256,bits .andNot .u8 (c.val:Int) 128=((c.val % 128:Nat):Int):=by decide+kernel
 exact b ⟨a,d⟩
def asL (a c b:Nat)(d:a<128^b)(j:a+c*128^b<18446744073709551616):bits .or .u64 (a:Int) ((c*128^b:Nat):Int)=((a+c*128^b:Nat):Int):=by
 have i:bits .or .u64 (a:Int) ((c*128^b:Nat):Int)=IntKind.u64.wrap ((BitVec.ofInt 64 (a:Int)|||BitVec.ofInt 64 ((c*128^b:Nat):Int)).toNat:Int):=rfl;have e:(BitVec.ofInt 64 (a:Int)).toNat=a:=by rw[BitVec.toNat_ofInt];omega
 have f:(BitVec.ofInt 64 ((c*128^b:Nat):Int)).toNat=c*128^b:=by rw[BitVec.toNat_ofInt];omega
 have g:a|||c*128^b=a+c*128^b:=by
  have h:(128:Nat)^b=2^(7*b):=by rw[Nat.pow_mul]
  rw[h]at d|-;have:=Nat.shiftLeft_add_eq_or_of_lt d c;rw[Nat.shiftLeft_eq]at this;rw[Nat.or_comm,<-this,wi]
 rw[i,BitVec.toNat_or,e,f,g,I4];omega
def ajq (b a:Nat)(e:a<=9)(f:b*128^a<18446744073709551616):IntKind.u64.wrap ((b:Int)*2^min (Int.toNat (7*(a:Int))) IntKind.u64.bits)=((b*128^a:Nat):Int):=by
 have d:min (Int.toNat (7*(a:Int))) IntKind.u64.bits=7*a:=by rw[show(7*(a:Int)).toNat=7*a by omega];exact o5 (by show 7*a<=64;omega)
 have c:(128:Nat)^a=2^(7*a):=by rw[Nat.pow_mul]
 rw[d,I4,show((b:Int)*2^(7*a))=((b*2^(7*a):Nat):Int) by push_cast;rfl,<-c];omega
def Wh (f:fR):Prop:=∀(b:M)(a:C Nat)(c:O),Rd c cW 1 b a.length (bv a)->a.length<=140737488355328->(∀e∈a,e<256)->Sn f [b] c λg d=>g=.tuple #[J ((gC a).1:Int),F ((gC a).2.1:Int),F (gC a).2.2]/\d=[]
def L0 (a b:Nat)(c:a<=b):128^a<=128^b:=Nat.pow_le_pow_right (by omega) c
def Ka {a:C Nat}{b:Nat}(c:b<a.length):a.drop b=a[b]::a.drop (b+1):=jP c
def Cs:Wh 78:=by
 intro v c w E hn z;obtain⟨S,X,rfl,D,A,y⟩:=id E;refine dS func78 hS ?_;refine K4 [0,2,5] ?_;refine dB (λG m T w=>∃(b e:Nat),m=[(0,PA S c.length X),(2,J e),(5,F b)]/\T=[]/\G+b=c.length/\b<=10/\(b<=9->e<128^b)/\gC c=rd (c.drop b) b e) c.length ⟨0,0,rfl,rfl,by omega,by omega,λ_=>by simp,rfl⟩ ?_;rintro G _ _ w1 ⟨b,e,rfl,rfl,ad,B,l,a⟩;refine eL ?_;refine I (gN rfl rfl) ?_;refine Y ?_;refine oV (H:=4) (A:=decide ((b:Int)<10)) 2 [(0,_),(2,_),(5,_)] ⟨rfl,rfl,rfl,trivial⟩ rfl rfl rfl rfl rfl (λt=>?_) (λH=>?_)
 .refine Y ?_;refine dZ rfl rfl (gN rfl rfl) ?_;exact iy
 refine fP (λg=>?_) λg=>?_
 .simp only[iu,fU]at g;have d:b<c.length:=by omega
  have k:=z c[b] (List.getElem_mem d);have p:=l (by omega);obtain⟨W,R,rfl,_,_,f⟩:=y.resolve_left (by omega);rw[Ka d,rd,cJ (by omega)]at a;refine fw ?_;refine I (cR (ab:=b) (ad:=d)) ?_;refine I (jd (hc:=f (b*1) _ (JS c b d))) ?_;refine I (aaN rfl rfl (WZ _ k)) ?_;refine N [0,2,5,6] ?_;refine cL ?_;refine I (e9 rfl rfl) ?_;refine Y ?_;refine oV (H:=2) (A:=decide ((1:Int)<((c[b] % 128:Nat):Int))) 2 [(0,_),(2,_),(5,_),(6,_)] ⟨rfl,rfl,rfl,rfl,trivial⟩ rfl rfl rfl rfl rfl (λu=>?_) (λK=>?_)
  .refine Y ?_;refine dZ rfl rfl (gA rfl rfl) ?_;exact iy
  refine fP (λh=>?_) λh=>?_
  .simp only[iu,fU]at h;rw[cM (by omega)]at a;refine db results78 ?_;exact⟨by rw[a];rfl,rfl⟩
  .simp only[iu,fU]at h;have ab:c[b] % 128*128^b<9223372036854775809:=by
    rcases np b 9 with o|o
    .have n:c[b] % 128*128^b<=127*128^b:=j7 _ (by omega);have P:=L0 b 8 (by omega);omega
    .have:b=9:=by omega
     subst this;have n:c[9] % 128*128^9<=1*128^9:=j7 _ (by omega);omega
   have Q:=L0 b 9 (by omega);rw[cJ (by omega)]at a;refine fw ?_;refine I (DY (r:=((c[b] % 128*128^b:Nat):Int)) rfl rfl (by omega) (ajq _ b (by omega) (by omega))) ?_;refine I (KD rfl rfl (asL e (c[b] % 128) b p (by omega))) ?_;refine N [0,2,5] ?_;refine df ?_;refine I (cR (ab:=b) (ad:=d)) ?_;refine I (jd (hc:=f (b*1) _ (JS c b d))) ?_;refine I (m6 rfl rfl) ?_;refine cZ (λq=>?_) λq=>?_
   .rw[cM (by omega)]at a;refine dI ?_;refine N [0,2,5] ?_;refine⟨G-1,by omega,b+1,e+c[b] % 128*128^b,rfl,rfl,by omega,by omega,λo=>?_,a⟩;have n:c[b] % 128*128^b<=127*128^b:=j7 _ (by omega);rw[zf];omega
   .rw[cJ (by omega)]at a;refine eL ?_;refine I (cR (ab:=b) (ad:=d)) ?_;refine I (jd (hc:=f (b*1) _ (JS c b d))) ?_;refine I (e9 rfl rfl) ?_;refine Y ?_;refine oV (H:=5) (A:=decide ((0:Int)<(b:Int))) 2 [(2,_),(5,_)] ⟨rfl,rfl,trivial⟩ rfl rfl rfl rfl rfl (λx=>?_) (λL=>?_)
    .refine Y ?_;refine dZ rfl rfl (gA rfl rfl) ?_;exact iy
    refine fP (λi=>?_) λi=>?_
    .simp only[iu,fU]at i;rw[cM (by omega)]at a;refine db results78 ?_;exact⟨by rw[a];rfl,rfl⟩
    .simp only[iu,fU]at i;rw[cJ (by omega)]at a;refine db results78 ?_;exact⟨by rw[a];rfl,rfl⟩
 .simp only[iu,fU]at g;refine dI ?_;refine df ?_;refine I (gN rfl rfl) ?_;refine cZ (λs=>?_) λs=>?_
  .refine db results78 ?_;exact⟨by rw[a,qn (by omega),rd,cM (by omega)];rfl,rfl⟩
  .refine db results78 ?_;have:b=10:=by omega
   subst this;exact⟨by rw[a,SG];rfl,rfl⟩
end DF
namespace DF
def LZ (c cap:Nat)(a:C Tg)(d:Int)(f:O)(h0:0<a.length)(m:a.length<=12)(i:Hl f (row (vS c a.length cap) 87 2 a.length (dW a))):Sr 150 [vS c a.length cap,F 0,F a.length,F d,zq] f (row (vS c a.length cap) 87 2 a.length (dW a)) λ_ g=>∃b,g=[row (vS c a.length cap) 87 2 a.length (dW b)]/\b.Perm a/\Wk b:=by refine Aq func150 i ?_;refine K4 [0,1,2,3,4,10,11] ?_;refine dB (λn o g f=>o=[(0,vS c a.length cap),(1,F 0),(2,F a.length),(3,F d),(4,zq),(10,.bool true),(11,.bool true)]/\g=[row (vS c a.length cap) 87 2 a.length (dW a)]) 0 ⟨rfl,rfl⟩ ?_;rintro n _ _ p ⟨rfl,rfl⟩;refine N [0,1,2,3,4,10,11,12] ?_;refine cL ?_;refine I (wP rfl rfl) ?_;refine cH [0,1,2,3,4,10,11,12,25] ?_;refine jc rfl (λ_=>?_) (λk=>absurd k (by omega));refine eL ?_;refine cY (row (vS c a.length cap) 87 2 a.length (dW a)) [] func190 (cD _) (λf l e=>Ll c cap a f h0 (by omega) e) ?_;rintro _ _ q ⟨b,rfl,h,j⟩;refine db results150 ?_;exact⟨b,rfl,h,j⟩
def ajO (d cap:Nat)(a:C Tg)(c:O)(h0:0<a.length)(i:a.length<=12)(k:Hl c (row (vS d a.length cap) 87 2 a.length (dW a))):Sr 110 [vS d a.length cap,zq] c (row (vS d a.length cap) 87 2 a.length (dW a)) λ_ m=>∃b,m=[row (vS d a.length cap) 87 2 a.length (dW b)]/\b.Perm a/\Wk b:=by refine dR func110 k ?_;refine cB ?_;refine dd func151 (λc e=>Ce a.length c (by omega)) ?_;rintro _ _ o ⟨g,rfl,rfl⟩;refine Pw 0 func150 (λc e f=>LZ d cap a g c h0 i f) ?_;rintro _ _ p ⟨b,rfl,j,l⟩;refine cH [] ?_;refine⟨_,_,λn h e=>im (p:=[]) results110 rfl n h _,gq _,?_⟩;exact⟨b,rfl,j,l⟩
def Wj (f:fR):Prop:=∀(c:M)(a:C Tg)(d:O),Rd d cW 2 c a.length (dW a)->a.length<=140737488355328->(∀h∈a,h.1.size<=140737488355328)->Sn f [c] d λg e=>∃b,g=.tuple #[b,F (lz a)]/\e=[row b 87 2 (sF a).length (dW (sF a))]
def ajQ {a:C Tg}(b:lz a≠0):sF a=[]:=by rw[sF,cJ b]
def Mw {b:C Tg}{c:Int}(a:lz b=c)(h0:c≠0):∃d:M,(Value.tuple #[vN,F c])=.tuple #[d,F (lz b)]/\[row vN 87 2 0 []]=[row d 87 2 (sF b).length (dW (sF b))]:=by rw[ajQ (by rw[a];exact h0),a];exact⟨_,rfl,rfl⟩
def akN {d:C Tg}{c:Nat}{g:Tg}(e:d[c]? =some g)(f:∀b∈d.take c,iJ b=0)(h:iJ g=0):∀b∈d.take (c+1),iJ b=0:=by
 rw[sI d c g e];intro b a;rcases dV.1 a with a|a
 .exact f b a
 .rw[fI]at a;subst a;exact h
def H6:Wj 65:=by
 intro v a x Q hn S;obtain⟨A,c,rfl,ah,af,ae⟩:=id Q;refine dS func65 hS ?_;refine N [0] ?_;refine df ?_;refine I (e9 rfl rfl) ?_;refine Y ?_;refine lj (H:=3) (A:=decide (8<(a.length:Int))) 3 [(0,_)] ⟨rfl,trivial⟩ rfl rfl rfl rfl rfl (λX=>?_) (λaj=>?_)
 .refine cC ?_;refine dZ rfl rfl (gA rfl rfl) ?_;exact iy
 refine fP (λk=>?_) λk=>?_
 .simp only[jh,fU]at k;refine gh 87 2 ?_;refine db results65 ?_;exact Mw (by rw[lz,cM (by omega)]) (by omega)
 .simp only[jh,fU]at k;have o:¬(a.length=0\/8<a.length):=by omega
  refine K4 [0,17,18,19] ?_;refine dB (λD m P x=>∃f:Nat,m=[(0,PA A a.length c),(17,PA A a.length c),(18,F a.length),(19,F f)]/\P=[]/\D+f=a.length/\∀E∈a.take f,iJ E=0) a.length ⟨0,rfl,rfl,rfl,by simp⟩ ?_;rintro D _ _ w1 ⟨f,rfl,rfl,ag,p⟩;refine cC ?_;refine I (gN rfl rfl) ?_;refine cZ (λG=>?_) λG=>?_
  .obtain⟨r,t⟩:∃r,a[f]? =some r:=⟨a[f]'(by omega),dr (by omega)⟩;obtain⟨b,an,rfl,_,_,s⟩:=ae.resolve_left (by omega);refine eL ?_;refine I (kY (b:=[.string r.1,.string r.2]) (hc:=UA s t)) ?_;refine dj [vE,vE] λab ak=>?_;refine cO 0 λal=>?_;refine K3 0 (f:=[_,_]) ?_;refine dd func108 (λx j=>asY r x (S r (eH t))) ?_;rintro _ _ w2 ⟨rfl,rfl⟩;refine N [0,6,17,18,19] ?_;refine cQ ?_;refine I (jt rfl rfl) ?_;refine cZ (λi=>?_) λi=>?_
   .refine pF [] (iw _) ?_;refine gh 87 2 ?_;refine db results65 ?_;exact Mw (ajN o f r t p i) i
   .refine pF [] (iw _) ?_;refine N [0,17,18,19] ?_;exact⟨D-1,by omega,f+1,rfl,rfl,by omega,akN t p (by simpa using i)⟩
  .rw[gS (by omega)]at p;refine dI ?_;refine cQ ?_;refine dd func109 (λx j=>F9 _ a x (Q.dx j) (by omega) (by omega)) ?_;rintro v1 _ w3 rfl;refine kq λj=>?_;obtain⟨W,cap,rfl⟩:=fs j (q:=0) rfl;clear j;refine cB ?_;refine cY (row (vS W a.length cap) 87 2 a.length (dW a)) [] func110 (cD _) (λx j R=>ajO W cap a x (by omega) (by omega) R) ?_;rintro _ _ w4 ⟨out,rfl,B,hw⟩;have L:=B.length_eq;refine K4 [7,8] ?_;refine dB (λD m P x=>∃f:Nat,m=[(7,vS W a.length cap),(8,F f)]/\P=[row (vS W a.length cap) 87 2 a.length (dW out)]/\1<=f/\D+f=a.length/\qW (out.take f)) (a.length-1) ⟨1,rfl,rfl,by omega,by omega,by obtain⟨E,l',rfl⟩:=yZ (show 0<out.length by omega);exact r4 _ _⟩ ?_;rintro D _ _ w5 ⟨f,rfl,rfl,am,ag,d⟩;refine eL ?_;refine I (gN rfl rfl) ?_;refine cZ (λH=>?_) λH=>?_
   .obtain⟨g,rfl⟩:∃g,f=g+1:=⟨f-1,by omega⟩;obtain⟨E,u⟩:∃r,out[g+1]? =some r:=⟨out[g+1]'(by omega),dr (by omega)⟩;obtain⟨T,q⟩:∃r,out[g]? =some r:=⟨out[g]'(by omega),dr (by omega)⟩;refine cL ?_;refine kB 12 [] λai=>?_;refine cC ?_;refine cN rfl (cR (ab:=g+1)) ?_;refine Y ?_;refine cN rfl (gj 0 (n:=.string E.1) (hv:=by have:=(Im out _ E u).1;simpa using this)) ?_;refine cQ ?_;refine cN rfl (cR (ab:=g) (hi:=by omega)) ?_;refine Y ?_;refine cN rfl (gj 0 (n:=.string T.1) (hv:=by have:=(Im out _ T q).1;simpa using this)) ?_;refine cN rfl (oO rfl rfl) ?_;refine cZ (λl=>?_) λl=>?_
    .refine pF [] (iw _) ?_;refine gh 87 2 ?_;refine db results65 ?_;refine Mw (c:=5) ?_ (by omega);rw[Mt o p,cJ];intro n;have ad:=(B.map Prod.fst).nodup_iff.2 n;have:=(r3.1 ad) g (g+1) (by simp;omega) (by simp;omega) (by omega);obtain⟨_,y⟩:=da.1 u;obtain⟨_,z⟩:=da.1 q;simp only[wb,y,z]at this;exact this l.symm
    .refine N [7,8] ?_;refine⟨D-1,by omega,g+1+1,rfl,rfl,by omega,by omega,?_⟩;rw[sI out (g+1) E u,sI out g T q];rw[sI out g T q]at d;refine ajY d ?_;obtain⟨q1,y⟩:=da.1 u;obtain⟨q2,z⟩:=da.1 q;have w:=(r3.1 hw) g (g+1) q2 q1 (by omega);rw[y,z]at w;cases h:eI T.1 E.1 with
     |true=>rfl
     |false=>exact absurd (uk w h) l
   .refine dI ?_;refine db results65 ?_;rw[gS (by omega)]at d;obtain⟨n,rfl⟩:=TQ d B;have K:lz a=0:=by rw[Mt o p,cM n]
    rw[sF,cM K,K,L];exact⟨_,rfl,rfl⟩
end DF
namespace DF
def TU (a:U):str (sb a)=a:=by apply ByteArray.ext;apply lS;simp[str,sb,CS]
def lX (b:C Tg):C Nat:=b.flatMap λa=>[a.1.size % 256]++sb a.1++[a.2.size % 256]++sb a.2
def acX (b:C Tg)(a:Tg):lX (b++[a])=lX b++[a.1.size % 256]++sb a.1++[a.2.size % 256]++sb a.2:=by simp[lX]
def acW (a:C Tg)(f:∀b∈a,b.1.size<=32/\b.2.size<=64):(lX a).length<=a.length*98:=by
 induction a with
 |nil=>simp[lX]
 |cons b a e=>have g:=f b (dQ ..);have c:=e λh d=>f h (dN _ d);simp only[lX,ji,cX,eE,qp,nS]at c|-;omega
def iL (a:C Tg):C Nat×Int:=if lz a≠0 then([],lz a)else if 255<(lX (gy a)).length then([],4)else(lX (gy a),0)
def U2 {b:Tg}(a:iJ b=0):1<=b.1.size/\(sb b.1).all nb=true/\b.1.size<=32/\b.2.size<=64:=by
 unfold iJ at a;split at a
 .cases a
 split at a
 .split at a
  .cases a
  .exact⟨by omega,‹_›,by omega⟩
 .cases a
def z7 {d:C Tg}(a:lz d=0):1<=d.length/\d.length<=8/\(∀e∈d,iJ e=0)/\(tq d).Nodup:=by
 unfold lz at a;split at a
 .cases a
 rename_i h0;split at a
 .rename_i e b;have:=Fh b;simp[a]at this
 .rename_i c;rw[wa]at c;split at a
  .exact⟨by omega,by omega,λe b=>by simpa using c e b,‹_›⟩
  .cases a
def V6 (e:fR):Prop:=∀(b:M)(a:C Tg)(c:O),Rd c cW 2 b a.length (dW a)->a.length<=140737488355328->(∀g∈a,g.1.size<=140737488355328)->Sn e [b] c λf d=>f=.tuple #[.string (str (iL a).1),F (iL a).2]/\d=[]
def Rf:V6 34:=by
 intro v c n Q L s;refine dS func34 hS ?_;refine Ku func65 (λn a=>H6 v c n (Q.dx a) L s) ?_;rintro _ _ w1 ⟨u,rfl,rfl⟩;refine N [4,5] ?_;refine cL ?_;refine I (jt rfl rfl) ?_;refine cZ (λh=>?_) λh=>?_
 .refine pF [] (iw _) ?_;refine db results34 ?_;exact⟨by rw[iL,cM h];rfl,rfl⟩
 .have k:lz c=0:=by simpa using h
  obtain⟨af,ag,l,ah⟩:=z7 k;have hS:sF c=gy c:=by rw[sF,cM k]
  rw[hS];have o:(gy c).length=c.length:=(pg c).length_eq;have g:∀f∈gy c,f.1.size<=32/\f.2.size<=64:=λf b=>(U2 (l f ((pg c).mem_iff.1 b))).2.2;have j:iL c=if 255<(lX (gy c)).length then([],4)else(lX (gy c),0):=by rw[iL,cJ (by rw[k];simp)]
  have i:=λe=>acW ((gy c).take e) λf b=>g f (qq b);simp only[eD]at i;refine eQ λa=>?_;obtain⟨ae,cap,rfl⟩:=fs a (q:=0) rfl;clear a;generalize gy c=d at hS o g j i|-;refine gh 5 1 ?_;refine K4 [6,17,18,19] ?_;refine dB (λR m H n=>∃(e:Nat)(D:M),m=[(6,D),(17,vS ae d.length cap),(18,F d.length),(19,F e)]/\H=[row D 5 1 (lX (d.take e)).length (bv (lX (d.take e))),row (vS ae d.length cap) 87 2 d.length (dW d)]/\R+e=d.length) d.length ⟨0,_,rfl,rfl,rfl⟩ ?_;rintro R _ _ w2 ⟨e,D,rfl,rfl,hk⟩;refine eQ λa=>?_;obtain⟨B,cb,rfl⟩:=fS a (p:=0) rfl;clear a;refine cC ?_;refine I (gN rfl rfl) ?_;refine cZ (λp=>?_) λp=>?_
  .obtain⟨f,b⟩:∃f,d[e]? =some f:=⟨d[e]'(by omega),dr (by omega)⟩;have r:=(da.1 b).1;obtain⟨ai,aj⟩:=g f (eH b);have K:=i e;refine eL ?_;refine I (je 1 (b:=[.string f.1,.string f.2]) (hv:=by rw[<-gJ e d,jP r,(da.1 b).2];exact CC _ _ _ (by rw[eD];omega))) ?_;refine dj [vE,vE] λE W=>?_;refine cO 0 λX=>?_;refine cB ?_;refine I (wO rfl underlying3 underlying5 (IH _)) ?_;refine gZ jV λG P=>?_;refine dw (BE jV rfl rfl (λn a=>Rd.dM a (l:=0) rfl) (by simp[Value.oneCell']) (by omega) (by omega)) ?_;rintro S _ ab rfl;refine Y ?_;refine sM ?_;refine cB ?_;refine dw (BH jV underlying9 rfl rfl (by omega)) ?_;rintro T _ ad rfl;refine cB ?_;refine I (wO rfl underlying3 underlying5 (IH _)) ?_;refine gZ jV λt y=>?_;refine dw (BE jV rfl rfl (λn a=>Rd.dM a (l:=0) rfl) (by simp[Value.oneCell']) (by omega) (by omega)) ?_;rintro w _ z rfl;refine Y ?_;refine sM ?_;refine cB ?_;refine dw (BH jV underlying9 rfl rfl (by omega)) ?_;rintro x _ A rfl;refine Y ?_;refine sM ?_;refine ir [6,17,18,19] ?_;refine⟨R-1,by omega,e+1,_,rfl,?_,by omega⟩;rw[sI d e f b,acX,Ez,Ez];simp only[tR,cX,eE,qp,nS,ma,dU];rfl
  .rw[gS (by omega)];refine dI ?_;refine df ?_;refine I (gA rfl rfl) ?_;refine cZ (λq=>?_) λq=>?_
   .refine pF [] (iw _) ?_;refine db results34 ?_;exact⟨by rw[j,cM (by omega)];rfl,rfl⟩
   .refine cL ?_;refine I (yd rfl underlying74 underlying5 underlying9 (λn a=>Rd.dM a (l:=0) rfl)) ?_;refine N [2,3] ?_;refine pF [] (iw _) ?_;refine dP results34 ?_;exact⟨by rw[j,cJ (by omega)];rfl,rfl⟩
end DF
namespace DF
def fZ (a:C Nat)(c:Nat)(d:Int)(b:Nat×Int):Nat×(Nat×Int):=if b.2≠0 then(0,b)else if(gC (a.drop b.1)).2.2≠0 then(0,(b.1,(gC (a.drop b.1)).2.2))else if c<(gC (a.drop b.1)).1 then(0,(b.1,d))else((gC (a.drop b.1)).1,(b.1+(gC (a.drop b.1)).2.1,0))
def kX (a:C Nat)(c:Nat×Int):U×(Nat×Int):=let b:=fZ a 4096 4 c;if b.2.2≠0 then(⟨#[]⟩,b.2)else if a.length-b.2.1<b.1 then(⟨#[]⟩,(b.2.1,2))else(str ((a.drop b.2.1).take b.1),(b.2.1+b.1,0))
def SH:∀(c:C Nat)(b a:Nat),(rd c b a).2.1<=b+c.length
 |[],b,a=>by simp only[rd];split<;>simp
 |d::c,b,a=>by
  simp only[rd];split
  .simp
  split
  .simp
  split
  .have:=SH c (b+1) (a+d % 128*128^b);simp only[eE];omega
  split
  .simp
  .simp only[eE];omega
def Ma (a:C Nat):(gC a).2.1<=a.length:=by have:=SH a 0 0;unfold gC;omega
def Co (b:C Nat)(a:Nat)(c:Int)(d:Nat×Int):(fZ b a c d).1<=a:=by
 unfold fZ;split
 .exact gK _
 split
 .exact gK _
 split
 .exact gK _
 .show(gC (b.drop d.1)).1<=a;omega
def yw (a:C Nat)(b:Nat)(c:Int)(d:Nat×Int)(e:d.1<=a.length):(fZ a b c d).2.1<=a.length:=by
 have:=Ma (a.drop d.1);rw[iz]at this;unfold fZ;split
 .exact e
 split
 .exact e
 split
 .exact e
 .show d.1+(gC (a.drop d.1)).2.1<=_;omega
def CE (a:C Nat)(b:Nat×Int)(c:b.1<=a.length):(kX a b).2.1<=a.length:=by
 have:=yw a 4096 4 b c;unfold kX;simp only;split
 .exact this
 split
 .exact this
 .show(fZ a 4096 4 b).2.1+(fZ a 4096 4 b).1<=_;omega
def Zs {h:O}{c:cG Addr}{d b:Nat}{a:C Nat}(i:Rd h cW 1 (PA c a.length d) a.length (bv a))(g:b<=a.length):Rd h cW 1 (PA (if d=b then c else c.map (·.add (b*1))) (a.length-b) (d-b)) (a.drop b).length (bv (a.drop b)):=by
 have:=i.cut (b:=b) (f:=a.length) g (dT _);have f:a.length-b=(a.drop b).length:=by rw[iz]
 have e:((bv a).drop (b*1)).take ((a.length-b)*1)=bv (a.drop b):=by rw[fT,fT,gS (by rw[iz,JT];omega)];simp[bv,uM]
 rw[e]at this
 rwa [f]at this|-
def adG {j:O}{e:cG Addr}{f b c:Nat}{a:C Nat}(k:Rd j cW 1 (PA e a.length f) a.length (bv a))(d:b<=c)(i:c<=a.length):Rd j cW 1 (PA (if f=b then e else e.map (·.add (b*1))) (c-b) (f-b)) ((a.drop b).take (c-b)).length (bv ((a.drop b).take (c-b))):=by
 have:=k.cut (b:=b) (f:=c) d i;have h:c-b=((a.drop b).take (c-b)).length:=by rw[eD,iz];omega
 have g:((bv a).drop (b*1)).take ((c-b)*1)=bv ((a.drop b).take (c-b)):=by simp[bv,uM,uN]
 rw[g]at this
 rwa [<-h]
def nR (c:Nat)(b:M)(a:Nat×Int):V:=cF c [b,F a.1,F a.2] 243
def Hx (h:Nat)(t:cG Addr)(i:Nat)(a:C Nat)(f:Nat×Int)(c:Nat)(b:Int)(r:O)(j:Rd r (λL=>L=h) 1 (PA t a.length i) a.length (bv a))(K:a.length<=140737488355328)(x:∀s∈a,s<256)(q:f.1<=a.length)(z:Hl r (nR h (PA t a.length i) f)):Sr 117 [Z h,J c,F b] r (nR h (PA t a.length i) f) λQ G=>Q=J ((fZ a c b f).1:Int)/\G=[nR h (PA t a.length i) (fZ a c b f).2]:=by
 have n:a.length<=i:=by obtain⟨_,_,w,_,H,_⟩:=id j;injection w with _ _ w;subst w;exact H
 have k:∀s∈a.drop f.1,s<256:=λs A=>x s (tG A);have p:=Ma (a.drop f.1);rw[iz]at p;refine hJ func117 z ?_;refine N [0,1,2] ?_;refine fw ?_;refine I (jt rfl rfl) ?_;refine cZ (λe=>?_) λe=>?_
 .refine db results117 ?_;exact⟨by rw[fZ,cM e];rfl,by rw[fZ,cM e]⟩
 .refine cC ?_;refine kB 17 [9] λE=>?_;refine iq ?_;refine cN rfl (qB 1 (w:=f.1) (x:=a.length) rfl underlying74 (by kernel_rfl) ⟨_,rfl⟩ rfl q n) ?_;refine eh rfl (eB func78 (λr y=>Cs _ (a.drop f.1) r (Zs (j.dx y) q) (by rw[iz];omega) k)) ?_;rintro _ _ R ⟨_,rfl,rfl,rfl⟩;refine⟨_,cD _,?_⟩;refine N [0,1,2,7,8,9] ?_;refine cL ?_;refine I (jt rfl rfl) ?_;refine cZ (λg=>?_) λg=>?_
  .have d:fZ a c b f=(0,(f.1,(gC (a.drop f.1)).2.2)):=by rw[fZ,cJ e,cM g]
   refine KW 0 λB=>?_;refine db results117 ?_;exact⟨by rw[d];rfl,by rw[d];rfl⟩
  .refine eL ?_;refine I (gA rfl rfl) ?_;refine cZ (λm=>?_) λm=>?_
   .have d:fZ a c b f=(0,(f.1,b)):=by rw[fZ,cJ e,cJ g,cM (by omega)]
    refine KW 0 λD=>?_;refine db results117 ?_;exact⟨by rw[d];rfl,by rw[d];rfl⟩
   .have d:fZ a c b f=((gC (a.drop f.1)).1,(f.1+(gC (a.drop f.1)).2.1,0)):=by rw[fZ,cJ e,cJ g,cJ (by omega)]
    have o:f.2=0:=by simpa using e
    refine fh ?_;refine KW 0 λv=>?_;refine db results117 ?_;exact⟨by rw[d];rfl,by rw[d,<-o];rfl⟩
def UG (o:Nat)(y:cG Addr)(s:Nat)(a:C Nat)(d:Nat×Int)(w:O)(z:Rd w (λk=>k=o) 1 (PA y a.length s) a.length (bv a))(R:a.length<=140737488355328)(Q:∀X∈a,X<256)(K:d.1<=a.length)(B:Hl w (nR o (PA y a.length s) d)):Sr 119 [Z o] w (nR o (PA y a.length s) d) λr D=>r=.string (kX a d).1/\D=[nR o (PA y a.length s) (kX a d).2]:=by
 have P:a.length<=s:=by obtain⟨_,_,e,_,m,_⟩:=id z;injection e with _ _ e;subst e;exact m
 have t:=Co a 4096 4 d;have v:=yw a 4096 4 d K;have j:kX a d=if(fZ a 4096 4 d).2.2≠0 then(⟨#[]⟩,(fZ a 4096 4 d).2)else if a.length-(fZ a 4096 4 d).2.1<(fZ a 4096 4 d).1 then(⟨#[]⟩,((fZ a 4096 4 d).2.1,2))else(str ((a.drop (fZ a 4096 4 d).2.1).take (fZ a 4096 4 d).1),((fZ a 4096 4 d).2.1+(fZ a 4096 4 d).1,0)):=rfl
 refine dS func119 B ?_;refine cB ?_;refine cY _ [] func117 (cD _) (λw A B=>Hx o y s a d 4096 4 w (z.fg A (cD _)) R Q K B) ?_;rintro _ _ w1 ⟨rfl,rfl⟩;revert j;generalize fZ a 4096 4 d=X at t v|-;obtain⟨c,b,e⟩:=X;simp only at t v|-;intro j;refine N [0,3] ?_;refine cC ?_;refine eS (λS D w'=>S=[(0,Z o),(3,F c),(25,.bool (decide (e=0/\a.length-b<c)))]/\D=[nR o (PA y a.length s) (b,e)]) ?_ ?_
 .by_cases h:e=0
  .refine kB 19 [] λx=>?_;refine cL ?_;refine cN rfl (cU (e9 rfl rfl) (dq Value.bool (gb h))) ?_;refine fh ?_;refine cQ ?_;refine fX rfl rfl rfl (gN rfl rfl) ?_;refine cN rfl (mC rfl rfl rfl) ?_;refine iK [0,3,25] ?_;refine⟨?_,rfl⟩;have L:((((a.length:Nat):Int)-(b:Int)<(c:Int)))=(e=0/\a.length-b<c):=propext ⟨λm=>⟨h,by omega⟩,λm=>by omega⟩;simp only[L,pO]
  .refine kB 19 [] λx=>?_;refine cL ?_;refine cN rfl (cU (e9 rfl rfl) (dq Value.bool (fL h))) ?_;refine fh ?_;refine cL ?_;refine cN rfl (mC rfl rfl rfl) ?_;refine iK [0,3,25] ?_;exact⟨by simp[h],rfl⟩
 rintro _ _ x ⟨rfl,rfl⟩;refine eS (λS D w=>S=[(0,Z o),(3,F c)]/\D=[nR o (PA y a.length s) (b,if e=0/\a.length-b<c then 2 else e)]) ?_ ?_
 .refine jc rfl (λn=>?_) (λn=>?_)
  .refine KW 0 λT=>?_;refine cH [0,3] ?_;exact⟨rfl,by rw[cM n];rfl⟩
  .refine kw [0,3] rfl (iY ?_);exact⟨rfl,by rw[cJ n]⟩
 .rintro _ _ w ⟨rfl,rfl⟩;refine fw ?_;refine I (jt rfl rfl) ?_;refine cZ (λi=>?_) λi=>?_
  .have g:kX a d=(⟨#[]⟩,(b,if e=0/\a.length-b<c then 2 else e)):=by
    rw[j];split
    .rw[cJ (by omega)]
    .rename_i m;have f:(if e=0/\a.length-b<c then 2 else e)≠0:=i;split at f
     .rename_i q;rw[cM q.2,cM q]
     .exact absurd f m
   refine db results119 ?_;exact⟨by rw[g];rfl,by rw[g]⟩
  .have E:e=0/\¬a.length-b<c:=by
    have f:¬((if e=0/\a.length-b<c then 2 else e)≠0):=i;split at f
    .omega
    .rename_i m;refine⟨by omega,λq=>m ⟨by omega,q⟩⟩
   have G:b+c<=a.length:=by omega
   have g:kX a d=(str ((a.drop b).take c),(b+c,0)):=by rw[j,cJ (by omega),cJ E.2]
   have H:(if e=0/\a.length-b<c then 2 else e)=0:=by rw[cJ (by omega)];exact E.1
   rw[H];clear i;refine fh ?_;refine KW 0 λW=>?_;refine cH [0,3] ?_;refine Y ?_;refine kB 17 [] λab=>?_;refine fh ?_;refine cN rfl (cU (z:=F b) (Px rfl rfl) (by congr 1;omega)) ?_;refine cL ?_;refine cN rfl (qB 1 (w:=b) (x:=b+c) rfl underlying74 (by kernel_rfl) ⟨_,rfl⟩ ⟨_,rfl⟩) ?_;refine cN rfl (yd (A:=(a.drop b).take c) rfl underlying74 underlying5 underlying9 (λw A=>by have m:=adG (b:=b) (c:=b+c) (z.dx A) (by omega) G;rw[show b+c-b=c by omega]at m;rw[eD,iz,o5 (by omega)]at m|-;rw[show b+c-b=c by omega];exact m)) ?_;refine db results119 ?_;exact⟨by rw[g];rfl,by rw[g];rfl⟩
end DF
namespace DF
def mM (a:C Nat):Nat->Nat×Int->C Tg×(Nat×Int)
 |0,b=>([],b)
 |c+1,b=>(((kX a b).1,(kX a (kX a b).2).1)::(mM a c (kX a (kX a b).2).2).1,(mM a c (kX a (kX a b).2).2).2)
def k8 (a:C Nat):(C Tg×Nat×Nat×Nat)×Int:=let c:=fZ a 1099511627776 1 (0,0);let d:=fZ a 18446744073709551615 1 c.2;let e:=fZ a 8 5 d.2;let b:=mM a e.1 e.2;if b.2.2≠0 then(([],0,0,0),b.2.2)else((b.1,c.1,d.1,b.2.1),0)
def Yp (a:cG Addr)(c b:Nat)(d:O):(Instr.build 243 [(0,PA a c b)].toArray).run prog d=.ok (PE [PA a c b,F 0,F 0]) d:=by kernel_rfl
def Yy (a:U)(b:O):(Instr.build 87 [(0,.string a)].toArray).run prog b=.ok (PE [.string a,vE]) b:=by kernel_rfl
def XW (a:Int)(b:O):(Instr.build 79 [(1,F a)].toArray).run prog b=.ok (PE [vN,F a,J 0]) b:=by kernel_rfl
def XV (a:O):(Instr.build 79 #[]).run prog a=.ok (PE [vN,F 0,J 0]) a:=by kernel_rfl
def akI (e:Nat)(g:cG Addr)(h:Nat)(a:C Nat)(d:Nat×Int)(f:O)(j:Rd f (λy=>y=e) 1 (PA g a.length h) a.length (bv a))(l:a.length<=140737488355328)(k:∀D∈a,D<256)(m:d.1<=a.length)(b:Hl f (nR e (PA g a.length h) d)):Sr 118 [.func (.func 119) #[Z e] #[]] f (nR e (PA g a.length h) d) λz w=>z=.agg #[.string (kX a d).1,.string (kX a (kX a d).2).1]/\w=[nR e (PA g a.length h) (kX a (kX a d).2).2]:=by have i:=CE a d m;have v:=CE a _ i;refine dS func118 b ?_;refine NV [vE,vE] λn q=>?_;refine cB ?_;refine dw (q7 [nR e (PA g a.length h) d] [_] rfl rfl func119 (by kernel_rfl) (List.Perm.swap ..) (λf c b=>by rw[ud]at b|-;exact UG e g h a d f (j.fg c (List.Perm.swap ..)) l k m b)) ?_;rintro _ _ A ⟨_,rfl,rfl,rfl⟩;refine I (ee (λf=>Yy _ f)) ?_;refine dj [vE,vE] λo r=>?_;refine cO 0 λs=>?_;refine cB ?_;refine dw (q7 [nR e (PA g a.length h) (kX a d).2] [_,_] rfl rfl func119 (by kernel_rfl) (List.Perm.swap ..) (λf c b=>by rw[ud]at b|-;exact UG e g h a (kX a d).2 f (j.fg c (List.Perm.swap ..)) l k i b)) ?_;rintro _ _ B ⟨_,rfl,rfl,rfl⟩;refine KW 1 λt=>?_;refine K3 1 (f:=[_,_]) ?_;refine cO 2 λu=>?_;refine cH [2] ?_;refine eM ?_;refine⟨_,_,λx p c=>eW results118 (eX (e4 2 rfl underlying87 rfl (by kernel_rfl) rfl) eY) x p _ c,(gq [_]).trans (mr [_] [_,_]),?_⟩;exact⟨rfl,rfl⟩
def VY (g:fR):Prop:=∀(c:M)(a:C Nat)(d:O),Rd d cW 1 c a.length (bv a)->a.length<=140737488355328->(∀f∈a,f<256)->Sn g [c] d λh e=>∃b,h=.tuple #[.agg #[b,F ((k8 a).1.2.1:Int),J ((k8 a).1.2.2.1:Int)],F ((k8 a).1.2.2.2:Int),F (k8 a).2]/\e=[row b 87 2 (k8 a).1.1.length (dW (k8 a).1.1)]
def Zg:VY 79:=by
 intro v a e s y x;obtain⟨o,p,rfl,ag,af,hA⟩:=id s;have d:k8 a=if(mM a (fZ a 8 5 (fZ a 18446744073709551615 1 (fZ a 1099511627776 1 (0,0)).2).2).1 (fZ a 8 5 (fZ a 18446744073709551615 1 (fZ a 1099511627776 1 (0,0)).2).2).2).2.2≠0 then(([],0,0,0),(mM a (fZ a 8 5 (fZ a 18446744073709551615 1 (fZ a 1099511627776 1 (0,0)).2).2).1 (fZ a 8 5 (fZ a 18446744073709551615 1 (fZ a 1099511627776 1 (0,0)).2).2).2).2.2)else(((mM a (fZ a 8 5 (fZ a 18446744073709551615 1 (fZ a 1099511627776 1 (0,0)).2).2).1 (fZ a 8 5 (fZ a 18446744073709551615 1 (fZ a 1099511627776 1 (0,0)).2).2).2).1,(fZ a 1099511627776 1 (0,0)).1,(fZ a 18446744073709551615 1 (fZ a 1099511627776 1 (0,0)).2).1,(mM a (fZ a 8 5 (fZ a 18446744073709551615 1 (fZ a 1099511627776 1 (0,0)).2).2).1 (fZ a 8 5 (fZ a 18446744073709551615 1 (fZ a 1099511627776 1 (0,0)).2).2).2).2.1),0):=rfl
 have S:=Co a 1099511627776 1 (0,0);have t:=yw a 1099511627776 1 (0,0) (gK _);refine dS func79 hS ?_;refine NV [vN,F 0,J 0] λf ah=>?_;refine cB ?_;refine I (ee (λe=>Yp _ _ _ e)) ?_;refine dK λb aj=>?_;refine cB ?_;refine cY (nR b (PA o a.length p) (0,0)) [_] func117 (cD _) (λe c h=>Hx b o p a (0,0) 1099511627776 1 e (s.fg c (cD _)) y x (gK _) h) ?_;rintro _ _ w1 ⟨rfl,rfl⟩;generalize fZ a 1099511627776 1 (0,0)=j at d S t|-;have T:=Co a 18446744073709551615 1 j.2;have u:=yw a 18446744073709551615 1 j.2 t;refine Y ?_;refine I (ee (λe=>XW _ e)) ?_;refine dj [vN,F 0,J 0] λg ak=>?_;refine cO 0 λal=>?_;refine cB ?_;refine cY (nR b (PA o a.length p) j.2) [_,_] func117 (List.Perm.swap ..) (λe c h=>Hx b o p a j.2 18446744073709551615 1 e (s.fg c (List.Perm.swap ..)) y x t h) ?_;rintro _ _ w2 ⟨rfl,rfl⟩;generalize fZ a 18446744073709551615 1 j.2=k at d T u|-;have W:=Co a 8 5 k.2;have A:=yw a 8 5 k.2 u;refine KW 1 λam=>?_;refine cB ?_;refine cY (nR b (PA o a.length p) k.2) [_,_] func117 (cD _) (λe c h=>Hx b o p a k.2 8 5 e (s.fg c (cD _)) y x u h) ?_;rintro _ _ w3 ⟨rfl,rfl⟩;generalize fZ a 8 5 k.2=w at d W A|-;refine N [2,5,6,7] ?_;refine Y ?_;refine gh 87 2 ?_;refine dB (λB m H e=>∃(G:M)(done:C Tg)(n:Nat×Int),m=[(2,Z f),(5,Z b),(6,Z g),(7,J B)]/\H=[row G 87 2 done.length (dW done),nR b (PA o a.length p) n,cF g [G,F j.1,J k.1] 79,cF f [vN,F 0,J 0] 79]/\done.length+B=w.1/\n.1<=a.length/\mM a w.1 w.2=(done++(mM a B n).1,(mM a B n).2)) w.1 ⟨_,[],w.2,rfl,rfl,by simp,A,by simp⟩ ?_;rintro B _ _ w4 ⟨G,done,n,rfl,rfl,hk,z,l⟩;refine eQ λc=>?_;obtain⟨aq,K,rfl⟩:=fS c (p:=0) rfl;clear c;refine cL ?_;refine I (gA rfl rfl) ?_;refine cZ (λL=>?_) λL=>?_
 .obtain⟨X,rfl⟩:∃X,B=X+1:=⟨B-1,by omega⟩;simp only[mM]at l;have Q:=CE a n z;have R:=CE a _ Q;refine cQ ?_;refine mm 9 [4,5,6,8] [(cF g [PA aq done.length K,F j.1,J k.1] 79,some 8)] [row (PA aq done.length K) 87 2 done.length (dW done),nR b (PA o a.length p) n,cF f [vN,F 0,J 0] 79] (de [2] _ rfl) λar=>?_;refine cQ ?_;refine ew rfl (wQ rfl rfl) ?_;refine gY rfl (ft (nR b (PA o a.length p) n) [_,_,_] func118 (c8 2 rfl) (λe c h=>akI b o p a n e (s.fg (h:=nR b (PA o a.length p) n) c (c8 2 rfl)) y x z h)) ?_;rintro _ _ w5 ⟨_,rfl,rfl,rfl⟩;refine⟨_,List.Perm.swap ..,?_⟩;refine gY rfl (qi nf) ?_;rintro _ _ an ⟨ae,rfl,rfl⟩;refine⟨_,eg.symm,?_⟩;refine gY rfl (aaa nf rfl rfl (λe c=>Rd.dM c (l:=1) rfl) (by simp[Value.oneCell']) (by omega) (by omega)) ?_;rintro _ _ w7 ⟨⟨ab,D,rfl⟩,rfl⟩;refine⟨_,cD _,?_⟩;refine Y ?_;refine jC rfl (gD 0) ?_;rintro _ _ ao rfl;refine⟨_,cD _,?_⟩;refine sQ [2,5,6,7] [3,2,0,1] ?_;refine N [2,5,6,7] ?_;refine⟨X,by omega,PA ab (done.length+1) D,done++[((kX a n).1,(kX a (kX a n).2).1)],(kX a (kX a n).2).2,?_,?_,by simp;omega,R,by rw[l];simp⟩
  .rw[show((X+1:Nat):Int)-1=(X:Int) by omega]
  .rw[cX,sJ];rfl
 .obtain rfl:B=0:=by omega
  simp only[mM,eN]at l;rw[l]at d;refine dI ?_;refine fw ?_;refine I (jt rfl rfl) ?_;refine cZ (λq=>?_) λq=>?_
  .rw[cM q]at d;refine cK [1,2] ?_;refine gh 87 2 ?_;refine Y ?_;refine eO 8 [5] [_,_] [_] (cD _) λau=>?_;refine cN rfl (ee (λe=>XV e)) ?_;refine cL ?_;refine jW rfl (gD 2) ?_;rintro _ _ ap rfl;refine⟨_,cD _,?_⟩;refine N [2,3,4] ?_;refine eM ?_;refine⟨_,_,λad E c=>eW results79 (eX (e4 2 rfl underlying79 rfl (by kernel_rfl) rfl) (gg rfl (gg rfl eY))) ad E _ c,(gq [_]).trans (mr [_] [_,_]),?_⟩;exact⟨_,by rw[d];rfl,by rw[d];rfl⟩
  .rw[cJ q]at d;refine cC ?_;refine eO 8 [5] [_,_,_] [_] (cD _) λai=>?_;refine cN rfl (di 2 (b:=[_,_,_])) ?_;refine cL ?_;refine jW rfl (gD 3) ?_;rintro _ _ P rfl;refine⟨_,cD _,?_⟩;refine N [2,3,4] ?_;refine eM ?_;refine⟨_,_,λad E c=>eW results79 (eX (e4 3 rfl underlying79 rfl (by kernel_rfl) rfl) (gg rfl (gg rfl eY))) ad E _ c,(gq [_]).trans (mr [_] [_,_,_]),?_⟩;exact⟨_,by rw[d];rfl,by rw[d]⟩
end DF
namespace DF
def SF:∀(i:C Nat)(b a:Nat),(b<=9->a<128^b)->(rd i b a).1<=18446744073709551615
 |[],b,a,_=>by simp only[rd];split<;>simp
 |e::i,b,a,j=>by
  simp only[rd];split
  .simp
  split
  .simp
  rename_i c f;have g:=j (by omega);have h:a+e % 128*128^b<=18446744073709551615:=by
   rcases np b 9 with d|d
   .have c:e % 128*128^b<=127*128^b:=j7 _ (by omega);have f:=L0 b 8 (by omega);omega
   .have:b=9:=by omega
    subst this;have c:e % 128*128^9<=1*128^9:=j7 _ (by omega);omega
  split
  .refine SF i (b+1) _ λd=>?_;have c:e % 128*128^b<=127*128^b:=j7 _ (by omega);rw[zf];omega
  split
  .simp
  .exact h
def aic (a:C Nat):(gC a).1<=18446744073709551615:=SF a 0 0 (by simp)
def ah6 {s:O}{p:Nat->Prop}{o d:cG Addr}{e b:Nat}{a:C Nat}(x:Rd s p 1 (PA o a.length e) a.length (bv a))(A:b<=a.length)(i:b<e->d=o.map (·.add b)):Rd s p 1 (PA d (a.length-b) (e-b)) (a.drop b).length (bv (a.drop b)):=by
 obtain⟨t,v,w,y,z,h⟩:=x;injection w with f _ g;subst f;subst g;have el:a.length-b=(a.drop b).length:=by rw[iz]
 rw[el];refine⟨d,e-b,rfl,by rw[JT];omega,by rw[iz];omega,?_⟩;rcases np b a.length with r|q
 .right;obtain⟨u,c,rfl,j,k,l⟩:=h.resolve_left (by omega);refine⟨u,c+b,by rw[i (by omega)];simp[pQ],j,k,λn B m=>?_⟩;have:=l (b+n) B (by simpa[bv,kQ]using m)
  rwa [show c+(b+n)=c+b+n by omega]at this
 .left;rw[iz];omega
def Xt {d a:cG Addr}{e b c:Nat}(f:b<e->a=d.map (·.add b)):b+c<e->(if e-b=c then a else a.map (·.add (c*1)))=d.map (·.add (b+c)):=by
 intro h;rw[cJ (by omega),f (by omega)];cases d with
 |none=>rfl
 |some g=>simp[I3]
end DF
namespace DF
def iv (b:C Int):C M:=b.map λa=>Value.int .i64 a
def G2 (b:C Int)(a:Nat)(c:a<b.length):(iv b)[a*1]? =some (F b[a]):=by simp[iv,c]
def du (b:Nat)(a:M)(c:Nat):V:=cF b [a,F c] 64
def nj (f:O)(c:Nat)(b:M)(a:C Int)(e:Nat):Prop:=Rd f (λd=>d=c) 1 b a.length (iv a)/\a.length<=140737488355328/\e<=a.length
def MP (c a:Int)(f:1<=a): -a<c.tmod a/\c.tmod a<a:=by have e:=AP c (b:=a) (by omega);have d:=AP (-c) (b:=a) (by omega);rw[Int.neg_tmod]at d;omega
def IC (c:Int)(a:Nat)(i:O)(g:1<=a/\a<=4398046511104):Sn 35 [F c,F a] i λh e=>∃d:Nat,h=F d/\d<a/\e=[]:=by
 have f:=MP c a (by omega);refine dR func35 hS ?_;refine cB ?_;refine I (zy rfl rfl (by omega) rfl) ?_;refine cQ ?_;refine I (zy (r:=(((c.tmod a+a) % a).toNat:Nat)) rfl rfl (by omega) ?_) ?_
 .rw[Int.tmod_eq_emod_of_nonneg (by omega),rY (xx _ (by omega))]
 refine db results35 ?_;exact⟨_,rfl,by have:=AN (c.tmod a+a) (b:=(a:Int)) (by omega);have:=xx (c.tmod a+a) (b:=(a:Int)) (by omega);omega,rfl⟩
def kz (c:Nat)(a:M)(k:C Int)(b f:Nat)(h:O)(m:nj h c a k b)(p:Hl h (du c a b))(n:1<=f/\f<=4398046511104:=by omega):Sr 17 [Z c,F f] h (du c a b) λB v=>∃j g:Nat,B=F j/\j<f/\v=[du c a g]/\g<=k.length:=by
 obtain⟨e,y,o⟩:=m;obtain⟨E,G,rfl,-,s,x⟩:=e;refine dR func17 p ?_;refine N [0,1] ?_;refine cC ?_;refine kB 10 [] λt=>?_;refine fh ?_;refine cN rfl (m6 rfl rfl) ?_;refine cZ (λd=>?_) λd=>?_
 .refine db results17 ?_;exact⟨0,b,rfl,by omega,rfl,o⟩
 .obtain⟨w,A,rfl,l,-,d1⟩:=x.resolve_left (by omega);refine fh ?_;refine KW 0 λr=>?_;refine cH [0,1] ?_;refine Y ?_;refine kB 14 [12] λu=>?_;refine fh ?_;refine cN rfl (cR (ab:=b) (hi:=by omega)) ?_;refine cN rfl (jd (hc:=d1 (b*1) _ (G2 k b (by omega))) (hF:=l)) ?_;refine Y ?_;refine eh rfl (eB func35 (λh z=>IC _ f h n)) ?_;rintro _ _ D ⟨_,rfl,j,rfl,q,rfl⟩;refine⟨_,jQ _ _ _,?_⟩;refine db results17 ?_;exact⟨j,b+1,rfl,q,rfl,by omega⟩
def TF (c:Nat)(a:M)(j:C Int)(g:Nat)(h:O)(d:nj h c a j g)(l:Hl h (du c a g)):Sr 100 [Z c] h (du c a g) λo m=>∃i b:Nat,o=J i/\1<=i/\i<=20/\m=[du c a b]/\b<=j.length:=by refine dS func100 l ?_;refine cB ?_;refine cY (du c a g) [] func17 (cD _) (λh k f=>kz c a j g 20 h ⟨d.1.fg k (cD _),d.2⟩ f) ?_;rintro _ _ p ⟨i,b,rfl,n,rfl,e⟩;refine db results100 ?_;exact⟨1+i,b,by simp[l8],by omega,by omega,rfl,e⟩
end DF
namespace DF
def Ve (f:Nat)(b:M)(m:C Int)(t:Nat)(i:O)(c:nj i f b m t)(v:Hl i (du f b t)):Sr 101 [Z f] i (du f b t) λD z=>∃x u:Nat,D=J x/\x<18446744073709551616/\z=[du f b u]/\u<=m.length:=by
 refine dS func101 v ?_;refine cB ?_;refine cY (du f b t) [] func17 (cD _) (λi d a=>kz f b m t 12 i ⟨c.1.fg d (cD _),c.2⟩ a) ?_;rintro _ _ k ⟨x,g,rfl,B,rfl,j⟩;refine cH [0,4] ?_;refine cQ ?_;refine I (e9 rfl rfl) ?_;refine cZ (λp=>?_) λp=>?_
 .refine cQ ?_;refine cY (du f b g) [] func17 (cD _) (λi d a=>kz f b m g 1099511627776 i ⟨c.1.fg d (cD _),c.2.1,j⟩ a) ?_;rintro _ _ k ⟨l,h,rfl,n,rfl,e⟩;refine db results101 ?_;exact⟨1+l,h,by simp[l8],by omega,rfl,e⟩
 .refine cC ?_;refine I (e9 rfl rfl) ?_;refine cZ (λq=>?_) λq=>?_
  .refine cQ ?_;refine cY (du f b g) [] func17 (cD _) (λi d a=>kz f b m g 1099511627776 i ⟨c.1.fg d (cD _),c.2.1,j⟩ a) ?_;rintro _ _ k ⟨l,h,rfl,n,rfl,e⟩;refine Y ?_;refine I (KG (r:=((9223372036854775808-l:Nat):Int)) rfl rfl (by rw[yT _ (by omega)];omega)) ?_;refine db results101 ?_;exact⟨9223372036854775808-l,h,rfl,by omega,rfl,e⟩
  .refine cC ?_;refine I (e9 rfl rfl) ?_;refine cZ (λr=>?_) λr=>?_
   .refine cQ ?_;refine cY (du f b g) [] func17 (cD _) (λi d a=>kz f b m g 7 i ⟨c.1.fg d (cD _),c.2.1,j⟩ a) ?_;rintro _ _ k ⟨l,h,rfl,n,rfl,e⟩;refine cQ ?_;refine cY (du f b h) [] func17 (cD _) (λi d a=>kz f b m h 61 i ⟨c.1.fg d (cD _),c.2.1,e⟩ a) ?_;rintro _ _ k ⟨o,w,rfl,y,rfl,s⟩;refine I (wO (r:=(o:Int)) rfl underlying3 underlying110 (yT _ (by omega))) ?_;refine I (DY (r:=(((1+l)*2^o % 18446744073709551616:Nat):Int)) rfl rfl (by omega) ?_) ?_
    .have A:min (Int.toNat (o:Int)) IntKind.u64.bits=o:=by rw[yU];exact o5 (by show o<=64;omega)
     rw[A,I4];simp
    refine db results101 ?_;exact⟨(1+l)*2^o % 18446744073709551616,w,rfl,uQ _ (by omega),rfl,s⟩
   .refine cL ?_;refine cY (du f b g) [] func17 (cD _) (λi d a=>kz f b m g 20 i ⟨c.1.fg d (cD _),c.2.1,j⟩ a) ?_;rintro _ _ k ⟨l,h,rfl,n,rfl,e⟩;refine db results101 ?_;exact⟨1+l,h,by simp[l8],by omega,rfl,e⟩
def iN (a:C Tg):Prop:=1<=a.length/\a.length<=3/\∀b∈a,b.1.size<=20/\b.2.size<=70
end DF
namespace DF
def Cw (a:C Tg):Prop:=a.length<=3/\∀b∈a,b.1.size<=20/\b.2.size<=70
def xa (a:cG Addr)(c b:Nat)(g:O):Sn 8 [PA a c b] g λi h=>∃f,i=Z f/\h=[du f (PA a c b) 0]:=by refine dS func8 hS ?_;refine cB ?_;refine I (ee (λg=>by kernel_rfl) (q:=[(0,PA a c b)]) (n:=PE [PA a c b,F 0])) ?_;refine dK λd e=>?_;refine db results8 ?_;exact⟨_,rfl,rfl⟩
end DF
namespace DF
def Pf {a:C Tg}{b:Int}{wt:Nat}(d:Cw a)(e:0<=b/\b<=1099511627776):mw a b wt=(er b.toNat++er wt++er a.length++kW a,0):=by unfold mw;rw[cJ (by omega),cJ (by have:=d.1;omega),cM (λf c=>by have:=d.2 f c;exact⟨by omega,by omega⟩)]
def Ag {a:Nat}(c:a<18446744073709551616):∀b∈er a,b<256:=Pj 10 a (by omega)
def Us:∀(b:C Tg),(∀f∈b,qf f)->∀c∈kW b,c<256
 |[],_,c,a=>by simp[kW]at a
 |i::h,g,c,a=>by
  simp only[kW,xp,dV]at a;have d:=g i (dQ ..);unfold qf at d;rcases a with((((a|a)|a)|a)|a)
  .exact Ag (by omega) c a
  .exact zW _ c a
  .exact Ag (by omega) c a
  .exact zW _ c a
  .exact Us h (λf e=>g f (dN _ e)) c a
def aar (b:C Tg)(h:Int)(wt:Nat)(e:wt<18446744073709551616):∀c∈(mw b h wt).1,c<256:=by
 unfold mw;split
 .simp
 split
 .simp
 rename_i f g;split
 .rename_i d;intro c a;simp only[dV]at a;rcases a with((a|a)|a)|a
  .exact Ag (by omega) c a
  .exact Ag e c a
  .exact Ag (by omega) c a
  .exact Us b d c a
 .simp
def Uu (a:C Nat):∀(b:Nat)(c:Nat×Int),(mM a b c).1.length=b
 |0,_=>rfl
 |b+1,c=>by simp[mM,Uu a b]
def Zc (a:C Nat):(k8 a).1.1.length<=8:=by
 unfold k8;dsimp only;split
 .simp
 .show(mM _ _ _).1.length<=8;rw[Uu];exact Co _ _ _ _
end DF
namespace DF
def SE:∀(e a c d:Nat)(b:C Nat),a+e=10->(0<a->0<c)->c*128^a<18446744073709551616->rd (enc e c++b) a d=(d+c*128^a,a+(enc e c).length,0)
 |0,a,c,d,b,h,h0,j=>by
  obtain rfl:a=10:=by omega
  have:=h0 (by omega);omega
 |e+1,a,c,d,b,h,h0,j=>by
  by_cases g:c<128
  .rw[Gq _ _ g];have f:¬(a=9/\1<c % 128):=by rintro⟨rfl,l⟩;omega
   have k:¬(c=0/\0<a):=λl=>by have:=h0 l.2;omega
   simp only[nJ,rd];rw[cJ (by omega),cJ f,cJ (by omega),cJ k,wk g];rfl
  .rw[Pg _ _ (by omega)];have f:a≠9:=by rintro rfl;have n:128*128^9<=c*128^9:=j7 _ (by omega);omega
   have m:c/128*128^(a+1)+c % 128*128^a=c*128^a:=by rw[zf,ze (128^a) 128,<-zd,<-mu];congr 1;omega
   have i:(c % 128+128) % 128=c % 128:=by omega
   simp only[kP,rd,eE];rw[cJ (by omega),cJ (by omega),cM (by omega),i,SE e (a+1) (c/128) _ b (by omega) (λ_=>by omega) (by omega)];refine Prod.ext ?_ (Prod.ext ?_ rfl)
   .show d+c % 128*128^a+c/128*128^(a+1)=_;omega
   .show a+1+_=a+(_+1);omega
def HK (b:Nat)(a:C Nat)(c:b<18446744073709551616):gC (er b++a)=(b,(er b).length,0):=by have:=SE 10 0 b 0 a rfl (by omega) (by omega);unfold gC er;rw[this];simp
def Hw {c b:C Nat}{g e a:Nat}{d:Int}(h:c.drop g=er e++b)(f:e<18446744073709551616)(i:e<=a):fZ c a d (g,0)=(e,(g+(er e).length,0)):=by unfold fZ;rw[cJ (by simp)];dsimp only;rw[h,HK e b f,cJ (by simp),cJ (by show¬a<e;omega)]
def x4 {b c a:C Nat}{d:Nat}(e:b.drop d=c++a):b.drop (d+c.length)=a:=by rw[<-xy,e,kZ]
def UD {a b:C Nat}{e:Nat}{c:U}(h:a.drop e=er c.size++(sb c++b))(g:c.size<=4096)(i:e<=a.length):kX a (e,0)=(c,(e+(er c.size).length+c.size,0)):=by have d:=x4 h;have f:=dq List.length d;rw[iz,cX,nS]at f;unfold kX;dsimp only;rw[Hw h (by omega) g];dsimp only;rw[cJ (by simp),cJ (by omega),d,<-nS,oF,nS,TU]
def Ut {c:C Nat}:∀(a:C Tg)(b:C Nat)(e:Nat),c.drop e=kW a++b->(∀n∈a,qf n)->e<=c.length->mM c a.length (e,0)=(a,(e+(kW a).length,0))
 |[],_,e,_,_,_=>by simp[mM,kW]
 |p::o,b,e,g,f,k=>by have d:=f p (dQ ..);unfold qf at d;have l:=dq List.length g;simp only[kW,xp,dJ,iz,cX,nS]at g l;have h:=UD g d.1 k;have d1:=x4 g;have d2:=x4 d1;rw[nS]at d2;have i:=UD d2 d.2 (by omega);have d3:=x4 d2;have d4:=x4 d3;rw[nS]at d4;have j:=Ut o b _ d4 (λn m=>f n (dN _ m)) (by omega);simp only[eE,mM,h,i,j,kW,xp,cX,nS];refine Prod.ext rfl (Prod.ext ?_ rfl);dsimp only;omega
def OF {a:C Tg}{h:Int}{wt:Nat}{e:C Nat}(b:C Nat)(d:mw a h wt=(e,0))(p:wt<18446744073709551616):k8 (e++b)=((a,h.toNat,wt,e.length),0)/\0<=h:=by
 unfold mw at d;split at d
 .simp at d
 split at d
 .simp at d
 rename_i n o;split at d
 .rename_i m;simp only[r6,and_true]at d;subst d;refine⟨?_,by omega⟩;generalize c:er h.toNat++er wt++er a.length++kW a++b=g;have f:=dq List.length c;simp only[cX]at f;have d0:g.drop 0=er h.toNat++(er wt++(er a.length++(kW a++b))):=by rw[<-c];simp
  have i:=Hw (a:=1099511627776) (d:=1) d0 (by omega) (by omega);have d1:=x4 d0;have j:=Hw (a:=18446744073709551615) (d:=1) d1 (by omega) (by omega);have d2:=x4 d1;have k:=Hw (a:=8) (d:=5) d2 (by omega) (by omega);have d3:=x4 d2;have l:=Ut a b _ d3 m (by omega);unfold k8;simp only[i,j,k,l];simp[ma]
 .simp at d
end DF
namespace DF
def EM (c:C Tg):Prop:=∃b,∀a∈c,iJ a=0\/iJ a=b
def CG {c:C Tg}(d:∀b∈c,iJ b=0):EM c:=⟨0,λb a=>.inl (d b a)⟩
def UW {f:C Tg}{b:Tg}(e:Int)(d:iJ b=e)(c:∀b∈f,iJ b=0):EM (b::f):=⟨e,λg a=>(dh.1 a).elim (λc=>.inr (c▸d)) (λa=>.inl (c g a))⟩
def MW (c:Nat):iJ (⟨#[107]⟩,str [97+c])=0:=by
 have b:(sb ⟨#[107]⟩).all nb=true:=by decide+kernel
 have a:(⟨#[107]⟩:U).size=1:=rfl;unfold iJ;simp only[a,mL,eE,qp];rw[cJ (by omega),cM b,cJ (by omega)]
def asW (a:Nat)(b:a<3):iJ (⟨#[104,111,115,116,45]⟩++str [48+a],⟨#[48,49,50,51,52,53,54,55,56,57]⟩)=0:=by
 match a,b with
 |0,_=>decide+kernel
 |1,_=>decide+kernel
 |2,_=>decide+kernel
def asV (c:U):iJ (⟨#[75]⟩,c)=3:=by
 have b:¬(sb ⟨#[75]⟩).all nb=true:=by decide+kernel
 have a:¬(⟨#[75]⟩:U).size=0:=by decide
 unfold iJ;rw[cJ a,cJ b]
def asX {b:Tg}{c:U}(a:iJ b=0)(d:64<c.size):iJ (b.1,c)=4:=by
 unfold iJ at a|-;simp only at a|-;split at a
 .cases a
 split at a
 .split at a
  .cases a
  .rw[cJ ‹_›,cM ‹_›,cM (by omega)]
 .cases a
def akL (j:Nat)(d:M)(o:C Int)(y:Nat)(e:O)(h:nj e j d o y)(W:Hl e (du j d y)):Sr 99 [Z j] e (du j d y) λr G=>∃(b:C Tg)(g:Nat),(iN b/\∀P∈b,iJ P=0)/\b.length<=2/\G=[row r 87 2 b.length (dW b),du j d g]/\g<=o.length:=by
 refine dS func99 W ?_;refine cB ?_;refine cY (du j d y) [] func17 (cD _) (λe c f=>kz j d o y 9 e ⟨h.1.fg c (cD _),h.2⟩ f) ?_;rintro _ _ B ⟨n,A,rfl,hk,rfl,v⟩;refine cB ?_;refine I (BO rfl underlying3 underlying5 (by omega)) ?_;refine gZ jV λH ae=>?_;refine I (yd (A:=[97+n]) rfl underlying74 underlying5 underlying9 (λe c=>Rd.dM c (l:=0) rfl)) ?_;refine I (ee (λe=>Bz _ _ e)) ?_;refine gZ nf λK af=>?_;refine Y ?_;refine IE ?_;refine cB ?_;refine cY (du j d A) [_] func17 (List.Perm.swap ..) (λe c f=>kz j d o A 8 e ⟨h.1.fg c (List.Perm.swap ..),h.2.1,v⟩ f) ?_;rintro _ _ B ⟨z,l,rfl,hz,rfl,k⟩;refine cH [0,4,15] ?_;refine eS (λm G e=>∃ab b g,m=[(4,ab)]/\G=[du j d g,row ab 87 2 b.length (dW b)]/\(iN b/\∀P∈b,iJ P=0)/\b.length<=2/\g<=o.length) ?_ ?_
 .refine cQ ?_;refine I (e9 rfl rfl) ?_;refine cZ (λp=>?_) λp=>?_
  .refine cC ?_;refine I (ee (λe=>Bz _ _ e)) ?_;refine gZ nf λL ag=>?_;refine dw (BE nf rfl rfl (λe c=>Rd.dM c (l:=0) rfl) (by simp[Value.oneCell']) (by omega) (by omega)) ?_;rintro ad _ ah rfl;refine Y ?_;refine sM ?_;refine cH [4] ?_;refine⟨_,[(⟨#[107]⟩,str [97+n]),(⟨#[97,46,98]⟩,⟨#[]⟩)],l,rfl,rfl,⟨⟨by simp,by simp,?_⟩,?_⟩,by simp,k⟩
   .simp only[dh,nn,o6,Bh,wo,mL];exact⟨⟨by decide,by simp⟩,by decide,by decide⟩
   .simp only[dh,nn,o6,Bh,wo];exact⟨MW n,by decide+kernel⟩
  .refine cC ?_;refine I (e9 rfl rfl) ?_;refine cZ (λq=>?_) λq=>?_
   .refine cQ ?_;refine cY (du j d l) [_] func17 (cD _) (λe c f=>kz j d o l 3 e ⟨h.1.fg c (b:=[_]) (cD _),h.2.1,k⟩ f) ?_;rintro _ _ B ⟨S,X,rfl,s,rfl,w⟩;refine Y ?_;refine I (BO rfl underlying3 underlying5 (by omega)) ?_;refine gZ jV λQ ai=>?_;refine I (yd (A:=[48+S]) rfl underlying74 underlying5 underlying9 (λe c=>Rd.dM c (l:=0) rfl)) ?_;refine I (PL rfl rfl (by rw[mL];show 5+1<=_;omega)) ?_;refine I (ee (λe=>Bz _ _ e)) ?_;refine gZ nf λR aj=>?_;refine dw (Kd nf rfl rfl (λe c=>Rd.dM c (l:=0) rfl) (by simp[Value.oneCell']) (by omega) (by omega)) ?_;rintro D _ E rfl;refine Y ?_;refine sM (sM ?_);refine cH [4] ?_;refine⟨_,[(⟨#[107]⟩,str [97+n]),(⟨#[104,111,115,116,45]⟩++str [48+S],⟨#[48,49,50,51,52,53,54,55,56,57]⟩)],X,rfl,rfl,⟨⟨by simp,by simp,?_⟩,?_⟩,by simp,w⟩
    .simp only[dh,nn,o6,Bh,wo,mL,ByteArray.size_append];exact⟨⟨by decide,by simp⟩,by show 5+1<=_;omega,by decide⟩
    .simp only[dh,nn,o6,Bh,wo];exact⟨MW n,asW S s⟩
   .refine kw [4] rfl (iY ?_);refine⟨_,[(⟨#[107]⟩,str [97+n])],l,rfl,rfl,⟨⟨by simp,by simp,?_⟩,?_⟩,by simp,k⟩
    .simp only[dh,nn,o6,wo,mL];exact⟨by decide,by simp⟩
    .simp only[dh,nn,o6,wo];exact MW n
 .rintro _ _ e ⟨ab,b,g,rfl,rfl,x,t,u⟩;refine N [2] ?_;refine Vc (eM ?_);refine⟨_,_,λa T c=>im results99 rfl a T _,gq _,?_⟩;exact⟨b,g,x,t,rfl,u⟩
def aaE (v:Nat)(k:M)(Q:C Int)(p:Nat)(T:Int)(u:O)(q:nj u v k Q p)(hs:Hl u (du v k p)):Sr 59 [Z v,F T] u (du v k p) λr H=>∃(A:M)(c:C Tg)(wt w:Nat),r=.agg #[A,F T,J wt]/\(Cw c/\EM c)/\wt<18446744073709551616/\H=[row A 87 2 c.length (dW c),du v k w]/\w<=Q.length:=by
 refine dR func59 hs ?_;refine NV [vN,F 0,J 0] λB ax=>?_;refine cB ?_;refine cY (du v k p) [_] func99 (List.Perm.swap ..) (λu e l=>akL v k Q p u ⟨q.1.fg e (List.Perm.swap ..),q.2⟩ l) ?_;rintro v1 _ w1 ⟨c,p1,G,ai,rfl,ak⟩;refine cC ?_;refine cY (du v k p1) [_,_] func100 (List.Perm.swap ..) (λu e l=>TF v k Q p1 u ⟨q.1.fg e (List.Perm.swap ..),q.2.1,ak⟩ l) ?_;rintro _ _ w2 ⟨wt,p2,rfl,aE,aF,rfl,al⟩;obtain⟨⟨R,t,o⟩,f⟩:=G;obtain⟨j,b,rfl⟩:∃j b,c=j::b:=yZ R;have aG:b.length<=1:=by simp only[eE]at ai;omega
 have K:=o j (dQ ..);have S:∀T∈b,T.1.size<=20/\T.2.size<=70:=λT h=>o T (dN _ h);have x:=rR (j::b);refine kq λe=>?_;obtain⟨g,cap,rfl⟩:=fs e (q:=1) rfl (show 0<(j::b).length from R);clear e;refine I (ee (λu=>Oa _ _ _ _ _ u)) ?_;refine dj [vN,F 0,J 0] λD ay=>?_;refine cO 0 λaz=>?_;refine cB ?_;refine cY (du v k p2) [_,_,_] func17 (List.Perm.swap ..) (λu e l=>kz v k Q p2 24 u ⟨q.1.fg e (List.Perm.swap ..),q.2.1,al⟩ l) ?_;rintro _ _ w3 ⟨z,s,rfl,hz,rfl,n⟩;refine cH [0,4,5,13] ?_;refine eS (λm H u=>∃(A:M)(c:C Tg)(wt w:Nat),m=[(4,Z B),(5,Z D)]/\
 H=[du v k w,cF D [A,F T,J wt] 79,row A 87 2 c.length (dW c),cF B [vN,F 0,J 0] 79]/\
 (Cw c/\EM c)/\wt<18446744073709551616/\w<=Q.length) ?_ ?_
 .refine cQ ?_;refine I (e9 rfl rfl) ?_;refine cZ (λab=>?_) λab=>?_
  .refine cC ?_;refine cY (du v k s) [_,_,_] func101 (cD _) (λu e l=>Ve v k Q s u ⟨q.1.fg e (b:=[_,_,_]) (cD _),q.2.1,n⟩ l) ?_;rintro _ _ w4 ⟨an,P,rfl,X,rfl,E⟩;refine KW 1 λaA=>?_;refine cH [4,5] ?_;exact⟨_,j::b,an,P,rfl,rfl,⟨⟨t,o⟩,CG f⟩,X,E⟩
  .refine cC ?_;refine I (e9 rfl rfl) ?_;refine cZ (λx=>?_) λx=>?_
   .refine mm 10 [6,7,9] [(_,some 9),(_,some 7)] [_,_] (jQ [_] [_,_] [_]) λaH=>?_;refine cL ?_;refine ew rfl (cR (ad:=by simp)) ?_;refine ew rfl (je 1 (b:=[.string j.1,.string j.2])) ?_;refine gY rfl (qi nf) ?_;rintro _ _ aB ⟨av,rfl,rfl⟩;refine⟨_,eg.symm,?_⟩;refine gY rfl (O3 nf rfl rfl (λu e=>Rd.dM e (l:=2) rfl) (by simp[Value.oneCell']) (by simp;omega) (by simp;omega)) ?_;rintro _ _ w6 ⟨⟨A6,W,rfl⟩,rfl⟩;refine⟨_,cD _,?_⟩;refine Y ?_;refine jC rfl (gD 0) ?_;rintro _ _ aC rfl;refine⟨_,cD _,?_⟩;refine sQ [4,5] [3,0,0,1] ?_;refine⟨PA A6 (b.length+1+1) W,(j::b)++[j],wt,s,rfl,by simp[dW],⟨⟨by simp;omega,?_⟩,CG (λL d=>by
     rcases dV.1 d with d|d
     .exact f L d
     .rw[fI]at d;subst d;exact f _ (dQ ..))⟩,by omega,n⟩
    simp only[dV,fI];rintro L (d|rfl)
    .exact o L d
    .exact K
   .refine cC ?_;refine I (e9 rfl rfl) ?_;refine cZ (λad=>?_) λad=>?_
    .refine cQ ?_;refine I (cR (ad:=by simp)) ?_;refine Y ?_;refine iQ (fK 2 (y:=dW ((⟨#[75]⟩,j.2)::b)) (hl:=by simp only[eE,qp]at x|-;omega)) ?_;rintro _ _ aD rfl;refine cH [4,5] ?_;refine⟨_,(⟨#[75]⟩,j.2)::b,wt,s,rfl,rfl,⟨⟨t,?_⟩,UW 3 (asV j.2) (λL d=>f L (dN _ d))⟩,by omega,n⟩;intro L d;rcases dh.1 d with rfl|d
     .exact⟨by show(ByteArray.mk #[75]).size<=20;decide,K.2⟩
     .exact S L d
    .refine cC ?_;refine I (e9 rfl rfl) ?_;refine cZ (λae=>?_) λae=>?_
     .refine KW 1 λao=>?_;refine cH [4,5] ?_;exact⟨_,j::b,0,s,rfl,rfl,⟨⟨t,o⟩,CG f⟩,by omega,n⟩
     .refine cC ?_;refine I (e9 rfl rfl) ?_;refine cZ (λaf=>?_) λaf=>?_
      .refine KW 1 λap=>?_;refine M6 87 2 (M7 [1,1,0,1] rfl ?_);refine cH [4,5] ?_;exact⟨_,[],wt,s,rfl,rfl,⟨⟨by simp,by simp⟩,CG (by simp)⟩,by omega,n⟩
      .refine cC ?_;refine I (e9 rfl rfl) ?_;refine cZ (λag=>?_) λag=>?_
       .refine cQ ?_;refine I (cR (ad:=by simp)) ?_;refine Y ?_;refine iQ (fK 2 (y:=dW ((j.1,⟨([48,49,50,51,52,53,54,55,56,57,48,49,50,51,52,53,54,55,56,57,48,49,50,51,52,53,54,55,56,57,48,49,50,51,52].append [53,54,55,56,57,48,49,50,51,52,53,54,55,56,57,48,49,50,51,52,53,54,55,56,57,48,49,50,51,52,53,54,55,56,57]).toArray⟩)::b)) (hl:=by simp only[eE,qp]at x|-;omega)) ?_;rintro _ _ aq rfl;refine cH [4,5] ?_;refine⟨_,_::b,wt,s,rfl,rfl,⟨⟨t,?_⟩,UW 4 (asX (f j (dQ ..)) (show 64<(70:Nat) by omega)) (λL d=>f L (dN _ d))⟩,by omega,n⟩;intro L d;rcases dh.1 d with rfl|d
        .exact⟨K.1,by show(70:Nat)<=70;omega⟩
        .exact S L d
       .refine cC ?_;refine I (e9 rfl rfl) ?_;refine cZ (λah=>?_) λah=>?_
        .refine cC ?_;refine cY (du v k s) [_,_,_] func17 (cD _) (λu e l=>kz v k Q s 2 u ⟨q.1.fg e (b:=[_,_,_]) (cD _),q.2.1,n⟩ l) ?_;rintro _ _ w4 ⟨y,P,rfl,hy,rfl,E⟩;refine KW 1 λar=>?_;refine cH [4,5] ?_;exact⟨_,j::b,9223372036854775808+y,P,rfl,rfl,⟨⟨t,o⟩,CG f⟩,by omega,E⟩
        .refine kw [4,5] rfl (iY ?_);exact⟨_,j::b,wt,s,rfl,rfl,⟨⟨t,o⟩,CG f⟩,by omega,n⟩
 .rintro _ _ u ⟨A,c,wt,w,rfl,rfl,G,am,aj⟩;refine eQ λe=>?_;obtain⟨A7,aw,rfl⟩:=fS e (p:=2) rfl;clear e;refine K3 1 (f:=[_,_,_]) ?_;refine cO 3 λau=>?_;refine cH [4] ?_;refine ET [3,2,0] rfl (eM ?_);refine⟨_,_,λa ha e=>HN 0 results59 rfl a ha e underlying79 rfl (by kernel_rfl) rfl,fO ..,?_⟩;exact⟨_,c,wt,w,rfl,G,am,rfl,aj⟩
end DF
namespace DF
def jN (a:C Tg)(b:Int)(wt:Nat):(C Nat×Int×Nat)×Int:=if b<0\/1099511627776<b\/wt=0\/9223372036854775808<wt then(([],0,0),1)else if(iL a).2≠0 then(([],0,0),(iL a).2)else(((iL a).1,b,wt),0)
def Lp (a:C Nat×Int×Nat):M:=.agg #[.string (str a.1),F a.2.1,J a.2.2]
def Ob (a:O):(Instr.build 57 #[]).run prog a=.ok (PE [.string ⟨#[]⟩,F 0,J 0]) a:=by kernel_rfl
def X9 (a:U)(b:Int)(wt:Int)(c:O):(Instr.build 57 [(0,.string a),(1,F b),(2,J wt)].toArray).run prog c=.ok (PE [.string a,F b,J wt]) c:=by kernel_rfl
def V4 (f:fR):Prop:=∀(b:M)(a:C Tg)(c:Int)(wt:Nat)(d:O),Rd d cW 2 b a.length (dW a)->a.length<=140737488355328->(∀h∈a,h.1.size<=140737488355328)->Sn f [.agg #[b,F c,J wt]] d λg e=>g=.tuple #[Lp (jN a c wt).1,F (jN a c wt).2]/\e=[]
def Q7:V4 27:=by
 intro B f D wt e k t l;obtain⟨G,H,rfl,s,r,A⟩:=id k;refine dS func27 hS ?_;refine Mf λp u=>?_;refine dj [vE,F 0,J 0] λq v=>?_;refine N [1,2] ?_;refine df ?_;refine I (gN rfl rfl) ?_;refine Y ?_;refine lj (H:=3) (A:=decide (1099511627776<D)) 3 [(1,_),(2,_)] ⟨rfl,rfl,trivial⟩ rfl rfl rfl rfl rfl (λm=>?_) (λw=>?_)
 .refine cC ?_;refine dZ rfl rfl (gA rfl rfl) ?_;exact iy
 refine Y ?_;refine lj (H:=8) (A:=decide ((wt:Int)=0)) 3 [(1,_),(2,_)] ⟨rfl,rfl,trivial⟩ rfl rfl rfl rfl rfl (λh=>?_) (λn=>?_)
 .refine cC ?_;refine dZ rfl rfl (e9 rfl rfl) ?_;exact iy
 refine Y ?_;refine lj (H:=13) (A:=decide (9223372036854775808<(wt:Int))) 3 [(1,_),(2,_)] ⟨rfl,rfl,trivial⟩ rfl rfl rfl rfl rfl (λi=>?_) (λo=>?_)
 .refine cC ?_;refine dZ rfl rfl (gA rfl rfl) ?_;exact iy
 refine fP (λc=>?_) λc=>?_
 .simp only[jh,fU]at c;refine cC ?_;refine I (ee (λe=>Ob e)) ?_;refine cO 0 λx=>?_;refine N [2,3] ?_;refine eM ?_;refine⟨_,_,λg b a=>eW results27 (eX (e4 0 rfl underlying57 rfl (by kernel_rfl) rfl) (gg rfl eY)) g b _ a,iw _,?_⟩;exact⟨by rw[jN,cM (by omega)];rfl,rfl⟩
 .simp only[jh,fU]at c;refine Ku func34 (λe a=>Rf _ f e (k.dx a) t l) ?_;rintro _ _ E ⟨rfl,rfl⟩;refine N [1,2,4,5] ?_;refine cL ?_;refine I (jt rfl rfl) ?_;refine cZ (λd=>?_) λd=>?_
  .refine cC ?_;refine I (ee (λe=>Ob e)) ?_;refine KW 0 λy=>?_;refine N [2,3] ?_;refine eM ?_;refine⟨_,_,λg b a=>eW results27 (eX (e4 0 rfl underlying57 rfl (by kernel_rfl) rfl) (gg rfl eY)) g b _ a,iw _,?_⟩;exact⟨by rw[jN,cJ (by omega),cM d];rfl,rfl⟩
  .refine iq ?_;refine I (ee (λe=>X9 _ _ _ e)) ?_;refine cO 0 λz=>?_;refine N [2,3] ?_;refine eM ?_;refine⟨_,_,λg b a=>eW results27 (eX (e4 0 rfl underlying57 rfl (by kernel_rfl) rfl) (gg rfl eY)) g b _ a,iw _,?_⟩;exact⟨by rw[jN,cJ (by omega),cJ d];rfl,rfl⟩
end DF
namespace DF
def jb (a:Int):Int:=if a=0 then 0 else if a=4 then 2 else 1
def as1 (c:Int)(h:O):Sn 120 [F c] h λg f=>g=F (jb c)/\f=[]:=by
 refine dS func120 hS ?_;refine N [0] ?_;refine N [3] ?_;refine cQ ?_;refine I (e9 rfl rfl) ?_;refine cZ (λa=>?_) λa=>?_
 .refine db results120 ?_;have e:c=0:=by simpa using a
  exact⟨by simp[jb,e,l8],rfl⟩
 .refine cC ?_;refine I (e9 rfl rfl) ?_;refine cZ (λb=>?_) λb=>?_
  .refine db results120 ?_;have e:¬c=0:=by simpa using a
   have d:c=4:=by simpa using b
   exact⟨by simp[jb,d,l8],rfl⟩
  .refine db results120 ?_;have e:¬c=0:=by simpa using a
   have d:¬c=4:=by simpa using b
   exact⟨by simp[jb,e,d,l8],rfl⟩
end DF
namespace DF
def Il:fB prog 73 79 3 40 (.agg #[vN,F 0,J 0]):=.mk' underlying73 (by kernel_rfl) rfl (by decide)
abbrev Ev:=M×C Tg×Int×Nat
def fp (b:C Ev):C M:=b.flatMap λa=>[a.1,F a.2.2.1,J a.2.2.2]
def yI (a:Ev):V:=row a.1 87 2 a.2.1.length (dW a.2.1)
def wK (a:C Ev):(fp a).length=a.length*3:=by
 induction a with
 |nil=>rfl
 |cons c a b=>simp only[fp,ji,cX,eE,qp]at b|-;omega
def DM (a b:C Ev):fp (a++b)=fp a++fp b:=by simp[fp]
def x6 {a:C Ev}{b:Nat}{c:Ev}(h:a[b]? =some c):((fp a).drop (0+b*3)).take 3=[c.1,F c.2.2.1,J c.2.2.2]:=by
 obtain⟨e,rfl⟩:=da.1 h;have g:a=a.take b++a[b]::a.drop (b+1):=by rw[<-jP e,gJ]
 have f:(fp (a.take b)).length=b*3:=by rw[wK,eD];omega
 have d:fp a=fp (a.take b)++([a[b].1,F a[b].2.2.1,J (a[b].2.2.2:Int)]++fp (a.drop (b+1))):=by
  conv=>lhs;rw[g]
  simp only[fp,j9,ji]
 rw[d,dU,<-f,kZ];rfl
def q6 (a:Int)(b:Ev):Prop:=Cw b.2.1/\EM b.2.1/\0<=b.2.2.1/\b.2.2.1<=a+60/\b.2.2.2<18446744073709551616
def aaG (f:Nat)(b:M)(s:C Int)(z:Nat)(a:Int)(D:Nat)(l:O)(ht:0<=a/\a<=1000)(hk:D<=20)(h:nj l f b s z)(T:Hl l (du f b z)):Sr 30 [Z f,F a,F D] l (du f b z) λr G=>∃(e:C Ev)(A:Nat),1<=e.length/\e.length<=D+1/\(∀B∈e,q6 a B)/\G=[row r 79 3 e.length (fp e),cz (e.map yI),du f b A]/\A<=s.length:=by
 refine hJ func30 T ?_;refine cB ?_;refine cY (du f b z) [] func17 (cD _) (λl c d=>kz f b s z (D+1) l ⟨h.1.fg c (b:=[]) (cD _),h.2⟩ d) ?_;rintro _ _ w1 ⟨E,W,rfl,hz,rfl,u⟩;refine N [0,1,7,8] ?_;refine Y ?_;refine sL ?_;refine gh 79 3 ?_;refine dB (λq m G w'=>∃(L:M)(e:C Ev)(g:Nat),m=[(0,Z f),(1,F a),(7,L),(8,F ((q:Int)-1))]/\G=[row L 79 3 e.length (fp e),cz (e.map yI),du f b g]/\e.length+q=E+1/\(∀B∈e,q6 a B)/\g<=s.length) (E+1) ⟨_,[],W,by rw[show((E+1:Nat):Int)-1=(E:Int) by omega],rfl,by simp,by simp,u⟩ ?_;rintro q _ _ w2 ⟨L,e,g,rfl,rfl,hq,hE,n⟩;refine cL ?_;refine I (m6 rfl rfl) ?_;refine cZ (λt=>?_) λt=>?_
 .refine eQ λc=>?_;obtain⟨ad,cu,rfl⟩:=fS c (p:=0) rfl;clear c;refine iq ?_;refine cY (du f b g) [_,_] func17 (c8 2 rfl) (λl c d=>kz f b s g 60 l ⟨h.1.fg (h:=du f b g) c (c8 2 rfl),h.2.1,n⟩ d) ?_;rintro _ _ w3 ⟨ab,p,rfl,hy,rfl,v⟩;refine cC ?_;refine I (wR (r:=max (a+ab-20) 0) rfl rfl (by split<;>omega)) ?_;refine cY (du f b p) [_,_] func59 (cD _) (λl c d=>aaE f b s p (max (a+ab-20) 0) l ⟨h.1.fg (h:=du f b p) c (cD _),h.2.1,v⟩ d) ?_;rintro _ _ w4 ⟨sl,k,wt,X,rfl,⟨x,o⟩,y,rfl,w⟩;refine kq λc=>?_;obtain⟨H,R,rfl⟩:=fS c (p:=0) rfl;clear c;refine gZ Il λQ P=>?_;refine dw (jo 3 Il) ?_;rintro _ _ w5 ⟨⟨K,S,rfl⟩,rfl⟩;refine fu [4,1,2,1] ?_;refine Vk ?_;refine fu [1,0,0] ?_;refine ir [0,1,7,8] ?_;refine⟨q-1,by omega,PA K (e.length+1) S,e++[(PA H k.length R,k,max (a+ab-20) 0,wt)],X,by rw[show(q:Int)-1-1=((q-1:Nat):Int)-1 by omega],?_,by simp;omega,?_,w⟩
  .rw[cX,dE,DM];rfl
  .intro B j;rcases dV.1 j with j|j
   .exact hE B j
   .simp at j;subst j;exact⟨x,o,by show 0<=max _ _;omega,by show max _ _<=_;omega,y⟩
 .obtain rfl:q=0:=by omega
  refine dI ?_;refine db results30 ?_;exact⟨e,g,by omega,by omega,hE,rfl,n⟩
end DF
namespace DF
def kG (a:Ev):C Nat×Int:=mw a.2.1 a.2.2.1 a.2.2.2
def ue:C Ev->Int
 |[]=>0
 |a::b=>if(kG a).2≠0 then(kG a).2 else ue b
def jk (a:C Ev):C Nat:=a.flatMap λb=>(kG b).1
def mv (a:C Ev):C Nat×Int:=if a.length=0\/64<a.length then([],1)else if ue a≠0 then([],ue a)else if 4096<(er a.length++jk a).length then([],4)else(er a.length++jk a,0)
def wS (a:C Ev):C Nat×Int:=if(mv a).2≠0 then([],(mv a).2)else(er (mv a).1.length++(mv a).1,0)
def Qb:∀{c:C Ev}{h:Nat}{e:Ev},(∀f∈c.take h,(kG f).2=0)->c[h]? =some e->(kG e).2≠0->ue c=(kG e).2
 |[],_,_,_,b,_=>by simp at b
 |f::c,0,e,_,b,a=>by simp at b;subst b;rw[ue,cM a]
 |f::c,h+1,e,d,b,a=>by have i:=d f (by simp);rw[ue,cJ (by omega)];exact Qb (λj g=>d j (by rw[List.take_succ_cons];exact dN _ g)) (by simpa using b) a
def Gy:∀{a:C Ev},(∀c∈a,(kG c).2=0)->ue a=0
 |[],_=>rfl
 |c::a,d=>by have e:=d c (dQ ..);rw[ue,cJ (by omega)];exact Gy λf b=>d f (dN _ b)
def aaJ (a:C Ev)(b:Ev):jk (a++[b])=jk a++(kG b).1:=by simp[jk]
def PG (a:C Ev):(jk a).length<=a.length*100000:=by
 induction a with
 |nil=>simp[jk]
 |cons c a b=>have:(kG c).1.length<=100000:=Kl;simp only[jk,ji,cX,eE]at b|-;omega
def XA (a:C Ev):(mv a).1.length<=4096:=by
 unfold mv;split
 .simp
 split
 .simp
 split
 .simp
 .show(er a.length++jk a).length<=4096;omega
def wv (c:O)(d:M)(b:C Ev):Prop:=Rd c cW 3 d b.length (fp b)/\∀a∈b,Rd c cW 2 a.1 a.2.1.length (dW a.2.1)/\a.2.1.length<=1000000/\(-9223372036854775808<=a.2.2.1/\a.2.2.1<=9223372036854775807)/\a.2.2.2<18446744073709551616
def wv.dx {c g:O}{i:C V}{f:M}{e:C Ev}(d:wv c f e)(a:cI c cW i g):wv g f e:=⟨d.1.dx a,λh b=>⟨(d.2 h b).1.dx a,(d.2 h b).2⟩⟩
def VX (f:fR):Prop:=∀(c:M)(a:C Ev)(d:O),wv d c a->a.length<=1000000->Sn f [c] d λg e=>∃b,g=.tuple #[b,F (mv a).2]/\e=[row b 5 1 (mv a).1.length (bv (mv a).1)]
def V0 (f:fR):Prop:=∀(c:M)(a:C Ev)(d:O),wv d c a->a.length<=1000000->Sn f [c] d λg e=>∃b,g=.tuple #[b,F (wS a).2]/\e=[row b 5 1 (wS a).1.length (bv (wS a).1)]
def XC:VX 48:=by
 intro v a R z hn;obtain⟨A,c,rfl,al,aj,G⟩:=id z.1;refine dS func48 hS ?_;refine N [0] ?_;refine df ?_;refine I (e9 rfl rfl) ?_;refine Y ?_;refine lj (H:=3) (A:=decide ((64:Int)<(a.length:Int))) 3 [(0,_)] ⟨rfl,trivial⟩ rfl rfl rfl rfl rfl (λQ=>?_) (λad=>?_)
 .refine cC ?_;refine dZ rfl rfl (gA rfl rfl) ?_;exact iy
 refine fP (λk=>?_) λk=>?_
 .simp only[jh,fU]at k;refine gh 5 1 ?_;refine db results48 ?_;exact⟨_,by rw[mv,cM (by omega)];rfl,by rw[mv,cM (by omega)];rfl⟩
 .simp only[jh,fU,tM]at k;have b:mv a=if ue a≠0 then([],ue a)else if 4096<(er a.length++jk a).length then([],4)else(er a.length++jk a,0):=by rw[mv,cJ (by omega)]
  have ai:=nF a.length;refine eL ?_;refine dd func49 (λR l=>xS vN [] a.length R (Rd.nil _ _ _) (by simp) (by omega)) ?_;rintro K _ w1 rfl;refine K4 [4,21,22,23] ?_;refine dB (λab m H w'=>∃(e:Nat)(K:M),m=[(4,K),(21,PA A a.length c),(22,F a.length),(23,F e)]/\H=[row K 5 1 (er a.length++jk (a.take e)).length (bv (er a.length++jk (a.take e)))]/\ab+e=a.length/\∀ag∈a.take e,(kG ag).2=0) a.length ⟨0,K,rfl,by simp[jk],rfl,by simp⟩ ?_;rintro ab _ _ w2 ⟨e,V2,rfl,rfl,hk,d⟩;refine cC ?_;refine I (gN rfl rfl) ?_;refine cZ (λt=>?_) λt=>?_
  .have x:e<a.length:=by omega
   obtain⟨f,i⟩:∃f,a[e]? =some f:=⟨_,dr x⟩;obtain⟨b2,am,rfl,_,_,o⟩:=G.resolve_left (by omega);obtain⟨q,B,D,E⟩:=z.2 f (eH i);obtain⟨S,cs,ah,_⟩:=id q;have p:=PG (a.take e);rw[eD]at p;have ak:(kG f).1.length<=100000:=Kl;have P:(er a.length++jk (a.take e)).length<=7000000:=by rw[cX];omega
   refine df ?_;refine I (cR (ab:=e) (ad:=x)) ?_;refine I (Gt (E:=[f.1,F f.2.2.1,J f.2.2.2]) rfl underlying79 rfl (by kernel_rfl) (λj u n=>by
    have L:=x6 i;rw[<-L,mT]at n;split at n
    .rw[kQ,dU]at n;have:=o (e*3+j) u n
     rwa [<-ma]at this
    .cases n) id) ?_
   refine dj [vN,F 0,J 0] λW ae=>?_;rw[ah];refine cO 0 λaf=>?_;refine K3 0 (f:=[_,_,_]) ?_;refine dd func76 (λR l=>by have L:=aat f.1 f.2.1 f.2.2.1 f.2.2.2 R (q.dx l) B D E;rw[ah]at L;exact L) ?_;rintro _ _ w3 ⟨V3,rfl,rfl,_⟩;refine N [4,7,8,21,22,23] ?_;refine cL ?_;refine I (jt rfl rfl) ?_;refine cZ (λh=>?_) λh=>?_
   .refine pF [] (iw _) ?_;refine gh 5 1 ?_;refine db results48 ?_;have r:=Qb d i h;have s:ue a≠0:=by rw[r];exact h
    exact⟨_,by rw[b,cM s,r];rfl,by rw[b,cM s];rfl⟩
   .refine cL ?_;refine dw (jo 2 jV (h1:=F6 _) (ae:=by show(_+(kG f).1.length)*1<=_;omega) (ah:=by show _+(kG f).1.length<=_;omega)) ?_;rintro _ _ w5 ⟨⟨T,X,rfl⟩,rfl⟩;refine Y ?_;refine fu [2] ?_;refine cH [4,21,22,23] ?_;refine N [4,21,22,23] ?_;have y:a.take (e+1)=a.take e++[f]:=by rw[ia,i];rfl
    refine⟨ab-1,by omega,e+1,PA T ((er a.length++jk (a.take e)).length+(kG f).1.length) X,rfl,?_,by omega,λag g=>?_⟩
    .rw[y,aaJ,<-dJ,show bv (er a.length++jk (a.take e)++(kG f).1)=bv (er a.length++jk (a.take e))++bv (kG f).1 from tR _ _,cX (bs:=(kG f).1)];rfl
    .rw[y]at g;rcases dV.1 g with g|g
     .exact d ag g
     .simp at g;subst g;exact AM.1 h
  .obtain rfl:e=a.length:=by omega
   rw[j6]at d|-;have r:=Gy d;have p:=PG a;refine eQ λl=>?_;obtain⟨U6,c6,rfl⟩:=fS l (p:=0) rfl;clear l;refine dI ?_;refine df ?_;refine I (gA rfl rfl) ?_;refine cZ (λw=>?_) λw=>?_
   .refine pF [] (iw _) ?_;refine gh 5 1 ?_;refine db results48 ?_;exact⟨_,by rw[b,cJ (by omega),cM (by omega)];rfl,by rw[b,cJ (by omega),cM (by omega)];rfl⟩
   .refine db results48 ?_;exact⟨_,by rw[b,cJ (by omega),cJ (by omega)];rfl,by rw[b,cJ (by omega),cJ (by omega)]⟩
def Qo:V0 25:=by
 intro p d c g f;have k:=XA d;refine dS func25 hS ?_;refine Ku func48 (λc b=>XC p d c (g.dx b) f) ?_;rintro _ _ q ⟨t,rfl,rfl⟩;refine kq λb=>?_;obtain⟨s,o,rfl⟩:=fS b (p:=0) rfl;clear b;refine N [4,5] ?_;refine cL ?_;refine I (jt rfl rfl) ?_;refine cZ (λa=>?_) λa=>?_
 .refine pF [] (iw _) ?_;refine gh 5 1 ?_;refine db results25 ?_;exact⟨_,by rw[wS,cM a];rfl,by rw[wS,cM a];rfl⟩
 .refine eL ?_;refine dd func49 (λc b=>xS vN [] (mv d).1.length c (Rd.nil _ _ _) (by simp) (by omega)) ?_;rintro m _ r rfl;have l:=nF (mv d).1.length;refine Y ?_;refine dw (DD jV rfl rfl (λc b=>Rd.dM b (l:=1) rfl) (F6 _) (by simp;omega) (by simp;omega)) ?_;rintro h _ j rfl;refine N [2,3] ?_;refine ET [0] rfl (eM ?_);refine⟨_,_,λn e b=>im results25 rfl n e _,gq _,?_⟩;exact⟨_,by rw[wS,cJ a];rfl,by rw[wS,cJ a];simp[bv]⟩
end DF
namespace DF
def t140:fB prog 140 139 4 40 (.agg #[vE,F 0,J 0,F 0]):=.mk' underlying140 (by kernel_rfl) rfl (by decide)
abbrev In:=(C Nat×Int×Nat)×Int
def lL (b:C In):C M:=b.flatMap λa=>[.string (str a.1.1),F a.1.2.1,J a.1.2.2,F a.2]
def B4 (a:In):M:=.agg #[.string (str a.1.1),F a.1.2.1,J a.1.2.2,F a.2]
def acg (a:C In):(lL a).length=a.length*4:=by
 induction a with
 |nil=>rfl
 |cons c a b=>simp only[lL,ji,cX,eE,qp]at b|-;omega
def GX {a:C In}{b:Nat}{c:In}(h:a[b]? =some c):((lL a).drop (0+b*4)).take 4=[.string (str c.1.1),F c.1.2.1,J c.1.2.2,F c.2]:=by
 obtain⟨e,rfl⟩:=da.1 h;have g:a=a.take b++a[b]::a.drop (b+1):=by rw[<-jP e,gJ]
 have f:(lL (a.take b)).length=b*4:=by rw[acg,eD];omega
 have d:lL a=lL (a.take b)++([.string (str a[b].1.1),F a[b].1.2.1,J (a[b].1.2.2:Int),F a[b].2]++lL (a.drop (b+1))):=by
  conv=>lhs;rw[g]
  simp only[lL,j9,ji]
 rw[d,dU,<-f,kZ];rfl
def qY:In:=(([],0,0),1)
def ss (b:Int)(a:C Tg)(c:Int)(wt:Nat):In:=if(jN a c wt).2≠0 then(([],0,0),jb (jN a c wt).2)else if b<((jN a c wt).1.1.length:Int)then(([],0,0),2)else((jN a c wt).1,0)
def nw (b:Int):Nat->C Nat->C In×C Nat×Bool
 |0,a=>([],a,true)
 |c+1,a=>if(k8 a).2≠0 then([],a,false)else(ss b (k8 a).1.1 (k8 a).1.2.1 (k8 a).1.2.2.1::(nw b c (a.drop (k8 a).1.2.2.2)).1,(nw b c (a.drop (k8 a).1.2.2.2)).2)
def iH (a:C Nat)(b:Int):C In:=if(gC a).2.2≠0\/(gC a).1=0\/64<(gC a).1 then[qY]else let c:=nw b (gC a).1 (a.drop (gC a).2.1);if c.2.2=true then(if c.2.1=[]then c.1 else c.1++[qY])else c.1++List.replicate ((gC a).1-c.1.length) qY
def By (a:Int)(b:O):(Instr.build 139 [(1,F a)].toArray).run prog b=.ok (PE [.string ⟨#[]⟩,F 0,J 0,F a]) b:=by kernel_rfl
def X6 (a:U)(b c d:Int)(e:O):(Instr.build 139 [(0,PE [.string a,F b,J c]),(1,F d)].toArray).run prog e=.ok (PE [.string a,F b,J c,F d]) e:=by kernel_rfl
def aci (m:M)(a:C Tg)(i:Int)(wt:Nat)(b:Int)(e:O)(k:Rd e cW 2 m a.length (dW a))(t:a.length<=140737488355328)(l:∀K∈a,K.1.size<=140737488355328):Sn 80 [.agg #[m,F i,J wt],F b] e λE B=>E=B4 (ss b a i wt)/\B=[]:=by
 obtain⟨L,Q,rfl,s,r,D⟩:=id k;refine dR func80 hS ?_;refine Mf λn u=>?_;refine dj [vE,F 0,J 0,F 0] λo v=>?_;refine K3 1 (f:=[_,_,_]) ?_;refine dd func27 (λe c=>Q7 _ a i wt e (k.dx c) t l) ?_;rintro _ _ G ⟨rfl,rfl⟩;refine NV [vE,F 0,J 0] λp w=>?_;refine cO 0 λx=>?_;refine N [1,4,5,6] ?_;refine cL ?_;refine I (jt rfl rfl) ?_;refine cZ (λd=>?_) λd=>?_
 .refine Ku func120 (λe c=>as1 _ e) ?_;rintro _ _ H ⟨rfl,rfl⟩;refine I (ee (λe=>By _ e)) ?_;refine cO 1 λy=>?_;refine cH [4] ?_;refine eM ?_;refine⟨_,_,λj f c=>eW results80 (eX (e4 1 rfl underlying139 rfl (by kernel_rfl) rfl) eY) j f _ c,iw _,?_⟩;exact⟨by rw[ss,cM d];rfl,rfl⟩
 .refine iq ?_;refine I (gA rfl rfl) ?_;refine cZ (λg=>?_) λg=>?_
  .have h:b<((jN a i wt).1.1.length:Int):=by
    have q:b<((str (jN a i wt).1.1).size:Int):=g
    rwa [mL]at q
   refine cC ?_;refine I (ee (λe=>By _ e)) ?_;refine cO 1 λz=>?_;refine cH [4] ?_;refine eM ?_;refine⟨_,_,λj f c=>eW results80 (eX (e4 1 rfl underlying139 rfl (by kernel_rfl) rfl) eY) j f _ c,iw _,?_⟩;exact⟨by rw[ss,cJ d,cM h];rfl,rfl⟩
  .have h:¬b<((jN a i wt).1.1.length:Int):=by
    have q:¬b<((str (jN a i wt).1.1).size:Int):=g
    rwa [mL]at q
   refine K3 0 (f:=[_,_,_]) ?_;refine I (ee (λe=>X6 _ _ _ _ e)) ?_;refine cO 1 λA=>?_;refine cH [4] ?_;refine eM ?_;refine⟨_,_,λj f c=>eW results80 (eX (e4 1 rfl underlying139 rfl (by kernel_rfl) rfl) eY) j f _ c,iw _,?_⟩;exact⟨by rw[ss,cJ d,cJ h];rfl,rfl⟩
end DF
end Go.Proofs.YtdlpoonfcdoiiaaGreat
