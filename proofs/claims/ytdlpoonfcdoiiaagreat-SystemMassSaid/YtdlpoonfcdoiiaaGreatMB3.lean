/- What the code does, step by step, and plain facts: part 3. They have no conditions. -/
import Derived.Test.YtdlpoonfcdoiiaaGreatMB2
namespace Go.Proofs.YtdlpoonfcdoiiaaGreat
open Go.RowKit Go.Proofs.Tryz
set_option maxHeartbeats 40000000
set_option linter.all false
theorem cA {a:dX}{c:dk}{b:TypeDesc}(d:a.underlying c=some b):UF a c b:=⟨d⟩
theorem c7 {c:dX}{i:dk}{a:Array Field}{d:Field}(b h:Nat)(j:c.underlying i=some (.struct a))(e:a[b]? =some d:=by exact rfl)(f:d.offset=h:=by exact rfl)(g:(match c.info? d.type with|some b=>Nat.beq b.size 0|.none=>true)=false:=by kernel_rfl):FO c i b h:=⟨_,_,j,e,f,g⟩
theorem kC {b:dX}{e d:dk}(a:Nat)(f:b.underlying e=some (.slice d))(c:(b.info? d).map (·.size)=some a:=by kernel_rfl):ES b e a:=⟨_,f,c⟩
theorem Nd {b:dX}{e d len:dk}(a:Nat)(f:b.underlying e=some (.array len d))(c:(b.info? d).map (·.size)=some a:=by kernel_rfl):EA b e len a:=⟨_,f,c⟩
abbrev Hl (b:O)(a:V):Prop:=cI b a.fq [a] b
abbrev atV (b:O)(a:C V):Prop:=cI b (gO a) a b
abbrev Sn (c:fR)(b:C M)(d:O)(a:M->C V->Prop):Prop:=fz prog c b d cW a
abbrev Sr (c:fR)(b:C M)(e:O)(d:V)(a:M->C V->Prop):Prop:=fz prog c b e d.fq a
abbrev aAg (d:fR)(c:C M)(e:O)(b:C V)(a:M->C V->Prop):Prop:=fz prog d c e (gO b) a
def hS {a:O}{b:Nat->Prop}:cI a b [] a:=cI.start _ _
def Pn {b a:Prop}(c:Kq b->a:=by
 intro d
 repeat refine Ic ?_
 exact d):Kq b->a:=c
section
variable{h:dX}{k:Nat}{d:O}{c:Nat->Prop}{p P:fJ}{ab:Nat->fJ}{i Q:dD}{l o w X:C V}{m:O}{b:Array Oper}{a:C Oper}{q:Prop}{s u xt e sz x K g A ad n:Nat}{j:String}{r:Array Edge}{H y:fj}{v z:M}{f G t S:C M}{T:TypeDesc}
def NV (f:C M)(ae:∀x w',WL h k d c b p a ((n,Z x)::i) (cF x f u::l) w')(W:Kq (WL h k d c b p (⟨some n,.alloc u,s,j,r,.none⟩::a) i l m)->q:=by exact Pn)(hz:(h.info? u).map (·.zero)=some (some (.agg f.toArray)):=by kernel_rfl)(hd:Nat.blt n k=true:=by exact rfl):q:=W (dj f ae hz hd)
def Mf (ae:∀x w',WL h k d c b p a ((n,Z x)::i) (cF x f u::l) w')(W:Kq (WL h k d c b p (⟨some n,.box u H,s,j,r,.none⟩::a) i l m)->q:=by exact Pn)(hx:ev i H=some v:=by exact rfl)(hv:v.cells=f.toArray:=by exact rfl)(hd:Nat.blt n k=true:=by exact rfl):q:=W (dK ae hx hv hd)
def KW (W:Nat)(af:∀w',WL h k d c b p a i (o++cF K G A::w) w')(ae:Kq (WL h k d c b p (⟨.none,.store u H y,s,j,r,.none⟩::a) i l m)->q:=by exact Pn)(hx:ev i H=some (.pointer (some ⟨K,g,.none⟩)):=by exact rfl)(hy:ev i y=some v:=by exact rfl)(hi:kJ W l=some (o,cF K f A,w):=by exact rfl)(hv:v.cells=t.toArray:=by exact rfl)(hs:(h.info? u).map (·.size)=some t.length:=by kernel_rfl)(h1:∀ag∈t,ag.oneCell'=true:=by simp[Value.oneCell'])(hl:Nat.ble (g+t.length) f.length=true:=by exact rfl)(ah:f.take g++t++f.drop (g+t.length)=G:=by exact rfl):q:=ae (cO W af hx hy hi hv hs h1 hl ah)
section
variable{L:fR}{fn:Func}{D:C fj}{B:C M}{R:Array dk}{E:M->C V->Prop}
def Pw {W:V}(ae:Nat)(hf:h.funcs[L]? =some fn)(hc:∀m,cI d c l m->cI m W.fq [W] m->fz h L B m W.fq E)(ag:∀v H0 w',E v H0->WL h k d c b p a ((n,v)::i) (H0++(o++w)) w')(af:Kq (WL h k d c b p (⟨some n,.call {callee:=.value (.func L),args:=D.toArray,argTypes:=R},s,j,r,.none⟩::a) i l m)->q:=by exact Pn)(hH:kJ ae l=some (o,W,w):=by exact rfl)(hx:mB i D=some B:=by exact rfl)(hb:(fn.body.isNone,fn.name== "runtime.NumGoroutine")=(false,false):=by kernel_rfl)(hd:Nat.blt n k=true:=by exact rfl):q:=af (cY W (o++w) hf (by rw[rQ ae l hH];exact eg) hc ag hx hb hd)
def Ku (hf:h.funcs[L]? =some fn)(hc:∀m,cI d c l m->fz h L B m cW E)(ae:∀v o w',E v o->WL h k d c b p a ((n,v)::i) (o++l) w')(W:Kq (WL h k d c b p (⟨some n,.call {callee:=.value (.func L),args:=D.toArray,argTypes:=R},s,j,r,.none⟩::a) i l m)->q:=by exact Pn)(hx:mB i D=some B:=by exact rfl)(hb:(fn.body.isNone,fn.name== "runtime.NumGoroutine")=(false,false):=by kernel_rfl)(hd:Nat.blt n k=true:=by exact rfl):q:=W (dd hf hc ae hx hb hd)
end
def K3 (W:Nat)(af:WL h k d c b p a ((n,.agg f.toArray)::i) l m)(ae:Kq (WL h k d c b p (⟨some n,.load u H,s,j,r,.none⟩::a) i l m)->q:=by exact Pn)(hx:ev i H=some (.pointer (some ⟨x,g,.none⟩)):=by exact rfl)(ag:UF h u T:=by infer_instance)(ha:FR T=true:=by exact rfl)(hs:(h.info? u).map (·.size)=some f.length:=by kernel_rfl)(hi:l[W]? =some (cF x S A):=by exact rfl)(hv:(S.drop g).take f.length=f:=by exact rfl)(hd:Nat.blt n k=true:=by exact rfl):q:=ae (I (di W hx ag ha hs hi hv) af hd)
def NX (W ae:Nat)(ag:WL h k d c b p a ((n,v)::i) l m)(af:Kq (WL h k d c b p (⟨some n,.load u H,s,j,r,.none⟩::a) i l m)->q:=by exact Pn)(hx:ev i H=some (.pointer (some ⟨x,g,.none⟩)):=by exact rfl)(hi:l[W]? =some (cz X):=by exact rfl)(hj:X[ae]? =some (cF x f A):=by exact rfl)(ah:UF h u T:=by infer_instance)(ha:Em T=true:=by exact rfl)(hv:f[g]? =some v:=by exact rfl)(hd:Nat.blt n k=true:=by exact rfl):q:=af (I (eZ W ae hx hi hj ah ha hv) ag hd)
def K4 {ae:Code}(af:C Nat)(ah:W h k d c ae p P ab Q l m)(ag:Kq (W h k d c ae p P ab i l m)->q:=by exact Pn)(hk:keep i af=some Q:=by exact rfl):q:=ag (eJ af ah hk)
end
abbrev PA (a:cG Addr)(c b:Nat):M:=.slice a c b
abbrev PF (a:C M):M:=.tuple a.toArray
abbrev PE (a:C M):M:=.agg a.toArray
abbrev u0:=cA underlying0
abbrev u1:=cA underlying1
abbrev u2:=cA underlying2
abbrev u3:=cA underlying3
abbrev u4:=cA underlying4
abbrev u5:=cA underlying5
abbrev u6:=cA underlying6
abbrev u7:=cA underlying7
abbrev u8:=cA underlying8
abbrev u9:=cA underlying9
abbrev yk:=cA underlying22
abbrev ym:=cA underlying23
abbrev yG:=cA underlying24
abbrev Bi:=cA underlying25
abbrev Bj:=cA underlying27
abbrev Bl:=cA underlying31
abbrev BU:=cA underlying32
abbrev C0:=cA underlying34
abbrev De:=cA underlying35
abbrev D3:=cA underlying38
abbrev EJ:=cA underlying39
abbrev E6:=cA underlying41
abbrev E8:=cA underlying43
abbrev E9:=cA underlying45
abbrev Ff:=cA underlying48
abbrev Fv:=cA underlying52
abbrev FA:=cA underlying53
abbrev FE:=cA underlying57
abbrev u64:=cA underlying64
abbrev FH:=cA underlying68
abbrev FY:=cA underlying73
abbrev GD:=cA underlying74
abbrev HR:=cA underlying79
abbrev IU:=cA underlying87
abbrev I2:=cA underlying88
abbrev Jb:=cA underlying92
abbrev Je:=cA underlying93
abbrev Jm:=cA underlying94
abbrev Jp:=cA underlying96
abbrev alp:=cA underlying100
abbrev alA:=cA underlying110
abbrev alG:=cA underlying116
abbrev alI:=cA underlying118
abbrev alJ:=cA underlying119
abbrev alL:=cA underlying121
abbrev alQ:=cA underlying126
abbrev alT:=cA underlying129
abbrev alX:=cA underlying133
abbrev al1:=cA underlying137
abbrev al3:=cA underlying139
abbrev al4:=cA underlying140
abbrev amp:=cA underlying161
abbrev amt:=cA underlying165
abbrev amx:=cA underlying169
abbrev amz:=cA underlying171
abbrev amA:=cA underlying172
abbrev amB:=cA underlying173
abbrev amE:=cA underlying176
abbrev amH:=cA underlying179
abbrev am3:=cA underlying201
abbrev am5:=cA underlying203
abbrev am6:=cA underlying204
abbrev am8:=cA underlying206
abbrev anG:=cA underlying238
abbrev anV:=cA underlying253
abbrev an6:=cA underlying264
abbrev aom:=cA underlying280
abbrev aos:=cA underlying286
abbrev aou:=cA underlying288
abbrev aov:=cA underlying289
abbrev aow:=cA underlying290
abbrev aox:=cA underlying291
abbrev aoy:=cA underlying292
abbrev aoI:=cA underlying302
abbrev apv:=cA underlying350
abbrev apz:=cA underlying354
abbrev aqm:=cA underlying403
abbrev aqp:=cA underlying406
abbrev aqy:=cA underlying415
abbrev aqK:=cA underlying427
abbrev aq6:=cA underlying449
abbrev aq9:=cA underlying452
abbrev arb:=cA underlying454
abbrev arc:=cA underlying455
abbrev arf:=cA underlying458
abbrev arj:=cA underlying461
abbrev arF:=cA underlying480
abbrev arG:=cA underlying481
abbrev ar9:=cA underlying509
abbrev asd:=cA underlying512
abbrev asF:=cA underlying539
abbrev aeU:=c7 0 0 underlying27
abbrev aeV:=c7 1 1 underlying27
abbrev ae3:=c7 2 2 underlying27
abbrev ae4:=c7 3 3 underlying27
abbrev ae5:=c7 4 4 underlying27
abbrev ae6:=c7 5 5 underlying27
abbrev ae7:=c7 6 6 underlying27
abbrev ae8:=c7 7 7 underlying27
abbrev ae9:=c7 8 8 underlying27
abbrev afa:=c7 9 9 underlying27
abbrev aeW:=c7 10 10 underlying27
abbrev aeX:=c7 11 11 underlying27
abbrev aeY:=c7 12 12 underlying27
abbrev aeZ:=c7 13 13 underlying27
abbrev ae0:=c7 14 14 underlying27
abbrev ae1:=c7 15 15 underlying27
abbrev ae2:=c7 16 16 underlying27
abbrev afC:=c7 0 0 underlying34
abbrev afD:=c7 1 1 underlying34
abbrev afE:=c7 2 2 underlying34
abbrev af0:=c7 0 0 underlying41
abbrev af1:=c7 1 1 underlying41
abbrev af2:=c7 2 2 underlying41
abbrev af9:=c7 0 0 underlying45
abbrev aga:=c7 1 1 underlying45
abbrev agb:=c7 2 2 underlying45
abbrev agc:=c7 3 3 underlying45
abbrev agd:=c7 4 4 underlying45
abbrev agf:=c7 5 5 underlying45
abbrev agh:=c7 6 6 underlying45
abbrev agA:=c7 0 0 underlying48
abbrev agB:=c7 1 1 underlying48
abbrev agC:=c7 2 2 underlying48
abbrev agU:=c7 0 0 underlying57
abbrev agV:=c7 1 1 underlying57
abbrev agW:=c7 2 2 underlying57
abbrev agX:=c7 0 0 underlying64
abbrev agY:=c7 1 1 underlying64
abbrev agZ:=c7 0 0 underlying68
abbrev ag0:=c7 1 1 underlying68
abbrev ag1:=c7 0 0 underlying79
abbrev ag2:=c7 1 1 underlying79
abbrev ag3:=c7 2 2 underlying79
abbrev ag4:=c7 0 0 underlying87
abbrev ag5:=c7 1 1 underlying87
abbrev ag6:=c7 0 0 underlying92
abbrev ag7:=c7 1 1 underlying92
abbrev ag8:=c7 2 2 underlying92
abbrev ahb:=c7 5 5 underlying92
abbrev ahc:=c7 0 0 underlying96
abbrev ahd:=c7 1 1 underlying96
abbrev ad2:=c7 0 0 underlying100
abbrev ad3:=c7 1 1 underlying100
abbrev ad6:=c7 4 7 underlying100
abbrev ad7:=c7 0 0 underlying121
abbrev ad8:=c7 1 1 underlying121
abbrev ad9:=c7 2 2 underlying121
abbrev aea:=c7 0 0 underlying123
abbrev aeb:=c7 1 17 underlying123
abbrev aec:=c7 2 18 underlying123
abbrev aed:=c7 3 19 underlying123
abbrev aee:=c7 4 20 underlying123
abbrev aef:=c7 5 23 underlying123
abbrev aeg:=c7 0 0 underlying137
abbrev aeh:=c7 1 1 underlying137
abbrev aei:=c7 0 0 underlying139
abbrev aej:=c7 1 3 underlying139
abbrev aek:=c7 0 0 underlying153
abbrev ael:=c7 1 1 underlying153
abbrev aem:=c7 0 0 underlying164
abbrev aen:=c7 1 1 underlying164
abbrev aeo:=c7 2 2 underlying164
abbrev aep:=c7 0 0 underlying168
abbrev aeq:=c7 1 1 underlying168
abbrev aes:=c7 0 0 underlying171
abbrev aet:=c7 1 2 underlying171
abbrev aeu:=c7 2 3 underlying171
abbrev aev:=c7 0 0 underlying175
abbrev aew:=c7 1 1 underlying175
abbrev aex:=c7 2 2 underlying175
abbrev aey:=c7 3 3 underlying175
abbrev aez:=c7 0 0 underlying181
abbrev aeA:=c7 1 1 underlying181
abbrev aeB:=c7 2 2 underlying181
abbrev aeC:=c7 3 19 underlying181
abbrev aeD:=c7 4 20 underlying181
abbrev aeE:=c7 0 0 underlying206
abbrev aeF:=c7 1 1 underlying206
abbrev aeG:=c7 2 2 underlying206
abbrev aeH:=c7 3 3 underlying206
abbrev aeI:=c7 0 0 underlying214
abbrev aeJ:=c7 0 0 underlying216
abbrev aeN:=c7 0 0 underlying240
abbrev aeO:=c7 1 1 underlying240
abbrev aeP:=c7 2 2 underlying240
abbrev aeQ:=c7 3 3 underlying240
abbrev aeR:=c7 0 0 underlying243
abbrev aeS:=c7 1 1 underlying243
abbrev aeT:=c7 2 2 underlying243
abbrev afb:=c7 0 0 underlying280
abbrev afc:=c7 1 1 underlying280
abbrev afd:=c7 2 2 underlying280
abbrev afe:=c7 0 0 underlying286
abbrev aff:=c7 1 1 underlying286
abbrev afg:=c7 2 2 underlying286
abbrev afh:=c7 3 3 underlying286
abbrev afi:=c7 4 6 underlying286
abbrev afj:=c7 0 0 underlying294
abbrev afk:=c7 1 1 underlying294
abbrev afl:=c7 2 2 underlying294
abbrev afm:=c7 3 19 underlying294
abbrev afn:=c7 4 20 underlying294
abbrev afo:=c7 5 21 underlying294
abbrev afp:=c7 6 22 underlying294
abbrev afq:=c7 7 23 underlying294
abbrev afr:=c7 0 0 underlying302
abbrev afs:=c7 1 1 underlying302
abbrev aft:=c7 2 2 underlying302
abbrev afu:=c7 0 0 underlying319
abbrev afv:=c7 0 0 underlying321
abbrev afw:=c7 0 0 underlying339
abbrev afx:=c7 1 1 underlying339
abbrev afy:=c7 2 2 underlying339
abbrev afz:=c7 3 3 underlying339
abbrev afA:=c7 0 0 underlying342
abbrev afB:=c7 1 3 underlying342
abbrev afF:=c7 0 0 underlying358
abbrev afG:=c7 0 0 underlying360
abbrev afH:=c7 1 1 underlying360
abbrev afI:=c7 0 0 underlying363
abbrev afJ:=c7 1 1 underlying363
abbrev afK:=c7 2 5 underlying363
abbrev afL:=c7 3 6 underlying363
abbrev afM:=c7 4 7 underlying363
abbrev afN:=c7 0 0 underlying370
abbrev afO:=c7 1 3 underlying370
abbrev afP:=c7 0 0 underlying410
abbrev afQ:=c7 0 0 underlying412
abbrev afR:=c7 0 0 underlying414
abbrev afS:=c7 1 1 underlying414
abbrev afT:=c7 3 3 underlying414
abbrev afU:=c7 4 4 underlying414
abbrev afV:=c7 5 5 underlying414
abbrev afW:=c7 0 0 underlying419
abbrev afX:=c7 1 1 underlying419
abbrev afY:=c7 2 2 underlying419
abbrev afZ:=c7 3 3 underlying419
abbrev af3:=c7 0 0 underlying454
abbrev af4:=c7 1 1 underlying454
abbrev af5:=c7 0 0 underlying457
abbrev af6:=c7 1 1 underlying457
abbrev af7:=c7 2 2 underlying457
abbrev af8:=c7 3 3 underlying457
abbrev agi:=c7 0 0 underlying460
abbrev agj:=c7 1 1 underlying460
abbrev agk:=c7 2 2 underlying460
abbrev agl:=c7 3 3 underlying460
abbrev agm:=c7 4 4 underlying460
abbrev agn:=c7 0 0 underlying463
abbrev ago:=c7 1 1 underlying463
abbrev agp:=c7 2 2 underlying463
abbrev agq:=c7 3 3 underlying463
abbrev agr:=c7 4 4 underlying463
abbrev ags:=c7 0 0 underlying483
abbrev agt:=c7 1 1 underlying483
abbrev agu:=c7 2 2 underlying483
abbrev agv:=c7 3 3 underlying483
abbrev agw:=c7 4 4 underlying483
abbrev agx:=c7 5 5 underlying483
abbrev agy:=c7 6 6 underlying483
abbrev agz:=c7 7 7 underlying483
abbrev agD:=c7 0 0 underlying509
abbrev agE:=c7 1 1 underlying509
abbrev agF:=c7 2 2 underlying509
abbrev agG:=c7 0 0 underlying512
abbrev agH:=c7 1 1 underlying512
abbrev agI:=c7 2 2 underlying512
abbrev agJ:=c7 0 0 underlying529
abbrev agK:=c7 1 1 underlying529
abbrev agL:=c7 2 2 underlying529
abbrev agM:=c7 3 3 underlying529
abbrev agN:=c7 4 4 underlying529
abbrev agO:=c7 5 5 underlying529
abbrev agP:=c7 6 6 underlying529
abbrev agQ:=c7 7 7 underlying529
abbrev agR:=c7 0 0 underlying539
abbrev agS:=c7 1 1 underlying539
abbrev agT:=c7 2 2 underlying539
abbrev ZL:=kC 1 underlying22
abbrev ZN:=kC 2 underlying24
abbrev ZO:=kC 1 underlying25
abbrev ZR:=kC 3 underlying31
abbrev ZS:=kC 7 underlying32
abbrev ZU:=kC 1 underlying38
abbrev ZV:=kC 1 underlying39
abbrev ZX:=kC 3 underlying43
abbrev Z3:=kC 2 underlying52
abbrev Z4:=kC 3 underlying73
abbrev Z5:=kC 1 underlying74
abbrev Z7:=kC 6 underlying93
abbrev ZA:=kC 1 underlying119
abbrev ZB:=kC 2 underlying133
abbrev ZC:=kC 4 underlying140
abbrev ZD:=Nd 1 underlying162
abbrev ZE:=kC 4 underlying165
abbrev ZF:=Nd 1 underlying166
abbrev ZG:=kC 4 underlying169
abbrev ZH:=kC 4 underlying172
abbrev ZI:=kC 4 underlying201
abbrev ZJ:=kC 3 underlying203
abbrev ZK:=kC 1 underlying204
abbrev ZM:=kC 7 underlying238
abbrev ZP:=kC 1 underlying264
abbrev ZQ:=kC 3 underlying292
abbrev ZT:=Nd 1 underlying361
abbrev ZW:=kC 1 underlying427
abbrev ZY:=kC 3 underlying455
abbrev ZZ:=kC 3 underlying458
abbrev Z0:=kC 3 underlying461
abbrev Z1:=kC 1 underlying480
abbrev Z2:=kC 2 underlying481
attribute[instance]u0 u1 u2 u3 u4 u5 u6 u7 u8 u9 yk ym yG Bi Bj Bl BU C0 De D3 EJ E6 E8 E9 Ff Fv FA FE u64 FH FY GD HR IU I2 Jb Je Jm Jp alp alA alG alI alJ alL alQ alT alX al1 al3 al4 amp amt amx amz amA amB amE amH am3 am5 am6 am8 anG anV an6 aom aos aou aov aow aox aoy aoI apv apz aqm aqp aqy aqK aq6 aq9 arb arc arf arj arF arG ar9 asd asF aeU aeV ae3 ae4 ae5 ae6 ae7 ae8 ae9 afa aeW aeX aeY aeZ ae0 ae1 ae2 afC afD afE af0 af1 af2 af9 aga agb agc agd agf agh agA agB agC agU agV agW agX agY agZ ag0 ag1 ag2 ag3 ag4 ag5 ag6 ag7 ag8 ahb ahc ahd ad2 ad3 ad6 ad7 ad8 ad9 aea aeb aec aed aee aef aeg aeh aei aej aek ael aem aen aeo aep aeq aes aet aeu aev aew aex aey aez aeA aeB aeC aeD aeE aeF aeG aeH aeI aeJ aeN aeO aeP aeQ aeR aeS aeT afb afc afd afe aff afg afh afi afj afk afl afm afn afo afp afq afr afs aft afu afv afw afx afy afz afA afB afF afG afH afI afJ afK afL afM afN afO afP afQ afR afS afT afU afV afW afX afY afZ af3 af4 af5 af6 af7 af8 agi agj agk agl agm agn ago agp agq agr ags agt agu agv agw agx agy agz agD agE agF agG agH agI agJ agK agL agM agN agO agP agQ agR agS agT ZL ZN ZO ZR ZS ZU ZV ZX Z3 Z4 Z5 Z7 ZA ZB ZC ZD ZE ZF ZG ZH ZI ZJ ZK ZM ZP ZQ ZT ZW ZY ZZ Z0 Z1 Z2
def Dq:∀a:C UInt8,Op.bytesLess a a=false
 |[]=>rfl
 |b::a=>by simp[Op.bytesLess,Dq a]
def Ds:∀c d e:C UInt8,Op.bytesLess c d=true->Op.bytesLess d e=true->Op.bytesLess c e=true
 |_,[],_,f,_=>by simp[Op.bytesLess]at f
 |_,_::_,[],_,f=>by simp[Op.bytesLess]at f
 |[],_::_,_::_,_,_=>rfl
 |c::g,d::h,e::i,b,a=>by
  simp only[Op.bytesLess,jh,iu,fU,uT]at*;rcases b with b|⟨rfl,b⟩
  .rcases a with a|⟨rfl,a⟩
   .exact .inl (UInt8.lt_trans b a)
   .exact .inl b
  .rcases a with a|⟨rfl,a⟩
   .exact .inl a
   .exact .inr ⟨rfl,Ds g h i b a⟩
def Dr:∀a b:C UInt8,Op.bytesLess a b=false->Op.bytesLess b a=false->a=b
 |[],[],_,_=>rfl
 |[],_::_,e,_=>by simp[Op.bytesLess]at e
 |_::_,[],_,e=>by simp[Op.bytesLess]at e
 |a::g,b::h,c,d=>by simp only[Op.bytesLess,I1,I0,Bg,Jt]at*;have f:a=b:=FC (xK.1 d.1) (xK.1 c.1);subst f;rw[Dr g h (c.2.resolve_left (by simp)) (d.2.resolve_left (by simp))]
def eI (a b:U):Bool:=Op.bytesLess a.data.toList b.data.toList
def yr (a:U):eI a a=false:=Dq _
def sC {c d e:U}(a:eI c d=true)(b:eI d e=true):eI c e=true:=Ds _ _ _ a b
def uk {a b:U}(c:eI a b=false)(d:eI b a=false):a=b:=by have:=Dr _ _ c d;cases a;cases b;exact dq ByteArray.mk (lS this)
def pj {a b:U}(c:eI a b=true):a≠b:=λd=>by subst d;rw[yr]at c;cases c
def zN {a b:U}(d:eI a b=true):eI b a=false:=by
 cases c:eI b a with
 |false=>rfl
 |true=>have:=sC d c;rw[yr]at this;cases this
def Hu {c d e:U}(g:eI d c=false)(a:eI e d=false):eI e c=false:=by
 cases f:eI e c with
 |false=>rfl
 |true=>
  cases b:eI c d with
  |true=>rw[sC f b]at a;cases a
  |false=>rw[uk b g]at f;rw[f]at a;cases a
def gd (c:C U):Prop:=c.Pairwise λa b=>eI a b=true
def uY (c:C U):Prop:=c.Pairwise λa b=>eI b a=false
def Cx:∀{c d:C U},gd c->gd d->c.Perm d->c=d
 |[],d,_,_,b=>by rw[List.nil_perm.1 b]
 |l::c,[],_,_,b=>by have:=b.length_eq;simp at this
 |l::c,m::d,j,k,b=>by
  obtain⟨e,f⟩:=jD.1 j;obtain⟨g,h⟩:=jD.1 k;have n:l=m:=by
   rcases dh.1 (b.mem_iff.1 (dQ ..))with i|i
   .exact i
   .rcases dh.1 (b.mem_iff.2 (dQ ..))with a|a
    .exact a.symm
    .have:=zN (g l i);rw[e m a]at this;cases this
  subst n;rw[Cx f h (List.Perm.cons_inv b)]
def M4 {d:C U}(g:uY d)(c:d.Nodup):gd d:=by
 refine(List.Pairwise.and g c).imp λ{e f} a=>?_;cases b:eI e f with
 |true=>rfl
 |false=>exact absurd (uk b a.1) a.2
def atg {h i:C U}{j:U}(d:uY (h++i))(e:∀c∈h,eI j c=false)(f:∀c∈i,eI j c=true):uY (h++j::i):=by
 unfold uY at*;rw[mU]at d|-;refine⟨d.1,jD.2 ⟨λc g=>zN (f c g),d.2.1⟩,λk b l a=>?_⟩;rcases dh.1 a with rfl|a
 .exact e k b
 .exact d.2.2 k b l a
def sq (a:cG Nat):Fence:={Fence.wide with round:=a}
def Of {g:cG Nat}{d:Nat}{a:dX}{c:fR}{args:Array M}{e:O}{b:Ending->O->Prop}(f:Calls a c args e b):CallsIn (sq g) d a c args e b:=(Bf (n:=d)).2 f
def aiF {j:cG Nat}{i:Nat}{d:dX}{row:String}{args:Array M}{f:O}{e:M->O->Prop}(h:Rows d row args f e):RowsIn (sq j) i d row args f e:=λg a _=>let⟨l,c,b,k⟩:=h g a;⟨l,c,b,stepsIn_wide.2 k⟩
def bk (b:Act)(a:C Deferred):Act:={b with defers:=b.defers++a}
def s6 (c:Act)(a:C Deferred)(b:cG Tmp)(d:M):(bk c a).put b d=bk (c.put b d) a:=by cases b<;>rfl
def Xx (b:Act)(a:C Deferred)(c:Deferred):({bk b a with defers:=c::(bk b a).defers}:Act)=bk {b with defers:=c::b.defers} a:=rfl
def wE (b:Act)(a:C Deferred):(bk b a).eval=b.eval:=rfl
def va (a:Act):bk a []=a:=by cases a;simp[bk]
section
variable{e:dX}{g:cG Nat}{f:Nat}{c d:Exit->Act->O->Prop}{a:Array Oper}(b:C Deferred)
def HB {u:Oper}{h:Act}{p:O}{A q:Act->O->Prop}(s:∀i,u.op≠.defer i)(x:∀h p,¬c .outgrown h p)(o:∀i h p,¬c (.panic i) h p)
 (l:∀r m,A r m->q (bk r b) m) (k:u.wp e h p A c):u.wpIn (sq g) f e (bk h b) p q d:=by
 refine⟨λ_ _=>trivial,?_⟩
 rw[Da _ _ _ s,wE]
 unfold Oper.wp at k
 generalize(execOp h.eval u).run e p=B at k
 cases B with
 |ok y m=>
  cases y with
  |value z=>simp only[Oper.uponIn];rw[s6];exact l _ _ k
  |skip=>simp only[Oper.uponIn];rw[s6];exact l _ _ k
  |defer v=>simp only[Oper.uponIn];rw[Xx,s6];exact l _ _ k
  |enter w args=>
   refine⟨λk=>(by cases k),Of (nY k λn t j=>?_)⟩;cases n with
   |returned z=>dsimp only;rw[s6];exact l _ _ j
   |panicked i=>exact absurd j (o _ _ _)
   |outgrown=>obtain⟨_,_,j⟩:=j;exact absurd j (x _ _)
  |row B args=>refine⟨λk=>(by cases k),aiF (Rows.mono k λz t j=>?_)⟩;rw[s6];exact l _ _ j
  |_=>exact k.elim
 |halt D m=>
  cases D with
  |panic z=>exact absurd k (o _ _ _)
  |_=>exact k.elim
def zO (i:C Oper):Prop:=∀j∈i,∀h,j.op≠.defer h
def Rx (n:∀h i,¬c .outgrown h i)(l:∀k h i,¬c (.panic k) h i)(q:∀h i,c .normal h i->d .normal (bk h b) i):
 ∀(p:C Oper)(h:Act)(i:O),zO p->wpList e a c p h i->wpListIn (sq g) f e a d p (bk h b) i
 |[],h,i,_,j=>q h i j
 |x::p,h,i,r,j=>by
  have s:=Rx n l q p;have m:zO p:=λx v=>r x (dN _ v);unfold wpList at j;unfold wpListIn;have w:yielded a (bk h b).tmps=yielded a h.tmps:=rfl;rw[w];split at j
  .rename_i o;rw[cM o];rcases j with j|⟨_,_,_,j⟩
   .exact HB b (r x (dQ ..)) n l (λt y u=>s t y m u) j
   .exact absurd j (n _ _)
  .rename_i o;rw[cJ o];refine⟨λ_ _=>trivial,?_⟩;rw[s6];exact s _ _ m j
def JG {u:Region.Mode}(w:zO a.toList)(p:∀h l,¬c .outgrown h l)(n:∀m h l,¬c (.panic m) h l)(o:∀h l,c .normal h l->d .normal (bk h b) l):
 ∀(k:Nat)(i:Array Bool)(h:Act)(l:O),wpAny e u a c k i h l->wpAnyIn (sq g) f e u a d k i (bk h b) l
 |0,i,h,l,v=>⟨v.1,o h l v.2⟩
 |k+1,i,h,l,v=>by
  have t:=JG (u:=u) w p n o k;refine⟨λz=>o h l (v.1 z),λG A=>?_⟩;have j:=v.2 G A;unfold wpOp at j;unfold wpOpIn;have D:yielded a (bk h b).tmps=yielded a h.tmps:=rfl;rw[D];cases r:a[G]?with
  |none=>rw[r]at j;exact t _ _ _ j
  |some H=>
   rw[r]at j;dsimp only at j|-;have q:H∈a.toList:=by obtain⟨x,rfl⟩:=mS.1 r;exact Array.mem_toList_iff.2 (Array.getElem_mem x)
   split at j
   .rename_i s;rw[cM s];rcases j with j|⟨_,_,_,j⟩
    .exact HB b (w H q) p n (λy E B=>t _ y E B) j
    .exact absurd j (p _ _)
   .rename_i s;rw[cJ s];refine⟨λ_ _=>trivial,?_⟩;rw[s6];exact t _ _ _ j
end
section
variable(d:dX)(c:Nat)(b:O)(a:Nat->Prop)
abbrev jq:=C Deferred->fJ
def at_ (k:jq)(e:Act)(j:O):Prop:=∃g f i h,e=bk f g/\Fr c i f/\cI b a h j/\k g i h j
def Wc (g h:jq)(i:Nat->jq):Exit->Act->O->Prop
 |.normal,e,f=>at_ c b a g e f
 |.ret,e,f=>at_ c b a h e f
 |.exit id,e,f=>at_ c b a (i id) e f
 |_,_,_=>False
def G (n:cG Nat)(f:Code)(j k:jq)(l:Nat->jq)(g:C Deferred)(m:dD)(i:C V)(h:O):Prop:=∀e,Fr c m e->cI b a i h->f.wpIn (sq n) 0 d (Wc c b a j k l) (bk e g) h
end
section
variable{i:dX}{h:Nat}{c:O}{b:Nat->Prop}{l:cG Nat}{g j:jq}{k:Nat->jq}{a:C Deferred}{d:dD}{e:C V}{f:O}
def G.mono {w x:jq}{y:Nat->jq}{m:Code}(v:G i h c b l m g j k a d e f)(A:∀a d e f,g a d e f->w a d e f)(B:∀a d e f,j a d e f->x a d e f)(D:∀n a d e f,k n a d e f->y n a d e f):G i h c b l m w x y a d e f:=λt E H=>wu (v t E H) λu K L o=>by
 cases u with
 |normal=>obtain⟨a,p,d,e,h0,q,r,s⟩:=o;exact⟨a,p,d,e,h0,q,r,A _ _ _ _ s⟩
 |ret=>obtain⟨a,p,d,e,h0,q,r,s⟩:=o;exact⟨a,p,d,e,h0,q,r,B _ _ _ _ s⟩
 |exit id=>obtain⟨a,p,d,e,h0,q,r,s⟩:=o;exact⟨a,p,d,e,h0,q,r,D _ _ _ _ _ s⟩
 |goto z=>exact o
 |panic m=>exact o
 |outgrown=>exact o
def iX {y z:Code}(p:G i h c b l y (λa d e f=>G i h c b l z g j k a d e f) j k a d e f):G i h c b l (.seq y z) g j k a d e f:=λn w x=>wpIn_seq (wu (p n w x) λo A B m=>by
 cases o with
 |normal=>obtain⟨a,s,d,e,rfl,t,u,v⟩:=m;exact v s t u
 |ret=>exact m
 |exit id=>exact m
 |goto r=>exact m
 |panic q=>exact m
 |outgrown=>exact m)
def zF (n:g a d e f):G i h c b l .skip g j k a d e f:=λm o p=>wpIn_skip ⟨a,m,d,e,rfl,o,p,n⟩
def vn (n:j a d e f):G i h c b l .ret g j k a d e f:=λm o p=>wpIn_ret ⟨a,m,d,e,rfl,o,p,n⟩
def Qu {id:Nat}(n:k id a d e f):G i h c b l (.exit id) g j k a d e f:=λm o p=>wpIn_exit ⟨a,m,d,e,rfl,o,p,n⟩
def zD {o:fj}{v w:Code}{m:Bool}(q:ev d o=some (.bool m))(u:m=true->G i h c b l v g j k a d e f)
 (s:m=false->G i h c b l w g j k a d e f):G i h c b l (.cond o v w) g j k a d e f:=λn p r=>by
 cases m with
 |true=>exact wpIn_cond (t:=true) (by rw[wE];exact p.eval q) (u rfl n p r)
 |false=>exact wpIn_cond (t:=false) (by rw[wE];exact p.eval q) (s rfl n p r)
def zE {n:fj}{s t:Code}{o:Prop}[Decidable o](p:ev d n=some (.bool (decide o)))(r:o->G i h c b l s g j k a d e f)(q:¬o->G i h c b l t g j k a d e f):G i h c b l (.cond n s t) g j k a d e f:=zD p (λm=>r (nr m)) (λm=>q (FD m))
def KV {n:fj}{s t:Code}{m:Bool}(p:ev d n=some (.bool m))(r:m=true->G i h c b l s g j k a d e f)(q:¬m=true->G i h c b l t g j k a d e f):G i h c b l (.cond n s t) g j k a d e f:=zD p r λo=>q (by simp[o])
def mx {m:Code}(s:C Nat){t u:C V}(r:pick s e=some (t,u))(o:G i h c b l m g j k a d t f):G i h c b l m g j k a d e f:=λn p q=>o n p (q.pick (de _ _ r))
def abN {m:Code}(o:cI c b e f->G i h c b l m g j k a d e f):G i h c b l m g j k a d e f:=λn q p=>o p n q p
def KX {n:Code}(q:jq)(o:G i h c b l n q j k a d e f)(p:∀a d e f,q a d e f->g a d e f):G i h c b l n g j k a d e f:=o.mono p (λ_ _ _ _ m=>m) (λ_ _ _ _ _ m=>m)
def jF {id:Nat}{o:C Oper}(w:zO o)(m:WL i h c b o.toArray (g a) o d e f):G i h c b l (.region id o.toArray false) g j k a d e f:=λn v x=>wpIn_region_lit (Rx (c:=λr n f=>match r with|.normal=>∃q p,Fr h q n/\cI c b p f/\g a q p f|_=>False) a (λ_ _ m=>m) (λ_ _ _ m=>m) (λn f m=>by obtain⟨q,p,s,t,u⟩:=m;exact⟨a,n,q,p,rfl,s,t,u⟩) o n f w (m n v x _ λz A y=>y))
end
section
variable{h:dX}{i:Nat}{d:O}{c:Nat->Prop}{l:cG Nat}{k u:jq}{q:Nat->jq}{a:C Deferred}{f:dD}{e:C V}{b:O}
def xU (id:Nat)(k:jq)(q:Nat->jq):Nat->jq:=λv a f e b=>bif Nat.beq v id then k a f e b else q v a f e b
def vm {id:Nat}{v:Code}(B:G h i d c l v k u (xU id k q) a f e b):G h i d c l (.block id v) k u q a f e b:=λz Q S=>wpIn_block (wu (B z Q S) λA T W x=>by
 cases A with
 |normal=>exact x
 |ret=>exact x
 |exit w=>
  obtain⟨a,E,f,e,h0,H,K,y⟩:=x;simp only[xU]at y;simp only[Exit.inBlock];by_cases D:w=id
  .subst D;simp only[pN,n0]at y;rw[cM rfl];exact⟨a,E,f,e,h0,H,K,y⟩
  .have:Nat.beq w id=false:=by
    cases R:Nat.beq w id with
    |false=>rfl
    |true=>exact absurd (r5 R) D
   simp only[this,oG]at y;rw[cJ D];exact⟨a,E,f,e,h0,H,K,y⟩
 |goto L=>exact x
 |panic v=>exact x
 |outgrown=>exact x)
def KT {id:Nat}(v:k a f e b){w:jq}:G h i d c l (.exit id) w u (xU id k q) a f e b:=Qu (by simp only[xU,pN,n0];exact v)
def GG {x:Code}(Q:Nat->jq)(k0:Nat)(h0:Q k0 a f e b)
 (hr:∀v a f e b,Q v a f e b->G h i d c l x (λz K D L=>∃A,A<v/\Q A z K D L) u q a f e b):G h i d c l (.loop x) k u q a f e b:=λw E H=>by
 refine wpIn_loop_ghost (λv w b=>at_ i d c (Q v) w b) k0 ⟨a,w,f,e,rfl,E,H,h0⟩ ?_
 rintro v _ b ⟨a,w,f,e,rfl,E,H,hI⟩
 refine wu (hr v a f e b hI w E H) λB a' L y=>?_
 cases B with
 |normal=>obtain⟨z,S,K,D,h0,T,W,A,X,h4⟩:=y;exact⟨A,X,z,S,K,D,h0,T,W,h4⟩
 |ret=>exact y
 |exit id=>exact y
 |goto R=>exact y
 |panic x=>exact y
 |outgrown=>exact y
def GL (h:dX)(i:Nat)(d:O)(c:Nat->Prop)(l:cG Nat)(g:Array Oper)(k:jq)(w:C Oper)(a:C Deferred)(f:dD)(e:C V)(b:O):Prop:=∀v,Fr i f v->cI d c e b->∀z:Exit->Act->O->Prop,(∀x y,at_ i d c k x y->z .normal x y)->wpListIn (sq l) 0 h g z w (bk v a) b
def GI {id:Nat}{v:C Oper}(x:GL h i d c l v.toArray k v a f e b):G h i d c l (.region id v.toArray false) k u q a f e b:=λw y z=>wpIn_region_lit (x w y z _ λ_ _ A=>A)
variable{g:Array Oper}{t:Op}{o:dk}{n:String}{r:Array Edge}{s:Tmp}{m:M}{j:C Oper}{p:M->C V->Prop}
def KZ (x:dD)(B:kf x f)(w:k a x e b):GL h i d c l g k [] a f e b:=λv z A _ y=>wpListIn_nil (y _ b ⟨a,v,x,e,rfl,z.sub B,A,w⟩)
def wT (A:∀w,t≠.defer w)(x:dp h i d c t o f e m)(G:GL h i d c l g k j a ((s,m)::f) e b)(E:Nat.blt s i=true:=by rfl):GL h i d c l g k (⟨some s,t,o,n,r,.none⟩::j) a f e b:=λv y z H D=>
 wpListIn_plain rfl λK B=>by refine⟨λ_ _=>trivial,?_⟩;rw[Da _ _ _ A,wE,x _ v b rfl rfl y z];simp only[Oper.uponIn];rw[s6];exact B _ _ (G _ (y.put E m) z H D)
def Dj (h:dX)(w:Nat)(args:C M)(b:O)(z:Nat->Prop)(p:M->C V->Prop):Prop:=YieldAt (sq .none) 0 h w args.toArray b λv y=>∃m x,v=.returned m/\cI b z x y/\p m x
def B2 {x G:C V}(v:cI d c (x++G) b):cI b (gO x) x b:=by
 refine⟨lR.refl _ _,?_⟩;have D:=(Hs.append.1 v.2).1;have E:∀B:C V,Hs d c B b->(∀l∈B,∀w,l.fq w->gO x w)->Hs b (gO x) B b:=by
  intro B;induction B with
  |nil=>exact λ_ _=>trivial
  |cons l B L=>exact λv A=>⟨⟨v.1.1,λw y=>⟨(v.1.2.1 w y).1,.inr (A l (dQ ..) w y)⟩,v.1.2.2⟩,L v.2 λz K=>A z (dN _ K)⟩
 exact E x D λl H w y=>⟨l,H,y⟩
def QB {v:Nat}{x:fj}{E:C fj}{T:C M}{ts:Array dk}(B X:C V)(hx:ev f x=some (.func (.yield v) #[] #[]))(ad:mB f E=some T)(hH:e.Perm (B++X))(hc:cI d c e b->cI b (gO B) B b->Dj h v T b (gO B) p)(hk:∀m A W,p m A->GL h i d c .none g k j a ((s,m)::f) (A++X) W)(hd:Nat.blt s i=true:=by rfl):GL h i d c .none g k (⟨some s,.call {callee:=.value x,args:=E.toArray,argTypes:=ts},o,n,r,.none⟩::j) a f e b:=λy L P Q hQ=>
 wpListIn_plain rfl λK hK=>by
  refine⟨λ_ _=>trivial,?_⟩;have D:(E.toArray.map y.eval)=T.toArray:=by apply lS;simpa using L.wM _ ad
  have w:=P.perm hH;obtain⟨fn,S,assign,H,hy,z⟩:=hc P (B2 w);have R:(execOp y.eval ⟨some s,.call {callee:=.value x,args:=E.toArray,argTypes:=ts},o,n,r,.none⟩).run h b=.ok (.round v fn S assign H) b:=by simp only[execOp,resolve,L.eval hx,Deferred.ofValue,invoke,D,ke,ku,j8,IX,E4,hy]
  rw[Da _ _ _ (by simp),wE,R];refine⟨λG=>(by cases G),z.mono ?_⟩;rintro ae W ⟨m,A,rfl,ab,hp⟩;dsimp only;rw[s6];exact hK _ _ (hk m A W hp _ (L.put hd m) (w.call ab) Q hQ)
end
def ob (a:Nat)(e:Obj):V where
 fq:=λd=>d=a
 ok:=λf=>f.heap[a]? =some e
 loc:=λ_ _ c b=>(c a rfl).trans b
def cI.FV {e b:O}{c:Nat->Prop}{k:C V}(d:cI e c k b)(l:Obj):cI e c (ob b.heap.size l::k) (b.alloc l):=by
 refine⟨d.1.trans (lR.alloc (λ_=>False) b _) (λ_ j=>j.elim),⟨heap_alloc_new b _,?_,?_⟩,?_⟩
 .rintro f rfl;exact⟨by simp,.inl d.1.size⟩
 .intro o i f a;have:=((d.2.mem o i).2 f);intro g;have m:=(this g).1;simp only[ob]at a;omega
 .refine d.2.keep (λn h f a=>heap_alloc_old b _ ((d.2.mem n h).2 f a).1) (by simp)
def cI.put {f g:O}{d:Nat->Prop}{j:C V}{a:Nat}{i:Obj}(k:cI f d (ob a i::j) g)(c:Obj):cI f d (ob a c::j) (g.putObj a c):=by have h:g.heap[a]? =some i:=k.2.1.1;have e:a<g.heap.size:=(mS.1 h).1;exact k.change (h:=[]) (s:=ob a i) (k:=ob a c) ⟨rfl,rfl,rfl,by simp,λm _ b=>World.putObj_heap_other (λl=>b l)⟩ (World.putObj_heap_same e) (λm b=>.inl b)
def ny (fn:fR)(tmps:Array M)(b:Array Tmp)(assign body:Code)(c:Nat)(Y:LoopState)(a:cG Code):Loop:={state:=Y,pending:=a,fn,tmps,params:=b,assign,body,defers:=c}
def mz (g:dX)(i:fR)(args:C M)(e:O)(f:Nat->Prop)(c:M->C V->Prop):Prop:=CallsIn (sq .none) 0 g i args.toArray e λh b=>∃d a,h=.returned d/\cI e f a b/\c d a
def mz.spec {c:dX}{d:fR}{args:C M}{e:O}{b:Nat->Prop}{a:M->C V->Prop}(f:mz c d args e b a):fz c d args e b a:=(Bf (n:=0)).1 f
section
variable{e:dX}{d:Nat}{g:O}{f:Nat->Prop}{h i:jq}{j:Nat->jq}{b:dD}{c:C V}{a:O}
def D1 {t:cG Nat}{m:Array Oper}{s:C Oper}{o:C Deferred}(n:C V)(r:c.Perm n)(l:GL e d g f t m h s o b n a):GL e d g f t m h s o b c a:=λk p q=>l k p (q.perm r)
def El (k:Oper):Bool:=match k.op with
 |.defer _=>false
 |_=>true
def jB {o:C Oper}(l:o.all El=true):zO o:=λp n m k=>by have:=yW.1 l p n;rw[El,k]at this;cases this
def IL {fn:fR}{k:Act}{o p:Tmp}{s u:M}{assign m:Code}{D w:Nat}{Φ:M->C V->Prop}{ag:Nat->Prop}(ha:Fr d b k)(ae:Nat.blt o d=true)(B:Nat.blt p d=true)
 (W:cI a ag (ob w (.loop (ny fn k.tmps #[o,p] assign m D .ready .none))::c) a)
 (l:G e d a ag (some w) assign (λy m1 Q w1=>y=[]/\∃K,Q.Perm (ob w (.loop (ny fn k.tmps #[o,p] assign m D .ready .none))::K)/\∀w2,G e d a ag (some w) m (λy m2 R w3=>y=[]/\∃x,R.Perm (ob w (.loop (ny fn k.tmps #[o,p] assign m D .busy .none))::x)/\Φ (.bool true) (ob w (.loop (ny fn k.tmps #[o,p] assign m D .ready .none))::x)) (λ_ _ _ _=>False) (λ_ _ _ _ _=>False) [] m1 (ob w (.loop (ny fn k.tmps #[o,p] assign m D .busy .none))::K) w2) (λ_ _ _ _=>False) (λ_ _ _ _ _=>False) [] ((p,u)::(o,s)::b) (ob w (.loop (ny fn k.tmps #[o,p] assign m D .ready .none))::c) a):
 Dj e w [s,u] a ag Φ:=by
 have hl:a.heap[w]? =some (.loop (ny fn k.tmps #[o,p] assign m D .ready .none)):=W.2.1.1
 have hy:=run_yield (P:=e) (args:=#[s,u]) hl rfl
 refine⟨fn,_,assign,m,hy,roundIn_of_wpIn trivial ?_⟩
 have H:Fr d ((p,u)::(o,s)::b) ((k.put (some o) s).put (some p) u):=(ha.put ae s).put B u
 have L:({tmps:=(#[o,p].zip #[s,u]).foldl (λtmps (t,k)=>tmps.setIfInBounds t k) k.tmps,defers:=[]}:Act)=bk ((k.put (some o) s).put (some p) u) []:=by
  rw[va];have S:=H.defers;have q:#[o,p].zip #[s,u]=#[(o,s),(p,u)]:=by simp
  simp only[Act.put]at S|-;rw[S,q];simp
 have v:=l _ H W
 rw[<-L]at v
 refine wu (n:=0) v λq a1 w1 r=>?_
 cases q with
 |normal=>
  obtain⟨y,a2,m1,Q,rfl,T,X,rfl,K,hp,hb⟩:=r;have z:=X.perm hp;have ab:w1.heap[w]? =some (.loop (ny fn k.tmps #[o,p] assign m D .ready .none)):=z.2.1.1;refine⟨_,run_beginRound ab rfl,?_⟩;refine wu (n:=0) (hb _ a2 T (z.put _)) λq a3 w3 r=>?_;cases q with
  |normal=>obtain⟨y,a4,m2,R,rfl,ah,P,rfl,x,B,af⟩:=r;have A:=P.perm B;have ad:w3.heap[w]? =some (.loop (ny fn k.tmps #[o,p] assign m D .busy .none)):=A.2.1.1;exact⟨_,_,run_endRound .none ad,.bool true,_,rfl,A.put _,af⟩
  |ret=>obtain⟨_,_,_,_,_,_,_,l⟩:=r;exact l.elim
  |exit id=>obtain⟨_,_,_,_,_,_,_,l⟩:=r;exact l.elim
  |goto t=>exact(r:False).elim
  |panic E=>exact(r:False).elim
  |outgrown=>exact(r:False).elim
 |ret=>obtain⟨_,_,_,_,_,_,_,l⟩:=r;exact l.elim
 |exit id=>obtain⟨_,_,_,_,_,_,_,l⟩:=r;exact l.elim
 |goto t=>exact(r:False).elim
 |panic E=>exact(r:False).elim
 |outgrown=>exact(r:False).elim
def wX (k:Nat):Deferred:={target:=.collected k,args:=#[]}
def GH {s:fj}{m:Array Tmp}{assign l:Code}{p:fR}{t:Array M}{x:Func}(o u:C V)(hg:ev b s=some (.func (.func p) #[] t))
 (hf:e.funcs[p]? =some x) (hb:(x.body.isNone,x.name== "runtime.NumGoroutine")=(false,false)) (hH:c.Perm (o++u))
 (n:∀(fn:fR)(k:Act)(Q B:Nat)(A:O),Fr d b k->cI g f (ob Q (.loop (ny fn k.tmps m assign l B .ready .none))::o++(ob B (.deferred (some []))::u)) A->cI A (gO (ob Q (.loop (ny fn k.tmps m assign l B .ready .none))::o)) (ob Q (.loop (ny fn k.tmps m assign l B .ready .none))::o) A->mz e p (.func (.yield Q) #[] #[]::t.toList) A (gO (ob Q (.loop (ny fn k.tmps m assign l B .ready .none))::o)) λ_ R=>
  ∃H,R.Perm (ob Q (.loop (ny fn k.tmps m assign l B .ready .none))::H)/\∀L,h [wX B] b (ob B (.deferred (some []))::(H++u)) L):
 G e d g f .none (.rangeFunc s m assign l) h i j [] b c a:=λk y hh=>by
 rw[va]
 refine wpIn_rangeFunc λfn _=>?_
 have hD:=(hh.perm hH).FV (.deferred (some []))
 have S:=hD.FV (.loop (ny fn k.tmps m assign l a.heap.size .ready .none))
 rw[World.size_alloc]at S
 have z:(ob (a.heap.size+1) (.loop (ny fn k.tmps m assign l a.heap.size .ready .none))::ob a.heap.size (.deferred (some []))::(o++u)).Perm (ob (a.heap.size+1) (.loop (ny fn k.tmps m assign l a.heap.size .ready .none))::o++(ob a.heap.size (.deferred (some []))::u)):=by rw[kP];exact List.Perm.cons _ eg.symm
 have q:=S.perm z
 have X:∀(args:Array M)(a:O),(callFunc p args).run e a=.ok (.enter p args) a:=λargs a=>by injection hb with T W;simp only[callFunc,ke,Dd,j8,hf,T,W,vW,r7,ku]
 obtain⟨w,D⟩:∃w,(a.alloc (.deferred (some []))).alloc (.loop (ny fn k.tmps m assign l a.heap.size .ready .none))=w:=⟨_,rfl⟩
 rw[D]at q
 refine⟨a.heap.size+1,[wX a.heap.size],w,{target:=.fn (.func p) t,args:=#[.func (.yield (a.heap.size+1)) #[] #[]]},w,p,#[.func (.yield (a.heap.size+1)) #[] #[]]++t,w,?_,?_,λ_ _=>trivial,?_,λn=>(by cases n),?_⟩
 .rw[<-D];exact run_enterLoop_outer _ _ _ _ _
 .simp only[resolve,y.eval hg];simp[go_sem]
 .simp[invoke,go_sem,X]
 .have K:=n fn k (a.heap.size+1) a.heap.size _ y q (B2 q);have r:(Value.func (.yield (a.heap.size+1)) #[] #[]::t.toList).toArray=#[.func (.yield (a.heap.size+1)) #[] #[]]++t:=by apply lS;simp
  unfold mz at K;rw[r]at K;refine CallsIn.mono K ?_;rintro r L ⟨v,R,rfl,P,H,hp,hN⟩;have E:=(q.call P).perm (hp.append_right _);have hl:L.heap[a.heap.size+1]? =some (.loop (ny fn k.tmps m assign l a.heap.size .ready .none)):=E.2.1.1;refine⟨.none,_,run_endLoop hl (by simp[ny]),[wX a.heap.size],k,b,_,?_,y,?_,hN _⟩
  .have:=y.defers;simp only[bk,this,kF,eN]
  .have ab:=E.put (.loop {ny fn k.tmps m assign l a.heap.size .ready .none with state:=.exhausted});exact(ab.j0 (fO ..)).perm eg
def BY {z:fR}{fn:Func}{q:Code}{args:C M}{K:Nat->Prop}{E:M->C V->Prop}
 (hf:e.funcs[z]? =some fn) (R:fn.body=some q) (hn:fn.ntmps=d) (b:dD) (T:Nat.ble args.length d=true) (hm:xN b args)
 (hh:cI a K c a)
 (s:G e d a K .none q (λl b c w=>∃u m Hd,(∀k p,Fr d b k->cI a K Hd p->(results fn k.tmps).run e p=.ok u p)/\m.Sublist Hd/\E u m/\(l=[]/\Hd=c\/∃A,l=[wX A]/\c.Perm (ob A (.deferred (some []))::Hd))) (λl b c w=>∃u m Hd,(∀k p,Fr d b k->cI a K Hd p->(results fn k.tmps).run e p=.ok u p)/\m.Sublist Hd/\E u m/\(l=[]/\Hd=c\/∃A,l=[wX A]/\c.Perm (ob A (.deferred (some []))::Hd))) (λ_ _ _ _ _=>False) [] b c a):
 mz e z args a K E:=by
 have T:=qs T
 have S:Fr d b {tmps:=args.toArray++Array.replicate (fn.ntmps-args.toArray.size) undef,defers:=[]}:=by
  refine⟨?_,rfl,?_⟩
  .simp only[C5,AJ,E7,hn];omega
  .intro t u hv;have:=hm.get t u hv;have W:t<args.length:=(da.1 this).1;rw[E5 (by simpa using W)];simpa using this
 have y:=s _ S hh
 rw[va]at y
 refine callsIn_of_wp_marks hf R trivial (wu (n:=0) y λr a' w D=>?_)
 have L:∀l o b c,Fr d b o->cI a K c w->(∃u m Hd,(∀k p,Fr d b k->cI a K Hd p->(results fn k.tmps).run e p=.ok u p)/\m.Sublist Hd/\E u m/\(l=[]/\Hd=c\/∃A,l=[wX A]/\c.Perm (ob A (.deferred (some []))::Hd)))->LeavesInM (sq .none) 0 e fn (bk o l).tmps (λr w=>∃u m,r=.returned u/\cI a K m w/\E u m) (bk o l).defers .returning w:=by
  rintro l o b c v x ⟨u,m,Hd,P,hs,X,⟨rfl,rfl⟩|⟨A,rfl,H⟩⟩
  .rw[va,v.defers];exact⟨u,P o w v x,u,m,rfl,x.j0 hs,X⟩
  .have hd:(bk o [wX A]).defers=[wX A]:=by simp[bk,v.defers]
   rw[hd];have Q:=x.perm H;have R:w.heap[A]? =some (.deferred (some [])):=Q.2.1.1;have B:=(Q.put (.deferred .none)).j0 (fO ..);exact⟨by simp,.inl ⟨A,_,rfl,run_takeDeferred R,u,P o _ v B,u,m,rfl,B.j0 hs,X⟩⟩
 cases r with
 |normal=>obtain⟨l,o,b,c,rfl,v,x,B⟩:=D;exact L l o b c v x B
 |ret=>obtain⟨l,o,b,c,rfl,v,x,B⟩:=D;exact L l o b c v x B
 |exit id=>obtain⟨_,_,_,_,_,_,_,s⟩:=D;exact s.elim
 |goto t=>exact(D:False).elim
 |panic q=>exact(D:False).elim
 |outgrown=>exact(D:False).elim
end
section
variable{h:dX}{f:Nat}{d:O}{c:Nat->Prop}{k:cG Nat}{e l:jq}{m:Nat->jq}{b:C Deferred}{i:dD}{j:C V}{g:O}{a:Array Oper}
def QG (f:Nat)(d:O)(c:Nat->Prop)(e:fJ):Exit->Act->O->Prop:=λo n g=>match o with
 |.normal=>∃q p,Fr f q n/\cI d c p g/\e q p g
 |_=>False
def NN {a:Array Oper}(n:a.toList.all El=true):zO a.toList:=jB n
def zC {id:Nat}(q:C (Nat×Bool))(p Hm:C V)(H:h.follows .mixedOrders=true)(w:Region.noSelect a=true)(v:a.toList.all El=true)(x:ou a (Array.replicate a.size false) q=true)(s:Nat.ble q.length a.size=true)(B:j.Perm (p++Hm))(n:∀t,WD h f d c a (e b) p q i Hm t):G h f d c k (.region id a true) e l m b i j g:=λo D E=>by have u:=(E.perm B).drew;refine wpIn_region_any H (JG (c:=QG f d c (e b)) b (NN v) (λ_ _ n=>n) (λ_ _ _ n=>n) (λo g n=>by obtain⟨L,r,y,z,A⟩:=n;exact⟨b,o,L,r,rfl,y,z,A⟩) _ _ o _ (wpAny_of_held (S:=λt=>∃r,cI d c (p++r) t) _ _ _ _ ?_));exact EW w _ (λ_ _ _ n=>n) (λ_ _ K=>K) q _ _ i Hm o _ (qs s) x D u (n _)
def KS {id:Nat}(r:C (Nat×Bool))(q:C iR)(Hm:C V)(W:h.follows .mixedOrders=true)(y:Region.noSelect a=true)(w:a.toList.all El=true)(z:ou a (Array.replicate a.size false) r=true)(u:Nat.ble r.length a.size=true)(x:FU r q=true)(L:j.Perm (j3 q++Hm))(n:∀w',WK h f d c a (e b) q r i Hm w'):G h f d c k (.region id a true) e l m b i j g:=λp R S=>by
 have v:=(S.perm L).drew;refine wpIn_region_any W (JG (c:=QG f d c (e b)) b (NN w) (λ_ _ n=>n) (λ_ _ _ n=>n) (λp g n=>by obtain⟨P,D,E,H,K⟩:=n;exact⟨b,p,P,D,rfl,E,H,K⟩) _ _ p _ (IF _ _ _ _ (ID (W:=q) y _ (λ_ _ _ n=>n) (λ_ _ X=>X) r _ _ q i Hm p _ (qs u) (by simp) z ?_ (λ_ _ _=>rfl) ?_ R v (n _) ?_)))
 .intro B o _ t;simp only[AG,AH]at t;split at t<;>simp at t
 .intro k A _;simp only[AG,AH];split<;>simp
 .intro s T;have:=yW.1 x (s,true) T;simpa using this
end
section
variable{b:dX}{h:Nat}{d:O}{c:Nat->Prop}{e:dD}{f:C V}{a:O}{g:dk}
def aag {recv:fj}{name:String}{B:dk}{k:M}{i:fR}{fn:Func}{y:C fj}{l:C M}{ts:Array dk}{ad:M->C V->Prop}(m D:C V)(X:ev e recv=some (.iface B k))(hm:∀a,(method (b.types.size+Made.depth) B k name).run b a=.ok (i,k) a)(hx:mB e y=some l)(hf:b.funcs[i]? =some fn)(hb:(fn.body.isNone,fn.name== "runtime.NumGoroutine")=(false,false))(hH:f.Perm (m++D))(hc:∀a,cI d c f a->cI a (gO m) m a->fz b i (k::l) a (gO m) ad):eG b h d c (.call {callee:=.invoke recv name,args:=y.toArray,argTypes:=ts}) g e f a (λv ae=>∃r,ae=r++D/\ad v r):=λo p K Q W ag E S q=>by
 have t:(y.toArray.map p.eval)=l.toArray:=by apply lS;simpa using E.wM _ hx
 have L:∀args:Array M,(callFunc i args).run b a=.ok (.enter i args) a:=λargs=>by injection hb with G H;simp only[callFunc,ke,Dd,j8,hf,G,H,vW,r7,ku]
 have x:(execOp p.eval o).run b a=.ok (.enter i (k::l).toArray) a:=by
  have af:(#[Value.iface B k]++l.toArray)[0]? =some (Value.iface B k):=by simp
  have e1:(#[Value.iface B k]++l.toArray).extract 1 (#[Value.iface B k]++l.toArray).size=l.toArray:=by apply lS;simp
  have e2:#[k]++l.toArray=(k::l).toArray:=by apply lS;simp
  simp only[execOp,W,resolve,E.eval X,t,ke,ku,j8,invoke,af,e1,callMethod,Dd,hm,L,e2]
 have n:=S.perm hH;have u:cI a (gO m) m a:=by
  refine⟨lR.refl _ _,?_⟩;have R:=(Hs.append.1 n.2).1;have P:∀z:C V,Hs d c z a->(∀ab∈z,∀A,ab.fq A->gO m A)->Hs a (gO m) z a:=by
   intro z;induction z with
   |nil=>exact λ_ _=>trivial
   |cons ab z ih=>exact λj w=>⟨⟨j.1.1,λA q=>⟨(j.1.2.1 A q).1,.inr (w ab (dQ ..) A q)⟩,j.1.2.2⟩,ih j.2 λs hs=>w s (dN _ hs)⟩
  exact P m R λab hr A q=>⟨ab,hr,q⟩
 unfold Oper.wp;rw[x,Oper.upon_enter];refine nY (hc a S u) ?_;rintro e' w' ⟨v,r,rfl,T,hp⟩;exact q v _ w' ⟨r,rfl,hp⟩ (n.call T)
def x5 {recv:fj}{name:String}{B:dk}{j:M}{i:fR}{fn:Func}{q:C fj}{p:C M}{A:Array dk}{r:M->C V->Prop}(o:V)(k:C V)(m:ev e recv=some (.iface B j))(y:∀a,(method (b.types.size+Made.depth) B j name).run b a=.ok (i,j) a)(z:mB e q=some p)(w:b.funcs[i]? =some fn)(u:(fn.body.isNone,fn.name== "runtime.NumGoroutine")=(false,false))(t:f.Perm (o::k))(v:∀a,cI d c f a->cI a o.fq [o] a->fz b i (j::p) a o.fq r):eG b h d c (.call {callee:=.invoke recv name,args:=q.toArray,argTypes:=A}) g e f a (λD s=>∃l,s=l++k/\r D l):=aag [o] k m y z w u t λa x n=>by rw[ud]at n|-;exact v a x n
def BP {j:dk}{q:fj}{k:M}{i:TypeDesc}(p:ev e q=some k)(o:b.underlying j=some i)(s:(match i with|.interface _=>false|_=>true)=true):dp b h d c (.makeInterface j q) g e f (.iface j k):=λu l a m r n t=>by
 have:(Instr.makeInterface j k).run b a=.ok (.iface j k) a:=by cases i<;>simp_all[Instr.makeInterface,gG o]
 simp[execOp,m,n.eval p,this]
end
section
open Go.MapKept (IsKey Stamped)
structure tD {b:Type}(g:TypeDesc)(a:b->M):Prop where
 is:∀f,IsKey g (a f)
 inj:∀f h,a f=a h->f=h
def vp:tD .string (Value.string:U->M):=⟨λ_=>trivial,λf h z=>by injection z⟩
def wU:tD (.int .i64) (Value.int .i64:Int->M):=⟨λ_=>rfl,λf h z=>by injection z⟩
section
variable{b e:Type}[DecidableEq b]
def ed (c:C (b×e))(z:b):cG e:=(c.find? λA=>decide (A.1=z)).map Prod.snd
def ig (c:C (b×e))(z:b):C (b×e):=c.filter λA=> !decide (A.1=z)
def nM (c:C (b×e))(z:b)(B:e):C (b×e):=match ed c z with
 |some _=>c.map λA=>if A.1=z then(z,B)else A
 |none=>c++[(z,B)]
def wC {c:C (b×e)}{z:b}{B:e}(A:ed c z=some B):(z,B)∈c:=by
 unfold ed at A;obtain⟨k,D,rfl⟩:=nq.1 A;have E:=Fm D;have G:k.1=z:=by simpa using Fh D
 rw[<-G];exact E
def Dl {c:C (b×e)}{z:b}(B:z∉c.map Prod.fst):ed c z=none:=by unfold ed;rw[FB,wa];intro D E A;exact B (dz.2 ⟨D,E,by simpa using A⟩)
def Br {c:C (b×e)}{A:b}:ed c A=none↔A∉c.map Prod.fst:=by refine⟨λz D=>?_,Dl⟩;unfold ed at z;rw[FB,wa]at z;obtain⟨B,E,rfl⟩:=dz.1 D;exact z B E (by simp)
def s5 {c:C (b×e)}{A:b}{B:e}(G:(c.map Prod.fst).Nodup)(z:(A,B)∈c):ed c A=some B:=by
 induction c with
 |nil=>cases z
 |cons E c K=>
  rw[dA,iB]at G;unfold ed;rw[sY];rcases dh.1 z with rfl|z
  .simp
  .have H:E.1≠A:=λD=>G.1 (dz.2 ⟨(A,B),z,D.symm⟩);rw[fL H];exact K G.2 z
def zm {c:C (b×e)}{z:b}{A:e}(B:ed c z=none):nM c z A=c++[(z,A)]:=by rw[nM,B]
def FW {c:C (b×e)}{z:b}{B E:e}(D:ed c z=some E):nM c z B=c.map λA=>if A.1=z then(z,B)else A:=by rw[nM,D]
def NP {c:C (b×e)}{z:b}{D:e}:(nM c z D).map Prod.fst=if(ed c z).isSome then c.map Prod.fst else c.map Prod.fst++[z]:=by
 cases B:ed c z with
 |some G=>
  rw[FW B,jj,Option.isSome_some,cM rfl];refine k5 λA _=>?_;show(if A.1=z then(z,D)else A).1=A.1;split
  .rename_i E;exact E.symm
  .rfl
 |none=>rw[zm B];simp
def NI {c:C (b×e)}{A:b}{E:e}:ed (nM c A E) A=some E:=by
 cases z:ed c A with
 |some Q=>
  rw[FW z];have K:∃D∈c,D.1=A:=⟨_,wC z,rfl⟩;clear z;induction c with
  |nil=>obtain⟨D,G,_⟩:=K;cases G
  |cons H c R=>
   rw[dA];unfold ed;rw[sY];by_cases B:H.1=A
   .rw[cM B];simp
   .rw[cJ B,fL B];obtain⟨D,G,L⟩:=K;show ed _ A=some E;refine R ?_;rcases dh.1 G with rfl|G
    .exact absurd L B
    .exact⟨D,G,L⟩
 |none=>rw[zm z];unfold ed at z|-;rw[Fg,FB.1 z];simp
def NH {c:C (b×e)}{A E:b}{G:e}(H:E≠A):ed (nM c A G) E=ed c E:=by
 cases z:ed c A with
 |some R=>
  rw[FW z];clear z;induction c with
  |nil=>rfl
  |cons D c L=>
   unfold ed at L|-;rw[dA,sY,sY];by_cases B:D.1=A
   .rw[cM B,fL (λz:A=E=>H z.symm),fL (λz:D.1=E=>H (z.symm.trans B))];exact L
   .rw[cJ B];by_cases Q:D.1=E
    .rw[gb Q]
    .rw[fL Q];exact L
 |none=>
  rw[zm z];unfold ed;rw[Fg];have:([(A,G)].find? λK=>decide (K.1=E))=none:=by rw[sY,fL (λz:A=E=>H z.symm)];rfl
  rw[this,Option.or_none]
def NG {c:C (b×e)}{z:b}:ed (ig c z) z=none:=Dl λB=>by obtain⟨D,E,A⟩:=dz.1 B;have:=(kE.1 E).2;simp[A]at this
def FQ {c:C (b×e)}{z E:b}(L:E≠z):ed (ig c z) E=ed c E:=by
 induction c with
 |nil=>rfl
 |cons B c H=>
  unfold ed ig at H|-;by_cases D:B.1=z
  .have:((B::c).filter λA=> !decide (A.1=z))=c.filter λA=> !decide (A.1=z):=nI (by simp[D]);rw[this,sY,fL (λG:B.1=E=>L (G.symm.trans D))];exact H
  .have:((B::c).filter λA=> !decide (A.1=z))=B::c.filter λA=> !decide (A.1=z):=oC (by simp[D]);rw[this,sY,sY];by_cases K:B.1=E
   .rw[gb K]
   .rw[fL K];exact H
def ND {c:C (b×e)}{z:b}(B:ed c z=none):ig c z=c:=by rw[ig,sW];intro D E;simp only[yS,Bg];exact λA=>Br.1 B (dz.2 ⟨D,E,A⟩)
def js (g:TypeDesc)(a:b->M)(d:e->M)(es:Array MapEntry)(clock:Nat)(c:C (b×e)):Prop:=Stamped es clock/\es.toList.map (λz=>(z.key,z.val))=c.map λA=>(a A.1,d A.2)
def mp (g:TypeDesc)(a:b->M)(d:e->M)(h:Nat)(c:C (b×e)):V where
 fq:=λA=>A=h
 ok:=λi=>∃es clock,i.heap[h]? =some (.map es clock)/\js g a d es clock c
 loc:=λ_ _ z ⟨es,clock,B,D⟩=>⟨es,clock,(z h rfl).trans B,D⟩
variable{g:TypeDesc}{a:b->M}{d:e->M}{es:Array MapEntry}{clock:Nat}{c:C (b×e)}
omit [DecidableEq b] in
def js.nd (z:js g a d es clock c):(c.map Prod.fst).Nodup:=by
 have D:(es.toList.map (·.key)).Nodup:=z.1.2.2;have G:es.toList.map (·.key)=c.map λB=>a B.1:=by have:=dq (List.map Prod.fst) z.2;simpa[jj,CS]using this
 rw[G]at D;refine yV a (λf h E A=>E (by rw[A])) (S:=λf h=>f≠h) ?_;rw[jj];exact D
omit [DecidableEq b] in
def js.keys (B:js g a d es clock c)(G:tD g a):∀k∈es.toList,IsKey g k.key:=λk E=>by
 have:(k.key,k.val)∈c.map λz=>(a z.1,d z.2):=by rw[<-B.2];exact dz.2 ⟨k,E,rfl⟩
 obtain⟨z,_,A⟩:=dz.1 this;injection A with D _;rw[<-D];exact G.is _
omit [DecidableEq b] in
def js.at (D:js g a d es clock c){B:Nat}{z:MapEntry}(K:es[B]? =some z):∃A,c[B]? =some A/\z.key=a A.1/\z.val=d A.2:=by
 have E:(es.toList.map λz=>(z.key,z.val))[B]? =some (z.key,z.val):=by rw[eK,vU,K];rfl
 rw[D.2,eK,nq]at E;obtain⟨A,L,z⟩:=E;injection z with G H;exact⟨A,L,G.symm,H.symm⟩
def js.find (D:js g a d es clock c)(S:tD g a)(f:b):(ed c f=none/\Instr.findNow g (a f) es.toList 0=some none/\∀k∈es.toList,k.key≠a f)\/∃B z A,ed c f=some A.2/\c[B]? =some A/\A.1=f/\es[B]? =some z/\z.key=a f/\z.val=d A.2/\Instr.findNow g (a f) es.toList 0=some (some (B,z.val)):=by
 rcases MapKept.findNow_spec (S.is f) es.toList 0 (D.keys S)with⟨K,E⟩|⟨B,z,K,E,Q⟩
 .refine .inl ⟨Dl λW=>?_,K,E⟩;obtain⟨A,G,rfl⟩:=dz.1 W;have:(a A.1,d A.2)∈es.toList.map λz=>(z.key,z.val):=by rw[D.2];exact dz.2 ⟨A,G,rfl⟩
  obtain⟨k,X,z⟩:=dz.1 this;injection z with H _;exact E k X H
 .have R:es[B]? =some z:=by simpa using E
  obtain⟨A,G,H,T⟩:=D.at R;have L:A.1=f:=S.inj _ _ (H.symm.trans Q);refine .inr ⟨B,z,A,?_,G,L,R,Q,T,by simpa using K⟩;exact s5 D.nd (by rw[<-L];exact eH G)
omit [DecidableEq b] in
def js.new:js (b:=b) (e:=e) g a d #[] 0 []:=⟨MapKept.stamped_empty 0,rfl⟩
def js.push (z:js g a d es clock c){f:b}{A:e}(D:ed c f=none)(B:∀k∈es.toList,k.key≠a f):js g a d (es.push {key:=a f,val:=d A,born:=clock}) (clock+1) (nM c f A):=by refine⟨MapKept.stamped_push z.1 B,?_⟩;rw[zm D];simp[z.2]
def js.set (E:js g a d es clock c){f:b}{G:e}{A:Nat}{z:MapEntry}{D:b×e}(hj:es[A]? =some z)(X:c[A]? =some D)(he:z.key=a f)(S:D.1=f)(hg:ed c f=some D.2):js g a d (es.modify A λz=>{z with key:=a f,val:=d G}) clock (nM c f G):=by
 have ry:∀K,es[A]? =some K->({K with key:=a f,val:=d G}:MapEntry).key=K.key:=λK H=>by rw[hj]at H;cases H;exact he.symm
 refine⟨MapKept.stamped_modify E.1 _ _ (λ_ _=>rfl) (λK _ H=>ry K H),?_⟩;rw[FW hg];apply qo;intro B;have L:(es.toList.map λz=>(z.key,z.val))[B]? =(c.map λD=>(a D.1,d D.2))[B]? :=by rw[E.2]
 simp only[eK,vU]at L;simp only[eK,vU,Array.getElem?_modify,Option.map_map];by_cases T:A=B
 .subst T;rw[cM rfl,hj,X];simp[S]
 .rw[cJ T];cases Q:c[B]?with
  |none=>rw[Q]at L;simpa using L
  |some R=>have hq:R.1≠f:=λe1=>T (by have P:B<c.length:=(da.1 Q).1;have W:A<c.length:=(da.1 X).1;exact(Jh (i:=A) (j:=B) (by simpa using W) E.nd).1 (by simp[Q,X,S,e1]));rw[Q]at L;rw[L];simp[hq]
def WH {c:C (b×e)}{z:Nat}{A:b×e}(E:(c.map Prod.fst).Nodup)(K:c[z]? =some A):ig c A.1=c.eraseIdx z:=by
 induction c generalizing z with
 |nil=>simp at K
 |cons D c R=>
  rw[dA,iB]at E;cases z with
  |zero=>
   obtain rfl:D=A:=by simpa using K
   rw[List.eraseIdx_zero,List.tail_cons,ig,nI (by simp),sW];intro G Q;simp only[yS,Bg];exact λB=>E.1 (dz.2 ⟨G,Q,B⟩)
  |succ z=>
   have H:c[z]? =some A:=by simpa using K
   have L:D.1≠A.1:=λB=>E.1 (dz.2 ⟨A,eH H,B.symm⟩);rw[List.eraseIdx_cons_succ,ig,oC (by simp[L])];congr 1;exact R E.2 H
def js.del (B:js g a d es clock c){E:Nat}{G:b×e}(L:c[E]? =some G):js g a d (es.eraseIdxIfInBounds E) clock (ig c G.1):=by
 refine⟨MapKept.stamped_erase B.1 _,?_⟩;rw[WH B.nd L];have K:es.size=c.length:=by have:=dq List.length B.2;simpa using this
 have R:E<es.size:=by rw[K];exact(da.1 L).1
 unfold Array.eraseIdxIfInBounds;have H:∀{Q T:Type}(D:Q->T)(A:C Q)(z:Nat),(A.eraseIdx z).map D=(A.map D).eraseIdx z:=λD A=>by
  induction A with
  |nil=>intro z;rfl
  |cons k A S=>intro z;cases z with
   |zero=>rfl
   |succ z=>simp only[List.eraseIdx_cons_succ,dA,S]
 rw[dif_pos R,Array.toList_eraseIdx,H,H,B.2]
omit [DecidableEq b] in
def js.size (z:js g a d es clock c):es.size=c.length:=by have:=dq List.length z.2;simpa using this
end
section
variable{l:dX}{u:Nat}{p:O}{o:Nat->Prop}{q:dD}{r:C V}{i:O}{s:dk}{k t v:fj}{w x:fJ}{y:Nat->fJ}
variable{b e:Type}[DecidableEq b]{g:TypeDesc}{a:b->M}{d:e->M}{c:C (b×e)}{n j m:dk}{h:Nat}{f:b}
structure sT (l:dX)(n j m:dk)(g:TypeDesc)(v:M):Prop where
 ht:l.underlying n=some (.map j m)
 hk:l.underlying j=some g
 hz:∀i,(zeroValue m).run l i=.ok v i
omit [DecidableEq b] in
def DJ:eG l u p o (.makeMap n .none) s q r i (λB D=>∃h,B=.map (some h)/\D=mp g a d h ([]:C (b×e))::r):=λA f Q R E K L G H=>by
 unfold Oper.wp;have:(execOp f.eval A).run l i=.ok (.value (.map (some i.heap.size))) (i.alloc (.map #[] 0)):=by simp[execOp,E,Instr.makeMap,Result.andThen]
 rw[this,kt];refine H _ _ _ ⟨_,rfl,rfl⟩ ?_;have z:=G.FV (.map #[] 0);exact⟨z.1,⟨⟨_,_,z.2.1.1,js.new⟩,z.2.1.2⟩,z.2.2⟩
def Mj {es:Array MapEntry}{clock:Nat}{D:M}{i:O}(A:sT l n j m g D)(L:tD g a)(E:i.heap[h]? =some (.map es clock))(R:js g a d es clock c)(z:Bool):(Instr.lookup n (.map (some h)) (a f) z).run l i=.ok (if z then .tuple #[((ed c f).map d).getD D,.bool (ed c f).isSome]else((ed c f).map d).getD D) i:=by
 rcases R.find L f with⟨h0,B,S⟩|⟨H,G,K,h0,_,_,_,_,Q,B⟩
 .rw[h0];simp[Instr.lookup,gG A.ht,wh E,xG A.hk (L.is f),xH A.hk B,A.hz i,Result.andThen]
 .rw[h0];simp[Instr.lookup,gG A.ht,wh E,xG A.hk (L.is f),xH A.hk B,Result.andThen,Q]
def DX {B:M}(z:Nat)(T:sT l n j m g B)(S:tD g a)(Q:ev q k=some (.map (some h)))(R:ev q t=some (a f))(K:r[z]? =some (mp g a d h c)):dp l u p o (.lookup n k t false) s q r (((ed c f).map d).getD B):=λD ac i E W A H=>by obtain⟨es,clock,G,L⟩:=H.ok K;have:=Mj (d:=d) (c:=c) (f:=f) T S G L false;simp[execOp,E,A.eval Q,A.eval R,this]
def KB {B:M}(z:Nat)(T:sT l n j m g B)(S:tD g a)(Q:ev q k=some (.map (some h)))(R:ev q t=some (a f))(K:r[z]? =some (mp g a d h c)):dp l u p o (.lookup n k t true) s q r (.tuple [((ed c f).map d).getD B,.bool (ed c f).isSome].toArray):=λD ac i E W A H=>by obtain⟨es,clock,G,L⟩:=H.ok K;have:=Mj (d:=d) (c:=c) (f:=f) T S G L true;simp[execOp,E,A.eval Q,A.eval R,this]
omit [DecidableEq b] in
def PR (z:Nat)(L:l.underlying n=some (.map j m))(Q:ev q k=some (.map (some h)))(H:r[z]? =some (mp g a d h c)):dp l u p o (.call {callee:=.builtin .len,args:=#[k],argTypes:=#[n]}) s q r (.int .i64 (c.length:Nat)):=λA ac i B R D G=>by obtain⟨es,clock,E,K⟩:=G.ok H;simp[execOp,B,resolve,invoke,builtin,D.eval Q,Builtin.len_,gG L,goInt,wh E,K.size,Result.andThen]
omit [DecidableEq b] in
def Hj {G H:C V}{es B:Array MapEntry}{clock z:Nat}{D:C (b×e)}(Q:cI p o (G++mp g a d h c::H) i)(K:i.heap[h]? =some (.map es clock))(L:js g a d B z D):cI p o (G++mp g a d h D::H) {i with heap:=i.heap.setIfInBounds h (.map B z)}:=Q.change (k:=mp g a d h D) ⟨rfl,rfl,rfl,by simp,λA _ E=>(Fw K).2 A E⟩ ⟨B,z,(Fw K).1,L⟩ (λA E=>.inl E)
def DI {z:e}{zv:M}{H W:C V}(B:Nat)(T:sT l n j m g zv)(K:tD g a)(hx:ev q k=some (.map (some h)))(hy:ev q t=some (a f))(hv:ev q v=some (d z))(hi:kJ B r=some (H,mp g a d h c,W)):eG l u p o (.mapUpdate n k t v) s q r i (λ_ H'=>H'=H++mp g a d h (nM c f z)::W):=λae ac K' Q X h2 D R hk=>by
 obtain rfl:=rQ B r hi;obtain⟨es,clock,E,S⟩:=R.ok (i:=H.length) (r:=mp g a d h c) (by simp);unfold Oper.wp;rcases S.find K f with⟨h0,L,h4⟩|⟨G,A,af,h0,hp,ad,ab,P,h5,L⟩
 .have:(Instr.mapUpdate n (.map (some h)) (a f) (d z)).run l i=.ok () {i with heap:=i.heap.setIfInBounds h (.map (es.push {key:=a f,val:=d z,born:=clock}) (clock+1))}:=by simp[Instr.mapUpdate,gG T.ht,wh E,xG T.hk (K.is f),xH T.hk L,Ba _ E,Result.andThen]
  simp only[execOp,X,D.eval hx,D.eval hy,D.eval hv,ke,this,j8,ku,kt];exact hk _ _ _ rfl (Hj R E (S.push h0 h4))
 .have:(Instr.mapUpdate n (.map (some h)) (a f) (d z)).run l i=.ok () {i with heap:=i.heap.setIfInBounds h (.map (es.modify G λA=>{A with key:=a f,val:=d z}) clock)}:=by simp[Instr.mapUpdate,gG T.ht,wh E,xG T.hk (K.is f),xH T.hk L,ab,P,MapKept.run_keyThatStays (K.is f),Ba _ E,Result.andThen]
  simp only[execOp,X,D.eval hx,D.eval hy,D.eval hv,ke,this,j8,ku,kt];exact hk _ _ _ rfl (Hj R E (S.set ab hp P ad h0))
def Gi {zv:M}{H W:C V}(A:Nat)(T:sT l n j m g zv)(K:tD g a)(hx:ev q k=some (.map (some h)))(hy:ev q t=some (a f))(hi:kJ A r=some (H,mp g a d h c,W)):eG l u p o (.call {callee:=.builtin .delete,args:=#[k,t],argTypes:=#[n,j]}) s q r i (λ_ H'=>H'=H++mp g a d h (ig c f)::W):=λz ac K' Q X h2 E R P=>by
 obtain rfl:=rQ A r hi;obtain⟨es,clock,D,S⟩:=R.ok (i:=H.length) (r:=mp g a d h c) (by simp);unfold Oper.wp;rcases S.find K f with⟨h0,L,h4⟩|⟨B,ad,ae,h0,hp,ab,hj,G,h5,L⟩
 .have:(Builtin.delete_ #[n,j] z.type #[.map (some h),a f]).run l i=.ok (.tuple #[]) {i with heap:=i.heap.setIfInBounds h (.map es clock)}:=by simp[Builtin.delete_,gG T.ht,wh D,xG T.hk (K.is f),xH T.hk L,Ba _ D,Result.andThen]
  have G:(execOp ac.eval z).run l i=.ok (.value (.tuple #[])) {i with heap:=i.heap.setIfInBounds h (.map es clock)}:=by simp[execOp,X,resolve,invoke,builtin,E.eval hx,E.eval hy,this,Result.andThen]
  rw[G,kt];refine P _ _ _ rfl (Hj R D ?_);rw[ND h0];exact S
 .have:(Builtin.delete_ #[n,j] z.type #[.map (some h),a f]).run l i=.ok (.tuple #[]) {i with heap:=i.heap.setIfInBounds h (.map (es.eraseIdxIfInBounds B) clock)}:=by simp[Builtin.delete_,gG T.ht,wh D,xG T.hk (K.is f),xH T.hk L,Ba _ D,Result.andThen]
  have G:(execOp ac.eval z).run l i=.ok (.value (.tuple #[])) {i with heap:=i.heap.setIfInBounds h (.map (es.eraseIdxIfInBounds B) clock)}:=by simp[execOp,X,resolve,invoke,builtin,E.eval hx,E.eval hy,this,Result.andThen]
  rw[G,kt];subst ab;exact P _ _ _ rfl (Hj R D (S.del hp))
end
end
section
variable{g:dX}{j:Nat}{c:O}{a:Nat->Prop}{e:dD}{f:C V}{b:O}{h d:dk}{i:fj}
def KF {u r:cG fj}{o len l n D k:Nat}(x:ev e i=some (.pointer (some ⟨l,n,.none⟩)))(w:g.underlying d=some (.array len o))(L:(g.info? o).isSome=true)
 (z:match u with|.none=>D=len/\r=.none|some G=>∃E,ev e G=some (.int E (D:Nat))) (t:match r with|.none=>k=len|some G=>∃E,ev e G=some (.int E (k:Nat))) (s:D<=k) (y:k<=len):
 dp g j c a (.slice d i .none u r) h e f (.slice (some ⟨l,n,.none⟩) D k):=λX H b q Q p S=>by
 obtain⟨K,v⟩:=Db.1 L
 have m:(⟨l,n,.none⟩:Addr).add 0=⟨l,n,.none⟩:=by unfold Addr.add;split<;>simp_all
 have R:D<=len:=gF s y
 cases u with
 |none=>obtain⟨rfl,rfl⟩:=z;subst t;simp[execOp,q,p.eval x,Instr.sliceAt,Instr.sureAddr,gG w,Instr.sliceBounds,sizeOf,typeInfo,v,m]
 |some G=>
  obtain⟨E,A⟩:=z;cases r with
  |none=>subst t;simp[execOp,q,p.eval x,p.eval A,Instr.sliceAt,Instr.sureAddr,gG w,Instr.sliceBounds,Instr.sliceBound,asIntOf,sizeOf,typeInfo,v,m,s]
  |some W=>obtain⟨T,B⟩:=t;simp[execOp,q,p.eval x,p.eval A,p.eval B,Instr.sliceAt,Instr.sureAddr,gG w,Instr.sliceBounds,Instr.sliceBound,asIntOf,sizeOf,typeInfo,v,m,s,y]
def Rd.N5 {k B r s m:Nat}(t:Nat){n q:C M}(w:cI c a f b){o:Nat}(x:f[o]? =some (Proofs.YtdlpoonfcdoiiaaGreat.cF k n B))(z:∀(l:Nat)(u:M),q[l]? =some u->n[t+l]? =some u)(y:q.length=s*r)(v:s<=m):Rd b cW r (.slice (some ⟨k,t,.none⟩) s m) s q:=by have p:b.heap[k]? =some (.cells n.toArray B (0,0)):=w.ok x;refine⟨_,_,rfl,y,v,.inr ⟨k,t,rfl,id,(mS.1 p).1,λl u A=>?_⟩⟩;rw[tL b k (t+l) n.toArray B (0,0) p];simpa using z l u A
def H7 {m:C M}{k:Nat}{n:M}(l:k<m.length):m.take k++[n]++m.drop (k+1)=m.set k n:=by rw[qU,cM l];simp
end
section
open Go.MapKept (IsKey Stamped)
section
variable{k:dX}{x:Nat}{i:O}{g:Nat->Prop}{p:dD}{j c f:C V}{d:O}{s:dk}{r D E:fj}{z A:fJ}{B:Nat->fJ}
variable{o y:Type}[DecidableEq o]{q:TypeDesc}{e:o->M}{l:y->M}{t:C (o×y)}{w n v:dk}{b h:Nat}{u:o}{es:Array MapEntry}{clock a m:Nat}{seen:Array Nat}
omit [DecidableEq o] in
def cI.RX (G:cI i g (c++mp q e l b t::f) d):∃es clock,js q e l es clock t/\cI i g (c++ob b (.map es clock)::f) d:=by obtain⟨es,clock,K,L⟩:=G.ok (i:=c.length) (r:=mp q e l b t) (by simp);refine⟨es,clock,L,G.1,?_⟩;have H:=G.2.perm (eg (a:=mp q e l b t) (l₁:=c) (l₂:=f));exact Hs.perm (eg (a:=ob b (.map es clock)) (l₁:=c) (l₂:=f)).symm ⟨⟨K,H.1.2.1,H.1.2.2⟩,H.2⟩
omit [DecidableEq o] in
def as6 {G:Code}(H:Nat)(S:kJ H j=some (c,mp q e l b t,f))(K:∀es clock,js q e l es clock t->W k x i g G z A B p (c++ob b (.map es clock)::f) d):W k x i g G z A B p j d:=λac Q R=>by obtain rfl:=rQ H j S;obtain⟨es,clock,T,L⟩:=R.RX;exact K es clock T ac Q L
def aak (ht:k.underlying w=some (.map n v))(G:Nat)(hx:ev p r=some (.map (some b)))(P:j[G]? =some (ob b (.map es clock))):eG k x i g (.range w r) s p j d (λH S=>∃h,H=.pointer (some ⟨h,0,.none⟩)/\S=ob h (.mapIter (some b) clock #[] clock)::j):=λR ac K Q T h2 W L ab=>by unfold Oper.wp;have X:d.heap[b]? =some (.map es clock):=L.ok P;have:=run_range_map (P:=k) d w n v b es clock ht X;simp only[execOp,T,W.eval hx,ke,this,j8,ku,kt];exact ab _ _ _ ⟨_,rfl,rfl⟩ (L.FV _)
def aaj (ab:Nat)(R:Nat)(hx:ev p r=some (.pointer (some ⟨h,0,.none⟩)))(hi:kJ R j=some (c,ob h (.mapIter (some b) a seen m),f))(hj:j[ab]? =some (ob b (.map es clock)))(af:∀r∈es.toList,r.born<a)(ag:a<=m):eG k x i g (.next r false) s p j d (λT H'=>((leftOf es seen).size=0/\T=.tuple [.bool false].toArray/\H'=j)\/∃G∈(leftOf es seen).toList,T=.tuple [.bool true,G.key,G.val].toArray/\H'=c++ob h (.mapIter (some b) a (seen.push G.born) clock)::f):=λH ac K Q h1 h2 ha X W=>by
 unfold Oper.wp;have hb:d.heap[b]? =some (.map es clock):=X.ok hj;obtain rfl:=rQ R j hi;have hr:d.heap[h]? =some (.mapIter (some b) a seen m):=X.ok (i:=c.length) (r:=ob h (.mapIter (some b) a seen m)) (by simp);have ai:h<d.heap.size:=(mS.1 hr).1;rcases run_next_at (P:=k) d H.type h b a m seen es clock hr hb af ag with⟨h0,L⟩|⟨G,he,P,ah,L⟩
 .have:(execOp ac.eval H).run k d=.ok (.value (.tuple #[.bool false])) d:=by simp[execOp,h1,ha.eval hx,L,Result.andThen]
  rw[this,kt];exact W _ _ _ (.inl ⟨h0,rfl,rfl⟩) X
 .have:(execOp ac.eval H).run k d=.ok (.value (.tuple #[.bool true,G.key,G.val])) (Go.ChangeMaps.setBlock P h (.mapIter (some b) a (seen.push G.born) clock)):=by simp[execOp,h1,ha.eval hx,L,Result.andThen]
  rw[this,kt];have ad:cI i g (c++ob h (.mapIter (some b) a seen m)::f) P:=by
   rcases ah with rfl|rfl
   .exact X
   .exact X.drew
  have ae:h<P.heap.size:=(mS.1 (ad.ok (i:=c.length) (r:=ob h (.mapIter (some b) a seen m)) (by simp))).1;refine W _ _ _ (.inr ⟨G,he,rfl,rfl⟩) (ad.change (k:=ob h (.mapIter (some b) a (seen.push G.born) clock)) ⟨rfl,rfl,rfl,by simp[Go.ChangeMaps.setBlock],λS _ W=>?_⟩ ?_ (λS W=>.inl W))
  .have:S≠h:=W;simp[Go.ChangeMaps.setBlock,uR this]
  .show(Go.ChangeMaps.setBlock P h _).heap[h]? =_;simp[Go.ChangeMaps.setBlock,ae]
def aaR {G:MapEntry}(H K:Nat)(hx:ev p r=some (.pointer (some ⟨h,0,.none⟩)))(W:j[H]? =some (ob h (.mapIter (some b) a (seen.push G.born) clock)))(X:j[K]? =some (ob b (.map es clock)))(T:G∈es.toList)(hn:(es.toList.map (·.born)).Nodup):dp k x i g (.entry r) s p j (.tuple [G.key,G.val].toArray):=λQ ac d R h2 S L=>by have:=run_entry_at (P:=k) d h b a seen es clock G (L.ok W) (L.ok X) T hn;simp[execOp,R,S.eval hx,this,Result.andThen]
def aai {zv:M}(W:Nat)(T:sT k w n v q zv)(K:tD q e)(hm:js q e l es clock t)(hx:ev p r=some (.map (some b)))(hy:ev p D=some (e u))(hi:kJ W j=some (c,ob b (.map es clock),f)):eG k x i g (.call {callee:=.builtin .delete,args:=#[r,D],argTypes:=#[w,n]}) s p j d (λ_ H'=>∃L,H'=c++ob b (.map L clock)::f/\js q e l L clock (ig t u)/\L.toList.Sublist es.toList/\∀R∈es.toList,R.key≠e u->R∈L.toList):=λS ac K' Q h1 h2 ha hh ab=>by
 obtain rfl:=rQ W j hi;have P:d.heap[b]? =some (.map es clock):=hh.ok (i:=c.length) (r:=ob b (.map es clock)) (by simp);have ae:∀L,cI i g (c++ob b (.map L clock)::f) {d with heap:=d.heap.setIfInBounds b (.map L clock)}:=λL=>
  hh.change (k:=ob b (.map L clock)) ⟨rfl,rfl,rfl,by simp,λX _ ab=>(Fw P).2 X ab⟩ (Fw P).1 (λX ab=>.inl ab)
 unfold Oper.wp;rcases hm.find K u with⟨h0,h3,h4⟩|⟨G,R,al,h0,hp,ah,hj,he,h5,h3⟩
 .have:(Builtin.delete_ #[w,n] S.type #[.map (some b),e u]).run k d=.ok (.tuple #[]) {d with heap:=d.heap.setIfInBounds b (.map es clock)}:=by simp[Builtin.delete_,gG T.ht,wh P,xG T.hk (K.is u),xH T.hk h3,Ba _ P,Result.andThen]
  have he:(execOp ac.eval S).run k d=.ok (.value (.tuple #[])) {d with heap:=d.heap.setIfInBounds b (.map es clock)}:=by simp[execOp,h1,resolve,invoke,builtin,ha.eval hx,ha.eval hy,this,Result.andThen]
  rw[he,kt];refine ab _ _ _ ⟨es,rfl,?_,gq _,λR he _=>he⟩ (ae es);rw[ND h0];exact hm
 .have:(Builtin.delete_ #[w,n] S.type #[.map (some b),e u]).run k d=.ok (.tuple #[]) {d with heap:=d.heap.setIfInBounds b (.map (es.eraseIdxIfInBounds G) clock)}:=by simp[Builtin.delete_,gG T.ht,wh P,xG T.hk (K.is u),xH T.hk h3,Ba _ P,Result.andThen]
  have ak:(execOp ac.eval S).run k d=.ok (.value (.tuple #[])) {d with heap:=d.heap.setIfInBounds b (.map (es.eraseIdxIfInBounds G) clock)}:=by simp[execOp,h1,resolve,invoke,builtin,ha.eval hx,ha.eval hy,this,Result.andThen]
  rw[ak,kt];subst ah;have af:G<es.size:=(mS.1 hj).1;have hl:(es.eraseIdxIfInBounds G).toList=es.toList.eraseIdx G:=by unfold Array.eraseIdxIfInBounds;rw[dif_pos af,Array.toList_eraseIdx]
  refine ab _ _ _ ⟨_,rfl,hm.del hp,by rw[hl];exact List.eraseIdx_sublist _ _,λam hu ag=>?_⟩ (ae _);rw[hl];obtain⟨H,ad⟩:=ka.1 hu;refine ka.2 ?_;by_cases aj:H<G
  .exact⟨H,by rw[List.getElem?_eraseIdx_of_lt aj];exact ad⟩
  .by_cases ai:H=G
   .subst ai;rw[vU,hj]at ad;injection ad with ad;subst ad;exact absurd he ag
   .exact⟨H-1,by rw[List.getElem?_eraseIdx_of_ge (by omega)];rw[show H-1+1=H by omega];exact ad⟩
end
end
section
variable{m:dX}{e:Nat}{w0:O}{F0:Nat->Prop}{n:dD}{H L q:C V}{c:O}{l:dk}{p:fj}{d:M}{o h b g cap k f:Nat}{a:C M}
def In (w0:O)(F0:Nat->Prop)(H:C V)(i:V):Prop:=∀c,cI w0 F0 H c->i.ok c
def In.here {i:Nat}{s:V}(r:H[i]? =some s):In w0 F0 H s:=λ_ j=>j.ok r
def In.cz {j:Nat}{r:V}(i:In w0 F0 H (Proofs.YtdlpoonfcdoiiaaGreat.cz L))(t:L[j]? =some r):In w0 F0 H r:=λc s=>um (i c s) t
def pD {c:O}{e:Nat}{d:M}(j:(row d h b e a).ok c)(s:0<e:=by omega):∃g cap,d=.slice (some ⟨g,0,.none⟩) e cap:=by
 have j:c.ownsRow 0 h b d e a:=j;rcases j.2 with⟨_,i⟩|⟨g,cap,r,i,_⟩
 .omega
 .exact⟨g,cap,i⟩
def Ew {c:O}{e:Nat}{d:M}(j:(row d h b e a).ok c):∃s cap,d=.slice s e cap:=by
 have j:c.ownsRow 0 h b d e a:=j;rcases j.2 with⟨i,rfl⟩|⟨g,cap,r,i,_⟩
 .exact⟨_,_,i⟩
 .exact⟨_,_,i⟩
def In.rd {e:Nat}{d:M}(i:In w0 F0 H (row d h b e a))(j:cI w0 F0 H c):Rd c cW b d e a:=xe (i c j)
def td {i:TypeDesc}(t:In w0 F0 H (row (.slice (some ⟨g,0,.none⟩) k cap) h b k a))(v:ev n p=some (.pointer (some ⟨g,f,.none⟩)))(r:m.underlying o=some i)(j:(match i with|.struct _|.array _ _=>false|_=>true)=true)(u:a[f]? =some d):dp m e w0 F0 (.load o p) l n H d:=BR v r j λc s=>by have:=(show c.ownsRow 0 h b (.slice (some ⟨g,0,.none⟩) k cap) k a from t c s).cells (g:=g) rfl f d u;rw[pQ]at this;simpa using this
end
section
variable{h:dX}{q:Nat}{f:O}{e:Nat->Prop}{s t:fJ}{u:Nat->fJ}{n:dD}{i l m:C V}{c:O}{p o w g:dk}{r v:fj}{b d j cap:Nat}{k a:C M}{x:M}
def cI.aiD (X:cI f e (row (.slice (some ⟨d,0,.none⟩) j cap) g b j k::i) c):∃a,j<=cap/\cap<=maxLen/\a.length=cap*b/\a.take (j*b)=k/\cI f e (cF d a g::i) c:=by
 obtain⟨Q,⟨A,T,S⟩,R⟩:=X;have A:c.ownsRow 0 g b (.slice (some ⟨d,0,.none⟩) j cap) j k:=A;rcases A.2 with⟨y,_⟩|⟨g',L,a,y,_,W,K,G,H,B⟩
 .simp at y
 .simp only[Value.slice.injEq,ln,Addr.mk.injEq,and_true,true_and]at y;obtain⟨rfl,rfl⟩:=y;refine⟨a.toList,K,G,by simpa using H,B,Q,⟨?_,?_,?_⟩,R⟩
  .show c.heap[d]? =some (.cells a.toList.toArray g (0,0));simpa using W
  .intro z E;exact T z (by simpa[row,Value.ownBlock,cF,zg]using E)
  .intro D hs z E;exact S D hs z (by simpa[row,Value.ownBlock,cF,zg]using E)
def cI.N4 (T:cI f e (cF d a g::i) c)(D:j<=cap)(Q:cap<=maxLen)(A:a.length=cap*b)(G:a.take (j*b)=k):cI f e (row (.slice (some ⟨d,0,.none⟩) j cap) g b j k::i) c:=by
 obtain⟨H,⟨E,S,R⟩,K⟩:=T;have L:c.heap[d]? =some (.cells a.toArray g (0,0)):=E;refine⟨H,⟨⟨?_,.inr ⟨d,cap,a.toArray,rfl,gK _,L,D,Q,by simpa using A,by simpa using G⟩⟩,?_,?_⟩,K⟩
 .rw[<-G,eD,A];have:=j7 b D;omega
 .intro y B;exact S y (by simpa[row,Value.ownBlock,cF,zg]using B)
 .intro z W y B;exact R z W y (by simpa[row,Value.ownBlock,cF,zg]using B)
def EV {y:Code}(A:∀a,j<=cap->cap<=maxLen->a.length=cap*b->a.take (j*b)=k->W h q f e y s t u n (cF d a g::i) c):W h q f e y s t u n (row (.slice (some ⟨d,0,.none⟩) j cap) g b j k::i) c:=λz K L=>by obtain⟨a,B,D,E,G,H⟩:=L.aiD;exact A a B D E G z K H
def ER {y:Code}(H:j<=cap)(E:cap<=maxLen)(B:a.length=cap*b)(K:a.take (j*b)=k)(A:W h q f e y s t u n (row (.slice (some ⟨d,0,.none⟩) j cap) g b j k::i) c):W h q f e y s t u n (cF d a g::i) c:=λz D G=>A z D (G.N4 H E B K)
def Ky {G:cG Addr}(E:ev n r=some (.slice G j cap))(D:h.underlying o=some (.slice g)):dp h q f e (.call {callee:=.builtin .cap,args:=#[r],argTypes:=#[o]}) p n i (.int .i64 cap):=λz y c A H B K=>by simp[execOp,A,resolve,invoke,builtin,B.eval E,Builtin.cap_,gG D,goInt]
def K2 {y:Nat}{A:C M}{E:O}{B:dk}{G:C M}(L:cI f e (l++cF y G B::m) c)(H:E.heap[y]? =some (.cells A.toArray B (0,0)))(K:c.grownBy E (some y)):cI f e (l++cF y A B::m) E:=L.change (k:=cF y A B) (D0 K (by rintro D z;injection z with z;exact z.symm)) H (λD Q=>.inl Q)
def DH {A G dc R ab H sc:Nat}{E:dk}{B:C M}(D:Nat)(hx:ev n r=some (.slice (some ⟨d,A,.none⟩) G dc))(hy:ev n v=some (.slice (some ⟨R,ab,.none⟩) H sc))(ht:h.underlying o=some (.slice g))(hs:(h.info? g).map (·.size)=some b)(hi:kJ D i=some (l,cF d a E,m))(P:∀c,cI f e i c->∀y z,B[y]? =some z->c.cell? ⟨R,ab+y,.none⟩=some z)(hl:B.length=min H G*b)(S:A+B.length<=a.length)(h1:∀z∈B,z.oneCell'=true):eG h q f e (.call {callee:=.builtin .copy,args:=#[r,v],argTypes:=#[o,w]}) p n i c (λ_ H'=>H'=l++cF d (a.take A++B++a.drop (A+B.length)) E::m):=λop L K Q ah ak ha T hk=>by
 have aj:=P c T;obtain rfl:=rQ D i hi;obtain⟨y,hj,af⟩:=nq.1 hs;have ai:c.heap[d]? =some (.cells a.toArray E (0,0)):=(T.2.mem (cF d a E) (by simp)).1;obtain⟨w',X,ad,ae⟩:=HT (c:=h) c d E a ai A B S h1;have ag:=run_loadCells_list (P:=h) c ⟨R,ab,.none⟩ B (λy z hu=>by rw[pQ];exact aj y z hu);have W:Nat.min H G*y.size=B.length:=by rw[hl,af]
 unfold Oper.wp;have:(execOp L.eval op).run h c=.ok (.value (goInt (Nat.min H G))) w':=by simp[execOp,ah,resolve,invoke,builtin,ha.eval hx,ha.eval hy,Builtin.copy_,gG ht,Builtin.lenOf,Builtin.firstCells,sizeOf,typeInfo,hj,W,ag,X,Result.andThen]
 rw[this,kt];exact hk _ _ w' rfl (K2 T ad ae)
def O5 {y E H:Nat}{D:dk}{B:C M}(z:Nat)(hx:ev n r=some (.slice (some ⟨d,y,.none⟩) E H))(ht:h.underlying o=some (.slice g))(hz:∀c,(zeroValue g).run h c=.ok x c)(ae:E≠0)(hi:kJ z i=some (l,cF d a D,m))(ad:(Builtin.zeroCells x.cells E).toList=B)(R:y+B.length<=a.length)(h1:∀L∈B,L.oneCell'=true):eG h q f e (.call {callee:=.builtin .clear,args:=#[r],argTypes:=#[o]}) p n i c (λ_ H'=>H'=l++cF d (a.take y++B++a.drop (y+B.length)) D::m):=λop G K Q P af ha X hk=>by
 obtain rfl:=rQ z i hi;have ab:c.heap[d]? =some (.cells a.toArray D (0,0)):=(X.2.mem (cF d a D) (by simp)).1;obtain⟨w',S,T,W⟩:=HT (c:=h) c d D a ab y B R h1;obtain⟨A,rfl⟩:∃A,E=A+1:=⟨E-1,by omega⟩;unfold Oper.wp;have:(execOp G.eval op).run h c=.ok (.value (.tuple #[])) w':=by simp[execOp,P,resolve,invoke,builtin,ha.eval hx,Builtin.clear_,gG ht,hz,ad,S,Result.andThen]
 rw[this,kt];exact hk _ _ w' rfl (K2 X T W)
def O2 {B G X o2 c2 A:Nat}{D:C M}(E:Nat)(T:fB h o g b j x)(hx:ev n r=some (.slice (some ⟨d,0,.none⟩) B A))(hy:ev n v=some (.slice (some ⟨X,o2,.none⟩) G c2))(hi:kJ E i=some (l,cF d a g,m))(ae:∀c,cI f e i c->∀y z,D[y]? =some z->c.cell? ⟨X,o2+y,.none⟩=some z)(hl:D.length=G*b)(H:B+G<=A)(P:B*b+D.length<=a.length)(h1:∀z∈D,z.oneCell'=true):eG h q f e (.call {callee:=.builtin .append,args:=#[r,v],argTypes:=#[o,o]}) p n i c (λS H'=>S=.slice (some ⟨d,0,.none⟩) (B+G) A/\H'=l++cF d (a.take (B*b)++D++a.drop (B*b+D.length)) g::m):=λop L K Q af ah ha ab ad=>by
 have ag:=ae c ab;obtain rfl:=rQ E i hi;obtain⟨y,hj,hz,hs,hb⟩:=T.hi;have W:c.heap[d]? =some (.cells a.toArray g (0,0)):=(ab.2.mem (cF d a g) (by simp)).1;have hr:=run_append_room (P:=h) c o op.type g y T.ht hj d B A a.toArray W ⟨X,o2,.none⟩ G c2 D (by rw[hl,hs]) (λy z hu=>by rw[pQ];exact ag y z hu) h1 H (by rw[hs];simpa using P);rw[hs]at hr;unfold Oper.wp;have:(execOp L.eval op).run h c=.ok (.value (.slice (some ⟨d,0,.none⟩) (B+G) A)) (c.setRow d (a.toArray.toList.take (B*b)++D++a.toArray.toList.drop (B*b+D.length)).toArray):=by simp[execOp,af,resolve,invoke,builtin,ha.eval hx,ha.eval hy,hr,Result.andThen]
 rw[this,kt];refine ad _ _ _ ⟨rfl,rfl⟩ (K2 ab ?_ ⟨rfl,rfl,rfl,by simp,λR _ ad=>setRow_other c d R _ (λg=>ad (by simp[g]))⟩);rw[setRow_heap c d a.toArray _ g _ W]
end
section
variable{d:dX}{p:Nat}{g:O}{f:Nat->Prop}{h:dD}{l:C V}{a:O}{k q j b n:dk}{o t:fj}{c i:Nat}{e s:M}{r m:IntKind}
def aab {A D w y u:Nat}{x:C M}(T:fB d q b c i e)(hx:ev h o=some (.slice (some ⟨A,D,.none⟩) w y))(hy:ev h t=some (.int r (u:Nat)))(ak:d.underlying j=some (.int m))(R:∀a,cI g f l a->∀v H,x[v]? =some H->a.cell? ⟨A,D+v,.none⟩=some H)(hl:x.length=w*c)(hq:0<u)(P:y<w+u)(B:(w+u)*i<=140737488355328)(al:w+u<=140737488355328):eG d p g f (.call {callee:=.builtin .append,args:=#[o,t],argTypes:=#[q,j]}) k h l a (λH H'=>∃(z E:Nat)(zs:C M),H=.slice (some ⟨z,0,.none⟩) (w+u) E/\H'=cF z (x++zs) b::l/\w+u<=E/\E<=maxLen/\(x++zs).length=E*c):=λop L K Q af an W ad hk=>by
 obtain⟨v,hj,hz,hs,hb⟩:=T.hi;have ah:=R a ad;have aj:∀(G:Nat)(H:M),x[G]? =some H->a.drew.cell? ((⟨A,D,.none⟩:Addr).add G)=some H:=λG H hu=>by rw[pQ];exact ah G H hu
 have hf:=run_firstCells_some (P:=d) a.drew v.size w ⟨A,D,.none⟩ w y x (by rw[hl,hs]) aj;have am:(w+u)*v.bytes<=140737488355328:=by rw[hb];exact B
 have ae:=nextslicecap_le P;have ai:Builtin.nextslicecap (w+u) y*v.bytes<=281474976710656:=by have S:=j7 v.bytes ae;rw[zd]at S;omega
 have ag:u*v.bytes<=281474976710656:=by have S:u*v.bytes<=(w+u)*v.bytes:=j7 v.bytes (by omega);omega
 have hr:=Lib.run_append_grow_zeros (P:=d) a q j op.type b v e r m T.ht ak hj hz (some ⟨A,D,.none⟩) w y x hf u hq (by rw[hs];exact T.GR) P (by omega) ag ai;have ab:=grownCap_ge a (w+u) y b;have X:grownCap a (w+u) y b<=maxLen:=grownCap_le_maxLen a (w+u) y b (by simp only[maxLen];omega);unfold Oper.wp;have:(execOp L.eval op).run d a=.ok (.value (.slice (some ⟨a.heap.size,0,.none⟩) (w+u) (grownCap a (w+u) y b))) (a.drew.alloc (.cells (x++(Builtin.zeroCells e.cells u++Builtin.zeroCells e.cells (grownCap a (w+u) y b-(w+u))).toList).toArray b)):=by
  have e1:(x++(Builtin.zeroCells e.cells u++Builtin.zeroCells e.cells (grownCap a (w+u) y b-(w+u))).toList).toArray=x.toArray++Builtin.zeroCells e.cells u++Builtin.zeroCells e.cells (grownCap a (w+u) y b-(w+u)):=by apply lS;simp
  rw[e1];simp[execOp,af,resolve,invoke,builtin,W.eval hx,W.eval hy,hr,Result.andThen]
 rw[this,kt];refine hk _ _ _ ⟨_,_,_,rfl,rfl,ab,X,?_⟩ (ad.drew.alloc _ b);simp only[cX,tF,AJ,size_zeroCells,T.Lb,hl];rw[<-mu,<-mu];congr 1;omega
def aaS {u:fR}{fn:Func}{b:Array M->Sem M}{A:C fj}{x:C M}{T:Array dk}(S:mB h A=some x)(K:d.funcs[u]? =some fn)(w:(fn.name== "runtime.NumGoroutine")=false)(G:fn.body.isNone=true)(Q:Extern.findNext fn=none)(H:Extern.find fn=some b)(R:∀a,cI g f l a->(b x.toArray).run d a=.ok s a):dp d p g f (.call {callee:=.value (.func u),args:=A.toArray,argTypes:=T}) k h l s:=λD y a B W E L=>by
 have v:(A.toArray.map y.eval)=x.toArray:=by apply lS;simpa using E.wM _ S
 have z:=run_callFunc_extern K w G Q H x.toArray a;rw[R a L]at z;simp only[execOp,B,resolve,Act.eval,Deferred.ofValue,invoke,v,ke,ku,j8];simpa using z
def P3 (c:Nat){b u Q v w x len cap:Nat}{K E L:fj}{k1 k2 k3:IntKind}(hx:ev h o=some (.slice (some ⟨w,x,.none⟩) len cap))(ht:d.underlying n=some (.slice b))(hs:(d.info? b).map (·.size)=some c)(hl:ev h K=some (.int k1 (u:Nat)))(hu:ev h E=some (.int k2 (Q:Nat)))(X:ev h L=some (.int k3 (v:Nat)))(z:u<=Q)(A:Q<=v)(D:v<=cap):dp d p g f (.slice n o (some K) (some E) (some L)) k h l (.slice (some ⟨w,if v=u then x else x+u*c,.none⟩) (Q-u) (v-u)):=λT R a W h2 y hh=>by
 obtain⟨S,hj,G⟩:=nq.1 hs;have B:∀e,(⟨w,x,.none⟩:Addr).add e=⟨w,x+e,.none⟩:=λe=>by unfold Addr.add;split<;>simp_all
 have H:(if v=u then(some ⟨w,x,.none⟩:cG Addr)else some ⟨w,x+u*c,.none⟩)=some ⟨w,if v=u then x else x+u*c,.none⟩:=by split<;>rfl
 have b:=H;have h3:u<=v:=gF z A;simp[execOp,W,y.eval hx,y.eval hl,y.eval hu,y.eval X,Instr.sliceAt,gG ht,Instr.slice,Instr.sliceBounds,Instr.sliceBound,asIntOf,z,A,D,sizeOf,typeInfo,hj,G,B,b]
end
def IS (f:dX)(h:fR)(args:C M)(d:O)(e:Nat->Prop)(c:C V->Prop):Prop:=CallsDIn (sq .none) 0 f h args.toArray .returning d λg i b=>i=.returning/\∃j a,g=.returned j/\cI d e a b/\c a
def vf (a:fR)(cap:C M):Deferred:={target:=.fn (.func a) cap.toArray,args:=#[]}
section
variable{d:dX}{e:Nat}{n:O}{j:Nat->Prop}{r:cG Nat}{o p:jq}{q:Nat->jq}{f:C Deferred}{c:dD}{a:C V}{b:O}{h:Array Oper}{l:Op}{m:dk}{i:String}{k:Array Edge}{g:C Oper}
def aaw {y:fR}{fn:Func}{v:Code}{args:C M}{Q:Nat->Prop}{L:C V->Prop}{a:C V}(hf:d.funcs[y]? =some fn)(P:fn.body=some v)(hn:fn.ntmps=e)(c:dD)(S:Nat.ble args.length e=true)(hm:xN c args)(hh:cI b Q a b)(w:W d e b Q v (λc a x=>∃D u,(∀s,Fr e c s->cI b Q a x->(results fn s.tmps).run d x=.ok D x)/\u.Sublist a/\L u) (λc a x=>∃D u,(∀s,Fr e c s->cI b Q a x->(results fn s.tmps).run d x=.ok D x)/\u.Sublist a/\L u) (λ_ _ _ _=>False) c a b):IS d y args b Q L:=by
 have S:=qs S;refine callsDIn_of_wp hf P trivial ((wpIn_wide (n:=0)).2 (xM (w _ ⟨?_,rfl,?_⟩ hh) ?_))
 .simp only[C5,AJ,E7,hn];omega
 .intro t D hv;have:=hm.get t D hv;have T:t<args.length:=(da.1 this).1;rw[E5 (by simpa using T)];simpa using this
 .intro E R x z;cases E with
  |normal=>obtain⟨c,a,A,B,D,u,H,K,G⟩:=z;exact⟨A.defers,D,H R A B,D,u,rfl,B.j0 K,G⟩
  |ret=>obtain⟨c,a,A,B,D,u,H,K,G⟩:=z;exact⟨A.defers,D,H R A B,D,u,rfl,B.j0 K,G⟩
  |exit id=>obtain⟨_,_,_,_,w⟩:=z;exact w
  |goto X=>exact z
  |panic v=>exact(z:False).elim
  |outgrown=>exact(z:False).elim
def abJ {D:fR}{fn:Func}{v:Code}{args:C M}{ad:Nat->Prop}{Φ:M->C V->Prop}
 (hf:d.funcs[D]? =some fn) (hb:fn.body=some v) (hn:fn.ntmps=e) (c:dD) (hl:Nat.ble args.length e=true) (hm:xN c args)
 (hh:cI b ad a b) (x:fR) {L:Func} (ak:d.funcs[x]? =some L) (aj:(L.body.isNone,L.name== "runtime.NumGoroutine")=(false,false))
 (s:G d e b ad .none v (λ_ _ _ _=>False) (λf c a H=>∃T w,(∀A K X,Fr e c A->cI b ad (X++a) K->(results fn A.tmps).run d K=.ok T K)/\w.Sublist a/\Φ T w/\(f=[]\/∃cap Q P,f=[vf x cap]/\a.Perm (Q++P)/\∀H,cI b ad a H->IS d x cap H (gO Q) λw=>w=Q)) (λ_ _ _ _ _=>False) [] c a b):
 mz d D args b ad Φ:=by
 have hl:=qs hl
 have ai:Fr e c {tmps:=args.toArray++Array.replicate (fn.ntmps-args.toArray.size) undef,defers:=[]}:=by
  refine⟨?_,rfl,?_⟩
  .simp only[C5,AJ,E7,hn];omega
  .intro t T hv;have:=hm.get t T hv;have an:t<args.length:=(da.1 this).1;rw[E5 (by simpa using an)];simpa using this
 have z:=s _ ai hh
 rw[va]at z
 refine callsIn_of_wp_defers hf hb trivial (wu (n:=0) z λB a' H E=>?_)
 cases B with
 |normal=>obtain⟨_,_,_,_,_,_,_,s⟩:=E;exact s.elim
 |ret=>
  obtain⟨f,ab,c,a,rfl,R,S,T,w,hr,hs,hp,rfl|⟨cap,Q,P,rfl,y,hd⟩⟩:=E
  .show LeavesIn _ _ _ _ _ _ _ _ _;rw[va,R.defers];exact⟨T,hr ab H [] R S,T,w,rfl,S.j0 hs,hp⟩
  .have ah:(bk ab [vf x cap]).defers=[vf x cap]:=by simp[bk,R.defers]
   show LeavesIn _ _ _ _ _ _ _ _ _;rw[ah];have hD:=hd H S;have ag:∀(args:Array M)(b:O),(callFunc x args).run d b=.ok (.enter x args) b:=λargs b=>by injection aj with ae af;simp only[callFunc,ke,Dd,j8,ak,ae,af,vW,r7,ku]
   refine leavesIn_cons (by simp) (by intro s;cases s) (by simp[invoke,ag]) (λ_ _=>trivial) (CallsDIn.mono hD ?_);rintro B u K ⟨rfl,v2,X,rfl,al,rfl⟩;have am:cI b ad (X++P) K:=(S.perm y).call al;have W:=am.perm y.symm;exact⟨T,hr ab K [] R W,T,w,rfl,W.j0 hs,hp⟩
 |exit id=>obtain⟨_,_,_,_,_,_,_,s⟩:=E;exact s.elim
 |goto t=>exact(E:False).elim
 |panic v=>exact(E:False).elim
 |outgrown=>exact(E:False).elim
end
section
variable{d:dX}{n:Nat}{c:O}{b:Nat->Prop}{k:dD}{h:C V}{a:O}{o m i e s:dk}{q r:fj}{sz f:Nat}{g l:M}{p j:IntKind}
def aac {t:Nat}(P:fB d m e sz f g)(hx:ev k q=some (.slice .none 0 0))(hy:ev k r=some (.int p (t:Nat)))(T:d.underlying i=some (.int j))(hq:0<t)(x:t*f<=140737488355328)(ae:t<=140737488355328):eG d n c b (.call {callee:=.builtin .append,args:=#[q,r],argTypes:=#[m,i]}) o k h a (λu ab=>∃(w y:Nat)(X:C M),u=.slice (some ⟨w,0,.none⟩) t y/\ab=cF w X e::h/\t<=y/\y<=maxLen/\X.length=y*sz):=λW z K Q L af A hh hk=>by
 obtain⟨v,hj,hz,hs,hb⟩:=P.hi;have hf:=run_firstCells_none (P:=d) a.drew v.size 0 0 0;have B:(0+t)*v.bytes<=140737488355328:=by rw[hb,dU];exact x
 have E:0<0+t:=by omega
 have H:=nextslicecap_le E;have S:Builtin.nextslicecap (0+t) 0*v.bytes<=281474976710656:=by have h1:=j7 v.bytes H;rw[zd]at h1;omega
 have R:t*v.bytes<=281474976710656:=by rw[dU]at B;omega
 have hr:=Lib.run_append_grow_zeros (P:=d) a m i W.type e v g p j P.ht T hj hz .none 0 0 [] hf t hq (by rw[hs];exact P.GR) E (by omega) R S;have G:=grownCap_ge a (0+t) 0 e;have D:grownCap a (0+t) 0 e<=maxLen:=grownCap_le_maxLen a (0+t) 0 e (by simp only[maxLen];omega);unfold Oper.wp;have:(execOp z.eval W).run d a=.ok (.value (.slice (some ⟨a.heap.size,0,.none⟩) (0+t) (grownCap a (0+t) 0 e))) (a.drew.alloc (.cells ((Builtin.zeroCells g.cells t++Builtin.zeroCells g.cells (grownCap a (0+t) 0 e-(0+t))).toList).toArray e)):=by
  have ad:((Builtin.zeroCells g.cells t++Builtin.zeroCells g.cells (grownCap a (0+t) 0 e-(0+t))).toList).toArray=([]:C M).toArray++Builtin.zeroCells g.cells t++Builtin.zeroCells g.cells (grownCap a (0+t) 0 e-(0+t)):=by apply lS;simp
  rw[ad];simp[execOp,L,resolve,invoke,builtin,A.eval hx,A.eval hy,hr,Result.andThen]
 rw[this,kt];rw[dU]at*;refine hk _ _ _ ⟨_,_,_,rfl,rfl,G,D,?_⟩ (hh.drew.alloc _ e);simp only[tF,AJ,size_zeroCells,P.Lb];rw[<-mu];congr 1;omega
def as2 {w:C V}{t:Code}{B D:fJ}{E:Nat->fJ}(z:∀x,cI c b h x->cI c b w x)(v:W d n c b t B D E k w a):W d n c b t B D E k h a:=λu y A=>v u y (z a A)
def fz.held {t:fR}{w:C M}{y:Nat->Prop}{x:M->C V->Prop}(u:fz d t w a y x):fz d t w a y λl h=>x l h/\∃E D,cI E y h D:=nY u λ_ _ ⟨l,z,A,v,B⟩=>⟨l,z,A,v,B,_,_,v⟩
end
section
open Go.RowKit Go.WideShapes Go.ChangeShapes
section
variable{c:Type}{a:dX}
def Vf {j:dk}:∀{d:C (DataW c)}{h:DataW c}{i:Nat},h∈d->i∈h.weights a j->i∈DataW.weightsAll a j d
 |[],_,_,e,_=>by cases e
 |g::d,h,i,e,f=>by
  rw[DataW.weightsAll,dV];rcases dh.1 e with rfl|e
  .exact .inl f
  .exact .inr (Vf e f)
end
section
variable{c:Type}(enc:dk×M->c)(a:dX)(b:O)
def oY (h:dk)(e:C M):Prop:=∃(d:Nat)(g:DataW c)(f:C MemPlace),DataW.trod enc a b 0 (λ_=>true) true d h e=some (g,f)/\∀i∈g.weights a h,i<=reachBytes
variable{enc}{a}{b}
def NS {l:dk}{k:IntKind}{d:C M}(j:a.underlying l=some (.int k))(g:oY enc a b l d):∃e,d=[.int k e]/\(Lit.int k e).wf=true:=by obtain⟨f,n,m,g,_⟩:=g;obtain⟨e,h,_,i⟩:=DataW.trod_int j g;exact⟨e,h,i⟩
def NT {t af:dk}{f bytes:Nat}{K:C M}(X:a.underlying t=some (.slice af))(W:a.cellsOf af=f)(i:0<f)(R:a.bytesOf af=bytes)(h:oY enc a b t K):∃A y n ae,K=[.slice A y n]/\Rd b cW f (.slice A y n) y ae/\y*bytes<=140737488351232/\y<=maxLen/\∀r,r<y->oY enc a b af ((ae.drop (r*f)).take f):=by
 obtain⟨ai,d,ps,h,hw⟩:=h;rcases Go.Deep.open_slice X h with⟨rfl,_⟩|⟨e,len,cap,ag,y,ah,Pl,rfl,_,S,hm,v,P,G⟩
 .exact⟨.none,0,0,[],rfl,Rd.nil _ _ _,by omega,by simp[maxLen],by simp⟩
 .simp only[pO]at v;subst v;rw[W]at G;simp only[r6]at P;have q:∀x∈(DataW.slice ((List.range len).map ah) ((List.range (ag-len)).map λj=>ah (len+j))).weights a t,x<=reachBytes:=by rw[<-P.1];exact hw
  simp only[DataW.weights,X]at q;have hb:=q _ (dQ ..);simp only[dL,sZ,reachBytes,R]at hb;have l:∀j,j<len*f->∃u,b.cell? (e.add j)=some u:=λj k=>by obtain⟨o,D,_⟩:=G (j/f) (zc ((Nat.div_lt_iff_lt_mul i).2 k) S);obtain⟨_,E,p⟩:=World.cells?_some D;have L:=p (j % f) (uQ _ i);rw[I3,ze,Jo]at L;rw[L,dr (by rw[E];exact uQ _ i)];exact⟨_,rfl⟩
  refine⟨some e,len,ag,(List.range (len*f)).map λj=>(b.cell? (e.add j)).getD undef,rfl,⟨some e,ag,rfl,by simp,S,?_⟩,?_,by omega,λr s=>?_⟩
  .rcases Bc len with h0|h0
   .exact .inl h0
   .right;obtain⟨u0,g⟩:=l 0 (Nat.mul_pos h0 i);have m:e.spot=.none:=by
     rw[show e.add 0=e by unfold Addr.add;simp]at g;unfold World.cell? at g;split at g
     .split at g
      .cases g
      .rename_i hs;simpa using hs
     .cases g
    obtain⟨z,B,ap⟩:=e;simp only at m;subst m;refine⟨z,B,rfl,id,?_,λj u H=>?_⟩
    .rw[show(⟨z,B,.none⟩:Addr).add 0=⟨z,B,.none⟩ by unfold Addr.add;simp]at g;exact Js b _ g
    .have k:j<len*f:=by have:=(da.1 H).1;simpa using this
     obtain⟨u',w⟩:=l j k;simp[k,w]at H;subst H
     rwa [pQ]at w
  .have:len*bytes<=(len+(ag-len))*bytes:=j7 _ (by omega);omega
  .obtain⟨o,D,E⟩:=G r (by omega);obtain⟨_,aj,Q⟩:=World.cells?_some D;have he:(((List.range (len*f)).map λj=>(b.cell? (e.add j)).getD undef).drop (r*f)).take f=o:=by
    apply qo;intro j;rw[mT];by_cases k:j<f
    .rw[cM k,kQ];have T:r*f+j<len*f:=by have:(r+1)*f<=len*f:=j7 _ s;rw[mu]at this;omega
     have p:=Q j k;rw[I3]at p;rw[dr (show j<o.length by omega)]at p|-;simp[T,p]
    .rw[cJ k,nZ (by omega)]
   rw[he];refine⟨y,ah r,Pl r,E,λx ad=>q x ?_⟩;refine dN _ (gI _ (Vf ?_ ad));simp only[dz,lE];exact⟨r,s,rfl⟩
def NU {v l:dk}{bytes:Nat}{g:C M}(s:a.underlying v=some (.slice l))(j:a.cellsOf l=1)(i:a.bytesOf l=bytes)(u:oY enc a b v g):∃k f d e,g=[.slice k f d]/\Rd b cW 1 (.slice k f d) f e/\e.length=f/\f*bytes<=140737488351232/\f<=maxLen/\∀w∈e,oY enc a b l [w]:=by
 obtain⟨k,f,d,e,m,h,n,o,p⟩:=NT s j (by omega) i u;have r:e.length=f:=by obtain⟨_,_,_,u,_⟩:=h;omega
 refine⟨k,f,d,e,m,h,r,n,o,λw t=>?_⟩;obtain⟨x,q,rfl⟩:=List.getElem_of_mem t;have:=p x (by omega);rw[fT]at this
 rwa [jP q]at this
def W3 {E h:dk}{bytes:Nat}{p:IntKind}{i:C M}(y:a.underlying E=some (.slice h))(x:a.underlying h=some (.int p))(l:a.cellsOf h=1)(k:a.bytesOf h=bytes)(G:oY enc a b E i):∃r e d,i=[.slice r (d:C Int).length e]/\Rd b cW 1 (.slice r d.length e) d.length (d.map (Value.int p))/\d.length*bytes<=140737488351232/\d.length<=maxLen/\∀q∈d,(Lit.int p q).wf=true:=by
 obtain⟨r,L,e,f,s,t,j,u,v,w⟩:=NU y l k G;have:∀f:C M,(∀D∈f,oY enc a b h [D])->∃d:C Int,f=d.map (Value.int p)/\∀q∈d,(Lit.int p q).wf=true:=by
  intro f;induction f with
  |nil=>exact λ_=>⟨[],rfl,by simp⟩
  |cons D f B=>intro m;obtain⟨q,o,n⟩:=NS x (m D (dQ ..));obtain⟨d,rfl,g⟩:=B λH z=>m H (dN _ z);simp at o;subst o;exact⟨q::d,rfl,λK A=>(dh.1 A).elim (λh=>h▸n) (g K)⟩
 obtain⟨d,rfl,g⟩:=this f w;simp only[dL]at j;subst j;exact⟨r,e,d,s,t,u,v,g⟩
end
section
variable{c:Type}(enc:dk×M->c)(a:dX)(b:O)
def qS (e:dk)(f:M):Prop:=(∃d,Value.okWide a b .any d e f)/\oY enc a b e f.cells.toList
variable{enc}{a}{b}
def HC {k:dk}{e l:M}(o:qS enc a b k e)(i:∀g,a.underlying k≠some (.struct g))(h:∀p n,a.underlying k≠some (.array p n))(j:e.cells.toList=[l]):e=l:=by
 obtain⟨⟨f,d⟩,_⟩:=o;unfold Value.okWide at d;split at d
 .exact absurd ‹_› (i _)
 .exact absurd ‹_› (h _ _)
 .cases e with
  |agg m=>exfalso;unfold Cell.okWide at d;split at d<;>simp_all[Cell.ok]
  |_=>simpa[Value.cells]using j
def LX {g i:dk}{f h:M}(d:a.underlying g=some (.slice i))(j:qS enc a b g f)(e:f.cells.toList=[h]):f=h:=HC j (by simp[d]) (by simp[d]) e
def Sh {p j:dk}{bytes:Nat}{n:IntKind}{q:M}(h:a.underlying p=some (.slice j))(m:a.underlying j=some (.int n))(g:a.cellsOf j=1)(f:a.bytesOf j=bytes)(o:qS enc a b p q):∃i d e,q=.slice i (e:C Int).length d/\Rd b cW 1 (.slice i e.length d) e.length (e.map (Value.int n))/\e.length*bytes<=140737488351232/\e.length<=maxLen/\∀r∈e,(Lit.int n r).wf=true:=by obtain⟨i,d,e,k,l⟩:=W3 h m g f o.2;exact⟨i,d,e,LX h o k,l⟩
end
end
end Go.Proofs.YtdlpoonfcdoiiaaGreat
