/- Lemmas 18. -/
import Derived.Test.YteaiieomnhbmgaaGreatDoorBA16
import Derived.Shelf.Strconv.Itoa3
import Derived.Shelf.Strings.Repeat
import Derived.Shelf.Pu.Clone
import Derived.Ground.NamesProg
import Derived.Ground.MpProg
import Derived.Lib.RepeatB
set_option maxHeartbeats 4000000
namespace Go.Eng
variable {i:Nat}{tl:List AV}{m:Nat}(x a w:Int)(s:CS)(ws:List Int)(k b:Int)
abbrev EH:AV:=.v (.int .u32 x)
theorem G6{cs r:List AV}{a:AV}{K:AV->Prop}(h:cs=a::r)(k:K a):L8 cs K:=by rw[h];exact k
theorem Pt{l:List AV}{n:Nat}{a:AV}(h:l[n]?=some a)(e:m=n):l.drop m=a::l.drop (n+1):=by
 grind [List.drop_eq_getElem_cons]
theorem u9{a:AV}:∀{l:List AV} {n:Nat},over l n [a]=l.set n a
 | [],_=>rfl
 |c::l,0=>by cases l<;>rfl
 |c::l,n+1=>by show c::over l n [a]=_;rw[u9 (l:=l)];rfl
def kS:Int:=I8 .or .u32 (Gf .shl .u32 x (I8 .and .u64 (IntKind.wrap .u64 k) 31)) (Gf .shr .u32 x (IntKind.wrap .u64 (32-I8 .and .u64 (IntKind.wrap .u64 k) 31)))
def xr:Int:=I8 .xor .u32 a b
def an:Int:=I8 .and .u32 a b
def nt:Int:=I8 .xor .u32 4294967295 a
def ad:Int:=IntKind.wrap .u32 (a+b)
def xm(c:Int):Int:=xr (xr (kS x (-a)) (kS x (-b))) (kS x (-c))
def ox(s:Int):Int:=xr (xr (kS x (-a)) (kS x (-b))) (Gf .shr .u32 x s)
def Of(i:Nat):UInt8:=s.data[i]?.getD 0
def SB(s:CS)(i:Nat):Nat->Int
 |0=>0
 |k+1=>I8 .or .u32 (Gf .shl .u32 (SB s i k) 8) (IntKind.wrap .u32 ((Of s (4*i+k)).toNat:Int))
def ZI(i:Nat):Int:=ws[i]?.getD 0
def bH(i:Nat):Int:=
 if i<16 then SB s i 4 else ad (ad (ad (ox (ZI ws (i-2)) 17 19 10) (ZI ws (i-7))) (ox (ZI ws (i-15)) 7 18 3)) (ZI ws (i-16))
def FR(s:CS):Nat->List Int
 |0=>[]
 |i+1=>FR s i++[bH s (FR s i) i]
theorem J3(s:CS):∀i,(FR s i).length=i
 |0=>rfl
 |i+1=>by rw[FR,Ak,J3 s i];rfl
theorem fJ{ws:List Int}(h:i<ws.length):ws[i]?=some (ZI ws i):=by grind [ZI]
structure S8 where
 (a b c d e f g h:Int)
def S8.l(v:S8):List Int:=[v.a,v.b,v.c,v.d,v.e,v.f,v.g,v.h]
abbrev ao(v:S8):List AV:=[EH v.a,EH v.b,EH v.c,EH v.d,EH v.e,EH v.f,EH v.g,EH v.h]
def rT1(v:S8):Int:=ad (ad (ad (ad v.h (xm v.e 6 11 25)) (xr (an v.e v.f) (an (nt v.e) v.g))) k) w
def rT2(v:S8):Int:=ad (xm v.a 2 13 22) (xr (xr (an v.a v.b) (an v.a v.c)) (an v.b v.c))
def Agt(v:S8):S8:=⟨ad (rT1 w k v) (rT2 v),v.a,v.b,v.c,ad v.d (rT1 w k v),v.e,v.f,v.g⟩
def Vp(ws ks:List Int)(v:S8):Nat->S8
 |0=>v
 |i+1=>Agt (ZI ws i) (ZI ks i) (Vp ws ks v i)
def zj(v r:S8):S8:=⟨ad v.a r.a,ad v.b r.b,ad v.c r.c,ad v.d r.d,ad v.e r.e,ad v.f r.f,ad v.g r.g,ad v.h r.h⟩
def kK:List Int:=[0x428a2f98,0x71374491,0xb5c0fbcf,0xe9b5dba5,0x3956c25b,0x59f111f1,0x923f82a4,0xab1c5ed5,
 0xd807aa98,0x12835b01,0x243185be,0x550c7dc3,0x72be5d74,0x80deb1fe,0x9bdc06a7,0xc19bf174,
 0xe49b69c1,0xefbe4786,0x0fc19dc6,0x240ca1cc,0x2de92c6f,0x4a7484aa,0x5cb0a9dc,0x76f988da,
 0x983e5152,0xa831c66d,0xb00327c8,0xbf597fc7,0xc6e00bf3,0xd5a79147,0x06ca6351,0x14292967,
 0x27b70a85,0x2e1b2138,0x4d2c6dfc,0x53380d13,0x650a7354,0x766a0abb,0x81c2c92e,0x92722c85,
 0xa2bfe8a1,0xa81a664b,0xc24b8b70,0xc76c51a3,0xd192e819,0xd6990624,0xf40e3585,0x106aa070,
 0x19a4c116,0x1e376c08,0x2748774c,0x34b0bcb5,0x391c0cb3,0x4ed8aa4a,0x5b9cca4f,0x682e6ff3,
 0x748f82ee,0x78a5636f,0x84c87814,0x8cc70208,0x90befffa,0xa4506ceb,0xbef9a3f7,0xc67178f2]
def xP(v:S8)(s:CS):S8:=zj v (Vp (FR s 64) kK v 64)
def Sn(v r:S8)(i:Nat)(tl:List AV):List AV:=
 EH (if 0<i then ad v.a r.a else v.a)::EH (if 1<i then ad v.b r.b else v.b)::EH (if 2<i then ad v.c r.c else v.c)::EH (if 3<i then ad v.d r.d else v.d) ::
 EH (if 4<i then ad v.e r.e else v.e)::EH (if 5<i then ad v.f r.f else v.f)::EH (if 6<i then ad v.g r.g else v.g)::EH (if 7<i then ad v.h r.h else v.h)::tl
def IX(v:S8)(b:CS):S8×CS:=
 if 64<=b.size then IX (xP v (b.extract 0 64)) (b.extract 64 b.size)else(v,b)
termination_by b.size
decreasing_by grind [ByteArray.size_extract]
def iv0:S8:=⟨1779033703,3144134277,1013904242,2773480762,1359893119,2600822924,528734635,1541459225⟩
structure HS where
 v:S8
 rest:CS
 tot:Int
abbrev Gk(x:HS):List AV:=[EH x.v.a,EH x.v.b,EH x.v.c,EH x.v.d,EH x.v.e,EH x.v.f,EH x.v.g,EH x.v.h,vs x.rest,.v (.int .u64 x.tot)]
def G0(x:HS)(s:CS):HS:=⟨(IX x.v (x.rest++s)).1,(IX x.v (x.rest++s)).2,IntKind.wrap .u64 (x.tot+IntKind.wrap .u64 (s.size:Int))⟩
def Kl(n:Int):CS:=⟨((List.range 8).map fun(i:Nat)=>UInt8.ofNat (IntKind.wrap .u8 (Gf .shr .u64 n (56-8*(i:Int)))).toNat).toArray⟩
def GE:List UInt8:=[UInt8.ofNat (IntKind.wrap .u8 (Gf .shr .u32 x 24)).toNat,UInt8.ofNat (IntKind.wrap .u8 (Gf .shr .u32 x 16)).toNat,UInt8.ofNat (IntKind.wrap .u8 (Gf .shr .u32 x 8)).toNat,UInt8.ofNat (IntKind.wrap .u8 x).toNat]
def vz(n:Nat):CS:=⟨(List.replicate n 0).toArray⟩
def EW(x:HS):CS:=(⟨#[128]⟩++vz ((119-(x.rest.size:Int)) % 64).toNat)++Kl (IntKind.wrap .u64 (8*x.tot))
def tE(x:HS):CS:=⟨(((G0 x (EW x)).v.l).flatMap GE).toArray⟩
def SQ:HS:=⟨iv0,⟨#[]⟩,0⟩
def Qq(x:HS)(l:List CS):HS:=l.foldl (fun x s=>G0 (G0 x (Kl (IntKind.wrap .u64 (s.size:Int)))) s) x
def iy(tag:CS)(l:List CS):CS:=tE (Qq (G0 SQ (Kl (IntKind.wrap .u64 (tag.size:Int))++tag)) l)
theorem mo{b:Bool}{p:Prop}(h:b=true)(k:p):(match(generalizing:=false) b with | true=>p | false=>False):=by simp_all
theorem mapU(h:Nat->HO):∀ws:List Int,(ws.map EH).map (str0 h)=ws.map EH
 | []=>rfl
 |_::ws=>Aa (_ :: ·) (mapU h ws)
theorem Ah1{h:Nat->HO}{l:List AV}{ws:List Int}(e:l=ws.map EH):BM (.agg (l.map (str0 h))) (.agg (ws.map EH)):=by
 rw[e,mapU];exact .refl _
theorem vK{l:List AV}{a:AV}{n:Nat}(h:l.length=n):(l++a::tl)[n]?=some a:=by
 simp_all
theorem Y4{ws:List Int}(h:i<ws.length):(ws.map EH++tl)[i]?=some (EH (ZI ws i)):=by
 grind [fJ]
theorem Y5{ws:List Int}(h:i<ws.length):(ws.map EH)[i]?=some (EH (ZI ws i)):=by
 grind [fJ]
theorem Qb{a b:AV}{tl:List AV}:∀{l:List AV} {n:Nat},l.length=n->over (l++a::tl) n [b]=l++b::tl
 | [],_,rfl=>by cases tl<;>rfl
 |c::l,_,rfl=>by show c::over (l++a::tl) l.length [b]=_;rw[Qb rfl];rfl
theorem M4:∀{z l:List AV},z.length=l.length->over z 0 l=l
 | [],[],_=>rfl
 | [],_::_,h=>by cases h
 |_::_,[],h=>by cases h
 |_::z,b::l,h=>by show b::over z 0 l=_;rw[M4 (Nat.succ.inj h)]
theorem fV{s:CS}{z:Int}{n:Nat}(h:n<s.size)(e:z=(n:Int)):(0:Int)<=z/\s.data[z.toNat]?=some (Of s n):=by
 subst e;refine⟨OZ n,?_⟩;have h:n<s.data.size:=h
 grind [Of]
def S8.n(v:S8)(i:Nat):Int:=ZI v.l i
theorem ux{v:S8}(h:i<8)(e:m=i):(ao v).drop m=EH (v.n i)::(ao v).drop (i+1):=
 Pt (Y5 (ws:=v.l) h) e
theorem mL{v r:S8}(h:i<8)(e:m=i):(Sn v r i tl).drop m=EH (v.n i)::(Sn v r i tl).drop (i+1):=by
 refine Pt ?_ e
 match i,h with
 |0,_ |1,_ |2,_ |3,_ |4,_ |5,_ |6,_ |7,_=>rfl
theorem oY{v r:S8}(h:i<8)(e:m=i):over (Sn v r i tl) m [EH (ad (v.n i) (r.n i))]=Sn v r (i+1) tl:=by
 subst e;rw[u9]
 match m,h with
 |0,_ |1,_ |2,_ |3,_ |4,_ |5,_ |6,_ |7,_=>rfl
theorem ii{n:Nat}(h:n<64):List.replicate (64-n) (EH 0)=EH 0::List.replicate (64-(n+1)) (EH 0):=by
 rw[show 64-n=(64-(n+1))+1 by omega];rfl
theorem ci{s:CS}{x:Int}(h:x=bH s (FR s i) i):(FR s i).map EH++EH x::List.replicate (64-(i+1)) (EH 0)=(FR s (i+1)).map EH++List.replicate (64-(i+1)) (EH 0):=by
 grind [FR]
theorem xb(h:Nat->HO)(tl:List AV):∀ws:List Int,YT h (ws.map EH++tl)=YT h tl
 | []=>rfl
 |_::ws=>xb h tl ws
theorem xa(h:Nat->HO):∀n:Nat,YT h (List.replicate n (EH 0))=true
 |0=>rfl
 |n+1=>xa h n
theorem dS(h:Nat->HO):∀ws:List Int,SO h (.cells (ws.map EH))=true
 | []=>rfl
 |_::ws=>dS h ws
theorem xc(h:Nat->HO)(ws:List Int)(n:Nat):SO h (.cells (ws.map EH++List.replicate n (EH 0)))=true:=(xb h _ ws).trans (xa h n)
theorem AaO(h:Nat->HO)(ws:List Int)(x:Int)(n:Nat):SO h (.cells (ws.map EH++EH x::List.replicate n (EH 0)))=true:=(xb h _ ws).trans (xa h n)
theorem Vs(i:Nat):((FR s i).map EH).length=i:=by grind [J3]
end Go.Eng
namespace Go.Eng
open Go.Proofs Go.Proofs.Tryz
variable {α:Type}{f:α->List AV}{l O:List α}{args:List AV}{i n:Nat}(a:Int)
theorem AP.to2{P:Program}{f:Nat}{h0:Nat->HO}{r0:AV}{H0:Nat->HO}{Q' : AV->(Nat->HO)->Prop}(h:AP P f args h0 fun r h'=>r=r0/\h'=H0)(k:Q' r0 H0):AP P f args h0 Q':=
 h.mono fun r h' q=>⟨r,.refl _,by rw[q.1,q.2];exact k⟩
theorem cb{f:Nat}{b x:Bool}(h:b=x)(hc:PC f args (vb b)):PC f args (vb x):=h▸hc
theorem DK(h:(i:Int)<((l.map f).length:Int)):i<l.length:=by rw[Lm]at h;omega
theorem B5(h:¬(i:Int)<((l.map f).length:Int)):¬i<l.length:=by rw[Lm]at h;omega
theorem FJ(h:i<l.length):(0:Int)<=(i:Int)/\(l.map f)[((i:Nat):Int).toNat]?=some (f l[i]):=⟨OZ _,by rw[Dq,BH,Ge h];rfl⟩
theorem cI{z:Nat}{x:List AV}(hx:x.length=n)(h:O.length<=2147483647)(hz:z<=65536) :
  Bi n [x]/\(O.map f).length=O.length/\((O.map f).length+([x]:C0).length)*z<=140737488355328/\(O.map f).length+([x]:C0).length<=9223372036854775807:=by
 refine⟨⟨hx,trivial⟩,Lm _,?_,?_⟩<;>rw[Lm]<;>simp only[AA,AE]
 .have:=Nat.mul_le_mul (show O.length+(0+1)<=2147483648 by omega) hz
  omega
 .omega
theorem tkA{x:α}{r:Nat}:AV.slice (.id r n) (O.map f++[f x])=.slice (.id r n) ((O++[x]).map f):=by rw[AF];rfl
theorem hkA{x:α}{y:List AV}:HO.tok n ((O.map f).length+([y]:C0).length)=.tok n (O++[x]).length:=by rw[Ak,Lm];rfl
theorem VM:0<=IntKind.wrap .u64 a:=Ws _ Cl
theorem lY(b:Int):0<=I8 .and .u64 a b:=VM _
theorem cC(x k:Int):PC 201 [.v (.int .u32 x),vi k] (.v (.int .u32 (kS x k))):=by
 refine Ps C3 func201 rfl (Nz rfl) (Yi (lY _ _) (Yi (VM _) ?_));exact .refl _
theorem qh(x a b c:Int)(ha:0<=a/\a<=64)(hb:0<=b/\b<=64)(hc:0<=c):PC 266 [.v (.int .u32 x),vi a,vi b,vi c] (.v (.int .u32 (ox x a b c))):=by
 refine Ps C3 func266 rfl (Nz rfl) (Yi (by grind [Av]) (C2 (cC x (-a)) (Yi (by grind [Av]) (C2 (cC x (-b)) (Yi hc (Yi Wk ?_))))));exact .refl _
theorem qg(x a b c:Int)(ha:0<=a/\a<=64)(hb:0<=b/\b<=64)(hc:0<=c)(hd:c<=64):PC 200 [.v (.int .u32 x),vi a,vi b,vi c] (.v (.int .u32 (xm x a b c))):=by
 refine Ps C3 func200 rfl (Nz rfl) (Yi (by grind [Av]) (C1 (C2 (cC x (-a)) (Yi (by grind [Av]) (C1 (C2 (cC x (-b)) (Yi (by grind [Av]) (C1 (C2 (cC x (-c)) ?_)))))))));exact .refl _
set_option maxRecDepth 100000 in
theorem tY  : PC 203 [] (.agg (kK.map EH)):=by
 refine Ps C3 func203 rfl (Nz rfl) (yN (yN ?_));exact .refl _
theorem Ac5(s:CS)(hs:s.size=64):PC 202 [vs s] (.agg ((FR s 64).map EH)):=by
 refine Ps C3 func202 rfl (Nz rfl) (Xi {q:Nat // q<=64} (Xi (fun q=>⟨[(0,vs s),(2,.ref 2 0),(3,.ref 3 0),(4,.v (.func (.func 266) #[] #[])),(7,vi q.1)],[(2,.cells (List.replicate 64 (EH 0))),(3,.cells ((FR s q.1).map EH++List.replicate (64-q.1) (EH 0)))],Ac⟩) (Xi (fun q=>64-q.1) (Yi (Xi ⟨0,Al _⟩ ?_) ?_))))
 .exact⟨Z5,⟨Zr,⟨rfl,(xc _ _ _)⟩,Tv⟩,Fh,Tv⟩
 intro⟨i,i1⟩;have i1:i<=64:=i1;refine Yi (fun h1=>?_) (fun h1=>?_)
 .have h1:(i:Int)<(64:Int):=h1;refine Yi (fun h2=>?_) (fun h2=>?_)
  .have h2:(i:Int)<(16:Int):=h2;refine Xi {q:Nat // q<=4} (Xi (fun q=>⟨[(0,vs s),(2,.ref 2 0),(3,.ref 3 0),(4,.v (.func (.func 266) #[] #[])),(5,vi i),(7,vi i),(12,vi q.1)],[(2,.cells (List.replicate 64 (EH 0))),(3,.cells ((FR s i).map EH++EH (SB s i q.1)::List.replicate (64-(i+1)) (EH 0)))],Ac⟩) (Xi (fun q=>4-q.1) (Yi (Xi ⟨0,Al _⟩ ?_) ?_)))
   .exact⟨Z7,⟨Zr,⟨(Aa (fun z=>HO.cells ((FR s i).map EH++z)) (ii (show i<64 by omega))),(AaO _ _ _ _)⟩,Tv⟩,Fh,Tv⟩
   intro⟨k,k1⟩;have k1:k<=4:=k1;refine Yi (fun h3=>?_) (fun h3=>?_)
   .have h3:(k:Int)<(4:Int):=h3;refine Yi (show(0:Int)<=i/\(i:Int)<(64:Nat)from by omega) (G6 (Pt (vK (Vs s i)) (show(0+(i:Int).toNat*1)=i by omega)) (Yi Cl (Yi (by show Av ((4:Int)*(i:Int));unfold Av;omega) (Yi (by show Av ((4*i:Int)+(k:Int));unfold Av;omega) (Xi (Of s (4*i+k)) (Yi (fV (z:=(4*i)+k) (show 4*i+k<s.size by omega) ch) (Yi (show(0:Int)<=i/\(i:Int)<(64:Nat)from by omega) (Yi (show(0+(i:Int).toNat*1)+1<=(((FR s i).map EH++EH (SB s i k)::List.replicate (64-(i+1)) (EH 0))).length from by rw[Ak,Vs];simp only[AA,CO];omega) ?_))))))));refine Yi Wk (Yi (Ii k ch) (Xi ⟨k+1,by omega⟩ ?_));exact⟨Dl 4 k ch,Z7,⟨Zr,⟨(show HO.cells (over ((FR s i).map EH++EH (SB s i k)::List.replicate (64-(i+1)) (EH 0)) (0+(i:Int).toNat*1) [.v (.int .u32 (I8 .or .u32 (Gf .shl .u32 (SB s i k) 8) (IntKind.wrap .u32 ((Of s (4*i+k)).toNat:Int))))])=.cells ((FR s i).map EH++EH (SB s i (k+1))::List.replicate (64-(i+1)) (EH 0))from Aa HO.cells (Qb (by rw[Vs];omega))),(AaO _ _ _ _)⟩,Tv⟩,Fh,Tv⟩
   have h3:¬((k:Int)<(4:Int)):=h3;refine Yi (Ii i ch) (Xi ⟨i+1,by omega⟩ ?_);exact⟨Dl 64 i ch,Z5,⟨Zr,⟨(Aa HO.cells (ci (show SB s i k=bH s (FR s i) i by rw[bH,Ay ch,show k=4 by omega]))),(xc _ _ _)⟩,Tv⟩,Fh,Tv⟩
  have h2:¬((i:Int)<(16:Int)):=h2;refine Yi (by show Av ((i:Int)-(2:Int));unfold Av;omega) (Yi (show(0:Int)<=i-2/\(i-2:Int)<(64:Nat)from by omega) (G6 (Pt (Y4 (show i-2<(FR s i).length by rw[J3];omega)) (show(0+(i-2:Int).toNat*1)=i-2 by omega)) (C2 (qh (ZI (FR s i) (i-2)) 17 19 10 Cl Cl Cl) (Yi (by show Av ((i:Int)-(7:Int));unfold Av;omega) (Yi (show(0:Int)<=i-7/\(i-7:Int)<(64:Nat)from by omega) (G6 (Pt (Y4 (show i-7<(FR s i).length by rw[J3];omega)) (show(0+(i-7:Int).toNat*1)=i-7 by omega)) (Yi (by show Av ((i:Int)-(15:Int));unfold Av;omega) (Yi (show(0:Int)<=i-15/\(i-15:Int)<(64:Nat)from by omega) (G6 (Pt (Y4 (show i-15<(FR s i).length by rw[J3];omega)) (show(0+(i-15:Int).toNat*1)=i-15 by omega)) (C2 (qh (ZI (FR s i) (i-15)) 7 18 3 Cl Cl Cl) (Yi (by show Av ((i:Int)-(16:Int));unfold Av;omega) (Yi (show(0:Int)<=i-16/\(i-16:Int)<(64:Nat)from by omega) (G6 (Pt (Y4 (show i-16<(FR s i).length by rw[J3];omega)) (show(0+(i-16:Int).toNat*1)=i-16 by omega)) (Yi (show(0:Int)<=i/\(i:Int)<(64:Nat)from by omega) (Yi (show(0+(i:Int).toNat*1)+1<=(((FR s i).map EH++List.replicate (64-i) (EH 0))).length from by rw[Ak,Vs];simp only[CO];omega) ?_)))))))))))))));refine Yi Wk (Yi (Ii i ch) (Xi ⟨i+1,by omega⟩ ?_));exact⟨Dl 64 i ch,Z5,⟨Zr,⟨(show HO.cells (over ((FR s i).map EH++List.replicate (64-i) (EH 0)) (0+(i:Int).toNat*1) [.v (.int .u32 (IntKind.wrap .u32 ((IntKind.wrap .u32 ((IntKind.wrap .u32 ((ox (ZI (FR s i) (i-2)) 17 19 10)+(ZI (FR s i) (i-7))))+(ox (ZI (FR s i) (i-15)) 7 18 3)))+(ZI (FR s i) (i-16)))))])=.cells ((FR s (i+1)).map EH++List.replicate (64-(i+1)) (EH 0))from Aa HO.cells (by rw[ii (show i<64 by omega),Qb (by rw[Vs];omega)];exact ci (by rw[bH,Az ch];rfl))),(xc _ _ _)⟩,Tv⟩,Fh,Tv⟩
 have h1:¬((i:Int)<(64:Int)):=h1;refine Yi (show 64<=((FR s i).map EH++List.replicate (64-i) (EH 0)).length by rw[Ak,Vs,CO];omega) ?_
 conv=>whnf
 refine mo (show Nat.beq (((FR s i).map EH++List.replicate (64-i) (EH 0)).take 64).length 64=true from by rw[show(((FR s i).map EH++List.replicate (64-i) (EH 0)).take 64).length=64 by rw[AD,Ak,Vs,CO];omega];rfl) ?_;refine Yi (show 0+(((FR s i).map EH++List.replicate (64-i) (EH 0)).take 64).length<=64 from by rw[AD];omega) ?_;refine Yi (show 64<=(over (List.replicate 64 (EH 0)) 0 (((FR s i).map EH++List.replicate (64-i) (EH 0)).take 64)).length by rw[M4 (by rw[AD,Ak,Vs,CO,CO];omega),AD,Ak,Vs,CO];omega) ?_;exact Ah1 (show(over (List.replicate 64 (EH 0)) 0 (((FR s i).map EH++List.replicate (64-i) (EH 0)).take 64)).take 64=(FR s 64).map EH from by rw[show i=64 by omega,M4 (by rw[AD,Ak,Vs];rfl),List.take_take,Nat.min_self,Ke (Vs s 64)])
theorem x7(x:HS)(s:CS)(W Kk:List Int)(r8:S8)(hW:W.length=64)(hK:Kk.length=64)(hr:Vp W Kk x.v 64=r8)(hc:PC 202 [vs s] (.agg (W.map EH)))(hk:PC 203 [] (.agg (Kk.map EH))):AP Tryz.prog 148 [.ref 1000 0,vs s] (Ai [(1000,.cells (Gk x))] Ac) fun r h'=>r=.tup []/\h'=Ai [(1000,.cells (Gk ⟨zj x.v r8,x.rest,x.tot⟩))] Ac:=by
 refine BO (LB (pC [] [2,11])) [(1000,1000)] rfl Ck hm rfl func148 Wk rfl (Nz rfl) Wk rfl (C1 (C2 hc (C1 (C2 hk ?_))))
 conv=>whnf
 refine mo (show Nat.beq (W.map EH).length 64=true from by rw[Lm,hW];rfl) (Yi (show 0+(W.map EH).length<=64 from by rw[Lm];omega) ?_)
 conv=>whnf
 refine mo (show Nat.beq (Kk.map EH).length 64=true from by rw[Lm,hK];rfl) (Yi (show 0+(Kk.map EH).length<=64 from by rw[Lm];omega) (cU [(0,.ref 1000 0),(4,.v (.func (.func 200) #[] #[])),(5,.ref 5 0),(6,.ref 6 0)] [(5,.cells (W.map EH)),(6,.cells (Kk.map EH)),(1000,.cells (Gk x))] Z4 ⟨⟨(Aa HO.cells (M4 (show 64=(W.map EH).length by rw[Lm,hW]))),(dS _ _)⟩,⟨(Aa HO.cells (M4 (show 64=(Kk.map EH).length by rw[Lm,hK]))),(dS _ _)⟩,Zr,Tv⟩ ?_))
 refine yN (yN (Xi {q:Nat // q<=64} (Xi (fun q=>⟨[(0,.ref 1000 0),(4,.v (.func (.func 200) #[] #[])),(5,.ref 5 0),(6,.ref 6 0),(7,.ref 7 0),(26,vi q.1)],[(5,.cells (W.map EH)),(6,.cells (Kk.map EH)),(7,.cells (ao (Vp W Kk x.v q.1))),(1000,.cells (Gk x))],Ac⟩) (Xi (fun q=>64-q.1) (Yi (Xi ⟨0,Al _⟩ ?_) ?_)))))
 .exact⟨Z6,⟨⟨rfl,(dS _ _)⟩,⟨rfl,(dS _ _)⟩,Zr,Zr,Tv⟩,Fh,A4 Wk⟩
 intro⟨i,i1⟩;have i1:i<=64:=i1;refine Yi (fun h1=>?_) (fun h1=>?_)
 .have h1:(i:Int)<(64:Int):=h1;refine Yi ⟨by decide,by decide⟩ ?_;refine Yi ⟨by decide,by decide⟩ ?_;refine Yi ⟨by decide,by decide⟩ ?_;refine Yi ⟨by decide,by decide⟩ ?_;refine Yi ⟨by decide,by decide⟩ ?_;refine Yi ⟨by decide,by decide⟩ ?_;refine Yi Wk (Yi ⟨by decide,by decide⟩ ?_);refine C2 (qg (Vp W Kk x.v i).e 6 11 25 Cl Cl Cl Cl) (Yi (show(0:Int)<=i/\(i:Int)<(64:Nat)from by omega) (G6 (Pt (Y5 (show i<Kk.length by omega)) (show(0+(i:Int).toNat*1)=i by omega)) (Yi (show(0:Int)<=i/\(i:Int)<(64:Nat)from by omega) (G6 (Pt (Y5 (show i<W.length by omega)) (show(0+(i:Int).toNat*1)=i by omega)) (Yi Wk (C1 (C2 (qg (Vp W Kk x.v i).a 2 13 22 Cl Cl Cl Cl) (Yi ⟨by decide,by decide⟩ ?_))))))));refine yN (Yi (Ii i ch) (Xi ⟨i+1,by omega⟩ ?_));exact⟨Dl 64 i ch,Z6,⟨⟨rfl,(dS _ _)⟩,⟨rfl,(dS _ _)⟩,Zr,Zr,Tv⟩,Fh,A4 Wk⟩
 have h1:¬((i:Int)<(64:Int)):=h1;refine cU [(0,.ref 1000 0),(7,.ref 7 0)] [(7,.cells (ao r8)),(1000,.cells (Gk x))] Z2 ⟨⟨(Aa (fun z=>HO.cells (ao z)) (show Vp W Kk x.v i=r8 by rw[show i=64 by omega,hr])),rfl⟩,Zr,Tv⟩ (yN (Xi {q:Nat // q<=8} (Xi (fun q=>⟨[(0,.ref 1000 0),(94,.agg [.v (.int .u32 r8.a),.v (.int .u32 r8.b),.v (.int .u32 r8.c),.v (.int .u32 r8.d),.v (.int .u32 r8.e),.v (.int .u32 r8.f),.v (.int .u32 r8.g),.v (.int .u32 r8.h)]),(95,vi q.1)],[(1000,.cells (Sn x.v r8 q.1 [vs x.rest,.v (.int .u64 x.tot)]))],Ac⟩) (Xi (fun q=>8-q.1) (Yi (Xi ⟨0,Al _⟩ ?_) ?_)))))
 .exact⟨Z3,Z1,Fh,A4 Wk⟩
 intro⟨j,j1⟩;have j1:j<=8:=j1;refine Yi (fun h3=>?_) (fun h3=>?_)
 .have h3:(j:Int)<(8:Int):=h3;refine Yi (show(0:Int)<=j/\(j:Int)<(8:Nat)from by omega) (G6 (ux (v:=r8) (show j<8 by omega) (show((j:Int).toNat*1)=j by omega)) (Yi (show(0:Int)<=j/\(j:Int)<(8:Nat)from by omega) (G6 (mL (show j<8 by omega) (show(0+(j:Int).toNat*1)=j by omega)) (Yi (show(0:Int)<=j/\(j:Int)<(8:Nat)from by omega) (Yi (show(0+(j:Int).toNat*1)+1<=((Sn x.v r8 j [vs x.rest,.v (.int .u64 x.tot)])).length from by show(0+(j:Int).toNat*1)+1<=10;omega) ?_)))));refine Yi Wk (Yi (Ii j ch) (Xi ⟨j+1,by omega⟩ ?_));exact⟨Dl 8 j ch,Z3,⟨⟨(show HO.cells (over (Sn x.v r8 j [vs x.rest,.v (.int .u64 x.tot)]) (0+(j:Int).toNat*1) [.v (.int .u32 (IntKind.wrap .u32 ((S8.n x.v j)+(S8.n r8 j))))])=.cells (Sn x.v r8 (j+1) [vs x.rest,.v (.int .u64 x.tot)])from Aa HO.cells (oY (show j<8 by omega) ch)),rfl⟩,Tv⟩,Fh,A4 Wk⟩
 have h3:¬((j:Int)<(8:Int)):=h3;have e8:j=8:=by omega
 subst e8;exact C2 (.refl _) Zr
theorem AbR(x:HS)(s:CS)(hs:s.size=64):AP Tryz.prog 148 [.ref 1000 0,vs s] (Ai [(1000,.cells (Gk x))] Ac) fun r h'=>r=.tup []/\h'=Ai [(1000,.cells (Gk ⟨xP x.v s,x.rest,x.tot⟩))] Ac:=
 x7 x s (FR s 64) kK _ (J3 s 64) rfl rfl (Ac5 s hs) tY
end Go.Eng
namespace Go.Proofs
open Go.Proofs.Tryz
open Go.Shelf
def Tryz.layItoa_ren:Go.Shelf.Ren:=⟨fun | 171=>53 | 243=>93 | 246=>154 | 283=>214 | 284=>215 | 285=>216 | 286=>217 | 129=>229 | 317=>272 | 318=>273 | 319=>274 | 320=>275 | 337=>317 | 338=>318 | n=>n,fun | 3=>3 | 9=>9 | 2=>2 | 4=>4 | 171=>308 | 0=>0 | 53=>98 | 37=>164 | 5=>5 | 173=>311 | 212=>355 | 51=>229 | 20=>20 | 213=>356 | 46=>99 | 232=>414 | 233=>415 | n=>n,fun | 17=>1 | 18=>2 | 19=>3 | n=>n⟩
theorem Tryz.layItoa:Go.Proofs.LaysM.n171 Tryz.prog Tryz.layItoa_ren:={
 mixed:=by kernel_rfl
 f129:=Go.Eng.A0a func229
 f171:=Go.Eng.A0a func53
 f243:=Go.Eng.A0a func93
 f246:=Go.Eng.A0a func154
 f283:=Go.Eng.A0a func214
 f284:=Go.Eng.A0a func215
 f285:=Go.Eng.A0a func216
 f286:=Go.Eng.A0a func217
 f317:=Go.Eng.A0a func272
 f318:=Go.Eng.A0a func273
 f319:=Go.Eng.A0a func274
 f320:=Go.Eng.A0a func275
 f337:=Go.Eng.A0a func317
 f338:=Go.Eng.A0a func318
 t0:=underlying0
 a0:=isAgg0
 z0:=sizeOf0
 v0:=zeroValue0
 t2:=underlying2
 a2:=isAgg2
 z2:=sizeOf2
 v2:=zeroValue2
 t3:=underlying3
 a3:=isAgg3
 z3:=sizeOf3
 v3:=zeroValue3
 t4:=underlying4
 a4:=isAgg4
 z4:=sizeOf4
 v4:=zeroValue4
 t5:=underlying5
 a5:=isAgg5
 z5:=sizeOf5
 v5:=zeroValue5
 t9:=underlying9
 a9:=isAgg9
 z9:=sizeOf9
 v9:=zeroValue9
 t20:=underlying20
 a20:=isAgg20
 z20:=sizeOf20
 v20:=zeroValue20
 t37:=underlying164
 a37:=isAgg164
 z37:=sizeOf164
 v37:=zeroValue164
 t46:=underlying99
 a46:=isAgg99
 z46:=sizeOf99
 v46:=zeroValue99
 t51:=underlying229
 a51:=isAgg229
 z51:=sizeOf229
 v51:=zeroValue229
 t53:=underlying98
 a53:=isAgg98
 z53:=sizeOf98
 v53:=zeroValue98
 t171:=underlying308
 a171:=isAgg308
 z171:=sizeOf308
 v171:=zeroValue308
 t173:=underlying311
 a173:=isAgg311
 z173:=sizeOf311
 v173:=zeroValue311
 t212:=underlying355
 a212:=isAgg355
 z212:=sizeOf355
 v212:=zeroValue355
 t213:=underlying356
 a213:=isAgg356
 z213:=sizeOf356
 t232:=underlying414
 a232:=isAgg414
 z232:=sizeOf414
 v232:=zeroValue414
 t233:=underlying415
 a233:=isAgg415
 z233:=sizeOf415
 v233:=zeroValue415
 g17:=by kernel_rfl
 g18:=by kernel_rfl
 g19:=by kernel_rfl
 i0:=by kernel_rfl
 i2:=by kernel_rfl
 i3:=by kernel_rfl
 i4:=by kernel_rfl
 i5:=by kernel_rfl
 i9:=by kernel_rfl
 i20:=by kernel_rfl
 i37:=by kernel_rfl
 i46:=by kernel_rfl
 i51:=by kernel_rfl
 i53:=by kernel_rfl
 i171:=by kernel_rfl
 i173:=by kernel_rfl
 i212:=by kernel_rfl
 i232:=by kernel_rfl
 i233:=by kernel_rfl
 m17:=by kernel_rfl
 m18:=by kernel_rfl
 m19:=by kernel_rfl }
def Tryz.layRepeat_ren:Go.Shelf.Ren:=⟨fun | 105=>151 | 212=>205 | 99=>206 | 165=>207 | 166=>208 | 170=>209 | 169=>210 | 263=>267 | 264=>268 | 206=>269 | 240=>270 | 241=>271 | 276=>315 | 277=>316 | n=>n,fun | 9=>9 | 3=>3 | 4=>4 | 20=>20 | 0=>0 | 46=>99 | 109=>295 | 5=>5 | 72=>299 | 76=>303 | 51=>229 | 146=>349 | 53=>98 | 148=>351 | 70=>297 | 37=>164 | 75=>302 | 127=>348 | 164=>386 | 80=>162 | n=>n,fun | n=>n⟩
theorem Tryz.layRepeat:Go.Proofs.Lays.n105 Tryz.prog Tryz.layRepeat_ren:={
 mixed:=by kernel_rfl
 f99:=Go.Eng.A0a func206
 f105:=Go.Eng.A0a func151
 f165:=Go.Eng.A0a func207
 f166:=Go.Eng.A0a func208
 f169:=Go.Eng.A0a func210
 f170:=Go.Eng.A0a func209
 f206:=Go.Eng.A0a func269
 f212:=Go.Eng.A0a func205
 f240:=Go.Eng.A0a func270
 f241:=Go.Eng.A0a func271
 f263:=Go.Eng.A0a func267
 f264:=Go.Eng.A0a func268
 f276:=Go.Eng.A0a func315
 f277:=Go.Eng.A0a func316
 t0:=underlying0
 a0:=isAgg0
 z0:=sizeOf0
 v0:=zeroValue0
 t3:=underlying3
 a3:=isAgg3
 z3:=sizeOf3
 v3:=zeroValue3
 t4:=underlying4
 a4:=isAgg4
 z4:=sizeOf4
 v4:=zeroValue4
 t5:=underlying5
 a5:=isAgg5
 z5:=sizeOf5
 v5:=zeroValue5
 t9:=underlying9
 a9:=isAgg9
 z9:=sizeOf9
 v9:=zeroValue9
 t20:=underlying20
 a20:=isAgg20
 z20:=sizeOf20
 v20:=zeroValue20
 t37:=underlying164
 a37:=isAgg164
 z37:=sizeOf164
 v37:=zeroValue164
 t46:=underlying99
 a46:=isAgg99
 z46:=sizeOf99
 v46:=zeroValue99
 t51:=underlying229
 a51:=isAgg229
 z51:=sizeOf229
 v51:=zeroValue229
 t53:=underlying98
 a53:=isAgg98
 z53:=sizeOf98
 v53:=zeroValue98
 t70:=underlying297
 a70:=isAgg297
 z70:=sizeOf297
 v70:=zeroValue297
 t72:=underlying299
 a72:=isAgg299
 z72:=sizeOf299
 v72:=zeroValue299
 t75:=underlying302
 a75:=isAgg302
 z75:=sizeOf302
 v75:=zeroValue302
 t76:=underlying303
 a76:=isAgg303
 z76:=sizeOf303
 v76:=zeroValue303
 t109:=underlying295
 a109:=isAgg295
 z109:=sizeOf295
 v109:=zeroValue295
 t127:=underlying348
 a127:=isAgg348
 z127:=sizeOf348
 v127:=zeroValue348
 t146:=underlying349
 a146:=isAgg349
 z146:=sizeOf349
 v146:=zeroValue349
 t148:=underlying351
 a148:=isAgg351
 z148:=sizeOf351
 v148:=zeroValue351
 t164:=underlying386
 a164:=isAgg386
 z164:=sizeOf386
 v164:=zeroValue386 }
def Tryz.layClone_ren:Go.Shelf.Ren:=⟨fun | 25=>204 | n=>n,fun | 9=>9 | 3=>3 | 4=>4 | 37=>164 | 0=>0 | 47=>348 | 5=>5 | n=>n,fun | n=>n⟩
theorem Tryz.layClone:Go.Proofs.LaysPu.n25 Tryz.prog Tryz.layClone_ren:={
 mixed:=by kernel_rfl
 f25:=Go.Eng.A0a func204
 t0:=underlying0
 a0:=isAgg0
 z0:=sizeOf0
 v0:=zeroValue0
 i0:=by kernel_rfl
 t3:=underlying3
 a3:=isAgg3
 z3:=sizeOf3
 v3:=zeroValue3
 i3:=by kernel_rfl
 t4:=underlying4
 a4:=isAgg4
 z4:=sizeOf4
 v4:=zeroValue4
 i4:=by kernel_rfl
 t5:=underlying5
 a5:=isAgg5
 z5:=sizeOf5
 v5:=zeroValue5
 i5:=by kernel_rfl
 t9:=underlying9
 a9:=isAgg9
 z9:=sizeOf9
 v9:=zeroValue9
 i9:=by kernel_rfl
 t37:=underlying164
 a37:=isAgg164
 z37:=sizeOf164
 v37:=zeroValue164
 i37:=by kernel_rfl
 t47:=underlying348
 a47:=isAgg348
 z47:=sizeOf348
 v47:=zeroValue348
 i47:=by kernel_rfl }
theorem Tryz.layRepeatX:Builder.Extra Tryz.prog Tryz.layRepeat_ren:={
 sizeBuilder:=by kernel_rfl
 liesBuilder:=by kernel_rfl
 t5:=underlying5
 a5:=isAgg5
 z5:=sizeOf5
 v5:=zeroValue5
 infoByte:=by kernel_rfl
 cellsByte:=by kernel_rfl
 sizeByte:=by kernel_rfl
 neB5:=by decide }
end Go.Proofs
namespace Go.Eng
open Go.Proofs Go.Proofs.Tryz
variable {last:Int}(name:CS)(x:HS)(n:Int)(s user:CS)(i:Nat)
theorem pk(n:Nat):(⟨(Go.Lib.repeatL (ByteArray.mk #[0]).data.toList n).toArray⟩:CS)=vz n:=by
 show(⟨(Go.Lib.repeatL (List.replicate 1 0) n).toArray⟩:CS)=_;rw[Go.Lib.repeatL_replicate,vz];simp
theorem qj(h0:0<=n)(h:n<=100):PC 151 [vs ⟨#[0]⟩,vi n] (vs (vz n.toNat)):=by
 refine M5 [.string ⟨#[0]⟩,.int .i64 n] (.string (vz n.toNat)) (aq 151 func151 Wk rfl) rfl (fun g w=>.v _ _) fun w _ _=>?_;have q:=Any.strings_Repeat Tryz.layRepeat Tryz.layRepeatX ⟨#[0]⟩ n.toNat w ch (by show 1*n.toNat<=_;omega);rw[pk,Int.toNat_of_nonneg h0]at q;exact q
theorem qb(h:s.size<=1000000000):PC 204 [vs s] (vs s):=
 M5 [.string s] (.string s) (aq 204 func204 Wk rfl) rfl (fun g w=>.v _ _) fun w _ _=>AnyPu.stringslite_Clone Tryz.layClone s w ch
theorem tV(h:s.size<=1000000000):PC 149 [vs s] (vs s):=by
 refine Ps C3 func149 rfl (Nz rfl) (C1 (C2 (qb s h) ?_));exact .refl _
theorem Ac3  : AP Tryz.prog 87 [] (Ai [] Ac) fun r h'=>r=.ref 2000 0/\h'=Ai [(2000,.cells (Gk SQ))] Ac:=by
 refine BO (LB C3) [(3,2000)] rfl Ck hm rfl func87 Wk rfl (Nz rfl) Wk rfl ?_;exact C2 (.refl _) Zr
theorem qe:AP Tryz.prog 150 [.ref 1000 0] (Ai [(1000,.cells (Gk x))] Ac) fun r h'=>r=.ref 2000 0/\h'=Ai [(1000,.cells (Gk x)),(2000,.cells (Gk x))] Ac:=by
 refine BO (LB C3) [(1000,1000),(3,2000)] rfl Ck hm rfl func150 Wk rfl (Nz rfl) Wk rfl (yN (yN ?_));exact C2 (.refl _) Zr
abbrev u8(x:Int):AV:=.v (.int .u8 x)
def bJ:List AV:=(List.range i).map fun(j:Nat)=>u8 (IntKind.wrap .u8 (Gf .shr .u64 n (56-8*(j:Int))))
def oM:List UInt8:=(List.range 8).map fun(i:Nat)=>UInt8.ofNat (IntKind.wrap .u8 (Gf .shr .u64 n (56-8*(i:Int)))).toNat
theorem gR:(bJ n i).length=i:=by rw[bJ,Lm,List.length_range]
theorem AaP(h:Nat->HO)(n:Int)(i:Nat):SO h (.cells (bJ n i++List.replicate (8-i) (u8 0)))=true:=by
 have e:∀l:List Int,YT h (l.map u8++List.replicate (8-i) (u8 0))=true:=fun l=>by
  induction l with
  |nil=>show YT h (List.replicate (8-i) (u8 0))=true;induction (8-i)with |zero=>rfl |succ k ih=>exact ih
  |cons a l ih=>exact ih
 have q:=e ((List.range i).map fun(j:Nat)=>IntKind.wrap .u8 (Gf .shr .u64 n (56-8*(j:Int))));rw[Br]at q;exact q
theorem oN{n:Int}{i m:Nat}(h:i<8)(e:m=i):over (bJ n i++List.replicate (8-i) (u8 0)) m [u8 (IntKind.wrap .u8 (Gf .shr .u64 n (56-8*(i:Int))))]=bJ n (i+1)++List.replicate (8-(i+1)) (u8 0):=by
 rw[show 8-i=(8-(i+1))+1 by omega,List.replicate_succ,Qb (by rw[gR];exact e.symm),bJ,bJ,List.range_succ,AF,ER];rfl
theorem vv(z:Int):((UInt8.ofNat (IntKind.wrap .u8 z).toNat).toNat:Int)=IntKind.wrap .u8 z:=by
 have h1:0<=IntKind.wrap .u8 z:=Ws _ Cl;have h2:IntKind.wrap .u8 z<256:=Int.emod_lt_of_pos _ Cl;rw[UInt8.toNat_ofNat',Nat.mod_eq_of_lt ch];omega
theorem kq(h:Nat->HO)(n:Int):(((bJ n 8).map (str h)).map fun c=>[c])=(oM n).map fun b=>[AV.v (.int .u8 b.toNat)]:=by
 rw[bJ,oM,Br,Br,Br];refine BZ fun i _=>?_;show [AV.v (.int .u8 _)]=[AV.v (.int .u8 _)];rw[vv]
theorem qi:PC 89 [.v (.int .u64 n)] (vs (Kl n)):=by
 refine Ps ⟨[],[(17,1)],[],[(17,[3])],[],[],[],[],[],[],[7]⟩ func89 rfl (Nz rfl) (Xi {q:Nat // q<=8} (Xi (fun q=>⟨[(0,.v (.int .u64 n)),(3,.ref 3 0),(5,vi q.1)],[(3,.cells (bJ n q.1++List.replicate (8-q.1) (u8 0)))],Ac⟩) (Xi (fun q=>8-q.1) (Yi (Xi ⟨0,Al _⟩ ?_) ?_))))
 .exact⟨Z3,⟨⟨rfl,(AaP _ _ _)⟩,Tv⟩,Fh,Tv⟩
 intro⟨i,i1⟩;have i1:i<=8:=i1;refine Yi (fun h1=>?_) (fun h1=>?_)
 .have h1:(i:Int)<(8:Int):=h1;refine Yi (by show Av ((8:Int)*(i:Int));unfold Av;omega) (Yi (by show Av ((56:Int)-(8*i:Int));unfold Av;omega) (Yi (show(0:Int)<=56-(8*i) by omega) (Yi (show(0:Int)<=i/\(i:Int)<(8:Nat)from by omega) (Yi (show(0+(i:Int).toNat*1)+1<=((bJ n i++List.replicate (8-i) (u8 0))).length from by rw[Ak,gR,CO];omega) ?_))));refine Yi (Ii i ch) (Xi ⟨i+1,by omega⟩ ?_);exact⟨Dl 8 i ch,Z3,⟨⟨(show HO.cells (over (bJ n i++List.replicate (8-i) (u8 0)) (0+(i:Int).toNat*1) [.v (.int .u8 (IntKind.wrap .u8 (Gf .shr .u64 n (56-(8*i)))))])=.cells (bJ n (i+1)++List.replicate (8-(i+1)) (u8 0))from Aa HO.cells (oN (show i<8 by omega) ch)),(AaP _ _ _)⟩,Tv⟩,Fh,Tv⟩
 have h1:¬((i:Int)<(8:Int)):=h1;refine cU [(3,.ref 3 0)] [(3,.cells (bJ n 8))] Z1 ⟨⟨(show HO.cells (bJ n i++List.replicate (8-i) (u8 0))=.cells (bJ n 8) by rw[show i=8 by omega];rfl),rfl⟩,Tv⟩ ?_
 refine Yi (show 8=((bJ n 8).map (str _)).length from rfl) (Xi (oM n) (Yi (kq _ n) ?_));exact .refl _
theorem To(hb:(x.rest++s).size<=1000000000):AP Tryz.prog 88 [.ref 1000 0,vs s] (Ai [(1000,.cells (Gk x))] Ac) fun r h'=>r=.tup []/\h'=Ai [(1000,.cells (Gk (G0 x s)))] Ac:=by
 refine BO (LB C3) [(1000,1000)] rfl Ck hm rfl func88 Wk rfl (Nz rfl) Wk rfl (yN (Yi (show((x.rest.size+s.size:Nat):Int)<=9223372036854775807 by have q:=hb;rw[CD]at q;omega) (Xi {q:S8×CS // IX q.1 q.2=IX x.v (x.rest++s)/\q.2.size<=1000000000} (Xi (fun q=>⟨[(0,.ref 1000 0),(1,vs q.1.2)],[(1000,.cells [.v (.int .u32 q.1.1.a),.v (.int .u32 q.1.1.b),.v (.int .u32 q.1.1.c),.v (.int .u32 q.1.1.d),.v (.int .u32 q.1.1.e),.v (.int .u32 q.1.1.f),.v (.int .u32 q.1.1.g),.v (.int .u32 q.1.1.h),vs x.rest,.v (.int .u64 (IntKind.wrap .u64 (x.tot+(IntKind.wrap .u64 (s.size:Int)))))])],Ac⟩) (Xi (fun q=>q.1.2.size) (Yi (Xi ⟨(x.v,x.rest++s),rfl,hb⟩ ?_) ?_))))))
 .exact⟨Z2,Z1,Fh,A4 Wk⟩
 intro⟨⟨v,b⟩,v1,v2⟩;have v1:IX v b=IX x.v (x.rest++s):=v1;have v2:b.size<=1000000000:=v2;refine Yi (fun h1=>?_) (fun h1=>?_)
 .have h1:(64:Int)<=(b.size:Int):=h1;refine Yi (show(0:Int)<=0/\(0:Int)<=64/\(64:Int)<=(b.size:Int)from by omega) (Xi (.gen [(1000,1000)] 0) (Yi rfl (AP.to2 (AbR ⟨v,x.rest,(IntKind.wrap .u64 (x.tot+(IntKind.wrap .u64 (s.size:Int))))⟩ (b.extract 0 64) (by simp only[KU];omega)) ?_)));refine Yi (show(0:Int)<=64/\(64:Int)<=(b.size:Int)/\(b.size:Int)<=(b.size:Int)from by omega) (Xi ⟨(xP v (b.extract 0 64),b.extract 64 b.size),by rw[<-v1,IX.eq_1 v b,Ay ch],by simp only[KU];omega⟩ ?_);exact⟨by show(b.extract 64 b.size).size<b.size;simp only[KU];omega,Z2,Z1,Fh,A4 Wk⟩
 have h1:¬((64:Int)<=(b.size:Int)):=h1;refine C1 (C2 (tV b v2) (yN ?_));exact C2 (.refl _) ⟨rfl,show Ai [(1000,HO.cells [.v (.int .u32 v.a),.v (.int .u32 v.b),.v (.int .u32 v.c),.v (.int .u32 v.d),.v (.int .u32 v.e),.v (.int .u32 v.f),.v (.int .u32 v.g),.v (.int .u32 v.h),vs b,.v (.int .u64 (IntKind.wrap .u64 (x.tot+(IntKind.wrap .u64 (s.size:Int)))))])] Ac=Ai [(1000,.cells (Gk (G0 x s)))] Ac from by rw[G0,<-v1,IX.eq_1 v b,Az ch]⟩
abbrev JL(b:UInt8):List AV:=[.v (.int .u8 b.toNat)]
theorem VO(n:Nat):(vz n).size=n:=by show(List.replicate n (0:UInt8)).toArray.size=n;simp
theorem Li:(Kl n).size=8:=by show(List.map _ (List.range 8)).toArray.size=8;simp
theorem kD:(EW x).size<=80:=by
 rw[EW,CD,CD,VO,Li];show 1+_+8<=80;omega
theorem qo(x:Int):[[AV.v (.int .u8 (IntKind.wrap .u8 (Gf .shr .u32 x 24)))],[.v (.int .u8 (IntKind.wrap .u8 (Gf .shr .u32 x 16)))],[.v (.int .u8 (IntKind.wrap .u8 (Gf .shr .u32 x 8)))],[.v (.int .u8 (IntKind.wrap .u8 x))]]=(GE x).map JL:=by
 simp only[GE,BB,HA,JL,vv]
theorem qq(l:List Int)(i:Nat)(h:i<=8):((l.take i).flatMap GE).length<=32:=by
 have e:∀m:List Int,(m.flatMap GE).length=4*m.length:=fun m=>by
  induction m with
  |nil=>rfl
  |cons a m ih=>rw[List.flatMap_cons,Ak,ih];show 4+_=4*(_+1);omega
 rw[e,AD];omega
theorem fL{l:List Int}{i:Nat}(h:i<l.length):(l.take i).flatMap GE++GE (ZI l i)=(l.take (i+1)).flatMap GE:=by
 rw[Dr,fJ h,List.flatMap_append];simp
theorem yj(hx:x.rest.size<64):AP Tryz.prog 90 [.ref 1000 0] (Ai [(1000,.cells (Gk x))] Ac) fun r h'=>r=vs (tE x)/\h'=Ai [(1000,.cells (Gk x))] Ac:=by
 refine BO (LB ⟨[],[(5,1)],[],[],[],[],[],[],[(28,5)],[],[]⟩) [(1000,1000)] rfl Ck hm rfl func90 Wk rfl (Nz rfl) Wk rfl (Xi (.gen [(1000,1000)] 1) (Yi rfl (AP.to2 (qe x) ?_)));refine Yi (by show Av ((119:Int)-(x.rest.size:Int));unfold Av;omega) (Yi ⟨by omega,by omega⟩ ?_);refine C2 (qj (((119-x.rest.size) % 64:Int)) ch ch) (Yi (show(((⟨#[128]⟩:CS).size+(vz (((119-x.rest.size) % 64:Int)).toNat).size:Nat):Int)<=9223372036854775807 by have q:(⟨#[128]⟩:CS).size=1:=rfl;simp only[VO];omega) ?_);refine C2 (qi (IntKind.wrap .u64 (8*x.tot))) (Yi (show(((⟨#[128]⟩++(vz (((119-x.rest.size) % 64:Int)).toNat):CS).size+(Kl (IntKind.wrap .u64 (8*x.tot))).size:Nat):Int)<=9223372036854775807 by have q:(⟨#[128]⟩:CS).size=1:=rfl;simp only[CD,VO,Li];omega) ?_);refine Xi [(10900,1000)] (Xi [(1000,.cells (Gk x))] (Xi [(1000,.cells (Gk (G0 x (EW x))))] (Xi [.ref 1000 0,vs (EW x)] (Xi (.tup []:AV) (Yi (fun h2 hh=>Yi ((Aa (fun o:HO=>Ai [(1000,o.ren (Cy [(10900,1000)]) h2)] Ac) (show h2 10900=.cells (Gk x)from hh 10900 Cl)).trans rfl) rfl) (Yi Wk (Yi (To x (EW x) (by rw[CD];have q:=kD x;omega)) ?_)))))));refine Yi Wk (yN (Xi {q:Nat // q<=8} (Xi (fun q=>⟨[(5,.slice (.id 5 1) ((((S8.l (G0 x (EW x)).v).take q.1).flatMap GE).map JL)),(32,.agg [.v (.int .u32 (G0 x (EW x)).v.a),.v (.int .u32 (G0 x (EW x)).v.b),.v (.int .u32 (G0 x (EW x)).v.c),.v (.int .u32 (G0 x (EW x)).v.d),.v (.int .u32 (G0 x (EW x)).v.e),.v (.int .u32 (G0 x (EW x)).v.f),.v (.int .u32 (G0 x (EW x)).v.g),.v (.int .u32 (G0 x (EW x)).v.h)]),(33,vi q.1)],[(5,.tok 1 ((((S8.l (G0 x (EW x)).v).take q.1).flatMap GE).map JL).length),(1000,.cells (Gk x))],Ac⟩) (Xi (fun q=>8-q.1) (Yi (Xi ⟨0,Al _⟩ ?_) ?_)))))
 .exact⟨Z3,Z2,Fh,A4 Wk⟩
 intro⟨i,i1⟩;have i1:i<=8:=i1;refine Yi (fun h1=>?_) (fun h1=>?_)
 .have h1:(i:Int)<(8:Int):=h1;have hlw:=qq (S8.l (G0 x (EW x)).v) i i1;refine Yi (show(0:Int)<=i/\(i:Int)<(8:Nat)from by omega) (G6 (ux (v:=(G0 x (EW x)).v) (show i<8 by omega) (show((i:Int).toNat*1)=i by omega)) (Yi Cl (Yi Cl (Yi Cl ?_))));have b2:Bi 1 [[.v (.int .u8 (IntKind.wrap .u8 (Gf .shr .u32 (S8.n (G0 x (EW x)).v i) 24)))],[.v (.int .u8 (IntKind.wrap .u8 (Gf .shr .u32 (S8.n (G0 x (EW x)).v i) 16)))],[.v (.int .u8 (IntKind.wrap .u8 (Gf .shr .u32 (S8.n (G0 x (EW x)).v i) 8)))],[.v (.int .u8 (IntKind.wrap .u8 (S8.n (G0 x (EW x)).v i)))]]/\((((S8.l (G0 x (EW x)).v).take i).flatMap GE).map JL).length=((((S8.l (G0 x (EW x)).v).take i).flatMap GE).map JL).length/\(((((S8.l (G0 x (EW x)).v).take i).flatMap GE).map JL).length+([[.v (.int .u8 (IntKind.wrap .u8 (Gf .shr .u32 (S8.n (G0 x (EW x)).v i) 24)))],[.v (.int .u8 (IntKind.wrap .u8 (Gf .shr .u32 (S8.n (G0 x (EW x)).v i) 16)))],[.v (.int .u8 (IntKind.wrap .u8 (Gf .shr .u32 (S8.n (G0 x (EW x)).v i) 8)))],[.v (.int .u8 (IntKind.wrap .u8 (S8.n (G0 x (EW x)).v i)))]]:C0).length)*1<=140737488355328/\((((S8.l (G0 x (EW x)).v).take i).flatMap GE).map JL).length+([[.v (.int .u8 (IntKind.wrap .u8 (Gf .shr .u32 (S8.n (G0 x (EW x)).v i) 24)))],[.v (.int .u8 (IntKind.wrap .u8 (Gf .shr .u32 (S8.n (G0 x (EW x)).v i) 16)))],[.v (.int .u8 (IntKind.wrap .u8 (Gf .shr .u32 (S8.n (G0 x (EW x)).v i) 8)))],[.v (.int .u8 (IntKind.wrap .u8 (S8.n (G0 x (EW x)).v i)))]]:C0).length<=9223372036854775807:=⟨⟨rfl,rfl,rfl,rfl,trivial⟩,rfl,(by simp only[Lm,AA,AE];omega),(by simp only[Lm,AA,AE];omega)⟩;refine Yi b2 (Yi (Ii i ch) ?_);have ew:(((((S8.l (G0 x (EW x)).v).take i).flatMap GE).map JL++[[AV.v (.int .u8 (IntKind.wrap .u8 (Gf .shr .u32 (S8.n (G0 x (EW x)).v i) 24)))],[.v (.int .u8 (IntKind.wrap .u8 (Gf .shr .u32 (S8.n (G0 x (EW x)).v i) 16)))],[.v (.int .u8 (IntKind.wrap .u8 (Gf .shr .u32 (S8.n (G0 x (EW x)).v i) 8)))],[.v (.int .u8 (IntKind.wrap .u8 (S8.n (G0 x (EW x)).v i)))]])=(((S8.l (G0 x (EW x)).v).take (i+1)).flatMap GE).map JL):=by rw[qo,<-AF];exact Aa (List.map JL) (fL (show i<8 by omega))
  refine Xi ⟨i+1,by omega⟩ ?_;exact⟨Dl 8 i ch,⟨⟨(Aa (AV.slice (.id 5 1)) ew),rfl⟩,Zr,Zr,Tv⟩,⟨⟨(show HO.tok 1 (((((S8.l (G0 x (EW x)).v).take i).flatMap GE).map JL).length+([[.v (.int .u8 (IntKind.wrap .u8 (Gf .shr .u32 (S8.n (G0 x (EW x)).v i) 24)))],[.v (.int .u8 (IntKind.wrap .u8 (Gf .shr .u32 (S8.n (G0 x (EW x)).v i) 16)))],[.v (.int .u8 (IntKind.wrap .u8 (Gf .shr .u32 (S8.n (G0 x (EW x)).v i) 8)))],[.v (.int .u8 (IntKind.wrap .u8 (S8.n (G0 x (EW x)).v i)))]]:C0).length)=.tok 1 ((((S8.l (G0 x (EW x)).v).take (i+1)).flatMap GE).map JL).length from Aa (HO.tok 1) (Ak.symm.trans (Aa List.length ew))),rfl⟩,Zr,Tv⟩,Fh,A4 Wk⟩
 have h1:¬((i:Int)<(8:Int)):=h1;refine Xi (((S8.l (G0 x (EW x)).v)).flatMap GE) (Yi (show((((S8.l (G0 x (EW x)).v).take i).flatMap GE).map JL)=(((S8.l (G0 x (EW x)).v)).flatMap GE).map JL by rw[show i=8 by omega];rfl) ?_);exact C2 (.refl _) Zr
theorem Wy:∀(n:Nat) (v:S8) (b:CS),b.size<=n->(IX v b).2.size<64
 |0,v,b,h=>by rw[IX,Az ch];show b.size<64;omega
 |n+1,v,b,h=>by
  rw[IX];split
  .exact Wy n _ _ (by simp only[KU];omega)
  .show b.size<64;omega
theorem Zz:(G0 x s).rest.size<64:=Wy _ _ _ (Ap _)
theorem iw{x:HS}(hx:x.rest.size<64):∀l:List CS,(Qq x l).rest.size<64:=fun l=>by
 unfold Qq
 induction l generalizing x with
 |nil=>exact hx
 |cons a l ih=>exact ih (Zz _ _)
theorem ll(l:List CS)(i:Nat)(h:i<l.length):Qq x (l.take (i+1))=G0 (G0 (Qq x (l.take i)) (Kl (IntKind.wrap .u64 (l[i].size:Int)))) l[i]:=by
 rw[By h,Qq,RJ];rfl
theorem lk:(tE x).size=32:=by
 have e:∀m:List Int,(m.flatMap GE).length=4*m.length:=fun m=>by
  induction m with
  |nil=>rfl
  |cons a m ih=>rw[List.flatMap_cons,Ak,ih];show 4+_=4*(_+1);omega
 show((((G0 x (EW x)).v.l).flatMap GE).toArray).size=32;rw[RM,e];rfl
def Yt(d:CS):Nat->Int
 |0=>0
 |i+1=>I8 .or .u64 (Gf .shl .u64 (Yt d i) 8) (IntKind.wrap .u64 ((Of d i).toNat:Int))
def jn:Int:=Yt (iy ⟨#[99,111,104,111,114,116]⟩ [name,user]) 8 % 100
theorem mD(d:CS)(i:Nat):0<=Yt d i:=by
 cases i with
 |zero=>exact Bv 0
 |succ i=>exact VM _
theorem fY:0<=jn name user/\jn name user<100:=⟨Ws _ Cl,Int.emod_lt_of_pos _ Cl⟩
theorem ql(tag:CS)(l:List CS)(hn:l.length<=1000000)(ht:tag.size<=100000000)(hl:∀s∈l,s.size<=100000000):PC 48 [vs tag,sl Ar l] (vs (iy tag l)):=by
 refine Ps C3 func48 rfl (Nz rfl) (Xi (.gen [] 1) (Yi rfl (AP.to2 Ac3 ?_)));refine C1 (C2 (qi (IntKind.wrap .u64 tag.size)) (Yi (show(((Kl (IntKind.wrap .u64 (tag.size:Int))).size+tag.size:Nat):Int)<=9223372036854775807 by rw[Li];omega) ?_));refine Xi (.gen [(10800,1000)] 0) (Yi rfl (AP.to2 (To SQ ((Kl (IntKind.wrap .u64 tag.size))++tag) (by rw[CD];have q:=Li (IntKind.wrap .u64 (tag.size:Int));rw[CD];show 0+_<=_;omega)) ?_));refine Xi {q:Nat // q<=l.length} (Xi (fun q=>⟨[(5,.ref 10800 0),(17,sl Ar l),(18,vi (l.map Ar).length),(19,vi q.1)],[(10800,.cells (Gk (Qq (G0 SQ (Kl (IntKind.wrap .u64 (tag.size:Int))++tag)) (l.take q.1))))],Ac⟩) (Xi (fun q=>l.length-q.1) (Yi (Xi ⟨0,Al _⟩ ?_) ?_)))
 .exact⟨Z4,Z1,Fh,Tv⟩
 intro⟨i,i1⟩;have i1:i<=l.length:=i1;refine Yi (fun h1=>?_) (fun h1=>?_)
 .have h1:(i:Int)<((l.map Ar).length:Int):=h1;have n1:=DK h1;refine Xi (Ar l[i]) (Yi (FJ n1) (Yi rfl (C1 (C2 (qi (IntKind.wrap .u64 l[i].size)) (Xi (.gen [(10800,1000)] 0) (Yi rfl (AP.to2 (To (Qq (G0 SQ (Kl (IntKind.wrap .u64 (tag.size:Int))++tag)) (l.take i)) (Kl (IntKind.wrap .u64 l[i].size)) (by rw[CD];have q:=iw (Zz SQ (Kl (IntKind.wrap .u64 (tag.size:Int))++tag)) (l.take i);have q2:=Li (IntKind.wrap .u64 (l[i].size:Int));omega)) ?_)))))));refine Xi (.gen [(10800,1000)] 0) (Yi rfl (AP.to2 (To (G0 (Qq (G0 SQ (Kl (IntKind.wrap .u64 (tag.size:Int))++tag)) (l.take i)) (Kl (IntKind.wrap .u64 l[i].size))) l[i] (by rw[CD];have q:=Zz (Qq (G0 SQ (Kl (IntKind.wrap .u64 (tag.size:Int))++tag)) (l.take i)) (Kl (IntKind.wrap .u64 (l[i].size:Int)));have q2:=hl l[i] (Ae n1);omega)) ?_));refine Yi (Ii i ch) (Xi ⟨i+1,by omega⟩ ?_);exact⟨Dl l.length i ch,Z4,⟨⟨(show HO.cells (Gk (G0 (G0 (Qq (G0 SQ (Kl (IntKind.wrap .u64 (tag.size:Int))++tag)) (l.take i)) (Kl (IntKind.wrap .u64 l[i].size))) l[i]))=.cells (Gk (Qq (G0 SQ (Kl (IntKind.wrap .u64 (tag.size:Int))++tag)) (l.take (i+1))))from Aa (fun z=>HO.cells (Gk z)) (ll _ l i n1).symm),rfl⟩,Tv⟩,Fh,Tv⟩
 have h1:¬((i:Int)<((l.map Ar).length:Int)):=h1;have n1:=B5 h1;refine Xi (.gen [(10800,1000)] 0) (Yi rfl (AP.to2 (yj (Qq (G0 SQ (Kl (IntKind.wrap .u64 (tag.size:Int))++tag)) (l.take i)) (iw (Zz _ _) _)) ?_));have e:l.take i=l:=Au ch;exact BM.of_eq (Aa (fun z=>vs (tE (Qq (G0 SQ (Kl (IntKind.wrap .u64 (tag.size:Int))++tag)) z))) e)
theorem ye(d:CS)(hs:d.size=32)(hd:PC 48 [vs ⟨#[99,111,104,111,114,116]⟩,sl Ar [name,user]] (vs d)):PC 15 [vs name,vs user] (vi (Yt d 8 % 100)):=by
 refine Ps C3 func15 rfl (Nz rfl) (C1 (C2 hd (Xi {q:Nat // q<=8} (Xi (fun q=>⟨[(5,vs d),(6,.v (.int .u64 (Yt d q.1))),(14,vi (min 8 d.size)),(15,vi q.1)],[],Ac⟩) (Xi (fun q=>8-q.1) (Yi (Xi ⟨0,Al _⟩ ?_) ?_))))))
 .exact⟨Z4,Tv,Fh,Tv⟩
 intro⟨i,i1⟩;have i1:i<=8:=i1;refine Yi (fun h1=>?_) (fun h1=>?_)
 .have h1:(i:Int)<(min 8 d.size:Int):=h1;refine Yi Cl (Xi (Of d i) (Yi (fV (z:=(i:Int)) (show i<d.size by omega) rfl) (Yi (Ii i ch) (Xi ⟨i+1,by omega⟩ ?_))));exact⟨Dl 8 i ch,Z4,Tv,Fh,Tv⟩
 have h1:¬((i:Int)<(min 8 d.size:Int)):=h1;refine Yi (show 0<=Yt d i/\(0:Int)<100 from⟨mD _ _,by decide⟩) (Yi (show Av (Yt d i % 100) by unfold Av;have q1:=Ws (Yt d i) (show(100:Int)≠0 by decide);have q2:=Int.emod_lt_of_pos (Yt d i) (show(0:Int)<100 by decide);omega) ?_);have e:i=8:=by omega
 subst e;exact .refl _
theorem Ac0(h1:name.size<=100000000)(h2:user.size<=100000000):PC 15 [vs name,vs user] (vi (jn name user)):=
 ye name user _ (lk _) (ql _ _ (show 2<=1000000 by omega) Cl (fun s hs=>by
  rcases AU.1 hs with e | hs
  .rw[e];exact h1
  .rw[AK.1 hs];exact h2))
structure cH where
 (t p:Int)
variable (l:List cH)
abbrev Gc(s:cH):List AV:=[vi s.t,vi s.p]
def VJ(last:Int):List cH->Int
 | []=>0
 |s::r=>if s.t<=last\/s.p<0\/100<s.p then 1 else VJ s.t r
def Do:Int:=if 1024<l.length then 7 else VJ (-1) l
def Tj(Bp o:Int)(s:cH):Int:=if s.t<=Bp then s.p else o
def KP(Bp:Int):Int:=l.foldl (Tj Bp) 0
theorem bW{l:List cH}{Bp:Int}{i:Nat}(h:i<l.length):KP (l.take (i+1)) Bp=Tj Bp (KP (l.take i) Bp) l[i]:=by
 rw[By h,KP,RJ];rfl
theorem tD{l:List cH}{i:Nat}(h:i<l.length)(h1:¬(l[i].t<=last\/l[i].p<0\/100<l[i].p)):VJ last (l.drop i)=VJ l[i].t (l.drop (i+1)):=by
 rw[A2 h,VJ,Az h1]
theorem fB{l:List cH}{i:Nat}(h:i<l.length)(h1:l[i].t<=last\/l[i].p<0\/100<l[i].p):VJ last (l.drop i)=1:=by
 rw[A2 h,VJ,Ay h1]
theorem VK(hl:BJ l):PC 13 [sl Gc l] (vi (Do l)):=by
 have hl:l.length<=1073741824:=hl;refine Ps C3 func13 rfl (Nz rfl) (Yi (fun h1=>?_) (fun h1=>?_))
 .have h1:(1024:Int)<((l.map Gc).length:Int):=h1;have n1:1024<l.length:=by have q:=h1;rw[Lm]at q;omega
  exact BM.of_eq (Aa vi (show 7=Do l by rw[Do,Ay ch]))
 have h1:¬((1024:Int)<((l.map Gc).length:Int)):=h1;have n1:¬1024<l.length:=by have q:=h1;rw[Lm]at q;omega
 refine Xi {q:Nat×Int // q.1<=l.length/\VJ q.2 (l.drop q.1)=VJ (-1) l} (Xi (fun q=>⟨[(3,vi q.1.2),(9,sl Gc l),(10,vi (l.map Gc).length),(11,vi q.1.1)],[],Ac⟩) (Xi (fun q=>l.length-q.1.1) (Yi (Xi ⟨(0,-1),Al _,rfl⟩ ?_) ?_)))
 .exact⟨Z4,Tv,Fh,Tv⟩
 intro⟨⟨i,la⟩,i1,i2⟩;have i1:i<=l.length:=i1;have i2:VJ la (l.drop i)=VJ (-1) l:=i2;refine Yi (fun h3=>?_) (fun h3=>?_)
 .have h3:(i:Int)<((l.map Gc).length:Int):=h3;have n3:=DK h3;refine Xi (Gc l[i]) (Yi (FJ n3) (Yi rfl (yN (yN (Yi (fun h4=>?_) (fun h4=>?_))))))
  .have h4:(l[i].t:Int)<=(la:Int):=h4;exact BM.of_eq (Aa vi (show 1=Do l by rw[Do,Az ch,<-i2,fB n3 ch]))
  have h4:¬((l[i].t:Int)<=(la:Int)):=h4;refine Yi (fun h6=>?_) (fun h6=>?_)
  .have h6:(l[i].p:Int)<(0:Int):=h6;exact BM.of_eq (Aa vi (show 1=Do l by rw[Do,Az ch,<-i2,fB n3 ch]))
  have h6:¬((l[i].p:Int)<(0:Int)):=h6;refine Yi (fun h8=>?_) (fun h8=>?_)
  .have h8:(100:Int)<(l[i].p:Int):=h8;exact BM.of_eq (Aa vi (show 1=Do l by rw[Do,Az ch,<-i2,fB n3 ch]))
  have h8:¬((100:Int)<(l[i].p:Int)):=h8;refine Yi (Ii i ch) (Xi ⟨(i+1,l[i].t),n3,by rw[<-i2,tD n3 ch]⟩ ?_);exact⟨Dl l.length i ch,Z4,Tv,Fh,Tv⟩
 have h3:¬((i:Int)<((l.map Gc).length:Int)):=h3;have n3:=B5 h3;exact BM.of_eq (Aa vi (show 0=Do l by rw[Do,Az ch,<-i2,Bq ch];rfl))
theorem vt(Bp:Int)(hl:BJ l):PC 47 [sl Gc l,vi Bp] (vi (KP l Bp)):=by
 have hl:l.length<=1073741824:=hl;refine Ps C3 func47 rfl (Nz rfl) (Xi {q:Nat // q<=l.length} (Xi (fun q=>⟨[(1,vi Bp),(5,vi (KP (l.take q.1) Bp)),(8,sl Gc l),(9,vi (l.map Gc).length),(10,vi q.1)],[],Ac⟩) (Xi (fun q=>l.length-q.1) (Yi (Xi ⟨0,Al _⟩ ?_) ?_))))
 .exact⟨Z5,Tv,Fh,Tv⟩
 intro⟨i,i1⟩;have i1:i<=l.length:=i1;refine Yi (fun h1=>?_) (fun h1=>?_)
 .have h1:(i:Int)<((l.map Gc).length:Int):=h1;have n1:=DK h1;refine Xi (Gc l[i]) (Yi (FJ n1) (Yi rfl (yN (yN (Yi (fun h2=>?_) (fun h2=>?_))))))
  .have h2:(l[i].t:Int)<=(Bp:Int):=h2;refine Yi (Ii i ch) (Xi ⟨i+1,n1⟩ ?_);exact⟨Dl l.length i ch,⟨Zr,⟨(Aa vi (show l[i].p=KP (l.take (i+1)) Bp by rw[bW n1,Tj,Ay h2])),rfl⟩,Zr,Zr,Zr,Tv⟩,Tv,Fh,Tv⟩
  have h2:¬((l[i].t:Int)<=(Bp:Int)):=h2;refine Yi (Ii i ch) (Xi ⟨i+1,n1⟩ ?_);exact⟨Dl l.length i ch,⟨Zr,⟨(Aa vi (show(KP (l.take i) Bp)=KP (l.take (i+1)) Bp by rw[bW n1,Tj,Az h2])),rfl⟩,Zr,Zr,Zr,Tv⟩,Tv,Fh,Tv⟩
 have h1:¬((i:Int)<((l.map Gc).length:Int)):=h1;have n1:=B5 h1;exact BM.of_eq (Aa (fun z=>vi (KP z Bp)) (Au (AO (B5 h1))))
def eZ(Bp:Int):Int:=if Do l=0 then KP l Bp else 0
theorem vh(Bp:Int)(hl:BJ l):PC 11 [sl Gc l,vi Bp] (.tup [vi (eZ l Bp),vi (Do l)]):=by
 refine Ps C3 func11 rfl (Nz rfl) (C1 (C2 (VK l hl) (Yi (fun h1=>?_) (fun h1=>?_))))
 .have h1:((Do l):Int)≠(0:Int):=h1;exact BM.of_eq (show AV.tup [vi 0,vi (Do l)]=.tup [vi (eZ l Bp),vi (Do l)] by rw[eZ,Az h1])
 have h1:((Do l):Int)=(0:Int):=Aq h1;refine C1 (C2 (vt l Bp hl) ?_);exact BM.of_eq (show AV.tup [vi (KP l Bp),vi 0]=.tup [vi (eZ l Bp),vi (Do l)] by rw[eZ,Ay h1,h1])
end Go.Eng
