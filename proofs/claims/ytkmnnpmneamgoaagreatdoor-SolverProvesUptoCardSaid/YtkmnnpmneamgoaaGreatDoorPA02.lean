/- Lemmas 2. -/
import Derived.Test.YtkmnnpmneamgoaaGreatDoorPA01
import Derived.Lib.SplitLaws
import Derived.Lib.IndexBytes
namespace Go.Eng
variable {x:Int×Int}{B:List Int}{s:List Tm}(m:List (Int×Int))(S:AH)(l:List Tm)(r:AH)(i:Nat)(k:Int)(t:Tm)(v j:Int)
def DZ(l:AH):AH:=(l.map Ha).filter fun x=>decide (x.1<x.2)
theorem VN{l:AH}(h:x∈DZ l):0<=x.1/\x.1<x.2/\x.2<=1000000:=by
 grind [DZ,Ha]
theorem fX(l:AH)(p:Int):(DZ l).any (BP p)=has l p:=by
 rw[<-Ky]
 induction l<;>grind [DZ,canon,ON,BG]
theorem N0:∀{l:AH} {lo:Int},ED lo l↔(∀y∈l,lo<=y.1/\y.1<y.2/\y.2<=1000000)/\l.Pairwise fun a b=>a.2<b.1
 | [],lo=>by simp[ED]
 |y::r,lo=>by
  rw[Dn];constructor
  .intro h;have hl:=h.low;refine⟨hl,fun z hz=>?_,((N0 (l:=r)).1 h.2.2.2).2⟩
   have:=h.2.2.2.low z hz;omega
  .intro⟨h1,h2,h3⟩;have hy:=h1 y (Ah ..);refine⟨hy.1,hy.2.1,hy.2.2,N0.2 ⟨fun z hz=>?_,h3⟩⟩
   grind
def JG(x:Int×Int):AH:=match r with
 | []=>[x]
 |y::t=>if x.1<=y.2 then(y.1,max y.2 x.2)::t else x::y::t
def BE(s:AH):AH:=s.foldl JG []
theorem FE(s:AH)(i:Nat)(h:i<s.length):BE (s.take (i+1))=JG (BE (s.take i)) s[i]:=by
 grind [BE,List.take_add_one]
theorem ji(x:Int×Int):(JG r x).length<=r.length+1/\r.length<=(JG r x).length/\0<(JG r x).length:=by
 unfold JG
 grind
theorem On(s:AH):∀i,i<=s.length->(BE (s.take i)).length<=i/\(0<i->0<(BE (s.take i)).length):=by
 intro i
 induction i<;>grind [BE,FE,ji]
structure fm(r done:AH):Prop where
 ok:∀y∈r,0<=y.1/\y.1<y.2/\y.2<=1000000
 pw:r.Pairwise fun a b=>b.2<a.1
 has:∀p,r.any (BP p)=done.any (BP p)
 first:∀y t,r=y::t->∃x∈done,y.1=x.1
theorem jh{r done:AH}(h:fm r done)(hx:0<=x.1/\x.1<x.2/\x.2<=1000000)(hs:∀y∈done,y.1<=x.1):fm (JG r x) (done++[x]):=by
 unfold JG;split
 .refine⟨fun y hy=>?_,by simp,fun p=>?_,fun y t e=>?_⟩
  all_goals grind [fm.has]
 .rename_i y t;have hy:=h.ok y (Ah ..);obtain⟨pw1,pw2⟩:=Dn.1 h.pw;obtain⟨z,hz,e⟩:=h.first y t rfl
  have vB:=hs z hz;split
  .rename_i IF;refine⟨fun u hu=>?_,Dn.2 ⟨pw1,pw2⟩,fun p=>?_,fun u t' e'=>?_⟩
   .rcases AF.1 hu with rfl | hu
    .omega
    .exact h.ok u (Ai _ hu)
   .rw[List.any_append,<-h.has,EH,EH,EH,List.any_nil,Bool.or_false]
    grind [BP]
   grind
  .rename_i IF;refine⟨fun u hu=>?_,Dn.2 ⟨fun u hu=>?_,h.pw⟩,fun p=>?_,fun u t' e'=>?_⟩
   .rcases AF.1 hu with rfl | hu
    .exact hx
    .exact h.ok u hu
   all_goals grind [fm.has]
theorem ci{s:AH}(Gv:∀y∈s,0<=y.1/\y.1<y.2/\y.2<=1000000)(hs:s.Pairwise fun a b=>a.1<=b.1):∀i,i<=s.length->fm (BE (s.take i)) (s.take i):=by
 intro i
 induction i with
 |zero=>intro _;exact⟨fun _ h=>by grind [BE],by simp[BE],fun p=>by simp[BE],fun y t e=>by grind [BE]⟩
 |succ i ih=>
  grind [FE,List.take_add_one,jh,List.mem_iff_getElem,List.pairwise_iff_getElem]
theorem LN{l s:AH}(hp:s.Perm (DZ l))(hs:s.Pairwise fun a b=>a.1<=b.1):(BE s).reverse=canon l:=by
 have hi:=ci (s:=s) (fun y hy=>VN (hp.mem_iff.1 hy)) hs s.length (Ao _);rw[F3]at hi;have hc:Er (BE s).reverse:=by
  unfold Er;rw[N0];refine⟨fun y hy=>hi.ok y (List.mem_reverse.1 hy),?_⟩
  grind [fm.pw]
 refine SV hc fun p=>?_;rw[H1 hc,List.any_reverse,hi.has,<-fX]
 grind
-- maps from numbers to numbers,as lists in the order in which they are met
def FO:Int:=match m.find? (fun p=>decide (p.1=k))with | some p=>p.2 | none=>0
def LA:List (Int×Int):=if m.any (fun p=>decide (p.1=k))then m.map (fun p=>if p.1=k then(k,v)else p)else m++[(k,v)]
theorem Nr(p:Int×Int)(m:List (Int×Int))(k:Int):FO (p::m) k=if p.1=k then p.2 else FO m k:=by
 grind [FO]
theorem PP:FO (LA m k v) j=if j=k then v else FO m j:=by
 unfold LA;split
 .rename_i h
  induction m with
  |nil=>simp_all
  |cons p m ih=>
   rw[Bv,Nr,Nr]
   by_cases e:p.1=k
   .rw[AX e];dsimp only
    by_cases ej:j=k
    .omega
    .rw[AI (fun c=>ej c.symm),AI ej,AI (fun c=>ej (c.symm.trans e))]
     by_cases hm:(m.any fun p=>decide (p.1=k))=true
     .simp_all
     .have:∀q∈m,q.1≠k:=fun q hq e=>hm (Bu.2 ⟨q,hq,by simp[e]⟩)
      have:m.map (fun p=>if p.1=k then(k,v)else p)=m:=by
       conv=>rhs;rw[<-Re m]
       grind [List.map_congr_left]
      simp_all
   grind
 .rename_i h;have hn:∀q∈m,q.1≠k:=fun q hq e=>h (Bu.2 ⟨q,hq,by simp[e]⟩)
  induction m<;>grind [Nr]
def Fq:List Int:=m.map (·.1)
theorem Wb:Fq (LA m k v)=if k∈Fq m then Fq m else Fq m++[k]:=by
 grind [LA,Fq,List.map_congr_left]
theorem MD{m:List (Int×Int)}(h:(Fq m).Nodup)(k v:Int):(Fq (LA m k v)).Nodup:=by
 grind [Wb]
theorem KL:j∈Fq (LA m k v)↔j=k\/j∈Fq m:=by
 grind [Wb]
theorem nQ{m:List (Int×Int)}(h:(Fq m).Nodup){p:Int×Int}(hp:p∈m):FO m p.1=p.2:=by
 induction m<;>grind [Nr,Fq]
theorem nR{m:List (Int×Int)}{k:Int}(h:k∉Fq m):FO m k=0:=by
 unfold FO
 have:m.find? (fun p=>decide (p.1=k))=none:=by
  rw[List.find?_eq_none];intro p hp;simp only[A8];exact fun e=>h (Ar.2 ⟨p,hp,e⟩)
 grind
-- counting
def cF:Nat:=S.countP fun x=>decide (x.1=k)
def cT:Nat:=S.countP fun x=>decide (x.2=k)
def lF:Nat:=S.countP fun x=>decide (x.1<=k)
def lT:Nat:=S.countP fun x=>decide (x.2<=k)
theorem I7{α:Type}{p q r:α->Bool}:∀{l:List α},(∀x∈l,(p x=true↔q x=true\/r x=true)/\¬(q x=true/\r x=true))->l.countP p=l.countP q+l.countP r
 | [],_=>rfl
 |x::l,h=>by
  have ih:=I7 fun y hy=>h y (Ai _ hy)
  grind
structure F8(m:List (Int×Int))(S:AH):Prop where
 nd:(Fq m).Nodup
 val:∀k,FO m k=(cF S k:Int)-cT S k
 keys:0∈Fq m/\1000000∈Fq m/\∀x∈S,x.1∈Fq m/\x.2∈Fq m
 rng:∀k∈Fq m,0<=k/\k<=1000000
def wD:List (Int×Int):=[(0,0),(1000000,0)]
theorem oQ:F8 wD []:=⟨by decide,fun k=>by
  grind [wD,FO,cF,cT],⟨by decide,by decide,fun _ h=>by cases h⟩,fun k hk=>by
  grind [wD,Fq]⟩
def ar(x:Int×Int):List (Int×Int):=LA (LA m x.1 (FO m x.1+1)) x.2 (FO (LA m x.1 (FO m x.1+1)) x.2-1)
theorem jg{m:List (Int×Int)}{S:AH}(h:F8 m S)(hx:0<=x.1/\x.1<x.2/\x.2<=1000000):F8 (ar m x) (S++[x]):=by
 unfold ar;refine⟨MD (MD h.nd _ _) _ _,fun k=>?_,⟨?_,?_,fun y hy=>?_⟩,fun k hk=>?_⟩
 .rw[PP,PP,PP,h.val,h.val,h.val];unfold cF cT;simp only[List.countP_append,List.countP_singleton,A8]
  grind
 .grind [KL,F8.keys]
 .grind [KL,F8.keys]
 .grind [KL,F8.keys]
 .rw[KL,KL]at hk;rcases hk with rfl | rfl | hk
  .omega
  .omega
  .exact h.rng k hk
def IU(B:List Int):Int:=(B.map (FO m)).foldl (·+·) 0
theorem QX(B:List Int)(i:Nat)(h:i<B.length):IU m (B.take (i+1))=IU m (B.take i)+FO m B[i]:=by
 grind [IU,List.take_add_one]
structure ot(B:List Int)(m:List (Int×Int)):Prop where
 perm:B.Perm (Fq m)
 srt:B.Pairwise fun a b=>a<b
theorem eU{m:List (Int×Int)}{S:AH}(h:F8 m S)(hB:ot B m):∀i (hi:i<B.length),IU m (B.take (i+1))=(lF S B[i]:Int)-lT S B[i]:=by
 have mem:∀k,k∈Fq m->∃j,∃hj:j<B.length,B[j]=k:=fun k hk=>by
  have:=hB.perm.mem_iff.2 hk
  grind [List.mem_iff_getElem]
 have lt:∀i j (hi:i<B.length) (hj:j<B.length),i<j->B[i]<B[j]:=fun i j hi hj aC=>(Dm.1 hB.srt) i j hi hj aC;intro i
 induction i with
 |zero=>
  intro hi;rw[QX m B 0 hi,h.val]
  have:IU m (B.take 0)=0:=by simp[IU]
  rw[this];have low:∀k∈Fq m,B[0]<=k:=fun k hk=>by
   grind
  have e1:lF S B[0]=cF S B[0]:=by
   grind [lF,cF,List.countP_congr,F8.keys]
  grind [lT,cT,List.countP_congr,F8.keys]
 |succ i ih=>
  intro hi;rw[QX m B (i+1) hi,ih aa0,h.val];have nb:∀k∈Fq m,k<=B[i+1]↔k<=B[i]\/k=B[i+1]:=fun k hk=>by
   grind
  have l0:=lt i (i+1) aa0 hi aa0;have e1:lF S B[i+1]=lF S B[i]+cF S B[i+1]:=by
   unfold lF cF;apply I7
   grind [F8.keys]
  have e2:lT S B[i+1]=lT S B[i]+cT S B[i+1]:=by
   unfold lT cT;apply I7
   grind [F8.keys]
  omega
theorem Yy{S:AH}(hS:∀x∈S,x.1<x.2)(p:Int):(lF S p:Int)-lT S p=(S.countP (BP p):Nat):=by
 have:lF S p=S.countP (BP p)+lT S p:=by
  unfold lF lT
  grind [I7,BP]
 omega
theorem OY:∀{l:AH} {lo:Int} (p:Int),ED lo l->l.countP (BP p)=if l.any (BP p)then 1 else 0
 | [],_,_,_=>rfl
 |y::r,lo,p,⟨h1,h2,h3,h4⟩=>by
  rw[List.countP_cons,OY p h4,EH];cases hy:BP p y with
  |false=>grind
  |true=>
   have:=Eo.1 hy
   have:r.any (BP p)=false:=by
    rw[A2];intro hr;have:=OP h4 hr;omega
   simp_all
theorem Mo:∀(l:List AH) (p:Int),((l.map canon).flatten).countP (BP p)=kk l p
 | [],_=>rfl
 |s::l,p=>by
  rw[Bv,Cj,List.countP_append,Mo l p,OY p (BG s),Ky]
  grind [kk]
def Ey(keep:Nat->Bool)(m:List (Int×Int))(B:List Int):Nat->AH
 |0=>[]
 |i+1=>Ey keep m B i++(match B[i]?,B[i+1]? with
  |some a,some b=>if keep (IU m (B.take (i+1))).toNat then [(a,b)]else []
  |_,_=>[])
theorem Qr{keep:Nat->Bool}{m:List (Int×Int)}{B:List Int}{x:Int×Int}:∀{n:Nat},x∈Ey keep m B n↔∃i,i<n/\∃(h1:i<B.length) (h2:i+1<B.length),keep (IU m (B.take (i+1))).toNat=true/\x=(B[i],B[i+1])
 |0=>by simp[Ey]
 |n+1=>by
  unfold Ey;rw[Bc,Qr (n:=n)]
  grind
theorem OS{B:List Int}(hs:B.Pairwise fun a b=>a<b){p:Int}:∀(n:Nat) (h0:0<B.length) (hn:n<B.length),B[0]<=p->p<B[n]->∃i,∃(h1:i<B.length) (h2:i+1<B.length),B[i]<=p/\p<B[i+1]
 |0,h0,hn,h1,h2=>by omega
 |n+1,h0,hn,h1,h2=>by
  by_cases e:B[n]<=p
  .grind
  .exact OS hs n h0 aa0 h1 aa0
theorem l7{keep:Nat->Bool}{l:List AH}{m:List (Int×Int)}(h:F8 m (l.map canon).flatten)(hB:ot B m)(p:Int):has (Ey keep m B (B.length-1)) p=(Pj p&&keep (kk l p)):=by
 have hS:∀x∈(l.map canon).flatten,x.1<x.2:=fun x hx=>by
  obtain⟨s,hs,hx⟩:=Fk.1 hx;obtain⟨t,_,rfl⟩:=Ar.1 hs;exact((BG t).low x hx).2.1
 have mem:∀k,k∈Fq m->∃j,∃hj:j<B.length,B[j]=k:=fun k hk=>by
  obtain⟨j,hj,e⟩:=List.mem_iff_getElem.1 (hB.perm.mem_iff.2 hk)<;>grind [List.mem_iff_getElem]
 have lt:∀i j (hi:i<B.length) (hj:j<B.length),i<j->B[i]<B[j]:=fun i j hi hj aC=>(Dm.1 hB.srt) i j hi hj aC;have rng:∀i (hi:i<B.length),0<=B[i]/\B[i]<=1000000:=fun i hi=>h.rng _ (hB.perm.mem_iff.1 (Ak hi))
 -- oF two bounds
 have oF:∀i (h1:i<B.length) (h2:i+1<B.length),B[i]<=p->p<B[i+1]->(IU m (B.take (i+1))).toNat=kk l p:=fun i h1 h2 a b=>by
  have same:∀k∈Fq m,k<=B[i]↔k<=p:=fun k hk=>by
   grind
  have e1:lF (l.map canon).flatten B[i]=lF (l.map canon).flatten p:=by
   grind [lF,List.countP_congr,F8.keys]
  grind [lT,List.countP_congr,eU,Yy,Mo,F8.keys]
 rw[Dh];constructor
 .grind [has,Qr,Eo,Pj]
 .intro hh;simp only[Aj,Pj,A8]at hh;obtain⟨⟨p0,p1⟩,hk⟩:=hh;obtain⟨j0,hj0,e0⟩:=mem 0 h.keys.1;obtain⟨j1,hj1,e1⟩:=mem 1000000 h.keys.2.1;have hb0:B[0]' aa0<=p:=by
   grind
  obtain⟨i,h1,h2,a,b⟩:=OS hB.srt j1 aa0 hj1 hb0 aa0;unfold has;simp only[p0,p1,decide_true,Bool.true_and];exact Bu.2 ⟨(B[i],B[i+1]),Qr.2 ⟨i,by omega,h1,h2,by simp_all,rfl⟩,Eo.2 ⟨a,b⟩⟩
theorem nG{l:List AH}{m:List (Int×Int)}(h:F8 m (l.map canon).flatten)(hB:ot B m)(i:Nat)(hi:i<B.length):0<=IU m (B.take (i+1))/\IU m (B.take (i+1))<=l.length:=by
 have hS:∀x∈(l.map canon).flatten,x.1<x.2:=fun x hx=>by
  obtain⟨s,hs,hx⟩:=Fk.1 hx;obtain⟨t,_,rfl⟩:=Ar.1 hs;exact((BG t).low x hx).2.1
 rw[eU h hB i hi,Yy hS,Mo]
 grind [kk]
def XP(m:List Tm)(t:Tm):List Tm:=if m.any (fun u=>decide (u.path=t.path))then m.map (fun u=>if u.path=t.path then t else u)else m++[t]
def stepT(m:List Tm)(t:Tm):List Tm:=XP m (RX (Dj m t.path) t)
def Ds:List Tm:=l.foldl stepT []
theorem gp(p:ByteArray):∀m:List Tm,Dj (XP m t) p=if t.path=p then some t else Dj m p:=by
 intro m;unfold XP
 by_cases h:(m.any fun u=>decide (u.path=t.path))=true
 .rw[AX h]
  induction m with
  |nil=>simp_all
  |cons u m ih=>
   rw[Bv,EE,EE]
   by_cases e:u.path=t.path
   .rw[AX e]
    by_cases ep:t.path=p
    .simp_all
    .rw[AI ep,AI ep,AI (fun c=>ep (e.symm.trans c))]
     by_cases hm:(m.any fun u=>decide (u.path=t.path))=true
     .simp_all
     .have:∀q∈m,q.path≠t.path:=fun q hq c=>hm (Bu.2 ⟨q,hq,by simp[c]⟩)
      have:m.map (fun u=>if u.path=t.path then t else u)=m:=by
       conv=>rhs;rw[<-Re m]
       grind [List.map_congr_left]
      simp_all
   grind
 .rw[AI h];have hn:∀q∈m,q.path≠t.path:=fun q hq e=>h (Bu.2 ⟨q,hq,by simp[e]⟩)
  clear h
  induction m<;>grind [EE]
def ET(m:List Tm):List ByteArray:=m.map (·.path)
open Classical in
theorem cw(m:List Tm)(t:Tm):ET (XP m t)=if t.path∈ET m then ET m else ET m++[t.path]:=by
 grind [XP,ET,List.map_congr_left]
theorem iw{m:List Tm}(h:(ET m).Nodup)(t:Tm):(ET (XP m t)).Nodup:=by
 grind [cw]
theorem RC(h:i<l.length):Ds (l.take (i+1))=stepT (Ds (l.take i)) l[i]:=by
 grind [Ds,List.take_add_one]
theorem O9:∀(l m:List Tm),(ET m).Nodup->(ET (l.foldl stepT m)).Nodup
 | [],_,h=>h
 |_::l,_,h=>O9 l _ (iw h _)
theorem H3:(ET (Ds l)).Nodup:=O9 l [] .nil
theorem YI(m:List Tm)(t:Tm)(p:ByteArray):Dj (stepT m t) p=Kf p (Dj m p) t:=by
 grind [stepT,Kf,QH,Lk,gp]
theorem O6(p:ByteArray):∀(l m:List Tm),Dj (l.foldl stepT m) p=l.foldl (Kf p) (Dj m p)
 | [],_=>rfl
 |t::l,m=>by rw[GJ,GJ,O6 p l,YI]
theorem bz(p:ByteArray):Dj (Ds l) p=Dj (CX l) p:=by
 unfold Ds;rw[O6,Ja];rfl
theorem Ru{m:List Tm}(h:(ET m).Nodup){t:Tm}:t∈m↔Dj m t.path=some t:=by
 constructor
 .induction m<;>grind [ET,EE]
 .exact G1
theorem MG{m:List Tm}(h:(ET m).Nodup):m.Nodup:=by
 unfold ET at h
 induction m<;>grind
theorem H9{l:List Tm}{lo:Option ByteArray}(h:BM lo l):(ET l).Nodup:=by
 unfold ET
 induction l generalizing lo with
 |nil=>simp_all
 |cons t l ih=>
  rw[Bv,GK];refine⟨fun hm=>?_,ih h.2.2⟩;obtain⟨u,hu,e⟩:=Ar.1 hm
  have:=h.2.2.low u hu
  grind [DQ]
theorem Ji:t∈Ds l↔t∈CX l:=by
 grind [Ru,H3,bz,H9,DE]
theorem Pq:∀t∈Ds l,Er t.set:=fun t ht=>(DE l).canon t ((Ji l t).1 ht)
theorem jj(m:List Tm)(t:Tm):(stepT m t).length<=m.length+1:=by
 grind [stepT,XP]
theorem Om:∀i,i<=l.length->(Ds (l.take i)).length<=i:=by
 intro i
 induction i<;>grind [Ds,RC,jj]
theorem cR(hs:s.Pairwise fun x y=>Fp x.path y.path=true)(hc:∀t∈s,Er t.set):BM none s:=by
 have:∀(s:List Tm) (lo:Option ByteArray),s.Pairwise (fun x y=>Fp x.path y.path=true)->(∀t∈s,Er t.set)->(∀p,lo=some p->∀t∈s,Fp p t.path=true)->BM lo s:=by
  intro s
  induction s with
  |nil=>intro _ _ _ _;trivial
  |cons t s ih=>
   intro lo hs hc hl;obtain⟨h1,h2⟩:=Dn.1 hs;exact⟨fun p e=>hl p e t (Ah ..),hc t (Ah ..),ih _ h2 (fun u hu=>hc u (Ai _ hu)) fun p e u hu=>by simp_all⟩
 simp_all
theorem Qd{l:List Tm}(q:Tm->Bool)(hp:s.Perm ((Ds l).filter q))(hs:s.Pairwise fun x y=>Fp y.path x.path=false):s=(CX l).filter q:=by
 have hm:∀t,t∈s↔t∈(CX l).filter q:=fun t=>by
  grind [Ji]
 have Sh:(ET s).Nodup:=by
  grind [ET,H3]
 have Gw:s.Pairwise fun x y=>Fp x.path y.path=true:=by
  grind [List.pairwise_iff_getElem,JW,ET]
 have hss:BM none s:=cR Gw fun t ht=>(DE l).canon t (B6.1 ((hm t).1 ht)).1;have gN:BM none ((CX l).filter q):=BM.filter q (DE l)
 grind [MV,Dj,GT]
theorem aZ:EB t t=Dc t:=by grind [EB,Dc,bW]
theorem eO(o:Option Tm)(t:Tm):RX o t=EB (o.getD t) t:=by cases o with | none=>exact(aZ t).symm | some u=>rfl
theorem fB{t:Tm}(h:Er t.set):(t.absent&&(BU t.set).isEmpty)=FB t:=by
 unfold FB
 congr 1
 rw[Dh,L0,A8];have ha:Er [(0,1000000)]:=⟨Ce _,by omega,Ce _,trivial⟩;constructor
 .intro e;refine FC h ha fun p=>?_
  have:=Fx t.set p
  grind [has,Pj,BP]
 grind [QC,GP,Fx,has,BP]
theorem mn{t:Tm}(h:Er t.set):(!t.absent&&(canon t.set).isEmpty)=F4 t:=by grind [F4,Jp]
end Go.Eng
namespace Go.Eng
open Go.Lib
theorem QU(c:UInt8):∀(s:List UInt8) (k:Nat),s.count c<=k->splitK [c] 0 k s=CA c s
 | [],k,_=>by
  cases k with
  |zero=>rfl
  |succ k=>rfl
 |b::r,k,h=>by
  rw[CA]
  by_cases e:b=c
  .subst e;rw[List.count_cons_self]at h;obtain⟨k',rfl⟩:∃k',k=k'+1:=⟨k-1,by omega⟩;rw[AX rfl,splitK,index_one,indexByte];simp only[beq_self_eq_true,if_true];rw[AI aa2];show []::splitK [b] 0 k' r=_;rw[QU b r k' aa0]
  .have D8:(b == c)=false:=by simp_all
   rw[List.count_cons_of_ne aa0]at h;have ih:=QU c r k h;rw[AI e];cases k with
   |zero=>
    rw[<-ih];rfl
   |succ k=>
    rw[<-ih,splitK,splitK,index_one,index_one,indexByte,D8]
    by_cases h0:indexByte r c=-1
    .simp_all
    .have h1:(indexByte r c == -1)=false:=by simp_all
     have h2:=indexByte_ge r c;have h3:(indexByte r c+1 == -1)=false:=by grind
     simp only[OJ,if_false,h1,h3];obtain⟨i,hi⟩:∃i:Nat,indexByte r c=i:=⟨(indexByte r c).toNat,by omega⟩<;>simp_all
theorem Yx(c:UInt8):∀(n:Nat) (s:List UInt8),s.length<=n->count s [c]=s.count c
 |n,s,hn=>by
  rcases Int.lt_or_le (indexByte s c) 0 with h | h
  .have h2:=indexByte_ge s c;have h3:indexByte s c=-1:=by omega
   rw[count_miss (by grind [index_one])]
   symm
   rw[List.count_eq_zero];intro hm;obtain⟨k,hk,e⟩:=He hm;exact indexByte_none h3 k (by simp_all)
  .obtain⟨i,hi⟩:∃i:Nat,indexByte s c=i:=⟨(indexByte s c).toNat,by omega⟩;obtain⟨h1,h2⟩:=indexByte_some hi;obtain⟨hl,hg⟩:=Bb.1 h1;cases n with
   |zero=>omega
   |succ n=>
    have hc:=count_hit (s:=s) (sub:=[c]) (i:=i) aa1 (by grind [index_one]);rw[hc];have ih:=Yx c n (s.drop (i+1)) (by grind);have vw:s=s.take i++c::s.drop (i+1):=by
     grind [List.drop_eq_getElem_cons,List.take_append_drop]
    grind [List.count_eq_zero,List.getElem_of_mem]
theorem jf(s:ByteArray)(c:UInt8):((splitB ⟨#[c]⟩ 0 (countB s ⟨#[c]⟩) s).map (·.data.toList))=CA c s.data.toList:=by
 rw[splitB_data];refine QU c _ _ ?_;show _<=count s.data.toList [c];rw[Yx c _ _ (Ao _)];omega
end Go.Eng
namespace Go.Eng
variable {p:ByteArray}{roots:List Rq}{x:List Rl}{t:List Tm}{D:List Sl}{U:List ByteArray}{d:List (List Tm)}{l b:List Tm}{S:List Sl}{k:Nat}{v v':Ver}{q:Rq}
theorem Wl{α:Type}:∀{l m:List α},l.Nodup->(∀x∈l,x∈m)->l.length<=m.length
 | [],_,_,_=>Ap _
 |a::l,m,hn,hs=>by
  obtain⟨h1,h2⟩:=GK.1 hn;obtain⟨s,t,rfl⟩:=List.append_of_mem (hs a (Ah ..))
  have:l.length<=(s++t).length:=Wl h2 fun x hx=>by
   grind
  grind
theorem LQ(p:ByteArray):∀(l:List Tm) (o:Option Tm),(∀u∈l,u.path≠p)->l.foldl (Kf p) o=o
 | [],_,_=>rfl
 |t::l,o,h=>by
  rw[GJ,show Kf p o t=o by grind [Kf]];exact LQ p l o fun u hu=>h u (Ai _ hu)
theorem cj{t:Tm}(h:t∈CX l):∃u∈l,u.path=t.path:=by
 grind [GT,DE,Ja,LQ]
def PU(U:List ByteArray)(t:List Tm):Prop:=BM none t/\∀u∈t,u.path∈U
theorem PU.len(h:PU U t):t.length<=U.length:=by
 have:=Wl (H9 h.1) (m:=U) fun p hp=>by
  obtain⟨u,hu,rfl⟩:=Ar.1 hp;exact h.2 u hu
 grind [ET]
theorem bf{c:List Tm}(h:A3 l=some c){t:Tm}(ht:t∈c):t∈CX l:=by
 grind [A3]
theorem Qc{c:List Tm}(h:A3 l=some c)(hu:∀u∈l,u.path∈U):PU U c:=
 ⟨EZ h,fun t ht=>by
  obtain⟨u,h1,h2⟩:=cj (bf h ht)<;>grind⟩
theorem PU.nil(U:List ByteArray):PU U []:=⟨trivial,fun u hu=>by cases hu⟩
theorem Ul(hu:∀u∈l,u.path∈U):PU U (BT l):=by
 grind [BT,A3,Qc,PU.nil]
theorem RI{a:List Tm}(ha:PU U a)(hb:PU U b):PU U (AQ a b p).1:=by
 have sp:∀{l r:List Tm} {t:Tm},PU U l->DS l p=some (t,r)->t.path∈U/\∀u∈r,u.path∈U:=by
  intro l r t hl h;unfold DS at h;cases e:A3 l with
  |none=>simp_all
  |some c=>
   rw[e]at h;have h:(match Dj c p with | none=>none | some t=>some (t,AE c p))=some (t,r):=h;have hc:=Qc e hl.2;cases e2:Dj c p with
   |none=>simp_all
   |some u=>
    rw[e2]at h;cases h;exact⟨hc.2 _ (G1 e2),fun u hu=>hc.2 u (B6.1 hu).1⟩
 unfold AQ;split
 .rename_i t r u m e1 e2;obtain⟨a1,a2⟩:=sp ha e1;obtain⟨b1,b2⟩:=sp hb e2;split
  .rename_i o e3;refine Qc e3 fun v hv=>?_;rcases Bc.1 hv with hv | hv
   .grind
   .rw[AD.1 hv];exact a1
  .exact .nil U
 .exact .nil U
def Hc(x:List Rl)(roots:List Rq)(l:List Nf):List ByteArray:=(x.map (·.path))++((x.map (·.reqs)).flatten.map (·.path)++(roots.map (·.path)++l.map (·.path)))
theorem M5{l:List Nf}{i:Nf}(hi:i∈l)(hd:∀t∈d,PU (Hc x roots l) t)(h:AM x roots d i=some t):PU (Hc x roots l) t:=by
 have hp:i.path∈Hc x roots l:=by
  grind [Hc]
 have nz:∀{α:Type} {l:List α} {k:Int} {a:α},DG l k=some a->a∈l:=by
  grind [DG]
 have n0:∀{a b:List Tm},Oo a=some b->b=a:=by
  grind [Oo]
 unfold AM at h;split at h
 .split at h
  .cases e:DG roots i.number with
   |none=>simp_all
   |some q=>
    rw[e]at h;cases h;refine Ul fun u hu=>?_;rw[AD.1 hu];unfold Hc;exact B8 _ (B8 _ (Bw _ (Ar.2 ⟨q,nz e,rfl⟩)))
  simp_all
 split at h
 .split at h
  .cases e:Di x i.path i.place with
   |none=>simp_all
   |some r=>
    rw[e]at h;have h:(match DG r.reqs i.number with | none=>none | some q=>Oo (BJ i.path i.place q))=some t:=h;cases e2:DG r.reqs i.number with
    |none=>simp_all
    |some q=>
     rw[e2]at h;have h:=n0 (show Oo (BJ i.path i.place q)=some t from h);subst h;refine Ul fun u hu=>?_;rcases AF.1 hu with rfl | hu
     .exact hp
     .rw[AD.1 hu];unfold Hc;refine B8 _ (Bw _ (Ar.2 ⟨q,?_,rfl⟩));exact Fk.2 ⟨r.reqs,Ar.2 ⟨r,Bn e,rfl⟩,nz e2⟩
  simp_all
 split at h
 .split at h
  .have h:=n0 h;subst h;refine Ul fun u hu=>?_;simp_all
  simp_all
 grind [RI]
structure Cd where
 place:Int
 rel:Rl
variable {c:Cd}{E:List Cd}
structure Nd where
 rq:Rq
 path:ByteArray
 place:Int
 number:Int
variable (n:Nd)
structure SS where
 infs:List Nf
 drv:List (List Tm)
 full:Bool
variable {s':SS}(s:SS)
abbrev Qs(c:Cd):Sl:=⟨c.rel.path,c.rel.ver⟩
abbrev Au(l:List Cd):List Sl:=l.map Qs
def Be(x:List Rl)(p:ByteArray):List Cd:=(x.filter fun r=>decide (r.path=p)&&!r.yanked).map fun r=>⟨plc r.ver,r⟩
def MI(f:Rq->Nat->Nd):Nat->List Rq->List Nd
 |_,[]=>[]
 |i,q::l=>f q i::MI f (i+1) l
def am(roots:List Rq):List Nd:=MI (fun q i=>⟨q,mt,0,i⟩) 0 roots
def QI(c:Cd):List Nd:=MI (fun q i=>⟨q,c.rel.path,c.place,i⟩) 0 c.rel.reqs
def CY(roots:List Rq)(dec:List Cd):List Nd:=am roots++(dec.map QI).flatten
def Dv(dec:List Cd)(p:ByteArray):Bool:=dec.any fun c=>decide (c.rel.path=p)
def Ep(dec:List Cd)(a:ByteArray×List Nd)(n:Nd):ByteArray×List Nd:=
 if Dv dec n.rq.path=true\/(a.2≠[]/\Fp a.1 n.rq.path=true)then a
 else if a.2≠[]/\Fp n.rq.path a.1=true then(n.rq.path,[n])else(n.rq.path,a.2++[n])
def D5(roots:List Rq)(dec:List Cd):ByteArray×List Nd:=(CY roots dec).foldl (Ep dec) (mt,[])
def d5(l:List Cd)(n:Nd):Bool:=l.any fun d=>decide (d.rel.path=n.rq.path)&&!has n.rq.set d.place
def Dq(dec:List Cd)(c:Cd):Option Nd:=(QI c).find? (d5 (dec++[c]))
def O4(s:List Sl):Nat->List (List Tm)->Option Nat
 |_,[]=>none
 |i,t::l=>if Bm t s then some i else O4 s (i+1) l
def N2(d:List (List Tm))(s:List Sl):Option Nat:=O4 s 0 d
def DC(l:List Tm)(p:ByteArray):Bool:=l.any fun t=>decide (t.path=p)
instance:DecidableEq Nf:=fun a b=>by
 obtain⟨a1,a2,a3,a4,a5,a6⟩:=a;obtain⟨b1,b2,b3,b4,b5,b6⟩:=b;exact decidable_of_iff (a1=b1/\a2=b2/\a3=b3/\a4=b4/\a5=b5/\a6=b6) ⟨fun⟨h1,h2,h3,h4,h5,h6⟩=>by simp_all,fun h=>by simp_all⟩
def Mb(i:Nf):Nat->List Nf->Option Nat
 |_,[]=>none
 |k,j::l=>if j=i then some k else Mb i (k+1) l
def Eb(i:Nf)(l:List Tm):Nat×SS:=
 match Mb i 0 s.infs with
 |some k=>(k,s)
 |none=>if 65536<=s.infs.length then(s.infs.length-1,⟨s.infs,s.drv,true⟩)else(s.infs.length,⟨s.infs++[i],s.drv++[l],s.full⟩)
def Pl:Nf:=if n.path=mt then⟨0,mt,0,n.number,0,0⟩else⟨1,n.path,n.place,n.number,0,0⟩
def Ik:List Tm:=if n.path=mt then GF n.rq else BJ n.path n.place n.rq
def By(n:Nd):Nat×SS:=Eb s (Pl n) (Ik n)
abbrev Em(k:Nat):List Tm:=s.drv.getD k []
def B4(p:ByteArray):List Nat->Nat->SS->Nat×SS
 | [],k,s=>(k,s)
 |r::l,k,s=>
  if s.full=true\/DC (Em s k) p=false then(k,s)
  else if r=k then B4 p l k s
  else if(AQ (Em s k) (Em s r) p).2≠0 then B4 p l k s
  else B4 p l (Eb s ⟨3,p,0,0,k,r⟩ (AQ (Em s k) (Em s r) p).1).1 (Eb s ⟨3,p,0,0,k,r⟩ (AQ (Em s k) (Em s r) p).1).2
def Et(x:List Rl)(p:ByteArray)(s:SS):Nat×SS:=Eb s ⟨2,p,0,0,0,0⟩ (D6 p (A4 x p))
def Dx(x:List Rl)(p:ByteArray)(n:Nd)(reasons:List Nat)(s:SS):Nat×SS:=
 B4 p ((Et x p (By s n).2).1::reasons) (By s n).1 (Et x p (By s n).2).2
structure Ku where
 res:Nat
 found:Bool
 ss:SS
 dec:List Cd
 stack:List (List Sk)
def DR(rec:List Cd->SS->List (List Sk)->Ku)(x:List Rl)(p:ByteArray)(needs:List Nd)(n0:Nd)(dec:List Cd)(stack:List (List Sk)):List Cd->SS->List Nat->List Sk->Ku
 | [],s,reasons,_=>⟨(Dx x p n0 reasons s).1,false,(Dx x p n0 reasons s).2,dec,stack⟩
 |c::cs,s,reasons,skips=>
  let after (k:Nat) (s:SS):Ku:=if DC (Em s k) p=false then⟨k,false,s,dec,stack⟩else DR rec x p needs n0 dec stack cs s (reasons++[k]) (skips++[⟨p,c.place,k⟩])
  if s.full=true then⟨0,false,s,dec,stack⟩
  else match needs.find? fun n=>!has n.rq.set c.place with
   |some n=>DR rec x p needs n0 dec stack cs (By s n).2 (reasons++[(By s n).1]) skips
   |none=>match N2 s.drv (Au (dec++[c]))with
    |some k=>after k s
    |none=>match Dq dec c with
     |some n=>after (By s n).1 (By s n).2
     |none=>
      let o:=rec (dec++[c]) s (stack++[skips])
      if o.found=true then⟨0,true,o.ss,o.dec,o.stack⟩
      else if o.ss.full=true then⟨0,false,o.ss,dec,stack⟩
      else after o.res o.ss
def Cz(x:List Rl)(roots:List Rq):Nat->List Cd->SS->List (List Sk)->Ku
 |0,dec,s,stack=>⟨0,false,s,dec,stack⟩
 |n+1,dec,s,stack=>match(D5 roots dec).2 with
  | []=>⟨0,true,s,dec,stack⟩
  |n0::l=>DR (Cz x roots n) x (D5 roots dec).1 (n0::l) n0 dec stack (Be x (D5 roots dec).1) s [] []
abbrev JT:SS:=⟨[],[],false⟩
def FK(x:List Rl)(dec:List Cd):Nat:=(x.filter fun r=>!r.yanked&&!Dv dec r.path).length
def EX(x:List Rl)(roots:List Rq):Ku:=Cz x roots (x.length+1) [] JT []
theorem PA(f:Rq->Nat->Nd):∀(l:List Rq) (i k:Nat),(MI f i l)[k]?=(l[k]?).map fun q=>f q (i+k)
 | [],i,k=>by simp[MI]
 |q::l,i,0=>by simp[MI]
 |q::l,i,k+1=>by
  have h:=PA f l (i+1) k
  grind [MI]
theorem MJ(f:Rq->Nat->Nd):∀(l:List Rq) (i:Nat),(MI f i l).length=l.length
 | [],_=>rfl
 |_::l,i=>by simp[MI,MJ f l (i+1)]
theorem PB{f:Rq->Nat->Nd}{l:List Rq}{n:Nd}(h:n∈MI f 0 l):∃k q,l[k]?=some q/\n=f q k:=by
 grind [List.mem_iff_getElem?,PA]
theorem Ss{f:Rq->Nat->Nd}(hf:∀q i,(f q i).rq=q):∀(l:List Rq) (i:Nat),(MI f i l).map (·.rq)=l
 | [],_=>rfl
 |q::l,i=>by simp[MI,hf,Ss hf l (i+1)]
abbrev GY(roots:List Rq)(dec:List Cd):List Rq:=roots++(dec.map fun c=>c.rel.reqs).flatten
theorem Im(roots:List Rq)(dec:List Cd):(CY roots dec).map (·.rq)=GY roots dec:=by
 unfold CY am;rw[BD,Ss (fun _ _=>rfl),List.map_flatten,B2]
 congr 2
 exact Cg fun c _=>Ss (fun _ _=>rfl) _ _
theorem GQ(dec:List Cd)(p:ByteArray):BS (Au dec) p=Dv dec p:=by
 grind [BS,Dv,List.any_map]
theorem Jz(before:List Sl):∀{l:List Rq} {a p:ByteArray},CE before l (some a)=some p->p=a\/Fp p a=true
 | [],a,p,h=>by cases h<;>simp_all
 |q::l,a,p,h=>by
  unfold CE at h;split at h
  .exact Jz before h
  .dsimp only at h;split at h
   .rename_i hb;rcases Jz before h with e | e<;>grind [E5]
   .exact Jz before h
theorem II(before:List Sl):∀{l:List Rq} {a:ByteArray},CE before l (some a)≠none
 | [],a=>by simp[CE]
 |q::l,a=>by
  unfold CE;split
  .exact II before
  .dsimp only;split<;>exact II before
theorem Nh(dec:List Cd):∀(L:List Nd) (a:ByteArray×List Nd),(a.2≠[]->Dv dec a.1=false) ->
  L.foldl (Ep dec) a=match CE (Au dec) (L.map (·.rq)) (if a.2=[]then none else some a.1)with
   |none=>a
   |some p=>(p,(if a.2≠[]/\a.1=p then a.2 else [])++L.filter fun n=>decide (n.rq.path=p))
 | [],a,h=>by
  grind [CE]
 |n::L,a,h=>by
  obtain⟨p0,o⟩:=a;rw[GJ,Bv];have Af8:∀(acc:Option ByteArray) (l:List Rq),(∀p,acc=some p->Dv dec p=false)->∀p,CE (Au dec) l acc=some p->Dv dec p=false:=fun acc l ha p hp=>by
   grind [Kb,GQ]
  cases hd:Dv dec n.rq.path with
  |true=>
   have e1:Ep dec (p0,o) n=(p0,o):=by grind [Ep]
   have e2:CE (Au dec) (n.rq::L.map (·.rq)) (if o=[]then none else some p0)=CE (Au dec) (L.map (·.rq)) (if o=[]then none else some p0):=by
    grind [CE,GQ]
   rw[e1,e2,Nh dec L (p0,o) h];dsimp only;cases hg:CE (Au dec) (L.map (·.rq)) (if o=[]then none else some p0)<;>grind [CE]
  |false=>
   have Sh:BS (Au dec) n.rq.path=false:=by grind [GQ]
   by_cases ho:o=[]
   .subst ho;have e1:Ep dec (p0,[]) n=(n.rq.path,[n]):=by
     grind [Ep]
    have e2:CE (Au dec) (n.rq::L.map (·.rq)) none=CE (Au dec) (L.map (·.rq)) (some n.rq.path):=by
     grind [CE]
    rw[e1,Nh dec L (n.rq.path,[n]) (fun _=>hd),AX rfl,e2]
    grind [II]
   .have hif:(if o=[]then none else some p0)=some p0:=AI ho;rw[hif];cases hb:Fp p0 n.rq.path with
    |true=>
     have e1:Ep dec (p0,o) n=(p0,o):=by grind [Ep]
     have nZ:Fp n.rq.path p0=false:=fN hb;have e2:CE (Au dec) (n.rq::L.map (·.rq)) (some p0)=CE (Au dec) (L.map (·.rq)) (some p0):=by
      grind [CE]
     rw[e1,e2,Nh dec L (p0,o) h]
     grind [Jz]
    |false=>
     cases nZ:Fp n.rq.path p0 with
     |true=>
      have e1:Ep dec (p0,o) n=(n.rq.path,[n]):=by
       grind [Ep]
      have e2:CE (Au dec) (n.rq::L.map (·.rq)) (some p0)=CE (Au dec) (L.map (·.rq)) (some n.rq.path):=by
       grind [CE]
      rw[e1,e2,Nh dec L (n.rq.path,[n]) (fun _=>hd),AI aa1]
      grind [II,Jz]
     |false=>
      have e0:n.rq.path=p0:=JW nZ hb;have e1:Ep dec (p0,o) n=(p0,o++[n]):=by
       grind [Ep]
      have e2:CE (Au dec) (n.rq::L.map (·.rq)) (some p0)=CE (Au dec) (L.map (·.rq)) (some p0):=by
       grind [CE]
      rw[e1,e2,Nh dec L (p0,o++[n]) (fun _=>by simp_all),AI aa1];cases hg:CE (Au dec) (L.map (·.rq)) (some p0)<;>grind [II]
theorem Ud(roots:List Rq)(dec:List Cd):D5 roots dec=match DF (GY roots dec) (Au dec)with
  |none=>(mt,[])
  |some p=>(p,(CY roots dec).filter fun n=>decide (n.rq.path=p)):=by
 grind [D5,DF,Nh,Im]
theorem Ue{dec:List Cd}:(D5 roots dec).2=[]↔DF (GY roots dec) (Au dec)=none:=by
 rw[Ud];cases h:DF (GY roots dec) (Au dec)with
 |none=>simp
 |some p=>
  simp only[reduceCtorEq,iff_false];obtain⟨_,q,hq,e⟩:=In h;rw[<-Im]at hq;obtain⟨n,hn,rfl⟩:=Ar.1 hq;exact List.ne_nil_of_mem (B6.2 ⟨hn,by simp_all⟩)
structure X8(roots:List Rq)(dec:List Cd)(p:ByteArray)(l:List Nd):Prop where
 next:DF (GY roots dec) (Au dec)=some p
 undone:Dv dec p=false
 mem:∀n,n∈l↔n∈CY roots dec/\n.rq.path=p
theorem JA{dec:List Cd}{n0:Nd}{l:List Nd}(h:(D5 roots dec).2=n0::l):X8 roots dec (D5 roots dec).1 (n0::l):=by
 rw[<-h];rw[Ud]at *
 cases hp:DF (GY roots dec) (Au dec)with
 |none=>simp_all
 |some p=>
  dsimp only;refine⟨hp,by rw[<-GQ];grind [In],fun n=>?_⟩
  grind
theorem K9:c∈Be x p↔∃r∈x,r.path=p/\r.yanked=false/\c=⟨plc r.ver,r⟩:=by
 grind [Be]
theorem No{i:Nf}:∀{l:List Nf} {k m:Nat},Mb i k l=some m->∃j,m=k+j/\l[j]?=some i
 | [],_,_,h=>by cases h
 |y::l,k,m,h=>by
  unfold Mb at h;split at h
  .simp_all
  .obtain⟨j,h1,h2⟩:=No h;exact⟨j+1,by omega,h2⟩
theorem QF{i:Nf}:∀{l:List Nf} {k:Nat},Mb i k l=none->i∉l
 | [],_,_=>by simp
 |y::l,k,h=>by
  unfold Mb at h;split at h
  .cases h
  .rename_i e
   have:=QF h
   grind
theorem ZR{α:Type}{d d' : List α}{i:Int}{a:α}(h:DG d i=some a)(hp:d <+: d'):DG d' i=some a:=by
 unfold DG at *
 split at h
 .cases h
 .rename_i hi;rw[AI hi];obtain⟨t,rfl⟩:=hp<;>grind
theorem Zm{d':List (List Tm)}{i:Nf}{o:List Tm}(h:AM x roots d i=some o)(hp:d <+: d'):AM x roots d' i=some o:=by
 grind [AM,ZR]
structure EJ(x:List Rl)(roots:List Rq)(s:SS):Prop where
 der:BH x roots s.infs []=some s.drv
 len:s.infs.length<=65536
theorem EJ.dlen{s:SS}(h:EJ x roots s):s.drv.length=s.infs.length:=by simpa using HW h.der
theorem EJ.nil(x:List Rl)(roots:List Rq):EJ x roots JT:=⟨rfl,by simp⟩
theorem EJ.at{x:List Rl}{roots:List Rq}{s:SS}(h:EJ x roots s){k:Nat}{i:Nf}(hk:s.infs[k]?=some i):AM x roots s.drv i=some (s.drv.getD k []):=by
 have h1:=Kj h.der (k+1);have h0:=Kj h.der k;have E1:=(Bb.1 hk).1;rw[Ck,hk,Fw,h0]at h1
 grind [BH,List.take_succ_eq_append_getElem,List.append_cancel_left,Zm]
structure Grow(s s' : SS):Prop where
 pre:s.drv <+: s'.drv
 preI:s.infs <+: s'.infs
 full:s.full=true->s'.full=true
theorem Grow.refl:Grow s s:=⟨List.prefix_rfl,List.prefix_rfl,id⟩
theorem Grow.trans{a b c:SS}(h:Grow a b)(k:Grow b c):Grow a c:=⟨h.pre.trans k.pre,h.preI.trans k.preI,fun e=>k.full (h.full e)⟩
theorem Grow.at{s:SS}(h:Grow s s')(hk:k<s.drv.length):Em s' k=Em s k:=by
 obtain⟨t,e⟩:=h.pre<;>grind
theorem Grow.len{s:SS}(h:Grow s s'):s.drv.length<=s'.drv.length:=h.pre.length_le
theorem Kw(i:Nf)(l:List Tm):Grow s (Eb s i l).2:=by
 grind [Eb,Grow.mk]
theorem Kv{s:SS}(h:EJ x roots s){i:Nf}(hi:AM x roots s.drv i=some l) :
  EJ x roots (Eb s i l).2/\(Eb s i l).1<(Eb s i l).2.drv.length/\((Eb s i l).2.full=false->Em (Eb s i l).2 (Eb s i l).1=l):=by
 grind [Eb,No,BH,Fw,EJ.dlen,EJ.at,EJ.mk,EJ.der,EJ.len]
theorem aP(i:Nf)(l:List Tm):(Eb s i l).2.infs.length<=s.infs.length+1:=by
 grind [Eb]
theorem Yd{s:SS}(i:Nf)(l:List Tm)(hf:s.full=false)(hc:s.infs.length<65536):(Eb s i l).2.full=false:=by
 grind [Eb]
theorem Tg(S:List Sl):∀{l:List (List Tm)} {i k:Nat},O4 S i l=some k->∃j,k=i+j/\∃t,l[j]?=some t/\Bm t S=true
 | [],_,_,h=>by cases h
 |t::l,i,k,h=>by
  unfold O4 at h;split at h
  .simp_all
  .obtain⟨j,h1,t',h2,h3⟩:=Tg S h;exact⟨j+1,by omega,t',h2,h3⟩
theorem KC(h:N2 d S=some k):k<d.length/\Bm (d.getD k []) S=true:=by
 obtain⟨j,h1,t,h2,h3⟩:=Tg S h<;>grind
theorem Mm:∀{l:List Rq} {b:Option ByteArray},D2 b l=0->∀q∈l,q.set≠[]/\Er q.set
 | [],_,_,q,hq=>by cases hq
 |r::l,b,h,q,hq=>by
  unfold D2 at h;split at h
  .rename_i e;rcases AF.1 hq with rfl | hq
   .unfold Hd at e
    grind [BG]
   .exact Mm h q hq
  omega
theorem La{l:List Rq}(h:AL l=0):∀q∈l,q.set≠[]/\Er q.set:=by
 grind [AL,Mm]
abbrev cZ(k:Int):Ver:=⟨0,k / 1000,k % 1000⟩
theorem Hw(k:Int):place (cZ k)=k:=by grind [place]
theorem Ff{k:Int}(h:0<=k/\k<1000000):BK (cZ k)=true:=by
 grind [BK,okPart]
structure UZ(D:List Sl)(p:ByteArray)(S:List Sl):Prop where
 val:Gt S
 same:∀q,q≠p->AB S q=AB D q
abbrev ML(D:List Sl)(p:ByteArray)(v:Ver):List Sl:=D++[⟨p,v⟩]
theorem Vd(a b:List Sl)(p:ByteArray):AB (a++b) p=(AB a p).or (AB b p):=by
 grind [AB]
theorem HZ{s:List Sl}(h:BS s p=false):AB s p=none:=by
 grind [J5,AB]
theorem UZ.self(h:Gt D):UZ D p D:=⟨h,fun _ _=>rfl⟩
theorem UZ.ver(h:Gt D)(hv:BK v=true):UZ D p (ML D p v):=by
 refine⟨fun y hy=>?_,fun q hq=>?_⟩
 .rcases Bc.1 hy with hy | hy
  .exact h y hy
  simp_all
 grind [AB]
theorem Jl(hp:BS D p=false)(v:Ver):AB (ML D p v) p=some ⟨p,v⟩:=by
 grind [Vd,HZ,AB]
theorem Y7(hp:BS D p=false)(hv:BK v=true)(hv' : BK v'=true)(e:place v=place v')(q:ByteArray)(t:Tm) :
  CW t (AB (ML D p v) q)=CW t (AB (ML D p v') q):=by
 by_cases hq:q=p
 .subst hq;rw[Jl hp,Jl hp];show(BK v&&has t.set (place v))=(BK v'&&has t.set (place v'));simp_all
 grind [AB]
theorem cY(hp:BS D p=false)(hv:BK v=true)(hv' : BK v'=true)(e:place v=place v')(t:List Tm):AT t (ML D p v)=AT t (ML D p v'):=by
 grind [Bq,Y7]
theorem K5{S':List Sl}(h:UZ D p S)(h' : UZ D p S')(ht:∀u∈t,u.path≠p):AT t S=AT t S':=by
 rw[Dh,Bq,Bq];exact⟨fun k u hu=>by rw[h'.same _ (ht u hu),<-h.same _ (ht u hu)];simp_all,fun k u hu=>by rw[h.same _ (ht u hu),<-h'.same _ (ht u hu)];simp_all⟩
theorem JX(h:DC t p=false):∀u∈t,u.path≠p:=fun u hu e=>by
 grind [DC]
theorem S8(h:DC t p=true):∃u∈t,u.path=p:=by
 grind [DC]
theorem UV(hf:Form t)(hc:DC t p=true):∃u r,DS t p=some (u,r)/\u.path=p/\∀v∈r,v.path≠p:=by
 obtain⟨u,hu,e⟩:=S8 hc;have hs:=EZ hf;have zw:=(GT hs).1 hu;rw[e]at zw;refine⟨u,AE t p,?_,e,fun v hv=>?_⟩
 .unfold DS;rw[show A3 t=some t from hf];simp_all
 .have:=(B6.1 hv).2
  simp_all
theorem XU(vl:Form t)(n8:Form b)(hct:DC t p=true)(xw:DC b p=true){S1 S2:List Sl}(h1:UZ D p S1)(v1:AT t S1=true)(h2:UZ D p S2)(v2:AT b S2=true) :
  (AQ t b p).2=0/\∀S,UZ D p S->AT t S=true\/AT b S=true->AT (AQ t b p).1 S=true:=by
 obtain⟨u,r,e1,pu,nr⟩:=UV vl hct;obtain⟨w,m,e2,pw,nm⟩:=UV n8 xw;have key:∀S,UZ D p S->AT t S=true\/AT b S=true->AT (r++m++[CG u w]) S=true:=fun S hS hv=>by
  have r1:AT r S=true:=by
   rw[K5 hS h1 nr];rw[(GZ h1.val e1).1,Aj]at v1;simp_all
  have m1:AT m S=true:=by
   rw[K5 hS h2 nm];rw[(GZ h2.val e2).1,Aj]at v2;simp_all
  rw[Hq,Hq,r1,m1]
  grind [Bq,CG,NM,GZ,UZ.val]
 unfold AQ
 grind [Da,UZ.val]
theorem my(hp:BS D p=false)(hf:Form t)(h0:AT t D=true)(hk:∀k:Int,0<=k->k<1000000->AT t (ML D p (cZ k))=true):DC t p=false:=by
 rw[A2];intro hc;obtain⟨u,hu,e⟩:=S8 hc;have ha:u.absent=true:=by
  have:=Bq.1 h0 u hu
  rw[e,HZ hp]at this;exact this
 have hs:∀k:Int,0<=k->k<1000000->has u.set k=true:=fun k k0 k1=>by
  grind [Bq,Jl,CW,Hw]
 have zu:Er u.set:=BM.canon (EZ hf) u hu;have rJ:u.set=[(0,1000000)]:=by
  refine FC zu ⟨by decide,by decide,by decide,trivial⟩ fun k=>?_;rw[Dh];constructor
  .intro h
   have:=N9 h
   grind [has,BP]
  grind [N9]
 have hal:FB u=true:=by grind [FB]
 have hf2:A3 t=some t:=hf
 grind [A3]
structure Dp(x:List Rl)(dec:List Cd):Prop where
 cand:∀c∈dec,c.rel∈x/\c.rel.yanked=false/\c.place=plc c.rel.ver
 nodup:(dec.map fun c=>c.rel.path).Nodup
theorem Dp.nil(x:List Rl):Dp x []:=⟨fun _ h=>(by cases h),Kt⟩
theorem Uo{r:Rl}(h:JP r):r.path≠mt:=fun e=>by
 have:=h.maj
 rw[e]at this;have h2:Bj mt=none:=by decide
 simp_all
theorem JP.set{r:Rl}(h:JP r):∀q∈r.reqs,q.set≠[]/\Er q.set:=La h.reqs
theorem Jv(dec:List Cd):(Au dec).map (·.path)=dec.map fun c=>c.rel.path:=by simp_all
theorem Ts:∀{D:List Sl},(D.map (·.path)).Nodup->∀{y:Sl},y∈D->AB D y.path=some y
 | [],_,y,h=>by cases h
 |z::D,hn,y,h=>by
  simp only[Bv,GK]at hn;unfold AB;rw[HQ];rcases AF.1 h with rfl | h
  .simp_all
  .have:z.path≠y.path:=fun e=>hn.1 (Ar.2 ⟨y,h,e.symm⟩)
   rw[AP this];exact Ts hn.2 h
theorem Dp.find{dec:List Cd}(h:Dp x dec)(hc:c∈dec):AB (Au dec) c.rel.path=some (Qs c):=
 Ts (by rw[Jv];exact h.nodup) (y:=Qs c) (Ar.2 ⟨c,hc,rfl⟩)
theorem Dp.valid(hx:Av x=0){dec:List Cd}(h:Dp x dec):Gt (Au dec):=fun y hy=>by
 obtain⟨c,hc,rfl⟩:=Ar.1 hy;exact((BC hx).1 _ (h.cand c hc).1).val
theorem Dp.snoc{dec:List Cd}(h:Dp x dec)(hc:c.rel∈x/\c.rel.yanked=false/\c.place=plc c.rel.ver)(hd:Dv dec c.rel.path=false):Dp x (dec++[c]):=by
 refine⟨fun d hd=>?_,?_⟩
 all_goals grind [Dv,Dp.cand,Dp.nodup]
theorem KP{n:Nd}(h:n∈CY roots E):(∃k q,roots[k]?=some q/\n=⟨q,mt,0,(k:Nat)⟩)\/∃c∈E,∃k q,c.rel.reqs[k]?=some q/\n=⟨q,c.rel.path,c.place,(k:Nat)⟩:=by
 unfold CY at h;rcases Bc.1 h with h | h
 .obtain⟨k,q,h1,h2⟩:=PB h<;>grind [PB]
 .obtain⟨l,hl,hn⟩:=Fk.1 h;obtain⟨c,hc,rfl⟩:=Ar.1 hl;obtain⟨k,q,h1,h2⟩:=PB hn<;>grind [PB]
theorem Ou{dec:List Cd}{n:Nd}(h:n∈CY roots dec):n∈CY roots (dec++[c]):=by
 grind [CY]
theorem Ng{dec:List Cd}{n:Nd}(h:n∈QI c):n∈CY roots (dec++[c]):=by
 grind [CY]
def Ny:List Tm:=if n.path=mt then [Du n.rq]else [⟨n.path,false,[(n.place,n.place+1)]⟩,Du n.rq]
theorem Pk:Ik n=BT (Ny n):=by grind [Ik,Ny,GF,BJ]
theorem eT{s:AH}(h:s≠[])(hc:Er s):∃k,has s k=true:=by
 match s,h,hc with
 |x::r,_,hc=>
  have:=ED.low hc x (Ah ..)
  refine⟨x.1,?_⟩
  grind [has,BP]
theorem RF{o:Option Sl}(h:o=none\/∃y,o=some y/\BK y.ver=true/\has q.set (place y.ver)=false):CW (Du q) o=true:=by
 rcases h with rfl | ⟨y,rfl,hv,hq⟩
 .rfl
 .show(BK y.ver&&has (BU q.set) (place y.ver))=true
  grind [JC,Fx,Pj]
theorem Um{y:Sl}(hq:has q.set (place y.ver)=true):CW (Du q) (some y)=false:=by
 show(BK y.ver&&has (BU q.set) (place y.ver))=false
 grind [Fx]
structure vN(x:List Rl)(roots:List Rq)(S:List Sl)(n:Nd):Prop where
 inf:∀d,AM x roots d (Pl n)=some (Ik n)
 viol:AT (Ik n) S=true
 raw:∀S',Gt S'->AT (Ik n) S'=AT (Ny n) S'
 form:Form (Ik n)
 inU:∀U:List ByteArray,(n.path≠mt->n.path∈U)->n.rq.path∈U->PU U (Ik n)
 path:n.path≠mt->BS S n.path=true
theorem Si(hx:Av x=0)(hr:AL roots=0)(hE:Dp x E){n:Nd}(hn:n∈CY roots E)(hv:AB (Au E) n.rq.path=none\/∃y,AB (Au E) n.rq.path=some y/\has n.rq.set (place y.ver)=false):vN x roots (Au E) n:=by
 have hV:=hE.valid hx;have tJ:CW (Du n.rq) (AB (Au E) n.rq.path)=true:=RF (hv.imp id fun⟨y,h1,h2⟩=>⟨y,h1,hV y (GS h1),h2⟩)
 -- the raw list is AT here,and not elsewhere
 have Od:n.rq.set≠[]/\Er n.rq.set:=by
  rcases KP hn with ⟨k,q,h1,rfl⟩ | ⟨c,hc,k,q,h1,rfl⟩
  .grind [La]
  .exact((BC hx).1 _ (hE.cand c hc).1).set q (Ax h1)
 have lL:AT (Ny n) (Au E)=true/\(n.path≠mt->BS (Au E) n.path=true):=by
  rcases KP hn with ⟨k,q,h1,rfl⟩ | ⟨c,hc,k,q,h1,rfl⟩
  .refine⟨?_,fun h=>absurd rfl h⟩;unfold Ny;rw[AX rfl,Bq];intro u hu;rw[AD.1 hu];exact tJ
  .have D8:=Uo ((BC hx).1 _ (hE.cand c hc).1);refine⟨?_,fun _=>by grind [J5,Dp.find]⟩;unfold Ny;rw[AI D8,Bq];intro u hu;rcases AF.1 hu with rfl | hu
   .show CW _ (AB (Au E) c.rel.path)=true;rw[hE.find hc];show(BK c.rel.ver&&has [(c.place,c.place+1)] (place c.rel.ver))=true;have Gv:=(BC hx).1 _ (hE.cand c hc).1;have hp:=JC Gv.val;rw[Gv.val,(hE.cand c hc).2.2,Gv.plc]
    grind [has,BP]
   .rw[AD.1 hu];exact tJ
 have Ack:∃S',Gt S'/\AT (Ny n) S'=false:=by
  unfold Ny;split
  .obtain⟨k,hk⟩:=eT Od.1 Od.2;have Y2:=N9 hk;refine⟨[⟨n.rq.path,cZ k⟩],fun y hy=>by grind [Ff],?_⟩;rw[A2];intro h
   have:=Bq.1 h (Du n.rq) (AD.2 rfl)
   grind [Du,AB,Um,Hw]
  .refine⟨[],fun y hy=>(by cases hy),?_⟩;rw[A2];intro h
   have:=Bq.1 h _ (Ah ..)
   cases this
 obtain⟨lL,xX⟩:=lL;have D8:BT (Ny n)≠[]:=by
  obtain⟨S',v',n'⟩:=Ack;have c1:=Da (l:=Ny n) hV;have c2:=Da (l:=Ny n) v';unfold BT;cases hc:A3 (Ny n)with
  |none=>simp_all
  |some c=>
   rw[hc,n']at c2;intro e;have e:c=[]:=e;rw[e]at c2;cases c2
 have x6:∀S',Gt S'->AT (Ik n) S'=AT (Ny n) S':=fun S' v=>by grind [Pk,QD]
 refine⟨fun d=>?_,by simp_all,x6,by grind [Pk,MK],fun U h1 h2=>?_,xX⟩
 .rcases KP hn with ⟨k,q,h1,rfl⟩ | ⟨c,hc,k,q,h1,rfl⟩
  .show AM x roots d (if(mt:ByteArray)=mt then⟨0,mt,0,(k:Nat),0,0⟩else _)=some (if(mt:ByteArray)=mt then GF q else _);rw[AX rfl,AX rfl];show(if mt=mt/\(0:Int)=0/\(0:Int)=0/\(0:Int)=0 then(DG roots (k:Nat)).map GF else none)=some (GF q)
   grind [DG]
  .have Gv:=(BC hx).1 _ (hE.cand c hc).1;have dS:=Uo Gv;have AhD:Di x c.rel.path c.place=some c.rel:=by
    unfold Di;cases hf:x.find? fun r=>decide (r.path=c.rel.path)&&decide (plc r.ver=c.place)with
    |none=>
     grind [Dp.cand]
    |some r=>
     have h2:=FM hf;simp only[Aj,A8]at h2;have Za:=Bn hf;have Acp:=(BC hx).1 r Za;rw[eQ (BC hx) Za (hE.cand c hc).1 h2.1 (by rw[<-Acp.plc,h2.2,(hE.cand c hc).2.2,Gv.plc])]
   grind [Pl,Ik,AM,DG,Oo,Pk]
 .rw[Pk];refine Ul fun u hu=>?_;unfold Ny at hu;split at hu
  .rw[AD.1 hu];exact h2
  .rename_i hm;rcases AF.1 hu with rfl | hu
   .simp_all
   .rw[AD.1 hu];exact h2
structure aL(D:List Sl)(U:List ByteArray)(p:ByteArray)(t:List Tm)(C:Int->Prop):Prop where
 form:Form t
 inU:PU U t
 conc:DC t p=true
 one:∃S,UZ D p S/\AT t S=true
 cov:∀k:Int,0<=k->k<1000000->C k->AT t (ML D p (cZ k))=true
structure aH(D:List Sl)(U:List ByteArray)(p:ByteArray)(t:List Tm)(C:Int->Prop):Prop where
 form:Form t
 inU:PU U t
 none_:AT t D=true
 cov:∀k:Int,0<=k->k<1000000->C k->AT t (ML D p (cZ k))=true
theorem EJ.forms{s:SS}(h:EJ x roots s):∀k,Form (Em s k):=fun k=>by
 unfold Em;rw[List.getD_eq_getElem?_getD];cases e:s.drv[k]? with
 |none=>exact Tz
 |some t=>exact NE (fun _ h=>by cases h) h.der t (Ax e)
theorem V5{r:Nat}(hk:k<d.length)(hr:r<d.length)(h0:(AQ (d.getD k []) (d.getD r []) p).2=0) :
  AM x roots d ⟨3,p,0,0,(k:Nat),(r:Nat)⟩=some (AQ (d.getD k []) (d.getD r []) p).1:=by
 grind [DG,Int.toNat_natCast,AM]
theorem Oi{x:List Rl}{roots:List Rq}{D:List Sl}{U:List ByteArray}{p:ByteArray}(hD:Gt D):∀(l:List (Nat×(Int->Prop))) {k:Nat} {s:SS} {C:Int->Prop},EJ x roots s->k<s.drv.length->(∀y∈l,y.1<s.drv.length) ->
  (s.full=false->aH D U p (Em s k) C/\∀y∈l,aL D U p (Em s y.1) y.2) ->
  EJ x roots (B4 p (l.map (·.1)) k s).2/\Grow s (B4 p (l.map (·.1)) k s).2/\(B4 p (l.map (·.1)) k s).1<(B4 p (l.map (·.1)) k s).2.drv.length /\
  ((B4 p (l.map (·.1)) k s).2.full=false->∃C',aH D U p (Em (B4 p (l.map (·.1)) k s).2 (B4 p (l.map (·.1)) k s).1) C' /\
   (DC (Em (B4 p (l.map (·.1)) k s).2 (B4 p (l.map (·.1)) k s).1) p=false\/∀j,C j\/(∃y∈l,y.2 j)->C' j))
 | [],k,s,C,hd,hk,_,hA=>⟨hd,.refl s,hk,fun hf=>⟨C,(hA hf).1,.inr fun j hj=>hj.elim id fun⟨y,hy,_⟩=>(by cases hy)⟩⟩
 |y::l,k,s,C,hd,hk,hl,hA=>by
  rw[Bv]
  by_cases h1:s.full=true\/DC (Em s k) p=false
  .grind [B4.eq_def,Grow.refl]
  simp only[not_or,LY,Rc]at h1;obtain⟨hf,TM⟩:=h1;obtain⟨nW,hA2⟩:=hA hf;have hy:=hA2 y (Ah ..);have hi:¬(s.full=true\/DC (Em s k) p=false):=by simp_all
  by_cases h2:y.1=k
  .have e:B4 p (y.1::l.map (·.1)) k s=B4 p (l.map (·.1)) k s:=by grind [B4]
   rw[e];have hA' : aH D U p (Em s k) fun j=>C j\/y.2 j:=⟨nW.form,nW.inU,nW.none_,fun j j0 j1 hj=>hj.elim (nW.cov j j0 j1) fun h=>by grind [aL.cov]⟩;obtain⟨i1,i2,i3,i4⟩:=Oi hD l hd hk (fun z hz=>hl z (Ai _ hz)) (fun _=>⟨hA',fun z hz=>hA2 z (Ai _ hz)⟩);refine⟨i1,i2,i3,fun hf=>?_⟩;obtain⟨C',j1,j2⟩:=i4 hf;refine⟨C',j1,j2.imp id fun h j hj=>h j ?_⟩;rcases hj with hj | ⟨z,hz,hj⟩<;>grind
  .obtain⟨S2,o2,v2⟩:=hy.one;obtain⟨r1,r2⟩:=XU nW.form hy.form TM hy.conc (.self hD) nW.none_ o2 v2;have e:B4 p (y.1::l.map (·.1)) k s=B4 p (l.map (·.1)) (Eb s ⟨3,p,0,0,k,y.1⟩ (AQ (Em s k) (Em s y.1) p).1).1 (Eb s ⟨3,p,0,0,k,y.1⟩ (AQ (Em s k) (Em s y.1) p).1).2:=by
    grind [B4]
   rw[e];have hy1:=hl y (Ah ..);obtain⟨a1,a2,a3⟩:=Kv hd (V5 (x:=x) (roots:=roots) hk hy1 r1);have hg:=Kw s ⟨3,p,0,0,(k:Nat),(y.1:Nat)⟩ (AQ (Em s k) (Em s y.1) p).1;generalize gL : Eb s ⟨3,p,0,0,(k:Nat),(y.1:Nat)⟩ (AQ (Em s k) (Em s y.1) p).1=s' at *
   have a3:s'.2.full=false->Em s'.2 s'.1=(AQ (Em s k) (Em s y.1) p).1:=a3;obtain⟨i1,i2,i3,i4⟩:=Oi hD (C:=fun j=>C j\/y.2 j) l a1 a2 (fun z hz=>Cp (hl z (Ai _ hz)) hg.len) (fun vh=>by
    refine⟨?_,fun z hz=>by rw[hg.at (hl z (Ai _ hz))];exact hA2 z (Ai _ hz)⟩
    grind [NR,RI,Ff,aH.mk,aH.inU,aL.inU,UZ.self,aH.none_,UZ.ver,aH.cov,aL.cov])
   refine⟨i1,hg.trans i2,i3,fun hf=>?_⟩;obtain⟨C',j1,j2⟩:=i4 hf;refine⟨C',j1,j2.imp id fun h j hj=>h j ?_⟩;rcases hj with hj | ⟨z,hz,hj⟩<;>grind
end Go.Eng
