/- Lemmas 24. -/
import Derived.Test.YtjhkbdgingfbaaaGreatDoorHA23
import Derived.Test.YtjhkbdgingfbaaaGreatDoorCards
import Derived.Test.YtjhkbdgingfbaaaGreatDoorTie
import Derived.ProofKit
import Derived.OpenShut
import Derived.Deep.DeepHandedRow
import Derived.Lib.LaidTab
import Derived.Stop.LaidErr
set_option maxHeartbeats 4000000
namespace Go.Eng
open Go.Proofs
variable {α:Type}{a b:Sl}(p:α->Bool)(l:List Sl)(s:Sl)
theorem cY(p:ByteArray)(k:Nat)(hk:k<p.data.toList.length)(h1:p.data.toList[k]=47)(h2:∀j (hj:j<p.data.toList.length),k<j->p.data.toList[j]≠47):Go.Lib.lastIndex p.data.toList [47]=k:=by
 have vK:∀i (hi:i<p.data.toList.length),Go.Lib.occAt p.data.toList [47] i=true↔p.data.toList[i]=47:=fun i hi=>by
  unfold Go.Lib.occAt;rw[AY hi];simp;exact eq_comm
 unfold Go.Lib.lastIndex;rw[As (by simp only[AJ];omega)];rcases Go.Lib.lastOcc_spec p.data.toList [47] (p.data.toList.length - [(47:UInt8)].length+1)with ⟨_,h3⟩ | ⟨j,h3,h4,h5,h6⟩
 .have:=h3 k (by simp only[AJ];omega)
  rw[(vK k hk).2 h1]at this;cases this
 .rw[h4];simp only[AJ]at h3;have e:j=k:=by
   rcases Lb j k with z | z | z
   .have:=h6 k z (by simp only[AJ];omega)
    rw[(vK k hk).2 h1]at this;cases this
   .exact z
   .exact absurd ((vK j ch).1 h5) (h2 j ch z)
  rw[e]
theorem jM{p:ByteArray}{m:Int}(h:Bs p=some m):(47:UInt8)∈p.data.toList:=by
 refine OS 47 _ ?_;unfold Bs Rb at h;split at h
 .cases h
 .split at h
  .cases h
  .rename_i hn;simp only[CD,Au]at hn;omega
theorem c171(p:ByteArray)(hp:Er p):PC 95 [vs p] (WI Q0 p):=by
 have hc:=wQ p hp;have hi:=AaE p hp;have D5:p.size=p.data.toList.length:=by simp
 unfold WI;cases h:Bs p with
 |none=>
  rw[h]at hi;refine Ps DU Tryz.func95 rfl (Nz rfl) (Xi .pure (Xi _ (Yi (hi) ?_)));exact .refl _
 |some n=>
  have ko:=jM h;rw[h]at hc hi;unfold Er at hp;refine BA (show ∃q,∃hq:q<p.data.toList.length,p.data.toList[q]=47 from CE ko) (fun q hq=>?_);refine BA hq (fun hq eq=>?_);refine Ps DU Tryz.func95 rfl (Nz rfl) (Xi .pure (Xi _ (Yi (hi) (Xi .pure (Xi _ (Yi (hc) (Yi (fun h=>absurd rfl h) (fun _=>?_))))))));refine Yi (show A5 (((p.size:Nat):Int)-1) by unfold A5;omega) ?_;refine Xi {k:Nat // k<p.data.toList.length/\∀j (hj:j<p.data.toList.length),k<j->p.data.toList[j]≠47} (Xi (fun k=>⟨[(0,vs p),(5,vi n),(7,vi k.1)],[],Ad⟩) (Xi (fun k=>k.1) (Yi (Xi ⟨p.data.toList.length-1,by omega,fun j hj Iu=>by omega⟩ ?_) ?_)))
  .have e1:vi (((p.size:Nat):Int)-1)=vi ((p.data.toList.length-1:Nat):Int):=Aa vi ch;exact⟨⟨Zr,Zr,⟨e1,rfl⟩,Tv⟩,Tv,Fh,Tv⟩
  intro⟨k,k1,k2⟩;have Vt:(0:Int)<=k/\p.data[((k:Nat):Int).toNat]?=some p.data.toList[k]:=⟨by omega,by rw[BE];exact Nu p k k1⟩;refine Xi p.data.toList[k] (Yi Vt (Yi (fun h2=>?_) (fun h2=>?_)))
  .have h2:p.data.toList[k]≠47:=fun e=>h2 (by rw[e];rfl);have hqk:q<=k:=by
    rcases BT k q with z | z
    .exact absurd eq (k2 q hq z)
    .exact z
   have Wx:q≠k:=fun e=>by subst e;exact h2 eq
   refine Yi (show A5 ((k:Int)-1) by unfold A5;omega) ?_;have e1:vi ((k:Int)-1)=vi ((k-1:Nat):Int):=Aa vi ch;refine Xi ⟨k-1,by omega,fun j hj Iu=>?_⟩ ?_
   .rcases BT k j with z | z
    .exact k2 j hj z
    .have:j=k:=by omega
     subst this;exact h2
   .exact⟨by show k-1<k;omega,⟨Zr,Zr,⟨e1,rfl⟩,Tv⟩,Tv,Fh,Tv⟩
  .have h2:p.data.toList[k]=47:=GG.1 (by have:=Cq.1 h2;show p.data.toList[k].toNat=47;omega);have el:=cY p k k1 h2 k2;refine Yi ⟨By _,by show(0:Int)<=k;omega,by show(k:Int)<=p.size;omega⟩ ?_;have e3:p.extract 0 ((k:Nat):Int).toNat=Q0 p:=by unfold Q0;rw[el]
   exact .of_eq (show AV.tup [vs (p.extract 0 ((k:Nat):Int).toNat),vi n,vi 0]=_ by rw[e3])
theorem V5{n:Nat}:∀{l:List (List AV)},(∀c∈l,c.length=n)->CR n l
 | [],_=>trivial
 |c::_,h=>⟨h c (Ab ..),V5 fun d hd=>h d (Ae _ hd)⟩
def ul:Int:=IL (fun y=>decide (s=y)) l 0
theorem se(h:a.path=b.path/\a.ver.a=b.ver.a/\a.ver.b=b.ver.b/\a.ver.c=b.ver.c/\True):a=b:=by
 obtain⟨p,⟨x,y,z⟩⟩:=a;obtain⟨p',⟨x',y',z'⟩⟩:=b;obtain⟨h1,h2,h3,h4,_⟩:=h;cases h1;cases h2;cases h3;cases h4;rfl
theorem zh(h:¬(a.path=b.path/\a.ver.a=b.ver.a/\a.ver.b=b.ver.b/\a.ver.c=b.ver.c/\True)):a≠b:=fun e=>h (by subst e;exact⟨rfl,rfl,rfl,rfl,trivial⟩)
theorem eS:(0<=ul l s)↔s∈l:=by
 have:=IM (p:=fun y=>decide (s=y)) l 0 (By 0)
 unfold ul;have h2:(0<=IL (fun y=>decide (s=y)) l 0)↔(l.any fun y=>decide (s=y))=true:=by rw[<-this,Au]
 rw[h2,AX];constructor
 .rintro⟨y,hy,e⟩;simp only[Au]at e;subst e;exact hy
 .intro h;exact⟨s,h,by simp⟩
theorem o71(hl:Cw l):PC 70 [sl Ao l,.agg (Ao s)] (vi (ul l s)):=by
 refine Ps (pC [3] []) Tryz.func70 rfl (Nz rfl) (Xi {q:Nat // q<=l.length/\∀j (hj:j<l.length),j<q->s≠l[j]} (Xi (fun q=>⟨[(0,sl Ao l),(3,.ref 3 0),(7,vi (l.map Ao).length),(8,vi q.1)],[(3,.ro (Ao s))],Ad⟩) (Xi (fun q=>l.length-q.1) (Yi (Xi ⟨0,AE _,fun _ _ h=>absurd h (FM _)⟩ ?_) ?_))))
 .exact⟨Z4,Z1,Fh,Tv⟩
 intro⟨i,i1,i2⟩;refine Yi (fun h1=>?_) (fun h1=>?_)
 .have h1:(i:Int)<((l.map Ao).length:Int):=h1;have n1:=Lu h1;refine yN (Xi (Ao l[i]) (Yi (Y4 n1) (Yi rfl (yN (Yi (fun h2=>?_) (fun h2=>?_))))))
  .refine Yi aa0 ?_;exact .of_eq (show vi i=vi (ul l s) by unfold ul;rw[Jk n1 (fun j hj Iu=>Am (i2 j hj Iu)) (Ap (se h2)),EU])
  have h2:¬((s.path:ByteArray)=l[i].path/\(s.ver.a:Int)=l[i].ver.a/\(s.ver.b:Int)=l[i].ver.b/\(s.ver.c:Int)=l[i].ver.c/\True):=h2;refine Yi aa0 (Yi (Ii i ch) ?_);refine Xi ⟨i+1,n1,fun j hj Iu=>if e:j<i then i2 j hj e else by
    have e:j=i:=by omega
    subst e;exact zh h2⟩ ?_
  exact⟨Dl l.length i ch,Z4,Z1,Fh,Tv⟩
 have h1:¬((i:Int)<((l.map Ao).length:Int)):=h1;have n1:=Ip h1;exact .of_eq (show vi (-1)=vi (ul l s) by unfold ul;rw[Gq (p:=fun y=>decide (s=y)) fun j hj=>Am (i2 j hj (by have q:=h1;rw[Lm]at q;omega))])
theorem z8(hl:Cw l):PC 30 [sl Ao l,.agg (Ao s)] (vb (decide (s∈l))):=by
 refine Ps (pC [3] []) Tryz.func30 rfl (Nz rfl) (yN (Xi .pure (Xi _ (Yi (o71 l s hl) (Yi (fun h1=>?_) (fun h1=>?_))))))
 .exact .of_eq (show vb true=vb (decide (s∈l)) by rw[Ap ((eS l s).1 h1)])
 exact .of_eq (show vb false=vb (decide (s∈l)) by rw[Am (fun h=>h1 ((eS l s).2 h))])
abbrev kept(l:List α):List α:=l.filter fun x=>!p x
theorem qu(l:List α):(kept p l).length<=l.length:=BC _ _
theorem QW{p:α->Bool}{l:List α}{j:Nat}(h:j<l.length):kept p (l.take (j+1))=kept p (l.take j)++(if p l[j]=true then []else [l[j]]):=by
 unfold kept;rw[AZ,ED,Ge h];cases e:p l[j]<;>simp[e]
theorem QX{p:α->Bool}{l:List α}(h:∀j (hj:j<l.length),p l[j]=false):kept p l=l:=by
 rw[List.filter_eq_self];intro x hx;obtain⟨j,hj,rfl⟩:=B1.1 hx;rw[h j hj];rfl
theorem Uu{p:α->Bool}{l:List α}{i:Nat}(hi:i<l.length)(h:∀j (hj:j<l.length),j<i->p l[j]=false)(hp:p l[i]=true):kept p (l.take (i+1))=l.take i:=by
 rw[QW hi,As hp,BZ,QX];intro j hj;rw[K6];rw[AA]at hj;exact h j ch ch
theorem cR(l:List α):(IL p l 0=-1/\∀j (hj:j<l.length),p l[j]=false)\/∃i,∃hi:i<l.length,IL p l 0=(i:Int)/\p l[i]=true/\∀j (hj:j<l.length),j<i->p l[j]=false:=by
 by_cases h:∃i,∃hi:i<l.length,p l[i]=true
 .obtain⟨i,hm⟩:=r7 h;obtain⟨⟨hi,hp⟩,hl⟩:=hm;have hl:∀j (hj:j<l.length),j<i->p l[j]=false:=fun j hj Iu=>by
   cases e:p l[j]with
   |false=>rfl
   |true=>exact absurd ⟨hj,e⟩ (hl j Iu)
  exact .inr ⟨i,hi,by rw[Jk hi (fun j hj Iu=>hl j hj Iu) hp,EU],hp,hl⟩
 .have hl:∀j (hj:j<l.length),p l[j]=false:=fun j hj=>by
   cases e:p l[j]with
   |false=>rfl
   |true=>exact absurd ⟨j,hj,e⟩ h
  exact .inl ⟨by rw[Gq fun j hj=>hl j hj],hl⟩
theorem o46(ifs:List (List AV))(hl:Cw ifs)(hs:∀c∈ifs,c.length=5):PC 48 [.slice .none ifs] (.slice .none ifs):=by
 refine Ps DU Tryz.func48 rfl (Nz rfl) ?_;have GA:CR 5 ifs/\([]:List (List AV)).length=0/\(([]:List (List AV)).length+ifs.length)*112<=140737488355328/\([]:List (List AV)).length+ifs.length<=9223372036854775807:=by
  refine⟨V5 hs,rfl,?_,?_⟩<;>simp only[Ax]<;>unfold Cw at hl<;>omega
 refine Yi ?_ ?_
 .intro _;exact Yi GA (.refl _)
 .intro h;refine Yi ?_ ?_
  .show EY nzA (.slice .none ifs);rw[h];exact .nil
  .exact Yi GA (.refl _)
end Go.Eng
namespace Go.Proofs.YtjhkbdgingfbaaaGreatDoor.joins
open Go Go.Eng Go.Proofs Go.ChangeShapes Go.WideShapes Go.ChangeAt Go.RowKit
section
variable {H:Type}{enc:TypeId×Value->H}{w:World}
theorem all_le{d:DataW H}{l:List (DataW H)}(h:d∈l):Rows.uptoBulk d<=Rows.uptoBulkAll l:=by
 induction l with
 |nil=>cases h
 |cons x r ih=>
  simp only[Rows.uptoBulkAll]
  cases Ay.1 h with
  |inl e=>subst e;omega
  |inr e=>have:=ih e;omega
theorem one_le(d:DataW H):1<=Rows.uptoBulk d:=by
 cases d with
 |lit l=>cases l<;>simp[Rows.uptoBulk]
 |nil=>simp[Rows.uptoBulk]
 |ptr d=>simp[Rows.uptoBulk]
 |slice rJ spare=>simp[Rows.uptoBulk]
 |agg parts=>simp[Rows.uptoBulk]
 |iface t d=>simp[Rows.uptoBulk]
 |map entries=>simp[Rows.uptoBulk]
 |held h=>simp[Rows.uptoBulk]
theorem len_le(l:List (DataW H)):l.length<=Rows.uptoBulkAll l:=by
 induction l with
 |nil=>simp[Rows.uptoBulkAll]
 |cons x r ih=>have:=one_le x;simp only[Rows.uptoBulkAll,Al];omega
theorem bulk_ok:Xw (H:=H) Rows.uptoBulk where
 slice es sp:=by
  have h1:=len_le es
  refine⟨by simp only[Rows.uptoBulk];omega,fun d hd=>?_⟩
  have:=all_le hd
  simp only[Rows.uptoBulk];omega
 agg ps d hd:=by
  have:=all_le hd
  simp only[Rows.uptoBulk];omega
 str b:=by simp only[Rows.uptoBulk];omega
theorem app_all(l r:List (DataW H)):Rows.uptoBulkAll (l++r)=Rows.uptoBulkAll l+Rows.uptoBulkAll r:=by
 induction l with
 |nil=>simp[Rows.uptoBulkAll]
 |cons x l ih=>simp only[DA,Rows.uptoBulkAll,ih];omega
abbrev NB:Nat:=1048576
abbrev Op(enc:TypeId×Value->H)(w:World)(t:TypeId){α:Type}(e:α->List AV)(ok:α->Prop):Prop:=Ko enc Tryz.prog w Rows.uptoBulk NB t e ok
theorem oI:Op enc w 3 (fun n:Int=>[vi n]) (fun _=>True):=(Ri Tryz.underlying3).to id (fun _ _=>⟨rfl,trivial⟩)
theorem oB:Op enc w 4 (fun b:Bool=>[vb b]) (fun _=>True):=dk Tryz.underlying4
theorem oS:Op enc w 9 (fun s:ByteArray=>[vs s]) (fun s=>s.size<=NB):=YD bulk_ok Tryz.underlying9
theorem oVer:Op enc w 47 Jh (fun _=>True):=
 (FD bulk_ok Tryz.underlying47 (L:=3) aa0 (B4 rfl (n:=1) aa0 oI (B4 rfl (n:=1) aa0 oI (B4 rfl (n:=1) aa0 oI GQ)))).to
  (fun p=>(⟨p.1,p.2.1,p.2.2.1⟩:Ver)) (fun _ _=>⟨rfl,trivial⟩)
theorem oSpan:Op enc w 226 AC (fun _=>True):=
 (FD bulk_ok Tryz.underlying226 (L:=2) aa0 (B4 rfl (n:=1) aa0 oI (B4 rfl (n:=1) aa0 oI GQ))).to
  (fun p=>(p.1,p.2.1)) (fun _ _=>⟨rfl,trivial⟩)
theorem oSet:Op enc w 141 (fun l:Bl=>[sl AC l]) (fun l=>l.length<=NB):=
 (GR bulk_ok Tryz.underlying141 (m:=1) aa0 (fun _=>rfl) oSpan).to id (fun _ h=>⟨rfl,h.1⟩)
abbrev OkRq(q:Rq):Prop:=q.path.size<=NB/\q.set.length<=NB
theorem oRq:Op enc w 143 A2 OkRq:=
 (FD bulk_ok Tryz.underlying143 (L:=2) aa0 (B4 rfl (n:=1) aa0 oS (B4 rfl (n:=1) aa0 oSet GQ))).to
  (fun p=>(⟨p.1,p.2.1⟩:Rq)) (fun _ h=>⟨rfl,h.1,h.2.1⟩)
abbrev OkRqs(l:List Rq):Prop:=l.length<=NB/\∀q∈l,OkRq q
theorem oRqs:Op enc w 71 (fun l:List Rq=>[sl A2 l]) OkRqs:=
 GR bulk_ok Tryz.underlying71 (m:=1) aa0 (fun _=>rfl) oRq
abbrev OkRl(r:Rl):Prop:=r.path.size<=NB/\OkRqs r.reqs
theorem oRl:Op enc w 79 BS OkRl:=
 (FD bulk_ok Tryz.underlying79 (L:=9) aa0 (B4 rfl (n:=1) aa0 oS (B4 rfl (n:=3) aa0 oVer (B4 rfl (n:=1) aa0 oRqs
  (B4 rfl (n:=1) aa0 oS (B4 rfl (n:=1) aa0 oS (B4 rfl (n:=1) aa0 oS (B4 rfl (n:=1) aa0 oB GQ)))))))).to
  (fun p=>(⟨p.1,p.2.1,p.2.2.1,p.2.2.2.1,p.2.2.2.2.1,p.2.2.2.2.2.1,p.2.2.2.2.2.2.1⟩:Rl)) (fun _ h=>⟨rfl,h.1,h.2.2.1⟩)
theorem oRls:Op enc w 22 (fun l:List Rl=>[sl BS l]) (fun l=>l.length<=NB/\∀r∈l,OkRl r):=
 GR bulk_ok Tryz.underlying22 (m:=8) aa0 (fun _=>rfl) oRl
theorem oIfc:Op enc w 97 (fun s:ByteArray=>[vs s,.junk,.junk,.junk,.junk]) (fun _=>True):=
 (FD bulk_ok Tryz.underlying97 (L:=5) aa0 (B4 rfl (n:=1) aa0 oS (B4 rfl (n:=1) aa0 (NJ Tryz.underlying92) (B4 rfl (n:=1) aa0 (NJ Tryz.underlying93)
  (B4 rfl (n:=1) aa0 (NJ Tryz.underlying94) (B4 rfl (n:=1) aa0 (NJ Tryz.underlying95) GQ)))))).to (fun p=>p.1) (fun _ _=>⟨rfl,trivial⟩)
theorem oIfs:Op enc w 23 (fun l:List ByteArray=>[sl (fun s=>[vs s,.junk,.junk,.junk,.junk]) l]) (fun l=>l.length<=NB):=
 (GR bulk_ok Tryz.underlying23 (m:=4) aa0 (fun _=>rfl) oIfc).to id (fun _ h=>⟨rfl,h.1⟩)
theorem oIx:Op enc w 25 (fun p:List Rl×List (List AV)=>[sl BS p.1,.slice .none p.2]) (fun p=>(p.1.length<=NB/\∀r∈p.1,OkRl r)/\p.2.length<=NB/\∀c∈p.2,c.length=5):=
 (FD bulk_ok Tryz.underlying25 (L:=2) aa0 (B4 rfl (n:=1) aa0 oRls (B4 rfl (n:=1) aa0 oIfs GQ))).to
  (fun p=>(p.1,p.2.1.map (fun s=>[vs s,.junk,.junk,.junk,.junk]))) (fun _ h=>⟨rfl,h.1,by rw[AS];exact h.2.1,fun c hc=>by obtain⟨s,_,rfl⟩:=Ak.1 hc;rfl⟩)
theorem oSl:Op enc w 49 Ao (fun y=>y.path.size<=NB):=
 (FD bulk_ok Tryz.underlying49 (L:=4) aa0 (B4 rfl (n:=1) aa0 oS (B4 rfl (n:=3) aa0 oVer GQ))).to
  (fun p=>(⟨p.1,p.2.1⟩:Sl)) (fun _ h=>⟨rfl,h.1⟩)
theorem oSls:Op enc w 26 (fun l:List Sl=>[sl Ao l]) (fun l=>l.length<=NB/\∀y∈l,y.path.size<=NB):=
 GR bulk_ok Tryz.underlying26 (m:=3) aa0 (fun _=>rfl) oSl
theorem oInt:Op enc w 3 (fun n:Int=>[vi n]) A5:=(Ri Tryz.underlying3).to id (fun x h=>⟨rfl,by
  have h1:(-9223372036854775808:Int)<=x:=h.1
  have h2:x<=(9223372036854775807:Int):=h.2
  show -9223372036854775808<=x/\x<9223372036854775808
  omega⟩)
theorem oU8:Op enc w 5 (fun n:Int=>[.v (.int .u8 n)]) (fun n=>0<=n/\n<=255):=(Ri Tryz.underlying5).to id (fun _ h=>⟨rfl,h⟩)
theorem oStr:Op enc w 9 Go.Eng.BJ (fun s:ByteArray=>s.size<=NB):=oS
theorem oStrs:Op enc w 27 (fun l:List ByteArray=>[sl Go.Eng.BJ l]) (fun l=>l.length<=NB/\∀s∈l,s.size<=NB):=
 GR bulk_ok Tryz.underlying27 (m:=0) aa0 (fun _=>rfl) oStr
abbrev OkCp(c:Cp):Prop:=c.path.size<=NB/\c.bytes.size<=NB
theorem oCp:Op enc w 60 BY OkCp:=
 (FD bulk_ok Tryz.underlying60 (L:=5) aa0 (B4 rfl (n:=1) aa0 oS (B4 rfl (n:=3) aa0 oVer (B4 rfl (n:=1) aa0 oS GQ)))).to
  (fun p=>(⟨p.1,p.2.1,p.2.2.1⟩:Cp)) (fun _ h=>⟨rfl,h.1,h.2.2.1⟩)
theorem oCps:Op enc w 31 (fun l:List Cp=>[sl BY l]) (fun l=>l.length<=NB/\∀c∈l,OkCp c):=
 GR bulk_ok Tryz.underlying31 (m:=4) aa0 (fun _=>rfl) oCp
theorem few_of{n:Nat}(h:n<=NB):n<=1073741824:=A9 h Cl
theorem lim_of{x:List Rl}{roots:List Rq}(h:x.length<=NB/\∀r∈x,OkRl r)(k:OkRqs roots):sv x roots where
 ix:=few_of h.1
 rs:=few_of k.1
 rel r hr:=⟨few_of (h.2 r hr).2.1,few_of (h.2 r hr).1,fun q hq=>⟨few_of ((h.2 r hr).2.2 q hq).2,few_of ((h.2 r hr).2.2 q hq).1⟩⟩
 rq q hq:=⟨few_of (k.2 q hq).2,few_of (k.2 q hq).1⟩
theorem lim0_of{x:List Rl}(h:x.length<=NB/\∀r∈x,OkRl r):sv x []:=lim_of h ⟨AE _,fun q hq=>by cases hq⟩
end
theorem ok_agg{P:Program}{W:World}{base:Nat}{t:TypeId}{v:Value}{fs:Array Field}(hu:P.underlying t=some (.struct fs))(h:Value.okWide P W .any base t v):∃cs,v=.agg cs:=by
 unfold Value.okWide at h
 rw[hu]at h
 obtain⟨cs,e,_⟩:=h
 exact⟨cs,e⟩
theorem ok_slice{P:Program}{W:World}{base:Nat}{t e:TypeId}{v:Value}(hu:P.underlying t=some (.slice e))(h:Value.okWide P W .any base t v):v.oneCell'=true:=by
 unfold Value.okWide at h
 rw[hu]at h
 unfold Cell.okWide Cell.ok at h
 rw[hu]at h
 cases v<;>first | rfl | simp at h
theorem ok_int{P:Program}{W:World}{base:Nat}{t:TypeId}{k:IntKind}{v:Value}(hu:P.underlying t=some (.int k))(h:Value.okWide P W .any base t v):v.oneCell'=true:=by
 unfold Value.okWide at h
 rw[hu]at h
 unfold Cell.okWide Cell.ok at h
 rw[hu]at h
 cases v<;>first | rfl | simp at h
theorem ok_string{P:Program}{W:World}{base:Nat}{t:TypeId}{v:Value}(hu:P.underlying t=some .string)(h:Value.okWide P W .any base t v):v.oneCell'=true:=by
 unfold Value.okWide at h
 rw[hu]at h
 unfold Cell.okWide Cell.ok at h
 rw[hu]at h
 cases v<;>first | rfl | simp at h
theorem int_of_shape{P:Program}{w:World}{g:Nat}{t:TypeId}{k:IntKind}{zero:Array Value}(h:w.ShapedOpen P)(hg:g<P.globals.size)
  (h0:((begin P (fun _ _=>0) default).world.heap[g]?).bind Obj.row?=some (zero,t)) (hz:zero.size=1)
  (hb:P.buildable t=true) (hc:P.cellTypes P.depth t=some [t]) (hu:P.underlying t=some (.int k)):∃p,w.cell? ⟨g,0,none⟩=some (.int k p):=by
 obtain⟨cs,hh,hs,hr⟩:=h.1 g zero t hg h0
 obtain⟨ts,hts,_,FN⟩:=hr hb
 rw[hc]at hts
 cases hts
 have h1:0<cs.size:=by omega
 obtain⟨u,my,FY⟩:=FN 0 cs[0] (by simp[h1])
 have:u=t:=by simpa using my.symm
 subst this
 have Dg:w.cell? ⟨g,0,none⟩=some cs[0]:=by simp[World.cell?,hh,h1]
 rw[Dg]
 unfold Cell.ok at FY
 rw[hu]at FY
 cases hv:cs[0]<;>rw[hv]at FY<;>simp at FY
 obtain⟨rfl,_⟩:=FY
 exact⟨_,rfl⟩
theorem maxLen_cell{W:World}(h:W.ShapedOpen Tryz.prog):∃m,W.cell? ⟨0,0,none⟩=some (.int .i64 m):=
 int_of_shape (t:=3) (zero:=#[.int .i64 0]) h (BO aa0) aa0 rfl aa0 aa0 Tryz.underlying3
def Start(W:World):Prop:=(∃m,W.cell? ⟨0,0,none⟩=some (.int .i64 m))/\∀x∈lV,x.1<W.heap.size/\W.cell? ⟨x.1,x.2.1,none⟩=x.2.2
theorem start_of {W : World} {r : List (String × DataW Unit)} {a b : String × DataW Unit} (h : W.ShapedOpen Tryz.prog) (hl : laidMet Tryz.prog (a :: b :: ("internal/strconv.uint64pow10", Rows.laid_internal_strconv_uint64pow10) :: r) W) : Start W := by
 refine⟨maxLen_cell h,?_⟩
 have ht : Go.Lib.TabIs Tryz.prog W "internal/strconv.uint64pow10" .u64 ((List.range 20).map fun i => ((10 ^ i : Nat) : Int)):=
  Go.Lib.tabIs_of_head (g:=1) (t:=345) (e:=177) (n:=20) aa0 aa0 aa0 aa0 aa0 aa0 hl.tail.tail
 have hc := fun i => World.var?_cell (P := Tryz.prog) (n := "internal/strconv.uint64pow10") (g := 1) aa0 ht i
 have h0:1<W.heap.size:=XT (v:=.int .u64 1) ((hc 0).trans rfl)
 intro x hx
 rcases Ay.1 hx with rfl | hx
 .exact⟨h0,(hc 20).trans rfl⟩
 .obtain⟨i,hi,rfl⟩:=Ak.1 hx
  have hi:=IW.1 hi
  refine⟨h0,(hc i).trans ?_⟩
  simp[hi]
def Still(W W' : World):Prop:=W'.os=W.os/\W'.output=W.output/\W.heap.size<=W'.heap.size/\∀b,b<W.heap.size->W'.heap[b]?=W.heap[b]?
theorem run_true{f:Nat}{args:List AV}{vals:Array Value}{W:World}(hc:PC f args (vb true))(hM:Start W)(hs:vals.size=args.length)
  (hr:∀(i:Nat) (av:AV) (x:Value),args[i]?=some av->vals[i]?=some x->Br (lU W) W Fq av x):Calls Tryz.prog f vals W fun e W'=>e=.returned (.bool true)/\Still W W':=by
 refine(hc.2 (lU W) W vals hs (fun i av x q1 q2=>(hr i av x q1 q2).up _) (yw hM.1 hM.2)).mono fun e W' ⟨v,r,h',g',e1,e2,e3,e4,_⟩=>?_
 subst e1
 obtain⟨rfl,rfl⟩:=e2
 obtain rfl:=e3.v_eq
 exact⟨rfl,e4.os,e4.output,e4.size,fun b hb=>e4.frame b hb (fun r h=>h.elim)⟩
theorem Still.kept{W W' : World}(h:Still W W')(may:MemPlace->Prop):W.keptBut W' may:=by
 refine⟨h.1,h.2.1,fun i hi=>?_⟩
 rw[h.2.2.2 i hi]
 cases hh:W.heap[i]? with
 |none=>rfl
 |some o=>cases o<;>simp
theorem Still.same{W W' : World}(h:Still W W'){p:MemPlace}(hp:p.block<W.heap.size):W.sameAt W' p:=by
 cases p with
 |cell b off=>
  show W'.cell? ⟨b,off,none⟩=W.cell? ⟨b,off,none⟩
  unfold World.cell?
  rw[h.2.2.2 b hp]
 |map b=>exact h.2.2.2 b hp
theorem kids:Kids Tryz.prog (· < Tryz.prog.types.size):=kids_rows aa0 aa0
theorem full:∀t e,t<Tryz.prog.types.size->Tryz.prog.underlying t=some (.slice e)->0<Tryz.prog.cellsOf e:=slices_full_of Tryz.prog aa0
theorem carry{H:Type}{enc:TypeId×Value->H}{W W' : World}(h:Still W W'):∀{ts:List TypeId} {vs:List Value} {ds:List (DataW H)} {ps:List MemPlace},DataW.TrodAll enc Tryz.prog W 0 (fun _=>true) true ts vs ds ps->DataW.TrodAll enc Tryz.prog W' 0 (fun _=>true) true ts vs ds ps
 | [],[],[],_,e=>e
 |t::ts,v::vs,d::ds,ps,k=>by
  have Dx:=k.lt
  obtain⟨p,q,⟨n,h1⟩,h2,rfl⟩:=k
  exact⟨p,q,⟨n,DataW.trod_carry n _ _ _ h1 (fun x hx=>h.same (Dx x (Bn _ hx)))⟩,carry h h2,rfl⟩
 | [],[],_::_,_,k=>k.elim
 | [],_::_,_,_,k=>k.elim
 |_::_,[],_,_,k=>k.elim
 |_::_,_::_,[],_,k=>k.elim
theorem post_true{H:Type}{enc:TypeId×Value->H}{W W' : World}{f:Func}{s:ChangeSpec}{args:Array Value}{ds:List (DataW H)}{before:List MemPlace}(Il:Still W W')(hv:s.vars=[])
  (hW:DataW.Whole enc Tryz.prog f.params.toList s.vars false W args.toList ds [] before) (hr:f.resultTypes=#[4]) (hT:∀t∈f.params.toList,t<Tryz.prog.types.size) (hs:s.fn H ds={ results:=[.lit (.bool true)],args:=ds }) :
  s.post enc Tryz.prog f false true false false W args (.bool true) W':=by
 have hW0:=hW
 obtain⟨p,q,hA,hV,rfl,hz,_⟩:=hW
 rw[hv]at hV
 have hq:q=[]:=hV
 subst hq
 have Dx:=hW0.lt
 have vO:s.fn H (ds++[])={ results:=[.lit (.bool true)],args:=ds }:=by rw[BZ];exact hs
 refine⟨ds,[],p++[],[],p,[],hW0,?_,?_,?_,Il.kept _,fun h=>by cases h⟩
 .rw[vO,hr]
  exact⟨[],[],⟨1,by rw[show(Value.bool true).cells.toList=[.bool true]from rfl,DataW.trod_step];unfold DataW.trodStep;rw[Tryz.underlying4]⟩,rfl,rfl⟩
 .rw[vO]
  exact(carry Il hA).respare kids full hT (fun x hx=>by simpa using Dx x (Bn _ hx))
 .rw[vO,hv];rfl
end Go.Proofs.YtjhkbdgingfbaaaGreatDoor.joins
namespace Go.Proofs.YtjhkbdgingfbaaaGreatDoor.joins
open Go Go.Eng Go.Proofs Go.ChangeShapes Go.WideShapes Go.ChangeAt Go.RowKit
theorem own:ownKnob Tryz.prog.godebug=none:=by kernel_rfl
def flatD:Nat->DataW Unit->List Value
 |0,_=>[]
 |n+1,.agg l=>l.flatMap (flatD n)
 |_+1,.lit (.int k i)=>[.int k i]
 |_+1,_=>[]
def layIn(d:DataW Unit):Obj->Obj
 |.cells _ t frozen=>.cells (flatD 4 d).toArray t frozen
 |o=>o
noncomputable def laidWorld0(os:Os):World:=
 { World.holding Tryz.prog os ⟨#[],#[],[]⟩with heap:=((((((World.holding Tryz.prog os ⟨#[],#[],[]⟩).heap.modify 1 (layIn Rows.laid_internal_strconv_uint64pow10)).modify 4 (layIn Rows.laid_unicode_utf8_first)).modify 5 (layIn Rows.laid_unicode_utf8_acceptRanges)).modify 6 (layIn Rows.laid_math_bits_deBruijn32tab)).modify 7 (layIn Rows.laid_math_bits_deBruijn64tab)) }
def errAt(b:Nat):Obj->Obj
 |.cells _ t f=>.cells #[.iface 372 (.pointer (some ⟨b,0,none⟩))] t f
 |o=>o
abbrev errObj(s:ByteArray):Obj:=.cells #[.string s] 374
noncomputable def laidWorld(os:Os):World:=
 { laidWorld0 os with heap:=((((laidWorld0 os).heap.modify 2 (errAt (laidWorld0 os).heap.size)).modify 3 (errAt ((laidWorld0 os).heap.size+1))).push (errObj ⟨#[105,110,118,97,108,105,100,32,115,121,110,116,97,120]⟩)).push (errObj ⟨#[118,97,108,117,101,32,111,117,116,32,111,102,32,114,97,110,103,101]⟩) }
abbrev nilV:Value:=.slice none 0 0
theorem arr1{args:Array Value}{a:Value}(h:args.toList=[a]):args=#[a]:=by
 cases args;simp_all
theorem arr2{args:Array Value}{a b:Value}(h:args.toList=[a,b]):args=#[a,b]:=by
 cases args;simp_all
theorem arr3{args:Array Value}{a b c:Value}(h:args.toList=[a,b,c]):args=#[a,b,c]:=by
 cases args;simp_all
theorem arr4{args:Array Value}{a b c d:Value}(h:args.toList=[a,b,c,d]):args=#[a,b,c,d]:=by
 cases args;simp_all
theorem arr5{args:Array Value}{a b c d e:Value}(h:args.toList=[a,b,c,d,e]):args=#[a,b,c,d,e]:=by
 cases args;simp_all
theorem looksOff:true=Tryz.pinned.checked.prog.looks []:=by kernel_rfl
theorem noStand:∀t∈([5,9,25,26,27,31,47,71]:List Nat),Tryz.pinned.checked.prog.wantsStandIn t=false:=by
 intro t ht
 simp only[Ay,MA,or_false]at ht
 rcases ht with rfl | rfl | rfl | rfl | rfl | rfl | rfl | rfl<;>exact(show Tryz.prog.wantsStandIn _=false by kernel_rfl)
end Go.Proofs.YtjhkbdgingfbaaaGreatDoor.joins
namespace Go.Proofs
open Go.Shelf Go.RowKit Go.Lib Go.Sort
abbrev OneC:Type:={v:Value // v.oneCell'=true}
def SlA:Type:=ByteArray×OneC×OneC×OneC
instance:Inhabited SlA:=⟨⟨ByteArray.empty,⟨.bool false,rfl⟩,⟨.bool false,rfl⟩,⟨.bool false,rfl⟩⟩⟩
def encSlA(x:SlA):List Value:=[.string x.1,x.2.1.1,x.2.2.1.1,x.2.2.2.1]
def cfSlA(x y:SlA):Int:=Lib.compareBytes x.1.data.toList y.1.data.toList
abbrev CmpSlA(k:Nat):Prop:=∀(x y:SlA) (W:World),Calls Tryz.prog k #[.agg #[.string x.1,x.2.1.1,x.2.2.1.1,x.2.2.2.1],.agg #[.string y.1,y.2.1.1,y.2.2.1.1,y.2.2.2.1]] W fun e w'=>e=.returned (.int .i64 (cfSlA x y))/\∃q os',w'=grow (W.drewN q) os'
theorem Tryz.closure125:CmpSlA 125:=fun x y W=>by
 have hcon:=fun W'=>Any.strings_Compare Tryz.layCompare x.1 y.1 W';obtain⟨a,⟨b,hb⟩,⟨c,hc⟩,⟨d,hd⟩⟩:=x;obtain⟨a',⟨b',oP⟩,⟨c',tD⟩,⟨d',oR⟩⟩:=y;dsimp only at hcon
 change ∀W',Calls Tryz.prog 126 _ _ _ at hcon
 unfold cfSlA;dsimp only;generalize Lib.compareBytes a.data.toList a'.data.toList=r at hcon⊢
 go_enter Tryz.func125,Tryz.ntmps125
 go_wp2_with (go_at_call 126;refine(hcon _).mono ?_;rintro e w' ⟨rfl,rfl⟩)
 go_ret
 exact⟨rfl,0,_,by rw[alloc_eq_grow,alloc_eq_grow,grow_grow];rfl⟩
end Go.Proofs
namespace Go.Eng
open Go.Proofs Go.Shelf Go.RowKit Go.Lib Go.Sort
theorem eX(x y:SlA):ltOf cfSlA x y=FQ x.1 y.1:=UB _ _
theorem oc:SWO (ltOf cfSlA) where
 irrefl x:=by rw[eX];exact Dn _
 trans x y z h1 h2:=by rw[eX]at *;exact Fe h1 h2
 ntrans x y z h1 h2:=by
  rw[eX]at *
  rw[AH];intro h;cases vS:FQ y.1 x.1 with
  |true=>have:=Fe vS h;rw[h2]at this;cases this
  |false=>
   have e:=Kp h1 vS;rw[e]at h;rw[h2]at h;cases h
theorem s92(k:Nat)(hc:CmpSlA k)(eg:∀args w,(callFunc k args).run Tryz.prog w=.ok (.enter k args) w)(l:List Sl)(hl:Cw l)(lim:Nat)(ab:lim<100) :
  Bb Tryz.prog 187 [.msl 1000 l.length,vi 0,vi l.length,vi lim,.v (YY k)] (Ag [(1000,.arr 4 (l.map Ao))] Ad) fun r h'=>
   r=.tup []/\∃l' : List Sl,l'.Perm l/\l'.Pairwise (fun x y=>FQ y.path x.path=false)/\h'=Ag [(1000,.arr 4 (l'.map Ao))] Ad:=by
 have hl:l.length<=1073741824:=hl;have hE:GI Tryz.prog 187:=VI 187 Tryz.func187 aa0 rfl;have Kw:=JQ (P:=Tryz.prog) (f:=187) (α:=SlA) (rest:=[.int .i64 0,.int .i64 l.length,.int .i64 lim,YY k]) hE Ao encSlA (k:=4) (fun _=>rfl) (fun _=>rfl) (ltOf cfSlA) (fun x a=>a.1=x.path) l ch ?_ ?_ ?_
 .refine⟨hE,fun g w vals q1 q2 q3=>(Kw.2 g w vals q1 q2 q3).mono fun _ _ ⟨v,r,h',g',e1,⟨e2,l',p1,⟨al,a1,a2,a3⟩,p2⟩,rest⟩=>⟨v,r,h',g',e1,⟨e2,l',p1,?_,p2⟩,rest⟩⟩;rw[A8]at a3⊢;intro i j hi hj QM
  have:=a3 i j ch ch QM
  rw[eX]at this;have e1:=a2 i _ _ (Ge hi) (Ge ch);have e2:=a2 j _ _ (Ge hj) (Ge ch);rw[<-e1,<-e2];exact this
 .intro x hx g w vs hr
  match vs,hr with
  | [a,b,c,d],hr=>
   have h1:=(hr.2.2 0 (Go.Eng.vs x.path) a rfl rfl).v_eq;subst h1;exact⟨⟨x.path,⟨b,hr.2.1 b B0⟩,⟨c,hr.2.1 c B0⟩,⟨d,hr.2.1 d B0⟩⟩,rfl,rfl⟩
  | [],hr=>have:=hr.1;simp at this
  | [_],hr=>have:=hr.1;simp at this
  | [_,_],hr=>have:=hr.1;simp at this
  | [_,_,_],hr=>have:=hr.1;simp at this
  |_::_::_::_::_::_,hr=>have:=hr.1;simp at this
 .intro w b cap d hH hb D5 hdl;have me:CmpLays Tryz.prog k #[] encSlA 4 cfSlA b 0 d.size w:=fun _ _ _ _ x y=>hc x y _;have hp:=AnyQ.pdqsortCmpFunc_all Tryz.layPdqSel 4 Tryz.isAgg49 Tryz.sizeOf49 encSlA cfSlA k #[] oc b 0 cap d w eg me ⟨fun _=>rfl,fun x v hv=>by
    simp only[encSlA,Ay,MA,or_false]at hv;rcases hv with rfl | rfl | rfl | rfl
    .rfl
    .exact x.2.1.2
    .exact x.2.2.1.2
    .exact x.2.2.2.2,hH,hb⟩ (d.size+1) 0 d.size lim d w ch rfl (SWK.start hH) (AE _) (Ai _) D5 ch (Or.inl rfl)
  rw[hdl]at hp⊢;refine hp.mono ?_
  rintro e w' ⟨rfl,n,os,rfl⟩
  have h:=pdq_sorts (ltOf cfSlA) oc d 0 d.size lim true true (AE _) (Ai _) (Or.inl rfl);rw[hdl]at h;exact⟨rfl,_,n,os,h.1,h.2,rfl⟩
 .intro e w;subst e;exact AnyF.pdqsortCmpFunc_none Tryz.layPdqSel none 0 lim (YY k) w
theorem VV{l l' : List Sl}(h1:Xy l)(h2:Xy l')(hm:∀y,y∈l↔y∈l'):l=l':=by
 induction l generalizing l' with
 |nil=>
  cases l' with
  |nil=>rfl
  |cons y l'=>have:=(hm y).2 (Ab ..);cases this
 |cons x l ih=>
  cases l' with
  |nil=>have:=(hm x).1 (Ab ..);cases this
  |cons y l'=>
   obtain⟨a1,a2⟩:=Ds.1 h1;obtain⟨b1,b2⟩:=Ds.1 h2;have e:x=y:=by
    rcases Ay.1 ((hm x).1 (Ab ..))with e | e
    .exact e
    .rcases Ay.1 ((hm y).2 (Ab ..))with e2 | e2
     .exact e2.symm
     .have c1:=b1 x e;have c2:=a1 y e2
      have:=Fe c1 c2
      rw[Dn]at this;cases this
   subst e
   congr 1
   refine ih a2 b2 fun z=>⟨fun hz=>?_,fun hz=>?_⟩
   .rcases Ay.1 ((hm z).1 (Ae _ hz))with e | e
    .subst e
     have:=a1 z hz
     rw[Dn]at this;cases this
    .exact e
   .rcases Ay.1 ((hm z).2 (Ae _ hz))with e | e
    .subst e
     have:=b1 z hz
     rw[Dn]at this;cases this
    .exact e
theorem n8{l l' : List Sl}(hn:(l.map (·.path)).Nodup)(hp:l'.Perm l)(hs:l'.Pairwise fun x y=>FQ y.path x.path=false):l'=DO l:=by
 refine VV ?_ (Rx hn) fun y=>by rw[hp.mem_iff,HQ]
 have ae : (l'.map (·.path)).Nodup:=(hp.map (·.path)).nodup_iff.2 hn;show l'.Pairwise _;rw[A8]at hs⊢;intro i j hi hj QM;cases hb:FQ l'[i].path l'[j].path with
 |true=>rfl
 |false=>
  have e:=Kp hb (hs i j hi hj QM)
  have:=(A8.1 ae) i j (by simpa using hi) (by simpa using hj) QM
  simp at this;exact absurd e this
theorem s47(k:Nat)(hc:CmpSlA k)(eg:∀args w,(callFunc k args).run Tryz.prog w=.ok (.enter k args) w)(l:List Sl)(hl:Cw l)(hn:(l.map (·.path)).Nodup) :
  Bb Tryz.prog 124 [.msl 1000 l.length,.v (YY k)] (Ag [(1000,.arr 4 (l.map Ao))] Ad) fun r h'=>
   r=.tup []/\h'=Ag [(1000,.arr 4 ((DO l).map Ao))] Ad:=by
 obtain⟨lim,ab,hb⟩:=sU l.length hl;refine Cm (MC DU) [(1000,1000)] rfl Cu hm rfl Tryz.func124 aa0 rfl (Nz rfl) aa0 rfl (Xi .pure (Xi _ (Yi (hb) (Xi (.gen [(1000,1000)] 0) (Yi rfl ((s92 k hc eg l hl lim ab).imp ?_))))));intro r h' hq;refine BA hq.2 (fun l' QN=>?_);have e:=n8 hn QN.1 QN.2.1;refine Xi (.tup []) (Yi ?_ (Yi rfl ?_))
 .exact .refl _
 .rw[QN.2.2,e];rfl
end Go.Eng
namespace Go.Eng
open Go.Proofs
variable {l:List Nf}{i:Nf}{caps:List AV}{k fF:Nat}(roots:List Rq)(C A:List (Value×AV))(c:Cd)(s:SS)(dec:List Cd)(st:List (List Sk))(S:List Sl)(n:Nat)
abbrev AcA:Qn:=⟨[],[],[(2,n),(5,n)],[],[],[],[5],[],[],[],[2,3]⟩
theorem zf(l:List Sl)(hl:Cw l):Bb Tryz.prog 89 [sl Ao l] (Ag [] Ad) fun r h'=>r=.msl 2000 l.length/\h'=Ag [(2000,.arr 4 (l.map Ao))] Ad:=by
 refine Cm (MC (AcA 4)) [(2,2000)] rfl Cu hm rfl Tryz.func89 aa0 rfl (Nz rfl) aa0 rfl ?_;have GA:CR 4 (l.map Ao)/\([]:List (List AV)).length=0/\(([]:List (List AV)).length+(l.map Ao).length)*40<=140737488355328/\([]:List (List AV)).length+(l.map Ao).length<=9223372036854775807:=by
  refine⟨Fj (enc:=Ao) (n:=4) (fun _=>rfl) l,rfl,?_,?_⟩<;>simp only[Ax,Lm]<;>unfold Cw at hl<;>omega
 have e1:AV.msl 2000 (([]:List (List AV)).length+(l.map Ao).length)=.msl 2000 l.length:=by simp
 refine Xi 0 (Xi 0 (Yi ?_ ?_))
 .intro _;refine cU [(0,sl Ao l)] [] Z1 Tv (Xi 2 (Yi GA ?_));exact Xi _ (Yi (.refl _) (Yi e1 rfl))
 .intro h;refine Yi ?_ ?_
  .refine Xi ⟨[],[],Ad⟩ (Yi ⟨trivial,trivial,fun _=>.inl rfl,BQ aa0⟩ ?_);refine Xi 2 ?_;exact Xi _ (Yi (.refl _) (Yi (show AV.msl 2000 0=_ by rw[FS.1 h];rfl) (show Ag [(2000,HO.arr 4 [])] Ad=_ by rw[h])))
  .refine cU [(0,sl Ao l)] [] Z1 Tv (Xi 2 (Yi GA ?_));exact Xi _ (Yi (.refl _) (Yi e1 rfl))
abbrev AF:List AV:=vi c.place::BS c.rel
abbrev A6(n:Nd):List AV:=[vs n.rq.path,sl AC n.rq.set,vs n.path,vi n.place,vi n.number]
abbrev Bi(l:List Sk):List AV:=[sl Cy l]
abbrev CP(i:Nat):List AV:=[vi (i:Nat)]
def Em:EN:=⟨true,[.int .i64,.str,.int .i64,.int .i64,.int .i64,.int .i64]⟩
def Mv(i:Nf):Value:=.agg [.int .i64 i.kind,.string i.path,.int .i64 i.place,.int .i64 i.number,.int .i64 i.left,.int .i64 i.right].toArray
def FO:Nat->List Nf->List (Value×AV)
 |_,[]=>[]
 |k,i::l=>(Mv i,vi (k:Nat))::FO (k+1) l
abbrev Qh:List AV:=
 [sl A2 roots,.cmap Ek C,.cmap Ek A,.slice (.id 1001 6) (s.infs.map CX),.slice (.id 1002 1) (s.drv.map CG),.mref 1003,vb s.full,sl AF dec,sl Ao (AG dec),.msl 1004 n]
abbrev srM(k n:Nat):List AV:=
 [sl A2 roots,.cmap Ek C,.cmap Ek A,.slice (.id 1001 6) (s.infs.map CX),.slice (.id 1002 1) (s.drv.map CG),.mref 1003,vb s.full,sl AF dec,sl Ao (AG dec),.msl k n]
abbrev Iq:List (Nat×HO):=
 [(1000,.cells (Qh roots C A s dec st.length)),(1001,.tok 6 s.infs.length),(1002,.tok 1 s.drv.length),(1003,.map Em (FO 0 s.infs)),(1004,.arr 1 (st.map Bi))]
theorem Adj(hs:DD caps)(l:List (Cd))(p:Cd->Bool)(hF:∀x∈l,PC fF ([.agg (AF x)]++caps) (vb (p x)))(hl:l.length<9223372036854775807) :
  PC 288 [sl AF l,.clo fF caps] (vi (IL p l 0)):=by
 refine Ps DU Tryz.func288 rfl (Nz rfl) (Xi {i:Nat // i<=l.length/\∀j (hj:j<l.length),j<i->p l[j]=false} (Xi (fun i=>⟨[(0,sl AF l),(1,.clo fF caps),(7,vi (l.map AF).length),(8,vi i.1)],[],Ad⟩) (Xi (fun i=>l.length-i.1) (Yi (Xi ⟨0,by simp⟩ ?_) ?_))))
 .exact⟨⟨Zr,⟨rfl,hs.ids _⟩,Zr,Zr,Tv⟩,Tv,Fh,Tv⟩
 .intro⟨i,h1,h2⟩;refine Yi ?_ ?_
  .intro h;have h:i<l.length:=by simpa using h
   have hg:l[i]?=some l[i]:=Ge h;refine Xi (AF l[i]) (Yi (Yi (Nn i) (by simp[hg])) (Yi rfl (yN ?_)));have CQ:∀h,PC fF ([.agg (AF l[i])]++caps.map (str0 h)) (vb (p l[i])):=fun h=>by rw[hs.map];exact hF l[i] (Aq _)
   cases hp:p l[i]with
   |true=>
    rw[hp]at CQ;refine Xi .pure (Xi (vb true) (Yi (CQ _) ?_));rw[Jk h (fun j hj Iu=>h2 j hj Iu) hp,EU];exact .refl _
   |false=>
    rw[hp]at CQ;refine Xi .pure (Xi (vb false) (Yi (CQ _) (Yi (Ii i ch) (Xi ⟨i+1,by omega,fun j hj Iu=>?_⟩ ?_))))
    .by_cases e:j=i
     .subst e;exact hp
     .exact h2 j hj ch
    .exact⟨Dl l.length i ch,⟨Zr,⟨rfl,hs.ids _⟩,Zr,Zr,Tv⟩,Tv,Fh,Tv⟩
  .intro h;have h:¬i<l.length:=by simpa using h
   rw[Gq fun j hj=>h2 j hj ch];exact .refl _
theorem s86(hs:DD caps)(l:List (Nd))(p:Nd->Bool)(hF:∀x∈l,PC fF ([.agg (A6 x)]++caps) (vb (p x)))(hl:l.length<9223372036854775807) :
  PC 181 [sl A6 l,.clo fF caps] (vi (IL p l 0)):=by
 refine Ps DU Tryz.func181 rfl (Nz rfl) (Xi {i:Nat // i<=l.length/\∀j (hj:j<l.length),j<i->p l[j]=false} (Xi (fun i=>⟨[(0,sl A6 l),(1,.clo fF caps),(7,vi (l.map A6).length),(8,vi i.1)],[],Ad⟩) (Xi (fun i=>l.length-i.1) (Yi (Xi ⟨0,by simp⟩ ?_) ?_))))
 .exact⟨⟨Zr,⟨rfl,hs.ids _⟩,Zr,Zr,Tv⟩,Tv,Fh,Tv⟩
 .intro⟨i,h1,h2⟩;refine Yi ?_ ?_
  .intro h;have h:i<l.length:=by simpa using h
   have hg:l[i]?=some l[i]:=Ge h;refine Xi (A6 l[i]) (Yi (Yi (Nn i) (by simp[hg])) (Yi rfl (yN ?_)));have CQ:∀h,PC fF ([.agg (A6 l[i])]++caps.map (str0 h)) (vb (p l[i])):=fun h=>by rw[hs.map];exact hF l[i] (Aq _)
   cases hp:p l[i]with
   |true=>
    rw[hp]at CQ;refine Xi .pure (Xi (vb true) (Yi (CQ _) ?_));rw[Jk h (fun j hj Iu=>h2 j hj Iu) hp,EU];exact .refl _
   |false=>
    rw[hp]at CQ;refine Xi .pure (Xi (vb false) (Yi (CQ _) (Yi (Ii i ch) (Xi ⟨i+1,by omega,fun j hj Iu=>?_⟩ ?_))))
    .by_cases e:j=i
     .subst e;exact hp
     .exact h2 j hj ch
    .exact⟨Dl l.length i ch,⟨Zr,⟨rfl,hs.ids _⟩,Zr,Zr,Tv⟩,Tv,Fh,Tv⟩
  .intro h;have h:¬i<l.length:=by simpa using h
   rw[Gq fun j hj=>h2 j hj ch];exact .refl _
theorem zd(hs:DD caps)(l:List (Cd))(p:Cd->Bool)(hF:∀x∈l,PC fF ([.agg (AF x)]++caps) (vb (p x)))(hl:Cw l) :
  PC 248 [sl AF l,.clo fF caps] (vb (l.any p)):=by
 refine Ps DU Tryz.func248 rfl (Nz rfl) ?_;have hi:=Adj hs l p hF (by unfold Cw at hl;omega);have CQ:∀h,PC 288 [sl AF l,.clo fF (caps.map (str0 h))] (vi (IL p l 0)):=fun h=>by rw[hs.map];exact hi
 refine Xi .pure (Xi _ (Yi (CQ _) ?_));have ha:=IM (p:=p) l 0 (By 0);refine Yi ?_ ?_
 .intro h;rw[<-ha,Ap h];exact .refl _
 .intro h;rw[<-ha,Am h];exact .refl _
theorem uV(l:List Cd)(hl:Cw l):Bb Tryz.prog 138 [sl AF l] (Ag [] Ad) fun r h'=>r=.slice (.id 2000 10) (l.map AF)/\h'=Ag [(2000,.tok 10 (l.map AF).length)] Ad:=by
 refine Cm (MC (plT 10)) [(2,2000)] rfl Cu hm rfl Tryz.func138 aa0 rfl (Nz rfl) aa0 rfl ?_;have GA:CR 10 (l.map AF)/\([]:List (List AV)).length=0/\(([]:List (List AV)).length+(l.map AF).length)*128<=140737488355328/\([]:List (List AV)).length+(l.map AF).length<=9223372036854775807:=by
  refine⟨Fj (enc:=AF) (n:=10) (fun _=>rfl) l,rfl,?_,?_⟩<;>simp only[Ax,Lm]<;>unfold Cw at hl<;>omega
 have e2:HO.tok 10 (([]:List (List AV)).length+(l.map AF).length)=.tok 10 (l.map AF).length:=by rw[Ax,A7]
 have e3:AV.slice (.id 2000 10) ([]++l.map AF)=.slice (.id 2000 10) (l.map AF):=rfl;have full:∀st:St,(∃s:LS,St.le (MC (plT 10)) st s/\True)->True:=fun _ _=>trivial;refine Xi 0 (Xi 0 (Yi ?_ ?_))
 .intro _;refine cU [(0,sl AF l)] [] Z1 Tv (Xi 2 (Yi GA ?_));exact Xi _ (Yi (.refl _) (Yi e3 (Aa (fun o=>Ag [(2000,o)] Ad) e2)))
 .intro h;refine Yi ?_ ?_
  .refine Xi ⟨[],[],Ad⟩ (Yi ⟨trivial,trivial,fun _=>.inl rfl,BQ aa0⟩ ?_);refine Xi 0 ?_;exact Xi _ (Yi (.refl _) (Yi (show AV.slice (.id 2000 10) []=_ by rw[h]) (show Ag [(2000,HO.tok 10 0)] Ad=_ by rw[h];rfl)))
  .refine cU [(0,sl AF l)] [] Z1 Tv (Xi 2 (Yi GA ?_));exact Xi _ (Yi (.refl _) (Yi e3 (Aa (fun o=>Ag [(2000,o)] Ad) e2)))
theorem Ta:∀{l:List Nf} {k:Nat} {kx:Value} {a:AV},(kx,a)∈FO k l↔∃j i,l[j]?=some i/\kx=Mv i/\a=vi ((k+j:Nat):Int)
 | [],k,kx,a=>by simp[FO]
 |y::l,k,kx,a=>by
  unfold FO;rw[Ay,Ta];constructor
  .rintro(h | ⟨j,i,h1,h2,h3⟩)
   .cases h;exact⟨0,y,rfl,rfl,rfl⟩
   .exact⟨j+1,i,h1,h2,by rw[h3,show k+1+j=k+(j+1) by omega]⟩
  .rintro⟨j,i,h1,h2,h3⟩
   cases j with
   |zero=>cases h1;exact .inl (by rw[h2,h3];rfl)
   |succ j=>exact .inr ⟨j,i,h1,h2,by rw[h3,show k+1+j=k+(j+1) by omega]⟩
theorem WE{a b:Nf}(h:Mv a=Mv b):a=b:=by
 obtain⟨a1,a2,a3,a4,a5,a6⟩:=a;obtain⟨b1,b2,b3,b4,b5,b6⟩:=b;unfold Mv at h;simp at h;obtain⟨rfl,rfl,rfl,rfl,rfl,rfl⟩:=h
 rfl
theorem yy(h:MI i 0 l=some k):(Mv i,vi (k:Nat))∈FO 0 l:=by
 obtain⟨j,e,hj⟩:=NN h;exact Ta.2 ⟨j,i,hj,rfl,by rw[e]⟩
theorem qx(hn:l.Nodup)(h:MI i 0 l=some k):∀b,(Mv i,b)∈FO 0 l->b=vi (k:Nat):=fun b hb=>by
 obtain⟨j,e,hj⟩:=NN h;obtain⟨j',i',h1,h2,h3⟩:=Ta.1 hb
 have:=WE h2
 subst this;obtain⟨a1,a2⟩:=Ar.1 hj;obtain⟨b1,b2⟩:=Ar.1 h1
 have:j'=j:=(List.getElem_inj hn).1 (b2.trans a2.symm)
 subst this;rw[h3,e]
theorem r6(h:MI i 0 l=none):∀a,(Mv i,a)∉FO 0 l:=fun a ha=>by
 obtain⟨j,i',h1,h2,_⟩:=Ta.1 ha
 have:=WE h2
 subst this;exact Rk h (Av h1)
theorem eT:∀(l:List Nf) (k:Nat) (i:Nf),FO k (l++[i])=FO k l++[(Mv i,vi ((k+l.length:Nat):Int))]
 | [],k,i=>by simp[FO]
 |y::l,k,i=>by
  show(Mv y,_)::FO (k+1) (l++[i])=_;rw[eT l (k+1) i];simp[FO,show k+1+l.length=k+(l.length+1) by omega]
theorem uq(h:MI i 0 l=none):Ff (FO 0 l) (Mv i) (vi ((l.map CX).length:Int))=FO 0 (l++[i]):=by
 rw[Nb (r6 h),eT,Lm,A7]
theorem Ze{s:SS}{l:List Tm}(h:MI i 0 s.infs=some k):Eg s i l=(k,s):=by unfold Eg;rw[h]
theorem V4{s:SS}{l:List Tm}(h:MI i 0 s.infs=none)(hf:65536<=s.infs.length):Eg s i l=(s.infs.length-1,⟨s.infs,s.drv,true⟩):=by unfold Eg;rw[h];exact As hf
theorem Zc{s:SS}{l:List Tm}(h:MI i 0 s.infs=none)(hf:¬65536<=s.infs.length):Eg s i l=(s.infs.length,⟨s.infs++[i],s.drv++[l],s.full⟩):=by unfold Eg;rw[h];exact Ah hf
section
variable {roots:List Rq}{C A:List (Value×AV)}{s s' : SS}{dec:List Cd}{st:List (List Sk)}{i:Nf}{l:List Tm}
theorem kD{z:Int}(e:Eg s i l=(k,s'))(hz:z=k):vi z=vi ((Eg s i l).1:Nat)/\Ag (Iq roots C A s' dec st) Ad=Ag (Iq roots C A (Eg s i l).2 dec st) Ad:=by rw[e,hz];exact Zr
theorem wq(h:MI i 0 s.infs=none):Ag [(1000,.cells [sl A2 roots,.cmap Ek C,.cmap Ek A,.slice (.id 1001 6) (s.infs.map CX++[CX i]),.slice (.id 1002 1) (s.drv.map CG++[CG l]),.mref 1003,vb s.full,sl AF dec,sl Ao (AG dec),.msl 1004 st.length]),
      (1001,.tok 6 ((s.infs.map CX).length+[CX i].length)),(1002,.tok 1 ((s.drv.map CG).length+[CG l].length)),(1003,.map Em (Ff (FO 0 s.infs) (Mv i) (vi ((s.infs.map CX).length:Int)))),(1004,.arr 1 (st.map Bi))] Ad=Ag (Iq roots C A ⟨s.infs++[i],s.drv++[l],s.full⟩ dec st) Ad:=by
  have e1:s.infs.map CX++[CX i]=(s.infs++[i]).map CX:=by simp
  have e2:s.drv.map CG++[CG l]=(s.drv++[l]).map CG:=by simp
  have e3:(s.infs.map CX).length+[CX i].length=(s.infs++[i]).length:=by simp
  have e4:(s.drv.map CG).length+[CG l].length=(s.drv++[l]).length:=by simp
  rw[e1,e2,e3,e4,uq h]
end
theorem ze(p:ByteArray):PC 249 [.agg (AF c),.cptr [vs p]] (vb (decide (c.rel.path=p))):=by
 refine Ps (pC [2] []) Tryz.func249 rfl (Nz rfl) (Yi (fun h1=>?_) (fun h1=>?_))
 .exact .of_eq (show vb true=vb (decide (c.rel.path=p)) by rw[Ap h1])
 exact .of_eq (show vb false=vb (decide (c.rel.path=p)) by rw[Am h1])
theorem zb(t:Tm)(p:ByteArray):PC 232 [.agg (AO t),.cptr [vs p]] (vb (decide (t.path=p))):=by
 refine Ps (pC [2] []) Tryz.func232 rfl (Nz rfl) (Yi (fun h1=>?_) (fun h1=>?_))
 .exact .of_eq (show vb true=vb (decide (t.path=p)) by rw[Ap h1])
 exact .of_eq (show vb false=vb (decide (t.path=p)) by rw[Am h1])
theorem o5(l:List Tm)(p:ByteArray)(hl:Cw l):PC 185 [sl AO l,vs p] (vb (DZ l p)):=by
 refine Ps (pC [3] []) Tryz.func185 rfl (Nz rfl) (BL (Bt (DZ l p)) (fun h1=>?_) (fun h1=>?_))
 .refine Xi .pure (Xi _ (Yi (cb h1 (show PC 231 [sl AO l,.clo 232 [.cptr [vs p]]] (vb (DZ l p))from sW (fF:=232) (caps:=[.cptr [vs p]]) (fun c hc=>by obtain rfl:=Aj.1 hc;intro h;rfl) l (fun t=>decide (t.path=p)) (fun t _=>zb t p) hl)) ?_));exact .of_eq (show vb true=vb (DZ l p) by rw[h1])
 refine Xi .pure (Xi _ (Yi (cb h1 (show PC 231 [sl AO l,.clo 232 [.cptr [vs p]]] (vb (DZ l p))from sW (fF:=232) (caps:=[.cptr [vs p]]) (fun c hc=>by obtain rfl:=Aj.1 hc;intro h;rfl) l (fun t=>decide (t.path=p)) (fun t _=>zb t p) hl)) ?_));exact .of_eq (show vb false=vb (DZ l p) by rw[h1])
theorem za(p:ByteArray)(hl:Cw dec):Bb Tryz.prog 193 [.ref 1000 0,vs p] (Ag (Iq roots C A s dec st) Ad) fun r h'=>r=vb (Da dec p)/\h'=Ag (Iq roots C A s dec st) Ad:=by
 refine Cm (MC (pC [3] [])) [(1000,1000),(1001,1001),(1002,1002),(1003,1003),(1004,1004)] rfl Cu hm rfl Tryz.func193 aa0 rfl (Nz rfl) aa0 rfl (BL (Bt (Da dec p)) (fun h1=>?_) (fun h1=>?_))
 .refine Xi .pure (Xi _ (Yi (cb h1 (show PC 248 [sl AF dec,.clo 249 [.cptr [vs p]]] (vb (Da dec p))from zd (fF:=249) (caps:=[.cptr [vs p]]) (fun c hc=>by obtain rfl:=Aj.1 hc;intro h;rfl) dec (fun c=>decide (c.rel.path=p)) (fun c _=>ze c p) hl)) ?_));exact Xi _ (Yi (.refl _) (Yi (show vb true=vb (Da dec p) by rw[h1]) rfl))
 refine Xi .pure (Xi _ (Yi (cb h1 (show PC 248 [sl AF dec,.clo 249 [.cptr [vs p]]] (vb (Da dec p))from zd (fF:=249) (caps:=[.cptr [vs p]]) (fun c hc=>by obtain rfl:=Aj.1 hc;intro h;rfl) dec (fun c=>decide (c.rel.path=p)) (fun c _=>ze c p) hl)) ?_));exact Xi _ (Yi (.refl _) (Yi (show vb false=vb (Da dec p) by rw[h1]) rfl))
theorem ri(i:Nf)(l:List Tm)(k:Nat)(hk:MI i 0 s.infs=some k)(PI:s.infs.Nodup):Bb Tryz.prog 227 [.ref 1000 0,.agg (CX i),sl AO l] (Ag (Iq roots C A s dec st) Ad) fun r h'=>r=vi ((Eg s i l).1:Nat)/\h'=Ag (Iq roots C A (Eg s i l).2 dec st) Ad:=by
 refine Cm (MC (pC [4] [])) [(1000,1000),(1001,1001),(1002,1002),(1003,1003),(1004,1004)] rfl Cu hm rfl Tryz.func227 aa0 rfl (Nz rfl) aa0 rfl (yN ?_);refine Or.inl (Xi (vi (k:Nat)) (Yi (Yi (yy hk) (qx PI hk)) ?_));refine Yi aa0 ?_;exact Xi _ (Yi (.refl _) (kD (Ze hk) rfl))
theorem rh(i:Nf)(l:List Tm)(hk:MI i 0 s.infs=none)(hn:s.infs.length<=65536)(hdl:s.drv.length=s.infs.length):Bb Tryz.prog 227 [.ref 1000 0,.agg (CX i),sl AO l] (Ag (Iq roots C A s dec st) Ad) fun r h'=>r=vi ((Eg s i l).1:Nat)/\h'=Ag (Iq roots C A (Eg s i l).2 dec st) Ad:=by
 have hdn:s.drv.length<=65536:=by omega
 have hml:(s.infs.map CX).length=s.infs.length:=Lm _;refine Cm (MC (pC [4] [])) [(1000,1000),(1001,1001),(1002,1002),(1003,1003),(1004,1004)] rfl Cu hm rfl Tryz.func227 aa0 rfl (Nz rfl) aa0 rfl (yN ?_);refine Or.inr (Yi (r6 hk) ?_);refine Yi aa0 (Yi (fun h1=>?_) (fun h1=>?_))
 .refine yN (Yi (by show A5 (((s.infs.map CX).length:Int)-(1:Int));unfold A5;omega) ?_);exact Xi _ (Yi (.refl _) (kD (V4 hk (by have q:=h1;rw[Lm]at q;omega)) (by have q:=h1;rw[Lm]at q⊢;omega)))
 refine yN (Yi aa0 (yN (Yi (gA rfl ch Cl) (yN (Yi aa0 (Yi (gA rfl ch Cl) (yN ?_)))))));have hq:=kD (roots:=roots) (C:=C) (A:=A) (dec:=dec) (st:=st) (z:=((s.infs.map CX).length:Int)) (Zc (l:=l) hk (by have q:=h1;rw[Lm]at q;omega)) (by rw[Lm]);exact Xi _ (Yi (.refl _) (Yi hq.1 ((wq hk).trans hq.2)))
structure LP(x:List Rl)(roots:List Rq)(s:SS):Prop where
 der:FG x roots s
 nodup:s.infs.Nodup
abbrev so(o:Nat×SS)(r:AV)(h' : Nat->HO):Prop:=r=vi (o.1:Nat)/\h'=Ag (Iq roots C A o.2 dec st) Ad
theorem rg(i:Nf)(l:List Tm)(hn:s.infs.length<=65536)(hdl:s.drv.length=s.infs.length)(PI:s.infs.Nodup) :
  Bb Tryz.prog 227 [.ref 1000 0,.agg (CX i),sl AO l] (Ag (Iq roots C A s dec st) Ad) (so roots C A dec st (Eg s i l)):=by
 cases hk:MI i 0 s.infs with
 |some k=>exact ri roots C A s dec st i l k hk PI
 |none=>exact rh roots C A s dec st i l hk hn hdl
abbrev VX:HU:=[(1000,1000),(1001,1001),(1002,1002),(1003,1003),(1004,1004)]
theorem xd{h2:Nat->HO}{cs:List AV}{o1 o2 o3 o4:HO}(e0:h2 1000=.cells cs)(e1:h2 1001=o1)(e2:h2 1002=o2)(e3:h2 1003=o3)(e4:h2 1004=o4) :
  Ft VX h2=Ag [(1000,.cells (cs.map (ren1 (Cc VX) h2))),(1001,o1.ren (Cc VX) h2),(1002,o2.ren (Cc VX) h2),(1003,o3.ren (Cc VX) h2),(1004,o4.ren (Cc VX) h2)] Ad:=by
 unfold Ft;simp only[YL];rw[e0,e1,e2,e3,e4];rfl
theorem iF{s:SS}{n:Nd}(h:n.path=mt):Eg s ⟨0,mt,0,n.number,0,0⟩ (J9 n.rq)=BD s n:=by unfold BD NT H9;rw[As h,As h]
theorem mF{s:SS}{n:Nd}(h:¬n.path=mt):Eg s ⟨1,n.path,n.place,n.number,0,0⟩ (EA n.path n.place n.rq)=BD s n:=by unfold BD NT H9;rw[Ah h,Ah h]
abbrev XZ(d:List (List Tm))(S:List Sl):AV:=.tup [vi (((Ov d S).getD 0:Nat):Int),vb (Ov d S).isSome]
theorem ZA{S:List Sl}:∀{l:List (List Tm)} {b i:Nat} {t:List Tm},l[i]?=some t->CY t S=true->(∀j u,j<i->l[j]?=some u->CY u S=false)->Pq S b l=some (b+i)
 | [],_,_,_,h,_,_=>by simp at h
 |u::l,b,0,t,h,he,_=>by cases h;unfold Pq;rw[As he];rfl
 |u::l,b,i+1,t,h,he,hn=>by
  unfold Pq;rw[Ah (by rw[hn 0 u ch rfl];decide),ZA (i:=i) (by simpa using h) he (fun j v hj hv=>hn (j+1) v ch (by simpa using hv))]
  congr 1;omega
theorem ZB{S:List Sl}:∀{l:List (List Tm)} {b:Nat},(∀t∈l,CY t S=false)->Pq S b l=none
 | [],_,_=>rfl
 |u::l,b,h=>by
  unfold Pq;rw[Ah (by rw[h u (Ab ..)];decide)];exact ZB fun t ht=>h t (Ae _ ht)
theorem s88(n:Nd)(hn:s.infs.length<=65536)(hdl:s.drv.length=s.infs.length)(PI:s.infs.Nodup)(hq:Cw n.rq.set)(hp:A5 (n.place+1)):Bb Tryz.prog 183 [.ref 1000 0,.agg (A6 n)] (Ag (Iq roots C A s dec st) Ad) fun r h'=>so roots C A dec st (BD s n) r h':=by
 refine Cm (MC ⟨[3],[],[],[],[],[],[],[],[(15,5),(31,5)],[],[]⟩) [(1000,1000),(1001,1001),(1002,1002),(1003,1003),(1004,1004)] rfl Cu hm rfl Tryz.func183 aa0 rfl (Nz rfl) aa0 rfl (Yi (fun h1=>?_) (fun h1=>?_))
 .refine yN (Xi _ (Yi (AaA n.rq hq) (Xi VX (Xi [(1000,.cells (srM roots C A s dec 1004 st.length)),(1001,.tok 6 s.infs.length),(1002,.tok 1 s.drv.length),(1003,.map Em (FO 0 s.infs)),(1004,.arr 1 (st.map Bi))] (Xi (Iq roots C A (Eg s ⟨0,mt,0,n.number,0,0⟩ (J9 n.rq)).2 dec st) (Xi [.ref 1000 0,.agg [vi 0,vs ⟨#[]⟩,vi 0,vi n.number,vi 0,vi 0],sl AO (J9 n.rq)] (Xi (vi (((Eg s ⟨0,mt,0,n.number,0,0⟩ (J9 n.rq)).1:Nat):Int):AV) (Yi (fun h2 hh=>Yi ((xd (show h2 1000=.cells (srM roots C A s dec 1004 st.length)from hh 1000 Cl) (show h2 1001=.tok 6 s.infs.length from hh 1001 Cl) (show h2 1002=.tok 1 s.drv.length from hh 1002 Cl) (show h2 1003=.map Em (FO 0 s.infs)from hh 1003 Cl) (show h2 1004=.arr 1 (st.map Bi)from hh 1004 Cl)).trans rfl) rfl) (Yi aa0 (Yi (rg roots C A s dec st ⟨0,mt,0,n.number,0,0⟩ (J9 n.rq) hn hdl PI) (Yi aa0 ?_)))))))))));have ei:=iF (s:=s) h1;exact Xi _ (Yi (.refl _) (Yi (show vi (((Eg s ⟨0,mt,0,n.number,0,0⟩ (J9 n.rq)).1:Nat):Int)=vi (((BD s n).1:Nat):Int) by rw[ei]) (show Ag (Iq roots C A (Eg s ⟨0,mt,0,n.number,0,0⟩ (J9 n.rq)).2 dec st) Ad=Ag (Iq roots C A (BD s n).2 dec st) Ad by rw[ei])))
 refine yN (Xi _ (Yi (AaB n.path n.place n.rq hp hq) (Xi VX (Xi [(1000,.cells (srM roots C A s dec 1004 st.length)),(1001,.tok 6 s.infs.length),(1002,.tok 1 s.drv.length),(1003,.map Em (FO 0 s.infs)),(1004,.arr 1 (st.map Bi))] (Xi (Iq roots C A (Eg s ⟨1,n.path,n.place,n.number,0,0⟩ (EA n.path n.place n.rq)).2 dec st) (Xi [.ref 1000 0,.agg [vi 1,vs n.path,vi n.place,vi n.number,vi 0,vi 0],sl AO (EA n.path n.place n.rq)] (Xi (vi (((Eg s ⟨1,n.path,n.place,n.number,0,0⟩ (EA n.path n.place n.rq)).1:Nat):Int):AV) (Yi (fun h2 hh=>Yi ((xd (show h2 1000=.cells (srM roots C A s dec 1004 st.length)from hh 1000 Cl) (show h2 1001=.tok 6 s.infs.length from hh 1001 Cl) (show h2 1002=.tok 1 s.drv.length from hh 1002 Cl) (show h2 1003=.map Em (FO 0 s.infs)from hh 1003 Cl) (show h2 1004=.arr 1 (st.map Bi)from hh 1004 Cl)).trans rfl) rfl) (Yi aa0 (Yi (rg roots C A s dec st ⟨1,n.path,n.place,n.number,0,0⟩ (EA n.path n.place n.rq) hn hdl PI) (Yi aa0 ?_)))))))))));have ei:=mF (s:=s) h1;exact Xi _ (Yi (.refl _) (Yi (show vi (((Eg s ⟨1,n.path,n.place,n.number,0,0⟩ (EA n.path n.place n.rq)).1:Nat):Int)=vi (((BD s n).1:Nat):Int) by rw[ei]) (show Ag (Iq roots C A (Eg s ⟨1,n.path,n.place,n.number,0,0⟩ (EA n.path n.place n.rq)).2 dec st) Ad=Ag (Iq roots C A (BD s n).2 dec st) Ad by rw[ei])))
theorem s89(hd:s.drv.length<=65536)(ht:∀t∈s.drv,kw t)(hS:Cw S):Bb Tryz.prog 184 [.ref 1000 0,sl Ao S] (Ag (Iq roots C A s dec st) Ad) fun r h'=>r=XZ s.drv S/\h'=Ag (Iq roots C A s dec st) Ad:=by
 refine Cm (MC DU) [(1000,1000),(1001,1001),(1002,1002),(1003,1003),(1004,1004)] rfl Cu hm rfl Tryz.func184 aa0 rfl (Nz rfl) aa0 rfl (Xi {i:Nat // i<=s.drv.length/\∀j u,j<i->s.drv[j]?=some u->CY u S=false} (Xi (fun q=>⟨[(1,sl Ao S),(11,.slice (.id 1002 1) (s.drv.map CG)),(12,vi (s.drv.map CG).length),(13,vi q.1)],[(1000,.cells (srM roots C A s dec 1004 st.length)),(1001,.tok 6 s.infs.length),(1002,.tok 1 s.drv.length),(1003,.map Em (FO 0 s.infs)),(1004,.arr 1 (st.map Bi))],Ad⟩) (Xi (fun q=>s.drv.length-q.1) (Yi (Xi ⟨0,AE _,fun j u h=>absurd h (FM j)⟩ ?_) ?_))))
 .exact⟨Z4,Z5,Fh,BQ aa0⟩
 intro⟨i,i1,i2⟩;refine Yi (fun h1=>?_) (fun h1=>?_)
 .have h1:(i:Int)<((s.drv.map CG).length:Int):=h1;have n1:=Lu h1;refine Xi (CG s.drv[i]) (Yi (Y4 n1) (Yi rfl (BL (Bt (CY s.drv[i] S)) (fun h2=>?_) (fun h2=>?_))))
  .refine Xi .pure (Xi _ (Yi (cb h2 (c91 s.drv[i] S (ht _ (Aq _)) hS)) ?_));have eE:Ov s.drv S=some i:=by unfold Ov;rw[ZA (Ge n1) h2 i2,A7]
   exact Xi _ (Yi (.refl _) (Yi (show AV.tup [vi (i:Int),vb true]=XZ s.drv S by unfold XZ;rw[eE];rfl) rfl))
  have h2:(CY s.drv[i] S)=false:=h2;refine Xi .pure (Xi _ (Yi (cb h2 (c91 s.drv[i] S (ht _ (Aq _)) hS)) (Yi (Ii i ch) ?_)));refine Xi ⟨i+1,by omega,fun j u hj hu=>by
    by_cases e:j=i
    .subst e;rw[Ge n1]at hu;cases hu;exact h2
    .exact i2 j u ch hu⟩ ?_
  exact⟨Dl s.drv.length i ch,Z4,Z5,Fh,BQ aa0⟩
 have h1:¬((i:Int)<((s.drv.map CG).length:Int)):=h1;have n1:=Ip h1;have eE:Ov s.drv S=none:=ZB fun t ht=>by
  obtain⟨j,hj⟩:=Cg.1 ht
  have:=(Ar.1 hj).1
  exact i2 j t (by have q:=h1;rw[Lm]at q;omega) hj
 exact Xi _ (Yi (.refl _) (Yi (show AV.tup [vi 0,vb false]=XZ s.drv S by unfold XZ;rw[eE];rfl) rfl))
end Go.Eng
