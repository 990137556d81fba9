/- Lemmas 33. -/
import Derived.Test.YtjhkbdgingfbaaaGreatDoorHA32
set_option maxHeartbeats 4000000
namespace Go.Eng
open Go.Proofs Go.RowKit Go.Shelf
variable {Db:Array Value}{U:Nat->Prop}{w:World}{g:Gh}{g1 n cap:Nat}(bs:List UInt8)
theorem jE(g:Gh)(w:World)(U:Nat->Prop):∀(vs:List Value),Br g w U (.tup (vs.map .v)) (.tuple vs.toArray):=fun vs=>
 .tup _ _ _ B0 fun i av x h1 h2=>by
  rw[Aw,AD]at h1;obtain⟨a,e1,rfl⟩:=h1
  have:vs[i]?=some x:=by simpa using h2
  rw[e1]at this;cases this;exact .v _ _
theorem jD{bs:List UInt8}(h:Br g w U (.slice .none (bs.map Dk)) (.slice (some ⟨g1,0,none⟩) n cap)):∀(j:Nat) (x:UInt8),bs[j]?=some x->g.S g1 j/\w.cell? ⟨g1,j,none⟩=some (Value.int .u8 x.toNat):=by
 generalize hes:bs.map Dk=es at h;cases h with
 |snil=>
  intro j x hx
  have:bs=[]:=by simpa using hes
  subst this;simp at hx
 |slice _ _ b off sz cap val hc hl Dg D8=>
  intro j x hx;have h1:es[j]?=some (Dk x):=by rw[<-hes,Aw,hx];rfl
  have D5:sz=1:=(hl j _ h1).symm;subst D5;obtain⟨q1,q2,_⟩:=Dg j _ 0 (.v (.int .u8 x.toNat)) h1 rfl;have q3:=(D8 j _ 0 _ h1 rfl).v_eq;rw[q3]at q2;simp only[IX,DX,A7]at q1 q2;exact⟨q1,q2⟩
theorem ce{bs:List UInt8}(h:∀(j:Nat) (x:UInt8),bs[j]?=some x->Db[j]?=some (Value.int .u8 x.toNat)):Db.toList.take bs.length=Lib.byteCells bs:=by
 apply Cz;intro j;unfold Lib.byteCells;rw[Gn,Aw]
 by_cases hj:j<bs.length
 .rw[As hj,AI,At hj,h j _ (At hj)];rfl
 .rw[Ah hj,AQ ch];rfl
theorem Vn{bs:List UInt8}(h:Db.toList.take bs.length=Lib.byteCells bs):∀(j:Nat) (x:UInt8),bs[j]?=some x->Db[j]?=some (Value.int .u8 x.toNat):=fun j x hx=>by
 have hj:j<bs.length:=(Ar.1 hx).1;have q:=Aa (fun z=>z[j]?) h;simp only[Gn,As hj,AI]at q;rw[q,Lib.byteCells,Aw,hx];rfl
abbrev SA:AV:=.slice (.id 1001 1) (bs.map Dk)
abbrev LQ:Nat->HO:=Ag [(1000,.bld (SA bs)),(1001,.bbf bs.length)] Ad
theorem lf(cs:List UInt8):AR (AR (LQ bs) 1001 (.bbf cs.length)) 1000 (.bld (SA cs))=LQ cs:=by
 funext i
 by_cases e:i=1000
 .subst e;rw[A3];rfl
 .rw[BR _ _ _ _ e]
  by_cases e' : i=1001
  .subst e';rw[A3];rfl
  .rw[BR _ _ _ _ e'];simp[Ag,B9 e,B9 e']
theorem Zj{bs:List UInt8}{v:Value}(hx:Br g w U (SA bs) v)(o1:DR g w U 1001 (.bbf bs.length)) :
  v=g.ρ 1001/\w.ownsRow 0 5 1 v bs.length (Lib.byteCells bs):=by
 obtain⟨t1,l1,ii⟩:=o1;have iz:v=g.ρ 1001/\Br g w U (.slice .none (bs.map Dk)) v:=by
  cases hx with
  |tok _ _ _ _ _ h hl hu ht hn hx=>exact⟨hx (by rw[l1,AS]),h⟩
 refine⟨iz.1,by simp[Lib.byteCells],?_⟩;rcases ii with ⟨h0,e,_⟩ | ⟨g1,cap,Db,e1,e2,e3,e4,e5,e6,e7⟩
 .exact .inl ⟨iz.1.trans e,h0⟩
 .refine .inr ⟨g1,cap,Db,iz.1.trans e1,AE _,e5,e3.2,e4,by rw[e6,IX],?_⟩;have hr:=iz.2;rw[iz.1,e1]at hr;rw[IX];refine ce fun j x hx=>?_;have q:=(jD hr j x hx).2;rw[Lib.cell_of_heap e5]at q;exact q
theorem re{cs:List UInt8}{E:TypeId}{f:Nat×Nat}(hn:n=cs.length)(hb:w.heap[g1]?=some (.cells Db E f))(hc:n<=cap)(ht:∀(j:Nat) (x:UInt8),cs[j]?=some x->Db[j]?=some (Value.int .u8 x.toNat))(hS:∀o,o<cs.length->g.S g1 o):Br g w U (.slice .none (cs.map Dk)) (.slice (some ⟨g1,0,none⟩) n cap):=by
 subst hn;have hl:(cs.map Dk).length=cs.length:=AS _;rw[<-hl];have key:∀(i:Nat) (c:List AV) (j:Nat) (av:AV),(cs.map Dk)[i]?=some c->c[j]?=some av->∃x,cs[i]?=some x/\j=0/\av=.v (.int .u8 x.toNat):=by
  intro i c j av h1 h2;rw[Aw]at h1;obtain⟨x,q1,rfl⟩:=AD.1 h1
  match j,h2 with
  |0,h2=>exact⟨x,q1,rfl,(BW h2).symm⟩
 refine .slice _ _ g1 0 1 cap (fun i _=>.int .u8 ((cs[i]?).getD 0).toNat) (by rw[hl];exact hc) (fun i c h=>?_) (fun i c j av h1 h2=>?_) (fun i c j av h1 h2=>?_)
 .rw[Aw]at h;obtain⟨x,_,rfl⟩:=AD.1 h;rfl
 .obtain⟨x,q1,rfl,rfl⟩:=key i c j av h1 h2;have hi:i<cs.length:=(Ar.1 q1).1;refine⟨by simpa using hS i hi,?_,rfl⟩;rw[Lib.cell_of_heap hb,q1];simpa using ht i x q1
 .obtain⟨x,q1,rfl,rfl⟩:=key i c j av h1 h2;rw[q1];exact .v _ _
theorem Aai(s:ByteArray)(Ca:bs.length+s.size<=140737488355328) :
  Bb Tryz.prog 57 [.ref 1000 0,vs s] (LQ bs) fun r h'=>r=.tup [vi s.size,.v .nilIface]/\h'=LQ (bs++s.data.toList):=by
 refine⟨VI 57 Tryz.func57 aa0 rfl,fun g w us hs hv hI=>?_⟩
 match us,hs,hv with
 | ⟨[v0,v1]⟩,_,hv=>
 have r0:Br g w (AN (LQ bs)) (.ref 1000 0) v0:=hv 0 _ v0 rfl rfl;have r1:=(hv 1 (vs s) v1 rfl rfl).v_eq;subst r1;obtain⟨t0,b,p,v,w0,ρ0,hb,hp,hx,hS⟩:DR g w (AN (LQ bs)) 1000 (.bld (SA bs)):=hI.objs 1000;have o1:DR g w (AN (LQ bs)) 1001 (.bbf bs.length):=hI.objs 1001;obtain⟨iz,Jj⟩:=Zj hx o1;obtain⟨t1,l1,ii⟩:=o1;have ue:v0=.pointer (some ⟨b,0,none⟩):=by
  cases r0 with
  |ref _ _ _ b' hu ht hr=>exact hr.symm.trans ρ0
 subst ue;have af:∀g1,v.ownBlock=some g1->g.own 1001=some g1/\(∀o,g.S g1 o->o<bs.length)/\∃Db,w.heap[g1]?=some (.cells Db 5 (0,0)):=fun g1 e=>by
  rcases ii with ⟨_,e0,_⟩ | ⟨g2,cap,Db,e1,e2,_,_,e5,_,e7⟩
  .rw[iz,e0]at e;cases e
  .rw[iz,e1]at e;injection e with e;have e:g2=g1:=e;subst e;exact⟨e2,e7,Db,e5⟩
 have tU:(LQ bs 1000).live:=trivial;have kl:(LQ bs 1001).live:=trivial;have Dx:b<w.heap.size:=(hI.loc 1000 b tU w0).1;have Dv:v.ownBlock≠some b:=fun e=>by
  have:=hI.inj 1000 1001 b tU kl w0 (af b e).1
  cases this
 refine(rC b p v bs.length _ s w hb hp Jj Dv Ca).mono ?_
 rintro e w' ⟨rfl,v',oP,Sc,⟨rU,zR,ho3⟩,D5,hk,hvb,hz⟩
 have hN:(bs++s.data.toList).length=bs.length+s.size:=by rw[Ac];rfl
 have L8:Lib.byteCells bs++Lib.strCells s=Lib.byteCells (bs++s.data.toList):=by unfold Lib.byteCells Lib.strCells;rw[Az]
 rw[L8]at Sc
 have eP : ∀g2,v'.ownBlock=some g2->∃cap Db,v'=.slice (some ⟨g2,0,none⟩) (bs.length+s.size) cap/\w'.heap[g2]?=some (.cells Db 5 (0,0))/\bs.length+s.size<=cap/\cap<=maxLen/\Db.size=cap /\
   ∀(j:Nat) (x:UInt8),(bs++s.data.toList)[j]?=some x->Db[j]?=some (Value.int .u8 x.toNat):=fun g2 e=>by
  rcases Sc.2 with ⟨e1,_⟩ | ⟨g3,cap,Db,e1,_,e3,e4,e5,e6,e7⟩
  .rw[e1]at e;cases e
  .rw[e1]at e;injection e with e;have e:g3=g2:=e;subst e;refine⟨cap,Db,e1,e3,e4,e5,by simpa using e6,Vn ?_⟩;rw[hN];simpa using e7
 have cJ : v'.ownBlock≠some b:=by
  rcases hvb with e | ⟨e,_⟩
  .rw[e];exact Dv
  .rw[e];intro e;injection e with e;omega
 -- the world in which the buffer alone has turned
 obtain⟨wm,zV⟩:∃wm:World,wm={ w' with heap:=w'.heap.setIfInBounds b (.cells #[p,v] 104 (0,0)) }:=⟨_,rfl⟩;have x6:wm.heap[b]?=some (.cells #[p,v] 104 (0,0)):=by
  subst zV
  have:b<w'.heap.size:=by omega
  simp[this]
 have tV:∀k,k≠b->wm.heap[k]?=w'.heap[k]?:=fun k hk=>by
  subst zV;simp[Ne.symm hk]
 have zO:wm.heap.size=w'.heap.size:=by subst zV;simp
 have vI:wm.os=w'.os/\wm.tape=w'.tape/\wm.output=w'.output:=by subst zV;exact⟨rfl,rfl,rfl⟩
 have iq:∀g2,v'.ownBlock=some g2->g2<w'.heap.size:=fun g2 e=>by
  obtain⟨cap,Db,_,h1,_⟩:=eP g2 e;rcases BT g2 w'.heap.size with h | h
  .exact h
  .rw[K4 h]at h1;cases h1
 have tE:∀g1 o,v.ownBlock=some g1->g.S g1 o->wm.cell? ⟨g1,o,none⟩=w.cell? ⟨g1,o,none⟩:=fun g1 o e hs=>by
  have tL:g1≠b:=fun h=>Dv (by rw[e,h]);rcases hvb with q | ⟨_,q⟩
  .obtain⟨cap,Db,_,h1,h2,h3,h4,h5⟩:=eP g1 (q.trans e);have ho:=(af g1 e).2.1 o hs;have zW:bs[o]?=some bs[o]:=At ho;have kp:(bs++s.data.toList)[o]?=some bs[o]:=by rw[AU ho];exact zW
   have hw:=Jj.cells (g:=g1) e o (.int .u8 bs[o].toNat) (by unfold Lib.byteCells;rw[Aw,zW];rfl);rw[Addr.add_lit,A7]at hw;rw[hw,Lib.cell_of_heap ((tV g1 tL).trans h1)];exact h5 o _ kp
  .have:wm.heap[g1]?=w.heap[g1]?:=(tV g1 tL).trans (q g1 (hI.loc 1001 g1 kl (af g1 e).1).1 tL)
   simp only[World.cell?,this]
 obtain⟨S',OW⟩:∃S' : Nat->Nat->Prop,S'=fun b' o=>g.S b' o\/(v'.ownBlock=some b'/\o<bs.length+s.size):=⟨_,rfl⟩
 obtain⟨k1,k2⟩:=hI.upd 1001 (.bbf (bs++s.data.toList).length) v' (bs++s.data.toList).length true v'.ownBlock S' wm v.ownBlock
  ⟨vI.1.trans rU,vI.2.1.trans zR,vI.2.2.trans ho3,by rw[zO];exact D5⟩
  (fun k qb IA=>by
   by_cases e:k=b
   .subst e;exact x6.trans hb.symm
   .rw[tV k e];exact hk k qb e IA)
  (fun b0 e=>⟨kl,(af b0 e).1⟩) (fun _ _ h=>by rw[OW];exact .inl h)
  (fun b0 o h=>by
   rw[OW]at h;rcases h with h | ⟨h,_⟩
   .exact .inl h
   .refine .inr ⟨by rw[zO];exact iq b0 h,?_⟩;rcases hvb with q | ⟨q,_⟩
    .exact .inr ⟨kl,(af b0 (q.symm.trans h)).1⟩
    .rw[q]at h;injection h with h;exact .inl ch)
  (fun b0 o e hs=>⟨tE b0 o e hs,fun es ck he=>by
   obtain⟨_,_,Db,hc⟩:=af b0 e;rw[hc]at he;cases he⟩)
  (fun b0 _ e=>⟨by rw[zO];exact iq b0 e,by
   rcases hvb with q | ⟨q,_⟩
   .exact .inl ⟨kl,(af b0 (q.symm.trans e)).1⟩
   .rw[q]at e;injection e with e;exact .inr ch⟩)
  B0 (fun _=>⟨t1.symm,by rw[l1,hN];omega,fun h=>(by rw[t1]at h;cases h),fun h=>(by rw[hz (by rw[l1,hN]at h;omega)];exact iz)⟩)
  (fun _ _=>by
   refine⟨by simp[Gh.upd],by simp[Gh.upd],?_⟩;rcases Sc.2 with ⟨e1,e2⟩ | ⟨g2,cap,Db,e1,e2⟩
   .exact .inl ⟨by rw[hN];exact e2,by simp[Gh.upd,e1],by simp[Gh.upd,e1,Value.ownBlock]⟩
   .obtain⟨cap,Db,f1,f2,f3,f4,f5,_⟩:=eP g2 (by rw[e1];rfl);have tL:g2≠b:=fun h=>cJ (by rw[e1,h];rfl);refine .inr ⟨g2,cap,Db,by simp[Gh.upd,f1,hN],by simp[Gh.upd,f1,Value.ownBlock],⟨?_,by rw[hN];exact f3⟩,f4,(tV g2 tL).trans f2,f5,fun o ho=>?_⟩
    .rw[hN];rcases Nat.eq_zero_or_pos (bs.length+s.size)with h0 | h0
     .exfalso
      have hvn:=hz ch;rcases ii with ⟨_,e0,_⟩ | ⟨_,_,_,_,_,e3,_⟩
      .rw[hvn,iz,e0]at e1;cases e1
      .omega
     .exact h0
    .have ho:S' g2 o:=ho;rw[OW]at ho;rcases ho with ho | ⟨_,ho⟩
     .rw[hN];rcases hvb with q | ⟨q,_⟩
      .have:=(af g2 (q.symm.trans (by rw[e1];rfl))).2.1 o ho;omega
      .have h9:v'.ownBlock=some g2:=by rw[e1];rfl
       rw[q]at h9;injection h9 with h9
       have:=hI.slt _ _ ho;omega
     .rw[hN];exact ho)
 have Yl:(AR (LQ bs) 1001 (.bbf (bs++s.data.toList).length) 1000).live:=trivial
 obtain⟨m1,m2⟩:=k1.upd 1000 (.bld (SA (bs++s.data.toList))) (.pointer (some ⟨b,0,none⟩)) (g.ln 1000) false (some b) S' w' (some b)
  ⟨vI.1.symm,vI.2.1.symm,vI.2.2.symm,by rw[zO];exact Ai _⟩
  (fun k _ h=>(tV k (fun e=>h (by rw[e]))).symm)
  (fun b0 e=>by injection e with e;subst e;exact⟨Yl,by simp[Gh.upd,w0]⟩)
  (fun _ _ h=>h) (fun _ _ h=>.inl h)
  (fun b0 o e h=>by
   injection e with e;subst e
   have h:S' b o:=h;rw[OW]at h;rcases h with h | ⟨h,_⟩
   .exact absurd h (hS o)
   .exact absurd h cJ)
  (fun b0 _ e=>by injection e with e;subst e;exact⟨by omega,.inl ⟨Yl,by simp[Gh.upd,w0]⟩⟩)
  B0 (fun _=>⟨by simp[Gh.upd,t0],by simp[Gh.upd],fun _=>by simp[Gh.upd,ρ0],fun _=>by simp[Gh.upd,ρ0]⟩)
  (fun _ _=>by
   refine⟨by simp[Gh.upd],b,.pointer (some ⟨b,0,none⟩),v',by simp[Gh.upd],by simp[Gh.upd],oP,.inr rfl,?_,fun o h=>?_⟩
   .refine .tok _ 1001 1 _ _ ?_ (fun c hc=>by obtain⟨x,_,rfl⟩:=Ak.1 hc;rfl) ?_ (by simp[Gh.upd]) (by simp[Gh.upd]) (fun _=>by simp[Gh.upd])
    .rcases Sc.2 with ⟨e1,e2⟩ | ⟨g2,cap,Db,e1,_⟩
     .have e3:bs++s.data.toList=[]:=AL (by rw[hN];exact e2);rw[e3,e1];exact .snil _ _ _
     .obtain⟨cap,Db,f1,f2,f3,f4,f5,f6⟩:=eP g2 (by rw[e1];rfl);rw[f1];refine re hN.symm f2 f3 f6 fun o ho=>?_;show S' g2 o;rw[OW];exact .inr ⟨by rw[f1];rfl,by rw[<-hN];exact ho⟩
    .unfold AN;rw[BR _ _ _ _ Cl,A3];simp
   .have h:S' b o:=h;rw[OW]at h;rcases h with h | ⟨h,_⟩
    .exact hS o h
    .exact cJ h)
 rw[lf]at m1 m2;exact⟨_,.tup [vi s.size,.v .nilIface],_,_,rfl,⟨rfl,rfl⟩,jE _ _ _ [.int .i64 s.size,.nilIface],m1,k2.trans m2⟩
theorem gC:AR (AR (LQ bs) 1001 .dead) 1000 .dead=Ag [(1000,.dead),(1001,.dead)] Ad:=by
 funext i
 by_cases e:i=1000
 .subst e;rw[A3];rfl
 .rw[BR _ _ _ _ e]
  by_cases e' : i=1001
  .subst e';rw[A3];rfl
  .rw[BR _ _ _ _ e'];simp[Ag,B9 e,B9 e']
theorem wG:Bb Tryz.prog 61 [.ref 1000 0] (LQ bs) fun r h'=>r=vs ⟨bs.toArray⟩/\h'=Ag [(1000,.dead),(1001,.dead)] Ad:=by
 refine⟨VI 61 Tryz.func61 aa0 rfl,fun g w us hs hv hI=>?_⟩
 match us,hs,hv with
 | ⟨[v0]⟩,_,hv=>
 have r0:Br g w (AN (LQ bs)) (.ref 1000 0) v0:=hv 0 _ v0 rfl rfl;obtain⟨t0,b,p,v,w0,ρ0,hb,hp,hx,hS⟩:DR g w (AN (LQ bs)) 1000 (.bld (SA bs)):=hI.objs 1000;have o1:DR g w (AN (LQ bs)) 1001 (.bbf bs.length):=hI.objs 1001;obtain⟨iz,Jj⟩:=Zj hx o1;obtain⟨t1,l1,ii⟩:=o1;have ue:v0=.pointer (some ⟨b,0,none⟩):=by
  cases r0 with
  |ref _ _ _ b' hu ht hr=>exact hr.symm.trans ρ0
 subst ue;have kl:(LQ bs 1001).live:=trivial
 -- what the call Cn
 have fin:∀(w' : World) (oJ:Option Nat),(w'.os=w.os/\w'.tape=w.tape/\w'.output=w.output)->w.heap.size<=w'.heap.size->(∀k,k<w.heap.size->some k≠oJ->w'.heap[k]?=w.heap[k]?)->(∀b0,oJ=some b0->g.own 1001=some b0/\(∀o,w'.cell? ⟨b0,o,none⟩=w.cell? ⟨b0,o,none⟩)/\∃Db,w.heap[b0]?=some (.cells Db 5 (0,0))) ->
   ∃v r h' g',Ending.returned (.string ⟨bs.toArray⟩)=.returned v/\(r=vs ⟨bs.toArray⟩/\h'=Ag [(1000,.dead),(1001,.dead)] Ad)/\Br g' w' (AN h') r v/\Dr w g (LQ bs) h' g' w'/\Le (LQ bs) g w h' g' w':=by
  intro w' oJ ho D5 hk hc
  obtain⟨k1,k2⟩:=hI.upd 1001 .dead (g.ρ 1001) (g.ln 1001) (g.tk 1001) none g.S w' oJ ⟨ho.1,ho.2.1,ho.2.2,D5⟩ hk (fun b0 e=>⟨kl,(hc b0 e).1⟩) (fun _ _ h=>h) (fun _ _ h=>.inl h)
   (fun b0 o e _=>⟨(hc b0 e).2.1 o,fun es ck he=>by obtain⟨_,_,Db,h⟩:=hc b0 e;rw[h]at he;cases he⟩) (fun b0 h=>h.elim) B0 (fun _=>⟨rfl,Ai _,fun _=>rfl,fun _=>rfl⟩) (fun _ _=>trivial)
  obtain⟨m1,m2⟩:=k1.upd 1000 .dead (g.ρ 1000) (g.ln 1000) (g.tk 1000) none g.S w' none ⟨rfl,rfl,rfl,Ai _⟩ (fun _ _ _=>rfl) (fun b0 e=>by cases e) (fun _ _ h=>h) (fun _ _ h=>.inl h)
   (fun b0 o e=>by cases e) (fun b0 h=>h.elim) B0 (fun _=>⟨by simp[Gh.upd],by simp[Gh.upd],fun _=>by simp[Gh.upd],fun _=>by simp[Gh.upd]⟩) (fun _ _=>trivial)
  rw[gC]at m1 m2;exact⟨_,_,_,_,rfl,⟨rfl,rfl⟩,.v _ _,m1,k2.trans m2⟩
 rcases ii with ⟨h0,e,_⟩ | ⟨g1,cap,Db,e1,e2,e3,e4,e5,e6,e7⟩
 .have xy:bs=[]:=AL h0;subst xy;rw[iz,e]at hb;refine(Any.Builder_String_nil Tryz.layBStr Tryz.layBStrX w.heap.size b p w hb).mono ?_
  rintro e' w' ⟨rfl,q⟩
  exact fin w' none ⟨q.os,q.tape,q.output⟩ q.size (fun k hk _=>q.block k hk) (fun b0 h=>by cases h)
 .rw[iz,e1]at hb Jj;have Dv:bs≠[]:=fun h=>by rw[h]at e3;exact absurd e3.1 Cl
  have oY:Db.toList.take bs.length=Lib.byteCells bs:=by
   rcases Jj.2 with ⟨h,_⟩ | ⟨g3,Afq,Afr,f1,_,f3,_,_,_,f7⟩
   .cases h
   .injection f1 with f1 _ f2
    injection f1 with f1
    have f1:g1=g3:=by injection f1
    subst f1;rw[e5]at f3
    injection f3 with f3
    injection f3 with f3
    rw[<-f3,IX]at f7;exact f7
  refine(rr b g1 cap p Db bs w hb e5 Dv e3.2 e4 e6 (Vn oY)).mono ?_
  rintro e' w' ⟨rfl,rfl⟩
  have zK:∀k,k≠g1->(w.drew.freeze ⟨g1,0,none⟩ bs.length).heap[k]?=w.heap[k]?:=fun k hk=>by
   unfold World.freeze;split
   .rfl
   .simp[Array.getElem?_modify,Ne.symm hk];rfl
  have ip:∀o,(w.drew.freeze ⟨g1,0,none⟩ bs.length).cell? ⟨g1,o,none⟩=w.cell? ⟨g1,o,none⟩:=fun o=>by
   have hd:w.drew.heap[g1]?=some (.cells Db 5 (0,0)):=e5;unfold World.freeze;split
   .rfl
   .simp[World.cell?,Array.getElem?_modify,hd,e5]
  refine fin _ (some g1) ⟨?_,?_,?_⟩ ?_ (fun k _ h=>zK k (fun e=>h (by rw[e]))) (fun b0 h=>by injection h with h;subst h;exact⟨e2,ip,Db,e5⟩)
  .unfold World.freeze;split<;>rfl
  .unfold World.freeze;split<;>rfl
  .unfold World.freeze;split<;>rfl
  .unfold World.freeze;split
   .exact Ai _
   .show w.heap.size<=(w.heap.modify _ _).size;rw[Array.size_modify];exact Ai _
end Go.Eng
namespace Go.Eng
open Go.Proofs
variable {l:List Cp}
theorem sN(bs:List UInt8)(ps:List ByteArray)(rW:ps.length<=1073741824)(hj:WC bX ps<=281474976710656)(D5:(Gr bX ps).size<=1000000000)(hb:bs.length<=1000000000):Bb Tryz.prog 56 [sl BJ ps,.ref 1000 0] (Ag [(1000,.bld (SA bs)),(1001,.bbf bs.length)] Ad) fun r h'=>r=.tup []/\h'=LQ (bs++(Gr bX ps++KK).data.toList):=by
 refine Cm (MC DU) [(1000,1000),(1001,1001)] rfl Cu hm rfl Tryz.func56 aa0 rfl (Nz rfl) aa0 rfl (Xi .pure (Xi _ (Yi (kT ps bX rW hj) (Yi (show(((Gr bX ps).size+KK.size:Nat):Int)<=9223372036854775807 by have e:KK.size=1:=rfl;omega) ?_))));refine Xi (.gen [(1000,1000),(1001,1001)] 0) (Yi rfl (Bb.to2 (Aai bs (Gr bX ps++KK) (by rw[BM];have e:KK.size=1:=rfl;omega)) ?_));exact Xi _ (Yi (.refl _) Zr)
theorem fb:∀(a b:List Cp),IQ (a++b)=IQ a++IQ b
 | [],b=>by show IQ b=(⟨#[]⟩:ByteArray)++IQ b;exact ByteArray.ext B0
 |c::a,b=>by
  show(SL c++KK)++IQ (a++b)=((SL c++KK)++IQ a)++IQ b;rw[fb a b];exact(ByteArray.append_assoc).symm
theorem aO{i:Nat}(h:i<l.length):(IQ (l.take i)).data.toList++(Gr bX (oD l[i])++KK).data.toList=(IQ (l.take (i+1))).data.toList:=by
 rw[AZ,Ge h,fb,We];show _=_++(((SL l[i]++KK)++IQ [])).data.toList;rw[We (SL l[i]++KK)];show _=_++(_++([]:List UInt8));rw[BZ];rfl
def uD(l:List Cp):AV:=if GZ l=0 then .tup [vs (IQ l),vi 0]else .tup [vs ⟨#[]⟩,vi (GZ l)]
theorem co(h:GZ l=0):Ha (l.map Es)=true/\l.length<=1024:=by
 unfold GZ at h;split at h
 .cases h
 .split at h
  .rename_i h1 h2;exact⟨h2,by omega⟩
  .cases h
theorem Xa{l:List Sl}(h:Ha l=true):B6 l=true/\∀s∈l,Im s=false:=by
 unfold Ha at h;rw[Af,Co,DE]at h;exact⟨h.1,fun s hs=>by simpa using h.2 s hs⟩
theorem XW(h:GZ l=0):∀c∈l,Im (Es c)=false:=fun _ hc=>(Xa (co h).1).2 _ (Jx hc)
theorem wE(l:List Cp)(hl:Cw l)(hp:∀c∈l,c.path.size<=100)(hb:∀c∈l,c.bytes.size<=100000000)(AbT:GZ l=0->∀i,(IQ (l.take i)).data.toList.length<=1000000000):PC 24 [sl BY l] (uD l):=by
 refine Ps ⟨[],[],[],[],[],[],[],[],[(38,5)],[],[]⟩ Tryz.func24 rfl (Nz rfl) (Xi .pure (Xi _ (Yi (Pj l hl (fun c hc=>A9 (hp c hc) Cl)) (Yi (fun h1=>?_) (fun h1=>?_)))))
 .have h1:((GZ l):Int)≠(0:Int):=h1;exact EY.of_eq (show AV.tup [vs ⟨#[]⟩,vi (GZ l)]=uD l by rw[uD,Ah h1])
 have h1:((GZ l):Int)=(0:Int):=Bc h1;have pZ:GZ l=0:=h1;have x6:=AbT pZ;have md:=XW pZ;have hjs:∀{i:Nat} (hi:i<l.length),(Gr bX (oD l[i])).size<=1000000000:=fun {i} hi=>by have q:=UE (md _ (Aq hi));have:=hp _ (Aq hi);unfold SL at q;omega
 have hjn:∀{i:Nat} (hi:i<l.length),WC bX (oD l[i])<=281474976710656:=fun hi=>by have q:=hjs hi;show(Gr bX _).size<=_;omega
 refine Xi {q:Nat // q<=l.length} (Xi (fun q=>⟨[(5,.ref 5 0),(6,.clo 56 [.ref 5 0]),(17,sl BY l),(18,vi (l.map BY).length),(19,vi q.1)],[(5,.bld (SA ((IQ (l.take q.1)).data.toList))),(1001,.bbf ((IQ (l.take q.1)).data.toList).length)],Ad⟩) (Xi (fun q=>l.length-q.1) (Yi (Xi ⟨0,AE _⟩ ?_) ?_)))
 .exact⟨Z5,Z2,Fh,Tv⟩
 intro⟨i,i1⟩;have i1:i<=l.length:=i1;refine Yi (fun h3=>?_) (fun h3=>?_)
 .have h3:(i:Int)<((l.map BY).length:Int):=h3;have n3:=Lu h3;have hi:i<l.length:=n3;have zG:=x6 i;refine Xi (BY l[i]) (Yi (Y4 n3) (Yi rfl (yN (yN (yN (Xi .pure (Xi _ (Yi (show PC 59 [.agg (Jh l[i].ver)] (.tup [vs (Ja l[i].ver.a l[i].ver.b l[i].ver.c),vi 0])from by have q:=wB l[i].ver;rw[zl,jZ,jY,As (Qx (md _ (Aq hi))).2,As (Qx (md _ (Aq hi))).2]at q;exact q) ?_))))))));refine Xi _ (Yi (Wc l[i].bytes (hb _ (Aq hi))) (Xi _ (Yi (wC (EB l[i].bytes) (by rw[Rs];decide)) ?_)));refine Xi [(5,1000),(1001,1001)] (Xi [(1000,.bld (SA ((IQ (l.take i)).data.toList))),(1001,.bbf ((IQ (l.take i)).data.toList).length)] (Xi [(1000,.bld (SA (((IQ (l.take i)).data.toList)++(Gr bX (oD l[i])++KK).data.toList))),(1001,.bbf (((IQ (l.take i)).data.toList)++(Gr bX (oD l[i])++KK).data.toList).length)] (Xi [sl BJ (oD l[i]),.ref 1000 0] (Xi (.tup []:AV) (Yi (fun h2 hh=>Yi ((congr (Aa (fun(o o2:HO)=>Ag [(1000,o.ren (Cc [(5,1000),(1001,1001)]) h2),(1001,o2.ren (Cc [(5,1000),(1001,1001)]) h2)] Ad) (show h2 5=.bld (SA ((IQ (l.take i)).data.toList))from hh 5 Cl)) (show h2 1001=.bbf ((IQ (l.take i)).data.toList).length from hh 1001 Cl)).trans rfl) rfl) (Yi aa0 (Yi (sN ((IQ (l.take i)).data.toList) (oD l[i]) (show 3<=1073741824 by decide) (hjn hi) (hjs hi) zG) (Yi aa0 (Yi (Ii i ch) (Xi ⟨i+1,n3⟩ ?_))))))))));exact⟨Dl l.length i ch,Z5,⟨⟨(Aa (fun z=>HO.bld (SA z)) (aO hi)),rfl⟩,⟨(Aa (fun z:List UInt8=>HO.bbf z.length) (aO hi)),rfl⟩,Tv⟩,Fh,Tv⟩
 have h3:¬((i:Int)<((l.map BY).length:Int)):=h3;have n3:=Ip h3;refine Xi (.gen [(5,1000),(1001,1001)] 0) (Yi rfl (Bb.to2 (wG ((IQ (l.take i)).data.toList)) ?_));exact EY.of_eq (show AV.tup [vs (IQ (l.take i)),vi 0]=uD l by rw[uD,As pZ,AB (Hh (Ip h3))])
abbrev jn:ByteArray:=⟨#[97,47,118,49]⟩
abbrev uE:ByteArray:=⟨#[]⟩
abbrev Lg:ByteArray:=⟨#[97,98,99]⟩
abbrev x_:ByteArray:=⟨#[120]⟩
abbrev oK:ByteArray:=⟨#[186,120,22,191,143,1,207,234,65,65,64,222,93,174,34,35,176,3,97,163,150,23,122,156,180,16,255,97,242,0,21,173]⟩
abbrev Ab3:ByteArray:=⟨#[45,113,22,66,183,38,176,68,1,98,124,169,251,172,50,245,200,83,15,177,144,60,196,219,2,37,135,23,146,26,72,129]⟩
abbrev qC:ByteArray:=⟨#[97,47,118,49,32,49,46,50,46,48,32,98,97,55,56,49,54,98,102,56,102,48,49,99,102,101,97,52,49,52,49,52,48,100,101,53,100,97,101,50,50,50,51,98,48,48,51,54,49,97,51,57,54,49,55,55,97,57,99,98,52,49,48,102,102,54,49,102,50,48,48,49,53,97,100,10]⟩
abbrev kq:Ver:=⟨1,2,0⟩
abbrev zw:Cp:=⟨jn,kq,Lg⟩
abbrev MG:List Cp:=[zw]
abbrev wb:List Sl:=[⟨jn,kq⟩]
abbrev r41:Rl:=⟨jn,kq,[],oK,uE,uE,false⟩
abbrev Y6:List Rl:=[r41]
abbrev vW:List Lk:=[⟨jn,kq,oK,uE⟩]
theorem fK(s:ByteArray)(h:s.size<56):EB s=⟨((S8.l (rp MH.v (s++Ez ⟨MH.v,s,IntKind.wrap .u64 (MH.tot+IntKind.wrap .u64 (s.size:Int))⟩))).flatMap Gt).toArray⟩:=by
 have h0:MH.rest++s=s:=by show(⟨#[]⟩:ByteArray)++s=s;exact ByteArray.ext B0
 have e1:IJ MH s=⟨MH.v,s,IntKind.wrap .u64 (MH.tot+IntKind.wrap .u64 (s.size:Int))⟩:=by
  rw[IJ,h0,G6.eq_1,Ah ch]
 have hp:(s++Ez ⟨MH.v,s,IntKind.wrap .u64 (MH.tot+IntKind.wrap .u64 (s.size:Int))⟩).size=64:=by
  rw[BM,Ez,BM,BM,Qm,Rf];show s.size+(1+((119-(s.size:Int)) % 64).toNat+8)=64
  have:((119-(s.size:Int)) % 64).toNat=55-s.size:=by omega
  omega
 unfold EB;rw[e1,rt,IJ];show ByteArray.mk (((G6 MH.v (s++Ez ⟨MH.v,s,IntKind.wrap .u64 (MH.tot+IntKind.wrap .u64 (s.size:Int))⟩)).1.l).flatMap Gt).toArray=_;generalize s++Ez ⟨MH.v,s,IntKind.wrap .u64 (MH.tot+IntKind.wrap .u64 (s.size:Int))⟩=t at hp⊢;have hx:t.extract 0 64=t:=by rw[<-hp];exact ByteArray.ext B0
 rw[G6.eq_1,As ch,hx,G6.eq_1,Ah (by rw[F6];omega)]
theorem gR:EB Lg=oK:=by rw[fK _ Cl];kernel_rfl
theorem Aba:EB x_=Ab3:=by rw[fK _ Cl];kernel_rfl
theorem Ab8:Ja 1 2 0=⟨#[49,46,50,46,48]⟩:=by
 unfold Ja;rw[show IN 1=⟨(SD 1).toArray⟩from Ys 1 Cl,show IN 2=⟨(SD 2).toArray⟩from Ys 2 Cl,show IN 0=⟨(SD 0).toArray⟩from Ys 0 Cl];kernel_rfl
theorem tj:IQ MG=qC:=by
 show(Gr bX [jn,Ja 1 2 0,JW (EB Lg)]++KK)++⟨#[]⟩=qC;rw[Ab8,gR,Ma,QU];kernel_rfl
theorem XY:GZ MG=0:=by kernel_rfl
theorem w9:Bd Y6=0:=by kernel_rfl
theorem Ab6:uD MG=.tup [vs qC,vi 0]:=by rw[uD,As XY,tj]
theorem Ab5:Yz Y6 [x_,Lg] wb=(some MG,0):=by
 have h:TS [x_,Lg] oK=some Lg:=by
  show List.find? (fun a=>decide (EB a=oK)) [x_,Lg]=_;rw[D7,D7,gR,Aba];rfl
 have h2:WM Y6 [x_,Lg] ⟨jn,kq⟩=some zw:=by
  show(DH Y6 ⟨jn,kq⟩).bind (fun r=>(TS [x_,Lg] r.arch).map fun b=>(⟨jn,kq,b⟩:Cp))=_;rw[show DH Y6 ⟨jn,kq⟩=some r41 from rfl];show(TS [x_,Lg] oK).map _=_;rw[h];rfl
 rw[Yz,Ah (fun c=>c.elim (fun c=>c w9) (fun c=>by cases c)),Ah Cl,show OH Y6 [x_,Lg] wb=some MG from by show(WM Y6 [x_,Lg] ⟨jn,kq⟩).bind _=_;rw[h2];rfl]
theorem Ab7:PV Y6 MG=(Y6,0):=by
 rw[PV,Ah (fun c=>c w9),Ah (fun c=>c XY),show J6 Y6 MG=some Y6 from rfl];show(if Nl MG Y6=true then _ else _)=_;rw[As];show(decide (EB Lg=oK)&&true)=true;rw[gR];rfl
theorem Ab4:lz MG []=([],wb,0):=by rw[lz,Ah (fun c=>c XY),As (show B6 []=true from rfl)];rfl
theorem Ab9:j8 MG MG=0:=by
 rw[j8,Ah (fun c=>c XY),Ah Cl,Ah Cl]
 have:oL MG (Es zw)=EB Lg:=rfl
 rw[Ah];show ¬((!decide (oL MG (Es zw)=EB Lg))||false)=true;rw[this,Ap rfl];decide
abbrev sd:List AV:=[vs jn,vi 1,vi 2,vi 0,nzA,vs oK,vs uE,vs uE,vb false]
abbrev vo:List AV:=[.slice .none [sd],nzA]
theorem fW:EY (.agg vo) (LO Y6 []):=
 have h:Qs sd (BS r41):=⟨.refl _,.refl _,.refl _,.refl _,.nil,.refl _,.refl _,.refl _,.refl _,trivial⟩
 EY.agg ⟨EY.slice ⟨h,trivial⟩,.nil,trivial⟩
theorem rL:∀r∈Y6,Jw r:=GJ.2 ⟨⟨show 4<=1073741824 by decide,FR _⟩,FR _⟩
theorem p41:∀c∈MG,c.path.size<=100:=GJ.2 ⟨show 4<=100 by decide,FR _⟩
theorem v8:∀c∈MG,c.bytes.size<=100000000:=GJ.2 ⟨show 3<=100000000 by decide,FR _⟩
theorem zy:∀c∈MG,Er c.path:=fun c hc=>A9 (p41 c hc) Cl
theorem Pi  : PC 9 [] (vb true):=by
 have hcl:=o46 [] Cl (FR _);have hbd:∀c∈MG,Im (Es c)=false/\c.path.size<=1000000:=fun c hc=>⟨XW XY c hc,A9 (p41 c hc) Cl⟩;have x6:∀i,(IQ (MG.take i)).data.toList.length<=1000000000:=fun i=>by
  have q:=aP (l:=MG.take i) fun c hc=>⟨XW XY c (DG hc),p41 c (DG hc)⟩;have q2:(MG.take i).length<=1:=by rw[AA];show min i 1<=1;omega
  show(IQ (MG.take i)).size<=_;omega
 have h24:=wE MG (show 1<=1073741824 by decide) p41 v8 (fun _=>x6);rw[Ab6]at h24;have h26:=sP MG (show 1<=1000 by decide) hbd (co XY).1 (by rw[tj];decide);rw[tj,show MG.map Jt=vW from by show [(⟨jn,kq,EB Lg,uE⟩:Lk)]=_;rw[gR]]at h26;have YZ:=Wc Lg (show 3<=100000000 by decide);rw[gR]at YZ;have Vs:=(kU Y6 [] wb [x_,Lg] rL (show 1<=1073741824 by decide) (show 2<=1073741824 by decide) (GJ.2 ⟨show 1<=100000000 by decide,GJ.2 ⟨show 3<=100000000 by decide,FR _⟩⟩)).args (args':=[.agg vo,sl Ao wb,sl BJ [x_,Lg]]) ⟨fW,.refl _,.refl _,trivial⟩;rw[Ab5]at Vs;have tp:=(rG Y6 [] MG rL (show 1<=1073741824 by decide) zy v8 hcl).args (args':=[.agg vo,sl BY MG]) ⟨fW,.refl _,trivial⟩;rw[dj,Ab7]at tp;have tq:=(kQ MG [] (show 1<=1073741824 by decide) (AE _) zy).args (args':=[sl BY MG,nzA]) ⟨.refl _,.nil,trivial⟩;rw[Ab4]at tq;have h25:=gx MG MG qC (show 1<=1073741824 by decide) (show 1<=1073741824 by decide) zy v8 (IB (Xa (co XY).1).1).1 (by rw[show MG.map Jt=vW from by show [(⟨jn,kq,EB Lg,uE⟩:Lk)]=_;rw[gR]];exact h26);rw[Ab9]at h25;have vA:=Pj MG (show 1<=1073741824 by decide) zy;rw[XY]at vA;have h14:=sQ MG MG (show 1<=1073741824 by decide);rw[Ap rfl]at h14;refine Ps (pC [] [3,5,6,7,8]) Tryz.func9 rfl (Nz rfl) (Xi .pure (Xi _ (Yi h24 (cU [(1,.slice (.id 16 5) [[vs ⟨#[97,47,118,49]⟩,vi 1,vi 2,vi 0,vs ⟨#[97,98,99]⟩]]),(2,vs qC),(3,vi 0)] [(16,.tok 5 1)] Z3 Z1 (Xi .pure (Xi _ (Yi h26 (Xi [vs ⟨#[97,47,118,49]⟩,vi 1,vi 2,vi 0,vs ⟨#[97,98,99]⟩] (Yi ⟨by decide,rfl⟩ (Yi rfl ?_))))))))));refine yN (Xi _ (Yi YZ (yN (Yi aa0 (cU [(1,.slice (.id 16 5) [[vs ⟨#[97,47,118,49]⟩,vi 1,vi 2,vi 0,vs ⟨#[97,98,99]⟩]]),(2,vs qC),(3,vi 0),(4,sl EZ vW),(5,vi 0),(6,.ref 6 0)] [(6,.cells [.slice (.id 33 9) [[vs ⟨#[97,47,118,49]⟩,vi 1,vi 2,vi 0,nzA,vs oK,vs ⟨#[]⟩,vs ⟨#[]⟩,vb false]],nzA]),(16,.tok 5 1),(33,.tok 9 1)] Z6 Z3 (yN (Xi [vs ⟨#[97,47,118,49]⟩,vi 1,vi 2,vi 0,vs ⟨#[97,98,99]⟩] (Yi ⟨by decide,rfl⟩ (Yi rfl ?_)))))))));refine yN (Xi _ (Yi Vs (Yi aa0 (cU [(1,.slice (.id 16 5) [[vs ⟨#[97,47,118,49]⟩,vi 1,vi 2,vi 0,vs ⟨#[97,98,99]⟩]]),(2,vs qC),(3,vi 0),(4,sl EZ vW),(5,vi 0),(6,.ref 6 0),(7,sl BY MG),(8,vi 0)] [(6,.cells [.slice (.id 33 9) [[vs ⟨#[97,47,118,49]⟩,vi 1,vi 2,vi 0,nzA,vs oK,vs ⟨#[]⟩,vs ⟨#[]⟩,vb false]],nzA]),(16,.tok 5 1),(33,.tok 9 1)] Z8 Z3 (yN (Xi .pure (Xi _ (Yi tp (yN (cU [(1,.slice (.id 16 5) [[vs ⟨#[97,47,118,49]⟩,vi 1,vi 2,vi 0,vs ⟨#[97,98,99]⟩]]),(2,vs qC),(3,vi 0),(4,sl EZ vW),(5,vi 0),(7,sl BY MG),(8,vi 0),(9,.ref 9 0),(10,vi 0)] [(9,.cells [sl BS Y6,.slice .none ([]:List (List AV))]),(16,.tok 5 1)] Z9 Z2 (Xi .pure (Xi _ (Yi tq (cU [(1,.slice (.id 16 5) [[vs ⟨#[97,47,118,49]⟩,vi 1,vi 2,vi 0,vs ⟨#[97,98,99]⟩]]),(2,vs qC),(3,vi 0),(4,sl EZ vW),(5,vi 0),(7,sl BY MG),(8,vi 0),(9,.ref 9 0),(10,vi 0),(11,sl Ao ([]:List Sl)),(12,sl Ao wb),(13,vi 0)] [(9,.cells [sl BS Y6,.slice .none ([]:List (List AV))]),(16,.tok 5 1)] Z12 Z2 (Yi (fun _=>?_) (fun h=>absurd Cl h))))))))))))))));refine Yi (fun _=>?_) (fun hf=>absurd rfl hf);refine Yi (fun _=>?_) (fun h=>absurd Cl h);refine Yi (fun _=>?_) (fun hf=>absurd rfl hf);refine Xi .pure (Xi _ (Yi h25 (Yi (fun _=>?_) (fun h=>absurd Cl h))));refine Xi .pure (Xi _ (Yi vA (Yi (fun _=>?_) (fun h=>absurd Cl h))));refine Yi (fun _=>?_) (fun h=>absurd Cl h);refine Xi .pure (Xi _ (Yi h14 (Yi (fun _=>?_) (fun h=>absurd Cl h))));refine Yi (fun _=>?_) (fun hf=>absurd rfl hf);refine Yi (fun h1=>?_) (fun h1=>?_)
 .have h1:((([]:List Sl).map Ao).length:Int)=(0:Int):=h1;refine Yi (fun _=>?_) (fun hf=>absurd rfl hf);refine Yi (fun _=>?_) (fun h=>absurd Cl h);exact .refl _
 have h1:¬(((([]:List Sl).map Ao).length:Int)=(0:Int)):=h1;exact absurd rfl h1
end Go.Eng
namespace Go.Eng
variable {x:List Rl}{roots:List Rq}{s:List Sl}
theorem Uz{x y:List Rl}{roots:List Rq}{d:List Cd}(hy:∀c∈d,Bo y c.rel.path=[c]):∀(n m:Nat) (dec:List Cd),d∈Cn x roots n dec->d.length-dec.length<m->Cn y roots m dec=[d]
 |0,_,_,h,_=>by cases h
 |_+1,0,_,_,h=>absurd h (FM _)
 |n+1,m+1,dec,h,hm=>by
  unfold Cn at h⊢;cases e:(D6 roots dec).2 with
  |nil=>
   rw[e]at h;rw[Aj.1 h]
  |cons n0 l=>
   rw[e]at h;obtain⟨L,hL,hd⟩:=DQ.1 h;obtain⟨c,hc,rfl⟩:=Ak.1 hL;split at hd
   .rename_i FY;have hp:=UA d hd;have hcd:c∈d:=hp.subset (Bg _ (Aj.2 rfl));have h1:=hy c hcd;rw[(Hu hc).1]at h1;have Hp:(dec++[c]).length<=d.length:=hp.length_le;rw[Ac,AJ]at Hp;show((Bo y (D6 roots dec).1).map _).flatten=[d];rw[h1,List.map_singleton,Bu,List.flatten_nil,BZ,As FY];exact Uz hy n m (dec++[c]) hd (by rw[Ac,AJ];omega)
   .cases hd
theorem ZF:∀{N:List Rl},(N.map (·.path)).Nodup->∀{r:Rl},r∈N->r.yanked=false->N.filter (fun z=>decide (z.path=r.path)&&!z.yanked)=[r]
 | [],_,r,h,_=>by cases h
 |z::N,hn,r,hr,hy=>by
  rw[AK,CN]at hn;rcases Ay.1 hr with rfl | h
  .rw[Kn (by rw[Ap rfl,hy];rfl)]
   congr 1
   rw[EX];intro w hw;rw[Am (fun e=>hn.1 (by rw[<-e];exact Jx hw)),Bool.false_and]
   decide
  .rw[Km (by rw[Am (fun e=>hn.1 (by rw[e];exact Jx h)),Bool.false_and];decide)];exact ZF hn.2 h hy
theorem df{x:List Rl}{l:List ByteArray}:∀{s:List Sl} {C:List Cp},OH x l s=some C->C.map Es=s
 | [],C,h=>by cases h;rfl
 |y::s,C,h=>by
  have h:(WM x l y).bind (fun c=>(OH x l s).map (c :: ·))=some C:=h;cases hc:WM x l y with
  |none=>rw[hc]at h;cases h
  |some c=>
   rw[hc]at h;have h:(OH x l s).map (c :: ·)=some C:=h;obtain⟨M,h1,rfl⟩:=AD.1 h;rw[AK,df h1]
   congr 1
   obtain⟨r,h2,h3⟩:=Hi.1 hc;obtain⟨b,h4,rfl⟩:=AD.1 h3
   rfl
theorem ff{x:List Rl}{l:List ByteArray}:∀{s:List Sl} {C:List Cp},OH x l s=some C->(∀y∈s,∀r,DH x y=some r->r.yanked=false)->∃N,jI x s=some N/\J6 x C=some N/\Nl C N=true/\∀c∈C,c.bytes∈l
 | [],C,h,_=>by cases h;exact⟨[],rfl,rfl,rfl,fun c h=>by cases h⟩
 |y::s,C,h,hy=>by
  have h:(WM x l y).bind (fun c=>(OH x l s).map (c :: ·))=some C:=h;cases hc:WM x l y with
  |none=>rw[hc]at h;cases h
  |some c=>
   rw[hc]at h;have h:(OH x l s).map (c :: ·)=some C:=h;obtain⟨M,h1,rfl⟩:=AD.1 h;obtain⟨N,n1,n2,n3,n4⟩:=ff h1 (fun z hz=>hy z (Ae _ hz));obtain⟨r,h2,h3⟩:=Hi.1 hc;obtain⟨b,h4,rfl⟩:=AD.1 h3;have hyk:=hy y (Ab ..) r h2;have hr:{ r with yanked:=false }=r:=by cases r;simp_all
   have hb:=DL h4;refine⟨r::N,?_,?_,?_,?_⟩
   .unfold jI;rw[h2,n1]
   .show((DH x y).map fun r=>{ r with yanked:=false }).bind _=_;rw[h2];show(J6 x M).map ({ r with yanked:=false } :: ·)=_;rw[n2,hr];rfl
   .show(decide (EB b=r.arch)&&Nl M N)=true;rw[n3,Bool.and_true];exact hb
   .intro c hc;rcases Ay.1 hc with rfl | h
    .exact BP h4
    .exact n4 c h
theorem mS(s:List Sl):iU s s=[]:=by
 unfold iU kept;rw[EX];intro a ha;show ¬(!decide (a∈s))=true;rw[Ap ha];decide
structure Aab(x:List Rl)(roots:List Rq)(s:List Sl)(C:List Cp)(N:List Rl):Prop where
 off:PV x C=(N,0)
 len:N.length=s.length
 few:∀r∈N,r∈x
 all:bR N roots 9=[s]
 err:XG N roots 9=0
 dif:lz C s=([],[],0)
theorem Xc(h:OP x roots=0):Du x roots=true:=by
 cases e:Du x roots with
 |true=>rfl
 |false=>exact absurd h (nV e).1
theorem rm(hx:x.length<=16)(hs:OP x roots=0):oH x roots (Mh x roots):=by
 have hv:=Xc hs;have h0:=(Ke hv).1;cases hL:Cn x roots (x.length+1) []with
 |nil=>exact absurd hL ((KT hv hx).2 ((Vc hv hx).1.1 hs))
 |cons d L=>
  rw[(Xb hv hx hL).2];exact(JJ (.nil x) (It.nil roots) d (by rw[hL];exact Ab ..)).sol h0
theorem fL(h:oH x roots s):s.length<=x.length:=by
 have hn:s.Nodup:=List.nodup_iff_pairwise_ne.2 ((IB h.inc).1.imp fun {a b} q e=>by
  subst e;rw[Dn]at q;cases q)
 have:=hn.length_le_of_subset (l₂:=x.map FC) fun y hy=>by
  obtain⟨r,h1,_⟩:=h.fnd y hy;exact Ak.2 ⟨r,(FV h1).2.1,(FV h1).2.2⟩
 rwa [AS]at this
theorem nY(h:oH x roots s)(hx:∀r∈x,Jw r):∀y∈s,Er y.path:=fun y hy=>by
 obtain⟨r,h1,_⟩:=h.fnd y hy;obtain⟨_,h2,h3⟩:=FV h1;rw[<-h3];exact(hx r h2).1
theorem qS{l:List ByteArray}(hx:x.length<=16)(hs:OP x roots=0){C:List Cp}(hC:OH x l (Mh x roots)=some C):∃N,Aab x roots (Mh x roots) C N/\∀c∈C,c.bytes∈l:=by
 have hv:=Xc hs;obtain⟨h0,h1⟩:=Ke hv;have hF:=(Vc hv hx).1.1 hs;cases hL:Cn x roots (x.length+1) []with
 |nil=>exact absurd hL ((KT hv hx).2 hF)
 |cons d L=>
  have Acf:=(Xb hv hx hL).2;have hd:d∈Cn x roots (x.length+1) []:=by rw[hL];exact Ab ..
  have hlf:=JJ (.nil x) (It.nil roots) d hd;have Ul:=hlf.sol h0;rw[Acf]at hC⊢;have hyk:∀y∈DO (AG d),∀r,DH x y=some r->r.yanked=false:=fun y hy r hr=>by
   obtain⟨r',h2,h3⟩:=Ul.fnd y hy;rw[hr]at h2;cases h2;exact h3
  obtain⟨N,n1,n2,n3,n4⟩:=ff hC hyk;obtain⟨k1,k2,k3⟩:=YP n1;have vJ:=df hC;have Ca:(DO (AG d)).length=d.length:=by rw[(Mk _).length_eq,AS]
  have hdx:=fL Ul;have xo:N.length=d.length:=by rw[<-Ca,<-k1,AS]
  have p8:Bd N=0:=uW h0 Ul.inc n1 ch;have PI:(N.map (·.path)).Nodup:=by
   have hp:=(IB Ul.inc).1;rw[<-k1,RN]at hp;exact List.nodup_iff_pairwise_ne.2 (RN.2 (hp.imp fun {a b} q e=>by
    have q:FQ a.path b.path=true:=q;have e:a.path=b.path:=e;rw[e,Dn]at q;cases q))
  have xD:∀c∈d,Bo N c.rel.path=[c]:=fun c hc=>by
   obtain⟨c1,c2,c3⟩:=hlf.ok.cand c hc;obtain⟨r,r1,r2⟩:=k3 (QY c) ((HQ).2 (Jx hc));have e:DH x (QY c)=some c.rel:=QJ h0 c1;rw[e]at r2;cases r2;unfold Bo;rw[ZF PI r1 c2,List.map_singleton,<-c3]
  have eK:Cn N roots (N.length+1) []=[d]:=Uz xD _ _ [] hd (by rw[Ax];omega);have hvN:Du N roots=true:=by unfold Du;rw[Ap p8,Ap h1];rfl
  have xH:XG N roots 9=0:=by unfold XG;rw[Ah (by rw[hvN];decide)]
  have hcp:GZ C=0:=by
   have:C.length=d.length:=by rw[<-Ca,<-vJ,AS]
   unfold GZ;rw[Ah ch,As];unfold Ha;rw[vJ,Ul.inc,Ep,Co,DE];intro y hy;obtain⟨r,r1,r2⟩:=k3 y hy;have FY:=(CF p8).1 r r1;have e:=(FV r2).2.2;rw[<-e];unfold Im;rw[show Bs (FC r).path=some r.ver.a from FY.maj];show ¬((!B3 r.ver)||decide (r.ver.a≠r.ver.a))=true;rw[FY.val,Am (fun c=>c rfl)];decide
  refine⟨N,⟨?_,by rw[xo,Ca],fun r hr=>(FV (k2 r hr)).2.1,?_,xH,?_⟩,n4⟩
  .rw[PV,Ah (fun c=>c h0),Ah (fun c=>c hcp),n2];show(if Nl C N=true then(N,(0:Int))else([],9))=(N,0);rw[As n3]
  .unfold bR;rw[xH,As rfl,eK];rfl
  .rw[lz,Ah (fun c=>c hcp),As Ul.inc,vJ,mS]
end Go.Eng
namespace Go.Eng
open Go.Proofs
variable {caps:List AV}{fF:Nat}(x:List Rl)(ifs:List (List AV))(roots:List Rq)(l:List ByteArray)(s:List Sl)
theorem z78(hs:DD caps)(l:List (ByteArray))(p:ByteArray->Bool)(hF:∀x∈l,PC fF ([vs x]++caps) (vb (p x)))(hl:l.length<9223372036854775807) :
  PC 78 [sl BJ l,.clo fF caps] (vi (IL p l 0)):=by
 refine Ps DU Tryz.func78 rfl (Nz rfl) (Xi {i:Nat // i<=l.length/\∀j (hj:j<l.length),j<i->p l[j]=false} (Xi (fun i=>⟨[(0,sl BJ l),(1,.clo fF caps),(7,vi (l.map BJ).length),(8,vi i.1)],[],Ad⟩) (Xi (fun i=>l.length-i.1) (Yi (Xi ⟨0,by simp⟩ ?_) ?_))))
 .exact⟨⟨Zr,⟨rfl,hs.ids _⟩,Zr,Zr,Tv⟩,Tv,Fh,Tv⟩
 .intro⟨i,h1,h2⟩;refine Yi ?_ ?_
  .intro h;have h:(i:Int)<(l.map BJ).length:=h;have h:i<l.length:=by simpa using h
   have hg:l[i]?=some l[i]:=Ge h;refine Xi (BJ l[i]) (Yi (Yi (Nn i) (by simp[hg])) (Yi rfl ?_));have CQ:∀h,PC fF ([vs l[i]]++caps.map (str0 h)) (vb (p l[i])):=fun h=>by rw[hs.map];exact hF l[i] (Aq _)
   cases hp:p l[i]with
   |true=>
    rw[hp]at CQ;refine Xi .pure (Xi (vb true) (Yi (CQ _) ?_));rw[Jk h (fun j hj Iu=>h2 j hj Iu) hp,EU];exact .refl _
   |false=>
    rw[hp]at CQ;refine Xi .pure (Xi (vb false) (Yi (CQ _) (Yi (Ii i ch) (Xi ⟨i+1,by omega,fun j hj Iu=>?_⟩ ?_))))
    .by_cases e:j=i
     .subst e;exact hp
     .exact h2 j hj ch
    .exact⟨Dl l.length i ch,⟨Zr,⟨rfl,hs.ids _⟩,Zr,Zr,Tv⟩,Tv,Fh,Tv⟩
  .intro h;have h:¬(i:Int)<(l.map BJ).length:=h;have h:¬i<l.length:=by simpa using h
   rw[Gq fun j hj=>h2 j hj ch];exact .refl _
theorem z38(hs:DD caps)(l:List (ByteArray))(p:ByteArray->Bool)(hF:∀x∈l,PC fF ([vs x]++caps) (vb (p x)))(hl:Cw l) :
  PC 38 [sl BJ l,.clo fF caps] (vb (l.any p)):=by
 refine Ps DU Tryz.func38 rfl (Nz rfl) ?_;have hi:=z78 hs l p hF (by unfold Cw at hl;omega);have CQ:∀h,PC 78 [sl BJ l,.clo fF (caps.map (str0 h))] (vi (IL p l 0)):=fun h=>by rw[hs.map];exact hi
 refine Xi .pure (Xi _ (Yi (CQ _) ?_));have ha:=IM (p:=p) l 0 (By 0);refine Yi ?_ ?_
 .intro h;have h:(0:Int)<=IL p l 0:=h;rw[<-ha,Ap h];exact .refl _
 .intro h;have h:¬(0:Int)<=IL p l 0:=h;rw[<-ha,Am h];exact .refl _
def Na(s:ByteArray):Bool:=decide (200<(s.size:Int))
def KZ:Bool:=decide ((l.length:Int)<=12)&&!l.any Na
theorem jL{l:List ByteArray}(h:KZ l=true):l.length<=12/\∀a∈l,a.size<=200:=by
 unfold KZ at h;rw[Af,Co,Au,DE]at h;refine⟨by omega,fun a ha=>?_⟩;have q:¬decide (200<(a.size:Int))=true:=h.2 a ha;rw[Au]at q;omega
theorem sO(s:ByteArray)(hs:Er s):PC 39 [vs s] (vb (Na s)):=by
 have hs:s.size<=1073741824:=hs;refine Ps DU Tryz.func39 rfl (Nz rfl) (Yi (fun h1=>?_) (fun h1=>?_))
 .have h1:(200:Int)<(s.size:Int):=h1;exact EY.of_eq (Aa vb (show true=Na s by rw[Na];simp only[h1,decide_true]))
 have h1:¬((200:Int)<(s.size:Int)):=h1;exact EY.of_eq (Aa vb (show false=Na s by rw[Na];simp only[h1,decide_false]))
theorem kO(hl:Cw l)(hs:∀s∈l,Er s):PC 38 [sl BJ l,.v (.func (.func 39) #[] #[])] (vb (l.any Na)):=
 (z38 (fF:=39) DD.nil l Na (fun s h=>sO s (hs s h)) hl).args ⟨.refl _,.fn _,trivial⟩
theorem pj(hl:Cw l)(hs:∀s∈l,Er s):PC 11 [sl BJ l] (vb (KZ l)):=by
 have tU:l.length<=1073741824:=hl;refine Ps DU Tryz.func11 rfl (Nz rfl) (Yi (fun h1=>?_) (fun h1=>?_))
 .have h1:((l.map BJ).length:Int)<=(12:Int):=h1;refine BL (Bt (l.any Na)) (fun h2=>?_) (fun h2=>?_)
  .have h2:(l.any Na)=true:=h2;refine Xi .pure (Xi _ (Yi (cb h2 (kO l hl hs)) ?_));exact EY.of_eq (Aa vb (show false=KZ l by rw[KZ,Ap (p:=(l.length:Int)<=12) (by have q:=h1;rw[Lm]at q;exact q),h2];rfl))
  have h2:(l.any Na)=false:=h2;refine Xi .pure (Xi _ (Yi (cb h2 (kO l hl hs)) ?_));exact EY.of_eq (Aa vb (show true=KZ l by rw[KZ,Ap (p:=(l.length:Int)<=12) (by have q:=h1;rw[Lm]at q;exact q),h2];rfl))
 have h1:¬(((l.map BJ).length:Int)<=(12:Int)):=h1;exact EY.of_eq (Aa vb (show false=KZ l by rw[KZ,Am (p:=(l.length:Int)<=12) (by have q:=h1;rw[Lm]at q;exact q)];rfl))
theorem w8a(Nx:PC 10 [LO x ifs,sl A2 roots] (vb false)):PC 8 [.agg (Ic x ifs),sl A2 roots,sl BJ l] (vb true):=by
 refine Ps (pC [3] [4,5,9,12,15]) Tryz.func8 rfl (Nz rfl) (Xi .pure (Xi _ (Yi Pi (yN (Xi .pure (Xi _ (Yi Nx (cU [] [] Tv Tv ?_))))))))
 exact .refl _
theorem w8b(Nx:PC 10 [LO x ifs,sl A2 roots] (vb true))(Ny:PC 11 [sl BJ l] (vb false)):PC 8 [.agg (Ic x ifs),sl A2 roots,sl BJ l] (vb true):=by
 refine Ps (pC [3] [4,5,9,12,15]) Tryz.func8 rfl (Nz rfl) (Xi .pure (Xi _ (Yi Pi (yN (Xi .pure (Xi _ (Yi Nx (Xi .pure (Xi _ (Yi Ny (cU [] [] Tv Tv ?_)))))))))))
 exact .refl _
theorem w8c(e:Int)(he:e≠0)(Nx:PC 10 [LO x ifs,sl A2 roots] (vb true))(Ny:PC 11 [sl BJ l] (vb true))(oM:PC 34 [LO x ifs,sl A2 roots] (.tup [sl Ao s,vi e])):PC 8 [.agg (Ic x ifs),sl A2 roots,sl BJ l] (vb true):=by
 refine Ps (pC [3] [4,5,9,12,15]) Tryz.func8 rfl (Nz rfl) (Xi .pure (Xi _ (Yi Pi (yN (Xi .pure (Xi _ (Yi Nx (Xi .pure (Xi _ (Yi Ny (cU [(1,sl A2 roots),(2,sl BJ l),(3,.ref 3 0)] [(3,.ro (Ic x ifs))] Z3 Z1 (yN (Xi .pure (Xi _ (Yi oM (Yi (fun h1=>?_) (fun h1=>?_)))))))))))))))))
 .have h1:(e:Int)≠(0:Int):=h1;exact .refl _
 have h1:(e:Int)=(0:Int):=Bc h1;exact absurd h1 he
theorem w8d(Nx:PC 10 [LO x ifs,sl A2 roots] (vb true))(Ny:PC 11 [sl BJ l] (vb true))(oM:PC 34 [LO x ifs,sl A2 roots] (.tup [sl Ao s,vi 0]))(Vs:PC 12 [LO x ifs,sl Ao s,sl BJ l] (.tup [.slice .none [],vi 6])):PC 8 [.agg (Ic x ifs),sl A2 roots,sl BJ l] (vb true):=by
 refine Ps (pC [3] [4,5,9,12,15]) Tryz.func8 rfl (Nz rfl) (Xi .pure (Xi _ (Yi Pi (yN (Xi .pure (Xi _ (Yi Nx (Xi .pure (Xi _ (Yi Ny (cU [(1,sl A2 roots),(2,sl BJ l),(3,.ref 3 0)] [(3,.ro (Ic x ifs))] Z3 Z1 (yN (Xi .pure (Xi _ (Yi oM (Yi (fun h=>absurd h Cl) (fun _=>?_)))))))))))))))));refine yN (Xi .pure (Xi _ (Yi Vs (cU [(1,sl A2 roots),(3,.ref 3 0),(7,sl Ao s),(8,vi 6),(9,.slice .none [])] [(3,.ro (Ic x ifs))] Z5 Z1 (Yi (fun _=>?_) (fun h=>absurd Cl h))))));refine Yi (fun _=>?_) (fun h=>absurd Cl h);refine Yi (fun _=>?_) (fun h=>absurd Cl h);exact .refl _
theorem w8e(C:List Cp)(N:List Rl)(hN:N.length=s.length)(Nx:PC 10 [LO x ifs,sl A2 roots] (vb true))(Ny:PC 11 [sl BJ l] (vb true))(oM:PC 34 [LO x ifs,sl A2 roots] (.tup [sl Ao s,vi 0]))(Vs:PC 12 [LO x ifs,sl Ao s,sl BJ l] (.tup [sl BY C,vi 0]))(tp:PC 16 [LO x ifs,sl BY C] (.tup [LO N ifs,vi 0]))(zB:PC 35 [LO N ifs,sl A2 roots,vi 9] (.tup [sl DN [s],vi 0]))(tq:PC 18 [sl BY C,sl Ao s] (.tup [.slice .none [],.slice .none [],vi 0]))(zA:PC 23 [sl Ao s,sl Ao s] (vb true)):PC 8 [.agg (Ic x ifs),sl A2 roots,sl BJ l] (vb true):=by
 refine Ps (pC [3] [4,5,9,12,15]) Tryz.func8 rfl (Nz rfl) (Xi .pure (Xi _ (Yi Pi (yN (Xi .pure (Xi _ (Yi Nx (Xi .pure (Xi _ (Yi Ny (cU [(1,sl A2 roots),(2,sl BJ l),(3,.ref 3 0)] [(3,.ro (Ic x ifs))] Z3 Z1 (yN (Xi .pure (Xi _ (Yi oM (Yi (fun h=>absurd h Cl) (fun _=>?_)))))))))))))))));refine yN (Xi .pure (Xi _ (Yi Vs (cU [(1,sl A2 roots),(3,.ref 3 0),(7,sl Ao s),(8,vi 0),(9,sl BY C)] [(3,.ro (Ic x ifs))] Z5 Z1 (Yi (fun h=>absurd h Cl) (fun _=>?_))))));refine yN (Xi .pure (Xi _ (Yi tp (yN (cU [(1,sl A2 roots),(7,sl Ao s),(8,vi 0),(9,sl BY C),(10,.ref 10 0)] [(10,.cells (Ic N ifs))] Z5 Z1 (Yi (fun h=>absurd h Cl) (fun _=>?_)))))));refine Yi (fun h1=>?_) (fun h1=>?_)
 .have h1:((N.map BS).length:Int)≠((s.map Ao).length:Int):=h1;exact absurd (by rw[Lm,Lm,hN]) h1
 have h1:((N.map BS).length:Int)=((s.map Ao).length:Int):=Bc h1;refine yN (Xi .pure (Xi _ (Yi zB (cU [(7,sl Ao s),(8,vi 0),(9,sl BY C),(11,.slice .none [[sl Ao s]])] [] Z4 Tv (Xi .pure (Xi _ (Yi tq (Yi (fun _=>?_) (fun h=>absurd rfl h)))))))));refine Yi (fun _=>?_) (fun h=>absurd rfl h);refine Xi [sl Ao s] (Yi ⟨by decide,rfl⟩ (Yi rfl ?_));refine Xi .pure (Xi _ (Yi zA (Yi (fun _=>?_) (fun h=>absurd rfl h))));refine Yi (by show A5 ((0:Int)+(0:Int));unfold A5;omega) (Yi (fun h2=>?_) (fun h2=>?_))
 .have h2:(0+0:Int)=(0:Int):=h2;exact .refl _
 have h2:¬((0+0:Int)=(0:Int)):=h2;exact absurd rfl h2
theorem jN{x:List Rl}{roots:List Rq}(h:(II x 16&&G3 roots)=true):x.length<=16:=by
 rw[Af]at h
 have:=h.1
 unfold II at this;rw[Af,Au]at this;exact this.2
theorem Acs(hL:sv x roots)(hl:Cw l)(ha:∀a∈l,Er a)(xQ:Cw ifs)(his:∀c∈ifs,c.length=5):PC 8 [LO x ifs,sl A2 roots,sl BJ l] (vb true):=by
 have Nx:=hL.c11 ifs;cases hq:(II x 16&&G3 roots)with
 |false=>rw[hq]at Nx;exact w8a x ifs roots l Nx
 |true=>
  rw[hq]at Nx;have Ny:=pj l hl ha;cases yn:KZ l with
  |false=>rw[yn]at Ny;exact w8b x ifs roots l Nx Ny
  |true=>
   rw[yn]at Ny;have hx:=jN hq;have hb:∀a∈l,a.size<=100000000:=fun a h=>A9 ((jL yn).2 a h) Cl;have oM:=s16 x ifs roots hL.x hL.rq
   by_cases hs:OP x roots=0
   .rw[hs]at oM;have Ul:=rm hx hs;have Vw:=fL Ul;have hsf:Cw (Mh x roots):=A9 Vw (A9 hx Cl);have Vs:=kU x ifs (Mh x roots) l hL.x hsf hl hb;have hE:Yz x l (Mh x roots)=match OH x l (Mh x roots)with
     |none=>(none,6)
     |some c=>(some c,0):=by
     rw[Yz,Ah (fun c=>c.elim (fun c=>c Ul.ix) (fun c=>by rw[Ul.inc]at c;cases c)),Ah ch];cases OH x l (Mh x roots)<;>rfl
    rw[hE]at Vs;cases hC:OH x l (Mh x roots)with
    |none=>rw[hC]at Vs;exact w8d x ifs roots l _ Nx Ny oM Vs
    |some C=>
     rw[hC]at Vs;obtain⟨N,hO,tC⟩:=qS hx hs hC;have vJ:=df hC;have hCl:Cw C:=by have:=Aa List.length vJ;rw[Lm]at this;unfold Cw at *;omega
     have hCp:∀c∈C,Er c.path:=fun c hc=>nY Ul hL.x (Es c) (by rw[<-vJ];exact Jx hc);have tp:=rG x ifs C hL.x hCl hCp (fun c hc=>hb _ (tC c hc)) (o46 ifs xQ his);have zB:=s10 N ifs roots 9 (fun r hr=>hL.x r (hO.few r hr)) hL.rq;have tq:=kQ C (Mh x roots) hCl hsf hCp;have zA:=c27 (Mh x roots) (Mh x roots) hsf;rw[dj,hO.off]at tp;rw[hO.all,hO.err]at zB;rw[hO.dif]at tq;rw[Ap rfl]at zA;exact w8e x ifs roots l _ C N hO.len Nx Ny oM Vs tp zB tq zA
   .exact w8c x ifs roots l _ _ hs Nx Ny oM
end Go.Eng
