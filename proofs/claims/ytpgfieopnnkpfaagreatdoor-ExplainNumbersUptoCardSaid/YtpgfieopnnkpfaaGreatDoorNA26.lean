/- Lemmas for the claims of this seat, without a condition: part 26 (E26). -/
import Derived.Test.YtpgfieopnnkpfaaGreatDoorNA25
namespace Go.Eng
open Go.Proofs
theorem lnE_yes {p:ByteArray} (h:lnE p=0):(pathMajor p).isSome=true:=by
 unfold lnE at h;cases e:pathMajor p with
 | none=>rw [e] at h; cases h
 | some m=>rfl
theorem tms_nil:TmsI []:=⟨Nat.zero_le _,fun _ h=>(by cases h),fun _ h=>(by cases h)⟩
theorem size_of {s:ByteArray} {L:List UInt8} (h:s.data.toList=L):s.size=L.length:=by rw [← h]; exact Array.length_toList.symm
theorem line3 (a b c:ByteArray):(joinB bBlank [a,b,c]).size=a.size+b.size+c.size+2:=by
 have e:bBlank.size=1:=rfl;rw [joinB_cons,joinB_two];simp only [bsize_app,e]; omega
theorem lines_size {x:List Rl} {roots:List Rq} {l:List Nf} (hP:ShortP x roots l) (hr:roots.length≤1073741824) (h:(deriveP x roots l).2=0) {t:Nat} (ht:t<l.length) {i:Nat} {s:ByteArray} (hs:(linesP x roots l t).1[i]?=some s):s.size≤100000000000000:=by
 have e:linesP x roots l t=(linesW lineI (trimL l t) ((usedL l t).map fun i=>(deriveP x roots l).1.getD i []),0):=by
  unfold linesP;rw [if_neg (by rw [h]; decide),if_neg (by omega)]
 have hown:=trim_nf hP hr h ht;have hdt:=derived_tms hP h;obtain ⟨m,g1,g2,g3,_⟩:=keeps_ok h ht;have hD:(deriveP x roots (trimL l t)).1.length≤65536:=derive_few;rw [e] at hs;unfold linesW at hs;rw [List.getElem?_map,Option.map_eq_some_iff] at hs;obtain ⟨k,hk,rfl⟩:=hs;have hk2:=List.mem_range.1 (List.mem_of_getElem? hk);have hy:NfI ((trimL l t).getD k nf0):=hown _ (by rw [List.getD_eq_getElem?_getD,Ge hk2]; exact List.getElem_mem hk2);have htm:TmsI (((usedL l t).map fun i=>(deriveP x roots l).1.getD i []).getD k []):=by
  rw [List.getD_eq_getElem?_getD,List.getElem?_map];cases (usedL l t)[k]? with
  | none=>exact tms_nil
  | some j =>
   show TmsI ((deriveP x roots l).1.getD j []);rw [List.getD_eq_getElem?_getD];cases ej:(deriveP x roots l).1[j]? with
   | none=>exact tms_nil
   | some T=>exact hdt _ (List.mem_of_getElem? ej)
 have z1:=reasonI_size hy;have z2:=incText_size htm;have z3:=itB_size (n:=(k:Int)+1) (by omega) (by omega);have z4:bDot.size=1:=rfl;unfold lineI;rw [line3,bsize_app];omega
theorem ext_mid {p q m:List UInt8} {s:ByteArray} (h:s.data.toList=p++(q++(m++[41]))):(s.extract (p.length+q.length) (s.size - 1)).data.toList=m:=by
 have hs:s.size=p.length+(q.length+(m.length+1)):=by
  have q:=size_of h;simp only [List.length_append,List.length_cons,List.length_nil] at q;omega
 rw [ByteArray.data_extract,Array.toList_extract,h,List.extract_eq_take_drop,← List.append_assoc,List.drop_left' (by simp),List.take_left' (by omega)]
theorem dec_no32 (n:Nat):∀ c ∈ Go.Lib.decDigits n,c≠32:=fun c hc e=>by
 have q:=decDigits_digit n c hc;rw [e] at q;exact absurd q (by decide)
theorem decD_len {n:Nat} (h:n≤1000000):(Go.Lib.decDigits n).length≤21:=by
 have:=itB_size (n:=(n:Int)) (by omega) (by omega)
 rw [itB_nat] at this;unfold decB at this;rw [bsize_mk] at this;exact this
theorem num_pre {i:Nat} {s:ByteArray} (h:NumOk i s):preB (itB ((i:Int)+1)++bDotBlank) s=true:=by
 obtain ⟨⟨r,hr⟩,_⟩:=h;rw [hr]; exact preB_app _ _
theorem num_suf {i:Nat} {s:ByteArray} (h:NumOk i s):Go.Lib.hasSuffix s.data.toList bClose.data.toList=true:=by
 obtain ⟨_,⟨r,hr⟩,_⟩:=h;rw [hr,ByteArray.toList_data_append];unfold Go.Lib.hasSuffix;exact List.isSuffixOf_iff_suffix.2 (List.suffix_append _ _)
set_option maxHeartbeats 4000000 in
theorem e10 (x:List Rl) (ifs:List (List AV)) (roots:List Rq) (l:List Nf) (n:Int) (L:Lim x roots) (hl:Few l) (hn:0≤n∧n≤65535) (hP:ShortP x roots l):PC 10 [.agg (Ic x ifs),sl encRq roots,sl encNf l,.v (.int .u16 n)] (vb true):=by
 have k23:=L.c11 ifs;have k27:=c12 x ifs roots l (L.ck ifs);have hl1:l.length≤1073741824:=hl;obtain ⟨tg,htg⟩ : ∃ tg,tg=n % ((l.map encNf).length:Int):=⟨_,rfl⟩;obtain ⟨d,hd⟩ : ∃ d,d=(deriveP x roots l).1:=⟨_,rfl⟩;obtain ⟨ee,he⟩ : ∃ e,e=(deriveP x roots l).2:=⟨_,rfl⟩;rw [← hd,← he] at k27;have hlp:∀ y ∈ l,FewP y.path:=fun y hy=>hP _ (by unfold pathsU; exact List.mem_append_right _ (List.mem_append_right _ (List.mem_append_right _ (List.mem_map.2 ⟨y,hy,rfl⟩))));refine Ps ⟨[],[],[],[],[],[],[],[],[],[],[3,5,6,8,11,12,15,16,17,19,22,24,25,26,27,28,29]⟩ Tryz.func10 rfl (Nz rfl) ?_;refine Xi .pure (Xi _ (Yi e11 ?_));refine Xi ⟨[(1,sl encRq roots),(2,sl encNf l),(3,.v (.int .u16 n)),(4,.ref 4 0)],[(4,.cells (Ic x ifs))],hfree⟩ (Yi ⟨Z4,Z1,Fh,Tv⟩ ?_)
 refine Yi (Nz rfl) ?_;refine Or.elim (Bt (smallX x 16&&smallQs roots)) (fun h1=>?_) (fun h1=>?_)
 ·have h1:(smallX x 16&&smallQs roots)=true:=h1;have hc2:=k23;rw [show (smallX x 16&&smallQs roots)=true from h1] at hc2;refine Xi .pure (Xi _ (Yi hc2 ?_));refine Yi (fun h3=>?_) (fun h3=>?_)
  ·have h3:(400:Int)<((l.map encNf).length:Int):=h3;have n3:400<l.length:=by have q:=h3; rw [Lm] at q; omega
   exact .refl _
  have h3:¬ ((400:Int)<((l.map encNf).length:Int)):=h3;have n3:¬ 400<l.length:=by have q:=h3; rw [Lm] at q; omega
  refine Yi (fun h5=>?_) (fun h5=>?_)
  ·have h5:((l.map encNf).length:Int)=(0:Int):=h5;exact .refl _
  have h5:¬ (((l.map encNf).length:Int)=(0:Int)):=h5;refine Xi ⟨[(1,sl encRq roots),(2,sl encNf l),(3,.v (.int .u16 n)),(4,.ref 4 0)],[(4,.cells (Ic x ifs))],hfree⟩ (Yi ⟨Z4,Z1,Fh,Tv⟩ ?_)
  refine Yi (Nz rfl) ?_;refine Xi .pure (Xi _ (Yi k27 ?_));refine Xi ⟨[(1,sl encRq roots),(2,sl encNf l),(3,.v (.int .u16 n)),(4,.ref 4 0),(10,vi ee)],[(4,.cells (Ic x ifs))],hfree⟩ (Yi ⟨Z5,Z1,Fh,Tv⟩ ?_)
  refine Yi (fun h7=>?_) (fun h7=>?_)
  ·have h7:(ee:Int)≠(0:Int):=h7;exact .refl _
  have h7:(ee:Int)=(0:Int):=Classical.byContradiction h7;refine Xi ⟨[(1,sl encRq roots),(2,sl encNf l),(3,.v (.int .u16 n)),(4,.ref 4 0)],[(4,.cells (Ic x ifs))],hfree⟩ (Yi ⟨Z4,Z1,Fh,Tv⟩ ?_)
  refine Xi {i:Nat // i≤l.length∧∀ y ∈ l.take i,y.kind=2→(pathMajor y.path).isSome=true} (Xi (fun q=>⟨[(1,sl encRq roots),(2,sl encNf l),(3,.v (.int .u16 n)),(4,.ref 4 0),(54,sl encNf l),(55,vi (l.map encNf).length),(56,vi q.1)],[(4,.cells (Ic x ifs))],hfree⟩) (Xi (fun q=>l.length - q.1) (Yi (Xi ⟨0,Nat.zero_le _,fun t h=>by simp at h⟩ ?_) ?_)))
  ·exact ⟨Z7,Z1,Fh,Tv⟩
  intro ⟨i,i1,i2⟩;have i1:i≤l.length:=i1;have i2:∀ y ∈ l.take i,y.kind=2→(pathMajor y.path).isSome=true:=i2;refine Yi (fun h9=>?_) (fun h9=>?_)
  ·have h9:(i:Int)<((l.map encNf).length:Int):=h9;have n9:i<l.length:=by have q:=h9; rw [Lm] at q; omega
   have g9:l[i]?=some l[i]:=Ge n9;refine Xi (encNf l[i]) (Yi (Yi (Nn i) (map_at g9)) (Yi rfl ?_));refine Yi (Nz rfl) ?_;refine Yi (Nz rfl) ?_;refine Xi ⟨[(1,sl encRq roots),(2,sl encNf l),(3,.v (.int .u16 n)),(4,.ref 4 0),(12,.ref 12 0),(54,sl encNf l),(55,vi (l.map encNf).length),(56,vi i)],[(4,.cells (Ic x ifs)),(12,.cells (encNf l[i]))],hfree⟩ (Yi ⟨Z8,Z2,Fh,Tv⟩ ?_)
   refine Xi .pure (Xi _ (Yi (e32 l[i].path (hlp _ (List.getElem_mem n9)).s) ?_));refine Xi ⟨[(1,sl encRq roots),(2,sl encNf l),(3,.v (.int .u16 n)),(4,.ref 4 0),(12,.ref 12 0),(15,vi (lnE l[i].path)),(54,sl encNf l),(55,vi (l.map encNf).length),(56,vi i)],[(4,.cells (Ic x ifs)),(12,.cells (encNf l[i]))],hfree⟩ (Yi ⟨Z9,Z2,Fh,Tv⟩ ?_)
   refine Yi (fun h10=>?_) (fun h10=>?_)
   ·have h10:(l[i].kind:Int)=(2:Int):=h10;refine Yi (fun h11=>?_) (fun h11=>?_)
    ·have h11:((lnE l[i].path):Int)≠(0:Int):=h11;exact .refl _
    have h11:((lnE l[i].path):Int)=(0:Int):=Classical.byContradiction h11;refine Yi (Ii i (by omega)) ?_;refine Xi ⟨i+1,by omega,take_all n9 i2 (fun _=>lnE_yes h11)⟩ ?_;exact ⟨Dl l.length i (by omega),Z7,Z1,Fh,Tv⟩
   have h10:¬ ((l[i].kind:Int)=(2:Int)):=h10;refine Yi (Ii i (by omega)) ?_;refine Xi ⟨i+1,by omega,take_all n9 i2 (fun hq=>absurd hq h10)⟩ ?_;exact ⟨Dl l.length i (by omega),Z7,Z1,Fh,Tv⟩
  have h9:¬ ((i:Int)<((l.map encNf).length:Int)):=h9;have n9:¬ i<l.length:=by have q:=h9; rw [Lm] at q; omega
  refine Xi ⟨[(1,sl encRq roots),(2,sl encNf l),(3,.v (.int .u16 n)),(4,.ref 4 0)],[(4,.cells (Ic x ifs))],hfree⟩ (Yi ⟨Z4,Z1,Fh,Tv⟩ ?_)
  refine Yi (by show InI64 (n); unfold InI64; omega) ?_;refine Yi ⟨by omega,by omega⟩ ?_;have hee:(deriveP x roots l).2=0:=by rw [← he]; exact h7
  have hl0:0<l.length:=by have q:=h5; rw [Lm] at q; omega
  have htg' : tg=n % (l.length:Int):=by rw [htg,Lm]
  obtain ⟨t,htt⟩ : ∃ t:Nat,(t:Int)=tg:=⟨tg.toNat,Int.toNat_of_nonneg (by rw [htg']; exact Int.emod_nonneg _ (by omega))⟩;have htl:t<l.length:=by have:=Int.emod_lt_of_pos n (show (0:Int)<(l.length:Int) by omega); omega
  have htI:InI64 tg:=by unfold InI64; omega
  have hkk:∀ y ∈ l,y.kind=2→(pathMajor y.path).isSome=true:=fun y hy=>i2 y (by rw [List.take_of_length_le (by omega)]; exact hy);obtain ⟨N1,N2,hN⟩:=numbers_ok hee hkk htl;have k24:=e24 x ifs roots l tg (L.ck ifs) hl htI L.rs hP;unfold linR at k24;have k18:=e18 l tg hl htI;rw [← htt] at k24 k18;rw [N1] at k24;rw [htt] at k24 k18;obtain ⟨A,hA⟩ : ∃ A,A=(linesP x roots l t).1:=⟨_,rfl⟩;obtain ⟨U,hU⟩ : ∃ U,U=usedL l t:=⟨_,rfl⟩;have k24:PC 24 [ixV x ifs,sl encRq roots,sl encNf l,vi tg] (.tup [sl encStr A,vi 0]):=by rw [hA]; rw [← htt] at k24 ⊢; exact k24
  have k18:PC 18 [sl encNf l,vi tg] (sl encNat U):=by rw [hU]; rw [← htt] at k18 ⊢; exact k18
  rw [← hA,← hU] at N2 hN;have hUl:U.length≤l.length:=by rw [hU]; exact usedL_len
  refine Xi ⟨[(1,sl encRq roots),(2,sl encNf l),(4,.ref 4 0),(16,vi tg)],[(4,.cells (Ic x ifs))],hfree⟩ (Yi ⟨⟨Zr,Zr,Zr,⟨(show vi (n % ((l.map encNf).length:Int))=vi tg by rw [← htg]),rfl⟩,Tv⟩,Z1,Fh,Tv⟩ ?_)
  refine Yi (Nz rfl) ?_;refine Xi .pure (Xi _ (Yi k24 ?_));refine Xi ⟨[(2,sl encNf l),(16,vi tg),(17,sl encStr A),(18,vi 0)],[],hfree⟩ (Yi ⟨Z4,Tv,Fh,Tv⟩ ?_)
  refine Yi (fun h=>absurd h (by decide)) (fun _=>?_);refine Xi .pure (Xi _ (Yi k18 ?_));refine Yi (fun h15=>?_) (fun h15=>?_)
  ·have h15:((A.map encStr).length:Int)≠((U.map encNat).length:Int):=h15;exact absurd (by rw [Lm,Lm,N2]) h15
  have h15:((A.map encStr).length:Int)=((U.map encNat).length:Int):=Classical.byContradiction h15;refine Xi ⟨[(17,sl encStr A)],[],hfree⟩ (Yi ⟨Z1,Tv,Fh,Tv⟩ ?_)
  refine Xi {j:Nat // j≤A.length} (Xi (fun q=>⟨[(99,sl encStr A),(100,vi (A.map encStr).length),(101,vi q.1)],[],hfree⟩) (Xi (fun q=>A.length - q.1) (Yi (Xi ⟨0,Nat.zero_le _⟩ ?_) ?_)))
  ·exact ⟨Z3,Tv,Fh,Tv⟩
  intro ⟨j,j1⟩;have j1:j≤A.length:=j1;refine Yi (fun h17=>?_) (fun h17=>?_)
  ·have h17:(j:Int)<((A.map encStr).length:Int):=h17;have n17:j<A.length:=by have q:=h17; rw [Lm] at q; omega
   have g17:A[j]?=some A[j]:=Ge n17;have hnum:NumOk j A[j]:=by
    have q:=hN j (by omega);rw [List.getD_eq_getElem?_getD,Ge n17] at q;exact q
   have hAz:A[j].size≤100000000000000:=lines_size hP (Nat.le_trans L.rs (by decide)) hee htl (by rw [← hA]; exact Ge n17);have z1:=itB_size (n:=(j:Int)+1) (by omega) (by omega);have k38:=e38b A[j] (itB ((j:Int)+1)++bDotBlank);rw [num_pre hnum] at k38;have k40:=e40 A[j] bClose (by omega);rw [num_suf hnum] at k40;have k41:=e41 A[j] ⟨#[32,40,102,114,111,109,32]⟩ (by omega);obtain ⟨KK,hKK⟩ : ∃ k,k=Go.Lib.lastIndex A[j].data.toList (⟨#[32,40,102,114,111,109,32]⟩ : ByteArray).data.toList:=⟨_,rfl⟩;rw [← hKK] at k41;refine Xi (encStr A[j]) (Yi (Yi (Nn j) (map_at g17)) (Yi rfl ?_));refine Xi ⟨[(19,vi j),(20,vs A[j]),(99,sl encStr A),(100,vi (A.map encStr).length),(101,vi j)],[],hfree⟩ (Yi ⟨Z5,Tv,Fh,Tv⟩ ?_)
   refine Yi (Ii j (by omega)) ?_;refine Xi .pure (Xi _ (Yi (e39 (j+1) (by unfold InI64; omega)) ?_));refine Yi (cat_ok (Nat.le_trans z1 (by decide)) (by decide)) ?_;refine Xi .pure (Xi _ (Yi k38 ?_));refine Xi .pure (Xi _ (Yi k40 ?_));refine Xi ⟨[(19,vi j),(20,vs A[j]),(99,sl encStr A),(100,vi (A.map encStr).length),(101,vi j)],[],hfree⟩ (Yi ⟨Z5,Tv,Fh,Tv⟩ ?_)
   refine Xi .pure (Xi _ (Yi k41 ?_));refine Xi ⟨[(19,vi j),(20,vs A[j]),(21,vi KK),(99,sl encStr A),(100,vi (A.map encStr).length),(101,vi j)],[],hfree⟩ (Yi ⟨Z6,Tv,Fh,Tv⟩ ?_)
   refine Yi (fun h18=>?_) (fun h18=>?_)
   ·have h18:(KK:Int)<(0:Int):=h18;refine Yi (Ii j (by omega)) ?_;refine Xi ⟨j+1,by omega⟩ ?_;exact ⟨Dl A.length j (by omega),Z3,Tv,Fh,Tv⟩
   have h18:¬ ((KK:Int)<(0:Int)):=h18;obtain ⟨pp,na,nb,hs1,hs2,hs3,hs4⟩:=hnum.2.2.resolve_left (fun hq=>h18 (by rw [hKK]; exact (by rw [show Go.Lib.lastIndex A[j].data.toList (⟨#[32,40,102,114,111,109,32]⟩ : ByteArray).data.toList=-1 from hq]; decide)));have hKp:KK=pp.length:=hKK.trans hs2;have hsz:A[j].size=pp.length+(7+((Go.Lib.decDigits na).length+(5+((Go.Lib.decDigits nb).length+1)))):=by
    have q:=size_of hs1;simp only [List.length_append,List.length_cons,List.length_nil] at q;omega
   have hla:=decD_len (n:=na) (by omega);have hlb:=decD_len (n:=nb) (by omega);have hmid:(A[j].extract (KK+7).toNat ((A[j].size:Int) - 1).toNat).data.toList=Go.Lib.decDigits na++([32,97,110,100,32]++Go.Lib.decDigits nb):=by
    have e1:(KK+7).toNat=pp.length+7:=by omega
    have e2:((A[j].size:Int) - 1).toNat=A[j].size - 1:=by omega
    rw [e1,e2];exact ext_mid (p:=pp) (q:=fromL) (m:=Go.Lib.decDigits na++([32,97,110,100,32]++Go.Lib.decDigits nb)) (by rw [hs1]; simp)
   have k42:=e42 (A[j].extract (KK+7).toNat ((A[j].size:Int) - 1).toNat) ⟨#[32,97,110,100,32]⟩ (by
    have q:=size_of hmid;simp only [List.length_append,List.length_cons,List.length_nil] at q;omega)
   rw [hmid,show (⟨#[32,97,110,100,32]⟩ : ByteArray).data.toList=[32,97,110,100,32] from rfl,cut_and (dec_no32 na)] at k42;have k43a:=e43 ⟨(Go.Lib.decDigits na).toArray⟩ na (by show (Go.Lib.decDigits na).length≤_; omega) (atoi_dec (by omega));have k43b:=e43 ⟨(Go.Lib.decDigits nb).toArray⟩ nb (by show (Go.Lib.decDigits nb).length≤_; omega) (atoi_dec (by omega));refine Xi ⟨[(19,vi j),(20,vs A[j]),(21,vi KK),(99,sl encStr A),(100,vi (A.map encStr).length),(101,vi j)],[],hfree⟩ (Yi ⟨Z6,Tv,Fh,Tv⟩ ?_)
   refine Yi (by show InI64 ((KK:Int)+(7:Int)); unfold InI64; omega) ?_;refine Yi (by show InI64 ((A[j].size:Int) - (1:Int)); unfold InI64; omega) ?_;refine Yi (show (0:Int)≤KK+7∧(KK+7:Int)≤A[j].size - 1∧(A[j].size - 1:Int)≤(A[j].size:Nat) by omega) ?_;refine Xi .pure (Xi _ (Yi k42 ?_));refine Xi ⟨[(19,vi j),(22,vs (⟨(Go.Lib.decDigits na).toArray⟩ : ByteArray)),(23,vs (⟨(Go.Lib.decDigits nb).toArray⟩ : ByteArray)),(24,vb true),(99,sl encStr A),(100,vi (A.map encStr).length),(101,vi j)],[],hfree⟩ (Yi ⟨Z7,Tv,Fh,Tv⟩ ?_)
   refine Xi .pure (Xi _ (Yi k43a ?_));refine Xi ⟨[(19,vi j),(23,vs (⟨(Go.Lib.decDigits nb).toArray⟩ : ByteArray)),(24,vb true),(25,vi (na:Int)),(26,.v .nilIface),(99,sl encStr A),(100,vi (A.map encStr).length),(101,vi j)],[],hfree⟩ (Yi ⟨Z8,Tv,Fh,Tv⟩ ?_)
   refine Xi .pure (Xi _ (Yi k43b ?_));refine Xi ⟨[(19,vi j),(24,vb true),(25,vi (na:Int)),(26,.v .nilIface),(27,vi (nb:Int)),(28,.v .nilIface),(99,sl encStr A),(100,vi (A.map encStr).length),(101,vi j)],[],hfree⟩ (Yi ⟨Z9,Tv,Fh,Tv⟩ ?_)
   refine Yi (fun h20=>?_) (fun h20=>?_)
   ·have h20:((na:Int):Int)<(1:Int):=h20;exact absurd h20 (by omega)
   have h20:¬ (((na:Int):Int)<(1:Int)):=h20;refine Yi (fun h22=>?_) (fun h22=>?_)
   ·have h22:((nb:Int):Int)<(1:Int):=h22;exact absurd h22 (by omega)
   have h22:¬ (((nb:Int):Int)<(1:Int)):=h22;refine Yi (fun h24=>?_) (fun h24=>?_)
   ·have h24:(j:Int)<((na:Int):Int):=h24;exact absurd h24 (by omega)
   have h24:¬ ((j:Int)<((na:Int):Int)):=h24;refine Yi (fun h26=>?_) (fun h26=>?_)
   ·have h26:(j:Int)<((nb:Int):Int):=h26;exact absurd h26 (by omega)
   have h26:¬ ((j:Int)<((nb:Int):Int)):=h26;refine Yi (Ii j (by omega)) ?_;refine Xi ⟨j+1,by omega⟩ ?_;exact ⟨Dl A.length j (by omega),Z3,Tv,Fh,Tv⟩
  have h17:¬ ((j:Int)<((A.map encStr).length:Int)):=h17;have n17:¬ j<A.length:=by have q:=h17; rw [Lm] at q; omega
  exact .refl _
 have h1:(smallX x 16&&smallQs roots)=false:=h1;have hc30:=k23;rw [show (smallX x 16&&smallQs roots)=false from h1] at hc30;refine Xi .pure (Xi _ (Yi hc30 ?_));exact .refl _
end Go.Eng
