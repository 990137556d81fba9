/- Lemmas 26. -/
import Derived.Test.YtpgfieopnnkpfaaGreatDoorQA25
set_option maxHeartbeats 4000000
namespace Go.Eng
open Go.Proofs
variable {p:ByteArray}{a b:List Tm}{α:Type}(A l:List Tm)(x:Tm)(k:Nat)
theorem H4{enc:α->List AV}{n:Nat}(h:∀x,(enc x).length=n)(l:List α):∀cs∈l.map enc,cs.length=n:=fun cs hc=>by
 grind
abbrev Me:List (List AV):=((A.map Ac).take (((A.map Ac).length:Nat):Int).toNat).drop ((k:Nat):Int).toNat
theorem oP:Me A k=(A.drop k).map Ac:=by
 grind [List.take_of_length_le,List.map_drop]
abbrev gQ:List (List AV):=((A.map Ac).take ((k:Nat):Int).toNat).drop ((0:Int)).toNat
theorem qS:gQ A k=(A.take k).map Ac:=by
 grind [List.map_take]
theorem VZ(h:A.length<=1073741824):AZ 3 (Me A k)/\[Ac x].length=1/\([Ac x].length+(Me A k).length)*48<=140737488355328/\[Ac x].length+(Me A k).length<=9223372036854775807:=by
 grind [IT]
theorem V0(h:A.length<=1073741824):AZ 3 ([Ac x]++Me A k)/\0<([Ac x]++Me A k).length/\((gQ A k).length+([Ac x]++Me A k).length)*48<=140737488355328/\(gQ A k).length+([Ac x]++Me A k).length<=9223372036854775807:=by
 grind [IT,List.length_singleton]
theorem cE:gQ A k++([Ac x]++Me A k)=(A.take k++([x]++A.drop k)).map Ac:=by
 grind [oP,qS]
theorem Mf{l:List (List AV)}{k:Nat}{c x:List AV}(h:l[k]?=some x):(l.set k c)[k]?=some c:=List.getElem?_set_self (AR.1 h).1
theorem oU(t:Tm)(c:List AV):((A.map Ac).set k c).set k (Ac t)=(A.set k t).map Ac:=by simp_all
theorem My(a b:AF):Gd a (canon b)=Gd a b:=Yw (fun _=>rfl) (EU b)
theorem PM(t:Tm):GS t=(!t.absent&&decide (t.set=[])):=by
 grind [GS]
theorem ii{q:Tm->Bool}{l:List Tm}(h:∀j (hj:j<l.length),q l[j]=false):l.any q=false:=by
 grind [List.getElem_of_mem]
theorem MT(hl:BB l)(hs:∀t∈l,BB t.set):PC 50 [sl Ac l] (G4 l):=by
 have hl:l.length<=1073741824:=hl;have hc:∀s:AF,BB s->PC 104 [sl Ab s] (sl Ab (canon s)):=XM;have nB:∀(u t:Tm),EY u.set->PC 108 [.slice .none [[sl Ab u.set],[sl Ab (canon t.set)]]] (sl Ab (Gd u.set (canon t.set))):=fun u t hu=>tu [u.set,canon t.set] (by simp_all) (fun s hs=>by
  grind [GG,Of]) (by
  grind [Kb])
 refine Ps ⟨[],[],[(10,3),(93,3),(100,3)],[],[],[],[],[],[],[(200004,10004),(200012,4)],[4,6,12]⟩ Tryz.func50 rfl (Nz rfl) (Xi {q:Nat×List Tm // q.1<=l.length/\q.2=Dh (l.take q.1)} (Xi (fun q=>⟨[(0,sl Ac l),(4,.msl 10 q.1.2.length),(5,vi q.1.1)],[(10,.arr 3 (q.1.2.map Ac))],Af⟩) (Xi (fun q=>l.length-q.1.1) (Yi (Xi ⟨(0,[]),Ao _,rfl⟩ ?_) ?_))))
 .exact⟨Z3,Z1,Fh,Tv⟩
 intro⟨⟨i,A⟩,i1,i2⟩;have i1:i<=l.length:=i1;have i2:A=Dh (l.take i):=i2;have hA:A.length<=i:=by grind [S6]
 have sy:∀t∈A,EY t.set:=fun t ht=>by grind [DH,BR.canon]
 refine Yi (fun h1=>?_) (fun h1=>?_)
 .have h1:(i:Int)<((l.map Ac).length:Int):=h1;have n1:i<l.length:=by simp_all
  have g1:l[i]?=some l[i]:=Ge n1;refine Xi (Ac l[i]) (Yi (Yi (Nn i) (AM g1)) (Yi rfl (Xi (Ac l[i]) (Yi (Yi (Nn i) (AM g1)) (Yi rfl (Yi (fun h2=>?_) (fun h2=>?_)))))))
  .have h2:l[i].absent=true:=h2;refine Xi (Ac l[i]) (Yi (Yi (Nn i) (AM g1)) (Yi rfl (Xi _ (Yi (hc (l[i].set) (hs _ (Ah n1))) (yN (Yi aa3 (cU [(0,sl Ac l),(4,.msl 10 A.length),(5,vi i),(6,.ref 6 0)] [(6,.cells [vs l[i].path,vb l[i].absent,sl Ab (canon l[i].set)]),(10,.arr 3 (A.map Ac))] Z4 ⟨⟨(show HO.cells [vs l[i].path,vb true,sl Ab (canon l[i].set)]=.cells [vs l[i].path,vb l[i].absent,sl Ab (canon l[i].set)] by simp_all),rfl⟩,Zr,Tv⟩ ?_)))))))
   refine Xi {k:Nat // k<=A.length/\∀j (h:j<A.length),j<k->G1 A[j].path l[i].path=true} (Xi (fun q=>⟨[(0,sl Ac l),(4,.msl 10 A.length),(5,vi i),(6,.ref 6 0),(7,vi q.1)],[(6,.cells [vs l[i].path,vb l[i].absent,sl Ab (canon l[i].set)]),(10,.arr 3 (A.map Ac))],Af⟩) (Xi (fun q=>A.length-q.1) (Yi (Xi ⟨0,Ao _,fun j _ h=>by omega⟩ ?_) ?_)))
   .exact⟨Z5,Z2,Fh,Tv⟩
   intro⟨k,k1,k2⟩;refine Yi (fun h3=>?_) (fun h3=>?_)
   .have h3:(k:Int)<(A.length:Int):=h3;have n3:k<A.length:=by omega
    have g3:A[k]?=some A[k]:=Ge n3;refine Yi aa0 (Yi (show A.length=(A.map Ac).length by simp) (Xi (Ac A[k]) (Yi (AM g3) (Yi (fun h4=>?_) (fun h4=>?_)))))
    .have h4:G1 A[k].path l[i].path=true:=(Ed _ _).trans h4;refine Yi aa3 (Yi (by grind [Al]) (Xi ⟨k+1,by omega,fun j hj He=>(Dq j k).elim (k2 j hj) (fun z=>by grind)⟩ ?_));exact⟨by grind,Z5,Z2,Fh,Tv⟩
    have h4:G1 A[k].path l[i].path=false:=(Ed _ _).trans (DQ.2 h4);refine Yi aa3 (Yi (fun _=>?_) (fun hf=>absurd h3 hf));refine Yi aa0 (Yi (show A.length=(A.map Ac).length by simp) (Xi (Ac A[k]) (Yi (AM g3) (Yi (fun h6=>?_) (fun h6=>?_)))))
    .have h6:(A[k].path:ByteArray)=l[i].path:=h6;refine Yi aa3 (Yi aa0 (Yi (show A.length=(A.map Ac).length by simp) (Xi (Ac A[k]) (Yi (AM g3) (Yi (fun h7=>?_) (fun h7=>?_))))))
     .have h7:A[k].absent=true:=h7;refine Yi (fun _=>?_) (fun hf=>absurd (hf.symm.trans (h2:l[i].absent=true)) aa2);refine Yi aa0 (Yi (show A.length=(A.map Ac).length by simp) (Xi (Ac A[k]) (Yi (AM g3) (yN (Yi aa0 (Yi (show A.length=(((A.map Ac).set k [vs A[k].path,vb true,sl Ab A[k].set]):List (List AV)).length by simp) (Xi [vs A[k].path,vb true,sl Ab A[k].set] (Yi (Mf (AM g3)) ?_))))))));refine Xi _ (Yi (nB A[k] l[i] (sy _ (Ah n3))) (Yi aa0 (Yi (show A.length=(((A.map Ac).set k [vs A[k].path,vb true,sl Ab A[k].set]):List (List AV)).length by simp) (Xi [vs A[k].path,vb true,sl Ab A[k].set] (Yi (Mf (AM g3)) (yN ?_))))));refine Yi aa3 ?_;have hB:Ir l[i] A=A.set k (EG A[k] l[i]):=Re l[i] A k n3 k2 h6;refine Am (show ∃B,B=A.set k (EG A[k] l[i])from⟨_,rfl⟩) (fun B Wq=>?_);have Wr:B=Dh (l.take (i+1)):=by grind [Fc]
      have UE:HO.arr 3 (((A.map Ac).set k [vs A[k].path,vb true,sl Ab A[k].set]).set k [vs A[k].path,vb true,sl Ab (Gd A[k].set (canon l[i].set))])=.arr 3 (B.map Ac):=by
       rw[My,Wq];exact Aa (HO.arr 3) ((Aa (fun b=>((A.map Ac).set k _).set k [vs A[k].path,vb b,sl Ab (Gd A[k].set l[i].set)]) (show true=(A[k].absent&&l[i].absent) by simp_all)).trans (oU A k (EG A[k] l[i]) _))
      have e4:AV.msl 10 A.length=.msl 10 B.length:=by simp_all
      refine cU [(0,sl Ac l),(4,.msl 10 B.length),(5,vi i)] [(10,.arr 3 (B.map Ac))] ⟨Zr,⟨e4,rfl⟩,Zr,Tv⟩ ⟨⟨UE,rfl⟩,Tv⟩ (Yi (Ii i aa0) (Xi ⟨(i+1,B),by omega,Wr⟩ ?_));exact⟨by grind,Z3,Z1,Fh,Tv⟩
     have h7:A[k].absent=false:=h7;refine Yi aa0 (Yi (show A.length=(A.map Ac).length by simp) (Xi (Ac A[k]) (Yi (AM g3) (yN (Yi aa0 (Yi (show A.length=(((A.map Ac).set k [vs A[k].path,vb false,sl Ab A[k].set]):List (List AV)).length by simp) (Xi [vs A[k].path,vb false,sl Ab A[k].set] (Yi (Mf (AM g3)) ?_))))))));refine Xi _ (Yi (nB A[k] l[i] (sy _ (Ah n3))) (Yi aa0 (Yi (show A.length=(((A.map Ac).set k [vs A[k].path,vb false,sl Ab A[k].set]):List (List AV)).length by simp) (Xi [vs A[k].path,vb false,sl Ab A[k].set] (Yi (Mf (AM g3)) (yN ?_))))));refine Yi aa3 ?_;have hB:Ir l[i] A=A.set k (EG A[k] l[i]):=Re l[i] A k n3 k2 h6;refine Am (show ∃B,B=A.set k (EG A[k] l[i])from⟨_,rfl⟩) (fun B Wq=>?_);have Wr:B=Dh (l.take (i+1)):=by grind [Fc]
     have UE:HO.arr 3 (((A.map Ac).set k [vs A[k].path,vb false,sl Ab A[k].set]).set k [vs A[k].path,vb false,sl Ab (Gd A[k].set (canon l[i].set))])=.arr 3 (B.map Ac):=by
      rw[My,Wq];exact Aa (HO.arr 3) ((Aa (fun b=>((A.map Ac).set k _).set k [vs A[k].path,vb b,sl Ab (Gd A[k].set l[i].set)]) (show false=(A[k].absent&&l[i].absent) by simp_all)).trans (oU A k (EG A[k] l[i]) _))
     have e4:AV.msl 10 A.length=.msl 10 B.length:=by simp_all
     refine cU [(0,sl Ac l),(4,.msl 10 B.length),(5,vi i)] [(10,.arr 3 (B.map Ac))] ⟨Zr,⟨e4,rfl⟩,Zr,Tv⟩ ⟨⟨UE,rfl⟩,Tv⟩ (Yi (Ii i aa0) (Xi ⟨(i+1,B),by omega,Wr⟩ ?_));exact⟨by grind,Z3,Z1,Fh,Tv⟩
    have h6:¬(A[k].path:ByteArray)=l[i].path:=h6;refine Yi aa3 (Yi (by simp_all) ?_);refine cU [(0,sl Ac l),(4,sl Ac A),(5,vi i),(6,.ref 6 0),(7,vi k)] [(6,.cells [vs l[i].path,vb l[i].absent,sl Ab (canon l[i].set)])] Z5 Z1 (Yi (show(0:Int)<=0/\(0:Int)<=k/\(k:Int)=k/\(k:Int)<=((A.map Ac).length:Nat) by grind) (Yi (H4 (enc:=Ac) (n:=3) (fun _=>rfl) A) (yN (Yi (show(0:Int)<=k/\(k:Int)<=((A.map Ac).length:Nat)/\(((A.map Ac).length:Nat):Int)<=((A.map Ac).length:Nat) by grind) (Yi (H4 (enc:=Ac) (n:=3) (fun _=>rfl) A) ?_)))));refine Yi (VZ A (C3 l[i]) k aa0) (Yi (V0 A (C3 l[i]) k aa0) (Yi aa3 ?_));have hB:Ir l[i] A=(A.take k++([C3 l[i]]++A.drop k)):=OH l[i] A k k1 k2 (fun h=>⟨h4,h6⟩);have Wr:(A.take k++([C3 l[i]]++A.drop k))=Dh (l.take (i+1)):=by grind [Fc]
    refine Yi rfl (Am (show ∃B,B=(A.take k++([C3 l[i]]++A.drop k))from⟨_,rfl⟩) (fun B Wq=>?_));rw[<-Wq]at Wr;have UE:HO.arr 3 (gQ A k++([Ac (C3 l[i])]++Me A k))=.arr 3 (B.map Ac):=by rw[cE,Wq]
    have e4:AV.msl 10 (gQ A k++([Ac (C3 l[i])]++Me A k)).length=.msl 10 B.length:=by simp_all
    refine cU [(0,sl Ac l),(4,.msl 10 B.length),(5,vi i)] [(10,.arr 3 (B.map Ac))] ⟨Zr,⟨e4,rfl⟩,Zr,Tv⟩ ⟨⟨UE,rfl⟩,Tv⟩ (Yi (Ii i aa0) (Xi ⟨(i+1,B),by omega,Wr⟩ ?_));exact⟨by grind,Z3,Z1,Fh,Tv⟩
   have h3:¬((k:Int)<(A.length:Int)):=h3;have n3:¬k<A.length:=by omega
   refine Yi aa3 (Yi (fun hf=>absurd hf h3) (fun _=>?_));refine Yi aa3 (Yi (by simp_all) ?_);refine cU [(0,sl Ac l),(4,sl Ac A),(5,vi i),(6,.ref 6 0),(7,vi k)] [(6,.cells [vs l[i].path,vb l[i].absent,sl Ab (canon l[i].set)])] Z5 Z1 (Yi (show(0:Int)<=0/\(0:Int)<=k/\(k:Int)=k/\(k:Int)<=((A.map Ac).length:Nat) by grind) (Yi (H4 (enc:=Ac) (n:=3) (fun _=>rfl) A) (yN (Yi (show(0:Int)<=k/\(k:Int)<=((A.map Ac).length:Nat)/\(((A.map Ac).length:Nat):Int)<=((A.map Ac).length:Nat) by grind) (Yi (H4 (enc:=Ac) (n:=3) (fun _=>rfl) A) ?_)))));refine Yi (VZ A (C3 l[i]) k aa0) (Yi (V0 A (C3 l[i]) k aa0) (Yi aa3 ?_));have hB:Ir l[i] A=(A.take k++([C3 l[i]]++A.drop k)):=OH l[i] A k k1 k2 (fun h=>absurd h aa0);have Wr:(A.take k++([C3 l[i]]++A.drop k))=Dh (l.take (i+1)):=by grind [Fc]
   refine Yi rfl (Am (show ∃B,B=(A.take k++([C3 l[i]]++A.drop k))from⟨_,rfl⟩) (fun B Wq=>?_));rw[<-Wq]at Wr;have UE:HO.arr 3 (gQ A k++([Ac (C3 l[i])]++Me A k))=.arr 3 (B.map Ac):=by rw[cE,Wq]
   have e4:AV.msl 10 (gQ A k++([Ac (C3 l[i])]++Me A k)).length=.msl 10 B.length:=by simp_all
   refine cU [(0,sl Ac l),(4,.msl 10 B.length),(5,vi i)] [(10,.arr 3 (B.map Ac))] ⟨Zr,⟨e4,rfl⟩,Zr,Tv⟩ ⟨⟨UE,rfl⟩,Tv⟩ (Yi (Ii i aa0) (Xi ⟨(i+1,B),by omega,Wr⟩ ?_));exact⟨by grind,Z3,Z1,Fh,Tv⟩
  have h2:l[i].absent=false:=h2;refine Xi (Ac l[i]) (Yi (Yi (Nn i) (AM g1)) (Yi rfl (Xi _ (Yi (hc (l[i].set) (hs _ (Ah n1))) (yN (Yi aa3 (cU [(0,sl Ac l),(4,.msl 10 A.length),(5,vi i),(6,.ref 6 0)] [(6,.cells [vs l[i].path,vb l[i].absent,sl Ab (canon l[i].set)]),(10,.arr 3 (A.map Ac))] Z4 ⟨⟨(show HO.cells [vs l[i].path,vb false,sl Ab (canon l[i].set)]=.cells [vs l[i].path,vb l[i].absent,sl Ab (canon l[i].set)] by simp_all),rfl⟩,Zr,Tv⟩ ?_)))))))
  refine Xi {k:Nat // k<=A.length/\∀j (h:j<A.length),j<k->G1 A[j].path l[i].path=true} (Xi (fun q=>⟨[(0,sl Ac l),(4,.msl 10 A.length),(5,vi i),(6,.ref 6 0),(7,vi q.1)],[(6,.cells [vs l[i].path,vb l[i].absent,sl Ab (canon l[i].set)]),(10,.arr 3 (A.map Ac))],Af⟩) (Xi (fun q=>A.length-q.1) (Yi (Xi ⟨0,Ao _,fun j _ h=>by omega⟩ ?_) ?_)))
  .exact⟨Z5,Z2,Fh,Tv⟩
  intro⟨k,k1,k2⟩;refine Yi (fun HX=>?_) (fun HX=>?_)
  .have HX:(k:Int)<(A.length:Int):=HX;have n12:k<A.length:=by omega
   have g12:A[k]?=some A[k]:=Ge n12;refine Yi aa0 (Yi (show A.length=(A.map Ac).length by simp) (Xi (Ac A[k]) (Yi (AM g12) (Yi (fun cn=>?_) (fun cn=>?_)))))
   .have cn:G1 A[k].path l[i].path=true:=(Ed _ _).trans cn;refine Yi aa3 (Yi (by grind [Al]) (Xi ⟨k+1,by omega,fun j hj He=>(Dq j k).elim (k2 j hj) (fun z=>by grind)⟩ ?_));exact⟨by grind,Z5,Z2,Fh,Tv⟩
   have cn:G1 A[k].path l[i].path=false:=(Ed _ _).trans (DQ.2 cn);refine Yi aa3 (Yi (fun _=>?_) (fun hf=>absurd HX hf));refine Yi aa0 (Yi (show A.length=(A.map Ac).length by simp) (Xi (Ac A[k]) (Yi (AM g12) (Yi (fun Js=>?_) (fun Js=>?_)))))
   .have Js:(A[k].path:ByteArray)=l[i].path:=Js;refine Yi aa3 (Yi aa0 (Yi (show A.length=(A.map Ac).length by simp) (Xi (Ac A[k]) (Yi (AM g12) (Yi (fun PA=>?_) (fun PA=>?_))))))
    .have PA:A[k].absent=true:=PA;refine Yi (fun hf=>absurd (hf.symm.trans (h2:l[i].absent=false)) aa2) (fun _=>?_);refine Yi aa0 (Yi (show A.length=(A.map Ac).length by simp) (Xi (Ac A[k]) (Yi (AM g12) (yN (Yi aa0 (Yi (show A.length=(((A.map Ac).set k [vs A[k].path,vb false,sl Ab A[k].set]):List (List AV)).length by simp) (Xi [vs A[k].path,vb false,sl Ab A[k].set] (Yi (Mf (AM g12)) ?_))))))));refine Xi _ (Yi (nB A[k] l[i] (sy _ (Ah n12))) (Yi aa0 (Yi (show A.length=(((A.map Ac).set k [vs A[k].path,vb false,sl Ab A[k].set]):List (List AV)).length by simp) (Xi [vs A[k].path,vb false,sl Ab A[k].set] (Yi (Mf (AM g12)) (yN ?_))))));refine Yi aa3 ?_;have hB:Ir l[i] A=A.set k (EG A[k] l[i]):=Re l[i] A k n12 k2 Js;refine Am (show ∃B,B=A.set k (EG A[k] l[i])from⟨_,rfl⟩) (fun B Wq=>?_);have Wr:B=Dh (l.take (i+1)):=by grind [Fc]
     have UE:HO.arr 3 (((A.map Ac).set k [vs A[k].path,vb false,sl Ab A[k].set]).set k [vs A[k].path,vb false,sl Ab (Gd A[k].set (canon l[i].set))])=.arr 3 (B.map Ac):=by
      rw[My,Wq];exact Aa (HO.arr 3) ((Aa (fun b=>((A.map Ac).set k _).set k [vs A[k].path,vb b,sl Ab (Gd A[k].set l[i].set)]) (show false=(A[k].absent&&l[i].absent) by simp_all)).trans (oU A k (EG A[k] l[i]) _))
     have e4:AV.msl 10 A.length=.msl 10 B.length:=by simp_all
     refine cU [(0,sl Ac l),(4,.msl 10 B.length),(5,vi i)] [(10,.arr 3 (B.map Ac))] ⟨Zr,⟨e4,rfl⟩,Zr,Tv⟩ ⟨⟨UE,rfl⟩,Tv⟩ (Yi (Ii i aa0) (Xi ⟨(i+1,B),by omega,Wr⟩ ?_));exact⟨by grind,Z3,Z1,Fh,Tv⟩
    have PA:A[k].absent=false:=PA;refine Yi aa0 (Yi (show A.length=(A.map Ac).length by simp) (Xi (Ac A[k]) (Yi (AM g12) (yN (Yi aa0 (Yi (show A.length=(((A.map Ac).set k [vs A[k].path,vb false,sl Ab A[k].set]):List (List AV)).length by simp) (Xi [vs A[k].path,vb false,sl Ab A[k].set] (Yi (Mf (AM g12)) ?_))))))));refine Xi _ (Yi (nB A[k] l[i] (sy _ (Ah n12))) (Yi aa0 (Yi (show A.length=(((A.map Ac).set k [vs A[k].path,vb false,sl Ab A[k].set]):List (List AV)).length by simp) (Xi [vs A[k].path,vb false,sl Ab A[k].set] (Yi (Mf (AM g12)) (yN ?_))))));refine Yi aa3 ?_;have hB:Ir l[i] A=A.set k (EG A[k] l[i]):=Re l[i] A k n12 k2 Js;refine Am (show ∃B,B=A.set k (EG A[k] l[i])from⟨_,rfl⟩) (fun B Wq=>?_);have Wr:B=Dh (l.take (i+1)):=by grind [Fc]
    have UE:HO.arr 3 (((A.map Ac).set k [vs A[k].path,vb false,sl Ab A[k].set]).set k [vs A[k].path,vb false,sl Ab (Gd A[k].set (canon l[i].set))])=.arr 3 (B.map Ac):=by
     rw[My,Wq];exact Aa (HO.arr 3) ((Aa (fun b=>((A.map Ac).set k _).set k [vs A[k].path,vb b,sl Ab (Gd A[k].set l[i].set)]) (show false=(A[k].absent&&l[i].absent) by simp_all)).trans (oU A k (EG A[k] l[i]) _))
    have e4:AV.msl 10 A.length=.msl 10 B.length:=by simp_all
    refine cU [(0,sl Ac l),(4,.msl 10 B.length),(5,vi i)] [(10,.arr 3 (B.map Ac))] ⟨Zr,⟨e4,rfl⟩,Zr,Tv⟩ ⟨⟨UE,rfl⟩,Tv⟩ (Yi (Ii i aa0) (Xi ⟨(i+1,B),by omega,Wr⟩ ?_));exact⟨by grind,Z3,Z1,Fh,Tv⟩
   have Js:¬(A[k].path:ByteArray)=l[i].path:=Js;refine Yi aa3 (Yi (by simp_all) ?_);refine cU [(0,sl Ac l),(4,sl Ac A),(5,vi i),(6,.ref 6 0),(7,vi k)] [(6,.cells [vs l[i].path,vb l[i].absent,sl Ab (canon l[i].set)])] Z5 Z1 (Yi (show(0:Int)<=0/\(0:Int)<=k/\(k:Int)=k/\(k:Int)<=((A.map Ac).length:Nat) by grind) (Yi (H4 (enc:=Ac) (n:=3) (fun _=>rfl) A) (yN (Yi (show(0:Int)<=k/\(k:Int)<=((A.map Ac).length:Nat)/\(((A.map Ac).length:Nat):Int)<=((A.map Ac).length:Nat) by grind) (Yi (H4 (enc:=Ac) (n:=3) (fun _=>rfl) A) ?_)))));refine Yi (VZ A (C3 l[i]) k aa0) (Yi (V0 A (C3 l[i]) k aa0) (Yi aa3 ?_));have hB:Ir l[i] A=(A.take k++([C3 l[i]]++A.drop k)):=OH l[i] A k k1 k2 (fun h=>⟨cn,Js⟩);have Wr:(A.take k++([C3 l[i]]++A.drop k))=Dh (l.take (i+1)):=by grind [Fc]
   refine Yi rfl (Am (show ∃B,B=(A.take k++([C3 l[i]]++A.drop k))from⟨_,rfl⟩) (fun B Wq=>?_));rw[<-Wq]at Wr;have UE:HO.arr 3 (gQ A k++([Ac (C3 l[i])]++Me A k))=.arr 3 (B.map Ac):=by rw[cE,Wq]
   have e4:AV.msl 10 (gQ A k++([Ac (C3 l[i])]++Me A k)).length=.msl 10 B.length:=by simp_all
   refine cU [(0,sl Ac l),(4,.msl 10 B.length),(5,vi i)] [(10,.arr 3 (B.map Ac))] ⟨Zr,⟨e4,rfl⟩,Zr,Tv⟩ ⟨⟨UE,rfl⟩,Tv⟩ (Yi (Ii i aa0) (Xi ⟨(i+1,B),by omega,Wr⟩ ?_));exact⟨by grind,Z3,Z1,Fh,Tv⟩
  have HX:¬((k:Int)<(A.length:Int)):=HX;have n12:¬k<A.length:=by omega
  refine Yi aa3 (Yi (fun hf=>absurd hf HX) (fun _=>?_));refine Yi aa3 (Yi (by simp_all) ?_);refine cU [(0,sl Ac l),(4,sl Ac A),(5,vi i),(6,.ref 6 0),(7,vi k)] [(6,.cells [vs l[i].path,vb l[i].absent,sl Ab (canon l[i].set)])] Z5 Z1 (Yi (show(0:Int)<=0/\(0:Int)<=k/\(k:Int)=k/\(k:Int)<=((A.map Ac).length:Nat) by grind) (Yi (H4 (enc:=Ac) (n:=3) (fun _=>rfl) A) (yN (Yi (show(0:Int)<=k/\(k:Int)<=((A.map Ac).length:Nat)/\(((A.map Ac).length:Nat):Int)<=((A.map Ac).length:Nat) by grind) (Yi (H4 (enc:=Ac) (n:=3) (fun _=>rfl) A) ?_)))));refine Yi (VZ A (C3 l[i]) k aa0) (Yi (V0 A (C3 l[i]) k aa0) (Yi aa3 ?_));have hB:Ir l[i] A=(A.take k++([C3 l[i]]++A.drop k)):=OH l[i] A k k1 k2 (fun h=>absurd h aa0);have Wr:(A.take k++([C3 l[i]]++A.drop k))=Dh (l.take (i+1)):=by grind [Fc]
  refine Yi rfl (Am (show ∃B,B=(A.take k++([C3 l[i]]++A.drop k))from⟨_,rfl⟩) (fun B Wq=>?_));rw[<-Wq]at Wr;have UE:HO.arr 3 (gQ A k++([Ac (C3 l[i])]++Me A k))=.arr 3 (B.map Ac):=by rw[cE,Wq]
  have e4:AV.msl 10 (gQ A k++([Ac (C3 l[i])]++Me A k)).length=.msl 10 B.length:=by simp_all
  refine cU [(0,sl Ac l),(4,.msl 10 B.length),(5,vi i)] [(10,.arr 3 (B.map Ac))] ⟨Zr,⟨e4,rfl⟩,Zr,Tv⟩ ⟨⟨UE,rfl⟩,Tv⟩ (Yi (Ii i aa0) (Xi ⟨(i+1,B),by omega,Wr⟩ ?_));exact⟨by grind,Z3,Z1,Fh,Tv⟩
 have h1:¬((i:Int)<((l.map Ac).length:Int)):=h1;have n1:¬i<l.length:=by simp_all
 have uq:A=Dh l:=by grind
 refine Xi {q:Nat×List Tm // q.1<=A.length/\(∀j (h:j<A.length),j<q.1->GS A[j]=false)/\q.2=(A.take q.1).filter fun t=>!GC t} (Xi (fun q=>⟨[(4,.msl 10 A.length),(8,.slice (.id 101 3) (q.1.2.map Ac)),(9,vi q.1.1)],[(10,.arr 3 (A.map Ac)),(101,.tok 3 q.1.2.length)],Af⟩) (Xi (fun q=>A.length-q.1.1) (Yi (Xi ⟨(0,[]),Ao _,fun j _ h=>by omega,rfl⟩ ?_) ?_)))
 .exact⟨Z3,Z2,Fh,Tv⟩
 intro⟨⟨j,O⟩,j1,j2,j3⟩;have j1:j<=A.length:=j1;have j2:∀m (h:m<A.length),m<j->GS A[m]=false:=j2;have j3:O=(A.take j).filter (fun t=>!GC t):=j3;have hO:O.length<=j:=by
  grind
 refine Yi (fun Wn=>?_) (fun Wn=>?_)
 .have Wn:(j:Int)<(A.length:Int):=Wn;have n21:j<A.length:=by omega
  have g21:A[j]?=some A[j]:=Ge n21;refine Yi aa0 (Yi (show A.length=(A.map Ac).length by simp) (Xi (Ac A[j]) (Yi (AM g21) (yN (AG (Bt (!A[j].absent&&decide (A[j].set=[]))) (fun Wo=>?_) (fun Wo=>?_))))))
  .have Wo:(!A[j].absent&&decide (A[j].set=[]))=true:=Wo;have jD:=tv A[j];rw[show(!A[j].absent&&decide (A[j].set=[]))=true from Wo]at jD;refine Xi .pure (Xi _ (Yi jD ?_));have hcn:AW l=none:=by grind [AW,PM]
   exact(show DC (.tup [nzA,vb false]) (.tup [.slice .none [],vb false])from DC.tup ⟨.nil,.refl _,trivial⟩).trans (.of_eq (show AV.tup [.slice .none [],vb false]=G4 l by grind [BM]))
  have Wo:(!A[j].absent&&decide (A[j].set=[]))=false:=Wo;have uF:=tv A[j];rw[show(!A[j].absent&&decide (A[j].set=[]))=false from Wo]at uF;refine Xi .pure (Xi _ (Yi uF (Yi aa0 (Yi (show A.length=(A.map Ac).length by simp) (Xi (Ac A[j]) (Yi (AM g21) (yN (AG (Bt (A[j].absent&&decide (A[j].set=[(0,1000000)]))) (fun qI=>?_) (fun qI=>?_)))))))))
  .have qI:(A[j].absent&&decide (A[j].set=[(0,1000000)]))=true:=qI;have uH:=tw A[j] (GG (sy _ (Ah n21)));rw[show(A[j].absent&&decide (A[j].set=[(0,1000000)]))=true from qI]at uH;refine Xi .pure (Xi _ (Yi uH (Yi (by grind [Al]) (Xi ⟨(j+1,O),by omega,fun m hm hmj=>(Dq m j).elim (j2 m hm) (fun z=>by grind [PM]),by show O=(A.take (j+1)).filter _;rw[B9,Ge n21,CG,<-j3];grind [GC]⟩ ?_))));exact⟨Dl A.length j aa0,Z3,Z2,Fh,Tv⟩
  have qI:(A[j].absent&&decide (A[j].set=[(0,1000000)]))=false:=qI;have uJ:=tw A[j] (GG (sy _ (Ah n21)));rw[show(A[j].absent&&decide (A[j].set=[(0,1000000)]))=false from qI]at uJ;refine Xi .pure (Xi _ (Yi uJ (Yi aa0 (Yi (show A.length=(A.map Ac).length by simp) (Xi (Ac A[j]) (Yi (AM g21) (yN ?_)))))));have b30:AZ 3 [(Ac A[j])]/\(O.map Ac).length=O.length/\((O.map Ac).length+([(Ac A[j])]:List (List AV)).length)*48<=140737488355328/\(O.map Ac).length+([(Ac A[j])]:List (List AV)).length<=9223372036854775807:=⟨⟨rfl,trivial⟩,aa1,(by grind),(by grind)⟩;refine Yi b30 (Yi (by grind [Al]) (Xi ⟨(j+1,(O++[A[j]])),by omega,fun m hm hmj=>(Dq m j).elim (j2 m hm) (fun z=>by grind [PM]),by show(O++[A[j]])=(A.take (j+1)).filter _;rw[B9,Ge n21,CG,<-j3];show _=O++[A[j]].filter _;rw[List.filter_cons,AE (by grind [GC])];simp⟩ ?_));exact⟨Dl A.length j aa0,⟨Zr,⟨(show AV.slice (.id 101 3) (O.map Ac++[Ac A[j]])=.slice (.id 101 3) ((O++[A[j]]).map Ac) by simp),rfl⟩,Zr,Tv⟩,⟨Zr,⟨(show HO.tok 3 ((O.map Ac).length+[Ac A[j]].length)=.tok 3 (O++[A[j]]).length by simp),rfl⟩,Tv⟩,Fh,Tv⟩
 have Wn:¬((j:Int)<(A.length:Int)):=Wn;have n21:¬j<A.length:=by omega
 have ej:A.take j=A:=AK aa0;rw[ej]at j3;have hcn:AW l=some O:=by grind [AW,ii]
 exact .of_eq (show AV.tup [sl Ac O,vb true]=G4 l by grind [BM])
theorem CU(o:Option α):(∃x,o=some x)\/o=none:=by
 cases o<;>simp_all
theorem Dm:(BM l).length<=l.length:=by
 grind [BM,AW,S6,List.take_length]
theorem Rm:∀t∈BM l,EY t.set:=fun t ht=>by
 grind [BM,AW,DH,BR.canon]
theorem GZ(h:(AW a).isSome=false):Ep a p=none:=by
 grind [Ep]
theorem Jj(hf:(BM a).find? (fun t=>decide (t.path=p))=none):Ep a p=none:=by
 grind [Ep,BM,Db]
theorem EX{t:Tm}(h:(AW a).isSome=true)(hf:(BM a).find? (fun t=>decide (t.path=p))=some t):Ep a p=some (t,AH (BM a) p):=by
 grind [Ep,BM,Db]
theorem G3(h:Ep a p=none):Bn a b p=([],1):=by grind [Bn]
theorem W2(h:Ep b p=none):Bn a b p=([],1):=by
 grind [Bn]
abbrev EB(a b:List Tm)(p:ByteArray)(t u:Tm):List Tm:=AH (BM a) p++AH (BM b) p++[Dk t u]
theorem MK{t u:Tm}(h:Ep a p=some (t,AH (BM a) p))(k:Ep b p=some (u,AH (BM b) p)):Bn a b p=if(AW (EB a b p t u)).isSome then(BM (EB a b p t u),0)else([],8):=by
 grind [Bn,BM]
abbrev W0(a b:List Tm)(p:ByteArray):AV:=.tup [sl Ac (Bn a b p).1,vi (Bn a b p).2]
theorem EN{e:Int}(h:Bn a b p=([],e)):DC (.tup [nzA,vi e]) (W0 a b p):=
 (show DC (.tup [nzA,vi e]) (.tup [.slice .none [],vi e])from DC.tup ⟨.nil,.refl _,trivial⟩).trans (.of_eq (show AV.tup [.slice .none [],vi e]=W0 a b p by simp_all))
theorem Kc{t:List Tm}(h:Xo t):BB t:=by omega
theorem iy(hl:BB l)(p:ByteArray):Cq Tryz.prog 244 [sl Ac l,vs p] (Ar [] Af) fun r h'=>r=.slice (.id 2000 3) ((l.filter fun t=>!decide (t.path=p)).map Ac)/\h'=Ar [(2000,.tok 3 ((l.filter fun t=>!decide (t.path=p)).map Ac).length)] Af:=by
 have hl:l.length<=1073741824:=hl;refine BO (Mt (pC [] [4])) [(7,2000)] rfl B8 hm rfl Tryz.func244 aa3 rfl (Nz rfl) aa3 rfl (Xi {q:Nat×List Tm // q.1<=l.length/\q.2=(l.take q.1).filter fun t=>!decide (t.path=p)} (Xi (fun q=>⟨[(0,sl Ac l),(1,vs p),(5,.slice (.id 7 3) (q.1.2.map Ac)),(6,vi q.1.1)],[(7,.tok 3 q.1.2.length)],Af⟩) (Xi (fun q=>l.length-q.1.1) (Yi (Xi ⟨(0,[]),Ao _,rfl⟩ ?_) ?_))))
 .exact⟨Z4,Z1,Fh,Cr aa3⟩
 intro⟨⟨i,A⟩,i1,i2⟩;have i1:i<=l.length:=i1;have i2:A=(l.take i).filter fun t=>!decide (t.path=p):=i2;have hA:A.length<=i:=by
  grind
 refine Yi (fun h1=>?_) (fun h1=>?_)
 .have h1:(i:Int)<((l.map Ac).length:Int):=h1;have n1:i<l.length:=by simp_all
  have g1:l[i]?=some l[i]:=Ge n1;refine Xi (Ac l[i]) (Yi (Yi (Nn i) (AM g1)) (Yi rfl (Yi (fun h3=>?_) (fun h3=>?_))))
  .have h3:(l[i].path:ByteArray)≠p:=h3;refine Xi (Ac l[i]) (Yi (Yi (Nn i) (AM g1)) (Yi rfl (yN ?_)));have b4:AZ 3 [(Ac l[i])]/\(A.map Ac).length=A.length/\((A.map Ac).length+([(Ac l[i])]:List (List AV)).length)*48<=140737488355328/\(A.map Ac).length+([(Ac l[i])]:List (List AV)).length<=9223372036854775807:=⟨⟨rfl,trivial⟩,aa1,(by grind),(by grind)⟩;refine Yi b4 (cU [(0,sl Ac l),(1,vs p),(5,.slice (.id 7 3) ((A.map Ac)++[(Ac l[i])])),(6,vi i)] [(7,.tok 3 ((A.map Ac).length+([(Ac l[i])]:List (List AV)).length))] Z4 Z1 (Yi (by grind [Al]) (Xi ⟨(i+1,(A++[l[i]])),by omega,by show(A++[l[i]])=(l.take (i+1)).filter _;rw[B9,Ge n1,CG,<-i2];simp_all⟩ ?_)));exact⟨Dl l.length i aa0,⟨Zr,Zr,⟨(show AV.slice (.id 7 3) (A.map Ac++[Ac l[i]])=.slice (.id 7 3) ((A++[l[i]]).map Ac) by simp),rfl⟩,Zr,Tv⟩,⟨⟨(show HO.tok 3 ((A.map Ac).length+[Ac l[i]].length)=.tok 3 (A++[l[i]]).length by simp),rfl⟩,Tv⟩,Fh,Cr aa3⟩
  have h3:(l[i].path:ByteArray)=p:=AQ h3;refine cU [(0,sl Ac l),(1,vs p),(5,.slice (.id 7 3) (A.map Ac)),(6,vi i)] [(7,.tok 3 A.length)] Z4 Z1 (Yi (by grind [Al]) (Xi ⟨(i+1,A),by omega,by grind [List.take_add_one]⟩ ?_));exact⟨Dl l.length i aa0,Z4,Z1,Fh,Cr aa3⟩
 have h1:¬((i:Int)<((l.map Ac).length:Int)):=h1;have n1:¬i<l.length:=by simp_all
 have eA:A=l.filter (fun t=>!decide (t.path=p)):=by grind
 exact Xi _ (Yi (.refl _) (Yi (Aa (fun B:List Tm=>AV.slice (.id 2000 3) (B.map Ac)) eA) (show Ar [(2000,HO.tok 3 A.length)] Af=Ar [(2000,HO.tok 3 ((l.filter fun t=>!decide (t.path=p)).map Ac).length)] Af by simp_all)))
theorem c74(a b:List Tm)(p:ByteArray)(ha:Xo a)(hb:Xo b):PC 177 [sl Ac a,sl Ac b,vs p] (W0 a b p):=by
 have ha1:=ha.1;have hb1:=hb.1;refine Ps ⟨[],[],[],[],[],[],[],[],[(71,3)],[],[3,5,6,7,8,9]⟩ Tryz.func177 rfl (Nz rfl) (AG (Bt ((AW a).isSome)) (fun h1=>?_) (fun h1=>?_))
 .have h1:((AW a).isSome)=true:=h1;have OC:=(show PC 50 [sl Ac a] (.tup [sl Ac (BM a),vb (AW a).isSome])from MT a (Kc ha) ha.2);rw[show(AW a).isSome=true from h1]at OC;refine Xi .pure (Xi _ (Yi OC (AG (Bt ((AW b).isSome)) (fun h3=>?_) (fun h3=>?_))))
  .have h3:((AW b).isSome)=true:=h3;have cr:=(show PC 50 [sl Ac b] (.tup [sl Ac (BM b),vb (AW b).isSome])from MT b (Kc hb) hb.2);rw[show(AW b).isSome=true from h3]at cr;refine Xi .pure (Xi _ (Yi cr (cU [(2,vs p),(8,sl Ac (BM a)),(9,vb true),(10,sl Ac (BM b)),(11,vb true)] [] Z5 Tv (AG (CU ((BM a).find? (fun t=>decide (t.path=p)))) (fun h5=>?_) (fun h5=>?_)))))
   .refine Am h5 (fun t h5=>?_);have Yj:=IK (BM a) (by grind [Dm]) p;rw[h5]at Yj;refine Xi .pure (Xi _ (Yi Yj (yN (AG (CU ((BM b).find? (fun t=>decide (t.path=p)))) (fun h6=>?_) (fun h6=>?_)))))
    .refine Am h6 (fun u h6=>?_);have UN:=IK (BM b) (by grind [Dm]) p;rw[h6]at UN;refine Xi .pure (Xi _ (Yi UN (yN (cU [(2,vs p),(8,sl Ac (BM a)),(9,vb true),(10,sl Ac (BM b)),(11,vb true),(12,.ref 12 0),(13,vb true),(14,.ref 14 0),(15,vb true)] [(12,.cells (Ac t)),(14,.cells (Ac u))] Z9 Z2 (cU [(2,vs p),(8,sl Ac (BM a)),(10,sl Ac (BM b)),(12,.ref 12 0),(14,.ref 14 0)] [(12,.cells (Ac t)),(14,.cells (Ac u))] Z5 Z2 ?_)))))
     have SD:t∈BM a:=Cw h5;have hum:u∈BM b:=Cw h6;have htp:t.path=p:=by grind
     have wU:=Rm a t SD;have huc:=Rm b u hum;have nH:BB [t.set,u.set].flatten:=by
      grind [CK]
     have hla:=Dm a;have hlb:=Dm b;have hwa:(AH (BM a) p).length<=(BM a).length:=Ca ..;have hwb:(AH (BM b) p).length<=(BM b).length:=Ca ..;have ha1:=ha.1;have hb1:=hb.1;have sC:BB (EB a b p t u):=by grind
     have sD:∀x∈EB a b p t u,BB x.set:=fun x hx=>by
      rcases Bz.1 hx with hx | hx
      .rcases Bz.1 hx with hx | hx
       .exact GG (Rm a x (DF.1 hx).1)
       .exact GG (Rm b x (DF.1 hx).1)
      .rw[A9.1 hx];exact GG (t:=Dk t u) (K5 [t.set,u.set])
     refine Yi (fun h7=>?_) (fun h7=>?_)
     .have h7:t.absent=true:=h7;refine Xi _ (Yi (mI [t.set,u.set] (by simp_all) nH) ?_);refine yN (Yi aa3 (cU [(2,vs p),(8,sl Ac (BM a)),(10,sl Ac (BM b)),(16,.ref 16 0)] [(16,.cells [vs p,vb true,sl Ab (EM t.set u.set)])] Z4 Z1 (Xi _ (Xi _ (Yi aa3 (Yi (iy (BM a) aa0 p) (Xi _ (Yi (qg (BM b) aa0 p) ?_))))))));have b8:AZ 3 ((AH (BM b) p).map Ac)/\((AH (BM a) p).map Ac).length=((AH (BM a) p).map Ac).length/\(((AH (BM a) p).map Ac).length+((AH (BM b) p).map Ac).length)*48<=140737488355328/\((AH (BM a) p).map Ac).length+((AH (BM b) p).map Ac).length<=9223372036854775807:=⟨(CE (enc:=Ac) (n:=3) (fun _=>rfl) (AH (BM b) p)),rfl,(by grind),(by grind)⟩;refine Yi b8 (yN ?_);have b9:AZ 3 [[vs p,vb true,sl Ab (EM t.set u.set)]]/\((((AH (BM a) p).map Ac)++((AH (BM b) p).map Ac)):List (List AV)).length=(((AH (BM a) p).map Ac).length+((AH (BM b) p).map Ac).length)/\(((((AH (BM a) p).map Ac)++((AH (BM b) p).map Ac)):List (List AV)).length+([[vs p,vb true,sl Ab (EM t.set u.set)]]:List (List AV)).length)*48<=140737488355328/\((((AH (BM a) p).map Ac)++((AH (BM b) p).map Ac)):List (List AV)).length+([[vs p,vb true,sl Ab (EM t.set u.set)]]:List (List AV)).length<=9223372036854775807:=⟨⟨rfl,trivial⟩,aa1,(by grind),(by grind)⟩;refine Yi b9 ?_;have eL:((((AH (BM a) p).map Ac)++((AH (BM b) p).map Ac))++[[vs p,vb true,sl Ab (EM t.set u.set)]])=(EB a b p t u).map Ac:=by
       have e1:Ac (Dk t u)=[vs p,vb (t.absent||u.absent),sl Ab (EM t.set u.set)]:=by rw[<-htp];rfl
       simp_all
      refine AG (Bt ((AW (EB a b p t u)).isSome)) (fun I8=>?_) (fun I8=>?_)
      .have I8:((AW (EB a b p t u)).isSome)=true:=I8;have jz:=(show PC 50 [.slice .none (((((AH (BM a) p).map Ac)++((AH (BM b) p).map Ac))++[[vs p,vb true,sl Ab (EM t.set u.set)]]))] (.tup [sl Ac (BM (EB a b p t u)),vb (AW (EB a b p t u)).isSome])from by rw[eL];exact MT (EB a b p t u) sC sD);rw[show(AW (EB a b p t u)).isSome=true from I8]at jz;refine Xi _ (Yi jz (Yi aa3 (cU [(9,vb true),(17,sl Ac (BM (EB a b p t u)))] [] Z2 Tv ?_)))
       exact .of_eq (show AV.tup [sl Ac (BM (EB a b p t u)),vi 0]=W0 a b p by unfold W0;rw[(MK (EX h1 h5) (EX h3 h6)).trans (AE I8)])
      have I8:((AW (EB a b p t u)).isSome)=false:=I8;have OB:=(show PC 50 [.slice .none (((((AH (BM a) p).map Ac)++((AH (BM b) p).map Ac))++[[vs p,vb true,sl Ab (EM t.set u.set)]]))] (.tup [sl Ac (BM (EB a b p t u)),vb (AW (EB a b p t u)).isSome])from by rw[eL];exact MT (EB a b p t u) sC sD);rw[show(AW (EB a b p t u)).isSome=false from I8]at OB;refine Xi _ (Yi OB (Yi aa3 (cU [(9,vb false),(17,sl Ac (BM (EB a b p t u)))] [] Z2 Tv ?_)))
      exact EN ((MK (EX h1 h5) (EX h3 h6)).trans (Aw (by simp_all)))
     have h7:t.absent=false:=h7;refine Yi (fun Js=>?_) (fun Js=>?_)
     .have Js:u.absent=true:=Js;refine Xi _ (Yi (mI [t.set,u.set] (by simp_all) nH) ?_);refine yN (Yi aa3 (cU [(2,vs p),(8,sl Ac (BM a)),(10,sl Ac (BM b)),(16,.ref 16 0)] [(16,.cells [vs p,vb true,sl Ab (EM t.set u.set)])] Z4 Z1 (Xi _ (Xi _ (Yi aa3 (Yi (iy (BM a) aa0 p) (Xi _ (Yi (qg (BM b) aa0 p) ?_))))))));have b16:AZ 3 ((AH (BM b) p).map Ac)/\((AH (BM a) p).map Ac).length=((AH (BM a) p).map Ac).length/\(((AH (BM a) p).map Ac).length+((AH (BM b) p).map Ac).length)*48<=140737488355328/\((AH (BM a) p).map Ac).length+((AH (BM b) p).map Ac).length<=9223372036854775807:=⟨(CE (enc:=Ac) (n:=3) (fun _=>rfl) (AH (BM b) p)),rfl,(by grind),(by grind)⟩;refine Yi b16 (yN ?_);have b17:AZ 3 [[vs p,vb true,sl Ab (EM t.set u.set)]]/\((((AH (BM a) p).map Ac)++((AH (BM b) p).map Ac)):List (List AV)).length=(((AH (BM a) p).map Ac).length+((AH (BM b) p).map Ac).length)/\(((((AH (BM a) p).map Ac)++((AH (BM b) p).map Ac)):List (List AV)).length+([[vs p,vb true,sl Ab (EM t.set u.set)]]:List (List AV)).length)*48<=140737488355328/\((((AH (BM a) p).map Ac)++((AH (BM b) p).map Ac)):List (List AV)).length+([[vs p,vb true,sl Ab (EM t.set u.set)]]:List (List AV)).length<=9223372036854775807:=⟨⟨rfl,trivial⟩,aa1,(by grind),(by grind)⟩;refine Yi b17 ?_;have eL:((((AH (BM a) p).map Ac)++((AH (BM b) p).map Ac))++[[vs p,vb true,sl Ab (EM t.set u.set)]])=(EB a b p t u).map Ac:=by
       have e1:Ac (Dk t u)=[vs p,vb (t.absent||u.absent),sl Ab (EM t.set u.set)]:=by rw[<-htp];rfl
       simp_all
      refine AG (Bt ((AW (EB a b p t u)).isSome)) (fun QX=>?_) (fun QX=>?_)
      .have QX:((AW (EB a b p t u)).isSome)=true:=QX;have Yg:=(show PC 50 [.slice .none (((((AH (BM a) p).map Ac)++((AH (BM b) p).map Ac))++[[vs p,vb true,sl Ab (EM t.set u.set)]]))] (.tup [sl Ac (BM (EB a b p t u)),vb (AW (EB a b p t u)).isSome])from by rw[eL];exact MT (EB a b p t u) sC sD);rw[show(AW (EB a b p t u)).isSome=true from QX]at Yg;refine Xi _ (Yi Yg (Yi aa3 (cU [(9,vb true),(17,sl Ac (BM (EB a b p t u)))] [] Z2 Tv ?_)))
       exact .of_eq (show AV.tup [sl Ac (BM (EB a b p t u)),vi 0]=W0 a b p by unfold W0;rw[(MK (EX h1 h5) (EX h3 h6)).trans (AE QX)])
      have QX:((AW (EB a b p t u)).isSome)=false:=QX;have jC:=(show PC 50 [.slice .none (((((AH (BM a) p).map Ac)++((AH (BM b) p).map Ac))++[[vs p,vb true,sl Ab (EM t.set u.set)]]))] (.tup [sl Ac (BM (EB a b p t u)),vb (AW (EB a b p t u)).isSome])from by rw[eL];exact MT (EB a b p t u) sC sD);rw[show(AW (EB a b p t u)).isSome=false from QX]at jC;refine Xi _ (Yi jC (Yi aa3 (cU [(9,vb false),(17,sl Ac (BM (EB a b p t u)))] [] Z2 Tv ?_)))
      exact EN ((MK (EX h1 h5) (EX h3 h6)).trans (Aw (by simp_all)))
     have Js:u.absent=false:=Js;refine Xi _ (Yi (mI [t.set,u.set] (by simp_all) nH) ?_);refine yN (Yi aa3 (cU [(2,vs p),(8,sl Ac (BM a)),(10,sl Ac (BM b)),(16,.ref 16 0)] [(16,.cells [vs p,vb false,sl Ab (EM t.set u.set)])] Z4 Z1 (Xi _ (Xi _ (Yi aa3 (Yi (iy (BM a) aa0 p) (Xi _ (Yi (qg (BM b) aa0 p) ?_))))))));have b23:AZ 3 ((AH (BM b) p).map Ac)/\((AH (BM a) p).map Ac).length=((AH (BM a) p).map Ac).length/\(((AH (BM a) p).map Ac).length+((AH (BM b) p).map Ac).length)*48<=140737488355328/\((AH (BM a) p).map Ac).length+((AH (BM b) p).map Ac).length<=9223372036854775807:=⟨(CE (enc:=Ac) (n:=3) (fun _=>rfl) (AH (BM b) p)),rfl,(by grind),(by grind)⟩;refine Yi b23 (yN ?_);have b24:AZ 3 [[vs p,vb false,sl Ab (EM t.set u.set)]]/\((((AH (BM a) p).map Ac)++((AH (BM b) p).map Ac)):List (List AV)).length=(((AH (BM a) p).map Ac).length+((AH (BM b) p).map Ac).length)/\(((((AH (BM a) p).map Ac)++((AH (BM b) p).map Ac)):List (List AV)).length+([[vs p,vb false,sl Ab (EM t.set u.set)]]:List (List AV)).length)*48<=140737488355328/\((((AH (BM a) p).map Ac)++((AH (BM b) p).map Ac)):List (List AV)).length+([[vs p,vb false,sl Ab (EM t.set u.set)]]:List (List AV)).length<=9223372036854775807:=⟨⟨rfl,trivial⟩,aa1,(by grind),(by grind)⟩;refine Yi b24 ?_;have eL:((((AH (BM a) p).map Ac)++((AH (BM b) p).map Ac))++[[vs p,vb false,sl Ab (EM t.set u.set)]])=(EB a b p t u).map Ac:=by
      have e1:Ac (Dk t u)=[vs p,vb (t.absent||u.absent),sl Ab (EM t.set u.set)]:=by rw[<-htp];rfl
      simp_all
     refine AG (Bt ((AW (EB a b p t u)).isSome)) (fun pv=>?_) (fun pv=>?_)
     .have pv:((AW (EB a b p t u)).isSome)=true:=pv;have uG:=(show PC 50 [.slice .none (((((AH (BM a) p).map Ac)++((AH (BM b) p).map Ac))++[[vs p,vb false,sl Ab (EM t.set u.set)]]))] (.tup [sl Ac (BM (EB a b p t u)),vb (AW (EB a b p t u)).isSome])from by rw[eL];exact MT (EB a b p t u) sC sD);rw[show(AW (EB a b p t u)).isSome=true from pv]at uG;refine Xi _ (Yi uG (Yi aa3 (cU [(9,vb true),(17,sl Ac (BM (EB a b p t u)))] [] Z2 Tv ?_)))
      exact .of_eq (show AV.tup [sl Ac (BM (EB a b p t u)),vi 0]=W0 a b p by unfold W0;rw[(MK (EX h1 h5) (EX h3 h6)).trans (AE pv)])
     have pv:((AW (EB a b p t u)).isSome)=false:=pv;have uI:=(show PC 50 [.slice .none (((((AH (BM a) p).map Ac)++((AH (BM b) p).map Ac))++[[vs p,vb false,sl Ab (EM t.set u.set)]]))] (.tup [sl Ac (BM (EB a b p t u)),vb (AW (EB a b p t u)).isSome])from by rw[eL];exact MT (EB a b p t u) sC sD);rw[show(AW (EB a b p t u)).isSome=false from pv]at uI;refine Xi _ (Yi uI (Yi aa3 (cU [(9,vb false),(17,sl Ac (BM (EB a b p t u)))] [] Z2 Tv ?_)))
     exact EN ((MK (EX h1 h5) (EX h3 h6)).trans (Aw (by simp_all)))
    have UN:=IK (BM b) (by grind [Dm]) p;rw[h6]at UN;refine Xi .pure (Xi _ (Yi UN (yN (cU [(2,vs p),(8,sl Ac (BM a)),(9,vb true),(10,sl Ac (BM b)),(11,vb true),(12,.ref 12 0),(13,vb true),(14,.ref 14 0),(15,vb false)] [(12,.cells (Ac t)),(14,.cells [vs ⟨#[]⟩,vb false,nzA])] Z9 Z2 (cU [] [] Tv Tv ?_)))))
    exact EN (W2 (Jj h6))
   have Yj:=IK (BM a) (by grind [Dm]) p;rw[h5]at Yj;refine Xi .pure (Xi _ (Yi Yj (yN (AG (CU ((BM b).find? (fun t=>decide (t.path=p)))) (fun jv=>?_) (fun jv=>?_)))))
   .refine Am jv (fun u jv=>?_);have jF:=IK (BM b) (by grind [Dm]) p;rw[jv]at jF;refine Xi .pure (Xi _ (Yi jF (yN (cU [(2,vs p),(8,sl Ac (BM a)),(9,vb true),(10,sl Ac (BM b)),(11,vb true),(12,.ref 12 0),(13,vb false),(14,.ref 14 0),(15,vb true)] [(12,.cells [vs ⟨#[]⟩,vb false,nzA]),(14,.cells (Ac u))] Z9 Z2 (cU [] [] Tv Tv ?_)))))
    exact EN (G3 (Jj h5))
   have jF:=IK (BM b) (by grind [Dm]) p;rw[jv]at jF;refine Xi .pure (Xi _ (Yi jF (yN (cU [(2,vs p),(8,sl Ac (BM a)),(9,vb true),(10,sl Ac (BM b)),(11,vb true),(12,.ref 12 0),(13,vb false),(14,.ref 14 0),(15,vb false)] [(12,.cells [vs ⟨#[]⟩,vb false,nzA]),(14,.cells [vs ⟨#[]⟩,vb false,nzA])] Z9 Z2 (cU [] [] Tv Tv ?_)))))
   exact EN (G3 (Jj h5))
  have h3:((AW b).isSome)=false:=h3;have uM:=(show PC 50 [sl Ac b] (.tup [sl Ac (BM b),vb (AW b).isSome])from MT b (Kc hb) hb.2);rw[show(AW b).isSome=false from h3]at uM;refine Xi .pure (Xi _ (Yi uM (cU [(2,vs p),(8,sl Ac (BM a)),(9,vb true),(10,sl Ac (BM b)),(11,vb false)] [] Z5 Tv (AG (CU ((BM a).find? (fun t=>decide (t.path=p)))) (fun eO=>?_) (fun eO=>?_)))))
  .refine Am eO (fun t eO=>?_);have jG:=IK (BM a) (by grind [Dm]) p;rw[eO]at jG;refine Xi .pure (Xi _ (Yi jG (yN (AG (CU ((BM b).find? (fun t=>decide (t.path=p)))) (fun uh=>?_) (fun uh=>?_)))))
   .refine Am uh (fun u uh=>?_);have Lo:=IK (BM b) (by grind [Dm]) p;rw[uh]at Lo;refine Xi .pure (Xi _ (Yi Lo (yN (cU [(2,vs p),(8,sl Ac (BM a)),(9,vb true),(10,sl Ac (BM b)),(11,vb false),(12,.ref 12 0),(13,vb true),(14,.ref 14 0),(15,vb true)] [(12,.cells (Ac t)),(14,.cells (Ac u))] Z9 Z2 (cU [] [] Tv Tv ?_)))))
    exact EN (W2 (GZ h3))
   have Lo:=IK (BM b) (by grind [Dm]) p;rw[uh]at Lo;refine Xi .pure (Xi _ (Yi Lo (yN (cU [(2,vs p),(8,sl Ac (BM a)),(9,vb true),(10,sl Ac (BM b)),(11,vb false),(12,.ref 12 0),(13,vb true),(14,.ref 14 0),(15,vb false)] [(12,.cells (Ac t)),(14,.cells [vs ⟨#[]⟩,vb false,nzA])] Z9 Z2 (cU [] [] Tv Tv ?_)))))
   exact EN (W2 (GZ h3))
  have jG:=IK (BM a) (by grind [Dm]) p;rw[eO]at jG;refine Xi .pure (Xi _ (Yi jG (yN (AG (CU ((BM b).find? (fun t=>decide (t.path=p)))) (fun uj=>?_) (fun uj=>?_)))))
  .refine Am uj (fun u uj=>?_);have jH:=IK (BM b) (by grind [Dm]) p;rw[uj]at jH;refine Xi .pure (Xi _ (Yi jH (yN (cU [(2,vs p),(8,sl Ac (BM a)),(9,vb true),(10,sl Ac (BM b)),(11,vb false),(12,.ref 12 0),(13,vb false),(14,.ref 14 0),(15,vb true)] [(12,.cells [vs ⟨#[]⟩,vb false,nzA]),(14,.cells (Ac u))] Z9 Z2 (cU [] [] Tv Tv ?_)))))
   exact EN (G3 (Jj eO))
  have jH:=IK (BM b) (by grind [Dm]) p;rw[uj]at jH;refine Xi .pure (Xi _ (Yi jH (yN (cU [(2,vs p),(8,sl Ac (BM a)),(9,vb true),(10,sl Ac (BM b)),(11,vb false),(12,.ref 12 0),(13,vb false),(14,.ref 14 0),(15,vb false)] [(12,.cells [vs ⟨#[]⟩,vb false,nzA]),(14,.cells [vs ⟨#[]⟩,vb false,nzA])] Z9 Z2 (cU [] [] Tv Tv ?_)))))
  exact EN (G3 (Jj eO))
 have h1:((AW a).isSome)=false:=h1;have uN:=(show PC 50 [sl Ac a] (.tup [sl Ac (BM a),vb (AW a).isSome])from MT a (Kc ha) ha.2);rw[show(AW a).isSome=false from h1]at uN;refine Xi .pure (Xi _ (Yi uN (AG (Bt ((AW b).isSome)) (fun qJ=>?_) (fun qJ=>?_))))
 .have qJ:((AW b).isSome)=true:=qJ;have uO:=(show PC 50 [sl Ac b] (.tup [sl Ac (BM b),vb (AW b).isSome])from MT b (Kc hb) hb.2);rw[show(AW b).isSome=true from qJ]at uO;refine Xi .pure (Xi _ (Yi uO (cU [(2,vs p),(8,sl Ac (BM a)),(9,vb false),(10,sl Ac (BM b)),(11,vb true)] [] Z5 Tv (AG (CU ((BM a).find? (fun t=>decide (t.path=p)))) (fun qL=>?_) (fun qL=>?_)))))
  .refine Am qL (fun t qL=>?_);have jI:=IK (BM a) (by grind [Dm]) p;rw[qL]at jI;refine Xi .pure (Xi _ (Yi jI (yN (AG (CU ((BM b).find? (fun t=>decide (t.path=p)))) (fun uk=>?_) (fun uk=>?_)))))
   .refine Am uk (fun u uk=>?_);have jJ:=IK (BM b) (by grind [Dm]) p;rw[uk]at jJ;refine Xi .pure (Xi _ (Yi jJ (yN (cU [(2,vs p),(8,sl Ac (BM a)),(9,vb false),(10,sl Ac (BM b)),(11,vb true),(12,.ref 12 0),(13,vb true),(14,.ref 14 0),(15,vb true)] [(12,.cells (Ac t)),(14,.cells (Ac u))] Z9 Z2 (cU [] [] Tv Tv ?_)))))
    exact EN (G3 (GZ h1))
   have jJ:=IK (BM b) (by grind [Dm]) p;rw[uk]at jJ;refine Xi .pure (Xi _ (Yi jJ (yN (cU [(2,vs p),(8,sl Ac (BM a)),(9,vb false),(10,sl Ac (BM b)),(11,vb true),(12,.ref 12 0),(13,vb true),(14,.ref 14 0),(15,vb false)] [(12,.cells (Ac t)),(14,.cells [vs ⟨#[]⟩,vb false,nzA])] Z9 Z2 (cU [] [] Tv Tv ?_)))))
   exact EN (G3 (GZ h1))
  have jI:=IK (BM a) (by grind [Dm]) p;rw[qL]at jI;refine Xi .pure (Xi _ (Yi jI (yN (AG (CU ((BM b).find? (fun t=>decide (t.path=p)))) (fun ul=>?_) (fun ul=>?_)))))
  .refine Am ul (fun u ul=>?_);have jK:=IK (BM b) (by grind [Dm]) p;rw[ul]at jK;refine Xi .pure (Xi _ (Yi jK (yN (cU [(2,vs p),(8,sl Ac (BM a)),(9,vb false),(10,sl Ac (BM b)),(11,vb true),(12,.ref 12 0),(13,vb false),(14,.ref 14 0),(15,vb true)] [(12,.cells [vs ⟨#[]⟩,vb false,nzA]),(14,.cells (Ac u))] Z9 Z2 (cU [] [] Tv Tv ?_)))))
   exact EN (G3 (GZ h1))
  have jK:=IK (BM b) (by grind [Dm]) p;rw[ul]at jK;refine Xi .pure (Xi _ (Yi jK (yN (cU [(2,vs p),(8,sl Ac (BM a)),(9,vb false),(10,sl Ac (BM b)),(11,vb true),(12,.ref 12 0),(13,vb false),(14,.ref 14 0),(15,vb false)] [(12,.cells [vs ⟨#[]⟩,vb false,nzA]),(14,.cells [vs ⟨#[]⟩,vb false,nzA])] Z9 Z2 (cU [] [] Tv Tv ?_)))))
  exact EN (G3 (GZ h1))
 have qJ:((AW b).isSome)=false:=qJ;have uP:=(show PC 50 [sl Ac b] (.tup [sl Ac (BM b),vb (AW b).isSome])from MT b (Kc hb) hb.2);rw[show(AW b).isSome=false from qJ]at uP;refine Xi .pure (Xi _ (Yi uP (cU [(2,vs p),(8,sl Ac (BM a)),(9,vb false),(10,sl Ac (BM b)),(11,vb false)] [] Z5 Tv (AG (CU ((BM a).find? (fun t=>decide (t.path=p)))) (fun um=>?_) (fun um=>?_)))))
 .refine Am um (fun t um=>?_);have NA:=IK (BM a) (by grind [Dm]) p;rw[um]at NA;refine Xi .pure (Xi _ (Yi NA (yN (AG (CU ((BM b).find? (fun t=>decide (t.path=p)))) (fun un=>?_) (fun un=>?_)))))
  .refine Am un (fun u un=>?_);have jL:=IK (BM b) (by grind [Dm]) p;rw[un]at jL;refine Xi .pure (Xi _ (Yi jL (yN (cU [(2,vs p),(8,sl Ac (BM a)),(9,vb false),(10,sl Ac (BM b)),(11,vb false),(12,.ref 12 0),(13,vb true),(14,.ref 14 0),(15,vb true)] [(12,.cells (Ac t)),(14,.cells (Ac u))] Z9 Z2 (cU [] [] Tv Tv ?_)))))
   exact EN (G3 (GZ h1))
  have jL:=IK (BM b) (by grind [Dm]) p;rw[un]at jL;refine Xi .pure (Xi _ (Yi jL (yN (cU [(2,vs p),(8,sl Ac (BM a)),(9,vb false),(10,sl Ac (BM b)),(11,vb false),(12,.ref 12 0),(13,vb true),(14,.ref 14 0),(15,vb false)] [(12,.cells (Ac t)),(14,.cells [vs ⟨#[]⟩,vb false,nzA])] Z9 Z2 (cU [] [] Tv Tv ?_)))))
  exact EN (G3 (GZ h1))
 have NA:=IK (BM a) (by grind [Dm]) p;rw[um]at NA;refine Xi .pure (Xi _ (Yi NA (yN (AG (CU ((BM b).find? (fun t=>decide (t.path=p)))) (fun uo=>?_) (fun uo=>?_)))))
 .refine Am uo (fun u uo=>?_);have jM:=IK (BM b) (by grind [Dm]) p;rw[uo]at jM;refine Xi .pure (Xi _ (Yi jM (yN (cU [(2,vs p),(8,sl Ac (BM a)),(9,vb false),(10,sl Ac (BM b)),(11,vb false),(12,.ref 12 0),(13,vb false),(14,.ref 14 0),(15,vb true)] [(12,.cells [vs ⟨#[]⟩,vb false,nzA]),(14,.cells (Ac u))] Z9 Z2 (cU [] [] Tv Tv ?_)))))
  exact EN (G3 (GZ h1))
 have jM:=IK (BM b) (by grind [Dm]) p;rw[uo]at jM;refine Xi .pure (Xi _ (Yi jM (yN (cU [(2,vs p),(8,sl Ac (BM a)),(9,vb false),(10,sl Ac (BM b)),(11,vb false),(12,.ref 12 0),(13,vb false),(14,.ref 14 0),(15,vb false)] [(12,.cells [vs ⟨#[]⟩,vb false,nzA]),(14,.cells [vs ⟨#[]⟩,vb false,nzA])] Z9 Z2 (cU [] [] Tv Tv ?_)))))
 exact EN (G3 (GZ h1))
end Go.Eng
