/- Lemmas for the claims of this seat, without a condition: part 32 (O20). -/
import Derived.Test.YtmcbkdbfaneofaaGreatDoorCA31
set_option maxHeartbeats 4000000
namespace Go.Eng
open Go.Proofs
theorem qy(w:Wk)(hW:Pk w)(h:B4 w=0):PC 6 [.agg (Bx w)] (vb true):=by
 have hz:Ha (.agg [.v (.slice none 0 0),.v (.slice none 0 0),.v (.slice none 0 0)]) (.agg (Bx Hd)):=.agg ⟨.nil,.nil,.nil,trivial⟩;have q1:=hW.rep;have q3:=hW.exc;have T1:=nt w Hd hW.few Iw.few (by show w.rep.length+0≤_;omega) (by show w.exc.length+0≤_;omega) hW.rq Iw.rq;rw[XQ,Aw h]at T1;have T0:=nt Hd w Iw.few hW.few (by show 0+w.rep.length≤_;omega) (by show 0+w.exc.length≤_;omega) Iw.rq hW.rq;rw[XP,Aw h]at T0;have bJ:=nt w w hW.few hW.few (by omega) (by omega) hW.rq hW.rq;rw[QK,Aw h]at bJ;have T1:=T1.args (args':=[.agg (Bx w),.agg [.v (.slice none 0 0),.v (.slice none 0 0),.v (.slice none 0 0)]]) ⟨.refl _,hz,trivial⟩;have T0:=T0.args (args':=[.agg [.v (.slice none 0 0),.v (.slice none 0 0),.v (.slice none 0 0)],.agg (Bx w)]) ⟨hz,.refl _,trivial⟩;have ZT:=oC w hW.few;rw[h]at ZT;have Pg:=uN w w hW.few hW.qs;rw[NP]at Pg;refine Ps ⟨[1,3,5,7],[],[],[],[],[],[],[],[],[],[3,5,6,7,8,9,10,11]⟩ Tryz.func6 rfl (Nz rfl) ?_;refine Xi .pure (Xi _ (Yi o9 ?_));refine Xi ⟨[(1,.ref 1 0)],[(1,.ro (Bx w))],Ab⟩ (Yi ⟨Z1,Z1,Fh,Tv⟩ ?_)
 refine Yi (Nz rfl) ?_;refine BV (Bt (FK w)) (fun h1=>?_) (fun h1=>?_)
 ·have h1:(FK w)=true:=h1;refine Xi .pure (Xi _ (Yi (cb h1 (r6 w hW)) ?_));refine Xi ⟨[(1,.ref 1 0)],[(1,.ro (Bx w))],Ab⟩ (Yi ⟨Z1,Z1,Fh,Tv⟩ ?_)
  refine Yi (Nz rfl) ?_;refine Xi .pure (Xi _ (Yi T1 ?_));refine Yi (Nz rfl) ?_;refine Xi ⟨[(1,.ref 1 0),(3,.ref 3 0),(4,vi 0)],[(1,.ro (Bx w)),(3,.ro (Bx w))],Ab⟩ (Yi ⟨Z3,Z2,Fh,Tv⟩ ?_)
  refine Yi (Nz rfl) ?_;refine Xi .pure (Xi _ (Yi T0 ?_));refine Yi (Nz rfl) ?_;refine Xi ⟨[(1,.ref 1 0),(3,.ref 3 0),(4,vi 0),(5,.ref 5 0),(6,vi 0)],[(1,.ro (Bx w)),(3,.ro (Bx w)),(5,.ro (Bx w))],Ab⟩ (Yi ⟨Z5,Z3,Fh,Tv⟩ ?_)
  refine Yi (Nz rfl) ?_;refine Yi (Nz rfl) ?_;refine Xi .pure (Xi _ (Yi bJ ?_));refine Yi (Nz rfl) ?_;refine Xi ⟨[(1,.ref 1 0),(3,.ref 3 0),(4,vi 0),(5,.ref 5 0),(6,vi 0),(7,.ref 7 0),(8,vi 0)],[(1,.ro (Bx w)),(3,.ro (Bx w)),(5,.ro (Bx w)),(7,.ro (Bx w))],Ab⟩ (Yi ⟨Z7,Z4,Fh,Tv⟩ ?_)
  refine Yi (Nz rfl) ?_;refine Xi .pure (Xi _ (Yi ZT ?_));refine Xi ⟨[(1,.ref 1 0),(3,.ref 3 0),(4,vi 0),(5,.ref 5 0),(6,vi 0),(7,.ref 7 0),(8,vi 0),(9,vi 0)],[(1,.ro (Bx w)),(3,.ro (Bx w)),(5,.ro (Bx w)),(7,.ro (Bx w))],Ab⟩ (Yi ⟨Z8,Z4,Fh,Tv⟩ ?_)
  refine Yi (fun h=>absurd h (by decide)) (fun _=>?_);refine Xi ⟨[(1,.ref 1 0),(3,.ref 3 0),(4,vi 0),(5,.ref 5 0),(6,vi 0),(7,.ref 7 0),(8,vi 0)],[(1,.ro (Bx w)),(3,.ro (Bx w)),(5,.ro (Bx w)),(7,.ro (Bx w))],Ab⟩ (Yi ⟨Z7,Z4,Fh,Tv⟩ ?_)
  refine Yi (fun _=>?_) (fun h=>absurd (by decide) h);refine Yi (fun _=>?_) (fun h=>absurd (by decide) h);refine Yi (fun _=>?_) (fun h=>absurd (by decide) h);refine Yi (Nz rfl) ?_;refine Yi (Nz rfl) ?_;refine Xi .pure (Xi _ (Yi Pg ?_));refine Yi (Nz rfl) ?_;refine Yi (Nz rfl) ?_;refine Xi .pure (Xi _ (Yi Pg ?_));refine Yi (Nz rfl) ?_;refine Yi (Nz rfl) ?_;refine Xi .pure (Xi _ (Yi Pg ?_));exact .refl _
 have h1:(FK w)=false:=h1;refine Xi .pure (Xi _ (Yi (cb h1 (r6 w hW)) ?_));exact .refl _
theorem qz(w:Wk)(hW:Pk w)(h:¬B4 w=0):PC 6 [.agg (Bx w)] (vb true):=by
 have hz:Ha (.agg [.v (.slice none 0 0),.v (.slice none 0 0),.v (.slice none 0 0)]) (.agg (Bx Hd)):=.agg ⟨.nil,.nil,.nil,trivial⟩;have q1:=hW.rep;have q3:=hW.exc;have T1:=nt w Hd hW.few Iw.few (by show w.rep.length+0≤_;omega) (by show w.exc.length+0≤_;omega) hW.rq Iw.rq;rw[XQ,Ak h]at T1;have T0:=nt Hd w Iw.few hW.few (by show 0+w.rep.length≤_;omega) (by show 0+w.exc.length≤_;omega) Iw.rq hW.rq;rw[XP,Ak h]at T0;have bJ:=nt w w hW.few hW.few (by omega) (by omega) hW.rq hW.rq;rw[QK,Ak h]at bJ;have T1:=T1.args (args':=[.agg (Bx w),.agg [.v (.slice none 0 0),.v (.slice none 0 0),.v (.slice none 0 0)]]) ⟨.refl _,hz,trivial⟩;have T0:=T0.args (args':=[.agg [.v (.slice none 0 0),.v (.slice none 0 0),.v (.slice none 0 0)],.agg (Bx w)]) ⟨hz,.refl _,trivial⟩;have ZT:=oC w hW.few;have Pg:=(uN Hd Hd Iw.few Iw.qs).args (args':=[.agg (Bx Hd),.agg [.v (.slice none 0 0),.v (.slice none 0 0),.v (.slice none 0 0)]]) ⟨.refl _,hz,trivial⟩;rw[NP]at Pg;obtain⟨c,hc⟩:∃c,c=B4 w:=⟨_,rfl⟩;have pM:¬c=0:=by rw[hc];exact h
 rw[←hc]at T1 T0 bJ ZT;refine Ps ⟨[1,3,5,7],[],[],[],[],[],[],[],[],[],[3,5,6,7,8,9,10,11]⟩ Tryz.func6 rfl (Nz rfl) ?_;refine Xi .pure (Xi _ (Yi o9 ?_));refine Xi ⟨[(1,.ref 1 0)],[(1,.ro (Bx w))],Ab⟩ (Yi ⟨Z1,Z1,Fh,Tv⟩ ?_)
 refine Yi (Nz rfl) ?_;refine BV (Bt (FK w)) (fun h1=>?_) (fun h1=>?_)
 ·have h1:(FK w)=true:=h1;refine Xi .pure (Xi _ (Yi (cb h1 (r6 w hW)) ?_));refine Xi ⟨[(1,.ref 1 0)],[(1,.ro (Bx w))],Ab⟩ (Yi ⟨Z1,Z1,Fh,Tv⟩ ?_)
  refine Yi (Nz rfl) ?_;refine Xi .pure (Xi _ (Yi T1 ?_));refine Yi (Nz rfl) ?_;refine Xi ⟨[(1,.ref 1 0),(3,.ref 3 0),(4,vi c)],[(1,.ro (Bx w)),(3,.ro [sl Ai Hd.rep,sl Ae Hd.exc,sl Ae Hd.pin])],Ab⟩ (Yi ⟨Z3,Z2,Fh,Tv⟩ ?_)
  refine Yi (Nz rfl) ?_;refine Xi .pure (Xi _ (Yi T0 ?_));refine Yi (Nz rfl) ?_;refine Xi ⟨[(1,.ref 1 0),(3,.ref 3 0),(4,vi c),(5,.ref 5 0),(6,vi c)],[(1,.ro (Bx w)),(3,.ro [sl Ai Hd.rep,sl Ae Hd.exc,sl Ae Hd.pin]),(5,.ro [sl Ai Hd.rep,sl Ae Hd.exc,sl Ae Hd.pin])],Ab⟩ (Yi ⟨Z5,Z3,Fh,Tv⟩ ?_)
  refine Yi (Nz rfl) ?_;refine Yi (Nz rfl) ?_;refine Xi .pure (Xi _ (Yi bJ ?_));refine Yi (Nz rfl) ?_;refine Xi ⟨[(1,.ref 1 0),(3,.ref 3 0),(4,vi c),(5,.ref 5 0),(6,vi c),(7,.ref 7 0),(8,vi c)],[(1,.ro (Bx w)),(3,.ro [sl Ai Hd.rep,sl Ae Hd.exc,sl Ae Hd.pin]),(5,.ro [sl Ai Hd.rep,sl Ae Hd.exc,sl Ae Hd.pin]),(7,.ro [sl Ai Hd.rep,sl Ae Hd.exc,sl Ae Hd.pin])],Ab⟩ (Yi ⟨Z7,Z4,Fh,Tv⟩ ?_)
  refine Yi (Nz rfl) ?_;refine Xi .pure (Xi _ (Yi ZT ?_));refine Xi ⟨[(1,.ref 1 0),(3,.ref 3 0),(4,vi c),(5,.ref 5 0),(6,vi c),(7,.ref 7 0),(8,vi c),(9,vi c)],[(1,.ro (Bx w)),(3,.ro [sl Ai Hd.rep,sl Ae Hd.exc,sl Ae Hd.pin]),(5,.ro [sl Ai Hd.rep,sl Ae Hd.exc,sl Ae Hd.pin]),(7,.ro [sl Ai Hd.rep,sl Ae Hd.exc,sl Ae Hd.pin])],Ab⟩ (Yi ⟨Z8,Z4,Fh,Tv⟩ ?_)
  refine Yi (fun h2=>?_) (fun h2=>?_)
  ·have h2:(c:Int)≠(0:Int):=h2;refine Xi ⟨[(3,.ref 3 0),(4,vi c),(5,.ref 5 0),(6,vi c),(7,.ref 7 0),(8,vi c),(9,vi c)],[(3,.ro [sl Ai Hd.rep,sl Ae Hd.exc,sl Ae Hd.pin]),(5,.ro [sl Ai Hd.rep,sl Ae Hd.exc,sl Ae Hd.pin]),(7,.ro [sl Ai Hd.rep,sl Ae Hd.exc,sl Ae Hd.pin])],Ab⟩ (Yi ⟨Z7,Z3,Fh,Tv⟩ ?_)
   refine Yi (fun h3=>?_) (fun h3=>?_)
   ·have h3:(c:Int)=(c:Int):=h3;refine Yi (fun _=>?_) (fun hf=>absurd h3 hf);refine Yi (fun _=>?_) (fun hf=>absurd h3 hf);refine Yi (Nz rfl) ?_;refine Xi .pure (Xi _ (Yi Pg ?_));refine Yi (Nz rfl) ?_;refine Xi .pure (Xi _ (Yi Pg ?_));refine Yi (Nz rfl) ?_;refine Xi .pure (Xi _ (Yi Pg ?_));exact .refl _
   have h3:¬((c:Int)=(c:Int)):=h3;exact absurd rfl h3
  have h2:(c:Int)=(0:Int):=Bq h2;exact absurd h2 pM
 have h1:(FK w)=false:=h1;refine Xi .pure (Xi _ (Yi (cb h1 (r6 w hW)) ?_));exact .refl _
theorem uH(w:Wk)(hW:Pk w):PC 6 [.agg (Bx w)] (vb true):=by
 by_cases h:B4 w=0
 ·exact qy w hW h
 ·exact qz w hW h
end Go.Eng
