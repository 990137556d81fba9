/- Lemmas for the claims of this seat, without a condition: part 23 (LayItoa, E1, E2, E3, E4, E5). -/
import Derived.Test.YtpgfieopnnkpfaaGreatDoorSA03
import Derived.Test.YtpgfieopnnkpfaaGreatDoorSA18
import Derived.Shelf.Strconv.Itoa3
import Derived.Room.Shelf.Join48
import Derived.Shelf.Strings.Prefix
import Derived.Ground.NamesProg
import Derived.Lib.AppendIntMem
namespace Go.Proofs
open Go.Shelf
def Tryz.layItoa_ren:Go.Shelf.Ren:=⟨fun | 171=>39 | 243=>91 | 246=>154 | 283=>222 | 284=>223 | 285=>224 | 286=>225 | 129=>195 | 317=>279 | 318=>280 | 319=>281 | 320=>282 | 337=>324 | 338=>325 | n=>n,fun | 3=>3 | 9=>9 | 2=>2 | 4=>4 | 171=>255 | 0=>0 | 53=>239 | 37=>144 | 5=>5 | 173=>257 | 212=>296 | 51=>196 | 20=>20 | 213=>297 | 46=>159 | 232=>330 | 233=>331 | n=>n,fun | 17=>3 | 18=>4 | 19=>5 | n=>n⟩
theorem Tryz.layItoa:Go.Proofs.LaysM.n171 Tryz.prog Tryz.layItoa_ren:={
 mixed:=by kernel_rfl
 f129:=Tryz.func195.trans (congrArg some (by kernel_rfl))
 f171:=Tryz.func39.trans (congrArg some (by kernel_rfl))
 f243:=Tryz.func91.trans (congrArg some (by kernel_rfl))
 f246:=Tryz.func154.trans (congrArg some (by kernel_rfl))
 f283:=Tryz.func222.trans (congrArg some (by kernel_rfl))
 f284:=Tryz.func223.trans (congrArg some (by kernel_rfl))
 f285:=Tryz.func224.trans (congrArg some (by kernel_rfl))
 f286:=Tryz.func225.trans (congrArg some (by kernel_rfl))
 f317:=Tryz.func279.trans (congrArg some (by kernel_rfl))
 f318:=Tryz.func280.trans (congrArg some (by kernel_rfl))
 f319:=Tryz.func281.trans (congrArg some (by kernel_rfl))
 f320:=Tryz.func282.trans (congrArg some (by kernel_rfl))
 f337:=Tryz.func324.trans (congrArg some (by kernel_rfl))
 f338:=Tryz.func325.trans (congrArg some (by kernel_rfl))
 t0:=Tryz.underlying0
 a0:=Tryz.isAgg0
 z0:=Tryz.sizeOf0
 v0:=Tryz.zeroValue0
 t2:=Tryz.underlying2
 a2:=Tryz.isAgg2
 z2:=Tryz.sizeOf2
 v2:=Tryz.zeroValue2
 t3:=Tryz.underlying3
 a3:=Tryz.isAgg3
 z3:=Tryz.sizeOf3
 v3:=Tryz.zeroValue3
 t4:=Tryz.underlying4
 a4:=Tryz.isAgg4
 z4:=Tryz.sizeOf4
 v4:=Tryz.zeroValue4
 t5:=Tryz.underlying5
 a5:=Tryz.isAgg5
 z5:=Tryz.sizeOf5
 v5:=Tryz.zeroValue5
 t9:=Tryz.underlying9
 a9:=Tryz.isAgg9
 z9:=Tryz.sizeOf9
 v9:=Tryz.zeroValue9
 t20:=Tryz.underlying20
 a20:=Tryz.isAgg20
 z20:=Tryz.sizeOf20
 v20:=Tryz.zeroValue20
 t37:=Tryz.underlying144
 a37:=Tryz.isAgg144
 z37:=Tryz.sizeOf144
 v37:=Tryz.zeroValue144
 t46:=Tryz.underlying159
 a46:=Tryz.isAgg159
 z46:=Tryz.sizeOf159
 v46:=Tryz.zeroValue159
 t51:=Tryz.underlying196
 a51:=Tryz.isAgg196
 z51:=Tryz.sizeOf196
 v51:=Tryz.zeroValue196
 t53:=Tryz.underlying239
 a53:=Tryz.isAgg239
 z53:=Tryz.sizeOf239
 v53:=Tryz.zeroValue239
 t171:=Tryz.underlying255
 a171:=Tryz.isAgg255
 z171:=Tryz.sizeOf255
 v171:=Tryz.zeroValue255
 t173:=Tryz.underlying257
 a173:=Tryz.isAgg257
 z173:=Tryz.sizeOf257
 v173:=Tryz.zeroValue257
 t212:=Tryz.underlying296
 a212:=Tryz.isAgg296
 z212:=Tryz.sizeOf296
 v212:=Tryz.zeroValue296
 t213:=Tryz.underlying297
 a213:=Tryz.isAgg297
 z213:=Tryz.sizeOf297
 t232:=Tryz.underlying330
 a232:=Tryz.isAgg330
 z232:=Tryz.sizeOf330
 v232:=Tryz.zeroValue330
 t233:=Tryz.underlying331
 a233:=Tryz.isAgg331
 z233:=Tryz.sizeOf331
 v233:=Tryz.zeroValue331
 g17:=by kernel_rfl
 g18:=by kernel_rfl
 g19:=by kernel_rfl
 i0:=by kernel_rfl
 i2:=by kernel_rfl
 i3:=by kernel_rfl
 i4:=by kernel_rfl
 i5:=by kernel_rfl
 i9:=by kernel_rfl
 i20:=by kernel_rfl
 i37:=by kernel_rfl
 i46:=by kernel_rfl
 i51:=by kernel_rfl
 i53:=by kernel_rfl
 i171:=by kernel_rfl
 i173:=by kernel_rfl
 i212:=by kernel_rfl
 i232:=by kernel_rfl
 i233:=by kernel_rfl
 m17:=by kernel_rfl
 m18:=by kernel_rfl
 m19:=by kernel_rfl }
def Tryz.layJoin_ren:Go.Shelf.Ren:=⟨fun | 156=>49 | 165=>105 | 166=>106 | 169=>107 | 240=>166 | 241=>167 | 276=>234 | 277=>235 | n=>n,fun | 31=>45 | 9=>9 | 3=>3 | 4=>4 | 0=>0 | 20=>20 | 72=>146 | 76=>80 | 70=>143 | 37=>144 | 75=>79 | 127=>208 | 164=>268 | 5=>5 | 80=>148 | n=>n,fun | n=>n⟩
theorem Tryz.layJoin:Go.Proofs.Lays.n156 Tryz.prog Tryz.layJoin_ren:={
 mixed:=by kernel_rfl
 f156:=Tryz.func49.trans (congrArg some (by kernel_rfl))
 f165:=Tryz.func105.trans (congrArg some (by kernel_rfl))
 f166:=Tryz.func106.trans (congrArg some (by kernel_rfl))
 f169:=Tryz.func107.trans (congrArg some (by kernel_rfl))
 f240:=Tryz.func166.trans (congrArg some (by kernel_rfl))
 f241:=Tryz.func167.trans (congrArg some (by kernel_rfl))
 f276:=Tryz.func234.trans (congrArg some (by kernel_rfl))
 f277:=Tryz.func235.trans (congrArg some (by kernel_rfl))
 t0:=Tryz.underlying0
 a0:=Tryz.isAgg0
 z0:=Tryz.sizeOf0
 v0:=Tryz.zeroValue0
 t3:=Tryz.underlying3
 a3:=Tryz.isAgg3
 z3:=Tryz.sizeOf3
 v3:=Tryz.zeroValue3
 t4:=Tryz.underlying4
 a4:=Tryz.isAgg4
 z4:=Tryz.sizeOf4
 v4:=Tryz.zeroValue4
 t9:=Tryz.underlying9
 a9:=Tryz.isAgg9
 z9:=Tryz.sizeOf9
 v9:=Tryz.zeroValue9
 t20:=Tryz.underlying20
 a20:=Tryz.isAgg20
 z20:=Tryz.sizeOf20
 v20:=Tryz.zeroValue20
 t31:=Tryz.underlying45
 a31:=Tryz.isAgg45
 z31:=Tryz.sizeOf45
 v31:=Tryz.zeroValue45
 t37:=Tryz.underlying144
 a37:=Tryz.isAgg144
 z37:=Tryz.sizeOf144
 v37:=Tryz.zeroValue144
 t70:=Tryz.underlying143
 a70:=Tryz.isAgg143
 z70:=Tryz.sizeOf143
 v70:=Tryz.zeroValue143
 t72:=Tryz.underlying146
 a72:=Tryz.isAgg146
 z72:=Tryz.sizeOf146
 v72:=Tryz.zeroValue146
 t75:=Tryz.underlying79
 a75:=Tryz.isAgg79
 z75:=Tryz.sizeOf79
 v75:=Tryz.zeroValue79
 t76:=Tryz.underlying80
 a76:=Tryz.isAgg80
 z76:=Tryz.sizeOf80
 v76:=Tryz.zeroValue80
 t127:=Tryz.underlying208
 a127:=Tryz.isAgg208
 z127:=Tryz.sizeOf208
 v127:=Tryz.zeroValue208
 t164:=Tryz.underlying268
 a164:=Tryz.isAgg268
 z164:=Tryz.sizeOf268
 v164:=Tryz.zeroValue268 }
theorem Tryz.layJoinX:Builder.Extra Tryz.prog Tryz.layJoin_ren:={
 sizeBuilder:=by kernel_rfl
 liesBuilder:=by kernel_rfl
 t5:=Tryz.underlying5
 a5:=Tryz.isAgg5
 z5:=Tryz.sizeOf5
 v5:=Tryz.zeroValue5
 infoByte:=by kernel_rfl
 cellsByte:=by kernel_rfl
 sizeByte:=by kernel_rfl
 neB5:=by decide }
def Tryz.layHasP_ren:Go.Shelf.Ren:=⟨fun | 99=>38 | 206=>90 | n=>n,fun | 9=>9 | 4=>4 | 3=>3 | n=>n,fun | n=>n⟩
theorem Tryz.layHasP:Go.Proofs.Lays.n99 Tryz.prog Tryz.layHasP_ren:={
 mixed:=by kernel_rfl
 f99:=Tryz.func38.trans (congrArg some (by kernel_rfl))
 f206:=Tryz.func90.trans (congrArg some (by kernel_rfl))
 t3:=Tryz.underlying3
 a3:=Tryz.isAgg3
 z3:=Tryz.sizeOf3
 v3:=Tryz.zeroValue3
 t4:=Tryz.underlying4
 a4:=Tryz.isAgg4
 z4:=Tryz.sizeOf4
 v4:=Tryz.zeroValue4
 t9:=Tryz.underlying9
 a9:=Tryz.isAgg9
 z9:=Tryz.sizeOf9
 v9:=Tryz.zeroValue9 }
end Go.Proofs

namespace Go.Eng
open Go.Proofs Go.RowKit
theorem below_fin {g:Gh} {w w' : World} {x:Value} (hI:Inv w g hfree hfree g w) (q:Below w.heap.size w w') :
  ∃ v r h' g',Ending.returned x=.returned v∧(r=.v x∧h'=hfree)∧Rep g' w' (used h') r v∧Inv w g hfree h' g' w'∧Le hfree g w h' g' w':=by
 have hK:Keeps g w g w':=fun b o hb=>by
  have hlt:=hI.slt b o hb;exact ⟨hb,by simp only [World.cell?,q.block b hlt],fun es ck he=>(q.block b hlt).trans he⟩
 exact ⟨x,.v x,hfree,g,rfl,Zr,.v _ _,⟨q.os,q.tape,q.output,q.size,fun b hb _=>q.block b hb,fun b o hs=>Nat.lt_of_lt_of_le (hI.slt b o hs) q.size,fun _=>Tv,fun _ _ _ h=>h.elim,fun _ _ h=>h.elim,fun b o hs=>.inl hs,hI.glob.keep hK⟩,⟨.refl _ _,fun _ h=>h,hK⟩⟩
theorem pow_named : Tryz.prog.globalNamed "internal/strconv.uint64pow10" = some 3 := by decide +kernel
theorem tab_is {w : World} (h : ∀ x ∈ gTab, w.cell? ⟨x.1, x.2.1, none⟩ = x.2.2) : Go.Lib.TabIs Tryz.prog w "internal/strconv.uint64pow10" .u64 Go.Lib.pow10Tab := by
 unfold Go.Lib.TabIs World.var?;rw [pow_named];simp only [Option.bind_some];have h20:=h (3,20,none) (List.mem_cons_self ..);have hi:∀ i,i<20→w.cell? ⟨3,i,none⟩=some (.int .u64 ((10 ^ i:Nat):Int)):=fun i hi=>h (3,i,some (.int .u64 ((10 ^ i:Nat):Int))) (List.mem_cons_of_mem _ (List.mem_map.2 ⟨i,List.mem_range.2 hi,rfl⟩));have h0:=hi 0 (by decide);unfold World.cell? at h0 h20 hi;cases e:w.heap[3]? with
 | none=>rw [e] at h0; cases h0
 | some o =>
  cases o with
  | cells cs E fr =>
   simp only [e,Option.isSome_none,Bool.false_eq_true,if_false] at h20 hi;have hs:cs.size=20:=by
    have h19:=hi 19 (by decide)
    have:=(Array.getElem?_eq_some_iff.1 h19).1
    have:=Array.getElem?_eq_none_iff.1 h20
    omega
   show some cs=_
   congr 1
   apply Array.ext
   ·simp [hs,Go.Lib.pow10Tab]
   ·intro i h1 h2
    have:=hi i (by omega)
    rw [Array.getElem?_eq_getElem h1] at this;rw [Option.some.inj this];simp [Go.Lib.pow10Tab]
  | _=>rw [e] at h0; simp at h0
theorem e39 (n:Int) (h:InI64 n):PC 39 [vi n] (vs (itB n)):=by
 unfold InI64 at h;refine pcall_below [.int .i64 n] (.string (itB n)) (ent 39 Tryz.func39 (by kernel_rfl) rfl) rfl (fun g w=>.v _ _) fun w _ ht=>?_;refine (Any.strconv_Itoa Tryz.layItoa n h.1 (by omega) w (tab_is ht)).mono ?_
 rintro e w' ⟨rfl,k,os,rfl⟩
 exact ⟨rfl,Go.Lib.below_grow _ _ (Nat.le_refl _) _ _⟩
abbrev joinN (sep:ByteArray) (l:List ByteArray):Nat:=(joinB sep l).data.toList.length
theorem e49 (l:List ByteArray) (sep:ByteArray) (hl:l.length≤1073741824) (hj:joinN sep l≤281474976710656):PC 49 [sl encStr l,vs sep] (vs (joinB sep l)):=by
 refine ⟨ent 49 Tryz.func49 (by kernel_rfl) rfl,fun g w us hs hv hI=>?_⟩
 match us,hs,hv with
 | ⟨[v0,v1]⟩,_,hv =>
  have r0:Rep g w (used hfree) (.slice .none (l.map encStr)) v0:=hv 0 _ v0 rfl rfl;have r1:=(hv 1 _ v1 rfl rfl).v_eq;subst r1;have hj:(Go.Lib.join (l.map (·.data.toList)) sep.data.toList).length≤281474976710656:=by simpa [joinN,joinB] using hj
  generalize hes:l.map encStr=es at r0;have fin:∀ {e:Ending} {w' : World},e=.returned (.string (joinB sep l))∧Below w.heap.size w w'→∃ v r h' g',e=.returned v∧(r=vs (joinB sep l)∧h'=hfree)∧Rep g' w' (used h') r v∧Inv w g hfree h' g' w'∧Le hfree g w h' g' w':=by
   rintro e w' ⟨rfl,q⟩
   exact below_fin hI q
  cases r0 with
  | snil _ a cap =>
   have:l=[]:=by simpa using hes
   subst this;refine (Any.strings_Join_none Tryz.layJoin Tryz.layJoinX a cap sep w).mono fun e w' ⟨h1,h2⟩=>fin ⟨h1,?_⟩;subst h2; exact .refl _ _
  | slice _ _ b off sz cap val hc hsz hcell hrep =>
   subst hes;cases l with
   | nil=>exact (Any.strings_Join_none Tryz.layJoin Tryz.layJoinX (some ⟨b,off,none⟩) cap sep w).mono fun e w' ⟨h1,h2⟩=>fin ⟨h1,h2▸.refl _ _⟩
   | cons x r =>
    have h1:sz=1:=(hsz 0 (encStr x) rfl).symm;subst h1;have hcells:∀ (j:Nat) y,(x :: r)[j]?=some y→g.S b (off+j)∧w.cell? ⟨b,off+j,none⟩=some (.string y):=fun j y hy=>by
     have e1:((x :: r).map encStr)[j]?=some (encStr y):=by rw [List.getElem?_map,hy]; rfl
     obtain ⟨q1,q2,_⟩:=hcell j _ 0 (vs y) e1 rfl
     have:=(hrep j _ 0 (vs y) e1 rfl).v_eq
     rw [this] at q2;simp only [Nat.mul_one,Nat.add_zero] at q1 q2;exact ⟨q1,q2⟩
    have hb:b<w.heap.size:=hI.slt b _ (hcells 0 x rfl).1
    have:=Any.strings_Join_48 Tryz.layJoin Tryz.layJoinX b off cap (x :: r) sep w (fun j y hy=>(hcells j y hy).2) hb (by omega) (by simpa using hc) hj
    rw [Lm];exact this.mono fun e w' h=>fin h
end Go.Eng

namespace Go.Eng
open Go.Proofs
abbrev wv (v:Ver) (i:Nat):List ByteArray:=(List.range i).map fun j=>itB (part v j)
theorem valid_part {v:Ver} (h:validB v=true):∀ i,i<3→0≤part v i∧part v i≤999
 | 0,_=>by have:=valid_place h; exact ⟨this.1,this.2.1⟩
 | 1,_=>by have:=valid_place h; exact ⟨this.2.2.1,this.2.2.2.1⟩
 | 2,_=>by have:=valid_place h; exact ⟨this.2.2.2.2.1,this.2.2.2.2.2⟩
 | _+3,h=>by omega
theorem head_part (v:Ver) (i:Nat) (h:i<3) (K:AV→Prop):headK (([vi v.a,vi v.b,vi v.c]).drop ((i:Int).toNat*1)) K=K (vi (part v i)):=by
 match i,h with
 | 0,_=>rfl
 | 1,_=>rfl
 | 2,_=>rfl
 | _+3,h=>omega
theorem wv_succ (v:Ver) (i:Nat):wv v (i+1)=wv v i++[itB (part v i)]:=by unfold wv; rw [List.range_succ,List.map_append]; rfl
theorem wv_join (v:Ver):joinB bDot (wv v 3)=verT v.a v.b v.c:=verT_join v.a v.b v.c
theorem wv_bound (v:Ver) (h:validB v=true):joinN bDot (wv v 3)≤281474976710656:=by
 unfold joinN;rw [wv_join]
 have:=valid_place h
 have:=verT_size (a:=v.a) (b:=v.b) (c:=v.c) (by omega) (by omega) (by omega)
 have e:(verT v.a v.b v.c).data.toList.length=(verT v.a v.b v.c).size:=rfl;omega
def verE (v:Ver):Int:=if validB v then 0 else 2
abbrev verR (v:Ver):AV:=.tup [vs (verF v),vi (verE v)]
def atV (m p:Int):Ver:=if 0≤p∧p<1000000∧validB ⟨m,p / 1000,p % 1000⟩=true then ⟨m,p / 1000,p % 1000⟩ else ⟨0,0,0⟩
def atE (m p:Int):Int:=if 0≤p∧p<1000000∧validB ⟨m,p / 1000,p % 1000⟩=true then 0 else 2
theorem e78 (v:Ver):PC 78 [.agg (encVer v)] (verR v):=by
 refine Ps ⟨[],[(4,1)],[],[],[],[],[],[],[],[],[]⟩ Tryz.func78 rfl (Nz rfl) ?_;refine Yi (Nz rfl) ?_;refine Or.elim (Bt (validB v)) (fun h1=>?_) (fun h1=>?_)
 ·have h1:(validB v)=true:=h1;have hc2:=(c100 v);rw [show (validB v)=true from h1] at hc2;refine Xi .pure (Xi _ (Yi hc2 ?_));refine Yi (Nz rfl) ?_;refine Xi .pure (Xi _ (Yi (c138 v) ?_));refine Xi {i:Nat // i≤3} (Xi (fun q=>⟨[(4,.slice (.id 4 1) ((wv v q.1).map encStr)),(11,.agg [vi v.a,vi v.b,vi v.c]),(12,vi q.1)],[(4,.tok 1 q.1)],hfree⟩) (Xi (fun q=>3 - q.1) (Yi (Xi ⟨0,by decide⟩ ?_) ?_)))
  ·exact ⟨Z3,Z1,Fh,Tv⟩
  intro ⟨i,i1⟩;have i1:i≤3:=i1;have hrl:(List.range i).length=i:=List.length_range;refine Yi (fun h3=>?_) (fun h3=>?_)
  ·have h3:(i:Int)<(3:Int):=h3;have hi3:i<3:=by omega
   refine Yi ⟨by show (0:Int)≤i; omega,by show (i:Int)<3; omega⟩ ?_;refine (head_part v i hi3 _).mpr ?_;refine Xi .pure (Xi _ (Yi (e39 (part v i) (by have q:=valid_part h1 i hi3; unfold InI64; omega)) ?_));have b4:AllLen 1 [[vs (itB (part v i))]]∧((wv v i).map encStr).length=i∧(((wv v i).map encStr).length+([[vs (itB (part v i))]]:List (List AV)).length)*16≤140737488355328∧((wv v i).map encStr).length+([[vs (itB (part v i))]]:List (List AV)).length≤9223372036854775807:=⟨⟨rfl,trivial⟩,(by simp),(by simp only [Lm,List.length_cons,List.length_nil]; omega),(by simp only [Lm,List.length_cons,List.length_nil]; omega)⟩;refine Yi b4 ?_;refine Yi (Ii i (by omega)) ?_;refine Xi ⟨i+1,by omega⟩ ?_;exact ⟨Dl 3 i (by omega),⟨⟨(show AV.slice (.id 4 1) ((wv v i).map encStr++[[vs (itB (part v i))]])=.slice (.id 4 1) ((wv v (i+1)).map encStr) by rw [wv_succ,List.map_append]; rfl),rfl⟩,Zr,Zr,Tv⟩,⟨⟨(show HO.tok 1 (((wv v i).map encStr).length+([[vs (itB (part v i))]]:List (List AV)).length)=.tok 1 (i+1) by simp),rfl⟩,Tv⟩,Fh,Tv⟩
  have h3:¬ ((i:Int)<(3:Int)):=h3;have hi3:i=3:=by omega
  have e49v:=e49 (wv v 3) bDot (by show (3:Nat)≤_; decide) (wv_bound v h1);rw [← hi3] at e49v;refine Xi .pure (Xi _ (Yi e49v ?_));exact .of_eq (show AV.tup [vs (joinB bDot (wv v i)),vi 0]=.tup [vs (verF v),vi (verE v)] by rw [hi3,wv_join]; unfold verF verE; rw [h1]; rfl)
 have h1:(validB v)=false:=h1;have hc7:=(c100 v);rw [show (validB v)=false from h1] at hc7;refine Xi .pure (Xi _ (Yi hc7 ?_));exact .of_eq (show AV.tup [vs ⟨#[]⟩,vi 2]=.tup [vs (verF v),vi (verE v)] by unfold verF verE; rw [h1]; rfl)
theorem e130 (m p:Int) (hp:InI64 p):PC 130 [vi m,vi p] (.tup [.agg (encVer (atV m p)),vi (atE m p)]):=by
 have hp : -9223372036854775808≤p∧p<9223372036854775808:=hp;refine Ps ⟨[],[],[],[],[],[],[],[],[],[],[]⟩ Tryz.func130 rfl (Nz rfl) ?_;refine Yi (fun h1=>?_) (fun h1=>?_)
 ·have h1:(p:Int)<(0:Int):=h1;refine Yi (Nz rfl) ?_;refine Yi (Nz rfl) ?_;exact .of_eq (show AV.tup [.agg [vi 0,vi 0,vi 0],vi 2]=.tup [.agg (encVer (atV m p)),vi (atE m p)] by unfold atV atE; rw [if_neg (fun h=>by omega),if_neg (fun h=>by omega)])
 have h1:¬ ((p:Int)<(0:Int)):=h1;refine Yi (fun h3=>?_) (fun h3=>?_)
 ·have h3:(1000000:Int)≤(p:Int):=h3;refine Yi (Nz rfl) ?_;refine Yi (Nz rfl) ?_;exact .of_eq (show AV.tup [.agg [vi 0,vi 0,vi 0],vi 2]=.tup [.agg (encVer (atV m p)),vi (atE m p)] by unfold atV atE; rw [if_neg (fun h=>by omega),if_neg (fun h=>by omega)])
 have h3:¬ ((1000000:Int)≤(p:Int)):=h3;refine Yi ⟨by omega,by omega,(by show InI64 (p); unfold InI64; omega)⟩ ?_;refine Yi ⟨by omega,by omega⟩ ?_;refine Yi (Nz rfl) ?_;refine Yi (Nz rfl) ?_;refine Or.elim (Bt (validB ⟨m,p / 1000,p % 1000⟩)) (fun h5=>?_) (fun h5=>?_)
 ·have h5:(validB ⟨m,p / 1000,p % 1000⟩)=true:=h5;have hc6:=(c100 ⟨m,p / 1000,p % 1000⟩);rw [show (validB ⟨m,p / 1000,p % 1000⟩)=true from h5] at hc6;refine Xi .pure (Xi _ (Yi hc6 ?_));refine Yi (Nz rfl) ?_;refine Yi (Nz rfl) ?_;refine Yi (Nz rfl) ?_;exact .of_eq (show AV.tup [.agg [vi m,vi (p / 1000),vi (p % 1000)],vi 0]=.tup [.agg (encVer (atV m p)),vi (atE m p)] by unfold atV atE; rw [if_pos ⟨by omega,by omega,h5⟩,if_pos ⟨by omega,by omega,h5⟩])
 have h5:(validB ⟨m,p / 1000,p % 1000⟩)=false:=h5;have hc8:=(c100 ⟨m,p / 1000,p % 1000⟩);rw [show (validB ⟨m,p / 1000,p % 1000⟩)=false from h5] at hc8;refine Xi .pure (Xi _ (Yi hc8 ?_));refine Yi (Nz rfl) ?_;refine Yi (Nz rfl) ?_;exact .of_eq (show AV.tup [.agg [vi 0,vi 0,vi 0],vi 2]=.tup [.agg (encVer (atV m p)),vi (atE m p)] by unfold atV atE; rw [if_neg (fun h=>by rw [h5] at h; exact absurd h.2.2 (by decide)),if_neg (fun h=>by rw [h5] at h; exact absurd h.2.2 (by decide))])
theorem e161 (m p:Int) (hp:InI64 p):PC 161 [vi p,.cptr [vi m]] (vs (verF (atV m p))):=by
 refine Ps ⟨[],[],[],[],[],[],[],[],[],[],[]⟩ Tryz.func161 rfl (Nz rfl) ?_;refine Xi .pure (Xi _ (Yi (e130 m p hp) ?_));refine Yi (Nz rfl) ?_;refine Yi (Nz rfl) ?_;refine Xi .pure (Xi _ (Yi (e78 (atV m p)) ?_));exact .refl _
end Go.Eng

namespace Go.Eng
open Go.Proofs
theorem cat_ok {a b:ByteArray} (ha:a.size≤4000000000000000000) (hb:b.size≤4000000000000000000):((a.size+b.size:Nat):Int)≤9223372036854775807:=by omega
theorem canonF_lt:∀ {l:SpanL} {lo:Int},CanonF lo l→∀ x ∈ l,x.1<x.2:=by
 intro l
 induction l with
 | nil=>intro lo _ x hx; cases hx
 | cons y l ih =>
  intro lo h x hx;obtain ⟨h1,h2,h3,h4⟩:=h;rcases List.mem_cons.1 hx with rfl | hx
  ·omega
  ·exact ih h4 x hx
theorem canon_at (s:SpanL) (i:Nat) (h:i<(canon s).length):(0≤(canon s)[i].1∧(canon s)[i].1<(canon s)[i].2)∧(canon s)[i].2≤1000000:=by
 have h1:=canon_rng (canon_canon s) _ (List.getElem_mem h);have h2:=canonF_lt (canon_canon s) _ (List.getElem_mem h);omega
theorem fmt_at {m p:Int} (hm:0≤m∧m≤999) (hp:0≤p∧p<1000000):verF (atV m p)=plcT m p:=by
 have hv:validB ⟨m,p / 1000,p % 1000⟩=true:=by
  have h1:okPart m:=hm;have h2:okPart (p / 1000):=by unfold okPart; omega
  have h3:okPart (p % 1000):=by unfold okPart; omega
  unfold validB;rw [decide_eq_true h1,decide_eq_true h2,decide_eq_true h3]; rfl
 unfold atV;rw [if_pos ⟨hp.1,hp.2,hv⟩];unfold verF;rw [if_pos hv]; rfl
theorem fmt_size {m p:Int} (hm:0≤m∧m≤999) (hp:0≤p∧p<1000000):(verF (atV m p)).size≤65:=by rw [fmt_at hm hp]; exact plcT_size hm (by omega)
theorem span_bound {m:Int} (hm:0≤m∧m≤999) (s:SpanL):joinN bBar ((canon s).map (spanT m))≤281474976710656:=by
 have h:=joinB_size bBar 132 ((canon s).map (spanT m)) (fun x hx=>by
  obtain ⟨y,hy,rfl⟩:=List.mem_map.1 hx
  have:=canon_rng (canon_canon s) y hy
  exact spanT_size hm this.1 this.2)
 have hl:=canon_len (canon_canon s);rw [Lm] at h;have e:bBar.size=3:=rfl;rw [e] at h;show (joinB bBar ((canon s).map (spanT m))).size≤_;omega
abbrev spT (m:Int) (s:SpanL) (i:Nat):List ByteArray:=((canon s).take i).map (spanT m)
theorem spT_succ (m:Int) (s:SpanL) (i:Nat) (h:i<(canon s).length):spT m s (i+1)=spT m s i++[spanT m (canon s)[i]]:=by
 unfold spT; rw [List.take_succ_eq_append_getElem h,List.map_append]; rfl
set_option maxHeartbeats 4000000 in
theorem e98 (m:Int) (s:SpanL) (hM:0≤m∧m≤999) (hs:Few s):PC 98 [sl encSpan s,vi m] (.tup [vs (setT m s),vi 0]):=by
 have hM:0≤m∧m≤999:=hM;have hcl:=canon_len (canon_canon s);refine Ps ⟨[3],[(7,1)],[],[],[],[],[],[],[],[],[2,3,8,9,10,11,12,13,14,15,16,17,19,20]⟩ Tryz.func98 rfl (Nz rfl) ?_;refine Yi (fun hf=>absurd hf (show ¬ m<0 by omega)) (fun _=>?_);refine Yi (fun hf=>absurd hf (show ¬ (999:Int)<m by omega)) (fun _=>?_);refine Xi ⟨[(0,sl encSpan s),(3,.ref 3 0)],[(3,.ro [vi m])],hfree⟩ (Yi ⟨Z2,Z1,Fh,Tv⟩ ?_)
 refine Xi .pure (Xi _ (Yi (c102 s hs) ?_));refine Xi {i:Nat // i≤(canon s).length} (Xi (fun q=>⟨[(6,.clo 161 [.cptr [vi m]]),(7,.slice (.id 7 1) ((spT m s q.1).map encStr)),(18,sl encSpan (canon s)),(19,vi ((canon s).map encSpan).length),(20,vi q.1)],[(7,.tok 1 q.1)],hfree⟩) (Xi (fun q=>(canon s).length - q.1) (Yi (Xi ⟨0,Nat.zero_le _⟩ ?_) ?_)))
 ·exact ⟨Z5,Z1,Fh,Tv⟩
 intro ⟨i,i1⟩;have i1:i≤(canon s).length:=i1;have hrl:(spT m s i).length=i:=by unfold spT; rw [Lm,List.length_take]; omega
 have hrl2:((canon s).take i).length=i:=by rw [List.length_take]; omega
 refine Yi (fun h1=>?_) (fun h1=>?_)
 ·have h1:(i:Int)<(((canon s).map encSpan).length:Int):=h1;have n1:i<(canon s).length:=by have q:=h1; rw [Lm] at q; omega
  have g1:(canon s)[i]?=some (canon s)[i]:=Ge n1;have hca:=canon_at s i n1;refine Xi (encSpan ((canon s)[i])) (Yi (Yi (Nn i) (map_at g1)) (Yi rfl ?_));refine Yi (Nz rfl) ?_;refine Yi (Nz rfl) ?_;refine Xi ⟨[(6,.clo 161 [.cptr [vi m]]),(7,.slice (.id 7 1) ((spT m s i).map encStr)),(9,.ref 9 0),(18,sl encSpan (canon s)),(19,vi ((canon s).map encSpan).length),(20,vi i)],[(7,.tok 1 i),(9,.cells (encSpan ((canon s)[i])))],hfree⟩ (Yi ⟨Z6,Z2,Fh,Tv⟩ ?_)
  refine Yi (Nz rfl) ?_;refine Yi (fun h2=>?_) (fun h2=>?_)
  ·have h2:(((canon s)[i]).1:Int)=0∧(((canon s)[i]).2:Int)=1000000∧True:=h2;refine Xi ⟨[(6,.clo 161 [.cptr [vi m]]),(7,.slice (.id 7 1) ((spT m s i).map encStr)),(18,sl encSpan (canon s)),(19,vi ((canon s).map encSpan).length),(20,vi i)],[(7,.tok 1 i)],hfree⟩ (Yi ⟨Z5,Z1,Fh,Tv⟩ ?_)
   have b3:AllLen 1 [[vs ⟨#[42]⟩]]∧((spT m s i).map encStr).length=i∧(((spT m s i).map encStr).length+([[vs ⟨#[42]⟩]]:List (List AV)).length)*16≤140737488355328∧((spT m s i).map encStr).length+([[vs ⟨#[42]⟩]]:List (List AV)).length≤9223372036854775807:=⟨⟨rfl,trivial⟩,(by first | (simp; done) | (rw [Lm]; assumption)),(by simp only [Lm,List.length_cons,List.length_nil]; omega),(by simp only [Lm,List.length_cons,List.length_nil]; omega)⟩
   refine Yi b3 ?_;refine Xi ⟨[(6,.clo 161 [.cptr [vi m]]),(7,.slice (.id 7 1) (((spT m s i).map encStr)++[[vs ⟨#[42]⟩]])),(18,sl encSpan (canon s)),(19,vi ((canon s).map encSpan).length),(20,vi i)],[(7,.tok 1 (((spT m s i).map encStr).length+([[vs ⟨#[42]⟩]]:List (List AV)).length))],hfree⟩ (Yi ⟨Z5,Z1,Fh,Tv⟩ ?_)
   refine Yi (Ii i (by omega)) ?_;have hsp:spanT m ((canon s)[i])=⟨#[42]⟩:=by unfold spanT; (try dsimp only); rw [if_pos ⟨h2.1,h2.2.1⟩]
   refine Xi ⟨i+1,by omega⟩ ?_;exact ⟨by show (canon s).length - (i+1)<(canon s).length - i; omega,⟨Zr,⟨(show AV.slice (.id 7 1) ((spT m s i).map encStr++[[vs ⟨#[42]⟩]])=.slice (.id 7 1) ((spT m s (i+1)).map encStr) by rw [spT_succ m s i n1,List.map_append,← hsp]; rfl),rfl⟩,Zr,Zr,Zr,Tv⟩,⟨⟨(show HO.tok 1 (((spT m s i).map encStr).length+([[vs ⟨#[42]⟩]]:List (List AV)).length)=.tok 1 (i+1) by rw [Lm,hrl]; rfl),rfl⟩,Tv⟩,Fh,Tv⟩
  have h2:¬ ((((canon s)[i]).1:Int)=0∧(((canon s)[i]).2:Int)=1000000∧True):=h2;refine Xi ⟨[(6,.clo 161 [.cptr [vi m]]),(7,.slice (.id 7 1) ((spT m s i).map encStr)),(9,.ref 9 0),(18,sl encSpan (canon s)),(19,vi ((canon s).map encSpan).length),(20,vi i)],[(7,.tok 1 i),(9,.cells (encSpan ((canon s)[i])))],hfree⟩ (Yi ⟨Z6,Z2,Fh,Tv⟩ ?_)
  refine Yi (by show InI64 ((((canon s)[i]).1:Int)+(1:Int)); unfold InI64; omega) ?_;refine Yi (fun h5=>?_) (fun h5=>?_)
  ·have h5:(((canon s)[i]).2:Int)=(((canon s)[i]).1+1:Int):=h5;refine Xi ⟨[(6,.clo 161 [.cptr [vi m]]),(7,.slice (.id 7 1) ((spT m s i).map encStr)),(9,.ref 9 0),(18,sl encSpan (canon s)),(19,vi ((canon s).map encSpan).length),(20,vi i)],[(7,.tok 1 i),(9,.cells (encSpan ((canon s)[i])))],hfree⟩ (Yi ⟨Z6,Z2,Fh,Tv⟩ ?_)
   refine Xi .pure (Xi _ (Yi (e161 m ((canon s)[i]).1 (by unfold InI64; omega)) ?_));have b6:AllLen 1 [[vs (verF (atV m ((canon s)[i]).1))]]∧((spT m s i).map encStr).length=i∧(((spT m s i).map encStr).length+([[vs (verF (atV m ((canon s)[i]).1))]]:List (List AV)).length)*16≤140737488355328∧((spT m s i).map encStr).length+([[vs (verF (atV m ((canon s)[i]).1))]]:List (List AV)).length≤9223372036854775807:=⟨⟨rfl,trivial⟩,(by first | (simp; done) | (rw [Lm]; assumption)),(by simp only [Lm,List.length_cons,List.length_nil]; omega),(by simp only [Lm,List.length_cons,List.length_nil]; omega)⟩
   refine Yi b6 ?_;refine Xi ⟨[(6,.clo 161 [.cptr [vi m]]),(7,.slice (.id 7 1) (((spT m s i).map encStr)++[[vs (verF (atV m ((canon s)[i]).1))]])),(18,sl encSpan (canon s)),(19,vi ((canon s).map encSpan).length),(20,vi i)],[(7,.tok 1 (((spT m s i).map encStr).length+([[vs (verF (atV m ((canon s)[i]).1))]]:List (List AV)).length))],hfree⟩ (Yi ⟨Z5,Z1,Fh,Tv⟩ ?_)
   refine Yi (Ii i (by omega)) ?_;have hsp:spanT m ((canon s)[i])=(verF (atV m ((canon s)[i]).1)):=by unfold spanT; (try dsimp only); rw [if_neg (fun h=>h2 ⟨h.1,h.2,trivial⟩)]; rw [if_pos h5,fmt_at hM (by omega)]
   refine Xi ⟨i+1,by omega⟩ ?_;exact ⟨by show (canon s).length - (i+1)<(canon s).length - i; omega,⟨Zr,⟨(show AV.slice (.id 7 1) ((spT m s i).map encStr++[[vs (verF (atV m ((canon s)[i]).1))]])=.slice (.id 7 1) ((spT m s (i+1)).map encStr) by rw [spT_succ m s i n1,List.map_append,← hsp]; rfl),rfl⟩,Zr,Zr,Zr,Tv⟩,⟨⟨(show HO.tok 1 (((spT m s i).map encStr).length+([[vs (verF (atV m ((canon s)[i]).1))]]:List (List AV)).length)=.tok 1 (i+1) by rw [Lm,hrl]; rfl),rfl⟩,Tv⟩,Fh,Tv⟩
  have h5:¬ ((((canon s)[i]).2:Int)=(((canon s)[i]).1+1:Int)):=h5;refine Xi ⟨[(6,.clo 161 [.cptr [vi m]]),(7,.slice (.id 7 1) ((spT m s i).map encStr)),(9,.ref 9 0),(18,sl encSpan (canon s)),(19,vi ((canon s).map encSpan).length),(20,vi i)],[(7,.tok 1 i),(9,.cells (encSpan ((canon s)[i])))],hfree⟩ (Yi ⟨Z6,Z2,Fh,Tv⟩ ?_)
  refine Yi (fun h8=>?_) (fun h8=>?_)
  ·have h8:(((canon s)[i]).2:Int)=(1000000:Int):=h8;refine Xi ⟨[(6,.clo 161 [.cptr [vi m]]),(7,.slice (.id 7 1) ((spT m s i).map encStr)),(9,.ref 9 0),(18,sl encSpan (canon s)),(19,vi ((canon s).map encSpan).length),(20,vi i)],[(7,.tok 1 i),(9,.cells (encSpan ((canon s)[i])))],hfree⟩ (Yi ⟨Z6,Z2,Fh,Tv⟩ ?_)
   refine Xi .pure (Xi _ (Yi (e161 m ((canon s)[i]).1 (by unfold InI64; omega)) ?_));refine Yi (cat_ok (Nat.le_trans (fmt_size hM (p:=((canon s)[i]).1) (by omega)) (by decide)) (by decide)) ?_;have b9:AllLen 1 [[vs ((verF (atV m ((canon s)[i]).1))++⟨#[46,46]⟩)]]∧((spT m s i).map encStr).length=i∧(((spT m s i).map encStr).length+([[vs ((verF (atV m ((canon s)[i]).1))++⟨#[46,46]⟩)]]:List (List AV)).length)*16≤140737488355328∧((spT m s i).map encStr).length+([[vs ((verF (atV m ((canon s)[i]).1))++⟨#[46,46]⟩)]]:List (List AV)).length≤9223372036854775807:=⟨⟨rfl,trivial⟩,(by first | (simp; done) | (rw [Lm]; assumption)),(by simp only [Lm,List.length_cons,List.length_nil]; omega),(by simp only [Lm,List.length_cons,List.length_nil]; omega)⟩
   refine Yi b9 ?_;refine Xi ⟨[(6,.clo 161 [.cptr [vi m]]),(7,.slice (.id 7 1) (((spT m s i).map encStr)++[[vs ((verF (atV m ((canon s)[i]).1))++⟨#[46,46]⟩)]])),(18,sl encSpan (canon s)),(19,vi ((canon s).map encSpan).length),(20,vi i)],[(7,.tok 1 (((spT m s i).map encStr).length+([[vs ((verF (atV m ((canon s)[i]).1))++⟨#[46,46]⟩)]]:List (List AV)).length))],hfree⟩ (Yi ⟨Z5,Z1,Fh,Tv⟩ ?_)
   refine Yi (Ii i (by omega)) ?_;have hsp:spanT m ((canon s)[i])=((verF (atV m ((canon s)[i]).1))++⟨#[46,46]⟩):=by unfold spanT; (try dsimp only); rw [if_neg (fun h=>h2 ⟨h.1,h.2,trivial⟩)]; rw [if_neg h5]; rw [if_pos h8,fmt_at hM (by omega)]
   refine Xi ⟨i+1,by omega⟩ ?_;exact ⟨by show (canon s).length - (i+1)<(canon s).length - i; omega,⟨Zr,⟨(show AV.slice (.id 7 1) ((spT m s i).map encStr++[[vs ((verF (atV m ((canon s)[i]).1))++⟨#[46,46]⟩)]])=.slice (.id 7 1) ((spT m s (i+1)).map encStr) by rw [spT_succ m s i n1,List.map_append,← hsp]; rfl),rfl⟩,Zr,Zr,Zr,Tv⟩,⟨⟨(show HO.tok 1 (((spT m s i).map encStr).length+([[vs ((verF (atV m ((canon s)[i]).1))++⟨#[46,46]⟩)]]:List (List AV)).length)=.tok 1 (i+1) by rw [Lm,hrl]; rfl),rfl⟩,Tv⟩,Fh,Tv⟩
  have h8:¬ ((((canon s)[i]).2:Int)=(1000000:Int)):=h8;refine Xi ⟨[(6,.clo 161 [.cptr [vi m]]),(7,.slice (.id 7 1) ((spT m s i).map encStr)),(9,.ref 9 0),(18,sl encSpan (canon s)),(19,vi ((canon s).map encSpan).length),(20,vi i)],[(7,.tok 1 i),(9,.cells (encSpan ((canon s)[i])))],hfree⟩ (Yi ⟨Z6,Z2,Fh,Tv⟩ ?_)
  refine Yi (fun h11=>?_) (fun h11=>?_)
  ·have h11:(((canon s)[i]).1:Int)=(0:Int):=h11;refine Xi ⟨[(6,.clo 161 [.cptr [vi m]]),(7,.slice (.id 7 1) ((spT m s i).map encStr)),(9,.ref 9 0),(18,sl encSpan (canon s)),(19,vi ((canon s).map encSpan).length),(20,vi i)],[(7,.tok 1 i),(9,.cells (encSpan ((canon s)[i])))],hfree⟩ (Yi ⟨Z6,Z2,Fh,Tv⟩ ?_)
   refine Xi .pure (Xi _ (Yi (e161 m ((canon s)[i]).2 (by unfold InI64; omega)) ?_));refine Yi (cat_ok (by decide) (Nat.le_trans (fmt_size hM (p:=((canon s)[i]).2) (by omega)) (by decide))) ?_;have b12:AllLen 1 [[vs (⟨#[46,46]⟩++(verF (atV m ((canon s)[i]).2)))]]∧((spT m s i).map encStr).length=i∧(((spT m s i).map encStr).length+([[vs (⟨#[46,46]⟩++(verF (atV m ((canon s)[i]).2)))]]:List (List AV)).length)*16≤140737488355328∧((spT m s i).map encStr).length+([[vs (⟨#[46,46]⟩++(verF (atV m ((canon s)[i]).2)))]]:List (List AV)).length≤9223372036854775807:=⟨⟨rfl,trivial⟩,(by first | (simp; done) | (rw [Lm]; assumption)),(by simp only [Lm,List.length_cons,List.length_nil]; omega),(by simp only [Lm,List.length_cons,List.length_nil]; omega)⟩
   refine Yi b12 ?_;refine Xi ⟨[(6,.clo 161 [.cptr [vi m]]),(7,.slice (.id 7 1) (((spT m s i).map encStr)++[[vs (⟨#[46,46]⟩++(verF (atV m ((canon s)[i]).2)))]])),(18,sl encSpan (canon s)),(19,vi ((canon s).map encSpan).length),(20,vi i)],[(7,.tok 1 (((spT m s i).map encStr).length+([[vs (⟨#[46,46]⟩++(verF (atV m ((canon s)[i]).2)))]]:List (List AV)).length))],hfree⟩ (Yi ⟨Z5,Z1,Fh,Tv⟩ ?_)
   refine Yi (Ii i (by omega)) ?_;have hsp:spanT m ((canon s)[i])=(⟨#[46,46]⟩++(verF (atV m ((canon s)[i]).2))):=by unfold spanT; (try dsimp only); rw [if_neg (fun h=>h2 ⟨h.1,h.2,trivial⟩)]; rw [if_neg h5]; rw [if_neg h8]; rw [if_pos h11,fmt_at hM (by omega)]
   refine Xi ⟨i+1,by omega⟩ ?_;exact ⟨by show (canon s).length - (i+1)<(canon s).length - i; omega,⟨Zr,⟨(show AV.slice (.id 7 1) ((spT m s i).map encStr++[[vs (⟨#[46,46]⟩++(verF (atV m ((canon s)[i]).2)))]])=.slice (.id 7 1) ((spT m s (i+1)).map encStr) by rw [spT_succ m s i n1,List.map_append,← hsp]; rfl),rfl⟩,Zr,Zr,Zr,Tv⟩,⟨⟨(show HO.tok 1 (((spT m s i).map encStr).length+([[vs (⟨#[46,46]⟩++(verF (atV m ((canon s)[i]).2)))]]:List (List AV)).length)=.tok 1 (i+1) by rw [Lm,hrl]; rfl),rfl⟩,Tv⟩,Fh,Tv⟩
  have h11:¬ ((((canon s)[i]).1:Int)=(0:Int)):=h11;refine Xi ⟨[(6,.clo 161 [.cptr [vi m]]),(7,.slice (.id 7 1) ((spT m s i).map encStr)),(9,.ref 9 0),(18,sl encSpan (canon s)),(19,vi ((canon s).map encSpan).length),(20,vi i)],[(7,.tok 1 i),(9,.cells (encSpan ((canon s)[i])))],hfree⟩ (Yi ⟨Z6,Z2,Fh,Tv⟩ ?_)
  refine Xi _ (Yi (e161 m ((canon s)[i]).1 (by unfold InI64; omega)) ?_);refine Yi (cat_ok (Nat.le_trans (fmt_size hM (p:=((canon s)[i]).1) (by omega)) (by decide)) (by decide)) ?_;refine Xi _ (Yi (e161 m ((canon s)[i]).2 (by unfold InI64; omega)) ?_);refine Yi (cat_ok (by have q:=fmt_size hM (p:=(canon s)[i].1) (by omega); rw [bsize_app]; show _+2≤_; omega) (Nat.le_trans (fmt_size hM (p:=((canon s)[i]).2) (by omega)) (by decide))) ?_;have b14:AllLen 1 [[vs (((verF (atV m ((canon s)[i]).1))++⟨#[46,46]⟩)++(verF (atV m ((canon s)[i]).2)))]]∧((spT m s i).map encStr).length=i∧(((spT m s i).map encStr).length+([[vs (((verF (atV m ((canon s)[i]).1))++⟨#[46,46]⟩)++(verF (atV m ((canon s)[i]).2)))]]:List (List AV)).length)*16≤140737488355328∧((spT m s i).map encStr).length+([[vs (((verF (atV m ((canon s)[i]).1))++⟨#[46,46]⟩)++(verF (atV m ((canon s)[i]).2)))]]:List (List AV)).length≤9223372036854775807:=⟨⟨rfl,trivial⟩,(by first | (simp; done) | (rw [Lm]; assumption)),(by simp only [Lm,List.length_cons,List.length_nil]; omega),(by simp only [Lm,List.length_cons,List.length_nil]; omega)⟩
  refine Yi b14 ?_;refine Yi (by kernel_rfl) ?_;refine Xi ⟨[(6,.clo 161 [.cptr [vi m]]),(7,.slice (.id 7 1) (((spT m s i).map encStr)++[[vs (((verF (atV m ((canon s)[i]).1))++⟨#[46,46]⟩)++(verF (atV m ((canon s)[i]).2)))]])),(18,sl encSpan (canon s)),(19,vi ((canon s).map encSpan).length),(20,vi i)],[(7,.tok 1 (((spT m s i).map encStr).length+([[vs (((verF (atV m ((canon s)[i]).1))++⟨#[46,46]⟩)++(verF (atV m ((canon s)[i]).2)))]]:List (List AV)).length))],hfree⟩ (Yi ⟨Z5,Z1,Fh,Tv⟩ ?_)
  refine Yi (Ii i (by omega)) ?_;have hsp:spanT m ((canon s)[i])=(((verF (atV m ((canon s)[i]).1))++⟨#[46,46]⟩)++(verF (atV m ((canon s)[i]).2))):=by unfold spanT; (try dsimp only); rw [if_neg (fun h=>h2 ⟨h.1,h.2,trivial⟩)]; rw [if_neg h5]; rw [if_neg h8]; rw [if_neg h11,fmt_at hM (by omega),fmt_at hM (by omega)]
  refine Xi ⟨i+1,by omega⟩ ?_;exact ⟨by show (canon s).length - (i+1)<(canon s).length - i; omega,⟨Zr,⟨(show AV.slice (.id 7 1) ((spT m s i).map encStr++[[vs (((verF (atV m ((canon s)[i]).1))++⟨#[46,46]⟩)++(verF (atV m ((canon s)[i]).2)))]])=.slice (.id 7 1) ((spT m s (i+1)).map encStr) by rw [spT_succ m s i n1,List.map_append,← hsp]; rfl),rfl⟩,Zr,Zr,Zr,Tv⟩,⟨⟨(show HO.tok 1 (((spT m s i).map encStr).length+([[vs (((verF (atV m ((canon s)[i]).1))++⟨#[46,46]⟩)++(verF (atV m ((canon s)[i]).2)))]]:List (List AV)).length)=.tok 1 (i+1) by rw [Lm,hrl]; rfl),rfl⟩,Tv⟩,Fh,Tv⟩
 have h1:¬ ((i:Int)<(((canon s).map encSpan).length:Int)):=h1;have n1:¬ i<(canon s).length:=by have q:=h1; rw [Lm] at q; omega
 refine Yi (fun h16=>?_) (fun h16=>?_)
 ·have h16:(((spT m s i).map encStr).length:Int)=(0:Int):=h16;refine Xi ⟨[],[],hfree⟩ (Yi ⟨Tv,Tv,Fh,Tv⟩ ?_)
  exact .of_eq (show AV.tup [vs bNone,vi 0]=.tup [vs (setT m s),vi 0] by unfold setT; rw [if_pos (List.eq_nil_of_length_eq_zero (by have q:=h16; rw [Lm,hrl] at q; omega))])
 have h16:¬ ((((spT m s i).map encStr).length:Int)=(0:Int)):=h16;refine Xi ⟨[(7,.slice (.id 7 1) ((spT m s i).map encStr))],[(7,.tok 1 i)],hfree⟩ (Yi ⟨Z1,Z1,Fh,Tv⟩ ?_)
 have e49v:=e49 ((canon s).map (spanT m)) bBar (by rw [Lm]; have:=canon_len (canon_canon s); omega) (span_bound hM s);have ej:(canon s).take i=canon s:=List.take_of_length_le (by omega);refine Xi .pure (Xi _ (Yi (show PC 49 [sl encStr (spT m s i),vs bBar] (vs (joinB bBar ((canon s).map (spanT m)))) by unfold spT; rw [ej]; exact e49v) ?_));exact .of_eq (show AV.tup [vs (joinB bBar ((canon s).map (spanT m))),vi 0]=.tup [vs (setT m s),vi 0] by unfold setT; rw [if_neg (fun h=>by have q:=h16; rw [Lm,hrl] at q; rw [h] at i1; simp at i1; omega)])
end Go.Eng

namespace Go.Eng
open Go.Proofs
def lnT (p:ByteArray):ByteArray:=match pathMajor p with | none=>⟨#[]⟩ | some _=>lineNm p
def lnE (p:ByteArray):Int:=match pathMajor p with | none=>4 | some _=>0
theorem e32 (p:ByteArray) (hp:FewS p):PC 32 [vs p] (.tup [vs (lnT p),vi (majorP p),vi (lnE p)]):=by
 have h:=c155 p hp;have e:lineV lineNm p=.tup [vs (lnT p),vi (majorP p),vi (lnE p)]:=by
  unfold lineV lnT lnE majorP;cases pathMajor p <;> rfl
 rwa [e] at h
theorem at_T (p:ByteArray) (pl:Int):verF (atV (majorP p) pl)=atT p pl:=by
 unfold atT;split
 ·rename_i h; exact fmt_at (majorP_rng p) h
 ·rename_i h
  have:atV (majorP p) pl=⟨0,0,0⟩:=by unfold atV; rw [if_neg (fun q=>h ⟨q.1,q.2.1⟩)]
  rw [this]; rfl
theorem atT_size (p:ByteArray) (pl:Int):(atT p pl).size≤65:=by
 unfold atT;split
 ·exact plcT_size (majorP_rng p) (by omega)
 ·exact verT_size (by decide) (by decide) (by decide)
theorem words_bound {B:Nat} {l:List ByteArray} (h:∀ x ∈ l,x.size≤B) (hl:l.length*(B+1)≤281474976710656):joinN bBlank l≤281474976710656:=by
 have:=joinB_size bBlank B l h
 show (joinB bBlank l).size≤_;have e:bBlank.size=1:=rfl;rw [e] at this; omega
theorem term_words (p s:ByteArray):wordsB [p,s]=p++bBlank++s:=by unfold wordsB; rw [joinB_two,bapp_assoc]
abbrev FewP (p:ByteArray):Prop:=p.size≤1048576
theorem FewP.s {p:ByteArray} (h:FewP p):FewS p:=by unfold FewS; unfold FewP at h; omega
theorem setP_size (p:ByteArray) (s:SpanL):(setP p s).size≤135000004:=setT_size (majorP_rng p) s
theorem two_bound {p:ByteArray} (hp:FewP p) (s:SpanL):joinN bBlank [p,setP p s]≤281474976710656:=words_bound (B:=136000000) (fun x hx=>by
 unfold FewP at hp;rcases List.mem_cons.1 hx with rfl | hx
 ·omega
 ·rw [List.mem_singleton.1 hx]; have:=setP_size p s; omega) (by simp)
theorem e99 (p:ByteArray) (hp:FewS p):PC 99 [vs p] (vi (majorP p)):=by
 refine Ps ⟨[],[],[],[],[],[],[],[],[],[],[]⟩ Tryz.func99 rfl (Nz rfl) ?_;refine Xi .pure (Xi _ (Yi (e32 p hp) ?_));exact .refl _
theorem e45 (p:ByteArray) (s:SpanL) (hp:FewS p) (hs:Few s):PC 45 [vs p,sl encSpan s] (vs (setP p s)):=by
 refine Ps ⟨[],[],[],[],[],[],[],[],[],[],[]⟩ Tryz.func45 rfl (Nz rfl) ?_;refine Xi .pure (Xi _ (Yi (e99 p hp) ?_));refine Xi .pure (Xi _ (Yi (e98 (majorP p) s (majorP_rng p) hs) ?_));exact .refl _
set_option maxHeartbeats 4000000 in
theorem e75 (p:ByteArray) (pl:Int) (hp:FewS p) (hpl:InI64 pl):PC 75 [vs p,vi pl] (vs (atT p pl)):=by
 obtain ⟨m,hmm⟩ : ∃ m,m=majorP p:=⟨_,rfl⟩;have h99:=e99 p hp;rw [← hmm] at h99;refine Ps ⟨[],[],[],[],[],[],[],[],[],[],[]⟩ Tryz.func75 rfl (Nz rfl) ?_;refine Xi .pure (Xi _ (Yi h99 ?_));refine Xi .pure (Xi _ (Yi (e130 m pl hpl) ?_));refine Yi (Nz rfl) ?_;refine Yi (Nz rfl) ?_;refine Xi .pure (Xi _ (Yi (e78 (atV m pl)) ?_));exact .of_eq (show vs (verF (atV m pl))=vs (atT p pl) by rw [hmm,at_T])
theorem e44 (l:List ByteArray) (hl:l.length≤1073741824) (hj:joinN bBlank l≤281474976710656):PC 44 [sl encStr l] (vs (wordsB l)):=by
 refine Ps ⟨[],[],[],[],[],[],[],[],[],[],[]⟩ Tryz.func44 rfl (Nz rfl) ?_;refine Xi .pure (Xi _ (Yi (e49 l bBlank hl hj) ?_));exact .refl _
theorem e13 (t:Tm) (hp:FewP t.path) (hs:Few t.set):PC 13 [.agg (encTm t)] (vs (termT t)):=by
 have hcs:Few (compl t.set):=by have:=canon_len (compl_canon t.set); unfold Few; omega
 refine Ps ⟨[],[],[],[],[],[],[],[],[],[],[]⟩ Tryz.func13 rfl (Nz rfl) ?_;refine Yi (fun h1=>?_) (fun h1=>?_)
 ·have h1:t.absent=true:=h1;refine Xi _ (Yi (c103 t.set hs) ?_);refine Xi _ (Yi (e45 t.path (compl t.set) hp.s hcs) ?_);refine Xi _ (Yi (e44 [t.path,(setP t.path (compl t.set))] (by simp) (two_bound hp (compl t.set))) ?_);refine Yi (by kernel_rfl) ?_;exact .of_eq (show vs (wordsB [t.path,(setP t.path (compl t.set))])=vs (termT t) by rw [term_words]; unfold termT; rw [h1]; rfl)
 have h1:t.absent=false:=h1;refine Xi _ (Yi (e45 t.path t.set hp.s hs) ?_);refine Xi _ (Yi (e44 [t.path,(setP t.path t.set)] (by simp) (two_bound hp t.set)) ?_);refine Yi (by kernel_rfl) ?_;exact .of_eq (show vs (wordsB [t.path,(setP t.path t.set)])=vs (termT t) by rw [term_words]; unfold termT; rw [h1]; rfl)
end Go.Eng

namespace Go.Eng
open Go.Proofs
theorem incText_some {l:List Tm} (h:(canonT l).isSome=true):incText l=incF (ofT l):=by
 unfold incText ofT;cases e:canonT l with
 | none=>rw [e] at h; cases h
 | some c=>rfl
theorem incText_none {l:List Tm} (h:(canonT l).isSome=false):incText l=bNothing:=by
 unfold incText;cases e:canonT l with
 | none=>rfl
 | some c=>rw [e] at h; cases h
theorem ofT_mem {l:List Tm} (h:(canonT l).isSome=true):canonT l=some (ofT l):=by
 unfold ofT;cases e:canonT l with
 | none=>rw [e] at h; cases h
 | some c=>rfl
def incW (c:List Tm):ByteArray :=
 if c.length=0 then bThis else if (needL c).length=0∧(haveL c).length=1 then wordsB [joinB bAnd (haveL c),⟨#[105,115,32,105,109,112,111,115,115,105,98,108,101]⟩] else if (needL c).length=0 then wordsB [joinB bAnd (haveL c),⟨#[100,111,32,110,111,116,32,103,111,32,116,111,103,101,116,104,101,114]⟩]
 else if (haveL c).length=0 then wordsB [joinB bOr (needL c),⟨#[105,115,32,110,101,101,100,101,100]⟩] else if (haveL c).length=1 then wordsB [joinB bAnd (haveL c),⟨#[110,101,101,100,115]⟩,joinB bOr (needL c)] else wordsB [joinB bAnd (haveL c),⟨#[110,101,101,100]⟩,joinB bOr (needL c)]
theorem hn_len (c:List Tm):(haveL c).length+(needL c).length=c.length:=by
 unfold haveL needL;rw [Lm,Lm]
 induction c with
 | nil=>rfl
 | cons t c ih=>cases h:t.absent <;> simp only [List.filter_cons,h,Bool.not_true,Bool.not_false,if_true,if_false,List.length_cons,Bool.false_eq_true] <;> omega
theorem w_two (a b:ByteArray):wordsB [a,b]=a++(bBlank++b):=by unfold wordsB; rw [joinB_two]
theorem w_three (a b c:ByteArray):wordsB [a,b,c]=a++(bBlank++b++bBlank)++c:=by unfold wordsB; rw [joinB_cons,joinB_two]; simp only [bapp_assoc]
theorem inc_W (c:List Tm):incW c=incF c:=by
 have hl:=hn_len c;unfold incW incF;have z1:(needL c=[])↔(needL c).length=0:=by rw [List.length_eq_zero_iff]
 have z2:(haveL c=[])↔(haveL c).length=0:=by rw [List.length_eq_zero_iff]
 have b1:bBlank++(⟨#[105,115,32,105,109,112,111,115,115,105,98,108,101]⟩ : ByteArray)=bImp:=bext (by decide +kernel);have b2:bBlank++(⟨#[100,111,32,110,111,116,32,103,111,32,116,111,103,101,116,104,101,114]⟩ : ByteArray)=bDo:=bext (by decide +kernel);have b3:bBlank++(⟨#[105,115,32,110,101,101,100,101,100]⟩ : ByteArray)=bNeeded:=bext (by decide +kernel);have b4:bBlank++(⟨#[110,101,101,100,115]⟩ : ByteArray)++bBlank=bNeeds:=bext (by decide +kernel);have b5:bBlank++(⟨#[110,101,101,100]⟩ : ByteArray)++bBlank=bNeed:=bext (by decide +kernel);simp only [z1,z2,w_two,w_three,b1,b2,b3,b4,b5]
 by_cases h1:(needL c).length=0 <;> by_cases h2:(haveL c).length=0 <;> by_cases h3:(haveL c).length=1 <;> by_cases h4:c.length=0 <;> first | omega | simp [h1,h2,h3,h4]
theorem have_succ (c:List Tm) (i:Nat) (h:i<c.length):haveL (c.take (i+1))=if c[i].absent then haveL (c.take i) else haveL (c.take i)++[termT c[i]]:=by
 unfold haveL;rw [List.take_succ_eq_append_getElem h,List.filter_append,List.map_append];cases e:c[i].absent <;> simp [e]
theorem need_succ (c:List Tm) (i:Nat) (h:i<c.length):needL (c.take (i+1))=if c[i].absent then needL (c.take i)++[termT c[i]] else needL (c.take i):=by
 unfold needL;rw [List.take_succ_eq_append_getElem h,List.filter_append,List.map_append];cases e:c[i].absent <;> simp [e]
theorem texts_size {sep:ByteArray} (hs:sep.size≤5) {c:List Tm} {l:List ByteArray} (hp:∀ t ∈ c,FewP t.path) (hl:∀ x ∈ l,∃ t ∈ c,x=termT t) (hn:l.length≤500000):(joinB sep l).size≤70000100000000:=by
 have:=joinB_size sep 140000000 l (fun x hx=>by
  obtain ⟨t,ht,rfl⟩:=hl x hx;exact termT_size (hp t ht))
 have h2:l.length*(140000000+sep.size)≤500000*(140000000+5):=Nat.mul_le_mul hn (by omega);omega
theorem have_mem (c:List Tm):∀ x ∈ haveL c,∃ t ∈ c,x=termT t:=fun x hx=>by
 obtain ⟨t,ht,rfl⟩:=List.mem_map.1 hx;exact ⟨t,(List.mem_filter.1 ht).1,rfl⟩
theorem need_mem (c:List Tm):∀ x ∈ needL c,∃ t ∈ c,x=termT t:=fun x hx=>by
 obtain ⟨t,ht,rfl⟩:=List.mem_map.1 hx;exact ⟨t,(List.mem_filter.1 ht).1,rfl⟩
theorem canonT_paths {l c:List Tm} (h:canonT l=some c):∀ t ∈ c,∃ u ∈ l,t.path=u.path:=fun t ht=>by
 have:=(canonT_in (U:=l.map (·.path)) h fun u hu=>List.mem_map.2 ⟨u,hu,rfl⟩).2 t ht
 obtain ⟨u,hu,e⟩:=List.mem_map.1 this;exact ⟨u,hu,e.symm⟩
set_option maxHeartbeats 4000000 in
theorem e15 (l:List Tm) (hl:l.length≤500000) (hs:∀ t ∈ l,Few t.set) (hp:∀ t ∈ l,FewP t.path):PC 15 [sl encTm l] (vs (incText l)):=by
 have hl:l.length≤500000:=hl;have h30:=c29 l (by unfold Few; omega) hs;unfold canRes at h30;obtain ⟨c,hc0⟩ : ∃ c,c=ofT l:=⟨_,rfl⟩;rw [← hc0] at h30;refine Ps ⟨[],[(5,1),(6,1)],[],[],[],[],[],[],[],[],[2,5,8,11,13,14,15,16,17,18,19,20,21,22,23]⟩ Tryz.func15 rfl (Nz rfl) ?_;refine Or.elim (Bt (canonT l).isSome) (fun h1=>?_) (fun h1=>?_)
 ·have h1:(canonT l).isSome=true:=h1;have hcs:(canonT l).isSome=true:=h1;have hcd:c=ofT l:=hc0;have hce:canonT l=some c:=by rw [hcd]; exact ofT_mem hcs
  have hcl:c.length≤500000:=Nat.le_trans (canT_len hce) hl;have hcp:∀ t ∈ c,FewP t.path:=fun t ht=>by
   obtain ⟨u,hu,e⟩:=canonT_paths hce t ht;rw [e]; exact hp u hu
  have hcf:∀ t ∈ c,Few t.set:=fun t ht=>few_can ((canonT_sorted hce).canon t ht);obtain ⟨PP,hPP⟩ : ∃ PP,PP=joinB bAnd (haveL c):=⟨_,rfl⟩;obtain ⟨NN,hNN⟩ : ∃ NN,NN=joinB bOr (needL c):=⟨_,rfl⟩;have hPs:(haveL c).length≤500000→PP.size≤70000100000000:=fun h=>by rw [hPP]; exact texts_size (by decide) hcp (have_mem c) h
  have hNs:(needL c).length≤500000→NN.size≤70000100000000:=fun h=>by rw [hNN]; exact texts_size (by decide) hcp (need_mem c) h
  have hc2:=h30;rw [show (canonT l).isSome=true from h1] at hc2;refine Xi .pure (Xi _ (Yi hc2 ?_));refine Xi ⟨[(3,sl encTm c),(4,vb true)],[],hfree⟩ (Yi ⟨Z2,Tv,Fh,Tv⟩ ?_)
  refine Xi ⟨[(3,sl encTm c),(5,.slice (.id 5 1) []),(6,.slice (.id 6 1) [])],[(5,.tok 1 0),(6,.tok 1 0)],hfree⟩ (Yi ⟨Z3,Z2,Fh,Tv⟩ ?_)
  refine Xi {i:Nat // i≤c.length} (Xi (fun q=>⟨[(3,sl encTm c),(5,.slice (.id 5 1) ((haveL (c.take q.1)).map encStr)),(6,.slice (.id 6 1) ((needL (c.take q.1)).map encStr)),(18,sl encTm c),(19,vi (c.map encTm).length),(20,vi q.1)],[(5,.tok 1 (haveL (c.take q.1)).length),(6,.tok 1 (needL (c.take q.1)).length)],hfree⟩) (Xi (fun q=>c.length - q.1) (Yi (Xi ⟨0,Nat.zero_le _⟩ ?_) ?_)))
  ·exact ⟨Z6,Z2,Fh,Tv⟩
  intro ⟨i,i1⟩;have i1:i≤c.length:=i1;have hl1:=hn_len (c.take i);rw [List.length_take,Nat.min_eq_left i1] at hl1;have hv1:(haveL (c.take i)).length≤500000:=by omega
  have hv2:(needL (c.take i)).length≤500000:=by omega
  refine Yi (fun h3=>?_) (fun h3=>?_)
  ·have h3:(i:Int)<((c.map encTm).length:Int):=h3;have n3:i<c.length:=by have q:=h3; rw [Lm] at q; omega
   have g3:c[i]?=some c[i]:=Ge n3;refine Xi (encTm c[i]) (Yi (Yi (Nn i) (map_at g3)) (Yi rfl ?_));refine Yi (Nz rfl) ?_;refine Yi (Nz rfl) ?_;refine Xi ⟨[(3,sl encTm c),(5,.slice (.id 5 1) ((haveL (c.take i)).map encStr)),(6,.slice (.id 6 1) ((needL (c.take i)).map encStr)),(8,.ref 8 0),(18,sl encTm c),(19,vi (c.map encTm).length),(20,vi i)],[(5,.tok 1 (haveL (c.take i)).length),(6,.tok 1 (needL (c.take i)).length),(8,.cells (encTm c[i]))],hfree⟩ (Yi ⟨Z7,Z3,Fh,Tv⟩ ?_)
   refine Yi (fun h4=>?_) (fun h4=>?_)
   ·have h4:c[i].absent=true:=h4;refine Yi (Nz rfl) ?_;refine Xi .pure (Xi _ (Yi (e13 c[i] (hcp _ (List.getElem_mem n3)) (hcf _ (List.getElem_mem n3))) ?_));have b5:AllLen 1 [[vs (termT c[i])]]∧((needL (c.take i)).map encStr).length=(needL (c.take i)).length∧(((needL (c.take i)).map encStr).length+([[vs (termT c[i])]]:List (List AV)).length)*16≤140737488355328∧((needL (c.take i)).map encStr).length+([[vs (termT c[i])]]:List (List AV)).length≤9223372036854775807:=⟨⟨rfl,trivial⟩,(by rw [Lm]),(by simp only [Lm,List.length_cons,List.length_nil]; omega),(by simp only [Lm,List.length_cons,List.length_nil]; omega)⟩;refine Yi b5 ?_;refine Xi ⟨[(3,sl encTm c),(5,.slice (.id 5 1) ((haveL (c.take i)).map encStr)),(6,.slice (.id 6 1) (((needL (c.take i)).map encStr)++[[vs (termT c[i])]])),(18,sl encTm c),(19,vi (c.map encTm).length),(20,vi i)],[(5,.tok 1 (haveL (c.take i)).length),(6,.tok 1 (((needL (c.take i)).map encStr).length+([[vs (termT c[i])]]:List (List AV)).length))],hfree⟩ (Yi ⟨Z6,Z2,Fh,Tv⟩ ?_)
    refine Yi (Ii i (by omega)) ?_;have hs1:=have_succ c i n3;have hs2:=need_succ c i n3;rw [show c[i].absent=true from h4] at hs1 hs2;simp only [if_true] at hs1 hs2;refine Xi ⟨i+1,by omega⟩ ?_;exact ⟨Dl c.length i (by omega),⟨Zr,⟨(show AV.slice (.id 5 1) ((haveL (c.take i)).map encStr)=.slice (.id 5 1) ((haveL (c.take (i+1))).map encStr) by rw [hs1]),rfl⟩,⟨(show AV.slice (.id 6 1) ((needL (c.take i)).map encStr++[[vs (termT c[i])]])=.slice (.id 6 1) ((needL (c.take (i+1))).map encStr) by rw [hs2,List.map_append]; rfl),rfl⟩,Zr,Zr,Zr,Tv⟩,⟨⟨(show HO.tok 1 (haveL (c.take i)).length=.tok 1 (haveL (c.take (i+1))).length by rw [hs1]),rfl⟩,⟨(show HO.tok 1 (((needL (c.take i)).map encStr).length+([[vs (termT c[i])]]:List (List AV)).length)=.tok 1 (needL (c.take (i+1))).length by rw [hs2,List.length_append,Lm]; rfl),rfl⟩,Tv⟩,Fh,Tv⟩
   have h4:c[i].absent=false:=h4;refine Yi (Nz rfl) ?_;refine Xi .pure (Xi _ (Yi (e13 c[i] (hcp _ (List.getElem_mem n3)) (hcf _ (List.getElem_mem n3))) ?_));have b7:AllLen 1 [[vs (termT c[i])]]∧((haveL (c.take i)).map encStr).length=(haveL (c.take i)).length∧(((haveL (c.take i)).map encStr).length+([[vs (termT c[i])]]:List (List AV)).length)*16≤140737488355328∧((haveL (c.take i)).map encStr).length+([[vs (termT c[i])]]:List (List AV)).length≤9223372036854775807:=⟨⟨rfl,trivial⟩,(by rw [Lm]),(by simp only [Lm,List.length_cons,List.length_nil]; omega),(by simp only [Lm,List.length_cons,List.length_nil]; omega)⟩;refine Yi b7 ?_;refine Xi ⟨[(3,sl encTm c),(5,.slice (.id 5 1) (((haveL (c.take i)).map encStr)++[[vs (termT c[i])]])),(6,.slice (.id 6 1) ((needL (c.take i)).map encStr)),(18,sl encTm c),(19,vi (c.map encTm).length),(20,vi i)],[(5,.tok 1 (((haveL (c.take i)).map encStr).length+([[vs (termT c[i])]]:List (List AV)).length)),(6,.tok 1 (needL (c.take i)).length)],hfree⟩ (Yi ⟨Z6,Z2,Fh,Tv⟩ ?_)
   refine Yi (Ii i (by omega)) ?_;have hs1:=have_succ c i n3;have hs2:=need_succ c i n3;rw [show c[i].absent=false from h4] at hs1 hs2;simp only [Bool.false_eq_true,if_false] at hs1 hs2;refine Xi ⟨i+1,by omega⟩ ?_;exact ⟨Dl c.length i (by omega),⟨Zr,⟨(show AV.slice (.id 5 1) ((haveL (c.take i)).map encStr++[[vs (termT c[i])]])=.slice (.id 5 1) ((haveL (c.take (i+1))).map encStr) by rw [hs1,List.map_append]; rfl),rfl⟩,⟨(show AV.slice (.id 6 1) ((needL (c.take i)).map encStr)=.slice (.id 6 1) ((needL (c.take (i+1))).map encStr) by rw [hs2]),rfl⟩,Zr,Zr,Zr,Tv⟩,⟨⟨(show HO.tok 1 (((haveL (c.take i)).map encStr).length+([[vs (termT c[i])]]:List (List AV)).length)=.tok 1 (haveL (c.take (i+1))).length by rw [hs1,List.length_append,Lm]; rfl),rfl⟩,⟨(show HO.tok 1 (needL (c.take i)).length=.tok 1 (needL (c.take (i+1))).length by rw [hs2]),rfl⟩,Tv⟩,Fh,Tv⟩
  have h3:¬ ((i:Int)<((c.map encTm).length:Int)):=h3;have n3:¬ i<c.length:=by have q:=h3; rw [Lm] at q; omega
  have ej:c.take i=c:=List.take_of_length_le (by omega);rw [ej] at hv1 hv2;refine Xi .pure (Xi _ (Yi (show PC 49 [sl encStr (haveL (c.take i)),vs bAnd] (vs PP) by rw [ej,hPP]; exact e49 (haveL c) bAnd (by omega) (Nat.le_trans (texts_size (by decide) hcp (have_mem c) hv1) (by decide))) ?_));refine Xi .pure (Xi _ (Yi (show PC 49 [sl encStr (needL (c.take i)),vs bOr] (vs NN) by rw [ej,hNN]; exact e49 (needL c) bOr (by omega) (Nat.le_trans (texts_size (by decide) hcp (need_mem c) hv2) (by decide))) ?_));refine Xi ⟨[(3,sl encTm c),(5,.slice (.id 5 1) ((haveL (c.take i)).map encStr)),(6,.slice (.id 6 1) ((needL (c.take i)).map encStr)),(9,vs PP),(10,vs NN)],[(5,.tok 1 (haveL (c.take i)).length),(6,.tok 1 (needL (c.take i)).length)],hfree⟩ (Yi ⟨Z5,Z2,Fh,Tv⟩ ?_)
  refine Yi (fun h9=>?_) (fun h9=>?_)
  ·have h9:((c.map encTm).length:Int)=(0:Int):=h9;refine Xi ⟨[],[],hfree⟩ (Yi ⟨Tv,Tv,Fh,Tv⟩ ?_)
   exact .of_eq (show vs ⟨#[116,104,105,115,32,105,115,32,105,109,112,111,115,115,105,98,108,101]⟩=vs (incText l) by rw [incText_some hcs,← hcd,← inc_W]; unfold incW; rw [if_pos (by have q:=h9; rw [Lm] at q; omega)])
  have h9:¬ (((c.map encTm).length:Int)=(0:Int)):=h9;refine Xi ⟨[(5,.slice (.id 5 1) ((haveL (c.take i)).map encStr)),(6,.slice (.id 6 1) ((needL (c.take i)).map encStr)),(9,vs PP),(10,vs NN)],[(5,.tok 1 (haveL (c.take i)).length),(6,.tok 1 (needL (c.take i)).length)],hfree⟩ (Yi ⟨Z4,Z2,Fh,Tv⟩ ?_)
  refine Yi (fun h11=>?_) (fun h11=>?_)
  ·have h11:(((needL (c.take i)).map encStr).length:Int)=(0:Int):=h11;refine Yi (fun h12=>?_) (fun h12=>?_)
   ·have h12:(((haveL (c.take i)).map encStr).length:Int)=(1:Int):=h12;refine Xi ⟨[(9,vs PP)],[],hfree⟩ (Yi ⟨Z1,Tv,Fh,Tv⟩ ?_)
    refine Xi .pure (Xi _ (Yi (e44 [PP,⟨#[105,115,32,105,109,112,111,115,115,105,98,108,101]⟩] (by simp) (words_bound (B:=70000100000000) (by intro x hx; simp only [List.mem_cons,List.mem_nil_iff,or_false] at hx; rcases hx with rfl | rfl <;> first | exact (hPs hv1) | exact (hNs hv2) | decide) (by simp))) ?_))
    exact .of_eq (show vs (wordsB [PP,⟨#[105,115,32,105,109,112,111,115,115,105,98,108,101]⟩])=vs (incText l) by rw [incText_some hcs,← hcd,← inc_W]; unfold incW; rw [← hPP,← hNN]; rw [if_neg (by have q:=h9; rw [Lm] at q; omega)]; rw [if_pos ⟨by have q:=h11; rw [Lm,ej] at q; omega,by have q:=h12; rw [Lm,ej] at q; omega⟩])
   have h12:¬ ((((haveL (c.take i)).map encStr).length:Int)=(1:Int)):=h12;refine Xi ⟨[(5,.slice (.id 5 1) ((haveL (c.take i)).map encStr)),(6,.slice (.id 6 1) ((needL (c.take i)).map encStr)),(9,vs PP),(10,vs NN)],[(5,.tok 1 (haveL (c.take i)).length),(6,.tok 1 (needL (c.take i)).length)],hfree⟩ (Yi ⟨Z4,Z2,Fh,Tv⟩ ?_)
   refine Yi (fun _=>?_) (fun hf=>absurd h11 hf);refine Xi ⟨[(9,vs PP)],[],hfree⟩ (Yi ⟨Z1,Tv,Fh,Tv⟩ ?_)
   refine Xi .pure (Xi _ (Yi (e44 [PP,⟨#[100,111,32,110,111,116,32,103,111,32,116,111,103,101,116,104,101,114]⟩] (by simp) (words_bound (B:=70000100000000) (by intro x hx; simp only [List.mem_cons,List.mem_nil_iff,or_false] at hx; rcases hx with rfl | rfl <;> first | exact (hPs hv1) | exact (hNs hv2) | decide) (by simp))) ?_))
   exact .of_eq (show vs (wordsB [PP,⟨#[100,111,32,110,111,116,32,103,111,32,116,111,103,101,116,104,101,114]⟩])=vs (incText l) by rw [incText_some hcs,← hcd,← inc_W]; unfold incW; rw [← hPP,← hNN]; rw [if_neg (by have q:=h9; rw [Lm] at q; omega)]; rw [if_neg (fun h=>by have q:=h12; rw [Lm,ej] at q; omega),if_pos (by have q:=h11; rw [Lm,ej] at q; omega)])
  have h11:¬ ((((needL (c.take i)).map encStr).length:Int)=(0:Int)):=h11;refine Xi ⟨[(5,.slice (.id 5 1) ((haveL (c.take i)).map encStr)),(6,.slice (.id 6 1) ((needL (c.take i)).map encStr)),(9,vs PP),(10,vs NN)],[(5,.tok 1 (haveL (c.take i)).length),(6,.tok 1 (needL (c.take i)).length)],hfree⟩ (Yi ⟨Z4,Z2,Fh,Tv⟩ ?_)
  refine Yi (fun hf=>absurd hf h11) (fun _=>?_);refine Xi ⟨[(5,.slice (.id 5 1) ((haveL (c.take i)).map encStr)),(9,vs PP),(10,vs NN)],[(5,.tok 1 (haveL (c.take i)).length)],hfree⟩ (Yi ⟨Z3,Z1,Fh,Tv⟩ ?_)
  refine Yi (fun h15=>?_) (fun h15=>?_)
  ·have h15:(((haveL (c.take i)).map encStr).length:Int)=(0:Int):=h15;refine Xi ⟨[(10,vs NN)],[],hfree⟩ (Yi ⟨Z1,Tv,Fh,Tv⟩ ?_)
   refine Xi .pure (Xi _ (Yi (e44 [NN,⟨#[105,115,32,110,101,101,100,101,100]⟩] (by simp) (words_bound (B:=70000100000000) (by intro x hx; simp only [List.mem_cons,List.mem_nil_iff,or_false] at hx; rcases hx with rfl | rfl <;> first | exact (hPs hv1) | exact (hNs hv2) | decide) (by simp))) ?_))
   exact .of_eq (show vs (wordsB [NN,⟨#[105,115,32,110,101,101,100,101,100]⟩])=vs (incText l) by rw [incText_some hcs,← hcd,← inc_W]; unfold incW; rw [← hPP,← hNN]; rw [if_neg (by have q:=h9; rw [Lm] at q; omega)]; rw [if_neg (fun h=>by have q:=h11; rw [Lm,ej] at q; omega),if_neg (by have q:=h11; rw [Lm,ej] at q; omega)]; rw [if_pos (by have q:=h15; rw [Lm,ej] at q; omega)])
  have h15:¬ ((((haveL (c.take i)).map encStr).length:Int)=(0:Int)):=h15;refine Xi ⟨[(5,.slice (.id 5 1) ((haveL (c.take i)).map encStr)),(9,vs PP),(10,vs NN)],[(5,.tok 1 (haveL (c.take i)).length)],hfree⟩ (Yi ⟨Z3,Z1,Fh,Tv⟩ ?_)
  refine Yi (fun h17=>?_) (fun h17=>?_)
  ·have h17:(((haveL (c.take i)).map encStr).length:Int)=(1:Int):=h17;refine Xi ⟨[(9,vs PP),(10,vs NN)],[],hfree⟩ (Yi ⟨Z2,Tv,Fh,Tv⟩ ?_)
   refine Xi .pure (Xi _ (Yi (e44 [PP,⟨#[110,101,101,100,115]⟩,NN] (by simp) (words_bound (B:=70000100000000) (by intro x hx; simp only [List.mem_cons,List.mem_nil_iff,or_false] at hx; rcases hx with rfl | rfl | rfl <;> first | exact (hPs hv1) | exact (hNs hv2) | decide) (by simp))) ?_))
   exact .of_eq (show vs (wordsB [PP,⟨#[110,101,101,100,115]⟩,NN])=vs (incText l) by rw [incText_some hcs,← hcd,← inc_W]; unfold incW; rw [← hPP,← hNN]; rw [if_neg (by have q:=h9; rw [Lm] at q; omega)]; rw [if_neg (fun h=>by have q:=h11; rw [Lm,ej] at q; omega),if_neg (by have q:=h11; rw [Lm,ej] at q; omega)]; rw [if_neg (by have q:=h15; rw [Lm,ej] at q; omega)]; rw [if_pos (by have q:=h17; rw [Lm,ej] at q; omega)])
  have h17:¬ ((((haveL (c.take i)).map encStr).length:Int)=(1:Int)):=h17;refine Xi ⟨[(9,vs PP),(10,vs NN)],[],hfree⟩ (Yi ⟨Z2,Tv,Fh,Tv⟩ ?_)
  refine Xi .pure (Xi _ (Yi (e44 [PP,⟨#[110,101,101,100]⟩,NN] (by simp) (words_bound (B:=70000100000000) (by intro x hx; simp only [List.mem_cons,List.mem_nil_iff,or_false] at hx; rcases hx with rfl | rfl | rfl <;> first | exact (hPs hv1) | exact (hNs hv2) | decide) (by simp))) ?_))
  exact .of_eq (show vs (wordsB [PP,⟨#[110,101,101,100]⟩,NN])=vs (incText l) by rw [incText_some hcs,← hcd,← inc_W]; unfold incW; rw [← hPP,← hNN]; rw [if_neg (by have q:=h9; rw [Lm] at q; omega)]; rw [if_neg (fun h=>by have q:=h11; rw [Lm,ej] at q; omega),if_neg (by have q:=h11; rw [Lm,ej] at q; omega)]; rw [if_neg (by have q:=h15; rw [Lm,ej] at q; omega)]; rw [if_neg (by have q:=h17; rw [Lm,ej] at q; omega)])
 have h1:(canonT l).isSome=false:=h1;have hc20:=h30;rw [show (canonT l).isSome=false from h1] at hc20;refine Xi .pure (Xi _ (Yi hc20 ?_));refine Xi ⟨[(3,sl encTm c),(4,vb false)],[],hfree⟩ (Yi ⟨Z2,Tv,Fh,Tv⟩ ?_)
 exact .of_eq (show vs bNothing=vs (incText l) by rw [incText_none h1])
end Go.Eng
