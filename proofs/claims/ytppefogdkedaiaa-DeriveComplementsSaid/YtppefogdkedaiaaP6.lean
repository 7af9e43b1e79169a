/-
  Functions of the program, lifted to plain data.
-/
import Derived.Test.YtppefogdkedaiaaP5
set_option linter.unusedVariables false
set_option linter.unusedSimpArgs false
set_option maxRecDepth 100000
namespace Go.AM
open Go.Proofs Ex
def qJ (c:Int) (e:Ex):List V:=bW (aO (bP c e)) (bW (aO e) [.bool e.b6])
theorem Kd {c:Int} {e:Ex} (hw:e.wf 6=true):(aO (bP c e)).size≤e.size*e.size:=
 lq (zN _ (sd e hw)) (R6 e 6 hw)
theorem EU {a m:Nat} (h:a≤m):a*a≤m*m:=Nat.mul_le_mul h h
theorem Sk {e:Ex} (hw:e.wf 6=true) (hs:e.size≤1000000):Gd 6 (aO e)∧(aO e).Ok∧(aO e).size≤e.size:=by
 have h1:=lY e hw
 have U:=zN e hw
 exact ⟨h1,tR (by omega) _ h1.2 (by omega),U⟩
def mf (c:Int):List Ex→List Ex
 | []=>[]
 | k::ks=>aO (bP c k)::(if k.b6=true then mf c ks else [])
def AD (ss:List Ex):Nat→List Ex→List Ex
 | _,[]=>[]
 | i,d::ds=>(if d.op=1 then d else dh 5 0 (d::ss.drop (i+1)))::AD ss (i+1) ds
theorem Sl {c:Int}: ∀(ks pre:List Ex),AD ((pre++ks).map aO) pre.length (mf c ks)=se c ks
 | [],pre=>rfl
 | k::ks,pre=>by
  have ih:=Sl (c:=c) ks (pre++[k])
  have e1:((pre++k::ks).map aO).drop (pre.length+1)=ks.map aO:=by
   rw[fQ,cG,show pre.length+1=(pre.map aO++[aO k]).length by simp,show pre.map aO++aO k::ks.map aO=(pre.map aO++[aO k])++ks.map aO by simp,List.drop_left]
  unfold mf se AD EJ
  rw[e1]
  refine congrArg _ ?_
  split
  ·rw[←ih];simp
  ·rfl
theorem Sm {c:Int}: ∀ks:List Ex,(mf c ks).length≤ks.length
 | []=>bX _
 | k::ks=>by
  have:=Sm (c:=c) ks
  unfold mf
  split<;>simp<;>omega
theorem Sn {c:Int}: ∀{ks:List Ex} {d:Ex},d∈mf c ks→∃k∈ks,d=aO (bP c k)
 | k::ks,d,h=>by
  unfold mf at h
  rcases c8.1 h with rfl|h
  ·exact ⟨k,by simp,rfl⟩
  ·split at h
   ·obtain ⟨x,hx,e⟩:=Sn h
    exact ⟨x,by simp[hx],e⟩
   ·cases h
theorem Ke: ∀{ks:List Ex},(∀k∈ks,k.wf 6=true)→aK (ks.map aO)≤aK ks
 | [],_=>by simp[aK]
 | k::ks,h=>by
  have a:=zN k (h k (by simp))
  have b:=Ke (ks:=ks) fun k hk=>h k (by simp[hk])
  simp only[cG,aK];omega
theorem Kf {ks:List Ex} {f:Ex→Ex} (h: ∀k∈ks,Gd 6 (f k)∧(f k).Ok):(∀k∈ks.map f,Gd 6 k)∧∀k∈ks.map f,k.Ok:=
 ⟨fun x hx=>by obtain ⟨k,hk,rfl⟩:=fP.1 hx;exact (h k hk).1,fun x hx=>by obtain ⟨k,hk,rfl⟩:=fP.1 hx;exact (h k hk).2⟩
def kE (ks:List Ex):Nat:=(ks.filter Ex.b6).length
section
variable {c:Int} {nm:Bool} {ks:List Ex}
variable (hn:ks.length≤1000) (ih: ∀k∈ks,CC nY (.int .i64 c:: .bool nm::bW k [])=some (qJ c k))
include hn ih
theorem aeg {a b c1 c2 c3 c4:Int} {b1:Bool} {l1 l2 l3:List V}: ∀(aH pre:List Ex),ks=pre++aH→
  Loop (EK CC (ks.map enc) (ks.length:Int) c nm a b l1 c1 c2 c3 c4 b1 l2 l3) (((kE pre:Nat):Int),((pre.length:Nat):Int),(pre.map fun k=>aO (bP c k)).map enc++List.replicate aH.length zE,(pre.map aO).map enc++List.replicate aH.length zE)
   = some (((kE ks:Nat):Int),(ks.length:Int),false,(ks.map fun k=>aO (bP c k)).map enc,(ks.map aO).map enc):=by
 intro aH
 induction aH with
 | nil=>
  intro pre e
  rw[dy] at e
  subst e
  refine bc ?_
  simp only[EK,Ay,un]
  rw[aA,ai (by omega),cS (by omega)]
  simp
 | cons k aH ga=>
  intro pre e
  have bL:pre.length<ks.length:=by rw[e];simp
  have b8:idx (ks.map enc) (pre.length:Int)=some k.enc:=by rw[e];exact jT _ _ _
  refine (bV ?_).trans (ga (pre++[k]) (by simp[e]))
  simp only[EK,Ay,un]
  refine bT (sa bL) (bs b8 ?_)
  rw[bw,bx,bz]
  refine bs (ih k (by rw[e];simp)) ?_
  refine (sb (by simp)).trans ?_
  refine (sb (by simp)).trans ?_
  rw[Int.toNat_natCast]
  have hc:kE (pre++[k])=kE pre+(if k.b6=true then 1 else 0):=by
   unfold kE
   rw[mq,ca]
   cases hk:k.b6<;>simp[hk]
  have jM:kE pre≤pre.length:=su _ _
  have uT:pre.length=((pre.map fun k=>aO (bP c k)).map enc).length:=by simp
  have jx:pre.length=((pre.map aO).map enc).length:=by simp
  rw[List.length_cons,sc uT,sc jx]
  cases hk:k.b6 with
  | true=>
   refine bT hk ?_
   rw[me (by omega),me (by omega),hc,hk]
   simp only[dj,fQ,cG,gl,ca,List.length_cons,List.length_nil]
   rw[en (aO (bP c k)),en (aO k)]
   rfl
  | false=>
   refine bF hk ?_
   rw[me (by omega),hc,hk]
   simp only[ai Bool.false_ne_true,fQ,cG,gl,ca,List.length_cons,List.length_nil]
   rw[en (aO (bP c k)),en (aO k)]
   rfl
theorem aeh {c1 c2 c3 c4:Int} {b1:Bool} {l1 l2:List V} (hs: ∀k∈ks,CC zg (.int .i64 c:: .bool nm::bW k [])=some (gW (aO k))): ∀(aH pre B:List Ex) (b:Bool),ks=pre++aH→B.length≤pre.length→
  Loop (AA CC (ks.map enc) (ks.length:Int) c nm c1 c2 c3 c4 b1 l1 l2) (b,((pre.length:Nat):Int),B.map enc,(pre.map aO).map enc++List.replicate aH.length zE)
   = some (b&&aH.all Ex.b6,(ks.length:Int),false,(B++(if b=true then mf c aH else [])).map enc,(ks.map aO).map enc):=by
 intro aH
 induction aH with
 | nil=>
  intro pre B b e hB
  rw[dy] at e
  subst e
  refine bc ?_
  simp only[AA,xf,un]
  rw[aA,ai (by omega),cS (by omega)]
  simp[mf]
 | cons k aH ga=>
  intro pre B b e hB
  have bL:pre.length<ks.length:=by rw[e];simp
  have b8:idx (ks.map enc) (pre.length:Int)=some k.enc:=by rw[e];exact jT _ _ _
  have jx:pre.length=((pre.map aO).map enc).length:=by simp
  cases b with
  | false=>
   refine (bV ?_).trans (ga (pre++[k]) B false (by simp[e]) (by simp;omega))
   simp only[AA,xf,un]
   refine bT (sa bL) (bs b8 (bT rfl ?_))
   rw[bw,bx,bz]
   refine bs (hs k (by rw[e];simp)) ?_
   refine (sb (by simp)).trans ?_
   rw[Int.toNat_natCast,List.length_cons,sc jx,me (by omega)]
   simp only[fQ,cG,gl,ca,List.length_cons,List.length_nil]
   rw[en (aO k)]
   rfl
  | true=>
   refine ((bV ?_).trans (ga (pre++[k]) (B++[aO (bP c k)]) k.b6 (by simp[e]) (by simp;omega))).trans ?_
   ·simp only[AA,xf,un]
    refine bT (sa bL) (bs b8 (bF rfl ?_))
    rw[bw,bx,bz]
    refine bs (ih k (by rw[e];simp)) ?_
    refine bT (J8 (by simp;omega)) ?_
    refine (sb (by simp)).trans ?_
    rw[Int.toNat_natCast,List.length_cons,sc jx,me (by omega)]
    simp only[fQ,cG,gl,ca,List.length_cons,List.length_nil]
    rw[en (aO k),en (aO (bP c k))]
    rfl
   ·simp only[mn,List.all_cons,dj]
    rw[show mf c (k::aH)=aO (bP c k)::(if k.b6=true then mf c aH else []) from rfl,b7]
    rfl
end
theorem aei {ss D:List Ex} {b b1:Bool} {c1 c2 c3 c4:Int} {l1 l2:List V} (hD:D.length≤ss.length) (hss:ss.length≤1000) (hd: ∀d∈D,Gd 6 d∧d.Ok∧d.size≤500000) (hsg: ∀k∈ss,Gd 6 k∧k.Ok) (aR:aK ss≤500000): ∀(aH pre P:List Ex),D=pre++aH→P.length=pre.length→
  Loop (EO CC b (D.length:Int) c1 c2 c3 c4 b1 (ss.map enc) (D.map enc) l1 l2) (((pre.length:Nat):Int),P.map enc++List.replicate aH.length zE)
   = some ((D.length:Int),false,(P++AD ss pre.length aH).map enc):=by
 intro aH
 induction aH with
 | nil=>
  intro pre P e hP
  rw[dy] at e
  subst e
  refine bc ?_
  simp only[EO,AB,un]
  rw[aA,ai (by omega),cS (by omega)]
  simp[AD]
 | cons d aH ga=>
  intro pre P e hP
  have bL:pre.length<D.length:=by rw[e];simp
  have hm:d∈D:=by rw[e];simp
  have b8:(D.map enc)[pre.length]? =some d.enc:=by rw[e];simp
  have jx:pre.length=(P.map enc).length:=by simp[hP]
  refine ((bV ?_).trans (ga (pre++[d]) (P++[if d.op=1 then d else dh 5 0 (d::ss.drop (pre.length+1))]) (by simp[e]) (by simp[hP]))).trans ?_
  ·simp only[EO,AB,un]
   refine bT (sa bL) ?_
   refine (r0 b8).trans ?_
   rw[bw,bx,bz,e7]
   by_cases h1:d.op=1
   ·rw[ak h1,ak h1]
    refine (sb jx).trans ?_
    rw[Int.toNat_natCast,List.length_cons,sc jx,me (by omega)]
    simp only[fQ,cG,gl,ca,List.length_cons,List.length_nil]
    rw[en d]
   ·rw[ai h1,ai h1,me (by omega),Int.toNat_natCast,bm]
    refine bT (uB.2 ⟨eo (by omega),eo (by omega)⟩) ?_
    have ht:((ss.map enc).drop (pre.length+1)).take (ss.length-(pre.length+1))=(ss.drop (pre.length+1)).map enc:=by
     rw[←List.map_drop,List.take_of_length_le (by simp)]
    rw[ht]
    refine bT (J8 (by simp;omega)) ?_
    have hg: ∀k∈d::ss.drop (pre.length+1),Gd 6 k∧k.Ok:=fun k hk=>by
     rcases c8.1 hk with rfl|hk
     ·exact ⟨(hd _ hm).1,(hd _ hm).2.1⟩
     ·exact hsg k (List.mem_of_mem_drop hk)
    have hz:aK (d::ss.drop (pre.length+1))≤1000000:=by
     have h1:=(hd d hm).2.2
     have U:=D7 (ss.take (pre.length+1)) (ss.drop (pre.length+1))
     rw[Bf] at U
     simp only[aK];omega
    rw[J7,←fQ]
    refine bs (qF (o:=5) (fun k hk=>(hg k hk).1) (fun k hk=>(hg k hk).2) hz (by omega)) ?_
    refine (sb jx).trans ?_
    rw[Int.toNat_natCast,List.length_cons,sc jx]
    simp only[fQ,cG,gl,ca,List.length_cons,List.length_nil]
    rw[en (dh 5 0 (d::ss.drop (pre.length+1)))]
    rfl
  ·rw[ca,b7]
   rfl
theorem So: ∀ks:List Ex,oe ks=ks.all Ex.b6
 | []=>rfl
 | k::ks=>by simp[oe,So ks]
theorem Sp: ∀ks:List Ex,ld ks=decide ((kE ks:Int)>0)
 | []=>by simp[ld,kE]
 | k::ks=>by
  have:=Sp ks
  unfold kE at*
  cases hk:k.b6
  ·simp[ld,hk,this]
  ·simp[ld,hk]
theorem Sq: ∀ks:List Ex,oe ks=((kE ks:Int)==(ks.length:Int))
 | []=>by simp[oe,kE]
 | k::ks=>by
  have h:=Sq ks
  have hl:kE ks≤ks.length:=su _ _
  unfold kE at*
  rw[oe,h,nw]
  cases hk:k.b6
  ·simp[hk];omega
  ·simp[hk]
theorem aej {c:Int} {nm:Bool}: ∀e:Ex,e.wf 6=true→e.size≤400→(nm=true→Gd 6 e)→CC nY (.int .i64 c:: .bool nm::bW e [])=some (qJ c e):=
 ind fun o l ks ih hw hs kK=>by
  obtain ⟨h1,U⟩:=gX hw
  have hl:=o9 ks
  have Sr:aK ks≤399:=by simp only[size] at hs;omega
  have EV: ∀k∈ks,k.size≤399:=fun k hk=>lq (zK hk) Sr
  have kp: ∀k∈ks,CC nY (.int .i64 c:: .bool nm::bW k [])=some (qJ c k):=fun k hk=>ih k hk (U k hk) (by have:=EV k hk;omega) fun h=>(kK h).kids k hk
  have hsm: ∀k∈ks,CC zg (.int .i64 c:: .bool nm::bW k [])=some (gW (aO k)):=fun k hk=>by
   refine adZ ?_
   unfold R8
   cases nm with
   | true=>refine bT rfl ?_;rw[Qc k ((kK rfl).kids k hk)];rfl
   | false=>
    refine bF rfl ?_
    have:=EV k hk
    exact bs (RV (n:=6) (by omega) k (U k hk) (by omega)) rfl
  have dz: ∀k∈ks,(aO (bP c k)).size≤160000:=fun k hk=>by
   have a:=Kd (c:=c) (U k hk)
   have b:=EU (EV k hk)
   omega
  have AE: ∀k∈ks,Gd 6 (aO (bP c k))∧(aO (bP c k)).Ok:=fun k hk=>by
   have a:=lY _ (sd (c:=c) k (U k hk))
   have b:=dz k hk
   exact ⟨a,tR (by omega) _ a.2 (by omega)⟩
  have EW: ∀k∈ks,Gd 6 (aO k)∧(aO k).Ok:=fun k hk=>by
   have a:=Sk (U k hk) (by have:=EV k hk;omega)
   exact ⟨a.1,a.2.1⟩
  have hnz:=Ke U
  have hbz:aK (ks.map fun k=>aO (bP c k))≤160000:=by
   have a:=J9 (f:=fun k=>aO (bP c k)) fun k hk=>Kd (c:=c) (U k hk)
   have b:=EU Sr
   omega
  have Kg:(o=4∨o=6∨o=8)→CC vR (.int .i64 c:: .bool nm::bW (.node o l ks) [])=some (qJ c (.node o l ks)):=fun ho=>by
   obtain ⟨a1,a2⟩:=Kf AE
   obtain ⟨b1,b2⟩:=Kf EW
   have jf:l=0:=by rcases ez h1 with h|h<;>omega
   refine ad4 ?_
   unfold Sb
   simp only[Ex.op,Ex.kids,Ex.cE,bm]
   refine bT (EG (by omega)) (bT (EG (by omega)) ?_)
   have Kh:=aeg (ks:=ks) (nm:=nm) (c:=c) (by omega) kp (a:=o) (b:=l) (c1:=0) (c2:=0) (c3:=0) (c4:=0) (b1:=false) (l1:=ks.map enc) (l2:=[]) (l3:=[]) ks [] rfl
   rw[Int.toNat_natCast]
   refine bs Kh ?_
   unfold qJ
   rw[R7 ho,lh,jf]
   rcases ho with rfl|rfl|rfl
   ·refine bs (qF a1 a2 (by omega) (.inl rfl)) ?_
    refine bs (qF b1 b2 (by omega) (.inl rfl)) ?_
    refine bT rfl ?_
    rw[←Sp]
    rfl
   ·refine bs (qF a1 a2 (by omega) (.inr (.inr rfl))) ?_
    refine bs (qF b1 b2 (by omega) (.inr (.inr rfl))) ?_
    refine bF rfl (bT rfl ?_)
    rw[←Sq]
    rfl
   ·obtain ⟨k,rfl⟩:=uC.1 (show ks.length=1 by rcases ez h1 with h|h<;>omega)
    refine bs (EF (AE k (by simp)).1 (.inr rfl)) ?_
    refine bs (EF (EW k (by simp)).1 (.inr rfl)) ?_
    refine bF rfl (bF rfl (bT rfl ?_))
    refine congrArg some ?_
    have:(((kE [k]:Nat):Int)==0)=(Ex.node 8 0 [k]).b6:=by
     simp only[Ex.b6,kE]
     cases hk:k.b6<;>simp[hk,ld]
    rw[this]
    rfl
  have aek:o=5→CC vS (.int .i64 c:: .bool nm::bW (.node o l ks) [])=some (qJ c (.node o l ks)):=fun ho=>by
   subst ho
   have bt:ks≠[]:=by rintro rfl;rcases ez h1 with h|h<;>simp at h<;>omega
   have jf:l=0:=by rcases ez h1 with h|h<;>omega
   obtain ⟨b1,b2⟩:=Kf EW
   have hD:=Sm (c:=c) ks
   refine ad8 ?_
   unfold Sf
   simp only[Ex.op,Ex.kids,Ex.cE,bm]
   refine bT (EG (by omega)) ?_
   rw[Int.toNat_natCast]
   have Kh:=aeh (ks:=ks) (nm:=nm) (c:=c) (by omega) kp (c1:=0) (c2:=0) (c3:=0) (c4:=0) (b1:=false) (l1:=[]) (l2:=[]) hsm ks [] [] true rfl (bX _)
   refine bs Kh ?_
   simp only[un,List.nil_append,dj,mn,bm]
   refine bT (EG (by omega)) ?_
   rw[Int.toNat_natCast]
   have bL:=aei (ss:=ks.map aO) (D:=mf c ks) (b:=ks.all Ex.b6) (c1:=0) (c2:=0) (c3:=0) (c4:=0) (b1:=false) (l1:=[]) (l2:=[]) (by simp;omega) (by simp;omega) (fun d hd=>by
    obtain ⟨k,hk,rfl⟩:=Sn hd
    have:=dz k hk
    exact ⟨(AE k hk).1,(AE k hk).2,by omega⟩) (fun k hk=>⟨b1 k hk,b2 k hk⟩) (by omega) (mf c ks) [] [] rfl rfl
   have he:=Sl (c:=c) ks []
   rw[List.nil_append] at he
   rw[List.length_nil] at bL he
   rw[he] at bL
   refine bs bL ?_
   simp only[un,List.nil_append]
   have uY:=parts_eq (c:=c) U
   have Ss:=EI (c:=c) U fun k hk=>sd k (U k hk)
   have hcz:aK (iF c ks)≤160000:=by
    have a:=Ka (c:=c) (ks:=ks) fun k hk=>R6 k 6 (U k hk)
    have b:=EU (show 1+aK ks≤400 by omega)
    omega
   have hpz:aK (se c ks)≤160000:=by rw[uY];have:=Ke Ss;omega
   have Su: ∀k∈se c ks,Gd 6 k∧k.Ok:=fun k hk=>by
    have hz:=zK hk
    rw[uY] at hk
    obtain ⟨x,hx,rfl⟩:=fP.1 hk
    have a:=lY x (Ss x hx)
    exact ⟨a,tR (by omega) _ a.2 (by omega)⟩
   refine bs (qF (fun k hk=>(Su k hk).1) (fun k hk=>(Su k hk).2) (by omega) (.inl rfl)) ?_
   refine bs (qF b1 b2 (by omega) (.inr (.inl rfl))) ?_
   unfold qJ
   rw[adY bt U,lh,jf,←So]
   rfl
  refine aef ?_
  unfold Sj ER
  simp only[Ex.op,Ex.kids,Ex.cE]
  rcases ez h1 with ⟨rfl,h⟩|⟨rfl,⟨rfl,h⟩|⟨rfl,h⟩|⟨rfl,h⟩|⟨rfl,h⟩|⟨rfl,h⟩|⟨rfl,h⟩|⟨rfl,h⟩⟩
  ·obtain rfl:=pz.1 (show ks.length=0 by omega)
   refine bF rfl (bT rfl ?_)
   unfold qJ
   rw[xe,ak rfl,lh,lg (by omega)]
   rw[e7]
   by_cases vw:l=c
   ·rw[ak vw,ak vw];rfl
   ·rw[ai vw,ai vw];rfl
  ·obtain rfl:=pz.1 (show ks.length=0 by omega)
   rfl
  ·obtain rfl:=pz.1 (show ks.length=0 by omega)
   rfl
  ·exact bF rfl (bF rfl (bT rfl (bT rfl (bs (Kg (.inl rfl)) rfl))))
  ·refine bF rfl (bF rfl (bF rfl (bF rfl (bF rfl (bF rfl (bT rfl ?_))))))
   exact bs (aek rfl) rfl
  ·exact bF rfl (bF rfl (bF rfl (bT rfl (bT rfl (bs (Kg (.inr (.inl rfl))) rfl)))))
  ·obtain ⟨k,rfl⟩:=uC.1 (show ks.length=1 by omega)
   refine bF rfl (bF rfl (bF rfl (bF rfl (bF rfl (bT rfl ?_)))))
   refine bs (a:=k.enc) rfl ?_
   rw[bw,bx,bz]
   refine bs (kp k (by simp)) ?_
   have hk:=EW k (by simp)
   have hb:=AE k (by simp)
   have hj:=EF hk.1 (o:=7) (.inl rfl)
   rw[cG,gl,en] at hj
   refine bs hj ?_
   have p5:dh 7 0 [aO k]=aO (.node 7 0 [k]):=by rw[lh];rfl
   have Ki:=Sk hw (by omega)
   have hz2:=dz k (by simp)
   have fI:=qF (n:=6) (ks:=[aO (bP c k),aO (.node 7 0 [k])]) (o:=5) (fun x hx=>by
    rcases c8.1 hx with rfl|hx
    ·exact hb.1
    ·rw[dB.1 hx];exact Ki.1) (fun x hx=>by
    rcases c8.1 hx with rfl|hx
    ·exact hb.2
    ·rw[dB.1 hx];exact Ki.2.1) (by have:=Ki.2.2;simp only[aK];omega) (by omega)
   rw[cG,cG,gl,en (aO (bP c k)),en (aO (.node 7 0 [k])),←p5] at fI
   refine bs fI ?_
   unfold qJ
   rw[adW,←p5]
   rfl
  ·exact bF rfl (bF rfl (bF rfl (bF rfl (bT rfl (bs (Kg (.inr (.inr rfl))) rfl)))))
structure Dv where
 L:Int
 es:List Ex
 nx:List (List Int)
 dn:Int
deriving DecidableEq
def Dv.zero:Dv:=⟨0,[],[],0⟩
def nn (e:Ex) (c:Nat):Option Ex:=if (aO (bP c e)).val 6=0 then some (aO (bP c e)) else none
def jZ (e:Ex):Nat→Nat→List Ex→List Int→Option (List Ex × List Int)
 | 0,_,es,row=>some (es,row)
 | n+1,x,es,row=>(nn e x).bind fun d=>
  if d∈es then jZ e n (x+1) es (row++[(es.idxOf d:Int)])
  else if es.length=512 then none else jZ e n (x+1) (es++[d]) (row++[(es.length:Int)])
def proc (s:Dv):Option Dv:=(jZ (s.es.getD s.dn.toNat aT) s.L.toNat 0 s.es []).map fun p=>⟨s.L,p.1,s.nx++[p.2],s.dn+1⟩
def j4:Nat→Dv→Option Dv
 | 0,s=>some s
 | n+1,s=>if s.dn<s.es.length then (proc s).bind (j4 n) else some s
def js (e:Ex) (L:Int):Dv:=⟨L,[aO e],[],0⟩
theorem Sv {L:Int} (h:L≤6): ∀e:Ex,e.wf L=true→e.wf 6=true:=ind fun o l ks ih hw=>by
 obtain ⟨h1,U⟩:=gX hw
 refine rQ ?_ fun k hk=>ih k hk (U k hk)
 unfold dg at h1⊢
 by_cases ho:o=3
 ·rw[ak ho] at h1⊢
  have:=mh h1
  exact eo (by omega)
 ·rw[ai ho] at h1⊢;exact h1
theorem EX {e:Ex} {L:Int} (h:e.val L=0):(1≤L∧L≤6)∧e.depth≤40∧e.size≤400∧e.wf L=true:=by
 unfold Ex.val at h
 repeat' split at h
 all_goals first|omega|skip
 next a b c=>exact ⟨a,b.1,b.2,c⟩
theorem val_mk {e:Ex} {L:Int} (h:(1≤L∧L≤6)∧e.depth≤40∧e.size≤400∧e.wf L=true):e.val L=0:=by
 unfold Ex.val
 rw[ak h.1,ak ⟨h.2.1,h.2.2.1⟩,ak h.2.2.2]
theorem EY {e:Ex} {L:Int} (h:e.val L=0):e.val 6=0:=by
 obtain ⟨h1,U,h3,h4⟩:=EX h
 exact val_mk ⟨by omega,U,h3,Sv h1.2 e h4⟩
theorem Sw {e:Ex} {L:Int} (h:e.val L=0):(aO e).val L=0:=by
 obtain ⟨h1,U,h3,h4⟩:=EX h
 have:=zN e h4
 have:=abb e h4
 exact val_mk ⟨h1,by omega,by omega,(lY e h4).2⟩
def Nv (e:Ex):Prop:=Gd 6 e∧e.val 6=0
theorem Nv.aO {e:Ex} (h:Nv e):aO e=e:=Qc e h.1
theorem Kj {e d:Ex} {c:Nat} (he:Nv e) (h:nn e c=some d):Nv d∧d=Go.AM.aO (bP c e):=by
 unfold nn at h
 split at h
 ·next hv=>
  cases h
  exact ⟨⟨lY _ (sd e he.1.2),hv⟩,rfl⟩
 ·cases h
structure Es (es:List Ex):Prop where
 le:es.length≤512
 nv: ∀e∈es,Nv e
 nd:es.Nodup
def ph (e:Ex) (es:List Ex) (n:Nat) (row:List Int):Prop:=row.length=n∧∀x,x<n→∃j:Nat,row.getD x 0=j∧j<es.length∧nn e x=some (es.getD j aT)
theorem ph.mono {e:Ex} {es t:List Ex} {n:Nat} {row:List Int} (h:ph e es n row):ph e (es++t) n row:=⟨h.1,fun x hx=>by
 obtain ⟨j,h1,U,h3⟩:=h.2 x hx
 refine ⟨j,h1,by rw[ca];omega,?_⟩
 rw[h3,eU,eU,hG U]⟩
theorem ph.snoc {e:Ex} {es:List Ex} {n j:Nat} {row:List Int} (h:ph e es n row) (h1:j<es.length) (U:nn e n=some (es.getD j aT)):ph e es (n+1) (row++[(j:Int)]):=by
 refine ⟨by rw[ca,h.1];rfl,fun x hx=> ?_⟩
 rcases ot x n with c|c
 ·obtain ⟨i,i1,i2,i3⟩:=h.2 x c
  refine ⟨i,?_,i2,i3⟩
  rw[←i1,eU,eU,hG (by rw[h.1];exact c)]
 ·obtain rfl:x=n:=by omega
  refine ⟨j,?_,h1,U⟩
  rw[eU,hO (by rw[h.1];exact bX _),h.1]
  simp
theorem Es.snoc {es:List Ex} {d:Ex} (h:Es es) (hd:Nv d) (hn:d∉es) (hl:es.length≠512):Es (es++[d]):=by
 refine ⟨by have:=h.le;simp;omega,fun e he=> ?_,?_⟩
 ·rcases ee.1 he with he|he
  ·exact h.nv e he
  ·rw[dB.1 he];exact hd
 ·rw[Bh]
  refine ⟨h.nd,by simp,fun a ha b hb=> ?_⟩
  rw[dB.1 hb]
  rintro rfl
  exact hn ha
theorem ael {es:List Ex} {d:Ex} (h:d∈es):es.getD (es.idxOf d) aT=d:=by
 have:=List.idxOf_lt_length_iff.2 h
 rw[eU,bq this,Option.getD_some,List.getElem_idxOf]
theorem Kk {e:Ex} (he:Nv e): ∀(n x:Nat) (es:List Ex) (row:List Int) (p:List Ex × List Int),Es es→ph e es x row→jZ e n x es row=some p→Es p.1∧ph e p.1 (x+n) p.2∧∃t,p.1=es++t
 | 0,x,es,row,p,h1,U,h=>by
  cases h
  exact ⟨h1,U,[],by simp⟩
 | n+1,x,es,row,p,h1,U,h=>by
  rw[jZ] at h
  cases hs:nn e x with
  | none=>rw[hs] at h;cases h
  | some d=>
   rw[hs] at h
   obtain ⟨hd,_⟩:=Kj he hs
   simp only[Option.bind_some] at h
   by_cases hm:d∈es
   ·rw[ak hm] at h
    have:=Kk he n (x+1) es _ p h1 (U.snoc (List.idxOf_lt_length_iff.2 hm) (by rw[hs,ael hm])) h
    rw[show x+(n+1)=x+1+n by omega]
    exact this
   ·rw[ai hm] at h
    by_cases hl:es.length=512
    ·rw[ak hl] at h;cases h
    ·rw[ai hl] at h
     obtain ⟨a,b,t,c⟩:=Kk he n (x+1) (es++[d]) _ p (h1.snoc hd hm hl) (U.mono.snoc (by simp) (by rw[hs,eU];simp)) h
     rw[show x+(n+1)=x+1+n by omega]
     exact ⟨a,b,d::t,by rw[c,b7];rfl⟩
structure Gs (s:Dv):Prop where
 L:1≤s.L∧s.L≤6
 ne:s.es≠[]
 es:Es s.es
 dn:0≤s.dn∧s.dn≤s.es.length
 nl:s.nx.length=s.dn.toNat
 row: ∀q,q<s.dn.toNat→ph (s.es.getD q aT) s.es s.L.toNat (s.nx.getD q [])
theorem EZ {α:Type} {a b:List α} {i:Nat} {z:α} (h:i<a.length):(a++b).getD i z=a.getD i z:=by
 rw[eU,eU,hG h]
theorem E0 {α:Type} {a:List α} {i:Nat} {z:α} (h:i<a.length):a.getD i z∈a:=by
 rw[eU,bq h];simp
theorem E1 {s t:Dv} (h:proc s=some t): ∃p,jZ (s.es.getD s.dn.toNat aT) s.L.toNat 0 s.es []=some p∧t=⟨s.L,p.1,s.nx++[p.2],s.dn+1⟩:=by
 unfold proc at h
 cases hr:jZ (s.es.getD s.dn.toNat aT) s.L.toNat 0 s.es [] with
 | none=>rw[hr] at h;cases h
 | some p=>rw[hr] at h;cases h;exact ⟨p,rfl,rfl⟩
theorem Kl {s t:Dv} (hs:Gs s) (hd:s.dn<s.es.length) (h:proc s=some t):Gs t∧t.L=s.L∧t.dn=s.dn+1∧∃r,t.es=s.es++r:=by
 obtain ⟨p,hp,rfl⟩:=E1 h
 have Km:=hs.dn
 have hq:s.dn.toNat<s.es.length:=by omega
 obtain ⟨a,b,r,c⟩:=Kk (hs.es.nv _ (E0 hq)) _ 0 _ _ p hs.es ⟨rfl,fun x hx=>by omega⟩ hp
 have hn:=hs.nl
 refine ⟨⟨hs.L,by rw[c];simp[hs.ne],a,⟨by show 0≤s.dn+1;omega,?_⟩,?_,fun q yz=> ?_⟩,rfl,rfl,r,c⟩
 ·show s.dn+1≤(p.1.length:Int)
  rw[c,ca];omega
 ·show (s.nx++[p.2]).length=(s.dn+1).toNat
  rw[ca,hn];simp;omega
 ·have hq3:q<(s.dn+1).toNat:=yz
  show ph (p.1.getD q aT) p.1 s.L.toNat ((s.nx++[p.2]).getD q [])
  rcases ot q s.dn.toNat with e|e
  ·rw[EZ (by omega),c,EZ (by omega)]
   exact (hs.row q e).mono
  ·obtain rfl:q=s.dn.toNat:=by omega
   rw[eU (l:=s.nx++[p.2]),hO (by omega),hn,Nat.sub_self]
   simp only[List.getElem?_cons_zero,Option.getD_some]
   rw[gj] at b
   have e1:p.1.getD s.dn.toNat aT=s.es.getD s.dn.toNat aT:=by rw[c,EZ (by omega)]
   rw[e1]
   exact b
theorem AF: ∀(n:Nat) (s t:Dv),Gs s→j4 n s=some t→Gs t∧t.L=s.L∧(∃r,t.es=s.es++r)∧(t.dn=t.es.length∨t.dn=s.dn+n)
 | 0,s,t,hs,h=>by cases h;exact ⟨hs,rfl,⟨[],by simp⟩,.inr (by simp)⟩
 | n+1,s,t,hs,h=>by
  rw[j4] at h
  by_cases hd:s.dn<s.es.length
  ·rw[ak hd] at h
   cases hp:proc s with
   | none=>rw[hp] at h;cases h
   | some u=>
    rw[hp] at h
    obtain ⟨a,b,c,r,d⟩:=Kl hs hd hp
    obtain ⟨e,f,⟨r2,g⟩,i⟩:=AF n u t a h
    refine ⟨e,f.trans b,⟨r++r2,by rw[g,d,b7]⟩,?_⟩
    rcases i with i|i
    ·exact .inl i
    ·exact .inr (by rw[i,c];omega)
  ·rw[ai hd] at h
   cases h
   exact ⟨hs,rfl,⟨[],by simp⟩,.inl (by have:=hs.dn;omega)⟩
theorem E2 {e:Ex} {L:Int} (h:e.val L=0):Gs (js e L):=by
 obtain ⟨h1,U,h3,h4⟩:=EX h
 refine ⟨h1,by simp[js],⟨by simp[js],fun x hx=> ?_,by simp[js]⟩,by simp[js],rfl,fun q hq=>by simp[js] at hq⟩
 rw[dB.1 hx]
 exact ⟨lY e (Sv h1.2 e h4),EY (Sw h)⟩
theorem Sy {s t:Dv} (hs:Gs s) {n:Nat} (hn:513≤s.dn+n) (h:j4 n s=some t):t.dn=t.es.length:=by
 obtain ⟨g,_,_,e⟩:=AF n s t hs h
 rcases e with e|e
 ·exact e
 ·have:=g.dn;have:=g.es.le;omega
end Go.AM
set_option maxRecDepth 100000
namespace Go.AM
open Go.Proofs
noncomputable def Sz (C:ag) (cO cL:Int) (iW:List V) (j5 Kn:Int) (Ko:List V) (Kp:Bool):Option (List V):=
 (C vN [.int .i64 cO,.int .i64 cL,.list aa iW,.int .i64 6]).bind fun r1=>
 bif (((V.nth r1 0).toInt):Int) != 0 then
  some [.int .i64 0,.int .i64 0,.list aa ([]:List V),.int .i64 3]
 else
  some [.int .i64 cO,.int .i64 cL,.list aa iW,.int .i64 0]
theorem aem {cO cL:Int} {iW:List V} {j5 Kn:Int} {Ko:List V} {Kp:Bool} {r:Option (List V)} (h:Sz CC cO cL iW j5 Kn Ko Kp=r):CC HT [.int .i64 cO,.int .i64 cL,.list aa iW,.int .i64 j5,.int .i64 Kn,.list aa Ko,.bool Kp]=r:=
 ba (key:=149) (L:=cj) (bs:=[]) (by kernel_rfl) aw (a8 (by kernel_rfl) h)
noncomputable def SA (C:ag) (ah ar:Int) (ae:List V) (cE:Int):Option (List V):=
 (C nY [.int .i64 cE,.bool true,.int .i64 ah,.int .i64 ar,.list aa ae]).bind fun r1=>
 (C HT [.int .i64 ((V.nth r1 0).toInt),.int .i64 ((V.nth (r1.drop 1) 0).toInt),.list aa ((V.nth ((r1.drop 1).drop 1) 0).toList),.int .i64 ((V.nth (((r1.drop 1).drop 1).drop 1) 0).toInt),.int .i64 ((V.nth ((((r1.drop 1).drop 1).drop 1).drop 1) 0).toInt),.list aa ((V.nth (((((r1.drop 1).drop 1).drop 1).drop 1).drop 1) 0).toList),.bool ((V.nth ((((((r1.drop 1).drop 1).drop 1).drop 1).drop 1).drop 1) 0).toBool)]).bind fun r2=>
 some [.int .i64 ((V.nth r2 0).toInt),.int .i64 ((V.nth (r2.drop 1) 0).toInt),.list aa ((V.nth ((r2.drop 1).drop 1) 0).toList),.int .i64 ((V.nth (r2.drop 3) 0).toInt)]
theorem aen {ah ar:Int} {ae:List V} {cE:Int} {r:Option (List V)} (h:SA CC ah ar ae cE=r):CC Dt [.int .i64 ah,.int .i64 ar,.list aa ae,.int .i64 cE]=r:=
 ba (key:=53) (L:=cj) (bs:=[]) (by kernel_rfl) aw (a8 (by kernel_rfl) h)
end Go.AM
set_option maxRecDepth 100000
namespace Go.AM
open Go.Proofs Ex
abbrev SB (p:Ex × Int):List V:=bW p.1 [.int .i64 p.2]
def xg (x:Ex):Ex × Int:=if x.val 6=0 then (x,0) else (aT,3)
theorem aeo {x y:Ex} {b:Bool} (hx:x.Ok):CC HT (bW x (bW y [.bool b]))=some (SB (xg x)):=by
 refine aem ?_
 unfold Sz xg
 refine bs (Jh x hx 6) ?_
 by_cases hv:x.val 6=0
 ·rw[ak hv]
  exact bF (by simp[hv]) rfl
 ·rw[ai hv]
  exact bT (by simp[hv]) rfl
theorem aep {c:Int} {e:Ex} (hv:e.val 6=0):Gd 6 (aO (bP c e))∧(aO (bP c e)).Ok∧(aO (bP c e)).size≤160000:=by
 obtain ⟨_,U,h3⟩:=qw hv
 have a:=lY _ (sd (c:=c) e h3)
 have b:=Kd (c:=c) h3
 have d:=EU U
 exact ⟨a,tR (by omega) _ a.2 (by omega),by omega⟩
theorem aeq {e:Ex} (he:Nv e) (c:Int):CC Dt (bW e [.int .i64 c])=some (SB (xg (aO (bP c e)))):=by
 obtain ⟨_,U,h3⟩:=qw he.2
 refine aen ?_
 unfold SA
 refine bs (aej (c:=c) (nm:=true) e h3 U fun _=>he.1) ?_
 refine bs (aeo (y:=aO e) (b:=e.b6) (aep (c:=c) he.2).2.1) ?_
 unfold xg
 split<;>rfl
end Go.AM
set_option maxRecDepth 100000
namespace Go.AM
open Go.Proofs
theorem aer (n:Int):CC vL [.int .i64 n]=some [.bool (decide (1≤n∧n≤6))]:=by
 refine PA ?_
 unfold Jg
 rw[aA]
 split
 ·refine congrArg (fun b=>some [V.bool b]) ?_;rw[xA];omega
 ·have: ¬(1≤n∧n≤6):=by omega
  simp[this]
noncomputable abbrev SC:Code:=cP Try.prog (az.aZ 18)
noncomputable def AG (C:ag) (w:List UInt8) (letters i:Int) {β:Type} (kn:Int→Option β) (kr:((Bool) ⊕ (Int × Bool))→Option β):Option β:=
 bif decide ((i:Int)<(w.length:Int)) then
  (bif decide (0≤i) then (w[(i:Int).toNat]?).map fun b=>V.int .u8 b.toNat else none).bind fun x2=>
  bif decide ((x2.toInt:Int)<97) then
  kr (.inl false)
  else
  (bif decide (0≤i) then (w[(i:Int).toNat]?).map fun b=>V.int .u8 b.toNat else none).bind fun x3=>
  bif decide (((IntKind.wrap .i64 (IntKind.wrap .u8 (x3.toInt-97))):Int)≥letters) then
   kr (.inl false)
  else
   kn (IntKind.wrap .i64 (i+1))
 else
  kr (.inr (i,decide ((i:Int)<(w.length:Int))))
noncomputable def E3 (C:ag) (w:List UInt8) (letters:Int):(Int)→Option ((Int) ⊕ ((Bool) ⊕ (Int × Bool))):=fun i=>AG C w letters i (fun y=>some (.inl y)) (fun r=>some (.inr r))
noncomputable def SD (C:ag):cC:=fun β n ds k=>
 bif Nat.beq n 65 then ch H0 [false,false,true] [[0],[1,2,0,0]] (@AG C) ds k else
 none
abbrev aes (C:ag) (b:cx):Prop:=cy Try.prog az C (SD C) 18 (cT Try.prog (az.aZ 18)) (az.sin 18).aY.length b
theorem aet (C:ag):aes C (.loop (av [1,1,0,1,0,0] SC)):=
 ct H0 [false,false,true] [[0],[1,2,0,0]] (@AG C) (by kernel_rfl) (bf (bs:=[]) (by kernel_rfl) aw) (fun ds=>by kernel_rfl) (fun i x=>by kernel_rfl) (fun i x β k=>by kernel_rfl) (fun β ds k=>by kernel_rfl)
noncomputable def SE (C:ag) (w:List UInt8) (letters:Int):Option (List V):=
 (C vL [.int .i64 letters]).bind fun r1=>
 bif !((V.nth r1 0).toBool) then
  some [.bool false]
 else
  bif decide (((w.length:Int):Int)>2048) then
  some [.bool false]
  else
  (Loop (E3 C w letters) 0).bind (b9 (fun (lX:Bool)=>
   some [.bool lX]) (un fun (cF:Int) (lW:Bool)=>
   some [.bool true]))
theorem aeu {w:List UInt8} {letters:Int} {r:Option (List V)} (h:SE CC w letters=r):CC Dk [.str w,.int .i64 letters]=r:=
 ba (key:=18) (L:=SD CC) (bs:=[.loop (av [1,1,0,1,0,0] SC)]) (by kernel_rfl) (bG (aet CC) aw) (a8 (by kernel_rfl) h)
def iX (w:List UInt8) (i:Nat):Int:=((w.getD i 0).toNat:Int)-97
def uv (w:List UInt8) (L:Int):Prop:=1≤L∧L≤6∧w.length≤2048∧∀i,i<w.length→0≤iX w i∧iX w i<L
instance (w:List UInt8) (L:Int):Decidable (uv w L):=by unfold uv;infer_instance
theorem SF {w:List UInt8} {i:Nat} (h:i<w.length):(bif decide (0≤(i:Int)) then (w[((i:Nat):Int).toNat]?).map (fun b=>V.int .u8 b.toNat) else none)=some (.int .u8 ((w.getD i 0).toNat:Int)):=by
 rw[aA,ak (by omega),Int.toNat_natCast]
 simp[h]
theorem SG (b:UInt8):b.toNat<256:=b.toNat_lt
theorem aev {w:List UInt8} {i:Nat} (h:0≤iX w i):IntKind.wrap .u8 (((w.getD i 0).toNat:Int)-97)=iX w i:=by
 have:=SG (w.getD i 0)
 unfold iX at*
 exact vC h (by omega)
theorem aew {w:List UInt8} {i:Nat}:iX w i<256:=by
 have:=SG (w.getD i 0)
 unfold iX
 omega
theorem aex {w:List UInt8} {L:Int} (hl:w.length≤2048):Loop (E3 CC w L) 0=some (if∀i,i<w.length→0≤iX w i∧iX w i<L then .inr ((w.length:Int),false) else .inl false):=by
 refine Yx (good:=fun i=>0≤iX w i∧iX w i<L) w.length (fun i=>(i:Int)) (Sum.inl false:Bool ⊕ (Int × Bool)) (Sum.inr ((w.length:Int),false)) (fun i hi=> ?_) ?_
 ·simp only[E3,AG,un]
  rw[aA,ak (by omega),SF hi]
  simp only[Option.bind_some,V.toInt_int,aA]
  by_cases h1:0≤iX w i
  ·have gq:=h1
   unfold iX at gq
   rw[ai (by omega),aev h1,wrap64 (by omega) (by have:= @aew w i;omega)]
   by_cases U:iX w i<L
   ·rw[ai (by omega),ak ⟨h1,U⟩,wrap64 (by omega) (by omega)]
    simp
   ·rw[ak (by omega),ai (fun h=>U h.2)]
  ·have gq:=h1
   unfold iX at gq
   rw[ak (by omega),ai (fun h=>h1 h.1)]
 ·simp only[E3,AG,un]
  rw[aA,ai (by omega)]
  simp
theorem aey (w:List UInt8) (L:Int):CC Dk [.str w,.int .i64 L]=some [.bool (decide (uv w L))]:=by
 refine aeu ?_
 unfold SE
 rw[aer]
 simp only[Option.bind_some,V.aV,V.dQ,gB,aA]
 by_cases h1: ¬(1≤L∧L≤6)
 ·rw[ai h1,cS (fun h=>h1 ⟨h.1,h.2.1⟩)]
 have h1:=Classical.not_not.1 h1
 rw[ak h1]
 by_cases h3:(w.length:Int)>2048
 ·rw[ak h3,cS (fun h=>by have:=h.2.2.1;omega)]
 rw[ai h3,aex (by omega)]
 by_cases h4: ∀i,i<w.length→0≤iX w i∧iX w i<L
 ·rw[ak h4,eo (show uv w L from ⟨h1.1,h1.2,by omega,h4⟩)]
  simp[b9,un]
 ·rw[ai h4,cS (fun h=>h4 h.2.2.2)]
  simp[b9,un]
noncomputable def SH (C:ag) (ah ar:Int) (ae:List V) (cA:Int):Option (List V):=
 (C Dl [.int .i64 ah,.int .i64 ar,.list aa ae]).bind fun r1=>
 bif (V.nth r1 0).toBool then
  (C Di [.int .i64 ah,.int .i64 ar,.list aa ae]).bind fun r2=>
  some [.bool (decide ((((V.nth r2 0).toInt):Int)≤cA))]
 else
  some [.bool false]
theorem aez {ah ar:Int} {ae:List V} {cA:Int} {r:Option (List V)} (h:SH CC ah ar ae cA=r):CC Dj [.int .i64 ah,.int .i64 ar,.list aa ae,.int .i64 cA]=r:=
 ba (key:=17) (L:=cj) (bs:=[]) (by kernel_rfl) aw (a8 (by kernel_rfl) h)
end Go.AM
set_option maxRecDepth 100000
namespace Go.AM
open Go.Proofs Ex
theorem aeA (e:Ex) (h:e.Ok) (m:Int):CC Dj (bW e [.int .i64 m])=some [.bool (decide (e.val 6=0∧(e.size:Int)≤m))]:=by
 refine aez ?_
 unfold SH
 refine bs (aaV e h) ?_
 by_cases hv:e.val 6=0
 ·refine bT (eo hv) (bs (aaY e h (qw hv).2.1) ?_)
  rw[V.aV,V.toInt_int]
  refine congrArg (fun b=>some [V.bool b]) ?_
  rw[xA]
  exact ⟨fun x=>⟨hv,x⟩,fun x=>x.2⟩
 ·refine bF (cS hv) ?_
  rw[cS fun x=>hv x.1]
end Go.AM
set_option maxRecDepth 100000
namespace Go.AM
open Go.Proofs
noncomputable abbrev SI:Code:=cP Try.prog (az.aZ 61)
noncomputable def AH (C:ag) (t19:List V) (t20 t21:Int) {β:Type} (kn:Int→Option β) (kr:((Bool) ⊕ (Int × Bool))→Option β):Option β:=
 bif decide ((t21:Int)<t20) then
  (idx t19 t21).bind fun x2=>
  (C jQ [.int .i64 ((x2.cell 0).toInt),.int .i64 ((x2.cell 1).toInt),.list aa ((x2.cell 2).toList)]).bind fun r3=>
  bif !((V.nth r3 0).toBool) then
  kr (.inl false)
  else
  kn (IntKind.wrap .i64 (t21+1))
 else
  kr (.inr (t21,decide ((t21:Int)<t20)))
noncomputable def sg (C:ag) (t19:List V) (t20:Int):(Int)→Option ((Int) ⊕ ((Bool) ⊕ (Int × Bool))):=fun t21=>AH C t19 t20 t21 (fun y=>some (.inl y)) (fun r=>some (.inr r))
noncomputable def SJ (C:ag):cC:=fun β n ds k=>
 bif Nat.beq n 161 then ch Ie [false,false,true] [[0],[1,2,0,0]] (@AH C) ds k else
 none
abbrev aeB (C:ag) (b:cx):Prop:=cy Try.prog az C (SJ C) 61 (cT Try.prog (az.aZ 61)) (az.sin 61).aY.length b
theorem aeC (C:ag):aeB C (.loop (av [1,0,1,0,1,1,1,1,1,0,0,1,0,0] SI)):=
 ct Ie [false,false,true] [[0],[1,2,0,0]] (@AH C) (by kernel_rfl) (bf (bs:=[]) (by kernel_rfl) aw) (fun ds=>by kernel_rfl) (fun i x=>by kernel_rfl) (fun i x β k=>by kernel_rfl) (fun β ds k=>by kernel_rfl)
noncomputable def SK (C:ag) (ah ar:Int) (ae:List V):Option (List V):=
 bif (ah:Int)==2 then
  bif (ah:Int)==2 then
  some [.bool true]
  else
  bif (ah:Int)==4 then
   (C DN [.list aa ae]).bind fun r1=>
   some [.bool ((V.nth r1 0).toBool)]
  else
   bif (ah:Int)==5 then
   bif (ah:Int)==5 then
    (Loop (sg C ae (ae.length:Int)) 0).bind (b9 (fun (lX:Bool)=>
     some [.bool lX]) (un fun (o0:Int) (lW:Bool)=>
     some [.bool true]))
   else
    bif (ah:Int)==8 then
    bif ((ae.length:Int):Int)==1 then
     (ae[0]?).bind fun x7=>
     (C jQ [.int .i64 ((x7.cell 0).toInt),.int .i64 ((x7.cell 1).toInt),.list aa ((x7.cell 2).toList)]).bind fun r8=>
     some [.bool (!((V.nth r8 0).toBool))]
    else
     some [.bool false]
    else
    some [.bool false]
   else
   bif (ah:Int)==6 then
    (Loop (sg C ae (ae.length:Int)) 0).bind (b9 (fun (rL:Bool)=>
     some [.bool rL]) (un fun (Jc:Int) (D0:Bool)=>
     some [.bool true]))
   else
    bif (ah:Int)==8 then
    bif ((ae.length:Int):Int)==1 then
     (ae[0]?).bind fun EN=>
     (C jQ [.int .i64 ((EN.cell 0).toInt),.int .i64 ((EN.cell 1).toInt),.list aa ((EN.cell 2).toList)]).bind fun gg=>
     some [.bool (!((V.nth gg 0).toBool))]
    else
     some [.bool false]
    else
    some [.bool false]
 else
  bif (ah:Int)==7 then
  some [.bool true]
  else
  bif (ah:Int)==4 then
   (C DN [.list aa ae]).bind fun kD=>
   some [.bool ((V.nth kD 0).toBool)]
  else
   bif (ah:Int)==5 then
   bif (ah:Int)==5 then
    (Loop (sg C ae (ae.length:Int)) 0).bind (b9 (fun (zB:Bool)=>
     some [.bool zB]) (un fun (Pd:Int) (YH:Bool)=>
     some [.bool true]))
   else
    bif (ah:Int)==8 then
    bif ((ae.length:Int):Int)==1 then
     (ae[0]?).bind fun wK=>
     (C jQ [.int .i64 ((wK.cell 0).toInt),.int .i64 ((wK.cell 1).toInt),.list aa ((wK.cell 2).toList)]).bind fun dZ=>
     some [.bool (!((V.nth dZ 0).toBool))]
    else
     some [.bool false]
    else
    some [.bool false]
   else
   bif (ah:Int)==6 then
    (Loop (sg C ae (ae.length:Int)) 0).bind (b9 (fun (Pf:Bool)=>
     some [.bool Pf]) (un fun (Je:Int) (Jf:Bool)=>
     some [.bool true]))
   else
    bif (ah:Int)==8 then
    bif ((ae.length:Int):Int)==1 then
     (ae[0]?).bind fun jo=>
     (C jQ [.int .i64 ((jo.cell 0).toInt),.int .i64 ((jo.cell 1).toInt),.list aa ((jo.cell 2).toList)]).bind fun JV=>
     some [.bool (!((V.nth JV 0).toBool))]
    else
     some [.bool false]
    else
    some [.bool false]
theorem aeD {ah ar:Int} {ae:List V} {r:Option (List V)} (h:SK CC ah ar ae=r):CC jQ [.int .i64 ah,.int .i64 ar,.list aa ae]=r:=
 ba (key:=61) (L:=SJ CC) (bs:=[.loop (av [1,0,1,0,1,1,1,1,1,0,0,1,0,0] SI)]) (by kernel_rfl) (bG (aeC CC) aw) (a8 (by kernel_rfl) h)
noncomputable def SL (C:ag) (s:List V):Option (List V):=
 (C DO [.list aa s]).bind fun r1=>
 some [.bool (decide ((((V.nth r1 0).toInt):Int)≥0))]
theorem aeE {s:List V} {r:Option (List V)} (h:SL CC s=r):CC DN [.list aa s]=r:=
 ba (key:=150) (L:=cj) (bs:=[]) (by kernel_rfl) aw (a8 (by kernel_rfl) h)
noncomputable abbrev SM:Code:=cP Try.prog (az.aZ 151)
noncomputable def AI (C:ag) (s:List V) (t7 t8:Int) {β:Type} (kn:Int→Option β) (kr:((Int) ⊕ (Int × Bool))→Option β):Option β:=
 bif decide ((t8:Int)<t7) then
  (idx s t8).bind fun x1=>
  (C jQ [.int .i64 ((x1.cell 0).toInt),.int .i64 ((x1.cell 1).toInt),.list aa ((x1.cell 2).toList)]).bind fun r2=>
  bif (V.nth r2 0).toBool then
  kr (.inl t8)
  else
  kn (IntKind.wrap .i64 (t8+1))
 else
  kr (.inr (t8,decide ((t8:Int)<t7)))
noncomputable def E4 (C:ag) (s:List V) (t7:Int):(Int)→Option ((Int) ⊕ ((Int) ⊕ (Int × Bool))):=fun t8=>AI C s t7 t8 (fun y=>some (.inl y)) (fun r=>some (.inr r))
noncomputable def SN (C:ag):cC:=fun β n ds k=>
 bif Nat.beq n 33 then ch Ja [false,false,true] [[0],[1,2,0,0]] (@AI C) ds k else
 none
abbrev aeF (C:ag) (b:cx):Prop:=cy Try.prog az C (SN C) 151 (cT Try.prog (az.aZ 151)) (az.sin 151).aY.length b
theorem aeG (C:ag):aeF C (.loop (av [1,0,1,0,0] SM)):=
 ct Ja [false,false,true] [[0],[1,2,0,0]] (@AI C) (by kernel_rfl) (bf (bs:=[]) (by kernel_rfl) aw) (fun ds=>by kernel_rfl) (fun i x=>by kernel_rfl) (fun i x β k=>by kernel_rfl) (fun β ds k=>by kernel_rfl)
noncomputable def Kq (C:ag) (s:List V):Option (List V):=
 (Loop (E4 C s (s.length:Int)) 0).bind (b9 (fun (jS:Int)=>
  some [.int .i64 jS]) (un fun (lX:Int) (o0:Bool)=>
  some [.int .i64 (-1)]))
theorem SO {s:List V} {r:Option (List V)} (h:Kq CC s=r):CC DO [.list aa s]=r:=
 ba (key:=151) (L:=SN CC) (bs:=[.loop (av [1,0,1,0,0] SM)]) (by kernel_rfl) (bG (aeG CC) aw) (a8 (by kernel_rfl) h)
end Go.AM
set_option maxRecDepth 100000
namespace Go.AM
open Go.Proofs Ex
theorem aeH {ks:List Ex} (hlen:ks.length≤maxLen) (ih: ∀k∈ks,CC jQ (bW k [])=some [.bool k.b6]):CC DN [.list aa (ks.map enc)]=some [.bool (ld ks)]:=by
 have:=rK
 refine aeE ?_
 unfold SL
 have hl:=P1 (step:=E4 CC (ks.map enc) ((ks.map enc).length:Int)) (ks:=ks) (fun i=>(i:Int)) b6 (fun i=> .inl (i:Int)) (.inr (((ks.length:Nat):Int),false))
  (fun pre k aH a9=>by
   have bL:pre.length<ks.length:=by rw[a9];simp
   have hm:k∈ks:=by rw[a9];simp
   simp only[E4,AI,bm,aA]
   rw[ak (by omega),show idx (ks.map enc) (pre.length:Int)=some k.enc by rw[a9];exact jT _ _ _]
   simp only[Option.bind_some,bw,bx,bz]
   rw[ih k hm]
   simp only[Option.bind_some,V.aV,V.dQ]
   rw[wrap64 (by omega) (by omega)]
   cases k.b6<;>simp)
  (by
   simp only[E4,AI,bm,aA]
   rw[ai (by omega)]
   simp) ks [] rfl
 simp only[List.length_nil,Int.ofNat_zero,Int.natCast_zero] at hl
 rcases hl with ⟨h1,i,U⟩|⟨h1,U⟩
 ·have hi:CC DO [.list aa (ks.map enc)]=some [.int .i64 (i:Int)]:=by
   refine SO ?_
   unfold Kq
   erw [U];rfl
  rw[hi,Jo,h1]
  simp
 ·have hi:CC DO [.list aa (ks.map enc)]=some [.int .i64 (-1)]:=by
   refine SO ?_
   unfold Kq
   erw [U];rfl
  rw[hi,Jo,h1]
  simp
theorem aeI {letters:Int}: ∀e:Ex,e.Ok→e.wf letters=true→CC jQ (bW e [])=some [.bool e.b6]:=
 ind fun o l ks ih au y7=>by
  have:=rK
  have hlen:=au.len
  obtain ⟨w1,w2⟩:=gX y7
  have kp: ∀k∈ks,CC jQ (bW k [])=some [.bool k.b6]:=fun k hk=>ih k hk (au.oc k hk) (w2 k hk)
  refine aeD ?_
  have oQ:(Loop (sg CC (ks.map enc) ((ks.map enc).length:Int)) 0).bind (b9 (fun (t:Bool)=>some [V.bool t]) (un fun (_:Int) (_:Bool)=>some [V.bool true]))=some [.bool (oe ks)]:=by
   have hl:=P1 (step:=sg CC (ks.map enc) ((ks.map enc).length:Int)) (ks:=ks) (fun i=>(i:Int)) (fun k=> !(b6 k)) (fun _=> .inl false) (.inr (((ks.length:Nat):Int),false))
    (fun pre k aH a9=>by
     have bL:pre.length<ks.length:=by rw[a9];simp
     have hm:k∈ks:=by rw[a9];simp
     simp only[sg,AH,bm,aA]
     rw[ak (by omega),show idx (ks.map enc) (pre.length:Int)=some k.enc by rw[a9];exact jT _ _ _]
     simp only[Option.bind_some,bw,bx,bz]
     rw[kp k hm]
     simp only[Option.bind_some,V.aV,V.dQ]
     rw[wrap64 (by omega) (by omega)]
     cases k.b6<;>simp)
    (by
     simp only[sg,AH,bm,aA]
     rw[ai (by omega)]
     simp) ks [] rfl
   simp only[List.length_nil,Int.ofNat_zero,Int.natCast_zero] at hl
   rcases hl with ⟨h1,i,U⟩|⟨h1,U⟩
   ·erw [U];rw[Jp,h1];rfl
   ·erw [U];rw[Jp,h1];rfl
  unfold SK
  simp only[Ex.op,Ex.cE,Ex.kids]
  rw[oQ,aeH hlen kp]
  simp only[b6]
  rcases zC o with rfl|rfl|rfl|rfl|rfl|rfl|rfl|rfl|ho
  case inr.inr.inr.inr.inr.inr.inr.inr=>
   have n2:o≠2:=by omega
   have n4:o≠4:=by omega
   have n5:o≠5:=by omega
   have n6:o≠6:=by omega
   have n7:o≠7:=by omega
   have n8:o≠8:=by omega
   simp[n2,n4,n5,n6,n7,n8]
  case inr.inr.inr.inr.inr.inr.inr.inl=>
   have h1:=aaX w1
   match ks,h1,kp with
   | [k],_,kp=>
    have:=kp k (by simp)
    simp only[cG,gl,List.length_singleton,List.getElem?_cons_zero,Option.bind_some,bw,bx,bz]
    rw[this]
    simp[ld]
  all_goals simp
def fC (op:Int):Int:=if op=4 then 1 else if op=6 then 2 else if op=5 then 3 else if op=8 then 4 else if op=7 then 5 else 6
def ed (op least:Int) (t:List UInt8):List UInt8:=if fC op<least then 40::(t++[41]) else t
mutual
def Ex.text:Ex→List UInt8
 | .node o l ks=>
  if o=1 then [48] else if o=2 then [49] else if o=3 then [UInt8.ofNat (97+l).toNat]
  else if o=8 then 33::texts [] 4 true ks else if o=7 then texts [] 5 true ks++[42]
  else if o=4 then texts [124] 2 true ks else if o=6 then texts [38] 3 true ks else texts [] 4 true ks
def Ex.texts (sep:List UInt8) (least:Int) (first:Bool):List Ex→List UInt8
 | []=>[]
 | k::ks=>(if first then [] else sep)++(ed k.op least (text k)++texts sep least false ks)
end
theorem aeJ (op least:Int) (t:List UInt8):(ed op least t).length≤t.length+2:=by
 unfold ed;split<;>simp
theorem SP (sep:List UInt8) (hs:sep.length≤1) (least:Int): ∀(ks:List Ex) (f:Bool),(∀k∈ks,k.text.length+3≤4*k.size)→(texts sep least f ks).length≤4*aK ks
 | [],f,_=>by simp[texts]
 | k::ks,f,h=>by
  have h1:=h k (by simp)
  have U:=SP sep hs least ks false fun k hk=>h k (by simp[hk])
  have h3:=aeJ k.op least k.text
  simp only[texts,ca,aK]
  cases f<;>simp<;>omega
theorem SQ: ∀e:Ex,e.text.length+3≤4*e.size:=ind fun o l ks ih=>by
 have h:=fun sep hs least=>SP sep hs least ks true ih
 have h1:=h [] (by simp) 4
 have U:=h [] (by simp) 5
 have h3:=h [124] (by simp) 2
 have h4:=h [38] (by simp) 3
 simp only[text,size]
 repeat' split
 all_goals simp
 all_goals omega
def TX (m:Int) (k:Ex):List UInt8:=ed k.op m k.text
def mb (o:Int) (e:Ex):List Ex:=if e.op=o then e.kids else [e]
theorem AJ (sep:List UInt8) (m:Int) (k:Ex) (ks:List Ex):texts sep m false (k::ks)=sep++(TX m k++texts sep m false ks):=by simp[texts,TX]
theorem AK (sep:List UInt8) (m:Int) (k:Ex) (ks:List Ex):texts sep m true (k::ks)=TX m k++texts sep m false ks:=by simp[texts,TX]
theorem SR (e:Ex):TX 1 e=texts [124] 2 true (mb 4 e):=by
 obtain ⟨o,l,ks⟩:=e
 unfold mb TX
 by_cases h:o=4
 ·subst h;simp[Ex.op,Ex.kids,fC,text,ed]
 ·have hl:2≤fC o:=by
   unfold fC
   repeat' split
   all_goals omega
  rw[ai (show¬(Ex.node o l ks).op=4 from h),AK]
  show ed o 1 _=ed o 2 _++[]
  rw[dy]
  unfold ed
  by_cases U:fC o<1
  ·rw[ak U,ak (by omega)]
  ·rw[ai U,ai (by omega)]
theorem SS (e:Ex):TX 2 e=texts [38] 3 true (mb 6 e):=by
 obtain ⟨o,l,ks⟩:=e
 unfold mb TX
 by_cases h:o=6
 ·subst h;simp[Ex.op,Ex.kids,fC,text,ed]
 ·have hl:fC o≠2:=by
   unfold fC
   repeat' split
   all_goals omega
  rw[ai (show¬(Ex.node o l ks).op=6 from h),AK]
  show ed o 2 _=ed o 3 _++[]
  rw[dy]
  unfold ed
  by_cases U:fC o<2
  ·rw[ak U,ak (by omega)]
  ·rw[ai U,ai (by omega)]
theorem SU (e:Ex):TX 3 e=texts [] 4 true (mb 5 e):=by
 obtain ⟨o,l,ks⟩:=e
 unfold mb TX
 by_cases h:o=5
 ·subst h;simp[Ex.op,Ex.kids,fC,text,ed]
 ·have hl:fC o≠3:=by
   unfold fC
   repeat' split
   all_goals omega
  rw[ai (show¬(Ex.node o l ks).op=5 from h),AK]
  show ed o 3 _=ed o 4 _++[]
  rw[dy]
  unfold ed
  by_cases U:fC o<3
  ·rw[ak U,ak (by omega)]
  ·rw[ai U,ai (by omega)]
theorem AL (l:Int) (k:Ex):TX 4 (.node 8 l [k])=33::TX 4 k:=by
 simp[TX,ed,Ex.op,fC,text,texts]
theorem AN {e:Ex} (h:e.op≠8):TX 4 e=TX 5 e:=by
 unfold TX ed fC
 repeat' split
 all_goals first|rfl|omega
theorem aeK (l:Int) (k:Ex):TX 5 (.node 7 l [k])=TX 5 k++[42]:=by
 simp[TX,ed,Ex.op,fC,text,texts]
theorem aeL {e:Ex} (h:e.op≠7):TX 5 e=TX 6 e:=by
 unfold TX ed fC
 repeat' split
 all_goals first|rfl|omega
theorem pj {e:Ex} (h:4≤e.op∧e.op≤8):TX 6 e=40::(TX 1 e++[41]):=by
 unfold TX ed fC
 repeat' split
 all_goals first|rfl|omega
theorem Kr {e:Ex} (h:e.wf 6=true):(e= .node 1 0 []∨e= .node 2 0 []∨(∃l:Int,0≤l∧l<6∧e= .node 3 l []))∨(4≤e.op∧e.op≤8):=by
 obtain ⟨o,l,ks⟩:=e
 obtain ⟨h1,U⟩:=gX h
 simp only[Ex.op]
 rcases ez h1 with ⟨rfl,h,h3,h4⟩|⟨rfl,⟨rfl,h⟩|⟨rfl,h⟩|⟨rfl,h⟩|⟨rfl,h⟩|⟨rfl,h⟩|⟨rfl,h⟩|⟨rfl,h⟩⟩
 ·obtain rfl:=pz.1 (show ks.length=0 by omega)
  exact .inl (.inr (.inr ⟨l,h3,h4,rfl⟩))
 ·obtain rfl:=pz.1 (show ks.length=0 by omega)
  exact .inl (.inl rfl)
 ·obtain rfl:=pz.1 (show ks.length=0 by omega)
  exact .inl (.inr (.inl rfl))
 all_goals exact .inr (by omega)
def AO (c:UInt8):Prop:=c=48∨c=49∨c=40∨c=97∨c=98∨c=99∨c=100∨c=101∨c=102
theorem qK {l:Int} (h0:0≤l) (h1:l<6):UInt8.ofNat (97+l).toNat=97∧l=0∨UInt8.ofNat (97+l).toNat=98∧l=1∨UInt8.ofNat (97+l).toNat=99∧l=2∨UInt8.ofNat (97+l).toNat=100∧l=3∨UInt8.ofNat (97+l).toNat=101∧l=4∨UInt8.ofNat (97+l).toNat=102∧l=5:=by
 rcases (show l=0∨l=1∨l=2∨l=3∨l=4∨l=5 by omega) with rfl|rfl|rfl|rfl|rfl|rfl<;>decide
theorem aeM {e:Ex} (h:e.wf 6=true): ∃c t,TX 6 e=c::t∧AO c:=by
 rcases Kr h with (rfl|rfl|⟨l,h0,h1,rfl⟩)|h
 ·exact ⟨48,[],rfl,.inl rfl⟩
 ·exact ⟨49,[],rfl,.inr (.inl rfl)⟩
 ·refine ⟨UInt8.ofNat (97+l).toNat,[],by simp[TX,ed,fC,Ex.op,text],?_⟩
  unfold AO
  rcases qK h0 h1 with h|h|h|h|h|h<;>simp[h.1]
 ·exact ⟨40,_,pj h,.inr (.inr (.inl rfl))⟩
theorem AP {o l:Int} {ks:List Ex} (h:(Ex.node o l ks).wf 6=true) (ho:o=7∨o=8): ∃k,ks=[k]∧k.wf 6=true∧l=0:=by
 obtain ⟨h1,U⟩:=gX h
 rcases ez h1 with h|⟨h0,h⟩
 ·omega
 ·obtain ⟨k,rfl⟩:=uC.1 (show ks.length=1 by omega)
  exact ⟨k,rfl,U k (by simp),h0⟩
def Ks (e:Ex):Nat→Ex
 | 0=>e
 | n+1=> .node 7 0 [Ks e n]
theorem Kt: ∀e:Ex,e.wf 6=true→∃(b:Ex) (n:Nat),e=Ks b n∧b.op≠7∧b.wf 6=true∧TX 5 e=TX 6 b++List.replicate n 42:=ind fun o l ks ih h=>by
 by_cases ho:o=7
 ·subst ho
  obtain ⟨k,rfl,hk,rfl⟩:=AP h (.inl rfl)
  obtain ⟨b,n,h1,U,h3,h4⟩:=ih k (by simp) hk
  exact ⟨b,n+1,by rw[h1];rfl,U,h3,by rw[aeK,h4,List.replicate_succ',b7]⟩
 ·exact ⟨.node o l ks,0,rfl,ho,h,by rw[aeL (show (Ex.node o l ks).op≠7 from ho)];simp⟩
theorem Ku {e:Ex} (h:e.wf 6=true): ∃c t,TX 5 e=c::t∧AO c:=by
 obtain ⟨b,n,_,_,h3,h4⟩:=Kt e h
 obtain ⟨c,t,h5,h6⟩:=aeM h3
 exact ⟨c,t++List.replicate n 42,by rw[h4,h5];rfl,h6⟩
theorem aeN {e:Ex} (h:e.wf 6=true): ∃c t,TX 4 e=c::t∧(c=33∨AO c):=by
 by_cases ho:e.op=8
 ·obtain ⟨o,l,ks⟩:=e
  obtain rfl:o=8:=ho
  obtain ⟨k,rfl,_⟩:=AP h (.inr rfl)
  exact ⟨33,TX 4 k,AL _ _,.inl rfl⟩
 ·obtain ⟨c,t,h1,U⟩:=Ku h
  exact ⟨c,t,by rw[AN ho,h1],.inr U⟩
def gi (m:Int) (c:UInt8):Prop:=if m=1 then c=41 else if m=2 then c=41∨c=124 else if m=3 then c=41∨c=124∨c=38 else if m=6 then True else c≠42
def fo (m:Int) (r:List UInt8):Prop:= ∀c t,r=c::t→gi m c
theorem SV {m:Int}:fo m []:=fun c t h=>by cases h
theorem Kv {m:Int} {c:UInt8} {t:List UInt8} (h:gi m c):fo m (c::t):=fun c' t' e=>by cases e;exact h
def jt (m:Int) (e:Ex):Prop:= ∀(e':Ex) (r r':List UInt8),e'.wf 6=true→fo m r→fo m r'→TX m e++r=TX m e'++r'→e=e'∧r=r'
theorem AQ {o:Int} {e:Ex} (h:e.wf 6=true): ∀x∈mb o e,x.wf 6=true:=fun x hx=>by
 unfold mb at hx
 split at hx
 ·obtain ⟨o,l,ks⟩:=e
  exact (gX h).2 x hx
 ·rw[dB.1 hx];exact h
theorem SW {o:Int} {e:Ex} (ho:4≤o∧o≤6) (h:e.wf 6=true): ∃x xs,mb o e=x::xs:=by
 unfold mb
 split
 ·next kT=>
  obtain ⟨o,l,ks⟩:=e
  obtain ⟨h1,U⟩:=gX h
  simp only[Ex.op] at kT
  match ks,h1 with
  | [],h1=>rcases ez h1 with h|⟨_,h⟩<;>simp at h<;>omega
  | x::xs,_=>exact ⟨x,xs,rfl⟩
 ·exact ⟨e,[],rfl⟩
theorem aeO {o:Int} {e e':Ex} (ho:4≤o∧o≤6) (h:e.wf 6=true) (h':e'.wf 6=true) (he:mb o e=mb o e'):e=e':=by
 have hl: ∀{x:Ex},x.wf 6=true→x.op=o→x.cE=0∧2≤x.kids.length:=fun {x} hx Hj=>by
  obtain ⟨o,l,ks⟩:=x
  obtain ⟨h1,U⟩:=gX hx
  simp only[Ex.op,Ex.cE,Ex.kids] at*
  rcases ez h1 with h|⟨_,h⟩<;>omega
 unfold mb at he
 by_cases h1:e.op=o
 ·obtain ⟨a1,a2⟩:=hl h h1
  rw[ak h1] at he
  by_cases U:e'.op=o
  ·obtain ⟨b1,b2⟩:=hl h' U
   rw[ak U] at he
   obtain ⟨o1,l1,k1⟩:=e
   obtain ⟨o2,l2,k2⟩:=e'
   simp only[Ex.op,Ex.cE,Ex.kids] at*
   subst he h1 U a1 b1
   rfl
  ·rw[ai U] at he
   rw[he] at a2
   simp at a2
 ·rw[ai h1] at he
  by_cases U:e'.op=o
  ·obtain ⟨b1,b2⟩:=hl h' U
   rw[ak U] at he
   rw[←he] at b2
   simp at b2
  ·rw[ai U] at he
   exact (fO he).1
section
variable {sep:List UInt8} {m:Int} (hh: ∀y:Ex,y.wf 6=true→∃c t,sep++TX m y=c::t∧gi m c∧¬gi (m-1) c) (hf: ∀c,gi (m-1) c→gi m c)
include hh hf
theorem E5 {ys:List Ex} {r:List UInt8} (hy: ∀y∈ys,y.wf 6=true) (hr:fo (m-1) r):fo m (texts sep m false ys++r):=by
 cases ys with
 | nil=>exact fun c t e=>hf c (hr c t e)
 | cons y ys=>
  obtain ⟨c,t,h1,U,h3⟩:=hh y (hy y (by simp))
  rw[AJ,←b7 sep,h1]
  exact Kv U
theorem SY: ∀(xs ys:List Ex) (r r':List UInt8),(∀x∈xs,x.wf 6=true∧jt m x)→(∀y∈ys,y.wf 6=true)→fo (m-1) r→fo (m-1) r'→texts sep m false xs++r=texts sep m false ys++r'→xs=ys∧r=r'
 | [],[],r,r',_,_,_,_,h=>⟨rfl,h⟩
 | [],y::ys,r,r',_,hy,hr,_,h=>by
  obtain ⟨c,t,h1,U,h3⟩:=hh y (hy y (by simp))
  rw[AJ,←b7 sep,h1] at h
  exact absurd (hr c _ (by simpa[texts] using h)) h3
 | x::xs,[],r,r',hx,_,_,hr,h=>by
  obtain ⟨c,t,h1,U,h3⟩:=hh x (hx x (by simp)).1
  rw[AJ,←b7 sep,h1] at h
  exact absurd (hr c _ (by simpa[texts] using h.symm)) h3
 | x::xs,y::ys,r,r',hx,hy,hr,gQ,h=>by
  rw[AJ,AJ,b7,b7,b7,b7] at h
  obtain ⟨rfl,U⟩:=(hx x (by simp)).2 y _ _ (hy y (by simp)) (E5 hh hf (fun z hz=>(hx z (by simp[hz])).1) hr) (E5 hh hf (fun z hz=>hy z (by simp[hz])) gQ) (List.append_cancel_left h)
  obtain ⟨rfl,h3⟩:=SY xs ys r r' (fun z hz=>hx z (by simp[hz])) (fun z hz=>hy z (by simp[hz])) hr gQ U
  exact ⟨rfl,h3⟩
theorem Kw {o:Int} (ho:4≤o∧o≤6) (ht: ∀e:Ex,TX (m-1) e=texts sep m true (mb o e)) {e:Ex} (he:e.wf 6=true) (ih: ∀x∈mb o e,jt m x):jt (m-1) e:=by
 intro e' r r' gv hr gQ h
 rw[ht,ht] at h
 obtain ⟨x,xs,hx⟩:=SW ho he
 obtain ⟨y,ys,hy⟩:=SW ho gv
 have wx:=AQ (o:=o) he
 have wy:=AQ (o:=o) gv
 rw[hx] at wx ih
 rw[hy] at wy
 rw[hx,hy,AK,AK,b7,b7] at h
 obtain ⟨rfl,U⟩:=ih x (by simp) y _ _ (wy y (by simp)) (E5 hh hf (fun z hz=>wx z (by simp[hz])) hr) (E5 hh hf (fun z hz=>wy z (by simp[hz])) gQ) h
 obtain ⟨rfl,h3⟩:=SY hh hf xs ys r r' (fun z hz=>⟨wx z (by simp[hz]),ih z (by simp[hz])⟩) (fun z hz=>wy z (by simp[hz])) hr gQ U
 exact ⟨aeO ho he gv (by rw[hx,hy]),h3⟩
end
theorem Kx {c:UInt8} (h:AO c):c≠33∧c≠41∧c≠42∧c≠124∧c≠38:=by
 rcases h with rfl|rfl|rfl|rfl|rfl|rfl|rfl|rfl|rfl<;>decide
theorem aeP {e:Ex} (he:e.wf 6=true) (ih: ∀x∈mb 4 e,jt 2 x):jt 1 e:=
 Kw (sep:=[124]) (m:=2) (fun y _=>⟨124,_,rfl,by simp[gi],by simp[gi]⟩) (fun c h=>by simp[gi] at h⊢;exact .inl h) (o:=4) (by omega) SR he ih
theorem sw {e:Ex} (he:e.wf 6=true) (ih: ∀x∈mb 6 e,jt 3 x):jt 2 e:=
 Kw (sep:=[38]) (m:=3) (fun y _=>⟨38,_,rfl,by simp[gi],by simp[gi]⟩) (fun c h=>by simp[gi] at h⊢;rcases h with h|h<;>simp[h]) (o:=6) (by omega) SS he ih
theorem aeQ {e:Ex} (he:e.wf 6=true) (ih: ∀x∈mb 5 e,jt 4 x):jt 3 e:=
 Kw (sep:=[]) (m:=4) (fun y hy=>by
  obtain ⟨c,t,h1,U⟩:=aeN hy
  refine ⟨c,t,h1,?_⟩
  rcases U with rfl|U
  ·simp[gi]
  ·have:=Kx U
   simp[gi,this]) (fun c h=>by simp[gi] at h⊢;rcases h with rfl|rfl|rfl<;>decide) (o:=5) (by omega) SU he ih
theorem aeR {e:Ex} (he:e.wf 6=true) (ih8: ∀k,e= .node 8 0 [k]→jt 4 k) (ih:e.op≠8→jt 5 e):jt 4 e:=by
 intro e' r r' gv hr gQ h
 by_cases h1:e.op=8
 ·obtain ⟨o,l,ks⟩:=e
  obtain rfl:o=8:=h1
  obtain ⟨k,rfl,hk,rfl⟩:=AP he (.inr rfl)
  rw[AL] at h
  by_cases U:e'.op=8
  ·obtain ⟨o',l',bZ⟩:=e'
   obtain rfl:o'=8:=U
   obtain ⟨k',rfl,c6,rfl⟩:=AP gv (.inr rfl)
   rw[AL] at h
   obtain ⟨rfl,h3⟩:=ih8 k rfl k' r r' c6 hr gQ (fO h).2
   exact ⟨rfl,h3⟩
  ·rw[AN U] at h
   obtain ⟨c,t,h3,h4⟩:=Ku gv
   rw[h3] at h
   exact absurd (fO h).1.symm (Kx h4).1
 ·rw[AN h1] at h
  by_cases U:e'.op=8
  ·obtain ⟨o',l',bZ⟩:=e'
   obtain rfl:o'=8:=U
   obtain ⟨k',rfl,c6,rfl⟩:=AP gv (.inr rfl)
   rw[AL] at h
   obtain ⟨c,t,h3,h4⟩:=Ku he
   rw[h3] at h
   exact absurd (fO h).1 (Kx h4).1
  ·rw[AN U] at h
   exact ih h1 e' r r' gv (by simpa[fo,gi] using hr) (by simpa[fo,gi] using gQ) h
theorem SZ {r r':List UInt8} (hr:fo 5 r) (gQ:fo 5 r'): ∀{n n':Nat},List.replicate n 42++r=List.replicate n' 42++r'→n=n'∧r=r'
 | 0,0,h=>⟨rfl,h⟩
 | 0,n+1,h=>by
  have:=hr 42 (List.replicate n 42++r') (by simpa[List.replicate_succ] using h)
  simp[gi] at this
 | n+1,0,h=>by
  have:=gQ 42 (List.replicate n 42++r) (by simpa[List.replicate_succ] using h.symm)
  simp[gi] at this
 | n+1,n'+1,h=>by
  rw[List.replicate_succ,List.replicate_succ] at h
  obtain ⟨rfl,U⟩:=SZ hr gQ (fO h).2
  exact ⟨rfl,U⟩
theorem S0 (r:List UInt8):fo 6 r:=fun c t _=>by simp[gi]
theorem aeS {b:Ex} {n:Nat} {e:Ex} (h1:e=Ks b n) (U:TX 5 e=TX 6 b++List.replicate n 42) (ih:jt 6 b):jt 5 e:=by
 intro e' r r' gv hr gQ h
 obtain ⟨b',n',e1,e2,e3,e4⟩:=Kt e' gv
 rw[U,e4,b7,b7] at h
 obtain ⟨rfl,h3⟩:=ih b' _ _ e3 (S0 _) (S0 _) h
 obtain ⟨rfl,h4⟩:=SZ hr gQ h3
 exact ⟨by rw[h1,e1],h4⟩
theorem aeT {e:Ex} (he:e.wf 6=true) (ih:4≤e.op∧e.op≤8→jt 1 e):jt 6 e:=by
 intro e' r r' gv hr gQ h
 have hl: ∀l:Int,TX 6 (.node 3 l [])=[UInt8.ofNat (97+l).toNat]:=fun l=>by simp[TX,ed,fC,Ex.op,text]
 have t1:TX 6 (.node 1 0 [])=[48]:=rfl
 have t2:TX 6 (.node 2 0 [])=[49]:=rfl
 rcases Kr he with (rfl|rfl|⟨l,h0,h1,rfl⟩)|ho<;>rcases Kr gv with (rfl|rfl|⟨l',vi,gq,rfl⟩)|iM
 ·exact ⟨rfl,List.append_cancel_left h⟩
 ·rw[t1,t2] at h;cases (fO h).1
 ·rw[t1,hl] at h
  have:=(fO h).1
  rcases qK vi gq with h|h|h|h|h|h<;>(rw[h.1] at this;cases this)
 ·rw[t1,pj iM] at h;cases (fO h).1
 ·rw[t1,t2] at h;cases (fO h).1
 ·exact ⟨rfl,List.append_cancel_left h⟩
 ·rw[t2,hl] at h
  have:=(fO h).1
  rcases qK vi gq with h|h|h|h|h|h<;>(rw[h.1] at this;cases this)
 ·rw[t2,pj iM] at h;cases (fO h).1
 ·rw[t1,hl] at h
  have:=(fO h).1
  rcases qK h0 h1 with h|h|h|h|h|h<;>(rw[h.1] at this;cases this)
 ·rw[t2,hl] at h
  have:=(fO h).1
  rcases qK h0 h1 with h|h|h|h|h|h<;>(rw[h.1] at this;cases this)
 ·rw[hl,hl] at h
  obtain ⟨U,h3⟩:=fO h
  refine ⟨?_,h3⟩
  have:l=l':=by
   rcases qK h0 h1 with ⟨a,rfl⟩|⟨a,rfl⟩|⟨a,rfl⟩|⟨a,rfl⟩|⟨a,rfl⟩|⟨a,rfl⟩<;>rcases qK vi gq with ⟨b,rfl⟩|⟨b,rfl⟩|⟨b,rfl⟩|⟨b,rfl⟩|⟨b,rfl⟩|⟨b,rfl⟩<;>first|rfl|(rw[a,b] at U;cases U)
  rw[this]
 ·rw[hl,pj iM] at h
  have:=(fO h).1
  rcases qK h0 h1 with h|h|h|h|h|h<;>(rw[h.1] at this;cases this)
 ·rw[t1,pj ho] at h;cases (fO h).1
 ·rw[t2,pj ho] at h;cases (fO h).1
 ·rw[hl,pj ho] at h
  have:=(fO h).1
  rcases qK vi gq with h|h|h|h|h|h<;>(rw[h.1] at this;cases this)
 ·rw[pj ho,pj iM] at h
  have U:(TX 1 e++[41])++r=(TX 1 e'++[41])++r':=(fO h).2
  rw[b7,b7] at U
  obtain ⟨h3,h4⟩:=ih ho e' _ _ gv (Kv (by simp[gi])) (Kv (by simp[gi])) U
  exact ⟨h3,(fO h4).2⟩
theorem E6 {sep:List UInt8} {m:Int}: ∀{xs:List Ex} {f:Bool} {x:Ex},x∈xs→(TX m x).length≤(texts sep m f xs).length
 | y::ys,f,x,h=>by
  simp only[texts,ca]
  rcases c8.1 h with rfl|h
  ·show (ed x.op m x.text).length≤_;omega
  ·have:=E6 (sep:=sep) (m:=m) (f:=false) h
   omega
theorem S3: ∀(n:Nat) (m:Int) (e:Ex),1≤m→m≤6→e.wf 6=true→8*(TX m e).length+(7-m).toNat<n→jt m e
 | 0,m,e,_,_,_,h=>by omega
 | n+1,m,e,h1,h6,he,h=>by
  have ih:=S3 n
  rcases (show m=1∨m=2∨m=3∨m=4∨m=5∨m=6 by omega) with rfl|rfl|rfl|rfl|rfl|rfl
  ·refine aeP he fun x hx=>ih 2 x (by omega) (by omega) (AQ he x hx) ?_
   have:=E6 (sep:=[124]) (m:=2) (f:=true) hx
   rw[SR] at h
   omega
  ·refine sw he fun x hx=>ih 3 x (by omega) (by omega) (AQ he x hx) ?_
   have:=E6 (sep:=[38]) (m:=3) (f:=true) hx
   rw[SS] at h
   omega
  ·refine aeQ he fun x hx=>ih 4 x (by omega) (by omega) (AQ he x hx) ?_
   have:=E6 (sep:=[]) (m:=4) (f:=true) hx
   rw[SU] at h
   omega
  ·refine aeR he (fun k hk=> ?_) fun ho=> ?_
   ·subst hk
    rw[AL,List.length_cons] at h
    exact ih 4 k (by omega) (by omega) ((gX he).2 k (by simp)) (by omega)
   ·rw[AN ho] at h
    exact ih 5 e (by omega) (by omega) he (by omega)
  ·obtain ⟨b,k,e1,e2,e3,e4⟩:=Kt e he
   refine aeS e1 e4 (ih 6 b (by omega) (by omega) e3 ?_)
   rw[e4,ca] at h
   omega
  ·refine aeT he fun ho=>ih 1 e (by omega) (by omega) he ?_
   rw[pj ho,List.length_cons,ca] at h
   simp only[List.length_cons,List.length_nil] at h
   omega
theorem S4 (e:Ex):TX 1 e=e.text:=by
 unfold TX ed
 rw[ai]
 unfold fC
 repeat' split
 all_goals omega
theorem S5 {a b:Ex} (ha:a.wf 6=true) (hb:b.wf 6=true) (h:a.text=b.text):a=b:=
 (S3 _ 1 a (by omega) (by omega) ha (xn _) b [] [] hb SV SV (by rw[S4,S4,h])).1
end Go.AM
set_option maxRecDepth 100000
namespace Go.AM
open Go.Proofs
noncomputable def S6 (C:ag) (ah ar:Int) (ae:List V):Option (List V):=
 (C zf [.int .i64 ah,.int .i64 ar,.list aa ae]).bind fun r1=>
 bif !((V.nth r1 0).toBool) then
  some [.str []]
 else
  (C rF [.int .i64 ah,.int .i64 ar,.list aa ae,.list cN ([]:List V)]).bind fun r2=>
  (C Dw [.list cN ((V.nth r2 0).toList)]).bind fun r3=>
  some [.str ((V.nth r3 0).toStr)]
theorem aeU {ah ar:Int} {ae:List V} {r:Option (List V)} (h:S6 CC ah ar ae=r):CC vQ [.int .i64 ah,.int .i64 ar,.list aa ae]=r:=
 ba (key:=60) (L:=cj) (bs:=[]) (by kernel_rfl) aw (a8 (by kernel_rfl) h)
noncomputable abbrev g9:Code:=cP Try.prog (az.aZ 75)
noncomputable def E7 (C:ag) (t5:Int) (t28:Bool) (fZ eP:Int) (eb bJ:List V) {β:Type} (kr:(List V)→Option β):Option β:=
 bif t28 then
  (C rH [.list aa eb,.str [38],.int .i64 3,.list cN bJ]).bind fun r5=>
  kr ((V.nth r5 0).toList)
 else
  bif (t5:Int)==5 then
  (C rH [.list aa eb,.str [],.int .i64 4,.list cN bJ]).bind fun r6=>
  kr ((V.nth r6 0).toList)
  else
  bif (t5:Int)==8 then
   (C oV [.int .u8 33,.list cN bJ]).bind fun r7=>
   (C rH [.list aa eb,.str [],.int .i64 4,.list cN ((V.nth r7 0).toList)]).bind fun r8=>
   kr ((V.nth r8 0).toList)
  else
   bif (t5:Int)==7 then
   (C rH [.list aa eb,.str [],.int .i64 5,.list cN bJ]).bind fun r9=>
   (C oV [.int .u8 42,.list cN ((V.nth r9 0).toList)]).bind fun dR=>
   kr ((V.nth dR 0).toList)
   else
   kr bJ
noncomputable def E8 (C:ag) (t5:Int) (t22:Bool) (fZ eP:Int) (eb bJ:List V) {β:Type} (kr:(List V)→Option β):Option β:=
 bif t22 then
  (C rH [.list aa eb,.str [124],.int .i64 2,.list cN bJ]).bind fun r4=>
  kr ((V.nth r4 0).toList)
 else
  E7 C t5 ((t5:Int)==6) fZ eP eb bJ (fun (uw:List V)=>
   kr uw)
noncomputable def E9 (C:ag) (t5:Int) (t14:Bool) (fZ eP:Int) (eb bJ:List V) {β:Type} (kr:(List V)→Option β):Option β:=
 bif t14 then
  (C oV [.int .u8 (IntKind.wrap .u8 (97+(IntKind.wrap .u8 eP))),.list cN bJ]).bind fun r3=>
  kr ((V.nth r3 0).toList)
 else
  E8 C t5 ((t5:Int)==4) fZ eP eb bJ (fun (AR:List V)=>
   kr AR)
noncomputable def Fb (C:ag) (t5:Int) (t10:Bool) (fZ eP:Int) (eb bJ:List V) {β:Type} (kr:(List V)→Option β):Option β:=
 bif t10 then
  (C oV [.int .u8 49,.list cN bJ]).bind fun r2=>
  kr ((V.nth r2 0).toList)
 else
  E9 C t5 ((t5:Int)==3) fZ eP eb bJ (fun (aeV:List V)=>
   kr aeV)
noncomputable def Fc (C:ag) (t5:Int) (t6:Bool) (fZ eP:Int) (eb bJ:List V) {β:Type} (kr:(List V)→Option β):Option β:=
 bif t6 then
  (C oV [.int .u8 48,.list cN bJ]).bind fun r1=>
  kr ((V.nth r1 0).toList)
 else
  Fb C t5 ((t5:Int)==2) fZ eP eb bJ (fun (Ky:List V)=>
   kr Ky)
noncomputable def S7 (C:ag):cC:=fun β n ds k=>
 bif Nat.beq n 463 then iz Ik [[0]] (@E7 C) ds k else
 bif Nat.beq n 367 then iz Il [[0]] (@E8 C) ds k else
 bif Nat.beq n 239 then iz Im [[0]] (@E9 C) ds k else
 bif Nat.beq n 175 then iz Io [[0]] (@Fb C) ds k else
 bif Nat.beq n 111 then iz Ip [[0]] (@Fc C) ds k else
 none
abbrev AS (C:ag) (b:cx):Prop:=cy Try.prog az C (S7 C) 75 (cT Try.prog (az.aZ 75)) (az.sin 75).aY.length b
theorem aeW (C:ag):AS C (.cond 28 (av [1,1,0,1,1,1,1,1,1,1,1,1,0] g9) (av [1,1,0,1,1,1,1,1,1,1,1,1,1] g9)):=
 iQ Ik [[0]] (@E7 C) (by kernel_rfl) (bf (bs:=[]) (by kernel_rfl) aw) (bf (bs:=[]) (by kernel_rfl) aw) (fun ds=>by kernel_rfl) (fun i β k=>by kernel_rfl) (fun β ds k=>by kernel_rfl)
theorem aeX (C:ag):AS C (.cond 22 (av [1,1,0,1,1,1,1,1,1,1,0] g9) (av [1,1,0,1,1,1,1,1,1,1,1] g9)):=
 iQ Il [[0]] (@E8 C) (by kernel_rfl) (bf (bs:=[]) (by kernel_rfl) aw) (bf (bs:=[.cond 28 (av [1,1,0,1,1,1,1,1,1,1,1,1,0] g9) (av [1,1,0,1,1,1,1,1,1,1,1,1,1] g9)]) (by kernel_rfl) (bG (aeW C) aw)) (fun ds=>by kernel_rfl) (fun i β k=>by kernel_rfl) (fun β ds k=>by kernel_rfl)
theorem aeY (C:ag):AS C (.cond 14 (av [1,1,0,1,1,1,1,1,0] g9) (av [1,1,0,1,1,1,1,1,1] g9)):=
 iQ Im [[0]] (@E9 C) (by kernel_rfl) (bf (bs:=[]) (by kernel_rfl) aw) (bf (bs:=[.cond 22 (av [1,1,0,1,1,1,1,1,1,1,0] g9) (av [1,1,0,1,1,1,1,1,1,1,1] g9)]) (by kernel_rfl) (bG (aeX C) aw)) (fun ds=>by kernel_rfl) (fun i β k=>by kernel_rfl) (fun β ds k=>by kernel_rfl)
theorem aeZ (C:ag):AS C (.cond 10 (av [1,1,0,1,1,1,0] g9) (av [1,1,0,1,1,1,1] g9)):=
 iQ Io [[0]] (@Fb C) (by kernel_rfl) (bf (bs:=[]) (by kernel_rfl) aw) (bf (bs:=[.cond 14 (av [1,1,0,1,1,1,1,1,0] g9) (av [1,1,0,1,1,1,1,1,1] g9)]) (by kernel_rfl) (bG (aeY C) aw)) (fun ds=>by kernel_rfl) (fun i β k=>by kernel_rfl) (fun β ds k=>by kernel_rfl)
theorem ae0 (C:ag):AS C (.cond 6 (av [1,1,0,1,0] g9) (av [1,1,0,1,1] g9)):=
 iQ Ip [[0]] (@Fc C) (by kernel_rfl) (bf (bs:=[]) (by kernel_rfl) aw) (bf (bs:=[.cond 10 (av [1,1,0,1,1,1,0] g9) (av [1,1,0,1,1,1,1] g9)]) (by kernel_rfl) (bG (aeZ C) aw)) (fun ds=>by kernel_rfl) (fun i β k=>by kernel_rfl) (fun β ds k=>by kernel_rfl)
noncomputable def S8 (C:ag) (ah ar:Int) (ae bH:List V):Option (List V):=
 Fc C ah ((ah:Int)==1) ah ar ae bH (fun (Kz:List V)=>
  some [.list cN Kz])
theorem ae1 {ah ar:Int} {ae bH:List V} {r:Option (List V)} (h:S8 CC ah ar ae bH=r):CC rF [.int .i64 ah,.int .i64 ar,.list aa ae,.list cN bH]=r:=
 ba (key:=75) (L:=S7 CC) (bs:=[.cond 6 (av [1,1,0,1,0] g9) (av [1,1,0,1,1] g9)]) (by kernel_rfl) (bG (ae0 CC) aw) (a8 (by kernel_rfl) h)
noncomputable abbrev xh:Code:=cP Try.prog (az.aZ 91)
noncomputable def AT (C:ag) (separator:List UInt8) (least:Int) (t10:List V) (t11 t12:Int) (t18:Bool) (ahA ahB:Int) (ahC bJ:List V) {β:Type} (kr:(List V)→Option β):Option β:=
 bif t18 then
  (C DB [.str separator,.list cN bJ]).bind fun r2=>
  kr ((V.nth (r2.drop 1) 0).toList)
 else
  kr bJ
noncomputable def AU (C:ag) (separator:List UInt8) (least:Int) (t10:List V) (t11 t12:Int) (eB:List V) {β:Type} (kn:(Int × (List V))→Option β) (kr:(Int × Bool × (List V))→Option β):Option β:=
 bif decide ((t12:Int)<t11) then
  (idx t10 t12).bind fun x1=>
  AT C separator least t10 t11 t12 (decide ((t12:Int)>0)) ((x1.cell 0).toInt) ((x1.cell 1).toInt) ((x1.cell 2).toList) eB (fun (ET:List V)=>
   (C DC [.int .i64 ((x1.cell 0).toInt)]).bind fun r4=>
   bif decide ((((V.nth r4 0).toInt):Int)≥least) then
   (C rF [.int .i64 ((x1.cell 0).toInt),.int .i64 ((x1.cell 1).toInt),.list aa ((x1.cell 2).toList),.list cN ET]).bind fun r5=>
   kn (IntKind.wrap .i64 (t12+1),(V.nth r5 0).toList)
   else
   (C oV [.int .u8 40,.list cN ET]).bind fun r6=>
   (C rF [.int .i64 ((x1.cell 0).toInt),.int .i64 ((x1.cell 1).toInt),.list aa ((x1.cell 2).toList),.list cN ((V.nth r6 0).toList)]).bind fun r7=>
   (C oV [.int .u8 41,.list cN ((V.nth r7 0).toList)]).bind fun r8=>
   kn (IntKind.wrap .i64 (t12+1),(V.nth r8 0).toList))
 else
  kr (t12,decide ((t12:Int)<t11),eB)
noncomputable def AV (C:ag) (separator:List UInt8) (least:Int) (t10:List V) (t11:Int):(Int × (List V))→Option ((Int × (List V)) ⊕ (Int × Bool × (List V))):=un fun t12 eB=>AU C separator least t10 t11 t12 eB (fun y=>some (.inl y)) (fun r=>some (.inr r))
noncomputable def S9 (C:ag):cC:=fun β n ds k=>
 bif Nat.beq n 303 then iz Ir [[1,2,3,4,5,7,8,9,0]] (@AT C) ds k else
 bif Nat.beq n 17 then ch Is [false,false,false,false,true,true] [[1,2,3,4,0,0,0]] (@AU C) ds k else
 none
abbrev Ta (C:ag) (b:cx):Prop:=cy Try.prog az C (S9 C) 91 (cT Try.prog (az.aZ 91)) (az.sin 91).aY.length b
theorem ae2 (C:ag):Ta C (.cond 18 (av [1,0,0,1,1,0,0,1,0,1,0] xh) (av [1,0,0,1,1,0,0,1,0,1,1] xh)):=
 iQ Ir [[1,2,3,4,5,7,8,9,0]] (@AT C) (by kernel_rfl) (bf (bs:=[]) (by kernel_rfl) aw) (bf (bs:=[]) (by kernel_rfl) aw) (fun ds=>by kernel_rfl) (fun i β k=>by kernel_rfl) (fun β ds k=>by kernel_rfl)
theorem ae3 (C:ag):Ta C (.loop (av [1,0,0] xh)):=
 ct Is [false,false,false,false,true,true] [[1,2,3,4,0,0,0]] (@AU C) (by kernel_rfl) (bf (bs:=[.cond 18 (av [1,0,0,1,1,0,0,1,0,1,0] xh) (av [1,0,0,1,1,0,0,1,0,1,1] xh)]) (by kernel_rfl) (bG (ae2 C) aw)) (fun ds=>by kernel_rfl) (fun i x=>by kernel_rfl) (fun i x β k=>by kernel_rfl) (fun β ds k=>by kernel_rfl)
noncomputable def Tb (C:ag) (kids:List V) (separator:List UInt8) (least:Int) (bH:List V):Option (List V):=
 (Loop (AV C separator least kids (kids.length:Int)) (0,bH)).bind (un fun (rL:Int)=>un fun (Jc:Bool) (uw:List V)=>
  some [.list cN uw])
theorem ae4 {kids:List V} {separator:List UInt8} {least:Int} {bH:List V} {r:Option (List V)} (h:Tb CC kids separator least bH=r):CC rH [.list aa kids,.str separator,.int .i64 least,.list cN bH]=r:=
 ba (key:=91) (L:=S9 CC) (bs:=[.loop (av [1,0,0] xh)]) (by kernel_rfl) (bG (ae3 CC) aw) (a8 (by kernel_rfl) h)
noncomputable def Tc (C:ag) (op:Int):Option (List V):=
 bif (op:Int)==4 then
  some [.int .i64 1]
 else
  bif (op:Int)==6 then
  some [.int .i64 2]
  else
  bif (op:Int)==5 then
   some [.int .i64 3]
  else
   bif (op:Int)==8 then
   some [.int .i64 4]
   else
   bif (op:Int)==7 then
    some [.int .i64 5]
   else
    some [.int .i64 6]
theorem ae5 {op:Int} {r:Option (List V)} (h:Tc CC op=r):CC DC [.int .i64 op]=r:=
 ba (key:=104) (L:=cj) (bs:=[]) (by kernel_rfl) aw (a8 (by kernel_rfl) h)
noncomputable def Td (C:ag) (c:Int) (bH:List V):Option (List V):=
 bif Nat.ble ((bH.length+([.int .u8 c]:List V).length)*1) cB then
  some [.list cN (bH++([.int .u8 c]:List V))]
 else none
theorem ae6 {c:Int} {bH:List V} {r:Option (List V)} (h:Td CC c bH=r):CC oV [.int .u8 c,.list cN bH]=r:=
 ba (key:=90) (L:=cj) (bs:=[]) (by kernel_rfl) aw (a8 (by kernel_rfl) h)
noncomputable def Te (C:ag) (s:List UInt8) (bH:List V):Option (List V):=
 bif Nat.ble ((bH.length+(s.map dc).length)*1) cB then
  some [.int .i64 (s.length:Int),.list cN (bH++(s.map dc))]
 else none
theorem ae7 {s:List UInt8} {bH:List V} {r:Option (List V)} (h:Te CC s bH=r):CC DB [.str s,.list cN bH]=r:=
 ba (key:=103) (L:=cj) (bs:=[]) (by kernel_rfl) aw (a8 (by kernel_rfl) h)
noncomputable def Tf (C:ag) (bH:List V):Option (List V):=
 bif Nat.blt 0 bH.length then
  bif decide (0<(bH.length:Int))&&(decide ((bH.length:Int)≤(bH.length:Int))&&(Nat.ble (((bH.length:Int):Int).toNat) qY&&(bH.take (((bH.length:Int):Int).toNat)).all uO)) then
  some [.str (ka (bH.take (((bH.length:Int):Int).toNat)))]
  else none
 else none
theorem ae8 {bH:List V} {r:Option (List V)} (h:Tf CC bH=r):CC Dw [.list cN bH]=r:=
 ba (key:=76) (L:=cj) (bs:=[]) (by kernel_rfl) aw (a8 (by kernel_rfl) h)
end Go.AM
set_option maxRecDepth 100000
namespace Go.AM
open Go.Proofs Ex
theorem ux (c:UInt8) (b:List UInt8) (h:b.length<2^40):CC oV [.int .u8 c.toNat,.list cN (b.map dc)]=some [.list cN ((b++[c]).map dc)]:=by
 refine ae6 ?_
 unfold Td
 simp only[HH]
 rw[ak (by simp[cB];omega)]
 simp[dc]
theorem ae9 (s b:List UInt8) (h:b.length+s.length<2^40):CC DB [.str s,.list cN (b.map dc)]=some [.int .i64 s.length,.list cN ((b++s).map dc)]:=by
 refine ae7 ?_
 unfold Te
 simp only[HH]
 rw[ak (by simp[cB];omega)]
 simp
theorem afa (b:List UInt8):ka (b.map dc)=b:=by
 unfold ka
 rw[List.map_map]
 have:((fun x:V=>UInt8.ofNat x.toInt.toNat) ∘ dc)=id:=by
  funext c
  simp[dc]
 rw[this,List.map_id]
theorem afb (b:List UInt8) (h0:b≠[]) (h:b.length<2^40):CC Dw [.list cN (b.map dc)]=some [.str b]:=by
 refine ae8 ?_
 unfold Tf
 have hp:0<b.length:=by cases b<;>simp at h0⊢
 have h1:Nat.blt 0 (b.map dc).length=true:=by rw[jv];simpa using hp
 have U:(((b.map dc).length:Int)).toNat=(b.map dc).length:=by simp
 have h3:Nat.ble (b.map dc).length qY=true:=Nat.ble_eq_true_of_le (by simp[qY];omega)
 have h4:(b.map dc).all uO=true:=by
  rw[eS]
  intro x hx
  obtain ⟨c,_,rfl⟩:=fP.1 hx
  have:=c.toNat_lt
  simp[uO,dc]
  omega
 rw[h1,U,pr,h3,h4,afa]
 simp[hp]
theorem afc (op:Int):CC DC [.int .i64 op]=some [.int .i64 (fC op)]:=by
 refine ae5 ?_
 unfold Tc fC
 simp only[e7]
 repeat' split
 all_goals rfl
theorem afd {ks:List Ex} (hlen:ks.length≤maxLen) (ih: ∀k∈ks,∀b:List UInt8,b.length+k.text.length<2^40→CC rF (bW k [.list cN (b.map dc)])=some [.list cN ((b++k.text).map dc)]) (sep:List UInt8) (least:Int):
  ∀(aH pre:List Ex) (b:List UInt8),ks=pre++aH→b.length+(texts sep least pre.isEmpty aH).length<2^40→
  ∃i t,Loop (AV CC sep least (ks.map enc) ((ks.map enc).length:Int)) (((pre.length:Nat):Int),b.map dc)=some (i,t,(b++texts sep least pre.isEmpty aH).map dc):=by
 intro aH
 induction aH with
 | nil=>
  intro pre b a9 hb
  subst a9
  refine ⟨((pre.length:Nat):Int),false,bc ?_⟩
  simp only[AV,AU,un,dy,bm,aA,texts]
  rw[ai (by omega)]
  simp
 | cons k aH ga=>
  intro pre b a9 hb
  have bL:pre.length<ks.length:=by rw[a9];simp
  have hm:k∈ks:=by rw[a9];simp
  have:=rK
  have b8:idx (ks.map enc) (pre.length:Int)=some k.enc:=by rw[a9];exact jT _ _ _
  generalize gy:(if pre.isEmpty then [] else sep)=sp
  have ht:texts sep least pre.isEmpty (k::aH)=sp++(ed k.op least k.text++texts sep least false aH):=by simp only[texts,gy]
  rw[ht] at hb⊢
  simp only[ca] at hb
  have et:AV CC sep least (ks.map enc) ((ks.map enc).length:Int) (((pre.length:Nat):Int),b.map dc)=some (.inl ((((pre++[k]).length:Nat):Int),(b++sp++ed k.op least k.text).map dc)):=by
   have h1: ∀{β:Type} (kr:List V→Option β) (o l:Int) (es:List V),AT CC sep least (ks.map enc) ((ks.length:Nat):Int) ((pre.length:Nat):Int) (decide (((pre.length:Nat):Int)>0)) o l es (b.map dc) kr=kr ((b++sp).map dc):=by
    intro β kr o l es
    unfold AT
    cases pre with
    | nil=>
     simp at gy
     subst gy
     simp
    | cons a pre=>
     simp at gy
     subst gy
     rw[ae9 _ _ (by omega)]
     have:(0:Int)<((a::pre).length:Int):=by simp only[List.length_cons];omega
     simp[this]
   simp only[AV,AU,un,bm,aA]
   rw[ak (by omega),b8]
   simp only[Option.bind_some,bw,bx,bz]
   rw[h1,afc]
   simp only[Option.bind_some,V.aV,V.toInt_int,aA]
   unfold ed at hb⊢
   by_cases hl:fC k.op<least
   ·rw[ai (by omega),ak hl]
    rw[ak hl] at hb
    simp only[List.length_cons,ca,List.length_nil] at hb
    rw[show (V.int .u8 40)= .int .u8 (((40:UInt8).toNat:Nat):Int) by rfl,show (V.int .u8 41)= .int .u8 (((41:UInt8).toNat:Nat):Int) by rfl]
    rw[ux _ _ (by simp;omega)]
    simp only[Option.bind_some,V.aV,V.lb]
    rw[ih k hm _ (by simp;omega)]
    simp only[Option.bind_some,V.aV,V.lb]
    rw[ux _ _ (by simp;omega),wrap64 (by omega) (by omega)]
    simp
   ·rw[ak (by omega),ai hl]
    rw[ai hl] at hb
    rw[ih k hm _ (by simp;omega)]
    simp only[Option.bind_some,V.aV,V.lb]
    rw[wrap64 (by omega) (by omega)]
    simp
  rw[bV et]
  have hE:(pre++[k]).isEmpty=false:=by cases pre<;>rfl
  have h3:=ga (pre++[k]) (b++sp++ed k.op least k.text) (by rw[a9];simp)
  rw[hE] at h3
  obtain ⟨i,t,U⟩:=h3 (by simp only[ca];omega)
  refine ⟨i,t,U.trans ?_⟩
  simp
theorem afe {ks:List Ex} (hlen:ks.length≤maxLen) (ih: ∀k∈ks,∀b:List UInt8,b.length+k.text.length<2^40→CC rF (bW k [.list cN (b.map dc)])=some [.list cN ((b++k.text).map dc)]) (sep:List UInt8) (least:Int) (b:List UInt8)
  (hb:b.length+(texts sep least true ks).length<2^40):CC rH [.list aa (ks.map enc),.str sep,.int .i64 least,.list cN (b.map dc)]=some [.list cN ((b++texts sep least true ks).map dc)]:=by
 refine ae4 ?_
 unfold Tb
 obtain ⟨i,t,h⟩:=afd hlen ih sep least ks [] b rfl hb
 simp only[List.length_nil,Int.ofNat_zero,Int.natCast_zero,List.isEmpty_nil] at h
 erw [h]
 rfl
theorem aff {l n:Int} (h:dg 3 l n 6=true):0≤l∧l<6:=by
 simp[dg] at h;omega
theorem Tg {o l n letters:Int} (ho:o<1∨8<o):dg o l n letters=false:=by
 have n1:o≠1:=by omega
 have n2:o≠2:=by omega
 have n3:o≠3:=by omega
 have n7:o≠7:=by omega
 have n8:o≠8:=by omega
 have n9: ¬(4≤o∧o≤6∧2≤n):=by omega
 simp[dg,n1,n2,n3,n7,n8,n9]
theorem afg: ∀e:Ex,e.Ok→e.wf 6=true→∀b:List UInt8,b.length+e.text.length<2^40→CC rF (bW e [.list cN (b.map dc)])=some [.list cN ((b++e.text).map dc)]:=
 ind fun o l ks ih au y7 b hb=>by
  obtain ⟨w1,w2⟩:=gX y7
  have hw:=fun sep least b=>afe au.len (fun k hk=>ih k hk (au.oc k hk) (w2 k hk)) sep least b
  refine ae1 ?_
  unfold S8 Fc Fb E9 E8 E7
  simp only[Ex.op,Ex.cE,Ex.kids]
  rcases zC o with rfl|rfl|rfl|rfl|rfl|rfl|rfl|rfl|ho
  case inr.inr.inr.inr.inr.inr.inr.inr=>rw[Tg ho] at w1;cases w1
  ·simp[text] at hb⊢
   rw[show (V.int .u8 48)= .int .u8 (((48:UInt8).toNat:Nat):Int) by rfl,ux _ _ (by omega)]
   simp
  ·simp[text] at hb⊢
   rw[show (V.int .u8 49)= .int .u8 (((49:UInt8).toNat:Nat):Int) by rfl,ux _ _ (by omega)]
   simp
  ·have hl:=aff w1
   simp[text] at hb⊢
   rw[vC (x:=l) (by omega) (by omega),vC (by omega) (by omega)]
   have:(V.int .u8 (97+l))= .int .u8 (((UInt8.ofNat (97+l).toNat).toNat:Nat):Int):=by
    have:(97+l).toNat<256:=by omega
    simp only[UInt8.toNat_ofNat']
    congr 1
    omega
   rw[this,ux _ _ (by omega)]
   simp
  ·simp[text] at hb⊢
   rw[hw _ _ _ (by omega)]
   simp
  ·simp[text] at hb⊢
   rw[hw _ _ _ (by omega)]
   simp
  ·simp[text] at hb⊢
   rw[hw _ _ _ (by omega)]
   simp
  ·simp[text] at hb⊢
   rw[hw _ _ _ (by omega)]
   simp only[Option.bind_some,V.aV,V.lb]
   rw[show (V.int .u8 42)= .int .u8 (((42:UInt8).toNat:Nat):Int) by rfl,ux _ _ (by simp;omega)]
   simp
  ·simp[text] at hb⊢
   rw[show (V.int .u8 33)= .int .u8 (((33:UInt8).toNat:Nat):Int) by rfl,ux _ _ (by omega)]
   simp only[Option.bind_some,V.aV,V.lb]
   rw[hw _ _ _ (by simp;omega)]
   simp
theorem afh: ∀e:Ex,e.wf 6=true→e.text≠[]:=ind fun o l ks ih h=>by
 obtain ⟨w1,w2⟩:=gX h
 rcases zC o with rfl|rfl|rfl|rfl|rfl|rfl|rfl|rfl|ho
 case inr.inr.inr.inr.inr.inr.inr.inr=>rw[Tg ho] at w1;cases w1
 case inr.inr.inr.inl=>
  intro hh
  match ks,w1,hh with
  | [],w1,_=>simp[dg] at w1
  | [a],w1,_=>simp[dg] at w1
  | a::b::l,_,hh=>simp[text,texts] at hh
 case inr.inr.inr.inr.inr.inl=>
  intro hh
  match ks,w1,hh with
  | [],w1,_=>simp[dg] at w1
  | [a],w1,_=>simp[dg] at w1
  | a::b::l,_,hh=>simp[text,texts] at hh
 case inr.inr.inr.inr.inl=>
  intro hh
  match ks,w1,w2,hh,ih with
  | [],w1,_,_,_=>simp[dg] at w1
  | a::ks,_,w2,hh,ih=>
   have:=ih a (by simp) (w2 a (by simp))
   simp[text,texts,ed] at hh
   split at hh
   ·simp at hh
   ·exact this hh.1
 all_goals simp[text]
theorem afi (e:Ex) (h:e.Ok):CC vQ (bW e [])=some [.str (if e.val 6=0 then e.text else [])]:=by
 refine aeU ?_
 unfold S6
 rw[P6 e h]
 by_cases hv:e.val 6=0
 ·obtain ⟨_,U,h3⟩:=qw hv
  have hl:=SQ e
  have hw:=afg e h h3 [] (by simp;omega)
  simp only[gl,List.nil_append] at hw
  simp only[Option.bind_some,V.aV,V.dQ,hv,qN,pw,cond_false,dj]
  rw[hw]
  simp only[Option.bind_some,V.aV,V.lb]
  rw[afb _ (afh e h3) (by omega)]
  simp
 ·simp[hv]
end Go.AM
set_option maxRecDepth 100000
namespace Go.AM
structure Da where
 L:Nat
 st:Nat
 F:List Bool
 N:List (List Nat)
deriving DecidableEq
namespace Da
def n (d:Da):Nat:=d.F.length
def nx (d:Da) (q x:Nat):Nat:=(d.N.getD q []).getD x 0
def fin (d:Da) (q:Nat):Bool:=d.F.getD q false
def run (d:Da) (q:Nat) (w:List Nat):Nat:=w.foldl d.nx q
def acc (d:Da) (q:Nat) (w:List Nat):Bool:=d.fin (d.run q w)
structure Ok (d:Da):Prop where
 l1:1≤d.L
 l6:d.L≤6
 nN:d.N.length=d.n
 row: ∀r∈d.N,r.length=d.L∧∀q∈r,q<d.n
 s:d.st<d.n
 cA:d.n≤512
end Da
def WL (L:Nat) (w:List Nat):Prop:= ∀x∈w,x<L
theorem WL.nil {L:Nat}:WL L []:=fun _ h=>by cases h
theorem WL.cons {L x:Nat} {w:List Nat} (h:x<L) (hw:WL L w):WL L (x::w):=fun y hy=>by
 rcases c8.1 hy with rfl|hy
 ·exact h
 ·exact hw y hy
theorem WL.tail {L x:Nat} {w:List Nat} (h:WL L (x::w)):WL L w:=fun y hy=>h y (by simp[hy])
theorem WL.app {L:Nat} {v w:List Nat}:WL L (v++w)↔WL L v∧WL L w:=by
 unfold WL
 simp only[ee]
 exact ⟨fun h=>⟨fun x hx=>h x (.inl hx),fun x hx=>h x (.inr hx)⟩,fun h x hx=>hx.elim (h.1 x) (h.2 x)⟩
namespace Da
def Fe (d:Da) (q:Nat) (d':Da) (q':Nat):Prop:= ∀w,WL d.L w→d.acc q w=d'.acc q' w
theorem Fe.nx {d d':Da} {q q' x:Nat} (h:d.Fe q d' q') (hx:x<d.L):d.Fe (d.nx q x) d' (d'.nx q' x):=fun w hw=>h (x::w) (hw.cons hx)
def pos (d:Da) (t:Nat):Nat:=d.nx (t/d.L) (t %d.L)
def mt (d:Da):Nat→Nat
 | 0=>1
 | t+1=>if d.pos t=d.mt t then d.mt t+1 else d.mt t
structure Num (d:Da):Prop where
 le: ∀t,t<d.n*d.L→d.pos t≤d.mt t
 row: ∀q,q<d.n→q<d.mt (q*d.L)
 all:d.mt (d.n*d.L)=d.n
structure Canon (d:Da) (L:Nat) (K:List Nat→Bool):Prop where
 ok:d.Ok
 hL:d.L=L
 st:d.st=0
 num:d.Num
 red: ∀p q,p<d.n→q<d.n→d.Fe p d q→p=q
 Th: ∀w,WL L w→d.acc 0 w=K w
end Da
section
variable {α:Type} [DecidableEq α]
def afj (S:List α) (a:α):List α:=if a∈S then S else S++[a]
def Ti (next:α→Nat→α) (S:List α) (a:α):Nat→List α
 | 0=>S
 | x+1=>afj (Ti next S a x) (next a x)
def AW (L:Nat) (next:α→Nat→α) (a0:α):Nat→List α
 | 0=>[a0]
 | i+1=>match (AW L next a0 i)[i]? with
  | some a=>Ti next (AW L next a0 i) a L
  | none=>AW L next a0 i
variable {L:Nat} {next:α→Nat→α} {a0:α}
section
variable {k:Nat} (hd:(AW L next a0 k).length≤k)
include hd
end
section
variable {k:Nat} (hd:(AW L next a0 k).length≤k) {fin:α→Bool}
include hd
end
end
namespace Da
end Da
end Go.AM
set_option maxRecDepth 100000
namespace Go.AM
open Go.Proofs
section
variable {α:Type} (ke:α→V)
def lp (i:Nat):List α→List V
 | []=>[]
 | a::S=> .aW [ke a,iV (i:Int)]::lp (i+1) S
where iV (n:Int):V:= .int .i64 n
end
section
variable {α:Type} [DecidableEq α] {ke:α→V}
variable (hk: ∀a b,ly (ke a) (ke b)=decide (a=b))
include hk
theorem Tj (x:α): ∀(S:List α) (i:Nat),kN (ke x) (lp ke i S)=decide (x∈S)
 | [],_=>by simp[lp,kN]
 | a::S,i=>by
  have c: ∀(p q:V),(V.aW [p,q]).comp 0=p:=fun p q=>rfl
  rw[lp,kN,c,hk,Tj x S (i+1)]
  rw[nw]
  simp
theorem Tk (x:α) (z:V): ∀(S:List α) (i:Nat),x∈S→lz (ke x) (lp ke i S) z= .int .i64 ((i+S.idxOf x:Nat):Int)
 | [],_,h=>by cases h
 | a::S,i,h=>by
  have c: ∀(p q:V),(V.aW [p,q]).comp 0=p:=fun p q=>rfl
  have c1: ∀(p q:V),(V.aW [p,q]).comp 1=q:=fun p q=>rfl
  rw[lp,lz,c,c1,hk]
  by_cases e:x=a
  ·subst e
   rw[eo rfl]
   simp[lp.iV]
  ·rw[cS e,cond_false,Tk x z S (i+1) ((c8.1 h).resolve_left e),show (a::S).idxOf x=S.idxOf x+1 from by rw[xD,show (a==x)=false from xt.2 fun h=>e h.symm];rfl]
   congr 2
   omega
theorem Tl (x:α): ∀(S:List α) (i:Nat),x∉S→hU (ke x) (.int .i64 ((i+S.length:Nat):Int)) (lp ke i S)=lp ke i (S++[x])
 | [],i,_=>by simp[lp,hU,lp.iV]
 | a::S,i,h=>by
  have c: ∀(p q:V),(V.aW [p,q]).comp 0=p:=fun p q=>rfl
  have e:x≠a:=fun e=>h (by simp[e])
  rw[lp,hU,c,hk,cS e,cond_false,List.cons_append,lp]
  congr 1
  have:=Tl x S (i+1) fun hx=>h (by simp[hx])
  rw[←this]
  simp only[List.length_cons]
  congr 3
  omega
end
noncomputable def Tm (C:ag) (ah ar:Int) (ae:List V) (cX di:Int) (bH eB bJ:List V):Option (List V):=
 (C vQ [.int .i64 ah,.int .i64 ar,.list aa ae]).bind fun r1=>
 bif Nat.ble (((V.nth r1 0).toStr).length) maxLen&&true then
  bif Nat.ble ((bH.length+([.agg [.int .i64 0,.int .i64 0,.list aa ([]:List V)]]:List V).length)*40) cB then
  bif (decide (0≤(bH.length:Int)))&&(decide ((bH.length:Int)<((bH++([.agg [.int .i64 0,.int .i64 0,.list aa ([]:List V)]]:List V)).length:Int))) then
   ((bH++([.agg [.int .i64 0,.int .i64 0,.list aa ([]:List V)]]:List V))[((bH.length:Int):Int).toNat]?).bind fun x2=>
   some [.int .i64 (bH.length:Int),.int .i64 cX,.int .i64 di,.list dI (hU (.str ((V.nth r1 0).toStr)) (.int .i64 (bH.length:Int)) bJ),.list aa ((bH++([.agg [.int .i64 0,.int .i64 0,.list aa ([]:List V)]]:List V)).set (((bH.length:Int):Int).toNat) (.agg [.int .i64 ah,.int .i64 ar,.list aa ae])),.list cz eB]
  else none
  else none
 else none
theorem afk {ah ar:Int} {ae:List V} {cX di:Int} {bH eB bJ:List V} {r:Option (List V)} (h:Tm CC ah ar ae cX di bH eB bJ=r):CC ze [.int .i64 ah,.int .i64 ar,.list aa ae,.int .i64 cX,.int .i64 di,.list aa bH,.list cz eB,.list dI bJ]=r:=
 ba (key:=57) (L:=cj) (bs:=[]) (by kernel_rfl) aw (a8 (by kernel_rfl) h)
noncomputable def Tn (C:ag) (ah ar:Int) (ae:List V) (letters:Int):Option (List V):=
 (C ze [.int .i64 ah,.int .i64 ar,.list aa ae,.int .i64 letters,.int .i64 0,.list aa ([]:List V),.list cz ([]:List V),.list dI ([]:List V)]).bind fun r1=>
 some [.int .i64 ((V.nth (r1.drop 1) 0).toInt),.int .i64 ((V.nth ((r1.drop 1).drop 1) 0).toInt),.list aa ((V.nth (((r1.drop 1).drop 2).drop 1) 0).toList),.list cz ((V.nth ((((r1.drop 1).drop 2).drop 1).drop 1) 0).toList),.list dI ((V.nth ((r1.drop 1).drop 2) 0).toList)]
theorem afl {ah ar:Int} {ae:List V} {letters:Int} {r:Option (List V)} (h:Tn CC ah ar ae letters=r):CC Dp [.int .i64 ah,.int .i64 ar,.list aa ae,.int .i64 letters]=r:=
 ba (key:=40) (L:=cj) (bs:=[]) (by kernel_rfl) aw (a8 (by kernel_rfl) h)
noncomputable def To (C:ag) (cX di:Int) (bH eB bJ:List V):Option (List V):=
 some [.bool ((di:Int)==(bH.length:Int)),.int .i64 cX,.int .i64 di,.list dI bJ,.list aa bH,.list cz eB]
theorem afm {cX di:Int} {bH eB bJ:List V} {r:Option (List V)} (h:To CC cX di bH eB bJ=r):CC Dr [.int .i64 cX,.int .i64 di,.list aa bH,.list cz eB,.list dI bJ]=r:=
 ba (key:=42) (L:=cj) (bs:=[]) (by kernel_rfl) aw (a8 (by kernel_rfl) h)
noncomputable abbrev Tp:Code:=cP Try.prog (az.aZ 43)
noncomputable def sh (C:ag) (t16 t17 cX di:Int) (bJ rows fB jY:List V) {β:Type} (kn:(Int × Int × Int × (List V) × (List V) × (List V) × (List V))→Option β) (kr:((Int × Int × Int × (List V) × (List V) × (List V)) ⊕ (Int × Bool × Int × Int × (List V) × (List V) × (List V) × (List V)))→Option β):Option β:=
 bif decide ((t17:Int)<t16) then
  bif (decide (0≤di))&&(decide (di<(fB.length:Int))) then
  (fB[(di:Int).toNat]?).bind fun x1=>
  (C Dt [.int .i64 ((x1.cell 0).toInt),.int .i64 ((x1.cell 1).toInt),.list aa ((x1.cell 2).toList),.int .i64 t17]).bind fun r2=>
  bif (((V.nth (r2.drop 3) 0).toInt):Int) != 0 then
   kr (.inl ((V.nth (r2.drop 3) 0).toInt,cX,di,bJ,fB,jY))
  else
   (C vQ [.int .i64 ((V.nth r2 0).toInt),.int .i64 ((V.nth (r2.drop 1) 0).toInt),.list aa ((V.nth ((r2.drop 1).drop 1) 0).toList)]).bind fun r3=>
   bif Nat.ble (((V.nth r3 0).toStr).length) maxLen&&true then
   bif !(kN (.str ((V.nth r3 0).toStr)) bJ) then
    bif ((fB.length:Int):Int)==512 then
    kr (.inl (3,cX,di,bJ,fB,jY))
    else
    (C ze [.int .i64 ((V.nth r2 0).toInt),.int .i64 ((V.nth (r2.drop 1) 0).toInt),.list aa ((V.nth ((r2.drop 1).drop 1) 0).toList),.int .i64 cX,.int .i64 di,.list aa fB,.list cz jY,.list dI bJ]).bind fun r4=>
    bif (decide (0≤t17))&&(decide (t17<(rows.length:Int))) then
     (rows[(t17:Int).toNat]?).bind fun x5=>
     kn (IntKind.wrap .i64 (t17+1),(V.nth (r4.drop 1) 0).toInt,(V.nth ((r4.drop 1).drop 1) 0).toInt,(V.nth ((r4.drop 1).drop 2) 0).toList,rows.set ((t17:Int).toNat) (.int .i64 ((V.nth r4 0).toInt)),(V.nth (((r4.drop 1).drop 2).drop 1) 0).toList,(V.nth ((((r4.drop 1).drop 2).drop 1).drop 1) 0).toList)
    else none
   else
    bif (decide (0≤t17))&&(decide (t17<(rows.length:Int))) then
    (rows[(t17:Int).toNat]?).bind fun x6=>
    kn (IntKind.wrap .i64 (t17+1),cX,di,bJ,rows.set ((t17:Int).toNat) (.int .i64 ((lz (.str ((V.nth r3 0).toStr)) bJ (.int .i64 0)).toInt)),fB,jY)
    else none
   else none
  else none
 else
  kr (.inr (t17,decide ((t17:Int)<t16),cX,di,bJ,rows,fB,jY))
noncomputable def oq (C:ag) (t16:Int):(Int × Int × Int × (List V) × (List V) × (List V) × (List V))→Option ((Int × Int × Int × (List V) × (List V) × (List V) × (List V)) ⊕ ((Int × Int × Int × (List V) × (List V) × (List V)) ⊕ (Int × Bool × Int × Int × (List V) × (List V) × (List V) × (List V)))):=un fun t17=>un fun cX=>un fun di=>un fun bJ=>un fun rows=>un fun fB jY=>sh C t16 t17 cX di bJ rows fB jY (fun y=>some (.inl y)) (fun r=>some (.inr r))
noncomputable def Tq (C:ag):cC:=fun β n ds k=>
 bif Nat.beq n 49 then ch H8 [false,true,true,true,true,true,true,true] [[0,0,0,0,0,0],[1,0,0,0,0,0,0,0,0]] (@sh C) ds k else
 none
abbrev afn (C:ag) (b:cx):Prop:=cy Try.prog az C (Tq C) 43 (cT Try.prog (az.aZ 43)) (az.sin 43).aY.length b
theorem afo (C:ag):afn C (.loop (av [1,1,0,1,0,0] Tp)):=
 ct H8 [false,true,true,true,true,true,true,true] [[0,0,0,0,0,0],[1,0,0,0,0,0,0,0,0]] (@sh C) (by kernel_rfl) (bf (bs:=[]) (by kernel_rfl) aw) (fun ds=>by kernel_rfl) (fun i x=>by kernel_rfl) (fun i x β k=>by kernel_rfl) (fun β ds k=>by kernel_rfl)
noncomputable def Tr (C:ag) (cX di:Int) (bH eB bJ:List V):Option (List V):=
 bif (decide (0≤cX))&&((decide (cX≤cX))&&(Nat.ble (((cX:Int).toNat)*8) cB)) then
  (Loop (oq C ((List.replicate ((cX:Int).toNat) (V.int .i64 0)).length:Int)) (0,cX,di,bJ,List.replicate ((cX:Int).toNat) (V.int .i64 0),bH,eB)).bind (b9 (un fun (od:Int)=>un fun (KA:Int)=>un fun (AX:Int)=>un fun (AY:List V)=>un fun (uw:List V) (AR:List V)=>
   some [.int .i64 od,.int .i64 KA,.int .i64 AX,.list dI AY,.list aa uw,.list cz AR]) (un fun (Pc:Int)=>un fun (zA:Bool)=>un fun (KC:Int)=>un fun (KD:Int)=>un fun (KE:List V)=>un fun (AZ:List V)=>un fun (KF:List V) (A0:List V)=>
   bif Nat.ble ((A0.length+([.list lT AZ]:List V).length)*24) cB then
   some [.int .i64 0,.int .i64 KC,.int .i64 (IntKind.wrap .i64 (KD+1)),.list dI KE,.list aa KF,.list cz (A0++([.list lT AZ]:List V))]
   else none))
 else none
theorem afp {cX di:Int} {bH eB bJ:List V} {r:Option (List V)} (h:Tr CC cX di bH eB bJ=r):CC vO [.int .i64 cX,.int .i64 di,.list aa bH,.list cz eB,.list dI bJ]=r:=
 ba (key:=43) (L:=Tq CC) (bs:=[.loop (av [1,1,0,1,0,0] Tp)]) (by kernel_rfl) (bG (afo CC) aw) (a8 (by kernel_rfl) h)
end Go.AM
set_option maxRecDepth 100000
namespace Go.AM
open Go.Proofs Ex
def j6 (r:List Int):V:= .list lT (r.map fun n=> .int .i64 n)
def eR (es:List Ex):List V:=lp V.str 0 (es.map Ex.text)
theorem KG (a b:List UInt8):ly (.str a) (.str b)=decide (a=b):=by
 simp only[ly,V.cells,sy,uI,Bool.and_true]
 rw[nw]
 simp
theorem KH {es:List Ex} (h: ∀e∈es,Nv e) {d:Ex} (hd:Nv d):d.text∈es.map Ex.text↔d∈es:=by
 rw[fP]
 constructor
 ·rintro ⟨a,ha,he⟩
  rw[←S5 (h a ha).1.2 hd.1.2 he];exact ha
 ·exact fun hx=>⟨d,hx,rfl⟩
theorem Ts {α β:Type} [DecidableEq α] [DecidableEq β] {f:α→β} {d:α}: ∀{es:List α},(∀e∈es,f e=f d→e=d)→(es.map f).idxOf (f d)=es.idxOf d
 | [],_=>rfl
 | e::es,h=>by
  rw[cG,xD,xD,Ts fun x hx=>h x (by simp[hx])]
  have:(f e==f d)=(e==d):=by
   rw[nw,sn,sn]
   exact ⟨h e (by simp),fun h=>by rw[h]⟩
  rw[this]
theorem Ff {e:Ex} (h:e.val 6=0):(Nat.ble e.text.length maxLen&&true)=true:=by
 have a:=SQ e
 have b:=qw h
 rw[Bool.and_true,dK]
 unfold maxLen
 omega
theorem Fg {e:Ex} (h:Nv e):CC vQ (bW e [])=some [.str e.text]:=by
 rw[afi e (afq h),ak h.2]
where afq {e:Ex} (h:Nv e):e.Ok:=tR (by omega) e h.1.2 (by have:=qw h.2;omega)
def xi (s:Dv):List V:=[.int .i64 s.L,.int .i64 s.dn,.list aa (s.es.map enc),.list cz (s.nx.map j6),.list dI (eR s.es)]
def KI (s:Dv):List V:=[.int .i64 s.L,.int .i64 s.dn,.list dI (eR s.es),.list aa (s.es.map enc),.list cz (s.nx.map j6)]
theorem afr {es:List Ex} (h: ∀e∈es,Nv e) {d:Ex} (hd:Nv d) (hn:d∉es):hU (.str d.text) (.int .i64 (es.length:Int)) (eR es)=eR (es++[d]):=by
 have:=Tl (ke:=V.str) KG d.text (es.map Ex.text) 0 fun hx=>hn ((KH h hd).1 hx)
 rw[bm,gj] at this
 unfold eR
 rw[this,fQ]
 rfl
theorem afs {α:Type} (a:List α) (x y:α):(a++[x]).set a.length y=a++[y]:=by
 simp[List.set_append_right]
theorem Tt {L dn:Int} {es:List Ex} {d:Ex} {nx:List V} (h: ∀e∈es,Nv e) (hd:Nv d) (hn:d∉es) (hl:es.length≤1000):
  CC ze (bW d [.int .i64 L,.int .i64 dn,.list aa (es.map enc),.list cz nx,.list dI (eR es)])=some [.int .i64 (es.length:Int),.int .i64 L,.int .i64 dn,.list dI (eR (es++[d])),.list aa ((es++[d]).map enc),.list cz nx]:=by
 refine afk ?_
 unfold Tm
 refine bs (Fg hd) ?_
 refine bT (Ff hd.2) ?_
 refine bT (J8 (by simp;omega)) ?_
 refine (r0 (i:=(es.map enc).length) (v:= .agg [.int .i64 0,.int .i64 0,.list aa ([]:List V)]) (by simp)).trans ?_
 rw[Int.toNat_natCast,afs]
 have h1:=afr h hd hn
 rw[bm]
 show some [V.int .i64 (es.length:Int),.int .i64 L,.int .i64 dn,.list dI (hU (.str d.text) (.int .i64 (es.length:Int)) (eR es)),.list aa (es.map enc++[.agg [.int .i64 d.op,.int .i64 d.cE,.list aa (d.kids.map enc)]]),.list cz nx]=_
 rw[h1,RX,fQ]
 rfl
theorem aft {e:Ex} {L:Int} (h:Nv e):CC Dp (bW e [.int .i64 L])=some (xi ⟨L,[e],[],0⟩):=by
 refine afl ?_
 unfold Tn
 refine bs (Tt (L:=L) (dn:=0) (es:=[]) (d:=e) (nx:=[]) (by simp) h (by simp) (by simp)) ?_
 rfl
theorem KJ (s:Dv):CC Dr (xi s)=some (.bool (s.dn==s.es.length)::KI s):=by
 refine afm ?_
 unfold To
 rw[bm]
 rfl
theorem KK {L dn:Int} {e:Ex} {k:Nat} {nx:List V} (hk:dn=(k:Int)) (he:Nv e): ∀(n x:Nat) (es:List Ex) (row:List Int),L=((x+n:Nat):Int)→x+n≤10→Es es→k<es.length→es.getD k aT=e→row.length=x→
  (∀p,jZ e n x es row=some p→Loop (oq CC L) (((x:Nat):Int),L,dn,eR es,(row.map fun n=>V.int .i64 n)++List.replicate n (.int .i64 0),es.map enc,nx)=some (.inr (L,false,L,dn,eR p.1,(p.2.map fun n=>V.int .i64 n),p.1.map enc,nx)))
  ∧(jZ e n x es row=none→∃y,Loop (oq CC L) (((x:Nat):Int),L,dn,eR es,(row.map fun n=>V.int .i64 n)++List.replicate n (.int .i64 0),es.map enc,nx)=some (.inl (3,y)))
 | 0,x,es,row,hL,hx,kq,gT,s9,hr=>by
  refine ⟨fun p hp=> ?_,fun hp=>by simp[jZ] at hp⟩
  cases hp
  refine bc ?_
  simp only[oq,sh,un]
  rw[aA,ai (by omega),cS (by omega),show L=((x:Nat):Int) by omega]
  simp
 | n+1,x,es,row,hL,hx,kq,gT,s9,hr=>by
  subst hk
  have aL:decide ((x:Int)<L)=true:=eo (by omega)
  have b8:(es.map enc)[k]? =some e.enc:=by
   rw[eT,bq gT,←s9,eU,bq gT];rfl
  have hb:=aeq he (x:Int)
  have afu:xg (aO (bP x e))=match nn e x with|some d=>(d,0)|none=>(aT,3):=by
   unfold xg nn;split<;>rfl
  rw[afu] at hb
  have Fh:x=(row.map fun n=>V.int .i64 n).length:=by simp[hr]
  rw[jZ]
  cases bS:nn e x with
  | none=>
   rw[bS] at hb
   refine ⟨fun p hp=>(by cases hp),fun _=>⟨(L,(k:Int),eR es,es.map enc,nx),bc ?_⟩⟩
   ·simp only[oq,sh,un]
    refine bT aL ((r0 b8).trans ?_)
    rw[bw,bx,bz]
    refine bs hb ?_
    exact bT rfl rfl
  | some d=>
   rw[bS] at hb
   have hd:=(Kj he bS).1
   have KL:kN (.str d.text) (eR es)=decide (d∈es):=by
    unfold eR
    rw[Tj KG,xA]
    exact KH kq.nv hd
   simp only[Option.bind_some]
   by_cases hm:d∈es
   ·rw[ak hm]
    have U0:es.idxOf d<es.length:=List.idxOf_lt_length_iff.2 hm
    obtain ⟨i1,i2⟩:=KK (L:=L) (e:=e) (k:=k) (nx:=nx) rfl he n (x+1) es (row++[(es.idxOf d:Int)]) (by omega) (by omega) kq gT s9 (by simp[hr])
    have et:oq CC L (((x:Nat):Int),L,(k:Int),eR es,(row.map fun n=>V.int .i64 n)++List.replicate (n+1) (.int .i64 0),es.map enc,nx)=some (.inl (((x+1:Nat):Int),L,(k:Int),eR es,((row++[(es.idxOf d:Int)]).map fun n=>V.int .i64 n)++List.replicate n (.int .i64 0),es.map enc,nx)):=by
     simp only[oq,sh,un]
     refine bT aL ((r0 b8).trans ?_)
     rw[bw,bx,bz]
     refine bs hb (bF rfl (bs (Fg hd) (bT (Ff hd.2) ?_)))
     refine bF (by rw[V.aV,V.Dd,KL,eo hm];rfl) ?_
     refine (sb Fh).trans ?_
     rw[Int.toNat_natCast,sc Fh,me (by omega),V.aV,V.Dd]
     have hg:lz (.str d.text) (eR es) (.int .i64 0)= .int .i64 (es.idxOf d:Int):=by
      unfold eR
      rw[Tk KG _ _ _ _ ((KH kq.nv hd).2 hm),Ts fun x hx=>S5 (kq.nv x hx).1.2 hd.1.2,gj]
     rw[hg,V.toInt_int,fQ]
     rfl
    exact ⟨fun p hp=>(bV et).trans (i1 p hp),fun hp=>by obtain ⟨y,hy⟩:=i2 hp;exact ⟨y,(bV et).trans hy⟩⟩
   ·rw[ai hm]
    by_cases Fi:es.length=512
    ·rw[ak Fi]
     refine ⟨fun p hp=>(by cases hp),fun _=>⟨(L,(k:Int),eR es,es.map enc,nx),bc ?_⟩⟩
     ·simp only[oq,sh,un]
      refine bT aL ((r0 b8).trans ?_)
      rw[bw,bx,bz]
      refine bs hb (bF rfl (bs (Fg hd) (bT (Ff hd.2) ?_)))
      refine bT (by rw[V.aV,V.Dd,KL,cS hm];rfl) ?_
      exact bT (by rw[bm,Fi];rfl) rfl
    ·rw[ai Fi]
     have hl:=kq.le
     obtain ⟨i1,i2⟩:=KK (L:=L) (e:=e) (k:=k) (nx:=nx) rfl he n (x+1) (es++[d]) (row++[(es.length:Int)]) (by omega) (by omega) (kq.snoc hd hm Fi) (by simp;omega) (by rw[EZ gT,s9]) (by simp[hr])
     have et:oq CC L (((x:Nat):Int),L,(k:Int),eR es,(row.map fun n=>V.int .i64 n)++List.replicate (n+1) (.int .i64 0),es.map enc,nx)=some (.inl (((x+1:Nat):Int),L,(k:Int),eR (es++[d]),((row++[(es.length:Int)]).map fun n=>V.int .i64 n)++List.replicate n (.int .i64 0),(es++[d]).map enc,nx)):=by
      simp only[oq,sh,un]
      refine bT aL ((r0 b8).trans ?_)
      rw[bw,bx,bz]
      refine bs hb (bF rfl (bs (Fg hd) (bT (Ff hd.2) ?_)))
      refine bT (by rw[V.aV,V.Dd,KL,cS hm];rfl) ?_
      refine bF (by rw[bm,xt];omega) ?_
      refine bs (Tt kq.nv hd hm (by omega)) ?_
      refine (sb Fh).trans ?_
      rw[Int.toNat_natCast,sc Fh,me (by omega),fQ (l₁:=row)]
      rfl
     exact ⟨fun p hp=>(bV et).trans (i1 p hp),fun hp=>by obtain ⟨y,hy⟩:=i2 hp;exact ⟨y,(bV et).trans hy⟩⟩
theorem afv {s:Dv} (hs:Gs s) (hd:s.dn<s.es.length):
  (∀t,proc s=some t→CC vO (xi s)=some (.int .i64 0::KI t))∧(proc s=none→∃l,CC vO (xi s)=some (.int .i64 3::l)):=by
 have Km:=hs.dn
 have hL:=hs.L
 have hq:s.dn.toNat<s.es.length:=by omega
 have jJ:=hs.nl
 have hle:=hs.es.le
 have hN:((s.L.toNat:Nat):Int)=s.L:=by omega
 obtain ⟨l1,l2⟩:=KK (L:=s.L) (dn:=s.dn) (e:=s.es.getD s.dn.toNat aT) (k:=s.dn.toNat) (nx:=s.nx.map j6) (by omega) (hs.es.nv _ (E0 hq)) s.L.toNat 0 s.es [] (by omega) (by omega) hs.es hq rfl rfl
 have hf: ∀{r:Option (List V)},((Loop (oq CC s.L) (((0:Nat):Int),s.L,s.dn,eR s.es,List.replicate s.L.toNat (V.int .i64 0),s.es.map enc,s.nx.map j6)).bind (b9 (un fun (od:Int)=>un fun (KA:Int)=>un fun (AX:Int)=>un fun (AY:List V)=>un fun (uw:List V) (AR:List V)=>some [V.int .i64 od,.int .i64 KA,.int .i64 AX,.list dI AY,.list aa uw,.list cz AR]) (un fun (Pc:Int)=>un fun (zA:Bool)=>un fun (KC:Int)=>un fun (KD:Int)=>un fun (KE:List V)=>un fun (AZ:List V)=>un fun (KF:List V) (A0:List V)=>bif Nat.ble ((A0.length+([.list lT AZ]:List V).length)*24) cB then some [.int .i64 0,.int .i64 KC,.int .i64 (IntKind.wrap .i64 (KD+1)),.list dI KE,.list aa KF,.list cz (A0++([.list lT AZ]:List V))] else none)))=r→CC vO (xi s)=r:=fun h=>by
  refine afp ?_
  unfold Tr
  refine bT ?_ ?_
  ·refine uB.2 ⟨eo (by omega),uB.2 ⟨eo (by omega),?_⟩⟩
   rw[dK,qs];omega
  ·rw[sm,hN]
   exact h
 refine ⟨fun t ht=>hf ?_,fun ht=> ?_⟩
 ·obtain ⟨p,hp,rfl⟩:=E1 ht
  refine bs (l1 p hp) ?_
  simp only[b9,un]
  refine bT (by rw[dK,qs];simp;omega) ?_
  rw[wrap64 (by omega) (by omega)]
  unfold KI
  simp only[fQ]
  rfl
 ·have hr:jZ (s.es.getD s.dn.toNat aT) s.L.toNat 0 s.es []=none:=by
   unfold proc at ht
   rwa [Option.map_eq_none_iff] at ht
  obtain ⟨y,hy⟩:=l2 hr
  exact ⟨_,hf (bs hy rfl)⟩
end Go.AM
set_option maxRecDepth 100000
namespace Go.AM
open Go.Proofs
noncomputable abbrev Tu:Code:=cP Try.prog (az.aZ 44)
noncomputable def A1 (C:ag) (t22 Tv Tw:Int) (bJ:List V) (Av Aw gh gE:Int) (Fj ES Tx Tz:List V) (t23:Int) (A3:List V) {β:Type} (kn:(Int × (List V))→Option β) (kr:(Int × Bool × (List V))→Option β):Option β:=
 bif decide ((t23:Int)<t22) then
  bif (decide (0≤t23))&&(decide (t23<(Fj.length:Int))) then
  (Fj[(t23:Int).toNat]?).bind fun x1=>
  (C jQ [.int .i64 ((x1.cell 0).toInt),.int .i64 ((x1.cell 1).toInt),.list aa ((x1.cell 2).toList)]).bind fun r2=>
  bif Nat.ble ((A3.length+([.bool ((V.nth r2 0).toBool)]:List V).length)*1) cB then
   kn (IntKind.wrap .i64 (t23+1),A3++([.bool ((V.nth r2 0).toBool)]:List V))
  else none
  else none
 else
  kr (t23,decide ((t23:Int)<t22),A3)
noncomputable def Fk (C:ag) (t22 Tv Tw:Int) (bJ:List V) (Av Aw gh gE:Int) (Fj ES Tx Tz:List V):(Int × (List V))→Option ((Int × (List V)) ⊕ (Int × Bool × (List V))):=un fun t23 A3=>A1 C t22 Tv Tw bJ Av Aw gh gE Fj ES Tx Tz t23 A3 (fun y=>some (.inl y)) (fun r=>some (.inr r))
noncomputable def TA (C:ag):cC:=fun β n ds k=>
 bif Nat.beq n 49 then ch H9 [false,true,false,false,false,false,false,false,false,false,false,false,false,true] [[1,0,0,3,4,5,6,7,8,9,10,11,12,13,0]] (@A1 C) ds k else
 none
abbrev afw (C:ag) (b:cx):Prop:=cy Try.prog az C (TA C) 44 (cT Try.prog (az.aZ 44)) (az.sin 44).aY.length b
theorem afx (C:ag):afw C (.loop (av [1,1,0,1,0,0] Tu)):=
 ct H9 [false,true,false,false,false,false,false,false,false,false,false,false,false,true] [[1,0,0,3,4,5,6,7,8,9,10,11,12,13,0]] (@A1 C) (by kernel_rfl) (bf (bs:=[]) (by kernel_rfl) aw) (fun ds=>by kernel_rfl) (fun i x=>by kernel_rfl) (fun i x β k=>by kernel_rfl) (fun β ds k=>by kernel_rfl)
noncomputable def TB (C:ag) (cX di:Int) (bH eB bJ:List V):Option (List V):=
 (Loop (Fk C (bH.length:Int) cX di bJ 0 0 cX 0 bH eB ([]:List V) ([]:List V)) (0,([]:List V))).bind (un fun (jS:Int)=>un fun (lX:Bool) (b_5:List V)=>
  some [.int .i64 cX,.int .i64 0,.int .i64 cX,.int .i64 di,.list dI bJ,.list fq b_5,.list cz eB,.list aa bH])
theorem afy {cX di:Int} {bH eB bJ:List V} {r:Option (List V)} (h:TB CC cX di bH eB bJ=r):CC Ds [.int .i64 cX,.int .i64 di,.list aa bH,.list cz eB,.list dI bJ]=r:=
 ba (key:=44) (L:=TA CC) (bs:=[.loop (av [1,1,0,1,0,0] Tu)]) (by kernel_rfl) (bG (afx CC) aw) (a8 (by kernel_rfl) h)
noncomputable abbrev TC:Code:=cP Try.prog (az.aZ 14)
noncomputable def xj (C:ag) (nj nk:Int) (eB bJ:List V) (cX di:Int) (pg fB jY:List V) {β:Type} (kn:(Int × Int × (List V) × (List V) × (List V))→Option β) (kr:((Int × Int × Int × (List V) × (List V)) ⊕ (Bool × Int × Int × (List V) × (List V) × (List V)))→Option β):Option β:=
 (C Dr [.int .i64 cX,.int .i64 di,.list aa pg,.list cz fB,.list dI jY]).bind fun r4=>
 bif !((V.nth r4 0).toBool) then
  (C vO [.int .i64 ((V.nth (r4.drop 1) 0).toInt),.int .i64 ((V.nth ((r4.drop 1).drop 1) 0).toInt),.list aa ((V.nth (((r4.drop 1).drop 2).drop 1) 0).toList),.list cz ((V.nth ((((r4.drop 1).drop 2).drop 1).drop 1) 0).toList),.list dI ((V.nth ((r4.drop 1).drop 2) 0).toList)]).bind fun r5=>
  bif (((V.nth r5 0).toInt):Int) != 0 then
  kr (.inl ((V.nth r5 0).toInt,0,0,([]:List V),([]:List V)))
  else
  kn ((V.nth (r5.drop 1) 0).toInt,(V.nth ((r5.drop 1).drop 1) 0).toInt,(V.nth (((r5.drop 1).drop 2).drop 1) 0).toList,(V.nth ((((r5.drop 1).drop 2).drop 1).drop 1) 0).toList,(V.nth ((r5.drop 1).drop 2) 0).toList)
 else
  kr (.inr (!((V.nth r4 0).toBool),(V.nth (r4.drop 1) 0).toInt,(V.nth ((r4.drop 1).drop 1) 0).toInt,(V.nth (((r4.drop 1).drop 2).drop 1) 0).toList,(V.nth ((((r4.drop 1).drop 2).drop 1).drop 1) 0).toList,(V.nth ((r4.drop 1).drop 2) 0).toList))
noncomputable def uy (C:ag) (nj nk:Int) (eB bJ:List V):(Int × Int × (List V) × (List V) × (List V))→Option ((Int × Int × (List V) × (List V) × (List V)) ⊕ ((Int × Int × Int × (List V) × (List V)) ⊕ (Bool × Int × Int × (List V) × (List V) × (List V)))):=un fun cX=>un fun di=>un fun pg=>un fun fB jY=>xj C nj nk eB bJ cX di pg fB jY (fun y=>some (.inl y)) (fun r=>some (.inr r))
noncomputable def TD (C:ag):cC:=fun β n ds k=>
 bif Nat.beq n 81 then ch HZ [false,false,true,true,false,false,true,true,true] [[0,0,0,0,0],[0,1,2,0,0,5,6,0,0,0]] (@xj C) ds k else
 none
abbrev afz (C:ag) (b:cx):Prop:=cy Try.prog az C (TD C) 14 (cT Try.prog (az.aZ 14)) (az.sin 14).aY.length b
theorem afA (C:ag):afz C (.loop (av [1,1,1,0,0,0] TC)):=
 ct HZ [false,false,true,true,false,false,true,true,true] [[0,0,0,0,0],[0,1,2,0,0,5,6,0,0,0]] (@xj C) (by kernel_rfl) (bf (bs:=[]) (by kernel_rfl) aw) (fun ds=>by kernel_rfl) (fun i x=>by kernel_rfl) (fun i x β k=>by kernel_rfl) (fun β ds k=>by kernel_rfl)
noncomputable def TE (C:ag) (ah ar:Int) (ae:List V) (letters:Int):Option (List V):=
 (C vN [.int .i64 ah,.int .i64 ar,.list aa ae,.int .i64 letters]).bind fun r1=>
 bif (((V.nth r1 0).toInt):Int) != 0 then
  some [.int .i64 0,.int .i64 0,.int .i64 ((V.nth r1 0).toInt),.list fq ([]:List V),.list cz ([]:List V)]
 else
  (C Dq [.int .i64 ah,.int .i64 ar,.list aa ae]).bind fun r2=>
  (C Dp [.int .i64 ((V.nth r2 0).toInt),.int .i64 ((V.nth (r2.drop 1) 0).toInt),.list aa ((V.nth ((r2.drop 1).drop 1) 0).toList),.int .i64 letters]).bind fun r3=>
  (Loop (uy C 0 0 ([]:List V) ([]:List V)) ((V.nth r3 0).toInt,(V.nth (r3.drop 1) 0).toInt,(V.nth (r3.drop 2) 0).toList,(V.nth ((r3.drop 2).drop 1) 0).toList,(V.nth (((r3.drop 2).drop 1).drop 1) 0).toList)).bind (b9 (un fun (lW:Int)=>un fun (afB:Int)=>un fun (afC:Int)=>un fun (AX:List V) (AY:List V)=>
   some [.int .i64 afB,.int .i64 afC,.int .i64 lW,.list fq AX,.list cz AY]) (un fun (D0:Bool)=>un fun (afD:Int)=>un fun (afE:Int)=>un fun (Ky:List V)=>un fun (Kz:List V) (afF:List V)=>
   (C Ds [.int .i64 afD,.int .i64 afE,.list aa Ky,.list cz Kz,.list dI afF]).bind fun dA=>
   some [.int .i64 ((V.nth dA 0).toInt),.int .i64 ((V.nth (dA.drop 1) 0).toInt),.int .i64 0,.list fq ((V.nth (((dA.drop 2).drop 2).drop 1) 0).toList),.list cz ((V.nth ((((dA.drop 2).drop 2).drop 1).drop 1) 0).toList)]))
theorem afG {ah ar:Int} {ae:List V} {letters:Int} {r:Option (List V)} (h:TE CC ah ar ae letters=r):CC tB [.int .i64 ah,.int .i64 ar,.list aa ae,.int .i64 letters]=r:=
 ba (key:=14) (L:=TD CC) (bs:=[.loop (av [1,1,1,0,0,0] TC)]) (by kernel_rfl) (bG (afA CC) aw) (a8 (by kernel_rfl) h)
end Go.AM
set_option maxRecDepth 100000
namespace Go.AM
open Go.Proofs Ex
structure Dv.Ok (d:Dv):Prop where
 es: ∀e∈d.es,e.Ok
 el:d.es.length≤maxLen
 nl:d.nx.length≤maxLen
 rl: ∀r∈d.nx,r.length≤maxLen
theorem A4 {α:Type} {f:α→V} {l:List α} {z:α} {i:Nat} (h:i<l.length):idx (l.map f) (i:Int)=some (f (l.getD i z)):=by
 rw[XT rfl,eT,bq h,eU,bq h];rfl
abbrev Fl (s:Dv):Int × Int × List V × List V × List V:=(s.L,s.dn,s.es.map enc,s.nx.map j6,eR s.es)
theorem afH {e:Ex} {L:Int} (h:e.val L=0):Nv (aO e):=⟨lY e (qw (EY h)).2.2,Sw (EY h)⟩
structure Fa where
 L:Int
 F:List Bool
 N:List (List Int)
abbrev TF (p:Fa × Int):List V:=[.int .i64 p.1.L,.int .i64 0,.int .i64 p.2,.list fq (p.1.F.map V.bool),.list cz (p.1.N.map j6)]
def Fa.zero:Fa:=⟨0,[],[]⟩
def A5 (d:Dv):Fa:=⟨d.L,d.es.map Ex.b6,d.nx⟩
theorem afI {es:List Ex} (hn:es.length≤1000) (ho: ∀e∈es,Nv e) {a b c1 c2 c3 c4:Int} {l1 l2 l3 l4:List V}: ∀(aH pre:List Ex),es=pre++aH→
  Loop (Fk CC (es.length:Int) a b l1 c1 c2 c3 c4 (es.map enc) l2 l3 l4) (((pre.length:Nat):Int),(pre.map Ex.b6).map V.bool)=some ((es.length:Int),false,(es.map Ex.b6).map V.bool):=by
 intro aH
 induction aH with
 | nil=>
  intro pre e
  rw[dy] at e
  subst e
  refine bc ?_
  simp only[Fk,A1,un]
  rw[aA,ai (by omega),cS (by omega)]
 | cons k aH ga=>
  intro pre e
  have bL:pre.length<es.length:=by rw[e];simp
  have hk:k∈es:=by rw[e];simp
  have b8:(es.map enc)[pre.length]? =some k.enc:=by rw[e];simp
  have hv:=qw (ho k hk).2
  refine (bV ?_).trans (ga (pre++[k]) (by simp[e]))
  simp only[Fk,A1,un]
  refine bT (sa bL) ((r0 b8).trans ?_)
  rw[bw,bx,bz]
  refine bs (aeI (letters:=6) k (tR (by omega) k hv.2.2 (by omega)) hv.2.2) ?_
  refine bT (by rw[dK,qs];simp;omega) ?_
  rw[me (by omega)]
  simp only[fQ,cG,gl,ca,List.length_cons,List.length_nil]
  rfl
theorem afJ {s:Dv} (hs:Gs s): ∃l,CC Ds (xi s)=some l∧(V.nth l 0).toInt=s.L∧(V.nth (l.drop 1) 0).toInt=0∧(V.nth (((l.drop 2).drop 2).drop 1) 0).toList=(s.es.map Ex.b6).map V.bool∧(V.nth ((((l.drop 2).drop 2).drop 1).drop 1) 0).toList=s.nx.map j6:=by
 have hl:=hs.es.le
 refine ⟨[.int .i64 s.L,.int .i64 0,.int .i64 s.L,.int .i64 s.dn,.list dI (eR s.es),.list fq ((s.es.map Ex.b6).map V.bool),.list cz (s.nx.map j6),.list aa (s.es.map enc)],afy ?_,?_⟩
 ·unfold TB
  rw[bm]
  refine bs (afI (by omega) hs.es.nv s.es [] rfl) ?_
  simp only[un]
 ·exact ⟨rfl,rfl,rfl,rfl⟩
def xk (e:Ex) (L:Int):Fa × Int:=if e.val L=0 then (match j4 513 (js e L) with|some t=>(A5 t,0)|none=>(.zero,3)) else (.zero,e.val L)
theorem TG {a b:Int} {l1 l2:List V}: ∀(n:Nat) (s:Dv),Gs s→513≤s.dn+n→
  (∀t,j4 n s=some t→Loop (uy CC a b l1 l2) (Fl s)=some (.inr (false,t.L,t.dn,t.es.map enc,t.nx.map j6,eR t.es)))∧(j4 n s=none→Loop (uy CC a b l1 l2) (Fl s)=some (.inl (3,0,0,[],[])))
 | 0,s,hs,hn=>by have:=hs.dn;have:=hs.es.le;omega
 | n+1,s,hs,hn=>by
  rw[j4]
  have Km:=hs.dn
  by_cases hd:s.dn<s.es.length
  ·rw[ak hd]
   obtain ⟨p1,p2⟩:=afv hs hd
   have hf:(!(s.dn==(s.es.length:Int)))=true:=by rw[mi,xt];omega
   cases hp:proc s with
   | none=>
    obtain ⟨l,hl⟩:=p2 hp
    refine ⟨fun t ht=>(by cases ht),fun _=>bc ?_⟩
    simp only[uy,xj,un]
    refine bs (KJ s) (bT hf ?_)
    refine bs hl ?_
    rfl
   | some u=>
    obtain ⟨g,_,g2,_⟩:=Kl hs hd hp
    obtain ⟨i1,i2⟩:=TG (a:=a) (b:=b) (l1:=l1) (l2:=l2) n u g (by omega)
    have et:uy CC a b l1 l2 (Fl s)=some (.inl (Fl u)):=by
     simp only[uy,xj,un]
     refine bs (KJ s) (bT hf ?_)
     refine bs (p1 u hp) ?_
     rfl
    exact ⟨fun t ht=>(bV et).trans (i1 t ht),fun ht=>(bV et).trans (i2 ht)⟩
  ·rw[ai hd]
   refine ⟨fun t ht=> ?_,fun ht=>(by cases ht)⟩
   cases ht
   refine bc ?_
   have hf:(!(s.dn==(s.es.length:Int)))=false:=by rw[Bool.not_eq_false',sn];omega
   simp only[uy,xj,un]
   refine bs (KJ s) (bF hf ?_)
   exact congrArg (fun b=>some (Sum.inr (Sum.inr (b,s.L,s.dn,s.es.map enc,s.nx.map j6,eR s.es)))) hf
theorem KM {e:Ex} (h:e.Ok) (L:Int):CC tB (bW e [.int .i64 L])=some (TF (xk e L)):=by
 refine afG ?_
 unfold TE xk
 refine bs (Jh e h L) ?_
 by_cases hv:e.val L=0
 ·rw[ak hv]
  refine bF (by rw[V.aV,V.toInt_int,hv];rfl) ?_
  have hN:=adR e h
  rw[ak (EY hv)] at hN
  refine bs hN (bs (aft (L:=L) (afH hv)) ?_)
  obtain ⟨l1,l2⟩:=TG (a:=0) (b:=0) (l1:=[]) (l2:=[]) 513 (js e L) (E2 hv) (by show 513≤(0:Int)+_;omega)
  cases hp:j4 513 (js e L) with
  | none=>exact bs (l2 hp) rfl
  | some t=>
   refine bs (l1 t hp) ?_
   obtain ⟨l,a1,a2,a3,a4,a5⟩:=afJ (AF 513 _ _ (E2 hv) hp).1
   refine bs a1 ?_
   rw[a2,a3,a4,a5]
   rfl
 ·rw[ai hv]
  refine bT ?_ rfl
  rw[V.aV,V.toInt_int,bne_iff_ne];exact hv
end Go.AM
set_option maxRecDepth 100000
namespace Go.AM
open Go.Proofs
noncomputable def TH (C:ag):Option (List V):=
 some [.int .i64 7,.int .i64 0,.list aa ([.agg [.int .i64 5,.int .i64 0,.list aa ([.agg [.int .i64 3,.int .i64 0,.list aa ([]:List V)],.agg [.int .i64 3,.int .i64 1,.list aa ([]:List V)]]:List V)]]:List V)]
theorem afK {r:Option (List V)} (h:TH CC=r):CC Dn []=r:=
 ba (key:=38) (L:=cj) (bs:=[]) (by kernel_rfl) aw (a8 (by kernel_rfl) h)
noncomputable def TI (C:ag):Option (List V):=
 (C Dn []).bind fun r1=>
 (C tB [.int .i64 ((V.nth r1 0).toInt),.int .i64 ((V.nth (r1.drop 1) 0).toInt),.list aa ((V.nth (r1.drop 2) 0).toList),.int .i64 2]).bind fun r2=>
 bif (((V.nth (r2.drop 2) 0).toInt):Int)==0 then
  bif ((((V.nth (r2.drop 3) 0).toList).length:Int):Int)==3 then
  bif decide (0<(((V.nth (r2.drop 3) 0).toList).length:Int)) then
   (((V.nth (r2.drop 3) 0).toList)[0]?).bind fun x3=>
   bif x3.toBool then
   bif decide (1<(((V.nth (r2.drop 3) 0).toList).length:Int)) then
    (((V.nth (r2.drop 3) 0).toList)[1]?).bind fun x4=>
    some [.bool (!x4.toBool)]
   else none
   else
   some [.bool false]
  else none
  else
  some [.bool false]
 else
  some [.bool false]
theorem afL {r:Option (List V)} (h:TI CC=r):CC jP []=r:=
 ba (key:=13) (L:=cj) (bs:=[]) (by kernel_rfl) aw (a8 (by kernel_rfl) h)
end Go.AM
set_option maxRecDepth 100000
namespace Go.AM
open Go.Proofs Ex
def xl:Ex:= .node 7 0 [.node 5 0 [.node 3 0 [],.node 3 1 []]]
theorem afM:xl.Ok:=by
 refine .node (by omega) (by omega) (by unfold maxLen;simp) fun k hk=> ?_
 rw[dB.1 hk]
 refine .node (by omega) (by omega) (by unfold maxLen;simp) fun k hk=> ?_
 rcases c8.1 hk with rfl|hk
 ·exact .node (by omega) (by omega) (by simp) (by simp)
 ·rw[dB.1 hk]
  exact .node (by omega) (by omega) (by simp) (by simp)
theorem afN:(xk xl 2).2=0∧(xk xl 2).1.F=[true,false,false]:=by decide+kernel
theorem si:CC jP []=some [.bool true]:=by
 refine afL ?_
 unfold TI
 have eM:CC Dn []=some (gW xl):=by
  refine afK ?_
  unfold TH xl
  simp only[gW,Ex.op,Ex.cE,Ex.kids,cG,gl,en]
 refine bs eM ?_
 refine bs (KM afM 2) ?_
 obtain ⟨h1,U⟩:=afN
 generalize xk xl 2=p at h1 U
 obtain ⟨⟨L,F,N⟩,f⟩:=p
 simp only at h1 U
 subst h1 U
 rfl
end Go.AM
set_option maxRecDepth 100000
namespace Go.AM
open Go.Proofs
abbrev Lg:=List UInt8→Prop
def L2 (A B:Lg):Lg:=fun w=> ∃u v,w=u++v∧A u∧B v
inductive kF (A:Lg):Lg
 | nil:kF A []
 | cons {u v:List UInt8}:A u→kF A v→kF A (u++v)
def TJ:List Lg→Lg
 | []=>fun _=>False
 | L::_=>L
def afO:List Lg→Lg
 | []=>fun w=>w=[]
 | L::Ls=>Ls.foldl L2 L
def opL (o l:Int) (Ls:List Lg):Lg:=fun w=>
 if o=2 then w=[] else if o=3 then∃c:UInt8,w=[c]∧(c.toNat:Int)-97=l
 else if o=4 then∃L∈Ls,L w else if o=5 then afO Ls w else if o=6 then∀L∈Ls,L w
 else if o=7 then kF (TJ Ls) w else if o=8 then¬TJ Ls w else False
mutual
def Ex.Th:Ex→Lg
 | .node o l ks=>opL o l (Ex.TK ks)
def Ex.TK:List Ex→List Lg
 | []=>[]
 | k::ks=>Ex.Th k::Ex.TK ks
end
theorem kF.append {A:Lg} {u v:List UInt8} (h:kF A u) (U:kF A v):kF A (u++v):=by
 induction h with
 | nil=>exact U
 | cons a _ ih=>rw[b7];exact .cons a ih
theorem kF.one {A:Lg} {u:List UInt8} (h:A u):kF A u:=by
 have:=kF.cons h (kF.nil (A:=A));rwa [dy] at this
theorem kF.first {A:Lg} {w:List UInt8} (h:kF A w):w=[]∨∃u v,u≠[]∧w=u++v∧A u∧kF A v:=by
 induction h with
 | nil=>exact .inl rfl
 | @cons u v a hv ih=>
  by_cases hu:u=[]
  ·subst hu;simpa using ih
  ·exact .inr ⟨u,v,hu,rfl,a,hv⟩
def sl (w:List UInt8) (i j:Nat):List UInt8:=(w.drop i).take (j-i)
end Go.AM
set_option maxRecDepth 100000
namespace Go.AM
open Go.Proofs Ex
def mg (nx:List (List Int)):List UInt8→Nat→Nat
 | [],q=>q
 | b::w,q=>mg nx w ((nx.getD q []).getD (b.toNat-97) 0).toNat
def dS (k:Ex):Ex:=dh 8 0 [k]
theorem A6 {k:Ex}:dS k=if k.op=8 then k.kids.getD 0 aT else .node 8 0 [k]:=wv
theorem Fm {x:Ex}:dS (.node 8 0 [x])=x:=by rw[A6];exact ak rfl
theorem KN {n:Int} {k:Ex} (h:Gd n k) (ho:k.op=8): ∃x,k= .node 8 0 [x]∧Gd n x∧x.op≠8:=by
 obtain ⟨o,l,ks⟩:=k
 obtain rfl:o=8:=ho
 have hs:=ez h.shape
 have U:=h.kids
 have h3:=h.ok
 simp only[Ex.op,Ex.cE,Ex.kids] at*
 obtain ⟨x,rfl⟩:=uC.1 (show ks.length=1 by omega)
 obtain rfl:l=0:=by omega
 exact ⟨x,rfl,U x (by simp),h3.1 rfl x (by simp)⟩
theorem KO {n:Int} {k:Ex} (h:Gd n k):dS (dS k)=k:=by
 by_cases ho:k.op=8
 ·obtain ⟨x,rfl,h1,U⟩:=KN h ho
  rw[Fm,A6,ai U]
 ·rw[A6 (k:=k),ai ho,Fm]
theorem TL {n:Int} {a b:Ex} (ha:Gd n a) (hb:Gd n b) (h:dS a=dS b):a=b:=by
 rw[←KO ha,←KO hb,h]
theorem TM {k:Ex}:(Ex.node 8 0 [k]).b6= !k.b6:=by simp[Ex.b6,Ex.ld]
theorem afP {n:Int} {k:Ex} (h:Gd n k):(dS k).b6= !k.b6:=by
 by_cases ho:k.op=8
 ·obtain ⟨x,rfl,h1,U⟩:=KN h ho
  rw[Fm,TM]
  simp
 ·rw[A6,ai ho,TM]
theorem TN {c:Int} {k:Ex}:aO (bP c (.node 8 0 [k]))=dS (aO (bP c k)):=R7 (.inr (.inr rfl))
theorem afQ {n c:Int} {k:Ex} (h:Gd n k):aO (bP c (dS k))=dS (aO (bP c k)):=by
 by_cases ho:k.op=8
 ·obtain ⟨x,rfl,h1,U⟩:=KN h ho
  rw[TN,KO (lY _ (sd x h1.2)),Fm]
 ·rw[A6,ai ho,TN]
theorem TO {es:List Ex} (h: ∀e∈es,Gd 6 e) {d:Ex} (hd:Gd 6 d):dS d∈es.map dS↔d∈es:=by
 rw[fP]
 constructor
 ·rintro ⟨a,ha,he⟩
  rw[←TL (h a ha) hd he];exact ha
 ·exact fun hx=>⟨d,hx,rfl⟩
theorem TP {d:Ex} (hd:Gd 6 d): ∀{es:List Ex},(∀e∈es,Gd 6 e)→(es.map dS).idxOf (dS d)=es.idxOf d
 | [],_=>rfl
 | e::es,h=>by
  rw[cG,xD,xD,TP hd fun x hx=>h x (by simp[hx])]
  have:(dS e==dS d)=(e==d):=by
   rw[nw,sn,sn]
   exact ⟨TL (h e (by simp)) hd,fun h=>by rw[h]⟩
  rw[this]
theorem KP {e:Ex} (he:Nv e): ∀(n x:Nat) (es:List Ex) (row:List Int) (p p':List Ex × List Int),Es es→jZ e n x es row=some p→jZ (dS e) n x (es.map dS) row=some p'→p'=(p.1.map dS,p.2)
 | 0,x,es,row,p,p',_,h,h'=>by cases h;cases h';rfl
 | n+1,x,es,row,p,p',kq,h,h'=>by
  rw[jZ] at h h'
  cases hs:nn e x with
  | none=>rw[hs] at h;cases h
  | some d=>
   cases oN:nn (dS e) x with
   | none=>rw[oN] at h';cases h'
   | some d'=>
    obtain ⟨hd,d1⟩:=Kj he hs
    have d2:d'=dS d:=by
     unfold nn at oN
     split at oN
     ·cases oN
      rw[afQ he.1,d1]
     ·cases oN
    subst d2
    rw[hs] at h
    rw[oN] at h'
    simp only[Option.bind_some] at h h'
    have hg: ∀e∈es,Gd 6 e:=fun e he=>(kq.nv e he).1
    rw[TP hd.1 hg,bm] at h'
    by_cases hm:d∈es
    ·rw[ak hm] at h
     rw[ak ((TO hg hd.1).2 hm)] at h'
     exact KP he n (x+1) es _ p p' kq h h'
    ·rw[ai hm] at h
     rw[ai fun c=>hm ((TO hg hd.1).1 c)] at h'
     by_cases hl:es.length=512
     ·rw[ak hl] at h;cases h
     ·rw[ai hl] at h h'
      rw[show es.map dS++[dS d]=(es++[d]).map dS by simp] at h'
      exact KP he n (x+1) (es++[d]) _ p p' (kq.snoc hd hm hl) h h'
def kG (s:Dv):Dv:=⟨s.L,s.es.map dS,s.nx,s.dn⟩
theorem afR {s t t':Dv} (hs:Gs s) (hd:s.dn<s.es.length) (h:proc s=some t) (h':proc (kG s)=some t'):t'=kG t:=by
 obtain ⟨p,hp,rfl⟩:=E1 h
 obtain ⟨p',hp',rfl⟩:=E1 h'
 have Km:=hs.dn
 have hq:s.dn.toNat<s.es.length:=by omega
 have e1:(s.es.map dS).getD s.dn.toNat aT=dS (s.es.getD s.dn.toNat aT):=by
  rw[eU,eU,eT,bq hq];rfl
 have fH:jZ (dS (s.es.getD s.dn.toNat aT)) s.L.toNat 0 (s.es.map dS) []=some p':=by rw[←e1];exact hp'
 rw[KP (hs.es.nv _ (E0 hq)) _ _ _ _ _ _ hs.es hp fH]
 rfl
theorem TQ: ∀(n:Nat) (s t t':Dv),Gs s→j4 n s=some t→j4 n (kG s)=some t'→t'=kG t
 | 0,s,t,t',_,h,h'=>by cases h;cases h';rfl
 | n+1,s,t,t',hs,h,h'=>by
  rw[j4] at h h'
  have e1:(kG s).dn=s.dn:=rfl
  have e2:(kG s).es.length=s.es.length:=by simp[kG]
  rw[e1,e2] at h'
  by_cases hd:s.dn<s.es.length
  ·rw[ak hd] at h h'
   cases hp:proc s with
   | none=>rw[hp] at h;cases h
   | some u=>
    cases hp':proc (kG s) with
    | none=>rw[hp'] at h';cases h'
    | some u'=>
     rw[hp] at h
     rw[hp'] at h'
     have:=afR hs hd hp hp'
     subst this
     exact TQ n u t t' (Kl hs hd hp).1 h h'
  ·rw[ai hd] at h h'
   cases h;cases h';rfl
theorem TR {e:Ex} {L:Int}:js (.node 8 0 [e]) L=kG (js e L):=by
 unfold js kG
 rw[lh]
 rfl
end Go.AM
set_option maxRecDepth 100000
namespace Go.AM
open Go.Proofs
noncomputable abbrev Fo:Code:=cP Try.prog (az.aZ 19)
noncomputable def A7 (C:ag) (t26:List V) (t27 t28:Int) (t37:List V) (t38 gh gE:Int) (pk pn:List V) (t39:Int) {β:Type} (kn:Int→Option β) (kr:((Bool) ⊕ (Int × Bool))→Option β):Option β:=
 bif decide ((t39:Int)<t38) then
  (idx t37 t39).bind fun x2=>
  bif decide ((x2.toInt:Int)<0) then
  kr (.inl false)
  else
  bif decide ((x2.toInt:Int)≥(pk.length:Int)) then
   kr (.inl false)
  else
   kn (IntKind.wrap .i64 (t39+1))
 else
  kr (.inr (t39,decide ((t39:Int)<t38)))
noncomputable def Fp (C:ag) (t26:List V) (t27 t28:Int) (t37:List V) (t38 gh gE:Int) (pk pn:List V):(Int)→Option ((Int) ⊕ ((Bool) ⊕ (Int × Bool))):=fun t39=>A7 C t26 t27 t28 t37 t38 gh gE pk pn t39 (fun y=>some (.inl y)) (fun r=>some (.inr r))
noncomputable def A8 (C:ag) (t26:List V) (t27 gh gE:Int) (pk pn:List V) (t28:Int) {β:Type} (kn:Int→Option β) (kr:((Bool) ⊕ (Int × Bool))→Option β):Option β:=
 bif decide ((t28:Int)<t27) then
  (idx t26 t28).bind fun x1=>
  bif ((x1.toList.length:Int):Int) != gh then
  kr (.inl false)
  else
  (Loop (Fp C t26 t27 t28 x1.toList (x1.toList.length:Int) gh gE pk pn) 0).bind (b9 (fun (jS:Bool)=>
   kr (.inl jS)) (un fun (lX:Int) (o0:Bool)=>
   kn (IntKind.wrap .i64 (t28+1))))
 else
  kr (.inr (t28,decide ((t28:Int)<t27)))
noncomputable def Fq (C:ag) (t26:List V) (t27 gh gE:Int) (pk pn:List V):(Int)→Option ((Int) ⊕ ((Bool) ⊕ (Int × Bool))):=fun t28=>A8 C t26 t27 gh gE pk pn t28 (fun y=>some (.inl y)) (fun r=>some (.inr r))
noncomputable def TS (C:ag):cC:=fun β n ds k=>
 bif Nat.beq n 145 then ch H2 [false,false,false,false,false,true,false,false,false,false] [[0],[1,2,3,4,5,0,0,7,8,9,10]] (@A7 C) ds k else
 bif Nat.beq n 65 then ch H3 [false,false,true,false,false,false,false] [[0],[1,2,0,0,4,5,6,7]] (@A8 C) ds k else
 none
abbrev TT (C:ag) (b:cx):Prop:=cy Try.prog az C (TS C) 19 (cT Try.prog (az.aZ 19)) (az.sin 19).aY.length b
theorem afS (C:ag):TT C (.loop (av [1,1,0,1,0,0,1,1,0,0,1,1,1,0,0] Fo)):=
 ct H2 [false,false,false,false,false,true,false,false,false,false] [[0],[1,2,3,4,5,0,0,7,8,9,10]] (@A7 C) (by kernel_rfl) (bf (bs:=[]) (by kernel_rfl) aw) (fun ds=>by kernel_rfl) (fun i x=>by kernel_rfl) (fun i x β k=>by kernel_rfl) (fun β ds k=>by kernel_rfl)
theorem afT (C:ag):TT C (.loop (av [1,1,0,1,0,0] Fo)):=
 ct H3 [false,false,true,false,false,false,false] [[0],[1,2,0,0,4,5,6,7]] (@A8 C) (by kernel_rfl) (bf (bs:=[.loop (av [1,1,0,1,0,0,1,1,0,0,1,1,1,0,0] Fo)]) (by kernel_rfl) (bG (afS C) aw)) (fun ds=>by kernel_rfl) (fun i x=>by kernel_rfl) (fun i x β k=>by kernel_rfl) (fun β ds k=>by kernel_rfl)
noncomputable def TU (C:ag) (cO cL:Int) (iW j5:List V):Option (List V):=
 bif (cL:Int) != 0 then
  some [.bool false]
 else
  bif ((iW.length:Int):Int)==0 then
  some [.bool false]
  else
  bif ((j5.length:Int):Int) != (iW.length:Int) then
   some [.bool false]
  else
   (Loop (Fq C j5 (j5.length:Int) cO cL iW j5) 0).bind (b9 (fun (lW:Bool)=>
    some [.bool lW]) (un fun (od:Int) (Pb:Bool)=>
    some [.bool true]))
theorem afU {cO cL:Int} {iW j5:List V} {r:Option (List V)} (h:TU CC cO cL iW j5=r):CC zc [.int .i64 cO,.int .i64 cL,.list fq iW,.list cz j5]=r:=
 ba (key:=19) (L:=TS CC) (bs:=[.loop (av [1,1,0,1,0,0] Fo)]) (by kernel_rfl) (bG (afT CC) aw) (a8 (by kernel_rfl) h)
noncomputable abbrev TV:Code:=cP Try.prog (az.aZ 20)
noncomputable def A9 (C:ag) (w:List UInt8) (gh gE:Int) (pk pn:List V) (q i:Int) {β:Type} (kn:(Int × Int)→Option β) (kr:(Int × Int × Bool)→Option β):Option β:=
 bif decide ((i:Int)<(w.length:Int)) then
  (idx pn q).bind fun x1=>
  (bif decide (0≤i) then (w[(i:Int).toNat]?).map fun b=>V.int .u8 b.toNat else none).bind fun x2=>
  (idx x1.toList (IntKind.wrap .i64 (IntKind.wrap .u8 (x2.toInt-97)))).bind fun x3=>
  kn (x3.toInt,IntKind.wrap .i64 (i+1))
 else
  kr (q,i,decide ((i:Int)<(w.length:Int)))
noncomputable def Fs (C:ag) (w:List UInt8) (gh gE:Int) (pk pn:List V):(Int × Int)→Option ((Int × Int) ⊕ (Int × Int × Bool)):=un fun q i=>A9 C w gh gE pk pn q i (fun y=>some (.inl y)) (fun r=>some (.inr r))
noncomputable def TW (C:ag):cC:=fun β n ds k=>
 bif Nat.beq n 49 then ch H4 [false,true,true,false,false,false,false] [[1,0,0,0,4,5,6,7]] (@A9 C) ds k else
 none
abbrev afV (C:ag) (b:cx):Prop:=cy Try.prog az C (TW C) 20 (cT Try.prog (az.aZ 20)) (az.sin 20).aY.length b
theorem afW (C:ag):afV C (.loop (av [1,1,0,1,0,0] TV)):=
 ct H4 [false,true,true,false,false,false,false] [[1,0,0,0,4,5,6,7]] (@A9 C) (by kernel_rfl) (bf (bs:=[]) (by kernel_rfl) aw) (fun ds=>by kernel_rfl) (fun i x=>by kernel_rfl) (fun i x β k=>by kernel_rfl) (fun β ds k=>by kernel_rfl)
noncomputable def TY (C:ag) (cO cL:Int) (iW j5:List V) (w:List UInt8):Option (List V):=
 (Loop (Fs C w cO cL iW j5) (0,0)).bind (un fun (q_4:Int)=>un fun (cF:Int) (lW:Bool)=>
  (idx iW q_4).bind fun x7=>
  some [.bool x7.toBool])
theorem afX {cO cL:Int} {iW j5:List V} {w:List UInt8} {r:Option (List V)} (h:TY CC cO cL iW j5 w=r):CC zd [.int .i64 cO,.int .i64 cL,.list fq iW,.list cz j5,.str w]=r:=
 ba (key:=20) (L:=TW CC) (bs:=[.loop (av [1,1,0,1,0,0] TV)]) (by kernel_rfl) (bG (afW CC) aw) (a8 (by kernel_rfl) h)
end Go.AM
set_option maxRecDepth 100000
namespace Go.AM
open Go.Proofs Ex
abbrev TZ (p:Fa) (l:List V):List V:= .int .i64 p.L:: .int .i64 0:: .list fq (p.F.map V.bool):: .list cz (p.N.map j6)::l
structure Fa.Ok (p:Fa):Prop where
 fl:p.F.length≤1000
 nl:p.N.length≤1000
 rl: ∀r∈p.N,r.length≤1000
theorem T2 (r:List Int):((j6 r).toList.length:Int)=(r.length:Int):=by
 show (((r.map fun n=>V.int .i64 n).length:Nat):Int)=_
 rw[bm]
theorem T4 {s:Dv} (hs:Gs s) (hf:s.dn=s.es.length):CC zc (TZ (A5 s) [])=some [.bool true]:=by
 have h1:=hs.es.le
 have U:=hs.nl
 have h4:=hs.L
 have hp:0<s.es.length:=Bk.2 hs.ne
 have jJ:s.nx.length=s.es.length:=by omega
 refine afU ?_
 unfold TU A5
 simp only[bm]
 refine bF rfl (bF (by rw[xt];omega) (bF (by rw[bne_eq_false_iff_eq,jJ]) ?_))
 have l1: ∀{i:Nat},i<s.nx.length→∀{y1 y2 x1 x2:Int} {k1 k2 k3:List V},k3.length=s.es.length→Loop (Fp CC k1 y1 y2 ((s.nx.getD i []).map fun n=>V.int .i64 n) ((s.nx.getD i []).length:Int) x1 x2 k3 k2) 0=some (.inr (((s.nx.getD i []).length:Int),false)):=fun {i} hi {y1 y2 x1 x2 k1 k2 k3} hk=>by
  obtain ⟨r1,r2⟩:=hs.row i (by omega)
  refine RW (s.nx.getD i []).length (fun i=>(i:Int)) _ (fun j hj=> ?_) ?_
  ·have hy:=A4 (f:=fun n=>V.int .i64 n) (z:=0) hj
   obtain ⟨q,q1,q2,_⟩:=r2 j (by omega)
   rw[q1] at hy
   simp only[Fp,A7]
   refine bT (sa hj) (bs hy (bF (cS (by rw[V.toInt_int];omega)) (bF (cS (by rw[V.toInt_int,hk];omega)) ?_)))
   rw[me (by omega)]
  ·simp only[Fp,A7]
   rw[aA,ai (by omega),cS (by omega)]
 have l2: ∀{x2:Int} {k2 k3:List V},k3.length=s.es.length→Loop (Fq CC (s.nx.map j6) (s.nx.length:Int) s.L x2 k3 k2) 0=some (.inr ((s.nx.length:Int),false)):=fun {x2 k2 k3} hk=>by
  refine RW s.nx.length (fun i=>(i:Int)) _ (fun i hi=> ?_) ?_
  ·have hx:=A4 (f:=j6) (z:=[]) hi
   obtain ⟨r1,r2⟩:=hs.row i (by omega)
   simp only[Fq,A8]
   refine bT (sa hi) (bs hx (bF ?_ ?_))
   ·rw[T2,bne_eq_false_iff_eq];omega
   ·rw[T2]
    refine bs (l1 hi hk) ?_
    simp only[b9,un]
    rw[me (by omega)]
  ·simp only[Fq,A8]
   rw[aA,ai (by omega),cS (by omega)]
 exact bs (l2 (by simp)) rfl
theorem KQ {s:Dv} (hs:Gs s) (hf:s.dn=s.es.length): ∀(w:List UInt8) (q:Nat),q<s.es.length→(∀b∈w,97≤b.toNat∧b.toNat-97<s.L.toNat)→mg s.nx w q<s.es.length
 | [],q,hq,_=>hq
 | b::w,q,hq,hw=>by
  obtain ⟨j,j1,j2,j3⟩:=(hs.row q (by omega)).2 _ (hw b (by simp)).2
  rw[mg,j1,Int.toNat_natCast]
  exact KQ hs hf w j j2 fun c hc=>hw c (by simp[hc])
theorem T6 {w:List UInt8} {L:Int} (h:uv w L): ∀b∈w,97≤b.toNat∧b.toNat-97<L.toNat:=fun b hb=>by
 obtain ⟨i,hi,rfl⟩:=List.getElem_of_mem hb
 have:=h.2.2.2 i hi
 unfold iX at this
 rw[eU,bq hi,Option.getD_some] at this
 omega
theorem T7 {s:Dv} (hs:Gs s) (hf:s.dn=s.es.length) {w:List UInt8} (hw:uv w s.L):CC zd (TZ (A5 s) [.str w])=some [.bool (s.es.getD (mg s.nx w 0) aT).b6]:=by
 have hwl:=hw.2.2.1
 have T8:=T6 hw
 have hL:=hs.L
 have hp:0<s.es.length:=Bk.2 hs.ne
 have U:=hs.nl
 refine afX ?_
 unfold TY
 have loop: ∀{a b:Int} {k:List V} (aH pre:List UInt8) (q:Nat),w=pre++aH→q<s.es.length→Loop (Fs CC w a b k (s.nx.map j6)) ((q:Int),((pre.length:Nat):Int))=some ((mg s.nx aH q:Int),(w.length:Int),false):=fun {a b k} aH=>by
  induction aH with
  | nil=>
   intro pre q e hq
   rw[dy] at e
   subst e
   refine bc ?_
   simp only[Fs,A9,un]
   rw[aA,ai (by omega),cS (by omega)]
   rfl
  | cons c aH ih=>
   intro pre q e hq
   have bL:pre.length<w.length:=by rw[e];simp
   have hc:=T8 c (by rw[e];simp)
   have hg:w.getD pre.length 0=c:=by rw[e,eU];simp
   obtain ⟨r1,r2⟩:=hs.row q (by omega)
   obtain ⟨j,j1,j2,_⟩:=r2 _ hc.2
   have hx:=A4 (f:=j6) (z:=[]) (show q<s.nx.length by omega)
   have hy:=A4 (f:=fun n=>V.int .i64 n) (z:=0) (show c.toNat-97<(s.nx.getD q []).length by omega)
   have jM:=c.toNat_lt
   refine (bV (y:=((j:Int),(((pre++[c]).length:Nat):Int))) ?_).trans ?_
   ·simp only[Fs,A9,un]
    refine bT (sa bL) (bs hx (bs (SF bL) ?_))
    rw[V.toInt_int,hg,vC (by omega) (by omega),wrap64 (by omega) (by omega),show (c.toNat:Int)-97=((c.toNat-97:Nat):Int) by omega]
    refine bs hy ?_
    rw[V.toInt_int,j1,me (by omega),ca]
    rfl
   ·rw[ih (pre++[c]) j (by simp[e]) j2,mg,j1,Int.toNat_natCast]
 have aL:=KQ hs hf w 0 hp T8
 refine bs (loop w [] 0 rfl hp) ?_
 simp only[un]
 refine bs (A4 (f:=V.bool) (z:=false) (by show _<(s.es.map Ex.b6).length;rw[bm];exact aL)) ?_
 refine congrArg (fun b=>some [V.bool b]) ?_
 show (s.es.map Ex.b6).getD _ false=_
 rw[eU,eT,bq aL,eU,bq aL]
 rfl
end Go.AM
set_option maxRecDepth 100000
namespace Go.AM
open Go.Proofs
noncomputable def T9 (C:ag) (ah ar:Int) (ae:List V) (w:List UInt8):Option (List V):=
 (C Dj [.int .i64 ah,.int .i64 ar,.list aa ae,.int .i64 9]).bind fun r1=>
 bif !((V.nth r1 0).toBool) then
  (C jP []).bind fun r2=>
  some [.bool ((V.nth r2 0).toBool)]
 else
  (C zb [.int .i64 ah,.int .i64 ar,.list aa ae,.int .i64 2]).bind fun r3=>
  bif (((V.nth r3 0).toInt):Int) != 0 then
  (C jP []).bind fun r4=>
  some [.bool ((V.nth r4 0).toBool)]
  else
  (C Dk [.str w,.int .i64 2]).bind fun r5=>
  bif !((V.nth r5 0).toBool) then
   (C jP []).bind fun r6=>
   some [.bool ((V.nth r6 0).toBool)]
  else
   bif decide (((w.length:Int):Int)>60) then
   (C jP []).bind fun r7=>
   some [.bool ((V.nth r7 0).toBool)]
   else
   (C tB [.int .i64 ah,.int .i64 ar,.list aa ae,.int .i64 2]).bind fun r8=>
   (C tB [.int .i64 8,.int .i64 0,.list aa ([.agg [.int .i64 ah,.int .i64 ar,.list aa ae]]:List V),.int .i64 2]).bind fun r9=>
   bif (((V.nth (r8.drop 2) 0).toInt):Int) != 0 then
    bif (((V.nth (r8.drop 2) 0).toInt):Int)==0 then
    bif (((V.nth (r9.drop 2) 0).toInt):Int)==0 then
     (C jP []).bind fun dR=>
     some [.bool ((V.nth dR 0).toBool)]
    else
     bif (((V.nth (r9.drop 2) 0).toInt):Int)==3 then
     (C jP []).bind fun eJ=>
     some [.bool ((V.nth eJ 0).toBool)]
     else
     some [.bool false]
    else
    bif (((V.nth (r8.drop 2) 0).toInt):Int)==3 then
     bif (((V.nth (r9.drop 2) 0).toInt):Int)==0 then
     (C jP []).bind fun fy=>
     some [.bool ((V.nth fy 0).toBool)]
     else
     bif (((V.nth (r9.drop 2) 0).toInt):Int)==3 then
      (C jP []).bind fun gg=>
      some [.bool ((V.nth gg 0).toBool)]
     else
      some [.bool false]
    else
     some [.bool false]
   else
    bif (((V.nth (r9.drop 2) 0).toInt):Int) != 0 then
    bif (((V.nth (r8.drop 2) 0).toInt):Int)==0 then
     bif (((V.nth (r9.drop 2) 0).toInt):Int)==0 then
     (C jP []).bind fun kD=>
     some [.bool ((V.nth kD 0).toBool)]
     else
     bif (((V.nth (r9.drop 2) 0).toInt):Int)==3 then
      (C jP []).bind fun lj=>
      some [.bool ((V.nth lj 0).toBool)]
     else
      some [.bool false]
    else
     bif (((V.nth (r8.drop 2) 0).toInt):Int)==3 then
     bif (((V.nth (r9.drop 2) 0).toInt):Int)==0 then
      (C jP []).bind fun nh=>
      some [.bool ((V.nth nh 0).toBool)]
     else
      bif (((V.nth (r9.drop 2) 0).toInt):Int)==3 then
      (C jP []).bind fun dA=>
      some [.bool ((V.nth dA 0).toBool)]
      else
      some [.bool false]
     else
     some [.bool false]
    else
    (C zc [.int .i64 ((V.nth r8 0).toInt),.int .i64 ((V.nth (r8.drop 1) 0).toInt),.list fq ((V.nth (r8.drop 3) 0).toList),.list cz ((V.nth ((r8.drop 3).drop 1) 0).toList)]).bind fun iD=>
    bif (V.nth iD 0).toBool then
     (C zc [.int .i64 ((V.nth r9 0).toInt),.int .i64 ((V.nth (r9.drop 1) 0).toInt),.list fq ((V.nth (r9.drop 3) 0).toList),.list cz ((V.nth ((r9.drop 3).drop 1) 0).toList)]).bind fun dZ=>
     bif (V.nth dZ 0).toBool then
     bif ((((V.nth (r8.drop 3) 0).toList).length:Int):Int)==(((V.nth (r9.drop 3) 0).toList).length:Int) then
      (C zd [.int .i64 ((V.nth r8 0).toInt),.int .i64 ((V.nth (r8.drop 1) 0).toInt),.list fq ((V.nth (r8.drop 3) 0).toList),.list cz ((V.nth ((r8.drop 3).drop 1) 0).toList),.str w]).bind fun gZ=>
      (C zd [.int .i64 ((V.nth r9 0).toInt),.int .i64 ((V.nth (r9.drop 1) 0).toInt),.list fq ((V.nth (r9.drop 3) 0).toList),.list cz ((V.nth ((r9.drop 3).drop 1) 0).toList),.str w]).bind fun ma=>
      bif !(((V.nth gZ 0).toBool)==((V.nth ma 0).toBool)) then
      (C jP []).bind fun iT=>
      some [.bool ((V.nth iT 0).toBool)]
      else
      some [.bool false]
     else
      some [.bool false]
     else
     some [.bool false]
    else
     some [.bool false]
theorem afY {ah ar:Int} {ae:List V} {w:List UInt8} {r:Option (List V)} (h:T9 CC ah ar ae w=r):CC HR [.int .i64 ah,.int .i64 ar,.list aa ae,.str w]=r:=
 ba (key:=4) (L:=cj) (bs:=[]) (by kernel_rfl) aw (a8 (by kernel_rfl) h)
end Go.AM
set_option maxRecDepth 100000
namespace Go.AM
open Go.Proofs Ex
theorem afZ {e:Ex} (hv:e.val 2=0) (hs:e.size≤9):(Ex.node 8 0 [e]).val 2=0:=by
 obtain ⟨h1,U,h3,h4⟩:=EX hv
 have hd:=O2 e
 refine val_mk ⟨h1,?_,?_,rQ (by simp[dg]) fun k hk=>by rw[dB.1 hk];exact h4⟩
 ·simp only[depth,cw];omega
 ·simp only[size,aK];omega
theorem Uh (e:Ex) (h:e.Ok) (w:List UInt8):CC HR (bW e [.str w])=some [.bool true]:=by
 refine afY ?_
 unfold T9
 refine bs (aeA e h 9) ?_
 by_cases hl:e.val 6=0∧(e.size:Int)≤9
 case neg=>exact bT (by rw[V.aV,V.dQ,cS hl];rfl) (bs si rfl)
 refine bF (by rw[V.aV,V.dQ,eo hl];rfl) ?_
 refine bs (PC e h 2) ?_
 by_cases hv:e.val 2=0
 case neg=>exact bT (by rw[V.aV,V.toInt_int,bne_iff_ne];exact hv) (bs si rfl)
 refine bF (by rw[V.aV,V.toInt_int,hv];rfl) ?_
 refine bs (aey w 2) ?_
 by_cases hw:uv w 2
 case neg=>exact bT (by rw[V.aV,V.dQ,cS hw];rfl) (bs si rfl)
 refine bF (by rw[V.aV,V.dQ,eo hw];rfl) ?_
 rw[aA]
 by_cases Ua:(w.length:Int)>60
 ·rw[ak Ua];exact bs si rfl
 rw[ai Ua]
 have pX:=afZ hv (by omega)
 have yn:(Ex.node 8 0 [e]).Ok:= .node (by omega) (by omega) (by unfold maxLen;simp) fun k hk=>by rw[dB.1 hk];exact h
 have hB:=KM h 2
 have Ba:=KM yn 2
 unfold xk at hB Ba
 rw[ak hv] at hB
 rw[ak pX,TR] at Ba
 replace Ba:CC tB [.int .i64 8,.int .i64 0,.list aa [.agg [.int .i64 e.op,.int .i64 e.cE,.list aa (e.kids.map enc)]],.int .i64 2]=some (TF (match j4 513 (kG (js e 2)) with|some t=>(A5 t,0)|none=>(.zero,3))):=by
  rw[RX];exact Ba
 have g0:=E2 hv
 have Ub:Gs (kG (js e 2)):=by rw[←TR];exact E2 pX
 refine bs hB (bs Ba ?_)
 cases hp:j4 513 (js e 2) with
 | none=>
  refine bT rfl (bF rfl (bT rfl ?_))
  cases hq:j4 513 (kG (js e 2)) with
  | none=>exact bF rfl (bT rfl (bs si rfl))
  | some t'=>exact bT rfl (bs si rfl)
 | some t=>
  refine bF rfl ?_
  cases hq:j4 513 (kG (js e 2)) with
  | none=>exact bT rfl (bT rfl (bF rfl (bT rfl (bs si rfl))))
  | some t'=>
   refine bF rfl ?_
   have ht:=TQ 513 _ _ _ g0 hp hq
   obtain ⟨g,gL,_⟩:=AF _ _ _ g0 hp
   obtain ⟨g',gL',_⟩:=AF _ _ _ Ub hq
   have hf:=Sy g0 (n:=513) (by show 513≤(0:Int)+_;omega) hp
   have Uc:=Sy Ub (n:=513) (by show 513≤(0:Int)+_;omega) hq
   have a1:=T7 g hf (w:=w) (by rw[gL];exact hw)
   have a2:=T7 g' Uc (w:=w) (by rw[gL'];exact hw)
   have aL:=KQ g hf w 0 (Bk.2 g.ne) (T6 (by rw[gL];exact hw))
   refine bs (T4 g hf) (bT rfl (bs (T4 g' Uc) (bT rfl (bT ?_ (bs a1 (bs a2 (bT ?_ (bs si rfl))))))))
   ·show (((t.es.map Ex.b6).map V.bool).length:Int)==(((t'.es.map Ex.b6).map V.bool).length:Int)
    rw[ht]
    simp[kG]
   ·show (!((t.es.getD (mg t.nx w 0) aT).b6==(t'.es.getD (mg t'.nx w 0) aT).b6))=true
    rw[ht]
    show (!((t.es.getD (mg t.nx w 0) aT).b6==((t.es.map dS).getD (mg t.nx w 0) aT).b6))=true
    have e1:(t.es.map dS).getD (mg t.nx w 0) aT=dS (t.es.getD (mg t.nx w 0) aT):=by
     rw[eU,eT,bq aL,eU,bq aL];rfl
    rw[e1,afP (g.es.nv _ (E0 aL)).1]
    cases (t.es.getD (mg t.nx w 0) aT).b6<;>rfl
end Go.AM
set_option maxRecDepth 100000
namespace Go.AM
theorem WT.GQ {P:Program} {t:TypeId} {x:V} (hu:P.underlying t=some (.int .u8)) (h:WT P t x): ∃n:Int,x= .int .u8 n∧0≤n∧n≤255:=by
 obtain ⟨n,rfl,h1,U⟩:=h.dE hu
 have e1:IntKind.min .u8=0:=by decide
 have e2:IntKind.max .u8=255:=by decide
 rw[e1] at h1
 rw[e2] at U
 exact ⟨n,rfl,h1,U⟩
end Go.AM
