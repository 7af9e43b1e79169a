/-
  Functions of the program, lifted to plain data.
-/
import Derived.Test.YtppefogdkedaiaaP5
set_option linter.unusedVariables false
set_option linter.unusedSimpArgs false
set_option maxRecDepth 100000
namespace Go.AM
open Go.Proofs
noncomputable abbrev Vb:Code:=cF Try.prog (ay.aV 59)
noncomputable def B9 (C:ag) (t20:List V) (t21 dt da:Int) (cD:List V) (iR iS:Int) (bt:List V) (t22:Int) (ou:List V) {β:Type} (kn:(Int × (List V))→Option β) (kr:(Int × Bool × (List V))→Option β):Option β:=
 bif decide ((t22:Int)<t21) then
  (idx t20 t22).bind fun x1=>
  (C uR [.int .i64 ((x1.cell 0).toInt),.int .i64 ((x1.cell 1).toInt),.list aa ((x1.cell 2).toList)]).bind fun r2=>
  bif (decide (0≤t22))&&(decide (t22<(ou.length:Int))) then
  (ou[(t22:Int).toNat]?).bind fun x3=>
  kn (IntKind.wrap .i64 (t22+1),ou.set ((t22:Int).toNat) (.agg [.int .i64 ((V.nth r2 0).toInt),.int .i64 ((V.nth (r2.drop 1) 0).toInt),.list aa ((V.nth ((r2.drop 1).drop 1) 0).toList)]))
  else none
 else
  kr (t22,decide ((t22:Int)<t21),ou)
noncomputable def GU (C:ag) (t20:List V) (t21 dt da:Int) (cD:List V) (iR iS:Int) (bt:List V):(Int × (List V))→Option ((Int × (List V)) ⊕ (Int × Bool × (List V))):=un fun t22 ou=>B9 C t20 t21 dt da cD iR iS bt t22 ou (fun y=>some (.inl y)) (fun r=>some (.inr r))
noncomputable def Vc (C:ag):ct:=fun β n ds k=>
 bif Nat.beq n 81 then bW KX [false,false,true,false,false,false,false,false,true,false] [[1,2,0,0,4,5,6,7,8,0,10]] (@B9 C) ds k else
 none
abbrev ag0 (C:ag) (b:cq):Prop:=cr Try.prog ay C (Vc C) 59 (cK Try.prog (ay.aV 59)) (ay.sin 59).bj.length b
theorem ag1 (C:ag):ag0 C (.loop (av [1,1,1,0,1,0,0] Vb)):=
 bY KX [false,false,true,false,false,false,false,false,true,false] [[1,2,0,0,4,5,6,7,8,0,10]] (@B9 C) (by kernel_rfl) (aZ (bs:=[]) (by kernel_rfl) aw) (fun ds=>by kernel_rfl) (fun i x=>by kernel_rfl) (fun i x β k=>by kernel_rfl) (fun β ds k=>by kernel_rfl)
noncomputable def Vd (C:ag) (ah aq:Int) (af:List V):Option (List V):=
 bif ((af.length:Int):Int)==0 then
  some [.int .i64 ah,.int .i64 aq,.list aa ([]:List V)]
 else
  bif (decide (0≤(af.length:Int)))&&((decide ((af.length:Int)≤(af.length:Int)))&&(Nat.ble ((((af.length:Int):Int).toNat)*40) bP)) then
  (Loop (GU C af (af.length:Int) ah aq af 0 0 ([]:List V)) (0,List.replicate (((af.length:Int):Int).toNat) (V.agg [.int .i64 0,.int .i64 0,.list aa ([]:List V)]))).bind (un fun (j7:Int)=>un fun (m7:Bool) (ag2:List V)=>
   (C kR [.int .i64 ah,.list aa ag2]).bind fun r7=>
   some [.int .i64 ((V.nth r7 0).toInt),.int .i64 ((V.nth (r7.drop 1) 0).toInt),.list aa ((V.nth ((r7.drop 1).drop 1) 0).toList)])
  else none
theorem ag3 {ah aq:Int} {af:List V} {r:Option (List V)} (h:Vd CC ah aq af=r):CC uR [.int .i64 ah,.int .i64 aq,.list aa af]=r:=
 bh (key:=59) (L:=Vc CC) (bs:=[.loop (av [1,1,1,0,1,0,0] Vb)]) (by kernel_rfl) (bu (ag1 CC) aw) (bd (by kernel_rfl) h)
noncomputable def Ve (C:ag) (ah aq:Int) (af:List V):Option (List V):=
 (C AU [.int .i64 ah,.int .i64 aq,.list aa af]).bind fun r1=>
 bif !((V.nth r1 0).toBool) then
  some [.int .i64 0,.int .i64 0,.list aa ([]:List V)]
 else
  (C uR [.int .i64 ah,.int .i64 aq,.list aa af]).bind fun r2=>
  some [.int .i64 ((V.nth r2 0).toInt),.int .i64 ((V.nth (r2.drop 1) 0).toInt),.list aa ((V.nth ((r2.drop 1).drop 1) 0).toList)]
theorem ag4 {ah aq:Int} {af:List V} {r:Option (List V)} (h:Ve CC ah aq af=r):CC Fq [.int .i64 ah,.int .i64 aq,.list aa af]=r:=
 bh (key:=41) (L:=cw) (bs:=[]) (by kernel_rfl) aw (bd (by kernel_rfl) h)
end Go.AM
set_option maxRecDepth 100000
namespace Go.AM
open Go.Proofs Ex
theorem vD:CC p5 []=some (eJ et):=ad2 rfl
theorem GV:CC uT []=some (eJ jK):=ad4 rfl
theorem Cc:CC sR []=some (eJ jt):=by
 refine ad5 ?_
 unfold S7
 refine bs vD ?_
 simp[eJ,et,jt,Ex.op,Ex.bx,Ex.kids,dg]
theorem Vf (o:Int) (l:List Ex):(l.filter fun k=> !(decide (k.op=o)))=l.filter fun k=>decide (k.op≠o):=by
 congr 1;funext k;simp
theorem Vg {ks:List Ex} (hlen:ks.length≤1000000):CC sP [.list aa (ks.map enc)]=some [.bool (ks.any fun k=>decide (k.op=1))]:=aeZ hlen
theorem ag5 {ks:List Ex} (hn:ks.length≤1000000): ∃b,CC FO [.list aa (ks.map enc)]=some [.bool b,.list aa ((ks.filter (fun k=>decide (k.op≠1))).map enc)]:=by
 rw[←Vf];exact ae1 hn
theorem ag6 {ks:List Ex} (hn:ks.length≤1000000): ∃b,CC FM [.list aa (ks.map enc)]=some [.bool b,.list aa ((ks.filter (fun k=>decide (k.op≠2))).map enc)]:=by
 rw[←Vf];exact ae5 hn
theorem GW {o:Int} {ks:List Ex} (h: ∀k∈ks,k.Ok): ∀k∈bp o ks,k.Ok:=fun x hx=>by
 obtain ⟨k,h1,U|U⟩:=nZ.1 hx
 ·have:=h k h1
  obtain ⟨o2,l2,jM⟩:=k
  exact this.mf x U.2
 ·rw[U.2];exact h k h1
theorem ag7 {n:Int} {ks:List Ex} (hk: ∀k∈ks,Gd n k) (hs:aJ ks≤1000000):CC FA [.list aa (ks.map enc)]=some (eJ (dN 5 0 ks)):=by
 have hl:=kU ks
 have a1:=rB 5 ks
 have a2:=kU (bp 5 ks)
 refine agY ?_
 unfold U8
 rw[s4,Mr hk]
 refine bs (Vg (by omega)) ?_
 cases hu:ks.any fun k=>decide (k.op=1) with
 | true=>
  refine bT rfl ?_
  refine bs vD ?_
  rfl
 | false=>
  refine bF rfl ?_
  refine bs (Mc (by omega) (by omega)) ?_
  obtain ⟨b,e⟩:=ag6 (ks:=bp 5 ks) (by omega)
  refine bs e ?_
  cases b
  ·exact bF rfl (bs GV (bs (p9 (z:=jK)) rfl))
  ·exact bT rfl (bs GV (bs (p9 (z:=jK)) rfl))
section
variable {n:Int} {ks:List Ex} (hk: ∀k∈ks,Gd n k) (au: ∀k∈ks,k.Ok) (hs:aJ ks≤1000000)
include hk au hs
theorem ag8:CC Fz [.list aa (ks.map enc)]=some (eJ (dN 4 0 ks)):=by
 have hl:=kU ks
 have a1:=rB 4 ks
 have a2:=kU (bp 4 ks)
 refine agX ?_
 unfold U7
 rw[vd,Tu hk]
 refine bs (ae7 (by omega)) ?_
 cases hu:ks.any univ with
 | true=>
  refine bT rfl ?_
  refine bs Cc ?_
  rfl
 | false=>
  refine bF rfl ?_
  refine bs (Mc (by omega) (by omega)) ?_
  obtain ⟨b,e⟩:=ag5 (ks:=bp 4 ks) (by omega)
  refine bs e ?_
  obtain ⟨b2,e2⟩:=U6 (l:=(bp 4 ks).filter fun k=>decide (k.op≠1)) (by have:=tE (fun k:Ex=>decide (k.op≠1)) (bp 4 ks);omega) fun k h=>GW au k (oC.1 h).1
  cases b
  ·refine bF rfl ?_
   refine bs e2 ?_
   cases b2
   ·exact bF rfl (bs vD (bs (p9 (z:=et)) rfl))
   ·exact bT rfl (bs vD (bs (p9 (z:=et)) rfl))
  ·refine bT rfl ?_
   refine bs e2 ?_
   cases b2
   ·exact bF rfl (bs vD (bs (p9 (z:=et)) rfl))
   ·exact bT rfl (bs vD (bs (p9 (z:=et)) rfl))
theorem ag9:CC FB [.list aa (ks.map enc)]=some (eJ (dN 6 0 ks)):=by
 have hl:=kU ks
 have a1:=rB 6 ks
 have a2:=kU (bp 6 ks)
 refine agZ ?_
 unfold U9
 rw[xT,aeu hk]
 refine bs (Vg (by omega)) ?_
 cases hu:ks.any fun k=>decide (k.op=1) with
 | true=>
  refine bT rfl ?_
  refine bs vD ?_
  rfl
 | false=>
  refine bF rfl ?_
  refine bs (Mc (by omega) (by omega)) ?_
  obtain ⟨b,e⟩:=ae9 (ks:=bp 6 ks) (by omega)
  refine bs e ?_
  obtain ⟨b2,e2⟩:=U6 (l:=(bp 6 ks).filter fun k=> !(univ k)) (by have:=tE (fun k:Ex=> !(univ k)) (bp 6 ks);omega) fun k h=>GW au k (oC.1 h).1
  cases b
  ·refine bF rfl ?_
   refine bs e2 ?_
   cases b2
   ·exact bF rfl (bs Cc (bs (p9 (z:=jt)) rfl))
   ·exact bT rfl (bs Cc (bs (p9 (z:=jt)) rfl))
  ·refine bT rfl ?_
   refine bs e2 ?_
   cases b2
   ·exact bF rfl (bs Cc (bs (p9 (z:=jt)) rfl))
   ·exact bT rfl (bs Cc (bs (p9 (z:=jt)) rfl))
theorem rJ {o:Int} (ho:o=4∨o=5∨o=6):CC kR [.int .i64 o,.list aa (ks.map enc)]=some (eJ (dN o 0 ks)):=by
 refine Va ?_
 unfold M0
 rcases ho with rfl|rfl|rfl
 ·exact bT rfl (bs (ag8 hk au hs) rfl)
 ·exact bF rfl (bT rfl (bs (ag7 hk hs) rfl))
 ·exact bF rfl (bF rfl (bT rfl (bs (ag9 hk au hs) rfl)))
end
theorem M1 (k:Ex):[V.agg [.int .i64 k.op,.int .i64 k.bx,.list aa (k.kids.map enc)]]=[k].map enc:=by rw[←dg];rfl
theorem GX {n o:Int} {k:Ex} (hk:Gd n k) (ho:o=7∨o=8):CC kR [.int .i64 o,.list aa ([k].map enc)]=some (eJ (dN o 0 [k])):=by
 refine Va ?_
 unfold M0
 rcases ho with rfl|rfl
 ·refine bF rfl (bF rfl (bF rfl (bF rfl (bs (a:=k.enc) rfl (bF rfl (bT rfl ?_))))))
  rw[xU,aW,bc,a9,df,df,df]
  by_cases h1:k.op=1
  ·rw[aj h1,aj (.inl h1)];exact bs GV rfl
  ·rw[ai h1]
   by_cases U:k.op=2
   ·rw[aj U,aj (.inr U)];exact bs GV rfl
   ·rw[ai U,ai (show¬(k.op=1∨k.op=2) by omega)]
    by_cases h7:k.op=7
    ·rw[aj h7,aj (.inl h7)];rfl
    ·rw[ai h7]
     refine bs (Bw k) ?_
     cases hu:univ k with
     | true=>rw[aj (.inr rfl)];exact bT rfl rfl
     | false=>
      rw[ai (by rintro (h|h);exact h7 h;cases h)]
      refine bF rfl ?_
      rw[M1];rfl
 ·refine bF rfl (bF rfl (bF rfl (bF rfl (bs (a:=k.enc) rfl (bT rfl ?_)))))
  rw[xV,aW,bc,a9,df]
  by_cases h8:k.op=8
  ·rw[aj h8,aj h8]
   have hs:=eO hk.shape
   obtain ⟨o2,l2,jM⟩:=k
   simp only[Ex.op,Ex.kids,Ex.bx] at*
   match jM,(show (jM.length:Int)=1 by omega) with
   | [x],_=>
    refine bT (by simp) (bs (a:=x.enc) rfl ?_)
    rw[aW,bc,a9];rfl
  ·rw[ai h8,ai h8,M1];rfl
theorem Vh {α:Type} (a:List α) (x y:α) (b:List α) {i:Nat} (h:i=a.length):(a++x::b).set i y=(a++[y])++b:=by
 subst h;simp[List.set_append_right]
theorem aha {ks:List Ex} {a b c d:Int} {l1 l2:List V} (hn:ks.length≤1000000) (ih: ∀k∈ks,CC uR (bS k [])=some (eJ (aH k))):
  ∀(ax pre:List Ex),ks=pre++ax→∃t,Loop (GU CC (ks.map enc) ((ks.map enc).length:Int) a b l1 c d l2) (((pre.length:Nat):Int),(pre.map aH).map enc++List.replicate ax.length (V.agg [.int .i64 0,.int .i64 0,.list aa ([]:List V)]))=some (((ks.map enc).length:Int),t,(ks.map aH).map enc):=by
 intro ax
 induction ax with
 | nil=>
  intro pre e
  rw[cR] at e
  subst e
  refine ⟨false,aS ?_⟩
  simp only[GU,B9,un,aL]
  rw[az,ai (by omega),b7 (by omega)]
  simp
 | cons k ax dW=>
  intro pre e
  have bU:pre.length<ks.length:=by rw[e];simp
  have bI:idx (ks.map enc) (pre.length:Int)=some k.enc:=by rw[e];exact ga _ _ _
  obtain ⟨t,ht⟩:=dW (pre++[k]) (by simp[e])
  refine ⟨t,(bJ ?_).trans ht⟩
  simp only[GU,B9,un,aL]
  rw[az,aj (by omega),bI]
  simp only[Option.bind_some,aW,bc,a9]
  refine bs (ih k (by rw[e];simp)) ?_
  refine bT (by simp only[aM,eg,bZ,aL,tB,List.length_cons];omega) ?_
  refine bs (a:=V.agg [.int .i64 0,.int .i64 0,.list aa ([]:List V)]) ?_ ?_
  ·rw[Int.toNat_natCast,iW (by simp)]
   simp
  ·rw[wrap64 (by omega) (by omega),Int.toNat_natCast,List.length_cons,List.replicate_succ,Vh _ _ _ _ (by simp)]
   show some (Sum.inl _)=some (Sum.inl _)
   refine congrArg (fun x=>some (Sum.inl x)) (Prod.ext ?_ ?_)
   ·simp
   ·simp only[eh,cy,fD]
    rw[dg (aH k)];rfl
theorem Vi {n:Int} (hn:n≤6): ∀e:Ex,e.wf n=true→e.size≤1000000→CC uR (bS e [])=some (eJ (aH e)):=
 ind fun o l ks ih hw hs=>by
  obtain ⟨h1,U⟩:=gS hw
  have hl:=kU ks
  simp only[size] at hs
  have h3:=eO h1
  refine ag3 ?_
  unfold Vd
  simp only[Ex.op,Ex.kids,Ex.bx,aL,df]
  rw[mi]
  by_cases h0:ks=[]
  ·subst h0
   rw[aj (by simp),kg (by simp only[List.length_nil] at h3;omega)]
   rfl
  ·have hp:0<ks.length:=List.length_pos_iff.2 h0
   rw[ai (by omega)]
   refine bT (by simp only[aM,eg,cV,gz,Int.toNat_natCast];omega) ?_
   obtain ⟨t,ht⟩:=aha (a:=o) (b:=l) (c:=0) (d:=0) (l1:=ks.map enc) (l2:=[]) (ks:=ks) (by omega) (fun k hk=>ih k hk (U k hk) (by have:=s0 hk;omega)) ks [] rfl
   rw[aL] at ht
   refine bs ht ?_
   have hg: ∀k∈ks.map aH,Gd n k:=fun x hx=>by
    obtain ⟨k,hk,rfl⟩:=gH.1 hx
    exact mj k (U k hk)
   have hz:aJ (ks.map aH)≤aJ ks:=by
    clear ht h3 h1 hw ih hp h0 hl hs hg
    induction ks with
    | nil=>simp[aJ]
    | cons k ks ih=>have a:=xX k (U k (by simp));have b:=ih fun k hk=>U k (by simp[hk]);simp only[cy,aJ];omega
   have au: ∀k∈ks.map aH,k.Ok:=fun k hk=>m8 hn k (hg k hk).2 (by have:=s0 hk;omega)
   rcases (show (o=4∨o=5∨o=6)∨(o=7∨o=8) by omega) with ho|ho
   ·obtain rfl:l=0:=by omega
    exact bs (rJ hg au (by omega) ho) rfl
   ·obtain rfl:l=0:=by omega
    have h5:ks.length=1:=by omega
    match ks,h5 with
    | [k],_=>exact bs (GX (hg (aH k) (by simp)) ho) rfl
theorem ahb (e:Ex) (h:e.Ok):CC Fq (bS e [])=some (eJ (if e.val 6=0 then aH e else aR)):=by
 refine ag4 ?_
 unfold Ve
 refine bs (Tq e h) ?_
 by_cases hv:e.val 6=0
 ·have:=lC hv
  rw[aj hv]
  refine bF (by simp[hv]) ?_
  exact bs (Vi (by omega) e this.2.2 (by omega)) rfl
 ·rw[ai hv]
  refine bT (by simp[hv]) ?_
  rfl
end Go.AM
set_option maxRecDepth 100000
namespace Go.AM
open Go.Proofs
def tab {α:Type} (n:Nat) (g:Nat→α):List α:=(List.range n).map g
section
variable {α β:Type} {n i:Nat} {g h:Nat→α}
@[simp] theorem alU:(tab n g).length=n:=by simp[tab]
end
section
variable {γ:Type} {n i:Nat} {g:Nat→V}
theorem nh {es:List V} {v:V} (hi:es[i]? =some v) {K:V→Option γ}:(bif (decide (0≤(i:Int)))&&(decide ((i:Int)<(es.length:Int))) then (es[((i:Int)).toNat]?).bind K else none)=K v:=by
 have hl:i<es.length:=by
  rcases pt i es.length with h|h
  ·exact h
  ·rw[zc h] at hi;cases hi
 rw[Int.toNat_natCast,hi,tF.2 ⟨dr (by omega),dr (by omega)⟩]
 rfl
end
theorem cap {a b m:Nat} (h:a+b≤10000000) (hm:m≤1000):Nat.ble ((a+b)*m) bP=true:=by
 rw[cV,gz]
 have:=Nat.mul_le_mul h hm
 omega
theorem ahc {n m:Nat} (h:n≤10000000) (hm:m≤1000):((decide (0≤(n:Int)))&&((decide ((n:Int)≤(n:Int)))&&(Nat.ble (((n:Int).toNat)*m) bP)))=true:=by
 have U:=Nat.mul_le_mul h hm
 rw[Int.toNat_natCast]
 refine tF.2 ⟨dr (by omega),tF.2 ⟨dr (by omega),?_⟩⟩
 rw[cV,gz]
 omega
theorem jx {i:Nat} (h:i≤1000000000):IntKind.wrap .i64 ((i:Int)+1)=((i+1:Nat):Int):=by rw[wrap64 (by omega) (by omega)];omega
theorem lE {i n:Nat} (h:i<n):decide ((i:Int)<(n:Int))=true:=dr (by omega)
section
variable {X R:Type} {step:X→Option (X ⊕ R)}
theorem M3 (n:Nat) (s:Nat→X) (r:R) (h: ∀i,i<n→step (s i)=some (.inl (s (i+1)))) (he:step (s n)=some (.inr r)):Loop step (s 0)=some r:=aa5 s n h he
end
end Go.AM
set_option maxRecDepth 100000
namespace Go.AM
open Go.Proofs Ex
def oneOf (o:Int):List Ex→Ex
 | [k]=>k
 | l=> .node o 0 l
mutual
def bH (c:Int):Ex→Ex
 | .node o l ks=>
  if o=3 then (if l=c then jK else et)
  else if o=4∨o=6∨o=8 then .node o 0 (yF c ks)
  else if o=7 then .node 5 0 [(yF c ks).getD 0 aR,.node o l ks]
  else if o=5 then oneOf 4 (iq c ks)
  else et
def yF (c:Int):List Ex→List Ex
 | []=>[]
 | k::ks=>bH c k::yF c ks
def iq (c:Int):List Ex→List Ex
 | []=>[]
 | k::ks=>oneOf 5 (bH c k::ks)::(if k.cH=true then iq c ks else [])
end
theorem Vj {c:Int}: ∀ks,yF c ks=ks.map (bH c)
 | []=>by simp only[yF,fD]
 | k::ks=>by simp only[yF,cy,Vj ks]
theorem ov {c o l:Int} {ks:List Ex}:bH c (.node o l ks)=if o=3 then (if l=c then jK else et) else if o=4∨o=6∨o=8 then .node o 0 (ks.map (bH c)) else if o=7 then .node 5 0 [(ks.map (bH c)).getD 0 aR,.node o l ks] else if o=5 then oneOf 4 (iq c ks) else et:=by
 rw[bH,Vj]
theorem yG {c:Int} {k:Ex} {ks:List Ex}:iq c (k::ks)=oneOf 5 (bH c k::ks)::(if k.cH=true then iq c ks else []):=by rw[iq]
theorem ahd {o:Int} {k:Ex} {l:List Ex}:oneOf o (k::l)=if l=[] then k else .node o 0 (k::l):=by
 cases l with
 | nil=>rfl
 | cons x l=>rw[ai (by simp)];rfl
theorem Vk {n:Int}:et.wf n=true:=vc (by simp[dM]) (by simp)
theorem ahe {n:Int}:jK.wf n=true:=vc (by simp[dM]) (by simp)
theorem ahf {n o l len:Int} (h:dM o l len n=true) (ho:o=4∨o=6∨o=8):dM o 0 len n=true:=by
 rcases eO h with h|⟨rfl,h⟩
 ·omega
 ·assumption
theorem Vl {n:Int} {o:Int} (ho:o=4∨o=5) {len:Int} (h:2≤len):dM o 0 len n=true:=by
 unfold dM
 rcases ho with rfl|rfl<;>simp[h]
theorem Vm {n:Int} {o:Int} (ho:o=4∨o=5) {l:List Ex} (hl:l≠[]) (h: ∀k∈l,k.wf n=true):(oneOf o l).wf n=true:=by
 match l,hl with
 | [k],_=>exact h k (by simp)
 | k::k2::l,_=>exact vc (Vl ho (by simp only[List.length_cons];omega)) h
theorem Vn {c:Int} {ks:List Ex} (h:ks≠[]):iq c ks≠[]:=by
 cases ks with
 | nil=>exact absurd rfl h
 | cons k ks=>rw[yG];simp
theorem GY {n c:Int}: ∀{ks:List Ex},(∀k∈ks,k.wf n=true)→(∀k∈ks,(bH c k).wf n=true)→∀x∈iq c ks,x.wf n=true
 | [],_,_,x,hx=>by rw[iq] at hx;cases hx
 | k::ks,h1,U,x,hx=>by
  rw[yG] at hx
  rcases dx.1 hx with rfl|hx
  ·refine Vm (.inr rfl) (by simp) fun y hy=> ?_
   rcases dx.1 hy with rfl|hy
   ·exact U k (by simp)
   ·exact h1 y (by simp[hy])
  ·split at hx
   ·exact GY (fun y hy=>h1 y (by simp[hy])) (fun y hy=>U y (by simp[hy])) x hx
   ·cases hx
theorem tf {n c:Int}: ∀e:Ex,e.wf n=true→(bH c e).wf n=true:=ind fun o l ks ih hw=>by
 obtain ⟨h1,U⟩:=gS hw
 have hk: ∀k∈ks,(bH c k).wf n=true:=fun k hk=>ih k hk (U k hk)
 rw[ov]
 split
 ·split
  ·exact ahe
  ·exact Vk
 split
 ·next _ ho=>
  refine vc (by rw[aL];exact ahf h1 ho) fun x hx=> ?_
  obtain ⟨k,mS,rfl⟩:=gH.1 hx
  exact hk k mS
 split
 ·next _ _ ho=>
  subst ho
  have hl:ks.length=1:=by rcases eO h1 with h|⟨_,h|h|h|h|h|h|h⟩<;>omega
  obtain ⟨k,rfl⟩:=vQ.1 hl
  refine vc (Vl (.inr rfl) (by simp)) fun x hx=> ?_
  rcases dx.1 hx with rfl|hx
  ·exact hk k (by simp)
  ·rw[ez.1 hx];exact hw
 split
 ·next _ _ _ ho=>
  subst ho
  have hl:2≤ks.length:=by rcases eO h1 with h|⟨_,h|h|h|h|h|h|h⟩<;>omega
  exact Vm (.inl rfl) (Vn (by intro h;rw[h] at hl;simp at hl)) (GY U hk)
 ·exact Vk
theorem Vo {o:Int} {l:List Ex}:(oneOf o l).size≤1+aJ l:=by
 match l with
 | []=>simp[oneOf,size,aJ]
 | [k]=>simp[oneOf,aJ]
 | k::k2::l=>simp[oneOf,size]
theorem M4 {f:Ex→Ex}: ∀{ks:List Ex},(∀k∈ks,(f k).size≤k.size*k.size)→aJ (ks.map f)≤aJ ks*aJ ks
 | [],_=>by simp[aJ]
 | k::ks,h=>by
  have ih:=M4 (f:=f) (ks:=ks) fun x hx=>h x (by simp[hx])
  have hk:=h k (by simp)
  simp only[cy,aJ,dw,Nat.mul_add]
  omega
theorem M5 {c:Int}: ∀{ks:List Ex},(∀k∈ks,(bH c k).size≤k.size*k.size)→1+aJ (iq c ks)≤(1+aJ ks)*(1+aJ ks)
 | [],_=>by rw[iq];simp[aJ]
 | k::ks,h=>by
  have ih:=M5 (c:=c) (ks:=ks) fun x hx=>h x (by simp[hx])
  have hk:=h k (by simp)
  have h1:(oneOf 5 (bH c k::ks)).size≤1+((bH c k).size+aJ ks):=Vo
  have hp:=k.size_pos
  have U:aJ (if k.cH=true then iq c ks else [])≤aJ (iq c ks):=by
   split
   ·exact b9 _
   ·simp[aJ]
  have h3:1*aJ ks≤k.size*aJ ks:=dF _ hp
  have h4:aJ ks*k.size=k.size*aJ ks:=oA _ _
  rw[yG]
  simp only[aJ,dw,Nat.mul_add] at*
  omega
theorem M6 {c:Int}: ∀e:Ex,(∀n,e.wf n=true→(bH c e).size≤e.size*e.size):=ind fun o l ks ih n hw=>by
 obtain ⟨h1,U⟩:=gS hw
 have hk: ∀k∈ks,(bH c k).size≤k.size*k.size:=fun k hk=>ih k hk n (U k hk)
 have h3:1*1≤(Ex.node o l ks).size*(Ex.node o l ks).size:=Nat.mul_le_mul (size_pos _) (size_pos _)
 rw[ov]
 split
 ·split
  ·exact h3
  ·exact h3
 split
 ·have:=M4 hk
  simp only[size,dw,Nat.mul_add] at*
  omega
 split
 ·next _ _ ho=>
  subst ho
  have hl:ks.length=1:=by rcases eO h1 with h|⟨_,h|h|h|h|h|h|h⟩<;>omega
  obtain ⟨k,rfl⟩:=vQ.1 hl
  have:=hk k (by simp)
  have hp:=k.size_pos
  simp only[cy,fD,zk,size,aJ,dw,Nat.mul_add,Nat.add_zero] at*
  omega
 split
 ·have h4:=M5 hk
  have h5:(oneOf 4 (iq c ks)).size≤1+aJ (iq c ks):=Vo
  show _≤(1+aJ ks)*(1+aJ ks)
  omega
 ·exact h3
section
variable {n c:Int}
theorem ahg {o l:Int} {ks:List Ex} (ho:o=4∨o=6∨o=8):aH (bH c (.node o l ks))=dN o 0 (ks.map fun k=>aH (bH c k)):=by
 rw[ov,ai (by omega),aj ho,mi,List.map_map]
 rfl
theorem ahh {l:Int} {k:Ex}:aH (bH c (.node 7 l [k]))=dN 5 0 [aH (bH c k),aH (.node 7 l [k])]:=by
 rw[ov,ai (by omega),ai (by omega),aj rfl,mi]
 rfl
def GZ (c:Int) (k:Ex) (ks:List Ex):Ex:=if (aH (bH c k)).op=1 then aH (bH c k) else dN 5 0 (aH (bH c k)::ks.map aH)
theorem ahi {k:Ex} {ks:List Ex} (hk:k.wf n=true) (aY: ∀x∈ks,x.wf n=true):GZ c k ks=aH (oneOf 5 (bH c k::ks)):=by
 have hg:=mj (n:=n) _ (tf (c:=c) k hk)
 unfold GZ
 rw[ahd]
 by_cases hn:ks=[]
 ·subst hn
  rw[aj rfl,fD,aeG hg]
  split<;>rfl
 ·rw[ai hn,mi,cy]
  by_cases h1:(aH (bH c k)).op=1
  ·rw[aj h1,s4,aj,empty_eq hg h1]
   have Ey: ∀x∈aH (bH c k)::ks.map aH,Gd n x:=fun x hx=>by
    rcases dx.1 hx with rfl|hx
    ·exact hg
    ·obtain ⟨y,hy,rfl⟩:=gH.1 hx
     exact mj y (aY y hy)
   rw[Mr Ey]
   simp[h1]
  ·rw[ai h1]
def th (c:Int):List Ex→List Ex
 | []=>[]
 | k::ks=>GZ c k ks::(if k.cH=true then th c ks else [])
theorem parts_eq: ∀{ks:List Ex},(∀x∈ks,x.wf n=true)→th c ks=(iq c ks).map aH
 | [],_=>by rw[iq];rfl
 | k::ks,h=>by
  have ih:=parts_eq (ks:=ks) fun x hx=>h x (by simp[hx])
  rw[yG,cy,←ahi (h k (by simp)) (fun x hx=>h x (by simp[hx]))]
  unfold th
  refine congrArg _ ?_
  split
  ·exact ih
  ·rfl
theorem ahj {l:Int} {ks:List Ex} (bD:ks≠[]) (hk: ∀x∈ks,x.wf n=true):aH (bH c (.node 5 l ks))=dN 4 0 (th c ks):=by
 rw[ov,ai (by omega),ai (by omega),ai (by omega),aj rfl,parts_eq hk]
 have hw:=GY (c:=c) hk fun k mS=>tf k (hk k mS)
 have hn:=Vn (c:=c) bD
 generalize iq c ks=L at*
 match L,hn with
 | [x],_=>exact (aeF (mj x (hw x (by simp)))).symm
 | x::y::L,_=>
  show aH (.node 4 0 _)=_
  rw[mi]
end
end Go.AM
set_option maxRecDepth 100000
namespace Go.AM
open Go.Proofs
noncomputable def Vp (C:ag) (cz:Int) (cp:Bool) (ah aq:Int) (af:List V):Option (List V):=
 bif cp then
  some [.int .i64 ah,.int .i64 aq,.list aa af]
 else
  (C uR [.int .i64 ah,.int .i64 aq,.list aa af]).bind fun r1=>
  some [.int .i64 ((V.nth r1 0).toInt),.int .i64 ((V.nth (r1.drop 1) 0).toInt),.list aa ((V.nth ((r1.drop 1).drop 1) 0).toList)]
theorem ahk {cz:Int} {cp:Bool} {ah aq:Int} {af:List V} {r:Option (List V)} (h:Vp CC cz cp ah aq af=r):CC AW [.int .i64 cz,.bool cp,.int .i64 ah,.int .i64 aq,.list aa af]=r:=
 bh (key:=83) (L:=cw) (bs:=[]) (by kernel_rfl) aw (bd (by kernel_rfl) h)
noncomputable abbrev Vq:Code:=cF Try.prog (ay.aV 68)
noncomputable def Cd (C:ag) (t21:List V) (t22 mo:Int) (mq:Bool) (dt da:Int) (cD:List V) (ew ey rK rL:Int) (rM:Bool) (ch cU:List V) (Ce t23:Int) (mr fQ:List V) {β:Type} (kn:(Int × Int × (List V) × (List V))→Option β) (kr:(Int × Int × Bool × (List V) × (List V))→Option β):Option β:=
 bif decide ((t23:Int)<t22) then
  (idx t21 t23).bind fun x1=>
  (C o4 [.int .i64 mo,.bool mq,.int .i64 ((x1.cell 0).toInt),.int .i64 ((x1.cell 1).toInt),.list aa ((x1.cell 2).toList)]).bind fun r2=>
  bif (decide (0≤t23))&&(decide (t23<(mr.length:Int))) then
  (mr[(t23:Int).toNat]?).bind fun x3=>
  bif (decide (0≤t23))&&(decide (t23<(fQ.length:Int))) then
   (fQ[(t23:Int).toNat]?).bind fun x4=>
   bif (V.nth ((((((r2.drop 1).drop 1).drop 1).drop 1).drop 1).drop 1) 0).toBool then
   kn (IntKind.wrap .i64 (Ce+1),IntKind.wrap .i64 (t23+1),mr.set ((t23:Int).toNat) (.agg [.int .i64 ((V.nth r2 0).toInt),.int .i64 ((V.nth (r2.drop 1) 0).toInt),.list aa ((V.nth ((r2.drop 1).drop 1) 0).toList)]),fQ.set ((t23:Int).toNat) (.agg [.int .i64 ((V.nth (((r2.drop 1).drop 1).drop 1) 0).toInt),.int .i64 ((V.nth ((((r2.drop 1).drop 1).drop 1).drop 1) 0).toInt),.list aa ((V.nth (((((r2.drop 1).drop 1).drop 1).drop 1).drop 1) 0).toList)]))
   else
   kn (Ce,IntKind.wrap .i64 (t23+1),mr.set ((t23:Int).toNat) (.agg [.int .i64 ((V.nth r2 0).toInt),.int .i64 ((V.nth (r2.drop 1) 0).toInt),.list aa ((V.nth ((r2.drop 1).drop 1) 0).toList)]),fQ.set ((t23:Int).toNat) (.agg [.int .i64 ((V.nth (((r2.drop 1).drop 1).drop 1) 0).toInt),.int .i64 ((V.nth ((((r2.drop 1).drop 1).drop 1).drop 1) 0).toInt),.list aa ((V.nth (((((r2.drop 1).drop 1).drop 1).drop 1).drop 1) 0).toList)]))
  else none
  else none
 else
  kr (Ce,t23,decide ((t23:Int)<t22),mr,fQ)
noncomputable def G0 (C:ag) (t21:List V) (t22 mo:Int) (mq:Bool) (dt da:Int) (cD:List V) (ew ey rK rL:Int) (rM:Bool) (ch cU:List V):(Int × Int × (List V) × (List V))→Option ((Int × Int × (List V) × (List V)) ⊕ (Int × Int × Bool × (List V) × (List V))):=un fun Ce=>un fun t23=>un fun mr fQ=>Cd C t21 t22 mo mq dt da cD ew ey rK rL rM ch cU Ce t23 mr fQ (fun y=>some (.inl y)) (fun r=>some (.inr r))
noncomputable def Vr (C:ag):ct:=fun β n ds k=>
 bif Nat.beq n 65 then bW K2 [true,false,false,true,false,false,false,false,false,false,false,false,false,false,true,true,false,false] [[0,2,3,0,0,5,6,7,8,9,10,11,12,13,14,0,0,17,18]] (@Cd C) ds k else
 none
abbrev ahl (C:ag) (b:cq):Prop:=cr Try.prog ay C (Vr C) 68 (cK Try.prog (ay.aV 68)) (ay.sin 68).bj.length b
theorem ahm (C:ag):ahl C (.loop (av [1,1,1,0,1,0,0] Vq)):=
 bY K2 [true,false,false,true,false,false,false,false,false,false,false,false,false,false,true,true,false,false] [[0,2,3,0,0,5,6,7,8,9,10,11,12,13,14,0,0,17,18]] (@Cd C) (by kernel_rfl) (aZ (bs:=[]) (by kernel_rfl) aw) (fun ds=>by kernel_rfl) (fun i x=>by kernel_rfl) (fun i x β k=>by kernel_rfl) (fun β ds k=>by kernel_rfl)
noncomputable def Vs (C:ag) (cz:Int) (cp:Bool) (ah aq:Int) (af:List V):Option (List V):=
 bif (decide (0≤(af.length:Int)))&&((decide ((af.length:Int)≤(af.length:Int)))&&(Nat.ble ((((af.length:Int):Int).toNat)*40) bP)) then
  bif (decide (0≤(af.length:Int)))&&((decide ((af.length:Int)≤(af.length:Int)))&&(Nat.ble ((((af.length:Int):Int).toNat)*40) bP)) then
  (Loop (G0 C af (af.length:Int) cz cp ah aq af 0 0 0 0 false ([]:List V) ([]:List V)) (0,0,List.replicate (((af.length:Int):Int).toNat) (V.agg [.int .i64 0,.int .i64 0,.list aa ([]:List V)]),List.replicate (((af.length:Int):Int).toNat) (V.agg [.int .i64 0,.int .i64 0,.list aa ([]:List V)]))).bind (un fun (M7:Int)=>un fun (mg:Int)=>un fun (o8:Bool)=>un fun (ahn:List V) (aho:List V)=>
   (C kR [.int .i64 ah,.list aa ahn]).bind fun cN=>
   (C kR [.int .i64 ah,.list aa aho]).bind fun eu=>
   bif (ah:Int)==4 then
    some [.int .i64 ((V.nth cN 0).toInt),.int .i64 ((V.nth (cN.drop 1) 0).toInt),.list aa ((V.nth ((cN.drop 1).drop 1) 0).toList),.int .i64 ((V.nth eu 0).toInt),.int .i64 ((V.nth (eu.drop 1) 0).toInt),.list aa ((V.nth ((eu.drop 1).drop 1) 0).toList),.bool (decide ((M7:Int)>0))]
   else
    bif (ah:Int)==6 then
    some [.int .i64 ((V.nth cN 0).toInt),.int .i64 ((V.nth (cN.drop 1) 0).toInt),.list aa ((V.nth ((cN.drop 1).drop 1) 0).toList),.int .i64 ((V.nth eu 0).toInt),.int .i64 ((V.nth (eu.drop 1) 0).toInt),.list aa ((V.nth ((eu.drop 1).drop 1) 0).toList),.bool ((M7:Int)==(af.length:Int))]
    else
    bif (ah:Int)==8 then
     some [.int .i64 ((V.nth cN 0).toInt),.int .i64 ((V.nth (cN.drop 1) 0).toInt),.list aa ((V.nth ((cN.drop 1).drop 1) 0).toList),.int .i64 ((V.nth eu 0).toInt),.int .i64 ((V.nth (eu.drop 1) 0).toInt),.list aa ((V.nth ((eu.drop 1).drop 1) 0).toList),.bool ((M7:Int)==0)]
    else
     some [.int .i64 ((V.nth cN 0).toInt),.int .i64 ((V.nth (cN.drop 1) 0).toInt),.list aa ((V.nth ((cN.drop 1).drop 1) 0).toList),.int .i64 ((V.nth eu 0).toInt),.int .i64 ((V.nth (eu.drop 1) 0).toInt),.list aa ((V.nth ((eu.drop 1).drop 1) 0).toList),.bool false])
  else none
 else none
theorem ahp {cz:Int} {cp:Bool} {ah aq:Int} {af:List V} {r:Option (List V)} (h:Vs CC cz cp ah aq af=r):CC xq [.int .i64 cz,.bool cp,.int .i64 ah,.int .i64 aq,.list aa af]=r:=
 bh (key:=68) (L:=Vr CC) (bs:=[.loop (av [1,1,1,0,1,0,0] Vq)]) (by kernel_rfl) (bu (ahm CC) aw) (bd (by kernel_rfl) h)
noncomputable abbrev G1:Code:=cF Try.prog (ay.aV 70)
noncomputable def yH (C:ag) (t20:List V) (t21 mo:Int) (mq:Bool) (ew ey rK rL:Int) (rM:Bool) (dD ch:List V) (ti:Bool) (t22:Int) (mr fQ:List V) {β:Type} (kn:(Bool × Int × (List V) × (List V))→Option β) (kr:(Bool × Int × Bool × (List V) × (List V))→Option β):Option β:=
 bif decide ((t22:Int)<t21) then
  (idx t20 t22).bind fun x1=>
  bif !ti then
  (C AW [.int .i64 mo,.bool mq,.int .i64 ((x1.cell 0).toInt),.int .i64 ((x1.cell 1).toInt),.list aa ((x1.cell 2).toList)]).bind fun r2=>
  bif (decide (0≤t22))&&(decide (t22<(fQ.length:Int))) then
   (fQ[(t22:Int).toNat]?).bind fun x3=>
   kn (ti,IntKind.wrap .i64 (t22+1),mr,fQ.set ((t22:Int).toNat) (.agg [.int .i64 ((V.nth r2 0).toInt),.int .i64 ((V.nth (r2.drop 1) 0).toInt),.list aa ((V.nth ((r2.drop 1).drop 1) 0).toList)]))
  else none
  else
  (C o4 [.int .i64 mo,.bool mq,.int .i64 ((x1.cell 0).toInt),.int .i64 ((x1.cell 1).toInt),.list aa ((x1.cell 2).toList)]).bind fun r4=>
  bif Nat.ble ((mr.length+([.agg [.int .i64 ((V.nth r4 0).toInt),.int .i64 ((V.nth (r4.drop 1) 0).toInt),.list aa ((V.nth ((r4.drop 1).drop 1) 0).toList)]]:List V).length)*40) bP then
   bif (decide (0≤t22))&&(decide (t22<(fQ.length:Int))) then
   (fQ[(t22:Int).toNat]?).bind fun x5=>
   kn ((V.nth ((((((r4.drop 1).drop 1).drop 1).drop 1).drop 1).drop 1) 0).toBool,IntKind.wrap .i64 (t22+1),mr++([.agg [.int .i64 ((V.nth r4 0).toInt),.int .i64 ((V.nth (r4.drop 1) 0).toInt),.list aa ((V.nth ((r4.drop 1).drop 1) 0).toList)]]:List V),fQ.set ((t22:Int).toNat) (.agg [.int .i64 ((V.nth (((r4.drop 1).drop 1).drop 1) 0).toInt),.int .i64 ((V.nth ((((r4.drop 1).drop 1).drop 1).drop 1) 0).toInt),.list aa ((V.nth (((((r4.drop 1).drop 1).drop 1).drop 1).drop 1) 0).toList)]))
   else none
  else none
 else
  kr (ti,t22,decide ((t22:Int)<t21),mr,fQ)
noncomputable def Cf (C:ag) (t20:List V) (t21 mo:Int) (mq:Bool) (ew ey rK rL:Int) (rM:Bool) (dD ch:List V):(Bool × Int × (List V) × (List V))→Option ((Bool × Int × (List V) × (List V)) ⊕ (Bool × Int × Bool × (List V) × (List V))):=un fun ti=>un fun t22=>un fun mr fQ=>yH C t20 t21 mo mq ew ey rK rL rM dD ch ti t22 mr fQ (fun y=>some (.inl y)) (fun r=>some (.inr r))
noncomputable def Cg (C:ag) (ti:Bool) (t55 ew ey rK rL:Int) (rM:Bool) (fQ G2 dD ch:List V) (t56:Int) (gR:List V) {β:Type} (kn:(Int × (List V))→Option β) (kr:(Int × Bool × (List V))→Option β):Option β:=
 bif decide ((t56:Int)<t55) then
  bif (decide (0≤t56))&&(decide (t56<(G2.length:Int))) then
  (G2[(t56:Int).toNat]?).bind fun eK=>
  bif (((eK.cell 0).toInt):Int)==1 then
   bif (decide (0≤t56))&&(decide (t56<(gR.length:Int))) then
   (gR[(t56:Int).toNat]?).bind fun ka=>
   kn (IntKind.wrap .i64 (t56+1),gR.set ((t56:Int).toNat) (.agg [.int .i64 ((eK.cell 0).toInt),.int .i64 ((eK.cell 1).toInt),.list aa ((eK.cell 2).toList)]))
   else none
  else
   bif (decide (0≤(IntKind.wrap .i64 (t56+1))))&&(decide ((IntKind.wrap .i64 (t56+1))≤(fQ.length:Int))) then
   bif Nat.ble ((([.agg [.int .i64 ((eK.cell 0).toInt),.int .i64 ((eK.cell 1).toInt),.list aa ((eK.cell 2).toList)]]:List V).length+((fQ.drop ((IntKind.wrap .i64 (t56+1):Int).toNat)).take (fQ.length-((IntKind.wrap .i64 (t56+1):Int).toNat))).length)*40) bP then
    (C kR [.int .i64 5,.list aa (([.agg [.int .i64 ((eK.cell 0).toInt),.int .i64 ((eK.cell 1).toInt),.list aa ((eK.cell 2).toList)]]:List V)++((fQ.drop ((IntKind.wrap .i64 (t56+1):Int).toNat)).take (fQ.length-((IntKind.wrap .i64 (t56+1):Int).toNat))))]).bind fun iM=>
    bif (decide (0≤t56))&&(decide (t56<(gR.length:Int))) then
    (gR[(t56:Int).toNat]?).bind fun od=>
    kn (IntKind.wrap .i64 (t56+1),gR.set ((t56:Int).toNat) (.agg [.int .i64 ((V.nth iM 0).toInt),.int .i64 ((V.nth (iM.drop 1) 0).toInt),.list aa ((V.nth ((iM.drop 1).drop 1) 0).toList)]))
    else none
   else none
   else none
  else none
 else
  kr (t56,decide ((t56:Int)<t55),gR)
noncomputable def G3 (C:ag) (ti:Bool) (t55 ew ey rK rL:Int) (rM:Bool) (fQ G2 dD ch:List V):(Int × (List V))→Option ((Int × (List V)) ⊕ (Int × Bool × (List V))):=un fun t56 gR=>Cg C ti t55 ew ey rK rL rM fQ G2 dD ch t56 gR (fun y=>some (.inl y)) (fun r=>some (.inr r))
noncomputable def Vt (C:ag):ct:=fun β n ds k=>
 bif Nat.beq n 81 then bW K3 [true,false,false,true,false,false,false,false,false,false,false,true,true,false,false] [[0,2,3,0,0,5,6,7,8,9,10,11,0,0,14,15]] (@yH C) ds k else
 bif Nat.beq n 225 then bW K4 [false,false,true,false,false,false,false,false,false,true,false,false,false] [[1,2,0,0,4,5,6,7,8,9,0,11,12,13]] (@Cg C) ds k else
 none
abbrev Vu (C:ag) (b:cq):Prop:=cr Try.prog ay C (Vt C) 70 (cK Try.prog (ay.aV 70)) (ay.sin 70).bj.length b
theorem ahq (C:ag):Vu C (.loop (av [1,1,1,1,0,1,0,0] G1)):=
 bY K3 [true,false,false,true,false,false,false,false,false,false,false,true,true,false,false] [[0,2,3,0,0,5,6,7,8,9,10,11,0,0,14,15]] (@yH C) (by kernel_rfl) (aZ (bs:=[]) (by kernel_rfl) aw) (fun ds=>by kernel_rfl) (fun i x=>by kernel_rfl) (fun i x β k=>by kernel_rfl) (fun β ds k=>by kernel_rfl)
theorem ahr (C:ag):Vu C (.loop (av [1,1,1,1,1,1,0,1,0,0] G1)):=
 bY K4 [false,false,true,false,false,false,false,false,false,true,false,false,false] [[1,2,0,0,4,5,6,7,8,9,0,11,12,13]] (@Cg C) (by kernel_rfl) (aZ (bs:=[]) (by kernel_rfl) aw) (fun ds=>by kernel_rfl) (fun i x=>by kernel_rfl) (fun i x β k=>by kernel_rfl) (fun β ds k=>by kernel_rfl)
noncomputable def Vv (C:ag) (cz:Int) (cp:Bool) (ah aq:Int) (af:List V):Option (List V):=
 bif (decide (0≤(af.length:Int)))&&((decide ((af.length:Int)≤(af.length:Int)))&&(Nat.ble ((((af.length:Int):Int).toNat)*40) bP)) then
  (Loop (Cf C af (af.length:Int) cz cp 0 0 0 0 false ([]:List V) ([]:List V)) (true,0,([]:List V),List.replicate (((af.length:Int):Int).toNat) (V.agg [.int .i64 0,.int .i64 0,.list aa ([]:List V)]))).bind (un fun (Vw:Bool)=>un fun (o8:Int)=>un fun (F8:Bool)=>un fun (vE:List V) (Vx:List V)=>
   bif (decide (0≤(vE.length:Int)))&&((decide ((vE.length:Int)≤(vE.length:Int)))&&(Nat.ble ((((vE.length:Int):Int).toNat)*40) bP)) then
   (Loop (G3 C Vw (vE.length:Int) 0 0 0 0 false Vx vE ([]:List V) ([]:List V)) (0,List.replicate (((vE.length:Int):Int).toNat) (V.agg [.int .i64 0,.int .i64 0,.list aa ([]:List V)]))).bind (un fun (p8:Int)=>un fun (xK:Bool) (ahs:List V)=>
    (C kR [.int .i64 4,.list aa ahs]).bind fun kj=>
    (C kR [.int .i64 5,.list aa Vx]).bind fun dO=>
    some [.int .i64 ((V.nth kj 0).toInt),.int .i64 ((V.nth (kj.drop 1) 0).toInt),.list aa ((V.nth ((kj.drop 1).drop 1) 0).toList),.int .i64 ((V.nth dO 0).toInt),.int .i64 ((V.nth (dO.drop 1) 0).toInt),.list aa ((V.nth ((dO.drop 1).drop 1) 0).toList),.bool Vw])
   else none)
 else none
theorem aht {cz:Int} {cp:Bool} {ah aq:Int} {af:List V} {r:Option (List V)} (h:Vv CC cz cp ah aq af=r):CC xr [.int .i64 cz,.bool cp,.int .i64 ah,.int .i64 aq,.list aa af]=r:=
 bh (key:=70) (L:=Vt CC) (bs:=[.loop (av [1,1,1,1,0,1,0,0] G1),.loop (av [1,1,1,1,1,1,0,1,0,0] G1)]) (by kernel_rfl) (bu (ahq CC) (bu (ahr CC) aw)) (bd (by kernel_rfl) h)
noncomputable abbrev G4:Code:=cF Try.prog (ay.aV 50)
noncomputable def G5 (C:ag) (t24:Bool) (dt da:Int) (cD:List V) (ew ey rK rL:Int) (rM:Bool) (ahu M8 ahv ahw:Int) (dD ch cU pj:List V) {β:Type} (kr:(Int × Int × (List V))→Option β):Option β:=
 bif t24 then
  kr (ahv,ahw,pj)
 else
  kr (ahu,M8,cU)
noncomputable def Vy (C:ag):ct:=fun β n ds k=>
 bif Nat.beq n 399 then ij KT [[2,3,4,5,6,7,8,9,0,0,14,15,0]] (@G5 C) ds k else
 none
abbrev ahx (C:ag) (b:cq):Prop:=cr Try.prog ay C (Vy C) 50 (cK Try.prog (ay.aV 50)) (ay.sin 50).bj.length b
theorem ahy (C:ag):ahx C (.cond 24 (av [1,1,0,1,0,1,1,1,0,0,1,0] G4) (av [1,1,0,1,0,1,1,1,0,0,1,1] G4)):=
 iL KT [[2,3,4,5,6,7,8,9,0,0,14,15,0]] (@G5 C) (by kernel_rfl) (aZ (bs:=[]) (by kernel_rfl) aw) (aZ (bs:=[]) (by kernel_rfl) aw) (fun ds=>by kernel_rfl) (fun i β k=>by kernel_rfl) (fun β ds k=>by kernel_rfl)
noncomputable def Vz (C:ag) (cz:Int) (cp:Bool) (ah aq:Int) (af:List V):Option (List V):=
 bif (ah:Int)==2 then
  some [.int .i64 1,.int .i64 0,.list aa ([]:List V),.int .i64 2,.int .i64 0,.list aa ([]:List V),.bool true]
 else
  bif (ah:Int)==3 then
  G5 C ((aq:Int)==cz) ah aq af 0 0 0 0 false 1 0 2 0 ([]:List V) ([]:List V) ([]:List V) ([]:List V) (un fun (M8:Int)=>un fun (ahz:Int) (G6:List V)=>
   some [.int .i64 M8,.int .i64 ahz,.list aa G6,.int .i64 3,.int .i64 aq,.list aa ([]:List V),.bool false])
  else
  bif (ah:Int)==4 then
   bif (ah:Int)==4 then
   (C xq [.int .i64 cz,.bool cp,.int .i64 ah,.int .i64 aq,.list aa af]).bind fun r4=>
   some [.int .i64 ((V.nth r4 0).toInt),.int .i64 ((V.nth (r4.drop 1) 0).toInt),.list aa ((V.nth ((r4.drop 1).drop 1) 0).toList),.int .i64 ((V.nth (((r4.drop 1).drop 1).drop 1) 0).toInt),.int .i64 ((V.nth ((((r4.drop 1).drop 1).drop 1).drop 1) 0).toInt),.list aa ((V.nth (((((r4.drop 1).drop 1).drop 1).drop 1).drop 1) 0).toList),.bool ((V.nth ((((((r4.drop 1).drop 1).drop 1).drop 1).drop 1).drop 1) 0).toBool)]
   else
   bif (ah:Int)==7 then
    (af[0]?).bind fun x5=>
    (C o4 [.int .i64 cz,.bool cp,.int .i64 ((x5.cell 0).toInt),.int .i64 ((x5.cell 1).toInt),.list aa ((x5.cell 2).toList)]).bind fun r6=>
    (C kR [.int .i64 7,.list aa ([.agg [.int .i64 ((V.nth (((r6.drop 1).drop 1).drop 1) 0).toInt),.int .i64 ((V.nth ((((r6.drop 1).drop 1).drop 1).drop 1) 0).toInt),.list aa ((V.nth (((((r6.drop 1).drop 1).drop 1).drop 1).drop 1) 0).toList)]]:List V)]).bind fun r7=>
    (C kR [.int .i64 5,.list aa ([.agg [.int .i64 ((V.nth r6 0).toInt),.int .i64 ((V.nth (r6.drop 1) 0).toInt),.list aa ((V.nth ((r6.drop 1).drop 1) 0).toList)],.agg [.int .i64 ((V.nth r7 0).toInt),.int .i64 ((V.nth (r7.drop 1) 0).toInt),.list aa ((V.nth ((r7.drop 1).drop 1) 0).toList)]]:List V)]).bind fun r8=>
    some [.int .i64 ((V.nth r8 0).toInt),.int .i64 ((V.nth (r8.drop 1) 0).toInt),.list aa ((V.nth ((r8.drop 1).drop 1) 0).toList),.int .i64 ((V.nth r7 0).toInt),.int .i64 ((V.nth (r7.drop 1) 0).toInt),.list aa ((V.nth ((r7.drop 1).drop 1) 0).toList),.bool true]
   else
    bif (ah:Int)==5 then
    (C xr [.int .i64 cz,.bool cp,.int .i64 ah,.int .i64 aq,.list aa af]).bind fun r9=>
    some [.int .i64 ((V.nth r9 0).toInt),.int .i64 ((V.nth (r9.drop 1) 0).toInt),.list aa ((V.nth ((r9.drop 1).drop 1) 0).toList),.int .i64 ((V.nth (((r9.drop 1).drop 1).drop 1) 0).toInt),.int .i64 ((V.nth ((((r9.drop 1).drop 1).drop 1).drop 1) 0).toInt),.list aa ((V.nth (((((r9.drop 1).drop 1).drop 1).drop 1).drop 1) 0).toList),.bool ((V.nth ((((((r9.drop 1).drop 1).drop 1).drop 1).drop 1).drop 1) 0).toBool)]
    else
    some [.int .i64 1,.int .i64 0,.list aa ([]:List V),.int .i64 1,.int .i64 0,.list aa ([]:List V),.bool false]
  else
   bif (ah:Int)==6 then
   bif (ah:Int)==6 then
    (C xq [.int .i64 cz,.bool cp,.int .i64 ah,.int .i64 aq,.list aa af]).bind fun cN=>
    some [.int .i64 ((V.nth cN 0).toInt),.int .i64 ((V.nth (cN.drop 1) 0).toInt),.list aa ((V.nth ((cN.drop 1).drop 1) 0).toList),.int .i64 ((V.nth (((cN.drop 1).drop 1).drop 1) 0).toInt),.int .i64 ((V.nth ((((cN.drop 1).drop 1).drop 1).drop 1) 0).toInt),.list aa ((V.nth (((((cN.drop 1).drop 1).drop 1).drop 1).drop 1) 0).toList),.bool ((V.nth ((((((cN.drop 1).drop 1).drop 1).drop 1).drop 1).drop 1) 0).toBool)]
   else
    bif (ah:Int)==7 then
    (af[0]?).bind fun eK=>
    (C o4 [.int .i64 cz,.bool cp,.int .i64 ((eK.cell 0).toInt),.int .i64 ((eK.cell 1).toInt),.list aa ((eK.cell 2).toList)]).bind fun gh=>
    (C kR [.int .i64 7,.list aa ([.agg [.int .i64 ((V.nth (((gh.drop 1).drop 1).drop 1) 0).toInt),.int .i64 ((V.nth ((((gh.drop 1).drop 1).drop 1).drop 1) 0).toInt),.list aa ((V.nth (((((gh.drop 1).drop 1).drop 1).drop 1).drop 1) 0).toList)]]:List V)]).bind fun iM=>
    (C kR [.int .i64 5,.list aa ([.agg [.int .i64 ((V.nth gh 0).toInt),.int .i64 ((V.nth (gh.drop 1) 0).toInt),.list aa ((V.nth ((gh.drop 1).drop 1) 0).toList)],.agg [.int .i64 ((V.nth iM 0).toInt),.int .i64 ((V.nth (iM.drop 1) 0).toInt),.list aa ((V.nth ((iM.drop 1).drop 1) 0).toList)]]:List V)]).bind fun kb=>
    some [.int .i64 ((V.nth kb 0).toInt),.int .i64 ((V.nth (kb.drop 1) 0).toInt),.list aa ((V.nth ((kb.drop 1).drop 1) 0).toList),.int .i64 ((V.nth iM 0).toInt),.int .i64 ((V.nth (iM.drop 1) 0).toInt),.list aa ((V.nth ((iM.drop 1).drop 1) 0).toList),.bool true]
    else
    bif (ah:Int)==5 then
     (C xr [.int .i64 cz,.bool cp,.int .i64 ah,.int .i64 aq,.list aa af]).bind fun oe=>
     some [.int .i64 ((V.nth oe 0).toInt),.int .i64 ((V.nth (oe.drop 1) 0).toInt),.list aa ((V.nth ((oe.drop 1).drop 1) 0).toList),.int .i64 ((V.nth (((oe.drop 1).drop 1).drop 1) 0).toInt),.int .i64 ((V.nth ((((oe.drop 1).drop 1).drop 1).drop 1) 0).toInt),.list aa ((V.nth (((((oe.drop 1).drop 1).drop 1).drop 1).drop 1) 0).toList),.bool ((V.nth ((((((oe.drop 1).drop 1).drop 1).drop 1).drop 1).drop 1) 0).toBool)]
    else
     some [.int .i64 1,.int .i64 0,.list aa ([]:List V),.int .i64 1,.int .i64 0,.list aa ([]:List V),.bool false]
   else
   bif (ah:Int)==8 then
    (C xq [.int .i64 cz,.bool cp,.int .i64 ah,.int .i64 aq,.list aa af]).bind fun qf=>
    some [.int .i64 ((V.nth qf 0).toInt),.int .i64 ((V.nth (qf.drop 1) 0).toInt),.list aa ((V.nth ((qf.drop 1).drop 1) 0).toList),.int .i64 ((V.nth (((qf.drop 1).drop 1).drop 1) 0).toInt),.int .i64 ((V.nth ((((qf.drop 1).drop 1).drop 1).drop 1) 0).toInt),.list aa ((V.nth (((((qf.drop 1).drop 1).drop 1).drop 1).drop 1) 0).toList),.bool ((V.nth ((((((qf.drop 1).drop 1).drop 1).drop 1).drop 1).drop 1) 0).toBool)]
   else
    bif (ah:Int)==7 then
    (af[0]?).bind fun rD=>
    (C o4 [.int .i64 cz,.bool cp,.int .i64 ((rD.cell 0).toInt),.int .i64 ((rD.cell 1).toInt),.list aa ((rD.cell 2).toList)]).bind fun kj=>
    (C kR [.int .i64 7,.list aa ([.agg [.int .i64 ((V.nth (((kj.drop 1).drop 1).drop 1) 0).toInt),.int .i64 ((V.nth ((((kj.drop 1).drop 1).drop 1).drop 1) 0).toInt),.list aa ((V.nth (((((kj.drop 1).drop 1).drop 1).drop 1).drop 1) 0).toList)]]:List V)]).bind fun dO=>
    (C kR [.int .i64 5,.list aa ([.agg [.int .i64 ((V.nth kj 0).toInt),.int .i64 ((V.nth (kj.drop 1) 0).toInt),.list aa ((V.nth ((kj.drop 1).drop 1) 0).toList)],.agg [.int .i64 ((V.nth dO 0).toInt),.int .i64 ((V.nth (dO.drop 1) 0).toInt),.list aa ((V.nth ((dO.drop 1).drop 1) 0).toList)]]:List V)]).bind fun iQ=>
    some [.int .i64 ((V.nth iQ 0).toInt),.int .i64 ((V.nth (iQ.drop 1) 0).toInt),.list aa ((V.nth ((iQ.drop 1).drop 1) 0).toList),.int .i64 ((V.nth dO 0).toInt),.int .i64 ((V.nth (dO.drop 1) 0).toInt),.list aa ((V.nth ((dO.drop 1).drop 1) 0).toList),.bool true]
    else
    bif (ah:Int)==5 then
     (C xr [.int .i64 cz,.bool cp,.int .i64 ah,.int .i64 aq,.list aa af]).bind fun pg=>
     some [.int .i64 ((V.nth pg 0).toInt),.int .i64 ((V.nth (pg.drop 1) 0).toInt),.list aa ((V.nth ((pg.drop 1).drop 1) 0).toList),.int .i64 ((V.nth (((pg.drop 1).drop 1).drop 1) 0).toInt),.int .i64 ((V.nth ((((pg.drop 1).drop 1).drop 1).drop 1) 0).toInt),.list aa ((V.nth (((((pg.drop 1).drop 1).drop 1).drop 1).drop 1) 0).toList),.bool ((V.nth ((((((pg.drop 1).drop 1).drop 1).drop 1).drop 1).drop 1) 0).toBool)]
    else
     some [.int .i64 1,.int .i64 0,.list aa ([]:List V),.int .i64 1,.int .i64 0,.list aa ([]:List V),.bool false]
theorem ahA {cz:Int} {cp:Bool} {ah aq:Int} {af:List V} {r:Option (List V)} (h:Vz CC cz cp ah aq af=r):CC o4 [.int .i64 cz,.bool cp,.int .i64 ah,.int .i64 aq,.list aa af]=r:=
 bh (key:=50) (L:=Vy CC) (bs:=[.cond 24 (av [1,1,0,1,0,1,1,1,0,0,1,0] G4) (av [1,1,0,1,0,1,1,1,0,0,1,1] G4)]) (by kernel_rfl) (bu (ahy CC) aw) (bd (by kernel_rfl) h)
end Go.AM
set_option maxRecDepth 100000
namespace Go.AM
open Go.Proofs Ex
def rN (c:Int) (e:Ex):List V:=bS (aH (bH c e)) (bS (aH e) [.bool e.cH])
abbrev zE:V:= .agg [.int .i64 0,.int .i64 0,.list aa ([]:List V)]
theorem tj {α:Type} {A:List V} {n:Nat} {z:V} {i:Nat} (h:i=A.length) {K:V→Option α}:(bif (decide (0≤(i:Int)))&&(decide ((i:Int)<((A++List.replicate (n+1) z).length:Int))) then ((A++List.replicate (n+1) z)[((i:Int)).toNat]?).bind K else none)=K z:=by
 refine nh ?_
 rw[h,iW (b9 _)]
 simp
theorem tk {A:List V} {n:Nat} {z v:V} {i:Nat} (h:i=A.length):(A++List.replicate (n+1) z).set i v=A++[v]++List.replicate n z:=by
 rw[List.replicate_succ,Vh _ _ _ _ h]
theorem ahB (a:Ex):V.agg [.int .i64 a.op,.int .i64 a.bx,.list aa (a.kids.map enc)]=a.enc:=(dg a).symm
theorem M9 {c:Int} {e:Ex} (hw:e.wf 6=true):(aH (bH c e)).size≤e.size*e.size:=
 lI (xX _ (tf e hw)) (M6 e 6 hw)
theorem Ch {a m:Nat} (h:a≤m):a*a≤m*m:=Nat.mul_le_mul h h
theorem VA {e:Ex} (hw:e.wf 6=true) (hs:e.size≤1000000):Gd 6 (aH e)∧(aH e).Ok∧(aH e).size≤e.size:=by
 have h1:=mj e hw
 have U:=xX e hw
 exact ⟨h1,m8 (by omega) _ h1.2 (by omega),U⟩
def ni (c:Int):List Ex→List Ex
 | []=>[]
 | k::ks=>aH (bH c k)::(if k.cH=true then ni c ks else [])
def Ci (ss:List Ex):Nat→List Ex→List Ex
 | _,[]=>[]
 | i,d::ds=>(if d.op=1 then d else dN 5 0 (d::ss.drop (i+1)))::Ci ss (i+1) ds
theorem VB {c:Int}: ∀(ks pre:List Ex),Ci ((pre++ks).map aH) pre.length (ni c ks)=th c ks
 | [],pre=>rfl
 | k::ks,pre=>by
  have ih:=VB (c:=c) ks (pre++[k])
  have e1:((pre++k::ks).map aH).drop (pre.length+1)=ks.map aH:=by
   rw[eh,cy,show pre.length+1=(pre.map aH++[aH k]).length by simp,show pre.map aH++aH k::ks.map aH=(pre.map aH++[aH k])++ks.map aH by simp,List.drop_left]
  unfold ni th Ci GZ
  rw[e1]
  refine congrArg _ ?_
  split
  ·rw[←ih];simp
  ·rfl
theorem VC {c:Int}: ∀ks:List Ex,(ni c ks).length≤ks.length
 | []=>b9 _
 | k::ks=>by
  have:=VC (c:=c) ks
  unfold ni
  split<;>simp<;>omega
theorem VD {c:Int}: ∀{ks:List Ex} {d:Ex},d∈ni c ks→∃k∈ks,d=aH (bH c k)
 | k::ks,d,h=>by
  unfold ni at h
  rcases dx.1 h with rfl|h
  ·exact ⟨k,by simp,rfl⟩
  ·split at h
   ·obtain ⟨x,hx,e⟩:=VD h
    exact ⟨x,by simp[hx],e⟩
   ·cases h
theorem Na: ∀{ks:List Ex},(∀k∈ks,k.wf 6=true)→aJ (ks.map aH)≤aJ ks
 | [],_=>by simp[aJ]
 | k::ks,h=>by
  have a:=xX k (h k (by simp))
  have b:=Na (ks:=ks) fun k hk=>h k (by simp[hk])
  simp only[cy,aJ];omega
theorem Nb {ks:List Ex} {f:Ex→Ex} (h: ∀k∈ks,Gd 6 (f k)∧(f k).Ok):(∀k∈ks.map f,Gd 6 k)∧∀k∈ks.map f,k.Ok:=
 ⟨fun x hx=>by obtain ⟨k,hk,rfl⟩:=gH.1 hx;exact (h k hk).1,fun x hx=>by obtain ⟨k,hk,rfl⟩:=gH.1 hx;exact (h k hk).2⟩
theorem yI {n:Nat} (h:n≤1000000):Nat.ble (n*40) bP=true:=by rw[cV,gz];omega
theorem G7 {n:Nat} (h:n≤1000000):((decide (0≤(n:Int)))&&((decide ((n:Int)≤(n:Int)))&&(Nat.ble (((n:Int).toNat)*40) bP)))=true:=ahc (by omega) (by omega)
def lF (ks:List Ex):Nat:=(ks.filter Ex.cH).length
section
variable {c:Int} {nm:Bool} {ks:List Ex}
variable (hn:ks.length≤1000) (ih: ∀k∈ks,CC o4 (.int .i64 c:: .bool nm::bS k [])=some (rN c k))
include hn ih
theorem ahC {a b c1 c2 c3 c4:Int} {b1:Bool} {l1 l2 l3:List V}: ∀(ax pre:List Ex),ks=pre++ax→
  Loop (G0 CC (ks.map enc) (ks.length:Int) c nm a b l1 c1 c2 c3 c4 b1 l2 l3) (((lF pre:Nat):Int),((pre.length:Nat):Int),(pre.map fun k=>aH (bH c k)).map enc++List.replicate ax.length zE,(pre.map aH).map enc++List.replicate ax.length zE)
   = some (((lF ks:Nat):Int),(ks.length:Int),false,(ks.map fun k=>aH (bH c k)).map enc,(ks.map aH).map enc):=by
 intro ax
 induction ax with
 | nil=>
  intro pre e
  rw[cR] at e
  subst e
  refine aS ?_
  simp only[G0,Cd,un]
  rw[az,ai (by omega),b7 (by omega)]
  simp
 | cons k ax dW=>
  intro pre e
  have bU:pre.length<ks.length:=by rw[e];simp
  have bI:idx (ks.map enc) (pre.length:Int)=some k.enc:=by rw[e];exact ga _ _ _
  refine (bJ ?_).trans (dW (pre++[k]) (by simp[e]))
  simp only[G0,Cd,un]
  refine bT (lE bU) (bs bI ?_)
  rw[aW,bc,a9]
  refine bs (ih k (by rw[e];simp)) ?_
  refine (tj (by simp)).trans ?_
  refine (tj (by simp)).trans ?_
  rw[Int.toNat_natCast]
  have hc:lF (pre++[k])=lF pre+(if k.cH=true then 1 else 0):=by
   unfold lF
   rw[nr,bZ]
   cases hk:k.cH<;>simp[hk]
  have lp:lF pre≤pre.length:=tE _ _
  have sr:pre.length=((pre.map fun k=>aH (bH c k)).map enc).length:=by simp
  have jQ:pre.length=((pre.map aH).map enc).length:=by simp
  rw[List.length_cons,tk sr,tk jQ]
  cases hk:k.cH with
  | true=>
   refine bT hk ?_
   rw[jx (by omega),jx (by omega),hc,hk]
   simp only[cO,eh,cy,fD,bZ,List.length_cons,List.length_nil]
   rw[dg (aH (bH c k)),dg (aH k)]
   rfl
  | false=>
   refine bF hk ?_
   rw[jx (by omega),hc,hk]
   simp only[ai Dl,eh,cy,fD,bZ,List.length_cons,List.length_nil]
   rw[dg (aH (bH c k)),dg (aH k)]
   rfl
theorem ahD {c1 c2 c3 c4:Int} {b1:Bool} {l1 l2:List V} (hs: ∀k∈ks,CC AW (.int .i64 c:: .bool nm::bS k [])=some (eJ (aH k))): ∀(ax pre B:List Ex) (b:Bool),ks=pre++ax→B.length≤pre.length→
  Loop (Cf CC (ks.map enc) (ks.length:Int) c nm c1 c2 c3 c4 b1 l1 l2) (b,((pre.length:Nat):Int),B.map enc,(pre.map aH).map enc++List.replicate ax.length zE)
   = some (b&&ax.all Ex.cH,(ks.length:Int),false,(B++(if b=true then ni c ax else [])).map enc,(ks.map aH).map enc):=by
 intro ax
 induction ax with
 | nil=>
  intro pre B b e hB
  rw[cR] at e
  subst e
  refine aS ?_
  simp only[Cf,yH,un]
  rw[az,ai (by omega),b7 (by omega)]
  simp[ni]
 | cons k ax dW=>
  intro pre B b e hB
  have bU:pre.length<ks.length:=by rw[e];simp
  have bI:idx (ks.map enc) (pre.length:Int)=some k.enc:=by rw[e];exact ga _ _ _
  have jQ:pre.length=((pre.map aH).map enc).length:=by simp
  cases b with
  | false=>
   refine (bJ ?_).trans (dW (pre++[k]) B false (by simp[e]) (by simp;omega))
   simp only[Cf,yH,un]
   refine bT (lE bU) (bs bI (bT rfl ?_))
   rw[aW,bc,a9]
   refine bs (hs k (by rw[e];simp)) ?_
   refine (tj (by simp)).trans ?_
   rw[Int.toNat_natCast,List.length_cons,tk jQ,jx (by omega)]
   simp only[eh,cy,fD,bZ,List.length_cons,List.length_nil]
   rw[dg (aH k)]
   rfl
  | true=>
   refine ((bJ ?_).trans (dW (pre++[k]) (B++[aH (bH c k)]) k.cH (by simp[e]) (by simp;omega))).trans ?_
   ·simp only[Cf,yH,un]
    refine bT (lE bU) (bs bI (bF rfl ?_))
    rw[aW,bc,a9]
    refine bs (ih k (by rw[e];simp)) ?_
    refine bT (yI (by simp;omega)) ?_
    refine (tj (by simp)).trans ?_
    rw[Int.toNat_natCast,List.length_cons,tk jQ,jx (by omega)]
    simp only[eh,cy,fD,bZ,List.length_cons,List.length_nil]
    rw[dg (aH k),dg (aH (bH c k))]
    rfl
   ·simp only[mz,List.all_cons,cO]
    rw[show ni c (k::ax)=aH (bH c k)::(if k.cH=true then ni c ax else []) from rfl,cx]
    rfl
end
theorem ahE {ss D:List Ex} {b b1:Bool} {c1 c2 c3 c4:Int} {l1 l2:List V} (hD:D.length≤ss.length) (hss:ss.length≤1000) (hd: ∀d∈D,Gd 6 d∧d.Ok∧d.size≤500000) (hsg: ∀k∈ss,Gd 6 k∧k.Ok) (ba:aJ ss≤500000): ∀(ax pre P:List Ex),D=pre++ax→P.length=pre.length→
  Loop (G3 CC b (D.length:Int) c1 c2 c3 c4 b1 (ss.map enc) (D.map enc) l1 l2) (((pre.length:Nat):Int),P.map enc++List.replicate ax.length zE)
   = some ((D.length:Int),false,(P++Ci ss pre.length ax).map enc):=by
 intro ax
 induction ax with
 | nil=>
  intro pre P e hP
  rw[cR] at e
  subst e
  refine aS ?_
  simp only[G3,Cg,un]
  rw[az,ai (by omega),b7 (by omega)]
  simp[Ci]
 | cons d ax dW=>
  intro pre P e hP
  have bU:pre.length<D.length:=by rw[e];simp
  have hm:d∈D:=by rw[e];simp
  have bI:(D.map enc)[pre.length]? =some d.enc:=by rw[e];simp
  have jQ:pre.length=(P.map enc).length:=by simp[hP]
  refine ((bJ ?_).trans (dW (pre++[d]) (P++[if d.op=1 then d else dN 5 0 (d::ss.drop (pre.length+1))]) (by simp[e]) (by simp[hP]))).trans ?_
  ·simp only[G3,Cg,un]
   refine bT (lE bU) ?_
   refine (nh bI).trans ?_
   rw[aW,bc,a9,df]
   by_cases h1:d.op=1
   ·rw[aj h1,aj h1]
    refine (tj jQ).trans ?_
    rw[Int.toNat_natCast,List.length_cons,tk jQ,jx (by omega)]
    simp only[eh,cy,fD,bZ,List.length_cons,List.length_nil]
    rw[dg d]
   ·rw[ai h1,ai h1,jx (by omega),Int.toNat_natCast,aL]
    refine bT (tF.2 ⟨dr (by omega),dr (by omega)⟩) ?_
    have ht:((ss.map enc).drop (pre.length+1)).take (ss.length-(pre.length+1))=(ss.drop (pre.length+1)).map enc:=by
     rw[←List.map_drop,zj (by simp)]
    rw[ht]
    refine bT (yI (by simp;omega)) ?_
    have hg: ∀k∈d::ss.drop (pre.length+1),Gd 6 k∧k.Ok:=fun k hk=>by
     rcases dx.1 hk with rfl|hk
     ·exact ⟨(hd _ hm).1,(hd _ hm).2.1⟩
     ·exact hsg k (List.mem_of_mem_drop hk)
    have hz:aJ (d::ss.drop (pre.length+1))≤1000000:=by
     have h1:=(hd d hm).2.2
     have U:=Gp (ss.take (pre.length+1)) (ss.drop (pre.length+1))
     rw[Df] at U
     simp only[aJ];omega
    rw[M1,←eh]
    refine bs (rJ (o:=5) (fun k hk=>(hg k hk).1) (fun k hk=>(hg k hk).2) hz (by omega)) ?_
    refine (tj jQ).trans ?_
    rw[Int.toNat_natCast,List.length_cons,tk jQ]
    simp only[eh,cy,fD,bZ,List.length_cons,List.length_nil]
    rw[dg (dN 5 0 (d::ss.drop (pre.length+1)))]
    rfl
  ·rw[bZ,cx]
   rfl
theorem VE: ∀ks:List Ex,mh ks=ks.all Ex.cH
 | []=>rfl
 | k::ks=>by simp[mh,VE ks]
theorem VF: ∀ks:List Ex,kT ks=decide ((lF ks:Int)>0)
 | []=>by simp[kT,lF]
 | k::ks=>by
  have:=VF ks
  unfold lF at*
  cases hk:k.cH
  ·simp[kT,hk,this]
  ·simp[kT,hk]
theorem VG: ∀ks:List Ex,mh ks=((lF ks:Int)==(ks.length:Int))
 | []=>by simp[mh,lF]
 | k::ks=>by
  have h:=VG ks
  have hl:lF ks≤ks.length:=tE _ _
  unfold lF at*
  rw[mh,h,pz]
  cases hk:k.cH
  ·simp[hk];omega
  ·simp[hk]
theorem ahF {c:Int} {nm:Bool}: ∀e:Ex,e.wf 6=true→e.size≤400→(nm=true→Gd 6 e)→CC o4 (.int .i64 c:: .bool nm::bS e [])=some (rN c e):=
 ind fun o l ks ih hw hs lM=>by
  obtain ⟨h1,U⟩:=gS hw
  have hl:=kU ks
  have G8:aJ ks≤399:=by simp only[size] at hs;omega
  have vF: ∀k∈ks,k.size≤399:=fun k hk=>lI (s0 hk) G8
  have hX: ∀k∈ks,CC o4 (.int .i64 c:: .bool nm::bS k [])=some (rN c k):=fun k hk=>ih k hk (U k hk) (by have:=vF k hk;omega) fun h=>(lM h).kids k hk
  have hsm: ∀k∈ks,CC AW (.int .i64 c:: .bool nm::bS k [])=some (eJ (aH k)):=fun k hk=>by
   refine ahk ?_
   unfold Vp
   cases nm with
   | true=>refine bT rfl ?_;rw[Mt k ((lM rfl).kids k hk)];rfl
   | false=>
    refine bF rfl ?_
    have:=vF k hk
    exact bs (Vi (n:=6) (by omega) k (U k hk) (by omega)) rfl
  have dV: ∀k∈ks,(aH (bH c k)).size≤160000:=fun k hk=>by
   have a:=M9 (c:=c) (U k hk)
   have b:=Ch (vF k hk)
   omega
  have Cj: ∀k∈ks,Gd 6 (aH (bH c k))∧(aH (bH c k)).Ok:=fun k hk=>by
   have a:=mj _ (tf (c:=c) k (U k hk))
   have b:=dV k hk
   exact ⟨a,m8 (by omega) _ a.2 (by omega)⟩
  have G9: ∀k∈ks,Gd 6 (aH k)∧(aH k).Ok:=fun k hk=>by
   have a:=VA (U k hk) (by have:=vF k hk;omega)
   exact ⟨a.1,a.2.1⟩
  have hnz:=Na U
  have hbz:aJ (ks.map fun k=>aH (bH c k))≤160000:=by
   have a:=M4 (f:=fun k=>aH (bH c k)) fun k hk=>M9 (c:=c) (U k hk)
   have b:=Ch G8
   omega
  have Nc:(o=4∨o=6∨o=8)→CC xq (.int .i64 c:: .bool nm::bS (.node o l ks) [])=some (rN c (.node o l ks)):=fun ho=>by
   obtain ⟨a1,a2⟩:=Nb Cj
   obtain ⟨b1,b2⟩:=Nb G9
   have jW:l=0:=by rcases eO h1 with h|h<;>omega
   refine ahp ?_
   unfold Vs
   simp only[Ex.op,Ex.kids,Ex.bx,aL]
   refine bT (G7 (by omega)) (bT (G7 (by omega)) ?_)
   have Nd:=ahC (ks:=ks) (nm:=nm) (c:=c) (by omega) hX (a:=o) (b:=l) (c1:=0) (c2:=0) (c3:=0) (c4:=0) (b1:=false) (l1:=ks.map enc) (l2:=[]) (l3:=[]) ks [] rfl
   rw[Int.toNat_natCast]
   refine bs Nd ?_
   unfold rN
   rw[ahg ho,mi,jW]
   rcases ho with rfl|rfl|rfl
   ·refine bs (rJ a1 a2 (by omega) (.inl rfl)) ?_
    refine bs (rJ b1 b2 (by omega) (.inl rfl)) ?_
    refine bT rfl ?_
    rw[←VF]
    rfl
   ·refine bs (rJ a1 a2 (by omega) (.inr (.inr rfl))) ?_
    refine bs (rJ b1 b2 (by omega) (.inr (.inr rfl))) ?_
    refine bF rfl (bT rfl ?_)
    rw[←VG]
    rfl
   ·obtain ⟨k,rfl⟩:=vQ.1 (show ks.length=1 by rcases eO h1 with h|h<;>omega)
    refine bs (GX (Cj k (by simp)).1 (.inr rfl)) ?_
    refine bs (GX (G9 k (by simp)).1 (.inr rfl)) ?_
    refine bF rfl (bF rfl (bT rfl ?_))
    refine congrArg some ?_
    have:(((lF [k]:Nat):Int)==0)=(Ex.node 8 0 [k]).cH:=by
     simp only[Ex.cH,lF]
     cases hk:k.cH<;>simp[hk,kT]
    rw[this]
    rfl
  have ahG:o=5→CC xr (.int .i64 c:: .bool nm::bS (.node o l ks) [])=some (rN c (.node o l ks)):=fun ho=>by
   subst ho
   have bD:ks≠[]:=by rintro rfl;rcases eO h1 with h|h<;>simp at h<;>omega
   have jW:l=0:=by rcases eO h1 with h|h<;>omega
   obtain ⟨b1,b2⟩:=Nb G9
   have hD:=VC (c:=c) ks
   refine aht ?_
   unfold Vv
   simp only[Ex.op,Ex.kids,Ex.bx,aL]
   refine bT (G7 (by omega)) ?_
   rw[Int.toNat_natCast]
   have Nd:=ahD (ks:=ks) (nm:=nm) (c:=c) (by omega) hX (c1:=0) (c2:=0) (c3:=0) (c4:=0) (b1:=false) (l1:=[]) (l2:=[]) hsm ks [] [] true rfl (b9 _)
   refine bs Nd ?_
   simp only[un,List.nil_append,cO,mz,aL]
   refine bT (G7 (by omega)) ?_
   rw[Int.toNat_natCast]
   have bU:=ahE (ss:=ks.map aH) (D:=ni c ks) (b:=ks.all Ex.cH) (c1:=0) (c2:=0) (c3:=0) (c4:=0) (b1:=false) (l1:=[]) (l2:=[]) (by simp;omega) (by simp;omega) (fun d hd=>by
    obtain ⟨k,hk,rfl⟩:=VD hd
    have:=dV k hk
    exact ⟨(Cj k hk).1,(Cj k hk).2,by omega⟩) (fun k hk=>⟨b1 k hk,b2 k hk⟩) (by omega) (ni c ks) [] [] rfl rfl
   have he:=VB (c:=c) ks []
   rw[List.nil_append] at he
   rw[List.length_nil] at bU he
   rw[he] at bU
   refine bs bU ?_
   simp only[un,List.nil_append]
   have wk:=parts_eq (c:=c) U
   have VH:=GY (c:=c) U fun k hk=>tf k (U k hk)
   have hcz:aJ (iq c ks)≤160000:=by
    have a:=M5 (c:=c) (ks:=ks) fun k hk=>M6 k 6 (U k hk)
    have b:=Ch (show 1+aJ ks≤400 by omega)
    omega
   have hpz:aJ (th c ks)≤160000:=by rw[wk];have:=Na VH;omega
   have VI: ∀k∈th c ks,Gd 6 k∧k.Ok:=fun k hk=>by
    have hz:=s0 hk
    rw[wk] at hk
    obtain ⟨x,hx,rfl⟩:=gH.1 hk
    have a:=mj x (VH x hx)
    exact ⟨a,m8 (by omega) _ a.2 (by omega)⟩
   refine bs (rJ (fun k hk=>(VI k hk).1) (fun k hk=>(VI k hk).2) (by omega) (.inl rfl)) ?_
   refine bs (rJ b1 b2 (by omega) (.inr (.inl rfl))) ?_
   unfold rN
   rw[ahj bD U,mi,jW,←VE]
   rfl
  refine ahA ?_
  unfold Vz G5
  simp only[Ex.op,Ex.kids,Ex.bx]
  rcases eO h1 with ⟨rfl,h⟩|⟨rfl,⟨rfl,h⟩|⟨rfl,h⟩|⟨rfl,h⟩|⟨rfl,h⟩|⟨rfl,h⟩|⟨rfl,h⟩|⟨rfl,h⟩⟩
  ·obtain rfl:=mA.1 (show ks.length=0 by omega)
   refine bF rfl (bT rfl ?_)
   unfold rN
   rw[ov,aj rfl,mi,kg (by omega)]
   rw[df]
   by_cases oX:l=c
   ·rw[aj oX,aj oX];rfl
   ·rw[ai oX,ai oX];rfl
  ·obtain rfl:=mA.1 (show ks.length=0 by omega)
   rfl
  ·obtain rfl:=mA.1 (show ks.length=0 by omega)
   rfl
  ·exact bF rfl (bF rfl (bT rfl (bT rfl (bs (Nc (.inl rfl)) rfl))))
  ·refine bF rfl (bF rfl (bF rfl (bF rfl (bF rfl (bF rfl (bT rfl ?_))))))
   exact bs (ahG rfl) rfl
  ·exact bF rfl (bF rfl (bF rfl (bT rfl (bT rfl (bs (Nc (.inr (.inl rfl))) rfl)))))
  ·obtain ⟨k,rfl⟩:=vQ.1 (show ks.length=1 by omega)
   refine bF rfl (bF rfl (bF rfl (bF rfl (bF rfl (bT rfl ?_)))))
   refine bs (a:=k.enc) rfl ?_
   rw[aW,bc,a9]
   refine bs (hX k (by simp)) ?_
   have hk:=G9 k (by simp)
   have hb:=Cj k (by simp)
   have hj:=GX hk.1 (o:=7) (.inl rfl)
   rw[cy,fD,dg] at hj
   refine bs hj ?_
   have pN:dN 7 0 [aH k]=aH (.node 7 0 [k]):=by rw[mi];rfl
   have Nf:=VA hw (by omega)
   have hz2:=dV k (by simp)
   have gu:=rJ (n:=6) (ks:=[aH (bH c k),aH (.node 7 0 [k])]) (o:=5) (fun x hx=>by
    rcases dx.1 hx with rfl|hx
    ·exact hb.1
    ·rw[ez.1 hx];exact Nf.1) (fun x hx=>by
    rcases dx.1 hx with rfl|hx
    ·exact hb.2
    ·rw[ez.1 hx];exact Nf.2.1) (by have:=Nf.2.2;simp only[aJ];omega) (by omega)
   rw[cy,cy,fD,dg (aH (bH c k)),dg (aH (.node 7 0 [k])),←pN] at gu
   refine bs gu ?_
   unfold rN
   rw[ahh,←pN]
   rfl
  ·exact bF rfl (bF rfl (bF rfl (bF rfl (bT rfl (bs (Nc (.inr (.inr rfl))) rfl)))))
structure Dv where
 L:Int
 es:List Ex
 nx:List (List Int)
 dn:Int
deriving DecidableEq
def Dv.zero:Dv:=⟨0,[],[],0⟩
def ow (e:Ex) (c:Nat):Option Ex:=if (aH (bH c e)).val 6=0 then some (aH (bH c e)) else none
def km (e:Ex):Nat→Nat→List Ex→List Int→Option (List Ex × List Int)
 | 0,_,es,row=>some (es,row)
 | n+1,x,es,row=>(ow e x).bind fun d=>
  if d∈es then km e n (x+1) es (row++[(es.idxOf d:Int)])
  else if es.length=512 then none else km e n (x+1) (es++[d]) (row++[(es.length:Int)])
def proc (s:Dv):Option Dv:=(km (s.es.getD s.dn.toNat aR) s.L.toNat 0 s.es []).map fun p=>⟨s.L,p.1,s.nx++[p.2],s.dn+1⟩
def fx:Nat→Dv→Option Dv
 | 0,s=>some s
 | n+1,s=>if s.dn<s.es.length then (proc s).bind (fx n) else some s
def yJ:Nat→Dv→Option Dv
 | 0,s=>some s
 | n+1,s=>if s.dn<s.es.length then (proc s).bind (yJ n) else none
def iu (e:Ex) (L:Int):Dv:=⟨L,[aH e],[],0⟩
def pk (d:Dv):Bool:=decide (d.es≠[]∧d.es.length≤512∧(d.es.getD 0 aR).val d.L=0∧0≤d.dn∧yJ d.dn.toNat (iu (d.es.getD 0 aR) d.L)=some d)
theorem VJ {L:Int} (h:L≤6): ∀e:Ex,e.wf L=true→e.wf 6=true:=ind fun o l ks ih hw=>by
 obtain ⟨h1,U⟩:=gS hw
 refine vc ?_ fun k hk=>ih k hk (U k hk)
 unfold dM at h1⊢
 by_cases ho:o=3
 ·rw[aj ho] at h1⊢
  have:=kq h1
  exact dr (by omega)
 ·rw[ai ho] at h1⊢;exact h1
theorem Ck {e:Ex} {L:Int} (h:e.val L=0):(1≤L∧L≤6)∧e.depth≤40∧e.size≤400∧e.wf L=true:=by
 unfold Ex.val at h
 repeat' split at h
 all_goals first|omega|skip
 next a b c=>exact ⟨a,b.1,b.2,c⟩
theorem val_mk {e:Ex} {L:Int} (h:(1≤L∧L≤6)∧e.depth≤40∧e.size≤400∧e.wf L=true):e.val L=0:=by
 unfold Ex.val
 rw[aj h.1,aj ⟨h.2.1,h.2.2.1⟩,aj h.2.2.2]
theorem Cl {e:Ex} {L:Int} (h:e.val L=0):e.val 6=0:=by
 obtain ⟨h1,U,h3,h4⟩:=Ck h
 exact val_mk ⟨by omega,U,h3,VJ h1.2 e h4⟩
theorem Ng {e:Ex} {L:Int} (h:e.val L=0):(aH e).val L=0:=by
 obtain ⟨h1,U,h3,h4⟩:=Ck h
 have:=xX e h4
 have:=aeB e h4
 exact val_mk ⟨h1,by omega,by omega,(mj e h4).2⟩
def Nv (e:Ex):Prop:=Gd 6 e∧e.val 6=0
theorem Nv.aH {e:Ex} (h:Nv e):aH e=e:=Mt e h.1
theorem Nh {e d:Ex} {c:Nat} (he:Nv e) (h:ow e c=some d):Nv d∧d=Go.AM.aH (bH c e):=by
 unfold ow at h
 split at h
 ·next hv=>
  cases h
  exact ⟨⟨mj _ (tf e he.1.2),hv⟩,rfl⟩
 ·cases h
structure Es (es:List Ex):Prop where
 le:es.length≤512
 nv: ∀e∈es,Nv e
 nd:es.Nodup
def qg (e:Ex) (es:List Ex) (n:Nat) (row:List Int):Prop:=row.length=n∧∀x,x<n→∃j:Nat,row.getD x 0=j∧j<es.length∧ow e x=some (es.getD j aR)
theorem qg.mono {e:Ex} {es t:List Ex} {n:Nat} {row:List Int} (h:qg e es n row):qg e (es++t) n row:=⟨h.1,fun x hx=>by
 obtain ⟨j,h1,U,h3⟩:=h.2 x hx
 refine ⟨j,h1,by rw[bZ];omega,?_⟩
 rw[h3,gl,gl,iU U]⟩
theorem qg.snoc {e:Ex} {es:List Ex} {n j:Nat} {row:List Int} (h:qg e es n row) (h1:j<es.length) (U:ow e n=some (es.getD j aR)):qg e es (n+1) (row++[(j:Int)]):=by
 refine ⟨by rw[bZ,h.1];rfl,fun x hx=> ?_⟩
 rcases pt x n with c|c
 ·obtain ⟨i,i1,i2,i3⟩:=h.2 x c
  refine ⟨i,?_,i2,i3⟩
  rw[←i1,gl,gl,iU (by rw[h.1];exact c)]
 ·obtain rfl:x=n:=by omega
  refine ⟨j,?_,h1,U⟩
  rw[gl,iW (by rw[h.1];exact b9 _),h.1]
  simp
theorem Es.snoc {es:List Ex} {d:Ex} (h:Es es) (hd:Nv d) (hn:d∉es) (hl:es.length≠512):Es (es++[d]):=by
 refine ⟨by have:=h.le;simp;omega,fun e he=> ?_,?_⟩
 ·rcases eQ.1 he with he|he
  ·exact h.nv e he
  ·rw[ez.1 he];exact hd
 ·rw[vP]
  refine ⟨h.nd,by simp,fun a ha b hb=> ?_⟩
  rw[ez.1 hb]
  rintro rfl
  exact hn ha
theorem ahH {es:List Ex} {d:Ex} (h:d∈es):es.getD (es.idxOf d) aR=d:=by
 have:=Dm.2 h
 rw[gl,bC this,Option.getD_some,List.getElem_idxOf]
theorem Ni {e:Ex} (he:Nv e): ∀(n x:Nat) (es:List Ex) (row:List Int) (p:List Ex × List Int),Es es→qg e es x row→km e n x es row=some p→Es p.1∧qg e p.1 (x+n) p.2∧∃t,p.1=es++t
 | 0,x,es,row,p,h1,U,h=>by
  cases h
  exact ⟨h1,U,[],by simp⟩
 | n+1,x,es,row,p,h1,U,h=>by
  rw[km] at h
  cases hs:ow e x with
  | none=>rw[hs] at h;cases h
  | some d=>
   rw[hs] at h
   obtain ⟨hd,_⟩:=Nh he hs
   simp only[Option.bind_some] at h
   by_cases hm:d∈es
   ·rw[aj hm] at h
    have:=Ni he n (x+1) es _ p h1 (U.snoc (Dm.2 hm) (by rw[hs,ahH hm])) h
    rw[show x+(n+1)=x+1+n by omega]
    exact this
   ·rw[ai hm] at h
    by_cases hl:es.length=512
    ·rw[aj hl] at h;cases h
    ·rw[ai hl] at h
     obtain ⟨a,b,t,c⟩:=Ni he n (x+1) (es++[d]) _ p (h1.snoc hd hm hl) (U.mono.snoc (by simp) (by rw[hs,gl];simp)) h
     rw[show x+(n+1)=x+1+n by omega]
     exact ⟨a,b,d::t,by rw[c,cx];rfl⟩
structure Gs (s:Dv):Prop where
 L:1≤s.L∧s.L≤6
 ne:s.es≠[]
 es:Es s.es
 dn:0≤s.dn∧s.dn≤s.es.length
 nl:s.nx.length=s.dn.toNat
 row: ∀q,q<s.dn.toNat→qg (s.es.getD q aR) s.es s.L.toNat (s.nx.getD q [])
theorem Cm {α:Type} {a b:List α} {i:Nat} {z:α} (h:i<a.length):(a++b).getD i z=a.getD i z:=by
 rw[gl,gl,iU h]
theorem tm {α:Type} {a:List α} {i:Nat} {z:α} (h:i<a.length):a.getD i z∈a:=by
 rw[gl,bC h];simp
theorem Nj {s t:Dv} (h:proc s=some t): ∃p,km (s.es.getD s.dn.toNat aR) s.L.toNat 0 s.es []=some p∧t=⟨s.L,p.1,s.nx++[p.2],s.dn+1⟩:=by
 unfold proc at h
 cases hr:km (s.es.getD s.dn.toNat aR) s.L.toNat 0 s.es [] with
 | none=>rw[hr] at h;cases h
 | some p=>rw[hr] at h;cases h;exact ⟨p,rfl,rfl⟩
theorem Ha {s t:Dv} (hs:Gs s) (hd:s.dn<s.es.length) (h:proc s=some t):Gs t∧t.L=s.L∧t.dn=s.dn+1∧∃r,t.es=s.es++r:=by
 obtain ⟨p,hp,rfl⟩:=Nj h
 have Nk:=hs.dn
 have hq:s.dn.toNat<s.es.length:=by omega
 obtain ⟨a,b,r,c⟩:=Ni (hs.es.nv _ (tm hq)) _ 0 _ _ p hs.es ⟨rfl,fun x hx=>by omega⟩ hp
 have hn:=hs.nl
 refine ⟨⟨hs.L,by rw[c];simp[hs.ne],a,⟨by show 0≤s.dn+1;omega,?_⟩,?_,fun q Ab=> ?_⟩,rfl,rfl,r,c⟩
 ·show s.dn+1≤(p.1.length:Int)
  rw[c,bZ];omega
 ·show (s.nx++[p.2]).length=(s.dn+1).toNat
  rw[bZ,hn];simp;omega
 ·have hq3:q<(s.dn+1).toNat:=Ab
  show qg (p.1.getD q aR) p.1 s.L.toNat ((s.nx++[p.2]).getD q [])
  rcases pt q s.dn.toNat with e|e
  ·rw[Cm (by omega),c,Cm (by omega)]
   exact (hs.row q e).mono
  ·obtain rfl:q=s.dn.toNat:=by omega
   rw[gl (l:=s.nx++[p.2]),iW (by omega),hn,Nat.sub_self]
   simp only[List.getElem?_cons_zero,Option.getD_some]
   rw[gY] at b
   have e1:p.1.getD s.dn.toNat aR=s.es.getD s.dn.toNat aR:=by rw[c,Cm (by omega)]
   rw[e1]
   exact b
theorem rO: ∀(n:Nat) (s t:Dv),Gs s→fx n s=some t→Gs t∧t.L=s.L∧(∃r,t.es=s.es++r)∧(t.dn=t.es.length∨t.dn=s.dn+n)
 | 0,s,t,hs,h=>by cases h;exact ⟨hs,rfl,⟨[],by simp⟩,.inr (by simp)⟩
 | n+1,s,t,hs,h=>by
  rw[fx] at h
  by_cases hd:s.dn<s.es.length
  ·rw[aj hd] at h
   cases hp:proc s with
   | none=>rw[hp] at h;cases h
   | some u=>
    rw[hp] at h
    obtain ⟨a,b,c,r,d⟩:=Ha hs hd hp
    obtain ⟨e,f,⟨r2,g⟩,i⟩:=rO n u t a h
    refine ⟨e,f.trans b,⟨r++r2,by rw[g,d,cx]⟩,?_⟩
    rcases i with i|i
    ·exact .inl i
    ·exact .inr (by rw[i,c];omega)
  ·rw[ai hd] at h
   cases h
   exact ⟨hs,rfl,⟨[],by simp⟩,.inl (by have:=hs.dn;omega)⟩
theorem VK: ∀(n:Nat) (s t:Dv),Gs s→fx n s=some t→∃k:Nat,yJ k s=some t∧t.dn=s.dn+k
 | 0,s,t,_,h=>⟨0,h,by cases h;simp⟩
 | n+1,s,t,hs,h=>by
  rw[fx] at h
  by_cases hd:s.dn<s.es.length
  ·rw[aj hd] at h
   cases hp:proc s with
   | none=>rw[hp] at h;cases h
   | some u=>
    rw[hp] at h
    obtain ⟨a,b,c,_⟩:=Ha hs hd hp
    obtain ⟨k,h1,U⟩:=VK n u t a h
    refine ⟨k+1,?_,by rw[U,c];omega⟩
    rw[yJ,aj hd,hp];exact h1
  ·rw[ai hd] at h
   cases h
   exact ⟨0,rfl,by simp⟩
theorem Hb: ∀(n:Nat) (s t:Dv),yJ n s=some t→fx n s=some t
 | 0,s,t,h=>h
 | n+1,s,t,h=>by
  rw[yJ] at h
  by_cases hd:s.dn<s.es.length
  ·rw[aj hd] at h
   rw[fx,aj hd]
   cases hp:proc s with
   | none=>rw[hp] at h;cases h
   | some u=>rw[hp] at h;exact Hb n u t h
  ·rw[ai hd] at h;cases h
theorem rP {e:Ex} {L:Int} (h:e.val L=0):Gs (iu e L):=by
 obtain ⟨h1,U,h3,h4⟩:=Ck h
 refine ⟨h1,by simp[iu],⟨by simp[iu],fun x hx=> ?_,by simp[iu]⟩,by simp[iu],rfl,fun q hq=>by simp[iu] at hq⟩
 rw[ez.1 hx]
 exact ⟨mj e (VJ h1.2 e h4),Cl (Ng h)⟩
theorem ahI {e:Ex} {L:Int} (h:e.val L=0):aH (aH e)=aH e:=Mt _ (mj e (Ck h).2.2.2)
theorem VL {e:Ex} {L:Int} (h:e.val L=0) {n:Nat} {t:Dv} (ht:fx n (iu e L)=some t):pk t=true:=by
 have hs:=rP h
 obtain ⟨g,g1,⟨r,g2⟩,_⟩:=rO n _ _ hs ht
 obtain ⟨k,k1,k2⟩:=VK n _ _ hs ht
 have e0:t.es.getD 0 aR=aH e:=by rw[g2];rfl
 have e1:t.L=L:=g1
 have e2:iu (aH e) L=iu e L:=by unfold iu;rw[ahI h]
 refine dr ⟨g.ne,g.es.le,by rw[e0,e1];exact Ng h,g.dn.1,?_⟩
 rw[e0,e1,e2]
 have:t.dn.toNat=k:=by
  rw[k2];show ((0:Int)+k).toNat=k;omega
 rw[this];exact k1
theorem VM {d:Dv} (h:pk d=true):Gs d∧∃n,fx n (iu (d.es.getD 0 aR) d.L)=some d:=by
 obtain ⟨h1,U,h3,h4,h5⟩:=kq h
 have:=Hb _ _ _ h5
 exact ⟨(rO _ _ _ (rP h3) this).1,_,this⟩
theorem ahJ {s t:Dv} (hs:Gs s) {n:Nat} (hn:513≤s.dn+n) (h:fx n s=some t):t.dn=t.es.length:=by
 obtain ⟨g,_,_,e⟩:=rO n s t hs h
 rcases e with e|e
 ·exact e
 ·have:=g.dn;have:=g.es.le;omega
end Go.AM
set_option maxRecDepth 100000
namespace Go.AM
open Go.Proofs
noncomputable def VN (C:ag) (cz cp:Int) (gj:List V) (gC Nl:Int) (Nn:List V) (No:Bool):Option (List V):=
 (C xi [.int .i64 cz,.int .i64 cp,.list aa gj,.int .i64 6]).bind fun r1=>
 bif (((V.nth r1 0).toInt):Int) != 0 then
  some [.int .i64 0,.int .i64 0,.list aa ([]:List V),.int .i64 3]
 else
  some [.int .i64 cz,.int .i64 cp,.list aa gj,.int .i64 0]
theorem ahK {cz cp:Int} {gj:List V} {gC Nl:Int} {Nn:List V} {No:Bool} {r:Option (List V)} (h:VN CC cz cp gj gC Nl Nn No=r):CC Kj [.int .i64 cz,.int .i64 cp,.list aa gj,.int .i64 gC,.int .i64 Nl,.list aa Nn,.bool No]=r:=
 bh (key:=149) (L:=cw) (bs:=[]) (by kernel_rfl) aw (bd (by kernel_rfl) h)
noncomputable def VO (C:ag) (ah aq:Int) (af:List V) (bx:Int):Option (List V):=
 (C o4 [.int .i64 bx,.bool true,.int .i64 ah,.int .i64 aq,.list aa af]).bind fun r1=>
 (C Kj [.int .i64 ((V.nth r1 0).toInt),.int .i64 ((V.nth (r1.drop 1) 0).toInt),.list aa ((V.nth ((r1.drop 1).drop 1) 0).toList),.int .i64 ((V.nth (((r1.drop 1).drop 1).drop 1) 0).toInt),.int .i64 ((V.nth ((((r1.drop 1).drop 1).drop 1).drop 1) 0).toInt),.list aa ((V.nth (((((r1.drop 1).drop 1).drop 1).drop 1).drop 1) 0).toList),.bool ((V.nth ((((((r1.drop 1).drop 1).drop 1).drop 1).drop 1).drop 1) 0).toBool)]).bind fun r2=>
 some [.int .i64 ((V.nth r2 0).toInt),.int .i64 ((V.nth (r2.drop 1) 0).toInt),.list aa ((V.nth ((r2.drop 1).drop 1) 0).toList),.int .i64 ((V.nth (r2.drop 3) 0).toInt)]
theorem ahL {ah aq:Int} {af:List V} {bx:Int} {r:Option (List V)} (h:VO CC ah aq af bx=r):CC Fv [.int .i64 ah,.int .i64 aq,.list aa af,.int .i64 bx]=r:=
 bh (key:=53) (L:=cw) (bs:=[]) (by kernel_rfl) aw (bd (by kernel_rfl) h)
end Go.AM
set_option maxRecDepth 100000
namespace Go.AM
open Go.Proofs Ex
abbrev Np (p:Ex × Int):List V:=bS p.1 [.int .i64 p.2]
def qh (x:Ex):Ex × Int:=if x.val 6=0 then (x,0) else (aR,3)
def Nq (e:Ex) (c:Int):Ex × Int:=if e.val 6=0 then (if 0≤c∧c<6 then qh (aH (bH c e)) else (aR,1)) else (aR,e.val 6)
theorem ahM {x y:Ex} {b:Bool} (hx:x.Ok):CC Kj (bS x (bS y [.bool b]))=some (Np (qh x)):=by
 refine ahK ?_
 unfold VN qh
 refine bs (L7 x hx 6) ?_
 by_cases hv:x.val 6=0
 ·rw[aj hv]
  exact bF (by simp[hv]) rfl
 ·rw[ai hv]
  exact bT (by simp[hv]) rfl
theorem VP {c:Int} {e:Ex} (hv:e.val 6=0):Gd 6 (aH (bH c e))∧(aH (bH c e)).Ok∧(aH (bH c e)).size≤160000:=by
 obtain ⟨_,U,h3⟩:=lC hv
 have a:=mj _ (tf (c:=c) e h3)
 have b:=M9 (c:=c) h3
 have d:=Ch U
 exact ⟨a,m8 (by omega) _ a.2 (by omega),by omega⟩
theorem ahN {e:Ex} (he:Nv e) (c:Int):CC Fv (bS e [.int .i64 c])=some (Np (qh (aH (bH c e)))):=by
 obtain ⟨_,U,h3⟩:=lC he.2
 refine ahL ?_
 unfold VO
 refine bs (ahF (c:=c) (nm:=true) e h3 U fun _=>he.1) ?_
 refine bs (ahM (y:=aH e) (b:=e.cH) (VP (c:=c) he.2).2.1) ?_
 unfold qh
 split<;>rfl
def gk (op:Int):Int:=if op=4 then 1 else if op=6 then 2 else if op=5 then 3 else if op=8 then 4 else if op=7 then 5 else 6
def eP (op least:Int) (t:List UInt8):List UInt8:=if gk op<least then 40::(t++[41]) else t
mutual
def Ex.text:Ex→List UInt8
 | .node o l ks=>
  if o=1 then [48] else if o=2 then [49] else if o=3 then [UInt8.ofNat (97+l).toNat]
  else if o=8 then 33::texts [] 4 true ks else if o=7 then texts [] 5 true ks++[42]
  else if o=4 then texts [124] 2 true ks else if o=6 then texts [38] 3 true ks else texts [] 4 true ks
def Ex.texts (sep:List UInt8) (least:Int) (first:Bool):List Ex→List UInt8
 | []=>[]
 | k::ks=>(if first then [] else sep)++(eP k.op least (text k)++texts sep least false ks)
end
theorem ahO (op least:Int) (t:List UInt8):(eP op least t).length≤t.length+2:=by
 unfold eP;split<;>simp
theorem VQ (sep:List UInt8) (hs:sep.length≤1) (least:Int): ∀(ks:List Ex) (f:Bool),(∀k∈ks,k.text.length+3≤4*k.size)→(texts sep least f ks).length≤4*aJ ks
 | [],f,_=>by simp[texts]
 | k::ks,f,h=>by
  have h1:=h k (by simp)
  have U:=VQ sep hs least ks false fun k hk=>h k (by simp[hk])
  have h3:=ahO k.op least k.text
  simp only[texts,bZ,aJ]
  cases f<;>simp<;>omega
theorem VR: ∀e:Ex,e.text.length+3≤4*e.size:=ind fun o l ks ih=>by
 have h:=fun sep hs least=>VQ sep hs least ks true ih
 have h1:=h [] (by simp) 4
 have U:=h [] (by simp) 5
 have h3:=h [124] (by simp) 2
 have h4:=h [38] (by simp) 3
 simp only[text,size]
 repeat' split
 all_goals simp
 all_goals omega
def TX (m:Int) (k:Ex):List UInt8:=eP k.op m k.text
def mb (o:Int) (e:Ex):List Ex:=if e.op=o then e.kids else [e]
theorem Cn (sep:List UInt8) (m:Int) (k:Ex) (ks:List Ex):texts sep m false (k::ks)=sep++(TX m k++texts sep m false ks):=by simp[texts,TX]
theorem Co (sep:List UInt8) (m:Int) (k:Ex) (ks:List Ex):texts sep m true (k::ks)=TX m k++texts sep m false ks:=by simp[texts,TX]
theorem VT (e:Ex):TX 1 e=texts [124] 2 true (mb 4 e):=by
 obtain ⟨o,l,ks⟩:=e
 unfold mb TX
 by_cases h:o=4
 ·subst h;simp[Ex.op,Ex.kids,gk,text,eP]
 ·have hl:2≤gk o:=by
   unfold gk
   repeat' split
   all_goals omega
  rw[ai (show¬(Ex.node o l ks).op=4 from h),Co]
  show eP o 1 _=eP o 2 _++[]
  rw[cR]
  unfold eP
  by_cases U:gk o<1
  ·rw[aj U,aj (by omega)]
  ·rw[ai U,ai (by omega)]
theorem VU (e:Ex):TX 2 e=texts [38] 3 true (mb 6 e):=by
 obtain ⟨o,l,ks⟩:=e
 unfold mb TX
 by_cases h:o=6
 ·subst h;simp[Ex.op,Ex.kids,gk,text,eP]
 ·have hl:gk o≠2:=by
   unfold gk
   repeat' split
   all_goals omega
  rw[ai (show¬(Ex.node o l ks).op=6 from h),Co]
  show eP o 2 _=eP o 3 _++[]
  rw[cR]
  unfold eP
  by_cases U:gk o<2
  ·rw[aj U,aj (by omega)]
  ·rw[ai U,ai (by omega)]
theorem VV (e:Ex):TX 3 e=texts [] 4 true (mb 5 e):=by
 obtain ⟨o,l,ks⟩:=e
 unfold mb TX
 by_cases h:o=5
 ·subst h;simp[Ex.op,Ex.kids,gk,text,eP]
 ·have hl:gk o≠3:=by
   unfold gk
   repeat' split
   all_goals omega
  rw[ai (show¬(Ex.node o l ks).op=5 from h),Co]
  show eP o 3 _=eP o 4 _++[]
  rw[cR]
  unfold eP
  by_cases U:gk o<3
  ·rw[aj U,aj (by omega)]
  ·rw[ai U,ai (by omega)]
theorem Cp (l:Int) (k:Ex):TX 4 (.node 8 l [k])=33::TX 4 k:=by
 simp[TX,eP,Ex.op,gk,text,texts]
theorem Cq {e:Ex} (h:e.op≠8):TX 4 e=TX 5 e:=by
 unfold TX eP gk
 repeat' split
 all_goals first|rfl|omega
theorem ahP (l:Int) (k:Ex):TX 5 (.node 7 l [k])=TX 5 k++[42]:=by
 simp[TX,eP,Ex.op,gk,text,texts]
theorem ahQ {e:Ex} (h:e.op≠7):TX 5 e=TX 6 e:=by
 unfold TX eP gk
 repeat' split
 all_goals first|rfl|omega
theorem qi {e:Ex} (h:4≤e.op∧e.op≤8):TX 6 e=40::(TX 1 e++[41]):=by
 unfold TX eP gk
 repeat' split
 all_goals first|rfl|omega
theorem Nr {e:Ex} (h:e.wf 6=true):(e= .node 1 0 []∨e= .node 2 0 []∨(∃l:Int,0≤l∧l<6∧e= .node 3 l []))∨(4≤e.op∧e.op≤8):=by
 obtain ⟨o,l,ks⟩:=e
 obtain ⟨h1,U⟩:=gS h
 simp only[Ex.op]
 rcases eO h1 with ⟨rfl,h,h3,h4⟩|⟨rfl,⟨rfl,h⟩|⟨rfl,h⟩|⟨rfl,h⟩|⟨rfl,h⟩|⟨rfl,h⟩|⟨rfl,h⟩|⟨rfl,h⟩⟩
 ·obtain rfl:=mA.1 (show ks.length=0 by omega)
  exact .inl (.inr (.inr ⟨l,h3,h4,rfl⟩))
 ·obtain rfl:=mA.1 (show ks.length=0 by omega)
  exact .inl (.inl rfl)
 ·obtain rfl:=mA.1 (show ks.length=0 by omega)
  exact .inl (.inr (.inl rfl))
 all_goals exact .inr (by omega)
def Cr (c:UInt8):Prop:=c=48∨c=49∨c=40∨c=97∨c=98∨c=99∨c=100∨c=101∨c=102
theorem rQ {l:Int} (h0:0≤l) (h1:l<6):UInt8.ofNat (97+l).toNat=97∧l=0∨UInt8.ofNat (97+l).toNat=98∧l=1∨UInt8.ofNat (97+l).toNat=99∧l=2∨UInt8.ofNat (97+l).toNat=100∧l=3∨UInt8.ofNat (97+l).toNat=101∧l=4∨UInt8.ofNat (97+l).toNat=102∧l=5:=by
 rcases (show l=0∨l=1∨l=2∨l=3∨l=4∨l=5 by omega) with rfl|rfl|rfl|rfl|rfl|rfl<;>decide
theorem ahR {e:Ex} (h:e.wf 6=true): ∃c t,TX 6 e=c::t∧Cr c:=by
 rcases Nr h with (rfl|rfl|⟨l,h0,h1,rfl⟩)|h
 ·exact ⟨48,[],rfl,.inl rfl⟩
 ·exact ⟨49,[],rfl,.inr (.inl rfl)⟩
 ·refine ⟨UInt8.ofNat (97+l).toNat,[],by simp[TX,eP,gk,Ex.op,text],?_⟩
  unfold Cr
  rcases rQ h0 h1 with h|h|h|h|h|h<;>simp[h.1]
 ·exact ⟨40,_,qi h,.inr (.inr (.inl rfl))⟩
theorem Cs {o l:Int} {ks:List Ex} (h:(Ex.node o l ks).wf 6=true) (ho:o=7∨o=8): ∃k,ks=[k]∧k.wf 6=true∧l=0:=by
 obtain ⟨h1,U⟩:=gS h
 rcases eO h1 with h|⟨h0,h⟩
 ·omega
 ·obtain ⟨k,rfl⟩:=vQ.1 (show ks.length=1 by omega)
  exact ⟨k,rfl,U k (by simp),h0⟩
def Ns (e:Ex):Nat→Ex
 | 0=>e
 | n+1=> .node 7 0 [Ns e n]
theorem Nt: ∀e:Ex,e.wf 6=true→∃(b:Ex) (n:Nat),e=Ns b n∧b.op≠7∧b.wf 6=true∧TX 5 e=TX 6 b++List.replicate n 42:=ind fun o l ks ih h=>by
 by_cases ho:o=7
 ·subst ho
  obtain ⟨k,rfl,hk,rfl⟩:=Cs h (.inl rfl)
  obtain ⟨b,n,h1,U,h3,h4⟩:=ih k (by simp) hk
  exact ⟨b,n+1,by rw[h1];rfl,U,h3,by rw[ahP,h4,List.replicate_succ',cx]⟩
 ·exact ⟨.node o l ks,0,rfl,ho,h,by rw[ahQ (show (Ex.node o l ks).op≠7 from ho)];simp⟩
theorem Nu {e:Ex} (h:e.wf 6=true): ∃c t,TX 5 e=c::t∧Cr c:=by
 obtain ⟨b,n,_,_,h3,h4⟩:=Nt e h
 obtain ⟨c,t,h5,h6⟩:=ahR h3
 exact ⟨c,t++List.replicate n 42,by rw[h4,h5];rfl,h6⟩
theorem ahS {e:Ex} (h:e.wf 6=true): ∃c t,TX 4 e=c::t∧(c=33∨Cr c):=by
 by_cases ho:e.op=8
 ·obtain ⟨o,l,ks⟩:=e
  obtain rfl:o=8:=ho
  obtain ⟨k,rfl,_⟩:=Cs h (.inr rfl)
  exact ⟨33,TX 4 k,Cp _ _,.inl rfl⟩
 ·obtain ⟨c,t,h1,U⟩:=Nu h
  exact ⟨c,t,by rw[Cq ho,h1],.inr U⟩
def gU (m:Int) (c:UInt8):Prop:=if m=1 then c=41 else if m=2 then c=41∨c=124 else if m=3 then c=41∨c=124∨c=38 else if m=6 then True else c≠42
def fo (m:Int) (r:List UInt8):Prop:= ∀c t,r=c::t→gU m c
theorem VW {m:Int}:fo m []:=fun c t h=>by cases h
theorem Nw {m:Int} {c:UInt8} {t:List UInt8} (h:gU m c):fo m (c::t):=fun c' t' e=>by cases e;exact h
def ko (m:Int) (e:Ex):Prop:= ∀(e':Ex) (r r':List UInt8),e'.wf 6=true→fo m r→fo m r'→TX m e++r=TX m e'++r'→e=e'∧r=r'
theorem Ct {o:Int} {e:Ex} (h:e.wf 6=true): ∀x∈mb o e,x.wf 6=true:=fun x hx=>by
 unfold mb at hx
 split at hx
 ·obtain ⟨o,l,ks⟩:=e
  exact (gS h).2 x hx
 ·rw[ez.1 hx];exact h
theorem VX {o:Int} {e:Ex} (ho:4≤o∧o≤6) (h:e.wf 6=true): ∃x xs,mb o e=x::xs:=by
 unfold mb
 split
 ·next lU=>
  obtain ⟨o,l,ks⟩:=e
  obtain ⟨h1,U⟩:=gS h
  simp only[Ex.op] at lU
  match ks,h1 with
  | [],h1=>rcases eO h1 with h|⟨_,h⟩<;>simp at h<;>omega
  | x::xs,_=>exact ⟨x,xs,rfl⟩
 ·exact ⟨e,[],rfl⟩
theorem ahT {o:Int} {e e':Ex} (ho:4≤o∧o≤6) (h:e.wf 6=true) (h':e'.wf 6=true) (he:mb o e=mb o e'):e=e':=by
 have hl: ∀{x:Ex},x.wf 6=true→x.op=o→x.bx=0∧2≤x.kids.length:=fun {x} hx JL=>by
  obtain ⟨o,l,ks⟩:=x
  obtain ⟨h1,U⟩:=gS hx
  simp only[Ex.op,Ex.bx,Ex.kids] at*
  rcases eO h1 with h|⟨_,h⟩<;>omega
 unfold mb at he
 by_cases h1:e.op=o
 ·obtain ⟨a1,a2⟩:=hl h h1
  rw[aj h1] at he
  by_cases U:e'.op=o
  ·obtain ⟨b1,b2⟩:=hl h' U
   rw[aj U] at he
   obtain ⟨o1,l1,k1⟩:=e
   obtain ⟨o2,l2,k2⟩:=e'
   simp only[Ex.op,Ex.bx,Ex.kids] at*
   subst he h1 U a1 b1
   rfl
  ·rw[ai U] at he
   rw[he] at a2
   simp at a2
 ·rw[ai h1] at he
  by_cases U:e'.op=o
  ·obtain ⟨b1,b2⟩:=hl h' U
   rw[aj U] at he
   rw[←he] at b2
   simp at b2
  ·rw[ai U] at he
   exact (gG he).1
section
variable {sep:List UInt8} {m:Int} (hh: ∀y:Ex,y.wf 6=true→∃c t,sep++TX m y=c::t∧gU m c∧¬gU (m-1) c) (hf: ∀c,gU (m-1) c→gU m c)
include hh hf
theorem Hc {ys:List Ex} {r:List UInt8} (hy: ∀y∈ys,y.wf 6=true) (hr:fo (m-1) r):fo m (texts sep m false ys++r):=by
 cases ys with
 | nil=>exact fun c t e=>hf c (hr c t e)
 | cons y ys=>
  obtain ⟨c,t,h1,U,h3⟩:=hh y (hy y (by simp))
  rw[Cn,←cx sep,h1]
  exact Nw U
theorem VY: ∀(xs ys:List Ex) (r r':List UInt8),(∀x∈xs,x.wf 6=true∧ko m x)→(∀y∈ys,y.wf 6=true)→fo (m-1) r→fo (m-1) r'→texts sep m false xs++r=texts sep m false ys++r'→xs=ys∧r=r'
 | [],[],r,r',_,_,_,_,h=>⟨rfl,h⟩
 | [],y::ys,r,r',_,hy,hr,_,h=>by
  obtain ⟨c,t,h1,U,h3⟩:=hh y (hy y (by simp))
  rw[Cn,←cx sep,h1] at h
  exact absurd (hr c _ (by simpa[texts] using h)) h3
 | x::xs,[],r,r',hx,_,_,hr,h=>by
  obtain ⟨c,t,h1,U,h3⟩:=hh x (hx x (by simp)).1
  rw[Cn,←cx sep,h1] at h
  exact absurd (hr c _ (by simpa[texts] using h.symm)) h3
 | x::xs,y::ys,r,r',hx,hy,hr,iI,h=>by
  rw[Cn,Cn,cx,cx,cx,cx] at h
  obtain ⟨rfl,U⟩:=(hx x (by simp)).2 y _ _ (hy y (by simp)) (Hc hh hf (fun z hz=>(hx z (by simp[hz])).1) hr) (Hc hh hf (fun z hz=>hy z (by simp[hz])) iI) (List.append_cancel_left h)
  obtain ⟨rfl,h3⟩:=VY xs ys r r' (fun z hz=>hx z (by simp[hz])) (fun z hz=>hy z (by simp[hz])) hr iI U
  exact ⟨rfl,h3⟩
theorem Nx {o:Int} (ho:4≤o∧o≤6) (ht: ∀e:Ex,TX (m-1) e=texts sep m true (mb o e)) {e:Ex} (he:e.wf 6=true) (ih: ∀x∈mb o e,ko m x):ko (m-1) e:=by
 intro e' r r' hY hr iI h
 rw[ht,ht] at h
 obtain ⟨x,xs,hx⟩:=VX ho he
 obtain ⟨y,ys,hy⟩:=VX ho hY
 have wx:=Ct (o:=o) he
 have wy:=Ct (o:=o) hY
 rw[hx] at wx ih
 rw[hy] at wy
 rw[hx,hy,Co,Co,cx,cx] at h
 obtain ⟨rfl,U⟩:=ih x (by simp) y _ _ (wy y (by simp)) (Hc hh hf (fun z hz=>wx z (by simp[hz])) hr) (Hc hh hf (fun z hz=>wy z (by simp[hz])) iI) h
 obtain ⟨rfl,h3⟩:=VY hh hf xs ys r r' (fun z hz=>⟨wx z (by simp[hz]),ih z (by simp[hz])⟩) (fun z hz=>wy z (by simp[hz])) hr iI U
 exact ⟨ahT ho he hY (by rw[hx,hy]),h3⟩
end
theorem Ny {c:UInt8} (h:Cr c):c≠33∧c≠41∧c≠42∧c≠124∧c≠38:=by
 rcases h with rfl|rfl|rfl|rfl|rfl|rfl|rfl|rfl|rfl<;>decide
theorem ahU {e:Ex} (he:e.wf 6=true) (ih: ∀x∈mb 4 e,ko 2 x):ko 1 e:=
 Nx (sep:=[124]) (m:=2) (fun y _=>⟨124,_,rfl,by simp[gU],by simp[gU]⟩) (fun c h=>by simp[gU] at h⊢;exact .inl h) (o:=4) (by omega) VT he ih
theorem tH {e:Ex} (he:e.wf 6=true) (ih: ∀x∈mb 6 e,ko 3 x):ko 2 e:=
 Nx (sep:=[38]) (m:=3) (fun y _=>⟨38,_,rfl,by simp[gU],by simp[gU]⟩) (fun c h=>by simp[gU] at h⊢;rcases h with h|h<;>simp[h]) (o:=6) (by omega) VU he ih
theorem ahV {e:Ex} (he:e.wf 6=true) (ih: ∀x∈mb 5 e,ko 4 x):ko 3 e:=
 Nx (sep:=[]) (m:=4) (fun y hy=>by
  obtain ⟨c,t,h1,U⟩:=ahS hy
  refine ⟨c,t,h1,?_⟩
  rcases U with rfl|U
  ·simp[gU]
  ·have:=Ny U
   simp[gU,this]) (fun c h=>by simp[gU] at h⊢;rcases h with rfl|rfl|rfl<;>decide) (o:=5) (by omega) VV he ih
theorem ahW {e:Ex} (he:e.wf 6=true) (ih8: ∀k,e= .node 8 0 [k]→ko 4 k) (ih:e.op≠8→ko 5 e):ko 4 e:=by
 intro e' r r' hY hr iI h
 by_cases h1:e.op=8
 ·obtain ⟨o,l,ks⟩:=e
  obtain rfl:o=8:=h1
  obtain ⟨k,rfl,hk,rfl⟩:=Cs he (.inr rfl)
  rw[Cp] at h
  by_cases U:e'.op=8
  ·obtain ⟨o',l',bO⟩:=e'
   obtain rfl:o'=8:=U
   obtain ⟨k',rfl,dc,rfl⟩:=Cs hY (.inr rfl)
   rw[Cp] at h
   obtain ⟨rfl,h3⟩:=ih8 k rfl k' r r' dc hr iI (gG h).2
   exact ⟨rfl,h3⟩
  ·rw[Cq U] at h
   obtain ⟨c,t,h3,h4⟩:=Nu hY
   rw[h3] at h
   exact absurd (gG h).1.symm (Ny h4).1
 ·rw[Cq h1] at h
  by_cases U:e'.op=8
  ·obtain ⟨o',l',bO⟩:=e'
   obtain rfl:o'=8:=U
   obtain ⟨k',rfl,dc,rfl⟩:=Cs hY (.inr rfl)
   rw[Cp] at h
   obtain ⟨c,t,h3,h4⟩:=Nu he
   rw[h3] at h
   exact absurd (gG h).1 (Ny h4).1
  ·rw[Cq U] at h
   exact ih h1 e' r r' hY (by simpa[fo,gU] using hr) (by simpa[fo,gU] using iI) h
theorem VZ {r r':List UInt8} (hr:fo 5 r) (iI:fo 5 r'): ∀{n n':Nat},List.replicate n 42++r=List.replicate n' 42++r'→n=n'∧r=r'
 | 0,0,h=>⟨rfl,h⟩
 | 0,n+1,h=>by
  have:=hr 42 (List.replicate n 42++r') (by simpa[List.replicate_succ] using h)
  simp[gU] at this
 | n+1,0,h=>by
  have:=iI 42 (List.replicate n 42++r) (by simpa[List.replicate_succ] using h.symm)
  simp[gU] at this
 | n+1,n'+1,h=>by
  rw[List.replicate_succ,List.replicate_succ] at h
  obtain ⟨rfl,U⟩:=VZ hr iI (gG h).2
  exact ⟨rfl,U⟩
theorem V0 (r:List UInt8):fo 6 r:=fun c t _=>by simp[gU]
theorem ahX {b:Ex} {n:Nat} {e:Ex} (h1:e=Ns b n) (U:TX 5 e=TX 6 b++List.replicate n 42) (ih:ko 6 b):ko 5 e:=by
 intro e' r r' hY hr iI h
 obtain ⟨b',n',e1,e2,e3,e4⟩:=Nt e' hY
 rw[U,e4,cx,cx] at h
 obtain ⟨rfl,h3⟩:=ih b' _ _ e3 (V0 _) (V0 _) h
 obtain ⟨rfl,h4⟩:=VZ hr iI h3
 exact ⟨by rw[h1,e1],h4⟩
theorem ahY {e:Ex} (he:e.wf 6=true) (ih:4≤e.op∧e.op≤8→ko 1 e):ko 6 e:=by
 intro e' r r' hY hr iI h
 have hl: ∀l:Int,TX 6 (.node 3 l [])=[UInt8.ofNat (97+l).toNat]:=fun l=>by simp[TX,eP,gk,Ex.op,text]
 have t1:TX 6 (.node 1 0 [])=[48]:=rfl
 have t2:TX 6 (.node 2 0 [])=[49]:=rfl
 rcases Nr he with (rfl|rfl|⟨l,h0,h1,rfl⟩)|ho<;>rcases Nr hY with (rfl|rfl|⟨l',wL,jX,rfl⟩)|jF
 ·exact ⟨rfl,List.append_cancel_left h⟩
 ·rw[t1,t2] at h;cases (gG h).1
 ·rw[t1,hl] at h
  have:=(gG h).1
  rcases rQ wL jX with h|h|h|h|h|h<;>(rw[h.1] at this;cases this)
 ·rw[t1,qi jF] at h;cases (gG h).1
 ·rw[t1,t2] at h;cases (gG h).1
 ·exact ⟨rfl,List.append_cancel_left h⟩
 ·rw[t2,hl] at h
  have:=(gG h).1
  rcases rQ wL jX with h|h|h|h|h|h<;>(rw[h.1] at this;cases this)
 ·rw[t2,qi jF] at h;cases (gG h).1
 ·rw[t1,hl] at h
  have:=(gG h).1
  rcases rQ h0 h1 with h|h|h|h|h|h<;>(rw[h.1] at this;cases this)
 ·rw[t2,hl] at h
  have:=(gG h).1
  rcases rQ h0 h1 with h|h|h|h|h|h<;>(rw[h.1] at this;cases this)
 ·rw[hl,hl] at h
  obtain ⟨U,h3⟩:=gG h
  refine ⟨?_,h3⟩
  have:l=l':=by
   rcases rQ h0 h1 with ⟨a,rfl⟩|⟨a,rfl⟩|⟨a,rfl⟩|⟨a,rfl⟩|⟨a,rfl⟩|⟨a,rfl⟩<;>rcases rQ wL jX with ⟨b,rfl⟩|⟨b,rfl⟩|⟨b,rfl⟩|⟨b,rfl⟩|⟨b,rfl⟩|⟨b,rfl⟩<;>first|rfl|(rw[a,b] at U;cases U)
  rw[this]
 ·rw[hl,qi jF] at h
  have:=(gG h).1
  rcases rQ h0 h1 with h|h|h|h|h|h<;>(rw[h.1] at this;cases this)
 ·rw[t1,qi ho] at h;cases (gG h).1
 ·rw[t2,qi ho] at h;cases (gG h).1
 ·rw[hl,qi ho] at h
  have:=(gG h).1
  rcases rQ wL jX with h|h|h|h|h|h<;>(rw[h.1] at this;cases this)
 ·rw[qi ho,qi jF] at h
  have U:(TX 1 e++[41])++r=(TX 1 e'++[41])++r':=(gG h).2
  rw[cx,cx] at U
  obtain ⟨h3,h4⟩:=ih ho e' _ _ hY (Nw (by simp[gU])) (Nw (by simp[gU])) U
  exact ⟨h3,(gG h4).2⟩
theorem Hd {sep:List UInt8} {m:Int}: ∀{xs:List Ex} {f:Bool} {x:Ex},x∈xs→(TX m x).length≤(texts sep m f xs).length
 | y::ys,f,x,h=>by
  simp only[texts,bZ]
  rcases dx.1 h with rfl|h
  ·show (eP x.op m x.text).length≤_;omega
  ·have:=Hd (sep:=sep) (m:=m) (f:=false) h
   omega
theorem V1: ∀(n:Nat) (m:Int) (e:Ex),1≤m→m≤6→e.wf 6=true→8*(TX m e).length+(7-m).toNat<n→ko m e
 | 0,m,e,_,_,_,h=>by omega
 | n+1,m,e,h1,h6,he,h=>by
  have ih:=V1 n
  rcases (show m=1∨m=2∨m=3∨m=4∨m=5∨m=6 by omega) with rfl|rfl|rfl|rfl|rfl|rfl
  ·refine ahU he fun x hx=>ih 2 x (by omega) (by omega) (Ct he x hx) ?_
   have:=Hd (sep:=[124]) (m:=2) (f:=true) hx
   rw[VT] at h
   omega
  ·refine tH he fun x hx=>ih 3 x (by omega) (by omega) (Ct he x hx) ?_
   have:=Hd (sep:=[38]) (m:=3) (f:=true) hx
   rw[VU] at h
   omega
  ·refine ahV he fun x hx=>ih 4 x (by omega) (by omega) (Ct he x hx) ?_
   have:=Hd (sep:=[]) (m:=4) (f:=true) hx
   rw[VV] at h
   omega
  ·refine ahW he (fun k hk=> ?_) fun ho=> ?_
   ·subst hk
    rw[Cp,List.length_cons] at h
    exact ih 4 k (by omega) (by omega) ((gS he).2 k (by simp)) (by omega)
   ·rw[Cq ho] at h
    exact ih 5 e (by omega) (by omega) he (by omega)
  ·obtain ⟨b,k,e1,e2,e3,e4⟩:=Nt e he
   refine ahX e1 e4 (ih 6 b (by omega) (by omega) e3 ?_)
   rw[e4,bZ] at h
   omega
  ·refine ahY he fun ho=>ih 1 e (by omega) (by omega) he ?_
   rw[qi ho,List.length_cons,bZ] at h
   simp only[List.length_cons,List.length_nil] at h
   omega
theorem V2 (e:Ex):TX 1 e=e.text:=by
 unfold TX eP
 rw[ai]
 unfold gk
 repeat' split
 all_goals omega
theorem V3 {a b:Ex} (ha:a.wf 6=true) (hb:b.wf 6=true) (h:a.text=b.text):a=b:=
 (V1 _ 1 a (by omega) (by omega) ha (y9 _) b [] [] hb VW VW (by rw[V2,V2,h])).1
end Go.AM
set_option maxRecDepth 100000
namespace Go.AM
open Go.Proofs
noncomputable def V4 (C:ag) (ah aq:Int) (af:List V):Option (List V):=
 (C AU [.int .i64 ah,.int .i64 aq,.list aa af]).bind fun r1=>
 bif !((V.nth r1 0).toBool) then
  some [.str []]
 else
  (C sO [.int .i64 ah,.int .i64 aq,.list aa af,.list c7 ([]:List V)]).bind fun r2=>
  (C Fy [.list c7 ((V.nth r2 0).toList)]).bind fun r3=>
  some [.str ((V.nth r3 0).toStr)]
theorem ahZ {ah aq:Int} {af:List V} {r:Option (List V)} (h:V4 CC ah aq af=r):CC xl [.int .i64 ah,.int .i64 aq,.list aa af]=r:=
 bh (key:=60) (L:=cw) (bs:=[]) (by kernel_rfl) aw (bd (by kernel_rfl) h)
noncomputable abbrev iT:Code:=cF Try.prog (ay.aV 75)
noncomputable def He (C:ag) (t5:Int) (t28:Bool) (dt da:Int) (cD bt:List V) {β:Type} (kr:(List V)→Option β):Option β:=
 bif t28 then
  (C sQ [.list aa cD,.str [38],.int .i64 3,.list c7 bt]).bind fun r5=>
  kr ((V.nth r5 0).toList)
 else
  bif (t5:Int)==5 then
  (C sQ [.list aa cD,.str [],.int .i64 4,.list c7 bt]).bind fun r6=>
  kr ((V.nth r6 0).toList)
  else
  bif (t5:Int)==8 then
   (C pZ [.int .u8 33,.list c7 bt]).bind fun r7=>
   (C sQ [.list aa cD,.str [],.int .i64 4,.list c7 ((V.nth r7 0).toList)]).bind fun r8=>
   kr ((V.nth r8 0).toList)
  else
   bif (t5:Int)==7 then
   (C sQ [.list aa cD,.str [],.int .i64 5,.list c7 bt]).bind fun r9=>
   (C pZ [.int .u8 42,.list c7 ((V.nth r9 0).toList)]).bind fun cN=>
   kr ((V.nth cN 0).toList)
   else
   kr bt
noncomputable def Hf (C:ag) (t5:Int) (t22:Bool) (dt da:Int) (cD bt:List V) {β:Type} (kr:(List V)→Option β):Option β:=
 bif t22 then
  (C sQ [.list aa cD,.str [124],.int .i64 2,.list c7 bt]).bind fun r4=>
  kr ((V.nth r4 0).toList)
 else
  He C t5 ((t5:Int)==6) dt da cD bt (fun (rR:List V)=>
   kr rR)
noncomputable def Hg (C:ag) (t5:Int) (t14:Bool) (dt da:Int) (cD bt:List V) {β:Type} (kr:(List V)→Option β):Option β:=
 bif t14 then
  (C pZ [.int .u8 (IntKind.wrap .u8 (97+(IntKind.wrap .u8 da))),.list c7 bt]).bind fun r3=>
  kr ((V.nth r3 0).toList)
 else
  Hf C t5 ((t5:Int)==4) dt da cD bt (fun (vG:List V)=>
   kr vG)
noncomputable def Hh (C:ag) (t5:Int) (t10:Bool) (dt da:Int) (cD bt:List V) {β:Type} (kr:(List V)→Option β):Option β:=
 bif t10 then
  (C pZ [.int .u8 49,.list c7 bt]).bind fun r2=>
  kr ((V.nth r2 0).toList)
 else
  Hg C t5 ((t5:Int)==3) dt da cD bt (fun (ah0:List V)=>
   kr ah0)
noncomputable def Hi (C:ag) (t5:Int) (t6:Bool) (dt da:Int) (cD bt:List V) {β:Type} (kr:(List V)→Option β):Option β:=
 bif t6 then
  (C pZ [.int .u8 48,.list c7 bt]).bind fun r1=>
  kr ((V.nth r1 0).toList)
 else
  Hh C t5 ((t5:Int)==2) dt da cD bt (fun (Cu:List V)=>
   kr Cu)
noncomputable def V5 (C:ag):ct:=fun β n ds k=>
 bif Nat.beq n 463 then ij K6 [[0]] (@He C) ds k else
 bif Nat.beq n 367 then ij K7 [[0]] (@Hf C) ds k else
 bif Nat.beq n 239 then ij K8 [[0]] (@Hg C) ds k else
 bif Nat.beq n 175 then ij K9 [[0]] (@Hh C) ds k else
 bif Nat.beq n 111 then ij La [[0]] (@Hi C) ds k else
 none
abbrev Cv (C:ag) (b:cq):Prop:=cr Try.prog ay C (V5 C) 75 (cK Try.prog (ay.aV 75)) (ay.sin 75).bj.length b
theorem ah1 (C:ag):Cv C (.cond 28 (av [1,1,0,1,1,1,1,1,1,1,1,1,0] iT) (av [1,1,0,1,1,1,1,1,1,1,1,1,1] iT)):=
 iL K6 [[0]] (@He C) (by kernel_rfl) (aZ (bs:=[]) (by kernel_rfl) aw) (aZ (bs:=[]) (by kernel_rfl) aw) (fun ds=>by kernel_rfl) (fun i β k=>by kernel_rfl) (fun β ds k=>by kernel_rfl)
theorem ah2 (C:ag):Cv C (.cond 22 (av [1,1,0,1,1,1,1,1,1,1,0] iT) (av [1,1,0,1,1,1,1,1,1,1,1] iT)):=
 iL K7 [[0]] (@Hf C) (by kernel_rfl) (aZ (bs:=[]) (by kernel_rfl) aw) (aZ (bs:=[.cond 28 (av [1,1,0,1,1,1,1,1,1,1,1,1,0] iT) (av [1,1,0,1,1,1,1,1,1,1,1,1,1] iT)]) (by kernel_rfl) (bu (ah1 C) aw)) (fun ds=>by kernel_rfl) (fun i β k=>by kernel_rfl) (fun β ds k=>by kernel_rfl)
theorem ah3 (C:ag):Cv C (.cond 14 (av [1,1,0,1,1,1,1,1,0] iT) (av [1,1,0,1,1,1,1,1,1] iT)):=
 iL K8 [[0]] (@Hg C) (by kernel_rfl) (aZ (bs:=[]) (by kernel_rfl) aw) (aZ (bs:=[.cond 22 (av [1,1,0,1,1,1,1,1,1,1,0] iT) (av [1,1,0,1,1,1,1,1,1,1,1] iT)]) (by kernel_rfl) (bu (ah2 C) aw)) (fun ds=>by kernel_rfl) (fun i β k=>by kernel_rfl) (fun β ds k=>by kernel_rfl)
theorem ah4 (C:ag):Cv C (.cond 10 (av [1,1,0,1,1,1,0] iT) (av [1,1,0,1,1,1,1] iT)):=
 iL K9 [[0]] (@Hh C) (by kernel_rfl) (aZ (bs:=[]) (by kernel_rfl) aw) (aZ (bs:=[.cond 14 (av [1,1,0,1,1,1,1,1,0] iT) (av [1,1,0,1,1,1,1,1,1] iT)]) (by kernel_rfl) (bu (ah3 C) aw)) (fun ds=>by kernel_rfl) (fun i β k=>by kernel_rfl) (fun β ds k=>by kernel_rfl)
theorem ah5 (C:ag):Cv C (.cond 6 (av [1,1,0,1,0] iT) (av [1,1,0,1,1] iT)):=
 iL La [[0]] (@Hi C) (by kernel_rfl) (aZ (bs:=[]) (by kernel_rfl) aw) (aZ (bs:=[.cond 10 (av [1,1,0,1,1,1,0] iT) (av [1,1,0,1,1,1,1] iT)]) (by kernel_rfl) (bu (ah4 C) aw)) (fun ds=>by kernel_rfl) (fun i β k=>by kernel_rfl) (fun β ds k=>by kernel_rfl)
noncomputable def V6 (C:ag) (ah aq:Int) (af bX:List V):Option (List V):=
 Hi C ah ((ah:Int)==1) ah aq af bX (fun (tn:List V)=>
  some [.list c7 tn])
theorem ah6 {ah aq:Int} {af bX:List V} {r:Option (List V)} (h:V6 CC ah aq af bX=r):CC sO [.int .i64 ah,.int .i64 aq,.list aa af,.list c7 bX]=r:=
 bh (key:=75) (L:=V5 CC) (bs:=[.cond 6 (av [1,1,0,1,0] iT) (av [1,1,0,1,1] iT)]) (by kernel_rfl) (bu (ah5 CC) aw) (bd (by kernel_rfl) h)
noncomputable abbrev yK:Code:=cF Try.prog (ay.aV 91)
noncomputable def Cw (C:ag) (separator:List UInt8) (least:Int) (t10:List V) (t11 t12:Int) (t18:Bool) (alV alW:Int) (alX bt:List V) {β:Type} (kr:(List V)→Option β):Option β:=
 bif t18 then
  (C FD [.str separator,.list c7 bt]).bind fun r2=>
  kr ((V.nth (r2.drop 1) 0).toList)
 else
  kr bt
noncomputable def Cx (C:ag) (separator:List UInt8) (least:Int) (t10:List V) (t11 t12:Int) (dq:List V) {β:Type} (kn:(Int × (List V))→Option β) (kr:(Int × Bool × (List V))→Option β):Option β:=
 bif decide ((t12:Int)<t11) then
  (idx t10 t12).bind fun x1=>
  Cw C separator least t10 t11 t12 (decide ((t12:Int)>0)) ((x1.cell 0).toInt) ((x1.cell 1).toInt) ((x1.cell 2).toList) dq (fun (G6:List V)=>
   (C FE [.int .i64 ((x1.cell 0).toInt)]).bind fun r4=>
   bif decide ((((V.nth r4 0).toInt):Int)≥least) then
   (C sO [.int .i64 ((x1.cell 0).toInt),.int .i64 ((x1.cell 1).toInt),.list aa ((x1.cell 2).toList),.list c7 G6]).bind fun r5=>
   kn (IntKind.wrap .i64 (t12+1),(V.nth r5 0).toList)
   else
   (C pZ [.int .u8 40,.list c7 G6]).bind fun r6=>
   (C sO [.int .i64 ((x1.cell 0).toInt),.int .i64 ((x1.cell 1).toInt),.list aa ((x1.cell 2).toList),.list c7 ((V.nth r6 0).toList)]).bind fun r7=>
   (C pZ [.int .u8 41,.list c7 ((V.nth r7 0).toList)]).bind fun r8=>
   kn (IntKind.wrap .i64 (t12+1),(V.nth r8 0).toList))
 else
  kr (t12,decide ((t12:Int)<t11),dq)
noncomputable def Cy (C:ag) (separator:List UInt8) (least:Int) (t10:List V) (t11:Int):(Int × (List V))→Option ((Int × (List V)) ⊕ (Int × Bool × (List V))):=un fun t12 dq=>Cx C separator least t10 t11 t12 dq (fun y=>some (.inl y)) (fun r=>some (.inr r))
noncomputable def V7 (C:ag):ct:=fun β n ds k=>
 bif Nat.beq n 303 then ij Lc [[1,2,3,4,5,7,8,9,0]] (@Cw C) ds k else
 bif Nat.beq n 17 then bW Ld [false,false,false,false,true,true] [[1,2,3,4,0,0,0]] (@Cx C) ds k else
 none
abbrev V8 (C:ag) (b:cq):Prop:=cr Try.prog ay C (V7 C) 91 (cK Try.prog (ay.aV 91)) (ay.sin 91).bj.length b
theorem ah7 (C:ag):V8 C (.cond 18 (av [1,0,0,1,1,0,0,1,0,1,0] yK) (av [1,0,0,1,1,0,0,1,0,1,1] yK)):=
 iL Lc [[1,2,3,4,5,7,8,9,0]] (@Cw C) (by kernel_rfl) (aZ (bs:=[]) (by kernel_rfl) aw) (aZ (bs:=[]) (by kernel_rfl) aw) (fun ds=>by kernel_rfl) (fun i β k=>by kernel_rfl) (fun β ds k=>by kernel_rfl)
theorem ah8 (C:ag):V8 C (.loop (av [1,0,0] yK)):=
 bY Ld [false,false,false,false,true,true] [[1,2,3,4,0,0,0]] (@Cx C) (by kernel_rfl) (aZ (bs:=[.cond 18 (av [1,0,0,1,1,0,0,1,0,1,0] yK) (av [1,0,0,1,1,0,0,1,0,1,1] yK)]) (by kernel_rfl) (bu (ah7 C) aw)) (fun ds=>by kernel_rfl) (fun i x=>by kernel_rfl) (fun i x β k=>by kernel_rfl) (fun β ds k=>by kernel_rfl)
noncomputable def V9 (C:ag) (kids:List V) (separator:List UInt8) (least:Int) (bX:List V):Option (List V):=
 (Loop (Cy C separator least kids (kids.length:Int)) (0,bX)).bind (un fun (sV:Int)=>un fun (L3:Bool) (rR:List V)=>
  some [.list c7 rR])
theorem ah9 {kids:List V} {separator:List UInt8} {least:Int} {bX:List V} {r:Option (List V)} (h:V9 CC kids separator least bX=r):CC sQ [.list aa kids,.str separator,.int .i64 least,.list c7 bX]=r:=
 bh (key:=91) (L:=V7 CC) (bs:=[.loop (av [1,0,0] yK)]) (by kernel_rfl) (bu (ah8 CC) aw) (bd (by kernel_rfl) h)
noncomputable def Wa (C:ag) (op:Int):Option (List V):=
 bif (op:Int)==4 then
  some [.int .i64 1]
 else
  bif (op:Int)==6 then
  some [.int .i64 2]
  else
  bif (op:Int)==5 then
   some [.int .i64 3]
  else
   bif (op:Int)==8 then
   some [.int .i64 4]
   else
   bif (op:Int)==7 then
    some [.int .i64 5]
   else
    some [.int .i64 6]
theorem aia {op:Int} {r:Option (List V)} (h:Wa CC op=r):CC FE [.int .i64 op]=r:=
 bh (key:=104) (L:=cw) (bs:=[]) (by kernel_rfl) aw (bd (by kernel_rfl) h)
noncomputable def Wb (C:ag) (c:Int) (bX:List V):Option (List V):=
 bif Nat.ble ((bX.length+([.int .u8 c]:List V).length)*1) bP then
  some [.list c7 (bX++([.int .u8 c]:List V))]
 else none
theorem aib {c:Int} {bX:List V} {r:Option (List V)} (h:Wb CC c bX=r):CC pZ [.int .u8 c,.list c7 bX]=r:=
 bh (key:=90) (L:=cw) (bs:=[]) (by kernel_rfl) aw (bd (by kernel_rfl) h)
noncomputable def Wc (C:ag) (s:List UInt8) (bX:List V):Option (List V):=
 bif Nat.ble ((bX.length+(s.map dC).length)*1) bP then
  some [.int .i64 (s.length:Int),.list c7 (bX++(s.map dC))]
 else none
theorem aic {s:List UInt8} {bX:List V} {r:Option (List V)} (h:Wc CC s bX=r):CC FD [.str s,.list c7 bX]=r:=
 bh (key:=103) (L:=cw) (bs:=[]) (by kernel_rfl) aw (bd (by kernel_rfl) h)
noncomputable def Wd (C:ag) (bX:List V):Option (List V):=
 bif Nat.blt 0 bX.length then
  bif decide (0<(bX.length:Int))&&(decide ((bX.length:Int)≤(bX.length:Int))&&(Nat.ble (((bX.length:Int):Int).toNat) sh&&(bX.take (((bX.length:Int):Int).toNat)).all v8)) then
  some [.str (lb (bX.take (((bX.length:Int):Int).toNat)))]
  else none
 else none
theorem aid {bX:List V} {r:Option (List V)} (h:Wd CC bX=r):CC Fy [.list c7 bX]=r:=
 bh (key:=76) (L:=cw) (bs:=[]) (by kernel_rfl) aw (bd (by kernel_rfl) h)
end Go.AM
set_option maxRecDepth 100000
namespace Go.AM
open Go.Proofs Ex
theorem vH (c:UInt8) (b:List UInt8) (h:b.length<2^40):CC pZ [.int .u8 c.toNat,.list c7 (b.map dC)]=some [.list c7 ((b++[c]).map dC)]:=by
 refine aib ?_
 unfold Wb
 simp only[AJ]
 rw[aj (by simp[bP];omega)]
 simp[dC]
theorem aie (s b:List UInt8) (h:b.length+s.length<2^40):CC FD [.str s,.list c7 (b.map dC)]=some [.int .i64 s.length,.list c7 ((b++s).map dC)]:=by
 refine aic ?_
 unfold Wc
 simp only[AJ]
 rw[aj (by simp[bP];omega)]
 simp
theorem aif (b:List UInt8):lb (b.map dC)=b:=by
 unfold lb
 rw[List.map_map]
 have:((fun x:V=>UInt8.ofNat x.toInt.toNat) ∘ dC)=id:=by
  funext c
  simp[dC]
 rw[this,List.map_id]
theorem aih (b:List UInt8) (h0:b≠[]) (h:b.length<2^40):CC Fy [.list c7 (b.map dC)]=some [.str b]:=by
 refine aid ?_
 unfold Wd
 have hp:0<b.length:=by cases b<;>simp at h0⊢
 have h1:Nat.blt 0 (b.map dC).length=true:=by rw[ku];simpa using hp
 have U:(((b.map dC).length:Int)).toNat=(b.map dC).length:=by simp
 have h3:Nat.ble (b.map dC).length sh=true:=Nat.ble_eq_true_of_le (by simp[sh];omega)
 have h4:(b.map dC).all v8=true:=by
  rw[fC]
  intro x hx
  obtain ⟨c,_,rfl⟩:=gH.1 hx
  have:=c.toNat_lt
  simp[v8,dC]
  omega
 rw[h1,U,qo,h3,h4,aif]
 simp[hp]
theorem aii (op:Int):CC FE [.int .i64 op]=some [.int .i64 (gk op)]:=by
 refine aia ?_
 unfold Wa gk
 simp only[df]
 repeat' split
 all_goals rfl
theorem aij {ks:List Ex} (hlen:ks.length≤maxLen) (ih: ∀k∈ks,∀b:List UInt8,b.length+k.text.length<2^40→CC sO (bS k [.list c7 (b.map dC)])=some [.list c7 ((b++k.text).map dC)]) (sep:List UInt8) (least:Int):
  ∀(ax pre:List Ex) (b:List UInt8),ks=pre++ax→b.length+(texts sep least pre.isEmpty ax).length<2^40→
  ∃i t,Loop (Cy CC sep least (ks.map enc) ((ks.map enc).length:Int)) (((pre.length:Nat):Int),b.map dC)=some (i,t,(b++texts sep least pre.isEmpty ax).map dC):=by
 intro ax
 induction ax with
 | nil=>
  intro pre b aY hb
  subst aY
  refine ⟨((pre.length:Nat):Int),false,aS ?_⟩
  simp only[Cy,Cx,un,cR,aL,az,texts]
  rw[ai (by omega)]
  simp
 | cons k ax dW=>
  intro pre b aY hb
  have bU:pre.length<ks.length:=by rw[aY];simp
  have hm:k∈ks:=by rw[aY];simp
  have:=mZ
  have bI:idx (ks.map enc) (pre.length:Int)=some k.enc:=by rw[aY];exact ga _ _ _
  generalize ia:(if pre.isEmpty then [] else sep)=sp
  have ht:texts sep least pre.isEmpty (k::ax)=sp++(eP k.op least k.text++texts sep least false ax):=by simp only[texts,ia]
  rw[ht] at hb⊢
  simp only[bZ] at hb
  have di:Cy CC sep least (ks.map enc) ((ks.map enc).length:Int) (((pre.length:Nat):Int),b.map dC)=some (.inl ((((pre++[k]).length:Nat):Int),(b++sp++eP k.op least k.text).map dC)):=by
   have h1: ∀{β:Type} (kr:List V→Option β) (o l:Int) (es:List V),Cw CC sep least (ks.map enc) ((ks.length:Nat):Int) ((pre.length:Nat):Int) (decide (((pre.length:Nat):Int)>0)) o l es (b.map dC) kr=kr ((b++sp).map dC):=by
    intro β kr o l es
    unfold Cw
    cases pre with
    | nil=>
     simp at ia
     subst ia
     simp
    | cons a pre=>
     simp at ia
     subst ia
     rw[aie _ _ (by omega)]
     have:(0:Int)<((a::pre).length:Int):=by simp only[List.length_cons];omega
     simp[this]
   simp only[Cy,Cx,un,aL,az]
   rw[aj (by omega),bI]
   simp only[Option.bind_some,aW,bc,a9]
   rw[h1,aii]
   simp only[Option.bind_some,V.aT,V.toInt_int,az]
   unfold eP at hb⊢
   by_cases hl:gk k.op<least
   ·rw[ai (by omega),aj hl]
    rw[aj hl] at hb
    simp only[List.length_cons,bZ,List.length_nil] at hb
    rw[show (V.int .u8 40)= .int .u8 (((40:UInt8).toNat:Nat):Int) by rfl,show (V.int .u8 41)= .int .u8 (((41:UInt8).toNat:Nat):Int) by rfl]
    rw[vH _ _ (by simp;omega)]
    simp only[Option.bind_some,V.aT,V.kO]
    rw[ih k hm _ (by simp;omega)]
    simp only[Option.bind_some,V.aT,V.kO]
    rw[vH _ _ (by simp;omega),wrap64 (by omega) (by omega)]
    simp
   ·rw[aj (by omega),ai hl]
    rw[ai hl] at hb
    rw[ih k hm _ (by simp;omega)]
    simp only[Option.bind_some,V.aT,V.kO]
    rw[wrap64 (by omega) (by omega)]
    simp
  rw[bJ di]
  have hE:(pre++[k]).isEmpty=false:=by cases pre<;>rfl
  have h3:=dW (pre++[k]) (b++sp++eP k.op least k.text) (by rw[aY];simp)
  rw[hE] at h3
  obtain ⟨i,t,U⟩:=h3 (by simp only[bZ];omega)
  refine ⟨i,t,U.trans ?_⟩
  simp
theorem aik {ks:List Ex} (hlen:ks.length≤maxLen) (ih: ∀k∈ks,∀b:List UInt8,b.length+k.text.length<2^40→CC sO (bS k [.list c7 (b.map dC)])=some [.list c7 ((b++k.text).map dC)]) (sep:List UInt8) (least:Int) (b:List UInt8)
  (hb:b.length+(texts sep least true ks).length<2^40):CC sQ [.list aa (ks.map enc),.str sep,.int .i64 least,.list c7 (b.map dC)]=some [.list c7 ((b++texts sep least true ks).map dC)]:=by
 refine ah9 ?_
 unfold V9
 obtain ⟨i,t,h⟩:=aij hlen ih sep least ks [] b rfl hb
 simp only[List.length_nil,Int.ofNat_zero,Int.natCast_zero,List.isEmpty_nil] at h
 erw [h]
 rfl
theorem ail {l n:Int} (h:dM 3 l n 6=true):0≤l∧l<6:=by
 simp[dM] at h;omega
theorem We {o l n letters:Int} (ho:o<1∨8<o):dM o l n letters=false:=by
 have n1:o≠1:=by omega
 have n2:o≠2:=by omega
 have n3:o≠3:=by omega
 have n7:o≠7:=by omega
 have n8:o≠8:=by omega
 have n9: ¬(4≤o∧o≤6∧2≤n):=by omega
 simp[dM,n1,n2,n3,n7,n8,n9]
theorem aim: ∀e:Ex,e.Ok→e.wf 6=true→∀b:List UInt8,b.length+e.text.length<2^40→CC sO (bS e [.list c7 (b.map dC)])=some [.list c7 ((b++e.text).map dC)]:=
 ind fun o l ks ih au AI b hb=>by
  obtain ⟨w1,w2⟩:=gS AI
  have hw:=fun sep least b=>aik au.len (fun k hk=>ih k hk (au.mf k hk) (w2 k hk)) sep least b
  refine ah6 ?_
  unfold V6 Hi Hh Hg Hf He
  simp only[Ex.op,Ex.bx,Ex.kids]
  rcases xQ o with rfl|rfl|rfl|rfl|rfl|rfl|rfl|rfl|ho
  case inr.inr.inr.inr.inr.inr.inr.inr=>rw[We ho] at w1;cases w1
  ·simp[text] at hb⊢
   rw[show (V.int .u8 48)= .int .u8 (((48:UInt8).toNat:Nat):Int) by rfl,vH _ _ (by omega)]
   simp
  ·simp[text] at hb⊢
   rw[show (V.int .u8 49)= .int .u8 (((49:UInt8).toNat:Nat):Int) by rfl,vH _ _ (by omega)]
   simp
  ·have hl:=ail w1
   simp[text] at hb⊢
   rw[Fe (x:=l) (by omega) (by omega),Fe (by omega) (by omega)]
   have:(V.int .u8 (97+l))= .int .u8 (((UInt8.ofNat (97+l).toNat).toNat:Nat):Int):=by
    have:(97+l).toNat<256:=by omega
    simp only[UInt8.toNat_ofNat']
    congr 1
    omega
   rw[this,vH _ _ (by omega)]
   simp
  ·simp[text] at hb⊢
   rw[hw _ _ _ (by omega)]
   simp
  ·simp[text] at hb⊢
   rw[hw _ _ _ (by omega)]
   simp
  ·simp[text] at hb⊢
   rw[hw _ _ _ (by omega)]
   simp
  ·simp[text] at hb⊢
   rw[hw _ _ _ (by omega)]
   simp only[Option.bind_some,V.aT,V.kO]
   rw[show (V.int .u8 42)= .int .u8 (((42:UInt8).toNat:Nat):Int) by rfl,vH _ _ (by simp;omega)]
   simp
  ·simp[text] at hb⊢
   rw[show (V.int .u8 33)= .int .u8 (((33:UInt8).toNat:Nat):Int) by rfl,vH _ _ (by omega)]
   simp only[Option.bind_some,V.aT,V.kO]
   rw[hw _ _ _ (by simp;omega)]
   simp
theorem ain: ∀e:Ex,e.wf 6=true→e.text≠[]:=ind fun o l ks ih h=>by
 obtain ⟨w1,w2⟩:=gS h
 rcases xQ o with rfl|rfl|rfl|rfl|rfl|rfl|rfl|rfl|ho
 case inr.inr.inr.inr.inr.inr.inr.inr=>rw[We ho] at w1;cases w1
 case inr.inr.inr.inl=>
  intro hh
  match ks,w1,hh with
  | [],w1,_=>simp[dM] at w1
  | [a],w1,_=>simp[dM] at w1
  | a::b::l,_,hh=>simp[text,texts] at hh
 case inr.inr.inr.inr.inr.inl=>
  intro hh
  match ks,w1,hh with
  | [],w1,_=>simp[dM] at w1
  | [a],w1,_=>simp[dM] at w1
  | a::b::l,_,hh=>simp[text,texts] at hh
 case inr.inr.inr.inr.inl=>
  intro hh
  match ks,w1,w2,hh,ih with
  | [],w1,_,_,_=>simp[dM] at w1
  | a::ks,_,w2,hh,ih=>
   have:=ih a (by simp) (w2 a (by simp))
   simp[text,texts,eP] at hh
   split at hh
   ·simp at hh
   ·exact this hh.1
 all_goals simp[text]
theorem aio (e:Ex) (h:e.Ok):CC xl (bS e [])=some [.str (if e.val 6=0 then e.text else [])]:=by
 refine ahZ ?_
 unfold V4
 rw[Tq e h]
 by_cases hv:e.val 6=0
 ·obtain ⟨_,U,h3⟩:=lC hv
  have hl:=VR e
  have hw:=aim e h h3 [] (by simp;omega)
  simp only[fD,List.nil_append] at hw
  simp only[Option.bind_some,V.aT,V.ee,hv,rX,qq,cond_false,cO]
  rw[hw]
  simp only[Option.bind_some,V.aT,V.kO]
  rw[aih _ (ain e h3) (by omega)]
  simp
 ·simp[hv]
end Go.AM
set_option maxRecDepth 100000
namespace Go.AM
structure Da where
 L:Nat
 st:Nat
 F:List Bool
 N:List (List Nat)
deriving DecidableEq
namespace Da
def n (d:Da):Nat:=d.F.length
def nx (d:Da) (q x:Nat):Nat:=(d.N.getD q []).getD x 0
def fin (d:Da) (q:Nat):Bool:=d.F.getD q false
def run (d:Da) (q:Nat) (w:List Nat):Nat:=w.foldl d.nx q
def acc (d:Da) (q:Nat) (w:List Nat):Bool:=d.fin (d.run q w)
structure Ok (d:Da):Prop where
 l1:1≤d.L
 l6:d.L≤6
 nN:d.N.length=d.n
 row: ∀r∈d.N,r.length=d.L∧∀q∈r,q<d.n
 s:d.st<d.n
 c9:d.n≤512
end Da
def WL (L:Nat) (w:List Nat):Prop:= ∀x∈w,x<L
theorem WL.nil {L:Nat}:WL L []:=fun _ h=>by cases h
theorem WL.cons {L x:Nat} {w:List Nat} (h:x<L) (hw:WL L w):WL L (x::w):=fun y hy=>by
 rcases dx.1 hy with rfl|hy
 ·exact h
 ·exact hw y hy
theorem WL.tail {L x:Nat} {w:List Nat} (h:WL L (x::w)):WL L w:=fun y hy=>h y (by simp[hy])
theorem WL.app {L:Nat} {v w:List Nat}:WL L (v++w)↔WL L v∧WL L w:=by
 unfold WL
 simp only[eQ]
 exact ⟨fun h=>⟨fun x hx=>h x (.inl hx),fun x hx=>h x (.inr hx)⟩,fun h x hx=>hx.elim (h.1 x) (h.2 x)⟩
namespace Da
def Hj (d:Da) (q:Nat) (d':Da) (q':Nat):Prop:= ∀w,WL d.L w→d.acc q w=d'.acc q' w
theorem Hj.nx {d d':Da} {q q' x:Nat} (h:d.Hj q d' q') (hx:x<d.L):d.Hj (d.nx q x) d' (d'.nx q' x):=fun w hw=>h (x::w) (hw.cons hx)
def pos (d:Da) (t:Nat):Nat:=d.nx (t/d.L) (t %d.L)
def mt (d:Da):Nat→Nat
 | 0=>1
 | t+1=>if d.pos t=d.mt t then d.mt t+1 else d.mt t
structure Num (d:Da):Prop where
 le: ∀t,t<d.n*d.L→d.pos t≤d.mt t
 row: ∀q,q<d.n→q<d.mt (q*d.L)
 all:d.mt (d.n*d.L)=d.n
structure Canon (d:Da) (L:Nat) (K:List Nat→Bool):Prop where
 ok:d.Ok
 hL:d.L=L
 st:d.st=0
 num:d.Num
 red: ∀p q,p<d.n→q<d.n→d.Hj p d q→p=q
 Wf: ∀w,WL L w→d.acc 0 w=K w
end Da
section
variable {α:Type} [DecidableEq α]
def aip (S:List α) (a:α):List α:=if a∈S then S else S++[a]
def Wg (next:α→Nat→α) (S:List α) (a:α):Nat→List α
 | 0=>S
 | x+1=>aip (Wg next S a x) (next a x)
def Cz (L:Nat) (next:α→Nat→α) (a0:α):Nat→List α
 | 0=>[a0]
 | i+1=>match (Cz L next a0 i)[i]? with
  | some a=>Wg next (Cz L next a0 i) a L
  | none=>Cz L next a0 i
variable {L:Nat} {next:α→Nat→α} {a0:α}
section
variable {k:Nat} (hd:(Cz L next a0 k).length≤k)
include hd
end
section
variable {k:Nat} (hd:(Cz L next a0 k).length≤k) {fin:α→Bool}
include hd
end
end
namespace Da
end Da
end Go.AM
set_option maxRecDepth 100000
namespace Go.AM
open Go.Proofs
section
variable {α:Type} (ke:α→V)
def mu (i:Nat):List α→List V
 | []=>[]
 | a::S=> .bm [ke a,iV (i:Int)]::mu (i+1) S
where iV (n:Int):V:= .int .i64 n
end
section
variable {α:Type} [DecidableEq α] {ke:α→V}
variable (hk: ∀a b,mD (ke a) (ke b)=decide (a=b))
include hk
theorem Wh (x:α): ∀(S:List α) (i:Nat),lP (ke x) (mu ke i S)=decide (x∈S)
 | [],_=>by simp[mu,lP]
 | a::S,i=>by
  have c: ∀(p q:V),(V.bm [p,q]).comp 0=p:=fun p q=>rfl
  rw[mu,lP,c,hk,Wh x S (i+1)]
  rw[pz]
  simp
theorem Wi (x:α) (z:V): ∀(S:List α) (i:Nat),x∈S→mE (ke x) (mu ke i S) z= .int .i64 ((i+S.idxOf x:Nat):Int)
 | [],_,h=>by cases h
 | a::S,i,h=>by
  have c: ∀(p q:V),(V.bm [p,q]).comp 0=p:=fun p q=>rfl
  have c1: ∀(p q:V),(V.bm [p,q]).comp 1=q:=fun p q=>rfl
  rw[mu,mE,c,c1,hk]
  by_cases e:x=a
  ·subst e
   rw[dr rfl]
   simp[mu.iV]
  ·rw[b7 e,cond_false,Wi x z S (i+1) ((dx.1 h).resolve_left e),show (a::S).idxOf x=S.idxOf x+1 from by rw[List.idxOf_cons,show (a==x)=false from tz.2 fun h=>e h.symm];rfl]
   congr 2
   omega
theorem Wj (x:α): ∀(S:List α) (i:Nat),x∉S→iX (ke x) (.int .i64 ((i+S.length:Nat):Int)) (mu ke i S)=mu ke i (S++[x])
 | [],i,_=>by simp[mu,iX,mu.iV]
 | a::S,i,h=>by
  have c: ∀(p q:V),(V.bm [p,q]).comp 0=p:=fun p q=>rfl
  have e:x≠a:=fun e=>h (by simp[e])
  rw[mu,iX,c,hk,b7 e,cond_false,List.cons_append,mu]
  congr 1
  have:=Wj x S (i+1) fun hx=>h (by simp[hx])
  rw[←this]
  simp only[List.length_cons]
  congr 3
  omega
end
noncomputable def Wk (C:ag) (ah aq:Int) (af:List V) (dk dE:Int) (bX dq bt:List V):Option (List V):=
 (C xl [.int .i64 ah,.int .i64 aq,.list aa af]).bind fun r1=>
 bif Nat.ble (((V.nth r1 0).toStr).length) maxLen&&true then
  bif Nat.ble ((bX.length+([.agg [.int .i64 0,.int .i64 0,.list aa ([]:List V)]]:List V).length)*40) bP then
  bif (decide (0≤(bX.length:Int)))&&(decide ((bX.length:Int)<((bX++([.agg [.int .i64 0,.int .i64 0,.list aa ([]:List V)]]:List V)).length:Int))) then
   ((bX++([.agg [.int .i64 0,.int .i64 0,.list aa ([]:List V)]]:List V))[((bX.length:Int):Int).toNat]?).bind fun x2=>
   some [.int .i64 (bX.length:Int),.int .i64 dk,.int .i64 dE,.list ef (iX (.str ((V.nth r1 0).toStr)) (.int .i64 (bX.length:Int)) bt),.list aa ((bX++([.agg [.int .i64 0,.int .i64 0,.list aa ([]:List V)]]:List V)).set (((bX.length:Int):Int).toNat) (.agg [.int .i64 ah,.int .i64 aq,.list aa af])),.list bK dq]
  else none
  else none
 else none
theorem aiq {ah aq:Int} {af:List V} {dk dE:Int} {bX dq bt:List V} {r:Option (List V)} (h:Wk CC ah aq af dk dE bX dq bt=r):CC AT [.int .i64 ah,.int .i64 aq,.list aa af,.int .i64 dk,.int .i64 dE,.list aa bX,.list bK dq,.list ef bt]=r:=
 bh (key:=57) (L:=cw) (bs:=[]) (by kernel_rfl) aw (bd (by kernel_rfl) h)
noncomputable def Wl (C:ag) (ah aq:Int) (af:List V) (letters:Int):Option (List V):=
 (C AT [.int .i64 ah,.int .i64 aq,.list aa af,.int .i64 letters,.int .i64 0,.list aa ([]:List V),.list bK ([]:List V),.list ef ([]:List V)]).bind fun r1=>
 some [.int .i64 ((V.nth (r1.drop 1) 0).toInt),.int .i64 ((V.nth ((r1.drop 1).drop 1) 0).toInt),.list aa ((V.nth (((r1.drop 1).drop 2).drop 1) 0).toList),.list bK ((V.nth ((((r1.drop 1).drop 2).drop 1).drop 1) 0).toList),.list ef ((V.nth ((r1.drop 1).drop 2) 0).toList)]
theorem air {ah aq:Int} {af:List V} {letters:Int} {r:Option (List V)} (h:Wl CC ah aq af letters=r):CC Fp [.int .i64 ah,.int .i64 aq,.list aa af,.int .i64 letters]=r:=
 bh (key:=40) (L:=cw) (bs:=[]) (by kernel_rfl) aw (bd (by kernel_rfl) h)
noncomputable def Wm (C:ag) (dk dE:Int) (bX dq bt:List V):Option (List V):=
 some [.bool ((dE:Int)==(bX.length:Int)),.int .i64 dk,.int .i64 dE,.list ef bt,.list aa bX,.list bK dq]
theorem ais {dk dE:Int} {bX dq bt:List V} {r:Option (List V)} (h:Wm CC dk dE bX dq bt=r):CC Fs [.int .i64 dk,.int .i64 dE,.list aa bX,.list bK dq,.list ef bt]=r:=
 bh (key:=42) (L:=cw) (bs:=[]) (by kernel_rfl) aw (bd (by kernel_rfl) h)
noncomputable abbrev Wn:Code:=cF Try.prog (ay.aV 43)
noncomputable def tp (C:ag) (t16 t17 dk dE:Int) (bt rows ch cU:List V) {β:Type} (kn:(Int × Int × Int × (List V) × (List V) × (List V) × (List V))→Option β) (kr:((Int × Int × Int × (List V) × (List V) × (List V)) ⊕ (Int × Bool × Int × Int × (List V) × (List V) × (List V) × (List V)))→Option β):Option β:=
 bif decide ((t17:Int)<t16) then
  bif (decide (0≤dE))&&(decide (dE<(ch.length:Int))) then
  (ch[(dE:Int).toNat]?).bind fun x1=>
  (C Fv [.int .i64 ((x1.cell 0).toInt),.int .i64 ((x1.cell 1).toInt),.list aa ((x1.cell 2).toList),.int .i64 t17]).bind fun r2=>
  bif (((V.nth (r2.drop 3) 0).toInt):Int) != 0 then
   kr (.inl ((V.nth (r2.drop 3) 0).toInt,dk,dE,bt,ch,cU))
  else
   (C xl [.int .i64 ((V.nth r2 0).toInt),.int .i64 ((V.nth (r2.drop 1) 0).toInt),.list aa ((V.nth ((r2.drop 1).drop 1) 0).toList)]).bind fun r3=>
   bif Nat.ble (((V.nth r3 0).toStr).length) maxLen&&true then
   bif !(lP (.str ((V.nth r3 0).toStr)) bt) then
    bif ((ch.length:Int):Int)==512 then
    kr (.inl (3,dk,dE,bt,ch,cU))
    else
    (C AT [.int .i64 ((V.nth r2 0).toInt),.int .i64 ((V.nth (r2.drop 1) 0).toInt),.list aa ((V.nth ((r2.drop 1).drop 1) 0).toList),.int .i64 dk,.int .i64 dE,.list aa ch,.list bK cU,.list ef bt]).bind fun r4=>
    bif (decide (0≤t17))&&(decide (t17<(rows.length:Int))) then
     (rows[(t17:Int).toNat]?).bind fun x5=>
     kn (IntKind.wrap .i64 (t17+1),(V.nth (r4.drop 1) 0).toInt,(V.nth ((r4.drop 1).drop 1) 0).toInt,(V.nth ((r4.drop 1).drop 2) 0).toList,rows.set ((t17:Int).toNat) (.int .i64 ((V.nth r4 0).toInt)),(V.nth (((r4.drop 1).drop 2).drop 1) 0).toList,(V.nth ((((r4.drop 1).drop 2).drop 1).drop 1) 0).toList)
    else none
   else
    bif (decide (0≤t17))&&(decide (t17<(rows.length:Int))) then
    (rows[(t17:Int).toNat]?).bind fun x6=>
    kn (IntKind.wrap .i64 (t17+1),dk,dE,bt,rows.set ((t17:Int).toNat) (.int .i64 ((mE (.str ((V.nth r3 0).toStr)) bt (.int .i64 0)).toInt)),ch,cU)
    else none
   else none
  else none
 else
  kr (.inr (t17,decide ((t17:Int)<t16),dk,dE,bt,rows,ch,cU))
noncomputable def pn (C:ag) (t16:Int):(Int × Int × Int × (List V) × (List V) × (List V) × (List V))→Option ((Int × Int × Int × (List V) × (List V) × (List V) × (List V)) ⊕ ((Int × Int × Int × (List V) × (List V) × (List V)) ⊕ (Int × Bool × Int × Int × (List V) × (List V) × (List V) × (List V)))):=un fun t17=>un fun dk=>un fun dE=>un fun bt=>un fun rows=>un fun ch cU=>tp C t16 t17 dk dE bt rows ch cU (fun y=>some (.inl y)) (fun r=>some (.inr r))
noncomputable def Wo (C:ag):ct:=fun β n ds k=>
 bif Nat.beq n 49 then bW KH [false,true,true,true,true,true,true,true] [[0,0,0,0,0,0],[1,0,0,0,0,0,0,0,0]] (@tp C) ds k else
 none
abbrev ait (C:ag) (b:cq):Prop:=cr Try.prog ay C (Wo C) 43 (cK Try.prog (ay.aV 43)) (ay.sin 43).bj.length b
theorem aiu (C:ag):ait C (.loop (av [1,1,0,1,0,0] Wn)):=
 bY KH [false,true,true,true,true,true,true,true] [[0,0,0,0,0,0],[1,0,0,0,0,0,0,0,0]] (@tp C) (by kernel_rfl) (aZ (bs:=[]) (by kernel_rfl) aw) (fun ds=>by kernel_rfl) (fun i x=>by kernel_rfl) (fun i x β k=>by kernel_rfl) (fun β ds k=>by kernel_rfl)
noncomputable def Wp (C:ag) (dk dE:Int) (bX dq bt:List V):Option (List V):=
 bif (decide (0≤dk))&&((decide (dk≤dk))&&(Nat.ble (((dk:Int).toNat)*8) bP)) then
  (Loop (pn C ((List.replicate ((dk:Int).toNat) (V.int .i64 0)).length:Int)) (0,dk,dE,bt,List.replicate ((dk:Int).toNat) (V.int .i64 0),bX,dq)).bind (bV (un fun (o8:Int)=>un fun (Nz:Int)=>un fun (CA:Int)=>un fun (CB:List V)=>un fun (rR:List V) (vG:List V)=>
   some [.int .i64 o8,.int .i64 Nz,.int .i64 CA,.list ef CB,.list aa rR,.list bK vG]) (un fun (Bj:Int)=>un fun (rz:Bool)=>un fun (NA:Int)=>un fun (NB:Int)=>un fun (CD:List V)=>un fun (CE:List V)=>un fun (CF:List V) (CG:List V)=>
   bif Nat.ble ((CG.length+([.list mc CE]:List V).length)*24) bP then
   some [.int .i64 0,.int .i64 NA,.int .i64 (IntKind.wrap .i64 (NB+1)),.list ef CD,.list aa CF,.list bK (CG++([.list mc CE]:List V))]
   else none))
 else none
theorem aiv {dk dE:Int} {bX dq bt:List V} {r:Option (List V)} (h:Wp CC dk dE bX dq bt=r):CC xj [.int .i64 dk,.int .i64 dE,.list aa bX,.list bK dq,.list ef bt]=r:=
 bh (key:=43) (L:=Wo CC) (bs:=[.loop (av [1,1,0,1,0,0] Wn)]) (by kernel_rfl) (bu (aiu CC) aw) (bd (by kernel_rfl) h)
end Go.AM
set_option maxRecDepth 100000
namespace Go.AM
open Go.Proofs Ex
def dv (r:List Int):V:= .list mc (r.map fun n=> .int .i64 n)
def fy (es:List Ex):List V:=mu V.str 0 (es.map Ex.text)
theorem NC (a b:List UInt8):mD (.str a) (.str b)=decide (a=b):=by
 simp only[mD,V.cells,tJ,vW,Bool.and_true]
 rw[pz]
 simp
theorem ND {es:List Ex} (h: ∀e∈es,Nv e) {d:Ex} (hd:Nv d):d.text∈es.map Ex.text↔d∈es:=by
 rw[gH]
 constructor
 ·rintro ⟨a,ha,he⟩
  rw[←V3 (h a ha).1.2 hd.1.2 he];exact ha
 ·exact fun hx=>⟨d,hx,rfl⟩
theorem Wq {α β:Type} [DecidableEq α] [DecidableEq β] {f:α→β} {d:α}: ∀{es:List α},(∀e∈es,f e=f d→e=d)→(es.map f).idxOf (f d)=es.idxOf d
 | [],_=>rfl
 | e::es,h=>by
  rw[cy,List.idxOf_cons,List.idxOf_cons,Wq fun x hx=>h x (by simp[hx])]
  have:(f e==f d)=(e==d):=by
   rw[pz,beq_iff_eq,beq_iff_eq]
   exact ⟨h e (by simp),fun h=>by rw[h]⟩
  rw[this]
theorem Hk {e:Ex} (h:e.val 6=0):(Nat.ble e.text.length maxLen&&true)=true:=by
 have a:=VR e
 have b:=lC h
 rw[Bool.and_true,cV]
 unfold maxLen
 omega
theorem Hl {e:Ex} (h:Nv e):CC xl (bS e [])=some [.str e.text]:=by
 rw[aio e (aiw h),aj h.2]
where aiw {e:Ex} (h:Nv e):e.Ok:=m8 (by omega) e h.1.2 (by have:=lC h.2;omega)
def yL (s:Dv):List V:=[.int .i64 s.L,.int .i64 s.dn,.list aa (s.es.map enc),.list bK (s.nx.map dv),.list ef (fy s.es)]
def NF (s:Dv):List V:=[.int .i64 s.L,.int .i64 s.dn,.list ef (fy s.es),.list aa (s.es.map enc),.list bK (s.nx.map dv)]
theorem aix {es:List Ex} (h: ∀e∈es,Nv e) {d:Ex} (hd:Nv d) (hn:d∉es):iX (.str d.text) (.int .i64 (es.length:Int)) (fy es)=fy (es++[d]):=by
 have:=Wj (ke:=V.str) NC d.text (es.map Ex.text) 0 fun hx=>hn ((ND h hd).1 hx)
 rw[aL,gY] at this
 unfold fy
 rw[this,eh]
 rfl
theorem aiy {α:Type} (a:List α) (x y:α):(a++[x]).set a.length y=a++[y]:=by
 simp[List.set_append_right]
theorem Wr {L dn:Int} {es:List Ex} {d:Ex} {nx:List V} (h: ∀e∈es,Nv e) (hd:Nv d) (hn:d∉es) (hl:es.length≤1000):
  CC AT (bS d [.int .i64 L,.int .i64 dn,.list aa (es.map enc),.list bK nx,.list ef (fy es)])=some [.int .i64 (es.length:Int),.int .i64 L,.int .i64 dn,.list ef (fy (es++[d])),.list aa ((es++[d]).map enc),.list bK nx]:=by
 refine aiq ?_
 unfold Wk
 refine bs (Hl hd) ?_
 refine bT (Hk hd.2) ?_
 refine bT (yI (by simp;omega)) ?_
 refine (nh (i:=(es.map enc).length) (v:= .agg [.int .i64 0,.int .i64 0,.list aa ([]:List V)]) (by simp)).trans ?_
 rw[Int.toNat_natCast,aiy]
 have h1:=aix h hd hn
 rw[aL]
 show some [V.int .i64 (es.length:Int),.int .i64 L,.int .i64 dn,.list ef (iX (.str d.text) (.int .i64 (es.length:Int)) (fy es)),.list aa (es.map enc++[.agg [.int .i64 d.op,.int .i64 d.bx,.list aa (d.kids.map enc)]]),.list bK nx]=_
 rw[h1,ahB,eh]
 rfl
theorem aiz {e:Ex} {L:Int} (h:Nv e):CC Fp (bS e [.int .i64 L])=some (yL ⟨L,[e],[],0⟩):=by
 refine air ?_
 unfold Wl
 refine bs (Wr (L:=L) (dn:=0) (es:=[]) (d:=e) (nx:=[]) (by simp) h (by simp) (by simp)) ?_
 rfl
theorem NG (s:Dv):CC Fs (yL s)=some (.bool (s.dn==s.es.length)::NF s):=by
 refine ais ?_
 unfold Wm
 rw[aL]
 rfl
theorem NH {L dn:Int} {e:Ex} {k:Nat} {nx:List V} (hk:dn=(k:Int)) (he:Nv e): ∀(n x:Nat) (es:List Ex) (row:List Int),L=((x+n:Nat):Int)→x+n≤10→Es es→k<es.length→es.getD k aR=e→row.length=x→
  (∀p,km e n x es row=some p→Loop (pn CC L) (((x:Nat):Int),L,dn,fy es,(row.map fun n=>V.int .i64 n)++List.replicate n (.int .i64 0),es.map enc,nx)=some (.inr (L,false,L,dn,fy p.1,(p.2.map fun n=>V.int .i64 n),p.1.map enc,nx)))
  ∧(km e n x es row=none→∃y,Loop (pn CC L) (((x:Nat):Int),L,dn,fy es,(row.map fun n=>V.int .i64 n)++List.replicate n (.int .i64 0),es.map enc,nx)=some (.inl (3,y)))
 | 0,x,es,row,hL,hx,jH,fq,nM,hr=>by
  refine ⟨fun p hp=> ?_,fun hp=>by simp[km] at hp⟩
  cases hp
  refine aS ?_
  simp only[pn,tp,un]
  rw[az,ai (by omega),b7 (by omega),show L=((x:Nat):Int) by omega]
  simp
 | n+1,x,es,row,hL,hx,jH,fq,nM,hr=>by
  subst hk
  have aN:decide ((x:Int)<L)=true:=dr (by omega)
  have bI:(es.map enc)[k]? =some e.enc:=by
   rw[fR,bC fq,←nM,gl,bC fq];rfl
  have hb:=ahN he (x:Int)
  have NI:qh (aH (bH x e))=match ow e x with|some d=>(d,0)|none=>(aR,3):=by
   unfold qh ow;split<;>rfl
  rw[NI] at hb
  have Hm:x=(row.map fun n=>V.int .i64 n).length:=by simp[hr]
  rw[km]
  cases bQ:ow e x with
  | none=>
   rw[bQ] at hb
   refine ⟨fun p hp=>(by cases hp),fun _=>⟨(L,(k:Int),fy es,es.map enc,nx),aS ?_⟩⟩
   ·simp only[pn,tp,un]
    refine bT aN ((nh bI).trans ?_)
    rw[aW,bc,a9]
    refine bs hb ?_
    exact bT rfl rfl
  | some d=>
   rw[bQ] at hb
   have hd:=(Nh he bQ).1
   have NJ:lP (.str d.text) (fy es)=decide (d∈es):=by
    unfold fy
    rw[Wh NC,decide_eq_decide]
    exact ND jH.nv hd
   simp only[Option.bind_some]
   by_cases hm:d∈es
   ·rw[aj hm]
    have OG:es.idxOf d<es.length:=Dm.2 hm
    obtain ⟨i1,i2⟩:=NH (L:=L) (e:=e) (k:=k) (nx:=nx) rfl he n (x+1) es (row++[(es.idxOf d:Int)]) (by omega) (by omega) jH fq nM (by simp[hr])
    have di:pn CC L (((x:Nat):Int),L,(k:Int),fy es,(row.map fun n=>V.int .i64 n)++List.replicate (n+1) (.int .i64 0),es.map enc,nx)=some (.inl (((x+1:Nat):Int),L,(k:Int),fy es,((row++[(es.idxOf d:Int)]).map fun n=>V.int .i64 n)++List.replicate n (.int .i64 0),es.map enc,nx)):=by
     simp only[pn,tp,un]
     refine bT aN ((nh bI).trans ?_)
     rw[aW,bc,a9]
     refine bs hb (bF rfl (bs (Hl hd) (bT (Hk hd.2) ?_)))
     refine bF (by rw[V.aT,V.Fc,NJ,dr hm];rfl) ?_
     refine (tj Hm).trans ?_
     rw[Int.toNat_natCast,tk Hm,jx (by omega),V.aT,V.Fc]
     have hg:mE (.str d.text) (fy es) (.int .i64 0)= .int .i64 (es.idxOf d:Int):=by
      unfold fy
      rw[Wi NC _ _ _ _ ((ND jH.nv hd).2 hm),Wq fun x hx=>V3 (jH.nv x hx).1.2 hd.1.2,gY]
     rw[hg,V.toInt_int,eh]
     rfl
    exact ⟨fun p hp=>(bJ di).trans (i1 p hp),fun hp=>by obtain ⟨y,hy⟩:=i2 hp;exact ⟨y,(bJ di).trans hy⟩⟩
   ·rw[ai hm]
    by_cases rS:es.length=512
    ·rw[aj rS]
     refine ⟨fun p hp=>(by cases hp),fun _=>⟨(L,(k:Int),fy es,es.map enc,nx),aS ?_⟩⟩
     ·simp only[pn,tp,un]
      refine bT aN ((nh bI).trans ?_)
      rw[aW,bc,a9]
      refine bs hb (bF rfl (bs (Hl hd) (bT (Hk hd.2) ?_)))
      refine bT (by rw[V.aT,V.Fc,NJ,b7 hm];rfl) ?_
      exact bT (by rw[aL,rS];rfl) rfl
    ·rw[ai rS]
     have hl:=jH.le
     obtain ⟨i1,i2⟩:=NH (L:=L) (e:=e) (k:=k) (nx:=nx) rfl he n (x+1) (es++[d]) (row++[(es.length:Int)]) (by omega) (by omega) (jH.snoc hd hm rS) (by simp;omega) (by rw[Cm fq,nM]) (by simp[hr])
     have di:pn CC L (((x:Nat):Int),L,(k:Int),fy es,(row.map fun n=>V.int .i64 n)++List.replicate (n+1) (.int .i64 0),es.map enc,nx)=some (.inl (((x+1:Nat):Int),L,(k:Int),fy (es++[d]),((row++[(es.length:Int)]).map fun n=>V.int .i64 n)++List.replicate n (.int .i64 0),(es++[d]).map enc,nx)):=by
      simp only[pn,tp,un]
      refine bT aN ((nh bI).trans ?_)
      rw[aW,bc,a9]
      refine bs hb (bF rfl (bs (Hl hd) (bT (Hk hd.2) ?_)))
      refine bT (by rw[V.aT,V.Fc,NJ,b7 hm];rfl) ?_
      refine bF (by rw[aL,tz];omega) ?_
      refine bs (Wr jH.nv hd hm (by omega)) ?_
      refine (tj Hm).trans ?_
      rw[Int.toNat_natCast,tk Hm,jx (by omega),eh (l₁:=row)]
      rfl
     exact ⟨fun p hp=>(bJ di).trans (i1 p hp),fun hp=>by obtain ⟨y,hy⟩:=i2 hp;exact ⟨y,(bJ di).trans hy⟩⟩
theorem aiA {s:Dv} (hs:Gs s) (hd:s.dn<s.es.length):
  (∀t,proc s=some t→CC xj (yL s)=some (.int .i64 0::NF t))∧(proc s=none→∃l,CC xj (yL s)=some (.int .i64 3::l)):=by
 have Nk:=hs.dn
 have hL:=hs.L
 have hq:s.dn.toNat<s.es.length:=by omega
 have kK:=hs.nl
 have hle:=hs.es.le
 have hN:((s.L.toNat:Nat):Int)=s.L:=by omega
 obtain ⟨l1,l2⟩:=NH (L:=s.L) (dn:=s.dn) (e:=s.es.getD s.dn.toNat aR) (k:=s.dn.toNat) (nx:=s.nx.map dv) (by omega) (hs.es.nv _ (tm hq)) s.L.toNat 0 s.es [] (by omega) (by omega) hs.es hq rfl rfl
 have hf: ∀{r:Option (List V)},((Loop (pn CC s.L) (((0:Nat):Int),s.L,s.dn,fy s.es,List.replicate s.L.toNat (V.int .i64 0),s.es.map enc,s.nx.map dv)).bind (bV (un fun (o8:Int)=>un fun (Nz:Int)=>un fun (CA:Int)=>un fun (CB:List V)=>un fun (rR:List V) (vG:List V)=>some [V.int .i64 o8,.int .i64 Nz,.int .i64 CA,.list ef CB,.list aa rR,.list bK vG]) (un fun (Bj:Int)=>un fun (rz:Bool)=>un fun (NA:Int)=>un fun (NB:Int)=>un fun (CD:List V)=>un fun (CE:List V)=>un fun (CF:List V) (CG:List V)=>bif Nat.ble ((CG.length+([.list mc CE]:List V).length)*24) bP then some [.int .i64 0,.int .i64 NA,.int .i64 (IntKind.wrap .i64 (NB+1)),.list ef CD,.list aa CF,.list bK (CG++([.list mc CE]:List V))] else none)))=r→CC xj (yL s)=r:=fun h=>by
  refine aiv ?_
  unfold Wp
  refine bT ?_ ?_
  ·refine tF.2 ⟨dr (by omega),tF.2 ⟨dr (by omega),?_⟩⟩
   rw[cV,gz];omega
  ·rw[tB,hN]
   exact h
 refine ⟨fun t ht=>hf ?_,fun ht=> ?_⟩
 ·obtain ⟨p,hp,rfl⟩:=Nj ht
  refine bs (l1 p hp) ?_
  simp only[bV,un]
  refine bT (by rw[cV,gz];simp;omega) ?_
  rw[wrap64 (by omega) (by omega)]
  unfold NF
  simp only[eh]
  rfl
 ·have hr:km (s.es.getD s.dn.toNat aR) s.L.toNat 0 s.es []=none:=by
   unfold proc at ht
   rwa [Option.map_eq_none_iff] at ht
  obtain ⟨y,hy⟩:=l2 hr
  exact ⟨_,hf (bs hy rfl)⟩
end Go.AM
set_option maxRecDepth 100000
namespace Go.AM
open Go.Proofs
noncomputable abbrev Ws:Code:=cF Try.prog (ay.aV 44)
noncomputable def CH (C:ag) (t22 Wt Wu:Int) (bt:List V) (iR iS mo mq:Int) (Hn pj Wv Ww:List V) (t23:Int) (CI:List V) {β:Type} (kn:(Int × (List V))→Option β) (kr:(Int × Bool × (List V))→Option β):Option β:=
 bif decide ((t23:Int)<t22) then
  bif (decide (0≤t23))&&(decide (t23<(Hn.length:Int))) then
  (Hn[(t23:Int).toNat]?).bind fun x1=>
  (C kQ [.int .i64 ((x1.cell 0).toInt),.int .i64 ((x1.cell 1).toInt),.list aa ((x1.cell 2).toList)]).bind fun r2=>
  bif Nat.ble ((CI.length+([.bool ((V.nth r2 0).toBool)]:List V).length)*1) bP then
   kn (IntKind.wrap .i64 (t23+1),CI++([.bool ((V.nth r2 0).toBool)]:List V))
  else none
  else none
 else
  kr (t23,decide ((t23:Int)<t22),CI)
noncomputable def Ho (C:ag) (t22 Wt Wu:Int) (bt:List V) (iR iS mo mq:Int) (Hn pj Wv Ww:List V):(Int × (List V))→Option ((Int × (List V)) ⊕ (Int × Bool × (List V))):=un fun t23 CI=>CH C t22 Wt Wu bt iR iS mo mq Hn pj Wv Ww t23 CI (fun y=>some (.inl y)) (fun r=>some (.inr r))
noncomputable def Wx (C:ag):ct:=fun β n ds k=>
 bif Nat.beq n 49 then bW KI [false,true,false,false,false,false,false,false,false,false,false,false,false,true] [[1,0,0,3,4,5,6,7,8,9,10,11,12,13,0]] (@CH C) ds k else
 none
abbrev aiB (C:ag) (b:cq):Prop:=cr Try.prog ay C (Wx C) 44 (cK Try.prog (ay.aV 44)) (ay.sin 44).bj.length b
theorem aiC (C:ag):aiB C (.loop (av [1,1,0,1,0,0] Ws)):=
 bY KI [false,true,false,false,false,false,false,false,false,false,false,false,false,true] [[1,0,0,3,4,5,6,7,8,9,10,11,12,13,0]] (@CH C) (by kernel_rfl) (aZ (bs:=[]) (by kernel_rfl) aw) (fun ds=>by kernel_rfl) (fun i x=>by kernel_rfl) (fun i x β k=>by kernel_rfl) (fun β ds k=>by kernel_rfl)
noncomputable def Wy (C:ag) (dk dE:Int) (bX dq bt:List V):Option (List V):=
 (Loop (Ho C (bX.length:Int) dk dE bt 0 0 dk 0 bX dq ([]:List V) ([]:List V)) (0,([]:List V))).bind (un fun (jr:Int)=>un fun (j7:Bool) (NK:List V)=>
  some [.int .i64 dk,.int .i64 0,.int .i64 dk,.int .i64 dE,.list ef bt,.list eE NK,.list bK dq,.list aa bX])
theorem aiD {dk dE:Int} {bX dq bt:List V} {r:Option (List V)} (h:Wy CC dk dE bX dq bt=r):CC Ft [.int .i64 dk,.int .i64 dE,.list aa bX,.list bK dq,.list ef bt]=r:=
 bh (key:=44) (L:=Wx CC) (bs:=[.loop (av [1,1,0,1,0,0] Ws)]) (by kernel_rfl) (bu (aiC CC) aw) (bd (by kernel_rfl) h)
noncomputable abbrev Wz:Code:=cF Try.prog (ay.aV 14)
noncomputable def yM (C:ag) (ew ey:Int) (dq bt:List V) (dk dE:Int) (dD ch cU:List V) {β:Type} (kn:(Int × Int × (List V) × (List V) × (List V))→Option β) (kr:((Int × Int × Int × (List V) × (List V)) ⊕ (Bool × Int × Int × (List V) × (List V) × (List V)))→Option β):Option β:=
 (C Fs [.int .i64 dk,.int .i64 dE,.list aa dD,.list bK ch,.list ef cU]).bind fun r4=>
 bif !((V.nth r4 0).toBool) then
  (C xj [.int .i64 ((V.nth (r4.drop 1) 0).toInt),.int .i64 ((V.nth ((r4.drop 1).drop 1) 0).toInt),.list aa ((V.nth (((r4.drop 1).drop 2).drop 1) 0).toList),.list bK ((V.nth ((((r4.drop 1).drop 2).drop 1).drop 1) 0).toList),.list ef ((V.nth ((r4.drop 1).drop 2) 0).toList)]).bind fun r5=>
  bif (((V.nth r5 0).toInt):Int) != 0 then
  kr (.inl ((V.nth r5 0).toInt,0,0,([]:List V),([]:List V)))
  else
  kn ((V.nth (r5.drop 1) 0).toInt,(V.nth ((r5.drop 1).drop 1) 0).toInt,(V.nth (((r5.drop 1).drop 2).drop 1) 0).toList,(V.nth ((((r5.drop 1).drop 2).drop 1).drop 1) 0).toList,(V.nth ((r5.drop 1).drop 2) 0).toList)
 else
  kr (.inr (!((V.nth r4 0).toBool),(V.nth (r4.drop 1) 0).toInt,(V.nth ((r4.drop 1).drop 1) 0).toInt,(V.nth (((r4.drop 1).drop 2).drop 1) 0).toList,(V.nth ((((r4.drop 1).drop 2).drop 1).drop 1) 0).toList,(V.nth ((r4.drop 1).drop 2) 0).toList))
noncomputable def vI (C:ag) (ew ey:Int) (dq bt:List V):(Int × Int × (List V) × (List V) × (List V))→Option ((Int × Int × (List V) × (List V) × (List V)) ⊕ ((Int × Int × Int × (List V) × (List V)) ⊕ (Bool × Int × Int × (List V) × (List V) × (List V)))):=un fun dk=>un fun dE=>un fun dD=>un fun ch cU=>yM C ew ey dq bt dk dE dD ch cU (fun y=>some (.inl y)) (fun r=>some (.inr r))
noncomputable def WA (C:ag):ct:=fun β n ds k=>
 bif Nat.beq n 81 then bW Kv [false,false,true,true,false,false,true,true,true] [[0,0,0,0,0],[0,1,2,0,0,5,6,0,0,0]] (@yM C) ds k else
 none
abbrev aiE (C:ag) (b:cq):Prop:=cr Try.prog ay C (WA C) 14 (cK Try.prog (ay.aV 14)) (ay.sin 14).bj.length b
theorem aiF (C:ag):aiE C (.loop (av [1,1,1,0,0,0] Wz)):=
 bY Kv [false,false,true,true,false,false,true,true,true] [[0,0,0,0,0],[0,1,2,0,0,5,6,0,0,0]] (@yM C) (by kernel_rfl) (aZ (bs:=[]) (by kernel_rfl) aw) (fun ds=>by kernel_rfl) (fun i x=>by kernel_rfl) (fun i x β k=>by kernel_rfl) (fun β ds k=>by kernel_rfl)
noncomputable def WB (C:ag) (ah aq:Int) (af:List V) (letters:Int):Option (List V):=
 (C xi [.int .i64 ah,.int .i64 aq,.list aa af,.int .i64 letters]).bind fun r1=>
 bif (((V.nth r1 0).toInt):Int) != 0 then
  some [.int .i64 0,.int .i64 0,.int .i64 ((V.nth r1 0).toInt),.list eE ([]:List V),.list bK ([]:List V)]
 else
  (C Fq [.int .i64 ah,.int .i64 aq,.list aa af]).bind fun r2=>
  (C Fp [.int .i64 ((V.nth r2 0).toInt),.int .i64 ((V.nth (r2.drop 1) 0).toInt),.list aa ((V.nth ((r2.drop 1).drop 1) 0).toList),.int .i64 letters]).bind fun r3=>
  (Loop (vI C 0 0 ([]:List V) ([]:List V)) ((V.nth r3 0).toInt,(V.nth (r3.drop 1) 0).toInt,(V.nth (r3.drop 2) 0).toList,(V.nth ((r3.drop 2).drop 1) 0).toList,(V.nth (((r3.drop 2).drop 1).drop 1) 0).toList)).bind (bV (un fun (mg:Int)=>un fun (aiG:Int)=>un fun (aiH:Int)=>un fun (CA:List V) (CB:List V)=>
   some [.int .i64 aiG,.int .i64 aiH,.int .i64 mg,.list eE CA,.list bK CB]) (un fun (F9:Bool)=>un fun (aiI:Int)=>un fun (aiJ:Int)=>un fun (Cu:List V)=>un fun (tn:List V) (aiK:List V)=>
   (C Ft [.int .i64 aiI,.int .i64 aiJ,.list aa Cu,.list bK tn,.list ef aiK]).bind fun dR=>
   some [.int .i64 ((V.nth dR 0).toInt),.int .i64 ((V.nth (dR.drop 1) 0).toInt),.int .i64 0,.list eE ((V.nth (((dR.drop 2).drop 2).drop 1) 0).toList),.list bK ((V.nth ((((dR.drop 2).drop 2).drop 1).drop 1) 0).toList)]))
theorem aiL {ah aq:Int} {af:List V} {letters:Int} {r:Option (List V)} (h:WB CC ah aq af letters=r):CC xg [.int .i64 ah,.int .i64 aq,.list aa af,.int .i64 letters]=r:=
 bh (key:=14) (L:=WA CC) (bs:=[.loop (av [1,1,1,0,0,0] Wz)]) (by kernel_rfl) (bu (aiF CC) aw) (bd (by kernel_rfl) h)
end Go.AM
set_option maxRecDepth 100000
namespace Go.AM
open Go.Proofs Ex
abbrev CJ (d:Dv) (l:List V):List V:= .int .i64 d.L:: .list aa (d.es.map enc):: .list bK (d.nx.map dv):: .int .i64 d.dn::l
structure Dv.Ok (d:Dv):Prop where
 es: ∀e∈d.es,e.Ok
 el:d.es.length≤maxLen
 nl:d.nx.length≤maxLen
 rl: ∀r∈d.nx,r.length≤maxLen
theorem aiM {α:Type} {a b:List α} {z:α} (hl:a.length=b.length) (h: ∀i,i<a.length→a.getD i z=b.getD i z):a=b:=by
 refine List.ext_getElem hl fun i h1 U=> ?_
 have:=h i h1
 rw[gl,gl,bC h1,bC U] at this
 exact this
theorem yN {α:Type} {a b:List α} {z:α} (hl:a.length=b.length):(∀i,i<a.length→a.getD i z=b.getD i z)↔a=b:=
 ⟨aiM hl,fun h=>by rw[h];exact fun _ _=>rfl⟩
theorem ox {α:Type} {f:α→V} {l:List α} {z:α} {i:Nat} (h:i<l.length):idx (l.map f) (i:Int)=some (f (l.getD i z)):=by
 rw[aa4 rfl,fR,bC h,gl,bC h];rfl
theorem WC {s:Dv} (hs:Gs s):s.Ok:=by
 have h1:=hs.es.le
 have U:=hs.nl
 have h3:=hs.dn
 have h4:=hs.L
 refine ⟨fun e he=>m8 (by omega) e (hs.es.nv e he).1.2 (by have:=lC (hs.es.nv e he).2;omega),by unfold maxLen;omega,by unfold maxLen;omega,fun r hr=> ?_⟩
 obtain ⟨q,hq,rfl⟩:=Di hr
 have:=(hs.row q (by omega)).1
 rw[gl,bC hq,Option.getD_some] at this
 rw[this];unfold maxLen;omega
abbrev Hp (s:Dv):Int × Int × List V × List V × List V:=(s.L,s.dn,s.es.map enc,s.nx.map dv,fy s.es)
abbrev Hq (p:Dv × Int):List V:=[.int .i64 p.1.L,.int .i64 p.1.dn,.int .i64 p.2,.list aa (p.1.es.map enc),.list bK (p.1.nx.map dv)]
def Hr (e:Ex) (L:Int):Dv × Int:=if e.val L=0 then (iu e L,0) else (.zero,e.val L)
theorem aiN {e:Ex} {L:Int} (h:e.val L=0):Nv (aH e):=⟨mj e (lC (Cl h)).2.2,Ng (Cl h)⟩
structure Fa where
 L:Int
 F:List Bool
 N:List (List Int)
abbrev faE (p:Fa × Int):List V:=[.int .i64 p.1.L,.int .i64 0,.int .i64 p.2,.list eE (p.1.F.map V.bool),.list bK (p.1.N.map dv)]
def Fa.zero:Fa:=⟨0,[],[]⟩
def Hs (d:Dv):Fa:=⟨d.L,d.es.map Ex.cH,d.nx⟩
theorem aiO {es:List Ex} (hn:es.length≤1000) (ho: ∀e∈es,Nv e) {a b c1 c2 c3 c4:Int} {l1 l2 l3 l4:List V}: ∀(ax pre:List Ex),es=pre++ax→
  Loop (Ho CC (es.length:Int) a b l1 c1 c2 c3 c4 (es.map enc) l2 l3 l4) (((pre.length:Nat):Int),(pre.map Ex.cH).map V.bool)=some ((es.length:Int),false,(es.map Ex.cH).map V.bool):=by
 intro ax
 induction ax with
 | nil=>
  intro pre e
  rw[cR] at e
  subst e
  refine aS ?_
  simp only[Ho,CH,un]
  rw[az,ai (by omega),b7 (by omega)]
 | cons k ax dW=>
  intro pre e
  have bU:pre.length<es.length:=by rw[e];simp
  have hk:k∈es:=by rw[e];simp
  have bI:(es.map enc)[pre.length]? =some k.enc:=by rw[e];simp
  have hv:=lC (ho k hk).2
  refine (bJ ?_).trans (dW (pre++[k]) (by simp[e]))
  simp only[Ho,CH,un]
  refine bT (lE bU) ((nh bI).trans ?_)
  rw[aW,bc,a9]
  refine bs (aen (letters:=6) k (m8 (by omega) k hv.2.2 (by omega)) hv.2.2) ?_
  refine bT (by rw[cV,gz];simp;omega) ?_
  rw[jx (by omega)]
  simp only[eh,cy,fD,bZ,List.length_cons,List.length_nil]
  rfl
theorem aiP {s:Dv} (hs:Gs s): ∃l,CC Ft (yL s)=some l∧(V.nth l 0).toInt=s.L∧(V.nth (l.drop 1) 0).toInt=0∧(V.nth (((l.drop 2).drop 2).drop 1) 0).toList=(s.es.map Ex.cH).map V.bool∧(V.nth ((((l.drop 2).drop 2).drop 1).drop 1) 0).toList=s.nx.map dv:=by
 have hl:=hs.es.le
 refine ⟨[.int .i64 s.L,.int .i64 0,.int .i64 s.L,.int .i64 s.dn,.list ef (fy s.es),.list eE ((s.es.map Ex.cH).map V.bool),.list bK (s.nx.map dv),.list aa (s.es.map enc)],aiD ?_,?_⟩
 ·unfold Wy
  rw[aL]
  refine bs (aiO (by omega) hs.es.nv s.es [] rfl) ?_
  simp only[un]
 ·exact ⟨rfl,rfl,rfl,rfl⟩
def rT (e:Ex) (L:Int):Fa × Int:=if e.val L=0 then (match fx 513 (iu e L) with|some t=>(Hs t,0)|none=>(.zero,3)) else (.zero,e.val L)
theorem WD {a b:Int} {l1 l2:List V}: ∀(n:Nat) (s:Dv),Gs s→513≤s.dn+n→
  (∀t,fx n s=some t→Loop (vI CC a b l1 l2) (Hp s)=some (.inr (false,t.L,t.dn,t.es.map enc,t.nx.map dv,fy t.es)))∧(fx n s=none→Loop (vI CC a b l1 l2) (Hp s)=some (.inl (3,0,0,[],[])))
 | 0,s,hs,hn=>by have:=hs.dn;have:=hs.es.le;omega
 | n+1,s,hs,hn=>by
  rw[fx]
  have Nk:=hs.dn
  by_cases hd:s.dn<s.es.length
  ·rw[aj hd]
   obtain ⟨p1,p2⟩:=aiA hs hd
   have hf:(!(s.dn==(s.es.length:Int)))=true:=by rw[nn,tz];omega
   cases hp:proc s with
   | none=>
    obtain ⟨l,hl⟩:=p2 hp
    refine ⟨fun t ht=>(by cases ht),fun _=>aS ?_⟩
    simp only[vI,yM,un]
    refine bs (NG s) (bT hf ?_)
    refine bs hl ?_
    rfl
   | some u=>
    obtain ⟨g,_,g2,_⟩:=Ha hs hd hp
    obtain ⟨i1,i2⟩:=WD (a:=a) (b:=b) (l1:=l1) (l2:=l2) n u g (by omega)
    have di:vI CC a b l1 l2 (Hp s)=some (.inl (Hp u)):=by
     simp only[vI,yM,un]
     refine bs (NG s) (bT hf ?_)
     refine bs (p1 u hp) ?_
     rfl
    exact ⟨fun t ht=>(bJ di).trans (i1 t ht),fun ht=>(bJ di).trans (i2 ht)⟩
  ·rw[ai hd]
   refine ⟨fun t ht=> ?_,fun ht=>(by cases ht)⟩
   cases ht
   refine aS ?_
   have hf:(!(s.dn==(s.es.length:Int)))=false:=by rw[Bool.not_eq_false',beq_iff_eq];omega
   simp only[vI,yM,un]
   refine bs (NG s) (bF hf ?_)
   exact congrArg (fun b=>some (Sum.inr (Sum.inr (b,s.L,s.dn,s.es.map enc,s.nx.map dv,fy s.es)))) hf
theorem NL {e:Ex} (h:e.Ok) (L:Int):CC xg (bS e [.int .i64 L])=some (faE (rT e L)):=by
 refine aiL ?_
 unfold WB rT
 refine bs (L7 e h L) ?_
 by_cases hv:e.val L=0
 ·rw[aj hv]
  refine bF (by rw[V.aT,V.toInt_int,hv];rfl) ?_
  have hN:=ahb e h
  rw[aj (Cl hv)] at hN
  refine bs hN (bs (aiz (L:=L) (aiN hv)) ?_)
  obtain ⟨l1,l2⟩:=WD (a:=0) (b:=0) (l1:=[]) (l2:=[]) 513 (iu e L) (rP hv) (by show 513≤(0:Int)+_;omega)
  cases hp:fx 513 (iu e L) with
  | none=>exact bs (l2 hp) rfl
  | some t=>
   refine bs (l1 t hp) ?_
   obtain ⟨l,a1,a2,a3,a4,a5⟩:=aiP (rO 513 _ _ (rP hv) hp).1
   refine bs a1 ?_
   rw[a2,a3,a4,a5]
   rfl
 ·rw[ai hv]
  refine bT ?_ rfl
  rw[V.aT,V.toInt_int,nt];exact hv
end Go.AM
set_option maxRecDepth 100000
namespace Go.AM
open Go.Proofs
noncomputable abbrev WE:Code:=cF Try.prog (ay.aV 63)
noncomputable def CK (C:ag) (t9:List V) (t10 dt da:Int) (cD:List V) (all one:Bool) (t11:Int) {β:Type} (kn:(Bool × Bool × Int)→Option β) (kr:(Bool × Bool × Int × Bool)→Option β):Option β:=
 bif decide ((t11:Int)<t10) then
  (idx t9 t11).bind fun x1=>
  (C xm [.int .i64 ((x1.cell 0).toInt),.int .i64 ((x1.cell 1).toInt),.list aa ((x1.cell 2).toList)]).bind fun r2=>
  bif all then
  bif one then
   kn ((V.nth r2 0).toBool,true,IntKind.wrap .i64 (t11+1))
  else
   kn ((V.nth r2 0).toBool,(V.nth r2 0).toBool,IntKind.wrap .i64 (t11+1))
  else
  bif one then
   kn (false,true,IntKind.wrap .i64 (t11+1))
  else
   kn (false,(V.nth r2 0).toBool,IntKind.wrap .i64 (t11+1))
 else
  kr (all,one,t11,decide ((t11:Int)<t10))
noncomputable def Ht (C:ag) (t9:List V) (t10 dt da:Int) (cD:List V):(Bool × Bool × Int)→Option ((Bool × Bool × Int) ⊕ (Bool × Bool × Int × Bool)):=un fun all=>un fun one t11=>CK C t9 t10 dt da cD all one t11 (fun y=>some (.inl y)) (fun r=>some (.inr r))
noncomputable def WG (C:ag):ct:=fun β n ds k=>
 bif Nat.beq n 49 then bW KZ [true,true,false,false,true,false,false,false] [[0,0,3,4,0,0,6,7,8]] (@CK C) ds k else
 none
abbrev aiQ (C:ag) (b:cq):Prop:=cr Try.prog ay C (WG C) 63 (cK Try.prog (ay.aV 63)) (ay.sin 63).bj.length b
theorem aiR (C:ag):aiQ C (.loop (av [1,1,0,1,0,0] WE)):=
 bY KZ [true,true,false,false,true,false,false,false] [[0,0,3,4,0,0,6,7,8]] (@CK C) (by kernel_rfl) (aZ (bs:=[]) (by kernel_rfl) aw) (fun ds=>by kernel_rfl) (fun i x=>by kernel_rfl) (fun i x β k=>by kernel_rfl) (fun β ds k=>by kernel_rfl)
noncomputable def WH (C:ag) (ah aq:Int) (af:List V):Option (List V):=
 (Loop (Ht C af (af.length:Int) ah aq af) (true,false,0)).bind (un fun (Hu:Bool)=>un fun (yO:Bool)=>un fun (m7:Int) (mg:Bool)=>
  bif (ah:Int)==2 then
   bif (ah:Int)==2 then
   some [.bool true]
   else
   bif (ah:Int)==4 then
    some [.bool yO]
   else
    bif (ah:Int)==5 then
    bif (ah:Int)==5 then
     some [.bool Hu]
    else
     bif (ah:Int)==8 then
     some [.bool (!yO)]
     else
     some [.bool false]
    else
    bif (ah:Int)==6 then
     some [.bool Hu]
    else
     bif (ah:Int)==8 then
     some [.bool (!yO)]
     else
     some [.bool false]
  else
   bif (ah:Int)==7 then
   some [.bool true]
   else
   bif (ah:Int)==4 then
    some [.bool yO]
   else
    bif (ah:Int)==5 then
    bif (ah:Int)==5 then
     some [.bool Hu]
    else
     bif (ah:Int)==8 then
     some [.bool (!yO)]
     else
     some [.bool false]
    else
    bif (ah:Int)==6 then
     some [.bool Hu]
    else
     bif (ah:Int)==8 then
     some [.bool (!yO)]
     else
     some [.bool false])
theorem aiS {ah aq:Int} {af:List V} {r:Option (List V)} (h:WH CC ah aq af=r):CC xm [.int .i64 ah,.int .i64 aq,.list aa af]=r:=
 bh (key:=63) (L:=WG CC) (bs:=[.loop (av [1,1,0,1,0,0] WE)]) (by kernel_rfl) (bu (aiR CC) aw) (bd (by kernel_rfl) h)
end Go.AM
set_option maxRecDepth 100000
namespace Go.AM
open Go.Proofs Ex
theorem WI: ∀e:Ex,e.Ok→CC xm (bS e [])=some [.bool e.cH]:=
 ind fun o l ks ih au=>by
  have:=mZ
  have hlen:=au.len
  refine aiS ?_
  have hl:=aeb (step:=Ht CC (ks.map enc) ((ks.map enc).length:Int) o l (ks.map enc)) (ks:=ks) (fun (s:Bool × Bool) i=>(s.1,s.2,(i:Int))) (fun s k=>(s.1&&k.cH,s.2||k.cH)) (fun s=>(s.1,s.2,((ks.length:Nat):Int),false)) (fun _ _=>True)
   (fun pre k ax s aY hI=>by
    have bU:pre.length<ks.length:=by rw[aY];simp
    have hm:k∈ks:=by rw[aY];simp
    refine ⟨?_,trivial⟩
    simp only[Ht,CK,un,aL,az]
    rw[aj (by omega),show idx (ks.map enc) (pre.length:Int)=some k.enc by rw[aY];exact ga _ _ _]
    simp only[Option.bind_some,aW,bc,a9]
    rw[ih k hm (au.mf k hm)]
    simp only[Option.bind_some,V.aT,V.ee]
    rw[wrap64 (by omega) (by omega)]
    obtain ⟨a,b⟩:=s
    cases a<;>cases b<;>simp)
   (fun s=>by
    simp only[Ht,CK,un,aL,az]
    rw[ai (by omega)]
    simp) ks [] (true,false) rfl trivial
  have hf: ∀(ks:List Ex) (a b:Bool),ks.foldl (fun (s:Bool × Bool) k=>(s.1&&k.cH,s.2||k.cH)) (a,b)=(a&&mh ks,b||kT ks):=by
   intro ks
   induction ks with
   | nil=>intro a b;simp[mh,kT]
   | cons k ks ih=>intro a b;simp[ih,mh,kT,Bool.and_assoc,Bool.or_assoc]
  rw[hf] at hl
  simp only[List.length_nil,Int.ofNat_zero,Int.natCast_zero] at hl
  unfold WH
  simp only[Ex.op,Ex.bx,Ex.kids]
  erw [hl]
  simp only[Option.bind_some,un,cH,mz,Bool.false_or]
  rcases xQ o with rfl|rfl|rfl|rfl|rfl|rfl|rfl|rfl|ho
  case inr.inr.inr.inr.inr.inr.inr.inr=>
   have n2:o≠2:=by omega
   have n4:o≠4:=by omega
   have n5:o≠5:=by omega
   have n6:o≠6:=by omega
   have n7:o≠7:=by omega
   have n8:o≠8:=by omega
   simp[n2,n4,n5,n6,n7,n8]
  all_goals simp
end Go.AM
set_option maxRecDepth 100000
namespace Go.AM
open Go.Proofs
noncomputable abbrev WJ:Code:=cF Try.prog (ay.aV 48)
noncomputable def vJ (C:ag) (gV gD:Int) (e9:List V) (gW gE:Int) (fa:List V) (i:Int) {β:Type} (kn:Int→Option β) (kr:((Int) ⊕ (Int × Bool))→Option β):Option β:=
 bif decide ((i:Int)<(e9.length:Int)) then
  bif decide ((i:Int)<(fa.length:Int)) then
  (idx e9 i).bind fun x3=>
  (idx fa i).bind fun x4=>
  (C rr [.int .i64 ((x3.cell 0).toInt),.int .i64 ((x3.cell 1).toInt),.list aa ((x3.cell 2).toList),.int .i64 ((x4.cell 0).toInt),.int .i64 ((x4.cell 1).toInt),.list aa ((x4.cell 2).toList)]).bind fun r5=>
  bif (((V.nth r5 0).toInt):Int) != 0 then
   kr (.inl ((V.nth r5 0).toInt))
  else
   kn (IntKind.wrap .i64 (i+1))
  else
  kr (.inr (i,decide ((i:Int)<(fa.length:Int))))
 else
  kr (.inr (i,false))
noncomputable def tq (C:ag) (gV gD:Int) (e9:List V) (gW gE:Int) (fa:List V):(Int)→Option ((Int) ⊕ ((Int) ⊕ (Int × Bool))):=fun i=>vJ C gV gD e9 gW gE fa i (fun y=>some (.inl y)) (fun r=>some (.inr r))
noncomputable def WK (C:ag):ct:=fun β n ds k=>
 bif Nat.beq n 97 then bW KS [true,false,false,false,false,false,false] [[0],[0,0,2,3,4,5,6,7]] (@vJ C) ds k else
 none
abbrev aiT (C:ag) (b:cq):Prop:=cr Try.prog ay C (WK C) 48 (cK Try.prog (ay.aV 48)) (ay.sin 48).bj.length b
theorem aiU (C:ag):aiT C (.loop (av [1,1,0,1,0,0] WJ)):=
 bY KS [true,false,false,false,false,false,false] [[0],[0,0,2,3,4,5,6,7]] (@vJ C) (by kernel_rfl) (aZ (bs:=[]) (by kernel_rfl) aw) (fun ds=>by kernel_rfl) (fun i x=>by kernel_rfl) (fun i x β k=>by kernel_rfl) (fun β ds k=>by kernel_rfl)
noncomputable def WM (C:ag) (eG ep:Int) (er:List V) (eH eI:Int) (eN:List V):Option (List V):=
 bif (eG:Int) != eH then
  (C xp [.bool (decide ((eG:Int)<eH))]).bind fun r1=>
  some [.int .i64 ((V.nth r1 0).toInt)]
 else
  bif (ep:Int) != eI then
  (C xp [.bool (decide ((ep:Int)<eI))]).bind fun r2=>
  some [.int .i64 ((V.nth r2 0).toInt)]
  else
  (Loop (tq C eG ep er eH eI eN) 0).bind (bV (fun (mg:Int)=>
   some [.int .i64 mg]) (un fun (i_7:Int) (F8:Bool)=>
   bif ((er.length:Int):Int)==(eN.length:Int) then
    some [.int .i64 0]
   else
    (C xp [.bool (decide (((er.length:Int):Int)<(eN.length:Int)))]).bind fun r9=>
    some [.int .i64 ((V.nth r9 0).toInt)]))
theorem aiV {eG ep:Int} {er:List V} {eH eI:Int} {eN:List V} {r:Option (List V)} (h:WM CC eG ep er eH eI eN=r):CC rr [.int .i64 eG,.int .i64 ep,.list aa er,.int .i64 eH,.int .i64 eI,.list aa eN]=r:=
 bh (key:=48) (L:=WK CC) (bs:=[.loop (av [1,1,0,1,0,0] WJ)]) (by kernel_rfl) (bu (aiU CC) aw) (bd (by kernel_rfl) h)
noncomputable def aiW (C:ag) (less:Bool):Option (List V):=
 bif less then
  some [.int .i64 (-1)]
 else
  some [.int .i64 1]
theorem aiX {less:Bool} {r:Option (List V)} (h:aiW CC less=r):CC xp [.bool less]=r:=
 bh (key:=67) (L:=cw) (bs:=[]) (by kernel_rfl) aw (bd (by kernel_rfl) h)
end Go.AM
set_option maxRecDepth 100000
namespace Go.AM
open Go.Proofs Ex
theorem NM (b:Bool):CC xp [.bool b]=some [.int .i64 (gA b)]:=by
 refine aiX ?_
 cases b<;>rfl
theorem aiY {ks bO:List Ex} {a0 a1 b0 b1:Int} (hlen:ks.length≤maxLen) (ih: ∀k∈ks,∀e:Ex,e.Ok→CC rr (bS k (bS e []))=some [.int .i64 (cmp k e)]) (dc: ∀k∈bO,Ex.Ok k):
  ∀(ax pre js o9:List Ex),ks=pre++ax→bO=o9++js→pre.length=o9.length→
  (∃c,Loop (tq CC a0 a1 (ks.map enc) b0 b1 (bO.map enc)) ((pre.length:Nat):Int)=some (.inl c)∧dA ax js=c)∨
  (∃i b,Loop (tq CC a0 a1 (ks.map enc) b0 b1 (bO.map enc)) ((pre.length:Nat):Int)=some (.inr (i,b))∧dA ax js=if ks.length=bO.length then 0 else gA (decide (ks.length<bO.length))):=by
 intro ax
 induction ax with
 | nil=>
  intro pre js o9 aY j8 lB
  subst aY
  refine .inr ⟨((pre.length:Nat):Int),false,aS ?_,?_⟩
  ·simp only[tq,vJ,cR,aL,az]
   rw[ai (by omega)]
  ·cases js with
   | nil=>simp[dA,j8,lB]
   | cons a l=>simp[dA,j8,lB,gA]
 | cons k ax dW=>
  intro pre js o9 aY j8 lB
  have bU:pre.length<ks.length:=by rw[aY];simp
  have:=mZ
  have bI:idx (ks.map enc) (pre.length:Int)=some k.enc:=by rw[aY];exact ga _ _ _
  cases js with
  | nil=>
   have hl:bO.length=pre.length:=by rw[j8,lB];simp
   refine .inr ⟨((pre.length:Nat):Int),false,aS ?_,?_⟩
   ·simp only[tq,vJ,aL,az]
    rw[aj (by omega),ai (by omega)]
    simp[hl]
   ·rw[ai (by omega)]
    simp[dA,gA,show¬ks.length<bO.length by omega]
  | cons k' js=>
   have hl:pre.length<bO.length:=by rw[j8,lB];simp
   have Bm:idx (bO.map enc) (pre.length:Int)=some k'.enc:=by rw[j8,lB];exact ga _ _ _
   have e1:=ih k (by rw[aY];simp) k' (dc k' (by rw[j8];simp))
   by_cases hc:cmp k k'=0
   ·have di:tq CC a0 a1 (ks.map enc) b0 b1 (bO.map enc) ((pre.length:Nat):Int)=some (.inl (((pre++[k]).length:Nat):Int)):=by
     simp only[tq,vJ,aL,az]
     rw[aj (by omega),aj (by omega),bI,Bm]
     simp only[Option.bind_some,aW,bc,a9]
     rw[e1,hc]
     simp only[Option.bind_some,V.aT,V.toInt_int,sM,cO]
     rw[wrap64 (by omega) (by omega)]
     simp
    rw[bJ di]
    simp only[dA,hc,ne_eq,nk,fB]
    exact dW (pre++[k]) js (o9++[k']) (by rw[aY];simp) (by rw[j8];simp) (by simp[lB])
   ·refine .inl ⟨cmp k k',aS ?_,by simp[dA,hc]⟩
    simp only[tq,vJ,aL,az]
    rw[aj (by omega),aj (by omega),bI,Bm]
    simp only[Option.bind_some,aW,bc,a9]
    rw[e1]
    simp only[Option.bind_some,V.aT,V.toInt_int,sM,ai hc]
theorem Hv: ∀a:Ex,a.Ok→∀b:Ex,b.Ok→CC rr (bS a (bS b []))=some [.int .i64 (cmp a b)]:=
 ind fun o l ks ih au b hb=>by
  obtain ⟨o',l',bO⟩:=b
  refine aiV ?_
  unfold WM
  rw[u9]
  simp only[Ex.op,Ex.bx,Ex.kids,sM]
  by_cases h1:o=o'
  ·by_cases U:l=l'
   ·rw[aj h1,aj U,ai (by simp[h1]),ai (by simp[U])]
    rcases aiY (a0:=o) (a1:=l) (b0:=o') (b1:=l') au.len (fun k hk e he=>ih k hk (au.mf k hk) e he) hb.mf ks [] bO [] rfl rfl rfl with ⟨c,q1,q2⟩|⟨i,b,q1,q2⟩
    ·simp only[List.length_nil,Int.ofNat_zero,Int.natCast_zero] at q1
     erw [q1];rw[q2];rfl
    ·simp only[List.length_nil,Int.ofNat_zero,Int.natCast_zero] at q1
     erw [q1];rw[q2]
     simp only[Option.bind_some,bV,un,aL,df]
     by_cases hl:ks.length=bO.length
     ·rw[aj (by omega),aj hl]
     ·rw[ai (by omega),ai hl,NM]
      simp
   ·rw[aj h1,ai U,ai (by simp[h1]),aj U,NM]
    simp only[Option.bind_some,V.aT,V.toInt_int];rfl
  ·rw[ai h1,aj h1,NM]
   simp only[Option.bind_some,V.aT,V.toInt_int];rfl
end Go.AM
set_option maxRecDepth 100000
namespace Go.AM
open Go.Proofs
noncomputable abbrev WN:Code:=cF Try.prog (ay.aV 66)
noncomputable def yP (C:ag) (l:List V) (NN NO:Int) (NP:List V) (k':Int) {β:Type} (kn:Int→Option β) (kr:(Int × Bool)→Option β):Option β:=
 bif decide ((k':Int)>0) then
  (idx l (IntKind.wrap .i64 (k'-1))).bind fun x1=>
  (C rr [.int .i64 NN,.int .i64 NO,.list aa NP,.int .i64 ((x1.cell 0).toInt),.int .i64 ((x1.cell 1).toInt),.list aa ((x1.cell 2).toList)]).bind fun r2=>
  bif decide ((((V.nth r2 0).toInt):Int)<0) then
  kn (IntKind.wrap .i64 (k'-1))
  else
  kr (k',decide ((((V.nth r2 0).toInt):Int)<0))
 else
  kr (k',false)
noncomputable def CL (C:ag) (l:List V) (NN NO:Int) (NP:List V):(Int)→Option ((Int) ⊕ (Int × Bool)):=fun k'=>yP C l NN NO NP k' (fun y=>some (.inl y)) (fun r=>some (.inr r))
noncomputable def WO (C:ag):ct:=fun β n ds k=>
 bif Nat.beq n 33 then bW K1 [false,true,false,false,false] [[1,0,0,3,4,5]] (@yP C) ds k else
 none
abbrev aiZ (C:ag) (b:cq):Prop:=cr Try.prog ay C (WO C) 66 (cK Try.prog (ay.aV 66)) (ay.sin 66).bj.length b
theorem ai0 (C:ag):aiZ C (.loop (av [1,1,0,0,0] WN)):=
 bY K1 [false,true,false,false,false] [[1,0,0,3,4,5]] (@yP C) (by kernel_rfl) (aZ (bs:=[]) (by kernel_rfl) aw) (fun ds=>by kernel_rfl) (fun i x=>by kernel_rfl) (fun i x β k=>by kernel_rfl) (fun β ds k=>by kernel_rfl)
noncomputable def WQ (C:ag) (l:List V) (po iP:Int) (pq:List V):Option (List V):=
 (Loop (CL C l po iP pq) (l.length:Int)).bind (un fun (fA:Int) (j7:Bool)=>
  bif decide ((fA:Int)>0) then
   (idx l (IntKind.wrap .i64 (fA-1))).bind fun x5=>
   (C rr [.int .i64 ((x5.cell 0).toInt),.int .i64 ((x5.cell 1).toInt),.list aa ((x5.cell 2).toList),.int .i64 po,.int .i64 iP,.list aa pq]).bind fun r6=>
   bif (((V.nth r6 0).toInt):Int)==0 then
   some [.list aa l]
   else
   bif (decide (0≤fA))&&(decide (fA≤(l.length:Int))) then
    bif Nat.ble ((([]:List V).length+((l.drop 0).take (((fA:Int).toNat)-0)).length)*40) bP then
    bif Nat.ble (((([]:List V)++((l.drop 0).take (((fA:Int).toNat)-0))).length+([.agg [.int .i64 po,.int .i64 iP,.list aa pq]]:List V).length)*40) bP then
     bif (decide (0≤fA))&&(decide (fA≤(l.length:Int))) then
     bif Nat.ble ((((([]:List V)++((l.drop 0).take (((fA:Int).toNat)-0)))++([.agg [.int .i64 po,.int .i64 iP,.list aa pq]]:List V)).length+((l.drop ((fA:Int).toNat)).take (l.length-((fA:Int).toNat))).length)*40) bP then
      some [.list aa (((([]:List V)++((l.drop 0).take (((fA:Int).toNat)-0)))++([.agg [.int .i64 po,.int .i64 iP,.list aa pq]]:List V))++((l.drop ((fA:Int).toNat)).take (l.length-((fA:Int).toNat))))]
     else none
     else none
    else none
    else none
   else none
  else
   bif (decide (0≤fA))&&(decide (fA≤(l.length:Int))) then
   bif Nat.ble ((([]:List V).length+((l.drop 0).take (((fA:Int).toNat)-0)).length)*40) bP then
    bif Nat.ble (((([]:List V)++((l.drop 0).take (((fA:Int).toNat)-0))).length+([.agg [.int .i64 po,.int .i64 iP,.list aa pq]]:List V).length)*40) bP then
    bif (decide (0≤fA))&&(decide (fA≤(l.length:Int))) then
     bif Nat.ble ((((([]:List V)++((l.drop 0).take (((fA:Int).toNat)-0)))++([.agg [.int .i64 po,.int .i64 iP,.list aa pq]]:List V)).length+((l.drop ((fA:Int).toNat)).take (l.length-((fA:Int).toNat))).length)*40) bP then
     some [.list aa (((([]:List V)++((l.drop 0).take (((fA:Int).toNat)-0)))++([.agg [.int .i64 po,.int .i64 iP,.list aa pq]]:List V))++((l.drop ((fA:Int).toNat)).take (l.length-((fA:Int).toNat))))]
     else none
    else none
    else none
   else none
   else none)
theorem ai1 {l:List V} {po iP:Int} {pq:List V} {r:Option (List V)} (h:WQ CC l po iP pq=r):CC AV [.list aa l,.int .i64 po,.int .i64 iP,.list aa pq]=r:=
 bh (key:=66) (L:=WO CC) (bs:=[.loop (av [1,1,0,0,0] WN)]) (by kernel_rfl) (bu (ai0 CC) aw) (bd (by kernel_rfl) h)
noncomputable def WR (C:ag) (ah aq:Int) (af:List V):Option (List V):=
 bif (ah:Int)==8 then
  bif ((af.length:Int):Int)==1 then
  (af[0]?).bind fun x1=>
  some [.bool ((((x1.cell 0).toInt):Int)==1)]
  else
  some [.bool false]
 else
  some [.bool false]
theorem ai2 {ah aq:Int} {af:List V} {r:Option (List V)} (h:WR CC ah aq af=r):CC xn [.int .i64 ah,.int .i64 aq,.list aa af]=r:=
 bh (key:=64) (L:=cw) (bs:=[]) (by kernel_rfl) aw (bd (by kernel_rfl) h)
end Go.AM
set_option maxRecDepth 100000
namespace Go.AM
open Go.Proofs Ex
theorem ai3 {l:List Ex} {x:Ex} (hl: ∀k∈l,k.Ok) (hx:x.Ok) (hn:l.length≤1000000):
  ∀k,k≤l.length→∃t,Loop (CL CC (l.map enc) x.op x.bx (x.kids.map enc)) (k:Int)=some (((fg l x k:Nat):Int),t):=by
 intro k
 induction k with
 | zero=>
  intro _
  refine ⟨false,aS ?_⟩
  simp only[CL,yP,fg]
  rw[az,ai (by omega)]
 | succ k ih=>
  intro hk
  have e1:IntKind.wrap .i64 (((k+1:Nat):Int)-1)=(k:Int):=by rw[wrap64 (by omega) (by omega)];omega
  have c:=Hv x hx (l.getD k aR) (xS hl (by omega))
  by_cases h:cmp x (l.getD k aR)<0
  ·obtain ⟨t,ht⟩:=ih (by omega)
   refine ⟨t,?_⟩
   rw[fg,aj h,←ht]
   refine bJ ?_
   simp only[CL,yP]
   rw[az,aj (by omega),e1,Mb (by omega)]
   simp only[Option.bind_some,aW,bc,a9]
   refine (congrArg (fun o=>Option.bind o _) c).trans ?_
   simp only[Option.bind_some,V.aT,V.toInt_int,az]
   rw[aj h]
  ·refine ⟨false,?_⟩
   rw[fg,ai h]
   refine aS ?_
   simp only[CL,yP]
   rw[az,aj (by omega),e1,Mb (by omega)]
   simp only[Option.bind_some,aW,bc,a9]
   refine (congrArg (fun o=>Option.bind o _) c).trans ?_
   simp only[Option.bind_some,V.aT,V.toInt_int,az]
   rw[ai h,b7 h]
theorem WS {l:List Ex} {x:Ex} (hl: ∀k∈l,k.Ok) (hx:x.Ok) (hn:l.length≤1000000):
  CC AV (.list aa (l.map enc)::bS x [])=some [.list aa ((dX l x).map enc)]:=by
 refine ai1 ?_
 unfold WQ
 obtain ⟨t,ht⟩:=ai3 hl hx hn l.length (b9 _)
 have hle:=Bn l x l.length
 rw[aL]
 refine (congrArg (fun o=>Option.bind o _) ht).trans ?_
 have key:=adV l (fg l x l.length) x
 unfold dX
 generalize fg l x l.length=k at hle key
 have m1:Nat.ble ((([]:List V).length+(((l.map enc).drop 0).take (k-0)).length)*40) bP=true:=by
  rw[cV,gz];simp only[fe,pw,aL,List.length_nil];omega
 have m2:Nat.ble (((([]:List V)++(((l.map enc).drop 0).take (k-0))).length+([.agg [.int .i64 x.op,.int .i64 x.bx,.list aa (x.kids.map enc)]]:List V).length)*40) bP=true:=by
  rw[cV,gz];simp only[bZ,fe,pw,aL,List.length_nil,List.length_singleton];omega
 have m3:Nat.ble ((((([]:List V)++(((l.map enc).drop 0).take (k-0)))++([.agg [.int .i64 x.op,.int .i64 x.bx,.list aa (x.kids.map enc)]]:List V)).length+(((l.map enc).drop k).take ((l.map enc).length-k)).length)*40) bP=true:=by
  rw[cV,gz];simp only[bZ,fe,pw,aL,List.length_nil,List.length_singleton];omega
 have t1:(0:Int)≤(k:Int):=by omega
 have t2:(k:Int)≤(l.length:Int):=by omega
 simp only[Option.bind_some,un,az,Int.toNat_natCast]
 rw[aL] at m3 key
 by_cases h0:0<k
 ·rw[aj (by omega)]
  have e1:IntKind.wrap .i64 ((k:Int)-1)=((k-1:Nat):Int):=by rw[wrap64 (by omega) (by omega)];omega
  have c:=Hv (l.getD (k-1) aR) (xS hl (by omega)) x hx
  rw[e1,Mb (by omega)]
  simp only[Option.bind_some,aW,bc,a9]
  refine (congrArg (fun o=>Option.bind o _) c).trans ?_
  simp only[Option.bind_some,V.aT,V.toInt_int,df]
  by_cases h1:cmp (l.getD (k-1) aR) x=0
  ·rw[aj h1,aj ⟨h0,h1⟩]
  ·rw[ai h1,ai (fun h=>h1 h.2)]
   simp only[cY,az,t1,t2,cO,m1,m2,m3,cond_true,key,aL]
 ·rw[ai (by omega),ai (fun h=>h0 h.1)]
  simp only[cY,az,t1,t2,cO,m1,m2,m3,cond_true,key,aL]
theorem NQ (e:Ex):CC xn (bS e [])=some [.bool (univ e)]:=by
 obtain ⟨o,l,ks⟩:=e
 refine ai2 ?_
 unfold WR univ
 simp only[Ex.op,Ex.kids,df,aL]
 by_cases h1:o=8
 ·rw[aj h1]
  match ks with
  | []=>simp
  | [k]=>
   obtain ⟨o2,l2,jM⟩:=k
   rw[aj (by simp)]
   simp[h1,aW,Ex.op,Bool.beq_eq_decide_eq]
  | k::k2::ks=>
   rw[ai (by simp<;>omega)]
   simp
 ·rw[ai h1];simp[h1]
end Go.AM
set_option maxRecDepth 100000
namespace Go.AM
open Go.Proofs
noncomputable abbrev WU:Code:=cF Try.prog (ay.aV 65)
noncomputable def CM (C:ag) (op:Int) (t8:List V) (t9 t10:Int) (outs:List V) {β:Type} (kn:(Int × (List V))→Option β) (kr:(Int × Bool × (List V))→Option β):Option β:=
 bif decide ((t10:Int)<t9) then
  (idx t8 t10).bind fun x1=>
  bif (((x1.cell 0).toInt):Int)==op then
  bif Nat.ble ((outs.length+((x1.cell 2).toList).length)*40) bP then
   kn (IntKind.wrap .i64 (t10+1),outs++((x1.cell 2).toList))
  else none
  else
  bif Nat.ble ((outs.length+([.agg [.int .i64 ((x1.cell 0).toInt),.int .i64 ((x1.cell 1).toInt),.list aa ((x1.cell 2).toList)]]:List V).length)*40) bP then
   kn (IntKind.wrap .i64 (t10+1),outs++([.agg [.int .i64 ((x1.cell 0).toInt),.int .i64 ((x1.cell 1).toInt),.list aa ((x1.cell 2).toList)]]:List V))
  else none
 else
  kr (t10,decide ((t10:Int)<t9),outs)
noncomputable def CN (C:ag) (op:Int) (t8:List V) (t9:Int):(Int × (List V))→Option ((Int × (List V)) ⊕ (Int × Bool × (List V))):=un fun t10 outs=>CM C op t8 t9 t10 outs (fun y=>some (.inl y)) (fun r=>some (.inr r))
noncomputable def WV (C:ag):ct:=fun β n ds k=>
 bif Nat.beq n 49 then bW K0 [false,false,false,true,true] [[1,2,3,0,0,0]] (@CM C) ds k else
 none
abbrev ai4 (C:ag) (b:cq):Prop:=cr Try.prog ay C (WV C) 65 (cK Try.prog (ay.aV 65)) (ay.sin 65).bj.length b
theorem ai5 (C:ag):ai4 C (.loop (av [1,1,0,1,0,0] WU)):=
 bY K0 [false,false,false,true,true] [[1,2,3,0,0,0]] (@CM C) (by kernel_rfl) (aZ (bs:=[]) (by kernel_rfl) aw) (fun ds=>by kernel_rfl) (fun i x=>by kernel_rfl) (fun i x β k=>by kernel_rfl) (fun β ds k=>by kernel_rfl)
noncomputable def WW (C:ag) (op:Int) (kids:List V):Option (List V):=
 (Loop (CN C op kids (kids.length:Int)) (0,([]:List V))).bind (un fun (t_2:Int)=>un fun (jr:Bool) (ai6:List V)=>
  some [.list aa ai6])
theorem ai7 {op:Int} {kids:List V} {r:Option (List V)} (h:WW CC op kids=r):CC xo [.int .i64 op,.list aa kids]=r:=
 bh (key:=65) (L:=WV CC) (bs:=[.loop (av [1,1,0,1,0,0] WU)]) (by kernel_rfl) (bu (ai5 CC) aw) (bd (by kernel_rfl) h)
end Go.AM
set_option maxRecDepth 100000
namespace Go.AM
open Go.Proofs Ex
theorem ai8 {op:Int} {ks:List Ex} (hn:ks.length≤1000000) (hl:(bp op ks).length≤1000000):
  ∀(ax pre:List Ex),ks=pre++ax→
  Loop (CN CC op (ks.map enc) ((ks.map enc).length:Int)) (((pre.length:Nat):Int),(bp op pre).map enc)=some (((ks.map enc).length:Int),false,(bp op ks).map enc):=by
 intro ax
 induction ax with
 | nil=>
  intro pre e
  rw[cR] at e
  subst e
  refine aS ?_
  simp only[CN,CM,un,aL]
  rw[az,ai (by omega),b7 (by omega)]
 | cons k ax ih=>
  intro pre e
  have aN:pre.length<ks.length:=by rw[e];simp
  have hi:idx (ks.map enc) ((pre.length:Nat):Int)=some k.enc:=by rw[e];exact ga pre ax k
  have hf:bp op ks=bp op pre++((if k.op=op then k.kids else [k])++bp op ax):=by
   rw[e];unfold bp;rw[Dh,lL]
  have Ag:bp op (pre++[k])=bp op pre++(if k.op=op then k.kids else [k]):=by
   unfold bp;rw[Dh,lL,List.flatMap_nil,cR]
  rw[hf,bZ,bZ] at hl
  have bQ:CN CC op (ks.map enc) ((ks.map enc).length:Int) (((pre.length:Nat):Int),(bp op pre).map enc)=some (.inl (((pre.length+1:Nat):Int),(bp op (pre++[k])).map enc)):=by
   simp only[CN,CM,un,aL]
   rw[az,aj (by omega),hi,Ag]
   simp only[Option.bind_some,aW,bc,a9,df,AJ,aL,List.length_singleton]
   by_cases h:k.op=op
   ·rw[aj h] at hl⊢
    rw[aj h,aj (by rw[gz];omega),wrap64 (by omega) (by omega),eh]
    rfl
   ·rw[ai h] at hl⊢
    rw[List.length_singleton] at hl
    rw[ai h,aj (by rw[gz];omega),wrap64 (by omega) (by omega),eh,←dg]
    rfl
  rw[bJ bQ]
  have:=ih (pre++[k]) (by simp[e])
  simpa using this
theorem NR {op:Int} {ks:List Ex} (hn:ks.length≤1000000) (hl:(bp op ks).length≤1000000):CC xo [.int .i64 op,.list aa (ks.map enc)]=some [.list aa ((bp op ks).map enc)]:=by
 refine ai7 ?_
 unfold WW
 refine (congrArg (fun o=>Option.bind o _) (ai8 hn hl ks [] rfl)).trans ?_
 rfl
end Go.AM
set_option maxRecDepth 100000
namespace Go.AM
open Go.Proofs
noncomputable abbrev tt:Code:=cF Try.prog (ay.aV 47)
noncomputable def CO (C:ag) (t19:List V) (t20 dt da:Int) (cD:List V) (iR iS:Int) (bt:List V) (t21:Int) (ou:List V) {β:Type} (kn:(Int × (List V))→Option β) (kr:(Int × Bool × (List V))→Option β):Option β:=
 bif decide ((t21:Int)<t20) then
  (idx t19 t21).bind fun x1=>
  (C uQ [.int .i64 ((x1.cell 0).toInt),.int .i64 ((x1.cell 1).toInt),.list aa ((x1.cell 2).toList)]).bind fun r2=>
  bif Nat.ble ((ou.length+([.agg [.int .i64 ((V.nth r2 0).toInt),.int .i64 ((V.nth (r2.drop 1) 0).toInt),.list aa ((V.nth ((r2.drop 1).drop 1) 0).toList)]]:List V).length)*40) bP then
  kn (IntKind.wrap .i64 (t21+1),ou++([.agg [.int .i64 ((V.nth r2 0).toInt),.int .i64 ((V.nth (r2.drop 1) 0).toInt),.list aa ((V.nth ((r2.drop 1).drop 1) 0).toList)]]:List V))
  else none
 else
  kr (t21,decide ((t21:Int)<t20),ou)
noncomputable def Hw (C:ag) (t19:List V) (t20 dt da:Int) (cD:List V) (iR iS:Int) (bt:List V):(Int × (List V))→Option ((Int × (List V)) ⊕ (Int × Bool × (List V))):=un fun t21 ou=>CO C t19 t20 dt da cD iR iS bt t21 ou (fun y=>some (.inl y)) (fun r=>some (.inr r))
noncomputable def yQ (C:ag) (t95 iR iS CP CQ:Int) (CR:List V) (eX dS tu tv:Int) (Hy ch pj:List V) (t96:Int) (cU:List V) {β:Type} (kn:(Int × (List V))→Option β) (kr:((Unit) ⊕ (Int × Bool × (List V)))→Option β):Option β:=
 bif decide ((t96:Int)<t95) then
  bif (decide (0≤t96))&&(decide (t96<(Hy.length:Int))) then
  (Hy[(t96:Int).toNat]?).bind fun ka=>
  bif (((ka.cell 0).toInt):Int)==1 then
   kr (.inl ())
  else
   bif (((ka.cell 0).toInt):Int) != 2 then
   bif Nat.ble ((cU.length+([.agg [.int .i64 ((ka.cell 0).toInt),.int .i64 ((ka.cell 1).toInt),.list aa ((ka.cell 2).toList)]]:List V).length)*40) bP then
    kn (IntKind.wrap .i64 (t96+1),cU++([.agg [.int .i64 ((ka.cell 0).toInt),.int .i64 ((ka.cell 1).toInt),.list aa ((ka.cell 2).toList)]]:List V))
   else none
   else
   kn (IntKind.wrap .i64 (t96+1),cU)
  else none
 else
  kr (.inr (t96,decide ((t96:Int)<t95),cU))
noncomputable def yR (C:ag) (t95 iR iS CP CQ:Int) (CR:List V) (eX dS tu tv:Int) (Hy ch pj:List V):(Int × (List V))→Option ((Int × (List V)) ⊕ ((Unit) ⊕ (Int × Bool × (List V)))):=un fun t96 cU=>yQ C t95 iR iS CP CQ CR eX dS tu tv Hy ch pj t96 cU (fun y=>some (.inl y)) (fun r=>some (.inr r))
noncomputable def yS (C:ag) (t120 iR iS WX WY eX dS tu tv:Int) (WZ Hz ch cU:List V) (t121:Int) (mw:List V) {β:Type} (kn:(Int × (List V))→Option β) (kr:((Unit) ⊕ (Int × Bool × (List V)))→Option β):Option β:=
 bif decide ((t121:Int)<t120) then
  bif (decide (0≤t121))&&(decide (t121<(Hz.length:Int))) then
  (Hz[(t121:Int).toNat]?).bind fun jL=>
  (C xn [.int .i64 ((jL.cell 0).toInt),.int .i64 ((jL.cell 1).toInt),.list aa ((jL.cell 2).toList)]).bind fun dO=>
  bif (V.nth dO 0).toBool then
   kr (.inl ())
  else
   bif (((jL.cell 0).toInt):Int) != 1 then
   (C AV [.list aa mw,.int .i64 ((jL.cell 0).toInt),.int .i64 ((jL.cell 1).toInt),.list aa ((jL.cell 2).toList)]).bind fun iQ=>
   kn (IntKind.wrap .i64 (t121+1),(V.nth iQ 0).toList)
   else
   kn (IntKind.wrap .i64 (t121+1),mw)
  else none
 else
  kr (.inr (t121,decide ((t121:Int)<t120),mw))
noncomputable def yT (C:ag) (t120 iR iS WX WY eX dS tu tv:Int) (WZ Hz ch cU:List V):(Int × (List V))→Option ((Int × (List V)) ⊕ ((Unit) ⊕ (Int × Bool × (List V)))):=un fun t121 mw=>yS C t120 iR iS WX WY eX dS tu tv WZ Hz ch cU t121 mw (fun y=>some (.inl y)) (fun r=>some (.inr r))
noncomputable def yU (C:ag) (t144 iR iS CP CQ:Int) (CR:List V) (eX dS tu tv:Int) (HA ch cU:List V) (t145:Int) (mw:List V) {β:Type} (kn:(Int × (List V))→Option β) (kr:((Unit) ⊕ (Int × Bool × (List V)))→Option β):Option β:=
 bif decide ((t145:Int)<t144) then
  bif (decide (0≤t145))&&(decide (t145<(HA.length:Int))) then
  (HA[(t145:Int).toNat]?).bind fun oh=>
  bif (((oh.cell 0).toInt):Int)==1 then
   kr (.inl ())
  else
   (C xn [.int .i64 ((oh.cell 0).toInt),.int .i64 ((oh.cell 1).toInt),.list aa ((oh.cell 2).toList)]).bind fun CS=>
   bif !((V.nth CS 0).toBool) then
   (C AV [.list aa mw,.int .i64 ((oh.cell 0).toInt),.int .i64 ((oh.cell 1).toInt),.list aa ((oh.cell 2).toList)]).bind fun r28=>
   kn (IntKind.wrap .i64 (t145+1),(V.nth r28 0).toList)
   else
   kn (IntKind.wrap .i64 (t145+1),mw)
  else none
 else
  kr (.inr (t145,decide ((t145:Int)<t144),mw))
noncomputable def yV (C:ag) (t144 iR iS CP CQ:Int) (CR:List V) (eX dS tu tv:Int) (HA ch cU:List V):(Int × (List V))→Option ((Int × (List V)) ⊕ ((Unit) ⊕ (Int × Bool × (List V)))):=un fun t145 mw=>yU C t144 iR iS CP CQ CR eX dS tu tv HA ch cU t145 mw (fun y=>some (.inl y)) (fun r=>some (.inr r))
noncomputable def W0 (C:ag):ct:=fun β n ds k=>
 bif Nat.beq n 49 then bW KO [false,false,true,false,false,false,false,false,true,false] [[1,2,0,0,4,5,6,7,8,0,10]] (@CO C) ds k else
 bif Nat.beq n 465 then bW KP [false,true,false,false,false,false,false,false,false,false,false,false,false,true,false] [[5,6,7],[1,0,0,3,4,5,6,7,8,9,10,11,12,13,0,15]] (@yQ C) ds k else
 bif Nat.beq n 609 then bW KQ [false,true,false,false,false,false,false,false,true,false,false,false,false,false,false] [[5,6,15],[1,0,0,3,4,5,6,7,8,0,10,11,12,13,14,15]] (@yS C) ds k else
 bif Nat.beq n 769 then bW KR [false,true,false,false,false,false,false,false,false,true,false,false,false,false,false] [[5,6,7],[1,0,0,3,4,5,6,7,8,9,0,11,12,13,14,15]] (@yU C) ds k else
 none
abbrev HB (C:ag) (b:cq):Prop:=cr Try.prog ay C (W0 C) 47 (cK Try.prog (ay.aV 47)) (ay.sin 47).bj.length b
theorem ai9 (C:ag):HB C (.loop (av [1,1,0,1,0,0] tt)):=
 bY KO [false,false,true,false,false,false,false,false,true,false] [[1,2,0,0,4,5,6,7,8,0,10]] (@CO C) (by kernel_rfl) (aZ (bs:=[]) (by kernel_rfl) aw) (fun ds=>by kernel_rfl) (fun i x=>by kernel_rfl) (fun i x β k=>by kernel_rfl) (fun β ds k=>by kernel_rfl)
theorem aja (C:ag):HB C (.loop (av [1,1,1,1,1,1,1,0,1,0,1,1,1,1,1,0,1,1,0,0] tt)):=
 bY KP [false,true,false,false,false,false,false,false,false,false,false,false,false,true,false] [[5,6,7],[1,0,0,3,4,5,6,7,8,9,10,11,12,13,0,15]] (@yQ C) (by kernel_rfl) (aZ (bs:=[]) (by kernel_rfl) aw) (fun ds=>by kernel_rfl) (fun i x=>by kernel_rfl) (fun i x β k=>by kernel_rfl) (fun β ds k=>by kernel_rfl)
theorem ajb (C:ag):HB C (.loop (av [1,1,1,1,1,1,1,0,1,0,1,1,1,1,1,1,1,0,1,0,0] tt)):=
 bY KQ [false,true,false,false,false,false,false,false,true,false,false,false,false,false,false] [[5,6,15],[1,0,0,3,4,5,6,7,8,0,10,11,12,13,14,15]] (@yS C) (by kernel_rfl) (aZ (bs:=[]) (by kernel_rfl) aw) (fun ds=>by kernel_rfl) (fun i x=>by kernel_rfl) (fun i x β k=>by kernel_rfl) (fun β ds k=>by kernel_rfl)
theorem ajc (C:ag):HB C (.loop (av [1,1,1,1,1,1,1,0,1,0,1,1,1,1,1,1,1,1,1,0,1,1,0,0] tt)):=
 bY KR [false,true,false,false,false,false,false,false,false,true,false,false,false,false,false] [[5,6,7],[1,0,0,3,4,5,6,7,8,9,0,11,12,13,14,15]] (@yU C) (by kernel_rfl) (aZ (bs:=[]) (by kernel_rfl) aw) (fun ds=>by kernel_rfl) (fun i x=>by kernel_rfl) (fun i x β k=>by kernel_rfl) (fun β ds k=>by kernel_rfl)
noncomputable def W3 (C:ag) (ah aq:Int) (af:List V):Option (List V):=
 (Loop (Hw C af (af.length:Int) ah aq af 0 0 ([]:List V)) (0,([]:List V))).bind (un fun (jr:Int)=>un fun (j7:Bool) (pr:List V)=>
  bif (ah:Int)==8 then
   bif decide (0<(pr.length:Int)) then
   (pr[0]?).bind fun x6=>
   bif (((x6.cell 0).toInt):Int)==8 then
    bif decide (0<(pr.length:Int)) then
    (pr[0]?).bind fun x7=>
    (((x7.cell 2).toList)[0]?).bind fun x8=>
    some [.int .i64 ((x8.cell 0).toInt),.int .i64 ((x8.cell 1).toInt),.list aa ((x8.cell 2).toList)]
    else none
   else
    some [.int .i64 ah,.int .i64 aq,.list aa pr]
   else none
  else
   bif (ah:Int)==7 then
   bif decide (0<(pr.length:Int)) then
    (pr[0]?).bind fun x9=>
    bif (((x9.cell 0).toInt):Int)==1 then
    some [.int .i64 2,.int .i64 0,.list aa ([]:List V)]
    else
    bif (((x9.cell 0).toInt):Int)==2 then
     some [.int .i64 2,.int .i64 0,.list aa ([]:List V)]
    else
     bif (((x9.cell 0).toInt):Int)==7 then
     some [.int .i64 ((x9.cell 0).toInt),.int .i64 ((x9.cell 1).toInt),.list aa ((x9.cell 2).toList)]
     else
     (C xn [.int .i64 ((x9.cell 0).toInt),.int .i64 ((x9.cell 1).toInt),.list aa ((x9.cell 2).toList)]).bind fun cN=>
     bif (V.nth cN 0).toBool then
      some [.int .i64 ((x9.cell 0).toInt),.int .i64 ((x9.cell 1).toInt),.list aa ((x9.cell 2).toList)]
     else
      some [.int .i64 ah,.int .i64 aq,.list aa pr]
   else none
   else
   bif (ah:Int)==5 then
    (C xo [.int .i64 ah,.list aa pr]).bind fun eu=>
    (Loop (yR C (((V.nth eu 0).toList).length:Int) 0 0 1 0 ([]:List V) ah aq 2 0 ((V.nth eu 0).toList) ([]:List V) ([]:List V)) (0,([]:List V))).bind (bV (fun _=>
     some [.int .i64 1,.int .i64 0,.list aa ([]:List V)]) (un fun (Bj:Int)=>un fun (rz:Bool) (tn:List V)=>
     bif ((tn.length:Int):Int)==0 then
     some [.int .i64 2,.int .i64 0,.list aa ([]:List V)]
     else
     bif ((tn.length:Int):Int)==1 then
      (tn[0]?).bind fun fv=>
      some [.int .i64 ((fv.cell 0).toInt),.int .i64 ((fv.cell 1).toInt),.list aa ((fv.cell 2).toList)]
     else
      some [.int .i64 ah,.int .i64 aq,.list aa tn]))
   else
    bif (ah:Int)==4 then
    (C xo [.int .i64 ah,.list aa pr]).bind fun dR=>
    (Loop (yT C (((V.nth dR 0).toList).length:Int) 0 0 8 0 ah aq 1 0 ([]:List V) ((V.nth dR 0).toList) ([]:List V) ([.agg [.int .i64 1,.int .i64 0,.list aa ([]:List V)]]:List V)) (0,([]:List V))).bind (bV (fun _=>
     some [.int .i64 8,.int .i64 0,.list aa ([.agg [.int .i64 1,.int .i64 0,.list aa ([]:List V)]]:List V)]) (un fun (Bk:Int)=>un fun (Ge:Bool) (HC:List V)=>
     bif ((HC.length:Int):Int)==0 then
      some [.int .i64 1,.int .i64 0,.list aa ([]:List V)]
     else
      bif ((HC.length:Int):Int)==1 then
      (HC[0]?).bind fun pe=>
      some [.int .i64 ((pe.cell 0).toInt),.int .i64 ((pe.cell 1).toInt),.list aa ((pe.cell 2).toList)]
      else
      some [.int .i64 ah,.int .i64 aq,.list aa HC]))
    else
    bif (ah:Int)==6 then
     (C xo [.int .i64 ah,.list aa pr]).bind fun BH=>
     (Loop (yV C (((V.nth BH 0).toList).length:Int) 0 0 1 0 ([]:List V) ah aq 8 0 ((V.nth BH 0).toList) ([]:List V) ([.agg [.int .i64 1,.int .i64 0,.list aa ([]:List V)]]:List V)) (0,([]:List V))).bind (bV (fun _=>
      some [.int .i64 1,.int .i64 0,.list aa ([]:List V)]) (un fun (L6:Int)=>un fun (Gg:Bool) (yW:List V)=>
      bif ((yW.length:Int):Int)==0 then
      some [.int .i64 8,.int .i64 0,.list aa ([.agg [.int .i64 1,.int .i64 0,.list aa ([]:List V)]]:List V)]
      else
      bif ((yW.length:Int):Int)==1 then
       (yW[0]?).bind fun NS=>
       some [.int .i64 ((NS.cell 0).toInt),.int .i64 ((NS.cell 1).toInt),.list aa ((NS.cell 2).toList)]
      else
       some [.int .i64 ah,.int .i64 aq,.list aa yW]))
    else
     some [.int .i64 ah,.int .i64 aq,.list aa ([]:List V)])
theorem ajd {ah aq:Int} {af:List V} {r:Option (List V)} (h:W3 CC ah aq af=r):CC uQ [.int .i64 ah,.int .i64 aq,.list aa af]=r:=
 bh (key:=47) (L:=W0 CC) (bs:=[.loop (av [1,1,0,1,0,0] tt),.loop (av [1,1,1,1,1,1,1,0,1,0,1,1,1,1,1,0,1,1,0,0] tt),.loop (av [1,1,1,1,1,1,1,0,1,0,1,1,1,1,1,1,1,0,1,0,0] tt),.loop (av [1,1,1,1,1,1,1,0,1,0,1,1,1,1,1,1,1,1,1,0,1,1,0,0] tt)]) (by kernel_rfl) (bu (ai9 CC) (bu (aja CC) (bu (ajb CC) (bu (ajc CC) aw)))) (bd (by kernel_rfl) h)
end Go.AM
set_option maxRecDepth 100000
namespace Go.AM
open Go.Proofs Ex
section
variable {f:List Ex} {a1 a2 a3 a4 a5 a6 a7 a8:Int} {b0 b1 b2:List V}
theorem aje (hn:f.length≤1000000): ∀(ax pre acc:List Ex),f=pre++ax→acc.length≤pre.length→
  Loop (yR CC ((f.map enc).length:Int) a1 a2 a3 a4 b0 a5 a6 a7 a8 (f.map enc) b1 b2) (((pre.length:Nat):Int),acc.map enc)=
   some (if ax.any (fun k=>decide (k.op=1))=true then .inl () else .inr (((f.map enc).length:Int),false,(acc++ax.filter fun k=>decide (k.op≠2)).map enc)):=by
 intro ax
 induction ax with
 | nil=>
  intro pre acc e _
  rw[cR] at e
  subst e
  refine aS ?_
  simp only[yR,yQ,un,aL]
  rw[az,ai (by omega),b7 (by omega)]
  simp
 | cons k ax ih=>
  intro pre acc e ha
  have aN:pre.length<f.length:=by rw[e];simp
  have hg:(f.map enc)[pre.length]? =some k.enc:=by rw[e];simp
  have t1:((pre.length:Nat):Int)<(f.length:Int):=by omega
  have t2:(0:Int)≤((pre.length:Nat):Int):=by omega
  by_cases h1:k.op=1
  ·rw[aj (by simp[h1])]
   refine aS ?_
   simp only[yR,yQ,un,aL,cY,az,df,Int.toNat_natCast,t1,t2,cO,hg,Option.bind_some,aW,h1]
  ·have bQ:yR CC ((f.map enc).length:Int) a1 a2 a3 a4 b0 a5 a6 a7 a8 (f.map enc) b1 b2 (((pre.length:Nat):Int),acc.map enc)=some (.inl (((pre.length+1:Nat):Int),(if k.op=2 then acc else acc++[k]).map enc)):=by
    simp only[yR,yQ,un,aL,cY,az,df,sM,AJ,Int.toNat_natCast,t1,t2,cO,hg,Option.bind_some,aW,bc,a9,List.length_singleton]
    rw[ai h1,wrap64 (by omega) (by omega)]
    by_cases U:k.op=2
    ·rw[aj U,aj U];rfl
    ·rw[ai U,ai U,aj (by rw[gz];omega),eh,←dg];rfl
   rw[bJ bQ]
   have:=ih (pre++[k]) (if k.op=2 then acc else acc++[k]) (by simp[e]) (by split<;>simp<;>omega)
   rw[bZ,List.length_singleton] at this
   rw[this]
   congr 1
   by_cases U:k.op=2
   ·simp[h1,U]
   ·simp[h1,U]
end
section
variable {f:List Ex} {a1 a2 a3 a4 a5 a6 a7 a8:Int} {b0 b1 b2:List V}
theorem ajf (hn:f.length≤1000000) (hf: ∀k∈f,k.Ok): ∀(ax pre acc:List Ex),f=pre++ax→acc.length≤pre.length→(∀k∈acc,k.Ok)→
  Loop (yT CC ((f.map enc).length:Int) a1 a2 a3 a4 a5 a6 a7 a8 b0 (f.map enc) b1 b2) (((pre.length:Nat):Int),acc.map enc)=
   some (if ax.any univ=true then .inl () else .inr (((f.map enc).length:Int),false,((ax.filter fun k=>decide (k.op≠1)).foldl dX acc).map enc)):=by
 intro ax
 induction ax with
 | nil=>
  intro pre acc e _ _
  rw[cR] at e
  subst e
  refine aS ?_
  simp only[yT,yS,un,aL]
  rw[az,ai (by omega),b7 (by omega)]
  simp
 | cons k ax ih=>
  intro pre acc e ha au
  have kN:k∈f:=by rw[e];simp
  have aN:pre.length<f.length:=by rw[e];simp
  have hg:(f.map enc)[pre.length]? =some k.enc:=by rw[e];simp
  have t1:((pre.length:Nat):Int)<(f.length:Int):=by omega
  have t2:(0:Int)≤((pre.length:Nat):Int):=by omega
  have cu:=NQ k
  have ci:=WS au (hf k kN) (by omega)
  cases hu:univ k with
  | true=>
   rw[hu] at cu
   rw[aj (by simp[hu])]
   refine aS ?_
   simp only[yT,yS,un,aL,cY,az,Int.toNat_natCast,t1,t2,cO,hg,Option.bind_some,aW,bc,a9]
   refine (congrArg (fun o=>Option.bind o _) cu).trans ?_
   rfl
  | false=>
   rw[hu] at cu
   have bQ:yT CC ((f.map enc).length:Int) a1 a2 a3 a4 a5 a6 a7 a8 b0 (f.map enc) b1 b2 (((pre.length:Nat):Int),acc.map enc)=some (.inl (((pre.length+1:Nat):Int),(if k.op=1 then acc else dX acc k).map enc)):=by
    simp only[yT,yS,un,aL,cY,az,Int.toNat_natCast,t1,t2,cO,hg,Option.bind_some,aW,bc,a9]
    refine (congrArg (fun o=>Option.bind o _) cu).trans ?_
    simp only[Option.bind_some,V.aT,V.ee,cond_false,sM]
    rw[wrap64 (by omega) (by omega)]
    by_cases U:k.op=1
    ·rw[aj U,aj U];rfl
    ·rw[ai U,ai U]
     refine (congrArg (fun o=>Option.bind o _) ci).trans ?_
     simp only[Option.bind_some,V.aT,V.kO]
     rfl
   rw[bJ bQ]
   have sr:=Te acc k
   have:=ih (pre++[k]) (if k.op=1 then acc else dX acc k) (by simp[e]) (by rw[bZ,List.length_singleton];split<;>omega) (by split;exact au;exact Tf au (hf k kN))
   rw[bZ,List.length_singleton] at this
   rw[this]
   congr 1
   by_cases U:k.op=1
   ·simp[hu,U]
   ·simp[hu,U]
theorem ajg (hn:f.length≤1000000) (hf: ∀k∈f,k.Ok): ∀(ax pre acc:List Ex),f=pre++ax→acc.length≤pre.length→(∀k∈acc,k.Ok)→
  Loop (yV CC ((f.map enc).length:Int) a1 a2 a3 a4 b0 a5 a6 a7 a8 (f.map enc) b1 b2) (((pre.length:Nat):Int),acc.map enc)=
   some (if ax.any (fun k=>decide (k.op=1))=true then .inl () else .inr (((f.map enc).length:Int),false,((ax.filter fun k=> !(univ k)).foldl dX acc).map enc)):=by
 intro ax
 induction ax with
 | nil=>
  intro pre acc e _ _
  rw[cR] at e
  subst e
  refine aS ?_
  simp only[yV,yU,un,aL]
  rw[az,ai (by omega),b7 (by omega)]
  simp
 | cons k ax ih=>
  intro pre acc e ha au
  have kN:k∈f:=by rw[e];simp
  have aN:pre.length<f.length:=by rw[e];simp
  have hg:(f.map enc)[pre.length]? =some k.enc:=by rw[e];simp
  have t1:((pre.length:Nat):Int)<(f.length:Int):=by omega
  have t2:(0:Int)≤((pre.length:Nat):Int):=by omega
  have cu:=NQ k
  have ci:=WS au (hf k kN) (by omega)
  by_cases h1:k.op=1
  ·rw[aj (by simp[h1])]
   refine aS ?_
   simp only[yV,yU,un,aL,cY,az,df,Int.toNat_natCast,t1,t2,cO,hg,Option.bind_some,aW,h1]
  ·have bQ:yV CC ((f.map enc).length:Int) a1 a2 a3 a4 b0 a5 a6 a7 a8 (f.map enc) b1 b2 (((pre.length:Nat):Int),acc.map enc)=some (.inl (((pre.length+1:Nat):Int),(if univ k=true then acc else dX acc k).map enc)):=by
    simp only[yV,yU,un,aL,cY,az,df,Int.toNat_natCast,t1,t2,cO,hg,Option.bind_some,aW,bc,a9]
    rw[ai h1]
    refine (congrArg (fun o=>Option.bind o _) cu).trans ?_
    simp only[Option.bind_some,V.aT,V.ee,ig]
    rw[wrap64 (by omega) (by omega)]
    cases hu:univ k with
    | true=>rw[cond_true,aj rfl];rfl
    | false=>
     rw[cond_false,ai (by simp)]
     refine (congrArg (fun o=>Option.bind o _) ci).trans ?_
     simp only[Option.bind_some,V.aT,V.kO]
     rfl
   rw[bJ bQ]
   have sr:=Te acc k
   have:=ih (pre++[k]) (if univ k=true then acc else dX acc k) (by simp[e]) (by rw[bZ,List.length_singleton];split<;>omega) (by split;exact au;exact Tf au (hf k kN))
   rw[bZ,List.length_singleton] at this
   rw[this]
   congr 1
   cases hu:univ k<;>simp[h1,hu]
end
theorem ajh {ks:List Ex} {a b c d:Int} {l1 l2:List V} (hn:ks.length≤1000000) (ih: ∀k∈ks,CC uQ (bS k [])=some (eJ (aH k))):
  ∀(ax pre:List Ex),ks=pre++ax→∃t,Loop (Hw CC (ks.map enc) ((ks.map enc).length:Int) a b l1 c d l2) (((pre.length:Nat):Int),(pre.map aH).map enc)=some (((ks.map enc).length:Int),t,(ks.map aH).map enc):=by
 intro ax
 induction ax with
 | nil=>
  intro pre e
  rw[cR] at e
  subst e
  refine ⟨false,aS ?_⟩
  simp only[Hw,CO,un,aL]
  rw[az,ai (by omega),b7 (by omega)]
 | cons k ax dW=>
  intro pre e
  have bU:pre.length<ks.length:=by rw[e];simp
  have bI:idx (ks.map enc) (pre.length:Int)=some k.enc:=by rw[e];exact ga _ _ _
  obtain ⟨t,ht⟩:=dW (pre++[k]) (by simp[e])
  refine ⟨t,(bJ ?_).trans ht⟩
  simp only[Hw,CO,un,aL]
  rw[az,aj (by omega),bI]
  simp only[Option.bind_some,aW,bc,a9]
  refine bs (ih k (by rw[e];simp)) ?_
  refine bT (by simp only[cV,gz,aL,List.length_singleton];omega) ?_
  rw[wrap64 (by omega) (by omega)]
  show some (Sum.inl _)=some (Sum.inl _)
  refine congrArg (fun x=>some (Sum.inl x)) (Prod.ext ?_ ?_)
  ·simp
  ·simp only[eh,cy,fD]
   rw[dg (aH k)];rfl
theorem NT {op z:Int} {r:List Ex} {lz:List V} {e:Ex} (he:eJ e=[.int .i64 z,.int .i64 0,.list aa lz]):
  (bif (((r.map enc).length:Int):Int)==0 then some [V.int .i64 z,V.int .i64 0,V.list aa lz] else bif (((r.map enc).length:Int):Int)==1 then ((r.map enc)[0]?).bind fun x=>some [V.int .i64 ((x.cell 0).toInt),V.int .i64 ((x.cell 1).toInt),V.list aa ((x.cell 2).toList)] else some [V.int .i64 op,V.int .i64 0,V.list aa (r.map enc)])=some (eJ (il op r e)):=by
 simp only[df,aL]
 match r with
 | []=>rw[aj (by simp),←he];rfl
 | [k]=>rw[ai (by simp),aj (by simp)];simp[il,eJ,aW,bc,a9]
 | k::k2::r=>
  rw[ai (by simp only[List.length_cons];omega),ai (by simp only[List.length_cons];omega)]
  rfl
theorem W4 {n:Int} (hn:n≤6): ∀e:Ex,e.wf n=true→e.size≤1000000→CC uQ (bS e [])=some (eJ (aH e)):=
 ind fun o l ks ih hw hs=>by
  obtain ⟨h1,U⟩:=gS hw
  have hl:=kU ks
  simp only[size] at hs
  have h3:=eO h1
  refine ajd ?_
  unfold W3
  obtain ⟨t,ht⟩:=ajh (a:=o) (b:=l) (c:=0) (d:=0) (l1:=ks.map enc) (l2:=[]) (ks:=ks) (by omega) (fun k hk=>ih k hk (U k hk) (by have:=s0 hk;omega)) ks [] rfl
  refine bs ht ?_
  have hg: ∀k∈ks.map aH,Gd n k:=fun x hx=>by
   obtain ⟨k,hk,rfl⟩:=gH.1 hx
   exact mj k (U k hk)
  have hz:aJ (ks.map aH)≤aJ ks:=by
   clear ht h3 h1 hw ih hl hs hg
   induction ks with
   | nil=>simp[aJ]
   | cons k ks ih=>have a:=xX k (U k (by simp));have b:=ih fun k hk=>U k (by simp[hk]);simp only[cy,aJ];omega
  have au: ∀k∈ks.map aH,k.Ok:=fun k hk=>m8 hn k (hg k hk).2 (by have:=s0 hk;omega)
  have hlen:(ks.map aH).length=ks.length:=by simp
  rw[mi]
  simp only[un,Ex.op,Ex.bx,Ex.kids]
  generalize ks.map aH=ns at*
  have jQ:=kU ns
  rcases h3 with ⟨rfl,h4,_⟩|⟨rfl,⟨rfl,h4⟩|⟨rfl,h4⟩|⟨rfl,h4⟩|⟨rfl,h4⟩|⟨rfl,h4⟩|⟨rfl,h4⟩|⟨rfl,h4⟩⟩
  ·obtain rfl:ns=[]:=mA.1 (by omega)
   rw[kg (by omega)]
   exact bF rfl (bF rfl (bF rfl (bF rfl (bF rfl rfl))))
  ·obtain rfl:ns=[]:=mA.1 (by omega)
   rw[kg (by omega)]
   exact bF rfl (bF rfl (bF rfl (bF rfl (bF rfl rfl))))
  ·obtain rfl:ns=[]:=mA.1 (by omega)
   rw[kg (by omega)]
   exact bF rfl (bF rfl (bF rfl (bF rfl (bF rfl rfl))))
  ·refine bF rfl (bF rfl (bF rfl (bT rfl ?_)))
   have a1:=rB 4 ns
   have a2:=kU (bp 4 ns)
   refine bs (NR (by omega) (by omega)) ?_
   refine bs (ajf (by omega) (GW au) (bp 4 ns) [] [] rfl (b9 _) (by simp)) ?_
   rw[vd]
   cases (bp 4 ns).any univ with
   | true=>simp only[cO];rfl
   | false=>
    simp only[zi,fB]
    exact NT rfl
  ·refine bF rfl (bF rfl (bT rfl ?_))
   have a1:=rB 5 ns
   have a2:=kU (bp 5 ns)
   refine bs (NR (by omega) (by omega)) ?_
   refine bs (aje (by omega) (bp 5 ns) [] [] rfl (b9 _)) ?_
   rw[s4]
   cases (bp 5 ns).any (fun k=>decide (k.op=1)) with
   | true=>simp only[cO];rfl
   | false=>
    simp only[zi,fB,List.nil_append]
    exact NT rfl
  ·refine bF rfl (bF rfl (bF rfl (bF rfl (bT rfl ?_))))
   have a1:=rB 6 ns
   have a2:=kU (bp 6 ns)
   refine bs (NR (by omega) (by omega)) ?_
   refine bs (ajg (by omega) (GW au) (bp 6 ns) [] [] rfl (b9 _) (by simp)) ?_
   rw[xT]
   cases (bp 6 ns).any (fun k=>decide (k.op=1)) with
   | true=>simp only[cO];rfl
   | false=>
    simp only[zi,fB]
    refine NT ?_
    simp[eJ,jt,et,Ex.op,Ex.bx,Ex.kids,dg]
  ·match ns,(show ns.length=1 by omega) with
   | [k],_=>
    refine bF rfl (bT rfl (bT rfl (bs (a:=k.enc) rfl ?_)))
    rw[xU,aW,bc,a9,df,df,df]
    by_cases h1:k.op=1
    ·rw[aj h1,aj (.inl h1)];rfl
    ·rw[ai h1]
     by_cases U:k.op=2
     ·rw[aj U,aj (.inr U)];rfl
     ·rw[ai U,ai (show¬(k.op=1∨k.op=2) by omega)]
      by_cases h7:k.op=7
      ·rw[aj h7,aj (.inl h7)];rfl
      ·rw[ai h7]
       refine bs (NQ k) ?_
       cases hu:univ k with
       | true=>rw[aj (.inr rfl)];exact bT rfl rfl
       | false=>
        rw[ai (by rintro (h|h);exact h7 h;cases h)]
        exact bF rfl rfl
  ·match ns,(show ns.length=1 by omega) with
   | [k],_=>
    refine bT rfl (bT rfl (bs (a:=k.enc) rfl ?_))
    rw[xV,aW,df]
    by_cases h8:k.op=8
    ·rw[aj h8,aj h8]
     have hs:=eO (hg k (by simp)).shape
     obtain ⟨o2,l2,jM⟩:=k
     simp only[Ex.op,Ex.kids,Ex.bx] at*
     match jM,(show (jM.length:Int)=1 by omega) with
     | [x],_=>
      refine bT (by simp) (bs (a:=_) rfl (bs (a:=x.enc) (by rw[a9];rfl) ?_))
      rw[aW,bc,a9];rfl
    ·rw[ai h8,ai h8];rfl
end Go.AM
set_option maxRecDepth 100000
namespace Go.AM
open Go.Proofs
noncomputable def W5 (C:ag) (op:Int) (l:List V):Option (List V):=
 bif ((l.length:Int):Int)==1 then
  (l[0]?).bind fun x1=>
  some [.int .i64 ((x1.cell 0).toInt),.int .i64 ((x1.cell 1).toInt),.list aa ((x1.cell 2).toList)]
 else
  some [.int .i64 op,.int .i64 0,.list aa l]
theorem aji {op:Int} {l:List V} {r:Option (List V)} (h:W5 CC op l=r):CC uS [.int .i64 op,.list aa l]=r:=
 bh (key:=71) (L:=cw) (bs:=[]) (by kernel_rfl) aw (bd (by kernel_rfl) h)
noncomputable abbrev HD:Code:=cF Try.prog (ay.aV 51)
noncomputable def CT (C:ag) (bx:Int) (t28:List V) (t29 ew ey eX dS:Int) (dq:List V) (t30:Int) (bt:List V) {β:Type} (kn:(Int × (List V))→Option β) (kr:(Int × Bool × (List V))→Option β):Option β:=
 bif decide ((t30:Int)<t29) then
  (idx t28 t30).bind fun x1=>
  (C o5 [.int .i64 ((x1.cell 0).toInt),.int .i64 ((x1.cell 1).toInt),.list aa ((x1.cell 2).toList),.int .i64 bx]).bind fun r2=>
  bif Nat.ble ((bt.length+([.agg [.int .i64 ((V.nth r2 0).toInt),.int .i64 ((V.nth (r2.drop 1) 0).toInt),.list aa ((V.nth ((r2.drop 1).drop 1) 0).toList)]]:List V).length)*40) bP then
  kn (IntKind.wrap .i64 (t30+1),bt++([.agg [.int .i64 ((V.nth r2 0).toInt),.int .i64 ((V.nth (r2.drop 1) 0).toInt),.list aa ((V.nth ((r2.drop 1).drop 1) 0).toList)]]:List V))
  else none
 else
  kr (t30,decide ((t30:Int)<t29),bt)
noncomputable def yX (C:ag) (bx:Int) (t28:List V) (t29 ew ey eX dS:Int) (dq:List V):(Int × (List V))→Option ((Int × (List V)) ⊕ (Int × Bool × (List V))):=un fun t30 bt=>CT C bx t28 t29 ew ey eX dS dq t30 bt (fun y=>some (.inl y)) (fun r=>some (.inr r))
noncomputable def CU (C:ag) (bx:Int) (t58:List V) (t59 dt da:Int) (cD:List V) (ew ey:Int) (bt:List V) (t60:Int) (yY:List V) {β:Type} (kn:(Int × (List V))→Option β) (kr:(Int × (List V))→Option β):Option β:=
 bif decide ((t60:Int)<t59) then
  (idx t58 t60).bind fun x8=>
  (C o5 [.int .i64 ((x8.cell 0).toInt),.int .i64 ((x8.cell 1).toInt),.list aa ((x8.cell 2).toList),.int .i64 bx]).bind fun r9=>
  bif (decide (0≤(IntKind.wrap .i64 (t60+1))))&&(decide ((IntKind.wrap .i64 (t60+1))≤(cD.length:Int))) then
  bif Nat.ble ((([.agg [.int .i64 ((V.nth r9 0).toInt),.int .i64 ((V.nth (r9.drop 1) 0).toInt),.list aa ((V.nth ((r9.drop 1).drop 1) 0).toList)]]:List V).length+((cD.drop ((IntKind.wrap .i64 (t60+1):Int).toNat)).take (cD.length-((IntKind.wrap .i64 (t60+1):Int).toNat))).length)*40) bP then
   (C uS [.int .i64 5,.list aa (([.agg [.int .i64 ((V.nth r9 0).toInt),.int .i64 ((V.nth (r9.drop 1) 0).toInt),.list aa ((V.nth ((r9.drop 1).drop 1) 0).toList)]]:List V)++((cD.drop ((IntKind.wrap .i64 (t60+1):Int).toNat)).take (cD.length-((IntKind.wrap .i64 (t60+1):Int).toNat))))]).bind fun cN=>
   bif Nat.ble ((yY.length+([.agg [.int .i64 ((V.nth cN 0).toInt),.int .i64 ((V.nth (cN.drop 1) 0).toInt),.list aa ((V.nth ((cN.drop 1).drop 1) 0).toList)]]:List V).length)*40) bP then
   (C xm [.int .i64 ((x8.cell 0).toInt),.int .i64 ((x8.cell 1).toInt),.list aa ((x8.cell 2).toList)]).bind fun eu=>
   bif !((V.nth eu 0).toBool) then
    kr (t60,yY++([.agg [.int .i64 ((V.nth cN 0).toInt),.int .i64 ((V.nth (cN.drop 1) 0).toInt),.list aa ((V.nth ((cN.drop 1).drop 1) 0).toList)]]:List V))
   else
    kn (IntKind.wrap .i64 (t60+1),yY++([.agg [.int .i64 ((V.nth cN 0).toInt),.int .i64 ((V.nth (cN.drop 1) 0).toInt),.list aa ((V.nth ((cN.drop 1).drop 1) 0).toList)]]:List V))
   else none
  else none
  else none
 else
  kr (t60,yY)
noncomputable def vK (C:ag) (bx:Int) (t58:List V) (t59 dt da:Int) (cD:List V) (ew ey:Int) (bt:List V):(Int × (List V))→Option ((Int × (List V)) ⊕ (Int × (List V))):=un fun t60 yY=>CU C bx t58 t59 dt da cD ew ey bt t60 yY (fun y=>some (.inl y)) (fun r=>some (.inr r))
noncomputable def W6 (C:ag):ct:=fun β n ds k=>
 bif Nat.beq n 161 then bW KU [false,false,false,true,false,false,false,false,false,true] [[1,2,3,0,0,5,6,7,8,9,0]] (@CT C) ds k else
 bif Nat.beq n 321 then bW KV [false,false,false,true,false,false,false,false,false,true,false] [[1,2,3,0,5,6,7,8,9,0,11]] (@CU C) ds k else
 none
abbrev W7 (C:ag) (b:cq):Prop:=cr Try.prog ay C (W6 C) 51 (cK Try.prog (ay.aV 51)) (ay.sin 51).bj.length b
theorem ajj (C:ag):W7 C (.loop (av [1,0,1,0,1,1,1,0,1,0,1,0,0] HD)):=
 bY KU [false,false,false,true,false,false,false,false,false,true] [[1,2,3,0,0,5,6,7,8,9,0]] (@CT C) (by kernel_rfl) (aZ (bs:=[]) (by kernel_rfl) aw) (fun ds=>by kernel_rfl) (fun i x=>by kernel_rfl) (fun i x β k=>by kernel_rfl) (fun β ds k=>by kernel_rfl)
theorem ajk (C:ag):W7 C (.loop (av [1,0,1,0,1,1,1,1,1,1,1,0,1,0,1,0,0] HD)):=
 bY KV [false,false,false,true,false,false,false,false,false,true,false] [[1,2,3,0,5,6,7,8,9,0,11]] (@CU C) (by kernel_rfl) (aZ (bs:=[]) (by kernel_rfl) aw) (fun ds=>by kernel_rfl) (fun i x=>by kernel_rfl) (fun i x β k=>by kernel_rfl) (fun β ds k=>by kernel_rfl)
noncomputable def W8 (C:ag) (ah aq:Int) (af:List V) (bx:Int):Option (List V):=
 bif (ah:Int)==3 then
  bif (aq:Int)==bx then
  some [.int .i64 2,.int .i64 0,.list aa ([]:List V)]
  else
  some [.int .i64 1,.int .i64 0,.list aa ([]:List V)]
 else
  bif (ah:Int)==4 then
  bif (ah:Int)==4 then
   (Loop (yX C bx af (af.length:Int) 0 0 ah 0 ([]:List V)) (0,([]:List V))).bind (un fun (jr:Int)=>un fun (j7:Bool) (NK:List V)=>
    some [.int .i64 ah,.int .i64 0,.list aa NK])
  else
   bif (ah:Int)==7 then
   (af[0]?).bind fun x6=>
   (C o5 [.int .i64 ((x6.cell 0).toInt),.int .i64 ((x6.cell 1).toInt),.list aa ((x6.cell 2).toList),.int .i64 bx]).bind fun r7=>
   some [.int .i64 5,.int .i64 0,.list aa ([.agg [.int .i64 ((V.nth r7 0).toInt),.int .i64 ((V.nth (r7.drop 1) 0).toInt),.list aa ((V.nth ((r7.drop 1).drop 1) 0).toList)],.agg [.int .i64 ah,.int .i64 aq,.list aa af]]:List V)]
   else
   bif (ah:Int)==5 then
    (Loop (vK C bx af (af.length:Int) ah aq af 0 0 ([]:List V)) (0,([]:List V))).bind (un fun (Ga:Int) (ajl:List V)=>
     (C uS [.int .i64 4,.list aa ajl]).bind fun kb=>
     some [.int .i64 ((V.nth kb 0).toInt),.int .i64 ((V.nth (kb.drop 1) 0).toInt),.list aa ((V.nth ((kb.drop 1).drop 1) 0).toList)])
   else
    some [.int .i64 1,.int .i64 0,.list aa ([]:List V)]
  else
  bif (ah:Int)==6 then
   bif (ah:Int)==6 then
   (Loop (yX C bx af (af.length:Int) 0 0 ah 0 ([]:List V)) (0,([]:List V))).bind (un fun (p8:Int)=>un fun (xK:Bool) (CD:List V)=>
    some [.int .i64 ah,.int .i64 0,.list aa CD])
   else
   bif (ah:Int)==7 then
    (af[0]?).bind fun jL=>
    (C o5 [.int .i64 ((jL.cell 0).toInt),.int .i64 ((jL.cell 1).toInt),.list aa ((jL.cell 2).toList),.int .i64 bx]).bind fun dO=>
    some [.int .i64 5,.int .i64 0,.list aa ([.agg [.int .i64 ((V.nth dO 0).toInt),.int .i64 ((V.nth (dO.drop 1) 0).toInt),.list aa ((V.nth ((dO.drop 1).drop 1) 0).toList)],.agg [.int .i64 ah,.int .i64 aq,.list aa af]]:List V)]
   else
    bif (ah:Int)==5 then
    (Loop (vK C bx af (af.length:Int) ah aq af 0 0 ([]:List V)) (0,([]:List V))).bind (un fun (L4:Int) (ajm:List V)=>
     (C uS [.int .i64 4,.list aa ajm]).bind fun iO=>
     some [.int .i64 ((V.nth iO 0).toInt),.int .i64 ((V.nth (iO.drop 1) 0).toInt),.list aa ((V.nth ((iO.drop 1).drop 1) 0).toList)])
    else
    some [.int .i64 1,.int .i64 0,.list aa ([]:List V)]
  else
   bif (ah:Int)==8 then
   (Loop (yX C bx af (af.length:Int) 0 0 ah 0 ([]:List V)) (0,([]:List V))).bind (un fun (L5:Int)=>un fun (Gf:Bool) (ajn:List V)=>
    some [.int .i64 ah,.int .i64 0,.list aa ajn])
   else
   bif (ah:Int)==7 then
    (af[0]?).bind fun oh=>
    (C o5 [.int .i64 ((oh.cell 0).toInt),.int .i64 ((oh.cell 1).toInt),.list aa ((oh.cell 2).toList),.int .i64 bx]).bind fun CS=>
    some [.int .i64 5,.int .i64 0,.list aa ([.agg [.int .i64 ((V.nth CS 0).toInt),.int .i64 ((V.nth (CS.drop 1) 0).toInt),.list aa ((V.nth ((CS.drop 1).drop 1) 0).toList)],.agg [.int .i64 ah,.int .i64 aq,.list aa af]]:List V)]
   else
    bif (ah:Int)==5 then
    (Loop (vK C bx af (af.length:Int) ah aq af 0 0 ([]:List V)) (0,([]:List V))).bind (un fun (abZ:Int) (ajo:List V)=>
     (C uS [.int .i64 4,.list aa ajo]).bind fun s8=>
     some [.int .i64 ((V.nth s8 0).toInt),.int .i64 ((V.nth (s8.drop 1) 0).toInt),.list aa ((V.nth ((s8.drop 1).drop 1) 0).toList)])
    else
    some [.int .i64 1,.int .i64 0,.list aa ([]:List V)]
theorem ajp {ah aq:Int} {af:List V} {bx:Int} {r:Option (List V)} (h:W8 CC ah aq af bx=r):CC o5 [.int .i64 ah,.int .i64 aq,.list aa af,.int .i64 bx]=r:=
 bh (key:=51) (L:=W6 CC) (bs:=[.loop (av [1,0,1,0,1,1,1,0,1,0,1,0,0] HD),.loop (av [1,0,1,0,1,1,1,1,1,1,1,0,1,0,1,0,0] HD)]) (by kernel_rfl) (bu (ajj CC) (bu (ajk CC) aw)) (bd (by kernel_rfl) h)
noncomputable def W9 (C:ag) (ah aq:Int) (af:List V) (bx:Int):Option (List V):=
 (C xf [.int .i64 ah,.int .i64 aq,.list aa af,.int .i64 6]).bind fun r1=>
 bif (((V.nth r1 0).toInt):Int) != 0 then
  some [.int .i64 0,.int .i64 0,.list aa ([]:List V),.int .i64 ((V.nth r1 0).toInt)]
 else
  bif decide ((bx:Int)<0) then
  some [.int .i64 0,.int .i64 0,.list aa ([]:List V),.int .i64 1]
  else
  bif decide ((bx:Int)≥6) then
   some [.int .i64 0,.int .i64 0,.list aa ([]:List V),.int .i64 1]
  else
   (C o5 [.int .i64 ah,.int .i64 aq,.list aa af,.int .i64 bx]).bind fun r2=>
   (C uQ [.int .i64 ((V.nth r2 0).toInt),.int .i64 ((V.nth (r2.drop 1) 0).toInt),.list aa ((V.nth ((r2.drop 1).drop 1) 0).toList)]).bind fun r3=>
   (C AR [.int .i64 ((V.nth r3 0).toInt),.int .i64 ((V.nth (r3.drop 1) 0).toInt),.list aa ((V.nth ((r3.drop 1).drop 1) 0).toList)]).bind fun r4=>
   bif !((V.nth r4 0).toBool) then
   some [.int .i64 0,.int .i64 0,.list aa ([]:List V),.int .i64 3]
   else
   some [.int .i64 ((V.nth r3 0).toInt),.int .i64 ((V.nth (r3.drop 1) 0).toInt),.list aa ((V.nth ((r3.drop 1).drop 1) 0).toList),.int .i64 0]
theorem ajq {ah aq:Int} {af:List V} {bx:Int} {r:Option (List V)} (h:W9 CC ah aq af bx=r):CC Fl [.int .i64 ah,.int .i64 aq,.list aa af,.int .i64 bx]=r:=
 bh (key:=26) (L:=cw) (bs:=[]) (by kernel_rfl) aw (bd (by kernel_rfl) h)
end Go.AM
set_option maxRecDepth 100000
namespace Go.AM
open Go.Proofs Ex
theorem Xa {o:Int} {l:List Ex}:CC uS [.int .i64 o,.list aa (l.map enc)]=some (eJ (oneOf o l)):=by
 refine aji ?_
 unfold W5
 match l with
 | []=>exact bF rfl rfl
 | [k]=>
  refine bT rfl (bs (a:=k.enc) rfl ?_)
  rw[aW,bc,a9];rfl
 | k::k2::l=>
  refine bF ?_ rfl
  simp only[cy,List.length_cons]
  rw[tz];omega
section
variable {c:Int} {ks:List Ex} (hn:ks.length≤1000) (ih: ∀k∈ks,CC o5 (bS k [.int .i64 c])=some (eJ (bH c k)))
include hn ih
theorem NU {a b x y:Int} {l:List V}: ∀(ax pre:List Ex),ks=pre++ax→
  Loop (yX CC c (ks.map enc) (ks.length:Int) a b x y l) (((pre.length:Nat):Int),(pre.map (bH c)).map enc)=some ((ks.length:Int),false,(ks.map (bH c)).map enc):=by
 intro ax
 induction ax with
 | nil=>
  intro pre e
  rw[cR] at e
  subst e
  refine aS ?_
  simp only[yX,CT,un]
  rw[az,ai (by omega),b7 (by omega)]
 | cons k ax dW=>
  intro pre e
  have bU:pre.length<ks.length:=by rw[e];simp
  have bI:idx (ks.map enc) (pre.length:Int)=some k.enc:=by rw[e];exact ga _ _ _
  refine (bJ ?_).trans (dW (pre++[k]) (by simp[e]))
  simp only[yX,CT,un]
  refine bT (lE bU) (bs bI ?_)
  rw[aW,bc,a9]
  refine bs (ih k (by rw[e];simp)) ?_
  refine bT (yI (by simp;omega)) ?_
  rw[jx (by omega)]
  simp only[eh,cy,fD,bZ,List.length_cons,List.length_nil]
  rw[dg (bH c k)]
  rfl
theorem ajr {a b x y:Int} {l:List V} (hw: ∀k∈ks,k.Ok): ∀(ax pre S:List Ex),ks=pre++ax→S.length≤pre.length→
  ∃i,Loop (vK CC c (ks.map enc) (ks.length:Int) a b (ks.map enc) x y l) (((pre.length:Nat):Int),S.map enc)=some (i,(S++iq c ax).map enc):=by
 intro ax
 induction ax with
 | nil=>
  intro pre S e hS
  rw[cR] at e
  subst e
  refine ⟨((ks.length:Nat):Int),aS ?_⟩
  simp only[vK,CU,un]
  rw[az,ai (by omega),iq,cR]
 | cons k ax dW=>
  intro pre S e hS
  have bU:pre.length<ks.length:=by rw[e];simp
  have hm:k∈ks:=by rw[e];simp
  have bI:idx (ks.map enc) (pre.length:Int)=some k.enc:=by rw[e];exact ga _ _ _
  have di: ∀{β:Type} (r:Option β) (K:V→Option β),K=K→True:=fun _ _ _=>trivial
  have hd:((ks.map enc).drop (pre.length+1)).take ((ks.map enc).length-(pre.length+1))=ax.map enc:=by
   rw[zj (by simp),←List.map_drop,e,show pre.length+1=(pre++[k]).length by simp,show pre++k::ax=(pre++[k])++ax by simp,List.drop_left]
  have main:vK CC c (ks.map enc) (ks.length:Int) a b (ks.map enc) x y l (((pre.length:Nat):Int),S.map enc)=some (if k.cH=true then .inl ((((pre++[k]).length:Nat):Int),(S++[oneOf 5 (bH c k::ax)]).map enc) else .inr (((pre.length:Nat):Int),(S++[oneOf 5 (bH c k::ax)]).map enc)):=by
   simp only[vK,CU,un]
   refine bT (lE bU) (bs bI ?_)
   rw[aW,bc,a9]
   refine bs (ih k hm) ?_
   rw[jx (by omega),Int.toNat_natCast,hd]
   refine bT (tF.2 ⟨dr (by omega),dr (by rw[aL];omega)⟩) ?_
   have pN:ax.length≤1000:=by rw[e] at hn;simp at hn;omega
   refine bT (yI (by simp;omega)) ?_
   have hj:=Xa (o:=5) (l:=bH c k::ax)
   rw[cy,dg (bH c k)] at hj
   refine bs hj ?_
   refine bT (yI (by simp;omega)) ?_
   refine bs (WI k (hw k hm)) ?_
   have hr:S.map enc++[(oneOf 5 (bH c k::ax)).enc]=(S++[oneOf 5 (bH c k::ax)]).map enc:=by simp
   rw[dg] at hr
   cases hk:k.cH with
   | true=>
    refine bF (by simp[hk]) ?_
    rw[aj rfl,←hr,bZ]
    rfl
   | false=>
    refine bT (by simp[hk]) ?_
    rw[ai Dl,←hr]
    rfl
  cases hk:k.cH with
  | true=>
   rw[hk,aj rfl] at main
   obtain ⟨i,hi⟩:=dW (pre++[k]) (S++[oneOf 5 (bH c k::ax)]) (by simp[e]) (by simp;omega)
   refine ⟨i,(bJ main).trans (hi.trans ?_)⟩
   rw[yG,aj hk,cx];rfl
  | false=>
   rw[hk,ai Dl] at main
   refine ⟨((pre.length:Nat):Int),(aS main).trans ?_⟩
   rw[yG,ai (by rw[hk];exact Dl)]
end
theorem ajs {c:Int}: ∀e:Ex,e.wf 6=true→e.size≤400→CC o5 (bS e [.int .i64 c])=some (eJ (bH c e)):=
 ind fun o l ks ih hw hs=>by
  obtain ⟨h1,U⟩:=gS hw
  have hl:=kU ks
  have G8:aJ ks≤399:=by simp only[size] at hs;omega
  have vF: ∀k∈ks,k.size≤399:=fun k hk=>lI (s0 hk) G8
  have hX: ∀k∈ks,CC o5 (bS k [.int .i64 c])=some (eJ (bH c k)):=fun k hk=>ih k hk (U k hk) (by have:=vF k hk;omega)
  have au: ∀k∈ks,k.Ok:=fun k hk=>m8 (by omega) k (U k hk) (by have:=vF k hk;omega)
  refine ajp ?_
  unfold W8
  simp only[Ex.op,Ex.kids,Ex.bx,aL]
  rcases eO h1 with ⟨rfl,h⟩|⟨rfl,⟨rfl,h⟩|⟨rfl,h⟩|⟨rfl,h⟩|⟨rfl,h⟩|⟨rfl,h⟩|⟨rfl,h⟩|⟨rfl,h⟩⟩
  ·refine bT rfl ?_
   rw[ov,aj rfl,df]
   by_cases oX:l=c
   ·rw[aj oX,aj oX];rfl
   ·rw[ai oX,ai oX];rfl
  ·rfl
  ·rfl
  ·refine bF rfl (bT rfl (bT rfl ?_))
   refine bs (NU (by omega) hX ks [] rfl) ?_
   rw[ov];rfl
  ·refine bF rfl (bF rfl (bF rfl (bF rfl (bF rfl (bT rfl ?_)))))
   obtain ⟨i,hi⟩:=ajr (a:=5) (b:=0) (x:=0) (y:=0) (l:=[]) (by omega) hX au ks [] [] rfl (b9 _)
   refine bs hi ?_
   rw[ov]
   refine bs Xa ?_
   rfl
  ·refine bF rfl (bF rfl (bT rfl (bT rfl ?_)))
   refine bs (NU (by omega) hX ks [] rfl) ?_
   rw[ov];rfl
  ·obtain ⟨k,rfl⟩:=vQ.1 (show ks.length=1 by omega)
   refine bF rfl (bF rfl (bF rfl (bF rfl (bT rfl (bs (a:=k.enc) rfl ?_)))))
   rw[aW,bc,a9]
   refine bs (hX k (by simp)) ?_
   have hr:eJ (bH c (.node 7 0 [k]))=[.int .i64 5,.int .i64 0,.list aa [(bH c k).enc,(Ex.node 7 0 [k]).enc]]:=by rw[ov];rfl
   rw[hr,dg (bH c k),dg (.node 7 0 [k])]
   rfl
  ·refine bF rfl (bF rfl (bF rfl (bT rfl ?_)))
   refine bs (NU (by omega) hX ks [] rfl) ?_
   rw[ov];rfl
theorem Xb {e:Ex} (h:e.wf 6=true):e.val 6=0↔e.depth≤40∧e.size≤400:=by
 constructor
 ·intro hv;have:=lC hv;exact ⟨this.1,this.2.1⟩
 ·intro hv;exact val_mk ⟨by omega,hv.1,hv.2,h⟩
theorem ajt (e:Ex) (h:e.Ok) (c:Int):CC Fl (bS e [.int .i64 c])=some (Np (Nq e c)):=by
 refine ajq ?_
 unfold W9 Nq
 refine bs (L8 e h 6) ?_
 by_cases hv:e.val 6=0
 ·obtain ⟨_,U,h3⟩:=lC hv
  rw[aj hv]
  refine bF (by simp[hv]) ?_
  by_cases h0:0≤c
  ·refine bF (b7 (by omega)) ?_
   by_cases h6:c<6
   ·rw[aj ⟨h0,h6⟩]
    refine bF (b7 (by omega)) ?_
    refine bs (ajs (c:=c) e h3 U) ?_
    have hz:=M6 (c:=c) e 6 h3
    have hq:=Ch U
    obtain ⟨g1,g2,g3⟩:=VP (c:=c) hv
    refine bs (W4 (n:=6) (by omega) (bH c e) (tf e h3) (by omega)) ?_
    refine bs (SO _ g2) ?_
    unfold qh
    by_cases hw:(aH (bH c e)).val 6=0
    ·rw[aj hw]
     refine bF ?_ rfl
     have:=(Xb g1.2).1 hw
     simp[this]
    ·rw[ai hw]
     refine bT ?_ rfl
     have: ¬_:=fun h=>hw ((Xb g1.2).2 h)
     rw[V.aT,V.ee,b7 this]
     rfl
   ·rw[ai fun h=>h6 h.2]
    exact bT (dr (by omega)) rfl
  ·rw[ai fun h=>h0 h.1]
   exact bT (dr (by omega)) rfl
 ·rw[ai hv]
  refine bT (by simp[hv]) rfl
end Go.AM
set_option maxRecDepth 100000
namespace Go.AM
open Go.Proofs
noncomputable def Xc (C:ag) (ah aq:Int) (af:List V) (letters:Int):Option (List V):=
 (C xf [.int .i64 ah,.int .i64 aq,.list aa af,.int .i64 letters]).bind fun r1=>
 bif (((V.nth r1 0).toInt):Int) != 0 then
  some [.int .i64 0,.int .i64 0,.int .i64 ((V.nth r1 0).toInt),.list aa ([]:List V),.list bK ([]:List V)]
 else
  (C uQ [.int .i64 ah,.int .i64 aq,.list aa af]).bind fun r2=>
  some [.int .i64 letters,.int .i64 0,.int .i64 0,.list aa ([.agg [.int .i64 ((V.nth r2 0).toInt),.int .i64 ((V.nth (r2.drop 1) 0).toInt),.list aa ((V.nth ((r2.drop 1).drop 1) 0).toList)]]:List V),.list bK ([]:List V)]
theorem aju {ah aq:Int} {af:List V} {letters:Int} {r:Option (List V)} (h:Xc CC ah aq af letters=r):CC AQ [.int .i64 ah,.int .i64 aq,.list aa af,.int .i64 letters]=r:=
 bh (key:=22) (L:=cw) (bs:=[]) (by kernel_rfl) aw (bd (by kernel_rfl) h)
noncomputable abbrev qj:Code:=cF Try.prog (ay.aV 45)
noncomputable def CV (C:ag) (iv x t61 ew ey eX dS:Int) (rows:List V) (dt da:Int) (cD dD ch cU pj:List V) (yZ t62:Int) {β:Type} (kn:(Int × Int)→Option β) (kr:(Int × Int × Bool)→Option β):Option β:=
 bif decide ((t62:Int)<t61) then
  bif (decide (0≤t62))&&(decide (t62<(cU.length:Int))) then
  (cU[(t62:Int).toNat]?).bind fun x3=>
  (C rr [.int .i64 ((x3.cell 0).toInt),.int .i64 ((x3.cell 1).toInt),.list aa ((x3.cell 2).toList),.int .i64 dt,.int .i64 da,.list aa cD]).bind fun r4=>
  bif (((V.nth r4 0).toInt):Int)==0 then
   kn (t62,IntKind.wrap .i64 (t62+1))
  else
   kn (yZ,IntKind.wrap .i64 (t62+1))
  else none
 else
  kr (yZ,t62,decide ((t62:Int)<t61))
noncomputable def HE (C:ag) (iv x t61 ew ey eX dS:Int) (rows:List V) (dt da:Int) (cD dD ch cU pj:List V):(Int × Int)→Option ((Int × Int) ⊕ (Int × Int × Bool)):=un fun yZ t62=>CV C iv x t61 ew ey eX dS rows dt da cD dD ch cU pj yZ t62 (fun y=>some (.inl y)) (fun r=>some (.inr r))
noncomputable def y4 (C:ag) (iv x yZ:Int) (t76:Bool) (ew ey eX dS:Int) (rows:List V) (dt da:Int) (cD dD ch cU pj:List V) {β:Type} (kr:((Int × Int × Int × (List V) × (List V)) ⊕ (Int × (List V)))→Option β):Option β:=
 bif t76 then
  bif ((cU.length:Int):Int)==512 then
  kr (.inl (3,0,0,([]:List V),([]:List V)))
  else
  bif Nat.ble ((cU.length+([.agg [.int .i64 dt,.int .i64 da,.list aa cD]]:List V).length)*40) bP then
   kr (.inr ((cU.length:Int),cU++([.agg [.int .i64 dt,.int .i64 da,.list aa cD]]:List V)))
  else none
 else
  kr (.inr (yZ,cU))
noncomputable def tw (C:ag) (iv ew ey eX dS:Int) (bt dD cU:List V) (x:Int) (rows ch:List V) {β:Type} (kn:(Int × (List V) × (List V))→Option β) (kr:((Int × Int × Int × (List V) × (List V)) ⊕ (Int × Bool × (List V) × (List V)))→Option β):Option β:=
 bif decide ((x:Int)<eX) then
  bif (decide (0≤dS))&&(decide (dS<(ch.length:Int))) then
  (ch[(dS:Int).toNat]?).bind fun x1=>
  (C Fl [.int .i64 ((x1.cell 0).toInt),.int .i64 ((x1.cell 1).toInt),.list aa ((x1.cell 2).toList),.int .i64 x]).bind fun r2=>
  bif (((V.nth (r2.drop 3) 0).toInt):Int) != 0 then
   kr (.inl ((V.nth (r2.drop 3) 0).toInt,0,0,([]:List V),([]:List V)))
  else
   (Loop (HE C iv x (ch.length:Int) ew ey eX dS rows ((V.nth r2 0).toInt) ((V.nth (r2.drop 1) 0).toInt) ((V.nth ((r2.drop 1).drop 1) 0).toList) bt dD ch cU) ((-1),0)).bind (un fun (Xd:Int)=>un fun (mg:Int) (o8:Bool)=>
    y4 C iv x Xd (decide ((Xd:Int)<0)) ew ey eX dS rows ((V.nth r2 0).toInt) ((V.nth (r2.drop 1) 0).toInt) ((V.nth ((r2.drop 1).drop 1) 0).toList) bt dD ch cU (bV (un fun (F8:Int)=>un fun (ajv:Int)=>un fun (ajw:Int)=>un fun (rR:List V) (vG:List V)=>
     kr (.inl (F8,ajv,ajw,rR,vG))) (un fun (Xe:Int) (Cu:List V)=>
     bif Nat.ble ((rows.length+([.int .i64 Xe]:List V).length)*8) bP then
     kn (IntKind.wrap .i64 (x+1),rows++([.int .i64 Xe]:List V),Cu)
     else none)))
  else none
 else
  kr (.inr (x,decide ((x:Int)<eX),rows,ch))
noncomputable def qk (C:ag) (iv ew ey eX dS:Int) (bt dD cU:List V):(Int × (List V) × (List V))→Option ((Int × (List V) × (List V)) ⊕ ((Int × Int × Int × (List V) × (List V)) ⊕ (Int × Bool × (List V) × (List V)))):=un fun x=>un fun rows ch=>tw C iv ew ey eX dS bt dD cU x rows ch (fun y=>some (.inl y)) (fun r=>some (.inr r))
noncomputable def tx (C:ag) (ew ey eX:Int) (dq bt:List V) (iv dS:Int) (dD ch:List V) {β:Type} (kn:(Int × Int × (List V) × (List V))→Option β) (kr:((Int × Int × Int × (List V) × (List V)) ⊕ (Int × Bool × Int × (List V) × (List V)))→Option β):Option β:=
 bif decide ((iv:Int)>0) then
  bif decide ((dS:Int)<(dD.length:Int)) then
  (Loop (qk C iv ew ey eX dS dq bt ch) (0,([]:List V),dD)).bind (bV (un fun (p8:Int)=>un fun (ajx:Int)=>un fun (ajy:Int)=>un fun (ajz:List V) (CF:List V)=>
   kr (.inl (p8,ajx,ajy,ajz,CF))) (un fun (alY:Int)=>un fun (Bk:Bool)=>un fun (Xf:List V) (ajA:List V)=>
   bif Nat.ble ((ch.length+([.list mc Xf]:List V).length)*24) bP then
    kn (IntKind.wrap .i64 (iv-1),IntKind.wrap .i64 (dS+1),ajA,ch++([.list mc Xf]:List V))
   else none))
  else
  kr (.inr (iv,decide ((dS:Int)<(dD.length:Int)),dS,dD,ch))
 else
  kr (.inr (iv,false,dS,dD,ch))
noncomputable def rU (C:ag) (ew ey eX:Int) (dq bt:List V):(Int × Int × (List V) × (List V))→Option ((Int × Int × (List V) × (List V)) ⊕ ((Int × Int × Int × (List V) × (List V)) ⊕ (Int × Bool × Int × (List V) × (List V)))):=un fun iv=>un fun dS=>un fun dD ch=>tx C ew ey eX dq bt iv dS dD ch (fun y=>some (.inl y)) (fun r=>some (.inr r))
noncomputable def Xg (C:ag):ct:=fun β n ds k=>
 bif Nat.beq n 209 then bW KJ [false,false,true,false,true,false,false,false,false,false,false,false,false,false,false,false,false] [[1,2,0,4,0,0,6,7,8,9,10,11,12,13,14,15,16,17]] (@CV C) ds k else
 bif Nat.beq n 1231 then ij KK [[0,0,0,0,0],[1,2,0,5,6,7,8,9,13,14,0,16]] (@y4 C) ds k else
 bif Nat.beq n 97 then bW KL [false,true,false,false,false,false,true,false,false,true,false] [[0,0,0,0,0],[1,0,0,3,4,5,6,0,8,9,0,11]] (@tw C) ds k else
 bif Nat.beq n 33 then bW KM [true,false,false,false,true,false,false,true,true] [[0,0,0,0,0],[0,0,2,3,4,0,6,7,0,0]] (@tx C) ds k else
 none
abbrev HF (C:ag) (b:cq):Prop:=cr Try.prog ay C (Xg C) 45 (cK Try.prog (ay.aV 45)) (ay.sin 45).bj.length b
theorem ajB (C:ag):HF C (.loop (av [1,1,0,0,0,1,0,0,1,0,1,0,0,1,0,0,1,1,1,0,1,0,0] qj)):=
 bY KJ [false,false,true,false,true,false,false,false,false,false,false,false,false,false,false,false,false] [[1,2,0,4,0,0,6,7,8,9,10,11,12,13,14,15,16,17]] (@CV C) (by kernel_rfl) (aZ (bs:=[]) (by kernel_rfl) aw) (fun ds=>by kernel_rfl) (fun i x=>by kernel_rfl) (fun i x β k=>by kernel_rfl) (fun β ds k=>by kernel_rfl)
theorem ajC (C:ag):HF C (.cond 76 (av [1,1,0,0,0,1,0,0,1,0,1,0,0,1,0,0,1,1,1,1,0,1,0] qj) (av [1,1,0,0,0,1,0,0,1,0,1,0,0,1,0,0,1,1,1,1,0,1,1] qj)):=
 iL KK [[0,0,0,0,0],[1,2,0,5,6,7,8,9,13,14,0,16]] (@y4 C) (by kernel_rfl) (aZ (bs:=[]) (by kernel_rfl) aw) (aZ (bs:=[]) (by kernel_rfl) aw) (fun ds=>by kernel_rfl) (fun i β k=>by kernel_rfl) (fun β ds k=>by kernel_rfl)
theorem ajD (C:ag):HF C (.loop (av [1,1,0,0,0,1,0,0,1,0,1,0,0] qj)):=
 bY KL [false,true,false,false,false,false,true,false,false,true,false] [[0,0,0,0,0],[1,0,0,3,4,5,6,0,8,9,0,11]] (@tw C) (by kernel_rfl) (aZ (bs:=[.loop (av [1,1,0,0,0,1,0,0,1,0,1,0,0,1,0,0,1,1,1,0,1,0,0] qj),.cond 76 (av [1,1,0,0,0,1,0,0,1,0,1,0,0,1,0,0,1,1,1,1,0,1,0] qj) (av [1,1,0,0,0,1,0,0,1,0,1,0,0,1,0,0,1,1,1,1,0,1,1] qj)]) (by kernel_rfl) (bu (ajB C) (bu (ajC C) aw))) (fun ds=>by kernel_rfl) (fun i x=>by kernel_rfl) (fun i x β k=>by kernel_rfl) (fun β ds k=>by kernel_rfl)
theorem ajE (C:ag):HF C (.loop (av [1,1,0,0,0] qj)):=
 bY KM [true,false,false,false,true,false,false,true,true] [[0,0,0,0,0],[0,0,2,3,4,0,6,7,0,0]] (@tx C) (by kernel_rfl) (aZ (bs:=[.loop (av [1,1,0,0,0,1,0,0,1,0,1,0,0] qj)]) (by kernel_rfl) (bu (ajD C) aw)) (fun ds=>by kernel_rfl) (fun i x=>by kernel_rfl) (fun i x β k=>by kernel_rfl) (fun β ds k=>by kernel_rfl)
noncomputable def Xh (C:ag) (cz:Int) (cp gj:List V) (gC iv:Int):Option (List V):=
 bif Nat.ble ((([]:List V).length+cp.length)*40) bP then
  bif Nat.ble ((([]:List V).length+gj.length)*24) bP then
  (Loop (rU C 0 0 cz ([]:List V) ([]:List V)) (iv,gC,([]:List V)++cp,([]:List V)++gj)).bind (bV (un fun (Gf:Int)=>un fun (ajF:Int)=>un fun (ajG:Int)=>un fun (ajH:List V) (ajI:List V)=>
   some [.int .i64 ajF,.int .i64 ajG,.int .i64 Gf,.list aa ajH,.list bK ajI]) (un fun (alZ:Int)=>un fun (Gg:Bool)=>un fun (yW:Int)=>un fun (ajJ:List V) (ajK:List V)=>
   some [.int .i64 cz,.int .i64 yW,.int .i64 0,.list aa ajJ,.list bK ajK]))
  else none
 else none
theorem ajL {cz:Int} {cp gj:List V} {gC iv:Int} {r:Option (List V)} (h:Xh CC cz cp gj gC iv=r):CC AS [.int .i64 cz,.list aa cp,.list bK gj,.int .i64 gC,.int .i64 iv]=r:=
 bh (key:=45) (L:=Xg CC) (bs:=[.loop (av [1,1,0,0,0] qj)]) (by kernel_rfl) (bu (ajE CC) aw) (bd (by kernel_rfl) h)
end Go.AM
