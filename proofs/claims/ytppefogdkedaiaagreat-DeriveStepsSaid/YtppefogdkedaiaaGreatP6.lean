/-
  Functions of the program, lifted to plain data.
-/
import Derived.Test.YtppefogdkedaiaaGreatP5
set_option linter.unusedVariables false
set_option linter.unusedSimpArgs false
set_option maxRecDepth 100000
namespace Go.AM
open Go.Proofs
noncomputable abbrev VM:Code:=cE Tryz.prog (ax.aV 40)
noncomputable def CL (C:ae) (t20:List V) (t21 dE dr:Int) (cM:List V) (ka kb:Int) (bm:List V) (t22:Int) (oq:List V) {β:Type} (kn:(Int × (List V))→Option β) (kr:(Int × Bool × (List V))→Option β):Option β:=
 bif decide ((t22:Int)<t21) then
  (idx t20 t22).bind fun x1=>
  (C vd [.int .i64 ((x1.cell 0).toInt),.int .i64 ((x1.cell 1).toInt),.list aa ((x1.cell 2).toList)]).bind fun r2=>
  bif (decide (0≤t22))&&(decide (t22<(oq.length:Int))) then
  (oq[(t22:Int).toNat]?).bind fun x3=>
  kn (IntKind.wrap .i64 (t22+1),oq.set ((t22:Int).toNat) (.agg [.int .i64 ((V.nth r2 0).toInt),.int .i64 ((V.nth (r2.drop 1) 0).toInt),.list aa ((V.nth ((r2.drop 1).drop 1) 0).toList)]))
  else none
 else
  kr (t22,decide ((t22:Int)<t21),oq)
noncomputable def Hy (C:ae) (t20:List V) (t21 dE dr:Int) (cM:List V) (ka kb:Int) (bm:List V):(Int × (List V))→Option ((Int × (List V)) ⊕ (Int × Bool × (List V))):=un fun t22 oq=>CL C t20 t21 dE dr cM ka kb bm t22 oq (fun y=>some (.inl y)) (fun r=>some (.inr r))
noncomputable def VN (C:ae):ct:=fun β n ds k=>
 bif Nat.beq n 81 then bY LC [false,false,true,false,false,false,false,false,true,false] [[1,2,0,0,4,5,6,7,8,0,10]] (@CL C) ds k else
 none
abbrev ahF (C:ae) (b:cq):Prop:=cr Tryz.prog ax C (VN C) 40 (cH Tryz.prog (ax.aV 40)) (ax.sin 40).bj.length b
theorem ahG (C:ae):ahF C (.loop (aw [1,1,1,0,1,0,0] VM)):=
 b7 LC [false,false,true,false,false,false,false,false,true,false] [[1,2,0,0,4,5,6,7,8,0,10]] (@CL C) (by kernel_rfl) (bf (bs:=[]) (by kernel_rfl) av) (fun ds=>by kernel_rfl) (fun i x=>by kernel_rfl) (fun i x β k=>by kernel_rfl) (fun β ds k=>by kernel_rfl)
noncomputable def VO (C:ae) (ah aq:Int) (af:List V):Option (List V):=
 bif ((af.length:Int):Int)==0 then
  some [.int .i64 ah,.int .i64 aq,.list aa ([]:List V)]
 else
  bif (decide (0≤(af.length:Int)))&&((decide ((af.length:Int)≤(af.length:Int)))&&(Nat.ble ((((af.length:Int):Int).toNat)*40) b6)) then
  (Loop (Hy C af (af.length:Int) ah aq af 0 0 ([]:List V)) (0,List.replicate (((af.length:Int):Int).toNat) (V.agg [.int .i64 0,.int .i64 0,.list aa ([]:List V)]))).bind (un fun (gS:Int)=>un fun (mg:Bool) (ahH:List V)=>
   (C kP [.int .i64 ah,.list aa ahH]).bind fun r7=>
   some [.int .i64 ((V.nth r7 0).toInt),.int .i64 ((V.nth (r7.drop 1) 0).toInt),.list aa ((V.nth ((r7.drop 1).drop 1) 0).toList)])
  else none
theorem ahI {ah aq:Int} {af:List V} {r:Option (List V)} (h:VO CC ah aq af=r):CC vd [.int .i64 ah,.int .i64 aq,.list aa af]=r:=
 aY (key:=40) (L:=VN CC) (bs:=[.loop (aw [1,1,1,0,1,0,0] VM)]) (by kernel_rfl) (bx (ahG CC) av) (aW (by kernel_rfl) h)
noncomputable def VP (C:ae) (ah aq:Int) (af:List V):Option (List V):=
 (C Bq [.int .i64 ah,.int .i64 aq,.list aa af]).bind fun r1=>
 bif !((V.nth r1 0).toBool) then
  some [.int .i64 0,.int .i64 0,.list aa ([]:List V)]
 else
  (C vd [.int .i64 ah,.int .i64 aq,.list aa af]).bind fun r2=>
  some [.int .i64 ((V.nth r2 0).toInt),.int .i64 ((V.nth (r2.drop 1) 0).toInt),.list aa ((V.nth ((r2.drop 1).drop 1) 0).toList)]
theorem ahJ {ah aq:Int} {af:List V} {r:Option (List V)} (h:VP CC ah aq af=r):CC xP [.int .i64 ah,.int .i64 aq,.list aa af]=r:=
 aY (key:=24) (L:=cd) (bs:=[]) (by kernel_rfl) av (aW (by kernel_rfl) h)
end Go.AM
set_option maxRecDepth 100000
namespace Go.AM
open Go.Proofs Ex
theorem v5:CC qc []=some (eH ez):=aeV rfl
theorem Hz:CC vg []=some (eH jF):=aeX rfl
theorem CM:CC s9 []=some (eH jo):=by
 refine aeY ?_
 unfold TU
 refine bs v5 ?_
 simp[eH,ez,jo,Ex.op,Ex.bB,Ex.kids,dx]
theorem VQ (o:Int) (l:List Ex):(l.filter fun k=> !(decide (k.op=o)))=l.filter fun k=>decide (k.op≠o):=by
 congr 1;funext k;simp
theorem VR {ks:List Ex} (hlen:ks.length≤1000000):CC s7 [.list aa (ks.map enc)]=some [.bool (ks.any fun k=>decide (k.op=1))]:=afE hlen
theorem ahK {ks:List Ex} (hn:ks.length≤1000000): ∃b,CC Gv [.list aa (ks.map enc)]=some [.bool b,.list aa ((ks.filter (fun k=>decide (k.op≠1))).map enc)]:=by
 rw[←VQ];exact afG hn
theorem ahL {ks:List Ex} (hn:ks.length≤1000000): ∃b,CC Gt [.list aa (ks.map enc)]=some [.bool b,.list aa ((ks.filter (fun k=>decide (k.op≠2))).map enc)]:=by
 rw[←VQ];exact afK hn
theorem HA {o:Int} {ks:List Ex} (h: ∀k∈ks,k.Ok): ∀k∈br o ks,k.Ok:=fun x hx=>by
 obtain ⟨k,h1,U|U⟩:=nX.1 hx
 ·have:=h k h1
  obtain ⟨o2,l2,jG⟩:=k
  exact this.mf x U.2
 ·rw[U.2];exact h k h1
theorem ahM {n:Int} {ks:List Ex} (hk: ∀k∈ks,Gd n k) (hs:aN ks≤1000000):CC Gg [.list aa (ks.map enc)]=some (eH (dV 5 0 ks)):=by
 have hl:=kU ks
 have a1:=rM 5 ks
 have a2:=kU (br 5 ks)
 refine ahD ?_
 unfold VJ
 rw[tm,M7 hk]
 refine bs (VR (by omega)) ?_
 cases hu:ks.any fun k=>decide (k.op=1) with
 | true=>
  refine bT rfl ?_
  refine bs v5 ?_
  rfl
 | false=>
  refine bF rfl ?_
  refine bs (MV (by omega) (by omega)) ?_
  obtain ⟨b,e⟩:=ahL (ks:=br 5 ks) (by omega)
  refine bs e ?_
  cases b
  ·exact bF rfl (bs Hz (bs (qf (z:=jF)) rfl))
  ·exact bT rfl (bs Hz (bs (qf (z:=jF)) rfl))
section
variable {n:Int} {ks:List Ex} (hk: ∀k∈ks,Gd n k) (au: ∀k∈ks,k.Ok) (hs:aN ks≤1000000)
include hk au hs
theorem ahN:CC Gf [.list aa (ks.map enc)]=some (eH (dV 4 0 ks)):=by
 have hl:=kU ks
 have a1:=rM 4 ks
 have a2:=kU (br 4 ks)
 refine ahC ?_
 unfold VI
 rw[vE,Ub hk]
 refine bs (afM (by omega)) ?_
 cases hu:ks.any univ with
 | true=>
  refine bT rfl ?_
  refine bs CM ?_
  rfl
 | false=>
  refine bF rfl ?_
  refine bs (MV (by omega) (by omega)) ?_
  obtain ⟨b,e⟩:=ahK (ks:=br 4 ks) (by omega)
  refine bs e ?_
  obtain ⟨b2,e2⟩:=VH (l:=(br 4 ks).filter fun k=>decide (k.op≠1)) (by have:=tY (fun k:Ex=>decide (k.op≠1)) (br 4 ks);omega) fun k h=>HA au k (oE.1 h).1
  cases b
  ·refine bF rfl ?_
   refine bs e2 ?_
   cases b2
   ·exact bF rfl (bs v5 (bs (qf (z:=ez)) rfl))
   ·exact bT rfl (bs v5 (bs (qf (z:=ez)) rfl))
  ·refine bT rfl ?_
   refine bs e2 ?_
   cases b2
   ·exact bF rfl (bs v5 (bs (qf (z:=ez)) rfl))
   ·exact bT rfl (bs v5 (bs (qf (z:=ez)) rfl))
theorem ahO:CC Gh [.list aa (ks.map enc)]=some (eH (dV 6 0 ks)):=by
 have hl:=kU ks
 have a1:=rM 6 ks
 have a2:=kU (br 6 ks)
 refine ahE ?_
 unfold VK
 rw[yB,ae9 hk]
 refine bs (VR (by omega)) ?_
 cases hu:ks.any fun k=>decide (k.op=1) with
 | true=>
  refine bT rfl ?_
  refine bs v5 ?_
  rfl
 | false=>
  refine bF rfl ?_
  refine bs (MV (by omega) (by omega)) ?_
  obtain ⟨b,e⟩:=afO (ks:=br 6 ks) (by omega)
  refine bs e ?_
  obtain ⟨b2,e2⟩:=VH (l:=(br 6 ks).filter fun k=> !(univ k)) (by have:=tY (fun k:Ex=> !(univ k)) (br 6 ks);omega) fun k h=>HA au k (oE.1 h).1
  cases b
  ·refine bF rfl ?_
   refine bs e2 ?_
   cases b2
   ·exact bF rfl (bs CM (bs (qf (z:=jo)) rfl))
   ·exact bT rfl (bs CM (bs (qf (z:=jo)) rfl))
  ·refine bT rfl ?_
   refine bs e2 ?_
   cases b2
   ·exact bF rfl (bs CM (bs (qf (z:=jo)) rfl))
   ·exact bT rfl (bs CM (bs (qf (z:=jo)) rfl))
theorem rU {o:Int} (ho:o=4∨o=5∨o=6):CC kP [.int .i64 o,.list aa (ks.map enc)]=some (eH (dV o 0 ks)):=by
 refine VL ?_
 unfold NK
 rcases ho with rfl|rfl|rfl
 ·exact bT rfl (bs (ahN hk au hs) rfl)
 ·exact bF rfl (bT rfl (bs (ahM hk hs) rfl))
 ·exact bF rfl (bF rfl (bT rfl (bs (ahO hk au hs) rfl)))
end
theorem NL (k:Ex):[V.agg [.int .i64 k.op,.int .i64 k.bB,.list aa (k.kids.map enc)]]=[k].map enc:=by rw[←dx];rfl
theorem HB {n o:Int} {k:Ex} (hk:Gd n k) (ho:o=7∨o=8):CC kP [.int .i64 o,.list aa ([k].map enc)]=some (eH (dV o 0 [k])):=by
 refine VL ?_
 unfold NK
 rcases ho with rfl|rfl
 ·refine bF rfl (bF rfl (bF rfl (bF rfl (bs (a:=k.enc) rfl (bF rfl (bT rfl ?_))))))
  rw[yC,aU,aZ,aX,dq,dq,dq]
  by_cases h1:k.op=1
  ·rw[aj h1,aj (.inl h1)];exact bs Hz rfl
  ·rw[ai h1]
   by_cases U:k.op=2
   ·rw[aj U,aj (.inr U)];exact bs Hz rfl
   ·rw[ai U,ai (show¬(k.op=1∨k.op=2) by omega)]
    by_cases h7:k.op=7
    ·rw[aj h7,aj (.inl h7)];rfl
    ·rw[ai h7]
     refine bs (B9 k) ?_
     cases hu:univ k with
     | true=>rw[aj (.inr rfl)];exact bT rfl rfl
     | false=>
      rw[ai (by rintro (h|h);exact h7 h;cases h)]
      refine bF rfl ?_
      rw[NL];rfl
 ·refine bF rfl (bF rfl (bF rfl (bF rfl (bs (a:=k.enc) rfl (bT rfl ?_)))))
  rw[yD,aU,aZ,aX,dq]
  by_cases h8:k.op=8
  ·rw[aj h8,aj h8]
   have hs:=eK hk.shape
   obtain ⟨o2,l2,jG⟩:=k
   simp only[Ex.op,Ex.kids,Ex.bB] at*
   match jG,(show (jG.length:Int)=1 by omega) with
   | [x],_=>
    refine bT (by simp) (bs (a:=x.enc) rfl ?_)
    rw[aU,aZ,aX];rfl
  ·rw[ai h8,ai h8,NL];rfl
theorem VT {α:Type} (a:List α) (x y:α) (b:List α) {i:Nat} (h:i=a.length):(a++x::b).set i y=(a++[y])++b:=by
 subst h;simp[List.set_append_right]
theorem ahP {ks:List Ex} {a b c d:Int} {l1 l2:List V} (hn:ks.length≤1000000) (ih: ∀k∈ks,CC vd (bQ k [])=some (eH (aI k))):
  ∀(ay pre:List Ex),ks=pre++ay→∃t,Loop (Hy CC (ks.map enc) ((ks.map enc).length:Int) a b l1 c d l2) (((pre.length:Nat):Int),(pre.map aI).map enc++List.replicate ay.length (V.agg [.int .i64 0,.int .i64 0,.list aa ([]:List V)]))=some (((ks.map enc).length:Int),t,(ks.map aI).map enc):=by
 intro ay
 induction ay with
 | nil=>
  intro pre e
  rw[c9] at e
  subst e
  refine ⟨false,aS ?_⟩
  simp only[Hy,CL,un,aJ]
  rw[az,ai (by omega),bz (by omega)]
  simp
 | cons k ay ec=>
  intro pre e
  have bS:pre.length<ks.length:=by rw[e];simp
  have bM:idx (ks.map enc) (pre.length:Int)=some k.enc:=by rw[e];exact gB _ _ _
  obtain ⟨t,ht⟩:=ec (pre++[k]) (by simp[e])
  refine ⟨t,(bJ ?_).trans ht⟩
  simp only[Hy,CL,un,aJ]
  rw[az,aj (by omega),bM]
  simp only[Option.bind_some,aU,aZ,aX]
  refine bs (ih k (by rw[e];simp)) ?_
  refine bT (by simp only[aP,eg,b9,aJ,tV,List.length_cons];omega) ?_
  refine bs (a:=V.agg [.int .i64 0,.int .i64 0,.list aa ([]:List V)]) ?_ ?_
  ·rw[Int.toNat_natCast,iQ (by simp)]
   simp
  ·rw[wrap64 (by omega) (by omega),Int.toNat_natCast,List.length_cons,List.replicate_succ,VT _ _ _ _ (by simp)]
   show some (Sum.inl _)=some (Sum.inl _)
   refine congrArg (fun x=>some (Sum.inl x)) (Prod.ext ?_ ?_)
   ·simp
   ·simp only[eD,cJ,fT]
    rw[dx (aI k)];rfl
theorem VU {n:Int} (hn:n≤6): ∀e:Ex,e.wf n=true→e.size≤1000000→CC vd (bQ e [])=some (eH (aI e)):=
 ind fun o l ks ih hw hs=>by
  obtain ⟨h1,U⟩:=gT hw
  have hl:=kU ks
  simp only[size] at hs
  have h3:=eK h1
  refine ahI ?_
  unfold VO
  simp only[Ex.op,Ex.kids,Ex.bB,aJ,dq]
  rw[mi]
  by_cases h0:ks=[]
  ·subst h0
   rw[aj (by simp),j6 (by simp only[List.length_nil] at h3;omega)]
   rfl
  ·have hp:0<ks.length:=List.length_pos_iff.2 h0
   rw[ai (by omega)]
   refine bT (by simp only[aP,eg,dh,gR,Int.toNat_natCast];omega) ?_
   obtain ⟨t,ht⟩:=ahP (a:=o) (b:=l) (c:=0) (d:=0) (l1:=ks.map enc) (l2:=[]) (ks:=ks) (by omega) (fun k hk=>ih k hk (U k hk) (by have:=te hk;omega)) ks [] rfl
   rw[aJ] at ht
   refine bs ht ?_
   have hg: ∀k∈ks.map aI,Gd n k:=fun x hx=>by
    obtain ⟨k,hk,rfl⟩:=gG.1 hx
    exact lE k (U k hk)
   have hz:aN (ks.map aI)≤aN ks:=by
    clear ht h3 h1 hw ih hp h0 hl hs hg
    induction ks with
    | nil=>simp[aN]
    | cons k ks ih=>have a:=yF k (U k (by simp));have b:=ih fun k hk=>U k (by simp[hk]);simp only[cJ,aN];omega
   have au: ∀k∈ks.map aI,k.Ok:=fun k hk=>mZ hn k (hg k hk).2 (by have:=te hk;omega)
   rcases (show (o=4∨o=5∨o=6)∨(o=7∨o=8) by omega) with ho|ho
   ·obtain rfl:l=0:=by omega
    exact bs (rU hg au (by omega) ho) rfl
   ·obtain rfl:l=0:=by omega
    have h5:ks.length=1:=by omega
    match ks,h5 with
    | [k],_=>exact bs (HB (hg (aI k) (by simp)) ho) rfl
theorem NM (e:Ex) (h:e.Ok):CC xP (bQ e [])=some (eH (if e.val 6=0 then aI e else aG)):=by
 refine ahJ ?_
 unfold VP
 refine bs (Tz e h) ?_
 by_cases hv:e.val 6=0
 ·have:=jX hv
  rw[aj hv]
  refine bF (by simp[hv]) ?_
  exact bs (VU (by omega) e this.2.2 (by omega)) rfl
 ·rw[ai hv]
  refine bT (by simp[hv]) ?_
  rfl
end Go.AM
set_option maxRecDepth 100000
namespace Go.AM
open Go.Proofs
def tab {α:Type} (n:Nat) (g:Nat→α):List α:=(List.range n).map g
section
variable {α β:Type} {n i:Nat} {g h:Nat→α}
@[simp] theorem amQ:(tab n g).length=n:=by simp[tab]
end
section
variable {γ:Type} {n i:Nat} {g:Nat→V}
theorem nf {es:List V} {v:V} (hi:es[i]? =some v) {K:V→Option γ}:(bif (decide (0≤(i:Int)))&&(decide ((i:Int)<(es.length:Int))) then (es[((i:Int)).toNat]?).bind K else none)=K v:=by
 have hl:i<es.length:=by
  rcases pB i es.length with h|h
  ·exact h
  ·rw[zL h] at hi;cases hi
 rw[Int.toNat_natCast,hi,tZ.2 ⟨cx (by omega),cx (by omega)⟩]
 rfl
end
theorem cap {a b m:Nat} (h:a+b≤10000000) (hm:m≤1000):Nat.ble ((a+b)*m) b6=true:=by
 rw[dh,gR]
 have:=Nat.mul_le_mul h hm
 omega
theorem ahQ {n m:Nat} (h:n≤10000000) (hm:m≤1000):((decide (0≤(n:Int)))&&((decide ((n:Int)≤(n:Int)))&&(Nat.ble (((n:Int).toNat)*m) b6)))=true:=by
 have U:=Nat.mul_le_mul h hm
 rw[Int.toNat_natCast]
 refine tZ.2 ⟨cx (by omega),tZ.2 ⟨cx (by omega),?_⟩⟩
 rw[dh,gR]
 omega
theorem kZ {i:Nat} (h:i≤1000000000):IntKind.wrap .i64 ((i:Int)+1)=((i+1:Nat):Int):=by rw[wrap64 (by omega) (by omega)];omega
theorem kf {i n:Nat} (h:i<n):decide ((i:Int)<(n:Int))=true:=cx (by omega)
end Go.AM
set_option maxRecDepth 100000
namespace Go.AM
open Go.Proofs Ex
abbrev zE:V:= .agg [.int .i64 0,.int .i64 0,.list aa ([]:List V)]
theorem tz {α:Type} {A:List V} {n:Nat} {z:V} {i:Nat} (h:i=A.length) {K:V→Option α}:(bif (decide (0≤(i:Int)))&&(decide ((i:Int)<((A++List.replicate (n+1) z).length:Int))) then ((A++List.replicate (n+1) z)[((i:Int)).toNat]?).bind K else none)=K z:=by
 refine nf ?_
 rw[h,iQ (cg _)]
 simp
theorem tA {A:List V} {n:Nat} {z v:V} {i:Nat} (h:i=A.length):(A++List.replicate (n+1) z).set i v=A++[v]++List.replicate n z:=by
 rw[List.replicate_succ,VT _ _ _ _ h]
theorem ahR (a:Ex):V.agg [.int .i64 a.op,.int .i64 a.bB,.list aa (a.kids.map enc)]=a.enc:=(dx a).symm
theorem ze {n:Nat} (h:n≤1000000):Nat.ble (n*40) b6=true:=by rw[dh,gR];omega
theorem HC {n:Nat} (h:n≤1000000):((decide (0≤(n:Int)))&&((decide ((n:Int)≤(n:Int)))&&(Nat.ble (((n:Int).toNat)*40) b6)))=true:=ahQ (by omega) (by omega)
def oneOf (o:Int):List Ex→Ex
 | [k]=>k
 | l=> .node o 0 l
mutual
def bO (c:Int):Ex→Ex
 | .node o l ks=>
  if o=3 then (if l=c then jF else ez)
  else if o=4∨o=6∨o=8 then .node o 0 (zf c ks)
  else if o=7 then .node 5 0 [(zf c ks).getD 0 aG,.node o l ks]
  else if o=5 then oneOf 4 (im c ks)
  else ez
def zf (c:Int):List Ex→List Ex
 | []=>[]
 | k::ks=>bO c k::zf c ks
def im (c:Int):List Ex→List Ex
 | []=>[]
 | k::ks=>oneOf 5 (bO c k::ks)::(if k.cZ=true then im c ks else [])
end
theorem VV {c:Int}: ∀ks,zf c ks=ks.map (bO c)
 | []=>by simp only[zf,fT]
 | k::ks=>by simp only[zf,cJ,VV ks]
theorem ot {c o l:Int} {ks:List Ex}:bO c (.node o l ks)=if o=3 then (if l=c then jF else ez) else if o=4∨o=6∨o=8 then .node o 0 (ks.map (bO c)) else if o=7 then .node 5 0 [(ks.map (bO c)).getD 0 aG,.node o l ks] else if o=5 then oneOf 4 (im c ks) else ez:=by
 rw[bO,VV]
theorem zg {c:Int} {k:Ex} {ks:List Ex}:im c (k::ks)=oneOf 5 (bO c k::ks)::(if k.cZ=true then im c ks else []):=by rw[im]
theorem ahS {o:Int} {k:Ex} {l:List Ex}:oneOf o (k::l)=if l=[] then k else .node o 0 (k::l):=by
 cases l with
 | nil=>rfl
 | cons x l=>rw[ai (by simp)];rfl
theorem VW {n:Int}:ez.wf n=true:=vD (by simp[dS]) (by simp)
theorem ahT {n:Int}:jF.wf n=true:=vD (by simp[dS]) (by simp)
theorem ahU {n o l len:Int} (h:dS o l len n=true) (ho:o=4∨o=6∨o=8):dS o 0 len n=true:=by
 rcases eK h with h|⟨rfl,h⟩
 ·omega
 ·assumption
theorem VX {n:Int} {o:Int} (ho:o=4∨o=5) {len:Int} (h:2≤len):dS o 0 len n=true:=by
 unfold dS
 rcases ho with rfl|rfl<;>simp[h]
theorem VY {n:Int} {o:Int} (ho:o=4∨o=5) {l:List Ex} (hl:l≠[]) (h: ∀k∈l,k.wf n=true):(oneOf o l).wf n=true:=by
 match l,hl with
 | [k],_=>exact h k (by simp)
 | k::k2::l,_=>exact vD (VX ho (by simp only[List.length_cons];omega)) h
theorem VZ {c:Int} {ks:List Ex} (h:ks≠[]):im c ks≠[]:=by
 cases ks with
 | nil=>exact absurd rfl h
 | cons k ks=>rw[zg];simp
theorem HD {n c:Int}: ∀{ks:List Ex},(∀k∈ks,k.wf n=true)→(∀k∈ks,(bO c k).wf n=true)→∀x∈im c ks,x.wf n=true
 | [],_,_,x,hx=>by rw[im] at hx;cases hx
 | k::ks,h1,U,x,hx=>by
  rw[zg] at hx
  rcases dG.1 hx with rfl|hx
  ·refine VY (.inr rfl) (by simp) fun y hy=> ?_
   rcases dG.1 hy with rfl|hy
   ·exact U k (by simp)
   ·exact h1 y (by simp[hy])
  ·split at hx
   ·exact HD (fun y hy=>h1 y (by simp[hy])) (fun y hy=>U y (by simp[hy])) x hx
   ·cases hx
theorem tB {n c:Int}: ∀e:Ex,e.wf n=true→(bO c e).wf n=true:=ind fun o l ks ih hw=>by
 obtain ⟨h1,U⟩:=gT hw
 have hk: ∀k∈ks,(bO c k).wf n=true:=fun k hk=>ih k hk (U k hk)
 rw[ot]
 split
 ·split
  ·exact ahT
  ·exact VW
 split
 ·next _ ho=>
  refine vD (by rw[aJ];exact ahU h1 ho) fun x hx=> ?_
  obtain ⟨k,mS,rfl⟩:=gG.1 hx
  exact hk k mS
 split
 ·next _ _ ho=>
  subst ho
  have hl:ks.length=1:=by rcases eK h1 with h|⟨_,h|h|h|h|h|h|h⟩<;>omega
  obtain ⟨k,rfl⟩:=wB.1 hl
  refine vD (VX (.inr rfl) (by simp)) fun x hx=> ?_
  rcases dG.1 hx with rfl|hx
  ·exact hk k (by simp)
  ·rw[eC.1 hx];exact hw
 split
 ·next _ _ _ ho=>
  subst ho
  have hl:2≤ks.length:=by rcases eK h1 with h|⟨_,h|h|h|h|h|h|h⟩<;>omega
  exact VY (.inl rfl) (VZ (by intro h;rw[h] at hl;simp at hl)) (HD U hk)
 ·exact VW
theorem V0 {o:Int} {l:List Ex}:(oneOf o l).size≤1+aN l:=by
 match l with
 | []=>simp[oneOf,size,aN]
 | [k]=>simp[oneOf,aN]
 | k::k2::l=>simp[oneOf,size]
theorem NN {f:Ex→Ex}: ∀{ks:List Ex},(∀k∈ks,(f k).size≤k.size*k.size)→aN (ks.map f)≤aN ks*aN ks
 | [],_=>by simp[aN]
 | k::ks,h=>by
  have ih:=NN (f:=f) (ks:=ks) fun x hx=>h x (by simp[hx])
  have hk:=h k (by simp)
  simp only[cJ,aN,dF,Nat.mul_add]
  omega
theorem NO {c:Int}: ∀{ks:List Ex},(∀k∈ks,(bO c k).size≤k.size*k.size)→1+aN (im c ks)≤(1+aN ks)*(1+aN ks)
 | [],_=>by rw[im];simp[aN]
 | k::ks,h=>by
  have ih:=NO (c:=c) (ks:=ks) fun x hx=>h x (by simp[hx])
  have hk:=h k (by simp)
  have h1:(oneOf 5 (bO c k::ks)).size≤1+((bO c k).size+aN ks):=V0
  have hp:=k.size_pos
  have U:aN (if k.cZ=true then im c ks else [])≤aN (im c ks):=by
   split
   ·exact cg _
   ·simp[aN]
  have h3:1*aN ks≤k.size*aN ks:=dL _ hp
  have h4:aN ks*k.size=k.size*aN ks:=oB _ _
  rw[zg]
  simp only[aN,dF,Nat.mul_add] at*
  omega
theorem NP {c:Int}: ∀e:Ex,(∀n,e.wf n=true→(bO c e).size≤e.size*e.size):=ind fun o l ks ih n hw=>by
 obtain ⟨h1,U⟩:=gT hw
 have hk: ∀k∈ks,(bO c k).size≤k.size*k.size:=fun k hk=>ih k hk n (U k hk)
 have h3:1*1≤(Ex.node o l ks).size*(Ex.node o l ks).size:=Nat.mul_le_mul (size_pos _) (size_pos _)
 rw[ot]
 split
 ·split
  ·exact h3
  ·exact h3
 split
 ·have:=NN hk
  simp only[size,dF,Nat.mul_add] at*
  omega
 split
 ·next _ _ ho=>
  subst ho
  have hl:ks.length=1:=by rcases eK h1 with h|⟨_,h|h|h|h|h|h|h⟩<;>omega
  obtain ⟨k,rfl⟩:=wB.1 hl
  have:=hk k (by simp)
  have hp:=k.size_pos
  simp only[cJ,fT,zV,size,aN,dF,Nat.mul_add,Nat.add_zero] at*
  omega
 split
 ·have h4:=NO hk
  have h5:(oneOf 4 (im c ks)).size≤1+aN (im c ks):=V0
  show _≤(1+aN ks)*(1+aN ks)
  omega
 ·exact h3
section
variable {n c:Int}
theorem ahV {o l:Int} {ks:List Ex} (ho:o=4∨o=6∨o=8):aI (bO c (.node o l ks))=dV o 0 (ks.map fun k=>aI (bO c k)):=by
 rw[ot,ai (by omega),aj ho,mi,List.map_map]
 rfl
theorem ahW {l:Int} {k:Ex}:aI (bO c (.node 7 l [k]))=dV 5 0 [aI (bO c k),aI (.node 7 l [k])]:=by
 rw[ot,ai (by omega),ai (by omega),aj rfl,mi]
 rfl
def HE (c:Int) (k:Ex) (ks:List Ex):Ex:=if (aI (bO c k)).op=1 then aI (bO c k) else dV 5 0 (aI (bO c k)::ks.map aI)
theorem ahX {k:Ex} {ks:List Ex} (hk:k.wf n=true) (bd: ∀x∈ks,x.wf n=true):HE c k ks=aI (oneOf 5 (bO c k::ks)):=by
 have hg:=lE (n:=n) _ (tB (c:=c) k hk)
 unfold HE
 rw[ahS]
 by_cases hn:ks=[]
 ·subst hn
  rw[aj rfl,fT,afl hg]
  split<;>rfl
 ·rw[ai hn,mi,cJ]
  by_cases h1:(aI (bO c k)).op=1
  ·rw[aj h1,tm,aj,empty_eq hg h1]
   have E6: ∀x∈aI (bO c k)::ks.map aI,Gd n x:=fun x hx=>by
    rcases dG.1 hx with rfl|hx
    ·exact hg
    ·obtain ⟨y,hy,rfl⟩:=gG.1 hx
     exact lE y (bd y hy)
   rw[M7 E6]
   simp[h1]
  ·rw[ai h1]
def tC (c:Int):List Ex→List Ex
 | []=>[]
 | k::ks=>HE c k ks::(if k.cZ=true then tC c ks else [])
theorem parts_eq: ∀{ks:List Ex},(∀x∈ks,x.wf n=true)→tC c ks=(im c ks).map aI
 | [],_=>by rw[im];rfl
 | k::ks,h=>by
  have ih:=parts_eq (ks:=ks) fun x hx=>h x (by simp[hx])
  rw[zg,cJ,←ahX (h k (by simp)) (fun x hx=>h x (by simp[hx]))]
  unfold tC
  refine congrArg _ ?_
  split
  ·exact ih
  ·rfl
theorem ahY {l:Int} {ks:List Ex} (bH:ks≠[]) (hk: ∀x∈ks,x.wf n=true):aI (bO c (.node 5 l ks))=dV 4 0 (tC c ks):=by
 rw[ot,ai (by omega),ai (by omega),ai (by omega),aj rfl,parts_eq hk]
 have hw:=HD (c:=c) hk fun k mS=>tB k (hk k mS)
 have hn:=VZ (c:=c) bH
 generalize im c ks=L at*
 match L,hn with
 | [x],_=>exact (afk (lE x (hw x (by simp)))).symm
 | x::y::L,_=>
  show aI (.node 4 0 _)=_
  rw[mi]
end
end Go.AM
set_option maxRecDepth 100000
namespace Go.AM
open Go.Proofs
noncomputable def V1 (C:ae) (bC:Int) (bt:Bool) (ah aq:Int) (af:List V):Option (List V):=
 bif bt then
  some [.int .i64 ah,.int .i64 aq,.list aa af]
 else
  (C vd [.int .i64 ah,.int .i64 aq,.list aa af]).bind fun r1=>
  some [.int .i64 ((V.nth r1 0).toInt),.int .i64 ((V.nth (r1.drop 1) 0).toInt),.list aa ((V.nth ((r1.drop 1).drop 1) 0).toList)]
theorem ahZ {bC:Int} {bt:Bool} {ah aq:Int} {af:List V} {r:Option (List V)} (h:V1 CC bC bt ah aq af=r):CC Bv [.int .i64 bC,.bool bt,.int .i64 ah,.int .i64 aq,.list aa af]=r:=
 aY (key:=86) (L:=cd) (bs:=[]) (by kernel_rfl) av (aW (by kernel_rfl) h)
noncomputable abbrev V2:Code:=cE Tryz.prog (ax.aV 71)
noncomputable def CN (C:ae) (t21:List V) (t22 mo:Int) (mq:Bool) (dE dr:Int) (cM:List V) (ee ef rV rW:Int) (rX:Bool) (b8 cP:List V) (CO t23:Int) (mr fS:List V) {β:Type} (kn:(Int × Int × (List V) × (List V))→Option β) (kr:(Int × Int × Bool × (List V) × (List V))→Option β):Option β:=
 bif decide ((t23:Int)<t22) then
  (idx t21 t23).bind fun x1=>
  (C o5 [.int .i64 mo,.bool mq,.int .i64 ((x1.cell 0).toInt),.int .i64 ((x1.cell 1).toInt),.list aa ((x1.cell 2).toList)]).bind fun r2=>
  bif (decide (0≤t23))&&(decide (t23<(mr.length:Int))) then
  (mr[(t23:Int).toNat]?).bind fun x3=>
  bif (decide (0≤t23))&&(decide (t23<(fS.length:Int))) then
   (fS[(t23:Int).toNat]?).bind fun x4=>
   bif (V.nth ((((((r2.drop 1).drop 1).drop 1).drop 1).drop 1).drop 1) 0).toBool then
   kn (IntKind.wrap .i64 (CO+1),IntKind.wrap .i64 (t23+1),mr.set ((t23:Int).toNat) (.agg [.int .i64 ((V.nth r2 0).toInt),.int .i64 ((V.nth (r2.drop 1) 0).toInt),.list aa ((V.nth ((r2.drop 1).drop 1) 0).toList)]),fS.set ((t23:Int).toNat) (.agg [.int .i64 ((V.nth (((r2.drop 1).drop 1).drop 1) 0).toInt),.int .i64 ((V.nth ((((r2.drop 1).drop 1).drop 1).drop 1) 0).toInt),.list aa ((V.nth (((((r2.drop 1).drop 1).drop 1).drop 1).drop 1) 0).toList)]))
   else
   kn (CO,IntKind.wrap .i64 (t23+1),mr.set ((t23:Int).toNat) (.agg [.int .i64 ((V.nth r2 0).toInt),.int .i64 ((V.nth (r2.drop 1) 0).toInt),.list aa ((V.nth ((r2.drop 1).drop 1) 0).toList)]),fS.set ((t23:Int).toNat) (.agg [.int .i64 ((V.nth (((r2.drop 1).drop 1).drop 1) 0).toInt),.int .i64 ((V.nth ((((r2.drop 1).drop 1).drop 1).drop 1) 0).toInt),.list aa ((V.nth (((((r2.drop 1).drop 1).drop 1).drop 1).drop 1) 0).toList)]))
  else none
  else none
 else
  kr (CO,t23,decide ((t23:Int)<t22),mr,fS)
noncomputable def HF (C:ae) (t21:List V) (t22 mo:Int) (mq:Bool) (dE dr:Int) (cM:List V) (ee ef rV rW:Int) (rX:Bool) (b8 cP:List V):(Int × Int × (List V) × (List V))→Option ((Int × Int × (List V) × (List V)) ⊕ (Int × Int × Bool × (List V) × (List V))):=un fun CO=>un fun t23=>un fun mr fS=>CN C t21 t22 mo mq dE dr cM ee ef rV rW rX b8 cP CO t23 mr fS (fun y=>some (.inl y)) (fun r=>some (.inr r))
noncomputable def V3 (C:ae):ct:=fun β n ds k=>
 bif Nat.beq n 65 then bY LX [true,false,false,true,false,false,false,false,false,false,false,false,false,false,true,true,false,false] [[0,2,3,0,0,5,6,7,8,9,10,11,12,13,14,0,0,17,18]] (@CN C) ds k else
 none
abbrev ah0 (C:ae) (b:cq):Prop:=cr Tryz.prog ax C (V3 C) 71 (cH Tryz.prog (ax.aV 71)) (ax.sin 71).bj.length b
theorem ah1 (C:ae):ah0 C (.loop (aw [1,1,1,0,1,0,0] V2)):=
 b7 LX [true,false,false,true,false,false,false,false,false,false,false,false,false,false,true,true,false,false] [[0,2,3,0,0,5,6,7,8,9,10,11,12,13,14,0,0,17,18]] (@CN C) (by kernel_rfl) (bf (bs:=[]) (by kernel_rfl) av) (fun ds=>by kernel_rfl) (fun i x=>by kernel_rfl) (fun i x β k=>by kernel_rfl) (fun β ds k=>by kernel_rfl)
noncomputable def V4 (C:ae) (bC:Int) (bt:Bool) (ah aq:Int) (af:List V):Option (List V):=
 bif (decide (0≤(af.length:Int)))&&((decide ((af.length:Int)≤(af.length:Int)))&&(Nat.ble ((((af.length:Int):Int).toNat)*40) b6)) then
  bif (decide (0≤(af.length:Int)))&&((decide ((af.length:Int)≤(af.length:Int)))&&(Nat.ble ((((af.length:Int):Int).toNat)*40) b6)) then
  (Loop (HF C af (af.length:Int) bC bt ah aq af 0 0 0 0 false ([]:List V) ([]:List V)) (0,0,List.replicate (((af.length:Int):Int).toNat) (V.agg [.int .i64 0,.int .i64 0,.list aa ([]:List V)]),List.replicate (((af.length:Int):Int).toNat) (V.agg [.int .i64 0,.int .i64 0,.list aa ([]:List V)]))).bind (un fun (NQ:Int)=>un fun (kS:Int)=>un fun (pb:Bool)=>un fun (ah2:List V) (ah3:List V)=>
   (C kP [.int .i64 ah,.list aa ah2]).bind fun dg=>
   (C kP [.int .i64 ah,.list aa ah3]).bind fun dz=>
   bif (ah:Int)==4 then
    some [.int .i64 ((V.nth dg 0).toInt),.int .i64 ((V.nth (dg.drop 1) 0).toInt),.list aa ((V.nth ((dg.drop 1).drop 1) 0).toList),.int .i64 ((V.nth dz 0).toInt),.int .i64 ((V.nth (dz.drop 1) 0).toInt),.list aa ((V.nth ((dz.drop 1).drop 1) 0).toList),.bool (decide ((NQ:Int)>0))]
   else
    bif (ah:Int)==6 then
    some [.int .i64 ((V.nth dg 0).toInt),.int .i64 ((V.nth (dg.drop 1) 0).toInt),.list aa ((V.nth ((dg.drop 1).drop 1) 0).toList),.int .i64 ((V.nth dz 0).toInt),.int .i64 ((V.nth (dz.drop 1) 0).toInt),.list aa ((V.nth ((dz.drop 1).drop 1) 0).toList),.bool ((NQ:Int)==(af.length:Int))]
    else
    bif (ah:Int)==8 then
     some [.int .i64 ((V.nth dg 0).toInt),.int .i64 ((V.nth (dg.drop 1) 0).toInt),.list aa ((V.nth ((dg.drop 1).drop 1) 0).toList),.int .i64 ((V.nth dz 0).toInt),.int .i64 ((V.nth (dz.drop 1) 0).toInt),.list aa ((V.nth ((dz.drop 1).drop 1) 0).toList),.bool ((NQ:Int)==0)]
    else
     some [.int .i64 ((V.nth dg 0).toInt),.int .i64 ((V.nth (dg.drop 1) 0).toInt),.list aa ((V.nth ((dg.drop 1).drop 1) 0).toList),.int .i64 ((V.nth dz 0).toInt),.int .i64 ((V.nth (dz.drop 1) 0).toInt),.list aa ((V.nth ((dz.drop 1).drop 1) 0).toList),.bool false])
  else none
 else none
theorem ah4 {bC:Int} {bt:Bool} {ah aq:Int} {af:List V} {r:Option (List V)} (h:V4 CC bC bt ah aq af=r):CC xY [.int .i64 bC,.bool bt,.int .i64 ah,.int .i64 aq,.list aa af]=r:=
 aY (key:=71) (L:=V3 CC) (bs:=[.loop (aw [1,1,1,0,1,0,0] V2)]) (by kernel_rfl) (bx (ah1 CC) av) (aW (by kernel_rfl) h)
noncomputable abbrev HG:Code:=cE Tryz.prog (ax.aV 72)
noncomputable def zh (C:ae) (t20:List V) (t21 mo:Int) (mq:Bool) (ee ef rV rW:Int) (rX:Bool) (dm b8:List V) (tD:Bool) (t22:Int) (mr fS:List V) {β:Type} (kn:(Bool × Int × (List V) × (List V))→Option β) (kr:(Bool × Int × Bool × (List V) × (List V))→Option β):Option β:=
 bif decide ((t22:Int)<t21) then
  (idx t20 t22).bind fun x1=>
  bif !tD then
  (C Bv [.int .i64 mo,.bool mq,.int .i64 ((x1.cell 0).toInt),.int .i64 ((x1.cell 1).toInt),.list aa ((x1.cell 2).toList)]).bind fun r2=>
  bif (decide (0≤t22))&&(decide (t22<(fS.length:Int))) then
   (fS[(t22:Int).toNat]?).bind fun x3=>
   kn (tD,IntKind.wrap .i64 (t22+1),mr,fS.set ((t22:Int).toNat) (.agg [.int .i64 ((V.nth r2 0).toInt),.int .i64 ((V.nth (r2.drop 1) 0).toInt),.list aa ((V.nth ((r2.drop 1).drop 1) 0).toList)]))
  else none
  else
  (C o5 [.int .i64 mo,.bool mq,.int .i64 ((x1.cell 0).toInt),.int .i64 ((x1.cell 1).toInt),.list aa ((x1.cell 2).toList)]).bind fun r4=>
  bif Nat.ble ((mr.length+([.agg [.int .i64 ((V.nth r4 0).toInt),.int .i64 ((V.nth (r4.drop 1) 0).toInt),.list aa ((V.nth ((r4.drop 1).drop 1) 0).toList)]]:List V).length)*40) b6 then
   bif (decide (0≤t22))&&(decide (t22<(fS.length:Int))) then
   (fS[(t22:Int).toNat]?).bind fun x5=>
   kn ((V.nth ((((((r4.drop 1).drop 1).drop 1).drop 1).drop 1).drop 1) 0).toBool,IntKind.wrap .i64 (t22+1),mr++([.agg [.int .i64 ((V.nth r4 0).toInt),.int .i64 ((V.nth (r4.drop 1) 0).toInt),.list aa ((V.nth ((r4.drop 1).drop 1) 0).toList)]]:List V),fS.set ((t22:Int).toNat) (.agg [.int .i64 ((V.nth (((r4.drop 1).drop 1).drop 1) 0).toInt),.int .i64 ((V.nth ((((r4.drop 1).drop 1).drop 1).drop 1) 0).toInt),.list aa ((V.nth (((((r4.drop 1).drop 1).drop 1).drop 1).drop 1) 0).toList)]))
   else none
  else none
 else
  kr (tD,t22,decide ((t22:Int)<t21),mr,fS)
noncomputable def CP (C:ae) (t20:List V) (t21 mo:Int) (mq:Bool) (ee ef rV rW:Int) (rX:Bool) (dm b8:List V):(Bool × Int × (List V) × (List V))→Option ((Bool × Int × (List V) × (List V)) ⊕ (Bool × Int × Bool × (List V) × (List V))):=un fun tD=>un fun t22=>un fun mr fS=>zh C t20 t21 mo mq ee ef rV rW rX dm b8 tD t22 mr fS (fun y=>some (.inl y)) (fun r=>some (.inr r))
noncomputable def CQ (C:ae) (tD:Bool) (t55 ee ef rV rW:Int) (rX:Bool) (fS HH dm b8:List V) (t56:Int) (gV:List V) {β:Type} (kn:(Int × (List V))→Option β) (kr:(Int × Bool × (List V))→Option β):Option β:=
 bif decide ((t56:Int)<t55) then
  bif (decide (0≤t56))&&(decide (t56<(HH.length:Int))) then
  (HH[(t56:Int).toNat]?).bind fun eY=>
  bif (((eY.cell 0).toInt):Int)==1 then
   bif (decide (0≤t56))&&(decide (t56<(gV.length:Int))) then
   (gV[(t56:Int).toNat]?).bind fun lC=>
   kn (IntKind.wrap .i64 (t56+1),gV.set ((t56:Int).toNat) (.agg [.int .i64 ((eY.cell 0).toInt),.int .i64 ((eY.cell 1).toInt),.list aa ((eY.cell 2).toList)]))
   else none
  else
   bif (decide (0≤(IntKind.wrap .i64 (t56+1))))&&(decide ((IntKind.wrap .i64 (t56+1))≤(fS.length:Int))) then
   bif Nat.ble ((([.agg [.int .i64 ((eY.cell 0).toInt),.int .i64 ((eY.cell 1).toInt),.list aa ((eY.cell 2).toList)]]:List V).length+((fS.drop ((IntKind.wrap .i64 (t56+1):Int).toNat)).take (fS.length-((IntKind.wrap .i64 (t56+1):Int).toNat))).length)*40) b6 then
    (C kP [.int .i64 5,.list aa (([.agg [.int .i64 ((eY.cell 0).toInt),.int .i64 ((eY.cell 1).toInt),.list aa ((eY.cell 2).toList)]]:List V)++((fS.drop ((IntKind.wrap .i64 (t56+1):Int).toNat)).take (fS.length-((IntKind.wrap .i64 (t56+1):Int).toNat))))]).bind fun gU=>
    bif (decide (0≤t56))&&(decide (t56<(gV.length:Int))) then
    (gV[(t56:Int).toNat]?).bind fun oa=>
    kn (IntKind.wrap .i64 (t56+1),gV.set ((t56:Int).toNat) (.agg [.int .i64 ((V.nth gU 0).toInt),.int .i64 ((V.nth (gU.drop 1) 0).toInt),.list aa ((V.nth ((gU.drop 1).drop 1) 0).toList)]))
    else none
   else none
   else none
  else none
 else
  kr (t56,decide ((t56:Int)<t55),gV)
noncomputable def HI (C:ae) (tD:Bool) (t55 ee ef rV rW:Int) (rX:Bool) (fS HH dm b8:List V):(Int × (List V))→Option ((Int × (List V)) ⊕ (Int × Bool × (List V))):=un fun t56 gV=>CQ C tD t55 ee ef rV rW rX fS HH dm b8 t56 gV (fun y=>some (.inl y)) (fun r=>some (.inr r))
noncomputable def V5 (C:ae):ct:=fun β n ds k=>
 bif Nat.beq n 81 then bY LY [true,false,false,true,false,false,false,false,false,false,false,true,true,false,false] [[0,2,3,0,0,5,6,7,8,9,10,11,0,0,14,15]] (@zh C) ds k else
 bif Nat.beq n 225 then bY LZ [false,false,true,false,false,false,false,false,false,true,false,false,false] [[1,2,0,0,4,5,6,7,8,9,0,11,12,13]] (@CQ C) ds k else
 none
abbrev V6 (C:ae) (b:cq):Prop:=cr Tryz.prog ax C (V5 C) 72 (cH Tryz.prog (ax.aV 72)) (ax.sin 72).bj.length b
theorem ah5 (C:ae):V6 C (.loop (aw [1,1,1,1,0,1,0,0] HG)):=
 b7 LY [true,false,false,true,false,false,false,false,false,false,false,true,true,false,false] [[0,2,3,0,0,5,6,7,8,9,10,11,0,0,14,15]] (@zh C) (by kernel_rfl) (bf (bs:=[]) (by kernel_rfl) av) (fun ds=>by kernel_rfl) (fun i x=>by kernel_rfl) (fun i x β k=>by kernel_rfl) (fun β ds k=>by kernel_rfl)
theorem ah6 (C:ae):V6 C (.loop (aw [1,1,1,1,1,1,0,1,0,0] HG)):=
 b7 LZ [false,false,true,false,false,false,false,false,false,true,false,false,false] [[1,2,0,0,4,5,6,7,8,9,0,11,12,13]] (@CQ C) (by kernel_rfl) (bf (bs:=[]) (by kernel_rfl) av) (fun ds=>by kernel_rfl) (fun i x=>by kernel_rfl) (fun i x β k=>by kernel_rfl) (fun β ds k=>by kernel_rfl)
noncomputable def V7 (C:ae) (bC:Int) (bt:Bool) (ah aq:Int) (af:List V):Option (List V):=
 bif (decide (0≤(af.length:Int)))&&((decide ((af.length:Int)≤(af.length:Int)))&&(Nat.ble ((((af.length:Int):Int).toNat)*40) b6)) then
  (Loop (CP C af (af.length:Int) bC bt 0 0 0 0 false ([]:List V) ([]:List V)) (true,0,([]:List V),List.replicate (((af.length:Int):Int).toNat) (V.agg [.int .i64 0,.int .i64 0,.list aa ([]:List V)]))).bind (un fun (V8:Bool)=>un fun (pb:Int)=>un fun (GQ:Bool)=>un fun (v7:List V) (V9:List V)=>
   bif (decide (0≤(v7.length:Int)))&&((decide ((v7.length:Int)≤(v7.length:Int)))&&(Nat.ble ((((v7.length:Int):Int).toNat)*40) b6)) then
   (Loop (HI C V8 (v7.length:Int) 0 0 0 0 false V9 v7 ([]:List V) ([]:List V)) (0,List.replicate (((v7.length:Int):Int).toNat) (V.agg [.int .i64 0,.int .i64 0,.list aa ([]:List V)]))).bind (un fun (rK:Int)=>un fun (BU:Bool) (ah7:List V)=>
    (C kP [.int .i64 4,.list aa ah7]).bind fun j9=>
    (C kP [.int .i64 5,.list aa V9]).bind fun dU=>
    some [.int .i64 ((V.nth j9 0).toInt),.int .i64 ((V.nth (j9.drop 1) 0).toInt),.list aa ((V.nth ((j9.drop 1).drop 1) 0).toList),.int .i64 ((V.nth dU 0).toInt),.int .i64 ((V.nth (dU.drop 1) 0).toInt),.list aa ((V.nth ((dU.drop 1).drop 1) 0).toList),.bool V8])
   else none)
 else none
theorem ah8 {bC:Int} {bt:Bool} {ah aq:Int} {af:List V} {r:Option (List V)} (h:V7 CC bC bt ah aq af=r):CC xZ [.int .i64 bC,.bool bt,.int .i64 ah,.int .i64 aq,.list aa af]=r:=
 aY (key:=72) (L:=V5 CC) (bs:=[.loop (aw [1,1,1,1,0,1,0,0] HG),.loop (aw [1,1,1,1,1,1,0,1,0,0] HG)]) (by kernel_rfl) (bx (ah5 CC) (bx (ah6 CC) av)) (aW (by kernel_rfl) h)
noncomputable abbrev HJ:Code:=cE Tryz.prog (ax.aV 60)
noncomputable def HK (C:ae) (t24:Bool) (dE dr:Int) (cM:List V) (ee ef rV rW:Int) (rX:Bool) (ah9 NR aia aib:Int) (dm b8 cP pn:List V) {β:Type} (kr:(Int × Int × (List V))→Option β):Option β:=
 bif t24 then
  kr (aia,aib,pn)
 else
  kr (ah9,NR,cP)
noncomputable def Wa (C:ae):ct:=fun β n ds k=>
 bif Nat.beq n 399 then iI LN [[2,3,4,5,6,7,8,9,0,0,14,15,0]] (@HK C) ds k else
 none
abbrev aic (C:ae) (b:cq):Prop:=cr Tryz.prog ax C (Wa C) 60 (cH Tryz.prog (ax.aV 60)) (ax.sin 60).bj.length b
theorem aid (C:ae):aic C (.cond 24 (aw [1,1,0,1,0,1,1,1,0,0,1,0] HJ) (aw [1,1,0,1,0,1,1,1,0,0,1,1] HJ)):=
 jl LN [[2,3,4,5,6,7,8,9,0,0,14,15,0]] (@HK C) (by kernel_rfl) (bf (bs:=[]) (by kernel_rfl) av) (bf (bs:=[]) (by kernel_rfl) av) (fun ds=>by kernel_rfl) (fun i β k=>by kernel_rfl) (fun β ds k=>by kernel_rfl)
noncomputable def Wb (C:ae) (bC:Int) (bt:Bool) (ah aq:Int) (af:List V):Option (List V):=
 bif (ah:Int)==2 then
  some [.int .i64 1,.int .i64 0,.list aa ([]:List V),.int .i64 2,.int .i64 0,.list aa ([]:List V),.bool true]
 else
  bif (ah:Int)==3 then
  HK C ((aq:Int)==bC) ah aq af 0 0 0 0 false 1 0 2 0 ([]:List V) ([]:List V) ([]:List V) ([]:List V) (un fun (NR:Int)=>un fun (aie:Int) (HL:List V)=>
   some [.int .i64 NR,.int .i64 aie,.list aa HL,.int .i64 3,.int .i64 aq,.list aa ([]:List V),.bool false])
  else
  bif (ah:Int)==4 then
   bif (ah:Int)==4 then
   (C xY [.int .i64 bC,.bool bt,.int .i64 ah,.int .i64 aq,.list aa af]).bind fun r4=>
   some [.int .i64 ((V.nth r4 0).toInt),.int .i64 ((V.nth (r4.drop 1) 0).toInt),.list aa ((V.nth ((r4.drop 1).drop 1) 0).toList),.int .i64 ((V.nth (((r4.drop 1).drop 1).drop 1) 0).toInt),.int .i64 ((V.nth ((((r4.drop 1).drop 1).drop 1).drop 1) 0).toInt),.list aa ((V.nth (((((r4.drop 1).drop 1).drop 1).drop 1).drop 1) 0).toList),.bool ((V.nth ((((((r4.drop 1).drop 1).drop 1).drop 1).drop 1).drop 1) 0).toBool)]
   else
   bif (ah:Int)==7 then
    (af[0]?).bind fun x5=>
    (C o5 [.int .i64 bC,.bool bt,.int .i64 ((x5.cell 0).toInt),.int .i64 ((x5.cell 1).toInt),.list aa ((x5.cell 2).toList)]).bind fun r6=>
    (C kP [.int .i64 7,.list aa ([.agg [.int .i64 ((V.nth (((r6.drop 1).drop 1).drop 1) 0).toInt),.int .i64 ((V.nth ((((r6.drop 1).drop 1).drop 1).drop 1) 0).toInt),.list aa ((V.nth (((((r6.drop 1).drop 1).drop 1).drop 1).drop 1) 0).toList)]]:List V)]).bind fun r7=>
    (C kP [.int .i64 5,.list aa ([.agg [.int .i64 ((V.nth r6 0).toInt),.int .i64 ((V.nth (r6.drop 1) 0).toInt),.list aa ((V.nth ((r6.drop 1).drop 1) 0).toList)],.agg [.int .i64 ((V.nth r7 0).toInt),.int .i64 ((V.nth (r7.drop 1) 0).toInt),.list aa ((V.nth ((r7.drop 1).drop 1) 0).toList)]]:List V)]).bind fun r8=>
    some [.int .i64 ((V.nth r8 0).toInt),.int .i64 ((V.nth (r8.drop 1) 0).toInt),.list aa ((V.nth ((r8.drop 1).drop 1) 0).toList),.int .i64 ((V.nth r7 0).toInt),.int .i64 ((V.nth (r7.drop 1) 0).toInt),.list aa ((V.nth ((r7.drop 1).drop 1) 0).toList),.bool true]
   else
    bif (ah:Int)==5 then
    (C xZ [.int .i64 bC,.bool bt,.int .i64 ah,.int .i64 aq,.list aa af]).bind fun r9=>
    some [.int .i64 ((V.nth r9 0).toInt),.int .i64 ((V.nth (r9.drop 1) 0).toInt),.list aa ((V.nth ((r9.drop 1).drop 1) 0).toList),.int .i64 ((V.nth (((r9.drop 1).drop 1).drop 1) 0).toInt),.int .i64 ((V.nth ((((r9.drop 1).drop 1).drop 1).drop 1) 0).toInt),.list aa ((V.nth (((((r9.drop 1).drop 1).drop 1).drop 1).drop 1) 0).toList),.bool ((V.nth ((((((r9.drop 1).drop 1).drop 1).drop 1).drop 1).drop 1) 0).toBool)]
    else
    some [.int .i64 1,.int .i64 0,.list aa ([]:List V),.int .i64 1,.int .i64 0,.list aa ([]:List V),.bool false]
  else
   bif (ah:Int)==6 then
   bif (ah:Int)==6 then
    (C xY [.int .i64 bC,.bool bt,.int .i64 ah,.int .i64 aq,.list aa af]).bind fun dg=>
    some [.int .i64 ((V.nth dg 0).toInt),.int .i64 ((V.nth (dg.drop 1) 0).toInt),.list aa ((V.nth ((dg.drop 1).drop 1) 0).toList),.int .i64 ((V.nth (((dg.drop 1).drop 1).drop 1) 0).toInt),.int .i64 ((V.nth ((((dg.drop 1).drop 1).drop 1).drop 1) 0).toInt),.list aa ((V.nth (((((dg.drop 1).drop 1).drop 1).drop 1).drop 1) 0).toList),.bool ((V.nth ((((((dg.drop 1).drop 1).drop 1).drop 1).drop 1).drop 1) 0).toBool)]
   else
    bif (ah:Int)==7 then
    (af[0]?).bind fun eY=>
    (C o5 [.int .i64 bC,.bool bt,.int .i64 ((eY.cell 0).toInt),.int .i64 ((eY.cell 1).toInt),.list aa ((eY.cell 2).toList)]).bind fun ep=>
    (C kP [.int .i64 7,.list aa ([.agg [.int .i64 ((V.nth (((ep.drop 1).drop 1).drop 1) 0).toInt),.int .i64 ((V.nth ((((ep.drop 1).drop 1).drop 1).drop 1) 0).toInt),.list aa ((V.nth (((((ep.drop 1).drop 1).drop 1).drop 1).drop 1) 0).toList)]]:List V)]).bind fun gU=>
    (C kP [.int .i64 5,.list aa ([.agg [.int .i64 ((V.nth ep 0).toInt),.int .i64 ((V.nth (ep.drop 1) 0).toInt),.list aa ((V.nth ((ep.drop 1).drop 1) 0).toList)],.agg [.int .i64 ((V.nth gU 0).toInt),.int .i64 ((V.nth (gU.drop 1) 0).toInt),.list aa ((V.nth ((gU.drop 1).drop 1) 0).toList)]]:List V)]).bind fun jY=>
    some [.int .i64 ((V.nth jY 0).toInt),.int .i64 ((V.nth (jY.drop 1) 0).toInt),.list aa ((V.nth ((jY.drop 1).drop 1) 0).toList),.int .i64 ((V.nth gU 0).toInt),.int .i64 ((V.nth (gU.drop 1) 0).toInt),.list aa ((V.nth ((gU.drop 1).drop 1) 0).toList),.bool true]
    else
    bif (ah:Int)==5 then
     (C xZ [.int .i64 bC,.bool bt,.int .i64 ah,.int .i64 aq,.list aa af]).bind fun oc=>
     some [.int .i64 ((V.nth oc 0).toInt),.int .i64 ((V.nth (oc.drop 1) 0).toInt),.list aa ((V.nth ((oc.drop 1).drop 1) 0).toList),.int .i64 ((V.nth (((oc.drop 1).drop 1).drop 1) 0).toInt),.int .i64 ((V.nth ((((oc.drop 1).drop 1).drop 1).drop 1) 0).toInt),.list aa ((V.nth (((((oc.drop 1).drop 1).drop 1).drop 1).drop 1) 0).toList),.bool ((V.nth ((((((oc.drop 1).drop 1).drop 1).drop 1).drop 1).drop 1) 0).toBool)]
    else
     some [.int .i64 1,.int .i64 0,.list aa ([]:List V),.int .i64 1,.int .i64 0,.list aa ([]:List V),.bool false]
   else
   bif (ah:Int)==8 then
    (C xY [.int .i64 bC,.bool bt,.int .i64 ah,.int .i64 aq,.list aa af]).bind fun gk=>
    some [.int .i64 ((V.nth gk 0).toInt),.int .i64 ((V.nth (gk.drop 1) 0).toInt),.list aa ((V.nth ((gk.drop 1).drop 1) 0).toList),.int .i64 ((V.nth (((gk.drop 1).drop 1).drop 1) 0).toInt),.int .i64 ((V.nth ((((gk.drop 1).drop 1).drop 1).drop 1) 0).toInt),.list aa ((V.nth (((((gk.drop 1).drop 1).drop 1).drop 1).drop 1) 0).toList),.bool ((V.nth ((((((gk.drop 1).drop 1).drop 1).drop 1).drop 1).drop 1) 0).toBool)]
   else
    bif (ah:Int)==7 then
    (af[0]?).bind fun rO=>
    (C o5 [.int .i64 bC,.bool bt,.int .i64 ((rO.cell 0).toInt),.int .i64 ((rO.cell 1).toInt),.list aa ((rO.cell 2).toList)]).bind fun j9=>
    (C kP [.int .i64 7,.list aa ([.agg [.int .i64 ((V.nth (((j9.drop 1).drop 1).drop 1) 0).toInt),.int .i64 ((V.nth ((((j9.drop 1).drop 1).drop 1).drop 1) 0).toInt),.list aa ((V.nth (((((j9.drop 1).drop 1).drop 1).drop 1).drop 1) 0).toList)]]:List V)]).bind fun dU=>
    (C kP [.int .i64 5,.list aa ([.agg [.int .i64 ((V.nth j9 0).toInt),.int .i64 ((V.nth (j9.drop 1) 0).toInt),.list aa ((V.nth ((j9.drop 1).drop 1) 0).toList)],.agg [.int .i64 ((V.nth dU 0).toInt),.int .i64 ((V.nth (dU.drop 1) 0).toInt),.list aa ((V.nth ((dU.drop 1).drop 1) 0).toList)]]:List V)]).bind fun iM=>
    some [.int .i64 ((V.nth iM 0).toInt),.int .i64 ((V.nth (iM.drop 1) 0).toInt),.list aa ((V.nth ((iM.drop 1).drop 1) 0).toList),.int .i64 ((V.nth dU 0).toInt),.int .i64 ((V.nth (dU.drop 1) 0).toInt),.list aa ((V.nth ((dU.drop 1).drop 1) 0).toList),.bool true]
    else
    bif (ah:Int)==5 then
     (C xZ [.int .i64 bC,.bool bt,.int .i64 ah,.int .i64 aq,.list aa af]).bind fun pj=>
     some [.int .i64 ((V.nth pj 0).toInt),.int .i64 ((V.nth (pj.drop 1) 0).toInt),.list aa ((V.nth ((pj.drop 1).drop 1) 0).toList),.int .i64 ((V.nth (((pj.drop 1).drop 1).drop 1) 0).toInt),.int .i64 ((V.nth ((((pj.drop 1).drop 1).drop 1).drop 1) 0).toInt),.list aa ((V.nth (((((pj.drop 1).drop 1).drop 1).drop 1).drop 1) 0).toList),.bool ((V.nth ((((((pj.drop 1).drop 1).drop 1).drop 1).drop 1).drop 1) 0).toBool)]
    else
     some [.int .i64 1,.int .i64 0,.list aa ([]:List V),.int .i64 1,.int .i64 0,.list aa ([]:List V),.bool false]
theorem aif {bC:Int} {bt:Bool} {ah aq:Int} {af:List V} {r:Option (List V)} (h:Wb CC bC bt ah aq af=r):CC o5 [.int .i64 bC,.bool bt,.int .i64 ah,.int .i64 aq,.list aa af]=r:=
 aY (key:=60) (L:=Wa CC) (bs:=[.cond 24 (aw [1,1,0,1,0,1,1,1,0,0,1,0] HJ) (aw [1,1,0,1,0,1,1,1,0,0,1,1] HJ)]) (by kernel_rfl) (bx (aid CC) av) (aW (by kernel_rfl) h)
end Go.AM
set_option maxRecDepth 100000
namespace Go.AM
open Go.Proofs Ex
def rY (c:Int) (e:Ex):List V:=bQ (aI (bO c e)) (bQ (aI e) [.bool e.cZ])
theorem NS {c:Int} {e:Ex} (hw:e.wf 6=true):(aI (bO c e)).size≤e.size*e.size:=
 lK (yF _ (tB e hw)) (NP e 6 hw)
theorem CR {a m:Nat} (h:a≤m):a*a≤m*m:=Nat.mul_le_mul h h
theorem Wc {e:Ex} (hw:e.wf 6=true) (hs:e.size≤1000000):Gd 6 (aI e)∧(aI e).Ok∧(aI e).size≤e.size:=by
 have h1:=lE e hw
 have U:=yF e hw
 exact ⟨h1,mZ (by omega) _ h1.2 (by omega),U⟩
def ng (c:Int):List Ex→List Ex
 | []=>[]
 | k::ks=>aI (bO c k)::(if k.cZ=true then ng c ks else [])
def CS (ss:List Ex):Nat→List Ex→List Ex
 | _,[]=>[]
 | i,d::ds=>(if d.op=1 then d else dV 5 0 (d::ss.drop (i+1)))::CS ss (i+1) ds
theorem Wd {c:Int}: ∀(ks pre:List Ex),CS ((pre++ks).map aI) pre.length (ng c ks)=tC c ks
 | [],pre=>rfl
 | k::ks,pre=>by
  have ih:=Wd (c:=c) ks (pre++[k])
  have e1:((pre++k::ks).map aI).drop (pre.length+1)=ks.map aI:=by
   rw[eD,cJ,show pre.length+1=(pre.map aI++[aI k]).length by simp,show pre.map aI++aI k::ks.map aI=(pre.map aI++[aI k])++ks.map aI by simp,List.drop_left]
  unfold ng tC CS HE
  rw[e1]
  refine congrArg _ ?_
  split
  ·rw[←ih];simp
  ·rfl
theorem We {c:Int}: ∀ks:List Ex,(ng c ks).length≤ks.length
 | []=>cg _
 | k::ks=>by
  have:=We (c:=c) ks
  unfold ng
  split<;>simp<;>omega
theorem Wf {c:Int}: ∀{ks:List Ex} {d:Ex},d∈ng c ks→∃k∈ks,d=aI (bO c k)
 | k::ks,d,h=>by
  unfold ng at h
  rcases dG.1 h with rfl|h
  ·exact ⟨k,by simp,rfl⟩
  ·split at h
   ·obtain ⟨x,hx,e⟩:=Wf h
    exact ⟨x,by simp[hx],e⟩
   ·cases h
theorem NT: ∀{ks:List Ex},(∀k∈ks,k.wf 6=true)→aN (ks.map aI)≤aN ks
 | [],_=>by simp[aN]
 | k::ks,h=>by
  have a:=yF k (h k (by simp))
  have b:=NT (ks:=ks) fun k hk=>h k (by simp[hk])
  simp only[cJ,aN];omega
theorem NU {ks:List Ex} {f:Ex→Ex} (h: ∀k∈ks,Gd 6 (f k)∧(f k).Ok):(∀k∈ks.map f,Gd 6 k)∧∀k∈ks.map f,k.Ok:=
 ⟨fun x hx=>by obtain ⟨k,hk,rfl⟩:=gG.1 hx;exact (h k hk).1,fun x hx=>by obtain ⟨k,hk,rfl⟩:=gG.1 hx;exact (h k hk).2⟩
def lG (ks:List Ex):Nat:=(ks.filter Ex.cZ).length
section
variable {c:Int} {nm:Bool} {ks:List Ex}
variable (hn:ks.length≤1000) (ih: ∀k∈ks,CC o5 (.int .i64 c:: .bool nm::bQ k [])=some (rY c k))
include hn ih
theorem aih {a b c1 c2 c3 c4:Int} {b1:Bool} {l1 l2 l3:List V}: ∀(ay pre:List Ex),ks=pre++ay→
  Loop (HF CC (ks.map enc) (ks.length:Int) c nm a b l1 c1 c2 c3 c4 b1 l2 l3) (((lG pre:Nat):Int),((pre.length:Nat):Int),(pre.map fun k=>aI (bO c k)).map enc++List.replicate ay.length zE,(pre.map aI).map enc++List.replicate ay.length zE)
   = some (((lG ks:Nat):Int),(ks.length:Int),false,(ks.map fun k=>aI (bO c k)).map enc,(ks.map aI).map enc):=by
 intro ay
 induction ay with
 | nil=>
  intro pre e
  rw[c9] at e
  subst e
  refine aS ?_
  simp only[HF,CN,un]
  rw[az,ai (by omega),bz (by omega)]
  simp
 | cons k ay ec=>
  intro pre e
  have bS:pre.length<ks.length:=by rw[e];simp
  have bM:idx (ks.map enc) (pre.length:Int)=some k.enc:=by rw[e];exact gB _ _ _
  refine (bJ ?_).trans (ec (pre++[k]) (by simp[e]))
  simp only[HF,CN,un]
  refine bT (kf bS) (bs bM ?_)
  rw[aU,aZ,aX]
  refine bs (ih k (by rw[e];simp)) ?_
  refine (tz (by simp)).trans ?_
  refine (tz (by simp)).trans ?_
  rw[Int.toNat_natCast]
  have hc:lG (pre++[k])=lG pre+(if k.cZ=true then 1 else 0):=by
   unfold lG
   rw[nq,b9]
   cases hk:k.cZ<;>simp[hk]
  have lp:lG pre≤pre.length:=tY _ _
  have sH:pre.length=((pre.map fun k=>aI (bO c k)).map enc).length:=by simp
  have jK:pre.length=((pre.map aI).map enc).length:=by simp
  rw[List.length_cons,tA sH,tA jK]
  cases hk:k.cZ with
  | true=>
   refine bT hk ?_
   rw[kZ (by omega),kZ (by omega),hc,hk]
   simp only[cW,eD,cJ,fT,b9,List.length_cons,List.length_nil]
   rw[dx (aI (bO c k)),dx (aI k)]
   rfl
  | false=>
   refine bF hk ?_
   rw[kZ (by omega),hc,hk]
   simp only[ai DV,eD,cJ,fT,b9,List.length_cons,List.length_nil]
   rw[dx (aI (bO c k)),dx (aI k)]
   rfl
theorem aii {c1 c2 c3 c4:Int} {b1:Bool} {l1 l2:List V} (hs: ∀k∈ks,CC Bv (.int .i64 c:: .bool nm::bQ k [])=some (eH (aI k))): ∀(ay pre B:List Ex) (b:Bool),ks=pre++ay→B.length≤pre.length→
  Loop (CP CC (ks.map enc) (ks.length:Int) c nm c1 c2 c3 c4 b1 l1 l2) (b,((pre.length:Nat):Int),B.map enc,(pre.map aI).map enc++List.replicate ay.length zE)
   = some (b&&ay.all Ex.cZ,(ks.length:Int),false,(B++(if b=true then ng c ay else [])).map enc,(ks.map aI).map enc):=by
 intro ay
 induction ay with
 | nil=>
  intro pre B b e hB
  rw[c9] at e
  subst e
  refine aS ?_
  simp only[CP,zh,un]
  rw[az,ai (by omega),bz (by omega)]
  simp[ng]
 | cons k ay ec=>
  intro pre B b e hB
  have bS:pre.length<ks.length:=by rw[e];simp
  have bM:idx (ks.map enc) (pre.length:Int)=some k.enc:=by rw[e];exact gB _ _ _
  have jK:pre.length=((pre.map aI).map enc).length:=by simp
  cases b with
  | false=>
   refine (bJ ?_).trans (ec (pre++[k]) B false (by simp[e]) (by simp;omega))
   simp only[CP,zh,un]
   refine bT (kf bS) (bs bM (bT rfl ?_))
   rw[aU,aZ,aX]
   refine bs (hs k (by rw[e];simp)) ?_
   refine (tz (by simp)).trans ?_
   rw[Int.toNat_natCast,List.length_cons,tA jK,kZ (by omega)]
   simp only[eD,cJ,fT,b9,List.length_cons,List.length_nil]
   rw[dx (aI k)]
   rfl
  | true=>
   refine ((bJ ?_).trans (ec (pre++[k]) (B++[aI (bO c k)]) k.cZ (by simp[e]) (by simp;omega))).trans ?_
   ·simp only[CP,zh,un]
    refine bT (kf bS) (bs bM (bF rfl ?_))
    rw[aU,aZ,aX]
    refine bs (ih k (by rw[e];simp)) ?_
    refine bT (ze (by simp;omega)) ?_
    refine (tz (by simp)).trans ?_
    rw[Int.toNat_natCast,List.length_cons,tA jK,kZ (by omega)]
    simp only[eD,cJ,fT,b9,List.length_cons,List.length_nil]
    rw[dx (aI k),dx (aI (bO c k))]
    rfl
   ·simp only[my,List.all_cons,cW]
    rw[show ng c (k::ay)=aI (bO c k)::(if k.cZ=true then ng c ay else []) from rfl,cF]
    rfl
end
theorem aij {ss D:List Ex} {b b1:Bool} {c1 c2 c3 c4:Int} {l1 l2:List V} (hD:D.length≤ss.length) (hss:ss.length≤1000) (hd: ∀d∈D,Gd 6 d∧d.Ok∧d.size≤500000) (hsg: ∀k∈ss,Gd 6 k∧k.Ok) (bh:aN ss≤500000): ∀(ay pre P:List Ex),D=pre++ay→P.length=pre.length→
  Loop (HI CC b (D.length:Int) c1 c2 c3 c4 b1 (ss.map enc) (D.map enc) l1 l2) (((pre.length:Nat):Int),P.map enc++List.replicate ay.length zE)
   = some ((D.length:Int),false,(P++CS ss pre.length ay).map enc):=by
 intro ay
 induction ay with
 | nil=>
  intro pre P e hP
  rw[c9] at e
  subst e
  refine aS ?_
  simp only[HI,CQ,un]
  rw[az,ai (by omega),bz (by omega)]
  simp[CS]
 | cons d ay ec=>
  intro pre P e hP
  have bS:pre.length<D.length:=by rw[e];simp
  have hm:d∈D:=by rw[e];simp
  have bM:(D.map enc)[pre.length]? =some d.enc:=by rw[e];simp
  have jK:pre.length=(P.map enc).length:=by simp[hP]
  refine ((bJ ?_).trans (ec (pre++[d]) (P++[if d.op=1 then d else dV 5 0 (d::ss.drop (pre.length+1))]) (by simp[e]) (by simp[hP]))).trans ?_
  ·simp only[HI,CQ,un]
   refine bT (kf bS) ?_
   refine (nf bM).trans ?_
   rw[aU,aZ,aX,dq]
   by_cases h1:d.op=1
   ·rw[aj h1,aj h1]
    refine (tz jK).trans ?_
    rw[Int.toNat_natCast,List.length_cons,tA jK,kZ (by omega)]
    simp only[eD,cJ,fT,b9,List.length_cons,List.length_nil]
    rw[dx d]
   ·rw[ai h1,ai h1,kZ (by omega),Int.toNat_natCast,aJ]
    refine bT (tZ.2 ⟨cx (by omega),cx (by omega)⟩) ?_
    have ht:((ss.map enc).drop (pre.length+1)).take (ss.length-(pre.length+1))=(ss.drop (pre.length+1)).map enc:=by
     rw[←List.map_drop,zU (by simp)]
    rw[ht]
    refine bT (ze (by simp;omega)) ?_
    have hg: ∀k∈d::ss.drop (pre.length+1),Gd 6 k∧k.Ok:=fun k hk=>by
     rcases dG.1 hk with rfl|hk
     ·exact ⟨(hd _ hm).1,(hd _ hm).2.1⟩
     ·exact hsg k (List.mem_of_mem_drop hk)
    have hz:aN (d::ss.drop (pre.length+1))≤1000000:=by
     have h1:=(hd d hm).2.2
     have U:=G5 (ss.take (pre.length+1)) (ss.drop (pre.length+1))
     rw[DQ] at U
     simp only[aN];omega
    rw[NL,←eD]
    refine bs (rU (o:=5) (fun k hk=>(hg k hk).1) (fun k hk=>(hg k hk).2) hz (by omega)) ?_
    refine (tz jK).trans ?_
    rw[Int.toNat_natCast,List.length_cons,tA jK]
    simp only[eD,cJ,fT,b9,List.length_cons,List.length_nil]
    rw[dx (dV 5 0 (d::ss.drop (pre.length+1)))]
    rfl
  ·rw[b9,cF]
   rfl
theorem Wg: ∀ks:List Ex,mh ks=ks.all Ex.cZ
 | []=>rfl
 | k::ks=>by simp[mh,Wg ks]
theorem Wh: ∀ks:List Ex,kT ks=decide ((lG ks:Int)>0)
 | []=>by simp[kT,lG]
 | k::ks=>by
  have:=Wh ks
  unfold lG at*
  cases hk:k.cZ
  ·simp[kT,hk,this]
  ·simp[kT,hk]
theorem Wi: ∀ks:List Ex,mh ks=((lG ks:Int)==(ks.length:Int))
 | []=>by simp[mh,lG]
 | k::ks=>by
  have h:=Wi ks
  have hl:lG ks≤ks.length:=tY _ _
  unfold lG at*
  rw[mh,h,oD]
  cases hk:k.cZ
  ·simp[hk];omega
  ·simp[hk]
theorem aik {c:Int} {nm:Bool}: ∀e:Ex,e.wf 6=true→e.size≤400→(nm=true→Gd 6 e)→CC o5 (.int .i64 c:: .bool nm::bQ e [])=some (rY c e):=
 ind fun o l ks ih hw hs lO=>by
  obtain ⟨h1,U⟩:=gT hw
  have hl:=kU ks
  have HM:aN ks≤399:=by simp only[size] at hs;omega
  have v8: ∀k∈ks,k.size≤399:=fun k hk=>lK (te hk) HM
  have hX: ∀k∈ks,CC o5 (.int .i64 c:: .bool nm::bQ k [])=some (rY c k):=fun k hk=>ih k hk (U k hk) (by have:=v8 k hk;omega) fun h=>(lO h).kids k hk
  have hsm: ∀k∈ks,CC Bv (.int .i64 c:: .bool nm::bQ k [])=some (eH (aI k)):=fun k hk=>by
   refine ahZ ?_
   unfold V1
   cases nm with
   | true=>refine bT rfl ?_;rw[M9 k ((lO rfl).kids k hk)];rfl
   | false=>
    refine bF rfl ?_
    have:=v8 k hk
    exact bs (VU (n:=6) (by omega) k (U k hk) (by omega)) rfl
  have eb: ∀k∈ks,(aI (bO c k)).size≤160000:=fun k hk=>by
   have a:=NS (c:=c) (U k hk)
   have b:=CR (v8 k hk)
   omega
  have CT: ∀k∈ks,Gd 6 (aI (bO c k))∧(aI (bO c k)).Ok:=fun k hk=>by
   have a:=lE _ (tB (c:=c) k (U k hk))
   have b:=eb k hk
   exact ⟨a,mZ (by omega) _ a.2 (by omega)⟩
  have HN: ∀k∈ks,Gd 6 (aI k)∧(aI k).Ok:=fun k hk=>by
   have a:=Wc (U k hk) (by have:=v8 k hk;omega)
   exact ⟨a.1,a.2.1⟩
  have hnz:=NT U
  have hbz:aN (ks.map fun k=>aI (bO c k))≤160000:=by
   have a:=NN (f:=fun k=>aI (bO c k)) fun k hk=>NS (c:=c) (U k hk)
   have b:=CR HM
   omega
  have NV:(o=4∨o=6∨o=8)→CC xY (.int .i64 c:: .bool nm::bQ (.node o l ks) [])=some (rY c (.node o l ks)):=fun ho=>by
   obtain ⟨a1,a2⟩:=NU CT
   obtain ⟨b1,b2⟩:=NU HN
   have jQ:l=0:=by rcases eK h1 with h|h<;>omega
   refine ah4 ?_
   unfold V4
   simp only[Ex.op,Ex.kids,Ex.bB,aJ]
   refine bT (HC (by omega)) (bT (HC (by omega)) ?_)
   have NW:=aih (ks:=ks) (nm:=nm) (c:=c) (by omega) hX (a:=o) (b:=l) (c1:=0) (c2:=0) (c3:=0) (c4:=0) (b1:=false) (l1:=ks.map enc) (l2:=[]) (l3:=[]) ks [] rfl
   rw[Int.toNat_natCast]
   refine bs NW ?_
   unfold rY
   rw[ahV ho,mi,jQ]
   rcases ho with rfl|rfl|rfl
   ·refine bs (rU a1 a2 (by omega) (.inl rfl)) ?_
    refine bs (rU b1 b2 (by omega) (.inl rfl)) ?_
    refine bT rfl ?_
    rw[←Wh]
    rfl
   ·refine bs (rU a1 a2 (by omega) (.inr (.inr rfl))) ?_
    refine bs (rU b1 b2 (by omega) (.inr (.inr rfl))) ?_
    refine bF rfl (bT rfl ?_)
    rw[←Wi]
    rfl
   ·obtain ⟨k,rfl⟩:=wB.1 (show ks.length=1 by rcases eK h1 with h|h<;>omega)
    refine bs (HB (CT k (by simp)).1 (.inr rfl)) ?_
    refine bs (HB (HN k (by simp)).1 (.inr rfl)) ?_
    refine bF rfl (bF rfl (bT rfl ?_))
    refine congrArg some ?_
    have:(((lG [k]:Nat):Int)==0)=(Ex.node 8 0 [k]).cZ:=by
     simp only[Ex.cZ,lG]
     cases hk:k.cZ<;>simp[hk,kT]
    rw[this]
    rfl
  have ail:o=5→CC xZ (.int .i64 c:: .bool nm::bQ (.node o l ks) [])=some (rY c (.node o l ks)):=fun ho=>by
   subst ho
   have bH:ks≠[]:=by rintro rfl;rcases eK h1 with h|h<;>simp at h<;>omega
   have jQ:l=0:=by rcases eK h1 with h|h<;>omega
   obtain ⟨b1,b2⟩:=NU HN
   have hD:=We (c:=c) ks
   refine ah8 ?_
   unfold V7
   simp only[Ex.op,Ex.kids,Ex.bB,aJ]
   refine bT (HC (by omega)) ?_
   rw[Int.toNat_natCast]
   have NW:=aii (ks:=ks) (nm:=nm) (c:=c) (by omega) hX (c1:=0) (c2:=0) (c3:=0) (c4:=0) (b1:=false) (l1:=[]) (l2:=[]) hsm ks [] [] true rfl (cg _)
   refine bs NW ?_
   simp only[un,List.nil_append,cW,my,aJ]
   refine bT (HC (by omega)) ?_
   rw[Int.toNat_natCast]
   have bS:=aij (ss:=ks.map aI) (D:=ng c ks) (b:=ks.all Ex.cZ) (c1:=0) (c2:=0) (c3:=0) (c4:=0) (b1:=false) (l1:=[]) (l2:=[]) (by simp;omega) (by simp;omega) (fun d hd=>by
    obtain ⟨k,hk,rfl⟩:=Wf hd
    have:=eb k hk
    exact ⟨(CT k hk).1,(CT k hk).2,by omega⟩) (fun k hk=>⟨b1 k hk,b2 k hk⟩) (by omega) (ng c ks) [] [] rfl rfl
   have he:=Wd (c:=c) ks []
   rw[List.nil_append] at he
   rw[List.length_nil] at bS he
   rw[he] at bS
   refine bs bS ?_
   simp only[un,List.nil_append]
   have wZ:=parts_eq (c:=c) U
   have Wj:=HD (c:=c) U fun k hk=>tB k (U k hk)
   have hcz:aN (im c ks)≤160000:=by
    have a:=NO (c:=c) (ks:=ks) fun k hk=>NP k 6 (U k hk)
    have b:=CR (show 1+aN ks≤400 by omega)
    omega
   have hpz:aN (tC c ks)≤160000:=by rw[wZ];have:=NT Wj;omega
   have Wk: ∀k∈tC c ks,Gd 6 k∧k.Ok:=fun k hk=>by
    have hz:=te hk
    rw[wZ] at hk
    obtain ⟨x,hx,rfl⟩:=gG.1 hk
    have a:=lE x (Wj x hx)
    exact ⟨a,mZ (by omega) _ a.2 (by omega)⟩
   refine bs (rU (fun k hk=>(Wk k hk).1) (fun k hk=>(Wk k hk).2) (by omega) (.inl rfl)) ?_
   refine bs (rU b1 b2 (by omega) (.inr (.inl rfl))) ?_
   unfold rY
   rw[ahY bH U,mi,jQ,←Wg]
   rfl
  refine aif ?_
  unfold Wb HK
  simp only[Ex.op,Ex.kids,Ex.bB]
  rcases eK h1 with ⟨rfl,h⟩|⟨rfl,⟨rfl,h⟩|⟨rfl,h⟩|⟨rfl,h⟩|⟨rfl,h⟩|⟨rfl,h⟩|⟨rfl,h⟩|⟨rfl,h⟩⟩
  ·obtain rfl:=mz.1 (show ks.length=0 by omega)
   refine bF rfl (bT rfl ?_)
   unfold rY
   rw[ot,aj rfl,mi,j6 (by omega)]
   rw[dq]
   by_cases oY:l=c
   ·rw[aj oY,aj oY];rfl
   ·rw[ai oY,ai oY];rfl
  ·obtain rfl:=mz.1 (show ks.length=0 by omega)
   rfl
  ·obtain rfl:=mz.1 (show ks.length=0 by omega)
   rfl
  ·exact bF rfl (bF rfl (bT rfl (bT rfl (bs (NV (.inl rfl)) rfl))))
  ·refine bF rfl (bF rfl (bF rfl (bF rfl (bF rfl (bF rfl (bT rfl ?_))))))
   exact bs (ail rfl) rfl
  ·exact bF rfl (bF rfl (bF rfl (bT rfl (bT rfl (bs (NV (.inr (.inl rfl))) rfl)))))
  ·obtain ⟨k,rfl⟩:=wB.1 (show ks.length=1 by omega)
   refine bF rfl (bF rfl (bF rfl (bF rfl (bF rfl (bT rfl ?_)))))
   refine bs (a:=k.enc) rfl ?_
   rw[aU,aZ,aX]
   refine bs (hX k (by simp)) ?_
   have hk:=HN k (by simp)
   have hb:=CT k (by simp)
   have hj:=HB hk.1 (o:=7) (.inl rfl)
   rw[cJ,fT,dx] at hj
   refine bs hj ?_
   have pT:dV 7 0 [aI k]=aI (.node 7 0 [k]):=by rw[mi];rfl
   have NX:=Wc hw (by omega)
   have hz2:=eb k (by simp)
   have gv:=rU (n:=6) (ks:=[aI (bO c k),aI (.node 7 0 [k])]) (o:=5) (fun x hx=>by
    rcases dG.1 hx with rfl|hx
    ·exact hb.1
    ·rw[eC.1 hx];exact NX.1) (fun x hx=>by
    rcases dG.1 hx with rfl|hx
    ·exact hb.2
    ·rw[eC.1 hx];exact NX.2.1) (by have:=NX.2.2;simp only[aN];omega) (by omega)
   rw[cJ,cJ,fT,dx (aI (bO c k)),dx (aI (.node 7 0 [k])),←pT] at gv
   refine bs gv ?_
   unfold rY
   rw[ahW,←pT]
   rfl
  ·exact bF rfl (bF rfl (bF rfl (bF rfl (bT rfl (bs (NV (.inr (.inr rfl))) rfl)))))
structure Dv where
 L:Int
 es:List Ex
 nx:List (List Int)
 dn:Int
deriving DecidableEq
def Dv.zero:Dv:=⟨0,[],[],0⟩
def ou (e:Ex) (c:Nat):Option Ex:=if (aI (bO c e)).val 6=0 then some (aI (bO c e)) else none
def kg (e:Ex):Nat→Nat→List Ex→List Int→Option (List Ex × List Int)
 | 0,_,es,row=>some (es,row)
 | n+1,x,es,row=>(ou e x).bind fun d=>
  if d∈es then kg e n (x+1) es (row++[(es.idxOf d:Int)])
  else if es.length=512 then none else kg e n (x+1) (es++[d]) (row++[(es.length:Int)])
def proc (s:Dv):Option Dv:=(kg (s.es.getD s.dn.toNat aG) s.L.toNat 0 s.es []).map fun p=>⟨s.L,p.1,s.nx++[p.2],s.dn+1⟩
def eL:Nat→Dv→Option Dv
 | 0,s=>some s
 | n+1,s=>if s.dn<s.es.length then (proc s).bind (eL n) else some s
def ov:Nat→Dv→Option Dv
 | 0,s=>some s
 | n+1,s=>if s.dn<s.es.length then (proc s).bind (ov n) else none
def fD (e:Ex) (L:Int):Dv:=⟨L,[aI e],[],0⟩
def iq (d:Dv):Bool:=decide (d.es≠[]∧d.es.length≤512∧(d.es.getD 0 aG).val d.L=0∧0≤d.dn∧ov d.dn.toNat (fD (d.es.getD 0 aG) d.L)=some d)
def tE (d:Dv) (b:Int):Dv × Int:=if iq d=true then (if b<0 then (.zero,1) else match eL b.toNat d with|none=>(.zero,3)|some t=>(t,0)) else (.zero,8)
theorem Wl {L:Int} (h:L≤6): ∀e:Ex,e.wf L=true→e.wf 6=true:=ind fun o l ks ih hw=>by
 obtain ⟨h1,U⟩:=gT hw
 refine vD ?_ fun k hk=>ih k hk (U k hk)
 unfold dS at h1⊢
 by_cases ho:o=3
 ·rw[aj ho] at h1⊢
  have:=gm h1
  exact cx (by omega)
 ·rw[ai ho] at h1⊢;exact h1
theorem HO {e:Ex} {L:Int} (h:e.val L=0):(1≤L∧L≤6)∧e.depth≤40∧e.size≤400∧e.wf L=true:=by
 unfold Ex.val at h
 repeat' split at h
 all_goals first|omega|skip
 next a b c=>exact ⟨a,b.1,b.2,c⟩
theorem val_mk {e:Ex} {L:Int} (h:(1≤L∧L≤6)∧e.depth≤40∧e.size≤400∧e.wf L=true):e.val L=0:=by
 unfold Ex.val
 rw[aj h.1,aj ⟨h.2.1,h.2.2.1⟩,aj h.2.2.2]
theorem tF {e:Ex} {L:Int} (h:e.val L=0):e.val 6=0:=by
 obtain ⟨h1,U,h3,h4⟩:=HO h
 exact val_mk ⟨by omega,U,h3,Wl h1.2 e h4⟩
theorem HP {e:Ex} {L:Int} (h:e.val L=0):(aI e).val L=0:=by
 obtain ⟨h1,U,h3,h4⟩:=HO h
 have:=yF e h4
 have:=afg e h4
 exact val_mk ⟨h1,by omega,by omega,(lE e h4).2⟩
def Nv (e:Ex):Prop:=Gd 6 e∧e.val 6=0
theorem Nv.aI {e:Ex} (h:Nv e):aI e=e:=M9 e h.1
theorem NY {e d:Ex} {c:Nat} (he:Nv e) (h:ou e c=some d):Nv d∧d=Go.AM.aI (bO c e):=by
 unfold ou at h
 split at h
 ·next hv=>
  cases h
  exact ⟨⟨lE _ (tB e he.1.2),hv⟩,rfl⟩
 ·cases h
structure Es (es:List Ex):Prop where
 le:es.length≤512
 nv: ∀e∈es,Nv e
 nd:es.Nodup
def qn (e:Ex) (es:List Ex) (n:Nat) (row:List Int):Prop:=row.length=n∧∀x,x<n→∃j:Nat,row.getD x 0=j∧j<es.length∧ou e x=some (es.getD j aG)
theorem qn.mono {e:Ex} {es t:List Ex} {n:Nat} {row:List Int} (h:qn e es n row):qn e (es++t) n row:=⟨h.1,fun x hx=>by
 obtain ⟨j,h1,U,h3⟩:=h.2 x hx
 refine ⟨j,h1,by rw[b9];omega,?_⟩
 rw[h3,fU,fU,iP U]⟩
theorem qn.snoc {e:Ex} {es:List Ex} {n j:Nat} {row:List Int} (h:qn e es n row) (h1:j<es.length) (U:ou e n=some (es.getD j aG)):qn e es (n+1) (row++[(j:Int)]):=by
 refine ⟨by rw[b9,h.1];rfl,fun x hx=> ?_⟩
 rcases pB x n with c|c
 ·obtain ⟨i,i1,i2,i3⟩:=h.2 x c
  refine ⟨i,?_,i2,i3⟩
  rw[←i1,fU,fU,iP (by rw[h.1];exact c)]
 ·obtain rfl:x=n:=by omega
  refine ⟨j,?_,h1,U⟩
  rw[fU,iQ (by rw[h.1];exact cg _),h.1]
  simp
theorem Es.snoc {es:List Ex} {d:Ex} (h:Es es) (hd:Nv d) (hn:d∉es) (hl:es.length≠512):Es (es++[d]):=by
 refine ⟨by have:=h.le;simp;omega,fun e he=> ?_,?_⟩
 ·rcases eN.1 he with he|he
  ·exact h.nv e he
  ·rw[eC.1 he];exact hd
 ·rw[wA]
  refine ⟨h.nd,by simp,fun a ha b hb=> ?_⟩
  rw[eC.1 hb]
  rintro rfl
  exact hn ha
theorem aim {es:List Ex} {d:Ex} (h:d∈es):es.getD (es.idxOf d) aG=d:=by
 have:=DW.2 h
 rw[fU,bG this,Option.getD_some,List.getElem_idxOf]
theorem NZ {e:Ex} (he:Nv e): ∀(n x:Nat) (es:List Ex) (row:List Int) (p:List Ex × List Int),Es es→qn e es x row→kg e n x es row=some p→Es p.1∧qn e p.1 (x+n) p.2∧∃t,p.1=es++t
 | 0,x,es,row,p,h1,U,h=>by
  cases h
  exact ⟨h1,U,[],by simp⟩
 | n+1,x,es,row,p,h1,U,h=>by
  rw[kg] at h
  cases hs:ou e x with
  | none=>rw[hs] at h;cases h
  | some d=>
   rw[hs] at h
   obtain ⟨hd,_⟩:=NY he hs
   simp only[Option.bind_some] at h
   by_cases hm:d∈es
   ·rw[aj hm] at h
    have:=NZ he n (x+1) es _ p h1 (U.snoc (DW.2 hm) (by rw[hs,aim hm])) h
    rw[show x+(n+1)=x+1+n by omega]
    exact this
   ·rw[ai hm] at h
    by_cases hl:es.length=512
    ·rw[aj hl] at h;cases h
    ·rw[ai hl] at h
     obtain ⟨a,b,t,c⟩:=NZ he n (x+1) (es++[d]) _ p (h1.snoc hd hm hl) (U.mono.snoc (by simp) (by rw[hs,fU];simp)) h
     rw[show x+(n+1)=x+1+n by omega]
     exact ⟨a,b,d::t,by rw[c,cF];rfl⟩
structure Gs (s:Dv):Prop where
 L:1≤s.L∧s.L≤6
 ne:s.es≠[]
 es:Es s.es
 dn:0≤s.dn∧s.dn≤s.es.length
 nl:s.nx.length=s.dn.toNat
 row: ∀q,q<s.dn.toNat→qn (s.es.getD q aG) s.es s.L.toNat (s.nx.getD q [])
theorem CU {α:Type} {a b:List α} {i:Nat} {z:α} (h:i<a.length):(a++b).getD i z=a.getD i z:=by
 rw[fU,fU,iP h]
theorem po {α:Type} {a:List α} {i:Nat} {z:α} (h:i<a.length):a.getD i z∈a:=by
 rw[fU,bG h];simp
theorem N0 {s t:Dv} (h:proc s=some t): ∃p,kg (s.es.getD s.dn.toNat aG) s.L.toNat 0 s.es []=some p∧t=⟨s.L,p.1,s.nx++[p.2],s.dn+1⟩:=by
 unfold proc at h
 cases hr:kg (s.es.getD s.dn.toNat aG) s.L.toNat 0 s.es [] with
 | none=>rw[hr] at h;cases h
 | some p=>rw[hr] at h;cases h;exact ⟨p,rfl,rfl⟩
theorem zi {s t:Dv} (hs:Gs s) (hd:s.dn<s.es.length) (h:proc s=some t):Gs t∧t.L=s.L∧t.dn=s.dn+1∧∃r,t.es=s.es++r:=by
 obtain ⟨p,hp,rfl⟩:=N0 h
 have CV:=hs.dn
 have hq:s.dn.toNat<s.es.length:=by omega
 obtain ⟨a,b,r,c⟩:=NZ (hs.es.nv _ (po hq)) _ 0 _ _ p hs.es ⟨rfl,fun x hx=>by omega⟩ hp
 have hn:=hs.nl
 refine ⟨⟨hs.L,by rw[c];simp[hs.ne],a,⟨by show 0≤s.dn+1;omega,?_⟩,?_,fun q AK=> ?_⟩,rfl,rfl,r,c⟩
 ·show s.dn+1≤(p.1.length:Int)
  rw[c,b9];omega
 ·show (s.nx++[p.2]).length=(s.dn+1).toNat
  rw[b9,hn];simp;omega
 ·have hq3:q<(s.dn+1).toNat:=AK
  show qn (p.1.getD q aG) p.1 s.L.toNat ((s.nx++[p.2]).getD q [])
  rcases pB q s.dn.toNat with e|e
  ·rw[CU (by omega),c,CU (by omega)]
   exact (hs.row q e).mono
  ·obtain rfl:q=s.dn.toNat:=by omega
   rw[fU (l:=s.nx++[p.2]),iQ (by omega),hn,Nat.sub_self]
   simp only[List.getElem?_cons_zero,Option.getD_some]
   rw[gY] at b
   have e1:p.1.getD s.dn.toNat aG=s.es.getD s.dn.toNat aG:=by rw[c,CU (by omega)]
   rw[e1]
   exact b
theorem tG: ∀(n:Nat) (s t:Dv),Gs s→eL n s=some t→Gs t∧t.L=s.L∧(∃r,t.es=s.es++r)∧(t.dn=t.es.length∨t.dn=s.dn+n)
 | 0,s,t,hs,h=>by cases h;exact ⟨hs,rfl,⟨[],by simp⟩,.inr (by simp)⟩
 | n+1,s,t,hs,h=>by
  rw[eL] at h
  by_cases hd:s.dn<s.es.length
  ·rw[aj hd] at h
   cases hp:proc s with
   | none=>rw[hp] at h;cases h
   | some u=>
    rw[hp] at h
    obtain ⟨a,b,c,r,d⟩:=zi hs hd hp
    obtain ⟨e,f,⟨r2,g⟩,i⟩:=tG n u t a h
    refine ⟨e,f.trans b,⟨r++r2,by rw[g,d,cF]⟩,?_⟩
    rcases i with i|i
    ·exact .inl i
    ·exact .inr (by rw[i,c];omega)
  ·rw[ai hd] at h
   cases h
   exact ⟨hs,rfl,⟨[],by simp⟩,.inl (by have:=hs.dn;omega)⟩
theorem Wm: ∀(n:Nat) (s t:Dv),Gs s→eL n s=some t→∃k:Nat,ov k s=some t∧t.dn=s.dn+k
 | 0,s,t,_,h=>⟨0,h,by cases h;simp⟩
 | n+1,s,t,hs,h=>by
  rw[eL] at h
  by_cases hd:s.dn<s.es.length
  ·rw[aj hd] at h
   cases hp:proc s with
   | none=>rw[hp] at h;cases h
   | some u=>
    rw[hp] at h
    obtain ⟨a,b,c,_⟩:=zi hs hd hp
    obtain ⟨k,h1,U⟩:=Wm n u t a h
    refine ⟨k+1,?_,by rw[U,c];omega⟩
    rw[ov,aj hd,hp];exact h1
  ·rw[ai hd] at h
   cases h
   exact ⟨0,rfl,by simp⟩
theorem CW: ∀(n:Nat) (s t:Dv),ov n s=some t→eL n s=some t
 | 0,s,t,h=>h
 | n+1,s,t,h=>by
  rw[ov] at h
  by_cases hd:s.dn<s.es.length
  ·rw[aj hd] at h
   rw[eL,aj hd]
   cases hp:proc s with
   | none=>rw[hp] at h;cases h
   | some u=>rw[hp] at h;exact CW n u t h
  ·rw[ai hd] at h;cases h
theorem v9 {e:Ex} {L:Int} (h:e.val L=0):Gs (fD e L):=by
 obtain ⟨h1,U,h3,h4⟩:=HO h
 refine ⟨h1,by simp[fD],⟨by simp[fD],fun x hx=> ?_,by simp[fD]⟩,by simp[fD],rfl,fun q hq=>by simp[fD] at hq⟩
 rw[eC.1 hx]
 exact ⟨lE e (Wl h1.2 e h4),tF (HP h)⟩
theorem ain {e:Ex} {L:Int} (h:e.val L=0):aI (aI e)=aI e:=M9 _ (lE e (HO h).2.2.2)
theorem aio {e:Ex} {L:Int} (h:e.val L=0) {n:Nat} {t:Dv} (ht:eL n (fD e L)=some t):iq t=true:=by
 have hs:=v9 h
 obtain ⟨g,g1,⟨r,g2⟩,_⟩:=tG n _ _ hs ht
 obtain ⟨k,k1,k2⟩:=Wm n _ _ hs ht
 have e0:t.es.getD 0 aG=aI e:=by rw[g2];rfl
 have e1:t.L=L:=g1
 have e2:fD (aI e) L=fD e L:=by unfold fD;rw[ain h]
 refine cx ⟨g.ne,g.es.le,by rw[e0,e1];exact HP h,g.dn.1,?_⟩
 rw[e0,e1,e2]
 have:t.dn.toNat=k:=by
  rw[k2];show ((0:Int)+k).toNat=k;omega
 rw[this];exact k1
theorem HQ {d:Dv} (h:iq d=true):Gs d∧∃n,eL n (fD (d.es.getD 0 aG) d.L)=some d:=by
 obtain ⟨h1,U,h3,h4,h5⟩:=gm h
 have:=CW _ _ _ h5
 exact ⟨(tG _ _ _ (v9 h3) this).1,_,this⟩
end Go.AM
set_option maxRecDepth 100000
namespace Go.AM
open Go.Proofs
noncomputable def Wn (C:ae) (bC bt:Int) (cD:List V) (cB N3:Int) (N4:List V) (N5:Bool):Option (List V):=
 (C s4 [.int .i64 bC,.int .i64 bt,.list aa cD,.int .i64 6]).bind fun r1=>
 bif (((V.nth r1 0).toInt):Int) != 0 then
  some [.int .i64 0,.int .i64 0,.list aa ([]:List V),.int .i64 3]
 else
  some [.int .i64 bC,.int .i64 bt,.list aa cD,.int .i64 0]
theorem aip {bC bt:Int} {cD:List V} {cB N3:Int} {N4:List V} {N5:Bool} {r:Option (List V)} (h:Wn CC bC bt cD cB N3 N4 N5=r):CC Gc [.int .i64 bC,.int .i64 bt,.list aa cD,.int .i64 cB,.int .i64 N3,.list aa N4,.bool N5]=r:=
 aY (key:=59) (L:=cd) (bs:=[]) (by kernel_rfl) av (aW (by kernel_rfl) h)
noncomputable def Wo (C:ae) (ah aq:Int) (af:List V) (bB:Int):Option (List V):=
 (C o5 [.int .i64 bB,.bool true,.int .i64 ah,.int .i64 aq,.list aa af]).bind fun r1=>
 (C Gc [.int .i64 ((V.nth r1 0).toInt),.int .i64 ((V.nth (r1.drop 1) 0).toInt),.list aa ((V.nth ((r1.drop 1).drop 1) 0).toList),.int .i64 ((V.nth (((r1.drop 1).drop 1).drop 1) 0).toInt),.int .i64 ((V.nth ((((r1.drop 1).drop 1).drop 1).drop 1) 0).toInt),.list aa ((V.nth (((((r1.drop 1).drop 1).drop 1).drop 1).drop 1) 0).toList),.bool ((V.nth ((((((r1.drop 1).drop 1).drop 1).drop 1).drop 1).drop 1) 0).toBool)]).bind fun r2=>
 some [.int .i64 ((V.nth r2 0).toInt),.int .i64 ((V.nth (r2.drop 1) 0).toInt),.list aa ((V.nth ((r2.drop 1).drop 1) 0).toList),.int .i64 ((V.nth (r2.drop 3) 0).toInt)]
theorem aiq {ah aq:Int} {af:List V} {bB:Int} {r:Option (List V)} (h:Wo CC ah aq af bB=r):CC F7 [.int .i64 ah,.int .i64 aq,.list aa af,.int .i64 bB]=r:=
 aY (key:=47) (L:=cd) (bs:=[]) (by kernel_rfl) av (aW (by kernel_rfl) h)
end Go.AM
set_option maxRecDepth 100000
namespace Go.AM
open Go.Proofs Ex
abbrev N6 (p:Ex × Int):List V:=bQ p.1 [.int .i64 p.2]
def qo (x:Ex):Ex × Int:=if x.val 6=0 then (x,0) else (aG,3)
def N7 (e:Ex) (c:Int):Ex × Int:=if e.val 6=0 then (if 0≤c∧c<6 then qo (aI (bO c e)) else (aG,1)) else (aG,e.val 6)
theorem air {x y:Ex} {b:Bool} (hx:x.Ok):CC Gc (bQ x (bQ y [.bool b]))=some (N6 (qo x)):=by
 refine aip ?_
 unfold Wn qo
 refine bs (vy x hx 6) ?_
 by_cases hv:x.val 6=0
 ·rw[aj hv]
  exact bF (by simp[hv]) rfl
 ·rw[ai hv]
  exact bT (by simp[hv]) rfl
theorem Wp {c:Int} {e:Ex} (hv:e.val 6=0):Gd 6 (aI (bO c e))∧(aI (bO c e)).Ok∧(aI (bO c e)).size≤160000:=by
 obtain ⟨_,U,h3⟩:=jX hv
 have a:=lE _ (tB (c:=c) e h3)
 have b:=NS (c:=c) h3
 have d:=CR U
 exact ⟨a,mZ (by omega) _ a.2 (by omega),by omega⟩
theorem ais {e:Ex} (he:Nv e) (c:Int):CC F7 (bQ e [.int .i64 c])=some (N6 (qo (aI (bO c e)))):=by
 obtain ⟨_,U,h3⟩:=jX he.2
 refine aiq ?_
 unfold Wo
 refine bs (aik (c:=c) (nm:=true) e h3 U fun _=>he.1) ?_
 refine bs (air (y:=aI e) (b:=e.cZ) (Wp (c:=c) he.2).2.1) ?_
 unfold qo
 split<;>rfl
def gl (op:Int):Int:=if op=4 then 1 else if op=6 then 2 else if op=5 then 3 else if op=8 then 4 else if op=7 then 5 else 6
def eM (op least:Int) (t:List UInt8):List UInt8:=if gl op<least then 40::(t++[41]) else t
mutual
def Ex.text:Ex→List UInt8
 | .node o l ks=>
  if o=1 then [48] else if o=2 then [49] else if o=3 then [UInt8.ofNat (97+l).toNat]
  else if o=8 then 33::texts [] 4 true ks else if o=7 then texts [] 5 true ks++[42]
  else if o=4 then texts [124] 2 true ks else if o=6 then texts [38] 3 true ks else texts [] 4 true ks
def Ex.texts (sep:List UInt8) (least:Int) (first:Bool):List Ex→List UInt8
 | []=>[]
 | k::ks=>(if first then [] else sep)++(eM k.op least (text k)++texts sep least false ks)
end
theorem ait (op least:Int) (t:List UInt8):(eM op least t).length≤t.length+2:=by
 unfold eM;split<;>simp
theorem Wq (sep:List UInt8) (hs:sep.length≤1) (least:Int): ∀(ks:List Ex) (f:Bool),(∀k∈ks,k.text.length+3≤4*k.size)→(texts sep least f ks).length≤4*aN ks
 | [],f,_=>by simp[texts]
 | k::ks,f,h=>by
  have h1:=h k (by simp)
  have U:=Wq sep hs least ks false fun k hk=>h k (by simp[hk])
  have h3:=ait k.op least k.text
  simp only[texts,b9,aN]
  cases f<;>simp<;>omega
theorem Wr: ∀e:Ex,e.text.length+3≤4*e.size:=ind fun o l ks ih=>by
 have h:=fun sep hs least=>Wq sep hs least ks true ih
 have h1:=h [] (by simp) 4
 have U:=h [] (by simp) 5
 have h3:=h [124] (by simp) 2
 have h4:=h [38] (by simp) 3
 simp only[text,size]
 repeat' split
 all_goals simp
 all_goals omega
def TX (m:Int) (k:Ex):List UInt8:=eM k.op m k.text
def mb (o:Int) (e:Ex):List Ex:=if e.op=o then e.kids else [e]
theorem CX (sep:List UInt8) (m:Int) (k:Ex) (ks:List Ex):texts sep m false (k::ks)=sep++(TX m k++texts sep m false ks):=by simp[texts,TX]
theorem CY (sep:List UInt8) (m:Int) (k:Ex) (ks:List Ex):texts sep m true (k::ks)=TX m k++texts sep m false ks:=by simp[texts,TX]
theorem Ws (e:Ex):TX 1 e=texts [124] 2 true (mb 4 e):=by
 obtain ⟨o,l,ks⟩:=e
 unfold mb TX
 by_cases h:o=4
 ·subst h;simp[Ex.op,Ex.kids,gl,text,eM]
 ·have hl:2≤gl o:=by
   unfold gl
   repeat' split
   all_goals omega
  rw[ai (show¬(Ex.node o l ks).op=4 from h),CY]
  show eM o 1 _=eM o 2 _++[]
  rw[c9]
  unfold eM
  by_cases U:gl o<1
  ·rw[aj U,aj (by omega)]
  ·rw[ai U,ai (by omega)]
theorem Wt (e:Ex):TX 2 e=texts [38] 3 true (mb 6 e):=by
 obtain ⟨o,l,ks⟩:=e
 unfold mb TX
 by_cases h:o=6
 ·subst h;simp[Ex.op,Ex.kids,gl,text,eM]
 ·have hl:gl o≠2:=by
   unfold gl
   repeat' split
   all_goals omega
  rw[ai (show¬(Ex.node o l ks).op=6 from h),CY]
  show eM o 2 _=eM o 3 _++[]
  rw[c9]
  unfold eM
  by_cases U:gl o<2
  ·rw[aj U,aj (by omega)]
  ·rw[ai U,ai (by omega)]
theorem Wu (e:Ex):TX 3 e=texts [] 4 true (mb 5 e):=by
 obtain ⟨o,l,ks⟩:=e
 unfold mb TX
 by_cases h:o=5
 ·subst h;simp[Ex.op,Ex.kids,gl,text,eM]
 ·have hl:gl o≠3:=by
   unfold gl
   repeat' split
   all_goals omega
  rw[ai (show¬(Ex.node o l ks).op=5 from h),CY]
  show eM o 3 _=eM o 4 _++[]
  rw[c9]
  unfold eM
  by_cases U:gl o<3
  ·rw[aj U,aj (by omega)]
  ·rw[ai U,ai (by omega)]
theorem CZ (l:Int) (k:Ex):TX 4 (.node 8 l [k])=33::TX 4 k:=by
 simp[TX,eM,Ex.op,gl,text,texts]
theorem C2 {e:Ex} (h:e.op≠8):TX 4 e=TX 5 e:=by
 unfold TX eM gl
 repeat' split
 all_goals first|rfl|omega
theorem aiu (l:Int) (k:Ex):TX 5 (.node 7 l [k])=TX 5 k++[42]:=by
 simp[TX,eM,Ex.op,gl,text,texts]
theorem aiv {e:Ex} (h:e.op≠7):TX 5 e=TX 6 e:=by
 unfold TX eM gl
 repeat' split
 all_goals first|rfl|omega
theorem qp {e:Ex} (h:4≤e.op∧e.op≤8):TX 6 e=40::(TX 1 e++[41]):=by
 unfold TX eM gl
 repeat' split
 all_goals first|rfl|omega
theorem N8 {e:Ex} (h:e.wf 6=true):(e= .node 1 0 []∨e= .node 2 0 []∨(∃l:Int,0≤l∧l<6∧e= .node 3 l []))∨(4≤e.op∧e.op≤8):=by
 obtain ⟨o,l,ks⟩:=e
 obtain ⟨h1,U⟩:=gT h
 simp only[Ex.op]
 rcases eK h1 with ⟨rfl,h,h3,h4⟩|⟨rfl,⟨rfl,h⟩|⟨rfl,h⟩|⟨rfl,h⟩|⟨rfl,h⟩|⟨rfl,h⟩|⟨rfl,h⟩|⟨rfl,h⟩⟩
 ·obtain rfl:=mz.1 (show ks.length=0 by omega)
  exact .inl (.inr (.inr ⟨l,h3,h4,rfl⟩))
 ·obtain rfl:=mz.1 (show ks.length=0 by omega)
  exact .inl (.inl rfl)
 ·obtain rfl:=mz.1 (show ks.length=0 by omega)
  exact .inl (.inr (.inl rfl))
 all_goals exact .inr (by omega)
def C3 (c:UInt8):Prop:=c=48∨c=49∨c=40∨c=97∨c=98∨c=99∨c=100∨c=101∨c=102
theorem rZ {l:Int} (h0:0≤l) (h1:l<6):UInt8.ofNat (97+l).toNat=97∧l=0∨UInt8.ofNat (97+l).toNat=98∧l=1∨UInt8.ofNat (97+l).toNat=99∧l=2∨UInt8.ofNat (97+l).toNat=100∧l=3∨UInt8.ofNat (97+l).toNat=101∧l=4∨UInt8.ofNat (97+l).toNat=102∧l=5:=by
 rcases (show l=0∨l=1∨l=2∨l=3∨l=4∨l=5 by omega) with rfl|rfl|rfl|rfl|rfl|rfl<;>decide
theorem aiw {e:Ex} (h:e.wf 6=true): ∃c t,TX 6 e=c::t∧C3 c:=by
 rcases N8 h with (rfl|rfl|⟨l,h0,h1,rfl⟩)|h
 ·exact ⟨48,[],rfl,.inl rfl⟩
 ·exact ⟨49,[],rfl,.inr (.inl rfl)⟩
 ·refine ⟨UInt8.ofNat (97+l).toNat,[],by simp[TX,eM,gl,Ex.op,text],?_⟩
  unfold C3
  rcases rZ h0 h1 with h|h|h|h|h|h<;>simp[h.1]
 ·exact ⟨40,_,qp h,.inr (.inr (.inl rfl))⟩
theorem C4 {o l:Int} {ks:List Ex} (h:(Ex.node o l ks).wf 6=true) (ho:o=7∨o=8): ∃k,ks=[k]∧k.wf 6=true∧l=0:=by
 obtain ⟨h1,U⟩:=gT h
 rcases eK h1 with h|⟨h0,h⟩
 ·omega
 ·obtain ⟨k,rfl⟩:=wB.1 (show ks.length=1 by omega)
  exact ⟨k,rfl,U k (by simp),h0⟩
def N9 (e:Ex):Nat→Ex
 | 0=>e
 | n+1=> .node 7 0 [N9 e n]
theorem Oa: ∀e:Ex,e.wf 6=true→∃(b:Ex) (n:Nat),e=N9 b n∧b.op≠7∧b.wf 6=true∧TX 5 e=TX 6 b++List.replicate n 42:=ind fun o l ks ih h=>by
 by_cases ho:o=7
 ·subst ho
  obtain ⟨k,rfl,hk,rfl⟩:=C4 h (.inl rfl)
  obtain ⟨b,n,h1,U,h3,h4⟩:=ih k (by simp) hk
  exact ⟨b,n+1,by rw[h1];rfl,U,h3,by rw[aiu,h4,List.replicate_succ',cF]⟩
 ·exact ⟨.node o l ks,0,rfl,ho,h,by rw[aiv (show (Ex.node o l ks).op≠7 from ho)];simp⟩
theorem Ob {e:Ex} (h:e.wf 6=true): ∃c t,TX 5 e=c::t∧C3 c:=by
 obtain ⟨b,n,_,_,h3,h4⟩:=Oa e h
 obtain ⟨c,t,h5,h6⟩:=aiw h3
 exact ⟨c,t++List.replicate n 42,by rw[h4,h5];rfl,h6⟩
theorem aix {e:Ex} (h:e.wf 6=true): ∃c t,TX 4 e=c::t∧(c=33∨C3 c):=by
 by_cases ho:e.op=8
 ·obtain ⟨o,l,ks⟩:=e
  obtain rfl:o=8:=ho
  obtain ⟨k,rfl,_⟩:=C4 h (.inr rfl)
  exact ⟨33,TX 4 k,CZ _ _,.inl rfl⟩
 ·obtain ⟨c,t,h1,U⟩:=Ob h
  exact ⟨c,t,by rw[C2 ho,h1],.inr U⟩
def gX (m:Int) (c:UInt8):Prop:=if m=1 then c=41 else if m=2 then c=41∨c=124 else if m=3 then c=41∨c=124∨c=38 else if m=6 then True else c≠42
def fo (m:Int) (r:List UInt8):Prop:= ∀c t,r=c::t→gX m c
theorem Wv {m:Int}:fo m []:=fun c t h=>by cases h
theorem Oc {m:Int} {c:UInt8} {t:List UInt8} (h:gX m c):fo m (c::t):=fun c' t' e=>by cases e;exact h
def kh (m:Int) (e:Ex):Prop:= ∀(e':Ex) (r r':List UInt8),e'.wf 6=true→fo m r→fo m r'→TX m e++r=TX m e'++r'→e=e'∧r=r'
theorem C6 {o:Int} {e:Ex} (h:e.wf 6=true): ∀x∈mb o e,x.wf 6=true:=fun x hx=>by
 unfold mb at hx
 split at hx
 ·obtain ⟨o,l,ks⟩:=e
  exact (gT h).2 x hx
 ·rw[eC.1 hx];exact h
theorem Ww {o:Int} {e:Ex} (ho:4≤o∧o≤6) (h:e.wf 6=true): ∃x xs,mb o e=x::xs:=by
 unfold mb
 split
 ·next lW=>
  obtain ⟨o,l,ks⟩:=e
  obtain ⟨h1,U⟩:=gT h
  simp only[Ex.op] at lW
  match ks,h1 with
  | [],h1=>rcases eK h1 with h|⟨_,h⟩<;>simp at h<;>omega
  | x::xs,_=>exact ⟨x,xs,rfl⟩
 ·exact ⟨e,[],rfl⟩
theorem aiy {o:Int} {e e':Ex} (ho:4≤o∧o≤6) (h:e.wf 6=true) (h':e'.wf 6=true) (he:mb o e=mb o e'):e=e':=by
 have hl: ∀{x:Ex},x.wf 6=true→x.op=o→x.bB=0∧2≤x.kids.length:=fun {x} hx Kt=>by
  obtain ⟨o,l,ks⟩:=x
  obtain ⟨h1,U⟩:=gT hx
  simp only[Ex.op,Ex.bB,Ex.kids] at*
  rcases eK h1 with h|⟨_,h⟩<;>omega
 unfold mb at he
 by_cases h1:e.op=o
 ·obtain ⟨a1,a2⟩:=hl h h1
  rw[aj h1] at he
  by_cases U:e'.op=o
  ·obtain ⟨b1,b2⟩:=hl h' U
   rw[aj U] at he
   obtain ⟨o1,l1,k1⟩:=e
   obtain ⟨o2,l2,k2⟩:=e'
   simp only[Ex.op,Ex.bB,Ex.kids] at*
   subst he h1 U a1 b1
   rfl
  ·rw[ai U] at he
   rw[he] at a2
   simp at a2
 ·rw[ai h1] at he
  by_cases U:e'.op=o
  ·obtain ⟨b1,b2⟩:=hl h' U
   rw[aj U] at he
   rw[←he] at b2
   simp at b2
  ·rw[ai U] at he
   exact (gF he).1
section
variable {sep:List UInt8} {m:Int} (hh: ∀y:Ex,y.wf 6=true→∃c t,sep++TX m y=c::t∧gX m c∧¬gX (m-1) c) (hf: ∀c,gX (m-1) c→gX m c)
include hh hf
theorem HR {ys:List Ex} {r:List UInt8} (hy: ∀y∈ys,y.wf 6=true) (hr:fo (m-1) r):fo m (texts sep m false ys++r):=by
 cases ys with
 | nil=>exact fun c t e=>hf c (hr c t e)
 | cons y ys=>
  obtain ⟨c,t,h1,U,h3⟩:=hh y (hy y (by simp))
  rw[CX,←cF sep,h1]
  exact Oc U
theorem Wx: ∀(xs ys:List Ex) (r r':List UInt8),(∀x∈xs,x.wf 6=true∧kh m x)→(∀y∈ys,y.wf 6=true)→fo (m-1) r→fo (m-1) r'→texts sep m false xs++r=texts sep m false ys++r'→xs=ys∧r=r'
 | [],[],r,r',_,_,_,_,h=>⟨rfl,h⟩
 | [],y::ys,r,r',_,hy,hr,_,h=>by
  obtain ⟨c,t,h1,U,h3⟩:=hh y (hy y (by simp))
  rw[CX,←cF sep,h1] at h
  exact absurd (hr c _ (by simpa[texts] using h)) h3
 | x::xs,[],r,r',hx,_,_,hr,h=>by
  obtain ⟨c,t,h1,U,h3⟩:=hh x (hx x (by simp)).1
  rw[CX,←cF sep,h1] at h
  exact absurd (hr c _ (by simpa[texts] using h.symm)) h3
 | x::xs,y::ys,r,r',hx,hy,hr,iF,h=>by
  rw[CX,CX,cF,cF,cF,cF] at h
  obtain ⟨rfl,U⟩:=(hx x (by simp)).2 y _ _ (hy y (by simp)) (HR hh hf (fun z hz=>(hx z (by simp[hz])).1) hr) (HR hh hf (fun z hz=>hy z (by simp[hz])) iF) (List.append_cancel_left h)
  obtain ⟨rfl,h3⟩:=Wx xs ys r r' (fun z hz=>hx z (by simp[hz])) (fun z hz=>hy z (by simp[hz])) hr iF U
  exact ⟨rfl,h3⟩
theorem Od {o:Int} (ho:4≤o∧o≤6) (ht: ∀e:Ex,TX (m-1) e=texts sep m true (mb o e)) {e:Ex} (he:e.wf 6=true) (ih: ∀x∈mb o e,kh m x):kh (m-1) e:=by
 intro e' r r' hY hr iF h
 rw[ht,ht] at h
 obtain ⟨x,xs,hx⟩:=Ww ho he
 obtain ⟨y,ys,hy⟩:=Ww ho hY
 have wx:=C6 (o:=o) he
 have wy:=C6 (o:=o) hY
 rw[hx] at wx ih
 rw[hy] at wy
 rw[hx,hy,CY,CY,cF,cF] at h
 obtain ⟨rfl,U⟩:=ih x (by simp) y _ _ (wy y (by simp)) (HR hh hf (fun z hz=>wx z (by simp[hz])) hr) (HR hh hf (fun z hz=>wy z (by simp[hz])) iF) h
 obtain ⟨rfl,h3⟩:=Wx hh hf xs ys r r' (fun z hz=>⟨wx z (by simp[hz]),ih z (by simp[hz])⟩) (fun z hz=>wy z (by simp[hz])) hr iF U
 exact ⟨aiy ho he hY (by rw[hx,hy]),h3⟩
end
theorem Oe {c:UInt8} (h:C3 c):c≠33∧c≠41∧c≠42∧c≠124∧c≠38:=by
 rcases h with rfl|rfl|rfl|rfl|rfl|rfl|rfl|rfl|rfl<;>decide
theorem aiz {e:Ex} (he:e.wf 6=true) (ih: ∀x∈mb 4 e,kh 2 x):kh 1 e:=
 Od (sep:=[124]) (m:=2) (fun y _=>⟨124,_,rfl,by simp[gX],by simp[gX]⟩) (fun c h=>by simp[gX] at h⊢;exact .inl h) (o:=4) (by omega) Ws he ih
theorem ua {e:Ex} (he:e.wf 6=true) (ih: ∀x∈mb 6 e,kh 3 x):kh 2 e:=
 Od (sep:=[38]) (m:=3) (fun y _=>⟨38,_,rfl,by simp[gX],by simp[gX]⟩) (fun c h=>by simp[gX] at h⊢;rcases h with h|h<;>simp[h]) (o:=6) (by omega) Wt he ih
theorem aiA {e:Ex} (he:e.wf 6=true) (ih: ∀x∈mb 5 e,kh 4 x):kh 3 e:=
 Od (sep:=[]) (m:=4) (fun y hy=>by
  obtain ⟨c,t,h1,U⟩:=aix hy
  refine ⟨c,t,h1,?_⟩
  rcases U with rfl|U
  ·simp[gX]
  ·have:=Oe U
   simp[gX,this]) (fun c h=>by simp[gX] at h⊢;rcases h with rfl|rfl|rfl<;>decide) (o:=5) (by omega) Wu he ih
theorem aiB {e:Ex} (he:e.wf 6=true) (ih8: ∀k,e= .node 8 0 [k]→kh 4 k) (ih:e.op≠8→kh 5 e):kh 4 e:=by
 intro e' r r' hY hr iF h
 by_cases h1:e.op=8
 ·obtain ⟨o,l,ks⟩:=e
  obtain rfl:o=8:=h1
  obtain ⟨k,rfl,hk,rfl⟩:=C4 he (.inr rfl)
  rw[CZ] at h
  by_cases U:e'.op=8
  ·obtain ⟨o',l',bW⟩:=e'
   obtain rfl:o'=8:=U
   obtain ⟨k',rfl,dw,rfl⟩:=C4 hY (.inr rfl)
   rw[CZ] at h
   obtain ⟨rfl,h3⟩:=ih8 k rfl k' r r' dw hr iF (gF h).2
   exact ⟨rfl,h3⟩
  ·rw[C2 U] at h
   obtain ⟨c,t,h3,h4⟩:=Ob hY
   rw[h3] at h
   exact absurd (gF h).1.symm (Oe h4).1
 ·rw[C2 h1] at h
  by_cases U:e'.op=8
  ·obtain ⟨o',l',bW⟩:=e'
   obtain rfl:o'=8:=U
   obtain ⟨k',rfl,dw,rfl⟩:=C4 hY (.inr rfl)
   rw[CZ] at h
   obtain ⟨c,t,h3,h4⟩:=Ob he
   rw[h3] at h
   exact absurd (gF h).1 (Oe h4).1
  ·rw[C2 U] at h
   exact ih h1 e' r r' hY (by simpa[fo,gX] using hr) (by simpa[fo,gX] using iF) h
theorem Wy {r r':List UInt8} (hr:fo 5 r) (iF:fo 5 r'): ∀{n n':Nat},List.replicate n 42++r=List.replicate n' 42++r'→n=n'∧r=r'
 | 0,0,h=>⟨rfl,h⟩
 | 0,n+1,h=>by
  have:=hr 42 (List.replicate n 42++r') (by simpa[List.replicate_succ] using h)
  simp[gX] at this
 | n+1,0,h=>by
  have:=iF 42 (List.replicate n 42++r) (by simpa[List.replicate_succ] using h.symm)
  simp[gX] at this
 | n+1,n'+1,h=>by
  rw[List.replicate_succ,List.replicate_succ] at h
  obtain ⟨rfl,U⟩:=Wy hr iF (gF h).2
  exact ⟨rfl,U⟩
theorem Wz (r:List UInt8):fo 6 r:=fun c t _=>by simp[gX]
theorem aiC {b:Ex} {n:Nat} {e:Ex} (h1:e=N9 b n) (U:TX 5 e=TX 6 b++List.replicate n 42) (ih:kh 6 b):kh 5 e:=by
 intro e' r r' hY hr iF h
 obtain ⟨b',n',e1,e2,e3,e4⟩:=Oa e' hY
 rw[U,e4,cF,cF] at h
 obtain ⟨rfl,h3⟩:=ih b' _ _ e3 (Wz _) (Wz _) h
 obtain ⟨rfl,h4⟩:=Wy hr iF h3
 exact ⟨by rw[h1,e1],h4⟩
theorem aiD {e:Ex} (he:e.wf 6=true) (ih:4≤e.op∧e.op≤8→kh 1 e):kh 6 e:=by
 intro e' r r' hY hr iF h
 have hl: ∀l:Int,TX 6 (.node 3 l [])=[UInt8.ofNat (97+l).toNat]:=fun l=>by simp[TX,eM,gl,Ex.op,text]
 have t1:TX 6 (.node 1 0 [])=[48]:=rfl
 have t2:TX 6 (.node 2 0 [])=[49]:=rfl
 rcases N8 he with (rfl|rfl|⟨l,h0,h1,rfl⟩)|ho<;>rcases N8 hY with (rfl|rfl|⟨l',xm,jR,rfl⟩)|jz
 ·exact ⟨rfl,List.append_cancel_left h⟩
 ·rw[t1,t2] at h;cases (gF h).1
 ·rw[t1,hl] at h
  have:=(gF h).1
  rcases rZ xm jR with h|h|h|h|h|h<;>(rw[h.1] at this;cases this)
 ·rw[t1,qp jz] at h;cases (gF h).1
 ·rw[t1,t2] at h;cases (gF h).1
 ·exact ⟨rfl,List.append_cancel_left h⟩
 ·rw[t2,hl] at h
  have:=(gF h).1
  rcases rZ xm jR with h|h|h|h|h|h<;>(rw[h.1] at this;cases this)
 ·rw[t2,qp jz] at h;cases (gF h).1
 ·rw[t1,hl] at h
  have:=(gF h).1
  rcases rZ h0 h1 with h|h|h|h|h|h<;>(rw[h.1] at this;cases this)
 ·rw[t2,hl] at h
  have:=(gF h).1
  rcases rZ h0 h1 with h|h|h|h|h|h<;>(rw[h.1] at this;cases this)
 ·rw[hl,hl] at h
  obtain ⟨U,h3⟩:=gF h
  refine ⟨?_,h3⟩
  have:l=l':=by
   rcases rZ h0 h1 with ⟨a,rfl⟩|⟨a,rfl⟩|⟨a,rfl⟩|⟨a,rfl⟩|⟨a,rfl⟩|⟨a,rfl⟩<;>rcases rZ xm jR with ⟨b,rfl⟩|⟨b,rfl⟩|⟨b,rfl⟩|⟨b,rfl⟩|⟨b,rfl⟩|⟨b,rfl⟩<;>first|rfl|(rw[a,b] at U;cases U)
  rw[this]
 ·rw[hl,qp jz] at h
  have:=(gF h).1
  rcases rZ h0 h1 with h|h|h|h|h|h<;>(rw[h.1] at this;cases this)
 ·rw[t1,qp ho] at h;cases (gF h).1
 ·rw[t2,qp ho] at h;cases (gF h).1
 ·rw[hl,qp ho] at h
  have:=(gF h).1
  rcases rZ xm jR with h|h|h|h|h|h<;>(rw[h.1] at this;cases this)
 ·rw[qp ho,qp jz] at h
  have U:(TX 1 e++[41])++r=(TX 1 e'++[41])++r':=(gF h).2
  rw[cF,cF] at U
  obtain ⟨h3,h4⟩:=ih ho e' _ _ hY (Oc (by simp[gX])) (Oc (by simp[gX])) U
  exact ⟨h3,(gF h4).2⟩
theorem HS {sep:List UInt8} {m:Int}: ∀{xs:List Ex} {f:Bool} {x:Ex},x∈xs→(TX m x).length≤(texts sep m f xs).length
 | y::ys,f,x,h=>by
  simp only[texts,b9]
  rcases dG.1 h with rfl|h
  ·show (eM x.op m x.text).length≤_;omega
  ·have:=HS (sep:=sep) (m:=m) (f:=false) h
   omega
theorem WA: ∀(n:Nat) (m:Int) (e:Ex),1≤m→m≤6→e.wf 6=true→8*(TX m e).length+(7-m).toNat<n→kh m e
 | 0,m,e,_,_,_,h=>by omega
 | n+1,m,e,h1,h6,he,h=>by
  have ih:=WA n
  rcases (show m=1∨m=2∨m=3∨m=4∨m=5∨m=6 by omega) with rfl|rfl|rfl|rfl|rfl|rfl
  ·refine aiz he fun x hx=>ih 2 x (by omega) (by omega) (C6 he x hx) ?_
   have:=HS (sep:=[124]) (m:=2) (f:=true) hx
   rw[Ws] at h
   omega
  ·refine ua he fun x hx=>ih 3 x (by omega) (by omega) (C6 he x hx) ?_
   have:=HS (sep:=[38]) (m:=3) (f:=true) hx
   rw[Wt] at h
   omega
  ·refine aiA he fun x hx=>ih 4 x (by omega) (by omega) (C6 he x hx) ?_
   have:=HS (sep:=[]) (m:=4) (f:=true) hx
   rw[Wu] at h
   omega
  ·refine aiB he (fun k hk=> ?_) fun ho=> ?_
   ·subst hk
    rw[CZ,List.length_cons] at h
    exact ih 4 k (by omega) (by omega) ((gT he).2 k (by simp)) (by omega)
   ·rw[C2 ho] at h
    exact ih 5 e (by omega) (by omega) he (by omega)
  ·obtain ⟨b,k,e1,e2,e3,e4⟩:=Oa e he
   refine aiC e1 e4 (ih 6 b (by omega) (by omega) e3 ?_)
   rw[e4,b9] at h
   omega
  ·refine aiD he fun ho=>ih 1 e (by omega) (by omega) he ?_
   rw[qp ho,List.length_cons,b9] at h
   simp only[List.length_cons,List.length_nil] at h
   omega
theorem WB (e:Ex):TX 1 e=e.text:=by
 unfold TX eM
 rw[ai]
 unfold gl
 repeat' split
 all_goals omega
theorem WC {a b:Ex} (ha:a.wf 6=true) (hb:b.wf 6=true) (h:a.text=b.text):a=b:=
 (WA _ 1 a (by omega) (by omega) ha (zI _) b [] [] hb Wv Wv (by rw[WB,WB,h])).1
end Go.AM
set_option maxRecDepth 100000
namespace Go.AM
open Go.Proofs
noncomputable def WD (C:ae) (ah aq:Int) (af:List V):Option (List V):=
 (C Bq [.int .i64 ah,.int .i64 aq,.list aa af]).bind fun r1=>
 bif !((V.nth r1 0).toBool) then
  some [.str []]
 else
  (C s6 [.int .i64 ah,.int .i64 aq,.list aa af,.list dk ([]:List V)]).bind fun r2=>
  (C Ge [.list dk ((V.nth r2 0).toList)]).bind fun r3=>
  some [.str ((V.nth r3 0).toStr)]
theorem aiE {ah aq:Int} {af:List V} {r:Option (List V)} (h:WD CC ah aq af=r):CC xV [.int .i64 ah,.int .i64 aq,.list aa af]=r:=
 aY (key:=48) (L:=cd) (bs:=[]) (by kernel_rfl) av (aW (by kernel_rfl) h)
noncomputable abbrev iN:Code:=cE Tryz.prog (ax.aV 61)
noncomputable def HT (C:ae) (t5:Int) (t28:Bool) (dE dr:Int) (cM bm:List V) {β:Type} (kr:(List V)→Option β):Option β:=
 bif t28 then
  (C s8 [.list aa cM,.str [38],.int .i64 3,.list dk bm]).bind fun r5=>
  kr ((V.nth r5 0).toList)
 else
  bif (t5:Int)==5 then
  (C s8 [.list aa cM,.str [],.int .i64 4,.list dk bm]).bind fun r6=>
  kr ((V.nth r6 0).toList)
  else
  bif (t5:Int)==8 then
   (C qb [.int .u8 33,.list dk bm]).bind fun r7=>
   (C s8 [.list aa cM,.str [],.int .i64 4,.list dk ((V.nth r7 0).toList)]).bind fun r8=>
   kr ((V.nth r8 0).toList)
  else
   bif (t5:Int)==7 then
   (C s8 [.list aa cM,.str [],.int .i64 5,.list dk bm]).bind fun r9=>
   (C qb [.int .u8 42,.list dk ((V.nth r9 0).toList)]).bind fun dg=>
   kr ((V.nth dg 0).toList)
   else
   kr bm
noncomputable def HU (C:ae) (t5:Int) (t22:Bool) (dE dr:Int) (cM bm:List V) {β:Type} (kr:(List V)→Option β):Option β:=
 bif t22 then
  (C s8 [.list aa cM,.str [124],.int .i64 2,.list dk bm]).bind fun r4=>
  kr ((V.nth r4 0).toList)
 else
  HT C t5 ((t5:Int)==6) dE dr cM bm (fun (r0:List V)=>
   kr r0)
noncomputable def HV (C:ae) (t5:Int) (t14:Bool) (dE dr:Int) (cM bm:List V) {β:Type} (kr:(List V)→Option β):Option β:=
 bif t14 then
  (C qb [.int .u8 (IntKind.wrap .u8 (97+(IntKind.wrap .u8 dr))),.list dk bm]).bind fun r3=>
  kr ((V.nth r3 0).toList)
 else
  HU C t5 ((t5:Int)==4) dE dr cM bm (fun (wa:List V)=>
   kr wa)
noncomputable def HW (C:ae) (t5:Int) (t10:Bool) (dE dr:Int) (cM bm:List V) {β:Type} (kr:(List V)→Option β):Option β:=
 bif t10 then
  (C qb [.int .u8 49,.list dk bm]).bind fun r2=>
  kr ((V.nth r2 0).toList)
 else
  HV C t5 ((t5:Int)==3) dE dr cM bm (fun (wc:List V)=>
   kr wc)
noncomputable def HX (C:ae) (t5:Int) (t6:Bool) (dE dr:Int) (cM bm:List V) {β:Type} (kr:(List V)→Option β):Option β:=
 bif t6 then
  (C qb [.int .u8 48,.list dk bm]).bind fun r1=>
  kr ((V.nth r1 0).toList)
 else
  HW C t5 ((t5:Int)==2) dE dr cM bm (fun (pq:List V)=>
   kr pq)
noncomputable def WE (C:ae):ct:=fun β n ds k=>
 bif Nat.beq n 463 then iI LO [[0]] (@HT C) ds k else
 bif Nat.beq n 367 then iI LP [[0]] (@HU C) ds k else
 bif Nat.beq n 239 then iI LQ [[0]] (@HV C) ds k else
 bif Nat.beq n 175 then iI LR [[0]] (@HW C) ds k else
 bif Nat.beq n 111 then iI LU [[0]] (@HX C) ds k else
 none
abbrev C7 (C:ae) (b:cq):Prop:=cr Tryz.prog ax C (WE C) 61 (cH Tryz.prog (ax.aV 61)) (ax.sin 61).bj.length b
theorem aiF (C:ae):C7 C (.cond 28 (aw [1,1,0,1,1,1,1,1,1,1,1,1,0] iN) (aw [1,1,0,1,1,1,1,1,1,1,1,1,1] iN)):=
 jl LO [[0]] (@HT C) (by kernel_rfl) (bf (bs:=[]) (by kernel_rfl) av) (bf (bs:=[]) (by kernel_rfl) av) (fun ds=>by kernel_rfl) (fun i β k=>by kernel_rfl) (fun β ds k=>by kernel_rfl)
theorem aiG (C:ae):C7 C (.cond 22 (aw [1,1,0,1,1,1,1,1,1,1,0] iN) (aw [1,1,0,1,1,1,1,1,1,1,1] iN)):=
 jl LP [[0]] (@HU C) (by kernel_rfl) (bf (bs:=[]) (by kernel_rfl) av) (bf (bs:=[.cond 28 (aw [1,1,0,1,1,1,1,1,1,1,1,1,0] iN) (aw [1,1,0,1,1,1,1,1,1,1,1,1,1] iN)]) (by kernel_rfl) (bx (aiF C) av)) (fun ds=>by kernel_rfl) (fun i β k=>by kernel_rfl) (fun β ds k=>by kernel_rfl)
theorem aiH (C:ae):C7 C (.cond 14 (aw [1,1,0,1,1,1,1,1,0] iN) (aw [1,1,0,1,1,1,1,1,1] iN)):=
 jl LQ [[0]] (@HV C) (by kernel_rfl) (bf (bs:=[]) (by kernel_rfl) av) (bf (bs:=[.cond 22 (aw [1,1,0,1,1,1,1,1,1,1,0] iN) (aw [1,1,0,1,1,1,1,1,1,1,1] iN)]) (by kernel_rfl) (bx (aiG C) av)) (fun ds=>by kernel_rfl) (fun i β k=>by kernel_rfl) (fun β ds k=>by kernel_rfl)
theorem aiI (C:ae):C7 C (.cond 10 (aw [1,1,0,1,1,1,0] iN) (aw [1,1,0,1,1,1,1] iN)):=
 jl LR [[0]] (@HW C) (by kernel_rfl) (bf (bs:=[]) (by kernel_rfl) av) (bf (bs:=[.cond 14 (aw [1,1,0,1,1,1,1,1,0] iN) (aw [1,1,0,1,1,1,1,1,1] iN)]) (by kernel_rfl) (bx (aiH C) av)) (fun ds=>by kernel_rfl) (fun i β k=>by kernel_rfl) (fun β ds k=>by kernel_rfl)
theorem aiJ (C:ae):C7 C (.cond 6 (aw [1,1,0,1,0] iN) (aw [1,1,0,1,1] iN)):=
 jl LU [[0]] (@HX C) (by kernel_rfl) (bf (bs:=[]) (by kernel_rfl) av) (bf (bs:=[.cond 10 (aw [1,1,0,1,1,1,0] iN) (aw [1,1,0,1,1,1,1] iN)]) (by kernel_rfl) (bx (aiI C) av)) (fun ds=>by kernel_rfl) (fun i β k=>by kernel_rfl) (fun β ds k=>by kernel_rfl)
noncomputable def WG (C:ae) (ah aq:Int) (af bN:List V):Option (List V):=
 HX C ah ((ah:Int)==1) ah aq af bN (fun (nh:List V)=>
  some [.list dk nh])
theorem aiK {ah aq:Int} {af bN:List V} {r:Option (List V)} (h:WG CC ah aq af bN=r):CC s6 [.int .i64 ah,.int .i64 aq,.list aa af,.list dk bN]=r:=
 aY (key:=61) (L:=WE CC) (bs:=[.cond 6 (aw [1,1,0,1,0] iN) (aw [1,1,0,1,1] iN)]) (by kernel_rfl) (bx (aiJ CC) av) (aW (by kernel_rfl) h)
noncomputable abbrev zj:Code:=cE Tryz.prog (ax.aV 74)
noncomputable def C8 (C:ae) (separator:List UInt8) (least:Int) (t10:List V) (t11 t12:Int) (t18:Bool) (amR amS:Int) (amT bm:List V) {β:Type} (kr:(List V)→Option β):Option β:=
 bif t18 then
  (C Gi [.str separator,.list dk bm]).bind fun r2=>
  kr ((V.nth (r2.drop 1) 0).toList)
 else
  kr bm
noncomputable def C9 (C:ae) (separator:List UInt8) (least:Int) (t10:List V) (t11 t12:Int) (cv:List V) {β:Type} (kn:(Int × (List V))→Option β) (kr:(Int × Bool × (List V))→Option β):Option β:=
 bif decide ((t12:Int)<t11) then
  (idx t10 t12).bind fun x1=>
  C8 C separator least t10 t11 t12 (decide ((t12:Int)>0)) ((x1.cell 0).toInt) ((x1.cell 1).toInt) ((x1.cell 2).toList) cv (fun (HL:List V)=>
   (C Gj [.int .i64 ((x1.cell 0).toInt)]).bind fun r4=>
   bif decide ((((V.nth r4 0).toInt):Int)≥least) then
   (C s6 [.int .i64 ((x1.cell 0).toInt),.int .i64 ((x1.cell 1).toInt),.list aa ((x1.cell 2).toList),.list dk HL]).bind fun r5=>
   kn (IntKind.wrap .i64 (t12+1),(V.nth r5 0).toList)
   else
   (C qb [.int .u8 40,.list dk HL]).bind fun r6=>
   (C s6 [.int .i64 ((x1.cell 0).toInt),.int .i64 ((x1.cell 1).toInt),.list aa ((x1.cell 2).toList),.list dk ((V.nth r6 0).toList)]).bind fun r7=>
   (C qb [.int .u8 41,.list dk ((V.nth r7 0).toList)]).bind fun r8=>
   kn (IntKind.wrap .i64 (t12+1),(V.nth r8 0).toList))
 else
  kr (t12,decide ((t12:Int)<t11),cv)
noncomputable def Db (C:ae) (separator:List UInt8) (least:Int) (t10:List V) (t11:Int):(Int × (List V))→Option ((Int × (List V)) ⊕ (Int × Bool × (List V))):=un fun t12 cv=>C9 C separator least t10 t11 t12 cv (fun y=>some (.inl y)) (fun r=>some (.inr r))
noncomputable def WH (C:ae):ct:=fun β n ds k=>
 bif Nat.beq n 303 then iI L0 [[1,2,3,4,5,7,8,9,0]] (@C8 C) ds k else
 bif Nat.beq n 17 then bY L1 [false,false,false,false,true,true] [[1,2,3,4,0,0,0]] (@C9 C) ds k else
 none
abbrev WI (C:ae) (b:cq):Prop:=cr Tryz.prog ax C (WH C) 74 (cH Tryz.prog (ax.aV 74)) (ax.sin 74).bj.length b
theorem aiL (C:ae):WI C (.cond 18 (aw [1,0,0,1,1,0,0,1,0,1,0] zj) (aw [1,0,0,1,1,0,0,1,0,1,1] zj)):=
 jl L0 [[1,2,3,4,5,7,8,9,0]] (@C8 C) (by kernel_rfl) (bf (bs:=[]) (by kernel_rfl) av) (bf (bs:=[]) (by kernel_rfl) av) (fun ds=>by kernel_rfl) (fun i β k=>by kernel_rfl) (fun β ds k=>by kernel_rfl)
theorem aiM (C:ae):WI C (.loop (aw [1,0,0] zj)):=
 b7 L1 [false,false,false,false,true,true] [[1,2,3,4,0,0,0]] (@C9 C) (by kernel_rfl) (bf (bs:=[.cond 18 (aw [1,0,0,1,1,0,0,1,0,1,0] zj) (aw [1,0,0,1,1,0,0,1,0,1,1] zj)]) (by kernel_rfl) (bx (aiL C) av)) (fun ds=>by kernel_rfl) (fun i x=>by kernel_rfl) (fun i x β k=>by kernel_rfl) (fun β ds k=>by kernel_rfl)
noncomputable def WJ (C:ae) (kids:List V) (separator:List UInt8) (least:Int) (bN:List V):Option (List V):=
 (Loop (Db C separator least kids (kids.length:Int)) (0,bN)).bind (un fun (td:Int)=>un fun (yp:Bool) (r0:List V)=>
  some [.list dk r0])
theorem aiN {kids:List V} {separator:List UInt8} {least:Int} {bN:List V} {r:Option (List V)} (h:WJ CC kids separator least bN=r):CC s8 [.list aa kids,.str separator,.int .i64 least,.list dk bN]=r:=
 aY (key:=74) (L:=WH CC) (bs:=[.loop (aw [1,0,0] zj)]) (by kernel_rfl) (bx (aiM CC) av) (aW (by kernel_rfl) h)
noncomputable def WK (C:ae) (op:Int):Option (List V):=
 bif (op:Int)==4 then
  some [.int .i64 1]
 else
  bif (op:Int)==6 then
  some [.int .i64 2]
  else
  bif (op:Int)==5 then
   some [.int .i64 3]
  else
   bif (op:Int)==8 then
   some [.int .i64 4]
   else
   bif (op:Int)==7 then
    some [.int .i64 5]
   else
    some [.int .i64 6]
theorem aiO {op:Int} {r:Option (List V)} (h:WK CC op=r):CC Gj [.int .i64 op]=r:=
 aY (key:=89) (L:=cd) (bs:=[]) (by kernel_rfl) av (aW (by kernel_rfl) h)
noncomputable def WM (C:ae) (c:Int) (bN:List V):Option (List V):=
 bif Nat.ble ((bN.length+([.int .u8 c]:List V).length)*1) b6 then
  some [.list dk (bN++([.int .u8 c]:List V))]
 else none
theorem aiP {c:Int} {bN:List V} {r:Option (List V)} (h:WM CC c bN=r):CC qb [.int .u8 c,.list dk bN]=r:=
 aY (key:=73) (L:=cd) (bs:=[]) (by kernel_rfl) av (aW (by kernel_rfl) h)
noncomputable def WN (C:ae) (s:List UInt8) (bN:List V):Option (List V):=
 bif Nat.ble ((bN.length+(s.map dK).length)*1) b6 then
  some [.int .i64 (s.length:Int),.list dk (bN++(s.map dK))]
 else none
theorem aiQ {s:List UInt8} {bN:List V} {r:Option (List V)} (h:WN CC s bN=r):CC Gi [.str s,.list dk bN]=r:=
 aY (key:=88) (L:=cd) (bs:=[]) (by kernel_rfl) av (aW (by kernel_rfl) h)
noncomputable def WO (C:ae) (bN:List V):Option (List V):=
 bif Nat.blt 0 bN.length then
  bif decide (0<(bN.length:Int))&&(decide ((bN.length:Int)≤(bN.length:Int))&&(Nat.ble (((bN.length:Int):Int).toNat) sA&&(bN.take (((bN.length:Int):Int).toNat)).all wP)) then
  some [.str (lb (bN.take (((bN.length:Int):Int).toNat)))]
  else none
 else none
theorem aiR {bN:List V} {r:Option (List V)} (h:WO CC bN=r):CC Ge [.list dk bN]=r:=
 aY (key:=62) (L:=cd) (bs:=[]) (by kernel_rfl) av (aW (by kernel_rfl) h)
end Go.AM
set_option maxRecDepth 100000
namespace Go.AM
open Go.Proofs Ex
theorem we (c:UInt8) (b:List UInt8) (h:b.length<2^40):CC qb [.int .u8 c.toNat,.list dk (b.map dK)]=some [.list dk ((b++[c]).map dK)]:=by
 refine aiP ?_
 unfold WM
 simp only[Bi]
 rw[aj (by simp[b6];omega)]
 simp[dK]
theorem aiS (s b:List UInt8) (h:b.length+s.length<2^40):CC Gi [.str s,.list dk (b.map dK)]=some [.int .i64 s.length,.list dk ((b++s).map dK)]:=by
 refine aiQ ?_
 unfold WN
 simp only[Bi]
 rw[aj (by simp[b6];omega)]
 simp
theorem aiT (b:List UInt8):lb (b.map dK)=b:=by
 unfold lb
 rw[List.map_map]
 have:((fun x:V=>UInt8.ofNat x.toInt.toNat) ∘ dK)=id:=by
  funext c
  simp[dK]
 rw[this,List.map_id]
theorem aiU (b:List UInt8) (h0:b≠[]) (h:b.length<2^40):CC Ge [.list dk (b.map dK)]=some [.str b]:=by
 refine aiR ?_
 unfold WO
 have hp:0<b.length:=by cases b<;>simp at h0⊢
 have h1:Nat.blt 0 (b.map dK).length=true:=by rw[ko];simpa using hp
 have U:(((b.map dK).length:Int)).toNat=(b.map dK).length:=by simp
 have h3:Nat.ble (b.map dK).length sA=true:=Nat.ble_eq_true_of_le (by simp[sA];omega)
 have h4:(b.map dK).all wP=true:=by
  rw[fH]
  intro x hx
  obtain ⟨c,_,rfl⟩:=gG.1 hx
  have:=c.toNat_lt
  simp[wP,dK]
  omega
 rw[h1,U,qy,h3,h4,aiT]
 simp[hp]
theorem aiV (op:Int):CC Gj [.int .i64 op]=some [.int .i64 (gl op)]:=by
 refine aiO ?_
 unfold WK gl
 simp only[dq]
 repeat' split
 all_goals rfl
theorem aiW {ks:List Ex} (hlen:ks.length≤maxLen) (ih: ∀k∈ks,∀b:List UInt8,b.length+k.text.length<2^40→CC s6 (bQ k [.list dk (b.map dK)])=some [.list dk ((b++k.text).map dK)]) (sep:List UInt8) (least:Int):
  ∀(ay pre:List Ex) (b:List UInt8),ks=pre++ay→b.length+(texts sep least pre.isEmpty ay).length<2^40→
  ∃i t,Loop (Db CC sep least (ks.map enc) ((ks.map enc).length:Int)) (((pre.length:Nat):Int),b.map dK)=some (i,t,(b++texts sep least pre.isEmpty ay).map dK):=by
 intro ay
 induction ay with
 | nil=>
  intro pre b bd hb
  subst bd
  refine ⟨((pre.length:Nat):Int),false,aS ?_⟩
  simp only[Db,C9,un,c9,aJ,az,texts]
  rw[ai (by omega)]
  simp
 | cons k ay ec=>
  intro pre b bd hb
  have bS:pre.length<ks.length:=by rw[bd];simp
  have hm:k∈ks:=by rw[bd];simp
  have:=kR
  have bM:idx (ks.map enc) (pre.length:Int)=some k.enc:=by rw[bd];exact gB _ _ _
  generalize ia:(if pre.isEmpty then [] else sep)=sp
  have ht:texts sep least pre.isEmpty (k::ay)=sp++(eM k.op least k.text++texts sep least false ay):=by simp only[texts,ia]
  rw[ht] at hb⊢
  simp only[b9] at hb
  have cT:Db CC sep least (ks.map enc) ((ks.map enc).length:Int) (((pre.length:Nat):Int),b.map dK)=some (.inl ((((pre++[k]).length:Nat):Int),(b++sp++eM k.op least k.text).map dK)):=by
   have h1: ∀{β:Type} (kr:List V→Option β) (o l:Int) (es:List V),C8 CC sep least (ks.map enc) ((ks.length:Nat):Int) ((pre.length:Nat):Int) (decide (((pre.length:Nat):Int)>0)) o l es (b.map dK) kr=kr ((b++sp).map dK):=by
    intro β kr o l es
    unfold C8
    cases pre with
    | nil=>
     simp at ia
     subst ia
     simp
    | cons a pre=>
     simp at ia
     subst ia
     rw[aiS _ _ (by omega)]
     have:(0:Int)<((a::pre).length:Int):=by simp only[List.length_cons];omega
     simp[this]
   simp only[Db,C9,un,aJ,az]
   rw[aj (by omega),bM]
   simp only[Option.bind_some,aU,aZ,aX]
   rw[h1,aiV]
   simp only[Option.bind_some,V.aM,V.toInt_int,az]
   unfold eM at hb⊢
   by_cases hl:gl k.op<least
   ·rw[ai (by omega),aj hl]
    rw[aj hl] at hb
    simp only[List.length_cons,b9,List.length_nil] at hb
    rw[show (V.int .u8 40)= .int .u8 (((40:UInt8).toNat:Nat):Int) by rfl,show (V.int .u8 41)= .int .u8 (((41:UInt8).toNat:Nat):Int) by rfl]
    rw[we _ _ (by simp;omega)]
    simp only[Option.bind_some,V.aM,V.kM]
    rw[ih k hm _ (by simp;omega)]
    simp only[Option.bind_some,V.aM,V.kM]
    rw[we _ _ (by simp;omega),wrap64 (by omega) (by omega)]
    simp
   ·rw[aj (by omega),ai hl]
    rw[ai hl] at hb
    rw[ih k hm _ (by simp;omega)]
    simp only[Option.bind_some,V.aM,V.kM]
    rw[wrap64 (by omega) (by omega)]
    simp
  rw[bJ cT]
  have hE:(pre++[k]).isEmpty=false:=by cases pre<;>rfl
  have h3:=ec (pre++[k]) (b++sp++eM k.op least k.text) (by rw[bd];simp)
  rw[hE] at h3
  obtain ⟨i,t,U⟩:=h3 (by simp only[b9];omega)
  refine ⟨i,t,U.trans ?_⟩
  simp
theorem aiX {ks:List Ex} (hlen:ks.length≤maxLen) (ih: ∀k∈ks,∀b:List UInt8,b.length+k.text.length<2^40→CC s6 (bQ k [.list dk (b.map dK)])=some [.list dk ((b++k.text).map dK)]) (sep:List UInt8) (least:Int) (b:List UInt8)
  (hb:b.length+(texts sep least true ks).length<2^40):CC s8 [.list aa (ks.map enc),.str sep,.int .i64 least,.list dk (b.map dK)]=some [.list dk ((b++texts sep least true ks).map dK)]:=by
 refine aiN ?_
 unfold WJ
 obtain ⟨i,t,h⟩:=aiW hlen ih sep least ks [] b rfl hb
 simp only[List.length_nil,Int.ofNat_zero,Int.natCast_zero,List.isEmpty_nil] at h
 erw [h]
 rfl
theorem aiY {l n:Int} (h:dS 3 l n 6=true):0≤l∧l<6:=by
 simp[dS] at h;omega
theorem WQ {o l n letters:Int} (ho:o<1∨8<o):dS o l n letters=false:=by
 have n1:o≠1:=by omega
 have n2:o≠2:=by omega
 have n3:o≠3:=by omega
 have n7:o≠7:=by omega
 have n8:o≠8:=by omega
 have n9: ¬(4≤o∧o≤6∧2≤n):=by omega
 simp[dS,n1,n2,n3,n7,n8,n9]
theorem aiZ: ∀e:Ex,e.Ok→e.wf 6=true→∀b:List UInt8,b.length+e.text.length<2^40→CC s6 (bQ e [.list dk (b.map dK)])=some [.list dk ((b++e.text).map dK)]:=
 ind fun o l ks ih au Bh b hb=>by
  obtain ⟨w1,w2⟩:=gT Bh
  have hw:=fun sep least b=>aiX au.len (fun k hk=>ih k hk (au.mf k hk) (w2 k hk)) sep least b
  refine aiK ?_
  unfold WG HX HW HV HU HT
  simp only[Ex.op,Ex.bB,Ex.kids]
  rcases yx o with rfl|rfl|rfl|rfl|rfl|rfl|rfl|rfl|ho
  case inr.inr.inr.inr.inr.inr.inr.inr=>rw[WQ ho] at w1;cases w1
  ·simp[text] at hb⊢
   rw[show (V.int .u8 48)= .int .u8 (((48:UInt8).toNat:Nat):Int) by rfl,we _ _ (by omega)]
   simp
  ·simp[text] at hb⊢
   rw[show (V.int .u8 49)= .int .u8 (((49:UInt8).toNat:Nat):Int) by rfl,we _ _ (by omega)]
   simp
  ·have hl:=aiY w1
   simp[text] at hb⊢
   rw[FN (x:=l) (by omega) (by omega),FN (by omega) (by omega)]
   have:(V.int .u8 (97+l))= .int .u8 (((UInt8.ofNat (97+l).toNat).toNat:Nat):Int):=by
    have:(97+l).toNat<256:=by omega
    simp only[UInt8.toNat_ofNat']
    congr 1
    omega
   rw[this,we _ _ (by omega)]
   simp
  ·simp[text] at hb⊢
   rw[hw _ _ _ (by omega)]
   simp
  ·simp[text] at hb⊢
   rw[hw _ _ _ (by omega)]
   simp
  ·simp[text] at hb⊢
   rw[hw _ _ _ (by omega)]
   simp
  ·simp[text] at hb⊢
   rw[hw _ _ _ (by omega)]
   simp only[Option.bind_some,V.aM,V.kM]
   rw[show (V.int .u8 42)= .int .u8 (((42:UInt8).toNat:Nat):Int) by rfl,we _ _ (by simp;omega)]
   simp
  ·simp[text] at hb⊢
   rw[show (V.int .u8 33)= .int .u8 (((33:UInt8).toNat:Nat):Int) by rfl,we _ _ (by omega)]
   simp only[Option.bind_some,V.aM,V.kM]
   rw[hw _ _ _ (by simp;omega)]
   simp
theorem ai0: ∀e:Ex,e.wf 6=true→e.text≠[]:=ind fun o l ks ih h=>by
 obtain ⟨w1,w2⟩:=gT h
 rcases yx o with rfl|rfl|rfl|rfl|rfl|rfl|rfl|rfl|ho
 case inr.inr.inr.inr.inr.inr.inr.inr=>rw[WQ ho] at w1;cases w1
 case inr.inr.inr.inl=>
  intro hh
  match ks,w1,hh with
  | [],w1,_=>simp[dS] at w1
  | [a],w1,_=>simp[dS] at w1
  | a::b::l,_,hh=>simp[text,texts] at hh
 case inr.inr.inr.inr.inr.inl=>
  intro hh
  match ks,w1,hh with
  | [],w1,_=>simp[dS] at w1
  | [a],w1,_=>simp[dS] at w1
  | a::b::l,_,hh=>simp[text,texts] at hh
 case inr.inr.inr.inr.inl=>
  intro hh
  match ks,w1,w2,hh,ih with
  | [],w1,_,_,_=>simp[dS] at w1
  | a::ks,_,w2,hh,ih=>
   have:=ih a (by simp) (w2 a (by simp))
   simp[text,texts,eM] at hh
   split at hh
   ·simp at hh
   ·exact this hh.1
 all_goals simp[text]
theorem ai1 (e:Ex) (h:e.Ok):CC xV (bQ e [])=some [.str (if e.val 6=0 then e.text else [])]:=by
 refine aiE ?_
 unfold WD
 rw[Tz e h]
 by_cases hv:e.val 6=0
 ·obtain ⟨_,U,h3⟩:=jX hv
  have hl:=Wr e
  have hw:=aiZ e h h3 [] (by simp;omega)
  simp only[fT,List.nil_append] at hw
  simp only[Option.bind_some,V.aM,V.dj,hv,sh,qA,cond_false,cW]
  rw[hw]
  simp only[Option.bind_some,V.aM,V.kM]
  rw[aiU _ (ai0 e h3) (by omega)]
  simp
 ·simp[hv]
end Go.AM
set_option maxRecDepth 100000
namespace Go.AM
structure Da where
 L:Nat
 st:Nat
 F:List Bool
 N:List (List Nat)
deriving DecidableEq
namespace Da
def n (d:Da):Nat:=d.F.length
def nx (d:Da) (q x:Nat):Nat:=(d.N.getD q []).getD x 0
def fin (d:Da) (q:Nat):Bool:=d.F.getD q false
def run (d:Da) (q:Nat) (w:List Nat):Nat:=w.foldl d.nx q
def acc (d:Da) (q:Nat) (w:List Nat):Bool:=d.fin (d.run q w)
structure Ok (d:Da):Prop where
 l1:1≤d.L
 l6:d.L≤6
 nN:d.N.length=d.n
 row: ∀r∈d.N,r.length=d.L∧∀q∈r,q<d.n
 s:d.st<d.n
 cY:d.n≤512
end Da
def WL (L:Nat) (w:List Nat):Prop:= ∀x∈w,x<L
theorem WL.nil {L:Nat}:WL L []:=fun _ h=>by cases h
theorem WL.cons {L x:Nat} {w:List Nat} (h:x<L) (hw:WL L w):WL L (x::w):=fun y hy=>by
 rcases dG.1 hy with rfl|hy
 ·exact h
 ·exact hw y hy
theorem WL.tail {L x:Nat} {w:List Nat} (h:WL L (x::w)):WL L w:=fun y hy=>h y (by simp[hy])
theorem WL.app {L:Nat} {v w:List Nat}:WL L (v++w)↔WL L v∧WL L w:=by
 unfold WL
 simp only[eN]
 exact ⟨fun h=>⟨fun x hx=>h x (.inl hx),fun x hx=>h x (.inr hx)⟩,fun h x hx=>hx.elim (h.1 x) (h.2 x)⟩
namespace Da
def HY (d:Da) (q:Nat) (d':Da) (q':Nat):Prop:= ∀w,WL d.L w→d.acc q w=d'.acc q' w
theorem HY.nx {d d':Da} {q q' x:Nat} (h:d.HY q d' q') (hx:x<d.L):d.HY (d.nx q x) d' (d'.nx q' x):=fun w hw=>h (x::w) (hw.cons hx)
def pos (d:Da) (t:Nat):Nat:=d.nx (t/d.L) (t %d.L)
def mt (d:Da):Nat→Nat
 | 0=>1
 | t+1=>if d.pos t=d.mt t then d.mt t+1 else d.mt t
structure Num (d:Da):Prop where
 le: ∀t,t<d.n*d.L→d.pos t≤d.mt t
 row: ∀q,q<d.n→q<d.mt (q*d.L)
 all:d.mt (d.n*d.L)=d.n
structure Canon (d:Da) (L:Nat) (K:List Nat→Bool):Prop where
 ok:d.Ok
 hL:d.L=L
 st:d.st=0
 num:d.Num
 red: ∀p q,p<d.n→q<d.n→d.HY p d q→p=q
 amU: ∀w,WL L w→d.acc 0 w=K w
end Da
section
variable {α:Type} [DecidableEq α]
def ai2 (S:List α) (a:α):List α:=if a∈S then S else S++[a]
def WR (next:α→Nat→α) (S:List α) (a:α):Nat→List α
 | 0=>S
 | x+1=>ai2 (WR next S a x) (next a x)
def Dc (L:Nat) (next:α→Nat→α) (a0:α):Nat→List α
 | 0=>[a0]
 | i+1=>match (Dc L next a0 i)[i]? with
  | some a=>WR next (Dc L next a0 i) a L
  | none=>Dc L next a0 i
variable {L:Nat} {next:α→Nat→α} {a0:α}
section
variable {k:Nat} (hd:(Dc L next a0 k).length≤k)
include hd
end
section
variable {k:Nat} (hd:(Dc L next a0 k).length≤k) {fin:α→Bool}
include hd
end
end
namespace Da
end Da
end Go.AM
set_option maxRecDepth 100000
namespace Go.AM
open Go.Proofs
section
variable {α:Type} (ke:α→V)
def mu (i:Nat):List α→List V
 | []=>[]
 | a::S=> .bq [ke a,iV (i:Int)]::mu (i+1) S
where iV (n:Int):V:= .int .i64 n
end
section
variable {α:Type} [DecidableEq α] {ke:α→V}
variable (hk: ∀a b,mC (ke a) (ke b)=decide (a=b))
include hk
theorem WS (x:α): ∀(S:List α) (i:Nat),lR (ke x) (mu ke i S)=decide (x∈S)
 | [],_=>by simp[mu,lR]
 | a::S,i=>by
  have c: ∀(p q:V),(V.bq [p,q]).comp 0=p:=fun p q=>rfl
  rw[mu,lR,c,hk,WS x S (i+1)]
  rw[oD]
  simp
theorem WU (x:α) (z:V): ∀(S:List α) (i:Nat),x∈S→mD (ke x) (mu ke i S) z= .int .i64 ((i+S.idxOf x:Nat):Int)
 | [],_,h=>by cases h
 | a::S,i,h=>by
  have c: ∀(p q:V),(V.bq [p,q]).comp 0=p:=fun p q=>rfl
  have c1: ∀(p q:V),(V.bq [p,q]).comp 1=q:=fun p q=>rfl
  rw[mu,mD,c,c1,hk]
  by_cases e:x=a
  ·subst e
   rw[cx rfl]
   simp[mu.iV]
  ·rw[bz e,cond_false,WU x z S (i+1) ((dG.1 h).resolve_left e),show (a::S).idxOf x=S.idxOf x+1 from by rw[List.idxOf_cons,show (a==x)=false from pC.2 fun h=>e h.symm];rfl]
   congr 2
   omega
theorem WV (x:α): ∀(S:List α) (i:Nat),x∉S→iR (ke x) (.int .i64 ((i+S.length:Nat):Int)) (mu ke i S)=mu ke i (S++[x])
 | [],i,_=>by simp[mu,iR,mu.iV]
 | a::S,i,h=>by
  have c: ∀(p q:V),(V.bq [p,q]).comp 0=p:=fun p q=>rfl
  have e:x≠a:=fun e=>h (by simp[e])
  rw[mu,iR,c,hk,bz e,cond_false,List.cons_append,mu]
  congr 1
  have:=WV x S (i+1) fun hx=>h (by simp[hx])
  rw[←this]
  simp only[List.length_cons]
  congr 3
  omega
end
noncomputable def WW (C:ae) (ah aq:Int) (af:List V) (cl cw:Int) (bN cv bm:List V):Option (List V):=
 (C xV [.int .i64 ah,.int .i64 aq,.list aa af]).bind fun r1=>
 bif Nat.ble (((V.nth r1 0).toStr).length) maxLen&&true then
  bif Nat.ble ((bN.length+([.agg [.int .i64 0,.int .i64 0,.list aa ([]:List V)]]:List V).length)*40) b6 then
  bif (decide (0≤(bN.length:Int)))&&(decide ((bN.length:Int)<((bN++([.agg [.int .i64 0,.int .i64 0,.list aa ([]:List V)]]:List V)).length:Int))) then
   ((bN++([.agg [.int .i64 0,.int .i64 0,.list aa ([]:List V)]]:List V))[((bN.length:Int):Int).toNat]?).bind fun x2=>
   some [.int .i64 (bN.length:Int),.int .i64 cl,.int .i64 cw,.list cI (iR (.str ((V.nth r1 0).toStr)) (.int .i64 (bN.length:Int)) bm),.list aa ((bN++([.agg [.int .i64 0,.int .i64 0,.list aa ([]:List V)]]:List V)).set (((bN.length:Int):Int).toNat) (.agg [.int .i64 ah,.int .i64 aq,.list aa af])),.list ba cv]
  else none
  else none
 else none
theorem ai3 {ah aq:Int} {af:List V} {cl cw:Int} {bN cv bm:List V} {r:Option (List V)} (h:WW CC ah aq af cl cw bN cv bm=r):CC Bp [.int .i64 ah,.int .i64 aq,.list aa af,.int .i64 cl,.int .i64 cw,.list aa bN,.list ba cv,.list cI bm]=r:=
 aY (key:=38) (L:=cd) (bs:=[]) (by kernel_rfl) av (aW (by kernel_rfl) h)
noncomputable def WX (C:ae) (ah aq:Int) (af:List V) (letters:Int):Option (List V):=
 (C Bp [.int .i64 ah,.int .i64 aq,.list aa af,.int .i64 letters,.int .i64 0,.list aa ([]:List V),.list ba ([]:List V),.list cI ([]:List V)]).bind fun r1=>
 some [.int .i64 ((V.nth (r1.drop 1) 0).toInt),.int .i64 ((V.nth ((r1.drop 1).drop 1) 0).toInt),.list aa ((V.nth (((r1.drop 1).drop 2).drop 1) 0).toList),.list ba ((V.nth ((((r1.drop 1).drop 2).drop 1).drop 1) 0).toList),.list cI ((V.nth ((r1.drop 1).drop 2) 0).toList)]
theorem ai4 {ah aq:Int} {af:List V} {letters:Int} {r:Option (List V)} (h:WX CC ah aq af letters=r):CC xO [.int .i64 ah,.int .i64 aq,.list aa af,.int .i64 letters]=r:=
 aY (key:=23) (L:=cd) (bs:=[]) (by kernel_rfl) av (aW (by kernel_rfl) h)
noncomputable def WY (C:ae) (cl cw:Int) (bN cv bm:List V):Option (List V):=
 some [.bool ((cw:Int)==(bN.length:Int)),.int .i64 cl,.int .i64 cw,.list cI bm,.list aa bN,.list ba cv]
theorem ai5 {cl cw:Int} {bN cv bm:List V} {r:Option (List V)} (h:WY CC cl cw bN cv bm=r):CC vb [.int .i64 cl,.int .i64 cw,.list aa bN,.list ba cv,.list cI bm]=r:=
 aY (key:=28) (L:=cd) (bs:=[]) (by kernel_rfl) av (aW (by kernel_rfl) h)
noncomputable abbrev WZ:Code:=cE Tryz.prog (ax.aV 29)
noncomputable def tH (C:ae) (t16 t17 cl cw:Int) (bm rows b8 cP:List V) {β:Type} (kn:(Int × Int × Int × (List V) × (List V) × (List V) × (List V))→Option β) (kr:((Int × Int × Int × (List V) × (List V) × (List V)) ⊕ (Int × Bool × Int × Int × (List V) × (List V) × (List V) × (List V)))→Option β):Option β:=
 bif decide ((t17:Int)<t16) then
  bif (decide (0≤cw))&&(decide (cw<(b8.length:Int))) then
  (b8[(cw:Int).toNat]?).bind fun x1=>
  (C F7 [.int .i64 ((x1.cell 0).toInt),.int .i64 ((x1.cell 1).toInt),.list aa ((x1.cell 2).toList),.int .i64 t17]).bind fun r2=>
  bif (((V.nth (r2.drop 3) 0).toInt):Int) != 0 then
   kr (.inl ((V.nth (r2.drop 3) 0).toInt,cl,cw,bm,b8,cP))
  else
   (C xV [.int .i64 ((V.nth r2 0).toInt),.int .i64 ((V.nth (r2.drop 1) 0).toInt),.list aa ((V.nth ((r2.drop 1).drop 1) 0).toList)]).bind fun r3=>
   bif Nat.ble (((V.nth r3 0).toStr).length) maxLen&&true then
   bif !(lR (.str ((V.nth r3 0).toStr)) bm) then
    bif ((b8.length:Int):Int)==512 then
    kr (.inl (3,cl,cw,bm,b8,cP))
    else
    (C Bp [.int .i64 ((V.nth r2 0).toInt),.int .i64 ((V.nth (r2.drop 1) 0).toInt),.list aa ((V.nth ((r2.drop 1).drop 1) 0).toList),.int .i64 cl,.int .i64 cw,.list aa b8,.list ba cP,.list cI bm]).bind fun r4=>
    bif (decide (0≤t17))&&(decide (t17<(rows.length:Int))) then
     (rows[(t17:Int).toNat]?).bind fun x5=>
     kn (IntKind.wrap .i64 (t17+1),(V.nth (r4.drop 1) 0).toInt,(V.nth ((r4.drop 1).drop 1) 0).toInt,(V.nth ((r4.drop 1).drop 2) 0).toList,rows.set ((t17:Int).toNat) (.int .i64 ((V.nth r4 0).toInt)),(V.nth (((r4.drop 1).drop 2).drop 1) 0).toList,(V.nth ((((r4.drop 1).drop 2).drop 1).drop 1) 0).toList)
    else none
   else
    bif (decide (0≤t17))&&(decide (t17<(rows.length:Int))) then
    (rows[(t17:Int).toNat]?).bind fun x6=>
    kn (IntKind.wrap .i64 (t17+1),cl,cw,bm,rows.set ((t17:Int).toNat) (.int .i64 ((mD (.str ((V.nth r3 0).toStr)) bm (.int .i64 0)).toInt)),b8,cP)
    else none
   else none
  else none
 else
  kr (.inr (t17,decide ((t17:Int)<t16),cl,cw,bm,rows,b8,cP))
noncomputable def pr (C:ae) (t16:Int):(Int × Int × Int × (List V) × (List V) × (List V) × (List V))→Option ((Int × Int × Int × (List V) × (List V) × (List V) × (List V)) ⊕ ((Int × Int × Int × (List V) × (List V) × (List V)) ⊕ (Int × Bool × Int × Int × (List V) × (List V) × (List V) × (List V)))):=un fun t17=>un fun cl=>un fun cw=>un fun bm=>un fun rows=>un fun b8 cP=>tH C t16 t17 cl cw bm rows b8 cP (fun y=>some (.inl y)) (fun r=>some (.inr r))
noncomputable def W0 (C:ae):ct:=fun β n ds k=>
 bif Nat.beq n 49 then bY Lr [false,true,true,true,true,true,true,true] [[0,0,0,0,0,0],[1,0,0,0,0,0,0,0,0]] (@tH C) ds k else
 none
abbrev ai6 (C:ae) (b:cq):Prop:=cr Tryz.prog ax C (W0 C) 29 (cH Tryz.prog (ax.aV 29)) (ax.sin 29).bj.length b
theorem ai7 (C:ae):ai6 C (.loop (aw [1,1,0,1,0,0] WZ)):=
 b7 Lr [false,true,true,true,true,true,true,true] [[0,0,0,0,0,0],[1,0,0,0,0,0,0,0,0]] (@tH C) (by kernel_rfl) (bf (bs:=[]) (by kernel_rfl) av) (fun ds=>by kernel_rfl) (fun i x=>by kernel_rfl) (fun i x β k=>by kernel_rfl) (fun β ds k=>by kernel_rfl)
noncomputable def W3 (C:ae) (cl cw:Int) (bN cv bm:List V):Option (List V):=
 bif (decide (0≤cl))&&((decide (cl≤cl))&&(Nat.ble (((cl:Int).toNat)*8) b6)) then
  (Loop (pr C ((List.replicate ((cl:Int).toNat) (V.int .i64 0)).length:Int)) (0,cl,cw,bm,List.replicate ((cl:Int).toNat) (V.int .i64 0),bN,cv)).bind (bV (un fun (pb:Int)=>un fun (Dd:Int)=>un fun (De:Int)=>un fun (Df:List V)=>un fun (r0:List V) (wa:List V)=>
   some [.int .i64 pb,.int .i64 Dd,.int .i64 De,.list cI Df,.list aa r0,.list ba wa]) (un fun (MI:Int)=>un fun (qe:Bool)=>un fun (Of:Int)=>un fun (Og:Int)=>un fun (Dg:List V)=>un fun (Dh:List V)=>un fun (Di:List V) (Dj:List V)=>
   bif Nat.ble ((Dj.length+([.list gA Dh]:List V).length)*24) b6 then
   some [.int .i64 0,.int .i64 Of,.int .i64 (IntKind.wrap .i64 (Og+1)),.list cI Dg,.list aa Di,.list ba (Dj++([.list gA Dh]:List V))]
   else none))
 else none
theorem ai8 {cl cw:Int} {bN cv bm:List V} {r:Option (List V)} (h:W3 CC cl cw bN cv bm=r):CC s5 [.int .i64 cl,.int .i64 cw,.list aa bN,.list ba cv,.list cI bm]=r:=
 aY (key:=29) (L:=W0 CC) (bs:=[.loop (aw [1,1,0,1,0,0] WZ)]) (by kernel_rfl) (bx (ai7 CC) av) (aW (by kernel_rfl) h)
end Go.AM
set_option maxRecDepth 100000
namespace Go.AM
open Go.Proofs Ex
def cQ (r:List Int):V:= .list gA (r.map fun n=> .int .i64 n)
def fp (es:List Ex):List V:=mu V.str 0 (es.map Ex.text)
theorem Oh (a b:List UInt8):mC (.str a) (.str b)=decide (a=b):=by
 simp only[mC,V.cells,uc,wI,Bool.and_true]
 rw[oD]
 simp
theorem Oi {es:List Ex} (h: ∀e∈es,Nv e) {d:Ex} (hd:Nv d):d.text∈es.map Ex.text↔d∈es:=by
 rw[gG]
 constructor
 ·rintro ⟨a,ha,he⟩
  rw[←WC (h a ha).1.2 hd.1.2 he];exact ha
 ·exact fun hx=>⟨d,hx,rfl⟩
theorem W4 {α β:Type} [DecidableEq α] [DecidableEq β] {f:α→β} {d:α}: ∀{es:List α},(∀e∈es,f e=f d→e=d)→(es.map f).idxOf (f d)=es.idxOf d
 | [],_=>rfl
 | e::es,h=>by
  rw[cJ,List.idxOf_cons,List.idxOf_cons,W4 fun x hx=>h x (by simp[hx])]
  have:(f e==f d)=(e==d):=by
   rw[oD,sn,sn]
   exact ⟨h e (by simp),fun h=>by rw[h]⟩
  rw[this]
theorem HZ {e:Ex} (h:e.val 6=0):(Nat.ble e.text.length maxLen&&true)=true:=by
 have a:=Wr e
 have b:=jX h
 rw[Bool.and_true,dh]
 unfold maxLen
 omega
theorem H0 {e:Ex} (h:Nv e):CC xV (bQ e [])=some [.str e.text]:=by
 rw[ai1 e (ai9 h),aj h.2]
where ai9 {e:Ex} (h:Nv e):e.Ok:=mZ (by omega) e h.1.2 (by have:=jX h.2;omega)
def qq (s:Dv):List V:=[.int .i64 s.L,.int .i64 s.dn,.list aa (s.es.map enc),.list ba (s.nx.map cQ),.list cI (fp s.es)]
def H2 (s:Dv):List V:=[.int .i64 s.L,.int .i64 s.dn,.list cI (fp s.es),.list aa (s.es.map enc),.list ba (s.nx.map cQ)]
theorem aja {es:List Ex} (h: ∀e∈es,Nv e) {d:Ex} (hd:Nv d) (hn:d∉es):iR (.str d.text) (.int .i64 (es.length:Int)) (fp es)=fp (es++[d]):=by
 have:=WV (ke:=V.str) Oh d.text (es.map Ex.text) 0 fun hx=>hn ((Oi h hd).1 hx)
 rw[aJ,gY] at this
 unfold fp
 rw[this,eD]
 rfl
theorem ajb {α:Type} (a:List α) (x y:α):(a++[x]).set a.length y=a++[y]:=by
 simp[List.set_append_right]
theorem W5 {L dn:Int} {es:List Ex} {d:Ex} {nx:List V} (h: ∀e∈es,Nv e) (hd:Nv d) (hn:d∉es) (hl:es.length≤1000):
  CC Bp (bQ d [.int .i64 L,.int .i64 dn,.list aa (es.map enc),.list ba nx,.list cI (fp es)])=some [.int .i64 (es.length:Int),.int .i64 L,.int .i64 dn,.list cI (fp (es++[d])),.list aa ((es++[d]).map enc),.list ba nx]:=by
 refine ai3 ?_
 unfold WW
 refine bs (H0 hd) ?_
 refine bT (HZ hd.2) ?_
 refine bT (ze (by simp;omega)) ?_
 refine (nf (i:=(es.map enc).length) (v:= .agg [.int .i64 0,.int .i64 0,.list aa ([]:List V)]) (by simp)).trans ?_
 rw[Int.toNat_natCast,ajb]
 have h1:=aja h hd hn
 rw[aJ]
 show some [V.int .i64 (es.length:Int),.int .i64 L,.int .i64 dn,.list cI (iR (.str d.text) (.int .i64 (es.length:Int)) (fp es)),.list aa (es.map enc++[.agg [.int .i64 d.op,.int .i64 d.bB,.list aa (d.kids.map enc)]]),.list ba nx]=_
 rw[h1,ahR,eD]
 rfl
theorem Oj {e:Ex} {L:Int} (h:Nv e):CC xO (bQ e [.int .i64 L])=some (qq ⟨L,[e],[],0⟩):=by
 refine ai4 ?_
 unfold WX
 refine bs (W5 (L:=L) (dn:=0) (es:=[]) (d:=e) (nx:=[]) (by simp) h (by simp) (by simp)) ?_
 rfl
theorem qs (s:Dv):CC vb (qq s)=some (.bool (s.dn==s.es.length)::H2 s):=by
 refine ai5 ?_
 unfold WY
 rw[aJ]
 rfl
theorem Ol {L dn:Int} {e:Ex} {k:Nat} {nx:List V} (hk:dn=(k:Int)) (he:Nv e): ∀(n x:Nat) (es:List Ex) (row:List Int),L=((x+n:Nat):Int)→x+n≤10→Es es→k<es.length→es.getD k aG=e→row.length=x→
  (∀p,kg e n x es row=some p→Loop (pr CC L) (((x:Nat):Int),L,dn,fp es,(row.map fun n=>V.int .i64 n)++List.replicate n (.int .i64 0),es.map enc,nx)=some (.inr (L,false,L,dn,fp p.1,(p.2.map fun n=>V.int .i64 n),p.1.map enc,nx)))
  ∧(kg e n x es row=none→∃y,Loop (pr CC L) (((x:Nat):Int),L,dn,fp es,(row.map fun n=>V.int .i64 n)++List.replicate n (.int .i64 0),es.map enc,nx)=some (.inl (3,y)))
 | 0,x,es,row,hL,hx,jB,fv,nK,hr=>by
  refine ⟨fun p hp=> ?_,fun hp=>by simp[kg] at hp⟩
  cases hp
  refine aS ?_
  simp only[pr,tH,un]
  rw[az,ai (by omega),bz (by omega),show L=((x:Nat):Int) by omega]
  simp
 | n+1,x,es,row,hL,hx,jB,fv,nK,hr=>by
  subst hk
  have aO:decide ((x:Int)<L)=true:=cx (by omega)
  have bM:(es.map enc)[k]? =some e.enc:=by
   rw[fI,bG fv,←nK,fU,bG fv];rfl
  have hb:=ais he (x:Int)
  have Om:qo (aI (bO x e))=match ou e x with|some d=>(d,0)|none=>(aG,3):=by
   unfold qo ou;split<;>rfl
  rw[Om] at hb
  have H3:x=(row.map fun n=>V.int .i64 n).length:=by simp[hr]
  rw[kg]
  cases bX:ou e x with
  | none=>
   rw[bX] at hb
   refine ⟨fun p hp=>(by cases hp),fun _=>⟨(L,(k:Int),fp es,es.map enc,nx),aS ?_⟩⟩
   ·simp only[pr,tH,un]
    refine bT aO ((nf bM).trans ?_)
    rw[aU,aZ,aX]
    refine bs hb ?_
    exact bT rfl rfl
  | some d=>
   rw[bX] at hb
   have hd:=(NY he bX).1
   have On:lR (.str d.text) (fp es)=decide (d∈es):=by
    unfold fp
    rw[WS Oh,zT]
    exact Oi jB.nv hd
   simp only[Option.bind_some]
   by_cases hm:d∈es
   ·rw[aj hm]
    have Pk:es.idxOf d<es.length:=DW.2 hm
    obtain ⟨i1,i2⟩:=Ol (L:=L) (e:=e) (k:=k) (nx:=nx) rfl he n (x+1) es (row++[(es.idxOf d:Int)]) (by omega) (by omega) jB fv nK (by simp[hr])
    have cT:pr CC L (((x:Nat):Int),L,(k:Int),fp es,(row.map fun n=>V.int .i64 n)++List.replicate (n+1) (.int .i64 0),es.map enc,nx)=some (.inl (((x+1:Nat):Int),L,(k:Int),fp es,((row++[(es.idxOf d:Int)]).map fun n=>V.int .i64 n)++List.replicate n (.int .i64 0),es.map enc,nx)):=by
     simp only[pr,tH,un]
     refine bT aO ((nf bM).trans ?_)
     rw[aU,aZ,aX]
     refine bs hb (bF rfl (bs (H0 hd) (bT (HZ hd.2) ?_)))
     refine bF (by rw[V.aM,V.FM,On,cx hm];rfl) ?_
     refine (tz H3).trans ?_
     rw[Int.toNat_natCast,tA H3,kZ (by omega),V.aM,V.FM]
     have hg:mD (.str d.text) (fp es) (.int .i64 0)= .int .i64 (es.idxOf d:Int):=by
      unfold fp
      rw[WU Oh _ _ _ _ ((Oi jB.nv hd).2 hm),W4 fun x hx=>WC (jB.nv x hx).1.2 hd.1.2,gY]
     rw[hg,V.toInt_int,eD]
     rfl
    exact ⟨fun p hp=>(bJ cT).trans (i1 p hp),fun hp=>by obtain ⟨y,hy⟩:=i2 hp;exact ⟨y,(bJ cT).trans hy⟩⟩
   ·rw[ai hm]
    by_cases sa:es.length=512
    ·rw[aj sa]
     refine ⟨fun p hp=>(by cases hp),fun _=>⟨(L,(k:Int),fp es,es.map enc,nx),aS ?_⟩⟩
     ·simp only[pr,tH,un]
      refine bT aO ((nf bM).trans ?_)
      rw[aU,aZ,aX]
      refine bs hb (bF rfl (bs (H0 hd) (bT (HZ hd.2) ?_)))
      refine bT (by rw[V.aM,V.FM,On,bz hm];rfl) ?_
      exact bT (by rw[aJ,sa];rfl) rfl
    ·rw[ai sa]
     have hl:=jB.le
     obtain ⟨i1,i2⟩:=Ol (L:=L) (e:=e) (k:=k) (nx:=nx) rfl he n (x+1) (es++[d]) (row++[(es.length:Int)]) (by omega) (by omega) (jB.snoc hd hm sa) (by simp;omega) (by rw[CU fv,nK]) (by simp[hr])
     have cT:pr CC L (((x:Nat):Int),L,(k:Int),fp es,(row.map fun n=>V.int .i64 n)++List.replicate (n+1) (.int .i64 0),es.map enc,nx)=some (.inl (((x+1:Nat):Int),L,(k:Int),fp (es++[d]),((row++[(es.length:Int)]).map fun n=>V.int .i64 n)++List.replicate n (.int .i64 0),(es++[d]).map enc,nx)):=by
      simp only[pr,tH,un]
      refine bT aO ((nf bM).trans ?_)
      rw[aU,aZ,aX]
      refine bs hb (bF rfl (bs (H0 hd) (bT (HZ hd.2) ?_)))
      refine bT (by rw[V.aM,V.FM,On,bz hm];rfl) ?_
      refine bF (by rw[aJ,pC];omega) ?_
      refine bs (W5 jB.nv hd hm (by omega)) ?_
      refine (tz H3).trans ?_
      rw[Int.toNat_natCast,tA H3,kZ (by omega),eD (l₁:=row)]
      rfl
     exact ⟨fun p hp=>(bJ cT).trans (i1 p hp),fun hp=>by obtain ⟨y,hy⟩:=i2 hp;exact ⟨y,(bJ cT).trans hy⟩⟩
theorem Oo {s:Dv} (hs:Gs s) (hd:s.dn<s.es.length):
  (∀t,proc s=some t→CC s5 (qq s)=some (.int .i64 0::H2 t))∧(proc s=none→∃l,CC s5 (qq s)=some (.int .i64 3::l)):=by
 have CV:=hs.dn
 have hL:=hs.L
 have hq:s.dn.toNat<s.es.length:=by omega
 have kI:=hs.nl
 have hle:=hs.es.le
 have hN:((s.L.toNat:Nat):Int)=s.L:=by omega
 obtain ⟨l1,l2⟩:=Ol (L:=s.L) (dn:=s.dn) (e:=s.es.getD s.dn.toNat aG) (k:=s.dn.toNat) (nx:=s.nx.map cQ) (by omega) (hs.es.nv _ (po hq)) s.L.toNat 0 s.es [] (by omega) (by omega) hs.es hq rfl rfl
 have hf: ∀{r:Option (List V)},((Loop (pr CC s.L) (((0:Nat):Int),s.L,s.dn,fp s.es,List.replicate s.L.toNat (V.int .i64 0),s.es.map enc,s.nx.map cQ)).bind (bV (un fun (pb:Int)=>un fun (Dd:Int)=>un fun (De:Int)=>un fun (Df:List V)=>un fun (r0:List V) (wa:List V)=>some [V.int .i64 pb,.int .i64 Dd,.int .i64 De,.list cI Df,.list aa r0,.list ba wa]) (un fun (MI:Int)=>un fun (qe:Bool)=>un fun (Of:Int)=>un fun (Og:Int)=>un fun (Dg:List V)=>un fun (Dh:List V)=>un fun (Di:List V) (Dj:List V)=>bif Nat.ble ((Dj.length+([.list gA Dh]:List V).length)*24) b6 then some [.int .i64 0,.int .i64 Of,.int .i64 (IntKind.wrap .i64 (Og+1)),.list cI Dg,.list aa Di,.list ba (Dj++([.list gA Dh]:List V))] else none)))=r→CC s5 (qq s)=r:=fun h=>by
  refine ai8 ?_
  unfold W3
  refine bT ?_ ?_
  ·refine tZ.2 ⟨cx (by omega),tZ.2 ⟨cx (by omega),?_⟩⟩
   rw[dh,gR];omega
  ·rw[tV,hN]
   exact h
 refine ⟨fun t ht=>hf ?_,fun ht=> ?_⟩
 ·obtain ⟨p,hp,rfl⟩:=N0 ht
  refine bs (l1 p hp) ?_
  simp only[bV,un]
  refine bT (by rw[dh,gR];simp;omega) ?_
  rw[wrap64 (by omega) (by omega)]
  unfold H2
  simp only[eD]
  rfl
 ·have hr:kg (s.es.getD s.dn.toNat aG) s.L.toNat 0 s.es []=none:=by
   unfold proc at ht
   rwa [Option.map_eq_none_iff] at ht
  obtain ⟨y,hy⟩:=l2 hr
  exact ⟨_,hf (bs hy rfl)⟩
end Go.AM
set_option maxRecDepth 100000
namespace Go.AM
open Go.Proofs
noncomputable abbrev W6:Code:=cE Tryz.prog (ax.aV 34)
noncomputable def Dk (C:ae) (t22 W7 W8:Int) (bm:List V) (ka kb mo mq:Int) (H4 pn W9 Xa:List V) (t23:Int) (Dl:List V) {β:Type} (kn:(Int × (List V))→Option β) (kr:(Int × Bool × (List V))→Option β):Option β:=
 bif decide ((t23:Int)<t22) then
  bif (decide (0≤t23))&&(decide (t23<(H4.length:Int))) then
  (H4[(t23:Int).toNat]?).bind fun x1=>
  (C kO [.int .i64 ((x1.cell 0).toInt),.int .i64 ((x1.cell 1).toInt),.list aa ((x1.cell 2).toList)]).bind fun r2=>
  bif Nat.ble ((Dl.length+([.bool ((V.nth r2 0).toBool)]:List V).length)*1) b6 then
   kn (IntKind.wrap .i64 (t23+1),Dl++([.bool ((V.nth r2 0).toBool)]:List V))
  else none
  else none
 else
  kr (t23,decide ((t23:Int)<t22),Dl)
noncomputable def H5 (C:ae) (t22 W7 W8:Int) (bm:List V) (ka kb mo mq:Int) (H4 pn W9 Xa:List V):(Int × (List V))→Option ((Int × (List V)) ⊕ (Int × Bool × (List V))):=un fun t23 Dl=>Dk C t22 W7 W8 bm ka kb mo mq H4 pn W9 Xa t23 Dl (fun y=>some (.inl y)) (fun r=>some (.inr r))
noncomputable def Xb (C:ae):ct:=fun β n ds k=>
 bif Nat.beq n 49 then bY Ly [false,true,false,false,false,false,false,false,false,false,false,false,false,true] [[1,0,0,3,4,5,6,7,8,9,10,11,12,13,0]] (@Dk C) ds k else
 none
abbrev ajc (C:ae) (b:cq):Prop:=cr Tryz.prog ax C (Xb C) 34 (cH Tryz.prog (ax.aV 34)) (ax.sin 34).bj.length b
theorem ajd (C:ae):ajc C (.loop (aw [1,1,0,1,0,0] W6)):=
 b7 Ly [false,true,false,false,false,false,false,false,false,false,false,false,false,true] [[1,0,0,3,4,5,6,7,8,9,10,11,12,13,0]] (@Dk C) (by kernel_rfl) (bf (bs:=[]) (by kernel_rfl) av) (fun ds=>by kernel_rfl) (fun i x=>by kernel_rfl) (fun i x β k=>by kernel_rfl) (fun β ds k=>by kernel_rfl)
noncomputable def Xc (C:ae) (cl cw:Int) (bN cv bm:List V):Option (List V):=
 (Loop (H5 C (bN.length:Int) cl cw bm 0 0 cl 0 bN cv ([]:List V) ([]:List V)) (0,([]:List V))).bind (un fun (jm:Int)=>un fun (gS:Bool) (Oq:List V)=>
  some [.int .i64 cl,.int .i64 0,.int .i64 cl,.int .i64 cw,.list cI bm,.list lA Oq,.list ba cv,.list aa bN])
theorem aje {cl cw:Int} {bN cv bm:List V} {r:Option (List V)} (h:Xc CC cl cw bN cv bm=r):CC F5 [.int .i64 cl,.int .i64 cw,.list aa bN,.list ba cv,.list cI bm]=r:=
 aY (key:=34) (L:=Xb CC) (bs:=[.loop (aw [1,1,0,1,0,0] W6)]) (by kernel_rfl) (bx (ajd CC) av) (aW (by kernel_rfl) h)
noncomputable abbrev Xd:Code:=cE Tryz.prog (ax.aV 20)
noncomputable def zk (C:ae) (ee ef:Int) (cv bm:List V) (cl cw:Int) (dm b8 cP:List V) {β:Type} (kn:(Int × Int × (List V) × (List V) × (List V))→Option β) (kr:((Int × Int × Int × (List V) × (List V)) ⊕ (Bool × Int × Int × (List V) × (List V) × (List V)))→Option β):Option β:=
 (C vb [.int .i64 cl,.int .i64 cw,.list aa dm,.list ba b8,.list cI cP]).bind fun r4=>
 bif !((V.nth r4 0).toBool) then
  (C s5 [.int .i64 ((V.nth (r4.drop 1) 0).toInt),.int .i64 ((V.nth ((r4.drop 1).drop 1) 0).toInt),.list aa ((V.nth (((r4.drop 1).drop 2).drop 1) 0).toList),.list ba ((V.nth ((((r4.drop 1).drop 2).drop 1).drop 1) 0).toList),.list cI ((V.nth ((r4.drop 1).drop 2) 0).toList)]).bind fun r5=>
  bif (((V.nth r5 0).toInt):Int) != 0 then
  kr (.inl ((V.nth r5 0).toInt,0,0,([]:List V),([]:List V)))
  else
  kn ((V.nth (r5.drop 1) 0).toInt,(V.nth ((r5.drop 1).drop 1) 0).toInt,(V.nth (((r5.drop 1).drop 2).drop 1) 0).toList,(V.nth ((((r5.drop 1).drop 2).drop 1).drop 1) 0).toList,(V.nth ((r5.drop 1).drop 2) 0).toList)
 else
  kr (.inr (!((V.nth r4 0).toBool),(V.nth (r4.drop 1) 0).toInt,(V.nth ((r4.drop 1).drop 1) 0).toInt,(V.nth (((r4.drop 1).drop 2).drop 1) 0).toList,(V.nth ((((r4.drop 1).drop 2).drop 1).drop 1) 0).toList,(V.nth ((r4.drop 1).drop 2) 0).toList))
noncomputable def wg (C:ae) (ee ef:Int) (cv bm:List V):(Int × Int × (List V) × (List V) × (List V))→Option ((Int × Int × (List V) × (List V) × (List V)) ⊕ ((Int × Int × Int × (List V) × (List V)) ⊕ (Bool × Int × Int × (List V) × (List V) × (List V)))):=un fun cl=>un fun cw=>un fun dm=>un fun b8 cP=>zk C ee ef cv bm cl cw dm b8 cP (fun y=>some (.inl y)) (fun r=>some (.inr r))
noncomputable def Xe (C:ae):ct:=fun β n ds k=>
 bif Nat.beq n 81 then bY Lk [false,false,true,true,false,false,true,true,true] [[0,0,0,0,0],[0,1,2,0,0,5,6,0,0,0]] (@zk C) ds k else
 none
abbrev ajf (C:ae) (b:cq):Prop:=cr Tryz.prog ax C (Xe C) 20 (cH Tryz.prog (ax.aV 20)) (ax.sin 20).bj.length b
theorem ajg (C:ae):ajf C (.loop (aw [1,1,1,0,0,0] Xd)):=
 b7 Lk [false,false,true,true,false,false,true,true,true] [[0,0,0,0,0],[0,1,2,0,0,5,6,0,0,0]] (@zk C) (by kernel_rfl) (bf (bs:=[]) (by kernel_rfl) av) (fun ds=>by kernel_rfl) (fun i x=>by kernel_rfl) (fun i x β k=>by kernel_rfl) (fun β ds k=>by kernel_rfl)
noncomputable def Xf (C:ae) (ah aq:Int) (af:List V) (letters:Int):Option (List V):=
 (C s4 [.int .i64 ah,.int .i64 aq,.list aa af,.int .i64 letters]).bind fun r1=>
 bif (((V.nth r1 0).toInt):Int) != 0 then
  some [.int .i64 0,.int .i64 0,.int .i64 ((V.nth r1 0).toInt),.list lA ([]:List V),.list ba ([]:List V)]
 else
  (C xP [.int .i64 ah,.int .i64 aq,.list aa af]).bind fun r2=>
  (C xO [.int .i64 ((V.nth r2 0).toInt),.int .i64 ((V.nth (r2.drop 1) 0).toInt),.list aa ((V.nth ((r2.drop 1).drop 1) 0).toList),.int .i64 letters]).bind fun r3=>
  (Loop (wg C 0 0 ([]:List V) ([]:List V)) ((V.nth r3 0).toInt,(V.nth (r3.drop 1) 0).toInt,(V.nth (r3.drop 2) 0).toList,(V.nth ((r3.drop 2).drop 1) 0).toList,(V.nth (((r3.drop 2).drop 1).drop 1) 0).toList)).bind (bV (un fun (kS:Int)=>un fun (ajh:Int)=>un fun (aji:Int)=>un fun (De:List V) (Df:List V)=>
   some [.int .i64 ajh,.int .i64 aji,.int .i64 kS,.list lA De,.list ba Df]) (un fun (GR:Bool)=>un fun (wh:Int)=>un fun (ajj:Int)=>un fun (pq:List V)=>un fun (nh:List V) (ajk:List V)=>
   (C F5 [.int .i64 wh,.int .i64 ajj,.list aa pq,.list ba nh,.list cI ajk]).bind fun dY=>
   some [.int .i64 ((V.nth dY 0).toInt),.int .i64 ((V.nth (dY.drop 1) 0).toInt),.int .i64 0,.list lA ((V.nth (((dY.drop 2).drop 2).drop 1) 0).toList),.list ba ((V.nth ((((dY.drop 2).drop 2).drop 1).drop 1) 0).toList)]))
theorem ajl {ah aq:Int} {af:List V} {letters:Int} {r:Option (List V)} (h:Xf CC ah aq af letters=r):CC F2 [.int .i64 ah,.int .i64 aq,.list aa af,.int .i64 letters]=r:=
 aY (key:=20) (L:=Xe CC) (bs:=[.loop (aw [1,1,1,0,0,0] Xd)]) (by kernel_rfl) (bx (ajg CC) av) (aW (by kernel_rfl) h)
end Go.AM
set_option maxRecDepth 100000
namespace Go.AM
open Go.Proofs Ex
abbrev lH (d:Dv) (l:List V):List V:= .int .i64 d.L:: .list aa (d.es.map enc):: .list ba (d.nx.map cQ):: .int .i64 d.dn::l
structure Dv.Ok (d:Dv):Prop where
 es: ∀e∈d.es,e.Ok
 el:d.es.length≤maxLen
 nl:d.nx.length≤maxLen
 rl: ∀r∈d.nx,r.length≤maxLen
theorem ajm {α:Type} {a b:List α} {z:α} (hl:a.length=b.length) (h: ∀i,i<a.length→a.getD i z=b.getD i z):a=b:=by
 refine List.ext_getElem hl fun i h1 U=> ?_
 have:=h i h1
 rw[fU,fU,bG h1,bG U] at this
 exact this
theorem ow {α:Type} {a b:List α} {z:α} (hl:a.length=b.length):(∀i,i<a.length→a.getD i z=b.getD i z)↔a=b:=
 ⟨ajm hl,fun h=>by rw[h];exact fun _ _=>rfl⟩
theorem lI {α:Type} {f:α→V} {l:List α} {z:α} {i:Nat} (h:i<l.length):idx (l.map f) (i:Int)=some (f (l.getD i z)):=by
 rw[abM rfl,fI,bG h,fU,bG h];rfl
theorem H6 {s:Dv} (hs:Gs s):s.Ok:=by
 have h1:=hs.es.le
 have U:=hs.nl
 have h3:=hs.dn
 have h4:=hs.L
 refine ⟨fun e he=>mZ (by omega) e (hs.es.nv e he).1.2 (by have:=jX (hs.es.nv e he).2;omega),by unfold maxLen;omega,by unfold maxLen;omega,fun r hr=> ?_⟩
 obtain ⟨q,hq,rfl⟩:=List.getElem_of_mem hr
 have:=(hs.row q (by omega)).1
 rw[fU,bG hq,Option.getD_some] at this
 rw[this];unfold maxLen;omega
abbrev ki (s:Dv):Int × Int × List V × List V × List V:=(s.L,s.dn,s.es.map enc,s.nx.map cQ,fp s.es)
abbrev wi (p:Dv × Int):List V:=[.int .i64 p.1.L,.int .i64 p.1.dn,.int .i64 p.2,.list aa (p.1.es.map enc),.list ba (p.1.nx.map cQ)]
theorem Xg {e:Ex} {L:Int} (h:e.val L=0):Nv (aI e):=⟨lE e (jX (tF h)).2.2,HP (tF h)⟩
structure Fa where
 L:Int
 F:List Bool
 N:List (List Int)
abbrev faE (p:Fa × Int):List V:=[.int .i64 p.1.L,.int .i64 0,.int .i64 p.2,.list lA (p.1.F.map V.bool),.list ba (p.1.N.map cQ)]
def Fa.zero:Fa:=⟨0,[],[]⟩
def ajn (d:Dv):Fa:=⟨d.L,d.es.map Ex.cZ,d.nx⟩
theorem ajo {es:List Ex} (hn:es.length≤1000) (ho: ∀e∈es,Nv e) {a b c1 c2 c3 c4:Int} {l1 l2 l3 l4:List V}: ∀(ay pre:List Ex),es=pre++ay→
  Loop (H5 CC (es.length:Int) a b l1 c1 c2 c3 c4 (es.map enc) l2 l3 l4) (((pre.length:Nat):Int),(pre.map Ex.cZ).map V.bool)=some ((es.length:Int),false,(es.map Ex.cZ).map V.bool):=by
 intro ay
 induction ay with
 | nil=>
  intro pre e
  rw[c9] at e
  subst e
  refine aS ?_
  simp only[H5,Dk,un]
  rw[az,ai (by omega),bz (by omega)]
 | cons k ay ec=>
  intro pre e
  have bS:pre.length<es.length:=by rw[e];simp
  have hk:k∈es:=by rw[e];simp
  have bM:(es.map enc)[pre.length]? =some k.enc:=by rw[e];simp
  have hv:=jX (ho k hk).2
  refine (bJ ?_).trans (ec (pre++[k]) (by simp[e]))
  simp only[H5,Dk,un]
  refine bT (kf bS) ((nf bM).trans ?_)
  rw[aU,aZ,aX]
  refine bs (aeB (letters:=6) k (mZ (by omega) k hv.2.2 (by omega)) hv.2.2) ?_
  refine bT (by rw[dh,gR];simp;omega) ?_
  rw[kZ (by omega)]
  simp only[eD,cJ,fT,b9,List.length_cons,List.length_nil]
  rfl
theorem ajp {s:Dv} (hs:Gs s): ∃l,CC F5 (qq s)=some l∧(V.nth l 0).toInt=s.L∧(V.nth (l.drop 1) 0).toInt=0∧(V.nth (((l.drop 2).drop 2).drop 1) 0).toList=(s.es.map Ex.cZ).map V.bool∧(V.nth ((((l.drop 2).drop 2).drop 1).drop 1) 0).toList=s.nx.map cQ:=by
 have hl:=hs.es.le
 refine ⟨[.int .i64 s.L,.int .i64 0,.int .i64 s.L,.int .i64 s.dn,.list cI (fp s.es),.list lA ((s.es.map Ex.cZ).map V.bool),.list ba (s.nx.map cQ),.list aa (s.es.map enc)],aje ?_,?_⟩
 ·unfold Xc
  rw[aJ]
  refine bs (ajo (by omega) hs.es.nv s.es [] rfl) ?_
  simp only[un]
 ·exact ⟨rfl,rfl,rfl,rfl⟩
def Dm (e:Ex) (L:Int):Fa × Int:=if e.val L=0 then (match eL 513 (fD e L) with|some t=>(ajn t,0)|none=>(.zero,3)) else (.zero,e.val L)
theorem Xh {a b:Int} {l1 l2:List V}: ∀(n:Nat) (s:Dv),Gs s→513≤s.dn+n→
  (∀t,eL n s=some t→Loop (wg CC a b l1 l2) (ki s)=some (.inr (false,t.L,t.dn,t.es.map enc,t.nx.map cQ,fp t.es)))∧(eL n s=none→Loop (wg CC a b l1 l2) (ki s)=some (.inl (3,0,0,[],[])))
 | 0,s,hs,hn=>by have:=hs.dn;have:=hs.es.le;omega
 | n+1,s,hs,hn=>by
  rw[eL]
  have CV:=hs.dn
  by_cases hd:s.dn<s.es.length
  ·rw[aj hd]
   obtain ⟨p1,p2⟩:=Oo hs hd
   have hf:(!(s.dn==(s.es.length:Int)))=true:=by rw[mw,pC];omega
   cases hp:proc s with
   | none=>
    obtain ⟨l,hl⟩:=p2 hp
    refine ⟨fun t ht=>(by cases ht),fun _=>aS ?_⟩
    simp only[wg,zk,un]
    refine bs (qs s) (bT hf ?_)
    refine bs hl ?_
    rfl
   | some u=>
    obtain ⟨g,_,g2,_⟩:=zi hs hd hp
    obtain ⟨i1,i2⟩:=Xh (a:=a) (b:=b) (l1:=l1) (l2:=l2) n u g (by omega)
    have cT:wg CC a b l1 l2 (ki s)=some (.inl (ki u)):=by
     simp only[wg,zk,un]
     refine bs (qs s) (bT hf ?_)
     refine bs (p1 u hp) ?_
     rfl
    exact ⟨fun t ht=>(bJ cT).trans (i1 t ht),fun ht=>(bJ cT).trans (i2 ht)⟩
  ·rw[ai hd]
   refine ⟨fun t ht=> ?_,fun ht=>(by cases ht)⟩
   cases ht
   refine aS ?_
   have hf:(!(s.dn==(s.es.length:Int)))=false:=by rw[Bool.not_eq_false',sn];omega
   simp only[wg,zk,un]
   refine bs (qs s) (bF hf ?_)
   exact congrArg (fun b=>some (Sum.inr (Sum.inr (b,s.L,s.dn,s.es.map enc,s.nx.map cQ,fp s.es)))) hf
theorem ajq {e:Ex} (h:e.Ok) (L:Int):CC F2 (bQ e [.int .i64 L])=some (faE (Dm e L)):=by
 refine ajl ?_
 unfold Xf Dm
 refine bs (vy e h L) ?_
 by_cases hv:e.val L=0
 ·rw[aj hv]
  refine bF (by rw[V.aM,V.toInt_int,hv];rfl) ?_
  have hN:=NM e h
  rw[aj (tF hv)] at hN
  refine bs hN (bs (Oj (L:=L) (Xg hv)) ?_)
  obtain ⟨l1,l2⟩:=Xh (a:=0) (b:=0) (l1:=[]) (l2:=[]) 513 (fD e L) (v9 hv) (by show 513≤(0:Int)+_;omega)
  cases hp:eL 513 (fD e L) with
  | none=>exact bs (l2 hp) rfl
  | some t=>
   refine bs (l1 t hp) ?_
   obtain ⟨l,a1,a2,a3,a4,a5⟩:=ajp (tG 513 _ _ (v9 hv) hp).1
   refine bs a1 ?_
   rw[a2,a3,a4,a5]
   rfl
 ·rw[ai hv]
  refine bT ?_ rfl
  rw[V.aM,V.toInt_int,kq];exact hv
end Go.AM
set_option maxRecDepth 100000
namespace Go.AM
open Go.Proofs
noncomputable def Xi (C:ae) (bC:Int) (bt cD:List V) (cB cl cw:Int) (bN cv bm:List V):Option (List V):=
 bif (cl:Int)==bC then
  bif (cw:Int)==cB then
  (C Ga [.list aa bN,.list aa bt]).bind fun r1=>
  bif (V.nth r1 0).toBool then
   (C Gb [.list ba cv,.list ba cD]).bind fun r2=>
   some [.bool ((V.nth r2 0).toBool),.int .i64 cl,.int .i64 cw,.list cI bm,.list aa bN,.list ba cv]
  else
   some [.bool false,.int .i64 cl,.int .i64 cw,.list cI bm,.list aa bN,.list ba cv]
  else
  some [.bool false,.int .i64 cl,.int .i64 cw,.list cI bm,.list aa bN,.list ba cv]
 else
  some [.bool false,.int .i64 cl,.int .i64 cw,.list cI bm,.list aa bN,.list ba cv]
theorem ajr {bC:Int} {bt cD:List V} {cB cl cw:Int} {bN cv bm:List V} {r:Option (List V)} (h:Xi CC bC bt cD cB cl cw bN cv bm=r):CC Bs [.int .i64 bC,.list aa bt,.list ba cD,.int .i64 cB,.int .i64 cl,.int .i64 cw,.list aa bN,.list ba cv,.list cI bm]=r:=
 aY (key:=46) (L:=cd) (bs:=[]) (by kernel_rfl) av (aW (by kernel_rfl) h)
noncomputable def Xj (C:ae) (eT eJ:Int) (eU:List V) (eV eW:Int) (fb:List V):Option (List V):=
 (C bp [.int .i64 eT,.int .i64 eJ,.list aa eU,.int .i64 eV,.int .i64 eW,.list aa fb]).bind fun r1=>
 some [.bool ((((V.nth r1 0).toInt):Int)==0)]
theorem ajs {eT eJ:Int} {eU:List V} {eV eW:Int} {fb:List V} {r:Option (List V)} (h:Xj CC eT eJ eU eV eW fb=r):CC ve [.int .i64 eT,.int .i64 eJ,.list aa eU,.int .i64 eV,.int .i64 eW,.list aa fb]=r:=
 aY (key:=55) (L:=cd) (bs:=[]) (by kernel_rfl) av (aW (by kernel_rfl) h)
noncomputable abbrev Xk:Code:=cE Tryz.prog (ax.aV 27)
noncomputable def tI (C:ae) (mo:Int) (mq Xl:List V) (H7 cl cw:Int) (cv bm dm:List V) {β:Type} (kn:(Int × Int × (List V) × (List V) × (List V))→Option β) (kr:((Unit) ⊕ (Bool × Int × Int × (List V) × (List V) × (List V)))→Option β):Option β:=
 bif decide ((cw:Int)<H7) then
  (C vb [.int .i64 cl,.int .i64 cw,.list aa cv,.list ba bm,.list cI dm]).bind fun r8=>
  bif (V.nth r8 0).toBool then
  kr (.inl ())
  else
  (C s5 [.int .i64 ((V.nth (r8.drop 1) 0).toInt),.int .i64 ((V.nth ((r8.drop 1).drop 1) 0).toInt),.list aa ((V.nth (((r8.drop 1).drop 2).drop 1) 0).toList),.list ba ((V.nth ((((r8.drop 1).drop 2).drop 1).drop 1) 0).toList),.list cI ((V.nth ((r8.drop 1).drop 2) 0).toList)]).bind fun r9=>
  bif (((V.nth r9 0).toInt):Int) != 0 then
   kr (.inl ())
  else
   kn ((V.nth (r9.drop 1) 0).toInt,(V.nth ((r9.drop 1).drop 1) 0).toInt,(V.nth (((r9.drop 1).drop 2).drop 1) 0).toList,(V.nth ((((r9.drop 1).drop 2).drop 1).drop 1) 0).toList,(V.nth ((r9.drop 1).drop 2) 0).toList)
 else
  kr (.inr (decide ((cw:Int)<H7),cl,cw,cv,bm,dm))
noncomputable def pt (C:ae) (mo:Int) (mq Xl:List V) (H7:Int):(Int × Int × (List V) × (List V) × (List V))→Option ((Int × Int × (List V) × (List V) × (List V)) ⊕ ((Unit) ⊕ (Bool × Int × Int × (List V) × (List V) × (List V)))):=un fun cl=>un fun cw=>un fun cv=>un fun bm dm=>tI C mo mq Xl H7 cl cw cv bm dm (fun y=>some (.inl y)) (fun r=>some (.inr r))
noncomputable def Xm (C:ae):ct:=fun β n ds k=>
 bif Nat.beq n 113 then bY Lq [false,false,false,false,true,true,true,true,true] [[],[0,1,2,3,4,0,0,0,0,0]] (@tI C) ds k else
 none
abbrev ajt (C:ae) (b:cq):Prop:=cr Tryz.prog ax C (Xm C) 27 (cH Tryz.prog (ax.aV 27)) (ax.sin 27).bj.length b
theorem aju (C:ae):ajt C (.loop (aw [1,1,1,1,1,0,0,0] Xk)):=
 b7 Lq [false,false,false,false,true,true,true,true,true] [[],[0,1,2,3,4,0,0,0,0,0]] (@tI C) (by kernel_rfl) (bf (bs:=[]) (by kernel_rfl) av) (fun ds=>by kernel_rfl) (fun i x=>by kernel_rfl) (fun i x β k=>by kernel_rfl) (fun β ds k=>by kernel_rfl)
noncomputable def tJ (C:ae) (bC:Int) (bt cD:List V) (cB:Int):Option (List V):=
 bif ((bt.length:Int):Int)==0 then
  some [V.bool true]
 else
  bif decide (((bt.length:Int):Int)>512) then
  some [V.bool true]
  else
  (bt[0]?).bind fun x1=>
  (C s4 [.int .i64 ((x1.cell 0).toInt),.int .i64 ((x1.cell 1).toInt),.list aa ((x1.cell 2).toList),.int .i64 bC]).bind fun r2=>
  bif (((V.nth r2 0).toInt):Int) != 0 then
   some [V.bool true]
  else
   (bt[0]?).bind fun x3=>
   (C xP [.int .i64 ((x3.cell 0).toInt),.int .i64 ((x3.cell 1).toInt),.list aa ((x3.cell 2).toList)]).bind fun r4=>
   (bt[0]?).bind fun x5=>
   (C bp [.int .i64 ((V.nth r4 0).toInt),.int .i64 ((V.nth (r4.drop 1) 0).toInt),.list aa ((V.nth ((r4.drop 1).drop 1) 0).toList),.int .i64 ((x5.cell 0).toInt),.int .i64 ((x5.cell 1).toInt),.list aa ((x5.cell 2).toList)]).bind fun r6=>
   bif (((V.nth r6 0).toInt):Int) != 0 then
   some [V.bool true]
   else
   (C xO [.int .i64 ((V.nth r4 0).toInt),.int .i64 ((V.nth (r4.drop 1) 0).toInt),.list aa ((V.nth ((r4.drop 1).drop 1) 0).toList),.int .i64 bC]).bind fun r7=>
   (Loop (pt C bC bt cD cB) ((V.nth r7 0).toInt,(V.nth (r7.drop 1) 0).toInt,(V.nth (r7.drop 2) 0).toList,(V.nth ((r7.drop 2).drop 1) 0).toList,(V.nth (((r7.drop 2).drop 1).drop 1) 0).toList)).bind (bV (fun _=>
    some [V.bool true]) (un fun (yp:Bool)=>un fun (Dn:Int)=>un fun (wh:Int)=>un fun (wc:List V)=>un fun (pq:List V) (nh:List V)=>
    (C Bs [.int .i64 bC,.list aa bt,.list ba cD,.int .i64 cB,.int .i64 Dn,.int .i64 wh,.list aa wc,.list ba pq,.list cI nh]).bind fun gk=>
    some [V.bool false,.bool ((V.nth gk 0).toBool),.int .i64 ((V.nth (gk.drop 1) 0).toInt),.int .i64 ((V.nth ((gk.drop 1).drop 1) 0).toInt),.list aa ((V.nth (((gk.drop 1).drop 2).drop 1) 0).toList),.list ba ((V.nth ((((gk.drop 1).drop 2).drop 1).drop 1) 0).toList),.list cI ((V.nth ((gk.drop 1).drop 2) 0).toList)]))
theorem ajv {bC:Int} {bt cD:List V} {cB:Int} {r:Option (List V)} (h:tJ CC bC bt cD cB=r):CC qa [.int .i64 bC,.list aa bt,.list ba cD,.int .i64 cB]=r:=
 aY (key:=27) (L:=Xm CC) (bs:=[.loop (aw [1,1,1,1,1,0,0,0] Xk)]) (by kernel_rfl) (bx (aju CC) av) (aW (by kernel_rfl) h)
noncomputable def Xn (C:ae) (bC:Int) (bt cD:List V) (cB:Int):Option (List V):=
 (C qa [.int .i64 bC,.list aa bt,.list ba cD,.int .i64 cB]).bind fun r1=>
 bif (V.nth r1 0).toBool then
  some [.int .i64 8]
 else
  bif !((V.nth (r1.drop 1) 0).toBool) then
  some [.int .i64 8]
  else
  some [.int .i64 0]
theorem ajw {bC:Int} {bt cD:List V} {cB:Int} {r:Option (List V)} (h:Xn CC bC bt cD cB=r):CC FX [.int .i64 bC,.list aa bt,.list ba cD,.int .i64 cB]=r:=
 aY (key:=12) (L:=cd) (bs:=[]) (by kernel_rfl) av (aW (by kernel_rfl) h)
noncomputable abbrev Xo:Code:=cE Tryz.prog (ax.aV 56)
noncomputable def Dp (C:ae) (s2 t15:List V) (t16 t17:Int) {β:Type} (kn:Int→Option β) (kr:((Bool) ⊕ (Int × Bool))→Option β):Option β:=
 bif decide ((t17:Int)<t16) then
  (idx t15 t17).bind fun x1=>
  (idx s2 t17).bind fun x2=>
  (C ve [.int .i64 ((x1.cell 0).toInt),.int .i64 ((x1.cell 1).toInt),.list aa ((x1.cell 2).toList),.int .i64 ((x2.cell 0).toInt),.int .i64 ((x2.cell 1).toInt),.list aa ((x2.cell 2).toList)]).bind fun r3=>
  bif !((V.nth r3 0).toBool) then
  kr (.inl false)
  else
  kn (IntKind.wrap .i64 (t17+1))
 else
  kr (.inr (t17,decide ((t17:Int)<t16)))
noncomputable def H8 (C:ae) (s2 t15:List V) (t16:Int):(Int)→Option ((Int) ⊕ ((Bool) ⊕ (Int × Bool))):=fun t17=>Dp C s2 t15 t16 t17 (fun y=>some (.inl y)) (fun r=>some (.inr r))
noncomputable def Xp (C:ae):ct:=fun β n ds k=>
 bif Nat.beq n 65 then bY LJ [false,false,false,true] [[0],[1,2,3,0,0]] (@Dp C) ds k else
 none
abbrev ajx (C:ae) (b:cq):Prop:=cr Tryz.prog ax C (Xp C) 56 (cH Tryz.prog (ax.aV 56)) (ax.sin 56).bj.length b
theorem ajy (C:ae):ajx C (.loop (aw [1,1,0,1,0,0] Xo)):=
 b7 LJ [false,false,false,true] [[0],[1,2,3,0,0]] (@Dp C) (by kernel_rfl) (bf (bs:=[]) (by kernel_rfl) av) (fun ds=>by kernel_rfl) (fun i x=>by kernel_rfl) (fun i x β k=>by kernel_rfl) (fun β ds k=>by kernel_rfl)
noncomputable def Xq (C:ae) (s1 s2:List V):Option (List V):=
 bif ((s1.length:Int):Int) != (s2.length:Int) then
  some [.bool false]
 else
  (Loop (H8 C s2 s1 (s1.length:Int)) 0).bind (bV (fun (gS:Bool)=>
   some [.bool gS]) (un fun (mg:Int) (kS:Bool)=>
   some [.bool true]))
theorem ajz {s1 s2:List V} {r:Option (List V)} (h:Xq CC s1 s2=r):CC Ga [.list aa s1,.list aa s2]=r:=
 aY (key:=56) (L:=Xp CC) (bs:=[.loop (aw [1,1,0,1,0,0] Xo)]) (by kernel_rfl) (bx (ajy CC) av) (aW (by kernel_rfl) h)
noncomputable abbrev Xr:Code:=cE Tryz.prog (ax.aV 57)
noncomputable def Dq (C:ae) (s2 t15:List V) (t16 t17:Int) {β:Type} (kn:Int→Option β) (kr:((Bool) ⊕ (Int × Bool))→Option β):Option β:=
 bif decide ((t17:Int)<t16) then
  (idx t15 t17).bind fun x1=>
  (idx s2 t17).bind fun x2=>
  (C vf [.list gA x1.toList,.list gA x2.toList]).bind fun r3=>
  bif !((V.nth r3 0).toBool) then
  kr (.inl false)
  else
  kn (IntKind.wrap .i64 (t17+1))
 else
  kr (.inr (t17,decide ((t17:Int)<t16)))
noncomputable def H9 (C:ae) (s2 t15:List V) (t16:Int):(Int)→Option ((Int) ⊕ ((Bool) ⊕ (Int × Bool))):=fun t17=>Dq C s2 t15 t16 t17 (fun y=>some (.inl y)) (fun r=>some (.inr r))
noncomputable def Xs (C:ae):ct:=fun β n ds k=>
 bif Nat.beq n 65 then bY LL [false,false,false,true] [[0],[1,2,3,0,0]] (@Dq C) ds k else
 none
abbrev ajA (C:ae) (b:cq):Prop:=cr Tryz.prog ax C (Xs C) 57 (cH Tryz.prog (ax.aV 57)) (ax.sin 57).bj.length b
theorem ajB (C:ae):ajA C (.loop (aw [1,1,0,1,0,0] Xr)):=
 b7 LL [false,false,false,true] [[0],[1,2,3,0,0]] (@Dq C) (by kernel_rfl) (bf (bs:=[]) (by kernel_rfl) av) (fun ds=>by kernel_rfl) (fun i x=>by kernel_rfl) (fun i x β k=>by kernel_rfl) (fun β ds k=>by kernel_rfl)
noncomputable def Xt (C:ae) (s1 s2:List V):Option (List V):=
 bif ((s1.length:Int):Int) != (s2.length:Int) then
  some [.bool false]
 else
  (Loop (H9 C s2 s1 (s1.length:Int)) 0).bind (bV (fun (gS:Bool)=>
   some [.bool gS]) (un fun (mg:Int) (kS:Bool)=>
   some [.bool true]))
theorem ajC {s1 s2:List V} {r:Option (List V)} (h:Xt CC s1 s2=r):CC Gb [.list ba s1,.list ba s2]=r:=
 aY (key:=57) (L:=Xs CC) (bs:=[.loop (aw [1,1,0,1,0,0] Xr)]) (by kernel_rfl) (bx (ajB CC) av) (aW (by kernel_rfl) h)
noncomputable abbrev Xu:Code:=cE Tryz.prog (ax.aV 58)
noncomputable def Dr (C:ae) (s1 s2:List V) (t12 t13:Int) {β:Type} (kn:Int→Option β) (kr:((Bool) ⊕ (Int × Bool))→Option β):Option β:=
 bif decide ((t13:Int)<t12) then
  (idx s1 t13).bind fun x1=>
  (idx s2 t13).bind fun x2=>
  bif (x1.toInt:Int) != x2.toInt then
  kr (.inl false)
  else
  kn (IntKind.wrap .i64 (t13+1))
 else
  kr (.inr (t13,decide ((t13:Int)<t12)))
noncomputable def Ia (C:ae) (s1 s2:List V) (t12:Int):(Int)→Option ((Int) ⊕ ((Bool) ⊕ (Int × Bool))):=fun t13=>Dr C s1 s2 t12 t13 (fun y=>some (.inl y)) (fun r=>some (.inr r))
noncomputable def Xv (C:ae):ct:=fun β n ds k=>
 bif Nat.beq n 65 then bY LM [false,false,false,true] [[0],[1,2,3,0,0]] (@Dr C) ds k else
 none
abbrev ajD (C:ae) (b:cq):Prop:=cr Tryz.prog ax C (Xv C) 58 (cH Tryz.prog (ax.aV 58)) (ax.sin 58).bj.length b
theorem ajE (C:ae):ajD C (.loop (aw [1,1,0,1,0,0] Xu)):=
 b7 LM [false,false,false,true] [[0],[1,2,3,0,0]] (@Dr C) (by kernel_rfl) (bf (bs:=[]) (by kernel_rfl) av) (fun ds=>by kernel_rfl) (fun i x=>by kernel_rfl) (fun i x β k=>by kernel_rfl) (fun β ds k=>by kernel_rfl)
noncomputable def Xw (C:ae) (s1 s2:List V):Option (List V):=
 bif ((s1.length:Int):Int) != (s2.length:Int) then
  some [.bool false]
 else
  (Loop (Ia C s1 s2 (s1.length:Int)) 0).bind (bV (fun (jm:Bool)=>
   some [.bool jm]) (un fun (gS:Int) (mg:Bool)=>
   some [.bool true]))
theorem ajF {s1 s2:List V} {r:Option (List V)} (h:Xw CC s1 s2=r):CC vf [.list gA s1,.list gA s2]=r:=
 aY (key:=58) (L:=Xv CC) (bs:=[.loop (aw [1,1,0,1,0,0] Xu)]) (by kernel_rfl) (bx (ajE CC) av) (aW (by kernel_rfl) h)
end Go.AM
set_option maxRecDepth 100000
namespace Go.AM
open Go.Proofs Ex
theorem ajG (a:Ex) (ha:a.Ok) (b:Ex) (hb:b.Ok):CC ve (bQ a (bQ b []))=some [.bool (decide (a=b))]:=by
 refine ajs ?_
 unfold Xj
 refine bs (GZ a ha b hb) ?_
 rw[V.aM,V.toInt_int,show (cmp a b==0)=decide (a=b) from oD.2 (by rw[sn,eg];exact tk)]
theorem ajH {a b:List Ex} (ha: ∀e∈a,e.Ok) (hb: ∀e∈b,e.Ok) (hl:a.length≤maxLen):CC Ga [.list aa (a.map enc),.list aa (b.map enc)]=some [.bool (decide (a=b))]:=by
 have hm:=kR
 refine ajz ?_
 unfold Xq
 by_cases he:a.length=b.length
 ·refine bF (by simp[he]) ?_
  have loop:Loop (H8 CC (b.map enc) (a.map enc) ((a.map enc).length:Int)) 0=some (if∀i,i<a.length→a.getD i aG=b.getD i aG then .inr ((a.length:Int),false) else .inl false):=by
   refine ym (good:=fun i=>a.getD i aG=b.getD i aG) a.length (fun i=>(i:Int)) (Sum.inl false:Bool ⊕ (Int × Bool)) (Sum.inr ((a.length:Int),false)) (fun i hi=> ?_) ?_
   ·simp only[H8,Dp,aJ]
    refine bT (kf hi) (bs (lI (z:=aG) hi) (bs (lI (z:=aG) (by omega)) ?_))
    rw[aU,aZ,aX,aU,aZ,aX]
    refine bs (ajG _ (ha _ (po hi)) _ (hb _ (po (by omega)))) ?_
    by_cases h:a.getD i aG=b.getD i aG
    ·rw[aj h]
     refine bF (by rw[V.aM,V.dj,cx h];rfl) ?_
     rw[wrap64 (by omega) (by omega)]
     rfl
    ·rw[ai h]
     exact bT (by rw[V.aM,V.dj,bz h];rfl) rfl
   ·simp only[H8,Dp,aJ]
    rw[az,ai (by omega),bz (by omega)]
  refine bs loop ?_
  by_cases h:a=b
  ·rw[aj ((ow he).2 h),cx h];rfl
  ·rw[ai fun hx=>h ((ow he).1 hx),bz h];rfl
 ·rw[bz fun h=>he (by rw[h])]
  exact bT (by simp;omega) rfl
theorem ajI {a b:List Int} (hl:a.length≤maxLen):CC vf [cQ a,cQ b]=some [.bool (decide (a=b))]:=by
 have hm:=kR
 refine ajF ?_
 unfold Xw
 by_cases he:a.length=b.length
 ·refine bF (by simp[he]) ?_
  have loop:Loop (Ia CC (a.map fun n=>V.int .i64 n) (b.map fun n=>V.int .i64 n) ((a.map fun n=>V.int .i64 n).length:Int)) 0=some (if∀i,i<a.length→a.getD i 0=b.getD i 0 then .inr ((a.length:Int),false) else .inl false):=by
   refine ym (good:=fun i=>a.getD i 0=b.getD i 0) a.length (fun i=>(i:Int)) (Sum.inl false:Bool ⊕ (Int × Bool)) (Sum.inr ((a.length:Int),false)) (fun i hi=> ?_) ?_
   ·simp only[Ia,Dr,aJ]
    refine bT (kf hi) (bs (lI (z:=0) hi) (bs (lI (z:=0) (by omega)) ?_))
    rw[V.toInt_int,V.toInt_int]
    by_cases h:a.getD i 0=b.getD i 0
    ·rw[aj h]
     refine bF (by rw[pG];exact h) ?_
     rw[wrap64 (by omega) (by omega)]
     rfl
    ·rw[ai h]
     exact bT (by rw[kq];exact h) rfl
   ·simp only[Ia,Dr,aJ]
    rw[az,ai (by omega),bz (by omega)]
  refine bs loop ?_
  by_cases h:a=b
  ·rw[aj ((ow he).2 h),cx h];rfl
  ·rw[ai fun hx=>h ((ow he).1 hx),bz h];rfl
 ·rw[bz fun h=>he (by rw[h])]
  exact bT (by simp;omega) rfl
theorem Xx (r:List Int):V.list gA (cQ r).toList=cQ r:=rfl
theorem ajJ {a b:List (List Int)} (hr: ∀r∈a,r.length≤maxLen) (hl:a.length≤maxLen):CC Gb [.list ba (a.map cQ),.list ba (b.map cQ)]=some [.bool (decide (a=b))]:=by
 have hm:=kR
 refine ajC ?_
 unfold Xt
 by_cases he:a.length=b.length
 ·refine bF (by simp[he]) ?_
  have loop:Loop (H9 CC (b.map cQ) (a.map cQ) ((a.map cQ).length:Int)) 0=some (if∀i,i<a.length→a.getD i []=b.getD i [] then .inr ((a.length:Int),false) else .inl false):=by
   refine ym (good:=fun i=>a.getD i []=b.getD i []) a.length (fun i=>(i:Int)) (Sum.inl false:Bool ⊕ (Int × Bool)) (Sum.inr ((a.length:Int),false)) (fun i hi=> ?_) ?_
   ·simp only[H9,Dq,aJ]
    refine bT (kf hi) (bs (lI (z:=[]) hi) (bs (lI (z:=[]) (by omega)) ?_))
    rw[Xx,Xx]
    refine bs (ajI (hr _ (po hi))) ?_
    by_cases h:a.getD i []=b.getD i []
    ·rw[aj h]
     refine bF (by rw[V.aM,V.dj,cx h];rfl) ?_
     rw[wrap64 (by omega) (by omega)]
     rfl
    ·rw[ai h]
     exact bT (by rw[V.aM,V.dj,bz h];rfl) rfl
   ·simp only[H9,Dq,aJ]
    rw[az,ai (by omega),bz (by omega)]
  refine bs loop ?_
  by_cases h:a=b
  ·rw[aj ((ow he).2 h),cx h];rfl
  ·rw[ai fun hx=>h ((ow he).1 hx),bz h];rfl
 ·rw[bz fun h=>he (by rw[h])]
  exact bT (by simp;omega) rfl
theorem ajK {d s:Dv} (hd:d.Ok) (hs:Gs s):CC Bs (lH d (qq s))=some (.bool (decide (s=d))::H2 s):=by
 have ho:=H6 hs
 refine ajr ?_
 unfold Xi
 obtain ⟨L,es,nx,dn⟩:=s
 obtain ⟨L',aL,Ds,Ib⟩:=d
 rw[dq]
 by_cases hL:L=L'
 ·rw[aj hL,dq]
  by_cases hn:dn=Ib
  ·rw[aj hn]
   refine bs (ajH ho.es hd.es ho.el) ?_
   by_cases he:es=aL
   ·refine bT (by rw[V.aM,V.dj];exact cx he) ?_
    refine bs (ajJ ho.rl ho.nl) ?_
    have:decide (nx=Ds)=decide (Dv.mk L es nx dn=Dv.mk L' aL Ds Ib):=by
     rw[zT,Dv.mk.injEq]
     exact ⟨fun h=>⟨hL,he,h,hn⟩,fun h=>h.2.2.1⟩
    rw[←this]
    rfl
   ·refine bF (by rw[V.aM,V.dj];exact bz he) ?_
    rw[bz fun h=>he (Dv.mk.inj h).2.1]
    rfl
  ·rw[ai hn,bz fun h=>hn (Dv.mk.inj h).2.2.2]
   rfl
 ·rw[ai hL,bz fun h=>hL (Dv.mk.inj h).1]
  rfl
theorem Xy {d:Dv} {a:Int} {l1 l2:List V}: ∀(n:Nat) (s:Dv),Gs s→s.dn+n=d.dn→
  (∀t,ov n s=some t→Loop (pt CC a l1 l2 d.dn) (ki s)=some (.inr (false,ki t)))∧(ov n s=none→Loop (pt CC a l1 l2 d.dn) (ki s)=some (.inl ()))
 | 0,s,hs,hn=>by
  refine ⟨fun t ht=> ?_,fun h=>by simp[ov] at h⟩
  cases ht
  refine aS ?_
  simp only[pt,tI,un]
  rw[az,ai (by omega),bz (by omega)]
 | n+1,s,hs,hn=>by
  rw[ov]
  have aO:decide (s.dn<d.dn)=true:=cx (by omega)
  by_cases hd:s.dn<s.es.length
  ·rw[aj hd]
   obtain ⟨p1,p2⟩:=Oo hs hd
   have hf:(s.dn==(s.es.length:Int))=false:=by rw[pC];omega
   cases hp:proc s with
   | none=>
    obtain ⟨l,hl⟩:=p2 hp
    refine ⟨fun t ht=>(by cases ht),fun _=>aS ?_⟩
    simp only[pt,tI,un]
    refine bT aO (bs (qs s) (bF hf ?_))
    refine bs hl ?_
    rfl
   | some u=>
    obtain ⟨g,_,g2,_⟩:=zi hs hd hp
    obtain ⟨i1,i2⟩:=Xy (d:=d) (a:=a) (l1:=l1) (l2:=l2) n u g (by omega)
    have cT:pt CC a l1 l2 d.dn (ki s)=some (.inl (ki u)):=by
     simp only[pt,tI,un]
     refine bT aO (bs (qs s) (bF hf ?_))
     refine bs (p1 u hp) ?_
     rfl
    exact ⟨fun t ht=>(bJ cT).trans (i1 t ht),fun ht=>(bJ cT).trans (i2 ht)⟩
  ·rw[ai hd]
   refine ⟨fun t ht=>(by cases ht),fun _=>aS ?_⟩
   have CV:=hs.dn
   simp only[pt,tI,un]
   refine bT aO (bs (qs s) (bT ?_ rfl))
   show (s.dn==(s.es.length:Int))=true
   rw[sn];omega
theorem Xz {n:Nat} {s t:Dv} (hs:Gs s) (h:ov n s=some t):Gs t∧∃r,t.es=s.es++r:=by
 obtain ⟨a,_,b,_⟩:=tG n s t hs (CW n s t h)
 exact ⟨a,b⟩
theorem Ot {d:Dv} (hd:d.Ok):(iq d=true→CC qa (lH d [])=some (.bool false:: .bool true::qq d))∧
  (iq d=false→CC qa (lH d [])=some [.bool true]∨∃s,CC qa (lH d [])=some (.bool false:: .bool false::qq s)):=by
 have hf: ∀{r:Option (List V)},tJ CC d.L (d.es.map enc) (d.nx.map cQ) d.dn=r→CC qa (lH d [])=r:=fun h=>ajv h
 by_cases h0:d.es=[]
 ·refine ⟨fun h=>absurd h0 (gm h).1,fun _=> .inl (hf ?_)⟩
  unfold tJ
  exact bT (by rw[h0];rfl) rfl
 have hp:0<d.es.length:=List.length_pos_iff.2 h0
 by_cases h5:d.es.length≤512
 case neg=>
  refine ⟨fun h=>absurd (gm h).2.1 h5,fun _=> .inl (hf ?_)⟩
  unfold tJ
  refine bF (by rw[aJ,pC];omega) ?_
  exact bT (cx (by rw[aJ];omega)) rfl
 have hx:(d.es.map enc)[0]? =some (d.es.getD 0 aG).enc:=by
  rw[fI,bG hp,fU,bG hp];rfl
 have ho:=hd.es _ (po (z:=aG) hp)
 have b1:(((d.es.map enc).length:Int)==0)=false:=by rw[aJ,pC];omega
 have b2:decide ((((d.es.map enc).length:Int))>512)=false:=bz (by rw[aJ];omega)
 by_cases hv:(d.es.getD 0 aG).val d.L=0
 case neg=>
  refine ⟨fun h=>absurd (gm h).2.2.1 hv,fun _=> .inl (hf ?_)⟩
  unfold tJ
  refine bF b1 (bF b2 (bs hx ?_))
  rw[aU,aZ,aX]
  refine bs (vy _ ho d.L) (bT ?_ rfl)
  rw[V.aM,V.toInt_int,kq];exact hv
 have hg:=v9 hv
 have hN:=NM _ ho
 rw[aj (tF hv)] at hN
 have Ou:Nv (aI (d.es.getD 0 aG)):=ajL (tF hv)
 have mQ:(aI (d.es.getD 0 aG)).Ok:=mZ (by omega) _ Ou.1.2 (by have:=jX Ou.2;omega)
 have hC:=GZ _ mQ _ ho
 by_cases hn:aI (d.es.getD 0 aG)=d.es.getD 0 aG
 case neg=>
  refine ⟨fun h=> ?_,fun _=> .inl (hf ?_)⟩
  ·obtain ⟨_,_,_,_,h⟩:=gm h
   obtain ⟨_,r,hr⟩:=Xz hg h
   refine absurd ?_ hn
   have e:=congrArg (fun l=>List.getD l 0 aG) hr
   exact e.symm
  ·unfold tJ
   refine bF b1 (bF b2 (bs hx ?_))
   rw[aU,aZ,aX]
   refine bs (vy _ ho d.L) (bF (by rw[V.aM,V.toInt_int,hv];rfl) (bs hx ?_))
   rw[aU,aZ,aX]
   refine bs hN (bs hx ?_)
   rw[aU,aZ,aX]
   refine bs hC (bT ?_ rfl)
   rw[V.aM,V.toInt_int,kq]
   exact fun h=>hn (tk.1 h)
 have pre: ∀{r:Option (List V)},((Loop (pt CC d.L (d.es.map enc) (d.nx.map cQ) d.dn) (ki (fD (d.es.getD 0 aG) d.L))).bind (bV (fun _=>some [V.bool true]) (un fun (yp:Bool)=>un fun (Dn:Int)=>un fun (wh:Int)=>un fun (wc:List V)=>un fun (pq:List V) (nh:List V)=>
    (CC Bs [.int .i64 d.L,.list aa (d.es.map enc),.list ba (d.nx.map cQ),.int .i64 d.dn,.int .i64 Dn,.int .i64 wh,.list aa wc,.list ba pq,.list cI nh]).bind fun gk=>
    some [V.bool false,.bool ((V.nth gk 0).toBool),.int .i64 ((V.nth (gk.drop 1) 0).toInt),.int .i64 ((V.nth ((gk.drop 1).drop 1) 0).toInt),.list aa ((V.nth (((gk.drop 1).drop 2).drop 1) 0).toList),.list ba ((V.nth ((((gk.drop 1).drop 2).drop 1).drop 1) 0).toList),.list cI ((V.nth ((gk.drop 1).drop 2) 0).toList)])))=r→tJ CC d.L (d.es.map enc) (d.nx.map cQ) d.dn=r:=fun h=>by
  unfold tJ
  refine bF b1 (bF b2 (bs hx ?_))
  rw[aU,aZ,aX]
  refine bs (vy _ ho d.L) (bF (by rw[V.aM,V.toInt_int,hv];rfl) (bs hx ?_))
  rw[aU,aZ,aX]
  refine bs hN (bs hx ?_)
  rw[aU,aZ,aX]
  refine bs hC (bF ?_ ?_)
  ·rw[V.aM,V.toInt_int,tk.2 hn];rfl
  ·refine bs (Oj (L:=d.L) Ou) ?_
   exact h
 have fin: ∀(s:Dv),Gs s→Loop (pt CC d.L (d.es.map enc) (d.nx.map cQ) d.dn) (ki (fD (d.es.getD 0 aG) d.L))=some (.inr (false,ki s))→CC qa (lH d [])=some (.bool false:: .bool (decide (s=d))::qq s):=fun s hs hl=>by
  refine hf (pre ?_)
  refine bs hl ?_
  refine bs (ajK hd hs) ?_
  rfl
 by_cases Ic:0≤d.dn
 case neg=>
  have bH:fD (d.es.getD 0 aG) d.L≠d:=fun h=>Ic (by rw[←h];exact Int.le_refl 0)
  refine ⟨fun h=>absurd (gm h).2.2.2.1 Ic,fun _=> .inr ⟨fD (d.es.getD 0 aG) d.L,?_⟩⟩
  have:=fin (fD (d.es.getD 0 aG) d.L) hg (by
   refine aS ?_
   have h0: ¬(fD (d.es.getD 0 aG) d.L).dn<d.dn:=by show¬(0:Int)<d.dn;omega
   simp only[pt,tI,un]
   rw[az,ai h0,bz h0])
  rw[bz bH] at this
  exact this
 obtain ⟨l1,l2⟩:=Xy (d:=d) (a:=d.L) (l1:=d.es.map enc) (l2:=d.nx.map cQ) d.dn.toNat (fD (d.es.getD 0 aG) d.L) hg (by show (0:Int)+_=_;omega)
 cases hs:ov d.dn.toNat (fD (d.es.getD 0 aG) d.L) with
 | none=>
  refine ⟨fun h=> ?_,fun _=> .inl (hf (pre ?_))⟩
  ·have:=(gm h).2.2.2.2
   rw[hs] at this
   cases this
  ·exact bs (l2 hs) rfl
 | some s=>
  have KP:=(Xz hg hs).1
  have qm:=fin s KP (l1 s hs)
  by_cases he:s=d
  ·rw[cx he] at qm
   refine ⟨fun _=>by rw[qm,he],fun h=> ?_⟩
   have:iq d=true:=cx ⟨h0,h5,hv,Ic,by rw[hs,he]⟩
   rw[this] at h;cases h
  ·rw[bz he] at qm
   refine ⟨fun h=> ?_,fun _=> .inr ⟨_,qm⟩⟩
   have:=(gm h).2.2.2.2
   rw[hs] at this
   exact absurd (dv this) he
where ajL {e:Ex} (h:e.val 6=0):Nv (aI e):=⟨lE e (jX h).2.2,HP h⟩
theorem ajM {d:Dv} (hd:d.Ok):CC FX (lH d [])=some [.int .i64 (if iq d=true then 0 else 8)]:=by
 obtain ⟨h1,U⟩:=Ot hd
 refine ajw ?_
 unfold Xn
 cases hs:iq d with
 | true=>exact bs (h1 hs) rfl
 | false=>
  rcases U hs with h|⟨s,h⟩
  ·exact bs h rfl
  ·exact bs h rfl
end Go.AM
set_option maxRecDepth 100000
namespace Go.AM
open Go.Proofs
noncomputable abbrev XA:Code:=cE Tryz.prog (ax.aV 10)
noncomputable def wj (C:ae) (ee ef:Int) (cv bm:List V) (dA cl cw:Int) (dm b8 cP:List V) {β:Type} (kn:(Int × Int × Int × (List V) × (List V) × (List V))→Option β) (kr:((Int × Int × Int × (List V) × (List V)) ⊕ (Int × Bool × Int × Int × (List V) × (List V) × (List V)))→Option β):Option β:=
 bif decide ((dA:Int)>0) then
  (C vb [.int .i64 cl,.int .i64 cw,.list aa dm,.list ba b8,.list cI cP]).bind fun r2=>
  bif !((V.nth r2 0).toBool) then
  (C s5 [.int .i64 ((V.nth (r2.drop 1) 0).toInt),.int .i64 ((V.nth ((r2.drop 1).drop 1) 0).toInt),.list aa ((V.nth (((r2.drop 1).drop 2).drop 1) 0).toList),.list ba ((V.nth ((((r2.drop 1).drop 2).drop 1).drop 1) 0).toList),.list cI ((V.nth ((r2.drop 1).drop 2) 0).toList)]).bind fun r3=>
  bif (((V.nth r3 0).toInt):Int) != 0 then
   kr (.inl ((V.nth r3 0).toInt,0,0,([]:List V),([]:List V)))
  else
   kn (IntKind.wrap .i64 (dA-1),(V.nth (r3.drop 1) 0).toInt,(V.nth ((r3.drop 1).drop 1) 0).toInt,(V.nth (((r3.drop 1).drop 2).drop 1) 0).toList,(V.nth ((((r3.drop 1).drop 2).drop 1).drop 1) 0).toList,(V.nth ((r3.drop 1).drop 2) 0).toList)
  else
  kr (.inr (dA,!((V.nth r2 0).toBool),(V.nth (r2.drop 1) 0).toInt,(V.nth ((r2.drop 1).drop 1) 0).toInt,(V.nth (((r2.drop 1).drop 2).drop 1) 0).toList,(V.nth ((((r2.drop 1).drop 2).drop 1).drop 1) 0).toList,(V.nth ((r2.drop 1).drop 2) 0).toList))
 else
  kr (.inr (dA,false,cl,cw,dm,b8,cP))
noncomputable def tK (C:ae) (ee ef:Int) (cv bm:List V):(Int × Int × Int × (List V) × (List V) × (List V))→Option ((Int × Int × Int × (List V) × (List V) × (List V)) ⊕ ((Int × Int × Int × (List V) × (List V)) ⊕ (Int × Bool × Int × Int × (List V) × (List V) × (List V)))):=un fun dA=>un fun cl=>un fun cw=>un fun dm=>un fun b8 cP=>wj C ee ef cv bm dA cl cw dm b8 cP (fun y=>some (.inl y)) (fun r=>some (.inr r))
noncomputable def XB (C:ae):ct:=fun β n ds k=>
 bif Nat.beq n 97 then bY Lj [true,false,false,true,true,false,false,true,true,true] [[0,0,0,0,0],[0,0,2,3,0,0,6,7,0,0,0]] (@wj C) ds k else
 none
abbrev ajN (C:ae) (b:cq):Prop:=cr Tryz.prog ax C (XB C) 10 (cH Tryz.prog (ax.aV 10)) (ax.sin 10).bj.length b
theorem ajO (C:ae):ajN C (.loop (aw [1,1,1,1,0,0,0] XA)):=
 b7 Lj [true,false,false,true,true,false,false,true,true,true] [[0,0,0,0,0],[0,0,2,3,0,0,6,7,0,0,0]] (@wj C) (by kernel_rfl) (bf (bs:=[]) (by kernel_rfl) av) (fun ds=>by kernel_rfl) (fun i x=>by kernel_rfl) (fun i x β k=>by kernel_rfl) (fun β ds k=>by kernel_rfl)
noncomputable def XC (C:ae) (bC:Int) (bt cD:List V) (cB dA:Int):Option (List V):=
 (C qa [.int .i64 bC,.list aa bt,.list ba cD,.int .i64 cB]).bind fun r1=>
 bif (V.nth r1 0).toBool then
  some [.int .i64 0,.int .i64 0,.int .i64 8,.list aa ([]:List V),.list ba ([]:List V)]
 else
  bif !((V.nth (r1.drop 1) 0).toBool) then
  some [.int .i64 0,.int .i64 0,.int .i64 8,.list aa ([]:List V),.list ba ([]:List V)]
  else
  bif decide ((dA:Int)<0) then
   some [.int .i64 0,.int .i64 0,.int .i64 1,.list aa ([]:List V),.list ba ([]:List V)]
  else
   (Loop (tK C 0 0 ([]:List V) ([]:List V)) (dA,(V.nth ((r1.drop 1).drop 1) 0).toInt,(V.nth (((r1.drop 1).drop 1).drop 1) 0).toInt,(V.nth (((r1.drop 1).drop 1).drop 2) 0).toList,(V.nth ((((r1.drop 1).drop 1).drop 2).drop 1) 0).toList,(V.nth (((((r1.drop 1).drop 1).drop 2).drop 1).drop 1) 0).toList)).bind (bV (un fun (gS:Int)=>un fun (ajP:Int)=>un fun (ajQ:Int)=>un fun (b_7:List V) (Dd:List V)=>
    some [.int .i64 ajP,.int .i64 ajQ,.int .i64 gS,.list aa b_7,.list ba Dd]) (un fun (amV:Int)=>un fun (yp:Bool)=>un fun (Dn:Int)=>un fun (wh:Int)=>un fun (wc:List V)=>un fun (pq:List V) (nh:List V)=>
    some [.int .i64 Dn,.int .i64 wh,.int .i64 0,.list aa wc,.list ba pq]))
theorem ajR {bC:Int} {bt cD:List V} {cB dA:Int} {r:Option (List V)} (h:XC CC bC bt cD cB dA=r):CC FV [.int .i64 bC,.list aa bt,.list ba cD,.int .i64 cB,.int .i64 dA]=r:=
 aY (key:=10) (L:=XB CC) (bs:=[.loop (aw [1,1,1,1,0,0,0] XA)]) (by kernel_rfl) (bx (ajO CC) av) (aW (by kernel_rfl) h)
noncomputable def XD (C:ae) (bC:Int) (bt cD:List V) (cB:Int):Option (List V):=
 (C qa [.int .i64 bC,.list aa bt,.list ba cD,.int .i64 cB]).bind fun r1=>
 bif (V.nth r1 0).toBool then
  some [.bool false]
 else
  bif (V.nth (r1.drop 1) 0).toBool then
  (C vb [.int .i64 ((V.nth ((r1.drop 1).drop 1) 0).toInt),.int .i64 ((V.nth (((r1.drop 1).drop 1).drop 1) 0).toInt),.list aa ((V.nth (((r1.drop 1).drop 1).drop 2) 0).toList),.list ba ((V.nth ((((r1.drop 1).drop 1).drop 2).drop 1) 0).toList),.list cI ((V.nth (((((r1.drop 1).drop 1).drop 2).drop 1).drop 1) 0).toList)]).bind fun r2=>
  some [.bool ((V.nth r2 0).toBool)]
  else
  some [.bool false]
theorem ajS {bC:Int} {bt cD:List V} {cB:Int} {r:Option (List V)} (h:XD CC bC bt cD cB=r):CC FY [.int .i64 bC,.list aa bt,.list ba cD,.int .i64 cB]=r:=
 aY (key:=14) (L:=cd) (bs:=[]) (by kernel_rfl) av (aW (by kernel_rfl) h)
end Go.AM
set_option maxRecDepth 100000
namespace Go.AM
open Go.Proofs Ex
theorem step_loop {a b:Int} {l1 l2:List V}: ∀(n:Nat) (s:Dv),Gs s→n≤1000000→
  (∀t,eL n s=some t→∃x y,Loop (tK CC a b l1 l2) ((n:Int),ki s)=some (.inr (x,y,ki t)))∧(eL n s=none→Loop (tK CC a b l1 l2) ((n:Int),ki s)=some (.inl (3,0,0,[],[])))
 | 0,s,hs,_=>by
  refine ⟨fun t ht=>⟨0,false,?_⟩,fun h=>by simp[eL] at h⟩
  cases ht
  refine aS ?_
  simp only[tK,wj,un]
  rfl
 | n+1,s,hs,hn=>by
  rw[eL]
  have gI:decide (((n+1:Nat):Int)>0)=true:=cx (by omega)
  have CV:=hs.dn
  by_cases hd:s.dn<s.es.length
  ·rw[aj hd]
   obtain ⟨p1,p2⟩:=Oo hs hd
   have hf:(!(s.dn==(s.es.length:Int)))=true:=by rw[mw,pC];omega
   cases hp:proc s with
   | none=>
    obtain ⟨l,hl⟩:=p2 hp
    refine ⟨fun t ht=>(by cases ht),fun _=>aS ?_⟩
    simp only[tK,wj,un]
    refine bT gI (bs (qs s) (bT hf ?_))
    refine bs hl ?_
    rfl
   | some u=>
    obtain ⟨g,_,g2,_⟩:=zi hs hd hp
    obtain ⟨i1,i2⟩:=step_loop (a:=a) (b:=b) (l1:=l1) (l2:=l2) n u g (by omega)
    have cT:tK CC a b l1 l2 (((n+1:Nat):Int),ki s)=some (.inl ((n:Int),ki u)):=by
     simp only[tK,wj,un]
     refine bT gI (bs (qs s) (bT hf ?_))
     refine bs (p1 u hp) ?_
     rw[wrap64 (by omega) (by omega),show ((n+1:Nat):Int)-1=(n:Int) by omega]
     rfl
    refine ⟨fun t ht=> ?_,fun ht=>(bJ cT).trans (i2 ht)⟩
    obtain ⟨x,y,h⟩:=i1 t ht
    exact ⟨x,y,(bJ cT).trans h⟩
  ·rw[ai hd]
   refine ⟨fun t ht=>⟨((n+1:Nat):Int),false,?_⟩,fun ht=>(by cases ht)⟩
   cases ht
   refine aS ?_
   have hf:(!(s.dn==(s.es.length:Int)))=false:=by rw[Bool.not_eq_false',sn];omega
   simp only[tK,wj,un]
   refine bT gI (bs (qs s) (bF hf ?_))
   exact congrArg (fun b=>some (Sum.inr (Sum.inr (((n+1:Nat):Int),b,s.L,s.dn,s.es.map enc,s.nx.map cQ,fp s.es)))) hf
theorem ajT {d:Dv} (hd:d.Ok) (b:Int) (hb:b≤1000000):CC FV (lH d [.int .i64 b])=some (wi (tE d b)):=by
 obtain ⟨h1,U⟩:=Ot hd
 refine ajR ?_
 unfold XC tE
 cases hs:iq d with
 | false=>
  rcases U hs with h|⟨s,h⟩
  ·exact bs h (bT rfl rfl)
  ·exact bs h (bF rfl (bT rfl rfl))
 | true=>
  refine bs (h1 hs) (bF rfl (bF rfl ?_))
  rw[aj rfl]
  by_cases h0:b<0
  ·rw[aj h0];exact bT (cx h0) rfl
  ·rw[ai h0]
   refine bF (bz h0) ?_
   have g:=(HQ hs).1
   obtain ⟨l1,l2⟩:=step_loop (a:=0) (b:=0) (l1:=[]) (l2:=[]) b.toNat d g (by omega)
   rw[show ((b.toNat:Nat):Int)=b by omega] at l1 l2
   cases hp:eL b.toNat d with
   | none=>exact bs (l2 hp) rfl
   | some t=>
    obtain ⟨x,y,h⟩:=l1 t hp
    exact bs h rfl
theorem ajU {d:Dv} (hd:d.Ok):CC FY (lH d [])=some [.bool (iq d&&(d.dn==d.es.length))]:=by
 obtain ⟨h1,U⟩:=Ot hd
 refine ajS ?_
 unfold XD
 cases hs:iq d with
 | false=>
  rcases U hs with h|⟨s,h⟩
  ·exact bs h (bT rfl rfl)
  ·exact bs h (bF rfl (bF rfl rfl))
 | true=>exact bs (h1 hs) (bF rfl (bT rfl (bs (qs d) rfl)))
end Go.AM
set_option maxRecDepth 100000
namespace Go.AM
open Go.Proofs
noncomputable def XF (C:ae) (ah aq:Int) (af:List V) (letters:Int):Option (List V):=
 (C s4 [.int .i64 ah,.int .i64 aq,.list aa af,.int .i64 letters]).bind fun r1=>
 bif (((V.nth r1 0).toInt):Int) != 0 then
  some [.int .i64 0,.int .i64 0,.int .i64 ((V.nth r1 0).toInt),.list aa ([]:List V),.list ba ([]:List V)]
 else
  (C xP [.int .i64 ah,.int .i64 aq,.list aa af]).bind fun r2=>
  (C xO [.int .i64 ((V.nth r2 0).toInt),.int .i64 ((V.nth (r2.drop 1) 0).toInt),.list aa ((V.nth ((r2.drop 1).drop 1) 0).toList),.int .i64 letters]).bind fun r3=>
  some [.int .i64 ((V.nth r3 0).toInt),.int .i64 ((V.nth (r3.drop 1) 0).toInt),.int .i64 0,.list aa ((V.nth (r3.drop 2) 0).toList),.list ba ((V.nth ((r3.drop 2).drop 1) 0).toList)]
theorem ajV {ah aq:Int} {af:List V} {letters:Int} {r:Option (List V)} (h:XF CC ah aq af letters=r):CC FU [.int .i64 ah,.int .i64 aq,.list aa af,.int .i64 letters]=r:=
 aY (key:=7) (L:=cd) (bs:=[]) (by kernel_rfl) av (aW (by kernel_rfl) h)
end Go.AM
set_option maxRecDepth 100000
namespace Go.AM
open Go.Proofs Ex
def sb (e:Ex) (L:Int):Dv × Int:=if e.val L=0 then (fD e L,0) else (.zero,e.val L)
theorem ajW {e:Ex} (h:e.Ok) (L:Int):CC FU (bQ e [.int .i64 L])=some (wi (sb e L)):=by
 refine ajV ?_
 unfold XF sb
 refine bs (vy e h L) ?_
 by_cases hv:e.val L=0
 ·rw[aj hv]
  refine bF (by rw[V.aM,V.toInt_int,hv];rfl) ?_
  have hN:=NM e h
  rw[aj (tF hv)] at hN
  refine bs hN (bs (Oj (L:=L) (Xg hv)) ?_)
  rfl
 ·rw[ai hv]
  refine bT ?_ rfl
  rw[V.aM,V.toInt_int,kq];exact hv
end Go.AM
set_option maxRecDepth 100000
namespace Go.AM
open Go.Proofs
noncomputable abbrev XG:Code:=cE Tryz.prog (ax.aV 76)
noncomputable def Dt (C:ae) (t9:List V) (t10 dE dr:Int) (cM:List V) (all one:Bool) (t11:Int) {β:Type} (kn:(Bool × Bool × Int)→Option β) (kr:(Bool × Bool × Int × Bool)→Option β):Option β:=
 bif decide ((t11:Int)<t10) then
  (idx t9 t11).bind fun x1=>
  (C Bu [.int .i64 ((x1.cell 0).toInt),.int .i64 ((x1.cell 1).toInt),.list aa ((x1.cell 2).toList)]).bind fun r2=>
  bif all then
  bif one then
   kn ((V.nth r2 0).toBool,true,IntKind.wrap .i64 (t11+1))
  else
   kn ((V.nth r2 0).toBool,(V.nth r2 0).toBool,IntKind.wrap .i64 (t11+1))
  else
  bif one then
   kn (false,true,IntKind.wrap .i64 (t11+1))
  else
   kn (false,(V.nth r2 0).toBool,IntKind.wrap .i64 (t11+1))
 else
  kr (all,one,t11,decide ((t11:Int)<t10))
noncomputable def Ie (C:ae) (t9:List V) (t10 dE dr:Int) (cM:List V):(Bool × Bool × Int)→Option ((Bool × Bool × Int) ⊕ (Bool × Bool × Int × Bool)):=un fun all=>un fun one t11=>Dt C t9 t10 dE dr cM all one t11 (fun y=>some (.inl y)) (fun r=>some (.inr r))
noncomputable def XH (C:ae):ct:=fun β n ds k=>
 bif Nat.beq n 49 then bY L2 [true,true,false,false,true,false,false,false] [[0,0,3,4,0,0,6,7,8]] (@Dt C) ds k else
 none
abbrev ajX (C:ae) (b:cq):Prop:=cr Tryz.prog ax C (XH C) 76 (cH Tryz.prog (ax.aV 76)) (ax.sin 76).bj.length b
theorem ajY (C:ae):ajX C (.loop (aw [1,1,0,1,0,0] XG)):=
 b7 L2 [true,true,false,false,true,false,false,false] [[0,0,3,4,0,0,6,7,8]] (@Dt C) (by kernel_rfl) (bf (bs:=[]) (by kernel_rfl) av) (fun ds=>by kernel_rfl) (fun i x=>by kernel_rfl) (fun i x β k=>by kernel_rfl) (fun β ds k=>by kernel_rfl)
noncomputable def XI (C:ae) (ah aq:Int) (af:List V):Option (List V):=
 (Loop (Ie C af (af.length:Int) ah aq af) (true,false,0)).bind (un fun (Ig:Bool)=>un fun (zl:Bool)=>un fun (mg:Int) (kS:Bool)=>
  bif (ah:Int)==2 then
   bif (ah:Int)==2 then
   some [.bool true]
   else
   bif (ah:Int)==4 then
    some [.bool zl]
   else
    bif (ah:Int)==5 then
    bif (ah:Int)==5 then
     some [.bool Ig]
    else
     bif (ah:Int)==8 then
     some [.bool (!zl)]
     else
     some [.bool false]
    else
    bif (ah:Int)==6 then
     some [.bool Ig]
    else
     bif (ah:Int)==8 then
     some [.bool (!zl)]
     else
     some [.bool false]
  else
   bif (ah:Int)==7 then
   some [.bool true]
   else
   bif (ah:Int)==4 then
    some [.bool zl]
   else
    bif (ah:Int)==5 then
    bif (ah:Int)==5 then
     some [.bool Ig]
    else
     bif (ah:Int)==8 then
     some [.bool (!zl)]
     else
     some [.bool false]
    else
    bif (ah:Int)==6 then
     some [.bool Ig]
    else
     bif (ah:Int)==8 then
     some [.bool (!zl)]
     else
     some [.bool false])
theorem ajZ {ah aq:Int} {af:List V} {r:Option (List V)} (h:XI CC ah aq af=r):CC Bu [.int .i64 ah,.int .i64 aq,.list aa af]=r:=
 aY (key:=76) (L:=XH CC) (bs:=[.loop (aw [1,1,0,1,0,0] XG)]) (by kernel_rfl) (bx (ajY CC) av) (aW (by kernel_rfl) h)
end Go.AM
set_option maxRecDepth 100000
namespace Go.AM
open Go.Proofs Ex
theorem aj0: ∀e:Ex,e.Ok→CC Bu (bQ e [])=some [.bool e.cZ]:=
 ind fun o l ks ih au=>by
  have:=kR
  have hlen:=au.len
  refine ajZ ?_
  have hl:=aem (step:=Ie CC (ks.map enc) ((ks.map enc).length:Int) o l (ks.map enc)) (ks:=ks) (fun (s:Bool × Bool) i=>(s.1,s.2,(i:Int))) (fun s k=>(s.1&&k.cZ,s.2||k.cZ)) (fun s=>(s.1,s.2,((ks.length:Nat):Int),false)) (fun _ _=>True)
   (fun pre k ay s bd hI=>by
    have bS:pre.length<ks.length:=by rw[bd];simp
    have hm:k∈ks:=by rw[bd];simp
    refine ⟨?_,trivial⟩
    simp only[Ie,Dt,un,aJ,az]
    rw[aj (by omega),show idx (ks.map enc) (pre.length:Int)=some k.enc by rw[bd];exact gB _ _ _]
    simp only[Option.bind_some,aU,aZ,aX]
    rw[ih k hm (au.mf k hm)]
    simp only[Option.bind_some,V.aM,V.dj]
    rw[wrap64 (by omega) (by omega)]
    obtain ⟨a,b⟩:=s
    cases a<;>cases b<;>simp)
   (fun s=>by
    simp only[Ie,Dt,un,aJ,az]
    rw[ai (by omega)]
    simp) ks [] (true,false) rfl trivial
  have hf: ∀(ks:List Ex) (a b:Bool),ks.foldl (fun (s:Bool × Bool) k=>(s.1&&k.cZ,s.2||k.cZ)) (a,b)=(a&&mh ks,b||kT ks):=by
   intro ks
   induction ks with
   | nil=>intro a b;simp[mh,kT]
   | cons k ks ih=>intro a b;simp[ih,mh,kT,Bool.and_assoc,Bool.or_assoc]
  rw[hf] at hl
  simp only[List.length_nil,Int.ofNat_zero,Int.natCast_zero] at hl
  unfold XI
  simp only[Ex.op,Ex.bB,Ex.kids]
  erw [hl]
  simp only[Option.bind_some,un,cZ,my,Bool.false_or]
  rcases yx o with rfl|rfl|rfl|rfl|rfl|rfl|rfl|rfl|ho
  case inr.inr.inr.inr.inr.inr.inr.inr=>
   have n2:o≠2:=by omega
   have n4:o≠4:=by omega
   have n5:o≠5:=by omega
   have n6:o≠6:=by omega
   have n7:o≠7:=by omega
   have n8:o≠8:=by omega
   simp[n2,n4,n5,n6,n7,n8]
  all_goals simp
end Go.AM
set_option maxRecDepth 100000
namespace Go.AM
open Go.Proofs
noncomputable abbrev XJ:Code:=cE Tryz.prog (ax.aV 26)
noncomputable def wk (C:ae) (ox ni:Int) (kj:List V) (oy nj:Int) (km:List V) (i:Int) {β:Type} (kn:Int→Option β) (kr:((Int) ⊕ (Int × Bool))→Option β):Option β:=
 bif decide ((i:Int)<(kj.length:Int)) then
  bif decide ((i:Int)<(km.length:Int)) then
  (idx kj i).bind fun x3=>
  (idx km i).bind fun x4=>
  (C rF [.int .i64 ((x3.cell 0).toInt),.int .i64 ((x3.cell 1).toInt),.list aa ((x3.cell 2).toList),.int .i64 ((x4.cell 0).toInt),.int .i64 ((x4.cell 1).toInt),.list aa ((x4.cell 2).toList)]).bind fun r5=>
  bif (((V.nth r5 0).toInt):Int) != 0 then
   kr (.inl ((V.nth r5 0).toInt))
  else
   kn (IntKind.wrap .i64 (i+1))
  else
  kr (.inr (i,decide ((i:Int)<(km.length:Int))))
 else
  kr (.inr (i,false))
noncomputable def tL (C:ae) (ox ni:Int) (kj:List V) (oy nj:Int) (km:List V):(Int)→Option ((Int) ⊕ ((Int) ⊕ (Int × Bool))):=fun i=>wk C ox ni kj oy nj km i (fun y=>some (.inl y)) (fun r=>some (.inr r))
noncomputable def XK (C:ae):ct:=fun β n ds k=>
 bif Nat.beq n 97 then bY Lp [true,false,false,false,false,false,false] [[0],[0,0,2,3,4,5,6,7]] (@wk C) ds k else
 none
abbrev aj1 (C:ae) (b:cq):Prop:=cr Tryz.prog ax C (XK C) 26 (cH Tryz.prog (ax.aV 26)) (ax.sin 26).bj.length b
theorem aj2 (C:ae):aj1 C (.loop (aw [1,1,0,1,0,0] XJ)):=
 b7 Lp [true,false,false,false,false,false,false] [[0],[0,0,2,3,4,5,6,7]] (@wk C) (by kernel_rfl) (bf (bs:=[]) (by kernel_rfl) av) (fun ds=>by kernel_rfl) (fun i x=>by kernel_rfl) (fun i x β k=>by kernel_rfl) (fun β ds k=>by kernel_rfl)
noncomputable def XL (C:ae) (eT eJ:Int) (eU:List V) (eV eW:Int) (fb:List V):Option (List V):=
 bif (eT:Int) != eV then
  (C xU [.bool (decide ((eT:Int)<eV))]).bind fun r1=>
  some [.int .i64 ((V.nth r1 0).toInt)]
 else
  bif (eJ:Int) != eW then
  (C xU [.bool (decide ((eJ:Int)<eW))]).bind fun r2=>
  some [.int .i64 ((V.nth r2 0).toInt)]
  else
  (Loop (tL C eT eJ eU eV eW fb) 0).bind (bV (fun (kS:Int)=>
   some [.int .i64 kS]) (un fun (i_7:Int) (GQ:Bool)=>
   bif ((eU.length:Int):Int)==(fb.length:Int) then
    some [.int .i64 0]
   else
    (C xU [.bool (decide (((eU.length:Int):Int)<(fb.length:Int)))]).bind fun r9=>
    some [.int .i64 ((V.nth r9 0).toInt)]))
theorem aj3 {eT eJ:Int} {eU:List V} {eV eW:Int} {fb:List V} {r:Option (List V)} (h:XL CC eT eJ eU eV eW fb=r):CC rF [.int .i64 eT,.int .i64 eJ,.list aa eU,.int .i64 eV,.int .i64 eW,.list aa fb]=r:=
 aY (key:=26) (L:=XK CC) (bs:=[.loop (aw [1,1,0,1,0,0] XJ)]) (by kernel_rfl) (bx (aj2 CC) av) (aW (by kernel_rfl) h)
noncomputable def aj4 (C:ae) (less:Bool):Option (List V):=
 bif less then
  some [.int .i64 (-1)]
 else
  some [.int .i64 1]
theorem aj5 {less:Bool} {r:Option (List V)} (h:aj4 CC less=r):CC xU [.bool less]=r:=
 aY (key:=44) (L:=cd) (bs:=[]) (by kernel_rfl) av (aW (by kernel_rfl) h)
end Go.AM
set_option maxRecDepth 100000
namespace Go.AM
open Go.Proofs Ex
theorem Ov (b:Bool):CC xU [.bool b]=some [.int .i64 (gC b)]:=by
 refine aj5 ?_
 cases b<;>rfl
theorem aj6 {ks bW:List Ex} {a0 a1 b0 b1:Int} (hlen:ks.length≤maxLen) (ih: ∀k∈ks,∀e:Ex,e.Ok→CC rF (bQ k (bQ e []))=some [.int .i64 (cmp k e)]) (dw: ∀k∈bW,Ex.Ok k):
  ∀(ay pre jn pc:List Ex),ks=pre++ay→bW=pc++jn→pre.length=pc.length→
  (∃c,Loop (tL CC a0 a1 (ks.map enc) b0 b1 (bW.map enc)) ((pre.length:Nat):Int)=some (.inl c)∧dI ay jn=c)∨
  (∃i b,Loop (tL CC a0 a1 (ks.map enc) b0 b1 (bW.map enc)) ((pre.length:Nat):Int)=some (.inr (i,b))∧dI ay jn=if ks.length=bW.length then 0 else gC (decide (ks.length<bW.length))):=by
 intro ay
 induction ay with
 | nil=>
  intro pre jn pc bd j4 lD
  subst bd
  refine .inr ⟨((pre.length:Nat):Int),false,aS ?_,?_⟩
  ·simp only[tL,wk,c9,aJ,az]
   rw[ai (by omega)]
  ·cases jn with
   | nil=>simp[dI,j4,lD]
   | cons a l=>simp[dI,j4,lD,gC]
 | cons k ay ec=>
  intro pre jn pc bd j4 lD
  have bS:pre.length<ks.length:=by rw[bd];simp
  have:=kR
  have bM:idx (ks.map enc) (pre.length:Int)=some k.enc:=by rw[bd];exact gB _ _ _
  cases jn with
  | nil=>
   have hl:bW.length=pre.length:=by rw[j4,lD];simp
   refine .inr ⟨((pre.length:Nat):Int),false,aS ?_,?_⟩
   ·simp only[tL,wk,aJ,az]
    rw[aj (by omega),ai (by omega)]
    simp[hl]
   ·rw[ai (by omega)]
    simp[dI,gC,show¬ks.length<bW.length by omega]
  | cons k' jn=>
   have hl:pre.length<bW.length:=by rw[j4,lD];simp
   have B0:idx (bW.map enc) (pre.length:Int)=some k'.enc:=by rw[j4,lD];exact gB _ _ _
   have e1:=ih k (by rw[bd];simp) k' (dw k' (by rw[j4];simp))
   by_cases hc:cmp k k'=0
   ·have cT:tL CC a0 a1 (ks.map enc) b0 b1 (bW.map enc) ((pre.length:Nat):Int)=some (.inl (((pre++[k]).length:Nat):Int)):=by
     simp only[tL,wk,aJ,az]
     rw[aj (by omega),aj (by omega),bM,B0]
     simp only[Option.bind_some,aU,aZ,aX]
     rw[e1,hc]
     simp only[Option.bind_some,V.aM,V.toInt_int,sZ,cW]
     rw[wrap64 (by omega) (by omega)]
     simp
    rw[bJ cT]
    simp only[dI,hc,ne_eq,nk,fG]
    exact ec (pre++[k]) jn (pc++[k']) (by rw[bd];simp) (by rw[j4];simp) (by simp[lD])
   ·refine .inl ⟨cmp k k',aS ?_,by simp[dI,hc]⟩
    simp only[tL,wk,aJ,az]
    rw[aj (by omega),aj (by omega),bM,B0]
    simp only[Option.bind_some,aU,aZ,aX]
    rw[e1]
    simp only[Option.bind_some,V.aM,V.toInt_int,sZ,ai hc]
theorem Ih: ∀a:Ex,a.Ok→∀b:Ex,b.Ok→CC rF (bQ a (bQ b []))=some [.int .i64 (cmp a b)]:=
 ind fun o l ks ih au b hb=>by
  obtain ⟨o',l',bW⟩:=b
  refine aj3 ?_
  unfold XL
  rw[vA]
  simp only[Ex.op,Ex.bB,Ex.kids,sZ]
  by_cases h1:o=o'
  ·by_cases U:l=l'
   ·rw[aj h1,aj U,ai (by simp[h1]),ai (by simp[U])]
    rcases aj6 (a0:=o) (a1:=l) (b0:=o') (b1:=l') au.len (fun k hk e he=>ih k hk (au.mf k hk) e he) hb.mf ks [] bW [] rfl rfl rfl with ⟨c,q1,q2⟩|⟨i,b,q1,q2⟩
    ·simp only[List.length_nil,Int.ofNat_zero,Int.natCast_zero] at q1
     erw [q1];rw[q2];rfl
    ·simp only[List.length_nil,Int.ofNat_zero,Int.natCast_zero] at q1
     erw [q1];rw[q2]
     simp only[Option.bind_some,bV,un,aJ,dq]
     by_cases hl:ks.length=bW.length
     ·rw[aj (by omega),aj hl]
     ·rw[ai (by omega),ai hl,Ov]
      simp
   ·rw[aj h1,ai U,ai (by simp[h1]),aj U,Ov]
    simp only[Option.bind_some,V.aM,V.toInt_int];rfl
  ·rw[ai h1,aj h1,Ov]
   simp only[Option.bind_some,V.aM,V.toInt_int];rfl
end Go.AM
set_option maxRecDepth 100000
namespace Go.AM
open Go.Proofs
noncomputable abbrev XM:Code:=cE Tryz.prog (ax.aV 43)
noncomputable def zm (C:ae) (l:List V) (tM tN:Int) (Ow:List V) (k':Int) {β:Type} (kn:Int→Option β) (kr:(Int × Bool)→Option β):Option β:=
 bif decide ((k':Int)>0) then
  (idx l (IntKind.wrap .i64 (k'-1))).bind fun x1=>
  (C rF [.int .i64 tM,.int .i64 tN,.list aa Ow,.int .i64 ((x1.cell 0).toInt),.int .i64 ((x1.cell 1).toInt),.list aa ((x1.cell 2).toList)]).bind fun r2=>
  bif decide ((((V.nth r2 0).toInt):Int)<0) then
  kn (IntKind.wrap .i64 (k'-1))
  else
  kr (k',decide ((((V.nth r2 0).toInt):Int)<0))
 else
  kr (k',false)
noncomputable def Du (C:ae) (l:List V) (tM tN:Int) (Ow:List V):(Int)→Option ((Int) ⊕ (Int × Bool)):=fun k'=>zm C l tM tN Ow k' (fun y=>some (.inl y)) (fun r=>some (.inr r))
noncomputable def XN (C:ae):ct:=fun β n ds k=>
 bif Nat.beq n 33 then bY LF [false,true,false,false,false] [[1,0,0,3,4,5]] (@zm C) ds k else
 none
abbrev aj7 (C:ae) (b:cq):Prop:=cr Tryz.prog ax C (XN C) 43 (cH Tryz.prog (ax.aV 43)) (ax.sin 43).bj.length b
theorem aj8 (C:ae):aj7 C (.loop (aw [1,1,0,0,0] XM)):=
 b7 LF [false,true,false,false,false] [[1,0,0,3,4,5]] (@zm C) (by kernel_rfl) (bf (bs:=[]) (by kernel_rfl) av) (fun ds=>by kernel_rfl) (fun i x=>by kernel_rfl) (fun i x β k=>by kernel_rfl) (fun β ds k=>by kernel_rfl)
noncomputable def XO (C:ae) (l:List V) (pw iL:Int) (py:List V):Option (List V):=
 (Loop (Du C l pw iL py) (l.length:Int)).bind (un fun (fE:Int) (gS:Bool)=>
  bif decide ((fE:Int)>0) then
   (idx l (IntKind.wrap .i64 (fE-1))).bind fun x5=>
   (C rF [.int .i64 ((x5.cell 0).toInt),.int .i64 ((x5.cell 1).toInt),.list aa ((x5.cell 2).toList),.int .i64 pw,.int .i64 iL,.list aa py]).bind fun r6=>
   bif (((V.nth r6 0).toInt):Int)==0 then
   some [.list aa l]
   else
   bif (decide (0≤fE))&&(decide (fE≤(l.length:Int))) then
    bif Nat.ble ((([]:List V).length+((l.drop 0).take (((fE:Int).toNat)-0)).length)*40) b6 then
    bif Nat.ble (((([]:List V)++((l.drop 0).take (((fE:Int).toNat)-0))).length+([.agg [.int .i64 pw,.int .i64 iL,.list aa py]]:List V).length)*40) b6 then
     bif (decide (0≤fE))&&(decide (fE≤(l.length:Int))) then
     bif Nat.ble ((((([]:List V)++((l.drop 0).take (((fE:Int).toNat)-0)))++([.agg [.int .i64 pw,.int .i64 iL,.list aa py]]:List V)).length+((l.drop ((fE:Int).toNat)).take (l.length-((fE:Int).toNat))).length)*40) b6 then
      some [.list aa (((([]:List V)++((l.drop 0).take (((fE:Int).toNat)-0)))++([.agg [.int .i64 pw,.int .i64 iL,.list aa py]]:List V))++((l.drop ((fE:Int).toNat)).take (l.length-((fE:Int).toNat))))]
     else none
     else none
    else none
    else none
   else none
  else
   bif (decide (0≤fE))&&(decide (fE≤(l.length:Int))) then
   bif Nat.ble ((([]:List V).length+((l.drop 0).take (((fE:Int).toNat)-0)).length)*40) b6 then
    bif Nat.ble (((([]:List V)++((l.drop 0).take (((fE:Int).toNat)-0))).length+([.agg [.int .i64 pw,.int .i64 iL,.list aa py]]:List V).length)*40) b6 then
    bif (decide (0≤fE))&&(decide (fE≤(l.length:Int))) then
     bif Nat.ble ((((([]:List V)++((l.drop 0).take (((fE:Int).toNat)-0)))++([.agg [.int .i64 pw,.int .i64 iL,.list aa py]]:List V)).length+((l.drop ((fE:Int).toNat)).take (l.length-((fE:Int).toNat))).length)*40) b6 then
     some [.list aa (((([]:List V)++((l.drop 0).take (((fE:Int).toNat)-0)))++([.agg [.int .i64 pw,.int .i64 iL,.list aa py]]:List V))++((l.drop ((fE:Int).toNat)).take (l.length-((fE:Int).toNat))))]
     else none
    else none
    else none
   else none
   else none)
theorem aj9 {l:List V} {pw iL:Int} {py:List V} {r:Option (List V)} (h:XO CC l pw iL py=r):CC Br [.list aa l,.int .i64 pw,.int .i64 iL,.list aa py]=r:=
 aY (key:=43) (L:=XN CC) (bs:=[.loop (aw [1,1,0,0,0] XM)]) (by kernel_rfl) (bx (aj8 CC) av) (aW (by kernel_rfl) h)
noncomputable def XP (C:ae) (ah aq:Int) (af:List V):Option (List V):=
 bif (ah:Int)==8 then
  bif ((af.length:Int):Int)==1 then
  (af[0]?).bind fun x1=>
  some [.bool ((((x1.cell 0).toInt):Int)==1)]
  else
  some [.bool false]
 else
  some [.bool false]
theorem aka {ah aq:Int} {af:List V} {r:Option (List V)} (h:XP CC ah aq af=r):CC xS [.int .i64 ah,.int .i64 aq,.list aa af]=r:=
 aY (key:=41) (L:=cd) (bs:=[]) (by kernel_rfl) av (aW (by kernel_rfl) h)
end Go.AM
set_option maxRecDepth 100000
namespace Go.AM
open Go.Proofs Ex
theorem akb {l:List Ex} {x:Ex} (hl: ∀k∈l,k.Ok) (hx:x.Ok) (hn:l.length≤1000000):
  ∀k,k≤l.length→∃t,Loop (Du CC (l.map enc) x.op x.bB (x.kids.map enc)) (k:Int)=some (((fi l x k:Nat):Int),t):=by
 intro k
 induction k with
 | zero=>
  intro _
  refine ⟨false,aS ?_⟩
  simp only[Du,zm,fi]
  rw[az,ai (by omega)]
 | succ k ih=>
  intro hk
  have e1:IntKind.wrap .i64 (((k+1:Nat):Int)-1)=(k:Int):=by rw[wrap64 (by omega) (by omega)];omega
  have c:=Ih x hx (l.getD k aG) (yA hl (by omega))
  by_cases h:cmp x (l.getD k aG)<0
  ·obtain ⟨t,ht⟩:=ih (by omega)
   refine ⟨t,?_⟩
   rw[fi,aj h,←ht]
   refine bJ ?_
   simp only[Du,zm]
   rw[az,aj (by omega),e1,MU (by omega)]
   simp only[Option.bind_some,aU,aZ,aX]
   refine (congrArg (fun o=>Option.bind o _) c).trans ?_
   simp only[Option.bind_some,V.aM,V.toInt_int,az]
   rw[aj h]
  ·refine ⟨false,?_⟩
   rw[fi,ai h]
   refine aS ?_
   simp only[Du,zm]
   rw[az,aj (by omega),e1,MU (by omega)]
   simp only[Option.bind_some,aU,aZ,aX]
   refine (congrArg (fun o=>Option.bind o _) c).trans ?_
   simp only[Option.bind_some,V.aM,V.toInt_int,az]
   rw[ai h,bz h]
theorem XQ {l:List Ex} {x:Ex} (hl: ∀k∈l,k.Ok) (hx:x.Ok) (hn:l.length≤1000000):
  CC Br (.list aa (l.map enc)::bQ x [])=some [.list aa ((ed l x).map enc)]:=by
 refine aj9 ?_
 unfold XO
 obtain ⟨t,ht⟩:=akb hl hx hn l.length (cg _)
 have hle:=B1 l x l.length
 rw[aJ]
 refine (congrArg (fun o=>Option.bind o _) ht).trans ?_
 have key:=aeO l (fi l x l.length) x
 unfold ed
 generalize fi l x l.length=k at hle key
 have m1:Nat.ble ((([]:List V).length+(((l.map enc).drop 0).take (k-0)).length)*40) b6=true:=by
  rw[dh,gR];simp only[ff,pD,aJ,List.length_nil];omega
 have m2:Nat.ble (((([]:List V)++(((l.map enc).drop 0).take (k-0))).length+([.agg [.int .i64 x.op,.int .i64 x.bB,.list aa (x.kids.map enc)]]:List V).length)*40) b6=true:=by
  rw[dh,gR];simp only[b9,ff,pD,aJ,List.length_nil,List.length_singleton];omega
 have m3:Nat.ble ((((([]:List V)++(((l.map enc).drop 0).take (k-0)))++([.agg [.int .i64 x.op,.int .i64 x.bB,.list aa (x.kids.map enc)]]:List V)).length+(((l.map enc).drop k).take ((l.map enc).length-k)).length)*40) b6=true:=by
  rw[dh,gR];simp only[b9,ff,pD,aJ,List.length_nil,List.length_singleton];omega
 have t1:(0:Int)≤(k:Int):=by omega
 have t2:(k:Int)≤(l.length:Int):=by omega
 simp only[Option.bind_some,un,az,Int.toNat_natCast]
 rw[aJ] at m3 key
 by_cases h0:0<k
 ·rw[aj (by omega)]
  have e1:IntKind.wrap .i64 ((k:Int)-1)=((k-1:Nat):Int):=by rw[wrap64 (by omega) (by omega)];omega
  have c:=Ih (l.getD (k-1) aG) (yA hl (by omega)) x hx
  rw[e1,MU (by omega)]
  simp only[Option.bind_some,aU,aZ,aX]
  refine (congrArg (fun o=>Option.bind o _) c).trans ?_
  simp only[Option.bind_some,V.aM,V.toInt_int,dq]
  by_cases h1:cmp (l.getD (k-1) aG) x=0
  ·rw[aj h1,aj ⟨h0,h1⟩]
  ·rw[ai h1,ai (fun h=>h1 h.2)]
   simp only[dc,az,t1,t2,cW,m1,m2,m3,cond_true,key,aJ]
 ·rw[ai (by omega),ai (fun h=>h0 h.1)]
  simp only[dc,az,t1,t2,cW,m1,m2,m3,cond_true,key,aJ]
theorem Ox (e:Ex):CC xS (bQ e [])=some [.bool (univ e)]:=by
 obtain ⟨o,l,ks⟩:=e
 refine aka ?_
 unfold XP univ
 simp only[Ex.op,Ex.kids,dq,aJ]
 by_cases h1:o=8
 ·rw[aj h1]
  match ks with
  | []=>simp
  | [k]=>
   obtain ⟨o2,l2,jG⟩:=k
   rw[aj (by simp)]
   simp[h1,aU,Ex.op,Bool.beq_eq_decide_eq]
  | k::k2::ks=>
   rw[ai (by simp<;>omega)]
   simp
 ·rw[ai h1];simp[h1]
end Go.AM
set_option maxRecDepth 100000
namespace Go.AM
open Go.Proofs
noncomputable abbrev XR:Code:=cE Tryz.prog (ax.aV 42)
noncomputable def Dw (C:ae) (op:Int) (t8:List V) (t9 t10:Int) (outs:List V) {β:Type} (kn:(Int × (List V))→Option β) (kr:(Int × Bool × (List V))→Option β):Option β:=
 bif decide ((t10:Int)<t9) then
  (idx t8 t10).bind fun x1=>
  bif (((x1.cell 0).toInt):Int)==op then
  bif Nat.ble ((outs.length+((x1.cell 2).toList).length)*40) b6 then
   kn (IntKind.wrap .i64 (t10+1),outs++((x1.cell 2).toList))
  else none
  else
  bif Nat.ble ((outs.length+([.agg [.int .i64 ((x1.cell 0).toInt),.int .i64 ((x1.cell 1).toInt),.list aa ((x1.cell 2).toList)]]:List V).length)*40) b6 then
   kn (IntKind.wrap .i64 (t10+1),outs++([.agg [.int .i64 ((x1.cell 0).toInt),.int .i64 ((x1.cell 1).toInt),.list aa ((x1.cell 2).toList)]]:List V))
  else none
 else
  kr (t10,decide ((t10:Int)<t9),outs)
noncomputable def Dx (C:ae) (op:Int) (t8:List V) (t9:Int):(Int × (List V))→Option ((Int × (List V)) ⊕ (Int × Bool × (List V))):=un fun t10 outs=>Dw C op t8 t9 t10 outs (fun y=>some (.inl y)) (fun r=>some (.inr r))
noncomputable def XS (C:ae):ct:=fun β n ds k=>
 bif Nat.beq n 49 then bY LD [false,false,false,true,true] [[1,2,3,0,0,0]] (@Dw C) ds k else
 none
abbrev akc (C:ae) (b:cq):Prop:=cr Tryz.prog ax C (XS C) 42 (cH Tryz.prog (ax.aV 42)) (ax.sin 42).bj.length b
theorem akd (C:ae):akc C (.loop (aw [1,1,0,1,0,0] XR)):=
 b7 LD [false,false,false,true,true] [[1,2,3,0,0,0]] (@Dw C) (by kernel_rfl) (bf (bs:=[]) (by kernel_rfl) av) (fun ds=>by kernel_rfl) (fun i x=>by kernel_rfl) (fun i x β k=>by kernel_rfl) (fun β ds k=>by kernel_rfl)
noncomputable def XT (C:ae) (op:Int) (kids:List V):Option (List V):=
 (Loop (Dx C op kids (kids.length:Int)) (0,([]:List V))).bind (un fun (t_2:Int)=>un fun (jm:Bool) (ake:List V)=>
  some [.list aa ake])
theorem akf {op:Int} {kids:List V} {r:Option (List V)} (h:XT CC op kids=r):CC xT [.int .i64 op,.list aa kids]=r:=
 aY (key:=42) (L:=XS CC) (bs:=[.loop (aw [1,1,0,1,0,0] XR)]) (by kernel_rfl) (bx (akd CC) av) (aW (by kernel_rfl) h)
end Go.AM
set_option maxRecDepth 100000
namespace Go.AM
open Go.Proofs Ex
theorem akg {op:Int} {ks:List Ex} (hn:ks.length≤1000000) (hl:(br op ks).length≤1000000):
  ∀(ay pre:List Ex),ks=pre++ay→
  Loop (Dx CC op (ks.map enc) ((ks.map enc).length:Int)) (((pre.length:Nat):Int),(br op pre).map enc)=some (((ks.map enc).length:Int),false,(br op ks).map enc):=by
 intro ay
 induction ay with
 | nil=>
  intro pre e
  rw[c9] at e
  subst e
  refine aS ?_
  simp only[Dx,Dw,un,aJ]
  rw[az,ai (by omega),bz (by omega)]
 | cons k ay ih=>
  intro pre e
  have aO:pre.length<ks.length:=by rw[e];simp
  have hi:idx (ks.map enc) ((pre.length:Nat):Int)=some k.enc:=by rw[e];exact gB pre ay k
  have hf:br op ks=br op pre++((if k.op=op then k.kids else [k])++br op ay):=by
   rw[e];unfold br;rw[DS,lN]
  have AQ:br op (pre++[k])=br op pre++(if k.op=op then k.kids else [k]):=by
   unfold br;rw[DS,lN,List.flatMap_nil,c9]
  rw[hf,b9,b9] at hl
  have bX:Dx CC op (ks.map enc) ((ks.map enc).length:Int) (((pre.length:Nat):Int),(br op pre).map enc)=some (.inl (((pre.length+1:Nat):Int),(br op (pre++[k])).map enc)):=by
   simp only[Dx,Dw,un,aJ]
   rw[az,aj (by omega),hi,AQ]
   simp only[Option.bind_some,aU,aZ,aX,dq,Bi,aJ,List.length_singleton]
   by_cases h:k.op=op
   ·rw[aj h] at hl⊢
    rw[aj h,aj (by rw[gR];omega),wrap64 (by omega) (by omega),eD]
    rfl
   ·rw[ai h] at hl⊢
    rw[List.length_singleton] at hl
    rw[ai h,aj (by rw[gR];omega),wrap64 (by omega) (by omega),eD,←dx]
    rfl
  rw[bJ bX]
  have:=ih (pre++[k]) (by simp[e])
  simpa using this
theorem Oy {op:Int} {ks:List Ex} (hn:ks.length≤1000000) (hl:(br op ks).length≤1000000):CC xT [.int .i64 op,.list aa (ks.map enc)]=some [.list aa ((br op ks).map enc)]:=by
 refine akf ?_
 unfold XT
 refine (congrArg (fun o=>Option.bind o _) (akg hn hl ks [] rfl)).trans ?_
 rfl
end Go.AM
set_option maxRecDepth 100000
namespace Go.AM
open Go.Proofs
noncomputable abbrev tO:Code:=cE Tryz.prog (ax.aV 25)
noncomputable def Dy (C:ae) (t19:List V) (t20 dE dr:Int) (cM:List V) (ka kb:Int) (bm:List V) (t21:Int) (oq:List V) {β:Type} (kn:(Int × (List V))→Option β) (kr:(Int × Bool × (List V))→Option β):Option β:=
 bif decide ((t21:Int)<t20) then
  (idx t19 t21).bind fun x1=>
  (C va [.int .i64 ((x1.cell 0).toInt),.int .i64 ((x1.cell 1).toInt),.list aa ((x1.cell 2).toList)]).bind fun r2=>
  bif Nat.ble ((oq.length+([.agg [.int .i64 ((V.nth r2 0).toInt),.int .i64 ((V.nth (r2.drop 1) 0).toInt),.list aa ((V.nth ((r2.drop 1).drop 1) 0).toList)]]:List V).length)*40) b6 then
  kn (IntKind.wrap .i64 (t21+1),oq++([.agg [.int .i64 ((V.nth r2 0).toInt),.int .i64 ((V.nth (r2.drop 1) 0).toInt),.list aa ((V.nth ((r2.drop 1).drop 1) 0).toList)]]:List V))
  else none
 else
  kr (t21,decide ((t21:Int)<t20),oq)
noncomputable def Ii (C:ae) (t19:List V) (t20 dE dr:Int) (cM:List V) (ka kb:Int) (bm:List V):(Int × (List V))→Option ((Int × (List V)) ⊕ (Int × Bool × (List V))):=un fun t21 oq=>Dy C t19 t20 dE dr cM ka kb bm t21 oq (fun y=>some (.inl y)) (fun r=>some (.inr r))
noncomputable def zn (C:ae) (t95 ka kb Dz DA:Int) (DB:List V) (fF eB tP tQ:Int) (Ij b8 pn:List V) (t96:Int) (cP:List V) {β:Type} (kn:(Int × (List V))→Option β) (kr:((Unit) ⊕ (Int × Bool × (List V)))→Option β):Option β:=
 bif decide ((t96:Int)<t95) then
  bif (decide (0≤t96))&&(decide (t96<(Ij.length:Int))) then
  (Ij[(t96:Int).toNat]?).bind fun lC=>
  bif (((lC.cell 0).toInt):Int)==1 then
   kr (.inl ())
  else
   bif (((lC.cell 0).toInt):Int) != 2 then
   bif Nat.ble ((cP.length+([.agg [.int .i64 ((lC.cell 0).toInt),.int .i64 ((lC.cell 1).toInt),.list aa ((lC.cell 2).toList)]]:List V).length)*40) b6 then
    kn (IntKind.wrap .i64 (t96+1),cP++([.agg [.int .i64 ((lC.cell 0).toInt),.int .i64 ((lC.cell 1).toInt),.list aa ((lC.cell 2).toList)]]:List V))
   else none
   else
   kn (IntKind.wrap .i64 (t96+1),cP)
  else none
 else
  kr (.inr (t96,decide ((t96:Int)<t95),cP))
noncomputable def zo (C:ae) (t95 ka kb Dz DA:Int) (DB:List V) (fF eB tP tQ:Int) (Ij b8 pn:List V):(Int × (List V))→Option ((Int × (List V)) ⊕ ((Unit) ⊕ (Int × Bool × (List V)))):=un fun t96 cP=>zn C t95 ka kb Dz DA DB fF eB tP tQ Ij b8 pn t96 cP (fun y=>some (.inl y)) (fun r=>some (.inr r))
noncomputable def zp (C:ae) (t120 ka kb XU XV fF eB tP tQ:Int) (XW Ik b8 cP:List V) (t121:Int) (pz:List V) {β:Type} (kn:(Int × (List V))→Option β) (kr:((Unit) ⊕ (Int × Bool × (List V)))→Option β):Option β:=
 bif decide ((t121:Int)<t120) then
  bif (decide (0≤t121))&&(decide (t121<(Ik.length:Int))) then
  (Ik[(t121:Int).toNat]?).bind fun jE=>
  (C xS [.int .i64 ((jE.cell 0).toInt),.int .i64 ((jE.cell 1).toInt),.list aa ((jE.cell 2).toList)]).bind fun dU=>
  bif (V.nth dU 0).toBool then
   kr (.inl ())
  else
   bif (((jE.cell 0).toInt):Int) != 1 then
   (C Br [.list aa pz,.int .i64 ((jE.cell 0).toInt),.int .i64 ((jE.cell 1).toInt),.list aa ((jE.cell 2).toList)]).bind fun iM=>
   kn (IntKind.wrap .i64 (t121+1),(V.nth iM 0).toList)
   else
   kn (IntKind.wrap .i64 (t121+1),pz)
  else none
 else
  kr (.inr (t121,decide ((t121:Int)<t120),pz))
noncomputable def zq (C:ae) (t120 ka kb XU XV fF eB tP tQ:Int) (XW Ik b8 cP:List V):(Int × (List V))→Option ((Int × (List V)) ⊕ ((Unit) ⊕ (Int × Bool × (List V)))):=un fun t121 pz=>zp C t120 ka kb XU XV fF eB tP tQ XW Ik b8 cP t121 pz (fun y=>some (.inl y)) (fun r=>some (.inr r))
noncomputable def zr (C:ae) (t144 ka kb Dz DA:Int) (DB:List V) (fF eB tP tQ:Int) (Il b8 cP:List V) (t145:Int) (pz:List V) {β:Type} (kn:(Int × (List V))→Option β) (kr:((Unit) ⊕ (Int × Bool × (List V)))→Option β):Option β:=
 bif decide ((t145:Int)<t144) then
  bif (decide (0≤t145))&&(decide (t145<(Il.length:Int))) then
  (Il[(t145:Int).toNat]?).bind fun oe=>
  bif (((oe.cell 0).toInt):Int)==1 then
   kr (.inl ())
  else
   (C xS [.int .i64 ((oe.cell 0).toInt),.int .i64 ((oe.cell 1).toInt),.list aa ((oe.cell 2).toList)]).bind fun wm=>
   bif !((V.nth wm 0).toBool) then
   (C Br [.list aa pz,.int .i64 ((oe.cell 0).toInt),.int .i64 ((oe.cell 1).toInt),.list aa ((oe.cell 2).toList)]).bind fun Oz=>
   kn (IntKind.wrap .i64 (t145+1),(V.nth Oz 0).toList)
   else
   kn (IntKind.wrap .i64 (t145+1),pz)
  else none
 else
  kr (.inr (t145,decide ((t145:Int)<t144),pz))
noncomputable def zt (C:ae) (t144 ka kb Dz DA:Int) (DB:List V) (fF eB tP tQ:Int) (Il b8 cP:List V):(Int × (List V))→Option ((Int × (List V)) ⊕ ((Unit) ⊕ (Int × Bool × (List V)))):=un fun t145 pz=>zr C t144 ka kb Dz DA DB fF eB tP tQ Il b8 cP t145 pz (fun y=>some (.inl y)) (fun r=>some (.inr r))
noncomputable def XX (C:ae):ct:=fun β n ds k=>
 bif Nat.beq n 49 then bY Ll [false,false,true,false,false,false,false,false,true,false] [[1,2,0,0,4,5,6,7,8,0,10]] (@Dy C) ds k else
 bif Nat.beq n 465 then bY Lm [false,true,false,false,false,false,false,false,false,false,false,false,false,true,false] [[5,6,7],[1,0,0,3,4,5,6,7,8,9,10,11,12,13,0,15]] (@zn C) ds k else
 bif Nat.beq n 609 then bY Ln [false,true,false,false,false,false,false,false,true,false,false,false,false,false,false] [[5,6,15],[1,0,0,3,4,5,6,7,8,0,10,11,12,13,14,15]] (@zp C) ds k else
 bif Nat.beq n 769 then bY Lo [false,true,false,false,false,false,false,false,false,true,false,false,false,false,false] [[5,6,7],[1,0,0,3,4,5,6,7,8,9,0,11,12,13,14,15]] (@zr C) ds k else
 none
abbrev Im (C:ae) (b:cq):Prop:=cr Tryz.prog ax C (XX C) 25 (cH Tryz.prog (ax.aV 25)) (ax.sin 25).bj.length b
theorem akh (C:ae):Im C (.loop (aw [1,1,0,1,0,0] tO)):=
 b7 Ll [false,false,true,false,false,false,false,false,true,false] [[1,2,0,0,4,5,6,7,8,0,10]] (@Dy C) (by kernel_rfl) (bf (bs:=[]) (by kernel_rfl) av) (fun ds=>by kernel_rfl) (fun i x=>by kernel_rfl) (fun i x β k=>by kernel_rfl) (fun β ds k=>by kernel_rfl)
theorem aki (C:ae):Im C (.loop (aw [1,1,1,1,1,1,1,0,1,0,1,1,1,1,1,0,1,1,0,0] tO)):=
 b7 Lm [false,true,false,false,false,false,false,false,false,false,false,false,false,true,false] [[5,6,7],[1,0,0,3,4,5,6,7,8,9,10,11,12,13,0,15]] (@zn C) (by kernel_rfl) (bf (bs:=[]) (by kernel_rfl) av) (fun ds=>by kernel_rfl) (fun i x=>by kernel_rfl) (fun i x β k=>by kernel_rfl) (fun β ds k=>by kernel_rfl)
theorem akj (C:ae):Im C (.loop (aw [1,1,1,1,1,1,1,0,1,0,1,1,1,1,1,1,1,0,1,0,0] tO)):=
 b7 Ln [false,true,false,false,false,false,false,false,true,false,false,false,false,false,false] [[5,6,15],[1,0,0,3,4,5,6,7,8,0,10,11,12,13,14,15]] (@zp C) (by kernel_rfl) (bf (bs:=[]) (by kernel_rfl) av) (fun ds=>by kernel_rfl) (fun i x=>by kernel_rfl) (fun i x β k=>by kernel_rfl) (fun β ds k=>by kernel_rfl)
theorem akk (C:ae):Im C (.loop (aw [1,1,1,1,1,1,1,0,1,0,1,1,1,1,1,1,1,1,1,0,1,1,0,0] tO)):=
 b7 Lo [false,true,false,false,false,false,false,false,false,true,false,false,false,false,false] [[5,6,7],[1,0,0,3,4,5,6,7,8,9,0,11,12,13,14,15]] (@zr C) (by kernel_rfl) (bf (bs:=[]) (by kernel_rfl) av) (fun ds=>by kernel_rfl) (fun i x=>by kernel_rfl) (fun i x β k=>by kernel_rfl) (fun β ds k=>by kernel_rfl)
noncomputable def XY (C:ae) (ah aq:Int) (af:List V):Option (List V):=
 (Loop (Ii C af (af.length:Int) ah aq af 0 0 ([]:List V)) (0,([]:List V))).bind (un fun (jm:Int)=>un fun (gS:Bool) (pA:List V)=>
  bif (ah:Int)==8 then
   bif decide (0<(pA.length:Int)) then
   (pA[0]?).bind fun x6=>
   bif (((x6.cell 0).toInt):Int)==8 then
    bif decide (0<(pA.length:Int)) then
    (pA[0]?).bind fun x7=>
    (((x7.cell 2).toList)[0]?).bind fun x8=>
    some [.int .i64 ((x8.cell 0).toInt),.int .i64 ((x8.cell 1).toInt),.list aa ((x8.cell 2).toList)]
    else none
   else
    some [.int .i64 ah,.int .i64 aq,.list aa pA]
   else none
  else
   bif (ah:Int)==7 then
   bif decide (0<(pA.length:Int)) then
    (pA[0]?).bind fun x9=>
    bif (((x9.cell 0).toInt):Int)==1 then
    some [.int .i64 2,.int .i64 0,.list aa ([]:List V)]
    else
    bif (((x9.cell 0).toInt):Int)==2 then
     some [.int .i64 2,.int .i64 0,.list aa ([]:List V)]
    else
     bif (((x9.cell 0).toInt):Int)==7 then
     some [.int .i64 ((x9.cell 0).toInt),.int .i64 ((x9.cell 1).toInt),.list aa ((x9.cell 2).toList)]
     else
     (C xS [.int .i64 ((x9.cell 0).toInt),.int .i64 ((x9.cell 1).toInt),.list aa ((x9.cell 2).toList)]).bind fun dg=>
     bif (V.nth dg 0).toBool then
      some [.int .i64 ((x9.cell 0).toInt),.int .i64 ((x9.cell 1).toInt),.list aa ((x9.cell 2).toList)]
     else
      some [.int .i64 ah,.int .i64 aq,.list aa pA]
   else none
   else
   bif (ah:Int)==5 then
    (C xT [.int .i64 ah,.list aa pA]).bind fun dz=>
    (Loop (zo C (((V.nth dz 0).toList).length:Int) 0 0 1 0 ([]:List V) ah aq 2 0 ((V.nth dz 0).toList) ([]:List V) ([]:List V)) (0,([]:List V))).bind (bV (fun _=>
     some [.int .i64 1,.int .i64 0,.list aa ([]:List V)]) (un fun (MI:Int)=>un fun (qe:Bool) (nh:List V)=>
     bif ((nh.length:Int):Int)==0 then
     some [.int .i64 2,.int .i64 0,.list aa ([]:List V)]
     else
     bif ((nh.length:Int):Int)==1 then
      (nh[0]?).bind fun fB=>
      some [.int .i64 ((fB.cell 0).toInt),.int .i64 ((fB.cell 1).toInt),.list aa ((fB.cell 2).toList)]
     else
      some [.int .i64 ah,.int .i64 aq,.list aa nh]))
   else
    bif (ah:Int)==4 then
    (C xT [.int .i64 ah,.list aa pA]).bind fun dY=>
    (Loop (zq C (((V.nth dY 0).toList).length:Int) 0 0 8 0 ah aq 1 0 ([]:List V) ((V.nth dY 0).toList) ([]:List V) ([.agg [.int .i64 1,.int .i64 0,.list aa ([]:List V)]]:List V)) (0,([]:List V))).bind (bV (fun _=>
     some [.int .i64 8,.int .i64 0,.list aa ([.agg [.int .i64 1,.int .i64 0,.list aa ([]:List V)]]:List V)]) (un fun (BV:Int)=>un fun (GV:Bool) (Io:List V)=>
     bif ((Io.length:Int):Int)==0 then
      some [.int .i64 1,.int .i64 0,.list aa ([]:List V)]
     else
      bif ((Io.length:Int):Int)==1 then
      (Io[0]?).bind fun pg=>
      some [.int .i64 ((pg.cell 0).toInt),.int .i64 ((pg.cell 1).toInt),.list aa ((pg.cell 2).toList)]
      else
      some [.int .i64 ah,.int .i64 aq,.list aa Io]))
    else
    bif (ah:Int)==6 then
     (C xT [.int .i64 ah,.list aa pA]).bind fun Cm=>
     (Loop (zt C (((V.nth Cm 0).toList).length:Int) 0 0 1 0 ([]:List V) ah aq 8 0 ((V.nth Cm 0).toList) ([]:List V) ([.agg [.int .i64 1,.int .i64 0,.list aa ([]:List V)]]:List V)) (0,([]:List V))).bind (bV (fun _=>
      some [.int .i64 1,.int .i64 0,.list aa ([]:List V)]) (un fun (MM:Int)=>un fun (GX:Bool) (zu:List V)=>
      bif ((zu.length:Int):Int)==0 then
      some [.int .i64 8,.int .i64 0,.list aa ([.agg [.int .i64 1,.int .i64 0,.list aa ([]:List V)]]:List V)]
      else
      bif ((zu.length:Int):Int)==1 then
       (zu[0]?).bind fun OA=>
       some [.int .i64 ((OA.cell 0).toInt),.int .i64 ((OA.cell 1).toInt),.list aa ((OA.cell 2).toList)]
      else
       some [.int .i64 ah,.int .i64 aq,.list aa zu]))
    else
     some [.int .i64 ah,.int .i64 aq,.list aa ([]:List V)])
theorem akl {ah aq:Int} {af:List V} {r:Option (List V)} (h:XY CC ah aq af=r):CC va [.int .i64 ah,.int .i64 aq,.list aa af]=r:=
 aY (key:=25) (L:=XX CC) (bs:=[.loop (aw [1,1,0,1,0,0] tO),.loop (aw [1,1,1,1,1,1,1,0,1,0,1,1,1,1,1,0,1,1,0,0] tO),.loop (aw [1,1,1,1,1,1,1,0,1,0,1,1,1,1,1,1,1,0,1,0,0] tO),.loop (aw [1,1,1,1,1,1,1,0,1,0,1,1,1,1,1,1,1,1,1,0,1,1,0,0] tO)]) (by kernel_rfl) (bx (akh CC) (bx (aki CC) (bx (akj CC) (bx (akk CC) av)))) (aW (by kernel_rfl) h)
end Go.AM
set_option maxRecDepth 100000
namespace Go.AM
open Go.Proofs Ex
section
variable {f:List Ex} {a1 a2 a3 a4 a5 a6 a7 a8:Int} {b0 b1 b2:List V}
theorem akm (hn:f.length≤1000000): ∀(ay pre acc:List Ex),f=pre++ay→acc.length≤pre.length→
  Loop (zo CC ((f.map enc).length:Int) a1 a2 a3 a4 b0 a5 a6 a7 a8 (f.map enc) b1 b2) (((pre.length:Nat):Int),acc.map enc)=
   some (if ay.any (fun k=>decide (k.op=1))=true then .inl () else .inr (((f.map enc).length:Int),false,(acc++ay.filter fun k=>decide (k.op≠2)).map enc)):=by
 intro ay
 induction ay with
 | nil=>
  intro pre acc e _
  rw[c9] at e
  subst e
  refine aS ?_
  simp only[zo,zn,un,aJ]
  rw[az,ai (by omega),bz (by omega)]
  simp
 | cons k ay ih=>
  intro pre acc e ha
  have aO:pre.length<f.length:=by rw[e];simp
  have hg:(f.map enc)[pre.length]? =some k.enc:=by rw[e];simp
  have t1:((pre.length:Nat):Int)<(f.length:Int):=by omega
  have t2:(0:Int)≤((pre.length:Nat):Int):=by omega
  by_cases h1:k.op=1
  ·rw[aj (by simp[h1])]
   refine aS ?_
   simp only[zo,zn,un,aJ,dc,az,dq,Int.toNat_natCast,t1,t2,cW,hg,Option.bind_some,aU,h1]
  ·have bX:zo CC ((f.map enc).length:Int) a1 a2 a3 a4 b0 a5 a6 a7 a8 (f.map enc) b1 b2 (((pre.length:Nat):Int),acc.map enc)=some (.inl (((pre.length+1:Nat):Int),(if k.op=2 then acc else acc++[k]).map enc)):=by
    simp only[zo,zn,un,aJ,dc,az,dq,sZ,Bi,Int.toNat_natCast,t1,t2,cW,hg,Option.bind_some,aU,aZ,aX,List.length_singleton]
    rw[ai h1,wrap64 (by omega) (by omega)]
    by_cases U:k.op=2
    ·rw[aj U,aj U];rfl
    ·rw[ai U,ai U,aj (by rw[gR];omega),eD,←dx];rfl
   rw[bJ bX]
   have:=ih (pre++[k]) (if k.op=2 then acc else acc++[k]) (by simp[e]) (by split<;>simp<;>omega)
   rw[b9,List.length_singleton] at this
   rw[this]
   congr 1
   by_cases U:k.op=2
   ·simp[h1,U]
   ·simp[h1,U]
end
section
variable {f:List Ex} {a1 a2 a3 a4 a5 a6 a7 a8:Int} {b0 b1 b2:List V}
theorem akn (hn:f.length≤1000000) (hf: ∀k∈f,k.Ok): ∀(ay pre acc:List Ex),f=pre++ay→acc.length≤pre.length→(∀k∈acc,k.Ok)→
  Loop (zq CC ((f.map enc).length:Int) a1 a2 a3 a4 a5 a6 a7 a8 b0 (f.map enc) b1 b2) (((pre.length:Nat):Int),acc.map enc)=
   some (if ay.any univ=true then .inl () else .inr (((f.map enc).length:Int),false,((ay.filter fun k=>decide (k.op≠1)).foldl ed acc).map enc)):=by
 intro ay
 induction ay with
 | nil=>
  intro pre acc e _ _
  rw[c9] at e
  subst e
  refine aS ?_
  simp only[zq,zp,un,aJ]
  rw[az,ai (by omega),bz (by omega)]
  simp
 | cons k ay ih=>
  intro pre acc e ha au
  have kL:k∈f:=by rw[e];simp
  have aO:pre.length<f.length:=by rw[e];simp
  have hg:(f.map enc)[pre.length]? =some k.enc:=by rw[e];simp
  have t1:((pre.length:Nat):Int)<(f.length:Int):=by omega
  have t2:(0:Int)≤((pre.length:Nat):Int):=by omega
  have cu:=Ox k
  have ci:=XQ au (hf k kL) (by omega)
  cases hu:univ k with
  | true=>
   rw[hu] at cu
   rw[aj (by simp[hu])]
   refine aS ?_
   simp only[zq,zp,un,aJ,dc,az,Int.toNat_natCast,t1,t2,cW,hg,Option.bind_some,aU,aZ,aX]
   refine (congrArg (fun o=>Option.bind o _) cu).trans ?_
   rfl
  | false=>
   rw[hu] at cu
   have bX:zq CC ((f.map enc).length:Int) a1 a2 a3 a4 a5 a6 a7 a8 b0 (f.map enc) b1 b2 (((pre.length:Nat):Int),acc.map enc)=some (.inl (((pre.length+1:Nat):Int),(if k.op=1 then acc else ed acc k).map enc)):=by
    simp only[zq,zp,un,aJ,dc,az,Int.toNat_natCast,t1,t2,cW,hg,Option.bind_some,aU,aZ,aX]
    refine (congrArg (fun o=>Option.bind o _) cu).trans ?_
    simp only[Option.bind_some,V.aM,V.dj,cond_false,sZ]
    rw[wrap64 (by omega) (by omega)]
    by_cases U:k.op=1
    ·rw[aj U,aj U];rfl
    ·rw[ai U,ai U]
     refine (congrArg (fun o=>Option.bind o _) ci).trans ?_
     simp only[Option.bind_some,V.aM,V.kM]
     rfl
   rw[bJ bX]
   have sH:=T6 acc k
   have:=ih (pre++[k]) (if k.op=1 then acc else ed acc k) (by simp[e]) (by rw[b9,List.length_singleton];split<;>omega) (by split;exact au;exact T7 au (hf k kL))
   rw[b9,List.length_singleton] at this
   rw[this]
   congr 1
   by_cases U:k.op=1
   ·simp[hu,U]
   ·simp[hu,U]
theorem ako (hn:f.length≤1000000) (hf: ∀k∈f,k.Ok): ∀(ay pre acc:List Ex),f=pre++ay→acc.length≤pre.length→(∀k∈acc,k.Ok)→
  Loop (zt CC ((f.map enc).length:Int) a1 a2 a3 a4 b0 a5 a6 a7 a8 (f.map enc) b1 b2) (((pre.length:Nat):Int),acc.map enc)=
   some (if ay.any (fun k=>decide (k.op=1))=true then .inl () else .inr (((f.map enc).length:Int),false,((ay.filter fun k=> !(univ k)).foldl ed acc).map enc)):=by
 intro ay
 induction ay with
 | nil=>
  intro pre acc e _ _
  rw[c9] at e
  subst e
  refine aS ?_
  simp only[zt,zr,un,aJ]
  rw[az,ai (by omega),bz (by omega)]
  simp
 | cons k ay ih=>
  intro pre acc e ha au
  have kL:k∈f:=by rw[e];simp
  have aO:pre.length<f.length:=by rw[e];simp
  have hg:(f.map enc)[pre.length]? =some k.enc:=by rw[e];simp
  have t1:((pre.length:Nat):Int)<(f.length:Int):=by omega
  have t2:(0:Int)≤((pre.length:Nat):Int):=by omega
  have cu:=Ox k
  have ci:=XQ au (hf k kL) (by omega)
  by_cases h1:k.op=1
  ·rw[aj (by simp[h1])]
   refine aS ?_
   simp only[zt,zr,un,aJ,dc,az,dq,Int.toNat_natCast,t1,t2,cW,hg,Option.bind_some,aU,h1]
  ·have bX:zt CC ((f.map enc).length:Int) a1 a2 a3 a4 b0 a5 a6 a7 a8 (f.map enc) b1 b2 (((pre.length:Nat):Int),acc.map enc)=some (.inl (((pre.length+1:Nat):Int),(if univ k=true then acc else ed acc k).map enc)):=by
    simp only[zt,zr,un,aJ,dc,az,dq,Int.toNat_natCast,t1,t2,cW,hg,Option.bind_some,aU,aZ,aX]
    rw[ai h1]
    refine (congrArg (fun o=>Option.bind o _) cu).trans ?_
    simp only[Option.bind_some,V.aM,V.dj,ig]
    rw[wrap64 (by omega) (by omega)]
    cases hu:univ k with
    | true=>rw[cond_true,aj rfl];rfl
    | false=>
     rw[cond_false,ai (by simp)]
     refine (congrArg (fun o=>Option.bind o _) ci).trans ?_
     simp only[Option.bind_some,V.aM,V.kM]
     rfl
   rw[bJ bX]
   have sH:=T6 acc k
   have:=ih (pre++[k]) (if univ k=true then acc else ed acc k) (by simp[e]) (by rw[b9,List.length_singleton];split<;>omega) (by split;exact au;exact T7 au (hf k kL))
   rw[b9,List.length_singleton] at this
   rw[this]
   congr 1
   cases hu:univ k<;>simp[h1,hu]
end
end Go.AM
