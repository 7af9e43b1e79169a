/-
  Functions of the program, lifted to plain data.
-/
import Derived.Test.YtppefogdkedaiaaGreatP6
set_option linter.unusedVariables false
set_option linter.unusedSimpArgs false
set_option maxRecDepth 100000
namespace Go.AM
open Go.Proofs Ex
theorem akp {ks:List Ex} {a b c d:Int} {l1 l2:List V} (hn:ks.length≤1000000) (ih: ∀k∈ks,CC va (bQ k [])=some (eH (aI k))):
  ∀(ay pre:List Ex),ks=pre++ay→∃t,Loop (Ii CC (ks.map enc) ((ks.map enc).length:Int) a b l1 c d l2) (((pre.length:Nat):Int),(pre.map aI).map enc)=some (((ks.map enc).length:Int),t,(ks.map aI).map enc):=by
 intro ay
 induction ay with
 | nil=>
  intro pre e
  rw[c9] at e
  subst e
  refine ⟨false,aS ?_⟩
  simp only[Ii,Dy,un,aJ]
  rw[az,ai (by omega),bz (by omega)]
 | cons k ay ec=>
  intro pre e
  have bS:pre.length<ks.length:=by rw[e];simp
  have bM:idx (ks.map enc) (pre.length:Int)=some k.enc:=by rw[e];exact gB _ _ _
  obtain ⟨t,ht⟩:=ec (pre++[k]) (by simp[e])
  refine ⟨t,(bJ ?_).trans ht⟩
  simp only[Ii,Dy,un,aJ]
  rw[az,aj (by omega),bM]
  simp only[Option.bind_some,aU,aZ,aX]
  refine bs (ih k (by rw[e];simp)) ?_
  refine bT (by simp only[dh,gR,aJ,List.length_singleton];omega) ?_
  rw[wrap64 (by omega) (by omega)]
  show some (Sum.inl _)=some (Sum.inl _)
  refine congrArg (fun x=>some (Sum.inl x)) (Prod.ext ?_ ?_)
  ·simp
  ·simp only[eD,cJ,fT]
   rw[dx (aI k)];rfl
theorem OB {op z:Int} {r:List Ex} {lz:List V} {e:Ex} (he:eH e=[.int .i64 z,.int .i64 0,.list aa lz]):
  (bif (((r.map enc).length:Int):Int)==0 then some [V.int .i64 z,V.int .i64 0,V.list aa lz] else bif (((r.map enc).length:Int):Int)==1 then ((r.map enc)[0]?).bind fun x=>some [V.int .i64 ((x.cell 0).toInt),V.int .i64 ((x.cell 1).toInt),V.list aa ((x.cell 2).toList)] else some [V.int .i64 op,V.int .i64 0,V.list aa (r.map enc)])=some (eH (ik op r e)):=by
 simp only[dq,aJ]
 match r with
 | []=>rw[aj (by simp),←he];rfl
 | [k]=>rw[ai (by simp),aj (by simp)];simp[ik,eH,aU,aZ,aX]
 | k::k2::r=>
  rw[ai (by simp only[List.length_cons];omega),ai (by simp only[List.length_cons];omega)]
  rfl
theorem XZ {n:Int} (hn:n≤6): ∀e:Ex,e.wf n=true→e.size≤1000000→CC va (bQ e [])=some (eH (aI e)):=
 ind fun o l ks ih hw hs=>by
  obtain ⟨h1,U⟩:=gT hw
  have hl:=kU ks
  simp only[size] at hs
  have h3:=eK h1
  refine akl ?_
  unfold XY
  obtain ⟨t,ht⟩:=akp (a:=o) (b:=l) (c:=0) (d:=0) (l1:=ks.map enc) (l2:=[]) (ks:=ks) (by omega) (fun k hk=>ih k hk (U k hk) (by have:=te hk;omega)) ks [] rfl
  refine bs ht ?_
  have hg: ∀k∈ks.map aI,Gd n k:=fun x hx=>by
   obtain ⟨k,hk,rfl⟩:=gG.1 hx
   exact lE k (U k hk)
  have hz:aN (ks.map aI)≤aN ks:=by
   clear ht h3 h1 hw ih hl hs hg
   induction ks with
   | nil=>simp[aN]
   | cons k ks ih=>have a:=yF k (U k (by simp));have b:=ih fun k hk=>U k (by simp[hk]);simp only[cJ,aN];omega
  have au: ∀k∈ks.map aI,k.Ok:=fun k hk=>mZ hn k (hg k hk).2 (by have:=te hk;omega)
  have hlen:(ks.map aI).length=ks.length:=by simp
  rw[mi]
  simp only[un,Ex.op,Ex.bB,Ex.kids]
  generalize ks.map aI=ns at*
  have jK:=kU ns
  rcases h3 with ⟨rfl,h4,_⟩|⟨rfl,⟨rfl,h4⟩|⟨rfl,h4⟩|⟨rfl,h4⟩|⟨rfl,h4⟩|⟨rfl,h4⟩|⟨rfl,h4⟩|⟨rfl,h4⟩⟩
  ·obtain rfl:ns=[]:=mz.1 (by omega)
   rw[j6 (by omega)]
   exact bF rfl (bF rfl (bF rfl (bF rfl (bF rfl rfl))))
  ·obtain rfl:ns=[]:=mz.1 (by omega)
   rw[j6 (by omega)]
   exact bF rfl (bF rfl (bF rfl (bF rfl (bF rfl rfl))))
  ·obtain rfl:ns=[]:=mz.1 (by omega)
   rw[j6 (by omega)]
   exact bF rfl (bF rfl (bF rfl (bF rfl (bF rfl rfl))))
  ·refine bF rfl (bF rfl (bF rfl (bT rfl ?_)))
   have a1:=rM 4 ns
   have a2:=kU (br 4 ns)
   refine bs (Oy (by omega) (by omega)) ?_
   refine bs (akn (by omega) (HA au) (br 4 ns) [] [] rfl (cg _) (by simp)) ?_
   rw[vE]
   cases (br 4 ns).any univ with
   | true=>simp only[cW];rfl
   | false=>
    simp only[zS,fG]
    exact OB rfl
  ·refine bF rfl (bF rfl (bT rfl ?_))
   have a1:=rM 5 ns
   have a2:=kU (br 5 ns)
   refine bs (Oy (by omega) (by omega)) ?_
   refine bs (akm (by omega) (br 5 ns) [] [] rfl (cg _)) ?_
   rw[tm]
   cases (br 5 ns).any (fun k=>decide (k.op=1)) with
   | true=>simp only[cW];rfl
   | false=>
    simp only[zS,fG,List.nil_append]
    exact OB rfl
  ·refine bF rfl (bF rfl (bF rfl (bF rfl (bT rfl ?_))))
   have a1:=rM 6 ns
   have a2:=kU (br 6 ns)
   refine bs (Oy (by omega) (by omega)) ?_
   refine bs (ako (by omega) (HA au) (br 6 ns) [] [] rfl (cg _) (by simp)) ?_
   rw[yB]
   cases (br 6 ns).any (fun k=>decide (k.op=1)) with
   | true=>simp only[cW];rfl
   | false=>
    simp only[zS,fG]
    refine OB ?_
    simp[eH,jo,ez,Ex.op,Ex.bB,Ex.kids,dx]
  ·match ns,(show ns.length=1 by omega) with
   | [k],_=>
    refine bF rfl (bT rfl (bT rfl (bs (a:=k.enc) rfl ?_)))
    rw[yC,aU,aZ,aX,dq,dq,dq]
    by_cases h1:k.op=1
    ·rw[aj h1,aj (.inl h1)];rfl
    ·rw[ai h1]
     by_cases U:k.op=2
     ·rw[aj U,aj (.inr U)];rfl
     ·rw[ai U,ai (show¬(k.op=1∨k.op=2) by omega)]
      by_cases h7:k.op=7
      ·rw[aj h7,aj (.inl h7)];rfl
      ·rw[ai h7]
       refine bs (Ox k) ?_
       cases hu:univ k with
       | true=>rw[aj (.inr rfl)];exact bT rfl rfl
       | false=>
        rw[ai (by rintro (h|h);exact h7 h;cases h)]
        exact bF rfl rfl
  ·match ns,(show ns.length=1 by omega) with
   | [k],_=>
    refine bT rfl (bT rfl (bs (a:=k.enc) rfl ?_))
    rw[yD,aU,dq]
    by_cases h8:k.op=8
    ·rw[aj h8,aj h8]
     have hs:=eK (hg k (by simp)).shape
     obtain ⟨o2,l2,jG⟩:=k
     simp only[Ex.op,Ex.kids,Ex.bB] at*
     match jG,(show (jG.length:Int)=1 by omega) with
     | [x],_=>
      refine bT (by simp) (bs (a:=_) rfl (bs (a:=x.enc) (by rw[aX];rfl) ?_))
      rw[aU,aZ,aX];rfl
    ·rw[ai h8,ai h8];rfl
end Go.AM
set_option maxRecDepth 100000
namespace Go.AM
open Go.Proofs
noncomputable def X0 (C:ae) (op:Int) (l:List V):Option (List V):=
 bif ((l.length:Int):Int)==1 then
  (l[0]?).bind fun x1=>
  some [.int .i64 ((x1.cell 0).toInt),.int .i64 ((x1.cell 1).toInt),.list aa ((x1.cell 2).toList)]
 else
  some [.int .i64 op,.int .i64 0,.list aa l]
theorem akq {op:Int} {l:List V} {r:Option (List V)} (h:X0 CC op l=r):CC vh [.int .i64 op,.list aa l]=r:=
 aY (key:=75) (L:=cd) (bs:=[]) (by kernel_rfl) av (aW (by kernel_rfl) h)
noncomputable abbrev Ip:Code:=cE Tryz.prog (ax.aV 63)
noncomputable def DC (C:ae) (bB:Int) (t28:List V) (t29 ee ef fF eB:Int) (cv:List V) (t30:Int) (bm:List V) {β:Type} (kn:(Int × (List V))→Option β) (kr:(Int × Bool × (List V))→Option β):Option β:=
 bif decide ((t30:Int)<t29) then
  (idx t28 t30).bind fun x1=>
  (C o6 [.int .i64 ((x1.cell 0).toInt),.int .i64 ((x1.cell 1).toInt),.list aa ((x1.cell 2).toList),.int .i64 bB]).bind fun r2=>
  bif Nat.ble ((bm.length+([.agg [.int .i64 ((V.nth r2 0).toInt),.int .i64 ((V.nth (r2.drop 1) 0).toInt),.list aa ((V.nth ((r2.drop 1).drop 1) 0).toList)]]:List V).length)*40) b6 then
  kn (IntKind.wrap .i64 (t30+1),bm++([.agg [.int .i64 ((V.nth r2 0).toInt),.int .i64 ((V.nth (r2.drop 1) 0).toInt),.list aa ((V.nth ((r2.drop 1).drop 1) 0).toList)]]:List V))
  else none
 else
  kr (t30,decide ((t30:Int)<t29),bm)
noncomputable def zw (C:ae) (bB:Int) (t28:List V) (t29 ee ef fF eB:Int) (cv:List V):(Int × (List V))→Option ((Int × (List V)) ⊕ (Int × Bool × (List V))):=un fun t30 bm=>DC C bB t28 t29 ee ef fF eB cv t30 bm (fun y=>some (.inl y)) (fun r=>some (.inr r))
noncomputable def DD (C:ae) (bB:Int) (t58:List V) (t59 dE dr:Int) (cM:List V) (ee ef:Int) (bm:List V) (t60:Int) (zx:List V) {β:Type} (kn:(Int × (List V))→Option β) (kr:(Int × (List V))→Option β):Option β:=
 bif decide ((t60:Int)<t59) then
  (idx t58 t60).bind fun x8=>
  (C o6 [.int .i64 ((x8.cell 0).toInt),.int .i64 ((x8.cell 1).toInt),.list aa ((x8.cell 2).toList),.int .i64 bB]).bind fun r9=>
  bif (decide (0≤(IntKind.wrap .i64 (t60+1))))&&(decide ((IntKind.wrap .i64 (t60+1))≤(cM.length:Int))) then
  bif Nat.ble ((([.agg [.int .i64 ((V.nth r9 0).toInt),.int .i64 ((V.nth (r9.drop 1) 0).toInt),.list aa ((V.nth ((r9.drop 1).drop 1) 0).toList)]]:List V).length+((cM.drop ((IntKind.wrap .i64 (t60+1):Int).toNat)).take (cM.length-((IntKind.wrap .i64 (t60+1):Int).toNat))).length)*40) b6 then
   (C vh [.int .i64 5,.list aa (([.agg [.int .i64 ((V.nth r9 0).toInt),.int .i64 ((V.nth (r9.drop 1) 0).toInt),.list aa ((V.nth ((r9.drop 1).drop 1) 0).toList)]]:List V)++((cM.drop ((IntKind.wrap .i64 (t60+1):Int).toNat)).take (cM.length-((IntKind.wrap .i64 (t60+1):Int).toNat))))]).bind fun dg=>
   bif Nat.ble ((zx.length+([.agg [.int .i64 ((V.nth dg 0).toInt),.int .i64 ((V.nth (dg.drop 1) 0).toInt),.list aa ((V.nth ((dg.drop 1).drop 1) 0).toList)]]:List V).length)*40) b6 then
   (C Bu [.int .i64 ((x8.cell 0).toInt),.int .i64 ((x8.cell 1).toInt),.list aa ((x8.cell 2).toList)]).bind fun dz=>
   bif !((V.nth dz 0).toBool) then
    kr (t60,zx++([.agg [.int .i64 ((V.nth dg 0).toInt),.int .i64 ((V.nth (dg.drop 1) 0).toInt),.list aa ((V.nth ((dg.drop 1).drop 1) 0).toList)]]:List V))
   else
    kn (IntKind.wrap .i64 (t60+1),zx++([.agg [.int .i64 ((V.nth dg 0).toInt),.int .i64 ((V.nth (dg.drop 1) 0).toInt),.list aa ((V.nth ((dg.drop 1).drop 1) 0).toList)]]:List V))
   else none
  else none
  else none
 else
  kr (t60,zx)
noncomputable def wo (C:ae) (bB:Int) (t58:List V) (t59 dE dr:Int) (cM:List V) (ee ef:Int) (bm:List V):(Int × (List V))→Option ((Int × (List V)) ⊕ (Int × (List V))):=un fun t60 zx=>DD C bB t58 t59 dE dr cM ee ef bm t60 zx (fun y=>some (.inl y)) (fun r=>some (.inr r))
noncomputable def X1 (C:ae):ct:=fun β n ds k=>
 bif Nat.beq n 161 then bY LV [false,false,false,true,false,false,false,false,false,true] [[1,2,3,0,0,5,6,7,8,9,0]] (@DC C) ds k else
 bif Nat.beq n 321 then bY LW [false,false,false,true,false,false,false,false,false,true,false] [[1,2,3,0,5,6,7,8,9,0,11]] (@DD C) ds k else
 none
abbrev X2 (C:ae) (b:cq):Prop:=cr Tryz.prog ax C (X1 C) 63 (cH Tryz.prog (ax.aV 63)) (ax.sin 63).bj.length b
theorem akr (C:ae):X2 C (.loop (aw [1,0,1,0,1,1,1,0,1,0,1,0,0] Ip)):=
 b7 LV [false,false,false,true,false,false,false,false,false,true] [[1,2,3,0,0,5,6,7,8,9,0]] (@DC C) (by kernel_rfl) (bf (bs:=[]) (by kernel_rfl) av) (fun ds=>by kernel_rfl) (fun i x=>by kernel_rfl) (fun i x β k=>by kernel_rfl) (fun β ds k=>by kernel_rfl)
theorem aks (C:ae):X2 C (.loop (aw [1,0,1,0,1,1,1,1,1,1,1,0,1,0,1,0,0] Ip)):=
 b7 LW [false,false,false,true,false,false,false,false,false,true,false] [[1,2,3,0,5,6,7,8,9,0,11]] (@DD C) (by kernel_rfl) (bf (bs:=[]) (by kernel_rfl) av) (fun ds=>by kernel_rfl) (fun i x=>by kernel_rfl) (fun i x β k=>by kernel_rfl) (fun β ds k=>by kernel_rfl)
noncomputable def X3 (C:ae) (ah aq:Int) (af:List V) (bB:Int):Option (List V):=
 bif (ah:Int)==3 then
  bif (aq:Int)==bB then
  some [.int .i64 2,.int .i64 0,.list aa ([]:List V)]
  else
  some [.int .i64 1,.int .i64 0,.list aa ([]:List V)]
 else
  bif (ah:Int)==4 then
  bif (ah:Int)==4 then
   (Loop (zw C bB af (af.length:Int) 0 0 ah 0 ([]:List V)) (0,([]:List V))).bind (un fun (jm:Int)=>un fun (gS:Bool) (Oq:List V)=>
    some [.int .i64 ah,.int .i64 0,.list aa Oq])
  else
   bif (ah:Int)==7 then
   (af[0]?).bind fun x6=>
   (C o6 [.int .i64 ((x6.cell 0).toInt),.int .i64 ((x6.cell 1).toInt),.list aa ((x6.cell 2).toList),.int .i64 bB]).bind fun r7=>
   some [.int .i64 5,.int .i64 0,.list aa ([.agg [.int .i64 ((V.nth r7 0).toInt),.int .i64 ((V.nth (r7.drop 1) 0).toInt),.list aa ((V.nth ((r7.drop 1).drop 1) 0).toList)],.agg [.int .i64 ah,.int .i64 aq,.list aa af]]:List V)]
   else
   bif (ah:Int)==5 then
    (Loop (wo C bB af (af.length:Int) ah aq af 0 0 ([]:List V)) (0,([]:List V))).bind (un fun (GS:Int) (akt:List V)=>
     (C vh [.int .i64 4,.list aa akt]).bind fun jY=>
     some [.int .i64 ((V.nth jY 0).toInt),.int .i64 ((V.nth (jY.drop 1) 0).toInt),.list aa ((V.nth ((jY.drop 1).drop 1) 0).toList)])
   else
    some [.int .i64 1,.int .i64 0,.list aa ([]:List V)]
  else
  bif (ah:Int)==6 then
   bif (ah:Int)==6 then
   (Loop (zw C bB af (af.length:Int) 0 0 ah 0 ([]:List V)) (0,([]:List V))).bind (un fun (rK:Int)=>un fun (BU:Bool) (Dg:List V)=>
    some [.int .i64 ah,.int .i64 0,.list aa Dg])
   else
   bif (ah:Int)==7 then
    (af[0]?).bind fun jE=>
    (C o6 [.int .i64 ((jE.cell 0).toInt),.int .i64 ((jE.cell 1).toInt),.list aa ((jE.cell 2).toList),.int .i64 bB]).bind fun dU=>
    some [.int .i64 5,.int .i64 0,.list aa ([.agg [.int .i64 ((V.nth dU 0).toInt),.int .i64 ((V.nth (dU.drop 1) 0).toInt),.list aa ((V.nth ((dU.drop 1).drop 1) 0).toList)],.agg [.int .i64 ah,.int .i64 aq,.list aa af]]:List V)]
   else
    bif (ah:Int)==5 then
    (Loop (wo C bB af (af.length:Int) ah aq af 0 0 ([]:List V)) (0,([]:List V))).bind (un fun (MK:Int) (aku:List V)=>
     (C vh [.int .i64 4,.list aa aku]).bind fun iK=>
     some [.int .i64 ((V.nth iK 0).toInt),.int .i64 ((V.nth (iK.drop 1) 0).toInt),.list aa ((V.nth ((iK.drop 1).drop 1) 0).toList)])
    else
    some [.int .i64 1,.int .i64 0,.list aa ([]:List V)]
  else
   bif (ah:Int)==8 then
   (Loop (zw C bB af (af.length:Int) 0 0 ah 0 ([]:List V)) (0,([]:List V))).bind (un fun (ML:Int)=>un fun (GW:Bool) (Iq:List V)=>
    some [.int .i64 ah,.int .i64 0,.list aa Iq])
   else
   bif (ah:Int)==7 then
    (af[0]?).bind fun oe=>
    (C o6 [.int .i64 ((oe.cell 0).toInt),.int .i64 ((oe.cell 1).toInt),.list aa ((oe.cell 2).toList),.int .i64 bB]).bind fun wm=>
    some [.int .i64 5,.int .i64 0,.list aa ([.agg [.int .i64 ((V.nth wm 0).toInt),.int .i64 ((V.nth (wm.drop 1) 0).toInt),.list aa ((V.nth ((wm.drop 1).drop 1) 0).toList)],.agg [.int .i64 ah,.int .i64 aq,.list aa af]]:List V)]
   else
    bif (ah:Int)==5 then
    (Loop (wo C bB af (af.length:Int) ah aq af 0 0 ([]:List V)) (0,([]:List V))).bind (un fun (acF:Int) (akv:List V)=>
     (C vh [.int .i64 4,.list aa akv]).bind fun qj=>
     some [.int .i64 ((V.nth qj 0).toInt),.int .i64 ((V.nth (qj.drop 1) 0).toInt),.list aa ((V.nth ((qj.drop 1).drop 1) 0).toList)])
    else
    some [.int .i64 1,.int .i64 0,.list aa ([]:List V)]
theorem akw {ah aq:Int} {af:List V} {bB:Int} {r:Option (List V)} (h:X3 CC ah aq af bB=r):CC o6 [.int .i64 ah,.int .i64 aq,.list aa af,.int .i64 bB]=r:=
 aY (key:=63) (L:=X1 CC) (bs:=[.loop (aw [1,0,1,0,1,1,1,0,1,0,1,0,0] Ip),.loop (aw [1,0,1,0,1,1,1,1,1,1,1,0,1,0,1,0,0] Ip)]) (by kernel_rfl) (bx (akr CC) (bx (aks CC) av)) (aW (by kernel_rfl) h)
noncomputable def X4 (C:ae) (ah aq:Int) (af:List V) (bB:Int):Option (List V):=
 (C xN [.int .i64 ah,.int .i64 aq,.list aa af,.int .i64 6]).bind fun r1=>
 bif (((V.nth r1 0).toInt):Int) != 0 then
  some [.int .i64 0,.int .i64 0,.list aa ([]:List V),.int .i64 ((V.nth r1 0).toInt)]
 else
  bif decide ((bB:Int)<0) then
  some [.int .i64 0,.int .i64 0,.list aa ([]:List V),.int .i64 1]
  else
  bif decide ((bB:Int)≥6) then
   some [.int .i64 0,.int .i64 0,.list aa ([]:List V),.int .i64 1]
  else
   (C o6 [.int .i64 ah,.int .i64 aq,.list aa af,.int .i64 bB]).bind fun r2=>
   (C va [.int .i64 ((V.nth r2 0).toInt),.int .i64 ((V.nth (r2.drop 1) 0).toInt),.list aa ((V.nth ((r2.drop 1).drop 1) 0).toList)]).bind fun r3=>
   (C Bo [.int .i64 ((V.nth r3 0).toInt),.int .i64 ((V.nth (r3.drop 1) 0).toInt),.list aa ((V.nth ((r3.drop 1).drop 1) 0).toList)]).bind fun r4=>
   bif !((V.nth r4 0).toBool) then
   some [.int .i64 0,.int .i64 0,.list aa ([]:List V),.int .i64 3]
   else
   some [.int .i64 ((V.nth r3 0).toInt),.int .i64 ((V.nth (r3.drop 1) 0).toInt),.list aa ((V.nth ((r3.drop 1).drop 1) 0).toList),.int .i64 0]
theorem akx {ah aq:Int} {af:List V} {bB:Int} {r:Option (List V)} (h:X4 CC ah aq af bB=r):CC F8 [.int .i64 ah,.int .i64 aq,.list aa af,.int .i64 bB]=r:=
 aY (key:=49) (L:=cd) (bs:=[]) (by kernel_rfl) av (aW (by kernel_rfl) h)
end Go.AM
set_option maxRecDepth 100000
namespace Go.AM
open Go.Proofs Ex
theorem X5 {o:Int} {l:List Ex}:CC vh [.int .i64 o,.list aa (l.map enc)]=some (eH (oneOf o l)):=by
 refine akq ?_
 unfold X0
 match l with
 | []=>exact bF rfl rfl
 | [k]=>
  refine bT rfl (bs (a:=k.enc) rfl ?_)
  rw[aU,aZ,aX];rfl
 | k::k2::l=>
  refine bF ?_ rfl
  simp only[cJ,List.length_cons]
  rw[pC];omega
section
variable {c:Int} {ks:List Ex} (hn:ks.length≤1000) (ih: ∀k∈ks,CC o6 (bQ k [.int .i64 c])=some (eH (bO c k)))
include hn ih
theorem OC {a b x y:Int} {l:List V}: ∀(ay pre:List Ex),ks=pre++ay→
  Loop (zw CC c (ks.map enc) (ks.length:Int) a b x y l) (((pre.length:Nat):Int),(pre.map (bO c)).map enc)=some ((ks.length:Int),false,(ks.map (bO c)).map enc):=by
 intro ay
 induction ay with
 | nil=>
  intro pre e
  rw[c9] at e
  subst e
  refine aS ?_
  simp only[zw,DC,un]
  rw[az,ai (by omega),bz (by omega)]
 | cons k ay ec=>
  intro pre e
  have bS:pre.length<ks.length:=by rw[e];simp
  have bM:idx (ks.map enc) (pre.length:Int)=some k.enc:=by rw[e];exact gB _ _ _
  refine (bJ ?_).trans (ec (pre++[k]) (by simp[e]))
  simp only[zw,DC,un]
  refine bT (kf bS) (bs bM ?_)
  rw[aU,aZ,aX]
  refine bs (ih k (by rw[e];simp)) ?_
  refine bT (ze (by simp;omega)) ?_
  rw[kZ (by omega)]
  simp only[eD,cJ,fT,b9,List.length_cons,List.length_nil]
  rw[dx (bO c k)]
  rfl
theorem aky {a b x y:Int} {l:List V} (hw: ∀k∈ks,k.Ok): ∀(ay pre S:List Ex),ks=pre++ay→S.length≤pre.length→
  ∃i,Loop (wo CC c (ks.map enc) (ks.length:Int) a b (ks.map enc) x y l) (((pre.length:Nat):Int),S.map enc)=some (i,(S++im c ay).map enc):=by
 intro ay
 induction ay with
 | nil=>
  intro pre S e hS
  rw[c9] at e
  subst e
  refine ⟨((ks.length:Nat):Int),aS ?_⟩
  simp only[wo,DD,un]
  rw[az,ai (by omega),im,c9]
 | cons k ay ec=>
  intro pre S e hS
  have bS:pre.length<ks.length:=by rw[e];simp
  have hm:k∈ks:=by rw[e];simp
  have bM:idx (ks.map enc) (pre.length:Int)=some k.enc:=by rw[e];exact gB _ _ _
  have cT: ∀{β:Type} (r:Option β) (K:V→Option β),K=K→True:=fun _ _ _=>trivial
  have hd:((ks.map enc).drop (pre.length+1)).take ((ks.map enc).length-(pre.length+1))=ay.map enc:=by
   rw[zU (by simp),←List.map_drop,e,show pre.length+1=(pre++[k]).length by simp,show pre++k::ay=(pre++[k])++ay by simp,List.drop_left]
  have main:wo CC c (ks.map enc) (ks.length:Int) a b (ks.map enc) x y l (((pre.length:Nat):Int),S.map enc)=some (if k.cZ=true then .inl ((((pre++[k]).length:Nat):Int),(S++[oneOf 5 (bO c k::ay)]).map enc) else .inr (((pre.length:Nat):Int),(S++[oneOf 5 (bO c k::ay)]).map enc)):=by
   simp only[wo,DD,un]
   refine bT (kf bS) (bs bM ?_)
   rw[aU,aZ,aX]
   refine bs (ih k hm) ?_
   rw[kZ (by omega),Int.toNat_natCast,hd]
   refine bT (tZ.2 ⟨cx (by omega),cx (by rw[aJ];omega)⟩) ?_
   have pT:ay.length≤1000:=by rw[e] at hn;simp at hn;omega
   refine bT (ze (by simp;omega)) ?_
   have hj:=X5 (o:=5) (l:=bO c k::ay)
   rw[cJ,dx (bO c k)] at hj
   refine bs hj ?_
   refine bT (ze (by simp;omega)) ?_
   refine bs (aj0 k (hw k hm)) ?_
   have hr:S.map enc++[(oneOf 5 (bO c k::ay)).enc]=(S++[oneOf 5 (bO c k::ay)]).map enc:=by simp
   rw[dx] at hr
   cases hk:k.cZ with
   | true=>
    refine bF (by simp[hk]) ?_
    rw[aj rfl,←hr,b9]
    rfl
   | false=>
    refine bT (by simp[hk]) ?_
    rw[ai DV,←hr]
    rfl
  cases hk:k.cZ with
  | true=>
   rw[hk,aj rfl] at main
   obtain ⟨i,hi⟩:=ec (pre++[k]) (S++[oneOf 5 (bO c k::ay)]) (by simp[e]) (by simp;omega)
   refine ⟨i,(bJ main).trans (hi.trans ?_)⟩
   rw[zg,aj hk,cF];rfl
  | false=>
   rw[hk,ai DV] at main
   refine ⟨((pre.length:Nat):Int),(aS main).trans ?_⟩
   rw[zg,ai (by rw[hk];exact DV)]
end
theorem akz {c:Int}: ∀e:Ex,e.wf 6=true→e.size≤400→CC o6 (bQ e [.int .i64 c])=some (eH (bO c e)):=
 ind fun o l ks ih hw hs=>by
  obtain ⟨h1,U⟩:=gT hw
  have hl:=kU ks
  have HM:aN ks≤399:=by simp only[size] at hs;omega
  have v8: ∀k∈ks,k.size≤399:=fun k hk=>lK (te hk) HM
  have hX: ∀k∈ks,CC o6 (bQ k [.int .i64 c])=some (eH (bO c k)):=fun k hk=>ih k hk (U k hk) (by have:=v8 k hk;omega)
  have au: ∀k∈ks,k.Ok:=fun k hk=>mZ (by omega) k (U k hk) (by have:=v8 k hk;omega)
  refine akw ?_
  unfold X3
  simp only[Ex.op,Ex.kids,Ex.bB,aJ]
  rcases eK h1 with ⟨rfl,h⟩|⟨rfl,⟨rfl,h⟩|⟨rfl,h⟩|⟨rfl,h⟩|⟨rfl,h⟩|⟨rfl,h⟩|⟨rfl,h⟩|⟨rfl,h⟩⟩
  ·refine bT rfl ?_
   rw[ot,aj rfl,dq]
   by_cases oY:l=c
   ·rw[aj oY,aj oY];rfl
   ·rw[ai oY,ai oY];rfl
  ·rfl
  ·rfl
  ·refine bF rfl (bT rfl (bT rfl ?_))
   refine bs (OC (by omega) hX ks [] rfl) ?_
   rw[ot];rfl
  ·refine bF rfl (bF rfl (bF rfl (bF rfl (bF rfl (bT rfl ?_)))))
   obtain ⟨i,hi⟩:=aky (a:=5) (b:=0) (x:=0) (y:=0) (l:=[]) (by omega) hX au ks [] [] rfl (cg _)
   refine bs hi ?_
   rw[ot]
   refine bs X5 ?_
   rfl
  ·refine bF rfl (bF rfl (bT rfl (bT rfl ?_)))
   refine bs (OC (by omega) hX ks [] rfl) ?_
   rw[ot];rfl
  ·obtain ⟨k,rfl⟩:=wB.1 (show ks.length=1 by omega)
   refine bF rfl (bF rfl (bF rfl (bF rfl (bT rfl (bs (a:=k.enc) rfl ?_)))))
   rw[aU,aZ,aX]
   refine bs (hX k (by simp)) ?_
   have hr:eH (bO c (.node 7 0 [k]))=[.int .i64 5,.int .i64 0,.list aa [(bO c k).enc,(Ex.node 7 0 [k]).enc]]:=by rw[ot];rfl
   rw[hr,dx (bO c k),dx (.node 7 0 [k])]
   rfl
  ·refine bF rfl (bF rfl (bF rfl (bT rfl ?_)))
   refine bs (OC (by omega) hX ks [] rfl) ?_
   rw[ot];rfl
theorem X6 {e:Ex} (h:e.wf 6=true):e.val 6=0↔e.depth≤40∧e.size≤400:=by
 constructor
 ·intro hv;have:=jX hv;exact ⟨this.1,this.2.1⟩
 ·intro hv;exact val_mk ⟨by omega,hv.1,hv.2,h⟩
theorem akA (e:Ex) (h:e.Ok) (c:Int):CC F8 (bQ e [.int .i64 c])=some (N6 (N7 e c)):=by
 refine akx ?_
 unfold X4 N7
 refine bs (MN e h 6) ?_
 by_cases hv:e.val 6=0
 ·obtain ⟨_,U,h3⟩:=jX hv
  rw[aj hv]
  refine bF (by simp[hv]) ?_
  by_cases h0:0≤c
  ·refine bF (bz (by omega)) ?_
   by_cases h6:c<6
   ·rw[aj ⟨h0,h6⟩]
    refine bF (bz (by omega)) ?_
    refine bs (akz (c:=c) e h3 U) ?_
    have hz:=NP (c:=c) e 6 h3
    have hq:=CR U
    obtain ⟨g1,g2,g3⟩:=Wp (c:=c) hv
    refine bs (XZ (n:=6) (by omega) (bO c e) (tB e h3) (by omega)) ?_
    refine bs (Tt _ g2) ?_
    unfold qo
    by_cases hw:(aI (bO c e)).val 6=0
    ·rw[aj hw]
     refine bF ?_ rfl
     have:=(X6 g1.2).1 hw
     simp[this]
    ·rw[ai hw]
     refine bT ?_ rfl
     have: ¬_:=fun h=>hw ((X6 g1.2).2 h)
     rw[V.aM,V.dj,bz this]
     rfl
   ·rw[ai fun h=>h6 h.2]
    exact bT (cx (by omega)) rfl
  ·rw[ai fun h=>h0 h.1]
   exact bT (cx (by omega)) rfl
 ·rw[ai hv]
  refine bT (by simp[hv]) rfl
end Go.AM
set_option maxRecDepth 100000
namespace Go.AM
open Go.Proofs
noncomputable def X7 (C:ae) (ah aq:Int) (af:List V) (letters:Int):Option (List V):=
 (C xN [.int .i64 ah,.int .i64 aq,.list aa af,.int .i64 letters]).bind fun r1=>
 bif (((V.nth r1 0).toInt):Int) != 0 then
  some [.int .i64 0,.int .i64 0,.int .i64 ((V.nth r1 0).toInt),.list aa ([]:List V),.list ba ([]:List V)]
 else
  (C va [.int .i64 ah,.int .i64 aq,.list aa af]).bind fun r2=>
  some [.int .i64 letters,.int .i64 0,.int .i64 0,.list aa ([.agg [.int .i64 ((V.nth r2 0).toInt),.int .i64 ((V.nth (r2.drop 1) 0).toInt),.list aa ((V.nth ((r2.drop 1).drop 1) 0).toList)]]:List V),.list ba ([]:List V)]
theorem akB {ah aq:Int} {af:List V} {letters:Int} {r:Option (List V)} (h:X7 CC ah aq af letters=r):CC Bm [.int .i64 ah,.int .i64 aq,.list aa af,.int .i64 letters]=r:=
 aY (key:=8) (L:=cd) (bs:=[]) (by kernel_rfl) av (aW (by kernel_rfl) h)
noncomputable abbrev qt:Code:=cE Tryz.prog (ax.aV 30)
noncomputable def DE (C:ae) (dA x t61 ee ef fF eB:Int) (rows:List V) (dE dr:Int) (cM dm b8 cP pn:List V) (zy t62:Int) {β:Type} (kn:(Int × Int)→Option β) (kr:(Int × Int × Bool)→Option β):Option β:=
 bif decide ((t62:Int)<t61) then
  bif (decide (0≤t62))&&(decide (t62<(cP.length:Int))) then
  (cP[(t62:Int).toNat]?).bind fun x3=>
  (C rF [.int .i64 ((x3.cell 0).toInt),.int .i64 ((x3.cell 1).toInt),.list aa ((x3.cell 2).toList),.int .i64 dE,.int .i64 dr,.list aa cM]).bind fun r4=>
  bif (((V.nth r4 0).toInt):Int)==0 then
   kn (t62,IntKind.wrap .i64 (t62+1))
  else
   kn (zy,IntKind.wrap .i64 (t62+1))
  else none
 else
  kr (zy,t62,decide ((t62:Int)<t61))
noncomputable def Ir (C:ae) (dA x t61 ee ef fF eB:Int) (rows:List V) (dE dr:Int) (cM dm b8 cP pn:List V):(Int × Int)→Option ((Int × Int) ⊕ (Int × Int × Bool)):=un fun zy t62=>DE C dA x t61 ee ef fF eB rows dE dr cM dm b8 cP pn zy t62 (fun y=>some (.inl y)) (fun r=>some (.inr r))
noncomputable def zz (C:ae) (dA x zy:Int) (t76:Bool) (ee ef fF eB:Int) (rows:List V) (dE dr:Int) (cM dm b8 cP pn:List V) {β:Type} (kr:((Int × Int × Int × (List V) × (List V)) ⊕ (Int × (List V)))→Option β):Option β:=
 bif t76 then
  bif ((cP.length:Int):Int)==512 then
  kr (.inl (3,0,0,([]:List V),([]:List V)))
  else
  bif Nat.ble ((cP.length+([.agg [.int .i64 dE,.int .i64 dr,.list aa cM]]:List V).length)*40) b6 then
   kr (.inr ((cP.length:Int),cP++([.agg [.int .i64 dE,.int .i64 dr,.list aa cM]]:List V)))
  else none
 else
  kr (.inr (zy,cP))
noncomputable def tR (C:ae) (dA ee ef fF eB:Int) (bm dm cP:List V) (x:Int) (rows b8:List V) {β:Type} (kn:(Int × (List V) × (List V))→Option β) (kr:((Int × Int × Int × (List V) × (List V)) ⊕ (Int × Bool × (List V) × (List V)))→Option β):Option β:=
 bif decide ((x:Int)<fF) then
  bif (decide (0≤eB))&&(decide (eB<(b8.length:Int))) then
  (b8[(eB:Int).toNat]?).bind fun x1=>
  (C F8 [.int .i64 ((x1.cell 0).toInt),.int .i64 ((x1.cell 1).toInt),.list aa ((x1.cell 2).toList),.int .i64 x]).bind fun r2=>
  bif (((V.nth (r2.drop 3) 0).toInt):Int) != 0 then
   kr (.inl ((V.nth (r2.drop 3) 0).toInt,0,0,([]:List V),([]:List V)))
  else
   (Loop (Ir C dA x (b8.length:Int) ee ef fF eB rows ((V.nth r2 0).toInt) ((V.nth (r2.drop 1) 0).toInt) ((V.nth ((r2.drop 1).drop 1) 0).toList) bm dm b8 cP) ((-1),0)).bind (un fun (X8:Int)=>un fun (kS:Int) (pb:Bool)=>
    zz C dA x X8 (decide ((X8:Int)<0)) ee ef fF eB rows ((V.nth r2 0).toInt) ((V.nth (r2.drop 1) 0).toInt) ((V.nth ((r2.drop 1).drop 1) 0).toList) bm dm b8 cP (bV (un fun (GQ:Int)=>un fun (akC:Int)=>un fun (akD:Int)=>un fun (r0:List V) (wa:List V)=>
     kr (.inl (GQ,akC,akD,r0,wa))) (un fun (X9:Int) (pq:List V)=>
     bif Nat.ble ((rows.length+([.int .i64 X9]:List V).length)*8) b6 then
     kn (IntKind.wrap .i64 (x+1),rows++([.int .i64 X9]:List V),pq)
     else none)))
  else none
 else
  kr (.inr (x,decide ((x:Int)<fF),rows,b8))
noncomputable def qu (C:ae) (dA ee ef fF eB:Int) (bm dm cP:List V):(Int × (List V) × (List V))→Option ((Int × (List V) × (List V)) ⊕ ((Int × Int × Int × (List V) × (List V)) ⊕ (Int × Bool × (List V) × (List V)))):=un fun x=>un fun rows b8=>tR C dA ee ef fF eB bm dm cP x rows b8 (fun y=>some (.inl y)) (fun r=>some (.inr r))
noncomputable def tS (C:ae) (ee ef fF:Int) (cv bm:List V) (dA eB:Int) (dm b8:List V) {β:Type} (kn:(Int × Int × (List V) × (List V))→Option β) (kr:((Int × Int × Int × (List V) × (List V)) ⊕ (Int × Bool × Int × (List V) × (List V)))→Option β):Option β:=
 bif decide ((dA:Int)>0) then
  bif decide ((eB:Int)<(dm.length:Int)) then
  (Loop (qu C dA ee ef fF eB cv bm b8) (0,([]:List V),dm)).bind (bV (un fun (rK:Int)=>un fun (akE:Int)=>un fun (akF:Int)=>un fun (akG:List V) (Di:List V)=>
   kr (.inl (rK,akE,akF,akG,Di))) (un fun (amW:Int)=>un fun (BV:Bool)=>un fun (Ya:List V) (Is:List V)=>
   bif Nat.ble ((b8.length+([.list gA Ya]:List V).length)*24) b6 then
    kn (IntKind.wrap .i64 (dA-1),IntKind.wrap .i64 (eB+1),Is,b8++([.list gA Ya]:List V))
   else none))
  else
  kr (.inr (dA,decide ((eB:Int)<(dm.length:Int)),eB,dm,b8))
 else
  kr (.inr (dA,false,eB,dm,b8))
noncomputable def sc (C:ae) (ee ef fF:Int) (cv bm:List V):(Int × Int × (List V) × (List V))→Option ((Int × Int × (List V) × (List V)) ⊕ ((Int × Int × Int × (List V) × (List V)) ⊕ (Int × Bool × Int × (List V) × (List V)))):=un fun dA=>un fun eB=>un fun dm b8=>tS C ee ef fF cv bm dA eB dm b8 (fun y=>some (.inl y)) (fun r=>some (.inr r))
noncomputable def Yb (C:ae):ct:=fun β n ds k=>
 bif Nat.beq n 209 then bY Ls [false,false,true,false,true,false,false,false,false,false,false,false,false,false,false,false,false] [[1,2,0,4,0,0,6,7,8,9,10,11,12,13,14,15,16,17]] (@DE C) ds k else
 bif Nat.beq n 1231 then iI Lt [[0,0,0,0,0],[1,2,0,5,6,7,8,9,13,14,0,16]] (@zz C) ds k else
 bif Nat.beq n 97 then bY Lu [false,true,false,false,false,false,true,false,false,true,false] [[0,0,0,0,0],[1,0,0,3,4,5,6,0,8,9,0,11]] (@tR C) ds k else
 bif Nat.beq n 33 then bY Lv [true,false,false,false,true,false,false,true,true] [[0,0,0,0,0],[0,0,2,3,4,0,6,7,0,0]] (@tS C) ds k else
 none
abbrev It (C:ae) (b:cq):Prop:=cr Tryz.prog ax C (Yb C) 30 (cH Tryz.prog (ax.aV 30)) (ax.sin 30).bj.length b
theorem akH (C:ae):It C (.loop (aw [1,1,0,0,0,1,0,0,1,0,1,0,0,1,0,0,1,1,1,0,1,0,0] qt)):=
 b7 Ls [false,false,true,false,true,false,false,false,false,false,false,false,false,false,false,false,false] [[1,2,0,4,0,0,6,7,8,9,10,11,12,13,14,15,16,17]] (@DE C) (by kernel_rfl) (bf (bs:=[]) (by kernel_rfl) av) (fun ds=>by kernel_rfl) (fun i x=>by kernel_rfl) (fun i x β k=>by kernel_rfl) (fun β ds k=>by kernel_rfl)
theorem akI (C:ae):It C (.cond 76 (aw [1,1,0,0,0,1,0,0,1,0,1,0,0,1,0,0,1,1,1,1,0,1,0] qt) (aw [1,1,0,0,0,1,0,0,1,0,1,0,0,1,0,0,1,1,1,1,0,1,1] qt)):=
 jl Lt [[0,0,0,0,0],[1,2,0,5,6,7,8,9,13,14,0,16]] (@zz C) (by kernel_rfl) (bf (bs:=[]) (by kernel_rfl) av) (bf (bs:=[]) (by kernel_rfl) av) (fun ds=>by kernel_rfl) (fun i β k=>by kernel_rfl) (fun β ds k=>by kernel_rfl)
theorem akJ (C:ae):It C (.loop (aw [1,1,0,0,0,1,0,0,1,0,1,0,0] qt)):=
 b7 Lu [false,true,false,false,false,false,true,false,false,true,false] [[0,0,0,0,0],[1,0,0,3,4,5,6,0,8,9,0,11]] (@tR C) (by kernel_rfl) (bf (bs:=[.loop (aw [1,1,0,0,0,1,0,0,1,0,1,0,0,1,0,0,1,1,1,0,1,0,0] qt),.cond 76 (aw [1,1,0,0,0,1,0,0,1,0,1,0,0,1,0,0,1,1,1,1,0,1,0] qt) (aw [1,1,0,0,0,1,0,0,1,0,1,0,0,1,0,0,1,1,1,1,0,1,1] qt)]) (by kernel_rfl) (bx (akH C) (bx (akI C) av))) (fun ds=>by kernel_rfl) (fun i x=>by kernel_rfl) (fun i x β k=>by kernel_rfl) (fun β ds k=>by kernel_rfl)
theorem akK (C:ae):It C (.loop (aw [1,1,0,0,0] qt)):=
 b7 Lv [true,false,false,false,true,false,false,true,true] [[0,0,0,0,0],[0,0,2,3,4,0,6,7,0,0]] (@tS C) (by kernel_rfl) (bf (bs:=[.loop (aw [1,1,0,0,0,1,0,0,1,0,1,0,0] qt)]) (by kernel_rfl) (bx (akJ C) av)) (fun ds=>by kernel_rfl) (fun i x=>by kernel_rfl) (fun i x β k=>by kernel_rfl) (fun β ds k=>by kernel_rfl)
noncomputable def Yc (C:ae) (bC:Int) (bt cD:List V) (cB dA:Int):Option (List V):=
 bif Nat.ble ((([]:List V).length+bt.length)*40) b6 then
  bif Nat.ble ((([]:List V).length+cD.length)*24) b6 then
  (Loop (sc C 0 0 bC ([]:List V) ([]:List V)) (dA,cB,([]:List V)++bt,([]:List V)++cD)).bind (bV (un fun (GW:Int)=>un fun (akL:Int)=>un fun (akM:Int)=>un fun (akN:List V) (akO:List V)=>
   some [.int .i64 akL,.int .i64 akM,.int .i64 GW,.list aa akN,.list ba akO]) (un fun (amX:Int)=>un fun (GX:Bool)=>un fun (zu:Int)=>un fun (akP:List V) (akQ:List V)=>
   some [.int .i64 bC,.int .i64 zu,.int .i64 0,.list aa akP,.list ba akQ]))
  else none
 else none
theorem akR {bC:Int} {bt cD:List V} {cB dA:Int} {r:Option (List V)} (h:Yc CC bC bt cD cB dA=r):CC Bn [.int .i64 bC,.list aa bt,.list ba cD,.int .i64 cB,.int .i64 dA]=r:=
 aY (key:=30) (L:=Yb CC) (bs:=[.loop (aw [1,1,0,0,0] qt)]) (by kernel_rfl) (bx (akK CC) av) (aW (by kernel_rfl) h)
noncomputable abbrev zA:Code:=cE Tryz.prog (ax.aV 9)
noncomputable def DF (C:ae) (t40 ox:Int) (ni kj:List V) (sd oy:Int) (nj km:List V) (se t41:Int) {β:Type} (kn:Int→Option β) (kr:((Bool) ⊕ (Int × Bool))→Option β):Option β:=
 bif decide ((t41:Int)<t40) then
  (idx ni t41).bind fun x1=>
  (idx nj t41).bind fun x2=>
  (C rF [.int .i64 ((x1.cell 0).toInt),.int .i64 ((x1.cell 1).toInt),.list aa ((x1.cell 2).toList),.int .i64 ((x2.cell 0).toInt),.int .i64 ((x2.cell 1).toInt),.list aa ((x2.cell 2).toList)]).bind fun r3=>
  bif (((V.nth r3 0).toInt):Int) != 0 then
  kr (.inl false)
  else
  kn (IntKind.wrap .i64 (t41+1))
 else
  kr (.inr (t41,decide ((t41:Int)<t40)))
noncomputable def DG (C:ae) (t40 ox:Int) (ni kj:List V) (sd oy:Int) (nj km:List V) (se:Int):(Int)→Option ((Int) ⊕ ((Bool) ⊕ (Int × Bool))):=fun t41=>DF C t40 ox ni kj sd oy nj km se t41 (fun y=>some (.inl y)) (fun r=>some (.inr r))
noncomputable def DH (C:ae) (i t59 t60 t81 ox:Int) (ni kj:List V) (sd oy:Int) (nj km:List V) (se t82:Int) {β:Type} (kn:Int→Option β) (kr:((Bool) ⊕ (Int × Bool))→Option β):Option β:=
 bif decide ((t82:Int)<t81) then
  (idx kj i).bind fun mj=>
  (idx mj.toList t82).bind fun eY=>
  (idx km i).bind fun lC=>
  (idx lC.toList t82).bind fun jq=>
  bif (eY.toInt:Int) != jq.toInt then
  kr (.inl false)
  else
  kn (IntKind.wrap .i64 (t82+1))
 else
  kr (.inr (t82,decide ((t82:Int)<t81)))
noncomputable def DI (C:ae) (i t59 t60 t81 ox:Int) (ni kj:List V) (sd oy:Int) (nj km:List V) (se:Int):(Int)→Option ((Int) ⊕ ((Bool) ⊕ (Int × Bool))):=fun t82=>DH C i t59 t60 t81 ox ni kj sd oy nj km se t82 (fun y=>some (.inl y)) (fun r=>some (.inr r))
noncomputable def DJ (C:ae) (t59 ox:Int) (ni kj:List V) (sd oy:Int) (nj km:List V) (se t60:Int) {β:Type} (kn:Int→Option β) (kr:((Bool) ⊕ (Int × Bool))→Option β):Option β:=
 bif decide ((t60:Int)<t59) then
  (idx kj t60).bind fun x7=>
  (idx km t60).bind fun x8=>
  bif ((x7.toList.length:Int):Int) != (x8.toList.length:Int) then
  kr (.inl false)
  else
  (idx kj t60).bind fun x9=>
  (Loop (DI C t60 t59 t60 (x9.toList.length:Int) ox ni kj sd oy nj km se) 0).bind (bV (fun (qe:Bool)=>
   kr (.inl qe)) (un fun (rK:Int) (BU:Bool)=>
   kn (IntKind.wrap .i64 (t60+1))))
 else
  kr (.inr (t60,decide ((t60:Int)<t59)))
noncomputable def DK (C:ae) (t59 ox:Int) (ni kj:List V) (sd oy:Int) (nj km:List V) (se:Int):(Int)→Option ((Int) ⊕ ((Bool) ⊕ (Int × Bool))):=fun t60=>DJ C t59 ox ni kj sd oy nj km se t60 (fun y=>some (.inl y)) (fun r=>some (.inr r))
noncomputable def Yd (C:ae):ct:=fun β n ds k=>
 bif Nat.beq n 65 then bY Lg [false,true,false,false,false,false,false,false,false,false] [[0],[1,0,0,3,4,5,6,7,8,9,10]] (@DF C) ds k else
 bif Nat.beq n 241 then bY Lh [false,false,false,false,true,false,false,false,false,false,false,false,false] [[0],[1,2,3,4,0,0,6,7,8,9,10,11,12,13]] (@DH C) ds k else
 bif Nat.beq n 161 then bY Li [false,true,false,false,false,false,false,false,false,false] [[0],[1,0,0,3,4,5,6,7,8,9,10]] (@DJ C) ds k else
 none
abbrev OD (C:ae) (b:cq):Prop:=cr Tryz.prog ax C (Yd C) 9 (cH Tryz.prog (ax.aV 9)) (ax.sin 9).bj.length b
theorem akS (C:ae):OD C (.loop (aw [1,1,0,1,0,0] zA)):=
 b7 Lg [false,true,false,false,false,false,false,false,false,false] [[0],[1,0,0,3,4,5,6,7,8,9,10]] (@DF C) (by kernel_rfl) (bf (bs:=[]) (by kernel_rfl) av) (fun ds=>by kernel_rfl) (fun i x=>by kernel_rfl) (fun i x β k=>by kernel_rfl) (fun β ds k=>by kernel_rfl)
theorem akT (C:ae):OD C (.loop (aw [1,1,1,0,1,0,0,1,1,0,0,1,1,1,0,0] zA)):=
 b7 Lh [false,false,false,false,true,false,false,false,false,false,false,false,false] [[0],[1,2,3,4,0,0,6,7,8,9,10,11,12,13]] (@DH C) (by kernel_rfl) (bf (bs:=[]) (by kernel_rfl) av) (fun ds=>by kernel_rfl) (fun i x=>by kernel_rfl) (fun i x β k=>by kernel_rfl) (fun β ds k=>by kernel_rfl)
theorem akU (C:ae):OD C (.loop (aw [1,1,1,0,1,0,0] zA)):=
 b7 Li [false,true,false,false,false,false,false,false,false,false] [[0],[1,0,0,3,4,5,6,7,8,9,10]] (@DJ C) (by kernel_rfl) (bf (bs:=[.loop (aw [1,1,1,0,1,0,0,1,1,0,0,1,1,1,0,0] zA)]) (by kernel_rfl) (bx (akT C) av)) (fun ds=>by kernel_rfl) (fun i x=>by kernel_rfl) (fun i x β k=>by kernel_rfl) (fun β ds k=>by kernel_rfl)
noncomputable def Ye (C:ae) (eT:Int) (eJ eU:List V) (zB eV:Int) (eW fb:List V) (zC:Int):Option (List V):=
 bif (eT:Int) != eV then
  some [.bool false]
 else
  bif (zB:Int) != zC then
  some [.bool false]
  else
  bif ((eJ.length:Int):Int) != (eW.length:Int) then
   some [.bool false]
  else
   bif ((eU.length:Int):Int) != (fb.length:Int) then
   some [.bool false]
   else
   (Loop (DG C (eJ.length:Int) eT eJ eU zB eV eW fb zC) 0).bind (bV (fun (gS:Bool)=>
    some [.bool gS]) (un fun (mg:Int) (kS:Bool)=>
    (Loop (DK C (eU.length:Int) eT eJ eU zB eV eW fb zC) 0).bind (bV (fun (GU:Bool)=>
     some [.bool GU]) (un fun (MJ:Int) (acD:Bool)=>
     some [.bool true]))))
theorem akV {eT:Int} {eJ eU:List V} {zB eV:Int} {eW fb:List V} {zC:Int} {r:Option (List V)} (h:Ye CC eT eJ eU zB eV eW fb zC=r):CC xL [.int .i64 eT,.list aa eJ,.list ba eU,.int .i64 zB,.int .i64 eV,.list aa eW,.list ba fb,.int .i64 zC]=r:=
 aY (key:=9) (L:=Yd CC) (bs:=[.loop (aw [1,1,0,1,0,0] zA),.loop (aw [1,1,1,0,1,0,0] zA)]) (by kernel_rfl) (bx (akS CC) (bx (akU CC) av)) (aW (by kernel_rfl) h)
end Go.AM
set_option maxRecDepth 100000
namespace Go.AM
open Go.Proofs Ex
theorem Yf {e:Ex} (h:e.Ok) (L:Int):CC Bm (bQ e [.int .i64 L])=some (wi (sb e L)):=by
 refine akB ?_
 unfold X7 sb
 refine bs (MN e h L) ?_
 by_cases hv:e.val L=0
 ·rw[aj hv]
  refine bF (by rw[V.aM,V.toInt_int,hv];rfl) ?_
  obtain ⟨_,U,h3⟩:=jX (tF hv)
  refine bs (XZ (n:=6) (by omega) e h3 (by omega)) ?_
  unfold wi fD
  simp only[cJ,fT]
  rw[dx (aI e)]
  rfl
 ·rw[ai hv]
  refine bT ?_ rfl
  rw[V.aM,V.toInt_int,kq];exact hv
def qv (d:Ex) (es:List Ex):Int:=if d∈es then (es.idxOf d:Int) else-1
theorem akW {d k:Ex} {es:List Ex} (h:(es++[k]).Nodup):qv d (es++[k])=if k=d then (es.length:Int) else qv d es:=by
 have hn:k∉es:=by
  rw[wA] at h
  exact fun hk=>h.2.2 k hk k (by simp) rfl
 unfold qv
 by_cases he:k=d
 ·subst he
  rw[aj (by simp),aj rfl,List.idxOf_append,ai hn]
  simp
 ·rw[ai he]
  by_cases hm:d∈es
  ·rw[aj (by simp[hm]),aj hm,List.idxOf_append,aj hm]
  ·rw[ai hm,ai]
   simp[hm,Ne.symm he]
theorem akX {es:List Ex} {d:Ex} (hn:es.length≤1000) (ho: ∀e∈es,e.Ok) (hd:d.Ok) (jg:es.Nodup) {a1 a2 a3 a4 a5 a6:Int} {l1 l2 l3 l4:List V}: ∀(ay pre:List Ex),es=pre++ay→
  Loop (Ir CC a1 a2 (es.length:Int) a3 a4 a5 a6 l1 d.op d.bB (d.kids.map enc) l2 l3 (es.map enc) l4) (qv d pre,((pre.length:Nat):Int))=some (qv d es,(es.length:Int),false):=by
 intro ay
 induction ay with
 | nil=>
  intro pre e
  rw[c9] at e
  subst e
  refine aS ?_
  simp only[Ir,DE,un]
  rw[az,ai (by omega),bz (by omega)]
 | cons k ay ec=>
  intro pre e
  have bS:pre.length<es.length:=by rw[e];simp
  have hk:k∈es:=by rw[e];simp
  have bM:(es.map enc)[pre.length]? =some k.enc:=by rw[e];simp
  have hs:qv d (pre++[k])=if k=d then (pre.length:Int) else qv d pre:=akW (by
   rw[e,show pre++k::ay=(pre++[k])++ay by simp,wA] at jg
   exact jg.1)
  refine (bJ ?_).trans (ec (pre++[k]) (by simp[e]))
  simp only[Ir,DE,un]
  refine bT (kf bS) ((nf bM).trans ?_)
  rw[aU,aZ,aX]
  refine bs (Ih k (ho k hk) d hd) ?_
  rw[V.aM,V.toInt_int,kZ (by omega),dq,hs,b9]
  by_cases he:k=d
  ·rw[aj (tk.2 he),aj he];rfl
  ·rw[ai (fun h=>he (tk.1 h)),ai he];rfl
theorem OE {L dn:Int} {e:Ex} {k:Nat} (hk:dn=(k:Int)) (Yg:L≤6) (he:Nv e) {bud a1 a2:Int} {l1 l2 l3:List V}: ∀(n x:Nat) (es:List Ex) (row:List Int),L=((x+n:Nat):Int)→Es es→k<es.length→es.getD k aG=e→row.length=x→
  (∀p,kg e n x es row=some p→Loop (qu CC bud a1 a2 L dn l1 l2 l3) (((x:Nat):Int),row.map (fun n=>V.int .i64 n),es.map enc)=some (.inr (L,false,p.2.map (fun n=>V.int .i64 n),p.1.map enc)))
  ∧(kg e n x es row=none→Loop (qu CC bud a1 a2 L dn l1 l2 l3) (((x:Nat):Int),row.map (fun n=>V.int .i64 n),es.map enc)=some (.inl (3,0,0,[],[])))
 | 0,x,es,row,hL,jB,fv,nK,hr=>by
  refine ⟨fun p hp=> ?_,fun hp=>by simp[kg] at hp⟩
  cases hp
  refine aS ?_
  simp only[qu,tR,un]
  rw[az,ai (by omega),bz (by omega),show L=((x:Nat):Int) by omega]
 | n+1,x,es,row,hL,jB,fv,nK,hr=>by
  subst hk
  have aO:decide ((x:Int)<L)=true:=cx (by omega)
  have bM:(es.map enc)[k]? =some e.enc:=by
   rw[fI,bG fv,←nK,fU,bG fv];rfl
  have hb:=akA e (mZ (by omega) e he.1.2 (by have:=jX he.2;omega)) (x:Int)
  have Om:qo (aI (bO x e))=match ou e x with|some d=>(d,0)|none=>(aG,3):=by
   unfold qo ou;split<;>rfl
  unfold N7 at hb
  rw[aj he.2,aj (by omega),Om] at hb
  have hle:=jB.le
  have au: ∀{x:Ex},Nv x→x.Ok:=fun {x} h=>mZ (by omega) x h.1.2 (by have:=jX h.2;omega)
  rw[kg]
  cases bX:ou e x with
  | none=>
   rw[bX] at hb
   refine ⟨fun p hp=>(by cases hp),fun _=>aS ?_⟩
   simp only[qu,tR,un]
   refine bT aO ((nf bM).trans ?_)
   rw[aU,aZ,aX]
   refine bs hb ?_
   exact bT rfl rfl
  | some d=>
   rw[bX] at hb
   have hd:=(NY he bX).1
   have Iu:=fun {a1 a2 a3 a4 a5 a6:Int} {l1 l2 l3 l4:List V}=>akX (es:=es) (d:=d) (a1:=a1) (a2:=a2) (a3:=a3) (a4:=a4) (a5:=a5) (a6:=a6) (l1:=l1) (l2:=l2) (l3:=l3) (l4:=l4) (by omega) (fun e he=>au (jB.nv e he)) (au hd) jB.nd es [] rfl
   have hp0:qv d []= -1:=rfl
   rw[hp0] at Iu
   simp only[Option.bind_some]
   have cO:Nat.ble ((row.map (fun n=>V.int .i64 n)).length+1) 1000=true:=by rw[dh,aJ];omega
   by_cases hm:d∈es
   ·rw[aj hm]
    have Pk:es.idxOf d<es.length:=DW.2 hm
    have Iv:qv d es=(es.idxOf d:Int):=aj hm
    obtain ⟨i1,i2⟩:=OE (L:=L) (e:=e) (k:=k) (bud:=bud) (a1:=a1) (a2:=a2) (l1:=l1) (l2:=l2) (l3:=l3) rfl Yg he n (x+1) es (row++[(es.idxOf d:Int)]) (by omega) jB fv nK (by simp[hr])
    have cT:qu CC bud a1 a2 L (k:Int) l1 l2 l3 (((x:Nat):Int),row.map (fun n=>V.int .i64 n),es.map enc)=some (.inl (((x+1:Nat):Int),(row++[(es.idxOf d:Int)]).map (fun n=>V.int .i64 n),es.map enc)):=by
     simp only[qu,tR,zz,un]
     refine bT aO ((nf bM).trans ?_)
     rw[aU,aZ,aX]
     refine bs hb (bF rfl ?_)
     rw[aJ]
     refine bs Iu ?_
     simp only[un]
     rw[Iv]
     refine bF (bz (by omega)) ?_
     refine bT (by rw[dh,gR];simp;omega) ?_
     rw[kZ (by omega),eD]
     rfl
    exact ⟨fun p hp=>(bJ cT).trans (i1 p hp),fun hp=>(bJ cT).trans (i2 hp)⟩
   ·rw[ai hm]
    have Iv:qv d es= -1:=ai hm
    by_cases sa:es.length=512
    ·rw[aj sa]
     refine ⟨fun p hp=>(by cases hp),fun _=>aS ?_⟩
     simp only[qu,tR,zz,un]
     refine bT aO ((nf bM).trans ?_)
     rw[aU,aZ,aX]
     refine bs hb (bF rfl ?_)
     rw[aJ]
     refine bs Iu ?_
     simp only[un]
     rw[Iv]
     refine bT rfl (bT (by rw[sa];rfl) rfl)
    ·rw[ai sa]
     obtain ⟨i1,i2⟩:=OE (L:=L) (e:=e) (k:=k) (bud:=bud) (a1:=a1) (a2:=a2) (l1:=l1) (l2:=l2) (l3:=l3) rfl Yg he n (x+1) (es++[d]) (row++[(es.length:Int)]) (by omega) (jB.snoc hd hm sa) (by simp;omega) (by rw[CU fv,nK]) (by simp[hr])
     have cT:qu CC bud a1 a2 L (k:Int) l1 l2 l3 (((x:Nat):Int),row.map (fun n=>V.int .i64 n),es.map enc)=some (.inl (((x+1:Nat):Int),(row++[(es.length:Int)]).map (fun n=>V.int .i64 n),(es++[d]).map enc)):=by
      simp only[qu,tR,zz,un]
      refine bT aO ((nf bM).trans ?_)
      rw[aU,aZ,aX]
      refine bs hb (bF rfl ?_)
      rw[aJ]
      refine bs Iu ?_
      simp only[un]
      rw[Iv]
      refine bT rfl (bF (by rw[pC];omega) ?_)
      refine bT (by rw[dh,gR];simp;omega) ?_
      simp only[bV,un]
      refine bT (by rw[dh,gR];simp;omega) ?_
      rw[kZ (by omega),eD,eD,cJ (f:=enc),dx d]
      rfl
     exact ⟨fun p hp=>(bJ cT).trans (i1 p hp),fun hp=>(bJ cT).trans (i2 hp)⟩
theorem Yh {a1 a2:Int} {l1 l2:List V}: ∀(n:Nat) (s:Dv),Gs s→n≤1000000→
  (∀t,eL n s=some t→∃b c,Loop (sc CC a1 a2 s.L l1 l2) ((n:Int),s.dn,s.es.map enc,s.nx.map cQ)=some (.inr (b,c,t.dn,t.es.map enc,t.nx.map cQ)))
  ∧(eL n s=none→Loop (sc CC a1 a2 s.L l1 l2) ((n:Int),s.dn,s.es.map enc,s.nx.map cQ)=some (.inl (3,0,0,[],[])))
 | 0,s,hs,_=>by
  refine ⟨fun t ht=>⟨0,false,?_⟩,fun h=>by simp[eL] at h⟩
  cases ht
  refine aS ?_
  simp only[sc,tS,un]
  rfl
 | n+1,s,hs,hn=>by
  rw[eL]
  have gI:decide (((n+1:Nat):Int)>0)=true:=cx (by omega)
  have CV:=hs.dn
  by_cases hd:s.dn<s.es.length
  ·rw[aj hd]
   have hL:=hs.L
   have hq:s.dn.toNat<s.es.length:=by omega
   have hle:=hs.es.le
   have kI:=hs.nl
   have DL:decide (s.dn<((s.es.map enc).length:Int))=true:=cx (by rw[aJ];exact hd)
   obtain ⟨l1',l2'⟩:=OE (L:=s.L) (dn:=s.dn) (e:=s.es.getD s.dn.toNat aG) (k:=s.dn.toNat) (bud:=((n+1:Nat):Int)) (a1:=a1) (a2:=a2) (l1:=l1) (l2:=l2) (l3:=s.nx.map cQ) (by omega) hL.2 (hs.es.nv _ (po hq)) s.L.toNat 0 s.es [] (by omega) hs.es hq rfl rfl
   cases hp:proc s with
   | none=>
    have hr:kg (s.es.getD s.dn.toNat aG) s.L.toNat 0 s.es []=none:=by
     unfold proc at hp
     rwa [Option.map_eq_none_iff] at hp
    refine ⟨fun t ht=>(by cases ht),fun _=>aS ?_⟩
    simp only[sc,tS,un]
    refine bT gI (bT DL ?_)
    refine bs (l2' hr) ?_
    rfl
   | some u=>
    obtain ⟨p,bu,gu⟩:=N0 hp
    obtain ⟨g,gL,g2,_⟩:=zi hs hd hp
    obtain ⟨i1,i2⟩:=Yh (a1:=a1) (a2:=a2) (l1:=l1) (l2:=l2) n u g (by omega)
    have cT:sc CC a1 a2 s.L l1 l2 (((n+1:Nat):Int),s.dn,s.es.map enc,s.nx.map cQ)=some (.inl ((n:Int),u.dn,u.es.map enc,u.nx.map cQ)):=by
     simp only[sc,tS,un]
     refine bT gI (bT DL ?_)
     refine bs (l1' p bu) ?_
     simp only[bV,un]
     refine bT (by rw[dh,gR];simp;omega) ?_
     rw[wrap64 (by omega) (by omega),wrap64 (by omega) (by omega),gu,show ((n+1:Nat):Int)-1=(n:Int) by omega]
     simp only[eD]
     rfl
    rw[gL] at i1 i2
    refine ⟨fun t ht=> ?_,fun ht=>(bJ cT).trans (i2 ht)⟩
    obtain ⟨b,c,h⟩:=i1 t ht
    exact ⟨b,c,(bJ cT).trans h⟩
  ·rw[ai hd]
   refine ⟨fun t ht=>⟨((n+1:Nat):Int),false,?_⟩,fun ht=>(by cases ht)⟩
   cases ht
   refine aS ?_
   have DL:decide (s.dn<((s.es.map enc).length:Int))=false:=bz (by rw[aJ];exact hd)
   simp only[sc,tS,un]
   refine bT gI (bF DL ?_)
   rw[DL]
def Iw (d:Dv) (b:Int):Dv × Int:=match eL b.toNat d with|some t=>(t,0)|none=>(.zero,3)
theorem Yi {d:Dv} (hs:Gs d) (b:Int) (hb:b≤1000000):CC Bn (lH d [.int .i64 b])=some (wi (Iw d b)):=by
 have hle:=hs.es.le
 have kI:=hs.nl
 have Ic:=hs.dn
 refine akR ?_
 unfold Yc Iw
 refine bT (by rw[dh,gR];simp;omega) (bT (by rw[dh,gR];simp;omega) ?_)
 rw[List.nil_append,List.nil_append]
 by_cases h0:0≤b
 ·obtain ⟨l1,l2⟩:=Yh (a1:=0) (a2:=0) (l1:=[]) (l2:=[]) b.toNat d hs (by omega)
  rw[show ((b.toNat:Nat):Int)=b by omega] at l1 l2
  cases hp:eL b.toNat d with
  | none=>exact bs (l2 hp) rfl
  | some t=>
   obtain ⟨x,y,h⟩:=l1 t hp
   refine bs h ?_
   have hL:=(tG _ _ _ hs hp).2.1
   unfold wi
   rw[hL]
   rfl
 ·rw[show b.toNat=0 by omega,eL]
  refine bs (a:= .inr (b,false,d.dn,d.es.map enc,d.nx.map cQ)) (aS ?_) rfl
  simp only[sc,tS,un]
  rw[az,ai (by omega)]
theorem akY {a b:List Ex} (ha: ∀e∈a,e.Ok) (hb: ∀e∈b,e.Ok) (hl:a.length≤maxLen) (he:a.length=b.length) {x1 x2 x3 x4:Int} {l1 l2:List V}:Loop (DG CC (a.length:Int) x1 (a.map enc) l1 x2 x3 (b.map enc) l2 x4) 0=some (if a=b then .inr ((a.length:Int),false) else .inl false):=by
 have hm:=kR
 have loop:Loop (DG CC (a.length:Int) x1 (a.map enc) l1 x2 x3 (b.map enc) l2 x4) 0=some (if∀i,i<a.length→a.getD i aG=b.getD i aG then .inr ((a.length:Int),false) else .inl false):=by
  refine ym (good:=fun i=>a.getD i aG=b.getD i aG) a.length (fun i=>(i:Int)) (Sum.inl false:Bool ⊕ (Int × Bool)) (Sum.inr ((a.length:Int),false)) (fun i hi=> ?_) ?_
  ·simp only[DG,DF]
   refine bT (kf hi) (bs (lI (z:=aG) hi) (bs (lI (z:=aG) (by omega)) ?_))
   rw[aU,aZ,aX,aU,aZ,aX]
   refine bs (Ih _ (ha _ (po hi)) _ (hb _ (po (by omega)))) ?_
   by_cases h:a.getD i aG=b.getD i aG
   ·rw[aj h]
    refine bF (by rw[V.aM,V.toInt_int,tk.2 h];rfl) ?_
    rw[wrap64 (by omega) (by omega)]
    rfl
   ·rw[ai h]
    refine bT ?_ rfl
    rw[V.aM,V.toInt_int,kq]
    exact fun hx=>h (tk.1 hx)
  ·simp only[DG,DF]
   rw[az,ai (by omega),bz (by omega)]
 rw[loop]
 by_cases h:a=b
 ·rw[aj ((ow he).2 h),aj h]
 ·rw[ai fun hx=>h ((ow he).1 hx),ai h]
theorem akZ {A B:List (List Int)} {i:Nat} (hi:i<A.length) (hiB:i<B.length) (hr:(A.getD i []).length≤maxLen) (he:(A.getD i []).length=(B.getD i []).length) {y1 y2 x1 x2 x3 x4:Int} {l1 l2:List V}:Loop (DI CC (i:Int) y1 y2 ((A.getD i []).length:Int) x1 l1 (A.map cQ) x2 x3 l2 (B.map cQ) x4) 0=some (if A.getD i []=B.getD i [] then .inr (((A.getD i []).length:Int),false) else .inl false):=by
 have hm:=kR
 have loop:Loop (DI CC (i:Int) y1 y2 ((A.getD i []).length:Int) x1 l1 (A.map cQ) x2 x3 l2 (B.map cQ) x4) 0=some (if∀j,j<(A.getD i []).length→(A.getD i []).getD j 0=(B.getD i []).getD j 0 then .inr (((A.getD i []).length:Int),false) else .inl false):=by
  refine ym (good:=fun j=>(A.getD i []).getD j 0=(B.getD i []).getD j 0) (A.getD i []).length (fun j=>(j:Int)) (Sum.inl false:Bool ⊕ (Int × Bool)) (Sum.inr (((A.getD i []).length:Int),false)) (fun j hj=> ?_) ?_
  ·simp only[DI,DH]
   refine bT (kf hj) (bs (lI (z:=[]) hi) (bs (lI (f:=fun n=>V.int .i64 n) (z:=0) hj) (bs (lI (z:=[]) hiB) (bs (lI (f:=fun n=>V.int .i64 n) (z:=0) (by omega)) ?_))))
   rw[V.toInt_int,V.toInt_int]
   by_cases h:(A.getD i []).getD j 0=(B.getD i []).getD j 0
   ·rw[aj h]
    refine bF (by rw[pG];exact h) ?_
    rw[wrap64 (by omega) (by omega)]
    rfl
   ·rw[ai h]
    exact bT (by rw[kq];exact h) rfl
  ·simp only[DI,DH]
   rw[az,ai (by omega),bz (by omega)]
 rw[loop]
 by_cases h:A.getD i []=B.getD i []
 ·rw[aj ((ow he).2 h),aj h]
 ·rw[ai fun hx=>h ((ow he).1 hx),ai h]
theorem ak0 {A B:List (List Int)} (hr: ∀r∈A,r.length≤maxLen) (hl:A.length≤maxLen) (he:A.length=B.length) {x1 x2 x3 x4:Int} {l1 l2:List V}:Loop (DK CC (A.length:Int) x1 l1 (A.map cQ) x2 x3 l2 (B.map cQ) x4) 0=some (if A=B then .inr ((A.length:Int),false) else .inl false):=by
 have hm:=kR
 have OF: ∀r:List Int,((cQ r).toList.length:Int)=(r.length:Int):=fun r=>by show (((r.map fun n=>V.int .i64 n).length:Nat):Int)=_;rw[aJ]
 have loop:Loop (DK CC (A.length:Int) x1 l1 (A.map cQ) x2 x3 l2 (B.map cQ) x4) 0=some (if∀i,i<A.length→A.getD i []=B.getD i [] then .inr ((A.length:Int),false) else .inl false):=by
  refine ym (good:=fun i=>A.getD i []=B.getD i []) A.length (fun i=>(i:Int)) (Sum.inl false:Bool ⊕ (Int × Bool)) (Sum.inr ((A.length:Int),false)) (fun i hi=> ?_) ?_
  ·have bM:=lI (f:=cQ) (z:=[]) hi
   simp only[DK,DJ]
   refine bT (kf hi) (bs bM (bs (lI (z:=[]) (by omega)) ?_))
   rw[OF,OF]
   by_cases hlen:(A.getD i []).length=(B.getD i []).length
   ·refine bF (by rw[pG,hlen]) (bs bM ?_)
    rw[OF]
    refine bs (akZ hi (by omega) (hr _ (po hi)) hlen) ?_
    by_cases h:A.getD i []=B.getD i []
    ·rw[aj h,aj h]
     simp only[bV,un]
     rw[wrap64 (by omega) (by omega)]
     rfl
    ·rw[ai h,ai h]
     rfl
   ·rw[ai fun h=>hlen (by rw[h])]
    exact bT (by rw[kq];omega) rfl
  ·simp only[DK,DJ]
   rw[az,ai (by omega),bz (by omega)]
 rw[loop]
 by_cases h:A=B
 ·rw[aj ((ow he).2 h),aj h]
 ·rw[ai fun hx=>h ((ow he).1 hx),ai h]
theorem OG {a b:Dv} (ha:a.Ok) (hb:b.Ok):CC xL (lH a (lH b []))=some [.bool (decide (a=b))]:=by
 refine akV ?_
 unfold Ye
 obtain ⟨L,es,nx,dn⟩:=a
 obtain ⟨L',aL,Ds,Ib⟩:=b
 simp only[aJ]
 by_cases h1:L=L'
 case neg=>
  rw[bz fun h=>h1 (Dv.mk.inj h).1]
  exact bT (by rw[kq];exact h1) rfl
 refine bF (by rw[pG];exact h1) ?_
 by_cases U:dn=Ib
 case neg=>
  rw[bz fun h=>U (Dv.mk.inj h).2.2.2]
  exact bT (by rw[kq];exact U) rfl
 refine bF (by rw[pG];exact U) ?_
 by_cases h3:es.length=aL.length
 case neg=>
  rw[bz fun h=>h3 (by rw[(Dv.mk.inj h).2.1])]
  exact bT (by rw[kq];omega) rfl
 refine bF (by rw[pG,h3]) ?_
 by_cases h4:nx.length=Ds.length
 case neg=>
  rw[bz fun h=>h4 (by rw[(Dv.mk.inj h).2.2.1])]
  exact bT (by rw[kq];omega) rfl
 refine bF (by rw[pG,h4]) ?_
 refine bs (akY ha.es hb.es ha.el h3) ?_
 by_cases h5:es=aL
 case neg=>
  rw[ai h5,bz fun h=>h5 (Dv.mk.inj h).2.1];rfl
 rw[aj h5]
 simp only[bV,un]
 refine bs (ak0 ha.rl ha.nl h4) ?_
 by_cases h6:nx=Ds
 ·rw[aj h6,cx (by rw[h1,U,h5,h6])];rfl
 ·rw[ai h6,bz fun h=>h6 (Dv.mk.inj h).2.2.1];rfl
end Go.AM
set_option maxRecDepth 100000
namespace Go.AM
open Go.Proofs
noncomputable def Yj (C:ae) (bC:Int) (bt cD:List V) (cB:Int):Option (List V):=
 bif decide (((bt.length:Int):Int)<1) then
  some [.int .i64 8]
 else
  bif decide (((bt.length:Int):Int)>512) then
  some [.int .i64 8]
  else
  bif decide ((cB:Int)<0) then
   some [.int .i64 8]
  else
   bif decide ((cB:Int)>(bt.length:Int)) then
   some [.int .i64 8]
   else
   bif ((cD.length:Int):Int) != cB then
    some [.int .i64 8]
   else
    (bt[0]?).bind fun x1=>
    (C Bm [.int .i64 ((x1.cell 0).toInt),.int .i64 ((x1.cell 1).toInt),.list aa ((x1.cell 2).toList),.int .i64 bC]).bind fun r2=>
    bif (((V.nth (r2.drop 2) 0).toInt):Int) != 0 then
    some [.int .i64 8]
    else
    (C Bn [.int .i64 ((V.nth r2 0).toInt),.list aa ((V.nth (r2.drop 3) 0).toList),.list ba ((V.nth ((r2.drop 3).drop 1) 0).toList),.int .i64 ((V.nth (r2.drop 1) 0).toInt),.int .i64 cB]).bind fun r3=>
    bif (((V.nth (r3.drop 2) 0).toInt):Int) != 0 then
     some [.int .i64 8]
    else
     (C xL [.int .i64 ((V.nth r3 0).toInt),.list aa ((V.nth (r3.drop 3) 0).toList),.list ba ((V.nth ((r3.drop 3).drop 1) 0).toList),.int .i64 ((V.nth (r3.drop 1) 0).toInt),.int .i64 bC,.list aa bt,.list ba cD,.int .i64 cB]).bind fun r4=>
     bif !((V.nth r4 0).toBool) then
     some [.int .i64 8]
     else
     some [.int .i64 0]
theorem ak1 {bC:Int} {bt cD:List V} {cB:Int} {r:Option (List V)} (h:Yj CC bC bt cD cB=r):CC xM [.int .i64 bC,.list aa bt,.list ba cD,.int .i64 cB]=r:=
 aY (key:=13) (L:=cd) (bs:=[]) (by kernel_rfl) av (aW (by kernel_rfl) h)
end Go.AM
set_option maxRecDepth 100000
namespace Go.AM
open Go.Proofs Ex
theorem OH {d:Dv} (hd:d.Ok):CC xM (lH d [])=some [.int .i64 (if iq d=true then 0 else 8)]:=by
 refine ak1 ?_
 unfold Yj
 simp only[aJ]
 have no: ∀{r:Option (List V)},iq d=false→some [V.int .i64 8]=r→r=some [V.int .i64 (if iq d=true then 0 else 8)]:=fun h e=>by rw[←e,h];rfl
 have g:iq d=true→Gs d:=fun h=>(HQ h).1
 have fl: ∀{p:Prop},(iq d=true→p)→¬p→iq d=false:=fun h hn=>by
  cases hs:iq d with
  | false=>rfl
  | true=>exact absurd (h hs) hn
 by_cases h1:(d.es.length:Int)<1
 ·exact bT (cx h1) (by rw[fl (fun h=>(g h).ne) fun bH=>bH (mz.1 (by omega))];rfl)
 refine bF (bz h1) ?_
 by_cases U:(d.es.length:Int)>512
 ·exact bT (cx U) (by rw[fl (fun h=>(g h).es.le) (by omega)];rfl)
 refine bF (bz U) ?_
 by_cases h3:d.dn<0
 ·exact bT (cx h3) (by rw[fl (fun h=>(g h).dn.1) (by omega)];rfl)
 refine bF (bz h3) ?_
 by_cases h4:d.dn>(d.es.length:Int)
 ·exact bT (cx h4) (by rw[fl (fun h=>(g h).dn.2) (by omega)];rfl)
 refine bF (bz h4) ?_
 by_cases h5:(d.nx.length:Int)=d.dn
 case neg=>exact bT (by rw[kq];exact h5) (by rw[fl (fun h=>(g h).nl) (by omega)];rfl)
 refine bF (by rw[pG];exact h5) ?_
 have hp:0<d.es.length:=by omega
 have hx:(d.es.map enc)[0]? =some (d.es.getD 0 aG).enc:=by
  rw[fI,bG hp,fU,bG hp];rfl
 have ho:=hd.es _ (po (z:=aG) hp)
 refine bs hx ?_
 rw[aU,aZ,aX]
 refine bs (Yf ho d.L) ?_
 unfold sb
 by_cases hv:(d.es.getD 0 aG).val d.L=0
 case neg=>
  rw[ai hv]
  refine bT ?_ (by rw[fl (fun h=>(gm h).2.2.1) hv];rfl)
  show ((d.es.getD 0 aG).val d.L != 0)=true
  rw[kq];exact hv
 rw[aj hv]
 have hg:=v9 hv
 refine bF rfl ?_
 refine bs (Yi hg d.dn (by omega)) ?_
 unfold Iw
 cases Ix:eL d.dn.toNat (fD (d.es.getD 0 aG) d.L) with
 | none=>
  refine bT rfl ?_
  rw[fl (fun h=>CW _ _ _ (gm h).2.2.2.2) (by rw[Ix];simp)]
  rfl
 | some t=>
  refine bF rfl ?_
  refine bs (OG (H6 (tG _ _ _ hg Ix).1) hd) ?_
  by_cases he:t=d
  ·refine bF (by rw[V.aM,V.dj,cx he];rfl) ?_
   rw[aio hv (n:=d.dn.toNat) (by rw[Ix,he])]
   rfl
  ·refine bT (by rw[V.aM,V.dj,bz he];rfl) ?_
   rw[fl (fun h=>CW _ _ _ (gm h).2.2.2.2) (by rw[Ix];simpa using he)]
   rfl
end Go.AM
set_option maxRecDepth 100000
namespace Go.AM
open Go.Proofs
noncomputable def Yk (C:ae) (bC:Int) (bt cD:List V) (cB dA:Int):Option (List V):=
 (C xM [.int .i64 bC,.list aa bt,.list ba cD,.int .i64 cB]).bind fun r1=>
 bif (((V.nth r1 0).toInt):Int) != 0 then
  some [.int .i64 0,.int .i64 0,.int .i64 ((V.nth r1 0).toInt),.list aa ([]:List V),.list ba ([]:List V)]
 else
  bif decide ((dA:Int)<0) then
  some [.int .i64 0,.int .i64 0,.int .i64 1,.list aa ([]:List V),.list ba ([]:List V)]
  else
  (C Bn [.int .i64 bC,.list aa bt,.list ba cD,.int .i64 cB,.int .i64 dA]).bind fun r2=>
  some [.int .i64 ((V.nth r2 0).toInt),.int .i64 ((V.nth (r2.drop 1) 0).toInt),.int .i64 ((V.nth (r2.drop 2) 0).toInt),.list aa ((V.nth (r2.drop 3) 0).toList),.list ba ((V.nth ((r2.drop 3).drop 1) 0).toList)]
theorem ak2 {bC:Int} {bt cD:List V} {cB dA:Int} {r:Option (List V)} (h:Yk CC bC bt cD cB dA=r):CC FW [.int .i64 bC,.list aa bt,.list ba cD,.int .i64 cB,.int .i64 dA]=r:=
 aY (key:=11) (L:=cd) (bs:=[]) (by kernel_rfl) av (aW (by kernel_rfl) h)
noncomputable def Yl (C:ae) (bC:Int) (bt cD:List V) (cB:Int):Option (List V):=
 (C xM [.int .i64 bC,.list aa bt,.list ba cD,.int .i64 cB]).bind fun r1=>
 bif (((V.nth r1 0).toInt):Int)==0 then
  some [.bool ((cB:Int)==(bt.length:Int))]
 else
  some [.bool false]
theorem ak3 {bC:Int} {bt cD:List V} {cB:Int} {r:Option (List V)} (h:Yl CC bC bt cD cB=r):CC FZ [.int .i64 bC,.list aa bt,.list ba cD,.int .i64 cB]=r:=
 aY (key:=15) (L:=cd) (bs:=[]) (by kernel_rfl) av (aW (by kernel_rfl) h)
end Go.AM
set_option maxRecDepth 100000
namespace Go.AM
open Go.Proofs Ex
theorem ak4 {d:Dv} (hd:d.Ok) (b:Int) (hb:b≤1000000):CC FW (lH d [.int .i64 b])=some (wi (tE d b)):=by
 refine ak2 ?_
 unfold Yk tE
 refine bs (OH hd) ?_
 cases hs:iq d with
 | false=>exact bT rfl rfl
 | true=>
  refine bF rfl ?_
  rw[aj rfl]
  by_cases h0:b<0
  ·rw[aj h0];exact bT (cx h0) rfl
  ·rw[ai h0]
   refine bF (bz h0) (bs (Yi (HQ hs).1 b hb) ?_)
   unfold Iw
   cases eL b.toNat d with
   | none=>rfl
   | some t=>rfl
theorem ak5 {d:Dv} (hd:d.Ok):CC FZ (lH d [])=some [.bool (iq d&&(d.dn==d.es.length))]:=by
 refine ak3 ?_
 unfold Yl
 refine bs (OH hd) ?_
 rw[aJ]
 cases hs:iq d with
 | false=>exact bF rfl rfl
 | true=>exact bT rfl rfl
end Go.AM
set_option maxRecDepth 100000
namespace Go.AM
open Go.Proofs
noncomputable def Ym (C:ae) (ah aq:Int) (af:List V) (cY:Int):Option (List V):=
 (C F0 [.int .i64 ah,.int .i64 aq,.list aa af]).bind fun r1=>
 bif (V.nth r1 0).toBool then
  (C F1 [.int .i64 ah,.int .i64 aq,.list aa af]).bind fun r2=>
  some [.bool (decide ((((V.nth r2 0).toInt):Int)≤cY))]
 else
  some [.bool false]
theorem ak6 {ah aq:Int} {af:List V} {cY:Int} {r:Option (List V)} (h:Ym CC ah aq af cY=r):CC FT [.int .i64 ah,.int .i64 aq,.list aa af,.int .i64 cY]=r:=
 aY (key:=5) (L:=cd) (bs:=[]) (by kernel_rfl) av (aW (by kernel_rfl) h)
end Go.AM
set_option maxRecDepth 100000
namespace Go.AM
open Go.Proofs Ex
theorem ak7 (e:Ex) (h:e.Ok) (m:Int):CC FT (bQ e [.int .i64 m])=some [.bool (decide (e.val 6=0∧(e.size:Int)≤m))]:=by
 refine ak6 ?_
 unfold Ym
 refine bs (aeq e h) ?_
 by_cases hv:e.val 6=0
 ·refine bT (cx hv) (bs (aet e h (jX hv).2.1) ?_)
  rw[V.aM,V.toInt_int]
  refine congrArg (fun b=>some [V.bool b]) ?_
  rw[zT]
  exact ⟨fun x=>⟨hv,x⟩,fun x=>x.2⟩
 ·refine bF (bz hv) ?_
  rw[bz fun x=>hv x.1]
end Go.AM
set_option maxRecDepth 100000
namespace Go.AM
open Go.Proofs
noncomputable def Yn (C:ae):Option (List V):=
 some [.int .i64 7,.int .i64 0,.list aa ([.agg [.int .i64 5,.int .i64 0,.list aa ([.agg [.int .i64 3,.int .i64 0,.list aa ([]:List V)],.agg [.int .i64 3,.int .i64 1,.list aa ([]:List V)]]:List V)]]:List V)]
theorem ak8 {r:Option (List V)} (h:Yn CC=r):CC F3 []=r:=
 aY (key:=21) (L:=cd) (bs:=[]) (by kernel_rfl) av (aW (by kernel_rfl) h)
noncomputable def Yo (C:ae):Option (List V):=
 (C F3 []).bind fun r1=>
 (C F2 [.int .i64 ((V.nth r1 0).toInt),.int .i64 ((V.nth (r1.drop 1) 0).toInt),.list aa ((V.nth (r1.drop 2) 0).toList),.int .i64 2]).bind fun r2=>
 bif (((V.nth (r2.drop 2) 0).toInt):Int)==0 then
  bif ((((V.nth (r2.drop 3) 0).toList).length:Int):Int)==3 then
  bif decide (0<(((V.nth (r2.drop 3) 0).toList).length:Int)) then
   (((V.nth (r2.drop 3) 0).toList)[0]?).bind fun x3=>
   bif x3.toBool then
   bif decide (1<(((V.nth (r2.drop 3) 0).toList).length:Int)) then
    (((V.nth (r2.drop 3) 0).toList)[1]?).bind fun x4=>
    some [.bool (!x4.toBool)]
   else none
   else
   some [.bool false]
  else none
  else
  some [.bool false]
 else
  some [.bool false]
theorem ak9 {r:Option (List V)} (h:Yo CC=r):CC rE []=r:=
 aY (key:=6) (L:=cd) (bs:=[]) (by kernel_rfl) av (aW (by kernel_rfl) h)
end Go.AM
set_option maxRecDepth 100000
namespace Go.AM
open Go.Proofs Ex
def zD:Ex:= .node 7 0 [.node 5 0 [.node 3 0 [],.node 3 1 []]]
theorem ala:zD.Ok:=by
 refine .node (by omega) (by omega) (by unfold maxLen;simp) fun k hk=> ?_
 rw[eC.1 hk]
 refine .node (by omega) (by omega) (by unfold maxLen;simp) fun k hk=> ?_
 rcases dG.1 hk with rfl|hk
 ·exact .node (by omega) (by omega) (by simp) (by simp)
 ·rw[eC.1 hk]
  exact .node (by omega) (by omega) (by simp) (by simp)
theorem alb:(Dm zD 2).2=0∧(Dm zD 2).1.F=[true,false,false]:=by decide+kernel
theorem zF:CC rE []=some [.bool true]:=by
 refine ak9 ?_
 unfold Yo
 have fu:CC F3 []=some (eH zD):=by
  refine ak8 ?_
  unfold Yn zD
  simp only[eH,Ex.op,Ex.bB,Ex.kids,cJ,fT,dx]
 refine bs fu ?_
 refine bs (ajq ala 2) ?_
 obtain ⟨h1,U⟩:=alb
 generalize Dm zD 2=p at h1 U
 obtain ⟨⟨L,F,N⟩,f⟩:=p
 simp only at h1 U
 subst h1 U
 rfl
end Go.AM
set_option maxRecDepth 100000
namespace Go.AM
theorem WT.OJ {P:Program} {t:TypeId} {x:V} (hu:P.underlying t=some (.int .i64)) (h:WT P t x): ∃n:Int,x= .int .i64 n∧ -9223372036854775808≤n∧n≤9223372036854775807:=by
 obtain ⟨n,rfl,h1,U⟩:=h.dZ hu
 have e1:IntKind.min .i64= -9223372036854775808:=by decide
 have e2:IntKind.max .i64=9223372036854775807:=by decide
 rw[e1] at h1
 rw[e2] at U
 exact ⟨n,rfl,h1,U⟩
theorem WT.J1 {P:Program} {t:TypeId} {x:V} (hu:P.underlying t=some (.int .u8)) (h:WT P t x): ∃n:Int,x= .int .u8 n∧0≤n∧n≤255:=by
 obtain ⟨n,rfl,h1,U⟩:=h.dZ hu
 have e1:IntKind.min .u8=0:=by decide
 have e2:IntKind.max .u8=255:=by decide
 rw[e1] at h1
 rw[e2] at U
 exact ⟨n,rfl,h1,U⟩
end Go.AM
set_option maxRecDepth 100000
namespace Go.AM
open Go.Proofs Ex
def ID (r:List Int):V:=cQ r
theorem YD {t:TypeId} {x:V} (hu:Tryz.prog.underlying t=some (.slice gA)) (hi:Tryz.prog.underlying gA=some (.int .i64)) (h:iO Tryz.prog t x): ∃r:List Int,x=ID r∧(r.length≤maxLen∧∀q∈r,-9223372036854775808≤q∧q≤9223372036854775807):=by
 obtain ⟨es,rfl,e1,e2⟩:=WT.RY hu (iO.one (by simp[bP,hu]) h)
 obtain ⟨r,rfl,hr⟩:=KS (f:=fun n=>V.int .i64 n) (p:=fun q=> -9223372036854775808≤q∧q≤9223372036854775807) fun y hy=>WT.OJ hi (iO.one (by simp[bP,hi]) (e2 y hy))
 exact ⟨r,rfl,by simpa using e1,hr⟩
end Go.AM
set_option maxRecDepth 100000
namespace Go.AM
open Go.Proofs
noncomputable abbrev Yp:Code:=cE Tryz.prog (ax.aV 3)
noncomputable def wq (C:ae) (t47:List V) (t48 g t49 tM tN Iy Iz:Int) (cv bm dm b8:List V) {β:Type} (kn:(Int × Int × Int × Int × Int × Int × (List V) × (List V) × (List V) × (List V))→Option β) (kr:((Bool) ⊕ (Int × Int × Bool × Int × Int × Int × Int × (List V) × (List V) × (List V) × (List V)))→Option β):Option β:=
 bif decide ((t49:Int)<t48) then
  (idx t47 t49).bind fun x8=>
  bif (g:Int) != 0 then
  (C rE []).bind fun r9=>
  kr (.inl ((V.nth r9 0).toBool))
  else
  bif decide (((dm.length:Int):Int)>40) then
   (C rE []).bind fun dg=>
   kr (.inl ((V.nth dg 0).toBool))
  else
   (C FV [.int .i64 tM,.list aa cv,.list ba bm,.int .i64 tN,.int .i64 (if 20<x8.toInt then 20 else x8.toInt)]).bind fun dz=>
   (C FW [.int .i64 Iy,.list aa dm,.list ba b8,.int .i64 Iz,.int .i64 (if 20<x8.toInt then 20 else x8.toInt)]).bind fun ep=>
   bif (((V.nth (dz.drop 2) 0).toInt):Int) != ((V.nth (ep.drop 2) 0).toInt) then
   kr (.inl false)
   else
   (C xL [.int .i64 ((V.nth dz 0).toInt),.list aa ((V.nth (dz.drop 3) 0).toList),.list ba ((V.nth ((dz.drop 3).drop 1) 0).toList),.int .i64 ((V.nth (dz.drop 1) 0).toInt),.int .i64 ((V.nth ep 0).toInt),.list aa ((V.nth (ep.drop 3) 0).toList),.list ba ((V.nth ((ep.drop 3).drop 1) 0).toList),.int .i64 ((V.nth (ep.drop 1) 0).toInt)]).bind fun gU=>
   bif !((V.nth gU 0).toBool) then
    kr (.inl false)
   else
    kn ((V.nth (ep.drop 2) 0).toInt,IntKind.wrap .i64 (t49+1),(V.nth dz 0).toInt,(V.nth (dz.drop 1) 0).toInt,(V.nth ep 0).toInt,(V.nth (ep.drop 1) 0).toInt,(V.nth (dz.drop 3) 0).toList,(V.nth ((dz.drop 3).drop 1) 0).toList,(V.nth (ep.drop 3) 0).toList,(V.nth ((ep.drop 3).drop 1) 0).toList)
 else
  kr (.inr (g,t49,decide ((t49:Int)<t48),tM,tN,Iy,Iz,cv,bm,dm,b8))
noncomputable def tT (C:ae) (t47:List V) (t48:Int):(Int × Int × Int × Int × Int × Int × (List V) × (List V) × (List V) × (List V))→Option ((Int × Int × Int × Int × Int × Int × (List V) × (List V) × (List V) × (List V)) ⊕ ((Bool) ⊕ (Int × Int × Bool × Int × Int × Int × Int × (List V) × (List V) × (List V) × (List V)))):=un fun g=>un fun t49=>un fun tM=>un fun tN=>un fun Iy=>un fun Iz=>un fun cv=>un fun bm=>un fun dm b8=>wq C t47 t48 g t49 tM tN Iy Iz cv bm dm b8 (fun y=>some (.inl y)) (fun r=>some (.inr r))
noncomputable def Yq (C:ae):ct:=fun β n ds k=>
 bif Nat.beq n 129 then bY Lf [true,false,false,true,true,true,true,true,true,true,true,true] [[0],[0,2,3,0,0,0,0,0,0,0,0,0,0]] (@wq C) ds k else
 none
abbrev alc (C:ae) (b:cq):Prop:=cr Tryz.prog ax C (Yq C) 3 (cH Tryz.prog (ax.aV 3)) (ax.sin 3).bj.length b
theorem ald (C:ae):alc C (.loop (aw [1,1,1,1,1,0,1,0,0] Yp)):=
 b7 Lf [true,false,false,true,true,true,true,true,true,true,true,true] [[0],[0,2,3,0,0,0,0,0,0,0,0,0,0]] (@wq C) (by kernel_rfl) (bf (bs:=[]) (by kernel_rfl) av) (fun ds=>by kernel_rfl) (fun i x=>by kernel_rfl) (fun i x β k=>by kernel_rfl) (fun β ds k=>by kernel_rfl)
noncomputable def Yr (C:ae) (ah aq:Int) (af:List V) (letters:Int) (zG:List V):Option (List V):=
 bif decide ((letters:Int)>2) then
  (C rE []).bind fun r1=>
  some [.bool ((V.nth r1 0).toBool)]
 else
  (C FT [.int .i64 ah,.int .i64 aq,.list aa af,.int .i64 12]).bind fun r2=>
  bif !((V.nth r2 0).toBool) then
  (C rE []).bind fun r3=>
  some [.bool ((V.nth r3 0).toBool)]
  else
  bif decide (((zG.length:Int):Int)>4) then
   (C rE []).bind fun r4=>
   some [.bool ((V.nth r4 0).toBool)]
  else
   (C FU [.int .i64 ah,.int .i64 aq,.list aa af,.int .i64 letters]).bind fun r5=>
   (C Bm [.int .i64 ah,.int .i64 aq,.list aa af,.int .i64 letters]).bind fun r6=>
   bif (((V.nth (r5.drop 2) 0).toInt):Int) != ((V.nth (r6.drop 2) 0).toInt) then
   some [.bool false]
   else
   (C xL [.int .i64 ((V.nth r5 0).toInt),.list aa ((V.nth (r5.drop 3) 0).toList),.list ba ((V.nth ((r5.drop 3).drop 1) 0).toList),.int .i64 ((V.nth (r5.drop 1) 0).toInt),.int .i64 ((V.nth r6 0).toInt),.list aa ((V.nth (r6.drop 3) 0).toList),.list ba ((V.nth ((r6.drop 3).drop 1) 0).toList),.int .i64 ((V.nth (r6.drop 1) 0).toInt)]).bind fun r7=>
   bif !((V.nth r7 0).toBool) then
    some [.bool false]
   else
    (Loop (tT C zG (zG.length:Int)) ((V.nth (r6.drop 2) 0).toInt,0,(V.nth r5 0).toInt,(V.nth (r5.drop 1) 0).toInt,(V.nth r6 0).toInt,(V.nth (r6.drop 1) 0).toInt,(V.nth (r5.drop 3) 0).toList,(V.nth ((r5.drop 3).drop 1) 0).toList,(V.nth (r6.drop 3) 0).toList,(V.nth ((r6.drop 3).drop 1) 0).toList)).bind (bV (fun (qe:Bool)=>
     some [.bool qe]) (un fun (amY:Int)=>un fun (BU:Int)=>un fun (GU:Bool)=>un fun (Ys:Int)=>un fun (Yt:Int)=>un fun (Yu:Int)=>un fun (Yv:Int)=>un fun (Yw:List V)=>un fun (Is:List V)=>un fun (Yx:List V) (Iq:List V)=>
     (C FX [.int .i64 Ys,.list aa Yw,.list ba Is,.int .i64 Yt]).bind fun r26=>
     (C xM [.int .i64 Yu,.list aa Yx,.list ba Iq,.int .i64 Yv]).bind fun wm=>
     bif (((V.nth r26 0).toInt):Int)==((V.nth wm 0).toInt) then
     (C FY [.int .i64 Ys,.list aa Yw,.list ba Is,.int .i64 Yt]).bind fun Oz=>
     (C FZ [.int .i64 Yu,.list aa Yx,.list ba Iq,.int .i64 Yv]).bind fun r29=>
     bif ((V.nth Oz 0).toBool)==((V.nth r29 0).toBool) then
      (C rE []).bind fun qj=>
      some [.bool ((V.nth qj 0).toBool)]
     else
      some [.bool false]
     else
     some [.bool false]))
theorem ale {ah aq:Int} {af:List V} {letters:Int} {zG:List V} {r:Option (List V)} (h:Yr CC ah aq af letters zG=r):CC K2 [.int .i64 ah,.int .i64 aq,.list aa af,.int .i64 letters,.list gA zG]=r:=
 aY (key:=3) (L:=Yq CC) (bs:=[.loop (aw [1,1,1,1,1,0,1,0,0] Yp)]) (by kernel_rfl) (bx (ald CC) av) (aW (by kernel_rfl) h)
end Go.AM
set_option maxRecDepth 100000
namespace Go.AM
open Go.Proofs Ex
theorem IA:Dv.zero.Ok:=⟨by simp[Dv.zero],by simp[Dv.zero],by simp[Dv.zero],by simp[Dv.zero]⟩
theorem alf (e:Ex) (L:Int):(sb e L).1.Ok:=by
 unfold sb
 split
 ·next hv=>exact H6 (v9 hv)
 ·exact IA
theorem alg (d:Dv) (b:Int):(tE d b).1.Ok:=by
 unfold tE
 split
 ·next hs=>
  split
  ·exact IA
  ·cases hp:eL b.toNat d with
   | none=>exact IA
   | some t=>exact H6 (tG _ _ _ (HQ hs).1 hp).1
 ·exact IA
abbrev IB (g:Int) (i:Nat) (d:Dv):Int × Int × Int × Int × Int × Int × List V × List V × List V × List V:=(g,(i:Int),d.L,d.dn,d.L,d.dn,d.es.map enc,d.nx.map cQ,d.es.map enc,d.nx.map cQ)
theorem alh {B:List Int} (hn:B.length≤4): ∀(ay pre:List Int) (g:Int) (d:Dv),B=pre++ay→d.Ok→
  (Loop (tT CC (B.map fun n=>V.int .i64 n) (B.length:Int)) (IB g pre.length d)=some (.inl true))∨
  ∃(g':Int) (d':Dv),d'.Ok∧Loop (tT CC (B.map fun n=>V.int .i64 n) (B.length:Int)) (IB g pre.length d)=some (.inr (g',(B.length:Int),false,d'.L,d'.dn,d'.L,d'.dn,d'.es.map enc,d'.nx.map cQ,d'.es.map enc,d'.nx.map cQ)):=by
 intro ay
 induction ay with
 | nil=>
  intro pre g d e hd
  rw[c9] at e
  subst e
  refine .inr ⟨g,d,hd,aS ?_⟩
  simp only[tT,wq,un]
  rw[az,ai (by omega),bz (by omega)]
 | cons b ay ec=>
  intro pre g d e hd
  have bS:pre.length<B.length:=by rw[e];simp
  have bM:idx (B.map fun n=>V.int .i64 n) (pre.length:Int)=some (.int .i64 b):=by
   rw[lI (f:=fun n=>V.int .i64 n) (z:=0) bS,e,fU];simp
  by_cases hg:g=0
  case neg=>
   refine .inl (aS ?_)
   simp only[tT,wq,un]
   exact bT (kf bS) (bs bM (bT (by rw[kq];exact hg) (bs zF rfl)))
  by_cases Yy:(d.es.length:Int)>40
  ·refine .inl (aS ?_)
   simp only[tT,wq,un]
   exact bT (kf bS) (bs bM (bF (by rw[pG];exact hg) (bT (cx (by rw[aJ];exact Yy)) (bs zF rfl))))
  have hk:=alg d (if 20<b then 20 else b)
  have hb:(if 20<b then 20 else b)≤1000000:=by split<;>omega
  have cT:tT CC (B.map fun n=>V.int .i64 n) (B.length:Int) (IB g pre.length d)=some (.inl (IB (tE d (if 20<b then 20 else b)).2 (pre++[b]).length (tE d (if 20<b then 20 else b)).1)):=by
   simp only[tT,wq,un]
   refine bT (kf bS) (bs bM (bF (by rw[pG];exact hg) (bF (bz (by rw[aJ];exact Yy)) ?_)))
   refine bs (ajT hd _ hb) (bs (ak4 hd _ hb) (bF (bne_self_eq_false _) (bs (OG hk hk) (bF ?_ ?_))))
   ·rw[V.aM,V.dj,cx rfl];rfl
   ·rw[kZ (by omega),b9]
    rfl
  rcases ec (pre++[b]) _ _ (by simp[e]) hk with h|⟨g',d',h1,U⟩
  ·exact .inl ((bJ cT).trans h)
  ·exact .inr ⟨g',d',h1,(bJ cT).trans U⟩
theorem YE (e:Ex) (h:e.Ok) (L:Int) (B:List Int):CC K2 (bQ e [.int .i64 L,ID B])=some [.bool true]:=by
 refine ale ?_
 unfold Yr
 rw[az]
 by_cases U:L>2
 ·rw[aj U];exact bs zF rfl
 rw[ai U]
 refine bs (ak7 e h 12) ?_
 by_cases hl:e.val 6=0∧(e.size:Int)≤12
 case neg=>exact bT (by rw[V.aM,V.dj,bz hl];rfl) (bs zF rfl)
 refine bF (by rw[V.aM,V.dj,cx hl];rfl) ?_
 rw[az,aJ]
 by_cases h4:(B.length:Int)>4
 ·rw[aj h4];exact bs zF rfl
 rw[ai h4]
 have hk:=alf e L
 refine bs (ajW h L) (bs (Yf h L) (bF (bne_self_eq_false _) (bs (OG hk hk) (bF ?_ ?_))))
 ·rw[V.aM,V.dj,cx rfl];rfl
 rcases alh (B:=B) (by omega) B [] (sb e L).2 (sb e L).1 rfl hk with hl|⟨g',d',h1,hl⟩
 ·exact bs hl rfl
 ·refine bs hl ?_
  simp only[bV,un]
  exact bs (ajM h1) (bs (OH h1) (bT (zQ _) (bs (ajU h1) (bs (ak5 h1) (bT (zQ _) (bs zF rfl))))))
end Go.AM
