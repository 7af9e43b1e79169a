/-
  Functions of the program, lifted to plain data.
-/
import Derived.Test.YtppefogdkedaiaaP6
set_option linter.unusedVariables false
set_option linter.unusedSimpArgs false
set_option maxRecDepth 100000
namespace Go.AM
open Go.Proofs
noncomputable abbrev y5:Code:=cF Try.prog (ay.aV 23)
noncomputable def CW (C:ag) (t40 gV:Int) (gD e9:List V) (gX gW:Int) (gE fa:List V) (iw t41:Int) {β:Type} (kn:Int→Option β) (kr:((Bool) ⊕ (Int × Bool))→Option β):Option β:=
 bif decide ((t41:Int)<t40) then
  (idx gD t41).bind fun x1=>
  (idx gE t41).bind fun x2=>
  (C rr [.int .i64 ((x1.cell 0).toInt),.int .i64 ((x1.cell 1).toInt),.list aa ((x1.cell 2).toList),.int .i64 ((x2.cell 0).toInt),.int .i64 ((x2.cell 1).toInt),.list aa ((x2.cell 2).toList)]).bind fun r3=>
  bif (((V.nth r3 0).toInt):Int) != 0 then
  kr (.inl false)
  else
  kn (IntKind.wrap .i64 (t41+1))
 else
  kr (.inr (t41,decide ((t41:Int)<t40)))
noncomputable def CX (C:ag) (t40 gV:Int) (gD e9:List V) (gX gW:Int) (gE fa:List V) (iw:Int):(Int)→Option ((Int) ⊕ ((Bool) ⊕ (Int × Bool))):=fun t41=>CW C t40 gV gD e9 gX gW gE fa iw t41 (fun y=>some (.inl y)) (fun r=>some (.inr r))
noncomputable def CY (C:ag) (i t59 t60 t81 gV:Int) (gD e9:List V) (gX gW:Int) (gE fa:List V) (iw t82:Int) {β:Type} (kn:Int→Option β) (kr:((Bool) ⊕ (Int × Bool))→Option β):Option β:=
 bif decide ((t82:Int)<t81) then
  (idx e9 i).bind fun kW=>
  (idx kW.toList t82).bind fun eK=>
  (idx fa i).bind fun ka=>
  (idx ka.toList t82).bind fun ju=>
  bif (eK.toInt:Int) != ju.toInt then
  kr (.inl false)
  else
  kn (IntKind.wrap .i64 (t82+1))
 else
  kr (.inr (t82,decide ((t82:Int)<t81)))
noncomputable def CZ (C:ag) (i t59 t60 t81 gV:Int) (gD e9:List V) (gX gW:Int) (gE fa:List V) (iw:Int):(Int)→Option ((Int) ⊕ ((Bool) ⊕ (Int × Bool))):=fun t82=>CY C i t59 t60 t81 gV gD e9 gX gW gE fa iw t82 (fun y=>some (.inl y)) (fun r=>some (.inr r))
noncomputable def C2 (C:ag) (t59 gV:Int) (gD e9:List V) (gX gW:Int) (gE fa:List V) (iw t60:Int) {β:Type} (kn:Int→Option β) (kr:((Bool) ⊕ (Int × Bool))→Option β):Option β:=
 bif decide ((t60:Int)<t59) then
  (idx e9 t60).bind fun x7=>
  (idx fa t60).bind fun x8=>
  bif ((x7.toList.length:Int):Int) != (x8.toList.length:Int) then
  kr (.inl false)
  else
  (idx e9 t60).bind fun x9=>
  (Loop (CZ C t60 t59 t60 (x9.toList.length:Int) gV gD e9 gX gW gE fa iw) 0).bind (bV (fun (rz:Bool)=>
   kr (.inl rz)) (un fun (p8:Int) (xK:Bool)=>
   kn (IntKind.wrap .i64 (t60+1))))
 else
  kr (.inr (t60,decide ((t60:Int)<t59)))
noncomputable def C3 (C:ag) (t59 gV:Int) (gD e9:List V) (gX gW:Int) (gE fa:List V) (iw:Int):(Int)→Option ((Int) ⊕ ((Bool) ⊕ (Int × Bool))):=fun t60=>C2 C t59 gV gD e9 gX gW gE fa iw t60 (fun y=>some (.inl y)) (fun r=>some (.inr r))
noncomputable def Xi (C:ag):ct:=fun β n ds k=>
 bif Nat.beq n 65 then bW KA [false,true,false,false,false,false,false,false,false,false] [[0],[1,0,0,3,4,5,6,7,8,9,10]] (@CW C) ds k else
 bif Nat.beq n 241 then bW KC [false,false,false,false,true,false,false,false,false,false,false,false,false] [[0],[1,2,3,4,0,0,6,7,8,9,10,11,12,13]] (@CY C) ds k else
 bif Nat.beq n 161 then bW KD [false,true,false,false,false,false,false,false,false,false] [[0],[1,0,0,3,4,5,6,7,8,9,10]] (@C2 C) ds k else
 none
abbrev NV (C:ag) (b:cq):Prop:=cr Try.prog ay C (Xi C) 23 (cK Try.prog (ay.aV 23)) (ay.sin 23).bj.length b
theorem ajM (C:ag):NV C (.loop (av [1,1,0,1,0,0] y5)):=
 bY KA [false,true,false,false,false,false,false,false,false,false] [[0],[1,0,0,3,4,5,6,7,8,9,10]] (@CW C) (by kernel_rfl) (aZ (bs:=[]) (by kernel_rfl) aw) (fun ds=>by kernel_rfl) (fun i x=>by kernel_rfl) (fun i x β k=>by kernel_rfl) (fun β ds k=>by kernel_rfl)
theorem ajN (C:ag):NV C (.loop (av [1,1,1,0,1,0,0,1,1,0,0,1,1,1,0,0] y5)):=
 bY KC [false,false,false,false,true,false,false,false,false,false,false,false,false] [[0],[1,2,3,4,0,0,6,7,8,9,10,11,12,13]] (@CY C) (by kernel_rfl) (aZ (bs:=[]) (by kernel_rfl) aw) (fun ds=>by kernel_rfl) (fun i x=>by kernel_rfl) (fun i x β k=>by kernel_rfl) (fun β ds k=>by kernel_rfl)
theorem ajO (C:ag):NV C (.loop (av [1,1,1,0,1,0,0] y5)):=
 bY KD [false,true,false,false,false,false,false,false,false,false] [[0],[1,0,0,3,4,5,6,7,8,9,10]] (@C2 C) (by kernel_rfl) (aZ (bs:=[.loop (av [1,1,1,0,1,0,0,1,1,0,0,1,1,1,0,0] y5)]) (by kernel_rfl) (bu (ajN C) aw)) (fun ds=>by kernel_rfl) (fun i x=>by kernel_rfl) (fun i x β k=>by kernel_rfl) (fun β ds k=>by kernel_rfl)
noncomputable def Xj (C:ag) (eG:Int) (ep er:List V) (my eH:Int) (eI eN:List V) (nj:Int):Option (List V):=
 bif (eG:Int) != eH then
  some [.bool false]
 else
  bif (my:Int) != nj then
  some [.bool false]
  else
  bif ((ep.length:Int):Int) != (eI.length:Int) then
   some [.bool false]
  else
   bif ((er.length:Int):Int) != (eN.length:Int) then
   some [.bool false]
   else
   (Loop (CX C (ep.length:Int) eG ep er my eH eI eN nj) 0).bind (bV (fun (j7:Bool)=>
    some [.bool j7]) (un fun (m7:Int) (mg:Bool)=>
    (Loop (C3 C (er.length:Int) eG ep er my eH eI eN nj) 0).bind (bV (fun (Gb:Bool)=>
     some [.bool Gb]) (un fun (Gc:Int) (abW:Bool)=>
     some [.bool true]))))
theorem ajP {eG:Int} {ep er:List V} {my eH:Int} {eI eN:List V} {nj:Int} {r:Option (List V)} (h:Xj CC eG ep er my eH eI eN nj=r):CC Fk [.int .i64 eG,.list aa ep,.list bK er,.int .i64 my,.int .i64 eH,.list aa eI,.list bK eN,.int .i64 nj]=r:=
 bh (key:=23) (L:=Xi CC) (bs:=[.loop (av [1,1,0,1,0,0] y5),.loop (av [1,1,1,0,1,0,0] y5)]) (by kernel_rfl) (bu (ajM CC) (bu (ajO CC) aw)) (bd (by kernel_rfl) h)
end Go.AM
set_option maxRecDepth 100000
namespace Go.AM
open Go.Proofs Ex
theorem Xk {e:Ex} (h:e.Ok) (L:Int):CC AQ (bS e [.int .i64 L])=some (Hq (Hr e L)):=by
 refine aju ?_
 unfold Xc Hr
 refine bs (L8 e h L) ?_
 by_cases hv:e.val L=0
 ·rw[aj hv]
  refine bF (by rw[V.aT,V.toInt_int,hv];rfl) ?_
  obtain ⟨_,U,h3⟩:=lC (Cl hv)
  refine bs (W4 (n:=6) (by omega) e h3 (by omega)) ?_
  unfold Hq iu
  simp only[cy,fD]
  rw[dg (aH e)]
  rfl
 ·rw[ai hv]
  refine bT ?_ rfl
  rw[V.aT,V.toInt_int,nt];exact hv
def ql (d:Ex) (es:List Ex):Int:=if d∈es then (es.idxOf d:Int) else-1
theorem ajQ {d k:Ex} {es:List Ex} (h:(es++[k]).Nodup):ql d (es++[k])=if k=d then (es.length:Int) else ql d es:=by
 have hn:k∉es:=by
  rw[vP] at h
  exact fun hk=>h.2.2 k hk k (by simp) rfl
 unfold ql
 by_cases he:k=d
 ·subst he
  rw[aj (by simp),aj rfl,List.idxOf_append,ai hn]
  simp
 ·rw[ai he]
  by_cases hm:d∈es
  ·rw[aj (by simp[hm]),aj hm,List.idxOf_append,aj hm]
  ·rw[ai hm,ai]
   simp[hm,Ne.symm he]
theorem ajR {es:List Ex} {d:Ex} (hn:es.length≤1000) (ho: ∀e∈es,e.Ok) (hd:d.Ok) (jm:es.Nodup) {a1 a2 a3 a4 a5 a6:Int} {l1 l2 l3 l4:List V}: ∀(ax pre:List Ex),es=pre++ax→
  Loop (HE CC a1 a2 (es.length:Int) a3 a4 a5 a6 l1 d.op d.bx (d.kids.map enc) l2 l3 (es.map enc) l4) (ql d pre,((pre.length:Nat):Int))=some (ql d es,(es.length:Int),false):=by
 intro ax
 induction ax with
 | nil=>
  intro pre e
  rw[cR] at e
  subst e
  refine aS ?_
  simp only[HE,CV,un]
  rw[az,ai (by omega),b7 (by omega)]
 | cons k ax dW=>
  intro pre e
  have bU:pre.length<es.length:=by rw[e];simp
  have hk:k∈es:=by rw[e];simp
  have bI:(es.map enc)[pre.length]? =some k.enc:=by rw[e];simp
  have hs:ql d (pre++[k])=if k=d then (pre.length:Int) else ql d pre:=ajQ (by
   rw[e,show pre++k::ax=(pre++[k])++ax by simp,vP] at jm
   exact jm.1)
  refine (bJ ?_).trans (dW (pre++[k]) (by simp[e]))
  simp only[HE,CV,un]
  refine bT (lE bU) ((nh bI).trans ?_)
  rw[aW,bc,a9]
  refine bs (Hv k (ho k hk) d hd) ?_
  rw[V.aT,V.toInt_int,jx (by omega),df,hs,bZ]
  by_cases he:k=d
  ·rw[aj (Bo.2 he),aj he];rfl
  ·rw[ai (fun h=>he (Bo.1 h)),ai he];rfl
theorem NW {L dn:Int} {e:Ex} {k:Nat} (hk:dn=(k:Int)) (Xl:L≤6) (he:Nv e) {bud a1 a2:Int} {l1 l2 l3:List V}: ∀(n x:Nat) (es:List Ex) (row:List Int),L=((x+n:Nat):Int)→Es es→k<es.length→es.getD k aR=e→row.length=x→
  (∀p,km e n x es row=some p→Loop (qk CC bud a1 a2 L dn l1 l2 l3) (((x:Nat):Int),row.map (fun n=>V.int .i64 n),es.map enc)=some (.inr (L,false,p.2.map (fun n=>V.int .i64 n),p.1.map enc)))
  ∧(km e n x es row=none→Loop (qk CC bud a1 a2 L dn l1 l2 l3) (((x:Nat):Int),row.map (fun n=>V.int .i64 n),es.map enc)=some (.inl (3,0,0,[],[])))
 | 0,x,es,row,hL,jH,fq,nM,hr=>by
  refine ⟨fun p hp=> ?_,fun hp=>by simp[km] at hp⟩
  cases hp
  refine aS ?_
  simp only[qk,tw,un]
  rw[az,ai (by omega),b7 (by omega),show L=((x:Nat):Int) by omega]
 | n+1,x,es,row,hL,jH,fq,nM,hr=>by
  subst hk
  have aN:decide ((x:Int)<L)=true:=dr (by omega)
  have bI:(es.map enc)[k]? =some e.enc:=by
   rw[fR,bC fq,←nM,gl,bC fq];rfl
  have hb:=ajt e (m8 (by omega) e he.1.2 (by have:=lC he.2;omega)) (x:Int)
  have NI:qh (aH (bH x e))=match ow e x with|some d=>(d,0)|none=>(aR,3):=by
   unfold qh ow;split<;>rfl
  unfold Nq at hb
  rw[aj he.2,aj (by omega),NI] at hb
  have hle:=jH.le
  have au: ∀{x:Ex},Nv x→x.Ok:=fun {x} h=>m8 (by omega) x h.1.2 (by have:=lC h.2;omega)
  rw[km]
  cases bQ:ow e x with
  | none=>
   rw[bQ] at hb
   refine ⟨fun p hp=>(by cases hp),fun _=>aS ?_⟩
   simp only[qk,tw,un]
   refine bT aN ((nh bI).trans ?_)
   rw[aW,bc,a9]
   refine bs hb ?_
   exact bT rfl rfl
  | some d=>
   rw[bQ] at hb
   have hd:=(Nh he bQ).1
   have HG:=fun {a1 a2 a3 a4 a5 a6:Int} {l1 l2 l3 l4:List V}=>ajR (es:=es) (d:=d) (a1:=a1) (a2:=a2) (a3:=a3) (a4:=a4) (a5:=a5) (a6:=a6) (l1:=l1) (l2:=l2) (l3:=l3) (l4:=l4) (by omega) (fun e he=>au (jH.nv e he)) (au hd) jH.nd es [] rfl
   have hp0:ql d []= -1:=rfl
   rw[hp0] at HG
   simp only[Option.bind_some]
   have cG:Nat.ble ((row.map (fun n=>V.int .i64 n)).length+1) 1000=true:=by rw[cV,aL];omega
   by_cases hm:d∈es
   ·rw[aj hm]
    have OG:es.idxOf d<es.length:=Dm.2 hm
    have HH:ql d es=(es.idxOf d:Int):=aj hm
    obtain ⟨i1,i2⟩:=NW (L:=L) (e:=e) (k:=k) (bud:=bud) (a1:=a1) (a2:=a2) (l1:=l1) (l2:=l2) (l3:=l3) rfl Xl he n (x+1) es (row++[(es.idxOf d:Int)]) (by omega) jH fq nM (by simp[hr])
    have di:qk CC bud a1 a2 L (k:Int) l1 l2 l3 (((x:Nat):Int),row.map (fun n=>V.int .i64 n),es.map enc)=some (.inl (((x+1:Nat):Int),(row++[(es.idxOf d:Int)]).map (fun n=>V.int .i64 n),es.map enc)):=by
     simp only[qk,tw,y4,un]
     refine bT aN ((nh bI).trans ?_)
     rw[aW,bc,a9]
     refine bs hb (bF rfl ?_)
     rw[aL]
     refine bs HG ?_
     simp only[un]
     rw[HH]
     refine bF (b7 (by omega)) ?_
     refine bT (by rw[cV,gz];simp;omega) ?_
     rw[jx (by omega),eh]
     rfl
    exact ⟨fun p hp=>(bJ di).trans (i1 p hp),fun hp=>(bJ di).trans (i2 hp)⟩
   ·rw[ai hm]
    have HH:ql d es= -1:=ai hm
    by_cases rS:es.length=512
    ·rw[aj rS]
     refine ⟨fun p hp=>(by cases hp),fun _=>aS ?_⟩
     simp only[qk,tw,y4,un]
     refine bT aN ((nh bI).trans ?_)
     rw[aW,bc,a9]
     refine bs hb (bF rfl ?_)
     rw[aL]
     refine bs HG ?_
     simp only[un]
     rw[HH]
     refine bT rfl (bT (by rw[rS];rfl) rfl)
    ·rw[ai rS]
     obtain ⟨i1,i2⟩:=NW (L:=L) (e:=e) (k:=k) (bud:=bud) (a1:=a1) (a2:=a2) (l1:=l1) (l2:=l2) (l3:=l3) rfl Xl he n (x+1) (es++[d]) (row++[(es.length:Int)]) (by omega) (jH.snoc hd hm rS) (by simp;omega) (by rw[Cm fq,nM]) (by simp[hr])
     have di:qk CC bud a1 a2 L (k:Int) l1 l2 l3 (((x:Nat):Int),row.map (fun n=>V.int .i64 n),es.map enc)=some (.inl (((x+1:Nat):Int),(row++[(es.length:Int)]).map (fun n=>V.int .i64 n),(es++[d]).map enc)):=by
      simp only[qk,tw,y4,un]
      refine bT aN ((nh bI).trans ?_)
      rw[aW,bc,a9]
      refine bs hb (bF rfl ?_)
      rw[aL]
      refine bs HG ?_
      simp only[un]
      rw[HH]
      refine bT rfl (bF (by rw[tz];omega) ?_)
      refine bT (by rw[cV,gz];simp;omega) ?_
      simp only[bV,un]
      refine bT (by rw[cV,gz];simp;omega) ?_
      rw[jx (by omega),eh,eh,cy (f:=enc),dg d]
      rfl
     exact ⟨fun p hp=>(bJ di).trans (i1 p hp),fun hp=>(bJ di).trans (i2 hp)⟩
theorem Xm {a1 a2:Int} {l1 l2:List V}: ∀(n:Nat) (s:Dv),Gs s→n≤1000000→
  (∀t,fx n s=some t→∃b c,Loop (rU CC a1 a2 s.L l1 l2) ((n:Int),s.dn,s.es.map enc,s.nx.map dv)=some (.inr (b,c,t.dn,t.es.map enc,t.nx.map dv)))
  ∧(fx n s=none→Loop (rU CC a1 a2 s.L l1 l2) ((n:Int),s.dn,s.es.map enc,s.nx.map dv)=some (.inl (3,0,0,[],[])))
 | 0,s,hs,_=>by
  refine ⟨fun t ht=>⟨0,false,?_⟩,fun h=>by simp[fx] at h⟩
  cases ht
  refine aS ?_
  simp only[rU,tx,un]
  rfl
 | n+1,s,hs,hn=>by
  rw[fx]
  have jE:decide (((n+1:Nat):Int)>0)=true:=dr (by omega)
  have Nk:=hs.dn
  by_cases hd:s.dn<s.es.length
  ·rw[aj hd]
   have hL:=hs.L
   have hq:s.dn.toNat<s.es.length:=by omega
   have hle:=hs.es.le
   have kK:=hs.nl
   have C4:decide (s.dn<((s.es.map enc).length:Int))=true:=dr (by rw[aL];exact hd)
   obtain ⟨l1',l2'⟩:=NW (L:=s.L) (dn:=s.dn) (e:=s.es.getD s.dn.toNat aR) (k:=s.dn.toNat) (bud:=((n+1:Nat):Int)) (a1:=a1) (a2:=a2) (l1:=l1) (l2:=l2) (l3:=s.nx.map dv) (by omega) hL.2 (hs.es.nv _ (tm hq)) s.L.toNat 0 s.es [] (by omega) hs.es hq rfl rfl
   cases hp:proc s with
   | none=>
    have hr:km (s.es.getD s.dn.toNat aR) s.L.toNat 0 s.es []=none:=by
     unfold proc at hp
     rwa [Option.map_eq_none_iff] at hp
    refine ⟨fun t ht=>(by cases ht),fun _=>aS ?_⟩
    simp only[rU,tx,un]
    refine bT jE (bT C4 ?_)
    refine bs (l2' hr) ?_
    rfl
   | some u=>
    obtain ⟨p,bq,gr⟩:=Nj hp
    obtain ⟨g,gL,g2,_⟩:=Ha hs hd hp
    obtain ⟨i1,i2⟩:=Xm (a1:=a1) (a2:=a2) (l1:=l1) (l2:=l2) n u g (by omega)
    have di:rU CC a1 a2 s.L l1 l2 (((n+1:Nat):Int),s.dn,s.es.map enc,s.nx.map dv)=some (.inl ((n:Int),u.dn,u.es.map enc,u.nx.map dv)):=by
     simp only[rU,tx,un]
     refine bT jE (bT C4 ?_)
     refine bs (l1' p bq) ?_
     simp only[bV,un]
     refine bT (by rw[cV,gz];simp;omega) ?_
     rw[wrap64 (by omega) (by omega),wrap64 (by omega) (by omega),gr,show ((n+1:Nat):Int)-1=(n:Int) by omega]
     simp only[eh]
     rfl
    rw[gL] at i1 i2
    refine ⟨fun t ht=> ?_,fun ht=>(bJ di).trans (i2 ht)⟩
    obtain ⟨b,c,h⟩:=i1 t ht
    exact ⟨b,c,(bJ di).trans h⟩
  ·rw[ai hd]
   refine ⟨fun t ht=>⟨((n+1:Nat):Int),false,?_⟩,fun ht=>(by cases ht)⟩
   cases ht
   refine aS ?_
   have C4:decide (s.dn<((s.es.map enc).length:Int))=false:=b7 (by rw[aL];exact hd)
   simp only[rU,tx,un]
   refine bT jE (bF C4 ?_)
   rw[C4]
def HI (d:Dv) (b:Int):Dv × Int:=match fx b.toNat d with|some t=>(t,0)|none=>(.zero,3)
theorem Xn {d:Dv} (hs:Gs d) (b:Int) (hb:b≤1000000):CC AS (CJ d [.int .i64 b])=some (Hq (HI d b)):=by
 have hle:=hs.es.le
 have kK:=hs.nl
 have hdn:=hs.dn
 refine ajL ?_
 unfold Xh HI
 refine bT (by rw[cV,gz];simp;omega) (bT (by rw[cV,gz];simp;omega) ?_)
 rw[List.nil_append,List.nil_append]
 by_cases h0:0≤b
 ·obtain ⟨l1,l2⟩:=Xm (a1:=0) (a2:=0) (l1:=[]) (l2:=[]) b.toNat d hs (by omega)
  rw[show ((b.toNat:Nat):Int)=b by omega] at l1 l2
  cases hp:fx b.toNat d with
  | none=>exact bs (l2 hp) rfl
  | some t=>
   obtain ⟨x,y,h⟩:=l1 t hp
   refine bs h ?_
   have hL:=(rO _ _ _ hs hp).2.1
   unfold Hq
   rw[hL]
   rfl
 ·rw[show b.toNat=0 by omega,fx]
  refine bs (a:= .inr (b,false,d.dn,d.es.map enc,d.nx.map dv)) (aS ?_) rfl
  simp only[rU,tx,un]
  rw[az,ai (by omega)]
theorem ajS {a b:List Ex} (ha: ∀e∈a,e.Ok) (hb: ∀e∈b,e.Ok) (hl:a.length≤maxLen) (he:a.length=b.length) {x1 x2 x3 x4:Int} {l1 l2:List V}:Loop (CX CC (a.length:Int) x1 (a.map enc) l1 x2 x3 (b.map enc) l2 x4) 0=some (if a=b then .inr ((a.length:Int),false) else .inl false):=by
 have hm:=mZ
 have loop:Loop (CX CC (a.length:Int) x1 (a.map enc) l1 x2 x3 (b.map enc) l2 x4) 0=some (if∀i,i<a.length→a.getD i aR=b.getD i aR then .inr ((a.length:Int),false) else .inl false):=by
  refine L1 (good:=fun i=>a.getD i aR=b.getD i aR) a.length (fun i=>(i:Int)) (Sum.inl false:Bool ⊕ (Int × Bool)) (Sum.inr ((a.length:Int),false)) (fun i hi=> ?_) ?_
  ·simp only[CX,CW]
   refine bT (lE hi) (bs (ox (z:=aR) hi) (bs (ox (z:=aR) (by omega)) ?_))
   rw[aW,bc,a9,aW,bc,a9]
   refine bs (Hv _ (ha _ (tm hi)) _ (hb _ (tm (by omega)))) ?_
   by_cases h:a.getD i aR=b.getD i aR
   ·rw[aj h]
    refine bF (by rw[V.aT,V.toInt_int,Bo.2 h];rfl) ?_
    rw[wrap64 (by omega) (by omega)]
    rfl
   ·rw[ai h]
    refine bT ?_ rfl
    rw[V.aT,V.toInt_int,nt]
    exact fun hx=>h (Bo.1 hx)
  ·simp only[CX,CW]
   rw[az,ai (by omega),b7 (by omega)]
 rw[loop]
 by_cases h:a=b
 ·rw[aj ((yN he).2 h),aj h]
 ·rw[ai fun hx=>h ((yN he).1 hx),ai h]
theorem ajT {A B:List (List Int)} {i:Nat} (hi:i<A.length) (hiB:i<B.length) (hr:(A.getD i []).length≤maxLen) (he:(A.getD i []).length=(B.getD i []).length) {y1 y2 x1 x2 x3 x4:Int} {l1 l2:List V}:Loop (CZ CC (i:Int) y1 y2 ((A.getD i []).length:Int) x1 l1 (A.map dv) x2 x3 l2 (B.map dv) x4) 0=some (if A.getD i []=B.getD i [] then .inr (((A.getD i []).length:Int),false) else .inl false):=by
 have hm:=mZ
 have loop:Loop (CZ CC (i:Int) y1 y2 ((A.getD i []).length:Int) x1 l1 (A.map dv) x2 x3 l2 (B.map dv) x4) 0=some (if∀j,j<(A.getD i []).length→(A.getD i []).getD j 0=(B.getD i []).getD j 0 then .inr (((A.getD i []).length:Int),false) else .inl false):=by
  refine L1 (good:=fun j=>(A.getD i []).getD j 0=(B.getD i []).getD j 0) (A.getD i []).length (fun j=>(j:Int)) (Sum.inl false:Bool ⊕ (Int × Bool)) (Sum.inr (((A.getD i []).length:Int),false)) (fun j hj=> ?_) ?_
  ·simp only[CZ,CY]
   refine bT (lE hj) (bs (ox (z:=[]) hi) (bs (ox (f:=fun n=>V.int .i64 n) (z:=0) hj) (bs (ox (z:=[]) hiB) (bs (ox (f:=fun n=>V.int .i64 n) (z:=0) (by omega)) ?_))))
   rw[V.toInt_int,V.toInt_int]
   by_cases h:(A.getD i []).getD j 0=(B.getD i []).getD j 0
   ·rw[aj h]
    refine bF (by rw[tG];exact h) ?_
    rw[wrap64 (by omega) (by omega)]
    rfl
   ·rw[ai h]
    exact bT (by rw[nt];exact h) rfl
  ·simp only[CZ,CY]
   rw[az,ai (by omega),b7 (by omega)]
 rw[loop]
 by_cases h:A.getD i []=B.getD i []
 ·rw[aj ((yN he).2 h),aj h]
 ·rw[ai fun hx=>h ((yN he).1 hx),ai h]
theorem ajU {A B:List (List Int)} (hr: ∀r∈A,r.length≤maxLen) (hl:A.length≤maxLen) (he:A.length=B.length) {x1 x2 x3 x4:Int} {l1 l2:List V}:Loop (C3 CC (A.length:Int) x1 l1 (A.map dv) x2 x3 l2 (B.map dv) x4) 0=some (if A=B then .inr ((A.length:Int),false) else .inl false):=by
 have hm:=mZ
 have NX: ∀r:List Int,((dv r).toList.length:Int)=(r.length:Int):=fun r=>by show (((r.map fun n=>V.int .i64 n).length:Nat):Int)=_;rw[aL]
 have loop:Loop (C3 CC (A.length:Int) x1 l1 (A.map dv) x2 x3 l2 (B.map dv) x4) 0=some (if∀i,i<A.length→A.getD i []=B.getD i [] then .inr ((A.length:Int),false) else .inl false):=by
  refine L1 (good:=fun i=>A.getD i []=B.getD i []) A.length (fun i=>(i:Int)) (Sum.inl false:Bool ⊕ (Int × Bool)) (Sum.inr ((A.length:Int),false)) (fun i hi=> ?_) ?_
  ·have bI:=ox (f:=dv) (z:=[]) hi
   simp only[C3,C2]
   refine bT (lE hi) (bs bI (bs (ox (z:=[]) (by omega)) ?_))
   rw[NX,NX]
   by_cases hlen:(A.getD i []).length=(B.getD i []).length
   ·refine bF (by rw[tG,hlen]) (bs bI ?_)
    rw[NX]
    refine bs (ajT hi (by omega) (hr _ (tm hi)) hlen) ?_
    by_cases h:A.getD i []=B.getD i []
    ·rw[aj h,aj h]
     simp only[bV,un]
     rw[wrap64 (by omega) (by omega)]
     rfl
    ·rw[ai h,ai h]
     rfl
   ·rw[ai fun h=>hlen (by rw[h])]
    exact bT (by rw[nt];omega) rfl
  ·simp only[C3,C2]
   rw[az,ai (by omega),b7 (by omega)]
 rw[loop]
 by_cases h:A=B
 ·rw[aj ((yN he).2 h),aj h]
 ·rw[ai fun hx=>h ((yN he).1 hx),ai h]
theorem ajV {a b:Dv} (ha:a.Ok) (hb:b.Ok):CC Fk (CJ a (CJ b []))=some [.bool (decide (a=b))]:=by
 refine ajP ?_
 unfold Xj
 obtain ⟨L,es,nx,dn⟩:=a
 obtain ⟨L',aK,Xo,dn'⟩:=b
 simp only[aL]
 by_cases h1:L=L'
 case neg=>
  rw[b7 fun h=>h1 (Dv.mk.inj h).1]
  exact bT (by rw[nt];exact h1) rfl
 refine bF (by rw[tG];exact h1) ?_
 by_cases U:dn=dn'
 case neg=>
  rw[b7 fun h=>U (Dv.mk.inj h).2.2.2]
  exact bT (by rw[nt];exact U) rfl
 refine bF (by rw[tG];exact U) ?_
 by_cases h3:es.length=aK.length
 case neg=>
  rw[b7 fun h=>h3 (by rw[(Dv.mk.inj h).2.1])]
  exact bT (by rw[nt];omega) rfl
 refine bF (by rw[tG,h3]) ?_
 by_cases h4:nx.length=Xo.length
 case neg=>
  rw[b7 fun h=>h4 (by rw[(Dv.mk.inj h).2.2.1])]
  exact bT (by rw[nt];omega) rfl
 refine bF (by rw[tG,h4]) ?_
 refine bs (ajS ha.es hb.es ha.el h3) ?_
 by_cases h5:es=aK
 case neg=>
  rw[ai h5,b7 fun h=>h5 (Dv.mk.inj h).2.1];rfl
 rw[aj h5]
 simp only[bV,un]
 refine bs (ajU ha.rl ha.nl h4) ?_
 by_cases h6:nx=Xo
 ·rw[aj h6,dr (by rw[h1,U,h5,h6])];rfl
 ·rw[ai h6,b7 fun h=>h6 (Dv.mk.inj h).2.2.1];rfl
end Go.AM
set_option maxRecDepth 100000
namespace Go.AM
open Go.Proofs
noncomputable def Xp (C:ag) (cz:Int) (cp gj:List V) (gC:Int):Option (List V):=
 bif decide (((cp.length:Int):Int)<1) then
  some [.int .i64 8]
 else
  bif decide (((cp.length:Int):Int)>512) then
  some [.int .i64 8]
  else
  bif decide ((gC:Int)<0) then
   some [.int .i64 8]
  else
   bif decide ((gC:Int)>(cp.length:Int)) then
   some [.int .i64 8]
   else
   bif ((gj.length:Int):Int) != gC then
    some [.int .i64 8]
   else
    (cp[0]?).bind fun x1=>
    (C AQ [.int .i64 ((x1.cell 0).toInt),.int .i64 ((x1.cell 1).toInt),.list aa ((x1.cell 2).toList),.int .i64 cz]).bind fun r2=>
    bif (((V.nth (r2.drop 2) 0).toInt):Int) != 0 then
    some [.int .i64 8]
    else
    (C AS [.int .i64 ((V.nth r2 0).toInt),.list aa ((V.nth (r2.drop 3) 0).toList),.list bK ((V.nth ((r2.drop 3).drop 1) 0).toList),.int .i64 ((V.nth (r2.drop 1) 0).toInt),.int .i64 gC]).bind fun r3=>
    bif (((V.nth (r3.drop 2) 0).toInt):Int) != 0 then
     some [.int .i64 8]
    else
     (C Fk [.int .i64 ((V.nth r3 0).toInt),.list aa ((V.nth (r3.drop 3) 0).toList),.list bK ((V.nth ((r3.drop 3).drop 1) 0).toList),.int .i64 ((V.nth (r3.drop 1) 0).toInt),.int .i64 cz,.list aa cp,.list bK gj,.int .i64 gC]).bind fun r4=>
     bif !((V.nth r4 0).toBool) then
     some [.int .i64 8]
     else
     some [.int .i64 0]
theorem ajW {cz:Int} {cp gj:List V} {gC:Int} {r:Option (List V)} (h:Xp CC cz cp gj gC=r):CC Fx [.int .i64 cz,.list aa cp,.list bK gj,.int .i64 gC]=r:=
 bh (key:=62) (L:=cw) (bs:=[]) (by kernel_rfl) aw (bd (by kernel_rfl) h)
end Go.AM
set_option maxRecDepth 100000
namespace Go.AM
open Go.Proofs Ex
theorem ajX {d:Dv} (hd:d.Ok):CC Fx (CJ d [])=some [.int .i64 (if pk d=true then 0 else 8)]:=by
 refine ajW ?_
 unfold Xp
 simp only[aL]
 have no: ∀{r:Option (List V)},pk d=false→some [V.int .i64 8]=r→r=some [V.int .i64 (if pk d=true then 0 else 8)]:=fun h e=>by rw[←e,h];rfl
 have g:pk d=true→Gs d:=fun h=>(VM h).1
 have fl: ∀{p:Prop},(pk d=true→p)→¬p→pk d=false:=fun h hn=>by
  cases hs:pk d with
  | false=>rfl
  | true=>exact absurd (h hs) hn
 by_cases h1:(d.es.length:Int)<1
 ·exact bT (dr h1) (by rw[fl (fun h=>(g h).ne) fun bD=>bD (mA.1 (by omega))];rfl)
 refine bF (b7 h1) ?_
 by_cases U:(d.es.length:Int)>512
 ·exact bT (dr U) (by rw[fl (fun h=>(g h).es.le) (by omega)];rfl)
 refine bF (b7 U) ?_
 by_cases h3:d.dn<0
 ·exact bT (dr h3) (by rw[fl (fun h=>(g h).dn.1) (by omega)];rfl)
 refine bF (b7 h3) ?_
 by_cases h4:d.dn>(d.es.length:Int)
 ·exact bT (dr h4) (by rw[fl (fun h=>(g h).dn.2) (by omega)];rfl)
 refine bF (b7 h4) ?_
 by_cases h5:(d.nx.length:Int)=d.dn
 case neg=>exact bT (by rw[nt];exact h5) (by rw[fl (fun h=>(g h).nl) (by omega)];rfl)
 refine bF (by rw[tG];exact h5) ?_
 have hp:0<d.es.length:=by omega
 have hx:(d.es.map enc)[0]? =some (d.es.getD 0 aR).enc:=by
  rw[fR,bC hp,gl,bC hp];rfl
 have ho:=hd.es _ (tm (z:=aR) hp)
 refine bs hx ?_
 rw[aW,bc,a9]
 refine bs (Xk ho d.L) ?_
 unfold Hr
 by_cases hv:(d.es.getD 0 aR).val d.L=0
 case neg=>
  rw[ai hv]
  refine bT ?_ (by rw[fl (fun h=>(kq h).2.2.1) hv];rfl)
  show ((d.es.getD 0 aR).val d.L != 0)=true
  rw[nt];exact hv
 rw[aj hv]
 have hg:=rP hv
 refine bF rfl ?_
 refine bs (Xn hg d.dn (by omega)) ?_
 unfold HI
 cases HJ:fx d.dn.toNat (iu (d.es.getD 0 aR) d.L) with
 | none=>
  refine bT rfl ?_
  rw[fl (fun h=>Hb _ _ _ (kq h).2.2.2.2) (by rw[HJ];simp)]
  rfl
 | some t=>
  refine bF rfl ?_
  refine bs (ajV (WC (rO _ _ _ hg HJ).1) hd) ?_
  by_cases he:t=d
  ·refine bF (by rw[V.aT,V.ee,dr he];rfl) ?_
   rw[VL hv (n:=d.dn.toNat) (by rw[HJ,he])]
   rfl
  ·refine bT (by rw[V.aT,V.ee,b7 he];rfl) ?_
   rw[fl (fun h=>Hb _ _ _ (kq h).2.2.2.2) (by rw[HJ];simpa using he)]
   rfl
end Go.AM
set_option maxRecDepth 100000
namespace Go.AM
open Go.Proofs
noncomputable abbrev Xq:Code:=cF Try.prog (ay.aV 46)
noncomputable def C6 (C:ag) (t27:List V) (t28 iR iS eX dS:Int) (mw dq bt:List V) (t29:Int) (dD:List V) {β:Type} (kn:(Int × (List V))→Option β) (kr:(Int × Bool × (List V))→Option β):Option β:=
 bif decide ((t29:Int)<t28) then
  (idx t27 t29).bind fun x2=>
  (C xm [.int .i64 ((x2.cell 0).toInt),.int .i64 ((x2.cell 1).toInt),.list aa ((x2.cell 2).toList)]).bind fun r3=>
  bif Nat.ble ((dD.length+([.bool ((V.nth r3 0).toBool)]:List V).length)*1) bP then
  kn (IntKind.wrap .i64 (t29+1),dD++([.bool ((V.nth r3 0).toBool)]:List V))
  else none
 else
  kr (t29,decide ((t29:Int)<t28),dD)
noncomputable def HK (C:ag) (t27:List V) (t28 iR iS eX dS:Int) (mw dq bt:List V):(Int × (List V))→Option ((Int × (List V)) ⊕ (Int × Bool × (List V))):=un fun t29 dD=>C6 C t27 t28 iR iS eX dS mw dq bt t29 dD (fun y=>some (.inl y)) (fun r=>some (.inr r))
noncomputable def Xr (C:ag):ct:=fun β n ds k=>
 bif Nat.beq n 129 then bW KN [false,false,true,false,false,false,false,false,false,false,true] [[1,2,0,0,4,5,6,7,8,9,10,0]] (@C6 C) ds k else
 none
abbrev ajY (C:ag) (b:cq):Prop:=cr Try.prog ay C (Xr C) 46 (cK Try.prog (ay.aV 46)) (ay.sin 46).bj.length b
theorem ajZ (C:ag):ajY C (.loop (av [1,1,1,1,0,1,0,0] Xq)):=
 bY KN [false,false,true,false,false,false,false,false,false,false,true] [[1,2,0,0,4,5,6,7,8,9,10,0]] (@C6 C) (by kernel_rfl) (aZ (bs:=[]) (by kernel_rfl) aw) (fun ds=>by kernel_rfl) (fun i x=>by kernel_rfl) (fun i x β k=>by kernel_rfl) (fun β ds k=>by kernel_rfl)
noncomputable def Xs (C:ag) (cz:Int) (cp gj:List V) (gC:Int):Option (List V):=
 (C Fx [.int .i64 cz,.list aa cp,.list bK gj,.int .i64 gC]).bind fun r1=>
 bif (((V.nth r1 0).toInt):Int) != 0 then
  some [.int .i64 0,.int .i64 0,.list eE ([]:List V),.list bK ([]:List V),.int .i64 ((V.nth r1 0).toInt)]
 else
  bif decide ((gC:Int)<(cp.length:Int)) then
  some [.int .i64 0,.int .i64 0,.list eE ([]:List V),.list bK ([]:List V),.int .i64 7]
  else
  (Loop (HK C cp (cp.length:Int) 0 0 cz 0 gj ([]:List V) ([]:List V)) (0,([]:List V))).bind (un fun (j7:Int)=>un fun (m7:Bool) (NY:List V)=>
   some [.int .i64 cz,.int .i64 0,.list eE NY,.list bK gj,.int .i64 0])
theorem aj0 {cz:Int} {cp gj:List V} {gC:Int} {r:Option (List V)} (h:Xs CC cz cp gj gC=r):CC Fu [.int .i64 cz,.list aa cp,.list bK gj,.int .i64 gC]=r:=
 bh (key:=46) (L:=Xr CC) (bs:=[.loop (av [1,1,1,1,0,1,0,0] Xq)]) (by kernel_rfl) (bu (ajZ CC) aw) (bd (by kernel_rfl) h)
noncomputable abbrev HL:Code:=cF Try.prog (ay.aV 15)
noncomputable def HM (C:ag) (f:Int) (t15:Bool) (ew ey mo mq:Int) (dq bt dD ch:List V) {β:Type} (kr:(Int × Int × Int × (List V) × (List V))→Option β):Option β:=
 bif t15 then
  (C AS [.int .i64 mo,.list aa dD,.list bK ch,.int .i64 mq,.int .i64 513]).bind fun r2=>
  kr ((V.nth (r2.drop 2) 0).toInt,(V.nth r2 0).toInt,(V.nth (r2.drop 1) 0).toInt,(V.nth (r2.drop 3) 0).toList,(V.nth ((r2.drop 3).drop 1) 0).toList)
 else
  kr (f,mo,mq,dD,ch)
noncomputable def Xt (C:ag):ct:=fun β n ds k=>
 bif Nat.beq n 255 then ij Kw [[0,3,4,0,0,7,8,0,0]] (@HM C) ds k else
 none
abbrev aj1 (C:ag) (b:cq):Prop:=cr Try.prog ay C (Xt C) 15 (cK Try.prog (ay.aV 15)) (ay.sin 15).bj.length b
theorem aj2 (C:ag):aj1 C (.cond 15 (av [1,1,0,1,0] HL) (av [1,1,0,1,1] HL)):=
 iL Kw [[0,3,4,0,0,7,8,0,0]] (@HM C) (by kernel_rfl) (aZ (bs:=[]) (by kernel_rfl) aw) (aZ (bs:=[]) (by kernel_rfl) aw) (fun ds=>by kernel_rfl) (fun i β k=>by kernel_rfl) (fun β ds k=>by kernel_rfl)
noncomputable def Xu (C:ag) (ah aq:Int) (af:List V) (letters:Int):Option (List V):=
 (C AQ [.int .i64 ah,.int .i64 aq,.list aa af,.int .i64 letters]).bind fun r1=>
 HM C ((V.nth (r1.drop 2) 0).toInt) ((((V.nth (r1.drop 2) 0).toInt):Int)==0) 0 0 ((V.nth r1 0).toInt) ((V.nth (r1.drop 1) 0).toInt) ([]:List V) ([]:List V) ((V.nth (r1.drop 3) 0).toList) ((V.nth ((r1.drop 3).drop 1) 0).toList) (un fun (Xv:Int)=>un fun (aj3:Int)=>un fun (aj4:Int)=>un fun (NY:List V) (b_7:List V)=>
  bif (Xv:Int) != 0 then
   some [.int .i64 0,.int .i64 0,.list eE ([]:List V),.list bK ([]:List V),.int .i64 Xv]
  else
   (C Fu [.int .i64 aj3,.list aa NY,.list bK b_7,.int .i64 aj4]).bind fun r8=>
   some [.int .i64 ((V.nth r8 0).toInt),.int .i64 ((V.nth (r8.drop 1) 0).toInt),.list eE ((V.nth ((r8.drop 1).drop 1) 0).toList),.list bK ((V.nth (((r8.drop 1).drop 1).drop 1) 0).toList),.int .i64 ((V.nth (r8.drop 4) 0).toInt)])
theorem aj5 {ah aq:Int} {af:List V} {letters:Int} {r:Option (List V)} (h:Xu CC ah aq af letters=r):CC AO [.int .i64 ah,.int .i64 aq,.list aa af,.int .i64 letters]=r:=
 bh (key:=15) (L:=Xt CC) (bs:=[.cond 15 (av [1,1,0,1,0] HL) (av [1,1,0,1,1] HL)]) (by kernel_rfl) (bu (aj2 CC) aw) (bd (by kernel_rfl) h)
end Go.AM
set_option maxRecDepth 100000
namespace Go.AM
open Go.Proofs Ex
abbrev Xw (p:Fa × Int):List V:=[.int .i64 p.1.L,.int .i64 0,.list eE (p.1.F.map V.bool),.list bK (p.1.N.map dv),.int .i64 p.2]
theorem aj6 {es:List Ex} (hn:es.length≤1000) (ho: ∀e∈es,Nv e) {a b c1 c2:Int} {l1 l2 l3:List V}: ∀(ax pre:List Ex),es=pre++ax→
  Loop (HK CC (es.map enc) (es.length:Int) a b c1 c2 l1 l2 l3) (((pre.length:Nat):Int),(pre.map Ex.cH).map V.bool)=some ((es.length:Int),false,(es.map Ex.cH).map V.bool):=by
 intro ax
 induction ax with
 | nil=>
  intro pre e
  rw[cR] at e
  subst e
  refine aS ?_
  simp only[HK,C6,un]
  rw[az,ai (by omega),b7 (by omega)]
 | cons k ax dW=>
  intro pre e
  have bU:pre.length<es.length:=by rw[e];simp
  have hk:k∈es:=by rw[e];simp
  have bI:idx (es.map enc) (pre.length:Int)=some k.enc:=by rw[e];exact ga _ _ _
  have hv:=lC (ho k hk).2
  refine (bJ ?_).trans (dW (pre++[k]) (by simp[e]))
  simp only[HK,C6,un]
  refine bT (lE bU) (bs bI ?_)
  rw[aW,bc,a9]
  refine bs (WI k (m8 (by omega) k hv.2.2 (by omega))) ?_
  refine bT (by rw[cV,gz];simp;omega) ?_
  rw[jx (by omega)]
  simp only[eh,cy,fD,bZ,List.length_cons,List.length_nil]
  rfl
def HN (d:Dv):Fa × Int:=if pk d=true then (if d.dn<d.es.length then (.zero,7) else (Hs d,0)) else (.zero,8)
theorem aj7 {d:Dv} (hd:d.Ok):CC Fu (CJ d [])=some (Xw (HN d)):=by
 refine aj0 ?_
 unfold Xs HN
 refine bs (ajX hd) ?_
 cases hs:pk d with
 | false=>exact bT rfl rfl
 | true=>
  refine bF rfl ?_
  rw[aj rfl,aL,az]
  have g:=(VM hs).1
  have hle:=g.es.le
  by_cases h:d.dn<(d.es.length:Int)
  ·rw[aj h,aj h];rfl
  ·rw[ai h,ai h]
   exact bs (aj6 (by omega) g.es.nv d.es [] rfl) rfl
theorem aj8 {e:Ex} {L:Int} (hv:e.val L=0) {t:Dv} (ht:fx 513 (iu e L)=some t):HN t=(Hs t,0):=by
 unfold HN
 have hf:=ahJ (rP hv) (n:=513) (by show 513≤(0:Int)+_;omega) ht
 rw[VL hv ht,aj rfl,ai (by omega)]
theorem Xx {e:Ex} (h:e.Ok) (L:Int):CC AO (bS e [.int .i64 L])=some (Xw (rT e L)):=by
 refine aj5 ?_
 unfold Xu HM rT
 refine bs (Xk h L) ?_
 unfold Hr
 by_cases hv:e.val L=0
 ·rw[aj hv,aj hv]
  refine bT rfl ?_
  refine bs (Xn (rP hv) 513 (by omega)) ?_
  unfold HI
  rw[show (513:Int).toNat=513 from rfl]
  cases hp:fx 513 (iu e L) with
  | none=>
   simp only[un]
   exact bT rfl rfl
  | some t=>
   simp only[un]
   refine bF rfl ?_
   have ha:=aj7 (WC (rO _ _ _ (rP hv) hp).1)
   rw[aj8 hv hp] at ha
   exact bs ha rfl
 ·rw[ai hv,ai hv]
  refine bF (by show (e.val L==0)=false;rw[tz];exact hv) ?_
  simp only[un]
  exact bT (by show (e.val L != 0)=true;rw[nt];exact hv) rfl
end Go.AM
set_option maxRecDepth 100000
namespace Go.AM
open Go.Proofs
abbrev Lg:=List UInt8→Prop
def L2 (A B:Lg):Lg:=fun w=> ∃u v,w=u++v∧A u∧B v
inductive lG (A:Lg):Lg
 | nil:lG A []
 | cons {u v:List UInt8}:A u→lG A v→lG A (u++v)
def Xy:List Lg→Lg
 | []=>fun _=>False
 | L::_=>L
def aj9:List Lg→Lg
 | []=>fun w=>w=[]
 | L::Ls=>Ls.foldl L2 L
def opL (o l:Int) (Ls:List Lg):Lg:=fun w=>
 if o=2 then w=[] else if o=3 then∃c:UInt8,w=[c]∧(c.toNat:Int)-97=l
 else if o=4 then∃L∈Ls,L w else if o=5 then aj9 Ls w else if o=6 then∀L∈Ls,L w
 else if o=7 then lG (Xy Ls) w else if o=8 then¬Xy Ls w else False
mutual
def Ex.Wf:Ex→Lg
 | .node o l ks=>opL o l (Ex.Xz ks)
def Ex.Xz:List Ex→List Lg
 | []=>[]
 | k::ks=>Ex.Wf k::Ex.Xz ks
end
theorem lG.append {A:Lg} {u v:List UInt8} (h:lG A u) (U:lG A v):lG A (u++v):=by
 induction h with
 | nil=>exact U
 | cons a _ ih=>rw[cx];exact .cons a ih
theorem lG.one {A:Lg} {u:List UInt8} (h:A u):lG A u:=by
 have:=lG.cons h (lG.nil (A:=A));rwa [cR] at this
theorem lG.first {A:Lg} {w:List UInt8} (h:lG A w):w=[]∨∃u v,u≠[]∧w=u++v∧A u∧lG A v:=by
 induction h with
 | nil=>exact .inl rfl
 | @cons u v a hv ih=>
  by_cases hu:u=[]
  ·subst hu;simpa using ih
  ·exact .inr ⟨u,v,hu,rfl,a,hv⟩
def sl (w:List UInt8) (i j:Nat):List UInt8:=(w.drop i).take (j-i)
def XA (w:List UInt8) (i:Nat):Int:=((w.getD i 0).toNat:Int)-97
def XB (w:List UInt8) (L:Int):Prop:=1≤L∧L≤6∧w.length≤2048∧∀i,i<w.length→0≤XA w i∧XA w i<L
instance (w:List UInt8) (L:Int):Decidable (XB w L):=by unfold XB;infer_instance
noncomputable abbrev y6:Code:=cF Try.prog (ay.aV 16)
noncomputable def C7 (C:ag) (t40 gV gD:Int) (e9 gX:List V) (gW gE:Int) (fa iw:List V) (t41:Int) {β:Type} (kn:Int→Option β) (kr:((Bool) ⊕ (Int × Bool))→Option β):Option β:=
 bif decide ((t41:Int)<t40) then
  (idx e9 t41).bind fun x1=>
  (idx fa t41).bind fun x2=>
  bif !(x1.toBool==x2.toBool) then
  kr (.inl false)
  else
  kn (IntKind.wrap .i64 (t41+1))
 else
  kr (.inr (t41,decide ((t41:Int)<t40)))
noncomputable def HO (C:ag) (t40 gV gD:Int) (e9 gX:List V) (gW gE:Int) (fa iw:List V):(Int)→Option ((Int) ⊕ ((Bool) ⊕ (Int × Bool))):=fun t41=>C7 C t40 gV gD e9 gX gW gE fa iw t41 (fun y=>some (.inl y)) (fun r=>some (.inr r))
noncomputable def C8 (C:ag) (q t58 t59 t80 gV gD:Int) (e9 gX:List V) (gW gE:Int) (fa iw:List V) (t81:Int) {β:Type} (kn:Int→Option β) (kr:((Bool) ⊕ (Int × Bool))→Option β):Option β:=
 bif decide ((t81:Int)<t80) then
  (idx gX q).bind fun x9=>
  (idx x9.toList t81).bind fun kW=>
  (idx iw q).bind fun eK=>
  (idx eK.toList t81).bind fun ka=>
  bif (kW.toInt:Int) != ka.toInt then
  kr (.inl false)
  else
  kn (IntKind.wrap .i64 (t81+1))
 else
  kr (.inr (t81,decide ((t81:Int)<t80)))
noncomputable def HP (C:ag) (q t58 t59 t80 gV gD:Int) (e9 gX:List V) (gW gE:Int) (fa iw:List V):(Int)→Option ((Int) ⊕ ((Bool) ⊕ (Int × Bool))):=fun t81=>C8 C q t58 t59 t80 gV gD e9 gX gW gE fa iw t81 (fun y=>some (.inl y)) (fun r=>some (.inr r))
noncomputable def C9 (C:ag) (t58 gV gD:Int) (e9 gX:List V) (gW gE:Int) (fa iw:List V) (t59:Int) {β:Type} (kn:Int→Option β) (kr:((Bool) ⊕ (Int × Bool))→Option β):Option β:=
 bif decide ((t59:Int)<t58) then
  (idx gX t59).bind fun x6=>
  (idx iw t59).bind fun x7=>
  bif ((x6.toList.length:Int):Int) != (x7.toList.length:Int) then
  kr (.inl false)
  else
  (idx gX t59).bind fun x8=>
  (Loop (HP C t59 t58 t59 (x8.toList.length:Int) gV gD e9 gX gW gE fa iw) 0).bind (bV (fun (Bj:Bool)=>
   kr (.inl Bj)) (un fun (rz:Int) (p8:Bool)=>
   kn (IntKind.wrap .i64 (t59+1))))
 else
  kr (.inr (t59,decide ((t59:Int)<t58)))
noncomputable def HQ (C:ag) (t58 gV gD:Int) (e9 gX:List V) (gW gE:Int) (fa iw:List V):(Int)→Option ((Int) ⊕ ((Bool) ⊕ (Int × Bool))):=fun t59=>C9 C t58 gV gD e9 gX gW gE fa iw t59 (fun y=>some (.inl y)) (fun r=>some (.inr r))
noncomputable def XC (C:ag):ct:=fun β n ds k=>
 bif Nat.beq n 65 then bW Kx [false,true,false,false,false,false,false,false,false,false] [[0],[1,0,0,3,4,5,6,7,8,9,10]] (@C7 C) ds k else
 bif Nat.beq n 241 then bW Ky [false,false,false,false,true,false,false,false,false,false,false,false,false] [[0],[1,2,3,4,0,0,6,7,8,9,10,11,12,13]] (@C8 C) ds k else
 bif Nat.beq n 161 then bW Kz [false,true,false,false,false,false,false,false,false,false] [[0],[1,0,0,3,4,5,6,7,8,9,10]] (@C9 C) ds k else
 none
abbrev NZ (C:ag) (b:cq):Prop:=cr Try.prog ay C (XC C) 16 (cK Try.prog (ay.aV 16)) (ay.sin 16).bj.length b
theorem aka (C:ag):NZ C (.loop (av [1,1,0,1,0,0] y6)):=
 bY Kx [false,true,false,false,false,false,false,false,false,false] [[0],[1,0,0,3,4,5,6,7,8,9,10]] (@C7 C) (by kernel_rfl) (aZ (bs:=[]) (by kernel_rfl) aw) (fun ds=>by kernel_rfl) (fun i x=>by kernel_rfl) (fun i x β k=>by kernel_rfl) (fun β ds k=>by kernel_rfl)
theorem akb (C:ag):NZ C (.loop (av [1,1,1,0,1,0,0,1,1,0,0,1,1,1,0,0] y6)):=
 bY Ky [false,false,false,false,true,false,false,false,false,false,false,false,false] [[0],[1,2,3,4,0,0,6,7,8,9,10,11,12,13]] (@C8 C) (by kernel_rfl) (aZ (bs:=[]) (by kernel_rfl) aw) (fun ds=>by kernel_rfl) (fun i x=>by kernel_rfl) (fun i x β k=>by kernel_rfl) (fun β ds k=>by kernel_rfl)
theorem akc (C:ag):NZ C (.loop (av [1,1,1,0,1,0,0] y6)):=
 bY Kz [false,true,false,false,false,false,false,false,false,false] [[0],[1,0,0,3,4,5,6,7,8,9,10]] (@C9 C) (by kernel_rfl) (aZ (bs:=[.loop (av [1,1,1,0,1,0,0,1,1,0,0,1,1,1,0,0] y6)]) (by kernel_rfl) (bu (akb C) aw)) (fun ds=>by kernel_rfl) (fun i x=>by kernel_rfl) (fun i x β k=>by kernel_rfl) (fun β ds k=>by kernel_rfl)
noncomputable def XD (C:ag) (eG ep:Int) (er my:List V) (eH eI:Int) (eN nj:List V):Option (List V):=
 bif (eG:Int) != eH then
  some [.bool false]
 else
  bif (ep:Int) != eI then
  some [.bool false]
  else
  bif ((er.length:Int):Int) != (eN.length:Int) then
   some [.bool false]
  else
   bif ((my.length:Int):Int) != (nj.length:Int) then
   some [.bool false]
   else
   (Loop (HO C (er.length:Int) eG ep er my eH eI eN nj) 0).bind (bV (fun (jr:Bool)=>
    some [.bool jr]) (un fun (j7:Int) (m7:Bool)=>
    (Loop (HQ C (my.length:Int) eG ep er my eH eI eN nj) 0).bind (bV (fun (xK:Bool)=>
     some [.bool xK]) (un fun (Gb:Int) (Gc:Bool)=>
     some [.bool true]))))
theorem akd {eG ep:Int} {er my:List V} {eH eI:Int} {eN nj:List V} {r:Option (List V)} (h:XD CC eG ep er my eH eI eN nj=r):CC AP [.int .i64 eG,.int .i64 ep,.list eE er,.list bK my,.int .i64 eH,.int .i64 eI,.list eE eN,.list bK nj]=r:=
 bh (key:=16) (L:=XC CC) (bs:=[.loop (av [1,1,0,1,0,0] y6),.loop (av [1,1,1,0,1,0,0] y6)]) (by kernel_rfl) (bu (aka CC) (bu (akc CC) aw)) (bd (by kernel_rfl) h)
end Go.AM
set_option maxRecDepth 100000
namespace Go.AM
open Go.Proofs Ex
abbrev XF (p:Fa) (l:List V):List V:= .int .i64 p.L:: .int .i64 0:: .list eE (p.F.map V.bool):: .list bK (p.N.map dv)::l
structure Fa.Ok (p:Fa):Prop where
 fl:p.F.length≤1000
 nl:p.N.length≤1000
 rl: ∀r∈p.N,r.length≤1000
theorem ake (r:List Int):((dv r).toList.length:Int)=(r.length:Int):=by
 show (((r.map fun n=>V.int .i64 n).length:Nat):Int)=_
 rw[aL]
theorem XG {p:Fa} (h:p.Ok):CC AP (XF p (XF p []))=some [.bool true]:=by
 have hf:=h.fl
 have hn:=h.nl
 refine akd ?_
 unfold XD
 simp only[aL]
 refine bF (zm _) (bF rfl (bF (zm _) (bF (zm _) ?_)))
 have l1: ∀{x1 x2 x3 x4:Int} {k1 k2:List V},Loop (HO CC (p.F.length:Int) x1 x2 (p.F.map V.bool) k1 x3 x4 (p.F.map V.bool) k2) 0=some (.inr ((p.F.length:Int),false)):=fun {x1 x2 x3 x4 k1 k2}=>by
  refine M3 p.F.length (fun i=>(i:Int)) _ (fun i hi=> ?_) ?_
  ·have hx:=ox (f:=V.bool) (z:=false) hi
   simp only[HO,C7]
   refine bT (lE hi) (bs hx (bs hx (bF ?_ ?_)))
   ·rw[vO];rfl
   ·rw[jx (by omega)]
  ·simp only[HO,C7]
   rw[az,ai (by omega),b7 (by omega)]
 refine bs l1 ?_
 simp only[bV,un]
 have l2: ∀{i:Nat},i<p.N.length→∀{y1 y2 x1 x2 x3 x4:Int} {k1 k2:List V},Loop (HP CC (i:Int) y1 y2 ((p.N.getD i []).length:Int) x1 x2 k1 (p.N.map dv) x3 x4 k2 (p.N.map dv)) 0=some (.inr (((p.N.getD i []).length:Int),false)):=fun {i} hi {y1 y2 x1 x2 x3 x4 k1 k2}=>by
  have hr:=h.rl _ (tm (z:=[]) hi)
  refine M3 (p.N.getD i []).length (fun i=>(i:Int)) _ (fun j hj=> ?_) ?_
  ·have hx:=ox (f:=dv) (z:=[]) hi
   have hy:=ox (f:=fun n=>V.int .i64 n) (z:=0) hj
   simp only[HP,C8]
   refine bT (lE hj) (bs hx (bs hy (bs hx (bs hy (bF (zm _) ?_)))))
   rw[jx (by omega)]
  ·simp only[HP,C8]
   rw[az,ai (by omega),b7 (by omega)]
 have l3: ∀{x1 x2 x3 x4:Int} {k1 k2:List V},Loop (HQ CC (p.N.length:Int) x1 x2 k1 (p.N.map dv) x3 x4 k2 (p.N.map dv)) 0=some (.inr ((p.N.length:Int),false)):=fun {x1 x2 x3 x4 k1 k2}=>by
  refine M3 p.N.length (fun i=>(i:Int)) _ (fun i hi=> ?_) ?_
  ·have hx:=ox (f:=dv) (z:=[]) hi
   simp only[HQ,C9]
   refine bT (lE hi) (bs hx (bs hx (bF (zm _) (bs hx ?_))))
   rw[ake]
   refine bs (l2 hi) ?_
   simp only[bV,un]
   rw[jx (by omega)]
  ·simp only[HQ,C9]
   rw[az,ai (by omega),b7 (by omega)]
 exact bs l3 rfl
theorem akf {s:Dv} (hs:Gs s):(Hs s).Ok:=by
 have h1:=hs.es.le
 have U:=hs.nl
 have h3:=hs.dn
 have h4:=hs.L
 refine ⟨by show (s.es.map Ex.cH).length≤_;rw[aL];omega,by show s.nx.length≤_;omega,fun r hr=> ?_⟩
 obtain ⟨q,hq,rfl⟩:=Di (show r∈s.nx from hr)
 have:=(hs.row q (by omega)).1
 rw[gl,bC hq,Option.getD_some] at this
 omega
end Go.AM
set_option maxRecDepth 100000
namespace Go.AM
open Go.Proofs
noncomputable def XH (C:ag):Option (List V):=
 some [.int .i64 7,.int .i64 0,.list aa ([.agg [.int .i64 5,.int .i64 0,.list aa ([.agg [.int .i64 3,.int .i64 0,.list aa ([]:List V)],.agg [.int .i64 3,.int .i64 1,.list aa ([]:List V)]]:List V)]]:List V)]
theorem akg {r:Option (List V)} (h:XH CC=r):CC Fo []=r:=
 bh (key:=38) (L:=cw) (bs:=[]) (by kernel_rfl) aw (bd (by kernel_rfl) h)
noncomputable def XI (C:ag):Option (List V):=
 (C Fo []).bind fun r1=>
 (C xg [.int .i64 ((V.nth r1 0).toInt),.int .i64 ((V.nth (r1.drop 1) 0).toInt),.list aa ((V.nth (r1.drop 2) 0).toList),.int .i64 2]).bind fun r2=>
 bif (((V.nth (r2.drop 2) 0).toInt):Int)==0 then
  bif ((((V.nth (r2.drop 3) 0).toList).length:Int):Int)==3 then
  bif decide (0<(((V.nth (r2.drop 3) 0).toList).length:Int)) then
   (((V.nth (r2.drop 3) 0).toList)[0]?).bind fun x3=>
   bif x3.toBool then
   bif decide (1<(((V.nth (r2.drop 3) 0).toList).length:Int)) then
    (((V.nth (r2.drop 3) 0).toList)[1]?).bind fun x4=>
    some [.bool (!x4.toBool)]
   else none
   else
   some [.bool false]
  else none
  else
  some [.bool false]
 else
  some [.bool false]
theorem akh {r:Option (List V)} (h:XI CC=r):CC uO []=r:=
 bh (key:=13) (L:=cw) (bs:=[]) (by kernel_rfl) aw (bd (by kernel_rfl) h)
end Go.AM
set_option maxRecDepth 100000
namespace Go.AM
open Go.Proofs Ex
def y7:Ex:= .node 7 0 [.node 5 0 [.node 3 0 [],.node 3 1 []]]
theorem aki:y7.Ok:=by
 refine .node (by omega) (by omega) (by unfold maxLen;simp) fun k hk=> ?_
 rw[ez.1 hk]
 refine .node (by omega) (by omega) (by unfold maxLen;simp) fun k hk=> ?_
 rcases dx.1 hk with rfl|hk
 ·exact .node (by omega) (by omega) (by simp) (by simp)
 ·rw[ez.1 hk]
  exact .node (by omega) (by omega) (by simp) (by simp)
theorem akj:(rT y7 2).2=0∧(rT y7 2).1.F=[true,false,false]:=by decide+kernel
theorem HR:CC uO []=some [.bool true]:=by
 refine akh ?_
 unfold XI
 have fp:CC Fo []=some (eJ y7):=by
  refine akg ?_
  unfold XH y7
  simp only[eJ,Ex.op,Ex.bx,Ex.kids,cy,fD,dg]
 refine bs fp ?_
 refine bs (NL aki 2) ?_
 obtain ⟨h1,U⟩:=akj
 generalize rT y7 2=p at h1 U
 obtain ⟨⟨L,F,N⟩,f⟩:=p
 simp only at h1 U
 subst h1 U
 rfl
end Go.AM
set_option maxRecDepth 100000
namespace Go.AM
open Go.Proofs
noncomputable def XJ (C:ag) (ah aq:Int) (af:List V) (letters:Int):Option (List V):=
 (C xf [.int .i64 ah,.int .i64 aq,.list aa af,.int .i64 letters]).bind fun r1=>
 bif (((V.nth r1 0).toInt):Int)==0 then
  (C Fj [.int .i64 ah,.int .i64 aq,.list aa af]).bind fun r2=>
  bif decide ((((V.nth r2 0).toInt):Int)>11) then
  (C uO []).bind fun r3=>
  some [.bool ((V.nth r3 0).toBool)]
  else
  bif decide ((letters:Int)>2) then
   (C uO []).bind fun r4=>
   some [.bool ((V.nth r4 0).toBool)]
  else
   (C xg [.int .i64 ah,.int .i64 aq,.list aa af,.int .i64 letters]).bind fun r5=>
   (C AO [.int .i64 ah,.int .i64 aq,.list aa af,.int .i64 letters]).bind fun r6=>
   bif (((V.nth (r5.drop 2) 0).toInt):Int)==((V.nth (r6.drop 4) 0).toInt) then
   (C AP [.int .i64 ((V.nth r5 0).toInt),.int .i64 ((V.nth (r5.drop 1) 0).toInt),.list eE ((V.nth (r5.drop 3) 0).toList),.list bK ((V.nth ((r5.drop 3).drop 1) 0).toList),.int .i64 ((V.nth r6 0).toInt),.int .i64 ((V.nth (r6.drop 1) 0).toInt),.list eE ((V.nth ((r6.drop 1).drop 1) 0).toList),.list bK ((V.nth (((r6.drop 1).drop 1).drop 1) 0).toList)]).bind fun r7=>
   bif (V.nth r7 0).toBool then
    (C uO []).bind fun r8=>
    some [.bool ((V.nth r8 0).toBool)]
   else
    some [.bool false]
   else
   some [.bool false]
 else
  (C xg [.int .i64 ah,.int .i64 aq,.list aa af,.int .i64 letters]).bind fun r9=>
  (C AO [.int .i64 ah,.int .i64 aq,.list aa af,.int .i64 letters]).bind fun cN=>
  bif (((V.nth (r9.drop 2) 0).toInt):Int)==((V.nth (cN.drop 4) 0).toInt) then
  (C AP [.int .i64 ((V.nth r9 0).toInt),.int .i64 ((V.nth (r9.drop 1) 0).toInt),.list eE ((V.nth (r9.drop 3) 0).toList),.list bK ((V.nth ((r9.drop 3).drop 1) 0).toList),.int .i64 ((V.nth cN 0).toInt),.int .i64 ((V.nth (cN.drop 1) 0).toInt),.list eE ((V.nth ((cN.drop 1).drop 1) 0).toList),.list bK ((V.nth (((cN.drop 1).drop 1).drop 1) 0).toList)]).bind fun eu=>
  bif (V.nth eu 0).toBool then
   (C uO []).bind fun gh=>
   some [.bool ((V.nth gh 0).toBool)]
  else
   some [.bool false]
  else
  some [.bool false]
theorem akk {ah aq:Int} {af:List V} {letters:Int} {r:Option (List V)} (h:XJ CC ah aq af letters=r):CC Kh [.int .i64 ah,.int .i64 aq,.list aa af,.int .i64 letters]=r:=
 bh (key:=3) (L:=cw) (bs:=[]) (by kernel_rfl) aw (bd (by kernel_rfl) h)
end Go.AM
set_option maxRecDepth 100000
namespace Go.AM
open Go.Proofs Ex
theorem akl (e:Ex) (L:Int):(rT e L).1.Ok:=by
 have hz:Fa.zero.Ok:=⟨by simp[Fa.zero],by simp[Fa.zero],by simp[Fa.zero]⟩
 unfold rT
 split
 ·next hv=>
  cases hp:fx 513 (iu e L) with
  | none=>exact hz
  | some t=>exact akf (rO _ _ _ (rP hv) hp).1
 ·exact hz
theorem XP (e:Ex) (h:e.Ok) (L:Int):CC Kh (bS e [.int .i64 L])=some [.bool true]:=by
 refine akk ?_
 unfold XJ
 have hk:=akl e L
 refine bs (L8 e h L) ?_
 rw[V.aT,V.toInt_int,df]
 by_cases hv:e.val L=0
 ·rw[aj hv]
  refine bs (aeo e h (Ck hv).2.2.1) ?_
  rw[V.aT,V.toInt_int,az,az]
  by_cases h1:(e.size:Int)>11
  ·rw[aj h1];exact bs HR rfl
  rw[ai h1]
  by_cases U:L>2
  ·rw[aj U];exact bs HR rfl
  rw[ai U]
  exact bs (NL h L) (bs (Xx h L) (bT (vO _) (bs (XG hk) (bT rfl (bs HR rfl)))))
 ·rw[ai hv]
  exact bs (NL h L) (bs (Xx h L) (bT (vO _) (bs (XG hk) (bT rfl (bs HR rfl)))))
end Go.AM
set_option maxRecDepth 100000
namespace Go.AM
theorem WT.XO {P:Program} {t:TypeId} {x:V} (hu:P.underlying t=some (.int .i64)) (h:WT P t x): ∃n:Int,x= .int .i64 n∧ -9223372036854775808≤n∧n≤9223372036854775807:=by
 obtain ⟨n,rfl,h1,U⟩:=h.dU hu
 have e1:IntKind.min .i64= -9223372036854775808:=by decide
 have e2:IntKind.max .i64=9223372036854775807:=by decide
 rw[e1] at h1
 rw[e2] at U
 exact ⟨n,rfl,h1,U⟩
theorem WT.Jj {P:Program} {t:TypeId} {x:V} (hu:P.underlying t=some (.int .u8)) (h:WT P t x): ∃n:Int,x= .int .u8 n∧0≤n∧n≤255:=by
 obtain ⟨n,rfl,h1,U⟩:=h.dU hu
 have e1:IntKind.min .u8=0:=by decide
 have e2:IntKind.max .u8=255:=by decide
 rw[e1] at h1
 rw[e2] at U
 exact ⟨n,rfl,h1,U⟩
end Go.AM
