/-
  Functions of the program, lifted to plain data.
-/
import Derived.Test.YtbbgbkiefjilcaaGreatDoorP5
set_option linter.unusedVariables false
set_option linter.unusedSimpArgs false
set_option maxRecDepth 100000
namespace Go.AM
open Go.Proofs Ex
def mN (prev:Ex):List Ex→List Ex
 | []=>[]
 | x::l=>if cmp x prev=0 then mN x l else x::mN x l
def ek:List Ex→List Ex
 | []=>[]
 | x::l=>x::mN x l
theorem Y2: ∀(m:List Ex) (prev x:Ex),mN prev (m++[x])=mN prev m++(if cmp x ((prev::m).getD m.length aQ)=0 then [] else [x])
 | [],prev,x=>by simp only[List.nil_append,mN,List.length_nil,List.getD_cons_zero]
 | y::m,prev,x=>by
  have ih:=Y2 m y x
  simp only[List.cons_append,mN,List.length_cons,List.getD_cons_succ]
  split
  ·exact ih
  ·rw[ih];rfl
theorem Jn {l:List Ex} {p:Nat} (h1:1≤p) (h2:p<l.length):ek (l.take (p+1))=ek (l.take p)++(if cmp (l.getD p aQ) (l.getD (p-1) aQ)=0 then [] else [l.getD p aQ]):=by
 match l,p,h1,h2 with
 | y::l,p+1,_,h2=>
  simp only[List.length_cons] at h2
  rw[List.take_succ_cons,List.take_succ_cons,ek,ek,iY (by omega),Y2]
  simp only[List.getD_cons_succ,dV,uE]
  rw[show min p l.length=p by omega]
  have:(y::l.take p).getD p aQ=(y::l).getD p aQ:=by
   match p with
   | 0=>rfl
   | q+1=>simp only[List.getD_cons_succ];rw[FM,FM,fU (by omega)]
  rw[this];rfl
theorem Y3: ∀(m:List Ex) (prev:Ex),(prev::m).Pairwise (fun x y=> ¬y.lx x)→kb (prev::mN prev m)∧∀x,x∈prev::mN prev m↔x∈prev::m
 | [],prev,_=>⟨by simp[mN],by simp[mN]⟩
 | y::m,prev,h=>by
  have h1:=qo.1 h
  obtain ⟨i1,i2⟩:=Y3 m y h1.2
  rw[mN]
  by_cases hc:cmp y prev=0
  ·rw[ag hc]
   have:=tY _ _ hc
   subst this
   refine ⟨i1,fun x=> ?_⟩
   rw[i2 x];simp
  ·rw[ah hc]
   have aR:prev.lx y:=by
    by_cases h2:prev.lx y
    ·exact h2
    ·exact absurd (Ex.XD h2 (h1.1 y (by simp))) fun e=>hc (by rw[e];exact zg _)
   refine ⟨qo.2 ⟨fun x hx=> ?_,i1⟩,fun x=> ?_⟩
   ·rcases cH.1 hx with rfl|hx
    ·exact aR
    ·exact Ex.Pq aR ((qo.1 i1).1 x hx)
   ·rw[cH,i2 x,←cH]
theorem Y4 {l:List Ex} (h:l.Pairwise (fun x y=> ¬y.lx x)):kb (ek l)∧∀x,x∈ek l↔x∈l:=by
 match l,h with
 | [],_=>exact ⟨List.Pairwise.nil,fun _=>Iff.rfl⟩
 | y::l,h=>exact Y3 l y h
theorem D3 (a:Ex) (ha:a.Ok) (b:Ex) (hb:b.Ok):CC qX (ct a (ct b []))=some [.bool (decide (cmp a b=0))]:=by
 refine ake ?_
 unfold Y1
 refine (congrArg (fun o=>Option.bind o _) (IM a ha b hb)).trans ?_
 simp only[Option.bind_some,V.aD,V.toInt_int]
 rw[wg]
section
variable {l:List Ex} (hn:l.length≤1000000) (ax: ∀k∈l,k.Ok)
include hn ax
theorem Q8 {k:Nat}: ∀(d k2 i:Nat) (ss:List Ex),k+k2+d=l.length→1≤k2→i+1≤k+k2→ss.length=l.length→ss.take i=ek (l.take (k+k2))→ss.drop (k+k2-1)=l.drop (k+k2-1)→
  ∃t u dK,Loop (wU CC k (l.length-k)) ((i:Int),(k2:Int),ss.map enc)=some (((ek l).length:Int),u,t,List.map enc dK)∧dK.take (ek l).length=ek l∧dK.length=l.length:=by
 intro d
 induction d with
 | zero=>
  intro k2 i ss hj oO hi hl ht hd
  have e0:l.take (k+k2)=l:=uI (by omega)
  rw[e0] at ht
  have eE:i=(ek l).length:=by rw[←ht,dV];omega
  refine ⟨false,(k2:Int),ss,aG ?_,by rw[←eE];exact ht,hl⟩
  simp only[wU,zQ,un,aC,ar]
  rw[ah (by omega),cL (by omega),eE]
 | succ d ih=>
  intro k2 i ss hj oO hi hl ht hd
  have hp:k+k2<l.length:=by omega
  have gm:ss.drop (k+k2)=l.drop (k+k2):=by
   have h:=congrArg (List.drop 1) hd
   rw[mV,mV] at h
   rwa [show k+k2-1+1=k+k2 by omega] at h
  have g1:=uf hl gm hp
  have g0:=uf hl hd (show k+k2-1<l.length by omega)
  have x1:(ss.map enc)[k+k2]? =some (l.getD (k+k2) aQ).enc:=by rw[iM (by omega),g1]
  have x0:(ss.map enc)[k+(k2-1)]? =some (l.getD (k+k2-1) aQ).enc:=by rw[show k+(k2-1)=k+k2-1 by omega,iM (by omega),g0]
  have w1:IntKind.wrap .i64 ((k2:Int)-1)=((k2-1:Nat):Int):=by rw[wrap64 (by omega) (by omega)];omega
  have t1:((k2:Nat):Int)<((l.length-k:Nat):Int):=by omega
  have t2:(0:Int)≤((k2:Nat):Int):=by omega
  have t3:(0:Int)≤((k2-1:Nat):Int):=by omega
  have t4:((k2-1:Nat):Int)<((l.length-k:Nat):Int):=by omega
  have t5:((i:Nat):Int)<(ss.length:Int):=by omega
  have t6:(0:Int)≤((i:Nat):Int):=by omega
  have cf: ∃y,(ss.map enc)[i]? =some y:=⟨_,iM (by omega)⟩
  obtain ⟨y,hy⟩:=cf
  have co:=D3 (l.getD (k+k2) aQ) (oY ax hp) (l.getD (k+k2-1) aQ) (oY ax (by omega))
  have cs:=Jn (l:=l) (p:=k+k2) (by omega) hp
  by_cases he:cmp (l.getD (k+k2) aQ) (l.getD (k+k2-1) aQ)=0
  ·have bB:wU CC k (l.length-k) ((i:Int),(k2:Int),ss.map enc)=some (.inl ((i:Int),((k2+1:Nat):Int),ss.map enc)):=by
    simp only[wU,zQ,un,aC,ar,bK,w1,t1,t2,t3,t4,cy,Int.toNat_natCast,x1,x0,Option.bind_some,aH,aN,aK]
    refine (congrArg (fun o=>Option.bind o _) co).trans ?_
    simp only[Option.bind_some,V.aD,V.cI]
    rw[dC he,oj,cond_false,wrap64 (by omega) (by omega)]
    rfl
   rw[br bB]
   refine ih (k2+1) i ss (by omega) (by omega) (by omega) hl ?_ (by rw[show k+(k2+1)-1=k+k2 by omega];exact gm)
   rw[show k+(k2+1)=k+k2+1 by omega,cs,ag he,dc,ht]
  ·have bB:wU CC k (l.length-k) ((i:Int),(k2:Int),ss.map enc)=some (.inl (((i+1:Nat):Int),((k2+1:Nat):Int),(ss.set i (l.getD (k+k2) aQ)).map enc)):=by
    simp only[wU,zQ,un,aC,ar,bK,w1,t1,t2,t3,t4,t5,t6,cy,Int.toNat_natCast,x1,x0,hy,Option.bind_some,aH,aN,aK]
    refine (congrArg (fun o=>Option.bind o _) co).trans ?_
    simp only[Option.bind_some,V.aD,V.cI]
    rw[cL he,qq,cond_true,wrap64 (by omega) (by omega),wrap64 (by omega) (by omega),←fS,uK]
    rfl
   rw[br bB]
   refine ih (k2+1) (i+1) (ss.set i (l.getD (k+k2) aQ)) (by omega) (by omega) (by omega) (by simpa using hl) ?_ ?_
   ·rw[iY (by rw[kR];omega),xi (bN i),ht,show k+(k2+1)=k+k2+1 by omega,cs,ah he]
    simp[show i<ss.length by omega]
   ·rw[show k+(k2+1)-1=k+k2 by omega,xj (by omega),gm]
theorem Q9: ∀(d p:Nat),p+d=l.length→1≤p→ek (l.take p)=l.take p→
  (ek l=l∧∃t,Loop (wV CC (l.map enc)) (p:Int)=some (.inr t))∨Loop (wV CC (l.map enc)) (p:Int)=some (.inl ((ek l).map enc)):=by
 intro d
 induction d with
 | zero=>
  intro p hp h1 hc
  obtain rfl:p=l.length:=by omega
  rw[ql] at hc
  refine .inl ⟨hc,((l.length:Int),false),aG ?_⟩
  simp only[wV,zR,aC,ar]
  rw[ah (by omega),cL (by omega)]
 | succ d ih=>
  intro p hp h1 hc
  have bM:p<l.length:=by omega
  have cs:=Jn (l:=l) h1 bM
  have co:=D3 (l.getD p aQ) (oY ax bM) (l.getD (p-1) aQ) (oY ax (by omega))
  have x1:(l.map enc)[p]? =some (l.getD p aQ).enc:=iM bM
  have x0:(l.map enc)[p-1]? =some (l.getD (p-1) aQ).enc:=iM (by omega)
  have w1:IntKind.wrap .i64 ((p:Int)-1)=((p-1:Nat):Int):=by rw[wrap64 (by omega) (by omega)];omega
  have t1:((p:Nat):Int)<(l.length:Int):=by omega
  have t2:(0:Int)≤((p:Nat):Int):=by omega
  have t3:(0:Int)≤((p-1:Nat):Int):=by omega
  have t4:((p-1:Nat):Int)<(l.length:Int):=by omega
  have t5:((p:Nat):Int)≤(l.length:Int):=by omega
  by_cases he:cmp (l.getD p aQ) (l.getD (p-1) aQ)=0
  ·refine .inr (aG ?_)
   obtain ⟨t,u,dK,e1,e2,e3⟩:=Q8 hn ax (k:=p) (l.length-(p+1)) 1 p l (by omega) (by omega) (by omega) rfl (by rw[cs,ag he,dc,hc]) rfl
   have hm:(ek l).length≤dK.length:=by
    have:=congrArg List.length e2
    rw[dV] at this
    omega
   have m1:(0:Int)≤(((ek l).length:Nat):Int):=by omega
   have m2:(((ek l).length:Nat):Int)≤((dK.map enc).length:Int):=by rw[aC];omega
   simp only[wV,zR,aC,ar,bK,w1,t1,t2,t3,t4,t5,cy,Int.toNat_natCast,x1,x0,Option.bind_some,aH,aN,aK]
   refine (congrArg (fun o=>Option.bind o _) co).trans ?_
   simp only[Option.bind_some,V.aD,V.cI]
   rw[dC he,cond_true]
   refine (congrArg (fun o=>Option.bind o _) e1).trans ?_
   simp only[Option.bind_some,un,bK,ar,Int.toNat_natCast]
   rw[ag m1,ag m2,ag m1,ag (by simp only[bO,dV,ta,jT,aC];omega),zx _ _ _ hm,e2]
  ·have bB:wV CC (l.map enc) (p:Int)=some (.inl ((p+1:Nat):Int)):=by
    simp only[wV,zR,aC,ar,bK,w1,t1,t2,t3,t4,cy,Int.toNat_natCast,x1,x0,Option.bind_some,aH,aN,aK]
    refine (congrArg (fun o=>Option.bind o _) co).trans ?_
    simp only[Option.bind_some,V.aD,V.cI]
    rw[cL he,cond_false,wrap64 (by omega) (by omega)]
    rfl
   rw[br bB]
   exact ih (p+1) (by omega) (by omega) (by rw[cs,ah he,hc,←iY bM])
theorem Ra: ∃b,CC MP [.list ab (l.map enc)]=some [.bool b,.list ab ((ek l).map enc)]:=by
 by_cases h2:l.length<2
 ·refine ⟨true,Q7 ?_⟩
  unfold Jm
  rw[aC,ar,ag (by omega)]
  match l,h2 with
  | [],_=>rfl
  | [k],_=>rfl
 ·rcases Q9 hn ax (l.length-1) 1 (by omega) (by omega) (by
   match l,h2 with
   | k::l,_=>rfl) with ⟨h3,t,h4⟩|h4
  ·refine ⟨true,Q7 ?_⟩
   unfold Jm
   rw[aC,ar,ah (by omega)]
   refine (congrArg (fun o=>Option.bind o _) h4).trans ?_
   rw[h3];rfl
  ·refine ⟨false,Q7 ?_⟩
   unfold Jm
   rw[aC,ar,ah (by omega)]
   refine (congrArg (fun o=>Option.bind o _) h4).trans ?_
   rfl
theorem Y5: ∃R:List Ex,CC yG [.list ab (l.map enc)]=some [.list ab (R.map enc)]∧R.Perm l∧R.Pairwise (fun x y=> ¬y.lx x):=by
 have hx: ∃L:List SX.XE,L.map SX.XE.e=l:=by
  clear hn
  induction l with
  | nil=>exact ⟨[],rfl⟩
  | cons k l ih=>
   obtain ⟨L,hL⟩:=ih fun k hk=>ax k (by simp[hk])
   exact ⟨⟨k,ax k (by simp)⟩::L,by rw[dZ,hL]⟩
 obtain ⟨L,rfl⟩:=hx
 have he: ∀L:List SX.XE,L.map SX.XE.enc=(L.map SX.XE.e).map enc:=fun L=>by rw[List.map_map];rfl
 obtain ⟨R,e1,h1,h2⟩:=SX.aj8 L (by rw[aC] at hn;omega)
 refine ⟨R.map SX.XE.e,?_,h1.map _,List.pairwise_map.2 h2⟩
 rw[←he,←he];exact e1
theorem Y6: ∃b,CC vW [.list ab (l.map enc)]=some [.bool b,.list ab ((l.foldl dk []).map enc)]:=by
 obtain ⟨R,e1,h1,h2⟩:=Y5 hn ax
 obtain ⟨b,e2⟩:=Ra (l:=R) (by rw[h1.length_eq];exact hn) fun k hk=>ax k (h1.mem_iff.1 hk)
 obtain ⟨c1,c2⟩:=Y4 h2
 have hc:ek R=l.foldl dk []:=zj c1 zl fun x=>by rw[c2,zk,h1.mem_iff]
 rw[hc] at e2
 refine ⟨b,akd ?_⟩
 unfold Y0
 refine (congrArg (fun o=>Option.bind o _) e1).trans ?_
 simp only[Option.bind_some,V.aD,V.e8]
 refine (congrArg (fun o=>Option.bind o _) e2).trans ?_
 cases b<;>rfl
end
end Go.AM
set_option maxRecDepth 100000
namespace Go.AM
open Go.Proofs
noncomputable def Y7 (C:af) (kids:List V):Option (List V):=
 (C MO [.list ab kids]).bind fun r1=>
 bif (V.nth r1 0).toBool then
  (C tR []).bind fun r2=>
  some [.int .i64 ((V.nth r2 0).toInt),.int .i64 ((V.nth (r2.drop 1) 0).toInt),.list ab ((V.nth (r2.drop 2) 0).toList)]
 else
  (C yS [.int .i64 4,.list ab kids]).bind fun r3=>
  (C Ik [.list ab ((V.nth r3 0).toList)]).bind fun r4=>
  bif (V.nth r4 0).toBool then
  (C vW [.list ab ((V.nth (r4.drop 1) 0).toList)]).bind fun r5=>
  bif (V.nth r5 0).toBool then
   (C qW []).bind fun r6=>
   (C nz [.int .i64 4,.list ab ((V.nth (r5.drop 1) 0).toList),.int .i64 ((V.nth r6 0).toInt),.int .i64 ((V.nth (r6.drop 1) 0).toInt),.list ab ((V.nth (r6.drop 2) 0).toList)]).bind fun r7=>
   some [.int .i64 ((V.nth r7 0).toInt),.int .i64 ((V.nth (r7.drop 1) 0).toInt),.list ab ((V.nth ((r7.drop 1).drop 1) 0).toList)]
  else
   (C qW []).bind fun r8=>
   (C nz [.int .i64 4,.list ab ((V.nth (r5.drop 1) 0).toList),.int .i64 ((V.nth r8 0).toInt),.int .i64 ((V.nth (r8.drop 1) 0).toInt),.list ab ((V.nth (r8.drop 2) 0).toList)]).bind fun r9=>
   some [.int .i64 ((V.nth r9 0).toInt),.int .i64 ((V.nth (r9.drop 1) 0).toInt),.list ab ((V.nth ((r9.drop 1).drop 1) 0).toList)]
  else
  (C vW [.list ab ((V.nth (r4.drop 1) 0).toList)]).bind fun nR=>
  bif (V.nth nR 0).toBool then
   (C qW []).bind fun fQ=>
   (C nz [.int .i64 4,.list ab ((V.nth (nR.drop 1) 0).toList),.int .i64 ((V.nth fQ 0).toInt),.int .i64 ((V.nth (fQ.drop 1) 0).toInt),.list ab ((V.nth (fQ.drop 2) 0).toList)]).bind fun fP=>
   some [.int .i64 ((V.nth fP 0).toInt),.int .i64 ((V.nth (fP.drop 1) 0).toInt),.list ab ((V.nth ((fP.drop 1).drop 1) 0).toList)]
  else
   (C qW []).bind fun sV=>
   (C nz [.int .i64 4,.list ab ((V.nth (nR.drop 1) 0).toList),.int .i64 ((V.nth sV 0).toInt),.int .i64 ((V.nth (sV.drop 1) 0).toInt),.list ab ((V.nth (sV.drop 2) 0).toList)]).bind fun nS=>
   some [.int .i64 ((V.nth nS 0).toInt),.int .i64 ((V.nth (nS.drop 1) 0).toInt),.list ab ((V.nth ((nS.drop 1).drop 1) 0).toList)]
theorem akf {kids:List V} {r:Option (List V)} (h:Y7 CC kids=r):CC H7 [.list ab kids]=r:=
 bn (key:=123) (L:=cS) (bs:=[]) (by kernel_rfl) aw (bm (by kernel_rfl) h)
noncomputable def Y8 (C:af) (kids:List V):Option (List V):=
 (C CD [.list ab kids]).bind fun r1=>
 bif (V.nth r1 0).toBool then
  (C qW []).bind fun r2=>
  some [.int .i64 ((V.nth r2 0).toInt),.int .i64 ((V.nth (r2.drop 1) 0).toInt),.list ab ((V.nth (r2.drop 2) 0).toList)]
 else
  (C yS [.int .i64 5,.list ab kids]).bind fun r3=>
  (C Ii [.list ab ((V.nth r3 0).toList)]).bind fun r4=>
  bif (V.nth r4 0).toBool then
  (C vU []).bind fun r5=>
  (C nz [.int .i64 5,.list ab ((V.nth (r4.drop 1) 0).toList),.int .i64 ((V.nth r5 0).toInt),.int .i64 ((V.nth (r5.drop 1) 0).toInt),.list ab ((V.nth (r5.drop 2) 0).toList)]).bind fun r6=>
  some [.int .i64 ((V.nth r6 0).toInt),.int .i64 ((V.nth (r6.drop 1) 0).toInt),.list ab ((V.nth ((r6.drop 1).drop 1) 0).toList)]
  else
  (C vU []).bind fun r7=>
  (C nz [.int .i64 5,.list ab ((V.nth (r4.drop 1) 0).toList),.int .i64 ((V.nth r7 0).toInt),.int .i64 ((V.nth (r7.drop 1) 0).toInt),.list ab ((V.nth (r7.drop 2) 0).toList)]).bind fun r8=>
  some [.int .i64 ((V.nth r8 0).toInt),.int .i64 ((V.nth (r8.drop 1) 0).toInt),.list ab ((V.nth ((r8.drop 1).drop 1) 0).toList)]
theorem akg {kids:List V} {r:Option (List V)} (h:Y8 CC kids=r):CC H8 [.list ab kids]=r:=
 bn (key:=124) (L:=cS) (bs:=[]) (by kernel_rfl) aw (bm (by kernel_rfl) h)
noncomputable def Y9 (C:af) (kids:List V):Option (List V):=
 (C CD [.list ab kids]).bind fun r1=>
 bif (V.nth r1 0).toBool then
  (C qW []).bind fun r2=>
  some [.int .i64 ((V.nth r2 0).toInt),.int .i64 ((V.nth (r2.drop 1) 0).toInt),.list ab ((V.nth (r2.drop 2) 0).toList)]
 else
  (C yS [.int .i64 6,.list ab kids]).bind fun r3=>
  (C vP [.list ab ((V.nth r3 0).toList)]).bind fun r4=>
  bif (V.nth r4 0).toBool then
  (C vW [.list ab ((V.nth (r4.drop 1) 0).toList)]).bind fun r5=>
  bif (V.nth r5 0).toBool then
   (C tR []).bind fun r6=>
   (C nz [.int .i64 6,.list ab ((V.nth (r5.drop 1) 0).toList),.int .i64 ((V.nth r6 0).toInt),.int .i64 ((V.nth (r6.drop 1) 0).toInt),.list ab ((V.nth (r6.drop 2) 0).toList)]).bind fun r7=>
   some [.int .i64 ((V.nth r7 0).toInt),.int .i64 ((V.nth (r7.drop 1) 0).toInt),.list ab ((V.nth ((r7.drop 1).drop 1) 0).toList)]
  else
   (C tR []).bind fun r8=>
   (C nz [.int .i64 6,.list ab ((V.nth (r5.drop 1) 0).toList),.int .i64 ((V.nth r8 0).toInt),.int .i64 ((V.nth (r8.drop 1) 0).toInt),.list ab ((V.nth (r8.drop 2) 0).toList)]).bind fun r9=>
   some [.int .i64 ((V.nth r9 0).toInt),.int .i64 ((V.nth (r9.drop 1) 0).toInt),.list ab ((V.nth ((r9.drop 1).drop 1) 0).toList)]
  else
  (C vW [.list ab ((V.nth (r4.drop 1) 0).toList)]).bind fun nR=>
  bif (V.nth nR 0).toBool then
   (C tR []).bind fun fQ=>
   (C nz [.int .i64 6,.list ab ((V.nth (nR.drop 1) 0).toList),.int .i64 ((V.nth fQ 0).toInt),.int .i64 ((V.nth (fQ.drop 1) 0).toInt),.list ab ((V.nth (fQ.drop 2) 0).toList)]).bind fun fP=>
   some [.int .i64 ((V.nth fP 0).toInt),.int .i64 ((V.nth (fP.drop 1) 0).toInt),.list ab ((V.nth ((fP.drop 1).drop 1) 0).toList)]
  else
   (C tR []).bind fun sV=>
   (C nz [.int .i64 6,.list ab ((V.nth (nR.drop 1) 0).toList),.int .i64 ((V.nth sV 0).toInt),.int .i64 ((V.nth (sV.drop 1) 0).toInt),.list ab ((V.nth (sV.drop 2) 0).toList)]).bind fun nS=>
   some [.int .i64 ((V.nth nS 0).toInt),.int .i64 ((V.nth (nS.drop 1) 0).toInt),.list ab ((V.nth ((nS.drop 1).drop 1) 0).toList)]
theorem akh {kids:List V} {r:Option (List V)} (h:Y9 CC kids=r):CC H9 [.list ab kids]=r:=
 bn (key:=125) (L:=cS) (bs:=[]) (by kernel_rfl) aw (bm (by kernel_rfl) h)
noncomputable def Rb (C:af) (op:Int) (kids:List V):Option (List V):=
 bif (op:Int)==4 then
  (C H7 [.list ab kids]).bind fun r1=>
  some [.int .i64 ((V.nth r1 0).toInt),.int .i64 ((V.nth (r1.drop 1) 0).toInt),.list ab ((V.nth ((r1.drop 1).drop 1) 0).toList)]
 else
  bif (op:Int)==5 then
  (C H8 [.list ab kids]).bind fun r2=>
  some [.int .i64 ((V.nth r2 0).toInt),.int .i64 ((V.nth (r2.drop 1) 0).toInt),.list ab ((V.nth ((r2.drop 1).drop 1) 0).toList)]
  else
  bif (op:Int)==6 then
   (C H9 [.list ab kids]).bind fun r3=>
   some [.int .i64 ((V.nth r3 0).toInt),.int .i64 ((V.nth (r3.drop 1) 0).toInt),.list ab ((V.nth ((r3.drop 1).drop 1) 0).toList)]
  else
   bif ((kids.length:Int):Int) != 1 then
   some [.int .i64 0,.int .i64 0,.list ab ([]:List V)]
   else
   (kids[0]?).bind fun x4=>
   bif (op:Int)==8 then
    bif (((x4.cell 0).toInt):Int)==8 then
    bif ((((x4.cell 2).toList).length:Int):Int)==1 then
     (((x4.cell 2).toList)[0]?).bind fun x5=>
     some [.int .i64 ((x5.cell 0).toInt),.int .i64 ((x5.cell 1).toInt),.list ab ((x5.cell 2).toList)]
    else
     some [.int .i64 8,.int .i64 0,.list ab ([.agg [.int .i64 ((x4.cell 0).toInt),.int .i64 ((x4.cell 1).toInt),.list ab ((x4.cell 2).toList)]]:List V)]
    else
    some [.int .i64 8,.int .i64 0,.list ab ([.agg [.int .i64 ((x4.cell 0).toInt),.int .i64 ((x4.cell 1).toInt),.list ab ((x4.cell 2).toList)]]:List V)]
   else
    bif (op:Int)==7 then
    bif (((x4.cell 0).toInt):Int)==1 then
     (C vU []).bind fun r6=>
     some [.int .i64 ((V.nth r6 0).toInt),.int .i64 ((V.nth (r6.drop 1) 0).toInt),.list ab ((V.nth (r6.drop 2) 0).toList)]
    else
     bif (((x4.cell 0).toInt):Int)==2 then
     (C vU []).bind fun r7=>
     some [.int .i64 ((V.nth r7 0).toInt),.int .i64 ((V.nth (r7.drop 1) 0).toInt),.list ab ((V.nth (r7.drop 2) 0).toList)]
     else
     bif (((x4.cell 0).toInt):Int)==7 then
      some [.int .i64 ((x4.cell 0).toInt),.int .i64 ((x4.cell 1).toInt),.list ab ((x4.cell 2).toList)]
     else
      (C nx [.int .i64 ((x4.cell 0).toInt),.int .i64 ((x4.cell 1).toInt),.list ab ((x4.cell 2).toList)]).bind fun r8=>
      bif (V.nth r8 0).toBool then
      some [.int .i64 ((x4.cell 0).toInt),.int .i64 ((x4.cell 1).toInt),.list ab ((x4.cell 2).toList)]
      else
      some [.int .i64 7,.int .i64 0,.list ab ([.agg [.int .i64 ((x4.cell 0).toInt),.int .i64 ((x4.cell 1).toInt),.list ab ((x4.cell 2).toList)]]:List V)]
    else
    some [.int .i64 0,.int .i64 0,.list ab ([]:List V)]
theorem Za {op:Int} {kids:List V} {r:Option (List V)} (h:Rb CC op kids=r):CC yL [.int .i64 op,.list ab kids]=r:=
 bn (key:=88) (L:=cS) (bs:=[]) (by kernel_rfl) aw (bm (by kernel_rfl) h)
noncomputable abbrev Zb:Code:=bU Tryz.prog (az.aT 50)
noncomputable def D4 (C:af) (t20:List V) (t21 dy df:Int) (cw:List V) (mO mP:Int) (fE:List V) (t22:Int) (o8:List V) {β:Type} (kn:(Int × (List V))→Option β) (kr:(Int × Bool × (List V))→Option β):Option β:=
 bif decide ((t22:Int)<t21) then
  (idx t20 t22).bind fun x1=>
  (C yF [.int .i64 ((x1.cell 0).toInt),.int .i64 ((x1.cell 1).toInt),.list ab ((x1.cell 2).toList)]).bind fun r2=>
  bif (decide (0≤t22))&&(decide (t22<(o8.length:Int))) then
  (o8[(t22:Int).toNat]?).bind fun x3=>
  kn (IntKind.wrap .i64 (t22+1),o8.set ((t22:Int).toNat) (.agg [.int .i64 ((V.nth r2 0).toInt),.int .i64 ((V.nth (r2.drop 1) 0).toInt),.list ab ((V.nth ((r2.drop 1).drop 1) 0).toList)]))
  else none
 else
  kr (t22,decide ((t22:Int)<t21),o8)
noncomputable def Jo (C:af) (t20:List V) (t21 dy df:Int) (cw:List V) (mO mP:Int) (fE:List V):(Int × (List V))→Option ((Int × (List V)) ⊕ (Int × Bool × (List V))):=un fun t22 o8=>D4 C t20 t21 dy df cw mO mP fE t22 o8 (fun y=>some (.inl y)) (fun r=>some (.inr r))
noncomputable def Zc (C:af):cj:=fun β n ds k=>
 bif Nat.beq n 81 then bt ND [false,false,true,false,false,false,false,false,true,false] [[1,2,0,0,4,5,6,7,8,0,10]] (@D4 C) ds k else
 none
abbrev aki (C:af) (b:cg):Prop:=ch Tryz.prog az C (Zc C) 50 (cv Tryz.prog (az.aT 50)) (az.sin 50).bf.length b
theorem akj (C:af):aki C (.loop (aq [1,1,1,0,1,0,0] Zb)):=
 bw ND [false,false,true,false,false,false,false,false,true,false] [[1,2,0,0,4,5,6,7,8,0,10]] (@D4 C) (by kernel_rfl) (aM (bs:=[]) (by kernel_rfl) aw) (fun ds=>by kernel_rfl) (fun i x=>by kernel_rfl) (fun i x β k=>by kernel_rfl) (fun β ds k=>by kernel_rfl)
noncomputable def Zd (C:af) (ak ay:Int) (aj:List V):Option (List V):=
 bif ((aj.length:Int):Int)==0 then
  some [.int .i64 ak,.int .i64 ay,.list ab ([]:List V)]
 else
  bif (decide (0≤(aj.length:Int)))&&((decide ((aj.length:Int)≤(aj.length:Int)))&&(Nat.ble ((((aj.length:Int):Int).toNat)*40) b8)) then
  (Loop (Jo C aj (aj.length:Int) ak ay aj 0 0 ([]:List V)) (0,List.replicate (((aj.length:Int):Int).toNat) (V.agg [.int .i64 0,.int .i64 0,.list ab ([]:List V)]))).bind (un fun (jJ:Int)=>un fun (kF:Bool) (akk:List V)=>
   (C yL [.int .i64 ak,.list ab akk]).bind fun r7=>
   some [.int .i64 ((V.nth r7 0).toInt),.int .i64 ((V.nth (r7.drop 1) 0).toInt),.list ab ((V.nth ((r7.drop 1).drop 1) 0).toList)])
  else none
theorem akl {ak ay:Int} {aj:List V} {r:Option (List V)} (h:Zd CC ak ay aj=r):CC yF [.int .i64 ak,.int .i64 ay,.list ab aj]=r:=
 bn (key:=50) (L:=Zc CC) (bs:=[.loop (aq [1,1,1,0,1,0,0] Zb)]) (by kernel_rfl) (aZ (akj CC) aw) (bm (by kernel_rfl) h)
noncomputable def Ze (C:af) (ak ay:Int) (aj:List V):Option (List V):=
 (C HY [.int .i64 ak,.int .i64 ay,.list ab aj]).bind fun r1=>
 bif !((V.nth r1 0).toBool) then
  some [.int .i64 0,.int .i64 0,.list ab ([]:List V)]
 else
  (C yF [.int .i64 ak,.int .i64 ay,.list ab aj]).bind fun r2=>
  some [.int .i64 ((V.nth r2 0).toInt),.int .i64 ((V.nth (r2.drop 1) 0).toInt),.list ab ((V.nth ((r2.drop 1).drop 1) 0).toList)]
theorem akm {ak ay:Int} {aj:List V} {r:Option (List V)} (h:Ze CC ak ay aj=r):CC HP [.int .i64 ak,.int .i64 ay,.list ab aj]=r:=
 bn (key:=15) (L:=cS) (bs:=[]) (by kernel_rfl) aw (bm (by kernel_rfl) h)
end Go.AM
set_option maxRecDepth 100000
namespace Go.AM
open Go.Proofs Ex
theorem wW:CC qW []=some (gr fk):=aif rfl
theorem Jp:CC vU []=some (gr fO):=aii rfl
theorem D5:CC tR []=some (gr mK):=by
 refine aij ?_
 unfold XC
 refine bs wW ?_
 simp[gr,fk,mK,Ex.op,Ex.letter,Ex.kids,fS]
theorem Zf (o:Int) (l:List Ex):(l.filter fun k=> !(decide (k.op=o)))=l.filter fun k=>decide (k.op≠o):=by
 congr 1;funext k;simp
theorem Zg {ks:List Ex} (hlen:ks.length≤1000000):CC CD [.list ab (ks.map enc)]=some [.bool (ks.any fun k=>decide (k.op=1))]:=ai1 hlen
theorem akn {ks:List Ex} (hn:ks.length≤1000000): ∃b,CC Ik [.list ab (ks.map enc)]=some [.bool b,.list ab ((ks.filter (fun k=>decide (k.op≠1))).map enc)]:=by
 rw[←Zf];exact PS hn
theorem ako {ks:List Ex} (hn:ks.length≤1000000): ∃b,CC Ii [.list ab (ks.map enc)]=some [.bool b,.list ab ((ks.filter (fun k=>decide (k.op≠2))).map enc)]:=by
 rw[←Zf];exact ai5 hn
theorem Jq {o:Int} {ks:List Ex} (h: ∀k∈ks,k.Ok): ∀k∈bG o ks,k.Ok:=fun x hx=>by
 obtain ⟨k,h1,h2|h2⟩:=pY.1 hx
 ·have:=h k h1
  obtain ⟨o2,l2,nG⟩:=k
  exact this.lp x h2.2
 ·rw[h2.2];exact h k h1
theorem akp {n:Int} {ks:List Ex} (hk: ∀k∈ks,Gd n k) (hs:aF ks≤1000000):CC H8 [.list ab (ks.map enc)]=some (gr (ca 5 0 ks)):=by
 have hl:=kH ks
 have a1:=rj 5 ks
 have a2:=kH (bG 5 ks)
 refine akg ?_
 unfold Y8
 rw[wi,XM hk]
 refine bs (Zg (by omega)) ?_
 cases hu:ks.any fun k=>decide (k.op=1) with
 | true=>
  refine bT rfl ?_
  refine bs wW ?_
  rfl
 | false=>
  refine bF rfl ?_
  refine bs (Pp (by omega) (by omega)) ?_
  obtain ⟨b,e⟩:=ako (ks:=bG 5 ks) (by omega)
  refine bs e ?_
  cases b
  ·exact bF rfl (bs Jp (bs (rh (z:=fO)) rfl))
  ·exact bT rfl (bs Jp (bs (rh (z:=fO)) rfl))
section
variable {n:Int} {ks:List Ex} (hk: ∀k∈ks,Gd n k) (ax: ∀k∈ks,k.Ok) (hs:aF ks≤1000000)
include hk ax hs
theorem akq:CC H7 [.list ab (ks.map enc)]=some (gr (ca 4 0 ks)):=by
 have hl:=kH ks
 have a1:=rj 4 ks
 have a2:=kH (bG 4 ks)
 refine akf ?_
 unfold Y7
 rw[C6,aiC hk]
 refine bs (ai7 (by omega)) ?_
 cases hu:ks.any univ with
 | true=>
  refine bT rfl ?_
  refine bs D5 ?_
  rfl
 | false=>
  refine bF rfl ?_
  refine bs (Pp (by omega) (by omega)) ?_
  obtain ⟨b,e⟩:=akn (ks:=bG 4 ks) (by omega)
  refine bs e ?_
  obtain ⟨b2,e2⟩:=Y6 (l:=(bG 4 ks).filter fun k=>decide (k.op≠1)) (by have:=uL (fun k:Ex=>decide (k.op≠1)) (bG 4 ks);omega) fun k h=>Jq ax k (qs.1 h).1
  cases b
  ·refine bF rfl ?_
   refine bs e2 ?_
   cases b2
   ·exact bF rfl (bs wW (bs (rh (z:=fk)) rfl))
   ·exact bT rfl (bs wW (bs (rh (z:=fk)) rfl))
  ·refine bT rfl ?_
   refine bs e2 ?_
   cases b2
   ·exact bF rfl (bs wW (bs (rh (z:=fk)) rfl))
   ·exact bT rfl (bs wW (bs (rh (z:=fk)) rfl))
theorem akr:CC H9 [.list ab (ks.map enc)]=some (gr (ca 6 0 ks)):=by
 have hl:=kH ks
 have a1:=rj 6 ks
 have a2:=kH (bG 6 ks)
 refine akh ?_
 unfold Y9
 rw[C7,aiB hk]
 refine bs (Zg (by omega)) ?_
 cases hu:ks.any fun k=>decide (k.op=1) with
 | true=>
  refine bT rfl ?_
  refine bs wW ?_
  rfl
 | false=>
  refine bF rfl ?_
  refine bs (Pp (by omega) (by omega)) ?_
  obtain ⟨b,e⟩:=ai9 (ks:=bG 6 ks) (by omega)
  refine bs e ?_
  obtain ⟨b2,e2⟩:=Y6 (l:=(bG 6 ks).filter fun k=> !(univ k)) (by have:=uL (fun k:Ex=> !(univ k)) (bG 6 ks);omega) fun k h=>Jq ax k (qs.1 h).1
  cases b
  ·refine bF rfl ?_
   refine bs e2 ?_
   cases b2
   ·exact bF rfl (bs D5 (bs (rh (z:=mK)) rfl))
   ·exact bT rfl (bs D5 (bs (rh (z:=mK)) rfl))
  ·refine bT rfl ?_
   refine bs e2 ?_
   cases b2
   ·exact bF rfl (bs D5 (bs (rh (z:=mK)) rfl))
   ·exact bT rfl (bs D5 (bs (rh (z:=mK)) rfl))
theorem Zh {o:Int} (ho:o=4∨o=5∨o=6):CC yL [.int .i64 o,.list ab (ks.map enc)]=some (gr (ca o 0 ks)):=by
 refine Za ?_
 unfold Rb
 rcases ho with rfl|rfl|rfl
 ·exact bT rfl (bs (akq hk ax hs) rfl)
 ·exact bF rfl (bT rfl (bs (akp hk hs) rfl))
 ·exact bF rfl (bF rfl (bT rfl (bs (akr hk ax hs) rfl)))
end
theorem D6 (k:Ex):[V.agg [.int .i64 k.op,.int .i64 k.letter,.list ab (k.kids.map enc)]]=[k].map enc:=by rw[←fS];rfl
theorem aks {n o:Int} {k:Ex} (hk:Gd n k) (ho:o=7∨o=8):CC yL [.int .i64 o,.list ab ([k].map enc)]=some (gr (ca o 0 [k])):=by
 refine Za ?_
 unfold Rb
 rcases ho with rfl|rfl
 ·refine bF rfl (bF rfl (bF rfl (bF rfl (bs (a:=k.enc) rfl (bF rfl (bT rfl ?_))))))
  rw[C8,aH,aN,aK,cq,cq,cq]
  by_cases h1:k.op=1
  ·rw[ag h1,ag (.inl h1)];exact bs Jp rfl
  ·rw[ah h1]
   by_cases h2:k.op=2
   ·rw[ag h2,ag (.inr h2)];exact bs Jp rfl
   ·rw[ah h2,ah (show¬(k.op=1∨k.op=2) by omega)]
    by_cases h7:k.op=7
    ·rw[ag h7,ag (.inl h7)];rfl
    ·rw[ah h7]
     refine bs (Dd k) ?_
     cases hu:univ k with
     | true=>rw[ag (.inr rfl)];exact bT rfl rfl
     | false=>
      rw[ah (by rintro (h|h);exact h7 h;cases h)]
      refine bF rfl ?_
      rw[D6];rfl
 ·refine bF rfl (bF rfl (bF rfl (bF rfl (bs (a:=k.enc) rfl (bT rfl ?_)))))
  rw[C9,aH,aN,aK,cq]
  by_cases h8:k.op=8
  ·rw[ag h8,ag h8]
   have hs:=lS hk.shape
   obtain ⟨o2,l2,nG⟩:=k
   simp only[Ex.op,Ex.kids,Ex.letter] at*
   match nG,(show (nG.length:Int)=1 by omega) with
   | [x],_=>
    refine bT (by simp) (bs (a:=x.enc) rfl ?_)
    rw[aH,aN,aK];rfl
  ·rw[ah h8,ah h8,D6];rfl
theorem Zi {α:Type} (a:List α) (x y:α) (b:List α) {i:Nat} (h:i=a.length):(a++x::b).set i y=(a++[y])++b:=by
 subst h;simp[List.set_append_right]
theorem akt {ks:List Ex} {a b c d:Int} {l1 l2:List V} (hn:ks.length≤1000000) (ih: ∀k∈ks,CC yF (ct k [])=some (gr (dv k))):
  ∀(aA pre:List Ex),ks=pre++aA→∃t,Loop (Jo CC (ks.map enc) ((ks.map enc).length:Int) a b l1 c d l2) (((pre.length:Nat):Int),(pre.map dv).map enc++List.replicate aA.length (V.agg [.int .i64 0,.int .i64 0,.list ab ([]:List V)]))=some (((ks.map enc).length:Int),t,(ks.map dv).map enc):=by
 intro aA
 induction aA with
 | nil=>
  intro pre e
  rw[dc] at e
  subst e
  refine ⟨false,aG ?_⟩
  simp only[Jo,D4,un,aC]
  rw[ar,ah (by omega),cL (by omega)]
  simp
 | cons k aA iX=>
  intro pre e
  have bM:pre.length<ks.length:=by rw[e];simp
  have cf:idx (ks.map enc) (pre.length:Int)=some k.enc:=by rw[e];exact fq _ _ _
  obtain ⟨t,ht⟩:=iX (pre++[k]) (by simp[e])
  refine ⟨t,(br ?_).trans ht⟩
  simp only[Jo,D4,un,aC]
  rw[ar,ag (by omega),cf]
  simp only[Option.bind_some,aH,aN,aK]
  refine bs (ih k (by rw[e];simp)) ?_
  refine bT (by simp only[aU,dX,bO,aC,ta,List.length_cons];omega) ?_
  refine bs (a:=V.agg [.int .i64 0,.int .i64 0,.list ab ([]:List V)]) ?_ ?_
  ·rw[Int.toNat_natCast,kh (by simp)]
   simp
  ·rw[wrap64 (by omega) (by omega),Int.toNat_natCast,List.length_cons,List.replicate_succ,Zi _ _ _ _ (by simp)]
   show some (Sum.inl _)=some (Sum.inl _)
   refine congrArg (fun x=>some (Sum.inl x)) (Prod.ext ?_ ?_)
   ·simp
   ·simp only[iP,dZ,mU]
    rw[fS (dv k)];rfl
theorem aku {n:Int} (hn:n≤6): ∀e:Ex,e.wf n=true→e.size≤1000000→CC yF (ct e [])=some (gr (dv e)):=
 ind fun o l ks ih hw hs=>by
  obtain ⟨h1,h2⟩:=nE hw
  have hl:=kH ks
  simp only[size] at hs
  have h3:=lS h1
  refine akl ?_
  unfold Zd
  simp only[Ex.op,Ex.kids,Ex.letter,aC,cq]
  rw[wj]
  by_cases h0:ks=[]
  ·subst h0
   rw[ag (by simp),nF (by simp only[List.length_nil] at h3;omega)]
   rfl
  ·have hp:0<ks.length:=List.length_pos_iff.2 h0
   rw[ah (by omega)]
   refine bT (by simp only[aU,dX,dN,iW,Int.toNat_natCast];omega) ?_
   obtain ⟨t,ht⟩:=akt (a:=o) (b:=l) (c:=0) (d:=0) (l1:=ks.map enc) (l2:=[]) (ks:=ks) (by omega) (fun k hk=>ih k hk (h2 k hk) (by have:=ri hk;omega)) ks [] rfl
   rw[aC] at ht
   refine bs ht ?_
   have hg: ∀k∈ks.map dv,Gd n k:=fun x hx=>by
    obtain ⟨k,hk,rfl⟩:=fG.1 hx
    exact Pz k (h2 k hk)
   have hz:aF (ks.map dv)≤aF ks:=by
    clear ht h3 h1 hw ih hp h0 hl hs hg
    induction ks with
    | nil=>simp[aF]
    | cons k ks ih=>have a:=PA k (h2 k (by simp));have b:=ih fun k hk=>h2 k (by simp[hk]);simp only[dZ,aF];omega
   have ax: ∀k∈ks.map dv,k.Ok:=fun k hk=>PB hn k (hg k hk).2 (by have:=ri hk;omega)
   rcases (show (o=4∨o=5∨o=6)∨(o=7∨o=8) by omega) with ho|ho
   ·obtain rfl:l=0:=by omega
    exact bs (Zh hg ax (by omega) ho) rfl
   ·obtain rfl:l=0:=by omega
    have h5:ks.length=1:=by omega
    match ks,h5 with
    | [k],_=>exact bs (aks (hg (dv k) (by simp)) ho) rfl
theorem akv (e:Ex) (h:e.Ok):CC HP (ct e [])=some (gr (if e.val 6=0 then dv e else aQ)):=by
 refine akm ?_
 unfold Ze
 refine bs (ais e h) ?_
 by_cases hv:e.val 6=0
 ·have:=ait hv
  rw[ag hv]
  refine bF (by simp[hv]) ?_
  exact bs (aku (by omega) e this.2.2 (by omega)) rfl
 ·rw[ah hv]
  refine bT (by simp[hv]) ?_
  rfl
end Go.AM
set_option maxRecDepth 100000
namespace Go.AM
open Go.Proofs
def tab {α:Type} (n:Nat) (g:Nat→α):List α:=(List.range n).map g
section
variable {α β:Type} {n i:Nat} {g h:Nat→α}
@[simp] theorem aqd:(tab n g).length=n:=by simp[tab]
end
section
variable {γ:Type} {n i:Nat} {g:Nat→V}
theorem akw {es:List V} {v:V} (hi:es[i]? =some v) {K:V→Option γ}:(bif (decide (0≤(i:Int)))&&(decide ((i:Int)<(es.length:Int))) then (es[((i:Int)).toNat]?).bind K else none)=K v:=by
 have hl:i<es.length:=by
  rcases s6 i es.length with h|h
  ·exact h
  ·rw[AJ h] at hi;cases hi
 rw[Int.toNat_natCast,hi,oq.2 ⟨dC (by omega),dC (by omega)⟩]
 rfl
end
theorem cap {a b m:Nat} (h:a+b≤10000000) (hm:m≤1000):Nat.ble ((a+b)*m) b8=true:=by
 rw[dN,iW]
 have:=Nat.mul_le_mul h hm
 omega
theorem akx {n m:Nat} (h:n≤10000000) (hm:m≤1000):((decide (0≤(n:Int)))&&((decide ((n:Int)≤(n:Int)))&&(Nat.ble (((n:Int).toNat)*m) b8)))=true:=by
 have h2:=Nat.mul_le_mul h hm
 rw[Int.toNat_natCast]
 refine oq.2 ⟨dC (by omega),oq.2 ⟨dC (by omega),?_⟩⟩
 rw[dN,iW]
 omega
theorem kN {i:Nat} (h:i≤1000000000):IntKind.wrap .i64 ((i:Int)+1)=((i+1:Nat):Int):=by rw[wrap64 (by omega) (by omega)];omega
theorem kO {i n:Nat} (h:i<n):decide ((i:Int)<(n:Int))=true:=dC (by omega)
noncomputable abbrev Zj:Code:=bU Tryz.prog (az.aT 30)
noncomputable def D7 (C:af) (t19:List V) (t20 t21:Int) {β:Type} (kn:Int→Option β) (kr:((Bool) ⊕ (Int × Bool))→Option β):Option β:=
 bif decide ((t21:Int)<t20) then
  (idx t19 t21).bind fun x2=>
  (C kD [.int .i64 ((x2.cell 0).toInt),.int .i64 ((x2.cell 1).toInt),.list ab ((x2.cell 2).toList)]).bind fun r3=>
  bif !((V.nth r3 0).toBool) then
  kr (.inl false)
  else
  kn (IntKind.wrap .i64 (t21+1))
 else
  kr (.inr (t21,decide ((t21:Int)<t20)))
noncomputable def uo (C:af) (t19:List V) (t20:Int):(Int)→Option ((Int) ⊕ ((Bool) ⊕ (Int × Bool))):=fun t21=>D7 C t19 t20 t21 (fun y=>some (.inl y)) (fun r=>some (.inr r))
noncomputable def Zk (C:af):cj:=fun β n ds k=>
 bif Nat.beq n 161 then bt Nj [false,false,true] [[0],[1,2,0,0]] (@D7 C) ds k else
 none
abbrev aky (C:af) (b:cg):Prop:=ch Tryz.prog az C (Zk C) 30 (cv Tryz.prog (az.aT 30)) (az.sin 30).bf.length b
theorem akz (C:af):aky C (.loop (aq [1,0,1,0,1,1,1,1,1,0,0,1,0,0] Zj)):=
 bw Nj [false,false,true] [[0],[1,2,0,0]] (@D7 C) (by kernel_rfl) (aM (bs:=[]) (by kernel_rfl) aw) (fun ds=>by kernel_rfl) (fun i x=>by kernel_rfl) (fun i x β k=>by kernel_rfl) (fun β ds k=>by kernel_rfl)
noncomputable def Zl (C:af) (ak ay:Int) (aj:List V):Option (List V):=
 bif (ak:Int)==2 then
  bif (ak:Int)==2 then
  some [.bool true]
  else
  bif (ak:Int)==4 then
   (C Ig [.list ab aj]).bind fun r1=>
   some [.bool ((V.nth r1 0).toBool)]
  else
   bif (ak:Int)==5 then
   bif (ak:Int)==5 then
    (Loop (uo C aj (aj.length:Int)) 0).bind (bD (fun (jJ:Bool)=>
     some [.bool jJ]) (un fun (kF:Int) (rf:Bool)=>
     some [.bool true]))
   else
    bif (ak:Int)==8 then
    bif ((aj.length:Int):Int)==1 then
     (aj[0]?).bind fun x7=>
     (C kD [.int .i64 ((x7.cell 0).toInt),.int .i64 ((x7.cell 1).toInt),.list ab ((x7.cell 2).toList)]).bind fun r8=>
     some [.bool (!((V.nth r8 0).toBool))]
    else
     some [.bool false]
    else
    some [.bool false]
   else
   bif (ak:Int)==6 then
    (Loop (uo C aj (aj.length:Int)) 0).bind (bD (fun (oW:Bool)=>
     some [.bool oW]) (un fun (O7:Int) (CQ:Bool)=>
     some [.bool true]))
   else
    bif (ak:Int)==8 then
    bif ((aj.length:Int):Int)==1 then
     (aj[0]?).bind fun o9=>
     (C kD [.int .i64 ((o9.cell 0).toInt),.int .i64 ((o9.cell 1).toInt),.list ab ((o9.cell 2).toList)]).bind fun sV=>
     some [.bool (!((V.nth sV 0).toBool))]
    else
     some [.bool false]
    else
    some [.bool false]
 else
  bif (ak:Int)==7 then
  some [.bool true]
  else
  bif (ak:Int)==4 then
   (C Ig [.list ab aj]).bind fun nS=>
   some [.bool ((V.nth nS 0).toBool)]
  else
   bif (ak:Int)==5 then
   bif (ak:Int)==5 then
    (Loop (uo C aj (aj.length:Int)) 0).bind (bD (fun (v7:Bool)=>
     some [.bool v7]) (un fun (O9:Int) (W4:Bool)=>
     some [.bool true]))
   else
    bif (ak:Int)==8 then
    bif ((aj.length:Int):Int)==1 then
     (aj[0]?).bind fun kJ=>
     (C kD [.int .i64 ((kJ.cell 0).toInt),.int .i64 ((kJ.cell 1).toInt),.list ab ((kJ.cell 2).toList)]).bind fun ef=>
     some [.bool (!((V.nth ef 0).toBool))]
    else
     some [.bool false]
    else
    some [.bool false]
   else
   bif (ak:Int)==6 then
    (Loop (uo C aj (aj.length:Int)) 0).bind (bD (fun (W5:Bool)=>
     some [.bool W5]) (un fun (CS:Int) (y9:Bool)=>
     some [.bool true]))
   else
    bif (ak:Int)==8 then
    bif ((aj.length:Int):Int)==1 then
     (aj[0]?).bind fun ez=>
     (C kD [.int .i64 ((ez.cell 0).toInt),.int .i64 ((ez.cell 1).toInt),.list ab ((ez.cell 2).toList)]).bind fun um=>
     some [.bool (!((V.nth um 0).toBool))]
    else
     some [.bool false]
    else
    some [.bool false]
theorem akA {ak ay:Int} {aj:List V} {r:Option (List V)} (h:Zl CC ak ay aj=r):CC kD [.int .i64 ak,.int .i64 ay,.list ab aj]=r:=
 bn (key:=30) (L:=Zk CC) (bs:=[.loop (aq [1,0,1,0,1,1,1,1,1,0,0,1,0,0] Zj)]) (by kernel_rfl) (aZ (akz CC) aw) (bm (by kernel_rfl) h)
noncomputable def Zm (C:af) (s:List V):Option (List V):=
 (C Ih [.list ab s]).bind fun r1=>
 some [.bool (decide ((((V.nth r1 0).toInt):Int)≥0))]
theorem akB {s:List V} {r:Option (List V)} (h:Zm CC s=r):CC Ig [.list ab s]=r:=
 bn (key:=192) (L:=cS) (bs:=[]) (by kernel_rfl) aw (bm (by kernel_rfl) h)
noncomputable abbrev Zn:Code:=bU Tryz.prog (az.aT 193)
noncomputable def D8 (C:af) (s:List V) (t7 t8:Int) {β:Type} (kn:Int→Option β) (kr:((Int) ⊕ (Int × Bool))→Option β):Option β:=
 bif decide ((t8:Int)<t7) then
  (idx s t8).bind fun x1=>
  (C kD [.int .i64 ((x1.cell 0).toInt),.int .i64 ((x1.cell 1).toInt),.list ab ((x1.cell 2).toList)]).bind fun r2=>
  bif (V.nth r2 0).toBool then
  kr (.inl t8)
  else
  kn (IntKind.wrap .i64 (t8+1))
 else
  kr (.inr (t8,decide ((t8:Int)<t7)))
noncomputable def Jr (C:af) (s:List V) (t7:Int):(Int)→Option ((Int) ⊕ ((Int) ⊕ (Int × Bool))):=fun t8=>D8 C s t7 t8 (fun y=>some (.inl y)) (fun r=>some (.inr r))
noncomputable def Zo (C:af):cj:=fun β n ds k=>
 bif Nat.beq n 33 then bt OW [false,false,true] [[0],[1,2,0,0]] (@D8 C) ds k else
 none
abbrev akC (C:af) (b:cg):Prop:=ch Tryz.prog az C (Zo C) 193 (cv Tryz.prog (az.aT 193)) (az.sin 193).bf.length b
theorem akD (C:af):akC C (.loop (aq [1,0,1,0,0] Zn)):=
 bw OW [false,false,true] [[0],[1,2,0,0]] (@D8 C) (by kernel_rfl) (aM (bs:=[]) (by kernel_rfl) aw) (fun ds=>by kernel_rfl) (fun i x=>by kernel_rfl) (fun i x β k=>by kernel_rfl) (fun β ds k=>by kernel_rfl)
noncomputable def Rc (C:af) (s:List V):Option (List V):=
 (Loop (Jr C s (s.length:Int)) 0).bind (bD (fun (fN:Int)=>
  some [.int .i64 fN]) (un fun (jJ:Int) (kF:Bool)=>
  some [.int .i64 (-1)]))
theorem Zp {s:List V} {r:Option (List V)} (h:Rc CC s=r):CC Ih [.list ab s]=r:=
 bn (key:=193) (L:=Zo CC) (bs:=[.loop (aq [1,0,1,0,0] Zn)]) (by kernel_rfl) (aZ (akD CC) aw) (bm (by kernel_rfl) h)
end Go.AM
set_option maxRecDepth 100000
namespace Go.AM
open Go.Proofs Ex
theorem akE {ks:List Ex} (hlen:ks.length≤maxLen) (ih: ∀k∈ks,CC kD (ct k [])=some [.bool k.dJ]):CC Ig [.list ab (ks.map enc)]=some [.bool (pW ks)]:=by
 have:=oU
 refine akB ?_
 unfold Zm
 have hl:=IU (step:=Jr CC (ks.map enc) ((ks.map enc).length:Int)) (ks:=ks) (fun i=>(i:Int)) dJ (fun i=> .inl (i:Int)) (.inr (((ks.length:Nat):Int),false))
  (fun pre k aA bd=>by
   have bM:pre.length<ks.length:=by rw[bd];simp
   have hm:k∈ks:=by rw[bd];simp
   simp only[Jr,D8,aC,ar]
   rw[ag (by omega),show idx (ks.map enc) (pre.length:Int)=some k.enc by rw[bd];exact fq _ _ _]
   simp only[Option.bind_some,aH,aN,aK]
   rw[ih k hm]
   simp only[Option.bind_some,V.aD,V.cI]
   rw[wrap64 (by omega) (by omega)]
   cases k.dJ<;>simp)
  (by
   simp only[Jr,D8,aC,ar]
   rw[ah (by omega)]
   simp) ks [] rfl
 simp only[List.length_nil,Int.ofNat_zero,Int.natCast_zero] at hl
 rcases hl with ⟨h1,i,h2⟩|⟨h1,h2⟩
 ·have hi:CC Ih [.list ab (ks.map enc)]=some [.int .i64 (i:Int)]:=by
   refine Zp ?_
   unfold Rc
   erw [h2];rfl
  rw[hi,Pu,h1]
  simp
 ·have hi:CC Ih [.list ab (ks.map enc)]=some [.int .i64 (-1)]:=by
   refine Zp ?_
   unfold Rc
   erw [h2];rfl
  rw[hi,Pu,h1]
  simp
theorem Zq {letters:Int}: ∀e:Ex,e.Ok→e.wf letters=true→CC kD (ct e [])=some [.bool e.dJ]:=
 ind fun o l ks ih ax Mt=>by
  have:=oU
  have hlen:=ax.len
  obtain ⟨w1,w2⟩:=nE Mt
  have pB: ∀k∈ks,CC kD (ct k [])=some [.bool k.dJ]:=fun k hk=>ih k hk (ax.lp k hk) (w2 k hk)
  refine akA ?_
  have oN:(Loop (uo CC (ks.map enc) ((ks.map enc).length:Int)) 0).bind (bD (fun (t:Bool)=>some [V.bool t]) (un fun (_:Int) (_:Bool)=>some [V.bool true]))=some [.bool (o4 ks)]:=by
   have hl:=IU (step:=uo CC (ks.map enc) ((ks.map enc).length:Int)) (ks:=ks) (fun i=>(i:Int)) (fun k=> !(dJ k)) (fun _=> .inl false) (.inr (((ks.length:Nat):Int),false))
    (fun pre k aA bd=>by
     have bM:pre.length<ks.length:=by rw[bd];simp
     have hm:k∈ks:=by rw[bd];simp
     simp only[uo,D7,aC,ar]
     rw[ag (by omega),show idx (ks.map enc) (pre.length:Int)=some k.enc by rw[bd];exact fq _ _ _]
     simp only[Option.bind_some,aH,aN,aK]
     rw[pB k hm]
     simp only[Option.bind_some,V.aD,V.cI]
     rw[wrap64 (by omega) (by omega)]
     cases k.dJ<;>simp)
    (by
     simp only[uo,D7,aC,ar]
     rw[ah (by omega)]
     simp) ks [] rfl
   simp only[List.length_nil,Int.ofNat_zero,Int.natCast_zero] at hl
   rcases hl with ⟨h1,i,h2⟩|⟨h1,h2⟩
   ·erw [h2];rw[Pv,h1];rfl
   ·erw [h2];rw[Pv,h1];rfl
  unfold Zl
  simp only[Ex.op,Ex.letter,Ex.kids]
  rw[oN,akE hlen pB]
  simp only[dJ]
  rcases IK o with rfl|rfl|rfl|rfl|rfl|rfl|rfl|rfl|ho
  case inr.inr.inr.inr.inr.inr.inr.inr=>
   have n2:o≠2:=by omega
   have n4:o≠4:=by omega
   have n5:o≠5:=by omega
   have n6:o≠6:=by omega
   have n7:o≠7:=by omega
   have n8:o≠8:=by omega
   simp[n2,n4,n5,n6,n7,n8]
  case inr.inr.inr.inr.inr.inr.inr.inl=>
   have h1:=aiv w1
   match ks,h1,pB with
   | [k],_,pB=>
    have:=pB k (by simp)
    simp only[dZ,mU,List.length_singleton,List.getElem?_cons_zero,Option.bind_some,aH,aN,aK]
    rw[this]
    simp[pW]
  all_goals simp
abbrev zE:V:= .agg [.int .i64 0,.int .i64 0,.list ab ([]:List V)]
theorem akF {α:Type} {A:List V} {n:Nat} {z:V} {i:Nat} (h:i=A.length) {K:V→Option α}:(bif (decide (0≤(i:Int)))&&(decide ((i:Int)<((A++List.replicate (n+1) z).length:Int))) then ((A++List.replicate (n+1) z)[((i:Int)).toNat]?).bind K else none)=K z:=by
 refine akw ?_
 rw[h,kh (bN _)]
 simp
theorem akG {A:List V} {n:Nat} {z v:V} {i:Nat} (h:i=A.length):(A++List.replicate (n+1) z).set i v=A++[v]++List.replicate n z:=by
 rw[List.replicate_succ,Zi _ _ _ _ h]
theorem Js (a:Ex):V.agg [.int .i64 a.op,.int .i64 a.letter,.list ab (a.kids.map enc)]=a.enc:=(fS a).symm
theorem Re {n:Nat} (h:n≤1000000):Nat.ble (n*40) b8=true:=by rw[dN,iW];omega
theorem akH {n:Nat} (h:n≤1000000):((decide (0≤(n:Int)))&&((decide ((n:Int)≤(n:Int)))&&(Nat.ble (((n:Int).toNat)*40) b8)))=true:=akx (by omega) (by omega)
end Go.AM
set_option maxRecDepth 100000
namespace Go.AM
open Go.Proofs
noncomputable abbrev Jt:Code:=bU Tryz.prog (az.aT 26)
noncomputable def D9 (C:af) (letter:Int) (t24:List V) (t25 t26:Int) (pb:List V) {β:Type} (kn:(Int × (List V))→Option β) (kr:(Int × Bool × (List V))→Option β):Option β:=
 bif decide ((t26:Int)<t25) then
  (idx t24 t26).bind fun x1=>
  (C tP [.int .i64 ((x1.cell 0).toInt),.int .i64 ((x1.cell 1).toInt),.list ab ((x1.cell 2).toList),.int .i64 letter]).bind fun r2=>
  bif Nat.ble ((pb.length+((V.nth r2 0).toList).length)*40) b8 then
  kn (IntKind.wrap .i64 (t26+1),pb++((V.nth r2 0).toList))
  else none
 else
  kr (t26,decide ((t26:Int)<t25),pb)
noncomputable def Ju (C:af) (letter:Int) (t24:List V) (t25:Int):(Int × (List V))→Option ((Int × (List V)) ⊕ (Int × Bool × (List V))):=un fun t26 pb=>D9 C letter t24 t25 t26 pb (fun y=>some (.inl y)) (fun r=>some (.inr r))
noncomputable def Ea (C:af) (letter:Int) (t51:List V) (t52 dy df:Int) (cw:List V) (t53:Int) (pb:List V) {β:Type} (kn:(Int × (List V))→Option β) (kr:(Int × (List V))→Option β):Option β:=
 bif decide ((t53:Int)<t52) then
  (idx t51 t53).bind fun x9=>
  (C tP [.int .i64 ((x9.cell 0).toInt),.int .i64 ((x9.cell 1).toInt),.list ab ((x9.cell 2).toList),.int .i64 letter]).bind fun nR=>
  bif (decide (0≤(IntKind.wrap .i64 (t53+1))))&&(decide ((IntKind.wrap .i64 (t53+1))≤(cw.length:Int))) then
  (C Cp [.list ab ((V.nth nR 0).toList),.list ab ((cw.drop ((IntKind.wrap .i64 (t53+1):Int).toNat)).take (cw.length-((IntKind.wrap .i64 (t53+1):Int).toNat)))]).bind fun fQ=>
  bif Nat.ble ((pb.length+((V.nth fQ 0).toList).length)*40) b8 then
   (C kD [.int .i64 ((x9.cell 0).toInt),.int .i64 ((x9.cell 1).toInt),.list ab ((x9.cell 2).toList)]).bind fun fP=>
   bif !((V.nth fP 0).toBool) then
   kr (t53,pb++((V.nth fQ 0).toList))
   else
   kn (IntKind.wrap .i64 (t53+1),pb++((V.nth fQ 0).toList))
  else none
  else none
 else
  kr (t53,pb)
noncomputable def Eb (C:af) (letter:Int) (t51:List V) (t52 dy df:Int) (cw:List V):(Int × (List V))→Option ((Int × (List V)) ⊕ (Int × (List V))):=un fun t53 pb=>Ea C letter t51 t52 dy df cw t53 pb (fun y=>some (.inl y)) (fun r=>some (.inr r))
noncomputable def Zr (C:af):cj:=fun β n ds k=>
 bif Nat.beq n 129 then bt Ng [false,false,false,true,true] [[1,2,3,0,0,0]] (@D9 C) ds k else
 bif Nat.beq n 289 then bt Nh [false,false,false,true,false,false,false,true] [[1,2,3,0,5,6,7,0]] (@Ea C) ds k else
 none
abbrev Zs (C:af) (b:cg):Prop:=ch Tryz.prog az C (Zr C) 26 (cv Tryz.prog (az.aT 26)) (az.sin 26).bf.length b
theorem akI (C:af):Zs C (.loop (aq [1,0,1,0,1,1,1,0,1,0,1,0,0] Jt)):=
 bw Ng [false,false,false,true,true] [[1,2,3,0,0,0]] (@D9 C) (by kernel_rfl) (aM (bs:=[]) (by kernel_rfl) aw) (fun ds=>by kernel_rfl) (fun i x=>by kernel_rfl) (fun i x β k=>by kernel_rfl) (fun β ds k=>by kernel_rfl)
theorem akJ (C:af):Zs C (.loop (aq [1,0,1,0,1,1,1,1,1,1,1,0,1,0,1,0,0] Jt)):=
 bw Nh [false,false,false,true,false,false,false,true] [[1,2,3,0,5,6,7,0]] (@Ea C) (by kernel_rfl) (aM (bs:=[]) (by kernel_rfl) aw) (fun ds=>by kernel_rfl) (fun i x=>by kernel_rfl) (fun i x β k=>by kernel_rfl) (fun β ds k=>by kernel_rfl)
noncomputable def Zt (C:af) (ak ay:Int) (aj:List V) (letter:Int):Option (List V):=
 bif (ak:Int)==3 then
  bif (ay:Int)==letter then
  some [.list ab ([.agg [.int .i64 2,.int .i64 0,.list ab ([]:List V)]]:List V)]
  else
  some [.list ab ([]:List V)]
 else
  bif (ak:Int)==4 then
  (Loop (Ju C letter aj (aj.length:Int)) (0,([]:List V))).bind (un fun (fN:Int)=>un fun (jJ:Bool) (akK:List V)=>
   some [.list ab akK])
  else
  bif (ak:Int)==7 then
   (aj[0]?).bind fun x6=>
   (C tP [.int .i64 ((x6.cell 0).toInt),.int .i64 ((x6.cell 1).toInt),.list ab ((x6.cell 2).toList),.int .i64 letter]).bind fun r7=>
   (C Cp [.list ab ((V.nth r7 0).toList),.list ab ([.agg [.int .i64 ak,.int .i64 ay,.list ab aj]]:List V)]).bind fun r8=>
   some [.list ab ((V.nth r8 0).toList)]
  else
   bif (ak:Int)==5 then
   (Loop (Eb C letter aj (aj.length:Int) ak ay aj) (0,([]:List V))).bind (un fun (O8:Int) (akL:List V)=>
    some [.list ab akL])
   else
   some [.list ab ([]:List V)]
theorem Zu {ak ay:Int} {aj:List V} {letter:Int} {r:Option (List V)} (h:Zt CC ak ay aj letter=r):CC tP [.int .i64 ak,.int .i64 ay,.list ab aj,.int .i64 letter]=r:=
 bn (key:=26) (L:=Zr CC) (bs:=[.loop (aq [1,0,1,0,1,1,1,0,1,0,1,0,0] Jt),.loop (aq [1,0,1,0,1,1,1,1,1,1,1,0,1,0,1,0,0] Jt)]) (by kernel_rfl) (aZ (akI CC) (aZ (akJ CC) aw)) (bm (by kernel_rfl) h)
noncomputable abbrev Zv:Code:=bU Tryz.prog (az.aT 64)
noncomputable def Ec (C:af) (rest t11:List V) (t12 t13:Int) (results:List V) {β:Type} (kn:(Int × (List V))→Option β) (kr:(Int × Bool × (List V))→Option β):Option β:=
 bif decide ((t13:Int)<t12) then
  (idx t11 t13).bind fun x1=>
  bif Nat.ble ((([.agg [.int .i64 ((x1.cell 0).toInt),.int .i64 ((x1.cell 1).toInt),.list ab ((x1.cell 2).toList)]]:List V).length+rest.length)*40) b8 then
  (C yL [.int .i64 5,.list ab (([.agg [.int .i64 ((x1.cell 0).toInt),.int .i64 ((x1.cell 1).toInt),.list ab ((x1.cell 2).toList)]]:List V)++rest)]).bind fun r2=>
  bif (decide (0≤t13))&&(decide (t13<(results.length:Int))) then
   (results[(t13:Int).toNat]?).bind fun x3=>
   kn (IntKind.wrap .i64 (t13+1),results.set ((t13:Int).toNat) (.agg [.int .i64 ((V.nth r2 0).toInt),.int .i64 ((V.nth (r2.drop 1) 0).toInt),.list ab ((V.nth ((r2.drop 1).drop 1) 0).toList)]))
  else none
  else none
 else
  kr (t13,decide ((t13:Int)<t12),results)
noncomputable def Jv (C:af) (rest t11:List V) (t12:Int):(Int × (List V))→Option ((Int × (List V)) ⊕ (Int × Bool × (List V))):=un fun t13 results=>Ec C rest t11 t12 t13 results (fun y=>some (.inl y)) (fun r=>some (.inr r))
noncomputable def Zw (C:af):cj:=fun β n ds k=>
 bif Nat.beq n 49 then bt NI [false,false,false,true,true] [[1,2,3,0,0,0]] (@Ec C) ds k else
 none
abbrev akM (C:af) (b:cg):Prop:=ch Tryz.prog az C (Zw C) 64 (cv Tryz.prog (az.aT 64)) (az.sin 64).bf.length b
theorem akN (C:af):akM C (.loop (aq [1,1,0,1,0,0] Zv)):=
 bw NI [false,false,false,true,true] [[1,2,3,0,0,0]] (@Ec C) (by kernel_rfl) (aM (bs:=[]) (by kernel_rfl) aw) (fun ds=>by kernel_rfl) (fun i x=>by kernel_rfl) (fun i x β k=>by kernel_rfl) (fun β ds k=>by kernel_rfl)
noncomputable def Zx (C:af) (list rest:List V):Option (List V):=
 bif (decide (0≤(list.length:Int)))&&((decide ((list.length:Int)≤(list.length:Int)))&&(Nat.ble ((((list.length:Int):Int).toNat)*40) b8)) then
  (Loop (Jv C rest list (list.length:Int)) (0,List.replicate (((list.length:Int):Int).toNat) (V.agg [.int .i64 0,.int .i64 0,.list ab ([]:List V)]))).bind (un fun (jJ:Int)=>un fun (kF:Bool) (akO:List V)=>
   some [.list ab akO])
 else none
theorem akP {list rest:List V} {r:Option (List V)} (h:Zx CC list rest=r):CC Cp [.list ab list,.list ab rest]=r:=
 bn (key:=64) (L:=Zw CC) (bs:=[.loop (aq [1,1,0,1,0,0] Zv)]) (by kernel_rfl) (aZ (akN CC) aw) (bm (by kernel_rfl) h)
end Go.AM
set_option maxRecDepth 100000
namespace Go.AM
open Go.Proofs Ex
theorem qf {e:Ex} (h:Gn e) (hs:e.size≤1000000):e.Ok:=PB (by omega) e h.1.2 hs
structure akQ (L:List Ex) (b:Nat):Prop where
 g: ∀e∈L,Gn e
 s: ∀e∈L,e.size≤b
 n:L.length≤1000
theorem Zy {L R:List Ex} (hL:akQ L 400000) (hR: ∀k∈R,Gn k) (hz:aF R≤400000):CC Cp [.list ab (L.map enc),.list ab (R.map enc)]=some [.list ab ((L.map fun p=>ca 5 0 (p::R)).map enc)]:=by
 have hn:=hL.n
 have hRl:=kH R
 refine akP ?_
 unfold Zx
 rw[aC]
 refine bT (akH (by omega)) ?_
 have loop: ∀(aA pre:List Ex),L=pre++aA→Loop (Jv CC (R.map enc) (L.map enc) (L.length:Int)) (((pre.length:Nat):Int),(pre.map fun p=>ca 5 0 (p::R)).map enc++List.replicate aA.length zE)=some ((L.length:Int),false,(L.map fun p=>ca 5 0 (p::R)).map enc):=by
  intro aA
  induction aA with
  | nil=>
   intro pre e
   rw[dc] at e
   subst e
   refine aG ?_
   simp only[Jv,Ec,un]
   rw[ar,ah (by omega),cL (by omega)]
   simp
  | cons p aA ih=>
   intro pre e
   have bM:pre.length<L.length:=by rw[e];simp
   have hm:p∈L:=by rw[e];simp
   have cf:idx (L.map enc) (pre.length:Int)=some p.enc:=by rw[e];exact fq _ _ _
   have ot:pre.length=((pre.map fun p=>ca 5 0 (p::R)).map enc).length:=by simp
   have Ch:=hL.s p hm
   have hg: ∀k∈p::R,Gn k:=fun k hk=>by
    rcases cH.1 hk with rfl|hk
    ·exact hL.g _ hm
    ·exact hR k hk
   have hs:aF (p::R)≤1000000:=by simp only[aF];omega
   refine (br ?_).trans (ih (pre++[p]) (by simp[e]))
   simp only[Jv,Ec,un]
   refine bT (kO bM) (bs cf ?_)
   rw[aH,aN,aK]
   refine bT (Re (by simp;omega)) ?_
   rw[D6,←iP]
   refine bs (Zh (o:=5) (fun k hk=>(hg k hk).1) (fun k hk=>qf (hg k hk) (by have:=ri hk;omega)) hs (by omega)) ?_
   refine (akF ot).trans ?_
   rw[Int.toNat_natCast,List.length_cons,akG ot,kN (by omega)]
   simp only[iP,dZ,mU,bO,List.length_cons,List.length_nil]
   rw[fS (ca 5 0 (p::R))]
   rfl
 have:=loop L [] rfl
 rw[Int.toNat_natCast]
 refine bs this ?_
 rfl
theorem Rf {c:Int}: ∀{A B:List Ex},fZ c (A++B)=fZ c A++fZ c B
 | [],B=>rfl
 | a::A,B=>by simp only[List.cons_append,fZ,Rf,dj]
theorem Ee {c:Int} {k x:Ex} (h:x∈pX c k) (hs:k.size≤859):x.size≤400000:=by
 have a:=XY k x (I8 k x h)
 have b:=zo hs
 omega
theorem akR {c:Int}: ∀e:Ex,Gn e→e.size≤859→CC tP (ct e [.int .i64 c])=some [.list ab ((pX c e).map enc)]:=
 ind fun o l ks ih he hs=>by
  have bh:(Ex.node o l ks).size=1+aF ks:=by simp only[size]
  have hl:=kH ks
  have pc: ∀k∈ks,k.size≤859:=fun k hk=>by have:=ri hk;omega
  have hk:(o=5∨o=4∨o=7)→∀k∈ks,Gn k:=fun ho=>wk he ho
  refine Zu ?_
  unfold Zt
  simp only[Ex.op,Ex.letter,Ex.kids,aC]
  rw[cq]
  by_cases h3:o=3
  ·rw[ag h3,cq,lT,ag h3]
   by_cases pO:l=c
   ·rw[ag pO,ag pO]
    simp only[dZ,mU]
    rw[fS fO];rfl
   ·rw[ah pO,ah pO];rfl
  rw[ah h3,cq]
  by_cases h4:o=4
  ·rw[ag h4,lT,ah h3,ag h4]
   have ej:=hk (.inr (.inl h4))
   have loop: ∀(aA pre:List Ex),ks=pre++aA→Loop (Ju CC c (ks.map enc) (ks.length:Int)) (((pre.length:Nat):Int),(fZ c pre).map enc)=some ((ks.length:Int),false,(fZ c ks).map enc):=by
    intro aA
    induction aA with
    | nil=>
     intro pre e
     rw[dc] at e
     subst e
     refine aG ?_
     simp only[Ju,D9,un]
     rw[ar,ah (by omega),cL (by omega)]
    | cons k aA iX=>
     intro pre e
     have bM:pre.length<ks.length:=by rw[e];simp
     have hm:k∈ks:=by rw[e];simp
     have cf:idx (ks.map enc) (pre.length:Int)=some k.enc:=by rw[e];exact fq _ _ _
     have hlen: ∀L:List Ex,(fZ c L).length≤aF L:=by
      intro L
      induction L with
      | nil=>simp[fZ,aF]
      | cons a L ihL=>have:=ue (c:=c) a;simp only[fZ,aF,bO];omega
     have h1:=hlen pre
     have h2:=ue (c:=c) k
     have qC:aF pre+k.size≤aF ks:=by rw[e,wh];simp only[aF];omega
     refine (br ?_).trans (iX (pre++[k]) (by simp[e]))
     simp only[Ju,D9,un]
     refine bT (kO bM) (bs cf ?_)
     rw[aH,aN,aK]
     refine bs (ih k hm (ej k hm) (pc k hm)) ?_
     refine bT (Re (by rw[V.aD,V.e8,aC,aC];omega)) ?_
     rw[kN (by omega),Rf,bO,iP (f:=enc)]
     simp only[fZ,dc]
     rfl
   have:=loop ks [] rfl
   exact bs this rfl
  rw[ah h4,cq]
  by_cases h7:o=7
  ·rw[ag h7,lT,ah h3,ah h4,ag h7]
   have hw:=nE he.1.2
   obtain ⟨k,rfl⟩: ∃k,ks=[k]:=List.length_eq_one_iff.1 (by rcases lS hw.1 with h|⟨_,h⟩<;>omega)
   refine bs (a:=k.enc) rfl ?_
   rw[aH,aN,aK]
   have ej:=hk (.inr (.inr h7)) k (by simp)
   refine bs (ih k (by simp) ej (pc k (by simp))) ?_
   have hp:=ue (c:=c) k
   have mL:=pc k (by simp)
   have hf:=Zy (L:=pX c k) (R:=[.node o l [k]]) ⟨o5 k ej,fun x hx=>Ee hx mL,by omega⟩ (fun z hz=>by rw[cV.1 hz];exact he) (by simp only[aF];omega)
   rw[dZ (f:=enc) (a:=Ex.node o l [k]),mU,fS (.node o l [k])] at hf
   exact bs hf rfl
  rw[ah h7,cq,lT,ah h3,ah h4,ah h7]
  by_cases h5:o=5
  ·rw[ag h5,ag h5]
   have ej:=hk (.inl h5)
   have hw2:=(nE he.1.2).2
   have loop: ∀(aA pre S:List Ex),ks=pre++aA→S.length≤aF pre→∃i,Loop (Eb CC c (ks.map enc) (ks.length:Int) o l (ks.map enc)) (((pre.length:Nat):Int),S.map enc)=some (i,(S++gv c aA).map enc):=by
    intro aA
    induction aA with
    | nil=>
     intro pre S e _
     rw[dc] at e
     subst e
     refine ⟨((ks.length:Nat):Int),aG ?_⟩
     simp only[Eb,Ea,un]
     rw[ar,ah (by omega),gv,dc]
    | cons k aA iX=>
     intro pre S e hS
     have bM:pre.length<ks.length:=by rw[e];simp
     have hm:k∈ks:=by rw[e];simp
     have cf:idx (ks.map enc) (pre.length:Int)=some k.enc:=by rw[e];exact fq _ _ _
     have h2:=ue (c:=c) k
     have mL:=pc k hm
     have aqe:aF pre+(k.size+aF aA)=aF ks:=by rw[e,wh];simp only[aF]
     have hd:((ks.map enc).drop (pre.length+1)).take ((ks.map enc).length-(pre.length+1))=aA.map enc:=by
      rw[uI (by simp),←List.map_drop,e,show pre.length+1=(pre++[k]).length by simp,show pre++k::aA=(pre++[k])++aA by simp,List.drop_left]
     have hf:=Zy (L:=pX c k) (R:=aA) ⟨o5 k (ej k hm),fun x hx=>Ee hx mL,by omega⟩ (fun z hz=>ej z (by rw[e];simp[hz])) (by omega)
     have main:Eb CC c (ks.map enc) (ks.length:Int) o l (ks.map enc) (((pre.length:Nat):Int),S.map enc)=some (if k.dJ=true then .inl ((((pre++[k]).length:Nat):Int),(S++(pX c k).map fun p=>ca 5 0 (p::aA)).map enc) else .inr (((pre.length:Nat):Int),(S++(pX c k).map fun p=>ca 5 0 (p::aA)).map enc)):=by
      simp only[Eb,Ea,un]
      refine bT (kO bM) (bs cf ?_)
      rw[aH,aN,aK]
      refine bs (ih k hm (ej k hm) mL) ?_
      rw[kN (by omega),Int.toNat_natCast,hd]
      refine bT (oq.2 ⟨dC (by omega),dC (by rw[aC];omega)⟩) ?_
      refine bs hf ?_
      refine bT (Re (by rw[V.aD,V.e8,aC,aC,aC];omega)) ?_
      refine bs (Zq (letters:=6) k (qf (ej k hm) (by omega)) (hw2 k hm)) ?_
      cases uq:k.dJ with
      | true=>
       refine bF (by rw[V.aD,V.cI];rfl) ?_
       rw[ag rfl,iP (f:=enc),bO]
       rfl
      | false=>
       refine bT (by rw[V.aD,V.cI];rfl) ?_
       rw[ah FR,iP (f:=enc)]
       rfl
     cases uq:k.dJ with
     | true=>
      rw[uq,ag rfl] at main
      obtain ⟨i,hi⟩:=iX (pre++[k]) (S++(pX c k).map fun p=>ca 5 0 (p::aA)) (by simp[e]) (by rw[wh,bO,aC];simp only[aF];omega)
      refine ⟨i,(br main).trans (hi.trans ?_)⟩
      rw[gv,ag uq,dj]
     | false=>
      rw[uq,ah FR] at main
      refine ⟨((pre.length:Nat):Int),(aG main).trans ?_⟩
      rw[gv,ah (by rw[uq];exact FR),dc]
   obtain ⟨i,hi⟩:=loop ks [] [] rfl (by simp[aF])
   exact bs hi rfl
  ·rw[ah h5,ah h5]
   rfl
end Go.AM
set_option maxRecDepth 100000
namespace Go.AM
open Go.Proofs
noncomputable abbrev Zz:Code:=bU Tryz.prog (az.aT 38)
noncomputable def wX (C:af) (Ef Eg:Int) (wY:List V) (Eh Ei:Int) (ur:List V) (i:Int) {β:Type} (kn:Int→Option β) (kr:((Int) ⊕ (Int × Bool))→Option β):Option β:=
 bif decide ((i:Int)<(wY.length:Int)) then
  bif decide ((i:Int)<(ur.length:Int)) then
  (idx wY i).bind fun x3=>
  (idx ur i).bind fun x4=>
  (C qS [.int .i64 ((x3.cell 0).toInt),.int .i64 ((x3.cell 1).toInt),.list ab ((x3.cell 2).toList),.int .i64 ((x4.cell 0).toInt),.int .i64 ((x4.cell 1).toInt),.list ab ((x4.cell 2).toList)]).bind fun r5=>
  bif (((V.nth r5 0).toInt):Int) != 0 then
   kr (.inl ((V.nth r5 0).toInt))
  else
   kn (IntKind.wrap .i64 (i+1))
  else
  kr (.inr (i,decide ((i:Int)<(ur.length:Int))))
 else
  kr (.inr (i,false))
noncomputable def uu (C:af) (Ef Eg:Int) (wY:List V) (Eh Ei:Int) (ur:List V):(Int)→Option ((Int) ⊕ ((Int) ⊕ (Int × Bool))):=fun i=>wX C Ef Eg wY Eh Ei ur i (fun y=>some (.inl y)) (fun r=>some (.inr r))
noncomputable def ZA (C:af):cj:=fun β n ds k=>
 bif Nat.beq n 97 then bt NA [true,false,false,false,false,false,false] [[0],[0,0,2,3,4,5,6,7]] (@wX C) ds k else
 none
abbrev akS (C:af) (b:cg):Prop:=ch Tryz.prog az C (ZA C) 38 (cv Tryz.prog (az.aT 38)) (az.sin 38).bf.length b
theorem akT (C:af):akS C (.loop (aq [1,1,0,1,0,0] Zz)):=
 bw NA [true,false,false,false,false,false,false] [[0],[0,0,2,3,4,5,6,7]] (@wX C) (by kernel_rfl) (aM (bs:=[]) (by kernel_rfl) aw) (fun ds=>by kernel_rfl) (fun i x=>by kernel_rfl) (fun i x β k=>by kernel_rfl) (fun β ds k=>by kernel_rfl)
noncomputable def ZB (C:af) (eH eI:Int) (e9:List V) (eJ eK:Int) (fa:List V):Option (List V):=
 bif (eH:Int) != eJ then
  (C yK [.bool (decide ((eH:Int)<eJ))]).bind fun r1=>
  some [.int .i64 ((V.nth r1 0).toInt)]
 else
  bif (eI:Int) != eK then
  (C yK [.bool (decide ((eI:Int)<eK))]).bind fun r2=>
  some [.int .i64 ((V.nth r2 0).toInt)]
  else
  (Loop (uu C eH eI e9 eJ eK fa) 0).bind (bD (fun (rf:Int)=>
   some [.int .i64 rf]) (un fun (i_7:Int) (CP:Bool)=>
   bif ((e9.length:Int):Int)==(fa.length:Int) then
    some [.int .i64 0]
   else
    (C yK [.bool (decide (((e9.length:Int):Int)<(fa.length:Int)))]).bind fun r9=>
    some [.int .i64 ((V.nth r9 0).toInt)]))
theorem akU {eH eI:Int} {e9:List V} {eJ eK:Int} {fa:List V} {r:Option (List V)} (h:ZB CC eH eI e9 eJ eK fa=r):CC qS [.int .i64 eH,.int .i64 eI,.list ab e9,.int .i64 eJ,.int .i64 eK,.list ab fa]=r:=
 bn (key:=38) (L:=ZA CC) (bs:=[.loop (aq [1,1,0,1,0,0] Zz)]) (by kernel_rfl) (aZ (akT CC) aw) (bm (by kernel_rfl) h)
noncomputable def akV (C:af) (less:Bool):Option (List V):=
 bif less then
  some [.int .i64 (-1)]
 else
  some [.int .i64 1]
theorem akW {less:Bool} {r:Option (List V)} (h:akV CC less=r):CC yK [.bool less]=r:=
 bn (key:=76) (L:=cS) (bs:=[]) (by kernel_rfl) aw (bm (by kernel_rfl) h)
end Go.AM
set_option maxRecDepth 100000
namespace Go.AM
open Go.Proofs Ex
theorem Rg (b:Bool):CC yK [.bool b]=some [.int .i64 (iv b)]:=by
 refine akW ?_
 cases b<;>rfl
theorem akX {ks cd:List Ex} {a0 a1 b0 b1:Int} (hlen:ks.length≤maxLen) (ih: ∀k∈ks,∀e:Ex,e.Ok→CC qS (ct k (ct e []))=some [.int .i64 (cmp k e)]) (dG: ∀k∈cd,Ex.Ok k):
  ∀(aA pre jK pV:List Ex),ks=pre++aA→cd=pV++jK→pre.length=pV.length→
  (∃c,Loop (uu CC a0 a1 (ks.map enc) b0 b1 (cd.map enc)) ((pre.length:Nat):Int)=some (.inl c)∧ed aA jK=c)∨
  (∃i b,Loop (uu CC a0 a1 (ks.map enc) b0 b1 (cd.map enc)) ((pre.length:Nat):Int)=some (.inr (i,b))∧ed aA jK=if ks.length=cd.length then 0 else iv (decide (ks.length<cd.length))):=by
 intro aA
 induction aA with
 | nil=>
  intro pre jK pV bd kG lR
  subst bd
  refine .inr ⟨((pre.length:Nat):Int),false,aG ?_,?_⟩
  ·simp only[uu,wX,dc,aC,ar]
   rw[ah (by omega)]
  ·cases jK with
   | nil=>simp[ed,kG,lR]
   | cons a l=>simp[ed,kG,lR,iv]
 | cons k aA iX=>
  intro pre jK pV bd kG lR
  have bM:pre.length<ks.length:=by rw[bd];simp
  have:=oU
  have cf:idx (ks.map enc) (pre.length:Int)=some k.enc:=by rw[bd];exact fq _ _ _
  cases jK with
  | nil=>
   have hl:cd.length=pre.length:=by rw[kG,lR];simp
   refine .inr ⟨((pre.length:Nat):Int),false,aG ?_,?_⟩
   ·simp only[uu,wX,aC,ar]
    rw[ag (by omega),ah (by omega)]
    simp[hl]
   ·rw[ah (by omega)]
    simp[ed,iv,show¬ks.length<cd.length by omega]
  | cons k' jK=>
   have hl:pre.length<cd.length:=by rw[kG,lR];simp
   have CW:idx (cd.map enc) (pre.length:Int)=some k'.enc:=by rw[kG,lR];exact fq _ _ _
   have e1:=ih k (by rw[bd];simp) k' (dG k' (by rw[kG];simp))
   by_cases hc:cmp k k'=0
   ·have jx:uu CC a0 a1 (ks.map enc) b0 b1 (cd.map enc) ((pre.length:Nat):Int)=some (.inl (((pre++[k]).length:Nat):Int)):=by
     simp only[uu,wX,aC,ar]
     rw[ag (by omega),ag (by omega),cf,CW]
     simp only[Option.bind_some,aH,aN,aK]
     rw[e1,hc]
     simp only[Option.bind_some,V.aD,V.toInt_int,kC,cy]
     rw[wrap64 (by omega) (by omega)]
     simp
    rw[br jx]
    simp only[ed,hc,ne_eq,oe,fg]
    exact iX (pre++[k]) jK (pV++[k']) (by rw[bd];simp) (by rw[kG];simp) (by simp[lR])
   ·refine .inl ⟨cmp k k',aG ?_,by simp[ed,hc]⟩
    simp only[uu,wX,aC,ar]
    rw[ag (by omega),ag (by omega),cf,CW]
    simp only[Option.bind_some,aH,aN,aK]
    rw[e1]
    simp only[Option.bind_some,V.aD,V.toInt_int,kC,ah hc]
theorem Ej: ∀a:Ex,a.Ok→∀b:Ex,b.Ok→CC qS (ct a (ct b []))=some [.int .i64 (cmp a b)]:=
 ind fun o l ks ih ax b hb=>by
  obtain ⟨o',l',cd⟩:=b
  refine akU ?_
  unfold ZB
  rw[wc]
  simp only[Ex.op,Ex.letter,Ex.kids,kC]
  by_cases h1:o=o'
  ·by_cases h2:l=l'
   ·rw[ag h1,ag h2,ah (by simp[h1]),ah (by simp[h2])]
    rcases akX (a0:=o) (a1:=l) (b0:=o') (b1:=l') ax.len (fun k hk e he=>ih k hk (ax.lp k hk) e he) hb.lp ks [] cd [] rfl rfl rfl with ⟨c,q1,q2⟩|⟨i,b,q1,q2⟩
    ·simp only[List.length_nil,Int.ofNat_zero,Int.natCast_zero] at q1
     erw [q1];rw[q2];rfl
    ·simp only[List.length_nil,Int.ofNat_zero,Int.natCast_zero] at q1
     erw [q1];rw[q2]
     simp only[Option.bind_some,bD,un,aC,cq]
     by_cases hl:ks.length=cd.length
     ·rw[ag (by omega),ag hl]
     ·rw[ah (by omega),ah hl,Rg]
      simp
   ·rw[ag h1,ah h2,ah (by simp[h1]),ag h2,Rg]
    simp only[Option.bind_some,V.aD,V.toInt_int];rfl
  ·rw[ah h1,ag h1,Rg]
   simp only[Option.bind_some,V.aD,V.toInt_int];rfl
end Go.AM
set_option maxRecDepth 100000
namespace Go.AM
open Go.Proofs
noncomputable abbrev ZC:Code:=bU Tryz.prog (az.aT 74)
noncomputable def zS (C:af) (l:List V) (Rh Ri:Int) (Rj:List V) (k':Int) {β:Type} (kn:Int→Option β) (kr:(Int × Bool)→Option β):Option β:=
 bif decide ((k':Int)>0) then
  (idx l (IntKind.wrap .i64 (k'-1))).bind fun x1=>
  (C qS [.int .i64 Rh,.int .i64 Ri,.list ab Rj,.int .i64 ((x1.cell 0).toInt),.int .i64 ((x1.cell 1).toInt),.list ab ((x1.cell 2).toList)]).bind fun r2=>
  bif decide ((((V.nth r2 0).toInt):Int)<0) then
  kn (IntKind.wrap .i64 (k'-1))
  else
  kr (k',decide ((((V.nth r2 0).toInt):Int)<0))
 else
  kr (k',false)
noncomputable def Ek (C:af) (l:List V) (Rh Ri:Int) (Rj:List V):(Int)→Option ((Int) ⊕ (Int × Bool)):=fun k'=>zS C l Rh Ri Rj k' (fun y=>some (.inl y)) (fun r=>some (.inr r))
noncomputable def ZD (C:af):cj:=fun β n ds k=>
 bif Nat.beq n 33 then bt NR [false,true,false,false,false] [[1,0,0,3,4,5]] (@zS C) ds k else
 none
abbrev akY (C:af) (b:cg):Prop:=ch Tryz.prog az C (ZD C) 74 (cv Tryz.prog (az.aT 74)) (az.sin 74).bf.length b
theorem akZ (C:af):akY C (.loop (aq [1,1,0,0,0] ZC)):=
 bw NR [false,true,false,false,false] [[1,0,0,3,4,5]] (@zS C) (by kernel_rfl) (aM (bs:=[]) (by kernel_rfl) aw) (fun ds=>by kernel_rfl) (fun i x=>by kernel_rfl) (fun i x β k=>by kernel_rfl) (fun β ds k=>by kernel_rfl)
noncomputable def ZE (C:af) (l:List V) (qg gy:Int) (qh:List V):Option (List V):=
 (Loop (Ek C l qg gy qh) (l.length:Int)).bind (un fun (cR:Int) (jJ:Bool)=>
  bif decide ((cR:Int)>0) then
   (idx l (IntKind.wrap .i64 (cR-1))).bind fun x5=>
   (C qS [.int .i64 ((x5.cell 0).toInt),.int .i64 ((x5.cell 1).toInt),.list ab ((x5.cell 2).toList),.int .i64 qg,.int .i64 gy,.list ab qh]).bind fun r6=>
   bif (((V.nth r6 0).toInt):Int)==0 then
   some [.list ab l]
   else
   bif (decide (0≤cR))&&(decide (cR≤(l.length:Int))) then
    bif Nat.ble ((([]:List V).length+((l.drop 0).take (((cR:Int).toNat)-0)).length)*40) b8 then
    bif Nat.ble (((([]:List V)++((l.drop 0).take (((cR:Int).toNat)-0))).length+([.agg [.int .i64 qg,.int .i64 gy,.list ab qh]]:List V).length)*40) b8 then
     bif (decide (0≤cR))&&(decide (cR≤(l.length:Int))) then
     bif Nat.ble ((((([]:List V)++((l.drop 0).take (((cR:Int).toNat)-0)))++([.agg [.int .i64 qg,.int .i64 gy,.list ab qh]]:List V)).length+((l.drop ((cR:Int).toNat)).take (l.length-((cR:Int).toNat))).length)*40) b8 then
      some [.list ab (((([]:List V)++((l.drop 0).take (((cR:Int).toNat)-0)))++([.agg [.int .i64 qg,.int .i64 gy,.list ab qh]]:List V))++((l.drop ((cR:Int).toNat)).take (l.length-((cR:Int).toNat))))]
     else none
     else none
    else none
    else none
   else none
  else
   bif (decide (0≤cR))&&(decide (cR≤(l.length:Int))) then
   bif Nat.ble ((([]:List V).length+((l.drop 0).take (((cR:Int).toNat)-0)).length)*40) b8 then
    bif Nat.ble (((([]:List V)++((l.drop 0).take (((cR:Int).toNat)-0))).length+([.agg [.int .i64 qg,.int .i64 gy,.list ab qh]]:List V).length)*40) b8 then
    bif (decide (0≤cR))&&(decide (cR≤(l.length:Int))) then
     bif Nat.ble ((((([]:List V)++((l.drop 0).take (((cR:Int).toNat)-0)))++([.agg [.int .i64 qg,.int .i64 gy,.list ab qh]]:List V)).length+((l.drop ((cR:Int).toNat)).take (l.length-((cR:Int).toNat))).length)*40) b8 then
     some [.list ab (((([]:List V)++((l.drop 0).take (((cR:Int).toNat)-0)))++([.agg [.int .i64 qg,.int .i64 gy,.list ab qh]]:List V))++((l.drop ((cR:Int).toNat)).take (l.length-((cR:Int).toNat))))]
     else none
    else none
    else none
   else none
   else none)
theorem ak0 {l:List V} {qg gy:Int} {qh:List V} {r:Option (List V)} (h:ZE CC l qg gy qh=r):CC Cq [.list ab l,.int .i64 qg,.int .i64 gy,.list ab qh]=r:=
 bn (key:=74) (L:=ZD CC) (bs:=[.loop (aq [1,1,0,0,0] ZC)]) (by kernel_rfl) (aZ (akZ CC) aw) (bm (by kernel_rfl) h)
noncomputable def ZF (C:af) (ak ay:Int) (aj:List V):Option (List V):=
 bif (ak:Int)==8 then
  bif ((aj.length:Int):Int)==1 then
  (aj[0]?).bind fun x1=>
  some [.bool ((((x1.cell 0).toInt):Int)==1)]
  else
  some [.bool false]
 else
  some [.bool false]
theorem ak1 {ak ay:Int} {aj:List V} {r:Option (List V)} (h:ZF CC ak ay aj=r):CC yI [.int .i64 ak,.int .i64 ay,.list ab aj]=r:=
 bn (key:=72) (L:=cS) (bs:=[]) (by kernel_rfl) aw (bm (by kernel_rfl) h)
end Go.AM
set_option maxRecDepth 100000
namespace Go.AM
open Go.Proofs Ex
theorem ak2 {l:List Ex} {x:Ex} (hl: ∀k∈l,k.Ok) (hx:x.Ok) (hn:l.length≤1000000):
  ∀k,k≤l.length→∃t,Loop (Ek CC (l.map enc) x.op x.letter (x.kids.map enc)) (k:Int)=some (((eR l x k:Nat):Int),t):=by
 intro k
 induction k with
 | zero=>
  intro _
  refine ⟨false,aG ?_⟩
  simp only[Ek,zS,eR]
  rw[ar,ah (by omega)]
 | succ k ih=>
  intro hk
  have e1:IntKind.wrap .i64 (((k+1:Nat):Int)-1)=(k:Int):=by rw[wrap64 (by omega) (by omega)];omega
  have c:=Ej x hx (l.getD k aQ) (oY hl (by omega))
  by_cases h:cmp x (l.getD k aQ)<0
  ·obtain ⟨t,ht⟩:=ih (by omega)
   refine ⟨t,?_⟩
   rw[eR,ag h,←ht]
   refine br ?_
   simp only[Ek,zS]
   rw[ar,ag (by omega),e1,zh (by omega)]
   simp only[Option.bind_some,aH,aN,aK]
   refine (congrArg (fun o=>Option.bind o _) c).trans ?_
   simp only[Option.bind_some,V.aD,V.toInt_int,ar]
   rw[ag h]
  ·refine ⟨false,?_⟩
   rw[eR,ah h]
   refine aG ?_
   simp only[Ek,zS]
   rw[ar,ag (by omega),e1,zh (by omega)]
   simp only[Option.bind_some,aH,aN,aK]
   refine (congrArg (fun o=>Option.bind o _) c).trans ?_
   simp only[Option.bind_some,V.aD,V.toInt_int,ar]
   rw[ah h,cL h]
theorem ZG {l:List Ex} {x:Ex} (hl: ∀k∈l,k.Ok) (hx:x.Ok) (hn:l.length≤1000000):
  CC Cq (.list ab (l.map enc)::ct x [])=some [.list ab ((dk l x).map enc)]:=by
 refine ak0 ?_
 unfold ZE
 obtain ⟨t,ht⟩:=ak2 hl hx hn l.length (bN _)
 have hle:=zi l x l.length
 rw[aC]
 refine (congrArg (fun o=>Option.bind o _) ht).trans ?_
 have key:=Xw l (eR l x l.length) x
 unfold dk
 generalize eR l x l.length=k at hle key
 have m1:Nat.ble ((([]:List V).length+(((l.map enc).drop 0).take (k-0)).length)*40) b8=true:=by
  rw[dN,iW];simp only[dV,jT,aC,List.length_nil];omega
 have m2:Nat.ble (((([]:List V)++(((l.map enc).drop 0).take (k-0))).length+([.agg [.int .i64 x.op,.int .i64 x.letter,.list ab (x.kids.map enc)]]:List V).length)*40) b8=true:=by
  rw[dN,iW];simp only[bO,dV,jT,aC,List.length_nil,List.length_singleton];omega
 have m3:Nat.ble ((((([]:List V)++(((l.map enc).drop 0).take (k-0)))++([.agg [.int .i64 x.op,.int .i64 x.letter,.list ab (x.kids.map enc)]]:List V)).length+(((l.map enc).drop k).take ((l.map enc).length-k)).length)*40) b8=true:=by
  rw[dN,iW];simp only[bO,dV,jT,aC,List.length_nil,List.length_singleton];omega
 have t1:(0:Int)≤(k:Int):=by omega
 have t2:(k:Int)≤(l.length:Int):=by omega
 simp only[Option.bind_some,un,ar,Int.toNat_natCast]
 rw[aC] at m3 key
 by_cases h0:0<k
 ·rw[ag (by omega)]
  have e1:IntKind.wrap .i64 ((k:Int)-1)=((k-1:Nat):Int):=by rw[wrap64 (by omega) (by omega)];omega
  have c:=Ej (l.getD (k-1) aQ) (oY hl (by omega)) x hx
  rw[e1,zh (by omega)]
  simp only[Option.bind_some,aH,aN,aK]
  refine (congrArg (fun o=>Option.bind o _) c).trans ?_
  simp only[Option.bind_some,V.aD,V.toInt_int,cq]
  by_cases h1:cmp (l.getD (k-1) aQ) x=0
  ·rw[ag h1,ag ⟨h0,h1⟩]
  ·rw[ah h1,ah (fun h=>h1 h.2)]
   simp only[bK,ar,t1,t2,cy,m1,m2,m3,cond_true,key,aC]
 ·rw[ah (by omega),ah (fun h=>h0 h.1)]
  simp only[bK,ar,t1,t2,cy,m1,m2,m3,cond_true,key,aC]
theorem Rk (e:Ex):CC yI (ct e [])=some [.bool (univ e)]:=by
 obtain ⟨o,l,ks⟩:=e
 refine ak1 ?_
 unfold ZF univ
 simp only[Ex.op,Ex.kids,cq,aC]
 by_cases h1:o=8
 ·rw[ag h1]
  match ks with
  | []=>simp
  | [k]=>
   obtain ⟨o2,l2,nG⟩:=k
   rw[ag (by simp)]
   simp[h1,aH,Ex.op,Bool.beq_eq_decide_eq]
  | k::k2::ks=>
   rw[ah (by simp<;>omega)]
   simp
 ·rw[ah h1];simp[h1]
end Go.AM
set_option maxRecDepth 100000
namespace Go.AM
open Go.Proofs
noncomputable abbrev ZH:Code:=bU Tryz.prog (az.aT 73)
noncomputable def El (C:af) (op:Int) (t8:List V) (t9 t10:Int) (outs:List V) {β:Type} (kn:(Int × (List V))→Option β) (kr:(Int × Bool × (List V))→Option β):Option β:=
 bif decide ((t10:Int)<t9) then
  (idx t8 t10).bind fun x1=>
  bif (((x1.cell 0).toInt):Int)==op then
  bif Nat.ble ((outs.length+((x1.cell 2).toList).length)*40) b8 then
   kn (IntKind.wrap .i64 (t10+1),outs++((x1.cell 2).toList))
  else none
  else
  bif Nat.ble ((outs.length+([.agg [.int .i64 ((x1.cell 0).toInt),.int .i64 ((x1.cell 1).toInt),.list ab ((x1.cell 2).toList)]]:List V).length)*40) b8 then
   kn (IntKind.wrap .i64 (t10+1),outs++([.agg [.int .i64 ((x1.cell 0).toInt),.int .i64 ((x1.cell 1).toInt),.list ab ((x1.cell 2).toList)]]:List V))
  else none
 else
  kr (t10,decide ((t10:Int)<t9),outs)
noncomputable def Em (C:af) (op:Int) (t8:List V) (t9:Int):(Int × (List V))→Option ((Int × (List V)) ⊕ (Int × Bool × (List V))):=un fun t10 outs=>El C op t8 t9 t10 outs (fun y=>some (.inl y)) (fun r=>some (.inr r))
noncomputable def ZI (C:af):cj:=fun β n ds k=>
 bif Nat.beq n 49 then bt NQ [false,false,false,true,true] [[1,2,3,0,0,0]] (@El C) ds k else
 none
abbrev ak3 (C:af) (b:cg):Prop:=ch Tryz.prog az C (ZI C) 73 (cv Tryz.prog (az.aT 73)) (az.sin 73).bf.length b
theorem ak4 (C:af):ak3 C (.loop (aq [1,1,0,1,0,0] ZH)):=
 bw NQ [false,false,false,true,true] [[1,2,3,0,0,0]] (@El C) (by kernel_rfl) (aM (bs:=[]) (by kernel_rfl) aw) (fun ds=>by kernel_rfl) (fun i x=>by kernel_rfl) (fun i x β k=>by kernel_rfl) (fun β ds k=>by kernel_rfl)
noncomputable def ZJ (C:af) (op:Int) (kids:List V):Option (List V):=
 (Loop (Em C op kids (kids.length:Int)) (0,([]:List V))).bind (un fun (Po:Int)=>un fun (fN:Bool) (ak5:List V)=>
  some [.list ab ak5])
theorem ak6 {op:Int} {kids:List V} {r:Option (List V)} (h:ZJ CC op kids=r):CC yJ [.int .i64 op,.list ab kids]=r:=
 bn (key:=73) (L:=ZI CC) (bs:=[.loop (aq [1,1,0,1,0,0] ZH)]) (by kernel_rfl) (aZ (ak4 CC) aw) (bm (by kernel_rfl) h)
end Go.AM
set_option maxRecDepth 100000
namespace Go.AM
open Go.Proofs Ex
theorem ak7 {op:Int} {ks:List Ex} (hn:ks.length≤1000000) (hl:(bG op ks).length≤1000000):
  ∀(aA pre:List Ex),ks=pre++aA→
  Loop (Em CC op (ks.map enc) ((ks.map enc).length:Int)) (((pre.length:Nat):Int),(bG op pre).map enc)=some (((ks.map enc).length:Int),false,(bG op ks).map enc):=by
 intro aA
 induction aA with
 | nil=>
  intro pre e
  rw[dc] at e
  subst e
  refine aG ?_
  simp only[Em,El,un,aC]
  rw[ar,ah (by omega),cL (by omega)]
 | cons k aA ih=>
  intro pre e
  have aR:pre.length<ks.length:=by rw[e];simp
  have hi:idx (ks.map enc) ((pre.length:Nat):Int)=some k.enc:=by rw[e];exact fq pre aA k
  have hf:bG op ks=bG op pre++((if k.op=op then k.kids else [k])++bG op aA):=by
   rw[e];unfold bG;rw[xh,iC]
  have BJ:bG op (pre++[k])=bG op pre++(if k.op=op then k.kids else [k]):=by
   unfold bG;rw[xh,iC,List.flatMap_nil,dc]
  rw[hf,bO,bO] at hl
  have bB:Em CC op (ks.map enc) ((ks.map enc).length:Int) (((pre.length:Nat):Int),(bG op pre).map enc)=some (.inl (((pre.length+1:Nat):Int),(bG op (pre++[k])).map enc)):=by
   simp only[Em,El,un,aC]
   rw[ar,ag (by omega),hi,BJ]
   simp only[Option.bind_some,aH,aN,aK,cq,sq,aC,List.length_singleton]
   by_cases h:k.op=op
   ·rw[ag h] at hl⊢
    rw[ag h,ag (by rw[iW];omega),wrap64 (by omega) (by omega),iP]
    rfl
   ·rw[ah h] at hl⊢
    rw[List.length_singleton] at hl
    rw[ah h,ag (by rw[iW];omega),wrap64 (by omega) (by omega),iP,←fS]
    rfl
  rw[br bB]
  have:=ih (pre++[k]) (by simp[e])
  simpa using this
theorem Rl {op:Int} {ks:List Ex} (hn:ks.length≤1000000) (hl:(bG op ks).length≤1000000):CC yJ [.int .i64 op,.list ab (ks.map enc)]=some [.list ab ((bG op ks).map enc)]:=by
 refine ak6 ?_
 unfold ZJ
 refine (congrArg (fun o=>Option.bind o _) (ak7 hn hl ks [] rfl)).trans ?_
 rfl
end Go.AM
set_option maxRecDepth 100000
namespace Go.AM
open Go.Proofs
noncomputable abbrev uv:Code:=bU Tryz.prog (az.aT 34)
noncomputable def En (C:af) (t19:List V) (t20 dy df:Int) (cw:List V) (mO mP:Int) (fE:List V) (t21:Int) (o8:List V) {β:Type} (kn:(Int × (List V))→Option β) (kr:(Int × Bool × (List V))→Option β):Option β:=
 bif decide ((t21:Int)<t20) then
  (idx t19 t21).bind fun x1=>
  (C tQ [.int .i64 ((x1.cell 0).toInt),.int .i64 ((x1.cell 1).toInt),.list ab ((x1.cell 2).toList)]).bind fun r2=>
  bif Nat.ble ((o8.length+([.agg [.int .i64 ((V.nth r2 0).toInt),.int .i64 ((V.nth (r2.drop 1) 0).toInt),.list ab ((V.nth ((r2.drop 1).drop 1) 0).toList)]]:List V).length)*40) b8 then
  kn (IntKind.wrap .i64 (t21+1),o8++([.agg [.int .i64 ((V.nth r2 0).toInt),.int .i64 ((V.nth (r2.drop 1) 0).toInt),.list ab ((V.nth ((r2.drop 1).drop 1) 0).toList)]]:List V))
  else none
 else
  kr (t21,decide ((t21:Int)<t20),o8)
noncomputable def Jw (C:af) (t19:List V) (t20 dy df:Int) (cw:List V) (mO mP:Int) (fE:List V):(Int × (List V))→Option ((Int × (List V)) ⊕ (Int × Bool × (List V))):=un fun t21 o8=>En C t19 t20 dy df cw mO mP fE t21 o8 (fun y=>some (.inl y)) (fun r=>some (.inr r))
noncomputable def zT (C:af) (t95 mO mP Eo Ep:Int) (Er:List V) (gh gi uw ux:Int) (Jx jq ZK:List V) (t96:Int) (nT:List V) {β:Type} (kn:(Int × (List V))→Option β) (kr:((Unit) ⊕ (Int × Bool × (List V)))→Option β):Option β:=
 bif decide ((t96:Int)<t95) then
  bif (decide (0≤t96))&&(decide (t96<(Jx.length:Int))) then
  (Jx[(t96:Int).toNat]?).bind fun o9=>
  bif (((o9.cell 0).toInt):Int)==1 then
   kr (.inl ())
  else
   bif (((o9.cell 0).toInt):Int) != 2 then
   bif Nat.ble ((nT.length+([.agg [.int .i64 ((o9.cell 0).toInt),.int .i64 ((o9.cell 1).toInt),.list ab ((o9.cell 2).toList)]]:List V).length)*40) b8 then
    kn (IntKind.wrap .i64 (t96+1),nT++([.agg [.int .i64 ((o9.cell 0).toInt),.int .i64 ((o9.cell 1).toInt),.list ab ((o9.cell 2).toList)]]:List V))
   else none
   else
   kn (IntKind.wrap .i64 (t96+1),nT)
  else none
 else
  kr (.inr (t96,decide ((t96:Int)<t95),nT))
noncomputable def zU (C:af) (t95 mO mP Eo Ep:Int) (Er:List V) (gh gi uw ux:Int) (Jx jq ZK:List V):(Int × (List V))→Option ((Int × (List V)) ⊕ ((Unit) ⊕ (Int × Bool × (List V)))):=un fun t96 nT=>zT C t95 mO mP Eo Ep Er gh gi uw ux Jx jq ZK t96 nT (fun y=>some (.inl y)) (fun r=>some (.inr r))
noncomputable def zV (C:af) (t120 mO mP ZL ZM gh gi uw ux:Int) (ZN Jy jq nT:List V) (t121:Int) (ft:List V) {β:Type} (kn:(Int × (List V))→Option β) (kr:((Unit) ⊕ (Int × Bool × (List V)))→Option β):Option β:=
 bif decide ((t121:Int)<t120) then
  bif (decide (0≤t121))&&(decide (t121<(Jy.length:Int))) then
  (Jy[(t121:Int).toNat]?).bind fun kJ=>
  (C yI [.int .i64 ((kJ.cell 0).toInt),.int .i64 ((kJ.cell 1).toInt),.list ab ((kJ.cell 2).toList)]).bind fun ef=>
  bif (V.nth ef 0).toBool then
   kr (.inl ())
  else
   bif (((kJ.cell 0).toInt):Int) != 1 then
   (C Cq [.list ab ft,.int .i64 ((kJ.cell 0).toInt),.int .i64 ((kJ.cell 1).toInt),.list ab ((kJ.cell 2).toList)]).bind fun fl=>
   kn (IntKind.wrap .i64 (t121+1),(V.nth fl 0).toList)
   else
   kn (IntKind.wrap .i64 (t121+1),ft)
  else none
 else
  kr (.inr (t121,decide ((t121:Int)<t120),ft))
noncomputable def zW (C:af) (t120 mO mP ZL ZM gh gi uw ux:Int) (ZN Jy jq nT:List V):(Int × (List V))→Option ((Int × (List V)) ⊕ ((Unit) ⊕ (Int × Bool × (List V)))):=un fun t121 ft=>zV C t120 mO mP ZL ZM gh gi uw ux ZN Jy jq nT t121 ft (fun y=>some (.inl y)) (fun r=>some (.inr r))
noncomputable def zX (C:af) (t144 mO mP Eo Ep:Int) (Er:List V) (gh gi uw ux:Int) (Jz jq nT:List V) (t145:Int) (ft:List V) {β:Type} (kn:(Int × (List V))→Option β) (kr:((Unit) ⊕ (Int × Bool × (List V)))→Option β):Option β:=
 bif decide ((t145:Int)<t144) then
  bif (decide (0≤t145))&&(decide (t145<(Jz.length:Int))) then
  (Jz[(t145:Int).toNat]?).bind fun sJ=>
  bif (((sJ.cell 0).toInt):Int)==1 then
   kr (.inl ())
  else
   (C yI [.int .i64 ((sJ.cell 0).toInt),.int .i64 ((sJ.cell 1).toInt),.list ab ((sJ.cell 2).toList)]).bind fun Rm=>
   bif !((V.nth Rm 0).toBool) then
   (C Cq [.list ab ft,.int .i64 ((sJ.cell 0).toInt),.int .i64 ((sJ.cell 1).toInt),.list ab ((sJ.cell 2).toList)]).bind fun r28=>
   kn (IntKind.wrap .i64 (t145+1),(V.nth r28 0).toList)
   else
   kn (IntKind.wrap .i64 (t145+1),ft)
  else none
 else
  kr (.inr (t145,decide ((t145:Int)<t144),ft))
noncomputable def zY (C:af) (t144 mO mP Eo Ep:Int) (Er:List V) (gh gi uw ux:Int) (Jz jq nT:List V):(Int × (List V))→Option ((Int × (List V)) ⊕ ((Unit) ⊕ (Int × Bool × (List V)))):=un fun t145 ft=>zX C t144 mO mP Eo Ep Er gh gi uw ux Jz jq nT t145 ft (fun y=>some (.inl y)) (fun r=>some (.inr r))
noncomputable def ZO (C:af):cj:=fun β n ds k=>
 bif Nat.beq n 49 then bt Nk [false,false,true,false,false,false,false,false,true,false] [[1,2,0,0,4,5,6,7,8,0,10]] (@En C) ds k else
 bif Nat.beq n 465 then bt Nl [false,true,false,false,false,false,false,false,false,false,false,false,false,true,false] [[5,6,7],[1,0,0,3,4,5,6,7,8,9,10,11,12,13,0,15]] (@zT C) ds k else
 bif Nat.beq n 609 then bt Nn [false,true,false,false,false,false,false,false,true,false,false,false,false,false,false] [[5,6,15],[1,0,0,3,4,5,6,7,8,0,10,11,12,13,14,15]] (@zV C) ds k else
 bif Nat.beq n 769 then bt No [false,true,false,false,false,false,false,false,false,true,false,false,false,false,false] [[5,6,7],[1,0,0,3,4,5,6,7,8,9,0,11,12,13,14,15]] (@zX C) ds k else
 none
abbrev JA (C:af) (b:cg):Prop:=ch Tryz.prog az C (ZO C) 34 (cv Tryz.prog (az.aT 34)) (az.sin 34).bf.length b
theorem ak8 (C:af):JA C (.loop (aq [1,1,0,1,0,0] uv)):=
 bw Nk [false,false,true,false,false,false,false,false,true,false] [[1,2,0,0,4,5,6,7,8,0,10]] (@En C) (by kernel_rfl) (aM (bs:=[]) (by kernel_rfl) aw) (fun ds=>by kernel_rfl) (fun i x=>by kernel_rfl) (fun i x β k=>by kernel_rfl) (fun β ds k=>by kernel_rfl)
theorem ak9 (C:af):JA C (.loop (aq [1,1,1,1,1,1,1,0,1,0,1,1,1,1,1,0,1,1,0,0] uv)):=
 bw Nl [false,true,false,false,false,false,false,false,false,false,false,false,false,true,false] [[5,6,7],[1,0,0,3,4,5,6,7,8,9,10,11,12,13,0,15]] (@zT C) (by kernel_rfl) (aM (bs:=[]) (by kernel_rfl) aw) (fun ds=>by kernel_rfl) (fun i x=>by kernel_rfl) (fun i x β k=>by kernel_rfl) (fun β ds k=>by kernel_rfl)
theorem ala (C:af):JA C (.loop (aq [1,1,1,1,1,1,1,0,1,0,1,1,1,1,1,1,1,0,1,0,0] uv)):=
 bw Nn [false,true,false,false,false,false,false,false,true,false,false,false,false,false,false] [[5,6,15],[1,0,0,3,4,5,6,7,8,0,10,11,12,13,14,15]] (@zV C) (by kernel_rfl) (aM (bs:=[]) (by kernel_rfl) aw) (fun ds=>by kernel_rfl) (fun i x=>by kernel_rfl) (fun i x β k=>by kernel_rfl) (fun β ds k=>by kernel_rfl)
theorem alb (C:af):JA C (.loop (aq [1,1,1,1,1,1,1,0,1,0,1,1,1,1,1,1,1,1,1,0,1,1,0,0] uv)):=
 bw No [false,true,false,false,false,false,false,false,false,true,false,false,false,false,false] [[5,6,7],[1,0,0,3,4,5,6,7,8,9,0,11,12,13,14,15]] (@zX C) (by kernel_rfl) (aM (bs:=[]) (by kernel_rfl) aw) (fun ds=>by kernel_rfl) (fun i x=>by kernel_rfl) (fun i x β k=>by kernel_rfl) (fun β ds k=>by kernel_rfl)
noncomputable def ZP (C:af) (ak ay:Int) (aj:List V):Option (List V):=
 (Loop (Jw C aj (aj.length:Int) ak ay aj 0 0 ([]:List V)) (0,([]:List V))).bind (un fun (fN:Int)=>un fun (jJ:Bool) (qi:List V)=>
  bif (ak:Int)==8 then
   bif decide (0<(qi.length:Int)) then
   (qi[0]?).bind fun x6=>
   bif (((x6.cell 0).toInt):Int)==8 then
    bif decide (0<(qi.length:Int)) then
    (qi[0]?).bind fun x7=>
    (((x7.cell 2).toList)[0]?).bind fun x8=>
    some [.int .i64 ((x8.cell 0).toInt),.int .i64 ((x8.cell 1).toInt),.list ab ((x8.cell 2).toList)]
    else none
   else
    some [.int .i64 ak,.int .i64 ay,.list ab qi]
   else none
  else
   bif (ak:Int)==7 then
   bif decide (0<(qi.length:Int)) then
    (qi[0]?).bind fun x9=>
    bif (((x9.cell 0).toInt):Int)==1 then
    some [.int .i64 2,.int .i64 0,.list ab ([]:List V)]
    else
    bif (((x9.cell 0).toInt):Int)==2 then
     some [.int .i64 2,.int .i64 0,.list ab ([]:List V)]
    else
     bif (((x9.cell 0).toInt):Int)==7 then
     some [.int .i64 ((x9.cell 0).toInt),.int .i64 ((x9.cell 1).toInt),.list ab ((x9.cell 2).toList)]
     else
     (C yI [.int .i64 ((x9.cell 0).toInt),.int .i64 ((x9.cell 1).toInt),.list ab ((x9.cell 2).toList)]).bind fun nR=>
     bif (V.nth nR 0).toBool then
      some [.int .i64 ((x9.cell 0).toInt),.int .i64 ((x9.cell 1).toInt),.list ab ((x9.cell 2).toList)]
     else
      some [.int .i64 ak,.int .i64 ay,.list ab qi]
   else none
   else
   bif (ak:Int)==5 then
    (C yJ [.int .i64 ak,.list ab qi]).bind fun fQ=>
    (Loop (zU C (((V.nth fQ 0).toList).length:Int) 0 0 1 0 ([]:List V) ak ay 2 0 ((V.nth fQ 0).toList) ([]:List V) ([]:List V)) (0,([]:List V))).bind (bD (fun _=>
     some [.int .i64 1,.int .i64 0,.list ab ([]:List V)]) (un fun (O8:Int)=>un fun (v5:Bool) (JB:List V)=>
     bif ((JB.length:Int):Int)==0 then
     some [.int .i64 2,.int .i64 0,.list ab ([]:List V)]
     else
     bif ((JB.length:Int):Int)==1 then
      (JB[0]?).bind fun da=>
      some [.int .i64 ((da.cell 0).toInt),.int .i64 ((da.cell 1).toInt),.list ab ((da.cell 2).toList)]
     else
      some [.int .i64 ak,.int .i64 ay,.list ab JB]))
   else
    bif (ak:Int)==4 then
    (C yJ [.int .i64 ak,.list ab qi]).bind fun cG=>
    (Loop (zW C (((V.nth cG 0).toList).length:Int) 0 0 8 0 ak ay 1 0 ([]:List V) ((V.nth cG 0).toList) ([]:List V) ([.agg [.int .i64 1,.int .i64 0,.list ab ([]:List V)]]:List V)) (0,([]:List V))).bind (bD (fun _=>
     some [.int .i64 8,.int .i64 0,.list ab ([.agg [.int .i64 1,.int .i64 0,.list ab ([]:List V)]]:List V)]) (un fun (CS:Int)=>un fun (y9:Bool) (JC:List V)=>
     bif ((JC.length:Int):Int)==0 then
      some [.int .i64 1,.int .i64 0,.list ab ([]:List V)]
     else
      bif ((JC.length:Int):Int)==1 then
      (JC[0]?).bind fun jN=>
      some [.int .i64 ((jN.cell 0).toInt),.int .i64 ((jN.cell 1).toInt),.list ab ((jN.cell 2).toList)]
      else
      some [.int .i64 ak,.int .i64 ay,.list ab JC]))
    else
    bif (ak:Int)==6 then
     (C yJ [.int .i64 ak,.list ab qi]).bind fun uh=>
     (Loop (zY C (((V.nth uh 0).toList).length:Int) 0 0 1 0 ([]:List V) ak ay 8 0 ((V.nth uh 0).toList) ([]:List V) ([.agg [.int .i64 1,.int .i64 0,.list ab ([]:List V)]]:List V)) (0,([]:List V))).bind (bD (fun _=>
      some [.int .i64 1,.int .i64 0,.list ab ([]:List V)]) (un fun (v9:Int)=>un fun (CU:Bool) (JD:List V)=>
      bif ((JD.length:Int):Int)==0 then
      some [.int .i64 8,.int .i64 0,.list ab ([.agg [.int .i64 1,.int .i64 0,.list ab ([]:List V)]]:List V)]
      else
      bif ((JD.length:Int):Int)==1 then
       (JD[0]?).bind fun Rn=>
       some [.int .i64 ((Rn.cell 0).toInt),.int .i64 ((Rn.cell 1).toInt),.list ab ((Rn.cell 2).toList)]
      else
       some [.int .i64 ak,.int .i64 ay,.list ab JD]))
    else
     some [.int .i64 ak,.int .i64 ay,.list ab ([]:List V)])
theorem alc {ak ay:Int} {aj:List V} {r:Option (List V)} (h:ZP CC ak ay aj=r):CC tQ [.int .i64 ak,.int .i64 ay,.list ab aj]=r:=
 bn (key:=34) (L:=ZO CC) (bs:=[.loop (aq [1,1,0,1,0,0] uv),.loop (aq [1,1,1,1,1,1,1,0,1,0,1,1,1,1,1,0,1,1,0,0] uv),.loop (aq [1,1,1,1,1,1,1,0,1,0,1,1,1,1,1,1,1,0,1,0,0] uv),.loop (aq [1,1,1,1,1,1,1,0,1,0,1,1,1,1,1,1,1,1,1,0,1,1,0,0] uv)]) (by kernel_rfl) (aZ (ak8 CC) (aZ (ak9 CC) (aZ (ala CC) (aZ (alb CC) aw)))) (bm (by kernel_rfl) h)
end Go.AM
set_option maxRecDepth 100000
namespace Go.AM
open Go.Proofs Ex
section
variable {f:List Ex} {a1 a2 a3 a4 a5 a6 a7 a8:Int} {b0 b1 b2:List V}
theorem ald (hn:f.length≤1000000): ∀(aA pre acc:List Ex),f=pre++aA→acc.length≤pre.length→
  Loop (zU CC ((f.map enc).length:Int) a1 a2 a3 a4 b0 a5 a6 a7 a8 (f.map enc) b1 b2) (((pre.length:Nat):Int),acc.map enc)=
   some (if aA.any (fun k=>decide (k.op=1))=true then .inl () else .inr (((f.map enc).length:Int),false,(acc++aA.filter fun k=>decide (k.op≠2)).map enc)):=by
 intro aA
 induction aA with
 | nil=>
  intro pre acc e _
  rw[dc] at e
  subst e
  refine aG ?_
  simp only[zU,zT,un,aC]
  rw[ar,ah (by omega),cL (by omega)]
  simp
 | cons k aA ih=>
  intro pre acc e ha
  have aR:pre.length<f.length:=by rw[e];simp
  have hg:(f.map enc)[pre.length]? =some k.enc:=by rw[e];simp
  have t1:((pre.length:Nat):Int)<(f.length:Int):=by omega
  have t2:(0:Int)≤((pre.length:Nat):Int):=by omega
  by_cases h1:k.op=1
  ·rw[ag (by simp[h1])]
   refine aG ?_
   simp only[zU,zT,un,aC,bK,ar,cq,Int.toNat_natCast,t1,t2,cy,hg,Option.bind_some,aH,h1]
  ·have bB:zU CC ((f.map enc).length:Int) a1 a2 a3 a4 b0 a5 a6 a7 a8 (f.map enc) b1 b2 (((pre.length:Nat):Int),acc.map enc)=some (.inl (((pre.length+1:Nat):Int),(if k.op=2 then acc else acc++[k]).map enc)):=by
    simp only[zU,zT,un,aC,bK,ar,cq,kC,sq,Int.toNat_natCast,t1,t2,cy,hg,Option.bind_some,aH,aN,aK,List.length_singleton]
    rw[ah h1,wrap64 (by omega) (by omega)]
    by_cases h2:k.op=2
    ·rw[ag h2,ag h2];rfl
    ·rw[ah h2,ah h2,ag (by rw[iW];omega),iP,←fS];rfl
   rw[br bB]
   have:=ih (pre++[k]) (if k.op=2 then acc else acc++[k]) (by simp[e]) (by split<;>simp<;>omega)
   rw[bO,List.length_singleton] at this
   rw[this]
   congr 1
   by_cases h2:k.op=2
   ·simp[h1,h2]
   ·simp[h1,h2]
end
section
variable {f:List Ex} {a1 a2 a3 a4 a5 a6 a7 a8:Int} {b0 b1 b2:List V}
theorem ale (hn:f.length≤1000000) (hf: ∀k∈f,k.Ok): ∀(aA pre acc:List Ex),f=pre++aA→acc.length≤pre.length→(∀k∈acc,k.Ok)→
  Loop (zW CC ((f.map enc).length:Int) a1 a2 a3 a4 a5 a6 a7 a8 b0 (f.map enc) b1 b2) (((pre.length:Nat):Int),acc.map enc)=
   some (if aA.any univ=true then .inl () else .inr (((f.map enc).length:Int),false,((aA.filter fun k=>decide (k.op≠1)).foldl dk acc).map enc)):=by
 intro aA
 induction aA with
 | nil=>
  intro pre acc e _ _
  rw[dc] at e
  subst e
  refine aG ?_
  simp only[zW,zV,un,aC]
  rw[ar,ah (by omega),cL (by omega)]
  simp
 | cons k aA ih=>
  intro pre acc e ha ax
  have lk:k∈f:=by rw[e];simp
  have aR:pre.length<f.length:=by rw[e];simp
  have hg:(f.map enc)[pre.length]? =some k.enc:=by rw[e];simp
  have t1:((pre.length:Nat):Int)<(f.length:Int):=by omega
  have t2:(0:Int)≤((pre.length:Nat):Int):=by omega
  have cu:=Rk k
  have ci:=ZG ax (hf k lk) (by omega)
  cases hu:univ k with
  | true=>
   rw[hu] at cu
   rw[ag (by simp[hu])]
   refine aG ?_
   simp only[zW,zV,un,aC,bK,ar,Int.toNat_natCast,t1,t2,cy,hg,Option.bind_some,aH,aN,aK]
   refine (congrArg (fun o=>Option.bind o _) cu).trans ?_
   rfl
  | false=>
   rw[hu] at cu
   have bB:zW CC ((f.map enc).length:Int) a1 a2 a3 a4 a5 a6 a7 a8 b0 (f.map enc) b1 b2 (((pre.length:Nat):Int),acc.map enc)=some (.inl (((pre.length+1:Nat):Int),(if k.op=1 then acc else dk acc k).map enc)):=by
    simp only[zW,zV,un,aC,bK,ar,Int.toNat_natCast,t1,t2,cy,hg,Option.bind_some,aH,aN,aK]
    refine (congrArg (fun o=>Option.bind o _) cu).trans ?_
    simp only[Option.bind_some,V.aD,V.cI,cond_false,kC]
    rw[wrap64 (by omega) (by omega)]
    by_cases h2:k.op=1
    ·rw[ag h2,ag h2];rfl
    ·rw[ah h2,ah h2]
     refine (congrArg (fun o=>Option.bind o _) ci).trans ?_
     simp only[Option.bind_some,V.aD,V.e8]
     rfl
   rw[br bB]
   have xC:=IT acc k
   have:=ih (pre++[k]) (if k.op=1 then acc else dk acc k) (by simp[e]) (by rw[bO,List.length_singleton];split<;>omega) (by split;exact ax;exact Pt ax (hf k lk))
   rw[bO,List.length_singleton] at this
   rw[this]
   congr 1
   by_cases h2:k.op=1
   ·simp[hu,h2]
   ·simp[hu,h2]
theorem alf (hn:f.length≤1000000) (hf: ∀k∈f,k.Ok): ∀(aA pre acc:List Ex),f=pre++aA→acc.length≤pre.length→(∀k∈acc,k.Ok)→
  Loop (zY CC ((f.map enc).length:Int) a1 a2 a3 a4 b0 a5 a6 a7 a8 (f.map enc) b1 b2) (((pre.length:Nat):Int),acc.map enc)=
   some (if aA.any (fun k=>decide (k.op=1))=true then .inl () else .inr (((f.map enc).length:Int),false,((aA.filter fun k=> !(univ k)).foldl dk acc).map enc)):=by
 intro aA
 induction aA with
 | nil=>
  intro pre acc e _ _
  rw[dc] at e
  subst e
  refine aG ?_
  simp only[zY,zX,un,aC]
  rw[ar,ah (by omega),cL (by omega)]
  simp
 | cons k aA ih=>
  intro pre acc e ha ax
  have lk:k∈f:=by rw[e];simp
  have aR:pre.length<f.length:=by rw[e];simp
  have hg:(f.map enc)[pre.length]? =some k.enc:=by rw[e];simp
  have t1:((pre.length:Nat):Int)<(f.length:Int):=by omega
  have t2:(0:Int)≤((pre.length:Nat):Int):=by omega
  have cu:=Rk k
  have ci:=ZG ax (hf k lk) (by omega)
  by_cases h1:k.op=1
  ·rw[ag (by simp[h1])]
   refine aG ?_
   simp only[zY,zX,un,aC,bK,ar,cq,Int.toNat_natCast,t1,t2,cy,hg,Option.bind_some,aH,h1]
  ·have bB:zY CC ((f.map enc).length:Int) a1 a2 a3 a4 b0 a5 a6 a7 a8 (f.map enc) b1 b2 (((pre.length:Nat):Int),acc.map enc)=some (.inl (((pre.length+1:Nat):Int),(if univ k=true then acc else dk acc k).map enc)):=by
    simp only[zY,zX,un,aC,bK,ar,cq,Int.toNat_natCast,t1,t2,cy,hg,Option.bind_some,aH,aN,aK]
    rw[ah h1]
    refine (congrArg (fun o=>Option.bind o _) cu).trans ?_
    simp only[Option.bind_some,V.aD,V.cI,dH]
    rw[wrap64 (by omega) (by omega)]
    cases hu:univ k with
    | true=>rw[cond_true,ag rfl];rfl
    | false=>
     rw[cond_false,ah (by simp)]
     refine (congrArg (fun o=>Option.bind o _) ci).trans ?_
     simp only[Option.bind_some,V.aD,V.e8]
     rfl
   rw[br bB]
   have xC:=IT acc k
   have:=ih (pre++[k]) (if univ k=true then acc else dk acc k) (by simp[e]) (by rw[bO,List.length_singleton];split<;>omega) (by split;exact ax;exact Pt ax (hf k lk))
   rw[bO,List.length_singleton] at this
   rw[this]
   congr 1
   cases hu:univ k<;>simp[h1,hu]
end
theorem alg {ks:List Ex} {a b c d:Int} {l1 l2:List V} (hn:ks.length≤1000000) (ih: ∀k∈ks,CC tQ (ct k [])=some (gr (dv k))):
  ∀(aA pre:List Ex),ks=pre++aA→∃t,Loop (Jw CC (ks.map enc) ((ks.map enc).length:Int) a b l1 c d l2) (((pre.length:Nat):Int),(pre.map dv).map enc)=some (((ks.map enc).length:Int),t,(ks.map dv).map enc):=by
 intro aA
 induction aA with
 | nil=>
  intro pre e
  rw[dc] at e
  subst e
  refine ⟨false,aG ?_⟩
  simp only[Jw,En,un,aC]
  rw[ar,ah (by omega),cL (by omega)]
 | cons k aA iX=>
  intro pre e
  have bM:pre.length<ks.length:=by rw[e];simp
  have cf:idx (ks.map enc) (pre.length:Int)=some k.enc:=by rw[e];exact fq _ _ _
  obtain ⟨t,ht⟩:=iX (pre++[k]) (by simp[e])
  refine ⟨t,(br ?_).trans ht⟩
  simp only[Jw,En,un,aC]
  rw[ar,ag (by omega),cf]
  simp only[Option.bind_some,aH,aN,aK]
  refine bs (ih k (by rw[e];simp)) ?_
  refine bT (by simp only[dN,iW,aC,List.length_singleton];omega) ?_
  rw[wrap64 (by omega) (by omega)]
  show some (Sum.inl _)=some (Sum.inl _)
  refine congrArg (fun x=>some (Sum.inl x)) (Prod.ext ?_ ?_)
  ·simp
  ·simp only[iP,dZ,mU]
   rw[fS (dv k)];rfl
theorem Ro {op z:Int} {r:List Ex} {lz:List V} {e:Ex} (he:gr e=[.int .i64 z,.int .i64 0,.list ab lz]):
  (bif (((r.map enc).length:Int):Int)==0 then some [V.int .i64 z,V.int .i64 0,V.list ab lz] else bif (((r.map enc).length:Int):Int)==1 then ((r.map enc)[0]?).bind fun x=>some [V.int .i64 ((x.cell 0).toInt),V.int .i64 ((x.cell 1).toInt),V.list ab ((x.cell 2).toList)] else some [V.int .i64 op,V.int .i64 0,V.list ab (r.map enc)])=some (gr (gu op r e)):=by
 simp only[cq,aC]
 match r with
 | []=>rw[ag (by simp),←he];rfl
 | [k]=>rw[ah (by simp),ag (by simp)];simp[gu,gr,aH,aN,aK]
 | k::k2::r=>
  rw[ah (by simp only[List.length_cons];omega),ah (by simp only[List.length_cons];omega)]
  rfl
theorem Rp {n:Int} (hn:n≤6): ∀e:Ex,e.wf n=true→e.size≤1000000→CC tQ (ct e [])=some (gr (dv e)):=
 ind fun o l ks ih hw hs=>by
  obtain ⟨h1,h2⟩:=nE hw
  have hl:=kH ks
  simp only[size] at hs
  have h3:=lS h1
  refine alc ?_
  unfold ZP
  obtain ⟨t,ht⟩:=alg (a:=o) (b:=l) (c:=0) (d:=0) (l1:=ks.map enc) (l2:=[]) (ks:=ks) (by omega) (fun k hk=>ih k hk (h2 k hk) (by have:=ri hk;omega)) ks [] rfl
  refine bs ht ?_
  have hg: ∀k∈ks.map dv,Gd n k:=fun x hx=>by
   obtain ⟨k,hk,rfl⟩:=fG.1 hx
   exact Pz k (h2 k hk)
  have hz:aF (ks.map dv)≤aF ks:=by
   clear ht h3 h1 hw ih hl hs hg
   induction ks with
   | nil=>simp[aF]
   | cons k ks ih=>have a:=PA k (h2 k (by simp));have b:=ih fun k hk=>h2 k (by simp[hk]);simp only[dZ,aF];omega
  have ax: ∀k∈ks.map dv,k.Ok:=fun k hk=>PB hn k (hg k hk).2 (by have:=ri hk;omega)
  have hlen:(ks.map dv).length=ks.length:=by simp
  rw[wj]
  simp only[un,Ex.op,Ex.letter,Ex.kids]
  generalize ks.map dv=ns at*
  have ot:=kH ns
  rcases h3 with ⟨rfl,h4,_⟩|⟨rfl,⟨rfl,h4⟩|⟨rfl,h4⟩|⟨rfl,h4⟩|⟨rfl,h4⟩|⟨rfl,h4⟩|⟨rfl,h4⟩|⟨rfl,h4⟩⟩
  ·obtain rfl:ns=[]:=uJ.1 (by omega)
   rw[nF (by omega)]
   exact bF rfl (bF rfl (bF rfl (bF rfl (bF rfl rfl))))
  ·obtain rfl:ns=[]:=uJ.1 (by omega)
   rw[nF (by omega)]
   exact bF rfl (bF rfl (bF rfl (bF rfl (bF rfl rfl))))
  ·obtain rfl:ns=[]:=uJ.1 (by omega)
   rw[nF (by omega)]
   exact bF rfl (bF rfl (bF rfl (bF rfl (bF rfl rfl))))
  ·refine bF rfl (bF rfl (bF rfl (bT rfl ?_)))
   have a1:=rj 4 ns
   have a2:=kH (bG 4 ns)
   refine bs (Rl (by omega) (by omega)) ?_
   refine bs (ale (by omega) (Jq ax) (bG 4 ns) [] [] rfl (bN _) (by simp)) ?_
   rw[C6]
   cases (bG 4 ns).any univ with
   | true=>simp only[cy];rfl
   | false=>
    simp only[xf,fg]
    exact Ro rfl
  ·refine bF rfl (bF rfl (bT rfl ?_))
   have a1:=rj 5 ns
   have a2:=kH (bG 5 ns)
   refine bs (Rl (by omega) (by omega)) ?_
   refine bs (ald (by omega) (bG 5 ns) [] [] rfl (bN _)) ?_
   rw[wi]
   cases (bG 5 ns).any (fun k=>decide (k.op=1)) with
   | true=>simp only[cy];rfl
   | false=>
    simp only[xf,fg,List.nil_append]
    exact Ro rfl
  ·refine bF rfl (bF rfl (bF rfl (bF rfl (bT rfl ?_))))
   have a1:=rj 6 ns
   have a2:=kH (bG 6 ns)
   refine bs (Rl (by omega) (by omega)) ?_
   refine bs (alf (by omega) (Jq ax) (bG 6 ns) [] [] rfl (bN _) (by simp)) ?_
   rw[C7]
   cases (bG 6 ns).any (fun k=>decide (k.op=1)) with
   | true=>simp only[cy];rfl
   | false=>
    simp only[xf,fg]
    refine Ro ?_
    simp[gr,mK,fk,Ex.op,Ex.letter,Ex.kids,fS]
  ·match ns,(show ns.length=1 by omega) with
   | [k],_=>
    refine bF rfl (bT rfl (bT rfl (bs (a:=k.enc) rfl ?_)))
    rw[C8,aH,aN,aK,cq,cq,cq]
    by_cases h1:k.op=1
    ·rw[ag h1,ag (.inl h1)];rfl
    ·rw[ah h1]
     by_cases h2:k.op=2
     ·rw[ag h2,ag (.inr h2)];rfl
     ·rw[ah h2,ah (show¬(k.op=1∨k.op=2) by omega)]
      by_cases h7:k.op=7
      ·rw[ag h7,ag (.inl h7)];rfl
      ·rw[ah h7]
       refine bs (Rk k) ?_
       cases hu:univ k with
       | true=>rw[ag (.inr rfl)];exact bT rfl rfl
       | false=>
        rw[ah (by rintro (h|h);exact h7 h;cases h)]
        exact bF rfl rfl
  ·match ns,(show ns.length=1 by omega) with
   | [k],_=>
    refine bT rfl (bT rfl (bs (a:=k.enc) rfl ?_))
    rw[C9,aH,cq]
    by_cases h8:k.op=8
    ·rw[ag h8,ag h8]
     have hs:=lS (hg k (by simp)).shape
     obtain ⟨o2,l2,nG⟩:=k
     simp only[Ex.op,Ex.kids,Ex.letter] at*
     match nG,(show (nG.length:Int)=1 by omega) with
     | [x],_=>
      refine bT (by simp) (bs (a:=_) rfl (bs (a:=x.enc) (by rw[aK];rfl) ?_))
      rw[aH,aN,aK];rfl
    ·rw[ah h8,ah h8];rfl
end Go.AM
set_option maxRecDepth 100000
namespace Go.AM
open Go.Proofs
noncomputable def Rq (C:af) (lists:List V):Option (List V):=
 (C yG [.list ab lists]).bind fun r1=>
 (C Co [.list ab ((V.nth r1 0).toList)]).bind fun r2=>
 bif (V.nth r2 0).toBool then
  (C Il [.list ab ((V.nth (r2.drop 1) 0).toList)]).bind fun r3=>
  bif (V.nth r3 0).toBool then
  some [V.bool true,.list ab ((V.nth (r3.drop 1) 0).toList)]
  else
  some [V.bool false,.list ab ((V.nth (r3.drop 1) 0).toList)]
 else
  (C Il [.list ab ((V.nth (r2.drop 1) 0).toList)]).bind fun r4=>
  bif (V.nth r4 0).toBool then
  some [V.bool false,.list ab ((V.nth (r4.drop 1) 0).toList)]
  else
  some [V.bool false,.list ab ((V.nth (r4.drop 1) 0).toList)]
theorem alh {lists:List V} {r:Option (List V)} (h:Rq CC lists=r):CC HT [.list ab lists]=r:=
 bn (key:=25) (L:=cS) (bs:=[]) (by kernel_rfl) aw (bm (by kernel_rfl) h)
noncomputable def ZQ (C:af) (eH eI:Int) (e9:List V) (eJ eK:Int) (fa:List V):Option (List V):=
 (C bu [.int .i64 eH,.int .i64 eI,.list ab e9,.int .i64 eJ,.int .i64 eK,.list ab fa]).bind fun r1=>
 some [.bool ((((V.nth r1 0).toInt):Int)==0)]
theorem ali {eH eI:Int} {e9:List V} {eJ eK:Int} {fa:List V} {r:Option (List V)} (h:ZQ CC eH eI e9 eJ eK fa=r):CC qU [.int .i64 eH,.int .i64 eI,.list ab e9,.int .i64 eJ,.int .i64 eK,.list ab fa]=r:=
 bn (key:=61) (L:=cS) (bs:=[]) (by kernel_rfl) aw (bm (by kernel_rfl) h)
noncomputable def ZR (C:af) (ak ay:Int) (aj:List V):Option (List V):=
 some [.bool ((ak:Int)==1)]
theorem alj {ak ay:Int} {aj:List V} {r:Option (List V)} (h:ZR CC ak ay aj=r):CC pT [.int .i64 ak,.int .i64 ay,.list ab aj]=r:=
 bn (key:=63) (L:=cS) (bs:=[]) (by kernel_rfl) aw (bm (by kernel_rfl) h)
noncomputable abbrev JE:Code:=bU Tryz.prog (az.aT 60)
noncomputable def zZ (C:af) (qe ma:Nat) (k' eW:Int) (ss:List V) {β:Type} (kn:(Int × Int × (List V))→Option β) (kr:(Int × Int × Bool × (List V))→Option β):Option β:=
 bif decide ((eW:Int)<(ma:Int)) then
  bif (decide (0≤eW))&&(decide (eW<(ma:Int))) then
  (ss[qe+((eW:Int).toNat)]?).bind fun x4=>
  bif (decide (0≤(IntKind.wrap .i64 (eW-1))))&&(decide ((IntKind.wrap .i64 (eW-1))<(ma:Int))) then
   (ss[qe+((IntKind.wrap .i64 (eW-1):Int).toNat)]?).bind fun x5=>
   (C qU [.int .i64 ((x4.cell 0).toInt),.int .i64 ((x4.cell 1).toInt),.list ab ((x4.cell 2).toList),.int .i64 ((x5.cell 0).toInt),.int .i64 ((x5.cell 1).toInt),.list ab ((x5.cell 2).toList)]).bind fun r6=>
   bif !((V.nth r6 0).toBool) then
   bif (decide (0≤eW))&&(decide (eW<(ma:Int))) then
    (ss[qe+((eW:Int).toNat)]?).bind fun x7=>
    bif (decide (0≤k'))&&(decide (k'<(ss.length:Int))) then
    (ss[(k':Int).toNat]?).bind fun x8=>
    kn (IntKind.wrap .i64 (k'+1),IntKind.wrap .i64 (eW+1),ss.set ((k':Int).toNat) (.agg [.int .i64 ((x7.cell 0).toInt),.int .i64 ((x7.cell 1).toInt),.list ab ((x7.cell 2).toList)]))
    else none
   else none
   else
   kn (k',IntKind.wrap .i64 (eW+1),ss)
  else none
  else none
 else
  kr (k',eW,decide ((eW:Int)<(ma:Int)),ss)
noncomputable def wZ (C:af) (qe ma:Nat):(Int × Int × (List V))→Option ((Int × Int × (List V)) ⊕ (Int × Int × Bool × (List V))):=un fun k'=>un fun eW ss=>zZ C qe ma k' eW ss (fun y=>some (.inl y)) (fun r=>some (.inr r))
noncomputable def z5 (C:af) (ss:List V) (k':Int) {β:Type} (kn:Int→Option β) (kr:((List V) ⊕ (Int × Bool))→Option β):Option β:=
 bif decide ((k':Int)<(ss.length:Int)) then
  bif (decide (0≤k'))&&(decide (k'<(ss.length:Int))) then
  (ss[(k':Int).toNat]?).bind fun x1=>
  bif (decide (0≤(IntKind.wrap .i64 (k'-1))))&&(decide ((IntKind.wrap .i64 (k'-1))<(ss.length:Int))) then
   (ss[(IntKind.wrap .i64 (k'-1):Int).toNat]?).bind fun x2=>
   (C qU [.int .i64 ((x1.cell 0).toInt),.int .i64 ((x1.cell 1).toInt),.list ab ((x1.cell 2).toList),.int .i64 ((x2.cell 0).toInt),.int .i64 ((x2.cell 1).toInt),.list ab ((x2.cell 2).toList)]).bind fun r3=>
   bif (V.nth r3 0).toBool then
   bif (decide (0≤k'))&&(decide (k'≤(ss.length:Int))) then
    (Loop (wZ C ((k':Int).toNat) (ss.length-((k':Int).toNat))) (k',1,ss)).bind (un fun (gg:Int)=>un fun (aj9:Int)=>un fun (CQ:Bool) (jR:List V)=>
     bif (decide (0≤gg))&&(decide (gg≤(jR.length:Int))) then
     bif (decide (0≤gg))&&(decide (gg≤((jR.take ((gg:Int).toNat)++(List.replicate (jR.length-((gg:Int).toNat)) (V.agg [.int .i64 0,.int .i64 0,.list ab ([]:List V)])++jR.drop (((gg:Int).toNat)+(jR.length-((gg:Int).toNat))))).length:Int))) then
      kr (.inl ((jR.take ((gg:Int).toNat)++(List.replicate (jR.length-((gg:Int).toNat)) (V.agg [.int .i64 0,.int .i64 0,.list ab ([]:List V)])++jR.drop (((gg:Int).toNat)+(jR.length-((gg:Int).toNat))))).take ((gg:Int).toNat)))
     else none
     else none)
   else none
   else
   kn (IntKind.wrap .i64 (k'+1))
  else none
  else none
 else
  kr (.inr (k',decide ((k':Int)<(ss.length:Int))))
noncomputable def w4 (C:af) (ss:List V):(Int)→Option ((Int) ⊕ ((List V) ⊕ (Int × Bool))):=fun k'=>z5 C ss k' (fun y=>some (.inl y)) (fun r=>some (.inr r))
noncomputable def ZS (C:af):cj:=fun β n ds k=>
 bif Nat.beq n 145 then bt NF [true,false,false,true,true] [[0,2,3,0,0,0]] (@zZ C) ds k else
 bif Nat.beq n 65 then bt NG [true,false] [[0],[0,0,2]] (@z5 C) ds k else
 none
abbrev ZT (C:af) (b:cg):Prop:=ch Tryz.prog az C (ZS C) 60 (cv Tryz.prog (az.aT 60)) (az.sin 60).bf.length b
theorem alk (C:af):ZT C (.loop (aq [1,1,0,1,0,0,1,0,0,1,0,1,0,1,0,0] JE)):=
 bw NF [true,false,false,true,true] [[0,2,3,0,0,0]] (@zZ C) (by kernel_rfl) (aM (bs:=[]) (by kernel_rfl) aw) (fun ds=>by kernel_rfl) (fun i x=>by kernel_rfl) (fun i x β k=>by kernel_rfl) (fun β ds k=>by kernel_rfl)
theorem alm (C:af):ZT C (.loop (aq [1,1,0,1,0,0] JE)):=
 bw NG [true,false] [[0],[0,0,2]] (@z5 C) (by kernel_rfl) (aM (bs:=[.loop (aq [1,1,0,1,0,0,1,0,0,1,0,1,0,1,0,0] JE)]) (by kernel_rfl) (aZ (alk C) aw)) (fun ds=>by kernel_rfl) (fun i x=>by kernel_rfl) (fun i x β k=>by kernel_rfl) (fun β ds k=>by kernel_rfl)
noncomputable def JF (C:af) (ss:List V):Option (List V):=
 bif decide (((ss.length:Int):Int)<2) then
  some [V.bool true,.list ab ss]
 else
  (Loop (w4 C ss) 1).bind (bD (fun (Q6:List V)=>
   some [V.bool false,.list ab Q6]) (un fun (akc:Int) (v7:Bool)=>
   some [V.bool true,.list ab ss]))
theorem Rr {ss:List V} {r:Option (List V)} (h:JF CC ss=r):CC Co [.list ab ss]=r:=
 bn (key:=60) (L:=ZS CC) (bs:=[.loop (aq [1,1,0,1,0,0] JE)]) (by kernel_rfl) (aZ (alm CC) aw) (bm (by kernel_rfl) h)
noncomputable abbrev ZU:Code:=bU Tryz.prog (az.aT 207)
noncomputable def z6 (C:af) (s:List V) (t7 t8:Int) {β:Type} (kn:Int→Option β) (kr:((Int) ⊕ (Int × Bool))→Option β):Option β:=
 bif decide ((t8:Int)<t7) then
  (idx s t8).bind fun x1=>
  (C pT [.int .i64 ((x1.cell 0).toInt),.int .i64 ((x1.cell 1).toInt),.list ab ((x1.cell 2).toList)]).bind fun r2=>
  bif (V.nth r2 0).toBool then
  kr (.inl t8)
  else
  kn (IntKind.wrap .i64 (t8+1))
 else
  kr (.inr (t8,decide ((t8:Int)<t7)))
noncomputable def w5 (C:af) (s:List V) (t7:Int):(Int)→Option ((Int) ⊕ ((Int) ⊕ (Int × Bool))):=fun t8=>z6 C s t7 t8 (fun y=>some (.inl y)) (fun r=>some (.inr r))
noncomputable def ZV (C:af):cj:=fun β n ds k=>
 bif Nat.beq n 33 then bt O3 [false,false,true] [[0],[1,2,0,0]] (@z6 C) ds k else
 none
abbrev aln (C:af) (b:cg):Prop:=ch Tryz.prog az C (ZV C) 207 (cv Tryz.prog (az.aT 207)) (az.sin 207).bf.length b
theorem alo (C:af):aln C (.loop (aq [1,0,1,0,0] ZU)):=
 bw O3 [false,false,true] [[0],[1,2,0,0]] (@z6 C) (by kernel_rfl) (aM (bs:=[]) (by kernel_rfl) aw) (fun ds=>by kernel_rfl) (fun i x=>by kernel_rfl) (fun i x β k=>by kernel_rfl) (fun β ds k=>by kernel_rfl)
noncomputable def Rs (C:af) (s:List V):Option (List V):=
 (Loop (w5 C s (s.length:Int)) 0).bind (bD (fun (fN:Int)=>
  some [.int .i64 fN]) (un fun (jJ:Int) (kF:Bool)=>
  some [.int .i64 (-1)]))
theorem ZW {s:List V} {r:Option (List V)} (h:Rs CC s=r):CC Im [.list ab s]=r:=
 bn (key:=207) (L:=ZV CC) (bs:=[.loop (aq [1,0,1,0,0] ZU)]) (by kernel_rfl) (aZ (alo CC) aw) (bm (by kernel_rfl) h)
noncomputable abbrev ZX:Code:=bU Tryz.prog (az.aT 206)
noncomputable def z7 (C:af) (i j:Int) (ss:List V) {β:Type} (kn:(Int × Int × (List V))→Option β) (kr:(Int × Int × Bool × (List V))→Option β):Option β:=
 bif decide ((j:Int)<(ss.length:Int)) then
  bif (decide (0≤j))&&(decide (j<(ss.length:Int))) then
  (ss[(j:Int).toNat]?).bind fun x2=>
  (C pT [.int .i64 ((x2.cell 0).toInt),.int .i64 ((x2.cell 1).toInt),.list ab ((x2.cell 2).toList)]).bind fun r3=>
  bif !((V.nth r3 0).toBool) then
   bif (decide (0≤i))&&(decide (i<(ss.length:Int))) then
   (ss[(i:Int).toNat]?).bind fun x4=>
   kn (IntKind.wrap .i64 (i+1),IntKind.wrap .i64 (j+1),ss.set ((i:Int).toNat) (.agg [.int .i64 ((x2.cell 0).toInt),.int .i64 ((x2.cell 1).toInt),.list ab ((x2.cell 2).toList)]))
   else none
  else
   kn (i,IntKind.wrap .i64 (j+1),ss)
  else none
 else
  kr (i,j,decide ((j:Int)<(ss.length:Int)),ss)
noncomputable def w6 (C:af):(Int × Int × (List V))→Option ((Int × Int × (List V)) ⊕ (Int × Int × Bool × (List V))):=un fun i=>un fun j ss=>z7 C i j ss (fun y=>some (.inl y)) (fun r=>some (.inr r))
noncomputable def ZY (C:af):cj:=fun β n ds k=>
 bif Nat.beq n 81 then bt O2 [true,true,true] [[0,0,0,0]] (@z7 C) ds k else
 none
abbrev alp (C:af) (b:cg):Prop:=ch Tryz.prog az C (ZY C) 206 (cv Tryz.prog (az.aT 206)) (az.sin 206).bf.length b
theorem alq (C:af):alp C (.loop (aq [1,1,1,0,1,0,0] ZX)):=
 bw O2 [true,true,true] [[0,0,0,0]] (@z7 C) (by kernel_rfl) (aM (bs:=[]) (by kernel_rfl) aw) (fun ds=>by kernel_rfl) (fun i x=>by kernel_rfl) (fun i x β k=>by kernel_rfl) (fun β ds k=>by kernel_rfl)
noncomputable def Rt (C:af) (ss:List V):Option (List V):=
 (C Im [.list ab ss]).bind fun r1=>
 bif (((V.nth r1 0).toInt):Int)==(-1) then
  some [V.bool true,.list ab ss]
 else
  (Loop (w6 C) ((V.nth r1 0).toInt,IntKind.wrap .i64 (((V.nth r1 0).toInt)+1),ss)).bind (un fun (cB:Int)=>un fun (Db:Int)=>un fun (sC:Bool) (dR:List V)=>
   bif (decide (0≤cB))&&(decide (cB≤(dR.length:Int))) then
   bif (decide (0≤cB))&&(decide (cB≤((dR.take ((cB:Int).toNat)++(List.replicate (dR.length-((cB:Int).toNat)) (V.agg [.int .i64 0,.int .i64 0,.list ab ([]:List V)])++dR.drop (((cB:Int).toNat)+(dR.length-((cB:Int).toNat))))).length:Int))) then
    some [V.bool false,.list ab ((dR.take ((cB:Int).toNat)++(List.replicate (dR.length-((cB:Int).toNat)) (V.agg [.int .i64 0,.int .i64 0,.list ab ([]:List V)])++dR.drop (((cB:Int).toNat)+(dR.length-((cB:Int).toNat))))).take ((cB:Int).toNat))]
   else none
   else none)
theorem ZZ {ss:List V} {r:Option (List V)} (h:Rt CC ss=r):CC Il [.list ab ss]=r:=
 bn (key:=206) (L:=ZY CC) (bs:=[.loop (aq [1,1,1,0,1,0,0] ZX)]) (by kernel_rfl) (aZ (alq CC) aw) (bm (by kernel_rfl) h)
end Go.AM
set_option maxRecDepth 100000
namespace Go.AM
open Go.Proofs Ex
namespace PSo
theorem JG (k:Ex):CC pT (ct k [])=some [.bool (cY k)]:=by
 refine alj ?_
 unfold ZR cY
 rw[wg]
theorem D3 (a:Ex) (ha:a.Ok) (b:Ex) (hb:b.Ok):CC qU (ct a (ct b []))=some [.bool (decide (cmp a b=0))]:=by
 refine ali ?_
 unfold ZQ
 refine (congrArg (fun o=>Option.bind o _) (IM a ha b hb)).trans ?_
 simp only[Option.bind_some,V.aD,V.toInt_int]
 rw[wg]
section
variable {l:List Ex} (hn:l.length≤1000000) (ax: ∀k∈l,k.Ok)
include hn ax
theorem Q8 {k:Nat}: ∀(d k2 i:Nat) (ss:List Ex),k+k2+d=l.length→1≤k2→i+1≤k+k2→ss.length=l.length→ss.take i=ek (l.take (k+k2))→ss.drop (k+k2-1)=l.drop (k+k2-1)→
  ∃t u dK,Loop (wZ CC k (l.length-k)) ((i:Int),(k2:Int),ss.map enc)=some (((ek l).length:Int),u,t,List.map enc dK)∧dK.take (ek l).length=ek l∧dK.length=l.length:=by
 intro d
 induction d with
 | zero=>
  intro k2 i ss hj oO hi hl ht hd
  have e0:l.take (k+k2)=l:=uI (by omega)
  rw[e0] at ht
  have eE:i=(ek l).length:=by rw[←ht,dV];omega
  refine ⟨false,(k2:Int),ss,aG ?_,by rw[←eE];exact ht,hl⟩
  simp only[wZ,zZ,un,aC,ar]
  rw[ah (by omega),cL (by omega),eE]
 | succ d ih=>
  intro k2 i ss hj oO hi hl ht hd
  have hp:k+k2<l.length:=by omega
  have gm:ss.drop (k+k2)=l.drop (k+k2):=by
   have h:=congrArg (List.drop 1) hd
   rw[mV,mV] at h
   rwa [show k+k2-1+1=k+k2 by omega] at h
  have g1:=uf hl gm hp
  have g0:=uf hl hd (show k+k2-1<l.length by omega)
  have x1:(ss.map enc)[k+k2]? =some (l.getD (k+k2) aQ).enc:=by rw[iM (by omega),g1]
  have x0:(ss.map enc)[k+(k2-1)]? =some (l.getD (k+k2-1) aQ).enc:=by rw[show k+(k2-1)=k+k2-1 by omega,iM (by omega),g0]
  have w1:IntKind.wrap .i64 ((k2:Int)-1)=((k2-1:Nat):Int):=by rw[wrap64 (by omega) (by omega)];omega
  have t1:((k2:Nat):Int)<((l.length-k:Nat):Int):=by omega
  have t2:(0:Int)≤((k2:Nat):Int):=by omega
  have t3:(0:Int)≤((k2-1:Nat):Int):=by omega
  have t4:((k2-1:Nat):Int)<((l.length-k:Nat):Int):=by omega
  have t5:((i:Nat):Int)<(ss.length:Int):=by omega
  have t6:(0:Int)≤((i:Nat):Int):=by omega
  have cf: ∃y,(ss.map enc)[i]? =some y:=⟨_,iM (by omega)⟩
  obtain ⟨y,hy⟩:=cf
  have co:=D3 (l.getD (k+k2) aQ) (oY ax hp) (l.getD (k+k2-1) aQ) (oY ax (by omega))
  have cs:=Jn (l:=l) (p:=k+k2) (by omega) hp
  by_cases he:cmp (l.getD (k+k2) aQ) (l.getD (k+k2-1) aQ)=0
  ·have bB:wZ CC k (l.length-k) ((i:Int),(k2:Int),ss.map enc)=some (.inl ((i:Int),((k2+1:Nat):Int),ss.map enc)):=by
    simp only[wZ,zZ,un,aC,ar,bK,w1,t1,t2,t3,t4,cy,Int.toNat_natCast,x1,x0,Option.bind_some,aH,aN,aK]
    refine (congrArg (fun o=>Option.bind o _) co).trans ?_
    simp only[Option.bind_some,V.aD,V.cI]
    rw[dC he,oj,cond_false,wrap64 (by omega) (by omega)]
    rfl
   rw[br bB]
   refine ih (k2+1) i ss (by omega) (by omega) (by omega) hl ?_ (by rw[show k+(k2+1)-1=k+k2 by omega];exact gm)
   rw[show k+(k2+1)=k+k2+1 by omega,cs,ag he,dc,ht]
  ·have bB:wZ CC k (l.length-k) ((i:Int),(k2:Int),ss.map enc)=some (.inl (((i+1:Nat):Int),((k2+1:Nat):Int),(ss.set i (l.getD (k+k2) aQ)).map enc)):=by
    simp only[wZ,zZ,un,aC,ar,bK,w1,t1,t2,t3,t4,t5,t6,cy,Int.toNat_natCast,x1,x0,hy,Option.bind_some,aH,aN,aK]
    refine (congrArg (fun o=>Option.bind o _) co).trans ?_
    simp only[Option.bind_some,V.aD,V.cI]
    rw[cL he,qq,cond_true,wrap64 (by omega) (by omega),wrap64 (by omega) (by omega),←fS,uK]
    rfl
   rw[br bB]
   refine ih (k2+1) (i+1) (ss.set i (l.getD (k+k2) aQ)) (by omega) (by omega) (by omega) (by simpa using hl) ?_ ?_
   ·rw[iY (by rw[kR];omega),xi (bN i),ht,show k+(k2+1)=k+k2+1 by omega,cs,ah he]
    simp[show i<ss.length by omega]
   ·rw[show k+(k2+1)-1=k+k2 by omega,xj (by omega),gm]
theorem Q9: ∀(d p:Nat),p+d=l.length→1≤p→ek (l.take p)=l.take p→
  (ek l=l∧∃t,Loop (w4 CC (l.map enc)) (p:Int)=some (.inr t))∨Loop (w4 CC (l.map enc)) (p:Int)=some (.inl ((ek l).map enc)):=by
 intro d
 induction d with
 | zero=>
  intro p hp h1 hc
  obtain rfl:p=l.length:=by omega
  rw[ql] at hc
  refine .inl ⟨hc,((l.length:Int),false),aG ?_⟩
  simp only[w4,z5,aC,ar]
  rw[ah (by omega),cL (by omega)]
 | succ d ih=>
  intro p hp h1 hc
  have bM:p<l.length:=by omega
  have cs:=Jn (l:=l) h1 bM
  have co:=D3 (l.getD p aQ) (oY ax bM) (l.getD (p-1) aQ) (oY ax (by omega))
  have x1:(l.map enc)[p]? =some (l.getD p aQ).enc:=iM bM
  have x0:(l.map enc)[p-1]? =some (l.getD (p-1) aQ).enc:=iM (by omega)
  have w1:IntKind.wrap .i64 ((p:Int)-1)=((p-1:Nat):Int):=by rw[wrap64 (by omega) (by omega)];omega
  have t1:((p:Nat):Int)<(l.length:Int):=by omega
  have t2:(0:Int)≤((p:Nat):Int):=by omega
  have t3:(0:Int)≤((p-1:Nat):Int):=by omega
  have t4:((p-1:Nat):Int)<(l.length:Int):=by omega
  have t5:((p:Nat):Int)≤(l.length:Int):=by omega
  by_cases he:cmp (l.getD p aQ) (l.getD (p-1) aQ)=0
  ·refine .inr (aG ?_)
   obtain ⟨t,u,dK,e1,e2,e3⟩:=Q8 hn ax (k:=p) (l.length-(p+1)) 1 p l (by omega) (by omega) (by omega) rfl (by rw[cs,ag he,dc,hc]) rfl
   have hm:(ek l).length≤dK.length:=by
    have:=congrArg List.length e2
    rw[dV] at this
    omega
   have m1:(0:Int)≤(((ek l).length:Nat):Int):=by omega
   have m2:(((ek l).length:Nat):Int)≤((dK.map enc).length:Int):=by rw[aC];omega
   simp only[w4,z5,aC,ar,bK,w1,t1,t2,t3,t4,t5,cy,Int.toNat_natCast,x1,x0,Option.bind_some,aH,aN,aK]
   refine (congrArg (fun o=>Option.bind o _) co).trans ?_
   simp only[Option.bind_some,V.aD,V.cI]
   rw[dC he,cond_true]
   refine (congrArg (fun o=>Option.bind o _) e1).trans ?_
   simp only[Option.bind_some,un,bK,ar,Int.toNat_natCast]
   rw[ag m1,ag m2,ag m1,ag (by simp only[bO,dV,ta,jT,aC];omega),zx _ _ _ hm,e2]
  ·have bB:w4 CC (l.map enc) (p:Int)=some (.inl ((p+1:Nat):Int)):=by
    simp only[w4,z5,aC,ar,bK,w1,t1,t2,t3,t4,cy,Int.toNat_natCast,x1,x0,Option.bind_some,aH,aN,aK]
    refine (congrArg (fun o=>Option.bind o _) co).trans ?_
    simp only[Option.bind_some,V.aD,V.cI]
    rw[cL he,cond_false,wrap64 (by omega) (by omega)]
    rfl
   rw[br bB]
   exact ih (p+1) (by omega) (by omega) (by rw[cs,ah he,hc,←iY bM])
theorem Ra: ∃b,CC Co [.list ab (l.map enc)]=some [.bool b,.list ab ((ek l).map enc)]:=by
 by_cases h2:l.length<2
 ·refine ⟨true,Rr ?_⟩
  unfold JF
  rw[aC,ar,ag (by omega)]
  match l,h2 with
  | [],_=>rfl
  | [k],_=>rfl
 ·rcases Q9 hn ax (l.length-1) 1 (by omega) (by omega) (by
   match l,h2 with
   | k::l,_=>rfl) with ⟨h3,t,h4⟩|h4
  ·refine ⟨true,Rr ?_⟩
   unfold JF
   rw[aC,ar,ah (by omega)]
   refine (congrArg (fun o=>Option.bind o _) h4).trans ?_
   rw[h3];rfl
  ·refine ⟨false,Rr ?_⟩
   unfold JF
   rw[aC,ar,ah (by omega)]
   refine (congrArg (fun o=>Option.bind o _) h4).trans ?_
   rfl
end
theorem PQ {ks:List Ex} (hlen:ks.length≤1000000): ∀(aA pre:List Ex),ks=pre++aA→(∀k∈pre,cY k=false)→
  (ks.any cY=false∧∃t,Loop (w5 CC (ks.map enc) ((ks.map enc).length:Int)) ((pre.length:Nat):Int)=some (.inr t))∨
  (∃i:Nat,i<ks.length∧cY (ks.getD i aQ)=true∧(∀k∈ks.take i,cY k=false)∧Loop (w5 CC (ks.map enc) ((ks.map enc).length:Int)) ((pre.length:Nat):Int)=some (.inl (i:Int))):=by
 intro aA
 induction aA with
 | nil=>
  intro pre bd hp
  rw[dc] at bd
  subst bd
  refine .inl ⟨ua hp,⟨(((ks.length:Nat):Int),false),aG ?_⟩⟩
  ·simp only[w5,z6,aC,ar]
   rw[ah (by omega),cL (by omega)]
 | cons k aA ih=>
  intro pre bd hp
  have bM:pre.length<ks.length:=by rw[bd];simp
  have cf:idx (ks.map enc) (pre.length:Int)=some k.enc:=by rw[bd];exact fq _ _ _
  cases hk:cY k with
  | true=>
   refine .inr ⟨pre.length,bM,by rw[bd];simpa using hk,by rw[bd];simpa using hp,aG ?_⟩
   simp only[w5,z6,aC,ar]
   rw[ag (by omega),cf]
   simp only[Option.bind_some,aH,aN,aK]
   refine (congrArg (fun o=>Option.bind o _) (JG k)).trans ?_
   simp only[Option.bind_some,V.aD,V.cI]
   rw[hk,cond_true]
  | false=>
   have bB:w5 CC (ks.map enc) ((ks.map enc).length:Int) ((pre.length:Nat):Int)=some (.inl (((pre++[k]).length:Nat):Int)):=by
    simp only[w5,z6,aC,ar]
    rw[ag (by omega),cf]
    simp only[Option.bind_some,aH,aN,aK]
    refine (congrArg (fun o=>Option.bind o _) (JG k)).trans ?_
    simp only[Option.bind_some,V.aD,V.cI]
    rw[hk,cond_false,wrap64 (by omega) (by omega)]
    simp
   rw[br bB]
   refine ih (pre++[k]) (by rw[bd];simp) fun x hx=> ?_
   rcases cZ.1 hx with hx|hx
   ·exact hp x hx
   ·rw[cV.1 hx];exact hk
theorem Ja {ks:List Ex} (hlen:ks.length≤1000000):
  (ks.any cY=false∧CC Im [.list ab (ks.map enc)]=some [.int .i64 (-1)])∨
  (∃i:Nat,i<ks.length∧cY (ks.getD i aQ)=true∧(∀k∈ks.take i,cY k=false)∧CC Im [.list ab (ks.map enc)]=some [.int .i64 (i:Int)]):=by
 rcases PQ hlen ks [] rfl (by simp) with ⟨h1,t,h2⟩|⟨i,h1,h2,h3,h4⟩
 ·refine .inl ⟨h1,ZW ?_⟩
  unfold Rs
  refine (congrArg (fun o=>Option.bind o _) h2).trans ?_
  rfl
 ·refine .inr ⟨i,h1,h2,h3,ZW ?_⟩
  unfold Rs
  refine (congrArg (fun o=>Option.bind o _) h4).trans ?_
  rfl
theorem PR {ks:List Ex} (hn:ks.length≤1000000): ∀(d j i:Nat) (ss:List Ex),j+d=ks.length→i≤j→ss.length=ks.length→ss.take i=(ks.take j).filter (fun k=> !(cY k))→ss.drop j=ks.drop j→
  ∃t dK,Loop (w6 CC) ((i:Int),(j:Int),ss.map enc)=some (((ks.filter (fun k=> !(cY k))).length:Int),(ks.length:Int),t,List.map enc dK)∧dK.take (ks.filter (fun k=> !(cY k))).length=ks.filter (fun k=> !(cY k))∧dK.length=ks.length:=by
 intro d
 induction d with
 | zero=>
  intro j i ss hj hi hl ht hd
  obtain rfl:j=ks.length:=by omega
  rw[ql] at ht
  have eE:i=(ks.filter (fun k=> !(cY k))).length:=by rw[←ht,dV];omega
  refine ⟨false,ss,aG ?_,by rw[←eE];exact ht,hl⟩
  simp only[w6,z7,un,aC,ar]
  rw[ah (by omega),cL (by omega),eE]
 | succ d ih=>
  intro j i ss hj hi hl ht hd
  have cp:j<ks.length:=by omega
  have hg:=uf hl hd cp
  have gm:ss.drop (j+1)=ks.drop (j+1):=by rw[←mV,←mV,hd]
  have hx:(ss.map enc)[j]? =some (ks.getD j aQ).enc:=by rw[iM (by omega),hg]
  have t1:((j:Nat):Int)<(ss.length:Int):=by omega
  have t2:(0:Int)≤((j:Nat):Int):=by omega
  have t3:((i:Nat):Int)<(ss.length:Int):=by omega
  have t4:(0:Int)≤((i:Nat):Int):=by omega
  have cf: ∃y,(ss.map enc)[i]? =some y:=⟨_,iM (by omega)⟩
  obtain ⟨y,hy⟩:=cf
  cases hk:cY (ks.getD j aQ) with
  | true=>
   have bB:w6 CC ((i:Int),(j:Int),ss.map enc)=some (.inl ((i:Int),((j+1:Nat):Int),ss.map enc)):=by
    simp only[w6,z7,un,aC,ar,bK,t1,t2,cy,Int.toNat_natCast,hx,Option.bind_some,aH,aN,aK]
    refine (congrArg (fun o=>Option.bind o _) (JG (ks.getD j aQ))).trans ?_
    simp only[Option.bind_some,V.aD,V.cI]
    rw[hk,oj,cond_false,wrap64 (by omega) (by omega)]
    rfl
   rw[br bB]
   refine ih (j+1) i ss (by omega) (by omega) hl ?_ gm
   rw[iY cp,mX,ht,mW,hk]
   simp
  | false=>
   have bB:w6 CC ((i:Int),(j:Int),ss.map enc)=some (.inl (((i+1:Nat):Int),((j+1:Nat):Int),(ss.set i (ks.getD j aQ)).map enc)):=by
    simp only[w6,z7,un,aC,ar,bK,t1,t2,t3,t4,cy,Int.toNat_natCast,hx,hy,Option.bind_some,aH,aN,aK]
    refine (congrArg (fun o=>Option.bind o _) (JG (ks.getD j aQ))).trans ?_
    simp only[Option.bind_some,V.aD,V.cI]
    rw[hk,qq,cond_true,wrap64 (by omega) (by omega),wrap64 (by omega) (by omega),←fS,uK]
    rfl
   rw[br bB]
   refine ih (j+1) (i+1) (ss.set i (ks.getD j aQ)) (by omega) (by omega) (by simpa using hl) ?_ ?_
   ·rw[iY (by rw[kR];omega),xi (bN i),ht,iY cp,mX,mW,hk]
    simp[show i<ss.length by omega]
   ·rw[xj (by omega),gm]
theorem PS {ks:List Ex} (hn:ks.length≤1000000): ∃b,CC Il [.list ab (ks.map enc)]=some [.bool b,.list ab ((ks.filter (fun k=> !(cY k))).map enc)]:=by
 rcases Ja hn with ⟨h1,h2⟩|⟨i,h1,h2,h3,h4⟩
 ·refine ⟨true,ZZ ?_⟩
  unfold Rt
  refine (congrArg (fun o=>Option.bind o _) h2).trans ?_
  rw[oo.2 fun k hk=>show (!(cY k))=true by rw[any_false (p:=cY) (by rw[h1];simp) k hk];rfl]
  rfl
 ·have hf:(ks.take (i+1)).filter (fun k=> !(cY k))=ks.take i:=by
   rw[iY h1,mX,mW,h2,oo.2 fun k hk=>show (!(cY k))=true by rw[h3 k hk];rfl]
   simp
  obtain ⟨t,dK,e1,e2,e3⟩:=PR hn (ks.length-(i+1)) (i+1) i ks (by omega) (by omega) rfl hf.symm rfl
  refine ⟨false,ZZ ?_⟩
  unfold Rt
  refine (congrArg (fun o=>Option.bind o _) h4).trans ?_
  simp only[Option.bind_some,V.aD,V.toInt_int,cq]
  rw[ah (by omega),wrap64 (by omega) (by omega)]
  refine (congrArg (fun o=>Option.bind o _) e1).trans ?_
  have hm:(ks.filter (fun k=> !(cY k))).length≤dK.length:=by rw[e3];exact uL _ _
  have t1:((((ks.filter (fun k=> !(cY k))).length:Nat):Int)≤((dK.map enc).length:Int)):=by rw[aC];omega
  simp only[Option.bind_some,un,bK,ar,Int.toNat_natCast]
  rw[ag (by omega),ag t1,ag (by omega),ag (by simp only[bO,dV,ta,jT];omega),zx _ _ _ hm,e2]
end PSo
def bJ (l:List Ex):List Ex:=(l.foldl dk []).filter fun k=> !cY k
theorem alr: ∀R:List Ex,(ek R).length≤R.length
 | []=>bN _
 | x::l=>by
  have: ∀(l:List Ex) (x:Ex),(mN x l).length≤l.length:=fun l=>by
   induction l with
   | nil=>intro x;exact bN _
   | cons y l ih=>
    intro x
    rw[mN]
    split
    ·have:=ih x;have:=ih y;simp only[List.length_cons];omega
    ·have:=ih y;simp only[List.length_cons];omega
  have:=this l x
  simp only[ek,List.length_cons];omega
theorem als {l:List Ex} (hn:l.length≤1000000) (ax: ∀k∈l,k.Ok): ∃b,CC HT [.list ab (l.map enc)]=some [.bool b,.list ab ((bJ l).map enc)]:=by
 obtain ⟨R,e1,h1,h2⟩:=Y5 hn ax
 obtain ⟨b,e2⟩:=PSo.Ra (l:=R) (by rw[h1.length_eq];exact hn) fun k hk=>ax k (h1.mem_iff.1 hk)
 obtain ⟨c1,c2⟩:=Y4 h2
 have hc:ek R=l.foldl dk []:=zj c1 zl fun x=>by rw[c2,zk,h1.mem_iff]
 have hl:(ek R).length≤1000000:=lA (alr R) (by rw[h1.length_eq];exact hn)
 obtain ⟨b2,e3⟩:=PSo.PS (ks:=ek R) hl
 rw[hc] at e2 e3
 have main: ∃c,Rq CC (l.map enc)=some [.bool c,.list ab ((bJ l).map enc)]:=by
  unfold Rq
  rw[e1]
  simp only[Option.bind_some,V.aD,V.e8]
  rw[e2]
  cases b with
  | true=>
   simp only[Option.bind_some,V.aD,V.cI,cond_true,fm,eM,V.e8]
   rw[e3]
   cases b2<;>exact ⟨_,rfl⟩
  | false=>
   simp only[Option.bind_some,V.aD,V.cI,cond_false,fm,eM,V.e8]
   rw[e3]
   cases b2<;>exact ⟨_,rfl⟩
 obtain ⟨c,hcc⟩:=main
 exact ⟨c,alh hcc⟩
theorem nU {l:List Ex} {x:Ex}:x∈bJ l↔x∈l∧x.op≠1:=by
 rw[bJ,qs,zk]
 simp[cY]
theorem z8 {l:List Ex}:kb (bJ l):=zl.filter _
theorem Ru (l:List Ex):(bJ l).length≤l.length:=lA (uL _ _) (by
 have: ∀(l acc:List Ex),(l.foldl dk acc).length≤acc.length+l.length:=fun l=>by
  induction l with
  | nil=>intro acc;simp
  | cons x l ih=>intro acc;have h1:=ih (dk acc x);have h2:=IT acc x;simp only[List.foldl_cons,List.length_cons];omega
 have:=this l []
 simpa using this)
end Go.AM
set_option maxRecDepth 100000
namespace Go.AM
open Go.Proofs Ex
def oneOf (o:Int):List Ex→Ex
 | [k]=>k
 | l=> .node o 0 l
theorem alu {n:Int}:fk.wf n=true:=C3 (by simp[iq]) (by simp)
theorem Rv {n:Int} {o:Int} (ho:o=4∨o=5) {len:Int} (h:2≤len):iq o 0 len n=true:=by
 unfold iq
 rcases ho with rfl|rfl<;>simp[h]
theorem alv {o:Int} {l:List Ex}:(oneOf o l).size≤1+aF l:=by
 match l with
 | []=>simp[oneOf,size,aF]
 | [k]=>simp[oneOf,aF]
 | k::k2::l=>simp[oneOf,size]
end Go.AM
set_option maxRecDepth 100000
namespace Go.AM
open Go.Proofs
noncomputable abbrev Z0:Code:=bU Tryz.prog (az.aT 35)
noncomputable def Es (C:af) (t9:List V) (t10 dy df:Int) (cw:List V) (all one:Bool) (t11:Int) {β:Type} (kn:(Bool × Bool × Int)→Option β) (kr:(Bool × Bool × Int × Bool)→Option β):Option β:=
 bif decide ((t11:Int)<t10) then
  (idx t9 t11).bind fun x1=>
  (C yE [.int .i64 ((x1.cell 0).toInt),.int .i64 ((x1.cell 1).toInt),.list ab ((x1.cell 2).toList)]).bind fun r2=>
  bif all then
  bif one then
   kn ((V.nth r2 0).toBool,true,IntKind.wrap .i64 (t11+1))
  else
   kn ((V.nth r2 0).toBool,(V.nth r2 0).toBool,IntKind.wrap .i64 (t11+1))
  else
  bif one then
   kn (false,true,IntKind.wrap .i64 (t11+1))
  else
   kn (false,(V.nth r2 0).toBool,IntKind.wrap .i64 (t11+1))
 else
  kr (all,one,t11,decide ((t11:Int)<t10))
noncomputable def JH (C:af) (t9:List V) (t10 dy df:Int) (cw:List V):(Bool × Bool × Int)→Option ((Bool × Bool × Int) ⊕ (Bool × Bool × Int × Bool)):=un fun all=>un fun one t11=>Es C t9 t10 dy df cw all one t11 (fun y=>some (.inl y)) (fun r=>some (.inr r))
noncomputable def Z1 (C:af):cj:=fun β n ds k=>
 bif Nat.beq n 49 then bt Np [true,true,false,false,true,false,false,false] [[0,0,3,4,0,0,6,7,8]] (@Es C) ds k else
 none
abbrev alw (C:af) (b:cg):Prop:=ch Tryz.prog az C (Z1 C) 35 (cv Tryz.prog (az.aT 35)) (az.sin 35).bf.length b
theorem alx (C:af):alw C (.loop (aq [1,1,0,1,0,0] Z0)):=
 bw Np [true,true,false,false,true,false,false,false] [[0,0,3,4,0,0,6,7,8]] (@Es C) (by kernel_rfl) (aM (bs:=[]) (by kernel_rfl) aw) (fun ds=>by kernel_rfl) (fun i x=>by kernel_rfl) (fun i x β k=>by kernel_rfl) (fun β ds k=>by kernel_rfl)
noncomputable def Z2 (C:af) (ak ay:Int) (aj:List V):Option (List V):=
 (Loop (JH C aj (aj.length:Int) ak ay aj) (true,false,0)).bind (un fun (JI:Bool)=>un fun (z9:Bool)=>un fun (kF:Int) (rf:Bool)=>
  bif (ak:Int)==2 then
   bif (ak:Int)==2 then
   some [.bool true]
   else
   bif (ak:Int)==4 then
    some [.bool z9]
   else
    bif (ak:Int)==5 then
    bif (ak:Int)==5 then
     some [.bool JI]
    else
     bif (ak:Int)==8 then
     some [.bool (!z9)]
     else
     some [.bool false]
    else
    bif (ak:Int)==6 then
     some [.bool JI]
    else
     bif (ak:Int)==8 then
     some [.bool (!z9)]
     else
     some [.bool false]
  else
   bif (ak:Int)==7 then
   some [.bool true]
   else
   bif (ak:Int)==4 then
    some [.bool z9]
   else
    bif (ak:Int)==5 then
    bif (ak:Int)==5 then
     some [.bool JI]
    else
     bif (ak:Int)==8 then
     some [.bool (!z9)]
     else
     some [.bool false]
    else
    bif (ak:Int)==6 then
     some [.bool JI]
    else
     bif (ak:Int)==8 then
     some [.bool (!z9)]
     else
     some [.bool false])
theorem aly {ak ay:Int} {aj:List V} {r:Option (List V)} (h:Z2 CC ak ay aj=r):CC yE [.int .i64 ak,.int .i64 ay,.list ab aj]=r:=
 bn (key:=35) (L:=Z1 CC) (bs:=[.loop (aq [1,1,0,1,0,0] Z0)]) (by kernel_rfl) (aZ (alx CC) aw) (bm (by kernel_rfl) h)
end Go.AM
set_option maxRecDepth 100000
namespace Go.AM
open Go.Proofs Ex
theorem Z3: ∀e:Ex,e.Ok→CC yE (ct e [])=some [.bool e.dJ]:=
 ind fun o l ks ih ax=>by
  have:=oU
  have hlen:=ax.len
  refine aly ?_
  have hl:=aip (step:=JH CC (ks.map enc) ((ks.map enc).length:Int) o l (ks.map enc)) (ks:=ks) (fun (s:Bool × Bool) i=>(s.1,s.2,(i:Int))) (fun s k=>(s.1&&k.dJ,s.2||k.dJ)) (fun s=>(s.1,s.2,((ks.length:Nat):Int),false)) (fun _ _=>True)
   (fun pre k aA s bd hI=>by
    have bM:pre.length<ks.length:=by rw[bd];simp
    have hm:k∈ks:=by rw[bd];simp
    refine ⟨?_,trivial⟩
    simp only[JH,Es,un,aC,ar]
    rw[ag (by omega),show idx (ks.map enc) (pre.length:Int)=some k.enc by rw[bd];exact fq _ _ _]
    simp only[Option.bind_some,aH,aN,aK]
    rw[ih k hm (ax.lp k hm)]
    simp only[Option.bind_some,V.aD,V.cI]
    rw[wrap64 (by omega) (by omega)]
    obtain ⟨a,b⟩:=s
    cases a<;>cases b<;>simp)
   (fun s=>by
    simp only[JH,Es,un,aC,ar]
    rw[ah (by omega)]
    simp) ks [] (true,false) rfl trivial
  have hf: ∀(ks:List Ex) (a b:Bool),ks.foldl (fun (s:Bool × Bool) k=>(s.1&&k.dJ,s.2||k.dJ)) (a,b)=(a&&o4 ks,b||pW ks):=by
   intro ks
   induction ks with
   | nil=>intro a b;simp[o4,pW]
   | cons k ks ih=>intro a b;simp[ih,o4,pW,Bool.and_assoc,Bool.or_assoc]
  rw[hf] at hl
  simp only[List.length_nil,Int.ofNat_zero,Int.natCast_zero] at hl
  unfold Z2
  simp only[Ex.op,Ex.letter,Ex.kids]
  erw [hl]
  simp only[Option.bind_some,un,dJ,lE,Bool.false_or]
  rcases IK o with rfl|rfl|rfl|rfl|rfl|rfl|rfl|rfl|ho
  case inr.inr.inr.inr.inr.inr.inr.inr=>
   have n2:o≠2:=by omega
   have n4:o≠4:=by omega
   have n5:o≠5:=by omega
   have n6:o≠6:=by omega
   have n7:o≠7:=by omega
   have n8:o≠8:=by omega
   simp[n2,n4,n5,n6,n7,n8]
  all_goals simp
end Go.AM
set_option maxRecDepth 100000
namespace Go.AM
open Go.Proofs
noncomputable abbrev Z4:Code:=bU Tryz.prog (az.aT 75)
noncomputable def Aa (C:af) (l:List V) (dy df:Int) (cw:List V) (k':Int) {β:Type} (kn:Int→Option β) (kr:(Int × Bool)→Option β):Option β:=
 bif decide ((k':Int)>0) then
  (idx l (IntKind.wrap .i64 (k'-1))).bind fun x1=>
  (C qS [.int .i64 dy,.int .i64 df,.list ab cw,.int .i64 ((x1.cell 0).toInt),.int .i64 ((x1.cell 1).toInt),.list ab ((x1.cell 2).toList)]).bind fun r2=>
  bif decide ((((V.nth r2 0).toInt):Int)<0) then
  kn (IntKind.wrap .i64 (k'-1))
  else
  kr (k',decide ((((V.nth r2 0).toInt):Int)<0))
 else
  kr (k',false)
noncomputable def Et (C:af) (l:List V) (dy df:Int) (cw:List V):(Int)→Option ((Int) ⊕ (Int × Bool)):=fun k'=>Aa C l dy df cw k' (fun y=>some (.inl y)) (fun r=>some (.inr r))
noncomputable def Z5 (C:af):cj:=fun β n ds k=>
 bif Nat.beq n 33 then bt NS [false,true,false,false,false] [[1,0,0,3,4,5]] (@Aa C) ds k else
 none
abbrev alz (C:af) (b:cg):Prop:=ch Tryz.prog az C (Z5 C) 75 (cv Tryz.prog (az.aT 75)) (az.sin 75).bf.length b
theorem alA (C:af):alz C (.loop (aq [1,1,0,0,0] Z4)):=
 bw NS [false,true,false,false,false] [[1,0,0,3,4,5]] (@Aa C) (by kernel_rfl) (aM (bs:=[]) (by kernel_rfl) aw) (fun ds=>by kernel_rfl) (fun i x=>by kernel_rfl) (fun i x β k=>by kernel_rfl) (fun β ds k=>by kernel_rfl)
noncomputable def Z6 (C:af) (l:List V) (ak ay:Int) (aj:List V):Option (List V):=
 (Loop (Et C l ak ay aj) (l.length:Int)).bind (un fun (cR:Int) (jJ:Bool)=>
  bif (ak:Int)==1 then
   some [.list ab l]
  else
   bif decide ((cR:Int)>0) then
   (idx l (IntKind.wrap .i64 (cR-1))).bind fun x5=>
   (C qS [.int .i64 ((x5.cell 0).toInt),.int .i64 ((x5.cell 1).toInt),.list ab ((x5.cell 2).toList),.int .i64 ak,.int .i64 ay,.list ab aj]).bind fun r6=>
   bif (((V.nth r6 0).toInt):Int)==0 then
    some [.list ab l]
   else
    bif (decide (0≤cR))&&(decide (cR≤(l.length:Int))) then
    bif Nat.ble ((([]:List V).length+((l.drop 0).take (((cR:Int).toNat)-0)).length)*40) b8 then
     bif Nat.ble (((([]:List V)++((l.drop 0).take (((cR:Int).toNat)-0))).length+([.agg [.int .i64 ak,.int .i64 ay,.list ab aj]]:List V).length)*40) b8 then
     bif (decide (0≤cR))&&(decide (cR≤(l.length:Int))) then
      bif Nat.ble ((((([]:List V)++((l.drop 0).take (((cR:Int).toNat)-0)))++([.agg [.int .i64 ak,.int .i64 ay,.list ab aj]]:List V)).length+((l.drop ((cR:Int).toNat)).take (l.length-((cR:Int).toNat))).length)*40) b8 then
      some [.list ab (((([]:List V)++((l.drop 0).take (((cR:Int).toNat)-0)))++([.agg [.int .i64 ak,.int .i64 ay,.list ab aj]]:List V))++((l.drop ((cR:Int).toNat)).take (l.length-((cR:Int).toNat))))]
      else none
     else none
     else none
    else none
    else none
   else
   bif (decide (0≤cR))&&(decide (cR≤(l.length:Int))) then
    bif Nat.ble ((([]:List V).length+((l.drop 0).take (((cR:Int).toNat)-0)).length)*40) b8 then
    bif Nat.ble (((([]:List V)++((l.drop 0).take (((cR:Int).toNat)-0))).length+([.agg [.int .i64 ak,.int .i64 ay,.list ab aj]]:List V).length)*40) b8 then
     bif (decide (0≤cR))&&(decide (cR≤(l.length:Int))) then
     bif Nat.ble ((((([]:List V)++((l.drop 0).take (((cR:Int).toNat)-0)))++([.agg [.int .i64 ak,.int .i64 ay,.list ab aj]]:List V)).length+((l.drop ((cR:Int).toNat)).take (l.length-((cR:Int).toNat))).length)*40) b8 then
      some [.list ab (((([]:List V)++((l.drop 0).take (((cR:Int).toNat)-0)))++([.agg [.int .i64 ak,.int .i64 ay,.list ab aj]]:List V))++((l.drop ((cR:Int).toNat)).take (l.length-((cR:Int).toNat))))]
     else none
     else none
    else none
    else none
   else none)
theorem alB {l:List V} {ak ay:Int} {aj:List V} {r:Option (List V)} (h:Z6 CC l ak ay aj=r):CC vS [.list ab l,.int .i64 ak,.int .i64 ay,.list ab aj]=r:=
 bn (key:=75) (L:=Z5 CC) (bs:=[.loop (aq [1,1,0,0,0] Z4)]) (by kernel_rfl) (aZ (alA CC) aw) (bm (by kernel_rfl) h)
noncomputable abbrev fu:Code:=bU Tryz.prog (az.aT 37)
noncomputable def Eu (C:af) (letter:Int) (t30:List V) (t31 t32:Int) (t38:List V) (t39:Int) (out:List V) (t40:Int) {β:Type} (kn:((List V) × Int)→Option β) (kr:((List V) × Int × Bool)→Option β):Option β:=
 bif decide ((t40:Int)<t39) then
  (idx t38 t40).bind fun x3=>
  (C vS [.list ab out,.int .i64 ((x3.cell 0).toInt),.int .i64 ((x3.cell 1).toInt),.list ab ((x3.cell 2).toList)]).bind fun r4=>
  kn ((V.nth r4 0).toList,IntKind.wrap .i64 (t40+1))
 else
  kr (out,t40,decide ((t40:Int)<t39))
noncomputable def JJ (C:af) (letter:Int) (t30:List V) (t31 t32:Int) (t38:List V) (t39:Int):((List V) × Int)→Option (((List V) × Int) ⊕ ((List V) × Int × Bool)):=un fun out t40=>Eu C letter t30 t31 t32 t38 t39 out t40 (fun y=>some (.inl y)) (fun r=>some (.inr r))
noncomputable def Ev (C:af) (letter:Int) (t30:List V) (t31:Int) (out:List V) (t32:Int) {β:Type} (kn:((List V) × Int)→Option β) (kr:((List V) × Int × Bool)→Option β):Option β:=
 bif decide ((t32:Int)<t31) then
  (idx t30 t32).bind fun x1=>
  (C sx [.int .i64 ((x1.cell 0).toInt),.int .i64 ((x1.cell 1).toInt),.list ab ((x1.cell 2).toList),.int .i64 letter]).bind fun r2=>
  (Loop (JJ C letter t30 t31 t32 ((V.nth r2 0).toList) (((V.nth r2 0).toList).length:Int)) (out,0)).bind (un fun (alC:List V)=>un fun (rf:Int) (sC:Bool)=>
   kn (alC,IntKind.wrap .i64 (t32+1)))
 else
  kr (out,t32,decide ((t32:Int)<t31))
noncomputable def JK (C:af) (letter:Int) (t30:List V) (t31:Int):((List V) × Int)→Option (((List V) × Int) ⊕ ((List V) × Int × Bool)):=un fun out t32=>Ev C letter t30 t31 out t32 (fun y=>some (.inl y)) (fun r=>some (.inr r))
noncomputable def Ew (C:af) (t56:List V) (t57 dy df:Int) (cw out:List V) (t58:Int) {β:Type} (kn:((List V) × Int)→Option β) (kr:((List V) × Int × Bool)→Option β):Option β:=
 bif decide ((t58:Int)<t57) then
  (idx t56 t58).bind fun dS=>
  (C tQ [.int .i64 5,.int .i64 0,.list ab ([.agg [.int .i64 ((dS.cell 0).toInt),.int .i64 ((dS.cell 1).toInt),.list ab ((dS.cell 2).toList)],.agg [.int .i64 dy,.int .i64 df,.list ab cw]]:List V)]).bind fun nS=>
  (C vS [.list ab out,.int .i64 ((V.nth nS 0).toInt),.int .i64 ((V.nth (nS.drop 1) 0).toInt),.list ab ((V.nth ((nS.drop 1).drop 1) 0).toList)]).bind fun pZ=>
  kn ((V.nth pZ 0).toList,IntKind.wrap .i64 (t58+1))
 else
  kr (out,t58,decide ((t58:Int)<t57))
noncomputable def JL (C:af) (t56:List V) (t57 dy df:Int) (cw:List V):((List V) × Int)→Option (((List V) × Int) ⊕ ((List V) × Int × Bool)):=un fun out t58=>Ew C t56 t57 dy df cw out t58 (fun y=>some (.inl y)) (fun r=>some (.inr r))
noncomputable def Ey (C:af) (letter:Int) (out:List V) (t79:Bool) (dy df:Int) (cw:List V) (Ez EA:Int) (EB:List V) {β:Type} (kr:(Int × Int × (List V))→Option β):Option β:=
 bif t79 then
  bif decide (1≤(cw.length:Int)) then
  kr (5,0,(cw.drop 1).take (cw.length-1))
  else none
 else
  kr (Ez,EA,EB)
noncomputable def EC (C:af) (letter:Int) (t89:List V) (t90 dy df:Int) (cw:List V) (Ez EA:Int) (EB out:List V) (t91:Int) {β:Type} (kn:((List V) × Int)→Option β) (kr:((List V) × Int × Bool)→Option β):Option β:=
 bif decide ((t91:Int)<t90) then
  (idx t89 t91).bind fun DE=>
  (C tQ [.int .i64 5,.int .i64 0,.list ab ([.agg [.int .i64 ((DE.cell 0).toInt),.int .i64 ((DE.cell 1).toInt),.list ab ((DE.cell 2).toList)],.agg [.int .i64 Ez,.int .i64 EA,.list ab EB]]:List V)]).bind fun Rw=>
  (C vS [.list ab out,.int .i64 ((V.nth Rw 0).toInt),.int .i64 ((V.nth (Rw.drop 1) 0).toInt),.list ab ((V.nth ((Rw.drop 1).drop 1) 0).toList)]).bind fun Rm=>
  kn ((V.nth Rm 0).toList,IntKind.wrap .i64 (t91+1))
 else
  kr (out,t91,decide ((t91:Int)<t90))
noncomputable def JM (C:af) (letter:Int) (t89:List V) (t90 dy df:Int) (cw:List V) (Ez EA:Int) (EB:List V):((List V) × Int)→Option (((List V) × Int) ⊕ ((List V) × Int × Bool)):=un fun out t91=>EC C letter t89 t90 dy df cw Ez EA EB out t91 (fun y=>some (.inl y)) (fun r=>some (.inr r))
noncomputable def ED (C:af) (t110:List V) (t111:Int) (out:List V) (t112:Int) {β:Type} (kn:((List V) × Int)→Option β) (kr:((List V) × Int × Bool)→Option β):Option β:=
 bif decide ((t112:Int)<t111) then
  (idx t110 t112).bind fun p7=>
  (C vS [.list ab out,.int .i64 ((p7.cell 0).toInt),.int .i64 ((p7.cell 1).toInt),.list ab ((p7.cell 2).toList)]).bind fun gf=>
  kn ((V.nth gf 0).toList,IntKind.wrap .i64 (t112+1))
 else
  kr (out,t112,decide ((t112:Int)<t111))
noncomputable def JN (C:af) (t110:List V) (t111:Int):((List V) × Int)→Option (((List V) × Int) ⊕ ((List V) × Int × Bool)):=un fun out t112=>ED C t110 t111 out t112 (fun y=>some (.inl y)) (fun r=>some (.inr r))
noncomputable def JO (C:af) (letter:Int) (out:List V) (t70:Bool) (dy df:Int) (cw:List V) {β:Type} (kr:(List V)→Option β):Option β:=
 bif t70 then
  (cw[1]?).bind fun gM=>
  Ey C letter out (decide (((cw.length:Int):Int)>2)) dy df cw ((gM.cell 0).toInt) ((gM.cell 1).toInt) ((gM.cell 2).toList) (un fun (Z7:Int)=>un fun (Z8:Int) (Z9:List V)=>
   (cw[0]?).bind fun ez=>
   (C sx [.int .i64 ((ez.cell 0).toInt),.int .i64 ((ez.cell 1).toInt),.list ab ((ez.cell 2).toList),.int .i64 letter]).bind fun um=>
   (Loop (JM C letter ((V.nth um 0).toList) (((V.nth um 0).toList).length:Int) dy df cw Z7 Z8 Z9) (out,0)).bind (un fun (aaa:List V)=>un fun (v9:Int) (CU:Bool)=>
    (cw[0]?).bind fun Rx=>
    (C yE [.int .i64 ((Rx.cell 0).toInt),.int .i64 ((Rx.cell 1).toInt),.list ab ((Rx.cell 2).toList)]).bind fun gd=>
    bif (V.nth gd 0).toBool then
    (C sx [.int .i64 Z7,.int .i64 Z8,.list ab Z9,.int .i64 letter]).bind fun zP=>
    (Loop (JN C ((V.nth zP 0).toList) (((V.nth zP 0).toList).length:Int)) (aaa,0)).bind (un fun (alD:List V)=>un fun (agn:Int) (IJ:Bool)=>
     kr alD)
    else
    kr aaa))
 else
  kr out
noncomputable def JP (C:af) (letter:Int) (out:List V) (t18:Int) (t49:Bool) (dy df:Int) (cw:List V) {β:Type} (kr:(List V)→Option β):Option β:=
 bif t49 then
  (cw[0]?).bind fun fC=>
  (C sx [.int .i64 ((fC.cell 0).toInt),.int .i64 ((fC.cell 1).toInt),.list ab ((fC.cell 2).toList),.int .i64 letter]).bind fun fP=>
  (Loop (JL C ((V.nth fP 0).toList) (((V.nth fP 0).toList).length:Int) dy df cw) (out,0)).bind (un fun (alE:List V)=>un fun (W4:Int) (Pb:Bool)=>
   kr alE)
 else
  JO C letter out ((t18:Int)==5) dy df cw (fun (alF:List V)=>
   kr alF)
noncomputable def JQ (C:af) (letter:Int) (out:List V) (t18:Int) (t27:Bool) (dy df:Int) (cw:List V) {β:Type} (kr:(List V)→Option β):Option β:=
 bif t27 then
  (Loop (JK C letter cw (cw.length:Int)) (out,0)).bind (un fun (alG:List V)=>un fun (oW:Int) (O7:Bool)=>
   kr alG)
 else
  JP C letter out t18 ((t18:Int)==7) dy df cw (fun (alH:List V)=>
   kr alH)
noncomputable def JR (C:af) (letter:Int) (out:List V) (t18:Int) (t19:Bool) (dy df:Int) (cw:List V) {β:Type} (kr:(List V)→Option β):Option β:=
 bif t19 then
  bif (df:Int)==letter then
  kr ([.agg [.int .i64 2,.int .i64 0,.list ab ([]:List V)]]:List V)
  else
  kr out
 else
  JQ C letter out t18 ((t18:Int)==4) dy df cw (fun (alI:List V)=>
   kr alI)
noncomputable def aab (C:af):cj:=fun β n ds k=>
 bif Nat.beq n 177 then bt Nq [false,true,false,false,false,false,false,true] [[1,0,3,4,5,6,7,0,0]] (@Eu C) ds k else
 bif Nat.beq n 129 then bt Nr [false,true,false,false,true] [[1,0,3,4,0,0]] (@Ev C) ds k else
 bif Nat.beq n 289 then bt Ns [true,false,false,true,false,false,false] [[0,2,3,0,0,5,6,7]] (@Ew C) ds k else
 bif Nat.beq n 1279 then fM Nt [[1,2,4,5,6,0,0,0]] (@Ey C) ds k else
 bif Nat.beq n 433 then bt Nu [false,true,false,false,true,false,false,false,false,false,false] [[1,0,3,4,0,0,6,7,8,9,10,11]] (@EC C) ds k else
 bif Nat.beq n 529 then bt Nv [true,false,false,true] [[0,2,3,0,0]] (@ED C) ds k else
 bif Nat.beq n 1135 then fM Nw [[0]] (@JO C) ds k else
 bif Nat.beq n 799 then fM Nx [[0]] (@JP C) ds k else
 bif Nat.beq n 447 then fM Ny [[0]] (@JQ C) ds k else
 bif Nat.beq n 319 then fM Nz [[0]] (@JR C) ds k else
 none
abbrev rq (C:af) (b:cg):Prop:=ch Tryz.prog az C (aab C) 37 (cv Tryz.prog (az.aT 37)) (az.sin 37).bf.length b
theorem alJ (C:af):rq C (.loop (aq [1,1,0,1,0,1,1,1,0,1,0,0,1,1,0,0,1,1,0,0] fu)):=
 bw Nq [false,true,false,false,false,false,false,true] [[1,0,3,4,5,6,7,0,0]] (@Eu C) (by kernel_rfl) (aM (bs:=[]) (by kernel_rfl) aw) (fun ds=>by kernel_rfl) (fun i x=>by kernel_rfl) (fun i x β k=>by kernel_rfl) (fun β ds k=>by kernel_rfl)
theorem alK (C:af):rq C (.loop (aq [1,1,0,1,0,1,1,1,0,1,0,0] fu)):=
 bw Nr [false,true,false,false,true] [[1,0,3,4,0,0]] (@Ev C) (by kernel_rfl) (aM (bs:=[.loop (aq [1,1,0,1,0,1,1,1,0,1,0,0,1,1,0,0,1,1,0,0] fu)]) (by kernel_rfl) (aZ (alJ C) aw)) (fun ds=>by kernel_rfl) (fun i x=>by kernel_rfl) (fun i x β k=>by kernel_rfl) (fun β ds k=>by kernel_rfl)
theorem alL (C:af):rq C (.loop (aq [1,1,0,1,0,1,1,1,1,1,0,1,0,0] fu)):=
 bw Ns [true,false,false,true,false,false,false] [[0,2,3,0,0,5,6,7]] (@Ew C) (by kernel_rfl) (aM (bs:=[]) (by kernel_rfl) aw) (fun ds=>by kernel_rfl) (fun i x=>by kernel_rfl) (fun i x β k=>by kernel_rfl) (fun β ds k=>by kernel_rfl)
theorem alM (C:af):rq C (.cond 79 (aq [1,1,0,1,0,1,1,1,1,1,1,1,0,1,0,1,0] fu) (aq [1,1,0,1,0,1,1,1,1,1,1,1,0,1,0,1,1] fu)):=
 fX Nt [[1,2,4,5,6,0,0,0]] (@Ey C) (by kernel_rfl) (aM (bs:=[]) (by kernel_rfl) aw) (aM (bs:=[]) (by kernel_rfl) aw) (fun ds=>by kernel_rfl) (fun i β k=>by kernel_rfl) (fun β ds k=>by kernel_rfl)
theorem alN (C:af):rq C (.loop (aq [1,1,0,1,0,1,1,1,1,1,1,1,0,1,1,0,1,0,0] fu)):=
 bw Nu [false,true,false,false,true,false,false,false,false,false,false] [[1,0,3,4,0,0,6,7,8,9,10,11]] (@EC C) (by kernel_rfl) (aM (bs:=[]) (by kernel_rfl) aw) (fun ds=>by kernel_rfl) (fun i x=>by kernel_rfl) (fun i x β k=>by kernel_rfl) (fun β ds k=>by kernel_rfl)
theorem alO (C:af):rq C (.loop (aq [1,1,0,1,0,1,1,1,1,1,1,1,0,1,1,1,1,0,1,0,0] fu)):=
 bw Nv [true,false,false,true] [[0,2,3,0,0]] (@ED C) (by kernel_rfl) (aM (bs:=[]) (by kernel_rfl) aw) (fun ds=>by kernel_rfl) (fun i x=>by kernel_rfl) (fun i x β k=>by kernel_rfl) (fun β ds k=>by kernel_rfl)
theorem alP (C:af):rq C (.cond 70 (aq [1,1,0,1,0,1,1,1,1,1,1,1,0] fu) (aq [1,1,0,1,0,1,1,1,1,1,1,1,1] fu)):=
 fX Nw [[0]] (@JO C) (by kernel_rfl) (aM (bs:=[.cond 79 (aq [1,1,0,1,0,1,1,1,1,1,1,1,0,1,0,1,0] fu) (aq [1,1,0,1,0,1,1,1,1,1,1,1,0,1,0,1,1] fu),.loop (aq [1,1,0,1,0,1,1,1,1,1,1,1,0,1,1,0,1,0,0] fu),.loop (aq [1,1,0,1,0,1,1,1,1,1,1,1,0,1,1,1,1,0,1,0,0] fu)]) (by kernel_rfl) (aZ (alM C) (aZ (alN C) (aZ (alO C) aw)))) (aM (bs:=[]) (by kernel_rfl) aw) (fun ds=>by kernel_rfl) (fun i β k=>by kernel_rfl) (fun β ds k=>by kernel_rfl)
theorem alQ (C:af):rq C (.cond 49 (aq [1,1,0,1,0,1,1,1,1,1,0] fu) (aq [1,1,0,1,0,1,1,1,1,1,1] fu)):=
 fX Nx [[0]] (@JP C) (by kernel_rfl) (aM (bs:=[.loop (aq [1,1,0,1,0,1,1,1,1,1,0,1,0,0] fu)]) (by kernel_rfl) (aZ (alL C) aw)) (aM (bs:=[.cond 70 (aq [1,1,0,1,0,1,1,1,1,1,1,1,0] fu) (aq [1,1,0,1,0,1,1,1,1,1,1,1,1] fu)]) (by kernel_rfl) (aZ (alP C) aw)) (fun ds=>by kernel_rfl) (fun i β k=>by kernel_rfl) (fun β ds k=>by kernel_rfl)
theorem alR (C:af):rq C (.cond 27 (aq [1,1,0,1,0,1,1,1,0] fu) (aq [1,1,0,1,0,1,1,1,1] fu)):=
 fX Ny [[0]] (@JQ C) (by kernel_rfl) (aM (bs:=[.loop (aq [1,1,0,1,0,1,1,1,0,1,0,0] fu)]) (by kernel_rfl) (aZ (alK C) aw)) (aM (bs:=[.cond 49 (aq [1,1,0,1,0,1,1,1,1,1,0] fu) (aq [1,1,0,1,0,1,1,1,1,1,1] fu)]) (by kernel_rfl) (aZ (alQ C) aw)) (fun ds=>by kernel_rfl) (fun i β k=>by kernel_rfl) (fun β ds k=>by kernel_rfl)
theorem alS (C:af):rq C (.cond 19 (aq [1,1,0,1,0,1,0] fu) (aq [1,1,0,1,0,1,1] fu)):=
 fX Nz [[0]] (@JR C) (by kernel_rfl) (aM (bs:=[]) (by kernel_rfl) aw) (aM (bs:=[.cond 27 (aq [1,1,0,1,0,1,1,1,0] fu) (aq [1,1,0,1,0,1,1,1,1] fu)]) (by kernel_rfl) (aZ (alR C) aw)) (fun ds=>by kernel_rfl) (fun i β k=>by kernel_rfl) (fun β ds k=>by kernel_rfl)
noncomputable def aac (C:af) (ak ay:Int) (aj:List V) (letter:Int):Option (List V):=
 JR C letter ([]:List V) ak ((ak:Int)==3) ak ay aj (fun (alT:List V)=>
  some [.list ab alT])
theorem aad {ak ay:Int} {aj:List V} {letter:Int} {r:Option (List V)} (h:aac CC ak ay aj letter=r):CC sx [.int .i64 ak,.int .i64 ay,.list ab aj,.int .i64 letter]=r:=
 bn (key:=37) (L:=aab CC) (bs:=[.cond 19 (aq [1,1,0,1,0,1,0] fu) (aq [1,1,0,1,0,1,1] fu)]) (by kernel_rfl) (aZ (alS CC) aw) (bm (by kernel_rfl) h)
end Go.AM
set_option maxRecDepth 100000
namespace Go.AM
open Go.Proofs Ex
theorem alU {l:List Ex} {x:Ex} (hl: ∀k∈l,k.Ok) (hx:x.Ok) (hn:l.length≤1000000):
  ∀k,k≤l.length→∃t,Loop (Et CC (l.map enc) x.op x.letter (x.kids.map enc)) (k:Int)=some (((eR l x k:Nat):Int),t):=by
 intro k
 induction k with
 | zero=>
  intro _
  refine ⟨false,aG ?_⟩
  simp only[Et,Aa,eR]
  rw[ar,ah (by omega)]
 | succ k ih=>
  intro hk
  have e1:IntKind.wrap .i64 (((k+1:Nat):Int)-1)=(k:Int):=by rw[wrap64 (by omega) (by omega)];omega
  have c:=Ej x hx (l.getD k aQ) (oY hl (by omega))
  by_cases h:cmp x (l.getD k aQ)<0
  ·obtain ⟨t,ht⟩:=ih (by omega)
   refine ⟨t,?_⟩
   rw[eR,ag h,←ht]
   refine br ?_
   simp only[Et,Aa]
   rw[ar,ag (by omega),e1,zh (by omega)]
   simp only[Option.bind_some,aH,aN,aK]
   refine (congrArg (fun o=>Option.bind o _) c).trans ?_
   simp only[Option.bind_some,V.aD,V.toInt_int,ar]
   rw[ag h]
  ·refine ⟨false,?_⟩
   rw[eR,ah h]
   refine aG ?_
   simp only[Et,Aa]
   rw[ar,ag (by omega),e1,zh (by omega)]
   simp only[Option.bind_some,aH,aN,aK]
   refine (congrArg (fun o=>Option.bind o _) c).trans ?_
   simp only[Option.bind_some,V.aD,V.toInt_int,ar]
   rw[ah h,cL h]
theorem JS {l:List Ex} {x:Ex} (hl: ∀k∈l,k.Ok) (hx:x.Ok) (hn:l.length≤1000000) (ho:x.op≠1):
  CC vS (.list ab (l.map enc)::ct x [])=some [.list ab ((dk l x).map enc)]:=by
 refine alB ?_
 unfold Z6
 obtain ⟨t,ht⟩:=alU hl hx hn l.length (bN _)
 have hle:=zi l x l.length
 rw[aC]
 refine (congrArg (fun o=>Option.bind o _) ht).trans ?_
 have key:=Xw l (eR l x l.length) x
 unfold dk
 generalize eR l x l.length=k at hle key
 have m1:Nat.ble ((([]:List V).length+(((l.map enc).drop 0).take (k-0)).length)*40) b8=true:=by
  rw[dN,iW];simp only[dV,jT,aC,List.length_nil];omega
 have m2:Nat.ble (((([]:List V)++(((l.map enc).drop 0).take (k-0))).length+([.agg [.int .i64 x.op,.int .i64 x.letter,.list ab (x.kids.map enc)]]:List V).length)*40) b8=true:=by
  rw[dN,iW];simp only[bO,dV,jT,aC,List.length_nil,List.length_singleton];omega
 have m3:Nat.ble ((((([]:List V)++(((l.map enc).drop 0).take (k-0)))++([.agg [.int .i64 x.op,.int .i64 x.letter,.list ab (x.kids.map enc)]]:List V)).length+(((l.map enc).drop k).take ((l.map enc).length-k)).length)*40) b8=true:=by
  rw[dN,iW];simp only[bO,dV,jT,aC,List.length_nil,List.length_singleton];omega
 have t1:(0:Int)≤(k:Int):=by omega
 have t2:(k:Int)≤(l.length:Int):=by omega
 simp only[Option.bind_some,un,ar,cq,Int.toNat_natCast]
 rw[ah ho]
 rw[aC] at m3 key
 by_cases h0:0<k
 ·rw[ag (by omega)]
  have e1:IntKind.wrap .i64 ((k:Int)-1)=((k-1:Nat):Int):=by rw[wrap64 (by omega) (by omega)];omega
  have c:=Ej (l.getD (k-1) aQ) (oY hl (by omega)) x hx
  rw[e1,zh (by omega)]
  simp only[Option.bind_some,aH,aN,aK]
  refine (congrArg (fun o=>Option.bind o _) c).trans ?_
  simp only[Option.bind_some,V.aD,V.toInt_int,cq]
  by_cases h1:cmp (l.getD (k-1) aQ) x=0
  ·rw[ag h1,ag ⟨h0,h1⟩]
  ·rw[ah h1,ah (fun h=>h1 h.2)]
   simp only[bK,ar,t1,t2,cy,m1,m2,m3,cond_true,key,aC]
 ·rw[ah (by omega),ah (fun h=>h0 h.1)]
  simp only[bK,ar,t1,t2,cy,m1,m2,m3,cond_true,key,aC]
theorem JT {f:Ex→Ex} {L:List Ex} {st:(List V × Int)→Option ((List V × Int) ⊕ (List V × Int × Bool))} (he: ∀S:List Ex,st (S.map enc,(L.length:Int))=some (.inr (S.map enc,(L.length:Int),false)))
  (hs: ∀(pre:List Ex) (x:Ex) (aA S:List Ex),L=pre++x::aA→(∀k∈S,k.Ok)→S.length≤6000→st (S.map enc,((pre.length:Nat):Int))=some (.inl ((dk S (f x)).map enc,((pre.length+1:Nat):Int)))∧(f x).Ok) (hl:L.length≤1000):
  ∀(aA pre S:List Ex),L=pre++aA→(∀k∈S,k.Ok)→S.length+aA.length≤6000→Loop st (S.map enc,((pre.length:Nat):Int))=some (((aA.map f).foldl dk S).map enc,(L.length:Int),false):=by
 intro aA
 induction aA with
 | nil=>
  intro pre S e _ _
  rw[dc] at e
  subst e
  exact aG (he S)
 | cons x aA ih=>
  intro pre S e hS nV
  simp only[List.length_cons] at nV
  obtain ⟨h1,h2⟩:=hs pre x aA S e hS (by omega)
  have oJ:=IT S (f x)
  rw[br h1]
  have:=ih (pre++[x]) (dk S (f x)) (by simp[e]) (Pt hS h2) (by omega)
  rw[bO] at this
  exact this
theorem alV {c a b:Int} {T:List V} {L:List Ex} (hg: ∀k∈L,Gn k) (hz: ∀k∈L,k.size≤400000) (hl:L.length≤1000) (S:List Ex) (hS: ∀k∈S,k.Ok) (nV:S.length≤5000):Loop (JJ CC c T a b (L.map enc) (L.length:Int)) (S.map enc,0)=some (((L.map fun p=>p).foldl dk S).map enc,(L.length:Int),false):=by
 refine JT (fun S=> ?_) (fun pre x aA S e hS nV=> ?_) hl L [] S rfl hS (by omega)
 ·simp only[JJ,Eu,un]
  rw[ar,ah (by omega),cL (by omega)]
 ·have bM:pre.length<L.length:=by rw[e];simp
  have hm:x∈L:=by rw[e];simp
  have cf:idx (L.map enc) (pre.length:Int)=some x.enc:=by rw[e];exact fq _ _ _
  have nW:=hg x hm
  have gn:=hz x hm
  have pd:=nW
  have kA:x.Ok:=qf nW (by omega)
  refine ⟨?_,kA⟩
  simp only[JJ,Eu,un]
  refine bT (kO bM) (bs cf ?_)
  rw[aH,aN,aK]
  refine bs (JS hS kA (by omega) pd.2) ?_
  rw[kN (by omega)]
  rfl
theorem alW {L:List Ex} (hg: ∀k∈L,Gn k) (hz: ∀k∈L,k.size≤400000) (hl:L.length≤1000) (S:List Ex) (hS: ∀k∈S,k.Ok) (nV:S.length≤5000):Loop (JN CC (L.map enc) (L.length:Int)) (S.map enc,0)=some (((L.map fun p=>p).foldl dk S).map enc,(L.length:Int),false):=by
 refine JT (fun S=> ?_) (fun pre x aA S e hS nV=> ?_) hl L [] S rfl hS (by omega)
 ·simp only[JN,ED,un]
  rw[ar,ah (by omega),cL (by omega)]
 ·have bM:pre.length<L.length:=by rw[e];simp
  have hm:x∈L:=by rw[e];simp
  have cf:idx (L.map enc) (pre.length:Int)=some x.enc:=by rw[e];exact fq _ _ _
  have nW:=hg x hm
  have gn:=hz x hm
  have pd:=nW
  have kA:x.Ok:=qf nW (by omega)
  refine ⟨?_,kA⟩
  simp only[JN,ED,un]
  refine bT (kO bM) (bs cf ?_)
  rw[aH,aN,aK]
  refine bs (JS hS kA (by omega) pd.2) ?_
  rw[kN (by omega)]
  rfl
theorem alX {r:Ex} {L:List Ex} (hr:Gn r) (Ry:r.size≤859) (hg: ∀k∈L,Gn k) (hz: ∀k∈L,k.size≤400000) (hl:L.length≤1000) (S:List Ex) (hS: ∀k∈S,k.Ok) (nV:S.length≤5000):Loop (JL CC (L.map enc) (L.length:Int) r.op r.letter (r.kids.map enc)) (S.map enc,0)=some (((L.map fun p=>ca 5 0 [p,r]).foldl dk S).map enc,(L.length:Int),false):=by
 refine JT (fun S=> ?_) (fun pre x aA S e hS nV=> ?_) hl L [] S rfl hS (by omega)
 ·simp only[JL,Ew,un]
  rw[ar,ah (by omega),cL (by omega)]
 ·have bM:pre.length<L.length:=by rw[e];simp
  have hm:x∈L:=by rw[e];simp
  have cf:idx (L.map enc) (pre.length:Int)=some x.enc:=by rw[e];exact fq _ _ _
  have nW:=hg x hm
  have gn:=hz x hm
  have hw:(Ex.node 5 0 [x,r]).wf 6=true:=C3 (Rv (.inr rfl) (by simp)) fun k hk=>by
   rcases cH.1 hk with rfl|hk
   ·exact nW.1.2
   ·rw[cV.1 hk];exact hr.1.2
  have pd:Gn (ca 5 0 [x,r]):=ud fun k hk=>by
   rcases cH.1 hk with rfl|hk
   ·exact nW
   ·rw[cV.1 hk];exact hr
  have CL:=Da (p:=x) (K:=[r])
  simp only[aF] at CL
  have kA:(ca 5 0 [x,r]).Ok:=qf pd (by omega)
  refine ⟨?_,kA⟩
  simp only[JL,Ew,un]
  refine bT (kO bM) (bs cf ?_)
  rw[aH,aN,aK]
  rw[Js,Js]
  refine bs (Rp (n:=6) (by omega) (.node 5 0 [x,r]) hw (by simp only[size,aF];omega)) ?_
  rw[wj,dZ,dZ,mU,I1 _ nW.1,I1 _ hr.1]
  refine bs (JS hS kA (by omega) pd.2) ?_
  rw[kN (by omega)]
  rfl
theorem alY {c z0 z1:Int} {Z:List V} {r:Ex} {L:List Ex} (hr:Gn r) (Ry:r.size≤859) (hg: ∀k∈L,Gn k) (hz: ∀k∈L,k.size≤400000) (hl:L.length≤1000) (S:List Ex) (hS: ∀k∈S,k.Ok) (nV:S.length≤5000):Loop (JM CC c (L.map enc) (L.length:Int) z0 z1 Z r.op r.letter (r.kids.map enc)) (S.map enc,0)=some (((L.map fun p=>ca 5 0 [p,r]).foldl dk S).map enc,(L.length:Int),false):=by
 refine JT (fun S=> ?_) (fun pre x aA S e hS nV=> ?_) hl L [] S rfl hS (by omega)
 ·simp only[JM,EC,un]
  rw[ar,ah (by omega),cL (by omega)]
 ·have bM:pre.length<L.length:=by rw[e];simp
  have hm:x∈L:=by rw[e];simp
  have cf:idx (L.map enc) (pre.length:Int)=some x.enc:=by rw[e];exact fq _ _ _
  have nW:=hg x hm
  have gn:=hz x hm
  have hw:(Ex.node 5 0 [x,r]).wf 6=true:=C3 (Rv (.inr rfl) (by simp)) fun k hk=>by
   rcases cH.1 hk with rfl|hk
   ·exact nW.1.2
   ·rw[cV.1 hk];exact hr.1.2
  have pd:Gn (ca 5 0 [x,r]):=ud fun k hk=>by
   rcases cH.1 hk with rfl|hk
   ·exact nW
   ·rw[cV.1 hk];exact hr
  have CL:=Da (p:=x) (K:=[r])
  simp only[aF] at CL
  have kA:(ca 5 0 [x,r]).Ok:=qf pd (by omega)
  refine ⟨?_,kA⟩
  simp only[JM,EC,un]
  refine bT (kO bM) (bs cf ?_)
  rw[aH,aN,aK]
  rw[Js,Js]
  refine bs (Rp (n:=6) (by omega) (.node 5 0 [x,r]) hw (by simp only[size,aF];omega)) ?_
  rw[wj,dZ,dZ,mU,I1 _ nW.1,I1 _ hr.1]
  refine bs (JS hS kA (by omega) pd.2) ?_
  rw[kN (by omega)]
  rfl
theorem Rz {A B:List Ex} (h: ∀x,x.op≠1→(x∈A↔x∈B)):bJ A=bJ B:=zj z8 z8 fun x=>by
 rw[nU,nU]
 exact ⟨fun ⟨a,b⟩=>⟨(h x b).1 a,b⟩,fun ⟨a,b⟩=>⟨(h x b).2 a,b⟩⟩
theorem aae {A L:List Ex} (hL: ∀x∈L,x.op≠1):L.foldl dk (bJ A)=bJ (A++L):=by
 obtain ⟨h1,h2⟩:=C2 L (bJ A) z8
 refine zj h1 z8 fun x=> ?_
 rw[h2,nU,nU,cZ]
 exact ⟨fun h=>h.elim (fun h=>⟨.inr h,hL x h⟩) fun h=>⟨.inl h.1,h.2⟩,fun ⟨h,ho⟩=>h.elim (fun h=> .inr ⟨h,ho⟩) .inl⟩
theorem aaf:bJ []=[]:=rfl
theorem alZ {A:List Ex} (h: ∀x∈A,Gn x): ∀x∈bJ A,Gn x:=fun x hx=>h x (nU.1 hx).1
theorem aag {A B:List Ex}:(bJ B).foldl dk (bJ A)=bJ (A++B):=by
 rw[aae fun x hx=>(nU.1 hx).2]
 exact Rz fun x ho=>by simp only[cZ,nU];exact ⟨fun h=>h.imp id And.left,fun h=>h.imp id fun h=>⟨h,ho⟩⟩
theorem aah {A B:List Ex} {f:Ex→Ex} (hB: ∀x∈B,x.op≠1) (hf: ∀x∈B,(f x).op≠1):((bJ B).map f).foldl dk (bJ A)=bJ (A++B.map f):=by
 rw[aae fun x hx=>by obtain ⟨y,hy,rfl⟩:=fG.1 hx;exact hf y (nU.1 hy).1]
 refine Rz fun x ho=> ?_
 simp only[cZ,fG,nU]
 exact ⟨fun h=>h.imp id fun ⟨y,a,b⟩=>⟨y,a.1,b⟩,fun h=>h.imp id fun ⟨y,a,b⟩=>⟨y,⟨a,hB y a⟩,b⟩⟩
theorem al0 {l:Int} {k:Ex} {R:List Ex} (h:Gn (.node 5 l (k::R))) (hR:R≠[]):Gn (oneOf 5 R)∧(∀p,Gn p→ca 5 0 [p,oneOf 5 R]=ca 5 0 (p::R))∧∀(c:Int) (x:Ex),x∈pX c (oneOf 5 R)↔x∈gv c R:=by
 have hk:=wk h (.inl rfl)
 simp only[Ex.kids] at hk
 have EE: ∀x∈R,Gn x:=fun x hx=>hk x (by simp[hx])
 match R,hR with
 | [r],_=>
  refine ⟨EE r (by simp),fun p _=>rfl,fun c x=> ?_⟩
  show x∈pX c r↔_
  rw[rk]
  constructor
  ·intro hx;exact .inl ⟨x,hx,(I5 (o5 r (EE r (by simp)) x hx).1).symm⟩
  ·rintro (⟨p,hp,rfl⟩|⟨_,h⟩)
   ·rw[I5 (o5 r (EE r (by simp)) p hp).1];exact hp
   ·simp[gv] at h
 | r::s::R,_=>
  have e:oneOf 5 (r::s::R)= .node 5 0 (r::s::R):=rfl
  have ax:=h.1.ok.2.2.1 rfl
  simp only[Ex.kids] at ax
  have hg:Gd 6 (.node 5 0 (r::s::R)):= .mk' (fun x hx=>(EE x hx).1) (Py fun x hx=>ax x (lC _ hx)) (Rv (.inr rfl) (by simp only[List.length_cons];omega))
  rw[e]
  refine ⟨⟨hg,by simp[Ex.op]⟩,fun p hp=> ?_,fun c x=> ?_⟩
  ·have h1:=XS (n:=6) (l:=0) (P:=[p]) (A:=r::s::R) (B:=[]) (fun x hx=>by rw[cV.1 hx];exact hp.1) (fun x hx=>(EE x hx).1) (by simp)
   rw[XP hg,dc] at h1
   exact h1
  ·rw[lT,ah (by omega),ah (by omega),ah (by omega),ag rfl]
theorem al1 {c:Int}: ∀(n:Nat) (e:Ex),e.size≤n→Gn e→e.size≤859→CC sx (ct e [.int .i64 c])=some [.list ab ((bJ (pX c e)).map enc)]:=by
 intro n
 induction n with
 | zero=>intro e h;have:=size_pos e;omega
 | succ n ih=>
 intro e hn he hs
 obtain ⟨o,l,ks⟩:=e
 have bh:(Ex.node o l ks).size=1+aF ks:=by simp only[size]
 have hl:=kH ks
 have pc: ∀k∈ks,k.size≤859:=fun k hk=>by have:=ri hk;omega
 have hk:(o=5∨o=4∨o=7)→∀k∈ks,Gn k:=fun ho=>wk he ho
 have members: ∀k:Ex,Gn k→k.size≤859→(∀x∈bJ (pX c k),Gn x)∧(∀x∈bJ (pX c k),x.size≤400000)∧(bJ (pX c k)).length≤859∧∀x∈bJ (pX c k),x.Ok:=fun k hg bd=>by
  have h1: ∀x∈bJ (pX c k),Gn x:=alZ (o5 k hg)
  have h2: ∀x∈bJ (pX c k),x.size≤400000:=fun x hx=>Ee (nU.1 hx).1 bd
  have h3:=Ru (pX c k)
  have h4:=ue (c:=c) k
  exact ⟨h1,h2,by omega,fun x hx=>qf (h1 x hx) (by have:=h2 x hx;omega)⟩
 refine aad ?_
 unfold aac JR
 simp only[Ex.op,Ex.letter,Ex.kids]
 rw[cq,lT]
 by_cases h3:o=3
 ·rw[ag h3,ag h3,cq]
  by_cases pO:l=c
  ·rw[ag pO,ag pO]
   rfl
  ·rw[ah pO,ah pO];rfl
 rw[ah h3,ah h3]
 unfold JQ
 rw[cq]
 by_cases h4:o=4
 ·rw[ag h4,ag h4]
  have ej:=hk (.inr (.inl h4))
  have hlen: ∀L:List Ex,(fZ c L).length≤aF L:=by
   intro L
   induction L with
   | nil=>simp[fZ,aF]
   | cons a L ihL=>have:=ue (c:=c) a;simp only[fZ,aF,bO];omega
  have loop: ∀(aA pre:List Ex),ks=pre++aA→Loop (JK CC c (ks.map enc) (ks.length:Int)) ((bJ (fZ c pre)).map enc,((pre.length:Nat):Int))=some ((bJ (fZ c ks)).map enc,(ks.length:Int),false):=by
   intro aA
   induction aA with
   | nil=>
    intro pre e
    rw[dc] at e
    subst e
    refine aG ?_
    simp only[JK,Ev,un]
    rw[ar,ah (by omega),cL (by omega)]
   | cons k aA iX=>
    intro pre e
    have bM:pre.length<ks.length:=by rw[e];simp
    have hm:k∈ks:=by rw[e];simp
    have cf:idx (ks.map enc) (pre.length:Int)=some k.enc:=by rw[e];exact fq _ _ _
    obtain ⟨m1,m2,m3,m4⟩:=members k (ej k hm) (pc k hm)
    have aqf:aF pre≤aF ks:=by rw[e,wh];omega
    have aqg:=hlen pre
    have aqh:=Ru (fZ c pre)
    have GR: ∀x∈bJ (fZ c pre),x.Ok:=fun x hx=>by
     obtain ⟨z,hz,IL⟩:=I6.1 (nU.1 hx).1
     have BL:z∈ks:=by rw[e];simp[hz]
     exact qf (o5 z (ej z BL) x IL) (by have:=Ee IL (pc z BL);omega)
    refine (br ?_).trans (iX (pre++[k]) (by simp[e]))
    simp only[JK,Ev,un]
    refine bT (kO bM) (bs cf ?_)
    rw[aH,aN,aK]
    refine bs (ih k (by have:=ri hm;omega) (ej k hm) (pc k hm)) ?_
    rw[V.aD,V.e8,aC]
    refine bs (alV (L:=bJ (pX c k)) m1 m2 (by omega) _ GR (by omega)) ?_
    rw[List.map_id',aag,kN (by omega),Rf,bO]
    simp only[fZ,dc]
    rfl
  have:=loop ks [] rfl
  rw[aC]
  exact bs this rfl
 rw[ah h4,ah h4]
 unfold JP
 rw[cq]
 by_cases h7:o=7
 ·rw[ag h7,ag h7]
  have hw:=nE he.1.2
  obtain ⟨k,rfl⟩: ∃k,ks=[k]:=List.length_eq_one_iff.1 (by rcases lS hw.1 with h|⟨_,h⟩<;>omega)
  refine bs (a:=k.enc) rfl ?_
  rw[aH,aN,aK]
  have ej:=hk (.inr (.inr h7)) k (by simp)
  have mL:=pc k (by simp)
  obtain ⟨m1,m2,m3,m4⟩:=members k ej mL
  refine bs (ih k (by simp only[aF] at bh;omega) ej mL) ?_
  rw[V.aD,V.e8,aC]
  refine bs (alX (r:= .node o l [k]) (L:=bJ (pX c k)) he hs m1 m2 (by omega) [] (by simp) (by simp)) ?_
  have hp:=o5 (c:=c) k ej
  have e:=aah (A:=[]) (B:=pX c k) (f:=fun p=>ca 5 0 [p,.node o l [k]]) (fun x hx=>(hp x hx).2) (fun x hx=>(ud fun z hz=>by
   rcases cH.1 hz with rfl|hz
   ·exact hp _ hx
   ·rw[cV.1 hz];exact he).2)
  rw[aaf,List.nil_append] at e
  rw[e]
  rfl
 rw[ah h7,ah h7]
 unfold JO
 rw[cq]
 by_cases h5:o=5
 ·rw[ag h5,ag h5]
  have ej:=hk (.inl h5)
  have hw:=nE he.1.2
  have h2:2≤ks.length:=by rcases lS hw.1 with h|⟨_,h⟩<;>omega
  subst h5
  match ks,h2,he,hs,bh,ej,pc,hw,hl,hn with
  | k::r::R,_,he,hs,bh,ej,pc,hw,hl,hn=>
  obtain ⟨g1,g2,g3⟩:=al0 (R:=r::R) he (by simp)
  have Ry:(oneOf 5 (r::R)).size≤1+aF (r::R):=alv
  have hkp:=size_pos k
  simp only[aF] at bh Ry
  have vy:=ej k (by simp)
  have mL:=pc k (by simp)
  have RA:(oneOf 5 (r::R)).size≤859:=by omega
  refine bs (a:=r.enc) rfl ?_
  have rest: ∀{β:Type} (kr:(Int × Int × List V)→Option β),Ey CC c ([]:List V) (decide ((((k::r::R).map enc).length:Int)>2)) 5 l ((k::r::R).map enc) r.op r.letter (r.kids.map enc) kr=kr ((oneOf 5 (r::R)).op,(oneOf 5 (r::R)).letter,(oneOf 5 (r::R)).kids.map enc):=fun kr=>by
   unfold Ey
   cases R with
   | nil=>rfl
   | cons s R=>
    rw[dC (by simp only[aC,List.length_cons];omega),cond_true,dC (by simp only[aC,List.length_cons];omega),cond_true,uI (by simp)]
    rfl
  rw[aH,aN,aK,rest]
  simp only[un]
  refine bs (a:=k.enc) rfl ?_
  rw[aH,aN,aK]
  obtain ⟨m1,m2,m3,m4⟩:=members k vy mL
  obtain ⟨n1,n2,n3,n4⟩:=members _ g1 RA
  refine bs (ih k (by omega) vy mL) ?_
  rw[V.aD,V.e8,aC]
  have hp:=o5 (c:=c) k vy
  have pd: ∀x∈pX c k,Gn (ca 5 0 [x,oneOf 5 (r::R)]):=fun x hx=>ud fun z hz=>by
   rcases cH.1 hz with rfl|hz
   ·exact hp _ hx
   ·rw[cV.1 hz];exact g1
  refine bs (alY (r:=oneOf 5 (r::R)) (L:=bJ (pX c k)) g1 RA m1 m2 (by omega) [] (by simp) (by simp)) ?_
  have e:=aah (A:=[]) (B:=pX c k) (f:=fun p=>ca 5 0 [p,oneOf 5 (r::R)]) (fun x hx=>(hp x hx).2) (fun x hx=>(pd x hx).2)
  rw[aaf,List.nil_append] at e
  rw[e]
  simp only[un]
  refine bs (a:=k.enc) rfl ?_
  rw[aH,aN,aK]
  have qE:((pX c k).map fun p=>ca 5 0 [p,oneOf 5 (r::R)])=(pX c k).map fun p=>ca 5 0 (p::r::R):=qm fun p mu=>g2 p (hp p mu)
  refine bs (Z3 k (qf vy (by omega))) ?_
  have kA: ∀x∈bJ ((pX c k).map fun p=>ca 5 0 [p,oneOf 5 (r::R)]),x.Ok:=fun x hx=>by
   obtain ⟨y,hy,rfl⟩:=fG.1 (nU.1 hx).1
   have h1:=Da (p:=y) (K:=[oneOf 5 (r::R)])
   have h2:=Ee hy mL
   simp only[aF] at h1
   exact qf (pd y hy) (by omega)
  have cp:=Ru ((pX c k).map fun p=>ca 5 0 [p,oneOf 5 (r::R)])
  have bM:=ue (c:=c) k
  rw[aC] at cp
  cases uq:k.dJ with
  | true=>
   refine bT (by rw[V.aD,V.cI]) ?_
   refine bs (ih _ (by omega) g1 RA) ?_
   rw[V.aD,V.e8,aC]
   refine bs (alW (L:=bJ (pX c (oneOf 5 (r::R)))) n1 n2 (by omega) _ kA (by omega)) ?_
   rw[List.map_id',aag]
   simp only[un]
   refine congrArg (fun z:List Ex=>some [V.list ab (z.map enc)]) (Rz fun x _=> ?_)
   rw[gv,ag uq,cZ,cZ,qE,g3]
  | false=>
   refine bF (by rw[V.aD,V.cI]) ?_
   rw[gv,ah (by rw[uq];exact FR),dc,qE]
 ·rw[ah h5,ah h5]
  rfl
end Go.AM
set_option maxRecDepth 100000
namespace Go.AM
open Go.Proofs
structure Ed where
 f:Int
 l:Int
 t:Int
deriving DecidableEq,Inhabited
namespace Ed
def enc (e:Ed):V:= .agg [.int .i64 e.f,.int .i64 e.l,.int .i64 e.t]
@[simp] theorem aH (e:Ed):(e.enc.cell 0).toInt=e.f:=by simp[enc]
@[simp] theorem aN (e:Ed):(e.enc.cell 1).toInt=e.l:=by simp[enc]
@[simp] theorem aK (e:Ed):(e.enc.cell 2).toInt=e.t:=by simp[enc]
theorem re (e:Ed):V.agg [.int .i64 e.f,.int .i64 e.l,.int .i64 e.t]=e.enc:=rfl
def lt (a b:Ed):Prop:=a.f<b.f∨a.f=b.f∧(a.l<b.l∨a.l=b.l∧a.t<b.t)
instance (a b:Ed):Decidable (lt a b):=by unfold lt;infer_instance
def Ok (e:Ed):Prop:= -9223372036854775808≤e.f∧e.f≤9223372036854775807∧ -9223372036854775808≤e.l∧e.l≤9223372036854775807∧ -9223372036854775808≤e.t∧e.t≤9223372036854775807
def In (L S:Int) (e:Ed):Prop:=0≤e.f∧e.f<S∧0≤e.t∧e.t<S∧0≤e.l∧e.l<L
instance (L S:Int) (e:Ed):Decidable (e.In L S):=by unfold In;infer_instance
end Ed
structure Nf where
 L:Int
 S:Int
 st:Nat
 fin:Nat
 E:List Ed
def JU (n:Nf) (rest:List V):List V:= .int .i64 n.L:: .int .i64 n.S:: .int .u64 (n.st:Int):: .int .u64 (n.fin:Int):: .list aS (n.E.map Ed.enc)::rest
namespace Nf
structure Ok (n:Nf):Prop where
 L1: -9223372036854775808≤n.L
 L2:n.L≤9223372036854775807
 S1: -9223372036854775808≤n.S
 S2:n.S≤9223372036854775807
 st:n.st<2^64
 fin:n.fin<2^64
 len:n.E.length≤maxLen
 E: ∀e∈n.E,e.Ok
def RB (n:Nf) (i:Nat):Prop:=(n.E.getD i default).In n.L n.S∧(0<i→(n.E.getD (i-1) default).lt (n.E.getD i default))
instance (n:Nf):DecidablePred n.RB:=fun i=>by unfold RB;infer_instance
def code (n:Nf):Int:=
 if n.L<1∨n.L>6∨n.S<0∨n.S>64 then 1
 else if¬(n.st<2^n.S.toNat∧n.fin<2^n.S.toNat) then 4
 else if∀i,i<n.E.length→n.RB i then 0 else 4
structure Good (n:Nf):Prop where
 L1:1≤n.L
 L6:n.L≤6
 S0:0≤n.S
 S64:n.S≤64
 st:n.st<2^n.S.toNat
 fin:n.fin<2^n.S.toNat
 E: ∀e∈n.E,e.In n.L n.S
end Nf
noncomputable def aai (C:af) (ak ay aj JV JW JX:Int):Option (List V):=
 (C qV [.int .i64 ak,.int .i64 JV]).bind fun r1=>
 (C qV [.int .i64 ay,.int .i64 JW]).bind fun r2=>
 (C qV [.int .i64 aj,.int .i64 JX]).bind fun r3=>
 (C H0 [.list nA ([.int .i64 ((V.nth r1 0).toInt),.int .i64 ((V.nth r2 0).toInt),.int .i64 ((V.nth r3 0).toInt)]:List V)]).bind fun r4=>
 some [.int .i64 ((V.nth r4 0).toInt)]
theorem al2 {ak ay aj JV JW JX:Int} {r:Option (List V)} (h:aai CC ak ay aj JV JW JX=r):CC bE [.int .i64 ak,.int .i64 ay,.int .i64 aj,.int .i64 JV,.int .i64 JW,.int .i64 JX]=r:=
 bn (key:=32) (L:=cS) (bs:=[]) (by kernel_rfl) aw (bm (by kernel_rfl) h)
noncomputable abbrev aaj:Code:=bU Tryz.prog (az.aT 70)
noncomputable def EF (C:af) (zero:Int) (t6:List V) (t7 t8:Int) {β:Type} (kn:Int→Option β) (kr:((Int) ⊕ (Int × Bool))→Option β):Option β:=
 bif decide ((t8:Int)<t7) then
  (idx t6 t8).bind fun x1=>
  bif (x1.toInt:Int) != zero then
  kr (.inl x1.toInt)
  else
  kn (IntKind.wrap .i64 (t8+1))
 else
  kr (.inr (t8,decide ((t8:Int)<t7)))
noncomputable def uy (C:af) (zero:Int) (t6:List V) (t7:Int):(Int)→Option ((Int) ⊕ ((Int) ⊕ (Int × Bool))):=fun t8=>EF C zero t6 t7 t8 (fun y=>some (.inl y)) (fun r=>some (.inr r))
noncomputable def aak (C:af):cj:=fun β n ds k=>
 bif Nat.beq n 49 then bt NO [false,false,false,true] [[0],[1,2,3,0,0]] (@EF C) ds k else
 none
abbrev al3 (C:af) (b:cg):Prop:=ch Tryz.prog az C (aak C) 70 (cv Tryz.prog (az.aT 70)) (az.sin 70).bf.length b
theorem al4 (C:af):al3 C (.loop (aq [1,1,0,1,0,0] aaj)):=
 bw NO [false,false,false,true] [[0],[1,2,3,0,0]] (@EF C) (by kernel_rfl) (aM (bs:=[]) (by kernel_rfl) aw) (fun ds=>by kernel_rfl) (fun i x=>by kernel_rfl) (fun i x β k=>by kernel_rfl) (fun β ds k=>by kernel_rfl)
noncomputable def aal (C:af) (vals:List V):Option (List V):=
 (Loop (uy C 0 vals (vals.length:Int)) 0).bind (bD (fun (Po:Int)=>
  some [.int .i64 Po]) (un fun (fN:Int) (jJ:Bool)=>
  some [.int .i64 0]))
theorem al5 {vals:List V} {r:Option (List V)} (h:aal CC vals=r):CC H0 [.list nA vals]=r:=
 bn (key:=70) (L:=aak CC) (bs:=[.loop (aq [1,1,0,1,0,0] aaj)]) (by kernel_rfl) (aZ (al4 CC) aw) (bm (by kernel_rfl) h)
noncomputable def aam (C:af) (eH eI e9 eJ eK fa:Int):Option (List V):=
 bif (eH:Int) != eJ then
  some [.bool (decide ((eH:Int)<eJ))]
 else
  bif (eI:Int) != eK then
  some [.bool (decide ((eI:Int)<eK))]
  else
  some [.bool (decide ((e9:Int)<fa))]
theorem al6 {eH eI e9 eJ eK fa:Int} {r:Option (List V)} (h:aam CC eH eI e9 eJ eK fa=r):CC H2 [.int .i64 eH,.int .i64 eI,.int .i64 e9,.int .i64 eJ,.int .i64 eK,.int .i64 fa]=r:=
 bn (key:=77) (L:=cS) (bs:=[]) (by kernel_rfl) aw (bm (by kernel_rfl) h)
def Ab (a b:Int):Int:=if a<b then-1 else if b<a then 1 else 0
def Ac (a b:Int):Int:=if a=0 then b else a
def cD (a b:Ed):Int:=Ac (Ab a.f b.f) (Ac (Ab a.l b.l) (Ab a.t b.t))
theorem aan (a b:Ed):cD a b<0↔a.lt b:=by
 simp only[cD,Ac,Ab,Ed.lt]
 split<;>split<;>(try split)<;>(try split)<;>(try split)<;>(try split)<;>(try split)<;>omega
theorem aao (x:Int):CC yN [.int .i64 x]=some [.bool false]:=by
 refine Xs ?_
 unfold Pk
 simp
theorem RC (x y:Int):CC qV [.int .i64 x,.int .i64 y]=some [.int .i64 (Ab x y)]:=by
 refine Xr ?_
 unfold Pj
 rw[aao,aao]
 simp only[Option.bind_some,V.aD,V.cI,cond_false,ar,Ab]
 split
 ·rfl
 ·split
  ·rfl
  ·rfl
theorem al7 (a b c:Int):CC H0 [.list nA [.int .i64 a,.int .i64 b,.int .i64 c]]=some [.int .i64 (Ac a (Ac b c))]:=by
 refine al5 ?_
 unfold aal
 have st: ∀(i:Nat) (x:Int),i<3→([V.int .i64 a,.int .i64 b,.int .i64 c])[i]? =some (.int .i64 x)→
   uy CC 0 [.int .i64 a,.int .i64 b,.int .i64 c] 3 (i:Int)=some (if x=0 then .inl ((i+1:Nat):Int) else .inr (.inl x)):=by
  intro i x hi hx
  simp only[uy,EF,un,ar,yo]
  rw[ag (by omega),hx]
  simp only[Option.bind_some,V.toInt_int,kC]
  split
  ·rw[wrap64 (by omega) (by omega)]
   simp
  ·rfl
 have h0:=st 0 a (by omega) rfl
 have h1:=st 1 b (by omega) rfl
 have h2:=st 2 c (by omega) rfl
 have e:Loop (uy CC 0 [.int .i64 a,.int .i64 b,.int .i64 c] 3) 0=some (if a≠0 then .inl a else if b≠0 then .inl b else if c≠0 then .inl c else .inr (3,false)):=by
  by_cases ha:a=0
  ·rw[ag ha] at h0
   rw[br (show uy CC 0 [.int .i64 a,.int .i64 b,.int .i64 c] 3 0=_ from h0),ah (by simpa using ha)]
   by_cases hb:b=0
   ·rw[ag hb] at h1
    rw[br h1,ah (by simpa using hb)]
    by_cases hc:c=0
    ·rw[ag hc] at h2
     rw[br h2,ah (by simpa using hc)]
     refine aG ?_
     simp[uy,EF,un]
    ·rw[ah hc] at h2
     rw[aG h2,ag hc]
   ·rw[ah hb] at h1
    rw[aG h1,ag hb]
  ·rw[ah ha] at h0
   rw[aG (show uy CC 0 [.int .i64 a,.int .i64 b,.int .i64 c] 3 0=_ from h0),ag ha]
 have e':Loop (uy CC 0 [.int .i64 a,.int .i64 b,.int .i64 c] (([.int .i64 a,.int .i64 b,.int .i64 c]:List V).length:Int)) 0=_:=e
 rw[e']
 simp only[Ac]
 by_cases ha:a=0
 ·by_cases hb:b=0
  ·by_cases hc:c=0
   ·simp[ha,hb,hc,bD,un]
   ·simp[ha,hb,hc,bD,un]
  ·simp[ha,hb,bD,un]
 ·simp[ha,bD,un]
theorem iO (a b:Ed):CC bE [.int .i64 a.f,.int .i64 a.l,.int .i64 a.t,.int .i64 b.f,.int .i64 b.l,.int .i64 b.t]=some [.int .i64 (cD a b)]:=by
 refine al2 ?_
 unfold aai
 rw[RC,RC,RC]
 simp only[Option.bind_some,V.aD,V.toInt_int]
 rw[al7]
 simp[cD]
theorem al8 (a b:Ed):CC H2 [.int .i64 a.f,.int .i64 a.l,.int .i64 a.t,.int .i64 b.f,.int .i64 b.l,.int .i64 b.t]=some [.bool (decide (a.lt b))]:=by
 refine al6 ?_
 unfold aam
 simp only[kC]
 split
 ·split
  ·refine congrArg (fun b=>some [V.bool b]) ?_;rw[xg];unfold Ed.lt;omega
  ·refine congrArg (fun b=>some [V.bool b]) ?_;rw[xg];unfold Ed.lt;omega
 ·refine congrArg (fun b=>some [V.bool b]) ?_;rw[xg];unfold Ed.lt;omega
theorem aap {E:List Ed} {i:Nat} (h:i<E.length):idx (E.map Ed.enc) (i:Int)=some (E.getD i default).enc:=by
 rw[yo];simp[h]
end Go.AM
namespace Go.AM
def mem (s:Nat):List Nat:=(List.range 64).filter s.testBit
theorem mem_iff {s j:Nat} (hs:s<2^64):j∈mem s↔s.testBit j=true:=by
 unfold mem
 rw[qs,List.mem_range]
 refine ⟨fun h=>h.2,fun h=>⟨?_,h⟩⟩
 by_cases hj:j<64
 ·exact hj
 ·have:s.testBit j=false:=Nat.testBit_lt_two_pow (rD hs (Nat.pow_le_pow_right (by omega) (by omega)))
  rw[this] at h;cases h
end Go.AM
set_option maxRecDepth 100000
namespace Go.AM
open Go.Proofs
noncomputable abbrev JY:Code:=bU Tryz.prog (az.aT 39)
noncomputable def EG (C:af) (t7:List V) (t8 t9:Int) (outs:List V) (dy df cw k':Int) {β:Type} (kn:Int→Option β) (kr:(Int × Bool)→Option β):Option β:=
 bif decide ((k':Int)>0) then
  bif (decide (0≤(IntKind.wrap .i64 (k'-1))))&&(decide ((IntKind.wrap .i64 (k'-1))<(outs.length:Int))) then
  (outs[(IntKind.wrap .i64 (k'-1):Int).toNat]?).bind fun x2=>
  (C H2 [.int .i64 dy,.int .i64 df,.int .i64 cw,.int .i64 ((x2.cell 0).toInt),.int .i64 ((x2.cell 1).toInt),.int .i64 ((x2.cell 2).toInt)]).bind fun r3=>
  bif (V.nth r3 0).toBool then
   kn (IntKind.wrap .i64 (k'-1))
  else
   kr (k',(V.nth r3 0).toBool)
  else none
 else
  kr (k',false)
noncomputable def EH (C:af) (t7:List V) (t8 t9:Int) (outs:List V) (dy df cw:Int):(Int)→Option ((Int) ⊕ (Int × Bool)):=fun k'=>EG C t7 t8 t9 outs dy df cw k' (fun y=>some (.inl y)) (fun r=>some (.inr r))
noncomputable def EI (C:af) (t7:List V) (t8 t9:Int) (outs:List V) {β:Type} (kn:(Int × (List V))→Option β) (kr:(Int × Bool × (List V))→Option β):Option β:=
 bif decide ((t9:Int)<t8) then
  (idx t7 t9).bind fun x1=>
  (Loop (EH C t7 t8 t9 outs ((x1.cell 0).toInt) ((x1.cell 1).toInt) ((x1.cell 2).toInt)) (outs.length:Int)).bind (un fun (fR:Int) (kF:Bool)=>
   bif (fR:Int)==0 then
   bif (decide (0≤fR))&&(decide (fR≤(outs.length:Int))) then
    bif Nat.ble ((([]:List V).length+((outs.drop 0).take (((fR:Int).toNat)-0)).length)*24) b8 then
    bif Nat.ble (((([]:List V)++((outs.drop 0).take (((fR:Int).toNat)-0))).length+([.agg [.int .i64 ((x1.cell 0).toInt),.int .i64 ((x1.cell 1).toInt),.int .i64 ((x1.cell 2).toInt)]]:List V).length)*24) b8 then
     bif (decide (0≤fR))&&(decide (fR≤(outs.length:Int))) then
     bif Nat.ble ((((([]:List V)++((outs.drop 0).take (((fR:Int).toNat)-0)))++([.agg [.int .i64 ((x1.cell 0).toInt),.int .i64 ((x1.cell 1).toInt),.int .i64 ((x1.cell 2).toInt)]]:List V)).length+((outs.drop ((fR:Int).toNat)).take (outs.length-((fR:Int).toNat))).length)*24) b8 then
      kn (IntKind.wrap .i64 (t9+1),((([]:List V)++((outs.drop 0).take (((fR:Int).toNat)-0)))++([.agg [.int .i64 ((x1.cell 0).toInt),.int .i64 ((x1.cell 1).toInt),.int .i64 ((x1.cell 2).toInt)]]:List V))++((outs.drop ((fR:Int).toNat)).take (outs.length-((fR:Int).toNat))))
     else none
     else none
    else none
    else none
   else none
   else
   bif (decide (0≤(IntKind.wrap .i64 (fR-1))))&&(decide ((IntKind.wrap .i64 (fR-1))<(outs.length:Int))) then
    (outs[(IntKind.wrap .i64 (fR-1):Int).toNat]?).bind fun x6=>
    bif !(((((x6.cell 0).toInt):Int)==((x1.cell 0).toInt))&&(((((x6.cell 1).toInt):Int)==((x1.cell 1).toInt))&&(((((x6.cell 2).toInt):Int)==((x1.cell 2).toInt))&&true))) then
    bif (decide (0≤fR))&&(decide (fR≤(outs.length:Int))) then
     bif Nat.ble ((([]:List V).length+((outs.drop 0).take (((fR:Int).toNat)-0)).length)*24) b8 then
     bif Nat.ble (((([]:List V)++((outs.drop 0).take (((fR:Int).toNat)-0))).length+([.agg [.int .i64 ((x1.cell 0).toInt),.int .i64 ((x1.cell 1).toInt),.int .i64 ((x1.cell 2).toInt)]]:List V).length)*24) b8 then
      bif (decide (0≤fR))&&(decide (fR≤(outs.length:Int))) then
      bif Nat.ble ((((([]:List V)++((outs.drop 0).take (((fR:Int).toNat)-0)))++([.agg [.int .i64 ((x1.cell 0).toInt),.int .i64 ((x1.cell 1).toInt),.int .i64 ((x1.cell 2).toInt)]]:List V)).length+((outs.drop ((fR:Int).toNat)).take (outs.length-((fR:Int).toNat))).length)*24) b8 then
       kn (IntKind.wrap .i64 (t9+1),((([]:List V)++((outs.drop 0).take (((fR:Int).toNat)-0)))++([.agg [.int .i64 ((x1.cell 0).toInt),.int .i64 ((x1.cell 1).toInt),.int .i64 ((x1.cell 2).toInt)]]:List V))++((outs.drop ((fR:Int).toNat)).take (outs.length-((fR:Int).toNat))))
      else none
      else none
     else none
     else none
    else none
    else
    kn (IntKind.wrap .i64 (t9+1),outs)
   else none)
 else
  kr (t9,decide ((t9:Int)<t8),outs)
noncomputable def EJ (C:af) (t7:List V) (t8:Int):(Int × (List V))→Option ((Int × (List V)) ⊕ (Int × Bool × (List V))):=un fun t9 outs=>EI C t7 t8 t9 outs (fun y=>some (.inl y)) (fun r=>some (.inr r))
noncomputable def aaq (C:af):cj:=fun β n ds k=>
 bif Nat.beq n 97 then bt NB [true,false,false,false,false,false,false,false] [[0,2,3,4,0,5,6,7,8]] (@EG C) ds k else
 bif Nat.beq n 49 then bt NC [false,false,true,true] [[1,2,0,0,0]] (@EI C) ds k else
 none
abbrev aar (C:af) (b:cg):Prop:=ch Tryz.prog az C (aaq C) 39 (cv Tryz.prog (az.aT 39)) (az.sin 39).bf.length b
theorem al9 (C:af):aar C (.loop (aq [1,1,0,1,0,0,1,1,0,0,1,1,0,0,0] JY)):=
 bw NB [true,false,false,false,false,false,false,false] [[0,2,3,4,0,5,6,7,8]] (@EG C) (by kernel_rfl) (aM (bs:=[]) (by kernel_rfl) aw) (fun ds=>by kernel_rfl) (fun i x=>by kernel_rfl) (fun i x β k=>by kernel_rfl) (fun β ds k=>by kernel_rfl)
theorem ama (C:af):aar C (.loop (aq [1,1,0,1,0,0] JY)):=
 bw NC [false,false,true,true] [[1,2,0,0,0]] (@EI C) (by kernel_rfl) (aM (bs:=[.loop (aq [1,1,0,1,0,0,1,1,0,0,1,1,0,0,0] JY)]) (by kernel_rfl) (aZ (al9 C) aw)) (fun ds=>by kernel_rfl) (fun i x=>by kernel_rfl) (fun i x β k=>by kernel_rfl) (fun β ds k=>by kernel_rfl)
noncomputable def aas (C:af) (l:List V):Option (List V):=
 (Loop (EJ C l (l.length:Int)) (0,([]:List V))).bind (un fun (sC:Int)=>un fun (CP:Bool) (amb:List V)=>
  some [.list aS amb])
theorem amc {l:List V} {r:Option (List V)} (h:aas CC l=r):CC HX [.list aS l]=r:=
 bn (key:=39) (L:=aaq CC) (bs:=[.loop (aq [1,1,0,1,0,0] JY)]) (by kernel_rfl) (aZ (ama CC) aw) (bm (by kernel_rfl) h)
end Go.AM
set_option maxRecDepth 100000
set_option maxHeartbeats 1000000
namespace Go.AM
open Go.Proofs
theorem Ed.lt_irrefl (a:Ed): ¬a.lt a:=by unfold Ed.lt;omega
theorem Ed.lt_trans {a b c:Ed}:a.lt b→b.lt c→a.lt c:=by unfold Ed.lt;omega
theorem Ed.lt_asymm {a b:Ed}:a.lt b→¬b.lt a:=by unfold Ed.lt;omega
theorem Ed.aat {a b:Ed} (h1: ¬a.lt b) (h2: ¬b.lt a):a=b:=by
 cases a;cases b
 simp only[Ed.lt,Ed.mk.injEq] at*
 omega
abbrev sW (E:List Ed):Prop:=E.Pairwise Ed.lt
def Ed.key (e:Ed):Nat:=(e.f.toNat*6+e.l.toNat)*64+e.t.toNat
theorem aau: ∀{A B:List Ed},sW A→sW B→(∀x,x∈A↔x∈B)→A=B
 | [],[],_,_,_=>rfl
 | [],b::B,_,_,h=>by have:=(h b).2 (by simp);cases this
 | a::A,[],_,_,h=>by have:=(h a).1 (by simp);cases this
 | a::A,b::B,hA,hB,h=>by
  have a1:=qo.1 hA
  have b1:=qo.1 hB
  have dq:a=b:=by
   have ha:=(h a).1 (by simp)
   have hb:=(h b).2 (by simp)
   rcases cH.1 ha with e|e
   ·exact e
   ·rcases cH.1 hb with e'|e'
    ·exact e'.symm
    ·exact absurd (a1.1 b e') (Ed.lt_asymm (b1.1 a e))
  subst dq
  rw[aau a1.2 b1.2 fun x=> ?_]
  constructor
  ·intro hx
   rcases cH.1 ((h x).1 (by simp[hx])) with e|e
   ·subst e;exact absurd (a1.1 x hx) (Ed.lt_irrefl x)
   ·exact e
  ·intro hx
   rcases cH.1 ((h x).2 (by simp[hx])) with e|e
   ·subst e;exact absurd (b1.1 x hx) (Ed.lt_irrefl x)
   ·exact e
theorem amd {R l:List Ed} (hp:R.Perm l) (hn:l.Nodup) (hs:R.Pairwise (fun x y=> ¬y.lt x)):sW R:=by
 have BN:R.Nodup:=hp.nodup_iff.2 hn
 refine List.Pairwise.imp₂ (fun a b h1 h2=> ?_) hs BN
 by_cases h:a.lt b
 ·exact h
 ·exact absurd (Ed.aat h h1) h2
def jr (out:List Ed) (e:Ed):Nat→Nat
 | 0=>0
 | k+1=>if e.lt (out.getD k default) then jr out e k else k+1
def mQ (out:List Ed) (e:Ed):List Ed:=
 if jr out e out.length=0∨¬out.getD (jr out e out.length-1) default=e then out.take (jr out e out.length)++[e]++out.drop (jr out e out.length) else out
def sX (l:List Ed):List Ed:=l.foldl mQ []
theorem EK (out:List Ed) (e:Ed): ∀k,jr out e k≤k
 | 0=>bN _
 | k+1=>by unfold jr;split;exact Nat.le_succ_of_le (EK out e k);exact bN _
theorem aav (out:List Ed) (e:Ed): ∀k i,jr out e k≤i→i<k→e.lt (out.getD i default)
 | 0,i,_,h=>by omega
 | k+1,i,h1,h2=>by
  unfold jr at h1
  split at h1
  ·rename_i h3
   by_cases hi:i=k
   ·subst hi;exact h3
   ·exact aav out e k i h1 (by omega)
  ·omega
theorem aaw (out:List Ed) (e:Ed): ∀k,jr out e k≠0→¬e.lt (out.getD (jr out e k-1) default)
 | 0,h=>by simp[jr] at h
 | k+1,h=>by
  unfold jr at h⊢
  split
  ·rename_i h3
   rw[ag h3] at h
   exact aaw out e k h
  ·rename_i h3
   simpa using h3
theorem ame {out:List Ed} {e x:Ed} (hk:jr out e out.length≤out.length):x∈mQ out e↔x=e∨x∈out:=by
 unfold mQ
 split
 ·rename_i h
  have:=FK (jr out e out.length) out
  constructor
  ·intro hx
   simp only[dj,cZ,cV] at hx
   rcases hx with hx|hx|hx
   ·exact .inr (List.mem_of_mem_take hx)
   ·exact .inl hx
   ·exact .inr (List.mem_of_mem_drop hx)
  ·rintro (rfl|hx)
   ·simp
   ·rw[←this] at hx
    simp only[cZ] at hx
    simp only[dj,cZ,cV]
    rcases hx with hx|hx
    ·exact .inl hx
    ·exact .inr (.inr hx)
 ·rename_i h
  simp only[not_or,FO] at h
  constructor
  ·exact .inr
  ·rintro (rfl|hx)
   ·have h1:=h.2
    have h2:jr out x out.length-1<out.length:=by omega
    rw[←h1]
    simp[h2]
   ·exact hx
theorem amf {out:List Ed} {e:Ed} (h:sW out):sW (mQ out e):=by
 have hk:=EK out e out.length
 have up:=aav out e out.length
 have dn:=aaw out e out.length
 unfold mQ
 generalize hq:jr out e out.length=k at*
 split
 ·rename_i hc
  have g:=xd.1 h
  have iH: ∀x∈out.take k,x.lt e:=by
   intro x hx
   obtain ⟨i,hi,rfl⟩:=FP hx
   have dQ:i<k:=by rw[dV] at hi;omega
   have oJ:i<out.length:=by omega
   rw[List.getElem_take]
   have oX:k≠0:=by omega
   have h1:=dn oX
   have h2: ¬out.getD (k-1) default=e:=by
    rcases hc with hc|hc
    ·exact absurd hc oX
    ·exact hc
   have ku:k-1<out.length:=by omega
   have e1:out.getD (k-1) default=out[k-1]:=by simp[ku]
   rw[e1] at h1 h2
   have h3:out[k-1].lt e:=by
    by_cases h4:out[k-1].lt e
    ·exact h4
    ·exact absurd (Ed.aat h4 h1) h2
   by_cases Pr:i=k-1
   ·subst Pr;exact h3
   ·exact Ed.lt_trans (g i (k-1) oJ ku (by omega)) h3
  have gZ: ∀y∈out.drop k,e.lt y:=by
   intro y hy
   obtain ⟨i,hi,rfl⟩:=FP hy
   rw[jT] at hi
   rw[List.getElem_drop]
   have:=up (k+i) (by omega) (by omega)
   have e1:out.getD (k+i) default=out[k+i]:=by simp[show k+i<out.length by omega]
   rwa [e1] at this
  rw[sW,dj,FL]
  refine ⟨h.sublist (List.take_sublist _ _),?_,?_⟩
  ·rw[List.singleton_append,qo]
   exact ⟨gZ,h.sublist (List.drop_sublist _ _)⟩
  ·intro x hx y hy
   rw[List.singleton_append,cH] at hy
   rcases hy with rfl|hy
   ·exact iH x hx
   ·exact Ed.lt_trans (iH x hx) (gZ y hy)
 ·exact h
theorem RD: ∀(l out:List Ed),sW out→sW (l.foldl mQ out)∧∀x,x∈l.foldl mQ out↔x∈l∨x∈out
 | [],out,h=>⟨h,by simp⟩
 | e::l,out,h=>by
  obtain ⟨h1,h2⟩:=RD l (mQ out e) (amf h)
  refine ⟨h1,fun x=> ?_⟩
  rw[List.foldl_cons,h2,ame (EK _ _ _)]
  simp only[cH]
  constructor
  ·rintro (h|h|h)
   ·exact .inl (.inr h)
   ·exact .inl (.inl h)
   ·exact .inr h
  ·rintro ((h|h)|h)
   ·exact .inr (.inl h)
   ·exact .inl h
   ·exact .inr (.inr h)
theorem amg (l:List Ed):sW (sX l):=(RD l [] List.Pairwise.nil).1
theorem amh {l:List Ed} {x:Ed}:x∈sX l↔x∈l:=by
 have:=(RD l [] List.Pairwise.nil).2 x
 simpa[sX] using this
theorem aax (out:List Ed) (e:Ed):(mQ out e).length≤out.length+1:=by
 unfold mQ
 have:=EK out e out.length
 split
 ·simp only[bO,dV,jT,List.length_cons,List.length_nil];omega
 ·omega
theorem aay {out:List Ed} {e:Ed} {t7:List V} {t8 t9:Int}: ∀k,k≤out.length→out.length<1152921504606846976→∃t,Loop (EH CC t7 t8 t9 (out.map Ed.enc) e.f e.l e.t) (k:Int)=some (((jr out e k:Nat):Int),t)
 | 0,_,_=>⟨false,aG (by
   simp (disch:=omega) only[EH,EG,ar,ah]
   rfl)⟩
 | k+1,hk,hs=>by
  obtain ⟨t,ih⟩:=aay (out:=out) (e:=e) (t7:=t7) (t8:=t8) (t9:=t9) k (by omega) hs
  have e1:EH CC t7 t8 t9 (out.map Ed.enc) e.f e.l e.t ((k+1:Nat):Int)=bif decide (e.lt (out.getD k default)) then some (.inl (k:Int)) else some (.inr (((k+1:Nat):Int),decide (e.lt (out.getD k default)))):=by
   simp only[EH,EG]
   rw[ar,ag (by omega),lU,wrap64 (by omega) (by omega),bK,ar,ag (by omega),ar,ag (by rw[aC];omega),Int.toNat_natCast]
   have hg:(out.map Ed.enc)[k]? =some (out.getD k default).enc:=by
    rw[hY,bZ (by omega)];simp[show k<out.length by omega]
   rw[hg]
   simp only[Option.bind_some,Ed.aH,Ed.aN,Ed.aK,al8,V.aD,V.cI]
  unfold jr
  by_cases h:e.lt (out.getD k default)
  ·rw[ag h]
   rw[dC h,cond_true] at e1
   exact ⟨t,(br e1).trans ih⟩
  ·rw[ah h]
   rw[cL h,cond_false] at e1
   exact ⟨_,aG e1⟩
theorem aaz (a b:Ed):((a.f==b.f)&&((a.l==b.l)&&((a.t==b.t)&&true)))=decide (a=b):=by
 cases a;cases b
 rw[te]
 simp
theorem ami (out:List Ed) (k:Nat) (e:Ed):((([]:List V)++(((out.map Ed.enc).drop 0).take (k-0)))++([e.enc]:List V))++(((out.map Ed.enc).drop k).take ((out.map Ed.enc).length-k))=(out.take k++[e]++out.drop k).map Ed.enc:=by
 simp
 rw[uI (by simp)]
theorem amj {l:List Ed} (hl:l.length≤1000000000):CC HX [.list aS (l.map Ed.enc)]=some [.list aS ((sX l).map Ed.enc)]:=by
 refine amc ?_
 unfold aas
 have:=agb (step:=EJ CC (l.map Ed.enc) ((l.map Ed.enc).length:Int)) l (fun i (out:List Ed)=>((i:Int),out.map Ed.enc)) mQ (fun out=>((l.length:Int),false,out.map Ed.enc)) (fun i out=>out.length≤i) ?_ ?_ [] (bN _)
 ·rw[show Loop (EJ CC (l.map Ed.enc) ((l.map Ed.enc).length:Int)) (0,([]:List V))=_ from this.1]
  rfl
 ·intro i out hi ho
  refine ⟨?_,lA (aax _ _) (by omega)⟩
  obtain ⟨t,h1⟩:=aay (out:=out) (e:=l[i]) (t7:=l.map Ed.enc) (t8:=((l.map Ed.enc).length:Int)) (t9:=(i:Int)) out.length (bN _) (by omega)
  have hk:=EK out l[i] out.length
  simp only[EJ,EI,un]
  rw[ar,ag (by rw[aC];omega),aap hi,show l.getD i default=l[i] by simp[hi]]
  simp only[Option.bind_some,Ed.aH,Ed.aN,Ed.aK]
  rw[show ((out.map Ed.enc).length:Int)=((out.length:Nat):Int) by simp,h1]
  simp only[Option.bind_some,un,Ed.re]
  unfold mQ
  generalize jr out l[i] out.length=k at*
  have aaA: ∀X:Option (((Int × List V)) ⊕ (Int × Bool × List V)),X=some (.inl (IntKind.wrap .i64 ((i:Int)+1),((([]:List V)++(((out.map Ed.enc).drop 0).take (((k:Int).toNat)-0)))++([l[i].enc]:List V))++(((out.map Ed.enc).drop ((k:Int).toNat)).take ((out.map Ed.enc).length-((k:Int).toNat)))))→
    X=some (.inl (((i+1:Nat):Int),(out.take k++[l[i]]++out.drop k).map Ed.enc)):=by
   intro X hX
   rw[hX,Int.toNat_natCast,ami,bW,wrap64 (by omega) (by omega)]
  have lens:(([]:List V).length+(((out.map Ed.enc).drop 0).take (((k:Int).toNat)-0)).length)*24≤b8∧
    ((([]:List V)++(((out.map Ed.enc).drop 0).take (((k:Int).toNat)-0))).length+([l[i].enc]:List V).length)*24≤b8∧
    (((([]:List V)++(((out.map Ed.enc).drop 0).take (((k:Int).toNat)-0)))++([l[i].enc]:List V)).length+(((out.map Ed.enc).drop ((k:Int).toNat)).take ((out.map Ed.enc).length-((k:Int).toNat))).length)*24≤b8:=by
   rw[iW]
   simp only[Int.toNat_natCast,bO,dV,jT,aC,List.length_nil,List.length_cons]
   omega
  by_cases oX:k=0
  ·rw[ag (Or.inl oX),cq,ag (by omega)]
   refine aaA _ ?_
   rw[bK,ar,ag (by omega),ar,ag (by omega),sq,ag lens.1,sq,ag lens.2.1,bK,ar,ag (by omega),ar,ag (by omega),sq,ag lens.2.2]
  ·rw[cq,ah (by omega),eS (by omega),wrap64 (x:=((k-1:Nat):Int)) (by omega) (by omega),bK,ar,ag (by omega),ar,ag (by omega),Int.toNat_natCast]
   have hg:(out.map Ed.enc)[k-1]? =some (out.getD (k-1) default).enc:=by
    rw[hY,bZ (by omega)];simp[show k-1<out.length by omega]
   rw[hg]
   simp only[Option.bind_some,Ed.aH,Ed.aN,Ed.aK,aaz]
   by_cases hc:out.getD (k-1) default=l[i]
   ·rw[ah (fun hx=>hx.elim oX (fun h=>h hc)),dC hc]
    simp only[oj,cond_false]
    rw[bW,wrap64 (by omega) (by omega)]
   ·rw[ag (Or.inr hc),cL hc]
    simp only[qq,cond_true]
    refine aaA _ ?_
    rw[bK,ar,ag (by omega),ar,ag (by omega),sq,ag lens.1,sq,ag lens.2.1,bK,ar,ag (by omega),ar,ag (by omega),sq,ag lens.2.2]
 ·intro out ho
  simp only[EJ,EI,un]
  rw[aC,ke (by omega),cond_false]
end Go.AM
set_option maxRecDepth 100000
namespace Go.AM
open Go.Proofs Ex
def eg (S:List Ex) (d:Ex):List Ex:=if d∈S then S else S++[d]
def dr (S L:List Ex):List Ex:=L.foldl eg S
def dU (e:Ex) (S:List Ex) (xs:List Nat):List Ex:=xs.foldl (fun S (x:Nat)=>dr S (bJ (pX (x:Int) e))) S
def run (n:Nat):Nat→Nat→List Ex→List Ex
 | 0,_,S=>S
 | f+1,i,S=>if i<S.length then run n f (i+1) (dU (S.getD i aQ) S (List.range' 0 n)) else S
def hG (S:List Ex) (i x:Nat) (L:List Ex):List Ed:=L.map fun d=>⟨(i:Int),(x:Int),((S.idxOf d:Nat):Int)⟩
def gP (S:List Ex) (i:Nat) (e:Ex) (xs:List Nat):List Ed:=xs.flatMap fun x=>hG S i x (bJ (pX (x:Int) e))
def nX (n:Nat) (S:List Ex) (is:List Nat):List Ed:=is.flatMap fun i=>gP S i (S.getD i aQ) (List.range' 0 n)
def fF (S:List Ex):Nat→Nat
 | 0=>0
 | i+1=>if (S.getD i aQ).dJ=true then fF S i|||2^i else fF S i
theorem RE (S:List Ex): ∀i,fF S i<2^i
 | 0=>by simp[fF]
 | i+1=>by
  have h:=RE S i
  have e:2^i<2^(i+1):=FN (by omega) (by omega)
  rw[fF]
  split
  ·exact Nat.or_lt_two_pow (by omega) e
  ·omega
theorem amk (S:List Ex) (d:Ex): ∃T,eg S d=S++T:=by
 unfold eg;split
 ·exact ⟨[],by simp⟩
 ·exact ⟨[d],rfl⟩
theorem Ad: ∀(L S:List Ex),∃T,dr S L=S++T
 | [],S=>⟨[],by simp[dr]⟩
 | d::L,S=>by
  obtain ⟨T,h⟩:=amk S d
  obtain ⟨T2,h2⟩:=Ad L (eg S d)
  exact ⟨T++T2,by show dr (eg S d) L=_;rw[h2,h,dj]⟩
theorem uz (e:Ex): ∀(xs:List Nat) (S:List Ex),∃T,dU e S xs=S++T
 | [],S=>⟨[],by simp[dU]⟩
 | x::xs,S=>by
  obtain ⟨T,h⟩:=Ad (bJ (pX (x:Int) e)) S
  obtain ⟨T2,h2⟩:=uz e xs (dr S (bJ (pX (x:Int) e)))
  exact ⟨T++T2,by show dU e (dr S (bJ (pX (x:Int) e))) xs=_;rw[h2,h,dj]⟩
theorem JZ {n:Nat}: ∀(f i:Nat) (S:List Ex),∃T,run n f i S=S++T
 | 0,i,S=>⟨[],by simp[run]⟩
 | f+1,i,S=>by
  rw[run]
  split
  ·obtain ⟨T,h⟩:=uz (S.getD i aQ) (List.range' 0 n) S
   obtain ⟨T2,h2⟩:=JZ f (i+1) (dU (S.getD i aQ) S (List.range' 0 n))
   exact ⟨T++T2,by rw[h2,h,dj]⟩
  ·exact ⟨[],by simp⟩
theorem RF {S:List Ex} {d x:Ex}:x∈eg S d↔x∈S∨x=d:=by
 unfold eg;split
 ·rename_i h;exact ⟨.inl,fun g=>g.elim id fun e=>e▸h⟩
 ·simp
theorem J0 {x:Ex}: ∀{L S:List Ex},x∈dr S L↔x∈S∨x∈L
 | [],S=>by simp[dr]
 | d::L,S=>by
  show x∈dr (eg S d) L↔_
  rw[J0,RF,cH,or_assoc]
theorem J1 {S T:List Ex} {d:Ex} (h:d∈S):(S++T).idxOf d=S.idxOf d:=by
 rw[AR,ag h]
theorem aml {S:List Ex} {d:Ex} (h:d∈S):S.idxOf d<S.length:=List.idxOf_lt_length_iff.2 h
theorem aaB {S:List Ex} {d:Ex} (h:d∈S):S.getD (S.idxOf d) aQ=d:=by
 have:=aml h
 simp[this]
theorem sY {S T:List Ex} {i:Nat} (h:i<S.length):(S++T).getD i aQ=S.getD i aQ:=by
 simp[List.getElem?_append,h]
theorem RG {S T L:List Ex} {i x:Nat} (h: ∀d∈L,d∈S):hG (S++T) i x L=hG S i x L:=by
 unfold hG
 exact qm fun d hd=>by rw[J1 (h d hd)]
theorem RH {S T:List Ex}: ∀{i:Nat},i≤S.length→fF (S++T) i=fF S i
 | 0,_=>rfl
 | i+1,h=>by rw[fF,fF,sY (by omega),RH (by omega)]
structure nY (U:List Ex):Prop where
 g: ∀e∈U,Gn e∨e=fk
 s: ∀e∈U,e.size≤859
 c: ∀e∈U,∀c:Int,∀x∈pX c e,x∈U
 n:U.length≤60
structure eL (U S:List Ex):Prop where
 d:S.Nodup
 u: ∀e∈S,e∈U
theorem RI: ∀{S U:List Ex},S.Nodup→(∀e∈S,e∈U)→S.length≤U.length
 | [],_,_,_=>jS _
 | x::S,U,h1,h2=>by
  have hx:x∈U:=h2 x (by simp)
  have h3:=qp.1 h1
  have ih:=RI (S:=S) (U:=U.erase x) h3.2 fun y hy=>(List.mem_erase_of_ne (fun e=>h3.1 (by rw[←e];exact hy))).2 (h2 y (by simp[hy]))
  rw[List.length_erase_of_mem hx] at ih
  have:0<U.length:=List.length_pos_of_mem hx
  rw[List.length_cons];omega
theorem eL.len {U S:List Ex} (hU:nY U) (h:eL U S):S.length≤60:=by have:=RI h.d h.u;have:=hU.n;omega
theorem eL.eg {U S:List Ex} {d:Ex} (h:eL U S) (hd:d∈U):eL U (eg S d):=by
 unfold Go.AM.eg
 split
 ·exact h
 ·rename_i hn
  refine ⟨uG.2 ⟨h.d,by simp,fun a ha b hb e=> ?_⟩,fun x hx=> ?_⟩
  ·rw[cV.1 hb] at e;exact hn (e▸ha)
  ·rcases cZ.1 hx with hx|hx
   ·exact h.u x hx
   ·rw[cV.1 hx];exact hd
theorem eL.dr {U:List Ex}: ∀{L S:List Ex},eL U S→(∀d∈L,d∈U)→eL U (dr S L)
 | [],S,h,_=>h
 | d::L,S,h,hd=>eL.dr (L:=L) (S:=Go.AM.eg S d) (h.eg (hd d (by simp))) fun x hx=>hd x (by simp[hx])
theorem Ae {U:List Ex} (hU:nY U) {e:Ex} (he:e∈U) {c:Int}: ∀d∈bJ (pX c e),d∈U:=fun d hd=>hU.c e he c d (nU.1 hd).1
theorem eL.dU {U:List Ex} (hU:nY U) {e:Ex} (he:e∈U): ∀{xs:List Nat} {S:List Ex},eL U S→eL U (dU e S xs)
 | [],_,h=>h
 | x::xs,S,h=>eL.dU hU he (xs:=xs) (S:=Go.AM.dr S (bJ (pX (x:Int) e))) (h.dr (Ae hU he (c:=(x:Int))))
theorem eL.run {U:List Ex} (hU:nY U) {n:Nat}: ∀{f i:Nat} {S:List Ex},eL U S→eL U (run n f i S)
 | 0,_,_,h=>h
 | f+1,i,S,h=>by
  rw[Go.AM.run]
  split
  ·rename_i hi
   refine eL.run hU (h.dU hU (h.u _ ?_))
   rw[show S.getD i aQ=S[i] by simp[hi]]
   exact tf hi
  ·exact h
theorem Af {U:List Ex} (hU:nY U) {e:Ex} (he:e∈U):e.Ok:=by
 rcases hU.g e he with h|rfl
 ·exact qf h (by have:=hU.s e he;omega)
 ·exact .node (by omega) (by omega) (by simp) (by simp)
theorem RJ {c:Int}:pX c fk=[]:=by unfold fk;rw[lT];rfl
theorem amm {U:List Ex} (hU:nY U) {e:Ex} (he:e∈U) {c:Int}:(pX c e).length≤1000000∧∀k∈pX c e,k.Ok:=by
 have h1:=ue (c:=c) e
 have h2:=hU.s e he
 exact ⟨by omega,fun k hk=>Af hU (hU.c e he c k hk)⟩
theorem RK {U:List Ex} (hU:nY U) {e:Ex} (he:e∈U) {c:Int}:(bJ (pX c e)).length≤60:=by
 have h:(bJ (pX c e)).Nodup:=List.Pairwise.imp (fun h e=>by subst e;exact Ex.IS _ h) z8
 have:=RI h (Ae hU he)
 have:=hU.n
 omega
end Go.AM
set_option maxRecDepth 100000
namespace Go.AM
open Go.Proofs
noncomputable abbrev aaC:Code:=bU Tryz.prog (az.aT 71)
noncomputable def EL (C:af) (op:Int) (t12:List V) (t13 t14:Int) {β:Type} (kn:Int→Option β) (kr:((Bool) ⊕ (Int × Bool))→Option β):Option β:=
 bif decide ((t14:Int)<t13) then
  (idx t12 t14).bind fun x1=>
  (C yH [.int .i64 ((x1.cell 0).toInt),.int .i64 ((x1.cell 1).toInt),.list ab ((x1.cell 2).toList),.int .i64 op]).bind fun r2=>
  bif (V.nth r2 0).toBool then
  kr (.inl true)
  else
  kn (IntKind.wrap .i64 (t14+1))
 else
  kr (.inr (t14,decide ((t14:Int)<t13)))
noncomputable def J2 (C:af) (op:Int) (t12:List V) (t13:Int):(Int)→Option ((Int) ⊕ ((Bool) ⊕ (Int × Bool))):=fun t14=>EL C op t12 t13 t14 (fun y=>some (.inl y)) (fun r=>some (.inr r))
noncomputable def aaD (C:af):cj:=fun β n ds k=>
 bif Nat.beq n 65 then bt NP [false,false,false,true] [[0],[1,2,3,0,0]] (@EL C) ds k else
 none
abbrev amn (C:af) (b:cg):Prop:=ch Tryz.prog az C (aaD C) 71 (cv Tryz.prog (az.aT 71)) (az.sin 71).bf.length b
theorem amo (C:af):amn C (.loop (aq [1,1,0,1,0,0] aaC)):=
 bw NP [false,false,false,true] [[0],[1,2,3,0,0]] (@EL C) (by kernel_rfl) (aM (bs:=[]) (by kernel_rfl) aw) (fun ds=>by kernel_rfl) (fun i x=>by kernel_rfl) (fun i x β k=>by kernel_rfl) (fun β ds k=>by kernel_rfl)
noncomputable def aaE (C:af) (ak ay:Int) (aj:List V) (op:Int):Option (List V):=
 bif (ak:Int)==op then
  some [.bool true]
 else
  (Loop (J2 C op aj (aj.length:Int)) 0).bind (bD (fun (fN:Bool)=>
   some [.bool fN]) (un fun (jJ:Int) (kF:Bool)=>
   some [.bool false]))
theorem amp {ak ay:Int} {aj:List V} {op:Int} {r:Option (List V)} (h:aaE CC ak ay aj op=r):CC yH [.int .i64 ak,.int .i64 ay,.list ab aj,.int .i64 op]=r:=
 bn (key:=71) (L:=aaD CC) (bs:=[.loop (aq [1,1,0,1,0,0] aaC)]) (by kernel_rfl) (aZ (amo CC) aw) (bm (by kernel_rfl) h)
end Go.AM
set_option maxRecDepth 100000
namespace Go.AM
open Go.Proofs Ex
mutual
def Ex.mb (op:Int):Ex→Bool
 | .node o _ ks=>decide (o=op)||EM op ks
def Ex.EM (op:Int):List Ex→Bool
 | []=>false
 | k::ks=>mb op k||EM op ks
end
theorem RL (op:Int): ∀ks,EM op ks=ks.any (mb op)
 | []=>by simp[EM]
 | k::ks=>by simp[EM,RL op ks]
theorem aaF {op:Int}: ∀e:Ex,e.Ok→CC yH (ct e [.int .i64 op])=some [.bool (e.mb op)]:=
 ind fun o l ks ih ax=>by
  have:=oU
  have hlen:=ax.len
  refine amp ?_
  unfold aaE
  simp only[Ex.op,Ex.letter,Ex.kids,cq,mb,RL]
  by_cases ho:o=op
  ·simp[ho]
  ·rw[ah ho]
   have hl:=IU (step:=J2 CC op (ks.map enc) ((ks.map enc).length:Int)) (ks:=ks) (fun i=>(i:Int)) (Ex.mb op) (fun _=> .inl true) (.inr (((ks.length:Nat):Int),false))
    (fun pre k aA bd=>by
     have bM:pre.length<ks.length:=by rw[bd];simp
     have hm:k∈ks:=by rw[bd];simp
     simp only[J2,EL,aC,ar]
     rw[ag (by omega),show idx (ks.map enc) (pre.length:Int)=some k.enc by rw[bd];exact fq _ _ _]
     simp only[Option.bind_some,aH,aN,aK]
     rw[ih k hm (ax.lp k hm)]
     simp only[Option.bind_some,V.aD,V.cI]
     rw[wrap64 (by omega) (by omega)]
     cases k.mb op<;>simp)
    (by
     simp only[J2,EL,aC,ar]
     rw[ah (by omega)]
     simp) ks [] rfl
   simp only[List.length_nil,Int.ofNat_zero,Int.natCast_zero] at hl
   rcases hl with ⟨h1,i,h2⟩|⟨h1,h2⟩
   ·erw [h2];simp[h1,bD]
   ·erw [h2];simp[h1,bD,un,ho]
structure Gl where
 a:Nat
 z:Nat
 n:Bool
 ps:Nat
 fo:Nat→Nat
def amq (g k:Gl):Gl:=⟨g.a|||k.a,g.z|||k.z,g.n||k.n,k.ps,k.fo⟩
def mR (lo hi x:Nat):Prop:= ∀j,x.testBit j=true→lo<j∧j≤hi
theorem mR.zero {lo hi:Nat}:mR lo hi 0:=fun j h=>by simp at h
theorem mR.or {lo hi x y:Nat} (h:mR lo hi x) (h2:mR lo hi y):mR lo hi (x|||y):=fun j hj=>by
 rw[Nat.testBit_or,td] at hj
 rcases hj with hj|hj
 ·exact h j hj
 ·exact h2 j hj
theorem mR.mono {lo hi lo' dQ x:Nat} (h:mR lo hi x) (h1:lo'≤lo) (h2:hi≤dQ):mR lo' dQ x:=fun j hj=>by have:=h j hj;omega
theorem mR.lt {lo hi x:Nat} (h:mR lo hi x) (h1:hi<64):x<2^64:=by
 refine Nat.lt_of_not_le fun hx=> ?_
 obtain ⟨i,hi,hb⟩:=Nat.exists_ge_and_testBit_of_ge_two_pow hx
 have:=h i hb
 omega
structure J3 (N:Nat) (fo:Nat→Nat):Prop where
 b: ∀i,mR 0 N (fo i)
 s: ∀i,N<i→fo i=0
theorem J3.mono {N M:Nat} {fo:Nat→Nat} (h:J3 N fo) (hm:N≤M):J3 M fo:=⟨fun i=>(h.b i).mono (bN _) hm,fun i hi=>h.s i (by omega)⟩
structure J4 (lo f0:Nat) (g:Gl):Prop where
 le:lo≤g.ps
 a:mR lo g.ps g.a
 z:mR lo g.ps g.z
 fo:J3 g.ps g.fo
 f0:g.fo 0=f0
theorem J4.alt {lo f0:Nat} {g k:Gl} (h:J4 lo f0 g) (h2:J4 g.ps (g.fo 0) k):J4 lo f0 (amq g k) where
 le:=lA h.le h2.le
 a:=(h.a.mono (bN _) h2.le).or (h2.a.mono h.le (bN _))
 z:=(h.z.mono (bN _) h2.le).or (h2.z.mono h.le (bN _))
 fo:=h2.fo
 f0:=h2.f0.trans h.f0
mutual
def mc:Ex→Bool
 | .node o _ ks=>(decide (o=6)||decide (o=8))||Ag ks
def Ag:List Ex→Bool
 | []=>false
 | k::ks=>mc k||Ag ks
end
theorem EN: ∀ks,Ag ks=ks.any mc
 | []=>by simp[Ag]
 | k::ks=>by simp[Ag,EN ks]
theorem amr: ∀e:Ex,mc e=(e.mb 6||e.mb 8):=ind fun o l ks ih=>by
 simp only[mc,mb,EN,RL]
 have:ks.any mc=(ks.any (mb 6)||ks.any (mb 8)):=by
  rw[te,td,mh,mh,mh]
  constructor
  ·rintro ⟨k,h1,h2⟩
   rw[ih k h1,td] at h2
   rcases h2 with h2|h2
   ·exact .inl ⟨k,h1,h2⟩
   ·exact .inr ⟨k,h1,h2⟩
  ·rintro (⟨k,h1,h2⟩|⟨k,h1,h2⟩)
   ·exact ⟨k,h1,by rw[ih k h1,h2];rfl⟩
   ·exact ⟨k,h1,by rw[ih k h1,h2];simp⟩
 rw[this]
 cases decide (o=6)<;>cases decide (o=8)<;>cases ks.any (mb 6)<;>cases ks.any (mb 8)<;>rfl
theorem aaG {letters:Int}: ∀{ks:List Ex},iu letters ks=true→∀k∈ks,k.wf letters=true
 | [],_,k,h=>by simp at h
 | a::ks,h,k,hk=>by
  simp only[iu,aU] at h
  rcases cH.1 hk with rfl|hk
  ·exact h.1
  ·exact aaG h.2 k hk
def Pl (letters:Int) (e:Ex):Prop:=e.wf letters=true∧mc e=false
theorem Pl.lp {letters o l:Int} {ks:List Ex} (h:Pl letters (.node o l ks)): ∀k∈ks,Pl letters k:=fun k hk=>by
 obtain ⟨h1,h2⟩:=h
 simp only[wf,aU] at h1
 simp only[mc,EN,Bool.or_eq_false_iff] at h2
 exact ⟨aaG h1.2 k hk,by
  have:=h2.2
  rw[List.any_eq_false] at this
  simpa using this k hk⟩
theorem Pl.shape {letters o l:Int} {ks:List Ex} (h:Pl letters (.node o l ks)):((o=1∨o=2)∧ks=[])∨(o=3∧ks=[]∧0≤l∧l<letters)∨(o=7∧∃k,ks=[k])∨(o=4∨o=5):=by
 obtain ⟨h1,h2⟩:=h
 simp only[wf,aU] at h1
 simp only[mc,Bool.or_eq_false_iff,decide_eq_false_iff_not] at h2
 have hs:=h1.1
 unfold iq at hs
 by_cases h3:o=3
 ·rw[ag h3] at hs
  obtain ⟨a,b,c⟩:=ly hs
  exact .inr (.inl ⟨h3,uJ.1 (by omega),b,c⟩)
 rw[ah h3] at hs
 simp only[aU] at hs
 obtain ⟨_,hs⟩:=hs
 by_cases D2:o=1∨o=2
 ·rw[ag D2] at hs
  have:=ly hs
  exact .inl ⟨D2,uJ.1 (by omega)⟩
 rw[ah D2] at hs
 by_cases h78:o=7∨o=8
 ·rw[ag h78] at hs
  have hs:=ly hs
  refine .inr (.inr (.inl ⟨by omega,?_⟩))
  match ks,hs with
  | [k],_=>exact ⟨k,rfl⟩
  | [],h=>simp at h
  | _::_::_,h=>simp at h;omega
 ·rw[ah h78] at hs
  obtain ⟨h4,h6,hn⟩:=ly hs
  exact .inr (.inr (.inr (by omega)))
end Go.AM
set_option maxRecDepth 100000
namespace Go.AM
open Go.Proofs
noncomputable def aaH (C:af) (ak ay:Int) (aj:List V):Option (List V):=
 bif (ak:Int)==6 then
  some [.bool true]
 else
  bif (ak:Int)==8 then
  some [.bool true]
  else
  (C vQ [.list ab aj]).bind fun r1=>
  some [.bool ((V.nth r1 0).toBool)]
theorem ams {ak ay:Int} {aj:List V} {r:Option (List V)} (h:aaH CC ak ay aj=r):CC qT [.int .i64 ak,.int .i64 ay,.list ab aj]=r:=
 bn (key:=58) (L:=cS) (bs:=[]) (by kernel_rfl) aw (bm (by kernel_rfl) h)
noncomputable def aaI (C:af) (ak ay:Int) (aj:List V) (letters:Int):Option (List V):=
 (C Cn [.int .i64 ak,.int .i64 ay,.list ab aj,.int .i64 letters]).bind fun r1=>
 bif (((V.nth r1 0).toInt):Int) != 0 then
  some [.int .i64 ((V.nth r1 0).toInt)]
 else
  (C qT [.int .i64 ak,.int .i64 ay,.list ab aj]).bind fun r2=>
  bif (V.nth r2 0).toBool then
  some [.int .i64 4]
  else
  some [.int .i64 0]
theorem amt {ak ay:Int} {aj:List V} {letters:Int} {r:Option (List V)} (h:aaI CC ak ay aj letters=r):CC HS [.int .i64 ak,.int .i64 ay,.list ab aj,.int .i64 letters]=r:=
 bn (key:=24) (L:=cS) (bs:=[]) (by kernel_rfl) aw (bm (by kernel_rfl) h)
noncomputable def aaJ (C:af) (s:List V):Option (List V):=
 (C pS [.list ab s]).bind fun r1=>
 some [.bool (decide ((((V.nth r1 0).toInt):Int)≥0))]
theorem amu {s:List V} {r:Option (List V)} (h:aaJ CC s=r):CC vQ [.list ab s]=r:=
 bn (key:=67) (L:=cS) (bs:=[]) (by kernel_rfl) aw (bm (by kernel_rfl) h)
noncomputable abbrev aaK:Code:=bU Tryz.prog (az.aT 27)
noncomputable def EO (C:af) (s:List V) (t7 t8:Int) {β:Type} (kn:Int→Option β) (kr:((Int) ⊕ (Int × Bool))→Option β):Option β:=
 bif decide ((t8:Int)<t7) then
  (idx s t8).bind fun x1=>
  (C qT [.int .i64 ((x1.cell 0).toInt),.int .i64 ((x1.cell 1).toInt),.list ab ((x1.cell 2).toList)]).bind fun r2=>
  bif (V.nth r2 0).toBool then
  kr (.inl t8)
  else
  kn (IntKind.wrap .i64 (t8+1))
 else
  kr (.inr (t8,decide ((t8:Int)<t7)))
noncomputable def J5 (C:af) (s:List V) (t7:Int):(Int)→Option ((Int) ⊕ ((Int) ⊕ (Int × Bool))):=fun t8=>EO C s t7 t8 (fun y=>some (.inl y)) (fun r=>some (.inr r))
noncomputable def aaL (C:af):cj:=fun β n ds k=>
 bif Nat.beq n 33 then bt Ni [false,false,true] [[0],[1,2,0,0]] (@EO C) ds k else
 none
abbrev amv (C:af) (b:cg):Prop:=ch Tryz.prog az C (aaL C) 27 (cv Tryz.prog (az.aT 27)) (az.sin 27).bf.length b
theorem amw (C:af):amv C (.loop (aq [1,0,1,0,0] aaK)):=
 bw Ni [false,false,true] [[0],[1,2,0,0]] (@EO C) (by kernel_rfl) (aM (bs:=[]) (by kernel_rfl) aw) (fun ds=>by kernel_rfl) (fun i x=>by kernel_rfl) (fun i x β k=>by kernel_rfl) (fun β ds k=>by kernel_rfl)
noncomputable def RM (C:af) (s:List V):Option (List V):=
 (Loop (J5 C s (s.length:Int)) 0).bind (bD (fun (fN:Int)=>
  some [.int .i64 fN]) (un fun (jJ:Int) (kF:Bool)=>
  some [.int .i64 (-1)]))
theorem aaM {s:List V} {r:Option (List V)} (h:RM CC s=r):CC pS [.list ab s]=r:=
 bn (key:=27) (L:=aaL CC) (bs:=[.loop (aq [1,0,1,0,0] aaK)]) (by kernel_rfl) (aZ (amw CC) aw) (bm (by kernel_rfl) h)
end Go.AM
set_option maxRecDepth 100000
namespace Go.AM
open Go.Proofs Ex
theorem amx {ks:List Ex} (hlen:ks.length≤maxLen) (ih: ∀k∈ks,CC qT (ct k [])=some [.bool (mc k)]):CC vQ [.list ab (ks.map enc)]=some [.bool (Ag ks)]:=by
 have:=oU
 refine amu ?_
 unfold aaJ
 have hl:=IU (step:=J5 CC (ks.map enc) ((ks.map enc).length:Int)) (ks:=ks) (fun i=>(i:Int)) mc (fun i=> .inl (i:Int)) (.inr (((ks.length:Nat):Int),false))
  (fun pre k aA bd=>by
   have bM:pre.length<ks.length:=by rw[bd];simp
   have hm:k∈ks:=by rw[bd];simp
   simp only[J5,EO,aC,ar]
   rw[ag (by omega),show idx (ks.map enc) (pre.length:Int)=some k.enc by rw[bd];exact fq _ _ _]
   simp only[Option.bind_some,aH,aN,aK]
   rw[ih k hm]
   simp only[Option.bind_some,V.aD,V.cI]
   rw[wrap64 (by omega) (by omega)]
   cases mc k<;>simp)
  (by
   simp only[J5,EO,aC,ar]
   rw[ah (by omega)]
   simp) ks [] rfl
 simp only[List.length_nil,Int.ofNat_zero,Int.natCast_zero] at hl
 rcases hl with ⟨h1,i,h2⟩|⟨h1,h2⟩
 ·have hi:CC pS [.list ab (ks.map enc)]=some [.int .i64 (i:Int)]:=by
   refine aaM ?_
   unfold RM
   erw [h2];rfl
  rw[hi,EN,h1]
  simp
 ·have hi:CC pS [.list ab (ks.map enc)]=some [.int .i64 (-1)]:=by
   refine aaM ?_
   unfold RM
   erw [h2];rfl
  rw[hi,EN,h1]
  simp
theorem amy: ∀e:Ex,e.Ok→CC qT (ct e [])=some [.bool (mc e)]:=
 ind fun o l ks ih ax=>by
  refine ams ?_
  unfold aaH
  simp only[Ex.op,Ex.letter,Ex.kids,cq,mc]
  by_cases h6:o=6
  ·rw[ag h6];simp[h6]
  rw[ah h6]
  by_cases h8:o=8
  ·rw[ag h8];simp[h8]
  rw[ah h8,amx ax.len fun k hk=>ih k hk (ax.lp k hk)]
  simp[h6,h8]
def me (e:Ex) (letters:Int):Int:=if e.val letters≠0 then e.val letters else if mc e=true then 4 else 0
theorem aaN (e:Ex) (h:e.Ok) (letters:Int):CC HS (ct e [.int .i64 letters])=some [.int .i64 (me e letters)]:=by
 refine amt ?_
 unfold aaI me
 refine (congrArg (fun o=>Option.bind o _) (Xl e h letters)).trans ?_
 simp only[Option.bind_some,V.aD,V.toInt_int,kC]
 by_cases h1:e.val letters=0
 ·rw[ag h1,ah (fun h=>h h1)]
  refine (congrArg (fun o=>Option.bind o _) (amy e h)).trans ?_
  simp only[Option.bind_some,V.aD,V.cI]
  cases mc e<;>simp
 ·rw[ah h1,ag h1]
end Go.AM
