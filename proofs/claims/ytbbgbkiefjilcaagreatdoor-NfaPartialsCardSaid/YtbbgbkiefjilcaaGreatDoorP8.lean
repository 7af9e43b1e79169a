/-
  Functions of the program, lifted to plain data.
-/
import Derived.Test.YtbbgbkiefjilcaaGreatDoorP7
set_option linter.unusedVariables false
set_option linter.unusedSimpArgs false
set_option maxRecDepth 100000
namespace Go.AM
open Go.Proofs Ex
theorem abL {L:Int} (h:L≤6): ∀e:Ex,e.wf L=true→e.wf 6=true:=ind fun o l ks ih hw=>by
 obtain ⟨h1,h2⟩:=nE hw
 refine C3 ?_ fun k hk=>ih k hk (h2 k hk)
 unfold iq at h1⊢
 by_cases ho:o=3
 ·rw[ag ho] at h1⊢
  have:=ly h1
  exact dC (by omega)
 ·rw[ah ho] at h1⊢;exact h1
theorem R8 {e:Ex} {L:Int} (h:e.val L=0):(1≤L∧L≤6)∧e.depth≤40∧e.size≤400∧e.wf L=true:=by
 unfold Ex.val at h
 repeat' split at h
 all_goals first|omega|skip
 next a b c=>exact ⟨a,b.1,b.2,c⟩
theorem aoK {e:Ex} {L:Int} (h:e.val L=0):e.val 6=0:=by
 obtain ⟨h1,h2,h3,h4⟩:=R8 h
 unfold Ex.val
 rw[ag ⟨by omega,by omega⟩,ag ⟨h2,h3⟩,ag (abL h1.2 e h4)]
def ry (e:Ex):List Ex:=dv e::aX (dv e)
theorem aoL {e:Ex} (hw:e.wf 6=true) (hs:e.size≤40):nY (ry e):=by
 have hg:=Pz e hw
 have hz:=PA e hw
 have hl:=aiJ (dv e)
 have hn:(ry e).length≤60:=by unfold ry;rw[List.length_cons];omega
 by_cases h1:(dv e).op=1
 ·have he:=empty_eq hg h1
  have ha:aX fk=[]:=by unfold fk;rw[ub];rfl
  have hu:ry e=[fk]:=by unfold ry;rw[he,ha]
  rw[hu] at hn⊢
  refine ⟨fun x hx=> .inr (cV.1 hx),fun x hx=> ?_,fun x hx c y hy=> ?_,hn⟩
  ·rw[cV.1 hx];decide
  ·rw[cV.1 hx,RJ] at hy;simp at hy
 ·have R9:Gn (dv e):=⟨hg,h1⟩
  refine ⟨fun x hx=> .inl ?_,fun x hx=> ?_,fun x hx c y hy=> ?_,hn⟩
  ·rcases cH.1 hx with rfl|hx
   ·exact R9
   ·exact PH _ R9 x hx
  ·rcases cH.1 hx with rfl|hx
   ·omega
   ·have a:=XY _ x hx
    have b:=zo (show (dv e).size≤40 by omega)
    omega
  ·rcases cH.1 hx with rfl|hx
   ·exact cH.2 (.inr (I8 _ y hy))
   ·exact cH.2 (.inr (aiI _ R9 x hx y hy))
theorem Ko {e:Ex}:eL (ry e) [dv e]:=⟨by simp,fun x hx=>by rw[cV.1 hx];simp[ry]⟩
def rz (n:Nat) (e:Ex):List Ex:=run n 61 0 [dv e]
def rA (n:Nat) (e:Ex):List Ed:=nX n (rz n e) (List.range' 0 (rz n e).length)
def Sa (e:Ex) (letters:Int):Nf:=⟨letters,((rz letters.toNat e).length:Int),1,fF (rz letters.toNat e) (rz letters.toNat e).length,sX (rA letters.toNat e)⟩
def abM (e:Ex) (letters:Int):List V:=let n:=Sa e letters;[.int .i64 n.L,.int .i64 n.S,.int .u64 (n.st:Int),.int .u64 (n.fin:Int),.int .i64 0,.list aS (n.E.map Ed.enc)]
def noV (c:Int):List V:=[.int .i64 0,.int .i64 0,.int .u64 0,.int .u64 0,.int .i64 c,.list aS []]
theorem aoM {U:List Ex} (hU:nY U) {n:Nat}: ∀(f i:Nat) (S:List Ex),eL U S→i≤S.length→61≤f+i→∀j,i≤j→j<(run n f i S).length→∀x∈List.range' 0 n,∀d∈bJ (pX (x:Int) ((run n f i S).getD j aQ)),d∈run n f i S:=by
 intro f
 induction f with
 | zero=>intro i S hS hi hf;have:=hS.len hU;omega
 | succ f ih=>
  intro i S hS hi hf j qM hj x hx d hd
  by_cases aR:i<S.length
  ·have od:run n (f+1) i S=run n f (i+1) (dU (S.getD i aQ) S (List.range' 0 n)):=by rw[run,ag aR]
   have mT:S.getD i aQ∈U:=hS.u _ (by rw[show S.getD i aQ=S[i] by simp[aR]];exact tf aR)
   rw[od] at hj hd⊢
   obtain ⟨T,hT⟩:=uz (S.getD i aQ) (List.range' 0 n) S
   have hAl:S.length≤(dU (S.getD i aQ) S (List.range' 0 n)).length:=by rw[hT,bO];omega
   by_cases hji:j=i
   ·subst hji
    obtain ⟨T2,lr⟩:=JZ (n:=n) f (j+1) (dU (S.getD j aQ) S (List.range' 0 n))
    rw[lr,sY (by omega),hT,sY aR] at hd
    rw[lr]
    exact cZ.2 (.inl (Km x hx d hd))
   ·exact ih (i+1) _ (hS.dU hU mT) (by omega) (by omega) j (by omega) hj x hx d hd
  ·rw[run,ah aR] at hj;omega
theorem aoN {S L:List Ex} {i x:Nat} (hL:L.Nodup) (h: ∀d∈L,d∈S):(hG S i x L).Nodup:=by
 unfold hG
 induction L with
 | nil=>simp
 | cons a L ih=>
  rw[dZ,qp]
  refine ⟨fun hm=> ?_,ih (qp.1 hL).2 fun d hd=>h d (by simp[hd])⟩
  obtain ⟨b,hb,e⟩:=fG.1 hm
  have e2:=congrArg Ed.t e
  have e2:((S.idxOf b:Nat):Int)=((S.idxOf a:Nat):Int):=e2
  have e3:S.idxOf b=S.idxOf a:=by omega
  have h1:=aaB (h a (by simp))
  have h2:=aaB (h b (by simp[hb]))
  rw[e3,h1] at h2
  exact (qp.1 hL).1 (h2▸hb)
theorem abN {S L:List Ex} {i x:Nat} {z:Ed} (h:z∈hG S i x L):z.f=(i:Int)∧z.l=(x:Int)∧∃d∈L,z.t=((S.idxOf d:Nat):Int):=by
 unfold hG at h
 obtain ⟨d,hd,rfl⟩:=fG.1 h
 exact ⟨rfl,rfl,d,hd,rfl⟩
theorem Sb {S:List Ex} {i:Nat} {e:Ex} {xs:List Nat} {z:Ed} (h:z∈gP S i e xs):z.f=(i:Int)∧∃x∈xs,z.l=(x:Int)∧∃d∈bJ (pX (x:Int) e),z.t=((S.idxOf d:Nat):Int):=by
 unfold gP at h
 obtain ⟨x,hx,h2⟩:=uH.1 h
 obtain ⟨a,b,d⟩:=abN h2
 exact ⟨a,x,hx,b,d⟩
theorem aoO {l:List Ex}:(bJ l).Nodup:=List.Pairwise.imp (fun h e=>by subst e;exact Ex.IS _ h) z8
theorem abO {S:List Ex} {i:Nat} {e:Ex}: ∀{xs:List Nat},xs.Nodup→(∀x∈xs,∀d∈bJ (pX (x:Int) e),d∈S)→(gP S i e xs).Nodup
 | [],_,_=>by simp[gP]
 | x::xs,h,hm=>by
  rw[R0,uG]
  refine ⟨aoN aoO (hm x (by simp)),abO (qp.1 h).2 fun y hy=>hm y (by simp[hy]),fun a ha b hb e=> ?_⟩
  subst e
  obtain ⟨_,a2,_⟩:=abN ha
  obtain ⟨_,y,hy,b2,_⟩:=Sb hb
  rw[a2] at b2
  have:x=y:=by omega
  exact (qp.1 h).1 (this▸hy)
theorem abP {n:Nat} {S:List Ex}: ∀{is:List Nat},is.Nodup→(∀i∈is,∀x∈List.range' 0 n,∀d∈bJ (pX (x:Int) (S.getD i aQ)),d∈S)→(nX n S is).Nodup
 | [],_,_=>by simp[nX]
 | i::is,h,hm=>by
  rw[Kl,uG]
  refine ⟨abO List.nodup_range' (hm i (by simp)),abP (qp.1 h).2 fun y hy=>hm y (by simp[hy]),fun a ha b hb e=> ?_⟩
  subst e
  obtain ⟨a2,_⟩:=Sb ha
  unfold nX at hb
  obtain ⟨j,hj,hb⟩:=uH.1 hb
  obtain ⟨b2,_⟩:=Sb hb
  rw[a2] at b2
  have:i=j:=by omega
  exact (qp.1 h).1 (this▸hj)
theorem abQ {U:List Ex} (hU:nY U) {n:Nat} (hn:n≤6) {S:List Ex} (hS: ∀e∈S,e∈U): ∀{is:List Nat},(∀i∈is,i<S.length)→(nX n S is).length≤360*is.length
 | [],_=>by simp[nX]
 | i::is,h=>by
  have h1:=abQ hU hn hS (is:=is) fun j hj=>h j (by simp[hj])
  have hi:=h i (by simp)
  have h2:=Kk hU (S:=S) (i:=i) (hS (S.getD i aQ) (by rw[show S.getD i aQ=S[i] by simp[hi]];exact tf hi)) (List.range' 0 n)
  rw[FU] at h2
  rw[Kl,bO,List.length_cons]
  omega
theorem Sd {e:Ex} {letters:Int} (hp:me e letters=0):e.val letters=0∧(1≤letters∧letters≤6)∧e.wf 6=true∧e.val 6=0:=by
 have hv:e.val letters=0:=by
  unfold me at hp
  split at hp
  ·contradiction
  ·rename_i h1;exact FO.1 h1
 obtain ⟨h1,_,_,h4⟩:=R8 hv
 exact ⟨hv,h1,abL h1.2 e h4,aoK hv⟩
theorem Se {e:Ex} {letters:Int} (hp:me e letters=0) (hs:e.size≤40):nY (ry e)∧eL (ry e) (rz letters.toNat e)∧(rz letters.toNat e).length≤60∧(rA letters.toNat e).length≤21600∧(rA letters.toNat e).Nodup:=by
 obtain ⟨_,h1,h2,_⟩:=Sd hp
 have hU:=aoL h2 hs
 have hI:eL (ry e) (rz letters.toNat e):=eL.run hU Ko
 have hl:=hI.len hU
 refine ⟨hU,hI,hl,?_,abP List.nodup_range' fun i hi x hx d hd=> ?_⟩
 ·have:=abQ hU (n:=letters.toNat) (by omega) hI.u (is:=List.range' 0 (rz letters.toNat e).length) fun i hi=>by
   obtain ⟨k,hk,rfl⟩:=List.mem_range'.1 hi;omega
  rw[FU] at this
  unfold rA;omega
 ·obtain ⟨k,hk,rfl⟩:=List.mem_range'.1 hi
  exact aoM hU 61 0 [dv e] Ko (by simp) (by omega) _ (by omega) (by show _<(rz letters.toNat e).length;omega) x hx d hd
section
variable {e:Ex} (h:e.Ok) {letters:Int} (hp:me e letters=0) (hs:e.size≤40)
include h hp hs
theorem aoP:CC yA (ct e [.int .i64 letters])=some (abM e letters):=by
 obtain ⟨_,h1,h2,h3⟩:=Sd hp
 obtain ⟨hU,hI,hl,cP,jF⟩:=Se hp hs
 have FF:=an5 hU (n:=letters.toNat) (by omega) (a8:=0) (a9:=0) (a10:=0) (a11:=0) (q0:=letters) (q1:=0) (q2:=1) (b3:=[]) 61 0 [dv e] [] Ko (by simp) (by simp) (by omega)
 rw[show ((letters.toNat:Nat):Int)=letters by omega] at FF
 obtain ⟨R,cs,mu,HH⟩:=anf (rA letters.toNat e) (by omega)
 have hR:R=sX (rA letters.toNat e):=aau (amd mu jF HH) (amg _) fun x=>by rw[mu.mem_iff,amh]
 rw[hR] at cs
 refine abw ?_
 unfold RY
 refine bs (aaN e h letters) ?_
 rw[V.aD,V.toInt_int,hp]
 refine bF (by decide) ?_
 have hN:=akv e h
 rw[ag h3] at hN
 refine bs hN ?_
 simp only[gr,fm,eM,V.aD,V.toInt_int,V.e8]
 rw[D6]
 refine bs FF ?_
 simp only[bD,un,List.nil_append,Nat.sub_zero]
 refine bs cs ?_
 rw[aC]
 rfl
theorem aoQ:CC yB (ct e [.int .i64 letters])=some (abM e letters):=by
 obtain ⟨_,h1,h2,h3⟩:=Sd hp
 obtain ⟨hU,hI,hl,cP,jF⟩:=Se hp hs
 have FF:=aoH hU (n:=letters.toNat) (by omega) (a8:=0) (a9:=0) (a10:=0) (a11:=0) (q0:=letters) (q1:=0) (q2:=1) (b3:=[]) 61 0 [dv e] [] Ko (by simp) (by simp) (by omega)
 rw[show ((letters.toNat:Nat):Int)=letters by omega] at FF
 refine abH ?_
 unfold R7
 refine bs (abJ e h letters) ?_
 rw[V.aD,V.toInt_int,hp]
 refine bF (by decide) ?_
 refine bs (Rp (n:=6) (by omega) e h2 (by omega)) ?_
 simp only[gr,fm,eM,V.aD,V.toInt_int,V.e8]
 rw[D6]
 refine bs FF ?_
 simp only[bD,un,List.nil_append,Nat.sub_zero]
 refine bs (amj (l:=rA letters.toNat e) (by omega)) ?_
 rw[aC]
 rfl
end
theorem abR {e:Ex} (h:e.Ok) {letters:Int} (hp:me e letters≠0):
  CC yA (ct e [.int .i64 letters])=some (noV (me e letters))∧
  CC yB (ct e [.int .i64 letters])=some (noV (me e letters)):=by
 constructor
 ·refine abw ?_
  unfold RY
  refine bs (aaN e h letters) (bT ?_ rfl)
  rw[V.aD,V.toInt_int];exact bne_iff_ne.2 hp
 ·refine abH ?_
  unfold R7
  refine bs (abJ e h letters) (bT ?_ rfl)
  rw[V.aD,V.toInt_int];exact bne_iff_ne.2 hp
theorem abV (e:Ex) (h:e.Ok) (letters:Int):CC MN (ct e [.int .i64 letters])=some [.bool true]:=by
 have hz:=abo ⟨0,0,0,0,[]⟩ (by simp)
 refine aoJ ?_
 unfold abK
 refine bs (Xm e h letters) ?_
 rw[V.aD,V.toInt_int,cq]
 have same: ∀hp:me e letters=0,e.size≤40→CC yC (JU (Sa e letters) (JU (Sa e letters) []))=some [.bool true]:=fun hp hs=>by
  obtain ⟨_,_,_,cP,_⟩:=Se hp hs
  have:(sX (rA letters.toNat e)).length≤21600:=by
   have: ∀(l out:List Ed),(l.foldl mQ out).length≤out.length+l.length:=fun l=>by
    induction l with
    | nil=>intro out;simp
    | cons x l ih=>intro out;have h1:=ih (mQ out x);have h2:=aax out x;simp only[List.foldl_cons,List.length_cons];omega
   have:=this (rA letters.toNat e) []
   unfold sX;simp only[List.length_nil] at this;omega
  exact abo _ (by unfold maxLen;show (sX (rA letters.toNat e)).length≤_;omega)
 by_cases hv:e.val letters=0
 ·rw[ag hv]
  obtain ⟨_,_,hz4,_⟩:=R8 hv
  refine bs (aiw e h hz4) ?_
  rw[V.aD,V.toInt_int,ar]
  by_cases hs:(e.size:Int)>40
  ·rw[ag hs];exact bs Kn rfl
  rw[ah hs]
  by_cases hp:me e letters=0
  ·refine bs (aoP h hp (by omega)) (bs (aoQ h hp (by omega)) ?_)
   exact bT (xe _) (bs (same hp (by omega)) (bT rfl (bs Kn rfl)))
  ·obtain ⟨c1,c2⟩:=abR h hp
   exact bs c1 (bs c2 (bT (xe _) (bs hz (bT rfl (bs Kn rfl)))))
 ·rw[ah hv]
  have hp:me e letters≠0:=by unfold me;rw[ag hv];exact hv
  obtain ⟨c1,c2⟩:=abR h hp
  exact bs c1 (bs c2 (bT (xe _) (bs hz (bT rfl (bs Kn rfl)))))
end Go.AM
set_option maxRecDepth 100000
namespace Go.AM
theorem WT.abU {P:Program} {t:TypeId} {x:V} (hu:P.underlying t=some (.int .i64)) (h:WT P t x): ∃n:Int,x= .int .i64 n∧ -9223372036854775808≤n∧n≤9223372036854775807:=by
 obtain ⟨n,rfl,h1,h2⟩:=h.eD hu
 have e1:IntKind.min .i64= -9223372036854775808:=by decide
 have e2:IntKind.max .i64=9223372036854775807:=by decide
 rw[e1] at h1
 rw[e2] at h2
 exact ⟨n,rfl,h1,h2⟩
theorem WT.LN {P:Program} {t:TypeId} {x:V} (hu:P.underlying t=some (.int .u8)) (h:WT P t x): ∃n:Int,x= .int .u8 n∧0≤n∧n≤255:=by
 obtain ⟨n,rfl,h1,h2⟩:=h.eD hu
 have e1:IntKind.min .u8=0:=by decide
 have e2:IntKind.max .u8=255:=by decide
 rw[e1] at h1
 rw[e2] at h2
 exact ⟨n,rfl,h1,h2⟩
end Go.AM
