/-
  Functions of the program, lifted to plain data.
-/
import Derived.Test.YtppefogdkedaiaaGreatDoorP6
set_option linter.unusedVariables false
set_option linter.unusedSimpArgs false
set_option maxRecDepth 100000
namespace Go.AM
open Go.Proofs Ex
structure Dv where
 L:Int
 es:List Ex
 nx:List (List Int)
 dn:Int
deriving DecidableEq
def Dv.zero:Dv:=⟨0,[],[],0⟩
def lI (e:Ex) (c:Nat):Option Ex:=if (aV (b7 c e)).val 6=0 then some (aV (b7 c e)) else none
def oB (e:Ex):Nat→Nat→List Ex→List Int→Option (List Ex × List Int)
 | 0,_,es,row=>some (es,row)
 | n+1,x,es,row=>(lI e x).bind fun d=>
  if d∈es then oB e n (x+1) es (row++[(es.idxOf d:Int)])
  else if es.length=512 then none else oB e n (x+1) (es++[d]) (row++[(es.length:Int)])
def proc (s:Dv):Option Dv:=(oB (s.es.getD s.dn.toNat bp) s.L.toNat 0 s.es []).map fun p=>⟨s.L,p.1,s.nx++[p.2],s.dn+1⟩
def uh:Nat→Dv→Option Dv
 | 0,s=>some s
 | n+1,s=>if s.dn<s.es.length then (proc s).bind (uh n) else some s
def sA (e:Ex) (L:Int):Dv:=⟨L,[aV e],[],0⟩
theorem YW {L:Int} (h:L≤6): ∀e:Ex,e.wf L=true→e.wf 6=true:=ind fun o l ks ih hw=>by
 obtain ⟨h1,U⟩:=gf hw
 refine wm ?_ fun k hk=>ih k hk (U k hk)
 unfold dx at h1⊢
 by_cases ho:o=3
 ·rw[ah ho] at h1⊢
  have:=gP h1
  exact eC (by omega)
 ·rw[ai ho] at h1⊢;exact h1
theorem Pb {e:Ex} {L:Int} (h:e.val L=0):(1≤L∧L≤6)∧e.depth≤40∧e.size≤400∧e.wf L=true:=by
 unfold Ex.val at h
 repeat' split at h
 all_goals first|omega|skip
 next a b c=>exact ⟨a,b.1,b.2,c⟩
theorem val_mk {e:Ex} {L:Int} (h:(1≤L∧L≤6)∧e.depth≤40∧e.size≤400∧e.wf L=true):e.val L=0:=by
 unfold Ex.val
 rw[ah h.1,ah ⟨h.2.1,h.2.2.1⟩,ah h.2.2.2]
theorem I9 {e:Ex} {L:Int} (h:e.val L=0):e.val 6=0:=by
 obtain ⟨h1,U,h3,h4⟩:=Pb h
 exact val_mk ⟨by omega,U,h3,YW h1.2 e h4⟩
theorem Pc {e:Ex} {L:Int} (h:e.val L=0):(aV e).val L=0:=by
 obtain ⟨h1,U,h3,h4⟩:=Pb h
 have:=Dq e h4
 have:=aiX e h4
 exact val_mk ⟨h1,by omega,by omega,(mq e h4).2⟩
def Nv (e:Ex):Prop:=Gd 6 e∧e.val 6=0
theorem Nv.aV {e:Ex} (h:Nv e):aV e=e:=WH e h.1
theorem Ja {e d:Ex} {c:Nat} (he:Nv e) (h:lI e c=some d):Nv d∧d=Go.AM.aV (b7 c e):=by
 unfold lI at h
 split at h
 ·next hv=>
  cases h
  exact ⟨⟨mq _ (uc e he.1.2),hv⟩,rfl⟩
 ·cases h
structure Es (es:List Ex):Prop where
 le:es.length≤512
 nv: ∀e∈es,Nv e
 nd:es.Nodup
def qI (e:Ex) (es:List Ex) (n:Nat) (row:List Int):Prop:=row.length=n∧∀x,x<n→∃j:Nat,row.getD x 0=j∧j<es.length∧lI e x=some (es.getD j bp)
theorem qI.mono {e:Ex} {es t:List Ex} {n:Nat} {row:List Int} (h:qI e es n row):qI e (es++t) n row:=⟨h.1,fun x hx=>by
 obtain ⟨j,h1,U,h3⟩:=h.2 x hx
 refine ⟨j,h1,by rw[cz];omega,?_⟩
 rw[h3,iu,iu,iR U]⟩
theorem qI.snoc {e:Ex} {es:List Ex} {n j:Nat} {row:List Int} (h:qI e es n row) (h1:j<es.length) (U:lI e n=some (es.getD j bp)):qI e es (n+1) (row++[(j:Int)]):=by
 refine ⟨by rw[cz,h.1];rfl,fun x hx=> ?_⟩
 rcases pF x n with c|c
 ·obtain ⟨i,i1,i2,i3⟩:=h.2 x c
  refine ⟨i,?_,i2,i3⟩
  rw[←i1,iu,iu,iR (by rw[h.1];exact c)]
 ·obtain rfl:x=n:=by omega
  refine ⟨j,?_,h1,U⟩
  rw[iu,iq (by rw[h.1];exact bU _),h.1]
  simp
theorem Es.snoc {es:List Ex} {d:Ex} (h:Es es) (hd:Nv d) (hn:d∉es) (hl:es.length≠512):Es (es++[d]):=by
 refine ⟨by have:=h.le;simp;omega,fun e he=> ?_,?_⟩
 ·rcases eM.1 he with he|he
  ·exact h.nv e he
  ·rw[ez.1 he];exact hd
 ·rw[EN]
  refine ⟨h.nd,by simp,fun a ha b hb=> ?_⟩
  rw[ez.1 hb]
  rintro rfl
  exact hn ha
theorem al1 {es:List Ex} {d:Ex} (h:d∈es):es.getD (es.idxOf d) bp=d:=by
 have:=List.idxOf_lt_length_iff.2 h
 rw[iu,bN this,Option.getD_some,List.getElem_idxOf]
theorem Pd {e:Ex} (he:Nv e): ∀(n x:Nat) (es:List Ex) (row:List Int) (p:List Ex × List Int),Es es→qI e es x row→oB e n x es row=some p→Es p.1∧qI e p.1 (x+n) p.2∧∃t,p.1=es++t
 | 0,x,es,row,p,h1,U,h=>by
  cases h
  exact ⟨h1,U,[],by simp⟩
 | n+1,x,es,row,p,h1,U,h=>by
  rw[oB] at h
  cases hs:lI e x with
  | none=>rw[hs] at h;cases h
  | some d=>
   rw[hs] at h
   obtain ⟨hd,_⟩:=Ja he hs
   simp only[Option.bind_some] at h
   by_cases hm:d∈es
   ·rw[ah hm] at h
    have:=Pd he n (x+1) es _ p h1 (U.snoc (List.idxOf_lt_length_iff.2 hm) (by rw[hs,al1 hm])) h
    rw[show x+(n+1)=x+1+n by omega]
    exact this
   ·rw[ai hm] at h
    by_cases hl:es.length=512
    ·rw[ah hl] at h;cases h
    ·rw[ai hl] at h
     obtain ⟨a,b,t,c⟩:=Pd he n (x+1) (es++[d]) _ p (h1.snoc hd hm hl) (U.mono.snoc (by simp) (by rw[hs,iu];simp)) h
     rw[show x+(n+1)=x+1+n by omega]
     exact ⟨a,b,d::t,by rw[c,cv];rfl⟩
structure Gs (s:Dv):Prop where
 L:1≤s.L∧s.L≤6
 ne:s.es≠[]
 es:Es s.es
 dn:0≤s.dn∧s.dn≤s.es.length
 nl:s.nx.length=s.dn.toNat
 row: ∀q,q<s.dn.toNat→qI (s.es.getD q bp) s.es s.L.toNat (s.nx.getD q [])
theorem Ec {α:Type} {a b:List α} {i:Nat} {z:α} (h:i<a.length):(a++b).getD i z=a.getD i z:=by
 rw[iu,iu,iR h]
theorem YX {α:Type} {a:List α} {i:Nat} {z:α} (h:i<a.length):a.getD i z∈a:=by
 rw[iu,bN h];simp
theorem YY {s t:Dv} (h:proc s=some t): ∃p,oB (s.es.getD s.dn.toNat bp) s.L.toNat 0 s.es []=some p∧t=⟨s.L,p.1,s.nx++[p.2],s.dn+1⟩:=by
 unfold proc at h
 cases hr:oB (s.es.getD s.dn.toNat bp) s.L.toNat 0 s.es [] with
 | none=>rw[hr] at h;cases h
 | some p=>rw[hr] at h;cases h;exact ⟨p,rfl,rfl⟩
theorem YZ {s t:Dv} (hs:Gs s) (hd:s.dn<s.es.length) (h:proc s=some t):Gs t∧t.L=s.L∧t.dn=s.dn+1∧∃r,t.es=s.es++r:=by
 obtain ⟨p,hp,rfl⟩:=YY h
 have Y0:=hs.dn
 have hq:s.dn.toNat<s.es.length:=by omega
 obtain ⟨a,b,r,c⟩:=Pd (hs.es.nv _ (YX hq)) _ 0 _ _ p hs.es ⟨rfl,fun x hx=>by omega⟩ hp
 have hn:=hs.nl
 refine ⟨⟨hs.L,by rw[c];simp[hs.ne],a,⟨by show 0≤s.dn+1;omega,?_⟩,?_,fun q A8=> ?_⟩,rfl,rfl,r,c⟩
 ·show s.dn+1≤(p.1.length:Int)
  rw[c,cz];omega
 ·show (s.nx++[p.2]).length=(s.dn+1).toNat
  rw[cz,hn];simp;omega
 ·have hq3:q<(s.dn+1).toNat:=A8
  show qI (p.1.getD q bp) p.1 s.L.toNat ((s.nx++[p.2]).getD q [])
  rcases pF q s.dn.toNat with e|e
  ·rw[Ec (by omega),c,Ec (by omega)]
   exact (hs.row q e).mono
  ·obtain rfl:q=s.dn.toNat:=by omega
   rw[iu (l:=s.nx++[p.2]),iq (by omega),hn,Nat.sub_self]
   simp only[List.getElem?_cons_zero,Option.getD_some]
   rw[gQ] at b
   have e1:p.1.getD s.dn.toNat bp=s.es.getD s.dn.toNat bp:=by rw[c,Ec (by omega)]
   rw[e1]
   exact b
theorem Y1: ∀(n:Nat) (s t:Dv),Gs s→uh n s=some t→Gs t∧t.L=s.L∧(∃r,t.es=s.es++r)∧(t.dn=t.es.length∨t.dn=s.dn+n)
 | 0,s,t,hs,h=>by cases h;exact ⟨hs,rfl,⟨[],by simp⟩,.inr (by simp)⟩
 | n+1,s,t,hs,h=>by
  rw[uh] at h
  by_cases hd:s.dn<s.es.length
  ·rw[ah hd] at h
   cases hp:proc s with
   | none=>rw[hp] at h;cases h
   | some u=>
    rw[hp] at h
    obtain ⟨a,b,c,r,d⟩:=YZ hs hd hp
    obtain ⟨e,f,⟨r2,g⟩,i⟩:=Y1 n u t a h
    refine ⟨e,f.trans b,⟨r++r2,by rw[g,d,cv]⟩,?_⟩
    rcases i with i|i
    ·exact .inl i
    ·exact .inr (by rw[i,c];omega)
  ·rw[ai hd] at h
   cases h
   exact ⟨hs,rfl,⟨[],by simp⟩,.inl (by have:=hs.dn;omega)⟩
theorem Y2 {e:Ex} {L:Int} (h:e.val L=0):Gs (sA e L):=by
 obtain ⟨h1,U,h3,h4⟩:=Pb h
 refine ⟨h1,by simp[sA],⟨by simp[sA],fun x hx=> ?_,by simp[sA]⟩,by simp[sA],rfl,fun q hq=>by simp[sA] at hq⟩
 rw[ez.1 hx]
 exact ⟨mq e (YW h1.2 e h4),I9 (Pc h)⟩
def qJ:List UInt8→Ex→Option Ex
 | [],e=>some e
 | b::w,e=>(lI e (b.toNat-97)).bind (qJ w)
end Go.AM
set_option maxRecDepth 100000
namespace Go.AM
open Go.Proofs
noncomputable def Y3 (C:ae) (ei ej:Int) (Ed:List V) (Pe Pf:Int) (Pg:List V) (Ph:Bool):Option (List V):=
 (C vw [.int .i64 ei,.int .i64 ej,.list aa Ed,.int .i64 6]).bind fun r1=>
 bif (((V.nth r1 0).toInt):Int) != 0 then
  some [.int .i64 0,.int .i64 0,.list aa ([]:List V),.int .i64 3]
 else
  some [.int .i64 ei,.int .i64 ej,.list aa Ed,.int .i64 0]
theorem al2 {ei ej:Int} {Ed:List V} {Pe Pf:Int} {Pg:List V} {Ph:Bool} {r:Option (List V)} (h:Y3 CC ei ej Ed Pe Pf Pg Ph=r):CC G7 [.int .i64 ei,.int .i64 ej,.list aa Ed,.int .i64 Pe,.int .i64 Pf,.list aa Pg,.bool Ph]=r:=
 aZ (key:=46) (L:=bX) (bs:=[]) (by kernel_rfl) aw (aX (by kernel_rfl) h)
noncomputable def Y4 (C:ae) (aj ar:Int) (ag:List V) (letter:Int):Option (List V):=
 (C pb [.int .i64 letter,.bool true,.int .i64 aj,.int .i64 ar,.list aa ag]).bind fun r1=>
 (C G7 [.int .i64 ((V.nth r1 0).toInt),.int .i64 ((V.nth (r1.drop 1) 0).toInt),.list aa ((V.nth ((r1.drop 1).drop 1) 0).toList),.int .i64 ((V.nth (((r1.drop 1).drop 1).drop 1) 0).toInt),.int .i64 ((V.nth ((((r1.drop 1).drop 1).drop 1).drop 1) 0).toInt),.list aa ((V.nth (((((r1.drop 1).drop 1).drop 1).drop 1).drop 1) 0).toList),.bool ((V.nth ((((((r1.drop 1).drop 1).drop 1).drop 1).drop 1).drop 1) 0).toBool)]).bind fun r2=>
 some [.int .i64 ((V.nth r2 0).toInt),.int .i64 ((V.nth (r2.drop 1) 0).toInt),.list aa ((V.nth ((r2.drop 1).drop 1) 0).toList),.int .i64 ((V.nth (r2.drop 3) 0).toInt)]
theorem al3 {aj ar:Int} {ag:List V} {letter:Int} {r:Option (List V)} (h:Y4 CC aj ar ag letter=r):CC BI [.int .i64 aj,.int .i64 ar,.list aa ag,.int .i64 letter]=r:=
 aZ (key:=33) (L:=bX) (bs:=[]) (by kernel_rfl) aw (aX (by kernel_rfl) h)
end Go.AM
set_option maxRecDepth 100000
namespace Go.AM
open Go.Proofs Ex
abbrev Pj (p:Ex × Int):List V:=bY p.1 [.int .i64 p.2]
def ui (x:Ex):Ex × Int:=if x.val 6=0 then (x,0) else (bp,3)
theorem al4 {x y:Ex} {b:Bool} (hx:x.Ok):CC G7 (bY x (bY y [.bool b]))=some (Pj (ui x)):=by
 refine al2 ?_
 unfold Y3 ui
 refine bs (HL x hx 6) ?_
 by_cases hv:x.val 6=0
 ·rw[ah hv]
  exact bF (by simp[hv]) rfl
 ·rw[ai hv]
  exact bT (by simp[hv]) rfl
theorem al5 {c:Int} {e:Ex} (hv:e.val 6=0):Gd 6 (aV (b7 c e))∧(aV (b7 c e)).Ok∧(aV (b7 c e)).size≤160000:=by
 obtain ⟨_,U,h3⟩:=nf hv
 have a:=mq _ (uc (c:=c) e h3)
 have b:=O3 (c:=c) h3
 have d:=I5 U
 exact ⟨a,tR (by omega) _ a.2 (by omega),by omega⟩
theorem Y5 {e:Ex} (he:Nv e) (c:Int):CC BI (bY e [.int .i64 c])=some (Pj (ui (aV (b7 c e)))):=by
 obtain ⟨_,U,h3⟩:=nf he.2
 refine al3 ?_
 unfold Y4
 refine bs (alZ (c:=c) (nm:=true) e h3 U fun _=>he.1) ?_
 refine bs (al4 (y:=aV e) (b:=e.dc) (al5 (c:=c) he.2).2.1) ?_
 unfold ui
 split<;>rfl
end Go.AM
set_option maxRecDepth 100000
namespace Go.AM
open Go.Proofs
noncomputable abbrev Y6:Code:=cj Tryz.prog (av.aQ 14)
noncomputable def zV (C:ae) (w:List UInt8) (t23 lF lG:Int) (ch:List V) (t24 eu dH:Int) (dj:List V) {β:Type} (kn:(Int × Int × Int × (List V))→Option β) (kr:((Int × Int × Int × (List V)) ⊕ (Int × Bool × Int × Int × (List V)))→Option β):Option β:=
 bif decide ((t24:Int)<t23) then
  (bif decide (0≤t24) then (w[(t24:Int).toNat]?).map fun b=>V.int .u8 b.toNat else none).bind fun x4=>
  (C BI [.int .i64 eu,.int .i64 dH,.list aa dj,.int .i64 (IntKind.wrap .i64 (IntKind.wrap .u8 (x4.toInt-97)))]).bind fun r5=>
  bif (((V.nth (r5.drop 3) 0).toInt):Int) != 0 then
  kr (.inl ((V.nth (r5.drop 3) 0).toInt,0,0,([]:List V)))
  else
  kn (IntKind.wrap .i64 (t24+1),(V.nth r5 0).toInt,(V.nth (r5.drop 1) 0).toInt,(V.nth ((r5.drop 1).drop 1) 0).toList)
 else
  kr (.inr (t24,decide ((t24:Int)<t23),eu,dH,dj))
noncomputable def wX (C:ae) (w:List UInt8) (t23 lF lG:Int) (ch:List V):(Int × Int × Int × (List V))→Option ((Int × Int × Int × (List V)) ⊕ ((Int × Int × Int × (List V)) ⊕ (Int × Bool × Int × Int × (List V)))):=un fun t24=>un fun eu=>un fun dH dj=>zV C w t23 lF lG ch t24 eu dH dj (fun y=>some (.inl y)) (fun r=>some (.inr r))
noncomputable def Y7 (C:ae):b8:=fun β n ds k=>
 bif Nat.beq n 129 then bM L0 [false,false,true,true,true,true,false,false,false] [[0,0,0,0],[1,2,0,0,0,0,0,7,8,9]] (@zV C) ds k else
 none
abbrev al6 (C:ae) (b:bZ):Prop:=b6 Tryz.prog av C (Y7 C) 14 (cl Tryz.prog (av.aQ 14)) (av.sin 14).bc.length b
theorem al7 (C:ae):al6 C (.loop (ax [1,1,1,1,0,1,0,0] Y6)):=
 bP L0 [false,false,true,true,true,true,false,false,false] [[0,0,0,0],[1,2,0,0,0,0,0,7,8,9]] (@zV C) (by kernel_rfl) (a9 (bs:=[]) (by kernel_rfl) aw) (fun ds=>by kernel_rfl) (fun i x=>by kernel_rfl) (fun i x β k=>by kernel_rfl) (fun β ds k=>by kernel_rfl)
noncomputable def Y8 (C:ae) (aj ar:Int) (ag:List V) (w:List UInt8):Option (List V):=
 (C vw [.int .i64 aj,.int .i64 ar,.list aa ag,.int .i64 6]).bind fun r1=>
 bif (((V.nth r1 0).toInt):Int) != 0 then
  some [.int .i64 0,.int .i64 0,.list aa ([]:List V),.int .i64 ((V.nth r1 0).toInt)]
 else
  (C BH [.str w,.int .i64 6]).bind fun r2=>
  bif !((V.nth r2 0).toBool) then
  some [.int .i64 0,.int .i64 0,.list aa ([]:List V),.int .i64 1]
  else
  (C BG [.int .i64 aj,.int .i64 ar,.list aa ag]).bind fun r3=>
  (Loop (wX C w (w.length:Int) 0 0 ([]:List V)) (0,(V.nth r3 0).toInt,(V.nth (r3.drop 1) 0).toInt,(V.nth ((r3.drop 1).drop 1) 0).toList)).bind (cB (un fun (mY:Int)=>un fun (Pk:Int)=>un fun (Pl:Int) (pn:List V)=>
   some [.int .i64 Pk,.int .i64 Pl,.list aa pn,.int .i64 mY]) (un fun (tz:Int)=>un fun (rZ:Bool)=>un fun (al8:Int)=>un fun (al9:Int) (ama:List V)=>
   some [.int .i64 al8,.int .i64 al9,.list aa ama,.int .i64 0]))
theorem amb {aj ar:Int} {ag:List V} {w:List UInt8} {r:Option (List V)} (h:Y8 CC aj ar ag w=r):CC GX [.int .i64 aj,.int .i64 ar,.list aa ag,.str w]=r:=
 aZ (key:=14) (L:=Y7 CC) (bs:=[.loop (ax [1,1,1,1,0,1,0,0] Y6)]) (by kernel_rfl) (br (al7 CC) aw) (aX (by kernel_rfl) h)
end Go.AM
set_option maxRecDepth 100000
namespace Go.AM
open Go.Proofs Ex
def Jb (w:List UInt8) (e:Ex):Ex × Int:=match qJ w e with|some x=>(x,0)|none=>(bp,3)
def Jc (e:Ex) (w:List UInt8):Ex × Int:=if e.val 6=0 then (if kN w 6 then Jb w (aV e) else (bp,1)) else (bp,e.val 6)
theorem amc {e:Ex} {c:Nat}:ui (aV (b7 c e))=match lI e c with|some d=>(d,0)|none=>(bp,3):=by
 unfold ui lI
 split<;>rfl
theorem amd {e:Ex} (h:Nv e):e.Ok:=tR (by omega) e h.1.2 (by have:=nf h.2;omega)
theorem Y9 {e:Ex} (h:e.val 6=0):Nv (aV e):=⟨mq e (nf h).2.2,Pc h⟩
theorem ame {w:List UInt8} (hw: ∀i,i<w.length→0≤cZ w i∧cZ w i<6) {pre:List UInt8} {b:UInt8} {aH:List UInt8} (e:w=pre++b::aH):w.getD pre.length 0=b∧97≤b.toNat∧cZ w pre.length=((b.toNat-97:Nat):Int):=by
 have h1:w.getD pre.length 0=b:=by rw[e,iu];simp
 have U:=hw pre.length (by rw[e];simp)
 unfold cZ at*
 rw[h1] at U⊢
 exact ⟨rfl,by omega,by omega⟩
theorem amf {w:List UInt8} (hw: ∀i,i<w.length→0≤cZ w i∧cZ w i<6) {pre:List UInt8} {b:UInt8} {aH:List UInt8} (e:w=pre++b::aH):IntKind.wrap .i64 (IntKind.wrap .u8 (((w.getD pre.length 0).toNat:Int)-97))=((b.toNat-97:Nat):Int):=by
 have h1:=ame hw e
 have U:=hw pre.length (by rw[e];simp)
 rw[HO U.1,wrap64 (by omega) (by omega),h1.2.2]
section
variable {w:List UInt8} (hl:w.length≤2048) (hw: ∀i,i<w.length→0≤cZ w i∧cZ w i<6)
include hl hw
theorem amg {a b:Int} {l:List V}: ∀(aH pre:List UInt8) (x:Ex),w=pre++aH→Nv x→
  (∀y,qJ aH x=some y→Loop (wX CC w (w.length:Int) a b l) (((pre.length:Nat):Int),x.op,x.letter,x.kids.map enc)=some (.inr ((w.length:Int),false,y.op,y.letter,y.kids.map enc)))
  ∧(qJ aH x=none→Loop (wX CC w (w.length:Int) a b l) (((pre.length:Nat):Int),x.op,x.letter,x.kids.map enc)=some (.inl (3,0,0,[]))):=by
 intro aH
 induction aH with
 | nil=>
  intro pre x e hx
  rw[dz] at e
  subst e
  refine ⟨fun y hy=> ?_,fun hy=>by simp[qJ] at hy⟩
  cases hy
  refine bj ?_
  simp only[wX,zV,un]
  rw[az,ai (by omega),ct (by omega)]
 | cons c aH gb=>
  intro pre x e hx
  have cb:pre.length<w.length:=by rw[e];simp
  have hs:=amf hw e
  have hb:=Y5 hx ((c.toNat-97:Nat):Int)
  rw[amc] at hb
  rw[qJ]
  cases bG:lI x (c.toNat-97) with
  | none=>
   rw[bG] at hb
   refine ⟨fun y hy=>(by cases hy),fun _=>bj ?_⟩
   simp only[wX,zV,un]
   refine bT (wS cb) (bs (Ck cb) ?_)
   rw[V.toInt_int,hs]
   refine bs hb ?_
   rfl
  | some d=>
   rw[bG] at hb
   obtain ⟨i1,i2⟩:=gb (pre++[c]) d (by simp[e]) (Ja hx bG).1
   have eG:wX CC w (w.length:Int) a b l (((pre.length:Nat):Int),x.op,x.letter,x.kids.map enc)=some (.inl ((((pre++[c]).length:Nat):Int),d.op,d.letter,d.kids.map enc)):=by
    simp only[wX,zV,un]
    refine bT (wS cb) (bs (Ck cb) ?_)
    rw[V.toInt_int,hs]
    refine bs hb ?_
    refine bF rfl ?_
    rw[pB (by omega),cz]
    rfl
   exact ⟨fun y hy=>(bW eG).trans (i1 y hy),fun hy=>(bW eG).trans (i2 hy)⟩
end
theorem amh (e:Ex) (h:e.Ok) (w:List UInt8):CC GX (bY e [.str w])=some (Pj (Jc e w)):=by
 refine amb ?_
 unfold Y8 Jc
 refine bs (HL e h 6) ?_
 by_cases hv:e.val 6=0
 ·rw[ah hv]
  refine bF (by simp[hv]) (bs (UF w 6) ?_)
  by_cases hw:kN w 6
  ·rw[ah hw]
   refine bF (by simp[hw]) ?_
   have hn:=Yu e h
   rw[ah hv] at hn
   refine bs hn ?_
   obtain ⟨l1,l2⟩:=amg hw.2.2.1 hw.2.2.2 (a:=0) (b:=0) (l:=[]) w [] (aV e) rfl (Y9 hv)
   unfold Jb
   cases hg:qJ w (aV e) with
   | none=>exact bs (l2 hg) rfl
   | some y=>exact bs (l1 y hg) rfl
  ·rw[ai hw]
   exact bT (by simp[hw]) rfl
 ·rw[ai hv]
  refine bT (by simp[hv]) rfl
end Go.AM
set_option maxRecDepth 100000
namespace Go.AM
open Go.Proofs
noncomputable def Za (C:ae) (aj ar:Int) (ag:List V) (cS:Int):Option (List V):=
 (C G3 [.int .i64 aj,.int .i64 ar,.list aa ag]).bind fun r1=>
 bif (V.nth r1 0).toBool then
  (C GS [.int .i64 aj,.int .i64 ar,.list aa ag]).bind fun r2=>
  some [.bool (decide ((((V.nth r2 0).toInt):Int)≤cS))]
 else
  some [.bool false]
theorem ami {aj ar:Int} {ag:List V} {cS:Int} {r:Option (List V)} (h:Za CC aj ar ag cS=r):CC GW [.int .i64 aj,.int .i64 ar,.list aa ag,.int .i64 cS]=r:=
 aZ (key:=13) (L:=bX) (bs:=[]) (by kernel_rfl) aw (aX (by kernel_rfl) h)
end Go.AM
set_option maxRecDepth 100000
namespace Go.AM
open Go.Proofs Ex
theorem amj (e:Ex) (h:e.Ok) (m:Int):CC GW (bY e [.int .i64 m])=some [.bool (decide (e.val 6=0∧(e.size:Int)≤m))]:=by
 refine ami ?_
 unfold Za
 refine bs (ah5 e h) ?_
 by_cases hv:e.val 6=0
 ·refine bT (eC hv) (bs (aia e h (nf hv).2.1) ?_)
  rw[V.aC,V.toInt_int]
  refine congrArg (fun b=>some [V.bool b]) ?_
  rw[Aj]
  exact ⟨fun x=>⟨hv,x⟩,fun x=>x.2⟩
 ·refine bF (ct hv) ?_
  rw[ct fun x=>hv x.1]
theorem amk {w v:List UInt8} {L:Int} (h:kN (w++v) L):kN w L∧kN v L:=by
 obtain ⟨h1,U,h3,h4⟩:=h
 rw[cz] at h3 h4
 refine ⟨⟨h1,U,by omega,fun i hi=> ?_⟩,⟨h1,U,by omega,fun i hi=> ?_⟩⟩
 ·have:=h4 i (by omega)
  unfold cZ at*
  rwa [Ec hi] at this
 ·have:=h4 (w.length+i) (by omega)
  unfold cZ at*
  rwa [iu,iq (by omega),Nat.add_sub_cancel_left,←iu] at this
def gl (op:Int):Int:=if op=4 then 1 else if op=6 then 2 else if op=5 then 3 else if op=8 then 4 else if op=7 then 5 else 6
def eL (op least:Int) (t:List UInt8):List UInt8:=if gl op<least then 40::(t++[41]) else t
mutual
def Ex.text:Ex→List UInt8
 | .node o l ks=>
  if o=1 then [48] else if o=2 then [49] else if o=3 then [UInt8.ofNat (97+l).toNat]
  else if o=8 then 33::texts [] 4 true ks else if o=7 then texts [] 5 true ks++[42]
  else if o=4 then texts [124] 2 true ks else if o=6 then texts [38] 3 true ks else texts [] 4 true ks
def Ex.texts (sep:List UInt8) (least:Int) (first:Bool):List Ex→List UInt8
 | []=>[]
 | k::ks=>(if first then [] else sep)++(eL k.op least (text k)++texts sep least false ks)
end
theorem aml (op least:Int) (t:List UInt8):(eL op least t).length≤t.length+2:=by
 unfold eL;split<;>simp
theorem Zb (sep:List UInt8) (hs:sep.length≤1) (least:Int): ∀(ks:List Ex) (f:Bool),(∀k∈ks,k.text.length+3≤4*k.size)→(texts sep least f ks).length≤4*aR ks
 | [],f,_=>by simp[texts]
 | k::ks,f,h=>by
  have h1:=h k (by simp)
  have U:=Zb sep hs least ks false fun k hk=>h k (by simp[hk])
  have h3:=aml k.op least k.text
  simp only[texts,cz,aR]
  cases f<;>simp<;>omega
theorem Zc: ∀e:Ex,e.text.length+3≤4*e.size:=ind fun o l ks ih=>by
 have h:=fun sep hs least=>Zb sep hs least ks true ih
 have h1:=h [] (by simp) 4
 have U:=h [] (by simp) 5
 have h3:=h [124] (by simp) 2
 have h4:=h [38] (by simp) 3
 simp only[text,size]
 repeat' split
 all_goals simp
 all_goals omega
def TX (m:Int) (k:Ex):List UInt8:=eL k.op m k.text
def mb (o:Int) (e:Ex):List Ex:=if e.op=o then e.kids else [e]
theorem Ee (sep:List UInt8) (m:Int) (k:Ex) (ks:List Ex):texts sep m false (k::ks)=sep++(TX m k++texts sep m false ks):=by simp[texts,TX]
theorem Ef (sep:List UInt8) (m:Int) (k:Ex) (ks:List Ex):texts sep m true (k::ks)=TX m k++texts sep m false ks:=by simp[texts,TX]
theorem Zd (e:Ex):TX 1 e=texts [124] 2 true (mb 4 e):=by
 obtain ⟨o,l,ks⟩:=e
 unfold mb TX
 by_cases h:o=4
 ·subst h;simp[Ex.op,Ex.kids,gl,text,eL]
 ·have hl:2≤gl o:=by
   unfold gl
   repeat' split
   all_goals omega
  rw[ai (show¬(Ex.node o l ks).op=4 from h),Ef]
  show eL o 1 _=eL o 2 _++[]
  rw[dz]
  unfold eL
  by_cases U:gl o<1
  ·rw[ah U,ah (by omega)]
  ·rw[ai U,ai (by omega)]
theorem Ze (e:Ex):TX 2 e=texts [38] 3 true (mb 6 e):=by
 obtain ⟨o,l,ks⟩:=e
 unfold mb TX
 by_cases h:o=6
 ·subst h;simp[Ex.op,Ex.kids,gl,text,eL]
 ·have hl:gl o≠2:=by
   unfold gl
   repeat' split
   all_goals omega
  rw[ai (show¬(Ex.node o l ks).op=6 from h),Ef]
  show eL o 2 _=eL o 3 _++[]
  rw[dz]
  unfold eL
  by_cases U:gl o<2
  ·rw[ah U,ah (by omega)]
  ·rw[ai U,ai (by omega)]
theorem Zf (e:Ex):TX 3 e=texts [] 4 true (mb 5 e):=by
 obtain ⟨o,l,ks⟩:=e
 unfold mb TX
 by_cases h:o=5
 ·subst h;simp[Ex.op,Ex.kids,gl,text,eL]
 ·have hl:gl o≠3:=by
   unfold gl
   repeat' split
   all_goals omega
  rw[ai (show¬(Ex.node o l ks).op=5 from h),Ef]
  show eL o 3 _=eL o 4 _++[]
  rw[dz]
  unfold eL
  by_cases U:gl o<3
  ·rw[ah U,ah (by omega)]
  ·rw[ai U,ai (by omega)]
theorem Eg (l:Int) (k:Ex):TX 4 (.node 8 l [k])=33::TX 4 k:=by
 simp[TX,eL,Ex.op,gl,text,texts]
theorem Eh {e:Ex} (h:e.op≠8):TX 4 e=TX 5 e:=by
 unfold TX eL gl
 repeat' split
 all_goals first|rfl|omega
theorem amm (l:Int) (k:Ex):TX 5 (.node 7 l [k])=TX 5 k++[42]:=by
 simp[TX,eL,Ex.op,gl,text,texts]
theorem amn {e:Ex} (h:e.op≠7):TX 5 e=TX 6 e:=by
 unfold TX eL gl
 repeat' split
 all_goals first|rfl|omega
theorem qK {e:Ex} (h:4≤e.op∧e.op≤8):TX 6 e=40::(TX 1 e++[41]):=by
 unfold TX eL gl
 repeat' split
 all_goals first|rfl|omega
theorem Pm {e:Ex} (h:e.wf 6=true):(e= .node 1 0 []∨e= .node 2 0 []∨(∃l:Int,0≤l∧l<6∧e= .node 3 l []))∨(4≤e.op∧e.op≤8):=by
 obtain ⟨o,l,ks⟩:=e
 obtain ⟨h1,U⟩:=gf h
 simp only[Ex.op]
 rcases eH h1 with ⟨rfl,h,h3,h4⟩|⟨rfl,⟨rfl,h⟩|⟨rfl,h⟩|⟨rfl,h⟩|⟨rfl,h⟩|⟨rfl,h⟩|⟨rfl,h⟩|⟨rfl,h⟩⟩
 ·obtain rfl:=qR.1 (show ks.length=0 by omega)
  exact .inl (.inr (.inr ⟨l,h3,h4,rfl⟩))
 ·obtain rfl:=qR.1 (show ks.length=0 by omega)
  exact .inl (.inl rfl)
 ·obtain rfl:=qR.1 (show ks.length=0 by omega)
  exact .inl (.inr (.inl rfl))
 all_goals exact .inr (by omega)
def Ei (c:UInt8):Prop:=c=48∨c=49∨c=40∨c=97∨c=98∨c=99∨c=100∨c=101∨c=102
theorem sB {l:Int} (h0:0≤l) (h1:l<6):UInt8.ofNat (97+l).toNat=97∧l=0∨UInt8.ofNat (97+l).toNat=98∧l=1∨UInt8.ofNat (97+l).toNat=99∧l=2∨UInt8.ofNat (97+l).toNat=100∧l=3∨UInt8.ofNat (97+l).toNat=101∧l=4∨UInt8.ofNat (97+l).toNat=102∧l=5:=by
 rcases (show l=0∨l=1∨l=2∨l=3∨l=4∨l=5 by omega) with rfl|rfl|rfl|rfl|rfl|rfl<;>decide
theorem amo {e:Ex} (h:e.wf 6=true): ∃c t,TX 6 e=c::t∧Ei c:=by
 rcases Pm h with (rfl|rfl|⟨l,h0,h1,rfl⟩)|h
 ·exact ⟨48,[],rfl,.inl rfl⟩
 ·exact ⟨49,[],rfl,.inr (.inl rfl)⟩
 ·refine ⟨UInt8.ofNat (97+l).toNat,[],by simp[TX,eL,gl,Ex.op,text],?_⟩
  unfold Ei
  rcases sB h0 h1 with h|h|h|h|h|h<;>simp[h.1]
 ·exact ⟨40,_,qK h,.inr (.inr (.inl rfl))⟩
theorem Ej {o l:Int} {ks:List Ex} (h:(Ex.node o l ks).wf 6=true) (ho:o=7∨o=8): ∃k,ks=[k]∧k.wf 6=true∧l=0:=by
 obtain ⟨h1,U⟩:=gf h
 rcases eH h1 with h|⟨h0,h⟩
 ·omega
 ·obtain ⟨k,rfl⟩:=oJ.1 (show ks.length=1 by omega)
  exact ⟨k,rfl,U k (by simp),h0⟩
def Pn (e:Ex):Nat→Ex
 | 0=>e
 | n+1=> .node 7 0 [Pn e n]
theorem Po: ∀e:Ex,e.wf 6=true→∃(b:Ex) (n:Nat),e=Pn b n∧b.op≠7∧b.wf 6=true∧TX 5 e=TX 6 b++List.replicate n 42:=ind fun o l ks ih h=>by
 by_cases ho:o=7
 ·subst ho
  obtain ⟨k,rfl,hk,rfl⟩:=Ej h (.inl rfl)
  obtain ⟨b,n,h1,U,h3,h4⟩:=ih k (by simp) hk
  exact ⟨b,n+1,by rw[h1];rfl,U,h3,by rw[amm,h4,List.replicate_succ',cv]⟩
 ·exact ⟨.node o l ks,0,rfl,ho,h,by rw[amn (show (Ex.node o l ks).op≠7 from ho)];simp⟩
theorem Pp {e:Ex} (h:e.wf 6=true): ∃c t,TX 5 e=c::t∧Ei c:=by
 obtain ⟨b,n,_,_,h3,h4⟩:=Po e h
 obtain ⟨c,t,h5,h6⟩:=amo h3
 exact ⟨c,t++List.replicate n 42,by rw[h4,h5];rfl,h6⟩
theorem amp {e:Ex} (h:e.wf 6=true): ∃c t,TX 4 e=c::t∧(c=33∨Ei c):=by
 by_cases ho:e.op=8
 ·obtain ⟨o,l,ks⟩:=e
  obtain rfl:o=8:=ho
  obtain ⟨k,rfl,_⟩:=Ej h (.inr rfl)
  exact ⟨33,TX 4 k,Eg _ _,.inl rfl⟩
 ·obtain ⟨c,t,h1,U⟩:=Pp h
  exact ⟨c,t,by rw[Eh ho,h1],.inr U⟩
def gO (m:Int) (c:UInt8):Prop:=if m=1 then c=41 else if m=2 then c=41∨c=124 else if m=3 then c=41∨c=124∨c=38 else if m=6 then True else c≠42
def fo (m:Int) (r:List UInt8):Prop:= ∀c t,r=c::t→gO m c
theorem Zg {m:Int}:fo m []:=fun c t h=>by cases h
theorem Pq {m:Int} {c:UInt8} {t:List UInt8} (h:gO m c):fo m (c::t):=fun c' t' e=>by cases e;exact h
def j9 (m:Int) (e:Ex):Prop:= ∀(e':Ex) (r r':List UInt8),e'.wf 6=true→fo m r→fo m r'→TX m e++r=TX m e'++r'→e=e'∧r=r'
theorem Ek {o:Int} {e:Ex} (h:e.wf 6=true): ∀x∈mb o e,x.wf 6=true:=fun x hx=>by
 unfold mb at hx
 split at hx
 ·obtain ⟨o,l,ks⟩:=e
  exact (gf h).2 x hx
 ·rw[ez.1 hx];exact h
theorem Zh {o:Int} {e:Ex} (ho:4≤o∧o≤6) (h:e.wf 6=true): ∃x xs,mb o e=x::xs:=by
 unfold mb
 split
 ·next lU=>
  obtain ⟨o,l,ks⟩:=e
  obtain ⟨h1,U⟩:=gf h
  simp only[Ex.op] at lU
  match ks,h1 with
  | [],h1=>rcases eH h1 with h|⟨_,h⟩<;>simp at h<;>omega
  | x::xs,_=>exact ⟨x,xs,rfl⟩
 ·exact ⟨e,[],rfl⟩
theorem amq {o:Int} {e e':Ex} (ho:4≤o∧o≤6) (h:e.wf 6=true) (h':e'.wf 6=true) (he:mb o e=mb o e'):e=e':=by
 have hl: ∀{x:Ex},x.wf 6=true→x.op=o→x.letter=0∧2≤x.kids.length:=fun {x} hx Lf=>by
  obtain ⟨o,l,ks⟩:=x
  obtain ⟨h1,U⟩:=gf hx
  simp only[Ex.op,Ex.letter,Ex.kids] at*
  rcases eH h1 with h|⟨_,h⟩<;>omega
 unfold mb at he
 by_cases h1:e.op=o
 ·obtain ⟨a1,a2⟩:=hl h h1
  rw[ah h1] at he
  by_cases U:e'.op=o
  ·obtain ⟨b1,b2⟩:=hl h' U
   rw[ah U] at he
   obtain ⟨o1,l1,k1⟩:=e
   obtain ⟨o2,l2,k2⟩:=e'
   simp only[Ex.op,Ex.letter,Ex.kids] at*
   subst he h1 U a1 b1
   rfl
  ·rw[ai U] at he
   rw[he] at a2
   simp at a2
 ·rw[ai h1] at he
  by_cases U:e'.op=o
  ·obtain ⟨b1,b2⟩:=hl h' U
   rw[ah U] at he
   rw[←he] at b2
   simp at b2
  ·rw[ai U] at he
   exact (fE he).1
section
variable {sep:List UInt8} {m:Int} (hh: ∀y:Ex,y.wf 6=true→∃c t,sep++TX m y=c::t∧gO m c∧¬gO (m-1) c) (hf: ∀c,gO (m-1) c→gO m c)
include hh hf
theorem Jd {ys:List Ex} {r:List UInt8} (hy: ∀y∈ys,y.wf 6=true) (hr:fo (m-1) r):fo m (texts sep m false ys++r):=by
 cases ys with
 | nil=>exact fun c t e=>hf c (hr c t e)
 | cons y ys=>
  obtain ⟨c,t,h1,U,h3⟩:=hh y (hy y (by simp))
  rw[Ee,←cv sep,h1]
  exact Pq U
theorem Zi: ∀(xs ys:List Ex) (r r':List UInt8),(∀x∈xs,x.wf 6=true∧j9 m x)→(∀y∈ys,y.wf 6=true)→fo (m-1) r→fo (m-1) r'→texts sep m false xs++r=texts sep m false ys++r'→xs=ys∧r=r'
 | [],[],r,r',_,_,_,_,h=>⟨rfl,h⟩
 | [],y::ys,r,r',_,hy,hr,_,h=>by
  obtain ⟨c,t,h1,U,h3⟩:=hh y (hy y (by simp))
  rw[Ee,←cv sep,h1] at h
  exact absurd (hr c _ (by simpa[texts] using h)) h3
 | x::xs,[],r,r',hx,_,_,hr,h=>by
  obtain ⟨c,t,h1,U,h3⟩:=hh x (hx x (by simp)).1
  rw[Ee,←cv sep,h1] at h
  exact absurd (hr c _ (by simpa[texts] using h.symm)) h3
 | x::xs,y::ys,r,r',hx,hy,hr,gD,h=>by
  rw[Ee,Ee,cv,cv,cv,cv] at h
  obtain ⟨rfl,U⟩:=(hx x (by simp)).2 y _ _ (hy y (by simp)) (Jd hh hf (fun z hz=>(hx z (by simp[hz])).1) hr) (Jd hh hf (fun z hz=>hy z (by simp[hz])) gD) (List.append_cancel_left h)
  obtain ⟨rfl,h3⟩:=Zi xs ys r r' (fun z hz=>hx z (by simp[hz])) (fun z hz=>hy z (by simp[hz])) hr gD U
  exact ⟨rfl,h3⟩
theorem Pr {o:Int} (ho:4≤o∧o≤6) (ht: ∀e:Ex,TX (m-1) e=texts sep m true (mb o e)) {e:Ex} (he:e.wf 6=true) (ih: ∀x∈mb o e,j9 m x):j9 (m-1) e:=by
 intro e' r r' gZ hr gD h
 rw[ht,ht] at h
 obtain ⟨x,xs,hx⟩:=Zh ho he
 obtain ⟨y,ys,hy⟩:=Zh ho gZ
 have wx:=Ek (o:=o) he
 have wy:=Ek (o:=o) gZ
 rw[hx] at wx ih
 rw[hy] at wy
 rw[hx,hy,Ef,Ef,cv,cv] at h
 obtain ⟨rfl,U⟩:=ih x (by simp) y _ _ (wy y (by simp)) (Jd hh hf (fun z hz=>wx z (by simp[hz])) hr) (Jd hh hf (fun z hz=>wy z (by simp[hz])) gD) h
 obtain ⟨rfl,h3⟩:=Zi hh hf xs ys r r' (fun z hz=>⟨wx z (by simp[hz]),ih z (by simp[hz])⟩) (fun z hz=>wy z (by simp[hz])) hr gD U
 exact ⟨amq ho he gZ (by rw[hx,hy]),h3⟩
end
theorem Ps {c:UInt8} (h:Ei c):c≠33∧c≠41∧c≠42∧c≠124∧c≠38:=by
 rcases h with rfl|rfl|rfl|rfl|rfl|rfl|rfl|rfl|rfl<;>decide
theorem amr {e:Ex} (he:e.wf 6=true) (ih: ∀x∈mb 4 e,j9 2 x):j9 1 e:=
 Pr (sep:=[124]) (m:=2) (fun y _=>⟨124,_,rfl,by simp[gO],by simp[gO]⟩) (fun c h=>by simp[gO] at h⊢;exact .inl h) (o:=4) (by omega) Zd he ih
theorem uw {e:Ex} (he:e.wf 6=true) (ih: ∀x∈mb 6 e,j9 3 x):j9 2 e:=
 Pr (sep:=[38]) (m:=3) (fun y _=>⟨38,_,rfl,by simp[gO],by simp[gO]⟩) (fun c h=>by simp[gO] at h⊢;rcases h with h|h<;>simp[h]) (o:=6) (by omega) Ze he ih
theorem ams {e:Ex} (he:e.wf 6=true) (ih: ∀x∈mb 5 e,j9 4 x):j9 3 e:=
 Pr (sep:=[]) (m:=4) (fun y hy=>by
  obtain ⟨c,t,h1,U⟩:=amp hy
  refine ⟨c,t,h1,?_⟩
  rcases U with rfl|U
  ·simp[gO]
  ·have:=Ps U
   simp[gO,this]) (fun c h=>by simp[gO] at h⊢;rcases h with rfl|rfl|rfl<;>decide) (o:=5) (by omega) Zf he ih
theorem amt {e:Ex} (he:e.wf 6=true) (ih8: ∀k,e= .node 8 0 [k]→j9 4 k) (ih:e.op≠8→j9 5 e):j9 4 e:=by
 intro e' r r' gZ hr gD h
 by_cases h1:e.op=8
 ·obtain ⟨o,l,ks⟩:=e
  obtain rfl:o=8:=h1
  obtain ⟨k,rfl,hk,rfl⟩:=Ej he (.inr rfl)
  rw[Eg] at h
  by_cases U:e'.op=8
  ·obtain ⟨o',l',cx⟩:=e'
   obtain rfl:o'=8:=U
   obtain ⟨k',rfl,dt,rfl⟩:=Ej gZ (.inr rfl)
   rw[Eg] at h
   obtain ⟨rfl,h3⟩:=ih8 k rfl k' r r' dt hr gD (fE h).2
   exact ⟨rfl,h3⟩
  ·rw[Eh U] at h
   obtain ⟨c,t,h3,h4⟩:=Pp gZ
   rw[h3] at h
   exact absurd (fE h).1.symm (Ps h4).1
 ·rw[Eh h1] at h
  by_cases U:e'.op=8
  ·obtain ⟨o',l',cx⟩:=e'
   obtain rfl:o'=8:=U
   obtain ⟨k',rfl,dt,rfl⟩:=Ej gZ (.inr rfl)
   rw[Eg] at h
   obtain ⟨c,t,h3,h4⟩:=Pp he
   rw[h3] at h
   exact absurd (fE h).1 (Ps h4).1
  ·rw[Eh U] at h
   exact ih h1 e' r r' gZ (by simpa[fo,gO] using hr) (by simpa[fo,gO] using gD) h
theorem Zj {r r':List UInt8} (hr:fo 5 r) (gD:fo 5 r'): ∀{n n':Nat},List.replicate n 42++r=List.replicate n' 42++r'→n=n'∧r=r'
 | 0,0,h=>⟨rfl,h⟩
 | 0,n+1,h=>by
  have:=hr 42 (List.replicate n 42++r') (by simpa[List.replicate_succ] using h)
  simp[gO] at this
 | n+1,0,h=>by
  have:=gD 42 (List.replicate n 42++r) (by simpa[List.replicate_succ] using h.symm)
  simp[gO] at this
 | n+1,n'+1,h=>by
  rw[List.replicate_succ,List.replicate_succ] at h
  obtain ⟨rfl,U⟩:=Zj hr gD (fE h).2
  exact ⟨rfl,U⟩
theorem Zk (r:List UInt8):fo 6 r:=fun c t _=>by simp[gO]
theorem amu {b:Ex} {n:Nat} {e:Ex} (h1:e=Pn b n) (U:TX 5 e=TX 6 b++List.replicate n 42) (ih:j9 6 b):j9 5 e:=by
 intro e' r r' gZ hr gD h
 obtain ⟨b',n',e1,e2,e3,e4⟩:=Po e' gZ
 rw[U,e4,cv,cv] at h
 obtain ⟨rfl,h3⟩:=ih b' _ _ e3 (Zk _) (Zk _) h
 obtain ⟨rfl,h4⟩:=Zj hr gD h3
 exact ⟨by rw[h1,e1],h4⟩
theorem amv {e:Ex} (he:e.wf 6=true) (ih:4≤e.op∧e.op≤8→j9 1 e):j9 6 e:=by
 intro e' r r' gZ hr gD h
 have hl: ∀l:Int,TX 6 (.node 3 l [])=[UInt8.ofNat (97+l).toNat]:=fun l=>by simp[TX,eL,gl,Ex.op,text]
 have t1:TX 6 (.node 1 0 [])=[48]:=rfl
 have t2:TX 6 (.node 2 0 [])=[49]:=rfl
 rcases Pm he with (rfl|rfl|⟨l,h0,h1,rfl⟩)|ho<;>rcases Pm gZ with (rfl|rfl|⟨l',xS,fJ,rfl⟩)|jz
 ·exact ⟨rfl,List.append_cancel_left h⟩
 ·rw[t1,t2] at h;cases (fE h).1
 ·rw[t1,hl] at h
  have:=(fE h).1
  rcases sB xS fJ with h|h|h|h|h|h<;>(rw[h.1] at this;cases this)
 ·rw[t1,qK jz] at h;cases (fE h).1
 ·rw[t1,t2] at h;cases (fE h).1
 ·exact ⟨rfl,List.append_cancel_left h⟩
 ·rw[t2,hl] at h
  have:=(fE h).1
  rcases sB xS fJ with h|h|h|h|h|h<;>(rw[h.1] at this;cases this)
 ·rw[t2,qK jz] at h;cases (fE h).1
 ·rw[t1,hl] at h
  have:=(fE h).1
  rcases sB h0 h1 with h|h|h|h|h|h<;>(rw[h.1] at this;cases this)
 ·rw[t2,hl] at h
  have:=(fE h).1
  rcases sB h0 h1 with h|h|h|h|h|h<;>(rw[h.1] at this;cases this)
 ·rw[hl,hl] at h
  obtain ⟨U,h3⟩:=fE h
  refine ⟨?_,h3⟩
  have:l=l':=by
   rcases sB h0 h1 with ⟨a,rfl⟩|⟨a,rfl⟩|⟨a,rfl⟩|⟨a,rfl⟩|⟨a,rfl⟩|⟨a,rfl⟩<;>rcases sB xS fJ with ⟨b,rfl⟩|⟨b,rfl⟩|⟨b,rfl⟩|⟨b,rfl⟩|⟨b,rfl⟩|⟨b,rfl⟩<;>first|rfl|(rw[a,b] at U;cases U)
  rw[this]
 ·rw[hl,qK jz] at h
  have:=(fE h).1
  rcases sB h0 h1 with h|h|h|h|h|h<;>(rw[h.1] at this;cases this)
 ·rw[t1,qK ho] at h;cases (fE h).1
 ·rw[t2,qK ho] at h;cases (fE h).1
 ·rw[hl,qK ho] at h
  have:=(fE h).1
  rcases sB xS fJ with h|h|h|h|h|h<;>(rw[h.1] at this;cases this)
 ·rw[qK ho,qK jz] at h
  have U:(TX 1 e++[41])++r=(TX 1 e'++[41])++r':=(fE h).2
  rw[cv,cv] at U
  obtain ⟨h3,h4⟩:=ih ho e' _ _ gZ (Pq (by simp[gO])) (Pq (by simp[gO])) U
  exact ⟨h3,(fE h4).2⟩
theorem Je {sep:List UInt8} {m:Int}: ∀{xs:List Ex} {f:Bool} {x:Ex},x∈xs→(TX m x).length≤(texts sep m f xs).length
 | y::ys,f,x,h=>by
  simp only[texts,cz]
  rcases dp.1 h with rfl|h
  ·show (eL x.op m x.text).length≤_;omega
  ·have:=Je (sep:=sep) (m:=m) (f:=false) h
   omega
theorem Zl: ∀(n:Nat) (m:Int) (e:Ex),1≤m→m≤6→e.wf 6=true→8*(TX m e).length+(7-m).toNat<n→j9 m e
 | 0,m,e,_,_,_,h=>by omega
 | n+1,m,e,h1,h6,he,h=>by
  have ih:=Zl n
  rcases (show m=1∨m=2∨m=3∨m=4∨m=5∨m=6 by omega) with rfl|rfl|rfl|rfl|rfl|rfl
  ·refine amr he fun x hx=>ih 2 x (by omega) (by omega) (Ek he x hx) ?_
   have:=Je (sep:=[124]) (m:=2) (f:=true) hx
   rw[Zd] at h
   omega
  ·refine uw he fun x hx=>ih 3 x (by omega) (by omega) (Ek he x hx) ?_
   have:=Je (sep:=[38]) (m:=3) (f:=true) hx
   rw[Ze] at h
   omega
  ·refine ams he fun x hx=>ih 4 x (by omega) (by omega) (Ek he x hx) ?_
   have:=Je (sep:=[]) (m:=4) (f:=true) hx
   rw[Zf] at h
   omega
  ·refine amt he (fun k hk=> ?_) fun ho=> ?_
   ·subst hk
    rw[Eg,List.length_cons] at h
    exact ih 4 k (by omega) (by omega) ((gf he).2 k (by simp)) (by omega)
   ·rw[Eh ho] at h
    exact ih 5 e (by omega) (by omega) he (by omega)
  ·obtain ⟨b,k,e1,e2,e3,e4⟩:=Po e he
   refine amu e1 e4 (ih 6 b (by omega) (by omega) e3 ?_)
   rw[e4,cz] at h
   omega
  ·refine amv he fun ho=>ih 1 e (by omega) (by omega) he ?_
   rw[qK ho,List.length_cons,cz] at h
   simp only[List.length_cons,List.length_nil] at h
   omega
theorem Zm (e:Ex):TX 1 e=e.text:=by
 unfold TX eL
 rw[ai]
 unfold gl
 repeat' split
 all_goals omega
theorem Zn {a b:Ex} (ha:a.wf 6=true) (hb:b.wf 6=true) (h:a.text=b.text):a=b:=
 (Zl _ 1 a (by omega) (by omega) ha (z7 _) b [] [] hb Zg Zg (by rw[Zm,Zm,h])).1
end Go.AM
set_option maxRecDepth 100000
namespace Go.AM
open Go.Proofs
noncomputable def Zo (C:ae) (aj ar:Int) (ag:List V):Option (List V):=
 (C yw [.int .i64 aj,.int .i64 ar,.list aa ag]).bind fun r1=>
 bif !((V.nth r1 0).toBool) then
  some [.str []]
 else
  (C tk [.int .i64 aj,.int .i64 ar,.list aa ag,.list db ([]:List V)]).bind fun r2=>
  (C G8 [.list db ((V.nth r2 0).toList)]).bind fun r3=>
  some [.str ((V.nth r3 0).toStr)]
theorem amw {aj ar:Int} {ag:List V} {r:Option (List V)} (h:Zo CC aj ar ag=r):CC yA [.int .i64 aj,.int .i64 ar,.list aa ag]=r:=
 aZ (key:=38) (L:=bX) (bs:=[]) (by kernel_rfl) aw (aX (by kernel_rfl) h)
noncomputable abbrev iQ:Code:=cj Tryz.prog (av.aQ 50)
noncomputable def Jf (C:ae) (t5:Int) (t28:Bool) (eu dH:Int) (dj au:List V) {β:Type} (kr:(List V)→Option β):Option β:=
 bif t28 then
  (C tn [.list aa dj,.str [38],.int .i64 3,.list db au]).bind fun r5=>
  kr ((V.nth r5 0).toList)
 else
  bif (t5:Int)==5 then
  (C tn [.list aa dj,.str [],.int .i64 4,.list db au]).bind fun r6=>
  kr ((V.nth r6 0).toList)
  else
  bif (t5:Int)==8 then
   (C qk [.int .u8 33,.list db au]).bind fun r7=>
   (C tn [.list aa dj,.str [],.int .i64 4,.list db ((V.nth r7 0).toList)]).bind fun r8=>
   kr ((V.nth r8 0).toList)
  else
   bif (t5:Int)==7 then
   (C tn [.list aa dj,.str [],.int .i64 5,.list db au]).bind fun r9=>
   (C qk [.int .u8 42,.list db ((V.nth r9 0).toList)]).bind fun dY=>
   kr ((V.nth dY 0).toList)
   else
   kr au
noncomputable def Jg (C:ae) (t5:Int) (t22:Bool) (eu dH:Int) (dj au:List V) {β:Type} (kr:(List V)→Option β):Option β:=
 bif t22 then
  (C tn [.list aa dj,.str [124],.int .i64 2,.list db au]).bind fun r4=>
  kr ((V.nth r4 0).toList)
 else
  Jf C t5 ((t5:Int)==6) eu dH dj au (fun (m8:List V)=>
   kr m8)
noncomputable def Jh (C:ae) (t5:Int) (t14:Bool) (eu dH:Int) (dj au:List V) {β:Type} (kr:(List V)→Option β):Option β:=
 bif t14 then
  (C qk [.int .u8 (IntKind.wrap .u8 (97+(IntKind.wrap .u8 dH))),.list db au]).bind fun r3=>
  kr ((V.nth r3 0).toList)
 else
  Jg C t5 ((t5:Int)==4) eu dH dj au (fun (v8:List V)=>
   kr v8)
noncomputable def Ji (C:ae) (t5:Int) (t10:Bool) (eu dH:Int) (dj au:List V) {β:Type} (kr:(List V)→Option β):Option β:=
 bif t10 then
  (C qk [.int .u8 49,.list db au]).bind fun r2=>
  kr ((V.nth r2 0).toList)
 else
  Jh C t5 ((t5:Int)==3) eu dH dj au (fun (vW:List V)=>
   kr vW)
noncomputable def Jj (C:ae) (t5:Int) (t6:Bool) (eu dH:Int) (dj au:List V) {β:Type} (kr:(List V)→Option β):Option β:=
 bif t6 then
  (C qk [.int .u8 48,.list db au]).bind fun r1=>
  kr ((V.nth r1 0).toList)
 else
  Ji C t5 ((t5:Int)==2) eu dH dj au (fun (CQ:List V)=>
   kr CQ)
noncomputable def Zp (C:ae):b8:=fun β n ds k=>
 bif Nat.beq n 463 then iH Mk [[0]] (@Jf C) ds k else
 bif Nat.beq n 367 then iH Ml [[0]] (@Jg C) ds k else
 bif Nat.beq n 239 then iH Mm [[0]] (@Jh C) ds k else
 bif Nat.beq n 175 then iH Mn [[0]] (@Ji C) ds k else
 bif Nat.beq n 111 then iH Mo [[0]] (@Jj C) ds k else
 none
abbrev El (C:ae) (b:bZ):Prop:=b6 Tryz.prog av C (Zp C) 50 (cl Tryz.prog (av.aQ 50)) (av.sin 50).bc.length b
theorem amx (C:ae):El C (.cond 28 (ax [1,1,0,1,1,1,1,1,1,1,1,1,0] iQ) (ax [1,1,0,1,1,1,1,1,1,1,1,1,1] iQ)):=
 jn Mk [[0]] (@Jf C) (by kernel_rfl) (a9 (bs:=[]) (by kernel_rfl) aw) (a9 (bs:=[]) (by kernel_rfl) aw) (fun ds=>by kernel_rfl) (fun i β k=>by kernel_rfl) (fun β ds k=>by kernel_rfl)
theorem amy (C:ae):El C (.cond 22 (ax [1,1,0,1,1,1,1,1,1,1,0] iQ) (ax [1,1,0,1,1,1,1,1,1,1,1] iQ)):=
 jn Ml [[0]] (@Jg C) (by kernel_rfl) (a9 (bs:=[]) (by kernel_rfl) aw) (a9 (bs:=[.cond 28 (ax [1,1,0,1,1,1,1,1,1,1,1,1,0] iQ) (ax [1,1,0,1,1,1,1,1,1,1,1,1,1] iQ)]) (by kernel_rfl) (br (amx C) aw)) (fun ds=>by kernel_rfl) (fun i β k=>by kernel_rfl) (fun β ds k=>by kernel_rfl)
theorem amz (C:ae):El C (.cond 14 (ax [1,1,0,1,1,1,1,1,0] iQ) (ax [1,1,0,1,1,1,1,1,1] iQ)):=
 jn Mm [[0]] (@Jh C) (by kernel_rfl) (a9 (bs:=[]) (by kernel_rfl) aw) (a9 (bs:=[.cond 22 (ax [1,1,0,1,1,1,1,1,1,1,0] iQ) (ax [1,1,0,1,1,1,1,1,1,1,1] iQ)]) (by kernel_rfl) (br (amy C) aw)) (fun ds=>by kernel_rfl) (fun i β k=>by kernel_rfl) (fun β ds k=>by kernel_rfl)
theorem amA (C:ae):El C (.cond 10 (ax [1,1,0,1,1,1,0] iQ) (ax [1,1,0,1,1,1,1] iQ)):=
 jn Mn [[0]] (@Ji C) (by kernel_rfl) (a9 (bs:=[]) (by kernel_rfl) aw) (a9 (bs:=[.cond 14 (ax [1,1,0,1,1,1,1,1,0] iQ) (ax [1,1,0,1,1,1,1,1,1] iQ)]) (by kernel_rfl) (br (amz C) aw)) (fun ds=>by kernel_rfl) (fun i β k=>by kernel_rfl) (fun β ds k=>by kernel_rfl)
theorem amB (C:ae):El C (.cond 6 (ax [1,1,0,1,0] iQ) (ax [1,1,0,1,1] iQ)):=
 jn Mo [[0]] (@Jj C) (by kernel_rfl) (a9 (bs:=[]) (by kernel_rfl) aw) (a9 (bs:=[.cond 10 (ax [1,1,0,1,1,1,0] iQ) (ax [1,1,0,1,1,1,1] iQ)]) (by kernel_rfl) (br (amA C) aw)) (fun ds=>by kernel_rfl) (fun i β k=>by kernel_rfl) (fun β ds k=>by kernel_rfl)
noncomputable def Zq (C:ae) (aj ar:Int) (ag bS:List V):Option (List V):=
 Jj C aj ((aj:Int)==1) aj ar ag bS (fun (CR:List V)=>
  some [.list db CR])
theorem amC {aj ar:Int} {ag bS:List V} {r:Option (List V)} (h:Zq CC aj ar ag bS=r):CC tk [.int .i64 aj,.int .i64 ar,.list aa ag,.list db bS]=r:=
 aZ (key:=50) (L:=Zp CC) (bs:=[.cond 6 (ax [1,1,0,1,0] iQ) (ax [1,1,0,1,1] iQ)]) (by kernel_rfl) (br (amB CC) aw) (aX (by kernel_rfl) h)
noncomputable abbrev zW:Code:=cj Tryz.prog (av.aQ 70)
noncomputable def Em (C:ae) (separator:List UInt8) (least:Int) (t10:List V) (t11 t12:Int) (t18:Bool) (NV NW:Int) (NX au:List V) {β:Type} (kr:(List V)→Option β):Option β:=
 bif t18 then
  (C Hc [.str separator,.list db au]).bind fun r2=>
  kr ((V.nth (r2.drop 1) 0).toList)
 else
  kr au
noncomputable def En (C:ae) (separator:List UInt8) (least:Int) (t10:List V) (t11 t12:Int) (ch:List V) {β:Type} (kn:(Int × (List V))→Option β) (kr:(Int × Bool × (List V))→Option β):Option β:=
 bif decide ((t12:Int)<t11) then
  (idx t10 t12).bind fun x1=>
  Em C separator least t10 t11 t12 (decide ((t12:Int)>0)) ((x1.cell 0).toInt) ((x1.cell 1).toInt) ((x1.cell 2).toList) ch (fun (I4:List V)=>
   (C Hd [.int .i64 ((x1.cell 0).toInt)]).bind fun r4=>
   bif decide ((((V.nth r4 0).toInt):Int)≥least) then
   (C tk [.int .i64 ((x1.cell 0).toInt),.int .i64 ((x1.cell 1).toInt),.list aa ((x1.cell 2).toList),.list db I4]).bind fun r5=>
   kn (IntKind.wrap .i64 (t12+1),(V.nth r5 0).toList)
   else
   (C qk [.int .u8 40,.list db I4]).bind fun r6=>
   (C tk [.int .i64 ((x1.cell 0).toInt),.int .i64 ((x1.cell 1).toInt),.list aa ((x1.cell 2).toList),.list db ((V.nth r6 0).toList)]).bind fun r7=>
   (C qk [.int .u8 41,.list db ((V.nth r7 0).toList)]).bind fun r8=>
   kn (IntKind.wrap .i64 (t12+1),(V.nth r8 0).toList))
 else
  kr (t12,decide ((t12:Int)<t11),ch)
noncomputable def Eo (C:ae) (separator:List UInt8) (least:Int) (t10:List V) (t11:Int):(Int × (List V))→Option ((Int × (List V)) ⊕ (Int × Bool × (List V))):=un fun t12 ch=>En C separator least t10 t11 t12 ch (fun y=>some (.inl y)) (fun r=>some (.inr r))
noncomputable def Zr (C:ae):b8:=fun β n ds k=>
 bif Nat.beq n 303 then iH Mv [[1,2,3,4,5,7,8,9,0]] (@Em C) ds k else
 bif Nat.beq n 17 then bM Mw [false,false,false,false,true,true] [[1,2,3,4,0,0,0]] (@En C) ds k else
 none
abbrev Zs (C:ae) (b:bZ):Prop:=b6 Tryz.prog av C (Zr C) 70 (cl Tryz.prog (av.aQ 70)) (av.sin 70).bc.length b
theorem amD (C:ae):Zs C (.cond 18 (ax [1,0,0,1,1,0,0,1,0,1,0] zW) (ax [1,0,0,1,1,0,0,1,0,1,1] zW)):=
 jn Mv [[1,2,3,4,5,7,8,9,0]] (@Em C) (by kernel_rfl) (a9 (bs:=[]) (by kernel_rfl) aw) (a9 (bs:=[]) (by kernel_rfl) aw) (fun ds=>by kernel_rfl) (fun i β k=>by kernel_rfl) (fun β ds k=>by kernel_rfl)
theorem amE (C:ae):Zs C (.loop (ax [1,0,0] zW)):=
 bP Mw [false,false,false,false,true,true] [[1,2,3,4,0,0,0]] (@En C) (by kernel_rfl) (a9 (bs:=[.cond 18 (ax [1,0,0,1,1,0,0,1,0,1,0] zW) (ax [1,0,0,1,1,0,0,1,0,1,1] zW)]) (by kernel_rfl) (br (amD C) aw)) (fun ds=>by kernel_rfl) (fun i x=>by kernel_rfl) (fun i x β k=>by kernel_rfl) (fun β ds k=>by kernel_rfl)
noncomputable def Zt (C:ae) (kids:List V) (separator:List UInt8) (least:Int) (bS:List V):Option (List V):=
 (Loop (Eo C separator least kids (kids.length:Int)) (0,bS)).bind (un fun (oe:Int)=>un fun (tz:Bool) (m8:List V)=>
  some [.list db m8])
theorem amF {kids:List V} {separator:List UInt8} {least:Int} {bS:List V} {r:Option (List V)} (h:Zt CC kids separator least bS=r):CC tn [.list aa kids,.str separator,.int .i64 least,.list db bS]=r:=
 aZ (key:=70) (L:=Zr CC) (bs:=[.loop (ax [1,0,0] zW)]) (by kernel_rfl) (br (amE CC) aw) (aX (by kernel_rfl) h)
noncomputable def Zu (C:ae) (op:Int):Option (List V):=
 bif (op:Int)==4 then
  some [.int .i64 1]
 else
  bif (op:Int)==6 then
  some [.int .i64 2]
  else
  bif (op:Int)==5 then
   some [.int .i64 3]
  else
   bif (op:Int)==8 then
   some [.int .i64 4]
   else
   bif (op:Int)==7 then
    some [.int .i64 5]
   else
    some [.int .i64 6]
theorem amG {op:Int} {r:Option (List V)} (h:Zu CC op=r):CC Hd [.int .i64 op]=r:=
 aZ (key:=83) (L:=bX) (bs:=[]) (by kernel_rfl) aw (aX (by kernel_rfl) h)
noncomputable def Zv (C:ae) (c:Int) (bS:List V):Option (List V):=
 bif Nat.ble ((bS.length+([.int .u8 c]:List V).length)*1) cJ then
  some [.list db (bS++([.int .u8 c]:List V))]
 else none
theorem amH {c:Int} {bS:List V} {r:Option (List V)} (h:Zv CC c bS=r):CC qk [.int .u8 c,.list db bS]=r:=
 aZ (key:=69) (L:=bX) (bs:=[]) (by kernel_rfl) aw (aX (by kernel_rfl) h)
noncomputable def Zw (C:ae) (s:List UInt8) (bS:List V):Option (List V):=
 bif Nat.ble ((bS.length+(s.map dG).length)*1) cJ then
  some [.int .i64 (s.length:Int),.list db (bS++(s.map dG))]
 else none
theorem amI {s:List UInt8} {bS:List V} {r:Option (List V)} (h:Zw CC s bS=r):CC Hc [.str s,.list db bS]=r:=
 aZ (key:=82) (L:=bX) (bs:=[]) (by kernel_rfl) aw (aX (by kernel_rfl) h)
noncomputable def Zx (C:ae) (bS:List V):Option (List V):=
 bif Nat.blt 0 bS.length then
  bif decide (0<(bS.length:Int))&&(decide ((bS.length:Int)≤(bS.length:Int))&&(Nat.ble (((bS.length:Int):Int).toNat) nz&&(bS.take (((bS.length:Int):Int).toNat)).all xp)) then
  some [.str (kZ (bS.take (((bS.length:Int):Int).toNat)))]
  else none
 else none
theorem amJ {bS:List V} {r:Option (List V)} (h:Zx CC bS=r):CC G8 [.list db bS]=r:=
 aZ (key:=51) (L:=bX) (bs:=[]) (by kernel_rfl) aw (aX (by kernel_rfl) h)
end Go.AM
set_option maxRecDepth 100000
namespace Go.AM
open Go.Proofs Ex
theorem wY (c:UInt8) (b:List UInt8) (h:b.length<2^40):CC qk [.int .u8 c.toNat,.list db (b.map dG)]=some [.list db ((b++[c]).map dG)]:=by
 refine amH ?_
 unfold Zv
 simp only[yi]
 rw[ah (by simp[cJ];omega)]
 simp[dG]
theorem amK (s b:List UInt8) (h:b.length+s.length<2^40):CC Hc [.str s,.list db (b.map dG)]=some [.int .i64 s.length,.list db ((b++s).map dG)]:=by
 refine amI ?_
 unfold Zw
 simp only[yi]
 rw[ah (by simp[cJ];omega)]
 simp
theorem amL (b:List UInt8):kZ (b.map dG)=b:=by
 unfold kZ
 rw[List.map_map]
 have:((fun x:V=>UInt8.ofNat x.toInt.toNat) ∘ dG)=id:=by
  funext c
  simp[dG]
 rw[this,List.map_id]
theorem amM (b:List UInt8) (h0:b≠[]) (h:b.length<2^40):CC G8 [.list db (b.map dG)]=some [.str b]:=by
 refine amJ ?_
 unfold Zx
 have hp:0<b.length:=by cases b<;>simp at h0⊢
 have h1:Nat.blt 0 (b.map dG).length=true:=by rw[jH];simpa using hp
 have U:(((b.map dG).length:Int)).toNat=(b.map dG).length:=by simp
 have h3:Nat.ble (b.map dG).length nz=true:=Nat.ble_eq_true_of_le (by simp[nz];omega)
 have h4:(b.map dG).all xp=true:=by
  rw[fc]
  intro x hx
  obtain ⟨c,_,rfl⟩:=eB.1 hx
  have:=c.toNat_lt
  simp[xp,dG]
  omega
 rw[h1,U,qO,h3,h4,amL]
 simp[hp]
theorem amN (op:Int):CC Hd [.int .i64 op]=some [.int .i64 (gl op)]:=by
 refine amG ?_
 unfold Zu gl
 simp only[dC]
 repeat' split
 all_goals rfl
theorem amO {ks:List Ex} (hlen:ks.length≤maxLen) (ih: ∀k∈ks,∀b:List UInt8,b.length+k.text.length<2^40→CC tk (bY k [.list db (b.map dG)])=some [.list db ((b++k.text).map dG)]) (sep:List UInt8) (least:Int):
  ∀(aH pre:List Ex) (b:List UInt8),ks=pre++aH→b.length+(texts sep least pre.isEmpty aH).length<2^40→
  ∃i t,Loop (Eo CC sep least (ks.map enc) ((ks.map enc).length:Int)) (((pre.length:Nat):Int),b.map dG)=some (i,t,(b++texts sep least pre.isEmpty aH).map dG):=by
 intro aH
 induction aH with
 | nil=>
  intro pre b bq hb
  subst bq
  refine ⟨((pre.length:Nat):Int),false,bj ?_⟩
  simp only[Eo,En,un,dz,bw,az,texts]
  rw[ai (by omega)]
  simp
 | cons k aH gb=>
  intro pre b bq hb
  have cb:pre.length<ks.length:=by rw[bq];simp
  have hm:k∈ks:=by rw[bq];simp
  have:=pf
  have cC:idx (ks.map enc) (pre.length:Int)=some k.enc:=by rw[bq];exact jD _ _ _
  generalize hU:(if pre.isEmpty then [] else sep)=sp
  have ht:texts sep least pre.isEmpty (k::aH)=sp++(eL k.op least k.text++texts sep least false aH):=by simp only[texts,hU]
  rw[ht] at hb⊢
  simp only[cz] at hb
  have eG:Eo CC sep least (ks.map enc) ((ks.map enc).length:Int) (((pre.length:Nat):Int),b.map dG)=some (.inl ((((pre++[k]).length:Nat):Int),(b++sp++eL k.op least k.text).map dG)):=by
   have h1: ∀{β:Type} (kr:List V→Option β) (o l:Int) (es:List V),Em CC sep least (ks.map enc) ((ks.length:Nat):Int) ((pre.length:Nat):Int) (decide (((pre.length:Nat):Int)>0)) o l es (b.map dG) kr=kr ((b++sp).map dG):=by
    intro β kr o l es
    unfold Em
    cases pre with
    | nil=>
     simp at hU
     subst hU
     simp
    | cons a pre=>
     simp at hU
     subst hU
     rw[amK _ _ (by omega)]
     have:(0:Int)<((a::pre).length:Int):=by simp only[List.length_cons];omega
     simp[this]
   simp only[Eo,En,un,bw,az]
   rw[ah (by omega),cC]
   simp only[Option.bind_some,bz,bA,bB]
   rw[h1,amN]
   simp only[Option.bind_some,V.aC,V.toInt_int,az]
   unfold eL at hb⊢
   by_cases hl:gl k.op<least
   ·rw[ai (by omega),ah hl]
    rw[ah hl] at hb
    simp only[List.length_cons,cz,List.length_nil] at hb
    rw[show (V.int .u8 40)= .int .u8 (((40:UInt8).toNat:Nat):Int) by rfl,show (V.int .u8 41)= .int .u8 (((41:UInt8).toNat:Nat):Int) by rfl]
    rw[wY _ _ (by simp;omega)]
    simp only[Option.bind_some,V.aC,V.bR]
    rw[ih k hm _ (by simp;omega)]
    simp only[Option.bind_some,V.aC,V.bR]
    rw[wY _ _ (by simp;omega),wrap64 (by omega) (by omega)]
    simp
   ·rw[ah (by omega),ai hl]
    rw[ai hl] at hb
    rw[ih k hm _ (by simp;omega)]
    simp only[Option.bind_some,V.aC,V.bR]
    rw[wrap64 (by omega) (by omega)]
    simp
  rw[bW eG]
  have hE:(pre++[k]).isEmpty=false:=by cases pre<;>rfl
  have h3:=gb (pre++[k]) (b++sp++eL k.op least k.text) (by rw[bq];simp)
  rw[hE] at h3
  obtain ⟨i,t,U⟩:=h3 (by simp only[cz];omega)
  refine ⟨i,t,U.trans ?_⟩
  simp
theorem amP {ks:List Ex} (hlen:ks.length≤maxLen) (ih: ∀k∈ks,∀b:List UInt8,b.length+k.text.length<2^40→CC tk (bY k [.list db (b.map dG)])=some [.list db ((b++k.text).map dG)]) (sep:List UInt8) (least:Int) (b:List UInt8)
  (hb:b.length+(texts sep least true ks).length<2^40):CC tn [.list aa (ks.map enc),.str sep,.int .i64 least,.list db (b.map dG)]=some [.list db ((b++texts sep least true ks).map dG)]:=by
 refine amF ?_
 unfold Zt
 obtain ⟨i,t,h⟩:=amO hlen ih sep least ks [] b rfl hb
 simp only[List.length_nil,Int.ofNat_zero,Int.natCast_zero,List.isEmpty_nil] at h
 erw [h]
 rfl
theorem amQ {l n:Int} (h:dx 3 l n 6=true):0≤l∧l<6:=by
 simp[dx] at h;omega
theorem Zy {o l n letters:Int} (ho:o<1∨8<o):dx o l n letters=false:=by
 have n1:o≠1:=by omega
 have n2:o≠2:=by omega
 have n3:o≠3:=by omega
 have n7:o≠7:=by omega
 have n8:o≠8:=by omega
 have n9: ¬(4≤o∧o≤6∧2≤n):=by omega
 simp[dx,n1,n2,n3,n7,n8,n9]
theorem amR: ∀e:Ex,e.Ok→e.wf 6=true→∀b:List UInt8,b.length+e.text.length<2^40→CC tk (bY e [.list db (b.map dG)])=some [.list db ((b++e.text).map dG)]:=
 ind fun o l ks ih ay rR b hb=>by
  obtain ⟨w1,w2⟩:=gf rR
  have hw:=fun sep least b=>amP ay.len (fun k hk=>ih k hk (ay.oa k hk) (w2 k hk)) sep least b
  refine amC ?_
  unfold Zq Jj Ji Jh Jg Jf
  simp only[Ex.op,Ex.letter,Ex.kids]
  rcases Cg o with rfl|rfl|rfl|rfl|rfl|rfl|rfl|rfl|ho
  case inr.inr.inr.inr.inr.inr.inr.inr=>rw[Zy ho] at w1;cases w1
  ·simp[text] at hb⊢
   rw[show (V.int .u8 48)= .int .u8 (((48:UInt8).toNat:Nat):Int) by rfl,wY _ _ (by omega)]
   simp
  ·simp[text] at hb⊢
   rw[show (V.int .u8 49)= .int .u8 (((49:UInt8).toNat:Nat):Int) by rfl,wY _ _ (by omega)]
   simp
  ·have hl:=amQ w1
   simp[text] at hb⊢
   rw[BB (x:=l) (by omega) (by omega),BB (by omega) (by omega)]
   have:(V.int .u8 (97+l))= .int .u8 (((UInt8.ofNat (97+l).toNat).toNat:Nat):Int):=by
    have:(97+l).toNat<256:=by omega
    simp only[UInt8.toNat_ofNat']
    congr 1
    omega
   rw[this,wY _ _ (by omega)]
   simp
  ·simp[text] at hb⊢
   rw[hw _ _ _ (by omega)]
   simp
  ·simp[text] at hb⊢
   rw[hw _ _ _ (by omega)]
   simp
  ·simp[text] at hb⊢
   rw[hw _ _ _ (by omega)]
   simp
  ·simp[text] at hb⊢
   rw[hw _ _ _ (by omega)]
   simp only[Option.bind_some,V.aC,V.bR]
   rw[show (V.int .u8 42)= .int .u8 (((42:UInt8).toNat:Nat):Int) by rfl,wY _ _ (by simp;omega)]
   simp
  ·simp[text] at hb⊢
   rw[show (V.int .u8 33)= .int .u8 (((33:UInt8).toNat:Nat):Int) by rfl,wY _ _ (by omega)]
   simp only[Option.bind_some,V.aC,V.bR]
   rw[hw _ _ _ (by simp;omega)]
   simp
theorem amS: ∀e:Ex,e.wf 6=true→e.text≠[]:=ind fun o l ks ih h=>by
 obtain ⟨w1,w2⟩:=gf h
 rcases Cg o with rfl|rfl|rfl|rfl|rfl|rfl|rfl|rfl|ho
 case inr.inr.inr.inr.inr.inr.inr.inr=>rw[Zy ho] at w1;cases w1
 case inr.inr.inr.inl=>
  intro hh
  match ks,w1,hh with
  | [],w1,_=>simp[dx] at w1
  | [a],w1,_=>simp[dx] at w1
  | a::b::l,_,hh=>simp[text,texts] at hh
 case inr.inr.inr.inr.inr.inl=>
  intro hh
  match ks,w1,hh with
  | [],w1,_=>simp[dx] at w1
  | [a],w1,_=>simp[dx] at w1
  | a::b::l,_,hh=>simp[text,texts] at hh
 case inr.inr.inr.inr.inl=>
  intro hh
  match ks,w1,w2,hh,ih with
  | [],w1,_,_,_=>simp[dx] at w1
  | a::ks,_,w2,hh,ih=>
   have:=ih a (by simp) (w2 a (by simp))
   simp[text,texts,eL] at hh
   split at hh
   ·simp at hh
   ·exact this hh.1
 all_goals simp[text]
theorem amT (e:Ex) (h:e.Ok):CC yA (bY e [])=some [.str (if e.val 6=0 then e.text else [])]:=by
 refine amw ?_
 unfold Zo
 rw[N3 e h]
 by_cases hv:e.val 6=0
 ·obtain ⟨_,U,h3⟩:=nf hv
  have hl:=Zc e
  have hw:=amR e h h3 [] (by simp;omega)
  simp only[fl,List.nil_append] at hw
  simp only[Option.bind_some,V.aC,V.cN,hv,oG,qQ,cond_false,cU]
  rw[hw]
  simp only[Option.bind_some,V.aC,V.bR]
  rw[amM _ (amS e h3) (by omega)]
  simp
 ·simp[hv]
end Go.AM
set_option maxRecDepth 100000
namespace Go.AM
structure Da where
 L:Nat
 st:Nat
 F:List Bool
 N:List (List Nat)
deriving DecidableEq
namespace Da
def n (d:Da):Nat:=d.F.length
def nx (d:Da) (q x:Nat):Nat:=(d.N.getD q []).getD x 0
def fin (d:Da) (q:Nat):Bool:=d.F.getD q false
def run (d:Da) (q:Nat) (w:List Nat):Nat:=w.foldl d.nx q
def acc (d:Da) (q:Nat) (w:List Nat):Bool:=d.fin (d.run q w)
structure Ok (d:Da):Prop where
 l1:1≤d.L
 l6:d.L≤6
 nN:d.N.length=d.n
 row: ∀r∈d.N,r.length=d.L∧∀q∈r,q<d.n
 s:d.st<d.n
 cS:d.n≤512
end Da
def WL (L:Nat) (w:List Nat):Prop:= ∀x∈w,x<L
theorem WL.nil {L:Nat}:WL L []:=fun _ h=>by cases h
theorem WL.cons {L x:Nat} {w:List Nat} (h:x<L) (hw:WL L w):WL L (x::w):=fun y hy=>by
 rcases dp.1 hy with rfl|hy
 ·exact h
 ·exact hw y hy
theorem WL.tail {L x:Nat} {w:List Nat} (h:WL L (x::w)):WL L w:=fun y hy=>h y (by simp[hy])
theorem WL.app {L:Nat} {v w:List Nat}:WL L (v++w)↔WL L v∧WL L w:=by
 unfold WL
 simp only[eM]
 exact ⟨fun h=>⟨fun x hx=>h x (.inl hx),fun x hx=>h x (.inr hx)⟩,fun h x hx=>hx.elim (h.1 x) (h.2 x)⟩
namespace Da
def Jk (d:Da) (q:Nat) (d':Da) (q':Nat):Prop:= ∀w,WL d.L w→d.acc q w=d'.acc q' w
theorem Jk.nx {d d':Da} {q q' x:Nat} (h:d.Jk q d' q') (hx:x<d.L):d.Jk (d.nx q x) d' (d'.nx q' x):=fun w hw=>h (x::w) (hw.cons hx)
def pos (d:Da) (t:Nat):Nat:=d.nx (t/d.L) (t %d.L)
def mt (d:Da):Nat→Nat
 | 0=>1
 | t+1=>if d.pos t=d.mt t then d.mt t+1 else d.mt t
structure Num (d:Da):Prop where
 le: ∀t,t<d.n*d.L→d.pos t≤d.mt t
 row: ∀q,q<d.n→q<d.mt (q*d.L)
 all:d.mt (d.n*d.L)=d.n
structure Canon (d:Da) (L:Nat) (K:List Nat→Bool):Prop where
 ok:d.Ok
 hL:d.L=L
 st:d.st=0
 num:d.Num
 red: ∀p q,p<d.n→q<d.n→d.Jk p d q→p=q
 aL: ∀w,WL L w→d.acc 0 w=K w
end Da
section
variable {α:Type} [DecidableEq α]
def amU (S:List α) (a:α):List α:=if a∈S then S else S++[a]
def Zz (next:α→Nat→α) (S:List α) (a:α):Nat→List α
 | 0=>S
 | x+1=>amU (Zz next S a x) (next a x)
def Ep (L:Nat) (next:α→Nat→α) (a0:α):Nat→List α
 | 0=>[a0]
 | i+1=>match (Ep L next a0 i)[i]? with
  | some a=>Zz next (Ep L next a0 i) a L
  | none=>Ep L next a0 i
variable {L:Nat} {next:α→Nat→α} {a0:α}
section
variable {k:Nat} (hd:(Ep L next a0 k).length≤k)
include hd
end
section
variable {k:Nat} (hd:(Ep L next a0 k).length≤k) {fin:α→Bool}
include hd
end
end
namespace Da
end Da
end Go.AM
set_option maxRecDepth 100000
namespace Go.AM
open Go.Proofs
section
variable {α:Type} (ke:α→V)
def my (i:Nat):List α→List V
 | []=>[]
 | a::S=> .bm [ke a,iV (i:Int)]::my (i+1) S
where iV (n:Int):V:= .int .i64 n
end
section
variable {α:Type} [DecidableEq α] {ke:α→V}
variable (hk: ∀a b,mB (ke a) (ke b)=decide (a=b))
include hk
theorem ZA (x:α): ∀(S:List α) (i:Nat),lP (ke x) (my ke i S)=decide (x∈S)
 | [],_=>by simp[my,lP]
 | a::S,i=>by
  have c: ∀(p q:V),(V.bm [p,q]).comp 0=p:=fun p q=>rfl
  rw[my,lP,c,hk,ZA x S (i+1)]
  rw[nu]
  simp
theorem ZB (x:α) (z:V): ∀(S:List α) (i:Nat),x∈S→mC (ke x) (my ke i S) z= .int .i64 ((i+S.idxOf x:Nat):Int)
 | [],_,h=>by cases h
 | a::S,i,h=>by
  have c: ∀(p q:V),(V.bm [p,q]).comp 0=p:=fun p q=>rfl
  have c1: ∀(p q:V),(V.bm [p,q]).comp 1=q:=fun p q=>rfl
  rw[my,mC,c,c1,hk]
  by_cases e:x=a
  ·subst e
   rw[eC rfl]
   simp[my.iV]
  ·rw[ct e,cond_false,ZB x z S (i+1) ((dp.1 h).resolve_left e),show (a::S).idxOf x=S.idxOf x+1 from by rw[List.idxOf_cons,show (a==x)=false from EF.2 fun h=>e h.symm];rfl]
   congr 2
   omega
theorem ZC (x:α): ∀(S:List α) (i:Nat),x∉S→iS (ke x) (.int .i64 ((i+S.length:Nat):Int)) (my ke i S)=my ke i (S++[x])
 | [],i,_=>by simp[my,iS,my.iV]
 | a::S,i,h=>by
  have c: ∀(p q:V),(V.bm [p,q]).comp 0=p:=fun p q=>rfl
  have e:x≠a:=fun e=>h (by simp[e])
  rw[my,iS,c,hk,ct e,cond_false,List.cons_append,my]
  congr 1
  have:=ZC x S (i+1) fun hx=>h (by simp[hx])
  rw[←this]
  simp only[List.length_cons]
  congr 3
  omega
end
noncomputable def ZD (C:ae) (aj ar:Int) (ag:List V) (dm dK:Int) (bS ch au:List V):Option (List V):=
 (C yA [.int .i64 aj,.int .i64 ar,.list aa ag]).bind fun r1=>
 bif Nat.ble (((V.nth r1 0).toStr).length) maxLen&&true then
  bif Nat.ble ((bS.length+([.agg [.int .i64 0,.int .i64 0,.list aa ([]:List V)]]:List V).length)*40) cJ then
  bif (decide (0≤(bS.length:Int)))&&(decide ((bS.length:Int)<((bS++([.agg [.int .i64 0,.int .i64 0,.list aa ([]:List V)]]:List V)).length:Int))) then
   ((bS++([.agg [.int .i64 0,.int .i64 0,.list aa ([]:List V)]]:List V))[((bS.length:Int):Int).toNat]?).bind fun x2=>
   some [.int .i64 (bS.length:Int),.int .i64 dm,.int .i64 dK,.list eh (iS (.str ((V.nth r1 0).toStr)) (.int .i64 (bS.length:Int)) au),.list aa ((bS++([.agg [.int .i64 0,.int .i64 0,.list aa ([]:List V)]]:List V)).set (((bS.length:Int):Int).toNat) (.agg [.int .i64 aj,.int .i64 ar,.list aa ag])),.list dD ch]
  else none
  else none
 else none
theorem amV {aj ar:Int} {ag:List V} {dm dK:Int} {bS ch au:List V} {r:Option (List V)} (h:ZD CC aj ar ag dm dK bS ch au=r):CC BJ [.int .i64 aj,.int .i64 ar,.list aa ag,.int .i64 dm,.int .i64 dK,.list aa bS,.list dD ch,.list eh au]=r:=
 aZ (key:=36) (L:=bX) (bs:=[]) (by kernel_rfl) aw (aX (by kernel_rfl) h)
noncomputable def ZE (C:ae) (aj ar:Int) (ag:List V) (letters:Int):Option (List V):=
 (C BJ [.int .i64 aj,.int .i64 ar,.list aa ag,.int .i64 letters,.int .i64 0,.list aa ([]:List V),.list dD ([]:List V),.list eh ([]:List V)]).bind fun r1=>
 some [.int .i64 ((V.nth (r1.drop 1) 0).toInt),.int .i64 ((V.nth ((r1.drop 1).drop 1) 0).toInt),.list aa ((V.nth (((r1.drop 1).drop 2).drop 1) 0).toList),.list dD ((V.nth ((((r1.drop 1).drop 2).drop 1).drop 1) 0).toList),.list eh ((V.nth ((r1.drop 1).drop 2) 0).toList)]
theorem amW {aj ar:Int} {ag:List V} {letters:Int} {r:Option (List V)} (h:ZE CC aj ar ag letters=r):CC G0 [.int .i64 aj,.int .i64 ar,.list aa ag,.int .i64 letters]=r:=
 aZ (key:=21) (L:=bX) (bs:=[]) (by kernel_rfl) aw (aX (by kernel_rfl) h)
noncomputable def ZF (C:ae) (dm dK:Int) (bS ch au:List V):Option (List V):=
 some [.bool ((dK:Int)==(bS.length:Int)),.int .i64 dm,.int .i64 dK,.list eh au,.list aa bS,.list dD ch]
theorem amX {dm dK:Int} {bS ch au:List V} {r:Option (List V)} (h:ZF CC dm dK bS ch au=r):CC G1 [.int .i64 dm,.int .i64 dK,.list aa bS,.list dD ch,.list eh au]=r:=
 aZ (key:=23) (L:=bX) (bs:=[]) (by kernel_rfl) aw (aX (by kernel_rfl) h)
noncomputable abbrev ZG:Code:=cj Tryz.prog (av.aQ 24)
noncomputable def uj (C:ae) (t16 t17 dm dK:Int) (au rows cy kU:List V) {β:Type} (kn:(Int × Int × Int × (List V) × (List V) × (List V) × (List V))→Option β) (kr:((Int × Int × Int × (List V) × (List V) × (List V)) ⊕ (Int × Bool × Int × Int × (List V) × (List V) × (List V) × (List V)))→Option β):Option β:=
 bif decide ((t17:Int)<t16) then
  bif (decide (0≤dK))&&(decide (dK<(cy.length:Int))) then
  (cy[(dK:Int).toNat]?).bind fun x1=>
  (C BI [.int .i64 ((x1.cell 0).toInt),.int .i64 ((x1.cell 1).toInt),.list aa ((x1.cell 2).toList),.int .i64 t17]).bind fun r2=>
  bif (((V.nth (r2.drop 3) 0).toInt):Int) != 0 then
   kr (.inl ((V.nth (r2.drop 3) 0).toInt,dm,dK,au,cy,kU))
  else
   (C yA [.int .i64 ((V.nth r2 0).toInt),.int .i64 ((V.nth (r2.drop 1) 0).toInt),.list aa ((V.nth ((r2.drop 1).drop 1) 0).toList)]).bind fun r3=>
   bif Nat.ble (((V.nth r3 0).toStr).length) maxLen&&true then
   bif !(lP (.str ((V.nth r3 0).toStr)) au) then
    bif ((cy.length:Int):Int)==512 then
    kr (.inl (3,dm,dK,au,cy,kU))
    else
    (C BJ [.int .i64 ((V.nth r2 0).toInt),.int .i64 ((V.nth (r2.drop 1) 0).toInt),.list aa ((V.nth ((r2.drop 1).drop 1) 0).toList),.int .i64 dm,.int .i64 dK,.list aa cy,.list dD kU,.list eh au]).bind fun r4=>
    bif (decide (0≤t17))&&(decide (t17<(rows.length:Int))) then
     (rows[(t17:Int).toNat]?).bind fun x5=>
     kn (IntKind.wrap .i64 (t17+1),(V.nth (r4.drop 1) 0).toInt,(V.nth ((r4.drop 1).drop 1) 0).toInt,(V.nth ((r4.drop 1).drop 2) 0).toList,rows.set ((t17:Int).toNat) (.int .i64 ((V.nth r4 0).toInt)),(V.nth (((r4.drop 1).drop 2).drop 1) 0).toList,(V.nth ((((r4.drop 1).drop 2).drop 1).drop 1) 0).toList)
    else none
   else
    bif (decide (0≤t17))&&(decide (t17<(rows.length:Int))) then
    (rows[(t17:Int).toNat]?).bind fun x6=>
    kn (IntKind.wrap .i64 (t17+1),dm,dK,au,rows.set ((t17:Int).toNat) (.int .i64 ((mC (.str ((V.nth r3 0).toStr)) au (.int .i64 0)).toInt)),cy,kU)
    else none
   else none
  else none
 else
  kr (.inr (t17,decide ((t17:Int)<t16),dm,dK,au,rows,cy,kU))
noncomputable def pE (C:ae) (t16:Int):(Int × Int × Int × (List V) × (List V) × (List V) × (List V))→Option ((Int × Int × Int × (List V) × (List V) × (List V) × (List V)) ⊕ ((Int × Int × Int × (List V) × (List V) × (List V)) ⊕ (Int × Bool × Int × Int × (List V) × (List V) × (List V) × (List V)))):=un fun t17=>un fun dm=>un fun dK=>un fun au=>un fun rows=>un fun cy kU=>uj C t16 t17 dm dK au rows cy kU (fun y=>some (.inl y)) (fun r=>some (.inr r))
noncomputable def ZH (C:ae):b8:=fun β n ds k=>
 bif Nat.beq n 49 then bM L5 [false,true,true,true,true,true,true,true] [[0,0,0,0,0,0],[1,0,0,0,0,0,0,0,0]] (@uj C) ds k else
 none
abbrev amY (C:ae) (b:bZ):Prop:=b6 Tryz.prog av C (ZH C) 24 (cl Tryz.prog (av.aQ 24)) (av.sin 24).bc.length b
theorem amZ (C:ae):amY C (.loop (ax [1,1,0,1,0,0] ZG)):=
 bP L5 [false,true,true,true,true,true,true,true] [[0,0,0,0,0,0],[1,0,0,0,0,0,0,0,0]] (@uj C) (by kernel_rfl) (a9 (bs:=[]) (by kernel_rfl) aw) (fun ds=>by kernel_rfl) (fun i x=>by kernel_rfl) (fun i x β k=>by kernel_rfl) (fun β ds k=>by kernel_rfl)
noncomputable def ZI (C:ae) (dm dK:Int) (bS ch au:List V):Option (List V):=
 bif (decide (0≤dm))&&((decide (dm≤dm))&&(Nat.ble (((dm:Int).toNat)*8) cJ)) then
  (Loop (pE C ((List.replicate ((dm:Int).toNat) (V.int .i64 0)).length:Int)) (0,dm,dK,au,List.replicate ((dm:Int).toNat) (V.int .i64 0),bS,ch)).bind (cB (un fun (od:Int)=>un fun (pk:Int)=>un fun (pn:Int)=>un fun (m7:List V)=>un fun (m8:List V) (v8:List V)=>
   some [.int .i64 od,.int .i64 pk,.int .i64 pn,.list eh m7,.list aa m8,.list dD v8]) (un fun (TZ:Int)=>un fun (Cf:Bool)=>un fun (Pu:Int)=>un fun (Pv:Int)=>un fun (vT:List V)=>un fun (Er:List V)=>un fun (Pw:List V) (Et:List V)=>
   bif Nat.ble ((Et.length+([.list nX Er]:List V).length)*24) cJ then
   some [.int .i64 0,.int .i64 Pu,.int .i64 (IntKind.wrap .i64 (Pv+1)),.list eh vT,.list aa Pw,.list dD (Et++([.list nX Er]:List V))]
   else none))
 else none
theorem am0 {dm dK:Int} {bS ch au:List V} {r:Option (List V)} (h:ZI CC dm dK bS ch au=r):CC yv [.int .i64 dm,.int .i64 dK,.list aa bS,.list dD ch,.list eh au]=r:=
 aZ (key:=24) (L:=ZH CC) (bs:=[.loop (ax [1,1,0,1,0,0] ZG)]) (by kernel_rfl) (br (amZ CC) aw) (aX (by kernel_rfl) h)
end Go.AM
set_option maxRecDepth 100000
namespace Go.AM
open Go.Proofs Ex
def qL (r:List Int):V:= .list nX (r.map fun n=> .int .i64 n)
def fB (es:List Ex):List V:=my V.str 0 (es.map Ex.text)
theorem Px (a b:List UInt8):mB (.str a) (.str b)=decide (a=b):=by
 simp only[mB,V.cells,uy,xj,Bool.and_true]
 rw[nu]
 simp
theorem Py {es:List Ex} (h: ∀e∈es,Nv e) {d:Ex} (hd:Nv d):d.text∈es.map Ex.text↔d∈es:=by
 rw[eB]
 constructor
 ·rintro ⟨a,ha,he⟩
  rw[←Zn (h a ha).1.2 hd.1.2 he];exact ha
 ·exact fun hx=>⟨d,hx,rfl⟩
theorem ZJ {α β:Type} [DecidableEq α] [DecidableEq β] {f:α→β} {d:α}: ∀{es:List α},(∀e∈es,f e=f d→e=d)→(es.map f).idxOf (f d)=es.idxOf d
 | [],_=>rfl
 | e::es,h=>by
  rw[cr,List.idxOf_cons,List.idxOf_cons,ZJ fun x hx=>h x (by simp[hx])]
  have:(f e==f d)=(e==d):=by
   rw[nu,beq_iff_eq,beq_iff_eq]
   exact ⟨h e (by simp),fun h=>by rw[h]⟩
  rw[this]
theorem Jl {e:Ex} (h:e.val 6=0):(Nat.ble e.text.length maxLen&&true)=true:=by
 have a:=Zc e
 have b:=nf h
 rw[Bool.and_true,eb]
 unfold maxLen
 omega
theorem Jm {e:Ex} (h:Nv e):CC yA (bY e [])=some [.str e.text]:=by
 rw[amT e (am1 h),ah h.2]
where am1 {e:Ex} (h:Nv e):e.Ok:=tR (by omega) e h.1.2 (by have:=nf h.2;omega)
def zX (s:Dv):List V:=[.int .i64 s.L,.int .i64 s.dn,.list aa (s.es.map enc),.list dD (s.nx.map qL),.list eh (fB s.es)]
def Pz (s:Dv):List V:=[.int .i64 s.L,.int .i64 s.dn,.list eh (fB s.es),.list aa (s.es.map enc),.list dD (s.nx.map qL)]
theorem am2 {es:List Ex} (h: ∀e∈es,Nv e) {d:Ex} (hd:Nv d) (hn:d∉es):iS (.str d.text) (.int .i64 (es.length:Int)) (fB es)=fB (es++[d]):=by
 have:=ZC (ke:=V.str) Px d.text (es.map Ex.text) 0 fun hx=>hn ((Py h hd).1 hx)
 rw[bw,gQ] at this
 unfold fB
 rw[this,gm]
 rfl
theorem am3 {α:Type} (a:List α) (x y:α):(a++[x]).set a.length y=a++[y]:=by
 simp[List.set_append_right]
theorem ZK {L dn:Int} {es:List Ex} {d:Ex} {nx:List V} (h: ∀e∈es,Nv e) (hd:Nv d) (hn:d∉es) (hl:es.length≤1000):
  CC BJ (bY d [.int .i64 L,.int .i64 dn,.list aa (es.map enc),.list dD nx,.list eh (fB es)])=some [.int .i64 (es.length:Int),.int .i64 L,.int .i64 dn,.list eh (fB (es++[d])),.list aa ((es++[d]).map enc),.list dD nx]:=by
 refine amV ?_
 unfold ZD
 refine bs (Jm hd) ?_
 refine bT (Jl hd.2) ?_
 refine bT (O6 (by simp;omega)) ?_
 refine (ub (i:=(es.map enc).length) (v:= .agg [.int .i64 0,.int .i64 0,.list aa ([]:List V)]) (by simp)).trans ?_
 rw[Int.toNat_natCast,am3]
 have h1:=am2 h hd hn
 rw[bw]
 show some [V.int .i64 (es.length:Int),.int .i64 L,.int .i64 dn,.list eh (iS (.str d.text) (.int .i64 (es.length:Int)) (fB es)),.list aa (es.map enc++[.agg [.int .i64 d.op,.int .i64 d.letter,.list aa (d.kids.map enc)]]),.list dD nx]=_
 rw[h1,alV,gm]
 rfl
theorem am4 {e:Ex} {L:Int} (h:Nv e):CC G0 (bY e [.int .i64 L])=some (zX ⟨L,[e],[],0⟩):=by
 refine amW ?_
 unfold ZE
 refine bs (ZK (L:=L) (dn:=0) (es:=[]) (d:=e) (nx:=[]) (by simp) h (by simp) (by simp)) ?_
 rfl
theorem PA (s:Dv):CC G1 (zX s)=some (.bool (s.dn==s.es.length)::Pz s):=by
 refine amX ?_
 unfold ZF
 rw[bw]
 rfl
theorem PB {L dn:Int} {e:Ex} {k:Nat} {nx:List V} (hk:dn=(k:Int)) (he:Nv e): ∀(n x:Nat) (es:List Ex) (row:List Int),L=((x+n:Nat):Int)→x+n≤10→Es es→k<es.length→es.getD k bp=e→row.length=x→
  (∀p,oB e n x es row=some p→Loop (pE CC L) (((x:Nat):Int),L,dn,fB es,(row.map fun n=>V.int .i64 n)++List.replicate n (.int .i64 0),es.map enc,nx)=some (.inr (L,false,L,dn,fB p.1,(p.2.map fun n=>V.int .i64 n),p.1.map enc,nx)))
  ∧(oB e n x es row=none→∃y,Loop (pE CC L) (((x:Nat):Int),L,dn,fB es,(row.map fun n=>V.int .i64 n)++List.replicate n (.int .i64 0),es.map enc,nx)=some (.inl (3,y)))
 | 0,x,es,row,hL,hx,oX,iG,u6,hr=>by
  refine ⟨fun p hp=> ?_,fun hp=>by simp[oB] at hp⟩
  cases hp
  refine bj ?_
  simp only[pE,uj,un]
  rw[az,ai (by omega),ct (by omega),show L=((x:Nat):Int) by omega]
  simp
 | n+1,x,es,row,hL,hx,oX,iG,u6,hr=>by
  subst hk
  have aT:decide ((x:Int)<L)=true:=eC (by omega)
  have cC:(es.map enc)[k]? =some e.enc:=by
   rw[gC,bN iG,←u6,iu,bN iG];rfl
  have hb:=Y5 he (x:Int)
  have am5:ui (aV (b7 x e))=match lI e x with|some d=>(d,0)|none=>(bp,3):=by
   unfold ui lI;split<;>rfl
  rw[am5] at hb
  have Jn:x=(row.map fun n=>V.int .i64 n).length:=by simp[hr]
  rw[oB]
  cases bG:lI e x with
  | none=>
   rw[bG] at hb
   refine ⟨fun p hp=>(by cases hp),fun _=>⟨(L,(k:Int),fB es,es.map enc,nx),bj ?_⟩⟩
   ·simp only[pE,uj,un]
    refine bT aT ((ub cC).trans ?_)
    rw[bz,bA,bB]
    refine bs hb ?_
    exact bT rfl rfl
  | some d=>
   rw[bG] at hb
   have hd:=(Ja he bG).1
   have PC:lP (.str d.text) (fB es)=decide (d∈es):=by
    unfold fB
    rw[ZA Px,Aj]
    exact Py oX.nv hd
   simp only[Option.bind_some]
   by_cases hm:d∈es
   ·rw[ah hm]
    have aaQ:es.idxOf d<es.length:=List.idxOf_lt_length_iff.2 hm
    obtain ⟨i1,i2⟩:=PB (L:=L) (e:=e) (k:=k) (nx:=nx) rfl he n (x+1) es (row++[(es.idxOf d:Int)]) (by omega) (by omega) oX iG u6 (by simp[hr])
    have eG:pE CC L (((x:Nat):Int),L,(k:Int),fB es,(row.map fun n=>V.int .i64 n)++List.replicate (n+1) (.int .i64 0),es.map enc,nx)=some (.inl (((x+1:Nat):Int),L,(k:Int),fB es,((row++[(es.idxOf d:Int)]).map fun n=>V.int .i64 n)++List.replicate n (.int .i64 0),es.map enc,nx)):=by
     simp only[pE,uj,un]
     refine bT aT ((ub cC).trans ?_)
     rw[bz,bA,bB]
     refine bs hb (bF rfl (bs (Jm hd) (bT (Jl hd.2) ?_)))
     refine bF (by rw[V.aC,V.me,PC,eC hm];rfl) ?_
     refine (uf Jn).trans ?_
     rw[Int.toNat_natCast,ug Jn,pB (by omega),V.aC,V.me]
     have hg:mC (.str d.text) (fB es) (.int .i64 0)= .int .i64 (es.idxOf d:Int):=by
      unfold fB
      rw[ZB Px _ _ _ _ ((Py oX.nv hd).2 hm),ZJ fun x hx=>Zn (oX.nv x hx).1.2 hd.1.2,gQ]
     rw[hg,V.toInt_int,gm]
     rfl
    exact ⟨fun p hp=>(bW eG).trans (i1 p hp),fun hp=>by obtain ⟨y,hy⟩:=i2 hp;exact ⟨y,(bW eG).trans hy⟩⟩
   ·rw[ai hm]
    by_cases Jo:es.length=512
    ·rw[ah Jo]
     refine ⟨fun p hp=>(by cases hp),fun _=>⟨(L,(k:Int),fB es,es.map enc,nx),bj ?_⟩⟩
     ·simp only[pE,uj,un]
      refine bT aT ((ub cC).trans ?_)
      rw[bz,bA,bB]
      refine bs hb (bF rfl (bs (Jm hd) (bT (Jl hd.2) ?_)))
      refine bT (by rw[V.aC,V.me,PC,ct hm];rfl) ?_
      exact bT (by rw[bw,Jo];rfl) rfl
    ·rw[ai Jo]
     have hl:=oX.le
     obtain ⟨i1,i2⟩:=PB (L:=L) (e:=e) (k:=k) (nx:=nx) rfl he n (x+1) (es++[d]) (row++[(es.length:Int)]) (by omega) (by omega) (oX.snoc hd hm Jo) (by simp;omega) (by rw[Ec iG,u6]) (by simp[hr])
     have eG:pE CC L (((x:Nat):Int),L,(k:Int),fB es,(row.map fun n=>V.int .i64 n)++List.replicate (n+1) (.int .i64 0),es.map enc,nx)=some (.inl (((x+1:Nat):Int),L,(k:Int),fB (es++[d]),((row++[(es.length:Int)]).map fun n=>V.int .i64 n)++List.replicate n (.int .i64 0),(es++[d]).map enc,nx)):=by
      simp only[pE,uj,un]
      refine bT aT ((ub cC).trans ?_)
      rw[bz,bA,bB]
      refine bs hb (bF rfl (bs (Jm hd) (bT (Jl hd.2) ?_)))
      refine bT (by rw[V.aC,V.me,PC,ct hm];rfl) ?_
      refine bF (by rw[bw,EF];omega) ?_
      refine bs (ZK oX.nv hd hm (by omega)) ?_
      refine (uf Jn).trans ?_
      rw[Int.toNat_natCast,ug Jn,pB (by omega),gm (l₁:=row)]
      rfl
     exact ⟨fun p hp=>(bW eG).trans (i1 p hp),fun hp=>by obtain ⟨y,hy⟩:=i2 hp;exact ⟨y,(bW eG).trans hy⟩⟩
theorem am6 {s:Dv} (hs:Gs s) (hd:s.dn<s.es.length):
  (∀t,proc s=some t→CC yv (zX s)=some (.int .i64 0::Pz t))∧(proc s=none→∃l,CC yv (zX s)=some (.int .i64 3::l)):=by
 have Y0:=hs.dn
 have hL:=hs.L
 have hq:s.dn.toNat<s.es.length:=by omega
 have lX:=hs.nl
 have hle:=hs.es.le
 have hN:((s.L.toNat:Nat):Int)=s.L:=by omega
 obtain ⟨l1,l2⟩:=PB (L:=s.L) (dn:=s.dn) (e:=s.es.getD s.dn.toNat bp) (k:=s.dn.toNat) (nx:=s.nx.map qL) (by omega) (hs.es.nv _ (YX hq)) s.L.toNat 0 s.es [] (by omega) (by omega) hs.es hq rfl rfl
 have hf: ∀{r:Option (List V)},((Loop (pE CC s.L) (((0:Nat):Int),s.L,s.dn,fB s.es,List.replicate s.L.toNat (V.int .i64 0),s.es.map enc,s.nx.map qL)).bind (cB (un fun (od:Int)=>un fun (pk:Int)=>un fun (pn:Int)=>un fun (m7:List V)=>un fun (m8:List V) (v8:List V)=>some [V.int .i64 od,.int .i64 pk,.int .i64 pn,.list eh m7,.list aa m8,.list dD v8]) (un fun (TZ:Int)=>un fun (Cf:Bool)=>un fun (Pu:Int)=>un fun (Pv:Int)=>un fun (vT:List V)=>un fun (Er:List V)=>un fun (Pw:List V) (Et:List V)=>bif Nat.ble ((Et.length+([.list nX Er]:List V).length)*24) cJ then some [.int .i64 0,.int .i64 Pu,.int .i64 (IntKind.wrap .i64 (Pv+1)),.list eh vT,.list aa Pw,.list dD (Et++([.list nX Er]:List V))] else none)))=r→CC yv (zX s)=r:=fun h=>by
  refine am0 ?_
  unfold ZI
  refine bT ?_ ?_
  ·refine xd.2 ⟨eC (by omega),xd.2 ⟨eC (by omega),?_⟩⟩
   rw[eb,n0];omega
  ·rw[uo,hN]
   exact h
 refine ⟨fun t ht=>hf ?_,fun ht=> ?_⟩
 ·obtain ⟨p,hp,rfl⟩:=YY ht
  refine bs (l1 p hp) ?_
  simp only[cB,un]
  refine bT (by rw[eb,n0];simp;omega) ?_
  rw[wrap64 (by omega) (by omega)]
  unfold Pz
  simp only[gm]
  rfl
 ·have hr:oB (s.es.getD s.dn.toNat bp) s.L.toNat 0 s.es []=none:=by
   unfold proc at ht
   rwa [Option.map_eq_none_iff] at ht
  obtain ⟨y,hy⟩:=l2 hr
  exact ⟨_,hf (bs hy rfl)⟩
end Go.AM
set_option maxRecDepth 100000
namespace Go.AM
open Go.Proofs
noncomputable abbrev ZL:Code:=cj Tryz.prog (av.aQ 25)
noncomputable def Eu (C:ae) (t22 ZM ZN:Int) (au:List V) (lC mj pC pD:Int) (Jp I1 ZO ZP:List V) (t23:Int) (Ev:List V) {β:Type} (kn:(Int × (List V))→Option β) (kr:(Int × Bool × (List V))→Option β):Option β:=
 bif decide ((t23:Int)<t22) then
  bif (decide (0≤t23))&&(decide (t23<(Jp.length:Int))) then
  (Jp[(t23:Int).toNat]?).bind fun x1=>
  (C kH [.int .i64 ((x1.cell 0).toInt),.int .i64 ((x1.cell 1).toInt),.list aa ((x1.cell 2).toList)]).bind fun r2=>
  bif Nat.ble ((Ev.length+([.bool ((V.nth r2 0).toBool)]:List V).length)*1) cJ then
   kn (IntKind.wrap .i64 (t23+1),Ev++([.bool ((V.nth r2 0).toBool)]:List V))
  else none
  else none
 else
  kr (t23,decide ((t23:Int)<t22),Ev)
noncomputable def Jq (C:ae) (t22 ZM ZN:Int) (au:List V) (lC mj pC pD:Int) (Jp I1 ZO ZP:List V):(Int × (List V))→Option ((Int × (List V)) ⊕ (Int × Bool × (List V))):=un fun t23 Ev=>Eu C t22 ZM ZN au lC mj pC pD Jp I1 ZO ZP t23 Ev (fun y=>some (.inl y)) (fun r=>some (.inr r))
noncomputable def ZQ (C:ae):b8:=fun β n ds k=>
 bif Nat.beq n 49 then bM L6 [false,true,false,false,false,false,false,false,false,false,false,false,false,true] [[1,0,0,3,4,5,6,7,8,9,10,11,12,13,0]] (@Eu C) ds k else
 none
abbrev am7 (C:ae) (b:bZ):Prop:=b6 Tryz.prog av C (ZQ C) 25 (cl Tryz.prog (av.aQ 25)) (av.sin 25).bc.length b
theorem am8 (C:ae):am7 C (.loop (ax [1,1,0,1,0,0] ZL)):=
 bP L6 [false,true,false,false,false,false,false,false,false,false,false,false,false,true] [[1,0,0,3,4,5,6,7,8,9,10,11,12,13,0]] (@Eu C) (by kernel_rfl) (a9 (bs:=[]) (by kernel_rfl) aw) (fun ds=>by kernel_rfl) (fun i x=>by kernel_rfl) (fun i x β k=>by kernel_rfl) (fun β ds k=>by kernel_rfl)
noncomputable def ZR (C:ae) (dm dK:Int) (bS ch au:List V):Option (List V):=
 (Loop (Jq C (bS.length:Int) dm dK au 0 0 dm 0 bS ch ([]:List V) ([]:List V)) (0,([]:List V))).bind (un fun (kL:Int)=>un fun (mZ:Bool) (b_5:List V)=>
  some [.int .i64 dm,.int .i64 0,.int .i64 dm,.int .i64 dK,.list eh au,.list mg b_5,.list dD ch,.list aa bS])
theorem am9 {dm dK:Int} {bS ch au:List V} {r:Option (List V)} (h:ZR CC dm dK bS ch au=r):CC G2 [.int .i64 dm,.int .i64 dK,.list aa bS,.list dD ch,.list eh au]=r:=
 aZ (key:=25) (L:=ZQ CC) (bs:=[.loop (ax [1,1,0,1,0,0] ZL)]) (by kernel_rfl) (br (am8 CC) aw) (aX (by kernel_rfl) h)
noncomputable abbrev ZS:Code:=cj Tryz.prog (av.aQ 9)
noncomputable def zY (C:ae) (lF lG:Int) (ch au:List V) (dm dK:Int) (aS cy kU:List V) {β:Type} (kn:(Int × Int × (List V) × (List V) × (List V))→Option β) (kr:((Int × Int × Int × (List V) × (List V)) ⊕ (Bool × Int × Int × (List V) × (List V) × (List V)))→Option β):Option β:=
 (C G1 [.int .i64 dm,.int .i64 dK,.list aa aS,.list dD cy,.list eh kU]).bind fun r4=>
 bif !((V.nth r4 0).toBool) then
  (C yv [.int .i64 ((V.nth (r4.drop 1) 0).toInt),.int .i64 ((V.nth ((r4.drop 1).drop 1) 0).toInt),.list aa ((V.nth (((r4.drop 1).drop 2).drop 1) 0).toList),.list dD ((V.nth ((((r4.drop 1).drop 2).drop 1).drop 1) 0).toList),.list eh ((V.nth ((r4.drop 1).drop 2) 0).toList)]).bind fun r5=>
  bif (((V.nth r5 0).toInt):Int) != 0 then
  kr (.inl ((V.nth r5 0).toInt,0,0,([]:List V),([]:List V)))
  else
  kn ((V.nth (r5.drop 1) 0).toInt,(V.nth ((r5.drop 1).drop 1) 0).toInt,(V.nth (((r5.drop 1).drop 2).drop 1) 0).toList,(V.nth ((((r5.drop 1).drop 2).drop 1).drop 1) 0).toList,(V.nth ((r5.drop 1).drop 2) 0).toList)
 else
  kr (.inr (!((V.nth r4 0).toBool),(V.nth (r4.drop 1) 0).toInt,(V.nth ((r4.drop 1).drop 1) 0).toInt,(V.nth (((r4.drop 1).drop 2).drop 1) 0).toList,(V.nth ((((r4.drop 1).drop 2).drop 1).drop 1) 0).toList,(V.nth ((r4.drop 1).drop 2) 0).toList))
noncomputable def wZ (C:ae) (lF lG:Int) (ch au:List V):(Int × Int × (List V) × (List V) × (List V))→Option ((Int × Int × (List V) × (List V) × (List V)) ⊕ ((Int × Int × Int × (List V) × (List V)) ⊕ (Bool × Int × Int × (List V) × (List V) × (List V)))):=un fun dm=>un fun dK=>un fun aS=>un fun cy kU=>zY C lF lG ch au dm dK aS cy kU (fun y=>some (.inl y)) (fun r=>some (.inr r))
noncomputable def ZT (C:ae):b8:=fun β n ds k=>
 bif Nat.beq n 81 then bM LZ [false,false,true,true,false,false,true,true,true] [[0,0,0,0,0],[0,1,2,0,0,5,6,0,0,0]] (@zY C) ds k else
 none
abbrev ana (C:ae) (b:bZ):Prop:=b6 Tryz.prog av C (ZT C) 9 (cl Tryz.prog (av.aQ 9)) (av.sin 9).bc.length b
theorem anb (C:ae):ana C (.loop (ax [1,1,1,0,0,0] ZS)):=
 bP LZ [false,false,true,true,false,false,true,true,true] [[0,0,0,0,0],[0,1,2,0,0,5,6,0,0,0]] (@zY C) (by kernel_rfl) (a9 (bs:=[]) (by kernel_rfl) aw) (fun ds=>by kernel_rfl) (fun i x=>by kernel_rfl) (fun i x β k=>by kernel_rfl) (fun β ds k=>by kernel_rfl)
noncomputable def ZU (C:ae) (aj ar:Int) (ag:List V) (letters:Int):Option (List V):=
 (C vw [.int .i64 aj,.int .i64 ar,.list aa ag,.int .i64 letters]).bind fun r1=>
 bif (((V.nth r1 0).toInt):Int) != 0 then
  some [.int .i64 0,.int .i64 0,.int .i64 ((V.nth r1 0).toInt),.list mg ([]:List V),.list dD ([]:List V)]
 else
  (C BG [.int .i64 aj,.int .i64 ar,.list aa ag]).bind fun r2=>
  (C G0 [.int .i64 ((V.nth r2 0).toInt),.int .i64 ((V.nth (r2.drop 1) 0).toInt),.list aa ((V.nth ((r2.drop 1).drop 1) 0).toList),.int .i64 letters]).bind fun r3=>
  (Loop (wZ C 0 0 ([]:List V) ([]:List V)) ((V.nth r3 0).toInt,(V.nth (r3.drop 1) 0).toInt,(V.nth (r3.drop 2) 0).toList,(V.nth ((r3.drop 2).drop 1) 0).toList,(V.nth (((r3.drop 2).drop 1).drop 1) 0).toList)).bind (cB (un fun (mY:Int)=>un fun (Pk:Int)=>un fun (Pl:Int)=>un fun (pn:List V) (m7:List V)=>
   some [.int .i64 Pk,.int .i64 Pl,.int .i64 mY,.list mg pn,.list dD m7]) (un fun (rZ:Bool)=>un fun (anc:Int)=>un fun (ane:Int)=>un fun (CQ:List V)=>un fun (CR:List V) (CF:List V)=>
   (C G2 [.int .i64 anc,.int .i64 ane,.list aa CQ,.list dD CR,.list eh CF]).bind fun ey=>
   some [.int .i64 ((V.nth ey 0).toInt),.int .i64 ((V.nth (ey.drop 1) 0).toInt),.int .i64 0,.list mg ((V.nth (((ey.drop 2).drop 2).drop 1) 0).toList),.list dD ((V.nth ((((ey.drop 2).drop 2).drop 1).drop 1) 0).toList)]))
theorem anf {aj ar:Int} {ag:List V} {letters:Int} {r:Option (List V)} (h:ZU CC aj ar ag letters=r):CC GV [.int .i64 aj,.int .i64 ar,.list aa ag,.int .i64 letters]=r:=
 aZ (key:=9) (L:=ZT CC) (bs:=[.loop (ax [1,1,1,0,0,0] ZS)]) (by kernel_rfl) (br (anb CC) aw) (aX (by kernel_rfl) h)
end Go.AM
set_option maxRecDepth 100000
namespace Go.AM
open Go.Proofs Ex
structure Dv.Ok (d:Dv):Prop where
 es: ∀e∈d.es,e.Ok
 el:d.es.length≤maxLen
 nl:d.nx.length≤maxLen
 rl: ∀r∈d.nx,r.length≤maxLen
abbrev Jr (s:Dv):Int × Int × List V × List V × List V:=(s.L,s.dn,s.es.map enc,s.nx.map qL,fB s.es)
theorem ang {e:Ex} {L:Int} (h:e.val L=0):Nv (aV e):=⟨mq e (nf (I9 h)).2.2,Pc (I9 h)⟩
structure Fa where
 L:Int
 F:List Bool
 N:List (List Int)
abbrev faE (p:Fa × Int):List V:=[.int .i64 p.1.L,.int .i64 0,.int .i64 p.2,.list mg (p.1.F.map V.bool),.list dD (p.1.N.map qL)]
def Fa.zero:Fa:=⟨0,[],[]⟩
def anh (d:Dv):Fa:=⟨d.L,d.es.map Ex.dc,d.nx⟩
theorem ani {es:List Ex} (hn:es.length≤1000) (ho: ∀e∈es,Nv e) {a b c1 c2 c3 c4:Int} {l1 l2 l3 l4:List V}: ∀(aH pre:List Ex),es=pre++aH→
  Loop (Jq CC (es.length:Int) a b l1 c1 c2 c3 c4 (es.map enc) l2 l3 l4) (((pre.length:Nat):Int),(pre.map Ex.dc).map V.bool)=some ((es.length:Int),false,(es.map Ex.dc).map V.bool):=by
 intro aH
 induction aH with
 | nil=>
  intro pre e
  rw[dz] at e
  subst e
  refine bj ?_
  simp only[Jq,Eu,un]
  rw[az,ai (by omega),ct (by omega)]
 | cons k aH gb=>
  intro pre e
  have cb:pre.length<es.length:=by rw[e];simp
  have hk:k∈es:=by rw[e];simp
  have cC:(es.map enc)[pre.length]? =some k.enc:=by rw[e];simp
  have hv:=nf (ho k hk).2
  refine (bW ?_).trans (gb (pre++[k]) (by simp[e]))
  simp only[Jq,Eu,un]
  refine bT (wS cb) ((ub cC).trans ?_)
  rw[bz,bA,bB]
  refine bs (ah9 (letters:=6) k (tR (by omega) k hv.2.2 (by omega)) hv.2.2) ?_
  refine bT (by rw[eb,n0];simp;omega) ?_
  rw[pB (by omega)]
  simp only[gm,cr,fl,cz,List.length_cons,List.length_nil]
  rfl
theorem anj {s:Dv} (hs:Gs s): ∃l,CC G2 (zX s)=some l∧(V.nth l 0).toInt=s.L∧(V.nth (l.drop 1) 0).toInt=0∧(V.nth (((l.drop 2).drop 2).drop 1) 0).toList=(s.es.map Ex.dc).map V.bool∧(V.nth ((((l.drop 2).drop 2).drop 1).drop 1) 0).toList=s.nx.map qL:=by
 have hl:=hs.es.le
 refine ⟨[.int .i64 s.L,.int .i64 0,.int .i64 s.L,.int .i64 s.dn,.list eh (fB s.es),.list mg ((s.es.map Ex.dc).map V.bool),.list dD (s.nx.map qL),.list aa (s.es.map enc)],am9 ?_,?_⟩
 ·unfold ZR
  rw[bw]
  refine bs (ani (by omega) hs.es.nv s.es [] rfl) ?_
  simp only[un]
 ·exact ⟨rfl,rfl,rfl,rfl⟩
def Ew (e:Ex) (L:Int):Fa × Int:=if e.val L=0 then (match uh 513 (sA e L) with|some t=>(anh t,0)|none=>(.zero,3)) else (.zero,e.val L)
theorem ZV {a b:Int} {l1 l2:List V}: ∀(n:Nat) (s:Dv),Gs s→513≤s.dn+n→
  (∀t,uh n s=some t→Loop (wZ CC a b l1 l2) (Jr s)=some (.inr (false,t.L,t.dn,t.es.map enc,t.nx.map qL,fB t.es)))∧(uh n s=none→Loop (wZ CC a b l1 l2) (Jr s)=some (.inl (3,0,0,[],[])))
 | 0,s,hs,hn=>by have:=hs.dn;have:=hs.es.le;omega
 | n+1,s,hs,hn=>by
  rw[uh]
  have Y0:=hs.dn
  by_cases hd:s.dn<s.es.length
  ·rw[ah hd]
   obtain ⟨p1,p2⟩:=am6 hs hd
   have hf:(!(s.dn==(s.es.length:Int)))=true:=by rw[lM,EF];omega
   cases hp:proc s with
   | none=>
    obtain ⟨l,hl⟩:=p2 hp
    refine ⟨fun t ht=>(by cases ht),fun _=>bj ?_⟩
    simp only[wZ,zY,un]
    refine bs (PA s) (bT hf ?_)
    refine bs hl ?_
    rfl
   | some u=>
    obtain ⟨g,_,g2,_⟩:=YZ hs hd hp
    obtain ⟨i1,i2⟩:=ZV (a:=a) (b:=b) (l1:=l1) (l2:=l2) n u g (by omega)
    have eG:wZ CC a b l1 l2 (Jr s)=some (.inl (Jr u)):=by
     simp only[wZ,zY,un]
     refine bs (PA s) (bT hf ?_)
     refine bs (p1 u hp) ?_
     rfl
    exact ⟨fun t ht=>(bW eG).trans (i1 t ht),fun ht=>(bW eG).trans (i2 ht)⟩
  ·rw[ai hd]
   refine ⟨fun t ht=> ?_,fun ht=>(by cases ht)⟩
   cases ht
   refine bj ?_
   have hf:(!(s.dn==(s.es.length:Int)))=false:=by rw[Bool.not_eq_false',beq_iff_eq];omega
   simp only[wZ,zY,un]
   refine bs (PA s) (bF hf ?_)
   exact congrArg (fun b=>some (Sum.inr (Sum.inr (b,s.L,s.dn,s.es.map enc,s.nx.map qL,fB s.es)))) hf
theorem ank {e:Ex} (h:e.Ok) (L:Int):CC GV (bY e [.int .i64 L])=some (faE (Ew e L)):=by
 refine anf ?_
 unfold ZU Ew
 refine bs (HL e h L) ?_
 by_cases hv:e.val L=0
 ·rw[ah hv]
  refine bF (by rw[V.aC,V.toInt_int,hv];rfl) ?_
  have hN:=Yu e h
  rw[ah (I9 hv)] at hN
  refine bs hN (bs (am4 (L:=L) (ang hv)) ?_)
  obtain ⟨l1,l2⟩:=ZV (a:=0) (b:=0) (l1:=[]) (l2:=[]) 513 (sA e L) (Y2 hv) (by show 513≤(0:Int)+_;omega)
  cases hp:uh 513 (sA e L) with
  | none=>exact bs (l2 hp) rfl
  | some t=>
   refine bs (l1 t hp) ?_
   obtain ⟨l,a1,a2,a3,a4,a5⟩:=anj (Y1 513 _ _ (Y2 hv) hp).1
   refine bs a1 ?_
   rw[a2,a3,a4,a5]
   rfl
 ·rw[ai hv]
  refine bT ?_ rfl
  rw[V.aC,V.toInt_int,bne_iff_ne];exact hv
end Go.AM
set_option maxRecDepth 100000
namespace Go.AM
open Go.Proofs
noncomputable def ZW (C:ae):Option (List V):=
 some [.int .i64 7,.int .i64 0,.list aa ([.agg [.int .i64 5,.int .i64 0,.list aa ([.agg [.int .i64 3,.int .i64 0,.list aa ([]:List V)],.agg [.int .i64 3,.int .i64 1,.list aa ([]:List V)]]:List V)]]:List V)]
theorem anl {r:Option (List V)} (h:ZW CC=r):CC GZ []=r:=
 aZ (key:=19) (L:=bX) (bs:=[]) (by kernel_rfl) aw (aX (by kernel_rfl) h)
noncomputable def ZX (C:ae):Option (List V):=
 (C GZ []).bind fun r1=>
 (C GV [.int .i64 ((V.nth r1 0).toInt),.int .i64 ((V.nth (r1.drop 1) 0).toInt),.list aa ((V.nth (r1.drop 2) 0).toList),.int .i64 2]).bind fun r2=>
 bif (((V.nth (r2.drop 2) 0).toInt):Int)==0 then
  bif ((((V.nth (r2.drop 3) 0).toList).length:Int):Int)==3 then
  bif decide (0<(((V.nth (r2.drop 3) 0).toList).length:Int)) then
   (((V.nth (r2.drop 3) 0).toList)[0]?).bind fun x3=>
   bif x3.toBool then
   bif decide (1<(((V.nth (r2.drop 3) 0).toList).length:Int)) then
    (((V.nth (r2.drop 3) 0).toList)[1]?).bind fun x4=>
    some [.bool (!x4.toBool)]
   else none
   else
   some [.bool false]
  else none
  else
  some [.bool false]
 else
  some [.bool false]
theorem anm {r:Option (List V)} (h:ZX CC=r):CC tj []=r:=
 aZ (key:=8) (L:=bX) (bs:=[]) (by kernel_rfl) aw (aX (by kernel_rfl) h)
end Go.AM
set_option maxRecDepth 100000
namespace Go.AM
open Go.Proofs Ex
def zZ:Ex:= .node 7 0 [.node 5 0 [.node 3 0 [],.node 3 1 []]]
theorem ano:zZ.Ok:=by
 refine .node (by omega) (by omega) (by unfold maxLen;simp) fun k hk=> ?_
 rw[ez.1 hk]
 refine .node (by omega) (by omega) (by unfold maxLen;simp) fun k hk=> ?_
 rcases dp.1 hk with rfl|hk
 ·exact .node (by omega) (by omega) (by simp) (by simp)
 ·rw[ez.1 hk]
  exact .node (by omega) (by omega) (by simp) (by simp)
theorem anp:(Ew zZ 2).2=0∧(Ew zZ 2).1.F=[true,false,false]:=by decide+kernel
theorem Ey:CC tj []=some [.bool true]:=by
 refine anm ?_
 unfold ZX
 have fq:CC GZ []=some (iO zZ):=by
  refine anl ?_
  unfold ZW zZ
  simp only[iO,Ex.op,Ex.letter,Ex.kids,cr,fl,eY]
 refine bs fq ?_
 refine bs (ank ano 2) ?_
 obtain ⟨h1,U⟩:=anp
 generalize Ew zZ 2=p at h1 U
 obtain ⟨⟨L,F,N⟩,f⟩:=p
 simp only at h1 U
 subst h1 U
 rfl
def fC:List Lg→Lg
 | []=>fun w=>w=[]
 | L::Ls=>L2 L (fC Ls)
theorem ZY {A B C:Lg}:L2 (L2 A B) C=L2 A (L2 B C):=by
 funext w
 refine propext ⟨?_,?_⟩
 ·rintro ⟨_,z,rfl,⟨u,v,rfl,h1,U⟩,h3⟩
  exact ⟨u,v++z,cv _ _ _,h1,v,z,rfl,U,h3⟩
 ·rintro ⟨u,_,rfl,h1,v,z,rfl,U,h3⟩
  exact ⟨u++v,z,(cv _ _ _).symm,⟨u,v,rfl,h1,U⟩,h3⟩
theorem Ez {A:Lg}:L2 A (fun w=>w=[])=A:=by
 funext w
 refine propext ⟨?_,fun h=>⟨w,[],by simp,h,rfl⟩⟩
 rintro ⟨u,v,rfl,h1,rfl⟩
 rwa [dz]
theorem ZZ {A:Lg}:L2 (fun w=>w=[]) A=A:=by
 funext w
 refine propext ⟨?_,fun h=>⟨[],w,rfl,rfl,h⟩⟩
 rintro ⟨u,v,rfl,rfl,h1⟩
 exact h1
theorem Z0: ∀(Ls:List Lg) (A:Lg),Ls.foldl L2 A=L2 A (fC Ls)
 | [],A=>Ez.symm
 | L::Ls,A=>by
  rw[List.foldl_cons,Z0 Ls,ZY];rfl
theorem anq: ∀Ls:List Lg,tA Ls=fC Ls
 | []=>rfl
 | L::Ls=>Z0 Ls L
theorem Z1: ∀(A B:List Lg),fC (A++B)=L2 (fC A) (fC B)
 | [],B=>ZZ.symm
 | L::A,B=>by
  show L2 L (fC (A++B))=L2 (L2 L (fC A)) (fC B)
  rw[Z1 A B,ZY]
theorem anr {A:List Lg} (h:(fun _=>False)∈A):fC A=fun _=>False:=by
 induction A with
 | nil=>cases h
 | cons L A ih=>
  funext w
  refine propext ⟨?_,False.elim⟩
  rintro ⟨u,v,rfl,h1,U⟩
  rcases dp.1 h with rfl|h
  ·exact h1
  ·rw[ih h] at U;exact U
section
variable {n:Int}
theorem oC {e:Ex} (h:e.op=1):e.aL=fun _=>False:=by
 obtain ⟨o,l,ks⟩:=e
 rw[kM]
 have:o=1:=h
 subst this
 funext w;simp[dv]
theorem z0 {e:Ex} (h:e.op=2):e.aL=fun w=>w=[]:=by
 obtain ⟨o,l,ks⟩:=e
 rw[kM]
 have:o=2:=h
 subst this
 funext w;simp[dv]
theorem EA:gM.aL=fun _=>True:=by
 unfold gM
 rw[kM]
 funext w
 simp[dv,pg,oC (e:=dZ) rfl]
theorem w4 {l:Int} {ks:List Ex} {w:List UInt8}:(Ex.node 4 l ks).aL w↔∃k∈ks,k.aL w:=by
 rw[kM]
 show (∃L∈ks.map aL,L w)↔_
 constructor
 ·rintro ⟨L,hL,hw⟩
  obtain ⟨k,hk,rfl⟩:=eB.1 hL
  exact ⟨k,hk,hw⟩
 ·rintro ⟨k,hk,hw⟩
  exact ⟨_,eB.2 ⟨k,hk,rfl⟩,hw⟩
theorem z5 {l:Int} {ks:List Ex} {w:List UInt8}:(Ex.node 6 l ks).aL w↔∀k∈ks,k.aL w:=by
 rw[kM];simp[dv]
theorem z6 {l:Int} {ks:List Ex}:(Ex.node 5 l ks).aL=fC (ks.map Ex.aL):=by
 rw[kM,←anq]
 funext w;simp[dv]
theorem EB {l:Int} {k:Ex}:(Ex.node 7 l [k]).aL=dI k.aL:=by
 rw[kM]
 funext w;simp[dv,pg]
theorem EC {l:Int} {k:Ex}:(Ex.node 8 l [k]).aL=fun w=> ¬k.aL w:=by
 rw[kM]
 funext w;simp[dv,pg]
theorem w5 {e:Ex} {o:Int} (h:e.op=o):e= .node o e.letter e.kids:=by
 obtain ⟨o',l,ks⟩:=e
 have:o'=o:=h
 subst this
 rfl
theorem ans {ks:List Ex} {w:List UInt8}:(∃x∈bH 4 ks,x.aL w)↔∃k∈ks,k.aL w:=by
 constructor
 ·rintro ⟨x,hx,hw⟩
  obtain ⟨k,hk,⟨h1,U⟩|⟨h1,rfl⟩⟩:=jE.1 hx
  ·exact ⟨k,hk,by rw[w5 h1,w4];exact ⟨x,U,hw⟩⟩
  ·exact ⟨x,hk,hw⟩
 ·rintro ⟨k,hk,hw⟩
  by_cases h:k.op=4
  ·rw[w5 h,w4] at hw
   obtain ⟨x,hx,hw⟩:=hw
   exact ⟨x,jE.2 ⟨k,hk,.inl ⟨h,hx⟩⟩,hw⟩
  ·exact ⟨k,jE.2 ⟨k,hk,.inr ⟨h,rfl⟩⟩,hw⟩
theorem ant {ks:List Ex} {w:List UInt8}:(∀x∈bH 6 ks,x.aL w)↔∀k∈ks,k.aL w:=by
 constructor
 ·intro h k hk
  by_cases ho:k.op=6
  ·rw[w5 ho,z5]
   exact fun x hx=>h x (jE.2 ⟨k,hk,.inl ⟨ho,hx⟩⟩)
  ·exact h k (jE.2 ⟨k,hk,.inr ⟨ho,rfl⟩⟩)
 ·intro h x hx
  obtain ⟨k,hk,⟨h1,U⟩|⟨h1,rfl⟩⟩:=jE.1 hx
  ·have:=h k hk
   rw[w5 h1,z5] at this
   exact this x U
  ·exact h x hk
theorem Z2: ∀ks:List Ex,fC ((bH 5 ks).map Ex.aL)=fC (ks.map Ex.aL)
 | []=>rfl
 | k::ks=>by
  have ih:=Z2 ks
  unfold bH at*
  rw[mz,gm,Z1,ih,cr]
  show _=L2 k.aL (fC (ks.map Ex.aL))
  by_cases h:k.op=5
  ·rw[ah h]
   have:k.aL=fC (k.kids.map Ex.aL):=by
    have:=congrArg Ex.aL (w5 h)
    rw[this,z6]
   rw[this]
  ·rw[ai h]
   show L2 (L2 k.aL fun w=>w=[]) _=_
   rw[Ez]
theorem Z3: ∀ks:List Ex,fC ((ks.filter fun k=>decide (k.op≠2)).map Ex.aL)=fC (ks.map Ex.aL)
 | []=>rfl
 | k::ks=>by
  have ih:=Z3 ks
  by_cases h:k.op=2
  ·rw[List.filter_cons_of_neg (by simp[h]),ih]
   show _=L2 k.aL (fC (ks.map Ex.aL))
   rw[z0 h,ZZ]
  ·rw[List.filter_cons_of_pos (by simp[h]),cr,cr]
   show L2 k.aL _=L2 k.aL _
   rw[ih]
theorem anu {R:List Ex} {w:List UInt8}:(fA 4 R dZ).aL w↔∃k∈R,k.aL w:=by
 match R with
 | []=>simp[fA,oC (e:=dZ) rfl]
 | [k]=>simp[fA]
 | k::k2::R=>exact w4
theorem anv {R:List Ex} {w:List UInt8}:(fA 6 R gM).aL w↔∀k∈R,k.aL w:=by
 match R with
 | []=>simp[fA,EA]
 | [k]=>simp[fA]
 | k::k2::R=>exact z5
theorem anw {R:List Ex}:(fA 5 R jr).aL=fC (R.map Ex.aL):=by
 match R with
 | []=>exact z0 rfl
 | [k]=>exact Ez.symm
 | k::k2::R=>exact z6
theorem anx {A:Lg}:dI (dI A)=dI A:=by
 funext w
 refine propext ⟨fun h=> ?_,.one⟩
 induction h with
 | nil=>exact .nil
 | cons a _ ih=>exact a.append ih
theorem anz {A:Lg} (h: ∀w,A w→w=[]):dI A=fun w=>w=[]:=by
 funext w
 refine propext ⟨fun hs=> ?_,fun e=>e▸ .nil⟩
 induction hs with
 | nil=>rfl
 | cons a _ ih=>rw[h _ a,ih];rfl
theorem anA {o l:Int} {ks:List Ex} (hk: ∀k∈ks,Gd n k) (hs:dx o l ks.length n=true):(dJ o l ks).aL=(Ex.node o l ks).aL:=by
 rcases eH hs with ⟨rfl,_⟩|⟨_,⟨rfl,_⟩|⟨rfl,_⟩|⟨rfl,_⟩|⟨rfl,_⟩|⟨rfl,_⟩|⟨rfl,hlen⟩|⟨rfl,hlen⟩⟩
 ·rw[j5 (by simp)]
 ·rw[j5 (by simp)]
 ·rw[j5 (by simp)]
 ·funext w
  refine propext ?_
  rw[wo,w4,←ans]
  by_cases h:(bH 4 ks).any univ=true
  ·rw[ah h]
   obtain ⟨x,hx,hu⟩:=kf.1 h
   have:=Ik (Dp hk 4 x hx) hu
   subst this
   rw[EA]
   exact ⟨fun _=>⟨gM,hx,by rw[EA];trivial⟩,fun _=>trivial⟩
  ·rw[ai h,anu]
   constructor
   ·rintro ⟨x,hx,hw⟩
    exact ⟨x,(kg.1 (qC.1 hx)).1,hw⟩
   ·rintro ⟨x,hx,hw⟩
    refine ⟨x,qC.2 (kg.2 ⟨hx,?_⟩),hw⟩
    rw[dW]
    intro h1
    rw[oC h1] at hw
    exact hw
 ·rw[tQ,z6,←Z2]
  by_cases h:(bH 5 ks).any (fun k=>decide (k.op=1))=true
  ·rw[ah h,oC rfl]
   obtain ⟨x,hx,hu⟩:=kf.1 h
   rw[anr (eB.2 ⟨x,hx,oC (gP hu)⟩)]
  ·rw[ai h,anw,Z3]
 ·funext w
  refine propext ?_
  rw[zi,z5,←ant]
  by_cases h:(bH 6 ks).any (fun k=>decide (k.op=1))=true
  ·rw[ah h,oC rfl]
   obtain ⟨x,hx,hu⟩:=kf.1 h
   refine ⟨False.elim,fun jh=> ?_⟩
   have:=jh x hx
   rw[oC (gP hu)] at this
   exact this
  ·rw[ai h,anv]
   constructor
   ·intro jh x hx
    by_cases hu:univ x=true
    ·rw[Ik (Dp hk 6 x hx) hu,EA];trivial
    ·exact jh x (qC.2 (kg.2 ⟨hx,by simp[hu]⟩))
   ·intro jh x hx
    exact jh x (kg.1 (qC.1 hx)).1
 ·obtain ⟨k,rfl⟩: ∃k,ks=[k]:=oJ.1 (by omega)
  have hg:=hk k (by simp)
  rw[zj,EB]
  by_cases h:k.op=1∨k.op=2
  ·rw[ah h,z0 rfl]
   refine (anz fun w hw=> ?_).symm
   rcases h with h|h
   ·rw[oC h] at hw;exact hw.elim
   ·rw[z0 h] at hw;exact hw
  ·rw[ai h]
   by_cases h7:k.op=7∨univ k=true
   ·rw[ah h7]
    rcases h7 with h7|h7
    ·have tw:=hg.shape
     rw[h7] at tw
     have hl:k.kids.length=1:=by
      rcases eH tw with h|⟨_,h|h|h|h|h|h|h⟩<;>omega
     obtain ⟨z,hz⟩:=oJ.1 hl
     have:=congrArg Ex.aL (w5 h7)
     rw[this,hz,EB,anx]
    ·rw[Ik hg h7,EA]
     funext w
     exact propext ⟨fun _=> .one trivial,fun _=>trivial⟩
   ·rw[ai h7,EB]
 ·obtain ⟨k,rfl⟩: ∃k,ks=[k]:=oJ.1 (by omega)
  have hg:=hk k (by simp)
  rw[zk,EC]
  by_cases h:k.op=8
  ·rw[ah h]
   have tw:=hg.shape
   rw[h] at tw
   have hl:k.kids.length=1:=by
    rcases eH tw with h|⟨_,h|h|h|h|h|h|h⟩<;>omega
   obtain ⟨z,hz⟩:=oJ.1 hl
   have:=congrArg Ex.aL (w5 h)
   rw[this,hz,EC]
   funext w
   exact propext ⟨fun h1 U=>U h1,fun h1=>ER.1 h1⟩
  ·rw[ai h,EC]
theorem anB {o l:Int} {A B:List Ex} (h:A.map Ex.aL=B.map Ex.aL):(Ex.node o l A).aL=(Ex.node o l B).aL:=by rw[kM,kM,h]
theorem Z4: ∀e:Ex,e.wf n=true→(aV e).aL=e.aL:=ind fun o l ks ih hw=>by
 obtain ⟨h1,U⟩:=gf hw
 rw[mo,anA (n:=n) (fun k hk=>by
  obtain ⟨x,hx,rfl⟩:=eB.1 hk
  exact mq x (U x hx)) (by rw[bw];exact h1)]
 refine anB ?_
 rw[List.map_map]
 exact nt fun k hk=>ih k hk (U k hk)
end
theorem anC {A B:Lg}:L2 A B []↔A []∧B []:=by
 constructor
 ·rintro ⟨u,v,h,ha,hb⟩
  have h:=h.symm
  rw[List.append_eq_nil_iff] at h
  obtain ⟨rfl,rfl⟩:=h
  exact ⟨ha,hb⟩
 ·rintro ⟨ha,hb⟩;exact ⟨[],[],rfl,ha,hb⟩
theorem Z5: ∀(Ls:List Lg) (A:Lg),Ls.foldl L2 A []↔A []∧∀L∈Ls,L []
 | [],A=>by simp
 | L::Ls,A=>by rw[List.foldl_cons,Z5 Ls,anC];simp[and_assoc]
theorem anD: ∀e:Ex,e.wf 6=true→(e.dc=true↔e.aL []):=ind fun o l ks ih rR=>by
 obtain ⟨hs,N6⟩:=gf rR
 have hk: ∀k∈ks,(k.dc=true↔k.aL []):=fun k hk=>ih k hk (N6 k hk)
 rw[kM]
 unfold dx at hs
 simp only[dc]
 have anE:lD ks=true↔∃L∈ks.map aL,L []:=by
  rw[Ia,kf]
  constructor
  ·rintro ⟨k,h1,U⟩;exact ⟨_,List.mem_map_of_mem h1,(hk k h1).1 U⟩
  ·rintro ⟨L,h1,U⟩
   obtain ⟨k,h3,rfl⟩:=eB.1 h1
   exact ⟨k,h3,(hk k h3).2 U⟩
 have jh:om ks=true↔∀L∈ks.map aL,L []:=by
  rw[Ib,lM,←Bool.not_eq_true,kf]
  constructor
  ·intro h L hL
   obtain ⟨k,h3,rfl⟩:=eB.1 hL
   refine (hk k h3).1 ?_
   cases hc:k.dc
   ·exact absurd ⟨k,h3,by simp[hc]⟩ h
   ·rfl
  ·rintro h ⟨k,h1,U⟩
   have:=(hk k h1).2 (h _ (List.mem_map_of_mem h1))
   rw[this] at U;cases U
 by_cases h3:o=3
 ·subst h3;simp[dv]
 rw[ai h3] at hs
 simp only[aN] at hs
 obtain ⟨_,hs⟩:=hs
 by_cases h1:o=1
 ·subst h1;simp[dv]
 by_cases U:o=2
 ·subst U;simp[dv]
 rw[ai (by omega)] at hs
 by_cases wg:o=7∨o=8
 ·rw[ah wg] at hs
  have hs:=gP hs
  obtain ⟨k,rfl⟩: ∃k,ks=[k]:=by
   match ks,hs with
   | [k],_=>exact ⟨k,rfl⟩
   | [],h=>simp at h
   | _::_::_,h=>simp at h;omega
  rcases wg with rfl|rfl
  ·have:dI (pg ([k].map aL)) []:= .nil
   simp only[dv,cU]
   simpa using this
  ·have:=hk k (by simp)
   simp only[dv,pg,lD,cr,fl,Bool.or_false]
   simp[←this]
 ·rw[ai wg] at hs
  obtain ⟨h4,h6,hn⟩:=gP hs
  have N8:o=4∨o=5∨o=6:=by omega
  rcases N8 with rfl|rfl|rfl
  ·simp only[dv];simpa using anE
  ·have:tA (ks.map aL) []↔∀L∈ks.map aL,L []:=by
    match ks with
    | []=>simp[tA]
    | k::ks=>simp only[cr,tA];rw[Z5];simp
   simp only[dv];simpa[this] using jh
  ·simp only[dv];simpa using jh
theorem anF {l:List Ex} (h:l≠[]) {w:List UInt8}:(oneOf 4 l).aL w↔∃k∈l,k.aL w:=by
 match l,h with
 | [k],_=>simp[oneOf]
 | k::k2::l,_=>exact w4
theorem anG {l:List Ex} (h:l≠[]):(oneOf 5 l).aL=fC (l.map Ex.aL):=by
 match l,h with
 | [k],_=>exact Ez.symm
 | k::k2::l,_=>exact z6
theorem Z6 {b:UInt8} {w:List UInt8}: ∀{ks:List Ex},(∀k∈ks,k.wf 6=true)→(∀k∈ks,∀w,(b7 ((b.toNat:Int)-97) k).aL w↔k.aL (b::w))→((∃x∈ij ((b.toNat:Int)-97) ks,x.aL w)↔fC (ks.map Ex.aL) (b::w))
 | [],_,_=>by simp[ij,fC]
 | k::ks,hw,ih=>by
  have anH:=Z6 (b:=b) (w:=w) (ks:=ks) (fun x hx=>hw x (by simp[hx])) fun x hx=>ih x (by simp[hx])
  have hn:=anD k (hw k (by simp))
  have hb:=ih k (by simp)
  have hl:(oneOf 5 (b7 ((b.toNat:Int)-97) k::ks)).aL w↔∃u v,w=u++v∧k.aL (b::u)∧fC (ks.map Ex.aL) v:=by
   rw[anG (by simp)]
   constructor
   ·rintro ⟨u,v,rfl,h1,U⟩;exact ⟨u,v,rfl,(hb u).1 h1,U⟩
   ·rintro ⟨u,v,rfl,h1,U⟩;exact ⟨u,v,rfl,(hb u).2 h1,U⟩
  have hr:fC ((k::ks).map Ex.aL) (b::w)↔(∃u v,w=u++v∧k.aL (b::u)∧fC (ks.map Ex.aL) v)∨(k.aL []∧fC (ks.map Ex.aL) (b::w)):=by
   constructor
   ·rintro ⟨u,v,h,h1,U⟩
    cases u with
    | nil=>
     have e:b::w=v:=h
     rw[←e] at U
     exact .inr ⟨h1,U⟩
    | cons c u=>
     obtain ⟨rfl,rfl⟩:=fE (show b::w=c::(u++v) from h)
     exact .inl ⟨u,v,rfl,h1,U⟩
   ·rintro (⟨u,v,rfl,h1,U⟩|⟨h1,U⟩)
    ·exact ⟨b::u,v,rfl,h1,U⟩
    ·exact ⟨[],b::w,rfl,h1,U⟩
  rw[hr,←anH,←hn,←hl,D5]
  by_cases hk:k.dc=true
  ·rw[ah hk]
   simp[hk]
  ·rw[ai hk]
   simp[hk]
theorem anI {b:UInt8}: ∀e:Ex,e.wf 6=true→∀w,(b7 ((b.toNat:Int)-97) e).aL w↔e.aL (b::w):=ind fun o l ks ih hw w=>by
 obtain ⟨h1,U⟩:=gf hw
 have hk: ∀k∈ks,∀w,(b7 ((b.toNat:Int)-97) k).aL w↔k.aL (b::w):=fun k hk=>ih k hk (U k hk)
 rw[wU]
 rcases eH h1 with ⟨rfl,h⟩|⟨rfl,⟨rfl,h⟩|⟨rfl,h⟩|⟨rfl,h⟩|⟨rfl,h⟩|⟨rfl,h⟩|⟨rfl,h⟩|⟨rfl,h⟩⟩
 ·rw[ah rfl,kM]
  have Gw:dv 3 l (ks.map aL) (b::w)↔w=[]∧(b.toNat:Int)-97=l:=by
   simp only[dv]
   simp only[show¬((3:Int)=2) by omega,fR,cU]
   constructor
   ·rintro ⟨c,h,h3⟩
    obtain ⟨rfl,rfl⟩:=fE h
    exact ⟨rfl,h3⟩
   ·rintro ⟨rfl,h⟩;exact ⟨b,rfl,h⟩
  rw[Gw]
  by_cases hl:l=(b.toNat:Int)-97
  ·rw[ah hl,z0 rfl];simp[hl]
  ·rw[ai hl,oC rfl]
   exact ⟨False.elim,fun h=>hl h.2.symm⟩
 ·rw[ai (by omega),ai (by omega),ai (by omega),ai (by omega),oC rfl,oC (e:= .node 1 0 ks) rfl]
 ·rw[ai (by omega),ai (by omega),ai (by omega),ai (by omega),oC rfl,z0 (e:= .node 2 0 ks) rfl]
  simp
 ·rw[ai (by omega),ah (by omega),w4,w4]
  constructor
  ·rintro ⟨x,hx,hl⟩
   obtain ⟨k,fw,rfl⟩:=eB.1 hx
   exact ⟨k,fw,(hk k fw w).1 hl⟩
  ·rintro ⟨k,fw,hl⟩
   exact ⟨_,eB.2 ⟨k,fw,rfl⟩,(hk k fw w).2 hl⟩
 ·have bD:ks≠[]:=by rintro rfl;simp at h
  rw[ai (by omega),ai (by omega),ai (by omega),ah rfl,anF (OY bD),z6]
  exact Z6 U hk
 ·rw[ai (by omega),ah (by omega),z5,z5]
  constructor
  ·intro hl k fw
   exact (hk k fw w).1 (hl _ (eB.2 ⟨k,fw,rfl⟩))
  ·intro hl x hx
   obtain ⟨k,fw,rfl⟩:=eB.1 hx
   exact (hk k fw w).2 (hl k fw)
 ·obtain ⟨k,rfl⟩:=oJ.1 (show ks.length=1 by omega)
  rw[ai (by omega),ai (by omega),ah rfl,z6,EB]
  show L2 (b7 _ k).aL (L2 (Ex.node 7 0 [k]).aL fun w=>w=[]) w↔_
  rw[Ez,EB]
  constructor
  ·rintro ⟨u,v,rfl,h3,h4⟩
   exact .cons ((hk k (by simp) u).1 h3) h4
  ·intro hs
   rcases hs.first with h|⟨u,v,hu,h,h3,h4⟩
   ·cases h
   ·cases u with
    | nil=>exact absurd rfl hu
    | cons c u=>
     obtain ⟨rfl,rfl⟩:=fE (show b::w=c::(u++v) from h)
     exact ⟨u,v,rfl,(hk k (by simp) u).2 h3,h4⟩
 ·obtain ⟨k,rfl⟩:=oJ.1 (show ks.length=1 by omega)
  rw[ai (by omega),ah (by omega)]
  show (Ex.node 8 0 [b7 _ k]).aL w↔_
  rw[EC,EC]
  show (¬(b7 _ k).aL w)↔¬k.aL (b::w)
  rw[hk k (by simp) w]
theorem anJ {e d:Ex} {b:UInt8} (he:Nv e) (hb:97≤b.toNat) (h:lI e (b.toNat-97)=some d):Nv d∧∀v,d.aL v↔e.aL (b::v):=by
 obtain ⟨h1,U⟩:=Ja he h
 refine ⟨h1,fun v=> ?_⟩
 have e1:(((b.toNat-97:Nat):Int))=(b.toNat:Int)-97:=by omega
 rw[U,Z4 _ (uc e he.1.2),e1]
 exact anI e he.1.2 v
theorem Z7: ∀(w:List UInt8) (e x:Ex),Nv e→(∀b∈w,97≤b.toNat)→qJ w e=some x→Nv x∧∀v,x.aL v↔e.aL (w++v)
 | [],e,x,he,_,h=>by cases h;exact ⟨he,fun v=>Iff.rfl⟩
 | b::w,e,x,he,hw,h=>by
  rw[qJ] at h
  cases hs:lI e (b.toNat-97) with
  | none=>rw[hs] at h;cases h
  | some d=>
   rw[hs] at h
   obtain ⟨h1,U⟩:=anJ he (hw b (by simp)) hs
   obtain ⟨h3,h4⟩:=Z7 w d x h1 (fun c hc=>hw c (by simp[hc])) h
   exact ⟨h3,fun v=>(h4 v).trans (U _)⟩
end Go.AM
set_option maxRecDepth 100000
namespace Go.AM
open Go.Proofs
noncomputable def Z8 (C:ae) (aj ar:Int) (ag:List V) (w v:List UInt8):Option (List V):=
 (C GW [.int .i64 aj,.int .i64 ar,.list aa ag,.int .i64 16]).bind fun r1=>
 bif !((V.nth r1 0).toBool) then
  (C tj []).bind fun r2=>
  some [.bool ((V.nth r2 0).toBool)]
 else
  bif decide (((IntKind.wrap .i64 ((w.length:Int)+(v.length:Int))):Int)>7) then
  (C tj []).bind fun r3=>
  some [.bool ((V.nth r3 0).toBool)]
  else
  bif Nat.ble (w.length+v.length) nz then
   (C GU [.str (w++v),.int .i64 6]).bind fun r4=>
   bif !((V.nth r4 0).toBool) then
   (C tj []).bind fun r5=>
   some [.bool ((V.nth r5 0).toBool)]
   else
   (C GX [.int .i64 aj,.int .i64 ar,.list aa ag,.str w]).bind fun r6=>
   bif (((V.nth (r6.drop 3) 0).toInt):Int) != 0 then
    bif (((V.nth (r6.drop 3) 0).toInt):Int)==3 then
    (C tj []).bind fun r7=>
    some [.bool ((V.nth r7 0).toBool)]
    else
    some [.bool false]
   else
    (C BF [.int .i64 ((V.nth r6 0).toInt),.int .i64 ((V.nth (r6.drop 1) 0).toInt),.list aa ((V.nth ((r6.drop 1).drop 1) 0).toList),.str v]).bind fun r8=>
    bif Nat.ble (w.length+v.length) nz then
    (C BF [.int .i64 aj,.int .i64 ar,.list aa ag,.str (w++v)]).bind fun r9=>
    bif ((V.nth r8 0).toBool)==((V.nth r9 0).toBool) then
     (C tj []).bind fun dY=>
     some [.bool ((V.nth dY 0).toBool)]
    else
     some [.bool false]
    else none
  else none
theorem anK {aj ar:Int} {ag:List V} {w v:List UInt8} {r:Option (List V)} (h:Z8 CC aj ar ag w v=r):CC LI [.int .i64 aj,.int .i64 ar,.list aa ag,.str w,.str v]=r:=
 aZ (key:=4) (L:=bX) (bs:=[]) (by kernel_rfl) aw (aX (by kernel_rfl) h)
end Go.AM
set_option maxRecDepth 100000
namespace Go.AM
open Go.Proofs Ex
theorem anL {w:List UInt8} {L:Int} (h:kN w L): ∀b∈w,97≤b.toNat:=fun b hb=>by
 obtain ⟨i,hi,rfl⟩:=List.getElem_of_mem hb
 have:=h.2.2.2 i hi
 unfold cZ at this
 rw[iu,bN hi,Option.getD_some] at this
 omega
theorem aac (e:Ex) (h:e.Ok) (w v:List UInt8) (hwl:w.length≤reachBytes) (sV:v.length≤reachBytes):CC LI (bY e [.str w,.str v])=some [.bool true]:=by
 refine anK ?_
 unfold Z8
 refine bs (amj e h 16) ?_
 by_cases hl:e.val 6=0∧(e.size:Int)≤16
 case neg=>exact bT (by rw[V.aC,V.cN,ct hl];rfl) (bs Ey rfl)
 refine bF (by rw[V.aC,V.cN,eC hl];rfl) ?_
 rw[az]
 by_cases h7:IntKind.wrap .i64 ((w.length:Int)+(v.length:Int))>7
 ·rw[ah h7];exact bs Ey rfl
 rw[ai h7]
 rw[wrap64 (by omega) (by unfold reachBytes at*;omega)] at h7
 have Z9:Nat.ble (w.length+v.length) nz=true:=by rw[eb];unfold nz;omega
 refine bT Z9 (bs (af4 (w++v) 6) ?_)
 by_cases hw:kN (w++v) 6
 case neg=>exact bT (by rw[V.aC,V.cN,ct hw];rfl) (bs Ey rfl)
 refine bF (by rw[V.aC,V.cN,eC hw];rfl) ?_
 refine bs (amh e h w) ?_
 obtain ⟨w1,w2⟩:=amk hw
 have a1:Jc e w=Jb w (aV e):=by unfold Jc;rw[ah hl.1,ah w1]
 rw[a1]
 unfold Jb
 cases hg:qJ w (aV e) with
 | none=>exact bT rfl (bT rfl (bs Ey rfl))
 | some x=>
  obtain ⟨hx,lp⟩:=Z7 w _ x (Y9 hl.1) (anL w1) hg
  have hm:wh x v=wh e (w++v):=by
   rw[nu,Di,Di,lp,Z4 e (nf hl.1).2.2]
   exact ⟨fun a=>⟨hl.1,hw,a.2.2⟩,fun a=>⟨hx.2,w2,a.2.2⟩⟩
  refine bF rfl (bs (We x (amd hx) v) (bT Z9 (bs (We e h (w++v)) (bT ?_ (bs Ey rfl)))))
  rw[V.aC,V.aC,V.cN,V.cN,hm]
  exact beq_self_eq_true _
end Go.AM
