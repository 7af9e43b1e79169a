/-
  Functions of the program, lifted to plain data.
-/
import Derived.Test.YtppefogdkedaiaaGreatDoorP6
set_option linter.unusedVariables false
set_option linter.unusedSimpArgs false
set_option maxRecDepth 100000
namespace Go.AM
open Go.Proofs Ex
structure Dv where
 L:Int
 es:List Ex
 nx:List (List Int)
 dn:Int
deriving DecidableEq
def Dv.zero:Dv:=⟨0,[],[],0⟩
def qN (e:Ex) (c:Nat):Option Ex:=if (aZ (b7 c e)).val 6=0 then some (aZ (b7 c e)) else none
def oG (e:Ex):Nat→Nat→List Ex→List Int→Option (List Ex × List Int)
 | 0,_,es,row=>some (es,row)
 | n+1,x,es,row=>(qN e x).bind fun d=>
  if d∈es then oG e n (x+1) es (row++[(es.idxOf d:Int)])
  else if es.length=512 then none else oG e n (x+1) (es++[d]) (row++[(es.length:Int)])
def proc (s:Dv):Option Dv:=(oG (s.es.getD s.dn.toNat bm) s.L.toNat 0 s.es []).map fun p=>⟨s.L,p.1,s.nx++[p.2],s.dn+1⟩
def pG:Nat→Dv→Option Dv
 | 0,s=>some s
 | n+1,s=>if s.dn<s.es.length then (proc s).bind (pG n) else some s
def pH (e:Ex) (L:Int):Dv:=⟨L,[aZ e],[],0⟩
theorem Y9 {L:Int} (h:L≤6): ∀e:Ex,e.wf L=true→e.wf 6=true:=ind fun o l ks ih hw=>by
 obtain ⟨h1,U⟩:=gg hw
 refine wu ?_ fun k hk=>ih k hk (U k hk)
 unfold dz at h1⊢
 by_cases ho:o=3
 ·rw[ag ho] at h1⊢
  have:=iw h1
  exact eK (by omega)
 ·rw[ah ho] at h1⊢;exact h1
theorem Ec {e:Ex} {L:Int} (h:e.val L=0):(1≤L∧L≤6)∧e.depth≤40∧e.size≤400∧e.wf L=true:=by
 unfold Ex.val at h
 repeat' split at h
 all_goals first|omega|skip
 next a b c=>exact ⟨a,b.1,b.2,c⟩
theorem val_mk {e:Ex} {L:Int} (h:(1≤L∧L≤6)∧e.depth≤40∧e.size≤400∧e.wf L=true):e.val L=0:=by
 unfold Ex.val
 rw[ag h.1,ag ⟨h.2.1,h.2.2.1⟩,ag h.2.2.2]
theorem Ed {e:Ex} {L:Int} (h:e.val L=0):e.val 6=0:=by
 obtain ⟨h1,U,h3,h4⟩:=Ec h
 exact val_mk ⟨by omega,U,h3,Y9 h1.2 e h4⟩
theorem Za {e:Ex} {L:Int} (h:e.val L=0):(aZ e).val L=0:=by
 obtain ⟨h1,U,h3,h4⟩:=Ec h
 have:=Dq e h4
 have:=ajb e h4
 exact val_mk ⟨h1,by omega,by omega,(nj e h4).2⟩
def Nv (e:Ex):Prop:=Gd 6 e∧e.val 6=0
theorem Nv.aZ {e:Ex} (h:Nv e):aZ e=e:=WX e h.1
theorem PA {e d:Ex} {c:Nat} (he:Nv e) (h:qN e c=some d):Nv d∧d=Go.AM.aZ (b7 c e):=by
 unfold qN at h
 split at h
 ·next hv=>
  cases h
  exact ⟨⟨nj _ (uh e he.1.2),hv⟩,rfl⟩
 ·cases h
structure Es (es:List Ex):Prop where
 le:es.length≤512
 nv: ∀e∈es,Nv e
 nd:es.Nodup
def qO (e:Ex) (es:List Ex) (n:Nat) (row:List Int):Prop:=row.length=n∧∀x,x<n→∃j:Nat,row.getD x 0=j∧j<es.length∧qN e x=some (es.getD j bm)
theorem qO.mono {e:Ex} {es t:List Ex} {n:Nat} {row:List Int} (h:qO e es n row):qO e (es++t) n row:=⟨h.1,fun x hx=>by
 obtain ⟨j,h1,U,h3⟩:=h.2 x hx
 refine ⟨j,h1,by rw[cB];omega,?_⟩
 rw[h3,gW,gW,iT U]⟩
theorem qO.snoc {e:Ex} {es:List Ex} {n j:Nat} {row:List Int} (h:qO e es n row) (h1:j<es.length) (U:qN e n=some (es.getD j bm)):qO e es (n+1) (row++[(j:Int)]):=by
 refine ⟨by rw[cB,h.1];rfl,fun x hx=> ?_⟩
 rcases pJ x n with c|c
 ·obtain ⟨i,i1,i2,i3⟩:=h.2 x c
  refine ⟨i,?_,i2,i3⟩
  rw[←i1,gW,gW,iT (by rw[h.1];exact c)]
 ·obtain rfl:x=n:=by omega
  refine ⟨j,?_,h1,U⟩
  rw[gW,iU (by rw[h.1];exact bV _),h.1]
  simp
theorem Es.snoc {es:List Ex} {d:Ex} (h:Es es) (hd:Nv d) (hn:d∉es) (hl:es.length≠512):Es (es++[d]):=by
 refine ⟨by have:=h.le;simp;omega,fun e he=> ?_,?_⟩
 ·rcases eJ.1 he with he|he
  ·exact h.nv e he
  ·rw[ew.1 he];exact hd
 ·rw[EO]
  refine ⟨h.nd,by simp,fun a ha b hb=> ?_⟩
  rw[ew.1 hb]
  rintro rfl
  exact hn ha
theorem amg {es:List Ex} {d:Ex} (h:d∈es):es.getD (es.idxOf d) bm=d:=by
 have:=List.idxOf_lt_length_iff.2 h
 rw[gW,bH this,Option.getD_some,List.getElem_idxOf]
theorem PB {e:Ex} (he:Nv e): ∀(n x:Nat) (es:List Ex) (row:List Int) (p:List Ex × List Int),Es es→qO e es x row→oG e n x es row=some p→Es p.1∧qO e p.1 (x+n) p.2∧∃t,p.1=es++t
 | 0,x,es,row,p,h1,U,h=>by
  cases h
  exact ⟨h1,U,[],by simp⟩
 | n+1,x,es,row,p,h1,U,h=>by
  rw[oG] at h
  cases hs:qN e x with
  | none=>rw[hs] at h;cases h
  | some d=>
   rw[hs] at h
   obtain ⟨hd,_⟩:=PA he hs
   simp only[Option.bind_some] at h
   by_cases hm:d∈es
   ·rw[ag hm] at h
    have:=PB he n (x+1) es _ p h1 (U.snoc (List.idxOf_lt_length_iff.2 hm) (by rw[hs,amg hm])) h
    rw[show x+(n+1)=x+1+n by omega]
    exact this
   ·rw[ah hm] at h
    by_cases hl:es.length=512
    ·rw[ag hl] at h;cases h
    ·rw[ah hl] at h
     obtain ⟨a,b,t,c⟩:=PB he n (x+1) (es++[d]) _ p (h1.snoc hd hm hl) (U.mono.snoc (by simp) (by rw[hs,gW];simp)) h
     rw[show x+(n+1)=x+1+n by omega]
     exact ⟨a,b,d::t,by rw[c,cw];rfl⟩
structure Gs (s:Dv):Prop where
 L:1≤s.L∧s.L≤6
 ne:s.es≠[]
 es:Es s.es
 dn:0≤s.dn∧s.dn≤s.es.length
 nl:s.nx.length=s.dn.toNat
 row: ∀q,q<s.dn.toNat→qO (s.es.getD q bm) s.es s.L.toNat (s.nx.getD q [])
theorem Je {α:Type} {a b:List α} {i:Nat} {z:α} (h:i<a.length):(a++b).getD i z=a.getD i z:=by
 rw[gW,gW,iT h]
theorem Jf {α:Type} {a:List α} {i:Nat} {z:α} (h:i<a.length):a.getD i z∈a:=by
 rw[gW,bH h];simp
theorem Zb {s t:Dv} (h:proc s=some t): ∃p,oG (s.es.getD s.dn.toNat bm) s.L.toNat 0 s.es []=some p∧t=⟨s.L,p.1,s.nx++[p.2],s.dn+1⟩:=by
 unfold proc at h
 cases hr:oG (s.es.getD s.dn.toNat bm) s.L.toNat 0 s.es [] with
 | none=>rw[hr] at h;cases h
 | some p=>rw[hr] at h;cases h;exact ⟨p,rfl,rfl⟩
theorem Zc {s t:Dv} (hs:Gs s) (hd:s.dn<s.es.length) (h:proc s=some t):Gs t∧t.L=s.L∧t.dn=s.dn+1∧∃r,t.es=s.es++r:=by
 obtain ⟨p,hp,rfl⟩:=Zb h
 have Zd:=hs.dn
 have hq:s.dn.toNat<s.es.length:=by omega
 obtain ⟨a,b,r,c⟩:=PB (hs.es.nv _ (Jf hq)) _ 0 _ _ p hs.es ⟨rfl,fun x hx=>by omega⟩ hp
 have hn:=hs.nl
 refine ⟨⟨hs.L,by rw[c];simp[hs.ne],a,⟨by show 0≤s.dn+1;omega,?_⟩,?_,fun q Bh=> ?_⟩,rfl,rfl,r,c⟩
 ·show s.dn+1≤(p.1.length:Int)
  rw[c,cB];omega
 ·show (s.nx++[p.2]).length=(s.dn+1).toNat
  rw[cB,hn];simp;omega
 ·have hq3:q<(s.dn+1).toNat:=Bh
  show qO (p.1.getD q bm) p.1 s.L.toNat ((s.nx++[p.2]).getD q [])
  rcases pJ q s.dn.toNat with e|e
  ·rw[Je (by omega),c,Je (by omega)]
   exact (hs.row q e).mono
  ·obtain rfl:q=s.dn.toNat:=by omega
   rw[gW (l:=s.nx++[p.2]),iU (by omega),hn,Nat.sub_self]
   simp only[List.getElem?_cons_zero,Option.getD_some]
   rw[gV] at b
   have e1:p.1.getD s.dn.toNat bm=s.es.getD s.dn.toNat bm:=by rw[c,Je (by omega)]
   rw[e1]
   exact b
theorem Ee: ∀(n:Nat) (s t:Dv),Gs s→pG n s=some t→Gs t∧t.L=s.L∧(∃r,t.es=s.es++r)∧(t.dn=t.es.length∨t.dn=s.dn+n)
 | 0,s,t,hs,h=>by cases h;exact ⟨hs,rfl,⟨[],by simp⟩,.inr (by simp)⟩
 | n+1,s,t,hs,h=>by
  rw[pG] at h
  by_cases hd:s.dn<s.es.length
  ·rw[ag hd] at h
   cases hp:proc s with
   | none=>rw[hp] at h;cases h
   | some u=>
    rw[hp] at h
    obtain ⟨a,b,c,r,d⟩:=Zc hs hd hp
    obtain ⟨e,f,⟨r2,g⟩,i⟩:=Ee n u t a h
    refine ⟨e,f.trans b,⟨r++r2,by rw[g,d,cw]⟩,?_⟩
    rcases i with i|i
    ·exact .inl i
    ·exact .inr (by rw[i,c];omega)
  ·rw[ah hd] at h
   cases h
   exact ⟨hs,rfl,⟨[],by simp⟩,.inl (by have:=hs.dn;omega)⟩
theorem Jg {e:Ex} {L:Int} (h:e.val L=0):Gs (pH e L):=by
 obtain ⟨h1,U,h3,h4⟩:=Ec h
 refine ⟨h1,by simp[pH],⟨by simp[pH],fun x hx=> ?_,by simp[pH]⟩,by simp[pH],rfl,fun q hq=>by simp[pH] at hq⟩
 rw[ew.1 hx]
 exact ⟨nj e (Y9 h1.2 e h4),Ed (Za h)⟩
theorem amh {s t:Dv} (hs:Gs s) {n:Nat} (hn:513≤s.dn+n) (h:pG n s=some t):t.dn=t.es.length:=by
 obtain ⟨g,_,_,e⟩:=Ee n s t hs h
 rcases e with e|e
 ·exact e
 ·have:=g.dn;have:=g.es.le;omega
end Go.AM
set_option maxRecDepth 100000
namespace Go.AM
open Go.Proofs
noncomputable def Ze (C:ae) (df c9:Int) (jN:List V) (lb PC:Int) (PD:List V) (PE:Bool):Option (List V):=
 (C yA [.int .i64 df,.int .i64 c9,.list aa jN,.int .i64 6]).bind fun r1=>
 bif (((V.nth r1 0).toInt):Int) != 0 then
  some [.int .i64 0,.int .i64 0,.list aa ([]:List V),.int .i64 3]
 else
  some [.int .i64 df,.int .i64 c9,.list aa jN,.int .i64 0]
theorem ami {df c9:Int} {jN:List V} {lb PC:Int} {PD:List V} {PE:Bool} {r:Option (List V)} (h:Ze CC df c9 jN lb PC PD PE=r):CC Ha [.int .i64 df,.int .i64 c9,.list aa jN,.int .i64 lb,.int .i64 PC,.list aa PD,.bool PE]=r:=
 aY (key:=46) (L:=b6) (bs:=[]) (by kernel_rfl) ax (aX (by kernel_rfl) h)
noncomputable def Zf (C:ae) (aj ar:Int) (ai:List V) (letter:Int):Option (List V):=
 (C ph [.int .i64 letter,.bool true,.int .i64 aj,.int .i64 ar,.list aa ai]).bind fun r1=>
 (C Ha [.int .i64 ((V.nth r1 0).toInt),.int .i64 ((V.nth (r1.drop 1) 0).toInt),.list aa ((V.nth ((r1.drop 1).drop 1) 0).toList),.int .i64 ((V.nth (((r1.drop 1).drop 1).drop 1) 0).toInt),.int .i64 ((V.nth ((((r1.drop 1).drop 1).drop 1).drop 1) 0).toInt),.list aa ((V.nth (((((r1.drop 1).drop 1).drop 1).drop 1).drop 1) 0).toList),.bool ((V.nth ((((((r1.drop 1).drop 1).drop 1).drop 1).drop 1).drop 1) 0).toBool)]).bind fun r2=>
 some [.int .i64 ((V.nth r2 0).toInt),.int .i64 ((V.nth (r2.drop 1) 0).toInt),.list aa ((V.nth ((r2.drop 1).drop 1) 0).toList),.int .i64 ((V.nth (r2.drop 3) 0).toInt)]
theorem amj {aj ar:Int} {ai:List V} {letter:Int} {r:Option (List V)} (h:Zf CC aj ar ai letter=r):CC G6 [.int .i64 aj,.int .i64 ar,.list aa ai,.int .i64 letter]=r:=
 aY (key:=33) (L:=b6) (bs:=[]) (by kernel_rfl) ax (aX (by kernel_rfl) h)
end Go.AM
set_option maxRecDepth 100000
namespace Go.AM
open Go.Proofs Ex
abbrev Zg (p:Ex × Int):List V:=b9 p.1 [.int .i64 p.2]
def z7 (x:Ex):Ex × Int:=if x.val 6=0 then (x,0) else (bm,3)
theorem amk {x y:Ex} {b:Bool} (hx:x.Ok):CC Ha (b9 x (b9 y [.bool b]))=some (Zg (z7 x)):=by
 refine ami ?_
 unfold Ze z7
 refine bs (NV x hx 6) ?_
 by_cases hv:x.val 6=0
 ·rw[ag hv]
  exact bF (by simp[hv]) rfl
 ·rw[ah hv]
  exact bT (by simp[hv]) rfl
theorem aml {c:Int} {e:Ex} (hv:e.val 6=0):Gd 6 (aZ (b7 c e))∧(aZ (b7 c e)).Ok∧(aZ (b7 c e)).size≤160000:=by
 obtain ⟨_,U,h3⟩:=sm hv
 have a:=nj _ (uh (c:=c) e h3)
 have b:=Ps (c:=c) h3
 have d:=Ja U
 exact ⟨a,wz (by omega) _ a.2 (by omega),by omega⟩
theorem amm {e:Ex} (he:Nv e) (c:Int):CC G6 (b9 e [.int .i64 c])=some (Zg (z7 (aZ (b7 c e)))):=by
 obtain ⟨_,U,h3⟩:=sm he.2
 refine amj ?_
 unfold Zf
 refine bs (ame (c:=c) (nm:=true) e h3 U fun _=>he.1) ?_
 refine bs (amk (y:=aZ e) (b:=e.cP) (aml (c:=c) he.2).2.1) ?_
 unfold z7
 split<;>rfl
def gm (op:Int):Int:=if op=4 then 1 else if op=6 then 2 else if op=5 then 3 else if op=8 then 4 else if op=7 then 5 else 6
def eI (op least:Int) (t:List UInt8):List UInt8:=if gm op<least then 40::(t++[41]) else t
mutual
def Ex.text:Ex→List UInt8
 | .node o l ks=>
  if o=1 then [48] else if o=2 then [49] else if o=3 then [UInt8.ofNat (97+l).toNat]
  else if o=8 then 33::texts [] 4 true ks else if o=7 then texts [] 5 true ks++[42]
  else if o=4 then texts [124] 2 true ks else if o=6 then texts [38] 3 true ks else texts [] 4 true ks
def Ex.texts (sep:List UInt8) (least:Int) (first:Bool):List Ex→List UInt8
 | []=>[]
 | k::ks=>(if first then [] else sep)++(eI k.op least (text k)++texts sep least false ks)
end
theorem amn (op least:Int) (t:List UInt8):(eI op least t).length≤t.length+2:=by
 unfold eI;split<;>simp
theorem Zh (sep:List UInt8) (hs:sep.length≤1) (least:Int): ∀(ks:List Ex) (f:Bool),(∀k∈ks,k.text.length+3≤4*k.size)→(texts sep least f ks).length≤4*aS ks
 | [],f,_=>by simp[texts]
 | k::ks,f,h=>by
  have h1:=h k (by simp)
  have U:=Zh sep hs least ks false fun k hk=>h k (by simp[hk])
  have h3:=amn k.op least k.text
  simp only[texts,cB,aS]
  cases f<;>simp<;>omega
theorem Zi: ∀e:Ex,e.text.length+3≤4*e.size:=ind fun o l ks ih=>by
 have h:=fun sep hs least=>Zh sep hs least ks true ih
 have h1:=h [] (by simp) 4
 have U:=h [] (by simp) 5
 have h3:=h [124] (by simp) 2
 have h4:=h [38] (by simp) 3
 simp only[text,size]
 repeat' split
 all_goals simp
 all_goals omega
def TX (m:Int) (k:Ex):List UInt8:=eI k.op m k.text
def mb (o:Int) (e:Ex):List Ex:=if e.op=o then e.kids else [e]
theorem Ef (sep:List UInt8) (m:Int) (k:Ex) (ks:List Ex):texts sep m false (k::ks)=sep++(TX m k++texts sep m false ks):=by simp[texts,TX]
theorem Eg (sep:List UInt8) (m:Int) (k:Ex) (ks:List Ex):texts sep m true (k::ks)=TX m k++texts sep m false ks:=by simp[texts,TX]
theorem Zj (e:Ex):TX 1 e=texts [124] 2 true (mb 4 e):=by
 obtain ⟨o,l,ks⟩:=e
 unfold mb TX
 by_cases h:o=4
 ·subst h;simp[Ex.op,Ex.kids,gm,text,eI]
 ·have hl:2≤gm o:=by
   unfold gm
   repeat' split
   all_goals omega
  rw[ah (show¬(Ex.node o l ks).op=4 from h),Eg]
  show eI o 1 _=eI o 2 _++[]
  rw[dy]
  unfold eI
  by_cases U:gm o<1
  ·rw[ag U,ag (by omega)]
  ·rw[ah U,ah (by omega)]
theorem Zk (e:Ex):TX 2 e=texts [38] 3 true (mb 6 e):=by
 obtain ⟨o,l,ks⟩:=e
 unfold mb TX
 by_cases h:o=6
 ·subst h;simp[Ex.op,Ex.kids,gm,text,eI]
 ·have hl:gm o≠2:=by
   unfold gm
   repeat' split
   all_goals omega
  rw[ah (show¬(Ex.node o l ks).op=6 from h),Eg]
  show eI o 2 _=eI o 3 _++[]
  rw[dy]
  unfold eI
  by_cases U:gm o<2
  ·rw[ag U,ag (by omega)]
  ·rw[ah U,ah (by omega)]
theorem Zl (e:Ex):TX 3 e=texts [] 4 true (mb 5 e):=by
 obtain ⟨o,l,ks⟩:=e
 unfold mb TX
 by_cases h:o=5
 ·subst h;simp[Ex.op,Ex.kids,gm,text,eI]
 ·have hl:gm o≠3:=by
   unfold gm
   repeat' split
   all_goals omega
  rw[ah (show¬(Ex.node o l ks).op=5 from h),Eg]
  show eI o 3 _=eI o 4 _++[]
  rw[dy]
  unfold eI
  by_cases U:gm o<3
  ·rw[ag U,ag (by omega)]
  ·rw[ah U,ah (by omega)]
theorem Eh (l:Int) (k:Ex):TX 4 (.node 8 l [k])=33::TX 4 k:=by
 simp[TX,eI,Ex.op,gm,text,texts]
theorem Ei {e:Ex} (h:e.op≠8):TX 4 e=TX 5 e:=by
 unfold TX eI gm
 repeat' split
 all_goals first|rfl|omega
theorem amo (l:Int) (k:Ex):TX 5 (.node 7 l [k])=TX 5 k++[42]:=by
 simp[TX,eI,Ex.op,gm,text,texts]
theorem amp {e:Ex} (h:e.op≠7):TX 5 e=TX 6 e:=by
 unfold TX eI gm
 repeat' split
 all_goals first|rfl|omega
theorem qP {e:Ex} (h:4≤e.op∧e.op≤8):TX 6 e=40::(TX 1 e++[41]):=by
 unfold TX eI gm
 repeat' split
 all_goals first|rfl|omega
theorem PF {e:Ex} (h:e.wf 6=true):(e= .node 1 0 []∨e= .node 2 0 []∨(∃l:Int,0≤l∧l<6∧e= .node 3 l []))∨(4≤e.op∧e.op≤8):=by
 obtain ⟨o,l,ks⟩:=e
 obtain ⟨h1,U⟩:=gg h
 simp only[Ex.op]
 rcases eE h1 with ⟨rfl,h,h3,h4⟩|⟨rfl,⟨rfl,h⟩|⟨rfl,h⟩|⟨rfl,h⟩|⟨rfl,h⟩|⟨rfl,h⟩|⟨rfl,h⟩|⟨rfl,h⟩⟩
 ·obtain rfl:=qY.1 (show ks.length=0 by omega)
  exact .inl (.inr (.inr ⟨l,h3,h4,rfl⟩))
 ·obtain rfl:=qY.1 (show ks.length=0 by omega)
  exact .inl (.inl rfl)
 ·obtain rfl:=qY.1 (show ks.length=0 by omega)
  exact .inl (.inr (.inl rfl))
 all_goals exact .inr (by omega)
def Ej (c:UInt8):Prop:=c=48∨c=49∨c=40∨c=97∨c=98∨c=99∨c=100∨c=101∨c=102
theorem sI {l:Int} (h0:0≤l) (h1:l<6):UInt8.ofNat (97+l).toNat=97∧l=0∨UInt8.ofNat (97+l).toNat=98∧l=1∨UInt8.ofNat (97+l).toNat=99∧l=2∨UInt8.ofNat (97+l).toNat=100∧l=3∨UInt8.ofNat (97+l).toNat=101∧l=4∨UInt8.ofNat (97+l).toNat=102∧l=5:=by
 rcases (show l=0∨l=1∨l=2∨l=3∨l=4∨l=5 by omega) with rfl|rfl|rfl|rfl|rfl|rfl<;>decide
theorem amq {e:Ex} (h:e.wf 6=true): ∃c t,TX 6 e=c::t∧Ej c:=by
 rcases PF h with (rfl|rfl|⟨l,h0,h1,rfl⟩)|h
 ·exact ⟨48,[],rfl,.inl rfl⟩
 ·exact ⟨49,[],rfl,.inr (.inl rfl)⟩
 ·refine ⟨UInt8.ofNat (97+l).toNat,[],by simp[TX,eI,gm,Ex.op,text],?_⟩
  unfold Ej
  rcases sI h0 h1 with h|h|h|h|h|h<;>simp[h.1]
 ·exact ⟨40,_,qP h,.inr (.inr (.inl rfl))⟩
theorem Ek {o l:Int} {ks:List Ex} (h:(Ex.node o l ks).wf 6=true) (ho:o=7∨o=8): ∃k,ks=[k]∧k.wf 6=true∧l=0:=by
 obtain ⟨h1,U⟩:=gg h
 rcases eE h1 with h|⟨h0,h⟩
 ·omega
 ·obtain ⟨k,rfl⟩:=oP.1 (show ks.length=1 by omega)
  exact ⟨k,rfl,U k (by simp),h0⟩
def PH (e:Ex):Nat→Ex
 | 0=>e
 | n+1=> .node 7 0 [PH e n]
theorem PI: ∀e:Ex,e.wf 6=true→∃(b:Ex) (n:Nat),e=PH b n∧b.op≠7∧b.wf 6=true∧TX 5 e=TX 6 b++List.replicate n 42:=ind fun o l ks ih h=>by
 by_cases ho:o=7
 ·subst ho
  obtain ⟨k,rfl,hk,rfl⟩:=Ek h (.inl rfl)
  obtain ⟨b,n,h1,U,h3,h4⟩:=ih k (by simp) hk
  exact ⟨b,n+1,by rw[h1];rfl,U,h3,by rw[amo,h4,List.replicate_succ',cw]⟩
 ·exact ⟨.node o l ks,0,rfl,ho,h,by rw[amp (show (Ex.node o l ks).op≠7 from ho)];simp⟩
theorem PJ {e:Ex} (h:e.wf 6=true): ∃c t,TX 5 e=c::t∧Ej c:=by
 obtain ⟨b,n,_,_,h3,h4⟩:=PI e h
 obtain ⟨c,t,h5,h6⟩:=amq h3
 exact ⟨c,t++List.replicate n 42,by rw[h4,h5];rfl,h6⟩
theorem amr {e:Ex} (h:e.wf 6=true): ∃c t,TX 4 e=c::t∧(c=33∨Ej c):=by
 by_cases ho:e.op=8
 ·obtain ⟨o,l,ks⟩:=e
  obtain rfl:o=8:=ho
  obtain ⟨k,rfl,_⟩:=Ek h (.inr rfl)
  exact ⟨33,TX 4 k,Eh _ _,.inl rfl⟩
 ·obtain ⟨c,t,h1,U⟩:=PJ h
  exact ⟨c,t,by rw[Ei ho,h1],.inr U⟩
def gU (m:Int) (c:UInt8):Prop:=if m=1 then c=41 else if m=2 then c=41∨c=124 else if m=3 then c=41∨c=124∨c=38 else if m=6 then True else c≠42
def fo (m:Int) (r:List UInt8):Prop:= ∀c t,r=c::t→gU m c
theorem Zm {m:Int}:fo m []:=fun c t h=>by cases h
theorem PK {m:Int} {c:UInt8} {t:List UInt8} (h:gU m c):fo m (c::t):=fun c' t' e=>by cases e;exact h
def kj (m:Int) (e:Ex):Prop:= ∀(e':Ex) (r r':List UInt8),e'.wf 6=true→fo m r→fo m r'→TX m e++r=TX m e'++r'→e=e'∧r=r'
theorem El {o:Int} {e:Ex} (h:e.wf 6=true): ∀x∈mb o e,x.wf 6=true:=fun x hx=>by
 unfold mb at hx
 split at hx
 ·obtain ⟨o,l,ks⟩:=e
  exact (gg h).2 x hx
 ·rw[ew.1 hx];exact h
theorem Zn {o:Int} {e:Ex} (ho:4≤o∧o≤6) (h:e.wf 6=true): ∃x xs,mb o e=x::xs:=by
 unfold mb
 split
 ·next lY=>
  obtain ⟨o,l,ks⟩:=e
  obtain ⟨h1,U⟩:=gg h
  simp only[Ex.op] at lY
  match ks,h1 with
  | [],h1=>rcases eE h1 with h|⟨_,h⟩<;>simp at h<;>omega
  | x::xs,_=>exact ⟨x,xs,rfl⟩
 ·exact ⟨e,[],rfl⟩
theorem ams {o:Int} {e e':Ex} (ho:4≤o∧o≤6) (h:e.wf 6=true) (h':e'.wf 6=true) (he:mb o e=mb o e'):e=e':=by
 have hl: ∀{x:Ex},x.wf 6=true→x.op=o→x.letter=0∧2≤x.kids.length:=fun {x} hx Lr=>by
  obtain ⟨o,l,ks⟩:=x
  obtain ⟨h1,U⟩:=gg hx
  simp only[Ex.op,Ex.letter,Ex.kids] at*
  rcases eE h1 with h|⟨_,h⟩<;>omega
 unfold mb at he
 by_cases h1:e.op=o
 ·obtain ⟨a1,a2⟩:=hl h h1
  rw[ag h1] at he
  by_cases U:e'.op=o
  ·obtain ⟨b1,b2⟩:=hl h' U
   rw[ag U] at he
   obtain ⟨o1,l1,k1⟩:=e
   obtain ⟨o2,l2,k2⟩:=e'
   simp only[Ex.op,Ex.letter,Ex.kids] at*
   subst he h1 U a1 b1
   rfl
  ·rw[ah U] at he
   rw[he] at a2
   simp at a2
 ·rw[ah h1] at he
  by_cases U:e'.op=o
  ·obtain ⟨b1,b2⟩:=hl h' U
   rw[ag U] at he
   rw[←he] at b2
   simp at b2
  ·rw[ah U] at he
   exact (fF he).1
section
variable {sep:List UInt8} {m:Int} (hh: ∀y:Ex,y.wf 6=true→∃c t,sep++TX m y=c::t∧gU m c∧¬gU (m-1) c) (hf: ∀c,gU (m-1) c→gU m c)
include hh hf
theorem Jh {ys:List Ex} {r:List UInt8} (hy: ∀y∈ys,y.wf 6=true) (hr:fo (m-1) r):fo m (texts sep m false ys++r):=by
 cases ys with
 | nil=>exact fun c t e=>hf c (hr c t e)
 | cons y ys=>
  obtain ⟨c,t,h1,U,h3⟩:=hh y (hy y (by simp))
  rw[Ef,←cw sep,h1]
  exact PK U
theorem Zo: ∀(xs ys:List Ex) (r r':List UInt8),(∀x∈xs,x.wf 6=true∧kj m x)→(∀y∈ys,y.wf 6=true)→fo (m-1) r→fo (m-1) r'→texts sep m false xs++r=texts sep m false ys++r'→xs=ys∧r=r'
 | [],[],r,r',_,_,_,_,h=>⟨rfl,h⟩
 | [],y::ys,r,r',_,hy,hr,_,h=>by
  obtain ⟨c,t,h1,U,h3⟩:=hh y (hy y (by simp))
  rw[Ef,←cw sep,h1] at h
  exact absurd (hr c _ (by simpa[texts] using h)) h3
 | x::xs,[],r,r',hx,_,_,hr,h=>by
  obtain ⟨c,t,h1,U,h3⟩:=hh x (hx x (by simp)).1
  rw[Ef,←cw sep,h1] at h
  exact absurd (hr c _ (by simpa[texts] using h.symm)) h3
 | x::xs,y::ys,r,r',hx,hy,hr,gF,h=>by
  rw[Ef,Ef,cw,cw,cw,cw] at h
  obtain ⟨rfl,U⟩:=(hx x (by simp)).2 y _ _ (hy y (by simp)) (Jh hh hf (fun z hz=>(hx z (by simp[hz])).1) hr) (Jh hh hf (fun z hz=>hy z (by simp[hz])) gF) (List.append_cancel_left h)
  obtain ⟨rfl,h3⟩:=Zo xs ys r r' (fun z hz=>hx z (by simp[hz])) (fun z hz=>hy z (by simp[hz])) hr gF U
  exact ⟨rfl,h3⟩
theorem PL {o:Int} (ho:4≤o∧o≤6) (ht: ∀e:Ex,TX (m-1) e=texts sep m true (mb o e)) {e:Ex} (he:e.wf 6=true) (ih: ∀x∈mb o e,kj m x):kj (m-1) e:=by
 intro e' r r' hY hr gF h
 rw[ht,ht] at h
 obtain ⟨x,xs,hx⟩:=Zn ho he
 obtain ⟨y,ys,hy⟩:=Zn ho hY
 have wx:=El (o:=o) he
 have wy:=El (o:=o) hY
 rw[hx] at wx ih
 rw[hy] at wy
 rw[hx,hy,Eg,Eg,cw,cw] at h
 obtain ⟨rfl,U⟩:=ih x (by simp) y _ _ (wy y (by simp)) (Jh hh hf (fun z hz=>wx z (by simp[hz])) hr) (Jh hh hf (fun z hz=>wy z (by simp[hz])) gF) h
 obtain ⟨rfl,h3⟩:=Zo hh hf xs ys r r' (fun z hz=>⟨wx z (by simp[hz]),ih z (by simp[hz])⟩) (fun z hz=>wy z (by simp[hz])) hr gF U
 exact ⟨ams ho he hY (by rw[hx,hy]),h3⟩
end
theorem PM {c:UInt8} (h:Ej c):c≠33∧c≠41∧c≠42∧c≠124∧c≠38:=by
 rcases h with rfl|rfl|rfl|rfl|rfl|rfl|rfl|rfl|rfl<;>decide
theorem amt {e:Ex} (he:e.wf 6=true) (ih: ∀x∈mb 4 e,kj 2 x):kj 1 e:=
 PL (sep:=[124]) (m:=2) (fun y _=>⟨124,_,rfl,by simp[gU],by simp[gU]⟩) (fun c h=>by simp[gU] at h⊢;exact .inl h) (o:=4) (by omega) Zj he ih
theorem uz {e:Ex} (he:e.wf 6=true) (ih: ∀x∈mb 6 e,kj 3 x):kj 2 e:=
 PL (sep:=[38]) (m:=3) (fun y _=>⟨38,_,rfl,by simp[gU],by simp[gU]⟩) (fun c h=>by simp[gU] at h⊢;rcases h with h|h<;>simp[h]) (o:=6) (by omega) Zk he ih
theorem amu {e:Ex} (he:e.wf 6=true) (ih: ∀x∈mb 5 e,kj 4 x):kj 3 e:=
 PL (sep:=[]) (m:=4) (fun y hy=>by
  obtain ⟨c,t,h1,U⟩:=amr hy
  refine ⟨c,t,h1,?_⟩
  rcases U with rfl|U
  ·simp[gU]
  ·have:=PM U
   simp[gU,this]) (fun c h=>by simp[gU] at h⊢;rcases h with rfl|rfl|rfl<;>decide) (o:=5) (by omega) Zl he ih
theorem amv {e:Ex} (he:e.wf 6=true) (ih8: ∀k,e= .node 8 0 [k]→kj 4 k) (ih:e.op≠8→kj 5 e):kj 4 e:=by
 intro e' r r' hY hr gF h
 by_cases h1:e.op=8
 ·obtain ⟨o,l,ks⟩:=e
  obtain rfl:o=8:=h1
  obtain ⟨k,rfl,hk,rfl⟩:=Ek he (.inr rfl)
  rw[Eh] at h
  by_cases U:e'.op=8
  ·obtain ⟨o',l',cy⟩:=e'
   obtain rfl:o'=8:=U
   obtain ⟨k',rfl,dt,rfl⟩:=Ek hY (.inr rfl)
   rw[Eh] at h
   obtain ⟨rfl,h3⟩:=ih8 k rfl k' r r' dt hr gF (fF h).2
   exact ⟨rfl,h3⟩
  ·rw[Ei U] at h
   obtain ⟨c,t,h3,h4⟩:=PJ hY
   rw[h3] at h
   exact absurd (fF h).1.symm (PM h4).1
 ·rw[Ei h1] at h
  by_cases U:e'.op=8
  ·obtain ⟨o',l',cy⟩:=e'
   obtain rfl:o'=8:=U
   obtain ⟨k',rfl,dt,rfl⟩:=Ek hY (.inr rfl)
   rw[Eh] at h
   obtain ⟨c,t,h3,h4⟩:=PJ he
   rw[h3] at h
   exact absurd (fF h).1 (PM h4).1
  ·rw[Ei U] at h
   exact ih h1 e' r r' hY (by simpa[fo,gU] using hr) (by simpa[fo,gU] using gF) h
theorem Zp {r r':List UInt8} (hr:fo 5 r) (gF:fo 5 r'): ∀{n n':Nat},List.replicate n 42++r=List.replicate n' 42++r'→n=n'∧r=r'
 | 0,0,h=>⟨rfl,h⟩
 | 0,n+1,h=>by
  have:=hr 42 (List.replicate n 42++r') (by simpa[List.replicate_succ] using h)
  simp[gU] at this
 | n+1,0,h=>by
  have:=gF 42 (List.replicate n 42++r) (by simpa[List.replicate_succ] using h.symm)
  simp[gU] at this
 | n+1,n'+1,h=>by
  rw[List.replicate_succ,List.replicate_succ] at h
  obtain ⟨rfl,U⟩:=Zp hr gF (fF h).2
  exact ⟨rfl,U⟩
theorem Zq (r:List UInt8):fo 6 r:=fun c t _=>by simp[gU]
theorem amw {b:Ex} {n:Nat} {e:Ex} (h1:e=PH b n) (U:TX 5 e=TX 6 b++List.replicate n 42) (ih:kj 6 b):kj 5 e:=by
 intro e' r r' hY hr gF h
 obtain ⟨b',n',e1,e2,e3,e4⟩:=PI e' hY
 rw[U,e4,cw,cw] at h
 obtain ⟨rfl,h3⟩:=ih b' _ _ e3 (Zq _) (Zq _) h
 obtain ⟨rfl,h4⟩:=Zp hr gF h3
 exact ⟨by rw[h1,e1],h4⟩
theorem amx {e:Ex} (he:e.wf 6=true) (ih:4≤e.op∧e.op≤8→kj 1 e):kj 6 e:=by
 intro e' r r' hY hr gF h
 have hl: ∀l:Int,TX 6 (.node 3 l [])=[UInt8.ofNat (97+l).toNat]:=fun l=>by simp[TX,eI,gm,Ex.op,text]
 have t1:TX 6 (.node 1 0 [])=[48]:=rfl
 have t2:TX 6 (.node 2 0 [])=[49]:=rfl
 rcases PF he with (rfl|rfl|⟨l,h0,h1,rfl⟩)|ho<;>rcases PF hY with (rfl|rfl|⟨l',xV,fK,rfl⟩)|jD
 ·exact ⟨rfl,List.append_cancel_left h⟩
 ·rw[t1,t2] at h;cases (fF h).1
 ·rw[t1,hl] at h
  have:=(fF h).1
  rcases sI xV fK with h|h|h|h|h|h<;>(rw[h.1] at this;cases this)
 ·rw[t1,qP jD] at h;cases (fF h).1
 ·rw[t1,t2] at h;cases (fF h).1
 ·exact ⟨rfl,List.append_cancel_left h⟩
 ·rw[t2,hl] at h
  have:=(fF h).1
  rcases sI xV fK with h|h|h|h|h|h<;>(rw[h.1] at this;cases this)
 ·rw[t2,qP jD] at h;cases (fF h).1
 ·rw[t1,hl] at h
  have:=(fF h).1
  rcases sI h0 h1 with h|h|h|h|h|h<;>(rw[h.1] at this;cases this)
 ·rw[t2,hl] at h
  have:=(fF h).1
  rcases sI h0 h1 with h|h|h|h|h|h<;>(rw[h.1] at this;cases this)
 ·rw[hl,hl] at h
  obtain ⟨U,h3⟩:=fF h
  refine ⟨?_,h3⟩
  have:l=l':=by
   rcases sI h0 h1 with ⟨a,rfl⟩|⟨a,rfl⟩|⟨a,rfl⟩|⟨a,rfl⟩|⟨a,rfl⟩|⟨a,rfl⟩<;>rcases sI xV fK with ⟨b,rfl⟩|⟨b,rfl⟩|⟨b,rfl⟩|⟨b,rfl⟩|⟨b,rfl⟩|⟨b,rfl⟩<;>first|rfl|(rw[a,b] at U;cases U)
  rw[this]
 ·rw[hl,qP jD] at h
  have:=(fF h).1
  rcases sI h0 h1 with h|h|h|h|h|h<;>(rw[h.1] at this;cases this)
 ·rw[t1,qP ho] at h;cases (fF h).1
 ·rw[t2,qP ho] at h;cases (fF h).1
 ·rw[hl,qP ho] at h
  have:=(fF h).1
  rcases sI xV fK with h|h|h|h|h|h<;>(rw[h.1] at this;cases this)
 ·rw[qP ho,qP jD] at h
  have U:(TX 1 e++[41])++r=(TX 1 e'++[41])++r':=(fF h).2
  rw[cw,cw] at U
  obtain ⟨h3,h4⟩:=ih ho e' _ _ hY (PK (by simp[gU])) (PK (by simp[gU])) U
  exact ⟨h3,(fF h4).2⟩
theorem Ji {sep:List UInt8} {m:Int}: ∀{xs:List Ex} {f:Bool} {x:Ex},x∈xs→(TX m x).length≤(texts sep m f xs).length
 | y::ys,f,x,h=>by
  simp only[texts,cB]
  rcases dx.1 h with rfl|h
  ·show (eI x.op m x.text).length≤_;omega
  ·have:=Ji (sep:=sep) (m:=m) (f:=false) h
   omega
theorem Zr: ∀(n:Nat) (m:Int) (e:Ex),1≤m→m≤6→e.wf 6=true→8*(TX m e).length+(7-m).toNat<n→kj m e
 | 0,m,e,_,_,_,h=>by omega
 | n+1,m,e,h1,h6,he,h=>by
  have ih:=Zr n
  rcases (show m=1∨m=2∨m=3∨m=4∨m=5∨m=6 by omega) with rfl|rfl|rfl|rfl|rfl|rfl
  ·refine amt he fun x hx=>ih 2 x (by omega) (by omega) (El he x hx) ?_
   have:=Ji (sep:=[124]) (m:=2) (f:=true) hx
   rw[Zj] at h
   omega
  ·refine uz he fun x hx=>ih 3 x (by omega) (by omega) (El he x hx) ?_
   have:=Ji (sep:=[38]) (m:=3) (f:=true) hx
   rw[Zk] at h
   omega
  ·refine amu he fun x hx=>ih 4 x (by omega) (by omega) (El he x hx) ?_
   have:=Ji (sep:=[]) (m:=4) (f:=true) hx
   rw[Zl] at h
   omega
  ·refine amv he (fun k hk=> ?_) fun ho=> ?_
   ·subst hk
    rw[Eh,List.length_cons] at h
    exact ih 4 k (by omega) (by omega) ((gg he).2 k (by simp)) (by omega)
   ·rw[Ei ho] at h
    exact ih 5 e (by omega) (by omega) he (by omega)
  ·obtain ⟨b,k,e1,e2,e3,e4⟩:=PI e he
   refine amw e1 e4 (ih 6 b (by omega) (by omega) e3 ?_)
   rw[e4,cB] at h
   omega
  ·refine amx he fun ho=>ih 1 e (by omega) (by omega) he ?_
   rw[qP ho,List.length_cons,cB] at h
   simp only[List.length_cons,List.length_nil] at h
   omega
theorem Zs (e:Ex):TX 1 e=e.text:=by
 unfold TX eI
 rw[ah]
 unfold gm
 repeat' split
 all_goals omega
theorem Zt {a b:Ex} (ha:a.wf 6=true) (hb:b.wf 6=true) (h:a.text=b.text):a=b:=
 (Zr _ 1 a (by omega) (by omega) ha (Ag _) b [] [] hb Zm Zm (by rw[Zs,Zs,h])).1
end Go.AM
set_option maxRecDepth 100000
namespace Go.AM
open Go.Proofs
noncomputable def Zu (C:ae) (aj ar:Int) (ai:List V):Option (List V):=
 (C yC [.int .i64 aj,.int .i64 ar,.list aa ai]).bind fun r1=>
 bif !((V.nth r1 0).toBool) then
  some [.str []]
 else
  (C tt [.int .i64 aj,.int .i64 ar,.list aa ai,.list dc ([]:List V)]).bind fun r2=>
  (C Hb [.list dc ((V.nth r2 0).toList)]).bind fun r3=>
  some [.str ((V.nth r3 0).toStr)]
theorem amy {aj ar:Int} {ai:List V} {r:Option (List V)} (h:Zu CC aj ar ai=r):CC yF [.int .i64 aj,.int .i64 ar,.list aa ai]=r:=
 aY (key:=38) (L:=b6) (bs:=[]) (by kernel_rfl) ax (aX (by kernel_rfl) h)
noncomputable abbrev iS:Code:=cg Tryz.prog (au.aP 50)
noncomputable def Jj (C:ae) (t5:Int) (t28:Bool) (fg eD:Int) (dS av:List V) {β:Type} (kr:(List V)→Option β):Option β:=
 bif t28 then
  (C tv [.list aa dS,.str [38],.int .i64 3,.list dc av]).bind fun r5=>
  kr ((V.nth r5 0).toList)
 else
  bif (t5:Int)==5 then
  (C tv [.list aa dS,.str [],.int .i64 4,.list dc av]).bind fun r6=>
  kr ((V.nth r6 0).toList)
  else
  bif (t5:Int)==8 then
   (C qo [.int .u8 33,.list dc av]).bind fun r7=>
   (C tv [.list aa dS,.str [],.int .i64 4,.list dc ((V.nth r7 0).toList)]).bind fun r8=>
   kr ((V.nth r8 0).toList)
  else
   bif (t5:Int)==7 then
   (C tv [.list aa dS,.str [],.int .i64 5,.list dc av]).bind fun r9=>
   (C qo [.int .u8 42,.list dc ((V.nth r9 0).toList)]).bind fun eb=>
   kr ((V.nth eb 0).toList)
   else
   kr av
noncomputable def Jk (C:ae) (t5:Int) (t22:Bool) (fg eD:Int) (dS av:List V) {β:Type} (kr:(List V)→Option β):Option β:=
 bif t22 then
  (C tv [.list aa dS,.str [124],.int .i64 2,.list dc av]).bind fun r4=>
  kr ((V.nth r4 0).toList)
 else
  Jj C t5 ((t5:Int)==6) fg eD dS av (fun (ng:List V)=>
   kr ng)
noncomputable def Jl (C:ae) (t5:Int) (t14:Bool) (fg eD:Int) (dS av:List V) {β:Type} (kr:(List V)→Option β):Option β:=
 bif t14 then
  (C qo [.int .u8 (IntKind.wrap .u8 (97+(IntKind.wrap .u8 eD))),.list dc av]).bind fun r3=>
  kr ((V.nth r3 0).toList)
 else
  Jk C t5 ((t5:Int)==4) fg eD dS av (fun (we:List V)=>
   kr we)
noncomputable def Jm (C:ae) (t5:Int) (t10:Bool) (fg eD:Int) (dS av:List V) {β:Type} (kr:(List V)→Option β):Option β:=
 bif t10 then
  (C qo [.int .u8 49,.list dc av]).bind fun r2=>
  kr ((V.nth r2 0).toList)
 else
  Jl C t5 ((t5:Int)==3) fg eD dS av (fun (v5:List V)=>
   kr v5)
noncomputable def Jn (C:ae) (t5:Int) (t6:Bool) (fg eD:Int) (dS av:List V) {β:Type} (kr:(List V)→Option β):Option β:=
 bif t6 then
  (C qo [.int .u8 48,.list dc av]).bind fun r1=>
  kr ((V.nth r1 0).toList)
 else
  Jm C t5 ((t5:Int)==2) fg eD dS av (fun (CS:List V)=>
   kr CS)
noncomputable def Zv (C:ae):bZ:=fun β n ds k=>
 bif Nat.beq n 463 then iM MF [[0]] (@Jj C) ds k else
 bif Nat.beq n 367 then iM MG [[0]] (@Jk C) ds k else
 bif Nat.beq n 239 then iM MH [[0]] (@Jl C) ds k else
 bif Nat.beq n 175 then iM MI [[0]] (@Jm C) ds k else
 bif Nat.beq n 111 then iM MJ [[0]] (@Jn C) ds k else
 none
abbrev Em (C:ae) (b:bX):Prop:=bY Tryz.prog au C (Zv C) 50 (cj Tryz.prog (au.aP 50)) (au.sin 50).ba.length b
theorem amz (C:ae):Em C (.cond 28 (aw [1,1,0,1,1,1,1,1,1,1,1,1,0] iS) (aw [1,1,0,1,1,1,1,1,1,1,1,1,1] iS)):=
 jq MF [[0]] (@Jj C) (by kernel_rfl) (a8 (bs:=[]) (by kernel_rfl) ax) (a8 (bs:=[]) (by kernel_rfl) ax) (fun ds=>by kernel_rfl) (fun i β k=>by kernel_rfl) (fun β ds k=>by kernel_rfl)
theorem amA (C:ae):Em C (.cond 22 (aw [1,1,0,1,1,1,1,1,1,1,0] iS) (aw [1,1,0,1,1,1,1,1,1,1,1] iS)):=
 jq MG [[0]] (@Jk C) (by kernel_rfl) (a8 (bs:=[]) (by kernel_rfl) ax) (a8 (bs:=[.cond 28 (aw [1,1,0,1,1,1,1,1,1,1,1,1,0] iS) (aw [1,1,0,1,1,1,1,1,1,1,1,1,1] iS)]) (by kernel_rfl) (bq (amz C) ax)) (fun ds=>by kernel_rfl) (fun i β k=>by kernel_rfl) (fun β ds k=>by kernel_rfl)
theorem amB (C:ae):Em C (.cond 14 (aw [1,1,0,1,1,1,1,1,0] iS) (aw [1,1,0,1,1,1,1,1,1] iS)):=
 jq MH [[0]] (@Jl C) (by kernel_rfl) (a8 (bs:=[]) (by kernel_rfl) ax) (a8 (bs:=[.cond 22 (aw [1,1,0,1,1,1,1,1,1,1,0] iS) (aw [1,1,0,1,1,1,1,1,1,1,1] iS)]) (by kernel_rfl) (bq (amA C) ax)) (fun ds=>by kernel_rfl) (fun i β k=>by kernel_rfl) (fun β ds k=>by kernel_rfl)
theorem amC (C:ae):Em C (.cond 10 (aw [1,1,0,1,1,1,0] iS) (aw [1,1,0,1,1,1,1] iS)):=
 jq MI [[0]] (@Jm C) (by kernel_rfl) (a8 (bs:=[]) (by kernel_rfl) ax) (a8 (bs:=[.cond 14 (aw [1,1,0,1,1,1,1,1,0] iS) (aw [1,1,0,1,1,1,1,1,1] iS)]) (by kernel_rfl) (bq (amB C) ax)) (fun ds=>by kernel_rfl) (fun i β k=>by kernel_rfl) (fun β ds k=>by kernel_rfl)
theorem amD (C:ae):Em C (.cond 6 (aw [1,1,0,1,0] iS) (aw [1,1,0,1,1] iS)):=
 jq MJ [[0]] (@Jn C) (by kernel_rfl) (a8 (bs:=[]) (by kernel_rfl) ax) (a8 (bs:=[.cond 10 (aw [1,1,0,1,1,1,0] iS) (aw [1,1,0,1,1,1,1] iS)]) (by kernel_rfl) (bq (amC C) ax)) (fun ds=>by kernel_rfl) (fun i β k=>by kernel_rfl) (fun β ds k=>by kernel_rfl)
noncomputable def Zw (C:ae) (aj ar:Int) (ai bU:List V):Option (List V):=
 Jn C aj ((aj:Int)==1) aj ar ai bU (fun (CT:List V)=>
  some [.list dc CT])
theorem amE {aj ar:Int} {ai bU:List V} {r:Option (List V)} (h:Zw CC aj ar ai bU=r):CC tt [.int .i64 aj,.int .i64 ar,.list aa ai,.list dc bU]=r:=
 aY (key:=50) (L:=Zv CC) (bs:=[.cond 6 (aw [1,1,0,1,0] iS) (aw [1,1,0,1,1] iS)]) (by kernel_rfl) (bq (amD CC) ax) (aX (by kernel_rfl) h)
noncomputable abbrev z8:Code:=cg Tryz.prog (au.aP 70)
noncomputable def En (C:ae) (separator:List UInt8) (least:Int) (t10:List V) (t11 t12:Int) (t18:Bool) (Ol Om:Int) (On av:List V) {β:Type} (kr:(List V)→Option β):Option β:=
 bif t18 then
  (C Hf [.str separator,.list dc av]).bind fun r2=>
  kr ((V.nth (r2.drop 1) 0).toList)
 else
  kr av
noncomputable def Eo (C:ae) (separator:List UInt8) (least:Int) (t10:List V) (t11 t12:Int) (cv:List V) {β:Type} (kn:(Int × (List V))→Option β) (kr:(Int × Bool × (List V))→Option β):Option β:=
 bif decide ((t12:Int)<t11) then
  (idx t10 t12).bind fun x1=>
  En C separator least t10 t11 t12 (decide ((t12:Int)>0)) ((x1.cell 0).toInt) ((x1.cell 1).toInt) ((x1.cell 2).toList) cv (fun (I9:List V)=>
   (C Hg [.int .i64 ((x1.cell 0).toInt)]).bind fun r4=>
   bif decide ((((V.nth r4 0).toInt):Int)≥least) then
   (C tt [.int .i64 ((x1.cell 0).toInt),.int .i64 ((x1.cell 1).toInt),.list aa ((x1.cell 2).toList),.list dc I9]).bind fun r5=>
   kn (IntKind.wrap .i64 (t12+1),(V.nth r5 0).toList)
   else
   (C qo [.int .u8 40,.list dc I9]).bind fun r6=>
   (C tt [.int .i64 ((x1.cell 0).toInt),.int .i64 ((x1.cell 1).toInt),.list aa ((x1.cell 2).toList),.list dc ((V.nth r6 0).toList)]).bind fun r7=>
   (C qo [.int .u8 41,.list dc ((V.nth r7 0).toList)]).bind fun r8=>
   kn (IntKind.wrap .i64 (t12+1),(V.nth r8 0).toList))
 else
  kr (t12,decide ((t12:Int)<t11),cv)
noncomputable def Ep (C:ae) (separator:List UInt8) (least:Int) (t10:List V) (t11:Int):(Int × (List V))→Option ((Int × (List V)) ⊕ (Int × Bool × (List V))):=un fun t12 cv=>Eo C separator least t10 t11 t12 cv (fun y=>some (.inl y)) (fun r=>some (.inr r))
noncomputable def Zx (C:ae):bZ:=fun β n ds k=>
 bif Nat.beq n 303 then iM MQ [[1,2,3,4,5,7,8,9,0]] (@En C) ds k else
 bif Nat.beq n 17 then bK MR [false,false,false,false,true,true] [[1,2,3,4,0,0,0]] (@Eo C) ds k else
 none
abbrev Zy (C:ae) (b:bX):Prop:=bY Tryz.prog au C (Zx C) 70 (cj Tryz.prog (au.aP 70)) (au.sin 70).ba.length b
theorem amF (C:ae):Zy C (.cond 18 (aw [1,0,0,1,1,0,0,1,0,1,0] z8) (aw [1,0,0,1,1,0,0,1,0,1,1] z8)):=
 jq MQ [[1,2,3,4,5,7,8,9,0]] (@En C) (by kernel_rfl) (a8 (bs:=[]) (by kernel_rfl) ax) (a8 (bs:=[]) (by kernel_rfl) ax) (fun ds=>by kernel_rfl) (fun i β k=>by kernel_rfl) (fun β ds k=>by kernel_rfl)
theorem amG (C:ae):Zy C (.loop (aw [1,0,0] z8)):=
 bN MR [false,false,false,false,true,true] [[1,2,3,4,0,0,0]] (@Eo C) (by kernel_rfl) (a8 (bs:=[.cond 18 (aw [1,0,0,1,1,0,0,1,0,1,0] z8) (aw [1,0,0,1,1,0,0,1,0,1,1] z8)]) (by kernel_rfl) (bq (amF C) ax)) (fun ds=>by kernel_rfl) (fun i x=>by kernel_rfl) (fun i x β k=>by kernel_rfl) (fun β ds k=>by kernel_rfl)
noncomputable def Zz (C:ae) (kids:List V) (separator:List UInt8) (least:Int) (bU:List V):Option (List V):=
 (Loop (Ep C separator least kids (kids.length:Int)) (0,bU)).bind (un fun (oj:Int)=>un fun (vP:Bool) (ng:List V)=>
  some [.list dc ng])
theorem amH {kids:List V} {separator:List UInt8} {least:Int} {bU:List V} {r:Option (List V)} (h:Zz CC kids separator least bU=r):CC tv [.list aa kids,.str separator,.int .i64 least,.list dc bU]=r:=
 aY (key:=70) (L:=Zx CC) (bs:=[.loop (aw [1,0,0] z8)]) (by kernel_rfl) (bq (amG CC) ax) (aX (by kernel_rfl) h)
noncomputable def ZA (C:ae) (op:Int):Option (List V):=
 bif (op:Int)==4 then
  some [.int .i64 1]
 else
  bif (op:Int)==6 then
  some [.int .i64 2]
  else
  bif (op:Int)==5 then
   some [.int .i64 3]
  else
   bif (op:Int)==8 then
   some [.int .i64 4]
   else
   bif (op:Int)==7 then
    some [.int .i64 5]
   else
    some [.int .i64 6]
theorem amI {op:Int} {r:Option (List V)} (h:ZA CC op=r):CC Hg [.int .i64 op]=r:=
 aY (key:=83) (L:=b6) (bs:=[]) (by kernel_rfl) ax (aX (by kernel_rfl) h)
noncomputable def ZB (C:ae) (c:Int) (bU:List V):Option (List V):=
 bif Nat.ble ((bU.length+([.int .u8 c]:List V).length)*1) cI then
  some [.list dc (bU++([.int .u8 c]:List V))]
 else none
theorem amJ {c:Int} {bU:List V} {r:Option (List V)} (h:ZB CC c bU=r):CC qo [.int .u8 c,.list dc bU]=r:=
 aY (key:=69) (L:=b6) (bs:=[]) (by kernel_rfl) ax (aX (by kernel_rfl) h)
noncomputable def ZC (C:ae) (s:List UInt8) (bU:List V):Option (List V):=
 bif Nat.ble ((bU.length+(s.map dG).length)*1) cI then
  some [.int .i64 (s.length:Int),.list dc (bU++(s.map dG))]
 else none
theorem amK {s:List UInt8} {bU:List V} {r:Option (List V)} (h:ZC CC s bU=r):CC Hf [.str s,.list dc bU]=r:=
 aY (key:=82) (L:=b6) (bs:=[]) (by kernel_rfl) ax (aX (by kernel_rfl) h)
noncomputable def ZD (C:ae) (bU:List V):Option (List V):=
 bif Nat.blt 0 bU.length then
  bif decide (0<(bU.length:Int))&&(decide ((bU.length:Int)≤(bU.length:Int))&&(Nat.ble (((bU.length:Int):Int).toNat) sV&&(bU.take (((bU.length:Int):Int).toNat)).all xt)) then
  some [.str (lk (bU.take (((bU.length:Int):Int).toNat)))]
  else none
 else none
theorem amL {bU:List V} {r:Option (List V)} (h:ZD CC bU=r):CC Hb [.list dc bU]=r:=
 aY (key:=51) (L:=b6) (bs:=[]) (by kernel_rfl) ax (aX (by kernel_rfl) h)
end Go.AM
set_option maxRecDepth 100000
namespace Go.AM
open Go.Proofs Ex
theorem w4 (c:UInt8) (b:List UInt8) (h:b.length<2^40):CC qo [.int .u8 c.toNat,.list dc (b.map dG)]=some [.list dc ((b++[c]).map dG)]:=by
 refine amJ ?_
 unfold ZB
 simp only[ym]
 rw[ag (by simp[cI];omega)]
 simp[dG]
theorem amM (s b:List UInt8) (h:b.length+s.length<2^40):CC Hf [.str s,.list dc (b.map dG)]=some [.int .i64 s.length,.list dc ((b++s).map dG)]:=by
 refine amK ?_
 unfold ZC
 simp only[ym]
 rw[ag (by simp[cI];omega)]
 simp
theorem amN (b:List UInt8):lk (b.map dG)=b:=by
 unfold lk
 rw[List.map_map]
 have:((fun x:V=>UInt8.ofNat x.toInt.toNat) ∘ dG)=id:=by
  funext c
  simp[dG]
 rw[this,List.map_id]
theorem amO (b:List UInt8) (h0:b≠[]) (h:b.length<2^40):CC Hb [.list dc (b.map dG)]=some [.str b]:=by
 refine amL ?_
 unfold ZD
 have hp:0<b.length:=by cases b<;>simp at h0⊢
 have h1:Nat.blt 0 (b.map dG).length=true:=by rw[jP];simpa using hp
 have U:(((b.map dG).length:Int)).toNat=(b.map dG).length:=by simp
 have h3:Nat.ble (b.map dG).length sV=true:=Nat.ble_eq_true_of_le (by simp[sV];omega)
 have h4:(b.map dG).all xt=true:=by
  rw[fm]
  intro x hx
  obtain ⟨c,_,rfl⟩:=ey.1 hx
  have:=c.toNat_lt
  simp[xt,dG]
  omega
 rw[h1,U,qV,h3,h4,amN]
 simp[hp]
theorem amP (op:Int):CC Hg [.int .i64 op]=some [.int .i64 (gm op)]:=by
 refine amI ?_
 unfold ZA gm
 simp only[dD]
 repeat' split
 all_goals rfl
theorem amQ {ks:List Ex} (hlen:ks.length≤maxLen) (ih: ∀k∈ks,∀b:List UInt8,b.length+k.text.length<2^40→CC tt (b9 k [.list dc (b.map dG)])=some [.list dc ((b++k.text).map dG)]) (sep:List UInt8) (least:Int):
  ∀(aJ pre:List Ex) (b:List UInt8),ks=pre++aJ→b.length+(texts sep least pre.isEmpty aJ).length<2^40→
  ∃i t,Loop (Ep CC sep least (ks.map enc) ((ks.map enc).length:Int)) (((pre.length:Nat):Int),b.map dG)=some (i,t,(b++texts sep least pre.isEmpty aJ).map dG):=by
 intro aJ
 induction aJ with
 | nil=>
  intro pre b br hb
  subst br
  refine ⟨((pre.length:Nat):Int),false,bj ?_⟩
  simp only[Ep,Eo,un,dy,bt,az,texts]
  rw[ah (by omega)]
  simp
 | cons k aJ gN=>
  intro pre b br hb
  have cb:pre.length<ks.length:=by rw[br];simp
  have hm:k∈ks:=by rw[br];simp
  have:=po
  have cC:idx (ks.map enc) (pre.length:Int)=some k.enc:=by rw[br];exact jJ _ _ _
  generalize ib:(if pre.isEmpty then [] else sep)=sp
  have ht:texts sep least pre.isEmpty (k::aJ)=sp++(eI k.op least k.text++texts sep least false aJ):=by simp only[texts,ib]
  rw[ht] at hb⊢
  simp only[cB] at hb
  have e7:Ep CC sep least (ks.map enc) ((ks.map enc).length:Int) (((pre.length:Nat):Int),b.map dG)=some (.inl ((((pre++[k]).length:Nat):Int),(b++sp++eI k.op least k.text).map dG)):=by
   have h1: ∀{β:Type} (kr:List V→Option β) (o l:Int) (es:List V),En CC sep least (ks.map enc) ((ks.length:Nat):Int) ((pre.length:Nat):Int) (decide (((pre.length:Nat):Int)>0)) o l es (b.map dG) kr=kr ((b++sp).map dG):=by
    intro β kr o l es
    unfold En
    cases pre with
    | nil=>
     simp at ib
     subst ib
     simp
    | cons a pre=>
     simp at ib
     subst ib
     rw[amM _ _ (by omega)]
     have:(0:Int)<((a::pre).length:Int):=by simp only[List.length_cons];omega
     simp[this]
   simp only[Ep,Eo,un,bt,az]
   rw[ag (by omega),cC]
   simp only[Option.bind_some,bz,bA,bB]
   rw[h1,amP]
   simp only[Option.bind_some,V.aC,V.toInt_int,az]
   unfold eI at hb⊢
   by_cases hl:gm k.op<least
   ·rw[ah (by omega),ag hl]
    rw[ag hl] at hb
    simp only[List.length_cons,cB,List.length_nil] at hb
    rw[show (V.int .u8 40)= .int .u8 (((40:UInt8).toNat:Nat):Int) by rfl,show (V.int .u8 41)= .int .u8 (((41:UInt8).toNat:Nat):Int) by rfl]
    rw[w4 _ _ (by simp;omega)]
    simp only[Option.bind_some,V.aC,V.bS]
    rw[ih k hm _ (by simp;omega)]
    simp only[Option.bind_some,V.aC,V.bS]
    rw[w4 _ _ (by simp;omega),wrap64 (by omega) (by omega)]
    simp
   ·rw[ag (by omega),ah hl]
    rw[ah hl] at hb
    rw[ih k hm _ (by simp;omega)]
    simp only[Option.bind_some,V.aC,V.bS]
    rw[wrap64 (by omega) (by omega)]
    simp
  rw[bW e7]
  have hE:(pre++[k]).isEmpty=false:=by cases pre<;>rfl
  have h3:=gN (pre++[k]) (b++sp++eI k.op least k.text) (by rw[br];simp)
  rw[hE] at h3
  obtain ⟨i,t,U⟩:=h3 (by simp only[cB];omega)
  refine ⟨i,t,U.trans ?_⟩
  simp
theorem amR {ks:List Ex} (hlen:ks.length≤maxLen) (ih: ∀k∈ks,∀b:List UInt8,b.length+k.text.length<2^40→CC tt (b9 k [.list dc (b.map dG)])=some [.list dc ((b++k.text).map dG)]) (sep:List UInt8) (least:Int) (b:List UInt8)
  (hb:b.length+(texts sep least true ks).length<2^40):CC tv [.list aa (ks.map enc),.str sep,.int .i64 least,.list dc (b.map dG)]=some [.list dc ((b++texts sep least true ks).map dG)]:=by
 refine amH ?_
 unfold Zz
 obtain ⟨i,t,h⟩:=amQ hlen ih sep least ks [] b rfl hb
 simp only[List.length_nil,Int.ofNat_zero,Int.natCast_zero,List.isEmpty_nil] at h
 erw [h]
 rfl
theorem amS {l n:Int} (h:dz 3 l n 6=true):0≤l∧l<6:=by
 simp[dz] at h;omega
theorem ZE {o l n letters:Int} (ho:o<1∨8<o):dz o l n letters=false:=by
 have n1:o≠1:=by omega
 have n2:o≠2:=by omega
 have n3:o≠3:=by omega
 have n7:o≠7:=by omega
 have n8:o≠8:=by omega
 have n9: ¬(4≤o∧o≤6∧2≤n):=by omega
 simp[dz,n1,n2,n3,n7,n8,n9]
theorem amT: ∀e:Ex,e.Ok→e.wf 6=true→∀b:List UInt8,b.length+e.text.length<2^40→CC tt (b9 e [.list dc (b.map dG)])=some [.list dc ((b++e.text).map dG)]:=
 ind fun o l ks ih ay rY b hb=>by
  obtain ⟨w1,w2⟩:=gg rY
  have hw:=fun sep least b=>amR ay.len (fun k hk=>ih k hk (ay.og k hk) (w2 k hk)) sep least b
  refine amE ?_
  unfold Zw Jn Jm Jl Jk Jj
  simp only[Ex.op,Ex.letter,Ex.kids]
  rcases Cj o with rfl|rfl|rfl|rfl|rfl|rfl|rfl|rfl|ho
  case inr.inr.inr.inr.inr.inr.inr.inr=>rw[ZE ho] at w1;cases w1
  ·simp[text] at hb⊢
   rw[show (V.int .u8 48)= .int .u8 (((48:UInt8).toNat:Nat):Int) by rfl,w4 _ _ (by omega)]
   simp
  ·simp[text] at hb⊢
   rw[show (V.int .u8 49)= .int .u8 (((49:UInt8).toNat:Nat):Int) by rfl,w4 _ _ (by omega)]
   simp
  ·have hl:=amS w1
   simp[text] at hb⊢
   rw[yl (x:=l) (by omega) (by omega),yl (by omega) (by omega)]
   have:(V.int .u8 (97+l))= .int .u8 (((UInt8.ofNat (97+l).toNat).toNat:Nat):Int):=by
    have:(97+l).toNat<256:=by omega
    simp only[UInt8.toNat_ofNat']
    congr 1
    omega
   rw[this,w4 _ _ (by omega)]
   simp
  ·simp[text] at hb⊢
   rw[hw _ _ _ (by omega)]
   simp
  ·simp[text] at hb⊢
   rw[hw _ _ _ (by omega)]
   simp
  ·simp[text] at hb⊢
   rw[hw _ _ _ (by omega)]
   simp
  ·simp[text] at hb⊢
   rw[hw _ _ _ (by omega)]
   simp only[Option.bind_some,V.aC,V.bS]
   rw[show (V.int .u8 42)= .int .u8 (((42:UInt8).toNat:Nat):Int) by rfl,w4 _ _ (by simp;omega)]
   simp
  ·simp[text] at hb⊢
   rw[show (V.int .u8 33)= .int .u8 (((33:UInt8).toNat:Nat):Int) by rfl,w4 _ _ (by omega)]
   simp only[Option.bind_some,V.aC,V.bS]
   rw[hw _ _ _ (by simp;omega)]
   simp
theorem amU: ∀e:Ex,e.wf 6=true→e.text≠[]:=ind fun o l ks ih h=>by
 obtain ⟨w1,w2⟩:=gg h
 rcases Cj o with rfl|rfl|rfl|rfl|rfl|rfl|rfl|rfl|ho
 case inr.inr.inr.inr.inr.inr.inr.inr=>rw[ZE ho] at w1;cases w1
 case inr.inr.inr.inl=>
  intro hh
  match ks,w1,hh with
  | [],w1,_=>simp[dz] at w1
  | [a],w1,_=>simp[dz] at w1
  | a::b::l,_,hh=>simp[text,texts] at hh
 case inr.inr.inr.inr.inr.inl=>
  intro hh
  match ks,w1,hh with
  | [],w1,_=>simp[dz] at w1
  | [a],w1,_=>simp[dz] at w1
  | a::b::l,_,hh=>simp[text,texts] at hh
 case inr.inr.inr.inr.inl=>
  intro hh
  match ks,w1,w2,hh,ih with
  | [],w1,_,_,_=>simp[dz] at w1
  | a::ks,_,w2,hh,ih=>
   have:=ih a (by simp) (w2 a (by simp))
   simp[text,texts,eI] at hh
   split at hh
   ·simp at hh
   ·exact this hh.1
 all_goals simp[text]
theorem amV (e:Ex) (h:e.Ok):CC yF (b9 e [])=some [.str (if e.val 6=0 then e.text else [])]:=by
 refine amy ?_
 unfold Zu
 rw[Oq e h]
 by_cases hv:e.val 6=0
 ·obtain ⟨_,U,h3⟩:=sm hv
  have hl:=Zi e
  have hw:=amT e h h3 [] (by simp;omega)
  simp only[fp,List.nil_append] at hw
  simp only[Option.bind_some,V.aC,V.cQ,hv,oM,qX,cond_false,cU]
  rw[hw]
  simp only[Option.bind_some,V.aC,V.bS]
  rw[amO _ (amU e h3) (by omega)]
  simp
 ·simp[hv]
end Go.AM
set_option maxRecDepth 100000
namespace Go.AM
structure Da where
 L:Nat
 st:Nat
 F:List Bool
 N:List (List Nat)
deriving DecidableEq
namespace Da
def n (d:Da):Nat:=d.F.length
def nx (d:Da) (q x:Nat):Nat:=(d.N.getD q []).getD x 0
def fin (d:Da) (q:Nat):Bool:=d.F.getD q false
def run (d:Da) (q:Nat) (w:List Nat):Nat:=w.foldl d.nx q
def acc (d:Da) (q:Nat) (w:List Nat):Bool:=d.fin (d.run q w)
structure Ok (d:Da):Prop where
 l1:1≤d.L
 l6:d.L≤6
 nN:d.N.length=d.n
 row: ∀r∈d.N,r.length=d.L∧∀q∈r,q<d.n
 s:d.st<d.n
 dh:d.n≤512
end Da
def WL (L:Nat) (w:List Nat):Prop:= ∀x∈w,x<L
theorem WL.nil {L:Nat}:WL L []:=fun _ h=>by cases h
theorem WL.cons {L x:Nat} {w:List Nat} (h:x<L) (hw:WL L w):WL L (x::w):=fun y hy=>by
 rcases dx.1 hy with rfl|hy
 ·exact h
 ·exact hw y hy
theorem WL.tail {L x:Nat} {w:List Nat} (h:WL L (x::w)):WL L w:=fun y hy=>h y (by simp[hy])
theorem WL.app {L:Nat} {v w:List Nat}:WL L (v++w)↔WL L v∧WL L w:=by
 unfold WL
 simp only[eJ]
 exact ⟨fun h=>⟨fun x hx=>h x (.inl hx),fun x hx=>h x (.inr hx)⟩,fun h x hx=>hx.elim (h.1 x) (h.2 x)⟩
namespace Da
def Jo (d:Da) (q:Nat) (d':Da) (q':Nat):Prop:= ∀w,WL d.L w→d.acc q w=d'.acc q' w
theorem Jo.nx {d d':Da} {q q' x:Nat} (h:d.Jo q d' q') (hx:x<d.L):d.Jo (d.nx q x) d' (d'.nx q' x):=fun w hw=>h (x::w) (hw.cons hx)
def pos (d:Da) (t:Nat):Nat:=d.nx (t/d.L) (t %d.L)
def mt (d:Da):Nat→Nat
 | 0=>1
 | t+1=>if d.pos t=d.mt t then d.mt t+1 else d.mt t
structure Num (d:Da):Prop where
 le: ∀t,t<d.n*d.L→d.pos t≤d.mt t
 row: ∀q,q<d.n→q<d.mt (q*d.L)
 all:d.mt (d.n*d.L)=d.n
structure Canon (d:Da) (L:Nat) (K:List Nat→Bool):Prop where
 ok:d.Ok
 hL:d.L=L
 st:d.st=0
 num:d.Num
 red: ∀p q,p<d.n→q<d.n→d.Jo p d q→p=q
 aL: ∀w,WL L w→d.acc 0 w=K w
end Da
section
variable {α:Type} [DecidableEq α]
def amW (S:List α) (a:α):List α:=if a∈S then S else S++[a]
def ZF (next:α→Nat→α) (S:List α) (a:α):Nat→List α
 | 0=>S
 | x+1=>amW (ZF next S a x) (next a x)
def Er (L:Nat) (next:α→Nat→α) (a0:α):Nat→List α
 | 0=>[a0]
 | i+1=>match (Er L next a0 i)[i]? with
  | some a=>ZF next (Er L next a0 i) a L
  | none=>Er L next a0 i
variable {L:Nat} {next:α→Nat→α} {a0:α}
section
variable {k:Nat} (hd:(Er L next a0 k).length≤k)
include hd
end
section
variable {k:Nat} (hd:(Er L next a0 k).length≤k) {fin:α→Bool}
include hd
end
end
namespace Da
end Da
end Go.AM
set_option maxRecDepth 100000
namespace Go.AM
open Go.Proofs
section
variable {α:Type} (ke:α→V)
def mD (i:Nat):List α→List V
 | []=>[]
 | a::S=> .bn [ke a,iV (i:Int)]::mD (i+1) S
where iV (n:Int):V:= .int .i64 n
end
section
variable {α:Type} [DecidableEq α] {ke:α→V}
variable (hk: ∀a b,mG (ke a) (ke b)=decide (a=b))
include hk
theorem ZG (x:α): ∀(S:List α) (i:Nat),lT (ke x) (mD ke i S)=decide (x∈S)
 | [],_=>by simp[mD,lT]
 | a::S,i=>by
  have c: ∀(p q:V),(V.bn [p,q]).comp 0=p:=fun p q=>rfl
  rw[mD,lT,c,hk,ZG x S (i+1)]
  rw[nB]
  simp
theorem ZH (x:α) (z:V): ∀(S:List α) (i:Nat),x∈S→mH (ke x) (mD ke i S) z= .int .i64 ((i+S.idxOf x:Nat):Int)
 | [],_,h=>by cases h
 | a::S,i,h=>by
  have c: ∀(p q:V),(V.bn [p,q]).comp 0=p:=fun p q=>rfl
  have c1: ∀(p q:V),(V.bn [p,q]).comp 1=q:=fun p q=>rfl
  rw[mD,mH,c,c1,hk]
  by_cases e:x=a
  ·subst e
   rw[eK rfl]
   simp[mD.iV]
  ·rw[cl e,cond_false,ZH x z S (i+1) ((dx.1 h).resolve_left e),show (a::S).idxOf x=S.idxOf x+1 from by rw[List.idxOf_cons,show (a==x)=false from Ai.2 fun h=>e h.symm];rfl]
   congr 2
   omega
theorem ZI (x:α): ∀(S:List α) (i:Nat),x∉S→iW (ke x) (.int .i64 ((i+S.length:Nat):Int)) (mD ke i S)=mD ke i (S++[x])
 | [],i,_=>by simp[mD,iW,mD.iV]
 | a::S,i,h=>by
  have c: ∀(p q:V),(V.bn [p,q]).comp 0=p:=fun p q=>rfl
  have e:x≠a:=fun e=>h (by simp[e])
  rw[mD,iW,c,hk,cl e,cond_false,List.cons_append,mD]
  congr 1
  have:=ZI x S (i+1) fun hx=>h (by simp[hx])
  rw[←this]
  simp only[List.length_cons]
  congr 3
  omega
end
noncomputable def ZJ (C:ae) (aj ar:Int) (ai:List V) (dp dJ:Int) (bU cv av:List V):Option (List V):=
 (C yF [.int .i64 aj,.int .i64 ar,.list aa ai]).bind fun r1=>
 bif Nat.ble (((V.nth r1 0).toStr).length) maxLen&&true then
  bif Nat.ble ((bU.length+([.agg [.int .i64 0,.int .i64 0,.list aa ([]:List V)]]:List V).length)*40) cI then
  bif (decide (0≤(bU.length:Int)))&&(decide ((bU.length:Int)<((bU++([.agg [.int .i64 0,.int .i64 0,.list aa ([]:List V)]]:List V)).length:Int))) then
   ((bU++([.agg [.int .i64 0,.int .i64 0,.list aa ([]:List V)]]:List V))[((bU.length:Int):Int).toNat]?).bind fun x2=>
   some [.int .i64 (bU.length:Int),.int .i64 dp,.int .i64 dJ,.list ei (iW (.str ((V.nth r1 0).toStr)) (.int .i64 (bU.length:Int)) av),.list aa ((bU++([.agg [.int .i64 0,.int .i64 0,.list aa ([]:List V)]]:List V)).set (((bU.length:Int):Int).toNat) (.agg [.int .i64 aj,.int .i64 ar,.list aa ai])),.list cZ cv]
  else none
  else none
 else none
theorem amX {aj ar:Int} {ai:List V} {dp dJ:Int} {bU cv av:List V} {r:Option (List V)} (h:ZJ CC aj ar ai dp dJ bU cv av=r):CC BP [.int .i64 aj,.int .i64 ar,.list aa ai,.int .i64 dp,.int .i64 dJ,.list aa bU,.list cZ cv,.list ei av]=r:=
 aY (key:=36) (L:=b6) (bs:=[]) (by kernel_rfl) ax (aX (by kernel_rfl) h)
noncomputable def ZK (C:ae) (aj ar:Int) (ai:List V) (letters:Int):Option (List V):=
 (C BP [.int .i64 aj,.int .i64 ar,.list aa ai,.int .i64 letters,.int .i64 0,.list aa ([]:List V),.list cZ ([]:List V),.list ei ([]:List V)]).bind fun r1=>
 some [.int .i64 ((V.nth (r1.drop 1) 0).toInt),.int .i64 ((V.nth ((r1.drop 1).drop 1) 0).toInt),.list aa ((V.nth (((r1.drop 1).drop 2).drop 1) 0).toList),.list cZ ((V.nth ((((r1.drop 1).drop 2).drop 1).drop 1) 0).toList),.list ei ((V.nth ((r1.drop 1).drop 2) 0).toList)]
theorem amY {aj ar:Int} {ai:List V} {letters:Int} {r:Option (List V)} (h:ZK CC aj ar ai letters=r):CC G1 [.int .i64 aj,.int .i64 ar,.list aa ai,.int .i64 letters]=r:=
 aY (key:=21) (L:=b6) (bs:=[]) (by kernel_rfl) ax (aX (by kernel_rfl) h)
noncomputable def ZL (C:ae) (dp dJ:Int) (bU cv av:List V):Option (List V):=
 some [.bool ((dJ:Int)==(bU.length:Int)),.int .i64 dp,.int .i64 dJ,.list ei av,.list aa bU,.list cZ cv]
theorem amZ {dp dJ:Int} {bU cv av:List V} {r:Option (List V)} (h:ZL CC dp dJ bU cv av=r):CC G3 [.int .i64 dp,.int .i64 dJ,.list aa bU,.list cZ cv,.list ei av]=r:=
 aY (key:=23) (L:=b6) (bs:=[]) (by kernel_rfl) ax (aX (by kernel_rfl) h)
noncomputable abbrev ZM:Code:=cg Tryz.prog (au.aP 24)
noncomputable def uo (C:ae) (t16 t17 dp dJ:Int) (av rows cz la:List V) {β:Type} (kn:(Int × Int × Int × (List V) × (List V) × (List V) × (List V))→Option β) (kr:((Int × Int × Int × (List V) × (List V) × (List V)) ⊕ (Int × Bool × Int × Int × (List V) × (List V) × (List V) × (List V)))→Option β):Option β:=
 bif decide ((t17:Int)<t16) then
  bif (decide (0≤dJ))&&(decide (dJ<(cz.length:Int))) then
  (cz[(dJ:Int).toNat]?).bind fun x1=>
  (C G6 [.int .i64 ((x1.cell 0).toInt),.int .i64 ((x1.cell 1).toInt),.list aa ((x1.cell 2).toList),.int .i64 t17]).bind fun r2=>
  bif (((V.nth (r2.drop 3) 0).toInt):Int) != 0 then
   kr (.inl ((V.nth (r2.drop 3) 0).toInt,dp,dJ,av,cz,la))
  else
   (C yF [.int .i64 ((V.nth r2 0).toInt),.int .i64 ((V.nth (r2.drop 1) 0).toInt),.list aa ((V.nth ((r2.drop 1).drop 1) 0).toList)]).bind fun r3=>
   bif Nat.ble (((V.nth r3 0).toStr).length) maxLen&&true then
   bif !(lT (.str ((V.nth r3 0).toStr)) av) then
    bif ((cz.length:Int):Int)==512 then
    kr (.inl (3,dp,dJ,av,cz,la))
    else
    (C BP [.int .i64 ((V.nth r2 0).toInt),.int .i64 ((V.nth (r2.drop 1) 0).toInt),.list aa ((V.nth ((r2.drop 1).drop 1) 0).toList),.int .i64 dp,.int .i64 dJ,.list aa cz,.list cZ la,.list ei av]).bind fun r4=>
    bif (decide (0≤t17))&&(decide (t17<(rows.length:Int))) then
     (rows[(t17:Int).toNat]?).bind fun x5=>
     kn (IntKind.wrap .i64 (t17+1),(V.nth (r4.drop 1) 0).toInt,(V.nth ((r4.drop 1).drop 1) 0).toInt,(V.nth ((r4.drop 1).drop 2) 0).toList,rows.set ((t17:Int).toNat) (.int .i64 ((V.nth r4 0).toInt)),(V.nth (((r4.drop 1).drop 2).drop 1) 0).toList,(V.nth ((((r4.drop 1).drop 2).drop 1).drop 1) 0).toList)
    else none
   else
    bif (decide (0≤t17))&&(decide (t17<(rows.length:Int))) then
    (rows[(t17:Int).toNat]?).bind fun x6=>
    kn (IntKind.wrap .i64 (t17+1),dp,dJ,av,rows.set ((t17:Int).toNat) (.int .i64 ((mH (.str ((V.nth r3 0).toStr)) av (.int .i64 0)).toInt)),cz,la)
    else none
   else none
  else none
 else
  kr (.inr (t17,decide ((t17:Int)<t16),dp,dJ,av,rows,cz,la))
noncomputable def pI (C:ae) (t16:Int):(Int × Int × Int × (List V) × (List V) × (List V) × (List V))→Option ((Int × Int × Int × (List V) × (List V) × (List V) × (List V)) ⊕ ((Int × Int × Int × (List V) × (List V) × (List V)) ⊕ (Int × Bool × Int × Int × (List V) × (List V) × (List V) × (List V)))):=un fun t17=>un fun dp=>un fun dJ=>un fun av=>un fun rows=>un fun cz la=>uo C t16 t17 dp dJ av rows cz la (fun y=>some (.inl y)) (fun r=>some (.inr r))
noncomputable def ZN (C:ae):bZ:=fun β n ds k=>
 bif Nat.beq n 49 then bK Mq [false,true,true,true,true,true,true,true] [[0,0,0,0,0,0],[1,0,0,0,0,0,0,0,0]] (@uo C) ds k else
 none
abbrev am0 (C:ae) (b:bX):Prop:=bY Tryz.prog au C (ZN C) 24 (cj Tryz.prog (au.aP 24)) (au.sin 24).ba.length b
theorem am1 (C:ae):am0 C (.loop (aw [1,1,0,1,0,0] ZM)):=
 bN Mq [false,true,true,true,true,true,true,true] [[0,0,0,0,0,0],[1,0,0,0,0,0,0,0,0]] (@uo C) (by kernel_rfl) (a8 (bs:=[]) (by kernel_rfl) ax) (fun ds=>by kernel_rfl) (fun i x=>by kernel_rfl) (fun i x β k=>by kernel_rfl) (fun β ds k=>by kernel_rfl)
noncomputable def ZO (C:ae) (dp dJ:Int) (bU cv av:List V):Option (List V):=
 bif (decide (0≤dp))&&((decide (dp≤dp))&&(Nat.ble (((dp:Int).toNat)*8) cI)) then
  (Loop (pI C ((List.replicate ((dp:Int).toNat) (V.int .i64 0)).length:Int)) (0,dp,dJ,av,List.replicate ((dp:Int).toNat) (V.int .i64 0),bU,cv)).bind (cu (un fun (nc:Int)=>un fun (pw:Int)=>un fun (sf:Int)=>un fun (nf:List V)=>un fun (ng:List V) (we:List V)=>
   some [.int .i64 nc,.int .i64 pw,.int .i64 sf,.list ei nf,.list aa ng,.list cZ we]) (un fun (Uk:Int)=>un fun (Ci:Bool)=>un fun (PN:Int)=>un fun (PO:Int)=>un fun (vX:List V)=>un fun (Et:List V)=>un fun (PQ:List V) (Eu:List V)=>
   bif Nat.ble ((Eu.length+([.list m8 Et]:List V).length)*24) cI then
   some [.int .i64 0,.int .i64 PN,.int .i64 (IntKind.wrap .i64 (PO+1)),.list ei vX,.list aa PQ,.list cZ (Eu++([.list m8 Et]:List V))]
   else none))
 else none
theorem am2 {dp dJ:Int} {bU cv av:List V} {r:Option (List V)} (h:ZO CC dp dJ bU cv av=r):CC yB [.int .i64 dp,.int .i64 dJ,.list aa bU,.list cZ cv,.list ei av]=r:=
 aY (key:=24) (L:=ZN CC) (bs:=[.loop (aw [1,1,0,1,0,0] ZM)]) (by kernel_rfl) (bq (am1 CC) ax) (aX (by kernel_rfl) h)
end Go.AM
set_option maxRecDepth 100000
namespace Go.AM
open Go.Proofs Ex
def ld (r:List Int):V:= .list m8 (r.map fun n=> .int .i64 n)
def fD (es:List Ex):List V:=mD V.str 0 (es.map Ex.text)
theorem PS (a b:List UInt8):mG (.str a) (.str b)=decide (a=b):=by
 simp only[mG,V.cells,uB,xm,Bool.and_true]
 rw[nB]
 simp
theorem PT {es:List Ex} (h: ∀e∈es,Nv e) {d:Ex} (hd:Nv d):d.text∈es.map Ex.text↔d∈es:=by
 rw[ey]
 constructor
 ·rintro ⟨a,ha,he⟩
  rw[←Zt (h a ha).1.2 hd.1.2 he];exact ha
 ·exact fun hx=>⟨d,hx,rfl⟩
theorem ZP {α β:Type} [DecidableEq α] [DecidableEq β] {f:α→β} {d:α}: ∀{es:List α},(∀e∈es,f e=f d→e=d)→(es.map f).idxOf (f d)=es.idxOf d
 | [],_=>rfl
 | e::es,h=>by
  rw[cr,List.idxOf_cons,List.idxOf_cons,ZP fun x hx=>h x (by simp[hx])]
  have:(f e==f d)=(e==d):=by
   rw[nB,beq_iff_eq,beq_iff_eq]
   exact ⟨h e (by simp),fun h=>by rw[h]⟩
  rw[this]
theorem Jp {e:Ex} (h:e.val 6=0):(Nat.ble e.text.length maxLen&&true)=true:=by
 have a:=Zi e
 have b:=sm h
 rw[Bool.and_true,ej]
 unfold maxLen
 omega
theorem Jq {e:Ex} (h:Nv e):CC yF (b9 e [])=some [.str e.text]:=by
 rw[amV e (am3 h),ag h.2]
where am3 {e:Ex} (h:Nv e):e.Ok:=wz (by omega) e h.1.2 (by have:=sm h.2;omega)
def z9 (s:Dv):List V:=[.int .i64 s.L,.int .i64 s.dn,.list aa (s.es.map enc),.list cZ (s.nx.map ld),.list ei (fD s.es)]
def PU (s:Dv):List V:=[.int .i64 s.L,.int .i64 s.dn,.list ei (fD s.es),.list aa (s.es.map enc),.list cZ (s.nx.map ld)]
theorem am4 {es:List Ex} (h: ∀e∈es,Nv e) {d:Ex} (hd:Nv d) (hn:d∉es):iW (.str d.text) (.int .i64 (es.length:Int)) (fD es)=fD (es++[d]):=by
 have:=ZI (ke:=V.str) PS d.text (es.map Ex.text) 0 fun hx=>hn ((PT h hd).1 hx)
 rw[bt,gV] at this
 unfold fD
 rw[this,gn]
 rfl
theorem am5 {α:Type} (a:List α) (x y:α):(a++[x]).set a.length y=a++[y]:=by
 simp[List.set_append_right]
theorem ZQ {L dn:Int} {es:List Ex} {d:Ex} {nx:List V} (h: ∀e∈es,Nv e) (hd:Nv d) (hn:d∉es) (hl:es.length≤1000):
  CC BP (b9 d [.int .i64 L,.int .i64 dn,.list aa (es.map enc),.list cZ nx,.list ei (fD es)])=some [.int .i64 (es.length:Int),.int .i64 L,.int .i64 dn,.list ei (fD (es++[d])),.list aa ((es++[d]).map enc),.list cZ nx]:=by
 refine amX ?_
 unfold ZJ
 refine bs (Jq hd) ?_
 refine bT (Jp hd.2) ?_
 refine bT (Pw (by simp;omega)) ?_
 refine (uf (i:=(es.map enc).length) (v:= .agg [.int .i64 0,.int .i64 0,.list aa ([]:List V)]) (by simp)).trans ?_
 rw[Int.toNat_natCast,am5]
 have h1:=am4 h hd hn
 rw[bt]
 show some [V.int .i64 (es.length:Int),.int .i64 L,.int .i64 dn,.list ei (iW (.str d.text) (.int .i64 (es.length:Int)) (fD es)),.list aa (es.map enc++[.agg [.int .i64 d.op,.int .i64 d.letter,.list aa (d.kids.map enc)]]),.list cZ nx]=_
 rw[h1,ama,gn]
 rfl
theorem am6 {e:Ex} {L:Int} (h:Nv e):CC G1 (b9 e [.int .i64 L])=some (z9 ⟨L,[e],[],0⟩):=by
 refine amY ?_
 unfold ZK
 refine bs (ZQ (L:=L) (dn:=0) (es:=[]) (d:=e) (nx:=[]) (by simp) h (by simp) (by simp)) ?_
 rfl
theorem PV (s:Dv):CC G3 (z9 s)=some (.bool (s.dn==s.es.length)::PU s):=by
 refine amZ ?_
 unfold ZL
 rw[bt]
 rfl
theorem PW {L dn:Int} {e:Ex} {k:Nat} {nx:List V} (hk:dn=(k:Int)) (he:Nv e): ∀(n x:Nat) (es:List Ex) (row:List Int),L=((x+n:Nat):Int)→x+n≤10→Es es→k<es.length→es.getD k bm=e→row.length=x→
  (∀p,oG e n x es row=some p→Loop (pI CC L) (((x:Nat):Int),L,dn,fD es,(row.map fun n=>V.int .i64 n)++List.replicate n (.int .i64 0),es.map enc,nx)=some (.inr (L,false,L,dn,fD p.1,(p.2.map fun n=>V.int .i64 n),p.1.map enc,nx)))
  ∧(oG e n x es row=none→∃y,Loop (pI CC L) (((x:Nat):Int),L,dn,fD es,(row.map fun n=>V.int .i64 n)++List.replicate n (.int .i64 0),es.map enc,nx)=some (.inl (3,y)))
 | 0,x,es,row,hL,hx,o6,iK,vb,hr=>by
  refine ⟨fun p hp=> ?_,fun hp=>by simp[oG] at hp⟩
  cases hp
  refine bj ?_
  simp only[pI,uo,un]
  rw[az,ah (by omega),cl (by omega),show L=((x:Nat):Int) by omega]
  simp
 | n+1,x,es,row,hL,hx,o6,iK,vb,hr=>by
  subst hk
  have aQ:decide ((x:Int)<L)=true:=eK (by omega)
  have cC:(es.map enc)[k]? =some e.enc:=by
   rw[fU,bH iK,←vb,gW,bH iK];rfl
  have hb:=amm he (x:Int)
  have am7:z7 (aZ (b7 x e))=match qN e x with|some d=>(d,0)|none=>(bm,3):=by
   unfold z7 qN;split<;>rfl
  rw[am7] at hb
  have Jr:x=(row.map fun n=>V.int .i64 n).length:=by simp[hr]
  rw[oG]
  cases bM:qN e x with
  | none=>
   rw[bM] at hb
   refine ⟨fun p hp=>(by cases hp),fun _=>⟨(L,(k:Int),fD es,es.map enc,nx),bj ?_⟩⟩
   ·simp only[pI,uo,un]
    refine bT aQ ((uf cC).trans ?_)
    rw[bz,bA,bB]
    refine bs hb ?_
    exact bT rfl rfl
  | some d=>
   rw[bM] at hb
   have hd:=(PA he bM).1
   have PX:lT (.str d.text) (fD es)=decide (d∈es):=by
    unfold fD
    rw[ZG PS,decide_eq_decide]
    exact PT o6.nv hd
   simp only[Option.bind_some]
   by_cases hm:d∈es
   ·rw[ag hm]
    have aa7:es.idxOf d<es.length:=List.idxOf_lt_length_iff.2 hm
    obtain ⟨i1,i2⟩:=PW (L:=L) (e:=e) (k:=k) (nx:=nx) rfl he n (x+1) es (row++[(es.idxOf d:Int)]) (by omega) (by omega) o6 iK vb (by simp[hr])
    have e7:pI CC L (((x:Nat):Int),L,(k:Int),fD es,(row.map fun n=>V.int .i64 n)++List.replicate (n+1) (.int .i64 0),es.map enc,nx)=some (.inl (((x+1:Nat):Int),L,(k:Int),fD es,((row++[(es.idxOf d:Int)]).map fun n=>V.int .i64 n)++List.replicate n (.int .i64 0),es.map enc,nx)):=by
     simp only[pI,uo,un]
     refine bT aQ ((uf cC).trans ?_)
     rw[bz,bA,bB]
     refine bs hb (bF rfl (bs (Jq hd) (bT (Jp hd.2) ?_)))
     refine bF (by rw[V.aC,V.mh,PX,eK hm];rfl) ?_
     refine (uk Jr).trans ?_
     rw[Int.toNat_natCast,um Jr,nt (by omega),V.aC,V.mh]
     have hg:mH (.str d.text) (fD es) (.int .i64 0)= .int .i64 (es.idxOf d:Int):=by
      unfold fD
      rw[ZH PS _ _ _ _ ((PT o6.nv hd).2 hm),ZP fun x hx=>Zt (o6.nv x hx).1.2 hd.1.2,gV]
     rw[hg,V.toInt_int,gn]
     rfl
    exact ⟨fun p hp=>(bW e7).trans (i1 p hp),fun hp=>by obtain ⟨y,hy⟩:=i2 hp;exact ⟨y,(bW e7).trans hy⟩⟩
   ·rw[ah hm]
    by_cases Js:es.length=512
    ·rw[ag Js]
     refine ⟨fun p hp=>(by cases hp),fun _=>⟨(L,(k:Int),fD es,es.map enc,nx),bj ?_⟩⟩
     ·simp only[pI,uo,un]
      refine bT aQ ((uf cC).trans ?_)
      rw[bz,bA,bB]
      refine bs hb (bF rfl (bs (Jq hd) (bT (Jp hd.2) ?_)))
      refine bT (by rw[V.aC,V.mh,PX,cl hm];rfl) ?_
      exact bT (by rw[bt,Js];rfl) rfl
    ·rw[ah Js]
     have hl:=o6.le
     obtain ⟨i1,i2⟩:=PW (L:=L) (e:=e) (k:=k) (nx:=nx) rfl he n (x+1) (es++[d]) (row++[(es.length:Int)]) (by omega) (by omega) (o6.snoc hd hm Js) (by simp;omega) (by rw[Je iK,vb]) (by simp[hr])
     have e7:pI CC L (((x:Nat):Int),L,(k:Int),fD es,(row.map fun n=>V.int .i64 n)++List.replicate (n+1) (.int .i64 0),es.map enc,nx)=some (.inl (((x+1:Nat):Int),L,(k:Int),fD (es++[d]),((row++[(es.length:Int)]).map fun n=>V.int .i64 n)++List.replicate n (.int .i64 0),(es++[d]).map enc,nx)):=by
      simp only[pI,uo,un]
      refine bT aQ ((uf cC).trans ?_)
      rw[bz,bA,bB]
      refine bs hb (bF rfl (bs (Jq hd) (bT (Jp hd.2) ?_)))
      refine bT (by rw[V.aC,V.mh,PX,cl hm];rfl) ?_
      refine bF (by rw[bt,Ai];omega) ?_
      refine bs (ZQ o6.nv hd hm (by omega)) ?_
      refine (uk Jr).trans ?_
      rw[Int.toNat_natCast,um Jr,nt (by omega),gn (l₁:=row)]
      rfl
     exact ⟨fun p hp=>(bW e7).trans (i1 p hp),fun hp=>by obtain ⟨y,hy⟩:=i2 hp;exact ⟨y,(bW e7).trans hy⟩⟩
theorem am8 {s:Dv} (hs:Gs s) (hd:s.dn<s.es.length):
  (∀t,proc s=some t→CC yB (z9 s)=some (.int .i64 0::PU t))∧(proc s=none→∃l,CC yB (z9 s)=some (.int .i64 3::l)):=by
 have Zd:=hs.dn
 have hL:=hs.L
 have hq:s.dn.toNat<s.es.length:=by omega
 have kJ:=hs.nl
 have hle:=hs.es.le
 have hN:((s.L.toNat:Nat):Int)=s.L:=by omega
 obtain ⟨l1,l2⟩:=PW (L:=s.L) (dn:=s.dn) (e:=s.es.getD s.dn.toNat bm) (k:=s.dn.toNat) (nx:=s.nx.map ld) (by omega) (hs.es.nv _ (Jf hq)) s.L.toNat 0 s.es [] (by omega) (by omega) hs.es hq rfl rfl
 have hf: ∀{r:Option (List V)},((Loop (pI CC s.L) (((0:Nat):Int),s.L,s.dn,fD s.es,List.replicate s.L.toNat (V.int .i64 0),s.es.map enc,s.nx.map ld)).bind (cu (un fun (nc:Int)=>un fun (pw:Int)=>un fun (sf:Int)=>un fun (nf:List V)=>un fun (ng:List V) (we:List V)=>some [V.int .i64 nc,.int .i64 pw,.int .i64 sf,.list ei nf,.list aa ng,.list cZ we]) (un fun (Uk:Int)=>un fun (Ci:Bool)=>un fun (PN:Int)=>un fun (PO:Int)=>un fun (vX:List V)=>un fun (Et:List V)=>un fun (PQ:List V) (Eu:List V)=>bif Nat.ble ((Eu.length+([.list m8 Et]:List V).length)*24) cI then some [.int .i64 0,.int .i64 PN,.int .i64 (IntKind.wrap .i64 (PO+1)),.list ei vX,.list aa PQ,.list cZ (Eu++([.list m8 Et]:List V))] else none)))=r→CC yB (z9 s)=r:=fun h=>by
  refine am2 ?_
  unfold ZO
  refine bT ?_ ?_
  ·refine xg.2 ⟨eK (by omega),xg.2 ⟨eK (by omega),?_⟩⟩
   rw[ej,oe];omega
  ·rw[uu,hN]
   exact h
 refine ⟨fun t ht=>hf ?_,fun ht=> ?_⟩
 ·obtain ⟨p,hp,rfl⟩:=Zb ht
  refine bs (l1 p hp) ?_
  simp only[cu,un]
  refine bT (by rw[ej,oe];simp;omega) ?_
  rw[wrap64 (by omega) (by omega)]
  unfold PU
  simp only[gn]
  rfl
 ·have hr:oG (s.es.getD s.dn.toNat bm) s.L.toNat 0 s.es []=none:=by
   unfold proc at ht
   rwa [Option.map_eq_none_iff] at ht
  obtain ⟨y,hy⟩:=l2 hr
  exact ⟨_,hf (bs hy rfl)⟩
end Go.AM
set_option maxRecDepth 100000
namespace Go.AM
open Go.Proofs
noncomputable abbrev ZR:Code:=cg Tryz.prog (au.aP 25)
noncomputable def Ev (C:ae) (t22 ZS ZT:Int) (av:List V) (lI mu gT iv:Int) (Jt I8 ZU ZV:List V) (t23:Int) (Ew:List V) {β:Type} (kn:(Int × (List V))→Option β) (kr:(Int × Bool × (List V))→Option β):Option β:=
 bif decide ((t23:Int)<t22) then
  bif (decide (0≤t23))&&(decide (t23<(Jt.length:Int))) then
  (Jt[(t23:Int).toNat]?).bind fun x1=>
  (C kP [.int .i64 ((x1.cell 0).toInt),.int .i64 ((x1.cell 1).toInt),.list aa ((x1.cell 2).toList)]).bind fun r2=>
  bif Nat.ble ((Ew.length+([.bool ((V.nth r2 0).toBool)]:List V).length)*1) cI then
   kn (IntKind.wrap .i64 (t23+1),Ew++([.bool ((V.nth r2 0).toBool)]:List V))
  else none
  else none
 else
  kr (t23,decide ((t23:Int)<t22),Ew)
noncomputable def Ju (C:ae) (t22 ZS ZT:Int) (av:List V) (lI mu gT iv:Int) (Jt I8 ZU ZV:List V):(Int × (List V))→Option ((Int × (List V)) ⊕ (Int × Bool × (List V))):=un fun t23 Ew=>Ev C t22 ZS ZT av lI mu gT iv Jt I8 ZU ZV t23 Ew (fun y=>some (.inl y)) (fun r=>some (.inr r))
noncomputable def ZW (C:ae):bZ:=fun β n ds k=>
 bif Nat.beq n 49 then bK Mr [false,true,false,false,false,false,false,false,false,false,false,false,false,true] [[1,0,0,3,4,5,6,7,8,9,10,11,12,13,0]] (@Ev C) ds k else
 none
abbrev am9 (C:ae) (b:bX):Prop:=bY Tryz.prog au C (ZW C) 25 (cj Tryz.prog (au.aP 25)) (au.sin 25).ba.length b
theorem ana (C:ae):am9 C (.loop (aw [1,1,0,1,0,0] ZR)):=
 bN Mr [false,true,false,false,false,false,false,false,false,false,false,false,false,true] [[1,0,0,3,4,5,6,7,8,9,10,11,12,13,0]] (@Ev C) (by kernel_rfl) (a8 (bs:=[]) (by kernel_rfl) ax) (fun ds=>by kernel_rfl) (fun i x=>by kernel_rfl) (fun i x β k=>by kernel_rfl) (fun β ds k=>by kernel_rfl)
noncomputable def ZX (C:ae) (dp dJ:Int) (bU cv av:List V):Option (List V):=
 (Loop (Ju C (bU.length:Int) dp dJ av 0 0 dp 0 bU cv ([]:List V) ([]:List V)) (0,([]:List V))).bind (un fun (jI:Int)=>un fun (mn:Bool) (b_5:List V)=>
  some [.int .i64 dp,.int .i64 0,.int .i64 dp,.int .i64 dJ,.list ei av,.list gM b_5,.list cZ cv,.list aa bU])
theorem anb {dp dJ:Int} {bU cv av:List V} {r:Option (List V)} (h:ZX CC dp dJ bU cv av=r):CC G4 [.int .i64 dp,.int .i64 dJ,.list aa bU,.list cZ cv,.list ei av]=r:=
 aY (key:=25) (L:=ZW CC) (bs:=[.loop (aw [1,1,0,1,0,0] ZR)]) (by kernel_rfl) (bq (ana CC) ax) (aX (by kernel_rfl) h)
noncomputable abbrev ZY:Code:=cg Tryz.prog (au.aP 9)
noncomputable def Aa (C:ae) (oE oF:Int) (cv av:List V) (dp dJ:Int) (aT cz la:List V) {β:Type} (kn:(Int × Int × (List V) × (List V) × (List V))→Option β) (kr:((Int × Int × Int × (List V) × (List V)) ⊕ (Bool × Int × Int × (List V) × (List V) × (List V)))→Option β):Option β:=
 (C G3 [.int .i64 dp,.int .i64 dJ,.list aa aT,.list cZ cz,.list ei la]).bind fun r4=>
 bif !((V.nth r4 0).toBool) then
  (C yB [.int .i64 ((V.nth (r4.drop 1) 0).toInt),.int .i64 ((V.nth ((r4.drop 1).drop 1) 0).toInt),.list aa ((V.nth (((r4.drop 1).drop 2).drop 1) 0).toList),.list cZ ((V.nth ((((r4.drop 1).drop 2).drop 1).drop 1) 0).toList),.list ei ((V.nth ((r4.drop 1).drop 2) 0).toList)]).bind fun r5=>
  bif (((V.nth r5 0).toInt):Int) != 0 then
  kr (.inl ((V.nth r5 0).toInt,0,0,([]:List V),([]:List V)))
  else
  kn ((V.nth (r5.drop 1) 0).toInt,(V.nth ((r5.drop 1).drop 1) 0).toInt,(V.nth (((r5.drop 1).drop 2).drop 1) 0).toList,(V.nth ((((r5.drop 1).drop 2).drop 1).drop 1) 0).toList,(V.nth ((r5.drop 1).drop 2) 0).toList)
 else
  kr (.inr (!((V.nth r4 0).toBool),(V.nth (r4.drop 1) 0).toInt,(V.nth ((r4.drop 1).drop 1) 0).toInt,(V.nth (((r4.drop 1).drop 2).drop 1) 0).toList,(V.nth ((((r4.drop 1).drop 2).drop 1).drop 1) 0).toList,(V.nth ((r4.drop 1).drop 2) 0).toList))
noncomputable def w5 (C:ae) (oE oF:Int) (cv av:List V):(Int × Int × (List V) × (List V) × (List V))→Option ((Int × Int × (List V) × (List V) × (List V)) ⊕ ((Int × Int × Int × (List V) × (List V)) ⊕ (Bool × Int × Int × (List V) × (List V) × (List V)))):=un fun dp=>un fun dJ=>un fun aT=>un fun cz la=>Aa C oE oF cv av dp dJ aT cz la (fun y=>some (.inl y)) (fun r=>some (.inr r))
noncomputable def ZZ (C:ae):bZ:=fun β n ds k=>
 bif Nat.beq n 81 then bK Mj [false,false,true,true,false,false,true,true,true] [[0,0,0,0,0],[0,1,2,0,0,5,6,0,0,0]] (@Aa C) ds k else
 none
abbrev anc (C:ae) (b:bX):Prop:=bY Tryz.prog au C (ZZ C) 9 (cj Tryz.prog (au.aP 9)) (au.sin 9).ba.length b
theorem ane (C:ae):anc C (.loop (aw [1,1,1,0,0,0] ZY)):=
 bN Mj [false,false,true,true,false,false,true,true,true] [[0,0,0,0,0],[0,1,2,0,0,5,6,0,0,0]] (@Aa C) (by kernel_rfl) (a8 (bs:=[]) (by kernel_rfl) ax) (fun ds=>by kernel_rfl) (fun i x=>by kernel_rfl) (fun i x β k=>by kernel_rfl) (fun β ds k=>by kernel_rfl)
noncomputable def Z0 (C:ae) (aj ar:Int) (ai:List V) (letters:Int):Option (List V):=
 (C yA [.int .i64 aj,.int .i64 ar,.list aa ai,.int .i64 letters]).bind fun r1=>
 bif (((V.nth r1 0).toInt):Int) != 0 then
  some [.int .i64 0,.int .i64 0,.int .i64 ((V.nth r1 0).toInt),.list gM ([]:List V),.list cZ ([]:List V)]
 else
  (C G2 [.int .i64 aj,.int .i64 ar,.list aa ai]).bind fun r2=>
  (C G1 [.int .i64 ((V.nth r2 0).toInt),.int .i64 ((V.nth (r2.drop 1) 0).toInt),.list aa ((V.nth ((r2.drop 1).drop 1) 0).toList),.int .i64 letters]).bind fun r3=>
  (Loop (w5 C 0 0 ([]:List V) ([]:List V)) ((V.nth r3 0).toInt,(V.nth (r3.drop 1) 0).toInt,(V.nth (r3.drop 2) 0).toList,(V.nth ((r3.drop 2).drop 1) 0).toList,(V.nth (((r3.drop 2).drop 1).drop 1) 0).toList)).bind (cu (un fun (ml:Int)=>un fun (anf:Int)=>un fun (ang:Int)=>un fun (sf:List V) (nf:List V)=>
   some [.int .i64 anf,.int .i64 ang,.int .i64 ml,.list gM sf,.list cZ nf]) (un fun (tE:Bool)=>un fun (anh:Int)=>un fun (ani:Int)=>un fun (CS:List V)=>un fun (CT:List V) (CH:List V)=>
   (C G4 [.int .i64 anh,.int .i64 ani,.list aa CS,.list cZ CT,.list ei CH]).bind fun eu=>
   some [.int .i64 ((V.nth eu 0).toInt),.int .i64 ((V.nth (eu.drop 1) 0).toInt),.int .i64 0,.list gM ((V.nth (((eu.drop 2).drop 2).drop 1) 0).toList),.list cZ ((V.nth ((((eu.drop 2).drop 2).drop 1).drop 1) 0).toList)]))
theorem anj {aj ar:Int} {ai:List V} {letters:Int} {r:Option (List V)} (h:Z0 CC aj ar ai letters=r):CC BO [.int .i64 aj,.int .i64 ar,.list aa ai,.int .i64 letters]=r:=
 aY (key:=9) (L:=ZZ CC) (bs:=[.loop (aw [1,1,1,0,0,0] ZY)]) (by kernel_rfl) (bq (ane CC) ax) (aX (by kernel_rfl) h)
end Go.AM
set_option maxRecDepth 100000
namespace Go.AM
open Go.Proofs Ex
structure Dv.Ok (d:Dv):Prop where
 es: ∀e∈d.es,e.Ok
 el:d.es.length≤maxLen
 nl:d.nx.length≤maxLen
 rl: ∀r∈d.nx,r.length≤maxLen
theorem Ey {α:Type} {f:α→V} {l:List α} {z:α} {i:Nat} (h:i<l.length):idx (l.map f) (i:Int)=some (f (l.getD i z)):=by
 rw[adp rfl,fU,bH h,gW,bH h];rfl
abbrev Jv (s:Dv):Int × Int × List V × List V × List V:=(s.L,s.dn,s.es.map enc,s.nx.map ld,fD s.es)
theorem ank {e:Ex} {L:Int} (h:e.val L=0):Nv (aZ e):=⟨nj e (sm (Ed h)).2.2,Za (Ed h)⟩
structure Fa where
 L:Int
 F:List Bool
 N:List (List Int)
abbrev faE (p:Fa × Int):List V:=[.int .i64 p.1.L,.int .i64 0,.int .i64 p.2,.list gM (p.1.F.map V.bool),.list cZ (p.1.N.map ld)]
def Fa.zero:Fa:=⟨0,[],[]⟩
def Jw (d:Dv):Fa:=⟨d.L,d.es.map Ex.cP,d.nx⟩
theorem anl {es:List Ex} (hn:es.length≤1000) (ho: ∀e∈es,Nv e) {a b c1 c2 c3 c4:Int} {l1 l2 l3 l4:List V}: ∀(aJ pre:List Ex),es=pre++aJ→
  Loop (Ju CC (es.length:Int) a b l1 c1 c2 c3 c4 (es.map enc) l2 l3 l4) (((pre.length:Nat):Int),(pre.map Ex.cP).map V.bool)=some ((es.length:Int),false,(es.map Ex.cP).map V.bool):=by
 intro aJ
 induction aJ with
 | nil=>
  intro pre e
  rw[dy] at e
  subst e
  refine bj ?_
  simp only[Ju,Ev,un]
  rw[az,ah (by omega),cl (by omega)]
 | cons k aJ gN=>
  intro pre e
  have cb:pre.length<es.length:=by rw[e];simp
  have hk:k∈es:=by rw[e];simp
  have cC:(es.map enc)[pre.length]? =some k.enc:=by rw[e];simp
  have hv:=sm (ho k hk).2
  refine (bW ?_).trans (gN (pre++[k]) (by simp[e]))
  simp only[Ju,Ev,un]
  refine bT (ug cb) ((uf cC).trans ?_)
  rw[bz,bA,bB]
  refine bs (aiw (letters:=6) k (wz (by omega) k hv.2.2 (by omega)) hv.2.2) ?_
  refine bT (by rw[ej,oe];simp;omega) ?_
  rw[nt (by omega)]
  simp only[gn,cr,fp,cB,List.length_cons,List.length_nil]
  rfl
theorem anm {s:Dv} (hs:Gs s): ∃l,CC G4 (z9 s)=some l∧(V.nth l 0).toInt=s.L∧(V.nth (l.drop 1) 0).toInt=0∧(V.nth (((l.drop 2).drop 2).drop 1) 0).toList=(s.es.map Ex.cP).map V.bool∧(V.nth ((((l.drop 2).drop 2).drop 1).drop 1) 0).toList=s.nx.map ld:=by
 have hl:=hs.es.le
 refine ⟨[.int .i64 s.L,.int .i64 0,.int .i64 s.L,.int .i64 s.dn,.list ei (fD s.es),.list gM ((s.es.map Ex.cP).map V.bool),.list cZ (s.nx.map ld),.list aa (s.es.map enc)],anb ?_,?_⟩
 ·unfold ZX
  rw[bt]
  refine bs (anl (by omega) hs.es.nv s.es [] rfl) ?_
  simp only[un]
 ·exact ⟨rfl,rfl,rfl,rfl⟩
def Ab (e:Ex) (L:Int):Fa × Int:=if e.val L=0 then (match pG 513 (pH e L) with|some t=>(Jw t,0)|none=>(.zero,3)) else (.zero,e.val L)
theorem Z1 {a b:Int} {l1 l2:List V}: ∀(n:Nat) (s:Dv),Gs s→513≤s.dn+n→
  (∀t,pG n s=some t→Loop (w5 CC a b l1 l2) (Jv s)=some (.inr (false,t.L,t.dn,t.es.map enc,t.nx.map ld,fD t.es)))∧(pG n s=none→Loop (w5 CC a b l1 l2) (Jv s)=some (.inl (3,0,0,[],[])))
 | 0,s,hs,hn=>by have:=hs.dn;have:=hs.es.le;omega
 | n+1,s,hs,hn=>by
  rw[pG]
  have Zd:=hs.dn
  by_cases hd:s.dn<s.es.length
  ·rw[ag hd]
   obtain ⟨p1,p2⟩:=am8 hs hd
   have hf:(!(s.dn==(s.es.length:Int)))=true:=by rw[lQ,Ai];omega
   cases hp:proc s with
   | none=>
    obtain ⟨l,hl⟩:=p2 hp
    refine ⟨fun t ht=>(by cases ht),fun _=>bj ?_⟩
    simp only[w5,Aa,un]
    refine bs (PV s) (bT hf ?_)
    refine bs hl ?_
    rfl
   | some u=>
    obtain ⟨g,_,g2,_⟩:=Zc hs hd hp
    obtain ⟨i1,i2⟩:=Z1 (a:=a) (b:=b) (l1:=l1) (l2:=l2) n u g (by omega)
    have e7:w5 CC a b l1 l2 (Jv s)=some (.inl (Jv u)):=by
     simp only[w5,Aa,un]
     refine bs (PV s) (bT hf ?_)
     refine bs (p1 u hp) ?_
     rfl
    exact ⟨fun t ht=>(bW e7).trans (i1 t ht),fun ht=>(bW e7).trans (i2 ht)⟩
  ·rw[ah hd]
   refine ⟨fun t ht=> ?_,fun ht=>(by cases ht)⟩
   cases ht
   refine bj ?_
   have hf:(!(s.dn==(s.es.length:Int)))=false:=by rw[Bool.not_eq_false',beq_iff_eq];omega
   simp only[w5,Aa,un]
   refine bs (PV s) (bF hf ?_)
   exact congrArg (fun b=>some (Sum.inr (Sum.inr (b,s.L,s.dn,s.es.map enc,s.nx.map ld,fD s.es)))) hf
theorem Z2 {e:Ex} (h:e.Ok) (L:Int):CC BO (b9 e [.int .i64 L])=some (faE (Ab e L)):=by
 refine anj ?_
 unfold Z0 Ab
 refine bs (NV e h L) ?_
 by_cases hv:e.val L=0
 ·rw[ag hv]
  refine bF (by rw[V.aC,V.toInt_int,hv];rfl) ?_
  have hN:=alK e h
  rw[ag (Ed hv)] at hN
  refine bs hN (bs (am6 (L:=L) (ank hv)) ?_)
  obtain ⟨l1,l2⟩:=Z1 (a:=0) (b:=0) (l1:=[]) (l2:=[]) 513 (pH e L) (Jg hv) (by show 513≤(0:Int)+_;omega)
  cases hp:pG 513 (pH e L) with
  | none=>exact bs (l2 hp) rfl
  | some t=>
   refine bs (l1 t hp) ?_
   obtain ⟨l,a1,a2,a3,a4,a5⟩:=anm (Ee 513 _ _ (Jg hv) hp).1
   refine bs a1 ?_
   rw[a2,a3,a4,a5]
   rfl
 ·rw[ah hv]
  refine bT ?_ rfl
  rw[V.aC,V.toInt_int,bne_iff_ne];exact hv
end Go.AM
set_option maxRecDepth 100000
namespace Go.AM
open Go.Proofs
noncomputable def Z3 (C:ae):Option (List V):=
 some [.int .i64 7,.int .i64 0,.list aa ([.agg [.int .i64 5,.int .i64 0,.list aa ([.agg [.int .i64 3,.int .i64 0,.list aa ([]:List V)],.agg [.int .i64 3,.int .i64 1,.list aa ([]:List V)]]:List V)]]:List V)]
theorem ano {r:Option (List V)} (h:Z3 CC=r):CC G0 []=r:=
 aY (key:=19) (L:=b6) (bs:=[]) (by kernel_rfl) ax (aX (by kernel_rfl) h)
noncomputable def Z4 (C:ae):Option (List V):=
 (C G0 []).bind fun r1=>
 (C BO [.int .i64 ((V.nth r1 0).toInt),.int .i64 ((V.nth (r1.drop 1) 0).toInt),.list aa ((V.nth (r1.drop 2) 0).toList),.int .i64 2]).bind fun r2=>
 bif (((V.nth (r2.drop 2) 0).toInt):Int)==0 then
  bif ((((V.nth (r2.drop 3) 0).toList).length:Int):Int)==3 then
  bif decide (0<(((V.nth (r2.drop 3) 0).toList).length:Int)) then
   (((V.nth (r2.drop 3) 0).toList)[0]?).bind fun x3=>
   bif x3.toBool then
   bif decide (1<(((V.nth (r2.drop 3) 0).toList).length:Int)) then
    (((V.nth (r2.drop 3) 0).toList)[1]?).bind fun x4=>
    some [.bool (!x4.toBool)]
   else none
   else
   some [.bool false]
  else none
  else
  some [.bool false]
 else
  some [.bool false]
theorem anp {r:Option (List V)} (h:Z4 CC=r):CC qf []=r:=
 aY (key:=8) (L:=b6) (bs:=[]) (by kernel_rfl) ax (aX (by kernel_rfl) h)
end Go.AM
set_option maxRecDepth 100000
namespace Go.AM
open Go.Proofs Ex
def Ac:Ex:= .node 7 0 [.node 5 0 [.node 3 0 [],.node 3 1 []]]
theorem anq:Ac.Ok:=by
 refine .node (by omega) (by omega) (by unfold maxLen;simp) fun k hk=> ?_
 rw[ew.1 hk]
 refine .node (by omega) (by omega) (by unfold maxLen;simp) fun k hk=> ?_
 rcases dx.1 hk with rfl|hk
 ·exact .node (by omega) (by omega) (by simp) (by simp)
 ·rw[ew.1 hk]
  exact .node (by omega) (by omega) (by simp) (by simp)
theorem anr:(Ab Ac 2).2=0∧(Ab Ac 2).1.F=[true,false,false]:=by decide+kernel
theorem w6:CC qf []=some [.bool true]:=by
 refine anp ?_
 unfold Z4
 have fu:CC G0 []=some (iQ Ac):=by
  refine ano ?_
  unfold Z3 Ac
  simp only[iQ,Ex.op,Ex.letter,Ex.kids,cr,fp,eY]
 refine bs fu ?_
 refine bs (Z2 anq 2) ?_
 obtain ⟨h1,U⟩:=anr
 generalize Ab Ac 2=p at h1 U
 obtain ⟨⟨L,F,N⟩,f⟩:=p
 simp only at h1 U
 subst h1 U
 rfl
def fE:List Lg→Lg
 | []=>fun w=>w=[]
 | L::Ls=>L2 L (fE Ls)
theorem Z5 {A B C:Lg}:L2 (L2 A B) C=L2 A (L2 B C):=by
 funext w
 refine propext ⟨?_,?_⟩
 ·rintro ⟨_,z,rfl,⟨u,v,rfl,h1,U⟩,h3⟩
  exact ⟨u,v++z,cw _ _ _,h1,v,z,rfl,U,h3⟩
 ·rintro ⟨u,_,rfl,h1,v,z,rfl,U,h3⟩
  exact ⟨u++v,z,(cw _ _ _).symm,⟨u,v,rfl,h1,U⟩,h3⟩
theorem Ez {A:Lg}:L2 A (fun w=>w=[])=A:=by
 funext w
 refine propext ⟨?_,fun h=>⟨w,[],by simp,h,rfl⟩⟩
 rintro ⟨u,v,rfl,h1,rfl⟩
 rwa [dy]
theorem Z6 {A:Lg}:L2 (fun w=>w=[]) A=A:=by
 funext w
 refine propext ⟨?_,fun h=>⟨[],w,rfl,rfl,h⟩⟩
 rintro ⟨u,v,rfl,rfl,h1⟩
 exact h1
theorem Z7: ∀(Ls:List Lg) (A:Lg),Ls.foldl L2 A=L2 A (fE Ls)
 | [],A=>Ez.symm
 | L::Ls,A=>by
  rw[List.foldl_cons,Z7 Ls,Z5];rfl
theorem ans: ∀Ls:List Lg,tF Ls=fE Ls
 | []=>rfl
 | L::Ls=>Z7 Ls L
theorem Z8: ∀(A B:List Lg),fE (A++B)=L2 (fE A) (fE B)
 | [],B=>Z6.symm
 | L::A,B=>by
  show L2 L (fE (A++B))=L2 (L2 L (fE A)) (fE B)
  rw[Z8 A B,Z5]
theorem ant {A:List Lg} (h:(fun _=>False)∈A):fE A=fun _=>False:=by
 induction A with
 | nil=>cases h
 | cons L A ih=>
  funext w
  refine propext ⟨?_,False.elim⟩
  rintro ⟨u,v,rfl,h1,U⟩
  rcases dx.1 h with rfl|h
  ·exact h1
  ·rw[ih h] at U;exact U
section
variable {n:Int}
theorem oH {e:Ex} (h:e.op=1):e.aL=fun _=>False:=by
 obtain ⟨o,l,ks⟩:=e
 rw[kU]
 have:o=1:=h
 subst this
 funext w;simp[dv]
theorem Ad {e:Ex} (h:e.op=2):e.aL=fun w=>w=[]:=by
 obtain ⟨o,l,ks⟩:=e
 rw[kU]
 have:o=2:=h
 subst this
 funext w;simp[dv]
theorem EA:gR.aL=fun _=>True:=by
 unfold gR
 rw[kU]
 funext w
 simp[dv,pq,oH (e:=ec) rfl]
theorem w7 {l:Int} {ks:List Ex} {w:List UInt8}:(Ex.node 4 l ks).aL w↔∃k∈ks,k.aL w:=by
 rw[kU]
 show (∃L∈ks.map aL,L w)↔_
 constructor
 ·rintro ⟨L,hL,hw⟩
  obtain ⟨k,hk,rfl⟩:=ey.1 hL
  exact ⟨k,hk,hw⟩
 ·rintro ⟨k,hk,hw⟩
  exact ⟨_,ey.2 ⟨k,hk,rfl⟩,hw⟩
theorem Ae {l:Int} {ks:List Ex} {w:List UInt8}:(Ex.node 6 l ks).aL w↔∀k∈ks,k.aL w:=by
 rw[kU];simp[dv]
theorem Af {l:Int} {ks:List Ex}:(Ex.node 5 l ks).aL=fE (ks.map Ex.aL):=by
 rw[kU,←ans]
 funext w;simp[dv]
theorem EB {l:Int} {k:Ex}:(Ex.node 7 l [k]).aL=dH k.aL:=by
 rw[kU]
 funext w;simp[dv,pq]
theorem EC {l:Int} {k:Ex}:(Ex.node 8 l [k]).aL=fun w=> ¬k.aL w:=by
 rw[kU]
 funext w;simp[dv,pq]
theorem w8 {e:Ex} {o:Int} (h:e.op=o):e= .node o e.letter e.kids:=by
 obtain ⟨o',l,ks⟩:=e
 have:o'=o:=h
 subst this
 rfl
theorem anu {ks:List Ex} {w:List UInt8}:(∃x∈bG 4 ks,x.aL w)↔∃k∈ks,k.aL w:=by
 constructor
 ·rintro ⟨x,hx,hw⟩
  obtain ⟨k,hk,⟨h1,U⟩|⟨h1,rfl⟩⟩:=jK.1 hx
  ·exact ⟨k,hk,by rw[w8 h1,w7];exact ⟨x,U,hw⟩⟩
  ·exact ⟨x,hk,hw⟩
 ·rintro ⟨k,hk,hw⟩
  by_cases h:k.op=4
  ·rw[w8 h,w7] at hw
   obtain ⟨x,hx,hw⟩:=hw
   exact ⟨x,jK.2 ⟨k,hk,.inl ⟨h,hx⟩⟩,hw⟩
  ·exact ⟨k,jK.2 ⟨k,hk,.inr ⟨h,rfl⟩⟩,hw⟩
theorem anv {ks:List Ex} {w:List UInt8}:(∀x∈bG 6 ks,x.aL w)↔∀k∈ks,k.aL w:=by
 constructor
 ·intro h k hk
  by_cases ho:k.op=6
  ·rw[w8 ho,Ae]
   exact fun x hx=>h x (jK.2 ⟨k,hk,.inl ⟨ho,hx⟩⟩)
  ·exact h k (jK.2 ⟨k,hk,.inr ⟨ho,rfl⟩⟩)
 ·intro h x hx
  obtain ⟨k,hk,⟨h1,U⟩|⟨h1,rfl⟩⟩:=jK.1 hx
  ·have:=h k hk
   rw[w8 h1,Ae] at this
   exact this x U
  ·exact h x hk
theorem Z9: ∀ks:List Ex,fE ((bG 5 ks).map Ex.aL)=fE (ks.map Ex.aL)
 | []=>rfl
 | k::ks=>by
  have ih:=Z9 ks
  unfold bG at*
  rw[mE,gn,Z8,ih,cr]
  show _=L2 k.aL (fE (ks.map Ex.aL))
  by_cases h:k.op=5
  ·rw[ag h]
   have:k.aL=fE (k.kids.map Ex.aL):=by
    have:=congrArg Ex.aL (w8 h)
    rw[this,Af]
   rw[this]
  ·rw[ah h]
   show L2 (L2 k.aL fun w=>w=[]) _=_
   rw[Ez]
theorem aaa: ∀ks:List Ex,fE ((ks.filter fun k=>decide (k.op≠2)).map Ex.aL)=fE (ks.map Ex.aL)
 | []=>rfl
 | k::ks=>by
  have ih:=aaa ks
  by_cases h:k.op=2
  ·rw[List.filter_cons_of_neg (by simp[h]),ih]
   show _=L2 k.aL (fE (ks.map Ex.aL))
   rw[Ad h,Z6]
  ·rw[List.filter_cons_of_pos (by simp[h]),cr,cr]
   show L2 k.aL _=L2 k.aL _
   rw[ih]
theorem anw {R:List Ex} {w:List UInt8}:(fC 4 R ec).aL w↔∃k∈R,k.aL w:=by
 match R with
 | []=>simp[fC,oH (e:=ec) rfl]
 | [k]=>simp[fC]
 | k::k2::R=>exact w7
theorem anx {R:List Ex} {w:List UInt8}:(fC 6 R gR).aL w↔∀k∈R,k.aL w:=by
 match R with
 | []=>simp[fC,EA]
 | [k]=>simp[fC]
 | k::k2::R=>exact Ae
theorem anz {R:List Ex}:(fC 5 R jv).aL=fE (R.map Ex.aL):=by
 match R with
 | []=>exact Ad rfl
 | [k]=>exact Ez.symm
 | k::k2::R=>exact Af
theorem anA {A:Lg}:dH (dH A)=dH A:=by
 funext w
 refine propext ⟨fun h=> ?_,.one⟩
 induction h with
 | nil=>exact .nil
 | cons a _ ih=>exact a.append ih
theorem anB {A:Lg} (h: ∀w,A w→w=[]):dH A=fun w=>w=[]:=by
 funext w
 refine propext ⟨fun hs=> ?_,fun e=>e▸ .nil⟩
 induction hs with
 | nil=>rfl
 | cons a _ ih=>rw[h _ a,ih];rfl
theorem anC {o l:Int} {ks:List Ex} (hk: ∀k∈ks,Gd n k) (hs:dz o l ks.length n=true):(dI o l ks).aL=(Ex.node o l ks).aL:=by
 rcases eE hs with ⟨rfl,_⟩|⟨_,⟨rfl,_⟩|⟨rfl,_⟩|⟨rfl,_⟩|⟨rfl,_⟩|⟨rfl,_⟩|⟨rfl,hlen⟩|⟨rfl,hlen⟩⟩
 ·rw[kf (by simp)]
 ·rw[kf (by simp)]
 ·rw[kf (by simp)]
 ·funext w
  refine propext ?_
  rw[wv,w7,←anu]
  by_cases h:(bG 4 ks).any univ=true
  ·rw[ag h]
   obtain ⟨x,hx,hu⟩:=kp.1 h
   have:=Iq (Dp hk 4 x hx) hu
   subst this
   rw[EA]
   exact ⟨fun _=>⟨gR,hx,by rw[EA];trivial⟩,fun _=>trivial⟩
  ·rw[ah h,anw]
   constructor
   ·rintro ⟨x,hx,hw⟩
    exact ⟨x,(kq.1 (qH.1 hx)).1,hw⟩
   ·rintro ⟨x,hx,hw⟩
    refine ⟨x,qH.2 (kq.2 ⟨hx,?_⟩),hw⟩
    rw[dX]
    intro h1
    rw[oH h1] at hw
    exact hw
 ·rw[tV,Af,←Z9]
  by_cases h:(bG 5 ks).any (fun k=>decide (k.op=1))=true
  ·rw[ag h,oH rfl]
   obtain ⟨x,hx,hu⟩:=kp.1 h
   rw[ant (ey.2 ⟨x,hx,oH (iw hu)⟩)]
  ·rw[ah h,anz,aaa]
 ·funext w
  refine propext ?_
  rw[zq,Ae,←anv]
  by_cases h:(bG 6 ks).any (fun k=>decide (k.op=1))=true
  ·rw[ag h,oH rfl]
   obtain ⟨x,hx,hu⟩:=kp.1 h
   refine ⟨False.elim,fun jl=> ?_⟩
   have:=jl x hx
   rw[oH (iw hu)] at this
   exact this
  ·rw[ah h,anx]
   constructor
   ·intro jl x hx
    by_cases hu:univ x=true
    ·rw[Iq (Dp hk 6 x hx) hu,EA];trivial
    ·exact jl x (qH.2 (kq.2 ⟨hx,by simp[hu]⟩))
   ·intro jl x hx
    exact jl x (kq.1 (qH.1 hx)).1
 ·obtain ⟨k,rfl⟩: ∃k,ks=[k]:=oP.1 (by omega)
  have hg:=hk k (by simp)
  rw[zr,EB]
  by_cases h:k.op=1∨k.op=2
  ·rw[ag h,Ad rfl]
   refine (anB fun w hw=> ?_).symm
   rcases h with h|h
   ·rw[oH h] at hw;exact hw.elim
   ·rw[Ad h] at hw;exact hw
  ·rw[ah h]
   by_cases h7:k.op=7∨univ k=true
   ·rw[ag h7]
    rcases h7 with h7|h7
    ·have tC:=hg.shape
     rw[h7] at tC
     have hl:k.kids.length=1:=by
      rcases eE tC with h|⟨_,h|h|h|h|h|h|h⟩<;>omega
     obtain ⟨z,hz⟩:=oP.1 hl
     have:=congrArg Ex.aL (w8 h7)
     rw[this,hz,EB,anA]
    ·rw[Iq hg h7,EA]
     funext w
     exact propext ⟨fun _=> .one trivial,fun _=>trivial⟩
   ·rw[ah h7,EB]
 ·obtain ⟨k,rfl⟩: ∃k,ks=[k]:=oP.1 (by omega)
  have hg:=hk k (by simp)
  rw[zt,EC]
  by_cases h:k.op=8
  ·rw[ag h]
   have tC:=hg.shape
   rw[h] at tC
   have hl:k.kids.length=1:=by
    rcases eE tC with h|⟨_,h|h|h|h|h|h|h⟩<;>omega
   obtain ⟨z,hz⟩:=oP.1 hl
   have:=congrArg Ex.aL (w8 h)
   rw[this,hz,EC]
   funext w
   exact propext ⟨fun h1 U=>U h1,fun h1=>ER.1 h1⟩
  ·rw[ah h,EC]
theorem anD {o l:Int} {A B:List Ex} (h:A.map Ex.aL=B.map Ex.aL):(Ex.node o l A).aL=(Ex.node o l B).aL:=by rw[kU,kU,h]
theorem aab: ∀e:Ex,e.wf n=true→(aZ e).aL=e.aL:=ind fun o l ks ih hw=>by
 obtain ⟨h1,U⟩:=gg hw
 rw[mz,anC (n:=n) (fun k hk=>by
  obtain ⟨x,hx,rfl⟩:=ey.1 hk
  exact nj x (U x hx)) (by rw[bt];exact h1)]
 refine anD ?_
 rw[List.map_map]
 exact nA fun k hk=>ih k hk (U k hk)
end
theorem anE {A B:Lg}:L2 A B []↔A []∧B []:=by
 constructor
 ·rintro ⟨u,v,h,ha,hb⟩
  have h:=h.symm
  rw[List.append_eq_nil_iff] at h
  obtain ⟨rfl,rfl⟩:=h
  exact ⟨ha,hb⟩
 ·rintro ⟨ha,hb⟩;exact ⟨[],[],rfl,ha,hb⟩
theorem aac: ∀(Ls:List Lg) (A:Lg),Ls.foldl L2 A []↔A []∧∀L∈Ls,L []
 | [],A=>by simp
 | L::Ls,A=>by rw[List.foldl_cons,aac Ls,anE];simp[and_assoc]
theorem aad: ∀e:Ex,e.wf 6=true→(e.cP=true↔e.aL []):=ind fun o l ks ih rY=>by
 obtain ⟨hs,Ov⟩:=gg rY
 have hk: ∀k∈ks,(k.cP=true↔k.aL []):=fun k hk=>ih k hk (Ov k hk)
 rw[kU]
 unfold dz at hs
 simp only[cP]
 have anF:lJ ks=true↔∃L∈ks.map aL,L []:=by
  rw[Ie,kp]
  constructor
  ·rintro ⟨k,h1,U⟩;exact ⟨_,List.mem_map_of_mem h1,(hk k h1).1 U⟩
  ·rintro ⟨L,h1,U⟩
   obtain ⟨k,h3,rfl⟩:=ey.1 h1
   exact ⟨k,h3,(hk k h3).2 U⟩
 have jl:ot ks=true↔∀L∈ks.map aL,L []:=by
  rw[Ig,lQ,←Bool.not_eq_true,kp]
  constructor
  ·intro h L hL
   obtain ⟨k,h3,rfl⟩:=ey.1 hL
   refine (hk k h3).1 ?_
   cases hc:k.cP
   ·exact absurd ⟨k,h3,by simp[hc]⟩ h
   ·rfl
  ·rintro h ⟨k,h1,U⟩
   have:=(hk k h1).2 (h _ (List.mem_map_of_mem h1))
   rw[this] at U;cases U
 by_cases h3:o=3
 ·subst h3;simp[dv]
 rw[ah h3] at hs
 simp only[aO] at hs
 obtain ⟨_,hs⟩:=hs
 by_cases h1:o=1
 ·subst h1;simp[dv]
 by_cases U:o=2
 ·subst U;simp[dv]
 rw[ah (by omega)] at hs
 by_cases wk:o=7∨o=8
 ·rw[ag wk] at hs
  have hs:=iw hs
  obtain ⟨k,rfl⟩: ∃k,ks=[k]:=by
   match ks,hs with
   | [k],_=>exact ⟨k,rfl⟩
   | [],h=>simp at h
   | _::_::_,h=>simp at h;omega
  rcases wk with rfl|rfl
  ·have:dH (pq ([k].map aL)) []:= .nil
   simp only[dv,cU]
   simpa using this
  ·have:=hk k (by simp)
   simp only[dv,pq,lJ,cr,fp,Bool.or_false]
   simp[←this]
 ·rw[ah wk] at hs
  obtain ⟨h4,h6,hn⟩:=iw hs
  have Ox:o=4∨o=5∨o=6:=by omega
  rcases Ox with rfl|rfl|rfl
  ·simp only[dv];simpa using anF
  ·have:tF (ks.map aL) []↔∀L∈ks.map aL,L []:=by
    match ks with
    | []=>simp[tF]
    | k::ks=>simp only[cr,tF];rw[aac];simp
   simp only[dv];simpa[this] using jl
  ·simp only[dv];simpa using jl
theorem anG {l:List Ex} (h:l≠[]) {w:List UInt8}:(oneOf 4 l).aL w↔∃k∈l,k.aL w:=by
 match l,h with
 | [k],_=>simp[oneOf]
 | k::k2::l,_=>exact w7
theorem anH {l:List Ex} (h:l≠[]):(oneOf 5 l).aL=fE (l.map Ex.aL):=by
 match l,h with
 | [k],_=>exact Ez.symm
 | k::k2::l,_=>exact Af
theorem aae {b:UInt8} {w:List UInt8}: ∀{ks:List Ex},(∀k∈ks,k.wf 6=true)→(∀k∈ks,∀w,(b7 ((b.toNat:Int)-97) k).aL w↔k.aL (b::w))→((∃x∈iu ((b.toNat:Int)-97) ks,x.aL w)↔fE (ks.map Ex.aL) (b::w))
 | [],_,_=>by simp[iu,fE]
 | k::ks,hw,ih=>by
  have anI:=aae (b:=b) (w:=w) (ks:=ks) (fun x hx=>hw x (by simp[hx])) fun x hx=>ih x (by simp[hx])
  have hn:=aad k (hw k (by simp))
  have hb:=ih k (by simp)
  have hl:(oneOf 5 (b7 ((b.toNat:Int)-97) k::ks)).aL w↔∃u v,w=u++v∧k.aL (b::u)∧fE (ks.map Ex.aL) v:=by
   rw[anH (by simp)]
   constructor
   ·rintro ⟨u,v,rfl,h1,U⟩;exact ⟨u,v,rfl,(hb u).1 h1,U⟩
   ·rintro ⟨u,v,rfl,h1,U⟩;exact ⟨u,v,rfl,(hb u).2 h1,U⟩
  have hr:fE ((k::ks).map Ex.aL) (b::w)↔(∃u v,w=u++v∧k.aL (b::u)∧fE (ks.map Ex.aL) v)∨(k.aL []∧fE (ks.map Ex.aL) (b::w)):=by
   constructor
   ·rintro ⟨u,v,h,h1,U⟩
    cases u with
    | nil=>
     have e:b::w=v:=h
     rw[←e] at U
     exact .inr ⟨h1,U⟩
    | cons c u=>
     obtain ⟨rfl,rfl⟩:=fF (show b::w=c::(u++v) from h)
     exact .inl ⟨u,v,rfl,h1,U⟩
   ·rintro (⟨u,v,rfl,h1,U⟩|⟨h1,U⟩)
    ·exact ⟨b::u,v,rfl,h1,U⟩
    ·exact ⟨[],b::w,rfl,h1,U⟩
  rw[hr,←anI,←hn,←hl,D5]
  by_cases hk:k.cP=true
  ·rw[ag hk]
   simp[hk]
  ·rw[ah hk]
   simp[hk]
theorem anJ {b:UInt8}: ∀e:Ex,e.wf 6=true→∀w,(b7 ((b.toNat:Int)-97) e).aL w↔e.aL (b::w):=ind fun o l ks ih hw w=>by
 obtain ⟨h1,U⟩:=gg hw
 have hk: ∀k∈ks,∀w,(b7 ((b.toNat:Int)-97) k).aL w↔k.aL (b::w):=fun k hk=>ih k hk (U k hk)
 rw[wY]
 rcases eE h1 with ⟨rfl,h⟩|⟨rfl,⟨rfl,h⟩|⟨rfl,h⟩|⟨rfl,h⟩|⟨rfl,h⟩|⟨rfl,h⟩|⟨rfl,h⟩|⟨rfl,h⟩⟩
 ·rw[ag rfl,kU]
  have Gw:dv 3 l (ks.map aL) (b::w)↔w=[]∧(b.toNat:Int)-97=l:=by
   simp only[dv]
   simp only[show¬((3:Int)=2) by omega,fS,cU]
   constructor
   ·rintro ⟨c,h,h3⟩
    obtain ⟨rfl,rfl⟩:=fF h
    exact ⟨rfl,h3⟩
   ·rintro ⟨rfl,h⟩;exact ⟨b,rfl,h⟩
  rw[Gw]
  by_cases hl:l=(b.toNat:Int)-97
  ·rw[ag hl,Ad rfl];simp[hl]
  ·rw[ah hl,oH rfl]
   exact ⟨False.elim,fun h=>hl h.2.symm⟩
 ·rw[ah (by omega),ah (by omega),ah (by omega),ah (by omega),oH rfl,oH (e:= .node 1 0 ks) rfl]
 ·rw[ah (by omega),ah (by omega),ah (by omega),ah (by omega),oH rfl,Ad (e:= .node 2 0 ks) rfl]
  simp
 ·rw[ah (by omega),ag (by omega),w7,w7]
  constructor
  ·rintro ⟨x,hx,hl⟩
   obtain ⟨k,fy,rfl⟩:=ey.1 hx
   exact ⟨k,fy,(hk k fy w).1 hl⟩
  ·rintro ⟨k,fy,hl⟩
   exact ⟨_,ey.2 ⟨k,fy,rfl⟩,(hk k fy w).2 hl⟩
 ·have bD:ks≠[]:=by rintro rfl;simp at h
  rw[ah (by omega),ah (by omega),ah (by omega),ag rfl,anG (Pn bD),Af]
  exact aae U hk
 ·rw[ah (by omega),ag (by omega),Ae,Ae]
  constructor
  ·intro hl k fy
   exact (hk k fy w).1 (hl _ (ey.2 ⟨k,fy,rfl⟩))
  ·intro hl x hx
   obtain ⟨k,fy,rfl⟩:=ey.1 hx
   exact (hk k fy w).2 (hl k fy)
 ·obtain ⟨k,rfl⟩:=oP.1 (show ks.length=1 by omega)
  rw[ah (by omega),ah (by omega),ag rfl,Af,EB]
  show L2 (b7 _ k).aL (L2 (Ex.node 7 0 [k]).aL fun w=>w=[]) w↔_
  rw[Ez,EB]
  constructor
  ·rintro ⟨u,v,rfl,h3,h4⟩
   exact .cons ((hk k (by simp) u).1 h3) h4
  ·intro hs
   rcases hs.first with h|⟨u,v,hu,h,h3,h4⟩
   ·cases h
   ·cases u with
    | nil=>exact absurd rfl hu
    | cons c u=>
     obtain ⟨rfl,rfl⟩:=fF (show b::w=c::(u++v) from h)
     exact ⟨u,v,rfl,(hk k (by simp) u).2 h3,h4⟩
 ·obtain ⟨k,rfl⟩:=oP.1 (show ks.length=1 by omega)
  rw[ah (by omega),ag (by omega)]
  show (Ex.node 8 0 [b7 _ k]).aL w↔_
  rw[EC,EC]
  show (¬(b7 _ k).aL w)↔¬k.aL (b::w)
  rw[hk k (by simp) w]
theorem anK {e d:Ex} {b:UInt8} (he:Nv e) (hb:97≤b.toNat) (h:qN e (b.toNat-97)=some d):Nv d∧∀v,d.aL v↔e.aL (b::v):=by
 obtain ⟨h1,U⟩:=PA he h
 refine ⟨h1,fun v=> ?_⟩
 have e1:(((b.toNat-97:Nat):Int))=(b.toNat:Int)-97:=by omega
 rw[U,aab _ (uh e he.1.2),e1]
 exact anJ e he.1.2 v
def oI (nx:List (List Int)):List UInt8→Nat→Nat
 | [],q=>q
 | b::w,q=>oI nx w ((nx.getD q []).getD (b.toNat-97) 0).toNat
theorem aaf {s:Dv} (hs:Gs s) (hf:s.dn=s.es.length): ∀(w:List UInt8) (q:Nat),q<s.es.length→(∀b∈w,97≤b.toNat∧b.toNat-97<s.L.toNat)→oI s.nx w q<s.es.length∧∀v,(s.es.getD (oI s.nx w q) bm).aL v↔(s.es.getD q bm).aL (w++v)
 | [],q,hq,_=>⟨hq,fun v=>Iff.rfl⟩
 | b::w,q,hq,hw=>by
  obtain ⟨b1,b2⟩:=hw b (by simp)
  obtain ⟨j,j1,j2,j3⟩:=(hs.row q (by omega)).2 _ b2
  rw[oI,j1,Int.toNat_natCast]
  obtain ⟨h1,U⟩:=anK (hs.es.nv _ (Jf hq)) b1 j3
  obtain ⟨h3,h4⟩:=aaf hs hf w j j2 fun c hc=>hw c (by simp[hc])
  exact ⟨h3,fun v=>(h4 v).trans (U _)⟩
theorem anL {e:Ex} {L:Int} (he:e.val L=0) {t:Dv} {n:Nat} (ht:pG n (pH e L)=some t) (hf:t.dn=t.es.length) {w:List UInt8} (hw: ∀b∈w,97≤b.toNat∧b.toNat-97<L.toNat):oI t.nx w 0<t.es.length∧((t.es.getD (oI t.nx w 0) bm).cP=true↔e.aL w):=by
 obtain ⟨g,g1,⟨r,g2⟩,_⟩:=Ee n _ _ (Jg he) ht
 have hl:0<t.es.length:=Au.2 g.ne
 obtain ⟨h1,U⟩:=aaf g hf w 0 hl (by rw[g1];exact hw)
 refine ⟨h1,?_⟩
 have e0:t.es.getD 0 bm=aZ e:=by rw[g2];rfl
 rw[aad _ (g.es.nv _ (Jf h1)).1.2,U,dy,e0]
 have:=(Ec he).2.2.2
 rw[aab _ this]
end Go.AM
set_option maxRecDepth 100000
namespace Go.AM
open Go.Proofs
noncomputable abbrev Jx:Code:=cg Tryz.prog (au.aP 10)
noncomputable def ED (C:ae) (t26:List V) (t27 t28:Int) (t37:List V) (t38 gT iv:Int) (qQ qR:List V) (t39:Int) {β:Type} (kn:Int→Option β) (kr:((Bool) ⊕ (Int × Bool))→Option β):Option β:=
 bif decide ((t39:Int)<t38) then
  (idx t37 t39).bind fun x2=>
  bif decide ((x2.toInt:Int)<0) then
  kr (.inl false)
  else
  bif decide ((x2.toInt:Int)≥(qQ.length:Int)) then
   kr (.inl false)
  else
   kn (IntKind.wrap .i64 (t39+1))
 else
  kr (.inr (t39,decide ((t39:Int)<t38)))
noncomputable def Jy (C:ae) (t26:List V) (t27 t28:Int) (t37:List V) (t38 gT iv:Int) (qQ qR:List V):(Int)→Option ((Int) ⊕ ((Bool) ⊕ (Int × Bool))):=fun t39=>ED C t26 t27 t28 t37 t38 gT iv qQ qR t39 (fun y=>some (.inl y)) (fun r=>some (.inr r))
noncomputable def EE (C:ae) (t26:List V) (t27 gT iv:Int) (qQ qR:List V) (t28:Int) {β:Type} (kn:Int→Option β) (kr:((Bool) ⊕ (Int × Bool))→Option β):Option β:=
 bif decide ((t28:Int)<t27) then
  (idx t26 t28).bind fun x1=>
  bif ((x1.toList.length:Int):Int) != gT then
  kr (.inl false)
  else
  (Loop (Jy C t26 t27 t28 x1.toList (x1.toList.length:Int) gT iv qQ qR) 0).bind (cu (fun (jI:Bool)=>
   kr (.inl jI)) (un fun (mn:Int) (ik:Bool)=>
   kn (IntKind.wrap .i64 (t28+1))))
 else
  kr (.inr (t28,decide ((t28:Int)<t27)))
noncomputable def Jz (C:ae) (t26:List V) (t27 gT iv:Int) (qQ qR:List V):(Int)→Option ((Int) ⊕ ((Bool) ⊕ (Int × Bool))):=fun t28=>EE C t26 t27 gT iv qQ qR t28 (fun y=>some (.inl y)) (fun r=>some (.inr r))
noncomputable def aag (C:ae):bZ:=fun β n ds k=>
 bif Nat.beq n 145 then bK Mk [false,false,false,false,false,true,false,false,false,false] [[0],[1,2,3,4,5,0,0,7,8,9,10]] (@ED C) ds k else
 bif Nat.beq n 65 then bK Ml [false,false,true,false,false,false,false] [[0],[1,2,0,0,4,5,6,7]] (@EE C) ds k else
 none
abbrev aah (C:ae) (b:bX):Prop:=bY Tryz.prog au C (aag C) 10 (cj Tryz.prog (au.aP 10)) (au.sin 10).ba.length b
theorem anM (C:ae):aah C (.loop (aw [1,1,0,1,0,0,1,1,0,0,1,1,1,0,0] Jx)):=
 bN Mk [false,false,false,false,false,true,false,false,false,false] [[0],[1,2,3,4,5,0,0,7,8,9,10]] (@ED C) (by kernel_rfl) (a8 (bs:=[]) (by kernel_rfl) ax) (fun ds=>by kernel_rfl) (fun i x=>by kernel_rfl) (fun i x β k=>by kernel_rfl) (fun β ds k=>by kernel_rfl)
theorem anN (C:ae):aah C (.loop (aw [1,1,0,1,0,0] Jx)):=
 bN Ml [false,false,true,false,false,false,false] [[0],[1,2,0,0,4,5,6,7]] (@EE C) (by kernel_rfl) (a8 (bs:=[.loop (aw [1,1,0,1,0,0,1,1,0,0,1,1,1,0,0] Jx)]) (by kernel_rfl) (bq (anM C) ax)) (fun ds=>by kernel_rfl) (fun i x=>by kernel_rfl) (fun i x β k=>by kernel_rfl) (fun β ds k=>by kernel_rfl)
noncomputable def aai (C:ae) (df c9:Int) (jN lb:List V):Option (List V):=
 bif (c9:Int) != 0 then
  some [.bool false]
 else
  bif ((jN.length:Int):Int)==0 then
  some [.bool false]
  else
  bif ((lb.length:Int):Int) != (jN.length:Int) then
   some [.bool false]
  else
   (Loop (Jz C lb (lb.length:Int) df c9 jN lb) 0).bind (cu (fun (ml:Bool)=>
    some [.bool ml]) (un fun (nc:Int) (yY:Bool)=>
    some [.bool true]))
theorem anO {df c9:Int} {jN lb:List V} {r:Option (List V)} (h:aai CC df c9 jN lb=r):CC GW [.int .i64 df,.int .i64 c9,.list gM jN,.list cZ lb]=r:=
 aY (key:=10) (L:=aag CC) (bs:=[.loop (aw [1,1,0,1,0,0] Jx)]) (by kernel_rfl) (bq (anN CC) ax) (aX (by kernel_rfl) h)
noncomputable abbrev aaj:Code:=cg Tryz.prog (au.aP 11)
noncomputable def EF (C:ae) (w:List UInt8) (gT iv:Int) (qQ qR:List V) (q i:Int) {β:Type} (kn:(Int × Int)→Option β) (kr:(Int × Int × Bool)→Option β):Option β:=
 bif decide ((i:Int)<(w.length:Int)) then
  (idx qR q).bind fun x1=>
  (bif decide (0≤i) then (w[(i:Int).toNat]?).map fun b=>V.int .u8 b.toNat else none).bind fun x2=>
  (idx x1.toList (IntKind.wrap .i64 (IntKind.wrap .u8 (x2.toInt-97)))).bind fun x3=>
  kn (x3.toInt,IntKind.wrap .i64 (i+1))
 else
  kr (q,i,decide ((i:Int)<(w.length:Int)))
noncomputable def JA (C:ae) (w:List UInt8) (gT iv:Int) (qQ qR:List V):(Int × Int)→Option ((Int × Int) ⊕ (Int × Int × Bool)):=un fun q i=>EF C w gT iv qQ qR q i (fun y=>some (.inl y)) (fun r=>some (.inr r))
noncomputable def aak (C:ae):bZ:=fun β n ds k=>
 bif Nat.beq n 49 then bK Mm [false,true,true,false,false,false,false] [[1,0,0,0,4,5,6,7]] (@EF C) ds k else
 none
abbrev anP (C:ae) (b:bX):Prop:=bY Tryz.prog au C (aak C) 11 (cj Tryz.prog (au.aP 11)) (au.sin 11).ba.length b
theorem anQ (C:ae):anP C (.loop (aw [1,1,0,1,0,0] aaj)):=
 bN Mm [false,true,true,false,false,false,false] [[1,0,0,0,4,5,6,7]] (@EF C) (by kernel_rfl) (a8 (bs:=[]) (by kernel_rfl) ax) (fun ds=>by kernel_rfl) (fun i x=>by kernel_rfl) (fun i x β k=>by kernel_rfl) (fun β ds k=>by kernel_rfl)
noncomputable def aal (C:ae) (df c9:Int) (jN lb:List V) (w:List UInt8):Option (List V):=
 (Loop (JA C w df c9 jN lb) (0,0)).bind (un fun (q_4:Int)=>un fun (cW:Int) (ml:Bool)=>
  (idx jN q_4).bind fun x7=>
  some [.bool x7.toBool])
theorem anR {df c9:Int} {jN lb:List V} {w:List UInt8} {r:Option (List V)} (h:aal CC df c9 jN lb w=r):CC GX [.int .i64 df,.int .i64 c9,.list gM jN,.list cZ lb,.str w]=r:=
 aY (key:=11) (L:=aak CC) (bs:=[.loop (aw [1,1,0,1,0,0] aaj)]) (by kernel_rfl) (bq (anQ CC) ax) (aX (by kernel_rfl) h)
end Go.AM
set_option maxRecDepth 100000
namespace Go.AM
open Go.Proofs Ex
abbrev faA (p:Fa) (l:List V):List V:= .int .i64 p.L:: .int .i64 0:: .list gM (p.F.map V.bool):: .list cZ (p.N.map ld)::l
structure Fa.Ok (p:Fa):Prop where
 fl:p.F.length≤1000
 nl:p.N.length≤1000
 rl: ∀r∈p.N,r.length≤1000
theorem aam (r:List Int):((ld r).toList.length:Int)=(r.length:Int):=by
 show (((r.map fun n=>V.int .i64 n).length:Nat):Int)=_
 rw[bt]
theorem anS {s:Dv} (hs:Gs s) (hf:s.dn=s.es.length):CC GW (faA (Jw s) [])=some [.bool true]:=by
 have h1:=hs.es.le
 have U:=hs.nl
 have h4:=hs.L
 have hp:0<s.es.length:=Au.2 hs.ne
 have kJ:s.nx.length=s.es.length:=by omega
 refine anO ?_
 unfold aai Jw
 simp only[bt]
 refine bF rfl (bF (by rw[Ai];omega) (bF (by rw[bne_eq_false_iff_eq,kJ]) ?_))
 have l1: ∀{i:Nat},i<s.nx.length→∀{y1 y2 x1 x2:Int} {k1 k2 k3:List V},k3.length=s.es.length→Loop (Jy CC k1 y1 y2 ((s.nx.getD i []).map fun n=>V.int .i64 n) ((s.nx.getD i []).length:Int) x1 x2 k3 k2) 0=some (.inr (((s.nx.getD i []).length:Int),false)):=fun {i} hi {y1 y2 x1 x2 k1 k2 k3} hk=>by
  obtain ⟨r1,r2⟩:=hs.row i (by omega)
  refine YH (s.nx.getD i []).length (fun i=>(i:Int)) _ (fun j hj=> ?_) ?_
  ·have hy:=Ey (f:=fun n=>V.int .i64 n) (z:=0) hj
   obtain ⟨q,q1,q2,_⟩:=r2 j (by omega)
   rw[q1] at hy
   simp only[Jy,ED]
   refine bT (ug hj) (bs hy (bF (cl (by rw[V.toInt_int];omega)) (bF (cl (by rw[V.toInt_int,hk];omega)) ?_)))
   rw[nt (by omega)]
  ·simp only[Jy,ED]
   rw[az,ah (by omega),cl (by omega)]
 have l2: ∀{x2:Int} {k2 k3:List V},k3.length=s.es.length→Loop (Jz CC (s.nx.map ld) (s.nx.length:Int) s.L x2 k3 k2) 0=some (.inr ((s.nx.length:Int),false)):=fun {x2 k2 k3} hk=>by
  refine YH s.nx.length (fun i=>(i:Int)) _ (fun i hi=> ?_) ?_
  ·have hx:=Ey (f:=ld) (z:=[]) hi
   obtain ⟨r1,r2⟩:=hs.row i (by omega)
   simp only[Jz,EE]
   refine bT (ug hi) (bs hx (bF ?_ ?_))
   ·rw[aam,bne_eq_false_iff_eq];omega
   ·rw[aam]
    refine bs (l1 hi hk) ?_
    simp only[cu,un]
    rw[nt (by omega)]
  ·simp only[Jz,EE]
   rw[az,ah (by omega),cl (by omega)]
 exact bs (l2 (by simp)) rfl
theorem aan {s:Dv} (hs:Gs s) (hf:s.dn=s.es.length): ∀(w:List UInt8) (q:Nat),q<s.es.length→(∀b∈w,97≤b.toNat∧b.toNat-97<s.L.toNat)→oI s.nx w q<s.es.length
 | [],q,hq,_=>hq
 | b::w,q,hq,hw=>by
  obtain ⟨j,j1,j2,j3⟩:=(hs.row q (by omega)).2 _ (hw b (by simp)).2
  rw[oI,j1,Int.toNat_natCast]
  exact aan hs hf w j j2 fun c hc=>hw c (by simp[hc])
theorem aao {w:List UInt8} {L:Int} (h:mq w L): ∀b∈w,97≤b.toNat∧b.toNat-97<L.toNat:=fun b hb=>by
 obtain ⟨i,hi,rfl⟩:=List.getElem_of_mem hb
 have:=h.2.2.2 i hi
 unfold dU at this
 rw[gW,bH hi,Option.getD_some] at this
 omega
theorem anT {s:Dv} (hs:Gs s) (hf:s.dn=s.es.length) {w:List UInt8} (hw:mq w s.L):CC GX (faA (Jw s) [.str w])=some [.bool (s.es.getD (oI s.nx w 0) bm).cP]:=by
 have hwl:=hw.2.2.1
 have hwb:=aao hw
 have hL:=hs.L
 have hp:0<s.es.length:=Au.2 hs.ne
 have U:=hs.nl
 refine anR ?_
 unfold aal
 have loop: ∀{a b:Int} {k:List V} (aJ pre:List UInt8) (q:Nat),w=pre++aJ→q<s.es.length→Loop (JA CC w a b k (s.nx.map ld)) ((q:Int),((pre.length:Nat):Int))=some ((oI s.nx aJ q:Int),(w.length:Int),false):=fun {a b k} aJ=>by
  induction aJ with
  | nil=>
   intro pre q e hq
   rw[dy] at e
   subst e
   refine bj ?_
   simp only[JA,EF,un]
   rw[az,ah (by omega),cl (by omega)]
   rfl
  | cons c aJ ih=>
   intro pre q e hq
   have cb:pre.length<w.length:=by rw[e];simp
   have hc:=hwb c (by rw[e];simp)
   have hg:w.getD pre.length 0=c:=by rw[e,gW];simp
   obtain ⟨r1,r2⟩:=hs.row q (by omega)
   obtain ⟨j,j1,j2,_⟩:=r2 _ hc.2
   have hx:=Ey (f:=ld) (z:=[]) (show q<s.nx.length by omega)
   have hy:=Ey (f:=fun n=>V.int .i64 n) (z:=0) (show c.toNat-97<(s.nx.getD q []).length by omega)
   have kM:=c.toNat_lt
   refine (bW (y:=((j:Int),(((pre++[c]).length:Nat):Int))) ?_).trans ?_
   ·simp only[JA,EF,un]
    refine bT (ug cb) (bs hx (bs (HR cb) ?_))
    rw[V.toInt_int,hg,yl (by omega) (by omega),wrap64 (by omega) (by omega),show (c.toNat:Int)-97=((c.toNat-97:Nat):Int) by omega]
    refine bs hy ?_
    rw[V.toInt_int,j1,nt (by omega),cB]
    rfl
   ·rw[ih (pre++[c]) j (by simp[e]) j2,oI,j1,Int.toNat_natCast]
 have aQ:=aan hs hf w 0 hp hwb
 refine bs (loop w [] 0 rfl hp) ?_
 simp only[un]
 refine bs (Ey (f:=V.bool) (z:=false) (by show _<(s.es.map Ex.cP).length;rw[bt];exact aQ)) ?_
 refine congrArg (fun b=>some [V.bool b]) ?_
 show (s.es.map Ex.cP).getD _ false=_
 rw[gW,fU,bH aQ,gW,bH aQ]
 rfl
end Go.AM
set_option maxRecDepth 100000
namespace Go.AM
open Go.Proofs
noncomputable def aap (C:ae) (aj ar:Int) (ai:List V) (letters:Int) (w:List UInt8):Option (List V):=
 (C GS [.int .i64 aj,.int .i64 ar,.list aa ai,.int .i64 letters]).bind fun r1=>
 bif (((V.nth r1 0).toInt):Int) != 0 then
  (C qf []).bind fun r2=>
  some [.bool ((V.nth r2 0).toBool)]
 else
  (C GU [.int .i64 aj,.int .i64 ar,.list aa ai]).bind fun r3=>
  bif decide ((((V.nth r3 0).toInt):Int)>11) then
  (C qf []).bind fun r4=>
  some [.bool ((V.nth r4 0).toBool)]
  else
  bif decide ((letters:Int)>2) then
   (C qf []).bind fun r5=>
   some [.bool ((V.nth r5 0).toBool)]
  else
   (C GV [.str w,.int .i64 letters]).bind fun r6=>
   bif !((V.nth r6 0).toBool) then
   (C qf []).bind fun r7=>
   some [.bool ((V.nth r7 0).toBool)]
   else
   bif decide (((w.length:Int):Int)>7) then
    (C qf []).bind fun r8=>
    some [.bool ((V.nth r8 0).toBool)]
   else
    (C BO [.int .i64 aj,.int .i64 ar,.list aa ai,.int .i64 letters]).bind fun r9=>
    bif (((V.nth (r9.drop 2) 0).toInt):Int) != 0 then
    bif (((V.nth (r9.drop 2) 0).toInt):Int)==3 then
     (C qf []).bind fun eb=>
     some [.bool ((V.nth eb 0).toBool)]
    else
     some [.bool false]
    else
    (C GW [.int .i64 ((V.nth r9 0).toInt),.int .i64 ((V.nth (r9.drop 1) 0).toInt),.list gM ((V.nth (r9.drop 3) 0).toList),.list cZ ((V.nth ((r9.drop 3).drop 1) 0).toList)]).bind fun eT=>
    bif (V.nth eT 0).toBool then
     (C GX [.int .i64 ((V.nth r9 0).toInt),.int .i64 ((V.nth (r9.drop 1) 0).toInt),.list gM ((V.nth (r9.drop 3) 0).toList),.list cZ ((V.nth ((r9.drop 3).drop 1) 0).toList),.str w]).bind fun eU=>
     (C GY [.int .i64 aj,.int .i64 ar,.list aa ai,.str w]).bind fun gP=>
     bif ((V.nth eU 0).toBool)==((V.nth gP 0).toBool) then
     (C qf []).bind fun lK=>
     some [.bool ((V.nth lK 0).toBool)]
     else
     some [.bool false]
    else
     some [.bool false]
theorem anU {aj ar:Int} {ai:List V} {letters:Int} {w:List UInt8} {r:Option (List V)} (h:aap CC aj ar ai letters w=r):CC L3 [.int .i64 aj,.int .i64 ar,.list aa ai,.int .i64 letters,.str w]=r:=
 aY (key:=3) (L:=b6) (bs:=[]) (by kernel_rfl) ax (aX (by kernel_rfl) h)
end Go.AM
set_option maxRecDepth 100000
namespace Go.AM
open Go.Proofs Ex
theorem anV {w:List UInt8} {L:Int} (h:mq w L):mq w 6:=⟨by omega,by omega,h.2.2.1,fun i hi=>by have:=h.2.2.2 i hi;have:=h.2.1;omega⟩
theorem aat (e:Ex) (h:e.Ok) (L:Int) (w:List UInt8):CC L3 (b9 e [.int .i64 L,.str w])=some [.bool true]:=by
 refine anU ?_
 unfold aap
 refine bs (af3 e h L) ?_
 by_cases hv:e.val L=0
 case neg=>exact bT (by rw[V.aC,V.toInt_int,bne_iff_ne];exact hv) (bs w6 rfl)
 refine bF (by rw[V.aC,V.toInt_int,hv];rfl) (bs (aif e h (Ec hv).2.2.1) ?_)
 rw[V.aC,V.toInt_int,az,az]
 by_cases h1:(e.size:Int)>11
 ·rw[ag h1];exact bs w6 rfl
 rw[ah h1]
 by_cases U:L>2
 ·rw[ag U];exact bs w6 rfl
 rw[ah U]
 refine bs (agk w L) ?_
 by_cases hw:mq w L
 case neg=>exact bT (by rw[V.aC,V.cQ,cl hw];rfl) (bs w6 rfl)
 refine bF (by rw[V.aC,V.cQ,eK hw];rfl) ?_
 rw[az]
 by_cases h7:(w.length:Int)>7
 ·rw[ag h7];exact bs w6 rfl
 rw[ah h7]
 have hB:=Z2 h L
 unfold Ab at hB
 rw[ag hv] at hB
 have g0:=Jg hv
 refine bs hB ?_
 cases hp:pG 513 (pH e L) with
 | none=>exact bT rfl (bT rfl (bs w6 rfl))
 | some t=>
  obtain ⟨g,gL,_⟩:=Ee _ _ _ g0 hp
  have hf:=amh g0 (n:=513) (by show 513≤(0:Int)+_;omega) hp
  have a1:=anT g hf (w:=w) (by rw[gL];exact hw)
  have a2:=(anL hv hp hf (w:=w) (aao hw)).2
  have hm:(t.es.getD (oI t.nx w 0) bm).cP=zm e w:=by
   rw[nB,a2,Ih]
   exact ⟨fun hl=>⟨Ed hv,anV hw,hl⟩,fun hl=>hl.2.2⟩
  refine bF rfl (bs (anS g hf) (bT rfl (bs a1 (bs (aio e h w) (bT ?_ (bs w6 rfl))))))
  rw[V.aC,V.aC,V.cQ,V.cQ,hm]
  exact beq_self_eq_true _
end Go.AM
set_option maxRecDepth 100000
namespace Go.AM
theorem WT.aas {P:Program} {t:TypeId} {x:V} (hu:P.underlying t=some (.int .i64)) (h:WT P t x): ∃n:Int,x= .int .i64 n∧ -9223372036854775808≤n∧n≤9223372036854775807:=by
 obtain ⟨n,rfl,h1,U⟩:=h.dY hu
 have e1:IntKind.min .i64= -9223372036854775808:=by decide
 have e2:IntKind.max .i64=9223372036854775807:=by decide
 rw[e1] at h1
 rw[e2] at U
 exact ⟨n,rfl,h1,U⟩
theorem WT.KX {P:Program} {t:TypeId} {x:V} (hu:P.underlying t=some (.int .u8)) (h:WT P t x): ∃n:Int,x= .int .u8 n∧0≤n∧n≤255:=by
 obtain ⟨n,rfl,h1,U⟩:=h.dY hu
 have e1:IntKind.min .u8=0:=by decide
 have e2:IntKind.max .u8=255:=by decide
 rw[e1] at h1
 rw[e2] at U
 exact ⟨n,rfl,h1,U⟩
end Go.AM
