/-
  Functions of the program, lifted to plain data.
-/
import Derived.Lib.AppendStr
import Derived.Laws.BytesString
import Derived.Lib.Builder
import Derived.Lib.UnsafeStr
import Derived.Laws.Runes
import Derived.Lib.LazyBuf
import Derived.Conc.MuLone
import Derived.Defers
import Derived.Test.YtpigoedhkpjgeaaGreatDoorP2
noncomputable section
set_option linter.unusedVariables false
set_option linter.unusedSimpArgs false
set_option linter.unusedSectionVars false
namespace Go.AM
section
variable {P:Program} {w w':World} {I I':Nat→Nat→Prop} {β β':Nat→Option Nat} {hp hp':Nat→Option ag} {C:af} {B:Nat} {M:Nat→Prop} {w0:Start}
theorem agJ {e:TypeId} (he:P.underlying e=some (.int .u8)) (hc:P.cellsOf e=1) (s:ByteArray): ∀(i j:Nat) (x:V) (t':TypeId),(s.data.toList.map Cr)[i]? =some x→(aN P e)[j]? =some t'→j<P.cellsOf e→
  ∃u,(Lib.strCells s)[i*P.cellsOf e+j]? =some u∧Pure P w I t' u (bW P e x j):=by
 intro i j x t' hx ht hj;have nh:b8 P e=false:=by simp[b8,he]
 obtain rfl:j=0:=by omega
 simp only[aN,nh,cond_false,List.getElem?_cons_zero,et] at ht;subst ht;rw[jh] at hx;cases hb:s.data.toList[i]? with
 | none=>grind
 | some b=>
  rw[hb] at hx;cases hx;refine ⟨.int .u8 b.toNat,?_,?_⟩
  ·rw[hc,fW,Nat.add_zero];simp only[Lib.strCells,jh,hb,Option.map_some]
  ·simp only[bW,nh,cond_false];exact .int he
theorem agK (w:World) (t u ty e T:TypeId) (i:TypeInfo) (ht:P.underlying t=some (.slice e)) (hu:P.underlying u=some .string) (hi:P.info? e=some i) (jr:i.size=1)
  (g kY tW:Nat) (cur:Array Value) (hg:w.heap[g]? =some (.cells cur T (0,0))) (s:ByteArray)
  (sg:kY+s.size≤tW) (zQ:kY+s.size≤cur.size):
  (Builtin.append_ #[t,u] ty #[.slice (some ⟨g,0,none⟩) kY tW,.string s]).run P w=
   .ok (.slice (some ⟨g,0,none⟩) (kY+s.size) tW) (w.setRow g (cur.toList.take kY++Lib.strCells s++cur.toList.drop (kY+s.size)).toArray):=by
 have hf:=Lib.run_firstCells_string (P:=P) w 1 s;have eg:=run_storeCells_at P g kY T (Lib.strCells s) 0 cur w hg (by simpa[Lib.strCells_length] using zQ) (Lib.strCells_oneCell s);simp only[Nat.add_zero,Lib.strCells_length] at eg;simp[Builtin.append_,run_underlying ht,run_underlying hu,sizeOf,typeInfo,hi,jr,Builtin.lenOf,sg,hf,Addr.add_lit,eg]
theorem agL (w:World) (t u ty e:TypeId) (i:TypeInfo) (z:Value) (ht:P.underlying t=some (.slice e)) (hu:P.underlying u=some .string) (hi:P.info? e=some i) (hz:i.zero=some z)
  (s:ByteArray) (h0:0<s.size) (Dc:(s.size:Int)≤9223372036854775807) (I4:s.size*i.bytes≤281474976710656) (a0:Option Addr):
  (Builtin.append_ #[t,u] ty #[.slice a0 0 0,.string s]).run P w=
   .ok (.slice (some ⟨w.heap.size,0,none⟩) s.size (grownCap w s.size 0 e))
    (w.drew.alloc (.cells (s.data.map (fun b=>Value.int .u8 b.toNat)++Builtin.zeroCells z.cells (grownCap w s.size 0 e-s.size)) e)):=by
 cases a0 with
 | none=>exact run_append_nil_string w t u ty e i z ht hu hi hz s h0 Dc I4
 | some b=>
  rw[←run_append_nil_string w t u ty e i z ht hu hi hz s h0 Dc I4];have hn:s.size≠0:=by omega
  have O2: ¬(9223372036854775807<(s.size:Int)):=by omega
  have agM: ¬(281474976710656<Builtin.nextslicecap s.size 0*i.bytes):=by rw[nextslicecap_zero h0];omega
  simp[Builtin.append_,run_underlying ht,run_underlying hu,sizeOf,typeInfo,zeroValue,hi,hz,Builtin.lenOf,Builtin.firstCells,hn,O2,agM,Question.forced,newRow,grownCap,loadCells,loadCellsFrom]
theorem W9 (S:aA P w I β hp B M w0) {t u ty e:TypeId} {nb:Nat} {fz:Bool} {x:ByteArray} {xs:List V} {i:TypeInfo} {z:Value} (hu:P.underlying t=some (.slice e)) (qW:P.underlying u=some .string) (ar:cR P e=true) (hn:hp nb=none)
 (hi:P.info? e=some i) (hz:i.zero=some z) (h3:i.size=P.cellsOf e) (h4:z.cells.size=P.cellsOf e) (Dm:i.size=1) (mC:P.bytesOf e=i.bytes) (dM:xs.length*P.bytesOf e≤bm) (o0:xs.length=x.size) (p5:(Lib.strCells x).length=x.size)
 (eB: ∀(i j:Nat) (y:V) (t':TypeId),xs[i]? =some y→(aN P e)[j]? =some t'→j<P.cellsOf e→∃u,(Lib.strCells x)[i*P.cellsOf e+j]? =some u∧Pure P w I t' u (bW P e y j)):
 ∀a0,∃v w' β',(Builtin.append_ #[t,u] ty #[.slice a0 0 0,.string x]).run P w= .ok v w'∧Le P w I β hp w' I β' (ao hp nb (some (.arr e xs fz)))∧aA P w' I β' (ao hp nb (some (.arr e xs fz))) B M w0∧
  ai P w' I β' (ao hp nb (some (.arr e xs fz))) v (.whole e nb):=by
 intro a0;have tU:=w4 ar;have hlen:xs.length≤2^45:=by
  have:xs.length*1≤xs.length*P.bytesOf e:=vc _ tU;simp only[bm] at dM;omega
 by_cases h0:x.size=0
 ·have jw:xs=[]:=nO (by omega);subst jw;obtain ⟨a1,a2⟩:=CL S e hn;have hf:=Lib.run_firstCells_string (P:=P) w 1 x;rw[h0] at hf;have gA:Lib.strCells x=[]:=nO (by omega);exact ⟨.slice a0 0 0,_,_,by cases a0<;>simp[storeCells,gA,Builtin.append_,run_underlying hu,run_underlying qW,sizeOf,typeInfo,hi,Dm,Builtin.lenOf,h0,hf],a1,a2,.dy (bD _ _ _) (bD _ _ _)⟩
 ·have cF:=agL (P:=P) w t u ty e i z hu qW hi hz x (by omega) (by omega) (by rw[←mC,←o0];simp only[bm] at dM;omega) a0;have e1:(x.data.map fun b=>Value.int .u8 b.toNat)=(Lib.strCells x).toArray:=by
   apply Array.ext';simp[Lib.strCells]
  rw[e1,←o0] at cF;have pY:=grownCap_ge w xs.length 0 e;have qU:grownCap w xs.length 0 e≤maxLen:=grownCap_le_maxLen w xs.length 0 e (by simp only[maxLen];omega);obtain ⟨n1,n2,n3⟩:=zM S.drew (nb:=nb) (cap:=grownCap w xs.length 0 e) (es:=xs) (C0:=(Lib.strCells x).toArray++Builtin.zeroCells z.cells (grownCap w xs.length 0 e-xs.length)) ar hn
   (by
    have:(Lib.strCells x).length=xs.length*P.cellsOf e:=by grind
    simp only[HN,qv,size_zeroCells,h4,this,←jJ];grind) pY qU
   (fun i' j y t' hy ht hj=>by
    obtain ⟨u,jV,hp⟩:=eB i' j y t' hy ht hj;have ba:=(cq.1 jV).1;refine ⟨u,?_,Pure.drew hp⟩;grind)
  exact ⟨_,_,_,cF,(Le.drew w I β hp).trans n1,n2,n3⟩
theorem agN (S:aA P w I β hp B M w0) {t u ty e:TypeId} {nb:Nat} {s:Value} {sv:V} {x:ByteArray} {r:R} {rd:List Nat} (hu:P.underlying t=some (.slice e)) (qW:P.underlying u=some .string) (he:P.underlying e=some (.int .u8)) (hs:ai P w I β hp s sv)
  (h:(zl P nb e sv (.list e (x.data.toList.map Cr))).run C hp=some (r,rd)):dd P ((Builtin.append_ #[t,u] ty #[s,.string x]).run P w) w I β hp B M w0 r:=by
 unfold zl at h;obtain ⟨ar,h⟩:=aE h;simp only[tu] at h;obtain ⟨_,h⟩:=aE h;have nh:b8 P e=false:=by simp[b8,he]
 have fm:P.cellsOf e=1:=by rw[←(na ar).1,CI nh];rfl
 obtain ⟨i,z,hi,hz,h3,h4,_⟩:=jv ar;have Dm:i.size=1:=by omega
 have tU:=w4 ar;have mC:P.bytesOf e=i.bytes:=by simp[Program.bytesOf,hi]
 have Jc:=agJ (P:=P) (w:=w) (I:=I) he fm x;have o0:(x.data.toList.map Cr).length=x.size:=by simp
 have p5:(Lib.strCells x).length=x.size:=Lib.strCells_length x;have h1:=Lib.strCells_oneCell x;generalize jw:x.data.toList.map Cr=xs at*
 cases sv with
 | nilS e'=>
  obtain ⟨hc,h⟩:=aE h;simp only[aK,aO,fe] at hc;obtain ⟨hn,rfl⟩:=kX h;obtain ⟨a0,rfl⟩: ∃a0,s= .slice a0 0 0:=by cases hs;grind
  obtain ⟨v,w',β',a1,a2,a3,a4⟩:=W9 S hu qW ar hn hi hz h3 h4 Dm mC hc.2 o0 p5 Jc _;exact ⟨v,w',I,β',a1,a2,a3,a4⟩
 | whole e' id=>
  obtain ⟨l,h⟩:=run_get h;cases ab:hp id with
  | none=>rw[ab] at h;cases h
  | some blk=>
   rw[ab] at h;cases blk with
   | dead=>cases h
   | var _=>cases h
   | nest _ _ _=>cases h
   | map _ _=>cases h
   | out _ _ _ _=>cases h
   | arr dC es fz=>
    obtain ⟨hc,h⟩:=aE h;obtain ⟨hn,rfl⟩:=kX h;simp only[aK,aO,fe] at hc;obtain ⟨OG,OH,dM⟩:=hc;subst OG;subst OH;have bK:nb≠id:=fun e=>by grind
    obtain ⟨k1,k2⟩:=vD S ab;have fX:ao hp id (some ag.dead) nb=none:=by rw[cp _ _ bK];exact hn
    cases hs with
    | dD hd=>grind
    | dp hd=>grind
    | dJ hd=>grind
    | ew hd=>grind
    | dy hd hb=>
     rw[ab] at hd;cases hd;simp only[List.length_nil,eQ] at dM;obtain ⟨v,w',β',a1,a2,a3,a4⟩:=W9 k2 hu qW ar fX hi hz h3 h4 Dm mC dM o0 p5 Jc _;exact ⟨v,w',I,β',a1,k1.trans a2,a3,a4⟩
    | @whole _ _ aL nZ b cap hd hb aU bO hm=>
     rw[ab] at hd;cases hd;have hr:=S.h.rel id _ ab;cases hr with
     | dU ay=>grind
     | @arr _ T0 _ _ b' Ca hL _ ay hh vL hf eJ vM=>
      rw[hb] at ay;cases ay;have hlen:es.length+xs.length≤2^45:=by
       have:(es.length+xs.length)*1≤(es.length+xs.length)*P.bytesOf e:=vc _ tU;simp only[bm] at dM;omega
      rw[jS hh] at aU;have oW: ∀av blk',ao hp id (some ag.dead) av=some blk'→¬bc P w (β av) blk' b:=by
       intro av blk' h1 h2;by_cases lI:av=id
       ·subst lI;rw[bD] at h1;cases h1;exact h2.alive rfl
       ·rw[cp _ _ lI] at h1;exact lI (S.h.inj av id blk' _ b h1 ab h2 (.root (by simp) hb))
      have Dd:=S.h.vA id _ b ab (by simp) hb;have pV:es.length*P.cellsOf e≤Ca.toList.length:=by omega
      have agO:(Lib.strCells x).length=xs.length*P.cellsOf e:=by grind
      by_cases sg:es.length+xs.length≤cap
      ·have zQ:es.length*P.cellsOf e+(Lib.strCells x).length≤Ca.size:=by grind
       have cF:=agK (P:=P) w t u ty e T0 i hu qW hi Dm b es.length cap Ca hh x (by omega) (by grind);have eB:=IZ (P:=P) (w:=w) (I:=I) (n:=es.length) (c:=Ca.toList) rfl (fun i j y t' a b c=>by
        grind) Jc pV (Ca.toList.drop (es.length*P.cellsOf e+(Lib.strCells x).length))
       generalize IN:(Ca.toList.take es.length++Lib.strCells x++Ca.toList.drop (es.length+x.size)).toArray=C' at cF;have oh:C'.size=Ca.size:=by
        grind
       have O3:(w.setRow b C').heap[b]? =some (.cells C' T0 (0,0)):=setRow_heap w b Ca C' T0 _ hh;have pZ: ∀j,j<es.length*P.cellsOf e→C'[j]? =Ca[j]? :=fun j hj=>by
        grind
       obtain ⟨a1,a2⟩:=zC k2 (blk:= .arr e (es++xs) fz) (w':=w.setRow b C') fX oW (Ws hh O3 (OA hf eJ) pZ) (fun b' h _=>setRow_other w b b' _ h) (by simp) ⟨rfl,rfl⟩ Dd
        (fun b' h=>(dA (h.flat (by simp))).symm) (fun hle=> .arr (oh▸hL) ar rfl O3 (by grind) (fun _ j h=>ll (OA hf eJ j h) (dZ _ (by simp))) eJ fun i j y t' a b c=>by
         obtain ⟨v,hv,hp⟩:=eB i j y t' a b c;refine ⟨v,?_,hp.mono hle.dV hle.cE⟩;grind)
       refine ⟨_,_,_,_,cF,k1.trans a1,a2,?_⟩;have a3:=ai.whole (P:=P) (w:=w.setRow b C') (I:=I) (β:=ao β nb (some b)) (hp:=ao (ao hp id (some .dead)) nb (some (.arr e (es++xs) fz))) (cap:=cap) (b:=b) (es:=es++xs) (fz:=fz) (id:=nb) (e:=e) (bD _ _ _) (bD _ _ _) (by rw[jS O3,oh,aU]) (by grind) hm;rw[gD,o0] at a3;exact a3
      ·have hold: ∀(j:Nat) v,(Ca.toList.take (es.length*P.cellsOf e))[j]? =some v→w.cell? ((⟨b,0,none⟩:Addr).add j)=some v:=by
        intro j v hj;have dj:=(cq.1 hj).1;have dg:j<es.length*P.cellsOf e:=by grind
        rw[gR dg] at hj;rw[mB,cell?_cells hh,eQ];grind
       have cF:=Lib.run_append_grow_string (P:=P) w t u ty e i z hu qW hi hz ⟨b,0,none⟩ es.length cap (Ca.toList.take (es.length*P.cellsOf e)) (by grind) hold x (by omega) (by omega)
        (growslice_fits (by omega) (by rw[←mC,←o0];simp only[bm] at dM;omega))
       rw[←o0] at cF;have pY:=grownCap_ge w (es.length+xs.length) cap e;have qU:grownCap w (es.length+xs.length) cap e≤maxLen:=grownCap_le_maxLen w _ cap e (by simp only[maxLen];omega);have eB:=IZ (P:=P) (w:=w) (I:=I) (n:=es.length) (c:=Ca.toList) rfl (fun i j y t' a b c=>by
        grind) Jc pV (Builtin.zeroCells z.cells (grownCap w (es.length+xs.length) cap e-(es.length+xs.length))).toList
       obtain ⟨n1,n2,n3⟩:=zM k2.drew (nb:=nb) (cap:=grownCap w (es.length+xs.length) cap e) (es:=es++xs)
        (C0:=(Ca.toList.take (es.length*P.cellsOf e)).toArray++(Lib.strCells x).toArray++Builtin.zeroCells z.cells (grownCap w (es.length+xs.length) cap e-(es.length+xs.length))) ar fX
        (by
         have e1:(Ca.toList.take (es.length*P.cellsOf e)).length=es.length*P.cellsOf e:=by simp;omega
         simp only[HN,qv,size_zeroCells,h4,agO,e1,←jJ];grind) (by grind) qU
        (fun i j y t' a b c=>by
         obtain ⟨v,hv,hp⟩:=eB i j y t' a b c;refine ⟨v,?_,Pure.drew hp⟩;grind)
       rw[gD] at n3;exact ⟨_,_,_,_,cF,(k1.trans (Le.drew w I β _)).trans n1,n2,n3⟩
 | _=>cases h
end
section
variable {P:Program} {w w':World} {I I':Nat→Nat→Prop} {β β':Nat→Option Nat} {hp hp':Nat→Option ag} {C:af} {B:Nat} {M:Nat→Prop} {w0:Start}
theorem Xa: ∀(ns:List Int) (s:ByteArray),(ns.foldl (fun r n=>r.push (UInt8.ofNat n.toNat)) s).data.toList=s.data.toList++ns.map fun n=>UInt8.ofNat n.toNat
 | [],s=>by simp
 | n::ns,s=>by
  simp only[List.foldl_cons,Xa ns,iO];simp_all
theorem O4 {e:TypeId} {u:Value} {x:V} (he:P.underlying e=some (.int .u8)) (hp:Pure P w I e u x):u= .int .u8 x.toInt:=by
 cases hp with
 | int hp'=>rw[he] at hp';cases hp';rfl
 | bool hp'=>grind
 | str hp'=>grind
 | nil hp'=>grind
 | emp hp'=>grind
 | list _ hp'=>grind
theorem agP (S:aA P w I β hp B M w0) {src dst e:TypeId} {v:Value} {x:V} {r:R} {rd:List Nat} (hs:P.underlying src=some (.slice e)) (he:P.underlying e=some (.int .u8)) (hd:P.underlying dst=some .string)
  (hv:ai P w I β hp v x) (h:(Rd.aB (cR P e) (tu e x fun es=> .ret ⟨.str (lz es),[]⟩)).run C hp=some (r,rd)):dd P ((convert src dst v).run P w) w I β hp B M w0 r:=by
 obtain ⟨ar,h⟩:=aE h;obtain ⟨xs,hx,l,h⟩:=Db S.h.rel ar hv h;obtain rfl:=aM h;have nh:b8 P e=false:=by simp[b8,he]
 have h1:P.cellsOf e=1:=by rw[←(na ar).1,CI nh];rfl
 rcases hx with ⟨⟨a,rfl⟩,rfl⟩|⟨a,c,news,hr⟩
 ·refine .same S (v:= .string .empty) ?_ (.str (by simp[lz]));rw[run_convert_bytes_string w src dst e a 0 0 hs he hd];cases a<;>simp[Conv.bytesToString,loadCells,loadCellsFrom]
 ·have sf:news=(xs.map V.toInt).map (Value.int .u8):=by
   apply List.ext_getElem?;intro j;by_cases hj:j<xs.length
   ·obtain ⟨u,hu,hp⟩:=hr.el j 0 xs[j] e (bR hj) (by simp[aN,nh]) (by omega);rw[h1] at hu;simp only[bW,nh,cond_false] at hp;have jV:news[j]? =some u:=by grind
    rw[jV];have:=O4 he hp;grind
   ·have hl:news.length=xs.length:=by rw[hr.len,h1];simp
    grind
  have O5:=run_loadCells_list (P:=P) w a news hr.cell;have hl:news.length=xs.length:=by grind
  rw[hl] at O5;rw[sf] at O5;refine .same S (v:= .string ((xs.map V.toInt).foldl (fun r n=>r.push (UInt8.ofNat n.toNat)) ByteArray.empty)) ?_ (.str ?_)
  ·rw[hr.val,run_convert_bytes_string w src dst e _ _ _ hs he hd];exact run_bytesToString w a xs.length c (xs.map V.toInt) O5
  ·rw[Xa];simp[lz]
theorem agQ {n:Int} (h:(decide (0≤n)&&decide (n<128))=true):(Utf8.encode n).data.toList=[UInt8.ofNat n.toNat]:=by
 simp only[aK,fK] at h;have h1:Utf8.valid n=true:=by rw[validRune_eq];exact cW (by omega)
 unfold Utf8.encode;simp[h1,show n.toNat<128 by omega]
theorem ai.Xb {v:Value} {e:TypeId} (h:ai P w I β hp v (.nilS e)):v= .slice none 0 0:=by cases h;rfl
theorem ai.Jd {v:Value} (h:ai P w I β hp v .eb):v= .pointer none:=by cases h;rfl
section
variable (w:World)
theorem agR (t e:TypeId) (a:Addr) (h:P.underlying t=some (.pointer e)):(binOp .eql t (.pointer (some a)) (.pointer none)).run P w= .ok (.bool false) w:=by
 have h0: ∀d:Nat,(Op.equalIn (d+1) t (.pointer (some a)) (.pointer none)).run P w= .ok false w:=fun d=>by simp[Op.equalIn,run_underlying h]
 simp only[binOp];simp[Op.equal,Op.maxDepth,h0 9999]
theorem agS (t e:TypeId) (a:Addr) (h:P.underlying t=some (.pointer e)):(binOp .neq t (.pointer (some a)) (.pointer none)).run P w= .ok (.bool (!false)) w:=by
 have h0: ∀d:Nat,(Op.equalIn (d+1) t (.pointer (some a)) (.pointer none)).run P w= .ok false w:=fun d=>by simp[Op.equalIn,run_underlying h]
 simp only[binOp];simp[Op.equal,Op.maxDepth,h0 9999]
theorem agT (t e:TypeId) (a:Addr) (h:P.underlying t=some (.pointer e)):(binOp .eql t (.pointer none) (.pointer (some a))).run P w= .ok (.bool false) w:=by
 have h0: ∀d:Nat,(Op.equalIn (d+1) t (.pointer none) (.pointer (some a))).run P w= .ok false w:=fun d=>by simp[Op.equalIn,run_underlying h]
 simp only[binOp];simp[Op.equal,Op.maxDepth,h0 9999]
theorem agU (t e:TypeId) (a:Addr) (h:P.underlying t=some (.pointer e)):(binOp .neq t (.pointer none) (.pointer (some a))).run P w= .ok (.bool (!false)) w:=by
 have h0: ∀d:Nat,(Op.equalIn (d+1) t (.pointer none) (.pointer (some a))).run P w= .ok false w:=fun d=>by simp[Op.equalIn,run_underlying h]
 simp only[binOp];simp[Op.equal,Op.maxDepth,h0 9999]
theorem agV (t e:TypeId) (h:P.underlying t=some (.pointer e)):(binOp .eql t (.pointer none) (.pointer none)).run P w= .ok (.bool true) w:=by
 have h0: ∀d:Nat,(Op.equalIn (d+1) t (.pointer none) (.pointer none)).run P w= .ok true w:=fun d=>by simp[Op.equalIn,run_underlying h]
 simp only[binOp];simp[Op.equal,Op.maxDepth,h0 9999]
theorem agW (t e:TypeId) (h:P.underlying t=some (.pointer e)):(binOp .neq t (.pointer none) (.pointer none)).run P w= .ok (.bool (!true)) w:=by
 have h0: ∀d:Nat,(Op.equalIn (d+1) t (.pointer none) (.pointer none)).run P w= .ok true w:=fun d=>by simp[Op.equalIn,run_underlying h]
 simp only[binOp];simp[Op.equal,Op.maxDepth,h0 9999]
end
theorem Je (S:aA P w I β hp B M w0) {op:BinOp} {t:TypeId} {b:Bool} {x y:Operand} {v1 v2:Value} {r:R} {rd:List Nat} (h:(ptrEq P op t b).run C hp=some (r,rd)) (hg:(eqGuard op t x y v1 v2).run P w= .ok () w)
  (he: ∀e j,P.underlying t=some (.pointer e)→P.info? e=some j→(binOp .eql t v1 v2).run P w= .ok (.bool b) w∧(binOp .neq t v1 v2).run P w= .ok (.bool (!b)) w):
  dd P ((do eqGuard op t x y v1 v2;binOp op t v1 v2:Sem Value).run P w) w I β hp B M w0 r:=by
 unfold ptrEq at h;cases hu:P.underlying t with
 | none=>rw[hu] at h;cases h
 | some d=>
  rw[hu] at h;cases d<;>simp only at h<;>first|(cases h;done)|skip
  rename_i e;obtain ⟨h1,h2⟩:=aE h;obtain ⟨j,hj⟩:=y9.1 h1;obtain ⟨k1,k2⟩:=he e j hu hj;cases op<;>simp only at h2<;>first|(cases h2;done)|skip
  ·obtain rfl:=aM h2;exact .same S (by simp_all) .bool
  ·obtain rfl:=aM h2;exact .same S (by simp_all) .bool
theorem agX {b n:Nat}:(∀b',b'≠b→(w.freeze ⟨b,0,none⟩ n).heap[b']? =w.heap[b']?)∧bsize (w.freeze ⟨b,0,none⟩ n) b=bsize w b∧w.heap.size≤(w.freeze ⟨b,0,none⟩ n).heap.size∧(w.freeze ⟨b,0,none⟩ n).os=w.os∧(w.freeze ⟨b,0,none⟩ n).output=w.output:=by
 unfold World.freeze;split
 ·grind
 ·refine ⟨fun b' hb=> ?_,?_,by simp,rfl,rfl⟩
  ·grind
  ·simp only[bsize,HS,lr];grind
theorem agY {e:TypeId} (hb:isByte P e=true):P.underlying e=some (.int .u8):=by
 unfold isByte at hb;grind
theorem agZ (S:aA P w I β hp B M w0) {ts:Array TypeId} {ty e:TypeId} {v:Value} {id:Nat} {es:List V} {fz:Bool} (hv:ai P w I β hp v (.whole e id)) (ab:hp id=some (.arr e es fz)) (h0:0<es.length):
  dd P ((Builtin.unsafeSliceData_ ts ty #[v]).run P w) w I β hp B M w0 ⟨.ptr id 0 0,[]⟩:=by
 cases hv with
 | dD h=>grind
 | dy h _=>grind
 | dp h _ _ _ _=>grind
 | dJ h _=>grind
 | ew h _ _ _ _=>grind
 | @whole _ _ aL nZ b cap h hb bO hle hm=>
  rw[ab] at h;cases h;refine .same S (Lib.run_unsafeSliceData_row w ts ty ⟨b,0,none⟩ es.length cap (by omega)) ?_;have:=ai.ptr (P:=P) (w:=w) (I:=I) (β:=β) (i:=0) (c:=0) ab (by simp) hb;grind
theorem ag0 {P:Program} {w:World} (pt it ty e T:TypeId) (hp:P.underlying pt=some (.pointer e)) (g cells:Nat) (Jf:w.shape? g=some (T,cells)) (l:List UInt8) (h0:l≠[]) (Wu:liesAt P P.depth T (cells/P.cellsOf T) 0 e l.length=true) (Dc:l.length≤9223372036854775807)
  (fC: ∀j x,l[j]? =some x→w.cell? ((⟨g,0,none⟩:Addr).add j)=some (.int .u8 x.toNat)):
  (Builtin.unsafeString_ #[pt,it] ty #[.pointer (some ⟨g,0,none⟩),.int .i64 l.length]).run P w= .ok (.string ⟨l.toArray⟩) (w.freeze ⟨g,0,none⟩ l.length):=by
 have hl:l.length≠0:=by grind
 have hlb:=Lib.run_loadBytes (P:=P) w l ⟨g,0,none⟩ .empty fC;have O2: ¬(9223372036854775807:Int)<(l.length:Int):=by omega
 have ag1:Builtin.unsafeString_ #[pt,it] ty #[.pointer (some ⟨g,0,none⟩),.int .i64 l.length]=
   (do
    let n←asInt (.int .i64 l.length)
    if n < 0 then runtimePanic (.error "unsafe.String: len out of range")
    if n > IntKind.i64.max then unsupported (.unsafePointer "String: a length above the largest int")
    if n=0 then pure (.string .empty)
    else if←variablesAt ⟨g,0,none⟩ (←elemOf pt) n.toNat then do
     let s←loadBytes ⟨g,0,none⟩ .empty n.toNat
     Go.freeze ⟨g,0,none⟩ n.toNat
     pure (.string s)
    else unsupported (.unsafePointer "String: not so many bytes at ptr")) := rfl
 rw[ag1];have ag2:IntKind.i64.max=9223372036854775807:=rfl;have ag3: ¬(l.length:Int)<0:=by omega
 simp[asInt,asIntOf,ag2,O2,ag3,hl,variablesAt,Jf,elemOf,run_underlying hp,Wu,hlb]
theorem ag4 (S:aA P w I β hp B M w0) {t u ty e:TypeId} {vx:Value} {id:Nat} {n:Int} {es:List V} (hu:P.underlying t=some (.pointer e)) (hb:isByte P e=true) (hv:ai P w I β hp vx (.ptr id 0 0))
  (ab:hp id=some (.arr e es false)) (h0:0<n) (hn:n≤es.length) (hm:n.toNat≤pK) (ka:(es.take n.toNat).all NL=true):dd P ((Builtin.unsafeString_ #[t,u] ty #[vx,.int .i64 n]).run P w) w I β hp B M w0 ⟨.str (lz (es.take n.toNat)),[(id,.dead)]⟩:=by
 obtain ⟨b,O6,rfl⟩:=hv.gK ab (by simp);have eV:=hb;have he:P.underlying e=some (.int .u8):=by
  unfold isByte at hb;grind
 have nh:b8 P e=false:=by simp[b8,he]
 have hr:=S.h.rel id _ ab;rw[O6] at hr;cases hr with
 | dU ay=>cases ay
 | @arr _ T0 _ _ b1 Ca hL ar pV hh hs hI c6 eB=>
  cases pV;have h1:P.cellsOf e=1:=by rw[←(na ar).1,CI nh];rfl
  have ba:=S.afr ab (by simp) O6;have hl:(lz (es.take n.toNat)).length=n.toNat:=by simp[lz];omega
  have OZ:n=((lz (es.take n.toNat)).length:Nat):=by omega
  have cF:=ag0 (P:=P) (w:=w) t u ty e T0 hu b Ca.size (by simp[World.shape?,hh]) (lz (es.take n.toNat)) (fun h=>by grind) (hL eV h1 _ (by grind)) (by rw[hl];unfold pK at hm;omega) (fun j x hx=>by
   have hj:j<n.toNat:=by
    grind
   have xe:j<es.length:=by omega
   simp only[lz,jh,gR hj,bR xe,Option.map_some,et] at hx;obtain ⟨v,Di,bE⟩:=eB j 0 es[j] e (bR xe) (by simp[aN,nh]) (by omega);rw[h1] at Di;simp only[bW,nh,cond_false] at bE;have:=O4 he bE;have hr:=fL.1 ka es[j] (lp (by rw[gR hj];grind));simp only[NL,aK,fK] at hr;have js:(x.toNat:Int)=es[j].toInt:=by
    rw[←hx];have:es[j].toInt.toNat<256:=by omega
    simp only[UInt8.toNat_ofNat'];omega
   rw[mB,cell?_cells hh,js];grind)
  obtain ⟨f1,f2,f3,f4,f5⟩:=agX (w:=w) (b:=b) (n:=n.toNat);obtain ⟨k1,k2⟩:=CM (w':=w.freeze ⟨b,0,none⟩ n.toNat) S ab (by simp) (blk':= .dead) (by trivial) O6 (c6 rfl) (by simp) f1 f2 f3 ⟨f4,f5⟩ (fun _=> .dead);rw[←OZ,hl] at cF;refine ⟨.string ⟨(lz (es.take n.toNat)).toArray⟩,_,I,β,?_,k1,k2,.str ?_⟩
  all_goals grind
def O7:Op→Bool
 | .call {callee:= .value (.func _),..}=>true
 | .call {callee:= .value (.tmp _),..}=>true
 | .defer _=>true
 | _=>false
theorem rW.val {o:Oper} {a:Act} {s:Sem Value} {r:R} (he:execOp a.eval o=(do Pure.pure (Next.value (←s)))) (h:dd P (s.run P w) w I β hp B M w0 r):rW P ((execOp a.eval o).run P w) w I β hp B M w0 r:=by
 rw[he];exact h.op
theorem ag5 {A:dc} (S:aA P w I β hp B M w0) (hg:iC P A.aF w I) {a:Act} {sl:Nat→V} (hs:mz P w I β hp a sl) {ix nb:Nat} {o:Oper} (Dn:O7 o.op=false) {r:R} {rd:List Nat}
  (h:(gG P A sl ix nb o).run C hp=some (r,rd)):rW P ((execOp a.eval o).run P w) w I β hp B M w0 r:=by
 obtain ⟨dst,op,ty,pos,after,guard⟩:=o;cases op<;>simp only[gG] at h<;>first|(cases h;done)|skip
 case move x=>
  obtain rfl:=aM h;exact ⟨_,w,I,β,.inl (by simp[execOp]),Le.refl w I β hp,S,hs.ev hg ty x⟩
 case assign x=>
  obtain rfl:=aM h;exact ⟨_,w,I,β,.inl (by simp[execOp]),Le.refl w I β hp,S,hs.ev hg ty x⟩
 case pick c x y=>
  have hc:=hs.ev hg ty c;cases xl:aQ P A.aF ty sl c<;>rw[xl] at h hc<;>simp only at h<;>first|(cases h;done)|skip
  rename_i t;have ag6:=hc.kW;have hx:=hs.ev hg ty x;have hy:=hs.ev hg ty y;have fin: ∀z:V,ai P w I β hp (if t then a.eval x else a.eval y) z→rW P ((execOp a.eval ⟨dst,.pick c x y,ty,pos,after,guard⟩).run P w) w I β hp B M w0 ⟨z,[]⟩:=by
   intro z hz;exact ⟨_,w,I,β,.inl (by simp[execOp,ag6,asBool]),Le.refl w I β hp,S,hz⟩
  cases Xc:gone (aQ P A.aF ty sl x) with
  | true=>
   rw[Xc] at h;obtain ⟨h1,h⟩:=aE h;obtain rfl:=aM h;grind
  | false=>
   rw[Xc] at h;simp only[cond_false] at h;cases Jg:gone (aQ P A.aF ty sl y) with
   | true=>
    rw[Jg] at h;obtain ⟨h1,h⟩:=aE h;obtain rfl:=aM h;grind
   | false=>
    rw[Jg] at h;obtain rfl:=aM h;exact fin _ (VL hx hy)
 case makeFunc fn x y=>
  cases fn<;>simp only[gG] at h<;>first|(cases h;done)|skip
  rename_i f;obtain rfl:=aM h;refine ⟨.func (.func f) (x.map a.eval) (y.map a.eval),w,I,β,.inl (by simp[execOp,Instr.makeFunc]),Le.refl w I β hp,S,.fn (by simp) (fun j v z hj hz=> ?_) (by simp) (fun j v z hj hz=> ?_)⟩
  ·rw[Array.getElem?_map] at hj;rw[jh,pE] at hz;cases hx:x[j]? with
   | none=>grind
   | some o1=>
    rw[hx] at hj hz;cases hj;cases hz;exact hs.ev hg ty o1
  ·rw[Array.getElem?_map] at hj;rw[jh,pE] at hz;cases hx:y[j]? with
   | none=>grind
   | some o1=>
    rw[hx] at hj hz;cases hj;cases hz;exact hs.ev hg ty o1
 case defer c=>cases Dn
 case makeMap t res=>
  cases res with
  | some x=>cases h
  | none=>exact .val rfl (agE S h)
 case lookup t m k ok=>
  cases ht:nY P t with
  | none=>rw[ht] at h;cases h
  | some q=>
   obtain ⟨kt,vt⟩:=q;rw[ht] at h;exact .val (s:=Instr.lookup t (a.eval m) (a.eval k) ok) rfl (agD S ht (hs.ev hg t m) (hs.ev hg kt k) h)
 case mapUpdate t m k x=>
  cases ht:nY P t with
  | none=>rw[ht] at h;cases h
  | some q=>
   obtain ⟨kt,vt⟩:=q;rw[ht] at h;have:=W7 S ht (hs.ev hg t m) (hs.ev hg kt k) (hs.ev hg vt x) h;exact this.op
 case insert t m k x=>
  cases ht:nY P t with
  | none=>rw[ht] at h;cases h
  | some q=>
   obtain ⟨kt,vt⟩:=q;rw[ht] at h;have:=W7 S ht (hs.ev hg t m) (hs.ev hg kt k) (hs.ev hg vt x) h;exact this.op
 case alloc e=>
  cases dst with
  | none=>exact .val rfl (Wh S h)
  | some d=>
   simp only at h;cases si:gF A.qy d with
   | true=>rw[si] at h;exact .val rfl (af3 S h)
   | false=>rw[si] at h;exact .val rfl (Wh S h)
 case box e x=>
  exact .val rfl (afY S (hs.ev hg e x) h)
 case build t ps=>exact .val rfl (af0 S hs hg h)
 case buildSlice t len ps=>
  cases hu:P.underlying t with
  | none=>rw[hu] at h;cases h
  | some d=>
   rw[hu] at h;cases d<;>simp only at h<;>first|(cases h;done)|skip
   cases dst with
   | none=>exact .val rfl (Wy S hs hg hu h)
   | some d=>
    simp only at h;cases si:gF A.qy d with
    | true=>rw[si] at h;exact .val rfl (agl S hs hg hu h)
    | false=>rw[si] at h;exact .val rfl (Wy S hs hg hu h)
 case load t x=>exact .val rfl (afG S (hs.ev hg ty x) h)
 case store t x y=>
  have:=afX S (hs.ev hg ty x) (hs.ev hg t y) h;exact this.op
 case nilCheck x=>
  have hx:=hs.ev hg ty x;cases ij:aQ P A.aF ty sl x<;>rw[ij] at h hx<;>simp only at h<;>first|(cases h;done)|skip
  ·obtain ⟨⟨blk,ab,hd⟩,l,h⟩:=CO h;obtain rfl:=aM h;have cS:=hx;obtain ⟨b,hb,he⟩:=hx.gK ab hd;rw[he] at cS;exact ⟨_,w,I,β,.inl (by simp only[execOp,he];rfl),Le.refl w I β hp,S,cS⟩
  ·obtain rfl:=aM h;have cS:=hx;obtain ⟨b,o,he,_⟩:=hx.CP;rw[he] at cS;exact ⟨_,w,I,β,.inl (by simp only[execOp,he];rfl),Le.refl w I β hp,S,cS⟩
  ·obtain ⟨e0,es,vers,l,ab,h1,h2,h3,h⟩:=pQ h;obtain rfl:=aM h;have cS:=hx;obtain ⟨b,o,he,_⟩:=hx.VG ab h1 h2 h3;rw[he] at cS;exact ⟨_,w,I,β,.inl (by simp only[execOp,he];rfl),Le.refl w I β hp,S,cS⟩
 case binOp op t x y yt=>
  have hx:=hs.ev hg t x;have hy:=hs.ev hg t y;refine .val (s:=do eqGuard op t x y (a.eval x) (a.eval y);binOp op t (a.eval x) (a.eval y)) rfl ?_;cases ij:aQ P A.aF t sl x<;>cases vP:aQ P A.aF t sl y<;>rw[ij,vP] at h<;>rw[ij] at hx<;>rw[vP] at hy<;>first|(simp only[ly] at h;cases h;done)|skip
  ·rw[hx.fq,hy.fq];have:=afx S h;simpa[afu] using this
  ·rw[hx.kW,hy.kW];have:=afz S h;simpa[afv] using this
  ·obtain ⟨s1,e1,l1⟩:=hx.od;obtain ⟨s2,e2,l2⟩:=hy.od;rw[e1,e2];rw[←l1,←l2] at h;have:=afA (t:=t) S h;simpa[afw] using this
  ·simp only[ly] at h;rw[hx.Xb,hy.Xb];cases hu:P.underlying t with
   | none=>rw[hu] at h;cases h
   | some d=>
    rw[hu] at h;cases d<;>(try (cases h;done))
    cases op<;>simp only at h<;>first|(cases h;done)|skip
    ·obtain rfl:=aM h;exact .same S (by simpa[eqGuard] using run_eql_slice_nil w _ _ none 0 0 hu) .bool
    ·obtain rfl:=aM h;exact .same S (by simpa[eqGuard] using run_neq_slice_nil w _ _ none 0 0 hu) .bool
  ·obtain ⟨cs,e1,h1,h2⟩:=hx.lF;obtain ⟨ds,e2,h3,h4⟩:=hy.lF;rw[e1,e2];exact afB S h1 h3 h2 h4 h
  ·
   simp only[ly] at h;obtain ⟨h1,h2⟩:=aE h;clear h;simp only[aK,aO] at h1;obtain ⟨rfl,rfl,rfl⟩:=h1;obtain ⟨⟨blk,ab,hd⟩,l,h⟩:=CO h2;obtain ⟨b,hb,e1⟩:=hx.gK ab hd;obtain ⟨b',ay,e2⟩:=hy.gK ab hd;rw[hb] at ay;cases ay;rw[e1,e2];exact Je S h (by cases op<;>simp[eqGuard]) fun e j he hj=>⟨run_eql_ptr_same w _ he hj,Lib.run_neq_ptr_same w _ he hj⟩
  ·simp only[ly] at h;obtain ⟨⟨blk,ab,hd⟩,l,h⟩:=CO h;obtain ⟨b,_,e1⟩:=hx.gK ab hd;rw[e1,hy.Jd];exact Je S h (by cases op<;>simp[eqGuard]) fun e j he hj=>⟨agR w t e _ he,agS w t e _ he⟩
  ·simp only[ly] at h;obtain ⟨⟨blk,ab,hd⟩,l,h⟩:=CO h;obtain ⟨b,_,e1⟩:=hy.gK ab hd;rw[e1,hx.Jd];exact Je S h (by cases op<;>simp[eqGuard]) fun e j he hj=>⟨agT w t e _ he,agU w t e _ he⟩
  ·simp only[ly] at h;rw[hx.Jd,hy.Jd];exact Je S h (by cases op<;>simp[eqGuard]) fun e j he hj=>⟨agV w t e he,agW w t e he⟩
  ·
   simp only[ly] at h;obtain ⟨l,h⟩:=run_get h;split at h
   ·rename_i t2 es ab;obtain ⟨b,hb⟩:=hx.agI ab;rw[hy.O1,hb];exact W8 (a:=some b) S x y h
   ·cases h
  ·simp only[ly] at h;rw[hx.O1,hy.O1];exact W8 (a:=none) S x y h
 case unOp op t x=>exact .val rfl (afC S (hs.ev hg ty x) h)
 case convert src dst x=>
  have hx:=hs.ev hg ty x;refine .val (s:=convert src dst (a.eval x)) rfl ?_;cases jr:P.underlying src with
  | none=>rw[jr] at h;cases h
  | some d1=>
   cases mF:P.underlying dst with
   | none=>rw[jr,mF] at h;cases d1<;>cases h
   | some d2=>
    rw[jr,mF] at h;have iQ: ∀{b:Nat} {T:TypeId} {cs:List V} {id:Nat},hp id=some (.var T cs)→β id=some b→w.shape? b=some (T,cs.length):=by
     intro b T cs id ab hb;have hr:=S.h.rel id _ ab;rw[hb] at hr;cases hr with
     | var ay hh aU _ _ _=>cases ay;simp[World.shape?,hh,aU]
    cases d1<;>(try (cases d2<;>cases h;done))
    ·cases d2<;>(try (cases h;done))<;>cases ij:aQ P A.aF ty sl x<;>rw[ij] at h hx<;>simp only at h<;>first|(cases h;done)|skip
     ·obtain rfl:=aM h;rw[hx.fq];exact .same S (by simp[convert,run_underlying jr,run_underlying mF,Conv.intToInt]) .int
     ·obtain ⟨hc,h⟩:=aE h;obtain rfl:=aM h;rw[hx.fq];exact .same S (run_convert_int_string w src dst _ _ (by simp[jr]) mF) (.str (agQ hc))
    ·cases d2<;>(try (cases h;done))
     rename_i u;cases ij:aQ P A.aF ty sl x<;>rw[ij] at h hx<;>simp only at h<;>first|(cases h;done)|skip
     rename_i id i c;obtain ⟨l,h1⟩:=run_get h;cases ab:hp id with
     | none=>rw[ab] at h1;cases h1
     | some blk=>
      rw[ab] at h1;cases blk<;>simp only at h1<;>first|(cases h1;done)|skip
      rename_i T cs;obtain ⟨h2,h3⟩:=aE h1;simp only[aK,aO] at h2;obtain ⟨rfl,h4,h5⟩:=h2;obtain ⟨b,hb,e1⟩:=hx.gK ab (by simp);obtain rfl:=aM h3;obtain ⟨j,hj⟩:=y9.1 h4;have cS:=hx;rw[e1] at cS⊢;exact .same S (Lib.run_from_unsafe w _ jr mF hj (iQ ab hb) (by grind)) cS
    ·cases d2<;>(try (cases h;done))
     rename_i t;cases ij:aQ P A.aF ty sl x<;>rw[ij] at h hx<;>simp only at h<;>first|(cases h;done)|skip
     rename_i id i c;obtain ⟨l,h1⟩:=run_get h;cases ab:hp id with
     | none=>rw[ab] at h1;cases h1
     | some blk=>
      rw[ab] at h1;cases blk<;>simp only at h1<;>first|(cases h1;done)|skip
      rename_i T cs;obtain ⟨h2,h3⟩:=aE h1;simp only[aK,aO,nP] at h2;obtain ⟨rfl,h4,h5⟩:=h2;obtain ⟨b,hb,e1⟩:=hx.gK ab (by simp);obtain rfl:=aM h3;cases hj:P.info? t with
      | none=>grind
      | some j=>
       rw[hj] at h5;simp only[mY] at h5;have h6:j.size≠0:=fun e=>by simp_all
       have cS:=hx;rw[e1] at cS⊢;exact .same S (Lib.run_to_unsafe w _ jr mF hj h6 (iQ ab hb) (by grind)) cS
    ·rename_i e;cases d2<;>(try (cases h;done))
     simp only at h;cases he:P.underlying e with
     | none=>rw[he] at h;cases h
     | some d3=>
      rw[he] at h;cases d3<;>(try (cases h;done))
      rename_i k;cases k<;>(try (cases h;done))
      exact agP S jr he mF hx h
 case fieldAddr s x f=>exact .val rfl (afD S (hs.ev hg ty x) h)
 case field s x f=>exact .val rfl (agm S (hs.ev hg ty x) h)
 case indexAddr t x y=>exact .val rfl (ags S (hs.ev hg ty x) (hs.ev hg 0 y) h)
 case index t x y=>
  have hx:=hs.ev hg ty x;have hy:=hs.ev hg 0 y;refine .val (s:=Instr.index t (a.eval x) (a.eval y)) rfl ?_;cases hu:P.underlying t with
  | none=>rw[hu] at h;cases h
  | some d=>
   rw[hu] at h;cases d<;>(try (cases h;done))
   cases ij:aQ P A.aF ty sl x<;>rw[ij] at h hx<;>(try (cases h;done))
   cases vP:aQ P A.aF 0 sl y<;>rw[vP] at h hy<;>(try (cases h;done))
   obtain ⟨s,e1,l1⟩:=hx.od;rw[e1,hy.fq];exact ago S hu l1 h
 case slice t x lo hi mx=>
  cases mx with
  | some m=>
   simp only at h;refine .val (s:=Instr.sliceAt t (a.eval x) (lo.map a.eval) (hi.map a.eval) (some (a.eval m))) (by simp[execOp]) (agr S (hs.ev hg ty x) (fun hy=> ?_) (fun y hy=> ?_) (fun y hy=> ?_) h)
   ·simp_all
   ·cases hi with
    | none=>cases hy
    | some l=>cases hy;exact ⟨_,rfl,hs.ev hg 0 l⟩
   ·cases hy;exact ⟨_,rfl,hs.ev hg 0 m⟩
  | none=>
   simp only at h;have plain:(Ii P t (aQ P A.aF ty sl x) (lo.map (aQ P A.aF 0 sl)) (hi.map (aQ P A.aF 0 sl))).run C hp=some (r,rd)→rW P ((execOp a.eval ⟨dst,.slice t x lo hi none,ty,pos,after,guard⟩).run P w) w I β hp B M w0 r:=by
    intro h;refine .val (s:=Instr.sliceAt t (a.eval x) (lo.map a.eval) (hi.map a.eval) none) (by simp[execOp]) (agq S (hs.ev hg ty x) (fun y hy=> ?_) (fun y hy=> ?_) (fun hy=> ?_) (fun hy=> ?_) h)
    ·cases lo with
     | none=>cases hy
     | some l=>cases hy;exact ⟨_,rfl,hs.ev hg 0 l⟩
    ·cases hi with
     | none=>cases hy
     | some l=>cases hy;exact ⟨_,rfl,hs.ev hg 0 l⟩
    all_goals simp_all
   have tr:(Ij P nb t (aQ P A.aF ty sl x) (lo.map (aQ P A.aF 0 sl)) (hi.map (aQ P A.aF 0 sl))).run C hp=some (r,rd)→rW P ((execOp a.eval ⟨dst,.slice t x lo hi none,ty,pos,after,guard⟩).run P w) w I β hp B M w0 r:=by
    intro h;refine .val (s:=Instr.sliceAt t (a.eval x) (lo.map a.eval) (hi.map a.eval) none) (by simp[execOp]) (agv S (hs.ev hg ty x) (fun y hy=> ?_) (fun hy=> ?_) h)
    ·cases hi with
     | none=>cases hy
     | some l=>cases hy;exact ⟨_,rfl,hs.ev hg 0 l⟩
    simp_all
   grind
 case extract x i=>
  have hx:=hs.ev hg ty x;cases ij:aQ P A.aF ty sl x<;>rw[ij] at h hx<;>simp only at h<;>first|(cases h;done)|skip
  exact .val (s:=Instr.extract (a.eval x) i) rfl (agn S hx h)
 case makeSlice t l c=>
  have hl:=hs.ev hg 0 l;have hc:=hs.ev hg 0 c;refine .val (s:=Instr.makeSlice t (a.eval l) (a.eval c)) rfl ?_;cases hu:P.underlying t with
  | none=>rw[hu] at h;cases h
  | some d=>
   rw[hu] at h;cases d<;>(try (cases h;done))
   cases O8:aQ P A.aF 0 sl l<;>rw[O8] at h hl<;>(try (cases h;done))
   cases xl:aQ P A.aF 0 sl c<;>rw[xl] at h hc<;>(try (cases h;done))
   rw[hl.fq,hc.fq];cases dst with
   | none=>exact Wz S hu h
   | some d=>
    simp only at h;cases hg:gF A.qy d with
    | true=>rw[hg] at h;exact af5 S hu h
    | false=>rw[hg] at h;exact Wz S hu h
 case call c=>
  obtain ⟨callee,args,argTypes⟩:=c;cases callee with
  | invoke r m=>cases h
  | value f=>
   cases f with
   | func f=>cases Dn
   | tmp f=>cases Dn
   | _=>cases h
  | builtin b=>
   have one: ∀{x:Operand},args.toList=[x]→args= #[x]:=fun h=>by grind
   have ua: ∀(s:Array TypeId→TypeId→Array Value→Sem Value),builtin b argTypes ty (args.map fun| .const _=>true|_=>false) (args.map a.eval)=(do Pure.pure (Next.value (←s argTypes ty (args.map a.eval))))→
     execOp a.eval ⟨dst,.call ⟨.builtin b,args,argTypes⟩,ty,pos,after,guard⟩=(do Pure.pure (Next.value (←s argTypes ty (args.map a.eval)))):=by
    intro s hb;simp only[execOp,resolve,pure_bind,invoke];exact hb
   cases b<;>(try (cases h;done))
   case append=>
    simp only at h;cases ha:args.toList with
    | nil=>rw[ha] at h;cases h
    | cons x l=>
     cases l with
     | nil=>rw[ha] at h;cases h
     | cons y l2=>
      cases l2 with
      | cons _ _=>rw[ha] at h;cases h
      | nil=>
       cases eU:argTypes.toList with
       | nil=>rw[ha,eU] at h;cases h
       | cons t l3=>
        cases l3 with
        | nil=>rw[ha,eU] at h;cases h
        | cons u l4=>
         cases l4 with
         | cons _ _=>rw[ha,eU] at h;cases h
         | nil=>
          rw[ha,eU] at h;simp only at h;have e1:args= #[x,y]:=by grind
          have e2:argTypes= #[t,u]:=by grind
          cases hu:P.underlying t with
          | none=>rw[hu] at h;cases h
          | some d=>
           rw[hu] at h;cases d<;>(try (cases h;done))
           cases hc:Nat.beq t u with
           | true=>
            rw[hc] at h;rw[aO] at hc;subst hc;simp only[cond_true] at h;refine .val (ua Builtin.append_ rfl) ?_;rw[e1,e2];cases dst with
            | none=>
             have:=WI (ty:=ty) S hu (hs.ev hg t x) (hs.ev hg t y) h;grind
            | some d=>
             simp only at h;cases si:gF A.qy d with
             | true=>
              rw[si] at h;have:=age (ty:=ty) S hu (hs.ev hg t x) (hs.ev hg t y) h;grind
             | false=>
              rw[si] at h;have:=WI (ty:=ty) S hu (hs.ev hg t x) (hs.ev hg t y) h;grind
           | false=>
            rw[hc] at h;simp only[cond_false] at h;have hy:=hs.ev hg u y;cases qW:P.underlying u with
            | none=>rw[qW] at h;cases h
            | some du=>
             rw[qW] at h;cases du<;>(try (cases h;done))
             cases vP:aQ P A.aF u sl y<;>rw[vP] at h hy<;>(try (cases h;done))
             simp only at h;obtain ⟨hb,h⟩:=aE h;obtain ⟨s1,q1,q2⟩:=hy.od;subst q2;have:=agN (ty:=ty) S hu qW (agY hb) (hs.ev hg t x) h;refine .val (ua Builtin.append_ rfl) ?_;grind
   case len=>
    simp only at h;cases ha:args.toList with
    | nil=>rw[ha] at h;cases h
    | cons x l=>
     cases l with
     | cons _ _=>rw[ha] at h;cases h
     | nil=>
      cases eU:argTypes.toList with
      | nil=>rw[ha,eU] at h;cases h
      | cons t l3=>
       cases l3 with
       | cons _ _=>rw[ha,eU] at h;cases h
       | nil=>
        rw[ha,eU] at h;simp only at h;have e1:args= #[x]:=by grind
        have e2:argTypes= #[t]:=by grind
        have hx:=hs.ev hg ty x;refine .val (ua Builtin.len_ rfl) ?_;rw[e1,e2];cases hu:P.underlying t with
        | none=>rw[hu] at h;cases h
        | some d=>
         rw[hu] at h;cases d<;>(try (cases h;done))
         ·cases ij:aQ P A.aF ty sl x<;>rw[ij] at h hx<;>(try (cases h;done))
          have:=VM (t:=t) (ty:=ty) S hx (fun l hl=>hu) (fun hn=>absurd rfl (hn _)) h;grind
         ·have h2:(∀l,aQ P A.aF ty sl x≠ .str l)∧(Ia P (aQ P A.aF ty sl x)).run C hp=some (r,rd):=by
           cases ij:aQ P A.aF ty sl x<;>rw[ij] at h<;>first|(cases h;done)|exact ⟨fun l=>by simp,h⟩
          have:=VM (t:=t) (ty:=ty) S hx (fun l hl=>absurd hl (h2.1 l)) (fun _=>⟨_,hu⟩) h2.2;grind
         ·have h2:(Ih (aQ P A.aF ty sl x)).run C hp=some (r,rd):=by
           omega
          have:=agH (t:=t) (ty:=ty) S hu hx h2;grind
   case unsafeSliceData=>
    simp only at h;cases ha:args.toList with
    | nil=>rw[ha] at h;cases h
    | cons x l=>
     cases l with
     | cons _ _=>rw[ha] at h;cases h
     | nil=>
      rw[ha] at h;simp only at h;have e1:args= #[x]:=by grind
      have hx:=hs.ev hg ty x;refine .val (ua Builtin.unsafeSliceData_ rfl) ?_;rw[e1];cases ij:aQ P A.aF ty sl x<;>rw[ij] at h hx<;>simp only at h<;>first|(cases h;done)|skip
      rename_i e id;obtain ⟨l2,h1⟩:=run_get h;cases ab:hp id with
      | none=>rw[ab] at h1;cases h1
      | some blk=>
       rw[ab] at h1;cases blk<;>simp only at h1<;>first|(cases h1;done)|skip
       rename_i e' es fz;obtain ⟨h2,h3⟩:=aE h1;simp only[aK,aO,nP] at h2;obtain ⟨rfl,h4⟩:=h2;obtain rfl:=aM h3;have:=agZ (ts:=argTypes) (ty:=ty) S hx ab h4;grind
   case unsafeString=>
    simp only at h;cases ha:args.toList with
    | nil=>rw[ha] at h;cases h
    | cons x l=>
     cases l with
     | nil=>rw[ha] at h;cases h
     | cons y l2=>
      cases l2 with
      | cons _ _=>rw[ha] at h;cases h
      | nil=>
       cases eU:argTypes.toList with
       | nil=>rw[ha,eU] at h;cases h
       | cons t l3=>
        cases l3 with
        | nil=>rw[ha,eU] at h;cases h
        | cons u l4=>
         cases l4 with
         | cons _ _=>rw[ha,eU] at h;cases h
         | nil=>
          rw[ha,eU] at h;simp only at h;have e1:args= #[x,y]:=by grind
          have e2:argTypes= #[t,u]:=by grind
          have hx:=hs.ev hg ty x;have hy:=hs.ev hg ty y;cases hu:P.underlying t with
          | none=>rw[hu] at h;cases h
          | some d=>
           rw[hu] at h;cases d<;>(try (cases h;done))
           rename_i e;cases ij:aQ P A.aF ty sl x<;>rw[ij] at h hx<;>(try (cases h;done))
           cases vP:aQ P A.aF ty sl y<;>rw[vP] at h hy<;>(try (cases h;done))
           rename_i id i c k n;cases k<;>(try (cases h;done))
           simp only at h;obtain ⟨l2,h1⟩:=run_get h;cases ab:hp id with
           | none=>rw[ab] at h1;cases h1
           | some blk=>
            rw[ab] at h1;cases blk<;>simp only at h1<;>first|(cases h1;done)|skip
            rename_i e' es fz;cases fz<;>simp only at h1<;>first|(cases h1;done)|skip
            obtain ⟨h2,h3⟩:=aE h1;simp only[aK,aO,fe,fK] at h2;obtain ⟨rfl,h4,rfl,rfl,h5,h6,h7,h8⟩:=h2;obtain rfl:=aM h3;have:=ag4 (u:=u) (ty:=ty) S hu h4 hx ab h5 h6 h7 h8;refine .val (ua Builtin.unsafeString_ rfl) ?_;rw[e1,e2];simpa[hy.fq] using this
   case copy=>
    simp only at h;cases ha:args.toList with
    | nil=>rw[ha] at h;cases h
    | cons x l=>
     cases l with
     | nil=>rw[ha] at h;cases h
     | cons y l2=>
      cases l2 with
      | cons _ _=>rw[ha] at h;cases h
      | nil=>
       cases eU:argTypes.toList with
       | nil=>rw[ha,eU] at h;cases h
       | cons t l3=>
        cases l3 with
        | nil=>rw[ha,eU] at h;cases h
        | cons u l4=>
         cases l4 with
         | cons _ _=>rw[ha,eU] at h;cases h
         | nil=>
          rw[ha,eU] at h;simp only at h;have e1:args= #[x,y]:=by grind
          have e2:argTypes= #[t,u]:=by grind
          cases hu:P.underlying t with
          | none=>rw[hu] at h;cases h
          | some d=>
           rw[hu] at h;cases d<;>(try (cases h;done))
           have:=agb (u:=u) (ty:=ty) S hu (hs.ev hg t x) (hs.ev hg u y) h;refine .val (ua Builtin.copy_ rfl) ?_;grind
   case clear=>
    simp only at h;cases ha:args.toList with
    | nil=>rw[ha] at h;cases h
    | cons x l=>
     cases l with
     | cons _ _=>rw[ha] at h;cases h
     | nil=>
      cases eU:argTypes.toList with
      | nil=>rw[ha,eU] at h;cases h
      | cons t l3=>
       cases l3 with
       | cons _ _=>rw[ha,eU] at h;cases h
       | nil=>
        rw[ha,eU] at h;simp only at h;have e1:args= #[x]:=by grind
        have e2:argTypes= #[t]:=by grind
        cases hu:P.underlying t with
        | none=>rw[hu] at h;cases h
        | some d=>
         rw[hu] at h;cases d<;>(try (cases h;done))
         have:=agc (ty:=ty) S hu (hs.ev hg t x) h;refine .val (ua Builtin.clear_ rfl) ?_;grind
   case max=>
    simp only at h;cases ha:args.toList with
    | nil=>rw[ha] at h;cases h
    | cons x l=>
     rw[ha] at h;simp only at h;have:=ON S true (vs:=l.map a.eval) (xs:=l.map (aQ P A.aF ty sl)) (hs.ev hg ty x) (by simp) (fun j u y hu hy=>by
      simp only[jh] at hu hy;cases hl:l[j]? with
      | none=>grind
      | some z=>rw[hl] at hu hy;cases hu;cases hy;exact hs.ev hg ty z) h
     refine .val (ua Builtin.max_ rfl) ?_;simpa[Builtin.max_,ha] using this
   case min=>
    simp only at h;cases ha:args.toList with
    | nil=>rw[ha] at h;cases h
    | cons x l=>
     rw[ha] at h;simp only at h;have:=ON S false (vs:=l.map a.eval) (xs:=l.map (aQ P A.aF ty sl)) (hs.ev hg ty x) (by simp) (fun j u y hu hy=>by
      simp only[jh] at hu hy;cases hl:l[j]? with
      | none=>grind
      | some z=>rw[hl] at hu hy;cases hu;cases hy;exact hs.ev hg ty z) h
     refine .val (ua Builtin.min_ rfl) ?_;simpa[Builtin.min_,ha] using this
end
section
variable {P:Program} {A:dc} {w w':World} {I I' I2:Nat→Nat→Prop} {μ β β':Nat→Option Nat} {hp hp':Nat→Option ag} {C:af} {B:Nat} {M:Nat→Prop} {w0:Start}
theorem xt: ∀{l m:List Nat},fi.pN l m=true→l=m
 | [],[],_=>rfl
 | [],_::_,h=>by cases h
 | _::_,[],h=>by cases h
 | a::l,b::m,h=>by
  simp only[fi.pN,aK,aO] at h;rw[h.1,xt h.2]
@[simp] theorem Xd (n:Nat):mZ (fh n)=n:=by simp[mZ,fh,V.toInt]
theorem Jh: ∀(path:List (Nat×Nat)) (rest:List V),Cn (path.map (·.2)) ((path.map fun p=>fh p.1)++rest)=path
 | [],_=>rfl
 | p::l,rest=>by
  simp only[iO,List.cons_append,Cn,V.nth,Xd,pG,lq,Jh l rest]
theorem Ji {l:LS} {x:V} {ds:List V} (h:fi l x=some ds):ds.length=l.size∧(l= .tp∨∀rest,jM l (ds++rest)=x):=by
 cases l with
 | tp=>simp only[fi,et] at h;subst h;exact ⟨rfl,.inl rfl⟩
 | int k=>
  cases x<;>simp only[fi] at h<;>first|(cases h;done)|skip
  rename_i k' n;by_cases hk:k=k'
  ·subst hk;simp only[y6,cond_true,et] at h;subst h;exact ⟨rfl,.inr fun _=>rfl⟩
  grind
 | bool=>
  cases x<;>simp only[fi] at h<;>first|(cases h;done)|skip
  cases h;exact ⟨rfl,.inr fun _=>rfl⟩
 | str=>
  cases x<;>simp only[fi] at h<;>first|(cases h;done)|skip
  cases h;exact ⟨rfl,.inr fun _=>rfl⟩
 | list e=>
  cases x<;>simp only[fi] at h<;>first|(cases h;done)|skip
  rename_i e' es;cases hb:Nat.beq e e' with
  | false=>grind
  | true=>
   rw[hb] at h;rw[aO] at hb;subst hb;cases h;exact ⟨rfl,.inr fun _=>rfl⟩
 | whole e j=>
  cases x<;>simp only[fi] at h<;>first|(cases h;done)|skip
  rename_i e' id;cases hb:(Nat.beq e e'&&Nat.beq j id) with
  | false=>grind
  | true=>
   rw[hb] at h;simp only[aK,aO] at hb;obtain ⟨rfl,rfl⟩:=hb;cases h;exact ⟨rfl,.inr fun _=>rfl⟩
 | sub e j=>
  cases x<;>simp only[fi] at h<;>first|(cases h;done)|skip
  rename_i e' id o n;cases hb:(Nat.beq e e'&&Nat.beq j id) with
  | false=>grind
  | true=>
   rw[hb] at h;simp only[aK,aO] at hb;obtain ⟨rfl,rfl⟩:=hb;cases h;exact ⟨rfl,.inr fun _=>by simp[jM,V.nth]⟩
 | ptr j=>
  cases x<;>simp only[fi] at h<;>first|(cases h;done)|skip
  rename_i id i c;cases hb:(Nat.beq j id) with
  | false=>grind
  | true=>
   rw[hb] at h;rw[aO] at hb;subst hb;cases h;exact ⟨rfl,.inr fun _=>by simp[jM,V.nth]⟩
 | aG j i c=>
  cases x<;>simp only[fi] at h<;>first|(cases h;done)|skip
  rename_i id i' c';cases hb:(Nat.beq j id&&(Nat.beq i i'&&Nat.beq c c')) with
  | false=>grind
  | true=>
   rw[hb] at h;simp only[aK,aO] at hb;obtain ⟨rfl,rfl,rfl⟩:=hb;cases h;exact ⟨rfl,.inr fun _=>rfl⟩
 | nilS e=>
  cases x<;>simp only[fi] at h<;>first|(cases h;done)|skip
  rename_i e';cases hb:Nat.beq e e' with
  | false=>grind
  | true=>
   rw[hb] at h;rw[aO] at hb;subst hb;cases h;exact ⟨rfl,.inr fun _=>rfl⟩
 | eb=>
  cases x<;>simp only[fi] at h<;>first|(cases h;done)|skip
  cases h;exact ⟨rfl,.inr fun _=>rfl⟩
 | cK e j=>
  cases x<;>simp only[fi] at h<;>first|(cases h;done)|skip
  rename_i e' id;cases hb:(Nat.beq e e'&&Nat.beq j id) with
  | false=>grind
  | true=>
   rw[hb] at h;simp only[aK,aO] at hb;obtain ⟨rfl,rfl⟩:=hb;cases h;exact ⟨rfl,.inr fun _=>rfl⟩
 | eo e=>
  cases x<;>simp only[fi] at h<;>first|(cases h;done)|skip
  rename_i e';cases hb:Nat.beq e e' with
  | false=>grind
  | true=>
   rw[hb] at h;rw[aO] at hb;subst hb;cases h;exact ⟨rfl,.inr fun _=>rfl⟩
 | Cf k n=>
  cases x<;>simp only[fi] at h<;>first|(cases h;done)|skip
  rename_i k' m;cases hb:(decide (k=k')&&decide (m=n)) with
  | false=>grind
  | true=>
   rw[hb] at h;simp only[aK,fK] at hb;obtain ⟨rfl,rfl⟩:=hb;cases h;exact ⟨rfl,.inr fun _=>rfl⟩
 | H4 b=>
  cases x<;>simp only[fi] at h<;>first|(cases h;done)|skip
  rename_i c;cases hb:decide (b=c) with
  | false=>grind
  | true=>
   rw[hb] at h;obtain rfl:=of_decide_eq_true hb;cases h;exact ⟨rfl,.inr fun _=>rfl⟩
 | row e j cs=>
  cases x<;>simp only[fi] at h<;>first|(cases h;done)|skip
  rename_i e' id ver path;cases hb:(Nat.beq e e'&&(Nat.beq j id&&(Nat.beq ver 0&&fi.pN cs (path.map (·.2))))) with
  | false=>grind
  | true=>
   rw[hb] at h;simp only[aK,aO] at hb;obtain ⟨rfl,rfl,rfl,qM⟩:=hb;have:=xt qM;subst this;cases h;exact ⟨by simp[LS.size],.inr fun rest=>by simp only[jM,Jh]⟩
 | dk j cs c=>
  cases x<;>simp only[fi] at h<;>first|(cases h;done)|skip
  rename_i id ver path i c';cases hb:(Nat.beq j id&&(Nat.beq ver 0&&(Nat.beq c c'&&fi.pN cs (path.map (·.2))))) with
  | false=>grind
  | true=>
   rw[hb] at h;simp only[aK,aO] at hb;obtain ⟨rfl,rfl,rfl,qM⟩:=hb;have:=xt qM;subst this;cases h;exact ⟨by simp[LS.size],.inr fun rest=>by simp only[jM,List.cons_append,V.nth,Xd,pG,lq,Jh]⟩
def LS.below (n:Nat) (x:V):Prop:= ∀id∈eH x,id<n
def Xe:V→Prop
 | .agg _=>False
 | .aW _=>False
 | .fn .. =>False
 | .pref .. =>False
 | _=>True
theorem xu {c:Bool} {a d:List V} (h:(bif c then some a else none)=some d):c=true:=by
 grind
theorem ag7 {l:LS} {x:V} {ds:List V} {n:Nat} (h:fi l x=some ds) (hl:l≠ .tp) (ar:l.ok n=true):Xe x∧LS.below n x:=by
 cases l<;>cases x<;>simp only[fi] at h<;>first|(cases h;done)|(exact absurd rfl hl)|skip
 all_goals refine ⟨trivial,fun id ab=> ?_⟩
 all_goals simp only[eH,ff,List.not_mem_nil] at ab
 all_goals subst ab
 all_goals simp only[LS.ok,nP] at ar
 all_goals
  have hb:=xu h;simp_all
theorem ai.ag8 {v:Value} {x:V} (h:ai P w I β hp v x) (hx:Xe x) (hs: ∀id∈eH x,hp' id=hp id∧β' id=β id):ai P w I β' hp' v x:=by
 have one: ∀{id},id∈eH x→hp' id=hp id∧β' id=β id:=fun h=>hs _ h;cases h with
 | undef=>exact .undef
 | int=>exact .int
 | bool=>exact .bool
 | str h=>exact .str h
 | list h=>exact .list h
 | nilS=>exact .nilS
 | agg=>exact hx.elim
 | aW=>exact hx.elim
 | eb=>exact .eb
 | fn=>exact hx.elim
 | pref=>exact hx.elim
 | dD h=>exact .dD ((one (by simp[eH])).1.trans h)
 | ia h=>exact .ia ((one (by simp[eH])).1.trans h)
 | kP h=>exact .kP ((one (by simp[eH])).1.trans h)
 | dy h hb=>exact .dy ((one (by simp[eH])).1.trans h) ((one (by simp[eH])).2.trans hb)
 | whole h hb a b c=>exact .whole ((one (by simp[eH])).1.trans h) ((one (by simp[eH])).2.trans hb) a b c
 | dp h hb a b c=>exact .dp ((one (by simp[eH])).1.trans h) ((one (by simp[eH])).2.trans hb) a b c
 | dJ h hb=>exact .dJ ((one (by simp[eH])).1.trans h) ((one (by simp[eH])).2.trans hb)
 | ew h hb a b c=>exact .ew ((one (by simp[eH])).1.trans h) ((one (by simp[eH])).2.trans hb) a b c
 | gy h hb=>exact .gy ((one (by simp[eH])).1.trans h) ((one (by simp[eH])).2.trans hb)
 | sub h hb a b c=>exact .sub ((one (by simp[eH])).1.trans h) ((one (by simp[eH])).2.trans hb) a b c
 | ptr h hd hb=>exact .ptr ((one (by simp[eH])).1.trans h) hd ((one (by simp[eH])).2.trans hb)
 | kQ h tS=>exact .kQ ((one (by simp[eH])).1.trans h) tS
 | kR h tS=>exact .kR ((one (by simp[eH])).1.trans h) tS
 | row h hb a b c d=>exact .row ((one (by simp[eH])).1.trans h) ((one (by simp[eH])).2.trans hb) a b c d
 | dk h hb a b c d e=>exact .dk ((one (by simp[eH])).1.trans h) ((one (by simp[eH])).2.trans hb) a b c d e
 | eo=>exact .eo
 | jR h=>exact .jR ((one (by simp[eH])).1.trans h)
 | cK h hb=>exact .cK ((one (by simp[eH])).1.trans h) ((one (by simp[eH])).2.trans hb)
theorem Jj {a b:List V} {n:Nat} (h:a.length=n):(a++b).drop n=b:=by subst h;simp
def Dp (n:Nat) (β:Nat→Option Nat) (hp:Nat→Option ag) (β':Nat→Option Nat) (hp':Nat→Option ag):Prop:= ∀id,id<n→hp' id=hp id∧β' id=β id
theorem Xf {l:LS} {x:V} {ds:List V} {n:Nat} {v:Value} (h:fi l x=some ds) (ar:l.ok n=true) (iW:Dp n β hp β' hp') (hv:ai P w I β hp v x) (rest:List V):
  ai P w I β' hp' v (jM l (ds++rest)):=by
 rcases (Ji h).2 with e|e
 ·subst e;exact .undef
 ·rw[e rest];by_cases hu:l= .tp
  ·subst hu;have:x= .undef:=(e rest).symm;subst this;exact .undef
  ·obtain ⟨h1,h2⟩:=ag7 h hu ar;exact hv.ag8 h1 fun id ab=>iW id (h2 id ab)
theorem Dq {n:Nat} (iW:Dp n β hp β' hp'): ∀{ls:List LS} {xs:List V} {ds:List V},rN ls xs=some ds→ls.all (LS.ok n)=true→
  ds.length=lA ls∧(∀rest,(gv ls (ds++rest)).length=xs.length)∧
  ∀(rest:List V) (j:Nat) (v:Value) (y:V),(∀x,xs[j]? =some x→ai P w I β hp v x)→(gv ls (ds++rest))[j]? =some y→ai P w I β' hp' v y
 | [],[],ds,h,_=>by cases h;exact ⟨rfl,fun _=>rfl,fun rest j v y _ hy=>by simp[gv] at hy⟩
 | [],_::_,ds,h,_=>by cases h
 | _::_,[],ds,h,_=>by cases h
 | l::ls,x::xs,ds,h,ar=>by
  simp only[rN] at h;obtain ⟨a,h1,h⟩:=bind_some h;obtain ⟨b,h2,h⟩:=bind_some h;cases h;simp only[List.all_cons,aK] at ar;obtain ⟨i1,i2,i3⟩:=Dq iW h2 ar.2;have c8:=(Ji h1).1;have hd: ∀rest,(a++b++rest).drop l.size=b++rest:=fun rest=>by grind
  refine ⟨by simp only[gD,lA];omega,fun rest=>by simp only[gv,List.length_cons,hd,i2],fun rest j v y hv hy=> ?_⟩;simp only[gv,hd] at hy;cases j with
  | zero=>
   simp at hy;subst hy;exact Xf h1 ar.1 iW (hv x rfl) _
  | succ j=>grind
theorem O9: ∀{ls:List LS} {xs:List V} {ds:List V},rN ls xs=some ds→ls.all LS.plain=true→ds.length=lA ls∧∀rest,gv ls (ds++rest)=xs
 | [],[],ds,h,_=>by cases h;exact ⟨rfl,fun _=>rfl⟩
 | [],_::_,ds,h,_=>by cases h
 | _::_,[],ds,h,_=>by cases h
 | l::ls,x::xs,ds,h,ar=>by
  simp only[rN] at h;obtain ⟨a,h1,h⟩:=bind_some h;obtain ⟨b,h2,h⟩:=bind_some h;cases h;simp only[List.all_cons,aK] at ar;obtain ⟨i1,i2⟩:=O9 h2 ar.2;obtain ⟨c8,hm⟩:=Ji h1;refine ⟨by simp only[gD,lA];omega,fun rest=> ?_⟩;simp only[gv];rw[show (a++b++rest).drop l.size=b++rest by grind,i2,jK];rcases hm with e|e
  ·subst e;cases ar.1
  ·rw[e]
theorem Pb {n:Nat} (iW:Dp n β hp β' hp') {s:VS} {x:V} {ds:List V} (h:rO s x=some ds) (ar:s.ok n=true):
  ds.length=s.size∧∀(rest:List V) (v:Value),ai P w I β hp v x→ai P w I β' hp' v (mr s (ds++rest)):=by
 cases s with
 | one l=>exact ⟨(Ji h).1,fun rest v hv=>Xf h ar iW hv rest⟩
 | agg ls=>
  cases x<;>simp only[rO] at h<;>first|(cases h;done)|skip
  rename_i xs;obtain ⟨i1,i2,i3⟩:=Dq (P:=P) (w:=w) (I:=I) iW h ar;refine ⟨i1,fun rest v hv=> ?_⟩;obtain ⟨cs,rfl,e1,e2⟩:=hv.lF;exact .agg (by grind) fun j v y hj hy=>i3 rest j v y (fun x hx=>e2 j v x hj hx) hy
 | aW ls=>
  cases x<;>simp only[rO] at h<;>first|(cases h;done)|skip
  rename_i xs;obtain ⟨i1,i2,i3⟩:=Dq (P:=P) (w:=w) (I:=I) iW h ar;refine ⟨i1,fun rest v hv=> ?_⟩;obtain ⟨cs,rfl,e1,e2⟩:=hv.xc;exact .aW (by grind) fun j v y hj hy=>i3 rest j v y (fun x hx=>e2 j v x hj hx) hy
 | fn f a b=>
  cases x<;>simp only[rO] at h<;>first|(cases h;done)|skip
  rename_i f' xs ys;cases hb:Nat.beq f f' with
  | false=>grind
  | true=>
   rw[hb] at h;rw[aO] at hb;subst hb;simp only[cond_true] at h;obtain ⟨p,h1,h⟩:=bind_some h;obtain ⟨q,h2,h⟩:=bind_some h;cases h;simp only[VS.ok,aK] at ar;obtain ⟨i1,i2,i3⟩:=Dq (P:=P) (w:=w) (I:=I) iW h1 ar.1;obtain ⟨j1,j2,j3⟩:=Dq (P:=P) (w:=w) (I:=I) iW h2 ar.2;refine ⟨by simp only[gD,VS.size];omega,fun rest v hv=> ?_⟩;cases hv with
   | fn a1 a2 b1 b2=>
    simp only[mr];rw[show (p++q++rest).drop (lA a)=q++rest by grind,jK];exact .fn (by grind) (fun j v y hj hy=>i3 _ j v y (fun x hx=>a2 j v x hj hx) hy) (by grind) (fun j v y hj hy=>j3 _ j v y (fun x hx=>b2 j v x hj hx) hy)
 | pref ts ls=>
  cases x<;>simp only[rO] at h<;>first|(cases h;done)|skip
  rename_i rP xs;cases hb:fi.pN ts rP with
  | false=>grind
  | true=>
   rw[hb] at h;have:=xt hb;subst this;simp only[cond_true] at h;refine ⟨?_,fun rest v hv=> ?_⟩
   ·exact (O9 h ar).1
   ·simp only[mr];rw[(O9 h ar).2];cases hv with
    | pref hl hI hc=>exact .pref hl hI hc
theorem Dr {n:Nat} (iW:Dp n β hp β' hp'): ∀{ls:List VS} {xs:List V} {ds:List V},th ls xs=some ds→ls.all (VS.ok n)=true→
  ds.length=vo ls∧(∀rest,(gY ls (ds++rest)).length=xs.length)∧
  ∀(rest:List V) (j:Nat) (v:Value) (y:V),(∀x,xs[j]? =some x→ai P w I β hp v x)→(gY ls (ds++rest))[j]? =some y→ai P w I β' hp' v y
 | [],[],ds,h,_=>by cases h;exact ⟨rfl,fun _=>rfl,fun rest j v y _ hy=>by simp[gY] at hy⟩
 | [],_::_,ds,h,_=>by cases h
 | _::_,[],ds,h,_=>by cases h
 | l::ls,x::xs,ds,h,ar=>by
  simp only[th] at h;obtain ⟨a,h1,h⟩:=bind_some h;obtain ⟨b,h2,h⟩:=bind_some h;cases h;simp only[List.all_cons,aK] at ar;obtain ⟨i1,i2,i3⟩:=Dr iW h2 ar.2;obtain ⟨c8,Di⟩:=Pb (P:=P) (w:=w) (I:=I) iW h1 ar.1;have hd: ∀rest,(a++b++rest).drop l.size=b++rest:=fun rest=>by grind
  refine ⟨by simp only[gD,vo];omega,fun rest=>by simp only[gY,List.length_cons,hd,i2],fun rest j v y hv hy=> ?_⟩;simp only[gY,hd] at hy;grind
end
section
variable {P:Program} {A:dc} {w w':World} {I I' I2:Nat→Nat→Prop} {μ β β':Nat→Option Nat} {hp hp' hp0:Nat→Option ag} {C:af} {B:Nat} {M:Nat→Prop} {w0:Start}
theorem jx: ∀{l:List ag} {j:Nat},lC l j=l[j]?
 | [],j=>by simp[lC]
 | b::l,0=>rfl
 | b::l,j+1=>by simp only[lC,jx,List.getElem?_cons_succ]
theorem Pc {sl:Nat→V} {k:Nat} {y:V}: ∀{l:List (Nat×VS)} {ds:List V},Cl sl l=some ds→(∀p∈l,∀d,rO p.2 (sl p.1)=some d→d.length=p.2.size)→
  ds.length=qA l∧∀rest,eF (gx l (ds++rest)) k=some y→∃s d iD,(k,s)∈l∧rO s (sl k)=some d∧y=mr s (d++iD)
 | [],ds,h,_=>by cases h;exact ⟨rfl,fun rest h=>by cases h⟩
 | (q,s)::l,ds,h,hz=>by
  simp only[Cl] at h;obtain ⟨a,h1,h⟩:=bind_some h;obtain ⟨b,h2,h⟩:=bind_some h;cases h;obtain ⟨i1,i2⟩:=Pc (k:=k) (y:=y) h2 fun p hp=>hz p (j6 _ hp);have c8:=hz (q,s) (za ..) a h1;refine ⟨by simp only[gD,qA];simp only at c8;omega,fun rest hl=> ?_⟩;simp only[gx,eF] at hl;rw[show (a++b++rest).drop s.size=b++rest by rw[jK];exact Jj c8] at hl;cases hb:Nat.beq k q with
  | true=>
   rw[hb] at hl;rw[aO] at hb;subst hb;cases hl;exact ⟨s,a,b++rest,za ..,h1,by rw[jK]⟩
  | false=>
   rw[hb] at hl;obtain ⟨s',d,iD,m1,m2,m3⟩:=i2 rest hl;exact ⟨s',d,iD,j6 _ m1,m2,m3⟩
theorem Pd {α:Type} {c:Bool} {x:Option α} {a:α} (h:(bif c then x else none)=some a):c=true∧x=some a:=by
 cases c with
 | true=>exact ⟨rfl,h⟩
 | false=>cases h
theorem ag9 {n:Nat} {b:BS} {o:Option ag} {ds:List V} (h:m7 b o=some ds) (ar:b.ok n=true):ds.length=b.size:=by
 cases b with
 | dead=>cases o<;>(cases h;rfl)
 | var T0 ls=>
  cases o with
  | none=>cases h
  | some blk=>
   cases blk<;>simp only[m7] at h<;>first|(cases h;done)|skip
   exact (Dr (P:=default) (w:=default) (I:=fun _ _=>False) (β:=fun _=>none) (hp:=fun _=>none) (fun _ _=>⟨rfl,rfl⟩) (Pd h).2 ar).1
 | arr e fz=>
  cases o with
  | none=>cases h
  | some blk=>
   cases blk<;>simp only[m7] at h<;>first|(cases h;done)|skip
   rw[xu h] at h;cases h;rfl
 | nest e=>
  cases o with
  | none=>cases h
  | some blk=>
   cases blk<;>simp only[m7] at h<;>first|(cases h;done)|skip
   rw[xu h] at h;cases h;rfl
 | map t=>
  cases o with
  | none=>cases h
  | some blk=>
   cases blk<;>simp only[m7] at h<;>first|(cases h;done)|skip
   rw[xu h] at h;cases h;rfl
theorem Xg {n:Nat}: ∀{l:List BS} {j:Nat} {ds:List V},Cm hp j l=some ds→l.all (BS.ok n)=true→
  (∀rest,(fO l (ds++rest)).length=l.length)∧∀(rest:List V) (i:Nat) (blk:ag),(fO l (ds++rest))[i]? =some blk→∃b d iD,l[i]? =some b∧b.ok n=true∧m7 b (hp (j+i))=some d∧blk=gg b (d++iD)
 | [],j,ds,h,_=>by cases h;exact ⟨fun _=>rfl,fun rest i blk hb=>by simp[fO] at hb⟩
 | b::l,j,ds,h,ar=>by
  simp only[Cm] at h;obtain ⟨a,h1,h⟩:=bind_some h;obtain ⟨c,h2,h⟩:=bind_some h;cases h;simp only[List.all_cons,aK] at ar;obtain ⟨i1,i2⟩:=Xg h2 ar.2;have c8:=ag9 h1 ar.1;have hd: ∀rest,(a++c++rest).drop b.size=c++rest:=fun rest=>by rw[jK];exact Jj c8
  refine ⟨fun rest=>by simp only[fO,List.length_cons,hd,i1],fun rest i blk hb=> ?_⟩;simp only[fO,hd] at hb;cases i with
  | zero=>
   simp at hb;exact ⟨b,a,c++rest,rfl,ar.1,h1,by rw[←hb]⟩
  | succ i=>
   obtain ⟨b',d,iD,m1,m2,m3,m4⟩:=i2 rest i blk (by simpa using hb);exact ⟨b',d,iD,by simpa using m1,m2,by rw[show j+(i+1)=j+1+i by omega];exact m3,m4⟩
theorem aha {n:Nat} {b:BS} {blk:ag} {ds rest:List V} (h:m7 b (some blk)=some ds) (ar:b.ok n=true):
  blk.le (gg b (ds++rest))∧(gg b (ds++rest)= .dead∨gg b (ds++rest)=blk∨∃T ls cs,b= .var T ls∧blk= .var T cs∧th ls cs=some ds∧gg b (ds++rest)= .var T (gY ls (ds++rest))):=by
 cases b with
 | dead=>exact ⟨by cases blk<;>trivial,.inl rfl⟩
 | var T0 ls=>
  cases blk<;>simp only[m7] at h<;>first|(cases h;done)|skip
  obtain ⟨hT,h0⟩:=Pd h;clear h;rw[aO] at hT;subst hT;exact ⟨rfl,.inr (.inr ⟨_,_,_,rfl,rfl,h0,rfl⟩)⟩
 | arr e fz=>
  cases blk<;>simp only[m7] at h<;>first|(cases h;done)|skip
  rename_i e' es nZ;have hb:=xu h;simp only[aK,aO,beq_iff_eq] at hb;obtain ⟨rfl,rfl⟩:=hb;simp only[ml,beq_self_eq_true,Bool.and_self,cond_true,et] at h;subst h;exact ⟨⟨rfl,rfl⟩,.inr (.inl rfl)⟩
 | nest e=>
  cases blk<;>simp only[m7] at h<;>first|(cases h;done)|skip
  rename_i e' es vers;have hb:=xu h;simp only[aK,aO] at hb;obtain ⟨rfl,hv⟩:=hb;have:=xt hv;subst this;simp only[ml,B5] at h;cases h;exact ⟨⟨rfl,rfl,rfl,fun _=>az _⟩,.inr (.inl rfl)⟩
 | map t=>
  cases blk<;>simp only[m7] at h<;>first|(cases h;done)|skip
  rename_i t' es;have hb:=xu h;rw[aO] at hb;subst hb;simp only[ml,cond_true,et] at h;subst h;exact ⟨rfl,.inr (.inl rfl)⟩
theorem Xh {m:Nat} {S:Shape} {st:St} {ds:List V} (h:j7 m S st=some ds):
  S.ok=true∧m≤S.cL.length∧∃a b,Cl st.sl S.cf=some a∧Cm st.hp 0 S.cL=some b∧ds=a++b:=by
 unfold j7 at h;cases hc:(S.ok&&Nat.ble m S.cL.length) with
 | false=>rw[hc] at h;cases h
 | true=>
  rw[hc] at h;simp only[cond_true] at h;simp only[aK,fe] at hc;obtain ⟨a,h1,h⟩:=bind_some h;obtain ⟨b,h2,h⟩:=bind_some h;cases h;exact ⟨hc.1,hc.2,a,b,h1,h2,rfl⟩
theorem reshape {m:Nat} {S:Shape} {st:St} {ds:List V} (h:j7 m S st=some ds) (hS:aA P w I β st.hp B M w0):
  aA P w I β (bH S ds).hp B M w0∧(∀(k:Nat) (v:Value),ai P w I β st.hp v (st.sl k)→ai P w I β (bH S ds).hp v ((bH S ds).sl k))∧
  (∀(μ:Nat→Option Nat) (hp0:Nat→Option ag),(∀id blk,hp0 id=some blk→id<m)→Le P w0.w w0.I μ hp0 w I β st.hp→Le P w0.w w0.I μ hp0 w I β (bH S ds).hp)∧
  ∀j blk',(bH S ds).hp j=some blk'→blk'≠ .dead→∃blk,st.hp j=some blk∧blk.le blk'∧∀o b,bc P w o blk' b→bc P w o blk b:=by
 obtain ⟨ar,hm,a,b,h1,h2,rfl⟩:=Xh h;unfold Shape.ok at ar;rw[aK] at ar;obtain ⟨ng,WM⟩:=ar;have aU: ∀p∈S.cf,∀d,rO p.2 (st.sl p.1)=some d→d.length=p.2.size:=fun p hp d hd=>
  (Pb (P:=P) (w:=w) (I:=I) (β:=β) (hp:=st.hp) (fun _ _=>⟨rfl,rfl⟩) hd (fL.1 ng p hp)).1
 have c8:a.length=qA S.cf:=(Pc (k:=0) (y:= .undef) h1 aU).1;have I6:(bH S (a++b)).hp=lC (fO S.cL (b++[])):=by
  simp only[bH,mk,va];rw[Jj c8]
 obtain ⟨bl,bg⟩:=Xg h2 WM;have get: ∀j blk',(bH S (a++b)).hp j=some blk'→j<S.cL.length∧∃bs d iD,bs.ok S.cL.length=true∧m7 bs (st.hp j)=some d∧blk'=gg bs (d++iD):=by
  intro j blk' hj;rw[I6,jx] at hj;obtain ⟨bs,d,iD,m1,m2,m3,m4⟩:=bg [] j blk' hj;rw[eQ] at m3;exact ⟨(cq.1 m1).1,bs,d,iD,m2,m3,m4⟩
 have have': ∀j,j<S.cL.length→∃blk',(bH S (a++b)).hp j=some blk':=by
  intro j hj;rw[I6,jx];exact ⟨_,bR (by rw[bl];exact hj)⟩
 generalize ez:(bH S (a++b)).hp=xw at*
 let bE:Nat→Option ag:=fun id=>if id<S.cL.length then xw id else st.hp id
 have back: ∀j blk',xw j=some blk'→blk'≠ .dead→∃blk,st.hp j=some blk∧blk.le blk'∧(blk'=blk∨∃T ls cs d iD,ls.all (VS.ok S.cL.length)=true∧blk= .var T cs∧th ls cs=some d∧blk'= .var T (gY ls (d++iD))):=by
  intro j blk' hj hd;obtain ⟨dj,bs,d,iD,m1,m2,m3⟩:=get j blk' hj;cases eg:st.hp j with
  | none=>
   rw[eg] at m2;cases bs<;>simp only[m7] at m2<;>first|(cases m2;done)|skip
   exact absurd m3 hd
  | some blk=>
   rw[eg] at m2;obtain ⟨n1,n2⟩:=aha (rest:=iD) m2 m1;rw[←m3] at n1 n2;refine ⟨blk,rfl,n1,?_⟩;rcases n2 with e|e|⟨T,ls,cs,e1,e2,e3,e4⟩
   ·exact absurd e hd
   ·exact .inl e
   ·subst e1;exact .inr ⟨T,ls,cs,d,iD,m1,e2,e3,e4⟩
 have le1: ∀j blk,st.hp j=some blk→j<S.cL.length→∃blk',xw j=some blk'∧blk.le blk':=by
  intro j blk hj dj;obtain ⟨blk',ay⟩:=have' j dj;refine ⟨blk',ay,?_⟩;by_cases hd:blk'= .dead
  ·subst hd;cases blk<;>trivial
  ·obtain ⟨ct,e1,e2,_⟩:=back j blk' ay hd;rw[hj] at e1;cases e1;exact e2
 have ahb: ∀j e es vers e' aL vers',st.hp j=some (.nest e es vers)→xw j=some (.nest e' aL vers')→e'=e∧aL=es∧vers'=vers:=by
  intro j e es vers e' aL vers' hj dN;obtain ⟨blk,e1,_,e3⟩:=back j _ dN (by simp);rw[hj] at e1;cases e1;rcases e3 with e3|⟨_,_,_,_,_,_,e3,_⟩
  ·cases e3;exact ⟨rfl,rfl,rfl⟩
  ·cases e3
 have hle:Le P w I β st.hp w I β bE:=by
  refine ⟨fun _ _ h=>h,fun _ _ _=>rfl,fun id blk ab=> ?_,fun _ _ _ _ _ _ _ _=>rfl,Le.tH (fun _ _ _ _ _ _=>rfl) fun id e es vers e' aL vers' ab bL=> ?_⟩
  ·by_cases hl:id<S.cL.length
   ·obtain ⟨blk',e1,e2⟩:=le1 id blk ab hl;exact ⟨blk',by simp only[bE,ak hl];exact e1,e2,fun _=>rfl⟩
   ·exact ⟨blk,by simp only[bE,aj hl];exact ab,ag.le_refl _,fun _=>rfl⟩
  ·by_cases hl:id<S.cL.length
   ·simp only[bE,ak hl] at bL;exact ahb _ _ _ _ _ _ _ ab bL
   ·simp only[bE,aj hl] at bL;rw[ab] at bL;cases bL;exact ⟨rfl,rfl,rfl⟩
 have iW:Dp S.cL.length β bE β xw:=fun id ab=>⟨by simp only[bE,ak ab],rfl⟩
 have qL: ∀j blk' blk o b,xw j=some blk'→st.hp j=some blk→bc P w o blk' b→bc P w o blk b:=by
  intro j blk' blk o b dN hj ho;obtain ⟨ct,e1,_,e3⟩:=back j blk' dN ho.alive;rw[hj] at e1;cases e1;rcases e3 with e3|⟨T,ls,cs,d,iD,_,e3,_,e5⟩
  ·subst e3;exact ho
  ·subst e3;subst e5;exact .root (by simp) (ho.flat (by simp))
 refine ⟨⟨⟨fun j blk' hj=> ?_,fun j1 j2 b1 b2 b' e1 e2 o1 o2=> ?_,fun j blk b' hj ho=> ?_,hS.h.iB⟩,hS.cE,hS.size,hS.new,hS.io⟩,fun k v hv=> ?_,fun μ hp0 ba hE=> ?_,fun j blk' hj hd=> ?_⟩
 ·by_cases hd:blk'= .dead
  ·subst hd;exact .dead
  ·obtain ⟨blk,e1,_,e3⟩:=back j blk' hj hd;have hr:=hS.h.rel j blk e1;generalize β j=o at hr;rcases e3 with e3|⟨T0,ls,cs,d,iD,q1,e3,e4,e5⟩
   ·subst e3;cases hr with
    | @var xs b' Ca T hb hh hs c6 hx gJ=>
     obtain ⟨dj,bs,d,iD,m1,m2,m3⟩:=get j _ hj;rw[e1] at m2;cases bs<;>simp only[m7] at m2<;>first|(cases m2;done)|skip
     ·rename_i T0 ls;simp only[gg] at m3;obtain ⟨hT,m2⟩:=Pd m2;obtain ⟨i1,i2,i3⟩:=Dr (P:=P) (w:=w) (I:=I) iW m2 m1;injection m3 with m4 m3;rw[m3];exact .var hb hh (by rw[i2];exact hs) c6 (fun i v y hi hy=>i3 iD i v y (fun x cS=>(hx i v x hi cS).mono hle) hy) gJ
     ·simp only[gg] at m3;cases m3
    | dU hb=>exact .dU hb
    | arr a0 a1 a2 a3 a4 a5 a6 a7=>exact .arr a0 a1 a2 a3 a4 a5 a6 a7
    | dead=>exact absurd rfl hd
    | nest a1 a2 a3=>exact .nest a1 a2 a3
    | gz a1=>exact .gz a1
    | out a1 a2 a3 a4 a5 a6 a7 a8 a9 a10=>exact .out a1 a2 a3 a4 a5 a6 a7 a8 a9 a10
    | map a1 a2 a3 a4 a5 a6 a7=>exact .map a1 a2 a3 a4 a5 a6 a7
   ·subst e3;subst e5;cases hr with
    | @var xs b' Ca T hb hh hs c6 hx gJ=>
     obtain ⟨i1,i2,i3⟩:=Dr (P:=P) (w:=w) (I:=I) iW e4 q1;exact .var hb hh (by rw[i2];exact hs) c6 (fun i v y hi hy=>i3 iD i v y (fun x cS=>(hx i v x hi cS).mono hle) hy) gJ
 ·obtain ⟨c1,x1,_,_⟩:=back j1 b1 e1 o1.alive;obtain ⟨c2,x2,_,_⟩:=back j2 b2 e2 o2.alive;exact hS.h.inj j1 j2 c1 c2 b' x1 x2 (qL _ _ _ _ _ e1 x1 o1) (qL _ _ _ _ _ e2 x2 o2)
 ·obtain ⟨c1,x1,_,_⟩:=back j blk hj ho.alive;exact hS.h.own j c1 b' x1 (qL _ _ _ _ _ hj x1 ho)
 ·change ai P w I β xw v (kO (gx S.cf (a++b)) k);unfold kO;cases Pe:eF (gx S.cf (a++b)) k with
  | none=>exact .undef
  | some y=>
   obtain ⟨s,d,iD,n1,n2,n3⟩:=(Pc h1 aU).2 b Pe;simp only[Option.getD_some,n3];exact (Pb (P:=P) (w:=w) (I:=I) iW n2 (fL.1 ng _ n1)).2 iD v (hv.mono hle)
 ·have h3:=hE.trans hle;refine ⟨h3.dV,h3.cE,fun id blk ab=> ?_,fun id blk blk' b' ab bL hd hb=> ?_,fun id e es vers e' aL vers' b2 q i c t v e1 l ab bL=> ?_⟩
  ·have hl:=ba id blk ab;obtain ⟨blk',k1,k2,k3⟩:=h3.blk id blk ab;simp only[bE,ak (show id<S.cL.length by omega)] at k1;exact ⟨blk',k1,k2,k3⟩
  ·have hl:=ba id blk ab;exact h3.size id blk blk' b' ab (by simp only[bE,ak (show id<S.cL.length by omega)];exact bL) hd hb
  ·have hl:=ba id _ ab;exact h3.row id e es vers e' aL vers' b2 q i c t v e1 l ab (by simp only[bE,ak (show id<S.cL.length by omega)];exact bL)
 ·obtain ⟨blk,e1,e2,_⟩:=back j blk' hj hd;exact ⟨blk,e1,e2,fun o b' ho=>qL _ _ _ _ _ hj e1 ho⟩
end
section
variable {P:Program} {A:dc} {w w':World} {I I' I2:Nat→Nat→Prop} {μ β β':Nat→Option Nat} {hp hp' hp0:Nat→Option ag} {C:af} {B:Nat} {M:Nat→Prop} {w0:Start}
inductive e8 (P:Program) (w:World) (β:Nat→Option Nat) (hp:Nat→Option ag):Place→Option Nat→ag→Prop
 | var {id:Nat} {T:TypeId} {cs Pf:List V}:hp id=some (.var T cs)→e8 P w β hp (.blk id) (β id) (.var T Pf)
 | arr {id:Nat} {e:TypeId} {es:List V} {fz:Bool}:hp id=some (.arr e es fz)→e8 P w β hp (.blk id) (β id) (.arr e es fz)
 | nest {id:Nat} {e:TypeId} {es:List V} {vers:List Nat}:hp id=some (.nest e es vers)→e8 P w β hp (.blk id) (β id) (.nest e es [0,0,0])
 | row {id ver b b':Nat} {path:Path} {e0 e':TypeId} {es l:List V} {vers:List Nat}:hp id=some (.nest e0 es vers)→β id=some b→At P w b e0 es path b' e' l→Ck P e'=true→
   0<path.length→path.length≤vers.length→bw vers (path.length-1)=ver→0<l.length→e8 P w β hp (.row id ver path) (some b') (.arr e' l false)
 | map {id:Nat} {t:TypeId} {es:List V}:hp id=some (.map t es)→e8 P w β hp (.blk id) (β id) (.map t es)
def Ds (P:Program) (w:World) (β:Nat→Option Nat) (hp:Nat→Option ag) (ρ:List Place) (μ:Nat→Option Nat) (hp0:Nat→Option ag):Prop:=
 ∀j p,fj ρ j=some p→∃blk,hp0 j=some blk∧e8 P w β hp p (μ j) blk
theorem qX: ∀{l m:List Place} {j:Nat} {p:Place},fj l j=some p→fj (l++m) j=some p
 | [],m,j,p,h=>by cases h
 | a::l,m,0,p,h=>h
 | a::l,m,j+1,p,h=>qX (l:=l) h
theorem oj: ∀{l:List Place} {j:Nat},fj l j=l[j]?
 | [],j=>by simp[fj]
 | a::l,0=>rfl
 | a::l,j+1=>by simp only[fj,oj,List.getElem?_cons_succ]
def ahc (hp:Nat→Option ag) (q:Nat×ag):Prop:=zw hp q∨∃T cs,q.2= .var T cs∧hp q.1=some (.var T cs)
structure Ext (P:Program) (w:World) (I:Nat→Nat→Prop) (β:Nat→Option Nat) (hp:Nat→Option ag) (h h':Hand) (d:List V) (u:List (Nat×ag)):Prop where
 ds:h'.ds=h.ds++d
 upd:h'.upd=h.upd++u
 Jk: ∀q∈u,ahc hp q
 pl: ∃m,h'.pl=h.pl++m
 nodup:(h.pl.map Place.id).Nodup→(h'.pl.map Place.id).Nodup
theorem Ext.refl (h:Hand):Ext P w I β hp h h [] []:=⟨by simp,by simp,by simp,⟨[],by simp⟩,id⟩
theorem Ext.trans {h1 h2 h3:Hand} {d1 d2:List V} {u1 u2:List (Nat×ag)} (a:Ext P w I β hp h1 h2 d1 u1) (b:Ext P w I β hp h2 h3 d2 u2):Ext P w I β hp h1 h3 (d1++d2) (u1++u2):=by
 obtain ⟨m1,e1⟩:=a.pl;obtain ⟨m2,e2⟩:=b.pl;exact ⟨by rw[b.ds,a.ds,jK],by rw[b.upd,a.upd,jK],fun q hq=>(eO.1 hq).elim (a.Jk q) (b.Jk q),⟨m1++m2,by rw[e2,e1,jK]⟩,fun h=>b.nodup (a.nodup h)⟩
theorem Ext.look {h h':Hand} {d:List V} {u:List (Nat×ag)} (a:Ext P w I β hp h h' d u) {j:Nat} {p:Place} (hj:fj h.pl j=some p):fj h'.pl j=some p:=by
 obtain ⟨m,e⟩:=a.pl;rw[e];exact qX hj
theorem Ext.leaf (h:Hand) (x:V):Ext P w I β hp h {h with ds:=h.ds++[x]} [x] []:=⟨rfl,by simp,by simp,⟨[],by simp⟩,id⟩
theorem ahd {α:Type} {ρ:List Place} {j:Nat} {p:Place} {k:List Place→Rd α} {r:α} {rd:List Nat} (h:(unify ρ j p k).run C hp=some (r,rd)) (hb: ∃id,p= .blk id∨∃ver path,p= .row id ver path):
  ∃lO,(k lO).run C hp=some (r,rd)∧(∃m,lO=ρ++m)∧fj lO j=some p∧((ρ.map Place.id).Nodup→(lO.map Place.id).Nodup):=by
 unfold unify at h;cases hc:Nat.blt j ρ.length with
 | true=>
  rw[hc] at h;obtain ⟨h1,h2⟩:=aE h;refine ⟨ρ,h2,⟨[],by simp⟩,?_,id⟩;unfold Vx at h1;split at h1
  ·rename_i a b he;rw[aO] at h1;subst h1;exact he
  ·cases h1
 | false=>
  rw[hc] at h;obtain ⟨h1,h2⟩:=aE h;simp only[aK,aO,mY] at h1;obtain ⟨rfl,h3⟩:=h1;refine ⟨ρ++[p],h2,⟨[p],rfl⟩,?_,fun hn=> ?_⟩
  ·rw[oj];simp
  ·rw[rK,B6];refine ⟨hn,by simp,fun a ha b hb=> ?_⟩;simp only[iO,List.map_nil,ff] at hb;subst hb;intro e;subst e;rw[zE ha] at h3;cases h3
theorem xx {α:Type} {h:Hand} {j:Nat} {p:Place} {k:List Place→Rd α} {r:α} {rd:List Nat} (hr:(unify h.pl j p k).run C hp=some (r,rd)) (ds:List V):
  ∃lO,(k lO).run C hp=some (r,rd)∧fj lO j=some p∧Ext P w I β hp h {h with pl:=lO,ds:=h.ds++ds} ds []:=by
 obtain ⟨lO,a,b,c,d⟩:=ahd hr (by cases p with|blk id=>exact ⟨id,.inl rfl⟩|row id ver path=>exact ⟨id,.inr ⟨ver,path,rfl⟩⟩);exact ⟨lO,a,c,⟨rfl,by simp,by simp,b,d⟩⟩
theorem ahe {o:Option Nat} {blk:ag} {e:TypeId} {id j:Nat} {v:Value} (hv:ai P w I β hp v (.whole e id)) (hl:e8 P w β hp (.blk id) o blk) (hj:hp0 j=some blk) (kZ:μ j=o):ai P w I' μ hp0 v (.whole e j):=by
 cases hl with
 | var h=>
  cases hv with
  | dD h2=>rw[h] at h2;cases h2
  | dy h2=>rw[h] at h2;cases h2
  | whole h2=>rw[h] at h2;cases h2
  | dp h2=>rw[h] at h2;cases h2
  | dJ h2=>rw[h] at h2;cases h2
  | ew h2=>rw[h] at h2;cases h2
 | arr h=>
  cases hv with
  | dD h2=>rw[h] at h2;cases h2
  | dy h2 hb=>rw[h] at h2;cases h2;exact .dy hj (kZ.trans hb)
  | whole h2 hb a b c=>rw[h] at h2;cases h2;exact .whole hj (kZ.trans hb) a b c
  | dp h2=>rw[h] at h2;cases h2
  | dJ h2=>rw[h] at h2;cases h2
  | ew h2=>rw[h] at h2;cases h2
 | nest h=>
  cases hv with
  | dD h2=>rw[h] at h2;cases h2
  | dy h2=>rw[h] at h2;cases h2
  | whole h2=>rw[h] at h2;cases h2
  | dp h2 hb a b c=>rw[h] at h2;cases h2;exact .dp hj (kZ.trans hb) a b c
  | dJ h2 hb=>rw[h] at h2;cases h2;exact .dJ hj (kZ.trans hb)
  | ew h2=>rw[h] at h2;cases h2
 | map h=>
  cases hv with
  | dD h2=>rw[h] at h2;cases h2
  | dy h2=>rw[h] at h2;cases h2
  | whole h2=>rw[h] at h2;cases h2
  | dp h2=>rw[h] at h2;cases h2
  | dJ h2=>rw[h] at h2;cases h2
  | ew h2=>rw[h] at h2;cases h2
theorem ahf {o:Option Nat} {blk:ag} {t:TypeId} {id j:Nat} {v:Value} (hv:ai P w I β hp v (.cK t id)) (hl:e8 P w β hp (.blk id) o blk) (hj:hp0 j=some blk) (kZ:μ j=o):ai P w I' μ hp0 v (.cK t j):=by
 cases hv with
 | jR h2=>cases hl<;>(rename_i h;rw[h] at h2;cases h2)
 | cK h2 hb=>
  cases hl<;>(rename_i h;rw[h] at h2;cases h2)
  exact .cK hj (kZ.trans hb)
theorem ahg {o:Option Nat} {blk:ag} {e:TypeId} {id off n j:Nat} {v:Value} (hv:ai P w I β hp v (.sub e id off n)) (hl:e8 P w β hp (.blk id) o blk) (hj:hp0 j=some blk) (kZ:μ j=o):ai P w I' μ hp0 v (.sub e j off n):=by
 cases hl with
 | var h=>
  cases hv with
  | ia h2=>rw[h] at h2;cases h2
  | gy h2=>rw[h] at h2;cases h2
  | sub h2=>rw[h] at h2;cases h2
 | arr h=>
  cases hv with
  | ia h2=>rw[h] at h2;cases h2
  | gy h2 hb=>rw[h] at h2;cases h2;exact .gy hj (kZ.trans hb)
  | sub h2 hb a b c=>rw[h] at h2;cases h2;exact .sub hj (kZ.trans hb) a b c
 | nest h=>
  cases hv with
  | ia h2=>rw[h] at h2;cases h2
  | gy h2=>rw[h] at h2;cases h2
  | sub h2=>rw[h] at h2;cases h2
 | map h=>
  cases hv with
  | ia h2=>rw[h] at h2;cases h2
  | gy h2=>rw[h] at h2;cases h2
  | sub h2=>rw[h] at h2;cases h2
theorem Xi {o:Option Nat} {blk:ag} {id i c j:Nat} {v:Value} (hv:ai P w I β hp v (.ptr id i c)) (hl:e8 P w β hp (.blk id) o blk) (hj:hp0 j=some blk) (kZ:μ j=o):ai P w I' μ hp0 v (.ptr j i c):=by
 cases hl with
 | @var _ T0 cs Pf h=>
  obtain ⟨b,hb,rfl⟩:=hv.gK h (by simp);exact ai.ptr (blk:= .var T0 Pf) hj (by simp) (kZ.trans hb)
 | @arr _ e es fz h=>
  obtain ⟨b,hb,rfl⟩:=hv.gK h (by simp);exact ai.ptr (blk:= .arr e es fz) hj (by simp) (kZ.trans hb)
 | @nest _ e es vers h=>
  obtain ⟨b,hb,rfl⟩:=hv.gK h (by simp);exact ai.ptr (blk:= .nest e es [0,0,0]) hj (by simp) (kZ.trans hb)
 | @map _ t es h=>
  obtain ⟨b,hb,rfl⟩:=hv.gK h (by simp);exact ai.ptr (blk:= .map t es) hj (by simp) (kZ.trans hb)
theorem ahh (cH: ∀id blk,hp id=some blk→ee P w I β hp (β id) blk) {id b i c:Nat} {e0 t:TypeId} {es l:List V} {vers:List Nat} {q:Path} {e:TypeId} {v:Value} (ab:hp id=some (.nest e0 es vers)) (hb:β id=some b)
  (ht:P.underlying t=some (.slice e)) (hc:oS P w b e0 es q i c t v (.list e l)) (hl:0<l.length): ∃b1 cap,v= .slice (some ⟨b1,0,none⟩) l.length cap∧cap*P.cellsOf e=bsize w b1∧l.length≤cap∧cap≤maxLen∧At P w b e0 es (q++[(i,c)]) b1 e l:=by
 obtain ⟨b2,e1,m,Ca,T,f,x,n1,n2,n3,n4,n5,n6⟩:=hc;have hr:=cH _ _ ab;cases hr with
 | gz ay=>rw[hb] at ay;cases ay
 | nest ay hr hn=>
  rw[hb] at ay;cases ay;have hR:=hr _ _ _ _ n1;obtain ⟨w8,_,c1,_,c2,c3⟩:=hR.cells;rw[n2] at c1;cases c1;have w9:c<P.cellsOf e1:=by rw[←ey hR.ok];exact (cq.1 n4).1
  obtain ⟨v',d1,d2⟩:=c3 i c x t n3 n4 w9;rw[n6] at d1;cases d1;rw[n5] at d2;generalize hy:V.list e l=y at d2;cases d2 with
  | fl a p=>unfold dB at a;rw[ht] at a;cases a
  | emp hu=>cases hy;simp at hl
  | row hu kU aU bO qJ=>
   cases hy;exact ⟨_,_,rfl,aU,bO,qJ,n1.snoc n2 n3 n4 ht n5 kU n6⟩
theorem ahi (S:aA P w I β hp B M w0) {o:Option Nat} {blk:ag} {e:TypeId} {id ver j:Nat} {path:Path} {v:Value} (hv:ai P w I β hp v (.row e id ver path)) (hl:e8 P w β hp (.row id ver path) o blk) (hj:hp0 j=some blk) (kZ:μ j=o):ai P w I' μ hp0 v (.whole e j):=by
 cases hl with
 | row h hb ha hf h1 h2 h3 h4=>
  obtain ⟨b2,q,i,c,t,l2,rfl,fD,ht,hc⟩:=hv.NX h h1 h2 h3;rw[hb] at fD;cases fD;obtain ⟨p1,p2⟩:=NY ha;have fo:=hc;obtain ⟨b3,e3,m3,Ca,T,f,x,n1,n2,n3,n4,n5,n6⟩:=fo;obtain ⟨q1,q2⟩:=IA n1 n3 n4 ht n5;rw[p1] at q1;rw[p2] at q2;cases q1;cases q2;obtain ⟨b1,cap,rfl,m1,m2,m4,m5⟩:=ahh S.h.rel h hb ht hc h4;have:=ahj ha m5;subst this;exact .whole hj kZ m1 m2 m4
where
 ahj {b b1 b2:Nat} {e e1 e2:TypeId} {es l l2:List V} {q:Path} (h:At P w b e es q b1 e1 l) (h2:At P w b e es q b2 e2 l2):b2=b1:=(h.fun h2).1
theorem Xj (S:aA P w I β hp B M w0) {α:Type} {l:LS} {x:V} {h:Hand} {k:Hand→Rd α} {r:α} {rd:List Nat} {v:Value} (hr:(Il P l x h k).run C hp=some (r,rd)) (hv:ai P w I β hp v x):
  ∃h' fE d u,(k h').run C hp=some (r,fE)∧Ext P w I β hp h h' d u∧d.length=l.size∧
   ∀(I':Nat→Nat→Prop) (μ:Nat→Option Nat) (hp0:Nat→Option ag),(∀b j,I b j→I' b j)→(∀q∈u,∀b j,vB P w β hp q.1 b j→I' b j)→∀ρ m,ρ=h'.pl++m→Ds P w β hp ρ μ hp0→∀rest,ai P w I' μ hp0 v (jM l (d++rest)):=by
 have plain: ∀{x':V} {ik:List Nat},(k {h with ds:=h.ds++[x']}).run C hp=some (r,ik)→l.size=1→(∀I' μ hp0 rest,ai P w I' μ hp0 v (jM l ([x']++rest)))→∃h' fE d u,(k h').run C hp=some (r,fE)∧Ext P w I β hp h h' d u∧d.length=l.size∧
   ∀(I':Nat→Nat→Prop) (μ:Nat→Option Nat) (hp0:Nat→Option ag),(∀b j,I b j→I' b j)→(∀q∈u,∀b j,vB P w β hp q.1 b j→I' b j)→∀ρ m,ρ=h'.pl++m→Ds P w β hp ρ μ hp0→∀rest,ai P w I' μ hp0 v (jM l (d++rest)):=
  fun hk hs hx=>⟨_,_,_,_,hk,Ext.leaf h _,hs.symm,fun I' μ hp0 _ _ _ _ _ _ rest=>hx I' μ hp0 rest⟩
 have sh: ∀{ik:List Nat},(k h).run C hp=some (r,ik)→l.size=0→(∀I' μ hp0 rest,ai P w I' μ hp0 v (jM l rest))→∃h' fE d u,(k h').run C hp=some (r,fE)∧Ext P w I β hp h h' d u∧d.length=l.size∧
   ∀(I':Nat→Nat→Prop) (μ:Nat→Option Nat) (hp0:Nat→Option ag),(∀b j,I b j→I' b j)→(∀q∈u,∀b j,vB P w β hp q.1 b j→I' b j)→∀ρ m,ρ=h'.pl++m→Ds P w β hp ρ μ hp0→∀rest,ai P w I' μ hp0 v (jM l (d++rest)):=
  fun hk hs hx=>⟨_,_,_,_,hk,Ext.refl h,by simp[hs],fun I' μ hp0 _ _ _ _ _ _ rest=>hx I' μ hp0 rest⟩
 unfold Il at hr;cases l with
 | tp=>exact sh hr rfl fun _ _ _ _=> .undef
 | int kd=>
  cases x<;>simp only at hr<;>first|(cases hr;done)|skip
  obtain ⟨h1,h2⟩:=aE hr;simp only[fK] at h1;subst h1;obtain rfl:=hv.fq;exact plain h2 rfl fun _ _ _ _=> .int
 | bool=>
  cases x<;>simp only at hr<;>first|(cases hr;done)|skip
  obtain rfl:=hv.kW;exact plain hr rfl fun _ _ _ _=> .bool
 | str=>
  cases x<;>simp only at hr<;>first|(cases hr;done)|skip
  obtain ⟨s,rfl,hl⟩:=hv.od;exact plain hr rfl fun _ _ _ _=> .str hl
 | nilS e=>
  cases x<;>simp only at hr<;>first|(cases hr;done)|skip
  obtain ⟨h1,h2⟩:=aE hr;cases hv with
  | nilS=>exact sh h2 rfl fun _ _ _ _=> .nilS
 | eb=>
  cases x<;>simp only at hr<;>first|(cases hr;done)|skip
  cases hv with
  | eb=>exact sh hr rfl fun _ _ _ _=> .eb
 | row e j cs=>
  cases x<;>simp only at hr<;>first|(cases hr;done)|skip
  rename_i e' id ver path;obtain ⟨e0,es,vers,l0,ab,p1,p2,p3,hr⟩:=pQ hr;obtain ⟨h1,h2⟩:=aE hr;simp only[aK,aO,fe] at h1;obtain ⟨rfl,qM,hp3⟩:=h1;have:=xt qM;subst this;obtain ⟨lO,a,b,c⟩:=xx (P:=P) (w:=w) (I:=I) (β:=β) h2 (path.map fun p=>fh p.1);refine ⟨_,_,path.map fun p=>fh p.1,[],a,c,by simp[LS.size],fun I' μ hp0 i1 i2 ρ m dO cB rest=> ?_⟩;obtain ⟨blk,k1,k2⟩:=cB j _ (by rw[dO];exact qX b);obtain ⟨bb,q,i,cc,t,l,rfl,hb,ht,hc⟩:=hv.NX ab p1 p2 p3;have qK:blk= .nest e0 es [0,0,0]∧μ j=β id:=by
   generalize μ j=o at k2;cases k2 with
   | var h=>rw[ab] at h;cases h
   | arr h=>rw[ab] at h;cases h
   | map h=>rw[ab] at h;cases h
   | nest h=>rw[ab] at h;cases h;exact ⟨rfl,rfl⟩
  obtain ⟨rfl,kZ⟩:=qK;simp only[jM,Jh];have hq:q.length<3:=by rw[gD,List.length_singleton] at hp3;omega
  refine .row k1 (kZ.trans hb) (by simpa using hq) ?_ ht hc
  match q.length,hq with
  | 0,_=>rfl
  | 1,_=>rfl
  | 2,_=>rfl
 | dk j cs c=>cases hr
 | Cf k n=>cases hr
 | H4 b=>cases hr
 | eo t=>
  cases x<;>simp only at hr<;>first|(cases hr;done)|skip
  obtain ⟨h1,h2⟩:=aE hr;cases hv with
  | eo=>exact sh h2 rfl fun _ _ _ _=> .eo
 | cK t j=>
  cases x<;>simp only at hr<;>first|(cases hr;done)|skip
  rename_i t' id;obtain ⟨h1,h2⟩:=aE hr;rw[aO] at h1;subst h1;obtain ⟨lO,a,b,c⟩:=xx (P:=P) (w:=w) (I:=I) (β:=β) h2 [];refine ⟨_,_,[],[],a,by simpa using c,rfl,fun I' μ hp0 i1 i2 ρ m dO cB rest=> ?_⟩;obtain ⟨blk,k1,k2⟩:=cB j _ (by rw[dO];exact qX b);exact ahf hv k2 k1 rfl
 | list e=>
  obtain ⟨⟨y,u⟩,l1,l2,h1,h2⟩:=m9 hr;cases y<;>simp only at h2<;>first|(cases h2;done)|skip
  rename_i e' es;obtain ⟨h3,h4⟩:=aE h2;rw[aO] at h3;subst h3;obtain ⟨p1,p2⟩:=IB S.h.rel h1 hv;exact ⟨_,_,[.list e es],u,h4,⟨rfl,rfl,fun q hq=> .inl (p1 q hq),⟨[],by simp⟩,id⟩,rfl,fun I' μ hp0 i1 i2 _ _ _ _ rest=> .list (p2 I' i1 i2)⟩
 | whole e j=>
  cases x<;>simp only at hr<;>first|(cases hr;done)|skip
  ·rename_i e' id;obtain ⟨h1,h2⟩:=aE hr;rw[aO] at h1;subst h1;obtain ⟨lO,a,b,c⟩:=xx (P:=P) (w:=w) (I:=I) (β:=β) h2 [];refine ⟨_,_,[],[],a,by simpa using c,rfl,fun I' μ hp0 i1 i2 ρ m dO cB rest=> ?_⟩;obtain ⟨blk,k1,k2⟩:=cB j _ (by rw[dO];exact qX b);exact ahe hv k2 k1 rfl
  ·rename_i e' id ver path;obtain ⟨h1,h2⟩:=aE hr;rw[aO] at h1;subst h1;obtain ⟨lO,a,b,c⟩:=xx (P:=P) (w:=w) (I:=I) (β:=β) h2 [];refine ⟨_,_,[],[],a,by simpa using c,rfl,fun I' μ hp0 i1 i2 ρ m dO cB rest=> ?_⟩;obtain ⟨blk,k1,k2⟩:=cB j _ (by rw[dO];exact qX b);exact ahi S hv k2 k1 rfl
 | sub e j=>
  cases x<;>simp only at hr<;>first|(cases hr;done)|skip
  rename_i e' id o n;obtain ⟨h1,h2⟩:=aE hr;rw[aO] at h1;subst h1;obtain ⟨lO,a,b,c⟩:=xx (P:=P) (w:=w) (I:=I) (β:=β) h2 [fh o,fh n];refine ⟨_,_,[fh o,fh n],[],a,c,rfl,fun I' μ hp0 i1 i2 ρ m dO cB rest=> ?_⟩;obtain ⟨blk,k1,k2⟩:=cB j _ (by rw[dO];exact qX b);simpa[jM,V.nth] using ahg (I':=I') hv k2 k1 rfl
 | ptr j=>
  cases x<;>simp only at hr<;>first|(cases hr;done)|skip
  rename_i id i c;obtain ⟨lO,a,b,c'⟩:=xx (P:=P) (w:=w) (I:=I) (β:=β) hr [fh i,fh c];refine ⟨_,_,[fh i,fh c],[],a,c',rfl,fun I' μ hp0 i1 i2 ρ m dO cB rest=> ?_⟩;obtain ⟨blk,k1,k2⟩:=cB j _ (by rw[dO];exact qX b);simpa[jM,V.nth] using Xi (I':=I') hv k2 k1 rfl
 | aG j i c=>
  cases x<;>simp only at hr<;>first|(cases hr;done)|skip
  rename_i id i' c';obtain ⟨h1,h2⟩:=aE hr;simp only[aK,aO] at h1;obtain ⟨rfl,rfl⟩:=h1;obtain ⟨lO,a,b,c'⟩:=xx (P:=P) (w:=w) (I:=I) (β:=β) h2 [];refine ⟨_,_,[],[],a,by simpa using c',rfl,fun I' μ hp0 i1 i2 ρ m dO cB rest=> ?_⟩;obtain ⟨blk,k1,k2⟩:=cB j _ (by rw[dO];exact qX b);exact Xi hv k2 k1 rfl
end
section
variable {P:Program} {A:dc} {w w':World} {I I' I2:Nat→Nat→Prop} {μ β β':Nat→Option Nat} {hp hp' hp0:Nat→Option ag} {C:af} {B:Nat} {M:Nat→Prop} {w0:Start}
def om (P:Program) (w:World) (I:Nat→Nat→Prop) (β:Nat→Option Nat) (hp:Nat→Option ag) (h':Hand) (u:List (Nat×ag)) (K:(Nat→Nat→Prop)→(Nat→Option Nat)→(Nat→Option ag)→Prop):Prop:=
 ∀(I':Nat→Nat→Prop) (μ:Nat→Option Nat) (hp0:Nat→Option ag),(∀b j,I b j→I' b j)→(∀q∈u,∀b j,vB P w β hp q.1 b j→I' b j)→∀ρ m,ρ=h'.pl++m→Ds P w β hp ρ μ hp0→K I' μ hp0
theorem om.later {h h':Hand} {d:List V} {u u':List (Nat×ag)} {K:(Nat→Nat→Prop)→(Nat→Option Nat)→(Nat→Option ag)→Prop} (t:om P w I β hp h u K) (e:Ext P w I β hp h h' d u'):om P w I β hp h' (u++u') K:=by
 obtain ⟨m1,e1⟩:=e.pl;exact fun I' μ hp0 i1 i2 ρ m dO cB=>t I' μ hp0 i1 (fun q hq=>i2 q (eO.2 (.inl hq))) ρ (m1++m) (by grind) cB
theorem om.more {h:Hand} {u u':List (Nat×ag)} {K:(Nat→Nat→Prop)→(Nat→Option Nat)→(Nat→Option ag)→Prop} (t:om P w I β hp h u K):om P w I β hp h (u'++u) K:=
 fun I' μ hp0 i1 i2 ρ m dO cB=>t I' μ hp0 i1 (fun q hq=>i2 q (eO.2 (.inr hq))) ρ m dO cB
theorem Dt (S:aA P w I β hp B M w0) {α:Type}: ∀{ls:List LS} {xs:List V} {h:Hand} {k:Hand→Rd α} {r:α} {rd:List Nat} {vs:List Value},(tw P ls xs h k).run C hp=some (r,rd)→vs.length=xs.length→
  (∀(j:Nat) v x,vs[j]? =some v→xs[j]? =some x→ai P w I β hp v x)→
  ∃h' fE d u,(k h').run C hp=some (r,fE)∧Ext P w I β hp h h' d u∧d.length=lA ls∧ls.length=xs.length∧
   om P w I β hp h' u fun I' μ hp0=> ∀rest,(gv ls (d++rest)).length=xs.length∧∀(j:Nat) v y,vs[j]? =some v→(gv ls (d++rest))[j]? =some y→ai P w I' μ hp0 v y
 | [],[],h,k,r,rd,vs,hr,hl,hv=>⟨h,rd,[],[],hr,Ext.refl h,rfl,rfl,fun I' μ hp0 _ _ _ _ _ _ rest=>⟨rfl,fun j v y _ hy=>by grind⟩⟩
 | [],_::_,h,k,r,rd,vs,hr,hl,hv=>by cases hr
 | _::_,[],h,k,r,rd,vs,hr,hl,hv=>by cases hr
 | l::ls,x::xs,h,k,r,rd,vs,hr,hl,hv=>by
  cases vs with
  | nil=>simp at hl
  | cons v vs=>
   simp only[tw] at hr;obtain ⟨h1,ik,d1,u1,a1,a2,a3,a4⟩:=Xj S hr (hv 0 v x rfl rfl);obtain ⟨h2,vQ,d2,u2,b1,b2,b3,b5,b4⟩:=Dt S a1 (by grind) (vs:=vs) (fun j v x hj hx=>hv (j+1) v x (by grind) (by grind));have a4':om P w I β hp h1 u1 fun I' μ hp0=> ∀rest,ai P w I' μ hp0 v (jM l (d1++rest)):=a4;refine ⟨h2,vQ,d1++d2,u1++u2,b1,a2.trans b2,by simp only[gD,lA];omega,by simp[b5],fun I' μ hp0 i1 i2 ρ m dO cB rest=> ?_⟩;have k1:=(a4'.later b2) I' μ hp0 i1 i2 ρ m dO cB (d2++rest);obtain ⟨k2,k3⟩:=b4.more I' μ hp0 i1 i2 ρ m dO cB rest;simp only[gv];grind
theorem ahk {t:TypeId} {v:Value} {y:V} (hv:ai P w I β hp v y) (h:eR P t y=true):Plain P w I v y:=by
 cases y with
 | int k n=>exact hv.fq
 | bool b=>exact hv.kW
 | str s=>obtain ⟨s',rfl,hs⟩:=hv.od;exact ⟨s',rfl,hs⟩
 | list e es=>cases hv with
  | list hp'=>exact hp'
 | _=>unfold eR at h;grind
theorem Xk: ∀{ts:List TypeId} {ls:List LS},zo P ts ls=true→ts.length=ls.length∧∀(ds:List V) (j:Nat) t y,ts[j]? =some t→(gv ls ds)[j]? =some y→eR P t y=true
 | [],[],_=>⟨rfl,fun ds j t y h=>by simp at h⟩
 | [],_::_,h=>by cases h
 | _::_,[],h=>by cases h
 | t::ts,l::ls,h=>by
  simp only[zo,aK] at h;obtain ⟨h1,h2⟩:=Xk h.2;refine ⟨by simp[h1],fun ds j t' y ht hy=> ?_⟩;cases j with
  | succ j=>exact h2 _ j t' y (by grind) (by simpa[gv] using hy)
  | zero=>
   simp[gv] at ht hy;subst ht;subst hy;have h:=h.1;unfold eR;split at h<;>simp_all [jM]
theorem ahl (S:aA P w I β hp B M w0) {α:Type} {s:VS} {x:V} {h:Hand} {k:Hand→Rd α} {r:α} {rd:List Nat} {v:Value} (hr:(zp P s x h k).run C hp=some (r,rd)) (hv:ai P w I β hp v x):
  ∃h' fE d u,(k h').run C hp=some (r,fE)∧Ext P w I β hp h h' d u∧d.length=s.size∧
   om P w I β hp h' u fun I' μ hp0=> ∀rest,ai P w I' μ hp0 v (mr s (d++rest)):=by
 cases s with
 | one l=>
  simp only[zp] at hr;obtain ⟨h1,ik,d1,u1,a1,a2,a3,a4⟩:=Xj S hr hv;exact ⟨h1,ik,d1,u1,a1,a2,a3,a4⟩
 | agg ls=>
  cases x<;>simp only[zp] at hr<;>first|(cases hr;done)|skip
  rename_i xs;obtain ⟨cs,rfl,e1,e2⟩:=hv.lF;obtain ⟨h1,ik,d1,u1,a1,a2,a3,a5,a4⟩:=Dt S hr (vs:=cs.toList) (by omega) (fun j v x hj hx=>e2 j v x (by grind) hx);refine ⟨h1,ik,d1,u1,a1,a2,a3,fun I' μ hp0 i1 i2 ρ m dO cB rest=> ?_⟩;obtain ⟨k1,k2⟩:=a4 I' μ hp0 i1 i2 ρ m dO cB rest;exact .agg (by omega) fun j v y hj hy=>k2 j v y (by grind) hy
 | aW ls=>cases x<;>cases hr
 | pref ts ls=>
  have cells: ∀{xs:List V} {vs:List Value} {h0:Hand} {Xl:List Nat},(tw P ls xs h0 k).run C hp=some (r,Xl)→vs.length=xs.length→zo P ts ls=true→(∀(j:Nat) v x,vs[j]? =some v→xs[j]? =some x→ai P w I β hp v x)→
    ∃h' fE d u,(k h').run C hp=some (r,fE)∧Ext P w I β hp h0 h' d u∧d.length=lA ls∧ls.length=xs.length∧om P w I β hp h' u fun I' μ hp0=> ∀rest,(gv ls (d++rest)).length=xs.length∧ts.length=xs.length∧
     ∀(j:Nat) t v y,vs[j]? =some v→ts[j]? =some t→(gv ls (d++rest))[j]? =some y→Pure P w I' t v y:=by
   intro xs vs h0 Xl hr0 hl ef hv0;obtain ⟨h1,ik,d1,u1,a1,a2,a3,a5,a4⟩:=Dt S hr0 hl hv0;obtain ⟨t1,t2⟩:=Xk ef;refine ⟨h1,ik,d1,u1,a1,a2,a3,a5,fun I' μ hp0 i1 i2 ρ m dO cB rest=> ?_⟩;obtain ⟨k1,k2⟩:=a4 I' μ hp0 i1 i2 ρ m dO cB rest;exact ⟨k1,t1.trans a5,fun j t v y hj ht hy=>(ahk (k2 j v y hj hy) (t2 _ j t y ht hy)).pure (t2 _ j t y ht hy)⟩
  cases x<;>simp only[zp] at hr<;>first|(cases hr;done)|skip
  ·rename_i id i c;obtain ⟨l0,ub⟩:=run_get hr;clear hr;cases ab:hp id with
   | none=>rw[ab] at ub;cases ub
   | some blk=>
    rw[ab] at ub;cases blk<;>simp only at ub<;>first|(cases ub;done)|skip
    rename_i T cs;obtain ⟨hc,nk⟩:=aE ub;clear ub;simp only[aK,aO,fe] at hc;obtain ⟨rfl,ef,hle⟩:=hc;obtain ⟨b,hb,rfl⟩:=hv.gK ab (by simp);have cH:=S.h.rel id _ ab;rw[hb] at cH;cases cH with
    | @var _ _ Ca _ ay hh hs hI hx _=>
    cases ay;obtain ⟨h1,ik,d1,u1,a1,a2,a3,a5,a4⟩:=cells nk (vs:=(Ca.toList.drop c).take ls.length) (by simp;omega) ef (fun j v x hj cS=>by
     grind)
    refine ⟨h1,ik,d1,(id,.var T cs)::u1,a1,⟨a2.ds,by rw[a2.upd];simp,fun q hq=> ?_,a2.pl,a2.nodup⟩,a3,fun I' μ hp0 i1 i2 ρ m dO cB rest=> ?_⟩
    ·rcases lu.1 hq with rfl|hq
     ·exact .inr ⟨T,cs,rfl,ab⟩
     ·exact a2.Jk q hq
    ·obtain ⟨k1,k2,k3⟩:=a4 I' μ hp0 i1 (fun q hq=>i2 q (j6 _ hq)) ρ m dO cB rest;have hn:(gv ls (d1++rest)).length=ls.length:=k1.trans a5.symm;simp only[mr,ag.sz,Nat.zero_mul,eQ];refine .pref (k2.trans k1.symm) (fun j hj=>i2 _ (za ..) b (c+j) ⟨_,ab,.var hb (by omega)⟩) (fun j t y ht hy=> ?_);have hj:=(cq.1 hy).1;have qM:c+j<Ca.size:=by omega
     refine ⟨Ca[c+j],by rw[cell?_cells hh];grind,k3 j t _ y ?_ ht hy⟩;grind
  ·rename_i rP cs;obtain ⟨hc,nk⟩:=aE hr;clear hr;simp only[aK,fe] at hc;obtain ⟨Xm,ef,hle⟩:=hc;have Xm:=xt Xm;obtain ⟨b,o,rfl,q1,q2,q3⟩:=hv.CP;have hg: ∀j,j<cs.length→∃v,w.cell? ⟨b,o+j,none⟩=some v∧∃t,rP[j]? =some t∧∀x,cs[j]? =some x→Pure P w I t v x:=fun j hj=>by
    simp_all
   let vs:List Value:=(List.range ls.length).map fun j=>(w.cell? ⟨b,o+j,none⟩).getD undef
   have IK: ∀(j:Nat),j<ls.length→vs[j]? =some ((w.cell? ⟨b,o+j,none⟩).getD undef):=fun j hj=>by grind
   obtain ⟨h1,ik,d1,u1,a1,a2,a3,a5,a4⟩:=cells nk (vs:=vs) (by grind) ef (fun j v x hj cS=>by
    have dj:j<ls.length:=by grind
    rw[gR dj] at cS;obtain ⟨v',v1,t,_,v2⟩:=hg j (by omega);rw[IK j dj,v1] at hj;cases hj;exact .rT (v2 x cS))
   refine ⟨h1,ik,d1,u1,a1,a2,a3,fun I' μ hp0 i1 i2 ρ m dO cB rest=> ?_⟩;obtain ⟨k1,k2,k3⟩:=a4 I' μ hp0 i1 i2 ρ m dO cB rest;have hn:(gv ls (d1++rest)).length=ls.length:=k1.trans a5.symm;refine .pref (k2.trans k1.symm) (fun j hj=>i1 _ _ (q2 j (by omega))) (fun j t y ht hy=> ?_);grind
 | fn f a b=>
  cases x<;>simp only[zp] at hr<;>first|(cases hr;done)|skip
  rename_i f' xs ys;obtain ⟨hc,nk⟩:=aE hr;clear hr;rw[aO] at hc;subst hc;cases hv with
  | @fn _ fs cs _ _ q1 q2 q3 q4=>
   obtain ⟨h1,ik,d1,u1,a1,a2,a3,a5,a4⟩:=Dt S nk (vs:=fs.toList) (by omega) (fun j v x hj hx=>q2 j v x (by grind) hx);obtain ⟨h2,vQ,d2,u2,b1,b2,b3,b5,b4⟩:=Dt S a1 (vs:=cs.toList) (by omega) (fun j v x hj hx=>q4 j v x (by grind) hx);refine ⟨h2,vQ,d1++d2,u1++u2,b1,a2.trans b2,by simp only[gD,VS.size];omega,fun I' μ hp0 i1 i2 ρ m dO cB rest=> ?_⟩;obtain ⟨k1,k2⟩:=(a4.later b2) I' μ hp0 i1 i2 ρ m dO cB (d2++rest);obtain ⟨k3,k4⟩:=b4.more I' μ hp0 i1 i2 ρ m dO cB rest;simp only[mr];rw[show (d1++d2++rest).drop (lA a)=d2++rest by grind,jK];exact .fn (by omega) (fun j v y hj hy=>k2 j v y (by grind) hy) (by omega) (fun j v y hj hy=>k4 j v y (by grind) hy)
theorem Pg (S:aA P w I β hp B M w0) {α:Type}: ∀{ls:List VS} {xs:List V} {h:Hand} {k:Hand→Rd α} {r:α} {rd:List Nat} {vs:List Value},(Co P ls xs h k).run C hp=some (r,rd)→vs.length=xs.length→
  (∀(j:Nat) v x,vs[j]? =some v→xs[j]? =some x→ai P w I β hp v x)→
  ∃h' fE d u,(k h').run C hp=some (r,fE)∧Ext P w I β hp h h' d u∧d.length=vo ls∧ls.length=xs.length∧
   om P w I β hp h' u fun I' μ hp0=> ∀rest,(gY ls (d++rest)).length=xs.length∧∀(j:Nat) v y,vs[j]? =some v→(gY ls (d++rest))[j]? =some y→ai P w I' μ hp0 v y
 | [],[],h,k,r,rd,vs,hr,hl,hv=>⟨h,rd,[],[],hr,Ext.refl h,rfl,rfl,fun I' μ hp0 _ _ _ _ _ _ rest=>⟨rfl,fun j v y _ hy=>by grind⟩⟩
 | [],_::_,h,k,r,rd,vs,hr,hl,hv=>by cases hr
 | _::_,[],h,k,r,rd,vs,hr,hl,hv=>by cases hr
 | l::ls,x::xs,h,k,r,rd,vs,hr,hl,hv=>by
  cases vs with
  | nil=>simp at hl
  | cons v vs=>
   simp only[Co] at hr;obtain ⟨h1,ik,d1,u1,a1,a2,a3,a4⟩:=ahl S hr (hv 0 v x rfl rfl);obtain ⟨h2,vQ,d2,u2,b1,b2,b3,b5,b4⟩:=Pg S a1 (by grind) (vs:=vs) (fun j v x hj hx=>hv (j+1) v x (by grind) (by grind));refine ⟨h2,vQ,d1++d2,u1++u2,b1,a2.trans b2,by simp only[gD,vo];omega,by simp[b5],fun I' μ hp0 i1 i2 ρ m dO cB rest=> ?_⟩;have k1:=(a4.later b2) I' μ hp0 i1 i2 ρ m dO cB (d2++rest);obtain ⟨k2,k3⟩:=b4.more I' μ hp0 i1 i2 ρ m dO cB rest;simp only[gY];grind
def Jl:List BS→Nat
 | []=>0
 | b::l=>b.size+Jl l
theorem Xn: ∀{b:Nat} {e e':TypeId} {es:List V} {v:V},(∀q b' e' m,At P w b e es q b' e' m→gh P w I b' e' m)→∀(path:Path),mq P e path=some e'→eS P e es path=some v→0<v.toList.length→
  ∃b1,At P w b e es path b1 e' v.toList
 | b,e,e',es,v,cX,[],ht,hv,hl=>by
  simp only[mq,et] at ht;simp only[eS,et] at hv;subst ht;subst hv;exact ⟨b,.here⟩
 | b,e,e',es,v,cX,(i,c)::q,ht,hv,hl=>by
  simp only[mq] at ht;simp only[eS] at hv;obtain ⟨x,hx,hv⟩:=bind_some hv;cases Xo:(mq.Cg P e)[c]? with
  | none=>grind
  | some t=>
   rw[Xo] at ht;simp only at ht;have Ph:(aN P e)[c]? =some t:=Xo;cases hu:P.underlying t with
   | none=>grind
   | some d=>
    rw[hu] at ht;cases d<;>simp only at ht<;>first|(cases ht;done)|skip
    rename_i e1;rw[pR Ph] at hv;have hR:=cX _ _ _ _ .here;obtain ⟨Ca,_,c1,_,c2,c3⟩:=hR.cells;have w9:c<P.cellsOf e:=by rw[←ey hR.ok];grind
    obtain ⟨u,d1,d2⟩:=c3 i c x t hx Ph w9;rw[d2.vE] at hv;generalize hy:bW P e x c=y at d2 hv;cases d2 with
    | fl a p=>unfold dB at a;grind
    | @emp e2 a o4=>
     rw[hu] at o4;cases o4;simp only at hv;cases q with
     | nil=>simp only[eS,et] at hv;subst hv;simp[V.toList] at hl
     | cons a q=>simp[eS] at hv
    | @row e2 bI b2 cap o4 kU aU bO qJ=>
     rw[hu] at o4;cases o4;simp only at hv;have tJ: ∀{q b' e' aL},At P w b2 e1 bI q b' e' aL→At P w b e es ((i,c)::q) b' e' aL:=fun h=> .step c1 hx Ph hu hy kU d1 h;obtain ⟨b1,pV⟩:=Xn (fun q b' e' m h=>cX _ _ _ _ (tJ h)) q ht hv hl;grind
def uc (P:Program) (I:Nat→Nat→Prop) (blk:ag) (b:Nat):Prop:= ∀j,I b j→∃e es,blk= .arr e es true∧j<es.length*P.cellsOf e
theorem uc.no {blk:ag} {b:Nat} (h:uc P I blk b) (hn: ∀e es,blk≠ .arr e es true) (j:Nat): ¬I b j:=fun hi=>by
 obtain ⟨e,es,h1,_⟩:=h j hi;exact hn e es h1
theorem Xp (S:aA P w I β hp B M w0) {α:Type}: ∀{bs:List BS} {j:Nat} {h:Hand} {k:Hand→Rd α} {r:α} {rd:List Nat},(tx P bs j h k).run C hp=some (r,rd)→
  ∃h' fE d u,(k h').run C hp=some (r,fE)∧Ext P w I β hp h h' d u∧d.length=Jl bs∧
   ∀rest,(fO bs (d++rest)).length=bs.length∧∃o:Nat→Option Nat,
    (∀(i:Nat) blk,(fO bs (d++rest))[i]? =some blk→∃p,fj h'.pl (j+i)=some p∧e8 P w β hp p (o i) blk)∧
    om P w I β hp h' u fun I' μ hp0=> ∀(i:Nat) blk,(fO bs (d++rest))[i]? =some blk→(∀b,bc P w (o i) blk b→uc P I' blk b)→ee P w I' μ hp0 (o i) blk
 | [],j,h,k,r,rd,hr=>⟨h,rd,[],[],hr,Ext.refl h,rfl,fun rest=>⟨rfl,fun _=>none,fun i blk hb=>by simp[fO] at hb,fun I' μ hp0 _ _ _ _ _ _ i blk hb=>by simp[fO] at hb⟩⟩
 | b::bs,j,h,k,r,rd,hr=>by
  simp only[tx] at hr;have fin: ∀{h1:Hand} {ik:List Nat} {d1:List V} {u1:List (Nat×ag)} {o1:Option Nat} {p:Place},(tx P bs (j+1) h1 k).run C hp=some (r,ik)→Ext P w I β hp h h1 d1 u1→d1.length=b.size→fj h.pl j=some p→
    (∀rest,e8 P w β hp p o1 (gg b (d1++rest)))→(∀rest,om P w I β hp h1 u1 fun I' μ hp0=>(∀bb,bc P w o1 (gg b (d1++rest)) bb→uc P I' (gg b (d1++rest)) bb)→ee P w I' μ hp0 o1 (gg b (d1++rest)))→
    ∃h' fE d u,(k h').run C hp=some (r,fE)∧Ext P w I β hp h h' d u∧d.length=Jl (b::bs)∧
     ∀rest,(fO (b::bs) (d++rest)).length=(b::bs).length∧∃o:Nat→Option Nat,
      (∀(i:Nat) blk,(fO (b::bs) (d++rest))[i]? =some blk→∃p,fj h'.pl (j+i)=some p∧e8 P w β hp p (o i) blk)∧
      om P w I β hp h' u fun I' μ hp0=> ∀(i:Nat) blk,(fO (b::bs) (d++rest))[i]? =some blk→(∀b,bc P w (o i) blk b→uc P I' blk b)→ee P w I' μ hp0 (o i) blk:=by
   intro h1 ik d1 u1 o1 p hk he hd bE hl ht;obtain ⟨h2,vQ,d2,u2,b1,b2,b3,b4⟩:=Xp S hk;refine ⟨h2,vQ,d1++d2,u1++u2,b1,he.trans b2,by simp only[gD,Jl];omega,fun rest=> ?_⟩;obtain ⟨c1,o,c2,c3⟩:=b4 rest;simp only[fO];rw[show (d1++d2++rest).drop b.size=d2++rest by grind,jK];refine ⟨by simp[c1],fun i=>match i with|0=>o1|i+1=>o i,fun i blk hb=> ?_,fun I' μ hp0 i1 i2 ρ m dO cB i blk hb c6=> ?_⟩
   ·cases i with
    | zero=>
     simp at hb;subst hb;exact ⟨p,b2.look (he.look bE),hl _⟩
    | succ i=>
     grind
   ·cases i with
    | zero=>
     simp at hb;subst hb;exact ((ht _).later b2) I' μ hp0 i1 i2 ρ m dO cB c6
    | succ i=>exact c3.more I' μ hp0 i1 i2 ρ m dO cB i blk (by grind) c6
  cases bE:fj h.pl j with
  | none=>rw[bE] at hr;cases hr
  | some p=>
   rw[bE] at hr;cases p with
   | blk id=>
    obtain ⟨l1,hr⟩:=run_get hr;cases ab:hp id with
    | none=>rw[ab] at hr;cases hr
    | some blk=>
     rw[ab] at hr;cases blk with
     | dead=>cases hr
     | out _ _ _ _=>cases hr
     | var T0 cs=>
      cases b<;>simp only at hr<;>first|(cases hr;done)|skip
      rename_i T1 ss;obtain ⟨hT,ub⟩:=aE hr;clear hr;rw[aO] at hT;subst hT;have cH:=S.h.rel id _ ab;generalize ho:β id=o at cH;cases cH with
      | @var _ bb Ca T hb hh hs hI hx gJ=>
       obtain ⟨h1,ik,d1,u1,a1,a2,a3,a5,a4⟩:=Pg S ub (vs:=Ca.toList) (by omega) (fun j v x hj cS=>hx j v x (by grind) cS);refine fin (o1:=β id) a1 a2 a3 bE (fun rest=> .var ab) fun rest I' μ hp0 i1 i2 ρ m dO cB c6=> ?_;obtain ⟨k1,k2⟩:=a4 I' μ hp0 i1 i2 ρ m dO cB rest;exact .var (ho.trans hb) hh (by omega) ((c6 _ (.root (by simp[gg]) (ho.trans hb))).no (by simp[gg])) (fun i v y hi hy=>k2 i v y (by grind) hy) gJ
     | arr e' es fz=>
      cases b with
      | arr e oa=>
       obtain ⟨hc,nk⟩:=aE hr;clear hr;simp only[aK,aO] at hc;obtain ⟨rfl,fo⟩:=hc;obtain rfl:oa=fz:=by cases fz<;>cases oa<;>first|rfl|cases fo
       refine fin (d1:=[.list e es]) (o1:=β id) nk (Ext.leaf h _) rfl bE (fun rest=>e8.arr ab) fun rest I' μ hp0 i1 i2 ρ m dO cB c6=> ?_;replace c6: ∀bb,bc P w (β id) (.arr e es oa) bb→uc P I' (.arr e es oa) bb:=c6;change ee P w I' μ hp0 (β id) (.arr e es oa);have cH:=S.h.rel id _ ab;generalize ho:β id=o at cH c6⊢;cases cH with
       | dU hb=>exact .dU hb
       | arr a0 a1 a2 a3 a4 a5 a6 a7=>
        have hn:=c6 _ (.root (by simp) a2);refine .arr a0 a1 a2 a3 a4 (fun _ j hi=> ?_) (fun hz=>hn.no (by simp[hz])) fun i j x t' y1 y2 y3=> ?_
        ·obtain ⟨e',aL,h1,h2⟩:=hn j hi;cases h1;exact h2
        ·obtain ⟨v,z1,z2⟩:=a7 i j x t' y1 y2 y3;exact ⟨v,z1,z2.mono i1 fun _ _ _=>rfl⟩
      | _=>cases hr
     | nest e' es vers=>
      cases b with
      | nest e=>
       obtain ⟨hc,nk⟩:=aE hr;clear hr;rw[aO] at hc;subst hc;refine fin (d1:=[.list e es]) (o1:=β id) nk (Ext.leaf h _) rfl bE (fun rest=>e8.nest ab) fun rest I' μ hp0 i1 i2 ρ m dO cB c6=> ?_;have Xq: ∀bb,bc P w (β id) (.nest e es [0,0,0]) bb→∀j,¬I' bb j:=fun bb h=>uc.no (blk:= .nest e es [0,0,0]) (c6 bb h) (by simp);change ee P w I' μ hp0 (β id) (.nest e es [0,0,0]);have cH:=S.h.rel id _ ab;generalize ho:β id=o at cH Xq⊢;cases cH with
       | gz hb=>exact .gz hb
       | nest hb cX j8=>
        refine .nest hb (fun q b' e1 m1 hq=> ?_) j8;obtain ⟨ok,⟨Ca,Tc,c1,c0,c2,c3⟩,nI⟩:=cX q b' e1 m1 hq;refine ⟨ok,⟨Ca,Tc,c1,c0,c2,fun i j x t' y1 y2 y3=> ?_⟩,Xq _ (.row hb hq)⟩;obtain ⟨v,z1,z2⟩:=c3 i j x t' y1 y2 y3;exact ⟨v,z1,z2.mono i1 (fun _ _ _=>rfl) fun _ _ _ _ _=>rfl⟩
      | _=>cases hr
     | map t' es=>
      cases b with
      | map t=>
       obtain ⟨hc,nk⟩:=aE hr;clear hr;rw[aO] at hc;subst hc;refine fin (d1:=[.list t es]) (o1:=β id) nk (Ext.leaf h _) rfl bE (fun rest=>e8.map ab) fun rest I' μ hp0 i1 i2 ρ m dO cB c6=> ?_;change ee P w I' μ hp0 (β id) (.map t es);have cH:=S.h.rel id _ ab;generalize ho:β id=o at cH c6⊢;cases cH with
       | map a1 a2 a3 a4 a5 a6 a7=>exact .map a1 a2 a3 a4 ((c6 _ (.root (by simp[gg]) a2)).no (by simp[gg])) a6 a7
      | _=>cases hr
   | row id ver path=>
    obtain ⟨e0,es,vers,l1,k1,k2,k3,k4,k5⟩:=pQ hr;obtain ⟨e',vv,m1,m2,m3⟩:=zy k5;cases b with
    | arr e fz=>
     cases fz with
     | true=>cases m3
     | false=>
      obtain ⟨hc,m4⟩:=aE m3;clear m3;simp only[aK,aO,nP] at hc;obtain ⟨rfl,Du,kU⟩:=hc;have cH:=S.h.rel id _ k1;cases hb:β id with
      | none=>
       rw[hb] at cH;cases cH with
       | nest ay _ _=>cases ay
       | gz _=>
        cases path with
        | nil=>grind
        | cons p q=>obtain ⟨i,c⟩:=p;simp[eS] at m2
      | some b0=>
       rw[hb] at cH;cases cH with
       | gz ay=>cases ay
       | nest ay cX j8=>
        cases ay;obtain ⟨b1,eU⟩:=Xn cX path m1 m2 kU;refine fin (d1:=[.list e vv.toList]) (o1:=some b1) m4 (Ext.leaf h _) rfl bE (fun rest=>e8.row k1 hb eU Du k2 k3 k4 kU) fun rest I' μ hp0 i1 i2 ρ m dO cB c6=> ?_;change ee P w I' μ hp0 (some b1) (.arr e vv.toList false);obtain ⟨ok,⟨Ca,Tc,c1,c0,c2,c3⟩,nI⟩:=cX _ _ _ _ eU;refine .arr c0 ok rfl c1 c2 (fun h=>by cases h) (fun _=>(c6 _ (.root (by simp[gg]) rfl)).no (by simp[gg])) fun i j x t' y1 y2 y3=> ?_;obtain ⟨v,z1,z2⟩:=c3 i j x t' y1 y2 y3;refine ⟨v,z1,?_⟩;generalize bW P e x j=y at z2⊢;cases z2 with
        | fl _ p=>exact p.mono i1 fun _ _ _=>rfl
        | emp hu=>exact absurd hu (Xr Du y2 _)
        | row hu _ _ _ _=>exact absurd hu (Xr Du y2 _)
    | _=>cases m3
where
 Xr {e t:TypeId} {j:Nat} (h:Ck P e=true) (ht:(aN P e)[j]? =some t) (e':TypeId):P.underlying t≠some (.slice e'):=by
  intro hu;have h2:=fL.1 h t (lp ht);grind
end
section
variable {P:Program} {A:dc} {w w':World} {I I' I2:Nat→Nat→Prop} {μ β β' cy:Nat→Option Nat} {hp hp' hp0 bE:Nat→Option ag} {C:af} {B:Nat} {M:Nat→Prop} {w0:Start}
structure nn (w:World) (I:Nat→Nat→Prop) (β:Nat→Option Nat) (hp:Nat→Option ag) (w':World) (I':Nat→Nat→Prop) (β':Nat→Option Nat) (hp':Nat→Option ag):Prop where
 dV: ∀b j,I b j→I' b j
 cE: ∀b j,I b j→w'.cell? ⟨b,j,none⟩=w.cell? ⟨b,j,none⟩
 blk: ∀id blk,hp id=some blk→∃blk',hp' id=some blk'∧blk.le blk'∧(blk'≠ .dead→β' id=β id)
 size: ∀id blk blk' b,hp id=some blk→hp' id=some blk'→blk'≠ .dead→β id=some b→bsize w' b=bsize w b
theorem Le.zU (h:Le P w I β hp w' I' β' hp'):nn w I β hp w' I' β' hp':=⟨h.dV,h.cE,h.blk,h.size⟩
theorem nn.trans {CA:World} {CB:Nat→Nat→Prop} {CD:Nat→Option Nat} {CE:Nat→Option ag} (h1:nn w I β hp w' I' β' hp') (h2:nn w' I' β' hp' CA CB CD CE):nn w I β hp CA CB CD CE:=by
 refine ⟨fun b j h=>h2.dV b j (h1.dV b j h),fun b j h=>(h2.cE b j (h1.dV b j h)).trans (h1.cE b j h),fun id blk h=> ?_,fun id blk wZ b h Ix hd hb=> ?_⟩
 ·obtain ⟨blk',e',l',b'⟩:=h1.blk id blk h;obtain ⟨wZ,dC,CF,b''⟩:=h2.blk id blk' e';refine ⟨wZ,dC,ag.le_trans l' CF,fun hd=> ?_⟩;have eT:blk'≠ .dead:=fun e=>hd (ag.rU (e▸CF));grind
 ·obtain ⟨blk',e',l',b'⟩:=h1.blk id blk h;obtain ⟨jq,e3,l3,b3⟩:=h2.blk id blk' e';obtain rfl:jq=wZ:=by grind
  have eT:blk'≠ .dead:=fun e=>hd (ag.rU (e▸l3));rw[h2.size id blk' jq b e' e3 hd ((b' eT).trans hb),h1.size id blk blk' b h e' eT hb]
def qY (P:Program) (w:World) (μ:Nat→Option Nat) (hp0:Nat→Option ag) (b:Nat):Prop:= ∃j blk,hp0 j=some blk∧bc P w (μ j) blk b
structure ahm (P:Program) (A:dc) (key:Nat) (w:World) (I:Nat→Nat→Prop) (μ:Nat→Option Nat) (ds es:List V) (w':World) (v:Value) (I2:Nat→Nat→Prop) (cy:Nat→Option Nat):Prop where
 zV:aA P w' I2 cy (bH (A.so key es) (A.lv key es)).hp w.heap.size (qY P w μ (bH (A.sin key) ds).hp) ⟨w,I⟩
 le:nn w I μ (bH (A.sin key) ds).hp w' I2 cy (bH (A.so key es) (A.lv key es)).hp
 res:ai P w' I2 cy (bH (A.so key es) (A.lv key es)).hp v (rQ (gx (A.so key es).cf (A.lv key es)))
def np (P:Program) (A:dc) (C:af):Prop:=
 ∀key ds es,C key ds=some es→∃fn c,P.funcs[A.iA key]? =some fn∧fn.body=some c∧
  ∀(w:World) (I:Nat→Nat→Prop) (μ:Nat→Option Nat) (vals:List Value),
   wX P w I μ (bH (A.sin key) ds).hp w.heap.size (qY P w μ (bH (A.sin key) ds).hp)→iC P A.aF w I→
   vals.length=(A.sin key).cf.length→(∀(j:Nat) v x,vals[j]? =some v→(gY ((A.sin key).cf.map (·.2)) ds)[j]? =some x→ai P w I μ (bH (A.sin key) ds).hp v x)→
   Calls P (A.iA key) vals.toArray w fun e w'=> ∃v I2 cy,e= .returned v∧ahm P A key w I μ ds es w' v I2 cy
theorem e8.xy {p:Place} {o:Option Nat} {blk:ag} {b:Nat} (h:e8 P w β hp p o blk) (ho:bc P w o blk b):
  ∃sm,hp p.id=some sm∧bc P w (β p.id) sm b∧∀e es,sm= .arr e es true→blk= .arr e es true∧o=β p.id:=by
 cases h with
 | var h=>exact ⟨_,h,.root (by simp) (ho.flat (by simp)),by simp⟩
 | arr h=>exact ⟨_,h,.root (by simp) (ho.flat (by simp)),fun _ _ h=>⟨h,rfl⟩⟩
 | map h=>exact ⟨_,h,.root (by simp) (ho.flat (by simp)),by simp⟩
 | nest h=>
  refine ⟨_,h,?_,by simp⟩;cases ho with
  | root _ hb=>exact .root (by simp) hb
  | row hb ha=>exact .row hb ha
 | row h hb ha _ _ _ _ _=>
  have:=ho.flat (by simp)
  cases this;exact ⟨_,h,.row hb ha,by simp⟩
theorem aA.ahn (S:aA P w I β hp B M w0) {id b:Nat} {blk:ag} (ab:hp id=some blk) (ho:bc P w (β id) blk b) (hf: ∀e es,blk≠ .arr e es true): ∀j,¬I b j:=by
 have hr:=S.h.rel id blk ab;generalize β id=o at hr ho;cases hr with
 | var hb _ _ hI _ _=>have:=ho.flat (by simp);grind
 | dU hb=>have:=ho.flat (by simp);grind
 | @arr e _ es fz _ _ _ _ hb _ _ _ eJ _=>
  have:=ho.flat (by simp)
  simp_all
 | dead=>exact absurd rfl ho.alive
 | map _ hb _ _ hI _ _=>have:=ho.flat (by simp);grind
 | out hb _ _ hh _ _ hI hc hr _=>
  cases ho with
  | root _ ay=>grind
  | oT ay w6 hj hx h0 hv=>
   rw[hb] at ay;cases ay;rw[hh] at w6;cases w6;obtain ⟨_,_,m1,_⟩:=hc _ _ hj hx;cases m1;exact (hr _ _ _ _ hj hx h0 hv).2.nI
 | gz hb=>cases ho<;>simp_all
 | nest hb hr _=>
  cases ho with
  | root _ ay=>rw[hb] at ay;cases ay;exact (hr _ _ _ _ .here).nI
  | row ay ha=>rw[hb] at ay;cases ay;exact (hr _ _ _ _ ha).nI
theorem Jm {a b:List Nat} (h:zi a b=false) {x:Nat} (ha:x∈a):x∉b:=by
 intro hb;unfold zi at h;rw[List.any_eq_false] at h;exact h x ha (zE hb)
theorem aho (S:aA P w I β hp B M w0) {pl:List Place} {upd:List (Nat×ag)} {o:Nat→Option Nat} (la:(pl.map Place.id).Nodup) (Jn:zi (upd.map (·.1)) (pl.map Place.id)=false)
  (hl: ∀j blk,hp0 j=some blk→∃p,fj pl j=some p∧e8 P w β hp p (o j) blk)
  (cH:(∀j blk,hp0 j=some blk→∀b,bc P w (o j) blk b→uc P (j9 P w I β hp upd) blk b)→∀j blk,hp0 j=some blk→ee P w (j9 P w I β hp upd) o hp0 (o j) blk) (ba: ∀b j,j9 P w I β hp upd b j→b<w.heap.size):
  wX P w (j9 P w I β hp upd) o hp0 w.heap.size (qY P w o hp0):=by
 have c6: ∀j blk,hp0 j=some blk→∀b,bc P w (o j) blk b→uc P (j9 P w I β hp upd) blk b:=by
  intro j blk hj b ho jj hI;obtain ⟨p,bE,ez⟩:=hl j blk hj;obtain ⟨sm,k1,k2,k3⟩:=ez.xy ho;rcases hI with hI|⟨q,hq,ct,q1,q2⟩
  ·by_cases hz: ∃e es,sm= .arr e es true
   ·obtain ⟨e,es,rfl⟩:=hz;obtain ⟨rfl,h4⟩:=k3 e es rfl;refine ⟨e,es,rfl,?_⟩;have hr:=S.h.rel _ _ k1;have hb:=k2.flat (by simp)
    generalize β p.id=o' at hr hb;cases hr with
    | dU h=>rw[hb] at h;cases h
    | arr _ _ a2 _ _ a5 _ _=>rw[hb] at a2;cases a2;exact a5 rfl jj hI
   ·exact absurd hI (S.ahn k1 k2 (fun e es h=>hz ⟨e,es,h⟩) jj)
  ·exfalso;have:=S.h.inj _ _ _ _ b q1 k1 q2.own k2;refine Jm Jn (eu.2 ⟨q,hq,rfl⟩) ?_;rw[this];rw[oj] at bE;grind
 refine ⟨cH c6,fun j1 j2 b1 b2 b h1 h2 o1 o2=> ?_,fun j blk b h1 o1=> .inl ⟨j,blk,h1,o1⟩,ba⟩;obtain ⟨p1,q1,q2⟩:=hl j1 b1 h1;obtain ⟨p2,r1,r2⟩:=hl j2 b2 h2;obtain ⟨c1,x1,x2,_⟩:=q2.xy o1;obtain ⟨c2,y1,y2,_⟩:=r2.xy o2;have ab:=S.h.inj _ _ _ _ b x1 y1 x2 y2;rw[oj] at q1 r1;have m1:(pl.map Place.id)[j1]? =some p1.id:=by grind
 have m2:(pl.map Place.id)[j2]? =some p2.id:=by grind
 rw[←ab] at m2;obtain ⟨z1,z2⟩:=cq.1 m1;obtain ⟨z3,z4⟩:=cq.1 m2;exact (List.getElem_inj la).1 (z2.trans z4.symm)
def Xs:V→Prop
 | .list .. =>False
 | .pref .. =>False
 | .agg _=>False
 | .aW _=>False
 | .fn .. =>False
 | _=>True
theorem ai.free {v:Value} {x:V} (h:ai P w I β hp v x) (hx:Xs x):ai P w I' β hp v x:=by
 cases h with
 | undef=>exact .undef
 | int=>exact .int
 | bool=>exact .bool
 | str h=>exact .str h
 | list h=>exact hx.elim
 | nilS=>exact .nilS
 | agg=>exact hx.elim
 | aW=>exact hx.elim
 | eb=>exact .eb
 | fn=>exact hx.elim
 | pref=>exact hx.elim
 | dD h=>exact .dD h
 | ia h=>exact .ia h
 | kP h=>exact .kP h
 | dy h hb=>exact .dy h hb
 | whole h hb a b c=>exact .whole h hb a b c
 | dp h hb a b c=>exact .dp h hb a b c
 | dJ h hb=>exact .dJ h hb
 | ew h hb a b c=>exact .ew h hb a b c
 | gy h hb=>exact .gy h hb
 | sub h hb a b c=>exact .sub h hb a b c
 | ptr h hd hb=>exact .ptr h hd hb
 | kQ h tS=>exact .kQ h tS
 | kR h tS=>exact .kR h tS
 | row h hb a b c d=>exact .row h hb a b c d
 | dk h hb a b c d e=>exact .dk h hb a b c d e
 | eo=>exact .eo
 | jR h=>exact .jR h
 | cK h hb=>exact .cK h hb
theorem Dv {l:LS} {ds:List V} (hs:l.safe=true):Xs (jM l ds):=by
 cases l<;>simp only[LS.safe] at hs<;>first|(cases hs;done)|trivial
theorem Dw: ∀{ls:List LS} {ds:List V} {j:Nat} {y:V},(gv ls ds)[j]? =some y→∃l iX,l∈ls∧y=jM l iX
 | [],ds,j,y,h=>by simp[gv] at h
 | l::ls,ds,j,y,h=>by
  simp only[gv] at h;cases j with
  | zero=>grind
  | succ j=>
   obtain ⟨l',iX,h1,h2⟩:=Dw (j:=j) (by simpa using h);grind
theorem Xt: ∀{ls:List VS} {ds:List V} {j:Nat} {y:V},(gY ls ds)[j]? =some y→∃l iX,l∈ls∧y=mr l iX
 | [],ds,j,y,h=>by simp[gY] at h
 | l::ls,ds,j,y,h=>by
  simp only[gY] at h;cases j with
  | zero=>grind
  | succ j=>
   obtain ⟨l',iX,h1,h2⟩:=Xt (j:=j) (by simpa using h);grind
theorem Xu {s:VS} {ds:List V} {v:Value} (h:ai P w I β hp v (mr s ds)) (hs:s.safe=true):ai P w I' β hp v (mr s ds):=by
 cases s with
 | one l=>exact h.free (Dv hs)
 | agg ls=>
  simp only[mr] at h⊢;obtain ⟨cs,rfl,e1,e2⟩:=h.lF;refine .agg e1 fun j v x hj hx=> ?_;obtain ⟨l,iX,k1,rfl⟩:=Dw hx;exact (e2 j v _ hj hx).free (Dv (fL.1 hs l k1))
 | aW ls=>
  simp only[mr] at h⊢;obtain ⟨cs,rfl,e1,e2⟩:=h.xc;refine .aW e1 fun j v x hj hx=> ?_;obtain ⟨l,iX,k1,rfl⟩:=Dw hx;exact (e2 j v _ hj hx).free (Dv (fL.1 hs l k1))
 | fn f a b=>
  simp only[VS.safe,aK] at hs;simp only[mr] at h⊢;cases h with
  | fn a1 a2 b1 b2=>
   refine .fn a1 (fun j v x hj hx=> ?_) b1 (fun j v x hj hx=> ?_)
   ·obtain ⟨l,iX,k1,rfl⟩:=Dw hx;exact (a2 j v _ hj hx).free (Dv (fL.1 hs.1 l k1))
   ·obtain ⟨l,iX,k1,rfl⟩:=Dw hx;exact (b2 j v _ hj hx).free (Dv (fL.1 hs.2 l k1))
 | pref ts ls=>cases hs
theorem Pure.scalar {t:TypeId} {v:Value} {x:V} (h:Pure P w I t v x) (hn: ∀e,P.underlying t≠some (.slice e)):Pure P w I' t v x:=by
 cases h with
 | int h=>exact .int h
 | bool h=>exact .bool h
 | str h hl=>exact .str h hl
 | nil h=>grind
 | emp h=>grind
 | list g h=>grind
theorem ahp {e t:TypeId} {j:Nat} (h:Ck P e=true) (ht:(aN P e)[j]? =some t) (e':TypeId):P.underlying t≠some (.slice e'):=by
 intro hu;have h2:=fL.1 h t (lp ht);grind
theorem ahq {o:Option Nat} {b:BS} {ds:List V} (h:ee P w I2 β hp o (gg b ds)) (hs:b.safe P=true) (hi: ∀b j,I b j→I2 b j):ee P w I β hp o (gg b ds):=by
 cases b with
 | dead=>exact .dead
 | var T0 ls=>
  simp only[gg] at h⊢;cases h with
  | var hb hh aU hI hx gJ=>
   refine .var hb hh aU (fun j h=>hI j (hi _ j h)) (fun j v x hj cS=> ?_) gJ;obtain ⟨l,iX,k1,rfl⟩:=Xt cS;exact Xu (hx j v _ hj cS) (fL.1 hs l k1)
 | arr e fz=>
  simp only[BS.safe,aK,mY] at hs;obtain ⟨rfl,Du⟩:=hs;simp only[gg] at h⊢;generalize (V.nth ds 0).toList=es at h⊢;cases h with
  | dU hb=>exact .dU hb
  | arr a0 a1 a2 a3 a4 a5 a6 a7=>
   refine .arr a0 a1 a2 a3 a4 (fun h=>by cases h) (fun _ j h=>a6 rfl j (hi _ j h)) fun i j x t' y1 y2 y3=> ?_;obtain ⟨v,z1,z2⟩:=a7 i j x t' y1 y2 y3;exact ⟨v,z1,z2.scalar (ahp Du y2)⟩
 | nest e=>
  simp only[gg] at h⊢;generalize (V.nth ds 0).toList=es at h⊢;cases h with
  | gz hb=>exact .gz hb
  | nest hb cX j8=>
   refine .nest hb (fun q b' e1 m1 hq=> ?_) j8;obtain ⟨ok,⟨Ca,Tc,c1,c0,c2,c3⟩,nI⟩:=cX q b' e1 m1 hq;refine ⟨ok,⟨Ca,Tc,c1,c0,c2,fun i j x t' y1 y2 y3=> ?_⟩,fun j h=>nI j (hi _ j h)⟩;obtain ⟨v,z1,z2⟩:=c3 i j x t' y1 y2 y3;refine ⟨v,z1,?_⟩;generalize bW P e1 x j=y at z2⊢;cases z2 with
   | fl a p=>
    refine .fl a (p.scalar fun e hu=> ?_);unfold dB at a;grind
   | emp a=>exact .emp a
   | row a b c d e=>exact .row a b c d e
 | map t=>
  simp only[gg] at h⊢;cases h with
  | map a1 a2 a3 a4 a5 a6 a7=>exact .map a1 a2 a3 a4 (fun j h=>a5 j (hi _ j h)) a6 a7
theorem Jo: ∀{l:List BS} {ds:List V} {j:Nat} {y:ag},(fO l ds)[j]? =some y→∃b iX,l[j]? =some b∧y=gg b iX
 | [],ds,j,y,h=>by simp[fO] at h
 | b::l,ds,j,y,h=>by
  simp only[fO] at h;cases j with
  | zero=>grind
  | succ j=>
   obtain ⟨b',iX,h1,h2⟩:=Jo (j:=j) (by simpa using h);grind
theorem Xv: ∀{l:List (Nat×VS)} {ds:List V} {q:Nat×V},q∈gx l ds→∃s iX,(q.1,s)∈l∧q.2=mr s iX
 | [],ds,q,h=>by simp[gx] at h
 | (k,s)::l,ds,q,h=>by
  simp only[gx,lu] at h;rcases h with h|h
  ·grind
  ·obtain ⟨s',iX,h1,h2⟩:=Xv h;grind
theorem ahr {S:Shape} {es:List V} (hs:S.safe P=true) (hi: ∀b j,I b j→I2 b j) {N:Nat→Prop} {st:Start} (h:aA P w' I2 cy (bH S es).hp B N st) (h0: ∀b j,I b j→st.I b j):
  aA P w' I cy (bH S es).hp B N st∧∀v,ai P w' I2 cy (bH S es).hp v (rQ (gx S.cf es))→ai P w' I cy (bH S es).hp v (rQ (gx S.cf es)):=by
 unfold Shape.safe at hs;simp only[aK] at hs;obtain ⟨jr,mF⟩:=hs;have one: ∀q∈gx S.cf es,∀v,ai P w' I2 cy (bH S es).hp v q.2→ai P w' I cy (bH S es).hp v q.2:=by
  intro q hq v hv;obtain ⟨s,iX,k1,k2⟩:=Xv hq;rw[k2] at hv⊢;exact Xu hv (fL.1 jr _ k1)
 refine ⟨⟨⟨fun j blk hj=> ?_,h.h.inj,h.h.own,fun b j hb=>h.h.iB b j (hi b j hb)⟩,h.cE,h.size,fun b j hb=> .inl (h0 b j hb),h.io⟩,fun v hv=> ?_⟩
 ·have hr:=h.h.rel j blk hj;have dN:=hj;simp only[bH,mk,jx] at dN;obtain ⟨b,iX,k1,rfl⟩:=Jo dN;exact ahq hr (fL.1 mF _ (lp k1)) hi
 ·generalize gx S.cf es=l at one hv⊢
  match l,one,hv with
  | [],_,hv=>
   simp only[rQ,List.map_nil] at hv⊢;obtain ⟨cs,rfl,e1,e2⟩:=hv.xc;exact .aW e1 fun j v x _ hx=>by simp at hx
  | [q],one,hv=>exact one q (ff.2 rfl) v hv
  | q::q2::l,one,hv=>
   simp only[rQ] at hv⊢;obtain ⟨cs,rfl,e1,e2⟩:=hv.xc;refine .aW e1 fun j v x hj hx=> ?_;grind
end
section
variable {P:Program} {A:dc} {w w':World} {I I' I2:Nat→Nat→Prop} {μ β β' cy:Nat→Option Nat} {hp hp' hp0 bE:Nat→Option ag} {C:af} {B:Nat} {M:Nat→Prop} {w0:Start}
inductive im (σ:List Place):ag→ag→Prop
 | dead:im σ .dead .dead
 | var {T:TypeId} {cs:List V}:im σ (.var T cs) (.var T (cs.map (Im σ)))
 | arr {e:TypeId} {es:List V} {fz:Bool}:im σ (.arr e es fz) (.arr e es fz)
 | nest {e:TypeId} {es:List V} {v1 v2:List Nat}:im σ (.nest e es v1) (.nest e es v2)
 | map {t:TypeId} {es:List V}:im σ (.map t es) (.map t es)
 | out {e:TypeId} {es:List V} {vs:List Nat} {i:Nat}:im σ (.out e es vs i) .dead
theorem im.of (σ:List Place) (b:ag):im σ b (wR σ b):=by
 cases b with
 | dead=>exact .dead
 | var T cs=>exact .var
 | arr e es fz=>exact .arr
 | nest e es v=>exact .nest
 | map t es=>exact .map
 | out e es vs i=>exact .out
theorem Xw {σ:List Place}: ∀{pl:List Place} {bs:List ag} {acc:List (Nat×ag)} {k:List (Nat×ag)→Rd R} {r:R} {rd:List Nat},(tz σ pl bs acc k).run C hp=some (r,rd)→
  pl.length≤bs.length∧∃bk fE,(k bk).run C hp=some (r,fE)∧(∀q∈bk,q∈acc∨∃(j:Nat) (b:ag),pl[j]? =some (.blk q.1)∧bs[j]? =some b∧im σ b q.2∧((∃e es v2,q.2= .nest e es v2)→∃e es vers e' aL,hp q.1=some (.nest e es vers)∧q.2= .nest e' aL (vers.map (· +1))))∧
   (∀q∈acc,q∈bk)∧∀(j:Nat) p,pl[j]? =some p→∃id b,p= .blk id∧(id,b)∈bk
 | [],bs,acc,k,r,rd,h=>⟨kK _,acc,rd,by simpa only[tz] using h,fun q hq=> .inl hq,fun q hq=>hq,fun j p hp=>by simp at hp⟩
 | .row _ _ _::pl,bs,acc,k,r,rd,h=>by
  cases bs<;>(simp only[tz] at h;cases h)
 | .blk id::pl,[],acc,k,r,rd,h=>by simp only[tz] at h;cases h
 | .blk id::pl,b::bs,acc,k,r,rd,h=>by
  have fin: ∀{b2:ag} {ik:List Nat},(tz σ pl bs ((id,b2)::acc) k).run C hp=some (r,ik)→im σ b b2→((∃e es v2,b2= .nest e es v2)→∃e es vers e' aL,hp id=some (.nest e es vers)∧b2= .nest e' aL (vers.map (· +1)))→
    (Place.blk id::pl).length≤(b::bs).length∧∃bk fE,(k bk).run C hp=some (r,fE)∧(∀q∈bk,q∈acc∨∃(j:Nat) (b':ag),(Place.blk id::pl)[j]? =some (.blk q.1)∧(b::bs)[j]? =some b'∧im σ b' q.2∧((∃e es v2,q.2= .nest e es v2)→∃e es vers e' aL,hp q.1=some (.nest e es vers)∧q.2= .nest e' aL (vers.map (· +1))))∧
     (∀q∈acc,q∈bk)∧∀(j:Nat) p,(Place.blk id::pl)[j]? =some p→∃id b,p= .blk id∧(id,b)∈bk:=by
   intro b2 ik h1 hb hn;obtain ⟨a0,bk,fE,a1,a2,a3,a4⟩:=Xw h1;refine ⟨by simp only[List.length_cons];omega,bk,fE,a1,fun q hq=> ?_,fun q hq=>a3 q (j6 _ hq),fun j p hj=> ?_⟩
   ·rcases a2 q hq with h|⟨j,b',k1,k2,k3,k4⟩
    ·rcases lu.1 h with e|h
     ·subst e;exact .inr ⟨0,b,rfl,rfl,hb,hn⟩
     ·exact .inl h
    ·exact .inr ⟨j+1,b',by simpa using k1,by simpa using k2,k3,k4⟩
   ·cases j with
    | zero=>simp at hj;subst hj;exact ⟨id,b2,rfl,a3 _ (za ..)⟩
    | succ j=>exact a4 j p (by simpa using hj)
  cases b with
  | nest e es v=>
   simp only[tz] at h;obtain ⟨l,h⟩:=run_get h;cases ab:hp id with
   | none=>rw[ab] at h;cases h
   | some blk=>
    rw[ab] at h;cases blk with
    | nest e0 Pj vers=>exact fin h .nest fun _=>⟨e0,Pj,vers,e,es,ab,rfl⟩
    | _=>cases h
  | dead=>exact fin h (.of σ _) fun ⟨_,_,_,h⟩=>by cases h
  | var T cs=>exact fin h (.of σ _) fun ⟨_,_,_,h⟩=>by cases h
  | arr e es fz=>exact fin h (.of σ _) fun ⟨_,_,_,h⟩=>by cases h
  | map t es=>exact fin h (.of σ _) fun ⟨_,_,_,h⟩=>by cases h
  | out e es vs i=>exact fin h (.of σ _) fun ⟨_,_,_,h⟩=>by cases h
theorem Xx {σ:List Place}: ∀{bs:List ag} {n:Nat} {q:Nat×ag},q∈tA σ n bs→∃i b,bs[i]? =some b∧q=(n+i,wR σ b)
 | [],n,q,h=>by simp[tA] at h
 | b::bs,n,q,h=>by
  simp only[tA,lu] at h;rcases h with h|h
  ·exact ⟨0,b,rfl,h⟩
  ·obtain ⟨i,b',h1,h2⟩:=Xx h;exact ⟨i+1,b',by simpa using h1,by rw[h2];congr 1;omega⟩
theorem Xy {σ:List Place}: ∀{bs:List ag} {n i:Nat} {b:ag},bs[i]? =some b→(n+i,wR σ b)∈tA σ n bs
 | [],n,i,b,h=>by simp at h
 | b0::bs,n,i,b,h=>by
  simp only[tA,lu];cases i with
  | zero=>simp at h;subst h;exact .inl rfl
  | succ i=>exact .inr (by rw[show n+(i+1)=n+1+i by omega];exact Xy (by simpa using h))
theorem Jp: ∀{k n i:Nat},i<k→(vp n k)[i]? =some (.blk (n+i))
 | 0,n,i,h=>by omega
 | k+1,n,0,h=>rfl
 | k+1,n,i+1,h=>by
  simp only[vp,List.getElem?_cons_succ];rw[Jp (by omega)];congr 2;omega
theorem Pk: ∀{k n:Nat},(vp n k).length=k
 | 0,_=>rfl
 | k+1,n=>by simp[vp,Pk]
theorem Xz: ∀{bs:List (Nat×ag)} {k:Rd R} {r:R} {rd:List Nat},(Io bs k).run C hp=some (r,rd)→(∀q∈bs,hp q.1=none)∧∃fE,k.run C hp=some (r,fE)
 | [],k,r,rd,h=>⟨by simp,rd,h⟩
 | (id,b)::l,k,r,rd,h=>by
  simp only[Io] at h;obtain ⟨l1,h⟩:=run_get h;cases ab:hp id with
  | some blk=>rw[ab] at h;cases h
  | none=>
   rw[ab] at h;obtain ⟨h1,h2⟩:=Xz h;refine ⟨fun q hq=> ?_,h2⟩;rcases lu.1 hq with e|hq
   ·subst e;exact ab
   ·exact h1 q hq
structure sn (σ:List Place) (cy:Nat→Option Nat) (bE:Nat→Option ag) (β':Nat→Option Nat) (hp':Nat→Option ag):Prop where
 blk: ∀j b,bE j=some b→∃id b',fj σ j=some (.blk id)∧hp' id=some b'∧im σ b b'∧(b≠ .dead→β' id=cy j)
 none: ∀j,bE j=none→fj σ j=none
 atF: ∀j id ver path,fj σ j≠some (.row id ver path)
theorem sn.leaf {σ:List Place} (T:sn σ cy bE β' hp') {v:Value} {x:V} (h:ai P w I cy bE v x):ai P w I β' hp' v (kL σ x):=by
 have look: ∀{j b},bE j=some b→∃id b',fj σ j=some (.blk id)∧hp' id=some b'∧im σ b b'∧(b≠ .dead→β' id=cy j):=fun h=>T.blk _ _ h;cases h with
 | undef=>exact .undef
 | int=>exact .int
 | bool=>exact .bool
 | str h=>exact .str h
 | list h=>exact .list h
 | nilS=>exact .nilS
 | agg=>exact .undef
 | aW=>exact .undef
 | eb=>exact .eb
 | fn=>exact .undef
 | pref a b c=>exact .pref a b c
 | @dD _ e j h=>
  obtain ⟨id,b',k1,k2,k3,k4⟩:=look h;simp only[kL,k1];cases k3;exact .dD k2
 | @ia _ e j _ _ h=>
  obtain ⟨id,b',k1,k2,k3,k4⟩:=look h;simp only[kL,k1];cases k3;exact .ia k2
 | @kP _ j _ _ h=>
  obtain ⟨id,b',k1,k2,k3,k4⟩:=look h;simp only[kL,k1];cases k3;exact .kP k2
 | @dy e j fz _ h hb=>
  obtain ⟨id,b',k1,k2,k3,k4⟩:=look h;simp only[kL,k1];cases k3;exact .dy k2 ((k4 (by simp)).trans hb)
 | @whole e j es fz b cap h hb a1 a2 a3=>
  obtain ⟨id,b',k1,k2,k3,k4⟩:=look h;simp only[kL,k1];cases k3;exact .whole k2 ((k4 (by simp)).trans hb) a1 a2 a3
 | @dp e j es vers b cap h hb a1 a2 a3=>
  obtain ⟨id,b',k1,k2,k3,k4⟩:=look h;simp only[kL,k1];cases k3;exact .dp k2 ((k4 (by simp)).trans hb) a1 a2 a3
 | @ew e j i es vers b cap h hb a1 a2 a3=>
  obtain ⟨id,b',k1,k2,k3,k4⟩:=look h;simp only[kL,k1];cases k3;exact .dD k2
 | @dJ e j vers _ h hb=>
  obtain ⟨id,b',k1,k2,k3,k4⟩:=look h;simp only[kL,k1];cases k3;exact .dJ k2 ((k4 (by simp)).trans hb)
 | @gy e j fz _ h hb=>
  obtain ⟨id,b',k1,k2,k3,k4⟩:=look h;simp only[kL,k1];cases k3;exact .gy k2 ((k4 (by simp)).trans hb)
 | @sub e j off len es fz b o cap h hb a1 a2 a3=>
  obtain ⟨id,b',k1,k2,k3,k4⟩:=look h;simp only[kL,k1];cases k3;exact .sub k2 ((k4 (by simp)).trans hb) a1 a2 a3
 | @ptr j i c b blk h hd hb=>
  obtain ⟨id,b',k1,k2,k3,k4⟩:=look h;simp only[kL,k1];by_cases eT:b'= .dead
  ·subst eT;exact .kP k2
  have hs:blk.sz P=b'.sz P:=by cases k3<;>first|rfl|exact absurd rfl eT
  rw[hs];exact .ptr k2 eT ((k4 hd).trans hb)
 | kQ=>exact .undef
 | kR=>exact .undef
 | row=>exact .undef
 | dk=>exact .undef
 | eo=>exact .eo
 | @jR _ t j h=>
  obtain ⟨id,b',k1,k2,k3,k4⟩:=look h;simp only[kL,k1];cases k3;exact .jR k2
 | @cK t j b es h hb=>
  obtain ⟨id,b',k1,k2,k3,k4⟩:=look h;simp only[kL,k1];cases k3;exact .cK k2 ((k4 (by simp)).trans hb)
theorem sn.one {σ:List Place} (T:sn σ cy bE β' hp') {v:Value} {x:V} (h:ai P w I cy bE v x):ai P w I β' hp' v (NK σ x):=by
 cases x with
 | agg xs=>
  obtain ⟨cs,rfl,e1,e2⟩:=h.lF;exact .agg (by simpa using e1) fun j v y hj hy=>by
   rw[jh] at hy;cases hx:xs[j]? with
   | none=>rw[hx] at hy;cases hy
   | some x=>rw[hx] at hy;cases hy;exact T.leaf (e2 j v x hj hx)
 | fn f a b=>
  cases h with
  | fn a1 a2 b1 b2=>
   refine .fn (by simpa using a1) (fun j v y hj hy=> ?_) (by simpa using b1) (fun j v y hj hy=> ?_)
   ·rw[jh] at hy;cases hx:a[j]? with
    | none=>rw[hx] at hy;cases hy
    | some x=>rw[hx] at hy;cases hy;exact T.leaf (a2 j v x hj hx)
   ·rw[jh] at hy;cases hx:b[j]? with
    | none=>rw[hx] at hy;cases hy
    | some x=>rw[hx] at hy;cases hy;exact T.leaf (b2 j v x hj hx)
 | _=>exact T.leaf h
theorem sn.val {σ:List Place} (T:sn σ cy bE β' hp') {v:Value} {x:V} (h:ai P w I cy bE v x):ai P w I β' hp' v (Im σ x):=by
 cases x with
 | aW xs=>
  obtain ⟨cs,rfl,e1,e2⟩:=h.xc;exact .aW (by simpa using e1) fun j v y hj hy=>by
   rw[jh] at hy;cases hx:xs[j]? with
   | none=>rw[hx] at hy;cases hy
   | some x=>rw[hx] at hy;cases hy;exact T.one (e2 j v x hj hx)
 | _=>exact T.one h
theorem sn.XA {σ:List Place} (T:sn σ cy bE β' hp') {o:Option Nat} {b b':ag} (h:ee P w I cy bE o b) (hb:im σ b b'):ee P w I β' hp' o b':=by
 cases hb with
 | dead=>exact .dead
 | var=>
  cases h with
  | var a1 a2 a3 a4 a5 a6=>
   refine .var a1 a2 (by simpa using a3) a4 (fun j v y hj hy=> ?_) a6;rw[jh] at hy;cases hx:(_:List V)[j]? with
   | none=>rw[hx] at hy;cases hy
   | some x=>rw[hx] at hy;cases hy;exact T.val (a5 j v x hj hx)
 | arr=>
  cases h with
  | dU hb=>exact .dU hb
  | arr a0 a1 a2 a3 a4 a5 a6 a7=>exact .arr a0 a1 a2 a3 a4 a5 a6 a7
 | nest=>
  cases h with
  | nest a1 a2 a3=>exact .nest a1 a2 a3
  | gz a1=>exact .gz a1
 | map=>
  cases h with
  | map a1 a2 a3 a4 a5 a6 a7=>exact .map a1 a2 a3 a4 a5 a6 a7
 | out=>exact .dead
theorem im.xy {σ:List Place} {o:Option Nat} {b b':ag} (h:im σ b b') {m:Nat} (ho:bc P w o b' m):bc P w o b m:=by
 cases h with
 | dead=>exact absurd rfl ho.alive
 | var=>exact .root (by simp) (ho.flat (by simp))
 | arr=>exact .root (by simp) (ho.flat (by simp))
 | map=>exact .root (by simp) (ho.flat (by simp))
 | out=>exact absurd rfl ho.alive
 | nest=>
  cases ho with
  | root _ hb=>exact .root (by simp) hb
  | row hb ha=>exact .row hb ha
theorem im.XB {σ:List Place} {b b':ag} (h:im σ b b'):b'≠ .dead→b≠ .dead:=by
 intro h1 h2;subst h2;cases h;exact h1 rfl
end
section
variable {P:Program} {A:dc} {w w':World} {I I' I2:Nat→Nat→Prop} {μ β β' cy:Nat→Option Nat} {hp hp' hp0 bE:Nat→Option ag} {C:af} {B:Nat} {M:Nat→Prop} {w0:Start}
theorem XC: ∀{vs:List Nat} {k:Nat},k<vs.length→bw (vs.map (· +1)) k=bw vs k+1
 | [],k,h=>by simp at h
 | v::vs,0,h=>rfl
 | v::vs,k+1,h=>by simp only[iO,bw];exact XC (by grind)
theorem XD: ∀{vs:List Nat} {k:Nat},bw vs k≤bw (vs.map (· +1)) k
 | [],k=>by grind
 | v::vs,0=>by simp[bw]
 | v::vs,k+1=>by simp only[iO,bw];exact XD
def Dx (hp:Nat→Option ag) (q:Nat×ag):Prop:=(∃e es v2,q.2= .nest e es v2)→∃e es vers e' aL,hp q.1=some (.nest e es vers)∧q.2= .nest e' aL (vers.map (· +1))
theorem e8.Pl {id:Nat} {o:Option Nat} {blk:ag} (h:e8 P w β hp (.blk id) o blk):o=β id∧∃b0,hp id=some b0∧b0≠ .dead:=by
 cases h with
 | var h=>grind
 | arr h=>grind
 | nest h=>grind
 | map h=>grind
theorem e8.ahs {id:Nat} {o:Option Nat} {c b b' b0:ag} {σ:List Place} (h:e8 P w β hp (.blk id) o c) (h0:hp id=some b0) (hle:c.le b) (hb:im σ b b') (hn:Dx hp (id,b')):b0.le b':=by
 cases h with
 | var h=>
  rw[h] at h0;cases h0;cases hb with
  | dead=>trivial
  | out=>trivial
  | var=>trivial
  | arr=>exact hle.elim
  | nest=>exact hle.elim
  | map=>exact hle.elim
 | arr h=>
  rw[h] at h0;cases h0;cases hb with
  | dead=>trivial
  | out=>trivial
  | var=>exact hle.elim
  | arr=>exact hle
  | nest=>exact hle.elim
  | map=>omega
 | map h=>
  rw[h] at h0;cases h0;cases hb with
  | dead=>trivial
  | out=>trivial
  | map=>exact hle
  | _=>exact hle.elim
 | nest h=>
  rw[h] at h0;cases h0;cases hb with
  | dead=>trivial
  | out=>trivial
  | var=>exact hle.elim
  | arr=>exact hle
  | map=>exact hle.elim
  | @nest e es v1 v2=>
   obtain ⟨e1,cZ,vC,e2,bI,k1,k2⟩:=hn ⟨_,_,_,rfl⟩;cases k2;change hp id=_ at k1;rw[h] at k1;cases k1;exact ⟨hle.1,hle.2.1,by simp,fun k=>XD⟩
theorem e8.other {p:Place} {o:Option Nat} {blk:ag} (h:e8 P w β hp p o blk) (he:hp' p.id=hp p.id):e8 P w β hp' p o blk:=by
 cases h with
 | var h=>exact .var (he.trans h)
 | arr h=>exact .arr (he.trans h)
 | nest h=>exact .nest (he.trans h)
 | map h=>exact .map (he.trans h)
 | row h a b c d e f g=>exact .row (he.trans h) a b c d e f g
open Classical in
theorem XE (S:aA P w I β hp B M w0) {pl:List Place} {o:Nat→Option Nat} {bs:List ag} {nb:Nat} {bk fr:List (Nat×ag)} {σ:List Place} (ud:σ=pl++vp nb (bs.length-pl.length)) (Dy:fr=tA σ nb (bs.drop pl.length))
  (la:(pl.map Place.id).Nodup) (qK:pl.length≤bs.length)
  (xz: ∀(j:Nat) p,pl[j]? =some p→∃id b,p= .blk id∧(id,b)∈bk) (ue: ∀q∈bk,∃(j:Nat) (b:ag),pl[j]? =some (.blk q.1)∧bs[j]? =some b∧im σ b q.2∧Dx hp q)
  (hl: ∀j blk,hp0 j=some blk→∃p,fj pl j=some p∧e8 P w β hp p (o j) blk) (hd: ∀j,j<pl.length→∃blk,hp0 j=some blk)
  (Sc:aA P w' I2 cy (lC bs) w.heap.size (qY P w o hp0) ⟨w,I⟩) (zW:nn w I o hp0 w' I2 cy (lC bs)) (zX: ∀q∈fr,hp q.1=none):
  ∃β',Le P w I β hp w' I2 β' (b9 hp (fr++bk))∧aA P w' I2 β' (b9 hp (fr++bk)) B M w0∧sn σ cy (lC bs) β' (b9 hp (fr++bk)):=by
 generalize Pm:b9 hp (fr++bk)=ez
 let β':Nat→Option Nat:=fun n=>if∃q∈fr,q.1=n then cy (pl.length+(n-nb)) else β n
 have XF: ∀(j:Nat) id,pl[j]? =some (.blk id)→∃c,hp0 j=some c∧e8 P w β hp (.blk id) (o j) c:=by
  intro j id hj;obtain ⟨c,hc⟩:=hd j (cq.1 hj).1;obtain ⟨p,h1,h2⟩:=hl j c hc;rw[oj,hj] at h1;cases h1;exact ⟨c,hc,h2⟩
 have uniq: ∀(j1 j2:Nat) id,pl[j1]? =some (.blk id)→pl[j2]? =some (.blk id)→j1=j2:=by
  intro j1 j2 id h1 h2;have m1:(pl.map Place.id)[j1]? =some id:=by rw[jh,h1];rfl
  have m2:(pl.map Place.id)[j2]? =some id:=by rw[jh,h2];rfl
  obtain ⟨z1,z2⟩:=cq.1 m1;obtain ⟨z3,z4⟩:=cq.1 m2;exact (List.getElem_inj la).1 (z2.trans z4.symm)
 have cls: ∀id,(∃i b,id=nb+i∧bs[pl.length+i]? =some b∧ez id=some (wR σ b)∧hp id=none∧β' id=cy (pl.length+i))∨
   (∃(j:Nat) (b b' c b0:ag),pl[j]? =some (.blk id)∧bs[j]? =some b∧hp0 j=some c∧e8 P w β hp (.blk id) (o j) c∧hp id=some b0∧b0.le b'∧ez id=some b'∧im σ b b'∧Dx hp (id,b')∧β' id=β id∧c.le b∧(b≠ .dead→cy j=β id))∨
   (ez id=hp id∧(∀j:Nat,pl[j]? ≠some (.blk id))∧β' id=β id):=by
  intro id;by_cases hm: ∃b,(id,b)∈fr++bk
  ·obtain ⟨b,hm⟩:=hm;obtain ⟨b',xb,he⟩:=Iy (hp:=hp) hm;rw[Pm] at he;rcases eO.1 xb with h|h
   ·have h0:=zX _ h;have qZ:β' id=cy (pl.length+(id-nb)):=ak ⟨_,h,rfl⟩;rw[Dy] at h;obtain ⟨i,b1,k1,k2⟩:=Xx h;rw[pD] at k1;cases k2;exact .inl ⟨i,b1,rfl,k1,he,h0,by rw[qZ];congr 2;omega⟩
   ·obtain ⟨j,b1,q1,q2,q3,q4⟩:=ue _ h;obtain ⟨c,c1,c2⟩:=XF j id q1;obtain ⟨c3,b0,c4,c5⟩:=c2.Pl;obtain ⟨b2,d1,d2,d3⟩:=zW.blk j c c1;rw[jx,q2] at d1;cases d1;refine .inr (.inl ⟨j,b1,b',c,b0,q1,q2,c1,c2,c4,c2.ahs c4 d2 q3 q4,he,q3,q4,aj ?_,d2,fun h=>(d3 h).trans c3⟩);rintro ⟨q,hq,hqe⟩;rw[←hqe,zX q hq] at c4;cases c4
  ·refine .inr (.inr ⟨?_,fun j hj=> ?_,aj ?_⟩)
   ·rcases w5 (hp:=hp) (l:=fr++bk) (id:=id) with h|⟨b,hb,_⟩
    ·rw[Pm] at h;exact h
    ·exact absurd ⟨b,hb⟩ hm
   ·obtain ⟨av,b,e,hb⟩:=xz j _ hj;cases e;exact hm ⟨b,eO.2 (.inr hb)⟩
   ·rintro ⟨q,hq,rfl⟩;exact hm ⟨q.2,eO.2 (.inl hq)⟩
 have XG: ∀b,qY P w o hp0 b→∃(j id:Nat) (b1:ag),pl[j]? =some (.blk id)∧hp id=some b1∧bc P w (β id) b1 b:=by
  rintro b ⟨j,c,hc,ho⟩;obtain ⟨p,h1,h2⟩:=hl j c hc;rw[oj] at h1;obtain ⟨id,b2,rfl,_⟩:=xz j p h1;obtain ⟨b1,k1,k2,_⟩:=h2.xy ho;exact ⟨j,id,b1,h1,k1,k2⟩
 have other: ∀id blk b,hp id=some blk→bc P w (β id) blk b→(∀j:Nat,pl[j]? ≠some (.blk id))→¬qY P w o hp0 b∧w'.heap[b]? =w.heap[b]? ∧(∀j,I2 b j→I b j):=by
  intro id blk b e1 e3 e4;have sq: ¬qY P w o hp0 b:=by
   intro hx;obtain ⟨j,av,b1,i1,i2,i3⟩:=XG b hx;have:=S.h.inj id av _ _ b e1 i2 e3 i3;subst this;exact e4 j i1
  have ba:=S.h.lt e1 e3;refine ⟨sq,Sc.cE b ba sq,fun j h=> ?_⟩;rcases Sc.new b j h with h|h|h
  ·exact h
  ·exact absurd h sq
  ·omega
 have vG:sn σ cy (lC bs) β' ez:=by
  refine ⟨fun j b hj=> ?_,fun j hj=> ?_,fun j id ver path hj=> ?_⟩
  ·rw[jx] at hj;by_cases dj:j<pl.length
   ·obtain ⟨id,b1,e,pV⟩:=xz j _ (bR dj);have Jq:pl[j]? =some (.blk id):=by rw[bR dj,e]
    have Pn:fj σ j=some (.blk id):=by rw[ud];exact qX (by rw[oj];exact Jq)
    rcases cls id with ⟨i,b2,c1,c2,c3,c4,c5⟩|⟨j',b2,b',c,b0,q1,q2,q3,q4,q5,q6,q7,q8,q9,sr,zY,uf⟩|⟨c1,c2,c3⟩
    ·obtain ⟨c,d1,d2⟩:=XF j id Jq;obtain ⟨_,b0,d3,_⟩:=d2.Pl;rw[d3] at c4;cases c4
    ·obtain rfl:=uniq _ _ _ q1 Jq;rw[hj] at q2;cases q2;exact ⟨id,b',Pn,q7,q8,fun h=>sr.trans (uf h).symm⟩
    ·exact absurd Jq (c2 j)
   ·have XH:=(cq.1 hj).1;have Pn:fj σ j=some (.blk (nb+(j-pl.length))):=by
     rw[ud,oj,nR (by omega)];exact Jp (by omega)
    have hm:(nb+(j-pl.length),wR σ b)∈fr:=by
     rw[Dy];refine Xy ?_;rw[pD,show pl.length+(j-pl.length)=j by omega];exact hj
    rcases cls (nb+(j-pl.length)) with ⟨i,b2,c1,c2,c3,c4,c5⟩|⟨j',b2,b',c,b0,q1,q2,q3,q4,q5,q6,q7,q8,q9,sr,zY,uf⟩|⟨c1,c2,c3⟩
    ·have hi:i=j-pl.length:=by omega
     subst hi;rw[show pl.length+(j-pl.length)=j by omega] at c2 c5;rw[hj] at c2;cases c2;exact ⟨_,_,Pn,c3,.of σ _,fun _=>c5⟩
    ·rw[zX _ hm] at q5;cases q5
    ·obtain ⟨b',xb,he⟩:=Iy (hp:=hp) (l:=fr++bk) (eO.2 (.inl hm));rw[Pm,c1,zX _ hm] at he;cases he
  ·rw[jx] at hj;have:=List.getElem?_eq_none_iff.1 hj;rw[ud,oj,List.getElem?_eq_none_iff,gD,Pk];omega
  ·rw[ud,oj] at hj;by_cases dj:j<pl.length
   ·rw[mn dj] at hj;obtain ⟨av,b1,e,_⟩:=xz j _ hj;cases e
   ·have XH:j-pl.length<bs.length-pl.length:=by
     have:=(cq.1 hj).1;rw[gD,Pk] at this;omega
    rw[nR (by omega),Jp XH] at hj;cases hj
 have hle:Le P w I β hp w' I2 β' ez:=by
  refine ⟨zW.dV,zW.cE,fun id blk ab=> ?_,fun id blk blk' b ab bL ug hb=> ?_,fun id e es vers e' aL vers' b q i c t v e1 l ab bL hb ba hv ht hc=> ?_⟩
  ·rcases cls id with ⟨i,b2,c1,c2,c3,c4,c5⟩|⟨j',b2,b',c,b0,q1,q2,q3,q4,q5,q6,q7,q8,q9,sr,zY,uf⟩|⟨c1,c2,c3⟩
   ·rw[ab] at c4;cases c4
   ·rw[ab] at q5;cases q5;exact ⟨b',q7,q6,fun _=>sr⟩
   ·exact ⟨blk,c1.trans ab,ag.le_refl _,fun _=>c3⟩
  ·rcases cls id with ⟨i,b2,c1,c2,c3,c4,c5⟩|⟨j',b2,b',c,b0,q1,q2,q3,q4,q5,q6,q7,q8,q9,sr,zY,uf⟩|⟨c1,c2,c3⟩
   ·rw[ab] at c4;cases c4
   ·rw[q7] at bL;cases bL;exact zW.size j' c b2 b q3 (by rw[jx];exact q2) (q8.XB ug) (q4.Pl.1.trans hb)
   ·rw[c1,ab] at bL;cases bL;simp only[bsize,(other id blk b ab (.root ug hb) c2).2.1]
  ·rcases cls id with ⟨i2,b2,c1,c2,c3,c4,c5⟩|⟨j',b2,b',c',b0,q1,q2,q3,q4,q5,q6,q7,q8,q9,sr,zY,uf⟩|⟨c1,c2,c3⟩
   ·rw[ab] at c4;cases c4
   ·rw[q7] at bL;cases bL;obtain ⟨_,_,vC,_,_,k1,k2⟩:=q9 ⟨_,_,_,rfl⟩;change hp id=_ at k1;rw[ab] at k1;cases k1;cases k2;rw[XC ba] at hv;omega
   ·rw[c1,ab] at bL;cases bL;exact ⟨l,rfl,hc.mono fun _ _ _ _ h=>(other id _ _ ab (.row hb h) c2).2.1⟩
 have place: ∀id blk b,ez id=some blk→bc P w' (β' id) blk b→(∃j c,lC bs j=some c∧bc P w' (cy j) c b∧fj σ j=some (.blk id))∨(b<w.heap.size∧¬qY P w o hp0 b∧hp id=some blk∧bc P w (β id) blk b):=by
  intro id blk b e1 e3;rcases cls id with ⟨i,b2,c1,c2,c3,c4,c5⟩|⟨j',b2,b',c,b0,q1,q2,q3,q4,q5,q6,q7,q8,q9,sr,zY,uf⟩|⟨c1,c2,c3⟩
  ·rw[c3] at e1;cases e1;rw[c5] at e3;refine .inl ⟨pl.length+i,b2,by rw[jx];exact c2,(im.of σ b2).xy e3,?_⟩;have:=(cq.1 c2).1;rw[ud,oj,nR (by omega),Jp (by omega),c1];congr 3;omega
  ·rw[q7] at e1;cases e1;have ug:b2≠ .dead:=q8.XB e3.alive;rw[sr,←uf ug] at e3;exact .inl ⟨j',b2,by rw[jx];exact q2,q8.xy e3,by rw[ud];exact qX (by rw[oj];exact q1)⟩
  ·rw[c1] at e1;rw[c3] at e3;have:=e3.mono (w:=w) fun b hb=>(other id blk b e1 hb c2).2.1;exact .inr ⟨S.h.lt e1 this,(other id blk b e1 this c2).1,e1,this⟩
 have vA: ∀b,qY P w o hp0 b∨w.heap.size≤b→M b∨B≤b:=by
  rintro b (h|h)
  ·obtain ⟨j,id,b1,i1,i2,i3⟩:=XG b h;exact S.h.own id b1 b i2 i3
  ·exact .inr (ln S.size h)
 have Po: ∀j c b,lC bs j=some c→bc P w' (cy j) c b→qY P w o hp0 b∨w.heap.size≤b:=fun j c b h1 h2=>Sc.h.own j c b h1 h2;refine ⟨β',hle,⟨⟨fun id blk ab=> ?_,fun i1 i2 b1 b2 b e1 e2 f1 f2=> ?_,fun id blk b ab hb=> ?_,Sc.h.iB⟩,fun b hb hM=> ?_,ln S.size Sc.size,fun b j hb=> ?_,⟨Sc.io.1.trans S.io.1,Sc.io.2.trans S.io.2⟩⟩,vG⟩
 ·rcases cls id with ⟨i,b2,c1,c2,c3,c4,c5⟩|⟨j',b2,b',c,b0,q1,q2,q3,q4,q5,q6,q7,q8,q9,sr,zY,uf⟩|⟨c1,c2,c3⟩
  ·rw[c3] at ab;cases ab;rw[c5];exact vG.XA (Sc.h.rel _ b2 (by rw[jx];exact c2)) (.of σ b2)
  ·rw[q7] at ab;cases ab;have:=vG.XA (Sc.h.rel j' b2 (by rw[jx];exact q2)) q8;by_cases ug:b2= .dead
   ·subst ug;cases q8;exact .dead
   ·rw[sr,←uf ug];exact this
  ·rw[c1] at ab;rw[c3];exact (S.h.rel id blk ab).mono hle fun b hb=>(other id blk b ab hb c2).2
 ·rcases place i1 b1 b e1 f1 with ⟨j1,c1,g1,g2,g3⟩|⟨g1,g2,g3,g4⟩<;>rcases place i2 b2 b e2 f2 with ⟨j2,c2,k1,k2,k3⟩|⟨k1,k2,k3,k4⟩
  ·have:=Sc.h.inj j1 j2 c1 c2 b g1 k1 g2 k2;subst this;rw[g3] at k3;cases k3;rfl
  ·rcases Po j1 c1 b g1 g2 with h|h
   ·exact absurd h k2
   ·omega
  ·rcases Po j2 c2 b k1 k2 with h|h
   ·exact absurd h g2
   ·omega
  ·exact S.h.inj i1 i2 _ _ b g3 k3 g4 k4
 ·rcases place id blk b ab hb with ⟨j1,c1,g1,g2,g3⟩|⟨g1,g2,g3,g4⟩
  ·exact vA b (Po j1 c1 b g1 g2)
  ·exact S.h.own id blk b g3 g4
 ·refine (Sc.cE b (ll hb S.size) fun hx=> ?_).trans (S.cE b hb hM)
  rcases vA b (.inl hx) with h|h
  ·exact hM h
  ·omega
 ·rcases Sc.new b j hb with h|h|h
  ·exact S.new b j h
  ·exact .inr (vA b (.inl h))
  ·exact .inr (vA b (.inr h))
end
section
variable {P:Program} {A:dc} {w w':World} {I I' I2:Nat→Nat→Prop} {μ β β' cy:Nat→Option Nat} {hp hp' hp0 bE:Nat→Option ag} {C:af} {B:Nat} {M:Nat→Prop} {w0:Start}
theorem XI (hp:Nat→Option ag): ∀(a b:List (Nat×ag)),b9 hp (a++b)=b9 (b9 hp b) a
 | [],b=>rfl
 | (i,x)::a,b=>by simp only[List.cons_append,b9,XI hp a b]
theorem zZ {hp:Nat→Option ag} {l:List (Nat×ag)} {id:Nat} (h: ∀q∈l,q.1≠id):b9 hp l id=hp id:=by
 rcases w5 (hp:=hp) (l:=l) (id:=id) with h1|⟨b,hb,_⟩
 all_goals grind
def xA (P : Program) : Prop := ∀ (f : Nat) fn, P.funcs[f]? = some fn → (fn.name == "runtime.NumGoroutine") = false
def Jr (P:Program) (f:FuncId) (e:TypeId):Prop:=
 (∀args w,(callFunc f args).run P w= .ok (.enter f args) w)∧∃t,P.underlying t=some (.slice e)∧
  ∀(s:Value) (w:World) (Q:Ending→World→Prop),(s= .slice none 0 0→Q (.returned (.slice none 0 0)) w)→
   (∀a n c,s= .slice (some a) n c→∃v w',(Builtin.append_ #[t,t] t #[.slice (some ⟨w.heap.size,0,none⟩) 0 0,s]).run P (w.alloc (.cells #[] e))= .ok v w'∧Q (.returned v) w')→
   (s= .slice none 0 0∨∃a n c,s= .slice (some a) n c)→Calls P f #[s] w Q
structure jW (P:Program) (A:dc):Prop where
 count:xA P
 ext: ∀f T,A.ext f=some T→∀(b:Nat) (C:Array Value) (w:World),w.heap[b]? =some (.cells C T (0,0))→C.size=P.cellsOf T→(C[0]? =some (.pointer none)∨C[0]? =some (.pointer (some ⟨b,0,none⟩)))→
  (callFunc f #[.pointer (some ⟨b,0,none⟩)]).run P w= .ok (.enter f #[.pointer (some ⟨b,0,none⟩)]) w∧
  Calls P f #[.pointer (some ⟨b,0,none⟩)] w fun e w'=>e= .returned (.tuple #[])∧(w'=w∨w'=w.setCell ⟨b,0,none⟩ (.pointer (some ⟨b,0,none⟩)))
 idle: ∀f,A.idle f=true→(∀args w,(callFunc f args).run P w= .ok (.enter f args) w)∧
  ∀args w,CallsD P f args .returning w fun e u' w'=>(∃v,e= .returned v)∧u'= .returning∧w'=w
 qz: ∀f e,A.qz f=some e→Jr P f e
theorem jW.here {P:Program} {A:dc} (h:jW P A) (f id:Nat):jW P (A.here f id):=⟨h.count,h.ext,h.idle,h.qz⟩
def Dz (E:FuncId→Bool) (d:Deferred):Prop:= ∃f cap,d.target= .fn (.func f) cap∧E f=true
theorem Pp {P:Program} {A:dc} (hP:jW P A) {fn:Func} {tmps:Array Value} {R:Ending→World→Prop} {w:World} {v:Value} (hv:(results fn tmps).run P w= .ok v w) (hR:R (.returned v) w):
  ∀ds:List Deferred,(∀d∈ds,Dz A.idle d)→Leaves P fn tmps R ds .returning w
 | [],_=>⟨v,hv,hR⟩
 | d::ds,h=>by
  obtain ⟨f,cap,ht,hf⟩:=h d (by simp);obtain ⟨k1,k2⟩:=hP.idle f hf;obtain ⟨t,XJ⟩:=d;simp only at ht;subst ht;refine leaves_cons (f:=f) (args:=XJ++cap) (by simp) ?_ ?_
  ·simp only[invoke];grind
  ·refine (k2 (XJ++cap) w).mono fun e u' w' hr=> ?_;obtain ⟨⟨v',rfl⟩,rfl,rfl⟩:=hr;exact Pp hP hv hR ds fun d hd=>h d (j6 _ hd)
def DA (P:Program) (A:dc) (o:Oper) (a:Act) (w:World) (I:Nat→Nat→Prop) (β:Nat→Option Nat) (hp:Nat→Option ag) (B:Nat) (M:Nat→Prop) (w0:Start) (r:R):Prop:=
 ∀(next:Act→World→Prop) (Q:Exit→Act→World→Prop),
  (∀v w' I' β' ds,Le P w I β hp w' I' β' (b9 hp r.upd)→aA P w' I' β' (b9 hp r.upd) B M w0→ai P w' I' β' (b9 hp r.upd) v r.v→(∀d∈ds,d∈a.defers∨Dz A.idle d)→next ({a with defers:=ds}.put o.dst v) w')→o.wp P a w next Q
theorem rW.step {o:Oper} {a:Act} {r:R} (h:rW P ((execOp a.eval o).run P w) w I β hp B M w0 r):DA P A o a w I β hp B M w0 r:=by
 obtain ⟨v,w',I',β',h1,h2,h3,h4⟩:=h;intro next Q hn
 unfold Oper.wp;rcases h1 with h1|⟨h1,rfl⟩
 ·rw[h1];exact hn v w' I' β' a.defers h2 h3 h4 fun d hd=> .inl hd
 ·rw[h1];exact hn _ w' I' β' a.defers h2 h3 h4 fun d hd=> .inl hd
theorem XK: ∀(l:List (Nat×VS)),qA l=vo (l.map (·.2))
 | []=>rfl
 | (_,s)::l=>by simp only[qA,iO,vo,XK l]
theorem aht (hC:np P A C) (S:aA P w I β hp B M w0) (hg:iC P A.aF w I) {vals:List Value} {args:List V} {nb key:Nat} {f:FuncId} {r:R} {rd:List Nat} (hlen:vals.length=args.length)
  (cH: ∀(j:Nat) v x,vals[j]? =some v→args[j]? =some x→ai P w I β hp v x) (h:(Cq P A nb key f args).run C hp=some (r,rd)):
  ∃fn c,P.funcs[f]? =some fn∧fn.body=some c∧Calls P f vals.toArray w fun e w'=> ∃v I' β',e= .returned v∧Le P w I β hp w' I' β' (b9 hp r.upd)∧aA P w' I' β' (b9 hp r.upd) B M w0∧ai P w' I' β' (b9 hp r.upd) v r.v:=by
 unfold Cq at h;obtain ⟨XL,h0⟩:=aE h;clear h;rw[aO] at XL;subst XL;obtain ⟨h1,ik,d1,u1,a1,a2,a3,a5,a4⟩:=Pg S h0 hlen cH;obtain ⟨h2,vQ,d2,u2,b1,b2,b3,b4⟩:=Xp S a1;clear h0 a1;obtain ⟨hc,h3⟩:=aE b1;clear b1;simp only[aK,aO,mY] at hc;obtain ⟨dW,Jn⟩:=hc;have xB:=a2.trans b2;have nM:h2.ds=d1++d2:=by have:=xB.ds;grind
 have tX:h2.upd=u1++u2:=by have:=xB.upd;grind
 have la:(h2.pl.map Place.id).Nodup:=xB.nodup (by simp);obtain ⟨c1,o,c2,c3⟩:=b4 [];simp only[va] at c1 c2 c3;cases DB:C key h2.ds with
 | none=>
  simp only[Rd.run,DB] at h3;cases h3
 | some es=>
  have tK: ∃fE,(Cp P (A.so key es) nb h2 (A.lv key es)).run C hp=some (r,fE):=by
   obtain ⟨x,hx,e⟩:=bind_some h3;rw[DB] at hx;cases hx;unfold dc.so dc.lv;cases c8:A.alt key with
   | none=>grind
   | some S2=>
    rw[c8] at e;simp only[Rd.run] at e;grind
  clear h3;obtain ⟨fE,h3⟩:=tK;unfold Cp at h3;simp only at h3;generalize iT:fO (A.so key es).cL ((A.lv key es).drop (qA (A.so key es).cf))=bs at h3;generalize ud:h2.pl++vp nb (bs.length-h2.pl.length)=σ at h3;generalize Dy:tA σ nb (bs.drop h2.pl.length)=fr at h3;obtain ⟨p0,bk,rd4,p1,p2,_,p3⟩:=Xw h3;obtain ⟨zX,rd5,p4⟩:=Xz p1;obtain ⟨xC,p4⟩:=aE p4;obtain rfl:=aM p4;have qK:h2.pl.length≤bs.length:=by grind
  have ue: ∀q∈bk,∃(j:Nat) (b:ag),h2.pl[j]? =some (.blk q.1)∧bs[j]? =some b∧im σ b q.2∧Dx hp q:=by
   intro q hq;rcases p2 q hq with hx|⟨j,b,k1,k2,k3,k4⟩
   ·simp at hx
   ·have hj:=(cq.1 k1).1;rw[gR hj] at k2;exact ⟨j,b,k1,k2,k3,k4⟩
  obtain ⟨fn,c,hf,hb,Pq⟩:=hC key h2.ds es DB;refine ⟨fn,c,hf,hb,?_⟩;have hmb:fO (A.sin key).cL (h2.ds.drop (qA (A.sin key).cf))=fO (A.sin key).cL d2:=by
   rw[nM,XK,Jj a3]
  have Pr:(bH (A.sin key) h2.ds).hp=lC (fO (A.sin key).cL d2):=by
   simp only[bH,mk,hmb]
  have hl: ∀j blk,(bH (A.sin key) h2.ds).hp j=some blk→∃p,fj h2.pl j=some p∧e8 P w β hp p (o j) blk:=by
   intro j blk hj;rw[Pr,jx] at hj;grind
  have hd: ∀j,j<h2.pl.length→∃blk,(bH (A.sin key) h2.ds).hp j=some blk:=by
   intro j hj;rw[Pr,jx];simp_all
  have XM:Ds P w β hp h2.pl o (bH (A.sin key) h2.ds).hp:=by
   intro j p hj;obtain ⟨blk,k1⟩:=hd j (by rw[oj] at hj;grind);grind
  have i1: ∀b j,I b j→j9 P w I β hp h2.upd b j:=fun b j h=> .inl h;have entry:=aho (hp0:=(bH (A.sin key) h2.ds).hp) S la Jn hl (fun c6 j blk hj=>by
   have dN:=hj;rw[Pr,jx] at dN;exact c3 (j9 P w I β hp h2.upd) o _ i1 (fun q hq b j hb=> .inr ⟨q,by grind,hb⟩) h2.pl [] (by simp) XM j blk dN (c6 j blk hj)) (fun b j h=>h.elim (S.h.iB b j) fun ⟨p,_,blk,g1,g2⟩=>S.h.lt g1 g2.own)
  have ahu:vals.length=(A.sin key).cf.length:=by grind
  have ha:=Pq w (j9 P w I β hp h2.upd) o vals entry (hg.mono i1 fun _ _ _=>rfl) ahu fun j v x hj hx=>by
   rw[nM] at hx;exact (((a4.later b2) (j9 P w I β hp h2.upd) o _ i1 (fun q hq b j hb=> .inr ⟨q,by grind,hb⟩) h2.pl [] (by simp) XM) d2).2 j v x hj hx
  refine ha.mono fun e w' DC=> ?_;obtain ⟨v,I2,cy,rfl,ha⟩:=DC;have Js:(bH (A.so key es) (A.lv key es)).hp=lC bs:=by simp only[bH,mk,iT]
  cases XN:(A.so key es).safe P with
  | true=>
   simp only[cond_true,va];have tT: ∀b j,I b j→I2 b j:=fun b j h=>ha.le.dV b j (i1 b j h);obtain ⟨s1,s2⟩:=ahr XN tT ha.zV i1;have zW:nn w I o (bH (A.sin key) h2.ds).hp w' I cy (lC bs):=by
    rw[←Js];exact ⟨fun _ _ h=>h,fun b j h=>ha.le.cE b j (i1 b j h),ha.le.blk,ha.le.size⟩
   obtain ⟨β',k1,k2,k3⟩:=XE S ud.symm Dy.symm la qK p3 ue hl hd (by rw[←Js];exact ⟨s1.h,s1.cE,s1.size,fun b j h=> .inl h,s1.io⟩) zW zX;exact ⟨v,I,β',rfl,k1,k2,k3.val (by have:=s2 v ha.res;grind)⟩
  | false=>
   simp only[cond_false];rw[XN,Bool.false_or,fL] at xC;have z0: ∀q∈h2.upd,zw hp q:=fun q hq=>by
    have qT:=xC q hq;rcases xB.Jk q (tX▸hq) with h|⟨T,cs,h,_⟩
    all_goals grind
   obtain ⟨sa,S1⟩:=CK S z0;rw[←jK,XI];have sq: ∀p∈h2.pl,b9 hp h2.upd p.id=hp p.id:=fun p hp=>zZ fun q hq e=>
    Jm Jn (eu.2 ⟨q,hq,rfl⟩) (e▸eu.2 ⟨p,hp,rfl⟩)
   have ahv: ∀q∈bk,∃(j:Nat) (b:ag),h2.pl[j]? =some (.blk q.1)∧bs[j]? =some b∧im σ b q.2∧Dx (b9 hp h2.upd) q:=by
    intro q hq;obtain ⟨j,b,k1,k2,k3,k4⟩:=ue q hq;refine ⟨j,b,k1,k2,k3,fun hn=> ?_⟩;have:=sq _ (lp k1);simp only[Place.id] at this;grind
   have NU: ∀j blk,(bH (A.sin key) h2.ds).hp j=some blk→∃p,fj h2.pl j=some p∧e8 P w β (b9 hp h2.upd) p (o j) blk:=by
    intro j blk hj;obtain ⟨p,k1,k2⟩:=hl j blk hj;exact ⟨p,k1,k2.other (sq p (by rw[oj] at k1;grind))⟩
   have ahw: ∀q∈fr,b9 hp h2.upd q.1=none:=by
    intro q hq;rw[zZ fun q' dE e=> ?_]
    ·grind
    ·obtain ⟨e1,cZ,_,h5⟩:=z0 q' dE;grind
   obtain ⟨β',k1,k2,k3⟩:=XE S1 ud.symm Dy.symm la qK p3 ahv NU hd (by rw[←Js];exact ha.zV) (by rw[←Js];exact ha.le) ahw;exact ⟨v,I2,β',rfl,sa.trans k1,k2,k3.val (by have:=ha.res;grind)⟩
theorem XO (hC:np P A C) (hP:jW P A) (S:aA P w I β hp B M w0) (hg:iC P A.aF w I) {a:Act} {nb key:Nat} {o:Oper} {f:FuncId} {vals:List Value} {args:List V} (hlen:vals.length=args.length)
  (cH: ∀(j:Nat) v x,vals[j]? =some v→args[j]? =some x→ai P w I β hp v x) {r:R} {rd:List Nat} (h:(Cq P A nb key f args).run C hp=some (r,rd))
  (hex:(execOp a.eval o).run P w=(callFunc f vals.toArray).run P w):DA P A o a w I β hp B M w0 r:=by
 intro next Q hn
 obtain ⟨fn,c,hf,hb,Pq⟩:=aht hC S hg hlen cH h;unfold Oper.wp;rw[hex,MuLone.run_callFunc_enter hf (hP.count f _ hf) hb,Oper.upon_enter];refine Pq.mono fun e w' DC=> ?_;obtain ⟨v,I2,cy,rfl,k1,k2,k3⟩:=DC;exact hn v w' I2 cy a.defers k1 k2 k3 fun d hd=> .inl hd
theorem mz.args {a:Act} {sl:Nat→V} (hs:mz P w I β hp a sl) (hg:iC P A.aF w I) {args:Array Operand} {ts:Array TypeId} (aU:args.size=ts.size):
  (args.map a.eval).toList.length=((args.toList.zip ts.toList).map fun p=>aQ P A.aF p.2 sl p.1).length∧
  ∀(j:Nat) v x,(args.map a.eval).toList[j]? =some v→((args.toList.zip ts.toList).map fun p=>aQ P A.aF p.2 sl p.1)[j]? =some x→ai P w I β hp v x:=by
 refine ⟨by simp;omega,fun j v x hv hx=> ?_⟩;simp only[Array.toList_map,jh,List.getElem?_zip_eq_some,Option.map_eq_some_iff] at hv hx;obtain ⟨x1,mE,rfl⟩:=hv;obtain ⟨⟨y1,t1⟩,⟨xD,_⟩,rfl⟩:=hx;rw[mE] at xD;cases xD;exact hs.ev hg t1 _
theorem ahx (hP:jW P A) (S:aA P w I β hp B M w0) (hg:iC P A.aF w I) {a:Act} {sl:Nat→V} (hs:mz P w I β hp a sl) {dst:Option Tmp} {ty e:TypeId} {pos:String} {after:Array Edge} {guard:Option (Nat×Bool)} {f:FuncId}
  {args:Array Operand} {argTypes:Array TypeId} {nb:Nat} {r:R} {rd:List Nat} (mD:A.qz f=some e)
  (h:((match args.toList with
    | [x]=> .aB (cR P e) (tu e (aQ P A.aF ty sl x) fun xs=> .aB (Nat.ble (xs.length*P.bytesOf e) bm) (gX nb (.arr e xs false) (.whole e nb) []))
    | _=> .fail):Rd R).run C hp=some (r,rd)):DA P A (Oper.mk dst (.call (Go.Call.mk (.value (.func f)) args argTypes)) ty pos after guard) a w I β hp B M w0 r:=by
 cases ha:args.toList with
 | nil=>rw[ha] at h;cases h
 | cons x l=>
  rw[ha] at h;cases l with
  | cons _ _=>cases h
  | nil=>
   simp only at h;have e1:args= #[x]:=by grind
   subst e1;have hx:=hs.ev hg ty x;obtain ⟨ar,h⟩:=aE h;have fin: ∀{w1:World} {sb:Nat→Option Nat},(∀id blk,hp id=some blk→ee P w1 I sb hp (sb id) blk)→ai P w1 I sb hp (a.eval x) (aQ P A.aF ty sl x)→∃xs,(((∃a',a.eval x= .slice a' 0 0)∧xs=[])∨∃a' c news,Row P w1 I e (a.eval x) xs a' c news)∧
     xs.length*P.bytesOf e≤bm∧hp nb=none∧r=⟨.whole e nb,[(nb,.arr e xs false)]⟩:=by
    intro w1 sb h1 h2;obtain ⟨xs,lL,l,h⟩:=Db h1 ar h2 h;obtain ⟨dM,h⟩:=aE h;rw[fe] at dM;obtain ⟨hn,rfl⟩:=kX h;grind
   obtain ⟨c1,t,hu,c2⟩:=hP.qz f e mD;intro next Q p6
   unfold Oper.wp;have e2:(execOp a.eval ⟨dst,.call ⟨.value (.func f),#[x],argTypes⟩,ty,pos,after,guard⟩).run P w= .ok (.enter f #[a.eval x]) w:=by
    have fY:a.eval (.func f)= .func (.func f) #[] #[]:=rfl;simpa[execOp,resolve,fY,Deferred.ofValue,invoke] using c1 #[a.eval x] w
   rw[e2,Oper.upon_enter];refine c2 _ w _ (fun DD=> ?_) (fun b n c zH=> ?_) ?_
   ·obtain ⟨xs,lL,dM,hn,rfl⟩:=fin S.h.rel hx;have jw:xs=[]:=by
     rcases lL with ⟨_,h⟩|⟨a,c,news,hr⟩
     ·exact h
     ·have:=hr.val.symm.trans DD;cases this
    subst jw;obtain ⟨a1,a2⟩:=CL S e hn;exact p6 _ w I _ a.defers a1 a2 (.dy (bD _ _ _) (bD _ _ _)) fun d hd=> .inl hd
   ·obtain ⟨m1,m2⟩:=afs (w':=w.alloc (.cells #[] e)) S (fun b hb=>heap_alloc_old w _ b hb) (by simp) ⟨rfl,rfl⟩;obtain ⟨xs,lL,dM,hn,rfl⟩:=fin m2.h.rel (hx.mono m1);obtain ⟨v,w',β',a1,a2,a3,a4⟩:=OE (ty:=t) (a0:=some ⟨w.heap.size,0,none⟩) m2 hu ar hn dM lL;exact ⟨v,w',a1,p6 v w' I β' a.defers (m1.trans a2) a3 a4 fun d hd=> .inl hd⟩
   ·obtain ⟨xs,lL,dM,hn,rfl⟩:=fin S.h.rel hx;rcases lL with ⟨⟨b,h⟩,_⟩|⟨b,c,news,hr⟩
    ·rw[h];cases b with
     | none=>grind
     | some b=>grind
    ·exact .inr ⟨_,_,_,hr.val⟩
theorem ahy (hP:jW P A) (S:aA P w I β hp B M w0) (hg:iC P A.aF w I) {a:Act} {sl:Nat→V} (hs:mz P w I β hp a sl) {dst:Option Tmp} {ty T0:TypeId} {pos:String} {after:Array Edge} {guard:Option (Nat×Bool)} {f:FuncId}
  {args:Array Operand} {argTypes:Array TypeId} {r:R} {rd:List Nat} (DE:A.ext f=some T0)
  (h:((match args.toList with
   | [x]=>
    match aQ P A.aF ty sl x with
    | .ptr id i c=>Rd.get id fun
     | some (.var T cs)=> .aB (Nat.beq T T0&&(rM P T&&(Nat.beq cs.length (P.cellsOf T)&&(Nat.beq i 0&&Nat.beq c 0)))) (.ret ⟨.aW [],[(id,.var T (.undef::cs.tail))]⟩)
     | _=> .fail
    | _=> .fail
   | _=> .fail):Rd R).run C hp=some (r,rd)):DA P A (Oper.mk dst (.call (Go.Call.mk (.value (.func f)) args argTypes)) ty pos after guard) a w I β hp B M w0 r:=by
 cases ha:args.toList with
 | nil=>rw[ha] at h;cases h
 | cons x l=>
  rw[ha] at h;cases l with
  | cons _ _=>cases h
  | nil=>
   simp only at h;have e1:args= #[x]:=by grind
   subst e1;have hx:=hs.ev hg ty x;cases ij:aQ P A.aF ty sl x<;>rw[ij] at h hx<;>simp only at h<;>first|(cases h;done)|skip
   rename_i id i c;obtain ⟨l,h1⟩:=run_get h;cases ab:hp id with
   | none=>rw[ab] at h1;cases h1
   | some blk=>
    rw[ab] at h1;cases blk<;>simp only at h1<;>first|(cases h1;done)|skip
    rename_i T cs;obtain ⟨h2,h3⟩:=aE h1;simp only[aK,aO] at h2;obtain ⟨rfl,eg,hlc,rfl,rfl⟩:=h2;obtain rfl:=aM h3;obtain ⟨b,hb,he⟩:=hx.gK ab (by simp);have hr:=S.h.rel id _ ab;rw[hb] at hr;cases hr with
    | @var _ b' Ca _ ay hh aU hI jw gJ=>
     cases ay;have zO:a.eval x= .pointer (some ⟨b,0,none⟩):=by grind
     obtain ⟨q1,q2⟩:=hP.ext f T DE b Ca w hh (aU.trans hlc) (gJ eg);have h0:0<Ca.size:=by
      rcases gJ eg with k|k<;>exact (vd.1 k).1
     have qM:(V.undef::cs.tail).length=cs.length:=by
      grind
     have rel: ∀(C':Array Value),(∀j,0<j→C'[j]? =Ca[j]?)→∀(j:Nat) v y,C'[j]? =some v→(V.undef::cs.tail)[j]? =some y→ai P w I β hp v y:=by
      intro C' IN j v y hj hy;cases j with
      | zero=>simp at hy;subst hy;exact .undef
      | succ j=>
       grind
     have fin: ∀w' C',(∀b',b'≠b→w'.heap[b']? =w.heap[b']?)→w'.heap[b]? =some (.cells C' T (0,0))→C'.size=Ca.size→w.heap.size≤w'.heap.size→w'.os=w.os∧w'.output=w.output→
       (∀j,0<j→C'[j]? =Ca[j]?)→(C'[0]? =some (.pointer none)∨C'[0]? =some (.pointer (some ⟨b,0,none⟩)))→
       Le P w I β hp w' I β (ao hp id (some (.var T (V.undef::cs.tail))))∧aA P w' I β (ao hp id (some (.var T (V.undef::cs.tail)))) B M w0:=by
      intro w' C' k1 k2 k3 k4 k5 k6 k7;exact CM (w':=w') (blk':= .var T (V.undef::cs.tail)) S ab (by simp) rfl hb hI (by simp) k1 (by rw[jS k2,jS hh,k3]) k4 k5 fun hle=>
       .var rfl k2 (by omega) hI (fun j v y hj hy=>(rel C' k6 j v y hj hy).mono hle) fun _=>k7
     intro next Q hn
     unfold Oper.wp;have e2:(execOp a.eval ⟨dst,.call ⟨.value (.func f),#[x],argTypes⟩,ty,pos,after,guard⟩).run P w= .ok (.enter f #[.pointer (some ⟨b,0,none⟩)]) w:=by
      have fY:a.eval (.func f)= .func (.func f) #[] #[]:=rfl;simpa[execOp,resolve,fY,Deferred.ofValue,invoke,zO] using q1
     rw[e2,Oper.upon_enter];refine q2.mono fun e w' DC=> ?_;obtain ⟨rfl,hw⟩:=DC;have XP:Le P w I β hp w' I β (ao hp id (some (.var T (V.undef::cs.tail))))∧aA P w' I β (ao hp id (some (.var T (V.undef::cs.tail)))) B M w0:=by
      rcases hw with rfl|rfl
      ·exact fin w' Ca (fun _ _=>rfl) hh rfl (az _) ⟨rfl,rfl⟩ (fun _ _=>rfl) (gJ eg)
      ·refine fin (w.setCell ⟨b,0,none⟩ (.pointer (some ⟨b,0,none⟩))) (Ca.setIfInBounds 0 (.pointer (some ⟨b,0,none⟩))) (fun b' bK=> ?_) ?_ (by simp) (by simp_all) ⟨rfl,rfl⟩ (fun j hj=> ?_) (.inr ?_)
       ·simp only[World.setCell,HS];grind
       ·simp[World.setCell,HS,hh]
       all_goals grind
     exact hn (.tuple #[]) w' I β a.defers XP.1 XP.2 (.aW rfl fun j v y hj _=>by simp at hj) fun d hd=> .inl hd
theorem ahz (hC:np P A C) (hP:jW P A) (S:aA P w I β hp B M w0) (hg:iC P A.aF w I) {a:Act} {sl:Nat→V} (hs:mz P w I β hp a sl) {ix nb:Nat} {o:Oper} {r:R} {rd:List Nat}
  (h:(gG P A sl ix nb o).run C hp=some (r,rd)):DA P A o a w I β hp B M w0 r:=by
 cases hc:O7 o.op with
 | false=>exact (ag5 S hg hs hc h).step
 | true=>
  obtain ⟨dst,op,ty,pos,after,guard⟩:=o;cases op<;>simp only[O7] at hc<;>first|(cases hc;done)|skip
  case defer c=>
   obtain ⟨callee,args,argTypes⟩:=c;cases callee with
   | invoke r m=>simp only[gG] at h;cases h
   | builtin b=>simp only[gG] at h;cases h
   | value f=>
   cases f with
   | tmp t=>
    simp only[gG] at h;cases eg:sl t<;>rw[eg] at h<;>simp only at h<;>first|(cases h;done)|skip
    rename_i f xs ys;obtain ⟨h1,h2⟩:=aE h;obtain rfl:=aM h2;have hv:=hs t;rw[eg] at hv;generalize xr:a.tmps.getD t undef=vt at hv;cases hv with
    | @fn _ fs cs _ _ q1 q2 q3 q4=>
     intro next Q hn
     unfold Oper.wp;have fY:a.eval (.tmp t)= .func (.func f) fs cs:=xr;have e1:(execOp a.eval ⟨dst,.defer ⟨.value (.tmp t),args,argTypes⟩,ty,pos,after,guard⟩).run P w= .ok (.defer {target:= .fn (.func f) cs,args:=fs++args.map a.eval}) w:=by
      simp[execOp,resolve,fY,Deferred.ofValue]
     rw[e1,Oper.upon_defer];exact hn undef w I β _ (Le.refl w I β hp) S .undef fun d hd=>by
      rcases lu.1 hd with rfl|hd
      ·exact .inr ⟨f,cs,rfl,h1⟩
      grind
   | func f=>simp only[gG] at h;cases h
   | const _=>simp only[gG] at h;cases h
   | global _=>simp only[gG] at h;cases h
  rename_i c;obtain ⟨callee,args,argTypes⟩:=c;cases callee with
  | invoke r m=>cases hc
  | builtin b=>cases hc
  | value f=>
   cases f with
   | func f=>
    simp only[gG] at h;cases DE:A.ext f with
    | some T0=>
     rw[DE] at h;simp only at h;exact ahy hP S hg hs DE h
    | none=>
    rw[DE] at h;simp only at h;cases mD:A.qz f with
    | some e0=>
     rw[mD] at h;simp only at h;exact ahx hP S hg hs mD h
    | none=>
    rw[mD] at h;simp only at h;obtain ⟨h1,h2⟩:=aE h;rw[aO] at h1;obtain ⟨k1,k2⟩:=hs.args hg h1;refine XO hC hP S hg k1 k2 h2 ?_;have e1:(args.map a.eval).toList.toArray=args.map a.eval:=Array.toArray_toList;rw[e1];simp[execOp,resolve,Act.eval,Deferred.ofValue,invoke]
   | tmp t=>
    simp only[gG] at h;cases eg:sl t<;>rw[eg] at h<;>simp only at h<;>first|(cases h;done)|skip
    rename_i f xs ys;obtain ⟨h1,h2⟩:=aE h;rw[aO] at h1;obtain ⟨k1,k2⟩:=hs.args hg h1;have hv:=hs t;rw[eg] at hv;generalize xr:a.tmps.getD t undef=vt at hv;cases hv with
    | @fn _ fs cs _ _ q1 q2 q3 q4=>
     have l1:fs.toList.length=xs.length:=by omega
     have l3:cs.toList.length=ys.length:=by omega
     have r1: ∀(j:Nat) v x,fs.toList[j]? =some v→xs[j]? =some x→ai P w I β hp v x:=fun j v x hj hx=>q2 j v x (by grind) hx;have r3: ∀(j:Nat) v x,cs.toList[j]? =some v→ys[j]? =some x→ai P w I β hp v x:=fun j v x hj hx=>q4 j v x (by grind) hx;refine XO hC hP S hg (vals:=fs.toList++(args.map a.eval).toList++cs.toList) (args:=xs++((args.toList.zip argTypes.toList).map fun p=>aQ P A.aF p.2 sl p.1)++ys) (by grind) ?_ h2 ?_
     ·grind
     ·have e1:(fs.toList++(args.map a.eval).toList++cs.toList).toArray=fs++args.map a.eval++cs:=by
       grind
      rw[e1];have fY:a.eval (.tmp t)= .func (.func f) fs cs:=xr;simp[execOp,resolve,fY,Deferred.ofValue,invoke]
   | _=>cases hc
end
section
variable {P:Program} {A:dc} {w w':World} {I I' I2:Nat→Nat→Prop} {μ β β':Nat→Option Nat} {hp hp':Nat→Option ag} {C:af} {B:Nat} {M:Nat→Prop} {w0:Start}
structure gi (P:Program) (E:FuncId→Bool) (G:Nat→V) (w:World) (I:Nat→Nat→Prop) (β:Nat→Option Nat) (n:Nat) (a:Act) (st:St):Prop where
 sl:mz P w I β st.hp a st.sl
 size:a.tmps.size=n
 defers: ∀d∈a.defers,Dz E d
 aF:iC P G w I
theorem Ps {E:FuncId→Bool} {G:Nat→V} {n:Nat} {a:Act} {st:St} {o:Oper} {v:Value} {x:V} {hp':Nat→Option ag} {ds:List Deferred} (h:gi P E G w I β n a st) (hle:Le P w I β st.hp w' I' β' hp') (hd:vu o n=true)
  (hv:ai P w' I' β' hp' v x) (nM: ∀d∈ds,d∈a.defers∨Dz E d):gi P E G w' I' β' n ({a with defers:=ds}.put o.dst v) ⟨jN st.sl o.dst x,hp',st.nb⟩:=by
 have XQ: ∀d∈ds,Dz E d:=fun d hd=>(nM d hd).elim (h.defers d) id;cases ahA:o.dst with
 | none=>exact ⟨fun k=>(h.sl k).mono hle,h.size,XQ,h.aF.mono hle.dV hle.cE⟩
 | some d=>
  have ba:d<a.tmps.size:=by
   unfold vu at hd;rw[ahA] at hd;rw[h.size];simpa using hd
  refine ⟨fun k=> ?_,by simp[Act.put,h.size],XQ,h.aF.mono hle.dV hle.cE⟩;simp only[Act.put,jN,ao];cases hb:Nat.beq k d with
  | true=>
   rw[aO] at hb;subst hb;simpa[ba] using hv
  | false=>
   have bK:d≠k:=fun e=>by rw[e,ml] at hb;cases hb
   have:=(h.sl k).mono hle;simpa[Array.getElem?_setIfInBounds_ne bK] using this
theorem XR {E:FuncId→Bool} {G:Nat→V} {n:Nat} {a:Act} {st:St} {d:Nat} {b:Bool} (h:gi P E G w I β n a st) (hd:st.sl d= .bool b):a.tmps[d]? =some (.bool b):=by
 have:=h.sl d;rw[hd] at this;have:=this.kW;cases ht:a.tmps[d]? with
 | none=>simp[ht] at this;cases this
 | some v=>simp[ht] at this;rw[this]
theorem ahB {x:V} {b:Bool} (h:nW x=some (some b)):x= .bool b:=by
 cases x with
 | bool c=>simp only[nW] at h;injection h with h;injection h with h;rw[h]
 | aW vs=>cases vs<;>simp[nW] at h
 | _=>simp[nW] at h
theorem ahC {x:V} (h:nW x=some none):x= .aW []:=by
 cases x with
 | aW vs=>cases vs with
  | nil=>rfl
  | cons _ _=>simp[nW] at h
 | bool c=>simp[nW] at h
 | _=>simp[nW] at h
theorem ai.ahD {v:Value} (h:ai P w I β hp v (.aW [])):v= .tuple #[]:=by
 cases h with
 | @aW cs _ hs _=>
  have:cs= #[]:=by
   apply Array.eq_empty_of_size_eq_zero;simpa using hs
  rw[this]
theorem ai.XS:ai P w I β hp Go.undef (.aW []):= .aW (by rfl) (fun j v x _ hx=>by simp at hx)
theorem XT (hC:np P A C) (hP:jW P A) {ops:Array Oper} {n i nb:Nat} {o:Oper} (ho:ops[i]? =some o) {a:Act} {st st':St} {R W:List Nat} (S:aA P w I β st.hp B M w0) (hA:gi P A.idle A.aF w I β n a st)
  (h:jm P A C n ops i o nb st=some (st',R,W)) {K:Act→World→Prop} {Q:Exit→Act→World→Prop}
  (hK: ∀a' w' I' β',Le P w I β st.hp w' I' β' st'.hp→aA P w' I' β' st'.hp B M w0→gi P A.idle A.aF w' I' β' n a' st'→K a' w'):wpOp P ops Q i K a w:=by
 unfold jm at h;cases hd:vu o n with
 | false=>rw[hd] at h;cases h
 | true=>
  rw[hd] at h;simp only[cond_true] at h;have go: ∀{Pt:St} {R W:List Nat},(((gG P A st.sl i (nb+64*i) o).run C st.hp).bind fun r=>some ((⟨jN st.sl o.dst r.1.v,b9 st.hp r.1.upd,st.nb⟩:St),tD r.2 r.1.upd,gZ st.hp r.1.upd))=some (Pt,R,W)→Pt=st'→
    o.wp P a w K Q:=by
   intro Pt R W h e;obtain ⟨⟨r,rd⟩,h1,h2⟩:=bind_some h;cases h2;subst e;exact ahz hC hP S hA.aF hA.sl h1 K Q fun v w' I' β' ds k1 k2 k3 k4=>hK _ w' I' β' k1 k2 (Ps hA k1 hd k3 k4)
  unfold wpOp;rw[ho];simp only;cases hg:o.guard with
  | none=>
   rw[hg] at h;simp only[Region.wanted,hg,lr];exact .inl (go h rfl)
  | some gw=>
   obtain ⟨g,want⟩:=gw;rw[hg] at h;simp only at h;cases mG:(ops[g]?).bind (·.dst) with
   | none=>rw[mG] at h;cases h
   | some d=>
    rw[mG] at h;simp only at h;cases o5:nW (st.sl d) with
    | none=>rw[o5] at h;cases h
    | some ob=>
    rw[o5] at h;cases ob with
    | none=>
     have zH:=ahC o5;have hy:yielded ops a.tmps g=none:=by
      unfold yielded;rw[mG];have:=hA.sl d;rw[zH] at this;have hu:=ai.ahD this;simp only[Option.bind_some];cases ht:a.tmps[d]? with
      | none=>rfl
      | some v=>simp[ht] at hu;subst hu;rfl
     simp only[Region.wanted,hg,hy];injection h with h;injection h with h3 h4;subst h3;have h2:((none:Option Bool)==some want)=false:=rfl;simp only[h2,Bool.false_eq_true,mX];exact hK _ w I β (Le.refl w I β st.hp) S (Ps (ds:=a.defers) hA (Le.refl w I β st.hp) hd ai.XS fun d h=> .inl h)
    | some b=>
    simp only at h;have zH:=ahB o5;have hy:yielded ops a.tmps g=some b:=by
     unfold yielded;rw[mG];simp only[Option.bind_some,XR hA zH]
    simp only[Region.wanted,hg,hy];by_cases hb:b=want
    ·subst hb;simp only[beq_self_eq_true,cond_true] at h;simp only[beq_self_eq_true,lr];exact .inl (go h rfl)
    ·have h1:(b==want)=false:=by simp[hb]
     have h2:(some b==some want)=false:=by simp[hb]
     rw[h1] at h;simp only[cond_false] at h;injection h with h;injection h with h3 h4;subst h3;simp only[h2,Bool.false_eq_true,mX];exact hK _ w I β (Le.refl w I β st.hp) S (Ps (ds:=a.defers) hA (Le.refl w I β st.hp) hd ai.XS fun d h=> .inl h)
def xE (hp hp':Nat→Option ag) (c:Nat):Prop:=hp' c=hp c∧(KB≤c→iz (hp' (c-KB))=iz (hp (c-KB)))
theorem xE.symm {c:Nat} (h:xE hp hp' c):xE hp' hp c:=⟨h.1.symm,fun hc=>(h.2 hc).symm⟩
theorem vR {α:Type}: ∀{p:Rd α} {r:α} {rd:List Nat},p.run C hp=some (r,rd)→(∀id∈rd,xE hp hp' id)→p.run C hp'=some (r,rd)
 | .ret a,r,rd,h,_=>h
 | .fail,r,rd,h,_=>by cases h
 | .get id k,r,rd,h,he=>by
  obtain ⟨x,h1,h2⟩:=bind_some h;cases h2;have e1:hp' id=hp id:=(he id (by simp)).1;have:=vR (p:=k (hp id)) (r:=x.1) (rd:=x.2) h1 (fun i hi=>he i (by simp[hi]));simp only[Rd.run,e1,this,Option.bind_some]
 | .live id ok k,r,rd,h,he=>by
  simp only[Rd.run] at h⊢;cases hk:ok (iz (hp id)) with
  | false=>rw[hk] at h;cases h
  | true=>
   rw[hk] at h;obtain ⟨x,h1,h2⟩:=bind_some h;cases h2;have e1:iz (hp' id)=iz (hp id):=by
    have:=(he (id+KB) (by simp)).2 (Nat.le_add_left _ _);rwa [Nat.add_sub_cancel] at this
   have:=vR (p:=k) (r:=x.1) (rd:=x.2) h1 (fun i hi=>he i (by simp[hi]));rw[e1,hk,this];rfl
 | .opt o k,r,rd,h,he=>by
  obtain ⟨x,h1,h2⟩:=bind_some h;simp only[Rd.run,h1,Option.bind_some];exact vR h2 he
 | .aB b k,r,rd,h,he=>by
  obtain ⟨h1,h2⟩:=aE h;simp only[Rd.run,h1,cond_true];exact vR h2 he
 | .call key ds k,r,rd,h,he=>by
  obtain ⟨x,h1,h2⟩:=bind_some h;simp only[Rd.run,h1,Option.bind_some];exact vR h2 he
 | .alt true x y,r,rd,h,he=>vR (p:=x) h he
 | .alt false x y,r,rd,h,he=>vR (p:=y) h he
theorem ahE {G:Nat→V} {sl sl':Nat→V} {t:TypeId} {x:Operand} (h: ∀k,x= .tmp k→sl k=sl' k):aQ P G t sl x=aQ P G t sl' x:=by
 cases x with
 | tmp k=>exact h k rfl
 | _=>rfl
theorem ahF {sl sl':Nat→V} {ix nb:Nat} {o:Oper} (h: ∀x∈o.op.operands,∀k,x= .tmp k→sl k=sl' k):gG P A sl ix nb o=gG P A sl' ix nb o:=by
 have fY: ∀t x,x∈o.op.operands→aQ P A.aF t sl x=aQ P A.aF t sl' x:=fun t x hx=>ahE (h x hx);obtain ⟨dst,op,ty,pos,after,guard⟩:=o;have XU: ∀(t:TypeId) (ps:Array (Nat×Operand)),(∀x∈ps.map (·.2),aQ P A.aF t sl x=aQ P A.aF t sl' x)→
   (ps.toList.map fun p=>(p.1,aQ P A.aF t sl p.2))=ps.toList.map fun p=>(p.1,aQ P A.aF t sl' p.2):=fun t ps hp=>
  mo fun p hm=>by rw[hp p.2 (Array.mem_map.2 ⟨p,rL.1 hm,rfl⟩)]
 have ahG: ∀(t:TypeId) (ps:Array (Nat×Operand)),(∀x∈ps.map (·.2),aQ P A.aF t sl x=aQ P A.aF t sl' x)→
   (ps.toList.map fun p=>(aQ P A.aF t sl p.2).cells)=ps.toList.map fun p=>(aQ P A.aF t sl' p.2).cells:=fun t ps hp=>
  mo fun p hm=>by rw[hp p.2 (Array.mem_map.2 ⟨p,rL.1 hm,rfl⟩)]
 cases op<;>simp only[Op.operands] at fY<;>simp only[gG]
 case pick c x y=>rw[fY ty c (by simp),fY ty x (by simp),fY ty y (by simp)]
 case build t ps=>rw[XU ty ps fun x hx=>fY ty x (by simpa using hx),ahG ty ps fun x hx=>fY ty x (by simpa using hx)]
 case buildSlice t len ps=>
  split
  ·rename_i e _;rw[XU e ps fun x hx=>fY e x (by simpa using hx)]
  ·rfl
 case slice t x lo hi mx=>
  cases mx with
  | some m=>
   have e1:lo.map (aQ P A.aF 0 sl)=lo.map (aQ P A.aF 0 sl'):=by
    cases lo with
    | none=>rfl
    | some l=>simp only[Option.map_some,fY 0 l (by simp)]
   have e2:hi.map (aQ P A.aF 0 sl)=hi.map (aQ P A.aF 0 sl'):=by
    cases hi with
    | none=>rfl
    | some l=>simp only[Option.map_some,fY 0 l (by simp)]
   have e3:=fY 0 m (by simp);simp only[fY ty x (by simp),e1,e2,e3]
  | none=>
   have e1:lo.map (aQ P A.aF 0 sl)=lo.map (aQ P A.aF 0 sl'):=by
    cases lo with
    | none=>rfl
    | some l=>simp only[Option.map_some,fY 0 l (by simp)]
   have e2:hi.map (aQ P A.aF 0 sl)=hi.map (aQ P A.aF 0 sl'):=by
    cases hi with
    | none=>rfl
    | some l=>simp only[Option.map_some,fY 0 l (by simp)]
   simp only[fY ty x (by simp),e1,e2]
 case call c=>
  obtain ⟨callee,args,argTypes⟩:=c;have xF: ∀t x,x∈args→aQ P A.aF t sl x=aQ P A.aF t sl' x:=fun t x hx=>fY t x (by simp[Call.operands,hx]);have hl: ∀t (l:List Operand),(∀x∈l,x∈args)→l.map (aQ P A.aF t sl)=l.map (aQ P A.aF t sl'):=fun t l hl=>mo fun x hx=>xF t x (hl x hx);have hz:((args.toList.zip argTypes.toList).map fun p=>aQ P A.aF p.2 sl p.1)=(args.toList.zip argTypes.toList).map fun p=>aQ P A.aF p.2 sl' p.1:=
   mo fun p hp=>xF p.2 p.1 (rL.1 (List.of_mem_zip hp).1)
  cases callee with
  | invoke r m=>rfl
  | builtin b=>
   have c8: ∀x∈args.toList,∀t,aQ P A.aF t sl x=aQ P A.aF t sl' x:=fun x hx t=>xF t x (rL.1 hx);have su: ∀t (l:List Operand),(∀x∈l,∀t,aQ P A.aF t sl x=aQ P A.aF t sl' x)→l.map (aQ P A.aF t sl)=l.map (aQ P A.aF t sl'):=fun t l h=>mo fun x hx=>h x hx t;cases b<;>first|rfl|skip
   case append=>
    dsimp only;generalize args.toList=al at c8
    match al,c8,argTypes.toList with
    | [s,x],c8,[t,u]=>simp only[c8 s (by simp),c8 x (by simp)]
    | [],_,_=>rfl
    | [_],_,_=>rfl
    | _::_::_::_,_,_=>rfl
    | [_,_],_,[]=>rfl
    | [_,_],_,[_]=>rfl
    | [_,_],_,_::_::_::_=>rfl
   case copy=>
    dsimp only;generalize args.toList=al at c8
    match al,c8,argTypes.toList with
    | [s,x],c8,[t,u]=>simp only[c8 s (by simp),c8 x (by simp)]
    | [],_,_=>rfl
    | [_],_,_=>rfl
    | _::_::_::_,_,_=>rfl
    | [_,_],_,[]=>rfl
    | [_,_],_,[_]=>rfl
    | [_,_],_,_::_::_::_=>rfl
   case len=>
    dsimp only;generalize args.toList=al at c8
    match al,c8,argTypes.toList with
    | [x],c8,[t]=>simp only[c8 x (by simp)]
    | [],_,_=>rfl
    | _::_::_,_,_=>rfl
    | [_],_,[]=>rfl
    | [_],_,_::_::_=>rfl
   case clear=>
    dsimp only;generalize args.toList=al at c8
    match al,c8,argTypes.toList with
    | [x],c8,[t]=>simp only[c8 x (by simp)]
    | [],_,_=>rfl
    | _::_::_,_,_=>rfl
    | [_],_,[]=>rfl
    | [_],_,_::_::_=>rfl
   case unsafeSliceData=>
    dsimp only;generalize args.toList=al at c8
    match al,c8 with
    | [],_=>rfl
    | [x],c8=>simp only[c8 x (by simp)]
    | _::_::_,_=>rfl
   case unsafeString=>
    dsimp only;generalize args.toList=al at c8
    match al,c8,argTypes.toList with
    | [s,x],c8,[t,u]=>simp only[c8 s (by simp),c8 x (by simp)]
    | [],_,_=>rfl
    | [_],_,_=>rfl
    | _::_::_::_,_,_=>rfl
    | [_,_],_,[]=>rfl
    | [_,_],_,[_]=>rfl
    | [_,_],_,_::_::_::_=>rfl
   case max=>
    dsimp only;generalize args.toList=al at c8
    match al,c8 with
    | [],_=>rfl
    | x::l,c8=>simp only[c8 x (by simp),su ty l (fun y hy=>c8 y (by simp[hy]))]
   case min=>
    dsimp only;generalize args.toList=al at c8
    match al,c8 with
    | [],_=>rfl
    | x::l,c8=>simp only[c8 x (by simp),su ty l (fun y hy=>c8 y (by simp[hy]))]
  | value f=>
   cases f<;>first|rfl|skip
   ·rename_i t;have ht:sl t=sl' t:=h (.tmp t) (by simp[Op.operands,Call.operands]) t rfl;simp only[hz,ht]
   ·simp only[hz];cases hx:args.toList with
    | nil=>rfl
    | cons x l=>
     cases l with
     | cons _ _=>rfl
     | nil=>simp only[xF ty x (rL.1 (by rw[hx];simp))]
 case defer c=>
  obtain ⟨callee,args,argTypes⟩:=c;cases callee with
  | invoke r m=>rfl
  | builtin b=>rfl
  | value f=>
   cases f<;>first|rfl|skip
   rename_i t;have ht:sl t=sl' t:=h (.tmp t) (by simp[Op.operands,Call.operands]) t rfl;simp only[ht]
 case makeFunc fn a b=>
  cases fn<;>first|rfl|skip
  have e1:a.toList.map (aQ P A.aF ty sl)=a.toList.map (aQ P A.aF ty sl'):=mo fun x hx=>fY ty x (by simp[rL.1 hx]);have e2:b.toList.map (aQ P A.aF ty sl)=b.toList.map (aQ P A.aF ty sl'):=mo fun x hx=>fY ty x (by simp[rL.1 hx]);dsimp only;rw[e1,e2]
 case makeMap t r=>cases r<;>rfl
 all_goals first
  | rfl
  | (simp[fY];done)
end
section
variable {P:Program} {A:dc} {w w':World} {I I' I2:Nat→Nat→Prop} {μ β β':Nat→Option Nat} {hp hp':Nat→Option ag} {C:af} {B:Nat} {M:Nat→Prop} {w0:Start}
theorem Pu {q:Nat×ag} {upd:List (Nat×ag)} (h:q∈upd):q.1∈gZ hp upd:=by
 unfold gZ;rw[List.mem_flatMap];refine ⟨q,h,?_⟩;cases Nat.beq (iz (hp q.1)) (iz (some q.2))<;>simp
theorem ahH {upd:List (Nat×ag)} (h: ∀q∈upd,iz (hp' q.1)=iz (hp q.1)):gZ hp' upd=gZ hp upd:=by
 unfold gZ
 induction upd with
 | nil=>rfl
 | cons q l ih=>
  rw[ve,ve,ih fun x hx=>h x (j6 _ hx),h q (by simp)]
theorem XV {c:Nat}: ∀{upd:List (Nat×ag)},c∉gZ hp upd→xE hp (b9 hp upd) c:=fun {upd} h=>by
 refine ⟨zZ fun q hq e=>h (e▸Pu hq),fun hc=> ?_⟩
 induction upd with
 | nil=>rfl
 | cons q l ih=>
  have hl:c∉gZ hp l:=fun hx=>h (by unfold gZ at*;rw[ve];exact List.mem_append_right _ hx);have hq:iz (hp q.1)=iz (some q.2)∨c≠q.1+KB:=by
   cases hb:Nat.beq (iz (hp q.1)) (iz (some q.2)) with
   | true=>exact .inl (BV hb)
   | false=>
    refine .inr fun e=>h ?_;unfold gZ;rw[ve,hb,e];simp
  show iz (ao (b9 hp l) q.1 (some q.2) (c-KB))=_;simp only[ao];cases hb:Nat.beq (c-KB) q.1 with
  | false=>exact ih hl
  | true=>
   have e:=BV hb;rcases hq with hq|hq
   ·rw[cond_true,e];exact hq.symm
   ·exact absurd (by omega) hq
theorem XW {n i nb:Nat} {ops:Array Oper} {o:Oper} {st st':St} {R W:List Nat} (h:jm P A C n ops i o nb st=some (st',R,W)):
  ∃x upd,st'=⟨jN st.sl o.dst x,b9 st.hp upd,st.nb⟩∧W=gZ st.hp upd∧∀e9:St,(∀d∈o.looksAt ops,e9.sl d=st.sl d)→(∀id∈R,xE st.hp e9.hp id)→
   jm P A C n ops i o nb e9=some (⟨jN e9.sl o.dst x,b9 e9.hp upd,e9.nb⟩,R,W)∧W=gZ e9.hp upd:=by
 unfold jm at h;cases hd:vu o n with
 | false=>rw[hd] at h;cases h
 | true=>
  rw[hd] at h;simp only[cond_true] at h;have go:(((gG P A st.sl i (nb+64*i) o).run C st.hp).bind fun r=>some ((⟨jN st.sl o.dst r.1.v,b9 st.hp r.1.upd,st.nb⟩:St),tD r.2 r.1.upd,gZ st.hp r.1.upd))=some (st',R,W)→
    ∃x upd,st'=⟨jN st.sl o.dst x,b9 st.hp upd,st.nb⟩∧W=gZ st.hp upd∧∀e9:St,(∀d∈o.looksAt ops,e9.sl d=st.sl d)→(∀id∈R,xE st.hp e9.hp id)→
     (((gG P A e9.sl i (nb+64*i) o).run C e9.hp).bind fun r=>some ((⟨jN e9.sl o.dst r.1.v,b9 e9.hp r.1.upd,e9.nb⟩:St),tD r.2 r.1.upd,gZ e9.hp r.1.upd))=some (⟨jN e9.sl o.dst x,b9 e9.hp upd,e9.nb⟩,R,W)∧W=gZ e9.hp upd:=by
   intro h;obtain ⟨⟨r,rd⟩,h1,h2⟩:=bind_some h;cases h2;refine ⟨r.v,r.upd,rfl,rfl,fun e9 hs hh=> ?_⟩;have hw:gZ e9.hp r.upd=gZ st.hp r.upd:=ahH fun q hq=>by
    have:=(hh (q.1+KB) (List.mem_append_right _ (eu.2 ⟨q,hq,rfl⟩))).2 (Nat.le_add_left _ _);rwa [Nat.add_sub_cancel] at this
   rw[ahF (sl':=st.sl) fun x hx k hk=> ?_,vR h1 fun c hc=>hh c (List.mem_append_left _ hc)]
   ·refine ⟨?_,hw.symm⟩;rw[Option.bind_some,hw]
   ·subst hk;exact hs k (List.mem_append_left _ (List.mem_filterMap.2 ⟨.tmp k,by simpa using hx,rfl⟩))
  cases hg:o.guard with
  | none=>
   rw[hg] at h;obtain ⟨x,upd,e1,e2,e3⟩:=go h;refine ⟨x,upd,e1,e2,fun e9 hs hh=> ?_⟩;unfold jm;simp only[hd,cond_true,hg];exact e3 e9 hs hh
  | some gw=>
   obtain ⟨g,want⟩:=gw;rw[hg] at h;simp only at h;cases mG:(ops[g]?).bind (·.dst) with
   | none=>rw[mG] at h;cases h
   | some d=>
    rw[mG] at h;simp only at h;have Pv:d∈o.looksAt ops:=List.mem_append_right _ (by rw[hg];simp[mG]);cases o5:nW (st.sl d) with
    | none=>rw[o5] at h;cases h
    | some ob=>
    rw[o5] at h;cases ob with
    | none=>
     injection h with h;injection h with h3 h4;injection h4 with h5 h6;subst h5;subst h6;refine ⟨.aW [],[],h3.symm,rfl,fun e9 hs hh=> ?_⟩;unfold jm;simp only[hd,cond_true,hg,mG,hs d Pv,o5];exact ⟨rfl,rfl⟩
    | some b=>
    simp only at h;cases hb:b==want with
    | true=>
     rw[hb] at h;obtain ⟨x,upd,e1,e2,e3⟩:=go h;refine ⟨x,upd,e1,e2,fun e9 hs hh=> ?_⟩;unfold jm;simp only[hd,cond_true,hg,mG,hs d Pv,o5,hb];exact e3 e9 hs hh
    | false=>
     rw[hb] at h;simp only[cond_false] at h;injection h with h;injection h with h3 h4;injection h4 with h5 h6;subst h5;subst h6;refine ⟨.aW [],[],h3.symm,rfl,fun e9 hs hh=> ?_⟩;unfold jm;simp only[hd,cond_true,hg,mG,hs d Pv,o5,hb,cond_false];exact ⟨rfl,rfl⟩
theorem XX {sl:Nat→V} {d:Option Nat} {x:V} {k:Nat} (h:d≠some k):jN sl d x k=sl k:=by
 cases d with
 | none=>rfl
 | some d=>exact cp _ _ fun e=>h (by rw[e])
theorem ahI {hp:Nat→Option ag} {a b:List (Nat×ag)} (h: ∀q∈a,∀q'∈b,q.1≠q'.1):b9 (b9 hp a) b=b9 (b9 hp b) a:=by
 funext id;by_cases ha: ∃q∈a,q.1=id
 ·have hb: ∀q∈b,q.1≠id:=by
   obtain ⟨q,hq,rfl⟩:=ha;exact fun q' dE e=>h q hq q' dE e.symm
  rw[zZ hb];obtain ⟨q,hq,rfl⟩:=ha;have same: ∀(bE ez:Nat→Option ag) (l:List (Nat×ag)) (q:Nat×ag),q∈l→b9 bE l q.1=b9 ez l q.1:=by
   intro bE ez l
   induction l with
   | nil=>intro q hq;simp at hq
   | cons p l ih=>
    intro q hq;simp only[b9,ao];cases hb:Nat.beq q.1 p.1 with
    | true=>rfl
    | false=>
     simp only[cond_false];refine ih q ((lu.1 hq).resolve_left fun e=> ?_);rw[e,ml] at hb;cases hb
  exact same _ _ a q hq
 ·rw[zZ (hp:=b9 hp b) (l:=a) fun q hq e=>ha ⟨q,hq,e⟩];have same: ∀(bE ez:Nat→Option ag) (l:List (Nat×ag)),bE id=ez id→b9 bE l id=b9 ez l id:=by
   intro bE ez l he
   induction l with
   | nil=>exact he
   | cons p l ih=>
    simp only[b9,ao];cases hb:Nat.beq id p.1 with
    | true=>rfl
    | false=>exact ih
  exact same _ _ b (zZ fun q hq e=>ha ⟨q,hq,e⟩)
structure XY (ops:Array Oper) (o1 o2:Oper) (R1 W1 R2 W2:List Nat):Prop where
 apart:Oper.apart ops o1 o2=true
 w: ∀id∈W1,id∉R2∧id∉W2
 r: ∀id∈R1,id∉W2
theorem ahJ {n i j nb:Nat} {ops:Array Oper} {o1 o2:Oper} {st kf e9:St} {R1 W1 R2 W2:List Nat} (h1:jm P A C n ops i o1 nb st=some (kf,R1,W1)) (h2:jm P A C n ops j o2 nb kf=some (e9,R2,W2))
  (hi:XY ops o1 o2 R1 W1 R2 W2): ∃Jt,jm P A C n ops j o2 nb st=some (Jt,R2,W2)∧jm P A C n ops i o1 nb Jt=some (e9,R1,W1):=by
 obtain ⟨x1,u1,e1,f1,g1⟩:=XW h1;obtain ⟨x2,u2,e2,f2,g2⟩:=XW h2;obtain ⟨a1,a2,a3⟩:=Oper.apart_spec hi.apart;subst e1;have k2:=g2 st (fun d hd=>by simp only;rw[XX fun e=>a1 d e hd]) fun c hc=>(XV fun hw=>(hi.w c (by rw[f1];exact hw)).1 hc).symm;refine ⟨_,k2.1,?_⟩;rw[(g1 _ (fun d hd=> ?_) (fun c hd=> ?_)).1,e2]
 ·congr 3
  ·funext k;cases hd1:o1.dst with
   | none=>rfl
   | some d1=>
    cases zB:o2.dst with
    | none=>rfl
    | some d2=>
     have bK:d2≠d1:=fun e=>a2 d1 hd1 (by rw[zB,e]);simp only[jN,ao];cases pX:Nat.beq k d1<;>cases xG:Nat.beq k d2<;>simp only[cond_true,cond_false];rw[aO] at pX xG;exact absurd (xG.symm.trans pX) bK
  ·exact (ahI fun q hq q' dE e=>(hi.w q.1 (by rw[f1];exact Pu hq)).2 (by rw[f2,e];exact Pu dE)).symm
 ·simp only;rw[XX fun e=>a3 d e hd]
 ·exact XV fun hw=>hi.r c hd (by rw[k2.2];exact hw)
def z7 (P:Program) (A:dc) (C:af) (n:Nat) (ops:Array Oper) (nb:Nat):List (Nat×Oper×List Nat×List Nat)→St→St→Prop
 | [],st,st'=>st=st'
 | (i,o,R,W)::l,st,st'=> ∃kf,jm P A C n ops i o nb st=some (kf,R,W)∧z7 P A C n ops nb l kf st'
def xH (x:Nat×Oper×List Nat×List Nat):Nat×List Nat×List Nat:=(x.1,x.2.2.1,x.2.2.2)
theorem XZ {n nb:Nat} {ops:Array Oper}: ∀{l:List (Nat×Oper)} {st st':St} {log Ju:Log},rR P A C n ops nb l st log=some (st',Ju)→
  ∃g,g.map (fun x=>(x.1,x.2.1))=l∧Ju=log++g.map xH∧z7 P A C n ops nb g st st'
 | [],st,st',log,Ju,h=>by
  cases h;exact ⟨[],rfl,by simp,rfl⟩
 | (i,o)::l,st,st',log,Ju,h=>by
  obtain ⟨⟨kf,R,W⟩,h1,h2⟩:=bind_some h;obtain ⟨g,a,b,c⟩:=XZ h2;exact ⟨(i,o,R,W)::g,by simp[a],by simp[b,xH],kf,h1,c⟩
def X0 (ops:Array Oper) (x y:Nat×Oper×List Nat×List Nat):Prop:=XY ops x.2.1 y.2.1 x.2.2.1 x.2.2.2 y.2.2.1 y.2.2.2
theorem X1 {n nb:Nat} {ops:Array Oper} {y:Nat×Oper×List Nat×List Nat} {g2:List (Nat×Oper×List Nat×List Nat)}: ∀{g1:List (Nat×Oper×List Nat×List Nat)} {st st':St},
  z7 P A C n ops nb (g1++y::g2) st st'→(∀x∈g1,X0 ops x y)→∃kf,jm P A C n ops y.1 y.2.1 nb st=some (kf,y.2.2.1,y.2.2.2)∧z7 P A C n ops nb (g1++g2) kf st'
 | [],st,st',h,_=>h
 | x::g1,st,st',h,hi=>by
  obtain ⟨kf,h1,h2⟩:=h;obtain ⟨e9,h3,h4⟩:=X1 h2 fun z hz=>hi z (j6 _ hz);obtain ⟨Jt,h5,h6⟩:=ahJ h1 h3 (hi x (by simp));exact ⟨Jt,h5,e9,h6,h4⟩
theorem X2 (hC:np P A C) (hP:jW P A) {n nb:Nat} {ops:Array Oper} {Q:Exit→Act→World→Prop}: ∀{g:List (Nat×Oper×List Nat×List Nat)} {st st':St} {a:Act} {w:World} {I:Nat→Nat→Prop} {β:Nat→Option Nat},
  z7 P A C n ops nb g st st'→(∀x∈g,ops[x.1]? =some x.2.1)→aA P w I β st.hp B M w0→gi P A.idle A.aF w I β n a st→
  (∀a' w' I' β',Le P w I β st.hp w' I' β' st'.hp→aA P w' I' β' st'.hp B M w0→gi P A.idle A.aF w' I' β' n a' st'→Q .normal a' w')→wpOps P ops Q (g.map (·.1)) a w
 | [],st,st',a,w,I,β,h,_,S,hA,hQ=>by
  cases h;exact hQ a w I β (Le.refl w I β _) S hA
 | x::g,st,st',a,w,I,β,h,ho,S,hA,hQ=>by
  obtain ⟨kf,h1,h2⟩:=h;rw[iO,wpOps_cons];refine XT hC hP (ho x (by simp)) S hA h1 fun a' w' I' β' k1 k2 k3=> ?_;exact X2 hC hP h2 (fun y hy=>ho y (j6 _ hy)) k2 k3 fun a2 w2 I2 cy m1 m2 m3=>hQ a2 w2 I2 cy (k1.trans m1) m2 m3
end
section
variable {P:Program} {A:dc} {w w':World} {I I' I2:Nat→Nat→Prop} {μ β β':Nat→Option Nat} {hp hp':Nat→Option ag} {C:af} {B:Nat} {M:Nat→Prop} {w0:Start}
inductive xI (ops:Array Oper):Nat→Nat→Prop
 | X3 {i x:Nat} {o:Oper} {e:Edge}:ops[i]? =some o→e∈o.after→Region.binds .any e=true→e.on=x→xI ops i x
 | trans {i x:Nat} {o:Oper} {e:Edge}:ops[i]? =some o→e∈o.after→Region.binds .any e=true→xI ops e.on x→xI ops i x
theorem X4 {acc:Array Nat} {x:Nat}: ∀{l:List Edge} {s:Nat},(l.foldl (fun s e=>if Region.binds .any e then s|||2^e.on|||acc.getD e.on 0 else s) s).testBit x=true→
  s.testBit x=true∨∃e∈l,Region.binds .any e=true∧(e.on=x∨(acc.getD e.on 0).testBit x=true)
 | [],s,h=> .inl h
 | e::l,s,h=>by
  simp only[List.foldl_cons] at h;rcases X4 h with h1|⟨e',a,b⟩
  ·by_cases hb:Region.binds .any e=true
   ·rw[ak hb,Nat.testBit_or,Nat.testBit_or,B7,B7] at h1;rcases h1 with (h1|h1)|h1
    ·exact .inl h1
    ·rw[Nat.testBit_two_pow] at h1;exact .inr ⟨e,by simp,hb,.inl (by simpa using h1)⟩
    ·exact .inr ⟨e,by simp,hb,.inr h1⟩
   ·rw[aj hb] at h1;exact .inl h1
  ·exact .inr ⟨e',j6 _ a,b⟩
theorem X5 {ops:Array Oper} {x:Nat}: ∀{l:List Oper} {acc:Array Nat},(∀j o,l[j]? =some o→ops[acc.size+j]? =some o)→(∀j,(acc.getD j 0).testBit x=true→xI ops j x)→
  ∀j,((l.foldl (fun acc o=>acc.push (o.after.foldl (fun s e=>if Region.binds .any e then s|||2^e.on|||acc.getD e.on 0 else s) 0)) acc).getD j 0).testBit x=true→xI ops j x
 | [],acc,_,Jv,j,h=>Jv j h
 | o::l,acc,hl,Jv,j,h=>by
  simp only[List.foldl_cons] at h;refine X5 (l:=l) ?_ ?_ j h
  ·intro j o' hj;have:=hl (j+1) o' (by simpa using hj);rw[Array.size_push];rwa [show acc.size+1+j=acc.size+(j+1) by omega]
  ·intro k hk;simp only[y5,Array.getElem?_push] at hk;by_cases Pw:k=acc.size
   ·rw[ak Pw] at hk;simp only[Option.getD_some] at hk;rw[←HL] at hk;have ho:=hl 0 o rfl;rw[Nat.add_zero] at ho;rw[Pw];have xG:(o.after.toList.foldl (fun s e=>if Region.binds .any e then s|||2^e.on|||acc.getD e.on 0 else s) 0).testBit x=true:=by simpa[y5] using hk
    rcases X4 xG with h0|⟨e,he,hb,h1⟩
    ·simp at h0
    ·rcases h1 with h1|h1
     ·exact .X3 ho (rL.1 he) hb h1
     ·exact .trans ho (rL.1 he) hb (Jv _ h1)
   ·rw[aj Pw] at hk;exact Jv k (by simpa[y5] using hk)
theorem ahK {ops:Array Oper} {i x:Nat} (h:((Region.before ops).getD i 0).testBit x=true):xI ops i x:=by
 unfold Region.before at h;rw[←HL] at h;refine X5 (l:=ops.toList) (acc:= #[]) (fun j o hj=>by simpa using hj) (fun j hj=>by simp at hj) i h
def X6 (ops:Array Oper) (listed:Array Bool):Prop:= ∀i o,ops[i]? =some o→listed.getD i false=true→∀e∈o.after,Region.binds .any e=true→listed.getD e.on false=true
theorem ahL {ops:Array Oper} {listed:Array Bool} (hc:X6 ops listed) {i x:Nat} (h:xI ops i x) (hi: ∀o,ops[i]? =some o→∀e∈o.after,Region.binds .any e=true→listed.getD e.on false=true):listed.getD x false=true:=by
 induction h with
 | X3 ho he hb hx=>rw[←hx];exact hi _ ho _ he hb
 | trans ho he hb _ ih=>exact ih fun o' qH e' zO ay=>hc _ o' qH (hi _ ho _ he hb) e' zO ay
theorem X7: ∀{l:List Oper} {k j:Nat} {o:Oper},Cu k l=true→l[j]? =some o→∀e∈o.after,Region.binds .any e=true→e.on<k+j
 | [],k,j,o,_,h=>by simp at h
 | o'::l,k,j,o,hk,h=>by
  simp only[Cu,aK] at hk;cases j with
  | zero=>
   simp at h;subst h;intro e he hb;have:=fL.1 hk.1 e (rL.2 he);simp[hb] at this;omega
  | succ j=>
   intro e he hb;have:=X7 hk.2 (j:=j) (by simpa using h) e he hb;omega
theorem X8 {ops:Array Oper} {wU:Array Nat}: ∀{l:Log},Ir ops wU l=true→l.Pairwise fun x y=>Ct ops wU x y=true
 | [],_=> .nil
 | x::l,h=>by
  simp only[Ir,aK] at h;exact .cons (fun y hy=>fL.1 h.1 y hy) (X8 h.2)
theorem X9 {listed:Array Bool} {i:Nat} (h:listed.getD i true=false):i<listed.size∧listed.getD i false=false:=by
 rcases gr i listed.size with h'|h'
 ·refine ⟨h',?_⟩;simpa[h'] using h
 ·simp[Array.getElem?_eq_none h'] at h
theorem Ya (hC:np P A C) (hP:jW P A) {n nb:Nat} {ops:Array Oper} {Q:Exit→Act→World→Prop} (Jw:Cu 0 ops.toList=true):
  ∀(fuel:Nat) {g:List (Nat×Oper×List Nat×List Nat)} {listed:Array Bool} {st st':St} {a:Act} {w:World} {I:Nat→Nat→Prop} {β:Nat→Option Nat},
  g.length=fuel→z7 P A C n ops nb g st st'→(∀x∈g,ops[x.1]? =some x.2.1)→(g.map (·.1)).Pairwise (· < ·)→(g.map xH).Pairwise (fun x y=>Ct ops (Region.before ops) x y=true)→
  listed.size=ops.size→(∀i,i<ops.size→(listed.getD i false=false↔i∈g.map (·.1)))→X6 ops listed→
  aA P w I β st.hp B M w0→gi P A.idle A.aF w I β n a st→
  (∀a' w' I' β',Le P w I β st.hp w' I' β' st'.hp→aA P w' I' β' st'.hp B M w0→gi P A.idle A.aF w' I' β' n a' st'→Q .normal a' w')→wpAny P .any ops Q fuel listed a w
 | 0,g,listed,st,st',a,w,I,β,hf,hr,ho,ba,Jx,aU,xJ,mD,S,hA,hQ=>by
  obtain rfl:g=[]:=nO hf;cases hr;refine ⟨?_,hQ a w I β (Le.refl w I β _) S hA⟩;rw[List.eq_nil_iff_forall_not_mem];intro i hi;obtain ⟨h0,_⟩:=mem_ready.1 hi;obtain ⟨h1,h2⟩:=X9 h0;have:=(xJ i (by omega)).1 h2;simp at this
 | fuel+1,g,listed,st,st',a,w,I,β,hf,hr,ho,ba,Jx,aU,xJ,mD,S,hA,hQ=>by
  refine ⟨fun DD=> ?_,fun i hi=> ?_⟩
  ·exfalso;cases g with
   | nil=>simp at hf
   | cons x g=>
    have hx:=ho x (by simp);have jw:x.1<ops.size:=(vd.1 hx).1;have ka:x.1∈Region.ready .any ops listed:=by
     rw[mem_ready];have h0:=(xJ x.1 jw).2 (by simp);refine ⟨?_,x.2.1,hx,fun e he hb=> ?_⟩
     ·have hl:x.1<listed.size:=by omega
      simpa[hl] using h0
     ·have OM:=X7 Jw (j:=x.1) (by simpa using hx) e he hb;rw[eQ] at OM;cases hle:listed.getD e.on false with
      | true=>rfl
      | false=>
       have hm:=(xJ e.on (by omega)).1 hle;simp only[iO,lu] at hm;rw[iO,List.pairwise_cons] at ba;rcases hm with hm|hm
       ·omega
       ·have:=ba.1 _ hm;omega
    rw[DD] at ka;cases ka
  ·obtain ⟨h0,oi,DF,Yb⟩:=mem_ready.1 hi;obtain ⟨h1,h2⟩:=X9 h0;have hig:=(xJ i (by omega)).1 h2;obtain ⟨y,hy,Jy⟩:=eu.1 hig;obtain ⟨g1,g2,rfl⟩:=List.append_of_mem hy;subst Jy;have Yc:=ho y hy;rw[DF] at Yc;have Yd:oi=y.2.1:=dA Yc;have la:((g1++y::g2).map (·.1)).Nodup:=ba.imp fun h=>B4 h;have ahM: ∀x∈g1,X0 ops x y:=by
    intro x hx;have hp:Ct ops (Region.before ops) (xH x) (xH y)=true:=by
     rw[rK,iO,List.pairwise_append] at Jx;exact Jx.2.2 _ (eu.2 ⟨x,hx,rfl⟩) _ (by simp)
    have Ye:=ho x (eO.2 (.inl hx));unfold Ct at hp;rw[B7] at hp;rcases hp with hp|hp
    ·have hl:=ahL mD (ahK hp) fun o qH e he hb=>by
      have:o=oi:=by
       have h3:ops[y.1]? =some o:=qH;rw[DF] at h3;exact (dA h3).symm
      subst this;exact Yb e he hb
     have jw:x.1<ops.size:=(vd.1 Ye).1;have:=(xJ x.1 jw).2 (eu.2 ⟨x,eO.2 (.inl hx),rfl⟩);rw[show (xH x).1=x.1 from rfl,this] at hl;cases hl
    ·simp only[xH,y5,Ye,DF,Option.getD_some,aK,mY] at hp;obtain ⟨q1,q2,q3⟩:=hp;refine ⟨Yd▸q1,fun id ab=> ?_,fun id ab=>Jm q3 ab⟩;have:=Jm q2 ab;rw[eO] at this;exact ⟨fun h=>this (.inl h),fun h=>this (.inr h)⟩
   obtain ⟨kf,jr,mF⟩:=X1 hr ahM;rw[←Yd] at jr;refine XT hC hP DF S hA jr fun a' w' I' β' k1 k2 k3=> ?_;have jU:List.Sublist (g1++g2) (g1++y::g2):=List.Sublist.append_left (List.sublist_cons_self y g2) g1;have n8: ∀j,j≠y.1→(listed.setIfInBounds y.1 true).getD j false=listed.getD j false:=fun j hj=>getD_set_ne false (Ne.symm hj);refine Ya hC hP Jw fuel (g:=g1++g2) (st':=st') ?_ mF (fun x hx=>ho x (jU.subset hx)) (ba.sublist (jU.map _)) (Jx.sublist (jU.map _)) (by simp[aU]) (fun j hj=> ?_) (fun j o Px dj e he hb=> ?_) k2 k3 fun a2 w2 I2 cy m1 m2 m3=>hQ a2 w2 I2 cy (k1.trans m1) m2 m3
   ·simp at hf⊢;omega
   ·by_cases sc:j=y.1
    ·subst sc;have hl:y.1<listed.size:=by omega
     simp only[y5,Array.getElem?_setIfInBounds_self_of_lt hl,Option.getD_some];refine ⟨fun h=>(by cases h),fun h=> ?_⟩;exfalso;rw[rK,iO,B6,List.nodup_cons] at la;rw[rK,eO] at h;rcases h with h|h
     ·exact la.2.2 _ h _ (by simp) rfl
     ·exact la.2.1.1 h
    ·rw[n8 j sc,xJ j hj];simp only[rK,iO,eO,lu];constructor
     ·rintro (h|h|h)
      ·exact .inl h
      ·exact absurd h sc
      ·exact .inr h
     ·rintro (h|h)
      ·exact .inl h
      ·exact .inr (.inr h)
   ·by_cases sc:j=y.1
    ·subst sc;rw[DF] at Px;cases Px;exact getD_set_true (Yb e he hb)
    ·rw[n8 j sc] at dj;exact getD_set_true (mD j o Px dj e he hb)
end
section
variable {P:Program} {A:dc} {w w':World} {I I' I2:Nat→Nat→Prop} {μ β β':Nat→Option Nat} {hp hp':Nat→Option ag} {C:af} {B:Nat} {M:Nat→Prop} {w0:Start}
theorem Yf: ∀{l:List Oper} {k j:Nat},(qC k l)[j]? =(l[j]?).map fun o=>(k+j,o)
 | [],k,j=>by simp[qC]
 | o::l,k,0=>by simp[qC]
 | o::l,k,j+1=>by
  simp only[qC,List.getElem?_cons_succ,Yf];congr 1;funext o;rw[show k+1+j=k+(j+1) by omega]
theorem Yg: ∀{l:List Oper} {k:Nat},(qC k l).map (·.1)=List.range' k l.length
 | [],k=>rfl
 | o::l,k=>by simp[qC,Yg,List.range'_succ]
theorem ahN (hC:np P A C) (hP:jW P A) (hm:P.follows .mixedOrders=true) {n id:Nat} {ops:Array Oper} {draw:Bool} {st st':St} {a:Act} {Q:Exit→Act→World→Prop}
  (h:zt P A C n ops draw st=some st') (S:aA P w I β st.hp B M w0) (hA:gi P A.idle A.aF w I β n a st)
  (hQ: ∀a' w' I' β',Le P w I β st.hp w' I' β' st'.hp→aA P w' I' β' st'.hp B M w0→gi P A.idle A.aF w' I' β' n a' st'→Q .normal a' w'):(Code.region id ops draw).wp P Q a w:=by
 obtain ⟨⟨kf,log⟩,h1,h2⟩:=bind_some h;obtain ⟨g,g1,g2,g3⟩:=XZ h1;have Jz:g.map (·.1)=List.range ops.size:=by
  have:g.map (·.1)=(g.map fun x=>(x.1,x.2.1)).map (·.1):=by simp
  rw[this,g1,Yg,List.range_eq_range'];simp
 have Yh: ∀x∈g,ops[x.1]? =some x.2.1:=by
  intro x hx;have:(x.1,x.2.1)∈qC 0 ops.toList:=by rw[←g1];exact eu.2 ⟨x,hx,rfl⟩
  obtain ⟨j,hj⟩:=List.mem_iff_getElem?.1 this;rw[Yf] at hj;cases ho:ops.toList[j]? with
  | none=>rw[ho] at hj;cases hj
  | some o=>
   rw[ho] at hj;simp only[Option.map_some,eQ,et,lx] at hj;rw[←hj.1,←hj.2];simpa using ho
 cases draw with
 | false=>
  simp only[Bool.not_false,Bool.true_or,cond_true] at h2;cases h2;refine wp_region ?_;rw[←Jz];exact X2 hC hP g3 Yh S hA hQ
 | true=>
  simp only[Bool.not_true,Bool.false_or] at h2;cases hc:(Region.noSelect ops&&Cv ops log) with
  | false=>rw[hc] at h2;cases h2
  | true=>
   rw[hc] at h2;cases h2;simp only[aK,Cv] at hc;obtain ⟨hns,Jw,ahO⟩:=hc;simp only[List.nil_append] at g2;refine wp_region_any hm ?_;have hlen:g.length=ops.size:=by
    have:=congrArg List.length Jz;simpa using this
   refine Ya hC hP Jw ops.size (g:=g) (st':=st') hlen g3 Yh (by rw[Jz];exact List.pairwise_lt_range) (by rw[←g2];exact X8 ahO) (by simp) (fun i hi=> ?_) (fun i o ho hl=> ?_)
    (w:=w.drew) S.drew ⟨fun k=>(hA.sl k).mono (Le.drew w I β _),hA.size,hA.defers,hA.aF.mono (Le.drew (P:=P) w I β st.hp).dV (Le.drew (P:=P) w I β st.hp).cE⟩ fun a' w' I' β' k1 k2 k3=>hQ a' w' I' β' ((Le.drew w I β _).trans k1) k2 k3
   ·rw[Jz];simp[hi]
   ·have hi:=(vd.1 ho).1;simp[hi] at hl
end
section
variable {P:Program} {A:dc} {E:FuncId→Bool} {G:Nat→V} {w w':World} {I I' I2:Nat→Nat→Prop} {μ β β':Nat→Option Nat} {hp hp':Nat→Option ag} {C:af} {B:Nat} {M:Nat→Prop} {w0:Start}
theorem vS: ∀{l:List Nat} {hp:Nat→Option ag} {I:Nat→Nat→Prop},aA P w I β hp B M w0→∃I',Le P w I β hp w I' β (tC hp l)∧aA P w I' β (tC hp l) B M w0
 | [],hp,I,S=>⟨I,Le.refl w I β hp,S⟩
 | id::l,hp,I,S=>by
  simp only[tC];cases ab:hp id with
  | none=>exact vS S
  | some blk=>
   cases blk with
   | dead=>exact vS S
   | out _ _ _ _=>exact vS S
   | var _=>exact vS S
   | map _ _=>exact vS S
   | arr e es fz=>
    obtain ⟨h1,h2⟩:=CK S (upd:=[(id,.arr e es true)]) (fun p hp=>by
     simp only[ff] at hp;subst hp;exact ⟨e,es,rfl,.inl ⟨fz,ab⟩⟩)
    obtain ⟨I',h3,h4⟩:=vS (l:=l) h2;exact ⟨I',h1.trans h3,h4⟩
   | nest e es vers=>
    obtain ⟨h1,h2⟩:=CK S (upd:=[(id,.arr e es true)]) (fun p hp=>by
     simp only[ff] at hp;subst hp;exact ⟨e,es,rfl,.inr ⟨vers,ab⟩⟩)
    obtain ⟨I',h3,h4⟩:=vS (l:=l) h2;exact ⟨I',h1.trans h3,h4⟩
theorem Yi {n:Nat} {a:Act} {st:St} (S:aA P w I β st.hp B M w0) (hA:gi P E G w I β n a st):
  ∃I',Le P w I β st.hp w I' β st.hp∧aA P w I' β st.hp B M w0∧gi P E G w I' β n a st∧rV P I' β st.hp:=by
 obtain ⟨I',h1,h2,h3⟩:=VI S;exact ⟨I',h1,h2,⟨fun k=>(hA.sl k).mono h1,hA.size,hA.defers,hA.aF.mono h1.dV h1.cE⟩,h3⟩
theorem ahP {hp:Nat→Option ag} (S:aA P w I β hp B M w0) (hT:rV P I β hp) {v:Value} {x:V} (hv:ai P w I β hp v x):ai P w I β hp v (Cs hp x):=by
 cases x with
 | whole e id=>
  simp only[Cs];split
  ·rename_i e' es ab;cases he:Nat.beq e e' with
   | false=>exact hv
   | true=>
    rw[aO] at he;subst he;simp only[cond_true];cases hv with
    | dD h=>grind
    | dp h=>grind
    | dJ h=>grind
    | ew h=>grind
    | dy h=>rw[ab] at h;cases h;exact .list (.any fun _=>rfl)
    | whole h hb aU bO hm=>
     rw[ab] at h;cases h;have hr:=S.h.rel id _ ab;cases hr with
     | dU ay=>grind
     | arr hL ar ay hh hs hf eJ hx=>
      rw[hb] at ay;cases ay;have:=tI (I':=I) (off:=0) (len:=es.length) (o:=0) hh hx (ey ar) (by omega) bO (fun _=>by simp) (fun _ _ h=>h) (hT _ _ _ _ ab hb);exact .list (by grind)
  ·exact hv
 | sub e id off len=>
  simp only[Cs];split
  ·rename_i e' es ab;cases he:Nat.beq e e' with
   | false=>exact hv
   | true=>
    rw[aO] at he;subst he;simp only[cond_true];cases hv with
    | ia h=>grind
    | gy h=>rw[ab] at h;cases h;exact .list (by simpa using (jQ.any (P:=P) fun _=>rfl))
    | sub h hb kS bO ho=>
     rw[ab] at h;cases h;have hr:=S.h.rel id _ ab;cases hr with
     | dU ay=>grind
     | arr hL ar ay hh hs hf eJ hx=>
      rw[hb] at ay;cases ay;exact .list (tI (I':=I) hh hx (ey ar) kS bO ho (fun _ _ h=>h) (hT _ _ _ _ ab hb))
  ·exact hv
 | _=>exact hv
theorem ahQ {n:Nat} {a:Act} {st:St} (S:aA P w I β st.hp B M w0) (hA:gi P E G w I β n a st) (p:Nat):
  ∃β',Le P w I β st.hp w I β' (vr st p).hp∧aA P w I β' (vr st p).hp B M w0∧gi P E G w I β' n a (vr st p):=by
 have same: ∃β',Le P w I β st.hp w I β' st.hp∧aA P w I β' st.hp B M w0∧gi P E G w I β' n a st:=⟨β,Le.refl ..,S,hA⟩
 unfold vr;cases Nat.ble (2*KB) p with
 | false=>exact same
 | true=>
  simp only[cond_true];split
  ·rename_i e hn hx;obtain ⟨h1,h2⟩:=N3 S (vers:=[0,0,0]) e hn;refine ⟨_,h1,h2,⟨fun k=> ?_,hA.size,hA.defers,hA.aF⟩⟩;show ai P w I (ao β st.nb none) (ao st.hp st.nb (some (.nest e [] [0,0,0]))) _ (ao st.sl (p %KB) (V.whole e st.nb) k);by_cases hk:k=p %KB
   ·subst hk;have hv:=hA.sl (p %KB);rw[hx] at hv;rw[bD];generalize a.tmps.getD (p %KB) _=v at hv⊢;cases hv;exact .dJ (bD _ _ _) (bD _ _ _)
   ·rw[cp _ _ hk];exact (hA.sl k).mono h1
  ·rename_i cs hn hx;split
   ·rename_i e hc;obtain ⟨h1,h2⟩:=N3 S (vers:=[0,0,0]) e hn;refine ⟨_,h1,h2,⟨fun k=> ?_,hA.size,hA.defers,hA.aF⟩⟩;show ai P w I (ao β st.nb none) (ao st.hp st.nb (some (.nest e [] [0,0,0]))) _ (ao st.sl (p %KB) (V.agg (cs.set (p/KB-2) (.whole e st.nb))) k);by_cases hk:k=p %KB
    ·subst hk;have hv:=hA.sl (p %KB);rw[hx] at hv;rw[bD];generalize a.tmps.getD (p %KB) _=v at hv⊢;obtain ⟨vs,rfl,jr,mF⟩:=hv.lF;refine .agg (by grind) fun j v x hv nf=> ?_;by_cases hj:p/KB-2=j
     ·subst hj;have ba:=(cq.1 hc).1;rw[qw ba] at nf;cases nf;have xp:=mF _ v _ hv hc;cases xp;exact .dJ (vers:=[0,0,0]) (bD _ _ _) (bD _ _ _)
     ·rw[BX hj] at nf;exact (mF j v x hv nf).mono h1
    ·rw[cp _ _ hk];exact (hA.sl k).mono h1
   omega
  ·rename_i id hn hx;split
   ·rename_i T cs ab;split
    ·rename_i e hc;obtain ⟨h1,h2⟩:=N3 S (vers:=[0,0,0]) e hn;have bK:id≠st.nb:=fun h=>by grind
     have qQ:ao st.hp st.nb (some (.nest e [] [0,0,0])) id=some (.var T cs):=by rw[cp _ _ bK];exact ab
     have hr:=h2.h.rel id _ qQ;generalize ho:ao β st.nb none id=o at hr;cases hr with
     | @var _ b Ca _ hb hh hs hI js gJ=>
     subst hb;obtain ⟨h3,h4⟩:=CM (w':=w) h2 (blk':= .var T (cs.set (p/KB-2) (.whole e st.nb))) qQ (by simp) rfl ho hI (by simp) (fun _ _=>rfl) rfl (az _) ⟨rfl,rfl⟩
      (fun hle=> .var rfl hh (by grind) hI (fun j v x hv nf=>by
       by_cases hj:p/KB-2=j
       ·subst hj;have ba:=(cq.1 hc).1;rw[qw ba] at nf;cases nf;have xp:=js _ v _ hv hc;cases xp;exact .dJ (vers:=[0,0,0]) (by rw[cp _ _ (Ne.symm bK)];exact bD _ _ _) (bD _ _ _)
       ·rw[BX hj] at nf;exact (js j v x hv nf).mono hle) gJ)
     exact ⟨_,h1.trans h3,h4,⟨fun k=>(hA.sl k).mono (h1.trans h3),hA.size,hA.defers,hA.aF⟩⟩
    omega
   omega
  omega
theorem Yj {n:Nat} {a:Act}: ∀(l:List Nat) {st:St} {β:Nat→Option Nat},aA P w I β st.hp B M w0→gi P E G w I β n a st→
  ∃β',Le P w I β st.hp w I β' (l.foldl vr st).hp∧aA P w I β' (l.foldl vr st).hp B M w0∧gi P E G w I β' n a (l.foldl vr st)
 | [],st,β,S,hA=>⟨β,Le.refl ..,S,hA⟩
 | p::l,st,β,S,hA=>by
  obtain ⟨sb,h1,h2,h3⟩:=ahQ S hA p;obtain ⟨cy,h4,h5,h6⟩:=Yj l h2 h3;exact ⟨cy,h1.trans h4,h5,h6⟩
theorem Yk {n m:Nat} {pur:List Nat} {a:Act} {st:St} (S:aA P w I β st.hp B M w0) (hA:gi P E G w I β n a st):
  ∃I' β',Le P w I β st.hp w I' β' (freeze m pur st).hp∧aA P w I' β' (freeze m pur st).hp B M w0∧gi P E G w I' β' n a (freeze m pur st):=by
 obtain ⟨I1,h1,h2⟩:=vS (l:=(Iq st pur).filter fun id=>Nat.ble m id) S;obtain ⟨I',h3,h4,h5⟩:=VI h2;have h1:=h1.trans h3;have JA:gi P E G w I' β n a ⟨fun k=>bif gF pur (k+KB) then Cs (tC st.hp ((Iq st pur).filter fun id=>Nat.ble m id)) (st.sl k) else st.sl k,tC st.hp ((Iq st pur).filter fun id=>Nat.ble m id),st.nb⟩:=by
  refine ⟨fun k=> ?_,hA.size,hA.defers,hA.aF.mono h1.dV h1.cE⟩;have hv:=(hA.sl k).mono h1;cases hm:gF pur (k+KB) with
  | false=>grind
  | true=>simp only[hm,cond_true];exact ahP h4 h5 hv
 obtain ⟨β',k1,k2,k3⟩:=Yj pur h4 JA;exact ⟨I',β',h1.trans k1,k2,k3⟩
structure z8 (hp:Nat→Option ag) (β:Nat→Option Nat) (ord:List Nat) (hp':Nat→Option ag) (β':Nat→Option Nat):Prop where
 arr: ∀(j:Nat) id e es fz,ord[j]? =some id→hp id=some (.arr e es fz)→hp' j=some (.arr e es fz)
 var: ∀(j:Nat) id T cs,ord[j]? =some id→hp id=some (.var T cs)→∃jT,hp' j=some (.var T jT)
 dead: ∀(j:Nat) id,ord[j]? =some id→hp id=some .dead→hp' j=some .dead
 out: ∀(j:Nat) id e es vs i,ord[j]? =some id→hp id=some (.out e es vs i)→hp' j=some .dead
 place: ∀(j:Nat) id,ord[j]? =some id→β' j=β id
 nest: ∀(j:Nat) id e es vers,ord[j]? =some id→hp id=some (.nest e es vers)→hp' j=some (.nest e es (vers.map fun _=>0))
 map: ∀(j:Nat) id t es,ord[j]? =some id→hp id=some (.map t es)→hp' j=some (.map t es)
theorem mH: ∀{l:List Nat} {n i j:Nat},iR l n i=some j→∃k,j=i+k∧l[k]? =some n
 | [],n,i,j,h=>by cases h
 | a::l,n,i,j,h=>by
  simp only[iR] at h;cases hb:Nat.beq n a with
  | true=>
   simp_all
  | false=>
   rw[hb] at h;obtain ⟨k,h1,h2⟩:=mH h;exact ⟨k+1,by omega,by grind⟩
def nq (hp':Nat→Option ag) (β':Nat→Option Nat) (n:Nat) (bs:List ag):Prop:=
 ∀(k:Nat) b,bs[k]? =some b→hp' (n+k)=some b∧β' (n+k)=none
theorem Py: ∀(vers:List Nat) (k:Nat),bw (vers.map fun _=>0) k=0
 | [],_=>rfl
 | _::_,0=>rfl
 | _::vs,k+1=>Py vs k
theorem Yl {e:TypeId} {es:List V} {vers:List Nat} {path:Path} {ver:Nat} (hc:(Nat.blt 0 path.length&&(Nat.ble path.length vers.length&&Nat.beq (bw vers (path.length-1)) ver))=true)
  (h:(ag.nest e es vers).tE path ver):False:=by
 simp only[aK,nP,fe,aO] at hc;obtain ⟨h1,h2,h3⟩:=hc;rcases h with h|h|h
 all_goals grind
theorem Ym (S:aA P w I β hp B M w0) (hT:rV P I β hp) {ord:List Nat} (hR:z8 hp β ord hp' β') {v:Value} {x:V} (hv:ai P w I β hp v x):ai P w I β' hp' v (iS hp ord x):=by
 cases hv with
 | undef=>exact .undef
 | int=>exact .int
 | bool=>exact .bool
 | str h=>exact .str h
 | list h=>exact .list h
 | nilS=>exact .nilS
 | agg=>exact .undef
 | aW=>exact .undef
 | eb=>exact .eb
 | fn=>exact .undef
 | pref a b c=>exact .pref a b c
 | @dD _ e id ab=>
  simp only[iS];cases bE:iR ord id 0 with
  | none=>simp only[ab];exact .undef
  | some j=>
   obtain ⟨k,rfl,hk⟩:=mH bE;exact .dD (hR.dead _ id (by grind) ab)
 | @ia _ e id off len ab=>
  simp only[iS];cases bE:iR ord id 0 with
  | none=>simp only[ab];exact .undef
  | some j=>
   obtain ⟨k,rfl,hk⟩:=mH bE;exact .ia (hR.dead _ id (by grind) ab)
 | @kP _ id i c ab=>
  simp only[iS];cases bE:iR ord id 0 with
  | none=>exact .undef
  | some j=>
   obtain ⟨k,rfl,hk⟩:=mH bE;exact .kP (hR.dead _ id (by grind) ab)
 | @dy e id fz _ ab hb=>
  simp only[iS];cases bE:iR ord id 0 with
  | none=>
   simp only[ab];cases fz with
   | false=>exact .undef
   | true=>simp only[ml,cond_true];exact .list (.any fun _=>rfl)
  | some j=>
   obtain ⟨k,rfl,hk⟩:=mH bE;have da:ord[0+k]? =some id:=by grind
   exact .dy (hR.arr _ id _ _ _ da ab) ((hR.place _ id da).trans hb)
 | @whole e id es fz b cap ab hb aU bO hm=>
  simp only[iS];cases bE:iR ord id 0 with
  | none=>
   simp only[ab];cases fz with
   | false=>exact .undef
   | true=>
    simp only[ml,cond_true];have hr:=S.h.rel id _ ab;cases hr with
    | dU ay=>grind
    | arr hL ar ay hh hs hf eJ hx=>
     rw[hb] at ay;cases ay;have:=tI (I':=I) (off:=0) (len:=es.length) (o:=0) hh hx (ey ar) (by omega) bO (fun _=>by simp) (fun _ _ h=>h) (hT _ _ _ _ ab hb);exact .list (by grind)
  | some j=>
   obtain ⟨k,rfl,hk⟩:=mH bE;have da:ord[0+k]? =some id:=by grind
   exact .whole (hR.arr _ id _ _ _ da ab) ((hR.place _ id da).trans hb) aU bO hm
 | @gy e id fz _ ab hb=>
  simp only[iS];cases bE:iR ord id 0 with
  | none=>
   simp only[ab];cases fz with
   | false=>exact .undef
   | true=>simp only[ml,cond_true];exact .list (by simpa using (jQ.any (P:=P) fun _=>rfl))
  | some j=>
   obtain ⟨k,rfl,hk⟩:=mH bE;have da:ord[0+k]? =some id:=by grind
   exact .gy (hR.arr _ id _ _ _ da ab) ((hR.place _ id da).trans hb)
 | @sub e id off len es fz b o cap ab hb kS bO ho=>
  simp only[iS];cases bE:iR ord id 0 with
  | none=>
   simp only[ab];cases fz with
   | false=>exact .undef
   | true=>
    simp only[ml,cond_true];have hr:=S.h.rel id _ ab;cases hr with
    | dU ay=>grind
    | arr hL ar ay hh hs hf eJ hx=>
     rw[hb] at ay;cases ay;exact .list (tI (I':=I) hh hx (ey ar) kS bO ho (fun _ _ h=>h) (hT _ _ _ _ ab hb))
  | some j=>
   obtain ⟨k,rfl,hk⟩:=mH bE;have da:ord[0+k]? =some id:=by grind
   exact .sub (hR.arr _ id _ _ _ da ab) ((hR.place _ id da).trans hb) kS bO ho
 | @ptr id i c b blk ab hd hb=>
  simp only[iS];cases bE:iR ord id 0 with
  | none=>exact .undef
  | some j=>
   obtain ⟨k,rfl,hk⟩:=mH bE;have da:ord[0+k]? =some id:=by grind
   cases blk with
   | dead=>grind
   | var T0 cs=>
    obtain ⟨jT,h'⟩:=hR.var _ id T0 cs da ab;exact .ptr (blk:= .var T0 jT) h' (by simp) ((hR.place _ id da).trans hb)
   | arr e es fz=>exact .ptr (blk:= .arr e es fz) (hR.arr _ id _ _ _ da ab) (by simp) ((hR.place _ id da).trans hb)
   | nest e es vers=>exact .ptr (blk:= .nest e es (vers.map fun _=>0)) (hR.nest _ id _ _ _ da ab) (by simp) ((hR.place _ id da).trans hb)
   | map t es=>exact .ptr (blk:= .map t es) (hR.map _ id _ _ da ab) (by simp) ((hR.place _ id da).trans hb)
   | out e es vs i=>exact .kP (hR.out _ id _ _ _ _ da ab)
 | eo=>exact .eo
 | @jR _ t id ab=>
  simp only[iS];cases bE:iR ord id 0 with
  | none=>exact .undef
  | some j=>
   obtain ⟨k,rfl,hk⟩:=mH bE;exact .jR (hR.dead _ id (by grind) ab)
 | @cK t id b es ab hb=>
  simp only[iS];cases bE:iR ord id 0 with
  | none=>exact .undef
  | some j=>
   obtain ⟨k,rfl,hk⟩:=mH bE;have da:ord[0+k]? =some id:=by grind
   exact .cK (hR.map _ id _ _ da ab) ((hR.place _ id da).trans hb)
 | @ew e id i es vers b cap ab hb aU bO hm=>
  simp only[iS];cases bE:iR ord id 0 with
  | none=>simp only[ab];exact .undef
  | some j=>
   obtain ⟨k,rfl,hk⟩:=mH bE;exact .dD (hR.out _ id _ _ _ _ (by grind) ab)
 | @dJ e id vers _ ab hb=>
  simp only[iS];cases bE:iR ord id 0 with
  | none=>simp only[ab];exact .undef
  | some j=>
   obtain ⟨k,rfl,hk⟩:=mH bE;have da:ord[0+k]? =some id:=by grind
   exact .dJ (hR.nest _ id _ _ _ da ab) ((hR.place _ id da).trans hb)
 | @dp e id es vers b cap ab hb aU bO hm=>
  simp only[iS];cases bE:iR ord id 0 with
  | none=>simp only[ab];exact .undef
  | some j=>
   obtain ⟨k,rfl,hk⟩:=mH bE;have da:ord[0+k]? =some id:=by grind
   exact .dp (hR.nest _ id _ _ _ da ab) ((hR.place _ id da).trans hb) aU bO hm
 | @kQ v e id ver path blk ab CJ=>
  simp only[iS];split
  ·rename_i j e1 cZ vers h1 h2;rw[ab] at h2;cases h2;cases hc:(Nat.blt 0 path.length&&(Nat.ble path.length vers.length&&Nat.beq (bw vers (path.length-1)) ver)) with
   | false=>exact .undef
   | true=>exact (Yl hc CJ).elim
  ·exact .undef
 | @kR v id ver i c path blk ab CJ=>
  simp only[iS];split
  ·rename_i j e1 cZ vers h1 h2;rw[ab] at h2;cases h2;cases hc:(Nat.blt 0 path.length&&(Nat.ble path.length vers.length&&Nat.beq (bw vers (path.length-1)) ver)) with
   | false=>exact .undef
   | true=>exact (Yl hc CJ).elim
  ·exact .undef
 | @row v e e0 t id ver b i c q es l vers ab hb hq hv ht hc=>
  simp only[iS];split
  ·rename_i j e1 cZ vC h1 h2;obtain ⟨k,rfl,hk⟩:=mH h1;have da:ord[0+k]? =some id:=by grind
   cases hx:(Nat.blt 0 (q++[(i,c)]).length&&(Nat.ble (q++[(i,c)]).length vC.length&&Nat.beq (bw vC ((q++[(i,c)]).length-1)) ver)) with
   | false=>exact .undef
   | true=>exact .row (hR.nest _ id _ _ _ da ab) ((hR.place _ id da).trans hb) (by grind) (Py _ _) ht hc
  ·exact .undef
 | @dk e e0 t id ver b b1 len cap i0 c0 i c q es l vers ab hb hq hv ht kU hc=>
  simp only[iS];split
  ·rename_i j e1 cZ vC h1 h2;obtain ⟨k,rfl,hk⟩:=mH h1;have da:ord[0+k]? =some id:=by grind
   cases hx:(Nat.blt 0 (q++[(i0,c0)]).length&&(Nat.ble (q++[(i0,c0)]).length vC.length&&Nat.beq (bw vC ((q++[(i0,c0)]).length-1)) ver)) with
   | false=>exact .undef
   | true=>exact .dk (hR.nest _ id _ _ _ da ab) ((hR.place _ id da).trans hb) (by grind) (Py _ _) ht kU hc
  ·exact .undef
theorem Yn (S:aA P w I β hp B M w0) (hT:rV P I β hp) {ord:List Nat} (hR:z8 hp β ord hp' β') {vs:Array Value} {xs:List V} (h: ∀(j:Nat) v x,vs[j]? =some v→xs[j]? =some x→ai P w I β hp v x) (j:Nat) (v:Value) (y:V)
  (hv:vs[j]? =some v) (hy:(xs.map (iS hp ord))[j]? =some y):ai P w I β' hp' v y:=by
 rw[jh] at hy;cases hx:xs[j]? with
 | none=>grind
 | some x=>rw[hx] at hy;cases hy;exact Ym S hT hR (h j v x hv hx)
theorem Yo (S:aA P w I β hp B M w0) (hT:rV P I β hp) {ord:List Nat} (hR:z8 hp β ord hp' β') {kn:Bool} {n:Nat} {v:Value} {x:V} (hv:ai P w I β hp v x) (hF:nq hp' β' n (zr hp ord kn n x).2):
  ai P w I β' hp' v (zr hp ord kn n x).1:=by
 cases x with
 | nilS e=>
  cases hv with
  | nilS=>
   cases kn with
   | true=>exact .nilS
   | false=>
    obtain ⟨h1,h2⟩:=hF 0 _ rfl;exact .dy h1 h2
 | fn f a b=>
  cases hv with
  | fn q1 q2 q3 q4=>exact .fn (by grind) (Yn S hT hR q2) (by grind) (Yn S hT hR q4)
 | _=>exact Ym S hT hR hv
end
section
variable {P:Program} {A:dc} {w w':World} {I I' I2:Nat→Nat→Prop} {μ β β':Nat→Option Nat} {hp hp':Nat→Option ag} {C:af} {B:Nat} {M:Nat→Prop} {w0:Start}
theorem nq.left {n:Nat} {a b:List ag} (h:nq hp' β' n (a++b)):nq hp' β' n a:=fun k x hx=>
 h k x (by rw[mn (cq.1 hx).1];exact hx)
theorem nq.right {n:Nat} {a b:List ag} (h:nq hp' β' n (a++b)):nq hp' β' (n+a.length) b:=fun k x hx=>by
 have:=h (a.length+k) x (by rw[nR (by omega),HQ];exact hx);rwa [←y7] at this
def o6 (bs:List ag):Prop:= ∀b∈bs,∃e,b= .arr e [] false
theorem o6.app {a b:List ag} (h1:o6 a) (h2:o6 b):o6 (a++b):=fun x hx=>(eO.1 hx).elim (h1 x) (h2 x)
theorem o6.nil:o6 []:=fun x hx=>by simp at hx
theorem Yp {ord:List Nat} {kn:Bool} {n:Nat} {x:V}:o6 (zr hp ord kn n x).2:=by
 cases x<;>simp only[zr]<;>first|exact .nil|skip
 cases kn<;>first|exact .nil|skip
 intro b hb;simp only[cond_false,ff] at hb;exact ⟨_,hb⟩
theorem Pz {ord:List Nat} {kn:Bool}: ∀{xs:List V} {n:Nat},o6 (pO hp ord kn n xs).2
 | [],n=> .nil
 | x::xs,n=>by
  simp only[pO];exact Yp.app Pz
theorem JB {ord:List Nat} {kn:Bool}: ∀{xs:List V} {n:Nat},(pO hp ord kn n xs).1.length=xs.length
 | [],n=>rfl
 | x::xs,n=>by simp only[pO,List.length_cons,JB]
theorem JC (S:aA P w I β hp B M w0) (hT:rV P I β hp) {ord:List Nat} (hR:z8 hp β ord hp' β') {kn:Bool}: ∀{xs:List V} {vs:List Value} {n:Nat},(∀(j:Nat) v x,vs[j]? =some v→xs[j]? =some x→ai P w I β hp v x)→
  nq hp' β' n (pO hp ord kn n xs).2→∀(j:Nat) v y,vs[j]? =some v→(pO hp ord kn n xs).1[j]? =some y→ai P w I β' hp' v y
 | [],vs,n,h,hF,j,v,y,hv,hy=>by simp[pO] at hy
 | x::xs,vs,n,h,hF,j,v,y,hv,hy=>by
  simp only[pO] at hF hy;cases j with
  | zero=>
   simp at hy;subst hy;exact Yo S hT hR (h 0 v x hv rfl) hF.left
  | succ j=>
   cases vs with
   | nil=>simp at hv
   | cons v0 vs=>exact JC S hT hR (vs:=vs) (fun j v x hj hx=>h (j+1) v x (by simpa using hj) (by simpa using hx)) hF.right j v y (by simpa using hv) (by simpa using hy)
theorem ahR {ord:List Nat} {n:Nat} {x:V}:o6 (tB hp ord n x).2:=by
 cases x<;>simp only[tB]<;>first|exact Yp|exact Pz
theorem ahS (S:aA P w I β hp B M w0) (hT:rV P I β hp) {ord:List Nat} (hR:z8 hp β ord hp' β') {n:Nat} {v:Value} {x:V} (hv:ai P w I β hp v x) (hF:nq hp' β' n (tB hp ord n x).2):
  ai P w I β' hp' v (tB hp ord n x).1:=by
 cases x with
 | agg cs=>
  obtain ⟨ds,rfl,h1,h2⟩:=hv.lF;simp only[tB] at hF⊢;exact .agg (by rw[JB];exact h1) fun j v y hj hy=>JC S hT hR (vs:=ds.toList) (fun j v x hj hx=>h2 j v x (by simpa using hj) hx) hF j v y (by simpa using hj) hy
 | aW cs=>
  obtain ⟨ds,rfl,h1,h2⟩:=hv.xc;simp only[tB] at hF⊢;exact .aW (by rw[JB];exact h1) fun j v y hj hy=>JC S hT hR (vs:=ds.toList) (fun j v x hj hx=>h2 j v x (by simpa using hj) hx) hF j v y (by simpa using hj) hy
 | _=>exact Yo S hT hR hv hF
theorem Yq {ord:List Nat} {sl:Nat→V}: ∀{l:List Nat} {n:Nat},o6 (n0 hp ord sl n l).2
 | [],n=> .nil
 | s::l,n=>by
  simp only[n0];exact ahR.app Yq
theorem Yr {ord:List Nat} {sl:Nat→V} {k:Nat} {y:V}: ∀{l:List Nat} {n:Nat},nq hp' β' n (n0 hp ord sl n l).2→eF (n0 hp ord sl n l).1 k=some y→
  ∃n',nq hp' β' n' (tB hp ord n' (sl k)).2∧y=(tB hp ord n' (sl k)).1
 | [],n,_,h=>by cases h
 | s::l,n,hF,h=>by
  simp only[n0] at hF h;simp only[eF] at h;cases hb:Nat.beq k s with
  | true=>
   rw[hb] at h;rw[aO] at hb;subst hb;cases h;exact ⟨n,hF.left,rfl⟩
  | false=>
   rw[hb] at h;exact Yr hF.right h
theorem ahT {ord kp:List Nat} {n id:Nat}:o6 (fk hp ord kp n id).2:=by
 unfold fk;split
 ·exact Pz
 ·exact .nil
 ·exact .nil
 ·exact .nil
 ·exact .nil
theorem Ys {ord kp:List Nat}: ∀{l:List Nat} {n:Nat},o6 (gH hp ord kp n l).2
 | [],n=> .nil
 | s::l,n=>by
  simp only[gH];exact ahT.app Ys
theorem Yt {ord kp:List Nat}: ∀{l:List Nat} {n:Nat},(gH hp ord kp n l).1.length=l.length
 | [],n=>rfl
 | x::xs,n=>by simp only[gH,List.length_cons,Yt]
theorem Yu {ord kp:List Nat}: ∀{l:List Nat} {n j:Nat} {id:Nat},l[j]? =some id→∃n',(nq hp' β' n (gH hp ord kp n l).2→nq hp' β' n' (fk hp ord kp n' id).2)∧(gH hp ord kp n l).1[j]? =some (fk hp ord kp n' id).1
 | [],n,j,id,h=>by simp at h
 | s::l,n,j,id,h=>by
  simp only[gH];cases j with
  | zero=>
   simp at h;subst h;exact ⟨n,fun hF=>hF.left,rfl⟩
  | succ j=>
   obtain ⟨n',h1,h2⟩:=Yu (n:=n+(fk hp ord kp n s).2.length) (j:=j) (by simpa using h);exact ⟨n',fun hF=>h1 hF.right,by simpa using h2⟩
theorem DG: ∀{l acc:List Nat},∃t,vq hp acc l=acc++t∧(acc.Nodup→(acc++t).Nodup)
 | [],acc=>⟨[],by simp[vq],by simp⟩
 | id::l,acc=>by
  simp only[vq];cases hb:(gF acc id|| !(NM hp id)) with
  | true=>exact DG
  | false=>
   obtain ⟨t,h1,h2⟩:=DG (l:=l) (acc:=acc++[id]);refine ⟨id::t,by simp only[cond_false,h1,jK,List.singleton_append],fun hn=> ?_⟩;have:acc++id::t=(acc++[id])++t:=by simp
   rw[this];refine h2 ?_;rw[B6];refine ⟨hn,by simp,fun a ha b ay=> ?_⟩;simp only[ff] at ay;subst ay;intro e;subst e;rw[zE ha] at hb;cases hb
theorem Yv: ∀{n:Nat} {l:List Nat},∃t,grow hp n l=l++t∧(l.Nodup→(l++t).Nodup)
 | 0,l=>⟨[],by simp[grow],by simp⟩
 | n+1,l=>by
  simp only[grow];obtain ⟨t,h1,h2⟩:=DG (hp:=hp) (acc:=l) (l:=l.flatMap (wS hp));rw[h1];obtain ⟨t',h3,h4⟩:=Yv (n:=n) (l:=l++t);exact ⟨t++t',by rw[h3,jK],fun hn=>by rw[←jK];exact h4 (h2 hn)⟩
theorem ahU {m:Nat} {live:List Nat} {st:St}: ∃t,NN m live st=List.range m++t∧(List.range m++t).Nodup:=by
 unfold NN;obtain ⟨t,h1,h2⟩:=DG (hp:=st.hp) (acc:=List.range m) (l:=live.flatMap fun s=>zq (st.sl s));rw[h1];obtain ⟨t',h3,h4⟩:=Yv (hp:=st.hp) (n:=3) (l:=List.range m++t);rw[h3];obtain ⟨t2,h5,h6⟩:=DG (hp:=Vy st.hp) (acc:=List.range m++t++t') (l:=live.flatMap fun s=>bif Nat.ble (3*KB) s then wS st.hp (s-3*KB) else bif Nat.ble KB s then (zq (st.sl (s-KB))).flatMap (wS st.hp) else []);exact ⟨t++t'++t2,by rw[h5];simp only[jK],by simp only[←jK];exact h6 (h4 (h2 List.nodup_range))⟩
end
section
variable {P:Program} {A:dc} {E:FuncId→Bool} {G:Nat→V} {w w':World} {I I' I2:Nat→Nat→Prop} {μ β β':Nat→Option Nat} {hp hp' hp0:Nat→Option ag} {C:af} {B:Nat} {M:Nat→Prop} {w0:Start}
def xK (hp0:Nat→Option ag):Prop:= ∀id e es vers,(hp0 id=some (.nest e es vers)∨∃i,hp0 id=some (.out e es vers i))→∀k,bw vers k=0
theorem Yw {n m:Nat} {ord kp live:List Nat} {a:Act} {st:St} (pT:ord.Nodup) (DH: ∀id,id<m→ord[id]? =some id∨∃p,ord[id]? =some p∧st.hp p=none) (S:aA P w I β st.hp B M w0) (hT:rV P I β st.hp) (hA:gi P E G w I β n a st) (hE:nn w0.w w0.I μ hp0 w I β st.hp) (hm: ∀id blk,hp0 id=some blk→id<m) (kg:xK hp0):
  ∃β',aA P w I β' (zs ord kp live st).hp B M w0∧gi P E G w I β' n a (zs ord kp live st)∧nn w0.w w0.I μ hp0 w I β' (zs ord kp live st).hp:=by
 have ahV:zs ord kp live st=mk (n0 st.hp ord st.sl (ord.length+(gH st.hp ord kp ord.length ord).2.length) live).1
   ((gH st.hp ord kp ord.length ord).1++((gH st.hp ord kp ord.length ord).2++(n0 st.hp ord st.sl (ord.length+(gH st.hp ord kp ord.length ord).2.length) live).2)):=by
  rfl
 rw[ahV]
 let hp':=lC ((gH st.hp ord kp ord.length ord).1++((gH st.hp ord kp ord.length ord).2++(n0 st.hp ord st.sl (ord.length+(gH st.hp ord kp ord.length ord).2.length) live).2))
 let β':Nat→Option Nat:=fun j=>if j<ord.length then (ord[j]?).bind β else none
 have hlen:(gH st.hp ord kp ord.length ord).1.length=ord.length:=Yt;have lN: ∀j,j<ord.length→hp' j=(gH st.hp ord kp ord.length ord).1[j]? :=by
  intro j hj;simp only[hp',jx];rw[mn (by omega)]
 have kb: ∀k,hp' (ord.length+k)=((gH st.hp ord kp ord.length ord).2++(n0 st.hp ord st.sl (ord.length+(gH st.hp ord kp ord.length ord).2.length) live).2)[k]? :=by
  intro k;simp only[hp',jx];rw[nR (by omega),hlen,HQ]
 have hF:nq hp' β' ord.length ((gH st.hp ord kp ord.length ord).2++(n0 st.hp ord st.sl (ord.length+(gH st.hp ord kp ord.length ord).2.length) live).2):=by
  intro k b hb;refine ⟨(kb k).trans hb,?_⟩;simp only[β'];rw[bN]
 have DD:o6 ((gH st.hp ord kp ord.length ord).2++(n0 st.hp ord st.sl (ord.length+(gH st.hp ord kp ord.length ord).2.length) live).2):=Ys.app Yq;have qZ: ∀(j:Nat) id,ord[j]? =some id→β' j=β id:=by
  intro j id hj;simp only[β'];rw[ak (cq.1 hj).1,hj];rfl
 have sw: ∀(j:Nat) id,ord[j]? =some id→∃n',nq hp' β' n' (fk st.hp ord kp n' id).2∧hp' j=some (fk st.hp ord kp n' id).1:=by
  intro j id hj;obtain ⟨n',h1,h2⟩:=Yu (hp:=st.hp) (hp':=hp') (β':=β') (ord:=ord) (kp:=kp) (n:=ord.length) hj;exact ⟨n',h1 hF.left,(lN j (cq.1 hj).1).trans h2⟩
 have hR:z8 st.hp β ord hp' β':=by
  refine ⟨fun j id e es fz hj ab=> ?_,fun j id T cs hj ab=> ?_,fun j id hj ab=> ?_,fun j id e es vs i hj ab=> ?_,qZ,fun j id e es vers hj ab=> ?_,fun j id t es hj ab=> ?_⟩
  ·obtain ⟨n',_,h2⟩:=sw j id hj;rw[h2];simp only[fk,ab]
  ·obtain ⟨n',_,h2⟩:=sw j id hj;rw[h2];simp only[fk,ab];exact ⟨_,rfl⟩
  ·obtain ⟨n',_,h2⟩:=sw j id hj;rw[h2];simp only[fk,ab]
  ·obtain ⟨n',_,h2⟩:=sw j id hj;rw[h2];simp only[fk,ab]
  ·obtain ⟨n',_,h2⟩:=sw j id hj;rw[h2];simp only[fk,ab]
  ·obtain ⟨n',_,h2⟩:=sw j id hj;rw[h2];simp only[fk,ab]
 have cls: ∀j blk',hp' j=some blk'→(∃id,ord[j]? =some id∧((blk'= .dead)∨∃blk,st.hp id=some blk∧blk≠ .dead∧∀o b,bc P w o blk' b→bc P w o blk b))∨(∃e,blk'= .arr e [] false∧β' j=none):=by
  intro j blk' hj;rcases gr j ord.length with h|h
  ·have dN:=bR h;obtain ⟨n',_,h2⟩:=sw j _ dN;rw[hj] at h2;refine .inl ⟨_,dN,?_⟩;cases ab:st.hp ord[j] with
   | none=>left;simp only[fk,ab] at h2;exact dA h2
   | some blk=>
    cases blk with
    | dead=>left;simp only[fk,ab] at h2;exact dA h2
    | out _ _ _ _=>left;simp only[fk,ab] at h2;exact dA h2
    | var T0 cs=>exact .inr ⟨_,rfl,by simp,fun o b h=>by simp only[fk,ab] at h2;rw[dA h2] at h;exact .root (by simp) (h.flat (by simp))⟩
    | arr e es fz=>exact .inr ⟨_,rfl,by simp,fun o b h=>by simp only[fk,ab] at h2;rw[dA h2] at h;exact .root (by simp) (h.flat (by simp))⟩
    | map t es=>exact .inr ⟨_,rfl,by simp,fun o b h=>by simp only[fk,ab] at h2;rw[dA h2] at h;exact .root (by simp) (h.flat (by simp))⟩
    | nest e es vers=>
     refine .inr ⟨_,rfl,by simp,fun o b h=> ?_⟩;simp only[fk,ab] at h2;rw[dA h2] at h;cases h with
     | root _ h=>exact .root (by simp) h
     | row h1 h2=>exact .row h1 h2
  ·obtain ⟨k,rfl⟩: ∃k,j=ord.length+k:=⟨j-ord.length,by omega⟩
   rw[kb] at hj;obtain ⟨e,he⟩:=DD _ (lp hj);exact .inr ⟨e,he,(hF k _ hj).2⟩
 refine ⟨β',⟨⟨fun j blk' hj=> ?_,fun j1 j2 b1 b2 b e1 e2 f1 f2=> ?_,fun j blk b e1 f1=> ?_,S.h.iB⟩,S.cE,S.size,S.new,S.io⟩,⟨fun k=> ?_,hA.size,hA.defers,hA.aF⟩,⟨hE.dV,hE.cE,fun id blk ab=> ?_,fun id blk blk' b ab bL hd hb=> ?_⟩⟩
 ·change hp' j=some blk' at hj;rcases gr j ord.length with h|h
  ·have dN:=bR h;obtain ⟨n',Yx,h2⟩:=sw j _ dN;rw[hj] at h2;rw[qZ j _ dN];cases ab:st.hp ord[j] with
   | none=>simp only[fk,ab] at h2;rw[dA h2];exact .dead
   | some blk=>
    have hr:=S.h.rel _ _ ab;generalize β ord[j]=o at hr;cases hr with
    | dead=>simp only[fk,ab] at h2;rw[dA h2];exact .dead
    | out=>simp only[fk,ab] at h2;rw[dA h2];exact .dead
    | dU hb=>simp only[fk,ab] at h2;rw[dA h2];exact .dU hb
    | arr a0 a1 a2 a3 a4 a5 a6 a7=>simp only[fk,ab] at h2;rw[dA h2];exact .arr a0 a1 a2 a3 a4 a5 a6 a7
    | nest a1 a2 a3=>simp only[fk,ab] at h2;rw[dA h2];exact .nest a1 a2 a3
    | gz a1=>simp only[fk,ab] at h2;rw[dA h2];exact .gz a1
    | map a1 a2 a3 a4 a5 a6 a7=>simp only[fk,ab] at h2;rw[dA h2];exact .map a1 a2 a3 a4 a5 a6 a7
    | @var xs b Ca T hb hh hs c6 hx gJ=>
     simp only[fk,ab] at h2 Yx;rw[dA h2];exact .var hb hh (by rw[JB];exact hs) c6 (fun i v y hi hy=>JC S hT hR (vs:=Ca.toList) (fun i v x hi cS=>hx i v x (by simpa using hi) cS) Yx i v y (by simpa using hi) hy) gJ
  ·rcases cls j blk' hj with ⟨id,ab,_⟩|⟨e,he,hb⟩
   ·have:=(cq.1 ab).1;omega
   ·rw[he];exact .dU hb
 ·rcases cls j1 b1 e1 with ⟨PA,o1,x1⟩|⟨e,_,hb⟩
  ·rcases cls j2 b2 e2 with ⟨bj,o2,x2⟩|⟨e,_,hb⟩
   ·obtain ⟨c1,y1,z1,g1⟩:=x1.resolve_left f1.alive;obtain ⟨c2,y2,z2,g2⟩:=x2.resolve_left f2.alive;rw[qZ _ _ o1] at f1;rw[qZ _ _ o2] at f2;have:=S.h.inj PA bj c1 c2 b y1 y2 (g1 _ _ f1) (g2 _ _ f2);subst this;obtain ⟨q1,q2⟩:=cq.1 o1;obtain ⟨q3,q4⟩:=cq.1 o2;exact (List.getElem_inj pT).1 (q2.trans q4.symm)
   ·subst ‹b2=_›;have:=f2.flat (by simp);rw[hb] at this;cases this
  ·subst ‹b1=_›;have:=f1.flat (by simp);rw[hb] at this;cases this
 ·rcases cls j blk e1 with ⟨PA,o1,x1⟩|⟨e,_,hb⟩
  ·obtain ⟨c1,y1,z1,g1⟩:=x1.resolve_left f1.alive;rw[qZ _ _ o1] at f1;exact S.h.own PA c1 b y1 (g1 _ _ f1)
  ·subst ‹blk=_›;have:=f1.flat (by simp);rw[hb] at this;cases this
 ·change ai P w I β' hp' (a.tmps.getD k undef) (kO _ k);unfold kO;cases Pe:eF (n0 st.hp ord st.sl (ord.length+(gH st.hp ord kp ord.length ord).2.length) live).1 k with
  | none=>exact .undef
  | some y=>
   obtain ⟨n',h1,h2⟩:=Yr hF.right Pe;simp only[Option.getD_some,h2];exact ahS S hT hR (hA.sl k) h1
 ·obtain ⟨sm,k1,k2,k3⟩:=hE.blk id blk ab;rcases DH id (hm id blk ab) with ho|⟨p,ho,bE⟩
  ·cases sm with
   | dead=>exact ⟨.dead,hR.dead id id ho k1,k2,fun h=>absurd rfl h⟩
   | out e es vs i=>exact ⟨.dead,hR.out id id _ _ _ _ ho k1,by cases blk<;>trivial,fun h=>absurd rfl h⟩
   | var T0 cs=>
    obtain ⟨jT,h'⟩:=hR.var id id T0 cs ho k1;refine ⟨_,h',?_,fun _=>(qZ id id ho).trans (k3 (by simp))⟩;cases blk<;>simp_all [ag.le]
   | arr e es fz=>exact ⟨_,hR.arr id id e es fz ho k1,k2,fun _=>(qZ id id ho).trans (k3 (by simp))⟩
   | map t es=>exact ⟨_,hR.map id id t es ho k1,k2,fun _=>(qZ id id ho).trans (k3 (by simp))⟩
   | nest e es vers=>
    refine ⟨_,hR.nest id id e es vers ho k1,?_,fun _=>(qZ id id ho).trans (k3 (by simp))⟩;rcases ag.VC k2 with ⟨Pj,ahW,rfl,l1,l2,_⟩|⟨Pj,ahW,i0,rfl,l1,l2,_⟩
    ·exact ⟨rfl,l1,by simpa using l2,fun k=>by rw[kg id _ _ _ (.inl ab) k];exact kK _⟩
    ·exact ⟨rfl,l1,by simpa using l2,fun k=>by rw[kg id _ _ _ (.inr ⟨_,ab⟩) k];exact kK _⟩
  ·obtain ⟨n',_,h2⟩:=sw id p ho;simp only[fk,bE] at h2;exact ⟨.dead,h2,by cases blk<;>trivial,fun h=>absurd rfl h⟩
 ·obtain ⟨sm,k1,k2,k3⟩:=hE.blk id blk ab;rcases DH id (hm id blk ab) with ho|⟨p,ho,bE⟩
  ·refine hE.size id blk sm b ab k1 (fun ug=> ?_) hb;subst ug;have:=hR.dead id id ho k1;change hp' id=some blk' at bL;rw[this] at bL;exact hd (dA bL).symm
  ·obtain ⟨n',_,h2⟩:=sw id p ho;simp only[fk,bE] at h2;change hp' id=some blk' at bL;rw[h2] at bL;exact absurd (dA bL).symm hd
theorem ahX {n m:Nat} {live:List Nat} {a:Act} {st:St} (S:aA P w I β st.hp B M w0) (hT:rV P I β st.hp) (hA:gi P E G w I β n a st) (hE:nn w0.w w0.I μ hp0 w I β st.hp) (hm: ∀id blk,hp0 id=some blk→id<m) (kg:xK hp0):
  ∃β',aA P w I β' (canon m live st).hp B M w0∧gi P E G w I β' n a (canon m live st)∧nn w0.w w0.I μ hp0 w I β' (canon m live st).hp:=by
 obtain ⟨t,DH,pT⟩:=ahU (m:=m) (live:=live) (st:=st);refine Yw (by rw[DH];exact pT) (fun id ba=> .inl ?_) S hT hA hE hm kg;rw[DH,mn (by simpa using ba)];simp[ba]
theorem Yy: ∀{l:List Nat},qB l=true→l.Nodup
 | [],_=> .nil
 | a::l,h=>by
  simp only[qB,aK,mY] at h;rw[List.nodup_cons];exact ⟨fun hm=>Bool.noConfusion ((zE hm).symm.trans h.1),Yy h.2⟩
theorem ahY {m:Nat} {mv:List Nat} {id:Nat} (h:id<m):(oR m mv)[id]? =some id∨(oR m mv)[id]? =some (m+id):=by
 unfold oR;rw[mn (by simpa using h),jh];simp only[HT h,Option.map_some];cases gF mv id with
 | true=>exact .inr rfl
 | false=>exact .inl rfl
end
end Go.AM
