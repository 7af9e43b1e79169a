/-
  Functions of the program, lifted to plain data.
-/
import Derived.Lib.AppendStr
import Derived.Laws.BytesString
import Derived.Lib.Builder
import Derived.Lib.UnsafeStr
import Derived.Laws.Runes
import Derived.Lib.LazyBuf
import Derived.Conc.MuLone
import Derived.Defers
import Derived.Test.YtpigoedhkpjgeaaGreatDoorP2
noncomputable section
set_option linter.unusedVariables false
set_option linter.unusedSimpArgs false
set_option linter.unusedSectionVars false
namespace Go.AM
section
variable {P:Program} {w w':World} {I I':Nat→Nat→Prop} {β β':Nat→Option Nat} {hp hp':Nat→Option ag} {C:af} {B:Nat} {M:Nat→Prop} {w0:Start}
theorem agR {e:TypeId} (he:P.underlying e=some (.int .u8)) (hc:P.cellsOf e=1) (s:ByteArray): ∀(i j:Nat) (x:V) (t':TypeId),(s.data.toList.map Cw)[i]? =some x→(aP P e)[j]? =some t'→j<P.cellsOf e→
  ∃u,(Lib.strCells s)[i*P.cellsOf e+j]? =some u∧Pure P w I t' u (bX P e x j):=by
 intro i j x t' hx ht hj;have nj:bZ P e=false:=by simp[bZ,he]
 obtain rfl:j=0:=by omega
 simp only[aP,nj,cond_false,List.getElem?_cons_zero,ey] at ht;subst ht;rw[jk] at hx;cases hb:s.data.toList[i]? with
 | none=>grind
 | some b=>
  rw[hb] at hx;cases hx;refine ⟨.int .u8 b.toNat,?_,?_⟩
  ·rw[hc,ga,Nat.add_zero];simp only[Lib.strCells,jk,hb,Option.map_some]
  ·simp only[bX,nj,cond_false];exact .int he
theorem agS (w:World) (t u ty e T:TypeId) (i:TypeInfo) (ht:P.underlying t=some (.slice e)) (hu:P.underlying u=some .string) (hi:P.info? e=some i) (jt:i.size=1)
  (g ld tZ:Nat) (cur:Array Value) (hg:w.heap[g]? =some (.cells cur T (0,0))) (s:ByteArray)
  (sh:ld+s.size≤tZ) (zT:ld+s.size≤cur.size):
  (Builtin.append_ #[t,u] ty #[.slice (some ⟨g,0,none⟩) ld tZ,.string s]).run P w=
   .ok (.slice (some ⟨g,0,none⟩) (ld+s.size) tZ) (w.setRow g (cur.toList.take ld++Lib.strCells s++cur.toList.drop (ld+s.size)).toArray):=by
 have hf:=Lib.run_firstCells_string (P:=P) w 1 s;have ec:=run_storeCells_at P g ld T (Lib.strCells s) 0 cur w hg (by simpa[Lib.strCells_length] using zT) (Lib.strCells_oneCell s);simp only[Nat.add_zero,Lib.strCells_length] at ec;simp[Builtin.append_,run_underlying ht,run_underlying hu,sizeOf,typeInfo,hi,jt,Builtin.lenOf,sh,hf,Addr.add_lit,ec]
theorem agT (w:World) (t u ty e:TypeId) (i:TypeInfo) (z:Value) (ht:P.underlying t=some (.slice e)) (hu:P.underlying u=some .string) (hi:P.info? e=some i) (hz:i.zero=some z)
  (s:ByteArray) (h0:0<s.size) (Dh:(s.size:Int)≤9223372036854775807) (I6:s.size*i.bytes≤281474976710656) (a0:Option Addr):
  (Builtin.append_ #[t,u] ty #[.slice a0 0 0,.string s]).run P w=
   .ok (.slice (some ⟨w.heap.size,0,none⟩) s.size (grownCap w s.size 0 e))
    (w.drew.alloc (.cells (s.data.map (fun b=>Value.int .u8 b.toNat)++Builtin.zeroCells z.cells (grownCap w s.size 0 e-s.size)) e)):=by
 cases a0 with
 | none=>exact run_append_nil_string w t u ty e i z ht hu hi hz s h0 Dh I6
 | some b=>
  rw[←run_append_nil_string w t u ty e i z ht hu hi hz s h0 Dh I6];have hn:s.size≠0:=by omega
  have O6: ¬(9223372036854775807<(s.size:Int)):=by omega
  have agU: ¬(281474976710656<Builtin.nextslicecap s.size 0*i.bytes):=by rw[nextslicecap_zero h0];omega
  simp[Builtin.append_,run_underlying ht,run_underlying hu,sizeOf,typeInfo,zeroValue,hi,hz,Builtin.lenOf,Builtin.firstCells,hn,O6,agU,Question.forced,newRow,grownCap,loadCells,loadCellsFrom]
theorem Xe (S:aA P w I β hp B M w0) {t u ty e:TypeId} {nb:Nat} {fz:Bool} {x:ByteArray} {xs:List V} {i:TypeInfo} {z:Value} (hu:P.underlying t=some (.slice e)) (qY:P.underlying u=some .string) (au:cU P e=true) (hn:hp nb=none)
 (hi:P.info? e=some i) (hz:i.zero=some z) (h3:i.size=P.cellsOf e) (h4:z.cells.size=P.cellsOf e) (Dr:i.size=1) (mF:P.bytesOf e=i.bytes) (dP:xs.length*P.bytesOf e≤bm) (o4:xs.length=x.size) (p6:(Lib.strCells x).length=x.size)
 (eF: ∀(i j:Nat) (y:V) (t':TypeId),xs[i]? =some y→(aP P e)[j]? =some t'→j<P.cellsOf e→∃u,(Lib.strCells x)[i*P.cellsOf e+j]? =some u∧Pure P w I t' u (bX P e y j)):
 ∀a0,∃v w' β',(Builtin.append_ #[t,u] ty #[.slice a0 0 0,.string x]).run P w= .ok v w'∧Le P w I β hp w' I β' (aq hp nb (some (.arr e xs fz)))∧aA P w' I β' (aq hp nb (some (.arr e xs fz))) B M w0∧
  ai P w' I β' (aq hp nb (some (.arr e xs fz))) v (.whole e nb):=by
 intro a0;have tY:=w8 au;have hlen:xs.length≤2^45:=by
  have:xs.length*1≤xs.length*P.bytesOf e:=vf _ tY;simp only[bm] at dP;omega
 by_cases h0:x.size=0
 ·have jz:xs=[]:=nQ (by omega);subst jz;obtain ⟨a1,a2⟩:=CQ S e hn;have hf:=Lib.run_firstCells_string (P:=P) w 1 x;rw[h0] at hf;have gE:Lib.strCells x=[]:=nQ (by omega);exact ⟨.slice a0 0 0,_,_,by cases a0<;>simp[storeCells,gE,Builtin.append_,run_underlying hu,run_underlying qY,sizeOf,typeInfo,hi,Dr,Builtin.lenOf,h0,hf],a1,a2,.dD (bE _ _ _) (bE _ _ _)⟩
 ·have cI:=agT (P:=P) w t u ty e i z hu qY hi hz x (by omega) (by omega) (by rw[←mF,←o4];simp only[bm] at dP;omega) a0;have e1:(x.data.map fun b=>Value.int .u8 b.toNat)=(Lib.strCells x).toArray:=by
   apply Array.ext';simp[Lib.strCells]
  rw[e1,←o4] at cI;have pZ:=grownCap_ge w xs.length 0 e;have qW:grownCap w xs.length 0 e≤maxLen:=grownCap_le_maxLen w xs.length 0 e (by simp only[maxLen];omega);obtain ⟨n1,n2,n3⟩:=zP S.drew (nb:=nb) (cap:=grownCap w xs.length 0 e) (es:=xs) (C0:=(Lib.strCells x).toArray++Builtin.zeroCells z.cells (grownCap w xs.length 0 e-xs.length)) au hn
   (by
    have:(Lib.strCells x).length=xs.length*P.cellsOf e:=by grind
    simp only[HO,qw,size_zeroCells,h4,this,←jN];grind) pZ qW
   (fun i' j y t' hy ht hj=>by
    obtain ⟨u,jZ,hp⟩:=eF i' j y t' hy ht hj;have aY:=(ct.1 jZ).1;refine ⟨u,?_,Pure.drew hp⟩;grind)
  exact ⟨_,_,_,cI,(Le.drew w I β hp).trans n1,n2,n3⟩
theorem agV (S:aA P w I β hp B M w0) {t u ty e:TypeId} {nb:Nat} {s:Value} {sv:V} {x:ByteArray} {r:R} {rd:List Nat} (hu:P.underlying t=some (.slice e)) (qY:P.underlying u=some .string) (he:P.underlying e=some (.int .u8)) (hs:ai P w I β hp s sv)
  (h:(zn P nb e sv (.list e (x.data.toList.map Cw))).run C hp=some (r,rd)):dg P ((Builtin.append_ #[t,u] ty #[s,.string x]).run P w) w I β hp B M w0 r:=by
 unfold zn at h;obtain ⟨au,h⟩:=aD h;simp only[tx] at h;obtain ⟨_,h⟩:=aD h;have nj:bZ P e=false:=by simp[bZ,he]
 have fv:P.cellsOf e=1:=by rw[←(nc au).1,CN nj];rfl
 obtain ⟨i,z,hi,hz,h3,h4,_⟩:=jy au;have Dr:i.size=1:=by omega
 have tY:=w8 au;have mF:P.bytesOf e=i.bytes:=by simp[Program.bytesOf,hi]
 have Je:=agR (P:=P) (w:=w) (I:=I) he fv x;have o4:(x.data.toList.map Cw).length=x.size:=by simp
 have p6:(Lib.strCells x).length=x.size:=Lib.strCells_length x;have h1:=Lib.strCells_oneCell x;generalize jz:x.data.toList.map Cw=xs at*
 cases sv with
 | nilS e'=>
  obtain ⟨hc,h⟩:=aD h;simp only[aK,aN,fk] at hc;obtain ⟨hn,rfl⟩:=lb h;obtain ⟨a0,rfl⟩: ∃a0,s= .slice a0 0 0:=by cases hs;grind
  obtain ⟨v,w',β',a1,a2,a3,a4⟩:=Xe S hu qY au hn hi hz h3 h4 Dr mF hc.2 o4 p6 Je _;exact ⟨v,w',I,β',a1,a2,a3,a4⟩
 | whole e' id=>
  obtain ⟨l,h⟩:=run_get h;cases ab:hp id with
  | none=>rw[ab] at h;cases h
  | some blk=>
   rw[ab] at h;cases blk with
   | dead=>cases h
   | var _=>cases h
   | nest _ _ _=>cases h
   | map _ _=>cases h
   | out _ _ _ _=>cases h
   | arr dG es fz=>
    obtain ⟨hc,h⟩:=aD h;obtain ⟨hn,rfl⟩:=lb h;simp only[aK,aN,fk] at hc;obtain ⟨OK,OL,dP⟩:=hc;subst OK;subst OL;have bL:nb≠id:=fun e=>by grind
    obtain ⟨k1,k2⟩:=vG S ab;have gb:aq hp id (some ag.dead) nb=none:=by rw[cu _ _ bL];exact hn
    cases hs with
    | dH hd=>grind
    | dw hd=>grind
    | dO hd=>grind
    | eB hd=>grind
    | dD hd hb=>
     rw[ab] at hd;cases hd;simp only[List.length_nil,eT] at dP;obtain ⟨v,w',β',a1,a2,a3,a4⟩:=Xe k2 hu qY au gb hi hz h3 h4 Dr mF dP o4 p6 Je _;exact ⟨v,w',I,β',a1,k1.trans a2,a3,a4⟩
    | @whole _ _ aL n8 b cap hd hb aU bP hm=>
     rw[ab] at hd;cases hd;have hr:=S.h.rel id _ ab;cases hr with
     | dY ay=>grind
     | @arr _ T0 _ _ b' Ca hL _ ay hh vP hf eN vQ=>
      rw[hb] at ay;cases ay;have hlen:es.length+xs.length≤2^45:=by
       have:(es.length+xs.length)*1≤(es.length+xs.length)*P.bytesOf e:=vf _ tY;simp only[bm] at dP;omega
      rw[jW hh] at aU;have oX: ∀aw blk',aq hp id (some ag.dead) aw=some blk'→¬bd P w (β aw) blk' b:=by
       intro aw blk' h1 h2;by_cases lL:aw=id
       ·subst lL;rw[bE] at h1;cases h1;exact h2.alive rfl
       ·rw[cu _ _ lL] at h1;exact lL (S.h.inj aw id blk' _ b h1 ab h2 (.root (by simp) hb))
      have Di:=S.h.vD id _ b ab (by simp) hb;have pW:es.length*P.cellsOf e≤Ca.toList.length:=by omega
      have agW:(Lib.strCells x).length=xs.length*P.cellsOf e:=by grind
      by_cases sh:es.length+xs.length≤cap
      ·have zT:es.length*P.cellsOf e+(Lib.strCells x).length≤Ca.size:=by grind
       have cI:=agS (P:=P) w t u ty e T0 i hu qY hi Dr b es.length cap Ca hh x (by omega) (by grind);have eF:=I5 (P:=P) (w:=w) (I:=I) (n:=es.length) (c:=Ca.toList) rfl (fun i j y t' a b c=>by
        grind) Je pW (Ca.toList.drop (es.length*P.cellsOf e+(Lib.strCells x).length))
       generalize IQ:(Ca.toList.take es.length++Lib.strCells x++Ca.toList.drop (es.length+x.size)).toArray=C' at cI;have om:C'.size=Ca.size:=by
        grind
       have O7:(w.setRow b C').heap[b]? =some (.cells C' T0 (0,0)):=setRow_heap w b Ca C' T0 _ hh;have p5: ∀j,j<es.length*P.cellsOf e→C'[j]? =Ca[j]? :=fun j hj=>by
        grind
       obtain ⟨a1,a2⟩:=zE k2 (blk:= .arr e (es++xs) fz) (w':=w.setRow b C') gb oX (Ww hh O7 (OE hf eN) p5) (fun b' h _=>setRow_other w b b' _ h) (by simp) ⟨rfl,rfl⟩ Di
        (fun b' h=>(dC (h.flat (by simp))).symm) (fun hle=> .arr (om▸hL) au rfl O7 (by grind) (fun _ j h=>lr (OE hf eN j h) (ef _ (by simp))) eN fun i j y t' a b c=>by
         obtain ⟨v,hv,hp⟩:=eF i j y t' a b c;refine ⟨v,?_,hp.mono hle.dZ hle.cH⟩;grind)
       refine ⟨_,_,_,_,cI,k1.trans a1,a2,?_⟩;have a3:=ai.whole (P:=P) (w:=w.setRow b C') (I:=I) (β:=aq β nb (some b)) (hp:=aq (aq hp id (some .dead)) nb (some (.arr e (es++xs) fz))) (cap:=cap) (b:=b) (es:=es++xs) (fz:=fz) (id:=nb) (e:=e) (bE _ _ _) (bE _ _ _) (by rw[jW O7,om,aU]) (by grind) hm;rw[gI,o4] at a3;exact a3
      ·have hold: ∀(j:Nat) v,(Ca.toList.take (es.length*P.cellsOf e))[j]? =some v→w.cell? ((⟨b,0,none⟩:Addr).add j)=some v:=by
        intro j v hj;have dn:=(ct.1 hj).1;have dj:j<es.length*P.cellsOf e:=by grind
        rw[gX dj] at hj;rw[mE,cell?_cells hh,eT];grind
       have cI:=Lib.run_append_grow_string (P:=P) w t u ty e i z hu qY hi hz ⟨b,0,none⟩ es.length cap (Ca.toList.take (es.length*P.cellsOf e)) (by grind) hold x (by omega) (by omega)
        (growslice_fits (by omega) (by rw[←mF,←o4];simp only[bm] at dP;omega))
       rw[←o4] at cI;have pZ:=grownCap_ge w (es.length+xs.length) cap e;have qW:grownCap w (es.length+xs.length) cap e≤maxLen:=grownCap_le_maxLen w _ cap e (by simp only[maxLen];omega);have eF:=I5 (P:=P) (w:=w) (I:=I) (n:=es.length) (c:=Ca.toList) rfl (fun i j y t' a b c=>by
        grind) Je pW (Builtin.zeroCells z.cells (grownCap w (es.length+xs.length) cap e-(es.length+xs.length))).toList
       obtain ⟨n1,n2,n3⟩:=zP k2.drew (nb:=nb) (cap:=grownCap w (es.length+xs.length) cap e) (es:=es++xs)
        (C0:=(Ca.toList.take (es.length*P.cellsOf e)).toArray++(Lib.strCells x).toArray++Builtin.zeroCells z.cells (grownCap w (es.length+xs.length) cap e-(es.length+xs.length))) au gb
        (by
         have e1:(Ca.toList.take (es.length*P.cellsOf e)).length=es.length*P.cellsOf e:=by simp;omega
         simp only[HO,qw,size_zeroCells,h4,agW,e1,←jN];grind) (by grind) qW
        (fun i j y t' a b c=>by
         obtain ⟨v,hv,hp⟩:=eF i j y t' a b c;refine ⟨v,?_,Pure.drew hp⟩;grind)
       rw[gI] at n3;exact ⟨_,_,_,_,cI,(k1.trans (Le.drew w I β _)).trans n1,n2,n3⟩
 | _=>cases h
end
section
variable {P:Program} {w w':World} {I I':Nat→Nat→Prop} {β β':Nat→Option Nat} {hp hp':Nat→Option ag} {C:af} {B:Nat} {M:Nat→Prop} {w0:Start}
theorem Xf: ∀(ns:List Int) (s:ByteArray),(ns.foldl (fun r n=>r.push (UInt8.ofNat n.toNat)) s).data.toList=s.data.toList++ns.map fun n=>UInt8.ofNat n.toNat
 | [],s=>by simp
 | n::ns,s=>by
  simp only[List.foldl_cons,Xf ns,iQ];simp_all
theorem O8 {e:TypeId} {u:Value} {x:V} (he:P.underlying e=some (.int .u8)) (hp:Pure P w I e u x):u= .int .u8 x.toInt:=by
 cases hp with
 | int hp'=>rw[he] at hp';cases hp';rfl
 | bool hp'=>grind
 | str hp'=>grind
 | nil hp'=>grind
 | emp hp'=>grind
 | list _ hp'=>grind
theorem agX (S:aA P w I β hp B M w0) {src dst e:TypeId} {v:Value} {x:V} {r:R} {rd:List Nat} (hs:P.underlying src=some (.slice e)) (he:P.underlying e=some (.int .u8)) (hd:P.underlying dst=some .string)
  (hv:ai P w I β hp v x) (h:(Rd.aB (cU P e) (tx e x fun es=> .ret ⟨.str (lD es),[]⟩)).run C hp=some (r,rd)):dg P ((convert src dst v).run P w) w I β hp B M w0 r:=by
 obtain ⟨au,h⟩:=aD h;obtain ⟨xs,hx,l,h⟩:=Dg S.h.rel au hv h;obtain rfl:=aM h;have nj:bZ P e=false:=by simp[bZ,he]
 have h1:P.cellsOf e=1:=by rw[←(nc au).1,CN nj];rfl
 rcases hx with ⟨⟨a,rfl⟩,rfl⟩|⟨a,c,news,hr⟩
 ·refine .same S (v:= .string .empty) ?_ (.str (by simp[lD]));rw[run_convert_bytes_string w src dst e a 0 0 hs he hd];cases a<;>simp[Conv.bytesToString,loadCells,loadCellsFrom]
 ·have sg:news=(xs.map V.toInt).map (Value.int .u8):=by
   apply List.ext_getElem?;intro j;by_cases hj:j<xs.length
   ·obtain ⟨u,hu,hp⟩:=hr.el j 0 xs[j] e (bS hj) (by simp[aP,nj]) (by omega);rw[h1] at hu;simp only[bX,nj,cond_false] at hp;have jZ:news[j]? =some u:=by grind
    rw[jZ];have:=O8 he hp;grind
   ·have hl:news.length=xs.length:=by rw[hr.len,h1];simp
    grind
  have O9:=run_loadCells_list (P:=P) w a news hr.cell;have hl:news.length=xs.length:=by grind
  rw[hl] at O9;rw[sg] at O9;refine .same S (v:= .string ((xs.map V.toInt).foldl (fun r n=>r.push (UInt8.ofNat n.toNat)) ByteArray.empty)) ?_ (.str ?_)
  ·rw[hr.val,run_convert_bytes_string w src dst e _ _ _ hs he hd];exact run_bytesToString w a xs.length c (xs.map V.toInt) O9
  ·rw[Xf];simp[lD]
theorem agY {n:Int} (h:(decide (0≤n)&&decide (n<128))=true):(Utf8.encode n).data.toList=[UInt8.ofNat n.toNat]:=by
 simp only[aK,fQ] at h;have h1:Utf8.valid n=true:=by rw[validRune_eq];exact cZ (by omega)
 unfold Utf8.encode;simp[h1,show n.toNat<128 by omega]
theorem ai.Xg {v:Value} {e:TypeId} (h:ai P w I β hp v (.nilS e)):v= .slice none 0 0:=by cases h;rfl
theorem ai.Jf {v:Value} (h:ai P w I β hp v .eg):v= .pointer none:=by cases h;rfl
section
variable (w:World)
theorem agZ (t e:TypeId) (a:Addr) (h:P.underlying t=some (.pointer e)):(binOp .eql t (.pointer (some a)) (.pointer none)).run P w= .ok (.bool false) w:=by
 have h0: ∀d:Nat,(Op.equalIn (d+1) t (.pointer (some a)) (.pointer none)).run P w= .ok false w:=fun d=>by simp[Op.equalIn,run_underlying h]
 simp only[binOp];simp[Op.equal,Op.maxDepth,h0 9999]
theorem ag0 (t e:TypeId) (a:Addr) (h:P.underlying t=some (.pointer e)):(binOp .neq t (.pointer (some a)) (.pointer none)).run P w= .ok (.bool (!false)) w:=by
 have h0: ∀d:Nat,(Op.equalIn (d+1) t (.pointer (some a)) (.pointer none)).run P w= .ok false w:=fun d=>by simp[Op.equalIn,run_underlying h]
 simp only[binOp];simp[Op.equal,Op.maxDepth,h0 9999]
theorem ag1 (t e:TypeId) (a:Addr) (h:P.underlying t=some (.pointer e)):(binOp .eql t (.pointer none) (.pointer (some a))).run P w= .ok (.bool false) w:=by
 have h0: ∀d:Nat,(Op.equalIn (d+1) t (.pointer none) (.pointer (some a))).run P w= .ok false w:=fun d=>by simp[Op.equalIn,run_underlying h]
 simp only[binOp];simp[Op.equal,Op.maxDepth,h0 9999]
theorem ag2 (t e:TypeId) (a:Addr) (h:P.underlying t=some (.pointer e)):(binOp .neq t (.pointer none) (.pointer (some a))).run P w= .ok (.bool (!false)) w:=by
 have h0: ∀d:Nat,(Op.equalIn (d+1) t (.pointer none) (.pointer (some a))).run P w= .ok false w:=fun d=>by simp[Op.equalIn,run_underlying h]
 simp only[binOp];simp[Op.equal,Op.maxDepth,h0 9999]
theorem ag3 (t e:TypeId) (h:P.underlying t=some (.pointer e)):(binOp .eql t (.pointer none) (.pointer none)).run P w= .ok (.bool true) w:=by
 have h0: ∀d:Nat,(Op.equalIn (d+1) t (.pointer none) (.pointer none)).run P w= .ok true w:=fun d=>by simp[Op.equalIn,run_underlying h]
 simp only[binOp];simp[Op.equal,Op.maxDepth,h0 9999]
theorem ag4 (t e:TypeId) (h:P.underlying t=some (.pointer e)):(binOp .neq t (.pointer none) (.pointer none)).run P w= .ok (.bool (!true)) w:=by
 have h0: ∀d:Nat,(Op.equalIn (d+1) t (.pointer none) (.pointer none)).run P w= .ok true w:=fun d=>by simp[Op.equalIn,run_underlying h]
 simp only[binOp];simp[Op.equal,Op.maxDepth,h0 9999]
end
theorem Jg (S:aA P w I β hp B M w0) {op:BinOp} {t:TypeId} {b:Bool} {x y:Operand} {v1 v2:Value} {r:R} {rd:List Nat} (h:(ptrEq P op t b).run C hp=some (r,rd)) (hg:(eqGuard op t x y v1 v2).run P w= .ok () w)
  (he: ∀e j,P.underlying t=some (.pointer e)→P.info? e=some j→(binOp .eql t v1 v2).run P w= .ok (.bool b) w∧(binOp .neq t v1 v2).run P w= .ok (.bool (!b)) w):
  dg P ((do eqGuard op t x y v1 v2;binOp op t v1 v2:Sem Value).run P w) w I β hp B M w0 r:=by
 unfold ptrEq at h;cases hu:P.underlying t with
 | none=>rw[hu] at h;cases h
 | some d=>
  rw[hu] at h;cases d<;>simp only at h<;>first|(cases h;done)|skip
  rename_i e;obtain ⟨h1,h2⟩:=aD h;obtain ⟨j,hj⟩:=zb.1 h1;obtain ⟨k1,k2⟩:=he e j hu hj;cases op<;>simp only at h2<;>first|(cases h2;done)|skip
  ·obtain rfl:=aM h2;exact .same S (by simp_all) .bool
  ·obtain rfl:=aM h2;exact .same S (by simp_all) .bool
theorem ag5 {b n:Nat}:(∀b',b'≠b→(w.freeze ⟨b,0,none⟩ n).heap[b']? =w.heap[b']?)∧bsize (w.freeze ⟨b,0,none⟩ n) b=bsize w b∧w.heap.size≤(w.freeze ⟨b,0,none⟩ n).heap.size∧(w.freeze ⟨b,0,none⟩ n).os=w.os∧(w.freeze ⟨b,0,none⟩ n).output=w.output:=by
 unfold World.freeze;split
 ·grind
 ·refine ⟨fun b' hb=> ?_,?_,by simp,rfl,rfl⟩
  ·grind
  ·simp only[bsize,HT,ly];grind
theorem ag6 {e:TypeId} (hb:isByte P e=true):P.underlying e=some (.int .u8):=by
 unfold isByte at hb;grind
theorem ag7 (S:aA P w I β hp B M w0) {ts:Array TypeId} {ty e:TypeId} {v:Value} {id:Nat} {es:List V} {fz:Bool} (hv:ai P w I β hp v (.whole e id)) (ab:hp id=some (.arr e es fz)) (h0:0<es.length):
  dg P ((Builtin.unsafeSliceData_ ts ty #[v]).run P w) w I β hp B M w0 ⟨.ptr id 0 0,[]⟩:=by
 cases hv with
 | dH h=>grind
 | dD h _=>grind
 | dw h _ _ _ _=>grind
 | dO h _=>grind
 | eB h _ _ _ _=>grind
 | @whole _ _ aL n8 b cap h hb bP hle hm=>
  rw[ab] at h;cases h;refine .same S (Lib.run_unsafeSliceData_row w ts ty ⟨b,0,none⟩ es.length cap (by omega)) ?_;have:=ai.ptr (P:=P) (w:=w) (I:=I) (β:=β) (i:=0) (c:=0) ab (by simp) hb;grind
theorem ag8 {P:Program} {w:World} (pt it ty e T:TypeId) (hp:P.underlying pt=some (.pointer e)) (g cells:Nat) (Jh:w.shape? g=some (T,cells)) (l:List UInt8) (h0:l≠[]) (Wy:liesAt P P.depth T (cells/P.cellsOf T) 0 e l.length=true) (Dh:l.length≤9223372036854775807)
  (fH: ∀j x,l[j]? =some x→w.cell? ((⟨g,0,none⟩:Addr).add j)=some (.int .u8 x.toNat)):
  (Builtin.unsafeString_ #[pt,it] ty #[.pointer (some ⟨g,0,none⟩),.int .i64 l.length]).run P w= .ok (.string ⟨l.toArray⟩) (w.freeze ⟨g,0,none⟩ l.length):=by
 have hl:l.length≠0:=by grind
 have hlb:=Lib.run_loadBytes (P:=P) w l ⟨g,0,none⟩ .empty fH;have O6: ¬(9223372036854775807:Int)<(l.length:Int):=by omega
 have ag9:Builtin.unsafeString_ #[pt,it] ty #[.pointer (some ⟨g,0,none⟩),.int .i64 l.length]=
   (do
    let n←asInt (.int .i64 l.length)
    if n < 0 then runtimePanic (.error "unsafe.String: len out of range")
    if n > IntKind.i64.max then unsupported (.unsafePointer "String: a length above the largest int")
    if n=0 then pure (.string .empty)
    else if←variablesAt ⟨g,0,none⟩ (←elemOf pt) n.toNat then do
     let s←loadBytes ⟨g,0,none⟩ .empty n.toNat
     Go.freeze ⟨g,0,none⟩ n.toNat
     pure (.string s)
    else unsupported (.unsafePointer "String: not so many bytes at ptr")) := rfl
 rw[ag9];have aha:IntKind.i64.max=9223372036854775807:=rfl;have ahb: ¬(l.length:Int)<0:=by omega
 simp[asInt,asIntOf,aha,O6,ahb,hl,variablesAt,Jh,elemOf,run_underlying hp,Wy,hlb]
theorem ahc (S:aA P w I β hp B M w0) {t u ty e:TypeId} {vx:Value} {id:Nat} {n:Int} {es:List V} (hu:P.underlying t=some (.pointer e)) (hb:isByte P e=true) (hv:ai P w I β hp vx (.ptr id 0 0))
  (ab:hp id=some (.arr e es false)) (h0:0<n) (hn:n≤es.length) (hm:n.toNat≤pL) (ju:(es.take n.toNat).all NQ=true):dg P ((Builtin.unsafeString_ #[t,u] ty #[vx,.int .i64 n]).run P w) w I β hp B M w0 ⟨.str (lD (es.take n.toNat)),[(id,.dead)]⟩:=by
 obtain ⟨b,Pb,rfl⟩:=hv.gP ab (by simp);have eZ:=hb;have he:P.underlying e=some (.int .u8):=by
  unfold isByte at hb;grind
 have nj:bZ P e=false:=by simp[bZ,he]
 have hr:=S.h.rel id _ ab;rw[Pb] at hr;cases hr with
 | dY ay=>cases ay
 | @arr _ T0 _ _ b1 Ca hL au pW hh hs hI da eF=>
  cases pW;have h1:P.cellsOf e=1:=by rw[←(nc au).1,CN nj];rfl
  have aY:=S.afz ab (by simp) Pb;have hl:(lD (es.take n.toNat)).length=n.toNat:=by simp[lD];omega
  have O3:n=((lD (es.take n.toNat)).length:Nat):=by omega
  have cI:=ag8 (P:=P) (w:=w) t u ty e T0 hu b Ca.size (by simp[World.shape?,hh]) (lD (es.take n.toNat)) (fun h=>by grind) (hL eZ h1 _ (by grind)) (by rw[hl];unfold pL at hm;omega) (fun j x hx=>by
   have hj:j<n.toNat:=by
    grind
   have xh:j<es.length:=by omega
   simp only[lD,jk,gX hj,bS xh,Option.map_some,ey] at hx;obtain ⟨v,Dm,bG⟩:=eF j 0 es[j] e (bS xh) (by simp[aP,nj]) (by omega);rw[h1] at Dm;simp only[bX,nj,cond_false] at bG;have:=O8 he bG;have hr:=fF.1 ju es[j] (kO (by rw[gX hj];grind));simp only[NQ,aK,fQ] at hr;have jv:(x.toNat:Int)=es[j].toInt:=by
    rw[←hx];have:es[j].toInt.toNat<256:=by omega
    simp only[UInt8.toNat_ofNat'];omega
   rw[mE,cell?_cells hh,jv];grind)
  obtain ⟨f1,f2,f3,f4,f5⟩:=ag5 (w:=w) (b:=b) (n:=n.toNat);obtain ⟨k1,k2⟩:=CR (w':=w.freeze ⟨b,0,none⟩ n.toNat) S ab (by simp) (blk':= .dead) (by trivial) Pb (da rfl) (by simp) f1 f2 f3 ⟨f4,f5⟩ (fun _=> .dead);rw[←O3,hl] at cI;refine ⟨.string ⟨(lD (es.take n.toNat)).toArray⟩,_,I,β,?_,k1,k2,.str ?_⟩
  all_goals grind
def Pc:Op→Bool
 | .call {callee:= .value (.func _),..}=>true
 | .call {callee:= .value (.tmp _),..}=>true
 | .defer _=>true
 | _=>false
theorem qO.val {o:Oper} {a:Act} {s:Sem Value} {r:R} (he:execOp a.eval o=(do Pure.pure (Next.value (←s)))) (h:dg P (s.run P w) w I β hp B M w0 r):qO P ((execOp a.eval o).run P w) w I β hp B M w0 r:=by
 rw[he];exact h.op
theorem ahd {A:di} (S:aA P w I β hp B M w0) (hg:iF P A.aF w I) {a:Act} {sl:Nat→V} (hs:mB P w I β hp a sl) {ix nb:Nat} {o:Oper} (Ds:Pc o.op=false) {r:R} {rd:List Nat}
  (h:(gL P A sl ix nb o).run C hp=some (r,rd)):qO P ((execOp a.eval o).run P w) w I β hp B M w0 r:=by
 obtain ⟨dst,op,ty,pos,after,guard⟩:=o;cases op<;>simp only[gL] at h<;>first|(cases h;done)|skip
 case move x=>
  obtain rfl:=aM h;exact ⟨_,w,I,β,.inl (by simp[execOp]),Le.refl w I β hp,S,hs.ev hg ty x⟩
 case assign x=>
  obtain rfl:=aM h;exact ⟨_,w,I,β,.inl (by simp[execOp]),Le.refl w I β hp,S,hs.ev hg ty x⟩
 case pick c x y=>
  have hc:=hs.ev hg ty c;cases xo:aO P A.aF ty sl c<;>rw[xo] at h hc<;>simp only at h<;>first|(cases h;done)|skip
  rename_i t;have ahe:=hc.kZ;have hx:=hs.ev hg ty x;have hy:=hs.ev hg ty y;have fin: ∀z:V,ai P w I β hp (if t then a.eval x else a.eval y) z→qO P ((execOp a.eval ⟨dst,.pick c x y,ty,pos,after,guard⟩).run P w) w I β hp B M w0 ⟨z,[]⟩:=by
   intro z hz;exact ⟨_,w,I,β,.inl (by simp[execOp,ahe,asBool]),Le.refl w I β hp,S,hz⟩
  cases Xh:gone (aO P A.aF ty sl x) with
  | true=>
   rw[Xh] at h;obtain ⟨h1,h⟩:=aD h;obtain rfl:=aM h;grind
  | false=>
   rw[Xh] at h;simp only[cond_false] at h;cases Ji:gone (aO P A.aF ty sl y) with
   | true=>
    rw[Ji] at h;obtain ⟨h1,h⟩:=aD h;obtain rfl:=aM h;grind
   | false=>
    rw[Ji] at h;obtain rfl:=aM h;exact fin _ (VP hx hy)
 case makeFunc fn x y=>
  cases fn<;>simp only[gL] at h<;>first|(cases h;done)|skip
  rename_i f;obtain rfl:=aM h;refine ⟨.func (.func f) (x.map a.eval) (y.map a.eval),w,I,β,.inl (by simp[execOp,Instr.makeFunc]),Le.refl w I β hp,S,.fn (by simp) (fun j v z hj hz=> ?_) (by simp) (fun j v z hj hz=> ?_)⟩
  ·rw[Array.getElem?_map] at hj;rw[jk,pF] at hz;cases hx:x[j]? with
   | none=>grind
   | some o1=>
    rw[hx] at hj hz;cases hj;cases hz;exact hs.ev hg ty o1
  ·rw[Array.getElem?_map] at hj;rw[jk,pF] at hz;cases hx:y[j]? with
   | none=>grind
   | some o1=>
    rw[hx] at hj hz;cases hj;cases hz;exact hs.ev hg ty o1
 case defer c=>cases Ds
 case makeMap t res=>
  cases res with
  | some x=>cases h
  | none=>exact .val rfl (agM S h)
 case lookup t m k ok=>
  cases ht:n7 P t with
  | none=>rw[ht] at h;cases h
  | some q=>
   obtain ⟨kt,vt⟩:=q;rw[ht] at h;exact .val (s:=Instr.lookup t (a.eval m) (a.eval k) ok) rfl (agL S ht (hs.ev hg t m) (hs.ev hg kt k) h)
 case mapUpdate t m k x=>
  cases ht:n7 P t with
  | none=>rw[ht] at h;cases h
  | some q=>
   obtain ⟨kt,vt⟩:=q;rw[ht] at h;have:=Xc S ht (hs.ev hg t m) (hs.ev hg kt k) (hs.ev hg vt x) h;exact this.op
 case insert t m k x=>
  cases ht:n7 P t with
  | none=>rw[ht] at h;cases h
  | some q=>
   obtain ⟨kt,vt⟩:=q;rw[ht] at h;have:=Xc S ht (hs.ev hg t m) (hs.ev hg kt k) (hs.ev hg vt x) h;exact this.op
 case alloc e=>
  cases dst with
  | none=>exact .val rfl (Wl S h)
  | some d=>
   simp only at h;cases sj:gK A.qz d with
   | true=>rw[sj] at h;exact .val rfl (aga S h)
   | false=>rw[sj] at h;exact .val rfl (Wl S h)
 case box e x=>
  exact .val rfl (af5 S (hs.ev hg e x) h)
 case build t ps=>exact .val rfl (af7 S hs hg h)
 case buildSlice t len ps=>
  cases hu:P.underlying t with
  | none=>rw[hu] at h;cases h
  | some d=>
   rw[hu] at h;cases d<;>simp only at h<;>first|(cases h;done)|skip
   cases dst with
   | none=>exact .val rfl (WC S hs hg hu h)
   | some d=>
    simp only at h;cases sj:gK A.qz d with
    | true=>rw[sj] at h;exact .val rfl (ags S hs hg hu h)
    | false=>rw[sj] at h;exact .val rfl (WC S hs hg hu h)
 case load t x=>exact .val rfl (afN S (hs.ev hg ty x) h)
 case store t x y=>
  have:=af4 S (hs.ev hg ty x) (hs.ev hg t y) h;exact this.op
 case nilCheck x=>
  have hx:=hs.ev hg ty x;cases gF:aO P A.aF ty sl x<;>rw[gF] at h hx<;>simp only at h<;>first|(cases h;done)|skip
  ·obtain ⟨⟨blk,ab,hd⟩,l,h⟩:=CT h;obtain rfl:=aM h;have cW:=hx;obtain ⟨b,hb,he⟩:=hx.gP ab hd;rw[he] at cW;exact ⟨_,w,I,β,.inl (by simp only[execOp,he];rfl),Le.refl w I β hp,S,cW⟩
  ·obtain rfl:=aM h;have cW:=hx;obtain ⟨b,o,he,_⟩:=hx.CU;rw[he] at cW;exact ⟨_,w,I,β,.inl (by simp only[execOp,he];rfl),Le.refl w I β hp,S,cW⟩
  ·obtain ⟨e0,es,vers,l,ab,h1,h2,h3,h⟩:=pR h;obtain rfl:=aM h;have cW:=hx;obtain ⟨b,o,he,_⟩:=hx.VK ab h1 h2 h3;rw[he] at cW;exact ⟨_,w,I,β,.inl (by simp only[execOp,he];rfl),Le.refl w I β hp,S,cW⟩
 case binOp op t x y yt=>
  have hx:=hs.ev hg t x;have hy:=hs.ev hg t y;refine .val (s:=do eqGuard op t x y (a.eval x) (a.eval y);binOp op t (a.eval x) (a.eval y)) rfl ?_;cases gF:aO P A.aF t sl x<;>cases sq:aO P A.aF t sl y<;>rw[gF,sq] at h<;>rw[gF] at hx<;>rw[sq] at hy<;>first|(simp only[lC] at h;cases h;done)|skip
  ·rw[hx.eY,hy.eY];have:=afE S h;simpa[afB] using this
  ·rw[hx.kZ,hy.kZ];have:=afG S h;simpa[afC] using this
  ·obtain ⟨s1,e1,l1⟩:=hx.nf;obtain ⟨s2,e2,l2⟩:=hy.nf;rw[e1,e2];rw[←l1,←l2] at h;have:=afH (t:=t) S h;simpa[afD] using this
  ·simp only[lC] at h;rw[hx.Xg,hy.Xg];cases hu:P.underlying t with
   | none=>rw[hu] at h;cases h
   | some d=>
    rw[hu] at h;cases d<;>(try (cases h;done))
    cases op<;>simp only at h<;>first|(cases h;done)|skip
    ·obtain rfl:=aM h;exact .same S (by simpa[eqGuard] using run_eql_slice_nil w _ _ none 0 0 hu) .bool
    ·obtain rfl:=aM h;exact .same S (by simpa[eqGuard] using run_neq_slice_nil w _ _ none 0 0 hu) .bool
  ·obtain ⟨cs,e1,h1,h2⟩:=hx.la;obtain ⟨ds,e2,h3,h4⟩:=hy.la;rw[e1,e2];exact afI S h1 h3 h2 h4 h
  ·
   simp only[lC] at h;obtain ⟨h1,h2⟩:=aD h;clear h;simp only[aK,aN] at h1;obtain ⟨rfl,rfl,rfl⟩:=h1;obtain ⟨⟨blk,ab,hd⟩,l,h⟩:=CT h2;obtain ⟨b,hb,e1⟩:=hx.gP ab hd;obtain ⟨b',ay,e2⟩:=hy.gP ab hd;rw[hb] at ay;cases ay;rw[e1,e2];exact Jg S h (by cases op<;>simp[eqGuard]) fun e j he hj=>⟨run_eql_ptr_same w _ he hj,Lib.run_neq_ptr_same w _ he hj⟩
  ·simp only[lC] at h;obtain ⟨⟨blk,ab,hd⟩,l,h⟩:=CT h;obtain ⟨b,_,e1⟩:=hx.gP ab hd;rw[e1,hy.Jf];exact Jg S h (by cases op<;>simp[eqGuard]) fun e j he hj=>⟨agZ w t e _ he,ag0 w t e _ he⟩
  ·simp only[lC] at h;obtain ⟨⟨blk,ab,hd⟩,l,h⟩:=CT h;obtain ⟨b,_,e1⟩:=hy.gP ab hd;rw[e1,hx.Jf];exact Jg S h (by cases op<;>simp[eqGuard]) fun e j he hj=>⟨ag1 w t e _ he,ag2 w t e _ he⟩
  ·simp only[lC] at h;rw[hx.Jf,hy.Jf];exact Jg S h (by cases op<;>simp[eqGuard]) fun e j he hj=>⟨ag3 w t e he,ag4 w t e he⟩
  ·
   simp only[lC] at h;obtain ⟨l,h⟩:=run_get h;split at h
   ·rename_i t2 es ab;obtain ⟨b,hb⟩:=hx.agQ ab;rw[hy.O5,hb];exact Xd (a:=some b) S x y h
   ·cases h
  ·simp only[lC] at h;rw[hx.O5,hy.O5];exact Xd (a:=none) S x y h
 case unOp op t x=>exact .val rfl (afJ S (hs.ev hg ty x) h)
 case convert src dst x=>
  have hx:=hs.ev hg ty x;refine .val (s:=convert src dst (a.eval x)) rfl ?_;cases jt:P.underlying src with
  | none=>rw[jt] at h;cases h
  | some d1=>
   cases mI:P.underlying dst with
   | none=>rw[jt,mI] at h;cases d1<;>cases h
   | some d2=>
    rw[jt,mI] at h;have iS: ∀{b:Nat} {T:TypeId} {cs:List V} {id:Nat},hp id=some (.var T cs)→β id=some b→w.shape? b=some (T,cs.length):=by
     intro b T cs id ab hb;have hr:=S.h.rel id _ ab;rw[hb] at hr;cases hr with
     | var ay hh aU _ _ _=>cases ay;simp[World.shape?,hh,aU]
    cases d1<;>(try (cases d2<;>cases h;done))
    ·cases d2<;>(try (cases h;done))<;>cases gF:aO P A.aF ty sl x<;>rw[gF] at h hx<;>simp only at h<;>first|(cases h;done)|skip
     ·obtain rfl:=aM h;rw[hx.eY];exact .same S (by simp[convert,run_underlying jt,run_underlying mI,Conv.intToInt]) .int
     ·obtain ⟨hc,h⟩:=aD h;obtain rfl:=aM h;rw[hx.eY];exact .same S (run_convert_int_string w src dst _ _ (by simp[jt]) mI) (.str (agY hc))
    ·cases d2<;>(try (cases h;done))
     rename_i u;cases gF:aO P A.aF ty sl x<;>rw[gF] at h hx<;>simp only at h<;>first|(cases h;done)|skip
     rename_i id i c;obtain ⟨l,h1⟩:=run_get h;cases ab:hp id with
     | none=>rw[ab] at h1;cases h1
     | some blk=>
      rw[ab] at h1;cases blk<;>simp only at h1<;>first|(cases h1;done)|skip
      rename_i T cs;obtain ⟨h2,h3⟩:=aD h1;simp only[aK,aN] at h2;obtain ⟨rfl,h4,h5⟩:=h2;obtain ⟨b,hb,e1⟩:=hx.gP ab (by simp);obtain rfl:=aM h3;obtain ⟨j,hj⟩:=zb.1 h4;have cW:=hx;rw[e1] at cW⊢;exact .same S (Lib.run_from_unsafe w _ jt mI hj (iS ab hb) (by grind)) cW
    ·cases d2<;>(try (cases h;done))
     rename_i t;cases gF:aO P A.aF ty sl x<;>rw[gF] at h hx<;>simp only at h<;>first|(cases h;done)|skip
     rename_i id i c;obtain ⟨l,h1⟩:=run_get h;cases ab:hp id with
     | none=>rw[ab] at h1;cases h1
     | some blk=>
      rw[ab] at h1;cases blk<;>simp only at h1<;>first|(cases h1;done)|skip
      rename_i T cs;obtain ⟨h2,h3⟩:=aD h1;simp only[aK,aN,nR] at h2;obtain ⟨rfl,h4,h5⟩:=h2;obtain ⟨b,hb,e1⟩:=hx.gP ab (by simp);obtain rfl:=aM h3;cases hj:P.info? t with
      | none=>grind
      | some j=>
       rw[hj] at h5;simp only[mn] at h5;have h6:j.size≠0:=fun e=>by simp_all
       have cW:=hx;rw[e1] at cW⊢;exact .same S (Lib.run_to_unsafe w _ jt mI hj h6 (iS ab hb) (by grind)) cW
    ·rename_i e;cases d2<;>(try (cases h;done))
     simp only at h;cases he:P.underlying e with
     | none=>rw[he] at h;cases h
     | some d3=>
      rw[he] at h;cases d3<;>(try (cases h;done))
      rename_i k;cases k<;>(try (cases h;done))
      exact agX S jt he mI hx h
 case fieldAddr s x f=>exact .val rfl (afK S (hs.ev hg ty x) h)
 case field s x f=>exact .val rfl (agt S (hs.ev hg ty x) h)
 case indexAddr t x y=>exact .val rfl (agA S (hs.ev hg ty x) (hs.ev hg 0 y) h)
 case index t x y=>
  have hx:=hs.ev hg ty x;have hy:=hs.ev hg 0 y;refine .val (s:=Instr.index t (a.eval x) (a.eval y)) rfl ?_;cases hu:P.underlying t with
  | none=>rw[hu] at h;cases h
  | some d=>
   rw[hu] at h;cases d<;>(try (cases h;done))
   ·cases gF:aO P A.aF ty sl x<;>rw[gF] at h hx<;>(try (cases h;done))
    cases sq:aO P A.aF 0 sl y<;>rw[sq] at h hy<;>(try (cases h;done))
    obtain ⟨s,e1,l1⟩:=hx.nf;rw[e1,hy.eY];exact agv S hu l1 h
   ·cases gF:aO P A.aF ty sl x<;>rw[gF] at h hx<;>(try (cases h;done))
    cases sq:aO P A.aF 0 sl y<;>rw[sq] at h hy<;>(try (cases h;done))
    rw[hy.eY];exact agw S hu hx h
 case slice t x lo hi mx=>
  cases mx with
  | some m=>
   simp only at h;refine .val (s:=Instr.sliceAt t (a.eval x) (lo.map a.eval) (hi.map a.eval) (some (a.eval m))) (by simp[execOp]) (agz S (hs.ev hg ty x) (fun hy=> ?_) (fun y hy=> ?_) (fun y hy=> ?_) h)
   ·simp_all
   ·cases hi with
    | none=>cases hy
    | some l=>cases hy;exact ⟨_,rfl,hs.ev hg 0 l⟩
   ·cases hy;exact ⟨_,rfl,hs.ev hg 0 m⟩
  | none=>
   simp only at h;have plain:(Ij P t (aO P A.aF ty sl x) (lo.map (aO P A.aF 0 sl)) (hi.map (aO P A.aF 0 sl))).run C hp=some (r,rd)→qO P ((execOp a.eval ⟨dst,.slice t x lo hi none,ty,pos,after,guard⟩).run P w) w I β hp B M w0 r:=by
    intro h;refine .val (s:=Instr.sliceAt t (a.eval x) (lo.map a.eval) (hi.map a.eval) none) (by simp[execOp]) (agy S (hs.ev hg ty x) (fun y hy=> ?_) (fun y hy=> ?_) (fun hy=> ?_) (fun hy=> ?_) h)
    ·cases lo with
     | none=>cases hy
     | some l=>cases hy;exact ⟨_,rfl,hs.ev hg 0 l⟩
    ·cases hi with
     | none=>cases hy
     | some l=>cases hy;exact ⟨_,rfl,hs.ev hg 0 l⟩
    all_goals simp_all
   have tr:(Ik P nb t (aO P A.aF ty sl x) (lo.map (aO P A.aF 0 sl)) (hi.map (aO P A.aF 0 sl))).run C hp=some (r,rd)→qO P ((execOp a.eval ⟨dst,.slice t x lo hi none,ty,pos,after,guard⟩).run P w) w I β hp B M w0 r:=by
    intro h;refine .val (s:=Instr.sliceAt t (a.eval x) (lo.map a.eval) (hi.map a.eval) none) (by simp[execOp]) (agD S (hs.ev hg ty x) (fun y hy=> ?_) (fun hy=> ?_) h)
    ·cases hi with
     | none=>cases hy
     | some l=>cases hy;exact ⟨_,rfl,hs.ev hg 0 l⟩
    simp_all
   grind
 case extract x i=>
  have hx:=hs.ev hg ty x;cases gF:aO P A.aF ty sl x<;>rw[gF] at h hx<;>simp only at h<;>first|(cases h;done)|skip
  exact .val (s:=Instr.extract (a.eval x) i) rfl (agu S hx h)
 case makeSlice t l c=>
  have hl:=hs.ev hg 0 l;have hc:=hs.ev hg 0 c;refine .val (s:=Instr.makeSlice t (a.eval l) (a.eval c)) rfl ?_;cases hu:P.underlying t with
  | none=>rw[hu] at h;cases h
  | some d=>
   rw[hu] at h;cases d<;>(try (cases h;done))
   cases Pd:aO P A.aF 0 sl l<;>rw[Pd] at h hl<;>(try (cases h;done))
   cases xo:aO P A.aF 0 sl c<;>rw[xo] at h hc<;>(try (cases h;done))
   rw[hl.eY,hc.eY];cases dst with
   | none=>exact WD S hu h
   | some d=>
    simp only at h;cases hg:gK A.qz d with
    | true=>rw[hg] at h;exact agc S hu h
    | false=>rw[hg] at h;exact WD S hu h
 case call c=>
  obtain ⟨callee,args,argTypes⟩:=c;cases callee with
  | invoke r m=>cases h
  | value f=>
   cases f with
   | func f=>cases Ds
   | tmp f=>cases Ds
   | _=>cases h
  | builtin b=>
   have one: ∀{x:Operand},args.toList=[x]→args= #[x]:=fun h=>by grind
   have ud: ∀(s:Array TypeId→TypeId→Array Value→Sem Value),builtin b argTypes ty (args.map fun| .const _=>true|_=>false) (args.map a.eval)=(do Pure.pure (Next.value (←s argTypes ty (args.map a.eval))))→
     execOp a.eval ⟨dst,.call ⟨.builtin b,args,argTypes⟩,ty,pos,after,guard⟩=(do Pure.pure (Next.value (←s argTypes ty (args.map a.eval)))):=by
    intro s hb;simp only[execOp,resolve,pure_bind,invoke];exact hb
   cases b<;>(try (cases h;done))
   case append=>
    simp only at h;cases ha:args.toList with
    | nil=>rw[ha] at h;cases h
    | cons x l=>
     cases l with
     | nil=>rw[ha] at h;cases h
     | cons y l2=>
      cases l2 with
      | cons _ _=>rw[ha] at h;cases h
      | nil=>
       cases eX:argTypes.toList with
       | nil=>rw[ha,eX] at h;cases h
       | cons t l3=>
        cases l3 with
        | nil=>rw[ha,eX] at h;cases h
        | cons u l4=>
         cases l4 with
         | cons _ _=>rw[ha,eX] at h;cases h
         | nil=>
          rw[ha,eX] at h;simp only at h;have e1:args= #[x,y]:=by grind
          have e2:argTypes= #[t,u]:=by grind
          cases hu:P.underlying t with
          | none=>rw[hu] at h;cases h
          | some d=>
           rw[hu] at h;cases d<;>(try (cases h;done))
           cases hc:Nat.beq t u with
           | true=>
            rw[hc] at h;rw[aN] at hc;subst hc;simp only[cond_true] at h;refine .val (ud Builtin.append_ rfl) ?_;rw[e1,e2];cases dst with
            | none=>
             have:=WN (ty:=ty) S hu (hs.ev hg t x) (hs.ev hg t y) h;grind
            | some d=>
             simp only at h;cases sj:gK A.qz d with
             | true=>
              rw[sj] at h;have:=agm (ty:=ty) S hu (hs.ev hg t x) (hs.ev hg t y) h;grind
             | false=>
              rw[sj] at h;have:=WN (ty:=ty) S hu (hs.ev hg t x) (hs.ev hg t y) h;grind
           | false=>
            rw[hc] at h;simp only[cond_false] at h;have hy:=hs.ev hg u y;cases qY:P.underlying u with
            | none=>rw[qY] at h;cases h
            | some du=>
             rw[qY] at h;cases du<;>(try (cases h;done))
             cases sq:aO P A.aF u sl y<;>rw[sq] at h hy<;>(try (cases h;done))
             simp only at h;obtain ⟨hb,h⟩:=aD h;obtain ⟨s1,q1,q2⟩:=hy.nf;subst q2;have:=agV (ty:=ty) S hu qY (ag6 hb) (hs.ev hg t x) h;refine .val (ud Builtin.append_ rfl) ?_;grind
   case len=>
    simp only at h;cases ha:args.toList with
    | nil=>rw[ha] at h;cases h
    | cons x l=>
     cases l with
     | cons _ _=>rw[ha] at h;cases h
     | nil=>
      cases eX:argTypes.toList with
      | nil=>rw[ha,eX] at h;cases h
      | cons t l3=>
       cases l3 with
       | cons _ _=>rw[ha,eX] at h;cases h
       | nil=>
        rw[ha,eX] at h;simp only at h;have e1:args= #[x]:=by grind
        have e2:argTypes= #[t]:=by grind
        have hx:=hs.ev hg ty x;refine .val (ud Builtin.len_ rfl) ?_;rw[e1,e2];cases hu:P.underlying t with
        | none=>rw[hu] at h;cases h
        | some d=>
         rw[hu] at h;cases d<;>(try (cases h;done))
         ·cases gF:aO P A.aF ty sl x<;>rw[gF] at h hx<;>(try (cases h;done))
          have:=VQ (t:=t) (ty:=ty) S hx (fun l hl=>hu) (fun hn=>absurd rfl (hn _)) h;grind
         ·have h2:(∀l,aO P A.aF ty sl x≠ .str l)∧(Ib P (aO P A.aF ty sl x)).run C hp=some (r,rd):=by
           cases gF:aO P A.aF ty sl x<;>rw[gF] at h<;>first|(cases h;done)|exact ⟨fun l=>by simp,h⟩
          have:=VQ (t:=t) (ty:=ty) S hx (fun l hl=>absurd hl (h2.1 l)) (fun _=>⟨_,hu⟩) h2.2;grind
         ·have h2:(Ii (aO P A.aF ty sl x)).run C hp=some (r,rd):=by
           omega
          have:=agP (t:=t) (ty:=ty) S hu hx h2;grind
   case unsafeSliceData=>
    simp only at h;cases ha:args.toList with
    | nil=>rw[ha] at h;cases h
    | cons x l=>
     cases l with
     | cons _ _=>rw[ha] at h;cases h
     | nil=>
      rw[ha] at h;simp only at h;have e1:args= #[x]:=by grind
      have hx:=hs.ev hg ty x;refine .val (ud Builtin.unsafeSliceData_ rfl) ?_;rw[e1];cases gF:aO P A.aF ty sl x<;>rw[gF] at h hx<;>simp only at h<;>first|(cases h;done)|skip
      rename_i e id;obtain ⟨l2,h1⟩:=run_get h;cases ab:hp id with
      | none=>rw[ab] at h1;cases h1
      | some blk=>
       rw[ab] at h1;cases blk<;>simp only at h1<;>first|(cases h1;done)|skip
       rename_i e' es fz;obtain ⟨h2,h3⟩:=aD h1;simp only[aK,aN,nR] at h2;obtain ⟨rfl,h4⟩:=h2;obtain rfl:=aM h3;have:=ag7 (ts:=argTypes) (ty:=ty) S hx ab h4;grind
   case unsafeString=>
    simp only at h;cases ha:args.toList with
    | nil=>rw[ha] at h;cases h
    | cons x l=>
     cases l with
     | nil=>rw[ha] at h;cases h
     | cons y l2=>
      cases l2 with
      | cons _ _=>rw[ha] at h;cases h
      | nil=>
       cases eX:argTypes.toList with
       | nil=>rw[ha,eX] at h;cases h
       | cons t l3=>
        cases l3 with
        | nil=>rw[ha,eX] at h;cases h
        | cons u l4=>
         cases l4 with
         | cons _ _=>rw[ha,eX] at h;cases h
         | nil=>
          rw[ha,eX] at h;simp only at h;have e1:args= #[x,y]:=by grind
          have e2:argTypes= #[t,u]:=by grind
          have hx:=hs.ev hg ty x;have hy:=hs.ev hg ty y;cases hu:P.underlying t with
          | none=>rw[hu] at h;cases h
          | some d=>
           rw[hu] at h;cases d<;>(try (cases h;done))
           rename_i e;cases gF:aO P A.aF ty sl x<;>rw[gF] at h hx<;>(try (cases h;done))
           cases sq:aO P A.aF ty sl y<;>rw[sq] at h hy<;>(try (cases h;done))
           rename_i id i c k n;cases k<;>(try (cases h;done))
           simp only at h;obtain ⟨l2,h1⟩:=run_get h;cases ab:hp id with
           | none=>rw[ab] at h1;cases h1
           | some blk=>
            rw[ab] at h1;cases blk<;>simp only at h1<;>first|(cases h1;done)|skip
            rename_i e' es fz;cases fz<;>simp only at h1<;>first|(cases h1;done)|skip
            obtain ⟨h2,h3⟩:=aD h1;simp only[aK,aN,fk,fQ] at h2;obtain ⟨rfl,h4,rfl,rfl,h5,h6,h7,h8⟩:=h2;obtain rfl:=aM h3;have:=ahc (u:=u) (ty:=ty) S hu h4 hx ab h5 h6 h7 h8;refine .val (ud Builtin.unsafeString_ rfl) ?_;rw[e1,e2];simpa[hy.eY] using this
   case copy=>
    simp only at h;cases ha:args.toList with
    | nil=>rw[ha] at h;cases h
    | cons x l=>
     cases l with
     | nil=>rw[ha] at h;cases h
     | cons y l2=>
      cases l2 with
      | cons _ _=>rw[ha] at h;cases h
      | nil=>
       cases eX:argTypes.toList with
       | nil=>rw[ha,eX] at h;cases h
       | cons t l3=>
        cases l3 with
        | nil=>rw[ha,eX] at h;cases h
        | cons u l4=>
         cases l4 with
         | cons _ _=>rw[ha,eX] at h;cases h
         | nil=>
          rw[ha,eX] at h;simp only at h;have e1:args= #[x,y]:=by grind
          have e2:argTypes= #[t,u]:=by grind
          cases hu:P.underlying t with
          | none=>rw[hu] at h;cases h
          | some d=>
           rw[hu] at h;cases d<;>(try (cases h;done))
           have:=agj (u:=u) (ty:=ty) S hu (hs.ev hg t x) (hs.ev hg u y) h;refine .val (ud Builtin.copy_ rfl) ?_;grind
   case clear=>
    simp only at h;cases ha:args.toList with
    | nil=>rw[ha] at h;cases h
    | cons x l=>
     cases l with
     | cons _ _=>rw[ha] at h;cases h
     | nil=>
      cases eX:argTypes.toList with
      | nil=>rw[ha,eX] at h;cases h
      | cons t l3=>
       cases l3 with
       | cons _ _=>rw[ha,eX] at h;cases h
       | nil=>
        rw[ha,eX] at h;simp only at h;have e1:args= #[x]:=by grind
        have e2:argTypes= #[t]:=by grind
        cases hu:P.underlying t with
        | none=>rw[hu] at h;cases h
        | some d=>
         rw[hu] at h;cases d<;>(try (cases h;done))
         have:=agk (ty:=ty) S hu (hs.ev hg t x) h;refine .val (ud Builtin.clear_ rfl) ?_;grind
   case max=>
    simp only at h;cases ha:args.toList with
    | nil=>rw[ha] at h;cases h
    | cons x l=>
     rw[ha] at h;simp only at h;have:=OR S true (vs:=l.map a.eval) (xs:=l.map (aO P A.aF ty sl)) (hs.ev hg ty x) (by simp) (fun j u y hu hy=>by
      simp only[jk] at hu hy;cases hl:l[j]? with
      | none=>grind
      | some z=>rw[hl] at hu hy;cases hu;cases hy;exact hs.ev hg ty z) h
     refine .val (ud Builtin.max_ rfl) ?_;simpa[Builtin.max_,ha] using this
   case min=>
    simp only at h;cases ha:args.toList with
    | nil=>rw[ha] at h;cases h
    | cons x l=>
     rw[ha] at h;simp only at h;have:=OR S false (vs:=l.map a.eval) (xs:=l.map (aO P A.aF ty sl)) (hs.ev hg ty x) (by simp) (fun j u y hu hy=>by
      simp only[jk] at hu hy;cases hl:l[j]? with
      | none=>grind
      | some z=>rw[hl] at hu hy;cases hu;cases hy;exact hs.ev hg ty z) h
     refine .val (ud Builtin.min_ rfl) ?_;simpa[Builtin.min_,ha] using this
end
section
variable {P:Program} {A:di} {w w':World} {I I' I2:Nat→Nat→Prop} {μ β β':Nat→Option Nat} {hp hp':Nat→Option ag} {C:af} {B:Nat} {M:Nat→Prop} {w0:Start}
theorem xw: ∀{l m:List Nat},fp.pO l m=true→l=m
 | [],[],_=>rfl
 | [],_::_,h=>by cases h
 | _::_,[],h=>by cases h
 | a::l,b::m,h=>by
  simp only[fp.pO,aK,aN] at h;rw[h.1,xw h.2]
@[simp] theorem Xi (n:Nat):m8 (fo n)=n:=by simp[m8,fo,V.toInt]
theorem Jj: ∀(path:List (Nat×Nat)) (rest:List V),Cs (path.map (·.2)) ((path.map fun p=>fo p.1)++rest)=path
 | [],_=>rfl
 | p::l,rest=>by
  simp only[iQ,List.cons_append,Cs,V.nth,Xi,pH,lx,Jj l rest]
theorem Jk {l:LS} {x:V} {ds:List V} (h:fp l x=some ds):ds.length=l.size∧(l= .tu∨∀rest,jQ l (ds++rest)=x):=by
 cases l with
 | tu=>simp only[fp,ey] at h;subst h;exact ⟨rfl,.inl rfl⟩
 | int k=>
  cases x<;>simp only[fp] at h<;>first|(cases h;done)|skip
  rename_i k' n;by_cases hk:k=k'
  ·subst hk;simp only[y8,cond_true,ey] at h;subst h;exact ⟨rfl,.inr fun _=>rfl⟩
  grind
 | bool=>
  cases x<;>simp only[fp] at h<;>first|(cases h;done)|skip
  cases h;exact ⟨rfl,.inr fun _=>rfl⟩
 | str=>
  cases x<;>simp only[fp] at h<;>first|(cases h;done)|skip
  cases h;exact ⟨rfl,.inr fun _=>rfl⟩
 | list e=>
  cases x<;>simp only[fp] at h<;>first|(cases h;done)|skip
  rename_i e' es;cases hb:Nat.beq e e' with
  | false=>grind
  | true=>
   rw[hb] at h;rw[aN] at hb;subst hb;cases h;exact ⟨rfl,.inr fun _=>rfl⟩
 | whole e j=>
  cases x<;>simp only[fp] at h<;>first|(cases h;done)|skip
  rename_i e' id;cases hb:(Nat.beq e e'&&Nat.beq j id) with
  | false=>grind
  | true=>
   rw[hb] at h;simp only[aK,aN] at hb;obtain ⟨rfl,rfl⟩:=hb;cases h;exact ⟨rfl,.inr fun _=>rfl⟩
 | sub e j=>
  cases x<;>simp only[fp] at h<;>first|(cases h;done)|skip
  rename_i e' id o n;cases hb:(Nat.beq e e'&&Nat.beq j id) with
  | false=>grind
  | true=>
   rw[hb] at h;simp only[aK,aN] at hb;obtain ⟨rfl,rfl⟩:=hb;cases h;exact ⟨rfl,.inr fun _=>by simp[jQ,V.nth]⟩
 | ptr j=>
  cases x<;>simp only[fp] at h<;>first|(cases h;done)|skip
  rename_i id i c;cases hb:(Nat.beq j id) with
  | false=>grind
  | true=>
   rw[hb] at h;rw[aN] at hb;subst hb;cases h;exact ⟨rfl,.inr fun _=>by simp[jQ,V.nth]⟩
 | aG j i c=>
  cases x<;>simp only[fp] at h<;>first|(cases h;done)|skip
  rename_i id i' c';cases hb:(Nat.beq j id&&(Nat.beq i i'&&Nat.beq c c')) with
  | false=>grind
  | true=>
   rw[hb] at h;simp only[aK,aN] at hb;obtain ⟨rfl,rfl,rfl⟩:=hb;cases h;exact ⟨rfl,.inr fun _=>rfl⟩
 | nilS e=>
  cases x<;>simp only[fp] at h<;>first|(cases h;done)|skip
  rename_i e';cases hb:Nat.beq e e' with
  | false=>grind
  | true=>
   rw[hb] at h;rw[aN] at hb;subst hb;cases h;exact ⟨rfl,.inr fun _=>rfl⟩
 | eg=>
  cases x<;>simp only[fp] at h<;>first|(cases h;done)|skip
  cases h;exact ⟨rfl,.inr fun _=>rfl⟩
 | cN e j=>
  cases x<;>simp only[fp] at h<;>first|(cases h;done)|skip
  rename_i e' id;cases hb:(Nat.beq e e'&&Nat.beq j id) with
  | false=>grind
  | true=>
   rw[hb] at h;simp only[aK,aN] at hb;obtain ⟨rfl,rfl⟩:=hb;cases h;exact ⟨rfl,.inr fun _=>rfl⟩
 | eu e=>
  cases x<;>simp only[fp] at h<;>first|(cases h;done)|skip
  rename_i e';cases hb:Nat.beq e e' with
  | false=>grind
  | true=>
   rw[hb] at h;rw[aN] at hb;subst hb;cases h;exact ⟨rfl,.inr fun _=>rfl⟩
 | Ck k n=>
  cases x<;>simp only[fp] at h<;>first|(cases h;done)|skip
  rename_i k' m;cases hb:(decide (k=k')&&decide (m=n)) with
  | false=>grind
  | true=>
   rw[hb] at h;simp only[aK,fQ] at hb;obtain ⟨rfl,rfl⟩:=hb;cases h;exact ⟨rfl,.inr fun _=>rfl⟩
 | H5 b=>
  cases x<;>simp only[fp] at h<;>first|(cases h;done)|skip
  rename_i c;cases hb:decide (b=c) with
  | false=>grind
  | true=>
   rw[hb] at h;obtain rfl:=of_decide_eq_true hb;cases h;exact ⟨rfl,.inr fun _=>rfl⟩
 | row e j cs=>
  cases x<;>simp only[fp] at h<;>first|(cases h;done)|skip
  rename_i e' id ver path;cases hb:(Nat.beq e e'&&(Nat.beq j id&&(Nat.beq ver 0&&fp.pO cs (path.map (·.2))))) with
  | false=>grind
  | true=>
   rw[hb] at h;simp only[aK,aN] at hb;obtain ⟨rfl,rfl,rfl,qP⟩:=hb;have:=xw qP;subst this;cases h;exact ⟨by simp[LS.size],.inr fun rest=>by simp only[jQ,Jj]⟩
 | dq j cs c=>
  cases x<;>simp only[fp] at h<;>first|(cases h;done)|skip
  rename_i id ver path i c';cases hb:(Nat.beq j id&&(Nat.beq ver 0&&(Nat.beq c c'&&fp.pO cs (path.map (·.2))))) with
  | false=>grind
  | true=>
   rw[hb] at h;simp only[aK,aN] at hb;obtain ⟨rfl,rfl,rfl,qP⟩:=hb;have:=xw qP;subst this;cases h;exact ⟨by simp[LS.size],.inr fun rest=>by simp only[jQ,List.cons_append,V.nth,Xi,pH,lx,Jj]⟩
def LS.below (n:Nat) (x:V):Prop:= ∀id∈eM x,id<n
def Xj:V→Prop
 | .agg _=>False
 | .aX _=>False
 | .fn .. =>False
 | .pref .. =>False
 | _=>True
theorem xx {c:Bool} {a d:List V} (h:(bif c then some a else none)=some d):c=true:=by
 grind
theorem ahf {l:LS} {x:V} {ds:List V} {n:Nat} (h:fp l x=some ds) (hl:l≠ .tu) (au:l.ok n=true):Xj x∧LS.below n x:=by
 cases l<;>cases x<;>simp only[fp] at h<;>first|(cases h;done)|(exact absurd rfl hl)|skip
 all_goals refine ⟨trivial,fun id ab=> ?_⟩
 all_goals simp only[eM,fl,List.not_mem_nil] at ab
 all_goals subst ab
 all_goals simp only[LS.ok,nR] at au
 all_goals
  have hb:=xx h;simp_all
theorem ai.ahg {v:Value} {x:V} (h:ai P w I β hp v x) (hx:Xj x) (hs: ∀id∈eM x,hp' id=hp id∧β' id=β id):ai P w I β' hp' v x:=by
 have one: ∀{id},id∈eM x→hp' id=hp id∧β' id=β id:=fun h=>hs _ h;cases h with
 | undef=>exact .undef
 | int=>exact .int
 | bool=>exact .bool
 | str h=>exact .str h
 | list h=>exact .list h
 | nilS=>exact .nilS
 | agg=>exact hx.elim
 | aX=>exact hx.elim
 | eg=>exact .eg
 | fn=>exact hx.elim
 | pref=>exact hx.elim
 | dH h=>exact .dH ((one (by simp[eM])).1.trans h)
 | ij h=>exact .ij ((one (by simp[eM])).1.trans h)
 | kS h=>exact .kS ((one (by simp[eM])).1.trans h)
 | dD h hb=>exact .dD ((one (by simp[eM])).1.trans h) ((one (by simp[eM])).2.trans hb)
 | whole h hb a b c=>exact .whole ((one (by simp[eM])).1.trans h) ((one (by simp[eM])).2.trans hb) a b c
 | dw h hb a b c=>exact .dw ((one (by simp[eM])).1.trans h) ((one (by simp[eM])).2.trans hb) a b c
 | dO h hb=>exact .dO ((one (by simp[eM])).1.trans h) ((one (by simp[eM])).2.trans hb)
 | eB h hb a b c=>exact .eB ((one (by simp[eM])).1.trans h) ((one (by simp[eM])).2.trans hb) a b c
 | gC h hb=>exact .gC ((one (by simp[eM])).1.trans h) ((one (by simp[eM])).2.trans hb)
 | sub h hb a b c=>exact .sub ((one (by simp[eM])).1.trans h) ((one (by simp[eM])).2.trans hb) a b c
 | ptr h hd hb=>exact .ptr ((one (by simp[eM])).1.trans h) hd ((one (by simp[eM])).2.trans hb)
 | kU h tW=>exact .kU ((one (by simp[eM])).1.trans h) tW
 | kV h tW=>exact .kV ((one (by simp[eM])).1.trans h) tW
 | row h hb a b c d=>exact .row ((one (by simp[eM])).1.trans h) ((one (by simp[eM])).2.trans hb) a b c d
 | dq h hb a b c d e=>exact .dq ((one (by simp[eM])).1.trans h) ((one (by simp[eM])).2.trans hb) a b c d e
 | eu=>exact .eu
 | jV h=>exact .jV ((one (by simp[eM])).1.trans h)
 | cN h hb=>exact .cN ((one (by simp[eM])).1.trans h) ((one (by simp[eM])).2.trans hb)
theorem Jl {a b:List V} {n:Nat} (h:a.length=n):(a++b).drop n=b:=by subst h;simp
def Dt (n:Nat) (β:Nat→Option Nat) (hp:Nat→Option ag) (β':Nat→Option Nat) (hp':Nat→Option ag):Prop:= ∀id,id<n→hp' id=hp id∧β' id=β id
theorem Xk {l:LS} {x:V} {ds:List V} {n:Nat} {v:Value} (h:fp l x=some ds) (au:l.ok n=true) (iY:Dt n β hp β' hp') (hv:ai P w I β hp v x) (rest:List V):
  ai P w I β' hp' v (jQ l (ds++rest)):=by
 rcases (Jk h).2 with e|e
 ·subst e;exact .undef
 ·rw[e rest];by_cases hu:l= .tu
  ·subst hu;have:x= .undef:=(e rest).symm;subst this;exact .undef
  ·obtain ⟨h1,h2⟩:=ahf h hu au;exact hv.ahg h1 fun id ab=>iY id (h2 id ab)
theorem Du {n:Nat} (iY:Dt n β hp β' hp'): ∀{ls:List LS} {xs:List V} {ds:List V},rP ls xs=some ds→ls.all (LS.ok n)=true→
  ds.length=lE ls∧(∀rest,(gA ls (ds++rest)).length=xs.length)∧
  ∀(rest:List V) (j:Nat) (v:Value) (y:V),(∀x,xs[j]? =some x→ai P w I β hp v x)→(gA ls (ds++rest))[j]? =some y→ai P w I β' hp' v y
 | [],[],ds,h,_=>by cases h;exact ⟨rfl,fun _=>rfl,fun rest j v y _ hy=>by simp[gA] at hy⟩
 | [],_::_,ds,h,_=>by cases h
 | _::_,[],ds,h,_=>by cases h
 | l::ls,x::xs,ds,h,au=>by
  simp only[rP] at h;obtain ⟨a,h1,h⟩:=bind_some h;obtain ⟨b,h2,h⟩:=bind_some h;cases h;simp only[List.all_cons,aK] at au;obtain ⟨i1,i2,i3⟩:=Du iY h2 au.2;have dc:=(Jk h1).1;have hd: ∀rest,(a++b++rest).drop l.size=b++rest:=fun rest=>by grind
  refine ⟨by simp only[gI,lE];omega,fun rest=>by simp only[gA,List.length_cons,hd,i2],fun rest j v y hv hy=> ?_⟩;simp only[gA,hd] at hy;cases j with
  | zero=>
   simp at hy;subst hy;exact Xk h1 au.1 iY (hv x rfl) _
  | succ j=>grind
theorem Pe: ∀{ls:List LS} {xs:List V} {ds:List V},rP ls xs=some ds→ls.all LS.plain=true→ds.length=lE ls∧∀rest,gA ls (ds++rest)=xs
 | [],[],ds,h,_=>by cases h;exact ⟨rfl,fun _=>rfl⟩
 | [],_::_,ds,h,_=>by cases h
 | _::_,[],ds,h,_=>by cases h
 | l::ls,x::xs,ds,h,au=>by
  simp only[rP] at h;obtain ⟨a,h1,h⟩:=bind_some h;obtain ⟨b,h2,h⟩:=bind_some h;cases h;simp only[List.all_cons,aK] at au;obtain ⟨i1,i2⟩:=Pe h2 au.2;obtain ⟨dc,hm⟩:=Jk h1;refine ⟨by simp only[gI,lE];omega,fun rest=> ?_⟩;simp only[gA];rw[show (a++b++rest).drop l.size=b++rest by grind,i2,jO];rcases hm with e|e
  ·subst e;cases au.1
  ·rw[e]
theorem Pf {n:Nat} (iY:Dt n β hp β' hp') {s:VS} {x:V} {ds:List V} (h:rQ s x=some ds) (au:s.ok n=true):
  ds.length=s.size∧∀(rest:List V) (v:Value),ai P w I β hp v x→ai P w I β' hp' v (mw s (ds++rest)):=by
 cases s with
 | one l=>exact ⟨(Jk h).1,fun rest v hv=>Xk h au iY hv rest⟩
 | agg ls=>
  cases x<;>simp only[rQ] at h<;>first|(cases h;done)|skip
  rename_i xs;obtain ⟨i1,i2,i3⟩:=Du (P:=P) (w:=w) (I:=I) iY h au;refine ⟨i1,fun rest v hv=> ?_⟩;obtain ⟨cs,rfl,e1,e2⟩:=hv.la;exact .agg (by grind) fun j v y hj hy=>i3 rest j v y (fun x hx=>e2 j v x hj hx) hy
 | aX ls=>
  cases x<;>simp only[rQ] at h<;>first|(cases h;done)|skip
  rename_i xs;obtain ⟨i1,i2,i3⟩:=Du (P:=P) (w:=w) (I:=I) iY h au;refine ⟨i1,fun rest v hv=> ?_⟩;obtain ⟨cs,rfl,e1,e2⟩:=hv.xg;exact .aX (by grind) fun j v y hj hy=>i3 rest j v y (fun x hx=>e2 j v x hj hx) hy
 | fn f a b=>
  cases x<;>simp only[rQ] at h<;>first|(cases h;done)|skip
  rename_i f' xs ys;cases hb:Nat.beq f f' with
  | false=>grind
  | true=>
   rw[hb] at h;rw[aN] at hb;subst hb;simp only[cond_true] at h;obtain ⟨p,h1,h⟩:=bind_some h;obtain ⟨q,h2,h⟩:=bind_some h;cases h;simp only[VS.ok,aK] at au;obtain ⟨i1,i2,i3⟩:=Du (P:=P) (w:=w) (I:=I) iY h1 au.1;obtain ⟨j1,j2,j3⟩:=Du (P:=P) (w:=w) (I:=I) iY h2 au.2;refine ⟨by simp only[gI,VS.size];omega,fun rest v hv=> ?_⟩;cases hv with
   | fn a1 a2 b1 b2=>
    simp only[mw];rw[show (p++q++rest).drop (lE a)=q++rest by grind,jO];exact .fn (by grind) (fun j v y hj hy=>i3 _ j v y (fun x hx=>a2 j v x hj hx) hy) (by grind) (fun j v y hj hy=>j3 _ j v y (fun x hx=>b2 j v x hj hx) hy)
 | pref ts ls=>
  cases x<;>simp only[rQ] at h<;>first|(cases h;done)|skip
  rename_i rR xs;cases hb:fp.pO ts rR with
  | false=>grind
  | true=>
   rw[hb] at h;have:=xw hb;subst this;simp only[cond_true] at h;refine ⟨?_,fun rest v hv=> ?_⟩
   ·exact (Pe h au).1
   ·simp only[mw];rw[(Pe h au).2];cases hv with
    | pref hl hI hc=>exact .pref hl hI hc
theorem Dv {n:Nat} (iY:Dt n β hp β' hp'): ∀{ls:List VS} {xs:List V} {ds:List V},tk ls xs=some ds→ls.all (VS.ok n)=true→
  ds.length=vr ls∧(∀rest,(ia ls (ds++rest)).length=xs.length)∧
  ∀(rest:List V) (j:Nat) (v:Value) (y:V),(∀x,xs[j]? =some x→ai P w I β hp v x)→(ia ls (ds++rest))[j]? =some y→ai P w I β' hp' v y
 | [],[],ds,h,_=>by cases h;exact ⟨rfl,fun _=>rfl,fun rest j v y _ hy=>by simp[ia] at hy⟩
 | [],_::_,ds,h,_=>by cases h
 | _::_,[],ds,h,_=>by cases h
 | l::ls,x::xs,ds,h,au=>by
  simp only[tk] at h;obtain ⟨a,h1,h⟩:=bind_some h;obtain ⟨b,h2,h⟩:=bind_some h;cases h;simp only[List.all_cons,aK] at au;obtain ⟨i1,i2,i3⟩:=Dv iY h2 au.2;obtain ⟨dc,Dm⟩:=Pf (P:=P) (w:=w) (I:=I) iY h1 au.1;have hd: ∀rest,(a++b++rest).drop l.size=b++rest:=fun rest=>by grind
  refine ⟨by simp only[gI,vr];omega,fun rest=>by simp only[ia,List.length_cons,hd,i2],fun rest j v y hv hy=> ?_⟩;simp only[ia,hd] at hy;grind
end
section
variable {P:Program} {A:di} {w w':World} {I I' I2:Nat→Nat→Prop} {μ β β':Nat→Option Nat} {hp hp' hp0:Nat→Option ag} {C:af} {B:Nat} {M:Nat→Prop} {w0:Start}
theorem jA: ∀{l:List ag} {j:Nat},lF l j=l[j]?
 | [],j=>by simp[lF]
 | b::l,0=>rfl
 | b::l,j+1=>by simp only[lF,jA,List.getElem?_cons_succ]
theorem Pg {sl:Nat→V} {k:Nat} {y:V}: ∀{l:List (Nat×VS)} {ds:List V},Cq sl l=some ds→(∀p∈l,∀d,rQ p.2 (sl p.1)=some d→d.length=p.2.size)→
  ds.length=qB l∧∀rest,eL (gB l (ds++rest)) k=some y→∃s d iG,(k,s)∈l∧rQ s (sl k)=some d∧y=mw s (d++iG)
 | [],ds,h,_=>by cases h;exact ⟨rfl,fun rest h=>by cases h⟩
 | (q,s)::l,ds,h,hz=>by
  simp only[Cq] at h;obtain ⟨a,h1,h⟩:=bind_some h;obtain ⟨b,h2,h⟩:=bind_some h;cases h;obtain ⟨i1,i2⟩:=Pg (k:=k) (y:=y) h2 fun p hp=>hz p (ka _ hp);have dc:=hz (q,s) (zc ..) a h1;refine ⟨by simp only[gI,qB];simp only at dc;omega,fun rest hl=> ?_⟩;simp only[gB,eL] at hl;rw[show (a++b++rest).drop s.size=b++rest by rw[jO];exact Jl dc] at hl;cases hb:Nat.beq k q with
  | true=>
   rw[hb] at hl;rw[aN] at hb;subst hb;cases hl;exact ⟨s,a,b++rest,zc ..,h1,by rw[jO]⟩
  | false=>
   rw[hb] at hl;obtain ⟨s',d,iG,m1,m2,m3⟩:=i2 rest hl;exact ⟨s',d,iG,ka _ m1,m2,m3⟩
theorem Ph {α:Type} {c:Bool} {x:Option α} {a:α} (h:(bif c then x else none)=some a):c=true∧x=some a:=by
 cases c with
 | true=>exact ⟨rfl,h⟩
 | false=>cases h
theorem ahh {n:Nat} {b:BS} {o:Option ag} {ds:List V} (h:m9 b o=some ds) (au:b.ok n=true):ds.length=b.size:=by
 cases b with
 | dead=>cases o<;>(cases h;rfl)
 | var T0 ls=>
  cases o with
  | none=>cases h
  | some blk=>
   cases blk<;>simp only[m9] at h<;>first|(cases h;done)|skip
   exact (Dv (P:=default) (w:=default) (I:=fun _ _=>False) (β:=fun _=>none) (hp:=fun _=>none) (fun _ _=>⟨rfl,rfl⟩) (Ph h).2 au).1
 | arr e fz=>
  cases o with
  | none=>cases h
  | some blk=>
   cases blk<;>simp only[m9] at h<;>first|(cases h;done)|skip
   rw[xx h] at h;cases h;rfl
 | nest e=>
  cases o with
  | none=>cases h
  | some blk=>
   cases blk<;>simp only[m9] at h<;>first|(cases h;done)|skip
   rw[xx h] at h;cases h;rfl
 | map t=>
  cases o with
  | none=>cases h
  | some blk=>
   cases blk<;>simp only[m9] at h<;>first|(cases h;done)|skip
   rw[xx h] at h;cases h;rfl
theorem Xl {n:Nat}: ∀{l:List BS} {j:Nat} {ds:List V},Cr hp j l=some ds→l.all (BS.ok n)=true→
  (∀rest,(fT l (ds++rest)).length=l.length)∧∀(rest:List V) (i:Nat) (blk:ag),(fT l (ds++rest))[i]? =some blk→∃b d iG,l[i]? =some b∧b.ok n=true∧m9 b (hp (j+i))=some d∧blk=gk b (d++iG)
 | [],j,ds,h,_=>by cases h;exact ⟨fun _=>rfl,fun rest i blk hb=>by simp[fT] at hb⟩
 | b::l,j,ds,h,au=>by
  simp only[Cr] at h;obtain ⟨a,h1,h⟩:=bind_some h;obtain ⟨c,h2,h⟩:=bind_some h;cases h;simp only[List.all_cons,aK] at au;obtain ⟨i1,i2⟩:=Xl h2 au.2;have dc:=ahh h1 au.1;have hd: ∀rest,(a++c++rest).drop b.size=c++rest:=fun rest=>by rw[jO];exact Jl dc
  refine ⟨fun rest=>by simp only[fT,List.length_cons,hd,i1],fun rest i blk hb=> ?_⟩;simp only[fT,hd] at hb;cases i with
  | zero=>
   simp at hb;exact ⟨b,a,c++rest,rfl,au.1,h1,by rw[←hb]⟩
  | succ i=>
   obtain ⟨b',d,iG,m1,m2,m3,m4⟩:=i2 rest i blk (by simpa using hb);exact ⟨b',d,iG,by simpa using m1,m2,by rw[show j+(i+1)=j+1+i by omega];exact m3,m4⟩
theorem ahi {n:Nat} {b:BS} {blk:ag} {ds rest:List V} (h:m9 b (some blk)=some ds) (au:b.ok n=true):
  blk.le (gk b (ds++rest))∧(gk b (ds++rest)= .dead∨gk b (ds++rest)=blk∨∃T ls cs,b= .var T ls∧blk= .var T cs∧tk ls cs=some ds∧gk b (ds++rest)= .var T (ia ls (ds++rest))):=by
 cases b with
 | dead=>exact ⟨by cases blk<;>trivial,.inl rfl⟩
 | var T0 ls=>
  cases blk<;>simp only[m9] at h<;>first|(cases h;done)|skip
  obtain ⟨hT,h0⟩:=Ph h;clear h;rw[aN] at hT;subst hT;exact ⟨rfl,.inr (.inr ⟨_,_,_,rfl,rfl,h0,rfl⟩)⟩
 | arr e fz=>
  cases blk<;>simp only[m9] at h<;>first|(cases h;done)|skip
  rename_i e' es n8;have hb:=xx h;simp only[aK,aN,beq_iff_eq] at hb;obtain ⟨rfl,rfl⟩:=hb;simp only[mo,beq_self_eq_true,Bool.and_self,cond_true,ey] at h;subst h;exact ⟨⟨rfl,rfl⟩,.inr (.inl rfl)⟩
 | nest e=>
  cases blk<;>simp only[m9] at h<;>first|(cases h;done)|skip
  rename_i e' es vers;have hb:=xx h;simp only[aK,aN] at hb;obtain ⟨rfl,hv⟩:=hb;have:=xw hv;subst this;simp only[mo,Cc] at h;cases h;exact ⟨⟨rfl,rfl,rfl,fun _=>az _⟩,.inr (.inl rfl)⟩
 | map t=>
  cases blk<;>simp only[m9] at h<;>first|(cases h;done)|skip
  rename_i t' es;have hb:=xx h;rw[aN] at hb;subst hb;simp only[mo,cond_true,ey] at h;subst h;exact ⟨rfl,.inr (.inl rfl)⟩
theorem Xm {m:Nat} {S:Shape} {st:St} {ds:List V} (h:kf m S st=some ds):
  S.ok=true∧m≤S.cO.length∧∃a b,Cq st.sl S.ch=some a∧Cr st.hp 0 S.cO=some b∧ds=a++b:=by
 unfold kf at h;cases hc:(S.ok&&Nat.ble m S.cO.length) with
 | false=>rw[hc] at h;cases h
 | true=>
  rw[hc] at h;simp only[cond_true] at h;simp only[aK,fk] at hc;obtain ⟨a,h1,h⟩:=bind_some h;obtain ⟨b,h2,h⟩:=bind_some h;cases h;exact ⟨hc.1,hc.2,a,b,h1,h2,rfl⟩
theorem reshape {m:Nat} {S:Shape} {st:St} {ds:List V} (h:kf m S st=some ds) (hS:aA P w I β st.hp B M w0):
  aA P w I β (bI S ds).hp B M w0∧(∀(k:Nat) (v:Value),ai P w I β st.hp v (st.sl k)→ai P w I β (bI S ds).hp v ((bI S ds).sl k))∧
  (∀(μ:Nat→Option Nat) (hp0:Nat→Option ag),(∀id blk,hp0 id=some blk→id<m)→Le P w0.w w0.I μ hp0 w I β st.hp→Le P w0.w w0.I μ hp0 w I β (bI S ds).hp)∧
  ∀j blk',(bI S ds).hp j=some blk'→blk'≠ .dead→∃blk,st.hp j=some blk∧blk.le blk'∧∀o b,bd P w o blk' b→bd P w o blk b:=by
 obtain ⟨au,hm,a,b,h1,h2,rfl⟩:=Xm h;unfold Shape.ok at au;rw[aK] at au;obtain ⟨ni,WS⟩:=au;have aU: ∀p∈S.ch,∀d,rQ p.2 (st.sl p.1)=some d→d.length=p.2.size:=fun p hp d hd=>
  (Pf (P:=P) (w:=w) (I:=I) (β:=β) (hp:=st.hp) (fun _ _=>⟨rfl,rfl⟩) hd (fF.1 ni p hp)).1
 have dc:a.length=qB S.ch:=(Pg (k:=0) (y:= .undef) h1 aU).1;have I8:(bI S (a++b)).hp=lF (fT S.cO (b++[])):=by
  simp only[bI,mk,vd];rw[Jl dc]
 obtain ⟨bl,bg⟩:=Xl h2 WS;have get: ∀j blk',(bI S (a++b)).hp j=some blk'→j<S.cO.length∧∃bs d iG,bs.ok S.cO.length=true∧m9 bs (st.hp j)=some d∧blk'=gk bs (d++iG):=by
  intro j blk' hj;rw[I8,jA] at hj;obtain ⟨bs,d,iG,m1,m2,m3,m4⟩:=bg [] j blk' hj;rw[eT] at m3;exact ⟨(ct.1 m1).1,bs,d,iG,m2,m3,m4⟩
 have have': ∀j,j<S.cO.length→∃blk',(bI S (a++b)).hp j=some blk':=by
  intro j hj;rw[I8,jA];exact ⟨_,bS (by rw[bl];exact hj)⟩
 generalize eD:(bI S (a++b)).hp=xy at*
 let bG:Nat→Option ag:=fun id=>if id<S.cO.length then xy id else st.hp id
 have back: ∀j blk',xy j=some blk'→blk'≠ .dead→∃blk,st.hp j=some blk∧blk.le blk'∧(blk'=blk∨∃T ls cs d iG,ls.all (VS.ok S.cO.length)=true∧blk= .var T cs∧tk ls cs=some d∧blk'= .var T (ia ls (d++iG))):=by
  intro j blk' hj hd;obtain ⟨dn,bs,d,iG,m1,m2,m3⟩:=get j blk' hj;cases ec:st.hp j with
  | none=>
   rw[ec] at m2;cases bs<;>simp only[m9] at m2<;>first|(cases m2;done)|skip
   exact absurd m3 hd
  | some blk=>
   rw[ec] at m2;obtain ⟨n1,n2⟩:=ahi (rest:=iG) m2 m1;rw[←m3] at n1 n2;refine ⟨blk,rfl,n1,?_⟩;rcases n2 with e|e|⟨T,ls,cs,e1,e2,e3,e4⟩
   ·exact absurd e hd
   ·exact .inl e
   ·subst e1;exact .inr ⟨T,ls,cs,d,iG,m1,e2,e3,e4⟩
 have le1: ∀j blk,st.hp j=some blk→j<S.cO.length→∃blk',xy j=some blk'∧blk.le blk':=by
  intro j blk hj dn;obtain ⟨blk',ay⟩:=have' j dn;refine ⟨blk',ay,?_⟩;by_cases hd:blk'= .dead
  ·subst hd;cases blk<;>trivial
  ·obtain ⟨cw,e1,e2,_⟩:=back j blk' ay hd;rw[hj] at e1;cases e1;exact e2
 have ahj: ∀j e es vers e' aL vers',st.hp j=some (.nest e es vers)→xy j=some (.nest e' aL vers')→e'=e∧aL=es∧vers'=vers:=by
  intro j e es vers e' aL vers' hj dQ;obtain ⟨blk,e1,_,e3⟩:=back j _ dQ (by simp);rw[hj] at e1;cases e1;rcases e3 with e3|⟨_,_,_,_,_,_,e3,_⟩
  ·cases e3;exact ⟨rfl,rfl,rfl⟩
  ·cases e3
 have hle:Le P w I β st.hp w I β bG:=by
  refine ⟨fun _ _ h=>h,fun _ _ _=>rfl,fun id blk ab=> ?_,fun _ _ _ _ _ _ _ _=>rfl,Le.tK (fun _ _ _ _ _ _=>rfl) fun id e es vers e' aL vers' ab bM=> ?_⟩
  ·by_cases hl:id<S.cO.length
   ·obtain ⟨blk',e1,e2⟩:=le1 id blk ab hl;exact ⟨blk',by simp only[bG,ak hl];exact e1,e2,fun _=>rfl⟩
   ·exact ⟨blk,by simp only[bG,aj hl];exact ab,ag.le_refl _,fun _=>rfl⟩
  ·by_cases hl:id<S.cO.length
   ·simp only[bG,ak hl] at bM;exact ahj _ _ _ _ _ _ _ ab bM
   ·simp only[bG,aj hl] at bM;rw[ab] at bM;cases bM;exact ⟨rfl,rfl,rfl⟩
 have iY:Dt S.cO.length β bG β xy:=fun id ab=>⟨by simp only[bG,ak ab],rfl⟩
 have qM: ∀j blk' blk o b,xy j=some blk'→st.hp j=some blk→bd P w o blk' b→bd P w o blk b:=by
  intro j blk' blk o b dQ hj ho;obtain ⟨cw,e1,_,e3⟩:=back j blk' dQ ho.alive;rw[hj] at e1;cases e1;rcases e3 with e3|⟨T,ls,cs,d,iG,_,e3,_,e5⟩
  ·subst e3;exact ho
  ·subst e3;subst e5;exact .root (by simp) (ho.flat (by simp))
 refine ⟨⟨⟨fun j blk' hj=> ?_,fun j1 j2 b1 b2 b' e1 e2 o1 o2=> ?_,fun j blk b' hj ho=> ?_,hS.h.iE⟩,hS.cH,hS.size,hS.new,hS.io⟩,fun k v hv=> ?_,fun μ hp0 aY hE=> ?_,fun j blk' hj hd=> ?_⟩
 ·by_cases hd:blk'= .dead
  ·subst hd;exact .dead
  ·obtain ⟨blk,e1,_,e3⟩:=back j blk' hj hd;have hr:=hS.h.rel j blk e1;generalize β j=o at hr;rcases e3 with e3|⟨T0,ls,cs,d,iG,q1,e3,e4,e5⟩
   ·subst e3;cases hr with
    | @var xs b' Ca T hb hh hs da hx gO=>
     obtain ⟨dn,bs,d,iG,m1,m2,m3⟩:=get j _ hj;rw[e1] at m2;cases bs<;>simp only[m9] at m2<;>first|(cases m2;done)|skip
     ·rename_i T0 ls;simp only[gk] at m3;obtain ⟨hT,m2⟩:=Ph m2;obtain ⟨i1,i2,i3⟩:=Dv (P:=P) (w:=w) (I:=I) iY m2 m1;injection m3 with m4 m3;rw[m3];exact .var hb hh (by rw[i2];exact hs) da (fun i v y hi hy=>i3 iG i v y (fun x cW=>(hx i v x hi cW).mono hle) hy) gO
     ·simp only[gk] at m3;cases m3
    | dY hb=>exact .dY hb
    | arr a0 a1 a2 a3 a4 a5 a6 a7=>exact .arr a0 a1 a2 a3 a4 a5 a6 a7
    | dead=>exact absurd rfl hd
    | nest a1 a2 a3=>exact .nest a1 a2 a3
    | gD a1=>exact .gD a1
    | out a1 a2 a3 a4 a5 a6 a7 a8 a9 a10=>exact .out a1 a2 a3 a4 a5 a6 a7 a8 a9 a10
    | map a1 a2 a3 a4 a5 a6 a7=>exact .map a1 a2 a3 a4 a5 a6 a7
   ·subst e3;subst e5;cases hr with
    | @var xs b' Ca T hb hh hs da hx gO=>
     obtain ⟨i1,i2,i3⟩:=Dv (P:=P) (w:=w) (I:=I) iY e4 q1;exact .var hb hh (by rw[i2];exact hs) da (fun i v y hi hy=>i3 iG i v y (fun x cW=>(hx i v x hi cW).mono hle) hy) gO
 ·obtain ⟨c1,x1,_,_⟩:=back j1 b1 e1 o1.alive;obtain ⟨c2,x2,_,_⟩:=back j2 b2 e2 o2.alive;exact hS.h.inj j1 j2 c1 c2 b' x1 x2 (qM _ _ _ _ _ e1 x1 o1) (qM _ _ _ _ _ e2 x2 o2)
 ·obtain ⟨c1,x1,_,_⟩:=back j blk hj ho.alive;exact hS.h.own j c1 b' x1 (qM _ _ _ _ _ hj x1 ho)
 ·change ai P w I β xy v (kR (gB S.ch (a++b)) k);unfold kR;cases Pj:eL (gB S.ch (a++b)) k with
  | none=>exact .undef
  | some y=>
   obtain ⟨s,d,iG,n1,n2,n3⟩:=(Pg h1 aU).2 b Pj;simp only[Option.getD_some,n3];exact (Pf (P:=P) (w:=w) (I:=I) iY n2 (fF.1 ni _ n1)).2 iG v (hv.mono hle)
 ·have h3:=hE.trans hle;refine ⟨h3.dZ,h3.cH,fun id blk ab=> ?_,fun id blk blk' b' ab bM hd hb=> ?_,fun id e es vers e' aL vers' b2 q i c t v e1 l ab bM=> ?_⟩
  ·have hl:=aY id blk ab;obtain ⟨blk',k1,k2,k3⟩:=h3.blk id blk ab;simp only[bG,ak (show id<S.cO.length by omega)] at k1;exact ⟨blk',k1,k2,k3⟩
  ·have hl:=aY id blk ab;exact h3.size id blk blk' b' ab (by simp only[bG,ak (show id<S.cO.length by omega)];exact bM) hd hb
  ·have hl:=aY id _ ab;exact h3.row id e es vers e' aL vers' b2 q i c t v e1 l ab (by simp only[bG,ak (show id<S.cO.length by omega)];exact bM)
 ·obtain ⟨blk,e1,e2,_⟩:=back j blk' hj hd;exact ⟨blk,e1,e2,fun o b' ho=>qM _ _ _ _ _ hj e1 ho⟩
end
section
variable {P:Program} {A:di} {w w':World} {I I' I2:Nat→Nat→Prop} {μ β β':Nat→Option Nat} {hp hp' hp0:Nat→Option ag} {C:af} {B:Nat} {M:Nat→Prop} {w0:Start}
inductive fe (P:Program) (w:World) (β:Nat→Option Nat) (hp:Nat→Option ag):Place→Option Nat→ag→Prop
 | var {id:Nat} {T:TypeId} {cs Pk:List V}:hp id=some (.var T cs)→fe P w β hp (.blk id) (β id) (.var T Pk)
 | arr {id:Nat} {e:TypeId} {es:List V} {fz:Bool}:hp id=some (.arr e es fz)→fe P w β hp (.blk id) (β id) (.arr e es fz)
 | nest {id:Nat} {e:TypeId} {es:List V} {vers:List Nat}:hp id=some (.nest e es vers)→fe P w β hp (.blk id) (β id) (.nest e es [0,0,0])
 | row {id ver b b':Nat} {path:Path} {e0 e':TypeId} {es l:List V} {vers:List Nat}:hp id=some (.nest e0 es vers)→β id=some b→At P w b e0 es path b' e' l→Cp P e'=true→
   0<path.length→path.length≤vers.length→bz vers (path.length-1)=ver→0<l.length→fe P w β hp (.row id ver path) (some b') (.arr e' l false)
 | map {id:Nat} {t:TypeId} {es:List V}:hp id=some (.map t es)→fe P w β hp (.blk id) (β id) (.map t es)
def Dw (P:Program) (w:World) (β:Nat→Option Nat) (hp:Nat→Option ag) (ρ:List Place) (μ:Nat→Option Nat) (hp0:Nat→Option ag):Prop:=
 ∀j p,fq ρ j=some p→∃blk,hp0 j=some blk∧fe P w β hp p (μ j) blk
theorem qZ: ∀{l m:List Place} {j:Nat} {p:Place},fq l j=some p→fq (l++m) j=some p
 | [],m,j,p,h=>by cases h
 | a::l,m,0,p,h=>h
 | a::l,m,j+1,p,h=>qZ (l:=l) h
theorem oo: ∀{l:List Place} {j:Nat},fq l j=l[j]?
 | [],j=>by simp[fq]
 | a::l,0=>rfl
 | a::l,j+1=>by simp only[fq,oo,List.getElem?_cons_succ]
def ahk (hp:Nat→Option ag) (q:Nat×ag):Prop:=zy hp q∨∃T cs,q.2= .var T cs∧hp q.1=some (.var T cs)
structure Ext (P:Program) (w:World) (I:Nat→Nat→Prop) (β:Nat→Option Nat) (hp:Nat→Option ag) (h h':Hand) (d:List V) (u:List (Nat×ag)):Prop where
 ds:h'.ds=h.ds++d
 upd:h'.upd=h.upd++u
 Jm: ∀q∈u,ahk hp q
 pl: ∃m,h'.pl=h.pl++m
 nodup:(h.pl.map Place.id).Nodup→(h'.pl.map Place.id).Nodup
theorem Ext.refl (h:Hand):Ext P w I β hp h h [] []:=⟨by simp,by simp,by simp,⟨[],by simp⟩,id⟩
theorem Ext.trans {h1 h2 h3:Hand} {d1 d2:List V} {u1 u2:List (Nat×ag)} (a:Ext P w I β hp h1 h2 d1 u1) (b:Ext P w I β hp h2 h3 d2 u2):Ext P w I β hp h1 h3 (d1++d2) (u1++u2):=by
 obtain ⟨m1,e1⟩:=a.pl;obtain ⟨m2,e2⟩:=b.pl;exact ⟨by rw[b.ds,a.ds,jO],by rw[b.upd,a.upd,jO],fun q hq=>(eS.1 hq).elim (a.Jm q) (b.Jm q),⟨m1++m2,by rw[e2,e1,jO]⟩,fun h=>b.nodup (a.nodup h)⟩
theorem Ext.look {h h':Hand} {d:List V} {u:List (Nat×ag)} (a:Ext P w I β hp h h' d u) {j:Nat} {p:Place} (hj:fq h.pl j=some p):fq h'.pl j=some p:=by
 obtain ⟨m,e⟩:=a.pl;rw[e];exact qZ hj
theorem Ext.leaf (h:Hand) (x:V):Ext P w I β hp h {h with ds:=h.ds++[x]} [x] []:=⟨rfl,by simp,by simp,⟨[],by simp⟩,id⟩
theorem ahl {α:Type} {ρ:List Place} {j:Nat} {p:Place} {k:List Place→Rd α} {r:α} {rd:List Nat} (h:(unify ρ j p k).run C hp=some (r,rd)) (hb: ∃id,p= .blk id∨∃ver path,p= .row id ver path):
  ∃lR,(k lR).run C hp=some (r,rd)∧(∃m,lR=ρ++m)∧fq lR j=some p∧((ρ.map Place.id).Nodup→(lR.map Place.id).Nodup):=by
 unfold unify at h;cases hc:Nat.blt j ρ.length with
 | true=>
  rw[hc] at h;obtain ⟨h1,h2⟩:=aD h;refine ⟨ρ,h2,⟨[],by simp⟩,?_,id⟩;unfold VB at h1;split at h1
  ·rename_i a b he;rw[aN] at h1;subst h1;exact he
  ·cases h1
 | false=>
  rw[hc] at h;obtain ⟨h1,h2⟩:=aD h;simp only[aK,aN,mn] at h1;obtain ⟨rfl,h3⟩:=h1;refine ⟨ρ++[p],h2,⟨[p],rfl⟩,?_,fun hn=> ?_⟩
  ·rw[oo];simp
  ·rw[rM,Ce];refine ⟨hn,by simp,fun a ha b hb=> ?_⟩;simp only[iQ,List.map_nil,fl] at hb;subst hb;intro e;subst e;rw[zH ha] at h3;cases h3
theorem xz {α:Type} {h:Hand} {j:Nat} {p:Place} {k:List Place→Rd α} {r:α} {rd:List Nat} (hr:(unify h.pl j p k).run C hp=some (r,rd)) (ds:List V):
  ∃lR,(k lR).run C hp=some (r,rd)∧fq lR j=some p∧Ext P w I β hp h {h with pl:=lR,ds:=h.ds++ds} ds []:=by
 obtain ⟨lR,a,b,c,d⟩:=ahl hr (by cases p with|blk id=>exact ⟨id,.inl rfl⟩|row id ver path=>exact ⟨id,.inr ⟨ver,path,rfl⟩⟩);exact ⟨lR,a,c,⟨rfl,by simp,by simp,b,d⟩⟩
theorem ahm {o:Option Nat} {blk:ag} {e:TypeId} {id j:Nat} {v:Value} (hv:ai P w I β hp v (.whole e id)) (hl:fe P w β hp (.blk id) o blk) (hj:hp0 j=some blk) (lf:μ j=o):ai P w I' μ hp0 v (.whole e j):=by
 cases hl with
 | var h=>
  cases hv with
  | dH h2=>rw[h] at h2;cases h2
  | dD h2=>rw[h] at h2;cases h2
  | whole h2=>rw[h] at h2;cases h2
  | dw h2=>rw[h] at h2;cases h2
  | dO h2=>rw[h] at h2;cases h2
  | eB h2=>rw[h] at h2;cases h2
 | arr h=>
  cases hv with
  | dH h2=>rw[h] at h2;cases h2
  | dD h2 hb=>rw[h] at h2;cases h2;exact .dD hj (lf.trans hb)
  | whole h2 hb a b c=>rw[h] at h2;cases h2;exact .whole hj (lf.trans hb) a b c
  | dw h2=>rw[h] at h2;cases h2
  | dO h2=>rw[h] at h2;cases h2
  | eB h2=>rw[h] at h2;cases h2
 | nest h=>
  cases hv with
  | dH h2=>rw[h] at h2;cases h2
  | dD h2=>rw[h] at h2;cases h2
  | whole h2=>rw[h] at h2;cases h2
  | dw h2 hb a b c=>rw[h] at h2;cases h2;exact .dw hj (lf.trans hb) a b c
  | dO h2 hb=>rw[h] at h2;cases h2;exact .dO hj (lf.trans hb)
  | eB h2=>rw[h] at h2;cases h2
 | map h=>
  cases hv with
  | dH h2=>rw[h] at h2;cases h2
  | dD h2=>rw[h] at h2;cases h2
  | whole h2=>rw[h] at h2;cases h2
  | dw h2=>rw[h] at h2;cases h2
  | dO h2=>rw[h] at h2;cases h2
  | eB h2=>rw[h] at h2;cases h2
theorem ahn {o:Option Nat} {blk:ag} {t:TypeId} {id j:Nat} {v:Value} (hv:ai P w I β hp v (.cN t id)) (hl:fe P w β hp (.blk id) o blk) (hj:hp0 j=some blk) (lf:μ j=o):ai P w I' μ hp0 v (.cN t j):=by
 cases hv with
 | jV h2=>cases hl<;>(rename_i h;rw[h] at h2;cases h2)
 | cN h2 hb=>
  cases hl<;>(rename_i h;rw[h] at h2;cases h2)
  exact .cN hj (lf.trans hb)
theorem aho {o:Option Nat} {blk:ag} {e:TypeId} {id off n j:Nat} {v:Value} (hv:ai P w I β hp v (.sub e id off n)) (hl:fe P w β hp (.blk id) o blk) (hj:hp0 j=some blk) (lf:μ j=o):ai P w I' μ hp0 v (.sub e j off n):=by
 cases hl with
 | var h=>
  cases hv with
  | ij h2=>rw[h] at h2;cases h2
  | gC h2=>rw[h] at h2;cases h2
  | sub h2=>rw[h] at h2;cases h2
 | arr h=>
  cases hv with
  | ij h2=>rw[h] at h2;cases h2
  | gC h2 hb=>rw[h] at h2;cases h2;exact .gC hj (lf.trans hb)
  | sub h2 hb a b c=>rw[h] at h2;cases h2;exact .sub hj (lf.trans hb) a b c
 | nest h=>
  cases hv with
  | ij h2=>rw[h] at h2;cases h2
  | gC h2=>rw[h] at h2;cases h2
  | sub h2=>rw[h] at h2;cases h2
 | map h=>
  cases hv with
  | ij h2=>rw[h] at h2;cases h2
  | gC h2=>rw[h] at h2;cases h2
  | sub h2=>rw[h] at h2;cases h2
theorem Xn {o:Option Nat} {blk:ag} {id i c j:Nat} {v:Value} (hv:ai P w I β hp v (.ptr id i c)) (hl:fe P w β hp (.blk id) o blk) (hj:hp0 j=some blk) (lf:μ j=o):ai P w I' μ hp0 v (.ptr j i c):=by
 cases hl with
 | @var _ T0 cs Pk h=>
  obtain ⟨b,hb,rfl⟩:=hv.gP h (by simp);exact ai.ptr (blk:= .var T0 Pk) hj (by simp) (lf.trans hb)
 | @arr _ e es fz h=>
  obtain ⟨b,hb,rfl⟩:=hv.gP h (by simp);exact ai.ptr (blk:= .arr e es fz) hj (by simp) (lf.trans hb)
 | @nest _ e es vers h=>
  obtain ⟨b,hb,rfl⟩:=hv.gP h (by simp);exact ai.ptr (blk:= .nest e es [0,0,0]) hj (by simp) (lf.trans hb)
 | @map _ t es h=>
  obtain ⟨b,hb,rfl⟩:=hv.gP h (by simp);exact ai.ptr (blk:= .map t es) hj (by simp) (lf.trans hb)
theorem ahp (cK: ∀id blk,hp id=some blk→ei P w I β hp (β id) blk) {id b i c:Nat} {e0 t:TypeId} {es l:List V} {vers:List Nat} {q:Path} {e:TypeId} {v:Value} (ab:hp id=some (.nest e0 es vers)) (hb:β id=some b)
  (ht:P.underlying t=some (.slice e)) (hc:oT P w b e0 es q i c t v (.list e l)) (hl:0<l.length): ∃b1 cap,v= .slice (some ⟨b1,0,none⟩) l.length cap∧cap*P.cellsOf e=bsize w b1∧l.length≤cap∧cap≤maxLen∧At P w b e0 es (q++[(i,c)]) b1 e l:=by
 obtain ⟨b2,e1,m,Ca,T,f,x,n1,n2,n3,n4,n5,n6⟩:=hc;have hr:=cK _ _ ab;cases hr with
 | gD ay=>rw[hb] at ay;cases ay
 | nest ay hr hn=>
  rw[hb] at ay;cases ay;have hR:=hr _ _ _ _ n1;obtain ⟨xd,_,c1,_,c2,c3⟩:=hR.cells;rw[n2] at c1;cases c1;have xe:c<P.cellsOf e1:=by rw[←eC hR.ok];exact (ct.1 n4).1
  obtain ⟨v',d1,d2⟩:=c3 i c x t n3 n4 xe;rw[n6] at d1;cases d1;rw[n5] at d2;generalize hy:V.list e l=y at d2;cases d2 with
  | fu a p=>unfold dF at a;rw[ht] at a;cases a
  | emp hu=>cases hy;simp at hl
  | row hu kX aU bP qK=>
   cases hy;exact ⟨_,_,rfl,aU,bP,qK,n1.snoc n2 n3 n4 ht n5 kX n6⟩
theorem ahq (S:aA P w I β hp B M w0) {o:Option Nat} {blk:ag} {e:TypeId} {id ver j:Nat} {path:Path} {v:Value} (hv:ai P w I β hp v (.row e id ver path)) (hl:fe P w β hp (.row id ver path) o blk) (hj:hp0 j=some blk) (lf:μ j=o):ai P w I' μ hp0 v (.whole e j):=by
 cases hl with
 | row h hb ha hf h1 h2 h3 h4=>
  obtain ⟨b2,q,i,c,t,l2,rfl,fI,ht,hc⟩:=hv.N4 h h1 h2 h3;rw[hb] at fI;cases fI;obtain ⟨p1,p2⟩:=N5 ha;have fc:=hc;obtain ⟨b3,e3,m3,Ca,T,f,x,n1,n2,n3,n4,n5,n6⟩:=fc;obtain ⟨q1,q2⟩:=IB n1 n3 n4 ht n5;rw[p1] at q1;rw[p2] at q2;cases q1;cases q2;obtain ⟨b1,cap,rfl,m1,m2,m4,m5⟩:=ahp S.h.rel h hb ht hc h4;have:=ahr ha m5;subst this;exact .whole hj lf m1 m2 m4
where
 ahr {b b1 b2:Nat} {e e1 e2:TypeId} {es l l2:List V} {q:Path} (h:At P w b e es q b1 e1 l) (h2:At P w b e es q b2 e2 l2):b2=b1:=(h.fun h2).1
theorem Xo (S:aA P w I β hp B M w0) {α:Type} {l:LS} {x:V} {h:Hand} {k:Hand→Rd α} {r:α} {rd:List Nat} {v:Value} (hr:(Im P l x h k).run C hp=some (r,rd)) (hv:ai P w I β hp v x):
  ∃h' fJ d u,(k h').run C hp=some (r,fJ)∧Ext P w I β hp h h' d u∧d.length=l.size∧
   ∀(I':Nat→Nat→Prop) (μ:Nat→Option Nat) (hp0:Nat→Option ag),(∀b j,I b j→I' b j)→(∀q∈u,∀b j,vE P w β hp q.1 b j→I' b j)→∀ρ m,ρ=h'.pl++m→Dw P w β hp ρ μ hp0→∀rest,ai P w I' μ hp0 v (jQ l (d++rest)):=by
 have plain: ∀{x':V} {iu:List Nat},(k {h with ds:=h.ds++[x']}).run C hp=some (r,iu)→l.size=1→(∀I' μ hp0 rest,ai P w I' μ hp0 v (jQ l ([x']++rest)))→∃h' fJ d u,(k h').run C hp=some (r,fJ)∧Ext P w I β hp h h' d u∧d.length=l.size∧
   ∀(I':Nat→Nat→Prop) (μ:Nat→Option Nat) (hp0:Nat→Option ag),(∀b j,I b j→I' b j)→(∀q∈u,∀b j,vE P w β hp q.1 b j→I' b j)→∀ρ m,ρ=h'.pl++m→Dw P w β hp ρ μ hp0→∀rest,ai P w I' μ hp0 v (jQ l (d++rest)):=
  fun hk hs hx=>⟨_,_,_,_,hk,Ext.leaf h _,hs.symm,fun I' μ hp0 _ _ _ _ _ _ rest=>hx I' μ hp0 rest⟩
 have si: ∀{iu:List Nat},(k h).run C hp=some (r,iu)→l.size=0→(∀I' μ hp0 rest,ai P w I' μ hp0 v (jQ l rest))→∃h' fJ d u,(k h').run C hp=some (r,fJ)∧Ext P w I β hp h h' d u∧d.length=l.size∧
   ∀(I':Nat→Nat→Prop) (μ:Nat→Option Nat) (hp0:Nat→Option ag),(∀b j,I b j→I' b j)→(∀q∈u,∀b j,vE P w β hp q.1 b j→I' b j)→∀ρ m,ρ=h'.pl++m→Dw P w β hp ρ μ hp0→∀rest,ai P w I' μ hp0 v (jQ l (d++rest)):=
  fun hk hs hx=>⟨_,_,_,_,hk,Ext.refl h,by simp[hs],fun I' μ hp0 _ _ _ _ _ _ rest=>hx I' μ hp0 rest⟩
 unfold Im at hr;cases l with
 | tu=>exact si hr rfl fun _ _ _ _=> .undef
 | int kd=>
  cases x<;>simp only at hr<;>first|(cases hr;done)|skip
  obtain ⟨h1,h2⟩:=aD hr;simp only[fQ] at h1;subst h1;obtain rfl:=hv.eY;exact plain h2 rfl fun _ _ _ _=> .int
 | bool=>
  cases x<;>simp only at hr<;>first|(cases hr;done)|skip
  obtain rfl:=hv.kZ;exact plain hr rfl fun _ _ _ _=> .bool
 | str=>
  cases x<;>simp only at hr<;>first|(cases hr;done)|skip
  obtain ⟨s,rfl,hl⟩:=hv.nf;exact plain hr rfl fun _ _ _ _=> .str hl
 | nilS e=>
  cases x<;>simp only at hr<;>first|(cases hr;done)|skip
  obtain ⟨h1,h2⟩:=aD hr;cases hv with
  | nilS=>exact si h2 rfl fun _ _ _ _=> .nilS
 | eg=>
  cases x<;>simp only at hr<;>first|(cases hr;done)|skip
  cases hv with
  | eg=>exact si hr rfl fun _ _ _ _=> .eg
 | row e j cs=>
  cases x<;>simp only at hr<;>first|(cases hr;done)|skip
  rename_i e' id ver path;obtain ⟨e0,es,vers,l0,ab,p1,p2,p3,hr⟩:=pR hr;obtain ⟨h1,h2⟩:=aD hr;simp only[aK,aN,fk] at h1;obtain ⟨rfl,qP,hp3⟩:=h1;have:=xw qP;subst this;obtain ⟨lR,a,b,c⟩:=xz (P:=P) (w:=w) (I:=I) (β:=β) h2 (path.map fun p=>fo p.1);refine ⟨_,_,path.map fun p=>fo p.1,[],a,c,by simp[LS.size],fun I' μ hp0 i1 i2 ρ m dR cE rest=> ?_⟩;obtain ⟨blk,k1,k2⟩:=cE j _ (by rw[dR];exact qZ b);obtain ⟨bb,q,i,cc,t,l,rfl,hb,ht,hc⟩:=hv.N4 ab p1 p2 p3;have qL:blk= .nest e0 es [0,0,0]∧μ j=β id:=by
   generalize μ j=o at k2;cases k2 with
   | var h=>rw[ab] at h;cases h
   | arr h=>rw[ab] at h;cases h
   | map h=>rw[ab] at h;cases h
   | nest h=>rw[ab] at h;cases h;exact ⟨rfl,rfl⟩
  obtain ⟨rfl,lf⟩:=qL;simp only[jQ,Jj];have hq:q.length<3:=by rw[gI,List.length_singleton] at hp3;omega
  refine .row k1 (lf.trans hb) (by simpa using hq) ?_ ht hc
  match q.length,hq with
  | 0,_=>rfl
  | 1,_=>rfl
  | 2,_=>rfl
 | dq j cs c=>cases hr
 | Ck k n=>cases hr
 | H5 b=>cases hr
 | eu t=>
  cases x<;>simp only at hr<;>first|(cases hr;done)|skip
  obtain ⟨h1,h2⟩:=aD hr;cases hv with
  | eu=>exact si h2 rfl fun _ _ _ _=> .eu
 | cN t j=>
  cases x<;>simp only at hr<;>first|(cases hr;done)|skip
  rename_i t' id;obtain ⟨h1,h2⟩:=aD hr;rw[aN] at h1;subst h1;obtain ⟨lR,a,b,c⟩:=xz (P:=P) (w:=w) (I:=I) (β:=β) h2 [];refine ⟨_,_,[],[],a,by simpa using c,rfl,fun I' μ hp0 i1 i2 ρ m dR cE rest=> ?_⟩;obtain ⟨blk,k1,k2⟩:=cE j _ (by rw[dR];exact qZ b);exact ahn hv k2 k1 rfl
 | list e=>
  obtain ⟨⟨y,u⟩,l1,l2,h1,h2⟩:=na hr;cases y<;>simp only at h2<;>first|(cases h2;done)|skip
  rename_i e' es;obtain ⟨h3,h4⟩:=aD h2;rw[aN] at h3;subst h3;obtain ⟨p1,p2⟩:=IC S.h.rel h1 hv;exact ⟨_,_,[.list e es],u,h4,⟨rfl,rfl,fun q hq=> .inl (p1 q hq),⟨[],by simp⟩,id⟩,rfl,fun I' μ hp0 i1 i2 _ _ _ _ rest=> .list (p2 I' i1 i2)⟩
 | whole e j=>
  cases x<;>simp only at hr<;>first|(cases hr;done)|skip
  ·rename_i e' id;obtain ⟨h1,h2⟩:=aD hr;rw[aN] at h1;subst h1;obtain ⟨lR,a,b,c⟩:=xz (P:=P) (w:=w) (I:=I) (β:=β) h2 [];refine ⟨_,_,[],[],a,by simpa using c,rfl,fun I' μ hp0 i1 i2 ρ m dR cE rest=> ?_⟩;obtain ⟨blk,k1,k2⟩:=cE j _ (by rw[dR];exact qZ b);exact ahm hv k2 k1 rfl
  ·rename_i e' id ver path;obtain ⟨h1,h2⟩:=aD hr;rw[aN] at h1;subst h1;obtain ⟨lR,a,b,c⟩:=xz (P:=P) (w:=w) (I:=I) (β:=β) h2 [];refine ⟨_,_,[],[],a,by simpa using c,rfl,fun I' μ hp0 i1 i2 ρ m dR cE rest=> ?_⟩;obtain ⟨blk,k1,k2⟩:=cE j _ (by rw[dR];exact qZ b);exact ahq S hv k2 k1 rfl
 | sub e j=>
  cases x<;>simp only at hr<;>first|(cases hr;done)|skip
  rename_i e' id o n;obtain ⟨h1,h2⟩:=aD hr;rw[aN] at h1;subst h1;obtain ⟨lR,a,b,c⟩:=xz (P:=P) (w:=w) (I:=I) (β:=β) h2 [fo o,fo n];refine ⟨_,_,[fo o,fo n],[],a,c,rfl,fun I' μ hp0 i1 i2 ρ m dR cE rest=> ?_⟩;obtain ⟨blk,k1,k2⟩:=cE j _ (by rw[dR];exact qZ b);simpa[jQ,V.nth] using aho (I':=I') hv k2 k1 rfl
 | ptr j=>
  cases x<;>simp only at hr<;>first|(cases hr;done)|skip
  rename_i id i c;obtain ⟨lR,a,b,c'⟩:=xz (P:=P) (w:=w) (I:=I) (β:=β) hr [fo i,fo c];refine ⟨_,_,[fo i,fo c],[],a,c',rfl,fun I' μ hp0 i1 i2 ρ m dR cE rest=> ?_⟩;obtain ⟨blk,k1,k2⟩:=cE j _ (by rw[dR];exact qZ b);simpa[jQ,V.nth] using Xn (I':=I') hv k2 k1 rfl
 | aG j i c=>
  cases x<;>simp only at hr<;>first|(cases hr;done)|skip
  rename_i id i' c';obtain ⟨h1,h2⟩:=aD hr;simp only[aK,aN] at h1;obtain ⟨rfl,rfl⟩:=h1;obtain ⟨lR,a,b,c'⟩:=xz (P:=P) (w:=w) (I:=I) (β:=β) h2 [];refine ⟨_,_,[],[],a,by simpa using c',rfl,fun I' μ hp0 i1 i2 ρ m dR cE rest=> ?_⟩;obtain ⟨blk,k1,k2⟩:=cE j _ (by rw[dR];exact qZ b);exact Xn hv k2 k1 rfl
end
section
variable {P:Program} {A:di} {w w':World} {I I' I2:Nat→Nat→Prop} {μ β β':Nat→Option Nat} {hp hp' hp0:Nat→Option ag} {C:af} {B:Nat} {M:Nat→Prop} {w0:Start}
def oq (P:Program) (w:World) (I:Nat→Nat→Prop) (β:Nat→Option Nat) (hp:Nat→Option ag) (h':Hand) (u:List (Nat×ag)) (K:(Nat→Nat→Prop)→(Nat→Option Nat)→(Nat→Option ag)→Prop):Prop:=
 ∀(I':Nat→Nat→Prop) (μ:Nat→Option Nat) (hp0:Nat→Option ag),(∀b j,I b j→I' b j)→(∀q∈u,∀b j,vE P w β hp q.1 b j→I' b j)→∀ρ m,ρ=h'.pl++m→Dw P w β hp ρ μ hp0→K I' μ hp0
theorem oq.later {h h':Hand} {d:List V} {u u':List (Nat×ag)} {K:(Nat→Nat→Prop)→(Nat→Option Nat)→(Nat→Option ag)→Prop} (t:oq P w I β hp h u K) (e:Ext P w I β hp h h' d u'):oq P w I β hp h' (u++u') K:=by
 obtain ⟨m1,e1⟩:=e.pl;exact fun I' μ hp0 i1 i2 ρ m dR cE=>t I' μ hp0 i1 (fun q hq=>i2 q (eS.2 (.inl hq))) ρ (m1++m) (by grind) cE
theorem oq.more {h:Hand} {u u':List (Nat×ag)} {K:(Nat→Nat→Prop)→(Nat→Option Nat)→(Nat→Option ag)→Prop} (t:oq P w I β hp h u K):oq P w I β hp h (u'++u) K:=
 fun I' μ hp0 i1 i2 ρ m dR cE=>t I' μ hp0 i1 (fun q hq=>i2 q (eS.2 (.inr hq))) ρ m dR cE
theorem Dx (S:aA P w I β hp B M w0) {α:Type}: ∀{ls:List LS} {xs:List V} {h:Hand} {k:Hand→Rd α} {r:α} {rd:List Nat} {vs:List Value},(tA P ls xs h k).run C hp=some (r,rd)→vs.length=xs.length→
  (∀(j:Nat) v x,vs[j]? =some v→xs[j]? =some x→ai P w I β hp v x)→
  ∃h' fJ d u,(k h').run C hp=some (r,fJ)∧Ext P w I β hp h h' d u∧d.length=lE ls∧ls.length=xs.length∧
   oq P w I β hp h' u fun I' μ hp0=> ∀rest,(gA ls (d++rest)).length=xs.length∧∀(j:Nat) v y,vs[j]? =some v→(gA ls (d++rest))[j]? =some y→ai P w I' μ hp0 v y
 | [],[],h,k,r,rd,vs,hr,hl,hv=>⟨h,rd,[],[],hr,Ext.refl h,rfl,rfl,fun I' μ hp0 _ _ _ _ _ _ rest=>⟨rfl,fun j v y _ hy=>by grind⟩⟩
 | [],_::_,h,k,r,rd,vs,hr,hl,hv=>by cases hr
 | _::_,[],h,k,r,rd,vs,hr,hl,hv=>by cases hr
 | l::ls,x::xs,h,k,r,rd,vs,hr,hl,hv=>by
  cases vs with
  | nil=>simp at hl
  | cons v vs=>
   simp only[tA] at hr;obtain ⟨h1,iu,d1,u1,a1,a2,a3,a4⟩:=Xo S hr (hv 0 v x rfl rfl);obtain ⟨h2,vT,d2,u2,b1,b2,b3,b5,b4⟩:=Dx S a1 (by grind) (vs:=vs) (fun j v x hj hx=>hv (j+1) v x (by grind) (by grind));have a4':oq P w I β hp h1 u1 fun I' μ hp0=> ∀rest,ai P w I' μ hp0 v (jQ l (d1++rest)):=a4;refine ⟨h2,vT,d1++d2,u1++u2,b1,a2.trans b2,by simp only[gI,lE];omega,by simp[b5],fun I' μ hp0 i1 i2 ρ m dR cE rest=> ?_⟩;have k1:=(a4'.later b2) I' μ hp0 i1 i2 ρ m dR cE (d2++rest);obtain ⟨k2,k3⟩:=b4.more I' μ hp0 i1 i2 ρ m dR cE rest;simp only[gA];grind
theorem ahs {t:TypeId} {v:Value} {y:V} (hv:ai P w I β hp v y) (h:eU P t y=true):Plain P w I v y:=by
 cases y with
 | int k n=>exact hv.eY
 | bool b=>exact hv.kZ
 | str s=>obtain ⟨s',rfl,hs⟩:=hv.nf;exact ⟨s',rfl,hs⟩
 | list e es=>cases hv with
  | list hp'=>exact hp'
 | _=>unfold eU at h;grind
theorem Xp: ∀{ts:List TypeId} {ls:List LS},zq P ts ls=true→ts.length=ls.length∧∀(ds:List V) (j:Nat) t y,ts[j]? =some t→(gA ls ds)[j]? =some y→eU P t y=true
 | [],[],_=>⟨rfl,fun ds j t y h=>by simp at h⟩
 | [],_::_,h=>by cases h
 | _::_,[],h=>by cases h
 | t::ts,l::ls,h=>by
  simp only[zq,aK] at h;obtain ⟨h1,h2⟩:=Xp h.2;refine ⟨by simp[h1],fun ds j t' y ht hy=> ?_⟩;cases j with
  | succ j=>exact h2 _ j t' y (by grind) (by simpa[gA] using hy)
  | zero=>
   simp[gA] at ht hy;subst ht;subst hy;have h:=h.1;unfold eU;split at h<;>simp_all [jQ]
theorem aht (S:aA P w I β hp B M w0) {α:Type} {s:VS} {x:V} {h:Hand} {k:Hand→Rd α} {r:α} {rd:List Nat} {v:Value} (hr:(zr P s x h k).run C hp=some (r,rd)) (hv:ai P w I β hp v x):
  ∃h' fJ d u,(k h').run C hp=some (r,fJ)∧Ext P w I β hp h h' d u∧d.length=s.size∧
   oq P w I β hp h' u fun I' μ hp0=> ∀rest,ai P w I' μ hp0 v (mw s (d++rest)):=by
 cases s with
 | one l=>
  simp only[zr] at hr;obtain ⟨h1,iu,d1,u1,a1,a2,a3,a4⟩:=Xo S hr hv;exact ⟨h1,iu,d1,u1,a1,a2,a3,a4⟩
 | agg ls=>
  cases x<;>simp only[zr] at hr<;>first|(cases hr;done)|skip
  rename_i xs;obtain ⟨cs,rfl,e1,e2⟩:=hv.la;obtain ⟨h1,iu,d1,u1,a1,a2,a3,a5,a4⟩:=Dx S hr (vs:=cs.toList) (by omega) (fun j v x hj hx=>e2 j v x (by grind) hx);refine ⟨h1,iu,d1,u1,a1,a2,a3,fun I' μ hp0 i1 i2 ρ m dR cE rest=> ?_⟩;obtain ⟨k1,k2⟩:=a4 I' μ hp0 i1 i2 ρ m dR cE rest;exact .agg (by omega) fun j v y hj hy=>k2 j v y (by grind) hy
 | aX ls=>cases x<;>cases hr
 | pref ts ls=>
  have cells: ∀{xs:List V} {vs:List Value} {h0:Hand} {Xq:List Nat},(tA P ls xs h0 k).run C hp=some (r,Xq)→vs.length=xs.length→zq P ts ls=true→(∀(j:Nat) v x,vs[j]? =some v→xs[j]? =some x→ai P w I β hp v x)→
    ∃h' fJ d u,(k h').run C hp=some (r,fJ)∧Ext P w I β hp h0 h' d u∧d.length=lE ls∧ls.length=xs.length∧oq P w I β hp h' u fun I' μ hp0=> ∀rest,(gA ls (d++rest)).length=xs.length∧ts.length=xs.length∧
     ∀(j:Nat) t v y,vs[j]? =some v→ts[j]? =some t→(gA ls (d++rest))[j]? =some y→Pure P w I' t v y:=by
   intro xs vs h0 Xq hr0 hl en hv0;obtain ⟨h1,iu,d1,u1,a1,a2,a3,a5,a4⟩:=Dx S hr0 hl hv0;obtain ⟨t1,t2⟩:=Xp en;refine ⟨h1,iu,d1,u1,a1,a2,a3,a5,fun I' μ hp0 i1 i2 ρ m dR cE rest=> ?_⟩;obtain ⟨k1,k2⟩:=a4 I' μ hp0 i1 i2 ρ m dR cE rest;exact ⟨k1,t1.trans a5,fun j t v y hj ht hy=>(ahs (k2 j v y hj hy) (t2 _ j t y ht hy)).pure (t2 _ j t y ht hy)⟩
  cases x<;>simp only[zr] at hr<;>first|(cases hr;done)|skip
  ·rename_i id i c;obtain ⟨l0,ue⟩:=run_get hr;clear hr;cases ab:hp id with
   | none=>rw[ab] at ue;cases ue
   | some blk=>
    rw[ab] at ue;cases blk<;>simp only at ue<;>first|(cases ue;done)|skip
    rename_i T cs;obtain ⟨hc,np⟩:=aD ue;clear ue;simp only[aK,aN,fk] at hc;obtain ⟨rfl,en,hle⟩:=hc;obtain ⟨b,hb,rfl⟩:=hv.gP ab (by simp);have cK:=S.h.rel id _ ab;rw[hb] at cK;cases cK with
    | @var _ _ Ca _ ay hh hs hI hx _=>
    cases ay;obtain ⟨h1,iu,d1,u1,a1,a2,a3,a5,a4⟩:=cells np (vs:=(Ca.toList.drop c).take ls.length) (by simp;omega) en (fun j v x hj cW=>by
     grind)
    refine ⟨h1,iu,d1,(id,.var T cs)::u1,a1,⟨a2.ds,by rw[a2.upd];simp,fun q hq=> ?_,a2.pl,a2.nodup⟩,a3,fun I' μ hp0 i1 i2 ρ m dR cE rest=> ?_⟩
    ·rcases lz.1 hq with rfl|hq
     ·exact .inr ⟨T,cs,rfl,ab⟩
     ·exact a2.Jm q hq
    ·obtain ⟨k1,k2,k3⟩:=a4 I' μ hp0 i1 (fun q hq=>i2 q (ka _ hq)) ρ m dR cE rest;have hn:(gA ls (d1++rest)).length=ls.length:=k1.trans a5.symm;simp only[mw,ag.sz,Nat.zero_mul,eT];refine .pref (k2.trans k1.symm) (fun j hj=>i2 _ (zc ..) b (c+j) ⟨_,ab,.var hb (by omega)⟩) (fun j t y ht hy=> ?_);have hj:=(ct.1 hy).1;have qP:c+j<Ca.size:=by omega
     refine ⟨Ca[c+j],by rw[cell?_cells hh];grind,k3 j t _ y ?_ ht hy⟩;grind
  ·rename_i rR cs;obtain ⟨hc,np⟩:=aD hr;clear hr;simp only[aK,fk] at hc;obtain ⟨Xr,en,hle⟩:=hc;have Xr:=xw Xr;obtain ⟨b,o,rfl,q1,q2,q3⟩:=hv.CU;have hg: ∀j,j<cs.length→∃v,w.cell? ⟨b,o+j,none⟩=some v∧∃t,rR[j]? =some t∧∀x,cs[j]? =some x→Pure P w I t v x:=fun j hj=>by
    simp_all
   let vs:List Value:=(List.range ls.length).map fun j=>(w.cell? ⟨b,o+j,none⟩).getD undef
   have IM: ∀(j:Nat),j<ls.length→vs[j]? =some ((w.cell? ⟨b,o+j,none⟩).getD undef):=fun j hj=>by grind
   obtain ⟨h1,iu,d1,u1,a1,a2,a3,a5,a4⟩:=cells np (vs:=vs) (by grind) en (fun j v x hj cW=>by
    have dn:j<ls.length:=by grind
    rw[gX dn] at cW;obtain ⟨v',v1,t,_,v2⟩:=hg j (by omega);rw[IM j dn,v1] at hj;cases hj;exact .rV (v2 x cW))
   refine ⟨h1,iu,d1,u1,a1,a2,a3,fun I' μ hp0 i1 i2 ρ m dR cE rest=> ?_⟩;obtain ⟨k1,k2,k3⟩:=a4 I' μ hp0 i1 i2 ρ m dR cE rest;have hn:(gA ls (d1++rest)).length=ls.length:=k1.trans a5.symm;refine .pref (k2.trans k1.symm) (fun j hj=>i1 _ _ (q2 j (by omega))) (fun j t y ht hy=> ?_);grind
 | fn f a b=>
  cases x<;>simp only[zr] at hr<;>first|(cases hr;done)|skip
  rename_i f' xs ys;obtain ⟨hc,np⟩:=aD hr;clear hr;rw[aN] at hc;subst hc;cases hv with
  | @fn _ fs cs _ _ q1 q2 q3 q4=>
   obtain ⟨h1,iu,d1,u1,a1,a2,a3,a5,a4⟩:=Dx S np (vs:=fs.toList) (by omega) (fun j v x hj hx=>q2 j v x (by grind) hx);obtain ⟨h2,vT,d2,u2,b1,b2,b3,b5,b4⟩:=Dx S a1 (vs:=cs.toList) (by omega) (fun j v x hj hx=>q4 j v x (by grind) hx);refine ⟨h2,vT,d1++d2,u1++u2,b1,a2.trans b2,by simp only[gI,VS.size];omega,fun I' μ hp0 i1 i2 ρ m dR cE rest=> ?_⟩;obtain ⟨k1,k2⟩:=(a4.later b2) I' μ hp0 i1 i2 ρ m dR cE (d2++rest);obtain ⟨k3,k4⟩:=b4.more I' μ hp0 i1 i2 ρ m dR cE rest;simp only[mw];rw[show (d1++d2++rest).drop (lE a)=d2++rest by grind,jO];exact .fn (by omega) (fun j v y hj hy=>k2 j v y (by grind) hy) (by omega) (fun j v y hj hy=>k4 j v y (by grind) hy)
theorem Pl (S:aA P w I β hp B M w0) {α:Type}: ∀{ls:List VS} {xs:List V} {h:Hand} {k:Hand→Rd α} {r:α} {rd:List Nat} {vs:List Value},(Ct P ls xs h k).run C hp=some (r,rd)→vs.length=xs.length→
  (∀(j:Nat) v x,vs[j]? =some v→xs[j]? =some x→ai P w I β hp v x)→
  ∃h' fJ d u,(k h').run C hp=some (r,fJ)∧Ext P w I β hp h h' d u∧d.length=vr ls∧ls.length=xs.length∧
   oq P w I β hp h' u fun I' μ hp0=> ∀rest,(ia ls (d++rest)).length=xs.length∧∀(j:Nat) v y,vs[j]? =some v→(ia ls (d++rest))[j]? =some y→ai P w I' μ hp0 v y
 | [],[],h,k,r,rd,vs,hr,hl,hv=>⟨h,rd,[],[],hr,Ext.refl h,rfl,rfl,fun I' μ hp0 _ _ _ _ _ _ rest=>⟨rfl,fun j v y _ hy=>by grind⟩⟩
 | [],_::_,h,k,r,rd,vs,hr,hl,hv=>by cases hr
 | _::_,[],h,k,r,rd,vs,hr,hl,hv=>by cases hr
 | l::ls,x::xs,h,k,r,rd,vs,hr,hl,hv=>by
  cases vs with
  | nil=>simp at hl
  | cons v vs=>
   simp only[Ct] at hr;obtain ⟨h1,iu,d1,u1,a1,a2,a3,a4⟩:=aht S hr (hv 0 v x rfl rfl);obtain ⟨h2,vT,d2,u2,b1,b2,b3,b5,b4⟩:=Pl S a1 (by grind) (vs:=vs) (fun j v x hj hx=>hv (j+1) v x (by grind) (by grind));refine ⟨h2,vT,d1++d2,u1++u2,b1,a2.trans b2,by simp only[gI,vr];omega,by simp[b5],fun I' μ hp0 i1 i2 ρ m dR cE rest=> ?_⟩;have k1:=(a4.later b2) I' μ hp0 i1 i2 ρ m dR cE (d2++rest);obtain ⟨k2,k3⟩:=b4.more I' μ hp0 i1 i2 ρ m dR cE rest;simp only[ia];grind
def Jn:List BS→Nat
 | []=>0
 | b::l=>b.size+Jn l
theorem Xs: ∀{b:Nat} {e e':TypeId} {es:List V} {v:V},(∀q b' e' m,At P w b e es q b' e' m→gm P w I b' e' m)→∀(path:Path),mu P e path=some e'→eV P e es path=some v→0<v.toList.length→
  ∃b1,At P w b e es path b1 e' v.toList
 | b,e,e',es,v,c6,[],ht,hv,hl=>by
  simp only[mu,ey] at ht;simp only[eV,ey] at hv;subst ht;subst hv;exact ⟨b,.here⟩
 | b,e,e',es,v,c6,(i,c)::q,ht,hv,hl=>by
  simp only[mu] at ht;simp only[eV] at hv;obtain ⟨x,hx,hv⟩:=bind_some hv;cases Xt:(mu.Cl P e)[c]? with
  | none=>grind
  | some t=>
   rw[Xt] at ht;simp only at ht;have Pm:(aP P e)[c]? =some t:=Xt;cases hu:P.underlying t with
   | none=>grind
   | some d=>
    rw[hu] at ht;cases d<;>simp only at ht<;>first|(cases ht;done)|skip
    rename_i e1;rw[pS Pm] at hv;have hR:=c6 _ _ _ _ .here;obtain ⟨Ca,_,c1,_,c2,c3⟩:=hR.cells;have xe:c<P.cellsOf e:=by rw[←eC hR.ok];grind
    obtain ⟨u,d1,d2⟩:=c3 i c x t hx Pm xe;rw[d2.vI] at hv;generalize hy:bX P e x c=y at d2 hv;cases d2 with
    | fu a p=>unfold dF at a;grind
    | @emp e2 a o5=>
     rw[hu] at o5;cases o5;simp only at hv;cases q with
     | nil=>simp only[eV,ey] at hv;subst hv;simp[V.toList] at hl
     | cons a q=>simp[eV] at hv
    | @row e2 bJ b2 cap o5 kX aU bP qK=>
     rw[hu] at o5;cases o5;simp only at hv;have tM: ∀{q b' e' aL},At P w b2 e1 bJ q b' e' aL→At P w b e es ((i,c)::q) b' e' aL:=fun h=> .step c1 hx Pm hu hy kX d1 h;obtain ⟨b1,pW⟩:=Xs (fun q b' e' m h=>c6 _ _ _ _ (tM h)) q ht hv hl;grind
def uf (P:Program) (I:Nat→Nat→Prop) (blk:ag) (b:Nat):Prop:= ∀j,I b j→∃e es,blk= .arr e es true∧j<es.length*P.cellsOf e
theorem uf.no {blk:ag} {b:Nat} (h:uf P I blk b) (hn: ∀e es,blk≠ .arr e es true) (j:Nat): ¬I b j:=fun hi=>by
 obtain ⟨e,es,h1,_⟩:=h j hi;exact hn e es h1
theorem Xu (S:aA P w I β hp B M w0) {α:Type}: ∀{bs:List BS} {j:Nat} {h:Hand} {k:Hand→Rd α} {r:α} {rd:List Nat},(tB P bs j h k).run C hp=some (r,rd)→
  ∃h' fJ d u,(k h').run C hp=some (r,fJ)∧Ext P w I β hp h h' d u∧d.length=Jn bs∧
   ∀rest,(fT bs (d++rest)).length=bs.length∧∃o:Nat→Option Nat,
    (∀(i:Nat) blk,(fT bs (d++rest))[i]? =some blk→∃p,fq h'.pl (j+i)=some p∧fe P w β hp p (o i) blk)∧
    oq P w I β hp h' u fun I' μ hp0=> ∀(i:Nat) blk,(fT bs (d++rest))[i]? =some blk→(∀b,bd P w (o i) blk b→uf P I' blk b)→ei P w I' μ hp0 (o i) blk
 | [],j,h,k,r,rd,hr=>⟨h,rd,[],[],hr,Ext.refl h,rfl,fun rest=>⟨rfl,fun _=>none,fun i blk hb=>by simp[fT] at hb,fun I' μ hp0 _ _ _ _ _ _ i blk hb=>by simp[fT] at hb⟩⟩
 | b::bs,j,h,k,r,rd,hr=>by
  simp only[tB] at hr;have fin: ∀{h1:Hand} {iu:List Nat} {d1:List V} {u1:List (Nat×ag)} {o1:Option Nat} {p:Place},(tB P bs (j+1) h1 k).run C hp=some (r,iu)→Ext P w I β hp h h1 d1 u1→d1.length=b.size→fq h.pl j=some p→
    (∀rest,fe P w β hp p o1 (gk b (d1++rest)))→(∀rest,oq P w I β hp h1 u1 fun I' μ hp0=>(∀bb,bd P w o1 (gk b (d1++rest)) bb→uf P I' (gk b (d1++rest)) bb)→ei P w I' μ hp0 o1 (gk b (d1++rest)))→
    ∃h' fJ d u,(k h').run C hp=some (r,fJ)∧Ext P w I β hp h h' d u∧d.length=Jn (b::bs)∧
     ∀rest,(fT (b::bs) (d++rest)).length=(b::bs).length∧∃o:Nat→Option Nat,
      (∀(i:Nat) blk,(fT (b::bs) (d++rest))[i]? =some blk→∃p,fq h'.pl (j+i)=some p∧fe P w β hp p (o i) blk)∧
      oq P w I β hp h' u fun I' μ hp0=> ∀(i:Nat) blk,(fT (b::bs) (d++rest))[i]? =some blk→(∀b,bd P w (o i) blk b→uf P I' blk b)→ei P w I' μ hp0 (o i) blk:=by
   intro h1 iu d1 u1 o1 p hk he hd bG hl ht;obtain ⟨h2,vT,d2,u2,b1,b2,b3,b4⟩:=Xu S hk;refine ⟨h2,vT,d1++d2,u1++u2,b1,he.trans b2,by simp only[gI,Jn];omega,fun rest=> ?_⟩;obtain ⟨c1,o,c2,c3⟩:=b4 rest;simp only[fT];rw[show (d1++d2++rest).drop b.size=d2++rest by grind,jO];refine ⟨by simp[c1],fun i=>match i with|0=>o1|i+1=>o i,fun i blk hb=> ?_,fun I' μ hp0 i1 i2 ρ m dR cE i blk hb da=> ?_⟩
   ·cases i with
    | zero=>
     simp at hb;subst hb;exact ⟨p,b2.look (he.look bG),hl _⟩
    | succ i=>
     grind
   ·cases i with
    | zero=>
     simp at hb;subst hb;exact ((ht _).later b2) I' μ hp0 i1 i2 ρ m dR cE da
    | succ i=>exact c3.more I' μ hp0 i1 i2 ρ m dR cE i blk (by grind) da
  cases bG:fq h.pl j with
  | none=>rw[bG] at hr;cases hr
  | some p=>
   rw[bG] at hr;cases p with
   | blk id=>
    obtain ⟨l1,hr⟩:=run_get hr;cases ab:hp id with
    | none=>rw[ab] at hr;cases hr
    | some blk=>
     rw[ab] at hr;cases blk with
     | dead=>cases hr
     | out _ _ _ _=>cases hr
     | var T0 cs=>
      cases b<;>simp only at hr<;>first|(cases hr;done)|skip
      rename_i T1 ss;obtain ⟨hT,ue⟩:=aD hr;clear hr;rw[aN] at hT;subst hT;have cK:=S.h.rel id _ ab;generalize ho:β id=o at cK;cases cK with
      | @var _ bb Ca T hb hh hs hI hx gO=>
       obtain ⟨h1,iu,d1,u1,a1,a2,a3,a5,a4⟩:=Pl S ue (vs:=Ca.toList) (by omega) (fun j v x hj cW=>hx j v x (by grind) cW);refine fin (o1:=β id) a1 a2 a3 bG (fun rest=> .var ab) fun rest I' μ hp0 i1 i2 ρ m dR cE da=> ?_;obtain ⟨k1,k2⟩:=a4 I' μ hp0 i1 i2 ρ m dR cE rest;exact .var (ho.trans hb) hh (by omega) ((da _ (.root (by simp[gk]) (ho.trans hb))).no (by simp[gk])) (fun i v y hi hy=>k2 i v y (by grind) hy) gO
     | arr e' es fz=>
      cases b with
      | arr e oe=>
       obtain ⟨hc,np⟩:=aD hr;clear hr;simp only[aK,aN] at hc;obtain ⟨rfl,fc⟩:=hc;obtain rfl:oe=fz:=by cases fz<;>cases oe<;>first|rfl|cases fc
       refine fin (d1:=[.list e es]) (o1:=β id) np (Ext.leaf h _) rfl bG (fun rest=>fe.arr ab) fun rest I' μ hp0 i1 i2 ρ m dR cE da=> ?_;replace da: ∀bb,bd P w (β id) (.arr e es oe) bb→uf P I' (.arr e es oe) bb:=da;change ei P w I' μ hp0 (β id) (.arr e es oe);have cK:=S.h.rel id _ ab;generalize ho:β id=o at cK da⊢;cases cK with
       | dY hb=>exact .dY hb
       | arr a0 a1 a2 a3 a4 a5 a6 a7=>
        have hn:=da _ (.root (by simp) a2);refine .arr a0 a1 a2 a3 a4 (fun _ j hi=> ?_) (fun hz=>hn.no (by simp[hz])) fun i j x t' y1 y2 y3=> ?_
        ·obtain ⟨e',aL,h1,h2⟩:=hn j hi;cases h1;exact h2
        ·obtain ⟨v,z1,z2⟩:=a7 i j x t' y1 y2 y3;exact ⟨v,z1,z2.mono i1 fun _ _ _=>rfl⟩
      | _=>cases hr
     | nest e' es vers=>
      cases b with
      | nest e=>
       obtain ⟨hc,np⟩:=aD hr;clear hr;rw[aN] at hc;subst hc;refine fin (d1:=[.list e es]) (o1:=β id) np (Ext.leaf h _) rfl bG (fun rest=>fe.nest ab) fun rest I' μ hp0 i1 i2 ρ m dR cE da=> ?_;have Xv: ∀bb,bd P w (β id) (.nest e es [0,0,0]) bb→∀j,¬I' bb j:=fun bb h=>uf.no (blk:= .nest e es [0,0,0]) (da bb h) (by simp);change ei P w I' μ hp0 (β id) (.nest e es [0,0,0]);have cK:=S.h.rel id _ ab;generalize ho:β id=o at cK Xv⊢;cases cK with
       | gD hb=>exact .gD hb
       | nest hb c6 kg=>
        refine .nest hb (fun q b' e1 m1 hq=> ?_) kg;obtain ⟨ok,⟨Ca,Tc,c1,c0,c2,c3⟩,nI⟩:=c6 q b' e1 m1 hq;refine ⟨ok,⟨Ca,Tc,c1,c0,c2,fun i j x t' y1 y2 y3=> ?_⟩,Xv _ (.row hb hq)⟩;obtain ⟨v,z1,z2⟩:=c3 i j x t' y1 y2 y3;exact ⟨v,z1,z2.mono i1 (fun _ _ _=>rfl) fun _ _ _ _ _=>rfl⟩
      | _=>cases hr
     | map t' es=>
      cases b with
      | map t=>
       obtain ⟨hc,np⟩:=aD hr;clear hr;rw[aN] at hc;subst hc;refine fin (d1:=[.list t es]) (o1:=β id) np (Ext.leaf h _) rfl bG (fun rest=>fe.map ab) fun rest I' μ hp0 i1 i2 ρ m dR cE da=> ?_;change ei P w I' μ hp0 (β id) (.map t es);have cK:=S.h.rel id _ ab;generalize ho:β id=o at cK da⊢;cases cK with
       | map a1 a2 a3 a4 a5 a6 a7=>exact .map a1 a2 a3 a4 ((da _ (.root (by simp[gk]) a2)).no (by simp[gk])) a6 a7
      | _=>cases hr
   | row id ver path=>
    obtain ⟨e0,es,vers,l1,k1,k2,k3,k4,k5⟩:=pR hr;obtain ⟨e',vv,m1,m2,m3⟩:=zA k5;cases b with
    | arr e fz=>
     cases fz with
     | true=>cases m3
     | false=>
      obtain ⟨hc,m4⟩:=aD m3;clear m3;simp only[aK,aN,nR] at hc;obtain ⟨rfl,Dy,kX⟩:=hc;have cK:=S.h.rel id _ k1;cases hb:β id with
      | none=>
       rw[hb] at cK;cases cK with
       | nest ay _ _=>cases ay
       | gD _=>
        cases path with
        | nil=>grind
        | cons p q=>obtain ⟨i,c⟩:=p;simp[eV] at m2
      | some b0=>
       rw[hb] at cK;cases cK with
       | gD ay=>cases ay
       | nest ay c6 kg=>
        cases ay;obtain ⟨b1,eX⟩:=Xs c6 path m1 m2 kX;refine fin (d1:=[.list e vv.toList]) (o1:=some b1) m4 (Ext.leaf h _) rfl bG (fun rest=>fe.row k1 hb eX Dy k2 k3 k4 kX) fun rest I' μ hp0 i1 i2 ρ m dR cE da=> ?_;change ei P w I' μ hp0 (some b1) (.arr e vv.toList false);obtain ⟨ok,⟨Ca,Tc,c1,c0,c2,c3⟩,nI⟩:=c6 _ _ _ _ eX;refine .arr c0 ok rfl c1 c2 (fun h=>by cases h) (fun _=>(da _ (.root (by simp[gk]) rfl)).no (by simp[gk])) fun i j x t' y1 y2 y3=> ?_;obtain ⟨v,z1,z2⟩:=c3 i j x t' y1 y2 y3;refine ⟨v,z1,?_⟩;generalize bX P e x j=y at z2⊢;cases z2 with
        | fu _ p=>exact p.mono i1 fun _ _ _=>rfl
        | emp hu=>exact absurd hu (Xw Dy y2 _)
        | row hu _ _ _ _=>exact absurd hu (Xw Dy y2 _)
    | _=>cases m3
where
 Xw {e t:TypeId} {j:Nat} (h:Cp P e=true) (ht:(aP P e)[j]? =some t) (e':TypeId):P.underlying t≠some (.slice e'):=by
  intro hu;have h2:=fF.1 h t (kO ht);grind
end
section
variable {P:Program} {A:di} {w w':World} {I I' I2:Nat→Nat→Prop} {μ β β' cB:Nat→Option Nat} {hp hp' hp0 bG:Nat→Option ag} {C:af} {B:Nat} {M:Nat→Prop} {w0:Start}
structure nq (w:World) (I:Nat→Nat→Prop) (β:Nat→Option Nat) (hp:Nat→Option ag) (w':World) (I':Nat→Nat→Prop) (β':Nat→Option Nat) (hp':Nat→Option ag):Prop where
 dZ: ∀b j,I b j→I' b j
 cH: ∀b j,I b j→w'.cell? ⟨b,j,none⟩=w.cell? ⟨b,j,none⟩
 blk: ∀id blk,hp id=some blk→∃blk',hp' id=some blk'∧blk.le blk'∧(blk'≠ .dead→β' id=β id)
 size: ∀id blk blk' b,hp id=some blk→hp' id=some blk'→blk'≠ .dead→β id=some b→bsize w' b=bsize w b
theorem Le.zX (h:Le P w I β hp w' I' β' hp'):nq w I β hp w' I' β' hp':=⟨h.dZ,h.cH,h.blk,h.size⟩
theorem nq.trans {CG:World} {CH:Nat→Nat→Prop} {CI:Nat→Option Nat} {CJ:Nat→Option ag} (h1:nq w I β hp w' I' β' hp') (h2:nq w' I' β' hp' CG CH CI CJ):nq w I β hp CG CH CI CJ:=by
 refine ⟨fun b j h=>h2.dZ b j (h1.dZ b j h),fun b j h=>(h2.cH b j (h1.dZ b j h)).trans (h1.cH b j h),fun id blk h=> ?_,fun id blk w7 b h Iy hd hb=> ?_⟩
 ·obtain ⟨blk',e',l',b'⟩:=h1.blk id blk h;obtain ⟨w7,dG,CK,b''⟩:=h2.blk id blk' e';refine ⟨w7,dG,ag.le_trans l' CK,fun hd=> ?_⟩;have eW:blk'≠ .dead:=fun e=>hd (ag.rW (e▸CK));grind
 ·obtain ⟨blk',e',l',b'⟩:=h1.blk id blk h;obtain ⟨js,e3,l3,b3⟩:=h2.blk id blk' e';obtain rfl:js=w7:=by grind
  have eW:blk'≠ .dead:=fun e=>hd (ag.rW (e▸l3));rw[h2.size id blk' js b e' e3 hd ((b' eW).trans hb),h1.size id blk blk' b h e' eW hb]
def ra (P:Program) (w:World) (μ:Nat→Option Nat) (hp0:Nat→Option ag) (b:Nat):Prop:= ∃j blk,hp0 j=some blk∧bd P w (μ j) blk b
structure ahu (P:Program) (A:di) (key:Nat) (w:World) (I:Nat→Nat→Prop) (μ:Nat→Option Nat) (ds es:List V) (w':World) (v:Value) (I2:Nat→Nat→Prop) (cB:Nat→Option Nat):Prop where
 zY:aA P w' I2 cB (bI (A.so key es) (A.lv key es)).hp w.heap.size (ra P w μ (bI (A.sin key) ds).hp) ⟨w,I⟩
 le:nq w I μ (bI (A.sin key) ds).hp w' I2 cB (bI (A.so key es) (A.lv key es)).hp
 res:ai P w' I2 cB (bI (A.so key es) (A.lv key es)).hp v (rS (gB (A.so key es).ch (A.lv key es)))
def nr (P:Program) (A:di) (C:af):Prop:=
 ∀key ds es,C key ds=some es→∃fn c,P.funcs[A.iD key]? =some fn∧fn.body=some c∧
  ∀(w:World) (I:Nat→Nat→Prop) (μ:Nat→Option Nat) (vals:List Value),
   w5 P w I μ (bI (A.sin key) ds).hp w.heap.size (ra P w μ (bI (A.sin key) ds).hp)→iF P A.aF w I→
   vals.length=(A.sin key).ch.length→(∀(j:Nat) v x,vals[j]? =some v→(ia ((A.sin key).ch.map (·.2)) ds)[j]? =some x→ai P w I μ (bI (A.sin key) ds).hp v x)→
   Calls P (A.iD key) vals.toArray w fun e w'=> ∃v I2 cB,e= .returned v∧ahu P A key w I μ ds es w' v I2 cB
theorem fe.xA {p:Place} {o:Option Nat} {blk:ag} {b:Nat} (h:fe P w β hp p o blk) (ho:bd P w o blk b):
  ∃sr,hp p.id=some sr∧bd P w (β p.id) sr b∧∀e es,sr= .arr e es true→blk= .arr e es true∧o=β p.id:=by
 cases h with
 | var h=>exact ⟨_,h,.root (by simp) (ho.flat (by simp)),by simp⟩
 | arr h=>exact ⟨_,h,.root (by simp) (ho.flat (by simp)),fun _ _ h=>⟨h,rfl⟩⟩
 | map h=>exact ⟨_,h,.root (by simp) (ho.flat (by simp)),by simp⟩
 | nest h=>
  refine ⟨_,h,?_,by simp⟩;cases ho with
  | root _ hb=>exact .root (by simp) hb
  | row hb ha=>exact .row hb ha
 | row h hb ha _ _ _ _ _=>
  have:=ho.flat (by simp)
  cases this;exact ⟨_,h,.row hb ha,by simp⟩
theorem aA.ahv (S:aA P w I β hp B M w0) {id b:Nat} {blk:ag} (ab:hp id=some blk) (ho:bd P w (β id) blk b) (hf: ∀e es,blk≠ .arr e es true): ∀j,¬I b j:=by
 have hr:=S.h.rel id blk ab;generalize β id=o at hr ho;cases hr with
 | var hb _ _ hI _ _=>have:=ho.flat (by simp);grind
 | dY hb=>have:=ho.flat (by simp);grind
 | @arr e _ es fz _ _ _ _ hb _ _ _ eN _=>
  have:=ho.flat (by simp)
  simp_all
 | dead=>exact absurd rfl ho.alive
 | map _ hb _ _ hI _ _=>have:=ho.flat (by simp);grind
 | out hb _ _ hh _ _ hI hc hr _=>
  cases ho with
  | root _ ay=>grind
  | oU ay xb hj hx h0 hv=>
   rw[hb] at ay;cases ay;rw[hh] at xb;cases xb;obtain ⟨_,_,m1,_⟩:=hc _ _ hj hx;cases m1;exact (hr _ _ _ _ hj hx h0 hv).2.nI
 | gD hb=>cases ho<;>simp_all
 | nest hb hr _=>
  cases ho with
  | root _ ay=>rw[hb] at ay;cases ay;exact (hr _ _ _ _ .here).nI
  | row ay ha=>rw[hb] at ay;cases ay;exact (hr _ _ _ _ ha).nI
theorem Jo {a b:List Nat} (h:zk a b=false) {x:Nat} (ha:x∈a):x∉b:=by
 intro hb;unfold zk at h;rw[List.any_eq_false] at h;exact h x ha (zH hb)
theorem ahw (S:aA P w I β hp B M w0) {pl:List Place} {upd:List (Nat×ag)} {o:Nat→Option Nat} (lg:(pl.map Place.id).Nodup) (Jp:zk (upd.map (·.1)) (pl.map Place.id)=false)
  (hl: ∀j blk,hp0 j=some blk→∃p,fq pl j=some p∧fe P w β hp p (o j) blk)
  (cK:(∀j blk,hp0 j=some blk→∀b,bd P w (o j) blk b→uf P (kh P w I β hp upd) blk b)→∀j blk,hp0 j=some blk→ei P w (kh P w I β hp upd) o hp0 (o j) blk) (aY: ∀b j,kh P w I β hp upd b j→b<w.heap.size):
  w5 P w (kh P w I β hp upd) o hp0 w.heap.size (ra P w o hp0):=by
 have da: ∀j blk,hp0 j=some blk→∀b,bd P w (o j) blk b→uf P (kh P w I β hp upd) blk b:=by
  intro j blk hj b ho jj hI;obtain ⟨p,bG,eD⟩:=hl j blk hj;obtain ⟨sr,k1,k2,k3⟩:=eD.xA ho;rcases hI with hI|⟨q,hq,cw,q1,q2⟩
  ·by_cases hz: ∃e es,sr= .arr e es true
   ·obtain ⟨e,es,rfl⟩:=hz;obtain ⟨rfl,h4⟩:=k3 e es rfl;refine ⟨e,es,rfl,?_⟩;have hr:=S.h.rel _ _ k1;have hb:=k2.flat (by simp)
    generalize β p.id=o' at hr hb;cases hr with
    | dY h=>rw[hb] at h;cases h
    | arr _ _ a2 _ _ a5 _ _=>rw[hb] at a2;cases a2;exact a5 rfl jj hI
   ·exact absurd hI (S.ahv k1 k2 (fun e es h=>hz ⟨e,es,h⟩) jj)
  ·exfalso;have:=S.h.inj _ _ _ _ b q1 k1 q2.own k2;refine Jo Jp (ez.2 ⟨q,hq,rfl⟩) ?_;rw[this];rw[oo] at bG;grind
 refine ⟨cK da,fun j1 j2 b1 b2 b h1 h2 o1 o2=> ?_,fun j blk b h1 o1=> .inl ⟨j,blk,h1,o1⟩,aY⟩;obtain ⟨p1,q1,q2⟩:=hl j1 b1 h1;obtain ⟨p2,r1,r2⟩:=hl j2 b2 h2;obtain ⟨c1,x1,x2,_⟩:=q2.xA o1;obtain ⟨c2,y1,y2,_⟩:=r2.xA o2;have ab:=S.h.inj _ _ _ _ b x1 y1 x2 y2;rw[oo] at q1 r1;have m1:(pl.map Place.id)[j1]? =some p1.id:=by grind
 have m2:(pl.map Place.id)[j2]? =some p2.id:=by grind
 rw[←ab] at m2;obtain ⟨z1,z2⟩:=ct.1 m1;obtain ⟨z3,z4⟩:=ct.1 m2;exact (List.getElem_inj lg).1 (z2.trans z4.symm)
def Xx:V→Prop
 | .list .. =>False
 | .pref .. =>False
 | .agg _=>False
 | .aX _=>False
 | .fn .. =>False
 | _=>True
theorem ai.free {v:Value} {x:V} (h:ai P w I β hp v x) (hx:Xx x):ai P w I' β hp v x:=by
 cases h with
 | undef=>exact .undef
 | int=>exact .int
 | bool=>exact .bool
 | str h=>exact .str h
 | list h=>exact hx.elim
 | nilS=>exact .nilS
 | agg=>exact hx.elim
 | aX=>exact hx.elim
 | eg=>exact .eg
 | fn=>exact hx.elim
 | pref=>exact hx.elim
 | dH h=>exact .dH h
 | ij h=>exact .ij h
 | kS h=>exact .kS h
 | dD h hb=>exact .dD h hb
 | whole h hb a b c=>exact .whole h hb a b c
 | dw h hb a b c=>exact .dw h hb a b c
 | dO h hb=>exact .dO h hb
 | eB h hb a b c=>exact .eB h hb a b c
 | gC h hb=>exact .gC h hb
 | sub h hb a b c=>exact .sub h hb a b c
 | ptr h hd hb=>exact .ptr h hd hb
 | kU h tW=>exact .kU h tW
 | kV h tW=>exact .kV h tW
 | row h hb a b c d=>exact .row h hb a b c d
 | dq h hb a b c d e=>exact .dq h hb a b c d e
 | eu=>exact .eu
 | jV h=>exact .jV h
 | cN h hb=>exact .cN h hb
theorem Dz {l:LS} {ds:List V} (hs:l.safe=true):Xx (jQ l ds):=by
 cases l<;>simp only[LS.safe] at hs<;>first|(cases hs;done)|trivial
theorem DA: ∀{ls:List LS} {ds:List V} {j:Nat} {y:V},(gA ls ds)[j]? =some y→∃l iZ,l∈ls∧y=jQ l iZ
 | [],ds,j,y,h=>by simp[gA] at h
 | l::ls,ds,j,y,h=>by
  simp only[gA] at h;cases j with
  | zero=>grind
  | succ j=>
   obtain ⟨l',iZ,h1,h2⟩:=DA (j:=j) (by simpa using h);grind
theorem Xy: ∀{ls:List VS} {ds:List V} {j:Nat} {y:V},(ia ls ds)[j]? =some y→∃l iZ,l∈ls∧y=mw l iZ
 | [],ds,j,y,h=>by simp[ia] at h
 | l::ls,ds,j,y,h=>by
  simp only[ia] at h;cases j with
  | zero=>grind
  | succ j=>
   obtain ⟨l',iZ,h1,h2⟩:=Xy (j:=j) (by simpa using h);grind
theorem Xz {s:VS} {ds:List V} {v:Value} (h:ai P w I β hp v (mw s ds)) (hs:s.safe=true):ai P w I' β hp v (mw s ds):=by
 cases s with
 | one l=>exact h.free (Dz hs)
 | agg ls=>
  simp only[mw] at h⊢;obtain ⟨cs,rfl,e1,e2⟩:=h.la;refine .agg e1 fun j v x hj hx=> ?_;obtain ⟨l,iZ,k1,rfl⟩:=DA hx;exact (e2 j v _ hj hx).free (Dz (fF.1 hs l k1))
 | aX ls=>
  simp only[mw] at h⊢;obtain ⟨cs,rfl,e1,e2⟩:=h.xg;refine .aX e1 fun j v x hj hx=> ?_;obtain ⟨l,iZ,k1,rfl⟩:=DA hx;exact (e2 j v _ hj hx).free (Dz (fF.1 hs l k1))
 | fn f a b=>
  simp only[VS.safe,aK] at hs;simp only[mw] at h⊢;cases h with
  | fn a1 a2 b1 b2=>
   refine .fn a1 (fun j v x hj hx=> ?_) b1 (fun j v x hj hx=> ?_)
   ·obtain ⟨l,iZ,k1,rfl⟩:=DA hx;exact (a2 j v _ hj hx).free (Dz (fF.1 hs.1 l k1))
   ·obtain ⟨l,iZ,k1,rfl⟩:=DA hx;exact (b2 j v _ hj hx).free (Dz (fF.1 hs.2 l k1))
 | pref ts ls=>cases hs
theorem Pure.scalar {t:TypeId} {v:Value} {x:V} (h:Pure P w I t v x) (hn: ∀e,P.underlying t≠some (.slice e)):Pure P w I' t v x:=by
 cases h with
 | int h=>exact .int h
 | bool h=>exact .bool h
 | str h hl=>exact .str h hl
 | nil h=>grind
 | emp h=>grind
 | list g h=>grind
theorem ahx {e t:TypeId} {j:Nat} (h:Cp P e=true) (ht:(aP P e)[j]? =some t) (e':TypeId):P.underlying t≠some (.slice e'):=by
 intro hu;have h2:=fF.1 h t (kO ht);grind
theorem ahy {o:Option Nat} {b:BS} {ds:List V} (h:ei P w I2 β hp o (gk b ds)) (hs:b.safe P=true) (hi: ∀b j,I b j→I2 b j):ei P w I β hp o (gk b ds):=by
 cases b with
 | dead=>exact .dead
 | var T0 ls=>
  simp only[gk] at h⊢;cases h with
  | var hb hh aU hI hx gO=>
   refine .var hb hh aU (fun j h=>hI j (hi _ j h)) (fun j v x hj cW=> ?_) gO;obtain ⟨l,iZ,k1,rfl⟩:=Xy cW;exact Xz (hx j v _ hj cW) (fF.1 hs l k1)
 | arr e fz=>
  simp only[BS.safe,aK,mn] at hs;obtain ⟨rfl,Dy⟩:=hs;simp only[gk] at h⊢;generalize (V.nth ds 0).toList=es at h⊢;cases h with
  | dY hb=>exact .dY hb
  | arr a0 a1 a2 a3 a4 a5 a6 a7=>
   refine .arr a0 a1 a2 a3 a4 (fun h=>by cases h) (fun _ j h=>a6 rfl j (hi _ j h)) fun i j x t' y1 y2 y3=> ?_;obtain ⟨v,z1,z2⟩:=a7 i j x t' y1 y2 y3;exact ⟨v,z1,z2.scalar (ahx Dy y2)⟩
 | nest e=>
  simp only[gk] at h⊢;generalize (V.nth ds 0).toList=es at h⊢;cases h with
  | gD hb=>exact .gD hb
  | nest hb c6 kg=>
   refine .nest hb (fun q b' e1 m1 hq=> ?_) kg;obtain ⟨ok,⟨Ca,Tc,c1,c0,c2,c3⟩,nI⟩:=c6 q b' e1 m1 hq;refine ⟨ok,⟨Ca,Tc,c1,c0,c2,fun i j x t' y1 y2 y3=> ?_⟩,fun j h=>nI j (hi _ j h)⟩;obtain ⟨v,z1,z2⟩:=c3 i j x t' y1 y2 y3;refine ⟨v,z1,?_⟩;generalize bX P e1 x j=y at z2⊢;cases z2 with
   | fu a p=>
    refine .fu a (p.scalar fun e hu=> ?_);unfold dF at a;grind
   | emp a=>exact .emp a
   | row a b c d e=>exact .row a b c d e
 | map t=>
  simp only[gk] at h⊢;cases h with
  | map a1 a2 a3 a4 a5 a6 a7=>exact .map a1 a2 a3 a4 (fun j h=>a5 j (hi _ j h)) a6 a7
theorem Jq: ∀{l:List BS} {ds:List V} {j:Nat} {y:ag},(fT l ds)[j]? =some y→∃b iZ,l[j]? =some b∧y=gk b iZ
 | [],ds,j,y,h=>by simp[fT] at h
 | b::l,ds,j,y,h=>by
  simp only[fT] at h;cases j with
  | zero=>grind
  | succ j=>
   obtain ⟨b',iZ,h1,h2⟩:=Jq (j:=j) (by simpa using h);grind
theorem XA: ∀{l:List (Nat×VS)} {ds:List V} {q:Nat×V},q∈gB l ds→∃s iZ,(q.1,s)∈l∧q.2=mw s iZ
 | [],ds,q,h=>by simp[gB] at h
 | (k,s)::l,ds,q,h=>by
  simp only[gB,lz] at h;rcases h with h|h
  ·grind
  ·obtain ⟨s',iZ,h1,h2⟩:=XA h;grind
theorem ahz {S:Shape} {es:List V} (hs:S.safe P=true) (hi: ∀b j,I b j→I2 b j) {N:Nat→Prop} {st:Start} (h:aA P w' I2 cB (bI S es).hp B N st) (h0: ∀b j,I b j→st.I b j):
  aA P w' I cB (bI S es).hp B N st∧∀v,ai P w' I2 cB (bI S es).hp v (rS (gB S.ch es))→ai P w' I cB (bI S es).hp v (rS (gB S.ch es)):=by
 unfold Shape.safe at hs;simp only[aK] at hs;obtain ⟨jt,mI⟩:=hs;have one: ∀q∈gB S.ch es,∀v,ai P w' I2 cB (bI S es).hp v q.2→ai P w' I cB (bI S es).hp v q.2:=by
  intro q hq v hv;obtain ⟨s,iZ,k1,k2⟩:=XA hq;rw[k2] at hv⊢;exact Xz hv (fF.1 jt _ k1)
 refine ⟨⟨⟨fun j blk hj=> ?_,h.h.inj,h.h.own,fun b j hb=>h.h.iE b j (hi b j hb)⟩,h.cH,h.size,fun b j hb=> .inl (h0 b j hb),h.io⟩,fun v hv=> ?_⟩
 ·have hr:=h.h.rel j blk hj;have dQ:=hj;simp only[bI,mk,jA] at dQ;obtain ⟨b,iZ,k1,rfl⟩:=Jq dQ;exact ahy hr (fF.1 mI _ (kO k1)) hi
 ·generalize gB S.ch es=l at one hv⊢
  match l,one,hv with
  | [],_,hv=>
   simp only[rS,List.map_nil] at hv⊢;obtain ⟨cs,rfl,e1,e2⟩:=hv.xg;exact .aX e1 fun j v x _ hx=>by simp at hx
  | [q],one,hv=>exact one q (fl.2 rfl) v hv
  | q::q2::l,one,hv=>
   simp only[rS] at hv⊢;obtain ⟨cs,rfl,e1,e2⟩:=hv.xg;refine .aX e1 fun j v x hj hx=> ?_;grind
end
section
variable {P:Program} {A:di} {w w':World} {I I' I2:Nat→Nat→Prop} {μ β β' cB:Nat→Option Nat} {hp hp' hp0 bG:Nat→Option ag} {C:af} {B:Nat} {M:Nat→Prop} {w0:Start}
inductive iv (σ:List Place):ag→ag→Prop
 | dead:iv σ .dead .dead
 | var {T:TypeId} {cs:List V}:iv σ (.var T cs) (.var T (cs.map (Io σ)))
 | arr {e:TypeId} {es:List V} {fz:Bool}:iv σ (.arr e es fz) (.arr e es fz)
 | nest {e:TypeId} {es:List V} {v1 v2:List Nat}:iv σ (.nest e es v1) (.nest e es v2)
 | map {t:TypeId} {es:List V}:iv σ (.map t es) (.map t es)
 | out {e:TypeId} {es:List V} {vs:List Nat} {i:Nat}:iv σ (.out e es vs i) .dead
theorem iv.of (σ:List Place) (b:ag):iv σ b (wW σ b):=by
 cases b with
 | dead=>exact .dead
 | var T cs=>exact .var
 | arr e es fz=>exact .arr
 | nest e es v=>exact .nest
 | map t es=>exact .map
 | out e es vs i=>exact .out
theorem XB {σ:List Place}: ∀{pl:List Place} {bs:List ag} {acc:List (Nat×ag)} {k:List (Nat×ag)→Rd R} {r:R} {rd:List Nat},(tC σ pl bs acc k).run C hp=some (r,rd)→
  pl.length≤bs.length∧∃bk fJ,(k bk).run C hp=some (r,fJ)∧(∀q∈bk,q∈acc∨∃(j:Nat) (b:ag),pl[j]? =some (.blk q.1)∧bs[j]? =some b∧iv σ b q.2∧((∃e es v2,q.2= .nest e es v2)→∃e es vers e' aL,hp q.1=some (.nest e es vers)∧q.2= .nest e' aL (vers.map (· +1))))∧
   (∀q∈acc,q∈bk)∧∀(j:Nat) p,pl[j]? =some p→∃id b,p= .blk id∧(id,b)∈bk
 | [],bs,acc,k,r,rd,h=>⟨kP _,acc,rd,by simpa only[tC] using h,fun q hq=> .inl hq,fun q hq=>hq,fun j p hp=>by simp at hp⟩
 | .row _ _ _::pl,bs,acc,k,r,rd,h=>by
  cases bs<;>(simp only[tC] at h;cases h)
 | .blk id::pl,[],acc,k,r,rd,h=>by simp only[tC] at h;cases h
 | .blk id::pl,b::bs,acc,k,r,rd,h=>by
  have fin: ∀{b2:ag} {iu:List Nat},(tC σ pl bs ((id,b2)::acc) k).run C hp=some (r,iu)→iv σ b b2→((∃e es v2,b2= .nest e es v2)→∃e es vers e' aL,hp id=some (.nest e es vers)∧b2= .nest e' aL (vers.map (· +1)))→
    (Place.blk id::pl).length≤(b::bs).length∧∃bk fJ,(k bk).run C hp=some (r,fJ)∧(∀q∈bk,q∈acc∨∃(j:Nat) (b':ag),(Place.blk id::pl)[j]? =some (.blk q.1)∧(b::bs)[j]? =some b'∧iv σ b' q.2∧((∃e es v2,q.2= .nest e es v2)→∃e es vers e' aL,hp q.1=some (.nest e es vers)∧q.2= .nest e' aL (vers.map (· +1))))∧
     (∀q∈acc,q∈bk)∧∀(j:Nat) p,(Place.blk id::pl)[j]? =some p→∃id b,p= .blk id∧(id,b)∈bk:=by
   intro b2 iu h1 hb hn;obtain ⟨a0,bk,fJ,a1,a2,a3,a4⟩:=XB h1;refine ⟨by simp only[List.length_cons];omega,bk,fJ,a1,fun q hq=> ?_,fun q hq=>a3 q (ka _ hq),fun j p hj=> ?_⟩
   ·rcases a2 q hq with h|⟨j,b',k1,k2,k3,k4⟩
    ·rcases lz.1 h with e|h
     ·subst e;exact .inr ⟨0,b,rfl,rfl,hb,hn⟩
     ·exact .inl h
    ·exact .inr ⟨j+1,b',by simpa using k1,by simpa using k2,k3,k4⟩
   ·cases j with
    | zero=>simp at hj;subst hj;exact ⟨id,b2,rfl,a3 _ (zc ..)⟩
    | succ j=>exact a4 j p (by simpa using hj)
  cases b with
  | nest e es v=>
   simp only[tC] at h;obtain ⟨l,h⟩:=run_get h;cases ab:hp id with
   | none=>rw[ab] at h;cases h
   | some blk=>
    rw[ab] at h;cases blk with
    | nest e0 Pn vers=>exact fin h .nest fun _=>⟨e0,Pn,vers,e,es,ab,rfl⟩
    | _=>cases h
  | dead=>exact fin h (.of σ _) fun ⟨_,_,_,h⟩=>by cases h
  | var T cs=>exact fin h (.of σ _) fun ⟨_,_,_,h⟩=>by cases h
  | arr e es fz=>exact fin h (.of σ _) fun ⟨_,_,_,h⟩=>by cases h
  | map t es=>exact fin h (.of σ _) fun ⟨_,_,_,h⟩=>by cases h
  | out e es vs i=>exact fin h (.of σ _) fun ⟨_,_,_,h⟩=>by cases h
theorem XC {σ:List Place}: ∀{bs:List ag} {n:Nat} {q:Nat×ag},q∈tD σ n bs→∃i b,bs[i]? =some b∧q=(n+i,wW σ b)
 | [],n,q,h=>by simp[tD] at h
 | b::bs,n,q,h=>by
  simp only[tD,lz] at h;rcases h with h|h
  ·exact ⟨0,b,rfl,h⟩
  ·obtain ⟨i,b',h1,h2⟩:=XC h;exact ⟨i+1,b',by simpa using h1,by rw[h2];congr 1;omega⟩
theorem XD {σ:List Place}: ∀{bs:List ag} {n i:Nat} {b:ag},bs[i]? =some b→(n+i,wW σ b)∈tD σ n bs
 | [],n,i,b,h=>by simp at h
 | b0::bs,n,i,b,h=>by
  simp only[tD,lz];cases i with
  | zero=>simp at h;subst h;exact .inl rfl
  | succ i=>exact .inr (by rw[show n+(i+1)=n+1+i by omega];exact XD (by simpa using h))
theorem Jr: ∀{k n i:Nat},i<k→(vu n k)[i]? =some (.blk (n+i))
 | 0,n,i,h=>by omega
 | k+1,n,0,h=>rfl
 | k+1,n,i+1,h=>by
  simp only[vu,List.getElem?_cons_succ];rw[Jr (by omega)];congr 2;omega
theorem Po: ∀{k n:Nat},(vu n k).length=k
 | 0,_=>rfl
 | k+1,n=>by simp[vu,Po]
theorem XE: ∀{bs:List (Nat×ag)} {k:Rd R} {r:R} {rd:List Nat},(Ip bs k).run C hp=some (r,rd)→(∀q∈bs,hp q.1=none)∧∃fJ,k.run C hp=some (r,fJ)
 | [],k,r,rd,h=>⟨by simp,rd,h⟩
 | (id,b)::l,k,r,rd,h=>by
  simp only[Ip] at h;obtain ⟨l1,h⟩:=run_get h;cases ab:hp id with
  | some blk=>rw[ab] at h;cases h
  | none=>
   rw[ab] at h;obtain ⟨h1,h2⟩:=XE h;refine ⟨fun q hq=> ?_,h2⟩;rcases lz.1 hq with e|hq
   ·subst e;exact ab
   ·exact h1 q hq
structure su (σ:List Place) (cB:Nat→Option Nat) (bG:Nat→Option ag) (β':Nat→Option Nat) (hp':Nat→Option ag):Prop where
 blk: ∀j b,bG j=some b→∃id b',fq σ j=some (.blk id)∧hp' id=some b'∧iv σ b b'∧(b≠ .dead→β' id=cB j)
 none: ∀j,bG j=none→fq σ j=none
 auy: ∀j id ver path,fq σ j≠some (.row id ver path)
theorem su.leaf {σ:List Place} (T:su σ cB bG β' hp') {v:Value} {x:V} (h:ai P w I cB bG v x):ai P w I β' hp' v (kQ σ x):=by
 have look: ∀{j b},bG j=some b→∃id b',fq σ j=some (.blk id)∧hp' id=some b'∧iv σ b b'∧(b≠ .dead→β' id=cB j):=fun h=>T.blk _ _ h;cases h with
 | undef=>exact .undef
 | int=>exact .int
 | bool=>exact .bool
 | str h=>exact .str h
 | list h=>exact .list h
 | nilS=>exact .nilS
 | agg=>exact .undef
 | aX=>exact .undef
 | eg=>exact .eg
 | fn=>exact .undef
 | pref a b c=>exact .pref a b c
 | @dH _ e j h=>
  obtain ⟨id,b',k1,k2,k3,k4⟩:=look h;simp only[kQ,k1];cases k3;exact .dH k2
 | @ij _ e j _ _ h=>
  obtain ⟨id,b',k1,k2,k3,k4⟩:=look h;simp only[kQ,k1];cases k3;exact .ij k2
 | @kS _ j _ _ h=>
  obtain ⟨id,b',k1,k2,k3,k4⟩:=look h;simp only[kQ,k1];cases k3;exact .kS k2
 | @dD e j fz _ h hb=>
  obtain ⟨id,b',k1,k2,k3,k4⟩:=look h;simp only[kQ,k1];cases k3;exact .dD k2 ((k4 (by simp)).trans hb)
 | @whole e j es fz b cap h hb a1 a2 a3=>
  obtain ⟨id,b',k1,k2,k3,k4⟩:=look h;simp only[kQ,k1];cases k3;exact .whole k2 ((k4 (by simp)).trans hb) a1 a2 a3
 | @dw e j es vers b cap h hb a1 a2 a3=>
  obtain ⟨id,b',k1,k2,k3,k4⟩:=look h;simp only[kQ,k1];cases k3;exact .dw k2 ((k4 (by simp)).trans hb) a1 a2 a3
 | @eB e j i es vers b cap h hb a1 a2 a3=>
  obtain ⟨id,b',k1,k2,k3,k4⟩:=look h;simp only[kQ,k1];cases k3;exact .dH k2
 | @dO e j vers _ h hb=>
  obtain ⟨id,b',k1,k2,k3,k4⟩:=look h;simp only[kQ,k1];cases k3;exact .dO k2 ((k4 (by simp)).trans hb)
 | @gC e j fz _ h hb=>
  obtain ⟨id,b',k1,k2,k3,k4⟩:=look h;simp only[kQ,k1];cases k3;exact .gC k2 ((k4 (by simp)).trans hb)
 | @sub e j off len es fz b o cap h hb a1 a2 a3=>
  obtain ⟨id,b',k1,k2,k3,k4⟩:=look h;simp only[kQ,k1];cases k3;exact .sub k2 ((k4 (by simp)).trans hb) a1 a2 a3
 | @ptr j i c b blk h hd hb=>
  obtain ⟨id,b',k1,k2,k3,k4⟩:=look h;simp only[kQ,k1];by_cases eW:b'= .dead
  ·subst eW;exact .kS k2
  have hs:blk.sz P=b'.sz P:=by cases k3<;>first|rfl|exact absurd rfl eW
  rw[hs];exact .ptr k2 eW ((k4 hd).trans hb)
 | kU=>exact .undef
 | kV=>exact .undef
 | row=>exact .undef
 | dq=>exact .undef
 | eu=>exact .eu
 | @jV _ t j h=>
  obtain ⟨id,b',k1,k2,k3,k4⟩:=look h;simp only[kQ,k1];cases k3;exact .jV k2
 | @cN t j b es h hb=>
  obtain ⟨id,b',k1,k2,k3,k4⟩:=look h;simp only[kQ,k1];cases k3;exact .cN k2 ((k4 (by simp)).trans hb)
theorem su.one {σ:List Place} (T:su σ cB bG β' hp') {v:Value} {x:V} (h:ai P w I cB bG v x):ai P w I β' hp' v (NP σ x):=by
 cases x with
 | agg xs=>
  obtain ⟨cs,rfl,e1,e2⟩:=h.la;exact .agg (by simpa using e1) fun j v y hj hy=>by
   rw[jk] at hy;cases hx:xs[j]? with
   | none=>rw[hx] at hy;cases hy
   | some x=>rw[hx] at hy;cases hy;exact T.leaf (e2 j v x hj hx)
 | fn f a b=>
  cases h with
  | fn a1 a2 b1 b2=>
   refine .fn (by simpa using a1) (fun j v y hj hy=> ?_) (by simpa using b1) (fun j v y hj hy=> ?_)
   ·rw[jk] at hy;cases hx:a[j]? with
    | none=>rw[hx] at hy;cases hy
    | some x=>rw[hx] at hy;cases hy;exact T.leaf (a2 j v x hj hx)
   ·rw[jk] at hy;cases hx:b[j]? with
    | none=>rw[hx] at hy;cases hy
    | some x=>rw[hx] at hy;cases hy;exact T.leaf (b2 j v x hj hx)
 | _=>exact T.leaf h
theorem su.val {σ:List Place} (T:su σ cB bG β' hp') {v:Value} {x:V} (h:ai P w I cB bG v x):ai P w I β' hp' v (Io σ x):=by
 cases x with
 | aX xs=>
  obtain ⟨cs,rfl,e1,e2⟩:=h.xg;exact .aX (by simpa using e1) fun j v y hj hy=>by
   rw[jk] at hy;cases hx:xs[j]? with
   | none=>rw[hx] at hy;cases hy
   | some x=>rw[hx] at hy;cases hy;exact T.one (e2 j v x hj hx)
 | _=>exact T.one h
theorem su.XF {σ:List Place} (T:su σ cB bG β' hp') {o:Option Nat} {b b':ag} (h:ei P w I cB bG o b) (hb:iv σ b b'):ei P w I β' hp' o b':=by
 cases hb with
 | dead=>exact .dead
 | var=>
  cases h with
  | var a1 a2 a3 a4 a5 a6=>
   refine .var a1 a2 (by simpa using a3) a4 (fun j v y hj hy=> ?_) a6;rw[jk] at hy;cases hx:(_:List V)[j]? with
   | none=>rw[hx] at hy;cases hy
   | some x=>rw[hx] at hy;cases hy;exact T.val (a5 j v x hj hx)
 | arr=>
  cases h with
  | dY hb=>exact .dY hb
  | arr a0 a1 a2 a3 a4 a5 a6 a7=>exact .arr a0 a1 a2 a3 a4 a5 a6 a7
 | nest=>
  cases h with
  | nest a1 a2 a3=>exact .nest a1 a2 a3
  | gD a1=>exact .gD a1
 | map=>
  cases h with
  | map a1 a2 a3 a4 a5 a6 a7=>exact .map a1 a2 a3 a4 a5 a6 a7
 | out=>exact .dead
theorem iv.xA {σ:List Place} {o:Option Nat} {b b':ag} (h:iv σ b b') {m:Nat} (ho:bd P w o b' m):bd P w o b m:=by
 cases h with
 | dead=>exact absurd rfl ho.alive
 | var=>exact .root (by simp) (ho.flat (by simp))
 | arr=>exact .root (by simp) (ho.flat (by simp))
 | map=>exact .root (by simp) (ho.flat (by simp))
 | out=>exact absurd rfl ho.alive
 | nest=>
  cases ho with
  | root _ hb=>exact .root (by simp) hb
  | row hb ha=>exact .row hb ha
theorem iv.XG {σ:List Place} {b b':ag} (h:iv σ b b'):b'≠ .dead→b≠ .dead:=by
 intro h1 h2;subst h2;cases h;exact h1 rfl
end
section
variable {P:Program} {A:di} {w w':World} {I I' I2:Nat→Nat→Prop} {μ β β' cB:Nat→Option Nat} {hp hp' hp0 bG:Nat→Option ag} {C:af} {B:Nat} {M:Nat→Prop} {w0:Start}
theorem XH: ∀{vs:List Nat} {k:Nat},k<vs.length→bz (vs.map (· +1)) k=bz vs k+1
 | [],k,h=>by simp at h
 | v::vs,0,h=>rfl
 | v::vs,k+1,h=>by simp only[iQ,bz];exact XH (by grind)
theorem XI: ∀{vs:List Nat} {k:Nat},bz vs k≤bz (vs.map (· +1)) k
 | [],k=>by grind
 | v::vs,0=>by simp[bz]
 | v::vs,k+1=>by simp only[iQ,bz];exact XI
def DB (hp:Nat→Option ag) (q:Nat×ag):Prop:=(∃e es v2,q.2= .nest e es v2)→∃e es vers e' aL,hp q.1=some (.nest e es vers)∧q.2= .nest e' aL (vers.map (· +1))
theorem fe.Pp {id:Nat} {o:Option Nat} {blk:ag} (h:fe P w β hp (.blk id) o blk):o=β id∧∃b0,hp id=some b0∧b0≠ .dead:=by
 cases h with
 | var h=>grind
 | arr h=>grind
 | nest h=>grind
 | map h=>grind
theorem fe.ahA {id:Nat} {o:Option Nat} {c b b' b0:ag} {σ:List Place} (h:fe P w β hp (.blk id) o c) (h0:hp id=some b0) (hle:c.le b) (hb:iv σ b b') (hn:DB hp (id,b')):b0.le b':=by
 cases h with
 | var h=>
  rw[h] at h0;cases h0;cases hb with
  | dead=>trivial
  | out=>trivial
  | var=>trivial
  | arr=>exact hle.elim
  | nest=>exact hle.elim
  | map=>exact hle.elim
 | arr h=>
  rw[h] at h0;cases h0;cases hb with
  | dead=>trivial
  | out=>trivial
  | var=>exact hle.elim
  | arr=>exact hle
  | nest=>exact hle.elim
  | map=>omega
 | map h=>
  rw[h] at h0;cases h0;cases hb with
  | dead=>trivial
  | out=>trivial
  | map=>exact hle
  | _=>exact hle.elim
 | nest h=>
  rw[h] at h0;cases h0;cases hb with
  | dead=>trivial
  | out=>trivial
  | var=>exact hle.elim
  | arr=>exact hle
  | map=>exact hle.elim
  | @nest e es v1 v2=>
   obtain ⟨e1,c9,vF,e2,bJ,k1,k2⟩:=hn ⟨_,_,_,rfl⟩;cases k2;change hp id=_ at k1;rw[h] at k1;cases k1;exact ⟨hle.1,hle.2.1,by simp,fun k=>XI⟩
theorem fe.other {p:Place} {o:Option Nat} {blk:ag} (h:fe P w β hp p o blk) (he:hp' p.id=hp p.id):fe P w β hp' p o blk:=by
 cases h with
 | var h=>exact .var (he.trans h)
 | arr h=>exact .arr (he.trans h)
 | nest h=>exact .nest (he.trans h)
 | map h=>exact .map (he.trans h)
 | row h a b c d e f g=>exact .row (he.trans h) a b c d e f g
open Classical in
theorem XJ (S:aA P w I β hp B M w0) {pl:List Place} {o:Nat→Option Nat} {bs:List ag} {nb:Nat} {bk fr:List (Nat×ag)} {σ:List Place} (ug:σ=pl++vu nb (bs.length-pl.length)) (DC:fr=tD σ nb (bs.drop pl.length))
  (lg:(pl.map Place.id).Nodup) (qL:pl.length≤bs.length)
  (xB: ∀(j:Nat) p,pl[j]? =some p→∃id b,p= .blk id∧(id,b)∈bk) (uh: ∀q∈bk,∃(j:Nat) (b:ag),pl[j]? =some (.blk q.1)∧bs[j]? =some b∧iv σ b q.2∧DB hp q)
  (hl: ∀j blk,hp0 j=some blk→∃p,fq pl j=some p∧fe P w β hp p (o j) blk) (hd: ∀j,j<pl.length→∃blk,hp0 j=some blk)
  (Sc:aA P w' I2 cB (lF bs) w.heap.size (ra P w o hp0) ⟨w,I⟩) (zZ:nq w I o hp0 w' I2 cB (lF bs)) (z0: ∀q∈fr,hp q.1=none):
  ∃β',Le P w I β hp w' I2 β' (cb hp (fr++bk))∧aA P w' I2 β' (cb hp (fr++bk)) B M w0∧su σ cB (lF bs) β' (cb hp (fr++bk)):=by
 generalize Pq:cb hp (fr++bk)=eD
 let β':Nat→Option Nat:=fun n=>if∃q∈fr,q.1=n then cB (pl.length+(n-nb)) else β n
 have XK: ∀(j:Nat) id,pl[j]? =some (.blk id)→∃c,hp0 j=some c∧fe P w β hp (.blk id) (o j) c:=by
  intro j id hj;obtain ⟨c,hc⟩:=hd j (ct.1 hj).1;obtain ⟨p,h1,h2⟩:=hl j c hc;rw[oo,hj] at h1;cases h1;exact ⟨c,hc,h2⟩
 have uniq: ∀(j1 j2:Nat) id,pl[j1]? =some (.blk id)→pl[j2]? =some (.blk id)→j1=j2:=by
  intro j1 j2 id h1 h2;have m1:(pl.map Place.id)[j1]? =some id:=by rw[jk,h1];rfl
  have m2:(pl.map Place.id)[j2]? =some id:=by rw[jk,h2];rfl
  obtain ⟨z1,z2⟩:=ct.1 m1;obtain ⟨z3,z4⟩:=ct.1 m2;exact (List.getElem_inj lg).1 (z2.trans z4.symm)
 have cls: ∀id,(∃i b,id=nb+i∧bs[pl.length+i]? =some b∧eD id=some (wW σ b)∧hp id=none∧β' id=cB (pl.length+i))∨
   (∃(j:Nat) (b b' c b0:ag),pl[j]? =some (.blk id)∧bs[j]? =some b∧hp0 j=some c∧fe P w β hp (.blk id) (o j) c∧hp id=some b0∧b0.le b'∧eD id=some b'∧iv σ b b'∧DB hp (id,b')∧β' id=β id∧c.le b∧(b≠ .dead→cB j=β id))∨
   (eD id=hp id∧(∀j:Nat,pl[j]? ≠some (.blk id))∧β' id=β id):=by
  intro id;by_cases hm: ∃b,(id,b)∈fr++bk
  ·obtain ⟨b,hm⟩:=hm;obtain ⟨b',xf,he⟩:=Iz (hp:=hp) hm;rw[Pq] at he;rcases eS.1 xf with h|h
   ·have h0:=z0 _ h;have rb:β' id=cB (pl.length+(id-nb)):=ak ⟨_,h,rfl⟩;rw[DC] at h;obtain ⟨i,b1,k1,k2⟩:=XC h;rw[pE] at k1;cases k2;exact .inl ⟨i,b1,rfl,k1,he,h0,by rw[rb];congr 2;omega⟩
   ·obtain ⟨j,b1,q1,q2,q3,q4⟩:=uh _ h;obtain ⟨c,c1,c2⟩:=XK j id q1;obtain ⟨c3,b0,c4,c5⟩:=c2.Pp;obtain ⟨b2,d1,d2,d3⟩:=zZ.blk j c c1;rw[jA,q2] at d1;cases d1;refine .inr (.inl ⟨j,b1,b',c,b0,q1,q2,c1,c2,c4,c2.ahA c4 d2 q3 q4,he,q3,q4,aj ?_,d2,fun h=>(d3 h).trans c3⟩);rintro ⟨q,hq,hqe⟩;rw[←hqe,z0 q hq] at c4;cases c4
  ·refine .inr (.inr ⟨?_,fun j hj=> ?_,aj ?_⟩)
   ·rcases w9 (hp:=hp) (l:=fr++bk) (id:=id) with h|⟨b,hb,_⟩
    ·rw[Pq] at h;exact h
    ·exact absurd ⟨b,hb⟩ hm
   ·obtain ⟨aw,b,e,hb⟩:=xB j _ hj;cases e;exact hm ⟨b,eS.2 (.inr hb)⟩
   ·rintro ⟨q,hq,rfl⟩;exact hm ⟨q.2,eS.2 (.inl hq)⟩
 have XL: ∀b,ra P w o hp0 b→∃(j id:Nat) (b1:ag),pl[j]? =some (.blk id)∧hp id=some b1∧bd P w (β id) b1 b:=by
  rintro b ⟨j,c,hc,ho⟩;obtain ⟨p,h1,h2⟩:=hl j c hc;rw[oo] at h1;obtain ⟨id,b2,rfl,_⟩:=xB j p h1;obtain ⟨b1,k1,k2,_⟩:=h2.xA ho;exact ⟨j,id,b1,h1,k1,k2⟩
 have other: ∀id blk b,hp id=some blk→bd P w (β id) blk b→(∀j:Nat,pl[j]? ≠some (.blk id))→¬ra P w o hp0 b∧w'.heap[b]? =w.heap[b]? ∧(∀j,I2 b j→I b j):=by
  intro id blk b e1 e3 e4;have sw: ¬ra P w o hp0 b:=by
   intro hx;obtain ⟨j,aw,b1,i1,i2,i3⟩:=XL b hx;have:=S.h.inj id aw _ _ b e1 i2 e3 i3;subst this;exact e4 j i1
  have aY:=S.h.lt e1 e3;refine ⟨sw,Sc.cH b aY sw,fun j h=> ?_⟩;rcases Sc.new b j h with h|h|h
  ·exact h
  ·exact absurd h sw
  ·omega
 have vK:su σ cB (lF bs) β' eD:=by
  refine ⟨fun j b hj=> ?_,fun j hj=> ?_,fun j id ver path hj=> ?_⟩
  ·rw[jA] at hj;by_cases dn:j<pl.length
   ·obtain ⟨id,b1,e,pW⟩:=xB j _ (bS dn);have Js:pl[j]? =some (.blk id):=by rw[bS dn,e]
    have Pr:fq σ j=some (.blk id):=by rw[ug];exact qZ (by rw[oo];exact Js)
    rcases cls id with ⟨i,b2,c1,c2,c3,c4,c5⟩|⟨j',b2,b',c,b0,q1,q2,q3,q4,q5,q6,q7,q8,q9,sx,z7,ui⟩|⟨c1,c2,c3⟩
    ·obtain ⟨c,d1,d2⟩:=XK j id Js;obtain ⟨_,b0,d3,_⟩:=d2.Pp;rw[d3] at c4;cases c4
    ·obtain rfl:=uniq _ _ _ q1 Js;rw[hj] at q2;cases q2;exact ⟨id,b',Pr,q7,q8,fun h=>sx.trans (ui h).symm⟩
    ·exact absurd Js (c2 j)
   ·have XM:=(ct.1 hj).1;have Pr:fq σ j=some (.blk (nb+(j-pl.length))):=by
     rw[ug,oo,nU (by omega)];exact Jr (by omega)
    have hm:(nb+(j-pl.length),wW σ b)∈fr:=by
     rw[DC];refine XD ?_;rw[pE,show pl.length+(j-pl.length)=j by omega];exact hj
    rcases cls (nb+(j-pl.length)) with ⟨i,b2,c1,c2,c3,c4,c5⟩|⟨j',b2,b',c,b0,q1,q2,q3,q4,q5,q6,q7,q8,q9,sx,z7,ui⟩|⟨c1,c2,c3⟩
    ·have hi:i=j-pl.length:=by omega
     subst hi;rw[show pl.length+(j-pl.length)=j by omega] at c2 c5;rw[hj] at c2;cases c2;exact ⟨_,_,Pr,c3,.of σ _,fun _=>c5⟩
    ·rw[z0 _ hm] at q5;cases q5
    ·obtain ⟨b',xf,he⟩:=Iz (hp:=hp) (l:=fr++bk) (eS.2 (.inl hm));rw[Pq,c1,z0 _ hm] at he;cases he
  ·rw[jA] at hj;have:=List.getElem?_eq_none_iff.1 hj;rw[ug,oo,List.getElem?_eq_none_iff,gI,Po];omega
  ·rw[ug,oo] at hj;by_cases dn:j<pl.length
   ·rw[mq dn] at hj;obtain ⟨aw,b1,e,_⟩:=xB j _ hj;cases e
   ·have XM:j-pl.length<bs.length-pl.length:=by
     have:=(ct.1 hj).1;rw[gI,Po] at this;omega
    rw[nU (by omega),Jr XM] at hj;cases hj
 have hle:Le P w I β hp w' I2 β' eD:=by
  refine ⟨zZ.dZ,zZ.cH,fun id blk ab=> ?_,fun id blk blk' b ab bM uj hb=> ?_,fun id e es vers e' aL vers' b q i c t v e1 l ab bM hb aY hv ht hc=> ?_⟩
  ·rcases cls id with ⟨i,b2,c1,c2,c3,c4,c5⟩|⟨j',b2,b',c,b0,q1,q2,q3,q4,q5,q6,q7,q8,q9,sx,z7,ui⟩|⟨c1,c2,c3⟩
   ·rw[ab] at c4;cases c4
   ·rw[ab] at q5;cases q5;exact ⟨b',q7,q6,fun _=>sx⟩
   ·exact ⟨blk,c1.trans ab,ag.le_refl _,fun _=>c3⟩
  ·rcases cls id with ⟨i,b2,c1,c2,c3,c4,c5⟩|⟨j',b2,b',c,b0,q1,q2,q3,q4,q5,q6,q7,q8,q9,sx,z7,ui⟩|⟨c1,c2,c3⟩
   ·rw[ab] at c4;cases c4
   ·rw[q7] at bM;cases bM;exact zZ.size j' c b2 b q3 (by rw[jA];exact q2) (q8.XG uj) (q4.Pp.1.trans hb)
   ·rw[c1,ab] at bM;cases bM;simp only[bsize,(other id blk b ab (.root uj hb) c2).2.1]
  ·rcases cls id with ⟨i2,b2,c1,c2,c3,c4,c5⟩|⟨j',b2,b',c',b0,q1,q2,q3,q4,q5,q6,q7,q8,q9,sx,z7,ui⟩|⟨c1,c2,c3⟩
   ·rw[ab] at c4;cases c4
   ·rw[q7] at bM;cases bM;obtain ⟨_,_,vF,_,_,k1,k2⟩:=q9 ⟨_,_,_,rfl⟩;change hp id=_ at k1;rw[ab] at k1;cases k1;cases k2;rw[XH aY] at hv;omega
   ·rw[c1,ab] at bM;cases bM;exact ⟨l,rfl,hc.mono fun _ _ _ _ h=>(other id _ _ ab (.row hb h) c2).2.1⟩
 have place: ∀id blk b,eD id=some blk→bd P w' (β' id) blk b→(∃j c,lF bs j=some c∧bd P w' (cB j) c b∧fq σ j=some (.blk id))∨(b<w.heap.size∧¬ra P w o hp0 b∧hp id=some blk∧bd P w (β id) blk b):=by
  intro id blk b e1 e3;rcases cls id with ⟨i,b2,c1,c2,c3,c4,c5⟩|⟨j',b2,b',c,b0,q1,q2,q3,q4,q5,q6,q7,q8,q9,sx,z7,ui⟩|⟨c1,c2,c3⟩
  ·rw[c3] at e1;cases e1;rw[c5] at e3;refine .inl ⟨pl.length+i,b2,by rw[jA];exact c2,(iv.of σ b2).xA e3,?_⟩;have:=(ct.1 c2).1;rw[ug,oo,nU (by omega),Jr (by omega),c1];congr 3;omega
  ·rw[q7] at e1;cases e1;have uj:b2≠ .dead:=q8.XG e3.alive;rw[sx,←ui uj] at e3;exact .inl ⟨j',b2,by rw[jA];exact q2,q8.xA e3,by rw[ug];exact qZ (by rw[oo];exact q1)⟩
  ·rw[c1] at e1;rw[c3] at e3;have:=e3.mono (w:=w) fun b hb=>(other id blk b e1 hb c2).2.1;exact .inr ⟨S.h.lt e1 this,(other id blk b e1 this c2).1,e1,this⟩
 have vD: ∀b,ra P w o hp0 b∨w.heap.size≤b→M b∨B≤b:=by
  rintro b (h|h)
  ·obtain ⟨j,id,b1,i1,i2,i3⟩:=XL b h;exact S.h.own id b1 b i2 i3
  ·exact .inr (lu S.size h)
 have Ps: ∀j c b,lF bs j=some c→bd P w' (cB j) c b→ra P w o hp0 b∨w.heap.size≤b:=fun j c b h1 h2=>Sc.h.own j c b h1 h2;refine ⟨β',hle,⟨⟨fun id blk ab=> ?_,fun i1 i2 b1 b2 b e1 e2 f1 f2=> ?_,fun id blk b ab hb=> ?_,Sc.h.iE⟩,fun b hb hM=> ?_,lu S.size Sc.size,fun b j hb=> ?_,⟨Sc.io.1.trans S.io.1,Sc.io.2.trans S.io.2⟩⟩,vK⟩
 ·rcases cls id with ⟨i,b2,c1,c2,c3,c4,c5⟩|⟨j',b2,b',c,b0,q1,q2,q3,q4,q5,q6,q7,q8,q9,sx,z7,ui⟩|⟨c1,c2,c3⟩
  ·rw[c3] at ab;cases ab;rw[c5];exact vK.XF (Sc.h.rel _ b2 (by rw[jA];exact c2)) (.of σ b2)
  ·rw[q7] at ab;cases ab;have:=vK.XF (Sc.h.rel j' b2 (by rw[jA];exact q2)) q8;by_cases uj:b2= .dead
   ·subst uj;cases q8;exact .dead
   ·rw[sx,←ui uj];exact this
  ·rw[c1] at ab;rw[c3];exact (S.h.rel id blk ab).mono hle fun b hb=>(other id blk b ab hb c2).2
 ·rcases place i1 b1 b e1 f1 with ⟨j1,c1,g1,g2,g3⟩|⟨g1,g2,g3,g4⟩<;>rcases place i2 b2 b e2 f2 with ⟨j2,c2,k1,k2,k3⟩|⟨k1,k2,k3,k4⟩
  ·have:=Sc.h.inj j1 j2 c1 c2 b g1 k1 g2 k2;subst this;rw[g3] at k3;cases k3;rfl
  ·rcases Ps j1 c1 b g1 g2 with h|h
   ·exact absurd h k2
   ·omega
  ·rcases Ps j2 c2 b k1 k2 with h|h
   ·exact absurd h g2
   ·omega
  ·exact S.h.inj i1 i2 _ _ b g3 k3 g4 k4
 ·rcases place id blk b ab hb with ⟨j1,c1,g1,g2,g3⟩|⟨g1,g2,g3,g4⟩
  ·exact vD b (Ps j1 c1 b g1 g2)
  ·exact S.h.own id blk b g3 g4
 ·refine (Sc.cH b (lr hb S.size) fun hx=> ?_).trans (S.cH b hb hM)
  rcases vD b (.inl hx) with h|h
  ·exact hM h
  ·omega
 ·rcases Sc.new b j hb with h|h|h
  ·exact S.new b j h
  ·exact .inr (vD b (.inl h))
  ·exact .inr (vD b (.inr h))
end
section
variable {P:Program} {A:di} {w w':World} {I I' I2:Nat→Nat→Prop} {μ β β' cB:Nat→Option Nat} {hp hp' hp0 bG:Nat→Option ag} {C:af} {B:Nat} {M:Nat→Prop} {w0:Start}
theorem XN (hp:Nat→Option ag): ∀(a b:List (Nat×ag)),cb hp (a++b)=cb (cb hp b) a
 | [],b=>rfl
 | (i,x)::a,b=>by simp only[List.cons_append,cb,XN hp a b]
theorem z8 {hp:Nat→Option ag} {l:List (Nat×ag)} {id:Nat} (h: ∀q∈l,q.1≠id):cb hp l id=hp id:=by
 rcases w9 (hp:=hp) (l:=l) (id:=id) with h1|⟨b,hb,_⟩
 all_goals grind
def xC (P : Program) : Prop := ∀ (f : Nat) fn, P.funcs[f]? = some fn → (fn.name == "runtime.NumGoroutine") = false
def Jt (P:Program) (f:FuncId) (e:TypeId):Prop:=
 (∀args w,(callFunc f args).run P w= .ok (.enter f args) w)∧∃t,P.underlying t=some (.slice e)∧
  ∀(s:Value) (w:World) (Q:Ending→World→Prop),(s= .slice none 0 0→Q (.returned (.slice none 0 0)) w)→
   (∀a n c,s= .slice (some a) n c→∃v w',(Builtin.append_ #[t,t] t #[.slice (some ⟨w.heap.size,0,none⟩) 0 0,s]).run P (w.alloc (.cells #[] e))= .ok v w'∧Q (.returned v) w')→
   (s= .slice none 0 0∨∃a n c,s= .slice (some a) n c)→Calls P f #[s] w Q
structure jB (P:Program) (A:di):Prop where
 count:xC P
 ext: ∀f T,A.ext f=some T→∀(b:Nat) (C:Array Value) (w:World),w.heap[b]? =some (.cells C T (0,0))→C.size=P.cellsOf T→(C[0]? =some (.pointer none)∨C[0]? =some (.pointer (some ⟨b,0,none⟩)))→
  (callFunc f #[.pointer (some ⟨b,0,none⟩)]).run P w= .ok (.enter f #[.pointer (some ⟨b,0,none⟩)]) w∧
  Calls P f #[.pointer (some ⟨b,0,none⟩)] w fun e w'=>e= .returned (.tuple #[])∧(w'=w∨w'=w.setCell ⟨b,0,none⟩ (.pointer (some ⟨b,0,none⟩)))
 idle: ∀f,A.idle f=true→(∀args w,(callFunc f args).run P w= .ok (.enter f args) w)∧
  ∀args w,CallsD P f args .returning w fun e u' w'=>(∃v,e= .returned v)∧u'= .returning∧w'=w
 qA: ∀f e,A.qA f=some e→Jt P f e
 Pt: ∀f T,A.ext f=some T→P.cellsOf T=0→∀(s:ByteArray) (c:Int) (w:World),(callFunc f #[.string s,.int .u8 c]).run P w= .ok (.value (.int .i64 (Lib.indexByte s.data.toList c.toNat.toUInt8))) w
theorem jB.here {P:Program} {A:di} (h:jB P A) (f id:Nat):jB P (A.here f id):=⟨h.count,h.ext,h.idle,h.qA,h.Pt⟩
def DD (E:FuncId→Bool) (d:Deferred):Prop:= ∃f cap,d.target= .fn (.func f) cap∧E f=true
theorem Pu {P:Program} {A:di} (hP:jB P A) {fn:Func} {tmps:Array Value} {R:Ending→World→Prop} {w:World} {v:Value} (hv:(results fn tmps).run P w= .ok v w) (hR:R (.returned v) w):
  ∀ds:List Deferred,(∀d∈ds,DD A.idle d)→Leaves P fn tmps R ds .returning w
 | [],_=>⟨v,hv,hR⟩
 | d::ds,h=>by
  obtain ⟨f,cap,ht,hf⟩:=h d (by simp);obtain ⟨k1,k2⟩:=hP.idle f hf;obtain ⟨t,XO⟩:=d;simp only at ht;subst ht;refine leaves_cons (f:=f) (args:=XO++cap) (by simp) ?_ ?_
  ·simp only[invoke];grind
  ·refine (k2 (XO++cap) w).mono fun e u' w' hr=> ?_;obtain ⟨⟨v',rfl⟩,rfl,rfl⟩:=hr;exact Pu hP hv hR ds fun d hd=>h d (ka _ hd)
def z9 (P:Program) (A:di) (o:Oper) (a:Act) (w:World) (I:Nat→Nat→Prop) (β:Nat→Option Nat) (hp:Nat→Option ag) (B:Nat) (M:Nat→Prop) (w0:Start) (r:R):Prop:=
 ∀(next:Act→World→Prop) (Q:Exit→Act→World→Prop),
  (∀v w' I' β' ds,Le P w I β hp w' I' β' (cb hp r.upd)→aA P w' I' β' (cb hp r.upd) B M w0→ai P w' I' β' (cb hp r.upd) v r.v→(∀d∈ds,d∈a.defers∨DD A.idle d)→next ({a with defers:=ds}.put o.dst v) w')→o.wp P a w next Q
theorem qO.step {o:Oper} {a:Act} {r:R} (h:qO P ((execOp a.eval o).run P w) w I β hp B M w0 r):z9 P A o a w I β hp B M w0 r:=by
 obtain ⟨v,w',I',β',h1,h2,h3,h4⟩:=h;intro next Q hn
 unfold Oper.wp;rcases h1 with h1|⟨h1,rfl⟩
 ·rw[h1];exact hn v w' I' β' a.defers h2 h3 h4 fun d hd=> .inl hd
 ·rw[h1];exact hn _ w' I' β' a.defers h2 h3 h4 fun d hd=> .inl hd
theorem XP: ∀(l:List (Nat×VS)),qB l=vr (l.map (·.2))
 | []=>rfl
 | (_,s)::l=>by simp only[qB,iQ,vr,XP l]
theorem ahB (hC:nr P A C) (S:aA P w I β hp B M w0) (hg:iF P A.aF w I) {vals:List Value} {args:List V} {nb key:Nat} {f:FuncId} {r:R} {rd:List Nat} (hlen:vals.length=args.length)
  (cK: ∀(j:Nat) v x,vals[j]? =some v→args[j]? =some x→ai P w I β hp v x) (h:(Cv P A nb key f args).run C hp=some (r,rd)):
  ∃fn c,P.funcs[f]? =some fn∧fn.body=some c∧Calls P f vals.toArray w fun e w'=> ∃v I' β',e= .returned v∧Le P w I β hp w' I' β' (cb hp r.upd)∧aA P w' I' β' (cb hp r.upd) B M w0∧ai P w' I' β' (cb hp r.upd) v r.v:=by
 unfold Cv at h;obtain ⟨XQ,h0⟩:=aD h;clear h;rw[aN] at XQ;subst XQ;obtain ⟨h1,iu,d1,u1,a1,a2,a3,a5,a4⟩:=Pl S h0 hlen cK;obtain ⟨h2,vT,d2,u2,b1,b2,b3,b4⟩:=Xu S a1;clear h0 a1;obtain ⟨hc,h3⟩:=aD b1;clear b1;simp only[aK,aN,mn] at hc;obtain ⟨eb,Jp⟩:=hc;have xD:=a2.trans b2;have nP:h2.ds=d1++d2:=by have:=xD.ds;grind
 have ua:h2.upd=u1++u2:=by have:=xD.upd;grind
 have lg:(h2.pl.map Place.id).Nodup:=xD.nodup (by simp);obtain ⟨c1,o,c2,c3⟩:=b4 [];simp only[vd] at c1 c2 c3;cases DE:C key h2.ds with
 | none=>
  simp only[Rd.run,DE] at h3;cases h3
 | some es=>
  have tN: ∃fJ,(Cu P (A.so key es) nb h2 (A.lv key es)).run C hp=some (r,fJ):=by
   obtain ⟨x,hx,e⟩:=bind_some h3;rw[DE] at hx;cases hx;unfold di.so di.lv;cases dc:A.alt key with
   | none=>grind
   | some S2=>
    rw[dc] at e;simp only[Rd.run] at e;grind
  clear h3;obtain ⟨fJ,h3⟩:=tN;unfold Cu at h3;simp only at h3;generalize iW:fT (A.so key es).cO ((A.lv key es).drop (qB (A.so key es).ch))=bs at h3;generalize ug:h2.pl++vu nb (bs.length-h2.pl.length)=σ at h3;generalize DC:tD σ nb (bs.drop h2.pl.length)=fr at h3;obtain ⟨p0,bk,rd4,p1,p2,_,p3⟩:=XB h3;obtain ⟨z0,rd5,p4⟩:=XE p1;obtain ⟨xE,p4⟩:=aD p4;obtain rfl:=aM p4;have qL:h2.pl.length≤bs.length:=by grind
  have uh: ∀q∈bk,∃(j:Nat) (b:ag),h2.pl[j]? =some (.blk q.1)∧bs[j]? =some b∧iv σ b q.2∧DB hp q:=by
   intro q hq;rcases p2 q hq with hx|⟨j,b,k1,k2,k3,k4⟩
   ·simp at hx
   ·have hj:=(ct.1 k1).1;rw[gX hj] at k2;exact ⟨j,b,k1,k2,k3,k4⟩
  obtain ⟨fn,c,hf,hb,Pv⟩:=hC key h2.ds es DE;refine ⟨fn,c,hf,hb,?_⟩;have hmb:fT (A.sin key).cO (h2.ds.drop (qB (A.sin key).ch))=fT (A.sin key).cO d2:=by
   rw[nP,XP,Jl a3]
  have Pw:(bI (A.sin key) h2.ds).hp=lF (fT (A.sin key).cO d2):=by
   simp only[bI,mk,hmb]
  have hl: ∀j blk,(bI (A.sin key) h2.ds).hp j=some blk→∃p,fq h2.pl j=some p∧fe P w β hp p (o j) blk:=by
   intro j blk hj;rw[Pw,jA] at hj;grind
  have hd: ∀j,j<h2.pl.length→∃blk,(bI (A.sin key) h2.ds).hp j=some blk:=by
   intro j hj;rw[Pw,jA];simp_all
  have XR:Dw P w β hp h2.pl o (bI (A.sin key) h2.ds).hp:=by
   intro j p hj;obtain ⟨blk,k1⟩:=hd j (by rw[oo] at hj;grind);grind
  have i1: ∀b j,I b j→kh P w I β hp h2.upd b j:=fun b j h=> .inl h;have entry:=ahw (hp0:=(bI (A.sin key) h2.ds).hp) S lg Jp hl (fun da j blk hj=>by
   have dQ:=hj;rw[Pw,jA] at dQ;exact c3 (kh P w I β hp h2.upd) o _ i1 (fun q hq b j hb=> .inr ⟨q,by grind,hb⟩) h2.pl [] (by simp) XR j blk dQ (da j blk hj)) (fun b j h=>h.elim (S.h.iE b j) fun ⟨p,_,blk,g1,g2⟩=>S.h.lt g1 g2.own)
  have ahC:vals.length=(A.sin key).ch.length:=by grind
  have ha:=Pv w (kh P w I β hp h2.upd) o vals entry (hg.mono i1 fun _ _ _=>rfl) ahC fun j v x hj hx=>by
   rw[nP] at hx;exact (((a4.later b2) (kh P w I β hp h2.upd) o _ i1 (fun q hq b j hb=> .inr ⟨q,by grind,hb⟩) h2.pl [] (by simp) XR) d2).2 j v x hj hx
  refine ha.mono fun e w' DF=> ?_;obtain ⟨v,I2,cB,rfl,ha⟩:=DF;have Ju:(bI (A.so key es) (A.lv key es)).hp=lF bs:=by simp only[bI,mk,iW]
  cases XS:(A.so key es).safe P with
  | true=>
   simp only[cond_true,vd];have tX: ∀b j,I b j→I2 b j:=fun b j h=>ha.le.dZ b j (i1 b j h);obtain ⟨s1,s2⟩:=ahz XS tX ha.zY i1;have zZ:nq w I o (bI (A.sin key) h2.ds).hp w' I cB (lF bs):=by
    rw[←Ju];exact ⟨fun _ _ h=>h,fun b j h=>ha.le.cH b j (i1 b j h),ha.le.blk,ha.le.size⟩
   obtain ⟨β',k1,k2,k3⟩:=XJ S ug.symm DC.symm lg qL p3 uh hl hd (by rw[←Ju];exact ⟨s1.h,s1.cH,s1.size,fun b j h=> .inl h,s1.io⟩) zZ z0;exact ⟨v,I,β',rfl,k1,k2,k3.val (by have:=s2 v ha.res;grind)⟩
  | false=>
   simp only[cond_false];rw[XS,Bool.false_or,fF] at xE;have Aa: ∀q∈h2.upd,zy hp q:=fun q hq=>by
    have qV:=xE q hq;rcases xD.Jm q (ua▸hq) with h|⟨T,cs,h,_⟩
    all_goals grind
   obtain ⟨sb,S1⟩:=CP S Aa;rw[←jO,XN];have sw: ∀p∈h2.pl,cb hp h2.upd p.id=hp p.id:=fun p hp=>z8 fun q hq e=>
    Jo Jp (ez.2 ⟨q,hq,rfl⟩) (e▸ez.2 ⟨p,hp,rfl⟩)
   have ahD: ∀q∈bk,∃(j:Nat) (b:ag),h2.pl[j]? =some (.blk q.1)∧bs[j]? =some b∧iv σ b q.2∧DB (cb hp h2.upd) q:=by
    intro q hq;obtain ⟨j,b,k1,k2,k3,k4⟩:=uh q hq;refine ⟨j,b,k1,k2,k3,fun hn=> ?_⟩;have:=sw _ (kO k1);simp only[Place.id] at this;grind
   have NZ: ∀j blk,(bI (A.sin key) h2.ds).hp j=some blk→∃p,fq h2.pl j=some p∧fe P w β (cb hp h2.upd) p (o j) blk:=by
    intro j blk hj;obtain ⟨p,k1,k2⟩:=hl j blk hj;exact ⟨p,k1,k2.other (sw p (by rw[oo] at k1;grind))⟩
   have ahE: ∀q∈fr,cb hp h2.upd q.1=none:=by
    intro q hq;rw[z8 fun q' dI e=> ?_]
    ·grind
    ·obtain ⟨e1,c9,_,h5⟩:=Aa q' dI;grind
   obtain ⟨β',k1,k2,k3⟩:=XJ S1 ug.symm DC.symm lg qL p3 ahD NZ hd (by rw[←Ju];exact ha.zY) (by rw[←Ju];exact ha.le) ahE;exact ⟨v,I2,β',rfl,sb.trans k1,k2,k3.val (by have:=ha.res;grind)⟩
theorem XT (hC:nr P A C) (hP:jB P A) (S:aA P w I β hp B M w0) (hg:iF P A.aF w I) {a:Act} {nb key:Nat} {o:Oper} {f:FuncId} {vals:List Value} {args:List V} (hlen:vals.length=args.length)
  (cK: ∀(j:Nat) v x,vals[j]? =some v→args[j]? =some x→ai P w I β hp v x) {r:R} {rd:List Nat} (h:(Cv P A nb key f args).run C hp=some (r,rd))
  (hex:(execOp a.eval o).run P w=(callFunc f vals.toArray).run P w):z9 P A o a w I β hp B M w0 r:=by
 intro next Q hn
 obtain ⟨fn,c,hf,hb,Pv⟩:=ahB hC S hg hlen cK h;unfold Oper.wp;rw[hex,MuLone.run_callFunc_enter hf (hP.count f _ hf) hb,Oper.upon_enter];refine Pv.mono fun e w' DF=> ?_;obtain ⟨v,I2,cB,rfl,k1,k2,k3⟩:=DF;exact hn v w' I2 cB a.defers k1 k2 k3 fun d hd=> .inl hd
theorem mB.args {a:Act} {sl:Nat→V} (hs:mB P w I β hp a sl) (hg:iF P A.aF w I) {args:Array Operand} {ts:Array TypeId} (aU:args.size=ts.size):
  (args.map a.eval).toList.length=((args.toList.zip ts.toList).map fun p=>aO P A.aF p.2 sl p.1).length∧
  ∀(j:Nat) v x,(args.map a.eval).toList[j]? =some v→((args.toList.zip ts.toList).map fun p=>aO P A.aF p.2 sl p.1)[j]? =some x→ai P w I β hp v x:=by
 refine ⟨by simp;omega,fun j v x hv hx=> ?_⟩;simp only[Array.toList_map,jk,List.getElem?_zip_eq_some,Option.map_eq_some_iff] at hv hx;obtain ⟨x1,mH,rfl⟩:=hv;obtain ⟨⟨y1,t1⟩,⟨xF,_⟩,rfl⟩:=hx;rw[mH] at xF;cases xF;exact hs.ev hg t1 _
theorem ahF (hP:jB P A) (S:aA P w I β hp B M w0) (hg:iF P A.aF w I) {a:Act} {sl:Nat→V} (hs:mB P w I β hp a sl) {dst:Option Tmp} {ty e:TypeId} {pos:String} {after:Array Edge} {guard:Option (Nat×Bool)} {f:FuncId}
  {args:Array Operand} {argTypes:Array TypeId} {nb:Nat} {r:R} {rd:List Nat} (mG:A.qA f=some e)
  (h:((match args.toList with
    | [x]=> .aB (cU P e) (tx e (aO P A.aF ty sl x) fun xs=> .aB (Nat.ble (xs.length*P.bytesOf e) bm) (hY nb (.arr e xs false) (.whole e nb) []))
    | _=> .fail):Rd R).run C hp=some (r,rd)):z9 P A (Oper.mk dst (.call (Go.Call.mk (.value (.func f)) args argTypes)) ty pos after guard) a w I β hp B M w0 r:=by
 cases ha:args.toList with
 | nil=>rw[ha] at h;cases h
 | cons x l=>
  rw[ha] at h;cases l with
  | cons _ _=>cases h
  | nil=>
   simp only at h;have e1:args= #[x]:=by grind
   subst e1;have hx:=hs.ev hg ty x;obtain ⟨au,h⟩:=aD h;have fin: ∀{w1:World} {sc:Nat→Option Nat},(∀id blk,hp id=some blk→ei P w1 I sc hp (sc id) blk)→ai P w1 I sc hp (a.eval x) (aO P A.aF ty sl x)→∃xs,(((∃a',a.eval x= .slice a' 0 0)∧xs=[])∨∃a' c news,Row P w1 I e (a.eval x) xs a' c news)∧
     xs.length*P.bytesOf e≤bm∧hp nb=none∧r=⟨.whole e nb,[(nb,.arr e xs false)]⟩:=by
    intro w1 sc h1 h2;obtain ⟨xs,lO,l,h⟩:=Dg h1 au h2 h;obtain ⟨dP,h⟩:=aD h;rw[fk] at dP;obtain ⟨hn,rfl⟩:=lb h;grind
   obtain ⟨c1,t,hu,c2⟩:=hP.qA f e mG;intro next Q p7
   unfold Oper.wp;have e2:(execOp a.eval ⟨dst,.call ⟨.value (.func f),#[x],argTypes⟩,ty,pos,after,guard⟩).run P w= .ok (.enter f #[a.eval x]) w:=by
    have fK:a.eval (.func f)= .func (.func f) #[] #[]:=rfl;simpa[execOp,resolve,fK,Deferred.ofValue,invoke] using c1 #[a.eval x] w
   rw[e2,Oper.upon_enter];refine c2 _ w _ (fun DG=> ?_) (fun b n c zK=> ?_) ?_
   ·obtain ⟨xs,lO,dP,hn,rfl⟩:=fin S.h.rel hx;have jz:xs=[]:=by
     rcases lO with ⟨_,h⟩|⟨a,c,news,hr⟩
     ·exact h
     ·have:=hr.val.symm.trans DG;cases this
    subst jz;obtain ⟨a1,a2⟩:=CQ S e hn;exact p7 _ w I _ a.defers a1 a2 (.dD (bE _ _ _) (bE _ _ _)) fun d hd=> .inl hd
   ·obtain ⟨m1,m2⟩:=afA (w':=w.alloc (.cells #[] e)) S (fun b hb=>heap_alloc_old w _ b hb) (by simp) ⟨rfl,rfl⟩;obtain ⟨xs,lO,dP,hn,rfl⟩:=fin m2.h.rel (hx.mono m1);obtain ⟨v,w',β',a1,a2,a3,a4⟩:=OI (ty:=t) (a0:=some ⟨w.heap.size,0,none⟩) m2 hu au hn dP lO;exact ⟨v,w',a1,p7 v w' I β' a.defers (m1.trans a2) a3 a4 fun d hd=> .inl hd⟩
   ·obtain ⟨xs,lO,dP,hn,rfl⟩:=fin S.h.rel hx;rcases lO with ⟨⟨b,h⟩,_⟩|⟨b,c,news,hr⟩
    ·rw[h];cases b with
     | none=>grind
     | some b=>grind
    ·exact .inr ⟨_,_,_,hr.val⟩
theorem ahG (hP:jB P A) (S:aA P w I β hp B M w0) {a:Act} {dst:Option Tmp} {ty T0:TypeId} {pos:String} {after:Array Edge} {guard:Option (Nat×Bool)} {f:FuncId}
  {args:Array Operand} {argTypes:Array TypeId} {xs:List V} {r:R} {rd:List Nat} (vU:A.ext f=some T0) (hz:P.cellsOf T0=0) (k1:(args.map a.eval).toList.length=xs.length)
  (k2: ∀(j:Nat) v x,(args.map a.eval).toList[j]? =some v→xs[j]? =some x→ai P w I β hp v x) (h:(NM xs).run C hp=some (r,rd)):z9 P A (Oper.mk dst (.call (Go.Call.mk (.value (.func f)) args argTypes)) ty pos after guard) a w I β hp B M w0 r:=by
 unfold NM at h;split at h
 ·rename_i s c;obtain rfl:=aM h;generalize hv:args.map a.eval=vs at*
  obtain ⟨vs⟩:=vs
  match vs,k1,k2 with
  | [u,v],_,k2=>
   obtain ⟨s',rfl,hs⟩:=(k2 0 u _ rfl rfl).nf;obtain rfl:=(k2 1 v _ rfl rfl).eY;have q:=hP.Pt f T0 vU hz s' c w;rw[hs] at q;refine qO.step ⟨.int .i64 (Lib.indexByte s c.toNat.toUInt8),w,I,β,.inl ?_,Le.refl w I β hp,S,.int⟩;have fK:a.eval (.func f)= .func (.func f) #[] #[]:=rfl;simpa[execOp,resolve,fK,Deferred.ofValue,invoke,hv] using q
 ·cases h
theorem ahH (hP:jB P A) (S:aA P w I β hp B M w0) (hg:iF P A.aF w I) {a:Act} {sl:Nat→V} (hs:mB P w I β hp a sl) {dst:Option Tmp} {ty T0:TypeId} {pos:String} {after:Array Edge} {guard:Option (Nat×Bool)} {f:FuncId}
  {args:Array Operand} {argTypes:Array TypeId} {r:R} {rd:List Nat} (vU:A.ext f=some T0)
  (h:((match args.toList with
   | [x]=>
    match aO P A.aF ty sl x with
    | .ptr id i c=>Rd.get id fun
     | some (.var T cs)=> .aB (Nat.beq T T0&&(rO P T&&(Nat.beq cs.length (P.cellsOf T)&&(Nat.beq i 0&&Nat.beq c 0)))) (.ret ⟨.aX [],[(id,.var T (.undef::cs.tail))]⟩)
     | _=> .fail
    | _=> .fail
   | _=> .fail):Rd R).run C hp=some (r,rd)):z9 P A (Oper.mk dst (.call (Go.Call.mk (.value (.func f)) args argTypes)) ty pos after guard) a w I β hp B M w0 r:=by
 cases ha:args.toList with
 | nil=>rw[ha] at h;cases h
 | cons x l=>
  rw[ha] at h;cases l with
  | cons _ _=>cases h
  | nil=>
   simp only at h;have e1:args= #[x]:=by grind
   subst e1;have hx:=hs.ev hg ty x;cases gF:aO P A.aF ty sl x<;>rw[gF] at h hx<;>simp only at h<;>first|(cases h;done)|skip
   rename_i id i c;obtain ⟨l,h1⟩:=run_get h;cases ab:hp id with
   | none=>rw[ab] at h1;cases h1
   | some blk=>
    rw[ab] at h1;cases blk<;>simp only at h1<;>first|(cases h1;done)|skip
    rename_i T cs;obtain ⟨h2,h3⟩:=aD h1;simp only[aK,aN] at h2;obtain ⟨rfl,ec,hlc,rfl,rfl⟩:=h2;obtain rfl:=aM h3;obtain ⟨b,hb,he⟩:=hx.gP ab (by simp);have hr:=S.h.rel id _ ab;rw[hb] at hr;cases hr with
    | @var _ b' Ca _ ay hh aU hI jz gO=>
     cases ay;have zR:a.eval x= .pointer (some ⟨b,0,none⟩):=by grind
     obtain ⟨q1,q2⟩:=hP.ext f T vU b Ca w hh (aU.trans hlc) (gO ec);have h0:0<Ca.size:=by
      rcases gO ec with k|k<;>exact (vg.1 k).1
     have qP:(V.undef::cs.tail).length=cs.length:=by
      grind
     have rel: ∀(C':Array Value),(∀j,0<j→C'[j]? =Ca[j]?)→∀(j:Nat) v y,C'[j]? =some v→(V.undef::cs.tail)[j]? =some y→ai P w I β hp v y:=by
      intro C' IQ j v y hj hy;cases j with
      | zero=>simp at hy;subst hy;exact .undef
      | succ j=>
       grind
     have fin: ∀w' C',(∀b',b'≠b→w'.heap[b']? =w.heap[b']?)→w'.heap[b]? =some (.cells C' T (0,0))→C'.size=Ca.size→w.heap.size≤w'.heap.size→w'.os=w.os∧w'.output=w.output→
       (∀j,0<j→C'[j]? =Ca[j]?)→(C'[0]? =some (.pointer none)∨C'[0]? =some (.pointer (some ⟨b,0,none⟩)))→
       Le P w I β hp w' I β (aq hp id (some (.var T (V.undef::cs.tail))))∧aA P w' I β (aq hp id (some (.var T (V.undef::cs.tail)))) B M w0:=by
      intro w' C' k1 k2 k3 k4 k5 k6 k7;exact CR (w':=w') (blk':= .var T (V.undef::cs.tail)) S ab (by simp) rfl hb hI (by simp) k1 (by rw[jW k2,jW hh,k3]) k4 k5 fun hle=>
       .var rfl k2 (by omega) hI (fun j v y hj hy=>(rel C' k6 j v y hj hy).mono hle) fun _=>k7
     intro next Q hn
     unfold Oper.wp;have e2:(execOp a.eval ⟨dst,.call ⟨.value (.func f),#[x],argTypes⟩,ty,pos,after,guard⟩).run P w= .ok (.enter f #[.pointer (some ⟨b,0,none⟩)]) w:=by
      have fK:a.eval (.func f)= .func (.func f) #[] #[]:=rfl;simpa[execOp,resolve,fK,Deferred.ofValue,invoke,zR] using q1
     rw[e2,Oper.upon_enter];refine q2.mono fun e w' DF=> ?_;obtain ⟨rfl,hw⟩:=DF;have XU:Le P w I β hp w' I β (aq hp id (some (.var T (V.undef::cs.tail))))∧aA P w' I β (aq hp id (some (.var T (V.undef::cs.tail)))) B M w0:=by
      rcases hw with rfl|rfl
      ·exact fin w' Ca (fun _ _=>rfl) hh rfl (az _) ⟨rfl,rfl⟩ (fun _ _=>rfl) (gO ec)
      ·refine fin (w.setCell ⟨b,0,none⟩ (.pointer (some ⟨b,0,none⟩))) (Ca.setIfInBounds 0 (.pointer (some ⟨b,0,none⟩))) (fun b' bL=> ?_) ?_ (by simp) (by simp_all) ⟨rfl,rfl⟩ (fun j hj=> ?_) (.inr ?_)
       ·simp only[World.setCell,HT];grind
       ·simp[World.setCell,HT,hh]
       all_goals grind
     exact hn (.tuple #[]) w' I β a.defers XU.1 XU.2 (.aX rfl fun j v y hj _=>by simp at hj) fun d hd=> .inl hd
theorem ahI (hC:nr P A C) (hP:jB P A) (S:aA P w I β hp B M w0) (hg:iF P A.aF w I) {a:Act} {sl:Nat→V} (hs:mB P w I β hp a sl) {ix nb:Nat} {o:Oper} {r:R} {rd:List Nat}
  (h:(gL P A sl ix nb o).run C hp=some (r,rd)):z9 P A o a w I β hp B M w0 r:=by
 cases hc:Pc o.op with
 | false=>exact (ahd S hg hs hc h).step
 | true=>
  obtain ⟨dst,op,ty,pos,after,guard⟩:=o;cases op<;>simp only[Pc] at hc<;>first|(cases hc;done)|skip
  case defer c=>
   obtain ⟨callee,args,argTypes⟩:=c;cases callee with
   | invoke r m=>simp only[gL] at h;cases h
   | builtin b=>simp only[gL] at h;cases h
   | value f=>
   cases f with
   | tmp t=>
    simp only[gL] at h;cases ec:sl t<;>rw[ec] at h<;>simp only at h<;>first|(cases h;done)|skip
    rename_i f xs ys;obtain ⟨h1,h2⟩:=aD h;obtain rfl:=aM h2;have hv:=hs t;rw[ec] at hv;generalize xu:a.tmps.getD t undef=vt at hv;cases hv with
    | @fn _ fs cs _ _ q1 q2 q3 q4=>
     intro next Q hn
     unfold Oper.wp;have fK:a.eval (.tmp t)= .func (.func f) fs cs:=xu;have e1:(execOp a.eval ⟨dst,.defer ⟨.value (.tmp t),args,argTypes⟩,ty,pos,after,guard⟩).run P w= .ok (.defer {target:= .fn (.func f) cs,args:=fs++args.map a.eval}) w:=by
      simp[execOp,resolve,fK,Deferred.ofValue]
     rw[e1,Oper.upon_defer];exact hn undef w I β _ (Le.refl w I β hp) S .undef fun d hd=>by
      rcases lz.1 hd with rfl|hd
      ·exact .inr ⟨f,cs,rfl,h1⟩
      grind
   | func f=>simp only[gL] at h;cases h
   | const _=>simp only[gL] at h;cases h
   | global _=>simp only[gL] at h;cases h
  rename_i c;obtain ⟨callee,args,argTypes⟩:=c;cases callee with
  | invoke r m=>cases hc
  | builtin b=>cases hc
  | value f=>
   cases f with
   | func f=>
    simp only[gL] at h;cases vU:A.ext f with
    | some T0=>
     rw[vU] at h;simp only at h;cases hz:Nat.beq (P.cellsOf T0) 0 with
     | true=>
      rw[hz] at h;simp only[cond_true] at h;rw[aN] at hz;obtain ⟨h1,h2⟩:=aD h;rw[aN] at h1;obtain ⟨k1,k2⟩:=hs.args hg h1;exact ahG hP S vU hz k1 k2 h2
     | false=>
     rw[hz] at h;simp only[cond_false] at h;exact ahH hP S hg hs vU h
    | none=>
    rw[vU] at h;simp only at h;cases mG:A.qA f with
    | some e0=>
     rw[mG] at h;simp only at h;exact ahF hP S hg hs mG h
    | none=>
    rw[mG] at h;simp only at h;obtain ⟨h1,h2⟩:=aD h;rw[aN] at h1;obtain ⟨k1,k2⟩:=hs.args hg h1;refine XT hC hP S hg k1 k2 h2 ?_;have e1:(args.map a.eval).toList.toArray=args.map a.eval:=Array.toArray_toList;rw[e1];simp[execOp,resolve,Act.eval,Deferred.ofValue,invoke]
   | tmp t=>
    simp only[gL] at h;cases ec:sl t<;>rw[ec] at h<;>simp only at h<;>first|(cases h;done)|skip
    rename_i f xs ys;obtain ⟨h1,h2⟩:=aD h;rw[aN] at h1;obtain ⟨k1,k2⟩:=hs.args hg h1;have hv:=hs t;rw[ec] at hv;generalize xu:a.tmps.getD t undef=vt at hv;cases hv with
    | @fn _ fs cs _ _ q1 q2 q3 q4=>
     have l1:fs.toList.length=xs.length:=by omega
     have l3:cs.toList.length=ys.length:=by omega
     have r1: ∀(j:Nat) v x,fs.toList[j]? =some v→xs[j]? =some x→ai P w I β hp v x:=fun j v x hj hx=>q2 j v x (by grind) hx;have r3: ∀(j:Nat) v x,cs.toList[j]? =some v→ys[j]? =some x→ai P w I β hp v x:=fun j v x hj hx=>q4 j v x (by grind) hx;refine XT hC hP S hg (vals:=fs.toList++(args.map a.eval).toList++cs.toList) (args:=xs++((args.toList.zip argTypes.toList).map fun p=>aO P A.aF p.2 sl p.1)++ys) (by grind) ?_ h2 ?_
     ·grind
     ·have e1:(fs.toList++(args.map a.eval).toList++cs.toList).toArray=fs++args.map a.eval++cs:=by
       grind
      rw[e1];have fK:a.eval (.tmp t)= .func (.func f) fs cs:=xu;simp[execOp,resolve,fK,Deferred.ofValue,invoke]
   | _=>cases hc
end
section
variable {P:Program} {A:di} {w w':World} {I I' I2:Nat→Nat→Prop} {μ β β':Nat→Option Nat} {hp hp':Nat→Option ag} {C:af} {B:Nat} {M:Nat→Prop} {w0:Start}
structure gn (P:Program) (E:FuncId→Bool) (G:Nat→V) (w:World) (I:Nat→Nat→Prop) (β:Nat→Option Nat) (n:Nat) (a:Act) (st:St):Prop where
 sl:mB P w I β st.hp a st.sl
 size:a.tmps.size=n
 defers: ∀d∈a.defers,DD E d
 aF:iF P G w I
theorem Px {E:FuncId→Bool} {G:Nat→V} {n:Nat} {a:Act} {st:St} {o:Oper} {v:Value} {x:V} {hp':Nat→Option ag} {ds:List Deferred} (h:gn P E G w I β n a st) (hle:Le P w I β st.hp w' I' β' hp') (hd:vz o n=true)
  (hv:ai P w' I' β' hp' v x) (nP: ∀d∈ds,d∈a.defers∨DD E d):gn P E G w' I' β' n ({a with defers:=ds}.put o.dst v) ⟨jR st.sl o.dst x,hp',st.nb⟩:=by
 have XV: ∀d∈ds,DD E d:=fun d hd=>(nP d hd).elim (h.defers d) id;cases ahJ:o.dst with
 | none=>exact ⟨fun k=>(h.sl k).mono hle,h.size,XV,h.aF.mono hle.dZ hle.cH⟩
 | some d=>
  have aY:d<a.tmps.size:=by
   unfold vz at hd;rw[ahJ] at hd;rw[h.size];simpa using hd
  refine ⟨fun k=> ?_,by simp[Act.put,h.size],XV,h.aF.mono hle.dZ hle.cH⟩;simp only[Act.put,jR,aq];cases hb:Nat.beq k d with
  | true=>
   rw[aN] at hb;subst hb;simpa[aY] using hv
  | false=>
   have bL:d≠k:=fun e=>by rw[e,mo] at hb;cases hb
   have:=(h.sl k).mono hle;simpa[Array.getElem?_setIfInBounds_ne bL] using this
theorem XW {E:FuncId→Bool} {G:Nat→V} {n:Nat} {a:Act} {st:St} {d:Nat} {b:Bool} (h:gn P E G w I β n a st) (hd:st.sl d= .bool b):a.tmps[d]? =some (.bool b):=by
 have:=h.sl d;rw[hd] at this;have:=this.kZ;cases ht:a.tmps[d]? with
 | none=>simp[ht] at this;cases this
 | some v=>simp[ht] at this;rw[this]
theorem ahK {x:V} {b:Bool} (h:nY x=some (some b)):x= .bool b:=by
 cases x with
 | bool c=>simp only[nY] at h;injection h with h;injection h with h;rw[h]
 | aX vs=>cases vs<;>simp[nY] at h
 | _=>simp[nY] at h
theorem ahL {x:V} (h:nY x=some none):x= .aX []:=by
 cases x with
 | aX vs=>cases vs with
  | nil=>rfl
  | cons _ _=>simp[nY] at h
 | bool c=>simp[nY] at h
 | _=>simp[nY] at h
theorem ai.ahM {v:Value} (h:ai P w I β hp v (.aX [])):v= .tuple #[]:=by
 cases h with
 | @aX cs _ hs _=>
  have:cs= #[]:=by
   apply Array.eq_empty_of_size_eq_zero;simpa using hs
  rw[this]
theorem ai.XX:ai P w I β hp Go.undef (.aX []):= .aX (by rfl) (fun j v x _ hx=>by simp at hx)
theorem XY (hC:nr P A C) (hP:jB P A) {ops:Array Oper} {n i nb:Nat} {o:Oper} (ho:ops[i]? =some o) {a:Act} {st st':St} {R W:List Nat} (S:aA P w I β st.hp B M w0) (hA:gn P A.idle A.aF w I β n a st)
  (h:jo P A C n ops i o nb st=some (st',R,W)) {K:Act→World→Prop} {Q:Exit→Act→World→Prop}
  (hK: ∀a' w' I' β',Le P w I β st.hp w' I' β' st'.hp→aA P w' I' β' st'.hp B M w0→gn P A.idle A.aF w' I' β' n a' st'→K a' w'):wpOp P ops Q i K a w:=by
 unfold jo at h;cases hd:vz o n with
 | false=>rw[hd] at h;cases h
 | true=>
  rw[hd] at h;simp only[cond_true] at h;have go: ∀{Py:St} {R W:List Nat},(((gL P A st.sl i (nb+64*i) o).run C st.hp).bind fun r=>some ((⟨jR st.sl o.dst r.1.v,cb st.hp r.1.upd,st.nb⟩:St),tH r.2 r.1.upd,ib st.hp r.1.upd))=some (Py,R,W)→Py=st'→
    o.wp P a w K Q:=by
   intro Py R W h e;obtain ⟨⟨r,rd⟩,h1,h2⟩:=bind_some h;cases h2;subst e;exact ahI hC hP S hA.aF hA.sl h1 K Q fun v w' I' β' ds k1 k2 k3 k4=>hK _ w' I' β' k1 k2 (Px hA k1 hd k3 k4)
  unfold wpOp;rw[ho];simp only;cases hg:o.guard with
  | none=>
   rw[hg] at h;simp only[Region.wanted,hg,ly];exact .inl (go h rfl)
  | some gw=>
   obtain ⟨g,want⟩:=gw;rw[hg] at h;simp only at h;cases mJ:(ops[g]?).bind (·.dst) with
   | none=>rw[mJ] at h;cases h
   | some d=>
    rw[mJ] at h;simp only at h;cases o6:nY (st.sl d) with
    | none=>rw[o6] at h;cases h
    | some ob=>
    rw[o6] at h;cases ob with
    | none=>
     have zK:=ahL o6;have hy:yielded ops a.tmps g=none:=by
      unfold yielded;rw[mJ];have:=hA.sl d;rw[zK] at this;have hu:=ai.ahM this;simp only[Option.bind_some];cases ht:a.tmps[d]? with
      | none=>rfl
      | some v=>simp[ht] at hu;subst hu;rfl
     simp only[Region.wanted,hg,hy];injection h with h;injection h with h3 h4;subst h3;have h2:((none:Option Bool)==some want)=false:=rfl;simp only[h2,Bool.false_eq_true,m7];exact hK _ w I β (Le.refl w I β st.hp) S (Px (ds:=a.defers) hA (Le.refl w I β st.hp) hd ai.XX fun d h=> .inl h)
    | some b=>
    simp only at h;have zK:=ahK o6;have hy:yielded ops a.tmps g=some b:=by
     unfold yielded;rw[mJ];simp only[Option.bind_some,XW hA zK]
    simp only[Region.wanted,hg,hy];by_cases hb:b=want
    ·subst hb;simp only[beq_self_eq_true,cond_true] at h;simp only[beq_self_eq_true,ly];exact .inl (go h rfl)
    ·have h1:(b==want)=false:=by simp[hb]
     have h2:(some b==some want)=false:=by simp[hb]
     rw[h1] at h;simp only[cond_false] at h;injection h with h;injection h with h3 h4;subst h3;simp only[h2,Bool.false_eq_true,m7];exact hK _ w I β (Le.refl w I β st.hp) S (Px (ds:=a.defers) hA (Le.refl w I β st.hp) hd ai.XX fun d h=> .inl h)
def xG (hp hp':Nat→Option ag) (c:Nat):Prop:=hp' c=hp c∧(KB≤c→iC (hp' (c-KB))=iC (hp (c-KB)))
theorem xG.symm {c:Nat} (h:xG hp hp' c):xG hp' hp c:=⟨h.1.symm,fun hc=>(h.2 hc).symm⟩
theorem vV {α:Type}: ∀{p:Rd α} {r:α} {rd:List Nat},p.run C hp=some (r,rd)→(∀id∈rd,xG hp hp' id)→p.run C hp'=some (r,rd)
 | .ret a,r,rd,h,_=>h
 | .fail,r,rd,h,_=>by cases h
 | .get id k,r,rd,h,he=>by
  obtain ⟨x,h1,h2⟩:=bind_some h;cases h2;have e1:hp' id=hp id:=(he id (by simp)).1;have:=vV (p:=k (hp id)) (r:=x.1) (rd:=x.2) h1 (fun i hi=>he i (by simp[hi]));simp only[Rd.run,e1,this,Option.bind_some]
 | .live id ok k,r,rd,h,he=>by
  simp only[Rd.run] at h⊢;cases hk:ok (iC (hp id)) with
  | false=>rw[hk] at h;cases h
  | true=>
   rw[hk] at h;obtain ⟨x,h1,h2⟩:=bind_some h;cases h2;have e1:iC (hp' id)=iC (hp id):=by
    have:=(he (id+KB) (by simp)).2 (Nat.le_add_left _ _);rwa [Nat.add_sub_cancel] at this
   have:=vV (p:=k) (r:=x.1) (rd:=x.2) h1 (fun i hi=>he i (by simp[hi]));rw[e1,hk,this];rfl
 | .opt o k,r,rd,h,he=>by
  obtain ⟨x,h1,h2⟩:=bind_some h;simp only[Rd.run,h1,Option.bind_some];exact vV h2 he
 | .aB b k,r,rd,h,he=>by
  obtain ⟨h1,h2⟩:=aD h;simp only[Rd.run,h1,cond_true];exact vV h2 he
 | .call key ds k,r,rd,h,he=>by
  obtain ⟨x,h1,h2⟩:=bind_some h;simp only[Rd.run,h1,Option.bind_some];exact vV h2 he
 | .alt true x y,r,rd,h,he=>vV (p:=x) h he
 | .alt false x y,r,rd,h,he=>vV (p:=y) h he
theorem ahN {G:Nat→V} {sl sl':Nat→V} {t:TypeId} {x:Operand} (h: ∀k,x= .tmp k→sl k=sl' k):aO P G t sl x=aO P G t sl' x:=by
 cases x with
 | tmp k=>exact h k rfl
 | _=>rfl
theorem ahO {sl sl':Nat→V} {ix nb:Nat} {o:Oper} (h: ∀x∈o.op.operands,∀k,x= .tmp k→sl k=sl' k):gL P A sl ix nb o=gL P A sl' ix nb o:=by
 have fK: ∀t x,x∈o.op.operands→aO P A.aF t sl x=aO P A.aF t sl' x:=fun t x hx=>ahN (h x hx);obtain ⟨dst,op,ty,pos,after,guard⟩:=o;have XZ: ∀(t:TypeId) (ps:Array (Nat×Operand)),(∀x∈ps.map (·.2),aO P A.aF t sl x=aO P A.aF t sl' x)→
   (ps.toList.map fun p=>(p.1,aO P A.aF t sl p.2))=ps.toList.map fun p=>(p.1,aO P A.aF t sl' p.2):=fun t ps hp=>
  mr fun p hm=>by rw[hp p.2 (Array.mem_map.2 ⟨p,rN.1 hm,rfl⟩)]
 have ahP: ∀(t:TypeId) (ps:Array (Nat×Operand)),(∀x∈ps.map (·.2),aO P A.aF t sl x=aO P A.aF t sl' x)→
   (ps.toList.map fun p=>(aO P A.aF t sl p.2).cells)=ps.toList.map fun p=>(aO P A.aF t sl' p.2).cells:=fun t ps hp=>
  mr fun p hm=>by rw[hp p.2 (Array.mem_map.2 ⟨p,rN.1 hm,rfl⟩)]
 cases op<;>simp only[Op.operands] at fK<;>simp only[gL]
 case pick c x y=>rw[fK ty c (by simp),fK ty x (by simp),fK ty y (by simp)]
 case build t ps=>rw[XZ ty ps fun x hx=>fK ty x (by simpa using hx),ahP ty ps fun x hx=>fK ty x (by simpa using hx)]
 case buildSlice t len ps=>
  split
  ·rename_i e _;rw[XZ e ps fun x hx=>fK e x (by simpa using hx)]
  ·rfl
 case slice t x lo hi mx=>
  cases mx with
  | some m=>
   have e1:lo.map (aO P A.aF 0 sl)=lo.map (aO P A.aF 0 sl'):=by
    cases lo with
    | none=>rfl
    | some l=>simp only[Option.map_some,fK 0 l (by simp)]
   have e2:hi.map (aO P A.aF 0 sl)=hi.map (aO P A.aF 0 sl'):=by
    cases hi with
    | none=>rfl
    | some l=>simp only[Option.map_some,fK 0 l (by simp)]
   have e3:=fK 0 m (by simp);simp only[fK ty x (by simp),e1,e2,e3]
  | none=>
   have e1:lo.map (aO P A.aF 0 sl)=lo.map (aO P A.aF 0 sl'):=by
    cases lo with
    | none=>rfl
    | some l=>simp only[Option.map_some,fK 0 l (by simp)]
   have e2:hi.map (aO P A.aF 0 sl)=hi.map (aO P A.aF 0 sl'):=by
    cases hi with
    | none=>rfl
    | some l=>simp only[Option.map_some,fK 0 l (by simp)]
   simp only[fK ty x (by simp),e1,e2]
 case call c=>
  obtain ⟨callee,args,argTypes⟩:=c;have xH: ∀t x,x∈args→aO P A.aF t sl x=aO P A.aF t sl' x:=fun t x hx=>fK t x (by simp[Call.operands,hx]);have hl: ∀t (l:List Operand),(∀x∈l,x∈args)→l.map (aO P A.aF t sl)=l.map (aO P A.aF t sl'):=fun t l hl=>mr fun x hx=>xH t x (hl x hx);have hz:((args.toList.zip argTypes.toList).map fun p=>aO P A.aF p.2 sl p.1)=(args.toList.zip argTypes.toList).map fun p=>aO P A.aF p.2 sl' p.1:=
   mr fun p hp=>xH p.2 p.1 (rN.1 (List.of_mem_zip hp).1)
  cases callee with
  | invoke r m=>rfl
  | builtin b=>
   have dc: ∀x∈args.toList,∀t,aO P A.aF t sl x=aO P A.aF t sl' x:=fun x hx t=>xH t x (rN.1 hx);have sy: ∀t (l:List Operand),(∀x∈l,∀t,aO P A.aF t sl x=aO P A.aF t sl' x)→l.map (aO P A.aF t sl)=l.map (aO P A.aF t sl'):=fun t l h=>mr fun x hx=>h x hx t;cases b<;>first|rfl|skip
   case append=>
    dsimp only;generalize args.toList=al at dc
    match al,dc,argTypes.toList with
    | [s,x],dc,[t,u]=>simp only[dc s (by simp),dc x (by simp)]
    | [],_,_=>rfl
    | [_],_,_=>rfl
    | _::_::_::_,_,_=>rfl
    | [_,_],_,[]=>rfl
    | [_,_],_,[_]=>rfl
    | [_,_],_,_::_::_::_=>rfl
   case copy=>
    dsimp only;generalize args.toList=al at dc
    match al,dc,argTypes.toList with
    | [s,x],dc,[t,u]=>simp only[dc s (by simp),dc x (by simp)]
    | [],_,_=>rfl
    | [_],_,_=>rfl
    | _::_::_::_,_,_=>rfl
    | [_,_],_,[]=>rfl
    | [_,_],_,[_]=>rfl
    | [_,_],_,_::_::_::_=>rfl
   case len=>
    dsimp only;generalize args.toList=al at dc
    match al,dc,argTypes.toList with
    | [x],dc,[t]=>simp only[dc x (by simp)]
    | [],_,_=>rfl
    | _::_::_,_,_=>rfl
    | [_],_,[]=>rfl
    | [_],_,_::_::_=>rfl
   case clear=>
    dsimp only;generalize args.toList=al at dc
    match al,dc,argTypes.toList with
    | [x],dc,[t]=>simp only[dc x (by simp)]
    | [],_,_=>rfl
    | _::_::_,_,_=>rfl
    | [_],_,[]=>rfl
    | [_],_,_::_::_=>rfl
   case unsafeSliceData=>
    dsimp only;generalize args.toList=al at dc
    match al,dc with
    | [],_=>rfl
    | [x],dc=>simp only[dc x (by simp)]
    | _::_::_,_=>rfl
   case unsafeString=>
    dsimp only;generalize args.toList=al at dc
    match al,dc,argTypes.toList with
    | [s,x],dc,[t,u]=>simp only[dc s (by simp),dc x (by simp)]
    | [],_,_=>rfl
    | [_],_,_=>rfl
    | _::_::_::_,_,_=>rfl
    | [_,_],_,[]=>rfl
    | [_,_],_,[_]=>rfl
    | [_,_],_,_::_::_::_=>rfl
   case max=>
    dsimp only;generalize args.toList=al at dc
    match al,dc with
    | [],_=>rfl
    | x::l,dc=>simp only[dc x (by simp),sy ty l (fun y hy=>dc y (by simp[hy]))]
   case min=>
    dsimp only;generalize args.toList=al at dc
    match al,dc with
    | [],_=>rfl
    | x::l,dc=>simp only[dc x (by simp),sy ty l (fun y hy=>dc y (by simp[hy]))]
  | value f=>
   cases f<;>first|rfl|skip
   ·rename_i t;have ht:sl t=sl' t:=h (.tmp t) (by simp[Op.operands,Call.operands]) t rfl;simp only[hz,ht]
   ·simp only[hz];cases hx:args.toList with
    | nil=>rfl
    | cons x l=>
     cases l with
     | cons _ _=>rfl
     | nil=>simp only[xH ty x (rN.1 (by rw[hx];simp))]
 case defer c=>
  obtain ⟨callee,args,argTypes⟩:=c;cases callee with
  | invoke r m=>rfl
  | builtin b=>rfl
  | value f=>
   cases f<;>first|rfl|skip
   rename_i t;have ht:sl t=sl' t:=h (.tmp t) (by simp[Op.operands,Call.operands]) t rfl;simp only[ht]
 case makeFunc fn a b=>
  cases fn<;>first|rfl|skip
  have e1:a.toList.map (aO P A.aF ty sl)=a.toList.map (aO P A.aF ty sl'):=mr fun x hx=>fK ty x (by simp[rN.1 hx]);have e2:b.toList.map (aO P A.aF ty sl)=b.toList.map (aO P A.aF ty sl'):=mr fun x hx=>fK ty x (by simp[rN.1 hx]);dsimp only;rw[e1,e2]
 case makeMap t r=>cases r<;>rfl
 all_goals first
  | rfl
  | (simp[fK];done)
end
section
variable {P:Program} {A:di} {w w':World} {I I' I2:Nat→Nat→Prop} {μ β β':Nat→Option Nat} {hp hp':Nat→Option ag} {C:af} {B:Nat} {M:Nat→Prop} {w0:Start}
theorem Pz {q:Nat×ag} {upd:List (Nat×ag)} (h:q∈upd):q.1∈ib hp upd:=by
 unfold ib;rw[List.mem_flatMap];refine ⟨q,h,?_⟩;cases Nat.beq (iC (hp q.1)) (iC (some q.2))<;>simp
theorem ahQ {upd:List (Nat×ag)} (h: ∀q∈upd,iC (hp' q.1)=iC (hp q.1)):ib hp' upd=ib hp upd:=by
 unfold ib
 induction upd with
 | nil=>rfl
 | cons q l ih=>
  rw[vh,vh,ih fun x hx=>h x (ka _ hx),h q (by simp)]
theorem X0 {c:Nat}: ∀{upd:List (Nat×ag)},c∉ib hp upd→xG hp (cb hp upd) c:=fun {upd} h=>by
 refine ⟨z8 fun q hq e=>h (e▸Pz hq),fun hc=> ?_⟩
 induction upd with
 | nil=>rfl
 | cons q l ih=>
  have hl:c∉ib hp l:=fun hx=>h (by unfold ib at*;rw[vh];exact List.mem_append_right _ hx);have hq:iC (hp q.1)=iC (some q.2)∨c≠q.1+KB:=by
   cases hb:Nat.beq (iC (hp q.1)) (iC (some q.2)) with
   | true=>exact .inl (B0 hb)
   | false=>
    refine .inr fun e=>h ?_;unfold ib;rw[vh,hb,e];simp
  show iC (aq (cb hp l) q.1 (some q.2) (c-KB))=_;simp only[aq];cases hb:Nat.beq (c-KB) q.1 with
  | false=>exact ih hl
  | true=>
   have e:=B0 hb;rcases hq with hq|hq
   ·rw[cond_true,e];exact hq.symm
   ·exact absurd (by omega) hq
theorem X1 {n i nb:Nat} {ops:Array Oper} {o:Oper} {st st':St} {R W:List Nat} (h:jo P A C n ops i o nb st=some (st',R,W)):
  ∃x upd,st'=⟨jR st.sl o.dst x,cb st.hp upd,st.nb⟩∧W=ib st.hp upd∧∀ff:St,(∀d∈o.looksAt ops,ff.sl d=st.sl d)→(∀id∈R,xG st.hp ff.hp id)→
   jo P A C n ops i o nb ff=some (⟨jR ff.sl o.dst x,cb ff.hp upd,ff.nb⟩,R,W)∧W=ib ff.hp upd:=by
 unfold jo at h;cases hd:vz o n with
 | false=>rw[hd] at h;cases h
 | true=>
  rw[hd] at h;simp only[cond_true] at h;have go:(((gL P A st.sl i (nb+64*i) o).run C st.hp).bind fun r=>some ((⟨jR st.sl o.dst r.1.v,cb st.hp r.1.upd,st.nb⟩:St),tH r.2 r.1.upd,ib st.hp r.1.upd))=some (st',R,W)→
    ∃x upd,st'=⟨jR st.sl o.dst x,cb st.hp upd,st.nb⟩∧W=ib st.hp upd∧∀ff:St,(∀d∈o.looksAt ops,ff.sl d=st.sl d)→(∀id∈R,xG st.hp ff.hp id)→
     (((gL P A ff.sl i (nb+64*i) o).run C ff.hp).bind fun r=>some ((⟨jR ff.sl o.dst r.1.v,cb ff.hp r.1.upd,ff.nb⟩:St),tH r.2 r.1.upd,ib ff.hp r.1.upd))=some (⟨jR ff.sl o.dst x,cb ff.hp upd,ff.nb⟩,R,W)∧W=ib ff.hp upd:=by
   intro h;obtain ⟨⟨r,rd⟩,h1,h2⟩:=bind_some h;cases h2;refine ⟨r.v,r.upd,rfl,rfl,fun ff hs hh=> ?_⟩;have hw:ib ff.hp r.upd=ib st.hp r.upd:=ahQ fun q hq=>by
    have:=(hh (q.1+KB) (List.mem_append_right _ (ez.2 ⟨q,hq,rfl⟩))).2 (Nat.le_add_left _ _);rwa [Nat.add_sub_cancel] at this
   rw[ahO (sl':=st.sl) fun x hx k hk=> ?_,vV h1 fun c hc=>hh c (List.mem_append_left _ hc)]
   ·refine ⟨?_,hw.symm⟩;rw[Option.bind_some,hw]
   ·subst hk;exact hs k (List.mem_append_left _ (List.mem_filterMap.2 ⟨.tmp k,by simpa using hx,rfl⟩))
  cases hg:o.guard with
  | none=>
   rw[hg] at h;obtain ⟨x,upd,e1,e2,e3⟩:=go h;refine ⟨x,upd,e1,e2,fun ff hs hh=> ?_⟩;unfold jo;simp only[hd,cond_true,hg];exact e3 ff hs hh
  | some gw=>
   obtain ⟨g,want⟩:=gw;rw[hg] at h;simp only at h;cases mJ:(ops[g]?).bind (·.dst) with
   | none=>rw[mJ] at h;cases h
   | some d=>
    rw[mJ] at h;simp only at h;have PA:d∈o.looksAt ops:=List.mem_append_right _ (by rw[hg];simp[mJ]);cases o6:nY (st.sl d) with
    | none=>rw[o6] at h;cases h
    | some ob=>
    rw[o6] at h;cases ob with
    | none=>
     injection h with h;injection h with h3 h4;injection h4 with h5 h6;subst h5;subst h6;refine ⟨.aX [],[],h3.symm,rfl,fun ff hs hh=> ?_⟩;unfold jo;simp only[hd,cond_true,hg,mJ,hs d PA,o6];exact ⟨rfl,rfl⟩
    | some b=>
    simp only at h;cases hb:b==want with
    | true=>
     rw[hb] at h;obtain ⟨x,upd,e1,e2,e3⟩:=go h;refine ⟨x,upd,e1,e2,fun ff hs hh=> ?_⟩;unfold jo;simp only[hd,cond_true,hg,mJ,hs d PA,o6,hb];exact e3 ff hs hh
    | false=>
     rw[hb] at h;simp only[cond_false] at h;injection h with h;injection h with h3 h4;injection h4 with h5 h6;subst h5;subst h6;refine ⟨.aX [],[],h3.symm,rfl,fun ff hs hh=> ?_⟩;unfold jo;simp only[hd,cond_true,hg,mJ,hs d PA,o6,hb,cond_false];exact ⟨rfl,rfl⟩
theorem X2 {sl:Nat→V} {d:Option Nat} {x:V} {k:Nat} (h:d≠some k):jR sl d x k=sl k:=by
 cases d with
 | none=>rfl
 | some d=>exact cu _ _ fun e=>h (by rw[e])
theorem ahR {hp:Nat→Option ag} {a b:List (Nat×ag)} (h: ∀q∈a,∀q'∈b,q.1≠q'.1):cb (cb hp a) b=cb (cb hp b) a:=by
 funext id;by_cases ha: ∃q∈a,q.1=id
 ·have hb: ∀q∈b,q.1≠id:=by
   obtain ⟨q,hq,rfl⟩:=ha;exact fun q' dI e=>h q hq q' dI e.symm
  rw[z8 hb];obtain ⟨q,hq,rfl⟩:=ha;have same: ∀(bG eD:Nat→Option ag) (l:List (Nat×ag)) (q:Nat×ag),q∈l→cb bG l q.1=cb eD l q.1:=by
   intro bG eD l
   induction l with
   | nil=>intro q hq;simp at hq
   | cons p l ih=>
    intro q hq;simp only[cb,aq];cases hb:Nat.beq q.1 p.1 with
    | true=>rfl
    | false=>
     simp only[cond_false];refine ih q ((lz.1 hq).resolve_left fun e=> ?_);rw[e,mo] at hb;cases hb
  exact same _ _ a q hq
 ·rw[z8 (hp:=cb hp b) (l:=a) fun q hq e=>ha ⟨q,hq,e⟩];have same: ∀(bG eD:Nat→Option ag) (l:List (Nat×ag)),bG id=eD id→cb bG l id=cb eD l id:=by
   intro bG eD l he
   induction l with
   | nil=>exact he
   | cons p l ih=>
    simp only[cb,aq];cases hb:Nat.beq id p.1 with
    | true=>rfl
    | false=>exact ih
  exact same _ _ b (z8 fun q hq e=>ha ⟨q,hq,e⟩)
structure X3 (ops:Array Oper) (o1 o2:Oper) (R1 W1 R2 W2:List Nat):Prop where
 apart:Oper.apart ops o1 o2=true
 w: ∀id∈W1,id∉R2∧id∉W2
 r: ∀id∈R1,id∉W2
theorem ahS {n i j nb:Nat} {ops:Array Oper} {o1 o2:Oper} {st kj ff:St} {R1 W1 R2 W2:List Nat} (h1:jo P A C n ops i o1 nb st=some (kj,R1,W1)) (h2:jo P A C n ops j o2 nb kj=some (ff,R2,W2))
  (hi:X3 ops o1 o2 R1 W1 R2 W2): ∃Jv,jo P A C n ops j o2 nb st=some (Jv,R2,W2)∧jo P A C n ops i o1 nb Jv=some (ff,R1,W1):=by
 obtain ⟨x1,u1,e1,f1,g1⟩:=X1 h1;obtain ⟨x2,u2,e2,f2,g2⟩:=X1 h2;obtain ⟨a1,a2,a3⟩:=Oper.apart_spec hi.apart;subst e1;have k2:=g2 st (fun d hd=>by simp only;rw[X2 fun e=>a1 d e hd]) fun c hc=>(X0 fun hw=>(hi.w c (by rw[f1];exact hw)).1 hc).symm;refine ⟨_,k2.1,?_⟩;rw[(g1 _ (fun d hd=> ?_) (fun c hd=> ?_)).1,e2]
 ·congr 3
  ·funext k;cases hd1:o1.dst with
   | none=>rfl
   | some d1=>
    cases zD:o2.dst with
    | none=>rfl
    | some d2=>
     have bL:d2≠d1:=fun e=>a2 d1 hd1 (by rw[zD,e]);simp only[jR,aq];cases pY:Nat.beq k d1<;>cases xI:Nat.beq k d2<;>simp only[cond_true,cond_false];rw[aN] at pY xI;exact absurd (xI.symm.trans pY) bL
  ·exact (ahR fun q hq q' dI e=>(hi.w q.1 (by rw[f1];exact Pz hq)).2 (by rw[f2,e];exact Pz dI)).symm
 ·simp only;rw[X2 fun e=>a3 d e hd]
 ·exact X0 fun hw=>hi.r c hd (by rw[k2.2];exact hw)
def Ab (P:Program) (A:di) (C:af) (n:Nat) (ops:Array Oper) (nb:Nat):List (Nat×Oper×List Nat×List Nat)→St→St→Prop
 | [],st,st'=>st=st'
 | (i,o,R,W)::l,st,st'=> ∃kj,jo P A C n ops i o nb st=some (kj,R,W)∧Ab P A C n ops nb l kj st'
def xJ (x:Nat×Oper×List Nat×List Nat):Nat×List Nat×List Nat:=(x.1,x.2.2.1,x.2.2.2)
theorem X4 {n nb:Nat} {ops:Array Oper}: ∀{l:List (Nat×Oper)} {st st':St} {log Jw:Log},rT P A C n ops nb l st log=some (st',Jw)→
  ∃g,g.map (fun x=>(x.1,x.2.1))=l∧Jw=log++g.map xJ∧Ab P A C n ops nb g st st'
 | [],st,st',log,Jw,h=>by
  cases h;exact ⟨[],rfl,by simp,rfl⟩
 | (i,o)::l,st,st',log,Jw,h=>by
  obtain ⟨⟨kj,R,W⟩,h1,h2⟩:=bind_some h;obtain ⟨g,a,b,c⟩:=X4 h2;exact ⟨(i,o,R,W)::g,by simp[a],by simp[b,xJ],kj,h1,c⟩
def X5 (ops:Array Oper) (x y:Nat×Oper×List Nat×List Nat):Prop:=X3 ops x.2.1 y.2.1 x.2.2.1 x.2.2.2 y.2.2.1 y.2.2.2
theorem X6 {n nb:Nat} {ops:Array Oper} {y:Nat×Oper×List Nat×List Nat} {g2:List (Nat×Oper×List Nat×List Nat)}: ∀{g1:List (Nat×Oper×List Nat×List Nat)} {st st':St},
  Ab P A C n ops nb (g1++y::g2) st st'→(∀x∈g1,X5 ops x y)→∃kj,jo P A C n ops y.1 y.2.1 nb st=some (kj,y.2.2.1,y.2.2.2)∧Ab P A C n ops nb (g1++g2) kj st'
 | [],st,st',h,_=>h
 | x::g1,st,st',h,hi=>by
  obtain ⟨kj,h1,h2⟩:=h;obtain ⟨ff,h3,h4⟩:=X6 h2 fun z hz=>hi z (ka _ hz);obtain ⟨Jv,h5,h6⟩:=ahS h1 h3 (hi x (by simp));exact ⟨Jv,h5,ff,h6,h4⟩
theorem X7 (hC:nr P A C) (hP:jB P A) {n nb:Nat} {ops:Array Oper} {Q:Exit→Act→World→Prop}: ∀{g:List (Nat×Oper×List Nat×List Nat)} {st st':St} {a:Act} {w:World} {I:Nat→Nat→Prop} {β:Nat→Option Nat},
  Ab P A C n ops nb g st st'→(∀x∈g,ops[x.1]? =some x.2.1)→aA P w I β st.hp B M w0→gn P A.idle A.aF w I β n a st→
  (∀a' w' I' β',Le P w I β st.hp w' I' β' st'.hp→aA P w' I' β' st'.hp B M w0→gn P A.idle A.aF w' I' β' n a' st'→Q .normal a' w')→wpOps P ops Q (g.map (·.1)) a w
 | [],st,st',a,w,I,β,h,_,S,hA,hQ=>by
  cases h;exact hQ a w I β (Le.refl w I β _) S hA
 | x::g,st,st',a,w,I,β,h,ho,S,hA,hQ=>by
  obtain ⟨kj,h1,h2⟩:=h;rw[iQ,wpOps_cons];refine XY hC hP (ho x (by simp)) S hA h1 fun a' w' I' β' k1 k2 k3=> ?_;exact X7 hC hP h2 (fun y hy=>ho y (ka _ hy)) k2 k3 fun a2 w2 I2 cB m1 m2 m3=>hQ a2 w2 I2 cB (k1.trans m1) m2 m3
end
section
variable {P:Program} {A:di} {w w':World} {I I' I2:Nat→Nat→Prop} {μ β β':Nat→Option Nat} {hp hp':Nat→Option ag} {C:af} {B:Nat} {M:Nat→Prop} {w0:Start}
inductive xK (ops:Array Oper):Nat→Nat→Prop
 | X8 {i x:Nat} {o:Oper} {e:Edge}:ops[i]? =some o→e∈o.after→Region.binds .any e=true→e.on=x→xK ops i x
 | trans {i x:Nat} {o:Oper} {e:Edge}:ops[i]? =some o→e∈o.after→Region.binds .any e=true→xK ops e.on x→xK ops i x
theorem X9 {acc:Array Nat} {x:Nat}: ∀{l:List Edge} {s:Nat},(l.foldl (fun s e=>if Region.binds .any e then s|||2^e.on|||acc.getD e.on 0 else s) s).testBit x=true→
  s.testBit x=true∨∃e∈l,Region.binds .any e=true∧(e.on=x∨(acc.getD e.on 0).testBit x=true)
 | [],s,h=> .inl h
 | e::l,s,h=>by
  simp only[List.foldl_cons] at h;rcases X9 h with h1|⟨e',a,b⟩
  ·by_cases hb:Region.binds .any e=true
   ·rw[ak hb,Nat.testBit_or,Nat.testBit_or,Cf,Cf] at h1;rcases h1 with (h1|h1)|h1
    ·exact .inl h1
    ·rw[Nat.testBit_two_pow] at h1;exact .inr ⟨e,by simp,hb,.inl (by simpa using h1)⟩
    ·exact .inr ⟨e,by simp,hb,.inr h1⟩
   ·rw[aj hb] at h1;exact .inl h1
  ·exact .inr ⟨e',ka _ a,b⟩
theorem Ya {ops:Array Oper} {x:Nat}: ∀{l:List Oper} {acc:Array Nat},(∀j o,l[j]? =some o→ops[acc.size+j]? =some o)→(∀j,(acc.getD j 0).testBit x=true→xK ops j x)→
  ∀j,((l.foldl (fun acc o=>acc.push (o.after.foldl (fun s e=>if Region.binds .any e then s|||2^e.on|||acc.getD e.on 0 else s) 0)) acc).getD j 0).testBit x=true→xK ops j x
 | [],acc,_,Jx,j,h=>Jx j h
 | o::l,acc,hl,Jx,j,h=>by
  simp only[List.foldl_cons] at h;refine Ya (l:=l) ?_ ?_ j h
  ·intro j o' hj;have:=hl (j+1) o' (by simpa using hj);rw[Array.size_push];rwa [show acc.size+1+j=acc.size+(j+1) by omega]
  ·intro k hk;simp only[y7,Array.getElem?_push] at hk;by_cases PB:k=acc.size
   ·rw[ak PB] at hk;simp only[Option.getD_some] at hk;rw[←HM] at hk;have ho:=hl 0 o rfl;rw[Nat.add_zero] at ho;rw[PB];have xI:(o.after.toList.foldl (fun s e=>if Region.binds .any e then s|||2^e.on|||acc.getD e.on 0 else s) 0).testBit x=true:=by simpa[y7] using hk
    rcases X9 xI with h0|⟨e,he,hb,h1⟩
    ·simp at h0
    ·rcases h1 with h1|h1
     ·exact .X8 ho (rN.1 he) hb h1
     ·exact .trans ho (rN.1 he) hb (Jx _ h1)
   ·rw[aj PB] at hk;exact Jx k (by simpa[y7] using hk)
theorem ahT {ops:Array Oper} {i x:Nat} (h:((Region.before ops).getD i 0).testBit x=true):xK ops i x:=by
 unfold Region.before at h;rw[←HM] at h;refine Ya (l:=ops.toList) (acc:= #[]) (fun j o hj=>by simpa using hj) (fun j hj=>by simp at hj) i h
def Yb (ops:Array Oper) (listed:Array Bool):Prop:= ∀i o,ops[i]? =some o→listed.getD i false=true→∀e∈o.after,Region.binds .any e=true→listed.getD e.on false=true
theorem ahU {ops:Array Oper} {listed:Array Bool} (hc:Yb ops listed) {i x:Nat} (h:xK ops i x) (hi: ∀o,ops[i]? =some o→∀e∈o.after,Region.binds .any e=true→listed.getD e.on false=true):listed.getD x false=true:=by
 induction h with
 | X8 ho he hb hx=>rw[←hx];exact hi _ ho _ he hb
 | trans ho he hb _ ih=>exact ih fun o' qI e' zR ay=>hc _ o' qI (hi _ ho _ he hb) e' zR ay
theorem Yc: ∀{l:List Oper} {k j:Nat} {o:Oper},Cz k l=true→l[j]? =some o→∀e∈o.after,Region.binds .any e=true→e.on<k+j
 | [],k,j,o,_,h=>by simp at h
 | o'::l,k,j,o,hk,h=>by
  simp only[Cz,aK] at hk;cases j with
  | zero=>
   simp at h;subst h;intro e he hb;have:=fF.1 hk.1 e (rN.2 he);simp[hb] at this;omega
  | succ j=>
   intro e he hb;have:=Yc hk.2 (j:=j) (by simpa using h) e he hb;omega
theorem Yd {ops:Array Oper} {wY:Array Nat}: ∀{l:Log},Is ops wY l=true→l.Pairwise fun x y=>Cy ops wY x y=true
 | [],_=> .nil
 | x::l,h=>by
  simp only[Is,aK] at h;exact .cons (fun y hy=>fF.1 h.1 y hy) (Yd h.2)
theorem Ye {listed:Array Bool} {i:Nat} (h:listed.getD i true=false):i<listed.size∧listed.getD i false=false:=by
 rcases gy i listed.size with h'|h'
 ·refine ⟨h',?_⟩;simpa[h'] using h
 ·simp[Array.getElem?_eq_none h'] at h
theorem Yf (hC:nr P A C) (hP:jB P A) {n nb:Nat} {ops:Array Oper} {Q:Exit→Act→World→Prop} (Jy:Cz 0 ops.toList=true):
  ∀(fuel:Nat) {g:List (Nat×Oper×List Nat×List Nat)} {listed:Array Bool} {st st':St} {a:Act} {w:World} {I:Nat→Nat→Prop} {β:Nat→Option Nat},
  g.length=fuel→Ab P A C n ops nb g st st'→(∀x∈g,ops[x.1]? =some x.2.1)→(g.map (·.1)).Pairwise (· < ·)→(g.map xJ).Pairwise (fun x y=>Cy ops (Region.before ops) x y=true)→
  listed.size=ops.size→(∀i,i<ops.size→(listed.getD i false=false↔i∈g.map (·.1)))→Yb ops listed→
  aA P w I β st.hp B M w0→gn P A.idle A.aF w I β n a st→
  (∀a' w' I' β',Le P w I β st.hp w' I' β' st'.hp→aA P w' I' β' st'.hp B M w0→gn P A.idle A.aF w' I' β' n a' st'→Q .normal a' w')→wpAny P .any ops Q fuel listed a w
 | 0,g,listed,st,st',a,w,I,β,hf,hr,ho,aY,Jz,aU,xL,mG,S,hA,hQ=>by
  obtain rfl:g=[]:=nQ hf;cases hr;refine ⟨?_,hQ a w I β (Le.refl w I β _) S hA⟩;rw[List.eq_nil_iff_forall_not_mem];intro i hi;obtain ⟨h0,_⟩:=mem_ready.1 hi;obtain ⟨h1,h2⟩:=Ye h0;have:=(xL i (by omega)).1 h2;simp at this
 | fuel+1,g,listed,st,st',a,w,I,β,hf,hr,ho,aY,Jz,aU,xL,mG,S,hA,hQ=>by
  refine ⟨fun DG=> ?_,fun i hi=> ?_⟩
  ·exfalso;cases g with
   | nil=>simp at hf
   | cons x g=>
    have hx:=ho x (by simp);have jz:x.1<ops.size:=(vg.1 hx).1;have ju:x.1∈Region.ready .any ops listed:=by
     rw[mem_ready];have h0:=(xL x.1 jz).2 (by simp);refine ⟨?_,x.2.1,hx,fun e he hb=> ?_⟩
     ·have hl:x.1<listed.size:=by omega
      simpa[hl] using h0
     ·have OQ:=Yc Jy (j:=x.1) (by simpa using hx) e he hb;rw[eT] at OQ;cases hle:listed.getD e.on false with
      | true=>rfl
      | false=>
       have hm:=(xL e.on (by omega)).1 hle;simp only[iQ,lz] at hm;rw[iQ,List.pairwise_cons] at aY;rcases hm with hm|hm
       ·omega
       ·have:=aY.1 _ hm;omega
    rw[DG] at ju;cases ju
  ·obtain ⟨h0,oi,DH,Yg⟩:=mem_ready.1 hi;obtain ⟨h1,h2⟩:=Ye h0;have hig:=(xL i (by omega)).1 h2;obtain ⟨y,hy,JA⟩:=ez.1 hig;obtain ⟨g1,g2,rfl⟩:=List.append_of_mem hy;subst JA;have Yh:=ho y hy;rw[DH] at Yh;have Yi:oi=y.2.1:=dC Yh;have lg:((g1++y::g2).map (·.1)).Nodup:=aY.imp fun h=>B9 h;have ahV: ∀x∈g1,X5 ops x y:=by
    intro x hx;have hp:Cy ops (Region.before ops) (xJ x) (xJ y)=true:=by
     rw[rM,iQ,List.pairwise_append] at Jz;exact Jz.2.2 _ (ez.2 ⟨x,hx,rfl⟩) _ (by simp)
    have Yj:=ho x (eS.2 (.inl hx));unfold Cy at hp;rw[Cf] at hp;rcases hp with hp|hp
    ·have hl:=ahU mG (ahT hp) fun o qI e he hb=>by
      have:o=oi:=by
       have h3:ops[y.1]? =some o:=qI;rw[DH] at h3;exact (dC h3).symm
      subst this;exact Yg e he hb
     have jz:x.1<ops.size:=(vg.1 Yj).1;have:=(xL x.1 jz).2 (ez.2 ⟨x,eS.2 (.inl hx),rfl⟩);rw[show (xJ x).1=x.1 from rfl,this] at hl;cases hl
    ·simp only[xJ,y7,Yj,DH,Option.getD_some,aK,mn] at hp;obtain ⟨q1,q2,q3⟩:=hp;refine ⟨Yi▸q1,fun id ab=> ?_,fun id ab=>Jo q3 ab⟩;have:=Jo q2 ab;rw[eS] at this;exact ⟨fun h=>this (.inl h),fun h=>this (.inr h)⟩
   obtain ⟨kj,jt,mI⟩:=X6 hr ahV;rw[←Yi] at jt;refine XY hC hP DH S hA jt fun a' w' I' β' k1 k2 k3=> ?_;have jY:List.Sublist (g1++g2) (g1++y::g2):=List.Sublist.append_left (List.sublist_cons_self y g2) g1;have oc: ∀j,j≠y.1→(listed.setIfInBounds y.1 true).getD j false=listed.getD j false:=fun j hj=>getD_set_ne false (Ne.symm hj);refine Yf hC hP Jy fuel (g:=g1++g2) (st':=st') ?_ mI (fun x hx=>ho x (jY.subset hx)) (aY.sublist (jY.map _)) (Jz.sublist (jY.map _)) (by simp[aU]) (fun j hj=> ?_) (fun j o PC dn e he hb=> ?_) k2 k3 fun a2 w2 I2 cB m1 m2 m3=>hQ a2 w2 I2 cB (k1.trans m1) m2 m3
   ·simp at hf⊢;omega
   ·by_cases sd:j=y.1
    ·subst sd;have hl:y.1<listed.size:=by omega
     simp only[y7,Array.getElem?_setIfInBounds_self_of_lt hl,Option.getD_some];refine ⟨fun h=>(by cases h),fun h=> ?_⟩;exfalso;rw[rM,iQ,Ce,List.nodup_cons] at lg;rw[rM,eS] at h;rcases h with h|h
     ·exact lg.2.2 _ h _ (by simp) rfl
     ·exact lg.2.1.1 h
    ·rw[oc j sd,xL j hj];simp only[rM,iQ,eS,lz];constructor
     ·rintro (h|h|h)
      ·exact .inl h
      ·exact absurd h sd
      ·exact .inr h
     ·rintro (h|h)
      ·exact .inl h
      ·exact .inr (.inr h)
   ·by_cases sd:j=y.1
    ·subst sd;rw[DH] at PC;cases PC;exact getD_set_true (Yg e he hb)
    ·rw[oc j sd] at dn;exact getD_set_true (mG j o PC dn e he hb)
end
section
variable {P:Program} {A:di} {w w':World} {I I' I2:Nat→Nat→Prop} {μ β β':Nat→Option Nat} {hp hp':Nat→Option ag} {C:af} {B:Nat} {M:Nat→Prop} {w0:Start}
theorem Yk: ∀{l:List Oper} {k j:Nat},(qD k l)[j]? =(l[j]?).map fun o=>(k+j,o)
 | [],k,j=>by simp[qD]
 | o::l,k,0=>by simp[qD]
 | o::l,k,j+1=>by
  simp only[qD,List.getElem?_cons_succ,Yk];congr 1;funext o;rw[show k+1+j=k+(j+1) by omega]
theorem Yl: ∀{l:List Oper} {k:Nat},(qD k l).map (·.1)=List.range' k l.length
 | [],k=>rfl
 | o::l,k=>by simp[qD,Yl,List.range'_succ]
theorem ahW (hC:nr P A C) (hP:jB P A) (hm:P.follows .mixedOrders=true) {n id:Nat} {ops:Array Oper} {draw:Bool} {st st':St} {a:Act} {Q:Exit→Act→World→Prop}
  (h:zw P A C n ops draw st=some st') (S:aA P w I β st.hp B M w0) (hA:gn P A.idle A.aF w I β n a st)
  (hQ: ∀a' w' I' β',Le P w I β st.hp w' I' β' st'.hp→aA P w' I' β' st'.hp B M w0→gn P A.idle A.aF w' I' β' n a' st'→Q .normal a' w'):(Code.region id ops draw).wp P Q a w:=by
 obtain ⟨⟨kj,log⟩,h1,h2⟩:=bind_some h;obtain ⟨g,g1,g2,g3⟩:=X4 h1;have JB:g.map (·.1)=List.range ops.size:=by
  have:g.map (·.1)=(g.map fun x=>(x.1,x.2.1)).map (·.1):=by simp
  rw[this,g1,Yl,List.range_eq_range'];simp
 have Ym: ∀x∈g,ops[x.1]? =some x.2.1:=by
  intro x hx;have:(x.1,x.2.1)∈qD 0 ops.toList:=by rw[←g1];exact ez.2 ⟨x,hx,rfl⟩
  obtain ⟨j,hj⟩:=List.mem_iff_getElem?.1 this;rw[Yk] at hj;cases ho:ops.toList[j]? with
  | none=>rw[ho] at hj;cases hj
  | some o=>
   rw[ho] at hj;simp only[Option.map_some,eT,ey,lA] at hj;rw[←hj.1,←hj.2];simpa using ho
 cases draw with
 | false=>
  simp only[Bool.not_false,Bool.true_or,cond_true] at h2;cases h2;refine wp_region ?_;rw[←JB];exact X7 hC hP g3 Ym S hA hQ
 | true=>
  simp only[Bool.not_true,Bool.false_or] at h2;cases hc:(Region.noSelect ops&&CA ops log) with
  | false=>rw[hc] at h2;cases h2
  | true=>
   rw[hc] at h2;cases h2;simp only[aK,CA] at hc;obtain ⟨hns,Jy,ahX⟩:=hc;simp only[List.nil_append] at g2;refine wp_region_any hm ?_;have hlen:g.length=ops.size:=by
    have:=congrArg List.length JB;simpa using this
   refine Yf hC hP Jy ops.size (g:=g) (st':=st') hlen g3 Ym (by rw[JB];exact List.pairwise_lt_range) (by rw[←g2];exact Yd ahX) (by simp) (fun i hi=> ?_) (fun i o ho hl=> ?_)
    (w:=w.drew) S.drew ⟨fun k=>(hA.sl k).mono (Le.drew w I β _),hA.size,hA.defers,hA.aF.mono (Le.drew (P:=P) w I β st.hp).dZ (Le.drew (P:=P) w I β st.hp).cH⟩ fun a' w' I' β' k1 k2 k3=>hQ a' w' I' β' ((Le.drew w I β _).trans k1) k2 k3
   ·rw[JB];simp[hi]
   ·have hi:=(vg.1 ho).1;simp[hi] at hl
end
section
variable {P:Program} {A:di} {E:FuncId→Bool} {G:Nat→V} {w w':World} {I I' I2:Nat→Nat→Prop} {μ β β':Nat→Option Nat} {hp hp':Nat→Option ag} {C:af} {B:Nat} {M:Nat→Prop} {w0:Start}
theorem vW: ∀{l:List Nat} {hp:Nat→Option ag} {I:Nat→Nat→Prop},aA P w I β hp B M w0→∃I',Le P w I β hp w I' β (tF hp l)∧aA P w I' β (tF hp l) B M w0
 | [],hp,I,S=>⟨I,Le.refl w I β hp,S⟩
 | id::l,hp,I,S=>by
  simp only[tF];cases ab:hp id with
  | none=>exact vW S
  | some blk=>
   cases blk with
   | dead=>exact vW S
   | out _ _ _ _=>exact vW S
   | var _=>exact vW S
   | map _ _=>exact vW S
   | arr e es fz=>
    obtain ⟨h1,h2⟩:=CP S (upd:=[(id,.arr e es true)]) (fun p hp=>by
     simp only[fl] at hp;subst hp;exact ⟨e,es,rfl,.inl ⟨fz,ab⟩⟩)
    obtain ⟨I',h3,h4⟩:=vW (l:=l) h2;exact ⟨I',h1.trans h3,h4⟩
   | nest e es vers=>
    obtain ⟨h1,h2⟩:=CP S (upd:=[(id,.arr e es true)]) (fun p hp=>by
     simp only[fl] at hp;subst hp;exact ⟨e,es,rfl,.inr ⟨vers,ab⟩⟩)
    obtain ⟨I',h3,h4⟩:=vW (l:=l) h2;exact ⟨I',h1.trans h3,h4⟩
theorem Yn {n:Nat} {a:Act} {st:St} (S:aA P w I β st.hp B M w0) (hA:gn P E G w I β n a st):
  ∃I',Le P w I β st.hp w I' β st.hp∧aA P w I' β st.hp B M w0∧gn P E G w I' β n a st∧rX P I' β st.hp:=by
 obtain ⟨I',h1,h2,h3⟩:=VM S;exact ⟨I',h1,h2,⟨fun k=>(hA.sl k).mono h1,hA.size,hA.defers,hA.aF.mono h1.dZ h1.cH⟩,h3⟩
theorem ahY {hp:Nat→Option ag} (S:aA P w I β hp B M w0) (hT:rX P I β hp) {v:Value} {x:V} (hv:ai P w I β hp v x):ai P w I β hp v (Cx hp x):=by
 cases x with
 | whole e id=>
  simp only[Cx];split
  ·rename_i e' es ab;cases he:Nat.beq e e' with
   | false=>exact hv
   | true=>
    rw[aN] at he;subst he;simp only[cond_true];cases hv with
    | dH h=>grind
    | dw h=>grind
    | dO h=>grind
    | eB h=>grind
    | dD h=>rw[ab] at h;cases h;exact .list (.any fun _=>rfl)
    | whole h hb aU bP hm=>
     rw[ab] at h;cases h;have hr:=S.h.rel id _ ab;cases hr with
     | dY ay=>grind
     | arr hL au ay hh hs hf eN hx=>
      rw[hb] at ay;cases ay;have:=tL (I':=I) (off:=0) (len:=es.length) (o:=0) hh hx (eC au) (by omega) bP (fun _=>by simp) (fun _ _ h=>h) (hT _ _ _ _ ab hb);exact .list (by grind)
  ·exact hv
 | sub e id off len=>
  simp only[Cx];split
  ·rename_i e' es ab;cases he:Nat.beq e e' with
   | false=>exact hv
   | true=>
    rw[aN] at he;subst he;simp only[cond_true];cases hv with
    | ij h=>grind
    | gC h=>rw[ab] at h;cases h;exact .list (by simpa using (jU.any (P:=P) fun _=>rfl))
    | sub h hb kW bP ho=>
     rw[ab] at h;cases h;have hr:=S.h.rel id _ ab;cases hr with
     | dY ay=>grind
     | arr hL au ay hh hs hf eN hx=>
      rw[hb] at ay;cases ay;exact .list (tL (I':=I) hh hx (eC au) kW bP ho (fun _ _ h=>h) (hT _ _ _ _ ab hb))
  ·exact hv
 | _=>exact hv
theorem ahZ {n:Nat} {a:Act} {st:St} (S:aA P w I β st.hp B M w0) (hA:gn P E G w I β n a st) (p:Nat):
  ∃β',Le P w I β st.hp w I β' (vy st p).hp∧aA P w I β' (vy st p).hp B M w0∧gn P E G w I β' n a (vy st p):=by
 have same: ∃β',Le P w I β st.hp w I β' st.hp∧aA P w I β' st.hp B M w0∧gn P E G w I β' n a st:=⟨β,Le.refl ..,S,hA⟩
 unfold vy;cases Nat.ble (2*KB) p with
 | false=>exact same
 | true=>
  simp only[cond_true];split
  ·rename_i e hn hx;obtain ⟨h1,h2⟩:=N8 S (vers:=[0,0,0]) e hn;refine ⟨_,h1,h2,⟨fun k=> ?_,hA.size,hA.defers,hA.aF⟩⟩;show ai P w I (aq β st.nb none) (aq st.hp st.nb (some (.nest e [] [0,0,0]))) _ (aq st.sl (p %KB) (V.whole e st.nb) k);by_cases hk:k=p %KB
   ·subst hk;have hv:=hA.sl (p %KB);rw[hx] at hv;rw[bE];generalize a.tmps.getD (p %KB) _=v at hv⊢;cases hv;exact .dO (bE _ _ _) (bE _ _ _)
   ·rw[cu _ _ hk];exact (hA.sl k).mono h1
  ·rename_i cs hn hx;split
   ·rename_i e hc;obtain ⟨h1,h2⟩:=N8 S (vers:=[0,0,0]) e hn;refine ⟨_,h1,h2,⟨fun k=> ?_,hA.size,hA.defers,hA.aF⟩⟩;show ai P w I (aq β st.nb none) (aq st.hp st.nb (some (.nest e [] [0,0,0]))) _ (aq st.sl (p %KB) (V.agg (cs.set (p/KB-2) (.whole e st.nb))) k);by_cases hk:k=p %KB
    ·subst hk;have hv:=hA.sl (p %KB);rw[hx] at hv;rw[bE];generalize a.tmps.getD (p %KB) _=v at hv⊢;obtain ⟨vs,rfl,jt,mI⟩:=hv.la;refine .agg (by grind) fun j v x hv nh=> ?_;by_cases hj:p/KB-2=j
     ·subst hj;have aY:=(ct.1 hc).1;rw[qx aY] at nh;cases nh;have xr:=mI _ v _ hv hc;cases xr;exact .dO (vers:=[0,0,0]) (bE _ _ _) (bE _ _ _)
     ·rw[B5 hj] at nh;exact (mI j v x hv nh).mono h1
    ·rw[cu _ _ hk];exact (hA.sl k).mono h1
   omega
  ·rename_i id hn hx;split
   ·rename_i T cs ab;split
    ·rename_i e hc;obtain ⟨h1,h2⟩:=N8 S (vers:=[0,0,0]) e hn;have bL:id≠st.nb:=fun h=>by grind
     have qS:aq st.hp st.nb (some (.nest e [] [0,0,0])) id=some (.var T cs):=by rw[cu _ _ bL];exact ab
     have hr:=h2.h.rel id _ qS;generalize ho:aq β st.nb none id=o at hr;cases hr with
     | @var _ b Ca _ hb hh hs hI jv gO=>
     subst hb;obtain ⟨h3,h4⟩:=CR (w':=w) h2 (blk':= .var T (cs.set (p/KB-2) (.whole e st.nb))) qS (by simp) rfl ho hI (by simp) (fun _ _=>rfl) rfl (az _) ⟨rfl,rfl⟩
      (fun hle=> .var rfl hh (by grind) hI (fun j v x hv nh=>by
       by_cases hj:p/KB-2=j
       ·subst hj;have aY:=(ct.1 hc).1;rw[qx aY] at nh;cases nh;have xr:=jv _ v _ hv hc;cases xr;exact .dO (vers:=[0,0,0]) (by rw[cu _ _ (Ne.symm bL)];exact bE _ _ _) (bE _ _ _)
       ·rw[B5 hj] at nh;exact (jv j v x hv nh).mono hle) gO)
     exact ⟨_,h1.trans h3,h4,⟨fun k=>(hA.sl k).mono (h1.trans h3),hA.size,hA.defers,hA.aF⟩⟩
    omega
   omega
  omega
theorem Yo {n:Nat} {a:Act}: ∀(l:List Nat) {st:St} {β:Nat→Option Nat},aA P w I β st.hp B M w0→gn P E G w I β n a st→
  ∃β',Le P w I β st.hp w I β' (l.foldl vy st).hp∧aA P w I β' (l.foldl vy st).hp B M w0∧gn P E G w I β' n a (l.foldl vy st)
 | [],st,β,S,hA=>⟨β,Le.refl ..,S,hA⟩
 | p::l,st,β,S,hA=>by
  obtain ⟨sc,h1,h2,h3⟩:=ahZ S hA p;obtain ⟨cB,h4,h5,h6⟩:=Yo l h2 h3;exact ⟨cB,h1.trans h4,h5,h6⟩
theorem Yp {n m:Nat} {pur:List Nat} {a:Act} {st:St} (S:aA P w I β st.hp B M w0) (hA:gn P E G w I β n a st):
  ∃I' β',Le P w I β st.hp w I' β' (freeze m pur st).hp∧aA P w I' β' (freeze m pur st).hp B M w0∧gn P E G w I' β' n a (freeze m pur st):=by
 obtain ⟨I1,h1,h2⟩:=vW (l:=(Ir st pur).filter fun id=>Nat.ble m id) S;obtain ⟨I',h3,h4,h5⟩:=VM h2;have h1:=h1.trans h3;have JC:gn P E G w I' β n a ⟨fun k=>bif gK pur (k+KB) then Cx (tF st.hp ((Ir st pur).filter fun id=>Nat.ble m id)) (st.sl k) else st.sl k,tF st.hp ((Ir st pur).filter fun id=>Nat.ble m id),st.nb⟩:=by
  refine ⟨fun k=> ?_,hA.size,hA.defers,hA.aF.mono h1.dZ h1.cH⟩;have hv:=(hA.sl k).mono h1;cases hm:gK pur (k+KB) with
  | false=>grind
  | true=>simp only[hm,cond_true];exact ahY h4 h5 hv
 obtain ⟨β',k1,k2,k3⟩:=Yo pur h4 JC;exact ⟨I',β',h1.trans k1,k2,k3⟩
structure Ac (hp:Nat→Option ag) (β:Nat→Option Nat) (ord:List Nat) (hp':Nat→Option ag) (β':Nat→Option Nat):Prop where
 arr: ∀(j:Nat) id e es fz,ord[j]? =some id→hp id=some (.arr e es fz)→hp' j=some (.arr e es fz)
 var: ∀(j:Nat) id T cs,ord[j]? =some id→hp id=some (.var T cs)→∃jX,hp' j=some (.var T jX)
 dead: ∀(j:Nat) id,ord[j]? =some id→hp id=some .dead→hp' j=some .dead
 out: ∀(j:Nat) id e es vs i,ord[j]? =some id→hp id=some (.out e es vs i)→hp' j=some .dead
 place: ∀(j:Nat) id,ord[j]? =some id→β' j=β id
 nest: ∀(j:Nat) id e es vers,ord[j]? =some id→hp id=some (.nest e es vers)→hp' j=some (.nest e es (vers.map fun _=>0))
 map: ∀(j:Nat) id t es,ord[j]? =some id→hp id=some (.map t es)→hp' j=some (.map t es)
theorem mK: ∀{l:List Nat} {n i j:Nat},iT l n i=some j→∃k,j=i+k∧l[k]? =some n
 | [],n,i,j,h=>by cases h
 | a::l,n,i,j,h=>by
  simp only[iT] at h;cases hb:Nat.beq n a with
  | true=>
   simp_all
  | false=>
   rw[hb] at h;obtain ⟨k,h1,h2⟩:=mK h;exact ⟨k+1,by omega,by grind⟩
def nt (hp':Nat→Option ag) (β':Nat→Option Nat) (n:Nat) (bs:List ag):Prop:=
 ∀(k:Nat) b,bs[k]? =some b→hp' (n+k)=some b∧β' (n+k)=none
theorem PD: ∀(vers:List Nat) (k:Nat),bz (vers.map fun _=>0) k=0
 | [],_=>rfl
 | _::_,0=>rfl
 | _::vs,k+1=>PD vs k
theorem Yq {e:TypeId} {es:List V} {vers:List Nat} {path:Path} {ver:Nat} (hc:(Nat.blt 0 path.length&&(Nat.ble path.length vers.length&&Nat.beq (bz vers (path.length-1)) ver))=true)
  (h:(ag.nest e es vers).tI path ver):False:=by
 simp only[aK,nR,fk,aN] at hc;obtain ⟨h1,h2,h3⟩:=hc;rcases h with h|h|h
 all_goals grind
theorem Yr (S:aA P w I β hp B M w0) (hT:rX P I β hp) {ord:List Nat} (hR:Ac hp β ord hp' β') {v:Value} {x:V} (hv:ai P w I β hp v x):ai P w I β' hp' v (iU hp ord x):=by
 cases hv with
 | undef=>exact .undef
 | int=>exact .int
 | bool=>exact .bool
 | str h=>exact .str h
 | list h=>exact .list h
 | nilS=>exact .nilS
 | agg=>exact .undef
 | aX=>exact .undef
 | eg=>exact .eg
 | fn=>exact .undef
 | pref a b c=>exact .pref a b c
 | @dH _ e id ab=>
  simp only[iU];cases bG:iT ord id 0 with
  | none=>simp only[ab];exact .undef
  | some j=>
   obtain ⟨k,rfl,hk⟩:=mK bG;exact .dH (hR.dead _ id (by grind) ab)
 | @ij _ e id off len ab=>
  simp only[iU];cases bG:iT ord id 0 with
  | none=>simp only[ab];exact .undef
  | some j=>
   obtain ⟨k,rfl,hk⟩:=mK bG;exact .ij (hR.dead _ id (by grind) ab)
 | @kS _ id i c ab=>
  simp only[iU];cases bG:iT ord id 0 with
  | none=>exact .undef
  | some j=>
   obtain ⟨k,rfl,hk⟩:=mK bG;exact .kS (hR.dead _ id (by grind) ab)
 | @dD e id fz _ ab hb=>
  simp only[iU];cases bG:iT ord id 0 with
  | none=>
   simp only[ab];cases fz with
   | false=>exact .undef
   | true=>simp only[mo,cond_true];exact .list (.any fun _=>rfl)
  | some j=>
   obtain ⟨k,rfl,hk⟩:=mK bG;have dh:ord[0+k]? =some id:=by grind
   exact .dD (hR.arr _ id _ _ _ dh ab) ((hR.place _ id dh).trans hb)
 | @whole e id es fz b cap ab hb aU bP hm=>
  simp only[iU];cases bG:iT ord id 0 with
  | none=>
   simp only[ab];cases fz with
   | false=>exact .undef
   | true=>
    simp only[mo,cond_true];have hr:=S.h.rel id _ ab;cases hr with
    | dY ay=>grind
    | arr hL au ay hh hs hf eN hx=>
     rw[hb] at ay;cases ay;have:=tL (I':=I) (off:=0) (len:=es.length) (o:=0) hh hx (eC au) (by omega) bP (fun _=>by simp) (fun _ _ h=>h) (hT _ _ _ _ ab hb);exact .list (by grind)
  | some j=>
   obtain ⟨k,rfl,hk⟩:=mK bG;have dh:ord[0+k]? =some id:=by grind
   exact .whole (hR.arr _ id _ _ _ dh ab) ((hR.place _ id dh).trans hb) aU bP hm
 | @gC e id fz _ ab hb=>
  simp only[iU];cases bG:iT ord id 0 with
  | none=>
   simp only[ab];cases fz with
   | false=>exact .undef
   | true=>simp only[mo,cond_true];exact .list (by simpa using (jU.any (P:=P) fun _=>rfl))
  | some j=>
   obtain ⟨k,rfl,hk⟩:=mK bG;have dh:ord[0+k]? =some id:=by grind
   exact .gC (hR.arr _ id _ _ _ dh ab) ((hR.place _ id dh).trans hb)
 | @sub e id off len es fz b o cap ab hb kW bP ho=>
  simp only[iU];cases bG:iT ord id 0 with
  | none=>
   simp only[ab];cases fz with
   | false=>exact .undef
   | true=>
    simp only[mo,cond_true];have hr:=S.h.rel id _ ab;cases hr with
    | dY ay=>grind
    | arr hL au ay hh hs hf eN hx=>
     rw[hb] at ay;cases ay;exact .list (tL (I':=I) hh hx (eC au) kW bP ho (fun _ _ h=>h) (hT _ _ _ _ ab hb))
  | some j=>
   obtain ⟨k,rfl,hk⟩:=mK bG;have dh:ord[0+k]? =some id:=by grind
   exact .sub (hR.arr _ id _ _ _ dh ab) ((hR.place _ id dh).trans hb) kW bP ho
 | @ptr id i c b blk ab hd hb=>
  simp only[iU];cases bG:iT ord id 0 with
  | none=>exact .undef
  | some j=>
   obtain ⟨k,rfl,hk⟩:=mK bG;have dh:ord[0+k]? =some id:=by grind
   cases blk with
   | dead=>grind
   | var T0 cs=>
    obtain ⟨jX,h'⟩:=hR.var _ id T0 cs dh ab;exact .ptr (blk:= .var T0 jX) h' (by simp) ((hR.place _ id dh).trans hb)
   | arr e es fz=>exact .ptr (blk:= .arr e es fz) (hR.arr _ id _ _ _ dh ab) (by simp) ((hR.place _ id dh).trans hb)
   | nest e es vers=>exact .ptr (blk:= .nest e es (vers.map fun _=>0)) (hR.nest _ id _ _ _ dh ab) (by simp) ((hR.place _ id dh).trans hb)
   | map t es=>exact .ptr (blk:= .map t es) (hR.map _ id _ _ dh ab) (by simp) ((hR.place _ id dh).trans hb)
   | out e es vs i=>exact .kS (hR.out _ id _ _ _ _ dh ab)
 | eu=>exact .eu
 | @jV _ t id ab=>
  simp only[iU];cases bG:iT ord id 0 with
  | none=>exact .undef
  | some j=>
   obtain ⟨k,rfl,hk⟩:=mK bG;exact .jV (hR.dead _ id (by grind) ab)
 | @cN t id b es ab hb=>
  simp only[iU];cases bG:iT ord id 0 with
  | none=>exact .undef
  | some j=>
   obtain ⟨k,rfl,hk⟩:=mK bG;have dh:ord[0+k]? =some id:=by grind
   exact .cN (hR.map _ id _ _ dh ab) ((hR.place _ id dh).trans hb)
 | @eB e id i es vers b cap ab hb aU bP hm=>
  simp only[iU];cases bG:iT ord id 0 with
  | none=>simp only[ab];exact .undef
  | some j=>
   obtain ⟨k,rfl,hk⟩:=mK bG;exact .dH (hR.out _ id _ _ _ _ (by grind) ab)
 | @dO e id vers _ ab hb=>
  simp only[iU];cases bG:iT ord id 0 with
  | none=>simp only[ab];exact .undef
  | some j=>
   obtain ⟨k,rfl,hk⟩:=mK bG;have dh:ord[0+k]? =some id:=by grind
   exact .dO (hR.nest _ id _ _ _ dh ab) ((hR.place _ id dh).trans hb)
 | @dw e id es vers b cap ab hb aU bP hm=>
  simp only[iU];cases bG:iT ord id 0 with
  | none=>simp only[ab];exact .undef
  | some j=>
   obtain ⟨k,rfl,hk⟩:=mK bG;have dh:ord[0+k]? =some id:=by grind
   exact .dw (hR.nest _ id _ _ _ dh ab) ((hR.place _ id dh).trans hb) aU bP hm
 | @kU v e id ver path blk ab CO=>
  simp only[iU];split
  ·rename_i j e1 c9 vers h1 h2;rw[ab] at h2;cases h2;cases hc:(Nat.blt 0 path.length&&(Nat.ble path.length vers.length&&Nat.beq (bz vers (path.length-1)) ver)) with
   | false=>exact .undef
   | true=>exact (Yq hc CO).elim
  ·exact .undef
 | @kV v id ver i c path blk ab CO=>
  simp only[iU];split
  ·rename_i j e1 c9 vers h1 h2;rw[ab] at h2;cases h2;cases hc:(Nat.blt 0 path.length&&(Nat.ble path.length vers.length&&Nat.beq (bz vers (path.length-1)) ver)) with
   | false=>exact .undef
   | true=>exact (Yq hc CO).elim
  ·exact .undef
 | @row v e e0 t id ver b i c q es l vers ab hb hq hv ht hc=>
  simp only[iU];split
  ·rename_i j e1 c9 vF h1 h2;obtain ⟨k,rfl,hk⟩:=mK h1;have dh:ord[0+k]? =some id:=by grind
   cases hx:(Nat.blt 0 (q++[(i,c)]).length&&(Nat.ble (q++[(i,c)]).length vF.length&&Nat.beq (bz vF ((q++[(i,c)]).length-1)) ver)) with
   | false=>exact .undef
   | true=>exact .row (hR.nest _ id _ _ _ dh ab) ((hR.place _ id dh).trans hb) (by grind) (PD _ _) ht hc
  ·exact .undef
 | @dq e e0 t id ver b b1 len cap i0 c0 i c q es l vers ab hb hq hv ht kX hc=>
  simp only[iU];split
  ·rename_i j e1 c9 vF h1 h2;obtain ⟨k,rfl,hk⟩:=mK h1;have dh:ord[0+k]? =some id:=by grind
   cases hx:(Nat.blt 0 (q++[(i0,c0)]).length&&(Nat.ble (q++[(i0,c0)]).length vF.length&&Nat.beq (bz vF ((q++[(i0,c0)]).length-1)) ver)) with
   | false=>exact .undef
   | true=>exact .dq (hR.nest _ id _ _ _ dh ab) ((hR.place _ id dh).trans hb) (by grind) (PD _ _) ht kX hc
  ·exact .undef
theorem Ys (S:aA P w I β hp B M w0) (hT:rX P I β hp) {ord:List Nat} (hR:Ac hp β ord hp' β') {vs:Array Value} {xs:List V} (h: ∀(j:Nat) v x,vs[j]? =some v→xs[j]? =some x→ai P w I β hp v x) (j:Nat) (v:Value) (y:V)
  (hv:vs[j]? =some v) (hy:(xs.map (iU hp ord))[j]? =some y):ai P w I β' hp' v y:=by
 rw[jk] at hy;cases hx:xs[j]? with
 | none=>grind
 | some x=>rw[hx] at hy;cases hy;exact Yr S hT hR (h j v x hv hx)
theorem Yt (S:aA P w I β hp B M w0) (hT:rX P I β hp) {ord:List Nat} (hR:Ac hp β ord hp' β') {kn:Bool} {n:Nat} {v:Value} {x:V} (hv:ai P w I β hp v x) (hF:nt hp' β' n (zt hp ord kn n x).2):
  ai P w I β' hp' v (zt hp ord kn n x).1:=by
 cases x with
 | nilS e=>
  cases hv with
  | nilS=>
   cases kn with
   | true=>exact .nilS
   | false=>
    obtain ⟨h1,h2⟩:=hF 0 _ rfl;exact .dD h1 h2
 | fn f a b=>
  cases hv with
  | fn q1 q2 q3 q4=>exact .fn (by grind) (Ys S hT hR q2) (by grind) (Ys S hT hR q4)
 | _=>exact Yr S hT hR hv
end
section
variable {P:Program} {A:di} {w w':World} {I I' I2:Nat→Nat→Prop} {μ β β':Nat→Option Nat} {hp hp':Nat→Option ag} {C:af} {B:Nat} {M:Nat→Prop} {w0:Start}
theorem nt.left {n:Nat} {a b:List ag} (h:nt hp' β' n (a++b)):nt hp' β' n a:=fun k x hx=>
 h k x (by rw[mq (ct.1 hx).1];exact hx)
theorem nt.right {n:Nat} {a b:List ag} (h:nt hp' β' n (a++b)):nt hp' β' (n+a.length) b:=fun k x hx=>by
 have:=h (a.length+k) x (by rw[nU (by omega),HR];exact hx);rwa [←y9] at this
def o7 (bs:List ag):Prop:= ∀b∈bs,∃e,b= .arr e [] false
theorem o7.app {a b:List ag} (h1:o7 a) (h2:o7 b):o7 (a++b):=fun x hx=>(eS.1 hx).elim (h1 x) (h2 x)
theorem o7.nil:o7 []:=fun x hx=>by simp at hx
theorem Yu {ord:List Nat} {kn:Bool} {n:Nat} {x:V}:o7 (zt hp ord kn n x).2:=by
 cases x<;>simp only[zt]<;>first|exact .nil|skip
 cases kn<;>first|exact .nil|skip
 intro b hb;simp only[cond_false,fl] at hb;exact ⟨_,hb⟩
theorem PE {ord:List Nat} {kn:Bool}: ∀{xs:List V} {n:Nat},o7 (pP hp ord kn n xs).2
 | [],n=> .nil
 | x::xs,n=>by
  simp only[pP];exact Yu.app PE
theorem JD {ord:List Nat} {kn:Bool}: ∀{xs:List V} {n:Nat},(pP hp ord kn n xs).1.length=xs.length
 | [],n=>rfl
 | x::xs,n=>by simp only[pP,List.length_cons,JD]
theorem JE (S:aA P w I β hp B M w0) (hT:rX P I β hp) {ord:List Nat} (hR:Ac hp β ord hp' β') {kn:Bool}: ∀{xs:List V} {vs:List Value} {n:Nat},(∀(j:Nat) v x,vs[j]? =some v→xs[j]? =some x→ai P w I β hp v x)→
  nt hp' β' n (pP hp ord kn n xs).2→∀(j:Nat) v y,vs[j]? =some v→(pP hp ord kn n xs).1[j]? =some y→ai P w I β' hp' v y
 | [],vs,n,h,hF,j,v,y,hv,hy=>by simp[pP] at hy
 | x::xs,vs,n,h,hF,j,v,y,hv,hy=>by
  simp only[pP] at hF hy;cases j with
  | zero=>
   simp at hy;subst hy;exact Yt S hT hR (h 0 v x hv rfl) hF.left
  | succ j=>
   cases vs with
   | nil=>simp at hv
   | cons v0 vs=>exact JE S hT hR (vs:=vs) (fun j v x hj hx=>h (j+1) v x (by simpa using hj) (by simpa using hx)) hF.right j v y (by simpa using hv) (by simpa using hy)
theorem ah0 {ord:List Nat} {n:Nat} {x:V}:o7 (tE hp ord n x).2:=by
 cases x<;>simp only[tE]<;>first|exact Yu|exact PE
theorem ah1 (S:aA P w I β hp B M w0) (hT:rX P I β hp) {ord:List Nat} (hR:Ac hp β ord hp' β') {n:Nat} {v:Value} {x:V} (hv:ai P w I β hp v x) (hF:nt hp' β' n (tE hp ord n x).2):
  ai P w I β' hp' v (tE hp ord n x).1:=by
 cases x with
 | agg cs=>
  obtain ⟨ds,rfl,h1,h2⟩:=hv.la;simp only[tE] at hF⊢;exact .agg (by rw[JD];exact h1) fun j v y hj hy=>JE S hT hR (vs:=ds.toList) (fun j v x hj hx=>h2 j v x (by simpa using hj) hx) hF j v y (by simpa using hj) hy
 | aX cs=>
  obtain ⟨ds,rfl,h1,h2⟩:=hv.xg;simp only[tE] at hF⊢;exact .aX (by rw[JD];exact h1) fun j v y hj hy=>JE S hT hR (vs:=ds.toList) (fun j v x hj hx=>h2 j v x (by simpa using hj) hx) hF j v y (by simpa using hj) hy
 | _=>exact Yt S hT hR hv hF
theorem Yv {ord:List Nat} {sl:Nat→V}: ∀{l:List Nat} {n:Nat},o7 (n9 hp ord sl n l).2
 | [],n=> .nil
 | s::l,n=>by
  simp only[n9];exact ah0.app Yv
theorem Yw {ord:List Nat} {sl:Nat→V} {k:Nat} {y:V}: ∀{l:List Nat} {n:Nat},nt hp' β' n (n9 hp ord sl n l).2→eL (n9 hp ord sl n l).1 k=some y→
  ∃n',nt hp' β' n' (tE hp ord n' (sl k)).2∧y=(tE hp ord n' (sl k)).1
 | [],n,_,h=>by cases h
 | s::l,n,hF,h=>by
  simp only[n9] at hF h;simp only[eL] at h;cases hb:Nat.beq k s with
  | true=>
   rw[hb] at h;rw[aN] at hb;subst hb;cases h;exact ⟨n,hF.left,rfl⟩
  | false=>
   rw[hb] at h;exact Yw hF.right h
theorem ah2 {ord kp:List Nat} {n id:Nat}:o7 (ft hp ord kp n id).2:=by
 unfold ft;split
 ·exact PE
 ·exact .nil
 ·exact .nil
 ·exact .nil
 ·exact .nil
theorem Yx {ord kp:List Nat}: ∀{l:List Nat} {n:Nat},o7 (gM hp ord kp n l).2
 | [],n=> .nil
 | s::l,n=>by
  simp only[gM];exact ah2.app Yx
theorem Yy {ord kp:List Nat}: ∀{l:List Nat} {n:Nat},(gM hp ord kp n l).1.length=l.length
 | [],n=>rfl
 | x::xs,n=>by simp only[gM,List.length_cons,Yy]
theorem Yz {ord kp:List Nat}: ∀{l:List Nat} {n j:Nat} {id:Nat},l[j]? =some id→∃n',(nt hp' β' n (gM hp ord kp n l).2→nt hp' β' n' (ft hp ord kp n' id).2)∧(gM hp ord kp n l).1[j]? =some (ft hp ord kp n' id).1
 | [],n,j,id,h=>by simp at h
 | s::l,n,j,id,h=>by
  simp only[gM];cases j with
  | zero=>
   simp at h;subst h;exact ⟨n,fun hF=>hF.left,rfl⟩
  | succ j=>
   obtain ⟨n',h1,h2⟩:=Yz (n:=n+(ft hp ord kp n s).2.length) (j:=j) (by simpa using h);exact ⟨n',fun hF=>h1 hF.right,by simpa using h2⟩
theorem DI: ∀{l acc:List Nat},∃t,vw hp acc l=acc++t∧(acc.Nodup→(acc++t).Nodup)
 | [],acc=>⟨[],by simp[vw],by simp⟩
 | id::l,acc=>by
  simp only[vw];cases hb:(gK acc id|| !(NR hp id)) with
  | true=>exact DI
  | false=>
   obtain ⟨t,h1,h2⟩:=DI (l:=l) (acc:=acc++[id]);refine ⟨id::t,by simp only[cond_false,h1,jO,List.singleton_append],fun hn=> ?_⟩;have:acc++id::t=(acc++[id])++t:=by simp
   rw[this];refine h2 ?_;rw[Ce];refine ⟨hn,by simp,fun a ha b ay=> ?_⟩;simp only[fl] at ay;subst ay;intro e;subst e;rw[zH ha] at hb;cases hb
theorem YA: ∀{n:Nat} {l:List Nat},∃t,grow hp n l=l++t∧(l.Nodup→(l++t).Nodup)
 | 0,l=>⟨[],by simp[grow],by simp⟩
 | n+1,l=>by
  simp only[grow];obtain ⟨t,h1,h2⟩:=DI (hp:=hp) (acc:=l) (l:=l.flatMap (wX hp));rw[h1];obtain ⟨t',h3,h4⟩:=YA (n:=n) (l:=l++t);exact ⟨t++t',by rw[h3,jO],fun hn=>by rw[←jO];exact h4 (h2 hn)⟩
theorem ah3 {m:Nat} {live:List Nat} {st:St}: ∃t,NS m live st=List.range m++t∧(List.range m++t).Nodup:=by
 unfold NS;obtain ⟨t,h1,h2⟩:=DI (hp:=st.hp) (acc:=List.range m) (l:=live.flatMap fun s=>zs (st.sl s));rw[h1];obtain ⟨t',h3,h4⟩:=YA (hp:=st.hp) (n:=3) (l:=List.range m++t);rw[h3];obtain ⟨t2,h5,h6⟩:=DI (hp:=VC st.hp) (acc:=List.range m++t++t') (l:=live.flatMap fun s=>bif Nat.ble (3*KB) s then wX st.hp (s-3*KB) else bif Nat.ble KB s then (zs (st.sl (s-KB))).flatMap (wX st.hp) else []);exact ⟨t++t'++t2,by rw[h5];simp only[jO],by simp only[←jO];exact h6 (h4 (h2 List.nodup_range))⟩
end
end Go.AM
