/-
  Functions of the program, lifted to plain data.
-/
import Derived.Lib.AppendStr
import Derived.Laws.BytesString
import Derived.Lib.Builder
import Derived.Lib.UnsafeStr
import Derived.Laws.Runes
import Derived.Lib.LazyBuf
import Derived.Conc.MuLone
import Derived.Defers
import Derived.Test.YtbpldbfoleicgaaGreatDoorP2
noncomputable section
set_option linter.unusedVariables false
set_option linter.unusedSimpArgs false
set_option linter.unusedSectionVars false
namespace Go.AM
section
variable {P:Program} {w w':World} {I I':Nat→Nat→Prop} {β β':Nat→Option Nat} {hp hp':Nat→Option ah} {C:af} {B:Nat} {M:Nat→Prop} {w0:Start}
theorem ajo {e:TypeId} (he:P.underlying e=some (.int .u8)) (hc:P.cellsOf e=1) (s:ByteArray): ∀(i j:Nat) (x:V) (t':TypeId),(s.data.toList.map D0)[i]? =some x→(aT P e)[j]? =some t'→j<P.cellsOf e→
  ∃u,(Lib.strCells s)[i*P.cellsOf e+j]? =some u∧Pure P w I t' u (ca P e x j):=by
 intro i j x t' hx ht hj;have ow:bY P e=false:=by simp[bY,he]
 obtain rfl:j=0:=by omega
 simp only[aT,ow,cond_false,List.getElem?_cons_zero,e7] at ht;subst ht;rw[kZ] at hx;cases hb:s.data.toList[i]? with
 | none=>grind
 | some b=>
  rw[hb] at hx;cases hx;refine ⟨.int .u8 b.toNat,?_,?_⟩
  ·rw[hc,im,Nat.add_zero];simp only[Lib.strCells,kZ,hb,Option.map_some]
  ·simp only[ca,ow,cond_false];exact .int he
theorem ajp (w:World) (t u ty e T:TypeId) (i:TypeInfo) (ht:P.underlying t=some (.slice e)) (hu:P.underlying u=some .string) (hi:P.info? e=some i) (kz:i.size=1)
  (g mE u9:Nat) (cur:Array Value) (hg:w.heap[g]? =some (.cells cur T (0,0))) (s:ByteArray)
  (tn:mE+s.size≤u9) (BR:mE+s.size≤cur.size):
  (Builtin.append_ #[t,u] ty #[.slice (some ⟨g,0,none⟩) mE u9,.string s]).run P w=
   .ok (.slice (some ⟨g,0,none⟩) (mE+s.size) u9) (w.setRow g (cur.toList.take mE++Lib.strCells s++cur.toList.drop (mE+s.size)).toArray):=by
 have hf:=Lib.run_firstCells_string (P:=P) w 1 s;have dp:=run_storeCells_at P g mE T (Lib.strCells s) 0 cur w hg (by simpa[Lib.strCells_length] using BR) (Lib.strCells_oneCell s);simp only[Nat.add_zero,Lib.strCells_length] at dp;simp[Builtin.append_,run_underlying ht,run_underlying hu,sizeOf,typeInfo,hi,kz,Builtin.lenOf,tn,hf,Addr.add_lit,dp]
theorem ajq (w:World) (t u ty e:TypeId) (i:TypeInfo) (z:Value) (ht:P.underlying t=some (.slice e)) (hu:P.underlying u=some .string) (hi:P.info? e=some i) (hz:i.zero=some z)
  (s:ByteArray) (h0:0<s.size) (Fg:(s.size:Int)≤9223372036854775807) (Kr:s.size*i.bytes≤281474976710656) (a0:Option Addr):
  (Builtin.append_ #[t,u] ty #[.slice a0 0 0,.string s]).run P w=
   .ok (.slice (some ⟨w.heap.size,0,none⟩) s.size (grownCap w s.size 0 e))
    (w.drew.alloc (.cells (s.data.map (fun b=>Value.int .u8 b.toNat)++Builtin.zeroCells z.cells (grownCap w s.size 0 e-s.size)) e)):=by
 cases a0 with
 | none=>exact run_append_nil_string w t u ty e i z ht hu hi hz s h0 Fg Kr
 | some b=>
  rw[←run_append_nil_string w t u ty e i z ht hu hi hz s h0 Fg Kr];have hn:s.size≠0:=by omega
  have Qj: ¬(9223372036854775807<(s.size:Int)):=by omega
  have ajr: ¬(281474976710656<Builtin.nextslicecap s.size 0*i.bytes):=by rw[nextslicecap_zero h0];omega
  simp[Builtin.append_,run_underlying ht,run_underlying hu,sizeOf,typeInfo,zeroValue,hi,hz,Builtin.lenOf,Builtin.firstCells,hn,Qj,ajr,Question.forced,newRow,grownCap,loadCells,loadCellsFrom]
theorem Yy (S:ay P w I β hp B M w0) {t u ty e:TypeId} {nb:Nat} {fz:Bool} {x:ByteArray} {xs:List V} {i:TypeInfo} {z:Value} (hu:P.underlying t=some (.slice e)) (sg:P.underlying u=some .string) (ao:cW P e=true) (hn:hp nb=none)
 (hi:P.info? e=some i) (hz:i.zero=some z) (h3:i.size=P.cellsOf e) (h4:z.cells.size=P.cellsOf e) (Fp:i.size=1) (nW:P.bytesOf e=i.bytes) (ew:xs.length*P.bytesOf e≤aW) (qb:xs.length=x.size) (mz:(Lib.strCells x).length=x.size)
 (fB: ∀(i j:Nat) (y:V) (t':TypeId),xs[i]? =some y→(aT P e)[j]? =some t'→j<P.cellsOf e→∃u,(Lib.strCells x)[i*P.cellsOf e+j]? =some u∧Pure P w I t' u (ca P e y j)):
 ∀a0,∃v w' β',(Builtin.append_ #[t,u] ty #[.slice a0 0 0,.string x]).run P w= .ok v w'∧Le P w I β hp w' I β' (an hp nb (some (.arr e xs fz)))∧ay P w' I β' (an hp nb (some (.arr e xs fz))) B M w0∧
  aj P w' I β' (an hp nb (some (.arr e xs fz))) v (.whole e nb):=by
 intro a0;have u7:=xX ao;have hlen:xs.length≤2^45:=by
  have:xs.length*1≤xs.length*P.bytesOf e:=vZ _ u7;simp only[aW] at ew;omega
 by_cases h0:x.size=0
 ·have jF:xs=[]:=oL (by omega);subst jF;obtain ⟨a1,a2⟩:=Ei S e hn;have hf:=Lib.run_firstCells_string (P:=P) w 1 x;rw[h0] at hf;have iY:Lib.strCells x=[]:=oL (by omega);exact ⟨.slice a0 0 0,_,_,by cases a0<;>simp[storeCells,iY,Builtin.append_,run_underlying hu,run_underlying sg,sizeOf,typeInfo,hi,Fp,Builtin.lenOf,h0,hf],a1,a2,.dS (bD _ _ _) (bD _ _ _)⟩
 ·have cI:=ajq (P:=P) w t u ty e i z hu sg hi hz x (by omega) (by omega) (by rw[←nW,←qb];simp only[aW] at ew;omega) a0;have e1:(x.data.map fun b=>Value.int .u8 b.toNat)=(Lib.strCells x).toArray:=by
   apply Array.ext';simp[Lib.strCells]
  rw[e1,←qb] at cI;have p9:=grownCap_ge w xs.length 0 e;have sd:grownCap w xs.length 0 e≤maxLen:=grownCap_le_maxLen w xs.length 0 e (by simp only[maxLen];omega);obtain ⟨n1,n2,n3⟩:=BN S.drew (nb:=nb) (cap:=grownCap w xs.length 0 e) (es:=xs) (C0:=(Lib.strCells x).toArray++Builtin.zeroCells z.cells (grownCap w xs.length 0 e-xs.length)) ao hn
   (by
    have:(Lib.strCells x).length=xs.length*P.cellsOf e:=by grind
    simp only[IC,ry,size_zeroCells,h4,this,←kW];grind) p9 sd
   (fun i' j y t' hy ht hj=>by
    obtain ⟨u,lC,hp⟩:=fB i' j y t' hy ht hj;have aY:=(cu.1 lC).1;refine ⟨u,?_,Pure.drew hp⟩;grind)
  exact ⟨_,_,_,cI,(Le.drew w I β hp).trans n1,n2,n3⟩
theorem ajs (S:ay P w I β hp B M w0) {t u ty e:TypeId} {nb:Nat} {s:Value} {sv:V} {x:ByteArray} {r:R} {rd:List Nat} (hu:P.underlying t=some (.slice e)) (sg:P.underlying u=some .string) (he:P.underlying e=some (.int .u8)) (hs:aj P w I β hp s sv)
  (h:(AY P nb e sv (.list e (x.data.toList.map D0))).run C hp=some (r,rd)):dg P ((Builtin.append_ #[t,u] ty #[s,.string x]).run P w) w I β hp B M w0 r:=by
 unfold AY at h;obtain ⟨ao,h⟩:=az h;simp only[ur] at h;obtain ⟨_,h⟩:=az h;have ow:bY P e=false:=by simp[bY,he]
 have gr:P.cellsOf e=1:=by rw[←(og ao).1,Ef ow];rfl
 obtain ⟨i,z,hi,hz,h3,h4,_⟩:=kK ao;have Fp:i.size=1:=by omega
 have u7:=xX ao;have nW:P.bytesOf e=i.bytes:=by simp[Program.bytesOf,hi]
 have KA:=ajo (P:=P) (w:=w) (I:=I) he gr x;have qb:(x.data.toList.map D0).length=x.size:=by simp
 have mz:(Lib.strCells x).length=x.size:=Lib.strCells_length x;have h1:=Lib.strCells_oneCell x;generalize jF:x.data.toList.map D0=xs at*
 cases sv with
 | nilS e'=>
  obtain ⟨hc,h⟩:=az h;simp only[aI,aK,fV] at hc;obtain ⟨hn,rfl⟩:=mD h;obtain ⟨a0,rfl⟩: ∃a0,s= .slice a0 0 0:=by cases hs;grind
  obtain ⟨v,w',β',a1,a2,a3,a4⟩:=Yy S hu sg ao hn hi hz h3 h4 Fp nW hc.2 qb mz KA _;exact ⟨v,w',I,β',a1,a2,a3,a4⟩
 | whole e' id=>
  obtain ⟨l,h⟩:=run_get h;cases ae:hp id with
  | none=>rw[ae] at h;cases h
  | some blk=>
   rw[ae] at h;cases blk with
   | dead=>cases h
   | var _=>cases h
   | nest _ _ _=>cases h
   | map _ _=>cases h
   | out _ _ _ _=>cases h
   | arr dW es fz=>
    obtain ⟨hc,h⟩:=az h;obtain ⟨hn,rfl⟩:=mD h;simp only[aI,aK,fV] at hc;obtain ⟨PY,PZ,ew⟩:=hc;subst PY;subst PZ;have bH:nb≠id:=fun e=>by grind
    obtain ⟨k1,k2⟩:=wB S ae;have jk:an hp id (some ah.dead) nb=none:=by rw[cw _ _ bH];exact hn
    cases hs with
    | dX hd=>grind
    | dI hd=>grind
    | ee hd=>grind
    | fw hd=>grind
    | dS hd hb=>
     rw[ae] at hd;cases hd;simp only[List.length_nil,dt] at ew;obtain ⟨v,w',β',a1,a2,a3,a4⟩:=Yy k2 hu sg ao jk hi hz h3 h4 Fp nW ew qb mz KA _;exact ⟨v,w',I,β',a1,k1.trans a2,a3,a4⟩
    | @whole _ _ aJ oV b cap hd hb aZ bK hm=>
     rw[ae] at hd;cases hd;have hr:=S.h.rel id _ ae;cases hr with
     | eA au=>grind
     | @arr _ T0 _ _ b' Ca hL _ au hh wZ hf fE w5=>
      rw[hb] at au;cases au;have hlen:es.length+xs.length≤2^45:=by
       have:(es.length+xs.length)*1≤(es.length+xs.length)*P.bytesOf e:=vZ _ u7;simp only[aW] at ew;omega
      rw[lk hh] at aZ;have pT: ∀aq blk',an hp id (some ah.dead) aq=some blk'→¬bd P w (β aq) blk' b:=by
       intro aq blk' h1 h2;by_cases nh:aq=id
       ·subst nh;rw[bD] at h1;cases h1;exact h2.alive rfl
       ·rw[cw _ _ nh] at h1;exact nh (S.h.inj aq id blk' _ b h1 ae h2 (.root (by simp) hb))
      have Fh:=S.h.wx id _ b ae (by simp) hb;have qQ:es.length*P.cellsOf e≤Ca.toList.length:=by omega
      have ajt:(Lib.strCells x).length=xs.length*P.cellsOf e:=by grind
      by_cases tn:es.length+xs.length≤cap
      ·have BR:es.length*P.cellsOf e+(Lib.strCells x).length≤Ca.size:=by grind
       have cI:=ajp (P:=P) w t u ty e T0 i hu sg hi Fp b es.length cap Ca hh x (by omega) (by grind);have fB:=Kq (P:=P) (w:=w) (I:=I) (n:=es.length) (c:=Ca.toList) rfl (fun i j y t' a b c=>by
        grind) KA qQ (Ca.toList.drop (es.length*P.cellsOf e+(Lib.strCells x).length))
       generalize Kh:(Ca.toList.take es.length++Lib.strCells x++Ca.toList.drop (es.length+x.size)).toArray=C' at cI;have pc:C'.size=Ca.size:=by
        grind
       have Qk:(w.setRow b C').heap[b]? =some (.cells C' T0 (0,0)):=setRow_heap w b Ca C' T0 _ hh;have qS: ∀j,j<es.length*P.cellsOf e→C'[j]? =Ca[j]? :=fun j hj=>by
        grind
       obtain ⟨a1,a2⟩:=Bi k2 (blk:= .arr e (es++xs) fz) (w':=w.setRow b C') jk pT (XY hh Qk (PS hf fE) qS) (fun b' h _=>setRow_other w b b' _ h) (by simp) ⟨rfl,rfl⟩ Fh
        (fun b' h=>(dM (h.flat (by simp))).symm) (fun hle=> .arr (pc▸hL) ao rfl Qk (by grind) (fun _ j h=>oK (PS hf fE j h) (eZ _ (by simp))) fE fun i j y t' a b c=>by
         obtain ⟨v,hv,hp⟩:=fB i j y t' a b c;refine ⟨v,?_,hp.mono hle.ej hle.cH⟩;grind)
       refine ⟨_,_,_,_,cI,k1.trans a1,a2,?_⟩;have a3:=aj.whole (P:=P) (w:=w.setRow b C') (I:=I) (β:=an β nb (some b)) (hp:=an (an hp id (some .dead)) nb (some (.arr e (es++xs) fz))) (cap:=cap) (b:=b) (es:=es++xs) (fz:=fz) (id:=nb) (e:=e) (bD _ _ _) (bD _ _ _) (by rw[lk Qk,pc,aZ]) (by grind) hm;rw[ik,qb] at a3;exact a3
      ·have hold: ∀(j:Nat) v,(Ca.toList.take (es.length*P.cellsOf e))[j]? =some v→w.cell? ((⟨b,0,none⟩:Addr).add j)=some v:=by
        intro j v hj;have dh:=(cu.1 hj).1;have dN:j<es.length*P.cellsOf e:=by grind
        rw[jr dN] at hj;rw[nR,cell?_cells hh,dt];grind
       have cI:=Lib.run_append_grow_string (P:=P) w t u ty e i z hu sg hi hz ⟨b,0,none⟩ es.length cap (Ca.toList.take (es.length*P.cellsOf e)) (by grind) hold x (by omega) (by omega)
        (growslice_fits (by omega) (by rw[←nW,←qb];simp only[aW] at ew;omega))
       rw[←qb] at cI;have p9:=grownCap_ge w (es.length+xs.length) cap e;have sd:grownCap w (es.length+xs.length) cap e≤maxLen:=grownCap_le_maxLen w _ cap e (by simp only[maxLen];omega);have fB:=Kq (P:=P) (w:=w) (I:=I) (n:=es.length) (c:=Ca.toList) rfl (fun i j y t' a b c=>by
        grind) KA qQ (Builtin.zeroCells z.cells (grownCap w (es.length+xs.length) cap e-(es.length+xs.length))).toList
       obtain ⟨n1,n2,n3⟩:=BN k2.drew (nb:=nb) (cap:=grownCap w (es.length+xs.length) cap e) (es:=es++xs)
        (C0:=(Ca.toList.take (es.length*P.cellsOf e)).toArray++(Lib.strCells x).toArray++Builtin.zeroCells z.cells (grownCap w (es.length+xs.length) cap e-(es.length+xs.length))) ao jk
        (by
         have e1:(Ca.toList.take (es.length*P.cellsOf e)).length=es.length*P.cellsOf e:=by simp;omega
         simp only[IC,ry,size_zeroCells,h4,ajt,e1,←kW];grind) (by grind) sd
        (fun i j y t' a b c=>by
         obtain ⟨v,hv,hp⟩:=fB i j y t' a b c;refine ⟨v,?_,Pure.drew hp⟩;grind)
       rw[ik] at n3;exact ⟨_,_,_,_,cI,(k1.trans (Le.drew w I β _)).trans n1,n2,n3⟩
 | _=>cases h
end
section
variable {P:Program} {w w':World} {I I':Nat→Nat→Prop} {β β':Nat→Option Nat} {hp hp':Nat→Option ah} {C:af} {B:Nat} {M:Nat→Prop} {w0:Start}
theorem Yz: ∀(ns:List Int) (s:ByteArray),(ns.foldl (fun r n=>r.push (UInt8.ofNat n.toNat)) s).data.toList=s.data.toList++ns.map fun n=>UInt8.ofNat n.toNat
 | [],s=>by simp
 | n::ns,s=>by
  simp only[List.foldl_cons,Yz ns,kY];simp_all
theorem Py {e:TypeId} {u:Value} {x:V} (he:P.underlying e=some (.int .u8)) (hp:Pure P w I e u x):u= .int .u8 x.toInt:=by
 cases hp with
 | int hp'=>rw[he] at hp';cases hp';rfl
 | bool hp'=>grind
 | str hp'=>grind
 | nil hp'=>grind
 | emp hp'=>grind
 | list _ hp'=>grind
theorem aju (S:ay P w I β hp B M w0) {src dst e:TypeId} {v:Value} {x:V} {r:R} {rd:List Nat} (hs:P.underlying src=some (.slice e)) (he:P.underlying e=some (.int .u8)) (hd:P.underlying dst=some .string)
  (hv:aj P w I β hp v x) (h:(Rd.ax (cW P e) (ur e x fun es=> .ret ⟨.str (lb es),[]⟩)).run C hp=some (r,rd)):dg P ((convert src dst v).run P w) w I β hp B M w0 r:=by
 obtain ⟨ao,h⟩:=az h;obtain ⟨xs,hx,l,h⟩:=Ff S.h.rel ao hv h;obtain rfl:=aL h;have ow:bY P e=false:=by simp[bY,he]
 have h1:P.cellsOf e=1:=by rw[←(og ao).1,Ef ow];rfl
 rcases hx with ⟨⟨a,rfl⟩,rfl⟩|⟨a,c,news,hr⟩
 ·refine .same S (v:= .string .empty) ?_ (.str (by simp[lb]));rw[run_convert_bytes_string w src dst e a 0 0 hs he hd];cases a<;>simp[Conv.bytesToString,loadCells,loadCellsFrom]
 ·have tm:news=(xs.map V.toInt).map (Value.int .u8):=by
   apply List.ext_getElem?;intro j;by_cases hj:j<xs.length
   ·obtain ⟨u,hu,hp⟩:=hr.el j 0 xs[j] e (bU hj) (by simp[aT,ow]) (by omega);rw[h1] at hu;simp only[ca,ow,cond_false] at hp;have lC:news[j]? =some u:=by grind
    rw[lC];have:=Py he hp;grind
   ·have hl:news.length=xs.length:=by rw[hr.len,h1];simp
    grind
  have Ql:=run_loadCells_list (P:=P) w a news hr.cell;have hl:news.length=xs.length:=by grind
  rw[hl] at Ql;rw[tm] at Ql;refine .same S (v:= .string ((xs.map V.toInt).foldl (fun r n=>r.push (UInt8.ofNat n.toNat)) ByteArray.empty)) ?_ (.str ?_)
  ·rw[hr.val,run_convert_bytes_string w src dst e _ _ _ hs he hd];exact run_bytesToString w a xs.length c (xs.map V.toInt) Ql
  ·rw[Yz];simp[lb]
theorem ajv {n:Int} (h:(decide (0≤n)&&decide (n<128))=true):(Utf8.encode n).data.toList=[UInt8.ofNat n.toNat]:=by
 simp only[aI,jM] at h;have h1:Utf8.valid n=true:=by rw[validRune_eq];exact cp (by omega)
 unfold Utf8.encode;simp[h1,show n.toNat<128 by omega]
theorem aj.Qm {v:Value} {e:TypeId} (h:aj P w I β hp v (.nilS e)):v= .slice none 0 0:=by cases h;rfl
theorem aj.KC {v:Value} (h:aj P w I β hp v .eB):v= .pointer none:=by cases h;rfl
section
variable (w:World)
theorem ajw (t e:TypeId) (a:Addr) (h:P.underlying t=some (.pointer e)):(binOp .eql t (.pointer (some a)) (.pointer none)).run P w= .ok (.bool false) w:=by
 have h0: ∀d:Nat,(Op.equalIn (d+1) t (.pointer (some a)) (.pointer none)).run P w= .ok false w:=fun d=>by simp[Op.equalIn,run_underlying h]
 simp only[binOp];simp[Op.equal,Op.maxDepth,h0 9999]
theorem ajx (t e:TypeId) (a:Addr) (h:P.underlying t=some (.pointer e)):(binOp .neq t (.pointer (some a)) (.pointer none)).run P w= .ok (.bool (!false)) w:=by
 have h0: ∀d:Nat,(Op.equalIn (d+1) t (.pointer (some a)) (.pointer none)).run P w= .ok false w:=fun d=>by simp[Op.equalIn,run_underlying h]
 simp only[binOp];simp[Op.equal,Op.maxDepth,h0 9999]
theorem ajy (t e:TypeId) (a:Addr) (h:P.underlying t=some (.pointer e)):(binOp .eql t (.pointer none) (.pointer (some a))).run P w= .ok (.bool false) w:=by
 have h0: ∀d:Nat,(Op.equalIn (d+1) t (.pointer none) (.pointer (some a))).run P w= .ok false w:=fun d=>by simp[Op.equalIn,run_underlying h]
 simp only[binOp];simp[Op.equal,Op.maxDepth,h0 9999]
theorem ajz (t e:TypeId) (a:Addr) (h:P.underlying t=some (.pointer e)):(binOp .neq t (.pointer none) (.pointer (some a))).run P w= .ok (.bool (!false)) w:=by
 have h0: ∀d:Nat,(Op.equalIn (d+1) t (.pointer none) (.pointer (some a))).run P w= .ok false w:=fun d=>by simp[Op.equalIn,run_underlying h]
 simp only[binOp];simp[Op.equal,Op.maxDepth,h0 9999]
theorem ajA (t e:TypeId) (h:P.underlying t=some (.pointer e)):(binOp .eql t (.pointer none) (.pointer none)).run P w= .ok (.bool true) w:=by
 have h0: ∀d:Nat,(Op.equalIn (d+1) t (.pointer none) (.pointer none)).run P w= .ok true w:=fun d=>by simp[Op.equalIn,run_underlying h]
 simp only[binOp];simp[Op.equal,Op.maxDepth,h0 9999]
theorem ajB (t e:TypeId) (h:P.underlying t=some (.pointer e)):(binOp .neq t (.pointer none) (.pointer none)).run P w= .ok (.bool (!true)) w:=by
 have h0: ∀d:Nat,(Op.equalIn (d+1) t (.pointer none) (.pointer none)).run P w= .ok true w:=fun d=>by simp[Op.equalIn,run_underlying h]
 simp only[binOp];simp[Op.equal,Op.maxDepth,h0 9999]
end
theorem KD (S:ay P w I β hp B M w0) {op:BinOp} {t:TypeId} {b:Bool} {x y:Operand} {v1 v2:Value} {r:R} {rd:List Nat} (h:(ptrEq P op t b).run C hp=some (r,rd)) (hg:(eqGuard op t x y v1 v2).run P w= .ok () w)
  (he: ∀e j,P.underlying t=some (.pointer e)→P.info? e=some j→(binOp .eql t v1 v2).run P w= .ok (.bool b) w∧(binOp .neq t v1 v2).run P w= .ok (.bool (!b)) w):
  dg P ((do eqGuard op t x y v1 v2;binOp op t v1 v2:Sem Value).run P w) w I β hp B M w0 r:=by
 unfold ptrEq at h;cases hu:P.underlying t with
 | none=>rw[hu] at h;cases h
 | some d=>
  rw[hu] at h;cases d<;>simp only at h<;>first|(cases h;done)|skip
  rename_i e;obtain ⟨h1,h2⟩:=az h;obtain ⟨j,hj⟩:=AL.1 h1;obtain ⟨k1,k2⟩:=he e j hu hj;cases op<;>simp only at h2<;>first|(cases h2;done)|skip
  ·obtain rfl:=aL h2;exact .same S (by simp_all) .bool
  ·obtain rfl:=aL h2;exact .same S (by simp_all) .bool
theorem ajC {b n:Nat}:(∀b',b'≠b→(w.freeze ⟨b,0,none⟩ n).heap[b']? =w.heap[b']?)∧bsize (w.freeze ⟨b,0,none⟩ n) b=bsize w b∧w.heap.size≤(w.freeze ⟨b,0,none⟩ n).heap.size∧(w.freeze ⟨b,0,none⟩ n).os=w.os∧(w.freeze ⟨b,0,none⟩ n).output=w.output:=by
 unfold World.freeze;split
 ·grind
 ·refine ⟨fun b' hb=> ?_,?_,by simp,rfl,rfl⟩
  ·grind
  ·simp only[bsize,IG,rv];grind
theorem ajD {e:TypeId} (hb:isByte P e=true):P.underlying e=some (.int .u8):=by
 unfold isByte at hb;grind
theorem ajE (S:ay P w I β hp B M w0) {ts:Array TypeId} {ty e:TypeId} {v:Value} {id:Nat} {es:List V} {fz:Bool} (hv:aj P w I β hp v (.whole e id)) (ae:hp id=some (.arr e es fz)) (h0:0<es.length):
  dg P ((Builtin.unsafeSliceData_ ts ty #[v]).run P w) w I β hp B M w0 ⟨.ptr id 0 0,[]⟩:=by
 cases hv with
 | dX h=>grind
 | dS h _=>grind
 | dI h _ _ _ _=>grind
 | ee h _=>grind
 | fw h _ _ _ _=>grind
 | @whole _ _ aJ oV b cap h hb bK hle hm=>
  rw[ae] at h;cases h;refine .same S (Lib.run_unsafeSliceData_row w ts ty ⟨b,0,none⟩ es.length cap (by omega)) ?_;have:=aj.ptr (P:=P) (w:=w) (I:=I) (β:=β) (i:=0) (c:=0) ae (by simp) hb;grind
theorem ajF {P:Program} {w:World} (pt it ty e T:TypeId) (hp:P.underlying pt=some (.pointer e)) (g cells:Nat) (KE:w.shape? g=some (T,cells)) (l:List UInt8) (h0:l≠[]) (X0:liesAt P P.depth T (cells/P.cellsOf T) 0 e l.length=true) (Fg:l.length≤9223372036854775807)
  (gF: ∀j x,l[j]? =some x→w.cell? ((⟨g,0,none⟩:Addr).add j)=some (.int .u8 x.toNat)):
  (Builtin.unsafeString_ #[pt,it] ty #[.pointer (some ⟨g,0,none⟩),.int .i64 l.length]).run P w= .ok (.string ⟨l.toArray⟩) (w.freeze ⟨g,0,none⟩ l.length):=by
 have hl:l.length≠0:=by grind
 have hlb:=Lib.run_loadBytes (P:=P) w l ⟨g,0,none⟩ .empty gF;have Qj: ¬(9223372036854775807:Int)<(l.length:Int):=by omega
 have ajG:Builtin.unsafeString_ #[pt,it] ty #[.pointer (some ⟨g,0,none⟩),.int .i64 l.length]=
   (do
    let n←asInt (.int .i64 l.length)
    if n < 0 then runtimePanic (.error "unsafe.String: len out of range")
    if n > IntKind.i64.max then unsupported (.unsafePointer "String: a length above the largest int")
    if n=0 then pure (.string .empty)
    else if←variablesAt ⟨g,0,none⟩ (←elemOf pt) n.toNat then do
     let s←loadBytes ⟨g,0,none⟩ .empty n.toNat
     Go.freeze ⟨g,0,none⟩ n.toNat
     pure (.string s)
    else unsupported (.unsafePointer "String: not so many bytes at ptr")) := rfl
 rw[ajG];have ajH:IntKind.i64.max=9223372036854775807:=rfl;have ajI: ¬(l.length:Int)<0:=by omega
 simp[asInt,asIntOf,ajH,Qj,ajI,hl,variablesAt,KE,elemOf,run_underlying hp,X0,hlb]
theorem ajJ (S:ay P w I β hp B M w0) {t u ty e:TypeId} {vx:Value} {id:Nat} {n:Int} {es:List V} (hu:P.underlying t=some (.pointer e)) (hb:isByte P e=true) (hv:aj P w I β hp vx (.ptr id 0 0))
  (ae:hp id=some (.arr e es false)) (h0:0<n) (hn:n≤es.length) (hm:n.toNat≤oT) (mA:(es.take n.toNat).all Ot=true):dg P ((Builtin.unsafeString_ #[t,u] ty #[vx,.int .i64 n]).run P w) w I β hp B M w0 ⟨.str (lb (es.take n.toNat)),[(id,.dead)]⟩:=by
 obtain ⟨b,Qn,rfl⟩:=hv.iZ ae (by simp);have fQ:=hb;have he:P.underlying e=some (.int .u8):=by
  unfold isByte at hb;grind
 have ow:bY P e=false:=by simp[bY,he]
 have hr:=S.h.rel id _ ae;rw[Qn] at hr;cases hr with
 | eA au=>cases au
 | @arr _ T0 _ _ b1 Ca hL ao qQ hh hs hI dd fB=>
  cases qQ;have h1:P.cellsOf e=1:=by rw[←(og ao).1,Ef ow];rfl
  have aY:=S.afT ae (by simp) Qn;have hl:(lb (es.take n.toNat)).length=n.toNat:=by simp[lb];omega
  have pd:n=((lb (es.take n.toNat)).length:Nat):=by omega
  have cI:=ajF (P:=P) (w:=w) t u ty e T0 hu b Ca.size (by simp[World.shape?,hh]) (lb (es.take n.toNat)) (fun h=>by grind) (hL fQ h1 _ (by grind)) (by rw[hl];unfold oT at hm;omega) (fun j x hx=>by
   have hj:j<n.toNat:=by
    grind
   have ye:j<es.length:=by omega
   simp only[lb,kZ,jr hj,bU ye,Option.map_some,e7] at hx;obtain ⟨v,u4,bE⟩:=fB j 0 es[j] e (bU ye) (by simp[aT,ow]) (by omega);rw[h1] at u4;simp only[ca,ow,cond_false] at bE;have:=Py he bE;have hr:=gZ.1 mA es[j] (mi (by rw[jr hj];grind));simp only[Ot,aI,jM] at hr;have jU:(x.toNat:Int)=es[j].toInt:=by
    rw[←hx];have:es[j].toInt.toNat<256:=by omega
    simp only[UInt8.toNat_ofNat'];omega
   rw[nR,cell?_cells hh,jU];grind)
  obtain ⟨f1,f2,f3,f4,f5⟩:=ajC (w:=w) (b:=b) (n:=n.toNat);obtain ⟨k1,k2⟩:=Bj (w':=w.freeze ⟨b,0,none⟩ n.toNat) S ae (by simp) (blk':= .dead) (by trivial) Qn (dd rfl) (by simp) f1 f2 f3 ⟨f4,f5⟩ (fun _=> .dead);rw[←pd,hl] at cI;refine ⟨.string ⟨(lb (es.take n.toNat)).toArray⟩,_,I,β,?_,k1,k2,.str ?_⟩
  all_goals grind
def Qo:Op→Bool
 | .call {callee:= .value (.func _),..}=>true
 | .call {callee:= .value (.tmp _),..}=>true
 | .defer _=>true
 | _=>false
theorem rR.val {o:Oper} {a:Act} {s:Sem Value} {r:R} (he:execOp a.eval o=(do Pure.pure (Next.value (←s)))) (h:dg P (s.run P w) w I β hp B M w0 r):rR P ((execOp a.eval o).run P w) w I β hp B M w0 r:=by
 rw[he];exact h.op
theorem ajK {A:dn} (S:ay P w I β hp B M w0) (hg:jS P A.aB w I) {a:Act} {sl:Nat→V} (hs:nM P w I β hp a sl) {ix nb:Nat} {o:Oper} (Qp:Qo o.op=false) {r:R} {rd:List Nat}
  (h:(je P A sl ix nb o).run C hp=some (r,rd)):rR P ((execOp a.eval o).run P w) w I β hp B M w0 r:=by
 obtain ⟨dst,op,ty,pos,after,guard⟩:=o;cases op<;>simp only[je] at h<;>first|(cases h;done)|skip
 case move x=>
  obtain rfl:=aL h;exact ⟨_,w,I,β,.inl (by simp[execOp]),Le.refl w I β hp,S,hs.ev hg ty x⟩
 case assign x=>
  obtain rfl:=aL h;exact ⟨_,w,I,β,.inl (by simp[execOp]),Le.refl w I β hp,S,hs.ev hg ty x⟩
 case pick c x y=>
  have hc:=hs.ev hg ty c;cases yL:aS P A.aB ty sl c<;>rw[yL] at h hc<;>simp only at h<;>first|(cases h;done)|skip
  rename_i t;have ajL:=hc.mW;have hx:=hs.ev hg ty x;have hy:=hs.ev hg ty y;have fin: ∀z:V,aj P w I β hp (if t then a.eval x else a.eval y) z→rR P ((execOp a.eval ⟨dst,.pick c x y,ty,pos,after,guard⟩).run P w) w I β hp B M w0 ⟨z,[]⟩:=by
   intro z hz;exact ⟨_,w,I,β,.inl (by simp[execOp,ajL,asBool]),Le.refl w I β hp,S,hz⟩
  cases YA:gone (aS P A.aB ty sl x) with
  | true=>
   rw[YA] at h;obtain ⟨h1,h⟩:=az h;obtain rfl:=aL h;grind
  | false=>
   rw[YA] at h;simp only[cond_false] at h;cases YB:gone (aS P A.aB ty sl y) with
   | true=>
    rw[YB] at h;obtain ⟨h1,h⟩:=az h;obtain rfl:=aL h;grind
   | false=>
    rw[YB] at h;obtain rfl:=aL h;exact fin _ (V6 hx hy)
 case makeFunc fn x y=>
  cases fn<;>simp only[je] at h<;>first|(cases h;done)|skip
  rename_i f;obtain rfl:=aL h;refine ⟨.func (.func f) (x.map a.eval) (y.map a.eval),w,I,β,.inl (by simp[execOp,Instr.makeFunc]),Le.refl w I β hp,S,.fn (by simp) (fun j v z hj hz=> ?_) (by simp) (fun j v z hj hz=> ?_)⟩
  ·rw[Array.getElem?_map] at hj;rw[kZ,rz] at hz;cases hx:x[j]? with
   | none=>grind
   | some o1=>
    rw[hx] at hj hz;cases hj;cases hz;exact hs.ev hg ty o1
  ·rw[Array.getElem?_map] at hj;rw[kZ,rz] at hz;cases hx:y[j]? with
   | none=>grind
   | some o1=>
    rw[hx] at hj hz;cases hj;cases hz;exact hs.ev hg ty o1
 case defer c=>cases Qp
 case makeMap t res=>
  cases res with
  | some x=>cases h
  | none=>exact .val rfl (ajj S h)
 case lookup t m k ok=>
  cases ht:oU P t with
  | none=>rw[ht] at h;cases h
  | some q=>
   obtain ⟨kt,vt⟩:=q;rw[ht] at h;exact .val (s:=Instr.lookup t (a.eval m) (a.eval k) ok) rfl (aji S ht (hs.ev hg t m) (hs.ev hg kt k) h)
 case mapUpdate t m k x=>
  cases ht:oU P t with
  | none=>rw[ht] at h;cases h
  | some q=>
   obtain ⟨kt,vt⟩:=q;rw[ht] at h;have:=Yw S ht (hs.ev hg t m) (hs.ev hg kt k) (hs.ev hg vt x) h;exact this.op
 case insert t m k x=>
  cases ht:oU P t with
  | none=>rw[ht] at h;cases h
  | some q=>
   obtain ⟨kt,vt⟩:=q;rw[ht] at h;have:=Yw S ht (hs.ev hg t m) (hs.ev hg kt k) (hs.ev hg vt x) h;exact this.op
 case alloc e=>
  cases dst with
  | none=>exact .val rfl (XN S h)
  | some d=>
   simp only at h;cases tq:iE A.rB d with
   | true=>rw[tq] at h;exact .val rfl (aiI S h)
   | false=>rw[tq] at h;exact .val rfl (XN S h)
 case box e x=>
  exact .val rfl (aiD S (hs.ev hg e x) h)
 case build t ps=>exact .val rfl (aiF S hs hg h)
 case buildSlice t len ps=>
  cases hu:P.underlying t with
  | none=>rw[hu] at h;cases h
  | some d=>
   rw[hu] at h;cases d<;>simp only at h<;>first|(cases h;done)|skip
   cases dst with
   | none=>exact .val rfl (X4 S hs hg hu h)
   | some d=>
    simp only at h;cases tq:iE A.rB d with
    | true=>rw[tq] at h;exact .val rfl (aiZ S hs hg hu h)
    | false=>rw[tq] at h;exact .val rfl (X4 S hs hg hu h)
 case load t x=>exact .val rfl (af8 S (hs.ev hg ty x) h)
 case store t x y=>
  have:=aiC S (hs.ev hg ty x) (hs.ev hg t y) h;exact this.op
 case nilCheck x=>
  have hx:=hs.ev hg ty x;cases jc:aS P A.aB ty sl x<;>rw[jc] at h hx<;>simp only at h<;>first|(cases h;done)|skip
  ·obtain ⟨⟨blk,ae,hd⟩,l,h⟩:=Ek h;obtain rfl:=aL h;have c7:=hx;obtain ⟨b,hb,he⟩:=hx.iZ ae hd;rw[he] at c7;exact ⟨_,w,I,β,.inl (by simp only[execOp,he];rfl),Le.refl w I β hp,S,c7⟩
  ·obtain rfl:=aL h;have c7:=hx;obtain ⟨b,o,he,_⟩:=hx.El;rw[he] at c7;exact ⟨_,w,I,β,.inl (by simp only[execOp,he];rfl),Le.refl w I β hp,S,c7⟩
  ·obtain ⟨e0,es,vers,l,ae,h1,h2,h3,h⟩:=qG h;obtain rfl:=aL h;have c7:=hx;obtain ⟨b,o,he,_⟩:=hx.V1 ae h1 h2 h3;rw[he] at c7;exact ⟨_,w,I,β,.inl (by simp only[execOp,he];rfl),Le.refl w I β hp,S,c7⟩
 case binOp op t x y yt=>
  have hx:=hs.ev hg t x;have hy:=hs.ev hg t y;refine .val (s:=do eqGuard op t x y (a.eval x) (a.eval y);binOp op t (a.eval x) (a.eval y)) rfl ?_;cases jc:aS P A.aB t sl x<;>cases tx:aS P A.aB t sl y<;>rw[jc,tx] at h<;>rw[jc] at hx<;>rw[tx] at hy<;>first|(simp only[ml] at h;cases h;done)|skip
  ·rw[hx.fM,hy.fM];have:=afY S h;simpa[afV] using this
  ·rw[hx.mW,hy.mW];have:=af0 S h;simpa[afW] using this
  ·obtain ⟨s1,e1,l1⟩:=hx.oh;obtain ⟨s2,e2,l2⟩:=hy.oh;rw[e1,e2];rw[←l1,←l2] at h;have:=af1 (t:=t) S h;simpa[afX] using this
  ·simp only[ml] at h;rw[hx.Qm,hy.Qm];cases hu:P.underlying t with
   | none=>rw[hu] at h;cases h
   | some d=>
    rw[hu] at h;cases d<;>(try (cases h;done))
    cases op<;>simp only at h<;>first|(cases h;done)|skip
    ·obtain rfl:=aL h;exact .same S (by simpa[eqGuard] using run_eql_slice_nil w _ _ none 0 0 hu) .bool
    ·obtain rfl:=aL h;exact .same S (by simpa[eqGuard] using run_neq_slice_nil w _ _ none 0 0 hu) .bool
  ·obtain ⟨cs,e1,h1,h2⟩:=hx.mX;obtain ⟨ds,e2,h3,h4⟩:=hy.mX;rw[e1,e2];exact af2 S h1 h3 h2 h4 h
  ·
   simp only[ml] at h;obtain ⟨h1,h2⟩:=az h;clear h;simp only[aI,aK] at h1;obtain ⟨rfl,rfl,rfl⟩:=h1;obtain ⟨⟨blk,ae,hd⟩,l,h⟩:=Ek h2;obtain ⟨b,hb,e1⟩:=hx.iZ ae hd;obtain ⟨b',au,e2⟩:=hy.iZ ae hd;rw[hb] at au;cases au;rw[e1,e2];exact KD S h (by cases op<;>simp[eqGuard]) fun e j he hj=>⟨run_eql_ptr_same w _ he hj,Lib.run_neq_ptr_same w _ he hj⟩
  ·simp only[ml] at h;obtain ⟨⟨blk,ae,hd⟩,l,h⟩:=Ek h;obtain ⟨b,_,e1⟩:=hx.iZ ae hd;rw[e1,hy.KC];exact KD S h (by cases op<;>simp[eqGuard]) fun e j he hj=>⟨ajw w t e _ he,ajx w t e _ he⟩
  ·simp only[ml] at h;obtain ⟨⟨blk,ae,hd⟩,l,h⟩:=Ek h;obtain ⟨b,_,e1⟩:=hy.iZ ae hd;rw[e1,hx.KC];exact KD S h (by cases op<;>simp[eqGuard]) fun e j he hj=>⟨ajy w t e _ he,ajz w t e _ he⟩
  ·simp only[ml] at h;rw[hx.KC,hy.KC];exact KD S h (by cases op<;>simp[eqGuard]) fun e j he hj=>⟨ajA w t e he,ajB w t e he⟩
  ·
   simp only[ml] at h;obtain ⟨l,h⟩:=run_get h;split at h
   ·rename_i t2 es ae;obtain ⟨b,hb⟩:=hx.ajn ae;rw[hy.Qi,hb];exact Yx (a:=some b) S x y h
   ·cases h
  ·simp only[ml] at h;rw[hx.Qi,hy.Qi];exact Yx (a:=none) S x y h
  ·simp only[ml] at h;rename_i e1 es e2;rw[hy.Qm];cases hu:P.underlying t with
   | none=>rw[hu] at h;cases h
   | some d=>
    rw[hu] at h;cases d<;>(try (cases h;done))
    have hv:(es=[]∧a.eval x= .slice none 0 0)∨(es≠[]∧∃b n c,a.eval x= .slice (some b) n c):=by
     generalize a.eval x=u at hx;cases hx with
     | nl q q0=>
      cases q with
      | nil=>exact .inl ⟨rfl,rfl⟩
      | emp=>cases q0 rfl
      | list g b1 c1 d1 e1=>
       by_cases he:es=[]
       ·cases q0 he
       ·exact .inr ⟨he,_,_,_,rfl⟩
    cases op<;>simp only at h<;>first|(cases h;done)|skip
    ·obtain rfl:=aL h;rcases hv with ⟨rfl,hv⟩|⟨he,b,n,c,hv⟩
     ·rw[hv];exact .same S (by simpa[eqGuard] using run_eql_slice_nil w _ _ none 0 0 hu) .bool
     ·rw[hv];have:Nat.beq es.length 0=false:=by cases es with|nil=>exact absurd rfl he|cons _ _=>rfl
      rw[this];exact .same S (by simpa[eqGuard] using run_eql_slice_nil w _ _ (some b) n c hu) .bool
    ·obtain rfl:=aL h;rcases hv with ⟨rfl,hv⟩|⟨he,b,n,c,hv⟩
     ·rw[hv];exact .same S (by simpa[eqGuard] using run_neq_slice_nil w _ _ none 0 0 hu) .bool
     ·rw[hv];have:Nat.beq es.length 0=false:=by cases es with|nil=>exact absurd rfl he|cons _ _=>rfl
      rw[this];exact .same S (by simpa[eqGuard] using run_neq_slice_nil w _ _ (some b) n c hu) .bool
 case unOp op t x=>exact .val rfl (af3 S (hs.ev hg ty x) h)
 case convert src dst x=>
  have hx:=hs.ev hg ty x;refine .val (s:=convert src dst (a.eval x)) rfl ?_;cases kz:P.underlying src with
  | none=>rw[kz] at h;cases h
  | some d1=>
   cases pe:P.underlying dst with
   | none=>rw[kz,pe] at h;cases d1<;>cases h
   | some d2=>
    rw[kz,pe] at h;have jZ: ∀{b:Nat} {T:TypeId} {cs:List V} {id:Nat},hp id=some (.var T cs)→β id=some b→w.shape? b=some (T,cs.length):=by
     intro b T cs id ae hb;have hr:=S.h.rel id _ ae;rw[hb] at hr;cases hr with
     | var au hh aZ _ _ _=>cases au;simp[World.shape?,hh,aZ]
    cases d1<;>(try (cases d2<;>cases h;done))
    ·cases d2<;>(try (cases h;done))<;>cases jc:aS P A.aB ty sl x<;>rw[jc] at h hx<;>simp only at h<;>first|(cases h;done)|skip
     ·obtain rfl:=aL h;rw[hx.fM];exact .same S (by simp[convert,run_underlying kz,run_underlying pe,Conv.intToInt]) .int
     ·obtain ⟨hc,h⟩:=az h;obtain rfl:=aL h;rw[hx.fM];exact .same S (run_convert_int_string w src dst _ _ (by simp[kz]) pe) (.str (ajv hc))
    ·cases d2<;>(try (cases h;done))
     rename_i u;cases jc:aS P A.aB ty sl x<;>rw[jc] at h hx<;>simp only at h<;>first|(cases h;done)|skip
     rename_i id i c;obtain ⟨l,h1⟩:=run_get h;cases ae:hp id with
     | none=>rw[ae] at h1;cases h1
     | some blk=>
      rw[ae] at h1;cases blk<;>simp only at h1<;>first|(cases h1;done)|skip
      rename_i T cs;obtain ⟨h2,h3⟩:=az h1;simp only[aI,aK] at h2;obtain ⟨rfl,h4,h5⟩:=h2;obtain ⟨b,hb,e1⟩:=hx.iZ ae (by simp);obtain rfl:=aL h3;obtain ⟨j,hj⟩:=AL.1 h4;have c7:=hx;rw[e1] at c7⊢;exact .same S (Lib.run_from_unsafe w _ kz pe hj (jZ ae hb) (by grind)) c7
    ·cases d2<;>(try (cases h;done))
     rename_i t;cases jc:aS P A.aB ty sl x<;>rw[jc] at h hx<;>simp only at h<;>first|(cases h;done)|skip
     rename_i id i c;obtain ⟨l,h1⟩:=run_get h;cases ae:hp id with
     | none=>rw[ae] at h1;cases h1
     | some blk=>
      rw[ae] at h1;cases blk<;>simp only at h1<;>first|(cases h1;done)|skip
      rename_i T cs;obtain ⟨h2,h3⟩:=az h1;simp only[aI,aK,mK] at h2;obtain ⟨rfl,h4,h5⟩:=h2;obtain ⟨b,hb,e1⟩:=hx.iZ ae (by simp);obtain rfl:=aL h3;cases hj:P.info? t with
      | none=>grind
      | some j=>
       rw[hj] at h5;simp only[mL] at h5;have h6:j.size≠0:=fun e=>by simp_all
       have c7:=hx;rw[e1] at c7⊢;exact .same S (Lib.run_to_unsafe w _ kz pe hj h6 (jZ ae hb) (by grind)) c7
    ·rename_i e;cases d2<;>(try (cases h;done))
     simp only at h;cases he:P.underlying e with
     | none=>rw[he] at h;cases h
     | some d3=>
      rw[he] at h;cases d3<;>(try (cases h;done))
      rename_i k;cases k<;>(try (cases h;done))
      exact aju S kz he pe hx h
 case fieldAddr s x f=>exact .val rfl (af4 S (hs.ev hg ty x) h)
 case field s x f=>exact .val rfl (ai0 S (hs.ev hg ty x) h)
 case indexAddr t x y=>exact .val rfl (ai9 S (hs.ev hg ty x) (hs.ev hg 0 y) h)
 case index t x y=>
  have hx:=hs.ev hg ty x;have hy:=hs.ev hg 0 y;refine .val (s:=Instr.index t (a.eval x) (a.eval y)) rfl ?_;cases hu:P.underlying t with
  | none=>rw[hu] at h;cases h
  | some d=>
   rw[hu] at h;cases d<;>(try (cases h;done))
   ·cases jc:aS P A.aB ty sl x<;>rw[jc] at h hx<;>(try (cases h;done))
    cases tx:aS P A.aB 0 sl y<;>rw[tx] at h hy<;>(try (cases h;done))
    obtain ⟨s,e1,l1⟩:=hx.oh;rw[e1,hy.fM];exact ai2 S hu l1 h
   ·cases jc:aS P A.aB ty sl x<;>rw[jc] at h hx<;>(try (cases h;done))
    cases tx:aS P A.aB 0 sl y<;>rw[tx] at h hy<;>(try (cases h;done))
    rw[hy.fM];exact ai3 S hu hx h
 case slice t x lo hi mx=>
  cases mx with
  | some m=>
   simp only at h;refine .val (s:=Instr.sliceAt t (a.eval x) (lo.map a.eval) (hi.map a.eval) (some (a.eval m))) (by simp[execOp]) (ai6 S (hs.ev hg ty x) (fun hy=> ?_) (fun y hy=> ?_) (fun y hy=> ?_) h)
   ·simp_all
   ·cases hi with
    | none=>cases hy
    | some l=>cases hy;exact ⟨_,rfl,hs.ev hg 0 l⟩
   ·cases hy;exact ⟨_,rfl,hs.ev hg 0 m⟩
  | none=>
   simp only at h;have plain:(I6 P t (aS P A.aB ty sl x) (lo.map (aS P A.aB 0 sl)) (hi.map (aS P A.aB 0 sl))).run C hp=some (r,rd)→rR P ((execOp a.eval ⟨dst,.slice t x lo hi none,ty,pos,after,guard⟩).run P w) w I β hp B M w0 r:=by
    intro h;refine .val (s:=Instr.sliceAt t (a.eval x) (lo.map a.eval) (hi.map a.eval) none) (by simp[execOp]) (ai5 S (hs.ev hg ty x) (fun y hy=> ?_) (fun y hy=> ?_) (fun hy=> ?_) (fun hy=> ?_) h)
    ·cases lo with
     | none=>cases hy
     | some l=>cases hy;exact ⟨_,rfl,hs.ev hg 0 l⟩
    ·cases hi with
     | none=>cases hy
     | some l=>cases hy;exact ⟨_,rfl,hs.ev hg 0 l⟩
    all_goals simp_all
   have tr:(I7 P nb t (aS P A.aB ty sl x) (lo.map (aS P A.aB 0 sl)) (hi.map (aS P A.aB 0 sl))).run C hp=some (r,rd)→rR P ((execOp a.eval ⟨dst,.slice t x lo hi none,ty,pos,after,guard⟩).run P w) w I β hp B M w0 r:=by
    intro h;refine .val (s:=Instr.sliceAt t (a.eval x) (lo.map a.eval) (hi.map a.eval) none) (by simp[execOp]) (aja S (hs.ev hg ty x) (fun y hy=> ?_) (fun hy=> ?_) h)
    ·cases hi with
     | none=>cases hy
     | some l=>cases hy;exact ⟨_,rfl,hs.ev hg 0 l⟩
    simp_all
   grind
 case extract x i=>
  have hx:=hs.ev hg ty x;cases jc:aS P A.aB ty sl x<;>rw[jc] at h hx<;>simp only at h<;>first|(cases h;done)|skip
  exact .val (s:=Instr.extract (a.eval x) i) rfl (ai1 S hx h)
 case makeSlice t l c=>
  have hl:=hs.ev hg 0 l;have hc:=hs.ev hg 0 c;refine .val (s:=Instr.makeSlice t (a.eval l) (a.eval c)) rfl ?_;cases hu:P.underlying t with
  | none=>rw[hu] at h;cases h
  | some d=>
   rw[hu] at h;cases d<;>(try (cases h;done))
   cases Qq:aS P A.aB 0 sl l<;>rw[Qq] at h hl<;>(try (cases h;done))
   cases yL:aS P A.aB 0 sl c<;>rw[yL] at h hc<;>(try (cases h;done))
   rw[hl.fM,hc.fM];cases dst with
   | none=>exact X5 S hu h
   | some d=>
    simp only at h;cases hg:iE A.rB d with
    | true=>rw[hg] at h;exact aiK S hu h
    | false=>rw[hg] at h;exact X5 S hu h
 case call c=>
  obtain ⟨callee,args,argTypes⟩:=c;cases callee with
  | invoke r m=>cases h
  | value f=>
   cases f with
   | func f=>cases Qp
   | tmp f=>cases Qp
   | _=>cases h
  | builtin b=>
   have one: ∀{x:Operand},args.toList=[x]→args= #[x]:=fun h=>by grind
   have ve: ∀(s:Array TypeId→TypeId→Array Value→Sem Value),builtin b argTypes ty (args.map fun| .const _=>true|_=>false) (args.map a.eval)=(do Pure.pure (Next.value (←s argTypes ty (args.map a.eval))))→
     execOp a.eval ⟨dst,.call ⟨.builtin b,args,argTypes⟩,ty,pos,after,guard⟩=(do Pure.pure (Next.value (←s argTypes ty (args.map a.eval)))):=by
    intro s hb;simp only[execOp,resolve,pure_bind,invoke];exact hb
   cases b<;>(try (cases h;done))
   case append=>
    simp only at h;cases ha:args.toList with
    | nil=>rw[ha] at h;cases h
    | cons x l=>
     cases l with
     | nil=>rw[ha] at h;cases h
     | cons y l2=>
      cases l2 with
      | cons _ _=>rw[ha] at h;cases h
      | nil=>
       cases fL:argTypes.toList with
       | nil=>rw[ha,fL] at h;cases h
       | cons t l3=>
        cases l3 with
        | nil=>rw[ha,fL] at h;cases h
        | cons u l4=>
         cases l4 with
         | cons _ _=>rw[ha,fL] at h;cases h
         | nil=>
          rw[ha,fL] at h;simp only at h;have e1:args= #[x,y]:=by grind
          have e2:argTypes= #[t,u]:=by grind
          cases hu:P.underlying t with
          | none=>rw[hu] at h;cases h
          | some d=>
           rw[hu] at h;cases d<;>(try (cases h;done))
           cases hc:Nat.beq t u with
           | true=>
            rw[hc] at h;rw[aK] at hc;subst hc;simp only[cond_true] at h;refine .val (ve Builtin.append_ rfl) ?_;rw[e1,e2];cases dst with
            | none=>
             have:=Yc (ty:=ty) S hu (hs.ev hg t x) (hs.ev hg t y) h;grind
            | some d=>
             simp only at h;cases tq:iE A.rB d with
             | true=>
              rw[tq] at h;have:=aiT (ty:=ty) S hu (hs.ev hg t x) (hs.ev hg t y) h;grind
             | false=>
              rw[tq] at h;have:=Yc (ty:=ty) S hu (hs.ev hg t x) (hs.ev hg t y) h;grind
           | false=>
            rw[hc] at h;simp only[cond_false] at h;have hy:=hs.ev hg u y;cases sg:P.underlying u with
            | none=>rw[sg] at h;cases h
            | some du=>
             rw[sg] at h;cases du<;>(try (cases h;done))
             cases tx:aS P A.aB u sl y<;>rw[tx] at h hy<;>(try (cases h;done))
             simp only at h;obtain ⟨hb,h⟩:=az h;obtain ⟨s1,q1,q2⟩:=hy.oh;subst q2;have:=ajs (ty:=ty) S hu sg (ajD hb) (hs.ev hg t x) h;refine .val (ve Builtin.append_ rfl) ?_;grind
   case len=>
    simp only at h;cases ha:args.toList with
    | nil=>rw[ha] at h;cases h
    | cons x l=>
     cases l with
     | cons _ _=>rw[ha] at h;cases h
     | nil=>
      cases fL:argTypes.toList with
      | nil=>rw[ha,fL] at h;cases h
      | cons t l3=>
       cases l3 with
       | cons _ _=>rw[ha,fL] at h;cases h
       | nil=>
        rw[ha,fL] at h;simp only at h;have e1:args= #[x]:=by grind
        have e2:argTypes= #[t]:=by grind
        have hx:=hs.ev hg ty x;refine .val (ve Builtin.len_ rfl) ?_;rw[e1,e2];cases hu:P.underlying t with
        | none=>rw[hu] at h;cases h
        | some d=>
         rw[hu] at h;cases d<;>(try (cases h;done))
         ·cases jc:aS P A.aB ty sl x<;>rw[jc] at h hx<;>(try (cases h;done))
          have:=V7 (t:=t) (ty:=ty) S hx (fun l hl=>hu) (fun hn=>absurd rfl (hn _)) h;grind
         ·have h2:(∀l,aS P A.aB ty sl x≠ .str l)∧(IW P (aS P A.aB ty sl x)).run C hp=some (r,rd):=by
           cases jc:aS P A.aB ty sl x<;>rw[jc] at h<;>first|(cases h;done)|exact ⟨fun l=>by simp,h⟩
          have:=V7 (t:=t) (ty:=ty) S hx (fun l hl=>absurd hl (h2.1 l)) (fun _=>⟨_,hu⟩) h2.2;grind
         ·have h2:(I5 (aS P A.aB ty sl x)).run C hp=some (r,rd):=by
           omega
          have:=ajm (t:=t) (ty:=ty) S hu hx h2;grind
   case unsafeSliceData=>
    simp only at h;cases ha:args.toList with
    | nil=>rw[ha] at h;cases h
    | cons x l=>
     cases l with
     | cons _ _=>rw[ha] at h;cases h
     | nil=>
      rw[ha] at h;simp only at h;have e1:args= #[x]:=by grind
      have hx:=hs.ev hg ty x;refine .val (ve Builtin.unsafeSliceData_ rfl) ?_;rw[e1];cases jc:aS P A.aB ty sl x<;>rw[jc] at h hx<;>simp only at h<;>first|(cases h;done)|skip
      rename_i e id;obtain ⟨l2,h1⟩:=run_get h;cases ae:hp id with
      | none=>rw[ae] at h1;cases h1
      | some blk=>
       rw[ae] at h1;cases blk<;>simp only at h1<;>first|(cases h1;done)|skip
       rename_i e' es fz;obtain ⟨h2,h3⟩:=az h1;simp only[aI,aK,mK] at h2;obtain ⟨rfl,h4⟩:=h2;obtain rfl:=aL h3;have:=ajE (ts:=argTypes) (ty:=ty) S hx ae h4;grind
   case unsafeString=>
    simp only at h;cases ha:args.toList with
    | nil=>rw[ha] at h;cases h
    | cons x l=>
     cases l with
     | nil=>rw[ha] at h;cases h
     | cons y l2=>
      cases l2 with
      | cons _ _=>rw[ha] at h;cases h
      | nil=>
       cases fL:argTypes.toList with
       | nil=>rw[ha,fL] at h;cases h
       | cons t l3=>
        cases l3 with
        | nil=>rw[ha,fL] at h;cases h
        | cons u l4=>
         cases l4 with
         | cons _ _=>rw[ha,fL] at h;cases h
         | nil=>
          rw[ha,fL] at h;simp only at h;have e1:args= #[x,y]:=by grind
          have e2:argTypes= #[t,u]:=by grind
          have hx:=hs.ev hg ty x;have hy:=hs.ev hg ty y;cases hu:P.underlying t with
          | none=>rw[hu] at h;cases h
          | some d=>
           rw[hu] at h;cases d<;>(try (cases h;done))
           rename_i e;cases jc:aS P A.aB ty sl x<;>rw[jc] at h hx<;>(try (cases h;done))
           cases tx:aS P A.aB ty sl y<;>rw[tx] at h hy<;>(try (cases h;done))
           rename_i id i c k n;cases k<;>(try (cases h;done))
           simp only at h;obtain ⟨l2,h1⟩:=run_get h;cases ae:hp id with
           | none=>rw[ae] at h1;cases h1
           | some blk=>
            rw[ae] at h1;cases blk<;>simp only at h1<;>first|(cases h1;done)|skip
            rename_i e' es fz;cases fz<;>simp only at h1<;>first|(cases h1;done)|skip
            obtain ⟨h2,h3⟩:=az h1;simp only[aI,aK,fV,jM] at h2;obtain ⟨rfl,h4,rfl,rfl,h5,h6,h7,h8⟩:=h2;obtain rfl:=aL h3;have:=ajJ (u:=u) (ty:=ty) S hu h4 hx ae h5 h6 h7 h8;refine .val (ve Builtin.unsafeString_ rfl) ?_;rw[e1,e2];simpa[hy.fM] using this
   case copy=>
    simp only at h;cases ha:args.toList with
    | nil=>rw[ha] at h;cases h
    | cons x l=>
     cases l with
     | nil=>rw[ha] at h;cases h
     | cons y l2=>
      cases l2 with
      | cons _ _=>rw[ha] at h;cases h
      | nil=>
       cases fL:argTypes.toList with
       | nil=>rw[ha,fL] at h;cases h
       | cons t l3=>
        cases l3 with
        | nil=>rw[ha,fL] at h;cases h
        | cons u l4=>
         cases l4 with
         | cons _ _=>rw[ha,fL] at h;cases h
         | nil=>
          rw[ha,fL] at h;simp only at h;have e1:args= #[x,y]:=by grind
          have e2:argTypes= #[t,u]:=by grind
          cases hu:P.underlying t with
          | none=>rw[hu] at h;cases h
          | some d=>
           rw[hu] at h;cases d<;>(try (cases h;done))
           have:=aiQ (u:=u) (ty:=ty) S hu (hs.ev hg t x) (hs.ev hg u y) h;refine .val (ve Builtin.copy_ rfl) ?_;grind
   case clear=>
    simp only at h;cases ha:args.toList with
    | nil=>rw[ha] at h;cases h
    | cons x l=>
     cases l with
     | cons _ _=>rw[ha] at h;cases h
     | nil=>
      cases fL:argTypes.toList with
      | nil=>rw[ha,fL] at h;cases h
      | cons t l3=>
       cases l3 with
       | cons _ _=>rw[ha,fL] at h;cases h
       | nil=>
        rw[ha,fL] at h;simp only at h;have e1:args= #[x]:=by grind
        have e2:argTypes= #[t]:=by grind
        cases hu:P.underlying t with
        | none=>rw[hu] at h;cases h
        | some d=>
         rw[hu] at h;cases d<;>(try (cases h;done))
         have:=aiR (ty:=ty) S hu (hs.ev hg t x) h;refine .val (ve Builtin.clear_ rfl) ?_;grind
   case max=>
    simp only at h;cases ha:args.toList with
    | nil=>rw[ha] at h;cases h
    | cons x l=>
     rw[ha] at h;simp only at h;have:=P6 S true (vs:=l.map a.eval) (xs:=l.map (aS P A.aB ty sl)) (hs.ev hg ty x) (by simp) (fun j u y hu hy=>by
      simp only[kZ] at hu hy;cases hl:l[j]? with
      | none=>grind
      | some z=>rw[hl] at hu hy;cases hu;cases hy;exact hs.ev hg ty z) h
     refine .val (ve Builtin.max_ rfl) ?_;simpa[Builtin.max_,ha] using this
   case min=>
    simp only at h;cases ha:args.toList with
    | nil=>rw[ha] at h;cases h
    | cons x l=>
     rw[ha] at h;simp only at h;have:=P6 S false (vs:=l.map a.eval) (xs:=l.map (aS P A.aB ty sl)) (hs.ev hg ty x) (by simp) (fun j u y hu hy=>by
      simp only[kZ] at hu hy;cases hl:l[j]? with
      | none=>grind
      | some z=>rw[hl] at hu hy;cases hu;cases hy;exact hs.ev hg ty z) h
     refine .val (ve Builtin.min_ rfl) ?_;simpa[Builtin.min_,ha] using this
end
section
variable {P:Program} {A:dn} {w w':World} {I I' I2:Nat→Nat→Prop} {μ β β':Nat→Option Nat} {hp hp':Nat→Option ah} {C:af} {B:Nat} {M:Nat→Prop} {w0:Start}
theorem yR: ∀{l m:List Nat},fX.qC l m=true→l=m
 | [],[],_=>rfl
 | [],_::_,h=>by cases h
 | _::_,[],h=>by cases h
 | a::l,b::m,h=>by
  simp only[fX.qC,aI,aK] at h;rw[h.1,yR h.2]
@[simp] theorem YC (n:Nat):jQ (fv n)=n:=by simp[jQ,fv,V.toInt]
theorem KF: ∀(path:List (Nat×Nat)) (rest:List V),DW (path.map (·.2)) ((path.map fun p=>fv p.1)++rest)=path
 | [],_=>rfl
 | p::l,rest=>by
  simp only[kY,List.cons_append,DW,V.nth,YC,Iz,ud,KF l rest]
theorem KG {l:LS} {x:V} {ds:List V} (h:fX l x=some ds):ds.length=l.size∧(l= .um∨∀rest,ld l (ds++rest)=x):=by
 cases l with
 | um=>simp only[fX,e7] at h;subst h;exact ⟨rfl,.inl rfl⟩
 | int k=>
  cases x<;>simp only[fX] at h<;>first|(cases h;done)|skip
  rename_i k' n;by_cases hk:k=k'
  ·subst hk;simp only[decide_true,cond_true,e7] at h;subst h;exact ⟨rfl,.inr fun _=>rfl⟩
  grind
 | bool=>
  cases x<;>simp only[fX] at h<;>first|(cases h;done)|skip
  cases h;exact ⟨rfl,.inr fun _=>rfl⟩
 | str=>
  cases x<;>simp only[fX] at h<;>first|(cases h;done)|skip
  cases h;exact ⟨rfl,.inr fun _=>rfl⟩
 | list e=>
  cases x<;>simp only[fX] at h<;>first|(cases h;done)|skip
  rename_i e' es;cases hb:Nat.beq e e' with
  | false=>grind
  | true=>
   rw[hb] at h;rw[aK] at hb;subst hb;cases h;exact ⟨rfl,.inr fun _=>rfl⟩
 | whole e j=>
  cases x<;>simp only[fX] at h<;>first|(cases h;done)|skip
  rename_i e' id;cases hb:(Nat.beq e e'&&Nat.beq j id) with
  | false=>grind
  | true=>
   rw[hb] at h;simp only[aI,aK] at hb;obtain ⟨rfl,rfl⟩:=hb;cases h;exact ⟨rfl,.inr fun _=>rfl⟩
 | sub e j=>
  cases x<;>simp only[fX] at h<;>first|(cases h;done)|skip
  rename_i e' id o n;cases hb:(Nat.beq e e'&&Nat.beq j id) with
  | false=>grind
  | true=>
   rw[hb] at h;simp only[aI,aK] at hb;obtain ⟨rfl,rfl⟩:=hb;cases h;exact ⟨rfl,.inr fun _=>by simp[ld,V.nth]⟩
 | ptr j=>
  cases x<;>simp only[fX] at h<;>first|(cases h;done)|skip
  rename_i id i c;cases hb:(Nat.beq j id) with
  | false=>grind
  | true=>
   rw[hb] at h;rw[aK] at hb;subst hb;cases h;exact ⟨rfl,.inr fun _=>by simp[ld,V.nth]⟩
 | aC j i c=>
  cases x<;>simp only[fX] at h<;>first|(cases h;done)|skip
  rename_i id i' c';cases hb:(Nat.beq j id&&(Nat.beq i i'&&Nat.beq c c')) with
  | false=>grind
  | true=>
   rw[hb] at h;simp only[aI,aK] at hb;obtain ⟨rfl,rfl,rfl⟩:=hb;cases h;exact ⟨rfl,.inr fun _=>rfl⟩
 | nilS e=>
  cases x<;>simp only[fX] at h<;>first|(cases h;done)|skip
  rename_i e';cases hb:Nat.beq e e' with
  | false=>grind
  | true=>
   rw[hb] at h;rw[aK] at hb;subst hb;cases h;exact ⟨rfl,.inr fun _=>rfl⟩
 | nl e=>
  cases x<;>simp only[fX] at h<;>first|(cases h;done)|skip
  rename_i e' es;cases hb:Nat.beq e e' with
  | false=>grind
  | true=>
   rw[hb] at h;rw[aK] at hb;subst hb;cases h;exact ⟨rfl,.inr fun _=>rfl⟩
 | eB=>
  cases x<;>simp only[fX] at h<;>first|(cases h;done)|skip
  cases h;exact ⟨rfl,.inr fun _=>rfl⟩
 | cO e j=>
  cases x<;>simp only[fX] at h<;>first|(cases h;done)|skip
  rename_i e' id;cases hb:(Nat.beq e e'&&Nat.beq j id) with
  | false=>grind
  | true=>
   rw[hb] at h;simp only[aI,aK] at hb;obtain ⟨rfl,rfl⟩:=hb;cases h;exact ⟨rfl,.inr fun _=>rfl⟩
 | e8 e=>
  cases x<;>simp only[fX] at h<;>first|(cases h;done)|skip
  rename_i e';cases hb:Nat.beq e e' with
  | false=>grind
  | true=>
   rw[hb] at h;rw[aK] at hb;subst hb;cases h;exact ⟨rfl,.inr fun _=>rfl⟩
 | AT k n=>
  cases x<;>simp only[fX] at h<;>first|(cases h;done)|skip
  rename_i k' m;cases hb:(decide (k=k')&&decide (m=n)) with
  | false=>grind
  | true=>
   rw[hb] at h;simp only[aI,jM] at hb;obtain ⟨rfl,rfl⟩:=hb;cases h;exact ⟨rfl,.inr fun _=>rfl⟩
 | IM b=>
  cases x<;>simp only[fX] at h<;>first|(cases h;done)|skip
  rename_i c;cases hb:decide (b=c) with
  | false=>grind
  | true=>
   rw[hb] at h;obtain rfl:=of_decide_eq_true hb;cases h;exact ⟨rfl,.inr fun _=>rfl⟩
 | row e j cs=>
  cases x<;>simp only[fX] at h<;>first|(cases h;done)|skip
  rename_i e' id ver path;cases hb:(Nat.beq e e'&&(Nat.beq j id&&(Nat.beq ver 0&&fX.qC cs (path.map (·.2))))) with
  | false=>grind
  | true=>
   rw[hb] at h;simp only[aI,aK] at hb;obtain ⟨rfl,rfl,rfl,rS⟩:=hb;have:=yR rS;subst this;cases h;exact ⟨by simp[LS.size],.inr fun rest=>by simp only[ld,KF]⟩
 | dD j cs c=>
  cases x<;>simp only[fX] at h<;>first|(cases h;done)|skip
  rename_i id ver path i c';cases hb:(Nat.beq j id&&(Nat.beq ver 0&&(Nat.beq c c'&&fX.qC cs (path.map (·.2))))) with
  | false=>grind
  | true=>
   rw[hb] at h;simp only[aI,aK] at hb;obtain ⟨rfl,rfl,rfl,rS⟩:=hb;have:=yR rS;subst this;cases h;exact ⟨by simp[LS.size],.inr fun rest=>by simp only[ld,List.cons_append,V.nth,YC,Iz,ud,KF]⟩
def LS.below (n:Nat) (x:V):Prop:= ∀id∈fD x,id<n
def YD:V→Prop
 | .agg _=>False
 | .ba _=>False
 | .fn .. =>False
 | .pref .. =>False
 | _=>True
theorem yS {c:Bool} {a d:List V} (h:(bif c then some a else none)=some d):c=true:=by
 grind
theorem ajM {l:LS} {x:V} {ds:List V} {n:Nat} (h:fX l x=some ds) (hl:l≠ .um) (ao:l.ok n=true):YD x∧LS.below n x:=by
 cases l<;>cases x<;>simp only[fX] at h<;>first|(cases h;done)|(exact absurd rfl hl)|skip
 all_goals refine ⟨trivial,fun id ae=> ?_⟩
 all_goals simp only[fD,fu,mj] at ae
 all_goals subst ae
 all_goals simp only[LS.ok,mK] at ao
 all_goals
  have hb:=yS h;simp_all
theorem aj.ajN {v:Value} {x:V} (h:aj P w I β hp v x) (hx:YD x) (hs: ∀id∈fD x,hp' id=hp id∧β' id=β id):aj P w I β' hp' v x:=by
 have one: ∀{id},id∈fD x→hp' id=hp id∧β' id=β id:=fun h=>hs _ h;cases h with
 | undef=>exact .undef
 | int=>exact .int
 | bool=>exact .bool
 | str h=>exact .str h
 | list h=>exact .list h
 | nilS=>exact .nilS
 | nl h h0=>exact .nl h h0
 | agg=>exact hx.elim
 | ba=>exact hx.elim
 | eB=>exact .eB
 | fn=>exact hx.elim
 | pref=>exact hx.elim
 | dX h=>exact .dX ((one (by simp[fD])).1.trans h)
 | jB h=>exact .jB ((one (by simp[fD])).1.trans h)
 | mq h=>exact .mq ((one (by simp[fD])).1.trans h)
 | dS h hb=>exact .dS ((one (by simp[fD])).1.trans h) ((one (by simp[fD])).2.trans hb)
 | whole h hb a b c=>exact .whole ((one (by simp[fD])).1.trans h) ((one (by simp[fD])).2.trans hb) a b c
 | dI h hb a b c=>exact .dI ((one (by simp[fD])).1.trans h) ((one (by simp[fD])).2.trans hb) a b c
 | ee h hb=>exact .ee ((one (by simp[fD])).1.trans h) ((one (by simp[fD])).2.trans hb)
 | fw h hb a b c=>exact .fw ((one (by simp[fD])).1.trans h) ((one (by simp[fD])).2.trans hb) a b c
 | iW h hb=>exact .iW ((one (by simp[fD])).1.trans h) ((one (by simp[fD])).2.trans hb)
 | sub h hb a b c=>exact .sub ((one (by simp[fD])).1.trans h) ((one (by simp[fD])).2.trans hb) a b c
 | ptr h hd hb=>exact .ptr ((one (by simp[fD])).1.trans h) hd ((one (by simp[fD])).2.trans hb)
 | mr h u6=>exact .mr ((one (by simp[fD])).1.trans h) u6
 | mu h u6=>exact .mu ((one (by simp[fD])).1.trans h) u6
 | row h hb a b c d=>exact .row ((one (by simp[fD])).1.trans h) ((one (by simp[fD])).2.trans hb) a b c d
 | dD h hb a b c d e=>exact .dD ((one (by simp[fD])).1.trans h) ((one (by simp[fD])).2.trans hb) a b c d e
 | e8=>exact .e8
 | lj h=>exact .lj ((one (by simp[fD])).1.trans h)
 | cO h hb=>exact .cO ((one (by simp[fD])).1.trans h) ((one (by simp[fD])).2.trans hb)
theorem KH {a b:List V} {n:Nat} (h:a.length=n):(a++b).drop n=b:=by subst h;simp
def Fq (n:Nat) (β:Nat→Option Nat) (hp:Nat→Option ah) (β':Nat→Option Nat) (hp':Nat→Option ah):Prop:= ∀id,id<n→hp' id=hp id∧β' id=β id
theorem YE {l:LS} {x:V} {ds:List V} {n:Nat} {v:Value} (h:fX l x=some ds) (ao:l.ok n=true) (ka:Fq n β hp β' hp') (hv:aj P w I β hp v x) (rest:List V):
  aj P w I β' hp' v (ld l (ds++rest)):=by
 rcases (KG h).2 with e|e
 ·subst e;exact .undef
 ·rw[e rest];by_cases hu:l= .um
  ·subst hu;have:x= .undef:=(e rest).symm;subst this;exact .undef
  ·obtain ⟨h1,h2⟩:=ajM h hu ao;exact hv.ajN h1 fun id ae=>ka id (h2 id ae)
theorem Fs {n:Nat} (ka:Fq n β hp β' hp'): ∀{ls:List LS} {xs:List V} {ds:List V},sM ls xs=some ds→ls.all (LS.ok n)=true→
  ds.length=mQ ls∧(∀rest,(iT ls (ds++rest)).length=xs.length)∧
  ∀(rest:List V) (j:Nat) (v:Value) (y:V),(∀x,xs[j]? =some x→aj P w I β hp v x)→(iT ls (ds++rest))[j]? =some y→aj P w I β' hp' v y
 | [],[],ds,h,_=>by cases h;exact ⟨rfl,fun _=>rfl,fun rest j v y _ hy=>by simp[iT] at hy⟩
 | [],_::_,ds,h,_=>by cases h
 | _::_,[],ds,h,_=>by cases h
 | l::ls,x::xs,ds,h,ao=>by
  simp only[sM] at h;obtain ⟨a,h1,h⟩:=bind_some h;obtain ⟨b,h2,h⟩:=bind_some h;cases h;simp only[List.all_cons,aI] at ao;obtain ⟨i1,i2,i3⟩:=Fs ka h2 ao.2;have dj:=(KG h1).1;have hd: ∀rest,(a++b++rest).drop l.size=b++rest:=fun rest=>by grind
  refine ⟨by simp only[ik,mQ];omega,fun rest=>by simp only[iT,List.length_cons,hd,i2],fun rest j v y hv hy=> ?_⟩;simp only[iT,hd] at hy;cases j with
  | zero=>
   simp at hy;subst hy;exact YE h1 ao.1 ka (hv x rfl) _
  | succ j=>grind
theorem Qr: ∀{ls:List LS} {xs:List V} {ds:List V},sM ls xs=some ds→ls.all LS.plain=true→ds.length=mQ ls∧∀rest,iT ls (ds++rest)=xs
 | [],[],ds,h,_=>by cases h;exact ⟨rfl,fun _=>rfl⟩
 | [],_::_,ds,h,_=>by cases h
 | _::_,[],ds,h,_=>by cases h
 | l::ls,x::xs,ds,h,ao=>by
  simp only[sM] at h;obtain ⟨a,h1,h⟩:=bind_some h;obtain ⟨b,h2,h⟩:=bind_some h;cases h;simp only[List.all_cons,aI] at ao;obtain ⟨i1,i2⟩:=Qr h2 ao.2;obtain ⟨dj,hm⟩:=KG h1;refine ⟨by simp only[ik,mQ];omega,fun rest=> ?_⟩;simp only[iT];rw[show (a++b++rest).drop l.size=b++rest by grind,i2,la];rcases hm with e|e
  ·subst e;cases ao.1
  ·rw[e]
theorem Qs {n:Nat} (ka:Fq n β hp β' hp') {s:VS} {x:V} {ds:List V} (h:sN s x=some ds) (ao:s.ok n=true):
  ds.length=s.size∧∀(rest:List V) (v:Value),aj P w I β hp v x→aj P w I β' hp' v (nJ s (ds++rest)):=by
 cases s with
 | one l=>exact ⟨(KG h).1,fun rest v hv=>YE h ao ka hv rest⟩
 | agg ls=>
  cases x<;>simp only[sN] at h<;>first|(cases h;done)|skip
  rename_i xs;obtain ⟨i1,i2,i3⟩:=Fs (P:=P) (w:=w) (I:=I) ka h ao;refine ⟨i1,fun rest v hv=> ?_⟩;obtain ⟨cs,rfl,e1,e2⟩:=hv.mX;exact .agg (by grind) fun j v y hj hy=>i3 rest j v y (fun x hx=>e2 j v x hj hx) hy
 | ba ls=>
  cases x<;>simp only[sN] at h<;>first|(cases h;done)|skip
  rename_i xs;obtain ⟨i1,i2,i3⟩:=Fs (P:=P) (w:=w) (I:=I) ka h ao;refine ⟨i1,fun rest v hv=> ?_⟩;obtain ⟨cs,rfl,e1,e2⟩:=hv.yc;exact .ba (by grind) fun j v y hj hy=>i3 rest j v y (fun x hx=>e2 j v x hj hx) hy
 | fn f a b=>
  cases x<;>simp only[sN] at h<;>first|(cases h;done)|skip
  rename_i f' xs ys;cases hb:Nat.beq f f' with
  | false=>grind
  | true=>
   rw[hb] at h;rw[aK] at hb;subst hb;simp only[cond_true] at h;obtain ⟨p,h1,h⟩:=bind_some h;obtain ⟨q,h2,h⟩:=bind_some h;cases h;simp only[VS.ok,aI] at ao;obtain ⟨i1,i2,i3⟩:=Fs (P:=P) (w:=w) (I:=I) ka h1 ao.1;obtain ⟨j1,j2,j3⟩:=Fs (P:=P) (w:=w) (I:=I) ka h2 ao.2;refine ⟨by simp only[ik,VS.size];omega,fun rest v hv=> ?_⟩;cases hv with
   | fn a1 a2 b1 b2=>
    simp only[nJ];rw[show (p++q++rest).drop (mQ a)=q++rest by grind,la];exact .fn (by grind) (fun j v y hj hy=>i3 _ j v y (fun x hx=>a2 j v x hj hx) hy) (by grind) (fun j v y hj hy=>j3 _ j v y (fun x hx=>b2 j v x hj hx) hy)
 | pref ts ls=>
  cases x<;>simp only[sN] at h<;>first|(cases h;done)|skip
  rename_i sO xs;cases hb:fX.qC ts sO with
  | false=>grind
  | true=>
   rw[hb] at h;have:=yR hb;subst this;simp only[cond_true] at h;refine ⟨?_,fun rest v hv=> ?_⟩
   ·exact (Qr h ao).1
   ·simp only[nJ];rw[(Qr h ao).2];cases hv with
    | pref hl hI hc=>exact .pref hl hI hc
theorem Ft {n:Nat} (ka:Fq n β hp β' hp'): ∀{ls:List VS} {xs:List V} {ds:List V},uc ls xs=some ds→ls.all (VS.ok n)=true→
  ds.length=wh ls∧(∀rest,(jx ls (ds++rest)).length=xs.length)∧
  ∀(rest:List V) (j:Nat) (v:Value) (y:V),(∀x,xs[j]? =some x→aj P w I β hp v x)→(jx ls (ds++rest))[j]? =some y→aj P w I β' hp' v y
 | [],[],ds,h,_=>by cases h;exact ⟨rfl,fun _=>rfl,fun rest j v y _ hy=>by simp[jx] at hy⟩
 | [],_::_,ds,h,_=>by cases h
 | _::_,[],ds,h,_=>by cases h
 | l::ls,x::xs,ds,h,ao=>by
  simp only[uc] at h;obtain ⟨a,h1,h⟩:=bind_some h;obtain ⟨b,h2,h⟩:=bind_some h;cases h;simp only[List.all_cons,aI] at ao;obtain ⟨i1,i2,i3⟩:=Ft ka h2 ao.2;obtain ⟨dj,u4⟩:=Qs (P:=P) (w:=w) (I:=I) ka h1 ao.1;have hd: ∀rest,(a++b++rest).drop l.size=b++rest:=fun rest=>by grind
  refine ⟨by simp only[ik,wh];omega,fun rest=>by simp only[jx,List.length_cons,hd,i2],fun rest j v y hv hy=> ?_⟩;simp only[jx,hd] at hy;grind
end
section
variable {P:Program} {A:dn} {w w':World} {I I' I2:Nat→Nat→Prop} {μ β β':Nat→Option Nat} {hp hp' hp0:Nat→Option ah} {C:af} {B:Nat} {M:Nat→Prop} {w0:Start}
theorem kL: ∀{l:List ah} {j:Nat},mR l j=l[j]?
 | [],j=>by simp[mR]
 | b::l,0=>rfl
 | b::l,j+1=>by simp only[mR,kL,List.getElem?_cons_succ]
theorem Qt {sl:Nat→V} {k:Nat} {y:V}: ∀{l:List (Nat×VS)} {ds:List V},DU sl l=some ds→(∀p∈l,∀d,sN p.2 (sl p.1)=some d→d.length=p.2.size)→
  ds.length=rD l∧∀rest,fC (iU l (ds++rest)) k=some y→∃s d jW,(k,s)∈l∧sN s (sl k)=some d∧y=nJ s (d++jW)
 | [],ds,h,_=>by cases h;exact ⟨rfl,fun rest h=>by cases h⟩
 | (q,s)::l,ds,h,hz=>by
  simp only[DU] at h;obtain ⟨a,h1,h⟩:=bind_some h;obtain ⟨b,h2,h⟩:=bind_some h;cases h;obtain ⟨i1,i2⟩:=Qt (k:=k) (y:=y) h2 fun p hp=>hz p (nD _ hp);have dj:=hz (q,s) (AN ..) a h1;refine ⟨by simp only[ik,rD];simp only at dj;omega,fun rest hl=> ?_⟩;simp only[iU,fC] at hl;rw[show (a++b++rest).drop s.size=b++rest by rw[la];exact KH dj] at hl;cases hb:Nat.beq k q with
  | true=>
   rw[hb] at hl;rw[aK] at hb;subst hb;cases hl;exact ⟨s,a,b++rest,AN ..,h1,by rw[la]⟩
  | false=>
   rw[hb] at hl;obtain ⟨s',d,jW,m1,m2,m3⟩:=i2 rest hl;exact ⟨s',d,jW,nD _ m1,m2,m3⟩
theorem Qu {α:Type} {c:Bool} {x:Option α} {a:α} (h:(bif c then x else none)=some a):c=true∧x=some a:=by
 cases c with
 | true=>exact ⟨rfl,h⟩
 | false=>cases h
theorem ajO {n:Nat} {b:BS} {o:Option ah} {ds:List V} (h:oe b o=some ds) (ao:b.ok n=true):ds.length=b.size:=by
 cases b with
 | dead=>cases o<;>(cases h;rfl)
 | var T0 ls=>
  cases o with
  | none=>cases h
  | some blk=>
   cases blk<;>simp only[oe] at h<;>first|(cases h;done)|skip
   exact (Ft (P:=default) (w:=default) (I:=fun _ _=>False) (β:=fun _=>none) (hp:=fun _=>none) (fun _ _=>⟨rfl,rfl⟩) (Qu h).2 ao).1
 | arr e fz=>
  cases o with
  | none=>cases h
  | some blk=>
   cases blk<;>simp only[oe] at h<;>first|(cases h;done)|skip
   rw[yS h] at h;cases h;rfl
 | nest e=>
  cases o with
  | none=>cases h
  | some blk=>
   cases blk<;>simp only[oe] at h<;>first|(cases h;done)|skip
   rw[yS h] at h;cases h;rfl
 | map t=>
  cases o with
  | none=>cases h
  | some blk=>
   cases blk<;>simp only[oe] at h<;>first|(cases h;done)|skip
   rw[yS h] at h;cases h;rfl
theorem YF {n:Nat}: ∀{l:List BS} {j:Nat} {ds:List V},DV hp j l=some ds→l.all (BS.ok n)=true→
  (∀rest,(hY l (ds++rest)).length=l.length)∧∀(rest:List V) (i:Nat) (blk:ah),(hY l (ds++rest))[i]? =some blk→∃b d jW,l[i]? =some b∧b.ok n=true∧oe b (hp (j+i))=some d∧blk=iF b (d++jW)
 | [],j,ds,h,_=>by cases h;exact ⟨fun _=>rfl,fun rest i blk hb=>by simp[hY] at hb⟩
 | b::l,j,ds,h,ao=>by
  simp only[DV] at h;obtain ⟨a,h1,h⟩:=bind_some h;obtain ⟨c,h2,h⟩:=bind_some h;cases h;simp only[List.all_cons,aI] at ao;obtain ⟨i1,i2⟩:=YF h2 ao.2;have dj:=ajO h1 ao.1;have hd: ∀rest,(a++c++rest).drop b.size=c++rest:=fun rest=>by rw[la];exact KH dj
  refine ⟨fun rest=>by simp only[hY,List.length_cons,hd,i1],fun rest i blk hb=> ?_⟩;simp only[hY,hd] at hb;cases i with
  | zero=>
   simp at hb;exact ⟨b,a,c++rest,rfl,ao.1,h1,by rw[←hb]⟩
  | succ i=>
   obtain ⟨b',d,jW,m1,m2,m3,m4⟩:=i2 rest i blk (by simpa using hb);exact ⟨b',d,jW,by simpa using m1,m2,by rw[show j+(i+1)=j+1+i by omega];exact m3,m4⟩
theorem ajP {n:Nat} {b:BS} {blk:ah} {ds rest:List V} (h:oe b (some blk)=some ds) (ao:b.ok n=true):
  blk.le (iF b (ds++rest))∧(iF b (ds++rest)= .dead∨iF b (ds++rest)=blk∨∃T ls cs,b= .var T ls∧blk= .var T cs∧uc ls cs=some ds∧iF b (ds++rest)= .var T (jx ls (ds++rest))):=by
 cases b with
 | dead=>exact ⟨by cases blk<;>trivial,.inl rfl⟩
 | var T0 ls=>
  cases blk<;>simp only[oe] at h<;>first|(cases h;done)|skip
  obtain ⟨hT,h0⟩:=Qu h;clear h;rw[aK] at hT;subst hT;exact ⟨rfl,.inr (.inr ⟨_,_,_,rfl,rfl,h0,rfl⟩)⟩
 | arr e fz=>
  cases blk<;>simp only[oe] at h<;>first|(cases h;done)|skip
  rename_i e' es oV;have hb:=yS h;simp only[aI,aK,beq_iff_eq] at hb;obtain ⟨rfl,rfl⟩:=hb;simp only[nF,beq_self_eq_true,Bool.and_self,cond_true,e7] at h;subst h;exact ⟨⟨rfl,rfl⟩,.inr (.inl rfl)⟩
 | nest e=>
  cases blk<;>simp only[oe] at h<;>first|(cases h;done)|skip
  rename_i e' es vers;have hb:=yS h;simp only[aI,aK] at hb;obtain ⟨rfl,hv⟩:=hb;have:=yR hv;subst this;simp only[nF,Bool.true_and] at h;cases h;exact ⟨⟨rfl,rfl,rfl,fun _=>av _⟩,.inr (.inl rfl)⟩
 | map t=>
  cases blk<;>simp only[oe] at h<;>first|(cases h;done)|skip
  rename_i t' es;have hb:=yS h;rw[aK] at hb;subst hb;simp only[nF,cond_true,e7] at h;subst h;exact ⟨rfl,.inr (.inl rfl)⟩
theorem YG {m:Nat} {S:Shape} {st:St} {ds:List V} (h:lS m S st=some ds):
  S.ok=true∧m≤S.cS.length∧∃a b,DU st.sl S.ch=some a∧DV st.hp 0 S.cS=some b∧ds=a++b:=by
 unfold lS at h;cases hc:(S.ok&&Nat.ble m S.cS.length) with
 | false=>rw[hc] at h;cases h
 | true=>
  rw[hc] at h;simp only[cond_true] at h;simp only[aI,fV] at hc;obtain ⟨a,h1,h⟩:=bind_some h;obtain ⟨b,h2,h⟩:=bind_some h;cases h;exact ⟨hc.1,hc.2,a,b,h1,h2,rfl⟩
theorem reshape {m:Nat} {S:Shape} {st:St} {ds:List V} (h:lS m S st=some ds) (hS:ay P w I β st.hp B M w0):
  ay P w I β (bG S ds).hp B M w0∧(∀(k:Nat) (v:Value),aj P w I β st.hp v (st.sl k)→aj P w I β (bG S ds).hp v ((bG S ds).sl k))∧
  (∀(μ:Nat→Option Nat) (hp0:Nat→Option ah),(∀id blk,hp0 id=some blk→id<m)→Le P w0.w w0.I μ hp0 w I β st.hp→Le P w0.w w0.I μ hp0 w I β (bG S ds).hp)∧
  ∀j blk',(bG S ds).hp j=some blk'→blk'≠ .dead→∃blk,st.hp j=some blk∧blk.le blk'∧∀o b,bd P w o blk' b→bd P w o blk b:=by
 obtain ⟨ao,hm,a,b,h1,h2,rfl⟩:=YG h;unfold Shape.ok at ao;rw[aI] at ao;obtain ⟨ov,Yh⟩:=ao;have aZ: ∀p∈S.ch,∀d,sN p.2 (st.sl p.1)=some d→d.length=p.2.size:=fun p hp d hd=>
  (Qs (P:=P) (w:=w) (I:=I) (β:=β) (hp:=st.hp) (fun _ _=>⟨rfl,rfl⟩) hd (gZ.1 ov p hp)).1
 have dj:a.length=rD S.ch:=(Qt (k:=0) (y:= .undef) h1 aZ).1;have Kt:(bG S (a++b)).hp=mR (hY S.cS (b++[])):=by
  simp only[bG,mk,ug];rw[KH dj]
 obtain ⟨bl,bg⟩:=YF h2 Yh;have get: ∀j blk',(bG S (a++b)).hp j=some blk'→j<S.cS.length∧∃bs d jW,bs.ok S.cS.length=true∧oe bs (st.hp j)=some d∧blk'=iF bs (d++jW):=by
  intro j blk' hj;rw[Kt,kL] at hj;obtain ⟨bs,d,jW,m1,m2,m3,m4⟩:=bg [] j blk' hj;rw[dt] at m3;exact ⟨(cu.1 m1).1,bs,d,jW,m2,m3,m4⟩
 have have': ∀j,j<S.cS.length→∃blk',(bG S (a++b)).hp j=some blk':=by
  intro j hj;rw[Kt,kL];exact ⟨_,bU (by rw[bl];exact hj)⟩
 generalize fZ:(bG S (a++b)).hp=yT at*
 let bE:Nat→Option ah:=fun id=>if id<S.cS.length then yT id else st.hp id
 have back: ∀j blk',yT j=some blk'→blk'≠ .dead→∃blk,st.hp j=some blk∧blk.le blk'∧(blk'=blk∨∃T ls cs d jW,ls.all (VS.ok S.cS.length)=true∧blk= .var T cs∧uc ls cs=some d∧blk'= .var T (jx ls (d++jW))):=by
  intro j blk' hj hd;obtain ⟨dh,bs,d,jW,m1,m2,m3⟩:=get j blk' hj;cases dp:st.hp j with
  | none=>
   rw[dp] at m2;cases bs<;>simp only[oe] at m2<;>first|(cases m2;done)|skip
   exact absurd m3 hd
  | some blk=>
   rw[dp] at m2;obtain ⟨n1,n2⟩:=ajP (rest:=jW) m2 m1;rw[←m3] at n1 n2;refine ⟨blk,rfl,n1,?_⟩;rcases n2 with e|e|⟨T,ls,cs,e1,e2,e3,e4⟩
   ·exact absurd e hd
   ·exact .inl e
   ·subst e1;exact .inr ⟨T,ls,cs,d,jW,m1,e2,e3,e4⟩
 have le1: ∀j blk,st.hp j=some blk→j<S.cS.length→∃blk',yT j=some blk'∧blk.le blk':=by
  intro j blk hj dh;obtain ⟨blk',au⟩:=have' j dh;refine ⟨blk',au,?_⟩;by_cases hd:blk'= .dead
  ·subst hd;cases blk<;>trivial
  ·obtain ⟨cz,e1,e2,_⟩:=back j blk' au hd;rw[hj] at e1;cases e1;exact e2
 have ajQ: ∀j e es vers e' aJ vers',st.hp j=some (.nest e es vers)→yT j=some (.nest e' aJ vers')→e'=e∧aJ=es∧vers'=vers:=by
  intro j e es vers e' aJ vers' hj dZ;obtain ⟨blk,e1,_,e3⟩:=back j _ dZ (by simp);rw[hj] at e1;cases e1;rcases e3 with e3|⟨_,_,_,_,_,_,e3,_⟩
  ·cases e3;exact ⟨rfl,rfl,rfl⟩
  ·cases e3
 have hle:Le P w I β st.hp w I β bE:=by
  refine ⟨fun _ _ h=>h,fun _ _ _=>rfl,fun id blk ae=> ?_,fun _ _ _ _ _ _ _ _=>rfl,Le.uE (fun _ _ _ _ _ _=>rfl) fun id e es vers e' aJ vers' ae bR=> ?_⟩
  ·by_cases hl:id<S.cS.length
   ·obtain ⟨blk',e1,e2⟩:=le1 id blk ae hl;exact ⟨blk',by simp only[bE,aE hl];exact e1,e2,fun _=>rfl⟩
   ·exact ⟨blk,by simp only[bE,aF hl];exact ae,ah.le_refl _,fun _=>rfl⟩
  ·by_cases hl:id<S.cS.length
   ·simp only[bE,aE hl] at bR;exact ajQ _ _ _ _ _ _ _ ae bR
   ·simp only[bE,aF hl] at bR;rw[ae] at bR;cases bR;exact ⟨rfl,rfl,rfl⟩
 have ka:Fq S.cS.length β bE β yT:=fun id ae=>⟨by simp only[bE,aE ae],rfl⟩
 have rQ: ∀j blk' blk o b,yT j=some blk'→st.hp j=some blk→bd P w o blk' b→bd P w o blk b:=by
  intro j blk' blk o b dZ hj ho;obtain ⟨cz,e1,_,e3⟩:=back j blk' dZ ho.alive;rw[hj] at e1;cases e1;rcases e3 with e3|⟨T,ls,cs,d,jW,_,e3,_,e5⟩
  ·subst e3;exact ho
  ·subst e3;subst e5;exact .root (by simp) (ho.flat (by simp))
 refine ⟨⟨⟨fun j blk' hj=> ?_,fun j1 j2 b1 b2 b' e1 e2 o1 o2=> ?_,fun j blk b' hj ho=> ?_,hS.h.jR⟩,hS.cH,hS.size,hS.new,hS.io⟩,fun k v hv=> ?_,fun μ hp0 aY hE=> ?_,fun j blk' hj hd=> ?_⟩
 ·by_cases hd:blk'= .dead
  ·subst hd;exact .dead
  ·obtain ⟨blk,e1,_,e3⟩:=back j blk' hj hd;have hr:=hS.h.rel j blk e1;generalize β j=o at hr;rcases e3 with e3|⟨T0,ls,cs,d,jW,q1,e3,e4,e5⟩
   ·subst e3;cases hr with
    | @var xs b' Ca T hb hh hs dd hx iH=>
     obtain ⟨dh,bs,d,jW,m1,m2,m3⟩:=get j _ hj;rw[e1] at m2;cases bs<;>simp only[oe] at m2<;>first|(cases m2;done)|skip
     ·rename_i T0 ls;simp only[iF] at m3;obtain ⟨hT,m2⟩:=Qu m2;obtain ⟨i1,i2,i3⟩:=Ft (P:=P) (w:=w) (I:=I) ka m2 m1;injection m3 with m4 m3;rw[m3];exact .var hb hh (by rw[i2];exact hs) dd (fun i v y hi hy=>i3 jW i v y (fun x c7=>(hx i v x hi c7).mono hle) hy) iH
     ·simp only[iF] at m3;cases m3
    | eA hb=>exact .eA hb
    | arr a0 a1 a2 a3 a4 a5 a6 a7=>exact .arr a0 a1 a2 a3 a4 a5 a6 a7
    | dead=>exact absurd rfl hd
    | nest a1 a2 a3=>exact .nest a1 a2 a3
    | iX a1=>exact .iX a1
    | out a1 a2 a3 a4 a5 a6 a7 a8 a9 a10=>exact .out a1 a2 a3 a4 a5 a6 a7 a8 a9 a10
    | map a1 a2 a3 a4 a5 a6 a7=>exact .map a1 a2 a3 a4 a5 a6 a7
   ·subst e3;subst e5;cases hr with
    | @var xs b' Ca T hb hh hs dd hx iH=>
     obtain ⟨i1,i2,i3⟩:=Ft (P:=P) (w:=w) (I:=I) ka e4 q1;exact .var hb hh (by rw[i2];exact hs) dd (fun i v y hi hy=>i3 jW i v y (fun x c7=>(hx i v x hi c7).mono hle) hy) iH
 ·obtain ⟨c1,x1,_,_⟩:=back j1 b1 e1 o1.alive;obtain ⟨c2,x2,_,_⟩:=back j2 b2 e2 o2.alive;exact hS.h.inj j1 j2 c1 c2 b' x1 x2 (rQ _ _ _ _ _ e1 x1 o1) (rQ _ _ _ _ _ e2 x2 o2)
 ·obtain ⟨c1,x1,_,_⟩:=back j blk hj ho.alive;exact hS.h.own j c1 b' x1 (rQ _ _ _ _ _ hj x1 ho)
 ·change aj P w I β yT v (mo (iU S.ch (a++b)) k);unfold mo;cases EZ:fC (iU S.ch (a++b)) k with
  | none=>exact .undef
  | some y=>
   obtain ⟨s,d,jW,n1,n2,n3⟩:=(Qt h1 aZ).2 b EZ;simp only[Option.getD_some,n3];exact (Qs (P:=P) (w:=w) (I:=I) ka n2 (gZ.1 ov _ n1)).2 jW v (hv.mono hle)
 ·have h3:=hE.trans hle;refine ⟨h3.ej,h3.cH,fun id blk ae=> ?_,fun id blk blk' b' ae bR hd hb=> ?_,fun id e es vers e' aJ vers' b2 q i c t v e1 l ae bR=> ?_⟩
  ·have hl:=aY id blk ae;obtain ⟨blk',k1,k2,k3⟩:=h3.blk id blk ae;simp only[bE,aE (show id<S.cS.length by omega)] at k1;exact ⟨blk',k1,k2,k3⟩
  ·have hl:=aY id blk ae;exact h3.size id blk blk' b' ae (by simp only[bE,aE (show id<S.cS.length by omega)];exact bR) hd hb
  ·have hl:=aY id _ ae;exact h3.row id e es vers e' aJ vers' b2 q i c t v e1 l ae (by simp only[bE,aE (show id<S.cS.length by omega)];exact bR)
 ·obtain ⟨blk,e1,e2,_⟩:=back j blk' hj hd;exact ⟨blk,e1,e2,fun o b' ho=>rQ _ _ _ _ _ hj e1 ho⟩
end
section
variable {P:Program} {A:dn} {w w':World} {I I' I2:Nat→Nat→Prop} {μ β β':Nat→Option Nat} {hp hp' hp0:Nat→Option ah} {C:af} {B:Nat} {M:Nat→Prop} {w0:Start}
inductive gh (P:Program) (w:World) (β:Nat→Option Nat) (hp:Nat→Option ah):Place→Option Nat→ah→Prop
 | var {id:Nat} {T:TypeId} {cs Qv:List V}:hp id=some (.var T cs)→gh P w β hp (.blk id) (β id) (.var T Qv)
 | arr {id:Nat} {e:TypeId} {es:List V} {fz:Bool}:hp id=some (.arr e es fz)→gh P w β hp (.blk id) (β id) (.arr e es fz)
 | nest {id:Nat} {e:TypeId} {es:List V} {vers:List Nat}:hp id=some (.nest e es vers)→gh P w β hp (.blk id) (β id) (.nest e es [0,0,0])
 | row {id ver b b':Nat} {path:Path} {e0 e':TypeId} {es l:List V} {vers:List Nat}:hp id=some (.nest e0 es vers)→β id=some b→At P w b e0 es path b' e' l→DT P e'=true→
   0<path.length→path.length≤vers.length→bt vers (path.length-1)=ver→0<l.length→gh P w β hp (.row id ver path) (some b') (.arr e' l false)
 | map {id:Nat} {t:TypeId} {es:List V}:hp id=some (.map t es)→gh P w β hp (.blk id) (β id) (.map t es)
def Fu (P:Program) (w:World) (β:Nat→Option Nat) (hp:Nat→Option ah) (ρ:List Place) (μ:Nat→Option Nat) (hp0:Nat→Option ah):Prop:=
 ∀j p,gn ρ j=some p→∃blk,hp0 j=some blk∧gh P w β hp p (μ j) blk
theorem sh: ∀{l m:List Place} {j:Nat} {p:Place},gn l j=some p→gn (l++m) j=some p
 | [],m,j,p,h=>by cases h
 | a::l,m,0,p,h=>h
 | a::l,m,j+1,p,h=>sh (l:=l) h
theorem pf: ∀{l:List Place} {j:Nat},gn l j=l[j]?
 | [],j=>by simp[gn]
 | a::l,0=>rfl
 | a::l,j+1=>by simp only[gn,pf,List.getElem?_cons_succ]
def ajR (hp:Nat→Option ah) (q:Nat×ah):Prop:=Ba hp q∨∃T cs,q.2= .var T cs∧hp q.1=some (.var T cs)
structure Ext (P:Program) (w:World) (I:Nat→Nat→Prop) (β:Nat→Option Nat) (hp:Nat→Option ah) (h h':Hand) (d:List V) (u:List (Nat×ah)):Prop where
 ds:h'.ds=h.ds++d
 upd:h'.upd=h.upd++u
 KI: ∀q∈u,ajR hp q
 pl: ∃m,h'.pl=h.pl++m
 nodup:(h.pl.map Place.id).Nodup→(h'.pl.map Place.id).Nodup
theorem Ext.refl (h:Hand):Ext P w I β hp h h [] []:=⟨by simp,by simp,by simp,⟨[],by simp⟩,id⟩
theorem Ext.trans {h1 h2 h3:Hand} {d1 d2:List V} {u1 u2:List (Nat×ah)} (a:Ext P w I β hp h1 h2 d1 u1) (b:Ext P w I β hp h2 h3 d2 u2):Ext P w I β hp h1 h3 (d1++d2) (u1++u2):=by
 obtain ⟨m1,e1⟩:=a.pl;obtain ⟨m2,e2⟩:=b.pl;exact ⟨by rw[b.ds,a.ds,la],by rw[b.upd,a.upd,la],fun q hq=>(eF.1 hq).elim (a.KI q) (b.KI q),⟨m1++m2,by rw[e2,e1,la]⟩,fun h=>b.nodup (a.nodup h)⟩
theorem Ext.look {h h':Hand} {d:List V} {u:List (Nat×ah)} (a:Ext P w I β hp h h' d u) {j:Nat} {p:Place} (hj:gn h.pl j=some p):gn h'.pl j=some p:=by
 obtain ⟨m,e⟩:=a.pl;rw[e];exact sh hj
theorem Ext.leaf (h:Hand) (x:V):Ext P w I β hp h {h with ds:=h.ds++[x]} [x] []:=⟨rfl,by simp,by simp,⟨[],by simp⟩,id⟩
theorem ajS {α:Type} {ρ:List Place} {j:Nat} {p:Place} {k:List Place→Rd α} {r:α} {rd:List Nat} (h:(unify ρ j p k).run C hp=some (r,rd)) (hb: ∃id,p= .blk id∨∃ver path,p= .row id ver path):
  ∃nn,(k nn).run C hp=some (r,rd)∧(∃m,nn=ρ++m)∧gn nn j=some p∧((ρ.map Place.id).Nodup→(nn.map Place.id).Nodup):=by
 unfold unify at h;cases hc:Nat.blt j ρ.length with
 | true=>
  rw[hc] at h;obtain ⟨h1,h2⟩:=az h;refine ⟨ρ,h2,⟨[],by simp⟩,?_,id⟩;unfold VP at h1;split at h1
  ·rename_i a b he;rw[aK] at h1;subst h1;exact he
  ·cases h1
 | false=>
  rw[hc] at h;obtain ⟨h1,h2⟩:=az h;simp only[aI,aK,mL] at h1;obtain ⟨rfl,h3⟩:=h1;refine ⟨ρ++[p],h2,⟨[p],rfl⟩,?_,fun hn=> ?_⟩
  ·rw[pf];simp
  ·rw[uh,DI];refine ⟨hn,by simp,fun a ha b hb=> ?_⟩;simp only[kY,List.map_nil,fu] at hb;subst hb;intro e;subst e;rw[yh ha] at h3;cases h3
theorem yU {α:Type} {h:Hand} {j:Nat} {p:Place} {k:List Place→Rd α} {r:α} {rd:List Nat} (hr:(unify h.pl j p k).run C hp=some (r,rd)) (ds:List V):
  ∃nn,(k nn).run C hp=some (r,rd)∧gn nn j=some p∧Ext P w I β hp h {h with pl:=nn,ds:=h.ds++ds} ds []:=by
 obtain ⟨nn,a,b,c,d⟩:=ajS hr (by cases p with|blk id=>exact ⟨id,.inl rfl⟩|row id ver path=>exact ⟨id,.inr ⟨ver,path,rfl⟩⟩);exact ⟨nn,a,c,⟨rfl,by simp,by simp,b,d⟩⟩
theorem ajT {o:Option Nat} {blk:ah} {e:TypeId} {id j:Nat} {v:Value} (hv:aj P w I β hp v (.whole e id)) (hl:gh P w β hp (.blk id) o blk) (hj:hp0 j=some blk) (mF:μ j=o):aj P w I' μ hp0 v (.whole e j):=by
 cases hl with
 | var h=>
  cases hv with
  | dX h2=>rw[h] at h2;cases h2
  | dS h2=>rw[h] at h2;cases h2
  | whole h2=>rw[h] at h2;cases h2
  | dI h2=>rw[h] at h2;cases h2
  | ee h2=>rw[h] at h2;cases h2
  | fw h2=>rw[h] at h2;cases h2
 | arr h=>
  cases hv with
  | dX h2=>rw[h] at h2;cases h2
  | dS h2 hb=>rw[h] at h2;cases h2;exact .dS hj (mF.trans hb)
  | whole h2 hb a b c=>rw[h] at h2;cases h2;exact .whole hj (mF.trans hb) a b c
  | dI h2=>rw[h] at h2;cases h2
  | ee h2=>rw[h] at h2;cases h2
  | fw h2=>rw[h] at h2;cases h2
 | nest h=>
  cases hv with
  | dX h2=>rw[h] at h2;cases h2
  | dS h2=>rw[h] at h2;cases h2
  | whole h2=>rw[h] at h2;cases h2
  | dI h2 hb a b c=>rw[h] at h2;cases h2;exact .dI hj (mF.trans hb) a b c
  | ee h2 hb=>rw[h] at h2;cases h2;exact .ee hj (mF.trans hb)
  | fw h2=>rw[h] at h2;cases h2
 | map h=>
  cases hv with
  | dX h2=>rw[h] at h2;cases h2
  | dS h2=>rw[h] at h2;cases h2
  | whole h2=>rw[h] at h2;cases h2
  | dI h2=>rw[h] at h2;cases h2
  | ee h2=>rw[h] at h2;cases h2
  | fw h2=>rw[h] at h2;cases h2
theorem ajU {o:Option Nat} {blk:ah} {t:TypeId} {id j:Nat} {v:Value} (hv:aj P w I β hp v (.cO t id)) (hl:gh P w β hp (.blk id) o blk) (hj:hp0 j=some blk) (mF:μ j=o):aj P w I' μ hp0 v (.cO t j):=by
 cases hv with
 | lj h2=>cases hl<;>(rename_i h;rw[h] at h2;cases h2)
 | cO h2 hb=>
  cases hl<;>(rename_i h;rw[h] at h2;cases h2)
  exact .cO hj (mF.trans hb)
theorem ajV {o:Option Nat} {blk:ah} {e:TypeId} {id off n j:Nat} {v:Value} (hv:aj P w I β hp v (.sub e id off n)) (hl:gh P w β hp (.blk id) o blk) (hj:hp0 j=some blk) (mF:μ j=o):aj P w I' μ hp0 v (.sub e j off n):=by
 cases hl with
 | var h=>
  cases hv with
  | jB h2=>rw[h] at h2;cases h2
  | iW h2=>rw[h] at h2;cases h2
  | sub h2=>rw[h] at h2;cases h2
 | arr h=>
  cases hv with
  | jB h2=>rw[h] at h2;cases h2
  | iW h2 hb=>rw[h] at h2;cases h2;exact .iW hj (mF.trans hb)
  | sub h2 hb a b c=>rw[h] at h2;cases h2;exact .sub hj (mF.trans hb) a b c
 | nest h=>
  cases hv with
  | jB h2=>rw[h] at h2;cases h2
  | iW h2=>rw[h] at h2;cases h2
  | sub h2=>rw[h] at h2;cases h2
 | map h=>
  cases hv with
  | jB h2=>rw[h] at h2;cases h2
  | iW h2=>rw[h] at h2;cases h2
  | sub h2=>rw[h] at h2;cases h2
theorem YH {o:Option Nat} {blk:ah} {id i c j:Nat} {v:Value} (hv:aj P w I β hp v (.ptr id i c)) (hl:gh P w β hp (.blk id) o blk) (hj:hp0 j=some blk) (mF:μ j=o):aj P w I' μ hp0 v (.ptr j i c):=by
 cases hl with
 | @var _ T0 cs Qv h=>
  obtain ⟨b,hb,rfl⟩:=hv.iZ h (by simp);exact aj.ptr (blk:= .var T0 Qv) hj (by simp) (mF.trans hb)
 | @arr _ e es fz h=>
  obtain ⟨b,hb,rfl⟩:=hv.iZ h (by simp);exact aj.ptr (blk:= .arr e es fz) hj (by simp) (mF.trans hb)
 | @nest _ e es vers h=>
  obtain ⟨b,hb,rfl⟩:=hv.iZ h (by simp);exact aj.ptr (blk:= .nest e es [0,0,0]) hj (by simp) (mF.trans hb)
 | @map _ t es h=>
  obtain ⟨b,hb,rfl⟩:=hv.iZ h (by simp);exact aj.ptr (blk:= .map t es) hj (by simp) (mF.trans hb)
theorem ajW (cL: ∀id blk,hp id=some blk→eV P w I β hp (β id) blk) {id b i c:Nat} {e0 t:TypeId} {es l:List V} {vers:List Nat} {q:Path} {e:TypeId} {v:Value} (ae:hp id=some (.nest e0 es vers)) (hb:β id=some b)
  (ht:P.underlying t=some (.slice e)) (hc:pQ P w b e0 es q i c t v (.list e l)) (hl:0<l.length): ∃b1 cap,v= .slice (some ⟨b1,0,none⟩) l.length cap∧cap*P.cellsOf e=bsize w b1∧l.length≤cap∧cap≤maxLen∧At P w b e0 es (q++[(i,c)]) b1 e l:=by
 obtain ⟨b2,e1,m,Ca,T,f,x,n1,n2,n3,n4,n5,n6⟩:=hc;have hr:=cL _ _ ae;cases hr with
 | iX au=>rw[hb] at au;cases au
 | nest au hr hn=>
  rw[hb] at au;cases au;have hR:=hr _ _ _ _ n1;obtain ⟨ya,_,c1,_,c2,c3⟩:=hR.cells;rw[n2] at c1;cases c1;have yb:c<P.cellsOf e1:=by rw[←fx hR.ok];exact (cu.1 n4).1
  obtain ⟨v',d1,d2⟩:=c3 i c x t n3 n4 yb;rw[n6] at d1;cases d1;rw[n5] at d2;generalize hy:V.list e l=y at d2;cases d2 with
  | gq a p=>unfold dV at a;rw[ht] at a;cases a
  | emp hu=>cases hy;simp at hl
  | row hu my aZ bK rN=>
   cases hy;exact ⟨_,_,rfl,aZ,bK,rN,n1.snoc n2 n3 n4 ht n5 my n6⟩
theorem ajX (S:ay P w I β hp B M w0) {o:Option Nat} {blk:ah} {e:TypeId} {id ver j:Nat} {path:Path} {v:Value} (hv:aj P w I β hp v (.row e id ver path)) (hl:gh P w β hp (.row id ver path) o blk) (hj:hp0 j=some blk) (mF:μ j=o):aj P w I' μ hp0 v (.whole e j):=by
 cases hl with
 | row h hb ha hf h1 h2 h3 h4=>
  obtain ⟨b2,q,i,c,t,l2,rfl,fb,ht,hc⟩:=hv.OF h h1 h2 h3;rw[hb] at fb;cases fb;obtain ⟨p1,p2⟩:=OG ha;have fY:=hc;obtain ⟨b3,e3,m3,Ca,T,f,x,n1,n2,n3,n4,n5,n6⟩:=fY;obtain ⟨q1,q2⟩:=Jn n1 n3 n4 ht n5;rw[p1] at q1;rw[p2] at q2;cases q1;cases q2;obtain ⟨b1,cap,rfl,m1,m2,m4,m5⟩:=ajW S.h.rel h hb ht hc h4;have:=ajY ha m5;subst this;exact .whole hj mF m1 m2 m4
where
 ajY {b b1 b2:Nat} {e e1 e2:TypeId} {es l l2:List V} {q:Path} (h:At P w b e es q b1 e1 l) (h2:At P w b e es q b2 e2 l2):b2=b1:=(h.fun h2).1
theorem YI (S:ay P w I β hp B M w0) {α:Type} {l:LS} {x:V} {h:Hand} {k:Hand→Rd α} {r:α} {rd:List Nat} {v:Value} (hr:(I9 P l x h k).run C hp=some (r,rd)) (hv:aj P w I β hp v x):
  ∃h' gO d u,(k h').run C hp=some (r,gO)∧Ext P w I β hp h h' d u∧d.length=l.size∧
   ∀(I':Nat→Nat→Prop) (μ:Nat→Option Nat) (hp0:Nat→Option ah),(∀b j,I b j→I' b j)→(∀q∈u,∀b j,wy P w β hp q.1 b j→I' b j)→∀ρ m,ρ=h'.pl++m→Fu P w β hp ρ μ hp0→∀rest,aj P w I' μ hp0 v (ld l (d++rest)):=by
 have plain: ∀{x':V} {jH:List Nat},(k {h with ds:=h.ds++[x']}).run C hp=some (r,jH)→l.size=1→(∀I' μ hp0 rest,aj P w I' μ hp0 v (ld l ([x']++rest)))→∃h' gO d u,(k h').run C hp=some (r,gO)∧Ext P w I β hp h h' d u∧d.length=l.size∧
   ∀(I':Nat→Nat→Prop) (μ:Nat→Option Nat) (hp0:Nat→Option ah),(∀b j,I b j→I' b j)→(∀q∈u,∀b j,wy P w β hp q.1 b j→I' b j)→∀ρ m,ρ=h'.pl++m→Fu P w β hp ρ μ hp0→∀rest,aj P w I' μ hp0 v (ld l (d++rest)):=
  fun hk hs hx=>⟨_,_,_,_,hk,Ext.leaf h _,hs.symm,fun I' μ hp0 _ _ _ _ _ _ rest=>hx I' μ hp0 rest⟩
 have tp: ∀{jH:List Nat},(k h).run C hp=some (r,jH)→l.size=0→(∀I' μ hp0 rest,aj P w I' μ hp0 v (ld l rest))→∃h' gO d u,(k h').run C hp=some (r,gO)∧Ext P w I β hp h h' d u∧d.length=l.size∧
   ∀(I':Nat→Nat→Prop) (μ:Nat→Option Nat) (hp0:Nat→Option ah),(∀b j,I b j→I' b j)→(∀q∈u,∀b j,wy P w β hp q.1 b j→I' b j)→∀ρ m,ρ=h'.pl++m→Fu P w β hp ρ μ hp0→∀rest,aj P w I' μ hp0 v (ld l (d++rest)):=
  fun hk hs hx=>⟨_,_,_,_,hk,Ext.refl h,by simp[hs],fun I' μ hp0 _ _ _ _ _ _ rest=>hx I' μ hp0 rest⟩
 unfold I9 at hr;cases l with
 | um=>exact tp hr rfl fun _ _ _ _=> .undef
 | int kd=>
  cases x<;>simp only at hr<;>first|(cases hr;done)|skip
  obtain ⟨h1,h2⟩:=az hr;simp only[jM] at h1;subst h1;obtain rfl:=hv.fM;exact plain h2 rfl fun _ _ _ _=> .int
 | bool=>
  cases x<;>simp only at hr<;>first|(cases hr;done)|skip
  obtain rfl:=hv.mW;exact plain hr rfl fun _ _ _ _=> .bool
 | str=>
  cases x<;>simp only at hr<;>first|(cases hr;done)|skip
  obtain ⟨s,rfl,hl⟩:=hv.oh;exact plain hr rfl fun _ _ _ _=> .str hl
 | nilS e=>
  cases x<;>simp only at hr<;>first|(cases hr;done)|skip
  obtain ⟨h1,h2⟩:=az hr;cases hv with
  | nilS=>exact tp h2 rfl fun _ _ _ _=> .nilS
 | nl e=>
  cases x<;>simp only at hr<;>first|(cases hr;done)|skip
  obtain ⟨h1,h2⟩:=az hr;rw[aK] at h1;subst h1;cases hv with
  | nl a b=>exact ⟨_,_,_,_,h2,Ext.leaf h _,rfl,fun I' μ hp0 hI _ _ _ _ _ rest=> .nl (a.mono hI (fun _ _ _=>rfl)) b⟩
 | eB=>
  cases x<;>simp only at hr<;>first|(cases hr;done)|skip
  cases hv with
  | eB=>exact tp hr rfl fun _ _ _ _=> .eB
 | row e j cs=>
  cases x<;>simp only at hr<;>first|(cases hr;done)|skip
  rename_i e' id ver path;obtain ⟨e0,es,vers,l0,ae,p1,p2,p3,hr⟩:=qG hr;obtain ⟨h1,h2⟩:=az hr;simp only[aI,aK,fV] at h1;obtain ⟨rfl,rS,hp3⟩:=h1;have:=yR rS;subst this;obtain ⟨nn,a,b,c⟩:=yU (P:=P) (w:=w) (I:=I) (β:=β) h2 (path.map fun p=>fv p.1);refine ⟨_,_,path.map fun p=>fv p.1,[],a,c,by simp[LS.size],fun I' μ hp0 i1 i2 ρ m ey cE rest=> ?_⟩;obtain ⟨blk,k1,k2⟩:=cE j _ (by rw[ey];exact sh b);obtain ⟨bb,q,i,cc,t,l,rfl,hb,ht,hc⟩:=hv.OF ae p1 p2 p3;have rP:blk= .nest e0 es [0,0,0]∧μ j=β id:=by
   generalize μ j=o at k2;cases k2 with
   | var h=>rw[ae] at h;cases h
   | arr h=>rw[ae] at h;cases h
   | map h=>rw[ae] at h;cases h
   | nest h=>rw[ae] at h;cases h;exact ⟨rfl,rfl⟩
  obtain ⟨rfl,mF⟩:=rP;simp only[ld,KF];have hq:q.length<3:=by rw[ik,List.length_singleton] at hp3;omega
  refine .row k1 (mF.trans hb) (by simpa using hq) ?_ ht hc
  match q.length,hq with
  | 0,_=>rfl
  | 1,_=>rfl
  | 2,_=>rfl
 | dD j cs c=>cases hr
 | AT k n=>cases hr
 | IM b=>cases hr
 | e8 t=>
  cases x<;>simp only at hr<;>first|(cases hr;done)|skip
  obtain ⟨h1,h2⟩:=az hr;cases hv with
  | e8=>exact tp h2 rfl fun _ _ _ _=> .e8
 | cO t j=>
  cases x<;>simp only at hr<;>first|(cases hr;done)|skip
  rename_i t' id;obtain ⟨h1,h2⟩:=az hr;rw[aK] at h1;subst h1;obtain ⟨nn,a,b,c⟩:=yU (P:=P) (w:=w) (I:=I) (β:=β) h2 [];refine ⟨_,_,[],[],a,by simpa using c,rfl,fun I' μ hp0 i1 i2 ρ m ey cE rest=> ?_⟩;obtain ⟨blk,k1,k2⟩:=cE j _ (by rw[ey];exact sh b);exact ajU hv k2 k1 rfl
 | list e=>
  obtain ⟨⟨y,u⟩,l1,l2,h1,h2⟩:=nP hr;cases y<;>simp only at h2<;>first|(cases h2;done)|skip
  rename_i e' es;obtain ⟨h3,h4⟩:=az h2;rw[aK] at h3;subst h3;obtain ⟨p1,p2⟩:=Eg S.h.rel h1 hv;exact ⟨_,_,[.list e es],u,h4,⟨rfl,rfl,fun q hq=> .inl (p1 q hq),⟨[],by simp⟩,id⟩,rfl,fun I' μ hp0 i1 i2 _ _ _ _ rest=> .list (p2 I' i1 i2)⟩
 | whole e j=>
  cases x<;>simp only at hr<;>first|(cases hr;done)|skip
  ·rename_i e' id;obtain ⟨h1,h2⟩:=az hr;rw[aK] at h1;subst h1;obtain ⟨nn,a,b,c⟩:=yU (P:=P) (w:=w) (I:=I) (β:=β) h2 [];refine ⟨_,_,[],[],a,by simpa using c,rfl,fun I' μ hp0 i1 i2 ρ m ey cE rest=> ?_⟩;obtain ⟨blk,k1,k2⟩:=cE j _ (by rw[ey];exact sh b);exact ajT hv k2 k1 rfl
  ·rename_i e' id ver path;obtain ⟨h1,h2⟩:=az hr;rw[aK] at h1;subst h1;obtain ⟨nn,a,b,c⟩:=yU (P:=P) (w:=w) (I:=I) (β:=β) h2 [];refine ⟨_,_,[],[],a,by simpa using c,rfl,fun I' μ hp0 i1 i2 ρ m ey cE rest=> ?_⟩;obtain ⟨blk,k1,k2⟩:=cE j _ (by rw[ey];exact sh b);exact ajX S hv k2 k1 rfl
 | sub e j=>
  cases x<;>simp only at hr<;>first|(cases hr;done)|skip
  rename_i e' id o n;obtain ⟨h1,h2⟩:=az hr;rw[aK] at h1;subst h1;obtain ⟨nn,a,b,c⟩:=yU (P:=P) (w:=w) (I:=I) (β:=β) h2 [fv o,fv n];refine ⟨_,_,[fv o,fv n],[],a,c,rfl,fun I' μ hp0 i1 i2 ρ m ey cE rest=> ?_⟩;obtain ⟨blk,k1,k2⟩:=cE j _ (by rw[ey];exact sh b);simpa[ld,V.nth] using ajV (I':=I') hv k2 k1 rfl
 | ptr j=>
  cases x<;>simp only at hr<;>first|(cases hr;done)|skip
  rename_i id i c;obtain ⟨nn,a,b,c'⟩:=yU (P:=P) (w:=w) (I:=I) (β:=β) hr [fv i,fv c];refine ⟨_,_,[fv i,fv c],[],a,c',rfl,fun I' μ hp0 i1 i2 ρ m ey cE rest=> ?_⟩;obtain ⟨blk,k1,k2⟩:=cE j _ (by rw[ey];exact sh b);simpa[ld,V.nth] using YH (I':=I') hv k2 k1 rfl
 | aC j i c=>
  cases x<;>simp only at hr<;>first|(cases hr;done)|skip
  rename_i id i' c';obtain ⟨h1,h2⟩:=az hr;simp only[aI,aK] at h1;obtain ⟨rfl,rfl⟩:=h1;obtain ⟨nn,a,b,c'⟩:=yU (P:=P) (w:=w) (I:=I) (β:=β) h2 [];refine ⟨_,_,[],[],a,by simpa using c',rfl,fun I' μ hp0 i1 i2 ρ m ey cE rest=> ?_⟩;obtain ⟨blk,k1,k2⟩:=cE j _ (by rw[ey];exact sh b);exact YH hv k2 k1 rfl
end
section
variable {P:Program} {A:dn} {w w':World} {I I' I2:Nat→Nat→Prop} {μ β β':Nat→Option Nat} {hp hp' hp0:Nat→Option ah} {C:af} {B:Nat} {M:Nat→Prop} {w0:Start}
def pg (P:Program) (w:World) (I:Nat→Nat→Prop) (β:Nat→Option Nat) (hp:Nat→Option ah) (h':Hand) (u:List (Nat×ah)) (K:(Nat→Nat→Prop)→(Nat→Option Nat)→(Nat→Option ah)→Prop):Prop:=
 ∀(I':Nat→Nat→Prop) (μ:Nat→Option Nat) (hp0:Nat→Option ah),(∀b j,I b j→I' b j)→(∀q∈u,∀b j,wy P w β hp q.1 b j→I' b j)→∀ρ m,ρ=h'.pl++m→Fu P w β hp ρ μ hp0→K I' μ hp0
theorem pg.later {h h':Hand} {d:List V} {u u':List (Nat×ah)} {K:(Nat→Nat→Prop)→(Nat→Option Nat)→(Nat→Option ah)→Prop} (t:pg P w I β hp h u K) (e:Ext P w I β hp h h' d u'):pg P w I β hp h' (u++u') K:=by
 obtain ⟨m1,e1⟩:=e.pl;exact fun I' μ hp0 i1 i2 ρ m ey cE=>t I' μ hp0 i1 (fun q hq=>i2 q (eF.2 (.inl hq))) ρ (m1++m) (by grind) cE
theorem pg.more {h:Hand} {u u':List (Nat×ah)} {K:(Nat→Nat→Prop)→(Nat→Option Nat)→(Nat→Option ah)→Prop} (t:pg P w I β hp h u K):pg P w I β hp h (u'++u) K:=
 fun I' μ hp0 i1 i2 ρ m ey cE=>t I' μ hp0 i1 (fun q hq=>i2 q (eF.2 (.inr hq))) ρ m ey cE
theorem Fv (S:ay P w I β hp B M w0) {α:Type}: ∀{ls:List LS} {xs:List V} {h:Hand} {k:Hand→Rd α} {r:α} {rd:List Nat} {vs:List Value},(uv P ls xs h k).run C hp=some (r,rd)→vs.length=xs.length→
  (∀(j:Nat) v x,vs[j]? =some v→xs[j]? =some x→aj P w I β hp v x)→
  ∃h' gO d u,(k h').run C hp=some (r,gO)∧Ext P w I β hp h h' d u∧d.length=mQ ls∧ls.length=xs.length∧
   pg P w I β hp h' u fun I' μ hp0=> ∀rest,(iT ls (d++rest)).length=xs.length∧∀(j:Nat) v y,vs[j]? =some v→(iT ls (d++rest))[j]? =some y→aj P w I' μ hp0 v y
 | [],[],h,k,r,rd,vs,hr,hl,hv=>⟨h,rd,[],[],hr,Ext.refl h,rfl,rfl,fun I' μ hp0 _ _ _ _ _ _ rest=>⟨rfl,fun j v y _ hy=>by grind⟩⟩
 | [],_::_,h,k,r,rd,vs,hr,hl,hv=>by cases hr
 | _::_,[],h,k,r,rd,vs,hr,hl,hv=>by cases hr
 | l::ls,x::xs,h,k,r,rd,vs,hr,hl,hv=>by
  cases vs with
  | nil=>simp at hl
  | cons v vs=>
   simp only[uv] at hr;obtain ⟨h1,jH,d1,u1,a1,a2,a3,a4⟩:=YI S hr (hv 0 v x rfl rfl);obtain ⟨h2,w8,d2,u2,b1,b2,b3,b5,b4⟩:=Fv S a1 (by grind) (vs:=vs) (fun j v x hj hx=>hv (j+1) v x (by grind) (by grind));have a4':pg P w I β hp h1 u1 fun I' μ hp0=> ∀rest,aj P w I' μ hp0 v (ld l (d1++rest)):=a4;refine ⟨h2,w8,d1++d2,u1++u2,b1,a2.trans b2,by simp only[ik,mQ];omega,by simp[b5],fun I' μ hp0 i1 i2 ρ m ey cE rest=> ?_⟩;have k1:=(a4'.later b2) I' μ hp0 i1 i2 ρ m ey cE (d2++rest);obtain ⟨k2,k3⟩:=b4.more I' μ hp0 i1 i2 ρ m ey cE rest;simp only[iT];grind
theorem ajZ {t:TypeId} {v:Value} {y:V} (hv:aj P w I β hp v y) (h:fJ P t y=true):Plain P w I v y:=by
 cases y with
 | int k n=>exact hv.fM
 | bool b=>exact hv.mW
 | str s=>obtain ⟨s',rfl,hs⟩:=hv.oh;exact ⟨s',rfl,hs⟩
 | list e es=>cases hv with
  | list hp'=>exact hp'
 | _=>unfold fJ at h;grind
theorem YJ: ∀{ts:List TypeId} {ls:List LS},A3 P ts ls=true→ts.length=ls.length∧∀(ds:List V) (j:Nat) t y,ts[j]? =some t→(iT ls ds)[j]? =some y→fJ P t y=true
 | [],[],_=>⟨rfl,fun ds j t y h=>by simp at h⟩
 | [],_::_,h=>by cases h
 | _::_,[],h=>by cases h
 | t::ts,l::ls,h=>by
  simp only[A3,aI] at h;obtain ⟨h1,h2⟩:=YJ h.2;refine ⟨by simp[h1],fun ds j t' y ht hy=> ?_⟩;cases j with
  | succ j=>exact h2 _ j t' y (by grind) (by simpa[iT] using hy)
  | zero=>
   simp[iT] at ht hy;subst ht;subst hy;have h:=h.1;unfold fJ;split at h<;>simp_all [ld]
theorem aj0 (S:ay P w I β hp B M w0) {α:Type} {s:VS} {x:V} {h:Hand} {k:Hand→Rd α} {r:α} {rd:List Nat} {v:Value} (hr:(A4 P s x h k).run C hp=some (r,rd)) (hv:aj P w I β hp v x):
  ∃h' gO d u,(k h').run C hp=some (r,gO)∧Ext P w I β hp h h' d u∧d.length=s.size∧
   pg P w I β hp h' u fun I' μ hp0=> ∀rest,aj P w I' μ hp0 v (nJ s (d++rest)):=by
 cases s with
 | one l=>
  simp only[A4] at hr;obtain ⟨h1,jH,d1,u1,a1,a2,a3,a4⟩:=YI S hr hv;exact ⟨h1,jH,d1,u1,a1,a2,a3,a4⟩
 | agg ls=>
  cases x<;>simp only[A4] at hr<;>first|(cases hr;done)|skip
  rename_i xs;obtain ⟨cs,rfl,e1,e2⟩:=hv.mX;obtain ⟨h1,jH,d1,u1,a1,a2,a3,a5,a4⟩:=Fv S hr (vs:=cs.toList) (by omega) (fun j v x hj hx=>e2 j v x (by grind) hx);refine ⟨h1,jH,d1,u1,a1,a2,a3,fun I' μ hp0 i1 i2 ρ m ey cE rest=> ?_⟩;obtain ⟨k1,k2⟩:=a4 I' μ hp0 i1 i2 ρ m ey cE rest;exact .agg (by omega) fun j v y hj hy=>k2 j v y (by grind) hy
 | ba ls=>cases x<;>cases hr
 | pref ts ls=>
  have cells: ∀{xs:List V} {vs:List Value} {h0:Hand} {YK:List Nat},(uv P ls xs h0 k).run C hp=some (r,YK)→vs.length=xs.length→A3 P ts ls=true→(∀(j:Nat) v x,vs[j]? =some v→xs[j]? =some x→aj P w I β hp v x)→
    ∃h' gO d u,(k h').run C hp=some (r,gO)∧Ext P w I β hp h0 h' d u∧d.length=mQ ls∧ls.length=xs.length∧pg P w I β hp h' u fun I' μ hp0=> ∀rest,(iT ls (d++rest)).length=xs.length∧ts.length=xs.length∧
     ∀(j:Nat) t v y,vs[j]? =some v→ts[j]? =some t→(iT ls (d++rest))[j]? =some y→Pure P w I' t v y:=by
   intro xs vs h0 YK hr0 hl eW Qw;obtain ⟨h1,jH,d1,u1,a1,a2,a3,a5,a4⟩:=Fv S hr0 hl Qw;obtain ⟨t1,t2⟩:=YJ eW;refine ⟨h1,jH,d1,u1,a1,a2,a3,a5,fun I' μ hp0 i1 i2 ρ m ey cE rest=> ?_⟩;obtain ⟨k1,k2⟩:=a4 I' μ hp0 i1 i2 ρ m ey cE rest;exact ⟨k1,t1.trans a5,fun j t v y hj ht hy=>(ajZ (k2 j v y hj hy) (t2 _ j t y ht hy)).pure (t2 _ j t y ht hy)⟩
  cases x<;>simp only[A4] at hr<;>first|(cases hr;done)|skip
  ·rename_i id i c;obtain ⟨l0,vf⟩:=run_get hr;clear hr;cases ae:hp id with
   | none=>rw[ae] at vf;cases vf
   | some blk=>
    rw[ae] at vf;cases blk<;>simp only at vf<;>first|(cases vf;done)|skip
    rename_i T cs;obtain ⟨hc,qd⟩:=az vf;clear vf;simp only[aI,aK,fV] at hc;obtain ⟨rfl,eW,hle⟩:=hc;obtain ⟨b,hb,rfl⟩:=hv.iZ ae (by simp);have cL:=S.h.rel id _ ae;rw[hb] at cL;cases cL with
    | @var _ _ Ca _ au hh hs hI hx _=>
    cases au;obtain ⟨h1,jH,d1,u1,a1,a2,a3,a5,a4⟩:=cells qd (vs:=(Ca.toList.drop c).take ls.length) (by simp;omega) eW (fun j v x hj c7=>by
     grind)
    refine ⟨h1,jH,d1,(id,.var T cs)::u1,a1,⟨a2.ds,by rw[a2.upd];simp,fun q hq=> ?_,a2.pl,a2.nodup⟩,a3,fun I' μ hp0 i1 i2 ρ m ey cE rest=> ?_⟩
    ·rcases fW.1 hq with rfl|hq
     ·exact .inr ⟨T,cs,rfl,ae⟩
     ·exact a2.KI q hq
    ·obtain ⟨k1,k2,k3⟩:=a4 I' μ hp0 i1 (fun q hq=>i2 q (nD _ hq)) ρ m ey cE rest;have hn:(iT ls (d1++rest)).length=ls.length:=k1.trans a5.symm;simp only[nJ,ah.sz,Nat.zero_mul,dt];refine .pref (k2.trans k1.symm) (fun j hj=>i2 _ (AN ..) b (c+j) ⟨_,ae,.var hb (by omega)⟩) (fun j t y ht hy=> ?_);have hj:=(cu.1 hy).1;have rS:c+j<Ca.size:=by omega
     refine ⟨Ca[c+j],by rw[cell?_cells hh];grind,k3 j t _ y ?_ ht hy⟩;grind
  ·rename_i sO cs;obtain ⟨hc,qd⟩:=az hr;clear hr;simp only[aI,fV] at hc;obtain ⟨YL,eW,hle⟩:=hc;have YL:=yR YL;obtain ⟨b,o,rfl,q1,q2,q3⟩:=hv.El;have hg: ∀j,j<cs.length→∃v,w.cell? ⟨b,o+j,none⟩=some v∧∃t,sO[j]? =some t∧∀x,cs[j]? =some x→Pure P w I t v x:=fun j hj=>by
    simp_all
   let vs:List Value:=(List.range ls.length).map fun j=>(w.cell? ⟨b,o+j,none⟩).getD undef
   have Jw: ∀(j:Nat),j<ls.length→vs[j]? =some ((w.cell? ⟨b,o+j,none⟩).getD undef):=fun j hj=>by grind
   obtain ⟨h1,jH,d1,u1,a1,a2,a3,a5,a4⟩:=cells qd (vs:=vs) (by grind) eW (fun j v x hj c7=>by
    have dh:j<ls.length:=by grind
    rw[jr dh] at c7;obtain ⟨v',v1,t,_,v2⟩:=hg j (by omega);rw[Jw j dh,v1] at hj;cases hj;exact .sS (v2 x c7))
   refine ⟨h1,jH,d1,u1,a1,a2,a3,fun I' μ hp0 i1 i2 ρ m ey cE rest=> ?_⟩;obtain ⟨k1,k2,k3⟩:=a4 I' μ hp0 i1 i2 ρ m ey cE rest;have hn:(iT ls (d1++rest)).length=ls.length:=k1.trans a5.symm;refine .pref (k2.trans k1.symm) (fun j hj=>i1 _ _ (q2 j (by omega))) (fun j t y ht hy=> ?_);grind
 | fn f a b=>
  cases x<;>simp only[A4] at hr<;>first|(cases hr;done)|skip
  rename_i f' xs ys;obtain ⟨hc,qd⟩:=az hr;clear hr;rw[aK] at hc;subst hc;cases hv with
  | @fn _ fs cs _ _ q1 q2 q3 q4=>
   obtain ⟨h1,jH,d1,u1,a1,a2,a3,a5,a4⟩:=Fv S qd (vs:=fs.toList) (by omega) (fun j v x hj hx=>q2 j v x (by grind) hx);obtain ⟨h2,w8,d2,u2,b1,b2,b3,b5,b4⟩:=Fv S a1 (vs:=cs.toList) (by omega) (fun j v x hj hx=>q4 j v x (by grind) hx);refine ⟨h2,w8,d1++d2,u1++u2,b1,a2.trans b2,by simp only[ik,VS.size];omega,fun I' μ hp0 i1 i2 ρ m ey cE rest=> ?_⟩;obtain ⟨k1,k2⟩:=(a4.later b2) I' μ hp0 i1 i2 ρ m ey cE (d2++rest);obtain ⟨k3,k4⟩:=b4.more I' μ hp0 i1 i2 ρ m ey cE rest;simp only[nJ];rw[show (d1++d2++rest).drop (mQ a)=d2++rest by grind,la];exact .fn (by omega) (fun j v y hj hy=>k2 j v y (by grind) hy) (by omega) (fun j v y hj hy=>k4 j v y (by grind) hy)
theorem Qx (S:ay P w I β hp B M w0) {α:Type}: ∀{ls:List VS} {xs:List V} {h:Hand} {k:Hand→Rd α} {r:α} {rd:List Nat} {vs:List Value},(DX P ls xs h k).run C hp=some (r,rd)→vs.length=xs.length→
  (∀(j:Nat) v x,vs[j]? =some v→xs[j]? =some x→aj P w I β hp v x)→
  ∃h' gO d u,(k h').run C hp=some (r,gO)∧Ext P w I β hp h h' d u∧d.length=wh ls∧ls.length=xs.length∧
   pg P w I β hp h' u fun I' μ hp0=> ∀rest,(jx ls (d++rest)).length=xs.length∧∀(j:Nat) v y,vs[j]? =some v→(jx ls (d++rest))[j]? =some y→aj P w I' μ hp0 v y
 | [],[],h,k,r,rd,vs,hr,hl,hv=>⟨h,rd,[],[],hr,Ext.refl h,rfl,rfl,fun I' μ hp0 _ _ _ _ _ _ rest=>⟨rfl,fun j v y _ hy=>by grind⟩⟩
 | [],_::_,h,k,r,rd,vs,hr,hl,hv=>by cases hr
 | _::_,[],h,k,r,rd,vs,hr,hl,hv=>by cases hr
 | l::ls,x::xs,h,k,r,rd,vs,hr,hl,hv=>by
  cases vs with
  | nil=>simp at hl
  | cons v vs=>
   simp only[DX] at hr;obtain ⟨h1,jH,d1,u1,a1,a2,a3,a4⟩:=aj0 S hr (hv 0 v x rfl rfl);obtain ⟨h2,w8,d2,u2,b1,b2,b3,b5,b4⟩:=Qx S a1 (by grind) (vs:=vs) (fun j v x hj hx=>hv (j+1) v x (by grind) (by grind));refine ⟨h2,w8,d1++d2,u1++u2,b1,a2.trans b2,by simp only[ik,wh];omega,by simp[b5],fun I' μ hp0 i1 i2 ρ m ey cE rest=> ?_⟩;have k1:=(a4.later b2) I' μ hp0 i1 i2 ρ m ey cE (d2++rest);obtain ⟨k2,k3⟩:=b4.more I' μ hp0 i1 i2 ρ m ey cE rest;simp only[jx];grind
def KJ:List BS→Nat
 | []=>0
 | b::l=>b.size+KJ l
theorem YM: ∀{b:Nat} {e e':TypeId} {es:List V} {v:V},(∀q b' e' m,At P w b e es q b' e' m→iG P w I b' e' m)→∀(path:Path),nH P e path=some e'→e9 P e es path=some v→0<v.toList.length→
  ∃b1,At P w b e es path b1 e' v.toList
 | b,e,e',es,v,cR,[],ht,hv,hl=>by
  simp only[nH,e7] at ht;simp only[e9,e7] at hv;subst ht;subst hv;exact ⟨b,.here⟩
 | b,e,e',es,v,cR,(i,c)::q,ht,hv,hl=>by
  simp only[nH] at ht;simp only[e9] at hv;obtain ⟨x,hx,hv⟩:=bind_some hv;cases YN:(nH.DO P e)[c]? with
  | none=>grind
  | some t=>
   rw[YN] at ht;simp only at ht;have Qy:(aT P e)[c]? =some t:=YN;cases hu:P.underlying t with
   | none=>grind
   | some d=>
    rw[hu] at ht;cases d<;>simp only at ht<;>first|(cases ht;done)|skip
    rename_i e1;rw[qH Qy] at hv;have hR:=cR _ _ _ _ .here;obtain ⟨Ca,_,c1,_,c2,c3⟩:=hR.cells;have yb:c<P.cellsOf e:=by rw[←fx hR.ok];grind
    obtain ⟨u,d1,d2⟩:=c3 i c x t hx Qy yb;rw[d2.wD] at hv;generalize hy:ca P e x c=y at d2 hv;cases d2 with
    | gq a p=>unfold dV at a;grind
    | @emp e2 a qc=>
     rw[hu] at qc;cases qc;simp only at hv;cases q with
     | nil=>simp only[e9,e7] at hv;subst hv;simp[V.toList] at hl
     | cons a q=>simp[e9] at hv
    | @row e2 bM b2 cap qc my aZ bK rN=>
     rw[hu] at qc;cases qc;simp only at hv;have uG: ∀{q b' e' aJ},At P w b2 e1 bM q b' e' aJ→At P w b e es ((i,c)::q) b' e' aJ:=fun h=> .step c1 hx Qy hu hy my d1 h;obtain ⟨b1,qQ⟩:=YM (fun q b' e' m h=>cR _ _ _ _ (uG h)) q ht hv hl;grind
def vg (P:Program) (I:Nat→Nat→Prop) (blk:ah) (b:Nat):Prop:= ∀j,I b j→∃e es,blk= .arr e es true∧j<es.length*P.cellsOf e
theorem vg.no {blk:ah} {b:Nat} (h:vg P I blk b) (hn: ∀e es,blk≠ .arr e es true) (j:Nat): ¬I b j:=fun hi=>by
 obtain ⟨e,es,h1,_⟩:=h j hi;exact hn e es h1
theorem YO (S:ay P w I β hp B M w0) {α:Type}: ∀{bs:List BS} {j:Nat} {h:Hand} {k:Hand→Rd α} {r:α} {rd:List Nat},(uw P bs j h k).run C hp=some (r,rd)→
  ∃h' gO d u,(k h').run C hp=some (r,gO)∧Ext P w I β hp h h' d u∧d.length=KJ bs∧
   ∀rest,(hY bs (d++rest)).length=bs.length∧∃o:Nat→Option Nat,
    (∀(i:Nat) blk,(hY bs (d++rest))[i]? =some blk→∃p,gn h'.pl (j+i)=some p∧gh P w β hp p (o i) blk)∧
    pg P w I β hp h' u fun I' μ hp0=> ∀(i:Nat) blk,(hY bs (d++rest))[i]? =some blk→(∀b,bd P w (o i) blk b→vg P I' blk b)→eV P w I' μ hp0 (o i) blk
 | [],j,h,k,r,rd,hr=>⟨h,rd,[],[],hr,Ext.refl h,rfl,fun rest=>⟨rfl,fun _=>none,fun i blk hb=>by simp[hY] at hb,fun I' μ hp0 _ _ _ _ _ _ i blk hb=>by simp[hY] at hb⟩⟩
 | b::bs,j,h,k,r,rd,hr=>by
  simp only[uw] at hr;have fin: ∀{h1:Hand} {jH:List Nat} {d1:List V} {u1:List (Nat×ah)} {o1:Option Nat} {p:Place},(uw P bs (j+1) h1 k).run C hp=some (r,jH)→Ext P w I β hp h h1 d1 u1→d1.length=b.size→gn h.pl j=some p→
    (∀rest,gh P w β hp p o1 (iF b (d1++rest)))→(∀rest,pg P w I β hp h1 u1 fun I' μ hp0=>(∀bb,bd P w o1 (iF b (d1++rest)) bb→vg P I' (iF b (d1++rest)) bb)→eV P w I' μ hp0 o1 (iF b (d1++rest)))→
    ∃h' gO d u,(k h').run C hp=some (r,gO)∧Ext P w I β hp h h' d u∧d.length=KJ (b::bs)∧
     ∀rest,(hY (b::bs) (d++rest)).length=(b::bs).length∧∃o:Nat→Option Nat,
      (∀(i:Nat) blk,(hY (b::bs) (d++rest))[i]? =some blk→∃p,gn h'.pl (j+i)=some p∧gh P w β hp p (o i) blk)∧
      pg P w I β hp h' u fun I' μ hp0=> ∀(i:Nat) blk,(hY (b::bs) (d++rest))[i]? =some blk→(∀b,bd P w (o i) blk b→vg P I' blk b)→eV P w I' μ hp0 (o i) blk:=by
   intro h1 jH d1 u1 o1 p hk he hd bE hl ht;obtain ⟨h2,w8,d2,u2,b1,b2,b3,b4⟩:=YO S hk;refine ⟨h2,w8,d1++d2,u1++u2,b1,he.trans b2,by simp only[ik,KJ];omega,fun rest=> ?_⟩;obtain ⟨c1,o,c2,c3⟩:=b4 rest;simp only[hY];rw[show (d1++d2++rest).drop b.size=d2++rest by grind,la];refine ⟨by simp[c1],fun i=>match i with|0=>o1|i+1=>o i,fun i blk hb=> ?_,fun I' μ hp0 i1 i2 ρ m ey cE i blk hb dd=> ?_⟩
   ·cases i with
    | zero=>
     simp at hb;subst hb;exact ⟨p,b2.look (he.look bE),hl _⟩
    | succ i=>
     grind
   ·cases i with
    | zero=>
     simp at hb;subst hb;exact ((ht _).later b2) I' μ hp0 i1 i2 ρ m ey cE dd
    | succ i=>exact c3.more I' μ hp0 i1 i2 ρ m ey cE i blk (by grind) dd
  cases bE:gn h.pl j with
  | none=>rw[bE] at hr;cases hr
  | some p=>
   rw[bE] at hr;cases p with
   | blk id=>
    obtain ⟨l1,hr⟩:=run_get hr;cases ae:hp id with
    | none=>rw[ae] at hr;cases hr
    | some blk=>
     rw[ae] at hr;cases blk with
     | dead=>cases hr
     | out _ _ _ _=>cases hr
     | var T0 cs=>
      cases b<;>simp only at hr<;>first|(cases hr;done)|skip
      rename_i T1 ss;obtain ⟨hT,vf⟩:=az hr;clear hr;rw[aK] at hT;subst hT;have cL:=S.h.rel id _ ae;generalize ho:β id=o at cL;cases cL with
      | @var _ bb Ca T hb hh hs hI hx iH=>
       obtain ⟨h1,jH,d1,u1,a1,a2,a3,a5,a4⟩:=Qx S vf (vs:=Ca.toList) (by omega) (fun j v x hj c7=>hx j v x (by grind) c7);refine fin (o1:=β id) a1 a2 a3 bE (fun rest=> .var ae) fun rest I' μ hp0 i1 i2 ρ m ey cE dd=> ?_;obtain ⟨k1,k2⟩:=a4 I' μ hp0 i1 i2 ρ m ey cE rest;exact .var (ho.trans hb) hh (by omega) ((dd _ (.root (by simp[iF]) (ho.trans hb))).no (by simp[iF])) (fun i v y hi hy=>k2 i v y (by grind) hy) iH
     | arr e' es fz=>
      cases b with
      | arr e oZ=>
       obtain ⟨hc,qd⟩:=az hr;clear hr;simp only[aI,aK] at hc;obtain ⟨rfl,fY⟩:=hc;obtain rfl:oZ=fz:=by cases fz<;>cases oZ<;>first|rfl|cases fY
       refine fin (d1:=[.list e es]) (o1:=β id) qd (Ext.leaf h _) rfl bE (fun rest=>gh.arr ae) fun rest I' μ hp0 i1 i2 ρ m ey cE dd=> ?_;replace dd: ∀bb,bd P w (β id) (.arr e es oZ) bb→vg P I' (.arr e es oZ) bb:=dd;change eV P w I' μ hp0 (β id) (.arr e es oZ);have cL:=S.h.rel id _ ae;generalize ho:β id=o at cL dd⊢;cases cL with
       | eA hb=>exact .eA hb
       | arr a0 a1 a2 a3 a4 a5 a6 a7=>
        have hn:=dd _ (.root (by simp) a2);refine .arr a0 a1 a2 a3 a4 (fun _ j hi=> ?_) (fun hz=>hn.no (by simp[hz])) fun i j x t' y1 y2 y3=> ?_
        ·obtain ⟨e',aJ,h1,h2⟩:=hn j hi;cases h1;exact h2
        ·obtain ⟨v,z1,z2⟩:=a7 i j x t' y1 y2 y3;exact ⟨v,z1,z2.mono i1 fun _ _ _=>rfl⟩
      | _=>cases hr
     | nest e' es vers=>
      cases b with
      | nest e=>
       obtain ⟨hc,qd⟩:=az hr;clear hr;rw[aK] at hc;subst hc;refine fin (d1:=[.list e es]) (o1:=β id) qd (Ext.leaf h _) rfl bE (fun rest=>gh.nest ae) fun rest I' μ hp0 i1 i2 ρ m ey cE dd=> ?_;have YP: ∀bb,bd P w (β id) (.nest e es [0,0,0]) bb→∀j,¬I' bb j:=fun bb h=>vg.no (blk:= .nest e es [0,0,0]) (dd bb h) (by simp);change eV P w I' μ hp0 (β id) (.nest e es [0,0,0]);have cL:=S.h.rel id _ ae;generalize ho:β id=o at cL YP⊢;cases cL with
       | iX hb=>exact .iX hb
       | nest hb cR lT=>
        refine .nest hb (fun q b' e1 m1 hq=> ?_) lT;obtain ⟨ok,⟨Ca,Tc,c1,c0,c2,c3⟩,nI⟩:=cR q b' e1 m1 hq;refine ⟨ok,⟨Ca,Tc,c1,c0,c2,fun i j x t' y1 y2 y3=> ?_⟩,YP _ (.row hb hq)⟩;obtain ⟨v,z1,z2⟩:=c3 i j x t' y1 y2 y3;exact ⟨v,z1,z2.mono i1 (fun _ _ _=>rfl) fun _ _ _ _ _=>rfl⟩
      | _=>cases hr
     | map t' es=>
      cases b with
      | map t=>
       obtain ⟨hc,qd⟩:=az hr;clear hr;rw[aK] at hc;subst hc;refine fin (d1:=[.list t es]) (o1:=β id) qd (Ext.leaf h _) rfl bE (fun rest=>gh.map ae) fun rest I' μ hp0 i1 i2 ρ m ey cE dd=> ?_;change eV P w I' μ hp0 (β id) (.map t es);have cL:=S.h.rel id _ ae;generalize ho:β id=o at cL dd⊢;cases cL with
       | map a1 a2 a3 a4 a5 a6 a7=>exact .map a1 a2 a3 a4 ((dd _ (.root (by simp[iF]) a2)).no (by simp[iF])) a6 a7
      | _=>cases hr
   | row id ver path=>
    obtain ⟨e0,es,vers,l1,k1,k2,k3,k4,k5⟩:=qG hr;obtain ⟨e',vv,m1,m2,m3⟩:=Bc k5;cases b with
    | arr e fz=>
     cases fz with
     | true=>cases m3
     | false=>
      obtain ⟨hc,m4⟩:=az m3;clear m3;simp only[aI,aK,mK] at hc;obtain ⟨rfl,Fw,my⟩:=hc;have cL:=S.h.rel id _ k1;cases hb:β id with
      | none=>
       rw[hb] at cL;cases cL with
       | nest au _ _=>cases au
       | iX _=>
        cases path with
        | nil=>grind
        | cons p q=>obtain ⟨i,c⟩:=p;simp[e9] at m2
      | some b0=>
       rw[hb] at cL;cases cL with
       | iX au=>cases au
       | nest au cR lT=>
        cases au;obtain ⟨b1,fL⟩:=YM cR path m1 m2 my;refine fin (d1:=[.list e vv.toList]) (o1:=some b1) m4 (Ext.leaf h _) rfl bE (fun rest=>gh.row k1 hb fL Fw k2 k3 k4 my) fun rest I' μ hp0 i1 i2 ρ m ey cE dd=> ?_;change eV P w I' μ hp0 (some b1) (.arr e vv.toList false);obtain ⟨ok,⟨Ca,Tc,c1,c0,c2,c3⟩,nI⟩:=cR _ _ _ _ fL;refine .arr c0 ok rfl c1 c2 (fun h=>by cases h) (fun _=>(dd _ (.root (by simp[iF]) rfl)).no (by simp[iF])) fun i j x t' y1 y2 y3=> ?_;obtain ⟨v,z1,z2⟩:=c3 i j x t' y1 y2 y3;refine ⟨v,z1,?_⟩;generalize ca P e x j=y at z2⊢;cases z2 with
        | gq _ p=>exact p.mono i1 fun _ _ _=>rfl
        | emp hu=>exact absurd hu (YQ Fw y2 _)
        | row hu _ _ _ _=>exact absurd hu (YQ Fw y2 _)
    | _=>cases m3
where
 YQ {e t:TypeId} {j:Nat} (h:DT P e=true) (ht:(aT P e)[j]? =some t) (e':TypeId):P.underlying t≠some (.slice e'):=by
  intro hu;have h2:=gZ.1 h t (mi ht);grind
end
section
variable {P:Program} {A:dn} {w w':World} {I I' I2:Nat→Nat→Prop} {μ β β' cB:Nat→Option Nat} {hp hp' hp0 bE:Nat→Option ah} {C:af} {B:Nat} {M:Nat→Prop} {w0:Start}
structure ox (w:World) (I:Nat→Nat→Prop) (β:Nat→Option Nat) (hp:Nat→Option ah) (w':World) (I':Nat→Nat→Prop) (β':Nat→Option Nat) (hp':Nat→Option ah):Prop where
 ej: ∀b j,I b j→I' b j
 cH: ∀b j,I b j→w'.cell? ⟨b,j,none⟩=w.cell? ⟨b,j,none⟩
 blk: ∀id blk,hp id=some blk→∃blk',hp' id=some blk'∧blk.le blk'∧(blk'≠ .dead→β' id=β id)
 size: ∀id blk blk' b,hp id=some blk→hp' id=some blk'→blk'≠ .dead→β id=some b→bsize w' b=bsize w b
theorem Le.BW (h:Le P w I β hp w' I' β' hp'):ox w I β hp w' I' β' hp':=⟨h.ej,h.cH,h.blk,h.size⟩
theorem ox.trans {D8:World} {D9:Nat→Nat→Prop} {Ea:Nat→Option Nat} {Eb:Nat→Option ah} (h1:ox w I β hp w' I' β' hp') (h2:ox w' I' β' hp' D8 D9 Ea Eb):ox w I β hp D8 D9 Ea Eb:=by
 refine ⟨fun b j h=>h2.ej b j (h1.ej b j h),fun b j h=>(h2.cH b j (h1.ej b j h)).trans (h1.cH b j h),fun id blk h=> ?_,fun id blk xW b h Jk hd hb=> ?_⟩
 ·obtain ⟨blk',e',l',b'⟩:=h1.blk id blk h;obtain ⟨xW,dW,Ec,b''⟩:=h2.blk id blk' e';refine ⟨xW,dW,ah.le_trans l' Ec,fun hd=> ?_⟩;have fK:blk'≠ .dead:=fun e=>hd (ah.sU (e▸Ec));grind
 ·obtain ⟨blk',e',l',b'⟩:=h1.blk id blk h;obtain ⟨ku,e3,l3,b3⟩:=h2.blk id blk' e';obtain rfl:ku=xW:=by grind
  have fK:blk'≠ .dead:=fun e=>hd (ah.sU (e▸l3));rw[h2.size id blk' ku b e' e3 hd ((b' fK).trans hb),h1.size id blk blk' b h e' fK hb]
def si (P:Program) (w:World) (μ:Nat→Option Nat) (hp0:Nat→Option ah) (b:Nat):Prop:= ∃j blk,hp0 j=some blk∧bd P w (μ j) blk b
structure aj1 (P:Program) (A:dn) (key:Nat) (w:World) (I:Nat→Nat→Prop) (μ:Nat→Option Nat) (ds es:List V) (w':World) (v:Value) (I2:Nat→Nat→Prop) (cB:Nat→Option Nat):Prop where
 BX:ay P w' I2 cB (bG (A.so key es) (A.lv key es)).hp w.heap.size (si P w μ (bG (A.sin key) ds).hp) ⟨w,I⟩
 le:ox w I μ (bG (A.sin key) ds).hp w' I2 cB (bG (A.so key es) (A.lv key es)).hp
 res:aj P w' I2 cB (bG (A.so key es) (A.lv key es)).hp v (sP (iU (A.so key es).ch (A.lv key es)))
def oy (P:Program) (A:dn) (C:af):Prop:=
 ∀key ds es,C key ds=some es→∃fn c,P.funcs[A.jP key]? =some fn∧fn.body=some c∧
  ∀(w:World) (I:Nat→Nat→Prop) (μ:Nat→Option Nat) (vals:List Value),
   xU P w I μ (bG (A.sin key) ds).hp w.heap.size (si P w μ (bG (A.sin key) ds).hp)→jS P A.aB w I→
   vals.length=(A.sin key).ch.length→(∀(j:Nat) v x,vals[j]? =some v→(jx ((A.sin key).ch.map (·.2)) ds)[j]? =some x→aj P w I μ (bG (A.sin key) ds).hp v x)→
   Calls P (A.jP key) vals.toArray w fun e w'=> ∃v I2 cB,e= .returned v∧aj1 P A key w I μ ds es w' v I2 cB
theorem gh.yV {p:Place} {o:Option Nat} {blk:ah} {b:Nat} (h:gh P w β hp p o blk) (ho:bd P w o blk b):
  ∃tz,hp p.id=some tz∧bd P w (β p.id) tz b∧∀e es,tz= .arr e es true→blk= .arr e es true∧o=β p.id:=by
 cases h with
 | var h=>exact ⟨_,h,.root (by simp) (ho.flat (by simp)),by simp⟩
 | arr h=>exact ⟨_,h,.root (by simp) (ho.flat (by simp)),fun _ _ h=>⟨h,rfl⟩⟩
 | map h=>exact ⟨_,h,.root (by simp) (ho.flat (by simp)),by simp⟩
 | nest h=>
  refine ⟨_,h,?_,by simp⟩;cases ho with
  | root _ hb=>exact .root (by simp) hb
  | row hb ha=>exact .row hb ha
 | row h hb ha _ _ _ _ _=>
  have:=ho.flat (by simp)
  cases this;exact ⟨_,h,.row hb ha,by simp⟩
theorem ay.aj2 (S:ay P w I β hp B M w0) {id b:Nat} {blk:ah} (ae:hp id=some blk) (ho:bd P w (β id) blk b) (hf: ∀e es,blk≠ .arr e es true): ∀j,¬I b j:=by
 have hr:=S.h.rel id blk ae;generalize β id=o at hr ho;cases hr with
 | var hb _ _ hI _ _=>have:=ho.flat (by simp);grind
 | eA hb=>have:=ho.flat (by simp);grind
 | @arr e _ es fz _ _ _ _ hb _ _ _ fE _=>
  have:=ho.flat (by simp)
  simp_all
 | dead=>exact absurd rfl ho.alive
 | map _ hb _ _ hI _ _=>have:=ho.flat (by simp);grind
 | out hb _ _ hh _ _ hI hc hr _=>
  cases ho with
  | root _ au=>grind
  | pR au xY hj hx h0 hv=>
   rw[hb] at au;cases au;rw[hh] at xY;cases xY;obtain ⟨_,_,m1,_⟩:=hc _ _ hj hx;cases m1;exact (hr _ _ _ _ hj hx h0 hv).2.nI
 | iX hb=>cases ho<;>simp_all
 | nest hb hr _=>
  cases ho with
  | root _ au=>rw[hb] at au;cases au;exact (hr _ _ _ _ .here).nI
  | row au ha=>rw[hb] at au;cases au;exact (hr _ _ _ _ ha).nI
theorem KK {a b:List Nat} (h:AU a b=false) {x:Nat} (ha:x∈a):x∉b:=by
 intro hb;unfold AU at h;rw[List.any_eq_false] at h;exact h x ha (yh hb)
theorem aj3 (S:ay P w I β hp B M w0) {pl:List Place} {upd:List (Nat×ah)} {o:Nat→Option Nat} (nX:(pl.map Place.id).Nodup) (KL:AU (upd.map (·.1)) (pl.map Place.id)=false)
  (hl: ∀j blk,hp0 j=some blk→∃p,gn pl j=some p∧gh P w β hp p (o j) blk)
  (cL:(∀j blk,hp0 j=some blk→∀b,bd P w (o j) blk b→vg P (jT P w I β hp upd) blk b)→∀j blk,hp0 j=some blk→eV P w (jT P w I β hp upd) o hp0 (o j) blk) (aY: ∀b j,jT P w I β hp upd b j→b<w.heap.size):
  xU P w (jT P w I β hp upd) o hp0 w.heap.size (si P w o hp0):=by
 have dd: ∀j blk,hp0 j=some blk→∀b,bd P w (o j) blk b→vg P (jT P w I β hp upd) blk b:=by
  intro j blk hj b ho jj hI;obtain ⟨p,bE,fZ⟩:=hl j blk hj;obtain ⟨tz,k1,k2,k3⟩:=fZ.yV ho;rcases hI with hI|⟨q,hq,cz,q1,q2⟩
  ·by_cases hz: ∃e es,tz= .arr e es true
   ·obtain ⟨e,es,rfl⟩:=hz;obtain ⟨rfl,h4⟩:=k3 e es rfl;refine ⟨e,es,rfl,?_⟩;have hr:=S.h.rel _ _ k1;have hb:=k2.flat (by simp)
    generalize β p.id=o' at hr hb;cases hr with
    | eA h=>rw[hb] at h;cases h
    | arr _ _ a2 _ _ a5 _ _=>rw[hb] at a2;cases a2;exact a5 rfl jj hI
   ·exact absurd hI (S.aj2 k1 k2 (fun e es h=>hz ⟨e,es,h⟩) jj)
  ·exfalso;have:=S.h.inj _ _ _ _ b q1 k1 q2.own k2;refine KK KL (iQ.2 ⟨q,hq,rfl⟩) ?_;rw[this];rw[pf] at bE;grind
 refine ⟨cL dd,fun j1 j2 b1 b2 b h1 h2 o1 o2=> ?_,fun j blk b h1 o1=> .inl ⟨j,blk,h1,o1⟩,aY⟩;obtain ⟨p1,q1,q2⟩:=hl j1 b1 h1;obtain ⟨p2,r1,r2⟩:=hl j2 b2 h2;obtain ⟨c1,x1,x2,_⟩:=q2.yV o1;obtain ⟨c2,y1,y2,_⟩:=r2.yV o2;have ae:=S.h.inj _ _ _ _ b x1 y1 x2 y2;rw[pf] at q1 r1;have m1:(pl.map Place.id)[j1]? =some p1.id:=by grind
 have m2:(pl.map Place.id)[j2]? =some p2.id:=by grind
 rw[←ae] at m2;obtain ⟨z1,z2⟩:=cu.1 m1;obtain ⟨z3,z4⟩:=cu.1 m2;exact (List.getElem_inj nX).1 (z2.trans z4.symm)
def YR:V→Prop
 | .list .. =>False
 | .nl .. =>False
 | .pref .. =>False
 | .agg _=>False
 | .ba _=>False
 | .fn .. =>False
 | _=>True
theorem aj.free {v:Value} {x:V} (h:aj P w I β hp v x) (hx:YR x):aj P w I' β hp v x:=by
 cases h with
 | undef=>exact .undef
 | int=>exact .int
 | bool=>exact .bool
 | str h=>exact .str h
 | list h=>exact hx.elim
 | nilS=>exact .nilS
 | nl=>exact hx.elim
 | agg=>exact hx.elim
 | ba=>exact hx.elim
 | eB=>exact .eB
 | fn=>exact hx.elim
 | pref=>exact hx.elim
 | dX h=>exact .dX h
 | jB h=>exact .jB h
 | mq h=>exact .mq h
 | dS h hb=>exact .dS h hb
 | whole h hb a b c=>exact .whole h hb a b c
 | dI h hb a b c=>exact .dI h hb a b c
 | ee h hb=>exact .ee h hb
 | fw h hb a b c=>exact .fw h hb a b c
 | iW h hb=>exact .iW h hb
 | sub h hb a b c=>exact .sub h hb a b c
 | ptr h hd hb=>exact .ptr h hd hb
 | mr h u6=>exact .mr h u6
 | mu h u6=>exact .mu h u6
 | row h hb a b c d=>exact .row h hb a b c d
 | dD h hb a b c d e=>exact .dD h hb a b c d e
 | e8=>exact .e8
 | lj h=>exact .lj h
 | cO h hb=>exact .cO h hb
theorem Fx {l:LS} {ds:List V} (hs:l.safe=true):YR (ld l ds):=by
 cases l<;>simp only[LS.safe] at hs<;>first|(cases hs;done)|trivial
theorem Fy: ∀{ls:List LS} {ds:List V} {j:Nat} {y:V},(iT ls ds)[j]? =some y→∃l kb,l∈ls∧y=ld l kb
 | [],ds,j,y,h=>by simp[iT] at h
 | l::ls,ds,j,y,h=>by
  simp only[iT] at h;cases j with
  | zero=>grind
  | succ j=>
   obtain ⟨l',kb,h1,h2⟩:=Fy (j:=j) (by simpa using h);grind
theorem YS: ∀{ls:List VS} {ds:List V} {j:Nat} {y:V},(jx ls ds)[j]? =some y→∃l kb,l∈ls∧y=nJ l kb
 | [],ds,j,y,h=>by simp[jx] at h
 | l::ls,ds,j,y,h=>by
  simp only[jx] at h;cases j with
  | zero=>grind
  | succ j=>
   obtain ⟨l',kb,h1,h2⟩:=YS (j:=j) (by simpa using h);grind
theorem YT {s:VS} {ds:List V} {v:Value} (h:aj P w I β hp v (nJ s ds)) (hs:s.safe=true):aj P w I' β hp v (nJ s ds):=by
 cases s with
 | one l=>exact h.free (Fx hs)
 | agg ls=>
  simp only[nJ] at h⊢;obtain ⟨cs,rfl,e1,e2⟩:=h.mX;refine .agg e1 fun j v x hj hx=> ?_;obtain ⟨l,kb,k1,rfl⟩:=Fy hx;exact (e2 j v _ hj hx).free (Fx (gZ.1 hs l k1))
 | ba ls=>
  simp only[nJ] at h⊢;obtain ⟨cs,rfl,e1,e2⟩:=h.yc;refine .ba e1 fun j v x hj hx=> ?_;obtain ⟨l,kb,k1,rfl⟩:=Fy hx;exact (e2 j v _ hj hx).free (Fx (gZ.1 hs l k1))
 | fn f a b=>
  simp only[VS.safe,aI] at hs;simp only[nJ] at h⊢;cases h with
  | fn a1 a2 b1 b2=>
   refine .fn a1 (fun j v x hj hx=> ?_) b1 (fun j v x hj hx=> ?_)
   ·obtain ⟨l,kb,k1,rfl⟩:=Fy hx;exact (a2 j v _ hj hx).free (Fx (gZ.1 hs.1 l k1))
   ·obtain ⟨l,kb,k1,rfl⟩:=Fy hx;exact (b2 j v _ hj hx).free (Fx (gZ.1 hs.2 l k1))
 | pref ts ls=>cases hs
theorem Pure.scalar {t:TypeId} {v:Value} {x:V} (h:Pure P w I t v x) (hn: ∀e,P.underlying t≠some (.slice e)):Pure P w I' t v x:=by
 cases h with
 | int h=>exact .int h
 | bool h=>exact .bool h
 | str h hl=>exact .str h hl
 | nil h=>grind
 | emp h=>grind
 | list g h=>grind
theorem aj4 {e t:TypeId} {j:Nat} (h:DT P e=true) (ht:(aT P e)[j]? =some t) (e':TypeId):P.underlying t≠some (.slice e'):=by
 intro hu;have h2:=gZ.1 h t (mi ht);grind
theorem aj5 {o:Option Nat} {b:BS} {ds:List V} (h:eV P w I2 β hp o (iF b ds)) (hs:b.safe P=true) (hi: ∀b j,I b j→I2 b j):eV P w I β hp o (iF b ds):=by
 cases b with
 | dead=>exact .dead
 | var T0 ls=>
  simp only[iF] at h⊢;cases h with
  | var hb hh aZ hI hx iH=>
   refine .var hb hh aZ (fun j h=>hI j (hi _ j h)) (fun j v x hj c7=> ?_) iH;obtain ⟨l,kb,k1,rfl⟩:=YS c7;exact YT (hx j v _ hj c7) (gZ.1 hs l k1)
 | arr e fz=>
  simp only[BS.safe,aI,mL] at hs;obtain ⟨rfl,Fw⟩:=hs;simp only[iF] at h⊢;generalize (V.nth ds 0).toList=es at h⊢;cases h with
  | eA hb=>exact .eA hb
  | arr a0 a1 a2 a3 a4 a5 a6 a7=>
   refine .arr a0 a1 a2 a3 a4 (fun h=>by cases h) (fun _ j h=>a6 rfl j (hi _ j h)) fun i j x t' y1 y2 y3=> ?_;obtain ⟨v,z1,z2⟩:=a7 i j x t' y1 y2 y3;exact ⟨v,z1,z2.scalar (aj4 Fw y2)⟩
 | nest e=>
  simp only[iF] at h⊢;generalize (V.nth ds 0).toList=es at h⊢;cases h with
  | iX hb=>exact .iX hb
  | nest hb cR lT=>
   refine .nest hb (fun q b' e1 m1 hq=> ?_) lT;obtain ⟨ok,⟨Ca,Tc,c1,c0,c2,c3⟩,nI⟩:=cR q b' e1 m1 hq;refine ⟨ok,⟨Ca,Tc,c1,c0,c2,fun i j x t' y1 y2 y3=> ?_⟩,fun j h=>nI j (hi _ j h)⟩;obtain ⟨v,z1,z2⟩:=c3 i j x t' y1 y2 y3;refine ⟨v,z1,?_⟩;generalize ca P e1 x j=y at z2⊢;cases z2 with
   | gq a p=>
    refine .gq a (p.scalar fun e hu=> ?_);unfold dV at a;grind
   | emp a=>exact .emp a
   | row a b c d e=>exact .row a b c d e
 | map t=>
  simp only[iF] at h⊢;cases h with
  | map a1 a2 a3 a4 a5 a6 a7=>exact .map a1 a2 a3 a4 (fun j h=>a5 j (hi _ j h)) a6 a7
theorem KM: ∀{l:List BS} {ds:List V} {j:Nat} {y:ah},(hY l ds)[j]? =some y→∃b kb,l[j]? =some b∧y=iF b kb
 | [],ds,j,y,h=>by simp[hY] at h
 | b::l,ds,j,y,h=>by
  simp only[hY] at h;cases j with
  | zero=>grind
  | succ j=>
   obtain ⟨b',kb,h1,h2⟩:=KM (j:=j) (by simpa using h);grind
theorem YU: ∀{l:List (Nat×VS)} {ds:List V} {q:Nat×V},q∈iU l ds→∃s kb,(q.1,s)∈l∧q.2=nJ s kb
 | [],ds,q,h=>by simp[iU] at h
 | (k,s)::l,ds,q,h=>by
  simp only[iU,fW] at h;rcases h with h|h
  ·grind
  ·obtain ⟨s',kb,h1,h2⟩:=YU h;grind
theorem aj6 {S:Shape} {es:List V} (hs:S.safe P=true) (hi: ∀b j,I b j→I2 b j) {N:Nat→Prop} {st:Start} (h:ay P w' I2 cB (bG S es).hp B N st) (h0: ∀b j,I b j→st.I b j):
  ay P w' I cB (bG S es).hp B N st∧∀v,aj P w' I2 cB (bG S es).hp v (sP (iU S.ch es))→aj P w' I cB (bG S es).hp v (sP (iU S.ch es)):=by
 unfold Shape.safe at hs;simp only[aI] at hs;obtain ⟨kz,pe⟩:=hs;have one: ∀q∈iU S.ch es,∀v,aj P w' I2 cB (bG S es).hp v q.2→aj P w' I cB (bG S es).hp v q.2:=by
  intro q hq v hv;obtain ⟨s,kb,k1,k2⟩:=YU hq;rw[k2] at hv⊢;exact YT hv (gZ.1 kz _ k1)
 refine ⟨⟨⟨fun j blk hj=> ?_,h.h.inj,h.h.own,fun b j hb=>h.h.jR b j (hi b j hb)⟩,h.cH,h.size,fun b j hb=> .inl (h0 b j hb),h.io⟩,fun v hv=> ?_⟩
 ·have hr:=h.h.rel j blk hj;have dZ:=hj;simp only[bG,mk,kL] at dZ;obtain ⟨b,kb,k1,rfl⟩:=KM dZ;exact aj5 hr (gZ.1 pe _ (mi k1)) hi
 ·generalize iU S.ch es=l at one hv⊢
  match l,one,hv with
  | [],_,hv=>
   simp only[sP,List.map_nil] at hv⊢;obtain ⟨cs,rfl,e1,e2⟩:=hv.yc;exact .ba e1 fun j v x _ hx=>by simp at hx
  | [q],one,hv=>exact one q (fu.2 rfl) v hv
  | q::q2::l,one,hv=>
   simp only[sP] at hv⊢;obtain ⟨cs,rfl,e1,e2⟩:=hv.yc;refine .ba e1 fun j v x hj hx=> ?_;grind
end
section
variable {P:Program} {A:dn} {w w':World} {I I' I2:Nat→Nat→Prop} {μ β β' cB:Nat→Option Nat} {hp hp' hp0 bE:Nat→Option ah} {C:af} {B:Nat} {M:Nat→Prop} {w0:Start}
inductive jI (σ:List Place):ah→ah→Prop
 | dead:jI σ .dead .dead
 | var {T:TypeId} {cs:List V}:jI σ (.var T cs) (.var T (cs.map (Ja σ)))
 | arr {e:TypeId} {es:List V} {fz:Bool}:jI σ (.arr e es fz) (.arr e es fz)
 | nest {e:TypeId} {es:List V} {v1 v2:List Nat}:jI σ (.nest e es v1) (.nest e es v2)
 | map {t:TypeId} {es:List V}:jI σ (.map t es) (.map t es)
 | out {e:TypeId} {es:List V} {vs:List Nat} {i:Nat}:jI σ (.out e es vs i) .dead
theorem jI.of (σ:List Place) (b:ah):jI σ b (xP σ b):=by
 cases b with
 | dead=>exact .dead
 | var T cs=>exact .var
 | arr e es fz=>exact .arr
 | nest e es v=>exact .nest
 | map t es=>exact .map
 | out e es vs i=>exact .out
theorem YV {σ:List Place}: ∀{pl:List Place} {bs:List ah} {acc:List (Nat×ah)} {k:List (Nat×ah)→Rd R} {r:R} {rd:List Nat},(ux σ pl bs acc k).run C hp=some (r,rd)→
  pl.length≤bs.length∧∃bk gO,(k bk).run C hp=some (r,gO)∧(∀q∈bk,q∈acc∨∃(j:Nat) (b:ah),pl[j]? =some (.blk q.1)∧bs[j]? =some b∧jI σ b q.2∧((∃e es v2,q.2= .nest e es v2)→∃e es vers e' aJ,hp q.1=some (.nest e es vers)∧q.2= .nest e' aJ (vers.map (· +1))))∧
   (∀q∈acc,q∈bk)∧∀(j:Nat) p,pl[j]? =some p→∃id b,p= .blk id∧(id,b)∈bk
 | [],bs,acc,k,r,rd,h=>⟨mO _,acc,rd,by simpa only[ux] using h,fun q hq=> .inl hq,fun q hq=>hq,fun j p hp=>by simp at hp⟩
 | .row _ _ _::pl,bs,acc,k,r,rd,h=>by
  cases bs<;>(simp only[ux] at h;cases h)
 | .blk id::pl,[],acc,k,r,rd,h=>by simp only[ux] at h;cases h
 | .blk id::pl,b::bs,acc,k,r,rd,h=>by
  have fin: ∀{b2:ah} {jH:List Nat},(ux σ pl bs ((id,b2)::acc) k).run C hp=some (r,jH)→jI σ b b2→((∃e es v2,b2= .nest e es v2)→∃e es vers e' aJ,hp id=some (.nest e es vers)∧b2= .nest e' aJ (vers.map (· +1)))→
    (Place.blk id::pl).length≤(b::bs).length∧∃bk gO,(k bk).run C hp=some (r,gO)∧(∀q∈bk,q∈acc∨∃(j:Nat) (b':ah),(Place.blk id::pl)[j]? =some (.blk q.1)∧(b::bs)[j]? =some b'∧jI σ b' q.2∧((∃e es v2,q.2= .nest e es v2)→∃e es vers e' aJ,hp q.1=some (.nest e es vers)∧q.2= .nest e' aJ (vers.map (· +1))))∧
     (∀q∈acc,q∈bk)∧∀(j:Nat) p,(Place.blk id::pl)[j]? =some p→∃id b,p= .blk id∧(id,b)∈bk:=by
   intro b2 jH h1 hb hn;obtain ⟨a0,bk,gO,a1,a2,a3,a4⟩:=YV h1;refine ⟨by simp only[List.length_cons];omega,bk,gO,a1,fun q hq=> ?_,fun q hq=>a3 q (nD _ hq),fun j p hj=> ?_⟩
   ·rcases a2 q hq with h|⟨j,b',k1,k2,k3,k4⟩
    ·rcases fW.1 h with e|h
     ·subst e;exact .inr ⟨0,b,rfl,rfl,hb,hn⟩
     ·exact .inl h
    ·exact .inr ⟨j+1,b',by simpa using k1,by simpa using k2,k3,k4⟩
   ·cases j with
    | zero=>simp at hj;subst hj;exact ⟨id,b2,rfl,a3 _ (AN ..)⟩
    | succ j=>exact a4 j p (by simpa using hj)
  cases b with
  | nest e es v=>
   simp only[ux] at h;obtain ⟨l,h⟩:=run_get h;cases ae:hp id with
   | none=>rw[ae] at h;cases h
   | some blk=>
    rw[ae] at h;cases blk with
    | nest e0 Kl vers=>exact fin h .nest fun _=>⟨e0,Kl,vers,e,es,ae,rfl⟩
    | _=>cases h
  | dead=>exact fin h (.of σ _) fun ⟨_,_,_,h⟩=>by cases h
  | var T cs=>exact fin h (.of σ _) fun ⟨_,_,_,h⟩=>by cases h
  | arr e es fz=>exact fin h (.of σ _) fun ⟨_,_,_,h⟩=>by cases h
  | map t es=>exact fin h (.of σ _) fun ⟨_,_,_,h⟩=>by cases h
  | out e es vs i=>exact fin h (.of σ _) fun ⟨_,_,_,h⟩=>by cases h
theorem YW {σ:List Place}: ∀{bs:List ah} {n:Nat} {q:Nat×ah},q∈uy σ n bs→∃i b,bs[i]? =some b∧q=(n+i,xP σ b)
 | [],n,q,h=>by simp[uy] at h
 | b::bs,n,q,h=>by
  simp only[uy,fW] at h;rcases h with h|h
  ·exact ⟨0,b,rfl,h⟩
  ·obtain ⟨i,b',h1,h2⟩:=YW h;exact ⟨i+1,b',by simpa using h1,by rw[h2];congr 1;omega⟩
theorem YX {σ:List Place}: ∀{bs:List ah} {n i:Nat} {b:ah},bs[i]? =some b→(n+i,xP σ b)∈uy σ n bs
 | [],n,i,b,h=>by simp at h
 | b0::bs,n,i,b,h=>by
  simp only[uy,fW];cases i with
  | zero=>simp at h;subst h;exact .inl rfl
  | succ i=>exact .inr (by rw[show n+(i+1)=n+1+i by omega];exact YX (by simpa using h))
theorem KN: ∀{k n i:Nat},i<k→(wi n k)[i]? =some (.blk (n+i))
 | 0,n,i,h=>by omega
 | k+1,n,0,h=>rfl
 | k+1,n,i+1,h=>by
  simp only[wi,List.getElem?_cons_succ];rw[KN (by omega)];congr 2;omega
theorem Qz: ∀{k n:Nat},(wi n k).length=k
 | 0,_=>rfl
 | k+1,n=>by simp[wi,Qz]
theorem YY: ∀{bs:List (Nat×ah)} {k:Rd R} {r:R} {rd:List Nat},(Jb bs k).run C hp=some (r,rd)→(∀q∈bs,hp q.1=none)∧∃gO,k.run C hp=some (r,gO)
 | [],k,r,rd,h=>⟨by simp,rd,h⟩
 | (id,b)::l,k,r,rd,h=>by
  simp only[Jb] at h;obtain ⟨l1,h⟩:=run_get h;cases ae:hp id with
  | some blk=>rw[ae] at h;cases h
  | none=>
   rw[ae] at h;obtain ⟨h1,h2⟩:=YY h;refine ⟨fun q hq=> ?_,h2⟩;rcases fW.1 hq with e|hq
   ·subst e;exact ae
   ·exact h1 q hq
structure tA (σ:List Place) (cB:Nat→Option Nat) (bE:Nat→Option ah) (β':Nat→Option Nat) (hp':Nat→Option ah):Prop where
 blk: ∀j b,bE j=some b→∃id b',gn σ j=some (.blk id)∧hp' id=some b'∧jI σ b b'∧(b≠ .dead→β' id=cB j)
 none: ∀j,bE j=none→gn σ j=none
 axy: ∀j id ver path,gn σ j≠some (.row id ver path)
theorem tA.leaf {σ:List Place} (T:tA σ cB bE β' hp') {v:Value} {x:V} (h:aj P w I cB bE v x):aj P w I β' hp' v (mn σ x):=by
 have look: ∀{j b},bE j=some b→∃id b',gn σ j=some (.blk id)∧hp' id=some b'∧jI σ b b'∧(b≠ .dead→β' id=cB j):=fun h=>T.blk _ _ h;cases h with
 | undef=>exact .undef
 | int=>exact .int
 | bool=>exact .bool
 | str h=>exact .str h
 | list h=>exact .list h
 | nilS=>exact .nilS
 | nl h h0=>exact .nl h h0
 | agg=>exact .undef
 | ba=>exact .undef
 | eB=>exact .eB
 | fn=>exact .undef
 | pref a b c=>exact .pref a b c
 | @dX _ e j h=>
  obtain ⟨id,b',k1,k2,k3,k4⟩:=look h;simp only[mn,k1];cases k3;exact .dX k2
 | @jB _ e j _ _ h=>
  obtain ⟨id,b',k1,k2,k3,k4⟩:=look h;simp only[mn,k1];cases k3;exact .jB k2
 | @mq _ j _ _ h=>
  obtain ⟨id,b',k1,k2,k3,k4⟩:=look h;simp only[mn,k1];cases k3;exact .mq k2
 | @dS e j fz _ h hb=>
  obtain ⟨id,b',k1,k2,k3,k4⟩:=look h;simp only[mn,k1];cases k3;exact .dS k2 ((k4 (by simp)).trans hb)
 | @whole e j es fz b cap h hb a1 a2 a3=>
  obtain ⟨id,b',k1,k2,k3,k4⟩:=look h;simp only[mn,k1];cases k3;exact .whole k2 ((k4 (by simp)).trans hb) a1 a2 a3
 | @dI e j es vers b cap h hb a1 a2 a3=>
  obtain ⟨id,b',k1,k2,k3,k4⟩:=look h;simp only[mn,k1];cases k3;exact .dI k2 ((k4 (by simp)).trans hb) a1 a2 a3
 | @fw e j i es vers b cap h hb a1 a2 a3=>
  obtain ⟨id,b',k1,k2,k3,k4⟩:=look h;simp only[mn,k1];cases k3;exact .dX k2
 | @ee e j vers _ h hb=>
  obtain ⟨id,b',k1,k2,k3,k4⟩:=look h;simp only[mn,k1];cases k3;exact .ee k2 ((k4 (by simp)).trans hb)
 | @iW e j fz _ h hb=>
  obtain ⟨id,b',k1,k2,k3,k4⟩:=look h;simp only[mn,k1];cases k3;exact .iW k2 ((k4 (by simp)).trans hb)
 | @sub e j off len es fz b o cap h hb a1 a2 a3=>
  obtain ⟨id,b',k1,k2,k3,k4⟩:=look h;simp only[mn,k1];cases k3;exact .sub k2 ((k4 (by simp)).trans hb) a1 a2 a3
 | @ptr j i c b blk h hd hb=>
  obtain ⟨id,b',k1,k2,k3,k4⟩:=look h;simp only[mn,k1];by_cases fK:b'= .dead
  ·subst fK;exact .mq k2
  have hs:blk.sz P=b'.sz P:=by cases k3<;>first|rfl|exact absurd rfl fK
  rw[hs];exact .ptr k2 fK ((k4 hd).trans hb)
 | mr=>exact .undef
 | mu=>exact .undef
 | row=>exact .undef
 | dD=>exact .undef
 | e8=>exact .e8
 | @lj _ t j h=>
  obtain ⟨id,b',k1,k2,k3,k4⟩:=look h;simp only[mn,k1];cases k3;exact .lj k2
 | @cO t j b es h hb=>
  obtain ⟨id,b',k1,k2,k3,k4⟩:=look h;simp only[mn,k1];cases k3;exact .cO k2 ((k4 (by simp)).trans hb)
theorem tA.one {σ:List Place} (T:tA σ cB bE β' hp') {v:Value} {x:V} (h:aj P w I cB bE v x):aj P w I β' hp' v (Oq σ x):=by
 cases x with
 | agg xs=>
  obtain ⟨cs,rfl,e1,e2⟩:=h.mX;exact .agg (by simpa using e1) fun j v y hj hy=>by
   rw[kZ] at hy;cases hx:xs[j]? with
   | none=>rw[hx] at hy;cases hy
   | some x=>rw[hx] at hy;cases hy;exact T.leaf (e2 j v x hj hx)
 | fn f a b=>
  cases h with
  | fn a1 a2 b1 b2=>
   refine .fn (by simpa using a1) (fun j v y hj hy=> ?_) (by simpa using b1) (fun j v y hj hy=> ?_)
   ·rw[kZ] at hy;cases hx:a[j]? with
    | none=>rw[hx] at hy;cases hy
    | some x=>rw[hx] at hy;cases hy;exact T.leaf (a2 j v x hj hx)
   ·rw[kZ] at hy;cases hx:b[j]? with
    | none=>rw[hx] at hy;cases hy
    | some x=>rw[hx] at hy;cases hy;exact T.leaf (b2 j v x hj hx)
 | _=>exact T.leaf h
theorem tA.val {σ:List Place} (T:tA σ cB bE β' hp') {v:Value} {x:V} (h:aj P w I cB bE v x):aj P w I β' hp' v (Ja σ x):=by
 cases x with
 | ba xs=>
  obtain ⟨cs,rfl,e1,e2⟩:=h.yc;exact .ba (by simpa using e1) fun j v y hj hy=>by
   rw[kZ] at hy;cases hx:xs[j]? with
   | none=>rw[hx] at hy;cases hy
   | some x=>rw[hx] at hy;cases hy;exact T.one (e2 j v x hj hx)
 | _=>exact T.one h
theorem tA.YZ {σ:List Place} (T:tA σ cB bE β' hp') {o:Option Nat} {b b':ah} (h:eV P w I cB bE o b) (hb:jI σ b b'):eV P w I β' hp' o b':=by
 cases hb with
 | dead=>exact .dead
 | var=>
  cases h with
  | var a1 a2 a3 a4 a5 a6=>
   refine .var a1 a2 (by simpa using a3) a4 (fun j v y hj hy=> ?_) a6;rw[kZ] at hy;cases hx:(_:List V)[j]? with
   | none=>rw[hx] at hy;cases hy
   | some x=>rw[hx] at hy;cases hy;exact T.val (a5 j v x hj hx)
 | arr=>
  cases h with
  | eA hb=>exact .eA hb
  | arr a0 a1 a2 a3 a4 a5 a6 a7=>exact .arr a0 a1 a2 a3 a4 a5 a6 a7
 | nest=>
  cases h with
  | nest a1 a2 a3=>exact .nest a1 a2 a3
  | iX a1=>exact .iX a1
 | map=>
  cases h with
  | map a1 a2 a3 a4 a5 a6 a7=>exact .map a1 a2 a3 a4 a5 a6 a7
 | out=>exact .dead
theorem jI.yV {σ:List Place} {o:Option Nat} {b b':ah} (h:jI σ b b') {m:Nat} (ho:bd P w o b' m):bd P w o b m:=by
 cases h with
 | dead=>exact absurd rfl ho.alive
 | var=>exact .root (by simp) (ho.flat (by simp))
 | arr=>exact .root (by simp) (ho.flat (by simp))
 | map=>exact .root (by simp) (ho.flat (by simp))
 | out=>exact absurd rfl ho.alive
 | nest=>
  cases ho with
  | root _ hb=>exact .root (by simp) hb
  | row hb ha=>exact .row hb ha
theorem jI.Y0 {σ:List Place} {b b':ah} (h:jI σ b b'):b'≠ .dead→b≠ .dead:=by
 intro h1 h2;subst h2;cases h;exact h1 rfl
end
section
variable {P:Program} {A:dn} {w w':World} {I I' I2:Nat→Nat→Prop} {μ β β' cB:Nat→Option Nat} {hp hp' hp0 bE:Nat→Option ah} {C:af} {B:Nat} {M:Nat→Prop} {w0:Start}
theorem Y1: ∀{vs:List Nat} {k:Nat},k<vs.length→bt (vs.map (· +1)) k=bt vs k+1
 | [],k,h=>by simp at h
 | v::vs,0,h=>rfl
 | v::vs,k+1,h=>by simp only[kY,bt];exact Y1 (by grind)
theorem Y2: ∀{vs:List Nat} {k:Nat},bt vs k≤bt (vs.map (· +1)) k
 | [],k=>by grind
 | v::vs,0=>by simp[bt]
 | v::vs,k+1=>by simp only[kY,bt];exact Y2
def Fz (hp:Nat→Option ah) (q:Nat×ah):Prop:=(∃e es v2,q.2= .nest e es v2)→∃e es vers e' aJ,hp q.1=some (.nest e es vers)∧q.2= .nest e' aJ (vers.map (· +1))
theorem gh.QA {id:Nat} {o:Option Nat} {blk:ah} (h:gh P w β hp (.blk id) o blk):o=β id∧∃b0,hp id=some b0∧b0≠ .dead:=by
 cases h with
 | var h=>grind
 | arr h=>grind
 | nest h=>grind
 | map h=>grind
theorem gh.aj7 {id:Nat} {o:Option Nat} {c b b' b0:ah} {σ:List Place} (h:gh P w β hp (.blk id) o c) (h0:hp id=some b0) (hle:c.le b) (hb:jI σ b b') (hn:Fz hp (id,b')):b0.le b':=by
 cases h with
 | var h=>
  rw[h] at h0;cases h0;cases hb with
  | dead=>trivial
  | out=>trivial
  | var=>trivial
  | arr=>exact hle.elim
  | nest=>exact hle.elim
  | map=>exact hle.elim
 | arr h=>
  rw[h] at h0;cases h0;cases hb with
  | dead=>trivial
  | out=>trivial
  | var=>exact hle.elim
  | arr=>exact hle
  | nest=>exact hle.elim
  | map=>omega
 | map h=>
  rw[h] at h0;cases h0;cases hb with
  | dead=>trivial
  | out=>trivial
  | map=>exact hle
  | _=>exact hle.elim
 | nest h=>
  rw[h] at h0;cases h0;cases hb with
  | dead=>trivial
  | out=>trivial
  | var=>exact hle.elim
  | arr=>exact hle
  | map=>exact hle.elim
  | @nest e es v1 v2=>
   obtain ⟨e1,dc,wA,e2,bM,k1,k2⟩:=hn ⟨_,_,_,rfl⟩;cases k2;change hp id=_ at k1;rw[h] at k1;cases k1;exact ⟨hle.1,hle.2.1,by simp,fun k=>Y2⟩
theorem gh.other {p:Place} {o:Option Nat} {blk:ah} (h:gh P w β hp p o blk) (he:hp' p.id=hp p.id):gh P w β hp' p o blk:=by
 cases h with
 | var h=>exact .var (he.trans h)
 | arr h=>exact .arr (he.trans h)
 | nest h=>exact .nest (he.trans h)
 | map h=>exact .map (he.trans h)
 | row h a b c d e f g=>exact .row (he.trans h) a b c d e f g
open Classical in
theorem Y3 (S:ay P w I β hp B M w0) {pl:List Place} {o:Nat→Option Nat} {bs:List ah} {nb:Nat} {bk fr:List (Nat×ah)} {σ:List Place} (vh:σ=pl++wi nb (bs.length-pl.length)) (FA:fr=uy σ nb (bs.drop pl.length))
  (nX:(pl.map Place.id).Nodup) (rP:pl.length≤bs.length)
  (KO: ∀(j:Nat) p,pl[j]? =some p→∃id b,p= .blk id∧(id,b)∈bk) (vi: ∀q∈bk,∃(j:Nat) (b:ah),pl[j]? =some (.blk q.1)∧bs[j]? =some b∧jI σ b q.2∧Fz hp q)
  (hl: ∀j blk,hp0 j=some blk→∃p,gn pl j=some p∧gh P w β hp p (o j) blk) (hd: ∀j,j<pl.length→∃blk,hp0 j=some blk)
  (Sc:ay P w' I2 cB (mR bs) w.heap.size (si P w o hp0) ⟨w,I⟩) (BY:ox w I o hp0 w' I2 cB (mR bs)) (BZ: ∀q∈fr,hp q.1=none):
  ∃β',Le P w I β hp w' I2 β' (b9 hp (fr++bk))∧ay P w' I2 β' (b9 hp (fr++bk)) B M w0∧tA σ cB (mR bs) β' (b9 hp (fr++bk)):=by
 generalize QB:b9 hp (fr++bk)=fZ
 let β':Nat→Option Nat:=fun n=>if∃q∈fr,q.1=n then cB (pl.length+(n-nb)) else β n
 have Y4: ∀(j:Nat) id,pl[j]? =some (.blk id)→∃c,hp0 j=some c∧gh P w β hp (.blk id) (o j) c:=by
  intro j id hj;obtain ⟨c,hc⟩:=hd j (cu.1 hj).1;obtain ⟨p,h1,h2⟩:=hl j c hc;rw[pf,hj] at h1;cases h1;exact ⟨c,hc,h2⟩
 have uniq: ∀(j1 j2:Nat) id,pl[j1]? =some (.blk id)→pl[j2]? =some (.blk id)→j1=j2:=by
  intro j1 j2 id h1 h2;have m1:(pl.map Place.id)[j1]? =some id:=by rw[kZ,h1];rfl
  have m2:(pl.map Place.id)[j2]? =some id:=by rw[kZ,h2];rfl
  obtain ⟨z1,z2⟩:=cu.1 m1;obtain ⟨z3,z4⟩:=cu.1 m2;exact (List.getElem_inj nX).1 (z2.trans z4.symm)
 have cls: ∀id,(∃i b,id=nb+i∧bs[pl.length+i]? =some b∧fZ id=some (xP σ b)∧hp id=none∧β' id=cB (pl.length+i))∨
   (∃(j:Nat) (b b' c b0:ah),pl[j]? =some (.blk id)∧bs[j]? =some b∧hp0 j=some c∧gh P w β hp (.blk id) (o j) c∧hp id=some b0∧b0.le b'∧fZ id=some b'∧jI σ b b'∧Fz hp (id,b')∧β' id=β id∧c.le b∧(b≠ .dead→cB j=β id))∨
   (fZ id=hp id∧(∀j:Nat,pl[j]? ≠some (.blk id))∧β' id=β id):=by
  intro id;by_cases hm: ∃b,(id,b)∈fr++bk
  ·obtain ⟨b,hm⟩:=hm;obtain ⟨b',Bg,he⟩:=Jl (hp:=hp) hm;rw[QB] at he;rcases eF.1 Bg with h|h
   ·have h0:=BZ _ h;have sj:β' id=cB (pl.length+(id-nb)):=aE ⟨_,h,rfl⟩;rw[FA] at h;obtain ⟨i,b1,k1,k2⟩:=YW h;rw[qx] at k1;cases k2;exact .inl ⟨i,b1,rfl,k1,he,h0,by rw[sj];congr 2;omega⟩
   ·obtain ⟨j,b1,q1,q2,q3,q4⟩:=vi _ h;obtain ⟨c,c1,c2⟩:=Y4 j id q1;obtain ⟨c3,b0,c4,c5⟩:=c2.QA;obtain ⟨b2,d1,d2,d3⟩:=BY.blk j c c1;rw[kL,q2] at d1;cases d1;refine .inr (.inl ⟨j,b1,b',c,b0,q1,q2,c1,c2,c4,c2.aj7 c4 d2 q3 q4,he,q3,q4,aF ?_,d2,fun h=>(d3 h).trans c3⟩);rintro ⟨q,hq,hqe⟩;rw[←hqe,BZ q hq] at c4;cases c4
  ·refine .inr (.inr ⟨?_,fun j hj=> ?_,aF ?_⟩)
   ·rcases wz (hp:=hp) (l:=fr++bk) (id:=id) with h|⟨b,hb,_⟩
    ·rw[QB] at h;exact h
    ·exact absurd ⟨b,hb⟩ hm
   ·obtain ⟨aq,b,e,hb⟩:=KO j _ hj;cases e;exact hm ⟨b,eF.2 (.inr hb)⟩
   ·rintro ⟨q,hq,rfl⟩;exact hm ⟨q.2,eF.2 (.inl hq)⟩
 have Y5: ∀b,si P w o hp0 b→∃(j id:Nat) (b1:ah),pl[j]? =some (.blk id)∧hp id=some b1∧bd P w (β id) b1 b:=by
  rintro b ⟨j,c,hc,ho⟩;obtain ⟨p,h1,h2⟩:=hl j c hc;rw[pf] at h1;obtain ⟨id,b2,rfl,_⟩:=KO j p h1;obtain ⟨b1,k1,k2,_⟩:=h2.yV ho;exact ⟨j,id,b1,h1,k1,k2⟩
 have other: ∀id blk b,hp id=some blk→bd P w (β id) blk b→(∀j:Nat,pl[j]? ≠some (.blk id))→¬si P w o hp0 b∧w'.heap[b]? =w.heap[b]? ∧(∀j,I2 b j→I b j):=by
  intro id blk b e1 e3 e4;have tB: ¬si P w o hp0 b:=by
   intro hx;obtain ⟨j,aq,b1,i1,i2,i3⟩:=Y5 b hx;have:=S.h.inj id aq _ _ b e1 i2 e3 i3;subst this;exact e4 j i1
  have aY:=S.h.lt e1 e3;refine ⟨tB,Sc.cH b aY tB,fun j h=> ?_⟩;rcases Sc.new b j h with h|h|h
  ·exact h
  ·exact absurd h tB
  ·omega
 have wS:tA σ cB (mR bs) β' fZ:=by
  refine ⟨fun j b hj=> ?_,fun j hj=> ?_,fun j id ver path hj=> ?_⟩
  ·rw[kL] at hj;by_cases dh:j<pl.length
   ·obtain ⟨id,b1,e,qQ⟩:=KO j _ (bU dh);have KP:pl[j]? =some (.blk id):=by rw[bU dh,e]
    have QC:gn σ j=some (.blk id):=by rw[vh];exact sh (by rw[pf];exact KP)
    rcases cls id with ⟨i,b2,c1,c2,c3,c4,c5⟩|⟨j',b2,b',c,b0,q1,q2,q3,q4,q5,q6,q7,q8,q9,tC,B0,vj⟩|⟨c1,c2,c3⟩
    ·obtain ⟨c,d1,d2⟩:=Y4 j id KP;obtain ⟨_,b0,d3,_⟩:=d2.QA;rw[d3] at c4;cases c4
    ·obtain rfl:=uniq _ _ _ q1 KP;rw[hj] at q2;cases q2;exact ⟨id,b',QC,q7,q8,fun h=>tC.trans (vj h).symm⟩
    ·exact absurd KP (c2 j)
   ·have Y6:=(cu.1 hj).1;have QC:gn σ j=some (.blk (nb+(j-pl.length))):=by
     rw[vh,pf,oO (by omega)];exact KN (by omega)
    have hm:(nb+(j-pl.length),xP σ b)∈fr:=by
     rw[FA];refine YX ?_;rw[qx,show pl.length+(j-pl.length)=j by omega];exact hj
    rcases cls (nb+(j-pl.length)) with ⟨i,b2,c1,c2,c3,c4,c5⟩|⟨j',b2,b',c,b0,q1,q2,q3,q4,q5,q6,q7,q8,q9,tC,B0,vj⟩|⟨c1,c2,c3⟩
    ·have hi:i=j-pl.length:=by omega
     subst hi;rw[show pl.length+(j-pl.length)=j by omega] at c2 c5;rw[hj] at c2;cases c2;exact ⟨_,_,QC,c3,.of σ _,fun _=>c5⟩
    ·rw[BZ _ hm] at q5;cases q5
    ·obtain ⟨b',Bg,he⟩:=Jl (hp:=hp) (l:=fr++bk) (eF.2 (.inl hm));rw[QB,c1,BZ _ hm] at he;cases he
  ·rw[kL] at hj;have:=List.getElem?_eq_none_iff.1 hj;rw[vh,pf,List.getElem?_eq_none_iff,ik,Qz];omega
  ·rw[vh,pf] at hj;by_cases dh:j<pl.length
   ·rw[nG dh] at hj;obtain ⟨aq,b1,e,_⟩:=KO j _ hj;cases e
   ·have Y6:j-pl.length<bs.length-pl.length:=by
     have:=(cu.1 hj).1;rw[ik,Qz] at this;omega
    rw[oO (by omega),KN Y6] at hj;cases hj
 have hle:Le P w I β hp w' I2 β' fZ:=by
  refine ⟨BY.ej,BY.cH,fun id blk ae=> ?_,fun id blk blk' b ae bR vk hb=> ?_,fun id e es vers e' aJ vers' b q i c t v e1 l ae bR hb aY hv ht hc=> ?_⟩
  ·rcases cls id with ⟨i,b2,c1,c2,c3,c4,c5⟩|⟨j',b2,b',c,b0,q1,q2,q3,q4,q5,q6,q7,q8,q9,tC,B0,vj⟩|⟨c1,c2,c3⟩
   ·rw[ae] at c4;cases c4
   ·rw[ae] at q5;cases q5;exact ⟨b',q7,q6,fun _=>tC⟩
   ·exact ⟨blk,c1.trans ae,ah.le_refl _,fun _=>c3⟩
  ·rcases cls id with ⟨i,b2,c1,c2,c3,c4,c5⟩|⟨j',b2,b',c,b0,q1,q2,q3,q4,q5,q6,q7,q8,q9,tC,B0,vj⟩|⟨c1,c2,c3⟩
   ·rw[ae] at c4;cases c4
   ·rw[q7] at bR;cases bR;exact BY.size j' c b2 b q3 (by rw[kL];exact q2) (q8.Y0 vk) (q4.QA.1.trans hb)
   ·rw[c1,ae] at bR;cases bR;simp only[bsize,(other id blk b ae (.root vk hb) c2).2.1]
  ·rcases cls id with ⟨i2,b2,c1,c2,c3,c4,c5⟩|⟨j',b2,b',c',b0,q1,q2,q3,q4,q5,q6,q7,q8,q9,tC,B0,vj⟩|⟨c1,c2,c3⟩
   ·rw[ae] at c4;cases c4
   ·rw[q7] at bR;cases bR;obtain ⟨_,_,wA,_,_,k1,k2⟩:=q9 ⟨_,_,_,rfl⟩;change hp id=_ at k1;rw[ae] at k1;cases k1;cases k2;rw[Y1 aY] at hv;omega
   ·rw[c1,ae] at bR;cases bR;exact ⟨l,rfl,hc.mono fun _ _ _ _ h=>(other id _ _ ae (.row hb h) c2).2.1⟩
 have place: ∀id blk b,fZ id=some blk→bd P w' (β' id) blk b→(∃j c,mR bs j=some c∧bd P w' (cB j) c b∧gn σ j=some (.blk id))∨(b<w.heap.size∧¬si P w o hp0 b∧hp id=some blk∧bd P w (β id) blk b):=by
  intro id blk b e1 e3;rcases cls id with ⟨i,b2,c1,c2,c3,c4,c5⟩|⟨j',b2,b',c,b0,q1,q2,q3,q4,q5,q6,q7,q8,q9,tC,B0,vj⟩|⟨c1,c2,c3⟩
  ·rw[c3] at e1;cases e1;rw[c5] at e3;refine .inl ⟨pl.length+i,b2,by rw[kL];exact c2,(jI.of σ b2).yV e3,?_⟩;have:=(cu.1 c2).1;rw[vh,pf,oO (by omega),KN (by omega),c1];congr 3;omega
  ·rw[q7] at e1;cases e1;have vk:b2≠ .dead:=q8.Y0 e3.alive;rw[tC,←vj vk] at e3;exact .inl ⟨j',b2,by rw[kL];exact q2,q8.yV e3,by rw[vh];exact sh (by rw[pf];exact q1)⟩
  ·rw[c1] at e1;rw[c3] at e3;have:=e3.mono (w:=w) fun b hb=>(other id blk b e1 hb c2).2.1;exact .inr ⟨S.h.lt e1 this,(other id blk b e1 this c2).1,e1,this⟩
 have wx: ∀b,si P w o hp0 b∨w.heap.size≤b→M b∨B≤b:=by
  rintro b (h|h)
  ·obtain ⟨j,id,b1,i1,i2,i3⟩:=Y5 b h;exact S.h.own id b1 b i2 i3
  ·exact .inr (oc S.size h)
 have QD: ∀j c b,mR bs j=some c→bd P w' (cB j) c b→si P w o hp0 b∨w.heap.size≤b:=fun j c b h1 h2=>Sc.h.own j c b h1 h2;refine ⟨β',hle,⟨⟨fun id blk ae=> ?_,fun i1 i2 b1 b2 b e1 e2 f1 f2=> ?_,fun id blk b ae hb=> ?_,Sc.h.jR⟩,fun b hb hM=> ?_,oc S.size Sc.size,fun b j hb=> ?_,⟨Sc.io.1.trans S.io.1,Sc.io.2.trans S.io.2⟩⟩,wS⟩
 ·rcases cls id with ⟨i,b2,c1,c2,c3,c4,c5⟩|⟨j',b2,b',c,b0,q1,q2,q3,q4,q5,q6,q7,q8,q9,tC,B0,vj⟩|⟨c1,c2,c3⟩
  ·rw[c3] at ae;cases ae;rw[c5];exact wS.YZ (Sc.h.rel _ b2 (by rw[kL];exact c2)) (.of σ b2)
  ·rw[q7] at ae;cases ae;have:=wS.YZ (Sc.h.rel j' b2 (by rw[kL];exact q2)) q8;by_cases vk:b2= .dead
   ·subst vk;cases q8;exact .dead
   ·rw[tC,←vj vk];exact this
  ·rw[c1] at ae;rw[c3];exact (S.h.rel id blk ae).mono hle fun b hb=>(other id blk b ae hb c2).2
 ·rcases place i1 b1 b e1 f1 with ⟨j1,c1,g1,g2,g3⟩|⟨g1,g2,g3,g4⟩<;>rcases place i2 b2 b e2 f2 with ⟨j2,c2,k1,k2,k3⟩|⟨k1,k2,k3,k4⟩
  ·have:=Sc.h.inj j1 j2 c1 c2 b g1 k1 g2 k2;subst this;rw[g3] at k3;cases k3;rfl
  ·rcases QD j1 c1 b g1 g2 with h|h
   ·exact absurd h k2
   ·omega
  ·rcases QD j2 c2 b k1 k2 with h|h
   ·exact absurd h g2
   ·omega
  ·exact S.h.inj i1 i2 _ _ b g3 k3 g4 k4
 ·rcases place id blk b ae hb with ⟨j1,c1,g1,g2,g3⟩|⟨g1,g2,g3,g4⟩
  ·exact wx b (QD j1 c1 b g1 g2)
  ·exact S.h.own id blk b g3 g4
 ·refine (Sc.cH b (oK hb S.size) fun hx=> ?_).trans (S.cH b hb hM)
  rcases wx b (.inl hx) with h|h
  ·exact hM h
  ·omega
 ·rcases Sc.new b j hb with h|h|h
  ·exact S.new b j h
  ·exact .inr (wx b (.inl h))
  ·exact .inr (wx b (.inr h))
end
section
variable {P:Program} {A:dn} {w w':World} {I I' I2:Nat→Nat→Prop} {μ β β' cB:Nat→Option Nat} {hp hp' hp0 bE:Nat→Option ah} {C:af} {B:Nat} {M:Nat→Prop} {w0:Start}
theorem Y7 (hp:Nat→Option ah): ∀(a b:List (Nat×ah)),b9 hp (a++b)=b9 (b9 hp b) a
 | [],b=>rfl
 | (i,x)::a,b=>by simp only[List.cons_append,b9,Y7 hp a b]
theorem B3 {hp:Nat→Option ah} {l:List (Nat×ah)} {id:Nat} (h: ∀q∈l,q.1≠id):b9 hp l id=hp id:=by
 rcases wz (hp:=hp) (l:=l) (id:=id) with h1|⟨b,hb,_⟩
 all_goals grind
def yW (P : Program) : Prop := ∀ (f : Nat) fn, P.funcs[f]? = some fn → (fn.name == "runtime.NumGoroutine") = false
def KQ (P:Program) (f:FuncId) (e:TypeId):Prop:=
 (∀args w,(callFunc f args).run P w= .ok (.enter f args) w)∧∃t,P.underlying t=some (.slice e)∧
  ∀(s:Value) (w:World) (Q:Ending→World→Prop),(s= .slice none 0 0→Q (.returned (.slice none 0 0)) w)→
   (∀a n c,s= .slice (some a) n c→∃v w',(Builtin.append_ #[t,t] t #[.slice (some ⟨w.heap.size,0,none⟩) 0 0,s]).run P (w.alloc (.cells #[] e))= .ok v w'∧Q (.returned v) w')→
   (s= .slice none 0 0∨∃a n c,s= .slice (some a) n c)→Calls P f #[s] w Q
structure kO (P:Program) (A:dn):Prop where
 count:yW P
 ext: ∀f T,A.ext f=some T→∀(b:Nat) (C:Array Value) (w:World),w.heap[b]? =some (.cells C T (0,0))→C.size=P.cellsOf T→(C[0]? =some (.pointer none)∨C[0]? =some (.pointer (some ⟨b,0,none⟩)))→
  (callFunc f #[.pointer (some ⟨b,0,none⟩)]).run P w= .ok (.enter f #[.pointer (some ⟨b,0,none⟩)]) w∧
  Calls P f #[.pointer (some ⟨b,0,none⟩)] w fun e w'=>e= .returned (.tuple #[])∧(w'=w∨w'=w.setCell ⟨b,0,none⟩ (.pointer (some ⟨b,0,none⟩)))
 idle: ∀f,A.idle f=true→(∀args w,(callFunc f args).run P w= .ok (.enter f args) w)∧
  ∀args w,CallsD P f args .returning w fun e u' w'=>(∃v,e= .returned v)∧u'= .returning∧w'=w
 rC: ∀f e,A.rC f=some e→KQ P f e
 QE: ∀f T,A.ext f=some T→P.cellsOf T=0→∀(s:ByteArray) (c:Int) (w:World),(callFunc f #[.string s,.int .u8 c]).run P w= .ok (.value (.int .i64 (Lib.indexByte s.data.toList c.toNat.toUInt8))) w
theorem kO.here {P:Program} {A:dn} (h:kO P A) (f id:Nat):kO P (A.here f id):=⟨h.count,h.ext,h.idle,h.rC,h.QE⟩
def FB (E:FuncId→Bool) (d:Deferred):Prop:= ∃f cap,d.target= .fn (.func f) cap∧E f=true
theorem QF {P:Program} {A:dn} (hP:kO P A) {fn:Func} {tmps:Array Value} {R:Ending→World→Prop} {w:World} {v:Value} (hv:(results fn tmps).run P w= .ok v w) (hR:R (.returned v) w):
  ∀ds:List Deferred,(∀d∈ds,FB A.idle d)→Leaves P fn tmps R ds .returning w
 | [],_=>⟨v,hv,hR⟩
 | d::ds,h=>by
  obtain ⟨f,cap,ht,hf⟩:=h d (by simp);obtain ⟨k1,k2⟩:=hP.idle f hf;obtain ⟨t,Y8⟩:=d;simp only at ht;subst ht;refine leaves_cons (f:=f) (args:=Y8++cap) (by simp) ?_ ?_
  ·simp only[invoke];grind
  ·refine (k2 (Y8++cap) w).mono fun e u' w' hr=> ?_;obtain ⟨⟨v',rfl⟩,rfl,rfl⟩:=hr;exact QF hP hv hR ds fun d hd=>h d (nD _ hd)
def B4 (P:Program) (A:dn) (o:Oper) (a:Act) (w:World) (I:Nat→Nat→Prop) (β:Nat→Option Nat) (hp:Nat→Option ah) (B:Nat) (M:Nat→Prop) (w0:Start) (r:R):Prop:=
 ∀(next:Act→World→Prop) (Q:Exit→Act→World→Prop),
  (∀v w' I' β' ds,Le P w I β hp w' I' β' (b9 hp r.upd)→ay P w' I' β' (b9 hp r.upd) B M w0→aj P w' I' β' (b9 hp r.upd) v r.v→(∀d∈ds,d∈a.defers∨FB A.idle d)→next ({a with defers:=ds}.put o.dst v) w')→o.wp P a w next Q
theorem rR.step {o:Oper} {a:Act} {r:R} (h:rR P ((execOp a.eval o).run P w) w I β hp B M w0 r):B4 P A o a w I β hp B M w0 r:=by
 obtain ⟨v,w',I',β',h1,h2,h3,h4⟩:=h;intro next Q hn
 unfold Oper.wp;rcases h1 with h1|⟨h1,rfl⟩
 ·rw[h1];exact hn v w' I' β' a.defers h2 h3 h4 fun d hd=> .inl hd
 ·rw[h1];exact hn _ w' I' β' a.defers h2 h3 h4 fun d hd=> .inl hd
theorem Y9: ∀(l:List (Nat×VS)),rD l=wh (l.map (·.2))
 | []=>rfl
 | (_,s)::l=>by simp only[rD,kY,wh,Y9 l]
theorem aj8 (hC:oy P A C) (S:ay P w I β hp B M w0) (hg:jS P A.aB w I) {vals:List Value} {args:List V} {nb key:Nat} {f:FuncId} {r:R} {rd:List Nat} (hlen:vals.length=args.length)
  (cL: ∀(j:Nat) v x,vals[j]? =some v→args[j]? =some x→aj P w I β hp v x) (h:(DZ P A nb key f args).run C hp=some (r,rd)):
  ∃fn c,P.funcs[f]? =some fn∧fn.body=some c∧Calls P f vals.toArray w fun e w'=> ∃v I' β',e= .returned v∧Le P w I β hp w' I' β' (b9 hp r.upd)∧ay P w' I' β' (b9 hp r.upd) B M w0∧aj P w' I' β' (b9 hp r.upd) v r.v:=by
 unfold DZ at h;obtain ⟨Za,h0⟩:=az h;clear h;rw[aK] at Za;subst Za;obtain ⟨h1,jH,d1,u1,a1,a2,a3,a5,a4⟩:=Qx S h0 hlen cL;obtain ⟨h2,w8,d2,u2,b1,b2,b3,b4⟩:=YO S a1;clear h0 a1;obtain ⟨hc,h3⟩:=az b1;clear b1;simp only[aI,aK,mL] at hc;obtain ⟨eD,KL⟩:=hc;have KR:=a2.trans b2;have oJ:h2.ds=d1++d2:=by have:=KR.ds;grind
 have vb:h2.upd=u1++u2:=by have:=KR.upd;grind
 have nX:(h2.pl.map Place.id).Nodup:=KR.nodup (by simp);obtain ⟨c1,o,c2,c3⟩:=b4 [];simp only[ug] at c1 c2 c3;cases FC:C key h2.ds with
 | none=>
  simp only[Rd.run,FC] at h3;cases h3
 | some es=>
  have uH: ∃gO,(DY P (A.so key es) nb h2 (A.lv key es)).run C hp=some (r,gO):=by
   obtain ⟨x,hx,e⟩:=bind_some h3;rw[FC] at hx;cases hx;unfold dn.so dn.lv;cases dj:A.alt key with
   | none=>grind
   | some S2=>
    rw[dj] at e;simp only[Rd.run] at e;grind
  clear h3;obtain ⟨gO,h3⟩:=uH;unfold DY at h3;simp only at h3;generalize j6:hY (A.so key es).cS ((A.lv key es).drop (rD (A.so key es).ch))=bs at h3;generalize vh:h2.pl++wi nb (bs.length-h2.pl.length)=σ at h3;generalize FA:uy σ nb (bs.drop h2.pl.length)=fr at h3;obtain ⟨p0,bk,rd4,p1,p2,_,p3⟩:=YV h3;obtain ⟨BZ,rd5,p4⟩:=YY p1;obtain ⟨yX,p4⟩:=az p4;obtain rfl:=aL p4;have rP:h2.pl.length≤bs.length:=by grind
  have vi: ∀q∈bk,∃(j:Nat) (b:ah),h2.pl[j]? =some (.blk q.1)∧bs[j]? =some b∧jI σ b q.2∧Fz hp q:=by
   intro q hq;rcases p2 q hq with hx|⟨j,b,k1,k2,k3,k4⟩
   ·simp at hx
   ·have hj:=(cu.1 k1).1;rw[jr hj] at k2;exact ⟨j,b,k1,k2,k3,k4⟩
  obtain ⟨fn,c,hf,hb,QG⟩:=hC key h2.ds es FC;refine ⟨fn,c,hf,hb,?_⟩;have hmb:hY (A.sin key).cS (h2.ds.drop (rD (A.sin key).ch))=hY (A.sin key).cS d2:=by
   rw[oJ,Y9,KH a3]
  have QH:(bG (A.sin key) h2.ds).hp=mR (hY (A.sin key).cS d2):=by
   simp only[bG,mk,hmb]
  have hl: ∀j blk,(bG (A.sin key) h2.ds).hp j=some blk→∃p,gn h2.pl j=some p∧gh P w β hp p (o j) blk:=by
   intro j blk hj;rw[QH,kL] at hj;grind
  have hd: ∀j,j<h2.pl.length→∃blk,(bG (A.sin key) h2.ds).hp j=some blk:=by
   intro j hj;rw[QH,kL];simp_all
  have Zb:Fu P w β hp h2.pl o (bG (A.sin key) h2.ds).hp:=by
   intro j p hj;obtain ⟨blk,k1⟩:=hd j (by rw[pf] at hj;grind);grind
  have i1: ∀b j,I b j→jT P w I β hp h2.upd b j:=fun b j h=> .inl h;have entry:=aj3 (hp0:=(bG (A.sin key) h2.ds).hp) S nX KL hl (fun dd j blk hj=>by
   have dZ:=hj;rw[QH,kL] at dZ;exact c3 (jT P w I β hp h2.upd) o _ i1 (fun q hq b j hb=> .inr ⟨q,by grind,hb⟩) h2.pl [] (by simp) Zb j blk dZ (dd j blk hj)) (fun b j h=>h.elim (S.h.jR b j) fun ⟨p,_,blk,g1,g2⟩=>S.h.lt g1 g2.own)
  have aj9:vals.length=(A.sin key).ch.length:=by grind
  have ha:=QG w (jT P w I β hp h2.upd) o vals entry (hg.mono i1 fun _ _ _=>rfl) aj9 fun j v x hj hx=>by
   rw[oJ] at hx;exact (((a4.later b2) (jT P w I β hp h2.upd) o _ i1 (fun q hq b j hb=> .inr ⟨q,by grind,hb⟩) h2.pl [] (by simp) Zb) d2).2 j v x hj hx
  refine ha.mono fun e w' FD=> ?_;obtain ⟨v,I2,cB,rfl,ha⟩:=FD;have KS:(bG (A.so key es) (A.lv key es)).hp=mR bs:=by simp only[bG,mk,j6]
  cases Zc:(A.so key es).safe P with
  | true=>
   simp only[cond_true,ug];have tk: ∀b j,I b j→I2 b j:=fun b j h=>ha.le.ej b j (i1 b j h);obtain ⟨s1,s2⟩:=aj6 Zc tk ha.BX i1;have BY:ox w I o (bG (A.sin key) h2.ds).hp w' I cB (mR bs):=by
    rw[←KS];exact ⟨fun _ _ h=>h,fun b j h=>ha.le.cH b j (i1 b j h),ha.le.blk,ha.le.size⟩
   obtain ⟨β',k1,k2,k3⟩:=Y3 S vh.symm FA.symm nX rP p3 vi hl hd (by rw[←KS];exact ⟨s1.h,s1.cH,s1.size,fun b j h=> .inl h,s1.io⟩) BY BZ;exact ⟨v,I,β',rfl,k1,k2,k3.val (by have:=s2 v ha.res;grind)⟩
  | false=>
   simp only[cond_false];rw[Zc,Bool.false_or,gZ] at yX;have B5: ∀q∈h2.upd,Ba hp q:=fun q hq=>by
    have u5:=yX q hq;rcases KR.KI q (vb▸hq) with h|⟨T,cs,h,_⟩
    all_goals grind
   obtain ⟨qP,S1⟩:=Be S B5;rw[←la,Y7];have tB: ∀p∈h2.pl,b9 hp h2.upd p.id=hp p.id:=fun p hp=>B3 fun q hq e=>
    KK KL (iQ.2 ⟨q,hq,rfl⟩) (e▸iQ.2 ⟨p,hp,rfl⟩)
   have aka: ∀q∈bk,∃(j:Nat) (b:ah),h2.pl[j]? =some (.blk q.1)∧bs[j]? =some b∧jI σ b q.2∧Fz (b9 hp h2.upd) q:=by
    intro q hq;obtain ⟨j,b,k1,k2,k3,k4⟩:=vi q hq;refine ⟨j,b,k1,k2,k3,fun hn=> ?_⟩;have:=tB _ (mi k1);simp only[Place.id] at this;grind
   have OC: ∀j blk,(bG (A.sin key) h2.ds).hp j=some blk→∃p,gn h2.pl j=some p∧gh P w β (b9 hp h2.upd) p (o j) blk:=by
    intro j blk hj;obtain ⟨p,k1,k2⟩:=hl j blk hj;exact ⟨p,k1,k2.other (tB p (by rw[pf] at k1;grind))⟩
   have akb: ∀q∈fr,b9 hp h2.upd q.1=none:=by
    intro q hq;rw[B3 fun q' dz e=> ?_]
    ·grind
    ·obtain ⟨e1,dc,_,h5⟩:=B5 q' dz;grind
   obtain ⟨β',k1,k2,k3⟩:=Y3 S1 vh.symm FA.symm nX rP p3 aka OC hd (by rw[←KS];exact ha.BX) (by rw[←KS];exact ha.le) akb;exact ⟨v,I2,β',rfl,qP.trans k1,k2,k3.val (by have:=ha.res;grind)⟩
theorem Zd (hC:oy P A C) (hP:kO P A) (S:ay P w I β hp B M w0) (hg:jS P A.aB w I) {a:Act} {nb key:Nat} {o:Oper} {f:FuncId} {vals:List Value} {args:List V} (hlen:vals.length=args.length)
  (cL: ∀(j:Nat) v x,vals[j]? =some v→args[j]? =some x→aj P w I β hp v x) {r:R} {rd:List Nat} (h:(DZ P A nb key f args).run C hp=some (r,rd))
  (hex:(execOp a.eval o).run P w=(callFunc f vals.toArray).run P w):B4 P A o a w I β hp B M w0 r:=by
 intro next Q hn
 obtain ⟨fn,c,hf,hb,QG⟩:=aj8 hC S hg hlen cL h;unfold Oper.wp;rw[hex,MuLone.run_callFunc_enter hf (hP.count f _ hf) hb,Oper.upon_enter];refine QG.mono fun e w' FD=> ?_;obtain ⟨v,I2,cB,rfl,k1,k2,k3⟩:=FD;exact hn v w' I2 cB a.defers k1 k2 k3 fun d hd=> .inl hd
theorem nM.args {a:Act} {sl:Nat→V} (hs:nM P w I β hp a sl) (hg:jS P A.aB w I) {args:Array Operand} {ts:Array TypeId} (aZ:args.size=ts.size):
  (args.map a.eval).toList.length=((args.toList.zip ts.toList).map fun p=>aS P A.aB p.2 sl p.1).length∧
  ∀(j:Nat) v x,(args.map a.eval).toList[j]? =some v→((args.toList.zip ts.toList).map fun p=>aS P A.aB p.2 sl p.1)[j]? =some x→aj P w I β hp v x:=by
 refine ⟨by simp;omega,fun j v x hv hx=> ?_⟩;simp only[Array.toList_map,kZ,List.getElem?_zip_eq_some,Option.map_eq_some_iff] at hv hx;obtain ⟨x1,kJ,rfl⟩:=hv;obtain ⟨⟨y1,t1⟩,⟨yY,_⟩,rfl⟩:=hx;rw[kJ] at yY;cases yY;exact hs.ev hg t1 _
theorem akc (hP:kO P A) (S:ay P w I β hp B M w0) (hg:jS P A.aB w I) {a:Act} {sl:Nat→V} (hs:nM P w I β hp a sl) {dst:Option Tmp} {ty e:TypeId} {pos:String} {after:Array Edge} {guard:Option (Nat×Bool)} {f:FuncId}
  {args:Array Operand} {argTypes:Array TypeId} {nb:Nat} {r:R} {rd:List Nat} (j8:A.rC f=some e)
  (h:((match args.toList with
    | [x]=> .ax (cW P e) (ur e (aS P A.aB ty sl x) fun xs=> .ax (Nat.ble (xs.length*P.bytesOf e) aW) (jw nb (.arr e xs false) (.whole e nb) []))
    | _=> .fail):Rd R).run C hp=some (r,rd)):B4 P A (Oper.mk dst (.call (Go.Call.mk (.value (.func f)) args argTypes)) ty pos after guard) a w I β hp B M w0 r:=by
 cases ha:args.toList with
 | nil=>rw[ha] at h;cases h
 | cons x l=>
  rw[ha] at h;cases l with
  | cons _ _=>cases h
  | nil=>
   simp only at h;have e1:args= #[x]:=by grind
   subst e1;have hx:=hs.ev hg ty x;obtain ⟨ao,h⟩:=az h;have fin: ∀{w1:World} {tf:Nat→Option Nat},(∀id blk,hp id=some blk→eV P w1 I tf hp (tf id) blk)→aj P w1 I tf hp (a.eval x) (aS P A.aB ty sl x)→∃xs,(((∃a',a.eval x= .slice a' 0 0)∧xs=[])∨∃a' c news,Row P w1 I e (a.eval x) xs a' c news)∧
     xs.length*P.bytesOf e≤aW∧hp nb=none∧r=⟨.whole e nb,[(nb,.arr e xs false)]⟩:=by
    intro w1 tf h1 h2;obtain ⟨xs,nj,l,h⟩:=Ff h1 ao h2 h;obtain ⟨ew,h⟩:=az h;rw[fV] at ew;obtain ⟨hn,rfl⟩:=mD h;grind
   obtain ⟨c1,t,hu,c2⟩:=hP.rC f e j8;intro next Q tt
   unfold Oper.wp;have e2:(execOp a.eval ⟨dst,.call ⟨.value (.func f),#[x],argTypes⟩,ty,pos,after,guard⟩).run P w= .ok (.enter f #[a.eval x]) w:=by
    have gP:a.eval (.func f)= .func (.func f) #[] #[]:=rfl;simpa[execOp,resolve,gP,Deferred.ofValue,invoke] using c1 #[a.eval x] w
   rw[e2,Oper.upon_enter];refine c2 _ w _ (fun FE=> ?_) (fun b n c BI=> ?_) ?_
   ·obtain ⟨xs,nj,ew,hn,rfl⟩:=fin S.h.rel hx;have jF:xs=[]:=by
     rcases nj with ⟨_,h⟩|⟨a,c,news,hr⟩
     ·exact h
     ·have:=hr.val.symm.trans FE;cases this
    subst jF;obtain ⟨a1,a2⟩:=Ei S e hn;exact tt _ w I _ a.defers a1 a2 (.dS (bD _ _ _) (bD _ _ _)) fun d hd=> .inl hd
   ·obtain ⟨m1,m2⟩:=afU (w':=w.alloc (.cells #[] e)) S (fun b hb=>heap_alloc_old w _ b hb) (by simp) ⟨rfl,rfl⟩;obtain ⟨xs,nj,ew,hn,rfl⟩:=fin m2.h.rel (hx.mono m1);obtain ⟨v,w',β',a1,a2,a3,a4⟩:=PW (ty:=t) (a0:=some ⟨w.heap.size,0,none⟩) m2 hu ao hn ew nj;exact ⟨v,w',a1,tt v w' I β' a.defers (m1.trans a2) a3 a4 fun d hd=> .inl hd⟩
   ·obtain ⟨xs,nj,ew,hn,rfl⟩:=fin S.h.rel hx;rcases nj with ⟨⟨b,h⟩,_⟩|⟨b,c,news,hr⟩
    ·rw[h];cases b with
     | none=>grind
     | some b=>grind
    ·exact .inr ⟨_,_,_,hr.val⟩
theorem akd (hP:kO P A) (S:ay P w I β hp B M w0) {a:Act} {dst:Option Tmp} {ty T0:TypeId} {pos:String} {after:Array Edge} {guard:Option (Nat×Bool)} {f:FuncId}
  {args:Array Operand} {argTypes:Array TypeId} {xs:List V} {r:R} {rd:List Nat} (w9:A.ext f=some T0) (hz:P.cellsOf T0=0) (k1:(args.map a.eval).toList.length=xs.length)
  (k2: ∀(j:Nat) v x,(args.map a.eval).toList[j]? =some v→xs[j]? =some x→aj P w I β hp v x) (h:(On xs).run C hp=some (r,rd)):B4 P A (Oper.mk dst (.call (Go.Call.mk (.value (.func f)) args argTypes)) ty pos after guard) a w I β hp B M w0 r:=by
 unfold On at h;split at h
 ·rename_i s c;obtain rfl:=aL h;generalize hv:args.map a.eval=vs at*
  obtain ⟨vs⟩:=vs
  match vs,k1,k2 with
  | [u,v],_,k2=>
   obtain ⟨s',rfl,hs⟩:=(k2 0 u _ rfl rfl).oh;obtain rfl:=(k2 1 v _ rfl rfl).fM;have q:=hP.QE f T0 w9 hz s' c w;rw[hs] at q;refine rR.step ⟨.int .i64 (Lib.indexByte s c.toNat.toUInt8),w,I,β,.inl ?_,Le.refl w I β hp,S,.int⟩;have gP:a.eval (.func f)= .func (.func f) #[] #[]:=rfl;simpa[execOp,resolve,gP,Deferred.ofValue,invoke,hv] using q
 ·cases h
theorem ake (hP:kO P A) (S:ay P w I β hp B M w0) (hg:jS P A.aB w I) {a:Act} {sl:Nat→V} (hs:nM P w I β hp a sl) {dst:Option Tmp} {ty T0:TypeId} {pos:String} {after:Array Edge} {guard:Option (Nat×Bool)} {f:FuncId}
  {args:Array Operand} {argTypes:Array TypeId} {r:R} {rd:List Nat} (w9:A.ext f=some T0)
  (h:((match args.toList with
   | [x]=>
    match aS P A.aB ty sl x with
    | .ptr id i c=>Rd.get id fun
     | some (.var T cs)=> .ax (Nat.beq T T0&&(sL P T&&(Nat.beq cs.length (P.cellsOf T)&&(Nat.beq i 0&&Nat.beq c 0)))) (.ret ⟨.ba [],[(id,.var T (.undef::cs.tail))]⟩)
     | _=> .fail
    | _=> .fail
   | _=> .fail):Rd R).run C hp=some (r,rd)):B4 P A (Oper.mk dst (.call (Go.Call.mk (.value (.func f)) args argTypes)) ty pos after guard) a w I β hp B M w0 r:=by
 cases ha:args.toList with
 | nil=>rw[ha] at h;cases h
 | cons x l=>
  rw[ha] at h;cases l with
  | cons _ _=>cases h
  | nil=>
   simp only at h;have e1:args= #[x]:=by grind
   subst e1;have hx:=hs.ev hg ty x;cases jc:aS P A.aB ty sl x<;>rw[jc] at h hx<;>simp only at h<;>first|(cases h;done)|skip
   rename_i id i c;obtain ⟨l,h1⟩:=run_get h;cases ae:hp id with
   | none=>rw[ae] at h1;cases h1
   | some blk=>
    rw[ae] at h1;cases blk<;>simp only at h1<;>first|(cases h1;done)|skip
    rename_i T cs;obtain ⟨h2,h3⟩:=az h1;simp only[aI,aK] at h2;obtain ⟨rfl,dp,XG,rfl,rfl⟩:=h2;obtain rfl:=aL h3;obtain ⟨b,hb,he⟩:=hx.iZ ae (by simp);have hr:=S.h.rel id _ ae;rw[hb] at hr;cases hr with
    | @var _ b' Ca _ au hh aZ hI jF iH=>
     cases au;have BP:a.eval x= .pointer (some ⟨b,0,none⟩):=by grind
     obtain ⟨q1,q2⟩:=hP.ext f T w9 b Ca w hh (aZ.trans XG) (iH dp);have h0:0<Ca.size:=by
      rcases iH dp with k|k<;>exact (v7.1 k).1
     have rS:(V.undef::cs.tail).length=cs.length:=by
      grind
     have rel: ∀(C':Array Value),(∀j,0<j→C'[j]? =Ca[j]?)→∀(j:Nat) v y,C'[j]? =some v→(V.undef::cs.tail)[j]? =some y→aj P w I β hp v y:=by
      intro C' Kh j v y hj hy;cases j with
      | zero=>simp at hy;subst hy;exact .undef
      | succ j=>
       grind
     have fin: ∀w' C',(∀b',b'≠b→w'.heap[b']? =w.heap[b']?)→w'.heap[b]? =some (.cells C' T (0,0))→C'.size=Ca.size→w.heap.size≤w'.heap.size→w'.os=w.os∧w'.output=w.output→
       (∀j,0<j→C'[j]? =Ca[j]?)→(C'[0]? =some (.pointer none)∨C'[0]? =some (.pointer (some ⟨b,0,none⟩)))→
       Le P w I β hp w' I β (an hp id (some (.var T (V.undef::cs.tail))))∧ay P w' I β (an hp id (some (.var T (V.undef::cs.tail)))) B M w0:=by
      intro w' C' k1 k2 k3 k4 k5 k6 k7;exact Bj (w':=w') (blk':= .var T (V.undef::cs.tail)) S ae (by simp) rfl hb hI (by simp) k1 (by rw[lk k2,lk hh,k3]) k4 k5 fun hle=>
       .var rfl k2 (by omega) hI (fun j v y hj hy=>(rel C' k6 j v y hj hy).mono hle) fun _=>k7
     intro next Q hn
     unfold Oper.wp;have e2:(execOp a.eval ⟨dst,.call ⟨.value (.func f),#[x],argTypes⟩,ty,pos,after,guard⟩).run P w= .ok (.enter f #[.pointer (some ⟨b,0,none⟩)]) w:=by
      have gP:a.eval (.func f)= .func (.func f) #[] #[]:=rfl;simpa[execOp,resolve,gP,Deferred.ofValue,invoke,BP] using q1
     rw[e2,Oper.upon_enter];refine q2.mono fun e w' FD=> ?_;obtain ⟨rfl,hw⟩:=FD;have Ze:Le P w I β hp w' I β (an hp id (some (.var T (V.undef::cs.tail))))∧ay P w' I β (an hp id (some (.var T (V.undef::cs.tail)))) B M w0:=by
      rcases hw with rfl|rfl
      ·exact fin w' Ca (fun _ _=>rfl) hh rfl (av _) ⟨rfl,rfl⟩ (fun _ _=>rfl) (iH dp)
      ·refine fin (w.setCell ⟨b,0,none⟩ (.pointer (some ⟨b,0,none⟩))) (Ca.setIfInBounds 0 (.pointer (some ⟨b,0,none⟩))) (fun b' bH=> ?_) ?_ (by simp) (by simp_all) ⟨rfl,rfl⟩ (fun j hj=> ?_) (.inr ?_)
       ·simp only[World.setCell,IG];grind
       ·simp[World.setCell,IG,hh]
       all_goals grind
     exact hn (.tuple #[]) w' I β a.defers Ze.1 Ze.2 (.ba rfl fun j v y hj _=>by simp at hj) fun d hd=> .inl hd
theorem akf (hC:oy P A C) (hP:kO P A) (S:ay P w I β hp B M w0) (hg:jS P A.aB w I) {a:Act} {sl:Nat→V} (hs:nM P w I β hp a sl) {ix nb:Nat} {o:Oper} {r:R} {rd:List Nat}
  (h:(je P A sl ix nb o).run C hp=some (r,rd)):B4 P A o a w I β hp B M w0 r:=by
 cases hc:Qo o.op with
 | false=>exact (ajK S hg hs hc h).step
 | true=>
  obtain ⟨dst,op,ty,pos,after,guard⟩:=o;cases op<;>simp only[Qo] at hc<;>first|(cases hc;done)|skip
  case defer c=>
   obtain ⟨callee,args,argTypes⟩:=c;cases callee with
   | invoke r m=>simp only[je] at h;cases h
   | builtin b=>simp only[je] at h;cases h
   | value f=>
   cases f with
   | tmp t=>
    simp only[je] at h;cases dp:sl t<;>rw[dp] at h<;>simp only at h<;>first|(cases h;done)|skip
    rename_i f xs ys;obtain ⟨h1,h2⟩:=az h;obtain rfl:=aL h2;have hv:=hs t;rw[dp] at hv;generalize yQ:a.tmps.getD t undef=vt at hv;cases hv with
    | @fn _ fs cs _ _ q1 q2 q3 q4=>
     intro next Q hn
     unfold Oper.wp;have gP:a.eval (.tmp t)= .func (.func f) fs cs:=yQ;have e1:(execOp a.eval ⟨dst,.defer ⟨.value (.tmp t),args,argTypes⟩,ty,pos,after,guard⟩).run P w= .ok (.defer {target:= .fn (.func f) cs,args:=fs++args.map a.eval}) w:=by
      simp[execOp,resolve,gP,Deferred.ofValue]
     rw[e1,Oper.upon_defer];exact hn undef w I β _ (Le.refl w I β hp) S .undef fun d hd=>by
      rcases fW.1 hd with rfl|hd
      ·exact .inr ⟨f,cs,rfl,h1⟩
      grind
   | func f=>simp only[je] at h;cases h
   | const _=>simp only[je] at h;cases h
   | global _=>simp only[je] at h;cases h
  rename_i c;obtain ⟨callee,args,argTypes⟩:=c;cases callee with
  | invoke r m=>cases hc
  | builtin b=>cases hc
  | value f=>
   cases f with
   | func f=>
    simp only[je] at h;cases w9:A.ext f with
    | some T0=>
     rw[w9] at h;simp only at h;cases hz:Nat.beq (P.cellsOf T0) 0 with
     | true=>
      rw[hz] at h;simp only[cond_true] at h;rw[aK] at hz;obtain ⟨h1,h2⟩:=az h;rw[aK] at h1;obtain ⟨k1,k2⟩:=hs.args hg h1;exact akd hP S w9 hz k1 k2 h2
     | false=>
     rw[hz] at h;simp only[cond_false] at h;exact ake hP S hg hs w9 h
    | none=>
    rw[w9] at h;simp only at h;cases j8:A.rC f with
    | some e0=>
     rw[j8] at h;simp only at h;exact akc hP S hg hs j8 h
    | none=>
    rw[j8] at h;simp only at h;obtain ⟨h1,h2⟩:=az h;rw[aK] at h1;obtain ⟨k1,k2⟩:=hs.args hg h1;refine Zd hC hP S hg k1 k2 h2 ?_;have e1:(args.map a.eval).toList.toArray=args.map a.eval:=Array.toArray_toList;rw[e1];simp[execOp,resolve,Act.eval,Deferred.ofValue,invoke]
   | tmp t=>
    simp only[je] at h;cases dp:sl t<;>rw[dp] at h<;>simp only at h<;>first|(cases h;done)|skip
    rename_i f xs ys;obtain ⟨h1,h2⟩:=az h;rw[aK] at h1;obtain ⟨k1,k2⟩:=hs.args hg h1;have hv:=hs t;rw[dp] at hv;generalize yQ:a.tmps.getD t undef=vt at hv;cases hv with
    | @fn _ fs cs _ _ q1 q2 q3 q4=>
     have l1:fs.toList.length=xs.length:=by omega
     have l3:cs.toList.length=ys.length:=by omega
     have r1: ∀(j:Nat) v x,fs.toList[j]? =some v→xs[j]? =some x→aj P w I β hp v x:=fun j v x hj hx=>q2 j v x (by grind) hx;have r3: ∀(j:Nat) v x,cs.toList[j]? =some v→ys[j]? =some x→aj P w I β hp v x:=fun j v x hj hx=>q4 j v x (by grind) hx;refine Zd hC hP S hg (vals:=fs.toList++(args.map a.eval).toList++cs.toList) (args:=xs++((args.toList.zip argTypes.toList).map fun p=>aS P A.aB p.2 sl p.1)++ys) (by grind) ?_ h2 ?_
     ·grind
     ·have e1:(fs.toList++(args.map a.eval).toList++cs.toList).toArray=fs++args.map a.eval++cs:=by
       grind
      rw[e1];have gP:a.eval (.tmp t)= .func (.func f) fs cs:=yQ;simp[execOp,resolve,gP,Deferred.ofValue,invoke]
   | _=>cases hc
end
section
variable {P:Program} {A:dn} {w w':World} {I I' I2:Nat→Nat→Prop} {μ β β':Nat→Option Nat} {hp hp':Nat→Option ah} {C:af} {B:Nat} {M:Nat→Prop} {w0:Start}
structure iM (P:Program) (E:FuncId→Bool) (G:Nat→V) (w:World) (I:Nat→Nat→Prop) (β:Nat→Option Nat) (n:Nat) (a:Act) (st:St):Prop where
 sl:nM P w I β st.hp a st.sl
 size:a.tmps.size=n
 defers: ∀d∈a.defers,FB E d
 aB:jS P G w I
theorem QI {E:FuncId→Bool} {G:Nat→V} {n:Nat} {a:Act} {st:St} {o:Oper} {v:Value} {x:V} {hp':Nat→Option ah} {ds:List Deferred} (h:iM P E G w I β n a st) (hle:Le P w I β st.hp w' I' β' hp') (hd:wm o n=true)
  (hv:aj P w' I' β' hp' v x) (oJ: ∀d∈ds,d∈a.defers∨FB E d):iM P E G w' I' β' n ({a with defers:=ds}.put o.dst v) ⟨lf st.sl o.dst x,hp',st.nb⟩:=by
 have Zf: ∀d∈ds,FB E d:=fun d hd=>(oJ d hd).elim (h.defers d) id;cases akg:o.dst with
 | none=>exact ⟨fun k=>(h.sl k).mono hle,h.size,Zf,h.aB.mono hle.ej hle.cH⟩
 | some d=>
  have aY:d<a.tmps.size:=by
   unfold wm at hd;rw[akg] at hd;rw[h.size];simpa using hd
  refine ⟨fun k=> ?_,by simp[Act.put,h.size],Zf,h.aB.mono hle.ej hle.cH⟩;simp only[Act.put,lf,an];cases hb:Nat.beq k d with
  | true=>
   rw[aK] at hb;subst hb;simpa[aY] using hv
  | false=>
   have bH:d≠k:=fun e=>by rw[e,nF] at hb;cases hb
   have:=(h.sl k).mono hle;simpa[Array.getElem?_setIfInBounds_ne bH] using this
theorem Zg {E:FuncId→Bool} {G:Nat→V} {n:Nat} {a:Act} {st:St} {d:Nat} {b:Bool} (h:iM P E G w I β n a st) (hd:st.sl d= .bool b):a.tmps[d]? =some (.bool b):=by
 have:=h.sl d;rw[hd] at this;have:=this.mW;cases ht:a.tmps[d]? with
 | none=>simp[ht] at this;cases this
 | some v=>simp[ht] at this;rw[this]
theorem akh {x:V} {b:Bool} (h:oQ x=some (some b)):x= .bool b:=by
 cases x with
 | bool c=>simp only[oQ] at h;injection h with h;injection h with h;rw[h]
 | ba vs=>cases vs<;>simp[oQ] at h
 | _=>simp[oQ] at h
theorem aki {x:V} (h:oQ x=some none):x= .ba []:=by
 cases x with
 | ba vs=>cases vs with
  | nil=>rfl
  | cons _ _=>simp[oQ] at h
 | bool c=>simp[oQ] at h
 | _=>simp[oQ] at h
theorem aj.akj {v:Value} (h:aj P w I β hp v (.ba [])):v= .tuple #[]:=by
 cases h with
 | @ba cs _ hs _=>
  have:cs= #[]:=by
   apply Array.eq_empty_of_size_eq_zero;simpa using hs
  rw[this]
theorem aj.Zh:aj P w I β hp Go.undef (.ba []):= .ba (by rfl) (fun j v x _ hx=>by simp at hx)
theorem Zi (hC:oy P A C) (hP:kO P A) {ops:Array Oper} {n i nb:Nat} {o:Oper} (ho:ops[i]? =some o) {a:Act} {st st':St} {R W:List Nat} (S:ay P w I β st.hp B M w0) (hA:iM P A.idle A.aB w I β n a st)
  (h:kj P A C n ops i o nb st=some (st',R,W)) {K:Act→World→Prop} {Q:Exit→Act→World→Prop}
  (hK: ∀a' w' I' β',Le P w I β st.hp w' I' β' st'.hp→ay P w' I' β' st'.hp B M w0→iM P A.idle A.aB w' I' β' n a' st'→K a' w'):wpOp P ops Q i K a w:=by
 unfold kj at h;cases hd:wm o n with
 | false=>rw[hd] at h;cases h
 | true=>
  rw[hd] at h;simp only[cond_true] at h;have go: ∀{QJ:St} {R W:List Nat},(((je P A st.sl i (nb+64*i) o).run C st.hp).bind fun r=>some ((⟨lf st.sl o.dst r.1.v,b9 st.hp r.1.upd,st.nb⟩:St),uB r.2 r.1.upd,jy st.hp r.1.upd))=some (QJ,R,W)→QJ=st'→
    o.wp P a w K Q:=by
   intro QJ R W h e;obtain ⟨⟨r,rd⟩,h1,h2⟩:=bind_some h;cases h2;subst e;exact akf hC hP S hA.aB hA.sl h1 K Q fun v w' I' β' ds k1 k2 k3 k4=>hK _ w' I' β' k1 k2 (QI hA k1 hd k3 k4)
  unfold wpOp;rw[ho];simp only;cases hg:o.guard with
  | none=>
   rw[hg] at h;simp only[Region.wanted,hg,rv];exact .inl (go h rfl)
  | some gw=>
   obtain ⟨g,want⟩:=gw;rw[hg] at h;simp only at h;cases ph:(ops[g]?).bind (·.dst) with
   | none=>rw[ph] at h;cases h
   | some d=>
    rw[ph] at h;simp only at h;cases qe:oQ (st.sl d) with
    | none=>rw[qe] at h;cases h
    | some ob=>
    rw[qe] at h;cases ob with
    | none=>
     have BI:=aki qe;have hy:yielded ops a.tmps g=none:=by
      unfold yielded;rw[ph];have:=hA.sl d;rw[BI] at this;have hu:=aj.akj this;simp only[Option.bind_some];cases ht:a.tmps[d]? with
      | none=>rfl
      | some v=>simp[ht] at hu;subst hu;rfl
     simp only[Region.wanted,hg,hy];injection h with h;injection h with h3 h4;subst h3;have h2:((none:Option Bool)==some want)=false:=rfl;simp only[h2,Bool.false_eq_true,sH];exact hK _ w I β (Le.refl w I β st.hp) S (QI (ds:=a.defers) hA (Le.refl w I β st.hp) hd aj.Zh fun d h=> .inl h)
    | some b=>
    simp only at h;have BI:=akh qe;have hy:yielded ops a.tmps g=some b:=by
     unfold yielded;rw[ph];simp only[Option.bind_some,Zg hA BI]
    simp only[Region.wanted,hg,hy];by_cases hb:b=want
    ·subst hb;simp only[beq_self_eq_true,cond_true] at h;simp only[beq_self_eq_true,rv];exact .inl (go h rfl)
    ·have h1:(b==want)=false:=by simp[hb]
     have h2:(some b==some want)=false:=by simp[hb]
     rw[h1] at h;simp only[cond_false] at h;injection h with h;injection h with h3 h4;subst h3;simp only[h2,Bool.false_eq_true,sH];exact hK _ w I β (Le.refl w I β st.hp) S (QI (ds:=a.defers) hA (Le.refl w I β st.hp) hd aj.Zh fun d h=> .inl h)
def yZ (hp hp':Nat→Option ah) (c:Nat):Prop:=hp' c=hp c∧(KB≤c→jO (hp' (c-KB))=jO (hp (c-KB)))
theorem yZ.symm {c:Nat} (h:yZ hp hp' c):yZ hp' hp c:=⟨h.1.symm,fun hc=>(h.2 hc).symm⟩
theorem xb {α:Type}: ∀{p:Rd α} {r:α} {rd:List Nat},p.run C hp=some (r,rd)→(∀id∈rd,yZ hp hp' id)→p.run C hp'=some (r,rd)
 | .ret a,r,rd,h,_=>h
 | .fail,r,rd,h,_=>by cases h
 | .get id k,r,rd,h,he=>by
  obtain ⟨x,h1,h2⟩:=bind_some h;cases h2;have e1:hp' id=hp id:=(he id (by simp)).1;have:=xb (p:=k (hp id)) (r:=x.1) (rd:=x.2) h1 (fun i hi=>he i (by simp[hi]));simp only[Rd.run,e1,this,Option.bind_some]
 | .live id ok k,r,rd,h,he=>by
  simp only[Rd.run] at h⊢;cases hk:ok (jO (hp id)) with
  | false=>rw[hk] at h;cases h
  | true=>
   rw[hk] at h;obtain ⟨x,h1,h2⟩:=bind_some h;cases h2;have e1:jO (hp' id)=jO (hp id):=by
    have:=(he (id+KB) (by simp)).2 (Nat.le_add_left _ _);rwa [Nat.add_sub_cancel] at this
   have:=xb (p:=k) (r:=x.1) (rd:=x.2) h1 (fun i hi=>he i (by simp[hi]));rw[e1,hk,this];rfl
 | .opt o k,r,rd,h,he=>by
  obtain ⟨x,h1,h2⟩:=bind_some h;simp only[Rd.run,h1,Option.bind_some];exact xb h2 he
 | .ax b k,r,rd,h,he=>by
  obtain ⟨h1,h2⟩:=az h;simp only[Rd.run,h1,cond_true];exact xb h2 he
 | .call key ds k,r,rd,h,he=>by
  obtain ⟨x,h1,h2⟩:=bind_some h;simp only[Rd.run,h1,Option.bind_some];exact xb h2 he
 | .alt true x y,r,rd,h,he=>xb (p:=x) h he
 | .alt false x y,r,rd,h,he=>xb (p:=y) h he
theorem akk {G:Nat→V} {sl sl':Nat→V} {t:TypeId} {x:Operand} (h: ∀k,x= .tmp k→sl k=sl' k):aS P G t sl x=aS P G t sl' x:=by
 cases x with
 | tmp k=>exact h k rfl
 | _=>rfl
theorem akl {sl sl':Nat→V} {ix nb:Nat} {o:Oper} (h: ∀x∈o.op.operands,∀k,x= .tmp k→sl k=sl' k):je P A sl ix nb o=je P A sl' ix nb o:=by
 have gP: ∀t x,x∈o.op.operands→aS P A.aB t sl x=aS P A.aB t sl' x:=fun t x hx=>akk (h x hx);obtain ⟨dst,op,ty,pos,after,guard⟩:=o;have Zj: ∀(t:TypeId) (ps:Array (Nat×Operand)),(∀x∈ps.map (·.2),aS P A.aB t sl x=aS P A.aB t sl' x)→
   (ps.toList.map fun p=>(p.1,aS P A.aB t sl p.2))=ps.toList.map fun p=>(p.1,aS P A.aB t sl' p.2):=fun t ps hp=>
  pK fun p hm=>by rw[hp p.2 (Array.mem_map.2 ⟨p,sJ.1 hm,rfl⟩)]
 have akm: ∀(t:TypeId) (ps:Array (Nat×Operand)),(∀x∈ps.map (·.2),aS P A.aB t sl x=aS P A.aB t sl' x)→
   (ps.toList.map fun p=>(aS P A.aB t sl p.2).cells)=ps.toList.map fun p=>(aS P A.aB t sl' p.2).cells:=fun t ps hp=>
  pK fun p hm=>by rw[hp p.2 (Array.mem_map.2 ⟨p,sJ.1 hm,rfl⟩)]
 cases op<;>simp only[Op.operands] at gP<;>simp only[je]
 case pick c x y=>rw[gP ty c (by simp),gP ty x (by simp),gP ty y (by simp)]
 case build t ps=>rw[Zj ty ps fun x hx=>gP ty x (by simpa using hx),akm ty ps fun x hx=>gP ty x (by simpa using hx)]
 case buildSlice t len ps=>
  split
  ·rename_i e _;rw[Zj e ps fun x hx=>gP e x (by simpa using hx)]
  ·rfl
 case slice t x lo hi mx=>
  cases mx with
  | some m=>
   have e1:lo.map (aS P A.aB 0 sl)=lo.map (aS P A.aB 0 sl'):=by
    cases lo with
    | none=>rfl
    | some l=>simp only[Option.map_some,gP 0 l (by simp)]
   have e2:hi.map (aS P A.aB 0 sl)=hi.map (aS P A.aB 0 sl'):=by
    cases hi with
    | none=>rfl
    | some l=>simp only[Option.map_some,gP 0 l (by simp)]
   have e3:=gP 0 m (by simp);simp only[gP ty x (by simp),e1,e2,e3]
  | none=>
   have e1:lo.map (aS P A.aB 0 sl)=lo.map (aS P A.aB 0 sl'):=by
    cases lo with
    | none=>rfl
    | some l=>simp only[Option.map_some,gP 0 l (by simp)]
   have e2:hi.map (aS P A.aB 0 sl)=hi.map (aS P A.aB 0 sl'):=by
    cases hi with
    | none=>rfl
    | some l=>simp only[Option.map_some,gP 0 l (by simp)]
   simp only[gP ty x (by simp),e1,e2]
 case call c=>
  obtain ⟨callee,args,argTypes⟩:=c;have y6: ∀t x,x∈args→aS P A.aB t sl x=aS P A.aB t sl' x:=fun t x hx=>gP t x (by simp[Call.operands,hx]);have hl: ∀t (l:List Operand),(∀x∈l,x∈args)→l.map (aS P A.aB t sl)=l.map (aS P A.aB t sl'):=fun t l hl=>pK fun x hx=>y6 t x (hl x hx);have hz:((args.toList.zip argTypes.toList).map fun p=>aS P A.aB p.2 sl p.1)=(args.toList.zip argTypes.toList).map fun p=>aS P A.aB p.2 sl' p.1:=
   pK fun p hp=>y6 p.2 p.1 (sJ.1 (List.of_mem_zip hp).1)
  cases callee with
  | invoke r m=>rfl
  | builtin b=>
   have dj: ∀x∈args.toList,∀t,aS P A.aB t sl x=aS P A.aB t sl' x:=fun x hx t=>y6 t x (sJ.1 hx);have tD: ∀t (l:List Operand),(∀x∈l,∀t,aS P A.aB t sl x=aS P A.aB t sl' x)→l.map (aS P A.aB t sl)=l.map (aS P A.aB t sl'):=fun t l h=>pK fun x hx=>h x hx t;cases b<;>first|rfl|skip
   case append=>
    dsimp only;generalize args.toList=al at dj
    match al,dj,argTypes.toList with
    | [s,x],dj,[t,u]=>simp only[dj s (by simp),dj x (by simp)]
    | [],_,_=>rfl
    | [_],_,_=>rfl
    | _::_::_::_,_,_=>rfl
    | [_,_],_,[]=>rfl
    | [_,_],_,[_]=>rfl
    | [_,_],_,_::_::_::_=>rfl
   case copy=>
    dsimp only;generalize args.toList=al at dj
    match al,dj,argTypes.toList with
    | [s,x],dj,[t,u]=>simp only[dj s (by simp),dj x (by simp)]
    | [],_,_=>rfl
    | [_],_,_=>rfl
    | _::_::_::_,_,_=>rfl
    | [_,_],_,[]=>rfl
    | [_,_],_,[_]=>rfl
    | [_,_],_,_::_::_::_=>rfl
   case len=>
    dsimp only;generalize args.toList=al at dj
    match al,dj,argTypes.toList with
    | [x],dj,[t]=>simp only[dj x (by simp)]
    | [],_,_=>rfl
    | _::_::_,_,_=>rfl
    | [_],_,[]=>rfl
    | [_],_,_::_::_=>rfl
   case clear=>
    dsimp only;generalize args.toList=al at dj
    match al,dj,argTypes.toList with
    | [x],dj,[t]=>simp only[dj x (by simp)]
    | [],_,_=>rfl
    | _::_::_,_,_=>rfl
    | [_],_,[]=>rfl
    | [_],_,_::_::_=>rfl
   case unsafeSliceData=>
    dsimp only;generalize args.toList=al at dj
    match al,dj with
    | [],_=>rfl
    | [x],dj=>simp only[dj x (by simp)]
    | _::_::_,_=>rfl
   case unsafeString=>
    dsimp only;generalize args.toList=al at dj
    match al,dj,argTypes.toList with
    | [s,x],dj,[t,u]=>simp only[dj s (by simp),dj x (by simp)]
    | [],_,_=>rfl
    | [_],_,_=>rfl
    | _::_::_::_,_,_=>rfl
    | [_,_],_,[]=>rfl
    | [_,_],_,[_]=>rfl
    | [_,_],_,_::_::_::_=>rfl
   case max=>
    dsimp only;generalize args.toList=al at dj
    match al,dj with
    | [],_=>rfl
    | x::l,dj=>simp only[dj x (by simp),tD ty l (fun y hy=>dj y (by simp[hy]))]
   case min=>
    dsimp only;generalize args.toList=al at dj
    match al,dj with
    | [],_=>rfl
    | x::l,dj=>simp only[dj x (by simp),tD ty l (fun y hy=>dj y (by simp[hy]))]
  | value f=>
   cases f<;>first|rfl|skip
   ·rename_i t;have ht:sl t=sl' t:=h (.tmp t) (by simp[Op.operands,Call.operands]) t rfl;simp only[hz,ht]
   ·simp only[hz];cases hx:args.toList with
    | nil=>rfl
    | cons x l=>
     cases l with
     | cons _ _=>rfl
     | nil=>simp only[y6 ty x (sJ.1 (by rw[hx];simp))]
 case defer c=>
  obtain ⟨callee,args,argTypes⟩:=c;cases callee with
  | invoke r m=>rfl
  | builtin b=>rfl
  | value f=>
   cases f<;>first|rfl|skip
   rename_i t;have ht:sl t=sl' t:=h (.tmp t) (by simp[Op.operands,Call.operands]) t rfl;simp only[ht]
 case makeFunc fn a b=>
  cases fn<;>first|rfl|skip
  have e1:a.toList.map (aS P A.aB ty sl)=a.toList.map (aS P A.aB ty sl'):=pK fun x hx=>gP ty x (by simp[sJ.1 hx]);have e2:b.toList.map (aS P A.aB ty sl)=b.toList.map (aS P A.aB ty sl'):=pK fun x hx=>gP ty x (by simp[sJ.1 hx]);dsimp only;rw[e1,e2]
 case makeMap t r=>cases r<;>rfl
 all_goals first
  | rfl
  | (simp[gP];done)
end
section
variable {P:Program} {A:dn} {w w':World} {I I' I2:Nat→Nat→Prop} {μ β β':Nat→Option Nat} {hp hp':Nat→Option ah} {C:af} {B:Nat} {M:Nat→Prop} {w0:Start}
theorem QK {q:Nat×ah} {upd:List (Nat×ah)} (h:q∈upd):q.1∈jy hp upd:=by
 unfold jy;rw[List.mem_flatMap];refine ⟨q,h,?_⟩;cases Nat.beq (jO (hp q.1)) (jO (some q.2))<;>simp
theorem akn {upd:List (Nat×ah)} (h: ∀q∈upd,jO (hp' q.1)=jO (hp q.1)):jy hp' upd=jy hp upd:=by
 unfold jy
 induction upd with
 | nil=>rfl
 | cons q l ih=>
  rw[AO,AO,ih fun x hx=>h x (nD _ hx),h q (by simp)]
theorem Zk {c:Nat}: ∀{upd:List (Nat×ah)},c∉jy hp upd→yZ hp (b9 hp upd) c:=fun {upd} h=>by
 refine ⟨B3 fun q hq e=>h (e▸QK hq),fun hc=> ?_⟩
 induction upd with
 | nil=>rfl
 | cons q l ih=>
  have hl:c∉jy hp l:=fun hx=>h (by unfold jy at*;rw[AO];exact List.mem_append_right _ hx);have hq:jO (hp q.1)=jO (some q.2)∨c≠q.1+KB:=by
   cases hb:Nat.beq (jO (hp q.1)) (jO (some q.2)) with
   | true=>exact .inl (Iy hb)
   | false=>
    refine .inr fun e=>h ?_;unfold jy;rw[AO,hb,e];simp
  show jO (an (b9 hp l) q.1 (some q.2) (c-KB))=_;simp only[an];cases hb:Nat.beq (c-KB) q.1 with
  | false=>exact ih hl
  | true=>
   have e:=Iy hb;rcases hq with hq|hq
   ·rw[cond_true,e];exact hq.symm
   ·exact absurd (by omega) hq
theorem Zl {n i nb:Nat} {ops:Array Oper} {o:Oper} {st st':St} {R W:List Nat} (h:kj P A C n ops i o nb st=some (st',R,W)):
  ∃x upd,st'=⟨lf st.sl o.dst x,b9 st.hp upd,st.nb⟩∧W=jy st.hp upd∧∀gi:St,(∀d∈o.looksAt ops,gi.sl d=st.sl d)→(∀id∈R,yZ st.hp gi.hp id)→
   kj P A C n ops i o nb gi=some (⟨lf gi.sl o.dst x,b9 gi.hp upd,gi.nb⟩,R,W)∧W=jy gi.hp upd:=by
 unfold kj at h;cases hd:wm o n with
 | false=>rw[hd] at h;cases h
 | true=>
  rw[hd] at h;simp only[cond_true] at h;have go:(((je P A st.sl i (nb+64*i) o).run C st.hp).bind fun r=>some ((⟨lf st.sl o.dst r.1.v,b9 st.hp r.1.upd,st.nb⟩:St),uB r.2 r.1.upd,jy st.hp r.1.upd))=some (st',R,W)→
    ∃x upd,st'=⟨lf st.sl o.dst x,b9 st.hp upd,st.nb⟩∧W=jy st.hp upd∧∀gi:St,(∀d∈o.looksAt ops,gi.sl d=st.sl d)→(∀id∈R,yZ st.hp gi.hp id)→
     (((je P A gi.sl i (nb+64*i) o).run C gi.hp).bind fun r=>some ((⟨lf gi.sl o.dst r.1.v,b9 gi.hp r.1.upd,gi.nb⟩:St),uB r.2 r.1.upd,jy gi.hp r.1.upd))=some (⟨lf gi.sl o.dst x,b9 gi.hp upd,gi.nb⟩,R,W)∧W=jy gi.hp upd:=by
   intro h;obtain ⟨⟨r,rd⟩,h1,h2⟩:=bind_some h;cases h2;refine ⟨r.v,r.upd,rfl,rfl,fun gi hs hh=> ?_⟩;have hw:jy gi.hp r.upd=jy st.hp r.upd:=akn fun q hq=>by
    have:=(hh (q.1+KB) (List.mem_append_right _ (iQ.2 ⟨q,hq,rfl⟩))).2 (Nat.le_add_left _ _);rwa [Nat.add_sub_cancel] at this
   rw[akl (sl':=st.sl) fun x hx k hk=> ?_,xb h1 fun c hc=>hh c (List.mem_append_left _ hc)]
   ·refine ⟨?_,hw.symm⟩;rw[Option.bind_some,hw]
   ·subst hk;exact hs k (List.mem_append_left _ (List.mem_filterMap.2 ⟨.tmp k,by simpa using hx,rfl⟩))
  cases hg:o.guard with
  | none=>
   rw[hg] at h;obtain ⟨x,upd,e1,e2,e3⟩:=go h;refine ⟨x,upd,e1,e2,fun gi hs hh=> ?_⟩;unfold kj;simp only[hd,cond_true,hg];exact e3 gi hs hh
  | some gw=>
   obtain ⟨g,want⟩:=gw;rw[hg] at h;simp only at h;cases ph:(ops[g]?).bind (·.dst) with
   | none=>rw[ph] at h;cases h
   | some d=>
    rw[ph] at h;simp only at h;have QL:d∈o.looksAt ops:=List.mem_append_right _ (by rw[hg];simp[ph]);cases qe:oQ (st.sl d) with
    | none=>rw[qe] at h;cases h
    | some ob=>
    rw[qe] at h;cases ob with
    | none=>
     injection h with h;injection h with h3 h4;injection h4 with h5 h6;subst h5;subst h6;refine ⟨.ba [],[],h3.symm,rfl,fun gi hs hh=> ?_⟩;unfold kj;simp only[hd,cond_true,hg,ph,hs d QL,qe];exact ⟨rfl,rfl⟩
    | some b=>
    simp only at h;cases hb:b==want with
    | true=>
     rw[hb] at h;obtain ⟨x,upd,e1,e2,e3⟩:=go h;refine ⟨x,upd,e1,e2,fun gi hs hh=> ?_⟩;unfold kj;simp only[hd,cond_true,hg,ph,hs d QL,qe,hb];exact e3 gi hs hh
    | false=>
     rw[hb] at h;simp only[cond_false] at h;injection h with h;injection h with h3 h4;injection h4 with h5 h6;subst h5;subst h6;refine ⟨.ba [],[],h3.symm,rfl,fun gi hs hh=> ?_⟩;unfold kj;simp only[hd,cond_true,hg,ph,hs d QL,qe,hb,cond_false];exact ⟨rfl,rfl⟩
theorem Zm {sl:Nat→V} {d:Option Nat} {x:V} {k:Nat} (h:d≠some k):lf sl d x k=sl k:=by
 cases d with
 | none=>rfl
 | some d=>exact cw _ _ fun e=>h (by rw[e])
theorem ako {hp:Nat→Option ah} {a b:List (Nat×ah)} (h: ∀q∈a,∀q'∈b,q.1≠q'.1):b9 (b9 hp a) b=b9 (b9 hp b) a:=by
 funext id;by_cases ha: ∃q∈a,q.1=id
 ·have hb: ∀q∈b,q.1≠id:=by
   obtain ⟨q,hq,rfl⟩:=ha;exact fun q' dz e=>h q hq q' dz e.symm
  rw[B3 hb];obtain ⟨q,hq,rfl⟩:=ha;have same: ∀(bE fZ:Nat→Option ah) (l:List (Nat×ah)) (q:Nat×ah),q∈l→b9 bE l q.1=b9 fZ l q.1:=by
   intro bE fZ l
   induction l with
   | nil=>intro q hq;simp at hq
   | cons p l ih=>
    intro q hq;simp only[b9,an];cases hb:Nat.beq q.1 p.1 with
    | true=>rfl
    | false=>
     simp only[cond_false];refine ih q ((fW.1 hq).resolve_left fun e=> ?_);rw[e,nF] at hb;cases hb
  exact same _ _ a q hq
 ·rw[B3 (hp:=b9 hp b) (l:=a) fun q hq e=>ha ⟨q,hq,e⟩];have same: ∀(bE fZ:Nat→Option ah) (l:List (Nat×ah)),bE id=fZ id→b9 bE l id=b9 fZ l id:=by
   intro bE fZ l he
   induction l with
   | nil=>exact he
   | cons p l ih=>
    simp only[b9,an];cases hb:Nat.beq id p.1 with
    | true=>rfl
    | false=>exact ih
  exact same _ _ b (B3 fun q hq e=>ha ⟨q,hq,e⟩)
structure Zn (ops:Array Oper) (o1 o2:Oper) (R1 W1 R2 W2:List Nat):Prop where
 apart:Oper.apart ops o1 o2=true
 w: ∀id∈W1,id∉R2∧id∉W2
 r: ∀id∈R1,id∉W2
theorem akp {n i j nb:Nat} {ops:Array Oper} {o1 o2:Oper} {st mb gi:St} {R1 W1 R2 W2:List Nat} (h1:kj P A C n ops i o1 nb st=some (mb,R1,W1)) (h2:kj P A C n ops j o2 nb mb=some (gi,R2,W2))
  (hi:Zn ops o1 o2 R1 W1 R2 W2): ∃KT,kj P A C n ops j o2 nb st=some (KT,R2,W2)∧kj P A C n ops i o1 nb KT=some (gi,R1,W1):=by
 obtain ⟨x1,u1,e1,f1,g1⟩:=Zl h1;obtain ⟨x2,u2,e2,f2,g2⟩:=Zl h2;obtain ⟨a1,a2,a3⟩:=Oper.apart_spec hi.apart;subst e1;have k2:=g2 st (fun d hd=>by simp only;rw[Zm fun e=>a1 d e hd]) fun c hc=>(Zk fun hw=>(hi.w c (by rw[f1];exact hw)).1 hc).symm;refine ⟨_,k2.1,?_⟩;rw[(g1 _ (fun d hd=> ?_) (fun c hd=> ?_)).1,e2]
 ·congr 3
  ·funext k;cases hd1:o1.dst with
   | none=>rfl
   | some d1=>
    cases Bh:o2.dst with
    | none=>rfl
    | some d2=>
     have bH:d2≠d1:=fun e=>a2 d1 hd1 (by rw[Bh,e]);simp only[lf,an];cases BJ:Nat.beq k d1<;>cases B6:Nat.beq k d2<;>simp only[cond_true,cond_false];rw[aK] at BJ B6;exact absurd (B6.symm.trans BJ) bH
  ·exact (ako fun q hq q' dz e=>(hi.w q.1 (by rw[f1];exact QK hq)).2 (by rw[f2,e];exact QK dz)).symm
 ·simp only;rw[Zm fun e=>a3 d e hd]
 ·exact Zk fun hw=>hi.r c hd (by rw[k2.2];exact hw)
def B7 (P:Program) (A:dn) (C:af) (n:Nat) (ops:Array Oper) (nb:Nat):List (Nat×Oper×List Nat×List Nat)→St→St→Prop
 | [],st,st'=>st=st'
 | (i,o,R,W)::l,st,st'=> ∃mb,kj P A C n ops i o nb st=some (mb,R,W)∧B7 P A C n ops nb l mb st'
def y7 (x:Nat×Oper×List Nat×List Nat):Nat×List Nat×List Nat:=(x.1,x.2.2.1,x.2.2.2)
theorem Zo {n nb:Nat} {ops:Array Oper}: ∀{l:List (Nat×Oper)} {st st':St} {log KU:Log},sQ P A C n ops nb l st log=some (st',KU)→
  ∃g,g.map (fun x=>(x.1,x.2.1))=l∧KU=log++g.map y7∧B7 P A C n ops nb g st st'
 | [],st,st',log,KU,h=>by
  cases h;exact ⟨[],rfl,by simp,rfl⟩
 | (i,o)::l,st,st',log,KU,h=>by
  obtain ⟨⟨mb,R,W⟩,h1,h2⟩:=bind_some h;obtain ⟨g,a,b,c⟩:=Zo h2;exact ⟨(i,o,R,W)::g,by simp[a],by simp[b,y7],mb,h1,c⟩
def Zp (ops:Array Oper) (x y:Nat×Oper×List Nat×List Nat):Prop:=Zn ops x.2.1 y.2.1 x.2.2.1 x.2.2.2 y.2.2.1 y.2.2.2
theorem Zq {n nb:Nat} {ops:Array Oper} {y:Nat×Oper×List Nat×List Nat} {g2:List (Nat×Oper×List Nat×List Nat)}: ∀{g1:List (Nat×Oper×List Nat×List Nat)} {st st':St},
  B7 P A C n ops nb (g1++y::g2) st st'→(∀x∈g1,Zp ops x y)→∃mb,kj P A C n ops y.1 y.2.1 nb st=some (mb,y.2.2.1,y.2.2.2)∧B7 P A C n ops nb (g1++g2) mb st'
 | [],st,st',h,_=>h
 | x::g1,st,st',h,hi=>by
  obtain ⟨mb,h1,h2⟩:=h;obtain ⟨gi,h3,h4⟩:=Zq h2 fun z hz=>hi z (nD _ hz);obtain ⟨KT,h5,h6⟩:=akp h1 h3 (hi x (by simp));exact ⟨KT,h5,gi,h6,h4⟩
theorem Zr (hC:oy P A C) (hP:kO P A) {n nb:Nat} {ops:Array Oper} {Q:Exit→Act→World→Prop}: ∀{g:List (Nat×Oper×List Nat×List Nat)} {st st':St} {a:Act} {w:World} {I:Nat→Nat→Prop} {β:Nat→Option Nat},
  B7 P A C n ops nb g st st'→(∀x∈g,ops[x.1]? =some x.2.1)→ay P w I β st.hp B M w0→iM P A.idle A.aB w I β n a st→
  (∀a' w' I' β',Le P w I β st.hp w' I' β' st'.hp→ay P w' I' β' st'.hp B M w0→iM P A.idle A.aB w' I' β' n a' st'→Q .normal a' w')→wpOps P ops Q (g.map (·.1)) a w
 | [],st,st',a,w,I,β,h,_,S,hA,hQ=>by
  cases h;exact hQ a w I β (Le.refl w I β _) S hA
 | x::g,st,st',a,w,I,β,h,ho,S,hA,hQ=>by
  obtain ⟨mb,h1,h2⟩:=h;rw[kY,wpOps_cons];refine Zi hC hP (ho x (by simp)) S hA h1 fun a' w' I' β' k1 k2 k3=> ?_;exact Zr hC hP h2 (fun y hy=>ho y (nD _ hy)) k2 k3 fun a2 w2 I2 cB m1 m2 m3=>hQ a2 w2 I2 cB (k1.trans m1) m2 m3
end
section
variable {P:Program} {A:dn} {w w':World} {I I' I2:Nat→Nat→Prop} {μ β β':Nat→Option Nat} {hp hp':Nat→Option ah} {C:af} {B:Nat} {M:Nat→Prop} {w0:Start}
inductive y8 (ops:Array Oper):Nat→Nat→Prop
 | Zs {i x:Nat} {o:Oper} {e:Edge}:ops[i]? =some o→e∈o.after→Region.binds .any e=true→e.on=x→y8 ops i x
 | trans {i x:Nat} {o:Oper} {e:Edge}:ops[i]? =some o→e∈o.after→Region.binds .any e=true→y8 ops e.on x→y8 ops i x
theorem Zt {acc:Array Nat} {x:Nat}: ∀{l:List Edge} {s:Nat},(l.foldl (fun s e=>if Region.binds .any e then s|||2^e.on|||acc.getD e.on 0 else s) s).testBit x=true→
  s.testBit x=true∨∃e∈l,Region.binds .any e=true∧(e.on=x∨(acc.getD e.on 0).testBit x=true)
 | [],s,h=> .inl h
 | e::l,s,h=>by
  simp only[List.foldl_cons] at h;rcases Zt h with h1|⟨e',a,b⟩
  ·by_cases hb:Region.binds .any e=true
   ·rw[aE hb,Nat.testBit_or,Nat.testBit_or,DC,DC] at h1;rcases h1 with (h1|h1)|h1
    ·exact .inl h1
    ·rw[Nat.testBit_two_pow] at h1;exact .inr ⟨e,by simp,hb,.inl (by simpa using h1)⟩
    ·exact .inr ⟨e,by simp,hb,.inr h1⟩
   ·rw[aF hb] at h1;exact .inl h1
  ·exact .inr ⟨e',nD _ a,b⟩
theorem Zu {ops:Array Oper} {x:Nat}: ∀{l:List Oper} {acc:Array Nat},(∀j o,l[j]? =some o→ops[acc.size+j]? =some o)→(∀j,(acc.getD j 0).testBit x=true→y8 ops j x)→
  ∀j,((l.foldl (fun acc o=>acc.push (o.after.foldl (fun s e=>if Region.binds .any e then s|||2^e.on|||acc.getD e.on 0 else s) 0)) acc).getD j 0).testBit x=true→y8 ops j x
 | [],acc,_,yv,j,h=>yv j h
 | o::l,acc,hl,yv,j,h=>by
  simp only[List.foldl_cons] at h;refine Zu (l:=l) ?_ ?_ j h
  ·intro j o' hj;have:=hl (j+1) o' (by simpa using hj);rw[Array.size_push];rwa [show acc.size+1+j=acc.size+(j+1) by omega]
  ·intro k hk;simp only[AG,Array.getElem?_push] at hk;by_cases QM:k=acc.size
   ·rw[aE QM] at hk;simp only[Option.getD_some] at hk;rw[←IB] at hk;have ho:=hl 0 o rfl;rw[Nat.add_zero] at ho;rw[QM];have B6:(o.after.toList.foldl (fun s e=>if Region.binds .any e then s|||2^e.on|||acc.getD e.on 0 else s) 0).testBit x=true:=by simpa[AG] using hk
    rcases Zt B6 with h0|⟨e,he,hb,h1⟩
    ·simp at h0
    ·rcases h1 with h1|h1
     ·exact .Zs ho (sJ.1 he) hb h1
     ·exact .trans ho (sJ.1 he) hb (yv _ h1)
   ·rw[aF QM] at hk;exact yv k (by simpa[AG] using hk)
theorem akq {ops:Array Oper} {i x:Nat} (h:((Region.before ops).getD i 0).testBit x=true):y8 ops i x:=by
 unfold Region.before at h;rw[←IB] at h;refine Zu (l:=ops.toList) (acc:= #[]) (fun j o hj=>by simpa using hj) (fun j hj=>by simp at hj) i h
def Zv (ops:Array Oper) (listed:Array Bool):Prop:= ∀i o,ops[i]? =some o→listed.getD i false=true→∀e∈o.after,Region.binds .any e=true→listed.getD e.on false=true
theorem akr {ops:Array Oper} {listed:Array Bool} (hc:Zv ops listed) {i x:Nat} (h:y8 ops i x) (hi: ∀o,ops[i]? =some o→∀e∈o.after,Region.binds .any e=true→listed.getD e.on false=true):listed.getD x false=true:=by
 induction h with
 | Zs ho he hb hx=>rw[←hx];exact hi _ ho _ he hb
 | trans ho he hb _ ih=>exact ih fun o' rL e' BP au=>hc _ o' rL (hi _ ho _ he hb) e' BP au
theorem Zw: ∀{l:List Oper} {k j:Nat} {o:Oper},D3 k l=true→l[j]? =some o→∀e∈o.after,Region.binds .any e=true→e.on<k+j
 | [],k,j,o,_,h=>by simp at h
 | o'::l,k,j,o,hk,h=>by
  simp only[D3,aI] at hk;cases j with
  | zero=>
   simp at h;subst h;intro e he hb;have:=gZ.1 hk.1 e (sJ.2 he);simp[hb] at this;omega
  | succ j=>
   intro e he hb;have:=Zw hk.2 (j:=j) (by simpa using h) e he hb;omega
theorem Zx {ops:Array Oper} {xR:Array Nat}: ∀{l:Log},Je ops xR l=true→l.Pairwise fun x y=>D2 ops xR x y=true
 | [],_=> .nil
 | x::l,h=>by
  simp only[Je,aI] at h;exact .cons (fun y hy=>gZ.1 h.1 y hy) (Zx h.2)
theorem Zy {listed:Array Bool} {i:Nat} (h:listed.getD i true=false):i<listed.size∧listed.getD i false=false:=by
 rcases js i listed.size with h'|h'
 ·refine ⟨h',?_⟩;simpa[h'] using h
 ·simp[Array.getElem?_eq_none h'] at h
theorem Zz (hC:oy P A C) (hP:kO P A) {n nb:Nat} {ops:Array Oper} {Q:Exit→Act→World→Prop} (KV:D3 0 ops.toList=true):
  ∀(fuel:Nat) {g:List (Nat×Oper×List Nat×List Nat)} {listed:Array Bool} {st st':St} {a:Act} {w:World} {I:Nat→Nat→Prop} {β:Nat→Option Nat},
  g.length=fuel→B7 P A C n ops nb g st st'→(∀x∈g,ops[x.1]? =some x.2.1)→(g.map (·.1)).Pairwise (· < ·)→(g.map y7).Pairwise (fun x y=>D2 ops (Region.before ops) x y=true)→
  listed.size=ops.size→(∀i,i<ops.size→(listed.getD i false=false↔i∈g.map (·.1)))→Zv ops listed→
  ay P w I β st.hp B M w0→iM P A.idle A.aB w I β n a st→
  (∀a' w' I' β',Le P w I β st.hp w' I' β' st'.hp→ay P w' I' β' st'.hp B M w0→iM P A.idle A.aB w' I' β' n a' st'→Q .normal a' w')→wpAny P .any ops Q fuel listed a w
 | 0,g,listed,st,st',a,w,I,β,hf,hr,ho,aY,KW,aZ,y9,j8,S,hA,hQ=>by
  obtain rfl:g=[]:=oL hf;cases hr;refine ⟨?_,hQ a w I β (Le.refl w I β _) S hA⟩;rw[List.eq_nil_iff_forall_not_mem];intro i hi;obtain ⟨h0,_⟩:=mem_ready.1 hi;obtain ⟨h1,h2⟩:=Zy h0;have:=(y9 i (by omega)).1 h2;simp at this
 | fuel+1,g,listed,st,st',a,w,I,β,hf,hr,ho,aY,KW,aZ,y9,j8,S,hA,hQ=>by
  refine ⟨fun FE=> ?_,fun i hi=> ?_⟩
  ·exfalso;cases g with
   | nil=>simp at hf
   | cons x g=>
    have hx:=ho x (by simp);have jF:x.1<ops.size:=(v7.1 hx).1;have mA:x.1∈Region.ready .any ops listed:=by
     rw[mem_ready];have h0:=(y9 x.1 jF).2 (by simp);refine ⟨?_,x.2.1,hx,fun e he hb=> ?_⟩
     ·have hl:x.1<listed.size:=by omega
      simpa[hl] using h0
     ·have P5:=Zw KV (j:=x.1) (by simpa using hx) e he hb;rw[dt] at P5;cases hle:listed.getD e.on false with
      | true=>rfl
      | false=>
       have hm:=(y9 e.on (by omega)).1 hle;simp only[kY,fW] at hm;rw[kY,List.pairwise_cons] at aY;rcases hm with hm|hm
       ·omega
       ·have:=aY.1 _ hm;omega
    rw[FE] at mA;cases mA
  ·obtain ⟨h0,oi,FF,ZA⟩:=mem_ready.1 hi;obtain ⟨h1,h2⟩:=Zy h0;have hig:=(y9 i (by omega)).1 h2;obtain ⟨y,hy,KX⟩:=iQ.1 hig;obtain ⟨g1,g2,rfl⟩:=List.append_of_mem hy;subst KX;have ZB:=ho y hy;rw[FF] at ZB;have ZC:oi=y.2.1:=dM ZB;have nX:((g1++y::g2).map (·.1)).Nodup:=aY.imp fun h=>DH h;have aks: ∀x∈g1,Zp ops x y:=by
    intro x hx;have hp:D2 ops (Region.before ops) (y7 x) (y7 y)=true:=by
     rw[uh,kY,List.pairwise_append] at KW;exact KW.2.2 _ (iQ.2 ⟨x,hx,rfl⟩) _ (by simp)
    have ZD:=ho x (eF.2 (.inl hx));unfold D2 at hp;rw[DC] at hp;rcases hp with hp|hp
    ·have hl:=akr j8 (akq hp) fun o rL e he hb=>by
      have:o=oi:=by
       have h3:ops[y.1]? =some o:=rL;rw[FF] at h3;exact (dM h3).symm
      subst this;exact ZA e he hb
     have jF:x.1<ops.size:=(v7.1 ZD).1;have:=(y9 x.1 jF).2 (iQ.2 ⟨x,eF.2 (.inl hx),rfl⟩);rw[show (y7 x).1=x.1 from rfl,this] at hl;cases hl
    ·simp only[y7,AG,ZD,FF,Option.getD_some,aI,mL] at hp;obtain ⟨q1,q2,q3⟩:=hp;refine ⟨ZC▸q1,fun id ae=> ?_,fun id ae=>KK q3 ae⟩;have:=KK q2 ae;rw[eF] at this;exact ⟨fun h=>this (.inl h),fun h=>this (.inr h)⟩
   obtain ⟨mb,kz,pe⟩:=Zq hr aks;rw[←ZC] at kz;refine Zi hC hP FF S hA kz fun a' w' I' β' k1 k2 k3=> ?_;have lA:List.Sublist (g1++g2) (g1++y::g2):=List.Sublist.append_left (List.sublist_cons_self y g2) g1;have jg: ∀j,j≠y.1→(listed.setIfInBounds y.1 true).getD j false=listed.getD j false:=fun j hj=>getD_set_ne false (Ne.symm hj);refine Zz hC hP KV fuel (g:=g1++g2) (st':=st') ?_ pe (fun x hx=>ho x (lA.subset hx)) (aY.sublist (lA.map _)) (KW.sublist (lA.map _)) (by simp[aZ]) (fun j hj=> ?_) (fun j o QN dh e he hb=> ?_) k2 k3 fun a2 w2 I2 cB m1 m2 m3=>hQ a2 w2 I2 cB (k1.trans m1) m2 m3
   ·simp at hf⊢;omega
   ·by_cases th:j=y.1
    ·subst th;have hl:y.1<listed.size:=by omega
     simp only[AG,Array.getElem?_setIfInBounds_self_of_lt hl,Option.getD_some];refine ⟨fun h=>(by cases h),fun h=> ?_⟩;exfalso;rw[uh,kY,DI,List.nodup_cons] at nX;rw[uh,eF] at h;rcases h with h|h
     ·exact nX.2.2 _ h _ (by simp) rfl
     ·exact nX.2.1.1 h
    ·rw[jg j th,y9 j hj];simp only[uh,kY,eF,fW];constructor
     ·rintro (h|h|h)
      ·exact .inl h
      ·exact absurd h th
      ·exact .inr h
     ·rintro (h|h)
      ·exact .inl h
      ·exact .inr (.inr h)
   ·by_cases th:j=y.1
    ·subst th;rw[FF] at QN;cases QN;exact getD_set_true (ZA e he hb)
    ·rw[jg j th] at dh;exact getD_set_true (j8 j o QN dh e he hb)
end
section
variable {P:Program} {A:dn} {w w':World} {I I' I2:Nat→Nat→Prop} {μ β β':Nat→Option Nat} {hp hp':Nat→Option ah} {C:af} {B:Nat} {M:Nat→Prop} {w0:Start}
theorem ZE: ∀{l:List Oper} {k j:Nat},(rF k l)[j]? =(l[j]?).map fun o=>(k+j,o)
 | [],k,j=>by simp[rF]
 | o::l,k,0=>by simp[rF]
 | o::l,k,j+1=>by
  simp only[rF,List.getElem?_cons_succ,ZE];congr 1;funext o;rw[show k+1+j=k+(j+1) by omega]
theorem ZF: ∀{l:List Oper} {k:Nat},(rF k l).map (·.1)=List.range' k l.length
 | [],k=>rfl
 | o::l,k=>by simp[rF,ZF,List.range'_succ]
theorem akt (hC:oy P A C) (hP:kO P A) (hm:P.follows .mixedOrders=true) {n id:Nat} {ops:Array Oper} {draw:Bool} {st st':St} {a:Act} {Q:Exit→Act→World→Prop}
  (h:A8 P A C n ops draw st=some st') (S:ay P w I β st.hp B M w0) (hA:iM P A.idle A.aB w I β n a st)
  (hQ: ∀a' w' I' β',Le P w I β st.hp w' I' β' st'.hp→ay P w' I' β' st'.hp B M w0→iM P A.idle A.aB w' I' β' n a' st'→Q .normal a' w'):(Code.region id ops draw).wp P Q a w:=by
 obtain ⟨⟨mb,log⟩,h1,h2⟩:=bind_some h;obtain ⟨g,g1,g2,g3⟩:=Zo h1;have KY:g.map (·.1)=List.range ops.size:=by
  have:g.map (·.1)=(g.map fun x=>(x.1,x.2.1)).map (·.1):=by simp
  rw[this,g1,ZF,List.range_eq_range'];simp
 have ZG: ∀x∈g,ops[x.1]? =some x.2.1:=by
  intro x hx;have:(x.1,x.2.1)∈rF 0 ops.toList:=by rw[←g1];exact iQ.2 ⟨x,hx,rfl⟩
  obtain ⟨j,hj⟩:=List.mem_iff_getElem?.1 this;rw[ZE] at hj;cases ho:ops.toList[j]? with
  | none=>rw[ho] at hj;cases hj
  | some o=>
   rw[ho] at hj;simp only[Option.map_some,dt,e7,mP] at hj;rw[←hj.1,←hj.2];simpa using ho
 cases draw with
 | false=>
  simp only[Bool.not_false,Bool.true_or,cond_true] at h2;cases h2;refine wp_region ?_;rw[←KY];exact Zr hC hP g3 ZG S hA hQ
 | true=>
  simp only[Bool.not_true,Bool.false_or] at h2;cases hc:(Region.noSelect ops&&D4 ops log) with
  | false=>rw[hc] at h2;cases h2
  | true=>
   rw[hc] at h2;cases h2;simp only[aI,D4] at hc;obtain ⟨hns,KV,aku⟩:=hc;simp only[List.nil_append] at g2;refine wp_region_any hm ?_;have hlen:g.length=ops.size:=by
    have:=congrArg List.length KY;simpa using this
   refine Zz hC hP KV ops.size (g:=g) (st':=st') hlen g3 ZG (by rw[KY];exact List.pairwise_lt_range) (by rw[←g2];exact Zx aku) (by simp) (fun i hi=> ?_) (fun i o ho hl=> ?_)
    (w:=w.drew) S.drew ⟨fun k=>(hA.sl k).mono (Le.drew w I β _),hA.size,hA.defers,hA.aB.mono (Le.drew (P:=P) w I β st.hp).ej (Le.drew (P:=P) w I β st.hp).cH⟩ fun a' w' I' β' k1 k2 k3=>hQ a' w' I' β' ((Le.drew w I β _).trans k1) k2 k3
   ·rw[KY];simp[hi]
   ·have hi:=(v7.1 ho).1;simp[hi] at hl
end
section
variable {P:Program} {A:dn} {E:FuncId→Bool} {G:Nat→V} {w w':World} {I I' I2:Nat→Nat→Prop} {μ β β':Nat→Option Nat} {hp hp':Nat→Option ah} {C:af} {B:Nat} {M:Nat→Prop} {w0:Start}
theorem xc: ∀{l:List Nat} {hp:Nat→Option ah} {I:Nat→Nat→Prop},ay P w I β hp B M w0→∃I',Le P w I β hp w I' β (uA hp l)∧ay P w I' β (uA hp l) B M w0
 | [],hp,I,S=>⟨I,Le.refl w I β hp,S⟩
 | id::l,hp,I,S=>by
  simp only[uA];cases ae:hp id with
  | none=>exact xc S
  | some blk=>
   cases blk with
   | dead=>exact xc S
   | out _ _ _ _=>exact xc S
   | var _=>exact xc S
   | map _ _=>exact xc S
   | arr e es fz=>
    obtain ⟨h1,h2⟩:=Be S (upd:=[(id,.arr e es true)]) (fun p hp=>by
     simp only[fu] at hp;subst hp;exact ⟨e,es,rfl,.inl ⟨fz,ae⟩⟩)
    obtain ⟨I',h3,h4⟩:=xc (l:=l) h2;exact ⟨I',h1.trans h3,h4⟩
   | nest e es vers=>
    obtain ⟨h1,h2⟩:=Be S (upd:=[(id,.arr e es true)]) (fun p hp=>by
     simp only[fu] at hp;subst hp;exact ⟨e,es,rfl,.inr ⟨vers,ae⟩⟩)
    obtain ⟨I',h3,h4⟩:=xc (l:=l) h2;exact ⟨I',h1.trans h3,h4⟩
theorem ZH {n:Nat} {a:Act} {st:St} (S:ay P w I β st.hp B M w0) (hA:iM P E G w I β n a st):
  ∃I',Le P w I β st.hp w I' β st.hp∧ay P w I' β st.hp B M w0∧iM P E G w I' β n a st∧sY P I' β st.hp:=by
 obtain ⟨I',h1,h2,h3⟩:=V3 S;exact ⟨I',h1,h2,⟨fun k=>(hA.sl k).mono h1,hA.size,hA.defers,hA.aB.mono h1.ej h1.cH⟩,h3⟩
theorem akv {hp:Nat→Option ah} (S:ay P w I β hp B M w0) (hT:sY P I β hp) {v:Value} {x:V} (hv:aj P w I β hp v x):aj P w I β hp v (D1 hp x):=by
 cases x with
 | whole e id=>
  simp only[D1];split
  ·rename_i e' es ae;cases he:Nat.beq e e' with
   | false=>exact hv
   | true=>
    rw[aK] at he;subst he;simp only[cond_true];cases hv with
    | dX h=>grind
    | dI h=>grind
    | ee h=>grind
    | fw h=>grind
    | dS h=>rw[ae] at h;cases h;exact .list (.any fun _=>rfl)
    | whole h hb aZ bK hm=>
     rw[ae] at h;cases h;have hr:=S.h.rel id _ ae;cases hr with
     | eA au=>grind
     | arr hL ao au hh hs hf fE hx=>
      rw[hb] at au;cases au;have:=uF (I':=I) (off:=0) (len:=es.length) (o:=0) hh hx (fx ao) (by omega) bK (fun _=>by simp) (fun _ _ h=>h) (hT _ _ _ _ ae hb);exact .list (by grind)
  ·exact hv
 | sub e id off len=>
  simp only[D1];split
  ·rename_i e' es ae;cases he:Nat.beq e e' with
   | false=>exact hv
   | true=>
    rw[aK] at he;subst he;simp only[cond_true];cases hv with
    | jB h=>grind
    | iW h=>rw[ae] at h;cases h;exact .list (by simpa using (ko.any (P:=P) fun _=>rfl))
    | sub h hb mw bK ho=>
     rw[ae] at h;cases h;have hr:=S.h.rel id _ ae;cases hr with
     | eA au=>grind
     | arr hL ao au hh hs hf fE hx=>
      rw[hb] at au;cases au;exact .list (uF (I':=I) hh hx (fx ao) mw bK ho (fun _ _ h=>h) (hT _ _ _ _ ae hb))
  ·exact hv
 | _=>exact hv
theorem akw {n:Nat} {a:Act} {st:St} (S:ay P w I β st.hp B M w0) (hA:iM P E G w I β n a st) (p:Nat):
  ∃β',Le P w I β st.hp w I β' (wk st p).hp∧ay P w I β' (wk st p).hp B M w0∧iM P E G w I β' n a (wk st p):=by
 have same: ∃β',Le P w I β st.hp w I β' st.hp∧ay P w I β' st.hp B M w0∧iM P E G w I β' n a st:=⟨β,Le.refl ..,S,hA⟩
 unfold wk;cases Nat.ble (102*KB) p with
 | true=>
  simp only[cond_true];split
  ·rename_i id hx;split
   ·rename_i T cs ae;split
    ·rename_i e hc;have hr:=S.h.rel id _ ae;obtain ⟨b,hb,_⟩: ∃b,β id=some b∧True:=by
      have hv:=hA.sl (p %KB);rw[hx] at hv;obtain ⟨b,hb,_⟩:=hv.iZ ae (by simp);exact ⟨b,hb,trivial⟩
     rw[hb] at hr;have aY:=(cu.1 hc).1;cases hr with
     | @var _ b' C _ au hh hs hI jF iH=>
      cases au;obtain ⟨h1,h2⟩:=Bj (w':=w) (blk':= .var T (cs.set (p/KB-102) (.nl e []))) S ae (by simp) rfl hb hI (by simp) (fun _ _=>rfl) rfl (av _) ⟨rfl,rfl⟩ fun hle=> .var rfl hh (by simp;exact hs) hI (fun j v y hj hy=>by
       by_cases yd:p/KB-102=j
       ·subst yd;rw[oN aY] at hy;cases hy;have hv:=jF _ v _ hj hc;cases hv;exact .nl .nil fun _=>rfl
       ·rw[uf yd] at hy;exact (jF j v y hj hy).mono hle) iH
      exact ⟨β,h1,h2,⟨fun k=>(hA.sl k).mono h1,hA.size,hA.defers,hA.aB⟩⟩
    ·exact same
   ·exact same
  ·exact same
 | false=>
 simp only[cond_false];cases Nat.ble (2*KB) p with
 | false=>exact same
 | true=>
  simp only[cond_true];split
  ·rename_i e hn hx;obtain ⟨h1,h2⟩:=OI S (vers:=[0,0,0]) e hn;refine ⟨_,h1,h2,⟨fun k=> ?_,hA.size,hA.defers,hA.aB⟩⟩;show aj P w I (an β st.nb none) (an st.hp st.nb (some (.nest e [] [0,0,0]))) _ (an st.sl (p %KB) (V.whole e st.nb) k);by_cases hk:k=p %KB
   ·subst hk;have hv:=hA.sl (p %KB);rw[hx] at hv;rw[bD];generalize a.tmps.getD (p %KB) _=v at hv⊢;cases hv;exact .ee (bD _ _ _) (bD _ _ _)
   ·rw[cw _ _ hk];exact (hA.sl k).mono h1
  ·rename_i cs hn hx;split
   ·rename_i e hc;obtain ⟨h1,h2⟩:=OI S (vers:=[0,0,0]) e hn;refine ⟨_,h1,h2,⟨fun k=> ?_,hA.size,hA.defers,hA.aB⟩⟩;show aj P w I (an β st.nb none) (an st.hp st.nb (some (.nest e [] [0,0,0]))) _ (an st.sl (p %KB) (V.agg (cs.set (p/KB-2) (.whole e st.nb))) k);by_cases hk:k=p %KB
    ·subst hk;have hv:=hA.sl (p %KB);rw[hx] at hv;rw[bD];generalize a.tmps.getD (p %KB) _=v at hv⊢;obtain ⟨vs,rfl,kz,pe⟩:=hv.mX;refine .agg (by grind) fun j v x hv om=> ?_;by_cases hj:p/KB-2=j
     ·subst hj;have aY:=(cu.1 hc).1;rw[oN aY] at om;cases om;have yN:=pe _ v _ hv hc;cases yN;exact .ee (vers:=[0,0,0]) (bD _ _ _) (bD _ _ _)
     ·rw[uf hj] at om;exact (pe j v x hv om).mono h1
    ·rw[cw _ _ hk];exact (hA.sl k).mono h1
   omega
  ·rename_i id hn hx;split
   ·rename_i T cs ae;split
    ·rename_i e hc;obtain ⟨h1,h2⟩:=OI S (vers:=[0,0,0]) e hn;have bH:id≠st.nb:=fun h=>by grind
     have p7:an st.hp st.nb (some (.nest e [] [0,0,0])) id=some (.var T cs):=by rw[cw _ _ bH];exact ae
     have hr:=h2.h.rel id _ p7;generalize ho:an β st.nb none id=o at hr;cases hr with
     | @var _ b Ca _ hb hh hs hI jU iH=>
     subst hb;obtain ⟨h3,h4⟩:=Bj (w':=w) h2 (blk':= .var T (cs.set (p/KB-2) (.whole e st.nb))) p7 (by simp) rfl ho hI (by simp) (fun _ _=>rfl) rfl (av _) ⟨rfl,rfl⟩
      (fun hle=> .var rfl hh (by grind) hI (fun j v x hv om=>by
       by_cases hj:p/KB-2=j
       ·subst hj;have aY:=(cu.1 hc).1;rw[oN aY] at om;cases om;have yN:=jU _ v _ hv hc;cases yN;exact .ee (vers:=[0,0,0]) (by rw[cw _ _ (Ne.symm bH)];exact bD _ _ _) (bD _ _ _)
       ·rw[uf hj] at om;exact (jU j v x hv om).mono hle) iH)
     exact ⟨_,h1.trans h3,h4,⟨fun k=>(hA.sl k).mono (h1.trans h3),hA.size,hA.defers,hA.aB⟩⟩
    omega
   omega
  omega
theorem ZI {n:Nat} {a:Act}: ∀(l:List Nat) {st:St} {β:Nat→Option Nat},ay P w I β st.hp B M w0→iM P E G w I β n a st→
  ∃β',Le P w I β st.hp w I β' (l.foldl wk st).hp∧ay P w I β' (l.foldl wk st).hp B M w0∧iM P E G w I β' n a (l.foldl wk st)
 | [],st,β,S,hA=>⟨β,Le.refl ..,S,hA⟩
 | p::l,st,β,S,hA=>by
  obtain ⟨tf,h1,h2,h3⟩:=akw S hA p;obtain ⟨cB,h4,h5,h6⟩:=ZI l h2 h3;exact ⟨cB,h1.trans h4,h5,h6⟩
theorem ZJ {n m:Nat} {pur:List Nat} {a:Act} {st:St} (S:ay P w I β st.hp B M w0) (hA:iM P E G w I β n a st):
  ∃I' β',Le P w I β st.hp w I' β' (freeze m pur st).hp∧ay P w I' β' (freeze m pur st).hp B M w0∧iM P E G w I' β' n a (freeze m pur st):=by
 obtain ⟨I1,h1,h2⟩:=xc (l:=(Jd st pur).filter fun id=>Nat.ble m id) S;obtain ⟨I',h3,h4,h5⟩:=V3 h2;have h1:=h1.trans h3;have hA2:iM P E G w I' β n a ⟨fun k=>bif iE pur (k+KB) then D1 (uA st.hp ((Jd st pur).filter fun id=>Nat.ble m id)) (st.sl k) else st.sl k,uA st.hp ((Jd st pur).filter fun id=>Nat.ble m id),st.nb⟩:=by
  refine ⟨fun k=> ?_,hA.size,hA.defers,hA.aB.mono h1.ej h1.cH⟩;have hv:=(hA.sl k).mono h1;cases hm:iE pur (k+KB) with
  | false=>grind
  | true=>simp only[hm,cond_true];exact akv h4 h5 hv
 obtain ⟨β',k1,k2,k3⟩:=ZI pur h4 hA2;exact ⟨I',β',h1.trans k1,k2,k3⟩
structure B8 (hp:Nat→Option ah) (β:Nat→Option Nat) (ord:List Nat) (hp':Nat→Option ah) (β':Nat→Option Nat):Prop where
 arr: ∀(j:Nat) id e es fz,ord[j]? =some id→hp id=some (.arr e es fz)→hp' j=some (.arr e es fz)
 var: ∀(j:Nat) id T cs,ord[j]? =some id→hp id=some (.var T cs)→∃ll,hp' j=some (.var T ll)
 dead: ∀(j:Nat) id,ord[j]? =some id→hp id=some .dead→hp' j=some .dead
 out: ∀(j:Nat) id e es vs i,ord[j]? =some id→hp id=some (.out e es vs i)→hp' j=some .dead
 place: ∀(j:Nat) id,ord[j]? =some id→β' j=β id
 nest: ∀(j:Nat) id e es vers,ord[j]? =some id→hp id=some (.nest e es vers)→hp' j=some (.nest e es (vers.map fun _=>0))
 map: ∀(j:Nat) id t es,ord[j]? =some id→hp id=some (.map t es)→hp' j=some (.map t es)
theorem nY: ∀{l:List Nat} {n i j:Nat},j4 l n i=some j→∃k,j=i+k∧l[k]? =some n
 | [],n,i,j,h=>by cases h
 | a::l,n,i,j,h=>by
  simp only[j4] at h;cases hb:Nat.beq n a with
  | true=>
   simp_all
  | false=>
   rw[hb] at h;obtain ⟨k,h1,h2⟩:=nY h;exact ⟨k+1,by omega,by grind⟩
def oz (hp':Nat→Option ah) (β':Nat→Option Nat) (n:Nat) (bs:List ah):Prop:=
 ∀(k:Nat) b,bs[k]? =some b→hp' (n+k)=some b∧β' (n+k)=none
theorem QO: ∀(vers:List Nat) (k:Nat),bt (vers.map fun _=>0) k=0
 | [],_=>rfl
 | _::_,0=>rfl
 | _::vs,k+1=>QO vs k
theorem ZK {e:TypeId} {es:List V} {vers:List Nat} {path:Path} {ver:Nat} (hc:(Nat.blt 0 path.length&&(Nat.ble path.length vers.length&&Nat.beq (bt vers (path.length-1)) ver))=true)
  (h:(ah.nest e es vers).uC path ver):False:=by
 simp only[aI,mK,fV,aK] at hc;obtain ⟨h1,h2,h3⟩:=hc;rcases h with h|h|h
 all_goals grind
theorem ZL (S:ay P w I β hp B M w0) (hT:sY P I β hp) {ord:List Nat} (hR:B8 hp β ord hp' β') {v:Value} {x:V} (hv:aj P w I β hp v x):aj P w I β' hp' v (j5 hp ord x):=by
 cases hv with
 | undef=>exact .undef
 | int=>exact .int
 | bool=>exact .bool
 | str h=>exact .str h
 | list h=>exact .list h
 | nilS=>exact .nilS
 | nl h h0=>exact .nl h h0
 | agg=>exact .undef
 | ba=>exact .undef
 | eB=>exact .eB
 | fn=>exact .undef
 | pref a b c=>exact .pref a b c
 | @dX _ e id ae=>
  simp only[j5];cases bE:j4 ord id 0 with
  | none=>simp only[ae];exact .undef
  | some j=>
   obtain ⟨k,rfl,hk⟩:=nY bE;exact .dX (hR.dead _ id (by grind) ae)
 | @jB _ e id off len ae=>
  simp only[j5];cases bE:j4 ord id 0 with
  | none=>simp only[ae];exact .undef
  | some j=>
   obtain ⟨k,rfl,hk⟩:=nY bE;exact .jB (hR.dead _ id (by grind) ae)
 | @mq _ id i c ae=>
  simp only[j5];cases bE:j4 ord id 0 with
  | none=>exact .undef
  | some j=>
   obtain ⟨k,rfl,hk⟩:=nY bE;exact .mq (hR.dead _ id (by grind) ae)
 | @dS e id fz _ ae hb=>
  simp only[j5];cases bE:j4 ord id 0 with
  | none=>
   simp only[ae];cases fz with
   | false=>exact .undef
   | true=>simp only[nF,cond_true];exact .list (.any fun _=>rfl)
  | some j=>
   obtain ⟨k,rfl,hk⟩:=nY bE;have eu:ord[0+k]? =some id:=by grind
   exact .dS (hR.arr _ id _ _ _ eu ae) ((hR.place _ id eu).trans hb)
 | @whole e id es fz b cap ae hb aZ bK hm=>
  simp only[j5];cases bE:j4 ord id 0 with
  | none=>
   simp only[ae];cases fz with
   | false=>exact .undef
   | true=>
    simp only[nF,cond_true];have hr:=S.h.rel id _ ae;cases hr with
    | eA au=>grind
    | arr hL ao au hh hs hf fE hx=>
     rw[hb] at au;cases au;have:=uF (I':=I) (off:=0) (len:=es.length) (o:=0) hh hx (fx ao) (by omega) bK (fun _=>by simp) (fun _ _ h=>h) (hT _ _ _ _ ae hb);exact .list (by grind)
  | some j=>
   obtain ⟨k,rfl,hk⟩:=nY bE;have eu:ord[0+k]? =some id:=by grind
   exact .whole (hR.arr _ id _ _ _ eu ae) ((hR.place _ id eu).trans hb) aZ bK hm
 | @iW e id fz _ ae hb=>
  simp only[j5];cases bE:j4 ord id 0 with
  | none=>
   simp only[ae];cases fz with
   | false=>exact .undef
   | true=>simp only[nF,cond_true];exact .list (by simpa using (ko.any (P:=P) fun _=>rfl))
  | some j=>
   obtain ⟨k,rfl,hk⟩:=nY bE;have eu:ord[0+k]? =some id:=by grind
   exact .iW (hR.arr _ id _ _ _ eu ae) ((hR.place _ id eu).trans hb)
 | @sub e id off len es fz b o cap ae hb mw bK ho=>
  simp only[j5];cases bE:j4 ord id 0 with
  | none=>
   simp only[ae];cases fz with
   | false=>exact .undef
   | true=>
    simp only[nF,cond_true];have hr:=S.h.rel id _ ae;cases hr with
    | eA au=>grind
    | arr hL ao au hh hs hf fE hx=>
     rw[hb] at au;cases au;exact .list (uF (I':=I) hh hx (fx ao) mw bK ho (fun _ _ h=>h) (hT _ _ _ _ ae hb))
  | some j=>
   obtain ⟨k,rfl,hk⟩:=nY bE;have eu:ord[0+k]? =some id:=by grind
   exact .sub (hR.arr _ id _ _ _ eu ae) ((hR.place _ id eu).trans hb) mw bK ho
 | @ptr id i c b blk ae hd hb=>
  simp only[j5];cases bE:j4 ord id 0 with
  | none=>exact .undef
  | some j=>
   obtain ⟨k,rfl,hk⟩:=nY bE;have eu:ord[0+k]? =some id:=by grind
   cases blk with
   | dead=>grind
   | var T0 cs=>
    obtain ⟨ll,h'⟩:=hR.var _ id T0 cs eu ae;exact .ptr (blk:= .var T0 ll) h' (by simp) ((hR.place _ id eu).trans hb)
   | arr e es fz=>exact .ptr (blk:= .arr e es fz) (hR.arr _ id _ _ _ eu ae) (by simp) ((hR.place _ id eu).trans hb)
   | nest e es vers=>exact .ptr (blk:= .nest e es (vers.map fun _=>0)) (hR.nest _ id _ _ _ eu ae) (by simp) ((hR.place _ id eu).trans hb)
   | map t es=>exact .ptr (blk:= .map t es) (hR.map _ id _ _ eu ae) (by simp) ((hR.place _ id eu).trans hb)
   | out e es vs i=>exact .mq (hR.out _ id _ _ _ _ eu ae)
 | e8=>exact .e8
 | @lj _ t id ae=>
  simp only[j5];cases bE:j4 ord id 0 with
  | none=>exact .undef
  | some j=>
   obtain ⟨k,rfl,hk⟩:=nY bE;exact .lj (hR.dead _ id (by grind) ae)
 | @cO t id b es ae hb=>
  simp only[j5];cases bE:j4 ord id 0 with
  | none=>exact .undef
  | some j=>
   obtain ⟨k,rfl,hk⟩:=nY bE;have eu:ord[0+k]? =some id:=by grind
   exact .cO (hR.map _ id _ _ eu ae) ((hR.place _ id eu).trans hb)
 | @fw e id i es vers b cap ae hb aZ bK hm=>
  simp only[j5];cases bE:j4 ord id 0 with
  | none=>simp only[ae];exact .undef
  | some j=>
   obtain ⟨k,rfl,hk⟩:=nY bE;exact .dX (hR.out _ id _ _ _ _ (by grind) ae)
 | @ee e id vers _ ae hb=>
  simp only[j5];cases bE:j4 ord id 0 with
  | none=>simp only[ae];exact .undef
  | some j=>
   obtain ⟨k,rfl,hk⟩:=nY bE;have eu:ord[0+k]? =some id:=by grind
   exact .ee (hR.nest _ id _ _ _ eu ae) ((hR.place _ id eu).trans hb)
 | @dI e id es vers b cap ae hb aZ bK hm=>
  simp only[j5];cases bE:j4 ord id 0 with
  | none=>simp only[ae];exact .undef
  | some j=>
   obtain ⟨k,rfl,hk⟩:=nY bE;have eu:ord[0+k]? =some id:=by grind
   exact .dI (hR.nest _ id _ _ _ eu ae) ((hR.place _ id eu).trans hb) aZ bK hm
 | @mr v e id ver path blk ae Eh=>
  simp only[j5];split
  ·rename_i j e1 dc vers h1 h2;rw[ae] at h2;cases h2;cases hc:(Nat.blt 0 path.length&&(Nat.ble path.length vers.length&&Nat.beq (bt vers (path.length-1)) ver)) with
   | false=>exact .undef
   | true=>exact (ZK hc Eh).elim
  ·exact .undef
 | @mu v id ver i c path blk ae Eh=>
  simp only[j5];split
  ·rename_i j e1 dc vers h1 h2;rw[ae] at h2;cases h2;cases hc:(Nat.blt 0 path.length&&(Nat.ble path.length vers.length&&Nat.beq (bt vers (path.length-1)) ver)) with
   | false=>exact .undef
   | true=>exact (ZK hc Eh).elim
  ·exact .undef
 | @row v e e0 t id ver b i c q es l vers ae hb hq hv ht hc=>
  simp only[j5];split
  ·rename_i j e1 dc wA h1 h2;obtain ⟨k,rfl,hk⟩:=nY h1;have eu:ord[0+k]? =some id:=by grind
   cases hx:(Nat.blt 0 (q++[(i,c)]).length&&(Nat.ble (q++[(i,c)]).length wA.length&&Nat.beq (bt wA ((q++[(i,c)]).length-1)) ver)) with
   | false=>exact .undef
   | true=>exact .row (hR.nest _ id _ _ _ eu ae) ((hR.place _ id eu).trans hb) (by grind) (QO _ _) ht hc
  ·exact .undef
 | @dD e e0 t id ver b b1 len cap i0 c0 i c q es l vers ae hb hq hv ht my hc=>
  simp only[j5];split
  ·rename_i j e1 dc wA h1 h2;obtain ⟨k,rfl,hk⟩:=nY h1;have eu:ord[0+k]? =some id:=by grind
   cases hx:(Nat.blt 0 (q++[(i0,c0)]).length&&(Nat.ble (q++[(i0,c0)]).length wA.length&&Nat.beq (bt wA ((q++[(i0,c0)]).length-1)) ver)) with
   | false=>exact .undef
   | true=>exact .dD (hR.nest _ id _ _ _ eu ae) ((hR.place _ id eu).trans hb) (by grind) (QO _ _) ht my hc
  ·exact .undef
theorem ZM (S:ay P w I β hp B M w0) (hT:sY P I β hp) {ord:List Nat} (hR:B8 hp β ord hp' β') {vs:Array Value} {xs:List V} (h: ∀(j:Nat) v x,vs[j]? =some v→xs[j]? =some x→aj P w I β hp v x) (j:Nat) (v:Value) (y:V)
  (hv:vs[j]? =some v) (hy:(xs.map (j5 hp ord))[j]? =some y):aj P w I β' hp' v y:=by
 rw[kZ] at hy;cases hx:xs[j]? with
 | none=>grind
 | some x=>rw[hx] at hy;cases hy;exact ZL S hT hR (h j v x hv hx)
theorem ZN (S:ay P w I β hp B M w0) (hT:sY P I β hp) {ord:List Nat} (hR:B8 hp β ord hp' β') {kn:Bool} {n:Nat} {v:Value} {x:V} (hv:aj P w I β hp v x) (hF:oz hp' β' n (A6 hp ord kn n x).2):
  aj P w I β' hp' v (A6 hp ord kn n x).1:=by
 cases x with
 | nilS e=>
  cases hv with
  | nilS=>
   cases kn with
   | true=>exact .nilS
   | false=>
    obtain ⟨h1,h2⟩:=hF 0 _ rfl;exact .dS h1 h2
 | fn f a b=>
  cases hv with
  | fn q1 q2 q3 q4=>exact .fn (by grind) (ZM S hT hR q2) (by grind) (ZM S hT hR q4)
 | _=>exact ZL S hT hR hv
end
section
variable {P:Program} {A:dn} {w w':World} {I I' I2:Nat→Nat→Prop} {μ β β':Nat→Option Nat} {hp hp':Nat→Option ah} {C:af} {B:Nat} {M:Nat→Prop} {w0:Start}
theorem oz.left {n:Nat} {a b:List ah} (h:oz hp' β' n (a++b)):oz hp' β' n a:=fun k x hx=>
 h k x (by rw[nG (cu.1 hx).1];exact hx)
theorem oz.right {n:Nat} {a b:List ah} (h:oz hp' β' n (a++b)):oz hp' β' (n+a.length) b:=fun k x hx=>by
 have:=h (a.length+k) x (by rw[oO (by omega),IE];exact hx);rwa [←xG] at this
def qf (bs:List ah):Prop:= ∀b∈bs,∃e,b= .arr e [] false
theorem qf.app {a b:List ah} (h1:qf a) (h2:qf b):qf (a++b):=fun x hx=>(eF.1 hx).elim (h1 x) (h2 x)
theorem qf.nil:qf []:=fun x hx=>by simp at hx
theorem ZO {ord:List Nat} {kn:Bool} {n:Nat} {x:V}:qf (A6 hp ord kn n x).2:=by
 cases x<;>simp only[A6]<;>first|exact .nil|skip
 cases kn<;>first|exact .nil|skip
 intro b hb;simp only[cond_false,fu] at hb;exact ⟨_,hb⟩
theorem QP {ord:List Nat} {kn:Bool}: ∀{xs:List V} {n:Nat},qf (qD hp ord kn n xs).2
 | [],n=> .nil
 | x::xs,n=>by
  simp only[qD];exact ZO.app QP
theorem KZ {ord:List Nat} {kn:Bool}: ∀{xs:List V} {n:Nat},(qD hp ord kn n xs).1.length=xs.length
 | [],n=>rfl
 | x::xs,n=>by simp only[qD,List.length_cons,KZ]
theorem K0 (S:ay P w I β hp B M w0) (hT:sY P I β hp) {ord:List Nat} (hR:B8 hp β ord hp' β') {kn:Bool}: ∀{xs:List V} {vs:List Value} {n:Nat},(∀(j:Nat) v x,vs[j]? =some v→xs[j]? =some x→aj P w I β hp v x)→
  oz hp' β' n (qD hp ord kn n xs).2→∀(j:Nat) v y,vs[j]? =some v→(qD hp ord kn n xs).1[j]? =some y→aj P w I β' hp' v y
 | [],vs,n,h,hF,j,v,y,hv,hy=>by simp[qD] at hy
 | x::xs,vs,n,h,hF,j,v,y,hv,hy=>by
  simp only[qD] at hF hy;cases j with
  | zero=>
   simp at hy;subst hy;exact ZN S hT hR (h 0 v x hv rfl) hF.left
  | succ j=>
   cases vs with
   | nil=>simp at hv
   | cons v0 vs=>exact K0 S hT hR (vs:=vs) (fun j v x hj hx=>h (j+1) v x (by simpa using hj) (by simpa using hx)) hF.right j v y (by simpa using hv) (by simpa using hy)
theorem akx {ord:List Nat} {n:Nat} {x:V}:qf (uz hp ord n x).2:=by
 cases x<;>simp only[uz]<;>first|exact ZO|exact QP
theorem aky (S:ay P w I β hp B M w0) (hT:sY P I β hp) {ord:List Nat} (hR:B8 hp β ord hp' β') {n:Nat} {v:Value} {x:V} (hv:aj P w I β hp v x) (hF:oz hp' β' n (uz hp ord n x).2):
  aj P w I β' hp' v (uz hp ord n x).1:=by
 cases x with
 | agg cs=>
  obtain ⟨ds,rfl,h1,h2⟩:=hv.mX;simp only[uz] at hF⊢;exact .agg (by rw[KZ];exact h1) fun j v y hj hy=>K0 S hT hR (vs:=ds.toList) (fun j v x hj hx=>h2 j v x (by simpa using hj) hx) hF j v y (by simpa using hj) hy
 | ba cs=>
  obtain ⟨ds,rfl,h1,h2⟩:=hv.yc;simp only[uz] at hF⊢;exact .ba (by rw[KZ];exact h1) fun j v y hj hy=>K0 S hT hR (vs:=ds.toList) (fun j v x hj hx=>h2 j v x (by simpa using hj) hx) hF j v y (by simpa using hj) hy
 | _=>exact ZN S hT hR hv hF
theorem ZP {ord:List Nat} {sl:Nat→V}: ∀{l:List Nat} {n:Nat},qf (oW hp ord sl n l).2
 | [],n=> .nil
 | s::l,n=>by
  simp only[oW];exact akx.app ZP
theorem ZQ {ord:List Nat} {sl:Nat→V} {k:Nat} {y:V}: ∀{l:List Nat} {n:Nat},oz hp' β' n (oW hp ord sl n l).2→fC (oW hp ord sl n l).1 k=some y→
  ∃n',oz hp' β' n' (uz hp ord n' (sl k)).2∧y=(uz hp ord n' (sl k)).1
 | [],n,_,h=>by cases h
 | s::l,n,hF,h=>by
  simp only[oW] at hF h;simp only[fC] at h;cases hb:Nat.beq k s with
  | true=>
   rw[hb] at h;rw[aK] at hb;subst hb;cases h;exact ⟨n,hF.left,rfl⟩
  | false=>
   rw[hb] at h;exact ZQ hF.right h
theorem akz {ord kp:List Nat} {n id:Nat}:qf (gp hp ord kp n id).2:=by
 unfold gp;split
 ·exact QP
 ·exact .nil
 ·exact .nil
 ·exact .nil
 ·exact .nil
theorem ZR {ord kp:List Nat}: ∀{l:List Nat} {n:Nat},qf (jf hp ord kp n l).2
 | [],n=> .nil
 | s::l,n=>by
  simp only[jf];exact akz.app ZR
theorem ZS {ord kp:List Nat}: ∀{l:List Nat} {n:Nat},(jf hp ord kp n l).1.length=l.length
 | [],n=>rfl
 | x::xs,n=>by simp only[jf,List.length_cons,ZS]
theorem ZT {ord kp:List Nat}: ∀{l:List Nat} {n j:Nat} {id:Nat},l[j]? =some id→∃n',(oz hp' β' n (jf hp ord kp n l).2→oz hp' β' n' (gp hp ord kp n' id).2)∧(jf hp ord kp n l).1[j]? =some (gp hp ord kp n' id).1
 | [],n,j,id,h=>by simp at h
 | s::l,n,j,id,h=>by
  simp only[jf];cases j with
  | zero=>
   simp at h;subst h;exact ⟨n,fun hF=>hF.left,rfl⟩
  | succ j=>
   obtain ⟨n',h1,h2⟩:=ZT (n:=n+(gp hp ord kp n s).2.length) (j:=j) (by simpa using h);exact ⟨n',fun hF=>h1 hF.right,by simpa using h2⟩
theorem FG: ∀{l acc:List Nat},∃t,wj hp acc l=acc++t∧(acc.Nodup→(acc++t).Nodup)
 | [],acc=>⟨[],by simp[wj],by simp⟩
 | id::l,acc=>by
  simp only[wj];cases hb:(iE acc id|| !(Ou hp id)) with
  | true=>exact FG
  | false=>
   obtain ⟨t,h1,h2⟩:=FG (l:=l) (acc:=acc++[id]);refine ⟨id::t,by simp only[cond_false,h1,la,List.singleton_append],fun hn=> ?_⟩;have:acc++id::t=(acc++[id])++t:=by simp
   rw[this];refine h2 ?_;rw[DI];refine ⟨hn,by simp,fun a ha b au=> ?_⟩;simp only[fu] at au;subst au;intro e;subst e;rw[yh ha] at hb;cases hb
theorem ZU: ∀{n:Nat} {l:List Nat},∃t,grow hp n l=l++t∧(l.Nodup→(l++t).Nodup)
 | 0,l=>⟨[],by simp[grow],by simp⟩
 | n+1,l=>by
  simp only[grow];obtain ⟨t,h1,h2⟩:=FG (hp:=hp) (acc:=l) (l:=l.flatMap (xQ hp));rw[h1];obtain ⟨t',h3,h4⟩:=ZU (n:=n) (l:=l++t);exact ⟨t++t',by rw[h3,la],fun hn=>by rw[←la];exact h4 (h2 hn)⟩
theorem akA {m:Nat} {live:List Nat} {st:St}: ∃t,Ov m live st=List.range m++t∧(List.range m++t).Nodup:=by
 unfold Ov;obtain ⟨t,h1,h2⟩:=FG (hp:=st.hp) (acc:=List.range m) (l:=live.flatMap fun s=>A5 (st.sl s));rw[h1];obtain ⟨t',h3,h4⟩:=ZU (hp:=st.hp) (n:=3) (l:=List.range m++t);rw[h3];obtain ⟨t2,h5,h6⟩:=FG (hp:=VQ st.hp) (acc:=List.range m++t++t') (l:=live.flatMap fun s=>bif Nat.ble (3*KB) s then xQ st.hp (s-3*KB) else bif Nat.ble KB s then (A5 (st.sl (s-KB))).flatMap (xQ st.hp) else []);exact ⟨t++t'++t2,by rw[h5];simp only[la],by simp only[←la];exact h6 (h4 (h2 List.nodup_range))⟩
end
end Go.AM
