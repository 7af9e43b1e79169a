/-
  Functions of the program, lifted to plain data.
-/
import Derived.Lib.AppendStr
import Derived.Laws.BytesString
import Derived.Lib.Builder
import Derived.Lib.UnsafeStr
import Derived.Laws.Runes
import Derived.Lib.LazyBuf
import Derived.Conc.MuLone
import Derived.Defers
import Derived.Test.YtjmolnomobmkdaaGreatDoorP2
noncomputable section
set_option linter.unusedVariables false
set_option linter.unusedSimpArgs false
set_option linter.unusedSectionVars false
namespace Go.AM
section
variable {P:Program} {w w':World} {I I':Nat→Nat→Prop} {β β':Nat→Option Nat} {hp hp':Nat→Option ah} {C:af} {B:Nat} {M:Nat→Prop} {w0:Start}
theorem amA {e:TypeId} (he:P.underlying e=some (.int .u8)) (hc:P.cellsOf e=1) (s:ByteArray): ∀(i j:Nat) (x:V) (t':TypeId),(s.data.toList.map E6)[i]? =some x→(aU P e)[j]? =some t'→j<P.cellsOf e→
  ∃u,(Lib.strCells s)[i*P.cellsOf e+j]? =some u∧Pure P w I t' u (cf P e x j):=by
 intro i j x t' hx ht hj;have pc:b8 P e=false:=by simp[b8,he]
 obtain rfl:j=0:=by omega
 simp only[aU,pc,cond_false,List.getElem?_cons_zero,fk] at ht;subst ht;rw[ki] at hx;cases hb:s.data.toList[i]? with
 | none=>grind
 | some b=>
  rw[hb] at hx;cases hx;refine ⟨.int .u8 b.toNat,?_,?_⟩
  ·rw[hc,iC,Nat.add_zero];simp only[Lib.strCells,ki,hb,Option.map_some]
  ·simp only[cf,pc,cond_false];exact .int he
theorem amB (w:World) (t u ty e T:TypeId) (i:TypeInfo) (ht:P.underlying t=some (.slice e)) (hu:P.underlying u=some .string) (hi:P.info? e=some i) (kZ:i.size=1)
  (g nk wy:Nat) (cur:Array Value) (hg:w.heap[g]? =some (.cells cur T (0,0))) (s:ByteArray)
  (uO:nk+s.size≤wy) (Dp:nk+s.size≤cur.size):
  (Builtin.append_ #[t,u] ty #[.slice (some ⟨g,0,none⟩) nk wy,.string s]).run P w=
   .ok (.slice (some ⟨g,0,none⟩) (nk+s.size) wy) (w.setRow g (cur.toList.take nk++Lib.strCells s++cur.toList.drop (nk+s.size)).toArray):=by
 have hf:=Lib.run_firstCells_string (P:=P) w 1 s;have cQ:=run_storeCells_at P g nk T (Lib.strCells s) 0 cur w hg (by simpa[Lib.strCells_length] using Dp) (Lib.strCells_oneCell s);simp only[Nat.add_zero,Lib.strCells_length] at cQ;simp[Builtin.append_,run_underlying ht,run_underlying hu,sizeOf,typeInfo,hi,kZ,Builtin.lenOf,uO,hf,Addr.add_lit,cQ]
theorem amC (w:World) (t u ty e:TypeId) (i:TypeInfo) (z:Value) (ht:P.underlying t=some (.slice e)) (hu:P.underlying u=some .string) (hi:P.info? e=some i) (hz:i.zero=some z)
  (s:ByteArray) (h0:0<s.size) (He:(s.size:Int)≤9223372036854775807) (MO:s.size*i.bytes≤281474976710656) (a0:Option Addr):
  (Builtin.append_ #[t,u] ty #[.slice a0 0 0,.string s]).run P w=
   .ok (.slice (some ⟨w.heap.size,0,none⟩) s.size (grownCap w s.size 0 e))
    (w.drew.alloc (.cells (s.data.map (fun b=>Value.int .u8 b.toNat)++Builtin.zeroCells z.cells (grownCap w s.size 0 e-s.size)) e)):=by
 cases a0 with
 | none=>exact run_append_nil_string w t u ty e i z ht hu hi hz s h0 He MO
 | some b=>
  rw[←run_append_nil_string w t u ty e i z ht hu hi hz s h0 He MO];have hn:s.size≠0:=by omega
  have SD: ¬(9223372036854775807<(s.size:Int)):=by omega
  have amD: ¬(281474976710656<Builtin.nextslicecap s.size 0*i.bytes):=by rw[nextslicecap_zero h0];omega
  simp[Builtin.append_,run_underlying ht,run_underlying hu,sizeOf,typeInfo,zeroValue,hi,hz,Builtin.lenOf,Builtin.firstCells,hn,SD,amD,Question.forced,newRow,grownCap,loadCells,loadCellsFrom]
theorem aa9 (S:aA P w I β hp B M w0) {t u ty e:TypeId} {nb:Nat} {fz:Bool} {x:ByteArray} {xs:List V} {i:TypeInfo} {z:Value} (hu:P.underlying t=some (.slice e)) (tE:P.underlying u=some .string) (aq:cY P e=true) (hn:hp nb=none)
 (hi:P.info? e=some i) (hz:i.zero=some z) (h3:i.size=P.cellsOf e) (h4:z.cells.size=P.cellsOf e) (Hm:i.size=1) (oL:P.bytesOf e=i.bytes) (ey:xs.length*P.bytesOf e≤aY) (rn:xs.length=x.size) (kz:(Lib.strCells x).length=x.size)
 (fJ: ∀(i j:Nat) (y:V) (t':TypeId),xs[i]? =some y→(aU P e)[j]? =some t'→j<P.cellsOf e→∃u,(Lib.strCells x)[i*P.cellsOf e+j]? =some u∧Pure P w I t' u (cf P e y j)):
 ∀a0,∃v w' β',(Builtin.append_ #[t,u] ty #[.slice a0 0 0,.string x]).run P w= .ok v w'∧Le P w I β hp w' I β' (ao hp nb (some (.arr e xs fz)))∧aA P w' I β' (ao hp nb (some (.arr e xs fz))) B M w0∧
  aj P w' I β' (ao hp nb (some (.arr e xs fz))) v (.whole e nb):=by
 intro a0;have wx:=zi aq;have hlen:xs.length≤2^45:=by
  have:xs.length*1≤xs.length*P.bytesOf e:=xt _ wx;simp only[aY] at ey;omega
 by_cases h0:x.size=0
 ·have jP:xs=[]:=pC (by omega);subst jP;obtain ⟨a1,a2⟩:=Ft S e hn;have hf:=Lib.run_firstCells_string (P:=P) w 1 x;rw[h0] at hf;have jk:Lib.strCells x=[]:=pC (by omega);exact ⟨.slice a0 0 0,_,_,by cases a0<;>simp[storeCells,jk,Builtin.append_,run_underlying hu,run_underlying tE,sizeOf,typeInfo,hi,Hm,Builtin.lenOf,h0,hf],a1,a2,.dV (bJ _ _ _) (bJ _ _ _)⟩
 ·have cP:=amC (P:=P) w t u ty e i z hu tE hi hz x (by omega) (by omega) (by rw[←oL,←rn];simp only[aY] at ey;omega) a0;have e1:(x.data.map fun b=>Value.int .u8 b.toNat)=(Lib.strCells x).toArray:=by
   apply Array.ext';simp[Lib.strCells]
  rw[e1,←rn] at cP;have rj:=grownCap_ge w xs.length 0 e;have tB:grownCap w xs.length 0 e≤maxLen:=grownCap_le_maxLen w xs.length 0 e (by simp only[maxLen];omega);obtain ⟨n1,n2,n3⟩:=Dj S.drew (nb:=nb) (cap:=grownCap w xs.length 0 e) (es:=xs) (C0:=(Lib.strCells x).toArray++Builtin.zeroCells z.cells (grownCap w xs.length 0 e-xs.length)) aq hn
   (by
    have:(Lib.strCells x).length=xs.length*P.cellsOf e:=by grind
    simp only[Kh,sJ,size_zeroCells,h4,this,←jn];grind) rj tB
   (fun i' j y t' hy ht hj=>by
    obtain ⟨u,lX,hp⟩:=fJ i' j y t' hy ht hj;have aP:=(cz.1 lX).1;refine ⟨u,?_,Pure.drew hp⟩;grind)
  exact ⟨_,_,_,cP,(Le.drew w I β hp).trans n1,n2,n3⟩
theorem amE (S:aA P w I β hp B M w0) {t u ty e:TypeId} {nb:Nat} {s:Value} {sv:V} {x:ByteArray} {r:R} {rd:List Nat} (hu:P.underlying t=some (.slice e)) (tE:P.underlying u=some .string) (he:P.underlying e=some (.int .u8)) (hs:aj P w I β hp s sv)
  (h:(BZ P nb e sv (.list e (x.data.toList.map E6))).run C hp=some (r,rd)):dj P ((Builtin.append_ #[t,u] ty #[s,.string x]).run P w) w I β hp B M w0 r:=by
 unfold BZ at h;obtain ⟨aq,h⟩:=aD h;simp only[vF] at h;obtain ⟨_,h⟩:=aD h;have pc:b8 P e=false:=by simp[b8,he]
 have gC:P.cellsOf e=1:=by rw[←(oY aq).1,Fp pc];rfl
 obtain ⟨i,z,hi,hz,h3,h4,_⟩:=ll aq;have Hm:i.size=1:=by omega
 have wx:=zi aq;have oL:P.bytesOf e=i.bytes:=by simp[Program.bytesOf,hi]
 have MW:=amA (P:=P) (w:=w) (I:=I) he gC x;have rn:(x.data.toList.map E6).length=x.size:=by simp
 have kz:(Lib.strCells x).length=x.size:=Lib.strCells_length x;have h1:=Lib.strCells_oneCell x;generalize jP:x.data.toList.map E6=xs at*
 cases sv with
 | nilS e'=>
  obtain ⟨hc,h⟩:=aD h;simp only[aJ,aL,gx] at hc;obtain ⟨hn,rfl⟩:=nj h;obtain ⟨a0,rfl⟩: ∃a0,s= .slice a0 0 0:=by cases hs;grind
  obtain ⟨v,w',β',a1,a2,a3,a4⟩:=aa9 S hu tE aq hn hi hz h3 h4 Hm oL hc.2 rn kz MW _;exact ⟨v,w',I,β',a1,a2,a3,a4⟩
 | whole e' id=>
  obtain ⟨l,h⟩:=run_get h;cases ae:hp id with
  | none=>rw[ae] at h;cases h
  | some blk=>
   rw[ae] at h;cases blk with
   | dead=>cases h
   | var _=>cases h
   | nest _ _ _=>cases h
   | map _ _=>cases h
   | out _ _ _ _=>cases h
   | arr dY es fz=>
    obtain ⟨hc,h⟩:=aD h;obtain ⟨hn,rfl⟩:=nj h;simp only[aJ,aL,gx] at hc;obtain ⟨Sh,Si,ey⟩:=hc;subst Sh;subst Si;have bp:nb≠id:=fun e=>by grind
    obtain ⟨k1,k2⟩:=xP S ae;have ju:ao hp id (some ah.dead) nb=none:=by rw[cB _ _ bp];exact hn
    cases hs with
    | dZ hd=>grind
    | dO hd=>grind
    | ee hd=>grind
    | fG hd=>grind
    | dV hd hb=>
     rw[ae] at hd;cases hd;simp only[List.length_nil,dB] at ey;obtain ⟨v,w',β',a1,a2,a3,a4⟩:=aa9 k2 hu tE aq ju hi hz h3 h4 Hm oL ey rn kz MW _;exact ⟨v,w',I,β',a1,k1.trans a2,a3,a4⟩
    | @whole _ _ aK pQ b cap hd hb bc bQ hm=>
     rw[ae] at hd;cases hd;have hr:=S.h.rel id _ ae;cases hr with
     | eF au=>grind
     | @arr _ T0 _ _ b' Ca hL _ au hh yo hf fN yp=>
      rw[hb] at au;cases au;have hlen:es.length+xs.length≤2^45:=by
       have:(es.length+xs.length)*1≤(es.length+xs.length)*P.bytesOf e:=xt _ wx;simp only[aY] at ey;omega
      rw[lL hh] at bc;have qQ: ∀ar blk',ao hp id (some ah.dead) ar=some blk'→¬bf P w (β ar) blk' b:=by
       intro ar blk' h1 h2;by_cases n0:ar=id
       ·subst n0;rw[bJ] at h1;cases h1;exact h2.alive rfl
       ·rw[cB _ _ n0] at h1;exact n0 (S.h.inj ar id blk' _ b h1 ae h2 (.root (by simp) hb))
      have Hf:=S.h.xL id _ b ae (by simp) hb;have sk:es.length*P.cellsOf e≤Ca.toList.length:=by omega
      have amF:(Lib.strCells x).length=xs.length*P.cellsOf e:=by grind
      by_cases uO:es.length+xs.length≤cap
      ·have Dp:es.length*P.cellsOf e+(Lib.strCells x).length≤Ca.size:=by grind
       have cP:=amB (P:=P) w t u ty e T0 i hu tE hi Hm b es.length cap Ca hh x (by omega) (by grind);have fJ:=MN (P:=P) (w:=w) (I:=I) (n:=es.length) (c:=Ca.toList) rfl (fun i j y t' a b c=>by
        grind) MW sk (Ca.toList.drop (es.length*P.cellsOf e+(Lib.strCells x).length))
       generalize ME:(Ca.toList.take es.length++Lib.strCells x++Ca.toList.drop (es.length+x.size)).toArray=C' at cP;have qn:C'.size=Ca.size:=by
        grind
       have SF:(w.setRow b C').heap[b]? =some (.cells C' T0 (0,0)):=setRow_heap w b Ca C' T0 _ hh;have sn: ∀j,j<es.length*P.cellsOf e→C'[j]? =Ca[j]? :=fun j hj=>by
        grind
       obtain ⟨a1,a2⟩:=Cl k2 (blk:= .arr e (es++xs) fz) (w':=w.setRow b C') ju qQ (aaF hh SF (Sa hf fN) sn) (fun b' h _=>setRow_other w b b' _ h) (by simp) ⟨rfl,rfl⟩ Hf
        (fun b' h=>(dN (h.flat (by simp))).symm) (fun hle=> .arr (qn▸hL) aq rfl SF (by grind) (fun _ j h=>oq (Sa hf fN j h) (eI _ (by simp))) fN fun i j y t' a b c=>by
         obtain ⟨v,hv,hp⟩:=fJ i j y t' a b c;refine ⟨v,?_,hp.mono hle.en hle.cM⟩;grind)
       refine ⟨_,_,_,_,cP,k1.trans a1,a2,?_⟩;have a3:=aj.whole (P:=P) (w:=w.setRow b C') (I:=I) (β:=ao β nb (some b)) (hp:=ao (ao hp id (some .dead)) nb (some (.arr e (es++xs) fz))) (cap:=cap) (b:=b) (es:=es++xs) (fz:=fz) (id:=nb) (e:=e) (bJ _ _ _) (bJ _ _ _) (by rw[lL SF,qn,bc]) (by grind) hm;rw[hY,rn] at a3;exact a3
      ·have hold: ∀(j:Nat) v,(Ca.toList.take (es.length*P.cellsOf e))[j]? =some v→w.cell? ((⟨b,0,none⟩:Addr).add j)=some v:=by
        intro j v hj;have dk:=(cz.1 hj).1;have dw:j<es.length*P.cellsOf e:=by grind
        rw[jB dw] at hj;rw[oC,cell?_cells hh,dB];grind
       have cP:=Lib.run_append_grow_string (P:=P) w t u ty e i z hu tE hi hz ⟨b,0,none⟩ es.length cap (Ca.toList.take (es.length*P.cellsOf e)) (by grind) hold x (by omega) (by omega)
        (growslice_fits (by omega) (by rw[←oL,←rn];simp only[aY] at ey;omega))
       rw[←rn] at cP;have rj:=grownCap_ge w (es.length+xs.length) cap e;have tB:grownCap w (es.length+xs.length) cap e≤maxLen:=grownCap_le_maxLen w _ cap e (by simp only[maxLen];omega);have fJ:=MN (P:=P) (w:=w) (I:=I) (n:=es.length) (c:=Ca.toList) rfl (fun i j y t' a b c=>by
        grind) MW sk (Builtin.zeroCells z.cells (grownCap w (es.length+xs.length) cap e-(es.length+xs.length))).toList
       obtain ⟨n1,n2,n3⟩:=Dj k2.drew (nb:=nb) (cap:=grownCap w (es.length+xs.length) cap e) (es:=es++xs)
        (C0:=(Ca.toList.take (es.length*P.cellsOf e)).toArray++(Lib.strCells x).toArray++Builtin.zeroCells z.cells (grownCap w (es.length+xs.length) cap e-(es.length+xs.length))) aq ju
        (by
         have e1:(Ca.toList.take (es.length*P.cellsOf e)).length=es.length*P.cellsOf e:=by simp;omega
         simp only[Kh,sJ,size_zeroCells,h4,amF,e1,←jn];grind) (by grind) tB
        (fun i j y t' a b c=>by
         obtain ⟨v,hv,hp⟩:=fJ i j y t' a b c;refine ⟨v,?_,Pure.drew hp⟩;grind)
       rw[hY] at n3;exact ⟨_,_,_,_,cP,(k1.trans (Le.drew w I β _)).trans n1,n2,n3⟩
 | _=>cases h
end
section
variable {P:Program} {w w':World} {I I':Nat→Nat→Prop} {β β':Nat→Option Nat} {hp hp':Nat→Option ah} {C:af} {B:Nat} {M:Nat→Prop} {w0:Start}
theorem aba: ∀(ns:List Int) (s:ByteArray),(ns.foldl (fun r n=>r.push (UInt8.ofNat n.toNat)) s).data.toList=s.data.toList++ns.map fun n=>UInt8.ofNat n.toNat
 | [],s=>by simp
 | n::ns,s=>by
  simp only[List.foldl_cons,aba ns,lD];simp_all
theorem RS {e:TypeId} {u:Value} {x:V} (he:P.underlying e=some (.int .u8)) (hp:Pure P w I e u x):u= .int .u8 x.toInt:=by
 cases hp with
 | int hp'=>rw[he] at hp';cases hp';rfl
 | bool hp'=>grind
 | str hp'=>grind
 | nil hp'=>grind
 | emp hp'=>grind
 | list _ hp'=>grind
theorem amG (S:aA P w I β hp B M w0) {src dst e:TypeId} {v:Value} {x:V} {r:R} {rd:List Nat} (hs:P.underlying src=some (.slice e)) (he:P.underlying e=some (.int .u8)) (hd:P.underlying dst=some .string)
  (hv:aj P w I β hp v x) (h:(Rd.az (cY P e) (vF e x fun es=> .ret ⟨.str (lE es),[]⟩)).run C hp=some (r,rd)):dj P ((convert src dst v).run P w) w I β hp B M w0 r:=by
 obtain ⟨aq,h⟩:=aD h;obtain ⟨xs,hx,l,h⟩:=Hd S.h.rel aq hv h;obtain rfl:=aN h;have pc:b8 P e=false:=by simp[b8,he]
 have h1:P.cellsOf e=1:=by rw[←(oY aq).1,Fp pc];rfl
 rcases hx with ⟨⟨a,rfl⟩,rfl⟩|⟨a,c,news,hr⟩
 ·refine .same S (v:= .string .empty) ?_ (.str (by simp[lE]));rw[run_convert_bytes_string w src dst e a 0 0 hs he hd];cases a<;>simp[Conv.bytesToString,loadCells,loadCellsFrom]
 ·have uN:news=(xs.map V.toInt).map (Value.int .u8):=by
   apply List.ext_getElem?;intro j;by_cases hj:j<xs.length
   ·obtain ⟨u,hu,hp⟩:=hr.el j 0 xs[j] e (bY hj) (by simp[aU,pc]) (by omega);rw[h1] at hu;simp only[cf,pc,cond_false] at hp;have lX:news[j]? =some u:=by grind
    rw[lX];have:=RS he hp;grind
   ·have hl:news.length=xs.length:=by rw[hr.len,h1];simp
    grind
  have SG:=run_loadCells_list (P:=P) w a news hr.cell;have hl:news.length=xs.length:=by grind
  rw[hl] at SG;rw[uN] at SG;refine .same S (v:= .string ((xs.map V.toInt).foldl (fun r n=>r.push (UInt8.ofNat n.toNat)) ByteArray.empty)) ?_ (.str ?_)
  ·rw[hr.val,run_convert_bytes_string w src dst e _ _ _ hs he hd];exact run_bytesToString w a xs.length c (xs.map V.toInt) SG
  ·rw[aba];simp[lE]
theorem amH {n:Int} (h:(decide (0≤n)&&decide (n<128))=true):(Utf8.encode n).data.toList=[UInt8.ofNat n.toNat]:=by
 simp only[aJ,jU] at h;have h1:Utf8.valid n=true:=by rw[validRune_eq];exact ca (by omega)
 unfold Utf8.encode;simp[h1,show n.toNat<128 by omega]
theorem aj.SH {v:Value} {e:TypeId} (h:aj P w I β hp v (.nilS e)):v= .slice none 0 0:=by cases h;rfl
theorem aj.MX {v:Value} (h:aj P w I β hp v .eJ):v= .pointer none:=by cases h;rfl
section
variable (w:World)
theorem amI (t e:TypeId) (a:Addr) (h:P.underlying t=some (.pointer e)):(binOp .eql t (.pointer (some a)) (.pointer none)).run P w= .ok (.bool false) w:=by
 have h0: ∀d:Nat,(Op.equalIn (d+1) t (.pointer (some a)) (.pointer none)).run P w= .ok false w:=fun d=>by simp[Op.equalIn,run_underlying h]
 simp only[binOp];simp[Op.equal,Op.maxDepth,h0 9999]
theorem amJ (t e:TypeId) (a:Addr) (h:P.underlying t=some (.pointer e)):(binOp .neq t (.pointer (some a)) (.pointer none)).run P w= .ok (.bool (!false)) w:=by
 have h0: ∀d:Nat,(Op.equalIn (d+1) t (.pointer (some a)) (.pointer none)).run P w= .ok false w:=fun d=>by simp[Op.equalIn,run_underlying h]
 simp only[binOp];simp[Op.equal,Op.maxDepth,h0 9999]
theorem amK (t e:TypeId) (a:Addr) (h:P.underlying t=some (.pointer e)):(binOp .eql t (.pointer none) (.pointer (some a))).run P w= .ok (.bool false) w:=by
 have h0: ∀d:Nat,(Op.equalIn (d+1) t (.pointer none) (.pointer (some a))).run P w= .ok false w:=fun d=>by simp[Op.equalIn,run_underlying h]
 simp only[binOp];simp[Op.equal,Op.maxDepth,h0 9999]
theorem amL (t e:TypeId) (a:Addr) (h:P.underlying t=some (.pointer e)):(binOp .neq t (.pointer none) (.pointer (some a))).run P w= .ok (.bool (!false)) w:=by
 have h0: ∀d:Nat,(Op.equalIn (d+1) t (.pointer none) (.pointer (some a))).run P w= .ok false w:=fun d=>by simp[Op.equalIn,run_underlying h]
 simp only[binOp];simp[Op.equal,Op.maxDepth,h0 9999]
theorem amM (t e:TypeId) (h:P.underlying t=some (.pointer e)):(binOp .eql t (.pointer none) (.pointer none)).run P w= .ok (.bool true) w:=by
 have h0: ∀d:Nat,(Op.equalIn (d+1) t (.pointer none) (.pointer none)).run P w= .ok true w:=fun d=>by simp[Op.equalIn,run_underlying h]
 simp only[binOp];simp[Op.equal,Op.maxDepth,h0 9999]
theorem amN (t e:TypeId) (h:P.underlying t=some (.pointer e)):(binOp .neq t (.pointer none) (.pointer none)).run P w= .ok (.bool (!true)) w:=by
 have h0: ∀d:Nat,(Op.equalIn (d+1) t (.pointer none) (.pointer none)).run P w= .ok true w:=fun d=>by simp[Op.equalIn,run_underlying h]
 simp only[binOp];simp[Op.equal,Op.maxDepth,h0 9999]
end
theorem MY (S:aA P w I β hp B M w0) {op:BinOp} {t:TypeId} {b:Bool} {x y:Operand} {v1 v2:Value} {r:R} {rd:List Nat} (h:(ptrEq P op t b).run C hp=some (r,rd)) (hg:(eqGuard op t x y v1 v2).run P w= .ok () w)
  (he: ∀e j,P.underlying t=some (.pointer e)→P.info? e=some j→(binOp .eql t v1 v2).run P w= .ok (.bool b) w∧(binOp .neq t v1 v2).run P w= .ok (.bool (!b)) w):
  dj P ((do eqGuard op t x y v1 v2;binOp op t v1 v2:Sem Value).run P w) w I β hp B M w0 r:=by
 unfold ptrEq at h;cases hu:P.underlying t with
 | none=>rw[hu] at h;cases h
 | some d=>
  rw[hu] at h;cases d<;>simp only at h<;>first|(cases h;done)|skip
  rename_i e;obtain ⟨h1,h2⟩:=aD h;obtain ⟨j,hj⟩:=BM.1 h1;obtain ⟨k1,k2⟩:=he e j hu hj;cases op<;>simp only at h2<;>first|(cases h2;done)|skip
  ·obtain rfl:=aN h2;exact .same S (by simp_all) .bool
  ·obtain rfl:=aN h2;exact .same S (by simp_all) .bool
theorem amO {b n:Nat}:(∀b',b'≠b→(w.freeze ⟨b,0,none⟩ n).heap[b']? =w.heap[b']?)∧bsize (w.freeze ⟨b,0,none⟩ n) b=bsize w b∧w.heap.size≤(w.freeze ⟨b,0,none⟩ n).heap.size∧(w.freeze ⟨b,0,none⟩ n).os=w.os∧(w.freeze ⟨b,0,none⟩ n).output=w.output:=by
 unfold World.freeze;split
 ·grind
 ·refine ⟨fun b' hb=> ?_,?_,by simp,rfl,rfl⟩
  ·grind
  ·simp only[bsize,Kk,pD];grind
theorem amP {e:TypeId} (hb:isByte P e=true):P.underlying e=some (.int .u8):=by
 unfold isByte at hb;grind
theorem amQ (S:aA P w I β hp B M w0) {ts:Array TypeId} {ty e:TypeId} {v:Value} {id:Nat} {es:List V} {fz:Bool} (hv:aj P w I β hp v (.whole e id)) (ae:hp id=some (.arr e es fz)) (h0:0<es.length):
  dj P ((Builtin.unsafeSliceData_ ts ty #[v]).run P w) w I β hp B M w0 ⟨.ptr id 0 0,[]⟩:=by
 cases hv with
 | dZ h=>grind
 | dV h _=>grind
 | dO h _ _ _ _=>grind
 | ee h _=>grind
 | fG h _ _ _ _=>grind
 | @whole _ _ aK pQ b cap h hb bQ hle hm=>
  rw[ae] at h;cases h;refine .same S (Lib.run_unsafeSliceData_row w ts ty ⟨b,0,none⟩ es.length cap (by omega)) ?_;have:=aj.ptr (P:=P) (w:=w) (I:=I) (β:=β) (i:=0) (c:=0) ae (by simp) hb;grind
theorem amR {P:Program} {w:World} (pt it ty e T:TypeId) (hp:P.underlying pt=some (.pointer e)) (g cells:Nat) (MZ:w.shape? g=some (T,cells)) (l:List UInt8) (h0:l≠[]) (aaH:liesAt P P.depth T (cells/P.cellsOf T) 0 e l.length=true) (He:l.length≤9223372036854775807)
  (gL: ∀j x,l[j]? =some x→w.cell? ((⟨g,0,none⟩:Addr).add j)=some (.int .u8 x.toNat)):
  (Builtin.unsafeString_ #[pt,it] ty #[.pointer (some ⟨g,0,none⟩),.int .i64 l.length]).run P w= .ok (.string ⟨l.toArray⟩) (w.freeze ⟨g,0,none⟩ l.length):=by
 have hl:l.length≠0:=by grind
 have hlb:=Lib.run_loadBytes (P:=P) w l ⟨g,0,none⟩ .empty gL;have SD: ¬(9223372036854775807:Int)<(l.length:Int):=by omega
 have amS:Builtin.unsafeString_ #[pt,it] ty #[.pointer (some ⟨g,0,none⟩),.int .i64 l.length]=
   (do
    let n←asInt (.int .i64 l.length)
    if n < 0 then runtimePanic (.error "unsafe.String: len out of range")
    if n > IntKind.i64.max then unsupported (.unsafePointer "String: a length above the largest int")
    if n=0 then pure (.string .empty)
    else if←variablesAt ⟨g,0,none⟩ (←elemOf pt) n.toNat then do
     let s←loadBytes ⟨g,0,none⟩ .empty n.toNat
     Go.freeze ⟨g,0,none⟩ n.toNat
     pure (.string s)
    else unsupported (.unsafePointer "String: not so many bytes at ptr")) := rfl
 rw[amS];have amT:IntKind.i64.max=9223372036854775807:=rfl;have amU: ¬(l.length:Int)<0:=by omega
 simp[asInt,asIntOf,amT,SD,amU,hl,variablesAt,MZ,elemOf,run_underlying hp,aaH,hlb]
theorem amV (S:aA P w I β hp B M w0) {t u ty e:TypeId} {vx:Value} {id:Nat} {n:Int} {es:List V} (hu:P.underlying t=some (.pointer e)) (hb:isByte P e=true) (hv:aj P w I β hp vx (.ptr id 0 0))
  (ae:hp id=some (.arr e es false)) (h0:0<n) (hn:n≤es.length) (hm:n.toNat≤pN) (na:(es.take n.toNat).all Qj=true):dj P ((Builtin.unsafeString_ #[t,u] ty #[vx,.int .i64 n]).run P w) w I β hp B M w0 ⟨.str (lE (es.take n.toNat)),[(id,.dead)]⟩:=by
 obtain ⟨b,SJ,rfl⟩:=hv.jl ae (by simp);have fZ:=hb;have he:P.underlying e=some (.int .u8):=by
  unfold isByte at hb;grind
 have pc:b8 P e=false:=by simp[b8,he]
 have hr:=S.h.rel id _ ae;rw[SJ] at hr;cases hr with
 | eF au=>cases au
 | @arr _ T0 _ _ b1 Ca hL aq sk hh hs hI di fJ=>
  cases sk;have h1:P.cellsOf e=1:=by rw[←(oY aq).1,Fp pc];rfl
  have aP:=S.ahY ae (by simp) SJ;have hl:(lE (es.take n.toNat)).length=n.toNat:=by simp[lE];omega
  have SB:n=((lE (es.take n.toNat)).length:Nat):=by omega
  have cP:=amR (P:=P) (w:=w) t u ty e T0 hu b Ca.size (by simp[World.shape?,hh]) (lE (es.take n.toNat)) (fun h=>by grind) (hL fZ h1 _ (by grind)) (by rw[hl];unfold pN at hm;omega) (fun j x hx=>by
   have hj:j<n.toNat:=by
    grind
   have zp:j<es.length:=by omega
   simp only[lE,ki,jB hj,bY zp,Option.map_some,fk] at hx;obtain ⟨v,ti,bL⟩:=fJ j 0 es[j] e (bY zp) (by simp[aU,pc]) (by omega);rw[h1] at ti;simp only[cf,pc,cond_false] at bL;have:=RS he bL;have hr:=ib.1 na es[j] (mN (by rw[jB hj];grind));simp only[Qj,aJ,jU] at hr;have lj:(x.toNat:Int)=es[j].toInt:=by
    rw[←hx];have:es[j].toInt.toNat<256:=by omega
    simp only[UInt8.toNat_ofNat'];omega
   rw[oC,cell?_cells hh,lj];grind)
  obtain ⟨f1,f2,f3,f4,f5⟩:=amO (w:=w) (b:=b) (n:=n.toNat);obtain ⟨k1,k2⟩:=Cm (w':=w.freeze ⟨b,0,none⟩ n.toNat) S ae (by simp) (blk':= .dead) (by trivial) SJ (di rfl) (by simp) f1 f2 f3 ⟨f4,f5⟩ (fun _=> .dead);rw[←SB,hl] at cP;refine ⟨.string ⟨(lE (es.take n.toNat)).toArray⟩,_,I,β,?_,k1,k2,.str ?_⟩
  all_goals grind
def SK:Op→Bool
 | .call {callee:= .value (.func _),..}=>true
 | .call {callee:= .value (.tmp _),..}=>true
 | .defer _=>true
 | _=>false
theorem ta.val {o:Oper} {a:Act} {s:Sem Value} {r:R} (he:execOp a.eval o=(do Pure.pure (Next.value (←s)))) (h:dj P (s.run P w) w I β hp B M w0 r):ta P ((execOp a.eval o).run P w) w I β hp B M w0 r:=by
 rw[he];exact h.op
theorem amW {A:dr} (S:aA P w I β hp B M w0) (hg:jZ P A.aE w I) {a:Act} {sl:Nat→V} (hs:oy P w I β hp a sl) {ix nb:Nat} {o:Oper} (SL:SK o.op=false) {r:R} {rd:List Nat}
  (h:(jq P A sl ix nb o).run C hp=some (r,rd)):ta P ((execOp a.eval o).run P w) w I β hp B M w0 r:=by
 obtain ⟨dst,op,ty,pos,after,guard⟩:=o;cases op<;>simp only[jq] at h<;>first|(cases h;done)|skip
 case move x=>
  obtain rfl:=aN h;exact ⟨_,w,I,β,.inl (by simp[execOp]),Le.refl w I β hp,S,hs.ev hg ty x⟩
 case assign x=>
  obtain rfl:=aN h;exact ⟨_,w,I,β,.inl (by simp[execOp]),Le.refl w I β hp,S,hs.ev hg ty x⟩
 case pick c x y=>
  have hc:=hs.ev hg ty c;cases z9:aS P A.aE ty sl c<;>rw[z9] at h hc<;>simp only at h<;>first|(cases h;done)|skip
  rename_i t;have amX:=hc.nE;have hx:=hs.ev hg ty x;have hy:=hs.ev hg ty y;have fin: ∀z:V,aj P w I β hp (if t then a.eval x else a.eval y) z→ta P ((execOp a.eval ⟨dst,.pick c x y,ty,pos,after,guard⟩).run P w) w I β hp B M w0 ⟨z,[]⟩:=by
   intro z hz;exact ⟨_,w,I,β,.inl (by simp[execOp,amX,asBool]),Le.refl w I β hp,S,hz⟩
  cases hg1:gone (aS P A.aE ty sl x) with
  | true=>
   rw[hg1] at h;obtain ⟨h1,h⟩:=aD h;obtain rfl:=aN h;grind
  | false=>
   rw[hg1] at h;simp only[cond_false] at h;cases hg2:gone (aS P A.aE ty sl y) with
   | true=>
    rw[hg2] at h;obtain ⟨h1,h⟩:=aD h;obtain rfl:=aN h;grind
   | false=>
    rw[hg2] at h;obtain rfl:=aN h;exact fin _ (X6 hx hy)
 case makeFunc fn x y=>
  cases fn<;>simp only[jq] at h<;>first|(cases h;done)|skip
  rename_i f;obtain rfl:=aN h;refine ⟨.func (.func f) (x.map a.eval) (y.map a.eval),w,I,β,.inl (by simp[execOp,Instr.makeFunc]),Le.refl w I β hp,S,.fn (by simp) (fun j v z hj hz=> ?_) (by simp) (fun j v z hj hz=> ?_)⟩
  ·rw[Array.getElem?_map] at hj;rw[ki,sL] at hz;cases hx:x[j]? with
   | none=>grind
   | some o1=>
    rw[hx] at hj hz;cases hj;cases hz;exact hs.ev hg ty o1
  ·rw[Array.getElem?_map] at hj;rw[ki,sL] at hz;cases hx:y[j]? with
   | none=>grind
   | some o1=>
    rw[hx] at hj hz;cases hj;cases hz;exact hs.ev hg ty o1
 case defer c=>cases SL
 case makeMap t res=>
  cases res with
  | some x=>cases h
  | none=>exact .val rfl (amv S h)
 case lookup t m k ok=>
  cases ht:pP P t with
  | none=>rw[ht] at h;cases h
  | some q=>
   obtain ⟨kt,vt⟩:=q;rw[ht] at h;exact .val (s:=Instr.lookup t (a.eval m) (a.eval k) ok) rfl (amu S ht (hs.ev hg t m) (hs.ev hg kt k) h)
 case mapUpdate t m k x=>
  cases ht:pP P t with
  | none=>rw[ht] at h;cases h
  | some q=>
   obtain ⟨kt,vt⟩:=q;rw[ht] at h;have:=aa7 S ht (hs.ev hg t m) (hs.ev hg kt k) (hs.ev hg vt x) h;exact this.op
 case insert t m k x=>
  cases ht:pP P t with
  | none=>rw[ht] at h;cases h
  | some q=>
   obtain ⟨kt,vt⟩:=q;rw[ht] at h;have:=aa7 S ht (hs.ev hg t m) (hs.ev hg kt k) (hs.ev hg vt x) h;exact this.op
 case alloc e=>
  cases dst with
  | none=>exact .val rfl (aav S h)
  | some d=>
   simp only at h;cases uQ:iO A.sN d with
   | true=>rw[uQ] at h;exact .val rfl (alU S h)
   | false=>rw[uQ] at h;exact .val rfl (aav S h)
 case box e x=>
  exact .val rfl (alP S (hs.ev hg e x) h)
 case build t ps=>exact .val rfl (alR S hs hg h)
 case buildSlice t len ps=>
  cases hu:P.underlying t with
  | none=>rw[hu] at h;cases h
  | some d=>
   rw[hu] at h;cases d<;>simp only at h<;>first|(cases h;done)|skip
   cases dst with
   | none=>exact .val rfl (aaL S hs hg hu h)
   | some d=>
    simp only at h;cases uQ:iO A.sN d with
    | true=>rw[uQ] at h;exact .val rfl (amb S hs hg hu h)
    | false=>rw[uQ] at h;exact .val rfl (aaL S hs hg hu h)
 case load t x=>exact .val rfl (aid S (hs.ev hg ty x) h)
 case store t x y=>
  have:=alO S (hs.ev hg ty x) (hs.ev hg t y) h;exact this.op
 case nilCheck x=>
  have hx:=hs.ev hg ty x;cases jm:aS P A.aE ty sl x<;>rw[jm] at h hx<;>simp only at h<;>first|(cases h;done)|skip
  ·obtain ⟨⟨blk,ae,hd⟩,l,h⟩:=Fv h;obtain rfl:=aN h;have dd:=hx;obtain ⟨b,hb,he⟩:=hx.jl ae hd;rw[he] at dd;exact ⟨_,w,I,β,.inl (by simp only[execOp,he];rfl),Le.refl w I β hp,S,dd⟩
  ·obtain rfl:=aN h;have dd:=hx;obtain ⟨b,o,he,_⟩:=hx.Fw;rw[he] at dd;exact ⟨_,w,I,β,.inl (by simp only[execOp,he];rfl),Le.refl w I β hp,S,dd⟩
  ·obtain ⟨e0,es,vers,l,ae,h1,h2,h3,h⟩:=rV h;obtain rfl:=aN h;have dd:=hx;obtain ⟨b,o,he,_⟩:=hx.X1 ae h1 h2 h3;rw[he] at dd;exact ⟨_,w,I,β,.inl (by simp only[execOp,he];rfl),Le.refl w I β hp,S,dd⟩
 case binOp op t x y yt=>
  have hx:=hs.ev hg t x;have hy:=hs.ev hg t y;refine .val (s:=do eqGuard op t x y (a.eval x) (a.eval y);binOp op t (a.eval x) (a.eval y)) rfl ?_;cases jm:aS P A.aE t sl x<;>cases uV:aS P A.aE t sl y<;>rw[jm,uV] at h<;>rw[jm] at hx<;>rw[uV] at hy<;>first|(simp only[mQ] at h;cases h;done)|skip
  ·rw[hx.fW,hy.fW];have:=ah3 S h;simpa[ah0] using this
  ·rw[hx.nE,hy.nE];have:=ah5 S h;simpa[ah1] using this
  ·obtain ⟨s1,e1,l1⟩:=hx.oZ;obtain ⟨s2,e2,l2⟩:=hy.oZ;rw[e1,e2];rw[←l1,←l2] at h;have:=ah6 (t:=t) S h;simpa[ah2] using this
  ·simp only[mQ] at h;rw[hx.SH,hy.SH];cases hu:P.underlying t with
   | none=>rw[hu] at h;cases h
   | some d=>
    rw[hu] at h;cases d<;>(try (cases h;done))
    cases op<;>simp only at h<;>first|(cases h;done)|skip
    ·obtain rfl:=aN h;exact .same S (by simpa[eqGuard] using run_eql_slice_nil w _ _ none 0 0 hu) .bool
    ·obtain rfl:=aN h;exact .same S (by simpa[eqGuard] using run_neq_slice_nil w _ _ none 0 0 hu) .bool
  ·obtain ⟨cs,e1,h1,h2⟩:=hx.nF;obtain ⟨ds,e2,h3,h4⟩:=hy.nF;rw[e1,e2];exact ah7 S h1 h3 h2 h4 h
  ·
   simp only[mQ] at h;obtain ⟨h1,h2⟩:=aD h;clear h;simp only[aJ,aL] at h1;obtain ⟨rfl,rfl,rfl⟩:=h1;obtain ⟨⟨blk,ae,hd⟩,l,h⟩:=Fv h2;obtain ⟨b,hb,e1⟩:=hx.jl ae hd;obtain ⟨b',au,e2⟩:=hy.jl ae hd;rw[hb] at au;cases au;rw[e1,e2];exact MY S h (by cases op<;>simp[eqGuard]) fun e j he hj=>⟨run_eql_ptr_same w _ he hj,Lib.run_neq_ptr_same w _ he hj⟩
  ·simp only[mQ] at h;obtain ⟨⟨blk,ae,hd⟩,l,h⟩:=Fv h;obtain ⟨b,_,e1⟩:=hx.jl ae hd;rw[e1,hy.MX];exact MY S h (by cases op<;>simp[eqGuard]) fun e j he hj=>⟨amI w t e _ he,amJ w t e _ he⟩
  ·simp only[mQ] at h;obtain ⟨⟨blk,ae,hd⟩,l,h⟩:=Fv h;obtain ⟨b,_,e1⟩:=hy.jl ae hd;rw[e1,hx.MX];exact MY S h (by cases op<;>simp[eqGuard]) fun e j he hj=>⟨amK w t e _ he,amL w t e _ he⟩
  ·simp only[mQ] at h;rw[hx.MX,hy.MX];exact MY S h (by cases op<;>simp[eqGuard]) fun e j he hj=>⟨amM w t e he,amN w t e he⟩
  ·
   simp only[mQ] at h;obtain ⟨l,h⟩:=run_get h;split at h
   ·rename_i t2 es ae;obtain ⟨b,hb⟩:=hx.amz ae;rw[hy.SC,hb];exact aa8 (a:=some b) S x y h
   ·cases h
  ·simp only[mQ] at h;rw[hx.SC,hy.SC];exact aa8 (a:=none) S x y h
  ·simp only[mQ] at h;rename_i e1 es e2;rw[hy.SH];cases hu:P.underlying t with
   | none=>rw[hu] at h;cases h
   | some d=>
    rw[hu] at h;cases d<;>(try (cases h;done))
    have hv:(es=[]∧a.eval x= .slice none 0 0)∨(es≠[]∧∃b n c,a.eval x= .slice (some b) n c):=by
     generalize a.eval x=u at hx;cases hx with
     | nl q q0=>
      cases q with
      | nil=>exact .inl ⟨rfl,rfl⟩
      | emp=>cases q0 rfl
      | list g b1 c1 d1 e1=>
       by_cases he:es=[]
       ·cases q0 he
       ·exact .inr ⟨he,_,_,_,rfl⟩
    cases op<;>simp only at h<;>first|(cases h;done)|skip
    ·obtain rfl:=aN h;rcases hv with ⟨rfl,hv⟩|⟨he,b,n,c,hv⟩
     ·rw[hv];exact .same S (by simpa[eqGuard] using run_eql_slice_nil w _ _ none 0 0 hu) .bool
     ·rw[hv];have:Nat.beq es.length 0=false:=by cases es with|nil=>exact absurd rfl he|cons _ _=>rfl
      rw[this];exact .same S (by simpa[eqGuard] using run_eql_slice_nil w _ _ (some b) n c hu) .bool
    ·obtain rfl:=aN h;rcases hv with ⟨rfl,hv⟩|⟨he,b,n,c,hv⟩
     ·rw[hv];exact .same S (by simpa[eqGuard] using run_neq_slice_nil w _ _ none 0 0 hu) .bool
     ·rw[hv];have:Nat.beq es.length 0=false:=by cases es with|nil=>exact absurd rfl he|cons _ _=>rfl
      rw[this];exact .same S (by simpa[eqGuard] using run_neq_slice_nil w _ _ (some b) n c hu) .bool
 case unOp op t x=>exact .val rfl (ah8 S (hs.ev hg ty x) h)
 case convert src dst x=>
  have hx:=hs.ev hg ty x;refine .val (s:=convert src dst (a.eval x)) rfl ?_;cases kZ:P.underlying src with
  | none=>rw[kZ] at h;cases h
  | some d1=>
   cases qo:P.underlying dst with
   | none=>rw[kZ,qo] at h;cases d1<;>cases h
   | some d2=>
    rw[kZ,qo] at h;have km: ∀{b:Nat} {T:TypeId} {cs:List V} {id:Nat},hp id=some (.var T cs)→β id=some b→w.shape? b=some (T,cs.length):=by
     intro b T cs id ae hb;have hr:=S.h.rel id _ ae;rw[hb] at hr;cases hr with
     | var au hh bc _ _ _=>cases au;simp[World.shape?,hh,bc]
    cases d1<;>(try (cases d2<;>cases h;done))
    ·cases d2<;>(try (cases h;done))<;>cases jm:aS P A.aE ty sl x<;>rw[jm] at h hx<;>simp only at h<;>first|(cases h;done)|skip
     ·obtain rfl:=aN h;rw[hx.fW];exact .same S (by simp[convert,run_underlying kZ,run_underlying qo,Conv.intToInt]) .int
     ·obtain ⟨hc,h⟩:=aD h;obtain rfl:=aN h;rw[hx.fW];exact .same S (run_convert_int_string w src dst _ _ (by simp[kZ]) qo) (.str (amH hc))
    ·cases d2<;>(try (cases h;done))
     rename_i u;cases jm:aS P A.aE ty sl x<;>rw[jm] at h hx<;>simp only at h<;>first|(cases h;done)|skip
     rename_i id i c;obtain ⟨l,h1⟩:=run_get h;cases ae:hp id with
     | none=>rw[ae] at h1;cases h1
     | some blk=>
      rw[ae] at h1;cases blk<;>simp only at h1<;>first|(cases h1;done)|skip
      rename_i T cs;obtain ⟨h2,h3⟩:=aD h1;simp only[aJ,aL] at h2;obtain ⟨rfl,h4,h5⟩:=h2;obtain ⟨b,hb,e1⟩:=hx.jl ae (by simp);obtain rfl:=aN h3;obtain ⟨j,hj⟩:=BM.1 h4;have dd:=hx;rw[e1] at dd⊢;exact .same S (Lib.run_from_unsafe w _ kZ qo hj (km ae hb) (by grind)) dd
    ·cases d2<;>(try (cases h;done))
     rename_i t;cases jm:aS P A.aE ty sl x<;>rw[jm] at h hx<;>simp only at h<;>first|(cases h;done)|skip
     rename_i id i c;obtain ⟨l,h1⟩:=run_get h;cases ae:hp id with
     | none=>rw[ae] at h1;cases h1
     | some blk=>
      rw[ae] at h1;cases blk<;>simp only at h1<;>first|(cases h1;done)|skip
      rename_i T cs;obtain ⟨h2,h3⟩:=aD h1;simp only[aJ,aL,nt] at h2;obtain ⟨rfl,h4,h5⟩:=h2;obtain ⟨b,hb,e1⟩:=hx.jl ae (by simp);obtain rfl:=aN h3;cases hj:P.info? t with
      | none=>grind
      | some j=>
       rw[hj] at h5;simp only[nw] at h5;have h6:j.size≠0:=fun e=>by simp_all
       have dd:=hx;rw[e1] at dd⊢;exact .same S (Lib.run_to_unsafe w _ kZ qo hj h6 (km ae hb) (by grind)) dd
    ·rename_i e;cases d2<;>(try (cases h;done))
     simp only at h;cases he:P.underlying e with
     | none=>rw[he] at h;cases h
     | some d3=>
      rw[he] at h;cases d3<;>(try (cases h;done))
      rename_i k;cases k<;>(try (cases h;done))
      exact amG S kZ he qo hx h
 case fieldAddr s x f=>exact .val rfl (ah9 S (hs.ev hg ty x) h)
 case field s x f=>exact .val rfl (amc S (hs.ev hg ty x) h)
 case indexAddr t x y=>exact .val rfl (aml S (hs.ev hg ty x) (hs.ev hg 0 y) h)
 case index t x y=>
  have hx:=hs.ev hg ty x;have hy:=hs.ev hg 0 y;refine .val (s:=Instr.index t (a.eval x) (a.eval y)) rfl ?_;cases hu:P.underlying t with
  | none=>rw[hu] at h;cases h
  | some d=>
   rw[hu] at h;cases d<;>(try (cases h;done))
   ·cases jm:aS P A.aE ty sl x<;>rw[jm] at h hx<;>(try (cases h;done))
    cases uV:aS P A.aE 0 sl y<;>rw[uV] at h hy<;>(try (cases h;done))
    obtain ⟨s,e1,l1⟩:=hx.oZ;rw[e1,hy.fW];exact ame S hu l1 h
   ·cases jm:aS P A.aE ty sl x<;>rw[jm] at h hx<;>(try (cases h;done))
    cases uV:aS P A.aE 0 sl y<;>rw[uV] at h hy<;>(try (cases h;done))
    rw[hy.fW];exact amf S hu hx h
 case slice t x lo hi mx=>
  cases mx with
  | some m=>
   simp only at h;refine .val (s:=Instr.sliceAt t (a.eval x) (lo.map a.eval) (hi.map a.eval) (some (a.eval m))) (by simp[execOp]) (ami S (hs.ev hg ty x) (fun hy=> ?_) (fun y hy=> ?_) (fun y hy=> ?_) h)
   ·simp_all
   ·cases hi with
    | none=>cases hy
    | some l=>cases hy;exact ⟨_,rfl,hs.ev hg 0 l⟩
   ·cases hy;exact ⟨_,rfl,hs.ev hg 0 m⟩
  | none=>
   simp only at h;have plain:(KD P t (aS P A.aE ty sl x) (lo.map (aS P A.aE 0 sl)) (hi.map (aS P A.aE 0 sl))).run C hp=some (r,rd)→ta P ((execOp a.eval ⟨dst,.slice t x lo hi none,ty,pos,after,guard⟩).run P w) w I β hp B M w0 r:=by
    intro h;refine .val (s:=Instr.sliceAt t (a.eval x) (lo.map a.eval) (hi.map a.eval) none) (by simp[execOp]) (amh S (hs.ev hg ty x) (fun y hy=> ?_) (fun y hy=> ?_) (fun hy=> ?_) (fun hy=> ?_) h)
    ·cases lo with
     | none=>cases hy
     | some l=>cases hy;exact ⟨_,rfl,hs.ev hg 0 l⟩
    ·cases hi with
     | none=>cases hy
     | some l=>cases hy;exact ⟨_,rfl,hs.ev hg 0 l⟩
    all_goals simp_all
   have tr:(KE P nb t (aS P A.aE ty sl x) (lo.map (aS P A.aE 0 sl)) (hi.map (aS P A.aE 0 sl))).run C hp=some (r,rd)→ta P ((execOp a.eval ⟨dst,.slice t x lo hi none,ty,pos,after,guard⟩).run P w) w I β hp B M w0 r:=by
    intro h;refine .val (s:=Instr.sliceAt t (a.eval x) (lo.map a.eval) (hi.map a.eval) none) (by simp[execOp]) (amm S (hs.ev hg ty x) (fun y hy=> ?_) (fun hy=> ?_) h)
    ·cases hi with
     | none=>cases hy
     | some l=>cases hy;exact ⟨_,rfl,hs.ev hg 0 l⟩
    simp_all
   grind
 case extract x i=>
  have hx:=hs.ev hg ty x;cases jm:aS P A.aE ty sl x<;>rw[jm] at h hx<;>simp only at h<;>first|(cases h;done)|skip
  exact .val (s:=Instr.extract (a.eval x) i) rfl (amd S hx h)
 case makeSlice t l c=>
  have hl:=hs.ev hg 0 l;have hc:=hs.ev hg 0 c;refine .val (s:=Instr.makeSlice t (a.eval l) (a.eval c)) rfl ?_;cases hu:P.underlying t with
  | none=>rw[hu] at h;cases h
  | some d=>
   rw[hu] at h;cases d<;>(try (cases h;done))
   cases SM:aS P A.aE 0 sl l<;>rw[SM] at h hl<;>(try (cases h;done))
   cases z9:aS P A.aE 0 sl c<;>rw[z9] at h hc<;>(try (cases h;done))
   rw[hl.fW,hc.fW];cases dst with
   | none=>exact aaM S hu h
   | some d=>
    simp only at h;cases hg:iO A.sN d with
    | true=>rw[hg] at h;exact alW S hu h
    | false=>rw[hg] at h;exact aaM S hu h
 case call c=>
  obtain ⟨callee,args,argTypes⟩:=c;cases callee with
  | invoke r m=>cases h
  | value f=>
   cases f with
   | func f=>cases SL
   | tmp f=>cases SL
   | _=>cases h
  | builtin b=>
   have one: ∀{x:Operand},args.toList=[x]→args= #[x]:=fun h=>by grind
   have wD: ∀(s:Array TypeId→TypeId→Array Value→Sem Value),builtin b argTypes ty (args.map fun| .const _=>true|_=>false) (args.map a.eval)=(do Pure.pure (Next.value (←s argTypes ty (args.map a.eval))))→
     execOp a.eval ⟨dst,.call ⟨.builtin b,args,argTypes⟩,ty,pos,after,guard⟩=(do Pure.pure (Next.value (←s argTypes ty (args.map a.eval)))):=by
    intro s hb;simp only[execOp,resolve,pure_bind,invoke];exact hb
   cases b<;>(try (cases h;done))
   case append=>
    simp only at h;cases ha:args.toList with
    | nil=>rw[ha] at h;cases h
    | cons x l=>
     cases l with
     | nil=>rw[ha] at h;cases h
     | cons y l2=>
      cases l2 with
      | cons _ _=>rw[ha] at h;cases h
      | nil=>
       cases fV:argTypes.toList with
       | nil=>rw[ha,fV] at h;cases h
       | cons t l3=>
        cases l3 with
        | nil=>rw[ha,fV] at h;cases h
        | cons u l4=>
         cases l4 with
         | cons _ _=>rw[ha,fV] at h;cases h
         | nil=>
          rw[ha,fV] at h;simp only at h;have e1:args= #[x,y]:=by grind
          have e2:argTypes= #[t,u]:=by grind
          cases hu:P.underlying t with
          | none=>rw[hu] at h;cases h
          | some d=>
           rw[hu] at h;cases d<;>(try (cases h;done))
           cases hc:Nat.beq t u with
           | true=>
            rw[hc] at h;rw[aL] at hc;subst hc;simp only[cond_true] at h;refine .val (wD Builtin.append_ rfl) ?_;rw[e1,e2];cases dst with
            | none=>
             have:=aaT (ty:=ty) S hu (hs.ev hg t x) (hs.ev hg t y) h;grind
            | some d=>
             simp only at h;cases uQ:iO A.sN d with
             | true=>
              rw[uQ] at h;have:=al5 (ty:=ty) S hu (hs.ev hg t x) (hs.ev hg t y) h;grind
             | false=>
              rw[uQ] at h;have:=aaT (ty:=ty) S hu (hs.ev hg t x) (hs.ev hg t y) h;grind
           | false=>
            rw[hc] at h;simp only[cond_false] at h;have hy:=hs.ev hg u y;cases tE:P.underlying u with
            | none=>rw[tE] at h;cases h
            | some du=>
             rw[tE] at h;cases du<;>(try (cases h;done))
             cases uV:aS P A.aE u sl y<;>rw[uV] at h hy<;>(try (cases h;done))
             simp only at h;obtain ⟨hb,h⟩:=aD h;obtain ⟨s1,q1,q2⟩:=hy.oZ;subst q2;have:=amE (ty:=ty) S hu tE (amP hb) (hs.ev hg t x) h;refine .val (wD Builtin.append_ rfl) ?_;grind
   case len=>
    simp only at h;cases ha:args.toList with
    | nil=>rw[ha] at h;cases h
    | cons x l=>
     cases l with
     | cons _ _=>rw[ha] at h;cases h
     | nil=>
      cases fV:argTypes.toList with
      | nil=>rw[ha,fV] at h;cases h
      | cons t l3=>
       cases l3 with
       | cons _ _=>rw[ha,fV] at h;cases h
       | nil=>
        rw[ha,fV] at h;simp only at h;have e1:args= #[x]:=by grind
        have e2:argTypes= #[t]:=by grind
        have hx:=hs.ev hg ty x;refine .val (wD Builtin.len_ rfl) ?_;rw[e1,e2];cases hu:P.underlying t with
        | none=>rw[hu] at h;cases h
        | some d=>
         rw[hu] at h;cases d<;>(try (cases h;done))
         ·cases jm:aS P A.aE ty sl x<;>rw[jm] at h hx<;>(try (cases h;done))
          have:=X7 (t:=t) (ty:=ty) S hx (fun l hl=>hu) (fun hn=>absurd rfl (hn _)) h;grind
         ·have h2:(∀l,aS P A.aE ty sl x≠ .str l)∧(Kw P (aS P A.aE ty sl x)).run C hp=some (r,rd):=by
           cases jm:aS P A.aE ty sl x<;>rw[jm] at h<;>first|(cases h;done)|exact ⟨fun l=>by simp,h⟩
          have:=X7 (t:=t) (ty:=ty) S hx (fun l hl=>absurd hl (h2.1 l)) (fun _=>⟨_,hu⟩) h2.2;grind
         ·have h2:(KC (aS P A.aE ty sl x)).run C hp=some (r,rd):=by
           omega
          have:=amy (t:=t) (ty:=ty) S hu hx h2;grind
   case unsafeSliceData=>
    simp only at h;cases ha:args.toList with
    | nil=>rw[ha] at h;cases h
    | cons x l=>
     cases l with
     | cons _ _=>rw[ha] at h;cases h
     | nil=>
      rw[ha] at h;simp only at h;have e1:args= #[x]:=by grind
      have hx:=hs.ev hg ty x;refine .val (wD Builtin.unsafeSliceData_ rfl) ?_;rw[e1];cases jm:aS P A.aE ty sl x<;>rw[jm] at h hx<;>simp only at h<;>first|(cases h;done)|skip
      rename_i e id;obtain ⟨l2,h1⟩:=run_get h;cases ae:hp id with
      | none=>rw[ae] at h1;cases h1
      | some blk=>
       rw[ae] at h1;cases blk<;>simp only at h1<;>first|(cases h1;done)|skip
       rename_i e' es fz;obtain ⟨h2,h3⟩:=aD h1;simp only[aJ,aL,nt] at h2;obtain ⟨rfl,h4⟩:=h2;obtain rfl:=aN h3;have:=amQ (ts:=argTypes) (ty:=ty) S hx ae h4;grind
   case unsafeString=>
    simp only at h;cases ha:args.toList with
    | nil=>rw[ha] at h;cases h
    | cons x l=>
     cases l with
     | nil=>rw[ha] at h;cases h
     | cons y l2=>
      cases l2 with
      | cons _ _=>rw[ha] at h;cases h
      | nil=>
       cases fV:argTypes.toList with
       | nil=>rw[ha,fV] at h;cases h
       | cons t l3=>
        cases l3 with
        | nil=>rw[ha,fV] at h;cases h
        | cons u l4=>
         cases l4 with
         | cons _ _=>rw[ha,fV] at h;cases h
         | nil=>
          rw[ha,fV] at h;simp only at h;have e1:args= #[x,y]:=by grind
          have e2:argTypes= #[t,u]:=by grind
          have hx:=hs.ev hg ty x;have hy:=hs.ev hg ty y;cases hu:P.underlying t with
          | none=>rw[hu] at h;cases h
          | some d=>
           rw[hu] at h;cases d<;>(try (cases h;done))
           rename_i e;cases jm:aS P A.aE ty sl x<;>rw[jm] at h hx<;>(try (cases h;done))
           cases uV:aS P A.aE ty sl y<;>rw[uV] at h hy<;>(try (cases h;done))
           rename_i id i c k n;cases k<;>(try (cases h;done))
           simp only at h;obtain ⟨l2,h1⟩:=run_get h;cases ae:hp id with
           | none=>rw[ae] at h1;cases h1
           | some blk=>
            rw[ae] at h1;cases blk<;>simp only at h1<;>first|(cases h1;done)|skip
            rename_i e' es fz;cases fz<;>simp only at h1<;>first|(cases h1;done)|skip
            obtain ⟨h2,h3⟩:=aD h1;simp only[aJ,aL,gx,jU] at h2;obtain ⟨rfl,h4,rfl,rfl,h5,h6,h7,h8⟩:=h2;obtain rfl:=aN h3;have:=amV (u:=u) (ty:=ty) S hu h4 hx ae h5 h6 h7 h8;refine .val (wD Builtin.unsafeString_ rfl) ?_;rw[e1,e2];simpa[hy.fW] using this
   case copy=>
    simp only at h;cases ha:args.toList with
    | nil=>rw[ha] at h;cases h
    | cons x l=>
     cases l with
     | nil=>rw[ha] at h;cases h
     | cons y l2=>
      cases l2 with
      | cons _ _=>rw[ha] at h;cases h
      | nil=>
       cases fV:argTypes.toList with
       | nil=>rw[ha,fV] at h;cases h
       | cons t l3=>
        cases l3 with
        | nil=>rw[ha,fV] at h;cases h
        | cons u l4=>
         cases l4 with
         | cons _ _=>rw[ha,fV] at h;cases h
         | nil=>
          rw[ha,fV] at h;simp only at h;have e1:args= #[x,y]:=by grind
          have e2:argTypes= #[t,u]:=by grind
          cases hu:P.underlying t with
          | none=>rw[hu] at h;cases h
          | some d=>
           rw[hu] at h;cases d<;>(try (cases h;done))
           have:=al2 (u:=u) (ty:=ty) S hu (hs.ev hg t x) (hs.ev hg u y) h;refine .val (wD Builtin.copy_ rfl) ?_;grind
   case clear=>
    simp only at h;cases ha:args.toList with
    | nil=>rw[ha] at h;cases h
    | cons x l=>
     cases l with
     | cons _ _=>rw[ha] at h;cases h
     | nil=>
      cases fV:argTypes.toList with
      | nil=>rw[ha,fV] at h;cases h
      | cons t l3=>
       cases l3 with
       | cons _ _=>rw[ha,fV] at h;cases h
       | nil=>
        rw[ha,fV] at h;simp only at h;have e1:args= #[x]:=by grind
        have e2:argTypes= #[t]:=by grind
        cases hu:P.underlying t with
        | none=>rw[hu] at h;cases h
        | some d=>
         rw[hu] at h;cases d<;>(try (cases h;done))
         have:=al3 (ty:=ty) S hu (hs.ev hg t x) h;refine .val (wD Builtin.clear_ rfl) ?_;grind
   case max=>
    simp only at h;cases ha:args.toList with
    | nil=>rw[ha] at h;cases h
    | cons x l=>
     rw[ha] at h;simp only at h;have:=Sn S true (vs:=l.map a.eval) (xs:=l.map (aS P A.aE ty sl)) (hs.ev hg ty x) (by simp) (fun j u y hu hy=>by
      simp only[ki] at hu hy;cases hl:l[j]? with
      | none=>grind
      | some z=>rw[hl] at hu hy;cases hu;cases hy;exact hs.ev hg ty z) h
     refine .val (wD Builtin.max_ rfl) ?_;simpa[Builtin.max_,ha] using this
   case min=>
    simp only at h;cases ha:args.toList with
    | nil=>rw[ha] at h;cases h
    | cons x l=>
     rw[ha] at h;simp only at h;have:=Sn S false (vs:=l.map a.eval) (xs:=l.map (aS P A.aE ty sl)) (hs.ev hg ty x) (by simp) (fun j u y hu hy=>by
      simp only[ki] at hu hy;cases hl:l[j]? with
      | none=>grind
      | some z=>rw[hl] at hu hy;cases hu;cases hy;exact hs.ev hg ty z) h
     refine .val (wD Builtin.min_ rfl) ?_;simpa[Builtin.min_,ha] using this
end
section
variable {P:Program} {A:dr} {w w':World} {I I' I2:Nat→Nat→Prop} {μ β β':Nat→Option Nat} {hp hp':Nat→Option ah} {C:af} {B:Nat} {M:Nat→Prop} {w0:Start}
theorem Ae: ∀{l m:List Nat},gh.rS l m=true→l=m
 | [],[],_=>rfl
 | [],_::_,h=>by cases h
 | _::_,[],h=>by cases h
 | a::l,b::m,h=>by
  simp only[gh.rS,aJ,aL] at h;rw[h.1,Ae h.2]
@[simp] theorem abb (n:Nat):oW (gy n)=n:=by simp[oW,gy,V.toInt]
theorem M1: ∀(path:List (Nat×Nat)) (rest:List V),E2 (path.map (·.2)) ((path.map fun p=>gy p.1)++rest)=path
 | [],_=>rfl
 | p::l,rest=>by
  simp only[lD,List.cons_append,E2,V.nth,abb,List.drop_succ_cons,xm,M1 l rest]
theorem M3 {l:LS} {x:V} {ds:List V} (h:gh l x=some ds):ds.length=l.size∧(l= .vB∨∀rest,lF l (ds++rest)=x):=by
 cases l with
 | vB=>simp only[gh,fk] at h;subst h;exact ⟨rfl,.inl rfl⟩
 | int k=>
  cases x<;>simp only[gh] at h<;>first|(cases h;done)|skip
  rename_i k' n;by_cases hk:k=k'
  ·subst hk;simp only[decide_true,cond_true,fk] at h;subst h;exact ⟨rfl,.inr fun _=>rfl⟩
  grind
 | bool=>
  cases x<;>simp only[gh] at h<;>first|(cases h;done)|skip
  cases h;exact ⟨rfl,.inr fun _=>rfl⟩
 | str=>
  cases x<;>simp only[gh] at h<;>first|(cases h;done)|skip
  cases h;exact ⟨rfl,.inr fun _=>rfl⟩
 | list e=>
  cases x<;>simp only[gh] at h<;>first|(cases h;done)|skip
  rename_i e' es;cases hb:Nat.beq e e' with
  | false=>grind
  | true=>
   rw[hb] at h;rw[aL] at hb;subst hb;cases h;exact ⟨rfl,.inr fun _=>rfl⟩
 | whole e j=>
  cases x<;>simp only[gh] at h<;>first|(cases h;done)|skip
  rename_i e' id;cases hb:(Nat.beq e e'&&Nat.beq j id) with
  | false=>grind
  | true=>
   rw[hb] at h;simp only[aJ,aL] at hb;obtain ⟨rfl,rfl⟩:=hb;cases h;exact ⟨rfl,.inr fun _=>rfl⟩
 | sub e j=>
  cases x<;>simp only[gh] at h<;>first|(cases h;done)|skip
  rename_i e' id o n;cases hb:(Nat.beq e e'&&Nat.beq j id) with
  | false=>grind
  | true=>
   rw[hb] at h;simp only[aJ,aL] at hb;obtain ⟨rfl,rfl⟩:=hb;cases h;exact ⟨rfl,.inr fun _=>by simp[lF,V.nth]⟩
 | ptr j=>
  cases x<;>simp only[gh] at h<;>first|(cases h;done)|skip
  rename_i id i c;cases hb:(Nat.beq j id) with
  | false=>grind
  | true=>
   rw[hb] at h;rw[aL] at hb;subst hb;cases h;exact ⟨rfl,.inr fun _=>by simp[lF,V.nth]⟩
 | ay j i c=>
  cases x<;>simp only[gh] at h<;>first|(cases h;done)|skip
  rename_i id i' c';cases hb:(Nat.beq j id&&(Nat.beq i i'&&Nat.beq c c')) with
  | false=>grind
  | true=>
   rw[hb] at h;simp only[aJ,aL] at hb;obtain ⟨rfl,rfl,rfl⟩:=hb;cases h;exact ⟨rfl,.inr fun _=>rfl⟩
 | nilS e=>
  cases x<;>simp only[gh] at h<;>first|(cases h;done)|skip
  rename_i e';cases hb:Nat.beq e e' with
  | false=>grind
  | true=>
   rw[hb] at h;rw[aL] at hb;subst hb;cases h;exact ⟨rfl,.inr fun _=>rfl⟩
 | nl e=>
  cases x<;>simp only[gh] at h<;>first|(cases h;done)|skip
  rename_i e' es;cases hb:Nat.beq e e' with
  | false=>grind
  | true=>
   rw[hb] at h;rw[aL] at hb;subst hb;cases h;exact ⟨rfl,.inr fun _=>rfl⟩
 | eJ=>
  cases x<;>simp only[gh] at h<;>first|(cases h;done)|skip
  cases h;exact ⟨rfl,.inr fun _=>rfl⟩
 | cK e j=>
  cases x<;>simp only[gh] at h<;>first|(cases h;done)|skip
  rename_i e' id;cases hb:(Nat.beq e e'&&Nat.beq j id) with
  | false=>grind
  | true=>
   rw[hb] at h;simp only[aJ,aL] at hb;obtain ⟨rfl,rfl⟩:=hb;cases h;exact ⟨rfl,.inr fun _=>rfl⟩
 | fc e=>
  cases x<;>simp only[gh] at h<;>first|(cases h;done)|skip
  rename_i e';cases hb:Nat.beq e e' with
  | false=>grind
  | true=>
   rw[hb] at h;rw[aL] at hb;subst hb;cases h;exact ⟨rfl,.inr fun _=>rfl⟩
 | BU k n=>
  cases x<;>simp only[gh] at h<;>first|(cases h;done)|skip
  rename_i k' m;cases hb:(decide (k=k')&&decide (m=n)) with
  | false=>grind
  | true=>
   rw[hb] at h;simp only[aJ,jU] at hb;obtain ⟨rfl,rfl⟩:=hb;cases h;exact ⟨rfl,.inr fun _=>rfl⟩
 | Ko b=>
  cases x<;>simp only[gh] at h<;>first|(cases h;done)|skip
  rename_i c;cases hb:decide (b=c) with
  | false=>grind
  | true=>
   rw[hb] at h;obtain rfl:=EF hb;cases h;exact ⟨rfl,.inr fun _=>rfl⟩
 | row e j cs=>
  cases x<;>simp only[gh] at h<;>first|(cases h;done)|skip
  rename_i e' id ver path;cases hb:(Nat.beq e e'&&(Nat.beq j id&&(Nat.beq ver 0&&gh.rS cs (path.map (·.2))))) with
  | false=>grind
  | true=>
   rw[hb] at h;simp only[aJ,aL] at hb;obtain ⟨rfl,rfl,rfl,tc⟩:=hb;have:=Ae tc;subst this;cases h;exact ⟨by simp[LS.size],.inr fun rest=>by simp only[lF,M1]⟩
 | dF j cs c=>
  cases x<;>simp only[gh] at h<;>first|(cases h;done)|skip
  rename_i id ver path i c';cases hb:(Nat.beq j id&&(Nat.beq ver 0&&(Nat.beq c c'&&gh.rS cs (path.map (·.2))))) with
  | false=>grind
  | true=>
   rw[hb] at h;simp only[aJ,aL] at hb;obtain ⟨rfl,rfl,rfl,tc⟩:=hb;have:=Ae tc;subst this;cases h;exact ⟨by simp[LS.size],.inr fun rest=>by simp only[lF,List.cons_append,V.nth,abb,List.drop_succ_cons,xm,M1]⟩
def LS.below (n:Nat) (x:V):Prop:= ∀id∈fM x,id<n
def abc:V→Prop
 | .agg _=>False
 | .bd _=>False
 | .fn .. =>False
 | .pref .. =>False
 | _=>True
theorem Af {c:Bool} {a d:List V} (h:(bif c then some a else none)=some d):c=true:=by
 grind
theorem amY {l:LS} {x:V} {ds:List V} {n:Nat} (h:gh l x=some ds) (hl:l≠ .vB) (aq:l.ok n=true):abc x∧LS.below n x:=by
 cases l<;>cases x<;>simp only[gh] at h<;>first|(cases h;done)|(exact absurd rfl hl)|skip
 all_goals refine ⟨trivial,fun id ae=> ?_⟩
 all_goals simp only[fM,fS,mO] at ae
 all_goals subst ae
 all_goals simp only[LS.ok,nt] at aq
 all_goals
  have hb:=Af h;simp_all
theorem aj.amZ {v:Value} {x:V} (h:aj P w I β hp v x) (hx:abc x) (hs: ∀id∈fM x,hp' id=hp id∧β' id=β id):aj P w I β' hp' v x:=by
 have one: ∀{id},id∈fM x→hp' id=hp id∧β' id=β id:=fun h=>hs _ h;cases h with
 | undef=>exact .undef
 | int=>exact .int
 | bool=>exact .bool
 | str h=>exact .str h
 | list h=>exact .list h
 | nilS=>exact .nilS
 | nl h h0=>exact .nl h h0
 | agg=>exact hx.elim
 | bd=>exact hx.elim
 | eJ=>exact .eJ
 | fn=>exact hx.elim
 | pref=>exact hx.elim
 | dZ h=>exact .dZ ((one (by simp[fM])).1.trans h)
 | jK h=>exact .jK ((one (by simp[fM])).1.trans h)
 | mV h=>exact .mV ((one (by simp[fM])).1.trans h)
 | dV h hb=>exact .dV ((one (by simp[fM])).1.trans h) ((one (by simp[fM])).2.trans hb)
 | whole h hb a b c=>exact .whole ((one (by simp[fM])).1.trans h) ((one (by simp[fM])).2.trans hb) a b c
 | dO h hb a b c=>exact .dO ((one (by simp[fM])).1.trans h) ((one (by simp[fM])).2.trans hb) a b c
 | ee h hb=>exact .ee ((one (by simp[fM])).1.trans h) ((one (by simp[fM])).2.trans hb)
 | fG h hb a b c=>exact .fG ((one (by simp[fM])).1.trans h) ((one (by simp[fM])).2.trans hb) a b c
 | jh h hb=>exact .jh ((one (by simp[fM])).1.trans h) ((one (by simp[fM])).2.trans hb)
 | sub h hb a b c=>exact .sub ((one (by simp[fM])).1.trans h) ((one (by simp[fM])).2.trans hb) a b c
 | ptr h hd hb=>exact .ptr ((one (by simp[fM])).1.trans h) hd ((one (by simp[fM])).2.trans hb)
 | mW h wv=>exact .mW ((one (by simp[fM])).1.trans h) wv
 | mX h wv=>exact .mX ((one (by simp[fM])).1.trans h) wv
 | row h hb a b c d=>exact .row ((one (by simp[fM])).1.trans h) ((one (by simp[fM])).2.trans hb) a b c d
 | dF h hb a b c d e=>exact .dF ((one (by simp[fM])).1.trans h) ((one (by simp[fM])).2.trans hb) a b c d e
 | fc=>exact .fc
 | lJ h=>exact .lJ ((one (by simp[fM])).1.trans h)
 | cK h hb=>exact .cK ((one (by simp[fM])).1.trans h) ((one (by simp[fM])).2.trans hb)
theorem M4 {a b:List V} {n:Nat} (h:a.length=n):(a++b).drop n=b:=by subst h;simp
def Hn (n:Nat) (β:Nat→Option Nat) (hp:Nat→Option ah) (β':Nat→Option Nat) (hp':Nat→Option ah):Prop:= ∀id,id<n→hp' id=hp id∧β' id=β id
theorem abd {l:LS} {x:V} {ds:List V} {n:Nat} {v:Value} (h:gh l x=some ds) (aq:l.ok n=true) (kI:Hn n β hp β' hp') (hv:aj P w I β hp v x) (rest:List V):
  aj P w I β' hp' v (lF l (ds++rest)):=by
 rcases (M3 h).2 with e|e
 ·subst e;exact .undef
 ·rw[e rest];by_cases hu:l= .vB
  ·subst hu;have:x= .undef:=(e rest).symm;subst this;exact .undef
  ·obtain ⟨h1,h2⟩:=amY h hu aq;exact hv.amZ h1 fun id ae=>kI id (h2 id ae)
theorem Ho {n:Nat} (kI:Hn n β hp β' hp'): ∀{ls:List LS} {xs:List V} {ds:List V},ug ls xs=some ds→ls.all (LS.ok n)=true→
  ds.length=nB ls∧(∀rest,(jf ls (ds++rest)).length=xs.length)∧
  ∀(rest:List V) (j:Nat) (v:Value) (y:V),(∀x,xs[j]? =some x→aj P w I β hp v x)→(jf ls (ds++rest))[j]? =some y→aj P w I β' hp' v y
 | [],[],ds,h,_=>by cases h;exact ⟨rfl,fun _=>rfl,fun rest j v y _ hy=>by simp[jf] at hy⟩
 | [],_::_,ds,h,_=>by cases h
 | _::_,[],ds,h,_=>by cases h
 | l::ls,x::xs,ds,h,aq=>by
  simp only[ug] at h;obtain ⟨a,h1,h⟩:=bind_some h;obtain ⟨b,h2,h⟩:=bind_some h;cases h;simp only[List.all_cons,aJ] at aq;obtain ⟨i1,i2,i3⟩:=Ho kI h2 aq.2;have dn:=(M3 h1).1;have hd: ∀rest,(a++b++rest).drop l.size=b++rest:=fun rest=>by grind
  refine ⟨by simp only[hY,nB];omega,fun rest=>by simp only[jf,List.length_cons,hd,i2],fun rest j v y hv hy=> ?_⟩;simp only[jf,hd] at hy;cases j with
  | zero=>
   simp at hy;subst hy;exact abd h1 aq.1 kI (hv x rfl) _
  | succ j=>grind
theorem SN: ∀{ls:List LS} {xs:List V} {ds:List V},ug ls xs=some ds→ls.all LS.plain=true→ds.length=nB ls∧∀rest,jf ls (ds++rest)=xs
 | [],[],ds,h,_=>by cases h;exact ⟨rfl,fun _=>rfl⟩
 | [],_::_,ds,h,_=>by cases h
 | _::_,[],ds,h,_=>by cases h
 | l::ls,x::xs,ds,h,aq=>by
  simp only[ug] at h;obtain ⟨a,h1,h⟩:=bind_some h;obtain ⟨b,h2,h⟩:=bind_some h;cases h;simp only[List.all_cons,aJ] at aq;obtain ⟨i1,i2⟩:=SN h2 aq.2;obtain ⟨dn,hm⟩:=M3 h1;refine ⟨by simp only[hY,nB];omega,fun rest=> ?_⟩;simp only[jf];rw[show (a++b++rest).drop l.size=b++rest by grind,i2,kQ];rcases hm with e|e
  ·subst e;cases aq.1
  ·rw[e]
theorem SP {n:Nat} (kI:Hn n β hp β' hp') {s:VS} {x:V} {ds:List V} (h:uh s x=some ds) (aq:s.ok n=true):
  ds.length=s.size∧∀(rest:List V) (v:Value),aj P w I β hp v x→aj P w I β' hp' v (ov s (ds++rest)):=by
 cases s with
 | one l=>exact ⟨(M3 h).1,fun rest v hv=>abd h aq kI hv rest⟩
 | agg ls=>
  cases x<;>simp only[uh] at h<;>first|(cases h;done)|skip
  rename_i xs;obtain ⟨i1,i2,i3⟩:=Ho (P:=P) (w:=w) (I:=I) kI h aq;refine ⟨i1,fun rest v hv=> ?_⟩;obtain ⟨cs,rfl,e1,e2⟩:=hv.nF;exact .agg (by grind) fun j v y hj hy=>i3 rest j v y (fun x hx=>e2 j v x hj hx) hy
 | bd ls=>
  cases x<;>simp only[uh] at h<;>first|(cases h;done)|skip
  rename_i xs;obtain ⟨i1,i2,i3⟩:=Ho (P:=P) (w:=w) (I:=I) kI h aq;refine ⟨i1,fun rest v hv=> ?_⟩;obtain ⟨cs,rfl,e1,e2⟩:=hv.zn;exact .bd (by grind) fun j v y hj hy=>i3 rest j v y (fun x hx=>e2 j v x hj hx) hy
 | fn f a b=>
  cases x<;>simp only[uh] at h<;>first|(cases h;done)|skip
  rename_i f' xs ys;cases hb:Nat.beq f f' with
  | false=>grind
  | true=>
   rw[hb] at h;rw[aL] at hb;subst hb;simp only[cond_true] at h;obtain ⟨p,h1,h⟩:=bind_some h;obtain ⟨q,h2,h⟩:=bind_some h;cases h;simp only[VS.ok,aJ] at aq;obtain ⟨i1,i2,i3⟩:=Ho (P:=P) (w:=w) (I:=I) kI h1 aq.1;obtain ⟨j1,j2,j3⟩:=Ho (P:=P) (w:=w) (I:=I) kI h2 aq.2;refine ⟨by simp only[hY,VS.size];omega,fun rest v hv=> ?_⟩;cases hv with
   | fn a1 a2 b1 b2=>
    simp only[ov];rw[show (p++q++rest).drop (nB a)=q++rest by grind,kQ];exact .fn (by grind) (fun j v y hj hy=>i3 _ j v y (fun x hx=>a2 j v x hj hx) hy) (by grind) (fun j v y hj hy=>j3 _ j v y (fun x hx=>b2 j v x hj hx) hy)
 | pref ts ls=>
  cases x<;>simp only[uh] at h<;>first|(cases h;done)|skip
  rename_i ui xs;cases hb:gh.rS ts ui with
  | false=>grind
  | true=>
   rw[hb] at h;have:=Ae hb;subst this;simp only[cond_true] at h;refine ⟨?_,fun rest v hv=> ?_⟩
   ·exact (SN h aq).1
   ·simp only[ov];rw[(SN h aq).2];cases hv with
    | pref hl hI hc=>exact .pref hl hI hc
theorem Hp {n:Nat} (kI:Hn n β hp β' hp'): ∀{ls:List VS} {xs:List V} {ds:List V},vq ls xs=some ds→ls.all (VS.ok n)=true→
  ds.length=xD ls∧(∀rest,(jG ls (ds++rest)).length=xs.length)∧
  ∀(rest:List V) (j:Nat) (v:Value) (y:V),(∀x,xs[j]? =some x→aj P w I β hp v x)→(jG ls (ds++rest))[j]? =some y→aj P w I β' hp' v y
 | [],[],ds,h,_=>by cases h;exact ⟨rfl,fun _=>rfl,fun rest j v y _ hy=>by simp[jG] at hy⟩
 | [],_::_,ds,h,_=>by cases h
 | _::_,[],ds,h,_=>by cases h
 | l::ls,x::xs,ds,h,aq=>by
  simp only[vq] at h;obtain ⟨a,h1,h⟩:=bind_some h;obtain ⟨b,h2,h⟩:=bind_some h;cases h;simp only[List.all_cons,aJ] at aq;obtain ⟨i1,i2,i3⟩:=Hp kI h2 aq.2;obtain ⟨dn,ti⟩:=SP (P:=P) (w:=w) (I:=I) kI h1 aq.1;have hd: ∀rest,(a++b++rest).drop l.size=b++rest:=fun rest=>by grind
  refine ⟨by simp only[hY,xD];omega,fun rest=>by simp only[jG,List.length_cons,hd,i2],fun rest j v y hv hy=> ?_⟩;simp only[jG,hd] at hy;grind
end
section
variable {P:Program} {A:dr} {w w':World} {I I' I2:Nat→Nat→Prop} {μ β β':Nat→Option Nat} {hp hp' hp0:Nat→Option ah} {C:af} {B:Nat} {M:Nat→Prop} {w0:Start}
theorem ln: ∀{l:List ah} {j:Nat},nC l j=l[j]?
 | [],j=>by simp[nC]
 | b::l,0=>rfl
 | b::l,j+1=>by simp only[nC,ln,List.getElem?_cons_succ]
theorem SQ {sl:Nat→V} {k:Nat} {y:V}: ∀{l:List (Nat×VS)} {ds:List V},E0 sl l=some ds→(∀p∈l,∀d,uh p.2 (sl p.1)=some d→d.length=p.2.size)→
  ds.length=sP l∧∀rest,fL (jg l (ds++rest)) k=some y→∃s d kf,(k,s)∈l∧uh s (sl k)=some d∧y=ov s (d++kf)
 | [],ds,h,_=>by cases h;exact ⟨rfl,fun rest h=>by cases h⟩
 | (q,s)::l,ds,h,hz=>by
  simp only[E0] at h;obtain ⟨a,h1,h⟩:=bind_some h;obtain ⟨b,h2,h⟩:=bind_some h;cases h;obtain ⟨i1,i2⟩:=SQ (k:=k) (y:=y) h2 fun p hp=>hz p (jA _ hp);have dn:=hz (q,s) (pG ..) a h1;refine ⟨by simp only[hY,sP];simp only at dn;omega,fun rest hl=> ?_⟩;simp only[jg,fL] at hl;rw[show (a++b++rest).drop s.size=b++rest by rw[kQ];exact M4 dn] at hl;cases hb:Nat.beq k q with
  | true=>
   rw[hb] at hl;rw[aL] at hb;subst hb;cases hl;exact ⟨s,a,b++rest,pG ..,h1,by rw[kQ]⟩
  | false=>
   rw[hb] at hl;obtain ⟨s',d,kf,m1,m2,m3⟩:=i2 rest hl;exact ⟨s',d,kf,jA _ m1,m2,m3⟩
theorem SR {α:Type} {c:Bool} {x:Option α} {a:α} (h:(bif c then x else none)=some a):c=true∧x=some a:=by
 cases c with
 | true=>exact ⟨rfl,h⟩
 | false=>cases h
theorem am0 {n:Nat} {b:BS} {o:Option ah} {ds:List V} (h:oX b o=some ds) (aq:b.ok n=true):ds.length=b.size:=by
 cases b with
 | dead=>cases o<;>(cases h;rfl)
 | var T0 ls=>
  cases o with
  | none=>cases h
  | some blk=>
   cases blk<;>simp only[oX] at h<;>first|(cases h;done)|skip
   exact (Hp (P:=default) (w:=default) (I:=fun _ _=>False) (β:=fun _=>none) (hp:=fun _=>none) (fun _ _=>⟨rfl,rfl⟩) (SR h).2 aq).1
 | arr e fz=>
  cases o with
  | none=>cases h
  | some blk=>
   cases blk<;>simp only[oX] at h<;>first|(cases h;done)|skip
   rw[Af h] at h;cases h;rfl
 | nest e=>
  cases o with
  | none=>cases h
  | some blk=>
   cases blk<;>simp only[oX] at h<;>first|(cases h;done)|skip
   rw[Af h] at h;cases h;rfl
 | map t=>
  cases o with
  | none=>cases h
  | some blk=>
   cases blk<;>simp only[oX] at h<;>first|(cases h;done)|skip
   rw[Af h] at h;cases h;rfl
theorem abe {n:Nat}: ∀{l:List BS} {j:Nat} {ds:List V},E1 hp j l=some ds→l.all (BS.ok n)=true→
  (∀rest,(ij l (ds++rest)).length=l.length)∧∀(rest:List V) (i:Nat) (blk:ah),(ij l (ds++rest))[i]? =some blk→∃b d kf,l[i]? =some b∧b.ok n=true∧oX b (hp (j+i))=some d∧blk=iR b (d++kf)
 | [],j,ds,h,_=>by cases h;exact ⟨fun _=>rfl,fun rest i blk hb=>by simp[ij] at hb⟩
 | b::l,j,ds,h,aq=>by
  simp only[E1] at h;obtain ⟨a,h1,h⟩:=bind_some h;obtain ⟨c,h2,h⟩:=bind_some h;cases h;simp only[List.all_cons,aJ] at aq;obtain ⟨i1,i2⟩:=abe h2 aq.2;have dn:=am0 h1 aq.1;have hd: ∀rest,(a++c++rest).drop b.size=c++rest:=fun rest=>by rw[kQ];exact M4 dn
  refine ⟨fun rest=>by simp only[ij,List.length_cons,hd,i1],fun rest i blk hb=> ?_⟩;simp only[ij,hd] at hb;cases i with
  | zero=>
   simp at hb;exact ⟨b,a,c++rest,rfl,aq.1,h1,by rw[←hb]⟩
  | succ i=>
   obtain ⟨b',d,kf,m1,m2,m3,m4⟩:=i2 rest i blk (by simpa using hb);exact ⟨b',d,kf,by simpa using m1,m2,by rw[show j+(i+1)=j+1+i by omega];exact m3,m4⟩
theorem am1 {n:Nat} {b:BS} {blk:ah} {ds rest:List V} (h:oX b (some blk)=some ds) (aq:b.ok n=true):
  blk.le (iR b (ds++rest))∧(iR b (ds++rest)= .dead∨iR b (ds++rest)=blk∨∃T ls cs,b= .var T ls∧blk= .var T cs∧vq ls cs=some ds∧iR b (ds++rest)= .var T (jG ls (ds++rest))):=by
 cases b with
 | dead=>exact ⟨by cases blk<;>trivial,.inl rfl⟩
 | var T0 ls=>
  cases blk<;>simp only[oX] at h<;>first|(cases h;done)|skip
  obtain ⟨hT,h0⟩:=SR h;clear h;rw[aL] at hT;subst hT;exact ⟨rfl,.inr (.inr ⟨_,_,_,rfl,rfl,h0,rfl⟩)⟩
 | arr e fz=>
  cases blk<;>simp only[oX] at h<;>first|(cases h;done)|skip
  rename_i e' es pQ;have hb:=Af h;simp only[aJ,aL,beq_iff_eq] at hb;obtain ⟨rfl,rfl⟩:=hb;simp only[ot,beq_self_eq_true,Bool.and_self,cond_true,fk] at h;subst h;exact ⟨⟨rfl,rfl⟩,.inr (.inl rfl)⟩
 | nest e=>
  cases blk<;>simp only[oX] at h<;>first|(cases h;done)|skip
  rename_i e' es vers;have hb:=Af h;simp only[aJ,aL] at hb;obtain ⟨rfl,hv⟩:=hb;have:=Ae hv;subst this;simp only[ot,Bool.true_and] at h;cases h;exact ⟨⟨rfl,rfl,rfl,fun _=>aw _⟩,.inr (.inl rfl)⟩
 | map t=>
  cases blk<;>simp only[oX] at h<;>first|(cases h;done)|skip
  rename_i t' es;have hb:=Af h;rw[aL] at hb;subst hb;simp only[ot,cond_true,fk] at h;subst h;exact ⟨rfl,.inr (.inl rfl)⟩
theorem abf {m:Nat} {S:Shape} {st:St} {ds:List V} (h:mj m S st=some ds):
  S.ok=true∧m≤S.cX.length∧∃a b,E0 st.sl S.cu=some a∧E1 st.hp 0 S.cX=some b∧ds=a++b:=by
 unfold mj at h;cases hc:(S.ok&&Nat.ble m S.cX.length) with
 | false=>rw[hc] at h;cases h
 | true=>
  rw[hc] at h;simp only[cond_true] at h;simp only[aJ,gx] at hc;obtain ⟨a,h1,h⟩:=bind_some h;obtain ⟨b,h2,h⟩:=bind_some h;cases h;exact ⟨hc.1,hc.2,a,b,h1,h2,rfl⟩
theorem reshape {m:Nat} {S:Shape} {st:St} {ds:List V} (h:mj m S st=some ds) (hS:aA P w I β st.hp B M w0):
  aA P w I β (bM S ds).hp B M w0∧(∀(k:Nat) (v:Value),aj P w I β st.hp v (st.sl k)→aj P w I β (bM S ds).hp v ((bM S ds).sl k))∧
  (∀(μ:Nat→Option Nat) (hp0:Nat→Option ah),(∀id blk,hp0 id=some blk→id<m)→Le P w0.w w0.I μ hp0 w I β st.hp→Le P w0.w w0.I μ hp0 w I β (bM S ds).hp)∧
  ∀j blk',(bM S ds).hp j=some blk'→blk'≠ .dead→∃blk,st.hp j=some blk∧blk.le blk'∧∀o b,bf P w o blk' b→bf P w o blk b:=by
 obtain ⟨aq,hm,a,b,h1,h2,rfl⟩:=abf h;unfold Shape.ok at aq;rw[aJ] at aq;obtain ⟨pb,aaX⟩:=aq;have bc: ∀p∈S.cu,∀d,uh p.2 (st.sl p.1)=some d→d.length=p.2.size:=fun p hp d hd=>
  (SP (P:=P) (w:=w) (I:=I) (β:=β) (hp:=st.hp) (fun _ _=>⟨rfl,rfl⟩) hd (ib.1 pb p hp)).1
 have dn:a.length=sP S.cu:=(SQ (k:=0) (y:= .undef) h1 bc).1;have MQ:(bM S (a++b)).hp=nC (ij S.cX (b++[])):=by
  simp only[bM,mk,ub];rw[M4 dn]
 obtain ⟨bl,bg⟩:=abe h2 aaX;have get: ∀j blk',(bM S (a++b)).hp j=some blk'→j<S.cX.length∧∃bs d kf,bs.ok S.cX.length=true∧oX bs (st.hp j)=some d∧blk'=iR bs (d++kf):=by
  intro j blk' hj;rw[MQ,ln] at hj;obtain ⟨bs,d,kf,m1,m2,m3,m4⟩:=bg [] j blk' hj;rw[dB] at m3;exact ⟨(cz.1 m1).1,bs,d,kf,m2,m3,m4⟩
 have have': ∀j,j<S.cX.length→∃blk',(bM S (a++b)).hp j=some blk':=by
  intro j hj;rw[MQ,ln];exact ⟨_,bY (by rw[bl];exact hj)⟩
 generalize gj:(bM S (a++b)).hp=Ag at*
 let bL:Nat→Option ah:=fun id=>if id<S.cX.length then Ag id else st.hp id
 have back: ∀j blk',Ag j=some blk'→blk'≠ .dead→∃blk,st.hp j=some blk∧blk.le blk'∧(blk'=blk∨∃T ls cs d kf,ls.all (VS.ok S.cX.length)=true∧blk= .var T cs∧vq ls cs=some d∧blk'= .var T (jG ls (d++kf))):=by
  intro j blk' hj hd;obtain ⟨dk,bs,d,kf,m1,m2,m3⟩:=get j blk' hj;cases cQ:st.hp j with
  | none=>
   rw[cQ] at m2;cases bs<;>simp only[oX] at m2<;>first|(cases m2;done)|skip
   exact absurd m3 hd
  | some blk=>
   rw[cQ] at m2;obtain ⟨n1,n2⟩:=am1 (rest:=kf) m2 m1;rw[←m3] at n1 n2;refine ⟨blk,rfl,n1,?_⟩;rcases n2 with e|e|⟨T,ls,cs,e1,e2,e3,e4⟩
   ·exact absurd e hd
   ·exact .inl e
   ·subst e1;exact .inr ⟨T,ls,cs,d,kf,m1,e2,e3,e4⟩
 have le1: ∀j blk,st.hp j=some blk→j<S.cX.length→∃blk',Ag j=some blk'∧blk.le blk':=by
  intro j blk hj dk;obtain ⟨blk',au⟩:=have' j dk;refine ⟨blk',au,?_⟩;by_cases hd:blk'= .dead
  ·subst hd;cases blk<;>trivial
  ·obtain ⟨cD,e1,e2,_⟩:=back j blk' au hd;rw[hj] at e1;cases e1;exact e2
 have am2: ∀j e es vers e' aK vers',st.hp j=some (.nest e es vers)→Ag j=some (.nest e' aK vers')→e'=e∧aK=es∧vers'=vers:=by
  intro j e es vers e' aK vers' hj fY;obtain ⟨blk,e1,_,e3⟩:=back j _ fY (by simp);rw[hj] at e1;cases e1;rcases e3 with e3|⟨_,_,_,_,_,_,e3,_⟩
  ·cases e3;exact ⟨rfl,rfl,rfl⟩
  ·cases e3
 have hle:Le P w I β st.hp w I β bL:=by
  refine ⟨fun _ _ h=>h,fun _ _ _=>rfl,fun id blk ae=> ?_,fun _ _ _ _ _ _ _ _=>rfl,Le.vQ (fun _ _ _ _ _ _=>rfl) fun id e es vers e' aK vers' ae bX=> ?_⟩
  ·by_cases hl:id<S.cX.length
   ·obtain ⟨blk',e1,e2⟩:=le1 id blk ae hl;exact ⟨blk',by simp only[bL,aB hl];exact e1,e2,fun _=>rfl⟩
   ·exact ⟨blk,by simp only[bL,ax hl];exact ae,ah.le_refl _,fun _=>rfl⟩
  ·by_cases hl:id<S.cX.length
   ·simp only[bL,aB hl] at bX;exact am2 _ _ _ _ _ _ _ ae bX
   ·simp only[bL,ax hl] at bX;rw[ae] at bX;cases bX;exact ⟨rfl,rfl,rfl⟩
 have kI:Hn S.cX.length β bL β Ag:=fun id ae=>⟨by simp only[bL,aB ae],rfl⟩
 have s9: ∀j blk' blk o b,Ag j=some blk'→st.hp j=some blk→bf P w o blk' b→bf P w o blk b:=by
  intro j blk' blk o b fY hj ho;obtain ⟨cD,e1,_,e3⟩:=back j blk' fY ho.alive;rw[hj] at e1;cases e1;rcases e3 with e3|⟨T,ls,cs,d,kf,_,e3,_,e5⟩
  ·subst e3;exact ho
  ·subst e3;subst e5;exact .root (by simp) (ho.flat (by simp))
 refine ⟨⟨⟨fun j blk' hj=> ?_,fun j1 j2 b1 b2 b' e1 e2 o1 o2=> ?_,fun j blk b' hj ho=> ?_,hS.h.jY⟩,hS.cM,hS.size,hS.new,hS.io⟩,fun k v hv=> ?_,fun μ hp0 aP hE=> ?_,fun j blk' hj hd=> ?_⟩
 ·by_cases hd:blk'= .dead
  ·subst hd;exact .dead
  ·obtain ⟨blk,e1,_,e3⟩:=back j blk' hj hd;have hr:=hS.h.rel j blk e1;generalize β j=o at hr;rcases e3 with e3|⟨T0,ls,cs,d,kf,q1,e3,e4,e5⟩
   ·subst e3;cases hr with
    | @var xs b' Ca T hb hh hs di hx iT=>
     obtain ⟨dk,bs,d,kf,m1,m2,m3⟩:=get j _ hj;rw[e1] at m2;cases bs<;>simp only[oX] at m2<;>first|(cases m2;done)|skip
     ·rename_i T0 ls;simp only[iR] at m3;obtain ⟨hT,m2⟩:=SR m2;obtain ⟨i1,i2,i3⟩:=Hp (P:=P) (w:=w) (I:=I) kI m2 m1;injection m3 with m4 m3;rw[m3];exact .var hb hh (by rw[i2];exact hs) di (fun i v y hi hy=>i3 kf i v y (fun x dd=>(hx i v x hi dd).mono hle) hy) iT
     ·simp only[iR] at m3;cases m3
    | eF hb=>exact .eF hb
    | arr a0 a1 a2 a3 a4 a5 a6 a7=>exact .arr a0 a1 a2 a3 a4 a5 a6 a7
    | dead=>exact absurd rfl hd
    | nest a1 a2 a3=>exact .nest a1 a2 a3
    | ji a1=>exact .ji a1
    | out a1 a2 a3 a4 a5 a6 a7 a8 a9 a10=>exact .out a1 a2 a3 a4 a5 a6 a7 a8 a9 a10
    | map a1 a2 a3 a4 a5 a6 a7=>exact .map a1 a2 a3 a4 a5 a6 a7
   ·subst e3;subst e5;cases hr with
    | @var xs b' Ca T hb hh hs di hx iT=>
     obtain ⟨i1,i2,i3⟩:=Hp (P:=P) (w:=w) (I:=I) kI e4 q1;exact .var hb hh (by rw[i2];exact hs) di (fun i v y hi hy=>i3 kf i v y (fun x dd=>(hx i v x hi dd).mono hle) hy) iT
 ·obtain ⟨c1,x1,_,_⟩:=back j1 b1 e1 o1.alive;obtain ⟨c2,x2,_,_⟩:=back j2 b2 e2 o2.alive;exact hS.h.inj j1 j2 c1 c2 b' x1 x2 (s9 _ _ _ _ _ e1 x1 o1) (s9 _ _ _ _ _ e2 x2 o2)
 ·obtain ⟨c1,x1,_,_⟩:=back j blk hj ho.alive;exact hS.h.own j c1 b' x1 (s9 _ _ _ _ _ hj x1 ho)
 ·change aj P w I β Ag v (mU (jg S.cu (a++b)) k);unfold mU;cases GS:fL (jg S.cu (a++b)) k with
  | none=>exact .undef
  | some y=>
   obtain ⟨s,d,kf,n1,n2,n3⟩:=(SQ h1 bc).2 b GS;simp only[Option.getD_some,n3];exact (SP (P:=P) (w:=w) (I:=I) kI n2 (ib.1 pb _ n1)).2 kf v (hv.mono hle)
 ·have h3:=hE.trans hle;refine ⟨h3.en,h3.cM,fun id blk ae=> ?_,fun id blk blk' b' ae bX hd hb=> ?_,fun id e es vers e' aK vers' b2 q i c t v e1 l ae bX=> ?_⟩
  ·have hl:=aP id blk ae;obtain ⟨blk',k1,k2,k3⟩:=h3.blk id blk ae;simp only[bL,aB (show id<S.cX.length by omega)] at k1;exact ⟨blk',k1,k2,k3⟩
  ·have hl:=aP id blk ae;exact h3.size id blk blk' b' ae (by simp only[bL,aB (show id<S.cX.length by omega)];exact bX) hd hb
  ·have hl:=aP id _ ae;exact h3.row id e es vers e' aK vers' b2 q i c t v e1 l ae (by simp only[bL,aB (show id<S.cX.length by omega)];exact bX)
 ·obtain ⟨blk,e1,e2,_⟩:=back j blk' hj hd;exact ⟨blk,e1,e2,fun o b' ho=>s9 _ _ _ _ _ hj e1 ho⟩
end
section
variable {P:Program} {A:dr} {w w':World} {I I' I2:Nat→Nat→Prop} {μ β β':Nat→Option Nat} {hp hp' hp0:Nat→Option ah} {C:af} {B:Nat} {M:Nat→Prop} {w0:Start}
inductive gq (P:Program) (w:World) (β:Nat→Option Nat) (hp:Nat→Option ah):Place→Option Nat→ah→Prop
 | var {id:Nat} {T:TypeId} {cs SS:List V}:hp id=some (.var T cs)→gq P w β hp (.blk id) (β id) (.var T SS)
 | arr {id:Nat} {e:TypeId} {es:List V} {fz:Bool}:hp id=some (.arr e es fz)→gq P w β hp (.blk id) (β id) (.arr e es fz)
 | nest {id:Nat} {e:TypeId} {es:List V} {vers:List Nat}:hp id=some (.nest e es vers)→gq P w β hp (.blk id) (β id) (.nest e es [0,0,0])
 | row {id ver b b':Nat} {path:Path} {e0 e':TypeId} {es l:List V} {vers:List Nat}:hp id=some (.nest e0 es vers)→β id=some b→At P w b e0 es path b' e' l→EZ P e'=true→
   0<path.length→path.length≤vers.length→bz vers (path.length-1)=ver→0<l.length→gq P w β hp (.row id ver path) (some b') (.arr e' l false)
 | map {id:Nat} {t:TypeId} {es:List V}:hp id=some (.map t es)→gq P w β hp (.blk id) (β id) (.map t es)
def Hq (P:Program) (w:World) (β:Nat→Option Nat) (hp:Nat→Option ah) (ρ:List Place) (μ:Nat→Option Nat) (hp0:Nat→Option ah):Prop:=
 ∀j p,gz ρ j=some p→∃blk,hp0 j=some blk∧gq P w β hp p (μ j) blk
theorem tF: ∀{l m:List Place} {j:Nat} {p:Place},gz l j=some p→gz (l++m) j=some p
 | [],m,j,p,h=>by cases h
 | a::l,m,0,p,h=>h
 | a::l,m,j+1,p,h=>tF (l:=l) h
theorem qp: ∀{l:List Place} {j:Nat},gz l j=l[j]?
 | [],j=>by simp[gz]
 | a::l,0=>rfl
 | a::l,j+1=>by simp only[gz,qp,List.getElem?_cons_succ]
def am3 (hp:Nat→Option ah) (q:Nat×ah):Prop:=Ce hp q∨∃T cs,q.2= .var T cs∧hp q.1=some (.var T cs)
structure Ext (P:Program) (w:World) (I:Nat→Nat→Prop) (β:Nat→Option Nat) (hp:Nat→Option ah) (h h':Hand) (d:List V) (u:List (Nat×ah)):Prop where
 ds:h'.ds=h.ds++d
 upd:h'.upd=h.upd++u
 M5: ∀q∈u,am3 hp q
 pl: ∃m,h'.pl=h.pl++m
 nodup:(h.pl.map Place.id).Nodup→(h'.pl.map Place.id).Nodup
theorem Ext.refl (h:Hand):Ext P w I β hp h h [] []:=⟨by simp,by simp,by simp,⟨[],by simp⟩,id⟩
theorem Ext.trans {h1 h2 h3:Hand} {d1 d2:List V} {u1 u2:List (Nat×ah)} (a:Ext P w I β hp h1 h2 d1 u1) (b:Ext P w I β hp h2 h3 d2 u2):Ext P w I β hp h1 h3 (d1++d2) (u1++u2):=by
 obtain ⟨m1,e1⟩:=a.pl;obtain ⟨m2,e2⟩:=b.pl;exact ⟨by rw[b.ds,a.ds,kQ],by rw[b.upd,a.upd,kQ],fun q hq=>(fj.1 hq).elim (a.M5 q) (b.M5 q),⟨m1++m2,by rw[e2,e1,kQ]⟩,fun h=>b.nodup (a.nodup h)⟩
theorem Ext.look {h h':Hand} {d:List V} {u:List (Nat×ah)} (a:Ext P w I β hp h h' d u) {j:Nat} {p:Place} (hj:gz h.pl j=some p):gz h'.pl j=some p:=by
 obtain ⟨m,e⟩:=a.pl;rw[e];exact tF hj
theorem Ext.leaf (h:Hand) (x:V):Ext P w I β hp h {h with ds:=h.ds++[x]} [x] []:=⟨rfl,by simp,by simp,⟨[],by simp⟩,id⟩
theorem am4 {α:Type} {ρ:List Place} {j:Nat} {p:Place} {k:List Place→Rd α} {r:α} {rd:List Nat} (h:(unify ρ j p k).run C hp=some (r,rd)) (hb: ∃id,p= .blk id∨∃ver path,p= .row id ver path):
  ∃oa,(k oa).run C hp=some (r,rd)∧(∃m,oa=ρ++m)∧gz oa j=some p∧((ρ.map Place.id).Nodup→(oa.map Place.id).Nodup):=by
 unfold unify at h;cases hc:Nat.blt j ρ.length with
 | true=>
  rw[hc] at h;obtain ⟨h1,h2⟩:=aD h;refine ⟨ρ,h2,⟨[],by simp⟩,?_,id⟩;unfold XQ at h1;split at h1
  ·rename_i a b he;rw[aL] at h1;subst h1;exact he
  ·cases h1
 | false=>
  rw[hc] at h;obtain ⟨h1,h2⟩:=aD h;simp only[aJ,aL,nw] at h1;obtain ⟨rfl,h3⟩:=h1;refine ⟨ρ++[p],h2,⟨[p],rfl⟩,?_,fun hn=> ?_⟩
  ·rw[qp];simp
  ·rw[vy,EP];refine ⟨hn,by simp,fun a ha b hb=> ?_⟩;simp only[lD,List.map_nil,fS] at hb;subst hb;intro e;subst e;rw[zs ha] at h3;cases h3
theorem Ah {α:Type} {h:Hand} {j:Nat} {p:Place} {k:List Place→Rd α} {r:α} {rd:List Nat} (hr:(unify h.pl j p k).run C hp=some (r,rd)) (ds:List V):
  ∃oa,(k oa).run C hp=some (r,rd)∧gz oa j=some p∧Ext P w I β hp h {h with pl:=oa,ds:=h.ds++ds} ds []:=by
 obtain ⟨oa,a,b,c,d⟩:=am4 hr (by cases p with|blk id=>exact ⟨id,.inl rfl⟩|row id ver path=>exact ⟨id,.inr ⟨ver,path,rfl⟩⟩);exact ⟨oa,a,c,⟨rfl,by simp,by simp,b,d⟩⟩
theorem am5 {o:Option Nat} {blk:ah} {e:TypeId} {id j:Nat} {v:Value} (hv:aj P w I β hp v (.whole e id)) (hl:gq P w β hp (.blk id) o blk) (hj:hp0 j=some blk) (nn:μ j=o):aj P w I' μ hp0 v (.whole e j):=by
 cases hl with
 | var h=>
  cases hv with
  | dZ h2=>rw[h] at h2;cases h2
  | dV h2=>rw[h] at h2;cases h2
  | whole h2=>rw[h] at h2;cases h2
  | dO h2=>rw[h] at h2;cases h2
  | ee h2=>rw[h] at h2;cases h2
  | fG h2=>rw[h] at h2;cases h2
 | arr h=>
  cases hv with
  | dZ h2=>rw[h] at h2;cases h2
  | dV h2 hb=>rw[h] at h2;cases h2;exact .dV hj (nn.trans hb)
  | whole h2 hb a b c=>rw[h] at h2;cases h2;exact .whole hj (nn.trans hb) a b c
  | dO h2=>rw[h] at h2;cases h2
  | ee h2=>rw[h] at h2;cases h2
  | fG h2=>rw[h] at h2;cases h2
 | nest h=>
  cases hv with
  | dZ h2=>rw[h] at h2;cases h2
  | dV h2=>rw[h] at h2;cases h2
  | whole h2=>rw[h] at h2;cases h2
  | dO h2 hb a b c=>rw[h] at h2;cases h2;exact .dO hj (nn.trans hb) a b c
  | ee h2 hb=>rw[h] at h2;cases h2;exact .ee hj (nn.trans hb)
  | fG h2=>rw[h] at h2;cases h2
 | map h=>
  cases hv with
  | dZ h2=>rw[h] at h2;cases h2
  | dV h2=>rw[h] at h2;cases h2
  | whole h2=>rw[h] at h2;cases h2
  | dO h2=>rw[h] at h2;cases h2
  | ee h2=>rw[h] at h2;cases h2
  | fG h2=>rw[h] at h2;cases h2
theorem am6 {o:Option Nat} {blk:ah} {t:TypeId} {id j:Nat} {v:Value} (hv:aj P w I β hp v (.cK t id)) (hl:gq P w β hp (.blk id) o blk) (hj:hp0 j=some blk) (nn:μ j=o):aj P w I' μ hp0 v (.cK t j):=by
 cases hv with
 | lJ h2=>cases hl<;>(rename_i h;rw[h] at h2;cases h2)
 | cK h2 hb=>
  cases hl<;>(rename_i h;rw[h] at h2;cases h2)
  exact .cK hj (nn.trans hb)
theorem am7 {o:Option Nat} {blk:ah} {e:TypeId} {id off n j:Nat} {v:Value} (hv:aj P w I β hp v (.sub e id off n)) (hl:gq P w β hp (.blk id) o blk) (hj:hp0 j=some blk) (nn:μ j=o):aj P w I' μ hp0 v (.sub e j off n):=by
 cases hl with
 | var h=>
  cases hv with
  | jK h2=>rw[h] at h2;cases h2
  | jh h2=>rw[h] at h2;cases h2
  | sub h2=>rw[h] at h2;cases h2
 | arr h=>
  cases hv with
  | jK h2=>rw[h] at h2;cases h2
  | jh h2 hb=>rw[h] at h2;cases h2;exact .jh hj (nn.trans hb)
  | sub h2 hb a b c=>rw[h] at h2;cases h2;exact .sub hj (nn.trans hb) a b c
 | nest h=>
  cases hv with
  | jK h2=>rw[h] at h2;cases h2
  | jh h2=>rw[h] at h2;cases h2
  | sub h2=>rw[h] at h2;cases h2
 | map h=>
  cases hv with
  | jK h2=>rw[h] at h2;cases h2
  | jh h2=>rw[h] at h2;cases h2
  | sub h2=>rw[h] at h2;cases h2
theorem abg {o:Option Nat} {blk:ah} {id i c j:Nat} {v:Value} (hv:aj P w I β hp v (.ptr id i c)) (hl:gq P w β hp (.blk id) o blk) (hj:hp0 j=some blk) (nn:μ j=o):aj P w I' μ hp0 v (.ptr j i c):=by
 cases hl with
 | @var _ T0 cs SS h=>
  obtain ⟨b,hb,rfl⟩:=hv.jl h (by simp);exact aj.ptr (blk:= .var T0 SS) hj (by simp) (nn.trans hb)
 | @arr _ e es fz h=>
  obtain ⟨b,hb,rfl⟩:=hv.jl h (by simp);exact aj.ptr (blk:= .arr e es fz) hj (by simp) (nn.trans hb)
 | @nest _ e es vers h=>
  obtain ⟨b,hb,rfl⟩:=hv.jl h (by simp);exact aj.ptr (blk:= .nest e es [0,0,0]) hj (by simp) (nn.trans hb)
 | @map _ t es h=>
  obtain ⟨b,hb,rfl⟩:=hv.jl h (by simp);exact aj.ptr (blk:= .map t es) hj (by simp) (nn.trans hb)
theorem am8 (cR: ∀id blk,hp id=some blk→fe P w I β hp (β id) blk) {id b i c:Nat} {e0 t:TypeId} {es l:List V} {vers:List Nat} {q:Path} {e:TypeId} {v:Value} (ae:hp id=some (.nest e0 es vers)) (hb:β id=some b)
  (ht:P.underlying t=some (.slice e)) (hc:qM P w b e0 es q i c t v (.list e l)) (hl:0<l.length): ∃b1 cap,v= .slice (some ⟨b1,0,none⟩) l.length cap∧cap*P.cellsOf e=bsize w b1∧l.length≤cap∧cap≤maxLen∧At P w b e0 es (q++[(i,c)]) b1 e l:=by
 obtain ⟨b2,e1,m,Ca,T,f,x,n1,n2,n3,n4,n5,n6⟩:=hc;have hr:=cR _ _ ae;cases hr with
 | ji au=>rw[hb] at au;cases au
 | nest au hr hn=>
  rw[hb] at au;cases au;have hR:=hr _ _ _ _ n1;obtain ⟨zl,_,c1,_,c2,c3⟩:=hR.cells;rw[n2] at c1;cases c1;have zm:c<P.cellsOf e1:=by rw[←fH hR.ok];exact (cz.1 n4).1
  obtain ⟨v',d1,d2⟩:=c3 i c x t n3 n4 zm;rw[n6] at d1;cases d1;rw[n5] at d2;generalize hy:V.list e l=y at d2;cases d2 with
  | gB a p=>unfold dX at a;rw[ht] at a;cases a
  | emp hu=>cases hy;simp at hl
  | row hu mZ bc bQ s6=>
   cases hy;exact ⟨_,_,rfl,bc,bQ,s6,n1.snoc n2 n3 n4 ht n5 mZ n6⟩
theorem am9 (S:aA P w I β hp B M w0) {o:Option Nat} {blk:ah} {e:TypeId} {id ver j:Nat} {path:Path} {v:Value} (hv:aj P w I β hp v (.row e id ver path)) (hl:gq P w β hp (.row id ver path) o blk) (hj:hp0 j=some blk) (nn:μ j=o):aj P w I' μ hp0 v (.whole e j):=by
 cases hl with
 | row h hb ha hf h1 h2 h3 h4=>
  obtain ⟨b2,q,i,c,t,l2,rfl,eR,ht,hc⟩:=hv.Qu h h1 h2 h3;rw[hb] at eR;cases eR;obtain ⟨p1,p2⟩:=Qv ha;have gi:=hc;obtain ⟨b3,e3,m3,Ca,T,f,x,n1,n2,n3,n4,n5,n6⟩:=gi;obtain ⟨q1,q2⟩:=KU n1 n3 n4 ht n5;rw[p1] at q1;rw[p2] at q2;cases q1;cases q2;obtain ⟨b1,cap,rfl,m1,m2,m4,m5⟩:=am8 S.h.rel h hb ht hc h4;have:=ana ha m5;subst this;exact .whole hj nn m1 m2 m4
where
 ana {b b1 b2:Nat} {e e1 e2:TypeId} {es l l2:List V} {q:Path} (h:At P w b e es q b1 e1 l) (h2:At P w b e es q b2 e2 l2):b2=b1:=(h.fun h2).1
theorem abh (S:aA P w I β hp B M w0) {α:Type} {l:LS} {x:V} {h:Hand} {k:Hand→Rd α} {r:α} {rd:List Nat} {v:Value} (hr:(KG P l x h k).run C hp=some (r,rd)) (hv:aj P w I β hp v x):
  ∃h' gS d u,(k h').run C hp=some (r,gS)∧Ext P w I β hp h h' d u∧d.length=l.size∧
   ∀(I':Nat→Nat→Prop) (μ:Nat→Option Nat) (hp0:Nat→Option ah),(∀b j,I b j→I' b j)→(∀q∈u,∀b j,xM P w β hp q.1 b j→I' b j)→∀ρ m,ρ=h'.pl++m→Hq P w β hp ρ μ hp0→∀rest,aj P w I' μ hp0 v (lF l (d++rest)):=by
 have plain: ∀{x':V} {jR:List Nat},(k {h with ds:=h.ds++[x']}).run C hp=some (r,jR)→l.size=1→(∀I' μ hp0 rest,aj P w I' μ hp0 v (lF l ([x']++rest)))→∃h' gS d u,(k h').run C hp=some (r,gS)∧Ext P w I β hp h h' d u∧d.length=l.size∧
   ∀(I':Nat→Nat→Prop) (μ:Nat→Option Nat) (hp0:Nat→Option ah),(∀b j,I b j→I' b j)→(∀q∈u,∀b j,xM P w β hp q.1 b j→I' b j)→∀ρ m,ρ=h'.pl++m→Hq P w β hp ρ μ hp0→∀rest,aj P w I' μ hp0 v (lF l (d++rest)):=
  fun hk hs hx=>⟨_,_,_,_,hk,Ext.leaf h _,hs.symm,fun I' μ hp0 _ _ _ _ _ _ rest=>hx I' μ hp0 rest⟩
 have uP: ∀{jR:List Nat},(k h).run C hp=some (r,jR)→l.size=0→(∀I' μ hp0 rest,aj P w I' μ hp0 v (lF l rest))→∃h' gS d u,(k h').run C hp=some (r,gS)∧Ext P w I β hp h h' d u∧d.length=l.size∧
   ∀(I':Nat→Nat→Prop) (μ:Nat→Option Nat) (hp0:Nat→Option ah),(∀b j,I b j→I' b j)→(∀q∈u,∀b j,xM P w β hp q.1 b j→I' b j)→∀ρ m,ρ=h'.pl++m→Hq P w β hp ρ μ hp0→∀rest,aj P w I' μ hp0 v (lF l (d++rest)):=
  fun hk hs hx=>⟨_,_,_,_,hk,Ext.refl h,by simp[hs],fun I' μ hp0 _ _ _ _ _ _ rest=>hx I' μ hp0 rest⟩
 unfold KG at hr;cases l with
 | vB=>exact uP hr rfl fun _ _ _ _=> .undef
 | int kd=>
  cases x<;>simp only at hr<;>first|(cases hr;done)|skip
  obtain ⟨h1,h2⟩:=aD hr;simp only[jU] at h1;subst h1;obtain rfl:=hv.fW;exact plain h2 rfl fun _ _ _ _=> .int
 | bool=>
  cases x<;>simp only at hr<;>first|(cases hr;done)|skip
  obtain rfl:=hv.nE;exact plain hr rfl fun _ _ _ _=> .bool
 | str=>
  cases x<;>simp only at hr<;>first|(cases hr;done)|skip
  obtain ⟨s,rfl,hl⟩:=hv.oZ;exact plain hr rfl fun _ _ _ _=> .str hl
 | nilS e=>
  cases x<;>simp only at hr<;>first|(cases hr;done)|skip
  obtain ⟨h1,h2⟩:=aD hr;cases hv with
  | nilS=>exact uP h2 rfl fun _ _ _ _=> .nilS
 | nl e=>
  cases x<;>simp only at hr<;>first|(cases hr;done)|skip
  obtain ⟨h1,h2⟩:=aD hr;rw[aL] at h1;subst h1;cases hv with
  | nl a b=>exact ⟨_,_,_,_,h2,Ext.leaf h _,rfl,fun I' μ hp0 hI _ _ _ _ _ rest=> .nl (a.mono hI (fun _ _ _=>rfl)) b⟩
 | eJ=>
  cases x<;>simp only at hr<;>first|(cases hr;done)|skip
  cases hv with
  | eJ=>exact uP hr rfl fun _ _ _ _=> .eJ
 | row e j cs=>
  cases x<;>simp only at hr<;>first|(cases hr;done)|skip
  rename_i e' id ver path;obtain ⟨e0,es,vers,l0,ae,p1,p2,p3,hr⟩:=rV hr;obtain ⟨h1,h2⟩:=aD hr;simp only[aJ,aL,gx] at h1;obtain ⟨rfl,tc,hp3⟩:=h1;have:=Ae tc;subst this;obtain ⟨oa,a,b,c⟩:=Ah (P:=P) (w:=w) (I:=I) (β:=β) h2 (path.map fun p=>gy p.1);refine ⟨_,_,path.map fun p=>gy p.1,[],a,c,by simp[LS.size],fun I' μ hp0 i1 i2 ρ m ez cA rest=> ?_⟩;obtain ⟨blk,k1,k2⟩:=cA j _ (by rw[ez];exact tF b);obtain ⟨bb,q,i,cc,t,l,rfl,hb,ht,hc⟩:=hv.Qu ae p1 p2 p3;have s8:blk= .nest e0 es [0,0,0]∧μ j=β id:=by
   generalize μ j=o at k2;cases k2 with
   | var h=>rw[ae] at h;cases h
   | arr h=>rw[ae] at h;cases h
   | map h=>rw[ae] at h;cases h
   | nest h=>rw[ae] at h;cases h;exact ⟨rfl,rfl⟩
  obtain ⟨rfl,nn⟩:=s8;simp only[lF,M1];have hq:q.length<3:=by rw[hY,List.length_singleton] at hp3;omega
  refine .row k1 (nn.trans hb) (by simpa using hq) ?_ ht hc
  match q.length,hq with
  | 0,_=>rfl
  | 1,_=>rfl
  | 2,_=>rfl
 | dF j cs c=>cases hr
 | BU k n=>cases hr
 | Ko b=>cases hr
 | fc t=>
  cases x<;>simp only at hr<;>first|(cases hr;done)|skip
  obtain ⟨h1,h2⟩:=aD hr;cases hv with
  | fc=>exact uP h2 rfl fun _ _ _ _=> .fc
 | cK t j=>
  cases x<;>simp only at hr<;>first|(cases hr;done)|skip
  rename_i t' id;obtain ⟨h1,h2⟩:=aD hr;rw[aL] at h1;subst h1;obtain ⟨oa,a,b,c⟩:=Ah (P:=P) (w:=w) (I:=I) (β:=β) h2 [];refine ⟨_,_,[],[],a,by simpa using c,rfl,fun I' μ hp0 i1 i2 ρ m ez cA rest=> ?_⟩;obtain ⟨blk,k1,k2⟩:=cA j _ (by rw[ez];exact tF b);exact am6 hv k2 k1 rfl
 | list e=>
  obtain ⟨⟨y,u⟩,l1,l2,h1,h2⟩:=oA hr;cases y<;>simp only at h2<;>first|(cases h2;done)|skip
  rename_i e' es;obtain ⟨h3,h4⟩:=aD h2;rw[aL] at h3;subst h3;obtain ⟨p1,p2⟩:=Fq S.h.rel h1 hv;exact ⟨_,_,[.list e es],u,h4,⟨rfl,rfl,fun q hq=> .inl (p1 q hq),⟨[],by simp⟩,id⟩,rfl,fun I' μ hp0 i1 i2 _ _ _ _ rest=> .list (p2 I' i1 i2)⟩
 | whole e j=>
  cases x<;>simp only at hr<;>first|(cases hr;done)|skip
  ·rename_i e' id;obtain ⟨h1,h2⟩:=aD hr;rw[aL] at h1;subst h1;obtain ⟨oa,a,b,c⟩:=Ah (P:=P) (w:=w) (I:=I) (β:=β) h2 [];refine ⟨_,_,[],[],a,by simpa using c,rfl,fun I' μ hp0 i1 i2 ρ m ez cA rest=> ?_⟩;obtain ⟨blk,k1,k2⟩:=cA j _ (by rw[ez];exact tF b);exact am5 hv k2 k1 rfl
  ·rename_i e' id ver path;obtain ⟨h1,h2⟩:=aD hr;rw[aL] at h1;subst h1;obtain ⟨oa,a,b,c⟩:=Ah (P:=P) (w:=w) (I:=I) (β:=β) h2 [];refine ⟨_,_,[],[],a,by simpa using c,rfl,fun I' μ hp0 i1 i2 ρ m ez cA rest=> ?_⟩;obtain ⟨blk,k1,k2⟩:=cA j _ (by rw[ez];exact tF b);exact am9 S hv k2 k1 rfl
 | sub e j=>
  cases x<;>simp only at hr<;>first|(cases hr;done)|skip
  rename_i e' id o n;obtain ⟨h1,h2⟩:=aD hr;rw[aL] at h1;subst h1;obtain ⟨oa,a,b,c⟩:=Ah (P:=P) (w:=w) (I:=I) (β:=β) h2 [gy o,gy n];refine ⟨_,_,[gy o,gy n],[],a,c,rfl,fun I' μ hp0 i1 i2 ρ m ez cA rest=> ?_⟩;obtain ⟨blk,k1,k2⟩:=cA j _ (by rw[ez];exact tF b);simpa[lF,V.nth] using am7 (I':=I') hv k2 k1 rfl
 | ptr j=>
  cases x<;>simp only at hr<;>first|(cases hr;done)|skip
  rename_i id i c;obtain ⟨oa,a,b,c'⟩:=Ah (P:=P) (w:=w) (I:=I) (β:=β) hr [gy i,gy c];refine ⟨_,_,[gy i,gy c],[],a,c',rfl,fun I' μ hp0 i1 i2 ρ m ez cA rest=> ?_⟩;obtain ⟨blk,k1,k2⟩:=cA j _ (by rw[ez];exact tF b);simpa[lF,V.nth] using abg (I':=I') hv k2 k1 rfl
 | ay j i c=>
  cases x<;>simp only at hr<;>first|(cases hr;done)|skip
  rename_i id i' c';obtain ⟨h1,h2⟩:=aD hr;simp only[aJ,aL] at h1;obtain ⟨rfl,rfl⟩:=h1;obtain ⟨oa,a,b,c'⟩:=Ah (P:=P) (w:=w) (I:=I) (β:=β) h2 [];refine ⟨_,_,[],[],a,by simpa using c',rfl,fun I' μ hp0 i1 i2 ρ m ez cA rest=> ?_⟩;obtain ⟨blk,k1,k2⟩:=cA j _ (by rw[ez];exact tF b);exact abg hv k2 k1 rfl
end
section
variable {P:Program} {A:dr} {w w':World} {I I' I2:Nat→Nat→Prop} {μ β β':Nat→Option Nat} {hp hp' hp0:Nat→Option ah} {C:af} {B:Nat} {M:Nat→Prop} {w0:Start}
def qq (P:Program) (w:World) (I:Nat→Nat→Prop) (β:Nat→Option Nat) (hp:Nat→Option ah) (h':Hand) (u:List (Nat×ah)) (K:(Nat→Nat→Prop)→(Nat→Option Nat)→(Nat→Option ah)→Prop):Prop:=
 ∀(I':Nat→Nat→Prop) (μ:Nat→Option Nat) (hp0:Nat→Option ah),(∀b j,I b j→I' b j)→(∀q∈u,∀b j,xM P w β hp q.1 b j→I' b j)→∀ρ m,ρ=h'.pl++m→Hq P w β hp ρ μ hp0→K I' μ hp0
theorem qq.later {h h':Hand} {d:List V} {u u':List (Nat×ah)} {K:(Nat→Nat→Prop)→(Nat→Option Nat)→(Nat→Option ah)→Prop} (t:qq P w I β hp h u K) (e:Ext P w I β hp h h' d u'):qq P w I β hp h' (u++u') K:=by
 obtain ⟨m1,e1⟩:=e.pl;exact fun I' μ hp0 i1 i2 ρ m ez cA=>t I' μ hp0 i1 (fun q hq=>i2 q (fj.2 (.inl hq))) ρ (m1++m) (by grind) cA
theorem qq.more {h:Hand} {u u':List (Nat×ah)} {K:(Nat→Nat→Prop)→(Nat→Option Nat)→(Nat→Option ah)→Prop} (t:qq P w I β hp h u K):qq P w I β hp h (u'++u) K:=
 fun I' μ hp0 i1 i2 ρ m ez cA=>t I' μ hp0 i1 (fun q hq=>i2 q (fj.2 (.inr hq))) ρ m ez cA
theorem Hr (S:aA P w I β hp B M w0) {α:Type}: ∀{ls:List LS} {xs:List V} {h:Hand} {k:Hand→Rd α} {r:α} {rd:List Nat} {vs:List Value},(vH P ls xs h k).run C hp=some (r,rd)→vs.length=xs.length→
  (∀(j:Nat) v x,vs[j]? =some v→xs[j]? =some x→aj P w I β hp v x)→
  ∃h' gS d u,(k h').run C hp=some (r,gS)∧Ext P w I β hp h h' d u∧d.length=nB ls∧ls.length=xs.length∧
   qq P w I β hp h' u fun I' μ hp0=> ∀rest,(jf ls (d++rest)).length=xs.length∧∀(j:Nat) v y,vs[j]? =some v→(jf ls (d++rest))[j]? =some y→aj P w I' μ hp0 v y
 | [],[],h,k,r,rd,vs,hr,hl,hv=>⟨h,rd,[],[],hr,Ext.refl h,rfl,rfl,fun I' μ hp0 _ _ _ _ _ _ rest=>⟨rfl,fun j v y _ hy=>by grind⟩⟩
 | [],_::_,h,k,r,rd,vs,hr,hl,hv=>by cases hr
 | _::_,[],h,k,r,rd,vs,hr,hl,hv=>by cases hr
 | l::ls,x::xs,h,k,r,rd,vs,hr,hl,hv=>by
  cases vs with
  | nil=>simp at hl
  | cons v vs=>
   simp only[vH] at hr;obtain ⟨h1,jR,d1,u1,a1,a2,a3,a4⟩:=abh S hr (hv 0 v x rfl rfl);obtain ⟨h2,yu,d2,u2,b1,b2,b3,b5,b4⟩:=Hr S a1 (by grind) (vs:=vs) (fun j v x hj hx=>hv (j+1) v x (by grind) (by grind));have a4':qq P w I β hp h1 u1 fun I' μ hp0=> ∀rest,aj P w I' μ hp0 v (lF l (d1++rest)):=a4;refine ⟨h2,yu,d1++d2,u1++u2,b1,a2.trans b2,by simp only[hY,nB];omega,by simp[b5],fun I' μ hp0 i1 i2 ρ m ez cA rest=> ?_⟩;have k1:=(a4'.later b2) I' μ hp0 i1 i2 ρ m ez cA (d2++rest);obtain ⟨k2,k3⟩:=b4.more I' μ hp0 i1 i2 ρ m ez cA rest;simp only[jf];grind
theorem anb {t:TypeId} {v:Value} {y:V} (hv:aj P w I β hp v y) (h:fT P t y=true):Plain P w I v y:=by
 cases y with
 | int k n=>exact hv.fW
 | bool b=>exact hv.nE
 | str s=>obtain ⟨s',rfl,hs⟩:=hv.oZ;exact ⟨s',rfl,hs⟩
 | list e es=>cases hv with
  | list hp'=>exact hp'
 | _=>unfold fT at h;grind
theorem abi: ∀{ts:List TypeId} {ls:List LS},B4 P ts ls=true→ts.length=ls.length∧∀(ds:List V) (j:Nat) t y,ts[j]? =some t→(jf ls ds)[j]? =some y→fT P t y=true
 | [],[],_=>⟨rfl,fun ds j t y h=>by simp at h⟩
 | [],_::_,h=>by cases h
 | _::_,[],h=>by cases h
 | t::ts,l::ls,h=>by
  simp only[B4,aJ] at h;obtain ⟨h1,h2⟩:=abi h.2;refine ⟨by simp[h1],fun ds j t' y ht hy=> ?_⟩;cases j with
  | succ j=>exact h2 _ j t' y (by grind) (by simpa[jf] using hy)
  | zero=>
   simp[jf] at ht hy;subst ht;subst hy;have h:=h.1;unfold fT;split at h<;>simp_all [lF]
theorem anc (S:aA P w I β hp B M w0) {α:Type} {s:VS} {x:V} {h:Hand} {k:Hand→Rd α} {r:α} {rd:List Nat} {v:Value} (hr:(B5 P s x h k).run C hp=some (r,rd)) (hv:aj P w I β hp v x):
  ∃h' gS d u,(k h').run C hp=some (r,gS)∧Ext P w I β hp h h' d u∧d.length=s.size∧
   qq P w I β hp h' u fun I' μ hp0=> ∀rest,aj P w I' μ hp0 v (ov s (d++rest)):=by
 cases s with
 | one l=>
  simp only[B5] at hr;obtain ⟨h1,jR,d1,u1,a1,a2,a3,a4⟩:=abh S hr hv;exact ⟨h1,jR,d1,u1,a1,a2,a3,a4⟩
 | agg ls=>
  cases x<;>simp only[B5] at hr<;>first|(cases hr;done)|skip
  rename_i xs;obtain ⟨cs,rfl,e1,e2⟩:=hv.nF;obtain ⟨h1,jR,d1,u1,a1,a2,a3,a5,a4⟩:=Hr S hr (vs:=cs.toList) (by omega) (fun j v x hj hx=>e2 j v x (by grind) hx);refine ⟨h1,jR,d1,u1,a1,a2,a3,fun I' μ hp0 i1 i2 ρ m ez cA rest=> ?_⟩;obtain ⟨k1,k2⟩:=a4 I' μ hp0 i1 i2 ρ m ez cA rest;exact .agg (by omega) fun j v y hj hy=>k2 j v y (by grind) hy
 | bd ls=>cases x<;>cases hr
 | pref ts ls=>
  have cells: ∀{xs:List V} {vs:List Value} {h0:Hand} {rd0:List Nat},(vH P ls xs h0 k).run C hp=some (r,rd0)→vs.length=xs.length→B4 P ts ls=true→(∀(j:Nat) v x,vs[j]? =some v→xs[j]? =some x→aj P w I β hp v x)→
    ∃h' gS d u,(k h').run C hp=some (r,gS)∧Ext P w I β hp h0 h' d u∧d.length=nB ls∧ls.length=xs.length∧qq P w I β hp h' u fun I' μ hp0=> ∀rest,(jf ls (d++rest)).length=xs.length∧ts.length=xs.length∧
     ∀(j:Nat) t v y,vs[j]? =some v→ts[j]? =some t→(jf ls (d++rest))[j]? =some y→Pure P w I' t v y:=by
   intro xs vs h0 rd0 hr0 hl ff Ra;obtain ⟨h1,jR,d1,u1,a1,a2,a3,a5,a4⟩:=Hr S hr0 hl Ra;obtain ⟨t1,t2⟩:=abi ff;refine ⟨h1,jR,d1,u1,a1,a2,a3,a5,fun I' μ hp0 i1 i2 ρ m ez cA rest=> ?_⟩;obtain ⟨k1,k2⟩:=a4 I' μ hp0 i1 i2 ρ m ez cA rest;exact ⟨k1,t1.trans a5,fun j t v y hj ht hy=>(anb (k2 j v y hj hy) (t2 _ j t y ht hy)).pure (t2 _ j t y ht hy)⟩
  cases x<;>simp only[B5] at hr<;>first|(cases hr;done)|skip
  ·rename_i id i c;obtain ⟨l0,wE⟩:=run_get hr;clear hr;cases ae:hp id with
   | none=>rw[ae] at wE;cases wE
   | some blk=>
    rw[ae] at wE;cases blk<;>simp only at wE<;>first|(cases wE;done)|skip
    rename_i T cs;obtain ⟨hc,rq⟩:=aD wE;clear wE;simp only[aJ,aL,gx] at hc;obtain ⟨rfl,ff,hle⟩:=hc;obtain ⟨b,hb,rfl⟩:=hv.jl ae (by simp);have cR:=S.h.rel id _ ae;rw[hb] at cR;cases cR with
    | @var _ _ Ca _ au hh hs hI hx _=>
    cases au;obtain ⟨h1,jR,d1,u1,a1,a2,a3,a5,a4⟩:=cells rq (vs:=(Ca.toList.drop c).take ls.length) (by simp;omega) ff (fun j v x hj dd=>by
     grind)
    refine ⟨h1,jR,d1,(id,.var T cs)::u1,a1,⟨a2.ds,by rw[a2.upd];simp,fun q hq=> ?_,a2.pl,a2.nodup⟩,a3,fun I' μ hp0 i1 i2 ρ m ez cA rest=> ?_⟩
    ·rcases fl.1 hq with rfl|hq
     ·exact .inr ⟨T,cs,rfl,ae⟩
     ·exact a2.M5 q hq
    ·obtain ⟨k1,k2,k3⟩:=a4 I' μ hp0 i1 (fun q hq=>i2 q (jA _ hq)) ρ m ez cA rest;have hn:(jf ls (d1++rest)).length=ls.length:=k1.trans a5.symm;simp only[ov,ah.sz,EK,dB];refine .pref (k2.trans k1.symm) (fun j hj=>i2 _ (pG ..) b (c+j) ⟨_,ae,.var hb (by omega)⟩) (fun j t y ht hy=> ?_);have hj:=(cz.1 hy).1;have tc:c+j<Ca.size:=by omega
     refine ⟨Ca[c+j],by rw[cell?_cells hh];grind,k3 j t _ y ?_ ht hy⟩;grind
  ·rename_i ui cs;obtain ⟨hc,rq⟩:=aD hr;clear hr;simp only[aJ,gx] at hc;obtain ⟨hts,ff,hle⟩:=hc;have hts:=Ae hts;obtain ⟨b,o,rfl,q1,q2,q3⟩:=hv.Fw;have hg: ∀j,j<cs.length→∃v,w.cell? ⟨b,o+j,none⟩=some v∧∃t,ui[j]? =some t∧∀x,cs[j]? =some x→Pure P w I t v x:=fun j hj=>by
    simp_all
   let vs:List Value:=(List.range ls.length).map fun j=>(w.cell? ⟨b,o+j,none⟩).getD undef
   have K6: ∀(j:Nat),j<ls.length→vs[j]? =some ((w.cell? ⟨b,o+j,none⟩).getD undef):=fun j hj=>by grind
   obtain ⟨h1,jR,d1,u1,a1,a2,a3,a5,a4⟩:=cells rq (vs:=vs) (by grind) ff (fun j v x hj dd=>by
    have dk:j<ls.length:=by grind
    rw[jB dk] at dd;obtain ⟨v',v1,t,_,v2⟩:=hg j (by omega);rw[K6 j dk,v1] at hj;cases hj;exact .uo (v2 x dd))
   refine ⟨h1,jR,d1,u1,a1,a2,a3,fun I' μ hp0 i1 i2 ρ m ez cA rest=> ?_⟩;obtain ⟨k1,k2,k3⟩:=a4 I' μ hp0 i1 i2 ρ m ez cA rest;have hn:(jf ls (d1++rest)).length=ls.length:=k1.trans a5.symm;refine .pref (k2.trans k1.symm) (fun j hj=>i1 _ _ (q2 j (by omega))) (fun j t y ht hy=> ?_);grind
 | fn f a b=>
  cases x<;>simp only[B5] at hr<;>first|(cases hr;done)|skip
  rename_i f' xs ys;obtain ⟨hc,rq⟩:=aD hr;clear hr;rw[aL] at hc;subst hc;cases hv with
  | @fn _ fs cs _ _ q1 q2 q3 q4=>
   obtain ⟨h1,jR,d1,u1,a1,a2,a3,a5,a4⟩:=Hr S rq (vs:=fs.toList) (by omega) (fun j v x hj hx=>q2 j v x (by grind) hx);obtain ⟨h2,yu,d2,u2,b1,b2,b3,b5,b4⟩:=Hr S a1 (vs:=cs.toList) (by omega) (fun j v x hj hx=>q4 j v x (by grind) hx);refine ⟨h2,yu,d1++d2,u1++u2,b1,a2.trans b2,by simp only[hY,VS.size];omega,fun I' μ hp0 i1 i2 ρ m ez cA rest=> ?_⟩;obtain ⟨k1,k2⟩:=(a4.later b2) I' μ hp0 i1 i2 ρ m ez cA (d2++rest);obtain ⟨k3,k4⟩:=b4.more I' μ hp0 i1 i2 ρ m ez cA rest;simp only[ov];rw[show (d1++d2++rest).drop (nB a)=d2++rest by grind,kQ];exact .fn (by omega) (fun j v y hj hy=>k2 j v y (by grind) hy) (by omega) (fun j v y hj hy=>k4 j v y (by grind) hy)
theorem SU (S:aA P w I β hp B M w0) {α:Type}: ∀{ls:List VS} {xs:List V} {h:Hand} {k:Hand→Rd α} {r:α} {rd:List Nat} {vs:List Value},(E3 P ls xs h k).run C hp=some (r,rd)→vs.length=xs.length→
  (∀(j:Nat) v x,vs[j]? =some v→xs[j]? =some x→aj P w I β hp v x)→
  ∃h' gS d u,(k h').run C hp=some (r,gS)∧Ext P w I β hp h h' d u∧d.length=xD ls∧ls.length=xs.length∧
   qq P w I β hp h' u fun I' μ hp0=> ∀rest,(jG ls (d++rest)).length=xs.length∧∀(j:Nat) v y,vs[j]? =some v→(jG ls (d++rest))[j]? =some y→aj P w I' μ hp0 v y
 | [],[],h,k,r,rd,vs,hr,hl,hv=>⟨h,rd,[],[],hr,Ext.refl h,rfl,rfl,fun I' μ hp0 _ _ _ _ _ _ rest=>⟨rfl,fun j v y _ hy=>by grind⟩⟩
 | [],_::_,h,k,r,rd,vs,hr,hl,hv=>by cases hr
 | _::_,[],h,k,r,rd,vs,hr,hl,hv=>by cases hr
 | l::ls,x::xs,h,k,r,rd,vs,hr,hl,hv=>by
  cases vs with
  | nil=>simp at hl
  | cons v vs=>
   simp only[E3] at hr;obtain ⟨h1,jR,d1,u1,a1,a2,a3,a4⟩:=anc S hr (hv 0 v x rfl rfl);obtain ⟨h2,yu,d2,u2,b1,b2,b3,b5,b4⟩:=SU S a1 (by grind) (vs:=vs) (fun j v x hj hx=>hv (j+1) v x (by grind) (by grind));refine ⟨h2,yu,d1++d2,u1++u2,b1,a2.trans b2,by simp only[hY,xD];omega,by simp[b5],fun I' μ hp0 i1 i2 ρ m ez cA rest=> ?_⟩;have k1:=(a4.later b2) I' μ hp0 i1 i2 ρ m ez cA (d2++rest);obtain ⟨k2,k3⟩:=b4.more I' μ hp0 i1 i2 ρ m ez cA rest;simp only[jG];grind
def M6:List BS→Nat
 | []=>0
 | b::l=>b.size+M6 l
theorem abj: ∀{b:Nat} {e e':TypeId} {es:List V} {v:V},(∀q b' e' m,At P w b e es q b' e' m→iS P w I b' e' m)→∀(path:Path),ou P e path=some e'→fm P e es path=some v→0<v.toList.length→
  ∃b1,At P w b e es path b1 e' v.toList
 | b,e,e',es,v,cW,[],ht,hv,hl=>by
  simp only[ou,fk] at ht;simp only[fm,fk] at hv;subst ht;subst hv;exact ⟨b,.here⟩
 | b,e,e',es,v,cW,(i,c)::q,ht,hv,hl=>by
  simp only[ou] at ht;simp only[fm] at hv;obtain ⟨x,hx,hv⟩:=bind_some hv;cases htc:(ou.EU P e)[c]? with
  | none=>grind
  | some t=>
   rw[htc] at ht;simp only at ht;have SW:(aU P e)[c]? =some t:=htc;cases hu:P.underlying t with
   | none=>grind
   | some d=>
    rw[hu] at ht;cases d<;>simp only at ht<;>first|(cases ht;done)|skip
    rename_i e1;rw[rW SW] at hv;have hR:=cW _ _ _ _ .here;obtain ⟨Ca,_,c1,_,c2,c3⟩:=hR.cells;have zm:c<P.cellsOf e:=by rw[←fH hR.ok];grind
    obtain ⟨u,d1,d2⟩:=c3 i c x t hx SW zm;rw[d2.xS] at hv;generalize hy:cf P e x c=y at d2 hv;cases d2 with
    | gB a p=>unfold dX at a;grind
    | @emp e2 a rp=>
     rw[hu] at rp;cases rp;simp only at hv;cases q with
     | nil=>simp only[fm,fk] at hv;subst hv;simp[V.toList] at hl
     | cons a q=>simp[fm] at hv
    | @row e2 bW b2 cap rp mZ bc bQ s6=>
     rw[hu] at rp;cases rp;simp only at hv;have pZ: ∀{q b' e' aK},At P w b2 e1 bW q b' e' aK→At P w b e es ((i,c)::q) b' e' aK:=fun h=> .step c1 hx SW hu hy mZ d1 h;obtain ⟨b1,sk⟩:=abj (fun q b' e' m h=>cW _ _ _ _ (pZ h)) q ht hv hl;grind
def wF (P:Program) (I:Nat→Nat→Prop) (blk:ah) (b:Nat):Prop:= ∀j,I b j→∃e es,blk= .arr e es true∧j<es.length*P.cellsOf e
theorem wF.no {blk:ah} {b:Nat} (h:wF P I blk b) (hn: ∀e es,blk≠ .arr e es true) (j:Nat): ¬I b j:=fun hi=>by
 obtain ⟨e,es,h1,_⟩:=h j hi;exact hn e es h1
theorem abk (S:aA P w I β hp B M w0) {α:Type}: ∀{bs:List BS} {j:Nat} {h:Hand} {k:Hand→Rd α} {r:α} {rd:List Nat},(vI P bs j h k).run C hp=some (r,rd)→
  ∃h' gS d u,(k h').run C hp=some (r,gS)∧Ext P w I β hp h h' d u∧d.length=M6 bs∧
   ∀rest,(ij bs (d++rest)).length=bs.length∧∃o:Nat→Option Nat,
    (∀(i:Nat) blk,(ij bs (d++rest))[i]? =some blk→∃p,gz h'.pl (j+i)=some p∧gq P w β hp p (o i) blk)∧
    qq P w I β hp h' u fun I' μ hp0=> ∀(i:Nat) blk,(ij bs (d++rest))[i]? =some blk→(∀b,bf P w (o i) blk b→wF P I' blk b)→fe P w I' μ hp0 (o i) blk
 | [],j,h,k,r,rd,hr=>⟨h,rd,[],[],hr,Ext.refl h,rfl,fun rest=>⟨rfl,fun _=>none,fun i blk hb=>by simp[ij] at hb,fun I' μ hp0 _ _ _ _ _ _ i blk hb=>by simp[ij] at hb⟩⟩
 | b::bs,j,h,k,r,rd,hr=>by
  simp only[vI] at hr;have fin: ∀{h1:Hand} {jR:List Nat} {d1:List V} {u1:List (Nat×ah)} {o1:Option Nat} {p:Place},(vI P bs (j+1) h1 k).run C hp=some (r,jR)→Ext P w I β hp h h1 d1 u1→d1.length=b.size→gz h.pl j=some p→
    (∀rest,gq P w β hp p o1 (iR b (d1++rest)))→(∀rest,qq P w I β hp h1 u1 fun I' μ hp0=>(∀bb,bf P w o1 (iR b (d1++rest)) bb→wF P I' (iR b (d1++rest)) bb)→fe P w I' μ hp0 o1 (iR b (d1++rest)))→
    ∃h' gS d u,(k h').run C hp=some (r,gS)∧Ext P w I β hp h h' d u∧d.length=M6 (b::bs)∧
     ∀rest,(ij (b::bs) (d++rest)).length=(b::bs).length∧∃o:Nat→Option Nat,
      (∀(i:Nat) blk,(ij (b::bs) (d++rest))[i]? =some blk→∃p,gz h'.pl (j+i)=some p∧gq P w β hp p (o i) blk)∧
      qq P w I β hp h' u fun I' μ hp0=> ∀(i:Nat) blk,(ij (b::bs) (d++rest))[i]? =some blk→(∀b,bf P w (o i) blk b→wF P I' blk b)→fe P w I' μ hp0 (o i) blk:=by
   intro h1 jR d1 u1 o1 p hk he hd bL hl ht;obtain ⟨h2,yu,d2,u2,b1,b2,b3,b4⟩:=abk S hk;refine ⟨h2,yu,d1++d2,u1++u2,b1,he.trans b2,by simp only[hY,M6];omega,fun rest=> ?_⟩;obtain ⟨c1,o,c2,c3⟩:=b4 rest;simp only[ij];rw[show (d1++d2++rest).drop b.size=d2++rest by grind,kQ];refine ⟨by simp[c1],fun i=>match i with|0=>o1|i+1=>o i,fun i blk hb=> ?_,fun I' μ hp0 i1 i2 ρ m ez cA i blk hb di=> ?_⟩
   ·cases i with
    | zero=>
     simp at hb;subst hb;exact ⟨p,b2.look (he.look bL),hl _⟩
    | succ i=>
     grind
   ·cases i with
    | zero=>
     simp at hb;subst hb;exact ((ht _).later b2) I' μ hp0 i1 i2 ρ m ez cA di
    | succ i=>exact c3.more I' μ hp0 i1 i2 ρ m ez cA i blk (by grind) di
  cases bL:gz h.pl j with
  | none=>rw[bL] at hr;cases hr
  | some p=>
   rw[bL] at hr;cases p with
   | blk id=>
    obtain ⟨l1,hr⟩:=run_get hr;cases ae:hp id with
    | none=>rw[ae] at hr;cases hr
    | some blk=>
     rw[ae] at hr;cases blk with
     | dead=>cases hr
     | out _ _ _ _=>cases hr
     | var T0 cs=>
      cases b<;>simp only at hr<;>first|(cases hr;done)|skip
      rename_i T1 ss;obtain ⟨hT,wE⟩:=aD hr;clear hr;rw[aL] at hT;subst hT;have cR:=S.h.rel id _ ae;generalize ho:β id=o at cR;cases cR with
      | @var _ bb Ca T hb hh hs hI hx iT=>
       obtain ⟨h1,jR,d1,u1,a1,a2,a3,a5,a4⟩:=SU S wE (vs:=Ca.toList) (by omega) (fun j v x hj dd=>hx j v x (by grind) dd);refine fin (o1:=β id) a1 a2 a3 bL (fun rest=> .var ae) fun rest I' μ hp0 i1 i2 ρ m ez cA di=> ?_;obtain ⟨k1,k2⟩:=a4 I' μ hp0 i1 i2 ρ m ez cA rest;exact .var (ho.trans hb) hh (by omega) ((di _ (.root (by simp[iR]) (ho.trans hb))).no (by simp[iR])) (fun i v y hi hy=>k2 i v y (by grind) hy) iT
     | arr e' es fz=>
      cases b with
      | arr e pX=>
       obtain ⟨hc,rq⟩:=aD hr;clear hr;simp only[aJ,aL] at hc;obtain ⟨rfl,gi⟩:=hc;obtain rfl:pX=fz:=by cases fz<;>cases pX<;>first|rfl|cases gi
       refine fin (d1:=[.list e es]) (o1:=β id) rq (Ext.leaf h _) rfl bL (fun rest=>gq.arr ae) fun rest I' μ hp0 i1 i2 ρ m ez cA di=> ?_;replace di: ∀bb,bf P w (β id) (.arr e es pX) bb→wF P I' (.arr e es pX) bb:=di;change fe P w I' μ hp0 (β id) (.arr e es pX);have cR:=S.h.rel id _ ae;generalize ho:β id=o at cR di⊢;cases cR with
       | eF hb=>exact .eF hb
       | arr a0 a1 a2 a3 a4 a5 a6 a7=>
        have hn:=di _ (.root (by simp) a2);refine .arr a0 a1 a2 a3 a4 (fun _ j hi=> ?_) (fun hz=>hn.no (by simp[hz])) fun i j x t' y1 y2 y3=> ?_
        ·obtain ⟨e',aK,h1,h2⟩:=hn j hi;cases h1;exact h2
        ·obtain ⟨v,z1,z2⟩:=a7 i j x t' y1 y2 y3;exact ⟨v,z1,z2.mono i1 fun _ _ _=>rfl⟩
      | _=>cases hr
     | nest e' es vers=>
      cases b with
      | nest e=>
       obtain ⟨hc,rq⟩:=aD hr;clear hr;rw[aL] at hc;subst hc;refine fin (d1:=[.list e es]) (o1:=β id) rq (Ext.leaf h _) rfl bL (fun rest=>gq.nest ae) fun rest I' μ hp0 i1 i2 ρ m ez cA di=> ?_;have abl: ∀bb,bf P w (β id) (.nest e es [0,0,0]) bb→∀j,¬I' bb j:=fun bb h=>wF.no (blk:= .nest e es [0,0,0]) (di bb h) (by simp);change fe P w I' μ hp0 (β id) (.nest e es [0,0,0]);have cR:=S.h.rel id _ ae;generalize ho:β id=o at cR abl⊢;cases cR with
       | ji hb=>exact .ji hb
       | nest hb cW mn=>
        refine .nest hb (fun q b' e1 m1 hq=> ?_) mn;obtain ⟨ok,⟨Ca,Tc,c1,c0,c2,c3⟩,nI⟩:=cW q b' e1 m1 hq;refine ⟨ok,⟨Ca,Tc,c1,c0,c2,fun i j x t' y1 y2 y3=> ?_⟩,abl _ (.row hb hq)⟩;obtain ⟨v,z1,z2⟩:=c3 i j x t' y1 y2 y3;exact ⟨v,z1,z2.mono i1 (fun _ _ _=>rfl) fun _ _ _ _ _=>rfl⟩
      | _=>cases hr
     | map t' es=>
      cases b with
      | map t=>
       obtain ⟨hc,rq⟩:=aD hr;clear hr;rw[aL] at hc;subst hc;refine fin (d1:=[.list t es]) (o1:=β id) rq (Ext.leaf h _) rfl bL (fun rest=>gq.map ae) fun rest I' μ hp0 i1 i2 ρ m ez cA di=> ?_;change fe P w I' μ hp0 (β id) (.map t es);have cR:=S.h.rel id _ ae;generalize ho:β id=o at cR di⊢;cases cR with
       | map a1 a2 a3 a4 a5 a6 a7=>exact .map a1 a2 a3 a4 ((di _ (.root (by simp[iR]) a2)).no (by simp[iR])) a6 a7
      | _=>cases hr
   | row id ver path=>
    obtain ⟨e0,es,vers,l1,k1,k2,k3,k4,k5⟩:=rV hr;obtain ⟨e',vv,m1,m2,m3⟩:=Cg k5;cases b with
    | arr e fz=>
     cases fz with
     | true=>cases m3
     | false=>
      obtain ⟨hc,m4⟩:=aD m3;clear m3;simp only[aJ,aL,nt] at hc;obtain ⟨rfl,Hs,mZ⟩:=hc;have cR:=S.h.rel id _ k1;cases hb:β id with
      | none=>
       rw[hb] at cR;cases cR with
       | nest au _ _=>cases au
       | ji _=>
        cases path with
        | nil=>grind
        | cons p q=>obtain ⟨i,c⟩:=p;simp[fm] at m2
      | some b0=>
       rw[hb] at cR;cases cR with
       | ji au=>cases au
       | nest au cW mn=>
        cases au;obtain ⟨b1,fV⟩:=abj cW path m1 m2 mZ;refine fin (d1:=[.list e vv.toList]) (o1:=some b1) m4 (Ext.leaf h _) rfl bL (fun rest=>gq.row k1 hb fV Hs k2 k3 k4 mZ) fun rest I' μ hp0 i1 i2 ρ m ez cA di=> ?_;change fe P w I' μ hp0 (some b1) (.arr e vv.toList false);obtain ⟨ok,⟨Ca,Tc,c1,c0,c2,c3⟩,nI⟩:=cW _ _ _ _ fV;refine .arr c0 ok rfl c1 c2 (fun h=>by cases h) (fun _=>(di _ (.root (by simp[iR]) rfl)).no (by simp[iR])) fun i j x t' y1 y2 y3=> ?_;obtain ⟨v,z1,z2⟩:=c3 i j x t' y1 y2 y3;refine ⟨v,z1,?_⟩;generalize cf P e x j=y at z2⊢;cases z2 with
        | gB _ p=>exact p.mono i1 fun _ _ _=>rfl
        | emp hu=>exact absurd hu (abm Hs y2 _)
        | row hu _ _ _ _=>exact absurd hu (abm Hs y2 _)
    | _=>cases m3
where
 abm {e t:TypeId} {j:Nat} (h:EZ P e=true) (ht:(aU P e)[j]? =some t) (e':TypeId):P.underlying t≠some (.slice e'):=by
  intro hu;have h2:=ib.1 h t (mN ht);grind
end
section
variable {P:Program} {A:dr} {w w':World} {I I' I2:Nat→Nat→Prop} {μ β β' cF:Nat→Option Nat} {hp hp' hp0 bL:Nat→Option ah} {C:af} {B:Nat} {M:Nat→Prop} {w0:Start}
structure pd (w:World) (I:Nat→Nat→Prop) (β:Nat→Option Nat) (hp:Nat→Option ah) (w':World) (I':Nat→Nat→Prop) (β':Nat→Option Nat) (hp':Nat→Option ah):Prop where
 en: ∀b j,I b j→I' b j
 cM: ∀b j,I b j→w'.cell? ⟨b,j,none⟩=w.cell? ⟨b,j,none⟩
 blk: ∀id blk,hp id=some blk→∃blk',hp' id=some blk'∧blk.le blk'∧(blk'≠ .dead→β' id=β id)
 size: ∀id blk blk' b,hp id=some blk→hp' id=some blk'→blk'≠ .dead→β id=some b→bsize w' b=bsize w b
theorem Le.Ds (h:Le P w I β hp w' I' β' hp'):pd w I β hp w' I' β' hp':=⟨h.en,h.cM,h.blk,h.size⟩
theorem pd.trans {Fg:World} {Fh:Nat→Nat→Prop} {Fi:Nat→Option Nat} {Fj:Nat→Option ah} (h1:pd w I β hp w' I' β' hp') (h2:pd w' I' β' hp' Fg Fh Fi Fj):pd w I β hp Fg Fh Fi Fj:=by
 refine ⟨fun b j h=>h2.en b j (h1.en b j h),fun b j h=>(h2.cM b j (h1.en b j h)).trans (h1.cM b j h),fun id blk h=> ?_,fun id blk zh b h KR hd hb=> ?_⟩
 ·obtain ⟨blk',e',l',b'⟩:=h1.blk id blk h;obtain ⟨zh,dY,Fk,b''⟩:=h2.blk id blk' e';refine ⟨zh,dY,ah.le_trans l' Fk,fun hd=> ?_⟩;have fU:blk'≠ .dead:=fun e=>hd (ah.uq (e▸Fk));grind
 ·obtain ⟨blk',e',l',b'⟩:=h1.blk id blk h;obtain ⟨kX,e3,l3,b3⟩:=h2.blk id blk' e';obtain rfl:kX=zh:=by grind
  have fU:blk'≠ .dead:=fun e=>hd (ah.uq (e▸l3));rw[h2.size id blk' kX b e' e3 hd ((b' fU).trans hb),h1.size id blk blk' b h e' fU hb]
def tH (P:Program) (w:World) (μ:Nat→Option Nat) (hp0:Nat→Option ah) (b:Nat):Prop:= ∃j blk,hp0 j=some blk∧bf P w (μ j) blk b
structure ane (P:Program) (A:dr) (key:Nat) (w:World) (I:Nat→Nat→Prop) (μ:Nat→Option Nat) (ds es:List V) (w':World) (v:Value) (I2:Nat→Nat→Prop) (cF:Nat→Option Nat):Prop where
 Dt:aA P w' I2 cF (bM (A.so key es) (A.lv key es)).hp w.heap.size (tH P w μ (bM (A.sin key) ds).hp) ⟨w,I⟩
 le:pd w I μ (bM (A.sin key) ds).hp w' I2 cF (bM (A.so key es) (A.lv key es)).hp
 res:aj P w' I2 cF (bM (A.so key es) (A.lv key es)).hp v (uj (jg (A.so key es).cu (A.lv key es)))
def pe (P:Program) (A:dr) (C:af):Prop:=
 ∀key ds es,C key ds=some es→∃fn c,P.funcs[A.jW key]? =some fn∧fn.body=some c∧
  ∀(w:World) (I:Nat→Nat→Prop) (μ:Nat→Option Nat) (vals:List Value),
   zf P w I μ (bM (A.sin key) ds).hp w.heap.size (tH P w μ (bM (A.sin key) ds).hp)→jZ P A.aE w I→
   vals.length=(A.sin key).cu.length→(∀(j:Nat) v x,vals[j]? =some v→(jG ((A.sin key).cu.map (·.2)) ds)[j]? =some x→aj P w I μ (bM (A.sin key) ds).hp v x)→
   Calls P (A.jW key) vals.toArray w fun e w'=> ∃v I2 cF,e= .returned v∧ane P A key w I μ ds es w' v I2 cF
theorem gq.Ai {p:Place} {o:Option Nat} {blk:ah} {b:Nat} (h:gq P w β hp p o blk) (ho:bf P w o blk b):
  ∃uX,hp p.id=some uX∧bf P w (β p.id) uX b∧∀e es,uX= .arr e es true→blk= .arr e es true∧o=β p.id:=by
 cases h with
 | var h=>exact ⟨_,h,.root (by simp) (ho.flat (by simp)),by simp⟩
 | arr h=>exact ⟨_,h,.root (by simp) (ho.flat (by simp)),fun _ _ h=>⟨h,rfl⟩⟩
 | map h=>exact ⟨_,h,.root (by simp) (ho.flat (by simp)),by simp⟩
 | nest h=>
  refine ⟨_,h,?_,by simp⟩;cases ho with
  | root _ hb=>exact .root (by simp) hb
  | row hb ha=>exact .row hb ha
 | row h hb ha _ _ _ _ _=>
  have:=ho.flat (by simp)
  cases this;exact ⟨_,h,.row hb ha,by simp⟩
theorem aA.anf (S:aA P w I β hp B M w0) {id b:Nat} {blk:ah} (ae:hp id=some blk) (ho:bf P w (β id) blk b) (hf: ∀e es,blk≠ .arr e es true): ∀j,¬I b j:=by
 have hr:=S.h.rel id blk ae;generalize β id=o at hr ho;cases hr with
 | var hb _ _ hI _ _=>have:=ho.flat (by simp);grind
 | eF hb=>have:=ho.flat (by simp);grind
 | @arr e _ es fz _ _ _ _ hb _ _ _ fN _=>
  have:=ho.flat (by simp)
  simp_all
 | dead=>exact absurd rfl ho.alive
 | map _ hb _ _ hI _ _=>have:=ho.flat (by simp);grind
 | out hb _ _ hh _ _ hI hc hr _=>
  cases ho with
  | root _ au=>grind
  | qO au zj hj hx h0 hv=>
   rw[hb] at au;cases au;rw[hh] at zj;cases zj;obtain ⟨_,_,m1,_⟩:=hc _ _ hj hx;cases m1;exact (hr _ _ _ _ hj hx h0 hv).2.nI
 | ji hb=>cases ho<;>simp_all
 | nest hb hr _=>
  cases ho with
  | root _ au=>rw[hb] at au;cases au;exact (hr _ _ _ _ .here).nI
  | row au ha=>rw[hb] at au;cases au;exact (hr _ _ _ _ ha).nI
theorem M7 {a b:List Nat} (h:BV a b=false) {x:Nat} (ha:x∈a):x∉b:=by
 intro hb;unfold BV at h;rw[List.any_eq_false] at h;exact h x ha (zs hb)
theorem ang (S:aA P w I β hp B M w0) {pl:List Place} {upd:List (Nat×ah)} {o:Nat→Option Nat} (oM:(pl.map Place.id).Nodup) (zO:BV (upd.map (·.1)) (pl.map Place.id)=false)
  (hl: ∀j blk,hp0 j=some blk→∃p,gz pl j=some p∧gq P w β hp p (o j) blk)
  (cR:(∀j blk,hp0 j=some blk→∀b,bf P w (o j) blk b→wF P (j4 P w I β hp upd) blk b)→∀j blk,hp0 j=some blk→fe P w (j4 P w I β hp upd) o hp0 (o j) blk) (aP: ∀b j,j4 P w I β hp upd b j→b<w.heap.size):
  zf P w (j4 P w I β hp upd) o hp0 w.heap.size (tH P w o hp0):=by
 have di: ∀j blk,hp0 j=some blk→∀b,bf P w (o j) blk b→wF P (j4 P w I β hp upd) blk b:=by
  intro j blk hj b ho jj hI;obtain ⟨p,bL,gj⟩:=hl j blk hj;obtain ⟨uX,k1,k2,k3⟩:=gj.Ai ho;rcases hI with hI|⟨q,hq,cD,q1,q2⟩
  ·by_cases hz: ∃e es,uX= .arr e es true
   ·obtain ⟨e,es,rfl⟩:=hz;obtain ⟨rfl,h4⟩:=k3 e es rfl;refine ⟨e,es,rfl,?_⟩;have hr:=S.h.rel _ _ k1;have hb:=k2.flat (by simp)
    generalize β p.id=o' at hr hb;cases hr with
    | eF h=>rw[hb] at h;cases h
    | arr _ _ a2 _ _ a5 _ _=>rw[hb] at a2;cases a2;exact a5 rfl jj hI
   ·exact absurd hI (S.anf k1 k2 (fun e es h=>hz ⟨e,es,h⟩) jj)
  ·exfalso;have:=S.h.inj _ _ _ _ b q1 k1 q2.own k2;refine M7 zO (ia.2 ⟨q,hq,rfl⟩) ?_;rw[this];rw[qp] at bL;grind
 refine ⟨cR di,fun j1 j2 b1 b2 b h1 h2 o1 o2=> ?_,fun j blk b h1 o1=> .inl ⟨j,blk,h1,o1⟩,aP⟩;obtain ⟨p1,q1,q2⟩:=hl j1 b1 h1;obtain ⟨p2,r1,r2⟩:=hl j2 b2 h2;obtain ⟨c1,x1,x2,_⟩:=q2.Ai o1;obtain ⟨c2,y1,y2,_⟩:=r2.Ai o2;have ae:=S.h.inj _ _ _ _ b x1 y1 x2 y2;rw[qp] at q1 r1;have m1:(pl.map Place.id)[j1]? =some p1.id:=by grind
 have m2:(pl.map Place.id)[j2]? =some p2.id:=by grind
 rw[←ae] at m2;obtain ⟨z1,z2⟩:=cz.1 m1;obtain ⟨z3,z4⟩:=cz.1 m2;exact (List.getElem_inj oM).1 (z2.trans z4.symm)
def abn:V→Prop
 | .list .. =>False
 | .nl .. =>False
 | .pref .. =>False
 | .agg _=>False
 | .bd _=>False
 | .fn .. =>False
 | _=>True
theorem aj.free {v:Value} {x:V} (h:aj P w I β hp v x) (hx:abn x):aj P w I' β hp v x:=by
 cases h with
 | undef=>exact .undef
 | int=>exact .int
 | bool=>exact .bool
 | str h=>exact .str h
 | list h=>exact hx.elim
 | nilS=>exact .nilS
 | nl=>exact hx.elim
 | agg=>exact hx.elim
 | bd=>exact hx.elim
 | eJ=>exact .eJ
 | fn=>exact hx.elim
 | pref=>exact hx.elim
 | dZ h=>exact .dZ h
 | jK h=>exact .jK h
 | mV h=>exact .mV h
 | dV h hb=>exact .dV h hb
 | whole h hb a b c=>exact .whole h hb a b c
 | dO h hb a b c=>exact .dO h hb a b c
 | ee h hb=>exact .ee h hb
 | fG h hb a b c=>exact .fG h hb a b c
 | jh h hb=>exact .jh h hb
 | sub h hb a b c=>exact .sub h hb a b c
 | ptr h hd hb=>exact .ptr h hd hb
 | mW h wv=>exact .mW h wv
 | mX h wv=>exact .mX h wv
 | row h hb a b c d=>exact .row h hb a b c d
 | dF h hb a b c d e=>exact .dF h hb a b c d e
 | fc=>exact .fc
 | lJ h=>exact .lJ h
 | cK h hb=>exact .cK h hb
theorem Ht {l:LS} {ds:List V} (hs:l.safe=true):abn (lF l ds):=by
 cases l<;>simp only[LS.safe] at hs<;>first|(cases hs;done)|trivial
theorem Hu: ∀{ls:List LS} {ds:List V} {j:Nat} {y:V},(jf ls ds)[j]? =some y→∃l kJ,l∈ls∧y=lF l kJ
 | [],ds,j,y,h=>by simp[jf] at h
 | l::ls,ds,j,y,h=>by
  simp only[jf] at h;cases j with
  | zero=>grind
  | succ j=>
   obtain ⟨l',kJ,h1,h2⟩:=Hu (j:=j) (by simpa using h);grind
theorem abo: ∀{ls:List VS} {ds:List V} {j:Nat} {y:V},(jG ls ds)[j]? =some y→∃l kJ,l∈ls∧y=ov l kJ
 | [],ds,j,y,h=>by simp[jG] at h
 | l::ls,ds,j,y,h=>by
  simp only[jG] at h;cases j with
  | zero=>grind
  | succ j=>
   obtain ⟨l',kJ,h1,h2⟩:=abo (j:=j) (by simpa using h);grind
theorem abp {s:VS} {ds:List V} {v:Value} (h:aj P w I β hp v (ov s ds)) (hs:s.safe=true):aj P w I' β hp v (ov s ds):=by
 cases s with
 | one l=>exact h.free (Ht hs)
 | agg ls=>
  simp only[ov] at h⊢;obtain ⟨cs,rfl,e1,e2⟩:=h.nF;refine .agg e1 fun j v x hj hx=> ?_;obtain ⟨l,kJ,k1,rfl⟩:=Hu hx;exact (e2 j v _ hj hx).free (Ht (ib.1 hs l k1))
 | bd ls=>
  simp only[ov] at h⊢;obtain ⟨cs,rfl,e1,e2⟩:=h.zn;refine .bd e1 fun j v x hj hx=> ?_;obtain ⟨l,kJ,k1,rfl⟩:=Hu hx;exact (e2 j v _ hj hx).free (Ht (ib.1 hs l k1))
 | fn f a b=>
  simp only[VS.safe,aJ] at hs;simp only[ov] at h⊢;cases h with
  | fn a1 a2 b1 b2=>
   refine .fn a1 (fun j v x hj hx=> ?_) b1 (fun j v x hj hx=> ?_)
   ·obtain ⟨l,kJ,k1,rfl⟩:=Hu hx;exact (a2 j v _ hj hx).free (Ht (ib.1 hs.1 l k1))
   ·obtain ⟨l,kJ,k1,rfl⟩:=Hu hx;exact (b2 j v _ hj hx).free (Ht (ib.1 hs.2 l k1))
 | pref ts ls=>cases hs
theorem Pure.scalar {t:TypeId} {v:Value} {x:V} (h:Pure P w I t v x) (hn: ∀e,P.underlying t≠some (.slice e)):Pure P w I' t v x:=by
 cases h with
 | int h=>exact .int h
 | bool h=>exact .bool h
 | str h hl=>exact .str h hl
 | nil h=>grind
 | emp h=>grind
 | list g h=>grind
theorem anh {e t:TypeId} {j:Nat} (h:EZ P e=true) (ht:(aU P e)[j]? =some t) (e':TypeId):P.underlying t≠some (.slice e'):=by
 intro hu;have h2:=ib.1 h t (mN ht);grind
theorem ani {o:Option Nat} {b:BS} {ds:List V} (h:fe P w I2 β hp o (iR b ds)) (hs:b.safe P=true) (hi: ∀b j,I b j→I2 b j):fe P w I β hp o (iR b ds):=by
 cases b with
 | dead=>exact .dead
 | var T0 ls=>
  simp only[iR] at h⊢;cases h with
  | var hb hh bc hI hx iT=>
   refine .var hb hh bc (fun j h=>hI j (hi _ j h)) (fun j v x hj dd=> ?_) iT;obtain ⟨l,kJ,k1,rfl⟩:=abo dd;exact abp (hx j v _ hj dd) (ib.1 hs l k1)
 | arr e fz=>
  simp only[BS.safe,aJ,nw] at hs;obtain ⟨rfl,Hs⟩:=hs;simp only[iR] at h⊢;generalize (V.nth ds 0).toList=es at h⊢;cases h with
  | eF hb=>exact .eF hb
  | arr a0 a1 a2 a3 a4 a5 a6 a7=>
   refine .arr a0 a1 a2 a3 a4 (fun h=>by cases h) (fun _ j h=>a6 rfl j (hi _ j h)) fun i j x t' y1 y2 y3=> ?_;obtain ⟨v,z1,z2⟩:=a7 i j x t' y1 y2 y3;exact ⟨v,z1,z2.scalar (anh Hs y2)⟩
 | nest e=>
  simp only[iR] at h⊢;generalize (V.nth ds 0).toList=es at h⊢;cases h with
  | ji hb=>exact .ji hb
  | nest hb cW mn=>
   refine .nest hb (fun q b' e1 m1 hq=> ?_) mn;obtain ⟨ok,⟨Ca,Tc,c1,c0,c2,c3⟩,nI⟩:=cW q b' e1 m1 hq;refine ⟨ok,⟨Ca,Tc,c1,c0,c2,fun i j x t' y1 y2 y3=> ?_⟩,fun j h=>nI j (hi _ j h)⟩;obtain ⟨v,z1,z2⟩:=c3 i j x t' y1 y2 y3;refine ⟨v,z1,?_⟩;generalize cf P e1 x j=y at z2⊢;cases z2 with
   | gB a p=>
    refine .gB a (p.scalar fun e hu=> ?_);unfold dX at a;grind
   | emp a=>exact .emp a
   | row a b c d e=>exact .row a b c d e
 | map t=>
  simp only[iR] at h⊢;cases h with
  | map a1 a2 a3 a4 a5 a6 a7=>exact .map a1 a2 a3 a4 (fun j h=>a5 j (hi _ j h)) a6 a7
theorem M8: ∀{l:List BS} {ds:List V} {j:Nat} {y:ah},(ij l ds)[j]? =some y→∃b kJ,l[j]? =some b∧y=iR b kJ
 | [],ds,j,y,h=>by simp[ij] at h
 | b::l,ds,j,y,h=>by
  simp only[ij] at h;cases j with
  | zero=>grind
  | succ j=>
   obtain ⟨b',kJ,h1,h2⟩:=M8 (j:=j) (by simpa using h);grind
theorem abq: ∀{l:List (Nat×VS)} {ds:List V} {q:Nat×V},q∈jg l ds→∃s kJ,(q.1,s)∈l∧q.2=ov s kJ
 | [],ds,q,h=>by simp[jg] at h
 | (k,s)::l,ds,q,h=>by
  simp only[jg,fl] at h;rcases h with h|h
  ·grind
  ·obtain ⟨s',kJ,h1,h2⟩:=abq h;grind
theorem anj {S:Shape} {es:List V} (hs:S.safe P=true) (hi: ∀b j,I b j→I2 b j) {N:Nat→Prop} {st:Start} (h:aA P w' I2 cF (bM S es).hp B N st) (h0: ∀b j,I b j→st.I b j):
  aA P w' I cF (bM S es).hp B N st∧∀v,aj P w' I2 cF (bM S es).hp v (uj (jg S.cu es))→aj P w' I cF (bM S es).hp v (uj (jg S.cu es)):=by
 unfold Shape.safe at hs;simp only[aJ] at hs;obtain ⟨kZ,qo⟩:=hs;have one: ∀q∈jg S.cu es,∀v,aj P w' I2 cF (bM S es).hp v q.2→aj P w' I cF (bM S es).hp v q.2:=by
  intro q hq v hv;obtain ⟨s,kJ,k1,k2⟩:=abq hq;rw[k2] at hv⊢;exact abp hv (ib.1 kZ _ k1)
 refine ⟨⟨⟨fun j blk hj=> ?_,h.h.inj,h.h.own,fun b j hb=>h.h.jY b j (hi b j hb)⟩,h.cM,h.size,fun b j hb=> .inl (h0 b j hb),h.io⟩,fun v hv=> ?_⟩
 ·have hr:=h.h.rel j blk hj;have fY:=hj;simp only[bM,mk,ln] at fY;obtain ⟨b,kJ,k1,rfl⟩:=M8 fY;exact ani hr (ib.1 qo _ (mN k1)) hi
 ·generalize jg S.cu es=l at one hv⊢
  match l,one,hv with
  | [],_,hv=>
   simp only[uj,List.map_nil] at hv⊢;obtain ⟨cs,rfl,e1,e2⟩:=hv.zn;exact .bd e1 fun j v x _ hx=>by simp at hx
  | [q],one,hv=>exact one q (fS.2 rfl) v hv
  | q::q2::l,one,hv=>
   simp only[uj] at hv⊢;obtain ⟨cs,rfl,e1,e2⟩:=hv.zn;refine .bd e1 fun j v x hj hx=> ?_;grind
end
section
variable {P:Program} {A:dr} {w w':World} {I I' I2:Nat→Nat→Prop} {μ β β' cF:Nat→Option Nat} {hp hp' hp0 bL:Nat→Option ah} {C:af} {B:Nat} {M:Nat→Prop} {w0:Start}
inductive jS (σ:List Place):ah→ah→Prop
 | dead:jS σ .dead .dead
 | var {T:TypeId} {cs:List V}:jS σ (.var T cs) (.var T (cs.map (KH σ)))
 | arr {e:TypeId} {es:List V} {fz:Bool}:jS σ (.arr e es fz) (.arr e es fz)
 | nest {e:TypeId} {es:List V} {v1 v2:List Nat}:jS σ (.nest e es v1) (.nest e es v2)
 | map {t:TypeId} {es:List V}:jS σ (.map t es) (.map t es)
 | out {e:TypeId} {es:List V} {vs:List Nat} {i:Nat}:jS σ (.out e es vs i) .dead
theorem jS.of (σ:List Place) (b:ah):jS σ b (za σ b):=by
 cases b with
 | dead=>exact .dead
 | var T cs=>exact .var
 | arr e es fz=>exact .arr
 | nest e es v=>exact .nest
 | map t es=>exact .map
 | out e es vs i=>exact .out
theorem abr {σ:List Place}: ∀{pl:List Place} {bs:List ah} {acc:List (Nat×ah)} {k:List (Nat×ah)→Rd R} {r:R} {rd:List Nat},(vJ σ pl bs acc k).run C hp=some (r,rd)→
  pl.length≤bs.length∧∃bk gS,(k bk).run C hp=some (r,gS)∧(∀q∈bk,q∈acc∨∃(j:Nat) (b:ah),pl[j]? =some (.blk q.1)∧bs[j]? =some b∧jS σ b q.2∧((∃e es v2,q.2= .nest e es v2)→∃e es vers e' aK,hp q.1=some (.nest e es vers)∧q.2= .nest e' aK (vers.map (· +1))))∧
   (∀q∈acc,q∈bk)∧∀(j:Nat) p,pl[j]? =some p→∃id b,p= .blk id∧(id,b)∈bk
 | [],bs,acc,k,r,rd,h=>⟨mi _,acc,rd,by simpa only[vJ] using h,fun q hq=> .inl hq,fun q hq=>hq,fun j p hp=>by simp at hp⟩
 | .row _ _ _::pl,bs,acc,k,r,rd,h=>by
  cases bs<;>(simp only[vJ] at h;cases h)
 | .blk id::pl,[],acc,k,r,rd,h=>by simp only[vJ] at h;cases h
 | .blk id::pl,b::bs,acc,k,r,rd,h=>by
  have fin: ∀{b2:ah} {jR:List Nat},(vJ σ pl bs ((id,b2)::acc) k).run C hp=some (r,jR)→jS σ b b2→((∃e es v2,b2= .nest e es v2)→∃e es vers e' aK,hp id=some (.nest e es vers)∧b2= .nest e' aK (vers.map (· +1)))→
    (Place.blk id::pl).length≤(b::bs).length∧∃bk gS,(k bk).run C hp=some (r,gS)∧(∀q∈bk,q∈acc∨∃(j:Nat) (b':ah),(Place.blk id::pl)[j]? =some (.blk q.1)∧(b::bs)[j]? =some b'∧jS σ b' q.2∧((∃e es v2,q.2= .nest e es v2)→∃e es vers e' aK,hp q.1=some (.nest e es vers)∧q.2= .nest e' aK (vers.map (· +1))))∧
     (∀q∈acc,q∈bk)∧∀(j:Nat) p,(Place.blk id::pl)[j]? =some p→∃id b,p= .blk id∧(id,b)∈bk:=by
   intro b2 jR h1 hb hn;obtain ⟨a0,bk,gS,a1,a2,a3,a4⟩:=abr h1;refine ⟨by simp only[List.length_cons];omega,bk,gS,a1,fun q hq=> ?_,fun q hq=>a3 q (jA _ hq),fun j p hj=> ?_⟩
   ·rcases a2 q hq with h|⟨j,b',k1,k2,k3,k4⟩
    ·rcases fl.1 h with e|h
     ·subst e;exact .inr ⟨0,b,rfl,rfl,hb,hn⟩
     ·exact .inl h
    ·exact .inr ⟨j+1,b',by simpa using k1,by simpa using k2,k3,k4⟩
   ·cases j with
    | zero=>simp at hj;subst hj;exact ⟨id,b2,rfl,a3 _ (pG ..)⟩
    | succ j=>exact a4 j p (by simpa using hj)
  cases b with
  | nest e es v=>
   simp only[vJ] at h;obtain ⟨l,h⟩:=run_get h;cases ae:hp id with
   | none=>rw[ae] at h;cases h
   | some blk=>
    rw[ae] at h;cases blk with
    | nest e0 MI vers=>exact fin h .nest fun _=>⟨e0,MI,vers,e,es,ae,rfl⟩
    | _=>cases h
  | dead=>exact fin h (.of σ _) fun ⟨_,_,_,h⟩=>by cases h
  | var T cs=>exact fin h (.of σ _) fun ⟨_,_,_,h⟩=>by cases h
  | arr e es fz=>exact fin h (.of σ _) fun ⟨_,_,_,h⟩=>by cases h
  | map t es=>exact fin h (.of σ _) fun ⟨_,_,_,h⟩=>by cases h
  | out e es vs i=>exact fin h (.of σ _) fun ⟨_,_,_,h⟩=>by cases h
theorem abt {σ:List Place}: ∀{bs:List ah} {n:Nat} {q:Nat×ah},q∈vK σ n bs→∃i b,bs[i]? =some b∧q=(n+i,za σ b)
 | [],n,q,h=>by simp[vK] at h
 | b::bs,n,q,h=>by
  simp only[vK,fl] at h;rcases h with h|h
  ·exact ⟨0,b,rfl,h⟩
  ·obtain ⟨i,b',h1,h2⟩:=abt h;exact ⟨i+1,b',by simpa using h1,by rw[h2];congr 1;omega⟩
theorem abu {σ:List Place}: ∀{bs:List ah} {n i:Nat} {b:ah},bs[i]? =some b→(n+i,za σ b)∈vK σ n bs
 | [],n,i,b,h=>by simp at h
 | b0::bs,n,i,b,h=>by
  simp only[vK,fl];cases i with
  | zero=>simp at h;subst h;exact .inl rfl
  | succ i=>exact .inr (by rw[show n+(i+1)=n+1+i by omega];exact abu (by simpa using h))
theorem M9: ∀{k n i:Nat},i<k→(xE n k)[i]? =some (.blk (n+i))
 | 0,n,i,h=>by omega
 | k+1,n,0,h=>rfl
 | k+1,n,i+1,h=>by
  simp only[xE,List.getElem?_cons_succ];rw[M9 (by omega)];congr 2;omega
theorem SX: ∀{k n:Nat},(xE n k).length=k
 | 0,_=>rfl
 | k+1,n=>by simp[xE,SX]
theorem abv: ∀{bs:List (Nat×ah)} {k:Rd R} {r:R} {rd:List Nat},(KI bs k).run C hp=some (r,rd)→(∀q∈bs,hp q.1=none)∧∃gS,k.run C hp=some (r,gS)
 | [],k,r,rd,h=>⟨by simp,rd,h⟩
 | (id,b)::l,k,r,rd,h=>by
  simp only[KI] at h;obtain ⟨l1,h⟩:=run_get h;cases ae:hp id with
  | some blk=>rw[ae] at h;cases h
  | none=>
   rw[ae] at h;obtain ⟨h1,h2⟩:=abv h;refine ⟨fun q hq=> ?_,h2⟩;rcases fl.1 hq with e|hq
   ·subst e;exact ae
   ·exact h1 q hq
structure uY (σ:List Place) (cF:Nat→Option Nat) (bL:Nat→Option ah) (β':Nat→Option Nat) (hp':Nat→Option ah):Prop where
 blk: ∀j b,bL j=some b→∃id b',gz σ j=some (.blk id)∧hp' id=some b'∧jS σ b b'∧(b≠ .dead→β' id=cF j)
 none: ∀j,bL j=none→gz σ j=none
 aAk: ∀j id ver path,gz σ j≠some (.row id ver path)
theorem uY.leaf {σ:List Place} (T:uY σ cF bL β' hp') {v:Value} {x:V} (h:aj P w I cF bL v x):aj P w I β' hp' v (mR σ x):=by
 have look: ∀{j b},bL j=some b→∃id b',gz σ j=some (.blk id)∧hp' id=some b'∧jS σ b b'∧(b≠ .dead→β' id=cF j):=fun h=>T.blk _ _ h;cases h with
 | undef=>exact .undef
 | int=>exact .int
 | bool=>exact .bool
 | str h=>exact .str h
 | list h=>exact .list h
 | nilS=>exact .nilS
 | nl h h0=>exact .nl h h0
 | agg=>exact .undef
 | bd=>exact .undef
 | eJ=>exact .eJ
 | fn=>exact .undef
 | pref a b c=>exact .pref a b c
 | @dZ _ e j h=>
  obtain ⟨id,b',k1,k2,k3,k4⟩:=look h;simp only[mR,k1];cases k3;exact .dZ k2
 | @jK _ e j _ _ h=>
  obtain ⟨id,b',k1,k2,k3,k4⟩:=look h;simp only[mR,k1];cases k3;exact .jK k2
 | @mV _ j _ _ h=>
  obtain ⟨id,b',k1,k2,k3,k4⟩:=look h;simp only[mR,k1];cases k3;exact .mV k2
 | @dV e j fz _ h hb=>
  obtain ⟨id,b',k1,k2,k3,k4⟩:=look h;simp only[mR,k1];cases k3;exact .dV k2 ((k4 (by simp)).trans hb)
 | @whole e j es fz b cap h hb a1 a2 a3=>
  obtain ⟨id,b',k1,k2,k3,k4⟩:=look h;simp only[mR,k1];cases k3;exact .whole k2 ((k4 (by simp)).trans hb) a1 a2 a3
 | @dO e j es vers b cap h hb a1 a2 a3=>
  obtain ⟨id,b',k1,k2,k3,k4⟩:=look h;simp only[mR,k1];cases k3;exact .dO k2 ((k4 (by simp)).trans hb) a1 a2 a3
 | @fG e j i es vers b cap h hb a1 a2 a3=>
  obtain ⟨id,b',k1,k2,k3,k4⟩:=look h;simp only[mR,k1];cases k3;exact .dZ k2
 | @ee e j vers _ h hb=>
  obtain ⟨id,b',k1,k2,k3,k4⟩:=look h;simp only[mR,k1];cases k3;exact .ee k2 ((k4 (by simp)).trans hb)
 | @jh e j fz _ h hb=>
  obtain ⟨id,b',k1,k2,k3,k4⟩:=look h;simp only[mR,k1];cases k3;exact .jh k2 ((k4 (by simp)).trans hb)
 | @sub e j off len es fz b o cap h hb a1 a2 a3=>
  obtain ⟨id,b',k1,k2,k3,k4⟩:=look h;simp only[mR,k1];cases k3;exact .sub k2 ((k4 (by simp)).trans hb) a1 a2 a3
 | @ptr j i c b blk h hd hb=>
  obtain ⟨id,b',k1,k2,k3,k4⟩:=look h;simp only[mR,k1];by_cases fU:b'= .dead
  ·subst fU;exact .mV k2
  have hs:blk.sz P=b'.sz P:=by cases k3<;>first|rfl|exact absurd rfl fU
  rw[hs];exact .ptr k2 fU ((k4 hd).trans hb)
 | mW=>exact .undef
 | mX=>exact .undef
 | row=>exact .undef
 | dF=>exact .undef
 | fc=>exact .fc
 | @lJ _ t j h=>
  obtain ⟨id,b',k1,k2,k3,k4⟩:=look h;simp only[mR,k1];cases k3;exact .lJ k2
 | @cK t j b es h hb=>
  obtain ⟨id,b',k1,k2,k3,k4⟩:=look h;simp only[mR,k1];cases k3;exact .cK k2 ((k4 (by simp)).trans hb)
theorem uY.one {σ:List Place} (T:uY σ cF bL β' hp') {v:Value} {x:V} (h:aj P w I cF bL v x):aj P w I β' hp' v (Qi σ x):=by
 cases x with
 | agg xs=>
  obtain ⟨cs,rfl,e1,e2⟩:=h.nF;exact .agg (by simpa using e1) fun j v y hj hy=>by
   rw[ki] at hy;cases hx:xs[j]? with
   | none=>rw[hx] at hy;cases hy
   | some x=>rw[hx] at hy;cases hy;exact T.leaf (e2 j v x hj hx)
 | fn f a b=>
  cases h with
  | fn a1 a2 b1 b2=>
   refine .fn (by simpa using a1) (fun j v y hj hy=> ?_) (by simpa using b1) (fun j v y hj hy=> ?_)
   ·rw[ki] at hy;cases hx:a[j]? with
    | none=>rw[hx] at hy;cases hy
    | some x=>rw[hx] at hy;cases hy;exact T.leaf (a2 j v x hj hx)
   ·rw[ki] at hy;cases hx:b[j]? with
    | none=>rw[hx] at hy;cases hy
    | some x=>rw[hx] at hy;cases hy;exact T.leaf (b2 j v x hj hx)
 | _=>exact T.leaf h
theorem uY.val {σ:List Place} (T:uY σ cF bL β' hp') {v:Value} {x:V} (h:aj P w I cF bL v x):aj P w I β' hp' v (KH σ x):=by
 cases x with
 | bd xs=>
  obtain ⟨cs,rfl,e1,e2⟩:=h.zn;exact .bd (by simpa using e1) fun j v y hj hy=>by
   rw[ki] at hy;cases hx:xs[j]? with
   | none=>rw[hx] at hy;cases hy
   | some x=>rw[hx] at hy;cases hy;exact T.one (e2 j v x hj hx)
 | _=>exact T.one h
theorem uY.abw {σ:List Place} (T:uY σ cF bL β' hp') {o:Option Nat} {b b':ah} (h:fe P w I cF bL o b) (hb:jS σ b b'):fe P w I β' hp' o b':=by
 cases hb with
 | dead=>exact .dead
 | var=>
  cases h with
  | var a1 a2 a3 a4 a5 a6=>
   refine .var a1 a2 (by simpa using a3) a4 (fun j v y hj hy=> ?_) a6;rw[ki] at hy;cases hx:(_:List V)[j]? with
   | none=>rw[hx] at hy;cases hy
   | some x=>rw[hx] at hy;cases hy;exact T.val (a5 j v x hj hx)
 | arr=>
  cases h with
  | eF hb=>exact .eF hb
  | arr a0 a1 a2 a3 a4 a5 a6 a7=>exact .arr a0 a1 a2 a3 a4 a5 a6 a7
 | nest=>
  cases h with
  | nest a1 a2 a3=>exact .nest a1 a2 a3
  | ji a1=>exact .ji a1
 | map=>
  cases h with
  | map a1 a2 a3 a4 a5 a6 a7=>exact .map a1 a2 a3 a4 a5 a6 a7
 | out=>exact .dead
theorem jS.Ai {σ:List Place} {o:Option Nat} {b b':ah} (h:jS σ b b') {m:Nat} (ho:bf P w o b' m):bf P w o b m:=by
 cases h with
 | dead=>exact absurd rfl ho.alive
 | var=>exact .root (by simp) (ho.flat (by simp))
 | arr=>exact .root (by simp) (ho.flat (by simp))
 | map=>exact .root (by simp) (ho.flat (by simp))
 | out=>exact absurd rfl ho.alive
 | nest=>
  cases ho with
  | root _ hb=>exact .root (by simp) hb
  | row hb ha=>exact .row hb ha
theorem jS.abx {σ:List Place} {b b':ah} (h:jS σ b b'):b'≠ .dead→b≠ .dead:=by
 intro h1 h2;subst h2;cases h;exact h1 rfl
end
section
variable {P:Program} {A:dr} {w w':World} {I I' I2:Nat→Nat→Prop} {μ β β' cF:Nat→Option Nat} {hp hp' hp0 bL:Nat→Option ah} {C:af} {B:Nat} {M:Nat→Prop} {w0:Start}
theorem aby: ∀{vs:List Nat} {k:Nat},k<vs.length→bz (vs.map (· +1)) k=bz vs k+1
 | [],k,h=>by simp at h
 | v::vs,0,h=>rfl
 | v::vs,k+1,h=>by simp only[lD,bz];exact aby (by grind)
theorem abz: ∀{vs:List Nat} {k:Nat},bz vs k≤bz (vs.map (· +1)) k
 | [],k=>by grind
 | v::vs,0=>by simp[bz]
 | v::vs,k+1=>by simp only[lD,bz];exact abz
def Hv (hp:Nat→Option ah) (q:Nat×ah):Prop:=(∃e es v2,q.2= .nest e es v2)→∃e es vers e' aK,hp q.1=some (.nest e es vers)∧q.2= .nest e' aK (vers.map (· +1))
theorem gq.SY {id:Nat} {o:Option Nat} {blk:ah} (h:gq P w β hp (.blk id) o blk):o=β id∧∃b0,hp id=some b0∧b0≠ .dead:=by
 cases h with
 | var h=>grind
 | arr h=>grind
 | nest h=>grind
 | map h=>grind
theorem gq.ank {id:Nat} {o:Option Nat} {c b b' b0:ah} {σ:List Place} (h:gq P w β hp (.blk id) o c) (h0:hp id=some b0) (hle:c.le b) (hb:jS σ b b') (hn:Hv hp (id,b')):b0.le b':=by
 cases h with
 | var h=>
  rw[h] at h0;cases h0;cases hb with
  | dead=>trivial
  | out=>trivial
  | var=>trivial
  | arr=>exact hle.elim
  | nest=>exact hle.elim
  | map=>exact hle.elim
 | arr h=>
  rw[h] at h0;cases h0;cases hb with
  | dead=>trivial
  | out=>trivial
  | var=>exact hle.elim
  | arr=>exact hle
  | nest=>exact hle.elim
  | map=>omega
 | map h=>
  rw[h] at h0;cases h0;cases hb with
  | dead=>trivial
  | out=>trivial
  | map=>exact hle
  | _=>exact hle.elim
 | nest h=>
  rw[h] at h0;cases h0;cases hb with
  | dead=>trivial
  | out=>trivial
  | var=>exact hle.elim
  | arr=>exact hle
  | map=>exact hle.elim
  | @nest e es v1 v2=>
   obtain ⟨e1,dh,xO,e2,bW,k1,k2⟩:=hn ⟨_,_,_,rfl⟩;cases k2;change hp id=_ at k1;rw[h] at k1;cases k1;exact ⟨hle.1,hle.2.1,by simp,fun k=>abz⟩
theorem gq.other {p:Place} {o:Option Nat} {blk:ah} (h:gq P w β hp p o blk) (he:hp' p.id=hp p.id):gq P w β hp' p o blk:=by
 cases h with
 | var h=>exact .var (he.trans h)
 | arr h=>exact .arr (he.trans h)
 | nest h=>exact .nest (he.trans h)
 | map h=>exact .map (he.trans h)
 | row h a b c d e f g=>exact .row (he.trans h) a b c d e f g
open Classical in
theorem abA (S:aA P w I β hp B M w0) {pl:List Place} {o:Nat→Option Nat} {bs:List ah} {nb:Nat} {bk fr:List (Nat×ah)} {σ:List Place} (wG:σ=pl++xE nb (bs.length-pl.length)) (Hw:fr=vK σ nb (bs.drop pl.length))
  (oM:(pl.map Place.id).Nodup) (s8:pl.length≤bs.length)
  (CM: ∀(j:Nat) p,pl[j]? =some p→∃id b,p= .blk id∧(id,b)∈bk) (wH: ∀q∈bk,∃(j:Nat) (b:ah),pl[j]? =some (.blk q.1)∧bs[j]? =some b∧jS σ b q.2∧Hv hp q)
  (hl: ∀j blk,hp0 j=some blk→∃p,gz pl j=some p∧gq P w β hp p (o j) blk) (hd: ∀j,j<pl.length→∃blk,hp0 j=some blk)
  (Sc:aA P w' I2 cF (nC bs) w.heap.size (tH P w o hp0) ⟨w,I⟩) (Du:pd w I o hp0 w' I2 cF (nC bs)) (Dv: ∀q∈fr,hp q.1=none):
  ∃β',Le P w I β hp w' I2 β' (cb hp (fr++bk))∧aA P w' I2 β' (cb hp (fr++bk)) B M w0∧uY σ cF (nC bs) β' (cb hp (fr++bk)):=by
 generalize SZ:cb hp (fr++bk)=gj
 let β':Nat→Option Nat:=fun n=>if∃q∈fr,q.1=n then cF (pl.length+(n-nb)) else β n
 have abB: ∀(j:Nat) id,pl[j]? =some (.blk id)→∃c,hp0 j=some c∧gq P w β hp (.blk id) (o j) c:=by
  intro j id hj;obtain ⟨c,hc⟩:=hd j (cz.1 hj).1;obtain ⟨p,h1,h2⟩:=hl j c hc;rw[qp,hj] at h1;cases h1;exact ⟨c,hc,h2⟩
 have uniq: ∀(j1 j2:Nat) id,pl[j1]? =some (.blk id)→pl[j2]? =some (.blk id)→j1=j2:=by
  intro j1 j2 id h1 h2;have m1:(pl.map Place.id)[j1]? =some id:=by rw[ki,h1];rfl
  have m2:(pl.map Place.id)[j2]? =some id:=by rw[ki,h2];rfl
  obtain ⟨z1,z2⟩:=cz.1 m1;obtain ⟨z3,z4⟩:=cz.1 m2;exact (List.getElem_inj oM).1 (z2.trans z4.symm)
 have cls: ∀id,(∃i b,id=nb+i∧bs[pl.length+i]? =some b∧gj id=some (za σ b)∧hp id=none∧β' id=cF (pl.length+i))∨
   (∃(j:Nat) (b b' c b0:ah),pl[j]? =some (.blk id)∧bs[j]? =some b∧hp0 j=some c∧gq P w β hp (.blk id) (o j) c∧hp id=some b0∧b0.le b'∧gj id=some b'∧jS σ b b'∧Hv hp (id,b')∧β' id=β id∧c.le b∧(b≠ .dead→cF j=β id))∨
   (gj id=hp id∧(∀j:Nat,pl[j]? ≠some (.blk id))∧β' id=β id):=by
  intro id;by_cases hm: ∃b,(id,b)∈fr++bk
  ·obtain ⟨b,hm⟩:=hm;obtain ⟨b',KV,he⟩:=KS (hp:=hp) hm;rw[SZ] at he;rcases fj.1 KV with h|h
   ·have h0:=Dv _ h;have tI:β' id=cF (pl.length+(id-nb)):=aB ⟨_,h,rfl⟩;rw[Hw] at h;obtain ⟨i,b1,k1,k2⟩:=abt h;rw[rM] at k1;cases k2;exact .inl ⟨i,b1,rfl,k1,he,h0,by rw[tI];congr 2;omega⟩
   ·obtain ⟨j,b1,q1,q2,q3,q4⟩:=wH _ h;obtain ⟨c,c1,c2⟩:=abB j id q1;obtain ⟨c3,b0,c4,c5⟩:=c2.SY;obtain ⟨b2,d1,d2,d3⟩:=Du.blk j c c1;rw[ln,q2] at d1;cases d1;refine .inr (.inl ⟨j,b1,b',c,b0,q1,q2,c1,c2,c4,c2.ank c4 d2 q3 q4,he,q3,q4,ax ?_,d2,fun h=>(d3 h).trans c3⟩);rintro ⟨q,hq,hqe⟩;rw[←hqe,Dv q hq] at c4;cases c4
  ·refine .inr (.inr ⟨?_,fun j hj=> ?_,ax ?_⟩)
   ·rcases xN (hp:=hp) (l:=fr++bk) (id:=id) with h|⟨b,hb,_⟩
    ·rw[SZ] at h;exact h
    ·exact absurd ⟨b,hb⟩ hm
   ·obtain ⟨ar,b,e,hb⟩:=CM j _ hj;cases e;exact hm ⟨b,fj.2 (.inr hb)⟩
   ·rintro ⟨q,hq,rfl⟩;exact hm ⟨q.2,fj.2 (.inl hq)⟩
 have abC: ∀b,tH P w o hp0 b→∃(j id:Nat) (b1:ah),pl[j]? =some (.blk id)∧hp id=some b1∧bf P w (β id) b1 b:=by
  rintro b ⟨j,c,hc,ho⟩;obtain ⟨p,h1,h2⟩:=hl j c hc;rw[qp] at h1;obtain ⟨id,b2,rfl,_⟩:=CM j p h1;obtain ⟨b1,k1,k2,_⟩:=h2.Ai ho;exact ⟨j,id,b1,h1,k1,k2⟩
 have other: ∀id blk b,hp id=some blk→bf P w (β id) blk b→(∀j:Nat,pl[j]? ≠some (.blk id))→¬tH P w o hp0 b∧w'.heap[b]? =w.heap[b]? ∧(∀j,I2 b j→I b j):=by
  intro id blk b e1 e3 e4;have uZ: ¬tH P w o hp0 b:=by
   intro hx;obtain ⟨j,ar,b1,i1,i2,i3⟩:=abC b hx;have:=S.h.inj id ar _ _ b e1 i2 e3 i3;subst this;exact e4 j i1
  have aP:=S.h.lt e1 e3;refine ⟨uZ,Sc.cM b aP uZ,fun j h=> ?_⟩;rcases Sc.new b j h with h|h|h
  ·exact h
  ·exact absurd h uZ
  ·omega
 have yj:uY σ cF (nC bs) β' gj:=by
  refine ⟨fun j b hj=> ?_,fun j hj=> ?_,fun j id ver path hj=> ?_⟩
  ·rw[ln] at hj;by_cases dk:j<pl.length
   ·obtain ⟨id,b1,e,sk⟩:=CM j _ (bY dk);have Na:pl[j]? =some (.blk id):=by rw[bY dk,e]
    have S0:gz σ j=some (.blk id):=by rw[wG];exact tF (by rw[qp];exact Na)
    rcases cls id with ⟨i,b2,c1,c2,c3,c4,c5⟩|⟨j',b2,b',c,b0,q1,q2,q3,q4,q5,q6,q7,q8,q9,u4,Dw,wI⟩|⟨c1,c2,c3⟩
    ·obtain ⟨c,d1,d2⟩:=abB j id Na;obtain ⟨_,b0,d3,_⟩:=d2.SY;rw[d3] at c4;cases c4
    ·obtain rfl:=uniq _ _ _ q1 Na;rw[hj] at q2;cases q2;exact ⟨id,b',S0,q7,q8,fun h=>u4.trans (wI h).symm⟩
    ·exact absurd Na (c2 j)
   ·have hjb:=(cz.1 hj).1;have S0:gz σ j=some (.blk (nb+(j-pl.length))):=by
     rw[wG,qp,oV (by omega)];exact M9 (by omega)
    have hm:(nb+(j-pl.length),za σ b)∈fr:=by
     rw[Hw];refine abu ?_;rw[rM,show pl.length+(j-pl.length)=j by omega];exact hj
    rcases cls (nb+(j-pl.length)) with ⟨i,b2,c1,c2,c3,c4,c5⟩|⟨j',b2,b',c,b0,q1,q2,q3,q4,q5,q6,q7,q8,q9,u4,Dw,wI⟩|⟨c1,c2,c3⟩
    ·have hi:i=j-pl.length:=by omega
     subst hi;rw[show pl.length+(j-pl.length)=j by omega] at c2 c5;rw[hj] at c2;cases c2;exact ⟨_,_,S0,c3,.of σ _,fun _=>c5⟩
    ·rw[Dv _ hm] at q5;cases q5
    ·obtain ⟨b',KV,he⟩:=KS (hp:=hp) (l:=fr++bk) (fj.2 (.inl hm));rw[SZ,c1,Dv _ hm] at he;cases he
  ·rw[ln] at hj;have:=List.getElem?_eq_none_iff.1 hj;rw[wG,qp,List.getElem?_eq_none_iff,hY,SX];omega
  ·rw[wG,qp] at hj;by_cases dk:j<pl.length
   ·rw[nz dk] at hj;obtain ⟨ar,b1,e,_⟩:=CM j _ hj;cases e
   ·have hjb:j-pl.length<bs.length-pl.length:=by
     have:=(cz.1 hj).1;rw[hY,SX] at this;omega
    rw[oV (by omega),M9 hjb] at hj;cases hj
 have hle:Le P w I β hp w' I2 β' gj:=by
  refine ⟨Du.en,Du.cM,fun id blk ae=> ?_,fun id blk blk' b ae bX wJ hb=> ?_,fun id e es vers e' aK vers' b q i c t v e1 l ae bX hb aP hv ht hc=> ?_⟩
  ·rcases cls id with ⟨i,b2,c1,c2,c3,c4,c5⟩|⟨j',b2,b',c,b0,q1,q2,q3,q4,q5,q6,q7,q8,q9,u4,Dw,wI⟩|⟨c1,c2,c3⟩
   ·rw[ae] at c4;cases c4
   ·rw[ae] at q5;cases q5;exact ⟨b',q7,q6,fun _=>u4⟩
   ·exact ⟨blk,c1.trans ae,ah.le_refl _,fun _=>c3⟩
  ·rcases cls id with ⟨i,b2,c1,c2,c3,c4,c5⟩|⟨j',b2,b',c,b0,q1,q2,q3,q4,q5,q6,q7,q8,q9,u4,Dw,wI⟩|⟨c1,c2,c3⟩
   ·rw[ae] at c4;cases c4
   ·rw[q7] at bX;cases bX;exact Du.size j' c b2 b q3 (by rw[ln];exact q2) (q8.abx wJ) (q4.SY.1.trans hb)
   ·rw[c1,ae] at bX;cases bX;simp only[bsize,(other id blk b ae (.root wJ hb) c2).2.1]
  ·rcases cls id with ⟨i2,b2,c1,c2,c3,c4,c5⟩|⟨j',b2,b',c',b0,q1,q2,q3,q4,q5,q6,q7,q8,q9,u4,Dw,wI⟩|⟨c1,c2,c3⟩
   ·rw[ae] at c4;cases c4
   ·rw[q7] at bX;cases bX;obtain ⟨_,_,xO,_,_,k1,k2⟩:=q9 ⟨_,_,_,rfl⟩;change hp id=_ at k1;rw[ae] at k1;cases k1;cases k2;rw[aby aP] at hv;omega
   ·rw[c1,ae] at bX;cases bX;exact ⟨l,rfl,hc.mono fun _ _ _ _ h=>(other id _ _ ae (.row hb h) c2).2.1⟩
 have place: ∀id blk b,gj id=some blk→bf P w' (β' id) blk b→(∃j c,nC bs j=some c∧bf P w' (cF j) c b∧gz σ j=some (.blk id))∨(b<w.heap.size∧¬tH P w o hp0 b∧hp id=some blk∧bf P w (β id) blk b):=by
  intro id blk b e1 e3;rcases cls id with ⟨i,b2,c1,c2,c3,c4,c5⟩|⟨j',b2,b',c,b0,q1,q2,q3,q4,q5,q6,q7,q8,q9,u4,Dw,wI⟩|⟨c1,c2,c3⟩
  ·rw[c3] at e1;cases e1;rw[c5] at e3;refine .inl ⟨pl.length+i,b2,by rw[ln];exact c2,(jS.of σ b2).Ai e3,?_⟩;have:=(cz.1 c2).1;rw[wG,qp,oV (by omega),M9 (by omega),c1];congr 3;omega
  ·rw[q7] at e1;cases e1;have wJ:b2≠ .dead:=q8.abx e3.alive;rw[u4,←wI wJ] at e3;exact .inl ⟨j',b2,by rw[ln];exact q2,q8.Ai e3,by rw[wG];exact tF (by rw[qp];exact q1)⟩
  ·rw[c1] at e1;rw[c3] at e3;have:=e3.mono (w:=w) fun b hb=>(other id blk b e1 hb c2).2.1;exact .inr ⟨S.h.lt e1 this,(other id blk b e1 this c2).1,e1,this⟩
 have xL: ∀b,tH P w o hp0 b∨w.heap.size≤b→M b∨B≤b:=by
  rintro b (h|h)
  ·obtain ⟨j,id,b1,i1,i2,i3⟩:=abC b h;exact S.h.own id b1 b i2 i3
  ·exact .inr (mM S.size h)
 have S3: ∀j c b,nC bs j=some c→bf P w' (cF j) c b→tH P w o hp0 b∨w.heap.size≤b:=fun j c b h1 h2=>Sc.h.own j c b h1 h2;refine ⟨β',hle,⟨⟨fun id blk ae=> ?_,fun i1 i2 b1 b2 b e1 e2 f1 f2=> ?_,fun id blk b ae hb=> ?_,Sc.h.jY⟩,fun b hb hM=> ?_,mM S.size Sc.size,fun b j hb=> ?_,⟨Sc.io.1.trans S.io.1,Sc.io.2.trans S.io.2⟩⟩,yj⟩
 ·rcases cls id with ⟨i,b2,c1,c2,c3,c4,c5⟩|⟨j',b2,b',c,b0,q1,q2,q3,q4,q5,q6,q7,q8,q9,u4,Dw,wI⟩|⟨c1,c2,c3⟩
  ·rw[c3] at ae;cases ae;rw[c5];exact yj.abw (Sc.h.rel _ b2 (by rw[ln];exact c2)) (.of σ b2)
  ·rw[q7] at ae;cases ae;have:=yj.abw (Sc.h.rel j' b2 (by rw[ln];exact q2)) q8;by_cases wJ:b2= .dead
   ·subst wJ;cases q8;exact .dead
   ·rw[u4,←wI wJ];exact this
  ·rw[c1] at ae;rw[c3];exact (S.h.rel id blk ae).mono hle fun b hb=>(other id blk b ae hb c2).2
 ·rcases place i1 b1 b e1 f1 with ⟨j1,c1,g1,g2,g3⟩|⟨g1,g2,g3,g4⟩<;>rcases place i2 b2 b e2 f2 with ⟨j2,c2,k1,k2,k3⟩|⟨k1,k2,k3,k4⟩
  ·have:=Sc.h.inj j1 j2 c1 c2 b g1 k1 g2 k2;subst this;rw[g3] at k3;cases k3;rfl
  ·rcases S3 j1 c1 b g1 g2 with h|h
   ·exact absurd h k2
   ·omega
  ·rcases S3 j2 c2 b k1 k2 with h|h
   ·exact absurd h g2
   ·omega
  ·exact S.h.inj i1 i2 _ _ b g3 k3 g4 k4
 ·rcases place id blk b ae hb with ⟨j1,c1,g1,g2,g3⟩|⟨g1,g2,g3,g4⟩
  ·exact xL b (S3 j1 c1 b g1 g2)
  ·exact S.h.own id blk b g3 g4
 ·refine (Sc.cM b (oq hb S.size) fun hx=> ?_).trans (S.cM b hb hM)
  rcases xL b (.inl hx) with h|h
  ·exact hM h
  ·omega
 ·rcases Sc.new b j hb with h|h|h
  ·exact S.new b j h
  ·exact .inr (xL b (.inl h))
  ·exact .inr (xL b (.inr h))
end
section
variable {P:Program} {A:dr} {w w':World} {I I' I2:Nat→Nat→Prop} {μ β β' cF:Nat→Option Nat} {hp hp' hp0 bL:Nat→Option ah} {C:af} {B:Nat} {M:Nat→Prop} {w0:Start}
theorem abD (hp:Nat→Option ah): ∀(a b:List (Nat×ah)),cb hp (a++b)=cb (cb hp b) a
 | [],b=>rfl
 | (i,x)::a,b=>by simp only[List.cons_append,cb,abD hp a b]
theorem Dx {hp:Nat→Option ah} {l:List (Nat×ah)} {id:Nat} (h: ∀q∈l,q.1≠id):cb hp l id=hp id:=by
 rcases xN (hp:=hp) (l:=l) (id:=id) with h1|⟨b,hb,_⟩
 all_goals grind
def Aj (P : Program) : Prop := ∀ (f : Nat) fn, P.funcs[f]? = some fn → (fn.name == "runtime.NumGoroutine") = false
def Nb (P:Program) (f:FuncId) (e:TypeId):Prop:=
 (∀args w,(callFunc f args).run P w= .ok (.enter f args) w)∧∃t,P.underlying t=some (.slice e)∧
  ∀(s:Value) (w:World) (Q:Ending→World→Prop),(s= .slice none 0 0→Q (.returned (.slice none 0 0)) w)→
   (∀a n c,s= .slice (some a) n c→∃v w',(Builtin.append_ #[t,t] t #[.slice (some ⟨w.heap.size,0,none⟩) 0 0,s]).run P (w.alloc (.cells #[] e))= .ok v w'∧Q (.returned v) w')→
   (s= .slice none 0 0∨∃a n c,s= .slice (some a) n c)→Calls P f #[s] w Q
structure lr (P:Program) (A:dr):Prop where
 count:Aj P
 ext: ∀f T,A.ext f=some T→∀(b:Nat) (C:Array Value) (w:World),w.heap[b]? =some (.cells C T (0,0))→C.size=P.cellsOf T→(C[0]? =some (.pointer none)∨C[0]? =some (.pointer (some ⟨b,0,none⟩)))→
  (callFunc f #[.pointer (some ⟨b,0,none⟩)]).run P w= .ok (.enter f #[.pointer (some ⟨b,0,none⟩)]) w∧
  Calls P f #[.pointer (some ⟨b,0,none⟩)] w fun e w'=>e= .returned (.tuple #[])∧(w'=w∨w'=w.setCell ⟨b,0,none⟩ (.pointer (some ⟨b,0,none⟩)))
 idle: ∀f,A.idle f=true→(∀args w,(callFunc f args).run P w= .ok (.enter f args) w)∧
  ∀args w,CallsD P f args .returning w fun e u' w'=>(∃v,e= .returned v)∧u'= .returning∧w'=w
 sO: ∀f e,A.sO f=some e→Nb P f e
 S4: ∀f T,A.ext f=some T→P.cellsOf T=0→∀(s:ByteArray) (c:Int) (w:World),(callFunc f #[.string s,.int .u8 c]).run P w= .ok (.value (.int .i64 (Lib.indexByte s.data.toList c.toNat.toUInt8))) w
theorem lr.here {P:Program} {A:dr} (h:lr P A) (f id:Nat):lr P (A.here f id):=⟨h.count,h.ext,h.idle,h.sO,h.S4⟩
def Hy (E:FuncId→Bool) (d:Deferred):Prop:= ∃f cap,d.target= .fn (.func f) cap∧E f=true
theorem S5 {P:Program} {A:dr} (hP:lr P A) {fn:Func} {tmps:Array Value} {R:Ending→World→Prop} {w:World} {v:Value} (hv:(results fn tmps).run P w= .ok v w) (hR:R (.returned v) w):
  ∀ds:List Deferred,(∀d∈ds,Hy A.idle d)→Leaves P fn tmps R ds .returning w
 | [],_=>⟨v,hv,hR⟩
 | d::ds,h=>by
  obtain ⟨f,cap,ht,hf⟩:=h d (by simp);obtain ⟨k1,k2⟩:=hP.idle f hf;obtain ⟨t,das⟩:=d;simp only at ht;subst ht;refine leaves_cons (f:=f) (args:=das++cap) (by simp) ?_ ?_
  ·simp only[invoke];grind
  ·refine (k2 (das++cap) w).mono fun e u' w' hr=> ?_;obtain ⟨⟨v',rfl⟩,rfl,rfl⟩:=hr;exact S5 hP hv hR ds fun d hd=>h d (jA _ hd)
def Dy (P:Program) (A:dr) (o:Oper) (a:Act) (w:World) (I:Nat→Nat→Prop) (β:Nat→Option Nat) (hp:Nat→Option ah) (B:Nat) (M:Nat→Prop) (w0:Start) (r:R):Prop:=
 ∀(next:Act→World→Prop) (Q:Exit→Act→World→Prop),
  (∀v w' I' β' ds,Le P w I β hp w' I' β' (cb hp r.upd)→aA P w' I' β' (cb hp r.upd) B M w0→aj P w' I' β' (cb hp r.upd) v r.v→(∀d∈ds,d∈a.defers∨Hy A.idle d)→next ({a with defers:=ds}.put o.dst v) w')→o.wp P a w next Q
theorem ta.step {o:Oper} {a:Act} {r:R} (h:ta P ((execOp a.eval o).run P w) w I β hp B M w0 r):Dy P A o a w I β hp B M w0 r:=by
 obtain ⟨v,w',I',β',h1,h2,h3,h4⟩:=h;intro next Q hn
 unfold Oper.wp;rcases h1 with h1|⟨h1,rfl⟩
 ·rw[h1];exact hn v w' I' β' a.defers h2 h3 h4 fun d hd=> .inl hd
 ·rw[h1];exact hn _ w' I' β' a.defers h2 h3 h4 fun d hd=> .inl hd
theorem abE: ∀(l:List (Nat×VS)),sP l=xD (l.map (·.2))
 | []=>rfl
 | (_,s)::l=>by simp only[sP,lD,xD,abE l]
theorem anl (hC:pe P A C) (S:aA P w I β hp B M w0) (hg:jZ P A.aE w I) {vals:List Value} {args:List V} {nb key:Nat} {f:FuncId} {r:R} {rd:List Nat} (hlen:vals.length=args.length)
  (cR: ∀(j:Nat) v x,vals[j]? =some v→args[j]? =some x→aj P w I β hp v x) (h:(E5 P A nb key f args).run C hp=some (r,rd)):
  ∃fn c,P.funcs[f]? =some fn∧fn.body=some c∧Calls P f vals.toArray w fun e w'=> ∃v I' β',e= .returned v∧Le P w I β hp w' I' β' (cb hp r.upd)∧aA P w' I' β' (cb hp r.upd) B M w0∧aj P w' I' β' (cb hp r.upd) v r.v:=by
 unfold E5 at h;obtain ⟨abF,h0⟩:=aD h;clear h;rw[aL] at abF;subst abF;obtain ⟨h1,jR,d1,u1,a1,a2,a3,a5,a4⟩:=SU S h0 hlen cR;obtain ⟨h2,yu,d2,u2,b1,b2,b3,b4⟩:=abk S a1;clear h0 a1;obtain ⟨hc,h3⟩:=aD b1;clear b1;simp only[aJ,aL,nw] at hc;obtain ⟨eL,zO⟩:=hc;have Nc:=a2.trans b2;have pB:h2.ds=d1++d2:=by have:=Nc.ds;grind
 have wA:h2.upd=u1++u2:=by have:=Nc.upd;grind
 have oM:(h2.pl.map Place.id).Nodup:=Nc.nodup (by simp);obtain ⟨c1,o,c2,c3⟩:=b4 [];simp only[ub] at c1 c2 c3;cases Hz:C key h2.ds with
 | none=>
  simp only[Rd.run,Hz] at h3;cases h3
 | some es=>
  have vS: ∃gS,(E4 P (A.so key es) nb h2 (A.lv key es)).run C hp=some (r,gS):=by
   obtain ⟨x,hx,e⟩:=bind_some h3;rw[Hz] at hx;cases hx;unfold dr.so dr.lv;cases dn:A.alt key with
   | none=>grind
   | some S2=>
    rw[dn] at e;simp only[Rd.run] at e;grind
  clear h3;obtain ⟨gS,h3⟩:=vS;unfold E4 at h3;simp only at h3;generalize ky:ij (A.so key es).cX ((A.lv key es).drop (sP (A.so key es).cu))=bs at h3;generalize wG:h2.pl++xE nb (bs.length-h2.pl.length)=σ at h3;generalize Hw:vK σ nb (bs.drop h2.pl.length)=fr at h3;obtain ⟨p0,bk,rd4,p1,p2,_,p3⟩:=abr h3;obtain ⟨Dv,rd5,p4⟩:=abv p1;obtain ⟨Ak,p4⟩:=aD p4;obtain rfl:=aN p4;have s8:h2.pl.length≤bs.length:=by grind
  have wH: ∀q∈bk,∃(j:Nat) (b:ah),h2.pl[j]? =some (.blk q.1)∧bs[j]? =some b∧jS σ b q.2∧Hv hp q:=by
   intro q hq;rcases p2 q hq with hx|⟨j,b,k1,k2,k3,k4⟩
   ·simp at hx
   ·have hj:=(cz.1 k1).1;rw[jB hj] at k2;exact ⟨j,b,k1,k2,k3,k4⟩
  obtain ⟨fn,c,hf,hb,S6⟩:=hC key h2.ds es Hz;refine ⟨fn,c,hf,hb,?_⟩;have Rq:ij (A.sin key).cX (h2.ds.drop (sP (A.sin key).cu))=ij (A.sin key).cX d2:=by
   rw[pB,abE,M4 a3]
  have S7:(bM (A.sin key) h2.ds).hp=nC (ij (A.sin key).cX d2):=by
   simp only[bM,mk,Rq]
  have hl: ∀j blk,(bM (A.sin key) h2.ds).hp j=some blk→∃p,gz h2.pl j=some p∧gq P w β hp p (o j) blk:=by
   intro j blk hj;rw[S7,ln] at hj;grind
  have hd: ∀j,j<h2.pl.length→∃blk,(bM (A.sin key) h2.ds).hp j=some blk:=by
   intro j hj;rw[S7,ln];simp_all
  have abG:Hq P w β hp h2.pl o (bM (A.sin key) h2.ds).hp:=by
   intro j p hj;obtain ⟨blk,k1⟩:=hd j (by rw[qp] at hj;grind);grind
  have i1: ∀b j,I b j→j4 P w I β hp h2.upd b j:=fun b j h=> .inl h;have entry:=ang (hp0:=(bM (A.sin key) h2.ds).hp) S oM zO hl (fun di j blk hj=>by
   have fY:=hj;rw[S7,ln] at fY;exact c3 (j4 P w I β hp h2.upd) o _ i1 (fun q hq b j hb=> .inr ⟨q,by grind,hb⟩) h2.pl [] (by simp) abG j blk fY (di j blk hj)) (fun b j h=>h.elim (S.h.jY b j) fun ⟨p,_,blk,g1,g2⟩=>S.h.lt g1 g2.own)
  have anm:vals.length=(A.sin key).cu.length:=by grind
  have ha:=S6 w (j4 P w I β hp h2.upd) o vals entry (hg.mono i1 fun _ _ _=>rfl) anm fun j v x hj hx=>by
   rw[pB] at hx;exact (((a4.later b2) (j4 P w I β hp h2.upd) o _ i1 (fun q hq b j hb=> .inr ⟨q,by grind,hb⟩) h2.pl [] (by simp) abG) d2).2 j v x hj hx
  refine ha.mono fun e w' HA=> ?_;obtain ⟨v,I2,cF,rfl,ha⟩:=HA;have Nf:(bM (A.so key es) (A.lv key es)).hp=nC bs:=by simp only[bM,mk,ky]
  cases abH:(A.so key es).safe P with
  | true=>
   simp only[cond_true,ub];have Dn: ∀b j,I b j→I2 b j:=fun b j h=>ha.le.en b j (i1 b j h);obtain ⟨s1,s2⟩:=anj abH Dn ha.Dt i1;have Du:pd w I o (bM (A.sin key) h2.ds).hp w' I cF (nC bs):=by
    rw[←Nf];exact ⟨fun _ _ h=>h,fun b j h=>ha.le.cM b j (i1 b j h),ha.le.blk,ha.le.size⟩
   obtain ⟨β',k1,k2,k3⟩:=abA S wG.symm Hw.symm oM s8 p3 wH hl hd (by rw[←Nf];exact ⟨s1.h,s1.cM,s1.size,fun b j h=> .inl h,s1.io⟩) Du Dv;exact ⟨v,I,β',rfl,k1,k2,k3.val (by have:=s2 v ha.res;grind)⟩
  | false=>
   simp only[cond_false];rw[abH,Bool.false_or,ib] at Ak;have Dz: ∀q∈h2.upd,Ce hp q:=fun q hq=>by
    have wu:=Ak q hq;rcases Nc.M5 q (wA▸hq) with h|⟨T,cs,h,_⟩
    all_goals grind
   obtain ⟨sj,S1⟩:=Ci S Dz;rw[←kQ,abD];have uZ: ∀p∈h2.pl,cb hp h2.upd p.id=hp p.id:=fun p hp=>Dx fun q hq e=>
    M7 zO (ia.2 ⟨q,hq,rfl⟩) (e▸ia.2 ⟨p,hp,rfl⟩)
   have ano: ∀q∈bk,∃(j:Nat) (b:ah),h2.pl[j]? =some (.blk q.1)∧bs[j]? =some b∧jS σ b q.2∧Hv (cb hp h2.upd) q:=by
    intro q hq;obtain ⟨j,b,k1,k2,k3,k4⟩:=wH q hq;refine ⟨j,b,k1,k2,k3,fun hn=> ?_⟩;have:=uZ _ (mN k1);simp only[Place.id] at this;grind
   have Fl: ∀j blk,(bM (A.sin key) h2.ds).hp j=some blk→∃p,gz h2.pl j=some p∧gq P w β (cb hp h2.upd) p (o j) blk:=by
    intro j blk hj;obtain ⟨p,k1,k2⟩:=hl j blk hj;exact ⟨p,k1,k2.other (uZ p (by rw[qp] at k1;grind))⟩
   have anp: ∀q∈fr,cb hp h2.upd q.1=none:=by
    intro q hq;rw[Dx fun q' dz e=> ?_]
    ·grind
    ·obtain ⟨e1,dh,_,h5⟩:=Dz q' dz;grind
   obtain ⟨β',k1,k2,k3⟩:=abA S1 wG.symm Hw.symm oM s8 p3 ano Fl hd (by rw[←Nf];exact ha.Dt) (by rw[←Nf];exact ha.le) anp;exact ⟨v,I2,β',rfl,sj.trans k1,k2,k3.val (by have:=ha.res;grind)⟩
theorem abI (hC:pe P A C) (hP:lr P A) (S:aA P w I β hp B M w0) (hg:jZ P A.aE w I) {a:Act} {nb key:Nat} {o:Oper} {f:FuncId} {vals:List Value} {args:List V} (hlen:vals.length=args.length)
  (cR: ∀(j:Nat) v x,vals[j]? =some v→args[j]? =some x→aj P w I β hp v x) {r:R} {rd:List Nat} (h:(E5 P A nb key f args).run C hp=some (r,rd))
  (hex:(execOp a.eval o).run P w=(callFunc f vals.toArray).run P w):Dy P A o a w I β hp B M w0 r:=by
 intro next Q hn
 obtain ⟨fn,c,hf,hb,S6⟩:=anl hC S hg hlen cR h;unfold Oper.wp;rw[hex,MuLone.run_callFunc_enter hf (hP.count f _ hf) hb,Oper.upon_enter];refine S6.mono fun e w' HA=> ?_;obtain ⟨v,I2,cF,rfl,k1,k2,k3⟩:=HA;exact hn v w' I2 cF a.defers k1 k2 k3 fun d hd=> .inl hd
theorem oy.args {a:Act} {sl:Nat→V} (hs:oy P w I β hp a sl) (hg:jZ P A.aE w I) {args:Array Operand} {ts:Array TypeId} (bc:args.size=ts.size):
  (args.map a.eval).toList.length=((args.toList.zip ts.toList).map fun p=>aS P A.aE p.2 sl p.1).length∧
  ∀(j:Nat) v x,(args.map a.eval).toList[j]? =some v→((args.toList.zip ts.toList).map fun p=>aS P A.aE p.2 sl p.1)[j]? =some x→aj P w I β hp v x:=by
 refine ⟨by simp;omega,fun j v x hv hx=> ?_⟩;simp only[Array.toList_map,ki,List.getElem?_zip_eq_some,Option.map_eq_some_iff] at hv hx;obtain ⟨x1,j9,rfl⟩:=hv;obtain ⟨⟨y1,t1⟩,⟨Al,_⟩,rfl⟩:=hx;rw[j9] at Al;cases Al;exact hs.ev hg t1 _
theorem anq (hP:lr P A) (S:aA P w I β hp B M w0) (hg:jZ P A.aE w I) {a:Act} {sl:Nat→V} (hs:oy P w I β hp a sl) {dst:Option Tmp} {ty e:TypeId} {pos:String} {after:Array Edge} {guard:Option (Nat×Bool)} {f:FuncId}
  {args:Array Operand} {argTypes:Array TypeId} {nb:Nat} {r:R} {rd:List Nat} (lb:A.sO f=some e)
  (h:((match args.toList with
    | [x]=> .az (cY P e) (vF e (aS P A.aE ty sl x) fun xs=> .az (Nat.ble (xs.length*P.bytesOf e) aY) (jF nb (.arr e xs false) (.whole e nb) []))
    | _=> .fail):Rd R).run C hp=some (r,rd)):Dy P A (Oper.mk dst (.call (Go.Call.mk (.value (.func f)) args argTypes)) ty pos after guard) a w I β hp B M w0 r:=by
 cases ha:args.toList with
 | nil=>rw[ha] at h;cases h
 | cons x l=>
  rw[ha] at h;cases l with
  | cons _ _=>cases h
  | nil=>
   simp only at h;have e1:args= #[x]:=by grind
   subst e1;have hx:=hs.ev hg ty x;obtain ⟨aq,h⟩:=aD h;have fin: ∀{w1:World} {uJ:Nat→Option Nat},(∀id blk,hp id=some blk→fe P w1 I uJ hp (uJ id) blk)→aj P w1 I uJ hp (a.eval x) (aS P A.aE ty sl x)→∃xs,(((∃a',a.eval x= .slice a' 0 0)∧xs=[])∨∃a' c news,Row P w1 I e (a.eval x) xs a' c news)∧
     xs.length*P.bytesOf e≤aY∧hp nb=none∧r=⟨.whole e nb,[(nb,.arr e xs false)]⟩:=by
    intro w1 uJ h1 h2;obtain ⟨xs,n8,l,h⟩:=Hd h1 aq h2 h;obtain ⟨ey,h⟩:=aD h;rw[gx] at ey;obtain ⟨hn,rfl⟩:=nj h;grind
   obtain ⟨c1,t,hu,c2⟩:=hP.sO f e lb;intro next Q uR
   unfold Oper.wp;have e2:(execOp a.eval ⟨dst,.call ⟨.value (.func f),#[x],argTypes⟩,ty,pos,after,guard⟩).run P w= .ok (.enter f #[a.eval x]) w:=by
    have gU:a.eval (.func f)= .func (.func f) #[] #[]:=rfl;simpa[execOp,resolve,gU,Deferred.ofValue,invoke] using c1 #[a.eval x] w
   rw[e2,Oper.upon_enter];refine c2 _ w _ (fun HB=> ?_) (fun b n c De=> ?_) ?_
   ·obtain ⟨xs,n8,ey,hn,rfl⟩:=fin S.h.rel hx;have jP:xs=[]:=by
     rcases n8 with ⟨_,h⟩|⟨a,c,news,hr⟩
     ·exact h
     ·have:=hr.val.symm.trans HB;cases this
    subst jP;obtain ⟨a1,a2⟩:=Ft S e hn;exact uR _ w I _ a.defers a1 a2 (.dV (bJ _ _ _) (bJ _ _ _)) fun d hd=> .inl hd
   ·obtain ⟨m1,m2⟩:=ahZ (w':=w.alloc (.cells #[] e)) S (fun b hb=>heap_alloc_old w _ b hb) (by simp) ⟨rfl,rfl⟩;obtain ⟨xs,n8,ey,hn,rfl⟩:=fin m2.h.rel (hx.mono m1);obtain ⟨v,w',β',a1,a2,a3,a4⟩:=Sf (ty:=t) (a0:=some ⟨w.heap.size,0,none⟩) m2 hu aq hn ey n8;exact ⟨v,w',a1,uR v w' I β' a.defers (m1.trans a2) a3 a4 fun d hd=> .inl hd⟩
   ·obtain ⟨xs,n8,ey,hn,rfl⟩:=fin S.h.rel hx;rcases n8 with ⟨⟨b,h⟩,_⟩|⟨b,c,news,hr⟩
    ·rw[h];cases b with
     | none=>grind
     | some b=>grind
    ·exact .inr ⟨_,_,_,hr.val⟩
theorem anr (hP:lr P A) (S:aA P w I β hp B M w0) {a:Act} {dst:Option Tmp} {ty T0:TypeId} {pos:String} {after:Array Edge} {guard:Option (Nat×Bool)} {f:FuncId}
  {args:Array Operand} {argTypes:Array TypeId} {xs:List V} {r:R} {rd:List Nat} (yv:A.ext f=some T0) (hz:P.cellsOf T0=0) (k1:(args.map a.eval).toList.length=xs.length)
  (k2: ∀(j:Nat) v x,(args.map a.eval).toList[j]? =some v→xs[j]? =some x→aj P w I β hp v x) (h:(Qg xs).run C hp=some (r,rd)):Dy P A (Oper.mk dst (.call (Go.Call.mk (.value (.func f)) args argTypes)) ty pos after guard) a w I β hp B M w0 r:=by
 unfold Qg at h;split at h
 ·rename_i s c;obtain rfl:=aN h;generalize hv:args.map a.eval=vs at*
  obtain ⟨vs⟩:=vs
  match vs,k1,k2 with
  | [u,v],_,k2=>
   obtain ⟨s',rfl,hs⟩:=(k2 0 u _ rfl rfl).oZ;obtain rfl:=(k2 1 v _ rfl rfl).fW;have q:=hP.S4 f T0 yv hz s' c w;rw[hs] at q;refine ta.step ⟨.int .i64 (Lib.indexByte s c.toNat.toUInt8),w,I,β,.inl ?_,Le.refl w I β hp,S,.int⟩;have gU:a.eval (.func f)= .func (.func f) #[] #[]:=rfl;simpa[execOp,resolve,gU,Deferred.ofValue,invoke,hv] using q
 ·cases h
theorem ans (hP:lr P A) (S:aA P w I β hp B M w0) (hg:jZ P A.aE w I) {a:Act} {sl:Nat→V} (hs:oy P w I β hp a sl) {dst:Option Tmp} {ty T0:TypeId} {pos:String} {after:Array Edge} {guard:Option (Nat×Bool)} {f:FuncId}
  {args:Array Operand} {argTypes:Array TypeId} {r:R} {rd:List Nat} (yv:A.ext f=some T0)
  (h:((match args.toList with
   | [x]=>
    match aS P A.aE ty sl x with
    | .ptr id i c=>Rd.get id fun
     | some (.var T cs)=> .az (Nat.beq T T0&&(uf P T&&(Nat.beq cs.length (P.cellsOf T)&&(Nat.beq i 0&&Nat.beq c 0)))) (.ret ⟨.bd [],[(id,.var T (.undef::cs.tail))]⟩)
     | _=> .fail
    | _=> .fail
   | _=> .fail):Rd R).run C hp=some (r,rd)):Dy P A (Oper.mk dst (.call (Go.Call.mk (.value (.func f)) args argTypes)) ty pos after guard) a w I β hp B M w0 r:=by
 cases ha:args.toList with
 | nil=>rw[ha] at h;cases h
 | cons x l=>
  rw[ha] at h;cases l with
  | cons _ _=>cases h
  | nil=>
   simp only at h;have e1:args= #[x]:=by grind
   subst e1;have hx:=hs.ev hg ty x;cases jm:aS P A.aE ty sl x<;>rw[jm] at h hx<;>simp only at h<;>first|(cases h;done)|skip
   rename_i id i c;obtain ⟨l,h1⟩:=run_get h;cases ae:hp id with
   | none=>rw[ae] at h1;cases h1
   | some blk=>
    rw[ae] at h1;cases blk<;>simp only at h1<;>first|(cases h1;done)|skip
    rename_i T cs;obtain ⟨h2,h3⟩:=aD h1;simp only[aJ,aL] at h2;obtain ⟨rfl,cQ,hlc,rfl,rfl⟩:=h2;obtain rfl:=aN h3;obtain ⟨b,hb,he⟩:=hx.jl ae (by simp);have hr:=S.h.rel id _ ae;rw[hb] at hr;cases hr with
    | @var _ b' Ca _ au hh bc hI jP iT=>
     cases au;have Dl:a.eval x= .pointer (some ⟨b,0,none⟩):=by grind
     obtain ⟨q1,q2⟩:=hP.ext f T yv b Ca w hh (bc.trans hlc) (iT cQ);have h0:0<Ca.size:=by
      rcases iT cQ with k|k<;>exact (xu.1 k).1
     have tc:(V.undef::cs.tail).length=cs.length:=by
      grind
     have rel: ∀(C':Array Value),(∀j,0<j→C'[j]? =Ca[j]?)→∀(j:Nat) v y,C'[j]? =some v→(V.undef::cs.tail)[j]? =some y→aj P w I β hp v y:=by
      intro C' ME j v y hj hy;cases j with
      | zero=>simp at hy;subst hy;exact .undef
      | succ j=>
       grind
     have fin: ∀w' C',(∀b',b'≠b→w'.heap[b']? =w.heap[b']?)→w'.heap[b]? =some (.cells C' T (0,0))→C'.size=Ca.size→w.heap.size≤w'.heap.size→w'.os=w.os∧w'.output=w.output→
       (∀j,0<j→C'[j]? =Ca[j]?)→(C'[0]? =some (.pointer none)∨C'[0]? =some (.pointer (some ⟨b,0,none⟩)))→
       Le P w I β hp w' I β (ao hp id (some (.var T (V.undef::cs.tail))))∧aA P w' I β (ao hp id (some (.var T (V.undef::cs.tail)))) B M w0:=by
      intro w' C' k1 k2 k3 k4 k5 k6 k7;exact Cm (w':=w') (blk':= .var T (V.undef::cs.tail)) S ae (by simp) rfl hb hI (by simp) k1 (by rw[lL k2,lL hh,k3]) k4 k5 fun hle=>
       .var rfl k2 (by omega) hI (fun j v y hj hy=>(rel C' k6 j v y hj hy).mono hle) fun _=>k7
     intro next Q hn
     unfold Oper.wp;have e2:(execOp a.eval ⟨dst,.call ⟨.value (.func f),#[x],argTypes⟩,ty,pos,after,guard⟩).run P w= .ok (.enter f #[.pointer (some ⟨b,0,none⟩)]) w:=by
      have gU:a.eval (.func f)= .func (.func f) #[] #[]:=rfl;simpa[execOp,resolve,gU,Deferred.ofValue,invoke,Dl] using q1
     rw[e2,Oper.upon_enter];refine q2.mono fun e w' HA=> ?_;obtain ⟨rfl,hw⟩:=HA;have abJ:Le P w I β hp w' I β (ao hp id (some (.var T (V.undef::cs.tail))))∧aA P w' I β (ao hp id (some (.var T (V.undef::cs.tail)))) B M w0:=by
      rcases hw with rfl|rfl
      ·exact fin w' Ca (fun _ _=>rfl) hh rfl (aw _) ⟨rfl,rfl⟩ (fun _ _=>rfl) (iT cQ)
      ·refine fin (w.setCell ⟨b,0,none⟩ (.pointer (some ⟨b,0,none⟩))) (Ca.setIfInBounds 0 (.pointer (some ⟨b,0,none⟩))) (fun b' bp=> ?_) ?_ (by simp) (by simp_all) ⟨rfl,rfl⟩ (fun j hj=> ?_) (.inr ?_)
       ·simp only[World.setCell,Kk];grind
       ·simp[World.setCell,Kk,hh]
       all_goals grind
     exact hn (.tuple #[]) w' I β a.defers abJ.1 abJ.2 (.bd rfl fun j v y hj _=>by simp at hj) fun d hd=> .inl hd
theorem ant (hC:pe P A C) (hP:lr P A) (S:aA P w I β hp B M w0) (hg:jZ P A.aE w I) {a:Act} {sl:Nat→V} (hs:oy P w I β hp a sl) {ix nb:Nat} {o:Oper} {r:R} {rd:List Nat}
  (h:(jq P A sl ix nb o).run C hp=some (r,rd)):Dy P A o a w I β hp B M w0 r:=by
 cases hc:SK o.op with
 | false=>exact (amW S hg hs hc h).step
 | true=>
  obtain ⟨dst,op,ty,pos,after,guard⟩:=o;cases op<;>simp only[SK] at hc<;>first|(cases hc;done)|skip
  case defer c=>
   obtain ⟨callee,args,argTypes⟩:=c;cases callee with
   | invoke r m=>simp only[jq] at h;cases h
   | builtin b=>simp only[jq] at h;cases h
   | value f=>
   cases f with
   | tmp t=>
    simp only[jq] at h;cases cQ:sl t<;>rw[cQ] at h<;>simp only at h<;>first|(cases h;done)|skip
    rename_i f xs ys;obtain ⟨h1,h2⟩:=aD h;obtain rfl:=aN h2;have hv:=hs t;rw[cQ] at hv;generalize Ad:a.tmps.getD t undef=vt at hv;cases hv with
    | @fn _ fs cs _ _ q1 q2 q3 q4=>
     intro next Q hn
     unfold Oper.wp;have gU:a.eval (.tmp t)= .func (.func f) fs cs:=Ad;have e1:(execOp a.eval ⟨dst,.defer ⟨.value (.tmp t),args,argTypes⟩,ty,pos,after,guard⟩).run P w= .ok (.defer {target:= .fn (.func f) cs,args:=fs++args.map a.eval}) w:=by
      simp[execOp,resolve,gU,Deferred.ofValue]
     rw[e1,Oper.upon_defer];exact hn undef w I β _ (Le.refl w I β hp) S .undef fun d hd=>by
      rcases fl.1 hd with rfl|hd
      ·exact .inr ⟨f,cs,rfl,h1⟩
      grind
   | func f=>simp only[jq] at h;cases h
   | const _=>simp only[jq] at h;cases h
   | global _=>simp only[jq] at h;cases h
  rename_i c;obtain ⟨callee,args,argTypes⟩:=c;cases callee with
  | invoke r m=>cases hc
  | builtin b=>cases hc
  | value f=>
   cases f with
   | func f=>
    simp only[jq] at h;cases yv:A.ext f with
    | some T0=>
     rw[yv] at h;simp only at h;cases hz:Nat.beq (P.cellsOf T0) 0 with
     | true=>
      rw[hz] at h;simp only[cond_true] at h;rw[aL] at hz;obtain ⟨h1,h2⟩:=aD h;rw[aL] at h1;obtain ⟨k1,k2⟩:=hs.args hg h1;exact anr hP S yv hz k1 k2 h2
     | false=>
     rw[hz] at h;simp only[cond_false] at h;exact ans hP S hg hs yv h
    | none=>
    rw[yv] at h;simp only at h;cases lb:A.sO f with
    | some e0=>
     rw[lb] at h;simp only at h;exact anq hP S hg hs lb h
    | none=>
    rw[lb] at h;simp only at h;obtain ⟨h1,h2⟩:=aD h;rw[aL] at h1;obtain ⟨k1,k2⟩:=hs.args hg h1;refine abI hC hP S hg k1 k2 h2 ?_;have e1:(args.map a.eval).toList.toArray=args.map a.eval:=Array.toArray_toList;rw[e1];simp[execOp,resolve,Act.eval,Deferred.ofValue,invoke]
   | tmp t=>
    simp only[jq] at h;cases cQ:sl t<;>rw[cQ] at h<;>simp only at h<;>first|(cases h;done)|skip
    rename_i f xs ys;obtain ⟨h1,h2⟩:=aD h;rw[aL] at h1;obtain ⟨k1,k2⟩:=hs.args hg h1;have hv:=hs t;rw[cQ] at hv;generalize Ad:a.tmps.getD t undef=vt at hv;cases hv with
    | @fn _ fs cs _ _ q1 q2 q3 q4=>
     have l1:fs.toList.length=xs.length:=by omega
     have l3:cs.toList.length=ys.length:=by omega
     have r1: ∀(j:Nat) v x,fs.toList[j]? =some v→xs[j]? =some x→aj P w I β hp v x:=fun j v x hj hx=>q2 j v x (by grind) hx;have r3: ∀(j:Nat) v x,cs.toList[j]? =some v→ys[j]? =some x→aj P w I β hp v x:=fun j v x hj hx=>q4 j v x (by grind) hx;refine abI hC hP S hg (vals:=fs.toList++(args.map a.eval).toList++cs.toList) (args:=xs++((args.toList.zip argTypes.toList).map fun p=>aS P A.aE p.2 sl p.1)++ys) (by grind) ?_ h2 ?_
     ·grind
     ·have e1:(fs.toList++(args.map a.eval).toList++cs.toList).toArray=fs++args.map a.eval++cs:=by
       grind
      rw[e1];have gU:a.eval (.tmp t)= .func (.func f) fs cs:=Ad;simp[execOp,resolve,gU,Deferred.ofValue,invoke]
   | _=>cases hc
end
section
variable {P:Program} {A:dr} {w w':World} {I I' I2:Nat→Nat→Prop} {μ β β':Nat→Option Nat} {hp hp':Nat→Option ah} {C:af} {B:Nat} {M:Nat→Prop} {w0:Start}
structure ja (P:Program) (E:FuncId→Bool) (G:Nat→V) (w:World) (I:Nat→Nat→Prop) (β:Nat→Option Nat) (n:Nat) (a:Act) (st:St):Prop where
 sl:oy P w I β st.hp a st.sl
 size:a.tmps.size=n
 defers: ∀d∈a.defers,Hy E d
 aE:jZ P G w I
theorem S8 {E:FuncId→Bool} {G:Nat→V} {n:Nat} {a:Act} {st:St} {o:Oper} {v:Value} {x:V} {hp':Nat→Option ah} {ds:List Deferred} (h:ja P E G w I β n a st) (hle:Le P w I β st.hp w' I' β' hp') (hd:xH o n=true)
  (hv:aj P w' I' β' hp' v x) (pB: ∀d∈ds,d∈a.defers∨Hy E d):ja P E G w' I' β' n ({a with defers:=ds}.put o.dst v) ⟨lG st.sl o.dst x,hp',st.nb⟩:=by
 have hdf: ∀d∈ds,Hy E d:=fun d hd=>(pB d hd).elim (h.defers d) id;cases anu:o.dst with
 | none=>exact ⟨fun k=>(h.sl k).mono hle,h.size,hdf,h.aE.mono hle.en hle.cM⟩
 | some d=>
  have aP:d<a.tmps.size:=by
   unfold xH at hd;rw[anu] at hd;rw[h.size];simpa using hd
  refine ⟨fun k=> ?_,by simp[Act.put,h.size],hdf,h.aE.mono hle.en hle.cM⟩;simp only[Act.put,lG,ao];cases hb:Nat.beq k d with
  | true=>
   rw[aL] at hb;subst hb;simpa[aP] using hv
  | false=>
   have bp:d≠k:=fun e=>by rw[e,ot] at hb;cases hb
   have:=(h.sl k).mono hle;simpa[Array.getElem?_setIfInBounds_ne bp] using this
theorem abK {E:FuncId→Bool} {G:Nat→V} {n:Nat} {a:Act} {st:St} {d:Nat} {b:Bool} (h:ja P E G w I β n a st) (hd:st.sl d= .bool b):a.tmps[d]? =some (.bool b):=by
 have:=h.sl d;rw[hd] at this;have:=this.nE;cases ht:a.tmps[d]? with
 | none=>simp[ht] at this;cases this
 | some v=>simp[ht] at this;rw[this]
theorem anv {x:V} {b:Bool} (h:pJ x=some (some b)):x= .bool b:=by
 cases x with
 | bool c=>simp only[pJ] at h;injection h with h;injection h with h;rw[h]
 | bd vs=>cases vs<;>simp[pJ] at h
 | _=>simp[pJ] at h
theorem anw {x:V} (h:pJ x=some none):x= .bd []:=by
 cases x with
 | bd vs=>cases vs with
  | nil=>rfl
  | cons _ _=>simp[pJ] at h
 | bool c=>simp[pJ] at h
 | _=>simp[pJ] at h
theorem aj.anx {v:Value} (h:aj P w I β hp v (.bd [])):v= .tuple #[]:=by
 cases h with
 | @bd cs _ hs _=>
  have:cs= #[]:=by
   apply Array.eq_empty_of_size_eq_zero;simpa using hs
  rw[this]
theorem aj.abL:aj P w I β hp Go.undef (.bd []):= .bd (by rfl) (fun j v x _ hx=>by simp at hx)
theorem abM (hC:pe P A C) (hP:lr P A) {ops:Array Oper} {n i nb:Nat} {o:Oper} (ho:ops[i]? =some o) {a:Act} {st st':St} {R W:List Nat} (S:aA P w I β st.hp B M w0) (hA:ja P A.idle A.aE w I β n a st)
  (h:kS P A C n ops i o nb st=some (st',R,W)) {K:Act→World→Prop} {Q:Exit→Act→World→Prop}
  (hK: ∀a' w' I' β',Le P w I β st.hp w' I' β' st'.hp→aA P w' I' β' st'.hp B M w0→ja P A.idle A.aE w' I' β' n a' st'→K a' w'):wpOp P ops Q i K a w:=by
 unfold kS at h;cases hd:xH o n with
 | false=>rw[hd] at h;cases h
 | true=>
  rw[hd] at h;simp only[cond_true] at h;have go: ∀{S9:St} {R W:List Nat},(((jq P A st.sl i (nb+64*i) o).run C st.hp).bind fun r=>some ((⟨lG st.sl o.dst r.1.v,cb st.hp r.1.upd,st.nb⟩:St),vN r.2 r.1.upd,jH st.hp r.1.upd))=some (S9,R,W)→S9=st'→
    o.wp P a w K Q:=by
   intro S9 R W h e;obtain ⟨⟨r,rd⟩,h1,h2⟩:=bind_some h;cases h2;subst e;exact ant hC hP S hA.aE hA.sl h1 K Q fun v w' I' β' ds k1 k2 k3 k4=>hK _ w' I' β' k1 k2 (S8 hA k1 hd k3 k4)
  unfold wpOp;rw[ho];simp only;cases hg:o.guard with
  | none=>
   rw[hg] at h;simp only[Region.wanted,hg,pD];exact .inl (go h rfl)
  | some gw=>
   obtain ⟨g,want⟩:=gw;rw[hg] at h;simp only at h;cases qs:(ops[g]?).bind (·.dst) with
   | none=>rw[qs] at h;cases h
   | some d=>
    rw[qs] at h;simp only at h;cases rv:pJ (st.sl d) with
    | none=>rw[rv] at h;cases h
    | some ob=>
    rw[rv] at h;cases ob with
    | none=>
     have De:=anw rv;have hy:yielded ops a.tmps g=none:=by
      unfold yielded;rw[qs];have:=hA.sl d;rw[De] at this;have hu:=aj.anx this;simp only[Option.bind_some];cases ht:a.tmps[d]? with
      | none=>rfl
      | some v=>simp[ht] at hu;subst hu;rfl
     simp only[Region.wanted,hg,hy];injection h with h;injection h with h3 h4;subst h3;have h2:((none:Option Bool)==some want)=false:=rfl;simp only[h2,Bool.false_eq_true,qG];exact hK _ w I β (Le.refl w I β st.hp) S (S8 (ds:=a.defers) hA (Le.refl w I β st.hp) hd aj.abL fun d h=> .inl h)
    | some b=>
    simp only at h;have De:=anv rv;have hy:yielded ops a.tmps g=some b:=by
     unfold yielded;rw[qs];simp only[Option.bind_some,abK hA De]
    simp only[Region.wanted,hg,hy];by_cases hb:b=want
    ·subst hb;simp only[beq_self_eq_true,cond_true] at h;simp only[beq_self_eq_true,pD];exact .inl (go h rfl)
    ·have h1:(b==want)=false:=by simp[hb]
     have h2:(some b==some want)=false:=by simp[hb]
     rw[h1] at h;simp only[cond_false] at h;injection h with h;injection h with h3 h4;subst h3;simp only[h2,Bool.false_eq_true,qG];exact hK _ w I β (Le.refl w I β st.hp) S (S8 (ds:=a.defers) hA (Le.refl w I β st.hp) hd aj.abL fun d h=> .inl h)
def Am (hp hp':Nat→Option ah) (c:Nat):Prop:=hp' c=hp c∧(KB≤c→jV (hp' (c-KB))=jV (hp (c-KB)))
theorem Am.symm {c:Nat} (h:Am hp hp' c):Am hp' hp c:=⟨h.1.symm,fun hc=>(h.2 hc).symm⟩
theorem yw {α:Type}: ∀{p:Rd α} {r:α} {rd:List Nat},p.run C hp=some (r,rd)→(∀id∈rd,Am hp hp' id)→p.run C hp'=some (r,rd)
 | .ret a,r,rd,h,_=>h
 | .fail,r,rd,h,_=>by cases h
 | .get id k,r,rd,h,he=>by
  obtain ⟨x,h1,h2⟩:=bind_some h;cases h2;have e1:hp' id=hp id:=(he id (by simp)).1;have:=yw (p:=k (hp id)) (r:=x.1) (rd:=x.2) h1 (fun i hi=>he i (by simp[hi]));simp only[Rd.run,e1,this,Option.bind_some]
 | .live id ok k,r,rd,h,he=>by
  simp only[Rd.run] at h⊢;cases hk:ok (jV (hp id)) with
  | false=>rw[hk] at h;cases h
  | true=>
   rw[hk] at h;obtain ⟨x,h1,h2⟩:=bind_some h;cases h2;have e1:jV (hp' id)=jV (hp id):=by
    have:=(he (id+KB) (by simp)).2 (Nat.le_add_left _ _);rwa [Nat.add_sub_cancel] at this
   have:=yw (p:=k) (r:=x.1) (rd:=x.2) h1 (fun i hi=>he i (by simp[hi]));rw[e1,hk,this];rfl
 | .opt o k,r,rd,h,he=>by
  obtain ⟨x,h1,h2⟩:=bind_some h;simp only[Rd.run,h1,Option.bind_some];exact yw h2 he
 | .az b k,r,rd,h,he=>by
  obtain ⟨h1,h2⟩:=aD h;simp only[Rd.run,h1,cond_true];exact yw h2 he
 | .call key ds k,r,rd,h,he=>by
  obtain ⟨x,h1,h2⟩:=bind_some h;simp only[Rd.run,h1,Option.bind_some];exact yw h2 he
 | .alt true x y,r,rd,h,he=>yw (p:=x) h he
 | .alt false x y,r,rd,h,he=>yw (p:=y) h he
theorem anz {G:Nat→V} {sl sl':Nat→V} {t:TypeId} {x:Operand} (h: ∀k,x= .tmp k→sl k=sl' k):aS P G t sl x=aS P G t sl' x:=by
 cases x with
 | tmp k=>exact h k rfl
 | _=>rfl
theorem anA {sl sl':Nat→V} {ix nb:Nat} {o:Oper} (h: ∀x∈o.op.operands,∀k,x= .tmp k→sl k=sl' k):jq P A sl ix nb o=jq P A sl' ix nb o:=by
 have gU: ∀t x,x∈o.op.operands→aS P A.aE t sl x=aS P A.aE t sl' x:=fun t x hx=>anz (h x hx);obtain ⟨dst,op,ty,pos,after,guard⟩:=o;have abN: ∀(t:TypeId) (ps:Array (Nat×Operand)),(∀x∈ps.map (·.2),aS P A.aE t sl x=aS P A.aE t sl' x)→
   (ps.toList.map fun p=>(p.1,aS P A.aE t sl p.2))=ps.toList.map fun p=>(p.1,aS P A.aE t sl' p.2):=fun t ps hp=>
  pH fun p hm=>by rw[hp p.2 (Array.mem_map.2 ⟨p,ud.1 hm,rfl⟩)]
 have anB: ∀(t:TypeId) (ps:Array (Nat×Operand)),(∀x∈ps.map (·.2),aS P A.aE t sl x=aS P A.aE t sl' x)→
   (ps.toList.map fun p=>(aS P A.aE t sl p.2).cells)=ps.toList.map fun p=>(aS P A.aE t sl' p.2).cells:=fun t ps hp=>
  pH fun p hm=>by rw[hp p.2 (Array.mem_map.2 ⟨p,ud.1 hm,rfl⟩)]
 cases op<;>simp only[Op.operands] at gU<;>simp only[jq]
 case pick c x y=>rw[gU ty c (by simp),gU ty x (by simp),gU ty y (by simp)]
 case build t ps=>rw[abN ty ps fun x hx=>gU ty x (by simpa using hx),anB ty ps fun x hx=>gU ty x (by simpa using hx)]
 case buildSlice t len ps=>
  split
  ·rename_i e _;rw[abN e ps fun x hx=>gU e x (by simpa using hx)]
  ·rfl
 case slice t x lo hi mx=>
  cases mx with
  | some m=>
   have e1:lo.map (aS P A.aE 0 sl)=lo.map (aS P A.aE 0 sl'):=by
    cases lo with
    | none=>rfl
    | some l=>simp only[Option.map_some,gU 0 l (by simp)]
   have e2:hi.map (aS P A.aE 0 sl)=hi.map (aS P A.aE 0 sl'):=by
    cases hi with
    | none=>rfl
    | some l=>simp only[Option.map_some,gU 0 l (by simp)]
   have e3:=gU 0 m (by simp);simp only[gU ty x (by simp),e1,e2,e3]
  | none=>
   have e1:lo.map (aS P A.aE 0 sl)=lo.map (aS P A.aE 0 sl'):=by
    cases lo with
    | none=>rfl
    | some l=>simp only[Option.map_some,gU 0 l (by simp)]
   have e2:hi.map (aS P A.aE 0 sl)=hi.map (aS P A.aE 0 sl'):=by
    cases hi with
    | none=>rfl
    | some l=>simp only[Option.map_some,gU 0 l (by simp)]
   simp only[gU ty x (by simp),e1,e2]
 case call c=>
  obtain ⟨callee,args,argTypes⟩:=c;have An: ∀t x,x∈args→aS P A.aE t sl x=aS P A.aE t sl' x:=fun t x hx=>gU t x (by simp[Call.operands,hx]);have hl: ∀t (l:List Operand),(∀x∈l,x∈args)→l.map (aS P A.aE t sl)=l.map (aS P A.aE t sl'):=fun t l hl=>pH fun x hx=>An t x (hl x hx);have hz:((args.toList.zip argTypes.toList).map fun p=>aS P A.aE p.2 sl p.1)=(args.toList.zip argTypes.toList).map fun p=>aS P A.aE p.2 sl' p.1:=
   pH fun p hp=>An p.2 p.1 (ud.1 (List.of_mem_zip hp).1)
  cases callee with
  | invoke r m=>rfl
  | builtin b=>
   have dn: ∀x∈args.toList,∀t,aS P A.aE t sl x=aS P A.aE t sl' x:=fun x hx t=>An t x (ud.1 hx);have u5: ∀t (l:List Operand),(∀x∈l,∀t,aS P A.aE t sl x=aS P A.aE t sl' x)→l.map (aS P A.aE t sl)=l.map (aS P A.aE t sl'):=fun t l h=>pH fun x hx=>h x hx t;cases b<;>first|rfl|skip
   case append=>
    dsimp only;generalize args.toList=al at dn
    match al,dn,argTypes.toList with
    | [s,x],dn,[t,u]=>simp only[dn s (by simp),dn x (by simp)]
    | [],_,_=>rfl
    | [_],_,_=>rfl
    | _::_::_::_,_,_=>rfl
    | [_,_],_,[]=>rfl
    | [_,_],_,[_]=>rfl
    | [_,_],_,_::_::_::_=>rfl
   case copy=>
    dsimp only;generalize args.toList=al at dn
    match al,dn,argTypes.toList with
    | [s,x],dn,[t,u]=>simp only[dn s (by simp),dn x (by simp)]
    | [],_,_=>rfl
    | [_],_,_=>rfl
    | _::_::_::_,_,_=>rfl
    | [_,_],_,[]=>rfl
    | [_,_],_,[_]=>rfl
    | [_,_],_,_::_::_::_=>rfl
   case len=>
    dsimp only;generalize args.toList=al at dn
    match al,dn,argTypes.toList with
    | [x],dn,[t]=>simp only[dn x (by simp)]
    | [],_,_=>rfl
    | _::_::_,_,_=>rfl
    | [_],_,[]=>rfl
    | [_],_,_::_::_=>rfl
   case clear=>
    dsimp only;generalize args.toList=al at dn
    match al,dn,argTypes.toList with
    | [x],dn,[t]=>simp only[dn x (by simp)]
    | [],_,_=>rfl
    | _::_::_,_,_=>rfl
    | [_],_,[]=>rfl
    | [_],_,_::_::_=>rfl
   case unsafeSliceData=>
    dsimp only;generalize args.toList=al at dn
    match al,dn with
    | [],_=>rfl
    | [x],dn=>simp only[dn x (by simp)]
    | _::_::_,_=>rfl
   case unsafeString=>
    dsimp only;generalize args.toList=al at dn
    match al,dn,argTypes.toList with
    | [s,x],dn,[t,u]=>simp only[dn s (by simp),dn x (by simp)]
    | [],_,_=>rfl
    | [_],_,_=>rfl
    | _::_::_::_,_,_=>rfl
    | [_,_],_,[]=>rfl
    | [_,_],_,[_]=>rfl
    | [_,_],_,_::_::_::_=>rfl
   case max=>
    dsimp only;generalize args.toList=al at dn
    match al,dn with
    | [],_=>rfl
    | x::l,dn=>simp only[dn x (by simp),u5 ty l (fun y hy=>dn y (by simp[hy]))]
   case min=>
    dsimp only;generalize args.toList=al at dn
    match al,dn with
    | [],_=>rfl
    | x::l,dn=>simp only[dn x (by simp),u5 ty l (fun y hy=>dn y (by simp[hy]))]
  | value f=>
   cases f<;>first|rfl|skip
   ·rename_i t;have ht:sl t=sl' t:=h (.tmp t) (by simp[Op.operands,Call.operands]) t rfl;simp only[hz,ht]
   ·simp only[hz];cases hx:args.toList with
    | nil=>rfl
    | cons x l=>
     cases l with
     | cons _ _=>rfl
     | nil=>simp only[An ty x (ud.1 (by rw[hx];simp))]
 case defer c=>
  obtain ⟨callee,args,argTypes⟩:=c;cases callee with
  | invoke r m=>rfl
  | builtin b=>rfl
  | value f=>
   cases f<;>first|rfl|skip
   rename_i t;have ht:sl t=sl' t:=h (.tmp t) (by simp[Op.operands,Call.operands]) t rfl;simp only[ht]
 case makeFunc fn a b=>
  cases fn<;>first|rfl|skip
  have e1:a.toList.map (aS P A.aE ty sl)=a.toList.map (aS P A.aE ty sl'):=pH fun x hx=>gU ty x (by simp[ud.1 hx]);have e2:b.toList.map (aS P A.aE ty sl)=b.toList.map (aS P A.aE ty sl'):=pH fun x hx=>gU ty x (by simp[ud.1 hx]);dsimp only;rw[e1,e2]
 case makeMap t r=>cases r<;>rfl
 all_goals first
  | rfl
  | (simp[gU];done)
end
section
variable {P:Program} {A:dr} {w w':World} {I I' I2:Nat→Nat→Prop} {μ β β':Nat→Option Nat} {hp hp':Nat→Option ah} {C:af} {B:Nat} {M:Nat→Prop} {w0:Start}
theorem Ta {q:Nat×ah} {upd:List (Nat×ah)} (h:q∈upd):q.1∈jH hp upd:=by
 unfold jH;rw[List.mem_flatMap];refine ⟨q,h,?_⟩;cases Nat.beq (jV (hp q.1)) (jV (some q.2))<;>simp
theorem anC {upd:List (Nat×ah)} (h: ∀q∈upd,jV (hp' q.1)=jV (hp q.1)):jH hp' upd=jH hp upd:=by
 unfold jH
 induction upd with
 | nil=>rfl
 | cons q l ih=>
  rw[BN,BN,ih fun x hx=>h x (jA _ hx),h q (by simp)]
theorem abO {c:Nat}: ∀{upd:List (Nat×ah)},c∉jH hp upd→Am hp (cb hp upd) c:=fun {upd} h=>by
 refine ⟨Dx fun q hq e=>h (e▸Ta hq),fun hc=> ?_⟩
 induction upd with
 | nil=>rfl
 | cons q l ih=>
  have hl:c∉jH hp l:=fun hx=>h (by unfold jH at*;rw[BN];exact List.mem_append_right _ hx);have hq:jV (hp q.1)=jV (some q.2)∨c≠q.1+KB:=by
   cases hb:Nat.beq (jV (hp q.1)) (jV (some q.2)) with
   | true=>exact .inl (Ka hb)
   | false=>
    refine .inr fun e=>h ?_;unfold jH;rw[BN,hb,e];simp
  show jV (ao (cb hp l) q.1 (some q.2) (c-KB))=_;simp only[ao];cases hb:Nat.beq (c-KB) q.1 with
  | false=>exact ih hl
  | true=>
   have e:=Ka hb;rcases hq with hq|hq
   ·rw[cond_true,e];exact hq.symm
   ·exact absurd (by omega) hq
theorem abP {n i nb:Nat} {ops:Array Oper} {o:Oper} {st st':St} {R W:List Nat} (h:kS P A C n ops i o nb st=some (st',R,W)):
  ∃x upd,st'=⟨lG st.sl o.dst x,cb st.hp upd,st.nb⟩∧W=jH st.hp upd∧∀gr:St,(∀d∈o.looksAt ops,gr.sl d=st.sl d)→(∀id∈R,Am st.hp gr.hp id)→
   kS P A C n ops i o nb gr=some (⟨lG gr.sl o.dst x,cb gr.hp upd,gr.nb⟩,R,W)∧W=jH gr.hp upd:=by
 unfold kS at h;cases hd:xH o n with
 | false=>rw[hd] at h;cases h
 | true=>
  rw[hd] at h;simp only[cond_true] at h;have go:(((jq P A st.sl i (nb+64*i) o).run C st.hp).bind fun r=>some ((⟨lG st.sl o.dst r.1.v,cb st.hp r.1.upd,st.nb⟩:St),vN r.2 r.1.upd,jH st.hp r.1.upd))=some (st',R,W)→
    ∃x upd,st'=⟨lG st.sl o.dst x,cb st.hp upd,st.nb⟩∧W=jH st.hp upd∧∀gr:St,(∀d∈o.looksAt ops,gr.sl d=st.sl d)→(∀id∈R,Am st.hp gr.hp id)→
     (((jq P A gr.sl i (nb+64*i) o).run C gr.hp).bind fun r=>some ((⟨lG gr.sl o.dst r.1.v,cb gr.hp r.1.upd,gr.nb⟩:St),vN r.2 r.1.upd,jH gr.hp r.1.upd))=some (⟨lG gr.sl o.dst x,cb gr.hp upd,gr.nb⟩,R,W)∧W=jH gr.hp upd:=by
   intro h;obtain ⟨⟨r,rd⟩,h1,h2⟩:=bind_some h;cases h2;refine ⟨r.v,r.upd,rfl,rfl,fun gr hs hh=> ?_⟩;have hw:jH gr.hp r.upd=jH st.hp r.upd:=anC fun q hq=>by
    have:=(hh (q.1+KB) (List.mem_append_right _ (ia.2 ⟨q,hq,rfl⟩))).2 (Nat.le_add_left _ _);rwa [Nat.add_sub_cancel] at this
   rw[anA (sl':=st.sl) fun x hx k hk=> ?_,yw h1 fun c hc=>hh c (List.mem_append_left _ hc)]
   ·refine ⟨?_,hw.symm⟩;rw[Option.bind_some,hw]
   ·subst hk;exact hs k (List.mem_append_left _ (List.mem_filterMap.2 ⟨.tmp k,by simpa using hx,rfl⟩))
  cases hg:o.guard with
  | none=>
   rw[hg] at h;obtain ⟨x,upd,e1,e2,e3⟩:=go h;refine ⟨x,upd,e1,e2,fun gr hs hh=> ?_⟩;unfold kS;simp only[hd,cond_true,hg];exact e3 gr hs hh
  | some gw=>
   obtain ⟨g,want⟩:=gw;rw[hg] at h;simp only at h;cases qs:(ops[g]?).bind (·.dst) with
   | none=>rw[qs] at h;cases h
   | some d=>
    rw[qs] at h;simp only at h;have Td:d∈o.looksAt ops:=List.mem_append_right _ (by rw[hg];simp[qs]);cases rv:pJ (st.sl d) with
    | none=>rw[rv] at h;cases h
    | some ob=>
    rw[rv] at h;cases ob with
    | none=>
     injection h with h;injection h with h3 h4;injection h4 with h5 h6;subst h5;subst h6;refine ⟨.bd [],[],h3.symm,rfl,fun gr hs hh=> ?_⟩;unfold kS;simp only[hd,cond_true,hg,qs,hs d Td,rv];exact ⟨rfl,rfl⟩
    | some b=>
    simp only at h;cases hb:b==want with
    | true=>
     rw[hb] at h;obtain ⟨x,upd,e1,e2,e3⟩:=go h;refine ⟨x,upd,e1,e2,fun gr hs hh=> ?_⟩;unfold kS;simp only[hd,cond_true,hg,qs,hs d Td,rv,hb];exact e3 gr hs hh
    | false=>
     rw[hb] at h;simp only[cond_false] at h;injection h with h;injection h with h3 h4;injection h4 with h5 h6;subst h5;subst h6;refine ⟨.bd [],[],h3.symm,rfl,fun gr hs hh=> ?_⟩;unfold kS;simp only[hd,cond_true,hg,qs,hs d Td,rv,hb,cond_false];exact ⟨rfl,rfl⟩
theorem abQ {sl:Nat→V} {d:Option Nat} {x:V} {k:Nat} (h:d≠some k):lG sl d x k=sl k:=by
 cases d with
 | none=>rfl
 | some d=>exact cB _ _ fun e=>h (by rw[e])
theorem anD {hp:Nat→Option ah} {a b:List (Nat×ah)} (h: ∀q∈a,∀q'∈b,q.1≠q'.1):cb (cb hp a) b=cb (cb hp b) a:=by
 funext id;by_cases ha: ∃q∈a,q.1=id
 ·have hb: ∀q∈b,q.1≠id:=by
   obtain ⟨q,hq,rfl⟩:=ha;exact fun q' dz e=>h q hq q' dz e.symm
  rw[Dx hb];obtain ⟨q,hq,rfl⟩:=ha;have same: ∀(bL gj:Nat→Option ah) (l:List (Nat×ah)) (q:Nat×ah),q∈l→cb bL l q.1=cb gj l q.1:=by
   intro bL gj l
   induction l with
   | nil=>intro q hq;simp at hq
   | cons p l ih=>
    intro q hq;simp only[cb,ao];cases hb:Nat.beq q.1 p.1 with
    | true=>rfl
    | false=>
     simp only[cond_false];refine ih q ((fl.1 hq).resolve_left fun e=> ?_);rw[e,ot] at hb;cases hb
  exact same _ _ a q hq
 ·rw[Dx (hp:=cb hp b) (l:=a) fun q hq e=>ha ⟨q,hq,e⟩];have same: ∀(bL gj:Nat→Option ah) (l:List (Nat×ah)),bL id=gj id→cb bL l id=cb gj l id:=by
   intro bL gj l he
   induction l with
   | nil=>exact he
   | cons p l ih=>
    simp only[cb,ao];cases hb:Nat.beq id p.1 with
    | true=>rfl
    | false=>exact ih
  exact same _ _ b (Dx fun q hq e=>ha ⟨q,hq,e⟩)
structure abR (ops:Array Oper) (o1 o2:Oper) (R1 W1 R2 W2:List Nat):Prop where
 apart:Oper.apart ops o1 o2=true
 w: ∀id∈W1,id∉R2∧id∉W2
 r: ∀id∈R1,id∉W2
theorem anE {n i j nb:Nat} {ops:Array Oper} {o1 o2:Oper} {st kC gr:St} {R1 W1 R2 W2:List Nat} (h1:kS P A C n ops i o1 nb st=some (kC,R1,W1)) (h2:kS P A C n ops j o2 nb kC=some (gr,R2,W2))
  (hi:abR ops o1 o2 R1 W1 R2 W2): ∃Ng,kS P A C n ops j o2 nb st=some (Ng,R2,W2)∧kS P A C n ops i o1 nb Ng=some (gr,R1,W1):=by
 obtain ⟨x1,u1,e1,f1,g1⟩:=abP h1;obtain ⟨x2,u2,e2,f2,g2⟩:=abP h2;obtain ⟨a1,a2,a3⟩:=Oper.apart_spec hi.apart;subst e1;have k2:=g2 st (fun d hd=>by simp only;rw[abQ fun e=>a1 d e hd]) fun c hc=>(abO fun hw=>(hi.w c (by rw[f1];exact hw)).1 hc).symm;refine ⟨_,k2.1,?_⟩;rw[(g1 _ (fun d hd=> ?_) (fun c hd=> ?_)).1,e2]
 ·congr 3
  ·funext k;cases hd1:o1.dst with
   | none=>rfl
   | some d1=>
    cases Ck:o2.dst with
    | none=>rfl
    | some d2=>
     have bp:d2≠d1:=fun e=>a2 d1 hd1 (by rw[Ck,e]);simp only[lG,ao];cases CA:Nat.beq k d1<;>cases DA:Nat.beq k d2<;>simp only[cond_true,cond_false];rw[aL] at CA DA;exact absurd (DA.symm.trans CA) bp
  ·exact (anD fun q hq q' dz e=>(hi.w q.1 (by rw[f1];exact Ta hq)).2 (by rw[f2,e];exact Ta dz)).symm
 ·simp only;rw[abQ fun e=>a3 d e hd]
 ·exact abO fun hw=>hi.r c hd (by rw[k2.2];exact hw)
def DB (P:Program) (A:dr) (C:af) (n:Nat) (ops:Array Oper) (nb:Nat):List (Nat×Oper×List Nat×List Nat)→St→St→Prop
 | [],st,st'=>st=st'
 | (i,o,R,W)::l,st,st'=> ∃kC,kS P A C n ops i o nb st=some (kC,R,W)∧DB P A C n ops nb l kC st'
def Ao (x:Nat×Oper×List Nat×List Nat):Nat×List Nat×List Nat:=(x.1,x.2.2.1,x.2.2.2)
theorem abS {n nb:Nat} {ops:Array Oper}: ∀{l:List (Nat×Oper)} {st st':St} {log Nh:Log},uk P A C n ops nb l st log=some (st',Nh)→
  ∃g,g.map (fun x=>(x.1,x.2.1))=l∧Nh=log++g.map Ao∧DB P A C n ops nb g st st'
 | [],st,st',log,Nh,h=>by
  cases h;exact ⟨[],rfl,by simp,rfl⟩
 | (i,o)::l,st,st',log,Nh,h=>by
  obtain ⟨⟨kC,R,W⟩,h1,h2⟩:=bind_some h;obtain ⟨g,a,b,c⟩:=abS h2;exact ⟨(i,o,R,W)::g,by simp[a],by simp[b,Ao],kC,h1,c⟩
def abT (ops:Array Oper) (x y:Nat×Oper×List Nat×List Nat):Prop:=abR ops x.2.1 y.2.1 x.2.2.1 x.2.2.2 y.2.2.1 y.2.2.2
theorem abU {n nb:Nat} {ops:Array Oper} {y:Nat×Oper×List Nat×List Nat} {g2:List (Nat×Oper×List Nat×List Nat)}: ∀{g1:List (Nat×Oper×List Nat×List Nat)} {st st':St},
  DB P A C n ops nb (g1++y::g2) st st'→(∀x∈g1,abT ops x y)→∃kC,kS P A C n ops y.1 y.2.1 nb st=some (kC,y.2.2.1,y.2.2.2)∧DB P A C n ops nb (g1++g2) kC st'
 | [],st,st',h,_=>h
 | x::g1,st,st',h,hi=>by
  obtain ⟨kC,h1,h2⟩:=h;obtain ⟨gr,h3,h4⟩:=abU h2 fun z hz=>hi z (jA _ hz);obtain ⟨Ng,h5,h6⟩:=anE h1 h3 (hi x (by simp));exact ⟨Ng,h5,gr,h6,h4⟩
theorem abV (hC:pe P A C) (hP:lr P A) {n nb:Nat} {ops:Array Oper} {Q:Exit→Act→World→Prop}: ∀{g:List (Nat×Oper×List Nat×List Nat)} {st st':St} {a:Act} {w:World} {I:Nat→Nat→Prop} {β:Nat→Option Nat},
  DB P A C n ops nb g st st'→(∀x∈g,ops[x.1]? =some x.2.1)→aA P w I β st.hp B M w0→ja P A.idle A.aE w I β n a st→
  (∀a' w' I' β',Le P w I β st.hp w' I' β' st'.hp→aA P w' I' β' st'.hp B M w0→ja P A.idle A.aE w' I' β' n a' st'→Q .normal a' w')→wpOps P ops Q (g.map (·.1)) a w
 | [],st,st',a,w,I,β,h,_,S,hA,hQ=>by
  cases h;exact hQ a w I β (Le.refl w I β _) S hA
 | x::g,st,st',a,w,I,β,h,ho,S,hA,hQ=>by
  obtain ⟨kC,h1,h2⟩:=h;rw[lD,wpOps_cons];refine abM hC hP (ho x (by simp)) S hA h1 fun a' w' I' β' k1 k2 k3=> ?_;exact abV hC hP h2 (fun y hy=>ho y (jA _ hy)) k2 k3 fun a2 w2 I2 cF m1 m2 m3=>hQ a2 w2 I2 cF (k1.trans m1) m2 m3
end
section
variable {P:Program} {A:dr} {w w':World} {I I' I2:Nat→Nat→Prop} {μ β β':Nat→Option Nat} {hp hp':Nat→Option ah} {C:af} {B:Nat} {M:Nat→Prop} {w0:Start}
inductive Ap (ops:Array Oper):Nat→Nat→Prop
 | abW {i x:Nat} {o:Oper} {e:Edge}:ops[i]? =some o→e∈o.after→Region.binds .any e=true→e.on=x→Ap ops i x
 | trans {i x:Nat} {o:Oper} {e:Edge}:ops[i]? =some o→e∈o.after→Region.binds .any e=true→Ap ops e.on x→Ap ops i x
theorem abX {acc:Array Nat} {x:Nat}: ∀{l:List Edge} {s:Nat},(l.foldl (fun s e=>if Region.binds .any e then s|||2^e.on|||acc.getD e.on 0 else s) s).testBit x=true→
  s.testBit x=true∨∃e∈l,Region.binds .any e=true∧(e.on=x∨(acc.getD e.on 0).testBit x=true)
 | [],s,h=> .inl h
 | e::l,s,h=>by
  simp only[List.foldl_cons] at h;rcases abX h with h1|⟨e',a,b⟩
  ·by_cases hb:Region.binds .any e=true
   ·rw[aB hb,Nat.testBit_or,Nat.testBit_or,EI,EI] at h1;rcases h1 with (h1|h1)|h1
    ·exact .inl h1
    ·rw[Nat.testBit_two_pow] at h1;exact .inr ⟨e,by simp,hb,.inl (by simpa using h1)⟩
    ·exact .inr ⟨e,by simp,hb,.inr h1⟩
   ·rw[ax hb] at h1;exact .inl h1
  ·exact .inr ⟨e',jA _ a,b⟩
theorem abY {ops:Array Oper} {x:Nat}: ∀{l:List Oper} {acc:Array Nat},(∀j o,l[j]? =some o→ops[acc.size+j]? =some o)→(∀j,(acc.getD j 0).testBit x=true→Ap ops j x)→
  ∀j,((l.foldl (fun acc o=>acc.push (o.after.foldl (fun s e=>if Region.binds .any e then s|||2^e.on|||acc.getD e.on 0 else s) 0)) acc).getD j 0).testBit x=true→Ap ops j x
 | [],acc,_,Ni,j,h=>Ni j h
 | o::l,acc,hl,Ni,j,h=>by
  simp only[List.foldl_cons] at h;refine abY (l:=l) ?_ ?_ j h
  ·intro j o' hj;have:=hl (j+1) o' (by simpa using hj);rw[Array.size_push];rwa [show acc.size+1+j=acc.size+(j+1) by omega]
  ·intro k hk;simp only[BF,Array.getElem?_push] at hk;by_cases Te:k=acc.size
   ·rw[aB Te] at hk;simp only[Option.getD_some] at hk;rw[←Kg] at hk;have ho:=hl 0 o rfl;rw[Nat.add_zero] at ho;rw[Te];have DA:(o.after.toList.foldl (fun s e=>if Region.binds .any e then s|||2^e.on|||acc.getD e.on 0 else s) 0).testBit x=true:=by simpa[BF] using hk
    rcases abX DA with h0|⟨e,he,hb,h1⟩
    ·simp at h0
    ·rcases h1 with h1|h1
     ·exact .abW ho (ud.1 he) hb h1
     ·exact .trans ho (ud.1 he) hb (Ni _ h1)
   ·rw[ax Te] at hk;exact Ni k (by simpa[BF] using hk)
theorem anF {ops:Array Oper} {i x:Nat} (h:((Region.before ops).getD i 0).testBit x=true):Ap ops i x:=by
 unfold Region.before at h;rw[←Kg] at h;refine abY (l:=ops.toList) (acc:= #[]) (fun j o hj=>by simpa using hj) (fun j hj=>by simp at hj) i h
def abZ (ops:Array Oper) (listed:Array Bool):Prop:= ∀i o,ops[i]? =some o→listed.getD i false=true→∀e∈o.after,Region.binds .any e=true→listed.getD e.on false=true
theorem anG {ops:Array Oper} {listed:Array Bool} (hc:abZ ops listed) {i x:Nat} (h:Ap ops i x) (hi: ∀o,ops[i]? =some o→∀e∈o.after,Region.binds .any e=true→listed.getD e.on false=true):listed.getD x false=true:=by
 induction h with
 | abW ho he hb hx=>rw[←hx];exact hi _ ho _ he hb
 | trans ho he hb _ ih=>exact ih fun o' sY e' Dl au=>hc _ o' sY (hi _ ho _ he hb) e' Dl au
theorem ab0: ∀{l:List Oper} {k j:Nat} {o:Oper},E9 k l=true→l[j]? =some o→∀e∈o.after,Region.binds .any e=true→e.on<k+j
 | [],k,j,o,_,h=>by simp at h
 | o'::l,k,j,o,hk,h=>by
  simp only[E9,aJ] at hk;cases j with
  | zero=>
   simp at h;subst h;intro e he hb;have:=ib.1 hk.1 e (ud.2 he);simp[hb] at this;omega
  | succ j=>
   intro e he hb;have:=ab0 hk.2 (j:=j) (by simpa using h) e he hb;omega
theorem ab1 {ops:Array Oper} {zc:Array Nat}: ∀{l:Log},KL ops zc l=true→l.Pairwise fun x y=>E8 ops zc x y=true
 | [],_=> .nil
 | x::l,h=>by
  simp only[KL,aJ] at h;exact .cons (fun y hy=>ib.1 h.1 y hy) (ab1 h.2)
theorem ab2 {listed:Array Bool} {i:Nat} (h:listed.getD i true=false):i<listed.size∧listed.getD i false=false:=by
 rcases jD i listed.size with h'|h'
 ·refine ⟨h',?_⟩;simpa[h'] using h
 ·simp[Array.getElem?_eq_none h'] at h
theorem ab3 (hC:pe P A C) (hP:lr P A) {n nb:Nat} {ops:Array Oper} {Q:Exit→Act→World→Prop} (Nj:E9 0 ops.toList=true):
  ∀(fuel:Nat) {g:List (Nat×Oper×List Nat×List Nat)} {listed:Array Bool} {st st':St} {a:Act} {w:World} {I:Nat→Nat→Prop} {β:Nat→Option Nat},
  g.length=fuel→DB P A C n ops nb g st st'→(∀x∈g,ops[x.1]? =some x.2.1)→(g.map (·.1)).Pairwise (· < ·)→(g.map Ao).Pairwise (fun x y=>E8 ops (Region.before ops) x y=true)→
  listed.size=ops.size→(∀i,i<ops.size→(listed.getD i false=false↔i∈g.map (·.1)))→abZ ops listed→
  aA P w I β st.hp B M w0→ja P A.idle A.aE w I β n a st→
  (∀a' w' I' β',Le P w I β st.hp w' I' β' st'.hp→aA P w' I' β' st'.hp B M w0→ja P A.idle A.aE w' I' β' n a' st'→Q .normal a' w')→wpAny P .any ops Q fuel listed a w
 | 0,g,listed,st,st',a,w,I,β,hf,hr,ho,aP,Nk,bc,Aq,lb,S,hA,hQ=>by
  obtain rfl:g=[]:=pC hf;cases hr;refine ⟨?_,hQ a w I β (Le.refl w I β _) S hA⟩;rw[List.eq_nil_iff_forall_not_mem];intro i hi;obtain ⟨h0,_⟩:=mem_ready.1 hi;obtain ⟨h1,h2⟩:=ab2 h0;have:=(Aq i (by omega)).1 h2;simp at this
 | fuel+1,g,listed,st,st',a,w,I,β,hf,hr,ho,aP,Nk,bc,Aq,lb,S,hA,hQ=>by
  refine ⟨fun HB=> ?_,fun i hi=> ?_⟩
  ·exfalso;cases g with
   | nil=>simp at hf
   | cons x g=>
    have hx:=ho x (by simp);have jP:x.1<ops.size:=(xu.1 hx).1;have na:x.1∈Region.ready .any ops listed:=by
     rw[mem_ready];have h0:=(Aq x.1 jP).2 (by simp);refine ⟨?_,x.2.1,hx,fun e he hb=> ?_⟩
     ·have hl:x.1<listed.size:=by omega
      simpa[hl] using h0
     ·have Sm:=ab0 Nj (j:=x.1) (by simpa using hx) e he hb;rw[dB] at Sm;cases hle:listed.getD e.on false with
      | true=>rfl
      | false=>
       have hm:=(Aq e.on (by omega)).1 hle;simp only[lD,fl] at hm;rw[lD,List.pairwise_cons] at aP;rcases hm with hm|hm
       ·omega
       ·have:=aP.1 _ hm;omega
    rw[HB] at na;cases na
  ·obtain ⟨h0,oi,HC,hed⟩:=mem_ready.1 hi;obtain ⟨h1,h2⟩:=ab2 h0;have hig:=(Aq i (by omega)).1 h2;obtain ⟨y,hy,Nl⟩:=ia.1 hig;obtain ⟨g1,g2,rfl⟩:=List.append_of_mem hy;subst Nl;have hyo:=ho y hy;rw[HC] at hyo;have ab4:oi=y.2.1:=dN hyo;have oM:((g1++y::g2).map (·.1)).Nodup:=aP.imp fun h=>EO h;have anH: ∀x∈g1,abT ops x y:=by
    intro x hx;have hp:E8 ops (Region.before ops) (Ao x) (Ao y)=true:=by
     rw[vy,lD,List.pairwise_append] at Nk;exact Nk.2.2 _ (ia.2 ⟨x,hx,rfl⟩) _ (by simp)
    have hxo:=ho x (fj.2 (.inl hx));unfold E8 at hp;rw[EI] at hp;rcases hp with hp|hp
    ·have hl:=anG lb (anF hp) fun o sY e he hb=>by
      have:o=oi:=by
       have h3:ops[y.1]? =some o:=sY;rw[HC] at h3;exact (dN h3).symm
      subst this;exact hed e he hb
     have jP:x.1<ops.size:=(xu.1 hxo).1;have:=(Aq x.1 jP).2 (ia.2 ⟨x,fj.2 (.inl hx),rfl⟩);rw[show (Ao x).1=x.1 from rfl,this] at hl;cases hl
    ·simp only[Ao,BF,hxo,HC,Option.getD_some,aJ,nw] at hp;obtain ⟨q1,q2,q3⟩:=hp;refine ⟨ab4▸q1,fun id ae=> ?_,fun id ae=>M7 q3 ae⟩;have:=M7 q2 ae;rw[fj] at this;exact ⟨fun h=>this (.inl h),fun h=>this (.inr h)⟩
   obtain ⟨kC,kZ,qo⟩:=abU hr anH;rw[←ab4] at kZ;refine abM hC hP HC S hA kZ fun a' w' I' β' k1 k2 k3=> ?_;have lV:List.Sublist (g1++g2) (g1++y::g2):=List.Sublist.append_left (List.sublist_cons_self y g2) g1;have js: ∀j,j≠y.1→(listed.setIfInBounds y.1 true).getD j false=listed.getD j false:=fun j hj=>getD_set_ne false (Ne.symm hj);refine ab3 hC hP Nj fuel (g:=g1++g2) (st':=st') ?_ qo (fun x hx=>ho x (lV.subset hx)) (aP.sublist (lV.map _)) (Nk.sublist (lV.map _)) (by simp[bc]) (fun j hj=> ?_) (fun j o Tf dk e he hb=> ?_) k2 k3 fun a2 w2 I2 cF m1 m2 m3=>hQ a2 w2 I2 cF (k1.trans m1) m2 m3
   ·simp at hf⊢;omega
   ·by_cases uK:j=y.1
    ·subst uK;have hl:y.1<listed.size:=by omega
     simp only[BF,Array.getElem?_setIfInBounds_self_of_lt hl,Option.getD_some];refine ⟨fun h=>(by cases h),fun h=> ?_⟩;exfalso;rw[vy,lD,EP,List.nodup_cons] at oM;rw[vy,fj] at h;rcases h with h|h
     ·exact oM.2.2 _ h _ (by simp) rfl
     ·exact oM.2.1.1 h
    ·rw[js j uK,Aq j hj];simp only[vy,lD,fj,fl];constructor
     ·rintro (h|h|h)
      ·exact .inl h
      ·exact absurd h uK
      ·exact .inr h
     ·rintro (h|h)
      ·exact .inl h
      ·exact .inr (.inr h)
   ·by_cases uK:j=y.1
    ·subst uK;rw[HC] at Tf;cases Tf;exact getD_set_true (hed e he hb)
    ·rw[js j uK] at dk;exact getD_set_true (lb j o Tf dk e he hb)
end
section
variable {P:Program} {A:dr} {w w':World} {I I' I2:Nat→Nat→Prop} {μ β β':Nat→Option Nat} {hp hp':Nat→Option ah} {C:af} {B:Nat} {M:Nat→Prop} {w0:Start}
theorem ab5: ∀{l:List Oper} {k j:Nat},(sR k l)[j]? =(l[j]?).map fun o=>(k+j,o)
 | [],k,j=>by simp[sR]
 | o::l,k,0=>by simp[sR]
 | o::l,k,j+1=>by
  simp only[sR,List.getElem?_cons_succ,ab5];congr 1;funext o;rw[show k+1+j=k+(j+1) by omega]
theorem ab6: ∀{l:List Oper} {k:Nat},(sR k l).map (·.1)=List.range' k l.length
 | [],k=>rfl
 | o::l,k=>by simp[sR,ab6,List.range'_succ]
theorem anI (hC:pe P A C) (hP:lr P A) (hm:P.follows .mixedOrders=true) {n id:Nat} {ops:Array Oper} {draw:Bool} {st st':St} {a:Act} {Q:Exit→Act→World→Prop}
  (h:B9 P A C n ops draw st=some st') (S:aA P w I β st.hp B M w0) (hA:ja P A.idle A.aE w I β n a st)
  (hQ: ∀a' w' I' β',Le P w I β st.hp w' I' β' st'.hp→aA P w' I' β' st'.hp B M w0→ja P A.idle A.aE w' I' β' n a' st'→Q .normal a' w'):(Code.region id ops draw).wp P Q a w:=by
 obtain ⟨⟨kC,log⟩,h1,h2⟩:=bind_some h;obtain ⟨g,g1,g2,g3⟩:=abS h1;have Nm:g.map (·.1)=List.range ops.size:=by
  have:g.map (·.1)=(g.map fun x=>(x.1,x.2.1)).map (·.1):=by simp
  rw[this,g1,ab6,List.range_eq_range'];simp
 have hop: ∀x∈g,ops[x.1]? =some x.2.1:=by
  intro x hx;have:(x.1,x.2.1)∈sR 0 ops.toList:=by rw[←g1];exact ia.2 ⟨x,hx,rfl⟩
  obtain ⟨j,hj⟩:=List.mem_iff_getElem?.1 this;rw[ab5] at hj;cases ho:ops.toList[j]? with
  | none=>rw[ho] at hj;cases hj
  | some o=>
   rw[ho] at hj;simp only[Option.map_some,dB,fk,nA] at hj;rw[←hj.1,←hj.2];simpa using ho
 cases draw with
 | false=>
  simp only[Bool.not_false,Bool.true_or,cond_true] at h2;cases h2;refine wp_region ?_;rw[←Nm];exact abV hC hP g3 hop S hA hQ
 | true=>
  simp only[Bool.not_true,Bool.false_or] at h2;cases hc:(Region.noSelect ops&&Fa ops log) with
  | false=>rw[hc] at h2;cases h2
  | true=>
   rw[hc] at h2;cases h2;simp only[aJ,Fa] at hc;obtain ⟨hns,Nj,anJ⟩:=hc;simp only[List.nil_append] at g2;refine wp_region_any hm ?_;have hlen:g.length=ops.size:=by
    have:=congrArg List.length Nm;simpa using this
   refine ab3 hC hP Nj ops.size (g:=g) (st':=st') hlen g3 hop (by rw[Nm];exact List.pairwise_lt_range) (by rw[←g2];exact ab1 anJ) (by simp) (fun i hi=> ?_) (fun i o ho hl=> ?_)
    (w:=w.drew) S.drew ⟨fun k=>(hA.sl k).mono (Le.drew w I β _),hA.size,hA.defers,hA.aE.mono (Le.drew (P:=P) w I β st.hp).en (Le.drew (P:=P) w I β st.hp).cM⟩ fun a' w' I' β' k1 k2 k3=>hQ a' w' I' β' ((Le.drew w I β _).trans k1) k2 k3
   ·rw[Nm];simp[hi]
   ·have hi:=(xu.1 ho).1;simp[hi] at hl
end
section
variable {P:Program} {A:dr} {E:FuncId→Bool} {G:Nat→V} {w w':World} {I I' I2:Nat→Nat→Prop} {μ β β':Nat→Option Nat} {hp hp':Nat→Option ah} {C:af} {B:Nat} {M:Nat→Prop} {w0:Start}
theorem yx: ∀{l:List Nat} {hp:Nat→Option ah} {I:Nat→Nat→Prop},aA P w I β hp B M w0→∃I',Le P w I β hp w I' β (vM hp l)∧aA P w I' β (vM hp l) B M w0
 | [],hp,I,S=>⟨I,Le.refl w I β hp,S⟩
 | id::l,hp,I,S=>by
  simp only[vM];cases ae:hp id with
  | none=>exact yx S
  | some blk=>
   cases blk with
   | dead=>exact yx S
   | out _ _ _ _=>exact yx S
   | var _=>exact yx S
   | map _ _=>exact yx S
   | arr e es fz=>
    obtain ⟨h1,h2⟩:=Ci S (upd:=[(id,.arr e es true)]) (fun p hp=>by
     simp only[fS] at hp;subst hp;exact ⟨e,es,rfl,.inl ⟨fz,ae⟩⟩)
    obtain ⟨I',h3,h4⟩:=yx (l:=l) h2;exact ⟨I',h1.trans h3,h4⟩
   | nest e es vers=>
    obtain ⟨h1,h2⟩:=Ci S (upd:=[(id,.arr e es true)]) (fun p hp=>by
     simp only[fS] at hp;subst hp;exact ⟨e,es,rfl,.inr ⟨vers,ae⟩⟩)
    obtain ⟨I',h3,h4⟩:=yx (l:=l) h2;exact ⟨I',h1.trans h3,h4⟩
theorem ab7 {n:Nat} {a:Act} {st:St} (S:aA P w I β st.hp B M w0) (hA:ja P E G w I β n a st):
  ∃I',Le P w I β st.hp w I' β st.hp∧aA P w I' β st.hp B M w0∧ja P E G w I' β n a st∧uv P I' β st.hp:=by
 obtain ⟨I',h1,h2,h3⟩:=X3 S;exact ⟨I',h1,h2,⟨fun k=>(hA.sl k).mono h1,hA.size,hA.defers,hA.aE.mono h1.en h1.cM⟩,h3⟩
theorem anK {hp:Nat→Option ah} (S:aA P w I β hp B M w0) (hT:uv P I β hp) {v:Value} {x:V} (hv:aj P w I β hp v x):aj P w I β hp v (E7 hp x):=by
 cases x with
 | whole e id=>
  simp only[E7];split
  ·rename_i e' es ae;cases he:Nat.beq e e' with
   | false=>exact hv
   | true=>
    rw[aL] at he;subst he;simp only[cond_true];cases hv with
    | dZ h=>grind
    | dO h=>grind
    | ee h=>grind
    | fG h=>grind
    | dV h=>rw[ae] at h;cases h;exact .list (.any fun _=>rfl)
    | whole h hb bc bQ hm=>
     rw[ae] at h;cases h;have hr:=S.h.rel id _ ae;cases hr with
     | eF au=>grind
     | arr hL aq au hh hs hf fN hx=>
      rw[hb] at au;cases au;have:=vR (I':=I) (off:=0) (len:=es.length) (o:=0) hh hx (fH aq) (by omega) bQ (fun _=>by simp) (fun _ _ h=>h) (hT _ _ _ _ ae hb);exact .list (by grind)
  ·exact hv
 | sub e id off len=>
  simp only[E7];split
  ·rename_i e' es ae;cases he:Nat.beq e e' with
   | false=>exact hv
   | true=>
    rw[aL] at he;subst he;simp only[cond_true];cases hv with
    | jK h=>grind
    | jh h=>rw[ae] at h;cases h;exact .list (by simpa using (kV.any (P:=P) fun _=>rfl))
    | sub h hb mY bQ ho=>
     rw[ae] at h;cases h;have hr:=S.h.rel id _ ae;cases hr with
     | eF au=>grind
     | arr hL aq au hh hs hf fN hx=>
      rw[hb] at au;cases au;exact .list (vR (I':=I) hh hx (fH aq) mY bQ ho (fun _ _ h=>h) (hT _ _ _ _ ae hb))
  ·exact hv
 | _=>exact hv
theorem anL {n:Nat} {a:Act} {st:St} (S:aA P w I β st.hp B M w0) (hA:ja P E G w I β n a st) (p:Nat):
  ∃β',Le P w I β st.hp w I β' (xG st p).hp∧aA P w I β' (xG st p).hp B M w0∧ja P E G w I β' n a (xG st p):=by
 have same: ∃β',Le P w I β st.hp w I β' st.hp∧aA P w I β' st.hp B M w0∧ja P E G w I β' n a st:=⟨β,Le.refl ..,S,hA⟩
 unfold xG;cases Nat.ble (102*KB) p with
 | true=>
  simp only[cond_true];split
  ·rename_i id hx;split
   ·rename_i T cs ae;split
    ·rename_i e hc;have hr:=S.h.rel id _ ae;obtain ⟨b,hb,_⟩: ∃b,β id=some b∧True:=by
      have hv:=hA.sl (p %KB);rw[hx] at hv;obtain ⟨b,hb,_⟩:=hv.jl ae (by simp);exact ⟨b,hb,trivial⟩
     rw[hb] at hr;have aP:=(cz.1 hc).1;cases hr with
     | @var _ b' C _ au hh hs hI jP iT=>
      cases au;obtain ⟨h1,h2⟩:=Cm (w':=w) (blk':= .var T (cs.set (p/KB-102) (.nl e []))) S ae (by simp) rfl hb hI (by simp) (fun _ _=>rfl) rfl (aw _) ⟨rfl,rfl⟩ fun hle=> .var rfl hh (by simp;exact hs) hI (fun j v y hj hy=>by
       by_cases zo:p/KB-102=j
       ·subst zo;rw[qI aP] at hy;cases hy;have hv:=jP _ v _ hj hc;cases hv;exact .nl .nil fun _=>rfl
       ·rw[xp zo] at hy;exact (jP j v y hj hy).mono hle) iT
      exact ⟨β,h1,h2,⟨fun k=>(hA.sl k).mono h1,hA.size,hA.defers,hA.aE⟩⟩
    ·exact same
   ·exact same
  ·exact same
 | false=>
 simp only[cond_false];cases Nat.ble (2*KB) p with
 | false=>exact same
 | true=>
  simp only[cond_true];split
  ·rename_i e hn hx;obtain ⟨h1,h2⟩:=Qx S (vers:=[0,0,0]) e hn;refine ⟨_,h1,h2,⟨fun k=> ?_,hA.size,hA.defers,hA.aE⟩⟩;show aj P w I (ao β st.nb none) (ao st.hp st.nb (some (.nest e [] [0,0,0]))) _ (ao st.sl (p %KB) (V.whole e st.nb) k);by_cases hk:k=p %KB
   ·subst hk;have hv:=hA.sl (p %KB);rw[hx] at hv;rw[bJ];generalize a.tmps.getD (p %KB) _=v at hv⊢;cases hv;exact .ee (bJ _ _ _) (bJ _ _ _)
   ·rw[cB _ _ hk];exact (hA.sl k).mono h1
  ·rename_i cs hn hx;split
   ·rename_i e hc;obtain ⟨h1,h2⟩:=Qx S (vers:=[0,0,0]) e hn;refine ⟨_,h1,h2,⟨fun k=> ?_,hA.size,hA.defers,hA.aE⟩⟩;show aj P w I (ao β st.nb none) (ao st.hp st.nb (some (.nest e [] [0,0,0]))) _ (ao st.sl (p %KB) (V.agg (cs.set (p/KB-2) (.whole e st.nb))) k);by_cases hk:k=p %KB
    ·subst hk;have hv:=hA.sl (p %KB);rw[hx] at hv;rw[bJ];generalize a.tmps.getD (p %KB) _=v at hv⊢;obtain ⟨vs,rfl,kZ,qo⟩:=hv.nF;refine .agg (by grind) fun j v x hv o3=> ?_;by_cases hj:p/KB-2=j
     ·subst hj;have aP:=(cz.1 hc).1;rw[qI aP] at o3;cases o3;have Ab:=qo _ v _ hv hc;cases Ab;exact .ee (vers:=[0,0,0]) (bJ _ _ _) (bJ _ _ _)
     ·rw[xp hj] at o3;exact (qo j v x hv o3).mono h1
    ·rw[cB _ _ hk];exact (hA.sl k).mono h1
   omega
  ·rename_i id hn hx;split
   ·rename_i T cs ae;split
    ·rename_i e hc;obtain ⟨h1,h2⟩:=Qx S (vers:=[0,0,0]) e hn;have bp:id≠st.nb:=fun h=>by grind
     have ri:ao st.hp st.nb (some (.nest e [] [0,0,0])) id=some (.var T cs):=by rw[cB _ _ bp];exact ae
     have hr:=h2.h.rel id _ ri;generalize ho:ao β st.nb none id=o at hr;cases hr with
     | @var _ b Ca _ hb hh hs hI lj iT=>
     subst hb;obtain ⟨h3,h4⟩:=Cm (w':=w) h2 (blk':= .var T (cs.set (p/KB-2) (.whole e st.nb))) ri (by simp) rfl ho hI (by simp) (fun _ _=>rfl) rfl (aw _) ⟨rfl,rfl⟩
      (fun hle=> .var rfl hh (by grind) hI (fun j v x hv o3=>by
       by_cases hj:p/KB-2=j
       ·subst hj;have aP:=(cz.1 hc).1;rw[qI aP] at o3;cases o3;have Ab:=lj _ v _ hv hc;cases Ab;exact .ee (vers:=[0,0,0]) (by rw[cB _ _ (Ne.symm bp)];exact bJ _ _ _) (bJ _ _ _)
       ·rw[xp hj] at o3;exact (lj j v x hv o3).mono hle) iT)
     exact ⟨_,h1.trans h3,h4,⟨fun k=>(hA.sl k).mono (h1.trans h3),hA.size,hA.defers,hA.aE⟩⟩
    omega
   omega
  omega
theorem ab8 {n:Nat} {a:Act}: ∀(l:List Nat) {st:St} {β:Nat→Option Nat},aA P w I β st.hp B M w0→ja P E G w I β n a st→
  ∃β',Le P w I β st.hp w I β' (l.foldl xG st).hp∧aA P w I β' (l.foldl xG st).hp B M w0∧ja P E G w I β' n a (l.foldl xG st)
 | [],st,β,S,hA=>⟨β,Le.refl ..,S,hA⟩
 | p::l,st,β,S,hA=>by
  obtain ⟨uJ,h1,h2,h3⟩:=anL S hA p;obtain ⟨cF,h4,h5,h6⟩:=ab8 l h2 h3;exact ⟨cF,h1.trans h4,h5,h6⟩
theorem ab9 {n m:Nat} {pur:List Nat} {a:Act} {st:St} (S:aA P w I β st.hp B M w0) (hA:ja P E G w I β n a st):
  ∃I' β',Le P w I β st.hp w I' β' (freeze m pur st).hp∧aA P w I' β' (freeze m pur st).hp B M w0∧ja P E G w I' β' n a (freeze m pur st):=by
 obtain ⟨I1,h1,h2⟩:=yx (l:=(KK st pur).filter fun id=>Nat.ble m id) S;obtain ⟨I',h3,h4,h5⟩:=X3 h2;have h1:=h1.trans h3;have hA2:ja P E G w I' β n a ⟨fun k=>bif iO pur (k+KB) then E7 (vM st.hp ((KK st pur).filter fun id=>Nat.ble m id)) (st.sl k) else st.sl k,vM st.hp ((KK st pur).filter fun id=>Nat.ble m id),st.nb⟩:=by
  refine ⟨fun k=> ?_,hA.size,hA.defers,hA.aE.mono h1.en h1.cM⟩;have hv:=(hA.sl k).mono h1;cases hm:iO pur (k+KB) with
  | false=>grind
  | true=>simp only[hm,cond_true];exact anK h4 h5 hv
 obtain ⟨β',k1,k2,k3⟩:=ab8 pur h4 hA2;exact ⟨I',β',h1.trans k1,k2,k3⟩
structure DC (hp:Nat→Option ah) (β:Nat→Option Nat) (ord:List Nat) (hp':Nat→Option ah) (β':Nat→Option Nat):Prop where
 arr: ∀(j:Nat) id e es fz,ord[j]? =some id→hp id=some (.arr e es fz)→hp' j=some (.arr e es fz)
 var: ∀(j:Nat) id T cs,ord[j]? =some id→hp id=some (.var T cs)→∃lM,hp' j=some (.var T lM)
 dead: ∀(j:Nat) id,ord[j]? =some id→hp id=some .dead→hp' j=some .dead
 out: ∀(j:Nat) id e es vs i,ord[j]? =some id→hp id=some (.out e es vs i)→hp' j=some .dead
 place: ∀(j:Nat) id,ord[j]? =some id→β' j=β id
 nest: ∀(j:Nat) id e es vers,ord[j]? =some id→hp id=some (.nest e es vers)→hp' j=some (.nest e es (vers.map fun _=>0))
 map: ∀(j:Nat) id t es,ord[j]? =some id→hp id=some (.map t es)→hp' j=some (.map t es)
theorem oN: ∀{l:List Nat} {n i j:Nat},kq l n i=some j→∃k,j=i+k∧l[k]? =some n
 | [],n,i,j,h=>by cases h
 | a::l,n,i,j,h=>by
  simp only[kq] at h;cases hb:Nat.beq n a with
  | true=>
   simp_all
  | false=>
   rw[hb] at h;obtain ⟨k,h1,h2⟩:=oN h;exact ⟨k+1,by omega,by grind⟩
def pg (hp':Nat→Option ah) (β':Nat→Option Nat) (n:Nat) (bs:List ah):Prop:=
 ∀(k:Nat) b,bs[k]? =some b→hp' (n+k)=some b∧β' (n+k)=none
theorem Tg: ∀(vers:List Nat) (k:Nat),bz (vers.map fun _=>0) k=0
 | [],_=>rfl
 | _::_,0=>rfl
 | _::vs,k+1=>Tg vs k
theorem aca {e:TypeId} {es:List V} {vers:List Nat} {path:Path} {ver:Nat} (hc:(Nat.blt 0 path.length&&(Nat.ble path.length vers.length&&Nat.beq (bz vers (path.length-1)) ver))=true)
  (h:(ah.nest e es vers).vO path ver):False:=by
 simp only[aJ,nt,gx,aL] at hc;obtain ⟨h1,h2,h3⟩:=hc;rcases h with h|h|h
 all_goals grind
theorem acb (S:aA P w I β hp B M w0) (hT:uv P I β hp) {ord:List Nat} (hR:DC hp β ord hp' β') {v:Value} {x:V} (hv:aj P w I β hp v x):aj P w I β' hp' v (ku hp ord x):=by
 cases hv with
 | undef=>exact .undef
 | int=>exact .int
 | bool=>exact .bool
 | str h=>exact .str h
 | list h=>exact .list h
 | nilS=>exact .nilS
 | nl h h0=>exact .nl h h0
 | agg=>exact .undef
 | bd=>exact .undef
 | eJ=>exact .eJ
 | fn=>exact .undef
 | pref a b c=>exact .pref a b c
 | @dZ _ e id ae=>
  simp only[ku];cases bL:kq ord id 0 with
  | none=>simp only[ae];exact .undef
  | some j=>
   obtain ⟨k,rfl,hk⟩:=oN bL;exact .dZ (hR.dead _ id (by grind) ae)
 | @jK _ e id off len ae=>
  simp only[ku];cases bL:kq ord id 0 with
  | none=>simp only[ae];exact .undef
  | some j=>
   obtain ⟨k,rfl,hk⟩:=oN bL;exact .jK (hR.dead _ id (by grind) ae)
 | @mV _ id i c ae=>
  simp only[ku];cases bL:kq ord id 0 with
  | none=>exact .undef
  | some j=>
   obtain ⟨k,rfl,hk⟩:=oN bL;exact .mV (hR.dead _ id (by grind) ae)
 | @dV e id fz _ ae hb=>
  simp only[ku];cases bL:kq ord id 0 with
  | none=>
   simp only[ae];cases fz with
   | false=>exact .undef
   | true=>simp only[ot,cond_true];exact .list (.any fun _=>rfl)
  | some j=>
   obtain ⟨k,rfl,hk⟩:=oN bL;have dK:ord[0+k]? =some id:=by grind
   exact .dV (hR.arr _ id _ _ _ dK ae) ((hR.place _ id dK).trans hb)
 | @whole e id es fz b cap ae hb bc bQ hm=>
  simp only[ku];cases bL:kq ord id 0 with
  | none=>
   simp only[ae];cases fz with
   | false=>exact .undef
   | true=>
    simp only[ot,cond_true];have hr:=S.h.rel id _ ae;cases hr with
    | eF au=>grind
    | arr hL aq au hh hs hf fN hx=>
     rw[hb] at au;cases au;have:=vR (I':=I) (off:=0) (len:=es.length) (o:=0) hh hx (fH aq) (by omega) bQ (fun _=>by simp) (fun _ _ h=>h) (hT _ _ _ _ ae hb);exact .list (by grind)
  | some j=>
   obtain ⟨k,rfl,hk⟩:=oN bL;have dK:ord[0+k]? =some id:=by grind
   exact .whole (hR.arr _ id _ _ _ dK ae) ((hR.place _ id dK).trans hb) bc bQ hm
 | @jh e id fz _ ae hb=>
  simp only[ku];cases bL:kq ord id 0 with
  | none=>
   simp only[ae];cases fz with
   | false=>exact .undef
   | true=>simp only[ot,cond_true];exact .list (by simpa using (kV.any (P:=P) fun _=>rfl))
  | some j=>
   obtain ⟨k,rfl,hk⟩:=oN bL;have dK:ord[0+k]? =some id:=by grind
   exact .jh (hR.arr _ id _ _ _ dK ae) ((hR.place _ id dK).trans hb)
 | @sub e id off len es fz b o cap ae hb mY bQ ho=>
  simp only[ku];cases bL:kq ord id 0 with
  | none=>
   simp only[ae];cases fz with
   | false=>exact .undef
   | true=>
    simp only[ot,cond_true];have hr:=S.h.rel id _ ae;cases hr with
    | eF au=>grind
    | arr hL aq au hh hs hf fN hx=>
     rw[hb] at au;cases au;exact .list (vR (I':=I) hh hx (fH aq) mY bQ ho (fun _ _ h=>h) (hT _ _ _ _ ae hb))
  | some j=>
   obtain ⟨k,rfl,hk⟩:=oN bL;have dK:ord[0+k]? =some id:=by grind
   exact .sub (hR.arr _ id _ _ _ dK ae) ((hR.place _ id dK).trans hb) mY bQ ho
 | @ptr id i c b blk ae hd hb=>
  simp only[ku];cases bL:kq ord id 0 with
  | none=>exact .undef
  | some j=>
   obtain ⟨k,rfl,hk⟩:=oN bL;have dK:ord[0+k]? =some id:=by grind
   cases blk with
   | dead=>grind
   | var T0 cs=>
    obtain ⟨lM,h'⟩:=hR.var _ id T0 cs dK ae;exact .ptr (blk:= .var T0 lM) h' (by simp) ((hR.place _ id dK).trans hb)
   | arr e es fz=>exact .ptr (blk:= .arr e es fz) (hR.arr _ id _ _ _ dK ae) (by simp) ((hR.place _ id dK).trans hb)
   | nest e es vers=>exact .ptr (blk:= .nest e es (vers.map fun _=>0)) (hR.nest _ id _ _ _ dK ae) (by simp) ((hR.place _ id dK).trans hb)
   | map t es=>exact .ptr (blk:= .map t es) (hR.map _ id _ _ dK ae) (by simp) ((hR.place _ id dK).trans hb)
   | out e es vs i=>exact .mV (hR.out _ id _ _ _ _ dK ae)
 | fc=>exact .fc
 | @lJ _ t id ae=>
  simp only[ku];cases bL:kq ord id 0 with
  | none=>exact .undef
  | some j=>
   obtain ⟨k,rfl,hk⟩:=oN bL;exact .lJ (hR.dead _ id (by grind) ae)
 | @cK t id b es ae hb=>
  simp only[ku];cases bL:kq ord id 0 with
  | none=>exact .undef
  | some j=>
   obtain ⟨k,rfl,hk⟩:=oN bL;have dK:ord[0+k]? =some id:=by grind
   exact .cK (hR.map _ id _ _ dK ae) ((hR.place _ id dK).trans hb)
 | @fG e id i es vers b cap ae hb bc bQ hm=>
  simp only[ku];cases bL:kq ord id 0 with
  | none=>simp only[ae];exact .undef
  | some j=>
   obtain ⟨k,rfl,hk⟩:=oN bL;exact .dZ (hR.out _ id _ _ _ _ (by grind) ae)
 | @ee e id vers _ ae hb=>
  simp only[ku];cases bL:kq ord id 0 with
  | none=>simp only[ae];exact .undef
  | some j=>
   obtain ⟨k,rfl,hk⟩:=oN bL;have dK:ord[0+k]? =some id:=by grind
   exact .ee (hR.nest _ id _ _ _ dK ae) ((hR.place _ id dK).trans hb)
 | @dO e id es vers b cap ae hb bc bQ hm=>
  simp only[ku];cases bL:kq ord id 0 with
  | none=>simp only[ae];exact .undef
  | some j=>
   obtain ⟨k,rfl,hk⟩:=oN bL;have dK:ord[0+k]? =some id:=by grind
   exact .dO (hR.nest _ id _ _ _ dK ae) ((hR.place _ id dK).trans hb) bc bQ hm
 | @mW v e id ver path blk ae Fs=>
  simp only[ku];split
  ·rename_i j e1 dh vers h1 h2;rw[ae] at h2;cases h2;cases hc:(Nat.blt 0 path.length&&(Nat.ble path.length vers.length&&Nat.beq (bz vers (path.length-1)) ver)) with
   | false=>exact .undef
   | true=>exact (aca hc Fs).elim
  ·exact .undef
 | @mX v id ver i c path blk ae Fs=>
  simp only[ku];split
  ·rename_i j e1 dh vers h1 h2;rw[ae] at h2;cases h2;cases hc:(Nat.blt 0 path.length&&(Nat.ble path.length vers.length&&Nat.beq (bz vers (path.length-1)) ver)) with
   | false=>exact .undef
   | true=>exact (aca hc Fs).elim
  ·exact .undef
 | @row v e e0 t id ver b i c q es l vers ae hb hq hv ht hc=>
  simp only[ku];split
  ·rename_i j e1 dh xO h1 h2;obtain ⟨k,rfl,hk⟩:=oN h1;have dK:ord[0+k]? =some id:=by grind
   cases hx:(Nat.blt 0 (q++[(i,c)]).length&&(Nat.ble (q++[(i,c)]).length xO.length&&Nat.beq (bz xO ((q++[(i,c)]).length-1)) ver)) with
   | false=>exact .undef
   | true=>exact .row (hR.nest _ id _ _ _ dK ae) ((hR.place _ id dK).trans hb) (by grind) (Tg _ _) ht hc
  ·exact .undef
 | @dF e e0 t id ver b b1 len cap i0 c0 i c q es l vers ae hb hq hv ht mZ hc=>
  simp only[ku];split
  ·rename_i j e1 dh xO h1 h2;obtain ⟨k,rfl,hk⟩:=oN h1;have dK:ord[0+k]? =some id:=by grind
   cases hx:(Nat.blt 0 (q++[(i0,c0)]).length&&(Nat.ble (q++[(i0,c0)]).length xO.length&&Nat.beq (bz xO ((q++[(i0,c0)]).length-1)) ver)) with
   | false=>exact .undef
   | true=>exact .dF (hR.nest _ id _ _ _ dK ae) ((hR.place _ id dK).trans hb) (by grind) (Tg _ _) ht mZ hc
  ·exact .undef
theorem acd (S:aA P w I β hp B M w0) (hT:uv P I β hp) {ord:List Nat} (hR:DC hp β ord hp' β') {vs:Array Value} {xs:List V} (h: ∀(j:Nat) v x,vs[j]? =some v→xs[j]? =some x→aj P w I β hp v x) (j:Nat) (v:Value) (y:V)
  (hv:vs[j]? =some v) (hy:(xs.map (ku hp ord))[j]? =some y):aj P w I β' hp' v y:=by
 rw[ki] at hy;cases hx:xs[j]? with
 | none=>grind
 | some x=>rw[hx] at hy;cases hy;exact acb S hT hR (h j v x hv hx)
theorem ace (S:aA P w I β hp B M w0) (hT:uv P I β hp) {ord:List Nat} (hR:DC hp β ord hp' β') {kn:Bool} {n:Nat} {v:Value} {x:V} (hv:aj P w I β hp v x) (hF:pg hp' β' n (B7 hp ord kn n x).2):
  aj P w I β' hp' v (B7 hp ord kn n x).1:=by
 cases x with
 | nilS e=>
  cases hv with
  | nilS=>
   cases kn with
   | true=>exact .nilS
   | false=>
    obtain ⟨h1,h2⟩:=hF 0 _ rfl;exact .dV h1 h2
 | fn f a b=>
  cases hv with
  | fn q1 q2 q3 q4=>exact .fn (by grind) (acd S hT hR q2) (by grind) (acd S hT hR q4)
 | _=>exact acb S hT hR hv
end
section
variable {P:Program} {A:dr} {w w':World} {I I' I2:Nat→Nat→Prop} {μ β β':Nat→Option Nat} {hp hp':Nat→Option ah} {C:af} {B:Nat} {M:Nat→Prop} {w0:Start}
theorem pg.left {n:Nat} {a b:List ah} (h:pg hp' β' n (a++b)):pg hp' β' n a:=fun k x hx=>
 h k x (by rw[nz (cz.1 hx).1];exact hx)
theorem pg.right {n:Nat} {a b:List ah} (h:pg hp' β' n (a++b)):pg hp' β' (n+a.length) b:=fun k x hx=>by
 have:=h (a.length+k) x (by rw[oV (by omega),Kj];exact hx);rwa [←xn] at this
def ry (bs:List ah):Prop:= ∀b∈bs,∃e,b= .arr e [] false
theorem ry.app {a b:List ah} (h1:ry a) (h2:ry b):ry (a++b):=fun x hx=>(fj.1 hx).elim (h1 x) (h2 x)
theorem ry.nil:ry []:=fun x hx=>by simp at hx
theorem acf {ord:List Nat} {kn:Bool} {n:Nat} {x:V}:ry (B7 hp ord kn n x).2:=by
 cases x<;>simp only[B7]<;>first|exact .nil|skip
 cases kn<;>first|exact .nil|skip
 intro b hb;simp only[cond_false,fS] at hb;exact ⟨_,hb⟩
theorem Th {ord:List Nat} {kn:Bool}: ∀{xs:List V} {n:Nat},ry (rT hp ord kn n xs).2
 | [],n=> .nil
 | x::xs,n=>by
  simp only[rT];exact acf.app Th
theorem Nn {ord:List Nat} {kn:Bool}: ∀{xs:List V} {n:Nat},(rT hp ord kn n xs).1.length=xs.length
 | [],n=>rfl
 | x::xs,n=>by simp only[rT,List.length_cons,Nn]
theorem No (S:aA P w I β hp B M w0) (hT:uv P I β hp) {ord:List Nat} (hR:DC hp β ord hp' β') {kn:Bool}: ∀{xs:List V} {vs:List Value} {n:Nat},(∀(j:Nat) v x,vs[j]? =some v→xs[j]? =some x→aj P w I β hp v x)→
  pg hp' β' n (rT hp ord kn n xs).2→∀(j:Nat) v y,vs[j]? =some v→(rT hp ord kn n xs).1[j]? =some y→aj P w I β' hp' v y
 | [],vs,n,h,hF,j,v,y,hv,hy=>by simp[rT] at hy
 | x::xs,vs,n,h,hF,j,v,y,hv,hy=>by
  simp only[rT] at hF hy;cases j with
  | zero=>
   simp at hy;subst hy;exact ace S hT hR (h 0 v x hv rfl) hF.left
  | succ j=>
   cases vs with
   | nil=>simp at hv
   | cons v0 vs=>exact No S hT hR (vs:=vs) (fun j v x hj hx=>h (j+1) v x (by simpa using hj) (by simpa using hx)) hF.right j v y (by simpa using hv) (by simpa using hy)
theorem anM {ord:List Nat} {n:Nat} {x:V}:ry (vL hp ord n x).2:=by
 cases x<;>simp only[vL]<;>first|exact acf|exact Th
theorem anN (S:aA P w I β hp B M w0) (hT:uv P I β hp) {ord:List Nat} (hR:DC hp β ord hp' β') {n:Nat} {v:Value} {x:V} (hv:aj P w I β hp v x) (hF:pg hp' β' n (vL hp ord n x).2):
  aj P w I β' hp' v (vL hp ord n x).1:=by
 cases x with
 | agg cs=>
  obtain ⟨ds,rfl,h1,h2⟩:=hv.nF;simp only[vL] at hF⊢;exact .agg (by rw[Nn];exact h1) fun j v y hj hy=>No S hT hR (vs:=ds.toList) (fun j v x hj hx=>h2 j v x (by simpa using hj) hx) hF j v y (by simpa using hj) hy
 | bd cs=>
  obtain ⟨ds,rfl,h1,h2⟩:=hv.zn;simp only[vL] at hF⊢;exact .bd (by rw[Nn];exact h1) fun j v y hj hy=>No S hT hR (vs:=ds.toList) (fun j v x hj hx=>h2 j v x (by simpa using hj) hx) hF j v y (by simpa using hj) hy
 | _=>exact ace S hT hR hv hF
theorem acg {ord:List Nat} {sl:Nat→V}: ∀{l:List Nat} {n:Nat},ry (pR hp ord sl n l).2
 | [],n=> .nil
 | s::l,n=>by
  simp only[pR];exact anM.app acg
theorem ach {ord:List Nat} {sl:Nat→V} {k:Nat} {y:V}: ∀{l:List Nat} {n:Nat},pg hp' β' n (pR hp ord sl n l).2→fL (pR hp ord sl n l).1 k=some y→
  ∃n',pg hp' β' n' (vL hp ord n' (sl k)).2∧y=(vL hp ord n' (sl k)).1
 | [],n,_,h=>by cases h
 | s::l,n,hF,h=>by
  simp only[pR] at hF h;simp only[fL] at h;cases hb:Nat.beq k s with
  | true=>
   rw[hb] at h;rw[aL] at hb;subst hb;cases h;exact ⟨n,hF.left,rfl⟩
  | false=>
   rw[hb] at h;exact ach hF.right h
theorem anO {ord kp:List Nat} {n id:Nat}:ry (gA hp ord kp n id).2:=by
 unfold gA;split
 ·exact Th
 ·exact .nil
 ·exact .nil
 ·exact .nil
 ·exact .nil
theorem aci {ord kp:List Nat}: ∀{l:List Nat} {n:Nat},ry (jr hp ord kp n l).2
 | [],n=> .nil
 | s::l,n=>by
  simp only[jr];exact anO.app aci
theorem acj {ord kp:List Nat}: ∀{l:List Nat} {n:Nat},(jr hp ord kp n l).1.length=l.length
 | [],n=>rfl
 | x::xs,n=>by simp only[jr,List.length_cons,acj]
theorem ack {ord kp:List Nat}: ∀{l:List Nat} {n j:Nat} {id:Nat},l[j]? =some id→∃n',(pg hp' β' n (jr hp ord kp n l).2→pg hp' β' n' (gA hp ord kp n' id).2)∧(jr hp ord kp n l).1[j]? =some (gA hp ord kp n' id).1
 | [],n,j,id,h=>by simp at h
 | s::l,n,j,id,h=>by
  simp only[jr];cases j with
  | zero=>
   simp at h;subst h;exact ⟨n,fun hF=>hF.left,rfl⟩
  | succ j=>
   obtain ⟨n',h1,h2⟩:=ack (n:=n+(gA hp ord kp n s).2.length) (j:=j) (by simpa using h);exact ⟨n',fun hF=>h1 hF.right,by simpa using h2⟩
theorem HD: ∀{l acc:List Nat},∃t,xF hp acc l=acc++t∧(acc.Nodup→(acc++t).Nodup)
 | [],acc=>⟨[],by simp[xF],by simp⟩
 | id::l,acc=>by
  simp only[xF];cases hb:(iO acc id|| !(Qk hp id)) with
  | true=>exact HD
  | false=>
   obtain ⟨t,h1,h2⟩:=HD (l:=l) (acc:=acc++[id]);refine ⟨id::t,by simp only[cond_false,h1,kQ,List.singleton_append],fun hn=> ?_⟩;have:acc++id::t=(acc++[id])++t:=by simp
   rw[this];refine h2 ?_;rw[EP];refine ⟨hn,by simp,fun a ha b au=> ?_⟩;simp only[fS] at au;subst au;intro e;subst e;rw[zs ha] at hb;cases hb
theorem acm: ∀{n:Nat} {l:List Nat},∃t,grow hp n l=l++t∧(l.Nodup→(l++t).Nodup)
 | 0,l=>⟨[],by simp[grow],by simp⟩
 | n+1,l=>by
  simp only[grow];obtain ⟨t,h1,h2⟩:=HD (hp:=hp) (acc:=l) (l:=l.flatMap (zb hp));rw[h1];obtain ⟨t',h3,h4⟩:=acm (n:=n) (l:=l++t);exact ⟨t++t',by rw[h3,kQ],fun hn=>by rw[←kQ];exact h4 (h2 hn)⟩
theorem anP {m:Nat} {live:List Nat} {st:St}: ∃t,Ql m live st=List.range m++t∧(List.range m++t).Nodup:=by
 unfold Ql;obtain ⟨t,h1,h2⟩:=HD (hp:=st.hp) (acc:=List.range m) (l:=live.flatMap fun s=>B6 (st.sl s));rw[h1];obtain ⟨t',h3,h4⟩:=acm (hp:=st.hp) (n:=3) (l:=List.range m++t);rw[h3];obtain ⟨t2,h5,h6⟩:=HD (hp:=XR st.hp) (acc:=List.range m++t++t') (l:=live.flatMap fun s=>bif Nat.ble (3*KB) s then zb st.hp (s-3*KB) else bif Nat.ble KB s then (B6 (st.sl (s-KB))).flatMap (zb st.hp) else []);exact ⟨t++t'++t2,by rw[h5];simp only[kQ],by simp only[←kQ];exact h6 (h4 (h2 List.nodup_range))⟩
end
end Go.AM
