/-
  Functions of the program, lifted to plain data.
-/
import Derived.Lib.AppendStr
import Derived.Laws.BytesString
import Derived.Lib.Builder
import Derived.Lib.UnsafeStr
import Derived.Laws.Runes
import Derived.Lib.LazyBuf
import Derived.Conc.MuLone
import Derived.Defers
import Derived.Test.YtmdfofkbhepjaaaGreatDoorP2
noncomputable section
set_option linter.unusedVariables false
set_option linter.unusedSimpArgs false
set_option linter.unusedSectionVars false
namespace Go.AM
section
variable {P:Program} {w w':World} {I I':Nat→Nat→Prop} {β β':Nat→Option Nat} {hp hp':Nat→Option ah} {C:af} {B:Nat} {M:Nat→Prop} {w0:Start}
theorem aku {e:TypeId} (he:P.underlying e=some (.int .u8)) (hc:P.cellsOf e=1) (s:ByteArray): ∀(i j:Nat) (x:V) (t':TypeId),(s.data.toList.map Ex)[i]? =some x→(aT P e)[j]? =some t'→j<P.cellsOf e→
  ∃u,(Lib.strCells s)[i*P.cellsOf e+j]? =some u∧Pure P w I t' u (ca P e x j):=by
 intro i j x t' hx ht hj;have oQ:bZ P e=false:=by simp[bZ,he]
 obtain rfl:j=0:=by omega
 simp only[aT,oQ,cond_false,List.getElem?_cons_zero,fb] at ht;subst ht;rw[ld] at hx;cases hb:s.data.toList[i]? with
 | none=>grind
 | some b=>
  rw[hb] at hx;cases hx;refine ⟨.int .u8 b.toNat,?_,?_⟩
  ·rw[hc,im,Nat.add_zero];simp only[Lib.strCells,ld,hb,Option.map_some]
  ·simp only[ca,oQ,cond_false];exact .int he
theorem akv (w:World) (t u ty e T:TypeId) (i:TypeInfo) (ht:P.underlying t=some (.slice e)) (hu:P.underlying u=some .string) (hi:P.info? e=some i) (kz:i.size=1)
  (g mN vO:Nat) (cur:Array Value) (hg:w.heap[g]? =some (.cells cur T (0,0))) (s:ByteArray)
  (ue:mN+s.size≤vO) (Cq:mN+s.size≤cur.size):
  (Builtin.append_ #[t,u] ty #[.slice (some ⟨g,0,none⟩) mN vO,.string s]).run P w=
   .ok (.slice (some ⟨g,0,none⟩) (mN+s.size) vO) (w.setRow g (cur.toList.take mN++Lib.strCells s++cur.toList.drop (mN+s.size)).toArray):=by
 have hf:=Lib.run_firstCells_string (P:=P) w 1 s;have dN:=run_storeCells_at P g mN T (Lib.strCells s) 0 cur w hg (by simpa[Lib.strCells_length] using Cq) (Lib.strCells_oneCell s);simp only[Nat.add_zero,Lib.strCells_length] at dN;simp[Builtin.append_,run_underlying ht,run_underlying hu,sizeOf,typeInfo,hi,kz,Builtin.lenOf,ue,hf,Addr.add_lit,dN]
theorem akw (w:World) (t u ty e:TypeId) (i:TypeInfo) (z:Value) (ht:P.underlying t=some (.slice e)) (hu:P.underlying u=some .string) (hi:P.info? e=some i) (hz:i.zero=some z)
  (s:ByteArray) (h0:0<s.size) (FH:(s.size:Int)≤9223372036854775807) (La:s.size*i.bytes≤281474976710656) (a0:Option Addr):
  (Builtin.append_ #[t,u] ty #[.slice a0 0 0,.string s]).run P w=
   .ok (.slice (some ⟨w.heap.size,0,none⟩) s.size (grownCap w s.size 0 e))
    (w.drew.alloc (.cells (s.data.map (fun b=>Value.int .u8 b.toNat)++Builtin.zeroCells z.cells (grownCap w s.size 0 e-s.size)) e)):=by
 cases a0 with
 | none=>exact run_append_nil_string w t u ty e i z ht hu hi hz s h0 FH La
 | some b=>
  rw[←run_append_nil_string w t u ty e i z ht hu hi hz s h0 FH La];have hn:s.size≠0:=by omega
  have Ri: ¬(9223372036854775807<(s.size:Int)):=by omega
  have akx: ¬(281474976710656<Builtin.nextslicecap s.size 0*i.bytes):=by rw[nextslicecap_zero h0];omega
  simp[Builtin.append_,run_underlying ht,run_underlying hu,sizeOf,typeInfo,zeroValue,hi,hz,Builtin.lenOf,Builtin.firstCells,hn,Ri,akx,Question.forced,newRow,grownCap,loadCells,loadCellsFrom]
theorem Zu (S:az P w I β hp B M w0) {t u ty e:TypeId} {nb:Nat} {fz:Bool} {x:ByteArray} {xs:List V} {i:TypeInfo} {z:Value} (hu:P.underlying t=some (.slice e)) (sU:P.underlying u=some .string) (aq:cZ P e=true) (hn:hp nb=none)
 (hi:P.info? e=some i) (hz:i.zero=some z) (h3:i.size=P.cellsOf e) (h4:z.cells.size=P.cellsOf e) (FQ:i.size=1) (oo:P.bytesOf e=i.bytes) (ep:xs.length*P.bytesOf e≤aX) (qD:xs.length=x.size) (mI:(Lib.strCells x).length=x.size)
 (fD: ∀(i j:Nat) (y:V) (t':TypeId),xs[i]? =some y→(aT P e)[j]? =some t'→j<P.cellsOf e→∃u,(Lib.strCells x)[i*P.cellsOf e+j]? =some u∧Pure P w I t' u (ca P e y j)):
 ∀a0,∃v w' β',(Builtin.append_ #[t,u] ty #[.slice a0 0 0,.string x]).run P w= .ok v w'∧Le P w I β hp w' I β' (ao hp nb (some (.arr e xs fz)))∧az P w' I β' (ao hp nb (some (.arr e xs fz))) B M w0∧
  aj P w' I β' (ao hp nb (some (.arr e xs fz))) v (.whole e nb):=by
 intro a0;have vN:=yM aq;have hlen:xs.length≤2^45:=by
  have:xs.length*1≤xs.length*P.bytesOf e:=wV _ vN;simp only[aX] at ep;omega
 by_cases h0:x.size=0
 ·have jF:xs=[]:=o5 (by omega);subst jF;obtain ⟨a1,a2⟩:=EP S e hn;have hf:=Lib.run_firstCells_string (P:=P) w 1 x;rw[h0] at hf;have iZ:Lib.strCells x=[]:=o5 (by omega);exact ⟨.slice a0 0 0,_,_,by cases a0<;>simp[storeCells,iZ,Builtin.append_,run_underlying hu,run_underlying sU,sizeOf,typeInfo,hi,FQ,Builtin.lenOf,h0,hf],a1,a2,.dS (bH _ _ _) (bH _ _ _)⟩
 ·have cK:=akw (P:=P) w t u ty e i z hu sU hi hz x (by omega) (by omega) (by rw[←oo,←qD];simp only[aX] at ep;omega) a0;have e1:(x.data.map fun b=>Value.int .u8 b.toNat)=(Lib.strCells x).toArray:=by
   apply Array.ext';simp[Lib.strCells]
  rw[e1,←qD] at cK;have qA:=grownCap_ge w xs.length 0 e;have sQ:grownCap w xs.length 0 e≤maxLen:=grownCap_le_maxLen w xs.length 0 e (by simp only[maxLen];omega);obtain ⟨n1,n2,n3⟩:=Cm S.drew (nb:=nb) (cap:=grownCap w xs.length 0 e) (es:=xs) (C0:=(Lib.strCells x).toArray++Builtin.zeroCells z.cells (grownCap w xs.length 0 e-xs.length)) aq hn
   (by
    have:(Lib.strCells x).length=xs.length*P.cellsOf e:=by grind
    simp only[Jt,sg,size_zeroCells,h4,this,←kZ];grind) qA sQ
   (fun i' j y t' hy ht hj=>by
    obtain ⟨u,lE,hp⟩:=fD i' j y t' hy ht hj;have aZ:=(cw.1 lE).1;refine ⟨u,?_,Pure.drew hp⟩;grind)
  exact ⟨_,_,_,cK,(Le.drew w I β hp).trans n1,n2,n3⟩
theorem aky (S:az P w I β hp B M w0) {t u ty e:TypeId} {nb:Nat} {s:Value} {sv:V} {x:ByteArray} {r:R} {rd:List Nat} (hu:P.underlying t=some (.slice e)) (sU:P.underlying u=some .string) (he:P.underlying e=some (.int .u8)) (hs:aj P w I β hp s sv)
  (h:(Bz P nb e sv (.list e (x.data.toList.map Ex))).run C hp=some (r,rd)):dk P ((Builtin.append_ #[t,u] ty #[s,.string x]).run P w) w I β hp B M w0 r:=by
 unfold Bz at h;obtain ⟨aq,h⟩:=aD h;simp only[vb] at h;obtain ⟨_,h⟩:=aD h;have oQ:bZ P e=false:=by simp[bZ,he]
 have gv:P.cellsOf e=1:=by rw[←(oI aq).1,EM oQ];rfl
 obtain ⟨i,z,hi,hz,h3,h4,_⟩:=kL aq;have FQ:i.size=1:=by omega
 have vN:=yM aq;have oo:P.bytesOf e=i.bytes:=by simp[Program.bytesOf,hi]
 have Lk:=aku (P:=P) (w:=w) (I:=I) he gv x;have qD:(x.data.toList.map Ex).length=x.size:=by simp
 have mI:(Lib.strCells x).length=x.size:=Lib.strCells_length x;have h1:=Lib.strCells_oneCell x;generalize jF:x.data.toList.map Ex=xs at*
 cases sv with
 | nilS e'=>
  obtain ⟨hc,h⟩:=aD h;simp only[aJ,aL,gp] at hc;obtain ⟨hn,rfl⟩:=mM h;obtain ⟨a0,rfl⟩: ∃a0,s= .slice a0 0 0:=by cases hs;grind
  obtain ⟨v,w',β',a1,a2,a3,a4⟩:=Zu S hu sU aq hn hi hz h3 h4 FQ oo hc.2 qD mI Lk _;exact ⟨v,w',I,β',a1,a2,a3,a4⟩
 | whole e' id=>
  obtain ⟨l,h⟩:=run_get h;cases ae:hp id with
  | none=>rw[ae] at h;cases h
  | some blk=>
   rw[ae] at h;cases blk with
   | dead=>cases h
   | var _=>cases h
   | nest _ _ _=>cases h
   | map _ _=>cases h
   | out _ _ _ _=>cases h
   | arr dV es fz=>
    obtain ⟨hc,h⟩:=aD h;obtain ⟨hn,rfl⟩:=mM h;simp only[aJ,aL,gp] at hc;obtain ⟨QY,QZ,ep⟩:=hc;subst QY;subst QZ;have bN:nb≠id:=fun e=>by grind
    obtain ⟨k1,k2⟩:=xn S ae;have jh:ao hp id (some ah.dead) nb=none:=by rw[cz _ _ bN];exact hn
    cases hs with
    | dW hd=>grind
    | dM hd=>grind
    | eb hd=>grind
    | fA hd=>grind
    | dS hd hb=>
     rw[ae] at hd;cases hd;simp only[List.length_nil,dq] at ep;obtain ⟨v,w',β',a1,a2,a3,a4⟩:=Zu k2 hu sU aq jh hi hz h3 h4 FQ oo ep qD mI Lk _;exact ⟨v,w',I,β',a1,k1.trans a2,a3,a4⟩
    | @whole _ _ aK pk b cap hd hb bc bS hm=>
     rw[ae] at hd;cases hd;have hr:=S.h.rel id _ ae;cases hr with
     | ey av=>grind
     | @arr _ T0 _ _ b' Ca hL _ av hh xI hf fH xJ=>
      rw[hb] at av;cases av;have hlen:es.length+xs.length≤2^45:=by
       have:(es.length+xs.length)*1≤(es.length+xs.length)*P.bytesOf e:=wV _ vN;simp only[aX] at ep;omega
      rw[lr hh] at bc;have qp: ∀ar blk',ao hp id (some ah.dead) ar=some blk'→¬bf P w (β ar) blk' b:=by
       intro ar blk' h1 h2;by_cases nA:ar=id
       ·subst nA;rw[bH] at h1;cases h1;exact h2.alive rfl
       ·rw[cz _ _ nA] at h1;exact nA (S.h.inj ar id blk' _ b h1 ae h2 (.root (by simp) hb))
      have FI:=S.h.xj id _ b ae (by simp) hb;have rJ:es.length*P.cellsOf e≤Ca.toList.length:=by omega
      have akz:(Lib.strCells x).length=xs.length*P.cellsOf e:=by grind
      by_cases ue:es.length+xs.length≤cap
      ·have Cq:es.length*P.cellsOf e+(Lib.strCells x).length≤Ca.size:=by grind
       have cK:=akv (P:=P) w t u ty e T0 i hu sU hi FQ b es.length cap Ca hh x (by omega) (by grind);have fD:=K9 (P:=P) (w:=w) (I:=I) (n:=es.length) (c:=Ca.toList) rfl (fun i j y t' a b c=>by
        grind) Lk rJ (Ca.toList.drop (es.length*P.cellsOf e+(Lib.strCells x).length))
       generalize KY:(Ca.toList.take es.length++Lib.strCells x++Ca.toList.drop (es.length+x.size)).toArray=C' at cK;have pI:C'.size=Ca.size:=by
        grind
       have Rj:(w.setRow b C').heap[b]? =some (.cells C' T0 (0,0)):=setRow_heap w b Ca C' T0 _ hh;have rM: ∀j,j<es.length*P.cellsOf e→C'[j]? =Ca[j]? :=fun j hj=>by
        grind
       obtain ⟨a1,a2⟩:=BQ k2 (blk:= .arr e (es++xs) fz) (w':=w.setRow b C') jh qp (YT hh Rj (QS hf fH) rM) (fun b' h _=>setRow_other w b b' _ h) (by simp) ⟨rfl,rfl⟩ FI
        (fun b' h=>(dL (h.flat (by simp))).symm) (fun hle=> .arr (pI▸hL) aq rfl Rj (by grind) (fun _ j h=>oF (QS hf fH j h) (fa _ (by simp))) fH fun i j y t' a b c=>by
         obtain ⟨v,hv,hp⟩:=fD i j y t' a b c;refine ⟨v,?_,hp.mono hle.eg hle.cI⟩;grind)
       refine ⟨_,_,_,_,cK,k1.trans a1,a2,?_⟩;have a3:=aj.whole (P:=P) (w:=w.setRow b C') (I:=I) (β:=ao β nb (some b)) (hp:=ao (ao hp id (some .dead)) nb (some (.arr e (es++xs) fz))) (cap:=cap) (b:=b) (es:=es++xs) (fz:=fz) (id:=nb) (e:=e) (bH _ _ _) (bH _ _ _) (by rw[lr Rj,pI,bc]) (by grind) hm;rw[gS,qD] at a3;exact a3
      ·have hold: ∀(j:Nat) v,(Ca.toList.take (es.length*P.cellsOf e))[j]? =some v→w.cell? ((⟨b,0,none⟩:Addr).add j)=some v:=by
        intro j v hj;have dm:=(cw.1 hj).1;have dF:j<es.length*P.cellsOf e:=by grind
        rw[jo dF] at hj;rw[oh,cell?_cells hh,dq];grind
       have cK:=Lib.run_append_grow_string (P:=P) w t u ty e i z hu sU hi hz ⟨b,0,none⟩ es.length cap (Ca.toList.take (es.length*P.cellsOf e)) (by grind) hold x (by omega) (by omega)
        (growslice_fits (by omega) (by rw[←oo,←qD];simp only[aX] at ep;omega))
       rw[←qD] at cK;have qA:=grownCap_ge w (es.length+xs.length) cap e;have sQ:grownCap w (es.length+xs.length) cap e≤maxLen:=grownCap_le_maxLen w _ cap e (by simp only[maxLen];omega);have fD:=K9 (P:=P) (w:=w) (I:=I) (n:=es.length) (c:=Ca.toList) rfl (fun i j y t' a b c=>by
        grind) Lk rJ (Builtin.zeroCells z.cells (grownCap w (es.length+xs.length) cap e-(es.length+xs.length))).toList
       obtain ⟨n1,n2,n3⟩:=Cm k2.drew (nb:=nb) (cap:=grownCap w (es.length+xs.length) cap e) (es:=es++xs)
        (C0:=(Ca.toList.take (es.length*P.cellsOf e)).toArray++(Lib.strCells x).toArray++Builtin.zeroCells z.cells (grownCap w (es.length+xs.length) cap e-(es.length+xs.length))) aq jh
        (by
         have e1:(Ca.toList.take (es.length*P.cellsOf e)).length=es.length*P.cellsOf e:=by simp;omega
         simp only[Jt,sg,size_zeroCells,h4,akz,e1,←kZ];grind) (by grind) sQ
        (fun i j y t' a b c=>by
         obtain ⟨v,hv,hp⟩:=fD i j y t' a b c;refine ⟨v,?_,Pure.drew hp⟩;grind)
       rw[gS] at n3;exact ⟨_,_,_,_,cK,(k1.trans (Le.drew w I β _)).trans n1,n2,n3⟩
 | _=>cases h
end
section
variable {P:Program} {w w':World} {I I':Nat→Nat→Prop} {β β':Nat→Option Nat} {hp hp':Nat→Option ah} {C:af} {B:Nat} {M:Nat→Prop} {w0:Start}
theorem Zv: ∀(ns:List Int) (s:ByteArray),(ns.foldl (fun r n=>r.push (UInt8.ofNat n.toNat)) s).data.toList=s.data.toList++ns.map fun n=>UInt8.ofNat n.toNat
 | [],s=>by simp
 | n::ns,s=>by
  simp only[List.foldl_cons,Zv ns,lb];simp_all
theorem QC {e:TypeId} {u:Value} {x:V} (he:P.underlying e=some (.int .u8)) (hp:Pure P w I e u x):u= .int .u8 x.toInt:=by
 cases hp with
 | int hp'=>rw[he] at hp';cases hp';rfl
 | bool hp'=>grind
 | str hp'=>grind
 | nil hp'=>grind
 | emp hp'=>grind
 | list _ hp'=>grind
theorem akA (S:az P w I β hp B M w0) {src dst e:TypeId} {v:Value} {x:V} {r:R} {rd:List Nat} (hs:P.underlying src=some (.slice e)) (he:P.underlying e=some (.int .u8)) (hd:P.underlying dst=some .string)
  (hv:aj P w I β hp v x) (h:(Rd.ay (cZ P e) (vb e x fun es=> .ret ⟨.str (lg es),[]⟩)).run C hp=some (r,rd)):dk P ((convert src dst v).run P w) w I β hp B M w0 r:=by
 obtain ⟨aq,h⟩:=aD h;obtain ⟨xs,hx,l,h⟩:=FG S.h.rel aq hv h;obtain rfl:=aN h;have oQ:bZ P e=false:=by simp[bZ,he]
 have h1:P.cellsOf e=1:=by rw[←(oI aq).1,EM oQ];rfl
 rcases hx with ⟨⟨a,rfl⟩,rfl⟩|⟨a,c,news,hr⟩
 ·refine .same S (v:= .string .empty) ?_ (.str (by simp[lg]));rw[run_convert_bytes_string w src dst e a 0 0 hs he hd];cases a<;>simp[Conv.bytesToString,loadCells,loadCellsFrom]
 ·have ud:news=(xs.map V.toInt).map (Value.int .u8):=by
   apply List.ext_getElem?;intro j;by_cases hj:j<xs.length
   ·obtain ⟨u,hu,hp⟩:=hr.el j 0 xs[j] e (bU hj) (by simp[aT,oQ]) (by omega);rw[h1] at hu;simp only[ca,oQ,cond_false] at hp;have lE:news[j]? =some u:=by grind
    rw[lE];have:=QC he hp;grind
   ·have hl:news.length=xs.length:=by rw[hr.len,h1];simp
    grind
  have Rk:=run_loadCells_list (P:=P) w a news hr.cell;have hl:news.length=xs.length:=by grind
  rw[hl] at Rk;rw[ud] at Rk;refine .same S (v:= .string ((xs.map V.toInt).foldl (fun r n=>r.push (UInt8.ofNat n.toNat)) ByteArray.empty)) ?_ (.str ?_)
  ·rw[hr.val,run_convert_bytes_string w src dst e _ _ _ hs he hd];exact run_bytesToString w a xs.length c (xs.map V.toInt) Rk
  ·rw[Zv];simp[lg]
theorem akB {n:Int} (h:(decide (0≤n)&&decide (n<128))=true):(Utf8.encode n).data.toList=[UInt8.ofNat n.toNat]:=by
 simp only[aJ,jL] at h;have h1:Utf8.valid n=true:=by rw[validRune_eq];exact cq (by omega)
 unfold Utf8.encode;simp[h1,show n.toNat<128 by omega]
theorem aj.Rl {v:Value} {e:TypeId} (h:aj P w I β hp v (.nilS e)):v= .slice none 0 0:=by cases h;rfl
theorem aj.Ll {v:Value} (h:aj P w I β hp v .eA):v= .pointer none:=by cases h;rfl
section
variable (w:World)
theorem akC (t e:TypeId) (a:Addr) (h:P.underlying t=some (.pointer e)):(binOp .eql t (.pointer (some a)) (.pointer none)).run P w= .ok (.bool false) w:=by
 have h0: ∀d:Nat,(Op.equalIn (d+1) t (.pointer (some a)) (.pointer none)).run P w= .ok false w:=fun d=>by simp[Op.equalIn,run_underlying h]
 simp only[binOp];simp[Op.equal,Op.maxDepth,h0 9999]
theorem akD (t e:TypeId) (a:Addr) (h:P.underlying t=some (.pointer e)):(binOp .neq t (.pointer (some a)) (.pointer none)).run P w= .ok (.bool (!false)) w:=by
 have h0: ∀d:Nat,(Op.equalIn (d+1) t (.pointer (some a)) (.pointer none)).run P w= .ok false w:=fun d=>by simp[Op.equalIn,run_underlying h]
 simp only[binOp];simp[Op.equal,Op.maxDepth,h0 9999]
theorem akE (t e:TypeId) (a:Addr) (h:P.underlying t=some (.pointer e)):(binOp .eql t (.pointer none) (.pointer (some a))).run P w= .ok (.bool false) w:=by
 have h0: ∀d:Nat,(Op.equalIn (d+1) t (.pointer none) (.pointer (some a))).run P w= .ok false w:=fun d=>by simp[Op.equalIn,run_underlying h]
 simp only[binOp];simp[Op.equal,Op.maxDepth,h0 9999]
theorem akF (t e:TypeId) (a:Addr) (h:P.underlying t=some (.pointer e)):(binOp .neq t (.pointer none) (.pointer (some a))).run P w= .ok (.bool (!false)) w:=by
 have h0: ∀d:Nat,(Op.equalIn (d+1) t (.pointer none) (.pointer (some a))).run P w= .ok false w:=fun d=>by simp[Op.equalIn,run_underlying h]
 simp only[binOp];simp[Op.equal,Op.maxDepth,h0 9999]
theorem akG (t e:TypeId) (h:P.underlying t=some (.pointer e)):(binOp .eql t (.pointer none) (.pointer none)).run P w= .ok (.bool true) w:=by
 have h0: ∀d:Nat,(Op.equalIn (d+1) t (.pointer none) (.pointer none)).run P w= .ok true w:=fun d=>by simp[Op.equalIn,run_underlying h]
 simp only[binOp];simp[Op.equal,Op.maxDepth,h0 9999]
theorem akH (t e:TypeId) (h:P.underlying t=some (.pointer e)):(binOp .neq t (.pointer none) (.pointer none)).run P w= .ok (.bool (!true)) w:=by
 have h0: ∀d:Nat,(Op.equalIn (d+1) t (.pointer none) (.pointer none)).run P w= .ok true w:=fun d=>by simp[Op.equalIn,run_underlying h]
 simp only[binOp];simp[Op.equal,Op.maxDepth,h0 9999]
end
theorem Lm (S:az P w I β hp B M w0) {op:BinOp} {t:TypeId} {b:Bool} {x y:Operand} {v1 v2:Value} {r:R} {rd:List Nat} (h:(ptrEq P op t b).run C hp=some (r,rd)) (hg:(eqGuard op t x y v1 v2).run P w= .ok () w)
  (he: ∀e j,P.underlying t=some (.pointer e)→P.info? e=some j→(binOp .eql t v1 v2).run P w= .ok (.bool b) w∧(binOp .neq t v1 v2).run P w= .ok (.bool (!b)) w):
  dk P ((do eqGuard op t x y v1 v2;binOp op t v1 v2:Sem Value).run P w) w I β hp B M w0 r:=by
 unfold ptrEq at h;cases hu:P.underlying t with
 | none=>rw[hu] at h;cases h
 | some d=>
  rw[hu] at h;cases d<;>simp only at h<;>first|(cases h;done)|skip
  rename_i e;obtain ⟨h1,h2⟩:=aD h;obtain ⟨j,hj⟩:=Bn.1 h1;obtain ⟨k1,k2⟩:=he e j hu hj;cases op<;>simp only at h2<;>first|(cases h2;done)|skip
  ·obtain rfl:=aN h2;exact .same S (by simp_all) .bool
  ·obtain rfl:=aN h2;exact .same S (by simp_all) .bool
theorem akI {b n:Nat}:(∀b',b'≠b→(w.freeze ⟨b,0,none⟩ n).heap[b']? =w.heap[b']?)∧bsize (w.freeze ⟨b,0,none⟩ n) b=bsize w b∧w.heap.size≤(w.freeze ⟨b,0,none⟩ n).heap.size∧(w.freeze ⟨b,0,none⟩ n).os=w.os∧(w.freeze ⟨b,0,none⟩ n).output=w.output:=by
 unfold World.freeze;split
 ·grind
 ·refine ⟨fun b' hb=> ?_,?_,by simp,rfl,rfl⟩
  ·grind
  ·simp only[bsize,Jx,sf];grind
theorem akJ {e:TypeId} (hb:isByte P e=true):P.underlying e=some (.int .u8):=by
 unfold isByte at hb;grind
theorem akK (S:az P w I β hp B M w0) {ts:Array TypeId} {ty e:TypeId} {v:Value} {id:Nat} {es:List V} {fz:Bool} (hv:aj P w I β hp v (.whole e id)) (ae:hp id=some (.arr e es fz)) (h0:0<es.length):
  dk P ((Builtin.unsafeSliceData_ ts ty #[v]).run P w) w I β hp B M w0 ⟨.ptr id 0 0,[]⟩:=by
 cases hv with
 | dW h=>grind
 | dS h _=>grind
 | dM h _ _ _ _=>grind
 | eb h _=>grind
 | fA h _ _ _ _=>grind
 | @whole _ _ aK pk b cap h hb bS hle hm=>
  rw[ae] at h;cases h;refine .same S (Lib.run_unsafeSliceData_row w ts ty ⟨b,0,none⟩ es.length cap (by omega)) ?_;have:=aj.ptr (P:=P) (w:=w) (I:=I) (β:=β) (i:=0) (c:=0) ae (by simp) hb;grind
theorem akL {P:Program} {w:World} (pt it ty e T:TypeId) (hp:P.underlying pt=some (.pointer e)) (g cells:Nat) (Ln:w.shape? g=some (T,cells)) (l:List UInt8) (h0:l≠[]) (YV:liesAt P P.depth T (cells/P.cellsOf T) 0 e l.length=true) (FH:l.length≤9223372036854775807)
  (gF: ∀j x,l[j]? =some x→w.cell? ((⟨g,0,none⟩:Addr).add j)=some (.int .u8 x.toNat)):
  (Builtin.unsafeString_ #[pt,it] ty #[.pointer (some ⟨g,0,none⟩),.int .i64 l.length]).run P w= .ok (.string ⟨l.toArray⟩) (w.freeze ⟨g,0,none⟩ l.length):=by
 have hl:l.length≠0:=by grind
 have hlb:=Lib.run_loadBytes (P:=P) w l ⟨g,0,none⟩ .empty gF;have Ri: ¬(9223372036854775807:Int)<(l.length:Int):=by omega
 have akM:Builtin.unsafeString_ #[pt,it] ty #[.pointer (some ⟨g,0,none⟩),.int .i64 l.length]=
   (do
    let n←asInt (.int .i64 l.length)
    if n < 0 then runtimePanic (.error "unsafe.String: len out of range")
    if n > IntKind.i64.max then unsupported (.unsafePointer "String: a length above the largest int")
    if n=0 then pure (.string .empty)
    else if←variablesAt ⟨g,0,none⟩ (←elemOf pt) n.toNat then do
     let s←loadBytes ⟨g,0,none⟩ .empty n.toNat
     Go.freeze ⟨g,0,none⟩ n.toNat
     pure (.string s)
    else unsupported (.unsafePointer "String: not so many bytes at ptr")) := rfl
 rw[akM];have akN:IntKind.i64.max=9223372036854775807:=rfl;have akO: ¬(l.length:Int)<0:=by omega
 simp[asInt,asIntOf,akN,Ri,akO,hl,variablesAt,Ln,elemOf,run_underlying hp,YV,hlb]
theorem akP (S:az P w I β hp B M w0) {t u ty e:TypeId} {vx:Value} {id:Nat} {n:Int} {es:List V} (hu:P.underlying t=some (.pointer e)) (hb:isByte P e=true) (hv:aj P w I β hp vx (.ptr id 0 0))
  (ae:hp id=some (.arr e es false)) (h0:0<n) (hn:n≤es.length) (hm:n.toNat≤pg) (mJ:(es.take n.toNat).all PA=true):dk P ((Builtin.unsafeString_ #[t,u] ty #[vx,.int .i64 n]).run P w) w I β hp B M w0 ⟨.str (lg (es.take n.toNat)),[(id,.dead)]⟩:=by
 obtain ⟨b,Rm,rfl⟩:=hv.ja ae (by simp);have fS:=hb;have he:P.underlying e=some (.int .u8):=by
  unfold isByte at hb;grind
 have oQ:bZ P e=false:=by simp[bZ,he]
 have hr:=S.h.rel id _ ae;rw[Rm] at hr;cases hr with
 | ey av=>cases av
 | @arr _ T0 _ _ b1 Ca hL aq rJ hh hs hI dj fD=>
  cases rJ;have h1:P.cellsOf e=1:=by rw[←(oI aq).1,EM oQ];rfl
  have aZ:=S.ag6 ae (by simp) Rm;have hl:(lg (es.take n.toNat)).length=n.toNat:=by simp[lg];omega
  have pJ:n=((lg (es.take n.toNat)).length:Nat):=by omega
  have cK:=akL (P:=P) (w:=w) t u ty e T0 hu b Ca.size (by simp[World.shape?,hh]) (lg (es.take n.toNat)) (fun h=>by grind) (hL fS h1 _ (by grind)) (by rw[hl];unfold pg at hm;omega) (fun j x hx=>by
   have hj:j<n.toNat:=by
    grind
   have yT:j<es.length:=by omega
   simp only[lg,ld,jo hj,bU yT,Option.map_some,fb] at hx;obtain ⟨v,vK,bK⟩:=fD j 0 es[j] e (bU yT) (by simp[aT,oQ]) (by omega);rw[h1] at vK;simp only[ca,oQ,cond_false] at bK;have:=QC he bK;have hr:=gU.1 mJ es[j] (my (by rw[jo hj];grind));simp only[PA,aJ,jL] at hr;have kI:(x.toNat:Int)=es[j].toInt:=by
    rw[←hx];have:es[j].toInt.toNat<256:=by omega
    simp only[UInt8.toNat_ofNat'];omega
   rw[oh,cell?_cells hh,kI];grind)
  obtain ⟨f1,f2,f3,f4,f5⟩:=akI (w:=w) (b:=b) (n:=n.toNat);obtain ⟨k1,k2⟩:=BR (w':=w.freeze ⟨b,0,none⟩ n.toNat) S ae (by simp) (blk':= .dead) (by trivial) Rm (dj rfl) (by simp) f1 f2 f3 ⟨f4,f5⟩ (fun _=> .dead);rw[←pJ,hl] at cK;refine ⟨.string ⟨(lg (es.take n.toNat)).toArray⟩,_,I,β,?_,k1,k2,.str ?_⟩
  all_goals grind
def Rn:Op→Bool
 | .call {callee:= .value (.func _),..}=>true
 | .call {callee:= .value (.tmp _),..}=>true
 | .defer _=>true
 | _=>false
theorem sG.val {o:Oper} {a:Act} {s:Sem Value} {r:R} (he:execOp a.eval o=(do Pure.pure (Next.value (←s)))) (h:dk P (s.run P w) w I β hp B M w0 r):sG P ((execOp a.eval o).run P w) w I β hp B M w0 r:=by
 rw[he];exact h.op
theorem akQ {A:dw} (S:az P w I β hp B M w0) (hg:jR P A.aE w I) {a:Act} {sl:Nat→V} (hs:oc P w I β hp a sl) {ix nb:Nat} {o:Oper} (Ro:Rn o.op=false) {r:R} {rd:List Nat}
  (h:(jd P A sl ix nb o).run C hp=some (r,rd)):sG P ((execOp a.eval o).run P w) w I β hp B M w0 r:=by
 obtain ⟨dst,op,ty,pos,after,guard⟩:=o;cases op<;>simp only[jd] at h<;>first|(cases h;done)|skip
 case move x=>
  obtain rfl:=aN h;exact ⟨_,w,I,β,.inl (by simp[execOp]),Le.refl w I β hp,S,hs.ev hg ty x⟩
 case assign x=>
  obtain rfl:=aN h;exact ⟨_,w,I,β,.inl (by simp[execOp]),Le.refl w I β hp,S,hs.ev hg ty x⟩
 case pick c x y=>
  have hc:=hs.ev hg ty c;cases zo:aS P A.aE ty sl c<;>rw[zo] at h hc<;>simp only at h<;>first|(cases h;done)|skip
  rename_i t;have akR:=hc.nn;have hx:=hs.ev hg ty x;have hy:=hs.ev hg ty y;have fin: ∀z:V,aj P w I β hp (if t then a.eval x else a.eval y) z→sG P ((execOp a.eval ⟨dst,.pick c x y,ty,pos,after,guard⟩).run P w) w I β hp B M w0 ⟨z,[]⟩:=by
   intro z hz;exact ⟨_,w,I,β,.inl (by simp[execOp,akR,asBool]),Le.refl w I β hp,S,hz⟩
  cases Zw:gone (aS P A.aE ty sl x) with
  | true=>
   rw[Zw] at h;obtain ⟨h1,h⟩:=aD h;obtain rfl:=aN h;grind
  | false=>
   rw[Zw] at h;simp only[cond_false] at h;cases Zx:gone (aS P A.aE ty sl y) with
   | true=>
    rw[Zx] at h;obtain ⟨h1,h⟩:=aD h;obtain rfl:=aN h;grind
   | false=>
    rw[Zx] at h;obtain rfl:=aN h;exact fin _ (Xn hx hy)
 case makeFunc fn x y=>
  cases fn<;>simp only[jd] at h<;>first|(cases h;done)|skip
  rename_i f;obtain rfl:=aN h;refine ⟨.func (.func f) (x.map a.eval) (y.map a.eval),w,I,β,.inl (by simp[execOp,Instr.makeFunc]),Le.refl w I β hp,S,.fn (by simp) (fun j v z hj hz=> ?_) (by simp) (fun j v z hj hz=> ?_)⟩
  ·rw[Array.getElem?_map] at hj;rw[ld,sh] at hz;cases hx:x[j]? with
   | none=>grind
   | some o1=>
    rw[hx] at hj hz;cases hj;cases hz;exact hs.ev hg ty o1
  ·rw[Array.getElem?_map] at hj;rw[ld,sh] at hz;cases hx:y[j]? with
   | none=>grind
   | some o1=>
    rw[hx] at hj hz;cases hj;cases hz;exact hs.ev hg ty o1
 case defer c=>cases Ro
 case makeMap t res=>
  cases res with
  | some x=>cases h
  | none=>exact .val rfl (akp S h)
 case lookup t m k ok=>
  cases ht:pj P t with
  | none=>rw[ht] at h;cases h
  | some q=>
   obtain ⟨kt,vt⟩:=q;rw[ht] at h;exact .val (s:=Instr.lookup t (a.eval m) (a.eval k) ok) rfl (ako S ht (hs.ev hg t m) (hs.ev hg kt k) h)
 case mapUpdate t m k x=>
  cases ht:pj P t with
  | none=>rw[ht] at h;cases h
  | some q=>
   obtain ⟨kt,vt⟩:=q;rw[ht] at h;have:=Zs S ht (hs.ev hg t m) (hs.ev hg kt k) (hs.ev hg vt x) h;exact this.op
 case insert t m k x=>
  cases ht:pj P t with
  | none=>rw[ht] at h;cases h
  | some q=>
   obtain ⟨kt,vt⟩:=q;rw[ht] at h;have:=Zs S ht (hs.ev hg t m) (hs.ev hg kt k) (hs.ev hg vt x) h;exact this.op
 case alloc e=>
  cases dst with
  | none=>exact .val rfl (YI S h)
  | some d=>
   simp only at h;cases ug:iF A.sj d with
   | true=>rw[ug] at h;exact .val rfl (ajO S h)
   | false=>rw[ug] at h;exact .val rfl (YI S h)
 case box e x=>
  exact .val rfl (ajJ S (hs.ev hg e x) h)
 case build t ps=>exact .val rfl (ajL S hs hg h)
 case buildSlice t len ps=>
  cases hu:P.underlying t with
  | none=>rw[hu] at h;cases h
  | some d=>
   rw[hu] at h;cases d<;>simp only at h<;>first|(cases h;done)|skip
   cases dst with
   | none=>exact .val rfl (YZ S hs hg hu h)
   | some d=>
    simp only at h;cases ug:iF A.sj d with
    | true=>rw[ug] at h;exact .val rfl (aj5 S hs hg hu h)
    | false=>rw[ug] at h;exact .val rfl (YZ S hs hg hu h)
 case load t x=>exact .val rfl (ahl S (hs.ev hg ty x) h)
 case store t x y=>
  have:=ajI S (hs.ev hg ty x) (hs.ev hg t y) h;exact this.op
 case nilCheck x=>
  have hx:=hs.ev hg ty x;cases jb:aS P A.aE ty sl x<;>rw[jb] at h hx<;>simp only at h<;>first|(cases h;done)|skip
  ·obtain ⟨⟨blk,ae,hd⟩,l,h⟩:=ES h;obtain rfl:=aN h;have dd:=hx;obtain ⟨b,hb,he⟩:=hx.ja ae hd;rw[he] at dd;exact ⟨_,w,I,β,.inl (by simp only[execOp,he];rfl),Le.refl w I β hp,S,dd⟩
  ·obtain rfl:=aN h;have dd:=hx;obtain ⟨b,o,he,_⟩:=hx.ET;rw[he] at dd;exact ⟨_,w,I,β,.inl (by simp only[execOp,he];rfl),Le.refl w I β hp,S,dd⟩
  ·obtain ⟨e0,es,vers,l,ae,h1,h2,h3,h⟩:=rB h;obtain rfl:=aN h;have dd:=hx;obtain ⟨b,o,he,_⟩:=hx.Xi ae h1 h2 h3;rw[he] at dd;exact ⟨_,w,I,β,.inl (by simp only[execOp,he];rfl),Le.refl w I β hp,S,dd⟩
 case binOp op t x y yt=>
  have hx:=hs.ev hg t x;have hy:=hs.ev hg t y;refine .val (s:=do eqGuard op t x y (a.eval x) (a.eval y);binOp op t (a.eval x) (a.eval y)) rfl ?_;cases jb:aS P A.aE t sl x<;>cases um:aS P A.aE t sl y<;>rw[jb,um] at h<;>rw[jb] at hx<;>rw[um] at hy<;>first|(simp only[mA] at h;cases h;done)|skip
  ·rw[hx.fQ,hy.fQ];have:=ahb S h;simpa[ag8] using this
  ·rw[hx.nn,hy.nn];have:=ahd S h;simpa[ag9] using this
  ·obtain ⟨s1,e1,l1⟩:=hx.oJ;obtain ⟨s2,e2,l2⟩:=hy.oJ;rw[e1,e2];rw[←l1,←l2] at h;have:=ahe (t:=t) S h;simpa[aha] using this
  ·simp only[mA] at h;rw[hx.Rl,hy.Rl];cases hu:P.underlying t with
   | none=>rw[hu] at h;cases h
   | some d=>
    rw[hu] at h;cases d<;>(try (cases h;done))
    cases op<;>simp only at h<;>first|(cases h;done)|skip
    ·obtain rfl:=aN h;exact .same S (by simpa[eqGuard] using run_eql_slice_nil w _ _ none 0 0 hu) .bool
    ·obtain rfl:=aN h;exact .same S (by simpa[eqGuard] using run_neq_slice_nil w _ _ none 0 0 hu) .bool
  ·obtain ⟨cs,e1,h1,h2⟩:=hx.np;obtain ⟨ds,e2,h3,h4⟩:=hy.np;rw[e1,e2];exact ahf S h1 h3 h2 h4 h
  ·
   simp only[mA] at h;obtain ⟨h1,h2⟩:=aD h;clear h;simp only[aJ,aL] at h1;obtain ⟨rfl,rfl,rfl⟩:=h1;obtain ⟨⟨blk,ae,hd⟩,l,h⟩:=ES h2;obtain ⟨b,hb,e1⟩:=hx.ja ae hd;obtain ⟨b',av,e2⟩:=hy.ja ae hd;rw[hb] at av;cases av;rw[e1,e2];exact Lm S h (by cases op<;>simp[eqGuard]) fun e j he hj=>⟨run_eql_ptr_same w _ he hj,Lib.run_neq_ptr_same w _ he hj⟩
  ·simp only[mA] at h;obtain ⟨⟨blk,ae,hd⟩,l,h⟩:=ES h;obtain ⟨b,_,e1⟩:=hx.ja ae hd;rw[e1,hy.Ll];exact Lm S h (by cases op<;>simp[eqGuard]) fun e j he hj=>⟨akC w t e _ he,akD w t e _ he⟩
  ·simp only[mA] at h;obtain ⟨⟨blk,ae,hd⟩,l,h⟩:=ES h;obtain ⟨b,_,e1⟩:=hy.ja ae hd;rw[e1,hx.Ll];exact Lm S h (by cases op<;>simp[eqGuard]) fun e j he hj=>⟨akE w t e _ he,akF w t e _ he⟩
  ·simp only[mA] at h;rw[hx.Ll,hy.Ll];exact Lm S h (by cases op<;>simp[eqGuard]) fun e j he hj=>⟨akG w t e he,akH w t e he⟩
  ·
   simp only[mA] at h;obtain ⟨l,h⟩:=run_get h;split at h
   ·rename_i t2 es ae;obtain ⟨b,hb⟩:=hx.akt ae;rw[hy.Rh,hb];exact Zt (a:=some b) S x y h
   ·cases h
  ·simp only[mA] at h;rw[hx.Rh,hy.Rh];exact Zt (a:=none) S x y h
  ·simp only[mA] at h;rename_i e1 es e2;rw[hy.Rl];cases hu:P.underlying t with
   | none=>rw[hu] at h;cases h
   | some d=>
    rw[hu] at h;cases d<;>(try (cases h;done))
    have hv:(es=[]∧a.eval x= .slice none 0 0)∨(es≠[]∧∃b n c,a.eval x= .slice (some b) n c):=by
     generalize a.eval x=u at hx;cases hx with
     | nl q q0=>
      cases q with
      | nil=>exact .inl ⟨rfl,rfl⟩
      | emp=>cases q0 rfl
      | list g b1 c1 d1 e1=>
       by_cases he:es=[]
       ·cases q0 he
       ·exact .inr ⟨he,_,_,_,rfl⟩
    cases op<;>simp only at h<;>first|(cases h;done)|skip
    ·obtain rfl:=aN h;rcases hv with ⟨rfl,hv⟩|⟨he,b,n,c,hv⟩
     ·rw[hv];exact .same S (by simpa[eqGuard] using run_eql_slice_nil w _ _ none 0 0 hu) .bool
     ·rw[hv];have:Nat.beq es.length 0=false:=by cases es with|nil=>exact absurd rfl he|cons _ _=>rfl
      rw[this];exact .same S (by simpa[eqGuard] using run_eql_slice_nil w _ _ (some b) n c hu) .bool
    ·obtain rfl:=aN h;rcases hv with ⟨rfl,hv⟩|⟨he,b,n,c,hv⟩
     ·rw[hv];exact .same S (by simpa[eqGuard] using run_neq_slice_nil w _ _ none 0 0 hu) .bool
     ·rw[hv];have:Nat.beq es.length 0=false:=by cases es with|nil=>exact absurd rfl he|cons _ _=>rfl
      rw[this];exact .same S (by simpa[eqGuard] using run_neq_slice_nil w _ _ (some b) n c hu) .bool
 case unOp op t x=>exact .val rfl (ahg S (hs.ev hg ty x) h)
 case convert src dst x=>
  have hx:=hs.ev hg ty x;refine .val (s:=convert src dst (a.eval x)) rfl ?_;cases kz:P.underlying src with
  | none=>rw[kz] at h;cases h
  | some d1=>
   cases pK:P.underlying dst with
   | none=>rw[kz,pK] at h;cases d1<;>cases h
   | some d2=>
    rw[kz,pK] at h;have j4: ∀{b:Nat} {T:TypeId} {cs:List V} {id:Nat},hp id=some (.var T cs)→β id=some b→w.shape? b=some (T,cs.length):=by
     intro b T cs id ae hb;have hr:=S.h.rel id _ ae;rw[hb] at hr;cases hr with
     | var av hh bc _ _ _=>cases av;simp[World.shape?,hh,bc]
    cases d1<;>(try (cases d2<;>cases h;done))
    ·cases d2<;>(try (cases h;done))<;>cases jb:aS P A.aE ty sl x<;>rw[jb] at h hx<;>simp only at h<;>first|(cases h;done)|skip
     ·obtain rfl:=aN h;rw[hx.fQ];exact .same S (by simp[convert,run_underlying kz,run_underlying pK,Conv.intToInt]) .int
     ·obtain ⟨hc,h⟩:=aD h;obtain rfl:=aN h;rw[hx.fQ];exact .same S (run_convert_int_string w src dst _ _ (by simp[kz]) pK) (.str (akB hc))
    ·cases d2<;>(try (cases h;done))
     rename_i u;cases jb:aS P A.aE ty sl x<;>rw[jb] at h hx<;>simp only at h<;>first|(cases h;done)|skip
     rename_i id i c;obtain ⟨l,h1⟩:=run_get h;cases ae:hp id with
     | none=>rw[ae] at h1;cases h1
     | some blk=>
      rw[ae] at h1;cases blk<;>simp only at h1<;>first|(cases h1;done)|skip
      rename_i T cs;obtain ⟨h2,h3⟩:=aD h1;simp only[aJ,aL] at h2;obtain ⟨rfl,h4,h5⟩:=h2;obtain ⟨b,hb,e1⟩:=hx.ja ae (by simp);obtain rfl:=aN h3;obtain ⟨j,hj⟩:=Bn.1 h4;have dd:=hx;rw[e1] at dd⊢;exact .same S (Lib.run_from_unsafe w _ kz pK hj (j4 ae hb) (by grind)) dd
    ·cases d2<;>(try (cases h;done))
     rename_i t;cases jb:aS P A.aE ty sl x<;>rw[jb] at h hx<;>simp only at h<;>first|(cases h;done)|skip
     rename_i id i c;obtain ⟨l,h1⟩:=run_get h;cases ae:hp id with
     | none=>rw[ae] at h1;cases h1
     | some blk=>
      rw[ae] at h1;cases blk<;>simp only at h1<;>first|(cases h1;done)|skip
      rename_i T cs;obtain ⟨h2,h3⟩:=aD h1;simp only[aJ,aL,mY] at h2;obtain ⟨rfl,h4,h5⟩:=h2;obtain ⟨b,hb,e1⟩:=hx.ja ae (by simp);obtain rfl:=aN h3;cases hj:P.info? t with
      | none=>grind
      | some j=>
       rw[hj] at h5;simp only[mZ] at h5;have h6:j.size≠0:=fun e=>by simp_all
       have dd:=hx;rw[e1] at dd⊢;exact .same S (Lib.run_to_unsafe w _ kz pK hj h6 (j4 ae hb) (by grind)) dd
    ·rename_i e;cases d2<;>(try (cases h;done))
     simp only at h;cases he:P.underlying e with
     | none=>rw[he] at h;cases h
     | some d3=>
      rw[he] at h;cases d3<;>(try (cases h;done))
      rename_i k;cases k<;>(try (cases h;done))
      exact akA S kz he pK hx h
 case fieldAddr s x f=>exact .val rfl (ahh S (hs.ev hg ty x) h)
 case field s x f=>exact .val rfl (aj6 S (hs.ev hg ty x) h)
 case indexAddr t x y=>exact .val rfl (akf S (hs.ev hg ty x) (hs.ev hg 0 y) h)
 case index t x y=>
  have hx:=hs.ev hg ty x;have hy:=hs.ev hg 0 y;refine .val (s:=Instr.index t (a.eval x) (a.eval y)) rfl ?_;cases hu:P.underlying t with
  | none=>rw[hu] at h;cases h
  | some d=>
   rw[hu] at h;cases d<;>(try (cases h;done))
   ·cases jb:aS P A.aE ty sl x<;>rw[jb] at h hx<;>(try (cases h;done))
    cases um:aS P A.aE 0 sl y<;>rw[um] at h hy<;>(try (cases h;done))
    obtain ⟨s,e1,l1⟩:=hx.oJ;rw[e1,hy.fQ];exact aj8 S hu l1 h
   ·cases jb:aS P A.aE ty sl x<;>rw[jb] at h hx<;>(try (cases h;done))
    cases um:aS P A.aE 0 sl y<;>rw[um] at h hy<;>(try (cases h;done))
    rw[hy.fQ];exact aj9 S hu hx h
 case slice t x lo hi mx=>
  cases mx with
  | some m=>
   simp only at h;refine .val (s:=Instr.sliceAt t (a.eval x) (lo.map a.eval) (hi.map a.eval) (some (a.eval m))) (by simp[execOp]) (akc S (hs.ev hg ty x) (fun hy=> ?_) (fun y hy=> ?_) (fun y hy=> ?_) h)
   ·simp_all
   ·cases hi with
    | none=>cases hy
    | some l=>cases hy;exact ⟨_,rfl,hs.ev hg 0 l⟩
   ·cases hy;exact ⟨_,rfl,hs.ev hg 0 m⟩
  | none=>
   simp only at h;have plain:(JS P t (aS P A.aE ty sl x) (lo.map (aS P A.aE 0 sl)) (hi.map (aS P A.aE 0 sl))).run C hp=some (r,rd)→sG P ((execOp a.eval ⟨dst,.slice t x lo hi none,ty,pos,after,guard⟩).run P w) w I β hp B M w0 r:=by
    intro h;refine .val (s:=Instr.sliceAt t (a.eval x) (lo.map a.eval) (hi.map a.eval) none) (by simp[execOp]) (akb S (hs.ev hg ty x) (fun y hy=> ?_) (fun y hy=> ?_) (fun hy=> ?_) (fun hy=> ?_) h)
    ·cases lo with
     | none=>cases hy
     | some l=>cases hy;exact ⟨_,rfl,hs.ev hg 0 l⟩
    ·cases hi with
     | none=>cases hy
     | some l=>cases hy;exact ⟨_,rfl,hs.ev hg 0 l⟩
    all_goals simp_all
   have tr:(JT P nb t (aS P A.aE ty sl x) (lo.map (aS P A.aE 0 sl)) (hi.map (aS P A.aE 0 sl))).run C hp=some (r,rd)→sG P ((execOp a.eval ⟨dst,.slice t x lo hi none,ty,pos,after,guard⟩).run P w) w I β hp B M w0 r:=by
    intro h;refine .val (s:=Instr.sliceAt t (a.eval x) (lo.map a.eval) (hi.map a.eval) none) (by simp[execOp]) (akg S (hs.ev hg ty x) (fun y hy=> ?_) (fun hy=> ?_) h)
    ·cases hi with
     | none=>cases hy
     | some l=>cases hy;exact ⟨_,rfl,hs.ev hg 0 l⟩
    simp_all
   grind
 case extract x i=>
  have hx:=hs.ev hg ty x;cases jb:aS P A.aE ty sl x<;>rw[jb] at h hx<;>simp only at h<;>first|(cases h;done)|skip
  exact .val (s:=Instr.extract (a.eval x) i) rfl (aj7 S hx h)
 case makeSlice t l c=>
  have hl:=hs.ev hg 0 l;have hc:=hs.ev hg 0 c;refine .val (s:=Instr.makeSlice t (a.eval l) (a.eval c)) rfl ?_;cases hu:P.underlying t with
  | none=>rw[hu] at h;cases h
  | some d=>
   rw[hu] at h;cases d<;>(try (cases h;done))
   cases Rp:aS P A.aE 0 sl l<;>rw[Rp] at h hl<;>(try (cases h;done))
   cases zo:aS P A.aE 0 sl c<;>rw[zo] at h hc<;>(try (cases h;done))
   rw[hl.fQ,hc.fQ];cases dst with
   | none=>exact Y0 S hu h
   | some d=>
    simp only at h;cases hg:iF A.sj d with
    | true=>rw[hg] at h;exact ajQ S hu h
    | false=>rw[hg] at h;exact Y0 S hu h
 case call c=>
  obtain ⟨callee,args,argTypes⟩:=c;cases callee with
  | invoke r m=>cases h
  | value f=>
   cases f with
   | func f=>cases Ro
   | tmp f=>cases Ro
   | _=>cases h
  | builtin b=>
   have one: ∀{x:Operand},args.toList=[x]→args= #[x]:=fun h=>by grind
   have vT: ∀(s:Array TypeId→TypeId→Array Value→Sem Value),builtin b argTypes ty (args.map fun| .const _=>true|_=>false) (args.map a.eval)=(do Pure.pure (Next.value (←s argTypes ty (args.map a.eval))))→
     execOp a.eval ⟨dst,.call ⟨.builtin b,args,argTypes⟩,ty,pos,after,guard⟩=(do Pure.pure (Next.value (←s argTypes ty (args.map a.eval)))):=by
    intro s hb;simp only[execOp,resolve,pure_bind,invoke];exact hb
   cases b<;>(try (cases h;done))
   case append=>
    simp only at h;cases ha:args.toList with
    | nil=>rw[ha] at h;cases h
    | cons x l=>
     cases l with
     | nil=>rw[ha] at h;cases h
     | cons y l2=>
      cases l2 with
      | cons _ _=>rw[ha] at h;cases h
      | nil=>
       cases fP:argTypes.toList with
       | nil=>rw[ha,fP] at h;cases h
       | cons t l3=>
        cases l3 with
        | nil=>rw[ha,fP] at h;cases h
        | cons u l4=>
         cases l4 with
         | cons _ _=>rw[ha,fP] at h;cases h
         | nil=>
          rw[ha,fP] at h;simp only at h;have e1:args= #[x,y]:=by grind
          have e2:argTypes= #[t,u]:=by grind
          cases hu:P.underlying t with
          | none=>rw[hu] at h;cases h
          | some d=>
           rw[hu] at h;cases d<;>(try (cases h;done))
           cases hc:Nat.beq t u with
           | true=>
            rw[hc] at h;rw[aL] at hc;subst hc;simp only[cond_true] at h;refine .val (vT Builtin.append_ rfl) ?_;rw[e1,e2];cases dst with
            | none=>
             have:=Y7 (ty:=ty) S hu (hs.ev hg t x) (hs.ev hg t y) h;grind
            | some d=>
             simp only at h;cases ug:iF A.sj d with
             | true=>
              rw[ug] at h;have:=ajZ (ty:=ty) S hu (hs.ev hg t x) (hs.ev hg t y) h;grind
             | false=>
              rw[ug] at h;have:=Y7 (ty:=ty) S hu (hs.ev hg t x) (hs.ev hg t y) h;grind
           | false=>
            rw[hc] at h;simp only[cond_false] at h;have hy:=hs.ev hg u y;cases sU:P.underlying u with
            | none=>rw[sU] at h;cases h
            | some du=>
             rw[sU] at h;cases du<;>(try (cases h;done))
             cases um:aS P A.aE u sl y<;>rw[um] at h hy<;>(try (cases h;done))
             simp only at h;obtain ⟨hb,h⟩:=aD h;obtain ⟨s1,q1,q2⟩:=hy.oJ;subst q2;have:=aky (ty:=ty) S hu sU (akJ hb) (hs.ev hg t x) h;refine .val (vT Builtin.append_ rfl) ?_;grind
   case len=>
    simp only at h;cases ha:args.toList with
    | nil=>rw[ha] at h;cases h
    | cons x l=>
     cases l with
     | cons _ _=>rw[ha] at h;cases h
     | nil=>
      cases fP:argTypes.toList with
      | nil=>rw[ha,fP] at h;cases h
      | cons t l3=>
       cases l3 with
       | cons _ _=>rw[ha,fP] at h;cases h
       | nil=>
        rw[ha,fP] at h;simp only at h;have e1:args= #[x]:=by grind
        have e2:argTypes= #[t]:=by grind
        have hx:=hs.ev hg ty x;refine .val (vT Builtin.len_ rfl) ?_;rw[e1,e2];cases hu:P.underlying t with
        | none=>rw[hu] at h;cases h
        | some d=>
         rw[hu] at h;cases d<;>(try (cases h;done))
         ·cases jb:aS P A.aE ty sl x<;>rw[jb] at h hx<;>(try (cases h;done))
          have:=Xo (t:=t) (ty:=ty) S hx (fun l hl=>hu) (fun hn=>absurd rfl (hn _)) h;grind
         ·have h2:(∀l,aS P A.aE ty sl x≠ .str l)∧(JM P (aS P A.aE ty sl x)).run C hp=some (r,rd):=by
           cases jb:aS P A.aE ty sl x<;>rw[jb] at h<;>first|(cases h;done)|exact ⟨fun l=>by simp,h⟩
          have:=Xo (t:=t) (ty:=ty) S hx (fun l hl=>absurd hl (h2.1 l)) (fun _=>⟨_,hu⟩) h2.2;grind
         ·have h2:(JR (aS P A.aE ty sl x)).run C hp=some (r,rd):=by
           omega
          have:=aks (t:=t) (ty:=ty) S hu hx h2;grind
   case unsafeSliceData=>
    simp only at h;cases ha:args.toList with
    | nil=>rw[ha] at h;cases h
    | cons x l=>
     cases l with
     | cons _ _=>rw[ha] at h;cases h
     | nil=>
      rw[ha] at h;simp only at h;have e1:args= #[x]:=by grind
      have hx:=hs.ev hg ty x;refine .val (vT Builtin.unsafeSliceData_ rfl) ?_;rw[e1];cases jb:aS P A.aE ty sl x<;>rw[jb] at h hx<;>simp only at h<;>first|(cases h;done)|skip
      rename_i e id;obtain ⟨l2,h1⟩:=run_get h;cases ae:hp id with
      | none=>rw[ae] at h1;cases h1
      | some blk=>
       rw[ae] at h1;cases blk<;>simp only at h1<;>first|(cases h1;done)|skip
       rename_i e' es fz;obtain ⟨h2,h3⟩:=aD h1;simp only[aJ,aL,mY] at h2;obtain ⟨rfl,h4⟩:=h2;obtain rfl:=aN h3;have:=akK (ts:=argTypes) (ty:=ty) S hx ae h4;grind
   case unsafeString=>
    simp only at h;cases ha:args.toList with
    | nil=>rw[ha] at h;cases h
    | cons x l=>
     cases l with
     | nil=>rw[ha] at h;cases h
     | cons y l2=>
      cases l2 with
      | cons _ _=>rw[ha] at h;cases h
      | nil=>
       cases fP:argTypes.toList with
       | nil=>rw[ha,fP] at h;cases h
       | cons t l3=>
        cases l3 with
        | nil=>rw[ha,fP] at h;cases h
        | cons u l4=>
         cases l4 with
         | cons _ _=>rw[ha,fP] at h;cases h
         | nil=>
          rw[ha,fP] at h;simp only at h;have e1:args= #[x,y]:=by grind
          have e2:argTypes= #[t,u]:=by grind
          have hx:=hs.ev hg ty x;have hy:=hs.ev hg ty y;cases hu:P.underlying t with
          | none=>rw[hu] at h;cases h
          | some d=>
           rw[hu] at h;cases d<;>(try (cases h;done))
           rename_i e;cases jb:aS P A.aE ty sl x<;>rw[jb] at h hx<;>(try (cases h;done))
           cases um:aS P A.aE ty sl y<;>rw[um] at h hy<;>(try (cases h;done))
           rename_i id i c k n;cases k<;>(try (cases h;done))
           simp only at h;obtain ⟨l2,h1⟩:=run_get h;cases ae:hp id with
           | none=>rw[ae] at h1;cases h1
           | some blk=>
            rw[ae] at h1;cases blk<;>simp only at h1<;>first|(cases h1;done)|skip
            rename_i e' es fz;cases fz<;>simp only at h1<;>first|(cases h1;done)|skip
            obtain ⟨h2,h3⟩:=aD h1;simp only[aJ,aL,gp,jL] at h2;obtain ⟨rfl,h4,rfl,rfl,h5,h6,h7,h8⟩:=h2;obtain rfl:=aN h3;have:=akP (u:=u) (ty:=ty) S hu h4 hx ae h5 h6 h7 h8;refine .val (vT Builtin.unsafeString_ rfl) ?_;rw[e1,e2];simpa[hy.fQ] using this
   case copy=>
    simp only at h;cases ha:args.toList with
    | nil=>rw[ha] at h;cases h
    | cons x l=>
     cases l with
     | nil=>rw[ha] at h;cases h
     | cons y l2=>
      cases l2 with
      | cons _ _=>rw[ha] at h;cases h
      | nil=>
       cases fP:argTypes.toList with
       | nil=>rw[ha,fP] at h;cases h
       | cons t l3=>
        cases l3 with
        | nil=>rw[ha,fP] at h;cases h
        | cons u l4=>
         cases l4 with
         | cons _ _=>rw[ha,fP] at h;cases h
         | nil=>
          rw[ha,fP] at h;simp only at h;have e1:args= #[x,y]:=by grind
          have e2:argTypes= #[t,u]:=by grind
          cases hu:P.underlying t with
          | none=>rw[hu] at h;cases h
          | some d=>
           rw[hu] at h;cases d<;>(try (cases h;done))
           have:=ajW (u:=u) (ty:=ty) S hu (hs.ev hg t x) (hs.ev hg u y) h;refine .val (vT Builtin.copy_ rfl) ?_;grind
   case clear=>
    simp only at h;cases ha:args.toList with
    | nil=>rw[ha] at h;cases h
    | cons x l=>
     cases l with
     | cons _ _=>rw[ha] at h;cases h
     | nil=>
      cases fP:argTypes.toList with
      | nil=>rw[ha,fP] at h;cases h
      | cons t l3=>
       cases l3 with
       | cons _ _=>rw[ha,fP] at h;cases h
       | nil=>
        rw[ha,fP] at h;simp only at h;have e1:args= #[x]:=by grind
        have e2:argTypes= #[t]:=by grind
        cases hu:P.underlying t with
        | none=>rw[hu] at h;cases h
        | some d=>
         rw[hu] at h;cases d<;>(try (cases h;done))
         have:=ajX (ty:=ty) S hu (hs.ev hg t x) h;refine .val (vT Builtin.clear_ rfl) ?_;grind
   case max=>
    simp only at h;cases ha:args.toList with
    | nil=>rw[ha] at h;cases h
    | cons x l=>
     rw[ha] at h;simp only at h;have:=Q4 S true (vs:=l.map a.eval) (xs:=l.map (aS P A.aE ty sl)) (hs.ev hg ty x) (by simp) (fun j u y hu hy=>by
      simp only[ld] at hu hy;cases hl:l[j]? with
      | none=>grind
      | some z=>rw[hl] at hu hy;cases hu;cases hy;exact hs.ev hg ty z) h
     refine .val (vT Builtin.max_ rfl) ?_;simpa[Builtin.max_,ha] using this
   case min=>
    simp only at h;cases ha:args.toList with
    | nil=>rw[ha] at h;cases h
    | cons x l=>
     rw[ha] at h;simp only at h;have:=Q4 S false (vs:=l.map a.eval) (xs:=l.map (aS P A.aE ty sl)) (hs.ev hg ty x) (by simp) (fun j u y hu hy=>by
      simp only[ld] at hu hy;cases hl:l[j]? with
      | none=>grind
      | some z=>rw[hl] at hu hy;cases hu;cases hy;exact hs.ev hg ty z) h
     refine .val (vT Builtin.min_ rfl) ?_;simpa[Builtin.min_,ha] using this
end
section
variable {P:Program} {A:dw} {w w':World} {I I' I2:Nat→Nat→Prop} {μ β β':Nat→Option Nat} {hp hp':Nat→Option ah} {C:af} {B:Nat} {M:Nat→Prop} {w0:Start}
theorem zu: ∀{l m:List Nat},ga.rv l m=true→l=m
 | [],[],_=>rfl
 | [],_::_,h=>by cases h
 | _::_,[],h=>by cases h
 | a::l,b::m,h=>by
  simp only[ga.rv,aJ,aL] at h;rw[h.1,zu h.2]
@[simp] theorem Zy (n:Nat):jP (fy n)=n:=by simp[jP,fy,V.toInt]
theorem Lo: ∀(path:List (Nat×Nat)) (rest:List V),Et (path.map (·.2)) ((path.map fun p=>fy p.1)++rest)=path
 | [],_=>rfl
 | p::l,rest=>by
  simp only[lb,List.cons_append,Et,V.nth,Zy,List.drop_succ_cons,wQ,Lo l rest]
theorem Lq {l:LS} {x:V} {ds:List V} (h:ga l x=some ds):ds.length=l.size∧(l= .u6∨∀rest,lh l (ds++rest)=x):=by
 cases l with
 | u6=>simp only[ga,fb] at h;subst h;exact ⟨rfl,.inl rfl⟩
 | int k=>
  cases x<;>simp only[ga] at h<;>first|(cases h;done)|skip
  rename_i k' n;by_cases hk:k=k'
  ·subst hk;simp only[decide_true,cond_true,fb] at h;subst h;exact ⟨rfl,.inr fun _=>rfl⟩
  grind
 | bool=>
  cases x<;>simp only[ga] at h<;>first|(cases h;done)|skip
  cases h;exact ⟨rfl,.inr fun _=>rfl⟩
 | str=>
  cases x<;>simp only[ga] at h<;>first|(cases h;done)|skip
  cases h;exact ⟨rfl,.inr fun _=>rfl⟩
 | list e=>
  cases x<;>simp only[ga] at h<;>first|(cases h;done)|skip
  rename_i e' es;cases hb:Nat.beq e e' with
  | false=>grind
  | true=>
   rw[hb] at h;rw[aL] at hb;subst hb;cases h;exact ⟨rfl,.inr fun _=>rfl⟩
 | whole e j=>
  cases x<;>simp only[ga] at h<;>first|(cases h;done)|skip
  rename_i e' id;cases hb:(Nat.beq e e'&&Nat.beq j id) with
  | false=>grind
  | true=>
   rw[hb] at h;simp only[aJ,aL] at hb;obtain ⟨rfl,rfl⟩:=hb;cases h;exact ⟨rfl,.inr fun _=>rfl⟩
 | sub e j=>
  cases x<;>simp only[ga] at h<;>first|(cases h;done)|skip
  rename_i e' id o n;cases hb:(Nat.beq e e'&&Nat.beq j id) with
  | false=>grind
  | true=>
   rw[hb] at h;simp only[aJ,aL] at hb;obtain ⟨rfl,rfl⟩:=hb;cases h;exact ⟨rfl,.inr fun _=>by simp[lh,V.nth]⟩
 | ptr j=>
  cases x<;>simp only[ga] at h<;>first|(cases h;done)|skip
  rename_i id i c;cases hb:(Nat.beq j id) with
  | false=>grind
  | true=>
   rw[hb] at h;rw[aL] at hb;subst hb;cases h;exact ⟨rfl,.inr fun _=>by simp[lh,V.nth]⟩
 | ax j i c=>
  cases x<;>simp only[ga] at h<;>first|(cases h;done)|skip
  rename_i id i' c';cases hb:(Nat.beq j id&&(Nat.beq i i'&&Nat.beq c c')) with
  | false=>grind
  | true=>
   rw[hb] at h;simp only[aJ,aL] at hb;obtain ⟨rfl,rfl,rfl⟩:=hb;cases h;exact ⟨rfl,.inr fun _=>rfl⟩
 | nilS e=>
  cases x<;>simp only[ga] at h<;>first|(cases h;done)|skip
  rename_i e';cases hb:Nat.beq e e' with
  | false=>grind
  | true=>
   rw[hb] at h;rw[aL] at hb;subst hb;cases h;exact ⟨rfl,.inr fun _=>rfl⟩
 | nl e=>
  cases x<;>simp only[ga] at h<;>first|(cases h;done)|skip
  rename_i e' es;cases hb:Nat.beq e e' with
  | false=>grind
  | true=>
   rw[hb] at h;rw[aL] at hb;subst hb;cases h;exact ⟨rfl,.inr fun _=>rfl⟩
 | eA=>
  cases x<;>simp only[ga] at h<;>first|(cases h;done)|skip
  cases h;exact ⟨rfl,.inr fun _=>rfl⟩
 | cG e j=>
  cases x<;>simp only[ga] at h<;>first|(cases h;done)|skip
  rename_i e' id;cases hb:(Nat.beq e e'&&Nat.beq j id) with
  | false=>grind
  | true=>
   rw[hb] at h;simp only[aJ,aL] at hb;obtain ⟨rfl,rfl⟩:=hb;cases h;exact ⟨rfl,.inr fun _=>rfl⟩
 | eU e=>
  cases x<;>simp only[ga] at h<;>first|(cases h;done)|skip
  rename_i e';cases hb:Nat.beq e e' with
  | false=>grind
  | true=>
   rw[hb] at h;rw[aL] at hb;subst hb;cases h;exact ⟨rfl,.inr fun _=>rfl⟩
 | Bu k n=>
  cases x<;>simp only[ga] at h<;>first|(cases h;done)|skip
  rename_i k' m;cases hb:(decide (k=k')&&decide (m=n)) with
  | false=>grind
  | true=>
   rw[hb] at h;simp only[aJ,jL] at hb;obtain ⟨rfl,rfl⟩:=hb;cases h;exact ⟨rfl,.inr fun _=>rfl⟩
 | JE b=>
  cases x<;>simp only[ga] at h<;>first|(cases h;done)|skip
  rename_i c;cases hb:decide (b=c) with
  | false=>grind
  | true=>
   rw[hb] at h;obtain rfl:=of_decide_eq_true hb;cases h;exact ⟨rfl,.inr fun _=>rfl⟩
 | row e j cs=>
  cases x<;>simp only[ga] at h<;>first|(cases h;done)|skip
  rename_i e' id ver path;cases hb:(Nat.beq e e'&&(Nat.beq j id&&(Nat.beq ver 0&&ga.rv cs (path.map (·.2))))) with
  | false=>grind
  | true=>
   rw[hb] at h;simp only[aJ,aL] at hb;obtain ⟨rfl,rfl,rfl,sH⟩:=hb;have:=zu sH;subst this;cases h;exact ⟨by simp[LS.size],.inr fun rest=>by simp only[lh,Lo]⟩
 | dE j cs c=>
  cases x<;>simp only[ga] at h<;>first|(cases h;done)|skip
  rename_i id ver path i c';cases hb:(Nat.beq j id&&(Nat.beq ver 0&&(Nat.beq c c'&&ga.rv cs (path.map (·.2))))) with
  | false=>grind
  | true=>
   rw[hb] at h;simp only[aJ,aL] at hb;obtain ⟨rfl,rfl,rfl,sH⟩:=hb;have:=zu sH;subst this;cases h;exact ⟨by simp[LS.size],.inr fun rest=>by simp only[lh,List.cons_append,V.nth,Zy,List.drop_succ_cons,wQ,Lo]⟩
def LS.below (n:Nat) (x:V):Prop:= ∀id∈fG x,id<n
def Zz:V→Prop
 | .agg _=>False
 | .bd _=>False
 | .fn .. =>False
 | .pref .. =>False
 | _=>True
theorem zw {c:Bool} {a d:List V} (h:(bif c then some a else none)=some d):c=true:=by
 grind
theorem akS {l:LS} {x:V} {ds:List V} {n:Nat} (h:ga l x=some ds) (hl:l≠ .u6) (aq:l.ok n=true):Zz x∧LS.below n x:=by
 cases l<;>cases x<;>simp only[ga] at h<;>first|(cases h;done)|(exact absurd rfl hl)|skip
 all_goals refine ⟨trivial,fun id ae=> ?_⟩
 all_goals simp only[fG,fx,mz] at ae
 all_goals subst ae
 all_goals simp only[LS.ok,mY] at aq
 all_goals
  have hb:=zw h;simp_all
theorem aj.akT {v:Value} {x:V} (h:aj P w I β hp v x) (hx:Zz x) (hs: ∀id∈fG x,hp' id=hp id∧β' id=β id):aj P w I β' hp' v x:=by
 have one: ∀{id},id∈fG x→hp' id=hp id∧β' id=β id:=fun h=>hs _ h;cases h with
 | undef=>exact .undef
 | int=>exact .int
 | bool=>exact .bool
 | str h=>exact .str h
 | list h=>exact .list h
 | nilS=>exact .nilS
 | nl h h0=>exact .nl h h0
 | agg=>exact hx.elim
 | bd=>exact hx.elim
 | eA=>exact .eA
 | fn=>exact hx.elim
 | pref=>exact hx.elim
 | dW h=>exact .dW ((one (by simp[fG])).1.trans h)
 | jx h=>exact .jx ((one (by simp[fG])).1.trans h)
 | mD h=>exact .mD ((one (by simp[fG])).1.trans h)
 | dS h hb=>exact .dS ((one (by simp[fG])).1.trans h) ((one (by simp[fG])).2.trans hb)
 | whole h hb a b c=>exact .whole ((one (by simp[fG])).1.trans h) ((one (by simp[fG])).2.trans hb) a b c
 | dM h hb a b c=>exact .dM ((one (by simp[fG])).1.trans h) ((one (by simp[fG])).2.trans hb) a b c
 | eb h hb=>exact .eb ((one (by simp[fG])).1.trans h) ((one (by simp[fG])).2.trans hb)
 | fA h hb a b c=>exact .fA ((one (by simp[fG])).1.trans h) ((one (by simp[fG])).2.trans hb) a b c
 | iX h hb=>exact .iX ((one (by simp[fG])).1.trans h) ((one (by simp[fG])).2.trans hb)
 | sub h hb a b c=>exact .sub ((one (by simp[fG])).1.trans h) ((one (by simp[fG])).2.trans hb) a b c
 | ptr h hd hb=>exact .ptr ((one (by simp[fG])).1.trans h) hd ((one (by simp[fG])).2.trans hb)
 | mE h vM=>exact .mE ((one (by simp[fG])).1.trans h) vM
 | mF h vM=>exact .mF ((one (by simp[fG])).1.trans h) vM
 | row h hb a b c d=>exact .row ((one (by simp[fG])).1.trans h) ((one (by simp[fG])).2.trans hb) a b c d
 | dE h hb a b c d e=>exact .dE ((one (by simp[fG])).1.trans h) ((one (by simp[fG])).2.trans hb) a b c d e
 | eU=>exact .eU
 | ln h=>exact .ln ((one (by simp[fG])).1.trans h)
 | cG h hb=>exact .cG ((one (by simp[fG])).1.trans h) ((one (by simp[fG])).2.trans hb)
theorem Lr {a b:List V} {n:Nat} (h:a.length=n):(a++b).drop n=b:=by subst h;simp
def FR (n:Nat) (β:Nat→Option Nat) (hp:Nat→Option ah) (β':Nat→Option Nat) (hp':Nat→Option ah):Prop:= ∀id,id<n→hp' id=hp id∧β' id=β id
theorem ZA {l:LS} {x:V} {ds:List V} {n:Nat} {v:Value} (h:ga l x=some ds) (aq:l.ok n=true) (j9:FR n β hp β' hp') (hv:aj P w I β hp v x) (rest:List V):
  aj P w I β' hp' v (lh l (ds++rest)):=by
 rcases (Lq h).2 with e|e
 ·subst e;exact .undef
 ·rw[e rest];by_cases hu:l= .u6
  ·subst hu;have:x= .undef:=(e rest).symm;subst this;exact .undef
  ·obtain ⟨h1,h2⟩:=akS h hu aq;exact hv.akT h1 fun id ae=>j9 id (h2 id ae)
theorem FT {n:Nat} (j9:FR n β hp β' hp'): ∀{ls:List LS} {xs:List V} {ds:List V},tH ls xs=some ds→ls.all (LS.ok n)=true→
  ds.length=nh ls∧(∀rest,(iU ls (ds++rest)).length=xs.length)∧
  ∀(rest:List V) (j:Nat) (v:Value) (y:V),(∀x,xs[j]? =some x→aj P w I β hp v x)→(iU ls (ds++rest))[j]? =some y→aj P w I β' hp' v y
 | [],[],ds,h,_=>by cases h;exact ⟨rfl,fun _=>rfl,fun rest j v y _ hy=>by simp[iU] at hy⟩
 | [],_::_,ds,h,_=>by cases h
 | _::_,[],ds,h,_=>by cases h
 | l::ls,x::xs,ds,h,aq=>by
  simp only[tH] at h;obtain ⟨a,h1,h⟩:=bind_some h;obtain ⟨b,h2,h⟩:=bind_some h;cases h;simp only[List.all_cons,aJ] at aq;obtain ⟨i1,i2,i3⟩:=FT j9 h2 aq.2;have dp:=(Lq h1).1;have hd: ∀rest,(a++b++rest).drop l.size=b++rest:=fun rest=>by grind
  refine ⟨by simp only[gS,nh];omega,fun rest=>by simp only[iU,List.length_cons,hd,i2],fun rest j v y hv hy=> ?_⟩;simp only[iU,hd] at hy;cases j with
  | zero=>
   simp at hy;subst hy;exact ZA h1 aq.1 j9 (hv x rfl) _
  | succ j=>grind
theorem Rq: ∀{ls:List LS} {xs:List V} {ds:List V},tH ls xs=some ds→ls.all LS.plain=true→ds.length=nh ls∧∀rest,iU ls (ds++rest)=xs
 | [],[],ds,h,_=>by cases h;exact ⟨rfl,fun _=>rfl⟩
 | [],_::_,ds,h,_=>by cases h
 | _::_,[],ds,h,_=>by cases h
 | l::ls,x::xs,ds,h,aq=>by
  simp only[tH] at h;obtain ⟨a,h1,h⟩:=bind_some h;obtain ⟨b,h2,h⟩:=bind_some h;cases h;simp only[List.all_cons,aJ] at aq;obtain ⟨i1,i2⟩:=Rq h2 aq.2;obtain ⟨dp,hm⟩:=Lq h1;refine ⟨by simp only[gS,nh];omega,fun rest=> ?_⟩;simp only[iU];rw[show (a++b++rest).drop l.size=b++rest by grind,i2,lf];rcases hm with e|e
  ·subst e;cases aq.1
  ·rw[e]
theorem Rr {n:Nat} (j9:FR n β hp β' hp') {s:VS} {x:V} {ds:List V} (h:tI s x=some ds) (aq:s.ok n=true):
  ds.length=s.size∧∀(rest:List V) (v:Value),aj P w I β hp v x→aj P w I β' hp' v (n8 s (ds++rest)):=by
 cases s with
 | one l=>exact ⟨(Lq h).1,fun rest v hv=>ZA h aq j9 hv rest⟩
 | agg ls=>
  cases x<;>simp only[tI] at h<;>first|(cases h;done)|skip
  rename_i xs;obtain ⟨i1,i2,i3⟩:=FT (P:=P) (w:=w) (I:=I) j9 h aq;refine ⟨i1,fun rest v hv=> ?_⟩;obtain ⟨cs,rfl,e1,e2⟩:=hv.np;exact .agg (by grind) fun j v y hj hy=>i3 rest j v y (fun x hx=>e2 j v x hj hx) hy
 | bd ls=>
  cases x<;>simp only[tI] at h<;>first|(cases h;done)|skip
  rename_i xs;obtain ⟨i1,i2,i3⟩:=FT (P:=P) (w:=w) (I:=I) j9 h aq;refine ⟨i1,fun rest v hv=> ?_⟩;obtain ⟨cs,rfl,e1,e2⟩:=hv.yR;exact .bd (by grind) fun j v y hj hy=>i3 rest j v y (fun x hx=>e2 j v x hj hx) hy
 | fn f a b=>
  cases x<;>simp only[tI] at h<;>first|(cases h;done)|skip
  rename_i f' xs ys;cases hb:Nat.beq f f' with
  | false=>grind
  | true=>
   rw[hb] at h;rw[aL] at hb;subst hb;simp only[cond_true] at h;obtain ⟨p,h1,h⟩:=bind_some h;obtain ⟨q,h2,h⟩:=bind_some h;cases h;simp only[VS.ok,aJ] at aq;obtain ⟨i1,i2,i3⟩:=FT (P:=P) (w:=w) (I:=I) j9 h1 aq.1;obtain ⟨j1,j2,j3⟩:=FT (P:=P) (w:=w) (I:=I) j9 h2 aq.2;refine ⟨by simp only[gS,VS.size];omega,fun rest v hv=> ?_⟩;cases hv with
   | fn a1 a2 b1 b2=>
    simp only[n8];rw[show (p++q++rest).drop (nh a)=q++rest by grind,lf];exact .fn (by grind) (fun j v y hj hy=>i3 _ j v y (fun x hx=>a2 j v x hj hx) hy) (by grind) (fun j v y hj hy=>j3 _ j v y (fun x hx=>b2 j v x hj hx) hy)
 | pref ts ls=>
  cases x<;>simp only[tI] at h<;>first|(cases h;done)|skip
  rename_i tJ xs;cases hb:ga.rv ts tJ with
  | false=>grind
  | true=>
   rw[hb] at h;have:=zu hb;subst this;simp only[cond_true] at h;refine ⟨?_,fun rest v hv=> ?_⟩
   ·exact (Rq h aq).1
   ·simp only[n8];rw[(Rq h aq).2];cases hv with
    | pref hl hI hc=>exact .pref hl hI hc
theorem FU {n:Nat} (j9:FR n β hp β' hp'): ∀{ls:List VS} {xs:List V} {ds:List V},uU ls xs=some ds→ls.all (VS.ok n)=true→
  ds.length=xb ls∧(∀rest,(jt ls (ds++rest)).length=xs.length)∧
  ∀(rest:List V) (j:Nat) (v:Value) (y:V),(∀x,xs[j]? =some x→aj P w I β hp v x)→(jt ls (ds++rest))[j]? =some y→aj P w I β' hp' v y
 | [],[],ds,h,_=>by cases h;exact ⟨rfl,fun _=>rfl,fun rest j v y _ hy=>by simp[jt] at hy⟩
 | [],_::_,ds,h,_=>by cases h
 | _::_,[],ds,h,_=>by cases h
 | l::ls,x::xs,ds,h,aq=>by
  simp only[uU] at h;obtain ⟨a,h1,h⟩:=bind_some h;obtain ⟨b,h2,h⟩:=bind_some h;cases h;simp only[List.all_cons,aJ] at aq;obtain ⟨i1,i2,i3⟩:=FU j9 h2 aq.2;obtain ⟨dp,vK⟩:=Rr (P:=P) (w:=w) (I:=I) j9 h1 aq.1;have hd: ∀rest,(a++b++rest).drop l.size=b++rest:=fun rest=>by grind
  refine ⟨by simp only[gS,xb];omega,fun rest=>by simp only[jt,List.length_cons,hd,i2],fun rest j v y hv hy=> ?_⟩;simp only[jt,hd] at hy;grind
end
section
variable {P:Program} {A:dw} {w w':World} {I I' I2:Nat→Nat→Prop} {μ β β':Nat→Option Nat} {hp hp' hp0:Nat→Option ah} {C:af} {B:Nat} {M:Nat→Prop} {w0:Start}
theorem kO: ∀{l:List ah} {j:Nat},ni l j=l[j]?
 | [],j=>by simp[ni]
 | b::l,0=>rfl
 | b::l,j+1=>by simp only[ni,kO,List.getElem?_cons_succ]
theorem Rs {sl:Nat→V} {k:Nat} {y:V}: ∀{l:List (Nat×VS)} {ds:List V},Er sl l=some ds→(∀p∈l,∀d,tI p.2 (sl p.1)=some d→d.length=p.2.size)→
  ds.length=sm l∧∀rest,fF (iW l (ds++rest)) k=some y→∃s d jU,(k,s)∈l∧tI s (sl k)=some d∧y=n8 s (d++jU)
 | [],ds,h,_=>by cases h;exact ⟨rfl,fun rest h=>by cases h⟩
 | (q,s)::l,ds,h,hz=>by
  simp only[Er] at h;obtain ⟨a,h1,h⟩:=bind_some h;obtain ⟨b,h2,h⟩:=bind_some h;cases h;obtain ⟨i1,i2⟩:=Rs (k:=k) (y:=y) h2 fun p hp=>hz p (nX _ hp);have dp:=hz (q,s) (Bo ..) a h1;refine ⟨by simp only[gS,sm];simp only at dp;omega,fun rest hl=> ?_⟩;simp only[iW,fF] at hl;rw[show (a++b++rest).drop s.size=b++rest by rw[lf];exact Lr dp] at hl;cases hb:Nat.beq k q with
  | true=>
   rw[hb] at hl;rw[aL] at hb;subst hb;cases hl;exact ⟨s,a,b++rest,Bo ..,h1,by rw[lf]⟩
  | false=>
   rw[hb] at hl;obtain ⟨s',d,jU,m1,m2,m3⟩:=i2 rest hl;exact ⟨s',d,jU,nX _ m1,m2,m3⟩
theorem Rt {α:Type} {c:Bool} {x:Option α} {a:α} (h:(bif c then x else none)=some a):c=true∧x=some a:=by
 cases c with
 | true=>exact ⟨rfl,h⟩
 | false=>cases h
theorem akU {n:Nat} {b:BS} {o:Option ah} {ds:List V} (h:oH b o=some ds) (aq:b.ok n=true):ds.length=b.size:=by
 cases b with
 | dead=>cases o<;>(cases h;rfl)
 | var T0 ls=>
  cases o with
  | none=>cases h
  | some blk=>
   cases blk<;>simp only[oH] at h<;>first|(cases h;done)|skip
   exact (FU (P:=default) (w:=default) (I:=fun _ _=>False) (β:=fun _=>none) (hp:=fun _=>none) (fun _ _=>⟨rfl,rfl⟩) (Rt h).2 aq).1
 | arr e fz=>
  cases o with
  | none=>cases h
  | some blk=>
   cases blk<;>simp only[oH] at h<;>first|(cases h;done)|skip
   rw[zw h] at h;cases h;rfl
 | nest e=>
  cases o with
  | none=>cases h
  | some blk=>
   cases blk<;>simp only[oH] at h<;>first|(cases h;done)|skip
   rw[zw h] at h;cases h;rfl
 | map t=>
  cases o with
  | none=>cases h
  | some blk=>
   cases blk<;>simp only[oH] at h<;>first|(cases h;done)|skip
   rw[zw h] at h;cases h;rfl
theorem ZB {n:Nat}: ∀{l:List BS} {j:Nat} {ds:List V},Es hp j l=some ds→l.all (BS.ok n)=true→
  (∀rest,(gY l (ds++rest)).length=l.length)∧∀(rest:List V) (i:Nat) (blk:ah),(gY l (ds++rest))[i]? =some blk→∃b d jU,l[i]? =some b∧b.ok n=true∧oH b (hp (j+i))=some d∧blk=iI b (d++jU)
 | [],j,ds,h,_=>by cases h;exact ⟨fun _=>rfl,fun rest i blk hb=>by simp[gY] at hb⟩
 | b::l,j,ds,h,aq=>by
  simp only[Es] at h;obtain ⟨a,h1,h⟩:=bind_some h;obtain ⟨c,h2,h⟩:=bind_some h;cases h;simp only[List.all_cons,aJ] at aq;obtain ⟨i1,i2⟩:=ZB h2 aq.2;have dp:=akU h1 aq.1;have hd: ∀rest,(a++c++rest).drop b.size=c++rest:=fun rest=>by rw[lf];exact Lr dp
  refine ⟨fun rest=>by simp only[gY,List.length_cons,hd,i1],fun rest i blk hb=> ?_⟩;simp only[gY,hd] at hb;cases i with
  | zero=>
   simp at hb;exact ⟨b,a,c++rest,rfl,aq.1,h1,by rw[←hb]⟩
  | succ i=>
   obtain ⟨b',d,jU,m1,m2,m3,m4⟩:=i2 rest i blk (by simpa using hb);exact ⟨b',d,jU,by simpa using m1,m2,by rw[show j+(i+1)=j+1+i by omega];exact m3,m4⟩
theorem akV {n:Nat} {b:BS} {blk:ah} {ds rest:List V} (h:oH b (some blk)=some ds) (aq:b.ok n=true):
  blk.le (iI b (ds++rest))∧(iI b (ds++rest)= .dead∨iI b (ds++rest)=blk∨∃T ls cs,b= .var T ls∧blk= .var T cs∧uU ls cs=some ds∧iI b (ds++rest)= .var T (jt ls (ds++rest))):=by
 cases b with
 | dead=>exact ⟨by cases blk<;>trivial,.inl rfl⟩
 | var T0 ls=>
  cases blk<;>simp only[oH] at h<;>first|(cases h;done)|skip
  obtain ⟨hT,h0⟩:=Rt h;clear h;rw[aL] at hT;subst hT;exact ⟨rfl,.inr (.inr ⟨_,_,_,rfl,rfl,h0,rfl⟩)⟩
 | arr e fz=>
  cases blk<;>simp only[oH] at h<;>first|(cases h;done)|skip
  rename_i e' es pk;have hb:=zw h;simp only[aJ,aL,beq_iff_eq] at hb;obtain ⟨rfl,rfl⟩:=hb;simp only[nZ,beq_self_eq_true,Bool.and_self,cond_true,fb] at h;subst h;exact ⟨⟨rfl,rfl⟩,.inr (.inl rfl)⟩
 | nest e=>
  cases blk<;>simp only[oH] at h<;>first|(cases h;done)|skip
  rename_i e' es vers;have hb:=zw h;simp only[aJ,aL] at hb;obtain ⟨rfl,hv⟩:=hb;have:=zu hv;subst this;simp only[nZ,Bool.true_and] at h;cases h;exact ⟨⟨rfl,rfl,rfl,fun _=>aw _⟩,.inr (.inl rfl)⟩
 | map t=>
  cases blk<;>simp only[oH] at h<;>first|(cases h;done)|skip
  rename_i t' es;have hb:=zw h;rw[aL] at hb;subst hb;simp only[nZ,cond_true,fb] at h;subst h;exact ⟨rfl,.inr (.inl rfl)⟩
theorem ZC {m:Nat} {S:Shape} {st:St} {ds:List V} (h:lV m S st=some ds):
  S.ok=true∧m≤S.cT.length∧∃a b,Er st.sl S.cp=some a∧Es st.hp 0 S.cT=some b∧ds=a++b:=by
 unfold lV at h;cases hc:(S.ok&&Nat.ble m S.cT.length) with
 | false=>rw[hc] at h;cases h
 | true=>
  rw[hc] at h;simp only[cond_true] at h;simp only[aJ,gp] at hc;obtain ⟨a,h1,h⟩:=bind_some h;obtain ⟨b,h2,h⟩:=bind_some h;cases h;exact ⟨hc.1,hc.2,a,b,h1,h2,rfl⟩
theorem reshape {m:Nat} {S:Shape} {st:St} {ds:List V} (h:lV m S st=some ds) (hS:az P w I β st.hp B M w0):
  az P w I β (bM S ds).hp B M w0∧(∀(k:Nat) (v:Value),aj P w I β st.hp v (st.sl k)→aj P w I β (bM S ds).hp v ((bM S ds).sl k))∧
  (∀(μ:Nat→Option Nat) (hp0:Nat→Option ah),(∀id blk,hp0 id=some blk→id<m)→Le P w0.w w0.I μ hp0 w I β st.hp→Le P w0.w w0.I μ hp0 w I β (bM S ds).hp)∧
  ∀j blk',(bM S ds).hp j=some blk'→blk'≠ .dead→∃blk,st.hp j=some blk∧blk.le blk'∧∀o b,bf P w o blk' b→bf P w o blk b:=by
 obtain ⟨aq,hm,a,b,h1,h2,rfl⟩:=ZC h;unfold Shape.ok at aq;rw[aJ] at aq;obtain ⟨oP,Zd⟩:=aq;have bc: ∀p∈S.cp,∀d,tI p.2 (st.sl p.1)=some d→d.length=p.2.size:=fun p hp d hd=>
  (Rr (P:=P) (w:=w) (I:=I) (β:=β) (hp:=st.hp) (fun _ _=>⟨rfl,rfl⟩) hd (gU.1 oP p hp)).1
 have dp:a.length=sm S.cp:=(Rs (k:=0) (y:= .undef) h1 bc).1;have Lc:(bM S (a++b)).hp=ni (gY S.cT (b++[])):=by
  simp only[bM,mk,uX];rw[Lr dp]
 obtain ⟨bl,bg⟩:=ZB h2 Zd;have get: ∀j blk',(bM S (a++b)).hp j=some blk'→j<S.cT.length∧∃bs d jU,bs.ok S.cT.length=true∧oH bs (st.hp j)=some d∧blk'=iI bs (d++jU):=by
  intro j blk' hj;rw[Lc,kO] at hj;obtain ⟨bs,d,jU,m1,m2,m3,m4⟩:=bg [] j blk' hj;rw[dq] at m3;exact ⟨(cw.1 m1).1,bs,d,jU,m2,m3,m4⟩
 have have': ∀j,j<S.cT.length→∃blk',(bM S (a++b)).hp j=some blk':=by
  intro j hj;rw[Lc,kO];exact ⟨_,bU (by rw[bl];exact hj)⟩
 generalize gf:(bM S (a++b)).hp=zx at*
 let bK:Nat→Option ah:=fun id=>if id<S.cT.length then zx id else st.hp id
 have back: ∀j blk',zx j=some blk'→blk'≠ .dead→∃blk,st.hp j=some blk∧blk.le blk'∧(blk'=blk∨∃T ls cs d jU,ls.all (VS.ok S.cT.length)=true∧blk= .var T cs∧uU ls cs=some d∧blk'= .var T (jt ls (d++jU))):=by
  intro j blk' hj hd;obtain ⟨dm,bs,d,jU,m1,m2,m3⟩:=get j blk' hj;cases dN:st.hp j with
  | none=>
   rw[dN] at m2;cases bs<;>simp only[oH] at m2<;>first|(cases m2;done)|skip
   exact absurd m3 hd
  | some blk=>
   rw[dN] at m2;obtain ⟨n1,n2⟩:=akV (rest:=jU) m2 m1;rw[←m3] at n1 n2;refine ⟨blk,rfl,n1,?_⟩;rcases n2 with e|e|⟨T,ls,cs,e1,e2,e3,e4⟩
   ·exact absurd e hd
   ·exact .inl e
   ·subst e1;exact .inr ⟨T,ls,cs,d,jU,m1,e2,e3,e4⟩
 have le1: ∀j blk,st.hp j=some blk→j<S.cT.length→∃blk',zx j=some blk'∧blk.le blk':=by
  intro j blk hj dm;obtain ⟨blk',av⟩:=have' j dm;refine ⟨blk',av,?_⟩;by_cases hd:blk'= .dead
  ·subst hd;cases blk<;>trivial
  ·obtain ⟨cA,e1,e2,_⟩:=back j blk' av hd;rw[hj] at e1;cases e1;exact e2
 have akW: ∀j e es vers e' aK vers',st.hp j=some (.nest e es vers)→zx j=some (.nest e' aK vers')→e'=e∧aK=es∧vers'=vers:=by
  intro j e es vers e' aK vers' hj dX;obtain ⟨blk,e1,_,e3⟩:=back j _ dX (by simp);rw[hj] at e1;cases e1;rcases e3 with e3|⟨_,_,_,_,_,_,e3,_⟩
  ·cases e3;exact ⟨rfl,rfl,rfl⟩
  ·cases e3
 have hle:Le P w I β st.hp w I β bK:=by
  refine ⟨fun _ _ h=>h,fun _ _ _=>rfl,fun id blk ae=> ?_,fun _ _ _ _ _ _ _ _=>rfl,Le.vn (fun _ _ _ _ _ _=>rfl) fun id e es vers e' aK vers' ae bW=> ?_⟩
  ·by_cases hl:id<S.cT.length
   ·obtain ⟨blk',e1,e2⟩:=le1 id blk ae hl;exact ⟨blk',by simp only[bK,aB hl];exact e1,e2,fun _=>rfl⟩
   ·exact ⟨blk,by simp only[bK,aC hl];exact ae,ah.le_refl _,fun _=>rfl⟩
  ·by_cases hl:id<S.cT.length
   ·simp only[bK,aB hl] at bW;exact akW _ _ _ _ _ _ _ ae bW
   ·simp only[bK,aC hl] at bW;rw[ae] at bW;cases bW;exact ⟨rfl,rfl,rfl⟩
 have j9:FR S.cT.length β bK β zx:=fun id ae=>⟨by simp only[bK,aB ae],rfl⟩
 have sF: ∀j blk' blk o b,zx j=some blk'→st.hp j=some blk→bf P w o blk' b→bf P w o blk b:=by
  intro j blk' blk o b dX hj ho;obtain ⟨cA,e1,_,e3⟩:=back j blk' dX ho.alive;rw[hj] at e1;cases e1;rcases e3 with e3|⟨T,ls,cs,d,jU,_,e3,_,e5⟩
  ·subst e3;exact ho
  ·subst e3;subst e5;exact .root (by simp) (ho.flat (by simp))
 refine ⟨⟨⟨fun j blk' hj=> ?_,fun j1 j2 b1 b2 b' e1 e2 o1 o2=> ?_,fun j blk b' hj ho=> ?_,hS.h.jQ⟩,hS.cI,hS.size,hS.new,hS.io⟩,fun k v hv=> ?_,fun μ hp0 aZ hE=> ?_,fun j blk' hj hd=> ?_⟩
 ·by_cases hd:blk'= .dead
  ·subst hd;exact .dead
  ·obtain ⟨blk,e1,_,e3⟩:=back j blk' hj hd;have hr:=hS.h.rel j blk e1;generalize β j=o at hr;rcases e3 with e3|⟨T0,ls,cs,d,jU,q1,e3,e4,e5⟩
   ·subst e3;cases hr with
    | @var xs b' Ca T hb hh hs dj hx iK=>
     obtain ⟨dm,bs,d,jU,m1,m2,m3⟩:=get j _ hj;rw[e1] at m2;cases bs<;>simp only[oH] at m2<;>first|(cases m2;done)|skip
     ·rename_i T0 ls;simp only[iI] at m3;obtain ⟨hT,m2⟩:=Rt m2;obtain ⟨i1,i2,i3⟩:=FU (P:=P) (w:=w) (I:=I) j9 m2 m1;injection m3 with m4 m3;rw[m3];exact .var hb hh (by rw[i2];exact hs) dj (fun i v y hi hy=>i3 jU i v y (fun x dd=>(hx i v x hi dd).mono hle) hy) iK
     ·simp only[iI] at m3;cases m3
    | ey hb=>exact .ey hb
    | arr a0 a1 a2 a3 a4 a5 a6 a7=>exact .arr a0 a1 a2 a3 a4 a5 a6 a7
    | dead=>exact absurd rfl hd
    | nest a1 a2 a3=>exact .nest a1 a2 a3
    | iY a1=>exact .iY a1
    | out a1 a2 a3 a4 a5 a6 a7 a8 a9 a10=>exact .out a1 a2 a3 a4 a5 a6 a7 a8 a9 a10
    | map a1 a2 a3 a4 a5 a6 a7=>exact .map a1 a2 a3 a4 a5 a6 a7
   ·subst e3;subst e5;cases hr with
    | @var xs b' Ca T hb hh hs dj hx iK=>
     obtain ⟨i1,i2,i3⟩:=FU (P:=P) (w:=w) (I:=I) j9 e4 q1;exact .var hb hh (by rw[i2];exact hs) dj (fun i v y hi hy=>i3 jU i v y (fun x dd=>(hx i v x hi dd).mono hle) hy) iK
 ·obtain ⟨c1,x1,_,_⟩:=back j1 b1 e1 o1.alive;obtain ⟨c2,x2,_,_⟩:=back j2 b2 e2 o2.alive;exact hS.h.inj j1 j2 c1 c2 b' x1 x2 (sF _ _ _ _ _ e1 x1 o1) (sF _ _ _ _ _ e2 x2 o2)
 ·obtain ⟨c1,x1,_,_⟩:=back j blk hj ho.alive;exact hS.h.own j c1 b' x1 (sF _ _ _ _ _ hj x1 ho)
 ·change aj P w I β zx v (mC (iW S.cp (a++b)) k);unfold mC;cases Fq:fF (iW S.cp (a++b)) k with
  | none=>exact .undef
  | some y=>
   obtain ⟨s,d,jU,n1,n2,n3⟩:=(Rs h1 bc).2 b Fq;simp only[Option.getD_some,n3];exact (Rr (P:=P) (w:=w) (I:=I) j9 n2 (gU.1 oP _ n1)).2 jU v (hv.mono hle)
 ·have h3:=hE.trans hle;refine ⟨h3.eg,h3.cI,fun id blk ae=> ?_,fun id blk blk' b' ae bW hd hb=> ?_,fun id e es vers e' aK vers' b2 q i c t v e1 l ae bW=> ?_⟩
  ·have hl:=aZ id blk ae;obtain ⟨blk',k1,k2,k3⟩:=h3.blk id blk ae;simp only[bK,aB (show id<S.cT.length by omega)] at k1;exact ⟨blk',k1,k2,k3⟩
  ·have hl:=aZ id blk ae;exact h3.size id blk blk' b' ae (by simp only[bK,aB (show id<S.cT.length by omega)];exact bW) hd hb
  ·have hl:=aZ id _ ae;exact h3.row id e es vers e' aK vers' b2 q i c t v e1 l ae (by simp only[bK,aB (show id<S.cT.length by omega)];exact bW)
 ·obtain ⟨blk,e1,e2,_⟩:=back j blk' hj hd;exact ⟨blk,e1,e2,fun o b' ho=>sF _ _ _ _ _ hj e1 ho⟩
end
section
variable {P:Program} {A:dw} {w w':World} {I I' I2:Nat→Nat→Prop} {μ β β':Nat→Option Nat} {hp hp' hp0:Nat→Option ah} {C:af} {B:Nat} {M:Nat→Prop} {w0:Start}
inductive gi (P:Program) (w:World) (β:Nat→Option Nat) (hp:Nat→Option ah):Place→Option Nat→ah→Prop
 | var {id:Nat} {T:TypeId} {cs Ru:List V}:hp id=some (.var T cs)→gi P w β hp (.blk id) (β id) (.var T Ru)
 | arr {id:Nat} {e:TypeId} {es:List V} {fz:Bool}:hp id=some (.arr e es fz)→gi P w β hp (.blk id) (β id) (.arr e es fz)
 | nest {id:Nat} {e:TypeId} {es:List V} {vers:List Nat}:hp id=some (.nest e es vers)→gi P w β hp (.blk id) (β id) (.nest e es [0,0,0])
 | row {id ver b b':Nat} {path:Path} {e0 e':TypeId} {es l:List V} {vers:List Nat}:hp id=some (.nest e0 es vers)→β id=some b→At P w b e0 es path b' e' l→Ep P e'=true→
   0<path.length→path.length≤vers.length→bA vers (path.length-1)=ver→0<l.length→gi P w β hp (.row id ver path) (some b') (.arr e' l false)
 | map {id:Nat} {t:TypeId} {es:List V}:hp id=some (.map t es)→gi P w β hp (.blk id) (β id) (.map t es)
def FV (P:Program) (w:World) (β:Nat→Option Nat) (hp:Nat→Option ah) (ρ:List Place) (μ:Nat→Option Nat) (hp0:Nat→Option ah):Prop:=
 ∀j p,gq ρ j=some p→∃blk,hp0 j=some blk∧gi P w β hp p (μ j) blk
theorem sW: ∀{l m:List Place} {j:Nat} {p:Place},gq l j=some p→gq (l++m) j=some p
 | [],m,j,p,h=>by cases h
 | a::l,m,0,p,h=>h
 | a::l,m,j+1,p,h=>sW (l:=l) h
theorem pL: ∀{l:List Place} {j:Nat},gq l j=l[j]?
 | [],j=>by simp[gq]
 | a::l,0=>rfl
 | a::l,j+1=>by simp only[gq,pL,List.getElem?_cons_succ]
def akX (hp:Nat→Option ah) (q:Nat×ah):Prop:=BJ hp q∨∃T cs,q.2= .var T cs∧hp q.1=some (.var T cs)
structure Ext (P:Program) (w:World) (I:Nat→Nat→Prop) (β:Nat→Option Nat) (hp:Nat→Option ah) (h h':Hand) (d:List V) (u:List (Nat×ah)):Prop where
 ds:h'.ds=h.ds++d
 upd:h'.upd=h.upd++u
 Ls: ∀q∈u,akX hp q
 pl: ∃m,h'.pl=h.pl++m
 nodup:(h.pl.map Place.id).Nodup→(h'.pl.map Place.id).Nodup
theorem Ext.refl (h:Hand):Ext P w I β hp h h [] []:=⟨by simp,by simp,by simp,⟨[],by simp⟩,id⟩
theorem Ext.trans {h1 h2 h3:Hand} {d1 d2:List V} {u1 u2:List (Nat×ah)} (a:Ext P w I β hp h1 h2 d1 u1) (b:Ext P w I β hp h2 h3 d2 u2):Ext P w I β hp h1 h3 (d1++d2) (u1++u2):=by
 obtain ⟨m1,e1⟩:=a.pl;obtain ⟨m2,e2⟩:=b.pl;exact ⟨by rw[b.ds,a.ds,lf],by rw[b.upd,a.upd,lf],fun q hq=>(eD.1 hq).elim (a.Ls q) (b.Ls q),⟨m1++m2,by rw[e2,e1,lf]⟩,fun h=>b.nodup (a.nodup h)⟩
theorem Ext.look {h h':Hand} {d:List V} {u:List (Nat×ah)} (a:Ext P w I β hp h h' d u) {j:Nat} {p:Place} (hj:gq h.pl j=some p):gq h'.pl j=some p:=by
 obtain ⟨m,e⟩:=a.pl;rw[e];exact sW hj
theorem Ext.leaf (h:Hand) (x:V):Ext P w I β hp h {h with ds:=h.ds++[x]} [x] []:=⟨rfl,by simp,by simp,⟨[],by simp⟩,id⟩
theorem akY {α:Type} {ρ:List Place} {j:Nat} {p:Place} {k:List Place→Rd α} {r:α} {rd:List Nat} (h:(unify ρ j p k).run C hp=some (r,rd)) (hb: ∃id,p= .blk id∨∃ver path,p= .row id ver path):
  ∃nE,(k nE).run C hp=some (r,rd)∧(∃m,nE=ρ++m)∧gq nE j=some p∧((ρ.map Place.id).Nodup→(nE.map Place.id).Nodup):=by
 unfold unify at h;cases hc:Nat.blt j ρ.length with
 | true=>
  rw[hc] at h;obtain ⟨h1,h2⟩:=aD h;refine ⟨ρ,h2,⟨[],by simp⟩,?_,id⟩;unfold W7 at h1;split at h1
  ·rename_i a b he;rw[aL] at h1;subst h1;exact he
  ·cases h1
 | false=>
  rw[hc] at h;obtain ⟨h1,h2⟩:=aD h;simp only[aJ,aL,mZ] at h1;obtain ⟨rfl,h3⟩:=h1;refine ⟨ρ++[p],h2,⟨[p],rfl⟩,?_,fun hn=> ?_⟩
  ·rw[pL];simp
  ·rw[uY,Ee];refine ⟨hn,by simp,fun a ha b hb=> ?_⟩;simp only[lb,List.map_nil,fx] at hb;subst hb;intro e;subst e;rw[yW ha] at h3;cases h3
theorem zy {α:Type} {h:Hand} {j:Nat} {p:Place} {k:List Place→Rd α} {r:α} {rd:List Nat} (hr:(unify h.pl j p k).run C hp=some (r,rd)) (ds:List V):
  ∃nE,(k nE).run C hp=some (r,rd)∧gq nE j=some p∧Ext P w I β hp h {h with pl:=nE,ds:=h.ds++ds} ds []:=by
 obtain ⟨nE,a,b,c,d⟩:=akY hr (by cases p with|blk id=>exact ⟨id,.inl rfl⟩|row id ver path=>exact ⟨id,.inr ⟨ver,path,rfl⟩⟩);exact ⟨nE,a,c,⟨rfl,by simp,by simp,b,d⟩⟩
theorem akZ {o:Option Nat} {blk:ah} {e:TypeId} {id j:Nat} {v:Value} (hv:aj P w I β hp v (.whole e id)) (hl:gi P w β hp (.blk id) o blk) (hj:hp0 j=some blk) (mO:μ j=o):aj P w I' μ hp0 v (.whole e j):=by
 cases hl with
 | var h=>
  cases hv with
  | dW h2=>rw[h] at h2;cases h2
  | dS h2=>rw[h] at h2;cases h2
  | whole h2=>rw[h] at h2;cases h2
  | dM h2=>rw[h] at h2;cases h2
  | eb h2=>rw[h] at h2;cases h2
  | fA h2=>rw[h] at h2;cases h2
 | arr h=>
  cases hv with
  | dW h2=>rw[h] at h2;cases h2
  | dS h2 hb=>rw[h] at h2;cases h2;exact .dS hj (mO.trans hb)
  | whole h2 hb a b c=>rw[h] at h2;cases h2;exact .whole hj (mO.trans hb) a b c
  | dM h2=>rw[h] at h2;cases h2
  | eb h2=>rw[h] at h2;cases h2
  | fA h2=>rw[h] at h2;cases h2
 | nest h=>
  cases hv with
  | dW h2=>rw[h] at h2;cases h2
  | dS h2=>rw[h] at h2;cases h2
  | whole h2=>rw[h] at h2;cases h2
  | dM h2 hb a b c=>rw[h] at h2;cases h2;exact .dM hj (mO.trans hb) a b c
  | eb h2 hb=>rw[h] at h2;cases h2;exact .eb hj (mO.trans hb)
  | fA h2=>rw[h] at h2;cases h2
 | map h=>
  cases hv with
  | dW h2=>rw[h] at h2;cases h2
  | dS h2=>rw[h] at h2;cases h2
  | whole h2=>rw[h] at h2;cases h2
  | dM h2=>rw[h] at h2;cases h2
  | eb h2=>rw[h] at h2;cases h2
  | fA h2=>rw[h] at h2;cases h2
theorem ak0 {o:Option Nat} {blk:ah} {t:TypeId} {id j:Nat} {v:Value} (hv:aj P w I β hp v (.cG t id)) (hl:gi P w β hp (.blk id) o blk) (hj:hp0 j=some blk) (mO:μ j=o):aj P w I' μ hp0 v (.cG t j):=by
 cases hv with
 | ln h2=>cases hl<;>(rename_i h;rw[h] at h2;cases h2)
 | cG h2 hb=>
  cases hl<;>(rename_i h;rw[h] at h2;cases h2)
  exact .cG hj (mO.trans hb)
theorem ak1 {o:Option Nat} {blk:ah} {e:TypeId} {id off n j:Nat} {v:Value} (hv:aj P w I β hp v (.sub e id off n)) (hl:gi P w β hp (.blk id) o blk) (hj:hp0 j=some blk) (mO:μ j=o):aj P w I' μ hp0 v (.sub e j off n):=by
 cases hl with
 | var h=>
  cases hv with
  | jx h2=>rw[h] at h2;cases h2
  | iX h2=>rw[h] at h2;cases h2
  | sub h2=>rw[h] at h2;cases h2
 | arr h=>
  cases hv with
  | jx h2=>rw[h] at h2;cases h2
  | iX h2 hb=>rw[h] at h2;cases h2;exact .iX hj (mO.trans hb)
  | sub h2 hb a b c=>rw[h] at h2;cases h2;exact .sub hj (mO.trans hb) a b c
 | nest h=>
  cases hv with
  | jx h2=>rw[h] at h2;cases h2
  | iX h2=>rw[h] at h2;cases h2
  | sub h2=>rw[h] at h2;cases h2
 | map h=>
  cases hv with
  | jx h2=>rw[h] at h2;cases h2
  | iX h2=>rw[h] at h2;cases h2
  | sub h2=>rw[h] at h2;cases h2
theorem ZD {o:Option Nat} {blk:ah} {id i c j:Nat} {v:Value} (hv:aj P w I β hp v (.ptr id i c)) (hl:gi P w β hp (.blk id) o blk) (hj:hp0 j=some blk) (mO:μ j=o):aj P w I' μ hp0 v (.ptr j i c):=by
 cases hl with
 | @var _ T0 cs Ru h=>
  obtain ⟨b,hb,rfl⟩:=hv.ja h (by simp);exact aj.ptr (blk:= .var T0 Ru) hj (by simp) (mO.trans hb)
 | @arr _ e es fz h=>
  obtain ⟨b,hb,rfl⟩:=hv.ja h (by simp);exact aj.ptr (blk:= .arr e es fz) hj (by simp) (mO.trans hb)
 | @nest _ e es vers h=>
  obtain ⟨b,hb,rfl⟩:=hv.ja h (by simp);exact aj.ptr (blk:= .nest e es [0,0,0]) hj (by simp) (mO.trans hb)
 | @map _ t es h=>
  obtain ⟨b,hb,rfl⟩:=hv.ja h (by simp);exact aj.ptr (blk:= .map t es) hj (by simp) (mO.trans hb)
theorem ak2 (cN: ∀id blk,hp id=some blk→eW P w I β hp (β id) blk) {id b i c:Nat} {e0 t:TypeId} {es l:List V} {vers:List Nat} {q:Path} {e:TypeId} {v:Value} (ae:hp id=some (.nest e0 es vers)) (hb:β id=some b)
  (ht:P.underlying t=some (.slice e)) (hc:qm P w b e0 es q i c t v (.list e l)) (hl:0<l.length): ∃b1 cap,v= .slice (some ⟨b1,0,none⟩) l.length cap∧cap*P.cellsOf e=bsize w b1∧l.length≤cap∧cap≤maxLen∧At P w b e0 es (q++[(i,c)]) b1 e l:=by
 obtain ⟨b2,e1,m,Ca,T,f,x,n1,n2,n3,n4,n5,n6⟩:=hc;have hr:=cN _ _ ae;cases hr with
 | iY av=>rw[hb] at av;cases av
 | nest av hr hn=>
  rw[hb] at av;cases av;have hR:=hr _ _ _ _ n1;obtain ⟨yP,_,c1,_,c2,c3⟩:=hR.cells;rw[n2] at c1;cases c1;have yQ:c<P.cellsOf e1:=by rw[←fB hR.ok];exact (cw.1 n4).1
  obtain ⟨v',d1,d2⟩:=c3 i c x t n3 n4 yQ;rw[n6] at d1;cases d1;rw[n5] at d2;generalize hy:V.list e l=y at d2;cases d2 with
  | gu a p=>unfold dU at a;rw[ht] at a;cases a
  | emp hu=>cases hy;simp at hl
  | row hu mH bc bS sC=>
   cases hy;exact ⟨_,_,rfl,bc,bS,sC,n1.snoc n2 n3 n4 ht n5 mH n6⟩
theorem ak3 (S:az P w I β hp B M w0) {o:Option Nat} {blk:ah} {e:TypeId} {id ver j:Nat} {path:Path} {v:Value} (hv:aj P w I β hp v (.row e id ver path)) (hl:gi P w β hp (.row id ver path) o blk) (hj:hp0 j=some blk) (mO:μ j=o):aj P w I' μ hp0 v (.whole e j):=by
 cases hl with
 | row h hb ha hf h1 h2 h3 h4=>
  obtain ⟨b2,q,i,c,t,l2,rfl,ff,ht,hc⟩:=hv.PR h h1 h2 h3;rw[hb] at ff;cases ff;obtain ⟨p1,p2⟩:=PS ha;have gb:=hc;obtain ⟨b3,e3,m3,Ca,T,f,x,n1,n2,n3,n4,n5,n6⟩:=gb;obtain ⟨q1,q2⟩:=J9 n1 n3 n4 ht n5;rw[p1] at q1;rw[p2] at q2;cases q1;cases q2;obtain ⟨b1,cap,rfl,m1,m2,m4,m5⟩:=ak2 S.h.rel h hb ht hc h4;have:=ak4 ha m5;subst this;exact .whole hj mO m1 m2 m4
where
 ak4 {b b1 b2:Nat} {e e1 e2:TypeId} {es l l2:List V} {q:Path} (h:At P w b e es q b1 e1 l) (h2:At P w b e es q b2 e2 l2):b2=b1:=(h.fun h2).1
theorem ZE (S:az P w I β hp B M w0) {α:Type} {l:LS} {x:V} {h:Hand} {k:Hand→Rd α} {r:α} {rd:List Nat} {v:Value} (hr:(JV P l x h k).run C hp=some (r,rd)) (hv:aj P w I β hp v x):
  ∃h' gK d u,(k h').run C hp=some (r,gK)∧Ext P w I β hp h h' d u∧d.length=l.size∧
   ∀(I':Nat→Nat→Prop) (μ:Nat→Option Nat) (hp0:Nat→Option ah),(∀b j,I b j→I' b j)→(∀q∈u,∀b j,xk P w β hp q.1 b j→I' b j)→∀ρ m,ρ=h'.pl++m→FV P w β hp ρ μ hp0→∀rest,aj P w I' μ hp0 v (lh l (d++rest)):=by
 have plain: ∀{x':V} {jH:List Nat},(k {h with ds:=h.ds++[x']}).run C hp=some (r,jH)→l.size=1→(∀I' μ hp0 rest,aj P w I' μ hp0 v (lh l ([x']++rest)))→∃h' gK d u,(k h').run C hp=some (r,gK)∧Ext P w I β hp h h' d u∧d.length=l.size∧
   ∀(I':Nat→Nat→Prop) (μ:Nat→Option Nat) (hp0:Nat→Option ah),(∀b j,I b j→I' b j)→(∀q∈u,∀b j,xk P w β hp q.1 b j→I' b j)→∀ρ m,ρ=h'.pl++m→FV P w β hp ρ μ hp0→∀rest,aj P w I' μ hp0 v (lh l (d++rest)):=
  fun hk hs hx=>⟨_,_,_,_,hk,Ext.leaf h _,hs.symm,fun I' μ hp0 _ _ _ _ _ _ rest=>hx I' μ hp0 rest⟩
 have uf: ∀{jH:List Nat},(k h).run C hp=some (r,jH)→l.size=0→(∀I' μ hp0 rest,aj P w I' μ hp0 v (lh l rest))→∃h' gK d u,(k h').run C hp=some (r,gK)∧Ext P w I β hp h h' d u∧d.length=l.size∧
   ∀(I':Nat→Nat→Prop) (μ:Nat→Option Nat) (hp0:Nat→Option ah),(∀b j,I b j→I' b j)→(∀q∈u,∀b j,xk P w β hp q.1 b j→I' b j)→∀ρ m,ρ=h'.pl++m→FV P w β hp ρ μ hp0→∀rest,aj P w I' μ hp0 v (lh l (d++rest)):=
  fun hk hs hx=>⟨_,_,_,_,hk,Ext.refl h,by simp[hs],fun I' μ hp0 _ _ _ _ _ _ rest=>hx I' μ hp0 rest⟩
 unfold JV at hr;cases l with
 | u6=>exact uf hr rfl fun _ _ _ _=> .undef
 | int kd=>
  cases x<;>simp only at hr<;>first|(cases hr;done)|skip
  obtain ⟨h1,h2⟩:=aD hr;simp only[jL] at h1;subst h1;obtain rfl:=hv.fQ;exact plain h2 rfl fun _ _ _ _=> .int
 | bool=>
  cases x<;>simp only at hr<;>first|(cases hr;done)|skip
  obtain rfl:=hv.nn;exact plain hr rfl fun _ _ _ _=> .bool
 | str=>
  cases x<;>simp only at hr<;>first|(cases hr;done)|skip
  obtain ⟨s,rfl,hl⟩:=hv.oJ;exact plain hr rfl fun _ _ _ _=> .str hl
 | nilS e=>
  cases x<;>simp only at hr<;>first|(cases hr;done)|skip
  obtain ⟨h1,h2⟩:=aD hr;cases hv with
  | nilS=>exact uf h2 rfl fun _ _ _ _=> .nilS
 | nl e=>
  cases x<;>simp only at hr<;>first|(cases hr;done)|skip
  obtain ⟨h1,h2⟩:=aD hr;rw[aL] at h1;subst h1;cases hv with
  | nl a b=>exact ⟨_,_,_,_,h2,Ext.leaf h _,rfl,fun I' μ hp0 hI _ _ _ _ _ rest=> .nl (a.mono hI (fun _ _ _=>rfl)) b⟩
 | eA=>
  cases x<;>simp only at hr<;>first|(cases hr;done)|skip
  cases hv with
  | eA=>exact uf hr rfl fun _ _ _ _=> .eA
 | row e j cs=>
  cases x<;>simp only at hr<;>first|(cases hr;done)|skip
  rename_i e' id ver path;obtain ⟨e0,es,vers,l0,ae,p1,p2,p3,hr⟩:=rB hr;obtain ⟨h1,h2⟩:=aD hr;simp only[aJ,aL,gp] at h1;obtain ⟨rfl,sH,hp3⟩:=h1;have:=zu sH;subst this;obtain ⟨nE,a,b,c⟩:=zy (P:=P) (w:=w) (I:=I) (β:=β) h2 (path.map fun p=>fy p.1);refine ⟨_,_,path.map fun p=>fy p.1,[],a,c,by simp[LS.size],fun I' μ hp0 i1 i2 ρ m et cH rest=> ?_⟩;obtain ⟨blk,k1,k2⟩:=cH j _ (by rw[et];exact sW b);obtain ⟨bb,q,i,cc,t,l,rfl,hb,ht,hc⟩:=hv.PR ae p1 p2 p3;have sE:blk= .nest e0 es [0,0,0]∧μ j=β id:=by
   generalize μ j=o at k2;cases k2 with
   | var h=>rw[ae] at h;cases h
   | arr h=>rw[ae] at h;cases h
   | map h=>rw[ae] at h;cases h
   | nest h=>rw[ae] at h;cases h;exact ⟨rfl,rfl⟩
  obtain ⟨rfl,mO⟩:=sE;simp only[lh,Lo];have hq:q.length<3:=by rw[gS,List.length_singleton] at hp3;omega
  refine .row k1 (mO.trans hb) (by simpa using hq) ?_ ht hc
  match q.length,hq with
  | 0,_=>rfl
  | 1,_=>rfl
  | 2,_=>rfl
 | dE j cs c=>cases hr
 | Bu k n=>cases hr
 | JE b=>cases hr
 | eU t=>
  cases x<;>simp only at hr<;>first|(cases hr;done)|skip
  obtain ⟨h1,h2⟩:=aD hr;cases hv with
  | eU=>exact uf h2 rfl fun _ _ _ _=> .eU
 | cG t j=>
  cases x<;>simp only at hr<;>first|(cases hr;done)|skip
  rename_i t' id;obtain ⟨h1,h2⟩:=aD hr;rw[aL] at h1;subst h1;obtain ⟨nE,a,b,c⟩:=zy (P:=P) (w:=w) (I:=I) (β:=β) h2 [];refine ⟨_,_,[],[],a,by simpa using c,rfl,fun I' μ hp0 i1 i2 ρ m et cH rest=> ?_⟩;obtain ⟨blk,k1,k2⟩:=cH j _ (by rw[et];exact sW b);exact ak0 hv k2 k1 rfl
 | list e=>
  obtain ⟨⟨y,u⟩,l1,l2,h1,h2⟩:=oe hr;cases y<;>simp only at h2<;>first|(cases h2;done)|skip
  rename_i e' es;obtain ⟨h3,h4⟩:=aD h2;rw[aL] at h3;subst h3;obtain ⟨p1,p2⟩:=EN S.h.rel h1 hv;exact ⟨_,_,[.list e es],u,h4,⟨rfl,rfl,fun q hq=> .inl (p1 q hq),⟨[],by simp⟩,id⟩,rfl,fun I' μ hp0 i1 i2 _ _ _ _ rest=> .list (p2 I' i1 i2)⟩
 | whole e j=>
  cases x<;>simp only at hr<;>first|(cases hr;done)|skip
  ·rename_i e' id;obtain ⟨h1,h2⟩:=aD hr;rw[aL] at h1;subst h1;obtain ⟨nE,a,b,c⟩:=zy (P:=P) (w:=w) (I:=I) (β:=β) h2 [];refine ⟨_,_,[],[],a,by simpa using c,rfl,fun I' μ hp0 i1 i2 ρ m et cH rest=> ?_⟩;obtain ⟨blk,k1,k2⟩:=cH j _ (by rw[et];exact sW b);exact akZ hv k2 k1 rfl
  ·rename_i e' id ver path;obtain ⟨h1,h2⟩:=aD hr;rw[aL] at h1;subst h1;obtain ⟨nE,a,b,c⟩:=zy (P:=P) (w:=w) (I:=I) (β:=β) h2 [];refine ⟨_,_,[],[],a,by simpa using c,rfl,fun I' μ hp0 i1 i2 ρ m et cH rest=> ?_⟩;obtain ⟨blk,k1,k2⟩:=cH j _ (by rw[et];exact sW b);exact ak3 S hv k2 k1 rfl
 | sub e j=>
  cases x<;>simp only at hr<;>first|(cases hr;done)|skip
  rename_i e' id o n;obtain ⟨h1,h2⟩:=aD hr;rw[aL] at h1;subst h1;obtain ⟨nE,a,b,c⟩:=zy (P:=P) (w:=w) (I:=I) (β:=β) h2 [fy o,fy n];refine ⟨_,_,[fy o,fy n],[],a,c,rfl,fun I' μ hp0 i1 i2 ρ m et cH rest=> ?_⟩;obtain ⟨blk,k1,k2⟩:=cH j _ (by rw[et];exact sW b);simpa[lh,V.nth] using ak1 (I':=I') hv k2 k1 rfl
 | ptr j=>
  cases x<;>simp only at hr<;>first|(cases hr;done)|skip
  rename_i id i c;obtain ⟨nE,a,b,c'⟩:=zy (P:=P) (w:=w) (I:=I) (β:=β) hr [fy i,fy c];refine ⟨_,_,[fy i,fy c],[],a,c',rfl,fun I' μ hp0 i1 i2 ρ m et cH rest=> ?_⟩;obtain ⟨blk,k1,k2⟩:=cH j _ (by rw[et];exact sW b);simpa[lh,V.nth] using ZD (I':=I') hv k2 k1 rfl
 | ax j i c=>
  cases x<;>simp only at hr<;>first|(cases hr;done)|skip
  rename_i id i' c';obtain ⟨h1,h2⟩:=aD hr;simp only[aJ,aL] at h1;obtain ⟨rfl,rfl⟩:=h1;obtain ⟨nE,a,b,c'⟩:=zy (P:=P) (w:=w) (I:=I) (β:=β) h2 [];refine ⟨_,_,[],[],a,by simpa using c',rfl,fun I' μ hp0 i1 i2 ρ m et cH rest=> ?_⟩;obtain ⟨blk,k1,k2⟩:=cH j _ (by rw[et];exact sW b);exact ZD hv k2 k1 rfl
end
section
variable {P:Program} {A:dw} {w w':World} {I I' I2:Nat→Nat→Prop} {μ β β':Nat→Option Nat} {hp hp' hp0:Nat→Option ah} {C:af} {B:Nat} {M:Nat→Prop} {w0:Start}
def pN (P:Program) (w:World) (I:Nat→Nat→Prop) (β:Nat→Option Nat) (hp:Nat→Option ah) (h':Hand) (u:List (Nat×ah)) (K:(Nat→Nat→Prop)→(Nat→Option Nat)→(Nat→Option ah)→Prop):Prop:=
 ∀(I':Nat→Nat→Prop) (μ:Nat→Option Nat) (hp0:Nat→Option ah),(∀b j,I b j→I' b j)→(∀q∈u,∀b j,xk P w β hp q.1 b j→I' b j)→∀ρ m,ρ=h'.pl++m→FV P w β hp ρ μ hp0→K I' μ hp0
theorem pN.later {h h':Hand} {d:List V} {u u':List (Nat×ah)} {K:(Nat→Nat→Prop)→(Nat→Option Nat)→(Nat→Option ah)→Prop} (t:pN P w I β hp h u K) (e:Ext P w I β hp h h' d u'):pN P w I β hp h' (u++u') K:=by
 obtain ⟨m1,e1⟩:=e.pl;exact fun I' μ hp0 i1 i2 ρ m et cH=>t I' μ hp0 i1 (fun q hq=>i2 q (eD.2 (.inl hq))) ρ (m1++m) (by grind) cH
theorem pN.more {h:Hand} {u u':List (Nat×ah)} {K:(Nat→Nat→Prop)→(Nat→Option Nat)→(Nat→Option ah)→Prop} (t:pN P w I β hp h u K):pN P w I β hp h (u'++u) K:=
 fun I' μ hp0 i1 i2 ρ m et cH=>t I' μ hp0 i1 (fun q hq=>i2 q (eD.2 (.inr hq))) ρ m et cH
theorem FW (S:az P w I β hp B M w0) {α:Type}: ∀{ls:List LS} {xs:List V} {h:Hand} {k:Hand→Rd α} {r:α} {rd:List Nat} {vs:List Value},(vd P ls xs h k).run C hp=some (r,rd)→vs.length=xs.length→
  (∀(j:Nat) v x,vs[j]? =some v→xs[j]? =some x→aj P w I β hp v x)→
  ∃h' gK d u,(k h').run C hp=some (r,gK)∧Ext P w I β hp h h' d u∧d.length=nh ls∧ls.length=xs.length∧
   pN P w I β hp h' u fun I' μ hp0=> ∀rest,(iU ls (d++rest)).length=xs.length∧∀(j:Nat) v y,vs[j]? =some v→(iU ls (d++rest))[j]? =some y→aj P w I' μ hp0 v y
 | [],[],h,k,r,rd,vs,hr,hl,hv=>⟨h,rd,[],[],hr,Ext.refl h,rfl,rfl,fun I' μ hp0 _ _ _ _ _ _ rest=>⟨rfl,fun j v y _ hy=>by grind⟩⟩
 | [],_::_,h,k,r,rd,vs,hr,hl,hv=>by cases hr
 | _::_,[],h,k,r,rd,vs,hr,hl,hv=>by cases hr
 | l::ls,x::xs,h,k,r,rd,vs,hr,hl,hv=>by
  cases vs with
  | nil=>simp at hl
  | cons v vs=>
   simp only[vd] at hr;obtain ⟨h1,jH,d1,u1,a1,a2,a3,a4⟩:=ZE S hr (hv 0 v x rfl rfl);obtain ⟨h2,xM,d2,u2,b1,b2,b3,b5,b4⟩:=FW S a1 (by grind) (vs:=vs) (fun j v x hj hx=>hv (j+1) v x (by grind) (by grind));have a4':pN P w I β hp h1 u1 fun I' μ hp0=> ∀rest,aj P w I' μ hp0 v (lh l (d1++rest)):=a4;refine ⟨h2,xM,d1++d2,u1++u2,b1,a2.trans b2,by simp only[gS,nh];omega,by simp[b5],fun I' μ hp0 i1 i2 ρ m et cH rest=> ?_⟩;have k1:=(a4'.later b2) I' μ hp0 i1 i2 ρ m et cH (d2++rest);obtain ⟨k2,k3⟩:=b4.more I' μ hp0 i1 i2 ρ m et cH rest;simp only[iU];grind
theorem ak5 {t:TypeId} {v:Value} {y:V} (hv:aj P w I β hp v y) (h:fN P t y=true):Plain P w I v y:=by
 cases y with
 | int k n=>exact hv.fQ
 | bool b=>exact hv.nn
 | str s=>obtain ⟨s',rfl,hs⟩:=hv.oJ;exact ⟨s',rfl,hs⟩
 | list e es=>cases hv with
  | list hp'=>exact hp'
 | _=>unfold fN at h;grind
theorem ZF: ∀{ts:List TypeId} {ls:List LS},BC P ts ls=true→ts.length=ls.length∧∀(ds:List V) (j:Nat) t y,ts[j]? =some t→(iU ls ds)[j]? =some y→fN P t y=true
 | [],[],_=>⟨rfl,fun ds j t y h=>by simp at h⟩
 | [],_::_,h=>by cases h
 | _::_,[],h=>by cases h
 | t::ts,l::ls,h=>by
  simp only[BC,aJ] at h;obtain ⟨h1,h2⟩:=ZF h.2;refine ⟨by simp[h1],fun ds j t' y ht hy=> ?_⟩;cases j with
  | succ j=>exact h2 _ j t' y (by grind) (by simpa[iU] using hy)
  | zero=>
   simp[iU] at ht hy;subst ht;subst hy;have h:=h.1;unfold fN;split at h<;>simp_all [lh]
theorem ak6 (S:az P w I β hp B M w0) {α:Type} {s:VS} {x:V} {h:Hand} {k:Hand→Rd α} {r:α} {rd:List Nat} {v:Value} (hr:(BD P s x h k).run C hp=some (r,rd)) (hv:aj P w I β hp v x):
  ∃h' gK d u,(k h').run C hp=some (r,gK)∧Ext P w I β hp h h' d u∧d.length=s.size∧
   pN P w I β hp h' u fun I' μ hp0=> ∀rest,aj P w I' μ hp0 v (n8 s (d++rest)):=by
 cases s with
 | one l=>
  simp only[BD] at hr;obtain ⟨h1,jH,d1,u1,a1,a2,a3,a4⟩:=ZE S hr hv;exact ⟨h1,jH,d1,u1,a1,a2,a3,a4⟩
 | agg ls=>
  cases x<;>simp only[BD] at hr<;>first|(cases hr;done)|skip
  rename_i xs;obtain ⟨cs,rfl,e1,e2⟩:=hv.np;obtain ⟨h1,jH,d1,u1,a1,a2,a3,a5,a4⟩:=FW S hr (vs:=cs.toList) (by omega) (fun j v x hj hx=>e2 j v x (by grind) hx);refine ⟨h1,jH,d1,u1,a1,a2,a3,fun I' μ hp0 i1 i2 ρ m et cH rest=> ?_⟩;obtain ⟨k1,k2⟩:=a4 I' μ hp0 i1 i2 ρ m et cH rest;exact .agg (by omega) fun j v y hj hy=>k2 j v y (by grind) hy
 | bd ls=>cases x<;>cases hr
 | pref ts ls=>
  have cells: ∀{xs:List V} {vs:List Value} {h0:Hand} {ZG:List Nat},(vd P ls xs h0 k).run C hp=some (r,ZG)→vs.length=xs.length→BC P ts ls=true→(∀(j:Nat) v x,vs[j]? =some v→xs[j]? =some x→aj P w I β hp v x)→
    ∃h' gK d u,(k h').run C hp=some (r,gK)∧Ext P w I β hp h0 h' d u∧d.length=nh ls∧ls.length=xs.length∧pN P w I β hp h' u fun I' μ hp0=> ∀rest,(iU ls (d++rest)).length=xs.length∧ts.length=xs.length∧
     ∀(j:Nat) t v y,vs[j]? =some v→ts[j]? =some t→(iU ls (d++rest))[j]? =some y→Pure P w I' t v y:=by
   intro xs vs h0 ZG hr0 hl eX Rv;obtain ⟨h1,jH,d1,u1,a1,a2,a3,a5,a4⟩:=FW S hr0 hl Rv;obtain ⟨t1,t2⟩:=ZF eX;refine ⟨h1,jH,d1,u1,a1,a2,a3,a5,fun I' μ hp0 i1 i2 ρ m et cH rest=> ?_⟩;obtain ⟨k1,k2⟩:=a4 I' μ hp0 i1 i2 ρ m et cH rest;exact ⟨k1,t1.trans a5,fun j t v y hj ht hy=>(ak5 (k2 j v y hj hy) (t2 _ j t y ht hy)).pure (t2 _ j t y ht hy)⟩
  cases x<;>simp only[BD] at hr<;>first|(cases hr;done)|skip
  ·rename_i id i c;obtain ⟨l0,vU⟩:=run_get hr;clear hr;cases ae:hp id with
   | none=>rw[ae] at vU;cases vU
   | some blk=>
    rw[ae] at vU;cases blk<;>simp only at vU<;>first|(cases vU;done)|skip
    rename_i T cs;obtain ⟨hc,qG⟩:=aD vU;clear vU;simp only[aJ,aL,gp] at hc;obtain ⟨rfl,eX,hle⟩:=hc;obtain ⟨b,hb,rfl⟩:=hv.ja ae (by simp);have cN:=S.h.rel id _ ae;rw[hb] at cN;cases cN with
    | @var _ _ Ca _ av hh hs hI hx _=>
    cases av;obtain ⟨h1,jH,d1,u1,a1,a2,a3,a5,a4⟩:=cells qG (vs:=(Ca.toList.drop c).take ls.length) (by simp;omega) eX (fun j v x hj dd=>by
     grind)
    refine ⟨h1,jH,d1,(id,.var T cs)::u1,a1,⟨a2.ds,by rw[a2.upd];simp,fun q hq=> ?_,a2.pl,a2.nodup⟩,a3,fun I' μ hp0 i1 i2 ρ m et cH rest=> ?_⟩
    ·rcases fY.1 hq with rfl|hq
     ·exact .inr ⟨T,cs,rfl,ae⟩
     ·exact a2.Ls q hq
    ·obtain ⟨k1,k2,k3⟩:=a4 I' μ hp0 i1 (fun q hq=>i2 q (nX _ hq)) ρ m et cH rest;have hn:(iU ls (d1++rest)).length=ls.length:=k1.trans a5.symm;simp only[n8,ah.sz,Nat.zero_mul,dq];refine .pref (k2.trans k1.symm) (fun j hj=>i2 _ (Bo ..) b (c+j) ⟨_,ae,.var hb (by omega)⟩) (fun j t y ht hy=> ?_);have hj:=(cw.1 hy).1;have sH:c+j<Ca.size:=by omega
     refine ⟨Ca[c+j],by rw[cell?_cells hh];grind,k3 j t _ y ?_ ht hy⟩;grind
  ·rename_i tJ cs;obtain ⟨hc,qG⟩:=aD hr;clear hr;simp only[aJ,gp] at hc;obtain ⟨ZH,eX,hle⟩:=hc;have ZH:=zu ZH;obtain ⟨b,o,rfl,q1,q2,q3⟩:=hv.ET;have hg: ∀j,j<cs.length→∃v,w.cell? ⟨b,o+j,none⟩=some v∧∃t,tJ[j]? =some t∧∀x,cs[j]? =some x→Pure P w I t v x:=fun j hj=>by
    simp_all
   let vs:List Value:=(List.range ls.length).map fun j=>(w.cell? ⟨b,o+j,none⟩).getD undef
   have Kk: ∀(j:Nat),j<ls.length→vs[j]? =some ((w.cell? ⟨b,o+j,none⟩).getD undef):=fun j hj=>by grind
   obtain ⟨h1,jH,d1,u1,a1,a2,a3,a5,a4⟩:=cells qG (vs:=vs) (by grind) eX (fun j v x hj dd=>by
    have dm:j<ls.length:=by grind
    rw[jo dm] at dd;obtain ⟨v',v1,t,_,v2⟩:=hg j (by omega);rw[Kk j dm,v1] at hj;cases hj;exact .tN (v2 x dd))
   refine ⟨h1,jH,d1,u1,a1,a2,a3,fun I' μ hp0 i1 i2 ρ m et cH rest=> ?_⟩;obtain ⟨k1,k2,k3⟩:=a4 I' μ hp0 i1 i2 ρ m et cH rest;have hn:(iU ls (d1++rest)).length=ls.length:=k1.trans a5.symm;refine .pref (k2.trans k1.symm) (fun j hj=>i1 _ _ (q2 j (by omega))) (fun j t y ht hy=> ?_);grind
 | fn f a b=>
  cases x<;>simp only[BD] at hr<;>first|(cases hr;done)|skip
  rename_i f' xs ys;obtain ⟨hc,qG⟩:=aD hr;clear hr;rw[aL] at hc;subst hc;cases hv with
  | @fn _ fs cs _ _ q1 q2 q3 q4=>
   obtain ⟨h1,jH,d1,u1,a1,a2,a3,a5,a4⟩:=FW S qG (vs:=fs.toList) (by omega) (fun j v x hj hx=>q2 j v x (by grind) hx);obtain ⟨h2,xM,d2,u2,b1,b2,b3,b5,b4⟩:=FW S a1 (vs:=cs.toList) (by omega) (fun j v x hj hx=>q4 j v x (by grind) hx);refine ⟨h2,xM,d1++d2,u1++u2,b1,a2.trans b2,by simp only[gS,VS.size];omega,fun I' μ hp0 i1 i2 ρ m et cH rest=> ?_⟩;obtain ⟨k1,k2⟩:=(a4.later b2) I' μ hp0 i1 i2 ρ m et cH (d2++rest);obtain ⟨k3,k4⟩:=b4.more I' μ hp0 i1 i2 ρ m et cH rest;simp only[n8];rw[show (d1++d2++rest).drop (nh a)=d2++rest by grind,lf];exact .fn (by omega) (fun j v y hj hy=>k2 j v y (by grind) hy) (by omega) (fun j v y hj hy=>k4 j v y (by grind) hy)
theorem Rw (S:az P w I β hp B M w0) {α:Type}: ∀{ls:List VS} {xs:List V} {h:Hand} {k:Hand→Rd α} {r:α} {rd:List Nat} {vs:List Value},(Eu P ls xs h k).run C hp=some (r,rd)→vs.length=xs.length→
  (∀(j:Nat) v x,vs[j]? =some v→xs[j]? =some x→aj P w I β hp v x)→
  ∃h' gK d u,(k h').run C hp=some (r,gK)∧Ext P w I β hp h h' d u∧d.length=xb ls∧ls.length=xs.length∧
   pN P w I β hp h' u fun I' μ hp0=> ∀rest,(jt ls (d++rest)).length=xs.length∧∀(j:Nat) v y,vs[j]? =some v→(jt ls (d++rest))[j]? =some y→aj P w I' μ hp0 v y
 | [],[],h,k,r,rd,vs,hr,hl,hv=>⟨h,rd,[],[],hr,Ext.refl h,rfl,rfl,fun I' μ hp0 _ _ _ _ _ _ rest=>⟨rfl,fun j v y _ hy=>by grind⟩⟩
 | [],_::_,h,k,r,rd,vs,hr,hl,hv=>by cases hr
 | _::_,[],h,k,r,rd,vs,hr,hl,hv=>by cases hr
 | l::ls,x::xs,h,k,r,rd,vs,hr,hl,hv=>by
  cases vs with
  | nil=>simp at hl
  | cons v vs=>
   simp only[Eu] at hr;obtain ⟨h1,jH,d1,u1,a1,a2,a3,a4⟩:=ak6 S hr (hv 0 v x rfl rfl);obtain ⟨h2,xM,d2,u2,b1,b2,b3,b5,b4⟩:=Rw S a1 (by grind) (vs:=vs) (fun j v x hj hx=>hv (j+1) v x (by grind) (by grind));refine ⟨h2,xM,d1++d2,u1++u2,b1,a2.trans b2,by simp only[gS,xb];omega,by simp[b5],fun I' μ hp0 i1 i2 ρ m et cH rest=> ?_⟩;have k1:=(a4.later b2) I' μ hp0 i1 i2 ρ m et cH (d2++rest);obtain ⟨k2,k3⟩:=b4.more I' μ hp0 i1 i2 ρ m et cH rest;simp only[jt];grind
def Lt:List BS→Nat
 | []=>0
 | b::l=>b.size+Lt l
theorem ZI: ∀{b:Nat} {e e':TypeId} {es:List V} {v:V},(∀q b' e' m,At P w b e es q b' e' m→iJ P w I b' e' m)→∀(path:Path),n7 P e path=some e'→fc P e es path=some v→0<v.toList.length→
  ∃b1,At P w b e es path b1 e' v.toList
 | b,e,e',es,v,cS,[],ht,hv,hl=>by
  simp only[n7,fb] at ht;simp only[fc,fb] at hv;subst ht;subst hv;exact ⟨b,.here⟩
 | b,e,e',es,v,cS,(i,c)::q,ht,hv,hl=>by
  simp only[n7] at ht;simp only[fc] at hv;obtain ⟨x,hx,hv⟩:=bind_some hv;cases ZJ:(n7.Ek P e)[c]? with
  | none=>grind
  | some t=>
   rw[ZJ] at ht;simp only at ht;have Rx:(aT P e)[c]? =some t:=ZJ;cases hu:P.underlying t with
   | none=>grind
   | some d=>
    rw[hu] at ht;cases d<;>simp only at ht<;>first|(cases ht;done)|skip
    rename_i e1;rw[rC Rx] at hv;have hR:=cS _ _ _ _ .here;obtain ⟨Ca,_,c1,_,c2,c3⟩:=hR.cells;have yQ:c<P.cellsOf e:=by rw[←fB hR.ok];grind
    obtain ⟨u,d1,d2⟩:=c3 i c x t hx Rx yQ;rw[d2.xp] at hv;generalize hy:ca P e x c=y at d2 hv;cases d2 with
    | gu a p=>unfold dU at a;grind
    | @emp e2 a qE=>
     rw[hu] at qE;cases qE;simp only at hv;cases q with
     | nil=>simp only[fc,fb] at hv;subst hv;simp[V.toList] at hl
     | cons a q=>simp[fc] at hv
    | @row e2 bV b2 cap qE mH bc bS sC=>
     rw[hu] at qE;cases qE;simp only at hv;have rA: ∀{q b' e' aK},At P w b2 e1 bV q b' e' aK→At P w b e es ((i,c)::q) b' e' aK:=fun h=> .step c1 hx Rx hu hy mH d1 h;obtain ⟨b1,rJ⟩:=ZI (fun q b' e' m h=>cS _ _ _ _ (rA h)) q ht hv hl;grind
def vV (P:Program) (I:Nat→Nat→Prop) (blk:ah) (b:Nat):Prop:= ∀j,I b j→∃e es,blk= .arr e es true∧j<es.length*P.cellsOf e
theorem vV.no {blk:ah} {b:Nat} (h:vV P I blk b) (hn: ∀e es,blk≠ .arr e es true) (j:Nat): ¬I b j:=fun hi=>by
 obtain ⟨e,es,h1,_⟩:=h j hi;exact hn e es h1
theorem ZK (S:az P w I β hp B M w0) {α:Type}: ∀{bs:List BS} {j:Nat} {h:Hand} {k:Hand→Rd α} {r:α} {rd:List Nat},(ve P bs j h k).run C hp=some (r,rd)→
  ∃h' gK d u,(k h').run C hp=some (r,gK)∧Ext P w I β hp h h' d u∧d.length=Lt bs∧
   ∀rest,(gY bs (d++rest)).length=bs.length∧∃o:Nat→Option Nat,
    (∀(i:Nat) blk,(gY bs (d++rest))[i]? =some blk→∃p,gq h'.pl (j+i)=some p∧gi P w β hp p (o i) blk)∧
    pN P w I β hp h' u fun I' μ hp0=> ∀(i:Nat) blk,(gY bs (d++rest))[i]? =some blk→(∀b,bf P w (o i) blk b→vV P I' blk b)→eW P w I' μ hp0 (o i) blk
 | [],j,h,k,r,rd,hr=>⟨h,rd,[],[],hr,Ext.refl h,rfl,fun rest=>⟨rfl,fun _=>none,fun i blk hb=>by simp[gY] at hb,fun I' μ hp0 _ _ _ _ _ _ i blk hb=>by simp[gY] at hb⟩⟩
 | b::bs,j,h,k,r,rd,hr=>by
  simp only[ve] at hr;have fin: ∀{h1:Hand} {jH:List Nat} {d1:List V} {u1:List (Nat×ah)} {o1:Option Nat} {p:Place},(ve P bs (j+1) h1 k).run C hp=some (r,jH)→Ext P w I β hp h h1 d1 u1→d1.length=b.size→gq h.pl j=some p→
    (∀rest,gi P w β hp p o1 (iI b (d1++rest)))→(∀rest,pN P w I β hp h1 u1 fun I' μ hp0=>(∀bb,bf P w o1 (iI b (d1++rest)) bb→vV P I' (iI b (d1++rest)) bb)→eW P w I' μ hp0 o1 (iI b (d1++rest)))→
    ∃h' gK d u,(k h').run C hp=some (r,gK)∧Ext P w I β hp h h' d u∧d.length=Lt (b::bs)∧
     ∀rest,(gY (b::bs) (d++rest)).length=(b::bs).length∧∃o:Nat→Option Nat,
      (∀(i:Nat) blk,(gY (b::bs) (d++rest))[i]? =some blk→∃p,gq h'.pl (j+i)=some p∧gi P w β hp p (o i) blk)∧
      pN P w I β hp h' u fun I' μ hp0=> ∀(i:Nat) blk,(gY (b::bs) (d++rest))[i]? =some blk→(∀b,bf P w (o i) blk b→vV P I' blk b)→eW P w I' μ hp0 (o i) blk:=by
   intro h1 jH d1 u1 o1 p hk he hd bK hl ht;obtain ⟨h2,xM,d2,u2,b1,b2,b3,b4⟩:=ZK S hk;refine ⟨h2,xM,d1++d2,u1++u2,b1,he.trans b2,by simp only[gS,Lt];omega,fun rest=> ?_⟩;obtain ⟨c1,o,c2,c3⟩:=b4 rest;simp only[gY];rw[show (d1++d2++rest).drop b.size=d2++rest by grind,lf];refine ⟨by simp[c1],fun i=>match i with|0=>o1|i+1=>o i,fun i blk hb=> ?_,fun I' μ hp0 i1 i2 ρ m et cH i blk hb dj=> ?_⟩
   ·cases i with
    | zero=>
     simp at hb;subst hb;exact ⟨p,b2.look (he.look bK),hl _⟩
    | succ i=>
     grind
   ·cases i with
    | zero=>
     simp at hb;subst hb;exact ((ht _).later b2) I' μ hp0 i1 i2 ρ m et cH dj
    | succ i=>exact c3.more I' μ hp0 i1 i2 ρ m et cH i blk (by grind) dj
  cases bK:gq h.pl j with
  | none=>rw[bK] at hr;cases hr
  | some p=>
   rw[bK] at hr;cases p with
   | blk id=>
    obtain ⟨l1,hr⟩:=run_get hr;cases ae:hp id with
    | none=>rw[ae] at hr;cases hr
    | some blk=>
     rw[ae] at hr;cases blk with
     | dead=>cases hr
     | out _ _ _ _=>cases hr
     | var T0 cs=>
      cases b<;>simp only at hr<;>first|(cases hr;done)|skip
      rename_i T1 ss;obtain ⟨hT,vU⟩:=aD hr;clear hr;rw[aL] at hT;subst hT;have cN:=S.h.rel id _ ae;generalize ho:β id=o at cN;cases cN with
      | @var _ bb Ca T hb hh hs hI hx iK=>
       obtain ⟨h1,jH,d1,u1,a1,a2,a3,a5,a4⟩:=Rw S vU (vs:=Ca.toList) (by omega) (fun j v x hj dd=>hx j v x (by grind) dd);refine fin (o1:=β id) a1 a2 a3 bK (fun rest=> .var ae) fun rest I' μ hp0 i1 i2 ρ m et cH dj=> ?_;obtain ⟨k1,k2⟩:=a4 I' μ hp0 i1 i2 ρ m et cH rest;exact .var (ho.trans hb) hh (by omega) ((dj _ (.root (by simp[iI]) (ho.trans hb))).no (by simp[iI])) (fun i v y hi hy=>k2 i v y (by grind) hy) iK
     | arr e' es fz=>
      cases b with
      | arr e pz=>
       obtain ⟨hc,qG⟩:=aD hr;clear hr;simp only[aJ,aL] at hc;obtain ⟨rfl,gb⟩:=hc;obtain rfl:pz=fz:=by cases fz<;>cases pz<;>first|rfl|cases gb
       refine fin (d1:=[.list e es]) (o1:=β id) qG (Ext.leaf h _) rfl bK (fun rest=>gi.arr ae) fun rest I' μ hp0 i1 i2 ρ m et cH dj=> ?_;replace dj: ∀bb,bf P w (β id) (.arr e es pz) bb→vV P I' (.arr e es pz) bb:=dj;change eW P w I' μ hp0 (β id) (.arr e es pz);have cN:=S.h.rel id _ ae;generalize ho:β id=o at cN dj⊢;cases cN with
       | ey hb=>exact .ey hb
       | arr a0 a1 a2 a3 a4 a5 a6 a7=>
        have hn:=dj _ (.root (by simp) a2);refine .arr a0 a1 a2 a3 a4 (fun _ j hi=> ?_) (fun hz=>hn.no (by simp[hz])) fun i j x t' y1 y2 y3=> ?_
        ·obtain ⟨e',aK,h1,h2⟩:=hn j hi;cases h1;exact h2
        ·obtain ⟨v,z1,z2⟩:=a7 i j x t' y1 y2 y3;exact ⟨v,z1,z2.mono i1 fun _ _ _=>rfl⟩
      | _=>cases hr
     | nest e' es vers=>
      cases b with
      | nest e=>
       obtain ⟨hc,qG⟩:=aD hr;clear hr;rw[aL] at hc;subst hc;refine fin (d1:=[.list e es]) (o1:=β id) qG (Ext.leaf h _) rfl bK (fun rest=>gi.nest ae) fun rest I' μ hp0 i1 i2 ρ m et cH dj=> ?_;have ZL: ∀bb,bf P w (β id) (.nest e es [0,0,0]) bb→∀j,¬I' bb j:=fun bb h=>vV.no (blk:= .nest e es [0,0,0]) (dj bb h) (by simp);change eW P w I' μ hp0 (β id) (.nest e es [0,0,0]);have cN:=S.h.rel id _ ae;generalize ho:β id=o at cN ZL⊢;cases cN with
       | iY hb=>exact .iY hb
       | nest hb cS lX=>
        refine .nest hb (fun q b' e1 m1 hq=> ?_) lX;obtain ⟨ok,⟨Ca,Tc,c1,c0,c2,c3⟩,nI⟩:=cS q b' e1 m1 hq;refine ⟨ok,⟨Ca,Tc,c1,c0,c2,fun i j x t' y1 y2 y3=> ?_⟩,ZL _ (.row hb hq)⟩;obtain ⟨v,z1,z2⟩:=c3 i j x t' y1 y2 y3;exact ⟨v,z1,z2.mono i1 (fun _ _ _=>rfl) fun _ _ _ _ _=>rfl⟩
      | _=>cases hr
     | map t' es=>
      cases b with
      | map t=>
       obtain ⟨hc,qG⟩:=aD hr;clear hr;rw[aL] at hc;subst hc;refine fin (d1:=[.list t es]) (o1:=β id) qG (Ext.leaf h _) rfl bK (fun rest=>gi.map ae) fun rest I' μ hp0 i1 i2 ρ m et cH dj=> ?_;change eW P w I' μ hp0 (β id) (.map t es);have cN:=S.h.rel id _ ae;generalize ho:β id=o at cN dj⊢;cases cN with
       | map a1 a2 a3 a4 a5 a6 a7=>exact .map a1 a2 a3 a4 ((dj _ (.root (by simp[iI]) a2)).no (by simp[iI])) a6 a7
      | _=>cases hr
   | row id ver path=>
    obtain ⟨e0,es,vers,l1,k1,k2,k3,k4,k5⟩:=rB hr;obtain ⟨e',vv,m1,m2,m3⟩:=BL k5;cases b with
    | arr e fz=>
     cases fz with
     | true=>cases m3
     | false=>
      obtain ⟨hc,m4⟩:=aD m3;clear m3;simp only[aJ,aL,mY] at hc;obtain ⟨rfl,FX,mH⟩:=hc;have cN:=S.h.rel id _ k1;cases hb:β id with
      | none=>
       rw[hb] at cN;cases cN with
       | nest av _ _=>cases av
       | iY _=>
        cases path with
        | nil=>grind
        | cons p q=>obtain ⟨i,c⟩:=p;simp[fc] at m2
      | some b0=>
       rw[hb] at cN;cases cN with
       | iY av=>cases av
       | nest av cS lX=>
        cases av;obtain ⟨b1,fP⟩:=ZI cS path m1 m2 mH;refine fin (d1:=[.list e vv.toList]) (o1:=some b1) m4 (Ext.leaf h _) rfl bK (fun rest=>gi.row k1 hb fP FX k2 k3 k4 mH) fun rest I' μ hp0 i1 i2 ρ m et cH dj=> ?_;change eW P w I' μ hp0 (some b1) (.arr e vv.toList false);obtain ⟨ok,⟨Ca,Tc,c1,c0,c2,c3⟩,nI⟩:=cS _ _ _ _ fP;refine .arr c0 ok rfl c1 c2 (fun h=>by cases h) (fun _=>(dj _ (.root (by simp[iI]) rfl)).no (by simp[iI])) fun i j x t' y1 y2 y3=> ?_;obtain ⟨v,z1,z2⟩:=c3 i j x t' y1 y2 y3;refine ⟨v,z1,?_⟩;generalize ca P e x j=y at z2⊢;cases z2 with
        | gu _ p=>exact p.mono i1 fun _ _ _=>rfl
        | emp hu=>exact absurd hu (ZM FX y2 _)
        | row hu _ _ _ _=>exact absurd hu (ZM FX y2 _)
    | _=>cases m3
where
 ZM {e t:TypeId} {j:Nat} (h:Ep P e=true) (ht:(aT P e)[j]? =some t) (e':TypeId):P.underlying t≠some (.slice e'):=by
  intro hu;have h2:=gU.1 h t (my ht);grind
end
section
variable {P:Program} {A:dw} {w w':World} {I I' I2:Nat→Nat→Prop} {μ β β' cB:Nat→Option Nat} {hp hp' hp0 bK:Nat→Option ah} {C:af} {B:Nat} {M:Nat→Prop} {w0:Start}
structure oR (w:World) (I:Nat→Nat→Prop) (β:Nat→Option Nat) (hp:Nat→Option ah) (w':World) (I':Nat→Nat→Prop) (β':Nat→Option Nat) (hp':Nat→Option ah):Prop where
 eg: ∀b j,I b j→I' b j
 cI: ∀b j,I b j→w'.cell? ⟨b,j,none⟩=w.cell? ⟨b,j,none⟩
 blk: ∀id blk,hp id=some blk→∃blk',hp' id=some blk'∧blk.le blk'∧(blk'≠ .dead→β' id=β id)
 size: ∀id blk blk' b,hp id=some blk→hp' id=some blk'→blk'≠ .dead→β id=some b→bsize w' b=bsize w b
theorem Le.Ct (h:Le P w I β hp w' I' β' hp'):oR w I β hp w' I' β' hp':=⟨h.eg,h.cI,h.blk,h.size⟩
theorem oR.trans {EF:World} {EG:Nat→Nat→Prop} {EH:Nat→Option Nat} {EI:Nat→Option ah} (h1:oR w I β hp w' I' β' hp') (h2:oR w' I' β' hp' EF EG EH EI):oR w I β hp EF EG EH EI:=by
 refine ⟨fun b j h=>h2.eg b j (h1.eg b j h),fun b j h=>(h2.cI b j (h1.eg b j h)).trans (h1.cI b j h),fun id blk h=> ?_,fun id blk yL b h J6 hd hb=> ?_⟩
 ·obtain ⟨blk',e',l',b'⟩:=h1.blk id blk h;obtain ⟨yL,dV,EJ,b''⟩:=h2.blk id blk' e';refine ⟨yL,dV,ah.le_trans l' EJ,fun hd=> ?_⟩;have fO:blk'≠ .dead:=fun e=>hd (ah.tO (e▸EJ));grind
 ·obtain ⟨blk',e',l',b'⟩:=h1.blk id blk h;obtain ⟨ku,e3,l3,b3⟩:=h2.blk id blk' e';obtain rfl:ku=yL:=by grind
  have fO:blk'≠ .dead:=fun e=>hd (ah.tO (e▸l3));rw[h2.size id blk' ku b e' e3 hd ((b' fO).trans hb),h1.size id blk blk' b h e' fO hb]
def sX (P:Program) (w:World) (μ:Nat→Option Nat) (hp0:Nat→Option ah) (b:Nat):Prop:= ∃j blk,hp0 j=some blk∧bf P w (μ j) blk b
structure ak7 (P:Program) (A:dw) (key:Nat) (w:World) (I:Nat→Nat→Prop) (μ:Nat→Option Nat) (ds es:List V) (w':World) (v:Value) (I2:Nat→Nat→Prop) (cB:Nat→Option Nat):Prop where
 Cu:az P w' I2 cB (bM (A.so key es) (A.lv key es)).hp w.heap.size (sX P w μ (bM (A.sin key) ds).hp) ⟨w,I⟩
 le:oR w I μ (bM (A.sin key) ds).hp w' I2 cB (bM (A.so key es) (A.lv key es)).hp
 res:aj P w' I2 cB (bM (A.so key es) (A.lv key es)).hp v (tK (iW (A.so key es).cp (A.lv key es)))
def oS (P:Program) (A:dw) (C:af):Prop:=
 ∀key ds es,C key ds=some es→∃fn c,P.funcs[A.jN key]? =some fn∧fn.body=some c∧
  ∀(w:World) (I:Nat→Nat→Prop) (μ:Nat→Option Nat) (vals:List Value),
   yJ P w I μ (bM (A.sin key) ds).hp w.heap.size (sX P w μ (bM (A.sin key) ds).hp)→jR P A.aE w I→
   vals.length=(A.sin key).cp.length→(∀(j:Nat) v x,vals[j]? =some v→(jt ((A.sin key).cp.map (·.2)) ds)[j]? =some x→aj P w I μ (bM (A.sin key) ds).hp v x)→
   Calls P (A.jN key) vals.toArray w fun e w'=> ∃v I2 cB,e= .returned v∧ak7 P A key w I μ ds es w' v I2 cB
theorem gi.zz {p:Place} {o:Option Nat} {blk:ah} {b:Nat} (h:gi P w β hp p o blk) (ho:bf P w o blk b):
  ∃uo,hp p.id=some uo∧bf P w (β p.id) uo b∧∀e es,uo= .arr e es true→blk= .arr e es true∧o=β p.id:=by
 cases h with
 | var h=>exact ⟨_,h,.root (by simp) (ho.flat (by simp)),by simp⟩
 | arr h=>exact ⟨_,h,.root (by simp) (ho.flat (by simp)),fun _ _ h=>⟨h,rfl⟩⟩
 | map h=>exact ⟨_,h,.root (by simp) (ho.flat (by simp)),by simp⟩
 | nest h=>
  refine ⟨_,h,?_,by simp⟩;cases ho with
  | root _ hb=>exact .root (by simp) hb
  | row hb ha=>exact .row hb ha
 | row h hb ha _ _ _ _ _=>
  have:=ho.flat (by simp)
  cases this;exact ⟨_,h,.row hb ha,by simp⟩
theorem az.ak8 (S:az P w I β hp B M w0) {id b:Nat} {blk:ah} (ae:hp id=some blk) (ho:bf P w (β id) blk b) (hf: ∀e es,blk≠ .arr e es true): ∀j,¬I b j:=by
 have hr:=S.h.rel id blk ae;generalize β id=o at hr ho;cases hr with
 | var hb _ _ hI _ _=>have:=ho.flat (by simp);grind
 | ey hb=>have:=ho.flat (by simp);grind
 | @arr e _ es fz _ _ _ _ hb _ _ _ fH _=>
  have:=ho.flat (by simp)
  simp_all
 | dead=>exact absurd rfl ho.alive
 | map _ hb _ _ hI _ _=>have:=ho.flat (by simp);grind
 | out hb _ _ hh _ _ hI hc hr _=>
  cases ho with
  | root _ av=>grind
  | qn av yN hj hx h0 hv=>
   rw[hb] at av;cases av;rw[hh] at yN;cases yN;obtain ⟨_,_,m1,_⟩:=hc _ _ hj hx;cases m1;exact (hr _ _ _ _ hj hx h0 hv).2.nI
 | iY hb=>cases ho<;>simp_all
 | nest hb hr _=>
  cases ho with
  | root _ av=>rw[hb] at av;cases av;exact (hr _ _ _ _ .here).nI
  | row av ha=>rw[hb] at av;cases av;exact (hr _ _ _ _ ha).nI
theorem Lu {a b:List Nat} (h:Bv a b=false) {x:Nat} (ha:x∈a):x∉b:=by
 intro hb;unfold Bv at h;rw[List.any_eq_false] at h;exact h x ha (yW hb)
theorem ak9 (S:az P w I β hp B M w0) {pl:List Place} {upd:List (Nat×ah)} {o:Nat→Option Nat} (oq:(pl.map Place.id).Nodup) (zA:Bv (upd.map (·.1)) (pl.map Place.id)=false)
  (hl: ∀j blk,hp0 j=some blk→∃p,gq pl j=some p∧gi P w β hp p (o j) blk)
  (cN:(∀j blk,hp0 j=some blk→∀b,bf P w (o j) blk b→vV P (jS P w I β hp upd) blk b)→∀j blk,hp0 j=some blk→eW P w (jS P w I β hp upd) o hp0 (o j) blk) (aZ: ∀b j,jS P w I β hp upd b j→b<w.heap.size):
  yJ P w (jS P w I β hp upd) o hp0 w.heap.size (sX P w o hp0):=by
 have dj: ∀j blk,hp0 j=some blk→∀b,bf P w (o j) blk b→vV P (jS P w I β hp upd) blk b:=by
  intro j blk hj b ho jj hI;obtain ⟨p,bK,gf⟩:=hl j blk hj;obtain ⟨uo,k1,k2,k3⟩:=gf.zz ho;rcases hI with hI|⟨q,hq,cA,q1,q2⟩
  ·by_cases hz: ∃e es,uo= .arr e es true
   ·obtain ⟨e,es,rfl⟩:=hz;obtain ⟨rfl,h4⟩:=k3 e es rfl;refine ⟨e,es,rfl,?_⟩;have hr:=S.h.rel _ _ k1;have hb:=k2.flat (by simp)
    generalize β p.id=o' at hr hb;cases hr with
    | ey h=>rw[hb] at h;cases h
    | arr _ _ a2 _ _ a5 _ _=>rw[hb] at a2;cases a2;exact a5 rfl jj hI
   ·exact absurd hI (S.ak8 k1 k2 (fun e es h=>hz ⟨e,es,h⟩) jj)
  ·exfalso;have:=S.h.inj _ _ _ _ b q1 k1 q2.own k2;refine Lu zA (iE.2 ⟨q,hq,rfl⟩) ?_;rw[this];rw[pL] at bK;grind
 refine ⟨cN dj,fun j1 j2 b1 b2 b h1 h2 o1 o2=> ?_,fun j blk b h1 o1=> .inl ⟨j,blk,h1,o1⟩,aZ⟩;obtain ⟨p1,q1,q2⟩:=hl j1 b1 h1;obtain ⟨p2,r1,r2⟩:=hl j2 b2 h2;obtain ⟨c1,x1,x2,_⟩:=q2.zz o1;obtain ⟨c2,y1,y2,_⟩:=r2.zz o2;have ae:=S.h.inj _ _ _ _ b x1 y1 x2 y2;rw[pL] at q1 r1;have m1:(pl.map Place.id)[j1]? =some p1.id:=by grind
 have m2:(pl.map Place.id)[j2]? =some p2.id:=by grind
 rw[←ae] at m2;obtain ⟨z1,z2⟩:=cw.1 m1;obtain ⟨z3,z4⟩:=cw.1 m2;exact (List.getElem_inj oq).1 (z2.trans z4.symm)
def ZN:V→Prop
 | .list .. =>False
 | .nl .. =>False
 | .pref .. =>False
 | .agg _=>False
 | .bd _=>False
 | .fn .. =>False
 | _=>True
theorem aj.free {v:Value} {x:V} (h:aj P w I β hp v x) (hx:ZN x):aj P w I' β hp v x:=by
 cases h with
 | undef=>exact .undef
 | int=>exact .int
 | bool=>exact .bool
 | str h=>exact .str h
 | list h=>exact hx.elim
 | nilS=>exact .nilS
 | nl=>exact hx.elim
 | agg=>exact hx.elim
 | bd=>exact hx.elim
 | eA=>exact .eA
 | fn=>exact hx.elim
 | pref=>exact hx.elim
 | dW h=>exact .dW h
 | jx h=>exact .jx h
 | mD h=>exact .mD h
 | dS h hb=>exact .dS h hb
 | whole h hb a b c=>exact .whole h hb a b c
 | dM h hb a b c=>exact .dM h hb a b c
 | eb h hb=>exact .eb h hb
 | fA h hb a b c=>exact .fA h hb a b c
 | iX h hb=>exact .iX h hb
 | sub h hb a b c=>exact .sub h hb a b c
 | ptr h hd hb=>exact .ptr h hd hb
 | mE h vM=>exact .mE h vM
 | mF h vM=>exact .mF h vM
 | row h hb a b c d=>exact .row h hb a b c d
 | dE h hb a b c d e=>exact .dE h hb a b c d e
 | eU=>exact .eU
 | ln h=>exact .ln h
 | cG h hb=>exact .cG h hb
theorem FY {l:LS} {ds:List V} (hs:l.safe=true):ZN (lh l ds):=by
 cases l<;>simp only[LS.safe] at hs<;>first|(cases hs;done)|trivial
theorem FZ: ∀{ls:List LS} {ds:List V} {j:Nat} {y:V},(iU ls ds)[j]? =some y→∃l ka,l∈ls∧y=lh l ka
 | [],ds,j,y,h=>by simp[iU] at h
 | l::ls,ds,j,y,h=>by
  simp only[iU] at h;cases j with
  | zero=>grind
  | succ j=>
   obtain ⟨l',ka,h1,h2⟩:=FZ (j:=j) (by simpa using h);grind
theorem ZO: ∀{ls:List VS} {ds:List V} {j:Nat} {y:V},(jt ls ds)[j]? =some y→∃l ka,l∈ls∧y=n8 l ka
 | [],ds,j,y,h=>by simp[jt] at h
 | l::ls,ds,j,y,h=>by
  simp only[jt] at h;cases j with
  | zero=>grind
  | succ j=>
   obtain ⟨l',ka,h1,h2⟩:=ZO (j:=j) (by simpa using h);grind
theorem ZP {s:VS} {ds:List V} {v:Value} (h:aj P w I β hp v (n8 s ds)) (hs:s.safe=true):aj P w I' β hp v (n8 s ds):=by
 cases s with
 | one l=>exact h.free (FY hs)
 | agg ls=>
  simp only[n8] at h⊢;obtain ⟨cs,rfl,e1,e2⟩:=h.np;refine .agg e1 fun j v x hj hx=> ?_;obtain ⟨l,ka,k1,rfl⟩:=FZ hx;exact (e2 j v _ hj hx).free (FY (gU.1 hs l k1))
 | bd ls=>
  simp only[n8] at h⊢;obtain ⟨cs,rfl,e1,e2⟩:=h.yR;refine .bd e1 fun j v x hj hx=> ?_;obtain ⟨l,ka,k1,rfl⟩:=FZ hx;exact (e2 j v _ hj hx).free (FY (gU.1 hs l k1))
 | fn f a b=>
  simp only[VS.safe,aJ] at hs;simp only[n8] at h⊢;cases h with
  | fn a1 a2 b1 b2=>
   refine .fn a1 (fun j v x hj hx=> ?_) b1 (fun j v x hj hx=> ?_)
   ·obtain ⟨l,ka,k1,rfl⟩:=FZ hx;exact (a2 j v _ hj hx).free (FY (gU.1 hs.1 l k1))
   ·obtain ⟨l,ka,k1,rfl⟩:=FZ hx;exact (b2 j v _ hj hx).free (FY (gU.1 hs.2 l k1))
 | pref ts ls=>cases hs
theorem Pure.scalar {t:TypeId} {v:Value} {x:V} (h:Pure P w I t v x) (hn: ∀e,P.underlying t≠some (.slice e)):Pure P w I' t v x:=by
 cases h with
 | int h=>exact .int h
 | bool h=>exact .bool h
 | str h hl=>exact .str h hl
 | nil h=>grind
 | emp h=>grind
 | list g h=>grind
theorem ala {e t:TypeId} {j:Nat} (h:Ep P e=true) (ht:(aT P e)[j]? =some t) (e':TypeId):P.underlying t≠some (.slice e'):=by
 intro hu;have h2:=gU.1 h t (my ht);grind
theorem alb {o:Option Nat} {b:BS} {ds:List V} (h:eW P w I2 β hp o (iI b ds)) (hs:b.safe P=true) (hi: ∀b j,I b j→I2 b j):eW P w I β hp o (iI b ds):=by
 cases b with
 | dead=>exact .dead
 | var T0 ls=>
  simp only[iI] at h⊢;cases h with
  | var hb hh bc hI hx iK=>
   refine .var hb hh bc (fun j h=>hI j (hi _ j h)) (fun j v x hj dd=> ?_) iK;obtain ⟨l,ka,k1,rfl⟩:=ZO dd;exact ZP (hx j v _ hj dd) (gU.1 hs l k1)
 | arr e fz=>
  simp only[BS.safe,aJ,mZ] at hs;obtain ⟨rfl,FX⟩:=hs;simp only[iI] at h⊢;generalize (V.nth ds 0).toList=es at h⊢;cases h with
  | ey hb=>exact .ey hb
  | arr a0 a1 a2 a3 a4 a5 a6 a7=>
   refine .arr a0 a1 a2 a3 a4 (fun h=>by cases h) (fun _ j h=>a6 rfl j (hi _ j h)) fun i j x t' y1 y2 y3=> ?_;obtain ⟨v,z1,z2⟩:=a7 i j x t' y1 y2 y3;exact ⟨v,z1,z2.scalar (ala FX y2)⟩
 | nest e=>
  simp only[iI] at h⊢;generalize (V.nth ds 0).toList=es at h⊢;cases h with
  | iY hb=>exact .iY hb
  | nest hb cS lX=>
   refine .nest hb (fun q b' e1 m1 hq=> ?_) lX;obtain ⟨ok,⟨Ca,Tc,c1,c0,c2,c3⟩,nI⟩:=cS q b' e1 m1 hq;refine ⟨ok,⟨Ca,Tc,c1,c0,c2,fun i j x t' y1 y2 y3=> ?_⟩,fun j h=>nI j (hi _ j h)⟩;obtain ⟨v,z1,z2⟩:=c3 i j x t' y1 y2 y3;refine ⟨v,z1,?_⟩;generalize ca P e1 x j=y at z2⊢;cases z2 with
   | gu a p=>
    refine .gu a (p.scalar fun e hu=> ?_);unfold dU at a;grind
   | emp a=>exact .emp a
   | row a b c d e=>exact .row a b c d e
 | map t=>
  simp only[iI] at h⊢;cases h with
  | map a1 a2 a3 a4 a5 a6 a7=>exact .map a1 a2 a3 a4 (fun j h=>a5 j (hi _ j h)) a6 a7
theorem Lv: ∀{l:List BS} {ds:List V} {j:Nat} {y:ah},(gY l ds)[j]? =some y→∃b ka,l[j]? =some b∧y=iI b ka
 | [],ds,j,y,h=>by simp[gY] at h
 | b::l,ds,j,y,h=>by
  simp only[gY] at h;cases j with
  | zero=>grind
  | succ j=>
   obtain ⟨b',ka,h1,h2⟩:=Lv (j:=j) (by simpa using h);grind
theorem ZQ: ∀{l:List (Nat×VS)} {ds:List V} {q:Nat×V},q∈iW l ds→∃s ka,(q.1,s)∈l∧q.2=n8 s ka
 | [],ds,q,h=>by simp[iW] at h
 | (k,s)::l,ds,q,h=>by
  simp only[iW,fY] at h;rcases h with h|h
  ·grind
  ·obtain ⟨s',ka,h1,h2⟩:=ZQ h;grind
theorem alc {S:Shape} {es:List V} (hs:S.safe P=true) (hi: ∀b j,I b j→I2 b j) {N:Nat→Prop} {st:Start} (h:az P w' I2 cB (bM S es).hp B N st) (h0: ∀b j,I b j→st.I b j):
  az P w' I cB (bM S es).hp B N st∧∀v,aj P w' I2 cB (bM S es).hp v (tK (iW S.cp es))→aj P w' I cB (bM S es).hp v (tK (iW S.cp es)):=by
 unfold Shape.safe at hs;simp only[aJ] at hs;obtain ⟨kz,pK⟩:=hs;have one: ∀q∈iW S.cp es,∀v,aj P w' I2 cB (bM S es).hp v q.2→aj P w' I cB (bM S es).hp v q.2:=by
  intro q hq v hv;obtain ⟨s,ka,k1,k2⟩:=ZQ hq;rw[k2] at hv⊢;exact ZP hv (gU.1 kz _ k1)
 refine ⟨⟨⟨fun j blk hj=> ?_,h.h.inj,h.h.own,fun b j hb=>h.h.jQ b j (hi b j hb)⟩,h.cI,h.size,fun b j hb=> .inl (h0 b j hb),h.io⟩,fun v hv=> ?_⟩
 ·have hr:=h.h.rel j blk hj;have dX:=hj;simp only[bM,mk,kO] at dX;obtain ⟨b,ka,k1,rfl⟩:=Lv dX;exact alb hr (gU.1 pK _ (my k1)) hi
 ·generalize iW S.cp es=l at one hv⊢
  match l,one,hv with
  | [],_,hv=>
   simp only[tK,List.map_nil] at hv⊢;obtain ⟨cs,rfl,e1,e2⟩:=hv.yR;exact .bd e1 fun j v x _ hx=>by simp at hx
  | [q],one,hv=>exact one q (fx.2 rfl) v hv
  | q::q2::l,one,hv=>
   simp only[tK] at hv⊢;obtain ⟨cs,rfl,e1,e2⟩:=hv.yR;refine .bd e1 fun j v x hj hx=> ?_;grind
end
section
variable {P:Program} {A:dw} {w w':World} {I I' I2:Nat→Nat→Prop} {μ β β' cB:Nat→Option Nat} {hp hp' hp0 bK:Nat→Option ah} {C:af} {B:Nat} {M:Nat→Prop} {w0:Start}
inductive jI (σ:List Place):ah→ah→Prop
 | dead:jI σ .dead .dead
 | var {T:TypeId} {cs:List V}:jI σ (.var T cs) (.var T (cs.map (JW σ)))
 | arr {e:TypeId} {es:List V} {fz:Bool}:jI σ (.arr e es fz) (.arr e es fz)
 | nest {e:TypeId} {es:List V} {v1 v2:List Nat}:jI σ (.nest e es v1) (.nest e es v2)
 | map {t:TypeId} {es:List V}:jI σ (.map t es) (.map t es)
 | out {e:TypeId} {es:List V} {vs:List Nat} {i:Nat}:jI σ (.out e es vs i) .dead
theorem jI.of (σ:List Place) (b:ah):jI σ b (yE σ b):=by
 cases b with
 | dead=>exact .dead
 | var T cs=>exact .var
 | arr e es fz=>exact .arr
 | nest e es v=>exact .nest
 | map t es=>exact .map
 | out e es vs i=>exact .out
theorem ZR {σ:List Place}: ∀{pl:List Place} {bs:List ah} {acc:List (Nat×ah)} {k:List (Nat×ah)→Rd R} {r:R} {rd:List Nat},(vf σ pl bs acc k).run C hp=some (r,rd)→
  pl.length≤bs.length∧∃bk gK,(k bk).run C hp=some (r,gK)∧(∀q∈bk,q∈acc∨∃(j:Nat) (b:ah),pl[j]? =some (.blk q.1)∧bs[j]? =some b∧jI σ b q.2∧((∃e es v2,q.2= .nest e es v2)→∃e es vers e' aK,hp q.1=some (.nest e es vers)∧q.2= .nest e' aK (vers.map (· +1))))∧
   (∀q∈acc,q∈bk)∧∀(j:Nat) p,pl[j]? =some p→∃id b,p= .blk id∧(id,b)∈bk
 | [],bs,acc,k,r,rd,h=>⟨nf _,acc,rd,by simpa only[vf] using h,fun q hq=> .inl hq,fun q hq=>hq,fun j p hp=>by simp at hp⟩
 | .row _ _ _::pl,bs,acc,k,r,rd,h=>by
  cases bs<;>(simp only[vf] at h;cases h)
 | .blk id::pl,[],acc,k,r,rd,h=>by simp only[vf] at h;cases h
 | .blk id::pl,b::bs,acc,k,r,rd,h=>by
  have fin: ∀{b2:ah} {jH:List Nat},(vf σ pl bs ((id,b2)::acc) k).run C hp=some (r,jH)→jI σ b b2→((∃e es v2,b2= .nest e es v2)→∃e es vers e' aK,hp id=some (.nest e es vers)∧b2= .nest e' aK (vers.map (· +1)))→
    (Place.blk id::pl).length≤(b::bs).length∧∃bk gK,(k bk).run C hp=some (r,gK)∧(∀q∈bk,q∈acc∨∃(j:Nat) (b':ah),(Place.blk id::pl)[j]? =some (.blk q.1)∧(b::bs)[j]? =some b'∧jI σ b' q.2∧((∃e es v2,q.2= .nest e es v2)→∃e es vers e' aK,hp q.1=some (.nest e es vers)∧q.2= .nest e' aK (vers.map (· +1))))∧
     (∀q∈acc,q∈bk)∧∀(j:Nat) p,(Place.blk id::pl)[j]? =some p→∃id b,p= .blk id∧(id,b)∈bk:=by
   intro b2 jH h1 hb hn;obtain ⟨a0,bk,gK,a1,a2,a3,a4⟩:=ZR h1;refine ⟨by simp only[List.length_cons];omega,bk,gK,a1,fun q hq=> ?_,fun q hq=>a3 q (nX _ hq),fun j p hj=> ?_⟩
   ·rcases a2 q hq with h|⟨j,b',k1,k2,k3,k4⟩
    ·rcases fY.1 h with e|h
     ·subst e;exact .inr ⟨0,b,rfl,rfl,hb,hn⟩
     ·exact .inl h
    ·exact .inr ⟨j+1,b',by simpa using k1,by simpa using k2,k3,k4⟩
   ·cases j with
    | zero=>simp at hj;subst hj;exact ⟨id,b2,rfl,a3 _ (Bo ..)⟩
    | succ j=>exact a4 j p (by simpa using hj)
  cases b with
  | nest e es v=>
   simp only[vf] at h;obtain ⟨l,h⟩:=run_get h;cases ae:hp id with
   | none=>rw[ae] at h;cases h
   | some blk=>
    rw[ae] at h;cases blk with
    | nest e0 K4 vers=>exact fin h .nest fun _=>⟨e0,K4,vers,e,es,ae,rfl⟩
    | _=>cases h
  | dead=>exact fin h (.of σ _) fun ⟨_,_,_,h⟩=>by cases h
  | var T cs=>exact fin h (.of σ _) fun ⟨_,_,_,h⟩=>by cases h
  | arr e es fz=>exact fin h (.of σ _) fun ⟨_,_,_,h⟩=>by cases h
  | map t es=>exact fin h (.of σ _) fun ⟨_,_,_,h⟩=>by cases h
  | out e es vs i=>exact fin h (.of σ _) fun ⟨_,_,_,h⟩=>by cases h
theorem ZS {σ:List Place}: ∀{bs:List ah} {n:Nat} {q:Nat×ah},q∈vg σ n bs→∃i b,bs[i]? =some b∧q=(n+i,yE σ b)
 | [],n,q,h=>by simp[vg] at h
 | b::bs,n,q,h=>by
  simp only[vg,fY] at h;rcases h with h|h
  ·exact ⟨0,b,rfl,h⟩
  ·obtain ⟨i,b',h1,h2⟩:=ZS h;exact ⟨i+1,b',by simpa using h1,by rw[h2];congr 1;omega⟩
theorem ZT {σ:List Place}: ∀{bs:List ah} {n i:Nat} {b:ah},bs[i]? =some b→(n+i,yE σ b)∈vg σ n bs
 | [],n,i,b,h=>by simp at h
 | b0::bs,n,i,b,h=>by
  simp only[vg,fY];cases i with
  | zero=>simp at h;subst h;exact .inl rfl
  | succ i=>exact .inr (by rw[show n+(i+1)=n+1+i by omega];exact ZT (by simpa using h))
theorem Lw: ∀{k n i:Nat},i<k→(xc n k)[i]? =some (.blk (n+i))
 | 0,n,i,h=>by omega
 | k+1,n,0,h=>rfl
 | k+1,n,i+1,h=>by
  simp only[xc,List.getElem?_cons_succ];rw[Lw (by omega)];congr 2;omega
theorem Ry: ∀{k n:Nat},(xc n k).length=k
 | 0,_=>rfl
 | k+1,n=>by simp[xc,Ry]
theorem ZU: ∀{bs:List (Nat×ah)} {k:Rd R} {r:R} {rd:List Nat},(JX bs k).run C hp=some (r,rd)→(∀q∈bs,hp q.1=none)∧∃gK,k.run C hp=some (r,gK)
 | [],k,r,rd,h=>⟨by simp,rd,h⟩
 | (id,b)::l,k,r,rd,h=>by
  simp only[JX] at h;obtain ⟨l1,h⟩:=run_get h;cases ae:hp id with
  | some blk=>rw[ae] at h;cases h
  | none=>
   rw[ae] at h;obtain ⟨h1,h2⟩:=ZU h;refine ⟨fun q hq=> ?_,h2⟩;rcases fY.1 hq with e|hq
   ·subst e;exact ae
   ·exact h1 q hq
structure uq (σ:List Place) (cB:Nat→Option Nat) (bK:Nat→Option ah) (β':Nat→Option Nat) (hp':Nat→Option ah):Prop where
 blk: ∀j b,bK j=some b→∃id b',gq σ j=some (.blk id)∧hp' id=some b'∧jI σ b b'∧(b≠ .dead→β' id=cB j)
 none: ∀j,bK j=none→gq σ j=none
 azu: ∀j id ver path,gq σ j≠some (.row id ver path)
theorem uq.leaf {σ:List Place} (T:uq σ cB bK β' hp') {v:Value} {x:V} (h:aj P w I cB bK v x):aj P w I β' hp' v (mB σ x):=by
 have look: ∀{j b},bK j=some b→∃id b',gq σ j=some (.blk id)∧hp' id=some b'∧jI σ b b'∧(b≠ .dead→β' id=cB j):=fun h=>T.blk _ _ h;cases h with
 | undef=>exact .undef
 | int=>exact .int
 | bool=>exact .bool
 | str h=>exact .str h
 | list h=>exact .list h
 | nilS=>exact .nilS
 | nl h h0=>exact .nl h h0
 | agg=>exact .undef
 | bd=>exact .undef
 | eA=>exact .eA
 | fn=>exact .undef
 | pref a b c=>exact .pref a b c
 | @dW _ e j h=>
  obtain ⟨id,b',k1,k2,k3,k4⟩:=look h;simp only[mB,k1];cases k3;exact .dW k2
 | @jx _ e j _ _ h=>
  obtain ⟨id,b',k1,k2,k3,k4⟩:=look h;simp only[mB,k1];cases k3;exact .jx k2
 | @mD _ j _ _ h=>
  obtain ⟨id,b',k1,k2,k3,k4⟩:=look h;simp only[mB,k1];cases k3;exact .mD k2
 | @dS e j fz _ h hb=>
  obtain ⟨id,b',k1,k2,k3,k4⟩:=look h;simp only[mB,k1];cases k3;exact .dS k2 ((k4 (by simp)).trans hb)
 | @whole e j es fz b cap h hb a1 a2 a3=>
  obtain ⟨id,b',k1,k2,k3,k4⟩:=look h;simp only[mB,k1];cases k3;exact .whole k2 ((k4 (by simp)).trans hb) a1 a2 a3
 | @dM e j es vers b cap h hb a1 a2 a3=>
  obtain ⟨id,b',k1,k2,k3,k4⟩:=look h;simp only[mB,k1];cases k3;exact .dM k2 ((k4 (by simp)).trans hb) a1 a2 a3
 | @fA e j i es vers b cap h hb a1 a2 a3=>
  obtain ⟨id,b',k1,k2,k3,k4⟩:=look h;simp only[mB,k1];cases k3;exact .dW k2
 | @eb e j vers _ h hb=>
  obtain ⟨id,b',k1,k2,k3,k4⟩:=look h;simp only[mB,k1];cases k3;exact .eb k2 ((k4 (by simp)).trans hb)
 | @iX e j fz _ h hb=>
  obtain ⟨id,b',k1,k2,k3,k4⟩:=look h;simp only[mB,k1];cases k3;exact .iX k2 ((k4 (by simp)).trans hb)
 | @sub e j off len es fz b o cap h hb a1 a2 a3=>
  obtain ⟨id,b',k1,k2,k3,k4⟩:=look h;simp only[mB,k1];cases k3;exact .sub k2 ((k4 (by simp)).trans hb) a1 a2 a3
 | @ptr j i c b blk h hd hb=>
  obtain ⟨id,b',k1,k2,k3,k4⟩:=look h;simp only[mB,k1];by_cases fO:b'= .dead
  ·subst fO;exact .mD k2
  have hs:blk.sz P=b'.sz P:=by cases k3<;>first|rfl|exact absurd rfl fO
  rw[hs];exact .ptr k2 fO ((k4 hd).trans hb)
 | mE=>exact .undef
 | mF=>exact .undef
 | row=>exact .undef
 | dE=>exact .undef
 | eU=>exact .eU
 | @ln _ t j h=>
  obtain ⟨id,b',k1,k2,k3,k4⟩:=look h;simp only[mB,k1];cases k3;exact .ln k2
 | @cG t j b es h hb=>
  obtain ⟨id,b',k1,k2,k3,k4⟩:=look h;simp only[mB,k1];cases k3;exact .cG k2 ((k4 (by simp)).trans hb)
theorem uq.one {σ:List Place} (T:uq σ cB bK β' hp') {v:Value} {x:V} (h:aj P w I cB bK v x):aj P w I β' hp' v (Pz σ x):=by
 cases x with
 | agg xs=>
  obtain ⟨cs,rfl,e1,e2⟩:=h.np;exact .agg (by simpa using e1) fun j v y hj hy=>by
   rw[ld] at hy;cases hx:xs[j]? with
   | none=>rw[hx] at hy;cases hy
   | some x=>rw[hx] at hy;cases hy;exact T.leaf (e2 j v x hj hx)
 | fn f a b=>
  cases h with
  | fn a1 a2 b1 b2=>
   refine .fn (by simpa using a1) (fun j v y hj hy=> ?_) (by simpa using b1) (fun j v y hj hy=> ?_)
   ·rw[ld] at hy;cases hx:a[j]? with
    | none=>rw[hx] at hy;cases hy
    | some x=>rw[hx] at hy;cases hy;exact T.leaf (a2 j v x hj hx)
   ·rw[ld] at hy;cases hx:b[j]? with
    | none=>rw[hx] at hy;cases hy
    | some x=>rw[hx] at hy;cases hy;exact T.leaf (b2 j v x hj hx)
 | _=>exact T.leaf h
theorem uq.val {σ:List Place} (T:uq σ cB bK β' hp') {v:Value} {x:V} (h:aj P w I cB bK v x):aj P w I β' hp' v (JW σ x):=by
 cases x with
 | bd xs=>
  obtain ⟨cs,rfl,e1,e2⟩:=h.yR;exact .bd (by simpa using e1) fun j v y hj hy=>by
   rw[ld] at hy;cases hx:xs[j]? with
   | none=>rw[hx] at hy;cases hy
   | some x=>rw[hx] at hy;cases hy;exact T.one (e2 j v x hj hx)
 | _=>exact T.one h
theorem uq.ZV {σ:List Place} (T:uq σ cB bK β' hp') {o:Option Nat} {b b':ah} (h:eW P w I cB bK o b) (hb:jI σ b b'):eW P w I β' hp' o b':=by
 cases hb with
 | dead=>exact .dead
 | var=>
  cases h with
  | var a1 a2 a3 a4 a5 a6=>
   refine .var a1 a2 (by simpa using a3) a4 (fun j v y hj hy=> ?_) a6;rw[ld] at hy;cases hx:(_:List V)[j]? with
   | none=>rw[hx] at hy;cases hy
   | some x=>rw[hx] at hy;cases hy;exact T.val (a5 j v x hj hx)
 | arr=>
  cases h with
  | ey hb=>exact .ey hb
  | arr a0 a1 a2 a3 a4 a5 a6 a7=>exact .arr a0 a1 a2 a3 a4 a5 a6 a7
 | nest=>
  cases h with
  | nest a1 a2 a3=>exact .nest a1 a2 a3
  | iY a1=>exact .iY a1
 | map=>
  cases h with
  | map a1 a2 a3 a4 a5 a6 a7=>exact .map a1 a2 a3 a4 a5 a6 a7
 | out=>exact .dead
theorem jI.zz {σ:List Place} {o:Option Nat} {b b':ah} (h:jI σ b b') {m:Nat} (ho:bf P w o b' m):bf P w o b m:=by
 cases h with
 | dead=>exact absurd rfl ho.alive
 | var=>exact .root (by simp) (ho.flat (by simp))
 | arr=>exact .root (by simp) (ho.flat (by simp))
 | map=>exact .root (by simp) (ho.flat (by simp))
 | out=>exact absurd rfl ho.alive
 | nest=>
  cases ho with
  | root _ hb=>exact .root (by simp) hb
  | row hb ha=>exact .row hb ha
theorem jI.ZW {σ:List Place} {b b':ah} (h:jI σ b b'):b'≠ .dead→b≠ .dead:=by
 intro h1 h2;subst h2;cases h;exact h1 rfl
end
section
variable {P:Program} {A:dw} {w w':World} {I I' I2:Nat→Nat→Prop} {μ β β' cB:Nat→Option Nat} {hp hp' hp0 bK:Nat→Option ah} {C:af} {B:Nat} {M:Nat→Prop} {w0:Start}
theorem ZX: ∀{vs:List Nat} {k:Nat},k<vs.length→bA (vs.map (· +1)) k=bA vs k+1
 | [],k,h=>by simp at h
 | v::vs,0,h=>rfl
 | v::vs,k+1,h=>by simp only[lb,bA];exact ZX (by grind)
theorem ZY: ∀{vs:List Nat} {k:Nat},bA vs k≤bA (vs.map (· +1)) k
 | [],k=>by grind
 | v::vs,0=>by simp[bA]
 | v::vs,k+1=>by simp only[lb,bA];exact ZY
def F0 (hp:Nat→Option ah) (q:Nat×ah):Prop:=(∃e es v2,q.2= .nest e es v2)→∃e es vers e' aK,hp q.1=some (.nest e es vers)∧q.2= .nest e' aK (vers.map (· +1))
theorem gi.Rz {id:Nat} {o:Option Nat} {blk:ah} (h:gi P w β hp (.blk id) o blk):o=β id∧∃b0,hp id=some b0∧b0≠ .dead:=by
 cases h with
 | var h=>grind
 | arr h=>grind
 | nest h=>grind
 | map h=>grind
theorem gi.ald {id:Nat} {o:Option Nat} {c b b' b0:ah} {σ:List Place} (h:gi P w β hp (.blk id) o c) (h0:hp id=some b0) (hle:c.le b) (hb:jI σ b b') (hn:F0 hp (id,b')):b0.le b':=by
 cases h with
 | var h=>
  rw[h] at h0;cases h0;cases hb with
  | dead=>trivial
  | out=>trivial
  | var=>trivial
  | arr=>exact hle.elim
  | nest=>exact hle.elim
  | map=>exact hle.elim
 | arr h=>
  rw[h] at h0;cases h0;cases hb with
  | dead=>trivial
  | out=>trivial
  | var=>exact hle.elim
  | arr=>exact hle
  | nest=>exact hle.elim
  | map=>omega
 | map h=>
  rw[h] at h0;cases h0;cases hb with
  | dead=>trivial
  | out=>trivial
  | map=>exact hle
  | _=>exact hle.elim
 | nest h=>
  rw[h] at h0;cases h0;cases hb with
  | dead=>trivial
  | out=>trivial
  | var=>exact hle.elim
  | arr=>exact hle
  | map=>exact hle.elim
  | @nest e es v1 v2=>
   obtain ⟨e1,di,xm,e2,bV,k1,k2⟩:=hn ⟨_,_,_,rfl⟩;cases k2;change hp id=_ at k1;rw[h] at k1;cases k1;exact ⟨hle.1,hle.2.1,by simp,fun k=>ZY⟩
theorem gi.other {p:Place} {o:Option Nat} {blk:ah} (h:gi P w β hp p o blk) (he:hp' p.id=hp p.id):gi P w β hp' p o blk:=by
 cases h with
 | var h=>exact .var (he.trans h)
 | arr h=>exact .arr (he.trans h)
 | nest h=>exact .nest (he.trans h)
 | map h=>exact .map (he.trans h)
 | row h a b c d e f g=>exact .row (he.trans h) a b c d e f g
open Classical in
theorem ZZ (S:az P w I β hp B M w0) {pl:List Place} {o:Nat→Option Nat} {bs:List ah} {nb:Nat} {bk fr:List (Nat×ah)} {σ:List Place} (vW:σ=pl++xc nb (bs.length-pl.length)) (F3:fr=vg σ nb (bs.drop pl.length))
  (oq:(pl.map Place.id).Nodup) (sE:pl.length≤bs.length)
  (Lx: ∀(j:Nat) p,pl[j]? =some p→∃id b,p= .blk id∧(id,b)∈bk) (vX: ∀q∈bk,∃(j:Nat) (b:ah),pl[j]? =some (.blk q.1)∧bs[j]? =some b∧jI σ b q.2∧F0 hp q)
  (hl: ∀j blk,hp0 j=some blk→∃p,gq pl j=some p∧gi P w β hp p (o j) blk) (hd: ∀j,j<pl.length→∃blk,hp0 j=some blk)
  (Sc:az P w' I2 cB (ni bs) w.heap.size (sX P w o hp0) ⟨w,I⟩) (Cv:oR w I o hp0 w' I2 cB (ni bs)) (Cw: ∀q∈fr,hp q.1=none):
  ∃β',Le P w I β hp w' I2 β' (b8 hp (fr++bk))∧az P w' I2 β' (b8 hp (fr++bk)) B M w0∧uq σ cB (ni bs) β' (b8 hp (fr++bk)):=by
 generalize RA:b8 hp (fr++bk)=gf
 let β':Nat→Option Nat:=fun n=>if∃q∈fr,q.1=n then cB (pl.length+(n-nb)) else β n
 have Z0: ∀(j:Nat) id,pl[j]? =some (.blk id)→∃c,hp0 j=some c∧gi P w β hp (.blk id) (o j) c:=by
  intro j id hj;obtain ⟨c,hc⟩:=hd j (cw.1 hj).1;obtain ⟨p,h1,h2⟩:=hl j c hc;rw[pL,hj] at h1;cases h1;exact ⟨c,hc,h2⟩
 have uniq: ∀(j1 j2:Nat) id,pl[j1]? =some (.blk id)→pl[j2]? =some (.blk id)→j1=j2:=by
  intro j1 j2 id h1 h2;have m1:(pl.map Place.id)[j1]? =some id:=by rw[ld,h1];rfl
  have m2:(pl.map Place.id)[j2]? =some id:=by rw[ld,h2];rfl
  obtain ⟨z1,z2⟩:=cw.1 m1;obtain ⟨z3,z4⟩:=cw.1 m2;exact (List.getElem_inj oq).1 (z2.trans z4.symm)
 have cls: ∀id,(∃i b,id=nb+i∧bs[pl.length+i]? =some b∧gf id=some (yE σ b)∧hp id=none∧β' id=cB (pl.length+i))∨
   (∃(j:Nat) (b b' c b0:ah),pl[j]? =some (.blk id)∧bs[j]? =some b∧hp0 j=some c∧gi P w β hp (.blk id) (o j) c∧hp id=some b0∧b0.le b'∧gf id=some b'∧jI σ b b'∧F0 hp (id,b')∧β' id=β id∧c.le b∧(b≠ .dead→cB j=β id))∨
   (gf id=hp id∧(∀j:Nat,pl[j]? ≠some (.blk id))∧β' id=β id):=by
  intro id;by_cases hm: ∃b,(id,b)∈fr++bk
  ·obtain ⟨b,hm⟩:=hm;obtain ⟨b',Ka,he⟩:=J7 (hp:=hp) hm;rw[RA] at he;rcases eD.1 Ka with h|h
   ·have h0:=Cw _ h;have sY:β' id=cB (pl.length+(id-nb)):=aB ⟨_,h,rfl⟩;rw[F3] at h;obtain ⟨i,b1,k1,k2⟩:=ZS h;rw[rj] at k1;cases k2;exact .inl ⟨i,b1,rfl,k1,he,h0,by rw[sY];congr 2;omega⟩
   ·obtain ⟨j,b1,q1,q2,q3,q4⟩:=vX _ h;obtain ⟨c,c1,c2⟩:=Z0 j id q1;obtain ⟨c3,b0,c4,c5⟩:=c2.Rz;obtain ⟨b2,d1,d2,d3⟩:=Cv.blk j c c1;rw[kO,q2] at d1;cases d1;refine .inr (.inl ⟨j,b1,b',c,b0,q1,q2,c1,c2,c4,c2.ald c4 d2 q3 q4,he,q3,q4,aC ?_,d2,fun h=>(d3 h).trans c3⟩);rintro ⟨q,hq,hqe⟩;rw[←hqe,Cw q hq] at c4;cases c4
  ·refine .inr (.inr ⟨?_,fun j hj=> ?_,aC ?_⟩)
   ·rcases xl (hp:=hp) (l:=fr++bk) (id:=id) with h|⟨b,hb,_⟩
    ·rw[RA] at h;exact h
    ·exact absurd ⟨b,hb⟩ hm
   ·obtain ⟨ar,b,e,hb⟩:=Lx j _ hj;cases e;exact hm ⟨b,eD.2 (.inr hb)⟩
   ·rintro ⟨q,hq,rfl⟩;exact hm ⟨q.2,eD.2 (.inl hq)⟩
 have Z1: ∀b,sX P w o hp0 b→∃(j id:Nat) (b1:ah),pl[j]? =some (.blk id)∧hp id=some b1∧bf P w (β id) b1 b:=by
  rintro b ⟨j,c,hc,ho⟩;obtain ⟨p,h1,h2⟩:=hl j c hc;rw[pL] at h1;obtain ⟨id,b2,rfl,_⟩:=Lx j p h1;obtain ⟨b1,k1,k2,_⟩:=h2.zz ho;exact ⟨j,id,b1,h1,k1,k2⟩
 have other: ∀id blk b,hp id=some blk→bf P w (β id) blk b→(∀j:Nat,pl[j]? ≠some (.blk id))→¬sX P w o hp0 b∧w'.heap[b]? =w.heap[b]? ∧(∀j,I2 b j→I b j):=by
  intro id blk b e1 e3 e4;have ur: ¬sX P w o hp0 b:=by
   intro hx;obtain ⟨j,ar,b1,i1,i2,i3⟩:=Z1 b hx;have:=S.h.inj id ar _ _ b e1 i2 e3 i3;subst this;exact e4 j i1
  have aZ:=S.h.lt e1 e3;refine ⟨ur,Sc.cI b aZ ur,fun j h=> ?_⟩;rcases Sc.new b j h with h|h|h
  ·exact h
  ·exact absurd h ur
  ·omega
 have xC:uq σ cB (ni bs) β' gf:=by
  refine ⟨fun j b hj=> ?_,fun j hj=> ?_,fun j id ver path hj=> ?_⟩
  ·rw[kO] at hj;by_cases dm:j<pl.length
   ·obtain ⟨id,b1,e,rJ⟩:=Lx j _ (bU dm);have Ly:pl[j]? =some (.blk id):=by rw[bU dm,e]
    have RB:gq σ j=some (.blk id):=by rw[vW];exact sW (by rw[pL];exact Ly)
    rcases cls id with ⟨i,b2,c1,c2,c3,c4,c5⟩|⟨j',b2,b',c,b0,q1,q2,q3,q4,q5,q6,q7,q8,q9,uu,Cx,vY⟩|⟨c1,c2,c3⟩
    ·obtain ⟨c,d1,d2⟩:=Z0 j id Ly;obtain ⟨_,b0,d3,_⟩:=d2.Rz;rw[d3] at c4;cases c4
    ·obtain rfl:=uniq _ _ _ q1 Ly;rw[hj] at q2;cases q2;exact ⟨id,b',RB,q7,q8,fun h=>uu.trans (vY h).symm⟩
    ·exact absurd Ly (c2 j)
   ·have Z2:=(cw.1 hj).1;have RB:gq σ j=some (.blk (nb+(j-pl.length))):=by
     rw[vW,pL,o9 (by omega)];exact Lw (by omega)
    have hm:(nb+(j-pl.length),yE σ b)∈fr:=by
     rw[F3];refine ZT ?_;rw[rj,show pl.length+(j-pl.length)=j by omega];exact hj
    rcases cls (nb+(j-pl.length)) with ⟨i,b2,c1,c2,c3,c4,c5⟩|⟨j',b2,b',c,b0,q1,q2,q3,q4,q5,q6,q7,q8,q9,uu,Cx,vY⟩|⟨c1,c2,c3⟩
    ·have hi:i=j-pl.length:=by omega
     subst hi;rw[show pl.length+(j-pl.length)=j by omega] at c2 c5;rw[hj] at c2;cases c2;exact ⟨_,_,RB,c3,.of σ _,fun _=>c5⟩
    ·rw[Cw _ hm] at q5;cases q5
    ·obtain ⟨b',Ka,he⟩:=J7 (hp:=hp) (l:=fr++bk) (eD.2 (.inl hm));rw[RA,c1,Cw _ hm] at he;cases he
  ·rw[kO] at hj;have:=List.getElem?_eq_none_iff.1 hj;rw[vW,pL,List.getElem?_eq_none_iff,gS,Ry];omega
  ·rw[vW,pL] at hj;by_cases dm:j<pl.length
   ·rw[n0 dm] at hj;obtain ⟨ar,b1,e,_⟩:=Lx j _ hj;cases e
   ·have Z2:j-pl.length<bs.length-pl.length:=by
     have:=(cw.1 hj).1;rw[gS,Ry] at this;omega
    rw[o9 (by omega),Lw Z2] at hj;cases hj
 have hle:Le P w I β hp w' I2 β' gf:=by
  refine ⟨Cv.eg,Cv.cI,fun id blk ae=> ?_,fun id blk blk' b ae bW vZ hb=> ?_,fun id e es vers e' aK vers' b q i c t v e1 l ae bW hb aZ hv ht hc=> ?_⟩
  ·rcases cls id with ⟨i,b2,c1,c2,c3,c4,c5⟩|⟨j',b2,b',c,b0,q1,q2,q3,q4,q5,q6,q7,q8,q9,uu,Cx,vY⟩|⟨c1,c2,c3⟩
   ·rw[ae] at c4;cases c4
   ·rw[ae] at q5;cases q5;exact ⟨b',q7,q6,fun _=>uu⟩
   ·exact ⟨blk,c1.trans ae,ah.le_refl _,fun _=>c3⟩
  ·rcases cls id with ⟨i,b2,c1,c2,c3,c4,c5⟩|⟨j',b2,b',c,b0,q1,q2,q3,q4,q5,q6,q7,q8,q9,uu,Cx,vY⟩|⟨c1,c2,c3⟩
   ·rw[ae] at c4;cases c4
   ·rw[q7] at bW;cases bW;exact Cv.size j' c b2 b q3 (by rw[kO];exact q2) (q8.ZW vZ) (q4.Rz.1.trans hb)
   ·rw[c1,ae] at bW;cases bW;simp only[bsize,(other id blk b ae (.root vZ hb) c2).2.1]
  ·rcases cls id with ⟨i2,b2,c1,c2,c3,c4,c5⟩|⟨j',b2,b',c',b0,q1,q2,q3,q4,q5,q6,q7,q8,q9,uu,Cx,vY⟩|⟨c1,c2,c3⟩
   ·rw[ae] at c4;cases c4
   ·rw[q7] at bW;cases bW;obtain ⟨_,_,xm,_,_,k1,k2⟩:=q9 ⟨_,_,_,rfl⟩;change hp id=_ at k1;rw[ae] at k1;cases k1;cases k2;rw[ZX aZ] at hv;omega
   ·rw[c1,ae] at bW;cases bW;exact ⟨l,rfl,hc.mono fun _ _ _ _ h=>(other id _ _ ae (.row hb h) c2).2.1⟩
 have place: ∀id blk b,gf id=some blk→bf P w' (β' id) blk b→(∃j c,ni bs j=some c∧bf P w' (cB j) c b∧gq σ j=some (.blk id))∨(b<w.heap.size∧¬sX P w o hp0 b∧hp id=some blk∧bf P w (β id) blk b):=by
  intro id blk b e1 e3;rcases cls id with ⟨i,b2,c1,c2,c3,c4,c5⟩|⟨j',b2,b',c,b0,q1,q2,q3,q4,q5,q6,q7,q8,q9,uu,Cx,vY⟩|⟨c1,c2,c3⟩
  ·rw[c3] at e1;cases e1;rw[c5] at e3;refine .inl ⟨pl.length+i,b2,by rw[kO];exact c2,(jI.of σ b2).zz e3,?_⟩;have:=(cw.1 c2).1;rw[vW,pL,o9 (by omega),Lw (by omega),c1];congr 3;omega
  ·rw[q7] at e1;cases e1;have vZ:b2≠ .dead:=q8.ZW e3.alive;rw[uu,←vY vZ] at e3;exact .inl ⟨j',b2,by rw[kO];exact q2,q8.zz e3,by rw[vW];exact sW (by rw[pL];exact q1)⟩
  ·rw[c1] at e1;rw[c3] at e3;have:=e3.mono (w:=w) fun b hb=>(other id blk b e1 hb c2).2.1;exact .inr ⟨S.h.lt e1 this,(other id blk b e1 this c2).1,e1,this⟩
 have xj: ∀b,sX P w o hp0 b∨w.heap.size≤b→M b∨B≤b:=by
  rintro b (h|h)
  ·obtain ⟨j,id,b1,i1,i2,i3⟩:=Z1 b h;exact S.h.own id b1 b i2 i3
  ·exact .inr (mX S.size h)
 have RC: ∀j c b,ni bs j=some c→bf P w' (cB j) c b→sX P w o hp0 b∨w.heap.size≤b:=fun j c b h1 h2=>Sc.h.own j c b h1 h2;refine ⟨β',hle,⟨⟨fun id blk ae=> ?_,fun i1 i2 b1 b2 b e1 e2 f1 f2=> ?_,fun id blk b ae hb=> ?_,Sc.h.jQ⟩,fun b hb hM=> ?_,mX S.size Sc.size,fun b j hb=> ?_,⟨Sc.io.1.trans S.io.1,Sc.io.2.trans S.io.2⟩⟩,xC⟩
 ·rcases cls id with ⟨i,b2,c1,c2,c3,c4,c5⟩|⟨j',b2,b',c,b0,q1,q2,q3,q4,q5,q6,q7,q8,q9,uu,Cx,vY⟩|⟨c1,c2,c3⟩
  ·rw[c3] at ae;cases ae;rw[c5];exact xC.ZV (Sc.h.rel _ b2 (by rw[kO];exact c2)) (.of σ b2)
  ·rw[q7] at ae;cases ae;have:=xC.ZV (Sc.h.rel j' b2 (by rw[kO];exact q2)) q8;by_cases vZ:b2= .dead
   ·subst vZ;cases q8;exact .dead
   ·rw[uu,←vY vZ];exact this
  ·rw[c1] at ae;rw[c3];exact (S.h.rel id blk ae).mono hle fun b hb=>(other id blk b ae hb c2).2
 ·rcases place i1 b1 b e1 f1 with ⟨j1,c1,g1,g2,g3⟩|⟨g1,g2,g3,g4⟩<;>rcases place i2 b2 b e2 f2 with ⟨j2,c2,k1,k2,k3⟩|⟨k1,k2,k3,k4⟩
  ·have:=Sc.h.inj j1 j2 c1 c2 b g1 k1 g2 k2;subst this;rw[g3] at k3;cases k3;rfl
  ·rcases RC j1 c1 b g1 g2 with h|h
   ·exact absurd h k2
   ·omega
  ·rcases RC j2 c2 b k1 k2 with h|h
   ·exact absurd h g2
   ·omega
  ·exact S.h.inj i1 i2 _ _ b g3 k3 g4 k4
 ·rcases place id blk b ae hb with ⟨j1,c1,g1,g2,g3⟩|⟨g1,g2,g3,g4⟩
  ·exact xj b (RC j1 c1 b g1 g2)
  ·exact S.h.own id blk b g3 g4
 ·refine (Sc.cI b (oF hb S.size) fun hx=> ?_).trans (S.cI b hb hM)
  rcases xj b (.inl hx) with h|h
  ·exact hM h
  ·omega
 ·rcases Sc.new b j hb with h|h|h
  ·exact S.new b j h
  ·exact .inr (xj b (.inl h))
  ·exact .inr (xj b (.inr h))
end
section
variable {P:Program} {A:dw} {w w':World} {I I' I2:Nat→Nat→Prop} {μ β β' cB:Nat→Option Nat} {hp hp' hp0 bK:Nat→Option ah} {C:af} {B:Nat} {M:Nat→Prop} {w0:Start}
theorem Z3 (hp:Nat→Option ah): ∀(a b:List (Nat×ah)),b8 hp (a++b)=b8 (b8 hp b) a
 | [],b=>rfl
 | (i,x)::a,b=>by simp only[List.cons_append,b8,Z3 hp a b]
theorem Cy {hp:Nat→Option ah} {l:List (Nat×ah)} {id:Nat} (h: ∀q∈l,q.1≠id):b8 hp l id=hp id:=by
 rcases xl (hp:=hp) (l:=l) (id:=id) with h1|⟨b,hb,_⟩
 all_goals grind
def zB (P : Program) : Prop := ∀ (f : Nat) fn, P.funcs[f]? = some fn → (fn.name == "runtime.NumGoroutine") = false
def LA (P:Program) (f:FuncId) (e:TypeId):Prop:=
 (∀args w,(callFunc f args).run P w= .ok (.enter f args) w)∧∃t,P.underlying t=some (.slice e)∧
  ∀(s:Value) (w:World) (Q:Ending→World→Prop),(s= .slice none 0 0→Q (.returned (.slice none 0 0)) w)→
   (∀a n c,s= .slice (some a) n c→∃v w',(Builtin.append_ #[t,t] t #[.slice (some ⟨w.heap.size,0,none⟩) 0 0,s]).run P (w.alloc (.cells #[] e))= .ok v w'∧Q (.returned v) w')→
   (s= .slice none 0 0∨∃a n c,s= .slice (some a) n c)→Calls P f #[s] w Q
structure kP (P:Program) (A:dw):Prop where
 count:zB P
 ext: ∀f T,A.ext f=some T→∀(b:Nat) (C:Array Value) (w:World),w.heap[b]? =some (.cells C T (0,0))→C.size=P.cellsOf T→(C[0]? =some (.pointer none)∨C[0]? =some (.pointer (some ⟨b,0,none⟩)))→
  (callFunc f #[.pointer (some ⟨b,0,none⟩)]).run P w= .ok (.enter f #[.pointer (some ⟨b,0,none⟩)]) w∧
  Calls P f #[.pointer (some ⟨b,0,none⟩)] w fun e w'=>e= .returned (.tuple #[])∧(w'=w∨w'=w.setCell ⟨b,0,none⟩ (.pointer (some ⟨b,0,none⟩)))
 idle: ∀f,A.idle f=true→(∀args w,(callFunc f args).run P w= .ok (.enter f args) w)∧
  ∀args w,CallsD P f args .returning w fun e u' w'=>(∃v,e= .returned v)∧u'= .returning∧w'=w
 sk: ∀f e,A.sk f=some e→LA P f e
 RD: ∀f T,A.ext f=some T→P.cellsOf T=0→∀(s:ByteArray) (c:Int) (w:World),(callFunc f #[.string s,.int .u8 c]).run P w= .ok (.value (.int .i64 (Lib.indexByte s.data.toList c.toNat.toUInt8))) w
theorem kP.here {P:Program} {A:dw} (h:kP P A) (f id:Nat):kP P (A.here f id):=⟨h.count,h.ext,h.idle,h.sk,h.RD⟩
def F4 (E:FuncId→Bool) (d:Deferred):Prop:= ∃f cap,d.target= .fn (.func f) cap∧E f=true
theorem RE {P:Program} {A:dw} (hP:kP P A) {fn:Func} {tmps:Array Value} {R:Ending→World→Prop} {w:World} {v:Value} (hv:(results fn tmps).run P w= .ok v w) (hR:R (.returned v) w):
  ∀ds:List Deferred,(∀d∈ds,F4 A.idle d)→Leaves P fn tmps R ds .returning w
 | [],_=>⟨v,hv,hR⟩
 | d::ds,h=>by
  obtain ⟨f,cap,ht,hf⟩:=h d (by simp);obtain ⟨k1,k2⟩:=hP.idle f hf;obtain ⟨t,Z4⟩:=d;simp only at ht;subst ht;refine leaves_cons (f:=f) (args:=Z4++cap) (by simp) ?_ ?_
  ·simp only[invoke];grind
  ·refine (k2 (Z4++cap) w).mono fun e u' w' hr=> ?_;obtain ⟨⟨v',rfl⟩,rfl,rfl⟩:=hr;exact RE hP hv hR ds fun d hd=>h d (nX _ hd)
def Cz (P:Program) (A:dw) (o:Oper) (a:Act) (w:World) (I:Nat→Nat→Prop) (β:Nat→Option Nat) (hp:Nat→Option ah) (B:Nat) (M:Nat→Prop) (w0:Start) (r:R):Prop:=
 ∀(next:Act→World→Prop) (Q:Exit→Act→World→Prop),
  (∀v w' I' β' ds,Le P w I β hp w' I' β' (b8 hp r.upd)→az P w' I' β' (b8 hp r.upd) B M w0→aj P w' I' β' (b8 hp r.upd) v r.v→(∀d∈ds,d∈a.defers∨F4 A.idle d)→next ({a with defers:=ds}.put o.dst v) w')→o.wp P a w next Q
theorem sG.step {o:Oper} {a:Act} {r:R} (h:sG P ((execOp a.eval o).run P w) w I β hp B M w0 r):Cz P A o a w I β hp B M w0 r:=by
 obtain ⟨v,w',I',β',h1,h2,h3,h4⟩:=h;intro next Q hn
 unfold Oper.wp;rcases h1 with h1|⟨h1,rfl⟩
 ·rw[h1];exact hn v w' I' β' a.defers h2 h3 h4 fun d hd=> .inl hd
 ·rw[h1];exact hn _ w' I' β' a.defers h2 h3 h4 fun d hd=> .inl hd
theorem Z5: ∀(l:List (Nat×VS)),sm l=xb (l.map (·.2))
 | []=>rfl
 | (_,s)::l=>by simp only[sm,lb,xb,Z5 l]
theorem ale (hC:oS P A C) (S:az P w I β hp B M w0) (hg:jR P A.aE w I) {vals:List Value} {args:List V} {nb key:Nat} {f:FuncId} {r:R} {rd:List Nat} (hlen:vals.length=args.length)
  (cN: ∀(j:Nat) v x,vals[j]? =some v→args[j]? =some x→aj P w I β hp v x) (h:(Ew P A nb key f args).run C hp=some (r,rd)):
  ∃fn c,P.funcs[f]? =some fn∧fn.body=some c∧Calls P f vals.toArray w fun e w'=> ∃v I' β',e= .returned v∧Le P w I β hp w' I' β' (b8 hp r.upd)∧az P w' I' β' (b8 hp r.upd) B M w0∧aj P w' I' β' (b8 hp r.upd) v r.v:=by
 unfold Ew at h;obtain ⟨Z6,h0⟩:=aD h;clear h;rw[aL] at Z6;subst Z6;obtain ⟨h1,jH,d1,u1,a1,a2,a3,a5,a4⟩:=Rw S h0 hlen cN;obtain ⟨h2,xM,d2,u2,b1,b2,b3,b4⟩:=ZK S a1;clear h0 a1;obtain ⟨hc,h3⟩:=aD b1;clear b1;simp only[aJ,aL,mZ] at hc;obtain ⟨eB,zA⟩:=hc;have LB:=a2.trans b2;have o4:h2.ds=d1++d2:=by have:=LB.ds;grind
 have vQ:h2.upd=u1++u2:=by have:=LB.upd;grind
 have oq:(h2.pl.map Place.id).Nodup:=LB.nodup (by simp);obtain ⟨c1,o,c2,c3⟩:=b4 [];simp only[uX] at c1 c2 c3;cases F5:C key h2.ds with
 | none=>
  simp only[Rd.run,F5] at h3;cases h3
 | some es=>
  have vp: ∃gK,(Ev P (A.so key es) nb h2 (A.lv key es)).run C hp=some (r,gK):=by
   obtain ⟨x,hx,e⟩:=bind_some h3;rw[F5] at hx;cases hx;unfold dw.so dw.lv;cases dp:A.alt key with
   | none=>grind
   | some S2=>
    rw[dp] at e;simp only[Rd.run] at e;grind
  clear h3;obtain ⟨gK,h3⟩:=vp;unfold Ev at h3;simp only at h3;generalize j7:gY (A.so key es).cT ((A.lv key es).drop (sm (A.so key es).cp))=bs at h3;generalize vW:h2.pl++xc nb (bs.length-h2.pl.length)=σ at h3;generalize F3:vg σ nb (bs.drop h2.pl.length)=fr at h3;obtain ⟨p0,bk,rd4,p1,p2,_,p3⟩:=ZR h3;obtain ⟨Cw,rd5,p4⟩:=ZU p1;obtain ⟨zC,p4⟩:=aD p4;obtain rfl:=aN p4;have sE:h2.pl.length≤bs.length:=by grind
  have vX: ∀q∈bk,∃(j:Nat) (b:ah),h2.pl[j]? =some (.blk q.1)∧bs[j]? =some b∧jI σ b q.2∧F0 hp q:=by
   intro q hq;rcases p2 q hq with hx|⟨j,b,k1,k2,k3,k4⟩
   ·simp at hx
   ·have hj:=(cw.1 k1).1;rw[jo hj] at k2;exact ⟨j,b,k1,k2,k3,k4⟩
  obtain ⟨fn,c,hf,hb,RF⟩:=hC key h2.ds es F5;refine ⟨fn,c,hf,hb,?_⟩;have RH:gY (A.sin key).cT (h2.ds.drop (sm (A.sin key).cp))=gY (A.sin key).cT d2:=by
   rw[o4,Z5,Lr a3]
  have RI:(bM (A.sin key) h2.ds).hp=ni (gY (A.sin key).cT d2):=by
   simp only[bM,mk,RH]
  have hl: ∀j blk,(bM (A.sin key) h2.ds).hp j=some blk→∃p,gq h2.pl j=some p∧gi P w β hp p (o j) blk:=by
   intro j blk hj;rw[RI,kO] at hj;grind
  have hd: ∀j,j<h2.pl.length→∃blk,(bM (A.sin key) h2.ds).hp j=some blk:=by
   intro j hj;rw[RI,kO];simp_all
  have Z7:FV P w β hp h2.pl o (bM (A.sin key) h2.ds).hp:=by
   intro j p hj;obtain ⟨blk,k1⟩:=hd j (by rw[pL] at hj;grind);grind
  have i1: ∀b j,I b j→jS P w I β hp h2.upd b j:=fun b j h=> .inl h;have entry:=ak9 (hp0:=(bM (A.sin key) h2.ds).hp) S oq zA hl (fun dj j blk hj=>by
   have dX:=hj;rw[RI,kO] at dX;exact c3 (jS P w I β hp h2.upd) o _ i1 (fun q hq b j hb=> .inr ⟨q,by grind,hb⟩) h2.pl [] (by simp) Z7 j blk dX (dj j blk hj)) (fun b j h=>h.elim (S.h.jQ b j) fun ⟨p,_,blk,g1,g2⟩=>S.h.lt g1 g2.own)
  have alf:vals.length=(A.sin key).cp.length:=by grind
  have ha:=RF w (jS P w I β hp h2.upd) o vals entry (hg.mono i1 fun _ _ _=>rfl) alf fun j v x hj hx=>by
   rw[o4] at hx;exact (((a4.later b2) (jS P w I β hp h2.upd) o _ i1 (fun q hq b j hb=> .inr ⟨q,by grind,hb⟩) h2.pl [] (by simp) Z7) d2).2 j v x hj hx
  refine ha.mono fun e w' F6=> ?_;obtain ⟨v,I2,cB,rfl,ha⟩:=F6;have LC:(bM (A.so key es) (A.lv key es)).hp=ni bs:=by simp only[bM,mk,j7]
  cases Z8:(A.so key es).safe P with
  | true=>
   simp only[cond_true,uX];have uc: ∀b j,I b j→I2 b j:=fun b j h=>ha.le.eg b j (i1 b j h);obtain ⟨s1,s2⟩:=alc Z8 uc ha.Cu i1;have Cv:oR w I o (bM (A.sin key) h2.ds).hp w' I cB (ni bs):=by
    rw[←LC];exact ⟨fun _ _ h=>h,fun b j h=>ha.le.cI b j (i1 b j h),ha.le.blk,ha.le.size⟩
   obtain ⟨β',k1,k2,k3⟩:=ZZ S vW.symm F3.symm oq sE p3 vX hl hd (by rw[←LC];exact ⟨s1.h,s1.cI,s1.size,fun b j h=> .inl h,s1.io⟩) Cv Cw;exact ⟨v,I,β',rfl,k1,k2,k3.val (by have:=s2 v ha.res;grind)⟩
  | false=>
   simp only[cond_false];rw[Z8,Bool.false_or,gU] at zC;have CA: ∀q∈h2.upd,BJ hp q:=fun q hq=>by
    have vL:=zC q hq;rcases LB.Ls q (vQ▸hq) with h|⟨T,cs,h,_⟩
    all_goals grind
   obtain ⟨rI,S1⟩:=BN S CA;rw[←lf,Z3];have ur: ∀p∈h2.pl,b8 hp h2.upd p.id=hp p.id:=fun p hp=>Cy fun q hq e=>
    Lu zA (iE.2 ⟨q,hq,rfl⟩) (e▸iE.2 ⟨p,hp,rfl⟩)
   have alg: ∀q∈bk,∃(j:Nat) (b:ah),h2.pl[j]? =some (.blk q.1)∧bs[j]? =some b∧jI σ b q.2∧F0 (b8 hp h2.upd) q:=by
    intro q hq;obtain ⟨j,b,k1,k2,k3,k4⟩:=vX q hq;refine ⟨j,b,k1,k2,k3,fun hn=> ?_⟩;have:=ur _ (my k1);simp only[Place.id] at this;grind
   have PM: ∀j blk,(bM (A.sin key) h2.ds).hp j=some blk→∃p,gq h2.pl j=some p∧gi P w β (b8 hp h2.upd) p (o j) blk:=by
    intro j blk hj;obtain ⟨p,k1,k2⟩:=hl j blk hj;exact ⟨p,k1,k2.other (ur p (by rw[pL] at k1;grind))⟩
   have alh: ∀q∈fr,b8 hp h2.upd q.1=none:=by
    intro q hq;rw[Cy fun q' dB e=> ?_]
    ·grind
    ·obtain ⟨e1,di,_,h5⟩:=CA q' dB;grind
   obtain ⟨β',k1,k2,k3⟩:=ZZ S1 vW.symm F3.symm oq sE p3 alg PM hd (by rw[←LC];exact ha.Cu) (by rw[←LC];exact ha.le) alh;exact ⟨v,I2,β',rfl,rI.trans k1,k2,k3.val (by have:=ha.res;grind)⟩
theorem Z9 (hC:oS P A C) (hP:kP P A) (S:az P w I β hp B M w0) (hg:jR P A.aE w I) {a:Act} {nb key:Nat} {o:Oper} {f:FuncId} {vals:List Value} {args:List V} (hlen:vals.length=args.length)
  (cN: ∀(j:Nat) v x,vals[j]? =some v→args[j]? =some x→aj P w I β hp v x) {r:R} {rd:List Nat} (h:(Ew P A nb key f args).run C hp=some (r,rd))
  (hex:(execOp a.eval o).run P w=(callFunc f vals.toArray).run P w):Cz P A o a w I β hp B M w0 r:=by
 intro next Q hn
 obtain ⟨fn,c,hf,hb,RF⟩:=ale hC S hg hlen cN h;unfold Oper.wp;rw[hex,MuLone.run_callFunc_enter hf (hP.count f _ hf) hb,Oper.upon_enter];refine RF.mono fun e w' F6=> ?_;obtain ⟨v,I2,cB,rfl,k1,k2,k3⟩:=F6;exact hn v w' I2 cB a.defers k1 k2 k3 fun d hd=> .inl hd
theorem oc.args {a:Act} {sl:Nat→V} (hs:oc P w I β hp a sl) (hg:jR P A.aE w I) {args:Array Operand} {ts:Array TypeId} (bc:args.size=ts.size):
  (args.map a.eval).toList.length=((args.toList.zip ts.toList).map fun p=>aS P A.aE p.2 sl p.1).length∧
  ∀(j:Nat) v x,(args.map a.eval).toList[j]? =some v→((args.toList.zip ts.toList).map fun p=>aS P A.aE p.2 sl p.1)[j]? =some x→aj P w I β hp v x:=by
 refine ⟨by simp;omega,fun j v x hv hx=> ?_⟩;simp only[Array.toList_map,ld,List.getElem?_zip_eq_some,Option.map_eq_some_iff] at hv hx;obtain ⟨x1,kK,rfl⟩:=hv;obtain ⟨⟨y1,t1⟩,⟨zD,_⟩,rfl⟩:=hx;rw[kK] at zD;cases zD;exact hs.ev hg t1 _
theorem ali (hP:kP P A) (S:az P w I β hp B M w0) (hg:jR P A.aE w I) {a:Act} {sl:Nat→V} (hs:oc P w I β hp a sl) {dst:Option Tmp} {ty e:TypeId} {pos:String} {after:Array Edge} {guard:Option (Nat×Bool)} {f:FuncId}
  {args:Array Operand} {argTypes:Array TypeId} {nb:Nat} {r:R} {rd:List Nat} (kG:A.sk f=some e)
  (h:((match args.toList with
    | [x]=> .ay (cZ P e) (vb e (aS P A.aE ty sl x) fun xs=> .ay (Nat.ble (xs.length*P.bytesOf e) aX) (js nb (.arr e xs false) (.whole e nb) []))
    | _=> .fail):Rd R).run C hp=some (r,rd)):Cz P A (Oper.mk dst (.call (Go.Call.mk (.value (.func f)) args argTypes)) ty pos after guard) a w I β hp B M w0 r:=by
 cases ha:args.toList with
 | nil=>rw[ha] at h;cases h
 | cons x l=>
  rw[ha] at h;cases l with
  | cons _ _=>cases h
  | nil=>
   simp only at h;have e1:args= #[x]:=by grind
   subst e1;have hx:=hs.ev hg ty x;obtain ⟨aq,h⟩:=aD h;have fin: ∀{w1:World} {tY:Nat→Option Nat},(∀id blk,hp id=some blk→eW P w1 I tY hp (tY id) blk)→aj P w1 I tY hp (a.eval x) (aS P A.aE ty sl x)→∃xs,(((∃a',a.eval x= .slice a' 0 0)∧xs=[])∨∃a' c news,Row P w1 I e (a.eval x) xs a' c news)∧
     xs.length*P.bytesOf e≤aX∧hp nb=none∧r=⟨.whole e nb,[(nb,.arr e xs false)]⟩:=by
    intro w1 tY h1 h2;obtain ⟨xs,nC,l,h⟩:=FG h1 aq h2 h;obtain ⟨ep,h⟩:=aD h;rw[gp] at ep;obtain ⟨hn,rfl⟩:=mM h;grind
   obtain ⟨c1,t,hu,c2⟩:=hP.sk f e kG;intro next Q uh
   unfold Oper.wp;have e2:(execOp a.eval ⟨dst,.call ⟨.value (.func f),#[x],argTypes⟩,ty,pos,after,guard⟩).run P w= .ok (.enter f #[a.eval x]) w:=by
    have gL:a.eval (.func f)= .func (.func f) #[] #[]:=rfl;simpa[execOp,resolve,gL,Deferred.ofValue,invoke] using c1 #[a.eval x] w
   rw[e2,Oper.upon_enter];refine c2 _ w _ (fun F7=> ?_) (fun b n c Ch=> ?_) ?_
   ·obtain ⟨xs,nC,ep,hn,rfl⟩:=fin S.h.rel hx;have jF:xs=[]:=by
     rcases nC with ⟨_,h⟩|⟨a,c,news,hr⟩
     ·exact h
     ·have:=hr.val.symm.trans F7;cases this
    subst jF;obtain ⟨a1,a2⟩:=EP S e hn;exact uh _ w I _ a.defers a1 a2 (.dS (bH _ _ _) (bH _ _ _)) fun d hd=> .inl hd
   ·obtain ⟨m1,m2⟩:=ag7 (w':=w.alloc (.cells #[] e)) S (fun b hb=>heap_alloc_old w _ b hb) (by simp) ⟨rfl,rfl⟩;obtain ⟨xs,nC,ep,hn,rfl⟩:=fin m2.h.rel (hx.mono m1);obtain ⟨v,w',β',a1,a2,a3,a4⟩:=QW (ty:=t) (a0:=some ⟨w.heap.size,0,none⟩) m2 hu aq hn ep nC;exact ⟨v,w',a1,uh v w' I β' a.defers (m1.trans a2) a3 a4 fun d hd=> .inl hd⟩
   ·obtain ⟨xs,nC,ep,hn,rfl⟩:=fin S.h.rel hx;rcases nC with ⟨⟨b,h⟩,_⟩|⟨b,c,news,hr⟩
    ·rw[h];cases b with
     | none=>grind
     | some b=>grind
    ·exact .inr ⟨_,_,_,hr.val⟩
theorem alj (hP:kP P A) (S:az P w I β hp B M w0) {a:Act} {dst:Option Tmp} {ty T0:TypeId} {pos:String} {after:Array Edge} {guard:Option (Nat×Bool)} {f:FuncId}
  {args:Array Operand} {argTypes:Array TypeId} {xs:List V} {r:R} {rd:List Nat} (xN:A.ext f=some T0) (hz:P.cellsOf T0=0) (k1:(args.map a.eval).toList.length=xs.length)
  (k2: ∀(j:Nat) v x,(args.map a.eval).toList[j]? =some v→xs[j]? =some x→aj P w I β hp v x) (h:(Px xs).run C hp=some (r,rd)):Cz P A (Oper.mk dst (.call (Go.Call.mk (.value (.func f)) args argTypes)) ty pos after guard) a w I β hp B M w0 r:=by
 unfold Px at h;split at h
 ·rename_i s c;obtain rfl:=aN h;generalize hv:args.map a.eval=vs at*
  obtain ⟨vs⟩:=vs
  match vs,k1,k2 with
  | [u,v],_,k2=>
   obtain ⟨s',rfl,hs⟩:=(k2 0 u _ rfl rfl).oJ;obtain rfl:=(k2 1 v _ rfl rfl).fQ;have q:=hP.RD f T0 xN hz s' c w;rw[hs] at q;refine sG.step ⟨.int .i64 (Lib.indexByte s c.toNat.toUInt8),w,I,β,.inl ?_,Le.refl w I β hp,S,.int⟩;have gL:a.eval (.func f)= .func (.func f) #[] #[]:=rfl;simpa[execOp,resolve,gL,Deferred.ofValue,invoke,hv] using q
 ·cases h
theorem alk (hP:kP P A) (S:az P w I β hp B M w0) (hg:jR P A.aE w I) {a:Act} {sl:Nat→V} (hs:oc P w I β hp a sl) {dst:Option Tmp} {ty T0:TypeId} {pos:String} {after:Array Edge} {guard:Option (Nat×Bool)} {f:FuncId}
  {args:Array Operand} {argTypes:Array TypeId} {r:R} {rd:List Nat} (xN:A.ext f=some T0)
  (h:((match args.toList with
   | [x]=>
    match aS P A.aE ty sl x with
    | .ptr id i c=>Rd.get id fun
     | some (.var T cs)=> .ay (Nat.beq T T0&&(tF P T&&(Nat.beq cs.length (P.cellsOf T)&&(Nat.beq i 0&&Nat.beq c 0)))) (.ret ⟨.bd [],[(id,.var T (.undef::cs.tail))]⟩)
     | _=> .fail
    | _=> .fail
   | _=> .fail):Rd R).run C hp=some (r,rd)):Cz P A (Oper.mk dst (.call (Go.Call.mk (.value (.func f)) args argTypes)) ty pos after guard) a w I β hp B M w0 r:=by
 cases ha:args.toList with
 | nil=>rw[ha] at h;cases h
 | cons x l=>
  rw[ha] at h;cases l with
  | cons _ _=>cases h
  | nil=>
   simp only at h;have e1:args= #[x]:=by grind
   subst e1;have hx:=hs.ev hg ty x;cases jb:aS P A.aE ty sl x<;>rw[jb] at h hx<;>simp only at h<;>first|(cases h;done)|skip
   rename_i id i c;obtain ⟨l,h1⟩:=run_get h;cases ae:hp id with
   | none=>rw[ae] at h1;cases h1
   | some blk=>
    rw[ae] at h1;cases blk<;>simp only at h1<;>first|(cases h1;done)|skip
    rename_i T cs;obtain ⟨h2,h3⟩:=aD h1;simp only[aJ,aL] at h2;obtain ⟨rfl,dN,YB,rfl,rfl⟩:=h2;obtain rfl:=aN h3;obtain ⟨b,hb,he⟩:=hx.ja ae (by simp);have hr:=S.h.rel id _ ae;rw[hb] at hr;cases hr with
    | @var _ b' Ca _ av hh bc hI jF iK=>
     cases av;have Co:a.eval x= .pointer (some ⟨b,0,none⟩):=by grind
     obtain ⟨q1,q2⟩:=hP.ext f T xN b Ca w hh (bc.trans YB) (iK dN);have h0:0<Ca.size:=by
      rcases iK dN with k|k<;>exact (wX.1 k).1
     have sH:(V.undef::cs.tail).length=cs.length:=by
      grind
     have rel: ∀(C':Array Value),(∀j,0<j→C'[j]? =Ca[j]?)→∀(j:Nat) v y,C'[j]? =some v→(V.undef::cs.tail)[j]? =some y→aj P w I β hp v y:=by
      intro C' KY j v y hj hy;cases j with
      | zero=>simp at hy;subst hy;exact .undef
      | succ j=>
       grind
     have fin: ∀w' C',(∀b',b'≠b→w'.heap[b']? =w.heap[b']?)→w'.heap[b]? =some (.cells C' T (0,0))→C'.size=Ca.size→w.heap.size≤w'.heap.size→w'.os=w.os∧w'.output=w.output→
       (∀j,0<j→C'[j]? =Ca[j]?)→(C'[0]? =some (.pointer none)∨C'[0]? =some (.pointer (some ⟨b,0,none⟩)))→
       Le P w I β hp w' I β (ao hp id (some (.var T (V.undef::cs.tail))))∧az P w' I β (ao hp id (some (.var T (V.undef::cs.tail)))) B M w0:=by
      intro w' C' k1 k2 k3 k4 k5 k6 k7;exact BR (w':=w') (blk':= .var T (V.undef::cs.tail)) S ae (by simp) rfl hb hI (by simp) k1 (by rw[lr k2,lr hh,k3]) k4 k5 fun hle=>
       .var rfl k2 (by omega) hI (fun j v y hj hy=>(rel C' k6 j v y hj hy).mono hle) fun _=>k7
     intro next Q hn
     unfold Oper.wp;have e2:(execOp a.eval ⟨dst,.call ⟨.value (.func f),#[x],argTypes⟩,ty,pos,after,guard⟩).run P w= .ok (.enter f #[.pointer (some ⟨b,0,none⟩)]) w:=by
      have gL:a.eval (.func f)= .func (.func f) #[] #[]:=rfl;simpa[execOp,resolve,gL,Deferred.ofValue,invoke,Co] using q1
     rw[e2,Oper.upon_enter];refine q2.mono fun e w' F6=> ?_;obtain ⟨rfl,hw⟩:=F6;have aaa:Le P w I β hp w' I β (ao hp id (some (.var T (V.undef::cs.tail))))∧az P w' I β (ao hp id (some (.var T (V.undef::cs.tail)))) B M w0:=by
      rcases hw with rfl|rfl
      ·exact fin w' Ca (fun _ _=>rfl) hh rfl (aw _) ⟨rfl,rfl⟩ (fun _ _=>rfl) (iK dN)
      ·refine fin (w.setCell ⟨b,0,none⟩ (.pointer (some ⟨b,0,none⟩))) (Ca.setIfInBounds 0 (.pointer (some ⟨b,0,none⟩))) (fun b' bN=> ?_) ?_ (by simp) (by simp_all) ⟨rfl,rfl⟩ (fun j hj=> ?_) (.inr ?_)
       ·simp only[World.setCell,Jx];grind
       ·simp[World.setCell,Jx,hh]
       all_goals grind
     exact hn (.tuple #[]) w' I β a.defers aaa.1 aaa.2 (.bd rfl fun j v y hj _=>by simp at hj) fun d hd=> .inl hd
theorem alm (hC:oS P A C) (hP:kP P A) (S:az P w I β hp B M w0) (hg:jR P A.aE w I) {a:Act} {sl:Nat→V} (hs:oc P w I β hp a sl) {ix nb:Nat} {o:Oper} {r:R} {rd:List Nat}
  (h:(jd P A sl ix nb o).run C hp=some (r,rd)):Cz P A o a w I β hp B M w0 r:=by
 cases hc:Rn o.op with
 | false=>exact (akQ S hg hs hc h).step
 | true=>
  obtain ⟨dst,op,ty,pos,after,guard⟩:=o;cases op<;>simp only[Rn] at hc<;>first|(cases hc;done)|skip
  case defer c=>
   obtain ⟨callee,args,argTypes⟩:=c;cases callee with
   | invoke r m=>simp only[jd] at h;cases h
   | builtin b=>simp only[jd] at h;cases h
   | value f=>
   cases f with
   | tmp t=>
    simp only[jd] at h;cases dN:sl t<;>rw[dN] at h<;>simp only at h<;>first|(cases h;done)|skip
    rename_i f xs ys;obtain ⟨h1,h2⟩:=aD h;obtain rfl:=aN h2;have hv:=hs t;rw[dN] at hv;generalize zt:a.tmps.getD t undef=vt at hv;cases hv with
    | @fn _ fs cs _ _ q1 q2 q3 q4=>
     intro next Q hn
     unfold Oper.wp;have gL:a.eval (.tmp t)= .func (.func f) fs cs:=zt;have e1:(execOp a.eval ⟨dst,.defer ⟨.value (.tmp t),args,argTypes⟩,ty,pos,after,guard⟩).run P w= .ok (.defer {target:= .fn (.func f) cs,args:=fs++args.map a.eval}) w:=by
      simp[execOp,resolve,gL,Deferred.ofValue]
     rw[e1,Oper.upon_defer];exact hn undef w I β _ (Le.refl w I β hp) S .undef fun d hd=>by
      rcases fY.1 hd with rfl|hd
      ·exact .inr ⟨f,cs,rfl,h1⟩
      grind
   | func f=>simp only[jd] at h;cases h
   | const _=>simp only[jd] at h;cases h
   | global _=>simp only[jd] at h;cases h
  rename_i c;obtain ⟨callee,args,argTypes⟩:=c;cases callee with
  | invoke r m=>cases hc
  | builtin b=>cases hc
  | value f=>
   cases f with
   | func f=>
    simp only[jd] at h;cases xN:A.ext f with
    | some T0=>
     rw[xN] at h;simp only at h;cases hz:Nat.beq (P.cellsOf T0) 0 with
     | true=>
      rw[hz] at h;simp only[cond_true] at h;rw[aL] at hz;obtain ⟨h1,h2⟩:=aD h;rw[aL] at h1;obtain ⟨k1,k2⟩:=hs.args hg h1;exact alj hP S xN hz k1 k2 h2
     | false=>
     rw[hz] at h;simp only[cond_false] at h;exact alk hP S hg hs xN h
    | none=>
    rw[xN] at h;simp only at h;cases kG:A.sk f with
    | some e0=>
     rw[kG] at h;simp only at h;exact ali hP S hg hs kG h
    | none=>
    rw[kG] at h;simp only at h;obtain ⟨h1,h2⟩:=aD h;rw[aL] at h1;obtain ⟨k1,k2⟩:=hs.args hg h1;refine Z9 hC hP S hg k1 k2 h2 ?_;have e1:(args.map a.eval).toList.toArray=args.map a.eval:=Array.toArray_toList;rw[e1];simp[execOp,resolve,Act.eval,Deferred.ofValue,invoke]
   | tmp t=>
    simp only[jd] at h;cases dN:sl t<;>rw[dN] at h<;>simp only at h<;>first|(cases h;done)|skip
    rename_i f xs ys;obtain ⟨h1,h2⟩:=aD h;rw[aL] at h1;obtain ⟨k1,k2⟩:=hs.args hg h1;have hv:=hs t;rw[dN] at hv;generalize zt:a.tmps.getD t undef=vt at hv;cases hv with
    | @fn _ fs cs _ _ q1 q2 q3 q4=>
     have l1:fs.toList.length=xs.length:=by omega
     have l3:cs.toList.length=ys.length:=by omega
     have r1: ∀(j:Nat) v x,fs.toList[j]? =some v→xs[j]? =some x→aj P w I β hp v x:=fun j v x hj hx=>q2 j v x (by grind) hx;have r3: ∀(j:Nat) v x,cs.toList[j]? =some v→ys[j]? =some x→aj P w I β hp v x:=fun j v x hj hx=>q4 j v x (by grind) hx;refine Z9 hC hP S hg (vals:=fs.toList++(args.map a.eval).toList++cs.toList) (args:=xs++((args.toList.zip argTypes.toList).map fun p=>aS P A.aE p.2 sl p.1)++ys) (by grind) ?_ h2 ?_
     ·grind
     ·have e1:(fs.toList++(args.map a.eval).toList++cs.toList).toArray=fs++args.map a.eval++cs:=by
       grind
      rw[e1];have gL:a.eval (.tmp t)= .func (.func f) fs cs:=zt;simp[execOp,resolve,gL,Deferred.ofValue,invoke]
   | _=>cases hc
end
section
variable {P:Program} {A:dw} {w w':World} {I I' I2:Nat→Nat→Prop} {μ β β':Nat→Option Nat} {hp hp':Nat→Option ah} {C:af} {B:Nat} {M:Nat→Prop} {w0:Start}
structure iO (P:Program) (E:FuncId→Bool) (G:Nat→V) (w:World) (I:Nat→Nat→Prop) (β:Nat→Option Nat) (n:Nat) (a:Act) (st:St):Prop where
 sl:oc P w I β st.hp a st.sl
 size:a.tmps.size=n
 defers: ∀d∈a.defers,F4 E d
 aE:jR P G w I
theorem RJ {E:FuncId→Bool} {G:Nat→V} {n:Nat} {a:Act} {st:St} {o:Oper} {v:Value} {x:V} {hp':Nat→Option ah} {ds:List Deferred} (h:iO P E G w I β n a st) (hle:Le P w I β st.hp w' I' β' hp') (hd:xf o n=true)
  (hv:aj P w' I' β' hp' v x) (o4: ∀d∈ds,d∈a.defers∨F4 E d):iO P E G w' I' β' n ({a with defers:=ds}.put o.dst v) ⟨lj st.sl o.dst x,hp',st.nb⟩:=by
 have hdf: ∀d∈ds,F4 E d:=fun d hd=>(o4 d hd).elim (h.defers d) id;cases aln:o.dst with
 | none=>exact ⟨fun k=>(h.sl k).mono hle,h.size,hdf,h.aE.mono hle.eg hle.cI⟩
 | some d=>
  have aZ:d<a.tmps.size:=by
   unfold xf at hd;rw[aln] at hd;rw[h.size];simpa using hd
  refine ⟨fun k=> ?_,by simp[Act.put,h.size],hdf,h.aE.mono hle.eg hle.cI⟩;simp only[Act.put,lj,ao];cases hb:Nat.beq k d with
  | true=>
   rw[aL] at hb;subst hb;simpa[aZ] using hv
  | false=>
   have bN:d≠k:=fun e=>by rw[e,nZ] at hb;cases hb
   have:=(h.sl k).mono hle;simpa[Array.getElem?_setIfInBounds_ne bN] using this
theorem aab {E:FuncId→Bool} {G:Nat→V} {n:Nat} {a:Act} {st:St} {d:Nat} {b:Bool} (h:iO P E G w I β n a st) (hd:st.sl d= .bool b):a.tmps[d]? =some (.bool b):=by
 have:=h.sl d;rw[hd] at this;have:=this.nn;cases ht:a.tmps[d]? with
 | none=>simp[ht] at this;cases this
 | some v=>simp[ht] at this;rw[this]
theorem alo {x:V} {b:Bool} (h:pc x=some (some b)):x= .bool b:=by
 cases x with
 | bool c=>simp only[pc] at h;injection h with h;injection h with h;rw[h]
 | bd vs=>cases vs<;>simp[pc] at h
 | _=>simp[pc] at h
theorem alp {x:V} (h:pc x=some none):x= .bd []:=by
 cases x with
 | bd vs=>cases vs with
  | nil=>rfl
  | cons _ _=>simp[pc] at h
 | bool c=>simp[pc] at h
 | _=>simp[pc] at h
theorem aj.alq {v:Value} (h:aj P w I β hp v (.bd [])):v= .tuple #[]:=by
 cases h with
 | @bd cs _ hs _=>
  have:cs= #[]:=by
   apply Array.eq_empty_of_size_eq_zero;simpa using hs
  rw[this]
theorem aj.aac:aj P w I β hp Go.undef (.bd []):= .bd (by rfl) (fun j v x _ hx=>by simp at hx)
theorem aad (hC:oS P A C) (hP:kP P A) {ops:Array Oper} {n i nb:Nat} {o:Oper} (ho:ops[i]? =some o) {a:Act} {st st':St} {R W:List Nat} (S:az P w I β st.hp B M w0) (hA:iO P A.idle A.aE w I β n a st)
  (h:kj P A C n ops i o nb st=some (st',R,W)) {K:Act→World→Prop} {Q:Exit→Act→World→Prop}
  (hK: ∀a' w' I' β',Le P w I β st.hp w' I' β' st'.hp→az P w' I' β' st'.hp B M w0→iO P A.idle A.aE w' I' β' n a' st'→K a' w'):wpOp P ops Q i K a w:=by
 unfold kj at h;cases hd:xf o n with
 | false=>rw[hd] at h;cases h
 | true=>
  rw[hd] at h;simp only[cond_true] at h;have go: ∀{RK:St} {R W:List Nat},(((jd P A st.sl i (nb+64*i) o).run C st.hp).bind fun r=>some ((⟨lj st.sl o.dst r.1.v,b8 st.hp r.1.upd,st.nb⟩:St),vj r.2 r.1.upd,ju st.hp r.1.upd))=some (RK,R,W)→RK=st'→
    o.wp P a w K Q:=by
   intro RK R W h e;obtain ⟨⟨r,rd⟩,h1,h2⟩:=bind_some h;cases h2;subst e;exact alm hC hP S hA.aE hA.sl h1 K Q fun v w' I' β' ds k1 k2 k3 k4=>hK _ w' I' β' k1 k2 (RJ hA k1 hd k3 k4)
  unfold wpOp;rw[ho];simp only;cases hg:o.guard with
  | none=>
   rw[hg] at h;simp only[Region.wanted,hg,sf];exact .inl (go h rfl)
  | some gw=>
   obtain ⟨g,want⟩:=gw;rw[hg] at h;simp only at h;cases pO:(ops[g]?).bind (·.dst) with
   | none=>rw[pO] at h;cases h
   | some d=>
    rw[pO] at h;simp only at h;cases qH:pc (st.sl d) with
    | none=>rw[qH] at h;cases h
    | some ob=>
    rw[qH] at h;cases ob with
    | none=>
     have Ch:=alp qH;have hy:yielded ops a.tmps g=none:=by
      unfold yielded;rw[pO];have:=hA.sl d;rw[Ch] at this;have hu:=aj.alq this;simp only[Option.bind_some];cases ht:a.tmps[d]? with
      | none=>rfl
      | some v=>simp[ht] at hu;subst hu;rfl
     simp only[Region.wanted,hg,hy];injection h with h;injection h with h3 h4;subst h3;have h2:((none:Option Bool)==some want)=false:=rfl;simp only[h2,Bool.false_eq_true,tB];exact hK _ w I β (Le.refl w I β st.hp) S (RJ (ds:=a.defers) hA (Le.refl w I β st.hp) hd aj.aac fun d h=> .inl h)
    | some b=>
    simp only at h;have Ch:=alo qH;have hy:yielded ops a.tmps g=some b:=by
     unfold yielded;rw[pO];simp only[Option.bind_some,aab hA Ch]
    simp only[Region.wanted,hg,hy];by_cases hb:b=want
    ·subst hb;simp only[beq_self_eq_true,cond_true] at h;simp only[beq_self_eq_true,sf];exact .inl (go h rfl)
    ·have h1:(b==want)=false:=by simp[hb]
     have h2:(some b==some want)=false:=by simp[hb]
     rw[h1] at h;simp only[cond_false] at h;injection h with h;injection h with h3 h4;subst h3;simp only[h2,Bool.false_eq_true,tB];exact hK _ w I β (Le.refl w I β st.hp) S (RJ (ds:=a.defers) hA (Le.refl w I β st.hp) hd aj.aac fun d h=> .inl h)
def zE (hp hp':Nat→Option ah) (c:Nat):Prop:=hp' c=hp c∧(KB≤c→jM (hp' (c-KB))=jM (hp (c-KB)))
theorem zE.symm {c:Nat} (h:zE hp hp' c):zE hp' hp c:=⟨h.1.symm,fun hc=>(h.2 hc).symm⟩
theorem xO {α:Type}: ∀{p:Rd α} {r:α} {rd:List Nat},p.run C hp=some (r,rd)→(∀id∈rd,zE hp hp' id)→p.run C hp'=some (r,rd)
 | .ret a,r,rd,h,_=>h
 | .fail,r,rd,h,_=>by cases h
 | .get id k,r,rd,h,he=>by
  obtain ⟨x,h1,h2⟩:=bind_some h;cases h2;have e1:hp' id=hp id:=(he id (by simp)).1;have:=xO (p:=k (hp id)) (r:=x.1) (rd:=x.2) h1 (fun i hi=>he i (by simp[hi]));simp only[Rd.run,e1,this,Option.bind_some]
 | .live id ok k,r,rd,h,he=>by
  simp only[Rd.run] at h⊢;cases hk:ok (jM (hp id)) with
  | false=>rw[hk] at h;cases h
  | true=>
   rw[hk] at h;obtain ⟨x,h1,h2⟩:=bind_some h;cases h2;have e1:jM (hp' id)=jM (hp id):=by
    have:=(he (id+KB) (by simp)).2 (Nat.le_add_left _ _);rwa [Nat.add_sub_cancel] at this
   have:=xO (p:=k) (r:=x.1) (rd:=x.2) h1 (fun i hi=>he i (by simp[hi]));rw[e1,hk,this];rfl
 | .opt o k,r,rd,h,he=>by
  obtain ⟨x,h1,h2⟩:=bind_some h;simp only[Rd.run,h1,Option.bind_some];exact xO h2 he
 | .ay b k,r,rd,h,he=>by
  obtain ⟨h1,h2⟩:=aD h;simp only[Rd.run,h1,cond_true];exact xO h2 he
 | .call key ds k,r,rd,h,he=>by
  obtain ⟨x,h1,h2⟩:=bind_some h;simp only[Rd.run,h1,Option.bind_some];exact xO h2 he
 | .alt true x y,r,rd,h,he=>xO (p:=x) h he
 | .alt false x y,r,rd,h,he=>xO (p:=y) h he
theorem alr {G:Nat→V} {sl sl':Nat→V} {t:TypeId} {x:Operand} (h: ∀k,x= .tmp k→sl k=sl' k):aS P G t sl x=aS P G t sl' x:=by
 cases x with
 | tmp k=>exact h k rfl
 | _=>rfl
theorem als {sl sl':Nat→V} {ix nb:Nat} {o:Oper} (h: ∀x∈o.op.operands,∀k,x= .tmp k→sl k=sl' k):jd P A sl ix nb o=jd P A sl' ix nb o:=by
 have gL: ∀t x,x∈o.op.operands→aS P A.aE t sl x=aS P A.aE t sl' x:=fun t x hx=>alr (h x hx);obtain ⟨dst,op,ty,pos,after,guard⟩:=o;have aae: ∀(t:TypeId) (ps:Array (Nat×Operand)),(∀x∈ps.map (·.2),aS P A.aE t sl x=aS P A.aE t sl' x)→
   (ps.toList.map fun p=>(p.1,aS P A.aE t sl p.2))=ps.toList.map fun p=>(p.1,aS P A.aE t sl' p.2):=fun t ps hp=>
  qh fun p hm=>by rw[hp p.2 (Array.mem_map.2 ⟨p,tD.1 hm,rfl⟩)]
 have alu: ∀(t:TypeId) (ps:Array (Nat×Operand)),(∀x∈ps.map (·.2),aS P A.aE t sl x=aS P A.aE t sl' x)→
   (ps.toList.map fun p=>(aS P A.aE t sl p.2).cells)=ps.toList.map fun p=>(aS P A.aE t sl' p.2).cells:=fun t ps hp=>
  qh fun p hm=>by rw[hp p.2 (Array.mem_map.2 ⟨p,tD.1 hm,rfl⟩)]
 cases op<;>simp only[Op.operands] at gL<;>simp only[jd]
 case pick c x y=>rw[gL ty c (by simp),gL ty x (by simp),gL ty y (by simp)]
 case build t ps=>rw[aae ty ps fun x hx=>gL ty x (by simpa using hx),alu ty ps fun x hx=>gL ty x (by simpa using hx)]
 case buildSlice t len ps=>
  split
  ·rename_i e _;rw[aae e ps fun x hx=>gL e x (by simpa using hx)]
  ·rfl
 case slice t x lo hi mx=>
  cases mx with
  | some m=>
   have e1:lo.map (aS P A.aE 0 sl)=lo.map (aS P A.aE 0 sl'):=by
    cases lo with
    | none=>rfl
    | some l=>simp only[Option.map_some,gL 0 l (by simp)]
   have e2:hi.map (aS P A.aE 0 sl)=hi.map (aS P A.aE 0 sl'):=by
    cases hi with
    | none=>rfl
    | some l=>simp only[Option.map_some,gL 0 l (by simp)]
   have e3:=gL 0 m (by simp);simp only[gL ty x (by simp),e1,e2,e3]
  | none=>
   have e1:lo.map (aS P A.aE 0 sl)=lo.map (aS P A.aE 0 sl'):=by
    cases lo with
    | none=>rfl
    | some l=>simp only[Option.map_some,gL 0 l (by simp)]
   have e2:hi.map (aS P A.aE 0 sl)=hi.map (aS P A.aE 0 sl'):=by
    cases hi with
    | none=>rfl
    | some l=>simp only[Option.map_some,gL 0 l (by simp)]
   simp only[gL ty x (by simp),e1,e2]
 case call c=>
  obtain ⟨callee,args,argTypes⟩:=c;have zF: ∀t x,x∈args→aS P A.aE t sl x=aS P A.aE t sl' x:=fun t x hx=>gL t x (by simp[Call.operands,hx]);have hl: ∀t (l:List Operand),(∀x∈l,x∈args)→l.map (aS P A.aE t sl)=l.map (aS P A.aE t sl'):=fun t l hl=>qh fun x hx=>zF t x (hl x hx);have hz:((args.toList.zip argTypes.toList).map fun p=>aS P A.aE p.2 sl p.1)=(args.toList.zip argTypes.toList).map fun p=>aS P A.aE p.2 sl' p.1:=
   qh fun p hp=>zF p.2 p.1 (tD.1 (List.of_mem_zip hp).1)
  cases callee with
  | invoke r m=>rfl
  | builtin b=>
   have dp: ∀x∈args.toList,∀t,aS P A.aE t sl x=aS P A.aE t sl' x:=fun x hx t=>zF t x (tD.1 hx);have uv: ∀t (l:List Operand),(∀x∈l,∀t,aS P A.aE t sl x=aS P A.aE t sl' x)→l.map (aS P A.aE t sl)=l.map (aS P A.aE t sl'):=fun t l h=>qh fun x hx=>h x hx t;cases b<;>first|rfl|skip
   case append=>
    dsimp only;generalize args.toList=al at dp
    match al,dp,argTypes.toList with
    | [s,x],dp,[t,u]=>simp only[dp s (by simp),dp x (by simp)]
    | [],_,_=>rfl
    | [_],_,_=>rfl
    | _::_::_::_,_,_=>rfl
    | [_,_],_,[]=>rfl
    | [_,_],_,[_]=>rfl
    | [_,_],_,_::_::_::_=>rfl
   case copy=>
    dsimp only;generalize args.toList=al at dp
    match al,dp,argTypes.toList with
    | [s,x],dp,[t,u]=>simp only[dp s (by simp),dp x (by simp)]
    | [],_,_=>rfl
    | [_],_,_=>rfl
    | _::_::_::_,_,_=>rfl
    | [_,_],_,[]=>rfl
    | [_,_],_,[_]=>rfl
    | [_,_],_,_::_::_::_=>rfl
   case len=>
    dsimp only;generalize args.toList=al at dp
    match al,dp,argTypes.toList with
    | [x],dp,[t]=>simp only[dp x (by simp)]
    | [],_,_=>rfl
    | _::_::_,_,_=>rfl
    | [_],_,[]=>rfl
    | [_],_,_::_::_=>rfl
   case clear=>
    dsimp only;generalize args.toList=al at dp
    match al,dp,argTypes.toList with
    | [x],dp,[t]=>simp only[dp x (by simp)]
    | [],_,_=>rfl
    | _::_::_,_,_=>rfl
    | [_],_,[]=>rfl
    | [_],_,_::_::_=>rfl
   case unsafeSliceData=>
    dsimp only;generalize args.toList=al at dp
    match al,dp with
    | [],_=>rfl
    | [x],dp=>simp only[dp x (by simp)]
    | _::_::_,_=>rfl
   case unsafeString=>
    dsimp only;generalize args.toList=al at dp
    match al,dp,argTypes.toList with
    | [s,x],dp,[t,u]=>simp only[dp s (by simp),dp x (by simp)]
    | [],_,_=>rfl
    | [_],_,_=>rfl
    | _::_::_::_,_,_=>rfl
    | [_,_],_,[]=>rfl
    | [_,_],_,[_]=>rfl
    | [_,_],_,_::_::_::_=>rfl
   case max=>
    dsimp only;generalize args.toList=al at dp
    match al,dp with
    | [],_=>rfl
    | x::l,dp=>simp only[dp x (by simp),uv ty l (fun y hy=>dp y (by simp[hy]))]
   case min=>
    dsimp only;generalize args.toList=al at dp
    match al,dp with
    | [],_=>rfl
    | x::l,dp=>simp only[dp x (by simp),uv ty l (fun y hy=>dp y (by simp[hy]))]
  | value f=>
   cases f<;>first|rfl|skip
   ·rename_i t;have ht:sl t=sl' t:=h (.tmp t) (by simp[Op.operands,Call.operands]) t rfl;simp only[hz,ht]
   ·simp only[hz];cases hx:args.toList with
    | nil=>rfl
    | cons x l=>
     cases l with
     | cons _ _=>rfl
     | nil=>simp only[zF ty x (tD.1 (by rw[hx];simp))]
 case defer c=>
  obtain ⟨callee,args,argTypes⟩:=c;cases callee with
  | invoke r m=>rfl
  | builtin b=>rfl
  | value f=>
   cases f<;>first|rfl|skip
   rename_i t;have ht:sl t=sl' t:=h (.tmp t) (by simp[Op.operands,Call.operands]) t rfl;simp only[ht]
 case makeFunc fn a b=>
  cases fn<;>first|rfl|skip
  have e1:a.toList.map (aS P A.aE ty sl)=a.toList.map (aS P A.aE ty sl'):=qh fun x hx=>gL ty x (by simp[tD.1 hx]);have e2:b.toList.map (aS P A.aE ty sl)=b.toList.map (aS P A.aE ty sl'):=qh fun x hx=>gL ty x (by simp[tD.1 hx]);dsimp only;rw[e1,e2]
 case makeMap t r=>cases r<;>rfl
 all_goals first
  | rfl
  | (simp[gL];done)
end
section
variable {P:Program} {A:dw} {w w':World} {I I' I2:Nat→Nat→Prop} {μ β β':Nat→Option Nat} {hp hp':Nat→Option ah} {C:af} {B:Nat} {M:Nat→Prop} {w0:Start}
theorem RL {q:Nat×ah} {upd:List (Nat×ah)} (h:q∈upd):q.1∈ju hp upd:=by
 unfold ju;rw[List.mem_flatMap];refine ⟨q,h,?_⟩;cases Nat.beq (jM (hp q.1)) (jM (some q.2))<;>simp
theorem alv {upd:List (Nat×ah)} (h: ∀q∈upd,jM (hp' q.1)=jM (hp q.1)):ju hp' upd=ju hp upd:=by
 unfold ju
 induction upd with
 | nil=>rfl
 | cons q l ih=>
  rw[Bp,Bp,ih fun x hx=>h x (nX _ hx),h q (by simp)]
theorem aaf {c:Nat}: ∀{upd:List (Nat×ah)},c∉ju hp upd→zE hp (b8 hp upd) c:=fun {upd} h=>by
 refine ⟨Cy fun q hq e=>h (e▸RL hq),fun hc=> ?_⟩
 induction upd with
 | nil=>rfl
 | cons q l ih=>
  have hl:c∉ju hp l:=fun hx=>h (by unfold ju at*;rw[Bp];exact List.mem_append_right _ hx);have hq:jM (hp q.1)=jM (some q.2)∨c≠q.1+KB:=by
   cases hb:Nat.beq (jM (hp q.1)) (jM (some q.2)) with
   | true=>exact .inl (Jq hb)
   | false=>
    refine .inr fun e=>h ?_;unfold ju;rw[Bp,hb,e];simp
  show jM (ao (b8 hp l) q.1 (some q.2) (c-KB))=_;simp only[ao];cases hb:Nat.beq (c-KB) q.1 with
  | false=>exact ih hl
  | true=>
   have e:=Jq hb;rcases hq with hq|hq
   ·rw[cond_true,e];exact hq.symm
   ·exact absurd (by omega) hq
theorem aag {n i nb:Nat} {ops:Array Oper} {o:Oper} {st st':St} {R W:List Nat} (h:kj P A C n ops i o nb st=some (st',R,W)):
  ∃x upd,st'=⟨lj st.sl o.dst x,b8 st.hp upd,st.nb⟩∧W=ju st.hp upd∧∀gj:St,(∀d∈o.looksAt ops,gj.sl d=st.sl d)→(∀id∈R,zE st.hp gj.hp id)→
   kj P A C n ops i o nb gj=some (⟨lj gj.sl o.dst x,b8 gj.hp upd,gj.nb⟩,R,W)∧W=ju gj.hp upd:=by
 unfold kj at h;cases hd:xf o n with
 | false=>rw[hd] at h;cases h
 | true=>
  rw[hd] at h;simp only[cond_true] at h;have go:(((jd P A st.sl i (nb+64*i) o).run C st.hp).bind fun r=>some ((⟨lj st.sl o.dst r.1.v,b8 st.hp r.1.upd,st.nb⟩:St),vj r.2 r.1.upd,ju st.hp r.1.upd))=some (st',R,W)→
    ∃x upd,st'=⟨lj st.sl o.dst x,b8 st.hp upd,st.nb⟩∧W=ju st.hp upd∧∀gj:St,(∀d∈o.looksAt ops,gj.sl d=st.sl d)→(∀id∈R,zE st.hp gj.hp id)→
     (((jd P A gj.sl i (nb+64*i) o).run C gj.hp).bind fun r=>some ((⟨lj gj.sl o.dst r.1.v,b8 gj.hp r.1.upd,gj.nb⟩:St),vj r.2 r.1.upd,ju gj.hp r.1.upd))=some (⟨lj gj.sl o.dst x,b8 gj.hp upd,gj.nb⟩,R,W)∧W=ju gj.hp upd:=by
   intro h;obtain ⟨⟨r,rd⟩,h1,h2⟩:=bind_some h;cases h2;refine ⟨r.v,r.upd,rfl,rfl,fun gj hs hh=> ?_⟩;have hw:ju gj.hp r.upd=ju st.hp r.upd:=alv fun q hq=>by
    have:=(hh (q.1+KB) (List.mem_append_right _ (iE.2 ⟨q,hq,rfl⟩))).2 (Nat.le_add_left _ _);rwa [Nat.add_sub_cancel] at this
   rw[als (sl':=st.sl) fun x hx k hk=> ?_,xO h1 fun c hc=>hh c (List.mem_append_left _ hc)]
   ·refine ⟨?_,hw.symm⟩;rw[Option.bind_some,hw]
   ·subst hk;exact hs k (List.mem_append_left _ (List.mem_filterMap.2 ⟨.tmp k,by simpa using hx,rfl⟩))
  cases hg:o.guard with
  | none=>
   rw[hg] at h;obtain ⟨x,upd,e1,e2,e3⟩:=go h;refine ⟨x,upd,e1,e2,fun gj hs hh=> ?_⟩;unfold kj;simp only[hd,cond_true,hg];exact e3 gj hs hh
  | some gw=>
   obtain ⟨g,want⟩:=gw;rw[hg] at h;simp only at h;cases pO:(ops[g]?).bind (·.dst) with
   | none=>rw[pO] at h;cases h
   | some d=>
    rw[pO] at h;simp only at h;have RM:d∈o.looksAt ops:=List.mem_append_right _ (by rw[hg];simp[pO]);cases qH:pc (st.sl d) with
    | none=>rw[qH] at h;cases h
    | some ob=>
    rw[qH] at h;cases ob with
    | none=>
     injection h with h;injection h with h3 h4;injection h4 with h5 h6;subst h5;subst h6;refine ⟨.bd [],[],h3.symm,rfl,fun gj hs hh=> ?_⟩;unfold kj;simp only[hd,cond_true,hg,pO,hs d RM,qH];exact ⟨rfl,rfl⟩
    | some b=>
    simp only at h;cases hb:b==want with
    | true=>
     rw[hb] at h;obtain ⟨x,upd,e1,e2,e3⟩:=go h;refine ⟨x,upd,e1,e2,fun gj hs hh=> ?_⟩;unfold kj;simp only[hd,cond_true,hg,pO,hs d RM,qH,hb];exact e3 gj hs hh
    | false=>
     rw[hb] at h;simp only[cond_false] at h;injection h with h;injection h with h3 h4;injection h4 with h5 h6;subst h5;subst h6;refine ⟨.bd [],[],h3.symm,rfl,fun gj hs hh=> ?_⟩;unfold kj;simp only[hd,cond_true,hg,pO,hs d RM,qH,hb,cond_false];exact ⟨rfl,rfl⟩
theorem aah {sl:Nat→V} {d:Option Nat} {x:V} {k:Nat} (h:d≠some k):lj sl d x k=sl k:=by
 cases d with
 | none=>rfl
 | some d=>exact cz _ _ fun e=>h (by rw[e])
theorem alw {hp:Nat→Option ah} {a b:List (Nat×ah)} (h: ∀q∈a,∀q'∈b,q.1≠q'.1):b8 (b8 hp a) b=b8 (b8 hp b) a:=by
 funext id;by_cases ha: ∃q∈a,q.1=id
 ·have hb: ∀q∈b,q.1≠id:=by
   obtain ⟨q,hq,rfl⟩:=ha;exact fun q' dB e=>h q hq q' dB e.symm
  rw[Cy hb];obtain ⟨q,hq,rfl⟩:=ha;have same: ∀(bK gf:Nat→Option ah) (l:List (Nat×ah)) (q:Nat×ah),q∈l→b8 bK l q.1=b8 gf l q.1:=by
   intro bK gf l
   induction l with
   | nil=>intro q hq;simp at hq
   | cons p l ih=>
    intro q hq;simp only[b8,ao];cases hb:Nat.beq q.1 p.1 with
    | true=>rfl
    | false=>
     simp only[cond_false];refine ih q ((fY.1 hq).resolve_left fun e=> ?_);rw[e,nZ] at hb;cases hb
  exact same _ _ a q hq
 ·rw[Cy (hp:=b8 hp b) (l:=a) fun q hq e=>ha ⟨q,hq,e⟩];have same: ∀(bK gf:Nat→Option ah) (l:List (Nat×ah)),bK id=gf id→b8 bK l id=b8 gf l id:=by
   intro bK gf l he
   induction l with
   | nil=>exact he
   | cons p l ih=>
    simp only[b8,ao];cases hb:Nat.beq id p.1 with
    | true=>rfl
    | false=>exact ih
  exact same _ _ b (Cy fun q hq e=>ha ⟨q,hq,e⟩)
structure aai (ops:Array Oper) (o1 o2:Oper) (R1 W1 R2 W2:List Nat):Prop where
 apart:Oper.apart ops o1 o2=true
 w: ∀id∈W1,id∉R2∧id∉W2
 r: ∀id∈R1,id∉W2
theorem alx {n i j nb:Nat} {ops:Array Oper} {o1 o2:Oper} {st mh gj:St} {R1 W1 R2 W2:List Nat} (h1:kj P A C n ops i o1 nb st=some (mh,R1,W1)) (h2:kj P A C n ops j o2 nb mh=some (gj,R2,W2))
  (hi:aai ops o1 o2 R1 W1 R2 W2): ∃LD,kj P A C n ops j o2 nb st=some (LD,R2,W2)∧kj P A C n ops i o1 nb LD=some (gj,R1,W1):=by
 obtain ⟨x1,u1,e1,f1,g1⟩:=aag h1;obtain ⟨x2,u2,e2,f2,g2⟩:=aag h2;obtain ⟨a1,a2,a3⟩:=Oper.apart_spec hi.apart;subst e1;have k2:=g2 st (fun d hd=>by simp only;rw[aah fun e=>a1 d e hd]) fun c hc=>(aaf fun hw=>(hi.w c (by rw[f1];exact hw)).1 hc).symm;refine ⟨_,k2.1,?_⟩;rw[(g1 _ (fun d hd=> ?_) (fun c hd=> ?_)).1,e2]
 ·congr 3
  ·funext k;cases hd1:o1.dst with
   | none=>rfl
   | some d1=>
    cases BP:o2.dst with
    | none=>rfl
    | some d2=>
     have bN:d2≠d1:=fun e=>a2 d1 hd1 (by rw[BP,e]);simp only[lj,ao];cases Ci:Nat.beq k d1<;>cases CB:Nat.beq k d2<;>simp only[cond_true,cond_false];rw[aL] at Ci CB;exact absurd (CB.symm.trans Ci) bN
  ·exact (alw fun q hq q' dB e=>(hi.w q.1 (by rw[f1];exact RL hq)).2 (by rw[f2,e];exact RL dB)).symm
 ·simp only;rw[aah fun e=>a3 d e hd]
 ·exact aaf fun hw=>hi.r c hd (by rw[k2.2];exact hw)
def CD (P:Program) (A:dw) (C:af) (n:Nat) (ops:Array Oper) (nb:Nat):List (Nat×Oper×List Nat×List Nat)→St→St→Prop
 | [],st,st'=>st=st'
 | (i,o,R,W)::l,st,st'=> ∃mh,kj P A C n ops i o nb st=some (mh,R,W)∧CD P A C n ops nb l mh st'
def zG (x:Nat×Oper×List Nat×List Nat):Nat×List Nat×List Nat:=(x.1,x.2.2.1,x.2.2.2)
theorem aaj {n nb:Nat} {ops:Array Oper}: ∀{l:List (Nat×Oper)} {st st':St} {log LF:Log},tL P A C n ops nb l st log=some (st',LF)→
  ∃g,g.map (fun x=>(x.1,x.2.1))=l∧LF=log++g.map zG∧CD P A C n ops nb g st st'
 | [],st,st',log,LF,h=>by
  cases h;exact ⟨[],rfl,by simp,rfl⟩
 | (i,o)::l,st,st',log,LF,h=>by
  obtain ⟨⟨mh,R,W⟩,h1,h2⟩:=bind_some h;obtain ⟨g,a,b,c⟩:=aaj h2;exact ⟨(i,o,R,W)::g,by simp[a],by simp[b,zG],mh,h1,c⟩
def aak (ops:Array Oper) (x y:Nat×Oper×List Nat×List Nat):Prop:=aai ops x.2.1 y.2.1 x.2.2.1 x.2.2.2 y.2.2.1 y.2.2.2
theorem aal {n nb:Nat} {ops:Array Oper} {y:Nat×Oper×List Nat×List Nat} {g2:List (Nat×Oper×List Nat×List Nat)}: ∀{g1:List (Nat×Oper×List Nat×List Nat)} {st st':St},
  CD P A C n ops nb (g1++y::g2) st st'→(∀x∈g1,aak ops x y)→∃mh,kj P A C n ops y.1 y.2.1 nb st=some (mh,y.2.2.1,y.2.2.2)∧CD P A C n ops nb (g1++g2) mh st'
 | [],st,st',h,_=>h
 | x::g1,st,st',h,hi=>by
  obtain ⟨mh,h1,h2⟩:=h;obtain ⟨gj,h3,h4⟩:=aal h2 fun z hz=>hi z (nX _ hz);obtain ⟨LD,h5,h6⟩:=alx h1 h3 (hi x (by simp));exact ⟨LD,h5,gj,h6,h4⟩
theorem aam (hC:oS P A C) (hP:kP P A) {n nb:Nat} {ops:Array Oper} {Q:Exit→Act→World→Prop}: ∀{g:List (Nat×Oper×List Nat×List Nat)} {st st':St} {a:Act} {w:World} {I:Nat→Nat→Prop} {β:Nat→Option Nat},
  CD P A C n ops nb g st st'→(∀x∈g,ops[x.1]? =some x.2.1)→az P w I β st.hp B M w0→iO P A.idle A.aE w I β n a st→
  (∀a' w' I' β',Le P w I β st.hp w' I' β' st'.hp→az P w' I' β' st'.hp B M w0→iO P A.idle A.aE w' I' β' n a' st'→Q .normal a' w')→wpOps P ops Q (g.map (·.1)) a w
 | [],st,st',a,w,I,β,h,_,S,hA,hQ=>by
  cases h;exact hQ a w I β (Le.refl w I β _) S hA
 | x::g,st,st',a,w,I,β,h,ho,S,hA,hQ=>by
  obtain ⟨mh,h1,h2⟩:=h;rw[lb,wpOps_cons];refine aad hC hP (ho x (by simp)) S hA h1 fun a' w' I' β' k1 k2 k3=> ?_;exact aam hC hP h2 (fun y hy=>ho y (nX _ hy)) k2 k3 fun a2 w2 I2 cB m1 m2 m3=>hQ a2 w2 I2 cB (k1.trans m1) m2 m3
end
section
variable {P:Program} {A:dw} {w w':World} {I I' I2:Nat→Nat→Prop} {μ β β':Nat→Option Nat} {hp hp':Nat→Option ah} {C:af} {B:Nat} {M:Nat→Prop} {w0:Start}
inductive zH (ops:Array Oper):Nat→Nat→Prop
 | aan {i x:Nat} {o:Oper} {e:Edge}:ops[i]? =some o→e∈o.after→Region.binds .any e=true→e.on=x→zH ops i x
 | trans {i x:Nat} {o:Oper} {e:Edge}:ops[i]? =some o→e∈o.after→Region.binds .any e=true→zH ops e.on x→zH ops i x
theorem aao {acc:Array Nat} {x:Nat}: ∀{l:List Edge} {s:Nat},(l.foldl (fun s e=>if Region.binds .any e then s|||2^e.on|||acc.getD e.on 0 else s) s).testBit x=true→
  s.testBit x=true∨∃e∈l,Region.binds .any e=true∧(e.on=x∨(acc.getD e.on 0).testBit x=true)
 | [],s,h=> .inl h
 | e::l,s,h=>by
  simp only[List.foldl_cons] at h;rcases aao h with h1|⟨e',a,b⟩
  ·by_cases hb:Region.binds .any e=true
   ·rw[aB hb,Nat.testBit_or,Nat.testBit_or,D8,D8] at h1;rcases h1 with (h1|h1)|h1
    ·exact .inl h1
    ·rw[Nat.testBit_two_pow] at h1;exact .inr ⟨e,by simp,hb,.inl (by simpa using h1)⟩
    ·exact .inr ⟨e,by simp,hb,.inr h1⟩
   ·rw[aC hb] at h1;exact .inl h1
  ·exact .inr ⟨e',nX _ a,b⟩
theorem aap {ops:Array Oper} {x:Nat}: ∀{l:List Oper} {acc:Array Nat},(∀j o,l[j]? =some o→ops[acc.size+j]? =some o)→(∀j,(acc.getD j 0).testBit x=true→zH ops j x)→
  ∀j,((l.foldl (fun acc o=>acc.push (o.after.foldl (fun s e=>if Region.binds .any e then s|||2^e.on|||acc.getD e.on 0 else s) 0)) acc).getD j 0).testBit x=true→zH ops j x
 | [],acc,_,LG,j,h=>LG j h
 | o::l,acc,hl,LG,j,h=>by
  simp only[List.foldl_cons] at h;refine aap (l:=l) ?_ ?_ j h
  ·intro j o' hj;have:=hl (j+1) o' (by simpa using hj);rw[Array.size_push];rwa [show acc.size+1+j=acc.size+(j+1) by omega]
  ·intro k hk;simp only[Bi,Array.getElem?_push] at hk;by_cases RN:k=acc.size
   ·rw[aB RN] at hk;simp only[Option.getD_some] at hk;rw[←Js] at hk;have ho:=hl 0 o rfl;rw[Nat.add_zero] at ho;rw[RN];have CB:(o.after.toList.foldl (fun s e=>if Region.binds .any e then s|||2^e.on|||acc.getD e.on 0 else s) 0).testBit x=true:=by simpa[Bi] using hk
    rcases aao CB with h0|⟨e,he,hb,h1⟩
    ·simp at h0
    ·rcases h1 with h1|h1
     ·exact .aan ho (tD.1 he) hb h1
     ·exact .trans ho (tD.1 he) hb (LG _ h1)
   ·rw[aC RN] at hk;exact LG k (by simpa[Bi] using hk)
theorem aly {ops:Array Oper} {i x:Nat} (h:((Region.before ops).getD i 0).testBit x=true):zH ops i x:=by
 unfold Region.before at h;rw[←Js] at h;refine aap (l:=ops.toList) (acc:= #[]) (fun j o hj=>by simpa using hj) (fun j hj=>by simp at hj) i h
def aaq (ops:Array Oper) (listed:Array Bool):Prop:= ∀i o,ops[i]? =some o→listed.getD i false=true→∀e∈o.after,Region.binds .any e=true→listed.getD e.on false=true
theorem alz {ops:Array Oper} {listed:Array Bool} (hc:aaq ops listed) {i x:Nat} (h:zH ops i x) (hi: ∀o,ops[i]? =some o→∀e∈o.after,Region.binds .any e=true→listed.getD e.on false=true):listed.getD x false=true:=by
 induction h with
 | aan ho he hb hx=>rw[←hx];exact hi _ ho _ he hb
 | trans ho he hb _ ih=>exact ih fun o' sA e' Co av=>hc _ o' sA (hi _ ho _ he hb) e' Co av
theorem aar: ∀{l:List Oper} {k j:Nat} {o:Oper},EA k l=true→l[j]? =some o→∀e∈o.after,Region.binds .any e=true→e.on<k+j
 | [],k,j,o,_,h=>by simp at h
 | o'::l,k,j,o,hk,h=>by
  simp only[EA,aJ] at hk;cases j with
  | zero=>
   simp at h;subst h;intro e he hb;have:=gU.1 hk.1 e (tD.2 he);simp[hb] at this;omega
  | succ j=>
   intro e he hb;have:=aar hk.2 (j:=j) (by simpa using h) e he hb;omega
theorem aas {ops:Array Oper} {yG:Array Nat}: ∀{l:Log},J0 ops yG l=true→l.Pairwise fun x y=>Ez ops yG x y=true
 | [],_=> .nil
 | x::l,h=>by
  simp only[J0,aJ] at h;exact .cons (fun y hy=>gU.1 h.1 y hy) (aas h.2)
theorem aat {listed:Array Bool} {i:Nat} (h:listed.getD i true=false):i<listed.size∧listed.getD i false=false:=by
 rcases jq i listed.size with h'|h'
 ·refine ⟨h',?_⟩;simpa[h'] using h
 ·simp[Array.getElem?_eq_none h'] at h
theorem aau (hC:oS P A C) (hP:kP P A) {n nb:Nat} {ops:Array Oper} {Q:Exit→Act→World→Prop} (LH:EA 0 ops.toList=true):
  ∀(fuel:Nat) {g:List (Nat×Oper×List Nat×List Nat)} {listed:Array Bool} {st st':St} {a:Act} {w:World} {I:Nat→Nat→Prop} {β:Nat→Option Nat},
  g.length=fuel→CD P A C n ops nb g st st'→(∀x∈g,ops[x.1]? =some x.2.1)→(g.map (·.1)).Pairwise (· < ·)→(g.map zG).Pairwise (fun x y=>Ez ops (Region.before ops) x y=true)→
  listed.size=ops.size→(∀i,i<ops.size→(listed.getD i false=false↔i∈g.map (·.1)))→aaq ops listed→
  az P w I β st.hp B M w0→iO P A.idle A.aE w I β n a st→
  (∀a' w' I' β',Le P w I β st.hp w' I' β' st'.hp→az P w' I' β' st'.hp B M w0→iO P A.idle A.aE w' I' β' n a' st'→Q .normal a' w')→wpAny P .any ops Q fuel listed a w
 | 0,g,listed,st,st',a,w,I,β,hf,hr,ho,aZ,LI,bc,zI,kG,S,hA,hQ=>by
  obtain rfl:g=[]:=o5 hf;cases hr;refine ⟨?_,hQ a w I β (Le.refl w I β _) S hA⟩;rw[List.eq_nil_iff_forall_not_mem];intro i hi;obtain ⟨h0,_⟩:=mem_ready.1 hi;obtain ⟨h1,h2⟩:=aat h0;have:=(zI i (by omega)).1 h2;simp at this
 | fuel+1,g,listed,st,st',a,w,I,β,hf,hr,ho,aZ,LI,bc,zI,kG,S,hA,hQ=>by
  refine ⟨fun F7=> ?_,fun i hi=> ?_⟩
  ·exfalso;cases g with
   | nil=>simp at hf
   | cons x g=>
    have hx:=ho x (by simp);have jF:x.1<ops.size:=(wX.1 hx).1;have mJ:x.1∈Region.ready .any ops listed:=by
     rw[mem_ready];have h0:=(zI x.1 jF).2 (by simp);refine ⟨?_,x.2.1,hx,fun e he hb=> ?_⟩
     ·have hl:x.1<listed.size:=by omega
      simpa[hl] using h0
     ·have Q3:=aar LH (j:=x.1) (by simpa using hx) e he hb;rw[dq] at Q3;cases hle:listed.getD e.on false with
      | true=>rfl
      | false=>
       have hm:=(zI e.on (by omega)).1 hle;simp only[lb,fY] at hm;rw[lb,List.pairwise_cons] at aZ;rcases hm with hm|hm
       ·omega
       ·have:=aZ.1 _ hm;omega
    rw[F7] at mJ;cases mJ
  ·obtain ⟨h0,oi,F8,hed⟩:=mem_ready.1 hi;obtain ⟨h1,h2⟩:=aat h0;have hig:=(zI i (by omega)).1 h2;obtain ⟨y,hy,LJ⟩:=iE.1 hig;obtain ⟨g1,g2,rfl⟩:=List.append_of_mem hy;subst LJ;have hyo:=ho y hy;rw[F8] at hyo;have aav:oi=y.2.1:=dL hyo;have oq:((g1++y::g2).map (·.1)).Nodup:=aZ.imp fun h=>Ed h;have alA: ∀x∈g1,aak ops x y:=by
    intro x hx;have hp:Ez ops (Region.before ops) (zG x) (zG y)=true:=by
     rw[uY,lb,List.pairwise_append] at LI;exact LI.2.2 _ (iE.2 ⟨x,hx,rfl⟩) _ (by simp)
    have hxo:=ho x (eD.2 (.inl hx));unfold Ez at hp;rw[D8] at hp;rcases hp with hp|hp
    ·have hl:=alz kG (aly hp) fun o sA e he hb=>by
      have:o=oi:=by
       have h3:ops[y.1]? =some o:=sA;rw[F8] at h3;exact (dL h3).symm
      subst this;exact hed e he hb
     have jF:x.1<ops.size:=(wX.1 hxo).1;have:=(zI x.1 jF).2 (iE.2 ⟨x,eD.2 (.inl hx),rfl⟩);rw[show (zG x).1=x.1 from rfl,this] at hl;cases hl
    ·simp only[zG,Bi,hxo,F8,Option.getD_some,aJ,mZ] at hp;obtain ⟨q1,q2,q3⟩:=hp;refine ⟨aav▸q1,fun id ae=> ?_,fun id ae=>Lu q3 ae⟩;have:=Lu q2 ae;rw[eD] at this;exact ⟨fun h=>this (.inl h),fun h=>this (.inr h)⟩
   obtain ⟨mh,kz,pK⟩:=aal hr alA;rw[←aav] at kz;refine aad hC hP F8 S hA kz fun a' w' I' β' k1 k2 k3=> ?_;have lD:List.Sublist (g1++g2) (g1++y::g2):=List.Sublist.append_left (List.sublist_cons_self y g2) g1;have jf: ∀j,j≠y.1→(listed.setIfInBounds y.1 true).getD j false=listed.getD j false:=fun j hj=>getD_set_ne false (Ne.symm hj);refine aau hC hP LH fuel (g:=g1++g2) (st':=st') ?_ pK (fun x hx=>ho x (lD.subset hx)) (aZ.sublist (lD.map _)) (LI.sublist (lD.map _)) (by simp[bc]) (fun j hj=> ?_) (fun j o RO dm e he hb=> ?_) k2 k3 fun a2 w2 I2 cB m1 m2 m3=>hQ a2 w2 I2 cB (k1.trans m1) m2 m3
   ·simp at hf⊢;omega
   ·by_cases tZ:j=y.1
    ·subst tZ;have hl:y.1<listed.size:=by omega
     simp only[Bi,Array.getElem?_setIfInBounds_self_of_lt hl,Option.getD_some];refine ⟨fun h=>(by cases h),fun h=> ?_⟩;exfalso;rw[uY,lb,Ee,List.nodup_cons] at oq;rw[uY,eD] at h;rcases h with h|h
     ·exact oq.2.2 _ h _ (by simp) rfl
     ·exact oq.2.1.1 h
    ·rw[jf j tZ,zI j hj];simp only[uY,lb,eD,fY];constructor
     ·rintro (h|h|h)
      ·exact .inl h
      ·exact absurd h tZ
      ·exact .inr h
     ·rintro (h|h)
      ·exact .inl h
      ·exact .inr (.inr h)
   ·by_cases tZ:j=y.1
    ·subst tZ;rw[F8] at RO;cases RO;exact getD_set_true (hed e he hb)
    ·rw[jf j tZ] at dm;exact getD_set_true (kG j o RO dm e he hb)
end
section
variable {P:Program} {A:dw} {w w':World} {I I' I2:Nat→Nat→Prop} {μ β β':Nat→Option Nat} {hp hp':Nat→Option ah} {C:af} {B:Nat} {M:Nat→Prop} {w0:Start}
theorem aaw: ∀{l:List Oper} {k j:Nat},(sq k l)[j]? =(l[j]?).map fun o=>(k+j,o)
 | [],k,j=>by simp[sq]
 | o::l,k,0=>by simp[sq]
 | o::l,k,j+1=>by
  simp only[sq,List.getElem?_cons_succ,aaw];congr 1;funext o;rw[show k+1+j=k+(j+1) by omega]
theorem aax: ∀{l:List Oper} {k:Nat},(sq k l).map (·.1)=List.range' k l.length
 | [],k=>rfl
 | o::l,k=>by simp[sq,aax,List.range'_succ]
theorem alB (hC:oS P A C) (hP:kP P A) (hm:P.follows .mixedOrders=true) {n id:Nat} {ops:Array Oper} {draw:Bool} {st st':St} {a:Act} {Q:Exit→Act→World→Prop}
  (h:BH P A C n ops draw st=some st') (S:az P w I β st.hp B M w0) (hA:iO P A.idle A.aE w I β n a st)
  (hQ: ∀a' w' I' β',Le P w I β st.hp w' I' β' st'.hp→az P w' I' β' st'.hp B M w0→iO P A.idle A.aE w' I' β' n a' st'→Q .normal a' w'):(Code.region id ops draw).wp P Q a w:=by
 obtain ⟨⟨mh,log⟩,h1,h2⟩:=bind_some h;obtain ⟨g,g1,g2,g3⟩:=aaj h1;have LL:g.map (·.1)=List.range ops.size:=by
  have:g.map (·.1)=(g.map fun x=>(x.1,x.2.1)).map (·.1):=by simp
  rw[this,g1,aax,List.range_eq_range'];simp
 have hop: ∀x∈g,ops[x.1]? =some x.2.1:=by
  intro x hx;have:(x.1,x.2.1)∈sq 0 ops.toList:=by rw[←g1];exact iE.2 ⟨x,hx,rfl⟩
  obtain ⟨j,hj⟩:=List.mem_iff_getElem?.1 this;rw[aaw] at hj;cases ho:ops.toList[j]? with
  | none=>rw[ho] at hj;cases hj
  | some o=>
   rw[ho] at hj;simp only[Option.map_some,dq,fb,ng] at hj;rw[←hj.1,←hj.2];simpa using ho
 cases draw with
 | false=>
  simp only[Bool.not_false,Bool.true_or,cond_true] at h2;cases h2;refine wp_region ?_;rw[←LL];exact aam hC hP g3 hop S hA hQ
 | true=>
  simp only[Bool.not_true,Bool.false_or] at h2;cases hc:(Region.noSelect ops&&EB ops log) with
  | false=>rw[hc] at h2;cases h2
  | true=>
   rw[hc] at h2;cases h2;simp only[aJ,EB] at hc;obtain ⟨hns,LH,alC⟩:=hc;simp only[List.nil_append] at g2;refine wp_region_any hm ?_;have hlen:g.length=ops.size:=by
    have:=congrArg List.length LL;simpa using this
   refine aau hC hP LH ops.size (g:=g) (st':=st') hlen g3 hop (by rw[LL];exact List.pairwise_lt_range) (by rw[←g2];exact aas alC) (by simp) (fun i hi=> ?_) (fun i o ho hl=> ?_)
    (w:=w.drew) S.drew ⟨fun k=>(hA.sl k).mono (Le.drew w I β _),hA.size,hA.defers,hA.aE.mono (Le.drew (P:=P) w I β st.hp).eg (Le.drew (P:=P) w I β st.hp).cI⟩ fun a' w' I' β' k1 k2 k3=>hQ a' w' I' β' ((Le.drew w I β _).trans k1) k2 k3
   ·rw[LL];simp[hi]
   ·have hi:=(wX.1 ho).1;simp[hi] at hl
end
section
variable {P:Program} {A:dw} {E:FuncId→Bool} {G:Nat→V} {w w':World} {I I' I2:Nat→Nat→Prop} {μ β β':Nat→Option Nat} {hp hp':Nat→Option ah} {C:af} {B:Nat} {M:Nat→Prop} {w0:Start}
theorem xP: ∀{l:List Nat} {hp:Nat→Option ah} {I:Nat→Nat→Prop},az P w I β hp B M w0→∃I',Le P w I β hp w I' β (vi hp l)∧az P w I' β (vi hp l) B M w0
 | [],hp,I,S=>⟨I,Le.refl w I β hp,S⟩
 | id::l,hp,I,S=>by
  simp only[vi];cases ae:hp id with
  | none=>exact xP S
  | some blk=>
   cases blk with
   | dead=>exact xP S
   | out _ _ _ _=>exact xP S
   | var _=>exact xP S
   | map _ _=>exact xP S
   | arr e es fz=>
    obtain ⟨h1,h2⟩:=BN S (upd:=[(id,.arr e es true)]) (fun p hp=>by
     simp only[fx] at hp;subst hp;exact ⟨e,es,rfl,.inl ⟨fz,ae⟩⟩)
    obtain ⟨I',h3,h4⟩:=xP (l:=l) h2;exact ⟨I',h1.trans h3,h4⟩
   | nest e es vers=>
    obtain ⟨h1,h2⟩:=BN S (upd:=[(id,.arr e es true)]) (fun p hp=>by
     simp only[fx] at hp;subst hp;exact ⟨e,es,rfl,.inr ⟨vers,ae⟩⟩)
    obtain ⟨I',h3,h4⟩:=xP (l:=l) h2;exact ⟨I',h1.trans h3,h4⟩
theorem aay {n:Nat} {a:Act} {st:St} (S:az P w I β st.hp B M w0) (hA:iO P E G w I β n a st):
  ∃I',Le P w I β st.hp w I' β st.hp∧az P w I' β st.hp B M w0∧iO P E G w I' β n a st∧tR P I' β st.hp:=by
 obtain ⟨I',h1,h2,h3⟩:=Xk S;exact ⟨I',h1,h2,⟨fun k=>(hA.sl k).mono h1,hA.size,hA.defers,hA.aE.mono h1.eg h1.cI⟩,h3⟩
theorem alD {hp:Nat→Option ah} (S:az P w I β hp B M w0) (hT:tR P I β hp) {v:Value} {x:V} (hv:aj P w I β hp v x):aj P w I β hp v (Ey hp x):=by
 cases x with
 | whole e id=>
  simp only[Ey];split
  ·rename_i e' es ae;cases he:Nat.beq e e' with
   | false=>exact hv
   | true=>
    rw[aL] at he;subst he;simp only[cond_true];cases hv with
    | dW h=>grind
    | dM h=>grind
    | eb h=>grind
    | fA h=>grind
    | dS h=>rw[ae] at h;cases h;exact .list (.any fun _=>rfl)
    | whole h hb bc bS hm=>
     rw[ae] at h;cases h;have hr:=S.h.rel id _ ae;cases hr with
     | ey av=>grind
     | arr hL aq av hh hs hf fH hx=>
      rw[hb] at av;cases av;have:=vo (I':=I) (off:=0) (len:=es.length) (o:=0) hh hx (fB aq) (by omega) bS (fun _=>by simp) (fun _ _ h=>h) (hT _ _ _ _ ae hb);exact .list (by grind)
  ·exact hv
 | sub e id off len=>
  simp only[Ey];split
  ·rename_i e' es ae;cases he:Nat.beq e e' with
   | false=>exact hv
   | true=>
    rw[aL] at he;subst he;simp only[cond_true];cases hv with
    | jx h=>grind
    | iX h=>rw[ae] at h;cases h;exact .list (by simpa using (ko.any (P:=P) fun _=>rfl))
    | sub h hb mG bS ho=>
     rw[ae] at h;cases h;have hr:=S.h.rel id _ ae;cases hr with
     | ey av=>grind
     | arr hL aq av hh hs hf fH hx=>
      rw[hb] at av;cases av;exact .list (vo (I':=I) hh hx (fB aq) mG bS ho (fun _ _ h=>h) (hT _ _ _ _ ae hb))
  ·exact hv
 | _=>exact hv
theorem alE {n:Nat} {a:Act} {st:St} (S:az P w I β st.hp B M w0) (hA:iO P E G w I β n a st) (p:Nat):
  ∃β',Le P w I β st.hp w I β' (xe st p).hp∧az P w I β' (xe st p).hp B M w0∧iO P E G w I β' n a (xe st p):=by
 have same: ∃β',Le P w I β st.hp w I β' st.hp∧az P w I β' st.hp B M w0∧iO P E G w I β' n a st:=⟨β,Le.refl ..,S,hA⟩
 unfold xe;cases Nat.ble (102*KB) p with
 | true=>
  simp only[cond_true];split
  ·rename_i id hx;split
   ·rename_i T cs ae;split
    ·rename_i e hc;have hr:=S.h.rel id _ ae;obtain ⟨b,hb,_⟩: ∃b,β id=some b∧True:=by
      have hv:=hA.sl (p %KB);rw[hx] at hv;obtain ⟨b,hb,_⟩:=hv.ja ae (by simp);exact ⟨b,hb,trivial⟩
     rw[hb] at hr;have aZ:=(cw.1 hc).1;cases hr with
     | @var _ b' C _ av hh hs hI jF iK=>
      cases av;obtain ⟨h1,h2⟩:=BR (w':=w) (blk':= .var T (cs.set (p/KB-102) (.nl e []))) S ae (by simp) rfl hb hI (by simp) (fun _ _=>rfl) rfl (aw _) ⟨rfl,rfl⟩ fun hle=> .var rfl hh (by simp;exact hs) hI (fun j v y hj hy=>by
       by_cases yS:p/KB-102=j
       ·subst yS;rw[o7 aZ] at hy;cases hy;have hv:=jF _ v _ hj hc;cases hv;exact .nl .nil fun _=>rfl
       ·rw[uW yS] at hy;exact (jF j v y hj hy).mono hle) iK
      exact ⟨β,h1,h2,⟨fun k=>(hA.sl k).mono h1,hA.size,hA.defers,hA.aE⟩⟩
    ·exact same
   ·exact same
  ·exact same
 | false=>
 simp only[cond_false];cases Nat.ble (2*KB) p with
 | false=>exact same
 | true=>
  simp only[cond_true];split
  ·rename_i e hn hx;obtain ⟨h1,h2⟩:=PU S (vers:=[0,0,0]) e hn;refine ⟨_,h1,h2,⟨fun k=> ?_,hA.size,hA.defers,hA.aE⟩⟩;show aj P w I (ao β st.nb none) (ao st.hp st.nb (some (.nest e [] [0,0,0]))) _ (ao st.sl (p %KB) (V.whole e st.nb) k);by_cases hk:k=p %KB
   ·subst hk;have hv:=hA.sl (p %KB);rw[hx] at hv;rw[bH];generalize a.tmps.getD (p %KB) _=v at hv⊢;cases hv;exact .eb (bH _ _ _) (bH _ _ _)
   ·rw[cz _ _ hk];exact (hA.sl k).mono h1
  ·rename_i cs hn hx;split
   ·rename_i e hc;obtain ⟨h1,h2⟩:=PU S (vers:=[0,0,0]) e hn;refine ⟨_,h1,h2,⟨fun k=> ?_,hA.size,hA.defers,hA.aE⟩⟩;show aj P w I (ao β st.nb none) (ao st.hp st.nb (some (.nest e [] [0,0,0]))) _ (ao st.sl (p %KB) (V.agg (cs.set (p/KB-2) (.whole e st.nb))) k);by_cases hk:k=p %KB
    ·subst hk;have hv:=hA.sl (p %KB);rw[hx] at hv;rw[bH];generalize a.tmps.getD (p %KB) _=v at hv⊢;obtain ⟨vs,rfl,kz,pK⟩:=hv.np;refine .agg (by grind) fun j v x hv oL=> ?_;by_cases hj:p/KB-2=j
     ·subst hj;have aZ:=(cw.1 hc).1;rw[o7 aZ] at oL;cases oL;have zq:=pK _ v _ hv hc;cases zq;exact .eb (vers:=[0,0,0]) (bH _ _ _) (bH _ _ _)
     ·rw[uW hj] at oL;exact (pK j v x hv oL).mono h1
    ·rw[cz _ _ hk];exact (hA.sl k).mono h1
   omega
  ·rename_i id hn hx;split
   ·rename_i T cs ae;split
    ·rename_i e hc;obtain ⟨h1,h2⟩:=PU S (vers:=[0,0,0]) e hn;have bN:id≠st.nb:=fun h=>by grind
     have qy:ao st.hp st.nb (some (.nest e [] [0,0,0])) id=some (.var T cs):=by rw[cz _ _ bN];exact ae
     have hr:=h2.h.rel id _ qy;generalize ho:ao β st.nb none id=o at hr;cases hr with
     | @var _ b Ca _ hb hh hs hI kI iK=>
     subst hb;obtain ⟨h3,h4⟩:=BR (w':=w) h2 (blk':= .var T (cs.set (p/KB-2) (.whole e st.nb))) qy (by simp) rfl ho hI (by simp) (fun _ _=>rfl) rfl (aw _) ⟨rfl,rfl⟩
      (fun hle=> .var rfl hh (by grind) hI (fun j v x hv oL=>by
       by_cases hj:p/KB-2=j
       ·subst hj;have aZ:=(cw.1 hc).1;rw[o7 aZ] at oL;cases oL;have zq:=kI _ v _ hv hc;cases zq;exact .eb (vers:=[0,0,0]) (by rw[cz _ _ (Ne.symm bN)];exact bH _ _ _) (bH _ _ _)
       ·rw[uW hj] at oL;exact (kI j v x hv oL).mono hle) iK)
     exact ⟨_,h1.trans h3,h4,⟨fun k=>(hA.sl k).mono (h1.trans h3),hA.size,hA.defers,hA.aE⟩⟩
    omega
   omega
  omega
theorem aaz {n:Nat} {a:Act}: ∀(l:List Nat) {st:St} {β:Nat→Option Nat},az P w I β st.hp B M w0→iO P E G w I β n a st→
  ∃β',Le P w I β st.hp w I β' (l.foldl xe st).hp∧az P w I β' (l.foldl xe st).hp B M w0∧iO P E G w I β' n a (l.foldl xe st)
 | [],st,β,S,hA=>⟨β,Le.refl ..,S,hA⟩
 | p::l,st,β,S,hA=>by
  obtain ⟨tY,h1,h2,h3⟩:=alE S hA p;obtain ⟨cB,h4,h5,h6⟩:=aaz l h2 h3;exact ⟨cB,h1.trans h4,h5,h6⟩
theorem aaA {n m:Nat} {pur:List Nat} {a:Act} {st:St} (S:az P w I β st.hp B M w0) (hA:iO P E G w I β n a st):
  ∃I' β',Le P w I β st.hp w I' β' (freeze m pur st).hp∧az P w I' β' (freeze m pur st).hp B M w0∧iO P E G w I' β' n a (freeze m pur st):=by
 obtain ⟨I1,h1,h2⟩:=xP (l:=(JZ st pur).filter fun id=>Nat.ble m id) S;obtain ⟨I',h3,h4,h5⟩:=Xk h2;have h1:=h1.trans h3;have hA2:iO P E G w I' β n a ⟨fun k=>bif iF pur (k+KB) then Ey (vi st.hp ((JZ st pur).filter fun id=>Nat.ble m id)) (st.sl k) else st.sl k,vi st.hp ((JZ st pur).filter fun id=>Nat.ble m id),st.nb⟩:=by
  refine ⟨fun k=> ?_,hA.size,hA.defers,hA.aE.mono h1.eg h1.cI⟩;have hv:=(hA.sl k).mono h1;cases hm:iF pur (k+KB) with
  | false=>grind
  | true=>simp only[hm,cond_true];exact alD h4 h5 hv
 obtain ⟨β',k1,k2,k3⟩:=aaz pur h4 hA2;exact ⟨I',β',h1.trans k1,k2,k3⟩
structure CE (hp:Nat→Option ah) (β:Nat→Option Nat) (ord:List Nat) (hp':Nat→Option ah) (β':Nat→Option Nat):Prop where
 arr: ∀(j:Nat) id e es fz,ord[j]? =some id→hp id=some (.arr e es fz)→hp' j=some (.arr e es fz)
 var: ∀(j:Nat) id T cs,ord[j]? =some id→hp id=some (.var T cs)→∃lu,hp' j=some (.var T lu)
 dead: ∀(j:Nat) id,ord[j]? =some id→hp id=some .dead→hp' j=some .dead
 out: ∀(j:Nat) id e es vs i,ord[j]? =some id→hp id=some (.out e es vs i)→hp' j=some .dead
 place: ∀(j:Nat) id,ord[j]? =some id→β' j=β id
 nest: ∀(j:Nat) id e es vers,ord[j]? =some id→hp id=some (.nest e es vers)→hp' j=some (.nest e es (vers.map fun _=>0))
 map: ∀(j:Nat) id t es,ord[j]? =some id→hp id=some (.map t es)→hp' j=some (.map t es)
theorem ot: ∀{l:List Nat} {n i j:Nat},j5 l n i=some j→∃k,j=i+k∧l[k]? =some n
 | [],n,i,j,h=>by cases h
 | a::l,n,i,j,h=>by
  simp only[j5] at h;cases hb:Nat.beq n a with
  | true=>
   simp_all
  | false=>
   rw[hb] at h;obtain ⟨k,h1,h2⟩:=ot h;exact ⟨k+1,by omega,by grind⟩
def oT (hp':Nat→Option ah) (β':Nat→Option Nat) (n:Nat) (bs:List ah):Prop:=
 ∀(k:Nat) b,bs[k]? =some b→hp' (n+k)=some b∧β' (n+k)=none
theorem RP: ∀(vers:List Nat) (k:Nat),bA (vers.map fun _=>0) k=0
 | [],_=>rfl
 | _::_,0=>rfl
 | _::vs,k+1=>RP vs k
theorem aaB {e:TypeId} {es:List V} {vers:List Nat} {path:Path} {ver:Nat} (hc:(Nat.blt 0 path.length&&(Nat.ble path.length vers.length&&Nat.beq (bA vers (path.length-1)) ver))=true)
  (h:(ah.nest e es vers).vk path ver):False:=by
 simp only[aJ,mY,gp,aL] at hc;obtain ⟨h1,h2,h3⟩:=hc;rcases h with h|h|h
 all_goals grind
theorem aaC (S:az P w I β hp B M w0) (hT:tR P I β hp) {ord:List Nat} (hR:CE hp β ord hp' β') {v:Value} {x:V} (hv:aj P w I β hp v x):aj P w I β' hp' v (j6 hp ord x):=by
 cases hv with
 | undef=>exact .undef
 | int=>exact .int
 | bool=>exact .bool
 | str h=>exact .str h
 | list h=>exact .list h
 | nilS=>exact .nilS
 | nl h h0=>exact .nl h h0
 | agg=>exact .undef
 | bd=>exact .undef
 | eA=>exact .eA
 | fn=>exact .undef
 | pref a b c=>exact .pref a b c
 | @dW _ e id ae=>
  simp only[j6];cases bK:j5 ord id 0 with
  | none=>simp only[ae];exact .undef
  | some j=>
   obtain ⟨k,rfl,hk⟩:=ot bK;exact .dW (hR.dead _ id (by grind) ae)
 | @jx _ e id off len ae=>
  simp only[j6];cases bK:j5 ord id 0 with
  | none=>simp only[ae];exact .undef
  | some j=>
   obtain ⟨k,rfl,hk⟩:=ot bK;exact .jx (hR.dead _ id (by grind) ae)
 | @mD _ id i c ae=>
  simp only[j6];cases bK:j5 ord id 0 with
  | none=>exact .undef
  | some j=>
   obtain ⟨k,rfl,hk⟩:=ot bK;exact .mD (hR.dead _ id (by grind) ae)
 | @dS e id fz _ ae hb=>
  simp only[j6];cases bK:j5 ord id 0 with
  | none=>
   simp only[ae];cases fz with
   | false=>exact .undef
   | true=>simp only[nZ,cond_true];exact .list (.any fun _=>rfl)
  | some j=>
   obtain ⟨k,rfl,hk⟩:=ot bK;have eo:ord[0+k]? =some id:=by grind
   exact .dS (hR.arr _ id _ _ _ eo ae) ((hR.place _ id eo).trans hb)
 | @whole e id es fz b cap ae hb bc bS hm=>
  simp only[j6];cases bK:j5 ord id 0 with
  | none=>
   simp only[ae];cases fz with
   | false=>exact .undef
   | true=>
    simp only[nZ,cond_true];have hr:=S.h.rel id _ ae;cases hr with
    | ey av=>grind
    | arr hL aq av hh hs hf fH hx=>
     rw[hb] at av;cases av;have:=vo (I':=I) (off:=0) (len:=es.length) (o:=0) hh hx (fB aq) (by omega) bS (fun _=>by simp) (fun _ _ h=>h) (hT _ _ _ _ ae hb);exact .list (by grind)
  | some j=>
   obtain ⟨k,rfl,hk⟩:=ot bK;have eo:ord[0+k]? =some id:=by grind
   exact .whole (hR.arr _ id _ _ _ eo ae) ((hR.place _ id eo).trans hb) bc bS hm
 | @iX e id fz _ ae hb=>
  simp only[j6];cases bK:j5 ord id 0 with
  | none=>
   simp only[ae];cases fz with
   | false=>exact .undef
   | true=>simp only[nZ,cond_true];exact .list (by simpa using (ko.any (P:=P) fun _=>rfl))
  | some j=>
   obtain ⟨k,rfl,hk⟩:=ot bK;have eo:ord[0+k]? =some id:=by grind
   exact .iX (hR.arr _ id _ _ _ eo ae) ((hR.place _ id eo).trans hb)
 | @sub e id off len es fz b o cap ae hb mG bS ho=>
  simp only[j6];cases bK:j5 ord id 0 with
  | none=>
   simp only[ae];cases fz with
   | false=>exact .undef
   | true=>
    simp only[nZ,cond_true];have hr:=S.h.rel id _ ae;cases hr with
    | ey av=>grind
    | arr hL aq av hh hs hf fH hx=>
     rw[hb] at av;cases av;exact .list (vo (I':=I) hh hx (fB aq) mG bS ho (fun _ _ h=>h) (hT _ _ _ _ ae hb))
  | some j=>
   obtain ⟨k,rfl,hk⟩:=ot bK;have eo:ord[0+k]? =some id:=by grind
   exact .sub (hR.arr _ id _ _ _ eo ae) ((hR.place _ id eo).trans hb) mG bS ho
 | @ptr id i c b blk ae hd hb=>
  simp only[j6];cases bK:j5 ord id 0 with
  | none=>exact .undef
  | some j=>
   obtain ⟨k,rfl,hk⟩:=ot bK;have eo:ord[0+k]? =some id:=by grind
   cases blk with
   | dead=>grind
   | var T0 cs=>
    obtain ⟨lu,h'⟩:=hR.var _ id T0 cs eo ae;exact .ptr (blk:= .var T0 lu) h' (by simp) ((hR.place _ id eo).trans hb)
   | arr e es fz=>exact .ptr (blk:= .arr e es fz) (hR.arr _ id _ _ _ eo ae) (by simp) ((hR.place _ id eo).trans hb)
   | nest e es vers=>exact .ptr (blk:= .nest e es (vers.map fun _=>0)) (hR.nest _ id _ _ _ eo ae) (by simp) ((hR.place _ id eo).trans hb)
   | map t es=>exact .ptr (blk:= .map t es) (hR.map _ id _ _ eo ae) (by simp) ((hR.place _ id eo).trans hb)
   | out e es vs i=>exact .mD (hR.out _ id _ _ _ _ eo ae)
 | eU=>exact .eU
 | @ln _ t id ae=>
  simp only[j6];cases bK:j5 ord id 0 with
  | none=>exact .undef
  | some j=>
   obtain ⟨k,rfl,hk⟩:=ot bK;exact .ln (hR.dead _ id (by grind) ae)
 | @cG t id b es ae hb=>
  simp only[j6];cases bK:j5 ord id 0 with
  | none=>exact .undef
  | some j=>
   obtain ⟨k,rfl,hk⟩:=ot bK;have eo:ord[0+k]? =some id:=by grind
   exact .cG (hR.map _ id _ _ eo ae) ((hR.place _ id eo).trans hb)
 | @fA e id i es vers b cap ae hb bc bS hm=>
  simp only[j6];cases bK:j5 ord id 0 with
  | none=>simp only[ae];exact .undef
  | some j=>
   obtain ⟨k,rfl,hk⟩:=ot bK;exact .dW (hR.out _ id _ _ _ _ (by grind) ae)
 | @eb e id vers _ ae hb=>
  simp only[j6];cases bK:j5 ord id 0 with
  | none=>simp only[ae];exact .undef
  | some j=>
   obtain ⟨k,rfl,hk⟩:=ot bK;have eo:ord[0+k]? =some id:=by grind
   exact .eb (hR.nest _ id _ _ _ eo ae) ((hR.place _ id eo).trans hb)
 | @dM e id es vers b cap ae hb bc bS hm=>
  simp only[j6];cases bK:j5 ord id 0 with
  | none=>simp only[ae];exact .undef
  | some j=>
   obtain ⟨k,rfl,hk⟩:=ot bK;have eo:ord[0+k]? =some id:=by grind
   exact .dM (hR.nest _ id _ _ _ eo ae) ((hR.place _ id eo).trans hb) bc bS hm
 | @mE v e id ver path blk ae EO=>
  simp only[j6];split
  ·rename_i j e1 di vers h1 h2;rw[ae] at h2;cases h2;cases hc:(Nat.blt 0 path.length&&(Nat.ble path.length vers.length&&Nat.beq (bA vers (path.length-1)) ver)) with
   | false=>exact .undef
   | true=>exact (aaB hc EO).elim
  ·exact .undef
 | @mF v id ver i c path blk ae EO=>
  simp only[j6];split
  ·rename_i j e1 di vers h1 h2;rw[ae] at h2;cases h2;cases hc:(Nat.blt 0 path.length&&(Nat.ble path.length vers.length&&Nat.beq (bA vers (path.length-1)) ver)) with
   | false=>exact .undef
   | true=>exact (aaB hc EO).elim
  ·exact .undef
 | @row v e e0 t id ver b i c q es l vers ae hb hq hv ht hc=>
  simp only[j6];split
  ·rename_i j e1 di xm h1 h2;obtain ⟨k,rfl,hk⟩:=ot h1;have eo:ord[0+k]? =some id:=by grind
   cases hx:(Nat.blt 0 (q++[(i,c)]).length&&(Nat.ble (q++[(i,c)]).length xm.length&&Nat.beq (bA xm ((q++[(i,c)]).length-1)) ver)) with
   | false=>exact .undef
   | true=>exact .row (hR.nest _ id _ _ _ eo ae) ((hR.place _ id eo).trans hb) (by grind) (RP _ _) ht hc
  ·exact .undef
 | @dE e e0 t id ver b b1 len cap i0 c0 i c q es l vers ae hb hq hv ht mH hc=>
  simp only[j6];split
  ·rename_i j e1 di xm h1 h2;obtain ⟨k,rfl,hk⟩:=ot h1;have eo:ord[0+k]? =some id:=by grind
   cases hx:(Nat.blt 0 (q++[(i0,c0)]).length&&(Nat.ble (q++[(i0,c0)]).length xm.length&&Nat.beq (bA xm ((q++[(i0,c0)]).length-1)) ver)) with
   | false=>exact .undef
   | true=>exact .dE (hR.nest _ id _ _ _ eo ae) ((hR.place _ id eo).trans hb) (by grind) (RP _ _) ht mH hc
  ·exact .undef
theorem aaD (S:az P w I β hp B M w0) (hT:tR P I β hp) {ord:List Nat} (hR:CE hp β ord hp' β') {vs:Array Value} {xs:List V} (h: ∀(j:Nat) v x,vs[j]? =some v→xs[j]? =some x→aj P w I β hp v x) (j:Nat) (v:Value) (y:V)
  (hv:vs[j]? =some v) (hy:(xs.map (j6 hp ord))[j]? =some y):aj P w I β' hp' v y:=by
 rw[ld] at hy;cases hx:xs[j]? with
 | none=>grind
 | some x=>rw[hx] at hy;cases hy;exact aaC S hT hR (h j v x hv hx)
theorem aaE (S:az P w I β hp B M w0) (hT:tR P I β hp) {ord:List Nat} (hR:CE hp β ord hp' β') {kn:Bool} {n:Nat} {v:Value} {x:V} (hv:aj P w I β hp v x) (hF:oT hp' β' n (BF hp ord kn n x).2):
  aj P w I β' hp' v (BF hp ord kn n x).1:=by
 cases x with
 | nilS e=>
  cases hv with
  | nilS=>
   cases kn with
   | true=>exact .nilS
   | false=>
    obtain ⟨h1,h2⟩:=hF 0 _ rfl;exact .dS h1 h2
 | fn f a b=>
  cases hv with
  | fn q1 q2 q3 q4=>exact .fn (by grind) (aaD S hT hR q2) (by grind) (aaD S hT hR q4)
 | _=>exact aaC S hT hR hv
end
section
variable {P:Program} {A:dw} {w w':World} {I I' I2:Nat→Nat→Prop} {μ β β':Nat→Option Nat} {hp hp':Nat→Option ah} {C:af} {B:Nat} {M:Nat→Prop} {w0:Start}
theorem oT.left {n:Nat} {a b:List ah} (h:oT hp' β' n (a++b)):oT hp' β' n a:=fun k x hx=>
 h k x (by rw[n0 (cw.1 hx).1];exact hx)
theorem oT.right {n:Nat} {a b:List ah} (h:oT hp' β' n (a++b)):oT hp' β' (n+a.length) b:=fun k x hx=>by
 have:=h (a.length+k) x (by rw[o9 (by omega),Jv];exact hx);rwa [←yv] at this
def qI (bs:List ah):Prop:= ∀b∈bs,∃e,b= .arr e [] false
theorem qI.app {a b:List ah} (h1:qI a) (h2:qI b):qI (a++b):=fun x hx=>(eD.1 hx).elim (h1 x) (h2 x)
theorem qI.nil:qI []:=fun x hx=>by simp at hx
theorem aaF {ord:List Nat} {kn:Bool} {n:Nat} {x:V}:qI (BF hp ord kn n x).2:=by
 cases x<;>simp only[BF]<;>first|exact .nil|skip
 cases kn<;>first|exact .nil|skip
 intro b hb;simp only[cond_false,fx] at hb;exact ⟨_,hb⟩
theorem RQ {ord:List Nat} {kn:Bool}: ∀{xs:List V} {n:Nat},qI (ry hp ord kn n xs).2
 | [],n=> .nil
 | x::xs,n=>by
  simp only[ry];exact aaF.app RQ
theorem LM {ord:List Nat} {kn:Bool}: ∀{xs:List V} {n:Nat},(ry hp ord kn n xs).1.length=xs.length
 | [],n=>rfl
 | x::xs,n=>by simp only[ry,List.length_cons,LM]
theorem LN (S:az P w I β hp B M w0) (hT:tR P I β hp) {ord:List Nat} (hR:CE hp β ord hp' β') {kn:Bool}: ∀{xs:List V} {vs:List Value} {n:Nat},(∀(j:Nat) v x,vs[j]? =some v→xs[j]? =some x→aj P w I β hp v x)→
  oT hp' β' n (ry hp ord kn n xs).2→∀(j:Nat) v y,vs[j]? =some v→(ry hp ord kn n xs).1[j]? =some y→aj P w I β' hp' v y
 | [],vs,n,h,hF,j,v,y,hv,hy=>by simp[ry] at hy
 | x::xs,vs,n,h,hF,j,v,y,hv,hy=>by
  simp only[ry] at hF hy;cases j with
  | zero=>
   simp at hy;subst hy;exact aaE S hT hR (h 0 v x hv rfl) hF.left
  | succ j=>
   cases vs with
   | nil=>simp at hv
   | cons v0 vs=>exact LN S hT hR (vs:=vs) (fun j v x hj hx=>h (j+1) v x (by simpa using hj) (by simpa using hx)) hF.right j v y (by simpa using hv) (by simpa using hy)
theorem alF {ord:List Nat} {n:Nat} {x:V}:qI (vh hp ord n x).2:=by
 cases x<;>simp only[vh]<;>first|exact aaF|exact RQ
theorem alG (S:az P w I β hp B M w0) (hT:tR P I β hp) {ord:List Nat} (hR:CE hp β ord hp' β') {n:Nat} {v:Value} {x:V} (hv:aj P w I β hp v x) (hF:oT hp' β' n (vh hp ord n x).2):
  aj P w I β' hp' v (vh hp ord n x).1:=by
 cases x with
 | agg cs=>
  obtain ⟨ds,rfl,h1,h2⟩:=hv.np;simp only[vh] at hF⊢;exact .agg (by rw[LM];exact h1) fun j v y hj hy=>LN S hT hR (vs:=ds.toList) (fun j v x hj hx=>h2 j v x (by simpa using hj) hx) hF j v y (by simpa using hj) hy
 | bd cs=>
  obtain ⟨ds,rfl,h1,h2⟩:=hv.yR;simp only[vh] at hF⊢;exact .bd (by rw[LM];exact h1) fun j v y hj hy=>LN S hT hR (vs:=ds.toList) (fun j v x hj hx=>h2 j v x (by simpa using hj) hx) hF j v y (by simpa using hj) hy
 | _=>exact aaE S hT hR hv hF
theorem aaG {ord:List Nat} {sl:Nat→V}: ∀{l:List Nat} {n:Nat},qI (po hp ord sl n l).2
 | [],n=> .nil
 | s::l,n=>by
  simp only[po];exact alF.app aaG
theorem aaH {ord:List Nat} {sl:Nat→V} {k:Nat} {y:V}: ∀{l:List Nat} {n:Nat},oT hp' β' n (po hp ord sl n l).2→fF (po hp ord sl n l).1 k=some y→
  ∃n',oT hp' β' n' (vh hp ord n' (sl k)).2∧y=(vh hp ord n' (sl k)).1
 | [],n,_,h=>by cases h
 | s::l,n,hF,h=>by
  simp only[po] at hF h;simp only[fF] at h;cases hb:Nat.beq k s with
  | true=>
   rw[hb] at h;rw[aL] at hb;subst hb;cases h;exact ⟨n,hF.left,rfl⟩
  | false=>
   rw[hb] at h;exact aaH hF.right h
theorem alH {ord kp:List Nat} {n id:Nat}:qI (gr hp ord kp n id).2:=by
 unfold gr;split
 ·exact RQ
 ·exact .nil
 ·exact .nil
 ·exact .nil
 ·exact .nil
theorem aaI {ord kp:List Nat}: ∀{l:List Nat} {n:Nat},qI (je hp ord kp n l).2
 | [],n=> .nil
 | s::l,n=>by
  simp only[je];exact alH.app aaI
theorem aaJ {ord kp:List Nat}: ∀{l:List Nat} {n:Nat},(je hp ord kp n l).1.length=l.length
 | [],n=>rfl
 | x::xs,n=>by simp only[je,List.length_cons,aaJ]
theorem aaK {ord kp:List Nat}: ∀{l:List Nat} {n j:Nat} {id:Nat},l[j]? =some id→∃n',(oT hp' β' n (je hp ord kp n l).2→oT hp' β' n' (gr hp ord kp n' id).2)∧(je hp ord kp n l).1[j]? =some (gr hp ord kp n' id).1
 | [],n,j,id,h=>by simp at h
 | s::l,n,j,id,h=>by
  simp only[je];cases j with
  | zero=>
   simp at h;subst h;exact ⟨n,fun hF=>hF.left,rfl⟩
  | succ j=>
   obtain ⟨n',h1,h2⟩:=aaK (n:=n+(gr hp ord kp n s).2.length) (j:=j) (by simpa using h);exact ⟨n',fun hF=>h1 hF.right,by simpa using h2⟩
theorem F9: ∀{l acc:List Nat},∃t,xd hp acc l=acc++t∧(acc.Nodup→(acc++t).Nodup)
 | [],acc=>⟨[],by simp[xd],by simp⟩
 | id::l,acc=>by
  simp only[xd];cases hb:(iF acc id|| !(PB hp id)) with
  | true=>exact F9
  | false=>
   obtain ⟨t,h1,h2⟩:=F9 (l:=l) (acc:=acc++[id]);refine ⟨id::t,by simp only[cond_false,h1,lf,List.singleton_append],fun hn=> ?_⟩;have:acc++id::t=(acc++[id])++t:=by simp
   rw[this];refine h2 ?_;rw[Ee];refine ⟨hn,by simp,fun a ha b av=> ?_⟩;simp only[fx] at av;subst av;intro e;subst e;rw[yW ha] at hb;cases hb
theorem aaL: ∀{n:Nat} {l:List Nat},∃t,grow hp n l=l++t∧(l.Nodup→(l++t).Nodup)
 | 0,l=>⟨[],by simp[grow],by simp⟩
 | n+1,l=>by
  simp only[grow];obtain ⟨t,h1,h2⟩:=F9 (hp:=hp) (acc:=l) (l:=l.flatMap (yF hp));rw[h1];obtain ⟨t',h3,h4⟩:=aaL (n:=n) (l:=l++t);exact ⟨t++t',by rw[h3,lf],fun hn=>by rw[←lf];exact h4 (h2 hn)⟩
theorem alI {m:Nat} {live:List Nat} {st:St}: ∃t,PC m live st=List.range m++t∧(List.range m++t).Nodup:=by
 unfold PC;obtain ⟨t,h1,h2⟩:=F9 (hp:=st.hp) (acc:=List.range m) (l:=live.flatMap fun s=>BE (st.sl s));rw[h1];obtain ⟨t',h3,h4⟩:=aaL (hp:=st.hp) (n:=3) (l:=List.range m++t);rw[h3];obtain ⟨t2,h5,h6⟩:=F9 (hp:=W8 st.hp) (acc:=List.range m++t++t') (l:=live.flatMap fun s=>bif Nat.ble (3*KB) s then yF st.hp (s-3*KB) else bif Nat.ble KB s then (BE (st.sl (s-KB))).flatMap (yF st.hp) else []);exact ⟨t++t'++t2,by rw[h5];simp only[lf],by simp only[←lf];exact h6 (h4 (h2 List.nodup_range))⟩
end
end Go.AM
