/-
  Functions of the program, lifted to plain data.
-/
import Derived.Lib.AppendStr
import Derived.Laws.BytesString
import Derived.Lib.Builder
import Derived.Lib.UnsafeStr
import Derived.Laws.Runes
import Derived.Lib.LazyBuf
import Derived.Conc.MuLone
import Derived.Defers
import Derived.Test.YtmknicoledcapaaGreatDoorP2
noncomputable section
set_option linter.unusedVariables false
set_option linter.unusedSimpArgs false
set_option linter.unusedSectionVars false
namespace Go.AM
section
variable {P:Program}{w w':World}{I I':Nat→Nat→Prop}{β β':Nat→Option Nat}{hp hp':Nat→Option ag}{C:af}{B:Nat}{M:Nat→Prop}{w0:Start}
theorem atf{e:TypeId}(he:P.underlying e=some (.int .u8))(hc:P.cellsOf e=1)(s:ByteArray):∀(i j:Nat) (x:V) (t':TypeId),(s.data.toList.map Hd)[i]? =some x→(aV P e)[j]? =some t'→j<P.cellsOf e→
  ∃u,(Lib.strCells s)[i*P.cellsOf e+j]? =some u∧Pure P w I t' u (ca P e x j):=by
 intro i j x t' hx ht hj;have qi:bW P e=false:=by simp[bW,he]
 obtain rfl:j=0:=by omega
 simp only[aV,qi,cond_false,List.getElem?_cons_zero,eU]at ht;subst ht;rw[jX]at hx;cases hb:s.data.toList[i]? with
 |none=>grind
 |some b=>
  rw[hb]at hx;cases hx;refine⟨.int .u8 b.toNat,?_,?_⟩
  ·rw[hc,iR,Nat.add_zero];simp only[Lib.strCells,jX,hb,Option.map_some]
  ·simp only[ca,qi,cond_false];exact .int he
theorem atg(w:World)(t u ty e T:TypeId)(i:TypeInfo)(ht:P.underlying t=some (.slice e))(hu:P.underlying u=some .string)(hi:P.info? e=some i)(lz:i.size=1)
  (g n9 yu:Nat) (cur:Array Value) (hg:w.heap[g]? =some (.cells cur T (0,0))) (s:ByteArray)
  (wC:n9+s.size≤yu) (E9:n9+s.size≤cur.size):
  (Builtin.append_ #[t,u] ty #[.slice (some ⟨g,0,none⟩) n9 yu,.string s]).run P w=
   .ok (.slice (some ⟨g,0,none⟩) (n9+s.size) yu) (w.setRow g (cur.toList.take n9++Lib.strCells s++cur.toList.drop (n9+s.size)).toArray):=by
 have hf:=Lib.run_firstCells_string (P:=P) w 1 s;have cv:=run_storeCells_at P g n9 T (Lib.strCells s) 0 cur w hg (by simpa[Lib.strCells_length]using E9) (Lib.strCells_oneCell s);simp only[Nat.add_zero,Lib.strCells_length]at cv;simp[Builtin.append_,run_underlying ht,run_underlying hu,sizeOf,typeInfo,hi,lz,Builtin.lenOf,wC,hf,Addr.add_lit,cv]
theorem ath(w:World)(t u ty e:TypeId)(i:TypeInfo)(z:Value)(ht:P.underlying t=some (.slice e))(hu:P.underlying u=some .string)(hi:P.info? e=some i)(hz:i.zero=some z)
  (s:ByteArray) (h0:0<s.size) (JN:(s.size:Int)≤9223372036854775807) (P6:s.size*i.bytes≤281474976710656) (a0:Option Addr):
  (Builtin.append_ #[t,u] ty #[.slice a0 0 0,.string s]).run P w=
   .ok (.slice (some ⟨w.heap.size,0,none⟩) s.size (grownCap w s.size 0 e))
    (w.drew.alloc (.cells (s.data.map (fun b=>Value.int .u8 b.toNat)++Builtin.zeroCells z.cells (grownCap w s.size 0 e-s.size)) e)):=by
 cases a0 with
 |none=>exact run_append_nil_string w t u ty e i z ht hu hi hz s h0 JN P6
 |some b=>
  rw[←run_append_nil_string w t u ty e i z ht hu hi hz s h0 JN P6];have hn:s.size≠0:=by omega
  have Xa:¬(9223372036854775807<(s.size:Int)):=by omega
  have ati:¬(281474976710656<Builtin.nextslicecap s.size 0*i.bytes):=by rw[nextslicecap_zero h0];omega
  simp[Builtin.append_,run_underlying ht,run_underlying hu,sizeOf,typeInfo,zeroValue,hi,hz,Builtin.lenOf,Builtin.firstCells,hn,Xa,ati,Question.forced,newRow,grownCap,loadCells,loadCellsFrom]
theorem afL(S:ax P w I β hp B M w0){t u ty e:TypeId}{nb:Nat}{fz:Bool}{x:ByteArray}{xs:List V}{i:TypeInfo}{z:Value}(hu:P.underlying t=some (.slice e))(vb:P.underlying u=some .string)(ao:di P e=true)(hn:hp nb=none)
 (hi:P.info? e=some i) (hz:i.zero=some z) (h3:i.size=P.cellsOf e) (h4:z.cells.size=P.cellsOf e) (JV:i.size=1) (pB:P.bytesOf e=i.bytes) (eH:xs.length*P.bytesOf e≤aR) (pf:xs.length=x.size) (kU:(Lib.strCells x).length=x.size)
 (fN:∀(i j:Nat) (y:V) (t':TypeId),xs[i]? =some y→(aV P e)[j]? =some t'→j<P.cellsOf e→∃u,(Lib.strCells x)[i*P.cellsOf e+j]? =some u∧Pure P w I t' u (ca P e y j)):
 ∀a0,∃v w' β',(Builtin.append_ #[t,u] ty #[.slice a0 0 0,.string x]).run P w= .ok v w'∧Le P w I β hp w' I β' (ak hp nb (some (.arr e xs fz)))∧ax P w' I β' (ak hp nb (some (.arr e xs fz))) B M w0∧
  ai P w' I β' (ak hp nb (some (.arr e xs fz))) v (.whole e nb):=by
 intro a0;have yr:=Bb ao;have hlen:xs.length≤2^45:=by
  have:xs.length*1≤xs.length*P.bytesOf e:=zg _ yr;simp only[aR]at eH;omega
 by_cases h0:x.size=0
 ·have kh:xs=[]:=qu (by omega);subst kh;obtain⟨a1,a2⟩:=Hw S e hn;have hf:=Lib.run_firstCells_string (P:=P) w 1 x;rw[h0]at hf;have jB:Lib.strCells x=[]:=qu (by omega);exact⟨.slice a0 0 0,_,_,by cases a0<;>simp[storeCells,jB,Builtin.append_,run_underlying hu,run_underlying vb,sizeOf,typeInfo,hi,JV,Builtin.lenOf,h0,hf],a1,a2,.dZ (bI _ _ _) (bI _ _ _)⟩
 ·have cO:=ath (P:=P) w t u ty e i z hu vb hi hz x (by omega) (by omega) (by rw[←pB,←pf];simp only[aR]at eH;omega) a0;have e1:(x.data.map fun b=>Value.int .u8 b.toNat)=(Lib.strCells x).toArray:=by
   apply Array.ext';simp[Lib.strCells]
  rw[e1,←pf]at cO;have sK:=grownCap_ge w xs.length 0 e;have u7:grownCap w xs.length 0 e≤maxLen:=grownCap_le_maxLen w xs.length 0 e (by simp only[maxLen];omega);obtain⟨n1,n2,n3⟩:=E4 S.drew (nb:=nb) (cap:=grownCap w xs.length 0 e) (es:=xs) (C0:=(Lib.strCells x).toArray++Builtin.zeroCells z.cells (grownCap w xs.length 0 e-xs.length)) ao hn
   (by
    have:(Lib.strCells x).length=xs.length*P.cellsOf e:=by grind
    simp only[MV,ui,size_zeroCells,h4,this,←kO];grind) sK u7
   (fun i' j y t' hy ht hj=>by
    obtain⟨u,mK,hp⟩:=fN i' j y t' hy ht hj;have aO:=(cw.1 mK).1;refine⟨u,?_,Pure.drew hp⟩;grind)
  exact⟨_,_,_,cO,(Le.drew w I β hp).trans n1,n2,n3⟩
theorem atj(S:ax P w I β hp B M w0){t u ty e:TypeId}{nb:Nat}{s:Value}{sv:V}{x:ByteArray}{r:R}{rd:List Nat}(hu:P.underlying t=some (.slice e))(vb:P.underlying u=some .string)(he:P.underlying e=some (.int .u8))(hs:ai P w I β hp s sv)
  (h:(DK P nb e sv (.list e (x.data.toList.map Hd))).run C hp=some (r,rd)):dr P ((Builtin.append_ #[t,u] ty #[s,.string x]).run P w) w I β hp B M w0 r:=by
 unfold DK at h;obtain⟨ao,h⟩:=ay h;simp only[xy]at h;obtain⟨_,h⟩:=ay h;have qi:bW P e=false:=by simp[bW,he]
 have gO:P.cellsOf e=1:=by rw[←(pN ao).1,Ht qi];rfl
 obtain⟨i,z,hi,hz,h3,h4,_⟩:=lO ao;have JV:i.size=1:=by omega
 have yr:=Bb ao;have pB:P.bytesOf e=i.bytes:=by simp[Program.bytesOf,hi]
 have Qe:=atf (P:=P) (w:=w) (I:=I) he gO x;have pf:(x.data.toList.map Hd).length=x.size:=by simp
 have kU:(Lib.strCells x).length=x.size:=Lib.strCells_length x;have h1:=Lib.strCells_oneCell x;generalize kh:x.data.toList.map Hd=xs at*
 cases sv with
 |nilS e'=>
  obtain⟨hc,h⟩:=ay h;simp only[aG,aN,gG]at hc;obtain⟨hn,rfl⟩:=n8 h;obtain⟨a0,rfl⟩:∃a0,s= .slice a0 0 0:=by cases hs;grind
  obtain⟨v,w',β',a1,a2,a3,a4⟩:=afL S hu vb ao hn hi hz h3 h4 JV pB hc.2 pf kU Qe _;exact⟨v,w',I,β',a1,a2,a3,a4⟩
 |whole e' id=>
  obtain⟨l,h⟩:=run_get h;cases ae:hp id with
  |none=>rw[ae]at h;cases h
  |some blk=>
   rw[ae]at h;cases blk with
   |dead=>cases h
   |var _=>cases h
   |nest _ _ _=>cases h
   |map _ _=>cases h
   |out _ _ _ _=>cases h
   |arr eh es fz=>
    obtain⟨hc,h⟩:=ay h;obtain⟨hn,rfl⟩:=n8 h;simp only[aG,aN,gG]at hc;obtain⟨WN,WO,eH⟩:=hc;subst WN;subst WO;have bE:nb≠id:=fun e=>by grind
    obtain⟨k1,k2⟩:=zB S ae;have jO:ak hp id (some ag.dead) nb=none:=by rw[cA _ _ bE];exact hn
    cases hs with
    |ei hd=>grind
    |dQ hd=>grind
    |eA hd=>grind
    |fK hd=>grind
    |dZ hd hb=>
     rw[ae]at hd;cases hd;simp only[List.length_nil,dP]at eH;obtain⟨v,w',β',a1,a2,a3,a4⟩:=afL k2 hu vb ao jO hi hz h3 h4 JV pB eH pf kU Qe _;exact⟨v,w',I,β',a1,k1.trans a2,a3,a4⟩
    |@whole _ _ aI qM b cap hd hb aZ bO hm=>
     rw[ae]at hd;cases hd;have hr:=S.h.rel id _ ae;cases hr with
     |eM au=>grind
     |@arr _ T0 _ _ b' Ca hL _ au hh Ad hf fR Ae=>
      rw[hb]at au;cases au;have hlen:es.length+xs.length≤2^45:=by
       have:(es.length+xs.length)*1≤(es.length+xs.length)*P.bytesOf e:=zg _ yr;simp only[aR]at eH;omega
      rw[ml hh]at aZ;have uD:∀aq blk',ak hp id (some ag.dead) aq=some blk'→¬bm P w (β aq) blk' b:=by
       intro aq blk' h1 h2;by_cases oM:aq=id
       ·subst oM;rw[bI]at h1;cases h1;exact h2.alive rfl
       ·rw[cA _ _ oM]at h1;exact oM (S.h.inj aq id blk' _ b h1 ae h2 (.root (by simp) hb))
      have JO:=S.h.zw id _ b ae (by simp) hb;have tQ:es.length*P.cellsOf e≤Ca.toList.length:=by omega
      have atk:(Lib.strCells x).length=xs.length*P.cellsOf e:=by grind
      by_cases wC:es.length+xs.length≤cap
      ·have E9:es.length*P.cellsOf e+(Lib.strCells x).length≤Ca.size:=by grind
       have cO:=atg (P:=P) w t u ty e T0 i hu vb hi JV b es.length cap Ca hh x (by omega) (by grind);have fN:=P5 (P:=P) (w:=w) (I:=I) (n:=es.length) (c:=Ca.toList) rfl (fun i j y t' a b c=>by
        grind) Qe tQ (Ca.toList.drop (es.length*P.cellsOf e+(Lib.strCells x).length))
       generalize PT:(Ca.toList.take es.length++Lib.strCells x++Ca.toList.drop (es.length+x.size)).toArray=C' at cO;have rG:C'.size=Ca.size:=by
        grind
       have Xb:(w.setRow b C').heap[b]? =some (.cells C' T0 (0,0)):=setRow_heap w b Ca C' T0 _ hh;have tS:∀j,j<es.length*P.cellsOf e→C'[j]? =Ca[j]? :=fun j hj=>by
        grind
       obtain⟨a1,a2⟩:=D0 k2 (blk:= .arr e (es++xs) fz) (w':=w.setRow b C') jO uD (afg hh Xb (WG hf fR) tS) (fun b' h _=>setRow_other w b b' _ h) (by simp) ⟨rfl,rfl⟩ JO
        (fun b' h=>(eX (h.flat (by simp))).symm) (fun hle=> .arr (rG▸hL) ao rfl Xb (by grind) (fun _ j h=>lZ (WG hf fR j h) (eT _ (by simp))) fR fun i j y t' a b c=>by
         obtain⟨v,hv,hp⟩:=fN i j y t' a b c;refine⟨v,?_,hp.mono hle.eD hle.cM⟩;grind)
       refine⟨_,_,_,_,cO,k1.trans a1,a2,?_⟩;have a3:=ai.whole (P:=P) (w:=w.setRow b C') (I:=I) (β:=ak β nb (some b)) (hp:=ak (ak hp id (some .dead)) nb (some (.arr e (es++xs) fz))) (cap:=cap) (b:=b) (es:=es++xs) (fz:=fz) (id:=nb) (e:=e) (bI _ _ _) (bI _ _ _) (by rw[ml Xb,rG,aZ]) (by grind) hm;rw[gY,pf]at a3;exact a3
      ·have hold:∀(j:Nat) v,(Ca.toList.take (es.length*P.cellsOf e))[j]? =some v→w.cell? ((⟨b,0,none⟩:Addr).add j)=some v:=by
        intro j v hj;have dt:=(cw.1 hj).1;have mn:j<es.length*P.cellsOf e:=by grind
        rw[jW mn]at hj;rw[o9,cell?_cells hh,dP];grind
       have cO:=Lib.run_append_grow_string (P:=P) w t u ty e i z hu vb hi hz ⟨b,0,none⟩ es.length cap (Ca.toList.take (es.length*P.cellsOf e)) (by grind) hold x (by omega) (by omega)
        (growslice_fits (by omega) (by rw[←pB,←pf];simp only[aR]at eH;omega))
       rw[←pf]at cO;have sK:=grownCap_ge w (es.length+xs.length) cap e;have u7:grownCap w (es.length+xs.length) cap e≤maxLen:=grownCap_le_maxLen w _ cap e (by simp only[maxLen];omega);have fN:=P5 (P:=P) (w:=w) (I:=I) (n:=es.length) (c:=Ca.toList) rfl (fun i j y t' a b c=>by
        grind) Qe tQ (Builtin.zeroCells z.cells (grownCap w (es.length+xs.length) cap e-(es.length+xs.length))).toList
       obtain⟨n1,n2,n3⟩:=E4 k2.drew (nb:=nb) (cap:=grownCap w (es.length+xs.length) cap e) (es:=es++xs)
        (C0:=(Ca.toList.take (es.length*P.cellsOf e)).toArray++(Lib.strCells x).toArray++Builtin.zeroCells z.cells (grownCap w (es.length+xs.length) cap e-(es.length+xs.length))) ao jO
        (by
         have e1:(Ca.toList.take (es.length*P.cellsOf e)).length=es.length*P.cellsOf e:=by simp;omega
         simp only[MV,ui,size_zeroCells,h4,atk,e1,←kO];grind) (by grind) u7
        (fun i j y t' a b c=>by
         obtain⟨v,hv,hp⟩:=fN i j y t' a b c;refine⟨v,?_,Pure.drew hp⟩;grind)
       rw[gY]at n3;exact⟨_,_,_,_,cO,(k1.trans (Le.drew w I β _)).trans n1,n2,n3⟩
 |_=>cases h
end
section
variable {P:Program}{w w':World}{I I':Nat→Nat→Prop}{β β':Nat→Option Nat}{hp hp':Nat→Option ag}{C:af}{B:Nat}{M:Nat→Prop}{w0:Start}
theorem afM:∀(ns:List Int) (s:ByteArray),(ns.foldl (fun r n=>r.push (UInt8.ofNat n.toNat)) s).data.toList=s.data.toList++ns.map fun n=>UInt8.ofNat n.toNat
 | [],s=>by simp
 |n::ns,s=>by
  simp only[List.foldl_cons,afM ns,mc];simp_all
theorem afN{e:TypeId}{u:Value}{x:V}(he:P.underlying e=some (.int .u8))(hp:Pure P w I e u x):u= .int .u8 x.toInt:=by
 cases hp with
 |int hp'=>rw[he]at hp';cases hp';rfl
 |bool hp'=>grind
 |str hp'=>grind
 |nil hp'=>grind
 |emp hp'=>grind
 |list _ hp'=>grind
theorem atl(S:ax P w I β hp B M w0){src dst e:TypeId}{v:Value}{x:V}{r:R}{rd:List Nat}(hs:P.underlying src=some (.slice e))(he:P.underlying e=some (.int .u8))(hd:P.underlying dst=some .string)
  (hv:ai P w I β hp v x) (h:(Rd.aw (di P e) (xy e x fun es=> .ret ⟨.str (me es),[]⟩)).run C hp=some (r,rd)):dr P ((convert src dst v).run P w) w I β hp B M w0 r:=by
 obtain⟨ao,h⟩:=ay h;obtain⟨xs,hx,l,h⟩:=JM S.h.rel ao hv h;obtain rfl:=aM h;have qi:bW P e=false:=by simp[bW,he]
 have h1:P.cellsOf e=1:=by rw[←(pN ao).1,Ht qi];rfl
 rcases hx with⟨⟨a,rfl⟩,rfl⟩|⟨a,c,news,hr⟩
 ·refine .same S (v:= .string .empty) ?_ (.str (by simp[me]));rw[run_convert_bytes_string w src dst e a 0 0 hs he hd];cases a<;>simp[Conv.bytesToString,loadCells,loadCellsFrom]
 ·have wB:news=(xs.map V.toInt).map (Value.int .u8):=by
   apply GN;intro j;by_cases hj:j<xs.length
   ·obtain⟨u,hu,hp⟩:=hr.el j 0 xs[j] e (bX hj) (by simp[aV,qi]) (by omega);rw[h1]at hu;simp only[ca,qi,cond_false]at hp;have mK:news[j]? =some u:=by grind
    rw[mK];have:=afN he hp;grind
   ·have hl:news.length=xs.length:=by rw[hr.len,h1];simp
    grind
  have Xc:=run_loadCells_list (P:=P) w a news hr.cell;have hl:news.length=xs.length:=by grind
  rw[hl]at Xc;rw[wB]at Xc;refine .same S (v:= .string ((xs.map V.toInt).foldl (fun r n=>r.push (UInt8.ofNat n.toNat)) ByteArray.empty)) ?_ (.str ?_)
  ·rw[hr.val,run_convert_bytes_string w src dst e _ _ _ hs he hd];exact run_bytesToString w a xs.length c (xs.map V.toInt) Xc
  ·rw[afM];simp[me]
theorem atm{n:Int}(h:(decide (0≤n)&&decide (n<128))=true):(Utf8.encode n).data.toList=[UInt8.ofNat n.toNat]:=by
 simp only[aG,jf]at h;have h1:Utf8.valid n=true:=by rw[validRune_eq];exact cB (by omega)
 unfold Utf8.encode;simp[h1,show n.toNat<128 by omega]
theorem ai.Xd{v:Value}{e:TypeId}(h:ai P w I β hp v (.nilS e)):v= .slice none 0 0:=by cases h;rfl
theorem ai.Qf{v:Value}(h:ai P w I β hp v .eV):v= .pointer none:=by cases h;rfl
section
variable (w:World)
theorem atn(t e:TypeId)(a:Addr)(h:P.underlying t=some (.pointer e)):(binOp .eql t (.pointer (some a)) (.pointer none)).run P w= .ok (.bool false) w:=by
 have h0:∀d:Nat,(Op.equalIn (d+1) t (.pointer (some a)) (.pointer none)).run P w= .ok false w:=fun d=>by simp[Op.equalIn,run_underlying h]
 simp only[binOp];simp[Op.equal,Op.maxDepth,h0 9999]
theorem ato(t e:TypeId)(a:Addr)(h:P.underlying t=some (.pointer e)):(binOp .neq t (.pointer (some a)) (.pointer none)).run P w= .ok (.bool (!false)) w:=by
 have h0:∀d:Nat,(Op.equalIn (d+1) t (.pointer (some a)) (.pointer none)).run P w= .ok false w:=fun d=>by simp[Op.equalIn,run_underlying h]
 simp only[binOp];simp[Op.equal,Op.maxDepth,h0 9999]
theorem atp(t e:TypeId)(a:Addr)(h:P.underlying t=some (.pointer e)):(binOp .eql t (.pointer none) (.pointer (some a))).run P w= .ok (.bool false) w:=by
 have h0:∀d:Nat,(Op.equalIn (d+1) t (.pointer none) (.pointer (some a))).run P w= .ok false w:=fun d=>by simp[Op.equalIn,run_underlying h]
 simp only[binOp];simp[Op.equal,Op.maxDepth,h0 9999]
theorem atq(t e:TypeId)(a:Addr)(h:P.underlying t=some (.pointer e)):(binOp .neq t (.pointer none) (.pointer (some a))).run P w= .ok (.bool (!false)) w:=by
 have h0:∀d:Nat,(Op.equalIn (d+1) t (.pointer none) (.pointer (some a))).run P w= .ok false w:=fun d=>by simp[Op.equalIn,run_underlying h]
 simp only[binOp];simp[Op.equal,Op.maxDepth,h0 9999]
theorem atr(t e:TypeId)(h:P.underlying t=some (.pointer e)):(binOp .eql t (.pointer none) (.pointer none)).run P w= .ok (.bool true) w:=by
 have h0:∀d:Nat,(Op.equalIn (d+1) t (.pointer none) (.pointer none)).run P w= .ok true w:=fun d=>by simp[Op.equalIn,run_underlying h]
 simp only[binOp];simp[Op.equal,Op.maxDepth,h0 9999]
theorem ats(t e:TypeId)(h:P.underlying t=some (.pointer e)):(binOp .neq t (.pointer none) (.pointer none)).run P w= .ok (.bool (!true)) w:=by
 have h0:∀d:Nat,(Op.equalIn (d+1) t (.pointer none) (.pointer none)).run P w= .ok true w:=fun d=>by simp[Op.equalIn,run_underlying h]
 simp only[binOp];simp[Op.equal,Op.maxDepth,h0 9999]
end
theorem Qg(S:ax P w I β hp B M w0){op:BinOp}{t:TypeId}{b:Bool}{x y:Operand}{v1 v2:Value}{r:R}{rd:List Nat}(h:(ptrEq P op t b).run C hp=some (r,rd))(hg:(eqGuard op t x y v1 v2).run P w= .ok () w)
  (he:∀e j,P.underlying t=some (.pointer e)→P.info? e=some j→(binOp .eql t v1 v2).run P w= .ok (.bool b) w∧(binOp .neq t v1 v2).run P w= .ok (.bool (!b)) w):
  dr P ((do eqGuard op t x y v1 v2;binOp op t v1 v2:Sem Value).run P w) w I β hp B M w0 r:=by
 unfold ptrEq at h;cases hu:P.underlying t with
 |none=>rw[hu]at h;cases h
 |some d=>
  rw[hu]at h;cases d<;>simp only at h<;>first|(cases h;done)|skip
  rename_i e;obtain⟨h1,h2⟩:=ay h;obtain⟨j,hj⟩:=DB.1 h1;obtain⟨k1,k2⟩:=he e j hu hj;cases op<;>simp only at h2<;>first|(cases h2;done)|skip
  ·obtain rfl:=aM h2;exact .same S (by simp_all) .bool
  ·obtain rfl:=aM h2;exact .same S (by simp_all) .bool
theorem att{b n:Nat}:(∀b',b'≠b→(w.freeze ⟨b,0,none⟩ n).heap[b']? =w.heap[b']?)∧bsize (w.freeze ⟨b,0,none⟩ n) b=bsize w b∧w.heap.size≤(w.freeze ⟨b,0,none⟩ n).heap.size∧(w.freeze ⟨b,0,none⟩ n).os=w.os∧(w.freeze ⟨b,0,none⟩ n).output=w.output:=by
 unfold World.freeze;split
 ·grind
 ·refine⟨fun b' hb=> ?_,?_,by simp,rfl,rfl⟩
  ·grind
  ·simp only[bsize,MY,qv];grind
theorem atu{e:TypeId}(hb:isByte P e=true):P.underlying e=some (.int .u8):=by
 unfold isByte at hb;grind
theorem atv(S:ax P w I β hp B M w0){ts:Array TypeId}{ty e:TypeId}{v:Value}{id:Nat}{es:List V}{fz:Bool}(hv:ai P w I β hp v (.whole e id))(ae:hp id=some (.arr e es fz))(h0:0<es.length):
  dr P ((Builtin.unsafeSliceData_ ts ty #[v]).run P w) w I β hp B M w0 ⟨.ptr id 0 0,[]⟩:=by
 cases hv with
 |ei h=>grind
 |dZ h _=>grind
 |dQ h _ _ _ _=>grind
 |eA h _=>grind
 |fK h _ _ _ _=>grind
 |@whole _ _ aI qM b cap h hb bO hle hm=>
  rw[ae]at h;cases h;refine .same S (Lib.run_unsafeSliceData_row w ts ty ⟨b,0,none⟩ es.length cap (by omega)) ?_;have:=ai.ptr (P:=P) (w:=w) (I:=I) (β:=β) (i:=0) (c:=0) ae (by simp) hb;grind
theorem atw{P:Program}{w:World}(pt it ty e T:TypeId)(hp:P.underlying pt=some (.pointer e))(g cells:Nat)(Qh:w.shape? g=some (T,cells))(l:List UInt8)(h0:l≠[])(afi:liesAt P P.depth T (cells/P.cellsOf T) 0 e l.length=true)(JN:l.length≤9223372036854775807)
  (gZ:∀j x,l[j]? =some x→w.cell? ((⟨g,0,none⟩:Addr).add j)=some (.int .u8 x.toNat)):
  (Builtin.unsafeString_ #[pt,it] ty #[.pointer (some ⟨g,0,none⟩),.int .i64 l.length]).run P w= .ok (.string ⟨l.toArray⟩) (w.freeze ⟨g,0,none⟩ l.length):=by
 have hl:l.length≠0:=by grind
 have hlb:=Lib.run_loadBytes (P:=P) w l ⟨g,0,none⟩ .empty gZ;have Xa:¬(9223372036854775807:Int)<(l.length:Int):=by omega
 have atx:Builtin.unsafeString_ #[pt,it] ty #[.pointer (some ⟨g,0,none⟩),.int .i64 l.length]=
   (do
    let n←asInt (.int .i64 l.length)
    if n < 0 then runtimePanic (.error "unsafe.String: len out of range")
    if n > IntKind.i64.max then unsupported (.unsafePointer "String: a length above the largest int")
    if n=0 then pure (.string .empty)
    else if←variablesAt ⟨g,0,none⟩ (←elemOf pt) n.toNat then do
     let s←loadBytes ⟨g,0,none⟩ .empty n.toNat
     Go.freeze ⟨g,0,none⟩ n.toNat
     pure (.string s)
    else unsupported (.unsafePointer "String: not so many bytes at ptr")) := rfl
 rw[atx];have aty:IntKind.i64.max=9223372036854775807:=rfl;have atz:¬(l.length:Int)<0:=by omega
 simp[asInt,asIntOf,aty,Xa,atz,hl,variablesAt,Qh,elemOf,run_underlying hp,afi,hlb]
theorem atA(S:ax P w I β hp B M w0){t u ty e:TypeId}{vx:Value}{id:Nat}{n:Int}{es:List V}(hu:P.underlying t=some (.pointer e))(hb:isByte P e=true)(hv:ai P w I β hp vx (.ptr id 0 0))
  (ae:hp id=some (.arr e es false)) (h0:0<n) (hn:n≤es.length) (hm:n.toNat≤qJ) (iu:(es.take n.toNat).all TO=true):dr P ((Builtin.unsafeString_ #[t,u] ty #[vx,.int .i64 n]).run P w) w I β hp B M w0 ⟨.str (me (es.take n.toNat)),[(id,.dead)]⟩:=by
 obtain⟨b,Xe,rfl⟩:=hv.jC ae (by simp);have gh:=hb;have he:P.underlying e=some (.int .u8):=by
  unfold isByte at hb;grind
 have qi:bW P e=false:=by simp[bW,he]
 have hr:=S.h.rel id _ ae;rw[Xe]at hr;cases hr with
 |eM au=>cases au
 |@arr _ T0 _ _ b1 Ca hL ao tQ hh hs hI dq fN=>
  cases tQ;have h1:P.cellsOf e=1:=by rw[←(pN ao).1,Ht qi];rfl
  have aO:=S.amE ae (by simp) Xe;have hl:(me (es.take n.toNat)).length=n.toNat:=by simp[me];omega
  have IQ:n=((me (es.take n.toNat)).length:Nat):=by omega
  have cO:=atw (P:=P) (w:=w) t u ty e T0 hu b Ca.size (by simp[World.shape?,hh]) (me (es.take n.toNat)) (fun h=>by grind) (hL gh h1 _ (by grind)) (by rw[hl];unfold qJ at hm;omega) (fun j x hx=>by
   have hj:j<n.toNat:=by
    grind
   have Bj:j<es.length:=by omega
   simp only[me,jX,jW hj,bX Bj,Option.map_some,eU]at hx;obtain⟨v,uN,bK⟩:=fN j 0 es[j] e (bX Bj) (by simp[aV,qi]) (by omega);rw[h1]at uN;simp only[ca,qi,cond_false]at bK;have:=afN he bK;have hr:=im.1 iu es[j] (nE (by rw[jW hj];grind));simp only[TO,aG,jf]at hr;have lM:(x.toNat:Int)=es[j].toInt:=by
    rw[←hx];have:es[j].toInt.toNat<256:=by omega
    simp only[UInt8.toNat_ofNat'];omega
   rw[o9,cell?_cells hh,lM];grind)
  obtain⟨f1,f2,f3,f4,f5⟩:=att (w:=w) (b:=b) (n:=n.toNat);obtain⟨k1,k2⟩:=D1 (w':=w.freeze ⟨b,0,none⟩ n.toNat) S ae (by simp) (blk':= .dead) (by trivial) Xe (dq rfl) (by simp) f1 f2 f3 ⟨f4,f5⟩ (fun _=> .dead);rw[←IQ,hl]at cO;refine⟨.string ⟨(me (es.take n.toNat)).toArray⟩,_,I,β,?_,k1,k2,.str ?_⟩
  all_goals grind
def Xf:Op→Bool
 | .call {callee:= .value (.func _),..}=>true
 | .call {callee:= .value (.tmp _),..}=>true
 | .defer _=>true
 |_=>false
theorem uF.val{o:Oper}{a:Act}{s:Sem Value}{r:R}(he:execOp a.eval o=(do Pure.pure (Next.value (←s))))(h:dr P (s.run P w) w I β hp B M w0 r):uF P ((execOp a.eval o).run P w) w I β hp B M w0 r:=by
 rw[he];exact h.op
theorem atB{A:dz}(S:ax P w I β hp B M w0)(hg:ly P A.aC w I){a:Act}{sl:Nat→V}(hs:o4 P w I β hp a sl){ix nb:Nat}{o:Oper}(Xg:Xf o.op=false){r:R}{rd:List Nat}
  (h:(jI P A sl ix nb o).run C hp=some (r,rd)):uF P ((execOp a.eval o).run P w) w I β hp B M w0 r:=by
 obtain⟨dst,op,ty,pos,after,guard⟩:=o;cases op<;>simp only[jI]at h<;>first|(cases h;done)|skip
 case move x=>
  obtain rfl:=aM h;exact⟨_,w,I,β,.inl (by simp[execOp]),Le.refl w I β hp,S,hs.ev hg ty x⟩
 case assign x=>
  obtain rfl:=aM h;exact⟨_,w,I,β,.inl (by simp[execOp]),Le.refl w I β hp,S,hs.ev hg ty x⟩
 case pick c x y=>
  have hc:=hs.ev hg ty c;cases B3:aU P A.aC ty sl c<;>rw[B3]at h hc<;>simp only at h<;>first|(cases h;done)|skip
  rename_i t;have atC:=hc.oo;have hx:=hs.ev hg ty x;have hy:=hs.ev hg ty y;have fin:∀z:V,ai P w I β hp (if t then a.eval x else a.eval y) z→uF P ((execOp a.eval ⟨dst,.pick c x y,ty,pos,after,guard⟩).run P w) w I β hp B M w0 ⟨z,[]⟩:=by
   intro z hz;exact⟨_,w,I,β,.inl (by simp[execOp,atC,asBool]),Le.refl w I β hp,S,hz⟩
  cases OR:gone (aU P A.aC ty sl x)with
  |true=>
   rw[OR]at h;obtain⟨h1,h⟩:=ay h;obtain rfl:=aM h;grind
  |false=>
   rw[OR]at h;simp only[cond_false]at h;cases hg2:gone (aU P A.aC ty sl y)with
   |true=>
    rw[hg2]at h;obtain⟨h1,h⟩:=ay h;obtain rfl:=aM h;grind
   |false=>
    rw[hg2]at h;obtain rfl:=aM h;exact fin _ (abZ hx hy)
 case makeFunc fn x y=>
  cases fn<;>simp only[jI]at h<;>first|(cases h;done)|skip
  rename_i f;obtain rfl:=aM h;refine⟨.func (.func f) (x.map a.eval) (y.map a.eval),w,I,β,.inl (by simp[execOp,Instr.makeFunc]),Le.refl w I β hp,S,.fn (by simp) (fun j v z hj hz=> ?_) (by simp) (fun j v z hj hz=> ?_)⟩
  ·rw[Array.getElem?_map]at hj;rw[jX,uk]at hz;cases hx:x[j]? with
   |none=>grind
   |some o1=>
    rw[hx]at hj hz;cases hj;cases hz;exact hs.ev hg ty o1
  ·rw[Array.getElem?_map]at hj;rw[jX,uk]at hz;cases hx:y[j]? with
   |none=>grind
   |some o1=>
    rw[hx]at hj hz;cases hj;cases hz;exact hs.ev hg ty o1
 case defer c=>cases Xg
 case makeMap t res=>
  cases res with
  |some x=>cases h
  |none=>exact .val rfl (ata S h)
 case lookup t m k ok=>
  cases ht:qL P t with
  |none=>rw[ht]at h;cases h
  |some q=>
   obtain⟨kt,vt⟩:=q;rw[ht]at h;exact .val (s:=Instr.lookup t (a.eval m) (a.eval k) ok) rfl (as9 S ht (hs.ev hg t m) (hs.ev hg kt k) h)
 case mapUpdate t m k x=>
  cases ht:qL P t with
  |none=>rw[ht]at h;cases h
  |some q=>
   obtain⟨kt,vt⟩:=q;rw[ht]at h;have:=afJ S ht (hs.ev hg t m) (hs.ev hg kt k) (hs.ev hg vt x) h;exact this.op
 case insert t m k x=>
  cases ht:qL P t with
  |none=>rw[ht]at h;cases h
  |some q=>
   obtain⟨kt,vt⟩:=q;rw[ht]at h;have:=afJ S ht (hs.ev hg t m) (hs.ev hg kt k) (hs.ev hg vt x) h;exact this.op
 case alloc e=>
  cases dst with
  |none=>exact .val rfl (ae6 S h)
  |some d=>
   simp only at h;cases wE:jh A.um d with
   |true=>rw[wE]at h;exact .val rfl (asz S h)
   |false=>rw[wE]at h;exact .val rfl (ae6 S h)
 case box e x=>
  exact .val rfl (asu S (hs.ev hg e x) h)
 case build t ps=>exact .val rfl (asw S hs hg h)
 case buildSlice t len ps=>
  cases hu:P.underlying t with
  |none=>rw[hu]at h;cases h
  |some d=>
   rw[hu]at h;cases d<;>simp only at h<;>first|(cases h;done)|skip
   cases dst with
   |none=>exact .val rfl (afm S hs hg hu h)
   |some d=>
    simp only at h;cases wE:jh A.um d with
    |true=>rw[wE]at h;exact .val rfl (asQ S hs hg hu h)
    |false=>rw[wE]at h;exact .val rfl (afm S hs hg hu h)
 case load t x=>exact .val rfl (amT S (hs.ev hg ty x) h)
 case store t x y=>
  have:=ast S (hs.ev hg ty x) (hs.ev hg t y) h;exact this.op
 case nilCheck x=>
  have hx:=hs.ev hg ty x;cases jF:aU P A.aC ty sl x<;>rw[jF]at h hx<;>simp only at h<;>first|(cases h;done)|skip
  ·obtain⟨⟨blk,ae,hd⟩,l,h⟩:=Hz h;obtain rfl:=aM h;have dk:=hx;obtain⟨b,hb,he⟩:=hx.jC ae hd;rw[he]at dk;exact⟨_,w,I,β,.inl (by simp only[execOp,he];rfl),Le.refl w I β hp,S,dk⟩
  ·obtain rfl:=aM h;have dk:=hx;obtain⟨b,o,he,_⟩:=hx.HA;rw[he]at dk;exact⟨_,w,I,β,.inl (by simp only[execOp,he];rfl),Le.refl w I β hp,S,dk⟩
  ·obtain⟨e0,es,vers,l,ae,h1,h2,h3,h⟩:=tn h;obtain rfl:=aM h;have dk:=hx;obtain⟨b,o,he,_⟩:=hx.abV ae h1 h2 h3;rw[he]at dk;exact⟨_,w,I,β,.inl (by simp only[execOp,he];rfl),Le.refl w I β hp,S,dk⟩
 case binOp op t x y yt=>
  have hx:=hs.ev hg t x;have hy:=hs.ev hg t y;refine .val (s:=do eqGuard op t x y (a.eval x) (a.eval y);binOp op t (a.eval x) (a.eval y)) rfl ?_;cases jF:aU P A.aC t sl x<;>cases wJ:aU P A.aC t sl y<;>rw[jF,wJ]at h<;>rw[jF]at hx<;>rw[wJ]at hy<;>first|(simp only[nL]at h;cases h;done)|skip
  ·rw[hx.gx,hy.gx];have:=amJ S h;simpa[amG]using this
  ·rw[hx.oo,hy.oo];have:=amL S h;simpa[amH]using this
  ·obtain⟨s1,e1,l1⟩:=hx.pO;obtain⟨s2,e2,l2⟩:=hy.pO;rw[e1,e2];rw[←l1,←l2]at h;have:=amM (t:=t) S h;simpa[amI]using this
  ·simp only[nL]at h;rw[hx.Xd,hy.Xd];cases hu:P.underlying t with
   |none=>rw[hu]at h;cases h
   |some d=>
    rw[hu]at h;cases d<;>(try (cases h;done))
    cases op<;>simp only at h<;>first|(cases h;done)|skip
    ·obtain rfl:=aM h;exact .same S (by simpa[eqGuard]using run_eql_slice_nil w _ _ none 0 0 hu) .bool
    ·obtain rfl:=aM h;exact .same S (by simpa[eqGuard]using run_neq_slice_nil w _ _ none 0 0 hu) .bool
  ·obtain⟨cs,e1,h1,h2⟩:=hx.oq;obtain⟨ds,e2,h3,h4⟩:=hy.oq;rw[e1,e2];exact amN S h1 h3 h2 h4 h
  ·
   simp only[nL]at h;obtain⟨h1,h2⟩:=ay h;clear h;simp only[aG,aN]at h1;obtain⟨rfl,rfl,rfl⟩:=h1;obtain⟨⟨blk,ae,hd⟩,l,h⟩:=Hz h2;obtain⟨b,hb,e1⟩:=hx.jC ae hd;obtain⟨b',au,e2⟩:=hy.jC ae hd;rw[hb]at au;cases au;rw[e1,e2];exact Qg S h (by cases op<;>simp[eqGuard]) fun e j he hj=>⟨run_eql_ptr_same w _ he hj,Lib.run_neq_ptr_same w _ he hj⟩
  ·simp only[nL]at h;obtain⟨⟨blk,ae,hd⟩,l,h⟩:=Hz h;obtain⟨b,_,e1⟩:=hx.jC ae hd;rw[e1,hy.Qf];exact Qg S h (by cases op<;>simp[eqGuard]) fun e j he hj=>⟨atn w t e _ he,ato w t e _ he⟩
  ·simp only[nL]at h;obtain⟨⟨blk,ae,hd⟩,l,h⟩:=Hz h;obtain⟨b,_,e1⟩:=hy.jC ae hd;rw[e1,hx.Qf];exact Qg S h (by cases op<;>simp[eqGuard]) fun e j he hj=>⟨atp w t e _ he,atq w t e _ he⟩
  ·simp only[nL]at h;rw[hx.Qf,hy.Qf];exact Qg S h (by cases op<;>simp[eqGuard]) fun e j he hj=>⟨atr w t e he,ats w t e he⟩
  ·
   simp only[nL]at h;obtain⟨l,h⟩:=run_get h;split at h
   ·rename_i t2 es ae;obtain⟨b,hb⟩:=hx.ate ae;rw[hy.W9,hb];exact afK (a:=some b) S x y h
   ·cases h
  ·simp only[nL]at h;rw[hx.W9,hy.W9];exact afK (a:=none) S x y h
  ·simp only[nL]at h;rename_i e1 es e2;rw[hy.Xd];cases hu:P.underlying t with
   |none=>rw[hu]at h;cases h
   |some d=>
    rw[hu]at h;cases d<;>(try (cases h;done))
    have hv:(es=[]∧a.eval x= .slice none 0 0)∨(es≠[]∧∃b n c,a.eval x= .slice (some b) n c):=by
     generalize a.eval x=u at hx;cases hx with
     |nl q q0=>
      cases q with
      |nil=>exact .inl ⟨rfl,rfl⟩
      |emp=>cases q0 rfl
      |list g b1 c1 d1 e1=>
       by_cases he:es=[]
       ·cases q0 he
       ·exact .inr ⟨he,_,_,_,rfl⟩
    cases op<;>simp only at h<;>first|(cases h;done)|skip
    ·obtain rfl:=aM h;rcases hv with⟨rfl,hv⟩|⟨he,b,n,c,hv⟩
     ·rw[hv];exact .same S (by simpa[eqGuard]using run_eql_slice_nil w _ _ none 0 0 hu) .bool
     ·rw[hv];have:Nat.beq es.length 0=false:=by cases es with|nil=>exact absurd rfl he|cons _ _=>rfl
      rw[this];exact .same S (by simpa[eqGuard]using run_eql_slice_nil w _ _ (some b) n c hu) .bool
    ·obtain rfl:=aM h;rcases hv with⟨rfl,hv⟩|⟨he,b,n,c,hv⟩
     ·rw[hv];exact .same S (by simpa[eqGuard]using run_neq_slice_nil w _ _ none 0 0 hu) .bool
     ·rw[hv];have:Nat.beq es.length 0=false:=by cases es with|nil=>exact absurd rfl he|cons _ _=>rfl
      rw[this];exact .same S (by simpa[eqGuard]using run_neq_slice_nil w _ _ (some b) n c hu) .bool
 case unOp op t x=>exact .val rfl (amO S (hs.ev hg ty x) h)
 case convert src dst x=>
  have hx:=hs.ev hg ty x;refine .val (s:=convert src dst (a.eval x)) rfl ?_;cases lz:P.underlying src with
  |none=>rw[lz]at h;cases h
  |some d1=>
   cases pn:P.underlying dst with
   |none=>rw[lz,pn]at h;cases d1<;>cases h
   |some d2=>
    rw[lz,pn]at h;have kQ:∀{b:Nat} {T:TypeId} {cs:List V} {id:Nat},hp id=some (.var T cs)→β id=some b→w.shape? b=some (T,cs.length):=by
     intro b T cs id ae hb;have hr:=S.h.rel id _ ae;rw[hb]at hr;cases hr with
     |var au hh aZ _ _ _=>cases au;simp[World.shape?,hh,aZ]
    cases d1<;>(try (cases d2<;>cases h;done))
    ·cases d2<;>(try (cases h;done))<;>cases jF:aU P A.aC ty sl x<;>rw[jF]at h hx<;>simp only at h<;>first|(cases h;done)|skip
     ·obtain rfl:=aM h;rw[hx.gx];exact .same S (by simp[convert,run_underlying lz,run_underlying pn,Conv.intToInt]) .int
     ·obtain⟨hc,h⟩:=ay h;obtain rfl:=aM h;rw[hx.gx];exact .same S (run_convert_int_string w src dst _ _ (by simp[lz]) pn) (.str (atm hc))
    ·cases d2<;>(try (cases h;done))
     rename_i u;cases jF:aU P A.aC ty sl x<;>rw[jF]at h hx<;>simp only at h<;>first|(cases h;done)|skip
     rename_i id i c;obtain⟨l,h1⟩:=run_get h;cases ae:hp id with
     |none=>rw[ae]at h1;cases h1
     |some blk=>
      rw[ae]at h1;cases blk<;>simp only at h1<;>first|(cases h1;done)|skip
      rename_i T cs;obtain⟨h2,h3⟩:=ay h1;simp only[aG,aN]at h2;obtain⟨rfl,h4,h5⟩:=h2;obtain⟨b,hb,e1⟩:=hx.jC ae (by simp);obtain rfl:=aM h3;obtain⟨j,hj⟩:=DB.1 h4;have dk:=hx;rw[e1]at dk⊢;exact .same S (Lib.run_from_unsafe w _ lz pn hj (kQ ae hb) (by grind)) dk
    ·cases d2<;>(try (cases h;done))
     rename_i t;cases jF:aU P A.aC ty sl x<;>rw[jF]at h hx<;>simp only at h<;>first|(cases h;done)|skip
     rename_i id i c;obtain⟨l,h1⟩:=run_get h;cases ae:hp id with
     |none=>rw[ae]at h1;cases h1
     |some blk=>
      rw[ae]at h1;cases blk<;>simp only at h1<;>first|(cases h1;done)|skip
      rename_i T cs;obtain⟨h2,h3⟩:=ay h1;simp only[aG,aN,nF]at h2;obtain⟨rfl,h4,h5⟩:=h2;obtain⟨b,hb,e1⟩:=hx.jC ae (by simp);obtain rfl:=aM h3;cases hj:P.info? t with
      |none=>grind
      |some j=>
       rw[hj]at h5;simp only[nG]at h5;have h6:j.size≠0:=fun e=>by simp_all
       have dk:=hx;rw[e1]at dk⊢;exact .same S (Lib.run_to_unsafe w _ lz pn hj h6 (kQ ae hb) (by grind)) dk
    ·rename_i e;cases d2<;>(try (cases h;done))
     simp only at h;cases he:P.underlying e with
     |none=>rw[he]at h;cases h
     |some d3=>
      rw[he]at h;cases d3<;>(try (cases h;done))
      rename_i k;cases k<;>(try (cases h;done))
      exact atl S lz he pn hx h
 case fieldAddr s x f=>exact .val rfl (amP S (hs.ev hg ty x) h)
 case field s x f=>exact .val rfl (asR S (hs.ev hg ty x) h)
 case indexAddr t x y=>exact .val rfl (as0 S (hs.ev hg ty x) (hs.ev hg 0 y) h)
 case index t x y=>
  have hx:=hs.ev hg ty x;have hy:=hs.ev hg 0 y;refine .val (s:=Instr.index t (a.eval x) (a.eval y)) rfl ?_;cases hu:P.underlying t with
  |none=>rw[hu]at h;cases h
  |some d=>
   rw[hu]at h;cases d<;>(try (cases h;done))
   ·cases jF:aU P A.aC ty sl x<;>rw[jF]at h hx<;>(try (cases h;done))
    cases wJ:aU P A.aC 0 sl y<;>rw[wJ]at h hy<;>(try (cases h;done))
    obtain⟨s,e1,l1⟩:=hx.pO;rw[e1,hy.gx];exact asT S hu l1 h
   ·cases jF:aU P A.aC ty sl x<;>rw[jF]at h hx<;>(try (cases h;done))
    cases wJ:aU P A.aC 0 sl y<;>rw[wJ]at h hy<;>(try (cases h;done))
    rw[hy.gx];exact asU S hu hx h
 case slice t x lo hi mx=>
  cases mx with
  |some m=>
   simp only at h;refine .val (s:=Instr.sliceAt t (a.eval x) (lo.map a.eval) (hi.map a.eval) (some (a.eval m))) (by simp[execOp]) (asX S (hs.ev hg ty x) (fun hy=> ?_) (fun y hy=> ?_) (fun y hy=> ?_) h)
   ·simp_all
   ·cases hi with
    |none=>cases hy
    |some l=>cases hy;exact⟨_,rfl,hs.ev hg 0 l⟩
   ·cases hy;exact⟨_,rfl,hs.ev hg 0 m⟩
  |none=>
   simp only at h;have plain:(Nm P t (aU P A.aC ty sl x) (lo.map (aU P A.aC 0 sl)) (hi.map (aU P A.aC 0 sl))).run C hp=some (r,rd)→uF P ((execOp a.eval ⟨dst,.slice t x lo hi none,ty,pos,after,guard⟩).run P w) w I β hp B M w0 r:=by
    intro h;refine .val (s:=Instr.sliceAt t (a.eval x) (lo.map a.eval) (hi.map a.eval) none) (by simp[execOp]) (asW S (hs.ev hg ty x) (fun y hy=> ?_) (fun y hy=> ?_) (fun hy=> ?_) (fun hy=> ?_) h)
    ·cases lo with
     |none=>cases hy
     |some l=>cases hy;exact⟨_,rfl,hs.ev hg 0 l⟩
    ·cases hi with
     |none=>cases hy
     |some l=>cases hy;exact⟨_,rfl,hs.ev hg 0 l⟩
    all_goals simp_all
   have tr:(Nn P nb t (aU P A.aC ty sl x) (lo.map (aU P A.aC 0 sl)) (hi.map (aU P A.aC 0 sl))).run C hp=some (r,rd)→uF P ((execOp a.eval ⟨dst,.slice t x lo hi none,ty,pos,after,guard⟩).run P w) w I β hp B M w0 r:=by
    intro h;refine .val (s:=Instr.sliceAt t (a.eval x) (lo.map a.eval) (hi.map a.eval) none) (by simp[execOp]) (as1 S (hs.ev hg ty x) (fun y hy=> ?_) (fun hy=> ?_) h)
    ·cases hi with
     |none=>cases hy
     |some l=>cases hy;exact⟨_,rfl,hs.ev hg 0 l⟩
    simp_all
   grind
 case extract x i=>
  have hx:=hs.ev hg ty x;cases jF:aU P A.aC ty sl x<;>rw[jF]at h hx<;>simp only at h<;>first|(cases h;done)|skip
  exact .val (s:=Instr.extract (a.eval x) i) rfl (asS S hx h)
 case makeSlice t l c=>
  have hl:=hs.ev hg 0 l;have hc:=hs.ev hg 0 c;refine .val (s:=Instr.makeSlice t (a.eval l) (a.eval c)) rfl ?_;cases hu:P.underlying t with
  |none=>rw[hu]at h;cases h
  |some d=>
   rw[hu]at h;cases d<;>(try (cases h;done))
   cases Xh:aU P A.aC 0 sl l<;>rw[Xh]at h hl<;>(try (cases h;done))
   cases B3:aU P A.aC 0 sl c<;>rw[B3]at h hc<;>(try (cases h;done))
   rw[hl.gx,hc.gx];cases dst with
   |none=>exact afn S hu h
   |some d=>
    simp only at h;cases hg:jh A.um d with
    |true=>rw[hg]at h;exact asB S hu h
    |false=>rw[hg]at h;exact afn S hu h
 case call c=>
  obtain⟨callee,args,argTypes⟩:=c;cases callee with
  |invoke r m=>cases h
  |value f=>
   cases f with
   |func f=>cases Xg
   |tmp f=>cases Xg
   |_=>cases h
  |builtin b=>
   have one:∀{x:Operand},args.toList=[x]→args= #[x]:=fun h=>by grind
   have yx:∀(s:Array TypeId→TypeId→Array Value→Sem Value),builtin b argTypes ty (args.map fun| .const _=>true|_=>false) (args.map a.eval)=(do Pure.pure (Next.value (←s argTypes ty (args.map a.eval))))→
     execOp a.eval ⟨dst,.call ⟨.builtin b,args,argTypes⟩,ty,pos,after,guard⟩=(do Pure.pure (Next.value (←s argTypes ty (args.map a.eval)))):=by
    intro s hb;simp only[execOp,resolve,pure_bind,invoke];exact hb
   cases b<;>(try (cases h;done))
   case append=>
    simp only at h;cases ha:args.toList with
    |nil=>rw[ha]at h;cases h
    |cons x l=>
     cases l with
     |nil=>rw[ha]at h;cases h
     |cons y l2=>
      cases l2 with
      |cons _ _=>rw[ha]at h;cases h
      |nil=>
       cases gb:argTypes.toList with
       |nil=>rw[ha,gb]at h;cases h
       |cons t l3=>
        cases l3 with
        |nil=>rw[ha,gb]at h;cases h
        |cons u l4=>
         cases l4 with
         |cons _ _=>rw[ha,gb]at h;cases h
         |nil=>
          rw[ha,gb]at h;simp only at h;have e1:args= #[x,y]:=by grind
          have e2:argTypes= #[t,u]:=by grind
          cases hu:P.underlying t with
          |none=>rw[hu]at h;cases h
          |some d=>
           rw[hu]at h;cases d<;>(try (cases h;done))
           cases hc:Nat.beq t u with
           |true=>
            rw[hc]at h;rw[aN]at hc;subst hc;simp only[cond_true]at h;refine .val (yx Builtin.append_ rfl) ?_;rw[e1,e2];cases dst with
            |none=>
             have:=afv (ty:=ty) S hu (hs.ev hg t x) (hs.ev hg t y) h;grind
            |some d=>
             simp only at h;cases wE:jh A.um d with
             |true=>
              rw[wE]at h;have:=asK (ty:=ty) S hu (hs.ev hg t x) (hs.ev hg t y) h;grind
             |false=>
              rw[wE]at h;have:=afv (ty:=ty) S hu (hs.ev hg t x) (hs.ev hg t y) h;grind
           |false=>
            rw[hc]at h;simp only[cond_false]at h;have hy:=hs.ev hg u y;cases vb:P.underlying u with
            |none=>rw[vb]at h;cases h
            |some du=>
             rw[vb]at h;cases du<;>(try (cases h;done))
             cases wJ:aU P A.aC u sl y<;>rw[wJ]at h hy<;>(try (cases h;done))
             simp only at h;obtain⟨hb,h⟩:=ay h;obtain⟨s1,q1,q2⟩:=hy.pO;subst q2;have:=atj (ty:=ty) S hu vb (atu hb) (hs.ev hg t x) h;refine .val (yx Builtin.append_ rfl) ?_;grind
   case len=>
    simp only at h;cases ha:args.toList with
    |nil=>rw[ha]at h;cases h
    |cons x l=>
     cases l with
     |cons _ _=>rw[ha]at h;cases h
     |nil=>
      cases gb:argTypes.toList with
      |nil=>rw[ha,gb]at h;cases h
      |cons t l3=>
       cases l3 with
       |cons _ _=>rw[ha,gb]at h;cases h
       |nil=>
        rw[ha,gb]at h;simp only at h;have e1:args= #[x]:=by grind
        have e2:argTypes= #[t]:=by grind
        have hx:=hs.ev hg ty x;refine .val (yx Builtin.len_ rfl) ?_;rw[e1,e2];cases hu:P.underlying t with
        |none=>rw[hu]at h;cases h
        |some d=>
         rw[hu]at h;cases d<;>(try (cases h;done))
         ·cases jF:aU P A.aC ty sl x<;>rw[jF]at h hx<;>(try (cases h;done))
          have:=ab0 (t:=t) (ty:=ty) S hx (fun l hl=>hu) (fun hn=>absurd rfl (hn _)) h;grind
         ·have h2:(∀l,aU P A.aC ty sl x≠ .str l)∧(Ng P (aU P A.aC ty sl x)).run C hp=some (r,rd):=by
           cases jF:aU P A.aC ty sl x<;>rw[jF]at h<;>first|(cases h;done)|exact⟨fun l=>by simp,h⟩
          have:=ab0 (t:=t) (ty:=ty) S hx (fun l hl=>absurd hl (h2.1 l)) (fun _=>⟨_,hu⟩) h2.2;grind
         ·have h2:(Nl (aU P A.aC ty sl x)).run C hp=some (r,rd):=by
           omega
          have:=atd (t:=t) (ty:=ty) S hu hx h2;grind
   case unsafeSliceData=>
    simp only at h;cases ha:args.toList with
    |nil=>rw[ha]at h;cases h
    |cons x l=>
     cases l with
     |cons _ _=>rw[ha]at h;cases h
     |nil=>
      rw[ha]at h;simp only at h;have e1:args= #[x]:=by grind
      have hx:=hs.ev hg ty x;refine .val (yx Builtin.unsafeSliceData_ rfl) ?_;rw[e1];cases jF:aU P A.aC ty sl x<;>rw[jF]at h hx<;>simp only at h<;>first|(cases h;done)|skip
      rename_i e id;obtain⟨l2,h1⟩:=run_get h;cases ae:hp id with
      |none=>rw[ae]at h1;cases h1
      |some blk=>
       rw[ae]at h1;cases blk<;>simp only at h1<;>first|(cases h1;done)|skip
       rename_i e' es fz;obtain⟨h2,h3⟩:=ay h1;simp only[aG,aN,nF]at h2;obtain⟨rfl,h4⟩:=h2;obtain rfl:=aM h3;have:=atv (ts:=argTypes) (ty:=ty) S hx ae h4;grind
   case unsafeString=>
    simp only at h;cases ha:args.toList with
    |nil=>rw[ha]at h;cases h
    |cons x l=>
     cases l with
     |nil=>rw[ha]at h;cases h
     |cons y l2=>
      cases l2 with
      |cons _ _=>rw[ha]at h;cases h
      |nil=>
       cases gb:argTypes.toList with
       |nil=>rw[ha,gb]at h;cases h
       |cons t l3=>
        cases l3 with
        |nil=>rw[ha,gb]at h;cases h
        |cons u l4=>
         cases l4 with
         |cons _ _=>rw[ha,gb]at h;cases h
         |nil=>
          rw[ha,gb]at h;simp only at h;have e1:args= #[x,y]:=by grind
          have e2:argTypes= #[t,u]:=by grind
          have hx:=hs.ev hg ty x;have hy:=hs.ev hg ty y;cases hu:P.underlying t with
          |none=>rw[hu]at h;cases h
          |some d=>
           rw[hu]at h;cases d<;>(try (cases h;done))
           rename_i e;cases jF:aU P A.aC ty sl x<;>rw[jF]at h hx<;>(try (cases h;done))
           cases wJ:aU P A.aC ty sl y<;>rw[wJ]at h hy<;>(try (cases h;done))
           rename_i id i c k n;cases k<;>(try (cases h;done))
           simp only at h;obtain⟨l2,h1⟩:=run_get h;cases ae:hp id with
           |none=>rw[ae]at h1;cases h1
           |some blk=>
            rw[ae]at h1;cases blk<;>simp only at h1<;>first|(cases h1;done)|skip
            rename_i e' es fz;cases fz<;>simp only at h1<;>first|(cases h1;done)|skip
            obtain⟨h2,h3⟩:=ay h1;simp only[aG,aN,gG,jf]at h2;obtain⟨rfl,h4,rfl,rfl,h5,h6,h7,h8⟩:=h2;obtain rfl:=aM h3;have:=atA (u:=u) (ty:=ty) S hu h4 hx ae h5 h6 h7 h8;refine .val (yx Builtin.unsafeString_ rfl) ?_;rw[e1,e2];simpa[hy.gx]using this
   case copy=>
    simp only at h;cases ha:args.toList with
    |nil=>rw[ha]at h;cases h
    |cons x l=>
     cases l with
     |nil=>rw[ha]at h;cases h
     |cons y l2=>
      cases l2 with
      |cons _ _=>rw[ha]at h;cases h
      |nil=>
       cases gb:argTypes.toList with
       |nil=>rw[ha,gb]at h;cases h
       |cons t l3=>
        cases l3 with
        |nil=>rw[ha,gb]at h;cases h
        |cons u l4=>
         cases l4 with
         |cons _ _=>rw[ha,gb]at h;cases h
         |nil=>
          rw[ha,gb]at h;simp only at h;have e1:args= #[x,y]:=by grind
          have e2:argTypes= #[t,u]:=by grind
          cases hu:P.underlying t with
          |none=>rw[hu]at h;cases h
          |some d=>
           rw[hu]at h;cases d<;>(try (cases h;done))
           have:=asH (u:=u) (ty:=ty) S hu (hs.ev hg t x) (hs.ev hg u y) h;refine .val (yx Builtin.copy_ rfl) ?_;grind
   case clear=>
    simp only at h;cases ha:args.toList with
    |nil=>rw[ha]at h;cases h
    |cons x l=>
     cases l with
     |cons _ _=>rw[ha]at h;cases h
     |nil=>
      cases gb:argTypes.toList with
      |nil=>rw[ha,gb]at h;cases h
      |cons t l3=>
       cases l3 with
       |cons _ _=>rw[ha,gb]at h;cases h
       |nil=>
        rw[ha,gb]at h;simp only at h;have e1:args= #[x]:=by grind
        have e2:argTypes= #[t]:=by grind
        cases hu:P.underlying t with
        |none=>rw[hu]at h;cases h
        |some d=>
         rw[hu]at h;cases d<;>(try (cases h;done))
         have:=asI (ty:=ty) S hu (hs.ev hg t x) h;refine .val (yx Builtin.clear_ rfl) ?_;grind
   case max=>
    simp only at h;cases ha:args.toList with
    |nil=>rw[ha]at h;cases h
    |cons x l=>
     rw[ha]at h;simp only at h;have:=WV S true (vs:=l.map a.eval) (xs:=l.map (aU P A.aC ty sl)) (hs.ev hg ty x) (by simp) (fun j u y hu hy=>by
      simp only[jX]at hu hy;cases hl:l[j]? with
      |none=>grind
      |some z=>rw[hl]at hu hy;cases hu;cases hy;exact hs.ev hg ty z) h
     refine .val (yx Builtin.max_ rfl) ?_;simpa[Builtin.max_,ha]using this
   case min=>
    simp only at h;cases ha:args.toList with
    |nil=>rw[ha]at h;cases h
    |cons x l=>
     rw[ha]at h;simp only at h;have:=WV S false (vs:=l.map a.eval) (xs:=l.map (aU P A.aC ty sl)) (hs.ev hg ty x) (by simp) (fun j u y hu hy=>by
      simp only[jX]at hu hy;cases hl:l[j]? with
      |none=>grind
      |some z=>rw[hl]at hu hy;cases hu;cases hy;exact hs.ev hg ty z) h
     refine .val (yx Builtin.min_ rfl) ?_;simpa[Builtin.min_,ha]using this
end
section
variable {P:Program}{A:dz}{w w':World}{I I' I2:Nat→Nat→Prop}{μ β β':Nat→Option Nat}{hp hp':Nat→Option ag}{C:af}{B:Nat}{M:Nat→Prop}{w0:Start}
theorem B8:∀{l m:List Nat},gr.tj l m=true→l=m
 | [],[],_=>rfl
 | [],_::_,h=>by cases h
 |_::_,[],h=>by cases h
 |a::l,b::m,h=>by
  simp only[gr.tj,aG,aN]at h;rw[h.1,B8 h.2]
@[simp] theorem afO (n:Nat):pL (gJ n)=n:=by simp[pL,gJ,V.toInt]
theorem Qi:∀(path:List (Nat×Nat)) (rest:List V),G9 (path.map (·.2)) ((path.map fun p=>gJ p.1)++rest)=path
 | [],_=>rfl
 |p::l,rest=>by
  simp only[mc,List.cons_append,G9,V.nth,afO,List.drop_succ_cons,y9,Qi l rest]
theorem Qj{l:LS}{x:V}{ds:List V}(h:gr l x=some ds):ds.length=l.size∧(l= .xt∨∀rest,mf l (ds++rest)=x):=by
 cases l with
 |xt=>simp only[gr,eU]at h;subst h;exact⟨rfl,.inl rfl⟩
 |int k=>
  cases x<;>simp only[gr]at h<;>first|(cases h;done)|skip
  rename_i k' n;by_cases hk:k=k'
  ·subst hk;simp only[decide_true,cond_true,eU]at h;subst h;exact⟨rfl,.inr fun _=>rfl⟩
  grind
 |bool=>
  cases x<;>simp only[gr]at h<;>first|(cases h;done)|skip
  cases h;exact⟨rfl,.inr fun _=>rfl⟩
 |str=>
  cases x<;>simp only[gr]at h<;>first|(cases h;done)|skip
  cases h;exact⟨rfl,.inr fun _=>rfl⟩
 |list e=>
  cases x<;>simp only[gr]at h<;>first|(cases h;done)|skip
  rename_i e' es;cases hb:Nat.beq e e' with
  |false=>grind
  |true=>
   rw[hb]at h;rw[aN]at hb;subst hb;cases h;exact⟨rfl,.inr fun _=>rfl⟩
 |whole e j=>
  cases x<;>simp only[gr]at h<;>first|(cases h;done)|skip
  rename_i e' id;cases hb:(Nat.beq e e'&&Nat.beq j id)with
  |false=>grind
  |true=>
   rw[hb]at h;simp only[aG,aN]at hb;obtain⟨rfl,rfl⟩:=hb;cases h;exact⟨rfl,.inr fun _=>rfl⟩
 |sub e j=>
  cases x<;>simp only[gr]at h<;>first|(cases h;done)|skip
  rename_i e' id o n;cases hb:(Nat.beq e e'&&Nat.beq j id)with
  |false=>grind
  |true=>
   rw[hb]at h;simp only[aG,aN]at hb;obtain⟨rfl,rfl⟩:=hb;cases h;exact⟨rfl,.inr fun _=>by simp[mf,V.nth]⟩
 |ptr j=>
  cases x<;>simp only[gr]at h<;>first|(cases h;done)|skip
  rename_i id i c;cases hb:(Nat.beq j id)with
  |false=>grind
  |true=>
   rw[hb]at h;rw[aN]at hb;subst hb;cases h;exact⟨rfl,.inr fun _=>by simp[mf,V.nth]⟩
 |az j i c=>
  cases x<;>simp only[gr]at h<;>first|(cases h;done)|skip
  rename_i id i' c';cases hb:(Nat.beq j id&&(Nat.beq i i'&&Nat.beq c c'))with
  |false=>grind
  |true=>
   rw[hb]at h;simp only[aG,aN]at hb;obtain⟨rfl,rfl,rfl⟩:=hb;cases h;exact⟨rfl,.inr fun _=>rfl⟩
 |nilS e=>
  cases x<;>simp only[gr]at h<;>first|(cases h;done)|skip
  rename_i e';cases hb:Nat.beq e e' with
  |false=>grind
  |true=>
   rw[hb]at h;rw[aN]at hb;subst hb;cases h;exact⟨rfl,.inr fun _=>rfl⟩
 |nl e=>
  cases x<;>simp only[gr]at h<;>first|(cases h;done)|skip
  rename_i e' es;cases hb:Nat.beq e e' with
  |false=>grind
  |true=>
   rw[hb]at h;rw[aN]at hb;subst hb;cases h;exact⟨rfl,.inr fun _=>rfl⟩
 |eV=>
  cases x<;>simp only[gr]at h<;>first|(cases h;done)|skip
  cases h;exact⟨rfl,.inr fun _=>rfl⟩
 |cK e j=>
  cases x<;>simp only[gr]at h<;>first|(cases h;done)|skip
  rename_i e' id;cases hb:(Nat.beq e e'&&Nat.beq j id)with
  |false=>grind
  |true=>
   rw[hb]at h;simp only[aG,aN]at hb;obtain⟨rfl,rfl⟩:=hb;cases h;exact⟨rfl,.inr fun _=>rfl⟩
 |ff e=>
  cases x<;>simp only[gr]at h<;>first|(cases h;done)|skip
  rename_i e';cases hb:Nat.beq e e' with
  |false=>grind
  |true=>
   rw[hb]at h;rw[aN]at hb;subst hb;cases h;exact⟨rfl,.inr fun _=>rfl⟩
 |DF k n=>
  cases x<;>simp only[gr]at h<;>first|(cases h;done)|skip
  rename_i k' m;cases hb:(decide (k=k')&&decide (m=n))with
  |false=>grind
  |true=>
   rw[hb]at h;simp only[aG,jf]at hb;obtain⟨rfl,rfl⟩:=hb;cases h;exact⟨rfl,.inr fun _=>rfl⟩
 |M5 b=>
  cases x<;>simp only[gr]at h<;>first|(cases h;done)|skip
  rename_i c;cases hb:decide (b=c)with
  |false=>grind
  |true=>
   rw[hb]at h;obtain rfl:=Gz hb;cases h;exact⟨rfl,.inr fun _=>rfl⟩
 |row e j cs=>
  cases x<;>simp only[gr]at h<;>first|(cases h;done)|skip
  rename_i e' id ver path;cases hb:(Nat.beq e e'&&(Nat.beq j id&&(Nat.beq ver 0&&gr.tj cs (path.map (·.2)))))with
  |false=>grind
  |true=>
   rw[hb]at h;simp only[aG,aN]at hb;obtain⟨rfl,rfl,rfl,uG⟩:=hb;have:=B8 uG;subst this;cases h;exact⟨by simp[LS.size],.inr fun rest=>by simp only[mf,Qi]⟩
 |dH j cs c=>
  cases x<;>simp only[gr]at h<;>first|(cases h;done)|skip
  rename_i id ver path i c';cases hb:(Nat.beq j id&&(Nat.beq ver 0&&(Nat.beq c c'&&gr.tj cs (path.map (·.2)))))with
  |false=>grind
  |true=>
   rw[hb]at h;simp only[aG,aN]at hb;obtain⟨rfl,rfl,rfl,uG⟩:=hb;have:=B8 uG;subst this;cases h;exact⟨by simp[LS.size],.inr fun rest=>by simp only[mf,List.cons_append,V.nth,afO,List.drop_succ_cons,y9,Qi]⟩
def LS.below(n:Nat)(x:V):Prop:= ∀id∈fQ x,id<n
def afP:V→Prop
 | .agg _=>False
 | .bf _=>False
 | .fn .. =>False
 | .pref .. =>False
 |_=>True
theorem B9{c:Bool}{a d:List V}(h:(bif c then some a else none)=some d):c=true:=by
 grind
theorem atD{l:LS}{x:V}{ds:List V}{n:Nat}(h:gr l x=some ds)(hl:l≠ .xt)(ao:l.ok n=true):afP x∧LS.below n x:=by
 cases l<;>cases x<;>simp only[gr]at h<;>first|(cases h;done)|(exact absurd rfl hl)|skip
 all_goals refine⟨trivial,fun id ae=> ?_⟩
 all_goals simp only[fQ,jV,List.not_mem_nil]at ae
 all_goals subst ae
 all_goals simp only[LS.ok,nF]at ao
 all_goals
  have hb:=B9 h;simp_all
theorem ai.atE{v:Value}{x:V}(h:ai P w I β hp v x)(hx:afP x)(hs:∀id∈fQ x,hp' id=hp id∧β' id=β id):ai P w I β' hp' v x:=by
 have one:∀{id},id∈fQ x→hp' id=hp id∧β' id=β id:=fun h=>hs _ h;cases h with
 |undef=>exact .undef
 |int=>exact .int
 |bool=>exact .bool
 |str h=>exact .str h
 |list h=>exact .list h
 |nilS=>exact .nilS
 |nl h h0=>exact .nl h h0
 |agg=>exact hx.elim
 |bf=>exact hx.elim
 |eV=>exact .eV
 |fn=>exact hx.elim
 |pref=>exact hx.elim
 |ei h=>exact .ei ((one (by simp[fQ])).1.trans h)
 |j8 h=>exact .j8 ((one (by simp[fQ])).1.trans h)
 |nP h=>exact .nP ((one (by simp[fQ])).1.trans h)
 |dZ h hb=>exact .dZ ((one (by simp[fQ])).1.trans h) ((one (by simp[fQ])).2.trans hb)
 |whole h hb a b c=>exact .whole ((one (by simp[fQ])).1.trans h) ((one (by simp[fQ])).2.trans hb) a b c
 |dQ h hb a b c=>exact .dQ ((one (by simp[fQ])).1.trans h) ((one (by simp[fQ])).2.trans hb) a b c
 |eA h hb=>exact .eA ((one (by simp[fQ])).1.trans h) ((one (by simp[fQ])).2.trans hb)
 |fK h hb a b c=>exact .fK ((one (by simp[fQ])).1.trans h) ((one (by simp[fQ])).2.trans hb) a b c
 |jz h hb=>exact .jz ((one (by simp[fQ])).1.trans h) ((one (by simp[fQ])).2.trans hb)
 |sub h hb a b c=>exact .sub ((one (by simp[fQ])).1.trans h) ((one (by simp[fQ])).2.trans hb) a b c
 |ptr h hd hb=>exact .ptr ((one (by simp[fQ])).1.trans h) hd ((one (by simp[fQ])).2.trans hb)
 |nQ h yq=>exact .nQ ((one (by simp[fQ])).1.trans h) yq
 |nR h yq=>exact .nR ((one (by simp[fQ])).1.trans h) yq
 |row h hb a b c d=>exact .row ((one (by simp[fQ])).1.trans h) ((one (by simp[fQ])).2.trans hb) a b c d
 |dH h hb a b c d e=>exact .dH ((one (by simp[fQ])).1.trans h) ((one (by simp[fQ])).2.trans hb) a b c d e
 |ff=>exact .ff
 |mj h=>exact .mj ((one (by simp[fQ])).1.trans h)
 |cK h hb=>exact .cK ((one (by simp[fQ])).1.trans h) ((one (by simp[fQ])).2.trans hb)
theorem Qk{a b:List V}{n:Nat}(h:a.length=n):(a++b).drop n=b:=by subst h;simp
def JW(n:Nat)(β:Nat→Option Nat)(hp:Nat→Option ag)(β':Nat→Option Nat)(hp':Nat→Option ag):Prop:= ∀id,id<n→hp' id=hp id∧β' id=β id
theorem afQ{l:LS}{x:V}{ds:List V}{n:Nat}{v:Value}(h:gr l x=some ds)(ao:l.ok n=true)(ld:JW n β hp β' hp')(hv:ai P w I β hp v x)(rest:List V):
  ai P w I β' hp' v (mf l (ds++rest)):=by
 rcases(Qj h).2 with e|e
 ·subst e;exact .undef
 ·rw[e rest];by_cases hu:l= .xt
  ·subst hu;have:x= .undef:=(e rest).symm;subst this;exact .undef
  ·obtain⟨h1,h2⟩:=atD h hu ao;exact hv.atE h1 fun id ae=>ld id (h2 id ae)
theorem JX{n:Nat}(ld:JW n β hp β' hp'):∀{ls:List LS} {xs:List V} {ds:List V},vG ls xs=some ds→ls.all (LS.ok n)=true→
  ds.length=oh ls∧(∀rest,(jx ls (ds++rest)).length=xs.length)∧
  ∀(rest:List V) (j:Nat) (v:Value) (y:V),(∀x,xs[j]? =some x→ai P w I β hp v x)→(jx ls (ds++rest))[j]? =some y→ai P w I β' hp' v y
 | [],[],ds,h,_=>by cases h;exact⟨rfl,fun _=>rfl,fun rest j v y _ hy=>by simp[jx]at hy⟩
 | [],_::_,ds,h,_=>by cases h
 |_::_,[],ds,h,_=>by cases h
 |l::ls,x::xs,ds,h,ao=>by
  simp only[vG]at h;obtain⟨a,h1,h⟩:=bind_some h;obtain⟨b,h2,h⟩:=bind_some h;cases h;simp only[List.all_cons,aG]at ao;obtain⟨i1,i2,i3⟩:=JX ld h2 ao.2;have dx:=(Qj h1).1;have hd:∀rest,(a++b++rest).drop l.size=b++rest:=fun rest=>by grind
  refine⟨by simp only[gY,oh];omega,fun rest=>by simp only[jx,List.length_cons,hd,i2],fun rest j v y hv hy=> ?_⟩;simp only[jx,hd]at hy;cases j with
  |zero=>
   simp at hy;subst hy;exact afQ h1 ao.1 ld (hv x rfl) _
  |succ j=>grind
theorem Xi:∀{ls:List LS} {xs:List V} {ds:List V},vG ls xs=some ds→ls.all LS.plain=true→ds.length=oh ls∧∀rest,jx ls (ds++rest)=xs
 | [],[],ds,h,_=>by cases h;exact⟨rfl,fun _=>rfl⟩
 | [],_::_,ds,h,_=>by cases h
 |_::_,[],ds,h,_=>by cases h
 |l::ls,x::xs,ds,h,ao=>by
  simp only[vG]at h;obtain⟨a,h1,h⟩:=bind_some h;obtain⟨b,h2,h⟩:=bind_some h;cases h;simp only[List.all_cons,aG]at ao;obtain⟨i1,i2⟩:=Xi h2 ao.2;obtain⟨dx,hm⟩:=Qj h1;refine⟨by simp only[gY,oh];omega,fun rest=> ?_⟩;simp only[jx];rw[show(a++b++rest).drop l.size=b++rest by grind,i2,eY];rcases hm with e|e
  ·subst e;cases ao.1
  ·rw[e]
theorem Xj{n:Nat}(ld:JW n β hp β' hp'){s:VS}{x:V}{ds:List V}(h:vH s x=some ds)(ao:s.ok n=true):
  ds.length=s.size∧∀(rest:List V) (v:Value),ai P w I β hp v x→ai P w I β' hp' v (oZ s (ds++rest)):=by
 cases s with
 |one l=>exact⟨(Qj h).1,fun rest v hv=>afQ h ao ld hv rest⟩
 |agg ls=>
  cases x<;>simp only[vH]at h<;>first|(cases h;done)|skip
  rename_i xs;obtain⟨i1,i2,i3⟩:=JX (P:=P) (w:=w) (I:=I) ld h ao;refine⟨i1,fun rest v hv=> ?_⟩;obtain⟨cs,rfl,e1,e2⟩:=hv.oq;exact .agg (by grind) fun j v y hj hy=>i3 rest j v y (fun x hx=>e2 j v x hj hx) hy
 |bf ls=>
  cases x<;>simp only[vH]at h<;>first|(cases h;done)|skip
  rename_i xs;obtain⟨i1,i2,i3⟩:=JX (P:=P) (w:=w) (I:=I) ld h ao;refine⟨i1,fun rest v hv=> ?_⟩;obtain⟨cs,rfl,e1,e2⟩:=hv.Bh;exact .bf (by grind) fun j v y hj hy=>i3 rest j v y (fun x hx=>e2 j v x hj hx) hy
 |fn f a b=>
  cases x<;>simp only[vH]at h<;>first|(cases h;done)|skip
  rename_i f' xs ys;cases hb:Nat.beq f f' with
  |false=>grind
  |true=>
   rw[hb]at h;rw[aN]at hb;subst hb;simp only[cond_true]at h;obtain⟨p,h1,h⟩:=bind_some h;obtain⟨q,h2,h⟩:=bind_some h;cases h;simp only[VS.ok,aG]at ao;obtain⟨i1,i2,i3⟩:=JX (P:=P) (w:=w) (I:=I) ld h1 ao.1;obtain⟨j1,j2,j3⟩:=JX (P:=P) (w:=w) (I:=I) ld h2 ao.2;refine⟨by simp only[gY,VS.size];omega,fun rest v hv=> ?_⟩;cases hv with
   |fn a1 a2 b1 b2=>
    simp only[oZ];rw[show(p++q++rest).drop (oh a)=q++rest by grind,eY];exact .fn (by grind) (fun j v y hj hy=>i3 _ j v y (fun x hx=>a2 j v x hj hx) hy) (by grind) (fun j v y hj hy=>j3 _ j v y (fun x hx=>b2 j v x hj hx) hy)
 |pref ts ls=>
  cases x<;>simp only[vH]at h<;>first|(cases h;done)|skip
  rename_i vJ xs;cases hb:gr.tj ts vJ with
  |false=>grind
  |true=>
   rw[hb]at h;have:=B8 hb;subst this;simp only[cond_true]at h;refine⟨?_,fun rest v hv=> ?_⟩
   ·exact(Xi h ao).1
   ·simp only[oZ];rw[(Xi h ao).2];cases hv with
    |pref hl hI hc=>exact .pref hl hI hc
theorem JY{n:Nat}(ld:JW n β hp β' hp'):∀{ls:List VS} {xs:List V} {ds:List V},xm ls xs=some ds→ls.all (VS.ok n)=true→
  ds.length=zn ls∧(∀rest,(j4 ls (ds++rest)).length=xs.length)∧
  ∀(rest:List V) (j:Nat) (v:Value) (y:V),(∀x,xs[j]? =some x→ai P w I β hp v x)→(j4 ls (ds++rest))[j]? =some y→ai P w I β' hp' v y
 | [],[],ds,h,_=>by cases h;exact⟨rfl,fun _=>rfl,fun rest j v y _ hy=>by simp[j4]at hy⟩
 | [],_::_,ds,h,_=>by cases h
 |_::_,[],ds,h,_=>by cases h
 |l::ls,x::xs,ds,h,ao=>by
  simp only[xm]at h;obtain⟨a,h1,h⟩:=bind_some h;obtain⟨b,h2,h⟩:=bind_some h;cases h;simp only[List.all_cons,aG]at ao;obtain⟨i1,i2,i3⟩:=JY ld h2 ao.2;obtain⟨dx,uN⟩:=Xj (P:=P) (w:=w) (I:=I) ld h1 ao.1;have hd:∀rest,(a++b++rest).drop l.size=b++rest:=fun rest=>by grind
  refine⟨by simp only[gY,zn];omega,fun rest=>by simp only[j4,List.length_cons,hd,i2],fun rest j v y hv hy=> ?_⟩;simp only[j4,hd]at hy;grind
end
section
variable {P:Program}{A:dz}{w w':World}{I I' I2:Nat→Nat→Prop}{μ β β':Nat→Option Nat}{hp hp' hp0:Nat→Option ag}{C:af}{B:Nat}{M:Nat→Prop}{w0:Start}
theorem lQ:∀{l:List ag} {j:Nat},oj l j=l[j]?
 | [],j=>by simp[oj]
 |b::l,0=>rfl
 |b::l,j+1=>by simp only[oj,lQ,List.getElem?_cons_succ]
theorem Xk{sl:Nat→V}{k:Nat}{y:V}:∀{l:List (Nat×VS)} {ds:List V},G7 sl l=some ds→(∀p∈l,∀d,vH p.2 (sl p.1)=some d→d.length=p.2.size)→
  ds.length=uq l∧∀rest,fP (jy l (ds++rest)) k=some y→∃s d kL,(k,s)∈l∧vH s (sl k)=some d∧y=oZ s (d++kL)
 | [],ds,h,_=>by cases h;exact⟨rfl,fun rest h=>by cases h⟩
 |(q,s)::l,ds,h,hz=>by
  simp only[G7]at h;obtain⟨a,h1,h⟩:=bind_some h;obtain⟨b,h2,h⟩:=bind_some h;cases h;obtain⟨i1,i2⟩:=Xk (k:=k) (y:=y) h2 fun p hp=>hz p (jU _ hp);have dx:=hz (q,s) (qz ..) a h1;refine⟨by simp only[gY,uq];simp only at dx;omega,fun rest hl=> ?_⟩;simp only[jy,fP]at hl;rw[show(a++b++rest).drop s.size=b++rest by rw[eY];exact Qk dx]at hl;cases hb:Nat.beq k q with
  |true=>
   rw[hb]at hl;rw[aN]at hb;subst hb;cases hl;exact⟨s,a,b++rest,qz ..,h1,by rw[eY]⟩
  |false=>
   rw[hb]at hl;obtain⟨s',d,kL,m1,m2,m3⟩:=i2 rest hl;exact⟨s',d,kL,jU _ m1,m2,m3⟩
theorem Xl{α:Type}{c:Bool}{x:Option α}{a:α}(h:(bif c then x else none)=some a):c=true∧x=some a:=by
 cases c with
 |true=>exact⟨rfl,h⟩
 |false=>cases h
theorem atF{n:Nat}{b:BS}{o:Option ag}{ds:List V}(h:pM b o=some ds)(ao:b.ok n=true):ds.length=b.size:=by
 cases b with
 |dead=>cases o<;>(cases h;rfl)
 |var T0 ls=>
  cases o with
  |none=>cases h
  |some blk=>
   cases blk<;>simp only[pM]at h<;>first|(cases h;done)|skip
   exact(JY (P:=default) (w:=default) (I:=fun _ _=>False) (β:=fun _=>none) (hp:=fun _=>none) (fun _ _=>⟨rfl,rfl⟩) (Xl h).2 ao).1
 |arr e fz=>
  cases o with
  |none=>cases h
  |some blk=>
   cases blk<;>simp only[pM]at h<;>first|(cases h;done)|skip
   rw[B9 h]at h;cases h;rfl
 |nest e=>
  cases o with
  |none=>cases h
  |some blk=>
   cases blk<;>simp only[pM]at h<;>first|(cases h;done)|skip
   rw[B9 h]at h;cases h;rfl
 |map t=>
  cases o with
  |none=>cases h
  |some blk=>
   cases blk<;>simp only[pM]at h<;>first|(cases h;done)|skip
   rw[B9 h]at h;cases h;rfl
theorem afR{n:Nat}:∀{l:List BS} {j:Nat} {ds:List V},G8 hp j l=some ds→l.all (BS.ok n)=true→
  (∀rest,(iM l (ds++rest)).length=l.length)∧∀(rest:List V) (i:Nat) (blk:ag),(iM l (ds++rest))[i]? =some blk→∃b d kL,l[i]? =some b∧b.ok n=true∧pM b (hp (j+i))=some d∧blk=jm b (d++kL)
 | [],j,ds,h,_=>by cases h;exact⟨fun _=>rfl,fun rest i blk hb=>by simp[iM]at hb⟩
 |b::l,j,ds,h,ao=>by
  simp only[G8]at h;obtain⟨a,h1,h⟩:=bind_some h;obtain⟨c,h2,h⟩:=bind_some h;cases h;simp only[List.all_cons,aG]at ao;obtain⟨i1,i2⟩:=afR h2 ao.2;have dx:=atF h1 ao.1;have hd:∀rest,(a++c++rest).drop b.size=c++rest:=fun rest=>by rw[eY];exact Qk dx
  refine⟨fun rest=>by simp only[iM,List.length_cons,hd,i1],fun rest i blk hb=> ?_⟩;simp only[iM,hd]at hb;cases i with
  |zero=>
   simp at hb;exact⟨b,a,c++rest,rfl,ao.1,h1,by rw[←hb]⟩
  |succ i=>
   obtain⟨b',d,kL,m1,m2,m3,m4⟩:=i2 rest i blk (by simpa using hb);exact⟨b',d,kL,by simpa using m1,m2,by rw[show j+(i+1)=j+1+i by omega];exact m3,m4⟩
theorem atG{n:Nat}{b:BS}{blk:ag}{ds rest:List V}(h:pM b (some blk)=some ds)(ao:b.ok n=true):
  blk.le (jm b (ds++rest))∧(jm b (ds++rest)= .dead∨jm b (ds++rest)=blk∨∃T ls cs,b= .var T ls∧blk= .var T cs∧xm ls cs=some ds∧jm b (ds++rest)= .var T (j4 ls (ds++rest))):=by
 cases b with
 |dead=>exact⟨by cases blk<;>trivial,.inl rfl⟩
 |var T0 ls=>
  cases blk<;>simp only[pM]at h<;>first|(cases h;done)|skip
  obtain⟨hT,h0⟩:=Xl h;clear h;rw[aN]at hT;subst hT;exact⟨rfl,.inr (.inr ⟨_,_,_,rfl,rfl,h0,rfl⟩)⟩
 |arr e fz=>
  cases blk<;>simp only[pM]at h<;>first|(cases h;done)|skip
  rename_i e' es qM;have hb:=B9 h;simp only[aG,aN,beq_iff_eq]at hb;obtain⟨rfl,rfl⟩:=hb;simp only[oX,beq_self_eq_true,Bool.and_self,cond_true,eU]at h;subst h;exact⟨⟨rfl,rfl⟩,.inr (.inl rfl)⟩
 |nest e=>
  cases blk<;>simp only[pM]at h<;>first|(cases h;done)|skip
  rename_i e' es vers;have hb:=B9 h;simp only[aG,aN]at hb;obtain⟨rfl,hv⟩:=hb;have:=B8 hv;subst this;simp only[oX,Bool.true_and]at h;cases h;exact⟨⟨rfl,rfl,rfl,fun _=>aW _⟩,.inr (.inl rfl)⟩
 |map t=>
  cases blk<;>simp only[pM]at h<;>first|(cases h;done)|skip
  rename_i t' es;have hb:=B9 h;rw[aN]at hb;subst hb;simp only[oX,cond_true,eU]at h;subst h;exact⟨rfl,.inr (.inl rfl)⟩
theorem afS{m:Nat}{S:Shape}{st:St}{ds:List V}(h:mX m S st=some ds):
  S.ok=true∧m≤S.db.length∧∃a b,G7 st.sl S.ch=some a∧G8 st.hp 0 S.db=some b∧ds=a++b:=by
 unfold mX at h;cases hc:(S.ok&&Nat.ble m S.db.length)with
 |false=>rw[hc]at h;cases h
 |true=>
  rw[hc]at h;simp only[cond_true]at h;simp only[aG,gG]at hc;obtain⟨a,h1,h⟩:=bind_some h;obtain⟨b,h2,h⟩:=bind_some h;cases h;exact⟨hc.1,hc.2,a,b,h1,h2,rfl⟩
theorem reshape{m:Nat}{S:Shape}{st:St}{ds:List V}(h:mX m S st=some ds)(hS:ax P w I β st.hp B M w0):
  ax P w I β (bL S ds).hp B M w0∧(∀(k:Nat) (v:Value),ai P w I β st.hp v (st.sl k)→ai P w I β (bL S ds).hp v ((bL S ds).sl k))∧
  (∀(μ:Nat→Option Nat) (hp0:Nat→Option ag),(∀id blk,hp0 id=some blk→id<m)→Le P w0.w w0.I μ hp0 w I β st.hp→Le P w0.w w0.I μ hp0 w I β (bL S ds).hp)∧
  ∀j blk',(bL S ds).hp j=some blk'→blk'≠ .dead→∃blk,st.hp j=some blk∧blk.le blk'∧∀o b,bm P w o blk' b→bm P w o blk b:=by
 obtain⟨ao,hm,a,b,h1,h2,rfl⟩:=afS h;unfold Shape.ok at ao;rw[aG]at ao;obtain⟨qh,afz⟩:=ao;have aZ:∀p∈S.ch,∀d,vH p.2 (st.sl p.1)=some d→d.length=p.2.size:=fun p hp d hd=>
  (Xj (P:=P) (w:=w) (I:=I) (β:=β) (hp:=st.hp) (fun _ _=>⟨rfl,rfl⟩) hd (im.1 qh p hp)).1
 have dx:a.length=uq S.ch:=(Xk (k:=0) (y:= .undef) h1 aZ).1;have P8:(bL S (a++b)).hp=oj (iM S.db (b++[])):=by
  simp only[bL,mk,nJ];rw[Qk dx]
 obtain⟨bl,bg⟩:=afR h2 afz;have get:∀j blk',(bL S (a++b)).hp j=some blk'→j<S.db.length∧∃bs d kL,bs.ok S.db.length=true∧pM bs (st.hp j)=some d∧blk'=jm bs (d++kL):=by
  intro j blk' hj;rw[P8,lQ]at hj;obtain⟨bs,d,kL,m1,m2,m3,m4⟩:=bg [] j blk' hj;rw[dP]at m3;exact⟨(cw.1 m1).1,bs,d,kL,m2,m3,m4⟩
 have have':∀j,j<S.db.length→∃blk',(bL S (a++b)).hp j=some blk':=by
  intro j hj;rw[P8,lQ];exact⟨_,bX (by rw[bl];exact hj)⟩
 generalize gv:(bL S (a++b)).hp=Cc at*
 let bK:Nat→Option ag:=fun id=>if id<S.db.length then Cc id else st.hp id
 have back:∀j blk',Cc j=some blk'→blk'≠ .dead→∃blk,st.hp j=some blk∧blk.le blk'∧(blk'=blk∨∃T ls cs d kL,ls.all (VS.ok S.db.length)=true∧blk= .var T cs∧xm ls cs=some d∧blk'= .var T (j4 ls (d++kL))):=by
  intro j blk' hj hd;obtain⟨dt,bs,d,kL,m1,m2,m3⟩:=get j blk' hj;cases cv:st.hp j with
  |none=>
   rw[cv]at m2;cases bs<;>simp only[pM]at m2<;>first|(cases m2;done)|skip
   exact absurd m3 hd
  |some blk=>
   rw[cv]at m2;obtain⟨n1,n2⟩:=atG (rest:=kL) m2 m1;rw[←m3]at n1 n2;refine⟨blk,rfl,n1,?_⟩;rcases n2 with e|e|⟨T,ls,cs,e1,e2,e3,e4⟩
   ·exact absurd e hd
   ·exact .inl e
   ·subst e1;exact .inr ⟨T,ls,cs,d,kL,m1,e2,e3,e4⟩
 have le1:∀j blk,st.hp j=some blk→j<S.db.length→∃blk',Cc j=some blk'∧blk.le blk':=by
  intro j blk hj dt;obtain⟨blk',au⟩:=have' j dt;refine⟨blk',au,?_⟩;by_cases hd:blk'= .dead
  ·subst hd;cases blk<;>trivial
  ·obtain⟨cC,e1,e2,_⟩:=back j blk' au hd;rw[hj]at e1;cases e1;exact e2
 have atH:∀j e es vers e' aI vers',st.hp j=some (.nest e es vers)→Cc j=some (.nest e' aI vers')→e'=e∧aI=es∧vers'=vers:=by
  intro j e es vers e' aI vers' hj iY;obtain⟨blk,e1,_,e3⟩:=back j _ iY (by simp);rw[hj]at e1;cases e1;rcases e3 with e3|⟨_,_,_,_,_,_,e3,_⟩
  ·cases e3;exact⟨rfl,rfl,rfl⟩
  ·cases e3
 have hle:Le P w I β st.hp w I β bK:=by
  refine⟨fun _ _ h=>h,fun _ _ _=>rfl,fun id blk ae=> ?_,fun _ _ _ _ _ _ _ _=>rfl,Le.xJ (fun _ _ _ _ _ _=>rfl) fun id e es vers e' aI vers' ae bU=> ?_⟩
  ·by_cases hl:id<S.db.length
   ·obtain⟨blk',e1,e2⟩:=le1 id blk ae hl;exact⟨blk',by simp only[bK,aF hl];exact e1,e2,fun _=>rfl⟩
   ·exact⟨blk,by simp only[bK,aD hl];exact ae,ag.le_refl _,fun _=>rfl⟩
  ·by_cases hl:id<S.db.length
   ·simp only[bK,aF hl]at bU;exact atH _ _ _ _ _ _ _ ae bU
   ·simp only[bK,aD hl]at bU;rw[ae]at bU;cases bU;exact⟨rfl,rfl,rfl⟩
 have ld:JW S.db.length β bK β Cc:=fun id ae=>⟨by simp only[bK,aF ae],rfl⟩
 have vR:∀j blk' blk o b,Cc j=some blk'→st.hp j=some blk→bm P w o blk' b→bm P w o blk b:=by
  intro j blk' blk o b iY hj ho;obtain⟨cC,e1,_,e3⟩:=back j blk' iY ho.alive;rw[hj]at e1;cases e1;rcases e3 with e3|⟨T,ls,cs,d,kL,_,e3,_,e5⟩
  ·subst e3;exact ho
  ·subst e3;subst e5;exact .root (by simp) (ho.flat (by simp))
 refine⟨⟨⟨fun j blk' hj=> ?_,fun j1 j2 b1 b2 b' e1 e2 o1 o2=> ?_,fun j blk b' hj ho=> ?_,hS.h.kC⟩,hS.cM,hS.size,hS.new,hS.io⟩,fun k v hv=> ?_,fun μ hp0 aO hE=> ?_,fun j blk' hj hd=> ?_⟩
 ·by_cases hd:blk'= .dead
  ·subst hd;exact .dead
  ·obtain⟨blk,e1,_,e3⟩:=back j blk' hj hd;have hr:=hS.h.rel j blk e1;generalize β j=o at hr;rcases e3 with e3|⟨T0,ls,cs,d,kL,q1,e3,e4,e5⟩
   ·subst e3;cases hr with
    |@var xs b' Ca T hb hh hs dq hx jo=>
     obtain⟨dt,bs,d,kL,m1,m2,m3⟩:=get j _ hj;rw[e1]at m2;cases bs<;>simp only[pM]at m2<;>first|(cases m2;done)|skip
     ·rename_i T0 ls;simp only[jm]at m3;obtain⟨hT,m2⟩:=Xl m2;obtain⟨i1,i2,i3⟩:=JY (P:=P) (w:=w) (I:=I) ld m2 m1;injection m3 with m4 m3;rw[m3];exact .var hb hh (by rw[i2];exact hs) dq (fun i v y hi hy=>i3 kL i v y (fun x dk=>(hx i v x hi dk).mono hle) hy) jo
     ·simp only[jm]at m3;cases m3
    |eM hb=>exact .eM hb
    |arr a0 a1 a2 a3 a4 a5 a6 a7=>exact .arr a0 a1 a2 a3 a4 a5 a6 a7
    |dead=>exact absurd rfl hd
    |nest a1 a2 a3=>exact .nest a1 a2 a3
    |jA a1=>exact .jA a1
    |out a1 a2 a3 a4 a5 a6 a7 a8 a9 a10=>exact .out a1 a2 a3 a4 a5 a6 a7 a8 a9 a10
    |map a1 a2 a3 a4 a5 a6 a7=>exact .map a1 a2 a3 a4 a5 a6 a7
   ·subst e3;subst e5;cases hr with
    |@var xs b' Ca T hb hh hs dq hx jo=>
     obtain⟨i1,i2,i3⟩:=JY (P:=P) (w:=w) (I:=I) ld e4 q1;exact .var hb hh (by rw[i2];exact hs) dq (fun i v y hi hy=>i3 kL i v y (fun x dk=>(hx i v x hi dk).mono hle) hy) jo
 ·obtain⟨c1,x1,_,_⟩:=back j1 b1 e1 o1.alive;obtain⟨c2,x2,_,_⟩:=back j2 b2 e2 o2.alive;exact hS.h.inj j1 j2 c1 c2 b' x1 x2 (vR _ _ _ _ _ e1 x1 o1) (vR _ _ _ _ _ e2 x2 o2)
 ·obtain⟨c1,x1,_,_⟩:=back j blk hj ho.alive;exact hS.h.own j c1 b' x1 (vR _ _ _ _ _ hj x1 ho)
 ·change ai P w I β Cc v (nO (jy S.ch (a++b)) k);unfold nO;cases Js:fP (jy S.ch (a++b)) k with
  |none=>exact .undef
  |some y=>
   obtain⟨s,d,kL,n1,n2,n3⟩:=(Xk h1 aZ).2 b Js;simp only[Option.getD_some,n3];exact(Xj (P:=P) (w:=w) (I:=I) ld n2 (im.1 qh _ n1)).2 kL v (hv.mono hle)
 ·have h3:=hE.trans hle;refine⟨h3.eD,h3.cM,fun id blk ae=> ?_,fun id blk blk' b' ae bU hd hb=> ?_,fun id e es vers e' aI vers' b2 q i c t v e1 l ae bU=> ?_⟩
  ·have hl:=aO id blk ae;obtain⟨blk',k1,k2,k3⟩:=h3.blk id blk ae;simp only[bK,aF (show id<S.db.length by omega)]at k1;exact⟨blk',k1,k2,k3⟩
  ·have hl:=aO id blk ae;exact h3.size id blk blk' b' ae (by simp only[bK,aF (show id<S.db.length by omega)];exact bU) hd hb
  ·have hl:=aO id _ ae;exact h3.row id e es vers e' aI vers' b2 q i c t v e1 l ae (by simp only[bK,aF (show id<S.db.length by omega)];exact bU)
 ·obtain⟨blk,e1,e2,_⟩:=back j blk' hj hd;exact⟨blk,e1,e2,fun o b' ho=>vR _ _ _ _ _ hj e1 ho⟩
end
section
variable {P:Program}{A:dz}{w w':World}{I I' I2:Nat→Nat→Prop}{μ β β':Nat→Option Nat}{hp hp' hp0:Nat→Option ag}{C:af}{B:Nat}{M:Nat→Prop}{w0:Start}
inductive gC(P:Program)(w:World)(β:Nat→Option Nat)(hp:Nat→Option ag):Place→Option Nat→ag→Prop
 |var {id:Nat} {T:TypeId} {cs Xm:List V}:hp id=some (.var T cs)→gC P w β hp (.blk id) (β id) (.var T Xm)
 |arr {id:Nat} {e:TypeId} {es:List V} {fz:Bool}:hp id=some (.arr e es fz)→gC P w β hp (.blk id) (β id) (.arr e es fz)
 |nest {id:Nat} {e:TypeId} {es:List V} {vers:List Nat}:hp id=some (.nest e es vers)→gC P w β hp (.blk id) (β id) (.nest e es [0,0,0])
 |row {id ver b b':Nat} {path:Path} {e0 e':TypeId} {es l:List V} {vers:List Nat}:hp id=some (.nest e0 es vers)→β id=some b→At P w b e0 es path b' e' l→G6 P e'=true→
   0<path.length→path.length≤vers.length→bG vers (path.length-1)=ver→0<l.length→gC P w β hp (.row id ver path) (some b') (.arr e' l false)
 |map {id:Nat} {t:TypeId} {es:List V}:hp id=some (.map t es)→gC P w β hp (.blk id) (β id) (.map t es)
def JZ(P:Program)(w:World)(β:Nat→Option Nat)(hp:Nat→Option ag)(ρ:List Place)(μ:Nat→Option Nat)(hp0:Nat→Option ag):Prop:=
 ∀j p,gK ρ j=some p→∃blk,hp0 j=some blk∧gC P w β hp p (μ j) blk
theorem vc:∀{l m:List Place} {j:Nat} {p:Place},gK l j=some p→gK (l++m) j=some p
 | [],m,j,p,h=>by cases h
 |a::l,m,0,p,h=>h
 |a::l,m,j+1,p,h=>vc (l:=l) h
theorem rH:∀{l:List Place} {j:Nat},gK l j=l[j]?
 | [],j=>by simp[gK]
 |a::l,0=>rfl
 |a::l,j+1=>by simp only[gK,rH,List.getElem?_cons_succ]
def atI(hp:Nat→Option ag)(q:Nat×ag):Prop:=DU hp q∨∃T cs,q.2= .var T cs∧hp q.1=some (.var T cs)
structure Ext(P:Program)(w:World)(I:Nat→Nat→Prop)(β:Nat→Option Nat)(hp:Nat→Option ag)(h h':Hand)(d:List V)(u:List (Nat×ag)):Prop where
 ds:h'.ds=h.ds++d
 upd:h'.upd=h.upd++u
 Ql:∀q∈u,atI hp q
 pl:∃m,h'.pl=h.pl++m
 nodup:(h.pl.map Place.id).Nodup→(h'.pl.map Place.id).Nodup
theorem Ext.refl(h:Hand):Ext P w I β hp h h [] []:=⟨by simp,by simp,by simp,⟨[],by simp⟩,id⟩
theorem Ext.trans{h1 h2 h3:Hand}{d1 d2:List V}{u1 u2:List (Nat×ag)}(a:Ext P w I β hp h1 h2 d1 u1)(b:Ext P w I β hp h2 h3 d2 u2):Ext P w I β hp h1 h3 (d1++d2) (u1++u2):=by
 obtain⟨m1,e1⟩:=a.pl;obtain⟨m2,e2⟩:=b.pl;exact⟨by rw[b.ds,a.ds,eY],by rw[b.upd,a.upd,eY],fun q hq=>(ik.1 hq).elim (a.Ql q) (b.Ql q),⟨m1++m2,by grind⟩,fun h=>b.nodup (a.nodup h)⟩
theorem Ext.look{h h':Hand}{d:List V}{u:List (Nat×ag)}(a:Ext P w I β hp h h' d u){j:Nat}{p:Place}(hj:gK h.pl j=some p):gK h'.pl j=some p:=by
 obtain⟨m,e⟩:=a.pl;rw[e];exact vc hj
theorem Ext.leaf(h:Hand)(x:V):Ext P w I β hp h {h with ds:=h.ds++[x]} [x] []:=⟨rfl,by simp,by simp,⟨[],by simp⟩,id⟩
theorem atJ{α:Type}{ρ:List Place}{j:Nat}{p:Place}{k:List Place→Rd α}{r:α}{rd:List Nat}(h:(unify ρ j p k).run C hp=some (r,rd))(hb:∃id,p= .blk id∨∃ver path,p= .row id ver path):
  ∃oP,(k oP).run C hp=some (r,rd)∧(∃m,oP=ρ++m)∧gK oP j=some p∧((ρ.map Place.id).Nodup→(oP.map Place.id).Nodup):=by
 unfold unify at h;cases hc:Nat.blt j ρ.length with
 |true=>
  rw[hc]at h;obtain⟨h1,h2⟩:=ay h;refine⟨ρ,h2,⟨[],by simp⟩,?_,id⟩;unfold abK at h1;split at h1
  all_goals simp_all
 |false=>
  rw[hc]at h;obtain⟨h1,h2⟩:=ay h;simp only[aG,aN,nG]at h1;obtain⟨rfl,h3⟩:=h1;refine⟨ρ++[p],h2,⟨[p],rfl⟩,?_,fun hn=> ?_⟩
  ·rw[rH];simp
  ·rw[qB,MZ];refine⟨hn,by simp,fun a ha b hb=> ?_⟩;simp only[mc,List.map_nil,jV]at hb;subst hb;intro e;subst e;rw[Bm ha]at h3;cases h3
theorem Ce{α:Type}{h:Hand}{j:Nat}{p:Place}{k:List Place→Rd α}{r:α}{rd:List Nat}(hr:(unify h.pl j p k).run C hp=some (r,rd))(ds:List V):
  ∃oP,(k oP).run C hp=some (r,rd)∧gK oP j=some p∧Ext P w I β hp h {h with pl:=oP,ds:=h.ds++ds} ds []:=by
 obtain⟨oP,a,b,c,d⟩:=atJ hr (by cases p with|blk id=>grind|row id ver path=>grind);exact⟨oP,a,c,⟨rfl,by simp,by simp,b,d⟩⟩
theorem atK{o:Option Nat}{blk:ag}{e:TypeId}{id j:Nat}{v:Value}(hv:ai P w I β hp v (.whole e id))(hl:gC P w β hp (.blk id) o blk)(hj:hp0 j=some blk)(oa:μ j=o):ai P w I' μ hp0 v (.whole e j):=by
 cases hl with
 |var h=>
  cases hv with
  |ei h2=>grind
  |dZ h2=>grind
  |whole h2=>grind
  |dQ h2=>grind
  |eA h2=>grind
  |fK h2=>grind
 |arr h=>
  cases hv with
  |ei h2=>grind
  |dZ h2 hb=>rw[h]at h2;cases h2;exact .dZ hj (oa.trans hb)
  |whole h2 hb a b c=>rw[h]at h2;cases h2;exact .whole hj (oa.trans hb) a b c
  |dQ h2=>grind
  |eA h2=>grind
  |fK h2=>grind
 |nest h=>
  cases hv with
  |ei h2=>grind
  |dZ h2=>grind
  |whole h2=>grind
  |dQ h2 hb a b c=>rw[h]at h2;cases h2;exact .dQ hj (oa.trans hb) a b c
  |eA h2 hb=>rw[h]at h2;cases h2;exact .eA hj (oa.trans hb)
  |fK h2=>grind
 |map h=>
  cases hv with
  |ei h2=>grind
  |dZ h2=>grind
  |whole h2=>grind
  |dQ h2=>grind
  |eA h2=>grind
  |fK h2=>grind
theorem atL{o:Option Nat}{blk:ag}{t:TypeId}{id j:Nat}{v:Value}(hv:ai P w I β hp v (.cK t id))(hl:gC P w β hp (.blk id) o blk)(hj:hp0 j=some blk)(oa:μ j=o):ai P w I' μ hp0 v (.cK t j):=by
 cases hv with
 |mj h2=>cases hl<;>(grind)
 |cK h2 hb=>
  cases hl<;>(rename_i h;rw[h]at h2;cases h2)
  exact .cK hj (oa.trans hb)
theorem atM{o:Option Nat}{blk:ag}{e:TypeId}{id off n j:Nat}{v:Value}(hv:ai P w I β hp v (.sub e id off n))(hl:gC P w β hp (.blk id) o blk)(hj:hp0 j=some blk)(oa:μ j=o):ai P w I' μ hp0 v (.sub e j off n):=by
 cases hl with
 |var h=>
  cases hv with
  |j8 h2=>grind
  |jz h2=>grind
  |sub h2=>grind
 |arr h=>
  cases hv with
  |j8 h2=>grind
  |jz h2 hb=>rw[h]at h2;cases h2;exact .jz hj (oa.trans hb)
  |sub h2 hb a b c=>rw[h]at h2;cases h2;exact .sub hj (oa.trans hb) a b c
 |nest h=>
  cases hv with
  |j8 h2=>grind
  |jz h2=>grind
  |sub h2=>grind
 |map h=>
  cases hv with
  |j8 h2=>grind
  |jz h2=>grind
  |sub h2=>grind
theorem afT{o:Option Nat}{blk:ag}{id i c j:Nat}{v:Value}(hv:ai P w I β hp v (.ptr id i c))(hl:gC P w β hp (.blk id) o blk)(hj:hp0 j=some blk)(oa:μ j=o):ai P w I' μ hp0 v (.ptr j i c):=by
 cases hl with
 |@var _ T0 cs Xm h=>
  obtain⟨b,hb,rfl⟩:=hv.jC h (by simp);exact ai.ptr (blk:= .var T0 Xm) hj (by simp) (oa.trans hb)
 |@arr _ e es fz h=>
  obtain⟨b,hb,rfl⟩:=hv.jC h (by simp);exact ai.ptr (blk:= .arr e es fz) hj (by simp) (oa.trans hb)
 |@nest _ e es vers h=>
  obtain⟨b,hb,rfl⟩:=hv.jC h (by simp);exact ai.ptr (blk:= .nest e es [0,0,0]) hj (by simp) (oa.trans hb)
 |@map _ t es h=>
  obtain⟨b,hb,rfl⟩:=hv.jC h (by simp);exact ai.ptr (blk:= .map t es) hj (by simp) (oa.trans hb)
theorem atN(cX:∀id blk,hp id=some blk→fg P w I β hp (β id) blk){id b i c:Nat}{e0 t:TypeId}{es l:List V}{vers:List Nat}{q:Path}{e:TypeId}{v:Value}(ae:hp id=some (.nest e0 es vers))(hb:β id=some b)
  (ht:P.underlying t=some (.slice e)) (hc:se P w b e0 es q i c t v (.list e l)) (hl:0<l.length):∃b1 cap,v= .slice (some ⟨b1,0,none⟩) l.length cap∧cap*P.cellsOf e=bsize w b1∧l.length≤cap∧cap≤maxLen∧At P w b e0 es (q++[(i,c)]) b1 e l:=by
 obtain⟨b2,e1,m,Ca,T,f,x,n1,n2,n3,n4,n5,n6⟩:=hc;have hr:=cX _ _ ae;cases hr with
 |jA au=>grind
 |nest au hr hn=>
  rw[hb]at au;cases au;have hR:=hr _ _ _ _ n1;obtain⟨Be,_,c1,_,c2,c3⟩:=hR.cells;rw[n2]at c1;cases c1;have Bf:c<P.cellsOf e1:=by rw[←fL hR.ok];grind
  obtain⟨v',d1,d2⟩:=c3 i c x t n3 n4 Bf;rw[n6]at d1;cases d1;rw[n5]at d2;generalize hy:V.list e l=y at d2;cases d2 with
  |gN a p=>unfold eg at a;grind
  |emp hu=>grind
  |row hu nU aZ bO uB=>
   cases hy;exact⟨_,_,rfl,aZ,bO,uB,n1.snoc n2 n3 n4 ht n5 nU n6⟩
theorem atO(S:ax P w I β hp B M w0){o:Option Nat}{blk:ag}{e:TypeId}{id ver j:Nat}{path:Path}{v:Value}(hv:ai P w I β hp v (.row e id ver path))(hl:gC P w β hp (.row id ver path) o blk)(hj:hp0 j=some blk)(oa:μ j=o):ai P w I' μ hp0 v (.whole e j):=by
 cases hl with
 |row h hb ha hf h1 h2 h3 h4=>
  obtain⟨b2,q,i,c,t,l2,rfl,fh,ht,hc⟩:=hv.TZ h h1 h2 h3;rw[hb]at fh;cases fh;obtain⟨p1,p2⟩:=T4 ha;have gu:=hc;obtain⟨b3,e3,m3,Ca,T,f,x,n1,n2,n3,n4,n5,n6⟩:=gu;obtain⟨q1,q2⟩:=ND n1 n3 n4 ht n5;rw[p1]at q1;rw[p2]at q2;cases q1;cases q2;obtain⟨b1,cap,rfl,m1,m2,m4,m5⟩:=atN S.h.rel h hb ht hc h4;have:=atP ha m5;subst this;exact .whole hj oa m1 m2 m4
where
 atP {b b1 b2:Nat} {e e1 e2:TypeId} {es l l2:List V} {q:Path} (h:At P w b e es q b1 e1 l) (h2:At P w b e es q b2 e2 l2):b2=b1:=(h.fun h2).1
theorem afU(S:ax P w I β hp B M w0){α:Type}{l:LS}{x:V}{h:Hand}{k:Hand→Rd α}{r:α}{rd:List Nat}{v:Value}(hr:(Np P l x h k).run C hp=some (r,rd))(hv:ai P w I β hp v x):
  ∃h' iB d u,(k h').run C hp=some (r,iB)∧Ext P w I β hp h h' d u∧d.length=l.size∧
   ∀(I':Nat→Nat→Prop) (μ:Nat→Option Nat) (hp0:Nat→Option ag),(∀b j,I b j→I' b j)→(∀q∈u,∀b j,zx P w β hp q.1 b j→I' b j)→∀ρ m,ρ=h'.pl++m→JZ P w β hp ρ μ hp0→∀rest,ai P w I' μ hp0 v (mf l (d++rest)):=by
 have plain:∀{x':V} {kj:List Nat},(k {h with ds:=h.ds++[x']}).run C hp=some (r,kj)→l.size=1→(∀I' μ hp0 rest,ai P w I' μ hp0 v (mf l ([x']++rest)))→∃h' iB d u,(k h').run C hp=some (r,iB)∧Ext P w I β hp h h' d u∧d.length=l.size∧
   ∀(I':Nat→Nat→Prop) (μ:Nat→Option Nat) (hp0:Nat→Option ag),(∀b j,I b j→I' b j)→(∀q∈u,∀b j,zx P w β hp q.1 b j→I' b j)→∀ρ m,ρ=h'.pl++m→JZ P w β hp ρ μ hp0→∀rest,ai P w I' μ hp0 v (mf l (d++rest)):=
  fun hk hs hx=>⟨_,_,_,_,hk,Ext.leaf h _,hs.symm,fun I' μ hp0 _ _ _ _ _ _ rest=>hx I' μ hp0 rest⟩
 have wD:∀{kj:List Nat},(k h).run C hp=some (r,kj)→l.size=0→(∀I' μ hp0 rest,ai P w I' μ hp0 v (mf l rest))→∃h' iB d u,(k h').run C hp=some (r,iB)∧Ext P w I β hp h h' d u∧d.length=l.size∧
   ∀(I':Nat→Nat→Prop) (μ:Nat→Option Nat) (hp0:Nat→Option ag),(∀b j,I b j→I' b j)→(∀q∈u,∀b j,zx P w β hp q.1 b j→I' b j)→∀ρ m,ρ=h'.pl++m→JZ P w β hp ρ μ hp0→∀rest,ai P w I' μ hp0 v (mf l (d++rest)):=
  fun hk hs hx=>⟨_,_,_,_,hk,Ext.refl h,by simp[hs],fun I' μ hp0 _ _ _ _ _ _ rest=>hx I' μ hp0 rest⟩
 unfold Np at hr;cases l with
 |xt=>exact wD hr rfl fun _ _ _ _=> .undef
 |int kd=>
  cases x<;>simp only at hr<;>first|(cases hr;done)|skip
  obtain⟨h1,h2⟩:=ay hr;simp only[jf]at h1;subst h1;obtain rfl:=hv.gx;exact plain h2 rfl fun _ _ _ _=> .int
 |bool=>
  cases x<;>simp only at hr<;>first|(cases hr;done)|skip
  obtain rfl:=hv.oo;exact plain hr rfl fun _ _ _ _=> .bool
 |str=>
  cases x<;>simp only at hr<;>first|(cases hr;done)|skip
  obtain⟨s,rfl,hl⟩:=hv.pO;exact plain hr rfl fun _ _ _ _=> .str hl
 |nilS e=>
  cases x<;>simp only at hr<;>first|(cases hr;done)|skip
  obtain⟨h1,h2⟩:=ay hr;cases hv with
  |nilS=>exact wD h2 rfl fun _ _ _ _=> .nilS
 |nl e=>
  cases x<;>simp only at hr<;>first|(cases hr;done)|skip
  obtain⟨h1,h2⟩:=ay hr;rw[aN]at h1;subst h1;cases hv with
  |nl a b=>exact⟨_,_,_,_,h2,Ext.leaf h _,rfl,fun I' μ hp0 hI _ _ _ _ _ rest=> .nl (a.mono hI (fun _ _ _=>rfl)) b⟩
 |eV=>
  cases x<;>simp only at hr<;>first|(cases hr;done)|skip
  cases hv with
  |eV=>exact wD hr rfl fun _ _ _ _=> .eV
 |row e j cs=>
  cases x<;>simp only at hr<;>first|(cases hr;done)|skip
  rename_i e' id ver path;obtain⟨e0,es,vers,l0,ae,p1,p2,p3,hr⟩:=tn hr;obtain⟨h1,h2⟩:=ay hr;simp only[aG,aN,gG]at h1;obtain⟨rfl,uG,hp3⟩:=h1;have:=B8 uG;subst this;obtain⟨oP,a,b,c⟩:=Ce (P:=P) (w:=w) (I:=I) (β:=β) h2 (path.map fun p=>gJ p.1);refine⟨_,_,path.map fun p=>gJ p.1,[],a,c,by simp[LS.size],fun I' μ hp0 i1 i2 ρ m eI cu rest=> ?_⟩;obtain⟨blk,k1,k2⟩:=cu j _ (by rw[eI];exact vc b);obtain⟨bb,q,i,cc,t,l,rfl,hb,ht,hc⟩:=hv.TZ ae p1 p2 p3;have uE:blk= .nest e0 es [0,0,0]∧μ j=β id:=by
   generalize μ j=o at k2;cases k2 with
   |var h=>grind
   |arr h=>grind
   |map h=>grind
   |nest h=>grind
  obtain⟨rfl,oa⟩:=uE;simp only[mf,Qi];have hq:q.length<3:=by grind
  refine .row k1 (oa.trans hb) (by omega) ?_ ht hc
  match q.length,hq with
  |0,_=>rfl
  |1,_=>rfl
  |2,_=>rfl
 |dH j cs c=>cases hr
 |DF k n=>cases hr
 |M5 b=>cases hr
 |ff t=>
  cases x<;>simp only at hr<;>first|(cases hr;done)|skip
  obtain⟨h1,h2⟩:=ay hr;cases hv with
  |ff=>exact wD h2 rfl fun _ _ _ _=> .ff
 |cK t j=>
  cases x<;>simp only at hr<;>first|(cases hr;done)|skip
  rename_i t' id;obtain⟨h1,h2⟩:=ay hr;rw[aN]at h1;subst h1;obtain⟨oP,a,b,c⟩:=Ce (P:=P) (w:=w) (I:=I) (β:=β) h2 [];refine⟨_,_,[],[],a,by grind,rfl,fun I' μ hp0 i1 i2 ρ m eI cu rest=> ?_⟩;obtain⟨blk,k1,k2⟩:=cu j _ (by rw[eI];exact vc b);exact atL hv k2 k1 rfl
 |list e=>
  obtain⟨⟨y,u⟩,l1,l2,h1,h2⟩:=o6 hr;cases y<;>simp only at h2<;>first|(cases h2;done)|skip
  rename_i e' es;obtain⟨h3,h4⟩:=ay h2;rw[aN]at h3;subst h3;obtain⟨p1,p2⟩:=Hu S.h.rel h1 hv;exact⟨_,_,[.list e es],u,h4,⟨rfl,rfl,fun q hq=> .inl (p1 q hq),⟨[],by simp⟩,id⟩,rfl,fun I' μ hp0 i1 i2 _ _ _ _ rest=> .list (p2 I' i1 i2)⟩
 |whole e j=>
  cases x<;>simp only at hr<;>first|(cases hr;done)|skip
  ·rename_i e' id;obtain⟨h1,h2⟩:=ay hr;rw[aN]at h1;subst h1;obtain⟨oP,a,b,c⟩:=Ce (P:=P) (w:=w) (I:=I) (β:=β) h2 [];refine⟨_,_,[],[],a,by grind,rfl,fun I' μ hp0 i1 i2 ρ m eI cu rest=> ?_⟩;obtain⟨blk,k1,k2⟩:=cu j _ (by rw[eI];exact vc b);exact atK hv k2 k1 rfl
  ·rename_i e' id ver path;obtain⟨h1,h2⟩:=ay hr;rw[aN]at h1;subst h1;obtain⟨oP,a,b,c⟩:=Ce (P:=P) (w:=w) (I:=I) (β:=β) h2 [];refine⟨_,_,[],[],a,by grind,rfl,fun I' μ hp0 i1 i2 ρ m eI cu rest=> ?_⟩;obtain⟨blk,k1,k2⟩:=cu j _ (by rw[eI];exact vc b);exact atO S hv k2 k1 rfl
 |sub e j=>
  cases x<;>simp only at hr<;>first|(cases hr;done)|skip
  rename_i e' id o n;obtain⟨h1,h2⟩:=ay hr;rw[aN]at h1;subst h1;obtain⟨oP,a,b,c⟩:=Ce (P:=P) (w:=w) (I:=I) (β:=β) h2 [gJ o,gJ n];refine⟨_,_,[gJ o,gJ n],[],a,c,rfl,fun I' μ hp0 i1 i2 ρ m eI cu rest=> ?_⟩;obtain⟨blk,k1,k2⟩:=cu j _ (by rw[eI];exact vc b);simpa[mf,V.nth]using atM (I':=I') hv k2 k1 rfl
 |ptr j=>
  cases x<;>simp only at hr<;>first|(cases hr;done)|skip
  rename_i id i c;obtain⟨oP,a,b,c'⟩:=Ce (P:=P) (w:=w) (I:=I) (β:=β) hr [gJ i,gJ c];refine⟨_,_,[gJ i,gJ c],[],a,c',rfl,fun I' μ hp0 i1 i2 ρ m eI cu rest=> ?_⟩;obtain⟨blk,k1,k2⟩:=cu j _ (by rw[eI];exact vc b);simpa[mf,V.nth]using afT (I':=I') hv k2 k1 rfl
 |az j i c=>
  cases x<;>simp only at hr<;>first|(cases hr;done)|skip
  rename_i id i' c';obtain⟨h1,h2⟩:=ay hr;simp only[aG,aN]at h1;obtain⟨rfl,rfl⟩:=h1;obtain⟨oP,a,b,c'⟩:=Ce (P:=P) (w:=w) (I:=I) (β:=β) h2 [];refine⟨_,_,[],[],a,by grind,rfl,fun I' μ hp0 i1 i2 ρ m eI cu rest=> ?_⟩;obtain⟨blk,k1,k2⟩:=cu j _ (by rw[eI];exact vc b);exact afT hv k2 k1 rfl
end
section
variable {P:Program}{A:dz}{w w':World}{I I' I2:Nat→Nat→Prop}{μ β β':Nat→Option Nat}{hp hp' hp0:Nat→Option ag}{C:af}{B:Nat}{M:Nat→Prop}{w0:Start}
def rI(P:Program)(w:World)(I:Nat→Nat→Prop)(β:Nat→Option Nat)(hp:Nat→Option ag)(h':Hand)(u:List (Nat×ag))(K:(Nat→Nat→Prop)→(Nat→Option Nat)→(Nat→Option ag)→Prop):Prop:=
 ∀(I':Nat→Nat→Prop) (μ:Nat→Option Nat) (hp0:Nat→Option ag),(∀b j,I b j→I' b j)→(∀q∈u,∀b j,zx P w β hp q.1 b j→I' b j)→∀ρ m,ρ=h'.pl++m→JZ P w β hp ρ μ hp0→K I' μ hp0
theorem rI.later{h h':Hand}{d:List V}{u u':List (Nat×ag)}{K:(Nat→Nat→Prop)→(Nat→Option Nat)→(Nat→Option ag)→Prop}(t:rI P w I β hp h u K)(e:Ext P w I β hp h h' d u'):rI P w I β hp h' (u++u') K:=by
 obtain⟨m1,e1⟩:=e.pl;exact fun I' μ hp0 i1 i2 ρ m eI cu=>t I' μ hp0 i1 (fun q hq=>i2 q (ik.2 (.inl hq))) ρ (m1++m) (by grind) cu
theorem rI.more{h:Hand}{u u':List (Nat×ag)}{K:(Nat→Nat→Prop)→(Nat→Option Nat)→(Nat→Option ag)→Prop}(t:rI P w I β hp h u K):rI P w I β hp h (u'++u) K:=
 fun I' μ hp0 i1 i2 ρ m eI cu=>t I' μ hp0 i1 (fun q hq=>i2 q (ik.2 (.inr hq))) ρ m eI cu
theorem J0(S:ax P w I β hp B M w0){α:Type}:∀{ls:List LS} {xs:List V} {h:Hand} {k:Hand→Rd α} {r:α} {rd:List Nat} {vs:List Value},(xA P ls xs h k).run C hp=some (r,rd)→vs.length=xs.length→
  (∀(j:Nat) v x,vs[j]? =some v→xs[j]? =some x→ai P w I β hp v x)→
  ∃h' iB d u,(k h').run C hp=some (r,iB)∧Ext P w I β hp h h' d u∧d.length=oh ls∧ls.length=xs.length∧
   rI P w I β hp h' u fun I' μ hp0=> ∀rest,(jx ls (d++rest)).length=xs.length∧∀(j:Nat) v y,vs[j]? =some v→(jx ls (d++rest))[j]? =some y→ai P w I' μ hp0 v y
 | [],[],h,k,r,rd,vs,hr,hl,hv=>⟨h,rd,[],[],hr,Ext.refl h,rfl,rfl,fun I' μ hp0 _ _ _ _ _ _ rest=>⟨rfl,fun j v y _ hy=>by grind⟩⟩
 | [],_::_,h,k,r,rd,vs,hr,hl,hv=>by cases hr
 |_::_,[],h,k,r,rd,vs,hr,hl,hv=>by cases hr
 |l::ls,x::xs,h,k,r,rd,vs,hr,hl,hv=>by
  cases vs with
  |nil=>simp at hl
  |cons v vs=>
   simp only[xA]at hr;obtain⟨h1,kj,d1,u1,a1,a2,a3,a4⟩:=afU S hr (hv 0 v x rfl rfl);obtain⟨h2,Ai,d2,u2,b1,b2,b3,b5,b4⟩:=J0 S a1 (by grind) (vs:=vs) (fun j v x hj hx=>hv (j+1) v x (by grind) (by grind));have a4':rI P w I β hp h1 u1 fun I' μ hp0=> ∀rest,ai P w I' μ hp0 v (mf l (d1++rest)):=a4;refine⟨h2,Ai,d1++d2,u1++u2,b1,a2.trans b2,by simp only[gY,oh];omega,by simp[b5],fun I' μ hp0 i1 i2 ρ m eI cu rest=> ?_⟩;have k1:=(a4'.later b2) I' μ hp0 i1 i2 ρ m eI cu (d2++rest);obtain⟨k2,k3⟩:=b4.more I' μ hp0 i1 i2 ρ m eI cu rest;simp only[jx];grind
theorem atQ{t:TypeId}{v:Value}{y:V}(hv:ai P w I β hp v y)(h:fJ P t y=true):Plain P w I v y:=by
 cases y with
 |int k n=>exact hv.gx
 |bool b=>exact hv.oo
 |str s=>obtain⟨s',rfl,hs⟩:=hv.pO;exact⟨s',rfl,hs⟩
 |list e es=>cases hv with
  |list hp'=>exact hp'
 |_=>unfold fJ at h;grind
theorem afV:∀{ts:List TypeId} {ls:List LS},DN P ts ls=true→ts.length=ls.length∧∀(ds:List V) (j:Nat) t y,ts[j]? =some t→(jx ls ds)[j]? =some y→fJ P t y=true
 | [],[],_=>⟨rfl,fun ds j t y h=>by simp at h⟩
 | [],_::_,h=>by cases h
 |_::_,[],h=>by cases h
 |t::ts,l::ls,h=>by
  simp only[DN,aG]at h;obtain⟨h1,h2⟩:=afV h.2;refine⟨by simp[h1],fun ds j t' y ht hy=> ?_⟩;cases j with
  |succ j=>exact h2 _ j t' y (by grind) (by simpa[jx]using hy)
  |zero=>
   simp[jx]at ht hy;subst ht;subst hy;have h:=h.1;unfold fJ;split at h<;>simp_all [mf]
theorem atS(S:ax P w I β hp B M w0){α:Type}{s:VS}{x:V}{h:Hand}{k:Hand→Rd α}{r:α}{rd:List Nat}{v:Value}(hr:(DO P s x h k).run C hp=some (r,rd))(hv:ai P w I β hp v x):
  ∃h' iB d u,(k h').run C hp=some (r,iB)∧Ext P w I β hp h h' d u∧d.length=s.size∧
   rI P w I β hp h' u fun I' μ hp0=> ∀rest,ai P w I' μ hp0 v (oZ s (d++rest)):=by
 cases s with
 |one l=>
  simp only[DO]at hr;obtain⟨h1,kj,d1,u1,a1,a2,a3,a4⟩:=afU S hr hv;exact⟨h1,kj,d1,u1,a1,a2,a3,a4⟩
 |agg ls=>
  cases x<;>simp only[DO]at hr<;>first|(cases hr;done)|skip
  rename_i xs;obtain⟨cs,rfl,e1,e2⟩:=hv.oq;obtain⟨h1,kj,d1,u1,a1,a2,a3,a5,a4⟩:=J0 S hr (vs:=cs.toList) (by omega) (fun j v x hj hx=>e2 j v x (by grind) hx);refine⟨h1,kj,d1,u1,a1,a2,a3,fun I' μ hp0 i1 i2 ρ m eI cu rest=> ?_⟩;obtain⟨k1,k2⟩:=a4 I' μ hp0 i1 i2 ρ m eI cu rest;exact .agg (by omega) fun j v y hj hy=>k2 j v y (by grind) hy
 |bf ls=>cases x<;>cases hr
 |pref ts ls=>
  have cells:∀{xs:List V} {vs:List Value} {h0:Hand} {rd0:List Nat},(xA P ls xs h0 k).run C hp=some (r,rd0)→vs.length=xs.length→DN P ts ls=true→(∀(j:Nat) v x,vs[j]? =some v→xs[j]? =some x→ai P w I β hp v x)→
    ∃h' iB d u,(k h').run C hp=some (r,iB)∧Ext P w I β hp h0 h' d u∧d.length=oh ls∧ls.length=xs.length∧rI P w I β hp h' u fun I' μ hp0=> ∀rest,(jx ls (d++rest)).length=xs.length∧ts.length=xs.length∧
     ∀(j:Nat) t v y,vs[j]? =some v→ts[j]? =some t→(jx ls (d++rest))[j]? =some y→Pure P w I' t v y:=by
   intro xs vs h0 rd0 hr0 hl fj UH;obtain⟨h1,kj,d1,u1,a1,a2,a3,a5,a4⟩:=J0 S hr0 hl UH;obtain⟨t1,t2⟩:=afV fj;refine⟨h1,kj,d1,u1,a1,a2,a3,a5,fun I' μ hp0 i1 i2 ρ m eI cu rest=> ?_⟩;obtain⟨k1,k2⟩:=a4 I' μ hp0 i1 i2 ρ m eI cu rest;exact⟨k1,t1.trans a5,fun j t v y hj ht hy=>(atQ (k2 j v y hj hy) (t2 _ j t y ht hy)).pure (t2 _ j t y ht hy)⟩
  cases x<;>simp only[DO]at hr<;>first|(cases hr;done)|skip
  ·rename_i id i c;obtain⟨l0,yz⟩:=run_get hr;clear hr;cases ae:hp id with
   |none=>rw[ae]at yz;cases yz
   |some blk=>
    rw[ae]at yz;cases blk<;>simp only at yz<;>first|(cases yz;done)|skip
    rename_i T cs;obtain⟨hc,sN⟩:=ay yz;clear yz;simp only[aG,aN,gG]at hc;obtain⟨rfl,fj,hle⟩:=hc;obtain⟨b,hb,rfl⟩:=hv.jC ae (by simp);have cX:=S.h.rel id _ ae;rw[hb]at cX;cases cX with
    |@var _ _ Ca _ au hh hs hI hx _=>
    cases au;obtain⟨h1,kj,d1,u1,a1,a2,a3,a5,a4⟩:=cells sN (vs:=(Ca.toList.drop c).take ls.length) (by simp;omega) fj (fun j v x hj dk=>by
     grind)
    refine⟨h1,kj,d1,(id,.var T cs)::u1,a1,⟨a2.ds,by rw[a2.upd];simp,fun q hq=> ?_,a2.pl,a2.nodup⟩,a3,fun I' μ hp0 i1 i2 ρ m eI cu rest=> ?_⟩
    ·rcases jg.1 hq with rfl|hq
     ·exact .inr ⟨T,cs,rfl,ae⟩
     ·exact a2.Ql q hq
    ·obtain⟨k1,k2,k3⟩:=a4 I' μ hp0 i1 (fun q hq=>i2 q (jU _ hq)) ρ m eI cu rest;have hn:(jx ls (d1++rest)).length=ls.length:=k1.trans a5.symm;simp only[oZ,ag.sz,Nat.zero_mul,dP];refine .pref (k2.trans k1.symm) (fun j hj=>i2 _ (qz ..) b (c+j) ⟨_,ae,.var hb (by omega)⟩) (fun j t y ht hy=> ?_);have hj:=(cw.1 hy).1;have uG:c+j<Ca.size:=by omega
     refine⟨Ca[c+j],by rw[cell?_cells hh];grind,k3 j t _ y ?_ ht hy⟩;grind
  ·rename_i vJ cs;obtain⟨hc,sN⟩:=ay hr;clear hr;simp only[aG,gG]at hc;obtain⟨hts,fj,hle⟩:=hc;have hts:=B8 hts;obtain⟨b,o,rfl,q1,q2,q3⟩:=hv.HA;have hg:∀j,j<cs.length→∃v,w.cell? ⟨b,o+j,none⟩=some v∧∃t,vJ[j]? =some t∧∀x,cs[j]? =some x→Pure P w I t v x:=fun j hj=>by
    simp_all
   let vs:List Value:=(List.range ls.length).map fun j=>(w.cell? ⟨b,o+j,none⟩).getD undef
   have NO:∀(j:Nat),j<ls.length→vs[j]? =some ((w.cell? ⟨b,o+j,none⟩).getD undef):=fun j hj=>by grind
   obtain⟨h1,kj,d1,u1,a1,a2,a3,a5,a4⟩:=cells sN (vs:=vs) (by grind) fj (fun j v x hj dk=>by
    have dt:j<ls.length:=by grind
    rw[jW dt]at dk;obtain⟨v',v1,t,_,v2⟩:=hg j (by omega);rw[NO j dt,v1]at hj;cases hj;exact .vN (v2 x dk))
   refine⟨h1,kj,d1,u1,a1,a2,a3,fun I' μ hp0 i1 i2 ρ m eI cu rest=> ?_⟩;obtain⟨k1,k2,k3⟩:=a4 I' μ hp0 i1 i2 ρ m eI cu rest;have hn:(jx ls (d1++rest)).length=ls.length:=k1.trans a5.symm;refine .pref (k2.trans k1.symm) (fun j hj=>i1 _ _ (q2 j (by omega))) (fun j t y ht hy=> ?_);grind
 |fn f a b=>
  cases x<;>simp only[DO]at hr<;>first|(cases hr;done)|skip
  rename_i f' xs ys;obtain⟨hc,sN⟩:=ay hr;clear hr;rw[aN]at hc;subst hc;cases hv with
  |@fn _ fs cs _ _ q1 q2 q3 q4=>
   obtain⟨h1,kj,d1,u1,a1,a2,a3,a5,a4⟩:=J0 S sN (vs:=fs.toList) (by omega) (fun j v x hj hx=>q2 j v x (by grind) hx);obtain⟨h2,Ai,d2,u2,b1,b2,b3,b5,b4⟩:=J0 S a1 (vs:=cs.toList) (by omega) (fun j v x hj hx=>q4 j v x (by grind) hx);refine⟨h2,Ai,d1++d2,u1++u2,b1,a2.trans b2,by simp only[gY,VS.size];omega,fun I' μ hp0 i1 i2 ρ m eI cu rest=> ?_⟩;obtain⟨k1,k2⟩:=(a4.later b2) I' μ hp0 i1 i2 ρ m eI cu (d2++rest);obtain⟨k3,k4⟩:=b4.more I' μ hp0 i1 i2 ρ m eI cu rest;simp only[oZ];rw[show(d1++d2++rest).drop (oh a)=d2++rest by grind,eY];exact .fn (by omega) (fun j v y hj hy=>k2 j v y (by grind) hy) (by omega) (fun j v y hj hy=>k4 j v y (by grind) hy)
theorem Xn(S:ax P w I β hp B M w0){α:Type}:∀{ls:List VS} {xs:List V} {h:Hand} {k:Hand→Rd α} {r:α} {rd:List Nat} {vs:List Value},(Ha P ls xs h k).run C hp=some (r,rd)→vs.length=xs.length→
  (∀(j:Nat) v x,vs[j]? =some v→xs[j]? =some x→ai P w I β hp v x)→
  ∃h' iB d u,(k h').run C hp=some (r,iB)∧Ext P w I β hp h h' d u∧d.length=zn ls∧ls.length=xs.length∧
   rI P w I β hp h' u fun I' μ hp0=> ∀rest,(j4 ls (d++rest)).length=xs.length∧∀(j:Nat) v y,vs[j]? =some v→(j4 ls (d++rest))[j]? =some y→ai P w I' μ hp0 v y
 | [],[],h,k,r,rd,vs,hr,hl,hv=>⟨h,rd,[],[],hr,Ext.refl h,rfl,rfl,fun I' μ hp0 _ _ _ _ _ _ rest=>⟨rfl,fun j v y _ hy=>by grind⟩⟩
 | [],_::_,h,k,r,rd,vs,hr,hl,hv=>by cases hr
 |_::_,[],h,k,r,rd,vs,hr,hl,hv=>by cases hr
 |l::ls,x::xs,h,k,r,rd,vs,hr,hl,hv=>by
  cases vs with
  |nil=>simp at hl
  |cons v vs=>
   simp only[Ha]at hr;obtain⟨h1,kj,d1,u1,a1,a2,a3,a4⟩:=atS S hr (hv 0 v x rfl rfl);obtain⟨h2,Ai,d2,u2,b1,b2,b3,b5,b4⟩:=Xn S a1 (by grind) (vs:=vs) (fun j v x hj hx=>hv (j+1) v x (by grind) (by grind));refine⟨h2,Ai,d1++d2,u1++u2,b1,a2.trans b2,by simp only[gY,zn];omega,by simp[b5],fun I' μ hp0 i1 i2 ρ m eI cu rest=> ?_⟩;have k1:=(a4.later b2) I' μ hp0 i1 i2 ρ m eI cu (d2++rest);obtain⟨k2,k3⟩:=b4.more I' μ hp0 i1 i2 ρ m eI cu rest;simp only[j4];grind
def Qm:List BS→Nat
 | []=>0
 |b::l=>b.size+Qm l
theorem afW:∀{b:Nat} {e e':TypeId} {es:List V} {v:V},(∀q b' e' m,At P w b e es q b' e' m→jn P w I b' e' m)→∀(path:Path),oY P e path=some e'→ez P e es path=some v→0<v.toList.length→
  ∃b1,At P w b e es path b1 e' v.toList
 |b,e,e',es,v,cR,[],ht,hv,hl=>by
  simp only[oY,eU]at ht;simp only[ez,eU]at hv;subst ht;subst hv;exact⟨b,.here⟩
 |b,e,e',es,v,cR,(i,c)::q,ht,hv,hl=>by
  simp only[oY]at ht;simp only[ez]at hv;obtain⟨x,hx,hv⟩:=bind_some hv;cases htc:(oY.G1 P e)[c]? with
  |none=>grind
  |some t=>
   rw[htc]at ht;simp only at ht;have Xo:(aV P e)[c]? =some t:=htc;cases hu:P.underlying t with
   |none=>grind
   |some d=>
    rw[hu]at ht;cases d<;>simp only at ht<;>first|(cases ht;done)|skip
    rename_i e1;rw[tp Xo]at hv;have hR:=cR _ _ _ _ .here;obtain⟨Ca,_,c1,_,c2,c3⟩:=hR.cells;have Bf:c<P.cellsOf e:=by rw[←fL hR.ok];grind
    obtain⟨u,d1,d2⟩:=c3 i c x t hx Xo Bf;rw[d2.zE]at hv;generalize hy:ca P e x c=y at d2 hv;cases d2 with
    |gN a p=>unfold eg at a;grind
    |@emp e2 a sM=>
     rw[hu]at sM;cases sM;simp only at hv;cases q with
     |nil=>simp only[ez,eU]at hv;subst hv;simp[V.toList]at hl
     |cons a q=>simp[ez]at hv
    |@row e2 bR b2 cap sM nU aZ bO uB=>
     rw[hu]at sM;cases sM;simp only at hv;have si:∀{q b' e' aI},At P w b2 e1 bR q b' e' aI→At P w b e es ((i,c)::q) b' e' aI:=fun h=> .step c1 hx Xo hu hy nU d1 h;obtain⟨b1,tQ⟩:=afW (fun q b' e' m h=>cR _ _ _ _ (si h)) q ht hv hl;grind
def yA(P:Program)(I:Nat→Nat→Prop)(blk:ag)(b:Nat):Prop:= ∀j,I b j→∃e es,blk= .arr e es true∧j<es.length*P.cellsOf e
theorem yA.no{blk:ag}{b:Nat}(h:yA P I blk b)(hn:∀e es,blk≠ .arr e es true)(j:Nat):¬I b j:=fun hi=>by
 obtain⟨e,es,h1,_⟩:=h j hi;exact hn e es h1
theorem afX(S:ax P w I β hp B M w0){α:Type}:∀{bs:List BS} {j:Nat} {h:Hand} {k:Hand→Rd α} {r:α} {rd:List Nat},(xB P bs j h k).run C hp=some (r,rd)→
  ∃h' iB d u,(k h').run C hp=some (r,iB)∧Ext P w I β hp h h' d u∧d.length=Qm bs∧
   ∀rest,(iM bs (d++rest)).length=bs.length∧∃o:Nat→Option Nat,
    (∀(i:Nat) blk,(iM bs (d++rest))[i]? =some blk→∃p,gK h'.pl (j+i)=some p∧gC P w β hp p (o i) blk)∧
    rI P w I β hp h' u fun I' μ hp0=> ∀(i:Nat) blk,(iM bs (d++rest))[i]? =some blk→(∀b,bm P w (o i) blk b→yA P I' blk b)→fg P w I' μ hp0 (o i) blk
 | [],j,h,k,r,rd,hr=>⟨h,rd,[],[],hr,Ext.refl h,rfl,fun rest=>⟨rfl,fun _=>none,fun i blk hb=>by simp[iM]at hb,fun I' μ hp0 _ _ _ _ _ _ i blk hb=>by simp[iM]at hb⟩⟩
 |b::bs,j,h,k,r,rd,hr=>by
  simp only[xB]at hr;have fin:∀{h1:Hand} {kj:List Nat} {d1:List V} {u1:List (Nat×ag)} {o1:Option Nat} {p:Place},(xB P bs (j+1) h1 k).run C hp=some (r,kj)→Ext P w I β hp h h1 d1 u1→d1.length=b.size→gK h.pl j=some p→
    (∀rest,gC P w β hp p o1 (jm b (d1++rest)))→(∀rest,rI P w I β hp h1 u1 fun I' μ hp0=>(∀bb,bm P w o1 (jm b (d1++rest)) bb→yA P I' (jm b (d1++rest)) bb)→fg P w I' μ hp0 o1 (jm b (d1++rest)))→
    ∃h' iB d u,(k h').run C hp=some (r,iB)∧Ext P w I β hp h h' d u∧d.length=Qm (b::bs)∧
     ∀rest,(iM (b::bs) (d++rest)).length=(b::bs).length∧∃o:Nat→Option Nat,
      (∀(i:Nat) blk,(iM (b::bs) (d++rest))[i]? =some blk→∃p,gK h'.pl (j+i)=some p∧gC P w β hp p (o i) blk)∧
      rI P w I β hp h' u fun I' μ hp0=> ∀(i:Nat) blk,(iM (b::bs) (d++rest))[i]? =some blk→(∀b,bm P w (o i) blk b→yA P I' blk b)→fg P w I' μ hp0 (o i) blk:=by
   intro h1 kj d1 u1 o1 p hk he hd bK hl ht;obtain⟨h2,Ai,d2,u2,b1,b2,b3,b4⟩:=afX S hk;refine⟨h2,Ai,d1++d2,u1++u2,b1,he.trans b2,by simp only[gY,Qm];omega,fun rest=> ?_⟩;obtain⟨c1,o,c2,c3⟩:=b4 rest;simp only[iM];rw[show(d1++d2++rest).drop b.size=d2++rest by grind,eY];refine⟨by simp[c1],fun i=>match i with|0=>o1|i+1=>o i,fun i blk hb=> ?_,fun I' μ hp0 i1 i2 ρ m eI cu i blk hb dq=> ?_⟩
   ·cases i with
    |zero=>
     simp at hb;subst hb;exact⟨p,b2.look (he.look bK),hl _⟩
    |succ i=>
     grind
   ·cases i with
    |zero=>
     simp at hb;subst hb;exact((ht _).later b2) I' μ hp0 i1 i2 ρ m eI cu dq
    |succ i=>exact c3.more I' μ hp0 i1 i2 ρ m eI cu i blk (by grind) dq
  cases bK:gK h.pl j with
  |none=>rw[bK]at hr;cases hr
  |some p=>
   rw[bK]at hr;cases p with
   |blk id=>
    obtain⟨l1,hr⟩:=run_get hr;cases ae:hp id with
    |none=>rw[ae]at hr;cases hr
    |some blk=>
     rw[ae]at hr;cases blk with
     |dead=>cases hr
     |out _ _ _ _=>cases hr
     |var T0 cs=>
      cases b<;>simp only at hr<;>first|(cases hr;done)|skip
      rename_i T1 ss;obtain⟨hT,yz⟩:=ay hr;clear hr;rw[aN]at hT;subst hT;have cX:=S.h.rel id _ ae;generalize ho:β id=o at cX;cases cX with
      |@var _ bb Ca T hb hh hs hI hx jo=>
       obtain⟨h1,kj,d1,u1,a1,a2,a3,a5,a4⟩:=Xn S yz (vs:=Ca.toList) (by omega) (fun j v x hj dk=>hx j v x (by grind) dk);refine fin (o1:=β id) a1 a2 a3 bK (fun rest=> .var ae) fun rest I' μ hp0 i1 i2 ρ m eI cu dq=> ?_;obtain⟨k1,k2⟩:=a4 I' μ hp0 i1 i2 ρ m eI cu rest;exact .var (ho.trans hb) hh (by omega) ((dq _ (.root (by simp[jm]) (ho.trans hb))).no (by simp[jm])) (fun i v y hi hy=>k2 i v y (by grind) hy) jo
     |arr e' es fz=>
      cases b with
      |arr e qR=>
       obtain⟨hc,sN⟩:=ay hr;clear hr;simp only[aG,aN]at hc;obtain⟨rfl,gu⟩:=hc;obtain rfl:qR=fz:=by cases fz<;>cases qR<;>first|rfl|cases gu
       refine fin (d1:=[.list e es]) (o1:=β id) sN (Ext.leaf h _) rfl bK (fun rest=>gC.arr ae) fun rest I' μ hp0 i1 i2 ρ m eI cu dq=> ?_;replace dq:∀bb,bm P w (β id) (.arr e es qR) bb→yA P I' (.arr e es qR) bb:=dq;change fg P w I' μ hp0 (β id) (.arr e es qR);have cX:=S.h.rel id _ ae;generalize ho:β id=o at cX dq⊢;cases cX with
       |eM hb=>exact .eM hb
       |arr a0 a1 a2 a3 a4 a5 a6 a7=>
        have hn:=dq _ (.root (by simp) a2);refine .arr a0 a1 a2 a3 a4 (fun _ j hi=> ?_) (fun hz=>hn.no (by simp[hz])) fun i j x t' y1 y2 y3=> ?_
        ·obtain⟨e',aI,h1,h2⟩:=hn j hi;cases h1;exact h2
        ·obtain⟨v,z1,z2⟩:=a7 i j x t' y1 y2 y3;exact⟨v,z1,z2.mono i1 fun _ _ _=>rfl⟩
      |_=>cases hr
     |nest e' es vers=>
      cases b with
      |nest e=>
       obtain⟨hc,sN⟩:=ay hr;clear hr;rw[aN]at hc;subst hc;refine fin (d1:=[.list e es]) (o1:=β id) sN (Ext.leaf h _) rfl bK (fun rest=>gC.nest ae) fun rest I' μ hp0 i1 i2 ρ m eI cu dq=> ?_;have afY:∀bb,bm P w (β id) (.nest e es [0,0,0]) bb→∀j,¬I' bb j:=fun bb h=>yA.no (blk:= .nest e es [0,0,0]) (dq bb h) (by simp);change fg P w I' μ hp0 (β id) (.nest e es [0,0,0]);have cX:=S.h.rel id _ ae;generalize ho:β id=o at cX afY⊢;cases cX with
       |jA hb=>exact .jA hb
       |nest hb cR mY=>
        refine .nest hb (fun q b' e1 m1 hq=> ?_) mY;obtain⟨ok,⟨Ca,Tc,c1,c0,c2,c3⟩,nI⟩:=cR q b' e1 m1 hq;refine⟨ok,⟨Ca,Tc,c1,c0,c2,fun i j x t' y1 y2 y3=> ?_⟩,afY _ (.row hb hq)⟩;obtain⟨v,z1,z2⟩:=c3 i j x t' y1 y2 y3;exact⟨v,z1,z2.mono i1 (fun _ _ _=>rfl) fun _ _ _ _ _=>rfl⟩
      |_=>cases hr
     |map t' es=>
      cases b with
      |map t=>
       obtain⟨hc,sN⟩:=ay hr;clear hr;rw[aN]at hc;subst hc;refine fin (d1:=[.list t es]) (o1:=β id) sN (Ext.leaf h _) rfl bK (fun rest=>gC.map ae) fun rest I' μ hp0 i1 i2 ρ m eI cu dq=> ?_;change fg P w I' μ hp0 (β id) (.map t es);have cX:=S.h.rel id _ ae;generalize ho:β id=o at cX dq⊢;cases cX with
       |map a1 a2 a3 a4 a5 a6 a7=>exact .map a1 a2 a3 a4 ((dq _ (.root (by simp[jm]) a2)).no (by simp[jm])) a6 a7
      |_=>cases hr
   |row id ver path=>
    obtain⟨e0,es,vers,l1,k1,k2,k3,k4,k5⟩:=tn hr;obtain⟨e',vv,m1,m2,m3⟩:=DW k5;cases b with
    |arr e fz=>
     cases fz with
     |true=>cases m3
     |false=>
      obtain⟨hc,m4⟩:=ay m3;clear m3;simp only[aG,aN,nF]at hc;obtain⟨rfl,J1,nU⟩:=hc;have cX:=S.h.rel id _ k1;cases hb:β id with
      |none=>
       rw[hb]at cX;cases cX with
       |nest au _ _=>cases au
       |jA _=>
        cases path with
        |nil=>grind
        |cons p q=>obtain⟨i,c⟩:=p;simp[ez]at m2
      |some b0=>
       rw[hb]at cX;cases cX with
       |jA au=>cases au
       |nest au cR mY=>
        cases au;obtain⟨b1,gb⟩:=afW cR path m1 m2 nU;refine fin (d1:=[.list e vv.toList]) (o1:=some b1) m4 (Ext.leaf h _) rfl bK (fun rest=>gC.row k1 hb gb J1 k2 k3 k4 nU) fun rest I' μ hp0 i1 i2 ρ m eI cu dq=> ?_;change fg P w I' μ hp0 (some b1) (.arr e vv.toList false);obtain⟨ok,⟨Ca,Tc,c1,c0,c2,c3⟩,nI⟩:=cR _ _ _ _ gb;refine .arr c0 ok rfl c1 c2 (fun h=>by cases h) (fun _=>(dq _ (.root (by simp[jm]) rfl)).no (by simp[jm])) fun i j x t' y1 y2 y3=> ?_;obtain⟨v,z1,z2⟩:=c3 i j x t' y1 y2 y3;refine⟨v,z1,?_⟩;generalize ca P e x j=y at z2⊢;cases z2 with
        |gN _ p=>exact p.mono i1 fun _ _ _=>rfl
        |emp hu=>exact absurd hu (afZ J1 y2 _)
        |row hu _ _ _ _=>exact absurd hu (afZ J1 y2 _)
    |_=>cases m3
where
 afZ {e t:TypeId} {j:Nat} (h:G6 P e=true) (ht:(aV P e)[j]? =some t) (e':TypeId):P.underlying t≠some (.slice e'):=by
  intro hu;have h2:=im.1 h t (nE ht);grind
end
section
variable {P:Program}{A:dz}{w w':World}{I I' I2:Nat→Nat→Prop}{μ β β' cG:Nat→Option Nat}{hp hp' hp0 bK:Nat→Option ag}{C:af}{B:Nat}{M:Nat→Prop}{w0:Start}
structure qj(w:World)(I:Nat→Nat→Prop)(β:Nat→Option Nat)(hp:Nat→Option ag)(w':World)(I':Nat→Nat→Prop)(β':Nat→Option Nat)(hp':Nat→Option ag):Prop where
 eD:∀b j,I b j→I' b j
 cM:∀b j,I b j→w'.cell? ⟨b,j,none⟩=w.cell? ⟨b,j,none⟩
 blk:∀id blk,hp id=some blk→∃blk',hp' id=some blk'∧blk.le blk'∧(blk'≠ .dead→β' id=β id)
 size:∀id blk blk' b,hp id=some blk→hp' id=some blk'→blk'≠ .dead→β id=some b→bsize w' b=bsize w b
theorem Le.Fc(h:Le P w I β hp w' I' β' hp'):qj w I β hp w' I' β' hp':=⟨h.eD,h.cM,h.blk,h.size⟩
theorem qj.trans{Hm:World}{Hn:Nat→Nat→Prop}{Ho:Nat→Option Nat}{Hp:Nat→Option ag}(h1:qj w I β hp w' I' β' hp')(h2:qj w' I' β' hp' Hm Hn Ho Hp):qj w I β hp Hm Hn Ho Hp:=by
 refine⟨fun b j h=>h2.eD b j (h1.eD b j h),fun b j h=>(h2.cM b j (h1.eD b j h)).trans (h1.cM b j h),fun id blk h=> ?_,fun id blk A9 b h NA hd hb=> ?_⟩
 ·obtain⟨blk',e',l',b'⟩:=h1.blk id blk h;obtain⟨A9,eh,Hq,b''⟩:=h2.blk id blk' e';refine⟨A9,eh,ag.le_trans l' Hq,fun hd=> ?_⟩;have ga:blk'≠ .dead:=fun e=>hd (ag.vO (e▸Hq));grind
 ·obtain⟨blk',e',l',b'⟩:=h1.blk id blk h;obtain⟨lx,e3,l3,b3⟩:=h2.blk id blk' e';obtain rfl:lx=A9:=by grind
  have ga:blk'≠ .dead:=fun e=>hd (ag.vO (e▸l3));rw[h2.size id blk' lx b e' e3 hd ((b' ga).trans hb),h1.size id blk blk' b h e' ga hb]
def vd(P:Program)(w:World)(μ:Nat→Option Nat)(hp0:Nat→Option ag)(b:Nat):Prop:= ∃j blk,hp0 j=some blk∧bm P w (μ j) blk b
structure atT(P:Program)(A:dz)(key:Nat)(w:World)(I:Nat→Nat→Prop)(μ:Nat→Option Nat)(ds es:List V)(w':World)(v:Value)(I2:Nat→Nat→Prop)(cG:Nat→Option Nat):Prop where
 Fe:ax P w' I2 cG (bL (A.so key es) (A.lv key es)).hp w.heap.size (vd P w μ (bL (A.sin key) ds).hp) ⟨w,I⟩
 le:qj w I μ (bL (A.sin key) ds).hp w' I2 cG (bL (A.so key es) (A.lv key es)).hp
 res:ai P w' I2 cG (bL (A.so key es) (A.lv key es)).hp v (vK (jy (A.so key es).ch (A.lv key es)))
def qk(P:Program)(A:dz)(C:af):Prop:=
 ∀key ds es,C key ds=some es→∃fn c,P.funcs[A.ky key]? =some fn∧fn.body=some c∧
  ∀(w:World) (I:Nat→Nat→Prop) (μ:Nat→Option Nat) (vals:List Value),
   A7 P w I μ (bL (A.sin key) ds).hp w.heap.size (vd P w μ (bL (A.sin key) ds).hp)→ly P A.aC w I→
   vals.length=(A.sin key).ch.length→(∀(j:Nat) v x,vals[j]? =some v→(j4 ((A.sin key).ch.map (·.2)) ds)[j]? =some x→ai P w I μ (bL (A.sin key) ds).hp v x)→
   Calls P (A.ky key) vals.toArray w fun e w'=> ∃v I2 cG,e= .returned v∧atT P A key w I μ ds es w' v I2 cG
theorem gC.Cf{p:Place}{o:Option Nat}{blk:ag}{b:Nat}(h:gC P w β hp p o blk)(ho:bm P w o blk b):
  ∃wK,hp p.id=some wK∧bm P w (β p.id) wK b∧∀e es,wK= .arr e es true→blk= .arr e es true∧o=β p.id:=by
 cases h with
 |var h=>exact⟨_,h,.root (by simp) (ho.flat (by simp)),by simp⟩
 |arr h=>exact⟨_,h,.root (by simp) (ho.flat (by simp)),fun _ _ h=>⟨h,rfl⟩⟩
 |map h=>exact⟨_,h,.root (by simp) (ho.flat (by simp)),by simp⟩
 |nest h=>
  refine⟨_,h,?_,by simp⟩;cases ho with
  |root _ hb=>exact .root (by simp) hb
  |row hb ha=>exact .row hb ha
 |row h hb ha _ _ _ _ _=>
  have:=ho.flat (by simp)
  cases this;exact⟨_,h,.row hb ha,by simp⟩
theorem ax.atU(S:ax P w I β hp B M w0){id b:Nat}{blk:ag}(ae:hp id=some blk)(ho:bm P w (β id) blk b)(hf:∀e es,blk≠ .arr e es true):∀j,¬I b j:=by
 have hr:=S.h.rel id blk ae;generalize β id=o at hr ho;cases hr with
 |var hb _ _ hI _ _=>have:=ho.flat (by simp);grind
 |eM hb=>have:=ho.flat (by simp);grind
 |@arr e _ es fz _ _ _ _ hb _ _ _ fR _=>
  have:=ho.flat (by simp)
  simp_all
 |dead=>exact absurd rfl ho.alive
 |map _ hb _ _ hI _ _=>have:=ho.flat (by simp);grind
 |out hb _ _ hh _ _ hI hc hr _=>
  cases ho with
  |root _ au=>grind
  |sg au Bc hj hx h0 hv=>
   rw[hb]at au;cases au;rw[hh]at Bc;cases Bc;obtain⟨_,_,m1,_⟩:=hc _ _ hj hx;cases m1;exact(hr _ _ _ _ hj hx h0 hv).2.nI
 |jA hb=>cases ho<;>simp_all
 |nest hb hr _=>
  cases ho with
  |root _ au=>rw[hb]at au;cases au;exact(hr _ _ _ _ .here).nI
  |row au ha=>rw[hb]at au;cases au;exact(hr _ _ _ _ ha).nI
theorem Qn{a b:List Nat}(h:DG a b=false){x:Nat}(ha:x∈a):x∉b:=by
 intro hb;unfold DG at h;rw[List.any_eq_false]at h;exact h x ha (Bm hb)
theorem atV(S:ax P w I β hp B M w0){pl:List Place}{upd:List (Nat×ag)}{o:Nat→Option Nat}(jN:(pl.map Place.id).Nodup)(BH:DG (upd.map (·.1)) (pl.map Place.id)=false)
  (hl:∀j blk,hp0 j=some blk→∃p,gK pl j=some p∧gC P w β hp p (o j) blk)
  (cX:(∀j blk,hp0 j=some blk→∀b,bm P w (o j) blk b→yA P (kG P w I β hp upd) blk b)→∀j blk,hp0 j=some blk→fg P w (kG P w I β hp upd) o hp0 (o j) blk) (aO:∀b j,kG P w I β hp upd b j→b<w.heap.size):
  A7 P w (kG P w I β hp upd) o hp0 w.heap.size (vd P w o hp0):=by
 have dq:∀j blk,hp0 j=some blk→∀b,bm P w (o j) blk b→yA P (kG P w I β hp upd) blk b:=by
  intro j blk hj b ho jj hI;obtain⟨p,bK,gv⟩:=hl j blk hj;obtain⟨wK,k1,k2,k3⟩:=gv.Cf ho;rcases hI with hI|⟨q,hq,cC,q1,q2⟩
  ·by_cases hz:∃e es,wK= .arr e es true
   ·obtain⟨e,es,rfl⟩:=hz;obtain⟨rfl,h4⟩:=k3 e es rfl;refine⟨e,es,rfl,?_⟩;have hr:=S.h.rel _ _ k1;have hb:=k2.flat (by simp)
    generalize β p.id=o' at hr hb;cases hr with
    |eM h=>rw[hb]at h;cases h
    |arr _ _ a2 _ _ a5 _ _=>rw[hb]at a2;cases a2;exact a5 rfl jj hI
   ·exact absurd hI (S.atU k1 k2 (fun e es h=>hz ⟨e,es,h⟩) jj)
  ·exfalso;have:=S.h.inj _ _ _ _ b q1 k1 q2.own k2;refine Qn BH (gm.2 ⟨q,hq,rfl⟩) ?_;rw[this];rw[rH]at bK;grind
 refine⟨cX dq,fun j1 j2 b1 b2 b h1 h2 o1 o2=> ?_,fun j blk b h1 o1=> .inl ⟨j,blk,h1,o1⟩,aO⟩;obtain⟨p1,q1,q2⟩:=hl j1 b1 h1;obtain⟨p2,r1,r2⟩:=hl j2 b2 h2;obtain⟨c1,x1,x2,_⟩:=q2.Cf o1;obtain⟨c2,y1,y2,_⟩:=r2.Cf o2;have ae:=S.h.inj _ _ _ _ b x1 y1 x2 y2;rw[rH]at q1 r1;have m1:(pl.map Place.id)[j1]? =some p1.id:=by grind
 have m2:(pl.map Place.id)[j2]? =some p2.id:=by grind
 rw[←ae]at m2;obtain⟨z1,z2⟩:=cw.1 m1;obtain⟨z3,z4⟩:=cw.1 m2;exact(List.getElem_inj jN).1 (z2.trans z4.symm)
def af0:V→Prop
 | .list .. =>False
 | .nl .. =>False
 | .pref .. =>False
 | .agg _=>False
 | .bf _=>False
 | .fn .. =>False
 |_=>True
theorem ai.free{v:Value}{x:V}(h:ai P w I β hp v x)(hx:af0 x):ai P w I' β hp v x:=by
 cases h with
 |undef=>exact .undef
 |int=>exact .int
 |bool=>exact .bool
 |str h=>exact .str h
 |list h=>exact hx.elim
 |nilS=>exact .nilS
 |nl=>exact hx.elim
 |agg=>exact hx.elim
 |bf=>exact hx.elim
 |eV=>exact .eV
 |fn=>exact hx.elim
 |pref=>exact hx.elim
 |ei h=>exact .ei h
 |j8 h=>exact .j8 h
 |nP h=>exact .nP h
 |dZ h hb=>exact .dZ h hb
 |whole h hb a b c=>exact .whole h hb a b c
 |dQ h hb a b c=>exact .dQ h hb a b c
 |eA h hb=>exact .eA h hb
 |fK h hb a b c=>exact .fK h hb a b c
 |jz h hb=>exact .jz h hb
 |sub h hb a b c=>exact .sub h hb a b c
 |ptr h hd hb=>exact .ptr h hd hb
 |nQ h yq=>exact .nQ h yq
 |nR h yq=>exact .nR h yq
 |row h hb a b c d=>exact .row h hb a b c d
 |dH h hb a b c d e=>exact .dH h hb a b c d e
 |ff=>exact .ff
 |mj h=>exact .mj h
 |cK h hb=>exact .cK h hb
theorem J2{l:LS}{ds:List V}(hs:l.safe=true):af0 (mf l ds):=by
 cases l<;>simp only[LS.safe]at hs<;>first|(cases hs;done)|trivial
theorem J3:∀{ls:List LS} {ds:List V} {j:Nat} {y:V},(jx ls ds)[j]? =some y→∃l lf,l∈ls∧y=mf l lf
 | [],ds,j,y,h=>by simp[jx]at h
 |l::ls,ds,j,y,h=>by
  simp only[jx]at h;cases j with
  |zero=>grind
  |succ j=>
   obtain⟨l',lf,h1,h2⟩:=J3 (j:=j) (by simpa using h);grind
theorem af1:∀{ls:List VS} {ds:List V} {j:Nat} {y:V},(j4 ls ds)[j]? =some y→∃l lf,l∈ls∧y=oZ l lf
 | [],ds,j,y,h=>by simp[j4]at h
 |l::ls,ds,j,y,h=>by
  simp only[j4]at h;cases j with
  |zero=>grind
  |succ j=>
   obtain⟨l',lf,h1,h2⟩:=af1 (j:=j) (by simpa using h);grind
theorem af2{s:VS}{ds:List V}{v:Value}(h:ai P w I β hp v (oZ s ds))(hs:s.safe=true):ai P w I' β hp v (oZ s ds):=by
 cases s with
 |one l=>exact h.free (J2 hs)
 |agg ls=>
  simp only[oZ]at h⊢;obtain⟨cs,rfl,e1,e2⟩:=h.oq;refine .agg e1 fun j v x hj hx=> ?_;obtain⟨l,lf,k1,rfl⟩:=J3 hx;exact(e2 j v _ hj hx).free (J2 (im.1 hs l k1))
 |bf ls=>
  simp only[oZ]at h⊢;obtain⟨cs,rfl,e1,e2⟩:=h.Bh;refine .bf e1 fun j v x hj hx=> ?_;obtain⟨l,lf,k1,rfl⟩:=J3 hx;exact(e2 j v _ hj hx).free (J2 (im.1 hs l k1))
 |fn f a b=>
  simp only[VS.safe,aG]at hs;simp only[oZ]at h⊢;cases h with
  |fn a1 a2 b1 b2=>
   refine .fn a1 (fun j v x hj hx=> ?_) b1 (fun j v x hj hx=> ?_)
   ·obtain⟨l,lf,k1,rfl⟩:=J3 hx;exact(a2 j v _ hj hx).free (J2 (im.1 hs.1 l k1))
   ·obtain⟨l,lf,k1,rfl⟩:=J3 hx;exact(b2 j v _ hj hx).free (J2 (im.1 hs.2 l k1))
 |pref ts ls=>cases hs
theorem Pure.scalar{t:TypeId}{v:Value}{x:V}(h:Pure P w I t v x)(hn:∀e,P.underlying t≠some (.slice e)):Pure P w I' t v x:=by
 cases h with
 |int h=>exact .int h
 |bool h=>exact .bool h
 |str h hl=>exact .str h hl
 |nil h=>grind
 |emp h=>grind
 |list g h=>grind
theorem atW{e t:TypeId}{j:Nat}(h:G6 P e=true)(ht:(aV P e)[j]? =some t)(e':TypeId):P.underlying t≠some (.slice e'):=by
 intro hu;have h2:=im.1 h t (nE ht);grind
theorem atX{o:Option Nat}{b:BS}{ds:List V}(h:fg P w I2 β hp o (jm b ds))(hs:b.safe P=true)(hi:∀b j,I b j→I2 b j):fg P w I β hp o (jm b ds):=by
 cases b with
 |dead=>exact .dead
 |var T0 ls=>
  simp only[jm]at h⊢;cases h with
  |var hb hh aZ hI hx jo=>
   refine .var hb hh aZ (fun j h=>hI j (hi _ j h)) (fun j v x hj dk=> ?_) jo;obtain⟨l,lf,k1,rfl⟩:=af1 dk;exact af2 (hx j v _ hj dk) (im.1 hs l k1)
 |arr e fz=>
  simp only[BS.safe,aG,nG]at hs;obtain⟨rfl,J1⟩:=hs;simp only[jm]at h⊢;generalize (V.nth ds 0).toList=es at h⊢;cases h with
  |eM hb=>exact .eM hb
  |arr a0 a1 a2 a3 a4 a5 a6 a7=>
   refine .arr a0 a1 a2 a3 a4 (fun h=>by cases h) (fun _ j h=>a6 rfl j (hi _ j h)) fun i j x t' y1 y2 y3=> ?_;obtain⟨v,z1,z2⟩:=a7 i j x t' y1 y2 y3;exact⟨v,z1,z2.scalar (atW J1 y2)⟩
 |nest e=>
  simp only[jm]at h⊢;generalize (V.nth ds 0).toList=es at h⊢;cases h with
  |jA hb=>exact .jA hb
  |nest hb cR mY=>
   refine .nest hb (fun q b' e1 m1 hq=> ?_) mY;obtain⟨ok,⟨Ca,Tc,c1,c0,c2,c3⟩,nI⟩:=cR q b' e1 m1 hq;refine⟨ok,⟨Ca,Tc,c1,c0,c2,fun i j x t' y1 y2 y3=> ?_⟩,fun j h=>nI j (hi _ j h)⟩;obtain⟨v,z1,z2⟩:=c3 i j x t' y1 y2 y3;refine⟨v,z1,?_⟩;generalize ca P e1 x j=y at z2⊢;cases z2 with
   |gN a p=>
    refine .gN a (p.scalar fun e hu=> ?_);unfold eg at a;grind
   |emp a=>exact .emp a
   |row a b c d e=>exact .row a b c d e
 |map t=>
  simp only[jm]at h⊢;cases h with
  |map a1 a2 a3 a4 a5 a6 a7=>exact .map a1 a2 a3 a4 (fun j h=>a5 j (hi _ j h)) a6 a7
theorem Qo:∀{l:List BS} {ds:List V} {j:Nat} {y:ag},(iM l ds)[j]? =some y→∃b lf,l[j]? =some b∧y=jm b lf
 | [],ds,j,y,h=>by simp[iM]at h
 |b::l,ds,j,y,h=>by
  simp only[iM]at h;cases j with
  |zero=>grind
  |succ j=>
   obtain⟨b',lf,h1,h2⟩:=Qo (j:=j) (by simpa using h);grind
theorem af3:∀{l:List (Nat×VS)} {ds:List V} {q:Nat×V},q∈jy l ds→∃s lf,(q.1,s)∈l∧q.2=oZ s lf
 | [],ds,q,h=>by simp[jy]at h
 |(k,s)::l,ds,q,h=>by
  simp only[jy,jg]at h;rcases h with h|h
  ·grind
  ·obtain⟨s',lf,h1,h2⟩:=af3 h;grind
theorem atY{S:Shape}{es:List V}(hs:S.safe P=true)(hi:∀b j,I b j→I2 b j){N:Nat→Prop}{st:Start}(h:ax P w' I2 cG (bL S es).hp B N st)(h0:∀b j,I b j→st.I b j):
  ax P w' I cG (bL S es).hp B N st∧∀v,ai P w' I2 cG (bL S es).hp v (vK (jy S.ch es))→ai P w' I cG (bL S es).hp v (vK (jy S.ch es)):=by
 unfold Shape.safe at hs;simp only[aG]at hs;obtain⟨lz,pn⟩:=hs;have one:∀q∈jy S.ch es,∀v,ai P w' I2 cG (bL S es).hp v q.2→ai P w' I cG (bL S es).hp v q.2:=by
  intro q hq v hv;obtain⟨s,lf,k1,k2⟩:=af3 hq;rw[k2]at hv⊢;exact af2 hv (im.1 lz _ k1)
 refine⟨⟨⟨fun j blk hj=> ?_,h.h.inj,h.h.own,fun b j hb=>h.h.kC b j (hi b j hb)⟩,h.cM,h.size,fun b j hb=> .inl (h0 b j hb),h.io⟩,fun v hv=> ?_⟩
 ·have hr:=h.h.rel j blk hj;have iY:=hj;simp only[bL,mk,lQ]at iY;obtain⟨b,lf,k1,rfl⟩:=Qo iY;exact atX hr (im.1 pn _ (nE k1)) hi
 ·generalize jy S.ch es=l at one hv⊢
  match l,one,hv with
  | [],_,hv=>
   simp only[vK,List.map_nil]at hv⊢;obtain⟨cs,rfl,e1,e2⟩:=hv.Bh;exact .bf e1 fun j v x _ hx=>by simp at hx
  | [q],one,hv=>exact one q (jV.2 rfl) v hv
  |q::q2::l,one,hv=>
   simp only[vK]at hv⊢;obtain⟨cs,rfl,e1,e2⟩:=hv.Bh;refine .bf e1 fun j v x hj hx=> ?_;grind
end
section
variable {P:Program}{A:dz}{w w':World}{I I' I2:Nat→Nat→Prop}{μ β β' cG:Nat→Option Nat}{hp hp' hp0 bK:Nat→Option ag}{C:af}{B:Nat}{M:Nat→Prop}{w0:Start}
inductive km(σ:List Place):ag→ag→Prop
 |dead:km σ .dead .dead
 |var {T:TypeId} {cs:List V}:km σ (.var T cs) (.var T (cs.map (Nq σ)))
 |arr {e:TypeId} {es:List V} {fz:Bool}:km σ (.arr e es fz) (.arr e es fz)
 |nest {e:TypeId} {es:List V} {v1 v2:List Nat}:km σ (.nest e es v1) (.nest e es v2)
 |map {t:TypeId} {es:List V}:km σ (.map t es) (.map t es)
 |out {e:TypeId} {es:List V} {vs:List Nat} {i:Nat}:km σ (.out e es vs i) .dead
theorem km.of(σ:List Place)(b:ag):km σ b (A0 σ b):=by
 cases b with
 |dead=>exact .dead
 |var T cs=>exact .var
 |arr e es fz=>exact .arr
 |nest e es v=>exact .nest
 |map t es=>exact .map
 |out e es vs i=>exact .out
theorem af4{σ:List Place}:∀{pl:List Place} {bs:List ag} {acc:List (Nat×ag)} {k:List (Nat×ag)→Rd R} {r:R} {rd:List Nat},(xC σ pl bs acc k).run C hp=some (r,rd)→
  pl.length≤bs.length∧∃bk iB,(k bk).run C hp=some (r,iB)∧(∀q∈bk,q∈acc∨∃(j:Nat) (b:ag),pl[j]? =some (.blk q.1)∧bs[j]? =some b∧km σ b q.2∧((∃e es v2,q.2= .nest e es v2)→∃e es vers e' aI,hp q.1=some (.nest e es vers)∧q.2= .nest e' aI (vers.map (· +1))))∧
   (∀q∈acc,q∈bk)∧∀(j:Nat) p,pl[j]? =some p→∃id b,p= .blk id∧(id,b)∈bk
 | [],bs,acc,k,r,rd,h=>⟨nH _,acc,rd,by simpa only[xC]using h,fun q hq=> .inl hq,fun q hq=>hq,fun j p hp=>by simp at hp⟩
 | .row _ _ _::pl,bs,acc,k,r,rd,h=>by
  cases bs<;>(simp only[xC]at h;cases h)
 | .blk id::pl,[],acc,k,r,rd,h=>by simp only[xC]at h;cases h
 | .blk id::pl,b::bs,acc,k,r,rd,h=>by
  have fin:∀{b2:ag} {kj:List Nat},(xC σ pl bs ((id,b2)::acc) k).run C hp=some (r,kj)→km σ b b2→((∃e es v2,b2= .nest e es v2)→∃e es vers e' aI,hp id=some (.nest e es vers)∧b2= .nest e' aI (vers.map (· +1)))→
    (Place.blk id::pl).length≤(b::bs).length∧∃bk iB,(k bk).run C hp=some (r,iB)∧(∀q∈bk,q∈acc∨∃(j:Nat) (b':ag),(Place.blk id::pl)[j]? =some (.blk q.1)∧(b::bs)[j]? =some b'∧km σ b' q.2∧((∃e es v2,q.2= .nest e es v2)→∃e es vers e' aI,hp q.1=some (.nest e es vers)∧q.2= .nest e' aI (vers.map (· +1))))∧
     (∀q∈acc,q∈bk)∧∀(j:Nat) p,(Place.blk id::pl)[j]? =some p→∃id b,p= .blk id∧(id,b)∈bk:=by
   intro b2 kj h1 hb hn;obtain⟨a0,bk,iB,a1,a2,a3,a4⟩:=af4 h1;refine⟨by simp only[List.length_cons];omega,bk,iB,a1,fun q hq=> ?_,fun q hq=>a3 q (jU _ hq),fun j p hj=> ?_⟩
   ·rcases a2 q hq with h|⟨j,b',k1,k2,k3,k4⟩
    ·rcases jg.1 h with e|h
     ·subst e;exact .inr ⟨0,b,rfl,rfl,hb,hn⟩
     ·exact .inl h
    ·exact .inr ⟨j+1,b',by simpa using k1,by simpa using k2,k3,k4⟩
   ·cases j with
    |zero=>simp at hj;subst hj;exact⟨id,b2,rfl,a3 _ (qz ..)⟩
    |succ j=>exact a4 j p (by simpa using hj)
  cases b with
  |nest e es v=>
   simp only[xC]at h;obtain⟨l,h⟩:=run_get h;cases ae:hp id with
   |none=>rw[ae]at h;cases h
   |some blk=>
    rw[ae]at h;cases blk with
    |nest e0 PY vers=>exact fin h .nest fun _=>⟨e0,PY,vers,e,es,ae,rfl⟩
    |_=>cases h
  |dead=>exact fin h (.of σ _) fun⟨_,_,_,h⟩=>by cases h
  |var T cs=>exact fin h (.of σ _) fun⟨_,_,_,h⟩=>by cases h
  |arr e es fz=>exact fin h (.of σ _) fun⟨_,_,_,h⟩=>by cases h
  |map t es=>exact fin h (.of σ _) fun⟨_,_,_,h⟩=>by cases h
  |out e es vs i=>exact fin h (.of σ _) fun⟨_,_,_,h⟩=>by cases h
theorem af5{σ:List Place}:∀{bs:List ag} {n:Nat} {q:Nat×ag},q∈xD σ n bs→∃i b,bs[i]? =some b∧q=(n+i,A0 σ b)
 | [],n,q,h=>by simp[xD]at h
 |b::bs,n,q,h=>by
  simp only[xD,jg]at h;rcases h with h|h
  ·exact⟨0,b,rfl,h⟩
  ·obtain⟨i,b',h1,h2⟩:=af5 h;exact⟨i+1,b',by simpa using h1,by rw[h2];congr 1;omega⟩
theorem af6{σ:List Place}:∀{bs:List ag} {n i:Nat} {b:ag},bs[i]? =some b→(n+i,A0 σ b)∈xD σ n bs
 | [],n,i,b,h=>by simp at h
 |b0::bs,n,i,b,h=>by
  simp only[xD,jg];cases i with
  |zero=>simp at h;subst h;exact .inl rfl
  |succ i=>exact .inr (by rw[show n+(i+1)=n+1+i by omega];exact af6 (by simpa using h))
theorem Qp:∀{k n i:Nat},i<k→(zo n k)[i]? =some (.blk (n+i))
 |0,n,i,h=>by omega
 |k+1,n,0,h=>rfl
 |k+1,n,i+1,h=>by
  simp only[zo,List.getElem?_cons_succ];rw[Qp (by omega)];congr 2;omega
theorem Xp:∀{k n:Nat},(zo n k).length=k
 |0,_=>rfl
 |k+1,n=>by simp[zo,Xp]
theorem af7:∀{bs:List (Nat×ag)} {k:Rd R} {r:R} {rd:List Nat},(Nr bs k).run C hp=some (r,rd)→(∀q∈bs,hp q.1=none)∧∃iB,k.run C hp=some (r,iB)
 | [],k,r,rd,h=>⟨by simp,rd,h⟩
 |(id,b)::l,k,r,rd,h=>by
  simp only[Nr]at h;obtain⟨l1,h⟩:=run_get h;cases ae:hp id with
  |some blk=>rw[ae]at h;cases h
  |none=>
   rw[ae]at h;obtain⟨h1,h2⟩:=af7 h;refine⟨fun q hq=> ?_,h2⟩;rcases jg.1 hq with e|hq
   ·subst e;exact ae
   ·exact h1 q hq
structure wM(σ:List Place)(cG:Nat→Option Nat)(bK:Nat→Option ag)(β':Nat→Option Nat)(hp':Nat→Option ag):Prop where
 blk:∀j b,bK j=some b→∃id b',gK σ j=some (.blk id)∧hp' id=some b'∧km σ b b'∧(b≠ .dead→β' id=cG j)
 none:∀j,bK j=none→gK σ j=none
 aHg:∀j id ver path,gK σ j≠some (.row id ver path)
theorem wM.leaf{σ:List Place}(T:wM σ cG bK β' hp'){v:Value}{x:V}(h:ai P w I cG bK v x):ai P w I β' hp' v (nM σ x):=by
 have look:∀{j b},bK j=some b→∃id b',gK σ j=some (.blk id)∧hp' id=some b'∧km σ b b'∧(b≠ .dead→β' id=cG j):=fun h=>T.blk _ _ h;cases h with
 |undef=>exact .undef
 |int=>exact .int
 |bool=>exact .bool
 |str h=>exact .str h
 |list h=>exact .list h
 |nilS=>exact .nilS
 |nl h h0=>exact .nl h h0
 |agg=>exact .undef
 |bf=>exact .undef
 |eV=>exact .eV
 |fn=>exact .undef
 |pref a b c=>exact .pref a b c
 |@ei _ e j h=>
  obtain⟨id,b',k1,k2,k3,k4⟩:=look h;simp only[nM,k1];cases k3;exact .ei k2
 |@j8 _ e j _ _ h=>
  obtain⟨id,b',k1,k2,k3,k4⟩:=look h;simp only[nM,k1];cases k3;exact .j8 k2
 |@nP _ j _ _ h=>
  obtain⟨id,b',k1,k2,k3,k4⟩:=look h;simp only[nM,k1];cases k3;exact .nP k2
 |@dZ e j fz _ h hb=>
  obtain⟨id,b',k1,k2,k3,k4⟩:=look h;simp only[nM,k1];cases k3;exact .dZ k2 ((k4 (by simp)).trans hb)
 |@whole e j es fz b cap h hb a1 a2 a3=>
  obtain⟨id,b',k1,k2,k3,k4⟩:=look h;simp only[nM,k1];cases k3;exact .whole k2 ((k4 (by simp)).trans hb) a1 a2 a3
 |@dQ e j es vers b cap h hb a1 a2 a3=>
  obtain⟨id,b',k1,k2,k3,k4⟩:=look h;simp only[nM,k1];cases k3;exact .dQ k2 ((k4 (by simp)).trans hb) a1 a2 a3
 |@fK e j i es vers b cap h hb a1 a2 a3=>
  obtain⟨id,b',k1,k2,k3,k4⟩:=look h;simp only[nM,k1];cases k3;exact .ei k2
 |@eA e j vers _ h hb=>
  obtain⟨id,b',k1,k2,k3,k4⟩:=look h;simp only[nM,k1];cases k3;exact .eA k2 ((k4 (by simp)).trans hb)
 |@jz e j fz _ h hb=>
  obtain⟨id,b',k1,k2,k3,k4⟩:=look h;simp only[nM,k1];cases k3;exact .jz k2 ((k4 (by simp)).trans hb)
 |@sub e j off len es fz b o cap h hb a1 a2 a3=>
  obtain⟨id,b',k1,k2,k3,k4⟩:=look h;simp only[nM,k1];cases k3;exact .sub k2 ((k4 (by simp)).trans hb) a1 a2 a3
 |@ptr j i c b blk h hd hb=>
  obtain⟨id,b',k1,k2,k3,k4⟩:=look h;simp only[nM,k1];by_cases ga:b'= .dead
  ·subst ga;exact .nP k2
  have hs:blk.sz P=b'.sz P:=by cases k3<;>first|rfl|exact absurd rfl ga
  rw[hs];exact .ptr k2 ga ((k4 hd).trans hb)
 |nQ=>exact .undef
 |nR=>exact .undef
 |row=>exact .undef
 |dH=>exact .undef
 |ff=>exact .ff
 |@mj _ t j h=>
  obtain⟨id,b',k1,k2,k3,k4⟩:=look h;simp only[nM,k1];cases k3;exact .mj k2
 |@cK t j b es h hb=>
  obtain⟨id,b',k1,k2,k3,k4⟩:=look h;simp only[nM,k1];cases k3;exact .cK k2 ((k4 (by simp)).trans hb)
theorem wM.one{σ:List Place}(T:wM σ cG bK β' hp'){v:Value}{x:V}(h:ai P w I cG bK v x):ai P w I β' hp' v (TN σ x):=by
 cases x with
 |agg xs=>
  obtain⟨cs,rfl,e1,e2⟩:=h.oq;exact .agg (by simpa using e1) fun j v y hj hy=>by
   rw[jX]at hy;cases hx:xs[j]? with
   |none=>rw[hx]at hy;cases hy
   |some x=>rw[hx]at hy;cases hy;exact T.leaf (e2 j v x hj hx)
 |fn f a b=>
  cases h with
  |fn a1 a2 b1 b2=>
   refine .fn (by simpa using a1) (fun j v y hj hy=> ?_) (by simpa using b1) (fun j v y hj hy=> ?_)
   ·rw[jX]at hy;cases hx:a[j]? with
    |none=>rw[hx]at hy;cases hy
    |some x=>rw[hx]at hy;cases hy;exact T.leaf (a2 j v x hj hx)
   ·rw[jX]at hy;cases hx:b[j]? with
    |none=>rw[hx]at hy;cases hy
    |some x=>rw[hx]at hy;cases hy;exact T.leaf (b2 j v x hj hx)
 |_=>exact T.leaf h
theorem wM.val{σ:List Place}(T:wM σ cG bK β' hp'){v:Value}{x:V}(h:ai P w I cG bK v x):ai P w I β' hp' v (Nq σ x):=by
 cases x with
 |bf xs=>
  obtain⟨cs,rfl,e1,e2⟩:=h.Bh;exact .bf (by simpa using e1) fun j v y hj hy=>by
   rw[jX]at hy;cases hx:xs[j]? with
   |none=>rw[hx]at hy;cases hy
   |some x=>rw[hx]at hy;cases hy;exact T.one (e2 j v x hj hx)
 |_=>exact T.one h
theorem wM.af8{σ:List Place}(T:wM σ cG bK β' hp'){o:Option Nat}{b b':ag}(h:fg P w I cG bK o b)(hb:km σ b b'):fg P w I β' hp' o b':=by
 cases hb with
 |dead=>exact .dead
 |var=>
  cases h with
  |var a1 a2 a3 a4 a5 a6=>
   refine .var a1 a2 (by simpa using a3) a4 (fun j v y hj hy=> ?_) a6;rw[jX]at hy;cases hx:(_:List V)[j]? with
   |none=>rw[hx]at hy;cases hy
   |some x=>rw[hx]at hy;cases hy;exact T.val (a5 j v x hj hx)
 |arr=>
  cases h with
  |eM hb=>exact .eM hb
  |arr a0 a1 a2 a3 a4 a5 a6 a7=>exact .arr a0 a1 a2 a3 a4 a5 a6 a7
 |nest=>
  cases h with
  |nest a1 a2 a3=>exact .nest a1 a2 a3
  |jA a1=>exact .jA a1
 |map=>
  cases h with
  |map a1 a2 a3 a4 a5 a6 a7=>exact .map a1 a2 a3 a4 a5 a6 a7
 |out=>exact .dead
theorem km.Cf{σ:List Place}{o:Option Nat}{b b':ag}(h:km σ b b'){m:Nat}(ho:bm P w o b' m):bm P w o b m:=by
 cases h with
 |dead=>exact absurd rfl ho.alive
 |var=>exact .root (by simp) (ho.flat (by simp))
 |arr=>exact .root (by simp) (ho.flat (by simp))
 |map=>exact .root (by simp) (ho.flat (by simp))
 |out=>exact absurd rfl ho.alive
 |nest=>
  cases ho with
  |root _ hb=>exact .root (by simp) hb
  |row hb ha=>exact .row hb ha
theorem km.af9{σ:List Place}{b b':ag}(h:km σ b b'):b'≠ .dead→b≠ .dead:=by
 intro h1 h2;subst h2;cases h;exact h1 rfl
end
section
variable {P:Program}{A:dz}{w w':World}{I I' I2:Nat→Nat→Prop}{μ β β' cG:Nat→Option Nat}{hp hp' hp0 bK:Nat→Option ag}{C:af}{B:Nat}{M:Nat→Prop}{w0:Start}
theorem aga:∀{vs:List Nat} {k:Nat},k<vs.length→bG (vs.map (· +1)) k=bG vs k+1
 | [],k,h=>by simp at h
 |v::vs,0,h=>rfl
 |v::vs,k+1,h=>by simp only[mc,bG];exact aga (by grind)
theorem agb:∀{vs:List Nat} {k:Nat},bG vs k≤bG (vs.map (· +1)) k
 | [],k=>by grind
 |v::vs,0=>by simp[bG]
 |v::vs,k+1=>by simp only[mc,bG];exact agb
def J4(hp:Nat→Option ag)(q:Nat×ag):Prop:=(∃e es v2,q.2= .nest e es v2)→∃e es vers e' aI,hp q.1=some (.nest e es vers)∧q.2= .nest e' aI (vers.map (· +1))
theorem gC.Xq{id:Nat}{o:Option Nat}{blk:ag}(h:gC P w β hp (.blk id) o blk):o=β id∧∃b0,hp id=some b0∧b0≠ .dead:=by
 cases h with
 |var h=>grind
 |arr h=>grind
 |nest h=>grind
 |map h=>grind
theorem gC.atZ{id:Nat}{o:Option Nat}{c b b' b0:ag}{σ:List Place}(h:gC P w β hp (.blk id) o c)(h0:hp id=some b0)(hle:c.le b)(hb:km σ b b')(hn:J4 hp (id,b')):b0.le b':=by
 cases h with
 |var h=>
  rw[h]at h0;cases h0;cases hb with
  |dead=>trivial
  |out=>trivial
  |var=>trivial
  |arr=>exact hle.elim
  |nest=>exact hle.elim
  |map=>exact hle.elim
 |arr h=>
  rw[h]at h0;cases h0;cases hb with
  |dead=>trivial
  |out=>trivial
  |var=>exact hle.elim
  |arr=>exact hle
  |nest=>exact hle.elim
  |map=>omega
 |map h=>
  rw[h]at h0;cases h0;cases hb with
  |dead=>trivial
  |out=>trivial
  |map=>exact hle
  |_=>exact hle.elim
 |nest h=>
  rw[h]at h0;cases h0;cases hb with
  |dead=>trivial
  |out=>trivial
  |var=>exact hle.elim
  |arr=>exact hle
  |map=>exact hle.elim
  |@nest e es v1 v2=>
   obtain⟨e1,dp,zA,e2,bR,k1,k2⟩:=hn ⟨_,_,_,rfl⟩;cases k2;change hp id=_ at k1;rw[h]at k1;cases k1;exact⟨hle.1,hle.2.1,by simp,fun k=>agb⟩
theorem gC.other{p:Place}{o:Option Nat}{blk:ag}(h:gC P w β hp p o blk)(he:hp' p.id=hp p.id):gC P w β hp' p o blk:=by
 cases h with
 |var h=>exact .var (he.trans h)
 |arr h=>exact .arr (he.trans h)
 |nest h=>exact .nest (he.trans h)
 |map h=>exact .map (he.trans h)
 |row h a b c d e f g=>exact .row (he.trans h) a b c d e f g
open Classical in
theorem agc(S:ax P w I β hp B M w0){pl:List Place}{o:Nat→Option Nat}{bs:List ag}{nb:Nat}{bk fr:List (Nat×ag)}{σ:List Place}(yB:σ=pl++zo nb (bs.length-pl.length))(J5:fr=xD σ nb (bs.drop pl.length))
  (jN:(pl.map Place.id).Nodup) (uE:pl.length≤bs.length)
  (xV:∀(j:Nat) p,pl[j]? =some p→∃id b,p= .blk id∧(id,b)∈bk) (Cg:∀q∈bk,∃(j:Nat) (b:ag),pl[j]? =some (.blk q.1)∧bs[j]? =some b∧km σ b q.2∧J4 hp q)
  (hl:∀j blk,hp0 j=some blk→∃p,gK pl j=some p∧gC P w β hp p (o j) blk) (hd:∀j,j<pl.length→∃blk,hp0 j=some blk)
  (Sc:ax P w' I2 cG (oj bs) w.heap.size (vd P w o hp0) ⟨w,I⟩) (Ff:qj w I o hp0 w' I2 cG (oj bs)) (Fg:∀q∈fr,hp q.1=none):
  ∃β',Le P w I β hp w' I2 β' (b7 hp (fr++bk))∧ax P w' I2 β' (b7 hp (fr++bk)) B M w0∧wM σ cG (oj bs) β' (b7 hp (fr++bk)):=by
 generalize Xr:b7 hp (fr++bk)=gv
 let β':Nat→Option Nat:=fun n=>if∃q∈fr,q.1=n then cG (pl.length+(n-nb))else β n
 have agd:∀(j:Nat) id,pl[j]? =some (.blk id)→∃c,hp0 j=some c∧gC P w β hp (.blk id) (o j) c:=by
  intro j id hj;obtain⟨c,hc⟩:=hd j (cw.1 hj).1;obtain⟨p,h1,h2⟩:=hl j c hc;rw[rH,hj]at h1;cases h1;exact⟨c,hc,h2⟩
 have uniq:∀(j1 j2:Nat) id,pl[j1]? =some (.blk id)→pl[j2]? =some (.blk id)→j1=j2:=by
  intro j1 j2 id h1 h2;have m1:(pl.map Place.id)[j1]? =some id:=by rw[jX,h1];rfl
  have m2:(pl.map Place.id)[j2]? =some id:=by rw[jX,h2];rfl
  obtain⟨z1,z2⟩:=cw.1 m1;obtain⟨z3,z4⟩:=cw.1 m2;exact(List.getElem_inj jN).1 (z2.trans z4.symm)
 have cls:∀id,(∃i b,id=nb+i∧bs[pl.length+i]? =some b∧gv id=some (A0 σ b)∧hp id=none∧β' id=cG (pl.length+i))∨
   (∃(j:Nat) (b b' c b0:ag),pl[j]? =some (.blk id)∧bs[j]? =some b∧hp0 j=some c∧gC P w β hp (.blk id) (o j) c∧hp id=some b0∧b0.le b'∧gv id=some b'∧km σ b b'∧J4 hp (id,b')∧β' id=β id∧c.le b∧(b≠ .dead→cG j=β id))∨
   (gv id=hp id∧(∀j:Nat,pl[j]? ≠some (.blk id))∧β' id=β id):=by
  intro id;by_cases hm:∃b,(id,b)∈fr++bk
  ·obtain⟨b,hm⟩:=hm;obtain⟨b',NF,he⟩:=NB (hp:=hp) hm;rw[Xr]at he;rcases ik.1 NF with h|h
   ·have h0:=Fg _ h;have ve:β' id=cG (pl.length+(id-nb)):=aF ⟨_,h,rfl⟩;rw[J5]at h;obtain⟨i,b1,k1,k2⟩:=af5 h;rw[tc]at k1;cases k2;exact .inl ⟨i,b1,rfl,k1,he,h0,by rw[ve];congr 2;omega⟩
   ·obtain⟨j,b1,q1,q2,q3,q4⟩:=Cg _ h;obtain⟨c,c1,c2⟩:=agd j id q1;obtain⟨c3,b0,c4,c5⟩:=c2.Xq;obtain⟨b2,d1,d2,d3⟩:=Ff.blk j c c1;rw[lQ,q2]at d1;cases d1;refine .inr (.inl ⟨j,b1,b',c,b0,q1,q2,c1,c2,c4,c2.atZ c4 d2 q3 q4,he,q3,q4,aD ?_,d2,fun h=>(d3 h).trans c3⟩);rintro⟨q,hq,hqe⟩;rw[←hqe,Fg q hq]at c4;cases c4
  ·refine .inr (.inr ⟨?_,fun j hj=> ?_,aD ?_⟩)
   ·rcases zy (hp:=hp) (l:=fr++bk) (id:=id)with h|⟨b,hb,_⟩
    ·rw[Xr]at h;exact h
    ·exact absurd ⟨b,hb⟩ hm
   ·obtain⟨aq,b,e,hb⟩:=xV j _ hj;cases e;exact hm ⟨b,ik.2 (.inr hb)⟩
   ·rintro⟨q,hq,rfl⟩;exact hm ⟨q.2,ik.2 (.inl hq)⟩
 have age:∀b,vd P w o hp0 b→∃(j id:Nat) (b1:ag),pl[j]? =some (.blk id)∧hp id=some b1∧bm P w (β id) b1 b:=by
  rintro b ⟨j,c,hc,ho⟩;obtain⟨p,h1,h2⟩:=hl j c hc;rw[rH]at h1;obtain⟨id,b2,rfl,_⟩:=xV j p h1;obtain⟨b1,k1,k2,_⟩:=h2.Cf ho;exact⟨j,id,b1,h1,k1,k2⟩
 have other:∀id blk b,hp id=some blk→bm P w (β id) blk b→(∀j:Nat,pl[j]? ≠some (.blk id))→¬vd P w o hp0 b∧w'.heap[b]? =w.heap[b]? ∧(∀j,I2 b j→I b j):=by
  intro id blk b e1 e3 e4;have wO:¬vd P w o hp0 b:=by
   intro hx;obtain⟨j,aq,b1,i1,i2,i3⟩:=age b hx;have:=S.h.inj id aq _ _ b e1 i2 e3 i3;subst this;exact e4 j i1
  have aO:=S.h.lt e1 e3;refine⟨wO,Sc.cM b aO wO,fun j h=> ?_⟩;rcases Sc.new b j h with h|h|h
  ·exact h
  ·exact absurd h wO
  ·omega
 have wj:wM σ cG (oj bs) β' gv:=by
  refine⟨fun j b hj=> ?_,fun j hj=> ?_,fun j id ver path hj=> ?_⟩
  ·rw[lQ]at hj;by_cases dt:j<pl.length
   ·obtain⟨id,b1,e,tQ⟩:=xV j _ (bX dt);have Qq:pl[j]? =some (.blk id):=by rw[bX dt,e]
    have Xs:gK σ j=some (.blk id):=by rw[yB];exact vc (by rw[rH];exact Qq)
    rcases cls id with⟨i,b2,c1,c2,c3,c4,c5⟩|⟨j',b2,b',c,b0,q1,q2,q3,q4,q5,q6,q7,q8,q9,wP,Fh,yC⟩|⟨c1,c2,c3⟩
    ·obtain⟨c,d1,d2⟩:=agd j id Qq;obtain⟨_,b0,d3,_⟩:=d2.Xq;rw[d3]at c4;cases c4
    ·obtain rfl:=uniq _ _ _ q1 Qq;rw[hj]at q2;cases q2;exact⟨id,b',Xs,q7,q8,fun h=>wP.trans (yC h).symm⟩
    ·exact absurd Qq (c2 j)
   ·have hjb:=(cw.1 hj).1;have Xs:gK σ j=some (.blk (nb+(j-pl.length))):=by
     rw[yB,rH,qD (by omega)];exact Qp (by omega)
    have hm:(nb+(j-pl.length),A0 σ b)∈fr:=by
     rw[J5];refine af6 ?_;rw[tc,show pl.length+(j-pl.length)=j by omega];exact hj
    rcases cls (nb+(j-pl.length))with⟨i,b2,c1,c2,c3,c4,c5⟩|⟨j',b2,b',c,b0,q1,q2,q3,q4,q5,q6,q7,q8,q9,wP,Fh,yC⟩|⟨c1,c2,c3⟩
    ·have hi:i=j-pl.length:=by omega
     subst hi;rw[show pl.length+(j-pl.length)=j by omega]at c2 c5;rw[hj]at c2;cases c2;exact⟨_,_,Xs,c3,.of σ _,fun _=>c5⟩
    ·rw[Fg _ hm]at q5;cases q5
    ·obtain⟨b',NF,he⟩:=NB (hp:=hp) (l:=fr++bk) (ik.2 (.inl hm));rw[Xr,c1,Fg _ hm]at he;cases he
  ·rw[lQ]at hj;have:=List.getElem?_eq_none_iff.1 hj;rw[yB,rH,List.getElem?_eq_none_iff,gY,Xp];omega
  ·rw[yB,rH]at hj;by_cases dt:j<pl.length
   ·rw[qC dt]at hj;obtain⟨aq,b1,e,_⟩:=xV j _ hj;cases e
   ·have hjb:j-pl.length<bs.length-pl.length:=by
     have:=(cw.1 hj).1;rw[gY,Xp]at this;omega
    rw[qD (by omega),Qp hjb]at hj;cases hj
 have hle:Le P w I β hp w' I2 β' gv:=by
  refine⟨Ff.eD,Ff.cM,fun id blk ae=> ?_,fun id blk blk' b ae bU u4 hb=> ?_,fun id e es vers e' aI vers' b q i c t v e1 l ae bU hb aO hv ht hc=> ?_⟩
  ·rcases cls id with⟨i,b2,c1,c2,c3,c4,c5⟩|⟨j',b2,b',c,b0,q1,q2,q3,q4,q5,q6,q7,q8,q9,wP,Fh,yC⟩|⟨c1,c2,c3⟩
   ·rw[ae]at c4;cases c4
   ·rw[ae]at q5;cases q5;exact⟨b',q7,q6,fun _=>wP⟩
   ·exact⟨blk,c1.trans ae,ag.le_refl _,fun _=>c3⟩
  ·rcases cls id with⟨i,b2,c1,c2,c3,c4,c5⟩|⟨j',b2,b',c,b0,q1,q2,q3,q4,q5,q6,q7,q8,q9,wP,Fh,yC⟩|⟨c1,c2,c3⟩
   ·rw[ae]at c4;cases c4
   ·rw[q7]at bU;cases bU;exact Ff.size j' c b2 b q3 (by rw[lQ];exact q2) (q8.af9 u4) (q4.Xq.1.trans hb)
   ·rw[c1,ae]at bU;cases bU;simp only[bsize,(other id blk b ae (.root u4 hb) c2).2.1]
  ·rcases cls id with⟨i2,b2,c1,c2,c3,c4,c5⟩|⟨j',b2,b',c',b0,q1,q2,q3,q4,q5,q6,q7,q8,q9,wP,Fh,yC⟩|⟨c1,c2,c3⟩
   ·rw[ae]at c4;cases c4
   ·rw[q7]at bU;cases bU;obtain⟨_,_,zA,_,_,k1,k2⟩:=q9 ⟨_,_,_,rfl⟩;change hp id=_ at k1;rw[ae]at k1;cases k1;cases k2;rw[aga aO]at hv;omega
   ·rw[c1,ae]at bU;cases bU;exact⟨l,rfl,hc.mono fun _ _ _ _ h=>(other id _ _ ae (.row hb h) c2).2.1⟩
 have place:∀id blk b,gv id=some blk→bm P w' (β' id) blk b→(∃j c,oj bs j=some c∧bm P w' (cG j) c b∧gK σ j=some (.blk id))∨(b<w.heap.size∧¬vd P w o hp0 b∧hp id=some blk∧bm P w (β id) blk b):=by
  intro id blk b e1 e3;rcases cls id with⟨i,b2,c1,c2,c3,c4,c5⟩|⟨j',b2,b',c,b0,q1,q2,q3,q4,q5,q6,q7,q8,q9,wP,Fh,yC⟩|⟨c1,c2,c3⟩
  ·rw[c3]at e1;cases e1;rw[c5]at e3;refine .inl ⟨pl.length+i,b2,by rw[lQ];exact c2,(km.of σ b2).Cf e3,?_⟩;have:=(cw.1 c2).1;rw[yB,rH,qD (by omega),Qp (by omega),c1];congr 3;omega
  ·rw[q7]at e1;cases e1;have u4:b2≠ .dead:=q8.af9 e3.alive;rw[wP,←yC u4]at e3;exact .inl ⟨j',b2,by rw[lQ];exact q2,q8.Cf e3,by rw[yB];exact vc (by rw[rH];exact q1)⟩
  ·rw[c1]at e1;rw[c3]at e3;have:=e3.mono (w:=w) fun b hb=>(other id blk b e1 hb c2).2.1;exact .inr ⟨S.h.lt e1 this,(other id blk b e1 this c2).1,e1,this⟩
 have zw:∀b,vd P w o hp0 b∨w.heap.size≤b→M b∨B≤b:=by
  rintro b (h|h)
  ·obtain⟨j,id,b1,i1,i2,i3⟩:=age b h;exact S.h.own id b1 b i2 i3
  ·exact .inr (pJ S.size h)
 have Xt:∀j c b,oj bs j=some c→bm P w' (cG j) c b→vd P w o hp0 b∨w.heap.size≤b:=fun j c b h1 h2=>Sc.h.own j c b h1 h2;refine⟨β',hle,⟨⟨fun id blk ae=> ?_,fun i1 i2 b1 b2 b e1 e2 f1 f2=> ?_,fun id blk b ae hb=> ?_,Sc.h.kC⟩,fun b hb hM=> ?_,pJ S.size Sc.size,fun b j hb=> ?_,⟨Sc.io.1.trans S.io.1,Sc.io.2.trans S.io.2⟩⟩,wj⟩
 ·rcases cls id with⟨i,b2,c1,c2,c3,c4,c5⟩|⟨j',b2,b',c,b0,q1,q2,q3,q4,q5,q6,q7,q8,q9,wP,Fh,yC⟩|⟨c1,c2,c3⟩
  ·rw[c3]at ae;cases ae;rw[c5];exact wj.af8 (Sc.h.rel _ b2 (by rw[lQ];exact c2)) (.of σ b2)
  ·rw[q7]at ae;cases ae;have:=wj.af8 (Sc.h.rel j' b2 (by rw[lQ];exact q2)) q8;by_cases u4:b2= .dead
   ·subst u4;cases q8;exact .dead
   ·rw[wP,←yC u4];exact this
  ·rw[c1]at ae;rw[c3];exact(S.h.rel id blk ae).mono hle fun b hb=>(other id blk b ae hb c2).2
 ·rcases place i1 b1 b e1 f1 with⟨j1,c1,g1,g2,g3⟩|⟨g1,g2,g3,g4⟩<;>rcases place i2 b2 b e2 f2 with⟨j2,c2,k1,k2,k3⟩|⟨k1,k2,k3,k4⟩
  ·have:=Sc.h.inj j1 j2 c1 c2 b g1 k1 g2 k2;subst this;rw[g3]at k3;cases k3;rfl
  ·rcases Xt j1 c1 b g1 g2 with h|h
   ·exact absurd h k2
   ·omega
  ·rcases Xt j2 c2 b k1 k2 with h|h
   ·exact absurd h g2
   ·omega
  ·exact S.h.inj i1 i2 _ _ b g3 k3 g4 k4
 ·rcases place id blk b ae hb with⟨j1,c1,g1,g2,g3⟩|⟨g1,g2,g3,g4⟩
  ·exact zw b (Xt j1 c1 b g1 g2)
  ·exact S.h.own id blk b g3 g4
 ·refine(Sc.cM b (lZ hb S.size) fun hx=> ?_).trans (S.cM b hb hM)
  rcases zw b (.inl hx)with h|h
  ·exact hM h
  ·omega
 ·rcases Sc.new b j hb with h|h|h
  ·exact S.new b j h
  ·exact .inr (zw b (.inl h))
  ·exact .inr (zw b (.inr h))
end
section
variable {P:Program}{A:dz}{w w':World}{I I' I2:Nat→Nat→Prop}{μ β β' cG:Nat→Option Nat}{hp hp' hp0 bK:Nat→Option ag}{C:af}{B:Nat}{M:Nat→Prop}{w0:Start}
theorem agf(hp:Nat→Option ag):∀(a b:List (Nat×ag)),b7 hp (a++b)=b7 (b7 hp b) a
 | [],b=>rfl
 |(i,x)::a,b=>by simp only[List.cons_append,b7,agf hp a b]
theorem Fi{hp:Nat→Option ag}{l:List (Nat×ag)}{id:Nat}(h:∀q∈l,q.1≠id):b7 hp l id=hp id:=by
 rcases zy (hp:=hp) (l:=l) (id:=id)with h1|⟨b,hb,_⟩
 all_goals grind
def Ch (P : Program) : Prop := ∀ (f : Nat) fn, P.funcs[f]? = some fn → (fn.name == "runtime.NumGoroutine") = false
def Qr(P:Program)(f:FuncId)(e:TypeId):Prop:=
 (∀args w,(callFunc f args).run P w= .ok (.enter f args) w)∧∃t,P.underlying t=some (.slice e)∧
  ∀(s:Value) (w:World) (Q:Ending→World→Prop),(s= .slice none 0 0→Q (.returned (.slice none 0 0)) w)→
   (∀a n c,s= .slice (some a) n c→∃v w',(Builtin.append_ #[t,t] t #[.slice (some ⟨w.heap.size,0,none⟩) 0 0,s]).run P (w.alloc (.cells #[] e))= .ok v w'∧Q (.returned v) w')→
   (s= .slice none 0 0∨∃a n c,s= .slice (some a) n c)→Calls P f #[s] w Q
structure lR(P:Program)(A:dz):Prop where
 count:Ch P
 ext:∀f T,A.ext f=some T→∀(b:Nat) (C:Array Value) (w:World),w.heap[b]? =some (.cells C T (0,0))→C.size=P.cellsOf T→(C[0]? =some (.pointer none)∨C[0]? =some (.pointer (some ⟨b,0,none⟩)))→
  (callFunc f #[.pointer (some ⟨b,0,none⟩)]).run P w= .ok (.enter f #[.pointer (some ⟨b,0,none⟩)]) w∧
  Calls P f #[.pointer (some ⟨b,0,none⟩)] w fun e w'=>e= .returned (.tuple #[])∧(w'=w∨w'=w.setCell ⟨b,0,none⟩ (.pointer (some ⟨b,0,none⟩)))
 idle:∀f,A.idle f=true→(∀args w,(callFunc f args).run P w= .ok (.enter f args) w)∧
  ∀args w,CallsD P f args .returning w fun e u' w'=>(∃v,e= .returned v)∧u'= .returning∧w'=w
 uo:∀f e,A.uo f=some e→Qr P f e
 Xu:∀f T,A.ext f=some T→P.cellsOf T=0→∀(s:ByteArray) (c:Int) (w:World),(callFunc f #[.string s,.int .u8 c]).run P w= .ok (.value (.int .i64 (Lib.indexByte s.data.toList c.toNat.toUInt8))) w
theorem lR.here{P:Program}{A:dz}(h:lR P A)(f id:Nat):lR P (A.here f id):=⟨h.count,h.ext,h.idle,h.uo,h.Xu⟩
def J6(E:FuncId→Bool)(d:Deferred):Prop:= ∃f cap,d.target= .fn (.func f) cap∧E f=true
theorem Xv{P:Program}{A:dz}(hP:lR P A){fn:Func}{tmps:Array Value}{R:Ending→World→Prop}{w:World}{v:Value}(hv:(results fn tmps).run P w= .ok v w)(hR:R (.returned v) w):
  ∀ds:List Deferred,(∀d∈ds,J6 A.idle d)→Leaves P fn tmps R ds .returning w
 | [],_=>⟨v,hv,hR⟩
 |d::ds,h=>by
  obtain⟨f,cap,ht,hf⟩:=h d (by simp);obtain⟨k1,k2⟩:=hP.idle f hf;obtain⟨t,das⟩:=d;simp only at ht;subst ht;refine leaves_cons (f:=f) (args:=das++cap) (by simp) ?_ ?_
  ·simp only[invoke];grind
  ·refine(k2 (das++cap) w).mono fun e u' w' hr=> ?_;obtain⟨⟨v',rfl⟩,rfl,rfl⟩:=hr;exact Xv hP hv hR ds fun d hd=>h d (jU _ hd)
def Fj(P:Program)(A:dz)(o:Oper)(a:Act)(w:World)(I:Nat→Nat→Prop)(β:Nat→Option Nat)(hp:Nat→Option ag)(B:Nat)(M:Nat→Prop)(w0:Start)(r:R):Prop:=
 ∀(next:Act→World→Prop) (Q:Exit→Act→World→Prop),
  (∀v w' I' β' ds,Le P w I β hp w' I' β' (b7 hp r.upd)→ax P w' I' β' (b7 hp r.upd) B M w0→ai P w' I' β' (b7 hp r.upd) v r.v→(∀d∈ds,d∈a.defers∨J6 A.idle d)→next ({a with defers:=ds}.put o.dst v) w')→o.wp P a w next Q
theorem uF.step{o:Oper}{a:Act}{r:R}(h:uF P ((execOp a.eval o).run P w) w I β hp B M w0 r):Fj P A o a w I β hp B M w0 r:=by
 obtain⟨v,w',I',β',h1,h2,h3,h4⟩:=h;intro next Q hn
 unfold Oper.wp;rcases h1 with h1|⟨h1,rfl⟩
 ·rw[h1];exact hn v w' I' β' a.defers h2 h3 h4 fun d hd=> .inl hd
 ·rw[h1];exact hn _ w' I' β' a.defers h2 h3 h4 fun d hd=> .inl hd
theorem agh:∀(l:List (Nat×VS)),uq l=zn (l.map (·.2))
 | []=>rfl
 |(_,s)::l=>by simp only[uq,mc,zn,agh l]
theorem at1(hC:qk P A C)(S:ax P w I β hp B M w0)(hg:ly P A.aC w I){vals:List Value}{args:List V}{nb key:Nat}{f:FuncId}{r:R}{rd:List Nat}(hlen:vals.length=args.length)
  (cX:∀(j:Nat) v x,vals[j]? =some v→args[j]? =some x→ai P w I β hp v x) (h:(Hc P A nb key f args).run C hp=some (r,rd)):
  ∃fn c,P.funcs[f]? =some fn∧fn.body=some c∧Calls P f vals.toArray w fun e w'=> ∃v I' β',e= .returned v∧Le P w I β hp w' I' β' (b7 hp r.upd)∧ax P w' I' β' (b7 hp r.upd) B M w0∧ai P w' I' β' (b7 hp r.upd) v r.v:=by
 unfold Hc at h;obtain⟨agi,h0⟩:=ay h;clear h;rw[aN]at agi;subst agi;obtain⟨h1,kj,d1,u1,a1,a2,a3,a5,a4⟩:=Xn S h0 hlen cX;obtain⟨h2,Ai,d2,u2,b1,b2,b3,b4⟩:=afX S a1;clear h0 a1;obtain⟨hc,h3⟩:=ay b1;clear b1;simp only[aG,aN,nG]at hc;obtain⟨fi,BH⟩:=hc;have Qs:=a2.trans b2;have qt:h2.ds=d1++d2:=by have:=Qs.ds;grind
 have yv:h2.upd=u1++u2:=by have:=Qs.upd;grind
 have jN:(h2.pl.map Place.id).Nodup:=Qs.nodup (by simp);obtain⟨c1,o,c2,c3⟩:=b4 [];simp only[nJ]at c1 c2 c3;cases J7:C key h2.ds with
 |none=>
  simp only[Rd.run,J7]at h3;cases h3
 |some es=>
  have xL:∃iB,(Hb P (A.so key es) nb h2 (A.lv key es)).run C hp=some (r,iB):=by
   obtain⟨x,hx,e⟩:=bind_some h3;rw[J7]at hx;cases hx;unfold dz.so dz.lv;cases dx:A.alt key with
   |none=>grind
   |some S2=>
    rw[dx]at e;simp only[Rd.run]at e;grind
  clear h3;obtain⟨iB,h3⟩:=xL;unfold Hb at h3;simp only at h3;generalize lA:iM (A.so key es).db ((A.lv key es).drop (uq (A.so key es).ch))=bs at h3;generalize yB:h2.pl++zo nb (bs.length-h2.pl.length)=σ at h3;generalize J5:xD σ nb (bs.drop h2.pl.length)=fr at h3;obtain⟨p0,bk,rd4,p1,p2,_,p3⟩:=af4 h3;obtain⟨Fg,rd5,p4⟩:=af7 p1;obtain⟨Ci,p4⟩:=ay p4;obtain rfl:=aM p4;have uE:h2.pl.length≤bs.length:=by grind
  have Cg:∀q∈bk,∃(j:Nat) (b:ag),h2.pl[j]? =some (.blk q.1)∧bs[j]? =some b∧km σ b q.2∧J4 hp q:=by
   intro q hq;rcases p2 q hq with hx|⟨j,b,k1,k2,k3,k4⟩
   ·simp at hx
   ·have hj:=(cw.1 k1).1;rw[jW hj]at k2;exact⟨j,b,k1,k2,k3,k4⟩
  obtain⟨fn,c,hf,hb,Xw⟩:=hC key h2.ds es J7;refine⟨fn,c,hf,hb,?_⟩;have hmb:iM (A.sin key).db (h2.ds.drop (uq (A.sin key).ch))=iM (A.sin key).db d2:=by
   rw[qt,agh,Qk a3]
  have Xx:(bL (A.sin key) h2.ds).hp=oj (iM (A.sin key).db d2):=by
   simp only[bL,mk,hmb]
  have hl:∀j blk,(bL (A.sin key) h2.ds).hp j=some blk→∃p,gK h2.pl j=some p∧gC P w β hp p (o j) blk:=by
   intro j blk hj;rw[Xx,lQ]at hj;grind
  have hd:∀j,j<h2.pl.length→∃blk,(bL (A.sin key) h2.ds).hp j=some blk:=by
   intro j hj;rw[Xx,lQ];simp_all
  have agj:JZ P w β hp h2.pl o (bL (A.sin key) h2.ds).hp:=by
   intro j p hj;obtain⟨blk,k1⟩:=hd j (by rw[rH]at hj;grind);grind
  have i1:∀b j,I b j→kG P w I β hp h2.upd b j:=fun b j h=> .inl h;have entry:=atV (hp0:=(bL (A.sin key) h2.ds).hp) S jN BH hl (fun dq j blk hj=>by
   have iY:=hj;rw[Xx,lQ]at iY;exact c3 (kG P w I β hp h2.upd) o _ i1 (fun q hq b j hb=> .inr ⟨q,by grind,hb⟩) h2.pl [] (by simp) agj j blk iY (dq j blk hj)) (fun b j h=>h.elim (S.h.kC b j) fun⟨p,_,blk,g1,g2⟩=>S.h.lt g1 g2.own)
  have at2:vals.length=(A.sin key).ch.length:=by grind
  have ha:=Xw w (kG P w I β hp h2.upd) o vals entry (hg.mono i1 fun _ _ _=>rfl) at2 fun j v x hj hx=>by
   rw[qt]at hx;exact(((a4.later b2) (kG P w I β hp h2.upd) o _ i1 (fun q hq b j hb=> .inr ⟨q,by grind,hb⟩) h2.pl [] (by simp) agj) d2).2 j v x hj hx
  refine ha.mono fun e w' J8=> ?_;obtain⟨v,I2,cG,rfl,ha⟩:=J8;have Qt:(bL (A.so key es) (A.lv key es)).hp=oj bs:=by simp only[bL,mk,lA]
  cases agk:(A.so key es).safe P with
  |true=>
   simp only[cond_true,nJ];have E8:∀b j,I b j→I2 b j:=fun b j h=>ha.le.eD b j (i1 b j h);obtain⟨s1,s2⟩:=atY agk E8 ha.Fe i1;have Ff:qj w I o (bL (A.sin key) h2.ds).hp w' I cG (oj bs):=by
    rw[←Qt];exact⟨fun _ _ h=>h,fun b j h=>ha.le.cM b j (i1 b j h),ha.le.blk,ha.le.size⟩
   obtain⟨β',k1,k2,k3⟩:=agc S yB.symm J5.symm jN uE p3 Cg hl hd (by rw[←Qt];exact⟨s1.h,s1.cM,s1.size,fun b j h=> .inl h,s1.io⟩) Ff Fg;exact⟨v,I,β',rfl,k1,k2,k3.val (by have:=s2 v ha.res;grind)⟩
  |false=>
   simp only[cond_false];rw[agk,Bool.false_or,im]at Ci;have Fk:∀q∈h2.upd,DU hp q:=fun q hq=>by
    have Ac:=Ci q hq;rcases Qs.Ql q (yv▸hq)with h|⟨T,cs,h,_⟩
    all_goals grind
   obtain⟨tP,S1⟩:=DY S Fk;rw[←eY,agf];have wO:∀p∈h2.pl,b7 hp h2.upd p.id=hp p.id:=fun p hp=>Fi fun q hq e=>
    Qn BH (gm.2 ⟨q,hq,rfl⟩) (e▸gm.2 ⟨p,hp,rfl⟩)
   have at3:∀q∈bk,∃(j:Nat) (b:ag),h2.pl[j]? =some (.blk q.1)∧bs[j]? =some b∧km σ b q.2∧J4 (b7 hp h2.upd) q:=by
    intro q hq;obtain⟨j,b,k1,k2,k3,k4⟩:=Cg q hq;refine⟨j,b,k1,k2,k3,fun hn=> ?_⟩;have:=wO _ (nE k1);simp only[Place.id]at this;grind
   have Ba:∀j blk,(bL (A.sin key) h2.ds).hp j=some blk→∃p,gK h2.pl j=some p∧gC P w β (b7 hp h2.upd) p (o j) blk:=by
    intro j blk hj;obtain⟨p,k1,k2⟩:=hl j blk hj;exact⟨p,k1,k2.other (wO p (by rw[rH]at k1;grind))⟩
   have at4:∀q∈fr,b7 hp h2.upd q.1=none:=by
    intro q hq;rw[Fi fun q' dS e=> ?_]
    ·grind
    ·obtain⟨e1,dp,_,h5⟩:=Fk q' dS;grind
   obtain⟨β',k1,k2,k3⟩:=agc S1 yB.symm J5.symm jN uE p3 at3 Ba hd (by rw[←Qt];exact ha.Fe) (by rw[←Qt];exact ha.le) at4;exact⟨v,I2,β',rfl,tP.trans k1,k2,k3.val (by have:=ha.res;grind)⟩
theorem agl(hC:qk P A C)(hP:lR P A)(S:ax P w I β hp B M w0)(hg:ly P A.aC w I){a:Act}{nb key:Nat}{o:Oper}{f:FuncId}{vals:List Value}{args:List V}(hlen:vals.length=args.length)
  (cX:∀(j:Nat) v x,vals[j]? =some v→args[j]? =some x→ai P w I β hp v x) {r:R} {rd:List Nat} (h:(Hc P A nb key f args).run C hp=some (r,rd))
  (hex:(execOp a.eval o).run P w=(callFunc f vals.toArray).run P w):Fj P A o a w I β hp B M w0 r:=by
 intro next Q hn
 obtain⟨fn,c,hf,hb,Xw⟩:=at1 hC S hg hlen cX h;unfold Oper.wp;rw[hex,MuLone.run_callFunc_enter hf (hP.count f _ hf) hb,Oper.upon_enter];refine Xw.mono fun e w' J8=> ?_;obtain⟨v,I2,cG,rfl,k1,k2,k3⟩:=J8;exact hn v w' I2 cG a.defers k1 k2 k3 fun d hd=> .inl hd
theorem o4.args{a:Act}{sl:Nat→V}(hs:o4 P w I β hp a sl)(hg:ly P A.aC w I){args:Array Operand}{ts:Array TypeId}(aZ:args.size=ts.size):
  (args.map a.eval).toList.length=((args.toList.zip ts.toList).map fun p=>aU P A.aC p.2 sl p.1).length∧
  ∀(j:Nat) v x,(args.map a.eval).toList[j]? =some v→((args.toList.zip ts.toList).map fun p=>aU P A.aC p.2 sl p.1)[j]? =some x→ai P w I β hp v x:=by
 refine⟨by simp;omega,fun j v x hv hx=> ?_⟩;simp only[Array.toList_map,jX,List.getElem?_zip_eq_some,Option.map_eq_some_iff]at hv hx;obtain⟨x1,kJ,rfl⟩:=hv;obtain⟨⟨y1,t1⟩,⟨Cj,_⟩,rfl⟩:=hx;rw[kJ]at Cj;cases Cj;exact hs.ev hg t1 _
theorem at5(hP:lR P A)(S:ax P w I β hp B M w0)(hg:ly P A.aC w I){a:Act}{sl:Nat→V}(hs:o4 P w I β hp a sl){dst:Option Tmp}{ty e:TypeId}{pos:String}{after:Array Edge}{guard:Option (Nat×Bool)}{f:FuncId}
  {args:Array Operand} {argTypes:Array TypeId} {nb:Nat} {r:R} {rd:List Nat} (lD:A.uo f=some e)
  (h:((match args.toList with
    | [x]=> .aw (di P e) (xy e (aU P A.aC ty sl x) fun xs=> .aw (Nat.ble (xs.length*P.bytesOf e) aR) (jZ nb (.arr e xs false) (.whole e nb) []))
    |_=> .fail):Rd R).run C hp=some (r,rd)):Fj P A (Oper.mk dst (.call (Go.Call.mk (.value (.func f)) args argTypes)) ty pos after guard) a w I β hp B M w0 r:=by
 cases ha:args.toList with
 |nil=>rw[ha]at h;cases h
 |cons x l=>
  rw[ha]at h;cases l with
  |cons _ _=>cases h
  |nil=>
   simp only at h;have e1:args= #[x]:=by grind
   subst e1;have hx:=hs.ev hg ty x;obtain⟨ao,h⟩:=ay h;have fin:∀{w1:World} {wy:Nat→Option Nat},(∀id blk,hp id=some blk→fg P w1 I wy hp (wy id) blk)→ai P w1 I wy hp (a.eval x) (aU P A.aC ty sl x)→∃xs,(((∃a',a.eval x= .slice a' 0 0)∧xs=[])∨∃a' c news,Row P w1 I e (a.eval x) xs a' c news)∧
     xs.length*P.bytesOf e≤aR∧hp nb=none∧r=⟨.whole e nb,[(nb,.arr e xs false)]⟩:=by
    intro w1 wy h1 h2;obtain⟨xs,oO,l,h⟩:=JM h1 ao h2 h;obtain⟨eH,h⟩:=ay h;rw[gG]at eH;obtain⟨hn,rfl⟩:=n8 h;grind
   obtain⟨c1,t,hu,c2⟩:=hP.uo f e lD;intro next Q wF
   unfold Oper.wp;have e2:(execOp a.eval ⟨dst,.call ⟨.value (.func f),#[x],argTypes⟩,ty,pos,after,guard⟩).run P w= .ok (.enter f #[a.eval x]) w:=by
    have iC:a.eval (.func f)= .func (.func f) #[] #[]:=rfl;simpa[execOp,resolve,iC,Deferred.ofValue,invoke]using c1 #[a.eval x] w
   rw[e2,Oper.upon_enter];refine c2 _ w _ (fun uU=> ?_) (fun b n c E0=> ?_) ?_
   ·obtain⟨xs,oO,eH,hn,rfl⟩:=fin S.h.rel hx;have kh:xs=[]:=by
     rcases oO with⟨_,h⟩|⟨a,c,news,hr⟩
     ·exact h
     ·have:=hr.val.symm.trans uU;cases this
    subst kh;obtain⟨a1,a2⟩:=Hw S e hn;exact wF _ w I _ a.defers a1 a2 (.dZ (bI _ _ _) (bI _ _ _)) fun d hd=> .inl hd
   ·obtain⟨m1,m2⟩:=amF (w':=w.alloc (.cells #[] e)) S (fun b hb=>heap_alloc_old w _ b hb) (by simp) ⟨rfl,rfl⟩;obtain⟨xs,oO,eH,hn,rfl⟩:=fin m2.h.rel (hx.mono m1);obtain⟨v,w',β',a1,a2,a3,a4⟩:=WK (ty:=t) (a0:=some ⟨w.heap.size,0,none⟩) m2 hu ao hn eH oO;exact⟨v,w',a1,wF v w' I β' a.defers (m1.trans a2) a3 a4 fun d hd=> .inl hd⟩
   ·obtain⟨xs,oO,eH,hn,rfl⟩:=fin S.h.rel hx;rcases oO with⟨⟨b,h⟩,_⟩|⟨b,c,news,hr⟩
    ·rw[h];cases b with
     |none=>grind
     |some b=>grind
    ·exact .inr ⟨_,_,_,hr.val⟩
theorem at6(hP:lR P A)(S:ax P w I β hp B M w0){a:Act}{dst:Option Tmp}{ty T0:TypeId}{pos:String}{after:Array Edge}{guard:Option (Nat×Bool)}{f:FuncId}
  {args:Array Operand} {argTypes:Array TypeId} {xs:List V} {r:R} {rd:List Nat} (Aj:A.ext f=some T0) (hz:P.cellsOf T0=0) (k1:(args.map a.eval).toList.length=xs.length)
  (k2:∀(j:Nat) v x,(args.map a.eval).toList[j]? =some v→xs[j]? =some x→ai P w I β hp v x) (h:(TL xs).run C hp=some (r,rd)):Fj P A (Oper.mk dst (.call (Go.Call.mk (.value (.func f)) args argTypes)) ty pos after guard) a w I β hp B M w0 r:=by
 unfold TL at h;split at h
 ·rename_i s c;obtain rfl:=aM h;generalize hv:args.map a.eval=vs at*
  obtain⟨vs⟩:=vs
  match vs,k1,k2 with
  | [u,v],_,k2=>
   obtain⟨s',rfl,hs⟩:=(k2 0 u _ rfl rfl).pO;obtain rfl:=(k2 1 v _ rfl rfl).gx;have q:=hP.Xu f T0 Aj hz s' c w;rw[hs]at q;refine uF.step ⟨.int .i64 (Lib.indexByte s c.toNat.toUInt8),w,I,β,.inl ?_,Le.refl w I β hp,S,.int⟩;have iC:a.eval (.func f)= .func (.func f) #[] #[]:=rfl;simpa[execOp,resolve,iC,Deferred.ofValue,invoke,hv]using q
 ·cases h
theorem at7(hP:lR P A)(S:ax P w I β hp B M w0)(hg:ly P A.aC w I){a:Act}{sl:Nat→V}(hs:o4 P w I β hp a sl){dst:Option Tmp}{ty T0:TypeId}{pos:String}{after:Array Edge}{guard:Option (Nat×Bool)}{f:FuncId}
  {args:Array Operand} {argTypes:Array TypeId} {r:R} {rd:List Nat} (Aj:A.ext f=some T0)
  (h:((match args.toList with
   | [x]=>
    match aU P A.aC ty sl x with
    | .ptr id i c=>Rd.get id fun
     |some (.var T cs)=> .aw (Nat.beq T T0&&(vF P T&&(Nat.beq cs.length (P.cellsOf T)&&(Nat.beq i 0&&Nat.beq c 0)))) (.ret ⟨.bf [],[(id,.var T (.undef::cs.tail))]⟩)
     |_=> .fail
    |_=> .fail
   |_=> .fail):Rd R).run C hp=some (r,rd)):Fj P A (Oper.mk dst (.call (Go.Call.mk (.value (.func f)) args argTypes)) ty pos after guard) a w I β hp B M w0 r:=by
 cases ha:args.toList with
 |nil=>rw[ha]at h;cases h
 |cons x l=>
  rw[ha]at h;cases l with
  |cons _ _=>cases h
  |nil=>
   simp only at h;have e1:args= #[x]:=by grind
   subst e1;have hx:=hs.ev hg ty x;cases jF:aU P A.aC ty sl x<;>rw[jF]at h hx<;>simp only at h<;>first|(cases h;done)|skip
   rename_i id i c;obtain⟨l,h1⟩:=run_get h;cases ae:hp id with
   |none=>rw[ae]at h1;cases h1
   |some blk=>
    rw[ae]at h1;cases blk<;>simp only at h1<;>first|(cases h1;done)|skip
    rename_i T cs;obtain⟨h2,h3⟩:=ay h1;simp only[aG,aN]at h2;obtain⟨rfl,cv,hlc,rfl,rfl⟩:=h2;obtain rfl:=aM h3;obtain⟨b,hb,he⟩:=hx.jC ae (by simp);have hr:=S.h.rel id _ ae;rw[hb]at hr;cases hr with
    |@var _ b' Ca _ au hh aZ hI kh jo=>
     cases au;have E6:a.eval x= .pointer (some ⟨b,0,none⟩):=by grind
     obtain⟨q1,q2⟩:=hP.ext f T Aj b Ca w hh (aZ.trans hlc) (jo cv);have h0:0<Ca.size:=by
      rcases jo cv with k|k<;>exact(zh.1 k).1
     have uG:(V.undef::cs.tail).length=cs.length:=by
      grind
     have rel:∀(C':Array Value),(∀j,0<j→C'[j]? =Ca[j]?)→∀(j:Nat) v y,C'[j]? =some v→(V.undef::cs.tail)[j]? =some y→ai P w I β hp v y:=by
      intro C' PT j v y hj hy;cases j with
      |zero=>simp at hy;subst hy;exact .undef
      |succ j=>
       grind
     have fin:∀w' C',(∀b',b'≠b→w'.heap[b']? =w.heap[b']?)→w'.heap[b]? =some (.cells C' T (0,0))→C'.size=Ca.size→w.heap.size≤w'.heap.size→w'.os=w.os∧w'.output=w.output→
       (∀j,0<j→C'[j]? =Ca[j]?)→(C'[0]? =some (.pointer none)∨C'[0]? =some (.pointer (some ⟨b,0,none⟩)))→
       Le P w I β hp w' I β (ak hp id (some (.var T (V.undef::cs.tail))))∧ax P w' I β (ak hp id (some (.var T (V.undef::cs.tail)))) B M w0:=by
      intro w' C' k1 k2 k3 k4 k5 k6 k7;exact D1 (w':=w') (blk':= .var T (V.undef::cs.tail)) S ae (by simp) rfl hb hI (by simp) k1 (by rw[ml k2,ml hh,k3]) k4 k5 fun hle=>
       .var rfl k2 (by omega) hI (fun j v y hj hy=>(rel C' k6 j v y hj hy).mono hle) fun _=>k7
     intro next Q hn
     unfold Oper.wp;have e2:(execOp a.eval ⟨dst,.call ⟨.value (.func f),#[x],argTypes⟩,ty,pos,after,guard⟩).run P w= .ok (.enter f #[.pointer (some ⟨b,0,none⟩)]) w:=by
      have iC:a.eval (.func f)= .func (.func f) #[] #[]:=rfl;simpa[execOp,resolve,iC,Deferred.ofValue,invoke,E6]using q1
     rw[e2,Oper.upon_enter];refine q2.mono fun e w' J8=> ?_;obtain⟨rfl,hw⟩:=J8;have agm:Le P w I β hp w' I β (ak hp id (some (.var T (V.undef::cs.tail))))∧ax P w' I β (ak hp id (some (.var T (V.undef::cs.tail)))) B M w0:=by
      rcases hw with rfl|rfl
      ·exact fin w' Ca (fun _ _=>rfl) hh rfl (aW _) ⟨rfl,rfl⟩ (fun _ _=>rfl) (jo cv)
      ·refine fin (w.setCell ⟨b,0,none⟩ (.pointer (some ⟨b,0,none⟩))) (Ca.setIfInBounds 0 (.pointer (some ⟨b,0,none⟩))) (fun b' bE=> ?_) ?_ (by simp) (by simp_all) ⟨rfl,rfl⟩ (fun j hj=> ?_) (.inr ?_)
       ·simp only[World.setCell,MY];grind
       ·simp[World.setCell,MY,hh]
       all_goals grind
     exact hn (.tuple #[]) w' I β a.defers agm.1 agm.2 (.bf rfl fun j v y hj _=>by simp at hj) fun d hd=> .inl hd
theorem aua(hC:qk P A C)(hP:lR P A)(S:ax P w I β hp B M w0)(hg:ly P A.aC w I){a:Act}{sl:Nat→V}(hs:o4 P w I β hp a sl){ix nb:Nat}{o:Oper}{r:R}{rd:List Nat}
  (h:(jI P A sl ix nb o).run C hp=some (r,rd)):Fj P A o a w I β hp B M w0 r:=by
 cases hc:Xf o.op with
 |false=>exact(atB S hg hs hc h).step
 |true=>
  obtain⟨dst,op,ty,pos,after,guard⟩:=o;cases op<;>simp only[Xf]at hc<;>first|(cases hc;done)|skip
  case defer c=>
   obtain⟨callee,args,argTypes⟩:=c;cases callee with
   |invoke r m=>simp only[jI]at h;cases h
   |builtin b=>simp only[jI]at h;cases h
   |value f=>
   cases f with
   |tmp t=>
    simp only[jI]at h;cases cv:sl t<;>rw[cv]at h<;>simp only at h<;>first|(cases h;done)|skip
    rename_i f xs ys;obtain⟨h1,h2⟩:=ay h;obtain rfl:=aM h2;have hv:=hs t;rw[cv]at hv;generalize B7:a.tmps.getD t undef=vt at hv;cases hv with
    |@fn _ fs cs _ _ q1 q2 q3 q4=>
     intro next Q hn
     unfold Oper.wp;have iC:a.eval (.tmp t)= .func (.func f) fs cs:=B7;have e1:(execOp a.eval ⟨dst,.defer ⟨.value (.tmp t),args,argTypes⟩,ty,pos,after,guard⟩).run P w= .ok (.defer {target:= .fn (.func f) cs,args:=fs++args.map a.eval}) w:=by
      simp[execOp,resolve,iC,Deferred.ofValue]
     rw[e1,Oper.upon_defer];exact hn undef w I β _ (Le.refl w I β hp) S .undef fun d hd=>by
      rcases jg.1 hd with rfl|hd
      ·exact .inr ⟨f,cs,rfl,h1⟩
      grind
   |func f=>simp only[jI]at h;cases h
   |const _=>simp only[jI]at h;cases h
   |global _=>simp only[jI]at h;cases h
  rename_i c;obtain⟨callee,args,argTypes⟩:=c;cases callee with
  |invoke r m=>cases hc
  |builtin b=>cases hc
  |value f=>
   cases f with
   |func f=>
    simp only[jI]at h;cases Aj:A.ext f with
    |some T0=>
     rw[Aj]at h;simp only at h;cases hz:Nat.beq (P.cellsOf T0) 0 with
     |true=>
      rw[hz]at h;simp only[cond_true]at h;rw[aN]at hz;obtain⟨h1,h2⟩:=ay h;rw[aN]at h1;obtain⟨k1,k2⟩:=hs.args hg h1;exact at6 hP S Aj hz k1 k2 h2
     |false=>
     rw[hz]at h;simp only[cond_false]at h;exact at7 hP S hg hs Aj h
    |none=>
    rw[Aj]at h;simp only at h;cases lD:A.uo f with
    |some e0=>
     rw[lD]at h;simp only at h;exact at5 hP S hg hs lD h
    |none=>
    rw[lD]at h;simp only at h;obtain⟨h1,h2⟩:=ay h;rw[aN]at h1;obtain⟨k1,k2⟩:=hs.args hg h1;refine agl hC hP S hg k1 k2 h2 ?_;have e1:(args.map a.eval).toList.toArray=args.map a.eval:=Array.toArray_toList;rw[e1];simp[execOp,resolve,Act.eval,Deferred.ofValue,invoke]
   |tmp t=>
    simp only[jI]at h;cases cv:sl t<;>rw[cv]at h<;>simp only at h<;>first|(cases h;done)|skip
    rename_i f xs ys;obtain⟨h1,h2⟩:=ay h;rw[aN]at h1;obtain⟨k1,k2⟩:=hs.args hg h1;have hv:=hs t;rw[cv]at hv;generalize B7:a.tmps.getD t undef=vt at hv;cases hv with
    |@fn _ fs cs _ _ q1 q2 q3 q4=>
     have l1:fs.toList.length=xs.length:=by omega
     have l3:cs.toList.length=ys.length:=by omega
     have r1:∀(j:Nat) v x,fs.toList[j]? =some v→xs[j]? =some x→ai P w I β hp v x:=fun j v x hj hx=>q2 j v x (by grind) hx;have r3:∀(j:Nat) v x,cs.toList[j]? =some v→ys[j]? =some x→ai P w I β hp v x:=fun j v x hj hx=>q4 j v x (by grind) hx;refine agl hC hP S hg (vals:=fs.toList++(args.map a.eval).toList++cs.toList) (args:=xs++((args.toList.zip argTypes.toList).map fun p=>aU P A.aC p.2 sl p.1)++ys) (by grind) ?_ h2 ?_
     ·grind
     ·have e1:(fs.toList++(args.map a.eval).toList++cs.toList).toArray=fs++args.map a.eval++cs:=by
       grind
      rw[e1];have iC:a.eval (.tmp t)= .func (.func f) fs cs:=B7;simp[execOp,resolve,iC,Deferred.ofValue,invoke]
   |_=>cases hc
end
section
variable {P:Program}{A:dz}{w w':World}{I I' I2:Nat→Nat→Prop}{μ β β':Nat→Option Nat}{hp hp':Nat→Option ag}{C:af}{B:Nat}{M:Nat→Prop}{w0:Start}
structure jt(P:Program)(E:FuncId→Bool)(G:Nat→V)(w:World)(I:Nat→Nat→Prop)(β:Nat→Option Nat)(n:Nat)(a:Act)(st:St):Prop where
 sl:o4 P w I β st.hp a st.sl
 size:a.tmps.size=n
 defers:∀d∈a.defers,J6 E d
 aC:ly P G w I
theorem Xy{E:FuncId→Bool}{G:Nat→V}{n:Nat}{a:Act}{st:St}{o:Oper}{v:Value}{x:V}{hp':Nat→Option ag}{ds:List Deferred}(h:jt P E G w I β n a st)(hle:Le P w I β st.hp w' I' β' hp')(hd:zr o n=true)
  (hv:ai P w' I' β' hp' v x) (qt:∀d∈ds,d∈a.defers∨J6 E d):jt P E G w' I' β' n ({a with defers:=ds}.put o.dst v) ⟨mg st.sl o.dst x,hp',st.nb⟩:=by
 have hdf:∀d∈ds,J6 E d:=fun d hd=>(qt d hd).elim (h.defers d) id;cases aub:o.dst with
 |none=>exact⟨fun k=>(h.sl k).mono hle,h.size,hdf,h.aC.mono hle.eD hle.cM⟩
 |some d=>
  have aO:d<a.tmps.size:=by
   unfold zr at hd;rw[aub]at hd;rw[h.size];simpa using hd
  refine⟨fun k=> ?_,by simp[Act.put,h.size],hdf,h.aC.mono hle.eD hle.cM⟩;simp only[Act.put,mg,ak];cases hb:Nat.beq k d with
  |true=>
   rw[aN]at hb;subst hb;simpa[aO]using hv
  |false=>
   have bE:d≠k:=fun e=>by rw[e,oX]at hb;cases hb
   have:=(h.sl k).mono hle;simpa[Array.getElem?_setIfInBounds_ne bE]using this
theorem agn{E:FuncId→Bool}{G:Nat→V}{n:Nat}{a:Act}{st:St}{d:Nat}{b:Bool}(h:jt P E G w I β n a st)(hd:st.sl d= .bool b):a.tmps[d]? =some (.bool b):=by
 have:=h.sl d;rw[hd]at this;have:=this.oo;cases ht:a.tmps[d]? with
 |none=>simp[ht]at this;cases this
 |some v=>simp[ht]at this;rw[this]
theorem auc{x:V}{b:Bool}(h:qG x=some (some b)):x= .bool b:=by
 cases x with
 |bool c=>simp only[qG]at h;injection h with h;injection h with h;rw[h]
 |bf vs=>cases vs<;>simp[qG]at h
 |_=>simp[qG]at h
theorem aud{x:V}(h:qG x=some none):x= .bf []:=by
 cases x with
 |bf vs=>cases vs with
  |nil=>rfl
  |cons _ _=>simp[qG]at h
 |bool c=>simp[qG]at h
 |_=>simp[qG]at h
theorem ai.aue{v:Value}(h:ai P w I β hp v (.bf [])):v= .tuple #[]:=by
 cases h with
 |@bf cs _ hs _=>
  have:cs= #[]:=by
   apply Array.eq_empty_of_size_eq_zero;simpa using hs
  rw[this]
theorem ai.ago:ai P w I β hp Go.undef (.bf []):= .bf (by rfl) (fun j v x _ hx=>by simp at hx)
theorem agp(hC:qk P A C)(hP:lR P A){ops:Array Oper}{n i nb:Nat}{o:Oper}(ho:ops[i]? =some o){a:Act}{st st':St}{R W:List Nat}(S:ax P w I β st.hp B M w0)(hA:jt P A.idle A.aC w I β n a st)
  (h:ll P A C n ops i o nb st=some (st',R,W)) {K:Act→World→Prop} {Q:Exit→Act→World→Prop}
  (hK:∀a' w' I' β',Le P w I β st.hp w' I' β' st'.hp→ax P w' I' β' st'.hp B M w0→jt P A.idle A.aC w' I' β' n a' st'→K a' w'):wpOp P ops Q i K a w:=by
 unfold ll at h;cases hd:zr o n with
 |false=>rw[hd]at h;cases h
 |true=>
  rw[hd]at h;simp only[cond_true]at h;have go:∀{Xz:St} {R W:List Nat},(((jI P A st.sl i (nb+64*i) o).run C st.hp).bind fun r=>some ((⟨mg st.sl o.dst r.1.v,b7 st.hp r.1.upd,st.nb⟩:St),xG r.2 r.1.upd,j5 st.hp r.1.upd))=some (Xz,R,W)→Xz=st'→
    o.wp P a w K Q:=by
   intro Xz R W h e;obtain⟨⟨r,rd⟩,h1,h2⟩:=bind_some h;cases h2;subst e;exact aua hC hP S hA.aC hA.sl h1 K Q fun v w' I' β' ds k1 k2 k3 k4=>hK _ w' I' β' k1 k2 (Xy hA k1 hd k3 k4)
  unfold wpOp;rw[ho];simp only;cases hg:o.guard with
  |none=>
   rw[hg]at h;simp only[Region.wanted,hg,qv];exact .inl (go h rfl)
  |some gw=>
   obtain⟨g,want⟩:=gw;rw[hg]at h;simp only at h;cases rJ:(ops[g]?).bind (·.dst)with
   |none=>rw[rJ]at h;cases h
   |some d=>
    rw[rJ]at h;simp only at h;cases sO:qG (st.sl d)with
    |none=>rw[sO]at h;cases h
    |some ob=>
    rw[sO]at h;cases ob with
    |none=>
     have E0:=aud sO;have hy:yielded ops a.tmps g=none:=by
      unfold yielded;rw[rJ];have:=hA.sl d;rw[E0]at this;have hu:=ai.aue this;simp only[Option.bind_some];cases ht:a.tmps[d]? with
      |none=>rfl
      |some v=>simp[ht]at hu;subst hu;rfl
     simp only[Region.wanted,hg,hy];injection h with h;injection h with h3 h4;subst h3;have h2:((none:Option Bool)==some want)=false:=rfl;simp only[h2,Bool.false_eq_true,ta];exact hK _ w I β (Le.refl w I β st.hp) S (Xy (ds:=a.defers) hA (Le.refl w I β st.hp) hd ai.ago fun d h=> .inl h)
    |some b=>
    simp only at h;have E0:=auc sO;have hy:yielded ops a.tmps g=some b:=by
     unfold yielded;rw[rJ];simp only[Option.bind_some,agn hA E0]
    simp only[Region.wanted,hg,hy];by_cases hb:b=want
    ·subst hb;simp only[beq_self_eq_true,cond_true]at h;simp only[beq_self_eq_true,qv];exact .inl (go h rfl)
    ·have h1:(b==want)=false:=by simp[hb]
     have h2:(some b==some want)=false:=by simp[hb]
     rw[h1]at h;simp only[cond_false]at h;injection h with h;injection h with h3 h4;subst h3;simp only[h2,Bool.false_eq_true,ta];exact hK _ w I β (Le.refl w I β st.hp) S (Xy (ds:=a.defers) hA (Le.refl w I β st.hp) hd ai.ago fun d h=> .inl h)
def Ck(hp hp':Nat→Option ag)(c:Nat):Prop:=hp' c=hp c∧(KB≤c→ku (hp' (c-KB))=ku (hp (c-KB)))
theorem Ck.symm{c:Nat}(h:Ck hp hp' c):Ck hp' hp c:=⟨h.1.symm,fun hc=>(h.2 hc).symm⟩
theorem Ak{α:Type}:∀{p:Rd α} {r:α} {rd:List Nat},p.run C hp=some (r,rd)→(∀id∈rd,Ck hp hp' id)→p.run C hp'=some (r,rd)
 | .ret a,r,rd,h,_=>h
 | .fail,r,rd,h,_=>by cases h
 | .get id k,r,rd,h,he=>by
  obtain⟨x,h1,h2⟩:=bind_some h;cases h2;have e1:hp' id=hp id:=(he id (by simp)).1;have:=Ak (p:=k (hp id)) (r:=x.1) (rd:=x.2) h1 (fun i hi=>he i (by simp[hi]));simp only[Rd.run,e1,this,Option.bind_some]
 | .live id ok k,r,rd,h,he=>by
  simp only[Rd.run]at h⊢;cases hk:ok (ku (hp id))with
  |false=>rw[hk]at h;cases h
  |true=>
   rw[hk]at h;obtain⟨x,h1,h2⟩:=bind_some h;cases h2;have e1:ku (hp' id)=ku (hp id):=by
    have:=(he (id+KB) (by simp)).2 (Nat.le_add_left _ _);rwa [Nat.add_sub_cancel]at this
   have:=Ak (p:=k) (r:=x.1) (rd:=x.2) h1 (fun i hi=>he i (by simp[hi]));rw[e1,hk,this];rfl
 | .opt o k,r,rd,h,he=>by
  obtain⟨x,h1,h2⟩:=bind_some h;simp only[Rd.run,h1,Option.bind_some];exact Ak h2 he
 | .aw b k,r,rd,h,he=>by
  obtain⟨h1,h2⟩:=ay h;simp only[Rd.run,h1,cond_true];exact Ak h2 he
 | .call key ds k,r,rd,h,he=>by
  obtain⟨x,h1,h2⟩:=bind_some h;simp only[Rd.run,h1,Option.bind_some];exact Ak h2 he
 | .alt true x y,r,rd,h,he=>Ak (p:=x) h he
 | .alt false x y,r,rd,h,he=>Ak (p:=y) h he
theorem auf{G:Nat→V}{sl sl':Nat→V}{t:TypeId}{x:Operand}(h:∀k,x= .tmp k→sl k=sl' k):aU P G t sl x=aU P G t sl' x:=by
 cases x with
 |tmp k=>exact h k rfl
 |_=>rfl
theorem aug{sl sl':Nat→V}{ix nb:Nat}{o:Oper}(h:∀x∈o.op.operands,∀k,x= .tmp k→sl k=sl' k):jI P A sl ix nb o=jI P A sl' ix nb o:=by
 have iC:∀t x,x∈o.op.operands→aU P A.aC t sl x=aU P A.aC t sl' x:=fun t x hx=>auf (h x hx);obtain⟨dst,op,ty,pos,after,guard⟩:=o;have agq:∀(t:TypeId) (ps:Array (Nat×Operand)),(∀x∈ps.map (·.2),aU P A.aC t sl x=aU P A.aC t sl' x)→
   (ps.toList.map fun p=>(p.1,aU P A.aC t sl p.2))=ps.toList.map fun p=>(p.1,aU P A.aC t sl' p.2):=fun t ps hp=>
  qA fun p hm=>by rw[hp p.2 (Array.mem_map.2 ⟨p,vD.1 hm,rfl⟩)]
 have auh:∀(t:TypeId) (ps:Array (Nat×Operand)),(∀x∈ps.map (·.2),aU P A.aC t sl x=aU P A.aC t sl' x)→
   (ps.toList.map fun p=>(aU P A.aC t sl p.2).cells)=ps.toList.map fun p=>(aU P A.aC t sl' p.2).cells:=fun t ps hp=>
  qA fun p hm=>by rw[hp p.2 (Array.mem_map.2 ⟨p,vD.1 hm,rfl⟩)]
 cases op<;>simp only[Op.operands]at iC<;>simp only[jI]
 case pick c x y=>rw[iC ty c (by simp),iC ty x (by simp),iC ty y (by simp)]
 case build t ps=>rw[agq ty ps fun x hx=>iC ty x (by simpa using hx),auh ty ps fun x hx=>iC ty x (by simpa using hx)]
 case buildSlice t len ps=>
  split
  ·rename_i e _;rw[agq e ps fun x hx=>iC e x (by simpa using hx)]
  ·rfl
 case slice t x lo hi mx=>
  cases mx with
  |some m=>
   have e1:lo.map (aU P A.aC 0 sl)=lo.map (aU P A.aC 0 sl'):=by
    cases lo with
    |none=>rfl
    |some l=>simp only[Option.map_some,iC 0 l (by simp)]
   have e2:hi.map (aU P A.aC 0 sl)=hi.map (aU P A.aC 0 sl'):=by
    cases hi with
    |none=>rfl
    |some l=>simp only[Option.map_some,iC 0 l (by simp)]
   have e3:=iC 0 m (by simp);simp only[iC ty x (by simp),e1,e2,e3]
  |none=>
   have e1:lo.map (aU P A.aC 0 sl)=lo.map (aU P A.aC 0 sl'):=by
    cases lo with
    |none=>rfl
    |some l=>simp only[Option.map_some,iC 0 l (by simp)]
   have e2:hi.map (aU P A.aC 0 sl)=hi.map (aU P A.aC 0 sl'):=by
    cases hi with
    |none=>rfl
    |some l=>simp only[Option.map_some,iC 0 l (by simp)]
   simp only[iC ty x (by simp),e1,e2]
 case call c=>
  obtain⟨callee,args,argTypes⟩:=c;have Cl:∀t x,x∈args→aU P A.aC t sl x=aU P A.aC t sl' x:=fun t x hx=>iC t x (by simp[Call.operands,hx]);have hl:∀t (l:List Operand),(∀x∈l,x∈args)→l.map (aU P A.aC t sl)=l.map (aU P A.aC t sl'):=fun t l hl=>qA fun x hx=>Cl t x (hl x hx);have hz:((args.toList.zip argTypes.toList).map fun p=>aU P A.aC p.2 sl p.1)=(args.toList.zip argTypes.toList).map fun p=>aU P A.aC p.2 sl' p.1:=
   qA fun p hp=>Cl p.2 p.1 (vD.1 (List.of_mem_zip hp).1)
  cases callee with
  |invoke r m=>rfl
  |builtin b=>
   have dx:∀x∈args.toList,∀t,aU P A.aC t sl x=aU P A.aC t sl' x:=fun x hx t=>Cl t x (vD.1 hx);have uQ:∀t (l:List Operand),(∀x∈l,∀t,aU P A.aC t sl x=aU P A.aC t sl' x)→l.map (aU P A.aC t sl)=l.map (aU P A.aC t sl'):=fun t l h=>qA fun x hx=>h x hx t;cases b<;>first|rfl|skip
   case append=>
    dsimp only;generalize args.toList=al at dx
    match al,dx,argTypes.toList with
    | [s,x],dx,[t,u]=>simp only[dx s (by simp),dx x (by simp)]
    | [],_,_=>rfl
    | [_],_,_=>rfl
    |_::_::_::_,_,_=>rfl
    | [_,_],_,[]=>rfl
    | [_,_],_,[_]=>rfl
    | [_,_],_,_::_::_::_=>rfl
   case copy=>
    dsimp only;generalize args.toList=al at dx
    match al,dx,argTypes.toList with
    | [s,x],dx,[t,u]=>simp only[dx s (by simp),dx x (by simp)]
    | [],_,_=>rfl
    | [_],_,_=>rfl
    |_::_::_::_,_,_=>rfl
    | [_,_],_,[]=>rfl
    | [_,_],_,[_]=>rfl
    | [_,_],_,_::_::_::_=>rfl
   case len=>
    dsimp only;generalize args.toList=al at dx
    match al,dx,argTypes.toList with
    | [x],dx,[t]=>simp only[dx x (by simp)]
    | [],_,_=>rfl
    |_::_::_,_,_=>rfl
    | [_],_,[]=>rfl
    | [_],_,_::_::_=>rfl
   case clear=>
    dsimp only;generalize args.toList=al at dx
    match al,dx,argTypes.toList with
    | [x],dx,[t]=>simp only[dx x (by simp)]
    | [],_,_=>rfl
    |_::_::_,_,_=>rfl
    | [_],_,[]=>rfl
    | [_],_,_::_::_=>rfl
   case unsafeSliceData=>
    dsimp only;generalize args.toList=al at dx
    match al,dx with
    | [],_=>rfl
    | [x],dx=>simp only[dx x (by simp)]
    |_::_::_,_=>rfl
   case unsafeString=>
    dsimp only;generalize args.toList=al at dx
    match al,dx,argTypes.toList with
    | [s,x],dx,[t,u]=>simp only[dx s (by simp),dx x (by simp)]
    | [],_,_=>rfl
    | [_],_,_=>rfl
    |_::_::_::_,_,_=>rfl
    | [_,_],_,[]=>rfl
    | [_,_],_,[_]=>rfl
    | [_,_],_,_::_::_::_=>rfl
   case max=>
    dsimp only;generalize args.toList=al at dx
    match al,dx with
    | [],_=>rfl
    |x::l,dx=>simp only[dx x (by simp),uQ ty l (fun y hy=>dx y (by simp[hy]))]
   case min=>
    dsimp only;generalize args.toList=al at dx
    match al,dx with
    | [],_=>rfl
    |x::l,dx=>simp only[dx x (by simp),uQ ty l (fun y hy=>dx y (by simp[hy]))]
  |value f=>
   cases f<;>first|rfl|skip
   ·rename_i t;have ht:sl t=sl' t:=h (.tmp t) (by simp[Op.operands,Call.operands]) t rfl;simp only[hz,ht]
   ·simp only[hz];cases hx:args.toList with
    |nil=>rfl
    |cons x l=>
     cases l with
     |cons _ _=>rfl
     |nil=>simp only[Cl ty x (vD.1 (by rw[hx];simp))]
 case defer c=>
  obtain⟨callee,args,argTypes⟩:=c;cases callee with
  |invoke r m=>rfl
  |builtin b=>rfl
  |value f=>
   cases f<;>first|rfl|skip
   rename_i t;have ht:sl t=sl' t:=h (.tmp t) (by simp[Op.operands,Call.operands]) t rfl;simp only[ht]
 case makeFunc fn a b=>
  cases fn<;>first|rfl|skip
  have e1:a.toList.map (aU P A.aC ty sl)=a.toList.map (aU P A.aC ty sl'):=qA fun x hx=>iC ty x (by simp[vD.1 hx]);have e2:b.toList.map (aU P A.aC ty sl)=b.toList.map (aU P A.aC ty sl'):=qA fun x hx=>iC ty x (by simp[vD.1 hx]);dsimp only;rw[e1,e2]
 case makeMap t r=>cases r<;>rfl
 all_goals first
  |rfl
  |(simp[iC];done)
end
section
variable {P:Program}{A:dz}{w w':World}{I I' I2:Nat→Nat→Prop}{μ β β':Nat→Option Nat}{hp hp':Nat→Option ag}{C:af}{B:Nat}{M:Nat→Prop}{w0:Start}
theorem XA{q:Nat×ag}{upd:List (Nat×ag)}(h:q∈upd):q.1∈j5 hp upd:=by
 unfold j5;rw[List.mem_flatMap];refine⟨q,h,?_⟩;cases Nat.beq (ku (hp q.1)) (ku (some q.2))<;>simp
theorem aui{upd:List (Nat×ag)}(h:∀q∈upd,ku (hp' q.1)=ku (hp q.1)):j5 hp' upd=j5 hp upd:=by
 unfold j5
 induction upd with
 |nil=>rfl
 |cons q l ih=>
  rw[DC,DC,ih fun x hx=>h x (jU _ hx),h q (by simp)]
theorem agr{c:Nat}:∀{upd:List (Nat×ag)},c∉j5 hp upd→Ck hp (b7 hp upd) c:=fun {upd} h=>by
 refine⟨Fi fun q hq e=>h (e▸XA hq),fun hc=> ?_⟩
 induction upd with
 |nil=>rfl
 |cons q l ih=>
  have hl:c∉j5 hp l:=fun hx=>h (by unfold j5 at*;rw[DC];exact MT _ hx);have hq:ku (hp q.1)=ku (some q.2)∨c≠q.1+KB:=by
   cases hb:Nat.beq (ku (hp q.1)) (ku (some q.2))with
   |true=>exact .inl (Nat.eq_of_beq_eq_true hb)
   |false=>
    refine .inr fun e=>h ?_;unfold j5;rw[DC,hb,e];simp
  show ku (ak (b7 hp l) q.1 (some q.2) (c-KB))=_;simp only[ak];cases hb:Nat.beq (c-KB) q.1 with
  |false=>exact ih hl
  |true=>
   have e:=Nat.eq_of_beq_eq_true hb;rcases hq with hq|hq
   ·rw[cond_true,e];exact hq.symm
   ·exact absurd (by omega) hq
theorem ags{n i nb:Nat}{ops:Array Oper}{o:Oper}{st st':St}{R W:List Nat}(h:ll P A C n ops i o nb st=some (st',R,W)):
  ∃x upd,st'=⟨mg st.sl o.dst x,b7 st.hp upd,st.nb⟩∧W=j5 st.hp upd∧∀gD:St,(∀d∈o.looksAt ops,gD.sl d=st.sl d)→(∀id∈R,Ck st.hp gD.hp id)→
   ll P A C n ops i o nb gD=some (⟨mg gD.sl o.dst x,b7 gD.hp upd,gD.nb⟩,R,W)∧W=j5 gD.hp upd:=by
 unfold ll at h;cases hd:zr o n with
 |false=>rw[hd]at h;cases h
 |true=>
  rw[hd]at h;simp only[cond_true]at h;have go:(((jI P A st.sl i (nb+64*i) o).run C st.hp).bind fun r=>some ((⟨mg st.sl o.dst r.1.v,b7 st.hp r.1.upd,st.nb⟩:St),xG r.2 r.1.upd,j5 st.hp r.1.upd))=some (st',R,W)→
    ∃x upd,st'=⟨mg st.sl o.dst x,b7 st.hp upd,st.nb⟩∧W=j5 st.hp upd∧∀gD:St,(∀d∈o.looksAt ops,gD.sl d=st.sl d)→(∀id∈R,Ck st.hp gD.hp id)→
     (((jI P A gD.sl i (nb+64*i) o).run C gD.hp).bind fun r=>some ((⟨mg gD.sl o.dst r.1.v,b7 gD.hp r.1.upd,gD.nb⟩:St),xG r.2 r.1.upd,j5 gD.hp r.1.upd))=some (⟨mg gD.sl o.dst x,b7 gD.hp upd,gD.nb⟩,R,W)∧W=j5 gD.hp upd:=by
   intro h;obtain⟨⟨r,rd⟩,h1,h2⟩:=bind_some h;cases h2;refine⟨r.v,r.upd,rfl,rfl,fun gD hs hh=> ?_⟩;have hw:j5 gD.hp r.upd=j5 st.hp r.upd:=aui fun q hq=>by
    have:=(hh (q.1+KB) (MT _ (gm.2 ⟨q,hq,rfl⟩))).2 (Nat.le_add_left _ _);rwa [Nat.add_sub_cancel]at this
   rw[aug (sl':=st.sl) fun x hx k hk=> ?_,Ak h1 fun c hc=>hh c (List.mem_append_left _ hc)]
   ·refine⟨?_,hw.symm⟩;rw[Option.bind_some,hw]
   ·subst hk;exact hs k (List.mem_append_left _ (List.mem_filterMap.2 ⟨.tmp k,by simpa using hx,rfl⟩))
  cases hg:o.guard with
  |none=>
   rw[hg]at h;obtain⟨x,upd,e1,e2,e3⟩:=go h;refine⟨x,upd,e1,e2,fun gD hs hh=> ?_⟩;unfold ll;simp only[hd,cond_true,hg];exact e3 gD hs hh
  |some gw=>
   obtain⟨g,want⟩:=gw;rw[hg]at h;simp only at h;cases rJ:(ops[g]?).bind (·.dst)with
   |none=>rw[rJ]at h;cases h
   |some d=>
    rw[rJ]at h;simp only at h;have XB:d∈o.looksAt ops:=MT _ (by rw[hg];simp[rJ]);cases sO:qG (st.sl d)with
    |none=>rw[sO]at h;cases h
    |some ob=>
    rw[sO]at h;cases ob with
    |none=>
     injection h with h;injection h with h3 h4;injection h4 with h5 h6;subst h5;subst h6;refine⟨.bf [],[],h3.symm,rfl,fun gD hs hh=> ?_⟩;unfold ll;simp only[hd,cond_true,hg,rJ,hs d XB,sO];exact⟨rfl,rfl⟩
    |some b=>
    simp only at h;cases hb:b==want with
    |true=>
     rw[hb]at h;obtain⟨x,upd,e1,e2,e3⟩:=go h;refine⟨x,upd,e1,e2,fun gD hs hh=> ?_⟩;unfold ll;simp only[hd,cond_true,hg,rJ,hs d XB,sO,hb];exact e3 gD hs hh
    |false=>
     rw[hb]at h;simp only[cond_false]at h;injection h with h;injection h with h3 h4;injection h4 with h5 h6;subst h5;subst h6;refine⟨.bf [],[],h3.symm,rfl,fun gD hs hh=> ?_⟩;unfold ll;simp only[hd,cond_true,hg,rJ,hs d XB,sO,hb,cond_false];exact⟨rfl,rfl⟩
theorem agt{sl:Nat→V}{d:Option Nat}{x:V}{k:Nat}(h:d≠some k):mg sl d x k=sl k:=by
 cases d with
 |none=>rfl
 |some d=>exact cA _ _ fun e=>h (by rw[e])
theorem auj{hp:Nat→Option ag}{a b:List (Nat×ag)}(h:∀q∈a,∀q'∈b,q.1≠q'.1):b7 (b7 hp a) b=b7 (b7 hp b) a:=by
 funext id;by_cases ha:∃q∈a,q.1=id
 ·have hb:∀q∈b,q.1≠id:=by
   obtain⟨q,hq,rfl⟩:=ha;exact fun q' dS e=>h q hq q' dS e.symm
  rw[Fi hb];obtain⟨q,hq,rfl⟩:=ha;have same:∀(bK gv:Nat→Option ag) (l:List (Nat×ag)) (q:Nat×ag),q∈l→b7 bK l q.1=b7 gv l q.1:=by
   intro bK gv l
   induction l with
   |nil=>intro q hq;simp at hq
   |cons p l ih=>
    intro q hq;simp only[b7,ak];cases hb:Nat.beq q.1 p.1 with
    |true=>rfl
    |false=>
     simp only[cond_false];refine ih q ((jg.1 hq).resolve_left fun e=> ?_);rw[e,oX]at hb;cases hb
  exact same _ _ a q hq
 ·rw[Fi (hp:=b7 hp b) (l:=a) fun q hq e=>ha ⟨q,hq,e⟩];have same:∀(bK gv:Nat→Option ag) (l:List (Nat×ag)),bK id=gv id→b7 bK l id=b7 gv l id:=by
   intro bK gv l he
   induction l with
   |nil=>exact he
   |cons p l ih=>
    simp only[b7,ak];cases hb:Nat.beq id p.1 with
    |true=>rfl
    |false=>exact ih
  exact same _ _ b (Fi fun q hq e=>ha ⟨q,hq,e⟩)
structure agu(ops:Array Oper)(o1 o2:Oper)(R1 W1 R2 W2:List Nat):Prop where
 apart:Oper.apart ops o1 o2=true
 w:∀id∈W1,id∉R2∧id∉W2
 r:∀id∈R1,id∉W2
theorem auk{n i j nb:Nat}{ops:Array Oper}{o1 o2:Oper}{st kX gD:St}{R1 W1 R2 W2:List Nat}(h1:ll P A C n ops i o1 nb st=some (kX,R1,W1))(h2:ll P A C n ops j o2 nb kX=some (gD,R2,W2))
  (hi:agu ops o1 o2 R1 W1 R2 W2):∃Qu,ll P A C n ops j o2 nb st=some (Qu,R2,W2)∧ll P A C n ops i o1 nb Qu=some (gD,R1,W1):=by
 obtain⟨x1,u1,e1,f1,g1⟩:=ags h1;obtain⟨x2,u2,e2,f2,g2⟩:=ags h2;obtain⟨a1,a2,a3⟩:=Oper.apart_spec hi.apart;subst e1;have k2:=g2 st (fun d hd=>by simp only;rw[agt fun e=>a1 d e hd]) fun c hc=>(agr fun hw=>(hi.w c (by rw[f1];exact hw)).1 hc).symm;refine⟨_,k2.1,?_⟩;rw[(g1 _ (fun d hd=> ?_) (fun c hd=> ?_)).1,e2]
 ·congr 3
  ·funext k;cases hd1:o1.dst with
   |none=>rfl
   |some d1=>
    cases zz:o2.dst with
    |none=>rfl
    |some d2=>
     have bE:d2≠d1:=fun e=>a2 d1 hd1 (by rw[zz,e]);simp only[mg,ak];cases Eg:Nat.beq k d1<;>cases Bz:Nat.beq k d2<;>simp only[cond_true,cond_false];rw[aN]at Eg Bz;exact absurd (Bz.symm.trans Eg) bE
  ·exact(auj fun q hq q' dS e=>(hi.w q.1 (by rw[f1];exact XA hq)).2 (by rw[f2,e];exact XA dS)).symm
 ·simp only;rw[agt fun e=>a3 d e hd]
 ·exact agr fun hw=>hi.r c hd (by rw[k2.2];exact hw)
def Fl(P:Program)(A:dz)(C:af)(n:Nat)(ops:Array Oper)(nb:Nat):List (Nat×Oper×List Nat×List Nat)→St→St→Prop
 | [],st,st'=>st=st'
 |(i,o,R,W)::l,st,st'=> ∃kX,ll P A C n ops i o nb st=some (kX,R,W)∧Fl P A C n ops nb l kX st'
def Cm(x:Nat×Oper×List Nat×List Nat):Nat×List Nat×List Nat:=(x.1,x.2.2.1,x.2.2.2)
theorem agv{n nb:Nat}{ops:Array Oper}:∀{l:List (Nat×Oper)} {st st':St} {log Qv:Log},vL P A C n ops nb l st log=some (st',Qv)→
  ∃g,g.map (fun x=>(x.1,x.2.1))=l∧Qv=log++g.map Cm∧Fl P A C n ops nb g st st'
 | [],st,st',log,Qv,h=>by
  cases h;exact⟨[],rfl,by simp,rfl⟩
 |(i,o)::l,st,st',log,Qv,h=>by
  obtain⟨⟨kX,R,W⟩,h1,h2⟩:=bind_some h;obtain⟨g,a,b,c⟩:=agv h2;exact⟨(i,o,R,W)::g,by simp[a],by simp[b,Cm],kX,h1,c⟩
def agw(ops:Array Oper)(x y:Nat×Oper×List Nat×List Nat):Prop:=agu ops x.2.1 y.2.1 x.2.2.1 x.2.2.2 y.2.2.1 y.2.2.2
theorem agx{n nb:Nat}{ops:Array Oper}{y:Nat×Oper×List Nat×List Nat}{g2:List (Nat×Oper×List Nat×List Nat)}:∀{g1:List (Nat×Oper×List Nat×List Nat)} {st st':St},
  Fl P A C n ops nb (g1++y::g2) st st'→(∀x∈g1,agw ops x y)→∃kX,ll P A C n ops y.1 y.2.1 nb st=some (kX,y.2.2.1,y.2.2.2)∧Fl P A C n ops nb (g1++g2) kX st'
 | [],st,st',h,_=>h
 |x::g1,st,st',h,hi=>by
  obtain⟨kX,h1,h2⟩:=h;obtain⟨gD,h3,h4⟩:=agx h2 fun z hz=>hi z (jU _ hz);obtain⟨Qu,h5,h6⟩:=auk h1 h3 (hi x (by simp));exact⟨Qu,h5,gD,h6,h4⟩
theorem agy(hC:qk P A C)(hP:lR P A){n nb:Nat}{ops:Array Oper}{Q:Exit→Act→World→Prop}:∀{g:List (Nat×Oper×List Nat×List Nat)} {st st':St} {a:Act} {w:World} {I:Nat→Nat→Prop} {β:Nat→Option Nat},
  Fl P A C n ops nb g st st'→(∀x∈g,ops[x.1]? =some x.2.1)→ax P w I β st.hp B M w0→jt P A.idle A.aC w I β n a st→
  (∀a' w' I' β',Le P w I β st.hp w' I' β' st'.hp→ax P w' I' β' st'.hp B M w0→jt P A.idle A.aC w' I' β' n a' st'→Q .normal a' w')→wpOps P ops Q (g.map (·.1)) a w
 | [],st,st',a,w,I,β,h,_,S,hA,hQ=>by
  cases h;exact hQ a w I β (Le.refl w I β _) S hA
 |x::g,st,st',a,w,I,β,h,ho,S,hA,hQ=>by
  obtain⟨kX,h1,h2⟩:=h;rw[mc,wpOps_cons];refine agp hC hP (ho x (by simp)) S hA h1 fun a' w' I' β' k1 k2 k3=> ?_;exact agy hC hP h2 (fun y hy=>ho y (jU _ hy)) k2 k3 fun a2 w2 I2 cG m1 m2 m3=>hQ a2 w2 I2 cG (k1.trans m1) m2 m3
end
section
variable {P:Program}{A:dz}{w w':World}{I I' I2:Nat→Nat→Prop}{μ β β':Nat→Option Nat}{hp hp':Nat→Option ag}{C:af}{B:Nat}{M:Nat→Prop}{w0:Start}
inductive Cn(ops:Array Oper):Nat→Nat→Prop
 |agz {i x:Nat} {o:Oper} {e:Edge}:ops[i]? =some o→e∈o.after→Region.binds .any e=true→e.on=x→Cn ops i x
 |trans {i x:Nat} {o:Oper} {e:Edge}:ops[i]? =some o→e∈o.after→Region.binds .any e=true→Cn ops e.on x→Cn ops i x
theorem agA{acc:Array Nat}{x:Nat}:∀{l:List Edge} {s:Nat},(l.foldl (fun s e=>if Region.binds .any e then s|||2^e.on|||acc.getD e.on 0 else s) s).testBit x=true→
  s.testBit x=true∨∃e∈l,Region.binds .any e=true∧(e.on=x∨(acc.getD e.on 0).testBit x=true)
 | [],s,h=> .inl h
 |e::l,s,h=>by
  simp only[List.foldl_cons]at h;rcases agA h with h1|⟨e',a,b⟩
  ·by_cases hb:Region.binds .any e=true
   ·rw[aF hb,Nat.testBit_or,Nat.testBit_or,GF,GF]at h1;rcases h1 with(h1|h1)|h1
    ·exact .inl h1
    ·rw[Dx]at h1;exact .inr ⟨e,by simp,hb,.inl (by simpa using h1)⟩
    ·exact .inr ⟨e,by simp,hb,.inr h1⟩
   ·rw[aD hb]at h1;exact .inl h1
  ·exact .inr ⟨e',jU _ a,b⟩
theorem agB{ops:Array Oper}{x:Nat}:∀{l:List Oper} {acc:Array Nat},(∀j o,l[j]? =some o→ops[acc.size+j]? =some o)→(∀j,(acc.getD j 0).testBit x=true→Cn ops j x)→
  ∀j,((l.foldl (fun acc o=>acc.push (o.after.foldl (fun s e=>if Region.binds .any e then s|||2^e.on|||acc.getD e.on 0 else s) 0)) acc).getD j 0).testBit x=true→Cn ops j x
 | [],acc,_,Qw,j,h=>Qw j h
 |o::l,acc,hl,Qw,j,h=>by
  simp only[List.foldl_cons]at h;refine agB (l:=l) ?_ ?_ j h
  ·intro j o' hj;have:=hl (j+1) o' (by simpa using hj);rw[Array.size_push];rwa [show acc.size+1+j=acc.size+(j+1) by omega]
  ·intro k hk;simp only[Du,Array.getElem?_push]at hk;by_cases XC:k=acc.size
   ·rw[aF XC]at hk;simp only[Option.getD_some]at hk;rw[←MU]at hk;have ho:=hl 0 o rfl;rw[Nat.add_zero]at ho;rw[XC];have Bz:(o.after.toList.foldl (fun s e=>if Region.binds .any e then s|||2^e.on|||acc.getD e.on 0 else s) 0).testBit x=true:=by simpa[Du]using hk
    rcases agA Bz with h0|⟨e,he,hb,h1⟩
    ·simp at h0
    ·rcases h1 with h1|h1
     ·exact .agz ho (vD.1 he) hb h1
     ·exact .trans ho (vD.1 he) hb (Qw _ h1)
   ·rw[aD XC]at hk;exact Qw k (by simpa[Du]using hk)
theorem aul{ops:Array Oper}{i x:Nat}(h:((Region.before ops).getD i 0).testBit x=true):Cn ops i x:=by
 unfold Region.before at h;rw[←MU]at h;refine agB (l:=ops.toList) (acc:= #[]) (fun j o hj=>by simpa using hj) (fun j hj=>by simp at hj) i h
def agC(ops:Array Oper)(listed:Array Bool):Prop:= ∀i o,ops[i]? =some o→listed.getD i false=true→∀e∈o.after,Region.binds .any e=true→listed.getD e.on false=true
theorem aum{ops:Array Oper}{listed:Array Bool}(hc:agC ops listed){i x:Nat}(h:Cn ops i x)(hi:∀o,ops[i]? =some o→∀e∈o.after,Region.binds .any e=true→listed.getD e.on false=true):listed.getD x false=true:=by
 induction h with
 |agz ho he hb hx=>rw[←hx];exact hi _ ho _ he hb
 |trans ho he hb _ ih=>exact ih fun o' uz e' E6 au=>hc _ o' uz (hi _ ho _ he hb) e' E6 au
theorem agD:∀{l:List Oper} {k j:Nat} {o:Oper},Hg k l=true→l[j]? =some o→∀e∈o.after,Region.binds .any e=true→e.on<k+j
 | [],k,j,o,_,h=>by simp at h
 |o'::l,k,j,o,hk,h=>by
  simp only[Hg,aG]at hk;cases j with
  |zero=>
   simp at h;subst h;intro e he hb;have:=im.1 hk.1 e (vD.2 he);simp[hb]at this;omega
  |succ j=>
   intro e he hb;have:=agD hk.2 (j:=j) (by simpa using h) e he hb;omega
theorem agE{ops:Array Oper}{A4:Array Nat}:∀{l:Log},Nu ops A4 l=true→l.Pairwise fun x y=>Hf ops A4 x y=true
 | [],_=> .nil
 |x::l,h=>by
  simp only[Nu,aG]at h;exact .cons (fun y hy=>im.1 h.1 y hy) (agE h.2)
theorem agF{listed:Array Bool}{i:Nat}(h:listed.getD i true=false):i<listed.size∧listed.getD i false=false:=by
 rcases jG i listed.size with h'|h'
 ·refine⟨h',?_⟩;simpa[h']using h
 ·simp[Array.getElem?_eq_none h']at h
theorem agG(hC:qk P A C)(hP:lR P A){n nb:Nat}{ops:Array Oper}{Q:Exit→Act→World→Prop}(Qx:Hg 0 ops.toList=true):
  ∀(fuel:Nat) {g:List (Nat×Oper×List Nat×List Nat)} {listed:Array Bool} {st st':St} {a:Act} {w:World} {I:Nat→Nat→Prop} {β:Nat→Option Nat},
  g.length=fuel→Fl P A C n ops nb g st st'→(∀x∈g,ops[x.1]? =some x.2.1)→(g.map (·.1)).Pairwise (· < ·)→(g.map Cm).Pairwise (fun x y=>Hf ops (Region.before ops) x y=true)→
  listed.size=ops.size→(∀i,i<ops.size→(listed.getD i false=false↔i∈g.map (·.1)))→agC ops listed→
  ax P w I β st.hp B M w0→jt P A.idle A.aC w I β n a st→
  (∀a' w' I' β',Le P w I β st.hp w' I' β' st'.hp→ax P w' I' β' st'.hp B M w0→jt P A.idle A.aC w' I' β' n a' st'→Q .normal a' w')→wpAny P .any ops Q fuel listed a w
 |0,g,listed,st,st',a,w,I,β,hf,hr,ho,aO,Qy,aZ,Co,lD,S,hA,hQ=>by
  obtain rfl:g=[]:=qu hf;cases hr;refine⟨?_,hQ a w I β (Le.refl w I β _) S hA⟩;rw[List.eq_nil_iff_forall_not_mem];intro i hi;obtain⟨h0,_⟩:=mem_ready.1 hi;obtain⟨h1,h2⟩:=agF h0;have:=(Co i (by omega)).1 h2;simp at this
 |fuel+1,g,listed,st,st',a,w,I,β,hf,hr,ho,aO,Qy,aZ,Co,lD,S,hA,hQ=>by
  refine⟨fun uU=> ?_,fun i hi=> ?_⟩
  ·exfalso;cases g with
   |nil=>simp at hf
   |cons x g=>
    have hx:=ho x (by simp);have kh:x.1<ops.size:=(zh.1 hx).1;have iu:x.1∈Region.ready .any ops listed:=by
     rw[mem_ready];have h0:=(Co x.1 kh).2 (by simp);refine⟨?_,x.2.1,hx,fun e he hb=> ?_⟩
     ·have hl:x.1<listed.size:=by omega
      simpa[hl]using h0
     ·have WU:=agD Qx (j:=x.1) (by simpa using hx) e he hb;rw[dP]at WU;cases hle:listed.getD e.on false with
      |true=>rfl
      |false=>
       have hm:=(Co e.on (by omega)).1 hle;simp only[mc,jg]at hm;rw[mc,GQ]at aO;rcases hm with hm|hm
       ·omega
       ·have:=aO.1 _ hm;omega
    rw[uU]at iu;cases iu
  ·obtain⟨h0,oi,J9,hed⟩:=mem_ready.1 hi;obtain⟨h1,h2⟩:=agF h0;have hig:=(Co i (by omega)).1 h2;obtain⟨y,hy,Qz⟩:=gm.1 hig;obtain⟨g1,g2,rfl⟩:=List.append_of_mem hy;subst Qz;have hyo:=ho y hy;rw[J9]at hyo;have agH:oi=y.2.1:=eX hyo;have jN:((g1++y::g2).map (·.1)).Nodup:=aO.imp fun h=>GV h;have aun:∀x∈g1,agw ops x y:=by
    intro x hx;have hp:Hf ops (Region.before ops) (Cm x) (Cm y)=true:=by
     rw[qB,mc,DA]at Qy;exact Qy.2.2 _ (gm.2 ⟨x,hx,rfl⟩) _ (by simp)
    have hxo:=ho x (ik.2 (.inl hx));unfold Hf at hp;rw[GF]at hp;rcases hp with hp|hp
    ·have hl:=aum lD (aul hp) fun o uz e he hb=>by
      have:o=oi:=by
       have h3:ops[y.1]? =some o:=uz;rw[J9]at h3;exact(eX h3).symm
      subst this;exact hed e he hb
     have kh:x.1<ops.size:=(zh.1 hxo).1;have:=(Co x.1 kh).2 (gm.2 ⟨x,ik.2 (.inl hx),rfl⟩);rw[show(Cm x).1=x.1 from rfl,this]at hl;cases hl
    ·simp only[Cm,Du,hxo,J9,Option.getD_some,aG,nG]at hp;obtain⟨q1,q2,q3⟩:=hp;refine⟨agH▸q1,fun id ae=> ?_,fun id ae=>Qn q3 ae⟩;have:=Qn q2 ae;rw[ik]at this;exact⟨fun h=>this (.inl h),fun h=>this (.inr h)⟩
   obtain⟨kX,lz,pn⟩:=agx hr aun;rw[←agH]at lz;refine agp hC hP J9 S hA lz fun a' w' I' β' k1 k2 k3=> ?_;have mJ:List.Sublist (g1++g2) (g1++y::g2):=List.Sublist.append_left (List.sublist_cons_self y g2) g1;have jK:∀j,j≠y.1→(listed.setIfInBounds y.1 true).getD j false=listed.getD j false:=fun j hj=>getD_set_ne false (Ne.symm hj);refine agG hC hP Qx fuel (g:=g1++g2) (st':=st') ?_ pn (fun x hx=>ho x (mJ.subset hx)) (aO.sublist (mJ.map _)) (Qy.sublist (mJ.map _)) (by simp[aZ]) (fun j hj=> ?_) (fun j o XD dt e he hb=> ?_) k2 k3 fun a2 w2 I2 cG m1 m2 m3=>hQ a2 w2 I2 cG (k1.trans m1) m2 m3
   ·simp at hf⊢;omega
   ·by_cases wz:j=y.1
    ·subst wz;have hl:y.1<listed.size:=by omega
     simp only[Du,Array.getElem?_setIfInBounds_self_of_lt hl,Option.getD_some];refine⟨fun h=>(by cases h),fun h=> ?_⟩;exfalso;rw[qB,mc,MZ,List.nodup_cons]at jN;rw[qB,ik]at h;rcases h with h|h
     ·exact jN.2.2 _ h _ (by simp) rfl
     ·exact jN.2.1.1 h
    ·rw[jK j wz,Co j hj];simp only[qB,mc,ik,jg];constructor
     ·rintro(h|h|h)
      ·exact .inl h
      ·exact absurd h wz
      ·exact .inr h
     ·rintro(h|h)
      ·exact .inl h
      ·exact .inr (.inr h)
   ·by_cases wz:j=y.1
    ·subst wz;rw[J9]at XD;cases XD;exact getD_set_true (hed e he hb)
    ·rw[jK j wz]at dt;exact getD_set_true (lD j o XD dt e he hb)
end
section
variable {P:Program}{A:dz}{w w':World}{I I' I2:Nat→Nat→Prop}{μ β β':Nat→Option Nat}{hp hp':Nat→Option ag}{C:af}{B:Nat}{M:Nat→Prop}{w0:Start}
theorem agI:∀{l:List Oper} {k j:Nat},(uu k l)[j]? =(l[j]?).map fun o=>(k+j,o)
 | [],k,j=>by simp[uu]
 |o::l,k,0=>by simp[uu]
 |o::l,k,j+1=>by
  simp only[uu,List.getElem?_cons_succ,agI];congr 1;funext o;rw[show k+1+j=k+(j+1) by omega]
theorem agJ:∀{l:List Oper} {k:Nat},(uu k l).map (·.1)=List.range' k l.length
 | [],k=>rfl
 |o::l,k=>by simp[uu,agJ,List.range'_succ]
theorem auo(hC:qk P A C)(hP:lR P A)(hm:P.follows .mixedOrders=true){n id:Nat}{ops:Array Oper}{draw:Bool}{st st':St}{a:Act}{Q:Exit→Act→World→Prop}
  (h:DS P A C n ops draw st=some st') (S:ax P w I β st.hp B M w0) (hA:jt P A.idle A.aC w I β n a st)
  (hQ:∀a' w' I' β',Le P w I β st.hp w' I' β' st'.hp→ax P w' I' β' st'.hp B M w0→jt P A.idle A.aC w' I' β' n a' st'→Q .normal a' w'):(Code.region id ops draw).wp P Q a w:=by
 obtain⟨⟨kX,log⟩,h1,h2⟩:=bind_some h;obtain⟨g,g1,g2,g3⟩:=agv h1;have QA:g.map (·.1)=List.range ops.size:=by
  have:g.map (·.1)=(g.map fun x=>(x.1,x.2.1)).map (·.1):=by simp
  rw[this,g1,agJ,List.range_eq_range'];simp
 have hop:∀x∈g,ops[x.1]? =some x.2.1:=by
  intro x hx;have:(x.1,x.2.1)∈uu 0 ops.toList:=by rw[←g1];exact gm.2 ⟨x,hx,rfl⟩
  obtain⟨j,hj⟩:=List.mem_iff_getElem?.1 this;rw[agI]at hj;cases ho:ops.toList[j]? with
  |none=>rw[ho]at hj;cases hj
  |some o=>
   rw[ho]at hj;simp only[Option.map_some,dP,eU,og]at hj;rw[←hj.1,←hj.2];simpa using ho
 cases draw with
 |false=>
  simp only[Bool.not_false,Bool.true_or,cond_true]at h2;cases h2;refine wp_region ?_;rw[←QA];exact agy hC hP g3 hop S hA hQ
 |true=>
  simp only[Bool.not_true,Bool.false_or]at h2;cases hc:(Region.noSelect ops&&Hh ops log)with
  |false=>rw[hc]at h2;cases h2
  |true=>
   rw[hc]at h2;cases h2;simp only[aG,Hh]at hc;obtain⟨hns,Qx,aup⟩:=hc;simp only[List.nil_append]at g2;refine wp_region_any hm ?_;have hlen:g.length=ops.size:=by
    have:=congrArg List.length QA;simpa using this
   refine agG hC hP Qx ops.size (g:=g) (st':=st') hlen g3 hop (by rw[QA];exact List.pairwise_lt_range) (by rw[←g2];exact agE aup) (by simp) (fun i hi=> ?_) (fun i o ho hl=> ?_)
    (w:=w.drew) S.drew ⟨fun k=>(hA.sl k).mono (Le.drew w I β _),hA.size,hA.defers,hA.aC.mono (Le.drew (P:=P) w I β st.hp).eD (Le.drew (P:=P) w I β st.hp).cM⟩ fun a' w' I' β' k1 k2 k3=>hQ a' w' I' β' ((Le.drew w I β _).trans k1) k2 k3
   ·rw[QA];simp[hi]
   ·have hi:=(zh.1 ho).1;simp[hi]at hl
end
section
variable {P:Program}{A:dz}{E:FuncId→Bool}{G:Nat→V}{w w':World}{I I' I2:Nat→Nat→Prop}{μ β β':Nat→Option Nat}{hp hp':Nat→Option ag}{C:af}{B:Nat}{M:Nat→Prop}{w0:Start}
theorem Al:∀{l:List Nat} {hp:Nat→Option ag} {I:Nat→Nat→Prop},ax P w I β hp B M w0→∃I',Le P w I β hp w I' β (xF hp l)∧ax P w I' β (xF hp l) B M w0
 | [],hp,I,S=>⟨I,Le.refl w I β hp,S⟩
 |id::l,hp,I,S=>by
  simp only[xF];cases ae:hp id with
  |none=>exact Al S
  |some blk=>
   cases blk with
   |dead=>exact Al S
   |out _ _ _ _=>exact Al S
   |var _=>exact Al S
   |map _ _=>exact Al S
   |arr e es fz=>
    obtain⟨h1,h2⟩:=DY S (upd:=[(id,.arr e es true)]) (fun p hp=>by
     simp only[jV]at hp;subst hp;exact⟨e,es,rfl,.inl ⟨fz,ae⟩⟩)
    obtain⟨I',h3,h4⟩:=Al (l:=l) h2;exact⟨I',h1.trans h3,h4⟩
   |nest e es vers=>
    obtain⟨h1,h2⟩:=DY S (upd:=[(id,.arr e es true)]) (fun p hp=>by
     simp only[jV]at hp;subst hp;exact⟨e,es,rfl,.inr ⟨vers,ae⟩⟩)
    obtain⟨I',h3,h4⟩:=Al (l:=l) h2;exact⟨I',h1.trans h3,h4⟩
theorem agK{n:Nat}{a:Act}{st:St}(S:ax P w I β st.hp B M w0)(hA:jt P E G w I β n a st):
  ∃I',Le P w I β st.hp w I' β st.hp∧ax P w I' β st.hp B M w0∧jt P E G w I' β n a st∧vQ P I' β st.hp:=by
 obtain⟨I',h1,h2,h3⟩:=abW S;exact⟨I',h1,h2,⟨fun k=>(hA.sl k).mono h1,hA.size,hA.defers,hA.aC.mono h1.eD h1.cM⟩,h3⟩
theorem auq{hp:Nat→Option ag}(S:ax P w I β hp B M w0)(hT:vQ P I β hp){v:Value}{x:V}(hv:ai P w I β hp v x):ai P w I β hp v (He hp x):=by
 cases x with
 |whole e id=>
  simp only[He];split
  ·rename_i e' es ae;cases he:Nat.beq e e' with
   |false=>exact hv
   |true=>
    rw[aN]at he;subst he;simp only[cond_true];cases hv with
    |ei h=>grind
    |dQ h=>grind
    |eA h=>grind
    |fK h=>grind
    |dZ h=>rw[ae]at h;cases h;exact .list (.any fun _=>rfl)
    |whole h hb aZ bO hm=>
     rw[ae]at h;cases h;have hr:=S.h.rel id _ ae;cases hr with
     |eM au=>grind
     |arr hL ao au hh hs hf fR hx=>
      rw[hb]at au;cases au;have:=xK (I':=I) (off:=0) (len:=es.length) (o:=0) hh hx (fL ao) (by omega) bO (fun _=>by simp) (fun _ _ h=>h) (hT _ _ _ _ ae hb);exact .list (by grind)
  ·exact hv
 |sub e id off len=>
  simp only[He];split
  ·rename_i e' es ae;cases he:Nat.beq e e' with
   |false=>exact hv
   |true=>
    rw[aN]at he;subst he;simp only[cond_true];cases hv with
    |j8 h=>grind
    |jz h=>rw[ae]at h;cases h;exact .list (by simpa using(lr.any (P:=P) fun _=>rfl))
    |sub h hb nT bO ho=>
     rw[ae]at h;cases h;have hr:=S.h.rel id _ ae;cases hr with
     |eM au=>grind
     |arr hL ao au hh hs hf fR hx=>
      rw[hb]at au;cases au;exact .list (xK (I':=I) hh hx (fL ao) nT bO ho (fun _ _ h=>h) (hT _ _ _ _ ae hb))
  ·exact hv
 |_=>exact hv
theorem aur{n:Nat}{a:Act}{st:St}(S:ax P w I β st.hp B M w0)(hA:jt P E G w I β n a st)(p:Nat):
  ∃β',Le P w I β st.hp w I β' (zq st p).hp∧ax P w I β' (zq st p).hp B M w0∧jt P E G w I β' n a (zq st p):=by
 have same:∃β',Le P w I β st.hp w I β' st.hp∧ax P w I β' st.hp B M w0∧jt P E G w I β' n a st:=⟨β,Le.refl ..,S,hA⟩
 unfold zq;cases Nat.ble (102*KB) p with
 |true=>
  simp only[cond_true];split
  ·rename_i id hx;split
   ·rename_i T cs ae;split
    ·rename_i e hc;have hr:=S.h.rel id _ ae;obtain⟨b,hb,_⟩:∃b,β id=some b∧True:=by
      have hv:=hA.sl (p %KB);rw[hx]at hv;obtain⟨b,hb,_⟩:=hv.jC ae (by simp);exact⟨b,hb,trivial⟩
     rw[hb]at hr;have aO:=(cw.1 hc).1;cases hr with
     |@var _ b' C _ au hh hs hI kh jo=>
      cases au;obtain⟨h1,h2⟩:=D1 (w':=w) (blk':= .var T (cs.set (p/KB-102) (.nl e []))) S ae (by simp) rfl hb hI (by simp) (fun _ _=>rfl) rfl (aW _) ⟨rfl,rfl⟩ fun hle=> .var rfl hh (by simp;exact hs) hI (fun j v y hj hy=>by
       by_cases Bi:p/KB-102=j
       ·subst Bi;rw[sa aO]at hy;cases hy;have hv:=kh _ v _ hj hc;cases hv;exact .nl .nil fun _=>rfl
       ·rw[zb Bi]at hy;exact(kh j v y hj hy).mono hle) jo
      exact⟨β,h1,h2,⟨fun k=>(hA.sl k).mono h1,hA.size,hA.defers,hA.aC⟩⟩
    ·exact same
   ·exact same
  ·exact same
 |false=>
 simp only[cond_false];cases Nat.ble (2*KB) p with
 |false=>exact same
 |true=>
  simp only[cond_true];split
  ·rename_i e hn hx;obtain⟨h1,h2⟩:=T7 S (vers:=[0,0,0]) e hn;refine⟨_,h1,h2,⟨fun k=> ?_,hA.size,hA.defers,hA.aC⟩⟩;show ai P w I (ak β st.nb none) (ak st.hp st.nb (some (.nest e [] [0,0,0]))) _ (ak st.sl (p %KB) (V.whole e st.nb) k);by_cases hk:k=p %KB
   ·subst hk;have hv:=hA.sl (p %KB);rw[hx]at hv;rw[bI];generalize a.tmps.getD (p %KB) _=v at hv⊢;cases hv;exact .eA (bI _ _ _) (bI _ _ _)
   ·rw[cA _ _ hk];exact(hA.sl k).mono h1
  ·rename_i cs hn hx;split
   ·rename_i e hc;obtain⟨h1,h2⟩:=T7 S (vers:=[0,0,0]) e hn;refine⟨_,h1,h2,⟨fun k=> ?_,hA.size,hA.defers,hA.aC⟩⟩;show ai P w I (ak β st.nb none) (ak st.hp st.nb (some (.nest e [] [0,0,0]))) _ (ak st.sl (p %KB) (V.agg (cs.set (p/KB-2) (.whole e st.nb))) k);by_cases hk:k=p %KB
    ·subst hk;have hv:=hA.sl (p %KB);rw[hx]at hv;rw[bI];generalize a.tmps.getD (p %KB) _=v at hv⊢;obtain⟨vs,rfl,lz,pn⟩:=hv.oq;refine .agg (by grind) fun j v x hv pQ=> ?_;by_cases hj:p/KB-2=j
     ·subst hj;have aO:=(cw.1 hc).1;rw[sa aO]at pQ;cases pQ;have B5:=pn _ v _ hv hc;cases B5;exact .eA (vers:=[0,0,0]) (bI _ _ _) (bI _ _ _)
     ·rw[zb hj]at pQ;exact(pn j v x hv pQ).mono h1
    ·rw[cA _ _ hk];exact(hA.sl k).mono h1
   omega
  ·rename_i id hn hx;split
   ·rename_i T cs ae;split
    ·rename_i e hc;obtain⟨h1,h2⟩:=T7 S (vers:=[0,0,0]) e hn;have bE:id≠st.nb:=fun h=>by grind
     have sJ:ak st.hp st.nb (some (.nest e [] [0,0,0])) id=some (.var T cs):=by rw[cA _ _ bE];exact ae
     have hr:=h2.h.rel id _ sJ;generalize ho:ak β st.nb none id=o at hr;cases hr with
     |@var _ b Ca _ hb hh hs hI lM jo=>
     subst hb;obtain⟨h3,h4⟩:=D1 (w':=w) h2 (blk':= .var T (cs.set (p/KB-2) (.whole e st.nb))) sJ (by simp) rfl ho hI (by simp) (fun _ _=>rfl) rfl (aW _) ⟨rfl,rfl⟩
      (fun hle=> .var rfl hh (by grind) hI (fun j v x hv pQ=>by
       by_cases hj:p/KB-2=j
       ·subst hj;have aO:=(cw.1 hc).1;rw[sa aO]at pQ;cases pQ;have B5:=lM _ v _ hv hc;cases B5;exact .eA (vers:=[0,0,0]) (by rw[cA _ _ (Ne.symm bE)];exact bI _ _ _) (bI _ _ _)
       ·rw[zb hj]at pQ;exact(lM j v x hv pQ).mono hle) jo)
     exact⟨_,h1.trans h3,h4,⟨fun k=>(hA.sl k).mono (h1.trans h3),hA.size,hA.defers,hA.aC⟩⟩
    omega
   omega
  omega
theorem agL{n:Nat}{a:Act}:∀(l:List Nat) {st:St} {β:Nat→Option Nat},ax P w I β st.hp B M w0→jt P E G w I β n a st→
  ∃β',Le P w I β st.hp w I β' (l.foldl zq st).hp∧ax P w I β' (l.foldl zq st).hp B M w0∧jt P E G w I β' n a (l.foldl zq st)
 | [],st,β,S,hA=>⟨β,Le.refl ..,S,hA⟩
 |p::l,st,β,S,hA=>by
  obtain⟨wy,h1,h2,h3⟩:=aur S hA p;obtain⟨cG,h4,h5,h6⟩:=agL l h2 h3;exact⟨cG,h1.trans h4,h5,h6⟩
theorem agM{n m:Nat}{pur:List Nat}{a:Act}{st:St}(S:ax P w I β st.hp B M w0)(hA:jt P E G w I β n a st):
  ∃I' β',Le P w I β st.hp w I' β' (freeze m pur st).hp∧ax P w I' β' (freeze m pur st).hp B M w0∧jt P E G w I' β' n a (freeze m pur st):=by
 obtain⟨I1,h1,h2⟩:=Al (l:=(Nt st pur).filter fun id=>Nat.ble m id) S;obtain⟨I',h3,h4,h5⟩:=abW h2;have h1:=h1.trans h3;have hA2:jt P E G w I' β n a ⟨fun k=>bif jh pur (k+KB)then He (xF st.hp ((Nt st pur).filter fun id=>Nat.ble m id)) (st.sl k)else st.sl k,xF st.hp ((Nt st pur).filter fun id=>Nat.ble m id),st.nb⟩:=by
  refine⟨fun k=> ?_,hA.size,hA.defers,hA.aC.mono h1.eD h1.cM⟩;have hv:=(hA.sl k).mono h1;cases hm:jh pur (k+KB)with
  |false=>grind
  |true=>simp only[hm,cond_true];exact auq h4 h5 hv
 obtain⟨β',k1,k2,k3⟩:=agL pur h4 hA2;exact⟨I',β',h1.trans k1,k2,k3⟩
structure Fm(hp:Nat→Option ag)(β:Nat→Option Nat)(ord:List Nat)(hp':Nat→Option ag)(β':Nat→Option Nat):Prop where
 arr:∀(j:Nat) id e es fz,ord[j]? =some id→hp id=some (.arr e es fz)→hp' j=some (.arr e es fz)
 var:∀(j:Nat) id T cs,ord[j]? =some id→hp id=some (.var T cs)→∃mq,hp' j=some (.var T mq)
 dead:∀(j:Nat) id,ord[j]? =some id→hp id=some .dead→hp' j=some .dead
 out:∀(j:Nat) id e es vs i,ord[j]? =some id→hp id=some (.out e es vs i)→hp' j=some .dead
 place:∀(j:Nat) id,ord[j]? =some id→β' j=β id
 nest:∀(j:Nat) id e es vers,ord[j]? =some id→hp id=some (.nest e es vers)→hp' j=some (.nest e es (vers.map fun _=>0))
 map:∀(j:Nat) id t es,ord[j]? =some id→hp id=some (.map t es)→hp' j=some (.map t es)
theorem pC:∀{l:List Nat} {n i j:Nat},kR l n i=some j→∃k,j=i+k∧l[k]? =some n
 | [],n,i,j,h=>by cases h
 |a::l,n,i,j,h=>by
  simp only[kR]at h;cases hb:Nat.beq n a with
  |true=>
   simp_all
  |false=>
   rw[hb]at h;obtain⟨k,h1,h2⟩:=pC h;exact⟨k+1,by omega,by grind⟩
def ql(hp':Nat→Option ag)(β':Nat→Option Nat)(n:Nat)(bs:List ag):Prop:=
 ∀(k:Nat) b,bs[k]? =some b→hp' (n+k)=some b∧β' (n+k)=none
theorem XE:∀(vers:List Nat) (k:Nat),bG (vers.map fun _=>0) k=0
 | [],_=>rfl
 |_::_,0=>rfl
 |_::vs,k+1=>XE vs k
theorem agN{e:TypeId}{es:List V}{vers:List Nat}{path:Path}{ver:Nat}(hc:(Nat.blt 0 path.length&&(Nat.ble path.length vers.length&&Nat.beq (bG vers (path.length-1)) ver))=true)
  (h:(ag.nest e es vers).xH path ver):False:=by
 simp only[aG,nF,gG,aN]at hc;obtain⟨h1,h2,h3⟩:=hc;rcases h with h|h|h
 all_goals grind
theorem agO(S:ax P w I β hp B M w0)(hT:vQ P I β hp){ord:List Nat}(hR:Fm hp β ord hp' β'){v:Value}{x:V}(hv:ai P w I β hp v x):ai P w I β' hp' v (kS hp ord x):=by
 cases hv with
 |undef=>exact .undef
 |int=>exact .int
 |bool=>exact .bool
 |str h=>exact .str h
 |list h=>exact .list h
 |nilS=>exact .nilS
 |nl h h0=>exact .nl h h0
 |agg=>exact .undef
 |bf=>exact .undef
 |eV=>exact .eV
 |fn=>exact .undef
 |pref a b c=>exact .pref a b c
 |@ei _ e id ae=>
  simp only[kS];cases bK:kR ord id 0 with
  |none=>simp only[ae];exact .undef
  |some j=>
   obtain⟨k,rfl,hk⟩:=pC bK;exact .ei (hR.dead _ id (by grind) ae)
 |@j8 _ e id off len ae=>
  simp only[kS];cases bK:kR ord id 0 with
  |none=>simp only[ae];exact .undef
  |some j=>
   obtain⟨k,rfl,hk⟩:=pC bK;exact .j8 (hR.dead _ id (by grind) ae)
 |@nP _ id i c ae=>
  simp only[kS];cases bK:kR ord id 0 with
  |none=>exact .undef
  |some j=>
   obtain⟨k,rfl,hk⟩:=pC bK;exact .nP (hR.dead _ id (by grind) ae)
 |@dZ e id fz _ ae hb=>
  simp only[kS];cases bK:kR ord id 0 with
  |none=>
   simp only[ae];cases fz with
   |false=>exact .undef
   |true=>simp only[oX,cond_true];exact .list (.any fun _=>rfl)
  |some j=>
   obtain⟨k,rfl,hk⟩:=pC bK;have dK:ord[0+k]? =some id:=by grind
   exact .dZ (hR.arr _ id _ _ _ dK ae) ((hR.place _ id dK).trans hb)
 |@whole e id es fz b cap ae hb aZ bO hm=>
  simp only[kS];cases bK:kR ord id 0 with
  |none=>
   simp only[ae];cases fz with
   |false=>exact .undef
   |true=>
    simp only[oX,cond_true];have hr:=S.h.rel id _ ae;cases hr with
    |eM au=>grind
    |arr hL ao au hh hs hf fR hx=>
     rw[hb]at au;cases au;have:=xK (I':=I) (off:=0) (len:=es.length) (o:=0) hh hx (fL ao) (by omega) bO (fun _=>by simp) (fun _ _ h=>h) (hT _ _ _ _ ae hb);exact .list (by grind)
  |some j=>
   obtain⟨k,rfl,hk⟩:=pC bK;have dK:ord[0+k]? =some id:=by grind
   exact .whole (hR.arr _ id _ _ _ dK ae) ((hR.place _ id dK).trans hb) aZ bO hm
 |@jz e id fz _ ae hb=>
  simp only[kS];cases bK:kR ord id 0 with
  |none=>
   simp only[ae];cases fz with
   |false=>exact .undef
   |true=>simp only[oX,cond_true];exact .list (by simpa using(lr.any (P:=P) fun _=>rfl))
  |some j=>
   obtain⟨k,rfl,hk⟩:=pC bK;have dK:ord[0+k]? =some id:=by grind
   exact .jz (hR.arr _ id _ _ _ dK ae) ((hR.place _ id dK).trans hb)
 |@sub e id off len es fz b o cap ae hb nT bO ho=>
  simp only[kS];cases bK:kR ord id 0 with
  |none=>
   simp only[ae];cases fz with
   |false=>exact .undef
   |true=>
    simp only[oX,cond_true];have hr:=S.h.rel id _ ae;cases hr with
    |eM au=>grind
    |arr hL ao au hh hs hf fR hx=>
     rw[hb]at au;cases au;exact .list (xK (I':=I) hh hx (fL ao) nT bO ho (fun _ _ h=>h) (hT _ _ _ _ ae hb))
  |some j=>
   obtain⟨k,rfl,hk⟩:=pC bK;have dK:ord[0+k]? =some id:=by grind
   exact .sub (hR.arr _ id _ _ _ dK ae) ((hR.place _ id dK).trans hb) nT bO ho
 |@ptr id i c b blk ae hd hb=>
  simp only[kS];cases bK:kR ord id 0 with
  |none=>exact .undef
  |some j=>
   obtain⟨k,rfl,hk⟩:=pC bK;have dK:ord[0+k]? =some id:=by grind
   cases blk with
   |dead=>grind
   |var T0 cs=>
    obtain⟨mq,h'⟩:=hR.var _ id T0 cs dK ae;exact .ptr (blk:= .var T0 mq) h' (by simp) ((hR.place _ id dK).trans hb)
   |arr e es fz=>exact .ptr (blk:= .arr e es fz) (hR.arr _ id _ _ _ dK ae) (by simp) ((hR.place _ id dK).trans hb)
   |nest e es vers=>exact .ptr (blk:= .nest e es (vers.map fun _=>0)) (hR.nest _ id _ _ _ dK ae) (by simp) ((hR.place _ id dK).trans hb)
   |map t es=>exact .ptr (blk:= .map t es) (hR.map _ id _ _ dK ae) (by simp) ((hR.place _ id dK).trans hb)
   |out e es vs i=>exact .nP (hR.out _ id _ _ _ _ dK ae)
 |ff=>exact .ff
 |@mj _ t id ae=>
  simp only[kS];cases bK:kR ord id 0 with
  |none=>exact .undef
  |some j=>
   obtain⟨k,rfl,hk⟩:=pC bK;exact .mj (hR.dead _ id (by grind) ae)
 |@cK t id b es ae hb=>
  simp only[kS];cases bK:kR ord id 0 with
  |none=>exact .undef
  |some j=>
   obtain⟨k,rfl,hk⟩:=pC bK;have dK:ord[0+k]? =some id:=by grind
   exact .cK (hR.map _ id _ _ dK ae) ((hR.place _ id dK).trans hb)
 |@fK e id i es vers b cap ae hb aZ bO hm=>
  simp only[kS];cases bK:kR ord id 0 with
  |none=>simp only[ae];exact .undef
  |some j=>
   obtain⟨k,rfl,hk⟩:=pC bK;exact .ei (hR.out _ id _ _ _ _ (by grind) ae)
 |@eA e id vers _ ae hb=>
  simp only[kS];cases bK:kR ord id 0 with
  |none=>simp only[ae];exact .undef
  |some j=>
   obtain⟨k,rfl,hk⟩:=pC bK;have dK:ord[0+k]? =some id:=by grind
   exact .eA (hR.nest _ id _ _ _ dK ae) ((hR.place _ id dK).trans hb)
 |@dQ e id es vers b cap ae hb aZ bO hm=>
  simp only[kS];cases bK:kR ord id 0 with
  |none=>simp only[ae];exact .undef
  |some j=>
   obtain⟨k,rfl,hk⟩:=pC bK;have dK:ord[0+k]? =some id:=by grind
   exact .dQ (hR.nest _ id _ _ _ dK ae) ((hR.place _ id dK).trans hb) aZ bO hm
 |@nQ v e id ver path blk ae Hv=>
  simp only[kS];split
  ·rename_i j e1 dp vers h1 h2;rw[ae]at h2;cases h2;cases hc:(Nat.blt 0 path.length&&(Nat.ble path.length vers.length&&Nat.beq (bG vers (path.length-1)) ver))with
   |false=>exact .undef
   |true=>exact(agN hc Hv).elim
  ·exact .undef
 |@nR v id ver i c path blk ae Hv=>
  simp only[kS];split
  ·rename_i j e1 dp vers h1 h2;rw[ae]at h2;cases h2;cases hc:(Nat.blt 0 path.length&&(Nat.ble path.length vers.length&&Nat.beq (bG vers (path.length-1)) ver))with
   |false=>exact .undef
   |true=>exact(agN hc Hv).elim
  ·exact .undef
 |@row v e e0 t id ver b i c q es l vers ae hb hq hv ht hc=>
  simp only[kS];split
  ·rename_i j e1 dp zA h1 h2;obtain⟨k,rfl,hk⟩:=pC h1;have dK:ord[0+k]? =some id:=by grind
   cases hx:(Nat.blt 0 (q++[(i,c)]).length&&(Nat.ble (q++[(i,c)]).length zA.length&&Nat.beq (bG zA ((q++[(i,c)]).length-1)) ver))with
   |false=>exact .undef
   |true=>exact .row (hR.nest _ id _ _ _ dK ae) ((hR.place _ id dK).trans hb) (by grind) (XE _ _) ht hc
  ·exact .undef
 |@dH e e0 t id ver b b1 len cap i0 c0 i c q es l vers ae hb hq hv ht nU hc=>
  simp only[kS];split
  ·rename_i j e1 dp zA h1 h2;obtain⟨k,rfl,hk⟩:=pC h1;have dK:ord[0+k]? =some id:=by grind
   cases hx:(Nat.blt 0 (q++[(i0,c0)]).length&&(Nat.ble (q++[(i0,c0)]).length zA.length&&Nat.beq (bG zA ((q++[(i0,c0)]).length-1)) ver))with
   |false=>exact .undef
   |true=>exact .dH (hR.nest _ id _ _ _ dK ae) ((hR.place _ id dK).trans hb) (by grind) (XE _ _) ht nU hc
  ·exact .undef
theorem agP(S:ax P w I β hp B M w0)(hT:vQ P I β hp){ord:List Nat}(hR:Fm hp β ord hp' β'){vs:Array Value}{xs:List V}(h:∀(j:Nat) v x,vs[j]? =some v→xs[j]? =some x→ai P w I β hp v x)(j:Nat)(v:Value)(y:V)
  (hv:vs[j]? =some v) (hy:(xs.map (kS hp ord))[j]? =some y):ai P w I β' hp' v y:=by
 rw[jX]at hy;cases hx:xs[j]? with
 |none=>grind
 |some x=>rw[hx]at hy;cases hy;exact agO S hT hR (h j v x hv hx)
theorem agQ(S:ax P w I β hp B M w0)(hT:vQ P I β hp){ord:List Nat}(hR:Fm hp β ord hp' β'){kn:Bool}{n:Nat}{v:Value}{x:V}(hv:ai P w I β hp v x)(hF:ql hp' β' n (DQ hp ord kn n x).2):
  ai P w I β' hp' v (DQ hp ord kn n x).1:=by
 cases x with
 |nilS e=>
  cases hv with
  |nilS=>
   cases kn with
   |true=>exact .nilS
   |false=>
    obtain⟨h1,h2⟩:=hF 0 _ rfl;exact .dZ h1 h2
 |fn f a b=>
  cases hv with
  |fn q1 q2 q3 q4=>exact .fn (by grind) (agP S hT hR q2) (by grind) (agP S hT hR q4)
 |_=>exact agO S hT hR hv
end
section
variable {P:Program}{A:dz}{w w':World}{I I' I2:Nat→Nat→Prop}{μ β β':Nat→Option Nat}{hp hp':Nat→Option ag}{C:af}{B:Nat}{M:Nat→Prop}{w0:Start}
theorem ql.left{n:Nat}{a b:List ag}(h:ql hp' β' n (a++b)):ql hp' β' n a:=fun k x hx=>
 h k x (by rw[qC (cw.1 hx).1];exact hx)
theorem ql.right{n:Nat}{a b:List ag}(h:ql hp' β' n (a++b)):ql hp' β' (n+a.length) b:=fun k x hx=>by
 have:=h (a.length+k) x (by rw[qD (by omega),MX];exact hx);rwa [←AO]at this
def sP(bs:List ag):Prop:= ∀b∈bs,∃e,b= .arr e [] false
theorem sP.app{a b:List ag}(h1:sP a)(h2:sP b):sP (a++b):=fun x hx=>(ik.1 hx).elim (h1 x) (h2 x)
theorem sP.nil:sP []:=fun x hx=>by simp at hx
theorem agR{ord:List Nat}{kn:Bool}{n:Nat}{x:V}:sP (DQ hp ord kn n x).2:=by
 cases x<;>simp only[DQ]<;>first|exact .nil|skip
 cases kn<;>first|exact .nil|skip
 intro b hb;simp only[cond_false,jV]at hb;exact⟨_,hb⟩
theorem XF{ord:List Nat}{kn:Bool}:∀{xs:List V} {n:Nat},sP (tk hp ord kn n xs).2
 | [],n=> .nil
 |x::xs,n=>by
  simp only[tk];exact agR.app XF
theorem QB{ord:List Nat}{kn:Bool}:∀{xs:List V} {n:Nat},(tk hp ord kn n xs).1.length=xs.length
 | [],n=>rfl
 |x::xs,n=>by simp only[tk,List.length_cons,QB]
theorem QC(S:ax P w I β hp B M w0)(hT:vQ P I β hp){ord:List Nat}(hR:Fm hp β ord hp' β'){kn:Bool}:∀{xs:List V} {vs:List Value} {n:Nat},(∀(j:Nat) v x,vs[j]? =some v→xs[j]? =some x→ai P w I β hp v x)→
  ql hp' β' n (tk hp ord kn n xs).2→∀(j:Nat) v y,vs[j]? =some v→(tk hp ord kn n xs).1[j]? =some y→ai P w I β' hp' v y
 | [],vs,n,h,hF,j,v,y,hv,hy=>by simp[tk]at hy
 |x::xs,vs,n,h,hF,j,v,y,hv,hy=>by
  simp only[tk]at hF hy;cases j with
  |zero=>
   simp at hy;subst hy;exact agQ S hT hR (h 0 v x hv rfl) hF.left
  |succ j=>
   cases vs with
   |nil=>simp at hv
   |cons v0 vs=>exact QC S hT hR (vs:=vs) (fun j v x hj hx=>h (j+1) v x (by simpa using hj) (by simpa using hx)) hF.right j v y (by simpa using hv) (by simpa using hy)
theorem aus{ord:List Nat}{n:Nat}{x:V}:sP (xE hp ord n x).2:=by
 cases x<;>simp only[xE]<;>first|exact agR|exact XF
theorem aut(S:ax P w I β hp B M w0)(hT:vQ P I β hp){ord:List Nat}(hR:Fm hp β ord hp' β'){n:Nat}{v:Value}{x:V}(hv:ai P w I β hp v x)(hF:ql hp' β' n (xE hp ord n x).2):
  ai P w I β' hp' v (xE hp ord n x).1:=by
 cases x with
 |agg cs=>
  obtain⟨ds,rfl,h1,h2⟩:=hv.oq;simp only[xE]at hF⊢;exact .agg (by rw[QB];exact h1) fun j v y hj hy=>QC S hT hR (vs:=ds.toList) (fun j v x hj hx=>h2 j v x (by simpa using hj) hx) hF j v y (by simpa using hj) hy
 |bf cs=>
  obtain⟨ds,rfl,h1,h2⟩:=hv.Bh;simp only[xE]at hF⊢;exact .bf (by rw[QB];exact h1) fun j v y hj hy=>QC S hT hR (vs:=ds.toList) (fun j v x hj hx=>h2 j v x (by simpa using hj) hx) hF j v y (by simpa using hj) hy
 |_=>exact agQ S hT hR hv hF
theorem agS{ord:List Nat}{sl:Nat→V}:∀{l:List Nat} {n:Nat},sP (qO hp ord sl n l).2
 | [],n=> .nil
 |s::l,n=>by
  simp only[qO];exact aus.app agS
theorem agT{ord:List Nat}{sl:Nat→V}{k:Nat}{y:V}:∀{l:List Nat} {n:Nat},ql hp' β' n (qO hp ord sl n l).2→fP (qO hp ord sl n l).1 k=some y→
  ∃n',ql hp' β' n' (xE hp ord n' (sl k)).2∧y=(xE hp ord n' (sl k)).1
 | [],n,_,h=>by cases h
 |s::l,n,hF,h=>by
  simp only[qO]at hF h;simp only[fP]at h;cases hb:Nat.beq k s with
  |true=>
   rw[hb]at h;rw[aN]at hb;subst hb;cases h;exact⟨n,hF.left,rfl⟩
  |false=>
   rw[hb]at h;exact agT hF.right h
theorem auu{ord kp:List Nat}{n id:Nat}:sP (gM hp ord kp n id).2:=by
 unfold gM;split
 ·exact XF
 ·exact .nil
 ·exact .nil
 ·exact .nil
 ·exact .nil
theorem agU{ord kp:List Nat}:∀{l:List Nat} {n:Nat},sP (jJ hp ord kp n l).2
 | [],n=> .nil
 |s::l,n=>by
  simp only[jJ];exact auu.app agU
theorem agV{ord kp:List Nat}:∀{l:List Nat} {n:Nat},(jJ hp ord kp n l).1.length=l.length
 | [],n=>rfl
 |x::xs,n=>by simp only[jJ,List.length_cons,agV]
theorem agW{ord kp:List Nat}:∀{l:List Nat} {n j:Nat} {id:Nat},l[j]? =some id→∃n',(ql hp' β' n (jJ hp ord kp n l).2→ql hp' β' n' (gM hp ord kp n' id).2)∧(jJ hp ord kp n l).1[j]? =some (gM hp ord kp n' id).1
 | [],n,j,id,h=>by simp at h
 |s::l,n,j,id,h=>by
  simp only[jJ];cases j with
  |zero=>
   simp at h;subst h;exact⟨n,fun hF=>hF.left,rfl⟩
  |succ j=>
   obtain⟨n',h1,h2⟩:=agW (n:=n+(gM hp ord kp n s).2.length) (j:=j) (by simpa using h);exact⟨n',fun hF=>h1 hF.right,by simpa using h2⟩
theorem Ka:∀{l acc:List Nat},∃t,zp hp acc l=acc++t∧(acc.Nodup→(acc++t).Nodup)
 | [],acc=>⟨[],by simp[zp],by simp⟩
 |id::l,acc=>by
  simp only[zp];cases hb:(jh acc id|| !(TP hp id))with
  |true=>exact Ka
  |false=>
   obtain⟨t,h1,h2⟩:=Ka (l:=l) (acc:=acc++[id]);refine⟨id::t,by simp only[cond_false,h1,eY,List.singleton_append],fun hn=> ?_⟩;have:acc++id::t=(acc++[id])++t:=by simp
   rw[this];refine h2 ?_;rw[MZ];refine⟨hn,by simp,fun a ha b au=> ?_⟩;simp only[jV]at au;subst au;intro e;subst e;rw[Bm ha]at hb;cases hb
theorem agX:∀{n:Nat} {l:List Nat},∃t,grow hp n l=l++t∧(l.Nodup→(l++t).Nodup)
 |0,l=>⟨[],by simp[grow],by simp⟩
 |n+1,l=>by
  simp only[grow];obtain⟨t,h1,h2⟩:=Ka (hp:=hp) (acc:=l) (l:=l.flatMap (A3 hp));rw[h1];obtain⟨t',h3,h4⟩:=agX (n:=n) (l:=l++t);exact⟨t++t',by rw[h3,eY],fun hn=>by rw[←eY];exact h4 (h2 hn)⟩
theorem auv{m:Nat}{live:List Nat}{st:St}:∃t,TQ m live st=List.range m++t∧(List.range m++t).Nodup:=by
 unfold TQ;obtain⟨t,h1,h2⟩:=Ka (hp:=st.hp) (acc:=List.range m) (l:=live.flatMap fun s=>DP (st.sl s));rw[h1];obtain⟨t',h3,h4⟩:=agX (hp:=st.hp) (n:=3) (l:=List.range m++t);rw[h3];obtain⟨t2,h5,h6⟩:=Ka (hp:=abL st.hp) (acc:=List.range m++t++t') (l:=live.flatMap fun s=>bif Nat.ble (3*KB) s then A3 st.hp (s-3*KB)else bif Nat.ble KB s then(DP (st.sl (s-KB))).flatMap (A3 st.hp)else []);exact⟨t++t'++t2,by rw[h5];simp only[eY],by simp only[←eY];exact h6 (h4 (h2 List.nodup_range))⟩
end
end Go.AM
