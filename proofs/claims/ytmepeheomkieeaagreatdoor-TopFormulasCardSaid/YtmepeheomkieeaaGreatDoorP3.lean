/-
  Functions of the program, lifted to plain data.
-/
import Derived.Laws.BytesString
import Derived.Lib.Builder
import Derived.Lib.UnsafeStr
import Derived.Laws.Runes
import Derived.Lib.LazyBuf
import Derived.Conc.MuLone
import Derived.Defers
import Derived.Test.YtmepeheomkieeaaGreatDoorP2
noncomputable section
set_option linter.unusedVariables false
set_option linter.unusedSimpArgs false
set_option linter.unusedSectionVars false
namespace Go.AM
section
variable {P:Program}{w w':World}{I I':Nat→Nat→Prop}{β β':Nat→Option Nat}{hp hp':Nat→Option ag}{C:af}{B:Nat}{M:Nat→Prop}{w0:Start}
theorem agp:∀(ns:List Int) (s:ByteArray),(ns.foldl (fun r n=>r.push (UInt8.ofNat n.toNat)) s).data.toList=s.data.toList++ns.map fun n=>UInt8.ofNat n.toNat
 | [],s=>by simp
 |n::ns,s=>by
  simp only[List.foldl_cons,agp ns,nY];simp_all
theorem agq{e:TypeId}{u:Value}{x:V}(he:P.underlying e=some (.int .u8))(hp:Pure P w I e u x):u= .int .u8 x.toInt:=by
 cases hp with
 |int hp'=>rw[he]at hp';cases hp';rfl
 |bool hp'=>grind
 |str hp'=>grind
 |nil hp'=>grind
 |emp hp'=>grind
 |list _ hp'=>grind
theorem aqx(S:aK P w I β hp B M w0){src dst e:TypeId}{v:Value}{x:V}{r:R}{rd:List Nat}(hs:P.underlying src=some (.slice e))(he:P.underlying e=some (.int .u8))(hd:P.underlying dst=some .string)
  (hv:ah P w I β hp v x) (h:(Rd.aQ (dZ P e) (AK e x fun es=> .ret ⟨.str (mu es),[]⟩)).run C hp=some (r,rd)):eZ P ((convert src dst v).run P w) w I β hp B M w0 r:=by
 obtain⟨aD,h⟩:=aW h;obtain⟨xs,hx,l,h⟩:=QZ S.h.rel aD hv h;obtain rfl:=bG h;have uc:cR P e=false:=by simp[cR,he]
 have h1:P.cellsOf e=1:=by rw[←(pY aD).1,JF uc];rfl
 rcases hx with⟨⟨a,rfl⟩,rfl⟩|⟨a,c,news,hr⟩
 ·refine .same S (v:= .string .empty) ?_ (.str (by simp[mu]));rw[run_convert_bytes_string w src dst e a 0 0 hs he hd];cases a<;>simp[Conv.bytesToString,loadCells,loadCellsFrom]
 ·have xo:news=(xs.map V.toInt).map (Value.int .u8):=by
   apply PM;intro j;by_cases hj:j<xs.length
   ·obtain⟨u,hu,hp⟩:=hr.el j 0 xs[j] e (cv hj) (by simp[bp,uc]) (by omega);rw[h1]at hu;simp only[cW,uc,cond_false]at hp;have nM:news[j]? =some u:=by grind
    rw[nM];have:=agq he hp;grind
   ·have hl:news.length=xs.length:=by rw[hr.len,h1];simp
    grind
  have XH:=run_loadCells_list (P:=P) w a news hr.cell;have hl:news.length=xs.length:=by grind
  rw[hl]at XH;rw[xo]at XH;refine .same S (v:= .string ((xs.map V.toInt).foldl (fun r n=>r.push (UInt8.ofNat n.toNat)) ByteArray.empty)) ?_ (.str ?_)
  ·rw[hr.val,run_convert_bytes_string w src dst e _ _ _ hs he hd];exact run_bytesToString w a xs.length c (xs.map V.toInt) XH
  ·rw[agp];simp[mu]
theorem aqy{n:Int}(h:(decide (0≤n)&&decide (n<128))=true):(Utf8.encode n).data.toList=[UInt8.ofNat n.toNat]:=by
 simp only[bc,il]at h;have h1:Utf8.valid n=true:=by rw[validRune_eq];exact bj (by omega)
 unfold Utf8.encode;simp[h1,show n.toNat<128 by omega]
theorem ah.agr{v:Value}{e:TypeId}(h:ah P w I β hp v (.nilS e)):v= .slice none 0 0:=by cases h;rfl
theorem aqz{b n:Nat}:(∀b',b'≠b→(w.freeze ⟨b,0,none⟩ n).heap[b']? =w.heap[b']?)∧bsize (w.freeze ⟨b,0,none⟩ n) b=bsize w b∧w.heap.size≤(w.freeze ⟨b,0,none⟩ n).heap.size∧(w.freeze ⟨b,0,none⟩ n).os=w.os∧(w.freeze ⟨b,0,none⟩ n).output=w.output:=by
 unfold World.freeze;split
 ·grind
 ·refine⟨fun b' hb=> ?_,?_,by simp,rfl,rfl⟩
  ·grind
  ·simp only[bsize,PT,rj];grind
theorem aqA{e:TypeId}(hb:isByte P e=true):P.underlying e=some (.int .u8):=by
 unfold isByte at hb;grind
theorem aqB(S:aK P w I β hp B M w0){ts:Array TypeId}{ty e:TypeId}{v:Value}{id:Nat}{es:List V}{fz:Bool}(hv:ah P w I β hp v (.whole e id))(ae:hp id=some (.arr e es fz))(h0:0<es.length):
  eZ P ((Builtin.unsafeSliceData_ ts ty #[v]).run P w) w I β hp B M w0 ⟨.ptr id 0 0,[]⟩:=by
 cases hv with
 |fq h=>grind
 |fk h _=>grind
 |fb h _ _ _ _=>grind
 |fA h _=>grind
 |iv h _ _ _ _=>grind
 |@whole _ _ ba vd b cap h hb cS hle hm=>
  rw[ae]at h;cases h;refine .same S (Lib.run_unsafeSliceData_row w ts ty ⟨b,0,none⟩ es.length cap (by omega)) ?_;have:=ah.ptr (P:=P) (w:=w) (I:=I) (β:=β) (i:=0) (c:=0) ae (by simp) hb;grind
theorem aqC{P:Program}{w:World}(pt it ty e T:TypeId)(hp:P.underlying pt=some (.pointer e))(g cells:Nat)(Ra:w.shape? g=some (T,cells))(l:List UInt8)(h0:l≠[])(aqD:liesAt P P.depth T (cells/P.cellsOf T) 0 e l.length=true)(J0:l.length≤9223372036854775807)
  (iP:∀j x,l[j]? =some x→w.cell? ((⟨g,0,none⟩:Addr).add j)=some (.int .u8 x.toNat)):
  (Builtin.unsafeString_ #[pt,it] ty #[.pointer (some ⟨g,0,none⟩),.int .i64 l.length]).run P w= .ok (.string ⟨l.toArray⟩) (w.freeze ⟨g,0,none⟩ l.length):=by
 have hl:l.length≠0:=by grind
 have hlb:=Lib.run_loadBytes (P:=P) w l ⟨g,0,none⟩ .empty iP;have XE:¬(9223372036854775807:Int)<(l.length:Int):=by omega
 have aqE:Builtin.unsafeString_ #[pt,it] ty #[.pointer (some ⟨g,0,none⟩),.int .i64 l.length]=
   (do
    let n←asInt (.int .i64 l.length)
    if n < 0 then runtimePanic (.error "unsafe.String: len out of range")
    if n > IntKind.i64.max then unsupported (.unsafePointer "String: a length above the largest int")
    if n=0 then pure (.string .empty)
    else if←variablesAt ⟨g,0,none⟩ (←elemOf pt) n.toNat then do
     let s←loadBytes ⟨g,0,none⟩ .empty n.toNat
     Go.freeze ⟨g,0,none⟩ n.toNat
     pure (.string s)
    else unsupported (.unsafePointer "String: not so many bytes at ptr")) := rfl
 rw[aqE];have aqF:IntKind.i64.max=9223372036854775807:=rfl;have aqG:¬(l.length:Int)<0:=by omega
 simp[asInt,asIntOf,aqF,XE,aqG,hl,variablesAt,Ra,elemOf,run_underlying hp,aqD,hlb]
theorem aqH(S:aK P w I β hp B M w0){t u ty e:TypeId}{vx:Value}{id:Nat}{n:Int}{es:List V}(hu:P.underlying t=some (.pointer e))(hb:isByte P e=true)(hv:ah P w I β hp vx (.ptr id 0 0))
  (ae:hp id=some (.arr e es false)) (h0:0<n) (hn:n≤es.length) (hm:n.toNat≤ry) (oM:(es.take n.toNat).all Wm=true):eZ P ((Builtin.unsafeString_ #[t,u] ty #[vx,.int .i64 n]).run P w) w I β hp B M w0 ⟨.str (mu (es.take n.toNat)),[(id,.dead)]⟩:=by
 obtain⟨b,XI,rfl⟩:=hv.oL ae (by simp);have jQ:=hb;have he:P.underlying e=some (.int .u8):=by
  unfold isByte at hb;grind
 have uc:cR P e=false:=by simp[cR,he]
 have hr:=S.h.rel id _ ae;rw[XI]at hr;cases hr with
 |fT aJ=>cases aJ
 |@arr _ T0 _ _ b1 Ca hL aD qH hh hs hI dU gF=>
  cases qH;have h1:P.cellsOf e=1:=by rw[←(pY aD).1,JF uc];rfl
  have bO:=S.ao8 ae (by simp) XI;have hl:(mu (es.take n.toNat)).length=n.toNat:=by simp[mu];omega
  have XC:n=((mu (es.take n.toNat)).length:Nat):=by omega
  have dV:=aqC (P:=P) (w:=w) t u ty e T0 hu b Ca.size (by simp[World.shape?,hh]) (mu (es.take n.toNat)) (fun h=>by grind) (hL jQ h1 _ (by grind)) (by rw[hl];unfold ry at hm;omega) (fun j x hx=>by
   have hj:j<n.toNat:=by
    grind
   have De:j<es.length:=by omega
   simp only[mu,mY,mL hj,cv De,Option.map_some,gW]at hx;obtain⟨v,Dt,cE⟩:=gF j 0 es[j] e (cv De) (by simp[bp,uc]) (by omega);rw[h1]at Dt;simp only[cW,uc,cond_false]at cE;have:=agq he cE;have hr:=jk.1 oM es[j] (o4 (by rw[mL hj];grind));simp only[Wm,bc,il]at hr;have nj:(x.toNat:Int)=es[j].toInt:=by
    rw[←hx];have:es[j].toInt.toNat<256:=by omega
    simp only[UInt8.toNat_ofNat'];omega
   rw[rK,cell?_cells hh,nj];grind)
  obtain⟨f1,f2,f3,f4,f5⟩:=aqz (w:=w) (b:=b) (n:=n.toNat);obtain⟨k1,k2⟩:=JJ (w':=w.freeze ⟨b,0,none⟩ n.toNat) S ae (by simp) (blk':= .dead) (by trivial) XI (dU rfl) (by simp) f1 f2 f3 ⟨f4,f5⟩ (fun _=> .dead);rw[←XC,hl]at dV;refine⟨.string ⟨(mu (es.take n.toNat)).toArray⟩,_,I,β,?_,k1,k2,.str ?_⟩
  all_goals grind
def XJ:Op→Bool
 | .call {callee:= .value (.func _),..}=>true
 | .call {callee:= .value (.tmp _),..}=>true
 | .defer _=>true
 |_=>false
theorem xd.val{o:Oper}{a:Act}{s:Sem Value}{r:R}(he:execOp a.eval o=(do Pure.pure (Next.value (←s))))(h:eZ P (s.run P w) w I β hp B M w0 r):xd P ((execOp a.eval o).run P w) w I β hp B M w0 r:=by
 rw[he];exact h.op
theorem aqI{A:dM}(S:aK P w I β hp B M w0)(hg:nh P A.aV w I){a:Act}{sl:Nat→V}(hs:pW P w I β hp a sl){ix nb:Nat}{o:Oper}(hnc:XJ o.op=false){r:R}{rd:List Nat}
  (h:(nF P A sl ix nb o).run C hp=some (r,rd)):xd P ((execOp a.eval o).run P w) w I β hp B M w0 r:=by
 obtain⟨dst,op,ty,pos,after,guard⟩:=o;cases op<;>simp only[nF]at h<;>first|(cases h;done)|skip
 case move x=>
  obtain rfl:=bG h;exact⟨_,w,I,β,.inl (by simp[execOp]),Le.refl w I β hp,S,hs.ev hg ty x⟩
 case assign x=>
  obtain rfl:=bG h;exact⟨_,w,I,β,.inl (by simp[execOp]),Le.refl w I β hp,S,hs.ev hg ty x⟩
 case pick c x y=>
  have hc:=hs.ev hg ty c;cases Dn:bu P A.aV ty sl c<;>rw[Dn]at h hc<;>simp only at h<;>first|(cases h;done)|skip
  rename_i t;have aqJ:=hc.qD;have hx:=hs.ev hg ty x;have hy:=hs.ev hg ty y;have fin:∀z:V,ah P w I β hp (if t then a.eval x else a.eval y) z→xd P ((execOp a.eval ⟨dst,.pick c x y,ty,pos,after,guard⟩).run P w) w I β hp B M w0 ⟨z,[]⟩:=by
   intro z hz;exact⟨_,w,I,β,.inl (by simp[execOp,aqJ,asBool]),Le.refl w I β hp,S,hz⟩
  cases hg1:gone (bu P A.aV ty sl x)with
  |true=>
   rw[hg1]at h;obtain⟨h1,h⟩:=aW h;obtain rfl:=bG h;grind
  |false=>
   rw[hg1]at h;simp only[cond_false]at h;cases hg2:gone (bu P A.aV ty sl y)with
   |true=>
    rw[hg2]at h;obtain⟨h1,h⟩:=aW h;obtain rfl:=bG h;grind
   |false=>
    rw[hg2]at h;obtain rfl:=bG h;exact fin _ (afo hx hy)
 case makeFunc fn x y=>
  cases fn<;>simp only[nF]at h<;>first|(cases h;done)|skip
  rename_i f;obtain rfl:=bG h;refine⟨.func (.func f) (x.map a.eval) (y.map a.eval),w,I,β,.inl (by simp[execOp,Instr.makeFunc]),Le.refl w I β hp,S,.fn (by simp) (fun j v z hj hz=> ?_) (by simp) (fun j v z hj hz=> ?_)⟩
  ·rw[Array.getElem?_map]at hj;rw[mY,u5]at hz;cases hx:x[j]? with
   |none=>grind
   |some o1=>
    rw[hx]at hj hz;cases hj;cases hz;exact hs.ev hg ty o1
  ·rw[Array.getElem?_map]at hj;rw[mY,u5]at hz;cases hx:y[j]? with
   |none=>grind
   |some o1=>
    rw[hx]at hj hz;cases hj;cases hz;exact hs.ev hg ty o1
 case makeMap t res=>
  cases res with
  |some x=>cases h
  |none=>exact .val rfl (aqm S h)
 case lookup t m k ok=>
  cases ht:rz P t with
  |none=>rw[ht]at h;cases h
  |some q=>
   obtain⟨kt,vt⟩:=q;rw[ht]at h;exact .val (s:=Instr.lookup t (a.eval m) (a.eval k) ok) rfl (aql S ht (hs.ev hg t m) (hs.ev hg kt k) h)
 case mapUpdate t m k x=>
  cases ht:rz P t with
  |none=>rw[ht]at h;cases h
  |some q=>
   obtain⟨kt,vt⟩:=q;rw[ht]at h;have:=agm S ht (hs.ev hg t m) (hs.ev hg kt k) (hs.ev hg vt x) h;exact this.op
 case insert t m k x=>
  cases ht:rz P t with
  |none=>rw[ht]at h;cases h
  |some q=>
   obtain⟨kt,vt⟩:=q;rw[ht]at h;have:=agm S ht (hs.ev hg t m) (hs.ev hg kt k) (hs.ev hg vt x) h;exact this.op
 case alloc e=>
  exact .val rfl (apD S h)
 case box e x=>
  exact .val rfl (apE S (hs.ev hg e x) h)
 case build t ps=>exact .val rfl (apG S hs hg h)
 case buildSlice t len ps=>
  cases hu:P.underlying t with
  |none=>rw[hu]at h;cases h
  |some d=>
   rw[hu]at h;cases d<;>simp only at h<;>first|(cases h;done)|skip
   cases dst with
   |none=>exact .val rfl (af0 S hs hg hu h)
   |some d=>
    simp only at h;cases Ds:mo A.yW d with
    |true=>rw[Ds]at h;exact .val rfl (ap3 S hs hg hu h)
    |false=>rw[Ds]at h;exact .val rfl (af0 S hs hg hu h)
 case load t x=>exact .val rfl (apk S (hs.ev hg ty x) h)
 case store t x y=>
  have:=apC S (hs.ev hg ty x) (hs.ev hg t y) h;exact this.op
 case nilCheck x=>
  have hx:=hs.ev hg ty x;cases ln:bu P A.aV ty sl x<;>rw[ln]at h hx<;>simp only at h<;>first|(cases h;done)|skip
  ·obtain⟨⟨blk,ae,hd⟩,l,h⟩:=WI h;obtain rfl:=bG h;have eo:=hx;obtain⟨b,hb,he⟩:=hx.oL ae hd;rw[he]at eo;exact⟨_,w,I,β,.inl (by simp only[execOp,he];rfl),Le.refl w I β hp,S,eo⟩
  ·obtain rfl:=bG h;have eo:=hx;obtain⟨b,o,he,_⟩:=hx.JK;rw[he]at eo;exact⟨_,w,I,β,.inl (by simp only[execOp,he];rfl),Le.refl w I β hp,S,eo⟩
  ·obtain⟨e0,es,vers,l,ae,h1,h2,h3,h⟩:=tQ h;obtain rfl:=bG h;have eo:=hx;obtain⟨b,o,he,_⟩:=hx.afl ae h1 h2 h3;rw[he]at eo;exact⟨_,w,I,β,.inl (by simp only[execOp,he];rfl),Le.refl w I β hp,S,eo⟩
 case binOp op t x y yt=>
  have hx:=hs.ev hg t x;have hy:=hs.ev hg t y;refine .val (s:=do eqGuard op t x y (a.eval x) (a.eval y);binOp op t (a.eval x) (a.eval y)) rfl ?_;cases ln:bu P A.aV t sl x<;>cases xz:bu P A.aV t sl y<;>rw[ln,xz]at h<;>rw[ln]at hx<;>rw[xz]at hy<;>first|(simp only[vc]at h;cases h;done)|skip
  ·rw[hx.jP,hy.jP];have:=apd S h;simpa[apa]using this
  ·rw[hx.qD,hy.qD];have:=ape S h;simpa[apb]using this
  ·obtain⟨s1,e1,l1⟩:=hx.tT;obtain⟨s2,e2,l2⟩:=hy.tT;rw[e1,e2];rw[←l1,←l2]at h;have:=apf (t:=t) S h;simpa[apc]using this
  ·simp only[vc]at h;rw[hx.agr,hy.agr];cases hu:P.underlying t with
   |none=>rw[hu]at h;cases h
   |some d=>
    rw[hu]at h;cases d<;>(try (cases h;done))
    cases op<;>simp only at h<;>first|(cases h;done)|skip
    ·obtain rfl:=bG h;exact .same S (by simpa[eqGuard]using run_eql_slice_nil w _ _ none 0 0 hu) .bool
    ·obtain rfl:=bG h;exact .same S (by simpa[eqGuard]using run_neq_slice_nil w _ _ none 0 0 hu) .bool
  ·
   simp only[vc]at h;obtain⟨l,h⟩:=run_get h;split at h
   ·rename_i t2 es ae;obtain⟨b,hb⟩:=hx.aqq ae;rw[hy.XD,hb];exact agn (a:=some b) S x y h
   ·cases h
  ·simp only[vc]at h;rw[hx.XD,hy.XD];exact agn (a:=none) S x y h
 case unOp op t x=>exact .val rfl (apg S (hs.ev hg ty x) h)
 case convert src dst x=>
  have hx:=hs.ev hg ty x;refine .val (s:=convert src dst (a.eval x)) rfl ?_;cases gE:P.underlying src with
  |none=>rw[gE]at h;cases h
  |some d1=>
   cases ud:P.underlying dst with
   |none=>rw[gE,ud]at h;cases d1<;>cases h
   |some d2=>
    rw[gE,ud]at h;cases d1<;>(try (cases d2<;>cases h;done))
    ·cases d2<;>(try (cases h;done))<;>cases ln:bu P A.aV ty sl x<;>rw[ln]at h hx<;>simp only at h<;>first|(cases h;done)|skip
     ·obtain rfl:=bG h;rw[hx.jP];exact .same S (by simp[convert,run_underlying gE,run_underlying ud,Conv.intToInt]) .int
     ·obtain⟨hc,h⟩:=aW h;obtain rfl:=bG h;rw[hx.jP];exact .same S (run_convert_int_string w src dst _ _ (by simp[gE]) ud) (.str (aqy hc))
    ·rename_i e;cases d2<;>(try (cases h;done))
     simp only at h;cases he:P.underlying e with
     |none=>rw[he]at h;cases h
     |some d3=>
      rw[he]at h;cases d3<;>(try (cases h;done))
      rename_i k;cases k<;>(try (cases h;done))
      exact aqx S gE he ud hx h
 case fieldAddr s x f=>exact .val rfl (aph S (hs.ev hg ty x) h)
 case field s x f=>exact .val rfl (ap4 S (hs.ev hg ty x) h)
 case indexAddr t x y=>exact .val rfl (aqa S (hs.ev hg ty x) (hs.ev hg 0 y) h)
 case index t x y=>
  have hx:=hs.ev hg ty x;have hy:=hs.ev hg 0 y;refine .val (s:=Instr.index t (a.eval x) (a.eval y)) rfl ?_;cases hu:P.underlying t with
  |none=>rw[hu]at h;cases h
  |some d=>
   rw[hu]at h;cases d<;>(try (cases h;done))
   ·cases ln:bu P A.aV ty sl x<;>rw[ln]at h hx<;>(try (cases h;done))
    cases xz:bu P A.aV 0 sl y<;>rw[xz]at h hy<;>(try (cases h;done))
    obtain⟨s,e1,l1⟩:=hx.tT;rw[e1,hy.jP];exact ap6 S hu l1 h
   ·cases ln:bu P A.aV ty sl x<;>rw[ln]at h hx<;>(try (cases h;done))
    cases xz:bu P A.aV 0 sl y<;>rw[xz]at h hy<;>(try (cases h;done))
    rw[hy.jP];exact ap7 S hu hx h
 case slice t x lo hi mx=>
  cases mx with
  |some m=>
   cases h
  |none=>
   simp only at h;have plain:(Qm P t (bu P A.aV ty sl x) (lo.map (bu P A.aV 0 sl)) (hi.map (bu P A.aV 0 sl))).run C hp=some (r,rd)→xd P ((execOp a.eval ⟨dst,.slice t x lo hi none,ty,pos,after,guard⟩).run P w) w I β hp B M w0 r:=by
    intro h;refine .val (s:=Instr.sliceAt t (a.eval x) (lo.map a.eval) (hi.map a.eval) none) (by simp[execOp]) (ap9 S (hs.ev hg ty x) (fun y hy=> ?_) (fun y hy=> ?_) (fun hy=> ?_) (fun hy=> ?_) h)
    ·cases lo with
     |none=>cases hy
     |some l=>cases hy;exact⟨_,rfl,hs.ev hg 0 l⟩
    ·cases hi with
     |none=>cases hy
     |some l=>cases hy;exact⟨_,rfl,hs.ev hg 0 l⟩
    all_goals simp_all
   have tr:(Qn P nb t (bu P A.aV ty sl x) (lo.map (bu P A.aV 0 sl)) (hi.map (bu P A.aV 0 sl))).run C hp=some (r,rd)→xd P ((execOp a.eval ⟨dst,.slice t x lo hi none,ty,pos,after,guard⟩).run P w) w I β hp B M w0 r:=by
    intro h;refine .val (s:=Instr.sliceAt t (a.eval x) (lo.map a.eval) (hi.map a.eval) none) (by simp[execOp]) (aqd S (hs.ev hg ty x) (fun y hy=> ?_) (fun hy=> ?_) h)
    ·cases hi with
     |none=>cases hy
     |some l=>cases hy;exact⟨_,rfl,hs.ev hg 0 l⟩
    simp_all
   grind
 case extract x i=>
  have hx:=hs.ev hg ty x;cases ln:bu P A.aV ty sl x<;>rw[ln]at h hx<;>simp only at h<;>first|(cases h;done)|skip
  exact .val (s:=Instr.extract (a.eval x) i) rfl (ap5 S hx h)
 case makeSlice t l c=>
  have hl:=hs.ev hg 0 l;have hc:=hs.ev hg 0 c;refine .val (s:=Instr.makeSlice t (a.eval l) (a.eval c)) rfl ?_;cases hu:P.underlying t with
  |none=>rw[hu]at h;cases h
  |some d=>
   rw[hu]at h;cases d<;>(try (cases h;done))
   cases XK:bu P A.aV 0 sl l<;>rw[XK]at h hl<;>(try (cases h;done))
   cases Dn:bu P A.aV 0 sl c<;>rw[Dn]at h hc<;>(try (cases h;done))
   rw[hl.jP,hc.jP];cases dst with
   |none=>exact af1 S hu h
   |some d=>
    simp only at h;cases hg:mo A.yW d with
    |true=>rw[hg]at h;exact apP S hu h
    |false=>rw[hg]at h;exact af1 S hu h
 case call c=>
  obtain⟨callee,args,argTypes⟩:=c;cases callee with
  |invoke r m=>cases h
  |value f=>
   cases f with
   |func f=>cases hnc
   |tmp f=>cases hnc
   |_=>cases h
  |builtin b=>
   have one:∀{x:Operand},args.toList=[x]→args= #[x]:=fun h=>by grind
   have Bg:∀(s:Array TypeId→TypeId→Array Value→Sem Value),builtin b argTypes ty (args.map fun| .const _=>true|_=>false) (args.map a.eval)=(do Pure.pure (Next.value (←s argTypes ty (args.map a.eval))))→
     execOp a.eval ⟨dst,.call ⟨.builtin b,args,argTypes⟩,ty,pos,after,guard⟩=(do Pure.pure (Next.value (←s argTypes ty (args.map a.eval)))):=by
    intro s hb;simp only[execOp,resolve,pure_bind,invoke];exact hb
   cases b<;>(try (cases h;done))
   case append=>
    simp only at h;cases ha:args.toList with
    |nil=>rw[ha]at h;cases h
    |cons x l=>
     cases l with
     |nil=>rw[ha]at h;cases h
     |cons y l2=>
      cases l2 with
      |cons _ _=>rw[ha]at h;cases h
      |nil=>
       cases jD:argTypes.toList with
       |nil=>rw[ha,jD]at h;cases h
       |cons t l3=>
        cases l3 with
        |nil=>rw[ha,jD]at h;cases h
        |cons u l4=>
         cases l4 with
         |cons _ _=>rw[ha,jD]at h;cases h
         |nil=>
          rw[ha,jD]at h;simp only at h;have e1:args= #[x,y]:=by grind
          have e2:argTypes= #[t,u]:=by grind
          cases hu:P.underlying t with
          |none=>rw[hu]at h;cases h
          |some d=>
           rw[hu]at h;cases d<;>(try (cases h;done))
           cases hc:Nat.beq t u with
           |true=>
            rw[hc]at h;rw[bU]at hc;subst hc;simp only[cond_true]at h;refine .val (Bg Builtin.append_ rfl) ?_;rw[e1,e2];cases dst with
            |none=>
             have:=af7 (ty:=ty) S hu (hs.ev hg t x) (hs.ev hg t y) h;grind
            |some d=>
             simp only at h;cases Ds:mo A.yW d with
             |true=>
              rw[Ds]at h;have:=apX (ty:=ty) S hu (hs.ev hg t x) (hs.ev hg t y) h;grind
             |false=>
              rw[Ds]at h;have:=af7 (ty:=ty) S hu (hs.ev hg t x) (hs.ev hg t y) h;grind
           |false=>
            rw[hc]at h;simp only[cond_false]at h;have hy:=hs.ev hg u y;cases vC:P.underlying u with
            |none=>rw[vC]at h;cases h
            |some du=>
             rw[vC]at h;cases du<;>(try (cases h;done))
             cases xz:bu P A.aV u sl y<;>rw[xz]at h hy<;>(try (cases h;done))
             simp only at h;obtain⟨hb,h⟩:=aW h;obtain⟨s1,q1,q2⟩:=hy.tT;subst q2;have:=aqv (ty:=ty) S hu vC (aqA hb) (hs.ev hg t x) h;refine .val (Bg Builtin.append_ rfl) ?_;grind
   case len=>
    simp only at h;cases ha:args.toList with
    |nil=>rw[ha]at h;cases h
    |cons x l=>
     cases l with
     |cons _ _=>rw[ha]at h;cases h
     |nil=>
      cases jD:argTypes.toList with
      |nil=>rw[ha,jD]at h;cases h
      |cons t l3=>
       cases l3 with
       |cons _ _=>rw[ha,jD]at h;cases h
       |nil=>
        rw[ha,jD]at h;simp only at h;have e1:args= #[x]:=by grind
        have e2:argTypes= #[t]:=by grind
        have hx:=hs.ev hg ty x;refine .val (Bg Builtin.len_ rfl) ?_;rw[e1,e2];cases hu:P.underlying t with
        |none=>rw[hu]at h;cases h
        |some d=>
         rw[hu]at h;cases d<;>(try (cases h;done))
         ·cases ln:bu P A.aV ty sl x<;>rw[ln]at h hx<;>(try (cases h;done))
          have:=afp (t:=t) (ty:=ty) S hx (fun l hl=>hu) (fun hn=>absurd rfl (hn _)) h;grind
         ·have h2:(∀l,bu P A.aV ty sl x≠ .str l)∧(Qg P (bu P A.aV ty sl x)).run C hp=some (r,rd):=by
           cases ln:bu P A.aV ty sl x<;>rw[ln]at h<;>first|(cases h;done)|exact⟨fun l=>by simp,h⟩
          have:=afp (t:=t) (ty:=ty) S hx (fun l hl=>absurd hl (h2.1 l)) (fun _=>⟨_,hu⟩) h2.2;grind
         ·have h2:(Ql (bu P A.aV ty sl x)).run C hp=some (r,rd):=by
           omega
          have:=aqp (t:=t) (ty:=ty) S hu hx h2;grind
   case unsafeSliceData=>
    simp only at h;cases ha:args.toList with
    |nil=>rw[ha]at h;cases h
    |cons x l=>
     cases l with
     |cons _ _=>rw[ha]at h;cases h
     |nil=>
      rw[ha]at h;simp only at h;have e1:args= #[x]:=by grind
      have hx:=hs.ev hg ty x;refine .val (Bg Builtin.unsafeSliceData_ rfl) ?_;rw[e1];cases ln:bu P A.aV ty sl x<;>rw[ln]at h hx<;>simp only at h<;>first|(cases h;done)|skip
      rename_i e id;obtain⟨l2,h1⟩:=run_get h;cases ae:hp id with
      |none=>rw[ae]at h1;cases h1
      |some blk=>
       rw[ae]at h1;cases blk<;>simp only at h1<;>first|(cases h1;done)|skip
       rename_i e' es fz;obtain⟨h2,h3⟩:=aW h1;simp only[bc,bU,rf]at h2;obtain⟨rfl,h4⟩:=h2;obtain rfl:=bG h3;have:=aqB (ts:=argTypes) (ty:=ty) S hx ae h4;grind
   case unsafeString=>
    simp only at h;cases ha:args.toList with
    |nil=>rw[ha]at h;cases h
    |cons x l=>
     cases l with
     |nil=>rw[ha]at h;cases h
     |cons y l2=>
      cases l2 with
      |cons _ _=>rw[ha]at h;cases h
      |nil=>
       cases jD:argTypes.toList with
       |nil=>rw[ha,jD]at h;cases h
       |cons t l3=>
        cases l3 with
        |nil=>rw[ha,jD]at h;cases h
        |cons u l4=>
         cases l4 with
         |cons _ _=>rw[ha,jD]at h;cases h
         |nil=>
          rw[ha,jD]at h;simp only at h;have e1:args= #[x,y]:=by grind
          have e2:argTypes= #[t,u]:=by grind
          have hx:=hs.ev hg ty x;have hy:=hs.ev hg ty y;cases hu:P.underlying t with
          |none=>rw[hu]at h;cases h
          |some d=>
           rw[hu]at h;cases d<;>(try (cases h;done))
           rename_i e;cases ln:bu P A.aV ty sl x<;>rw[ln]at h hx<;>(try (cases h;done))
           cases xz:bu P A.aV ty sl y<;>rw[xz]at h hy<;>(try (cases h;done))
           rename_i id i c k n;cases k<;>(try (cases h;done))
           simp only at h;obtain⟨l2,h1⟩:=run_get h;cases ae:hp id with
           |none=>rw[ae]at h1;cases h1
           |some blk=>
            rw[ae]at h1;cases blk<;>simp only at h1<;>first|(cases h1;done)|skip
            rename_i e' es fz;cases fz<;>simp only at h1<;>first|(cases h1;done)|skip
            obtain⟨h2,h3⟩:=aW h1;simp only[bc,bU,fG,il]at h2;obtain⟨rfl,h4,rfl,rfl,h5,h6,h7,h8⟩:=h2;obtain rfl:=bG h3;have:=aqH (u:=u) (ty:=ty) S hu h4 hx ae h5 h6 h7 h8;refine .val (Bg Builtin.unsafeString_ rfl) ?_;rw[e1,e2];simpa[hy.jP]using this
   case clear=>
    simp only at h;cases ha:args.toList with
    |nil=>rw[ha]at h;cases h
    |cons x l=>
     cases l with
     |cons _ _=>rw[ha]at h;cases h
     |nil=>
      cases jD:argTypes.toList with
      |nil=>rw[ha,jD]at h;cases h
      |cons t l3=>
       cases l3 with
       |cons _ _=>rw[ha,jD]at h;cases h
       |nil=>
        rw[ha,jD]at h;simp only at h;have e1:args= #[x]:=by grind
        have e2:argTypes= #[t]:=by grind
        cases hu:P.underlying t with
        |none=>rw[hu]at h;cases h
        |some d=>
         rw[hu]at h;cases d<;>(try (cases h;done))
         have:=apV (ty:=ty) S hu (hs.ev hg t x) h;refine .val (Bg Builtin.clear_ rfl) ?_;grind
   case max=>
    simp only at h;cases ha:args.toList with
    |nil=>rw[ha]at h;cases h
    |cons x l=>
     rw[ha]at h;simp only at h;have:=Xp S true (vs:=l.map a.eval) (xs:=l.map (bu P A.aV ty sl)) (hs.ev hg ty x) (by simp) (fun j u y hu hy=>by
      simp only[mY]at hu hy;cases hl:l[j]? with
      |none=>grind
      |some z=>rw[hl]at hu hy;cases hu;cases hy;exact hs.ev hg ty z) h
     refine .val (Bg Builtin.max_ rfl) ?_;simpa[Builtin.max_,ha]using this
   case min=>
    simp only at h;cases ha:args.toList with
    |nil=>rw[ha]at h;cases h
    |cons x l=>
     rw[ha]at h;simp only at h;have:=Xp S false (vs:=l.map a.eval) (xs:=l.map (bu P A.aV ty sl)) (hs.ev hg ty x) (by simp) (fun j u y hu hy=>by
      simp only[mY]at hu hy;cases hl:l[j]? with
      |none=>grind
      |some z=>rw[hl]at hu hy;cases hu;cases hy;exact hs.ev hg ty z) h
     refine .val (Bg Builtin.min_ rfl) ?_;simpa[Builtin.min_,ha]using this
end
section
variable {P:Program}{A:dM}{w w':World}{I I' I2:Nat→Nat→Prop}{μ β β':Nat→Option Nat}{hp hp':Nat→Option ag}{C:af}{B:Nat}{M:Nat→Prop}{w0:Start}
theorem Bh:∀{l m:List Nat},iu.sC l m=true→l=m
 | [],[],_=>rfl
 | [],_::_,h=>by cases h
 |_::_,[],h=>by cases h
 |a::l,b::m,h=>by
  simp only[iu.sC,bc,bU]at h;rw[h.1,Bh h.2]
@[simp] theorem ags (n:Nat):qz (iK n)=n:=by simp[qz,iK,V.toInt]
theorem Rb:∀(path:List (Nat×Nat)) (rest:List V),Jn (path.map (·.2)) ((path.map fun p=>iK p.1)++rest)=path
 | [],_=>rfl
 |p::l,rest=>by
  simp only[nY,List.cons_append,Jn,V.nth,ags,PU,wF,Rb l rest]
theorem Rc{l:LS}{x:V}{ds:List V}(h:iu l x=some ds):ds.length=l.size∧(l= .yV∨∀rest,nE l (ds++rest)=x):=by
 cases l with
 |yV=>simp only[iu,gW]at h;subst h;exact⟨rfl,.inl rfl⟩
 |int k=>
  cases x<;>simp only[iu]at h<;>first|(cases h;done)|skip
  rename_i k' n;by_cases hk:k=k'
  ·subst hk;simp only[decide_true,cond_true,gW]at h;subst h;exact⟨rfl,.inr fun _=>rfl⟩
  grind
 |bool=>
  cases x<;>simp only[iu]at h<;>first|(cases h;done)|skip
  cases h;exact⟨rfl,.inr fun _=>rfl⟩
 |str=>
  cases x<;>simp only[iu]at h<;>first|(cases h;done)|skip
  cases h;exact⟨rfl,.inr fun _=>rfl⟩
 |list e=>
  cases x<;>simp only[iu]at h<;>first|(cases h;done)|skip
  rename_i e' es;cases hb:Nat.beq e e' with
  |false=>grind
  |true=>
   rw[hb]at h;rw[bU]at hb;subst hb;cases h;exact⟨rfl,.inr fun _=>rfl⟩
 |whole e j=>
  cases x<;>simp only[iu]at h<;>first|(cases h;done)|skip
  rename_i e' id;cases hb:(Nat.beq e e'&&Nat.beq j id)with
  |false=>grind
  |true=>
   rw[hb]at h;simp only[bc,bU]at hb;obtain⟨rfl,rfl⟩:=hb;cases h;exact⟨rfl,.inr fun _=>rfl⟩
 |sub e j=>
  cases x<;>simp only[iu]at h<;>first|(cases h;done)|skip
  rename_i e' id o n;cases hb:(Nat.beq e e'&&Nat.beq j id)with
  |false=>grind
  |true=>
   rw[hb]at h;simp only[bc,bU]at hb;obtain⟨rfl,rfl⟩:=hb;cases h;exact⟨rfl,.inr fun _=>by simp[nE,V.nth]⟩
 |ptr j=>
  cases x<;>simp only[iu]at h<;>first|(cases h;done)|skip
  rename_i id i c;cases hb:(Nat.beq j id)with
  |false=>grind
  |true=>
   rw[hb]at h;rw[bU]at hb;subst hb;cases h;exact⟨rfl,.inr fun _=>by simp[nE,V.nth]⟩
 |aF j i c=>
  cases x<;>simp only[iu]at h<;>first|(cases h;done)|skip
  rename_i id i' c';cases hb:(Nat.beq j id&&(Nat.beq i i'&&Nat.beq c c'))with
  |false=>grind
  |true=>
   rw[hb]at h;simp only[bc,bU]at hb;obtain⟨rfl,rfl,rfl⟩:=hb;cases h;exact⟨rfl,.inr fun _=>rfl⟩
 |nilS e=>
  cases x<;>simp only[iu]at h<;>first|(cases h;done)|skip
  rename_i e';cases hb:Nat.beq e e' with
  |false=>grind
  |true=>
   rw[hb]at h;rw[bU]at hb;subst hb;cases h;exact⟨rfl,.inr fun _=>rfl⟩
 |gX=>
  cases x<;>simp only[iu]at h<;>first|(cases h;done)|skip
  cases h;exact⟨rfl,.inr fun _=>rfl⟩
 |dt e j=>
  cases x<;>simp only[iu]at h<;>first|(cases h;done)|skip
  rename_i e' id;cases hb:(Nat.beq e e'&&Nat.beq j id)with
  |false=>grind
  |true=>
   rw[hb]at h;simp only[bc,bU]at hb;obtain⟨rfl,rfl⟩:=hb;cases h;exact⟨rfl,.inr fun _=>rfl⟩
 |fZ e=>
  cases x<;>simp only[iu]at h<;>first|(cases h;done)|skip
  rename_i e';cases hb:Nat.beq e e' with
  |false=>grind
  |true=>
   rw[hb]at h;rw[bU]at hb;subst hb;cases h;exact⟨rfl,.inr fun _=>rfl⟩
 |Jf k n=>
  cases x<;>simp only[iu]at h<;>first|(cases h;done)|skip
  rename_i k' m;cases hb:(decide (k=k')&&decide (m=n))with
  |false=>grind
  |true=>
   rw[hb]at h;simp only[bc,il]at hb;obtain⟨rfl,rfl⟩:=hb;cases h;exact⟨rfl,.inr fun _=>rfl⟩
 |P9 b=>
  cases x<;>simp only[iu]at h<;>first|(cases h;done)|skip
  rename_i c;cases hb:decide (b=c)with
  |false=>grind
  |true=>
   rw[hb]at h;obtain rfl:=AA hb;cases h;exact⟨rfl,.inr fun _=>rfl⟩
 |row e j cs=>
  cases x<;>simp only[iu]at h<;>first|(cases h;done)|skip
  rename_i e' id ver path;cases hb:(Nat.beq e e'&&(Nat.beq j id&&(Nat.beq ver 0&&iu.sC cs (path.map (·.2)))))with
  |false=>grind
  |true=>
   rw[hb]at h;simp only[bc,bU]at hb;obtain⟨rfl,rfl,rfl,Bi⟩:=hb;have:=Bh Bi;subst this;cases h;exact⟨by simp[LS.size],.inr fun rest=>by simp only[nE,Rb]⟩
 |ez j cs c=>
  cases x<;>simp only[iu]at h<;>first|(cases h;done)|skip
  rename_i id ver path i c';cases hb:(Nat.beq j id&&(Nat.beq ver 0&&(Nat.beq c c'&&iu.sC cs (path.map (·.2)))))with
  |false=>grind
  |true=>
   rw[hb]at h;simp only[bc,bU]at hb;obtain⟨rfl,rfl,rfl,Bi⟩:=hb;have:=Bh Bi;subst this;cases h;exact⟨by simp[LS.size],.inr fun rest=>by simp only[nE,List.cons_append,V.nth,ags,PU,wF,Rb]⟩
def LS.below(n:Nat)(x:V):Prop:= ∀id∈gO x,id<n
def agt:V→Prop
 | .agg _=>False
 | .bN _=>False
 | .fn .. =>False
 | .pref .. =>False
 |_=>True
theorem DA{c:Bool}{a d:List V}(h:(bif c then some a else none)=some d):c=true:=by
 grind
theorem aqK{l:LS}{x:V}{ds:List V}{n:Nat}(h:iu l x=some ds)(hl:l≠ .yV)(aD:l.ok n=true):agt x∧LS.below n x:=by
 cases l<;>cases x<;>simp only[iu]at h<;>first|(cases h;done)|(exact absurd rfl hl)|skip
 all_goals refine⟨trivial,fun id ae=> ?_⟩
 all_goals simp only[gO,iY,List.not_mem_nil]at ae
 all_goals subst ae
 all_goals simp only[LS.ok,rf]at aD
 all_goals
  have hb:=DA h;simp_all
theorem ah.aqL{v:Value}{x:V}(h:ah P w I β hp v x)(hx:agt x)(hs:∀id∈gO x,hp' id=hp id∧β' id=β id):ah P w I β' hp' v x:=by
 have one:∀{id},id∈gO x→hp' id=hp id∧β' id=β id:=fun h=>hs _ h;cases h with
 |undef=>exact .undef
 |int=>exact .int
 |bool=>exact .bool
 |str h=>exact .str h
 |list h=>exact .list h
 |nilS=>exact .nilS
 |agg=>exact hx.elim
 |bN=>exact hx.elim
 |gX=>exact .gX
 |fn=>exact hx.elim
 |pref=>exact hx.elim
 |fq h=>exact .fq ((one (by simp[gO])).1.trans h)
 |nc h=>exact .nc ((one (by simp[gO])).1.trans h)
 |oG h=>exact .oG ((one (by simp[gO])).1.trans h)
 |fk h hb=>exact .fk ((one (by simp[gO])).1.trans h) ((one (by simp[gO])).2.trans hb)
 |whole h hb a b c=>exact .whole ((one (by simp[gO])).1.trans h) ((one (by simp[gO])).2.trans hb) a b c
 |fb h hb a b c=>exact .fb ((one (by simp[gO])).1.trans h) ((one (by simp[gO])).2.trans hb) a b c
 |fA h hb=>exact .fA ((one (by simp[gO])).1.trans h) ((one (by simp[gO])).2.trans hb)
 |iv h hb a b c=>exact .iv ((one (by simp[gO])).1.trans h) ((one (by simp[gO])).2.trans hb) a b c
 |nf h hb=>exact .nf ((one (by simp[gO])).1.trans h) ((one (by simp[gO])).2.trans hb)
 |sub h hb a b c=>exact .sub ((one (by simp[gO])).1.trans h) ((one (by simp[gO])).2.trans hb) a b c
 |ptr h hd hb=>exact .ptr ((one (by simp[gO])).1.trans h) hd ((one (by simp[gO])).2.trans hb)
 |oH h zn=>exact .oH ((one (by simp[gO])).1.trans h) zn
 |oI h zn=>exact .oI ((one (by simp[gO])).1.trans h) zn
 |row h hb a b c d=>exact .row ((one (by simp[gO])).1.trans h) ((one (by simp[gO])).2.trans hb) a b c d
 |ez h hb a b c d e=>exact .ez ((one (by simp[gO])).1.trans h) ((one (by simp[gO])).2.trans hb) a b c d e
 |fZ=>exact .fZ
 |nJ h=>exact .nJ ((one (by simp[gO])).1.trans h)
 |dt h hb=>exact .dt ((one (by simp[gO])).1.trans h) ((one (by simp[gO])).2.trans hb)
theorem Re{a b:List V}{n:Nat}(h:a.length=n):(a++b).drop n=b:=by subst h;simp
def Ke(n:Nat)(β:Nat→Option Nat)(hp:Nat→Option ag)(β':Nat→Option Nat)(hp':Nat→Option ag):Prop:= ∀id,id<n→hp' id=hp id∧β' id=β id
theorem agu{l:LS}{x:V}{ds:List V}{n:Nat}{v:Value}(h:iu l x=some ds)(aD:l.ok n=true)(mP:Ke n β hp β' hp')(hv:ah P w I β hp v x)(rest:List V):
  ah P w I β' hp' v (nE l (ds++rest)):=by
 rcases(Rc h).2 with e|e
 ·subst e;exact .undef
 ·rw[e rest];by_cases hu:l= .yV
  ·subst hu;have:x= .undef:=(e rest).symm;subst this;exact .undef
  ·obtain⟨h1,h2⟩:=aqK h hu aD;exact hv.aqL h1 fun id ae=>mP id (h2 id ae)
theorem Kf{n:Nat}(mP:Ke n β hp β' hp'):∀{ls:List LS} {xs:List V} {ds:List V},wS ls xs=some ds→ls.all (LS.ok n)=true→
  ds.length=o9 ls∧(∀rest,(j7 ls (ds++rest)).length=xs.length)∧
  ∀(rest:List V) (j:Nat) (v:Value) (y:V),(∀x,xs[j]? =some x→ah P w I β hp v x)→(j7 ls (ds++rest))[j]? =some y→ah P w I β' hp' v y
 | [],[],ds,h,_=>by cases h;exact⟨rfl,fun _=>rfl,fun rest j v y _ hy=>by simp[j7]at hy⟩
 | [],_::_,ds,h,_=>by cases h
 |_::_,[],ds,h,_=>by cases h
 |l::ls,x::xs,ds,h,aD=>by
  simp only[wS]at h;obtain⟨a,h1,h⟩:=bind_some h;obtain⟨b,h2,h⟩:=bind_some h;cases h;simp only[List.all_cons,bc]at aD;obtain⟨i1,i2,i3⟩:=Kf mP h2 aD.2;have dr:=(Rc h1).1;have hd:∀rest,(a++b++rest).drop l.size=b++rest:=fun rest=>by grind
  refine⟨by simp only[kG,o9];omega,fun rest=>by simp only[j7,List.length_cons,hd,i2],fun rest j v y hv hy=> ?_⟩;simp only[j7,hd]at hy;cases j with
  |zero=>
   simp at hy;subst hy;exact agu h1 aD.1 mP (hv x rfl) _
  |succ j=>grind
theorem XL:∀{ls:List LS} {xs:List V} {ds:List V},wS ls xs=some ds→ls.all LS.plain=true→ds.length=o9 ls∧∀rest,j7 ls (ds++rest)=xs
 | [],[],ds,h,_=>by cases h;exact⟨rfl,fun _=>rfl⟩
 | [],_::_,ds,h,_=>by cases h
 |_::_,[],ds,h,_=>by cases h
 |l::ls,x::xs,ds,h,aD=>by
  simp only[wS]at h;obtain⟨a,h1,h⟩:=bind_some h;obtain⟨b,h2,h⟩:=bind_some h;cases h;simp only[List.all_cons,bc]at aD;obtain⟨i1,i2⟩:=XL h2 aD.2;obtain⟨dr,hm⟩:=Rc h1;refine⟨by simp only[kG,o9];omega,fun rest=> ?_⟩;simp only[j7];rw[show(a++b++rest).drop l.size=b++rest by grind,i2,kH];rcases hm with e|e
  ·subst e;cases aD.1
  ·rw[e]
theorem XM{n:Nat}(mP:Ke n β hp β' hp'){s:VS}{x:V}{ds:List V}(h:wU s x=some ds)(aD:s.ok n=true):
  ds.length=s.size∧∀(rest:List V) (v:Value),ah P w I β hp v x→ah P w I β' hp' v (pc s (ds++rest)):=by
 cases s with
 |one l=>exact⟨(Rc h).1,fun rest v hv=>agu h aD mP hv rest⟩
 |agg ls=>
  cases x<;>simp only[wU]at h<;>first|(cases h;done)|skip
  rename_i xs;obtain⟨i1,i2,i3⟩:=Kf (P:=P) (w:=w) (I:=I) mP h aD;refine⟨i1,fun rest v hv=> ?_⟩;obtain⟨cs,rfl,e1,e2⟩:=hv.qE;exact .agg (by grind) fun j v y hj hy=>i3 rest j v y (fun x hx=>e2 j v x hj hx) hy
 |bN ls=>
  cases x<;>simp only[wU]at h<;>first|(cases h;done)|skip
  rename_i xs;obtain⟨i1,i2,i3⟩:=Kf (P:=P) (w:=w) (I:=I) mP h aD;refine⟨i1,fun rest v hv=> ?_⟩;obtain⟨cs,rfl,e1,e2⟩:=hv.Dc;exact .bN (by grind) fun j v y hj hy=>i3 rest j v y (fun x hx=>e2 j v x hj hx) hy
 |fn f a b=>
  cases x<;>simp only[wU]at h<;>first|(cases h;done)|skip
  rename_i f' xs ys;cases hb:Nat.beq f f' with
  |false=>grind
  |true=>
   rw[hb]at h;rw[bU]at hb;subst hb;simp only[cond_true]at h;obtain⟨p,h1,h⟩:=bind_some h;obtain⟨q,h2,h⟩:=bind_some h;cases h;simp only[VS.ok,bc]at aD;obtain⟨i1,i2,i3⟩:=Kf (P:=P) (w:=w) (I:=I) mP h1 aD.1;obtain⟨j1,j2,j3⟩:=Kf (P:=P) (w:=w) (I:=I) mP h2 aD.2;refine⟨by simp only[kG,VS.size];omega,fun rest v hv=> ?_⟩;cases hv with
   |fn a1 a2 b1 b2=>
    simp only[pc];rw[show(p++q++rest).drop (o9 a)=q++rest by grind,kH];exact .fn (by grind) (fun j v y hj hy=>i3 _ j v y (fun x hx=>a2 j v x hj hx) hy) (by grind) (fun j v y hj hy=>j3 _ j v y (fun x hx=>b2 j v x hj hx) hy)
 |pref ts ls=>
  cases x<;>simp only[wU]at h<;>first|(cases h;done)|skip
  rename_i wV xs;cases hb:iu.sC ts wV with
  |false=>grind
  |true=>
   rw[hb]at h;have:=Bh hb;subst this;simp only[cond_true]at h;refine⟨?_,fun rest v hv=> ?_⟩
   ·exact(XL h aD).1
   ·simp only[pc];rw[(XL h aD).2];cases hv with
    |pref hl hI hc=>exact .pref hl hI hc
theorem Kg{n:Nat}(mP:Ke n β hp β' hp'):∀{ls:List VS} {xs:List V} {ds:List V},yJ ls xs=some ds→ls.all (VS.ok n)=true→
  ds.length=AL ls∧(∀rest,(lT ls (ds++rest)).length=xs.length)∧
  ∀(rest:List V) (j:Nat) (v:Value) (y:V),(∀x,xs[j]? =some x→ah P w I β hp v x)→(lT ls (ds++rest))[j]? =some y→ah P w I β' hp' v y
 | [],[],ds,h,_=>by cases h;exact⟨rfl,fun _=>rfl,fun rest j v y _ hy=>by simp[lT]at hy⟩
 | [],_::_,ds,h,_=>by cases h
 |_::_,[],ds,h,_=>by cases h
 |l::ls,x::xs,ds,h,aD=>by
  simp only[yJ]at h;obtain⟨a,h1,h⟩:=bind_some h;obtain⟨b,h2,h⟩:=bind_some h;cases h;simp only[List.all_cons,bc]at aD;obtain⟨i1,i2,i3⟩:=Kg mP h2 aD.2;obtain⟨dr,Dt⟩:=XM (P:=P) (w:=w) (I:=I) mP h1 aD.1;have hd:∀rest,(a++b++rest).drop l.size=b++rest:=fun rest=>by grind
  refine⟨by simp only[kG,AL];omega,fun rest=>by simp only[lT,List.length_cons,hd,i2],fun rest j v y hv hy=> ?_⟩;simp only[lT,hd]at hy;grind
end
section
variable {P:Program}{A:dM}{w w':World}{I I' I2:Nat→Nat→Prop}{μ β β':Nat→Option Nat}{hp hp' hp0:Nat→Option ag}{C:af}{B:Nat}{M:Nat→Prop}{w0:Start}
theorem np:∀{l:List ag} {j:Nat},pd l j=l[j]?
 | [],j=>by simp[pd]
 |b::l,0=>rfl
 |b::l,j+1=>by simp only[pd,np,List.getElem?_cons_succ]
theorem XN{sl:Nat→V}{k:Nat}{y:V}:∀{l:List (Nat×VS)} {ds:List V},Jl sl l=some ds→(∀p∈l,∀d,wU p.2 (sl p.1)=some d→d.length=p.2.size)→
  ds.length=ve l∧∀rest,gN (kK l (ds++rest)) k=some y→∃s d mA,(k,s)∈l∧wU s (sl k)=some d∧y=pc s (d++mA)
 | [],ds,h,_=>by cases h;exact⟨rfl,fun rest h=>by cases h⟩
 |(q,s)::l,ds,h,hz=>by
  simp only[Jl]at h;obtain⟨a,h1,h⟩:=bind_some h;obtain⟨b,h2,h⟩:=bind_some h;cases h;obtain⟨i1,i2⟩:=XN (k:=k) (y:=y) h2 fun p hp=>hz p (j5 _ hp);have dr:=hz (q,s) (CE ..) a h1;refine⟨by simp only[kG,ve];simp only at dr;omega,fun rest hl=> ?_⟩;simp only[kK,gN]at hl;rw[show(a++b++rest).drop s.size=b++rest by rw[kH];exact Re dr]at hl;cases hb:Nat.beq k q with
  |true=>
   rw[hb]at hl;rw[bU]at hb;subst hb;cases hl;exact⟨s,a,b++rest,CE ..,h1,by rw[kH]⟩
  |false=>
   rw[hb]at hl;obtain⟨s',d,mA,m1,m2,m3⟩:=i2 rest hl;exact⟨s',d,mA,j5 _ m1,m2,m3⟩
theorem XO{α:Type}{c:Bool}{x:Option α}{a:α}(h:(bif c then x else none)=some a):c=true∧x=some a:=by
 cases c with
 |true=>exact⟨rfl,h⟩
 |false=>cases h
theorem aqM{n:Nat}{b:BS}{o:Option ag}{ds:List V}(h:qA b o=some ds)(aD:b.ok n=true):ds.length=b.size:=by
 cases b with
 |dead=>cases o<;>(cases h;rfl)
 |var T0 ls=>
  cases o with
  |none=>cases h
  |some blk=>
   cases blk<;>simp only[qA]at h<;>first|(cases h;done)|skip
   exact(Kg (P:=default) (w:=default) (I:=fun _ _=>False) (β:=fun _=>none) (hp:=fun _=>none) (fun _ _=>⟨rfl,rfl⟩) (XO h).2 aD).1
 |arr e fz=>
  cases o with
  |none=>cases h
  |some blk=>
   cases blk<;>simp only[qA]at h<;>first|(cases h;done)|skip
   rw[DA h]at h;cases h;rfl
 |nest e=>
  cases o with
  |none=>cases h
  |some blk=>
   cases blk<;>simp only[qA]at h<;>first|(cases h;done)|skip
   rw[DA h]at h;cases h;rfl
 |map t=>
  cases o with
  |none=>cases h
  |some blk=>
   cases blk<;>simp only[qA]at h<;>first|(cases h;done)|skip
   rw[DA h]at h;cases h;rfl
theorem agv{n:Nat}:∀{l:List BS} {j:Nat} {ds:List V},Jm hp j l=some ds→l.all (BS.ok n)=true→
  (∀rest,(jC l (ds++rest)).length=l.length)∧∀(rest:List V) (i:Nat) (blk:ag),(jC l (ds++rest))[i]? =some blk→∃b d mA,l[i]? =some b∧b.ok n=true∧qA b (hp (j+i))=some d∧blk=j8 b (d++mA)
 | [],j,ds,h,_=>by cases h;exact⟨fun _=>rfl,fun rest i blk hb=>by simp[jC]at hb⟩
 |b::l,j,ds,h,aD=>by
  simp only[Jm]at h;obtain⟨a,h1,h⟩:=bind_some h;obtain⟨c,h2,h⟩:=bind_some h;cases h;simp only[List.all_cons,bc]at aD;obtain⟨i1,i2⟩:=agv h2 aD.2;have dr:=aqM h1 aD.1;have hd:∀rest,(a++c++rest).drop b.size=c++rest:=fun rest=>by rw[kH];exact Re dr
  refine⟨fun rest=>by simp only[jC,List.length_cons,hd,i1],fun rest i blk hb=> ?_⟩;simp only[jC,hd]at hb;cases i with
  |zero=>
   simp at hb;exact⟨b,a,c++rest,rfl,aD.1,h1,by rw[←hb]⟩
  |succ i=>
   obtain⟨b',d,mA,m1,m2,m3,m4⟩:=i2 rest i blk (by simpa using hb);exact⟨b',d,mA,by simpa using m1,m2,by rw[show j+(i+1)=j+1+i by omega];exact m3,m4⟩
theorem aqN{n:Nat}{b:BS}{blk:ag}{ds rest:List V}(h:qA b (some blk)=some ds)(aD:b.ok n=true):
  blk.le (j8 b (ds++rest))∧(j8 b (ds++rest)= .dead∨j8 b (ds++rest)=blk∨∃T ls cs,b= .var T ls∧blk= .var T cs∧yJ ls cs=some ds∧j8 b (ds++rest)= .var T (lT ls (ds++rest))):=by
 cases b with
 |dead=>exact⟨by cases blk<;>trivial,.inl rfl⟩
 |var T0 ls=>
  cases blk<;>simp only[qA]at h<;>first|(cases h;done)|skip
  obtain⟨hT,h0⟩:=XO h;clear h;rw[bU]at hT;subst hT;exact⟨rfl,.inr (.inr ⟨_,_,_,rfl,rfl,h0,rfl⟩)⟩
 |arr e fz=>
  cases blk<;>simp only[qA]at h<;>first|(cases h;done)|skip
  rename_i e' es vd;have hb:=DA h;simp only[bc,bU,beq_iff_eq]at hb;obtain⟨rfl,rfl⟩:=hb;simp only[nX,IZ,Bool.and_self,cond_true,gW]at h;subst h;exact⟨⟨rfl,rfl⟩,.inr (.inl rfl)⟩
 |nest e=>
  cases blk<;>simp only[qA]at h<;>first|(cases h;done)|skip
  rename_i e' es vers;have hb:=DA h;simp only[bc,bU]at hb;obtain⟨rfl,hv⟩:=hb;have:=Bh hv;subst this;simp only[nX,Bool.true_and]at h;cases h;exact⟨⟨rfl,rfl,rfl,fun _=>aR _⟩,.inr (.inl rfl)⟩
 |map t=>
  cases blk<;>simp only[qA]at h<;>first|(cases h;done)|skip
  rename_i t' es;have hb:=DA h;rw[bU]at hb;subst hb;simp only[nX,cond_true,gW]at h;subst h;exact⟨rfl,.inr (.inl rfl)⟩
theorem agw{m:Nat}{S:Shape}{st:St}{ds:List V}(h:oc m S st=some ds):
  S.ok=true∧m≤S.dI.length∧∃a b,Jl st.sl S.cY=some a∧Jm st.hp 0 S.dI=some b∧ds=a++b:=by
 unfold oc at h;cases hc:(S.ok&&Nat.ble m S.dI.length)with
 |false=>rw[hc]at h;cases h
 |true=>
  rw[hc]at h;simp only[cond_true]at h;simp only[bc,fG]at hc;obtain⟨a,h1,h⟩:=bind_some h;obtain⟨b,h2,h⟩:=bind_some h;cases h;exact⟨hc.1,hc.2,a,b,h1,h2,rfl⟩
theorem reshape{m:Nat}{S:Shape}{st:St}{ds:List V}(h:oc m S st=some ds)(hS:aK P w I β st.hp B M w0):
  aK P w I β (cG S ds).hp B M w0∧(∀(k:Nat) (v:Value),ah P w I β st.hp v (st.sl k)→ah P w I β (cG S ds).hp v ((cG S ds).sl k))∧
  (∀(μ:Nat→Option Nat) (hp0:Nat→Option ag),(∀id blk,hp0 id=some blk→id<m)→Le P w0.w w0.I μ hp0 w I β st.hp→Le P w0.w w0.I μ hp0 w I β (cG S ds).hp)∧
  ∀j blk',(cG S ds).hp j=some blk'→blk'≠ .dead→∃blk,st.hp j=some blk∧blk.le blk'∧∀o b,bV P w o blk' b→bV P w o blk b:=by
 obtain⟨aD,hm,a,b,h1,h2,rfl⟩:=agw h;unfold Shape.ok at aD;rw[bc]at aD;obtain⟨vy,agb⟩:=aD;have b7:∀p∈S.cY,∀d,wU p.2 (st.sl p.1)=some d→d.length=p.2.size:=fun p hp d hd=>
  (XM (P:=P) (w:=w) (I:=I) (β:=β) (hp:=st.hp) (fun _ _=>⟨rfl,rfl⟩) hd (jk.1 vy p hp)).1
 have dr:a.length=ve S.cY:=(XN (k:=0) (y:= .undef) h1 b7).1;have Q2:(cG S (a++b)).hp=pd (jC S.dI (b++[])):=by
  simp only[cG,mk,uZ];rw[Re dr]
 obtain⟨bl,bg⟩:=agv h2 agb;have get:∀j blk',(cG S (a++b)).hp j=some blk'→j<S.dI.length∧∃bs d mA,bs.ok S.dI.length=true∧qA bs (st.hp j)=some d∧blk'=j8 bs (d++mA):=by
  intro j blk' hj;rw[Q2,np]at hj;obtain⟨bs,d,mA,m1,m2,m3,m4⟩:=bg [] j blk' hj;rw[cL]at m3;exact⟨(cP.1 m1).1,bs,d,mA,m2,m3,m4⟩
 have have':∀j,j<S.dI.length→∃blk',(cG S (a++b)).hp j=some blk':=by
  intro j hj;rw[Q2,np];exact⟨_,cv (by rw[bl];exact hj)⟩
 generalize gQ:(cG S (a++b)).hp=DB at*
 let cE:Nat→Option ag:=fun id=>if id<S.dI.length then DB id else st.hp id
 have back:∀j blk',DB j=some blk'→blk'≠ .dead→∃blk,st.hp j=some blk∧blk.le blk'∧(blk'=blk∨∃T ls cs d mA,ls.all (VS.ok S.dI.length)=true∧blk= .var T cs∧yJ ls cs=some d∧blk'= .var T (lT ls (d++mA))):=by
  intro j blk' hj hd;obtain⟨eQ,bs,d,mA,m1,m2,m3⟩:=get j blk' hj;cases fB:st.hp j with
  |none=>
   rw[fB]at m2;cases bs<;>simp only[qA]at m2<;>first|(cases m2;done)|skip
   exact absurd m3 hd
  |some blk=>
   rw[fB]at m2;obtain⟨n1,n2⟩:=aqN (rest:=mA) m2 m1;rw[←m3]at n1 n2;refine⟨blk,rfl,n1,?_⟩;rcases n2 with e|e|⟨T,ls,cs,e1,e2,e3,e4⟩
   ·exact absurd e hd
   ·exact .inl e
   ·subst e1;exact .inr ⟨T,ls,cs,d,mA,m1,e2,e3,e4⟩
 have zs:∀j blk,st.hp j=some blk→j<S.dI.length→∃blk',DB j=some blk'∧blk.le blk':=by
  intro j blk hj eQ;obtain⟨blk',aJ⟩:=have' j eQ;refine⟨blk',aJ,?_⟩;by_cases hd:blk'= .dead
  ·subst hd;cases blk<;>trivial
  ·obtain⟨dd,e1,e2,_⟩:=back j blk' aJ hd;rw[hj]at e1;cases e1;exact e2
 have aqO:∀j e es vers e' ba vers',st.hp j=some (.nest e es vers)→DB j=some (.nest e' ba vers')→e'=e∧ba=es∧vers'=vers:=by
  intro j e es vers e' ba vers' hj ja;obtain⟨blk,e1,_,e3⟩:=back j _ ja (by simp);rw[hj]at e1;cases e1;rcases e3 with e3|⟨_,_,_,_,_,_,e3,_⟩
  ·cases e3;exact⟨rfl,rfl,rfl⟩
  ·cases e3
 have hle:Le P w I β st.hp w I β cE:=by
  refine⟨fun _ _ h=>h,fun _ _ _=>rfl,fun id blk ae=> ?_,fun _ _ _ _ _ _ _ _=>rfl,Le.ze (fun _ _ _ _ _ _=>rfl) fun id e es vers e' ba vers' ae cM=> ?_⟩
  ·by_cases hl:id<S.dI.length
   ·obtain⟨blk',e1,e2⟩:=zs id blk ae hl;exact⟨blk',by simp only[cE,aP hl];exact e1,e2,fun _=>rfl⟩
   ·exact⟨blk,by simp only[cE,aM hl];exact ae,ag.le_refl _,fun _=>rfl⟩
  ·by_cases hl:id<S.dI.length
   ·simp only[cE,aP hl]at cM;exact aqO _ _ _ _ _ _ _ ae cM
   ·simp only[cE,aM hl]at cM;rw[ae]at cM;cases cM;exact⟨rfl,rfl,rfl⟩
 have mP:Ke S.dI.length β cE β DB:=fun id ae=>⟨by simp only[cE,aP ae],rfl⟩
 have xc:∀j blk' blk o b,DB j=some blk'→st.hp j=some blk→bV P w o blk' b→bV P w o blk b:=by
  intro j blk' blk o b ja hj ho;obtain⟨dd,e1,_,e3⟩:=back j blk' ja ho.alive;rw[hj]at e1;cases e1;rcases e3 with e3|⟨T,ls,cs,d,mA,_,e3,_,e5⟩
  ·subst e3;exact ho
  ·subst e3;subst e5;exact .root (by simp) (ho.flat (by simp))
 refine⟨⟨⟨fun j blk' hj=> ?_,fun j1 j2 b1 b2 b' e1 e2 o1 o2=> ?_,fun j blk b' hj ho=> ?_,hS.h.mw⟩,hS.dF,hS.size,hS.new,hS.io⟩,fun k v hv=> ?_,fun μ hp0 bO hE=> ?_,fun j blk' hj hd=> ?_⟩
 ·by_cases hd:blk'= .dead
  ·subst hd;exact .dead
  ·obtain⟨blk,e1,_,e3⟩:=back j blk' hj hd;have hr:=hS.h.rel j blk e1;generalize β j=o at hr;rcases e3 with e3|⟨T0,ls,cs,d,mA,q1,e3,e4,e5⟩
   ·subst e3;cases hr with
    |@var xs b' Ca T hb hh hs dU hx my=>
     obtain⟨eQ,bs,d,mA,m1,m2,m3⟩:=get j _ hj;rw[e1]at m2;cases bs<;>simp only[qA]at m2<;>first|(cases m2;done)|skip
     ·rename_i T0 ls;simp only[j8]at m3;obtain⟨hT,m2⟩:=XO m2;obtain⟨i1,i2,i3⟩:=Kg (P:=P) (w:=w) (I:=I) mP m2 m1;injection m3 with m4 m3;rw[m3];exact .var hb hh (by rw[i2];exact hs) dU (fun i v y hi hy=>i3 mA i v y (fun x eo=>(hx i v x hi eo).mono hle) hy) my
     ·simp only[j8]at m3;cases m3
    |fT hb=>exact .fT hb
    |arr a0 a1 a2 a3 a4 a5 a6 a7=>exact .arr a0 a1 a2 a3 a4 a5 a6 a7
    |dead=>exact absurd rfl hd
    |nest a1 a2 a3=>exact .nest a1 a2 a3
    |kO a1=>exact .kO a1
    |out a1 a2 a3 a4 a5 a6 a7 a8 a9 a10=>exact .out a1 a2 a3 a4 a5 a6 a7 a8 a9 a10
    |map a1 a2 a3 a4 a5 a6 a7=>exact .map a1 a2 a3 a4 a5 a6 a7
   ·subst e3;subst e5;cases hr with
    |@var xs b' Ca T hb hh hs dU hx my=>
     obtain⟨i1,i2,i3⟩:=Kg (P:=P) (w:=w) (I:=I) mP e4 q1;exact .var hb hh (by rw[i2];exact hs) dU (fun i v y hi hy=>i3 mA i v y (fun x eo=>(hx i v x hi eo).mono hle) hy) my
 ·obtain⟨c1,x1,_,_⟩:=back j1 b1 e1 o1.alive;obtain⟨c2,x2,_,_⟩:=back j2 b2 e2 o2.alive;exact hS.h.inj j1 j2 c1 c2 b' x1 x2 (xc _ _ _ _ _ e1 x1 o1) (xc _ _ _ _ _ e2 x2 o2)
 ·obtain⟨c1,x1,_,_⟩:=back j blk hj ho.alive;exact hS.h.own j c1 b' x1 (xc _ _ _ _ _ hj x1 ho)
 ·change ah P w I β DB v (oF (kK S.cY (a++b)) k);unfold oF;cases Kh:gN (kK S.cY (a++b)) k with
  |none=>exact .undef
  |some y=>
   obtain⟨s,d,mA,n1,n2,n3⟩:=(XN h1 b7).2 b Kh;simp only[Option.getD_some,n3];exact(XM (P:=P) (w:=w) (I:=I) mP n2 (jk.1 vy _ n1)).2 mA v (hv.mono hle)
 ·have h3:=hE.trans hle;refine⟨h3.fI,h3.dF,fun id blk ae=> ?_,fun id blk blk' b' ae cM hd hb=> ?_,fun id e es vers e' ba vers' b2 q i c t v e1 l ae cM=> ?_⟩
  ·have hl:=bO id blk ae;obtain⟨blk',k1,k2,k3⟩:=h3.blk id blk ae;simp only[cE,aP (show id<S.dI.length by omega)]at k1;exact⟨blk',k1,k2,k3⟩
  ·have hl:=bO id blk ae;exact h3.size id blk blk' b' ae (by simp only[cE,aP (show id<S.dI.length by omega)];exact cM) hd hb
  ·have hl:=bO id _ ae;exact h3.row id e es vers e' ba vers' b2 q i c t v e1 l ae (by simp only[cE,aP (show id<S.dI.length by omega)];exact cM)
 ·obtain⟨blk,e1,e2,_⟩:=back j blk' hj hd;exact⟨blk,e1,e2,fun o b' ho=>xc _ _ _ _ _ hj e1 ho⟩
end
section
variable {P:Program}{A:dM}{w w':World}{I I' I2:Nat→Nat→Prop}{μ β β':Nat→Option Nat}{hp hp' hp0:Nat→Option ag}{C:af}{B:Nat}{M:Nat→Prop}{w0:Start}
inductive iz(P:Program)(w:World)(β:Nat→Option Nat)(hp:Nat→Option ag):Place→Option Nat→ag→Prop
 |var {id:Nat} {T:TypeId} {cs XP:List V}:hp id=some (.var T cs)→iz P w β hp (.blk id) (β id) (.var T XP)
 |arr {id:Nat} {e:TypeId} {es:List V} {fz:Bool}:hp id=some (.arr e es fz)→iz P w β hp (.blk id) (β id) (.arr e es fz)
 |nest {id:Nat} {e:TypeId} {es:List V} {vers:List Nat}:hp id=some (.nest e es vers)→iz P w β hp (.blk id) (β id) (.nest e es [0,0,0])
 |row {id ver b b':Nat} {path:Path} {e0 e':TypeId} {es l:List V} {vers:List Nat}:hp id=some (.nest e0 es vers)→β id=some b→At P w b e0 es path b' e' l→Jk P e'=true→
   0<path.length→path.length≤vers.length→cy vers (path.length-1)=ver→0<l.length→iz P w β hp (.row id ver path) (some b') (.arr e' l false)
 |map {id:Nat} {t:TypeId} {es:List V}:hp id=some (.map t es)→iz P w β hp (.blk id) (β id) (.map t es)
def Ki(P:Program)(w:World)(β:Nat→Option Nat)(hp:Nat→Option ag)(ρ:List Place)(μ:Nat→Option Nat)(hp0:Nat→Option ag):Prop:=
 ∀j p,iM ρ j=some p→∃blk,hp0 j=some blk∧iz P w β hp p (μ j) blk
theorem vD:∀{l m:List Place} {j:Nat} {p:Place},iM l j=some p→iM (l++m) j=some p
 | [],m,j,p,h=>by cases h
 |a::l,m,0,p,h=>h
 |a::l,m,j+1,p,h=>vD (l:=l) h
theorem rO:∀{l:List Place} {j:Nat},iM l j=l[j]?
 | [],j=>by simp[iM]
 |a::l,0=>rfl
 |a::l,j+1=>by simp only[iM,rO,List.getElem?_cons_succ]
def aqP(hp:Nat→Option ag)(q:Nat×ag):Prop:=FO hp q∨∃T cs,q.2= .var T cs∧hp q.1=some (.var T cs)
structure Ext(P:Program)(w:World)(I:Nat→Nat→Prop)(β:Nat→Option Nat)(hp:Nat→Option ag)(h h':Hand)(d:List V)(u:List (Nat×ag)):Prop where
 ds:h'.ds=h.ds++d
 upd:h'.upd=h.upd++u
 Kj:∀q∈u,aqP hp q
 pl:∃m,h'.pl=h.pl++m
 nodup:(h.pl.map Place.id).Nodup→(h'.pl.map Place.id).Nodup
theorem Ext.refl(h:Hand):Ext P w I β hp h h [] []:=⟨by simp,by simp,by simp,⟨[],by simp⟩,id⟩
theorem Ext.trans{h1 h2 h3:Hand}{d1 d2:List V}{u1 u2:List (Nat×ag)}(a:Ext P w I β hp h1 h2 d1 u1)(b:Ext P w I β hp h2 h3 d2 u2):Ext P w I β hp h1 h3 (d1++d2) (u1++u2):=by
 obtain⟨m1,e1⟩:=a.pl;obtain⟨m2,e2⟩:=b.pl;exact⟨by rw[b.ds,a.ds,kH],by rw[b.upd,a.upd,kH],fun q hq=>(fQ.1 hq).elim (a.Kj q) (b.Kj q),⟨m1++m2,by grind⟩,fun h=>b.nodup (a.nodup h)⟩
theorem Ext.look{h h':Hand}{d:List V}{u:List (Nat×ag)}(a:Ext P w I β hp h h' d u){j:Nat}{p:Place}(hj:iM h.pl j=some p):iM h'.pl j=some p:=by
 obtain⟨m,e⟩:=a.pl;rw[e];exact vD hj
theorem Ext.leaf(h:Hand)(x:V):Ext P w I β hp h {h with ds:=h.ds++[x]} [x] []:=⟨rfl,by simp,by simp,⟨[],by simp⟩,id⟩
theorem aqQ{α:Type}{ρ:List Place}{j:Nat}{p:Place}{k:List Place→Rd α}{r:α}{rd:List Nat}(h:(unify ρ j p k).run C hp=some (r,rd))(hb:∃id,p= .blk id∨∃ver path,p= .row id ver path):
  ∃po,(k po).run C hp=some (r,rd)∧(∃m,po=ρ++m)∧iM po j=some p∧((ρ.map Place.id).Nodup→(po.map Place.id).Nodup):=by
 unfold unify at h;cases hc:Nat.blt j ρ.length with
 |true=>
  rw[hc]at h;obtain⟨h1,h2⟩:=aW h;refine⟨ρ,h2,⟨[],by simp⟩,?_,id⟩;unfold afa at h1;split at h1
  all_goals simp_all
 |false=>
  rw[hc]at h;obtain⟨h1,h2⟩:=aW h;simp only[bc,bU,qu]at h1;obtain⟨rfl,h3⟩:=h1;refine⟨ρ++[p],h2,⟨[p],rfl⟩,?_,fun hn=> ?_⟩
  ·rw[rO];simp
  ·rw[sA,PV];refine⟨hn,by simp,fun a ha b hb=> ?_⟩;simp only[nY,List.map_nil,iY]at hb;subst hb;intro e;subst e;rw[FZ ha]at h3;cases h3
theorem DC{α:Type}{h:Hand}{j:Nat}{p:Place}{k:List Place→Rd α}{r:α}{rd:List Nat}(hr:(unify h.pl j p k).run C hp=some (r,rd))(ds:List V):
  ∃po,(k po).run C hp=some (r,rd)∧iM po j=some p∧Ext P w I β hp h {h with pl:=po,ds:=h.ds++ds} ds []:=by
 obtain⟨po,a,b,c,d⟩:=aqQ hr (by cases p with|blk id=>grind|row id ver path=>grind);exact⟨po,a,c,⟨rfl,by simp,by simp,b,d⟩⟩
theorem aqR{o:Option Nat}{blk:ag}{e:TypeId}{id j:Nat}{v:Value}(hv:ah P w I β hp v (.whole e id))(hl:iz P w β hp (.blk id) o blk)(hj:hp0 j=some blk)(oP:μ j=o):ah P w I' μ hp0 v (.whole e j):=by
 cases hl with
 |var h=>
  cases hv with
  |fq h2=>grind
  |fk h2=>grind
  |whole h2=>grind
  |fb h2=>grind
  |fA h2=>grind
  |iv h2=>grind
 |arr h=>
  cases hv with
  |fq h2=>grind
  |fk h2 hb=>rw[h]at h2;cases h2;exact .fk hj (oP.trans hb)
  |whole h2 hb a b c=>rw[h]at h2;cases h2;exact .whole hj (oP.trans hb) a b c
  |fb h2=>grind
  |fA h2=>grind
  |iv h2=>grind
 |nest h=>
  cases hv with
  |fq h2=>grind
  |fk h2=>grind
  |whole h2=>grind
  |fb h2 hb a b c=>rw[h]at h2;cases h2;exact .fb hj (oP.trans hb) a b c
  |fA h2 hb=>rw[h]at h2;cases h2;exact .fA hj (oP.trans hb)
  |iv h2=>grind
 |map h=>
  cases hv with
  |fq h2=>grind
  |fk h2=>grind
  |whole h2=>grind
  |fb h2=>grind
  |fA h2=>grind
  |iv h2=>grind
theorem aqS{o:Option Nat}{blk:ag}{t:TypeId}{id j:Nat}{v:Value}(hv:ah P w I β hp v (.dt t id))(hl:iz P w β hp (.blk id) o blk)(hj:hp0 j=some blk)(oP:μ j=o):ah P w I' μ hp0 v (.dt t j):=by
 cases hv with
 |nJ h2=>cases hl<;>(grind)
 |dt h2 hb=>
  cases hl<;>(rename_i h;rw[h]at h2;cases h2)
  exact .dt hj (oP.trans hb)
theorem aqT{o:Option Nat}{blk:ag}{e:TypeId}{id off n j:Nat}{v:Value}(hv:ah P w I β hp v (.sub e id off n))(hl:iz P w β hp (.blk id) o blk)(hj:hp0 j=some blk)(oP:μ j=o):ah P w I' μ hp0 v (.sub e j off n):=by
 cases hl with
 |var h=>
  cases hv with
  |nc h2=>grind
  |nf h2=>grind
  |sub h2=>grind
 |arr h=>
  cases hv with
  |nc h2=>grind
  |nf h2 hb=>rw[h]at h2;cases h2;exact .nf hj (oP.trans hb)
  |sub h2 hb a b c=>rw[h]at h2;cases h2;exact .sub hj (oP.trans hb) a b c
 |nest h=>
  cases hv with
  |nc h2=>grind
  |nf h2=>grind
  |sub h2=>grind
 |map h=>
  cases hv with
  |nc h2=>grind
  |nf h2=>grind
  |sub h2=>grind
theorem agx{o:Option Nat}{blk:ag}{id i c j:Nat}{v:Value}(hv:ah P w I β hp v (.ptr id i c))(hl:iz P w β hp (.blk id) o blk)(hj:hp0 j=some blk)(oP:μ j=o):ah P w I' μ hp0 v (.ptr j i c):=by
 cases hl with
 |@var _ T0 cs XP h=>
  obtain⟨b,hb,rfl⟩:=hv.oL h (by simp);exact ah.ptr (blk:= .var T0 XP) hj (by simp) (oP.trans hb)
 |@arr _ e es fz h=>
  obtain⟨b,hb,rfl⟩:=hv.oL h (by simp);exact ah.ptr (blk:= .arr e es fz) hj (by simp) (oP.trans hb)
 |@nest _ e es vers h=>
  obtain⟨b,hb,rfl⟩:=hv.oL h (by simp);exact ah.ptr (blk:= .nest e es [0,0,0]) hj (by simp) (oP.trans hb)
 |@map _ t es h=>
  obtain⟨b,hb,rfl⟩:=hv.oL h (by simp);exact ah.ptr (blk:= .map t es) hj (by simp) (oP.trans hb)
theorem aqU(dz:∀id blk,hp id=some blk→fS P w I β hp (β id) blk){id b i c:Nat}{e0 t:TypeId}{es l:List V}{vers:List Nat}{q:Path}{e:TypeId}{v:Value}(ae:hp id=some (.nest e0 es vers))(hb:β id=some b)
  (ht:P.underlying t=some (.slice e)) (hc:sF P w b e0 es q i c t v (.list e l)) (hl:0<l.length):∃b1 cap,v= .slice (some ⟨b1,0,none⟩) l.length cap∧cap*P.cellsOf e=bsize w b1∧l.length≤cap∧cap≤maxLen∧At P w b e0 es (q++[(i,c)]) b1 e l:=by
 obtain⟨b2,e1,m,Ca,T,f,x,n1,n2,n3,n4,n5,n6⟩:=hc;have hr:=dz _ _ ae;cases hr with
 |kO aJ=>grind
 |nest aJ hr hn=>
  rw[hb]at aJ;cases aJ;have hR:=hr _ _ _ _ n1;obtain⟨C9,_,c1,_,c2,c3⟩:=hR.cells;rw[n2]at c1;cases c1;have Db:c<P.cellsOf e1:=by rw[←gP hR.ok];grind
  obtain⟨v',d1,d2⟩:=c3 i c x t n3 n4 Db;rw[n6]at d1;cases d1;rw[n5]at d2;generalize hy:V.list e l=y at d2;cases d2 with
  |iO a p=>unfold fj at a;grind
  |emp hu=>grind
  |row hu oJ b7 cS zg=>
   cases hy;exact⟨_,_,rfl,b7,cS,zg,n1.snoc n2 n3 n4 ht n5 oJ n6⟩
theorem aqV(S:aK P w I β hp B M w0){o:Option Nat}{blk:ag}{e:TypeId}{id ver j:Nat}{path:Path}{v:Value}(hv:ah P w I β hp v (.row e id ver path))(hl:iz P w β hp (.row id ver path) o blk)(hj:hp0 j=some blk)(oP:μ j=o):ah P w I' μ hp0 v (.whole e j):=by
 cases hl with
 |row h hb ha hf h1 h2 h3 h4=>
  obtain⟨b2,q,i,c,t,l2,rfl,gY,ht,hc⟩:=hv.WB h h1 h2 h3;rw[hb]at gY;cases gY;obtain⟨p1,p2⟩:=WC ha;have gh:=hc;obtain⟨b3,e3,m3,Ca,T,f,x,n1,n2,n3,n4,n5,n6⟩:=gh;obtain⟨q1,q2⟩:=QF n1 n3 n4 ht n5;rw[p1]at q1;rw[p2]at q2;cases q1;cases q2;obtain⟨b1,cap,rfl,m1,m2,m4,m5⟩:=aqU S.h.rel h hb ht hc h4;have:=aqW ha m5;subst this;exact .whole hj oP m1 m2 m4
where
 aqW {b b1 b2:Nat} {e e1 e2:TypeId} {es l l2:List V} {q:Path} (h:At P w b e es q b1 e1 l) (h2:At P w b e es q b2 e2 l2):b2=b1:=(h.fun h2).1
theorem agy(S:aK P w I β hp B M w0){α:Type}{l:LS}{x:V}{h:Hand}{k:Hand→Rd α}{r:α}{rd:List Nat}{v:Value}(hr:(Qp P l x h k).run C hp=some (r,rd))(hv:ah P w I β hp v x):
  ∃h' jn d u,(k h').run C hp=some (r,jn)∧Ext P w I β hp h h' d u∧d.length=l.size∧
   ∀(I':Nat→Nat→Prop) (μ:Nat→Option Nat) (hp0:Nat→Option ag),(∀b j,I b j→I' b j)→(∀q∈u,∀b j,AW P w β hp q.1 b j→I' b j)→∀ρ m,ρ=h'.pl++m→Ki P w β hp ρ μ hp0→∀rest,ah P w I' μ hp0 v (nE l (d++rest)):=by
 have plain:∀{x':V} {kQ:List Nat},(k {h with ds:=h.ds++[x']}).run C hp=some (r,kQ)→l.size=1→(∀I' μ hp0 rest,ah P w I' μ hp0 v (nE l ([x']++rest)))→∃h' jn d u,(k h').run C hp=some (r,jn)∧Ext P w I β hp h h' d u∧d.length=l.size∧
   ∀(I':Nat→Nat→Prop) (μ:Nat→Option Nat) (hp0:Nat→Option ag),(∀b j,I b j→I' b j)→(∀q∈u,∀b j,AW P w β hp q.1 b j→I' b j)→∀ρ m,ρ=h'.pl++m→Ki P w β hp ρ μ hp0→∀rest,ah P w I' μ hp0 v (nE l (d++rest)):=
  fun hk hs hx=>⟨_,_,_,_,hk,Ext.leaf h _,hs.symm,fun I' μ hp0 _ _ _ _ _ _ rest=>hx I' μ hp0 rest⟩
 have Dr:∀{kQ:List Nat},(k h).run C hp=some (r,kQ)→l.size=0→(∀I' μ hp0 rest,ah P w I' μ hp0 v (nE l rest))→∃h' jn d u,(k h').run C hp=some (r,jn)∧Ext P w I β hp h h' d u∧d.length=l.size∧
   ∀(I':Nat→Nat→Prop) (μ:Nat→Option Nat) (hp0:Nat→Option ag),(∀b j,I b j→I' b j)→(∀q∈u,∀b j,AW P w β hp q.1 b j→I' b j)→∀ρ m,ρ=h'.pl++m→Ki P w β hp ρ μ hp0→∀rest,ah P w I' μ hp0 v (nE l (d++rest)):=
  fun hk hs hx=>⟨_,_,_,_,hk,Ext.refl h,by simp[hs],fun I' μ hp0 _ _ _ _ _ _ rest=>hx I' μ hp0 rest⟩
 unfold Qp at hr;cases l with
 |yV=>exact Dr hr rfl fun _ _ _ _=> .undef
 |int kd=>
  cases x<;>simp only at hr<;>first|(cases hr;done)|skip
  obtain⟨h1,h2⟩:=aW hr;simp only[il]at h1;subst h1;obtain rfl:=hv.jP;exact plain h2 rfl fun _ _ _ _=> .int
 |bool=>
  cases x<;>simp only at hr<;>first|(cases hr;done)|skip
  obtain rfl:=hv.qD;exact plain hr rfl fun _ _ _ _=> .bool
 |str=>
  cases x<;>simp only at hr<;>first|(cases hr;done)|skip
  obtain⟨s,rfl,hl⟩:=hv.tT;exact plain hr rfl fun _ _ _ _=> .str hl
 |nilS e=>
  cases x<;>simp only at hr<;>first|(cases hr;done)|skip
  obtain⟨h1,h2⟩:=aW hr;cases hv with
  |nilS=>exact Dr h2 rfl fun _ _ _ _=> .nilS
 |gX=>
  cases x<;>simp only at hr<;>first|(cases hr;done)|skip
  cases hv with
  |gX=>exact Dr hr rfl fun _ _ _ _=> .gX
 |row e j cs=>
  cases x<;>simp only at hr<;>first|(cases hr;done)|skip
  rename_i e' id ver path;obtain⟨e0,es,vers,l0,ae,p1,p2,p3,hr⟩:=tQ hr;obtain⟨h1,h2⟩:=aW hr;simp only[bc,bU,fG]at h1;obtain⟨rfl,Bi,hp3⟩:=h1;have:=Bh Bi;subst this;obtain⟨po,a,b,c⟩:=DC (P:=P) (w:=w) (I:=I) (β:=β) h2 (path.map fun p=>iK p.1);refine⟨_,_,path.map fun p=>iK p.1,[],a,c,by simp[LS.size],fun I' μ hp0 i1 i2 ρ m fe dh rest=> ?_⟩;obtain⟨blk,k1,k2⟩:=dh j _ (by rw[fe];exact vD b);obtain⟨bb,q,i,cc,t,l,rfl,hb,ht,hc⟩:=hv.WB ae p1 p2 p3;have qC:blk= .nest e0 es [0,0,0]∧μ j=β id:=by
   generalize μ j=o at k2;cases k2 with
   |var h=>grind
   |arr h=>grind
   |map h=>grind
   |nest h=>grind
  obtain⟨rfl,oP⟩:=qC;simp only[nE,Rb];have hq:q.length<3:=by grind
  refine .row k1 (oP.trans hb) (by omega) ?_ ht hc
  match q.length,hq with
  |0,_=>rfl
  |1,_=>rfl
  |2,_=>rfl
 |ez j cs c=>cases hr
 |Jf k n=>cases hr
 |P9 b=>cases hr
 |fZ t=>
  cases x<;>simp only at hr<;>first|(cases hr;done)|skip
  obtain⟨h1,h2⟩:=aW hr;cases hv with
  |fZ=>exact Dr h2 rfl fun _ _ _ _=> .fZ
 |dt t j=>
  cases x<;>simp only at hr<;>first|(cases hr;done)|skip
  rename_i t' id;obtain⟨h1,h2⟩:=aW hr;rw[bU]at h1;subst h1;obtain⟨po,a,b,c⟩:=DC (P:=P) (w:=w) (I:=I) (β:=β) h2 [];refine⟨_,_,[],[],a,by grind,rfl,fun I' μ hp0 i1 i2 ρ m fe dh rest=> ?_⟩;obtain⟨blk,k1,k2⟩:=dh j _ (by rw[fe];exact vD b);exact aqS hv k2 k1 rfl
 |list e=>
  obtain⟨⟨y,u⟩,l1,l2,h1,h2⟩:=qB hr;cases y<;>simp only at h2<;>first|(cases h2;done)|skip
  rename_i e' es;obtain⟨h3,h4⟩:=aW h2;rw[bU]at h3;subst h3;obtain⟨p1,p2⟩:=QG S.h.rel h1 hv;exact⟨_,_,[.list e es],u,h4,⟨rfl,rfl,fun q hq=> .inl (p1 q hq),⟨[],by simp⟩,id⟩,rfl,fun I' μ hp0 i1 i2 _ _ _ _ rest=> .list (p2 I' i1 i2)⟩
 |whole e j=>
  cases x<;>simp only at hr<;>first|(cases hr;done)|skip
  ·rename_i e' id;obtain⟨h1,h2⟩:=aW hr;rw[bU]at h1;subst h1;obtain⟨po,a,b,c⟩:=DC (P:=P) (w:=w) (I:=I) (β:=β) h2 [];refine⟨_,_,[],[],a,by grind,rfl,fun I' μ hp0 i1 i2 ρ m fe dh rest=> ?_⟩;obtain⟨blk,k1,k2⟩:=dh j _ (by rw[fe];exact vD b);exact aqR hv k2 k1 rfl
  ·rename_i e' id ver path;obtain⟨h1,h2⟩:=aW hr;rw[bU]at h1;subst h1;obtain⟨po,a,b,c⟩:=DC (P:=P) (w:=w) (I:=I) (β:=β) h2 [];refine⟨_,_,[],[],a,by grind,rfl,fun I' μ hp0 i1 i2 ρ m fe dh rest=> ?_⟩;obtain⟨blk,k1,k2⟩:=dh j _ (by rw[fe];exact vD b);exact aqV S hv k2 k1 rfl
 |sub e j=>
  cases x<;>simp only at hr<;>first|(cases hr;done)|skip
  rename_i e' id o n;obtain⟨h1,h2⟩:=aW hr;rw[bU]at h1;subst h1;obtain⟨po,a,b,c⟩:=DC (P:=P) (w:=w) (I:=I) (β:=β) h2 [iK o,iK n];refine⟨_,_,[iK o,iK n],[],a,c,rfl,fun I' μ hp0 i1 i2 ρ m fe dh rest=> ?_⟩;obtain⟨blk,k1,k2⟩:=dh j _ (by rw[fe];exact vD b);simpa[nE,V.nth]using aqT (I':=I') hv k2 k1 rfl
 |ptr j=>
  cases x<;>simp only at hr<;>first|(cases hr;done)|skip
  rename_i id i c;obtain⟨po,a,b,c'⟩:=DC (P:=P) (w:=w) (I:=I) (β:=β) hr [iK i,iK c];refine⟨_,_,[iK i,iK c],[],a,c',rfl,fun I' μ hp0 i1 i2 ρ m fe dh rest=> ?_⟩;obtain⟨blk,k1,k2⟩:=dh j _ (by rw[fe];exact vD b);simpa[nE,V.nth]using agx (I':=I') hv k2 k1 rfl
 |aF j i c=>
  cases x<;>simp only at hr<;>first|(cases hr;done)|skip
  rename_i id i' c';obtain⟨h1,h2⟩:=aW hr;simp only[bc,bU]at h1;obtain⟨rfl,rfl⟩:=h1;obtain⟨po,a,b,c'⟩:=DC (P:=P) (w:=w) (I:=I) (β:=β) h2 [];refine⟨_,_,[],[],a,by grind,rfl,fun I' μ hp0 i1 i2 ρ m fe dh rest=> ?_⟩;obtain⟨blk,k1,k2⟩:=dh j _ (by rw[fe];exact vD b);exact agx hv k2 k1 rfl
end
section
variable {P:Program}{A:dM}{w w':World}{I I' I2:Nat→Nat→Prop}{μ β β':Nat→Option Nat}{hp hp' hp0:Nat→Option ag}{C:af}{B:Nat}{M:Nat→Prop}{w0:Start}
def rP(P:Program)(w:World)(I:Nat→Nat→Prop)(β:Nat→Option Nat)(hp:Nat→Option ag)(h':Hand)(u:List (Nat×ag))(K:(Nat→Nat→Prop)→(Nat→Option Nat)→(Nat→Option ag)→Prop):Prop:=
 ∀(I':Nat→Nat→Prop) (μ:Nat→Option Nat) (hp0:Nat→Option ag),(∀b j,I b j→I' b j)→(∀q∈u,∀b j,AW P w β hp q.1 b j→I' b j)→∀ρ m,ρ=h'.pl++m→Ki P w β hp ρ μ hp0→K I' μ hp0
theorem rP.later{h h':Hand}{d:List V}{u u':List (Nat×ag)}{K:(Nat→Nat→Prop)→(Nat→Option Nat)→(Nat→Option ag)→Prop}(t:rP P w I β hp h u K)(e:Ext P w I β hp h h' d u'):rP P w I β hp h' (u++u') K:=by
 obtain⟨m1,e1⟩:=e.pl;exact fun I' μ hp0 i1 i2 ρ m fe dh=>t I' μ hp0 i1 (fun q hq=>i2 q (fQ.2 (.inl hq))) ρ (m1++m) (by grind) dh
theorem rP.more{h:Hand}{u u':List (Nat×ag)}{K:(Nat→Nat→Prop)→(Nat→Option Nat)→(Nat→Option ag)→Prop}(t:rP P w I β hp h u K):rP P w I β hp h (u'++u) K:=
 fun I' μ hp0 i1 i2 ρ m fe dh=>t I' μ hp0 i1 (fun q hq=>i2 q (fQ.2 (.inr hq))) ρ m fe dh
theorem Kk(S:aK P w I β hp B M w0){α:Type}:∀{ls:List LS} {xs:List V} {h:Hand} {k:Hand→Rd α} {r:α} {rd:List Nat} {vs:List Value},(wW P ls xs h k).run C hp=some (r,rd)→vs.length=xs.length→
  (∀(j:Nat) v x,vs[j]? =some v→xs[j]? =some x→ah P w I β hp v x)→
  ∃h' jn d u,(k h').run C hp=some (r,jn)∧Ext P w I β hp h h' d u∧d.length=o9 ls∧ls.length=xs.length∧
   rP P w I β hp h' u fun I' μ hp0=> ∀rest,(j7 ls (d++rest)).length=xs.length∧∀(j:Nat) v y,vs[j]? =some v→(j7 ls (d++rest))[j]? =some y→ah P w I' μ hp0 v y
 | [],[],h,k,r,rd,vs,hr,hl,hv=>⟨h,rd,[],[],hr,Ext.refl h,rfl,rfl,fun I' μ hp0 _ _ _ _ _ _ rest=>⟨rfl,fun j v y _ hy=>by grind⟩⟩
 | [],_::_,h,k,r,rd,vs,hr,hl,hv=>by cases hr
 |_::_,[],h,k,r,rd,vs,hr,hl,hv=>by cases hr
 |l::ls,x::xs,h,k,r,rd,vs,hr,hl,hv=>by
  cases vs with
  |nil=>simp at hl
  |cons v vs=>
   simp only[wW]at hr;obtain⟨h1,kQ,d1,u1,a1,a2,a3,a4⟩:=agy S hr (hv 0 v x rfl rfl);obtain⟨h2,Bj,d2,u2,b1,b2,b3,b5,b4⟩:=Kk S a1 (by grind) (vs:=vs) (fun j v x hj hx=>hv (j+1) v x (by grind) (by grind));have a4':rP P w I β hp h1 u1 fun I' μ hp0=> ∀rest,ah P w I' μ hp0 v (nE l (d1++rest)):=a4;refine⟨h2,Bj,d1++d2,u1++u2,b1,a2.trans b2,by simp only[kG,o9];omega,by simp[b5],fun I' μ hp0 i1 i2 ρ m fe dh rest=> ?_⟩;have k1:=(a4'.later b2) I' μ hp0 i1 i2 ρ m fe dh (d2++rest);obtain⟨k2,k3⟩:=b4.more I' μ hp0 i1 i2 ρ m fe dh rest;simp only[j7];grind
theorem aqX{t:TypeId}{v:Value}{y:V}(hv:ah P w I β hp v y)(h:gg P t y=true):Plain P w I v y:=by
 cases y with
 |int k n=>exact hv.jP
 |bool b=>exact hv.qD
 |str s=>obtain⟨s',rfl,hs⟩:=hv.tT;exact⟨s',rfl,hs⟩
 |list e es=>cases hv with
  |list hp'=>exact hp'
 |_=>unfold gg at h;grind
theorem agz:∀{ts:List TypeId} {ls:List LS},CP P ts ls=true→ts.length=ls.length∧∀(ds:List V) (j:Nat) t y,ts[j]? =some t→(j7 ls ds)[j]? =some y→gg P t y=true
 | [],[],_=>⟨rfl,fun ds j t y h=>by simp at h⟩
 | [],_::_,h=>by cases h
 |_::_,[],h=>by cases h
 |t::ts,l::ls,h=>by
  simp only[CP,bc]at h;obtain⟨h1,h2⟩:=agz h.2;refine⟨by simp[h1],fun ds j t' y ht hy=> ?_⟩;cases j with
  |succ j=>exact h2 _ j t' y (by grind) (by simpa[j7]using hy)
  |zero=>
   simp[j7]at ht hy;subst ht;subst hy;have h:=h.1;unfold gg;split at h<;>simp_all [nE]
theorem aqY(S:aK P w I β hp B M w0){α:Type}{s:VS}{x:V}{h:Hand}{k:Hand→Rd α}{r:α}{rd:List Nat}{v:Value}(hr:(FH P s x h k).run C hp=some (r,rd))(hv:ah P w I β hp v x):
  ∃h' jn d u,(k h').run C hp=some (r,jn)∧Ext P w I β hp h h' d u∧d.length=s.size∧
   rP P w I β hp h' u fun I' μ hp0=> ∀rest,ah P w I' μ hp0 v (pc s (d++rest)):=by
 cases s with
 |one l=>
  simp only[FH]at hr;obtain⟨h1,kQ,d1,u1,a1,a2,a3,a4⟩:=agy S hr hv;exact⟨h1,kQ,d1,u1,a1,a2,a3,a4⟩
 |agg ls=>
  cases x<;>simp only[FH]at hr<;>first|(cases hr;done)|skip
  rename_i xs;obtain⟨cs,rfl,e1,e2⟩:=hv.qE;obtain⟨h1,kQ,d1,u1,a1,a2,a3,a5,a4⟩:=Kk S hr (vs:=cs.toList) (by omega) (fun j v x hj hx=>e2 j v x (by grind) hx);refine⟨h1,kQ,d1,u1,a1,a2,a3,fun I' μ hp0 i1 i2 ρ m fe dh rest=> ?_⟩;obtain⟨k1,k2⟩:=a4 I' μ hp0 i1 i2 ρ m fe dh rest;exact .agg (by omega) fun j v y hj hy=>k2 j v y (by grind) hy
 |bN ls=>cases x<;>cases hr
 |pref ts ls=>
  have cells:∀{xs:List V} {vs:List Value} {h0:Hand} {rd0:List Nat},(wW P ls xs h0 k).run C hp=some (r,rd0)→vs.length=xs.length→CP P ts ls=true→(∀(j:Nat) v x,vs[j]? =some v→xs[j]? =some x→ah P w I β hp v x)→
    ∃h' jn d u,(k h').run C hp=some (r,jn)∧Ext P w I β hp h0 h' d u∧d.length=o9 ls∧ls.length=xs.length∧rP P w I β hp h' u fun I' μ hp0=> ∀rest,(j7 ls (d++rest)).length=xs.length∧ts.length=xs.length∧
     ∀(j:Nat) t v y,vs[j]? =some v→ts[j]? =some t→(j7 ls (d++rest))[j]? =some y→Pure P w I' t v y:=by
   intro xs vs h0 rd0 hr0 hl fl kb;obtain⟨h1,kQ,d1,u1,a1,a2,a3,a5,a4⟩:=Kk S hr0 hl kb;obtain⟨t1,t2⟩:=agz fl;refine⟨h1,kQ,d1,u1,a1,a2,a3,a5,fun I' μ hp0 i1 i2 ρ m fe dh rest=> ?_⟩;obtain⟨k1,k2⟩:=a4 I' μ hp0 i1 i2 ρ m fe dh rest;exact⟨k1,t1.trans a5,fun j t v y hj ht hy=>(aqX (k2 j v y hj hy) (t2 _ j t y ht hy)).pure (t2 _ j t y ht hy)⟩
  cases x<;>simp only[FH]at hr<;>first|(cases hr;done)|skip
  ·rename_i id i c;obtain⟨l0,vE⟩:=run_get hr;clear hr;cases ae:hp id with
   |none=>rw[ae]at vE;cases vE
   |some blk=>
    rw[ae]at vE;cases blk<;>simp only at vE<;>first|(cases vE;done)|skip
    ·rename_i T cs;obtain⟨hc,pq⟩:=aW vE;clear vE;simp only[bc,bU,fG]at hc;obtain⟨rfl,fl,hle⟩:=hc;obtain⟨b,hb,rfl⟩:=hv.oL ae (by simp);have dz:=S.h.rel id _ ae;rw[hb]at dz;cases dz with
     |@var _ _ Ca _ aJ hh hs hI hx _=>
     cases aJ;obtain⟨h1,kQ,d1,u1,a1,a2,a3,a5,a4⟩:=cells pq (vs:=(Ca.toList.drop c).take ls.length) (by simp;omega) fl (fun j v x hj eo=>by
      grind)
     refine⟨h1,kQ,d1,(id,.var T cs)::u1,a1,⟨a2.ds,by rw[a2.upd];simp,fun q hq=> ?_,a2.pl,a2.nodup⟩,a3,fun I' μ hp0 i1 i2 ρ m fe dh rest=> ?_⟩
     ·rcases kC.1 hq with rfl|hq
      ·exact .inr ⟨T,cs,rfl,ae⟩
      ·exact a2.Kj q hq
     ·obtain⟨k1,k2,k3⟩:=a4 I' μ hp0 i1 (fun q hq=>i2 q (j5 _ hq)) ρ m fe dh rest;have hn:(j7 ls (d1++rest)).length=ls.length:=k1.trans a5.symm;simp only[pc,ag.sz,Nat.zero_mul,cL];refine .pref (k2.trans k1.symm) (fun j hj=>i2 _ (CE ..) b (c+j) ⟨_,ae,.var hb (by omega)⟩) (fun j t y ht hy=> ?_);have hj:=(cP.1 hy).1;have Bi:c+j<Ca.size:=by omega
      refine⟨Ca[c+j],by rw[cell?_cells hh];grind,k3 j t _ y ?_ ht hy⟩;grind
    ·rename_i e es fz;obtain⟨hc,pq⟩:=aW vE;obtain⟨x0,p5,pq⟩:=oK pq;clear vE;simp only[bc,fG]at hc;obtain⟨aD,fl,hle⟩:=hc;obtain⟨b,hb,rfl⟩:=hv.oL ae (by simp);have dz:=S.h.rel id _ ae;rw[hb]at dz;cases dz with
     |fT aJ=>cases aJ
     |@arr _ _ _ _ _ Ca hL _ aJ hh hs hf jm hx=>
     cases aJ;have gj:(parts P e x0).length=P.cellsOf e:=by rw[A4];exact gP aD
     have pg:i<es.length:=(cP.1 p5).1;have hbound:i*P.cellsOf e+P.cellsOf e≤Ca.size:=by
      have:(i+1)*P.cellsOf e≤es.length*P.cellsOf e:=fg _ pg;grind
     have iP:∀(j:Nat) y,(parts P e x0)[j]? =some y→∃v t',Ca[i*P.cellsOf e+j]? =some v∧Pure P w I t' v y:=fun j y hy=>by
      obtain⟨v,t',_,q1,q2⟩:=JM hx aD p5 hy;exact⟨v,t',q1,q2⟩
     obtain⟨h1,kQ,d1,u1,a1,a2,a3,a5,a4⟩:=cells pq (vs:=(Ca.toList.drop (i*P.cellsOf e+c)).take ls.length) (by simp;omega) fl (fun j v x hj eo=>by
      have eQ:j<ls.length:=by grind
      rw[mL eQ,uY]at hj eo;obtain⟨v',t',q1,q2⟩:=iP _ _ eo;have:v'=v:=by grind
      exact this▸ah.vk q2)
     refine⟨h1,kQ,d1,(id,.arr e es true)::u1,a1,⟨a2.ds,by rw[a2.upd];simp,fun q hq=> ?_,a2.pl,a2.nodup⟩,a3,fun I' μ hp0 i1 i2 ρ m fe dh rest=> ?_⟩
     ·rcases kC.1 hq with rfl|hq
      ·exact .inl ⟨e,es,rfl,.inl ⟨fz,ae⟩⟩
      ·exact a2.Kj q hq
     ·obtain⟨k1,k2,k3⟩:=a4 I' μ hp0 i1 (fun q hq=>i2 q (j5 _ hq)) ρ m fe dh rest;have hn:(j7 ls (d1++rest)).length=ls.length:=k1.trans a5.symm;simp only[pc,ag.sz];refine .pref (k2.trans k1.symm) (fun j hj=>i2 _ (CE ..) b (i*P.cellsOf e+c+j) ⟨_,ae,.arr hb (by
       have:i*P.cellsOf e+P.cellsOf e≤es.length*P.cellsOf e:=by rw[←sy];exact fg _ pg
       omega)⟩) (fun j t y ht hy=> ?_)
      have hj:=(cP.1 hy).1;have Bi:i*P.cellsOf e+c+j<Ca.size:=by omega
      refine⟨Ca[i*P.cellsOf e+c+j],by rw[cell?_cells hh];grind,k3 j t _ y ?_ ht hy⟩;grind
  ·rename_i wV cs;obtain⟨hc,pq⟩:=aW hr;clear hr;simp only[bc,fG]at hc;obtain⟨hts,fl,hle⟩:=hc;have hts:=Bh hts;obtain⟨b,o,rfl,q1,q2,q3⟩:=hv.JK;have hg:∀j,j<cs.length→∃v,w.cell? ⟨b,o+j,none⟩=some v∧∃t,wV[j]? =some t∧∀x,cs[j]? =some x→Pure P w I t v x:=fun j hj=>by
    simp_all
   let vs:List Value:=(List.range ls.length).map fun j=>(w.cell? ⟨b,o+j,none⟩).getD undef
   have QO:∀(j:Nat),j<ls.length→vs[j]? =some ((w.cell? ⟨b,o+j,none⟩).getD undef):=fun j hj=>by grind
   obtain⟨h1,kQ,d1,u1,a1,a2,a3,a5,a4⟩:=cells pq (vs:=vs) (by grind) fl (fun j v x hj eo=>by
    have eQ:j<ls.length:=by grind
    rw[mL eQ]at eo;obtain⟨v',v1,t,_,v2⟩:=hg j (by omega);rw[QO j eQ,v1]at hj;cases hj;exact .vk (v2 x eo))
   refine⟨h1,kQ,d1,u1,a1,a2,a3,fun I' μ hp0 i1 i2 ρ m fe dh rest=> ?_⟩;obtain⟨k1,k2,k3⟩:=a4 I' μ hp0 i1 i2 ρ m fe dh rest;have hn:(j7 ls (d1++rest)).length=ls.length:=k1.trans a5.symm;refine .pref (k2.trans k1.symm) (fun j hj=>i1 _ _ (q2 j (by omega))) (fun j t y ht hy=> ?_);grind
 |fn f a b=>
  cases x<;>simp only[FH]at hr<;>first|(cases hr;done)|skip
  rename_i f' xs ys;obtain⟨hc,pq⟩:=aW hr;clear hr;rw[bU]at hc;subst hc;cases hv with
  |@fn _ fs cs _ _ q1 q2 q3 q4=>
   obtain⟨h1,kQ,d1,u1,a1,a2,a3,a5,a4⟩:=Kk S pq (vs:=fs.toList) (by omega) (fun j v x hj hx=>q2 j v x (by grind) hx);obtain⟨h2,Bj,d2,u2,b1,b2,b3,b5,b4⟩:=Kk S a1 (vs:=cs.toList) (by omega) (fun j v x hj hx=>q4 j v x (by grind) hx);refine⟨h2,Bj,d1++d2,u1++u2,b1,a2.trans b2,by simp only[kG,VS.size];omega,fun I' μ hp0 i1 i2 ρ m fe dh rest=> ?_⟩;obtain⟨k1,k2⟩:=(a4.later b2) I' μ hp0 i1 i2 ρ m fe dh (d2++rest);obtain⟨k3,k4⟩:=b4.more I' μ hp0 i1 i2 ρ m fe dh rest;simp only[pc];rw[show(d1++d2++rest).drop (o9 a)=d2++rest by grind,kH];exact .fn (by omega) (fun j v y hj hy=>k2 j v y (by grind) hy) (by omega) (fun j v y hj hy=>k4 j v y (by grind) hy)
theorem XQ(S:aK P w I β hp B M w0){α:Type}:∀{ls:List VS} {xs:List V} {h:Hand} {k:Hand→Rd α} {r:α} {rd:List Nat} {vs:List Value},(Jo P ls xs h k).run C hp=some (r,rd)→vs.length=xs.length→
  (∀(j:Nat) v x,vs[j]? =some v→xs[j]? =some x→ah P w I β hp v x)→
  ∃h' jn d u,(k h').run C hp=some (r,jn)∧Ext P w I β hp h h' d u∧d.length=AL ls∧ls.length=xs.length∧
   rP P w I β hp h' u fun I' μ hp0=> ∀rest,(lT ls (d++rest)).length=xs.length∧∀(j:Nat) v y,vs[j]? =some v→(lT ls (d++rest))[j]? =some y→ah P w I' μ hp0 v y
 | [],[],h,k,r,rd,vs,hr,hl,hv=>⟨h,rd,[],[],hr,Ext.refl h,rfl,rfl,fun I' μ hp0 _ _ _ _ _ _ rest=>⟨rfl,fun j v y _ hy=>by grind⟩⟩
 | [],_::_,h,k,r,rd,vs,hr,hl,hv=>by cases hr
 |_::_,[],h,k,r,rd,vs,hr,hl,hv=>by cases hr
 |l::ls,x::xs,h,k,r,rd,vs,hr,hl,hv=>by
  cases vs with
  |nil=>simp at hl
  |cons v vs=>
   simp only[Jo]at hr;obtain⟨h1,kQ,d1,u1,a1,a2,a3,a4⟩:=aqY S hr (hv 0 v x rfl rfl);obtain⟨h2,Bj,d2,u2,b1,b2,b3,b5,b4⟩:=XQ S a1 (by grind) (vs:=vs) (fun j v x hj hx=>hv (j+1) v x (by grind) (by grind));refine⟨h2,Bj,d1++d2,u1++u2,b1,a2.trans b2,by simp only[kG,AL];omega,by simp[b5],fun I' μ hp0 i1 i2 ρ m fe dh rest=> ?_⟩;have k1:=(a4.later b2) I' μ hp0 i1 i2 ρ m fe dh (d2++rest);obtain⟨k2,k3⟩:=b4.more I' μ hp0 i1 i2 ρ m fe dh rest;simp only[lT];grind
def Rf:List BS→Nat
 | []=>0
 |b::l=>b.size+Rf l
theorem agA:∀{b:Nat} {e e':TypeId} {es:List V} {v:V},(∀q b' e' m,At P w b e es q b' e' m→j9 P w I b' e' m)→∀(path:Path),pQ P e path=some e'→ec P e es path=some v→0<v.toList.length→
  ∃b1,At P w b e es path b1 e' v.toList
 |b,e,e',es,v,ed,[],ht,hv,hl=>by
  simp only[pQ,gW]at ht;simp only[ec,gW]at hv;subst ht;subst hv;exact⟨b,.here⟩
 |b,e,e',es,v,ed,(i,c)::q,ht,hv,hl=>by
  simp only[pQ]at ht;simp only[ec]at hv;obtain⟨x,hx,hv⟩:=bind_some hv;cases QX:(pQ.Jg P e)[c]? with
  |none=>grind
  |some t=>
   rw[QX]at ht;simp only at ht;have XR:(bp P e)[c]? =some t:=QX;cases hu:P.underlying t with
   |none=>grind
   |some d=>
    rw[hu]at ht;cases d<;>simp only at ht<;>first|(cases ht;done)|skip
    rename_i e1;rw[tR XR]at hv;have hR:=ed _ _ _ _ .here;obtain⟨Ca,_,c1,_,c2,c3⟩:=hR.cells;have Db:c<P.cellsOf e:=by rw[←gP hR.ok];grind
    obtain⟨u,d1,d2⟩:=c3 i c x t hx XR Db;rw[d2.A1]at hv;generalize hy:cW P e x c=y at d2 hv;cases d2 with
    |iO a p=>unfold fj at a;grind
    |@emp e2 a sO=>
     rw[hu]at sO;cases sO;simp only at hv;cases q with
     |nil=>simp only[ec,gW]at hv;subst hv;simp[V.toList]at hl
     |cons a q=>simp[ec]at hv
    |@row e2 cK b2 cap sO oJ b7 cS zg=>
     rw[hu]at sO;cases sO;simp only at hv;have zf:∀{q b' e' ba},At P w b2 e1 cK q b' e' ba→At P w b e es ((i,c)::q) b' e' ba:=fun h=> .step c1 hx XR hu hy oJ d1 h;obtain⟨b1,qH⟩:=agA (fun q b' e' m h=>ed _ _ _ _ (zf h)) q ht hv hl;grind
def zt(P:Program)(I:Nat→Nat→Prop)(blk:ag)(b:Nat):Prop:= ∀j,I b j→∃e es,blk= .arr e es true∧j<es.length*P.cellsOf e
theorem zt.no{blk:ag}{b:Nat}(h:zt P I blk b)(hn:∀e es,blk≠ .arr e es true)(j:Nat):¬I b j:=fun hi=>by
 obtain⟨e,es,h1,_⟩:=h j hi;exact hn e es h1
theorem agB(S:aK P w I β hp B M w0){α:Type}:∀{bs:List BS} {j:Nat} {h:Hand} {k:Hand→Rd α} {r:α} {rd:List Nat},(y6 P bs j h k).run C hp=some (r,rd)→
  ∃h' jn d u,(k h').run C hp=some (r,jn)∧Ext P w I β hp h h' d u∧d.length=Rf bs∧
   ∀rest,(jC bs (d++rest)).length=bs.length∧∃o:Nat→Option Nat,
    (∀(i:Nat) blk,(jC bs (d++rest))[i]? =some blk→∃p,iM h'.pl (j+i)=some p∧iz P w β hp p (o i) blk)∧
    rP P w I β hp h' u fun I' μ hp0=> ∀(i:Nat) blk,(jC bs (d++rest))[i]? =some blk→(∀b,bV P w (o i) blk b→zt P I' blk b)→fS P w I' μ hp0 (o i) blk
 | [],j,h,k,r,rd,hr=>⟨h,rd,[],[],hr,Ext.refl h,rfl,fun rest=>⟨rfl,fun _=>none,fun i blk hb=>by simp[jC]at hb,fun I' μ hp0 _ _ _ _ _ _ i blk hb=>by simp[jC]at hb⟩⟩
 |b::bs,j,h,k,r,rd,hr=>by
  simp only[y6]at hr;have fin:∀{h1:Hand} {kQ:List Nat} {d1:List V} {u1:List (Nat×ag)} {o1:Option Nat} {p:Place},(y6 P bs (j+1) h1 k).run C hp=some (r,kQ)→Ext P w I β hp h h1 d1 u1→d1.length=b.size→iM h.pl j=some p→
    (∀rest,iz P w β hp p o1 (j8 b (d1++rest)))→(∀rest,rP P w I β hp h1 u1 fun I' μ hp0=>(∀bb,bV P w o1 (j8 b (d1++rest)) bb→zt P I' (j8 b (d1++rest)) bb)→fS P w I' μ hp0 o1 (j8 b (d1++rest)))→
    ∃h' jn d u,(k h').run C hp=some (r,jn)∧Ext P w I β hp h h' d u∧d.length=Rf (b::bs)∧
     ∀rest,(jC (b::bs) (d++rest)).length=(b::bs).length∧∃o:Nat→Option Nat,
      (∀(i:Nat) blk,(jC (b::bs) (d++rest))[i]? =some blk→∃p,iM h'.pl (j+i)=some p∧iz P w β hp p (o i) blk)∧
      rP P w I β hp h' u fun I' μ hp0=> ∀(i:Nat) blk,(jC (b::bs) (d++rest))[i]? =some blk→(∀b,bV P w (o i) blk b→zt P I' blk b)→fS P w I' μ hp0 (o i) blk:=by
   intro h1 kQ d1 u1 o1 p hk he hd cE hl ht;obtain⟨h2,Bj,d2,u2,b1,b2,b3,b4⟩:=agB S hk;refine⟨h2,Bj,d1++d2,u1++u2,b1,he.trans b2,by simp only[kG,Rf];omega,fun rest=> ?_⟩;obtain⟨c1,o,c2,c3⟩:=b4 rest;simp only[jC];rw[show(d1++d2++rest).drop b.size=d2++rest by grind,kH];refine⟨by simp[c1],fun i=>match i with|0=>o1|i+1=>o i,fun i blk hb=> ?_,fun I' μ hp0 i1 i2 ρ m fe dh i blk hb dU=> ?_⟩
   ·cases i with
    |zero=>
     simp at hb;subst hb;exact⟨p,b2.look (he.look cE),hl _⟩
    |succ i=>
     grind
   ·cases i with
    |zero=>
     simp at hb;subst hb;exact((ht _).later b2) I' μ hp0 i1 i2 ρ m fe dh dU
    |succ i=>exact c3.more I' μ hp0 i1 i2 ρ m fe dh i blk (by grind) dU
  cases cE:iM h.pl j with
  |none=>rw[cE]at hr;cases hr
  |some p=>
   rw[cE]at hr;cases p with
   |blk id=>
    obtain⟨l1,hr⟩:=run_get hr;cases ae:hp id with
    |none=>rw[ae]at hr;cases hr
    |some blk=>
     rw[ae]at hr;cases blk with
     |dead=>cases hr
     |out _ _ _ _=>cases hr
     |var T0 cs=>
      cases b<;>simp only at hr<;>first|(cases hr;done)|skip
      rename_i T1 ss;obtain⟨hT,vE⟩:=aW hr;clear hr;rw[bU]at hT;subst hT;have dz:=S.h.rel id _ ae;generalize ho:β id=o at dz;cases dz with
      |@var _ bb Ca T hb hh hs hI hx my=>
       obtain⟨h1,kQ,d1,u1,a1,a2,a3,a5,a4⟩:=XQ S vE (vs:=Ca.toList) (by omega) (fun j v x hj eo=>hx j v x (by grind) eo);refine fin (o1:=β id) a1 a2 a3 cE (fun rest=> .var ae) fun rest I' μ hp0 i1 i2 ρ m fe dh dU=> ?_;obtain⟨k1,k2⟩:=a4 I' μ hp0 i1 i2 ρ m fe dh rest;exact .var (ho.trans hb) hh (by omega) ((dU _ (.root (by simp[j8]) (ho.trans hb))).no (by simp[j8])) (fun i v y hi hy=>k2 i v y (by grind) hy) my
     |arr e' es fz=>
      cases b with
      |arr e rE=>
       obtain⟨hc,pq⟩:=aW hr;clear hr;simp only[bc,bU]at hc;obtain⟨rfl,gh⟩:=hc;obtain rfl:rE=fz:=by cases fz<;>cases rE<;>first|rfl|cases gh
       refine fin (d1:=[.list e es]) (o1:=β id) pq (Ext.leaf h _) rfl cE (fun rest=>iz.arr ae) fun rest I' μ hp0 i1 i2 ρ m fe dh dU=> ?_;replace dU:∀bb,bV P w (β id) (.arr e es rE) bb→zt P I' (.arr e es rE) bb:=dU;change fS P w I' μ hp0 (β id) (.arr e es rE);have dz:=S.h.rel id _ ae;generalize ho:β id=o at dz dU⊢;cases dz with
       |fT hb=>exact .fT hb
       |arr a0 a1 a2 a3 a4 a5 a6 a7=>
        have hn:=dU _ (.root (by simp) a2);refine .arr a0 a1 a2 a3 a4 (fun _ j hi=> ?_) (fun hz=>hn.no (by simp[hz])) fun i j x t' y1 y2 y3=> ?_
        ·obtain⟨e',ba,h1,h2⟩:=hn j hi;cases h1;exact h2
        ·obtain⟨v,z1,z2⟩:=a7 i j x t' y1 y2 y3;exact⟨v,z1,z2.mono i1 fun _ _ _=>rfl⟩
      |_=>cases hr
     |nest e' es vers=>
      cases b with
      |nest e=>
       obtain⟨hc,pq⟩:=aW hr;clear hr;rw[bU]at hc;subst hc;refine fin (d1:=[.list e es]) (o1:=β id) pq (Ext.leaf h _) rfl cE (fun rest=>iz.nest ae) fun rest I' μ hp0 i1 i2 ρ m fe dh dU=> ?_;have agC:∀bb,bV P w (β id) (.nest e es [0,0,0]) bb→∀j,¬I' bb j:=fun bb h=>zt.no (blk:= .nest e es [0,0,0]) (dU bb h) (by simp);change fS P w I' μ hp0 (β id) (.nest e es [0,0,0]);have dz:=S.h.rel id _ ae;generalize ho:β id=o at dz agC⊢;cases dz with
       |kO hb=>exact .kO hb
       |nest hb ed oh=>
        refine .nest hb (fun q b' e1 m1 hq=> ?_) oh;obtain⟨ok,⟨Ca,Tc,c1,c0,c2,c3⟩,nI⟩:=ed q b' e1 m1 hq;refine⟨ok,⟨Ca,Tc,c1,c0,c2,fun i j x t' y1 y2 y3=> ?_⟩,agC _ (.row hb hq)⟩;obtain⟨v,z1,z2⟩:=c3 i j x t' y1 y2 y3;exact⟨v,z1,z2.mono i1 (fun _ _ _=>rfl) fun _ _ _ _ _=>rfl⟩
      |_=>cases hr
     |map t' es=>
      cases b with
      |map t=>
       obtain⟨hc,pq⟩:=aW hr;clear hr;rw[bU]at hc;subst hc;refine fin (d1:=[.list t es]) (o1:=β id) pq (Ext.leaf h _) rfl cE (fun rest=>iz.map ae) fun rest I' μ hp0 i1 i2 ρ m fe dh dU=> ?_;change fS P w I' μ hp0 (β id) (.map t es);have dz:=S.h.rel id _ ae;generalize ho:β id=o at dz dU⊢;cases dz with
       |map a1 a2 a3 a4 a5 a6 a7=>exact .map a1 a2 a3 a4 ((dU _ (.root (by simp[j8]) a2)).no (by simp[j8])) a6 a7
      |_=>cases hr
   |row id ver path=>
    obtain⟨e0,es,vers,l1,k1,k2,k3,k4,k5⟩:=tQ hr;obtain⟨e',vv,m1,m2,m3⟩:=FQ k5;cases b with
    |arr e fz=>
     cases fz with
     |true=>cases m3
     |false=>
      obtain⟨hc,m4⟩:=aW m3;clear m3;simp only[bc,bU,rf]at hc;obtain⟨rfl,Kl,oJ⟩:=hc;have dz:=S.h.rel id _ k1;cases hb:β id with
      |none=>
       rw[hb]at dz;cases dz with
       |nest aJ _ _=>cases aJ
       |kO _=>
        cases path with
        |nil=>grind
        |cons p q=>obtain⟨i,c⟩:=p;simp[ec]at m2
      |some b0=>
       rw[hb]at dz;cases dz with
       |kO aJ=>cases aJ
       |nest aJ ed oh=>
        cases aJ;obtain⟨b1,jD⟩:=agA ed path m1 m2 oJ;refine fin (d1:=[.list e vv.toList]) (o1:=some b1) m4 (Ext.leaf h _) rfl cE (fun rest=>iz.row k1 hb jD Kl k2 k3 k4 oJ) fun rest I' μ hp0 i1 i2 ρ m fe dh dU=> ?_;change fS P w I' μ hp0 (some b1) (.arr e vv.toList false);obtain⟨ok,⟨Ca,Tc,c1,c0,c2,c3⟩,nI⟩:=ed _ _ _ _ jD;refine .arr c0 ok rfl c1 c2 (fun h=>by cases h) (fun _=>(dU _ (.root (by simp[j8]) rfl)).no (by simp[j8])) fun i j x t' y1 y2 y3=> ?_;obtain⟨v,z1,z2⟩:=c3 i j x t' y1 y2 y3;refine⟨v,z1,?_⟩;generalize cW P e x j=y at z2⊢;cases z2 with
        |iO _ p=>exact p.mono i1 fun _ _ _=>rfl
        |emp hu=>exact absurd hu (agD Kl y2 _)
        |row hu _ _ _ _=>exact absurd hu (agD Kl y2 _)
    |_=>cases m3
where
 agD {e t:TypeId} {j:Nat} (h:Jk P e=true) (ht:(bp P e)[j]? =some t) (e':TypeId):P.underlying t≠some (.slice e'):=by
  intro hu;have h2:=jk.1 h t (o4 ht);grind
end
section
variable {P:Program}{A:dM}{w w':World}{I I' I2:Nat→Nat→Prop}{μ β β' dn:Nat→Option Nat}{hp hp' hp0 cE:Nat→Option ag}{C:af}{B:Nat}{M:Nat→Prop}{w0:Start}
structure qK(w:World)(I:Nat→Nat→Prop)(β:Nat→Option Nat)(hp:Nat→Option ag)(w':World)(I':Nat→Nat→Prop)(β':Nat→Option Nat)(hp':Nat→Option ag):Prop where
 fI:∀b j,I b j→I' b j
 dF:∀b j,I b j→w'.cell? ⟨b,j,none⟩=w.cell? ⟨b,j,none⟩
 blk:∀id blk,hp id=some blk→∃blk',hp' id=some blk'∧blk.le blk'∧(blk'≠ .dead→β' id=β id)
 size:∀id blk blk' b,hp id=some blk→hp' id=some blk'→blk'≠ .dead→β id=some b→bsize w' b=bsize w b
theorem Le.Gf(h:Le P w I β hp w' I' β' hp'):qK w I β hp w' I' β' hp':=⟨h.fI,h.dF,h.blk,h.size⟩
theorem qK.trans{Jy:World}{Jz:Nat→Nat→Prop}{JA:Nat→Option Nat}{JB:Nat→Option ag}(h1:qK w I β hp w' I' β' hp')(h2:qK w' I' β' hp' Jy Jz JA JB):qK w I β hp Jy Jz JA JB:=by
 refine⟨fun b j h=>h2.fI b j (h1.fI b j h),fun b j h=>(h2.dF b j (h1.fI b j h)).trans (h1.dF b j h),fun id blk h=> ?_,fun id blk CY b h QC hd hb=> ?_⟩
 ·obtain⟨blk',e',l',b'⟩:=h1.blk id blk h;obtain⟨CY,iq,JC,b''⟩:=h2.blk id blk' e';refine⟨CY,iq,ag.le_trans l' JC,fun hd=> ?_⟩;have jl:blk'≠ .dead:=fun e=>hd (ag.w8 (e▸JC));grind
 ·obtain⟨blk',e',l',b'⟩:=h1.blk id blk h;obtain⟨ng,e3,l3,b3⟩:=h2.blk id blk' e';obtain rfl:ng=CY:=by grind
  have jl:blk'≠ .dead:=fun e=>hd (ag.w8 (e▸l3));rw[h2.size id blk' ng b e' e3 hd ((b' jl).trans hb),h1.size id blk blk' b h e' jl hb]
def vF(P:Program)(w:World)(μ:Nat→Option Nat)(hp0:Nat→Option ag)(b:Nat):Prop:= ∃j blk,hp0 j=some blk∧bV P w (μ j) blk b
structure aqZ(P:Program)(A:dM)(key:Nat)(w:World)(I:Nat→Nat→Prop)(μ:Nat→Option Nat)(ds es:List V)(w':World)(v:Value)(I2:Nat→Nat→Prop)(dn:Nat→Option Nat):Prop where
 Gg:aK P w' I2 dn (cG (A.so key es) (A.lv key es)).hp w.heap.size (vF P w μ (cG (A.sin key) ds).hp) ⟨w,I⟩
 le:qK w I μ (cG (A.sin key) ds).hp w' I2 dn (cG (A.so key es) (A.lv key es)).hp
 res:ah P w' I2 dn (cG (A.so key es) (A.lv key es)).hp v (wX (kK (A.so key es).cY (A.lv key es)))
def qL(P:Program)(A:dM)(C:af):Prop:=
 ∀key ds es,C key ds=some es→∃fn c,P.funcs[A.mn key]? =some fn∧fn.body=some c∧
  ∀(w:World) (I:Nat→Nat→Prop) (μ:Nat→Option Nat) (vals:List Value),
   CW P w I μ (cG (A.sin key) ds).hp w.heap.size (vF P w μ (cG (A.sin key) ds).hp)→nh P A.aV w I→
   vals.length=(A.sin key).cY.length→(∀(j:Nat) v x,vals[j]? =some v→(lT ((A.sin key).cY.map (·.2)) ds)[j]? =some x→ah P w I μ (cG (A.sin key) ds).hp v x)→
   Calls P (A.mn key) vals.toArray w fun e w'=> ∃v I2 dn,e= .returned v∧aqZ P A key w I μ ds es w' v I2 dn
theorem iz.DD{p:Place}{o:Option Nat}{blk:ag}{b:Nat}(h:iz P w β hp p o blk)(ho:bV P w o blk b):
  ∃xA,hp p.id=some xA∧bV P w (β p.id) xA b∧∀e es,xA= .arr e es true→blk= .arr e es true∧o=β p.id:=by
 cases h with
 |var h=>exact⟨_,h,.root (by simp) (ho.flat (by simp)),by simp⟩
 |arr h=>exact⟨_,h,.root (by simp) (ho.flat (by simp)),fun _ _ h=>⟨h,rfl⟩⟩
 |map h=>exact⟨_,h,.root (by simp) (ho.flat (by simp)),by simp⟩
 |nest h=>
  refine⟨_,h,?_,by simp⟩;cases ho with
  |root _ hb=>exact .root (by simp) hb
  |row hb ha=>exact .row hb ha
 |row h hb ha _ _ _ _ _=>
  have:=ho.flat (by simp)
  cases this;exact⟨_,h,.row hb ha,by simp⟩
theorem aK.aq0(S:aK P w I β hp B M w0){id b:Nat}{blk:ag}(ae:hp id=some blk)(ho:bV P w (β id) blk b)(hf:∀e es,blk≠ .arr e es true):∀j,¬I b j:=by
 have hr:=S.h.rel id blk ae;generalize β id=o at hr ho;cases hr with
 |var hb _ _ hI _ _=>have:=ho.flat (by simp);grind
 |fT hb=>have:=ho.flat (by simp);grind
 |@arr e _ es fz _ _ _ _ hb _ _ _ jm _=>
  have:=ho.flat (by simp)
  simp_all
 |dead=>exact absurd rfl ho.alive
 |map _ hb _ _ hI _ _=>have:=ho.flat (by simp);grind
 |out hb _ _ hh _ _ hI hc hr _=>
  cases ho with
  |root _ aJ=>grind
  |sG aJ C7 hj hx h0 hv=>
   rw[hb]at aJ;cases aJ;rw[hh]at C7;cases C7;obtain⟨_,_,m1,_⟩:=hc _ _ hj hx;cases m1;exact(hr _ _ _ _ hj hx h0 hv).2.nI
 |kO hb=>cases ho<;>simp_all
 |nest hb hr _=>
  cases ho with
  |root _ aJ=>rw[hb]at aJ;cases aJ;exact(hr _ _ _ _ .here).nI
  |row aJ ha=>rw[hb]at aJ;cases aJ;exact(hr _ _ _ _ ha).nI
theorem Rg{a b:List Nat}(h:pP a b=false){x:Nat}(ha:x∈a):x∉b:=by
 intro hb;unfold pP at h;rw[List.any_eq_false]at h;exact h x ha (FZ hb)
theorem aq1(S:aK P w I β hp B M w0){pl:List Place}{upd:List (Nat×ag)}{o:Nat→Option Nat}(kf:(pl.map Place.id).Nodup)(xB:pP (upd.map (·.1)) (pl.map Place.id)=false)
  (hl:∀j blk,hp0 j=some blk→∃p,iM pl j=some p∧iz P w β hp p (o j) blk)
  (dz:(∀j blk,hp0 j=some blk→∀b,bV P w (o j) blk b→zt P (oj P w I β hp upd) blk b)→∀j blk,hp0 j=some blk→fS P w (oj P w I β hp upd) o hp0 (o j) blk) (bO:∀b j,oj P w I β hp upd b j→b<w.heap.size):
  CW P w (oj P w I β hp upd) o hp0 w.heap.size (vF P w o hp0):=by
 have dU:∀j blk,hp0 j=some blk→∀b,bV P w (o j) blk b→zt P (oj P w I β hp upd) blk b:=by
  intro j blk hj b ho jj hI;obtain⟨p,cE,gQ⟩:=hl j blk hj;obtain⟨xA,k1,k2,k3⟩:=gQ.DD ho;rcases hI with hI|⟨q,hq,dd,q1,q2⟩
  ·by_cases hz:∃e es,xA= .arr e es true
   ·obtain⟨e,es,rfl⟩:=hz;obtain⟨rfl,h4⟩:=k3 e es rfl;refine⟨e,es,rfl,?_⟩;have hr:=S.h.rel _ _ k1;have hb:=k2.flat (by simp)
    generalize β p.id=o' at hr hb;cases hr with
    |fT h=>rw[hb]at h;cases h
    |arr _ _ a2 _ _ a5 _ _=>rw[hb]at a2;cases a2;exact a5 rfl jj hI
   ·exact absurd hI (S.aq0 k1 k2 (fun e es h=>hz ⟨e,es,h⟩) jj)
  ·exfalso;have:=S.h.inj _ _ _ _ b q1 k1 q2.own k2;refine Rg xB (iZ.2 ⟨q,hq,rfl⟩) ?_;rw[this];rw[rO]at cE;grind
 refine⟨dz dU,fun j1 j2 b1 b2 b h1 h2 o1 o2=> ?_,fun j blk b h1 o1=> .inl ⟨j,blk,h1,o1⟩,bO⟩;obtain⟨p1,q1,q2⟩:=hl j1 b1 h1;obtain⟨p2,r1,r2⟩:=hl j2 b2 h2;obtain⟨c1,x1,x2,_⟩:=q2.DD o1;obtain⟨c2,y1,y2,_⟩:=r2.DD o2;have ae:=S.h.inj _ _ _ _ b x1 y1 x2 y2;rw[rO]at q1 r1;have m1:(pl.map Place.id)[j1]? =some p1.id:=by grind
 have m2:(pl.map Place.id)[j2]? =some p2.id:=by grind
 rw[←ae]at m2;obtain⟨z1,z2⟩:=cP.1 m1;obtain⟨z3,z4⟩:=cP.1 m2;exact(List.getElem_inj kf).1 (z2.trans z4.symm)
def agE:V→Prop
 | .list .. =>False
 | .pref .. =>False
 | .agg _=>False
 | .bN _=>False
 | .fn .. =>False
 |_=>True
theorem ah.free{v:Value}{x:V}(h:ah P w I β hp v x)(hx:agE x):ah P w I' β hp v x:=by
 cases h with
 |undef=>exact .undef
 |int=>exact .int
 |bool=>exact .bool
 |str h=>exact .str h
 |list h=>exact hx.elim
 |nilS=>exact .nilS
 |agg=>exact hx.elim
 |bN=>exact hx.elim
 |gX=>exact .gX
 |fn=>exact hx.elim
 |pref=>exact hx.elim
 |fq h=>exact .fq h
 |nc h=>exact .nc h
 |oG h=>exact .oG h
 |fk h hb=>exact .fk h hb
 |whole h hb a b c=>exact .whole h hb a b c
 |fb h hb a b c=>exact .fb h hb a b c
 |fA h hb=>exact .fA h hb
 |iv h hb a b c=>exact .iv h hb a b c
 |nf h hb=>exact .nf h hb
 |sub h hb a b c=>exact .sub h hb a b c
 |ptr h hd hb=>exact .ptr h hd hb
 |oH h zn=>exact .oH h zn
 |oI h zn=>exact .oI h zn
 |row h hb a b c d=>exact .row h hb a b c d
 |ez h hb a b c d e=>exact .ez h hb a b c d e
 |fZ=>exact .fZ
 |nJ h=>exact .nJ h
 |dt h hb=>exact .dt h hb
theorem Km{l:LS}{ds:List V}(hs:l.safe=true):agE (nE l ds):=by
 cases l<;>simp only[LS.safe]at hs<;>first|(cases hs;done)|trivial
theorem Kn:∀{ls:List LS} {ds:List V} {j:Nat} {y:V},(j7 ls ds)[j]? =some y→∃l mQ,l∈ls∧y=nE l mQ
 | [],ds,j,y,h=>by simp[j7]at h
 |l::ls,ds,j,y,h=>by
  simp only[j7]at h;cases j with
  |zero=>grind
  |succ j=>
   obtain⟨l',mQ,h1,h2⟩:=Kn (j:=j) (by simpa using h);grind
theorem agF:∀{ls:List VS} {ds:List V} {j:Nat} {y:V},(lT ls ds)[j]? =some y→∃l mQ,l∈ls∧y=pc l mQ
 | [],ds,j,y,h=>by simp[lT]at h
 |l::ls,ds,j,y,h=>by
  simp only[lT]at h;cases j with
  |zero=>grind
  |succ j=>
   obtain⟨l',mQ,h1,h2⟩:=agF (j:=j) (by simpa using h);grind
theorem agG{s:VS}{ds:List V}{v:Value}(h:ah P w I β hp v (pc s ds))(hs:s.safe=true):ah P w I' β hp v (pc s ds):=by
 cases s with
 |one l=>exact h.free (Km hs)
 |agg ls=>
  simp only[pc]at h⊢;obtain⟨cs,rfl,e1,e2⟩:=h.qE;refine .agg e1 fun j v x hj hx=> ?_;obtain⟨l,mQ,k1,rfl⟩:=Kn hx;exact(e2 j v _ hj hx).free (Km (jk.1 hs l k1))
 |bN ls=>
  simp only[pc]at h⊢;obtain⟨cs,rfl,e1,e2⟩:=h.Dc;refine .bN e1 fun j v x hj hx=> ?_;obtain⟨l,mQ,k1,rfl⟩:=Kn hx;exact(e2 j v _ hj hx).free (Km (jk.1 hs l k1))
 |fn f a b=>
  simp only[VS.safe,bc]at hs;simp only[pc]at h⊢;cases h with
  |fn a1 a2 b1 b2=>
   refine .fn a1 (fun j v x hj hx=> ?_) b1 (fun j v x hj hx=> ?_)
   ·obtain⟨l,mQ,k1,rfl⟩:=Kn hx;exact(a2 j v _ hj hx).free (Km (jk.1 hs.1 l k1))
   ·obtain⟨l,mQ,k1,rfl⟩:=Kn hx;exact(b2 j v _ hj hx).free (Km (jk.1 hs.2 l k1))
 |pref ts ls=>cases hs
theorem Pure.scalar{t:TypeId}{v:Value}{x:V}(h:Pure P w I t v x)(hn:∀e,P.underlying t≠some (.slice e)):Pure P w I' t v x:=by
 cases h with
 |int h=>exact .int h
 |bool h=>exact .bool h
 |str h hl=>exact .str h hl
 |nil h=>grind
 |emp h=>grind
 |list g h=>grind
theorem aq2{e t:TypeId}{j:Nat}(h:Jk P e=true)(ht:(bp P e)[j]? =some t)(e':TypeId):P.underlying t≠some (.slice e'):=by
 intro hu;have h2:=jk.1 h t (o4 ht);grind
theorem aq3{o:Option Nat}{b:BS}{ds:List V}(h:fS P w I2 β hp o (j8 b ds))(hs:b.safe P=true)(hi:∀b j,I b j→I2 b j):fS P w I β hp o (j8 b ds):=by
 cases b with
 |dead=>exact .dead
 |var T0 ls=>
  simp only[j8]at h⊢;cases h with
  |var hb hh b7 hI hx my=>
   refine .var hb hh b7 (fun j h=>hI j (hi _ j h)) (fun j v x hj eo=> ?_) my;obtain⟨l,mQ,k1,rfl⟩:=agF eo;exact agG (hx j v _ hj eo) (jk.1 hs l k1)
 |arr e fz=>
  simp only[BS.safe,bc,qu]at hs;obtain⟨rfl,Kl⟩:=hs;simp only[j8]at h⊢;generalize (V.nth ds 0).toList=es at h⊢;cases h with
  |fT hb=>exact .fT hb
  |arr a0 a1 a2 a3 a4 a5 a6 a7=>
   refine .arr a0 a1 a2 a3 a4 (fun h=>by cases h) (fun _ j h=>a6 rfl j (hi _ j h)) fun i j x t' y1 y2 y3=> ?_;obtain⟨v,z1,z2⟩:=a7 i j x t' y1 y2 y3;exact⟨v,z1,z2.scalar (aq2 Kl y2)⟩
 |nest e=>
  simp only[j8]at h⊢;generalize (V.nth ds 0).toList=es at h⊢;cases h with
  |kO hb=>exact .kO hb
  |nest hb ed oh=>
   refine .nest hb (fun q b' e1 m1 hq=> ?_) oh;obtain⟨ok,⟨Ca,Tc,c1,c0,c2,c3⟩,nI⟩:=ed q b' e1 m1 hq;refine⟨ok,⟨Ca,Tc,c1,c0,c2,fun i j x t' y1 y2 y3=> ?_⟩,fun j h=>nI j (hi _ j h)⟩;obtain⟨v,z1,z2⟩:=c3 i j x t' y1 y2 y3;refine⟨v,z1,?_⟩;generalize cW P e1 x j=y at z2⊢;cases z2 with
   |iO a p=>
    refine .iO a (p.scalar fun e hu=> ?_);unfold fj at a;grind
   |emp a=>exact .emp a
   |row a b c d e=>exact .row a b c d e
 |map t=>
  simp only[j8]at h⊢;cases h with
  |map a1 a2 a3 a4 a5 a6 a7=>exact .map a1 a2 a3 a4 (fun j h=>a5 j (hi _ j h)) a6 a7
theorem Rh:∀{l:List BS} {ds:List V} {j:Nat} {y:ag},(jC l ds)[j]? =some y→∃b mQ,l[j]? =some b∧y=j8 b mQ
 | [],ds,j,y,h=>by simp[jC]at h
 |b::l,ds,j,y,h=>by
  simp only[jC]at h;cases j with
  |zero=>grind
  |succ j=>
   obtain⟨b',mQ,h1,h2⟩:=Rh (j:=j) (by simpa using h);grind
theorem agH:∀{l:List (Nat×VS)} {ds:List V} {q:Nat×V},q∈kK l ds→∃s mQ,(q.1,s)∈l∧q.2=pc s mQ
 | [],ds,q,h=>by simp[kK]at h
 |(k,s)::l,ds,q,h=>by
  simp only[kK,kC]at h;rcases h with h|h
  ·grind
  ·obtain⟨s',mQ,h1,h2⟩:=agH h;grind
theorem aq4{S:Shape}{es:List V}(hs:S.safe P=true)(hi:∀b j,I b j→I2 b j){N:Nat→Prop}{st:Start}(h:aK P w' I2 dn (cG S es).hp B N st)(h0:∀b j,I b j→st.I b j):
  aK P w' I dn (cG S es).hp B N st∧∀v,ah P w' I2 dn (cG S es).hp v (wX (kK S.cY es))→ah P w' I dn (cG S es).hp v (wX (kK S.cY es)):=by
 unfold Shape.safe at hs;simp only[bc]at hs;obtain⟨gE,ud⟩:=hs;have one:∀q∈kK S.cY es,∀v,ah P w' I2 dn (cG S es).hp v q.2→ah P w' I dn (cG S es).hp v q.2:=by
  intro q hq v hv;obtain⟨s,mQ,k1,k2⟩:=agH hq;rw[k2]at hv⊢;exact agG hv (jk.1 gE _ k1)
 refine⟨⟨⟨fun j blk hj=> ?_,h.h.inj,h.h.own,fun b j hb=>h.h.mw b j (hi b j hb)⟩,h.dF,h.size,fun b j hb=> .inl (h0 b j hb),h.io⟩,fun v hv=> ?_⟩
 ·have hr:=h.h.rel j blk hj;have ja:=hj;simp only[cG,mk,np]at ja;obtain⟨b,mQ,k1,rfl⟩:=Rh ja;exact aq3 hr (jk.1 ud _ (o4 k1)) hi
 ·generalize kK S.cY es=l at one hv⊢
  match l,one,hv with
  | [],_,hv=>
   simp only[wX,List.map_nil]at hv⊢;obtain⟨cs,rfl,e1,e2⟩:=hv.Dc;exact .bN e1 fun j v x _ hx=>by simp at hx
  | [q],one,hv=>exact one q (iY.2 rfl) v hv
  |q::q2::l,one,hv=>
   simp only[wX]at hv⊢;obtain⟨cs,rfl,e1,e2⟩:=hv.Dc;refine .bN e1 fun j v x hj hx=> ?_;grind
end
section
variable {P:Program}{A:dM}{w w':World}{I I' I2:Nat→Nat→Prop}{μ β β' dn:Nat→Option Nat}{hp hp' hp0 cE:Nat→Option ag}{C:af}{B:Nat}{M:Nat→Prop}{w0:Start}
inductive ma(σ:List Place):ag→ag→Prop
 |dead:ma σ .dead .dead
 |var {T:TypeId} {cs:List V}:ma σ (.var T cs) (.var T (cs.map (Qq σ)))
 |arr {e:TypeId} {es:List V} {fz:Bool}:ma σ (.arr e es fz) (.arr e es fz)
 |nest {e:TypeId} {es:List V} {v1 v2:List Nat}:ma σ (.nest e es v1) (.nest e es v2)
 |map {t:TypeId} {es:List V}:ma σ (.map t es) (.map t es)
 |out {e:TypeId} {es:List V} {vs:List Nat} {i:Nat}:ma σ (.out e es vs i) .dead
theorem ma.of(σ:List Place)(b:ag):ma σ b (CQ σ b):=by
 cases b with
 |dead=>exact .dead
 |var T cs=>exact .var
 |arr e es fz=>exact .arr
 |nest e es v=>exact .nest
 |map t es=>exact .map
 |out e es vs i=>exact .out
theorem agI{σ:List Place}:∀{pl:List Place} {bs:List ag} {acc:List (Nat×ag)} {k:List (Nat×ag)→Rd R} {r:R} {rd:List Nat},(y7 σ pl bs acc k).run C hp=some (r,rd)→
  pl.length≤bs.length∧∃bk jn,(k bk).run C hp=some (r,jn)∧(∀q∈bk,q∈acc∨∃(j:Nat) (b:ag),pl[j]? =some (.blk q.1)∧bs[j]? =some b∧ma σ b q.2∧((∃e es v2,q.2= .nest e es v2)→∃e es vers e' ba,hp q.1=some (.nest e es vers)∧q.2= .nest e' ba (vers.map (· +1))))∧
   (∀q∈acc,q∈bk)∧∀(j:Nat) p,pl[j]? =some p→∃id b,p= .blk id∧(id,b)∈bk
 | [],bs,acc,k,r,rd,h=>⟨mi _,acc,rd,by simpa only[y7]using h,fun q hq=> .inl hq,fun q hq=>hq,fun j p hp=>by simp at hp⟩
 | .row _ _ _::pl,bs,acc,k,r,rd,h=>by
  cases bs<;>(simp only[y7]at h;cases h)
 | .blk id::pl,[],acc,k,r,rd,h=>by simp only[y7]at h;cases h
 | .blk id::pl,b::bs,acc,k,r,rd,h=>by
  have fin:∀{b2:ag} {kQ:List Nat},(y7 σ pl bs ((id,b2)::acc) k).run C hp=some (r,kQ)→ma σ b b2→((∃e es v2,b2= .nest e es v2)→∃e es vers e' ba,hp id=some (.nest e es vers)∧b2= .nest e' ba (vers.map (· +1)))→
    (Place.blk id::pl).length≤(b::bs).length∧∃bk jn,(k bk).run C hp=some (r,jn)∧(∀q∈bk,q∈acc∨∃(j:Nat) (b':ag),(Place.blk id::pl)[j]? =some (.blk q.1)∧(b::bs)[j]? =some b'∧ma σ b' q.2∧((∃e es v2,q.2= .nest e es v2)→∃e es vers e' ba,hp q.1=some (.nest e es vers)∧q.2= .nest e' ba (vers.map (· +1))))∧
     (∀q∈acc,q∈bk)∧∀(j:Nat) p,(Place.blk id::pl)[j]? =some p→∃id b,p= .blk id∧(id,b)∈bk:=by
   intro b2 kQ h1 hb hn;obtain⟨a0,bk,jn,a1,a2,a3,a4⟩:=agI h1;refine⟨by simp only[List.length_cons];omega,bk,jn,a1,fun q hq=> ?_,fun q hq=>a3 q (j5 _ hq),fun j p hj=> ?_⟩
   ·rcases a2 q hq with h|⟨j,b',k1,k2,k3,k4⟩
    ·rcases kC.1 h with e|h
     ·subst e;exact .inr ⟨0,b,rfl,rfl,hb,hn⟩
     ·exact .inl h
    ·exact .inr ⟨j+1,b',by simpa using k1,by simpa using k2,k3,k4⟩
   ·cases j with
    |zero=>simp at hj;subst hj;exact⟨id,b2,rfl,a3 _ (CE ..)⟩
    |succ j=>exact a4 j p (by simpa using hj)
  cases b with
  |nest e es v=>
   simp only[y7]at h;obtain⟨l,h⟩:=run_get h;cases ae:hp id with
   |none=>rw[ae]at h;cases h
   |some blk=>
    rw[ae]at h;cases blk with
    |nest e0 XS vers=>exact fin h .nest fun _=>⟨e0,XS,vers,e,es,ae,rfl⟩
    |_=>cases h
  |dead=>exact fin h (.of σ _) fun⟨_,_,_,h⟩=>by cases h
  |var T cs=>exact fin h (.of σ _) fun⟨_,_,_,h⟩=>by cases h
  |arr e es fz=>exact fin h (.of σ _) fun⟨_,_,_,h⟩=>by cases h
  |map t es=>exact fin h (.of σ _) fun⟨_,_,_,h⟩=>by cases h
  |out e es vs i=>exact fin h (.of σ _) fun⟨_,_,_,h⟩=>by cases h
theorem agJ{σ:List Place}:∀{bs:List ag} {n:Nat} {q:Nat×ag},q∈y8 σ n bs→∃i b,bs[i]? =some b∧q=(n+i,CQ σ b)
 | [],n,q,h=>by simp[y8]at h
 |b::bs,n,q,h=>by
  simp only[y8,kC]at h;rcases h with h|h
  ·exact⟨0,b,rfl,h⟩
  ·obtain⟨i,b',h1,h2⟩:=agJ h;exact⟨i+1,b',by simpa using h1,by rw[h2];congr 1;omega⟩
theorem agK{σ:List Place}:∀{bs:List ag} {n i:Nat} {b:ag},bs[i]? =some b→(n+i,CQ σ b)∈y8 σ n bs
 | [],n,i,b,h=>by simp at h
 |b0::bs,n,i,b,h=>by
  simp only[y8,kC];cases i with
  |zero=>simp at h;subst h;exact .inl rfl
  |succ i=>exact .inr (by rw[show n+(i+1)=n+1+i by omega];exact agK (by simpa using h))
theorem Ri:∀{k n i:Nat},i<k→(AN n k)[i]? =some (.blk (n+i))
 |0,n,i,h=>by omega
 |k+1,n,0,h=>rfl
 |k+1,n,i+1,h=>by
  simp only[AN,List.getElem?_cons_succ];rw[Ri (by omega)];congr 2;omega
theorem XT:∀{k n:Nat},(AN n k).length=k
 |0,_=>rfl
 |k+1,n=>by simp[AN,XT]
theorem agL:∀{bs:List (Nat×ag)} {k:Rd R} {r:R} {rd:List Nat},(Qr bs k).run C hp=some (r,rd)→(∀q∈bs,hp q.1=none)∧∃jn,k.run C hp=some (r,jn)
 | [],k,r,rd,h=>⟨by simp,rd,h⟩
 |(id,b)::l,k,r,rd,h=>by
  simp only[Qr]at h;obtain⟨l1,h⟩:=run_get h;cases ae:hp id with
  |some blk=>rw[ae]at h;cases h
  |none=>
   rw[ae]at h;obtain⟨h1,h2⟩:=agL h;refine⟨fun q hq=> ?_,h2⟩;rcases kC.1 hq with e|hq
   ·subst e;exact ae
   ·exact h1 q hq
structure xC(σ:List Place)(dn:Nat→Option Nat)(cE:Nat→Option ag)(β':Nat→Option Nat)(hp':Nat→Option ag):Prop where
 blk:∀j b,cE j=some b→∃id b',iM σ j=some (.blk id)∧hp' id=some b'∧ma σ b b'∧(b≠ .dead→β' id=dn j)
 none:∀j,cE j=none→iM σ j=none
 aIE:∀j id ver path,iM σ j≠some (.row id ver path)
theorem xC.leaf{σ:List Place}(T:xC σ dn cE β' hp'){v:Value}{x:V}(h:ah P w I dn cE v x):ah P w I β' hp' v (oE σ x):=by
 have look:∀{j b},cE j=some b→∃id b',iM σ j=some (.blk id)∧hp' id=some b'∧ma σ b b'∧(b≠ .dead→β' id=dn j):=fun h=>T.blk _ _ h;cases h with
 |undef=>exact .undef
 |int=>exact .int
 |bool=>exact .bool
 |str h=>exact .str h
 |list h=>exact .list h
 |nilS=>exact .nilS
 |agg=>exact .undef
 |bN=>exact .undef
 |gX=>exact .gX
 |fn=>exact .undef
 |pref a b c=>exact .pref a b c
 |@fq _ e j h=>
  obtain⟨id,b',k1,k2,k3,k4⟩:=look h;simp only[oE,k1];cases k3;exact .fq k2
 |@nc _ e j _ _ h=>
  obtain⟨id,b',k1,k2,k3,k4⟩:=look h;simp only[oE,k1];cases k3;exact .nc k2
 |@oG _ j _ _ h=>
  obtain⟨id,b',k1,k2,k3,k4⟩:=look h;simp only[oE,k1];cases k3;exact .oG k2
 |@fk e j fz _ h hb=>
  obtain⟨id,b',k1,k2,k3,k4⟩:=look h;simp only[oE,k1];cases k3;exact .fk k2 ((k4 (by simp)).trans hb)
 |@whole e j es fz b cap h hb a1 a2 a3=>
  obtain⟨id,b',k1,k2,k3,k4⟩:=look h;simp only[oE,k1];cases k3;exact .whole k2 ((k4 (by simp)).trans hb) a1 a2 a3
 |@fb e j es vers b cap h hb a1 a2 a3=>
  obtain⟨id,b',k1,k2,k3,k4⟩:=look h;simp only[oE,k1];cases k3;exact .fb k2 ((k4 (by simp)).trans hb) a1 a2 a3
 |@iv e j i es vers b cap h hb a1 a2 a3=>
  obtain⟨id,b',k1,k2,k3,k4⟩:=look h;simp only[oE,k1];cases k3;exact .fq k2
 |@fA e j vers _ h hb=>
  obtain⟨id,b',k1,k2,k3,k4⟩:=look h;simp only[oE,k1];cases k3;exact .fA k2 ((k4 (by simp)).trans hb)
 |@nf e j fz _ h hb=>
  obtain⟨id,b',k1,k2,k3,k4⟩:=look h;simp only[oE,k1];cases k3;exact .nf k2 ((k4 (by simp)).trans hb)
 |@sub e j off len es fz b o cap h hb a1 a2 a3=>
  obtain⟨id,b',k1,k2,k3,k4⟩:=look h;simp only[oE,k1];cases k3;exact .sub k2 ((k4 (by simp)).trans hb) a1 a2 a3
 |@ptr j i c b blk h hd hb=>
  obtain⟨id,b',k1,k2,k3,k4⟩:=look h;simp only[oE,k1];by_cases jl:b'= .dead
  ·subst jl;exact .oG k2
  have hs:blk.sz P=b'.sz P:=by cases k3<;>first|rfl|exact absurd rfl jl
  rw[hs];exact .ptr k2 jl ((k4 hd).trans hb)
 |oH=>exact .undef
 |oI=>exact .undef
 |row=>exact .undef
 |ez=>exact .undef
 |fZ=>exact .fZ
 |@nJ _ t j h=>
  obtain⟨id,b',k1,k2,k3,k4⟩:=look h;simp only[oE,k1];cases k3;exact .nJ k2
 |@dt t j b es h hb=>
  obtain⟨id,b',k1,k2,k3,k4⟩:=look h;simp only[oE,k1];cases k3;exact .dt k2 ((k4 (by simp)).trans hb)
theorem xC.one{σ:List Place}(T:xC σ dn cE β' hp'){v:Value}{x:V}(h:ah P w I dn cE v x):ah P w I β' hp' v (Wl σ x):=by
 cases x with
 |agg xs=>
  obtain⟨cs,rfl,e1,e2⟩:=h.qE;exact .agg (by simpa using e1) fun j v y hj hy=>by
   rw[mY]at hy;cases hx:xs[j]? with
   |none=>rw[hx]at hy;cases hy
   |some x=>rw[hx]at hy;cases hy;exact T.leaf (e2 j v x hj hx)
 |fn f a b=>
  cases h with
  |fn a1 a2 b1 b2=>
   refine .fn (by simpa using a1) (fun j v y hj hy=> ?_) (by simpa using b1) (fun j v y hj hy=> ?_)
   ·rw[mY]at hy;cases hx:a[j]? with
    |none=>rw[hx]at hy;cases hy
    |some x=>rw[hx]at hy;cases hy;exact T.leaf (a2 j v x hj hx)
   ·rw[mY]at hy;cases hx:b[j]? with
    |none=>rw[hx]at hy;cases hy
    |some x=>rw[hx]at hy;cases hy;exact T.leaf (b2 j v x hj hx)
 |_=>exact T.leaf h
theorem xC.val{σ:List Place}(T:xC σ dn cE β' hp'){v:Value}{x:V}(h:ah P w I dn cE v x):ah P w I β' hp' v (Qq σ x):=by
 cases x with
 |bN xs=>
  obtain⟨cs,rfl,e1,e2⟩:=h.Dc;exact .bN (by simpa using e1) fun j v y hj hy=>by
   rw[mY]at hy;cases hx:xs[j]? with
   |none=>rw[hx]at hy;cases hy
   |some x=>rw[hx]at hy;cases hy;exact T.one (e2 j v x hj hx)
 |_=>exact T.one h
theorem xC.agM{σ:List Place}(T:xC σ dn cE β' hp'){o:Option Nat}{b b':ag}(h:fS P w I dn cE o b)(hb:ma σ b b'):fS P w I β' hp' o b':=by
 cases hb with
 |dead=>exact .dead
 |var=>
  cases h with
  |var a1 a2 a3 a4 a5 a6=>
   refine .var a1 a2 (by simpa using a3) a4 (fun j v y hj hy=> ?_) a6;rw[mY]at hy;cases hx:(_:List V)[j]? with
   |none=>rw[hx]at hy;cases hy
   |some x=>rw[hx]at hy;cases hy;exact T.val (a5 j v x hj hx)
 |arr=>
  cases h with
  |fT hb=>exact .fT hb
  |arr a0 a1 a2 a3 a4 a5 a6 a7=>exact .arr a0 a1 a2 a3 a4 a5 a6 a7
 |nest=>
  cases h with
  |nest a1 a2 a3=>exact .nest a1 a2 a3
  |kO a1=>exact .kO a1
 |map=>
  cases h with
  |map a1 a2 a3 a4 a5 a6 a7=>exact .map a1 a2 a3 a4 a5 a6 a7
 |out=>exact .dead
theorem ma.DD{σ:List Place}{o:Option Nat}{b b':ag}(h:ma σ b b'){m:Nat}(ho:bV P w o b' m):bV P w o b m:=by
 cases h with
 |dead=>exact absurd rfl ho.alive
 |var=>exact .root (by simp) (ho.flat (by simp))
 |arr=>exact .root (by simp) (ho.flat (by simp))
 |map=>exact .root (by simp) (ho.flat (by simp))
 |out=>exact absurd rfl ho.alive
 |nest=>
  cases ho with
  |root _ hb=>exact .root (by simp) hb
  |row hb ha=>exact .row hb ha
theorem ma.agN{σ:List Place}{b b':ag}(h:ma σ b b'):b'≠ .dead→b≠ .dead:=by
 intro h1 h2;subst h2;cases h;exact h1 rfl
end
section
variable {P:Program}{A:dM}{w w':World}{I I' I2:Nat→Nat→Prop}{μ β β' dn:Nat→Option Nat}{hp hp' hp0 cE:Nat→Option ag}{C:af}{B:Nat}{M:Nat→Prop}{w0:Start}
theorem agO:∀{vs:List Nat} {k:Nat},k<vs.length→cy (vs.map (· +1)) k=cy vs k+1
 | [],k,h=>by simp at h
 |v::vs,0,h=>rfl
 |v::vs,k+1,h=>by simp only[nY,cy];exact agO (by grind)
theorem agP:∀{vs:List Nat} {k:Nat},cy vs k≤cy (vs.map (· +1)) k
 | [],k=>by grind
 |v::vs,0=>by simp[cy]
 |v::vs,k+1=>by simp only[nY,cy];exact agP
def Ko(hp:Nat→Option ag)(q:Nat×ag):Prop:=(∃e es v2,q.2= .nest e es v2)→∃e es vers e' ba,hp q.1=some (.nest e es vers)∧q.2= .nest e' ba (vers.map (· +1))
theorem iz.XU{id:Nat}{o:Option Nat}{blk:ag}(h:iz P w β hp (.blk id) o blk):o=β id∧∃b0,hp id=some b0∧b0≠ .dead:=by
 cases h with
 |var h=>grind
 |arr h=>grind
 |nest h=>grind
 |map h=>grind
theorem iz.aq5{id:Nat}{o:Option Nat}{c b b' b0:ag}{σ:List Place}(h:iz P w β hp (.blk id) o c)(h0:hp id=some b0)(hle:c.le b)(hb:ma σ b b')(hn:Ko hp (id,b')):b0.le b':=by
 cases h with
 |var h=>
  rw[h]at h0;cases h0;cases hb with
  |dead=>trivial
  |out=>trivial
  |var=>trivial
  |arr=>exact hle.elim
  |nest=>exact hle.elim
  |map=>exact hle.elim
 |arr h=>
  rw[h]at h0;cases h0;cases hb with
  |dead=>trivial
  |out=>trivial
  |var=>exact hle.elim
  |arr=>exact hle
  |nest=>exact hle.elim
  |map=>omega
 |map h=>
  rw[h]at h0;cases h0;cases hb with
  |dead=>trivial
  |out=>trivial
  |map=>exact hle
  |_=>exact hle.elim
 |nest h=>
  rw[h]at h0;cases h0;cases hb with
  |dead=>trivial
  |out=>trivial
  |var=>exact hle.elim
  |arr=>exact hle
  |map=>exact hle.elim
  |@nest e es v1 v2=>
   obtain⟨e1,dT,AY,e2,cK,k1,k2⟩:=hn ⟨_,_,_,rfl⟩;cases k2;change hp id=_ at k1;rw[h]at k1;cases k1;exact⟨hle.1,hle.2.1,by simp,fun k=>agP⟩
theorem iz.other{p:Place}{o:Option Nat}{blk:ag}(h:iz P w β hp p o blk)(he:hp' p.id=hp p.id):iz P w β hp' p o blk:=by
 cases h with
 |var h=>exact .var (he.trans h)
 |arr h=>exact .arr (he.trans h)
 |nest h=>exact .nest (he.trans h)
 |map h=>exact .map (he.trans h)
 |row h a b c d e f g=>exact .row (he.trans h) a b c d e f g
open Classical in
theorem agQ(S:aK P w I β hp B M w0){pl:List Place}{o:Nat→Option Nat}{bs:List ag}{nb:Nat}{bk fr:List (Nat×ag)}{σ:List Place}(zu:σ=pl++AN nb (bs.length-pl.length))(Kp:fr=y8 σ nb (bs.drop pl.length))
  (kf:(pl.map Place.id).Nodup) (qC:pl.length≤bs.length)
  (zm:∀(j:Nat) p,pl[j]? =some p→∃id b,p= .blk id∧(id,b)∈bk) (DE:∀q∈bk,∃(j:Nat) (b:ag),pl[j]? =some (.blk q.1)∧bs[j]? =some b∧ma σ b q.2∧Ko hp q)
  (hl:∀j blk,hp0 j=some blk→∃p,iM pl j=some p∧iz P w β hp p (o j) blk) (hd:∀j,j<pl.length→∃blk,hp0 j=some blk)
  (Sc:aK P w' I2 dn (pd bs) w.heap.size (vF P w o hp0) ⟨w,I⟩) (Gh:qK w I o hp0 w' I2 dn (pd bs)) (Gi:∀q∈fr,hp q.1=none):
  ∃β',Le P w I β hp w' I2 β' (cQ hp (fr++bk))∧aK P w' I2 β' (cQ hp (fr++bk)) B M w0∧xC σ dn (pd bs) β' (cQ hp (fr++bk)):=by
 generalize XV:cQ hp (fr++bk)=gQ
 let β':Nat→Option Nat:=fun n=>if∃q∈fr,q.1=n then dn (pl.length+(n-nb))else β n
 have agR:∀(j:Nat) id,pl[j]? =some (.blk id)→∃c,hp0 j=some c∧iz P w β hp (.blk id) (o j) c:=by
  intro j id hj;obtain⟨c,hc⟩:=hd j (cP.1 hj).1;obtain⟨p,h1,h2⟩:=hl j c hc;rw[rO,hj]at h1;cases h1;exact⟨c,hc,h2⟩
 have uniq:∀(j1 j2:Nat) id,pl[j1]? =some (.blk id)→pl[j2]? =some (.blk id)→j1=j2:=by
  intro j1 j2 id h1 h2;have m1:(pl.map Place.id)[j1]? =some id:=by rw[mY,h1];rfl
  have m2:(pl.map Place.id)[j2]? =some id:=by rw[mY,h2];rfl
  obtain⟨z1,z2⟩:=cP.1 m1;obtain⟨z3,z4⟩:=cP.1 m2;exact(List.getElem_inj kf).1 (z2.trans z4.symm)
 have cls:∀id,(∃i b,id=nb+i∧bs[pl.length+i]? =some b∧gQ id=some (CQ σ b)∧hp id=none∧β' id=dn (pl.length+i))∨
   (∃(j:Nat) (b b' c b0:ag),pl[j]? =some (.blk id)∧bs[j]? =some b∧hp0 j=some c∧iz P w β hp (.blk id) (o j) c∧hp id=some b0∧b0.le b'∧gQ id=some b'∧ma σ b b'∧Ko hp (id,b')∧β' id=β id∧c.le b∧(b≠ .dead→dn j=β id))∨
   (gQ id=hp id∧(∀j:Nat,pl[j]? ≠some (.blk id))∧β' id=β id):=by
  intro id;by_cases hm:∃b,(id,b)∈fr++bk
  ·obtain⟨b,hm⟩:=hm;obtain⟨b',xb,he⟩:=QD (hp:=hp) hm;rw[XV]at he;rcases fQ.1 xb with h|h
   ·have h0:=Gi _ h;have vG:β' id=dn (pl.length+(id-nb)):=aP ⟨_,h,rfl⟩;rw[Kp]at h;obtain⟨i,b1,k1,k2⟩:=agJ h;rw[uY]at k1;cases k2;exact .inl ⟨i,b1,rfl,k1,he,h0,by rw[vG];congr 2;omega⟩
   ·obtain⟨j,b1,q1,q2,q3,q4⟩:=DE _ h;obtain⟨c,c1,c2⟩:=agR j id q1;obtain⟨c3,b0,c4,c5⟩:=c2.XU;obtain⟨b2,d1,d2,d3⟩:=Gh.blk j c c1;rw[np,q2]at d1;cases d1;refine .inr (.inl ⟨j,b1,b',c,b0,q1,q2,c1,c2,c4,c2.aq5 c4 d2 q3 q4,he,q3,q4,aM ?_,d2,fun h=>(d3 h).trans c3⟩);rintro⟨q,hq,hqe⟩;rw[←hqe,Gi q hq]at c4;cases c4
  ·refine .inr (.inr ⟨?_,fun j hj=> ?_,aM ?_⟩)
   ·rcases C6 (hp:=hp) (l:=fr++bk) (id:=id)with h|⟨b,hb,_⟩
    ·rw[XV]at h;exact h
    ·exact absurd ⟨b,hb⟩ hm
   ·obtain⟨aA,b,e,hb⟩:=zm j _ hj;cases e;exact hm ⟨b,fQ.2 (.inr hb)⟩
   ·rintro⟨q,hq,rfl⟩;exact hm ⟨q.2,fQ.2 (.inl hq)⟩
 have agS:∀b,vF P w o hp0 b→∃(j id:Nat) (b1:ag),pl[j]? =some (.blk id)∧hp id=some b1∧bV P w (β id) b1 b:=by
  rintro b ⟨j,c,hc,ho⟩;obtain⟨p,h1,h2⟩:=hl j c hc;rw[rO]at h1;obtain⟨id,b2,rfl,_⟩:=zm j p h1;obtain⟨b1,k1,k2,_⟩:=h2.DD ho;exact⟨j,id,b1,h1,k1,k2⟩
 have other:∀id blk b,hp id=some blk→bV P w (β id) blk b→(∀j:Nat,pl[j]? ≠some (.blk id))→¬vF P w o hp0 b∧w'.heap[b]? =w.heap[b]? ∧(∀j,I2 b j→I b j):=by
  intro id blk b e1 e3 e4;have xD:¬vF P w o hp0 b:=by
   intro hx;obtain⟨j,aA,b1,i1,i2,i3⟩:=agS b hx;have:=S.h.inj id aA _ _ b e1 i2 e3 i3;subst this;exact e4 j i1
  have bO:=S.h.lt e1 e3;refine⟨xD,Sc.dF b bO xD,fun j h=> ?_⟩;rcases Sc.new b j h with h|h|h
  ·exact h
  ·exact absurd h xD
  ·omega
 have A7:xC σ dn (pd bs) β' gQ:=by
  refine⟨fun j b hj=> ?_,fun j hj=> ?_,fun j id ver path hj=> ?_⟩
  ·rw[np]at hj;by_cases eQ:j<pl.length
   ·obtain⟨id,b1,e,qH⟩:=zm j _ (cv eQ);have Rj:pl[j]? =some (.blk id):=by rw[cv eQ,e]
    have XW:iM σ j=some (.blk id):=by rw[zu];exact vD (by rw[rO];exact Rj)
    rcases cls id with⟨i,b2,c1,c2,c3,c4,c5⟩|⟨j',b2,b',c,b0,q1,q2,q3,q4,q5,q6,q7,q8,q9,ue,Gj,zw⟩|⟨c1,c2,c3⟩
    ·obtain⟨c,d1,d2⟩:=agR j id Rj;obtain⟨_,b0,d3,_⟩:=d2.XU;rw[d3]at c4;cases c4
    ·obtain rfl:=uniq _ _ _ q1 Rj;rw[hj]at q2;cases q2;exact⟨id,b',XW,q7,q8,fun h=>ue.trans (zw h).symm⟩
    ·exact absurd Rj (c2 j)
   ·have hjb:=(cP.1 hj).1;have XW:iM σ j=some (.blk (nb+(j-pl.length))):=by
     rw[zu,rO,qv (by omega)];exact Ri (by omega)
    have hm:(nb+(j-pl.length),CQ σ b)∈fr:=by
     rw[Kp];refine agK ?_;rw[uY,show pl.length+(j-pl.length)=j by omega];exact hj
    rcases cls (nb+(j-pl.length))with⟨i,b2,c1,c2,c3,c4,c5⟩|⟨j',b2,b',c,b0,q1,q2,q3,q4,q5,q6,q7,q8,q9,ue,Gj,zw⟩|⟨c1,c2,c3⟩
    ·have hi:i=j-pl.length:=by omega
     subst hi;rw[show pl.length+(j-pl.length)=j by omega]at c2 c5;rw[hj]at c2;cases c2;exact⟨_,_,XW,c3,.of σ _,fun _=>c5⟩
    ·rw[Gi _ hm]at q5;cases q5
    ·obtain⟨b',xb,he⟩:=QD (hp:=hp) (l:=fr++bk) (fQ.2 (.inl hm));rw[XV,c1,Gi _ hm]at he;cases he
  ·rw[np]at hj;have:=List.getElem?_eq_none_iff.1 hj;rw[zu,rO,List.getElem?_eq_none_iff,kG,XT];omega
  ·rw[zu,rO]at hj;by_cases eQ:j<pl.length
   ·rw[o6 eQ]at hj;obtain⟨aA,b1,e,_⟩:=zm j _ hj;cases e
   ·have hjb:j-pl.length<bs.length-pl.length:=by
     have:=(cP.1 hj).1;rw[kG,XT]at this;omega
    rw[qv (by omega),Ri hjb]at hj;cases hj
 have hle:Le P w I β hp w' I2 β' gQ:=by
  refine⟨Gh.fI,Gh.dF,fun id blk ae=> ?_,fun id blk blk' b ae cM zx hb=> ?_,fun id e es vers e' ba vers' b q i c t v e1 l ae cM hb bO hv ht hc=> ?_⟩
  ·rcases cls id with⟨i,b2,c1,c2,c3,c4,c5⟩|⟨j',b2,b',c,b0,q1,q2,q3,q4,q5,q6,q7,q8,q9,ue,Gj,zw⟩|⟨c1,c2,c3⟩
   ·rw[ae]at c4;cases c4
   ·rw[ae]at q5;cases q5;exact⟨b',q7,q6,fun _=>ue⟩
   ·exact⟨blk,c1.trans ae,ag.le_refl _,fun _=>c3⟩
  ·rcases cls id with⟨i,b2,c1,c2,c3,c4,c5⟩|⟨j',b2,b',c,b0,q1,q2,q3,q4,q5,q6,q7,q8,q9,ue,Gj,zw⟩|⟨c1,c2,c3⟩
   ·rw[ae]at c4;cases c4
   ·rw[q7]at cM;cases cM;exact Gh.size j' c b2 b q3 (by rw[np];exact q2) (q8.agN zx) (q4.XU.1.trans hb)
   ·rw[c1,ae]at cM;cases cM;simp only[bsize,(other id blk b ae (.root zx hb) c2).2.1]
  ·rcases cls id with⟨i2,b2,c1,c2,c3,c4,c5⟩|⟨j',b2,b',c',b0,q1,q2,q3,q4,q5,q6,q7,q8,q9,ue,Gj,zw⟩|⟨c1,c2,c3⟩
   ·rw[ae]at c4;cases c4
   ·rw[q7]at cM;cases cM;obtain⟨_,_,AY,_,_,k1,k2⟩:=q9 ⟨_,_,_,rfl⟩;change hp id=_ at k1;rw[ae]at k1;cases k1;cases k2;rw[agO bO]at hv;omega
   ·rw[c1,ae]at cM;cases cM;exact⟨l,rfl,hc.mono fun _ _ _ _ h=>(other id _ _ ae (.row hb h) c2).2.1⟩
 have place:∀id blk b,gQ id=some blk→bV P w' (β' id) blk b→(∃j c,pd bs j=some c∧bV P w' (dn j) c b∧iM σ j=some (.blk id))∨(b<w.heap.size∧¬vF P w o hp0 b∧hp id=some blk∧bV P w (β id) blk b):=by
  intro id blk b e1 e3;rcases cls id with⟨i,b2,c1,c2,c3,c4,c5⟩|⟨j',b2,b',c,b0,q1,q2,q3,q4,q5,q6,q7,q8,q9,ue,Gj,zw⟩|⟨c1,c2,c3⟩
  ·rw[c3]at e1;cases e1;rw[c5]at e3;refine .inl ⟨pl.length+i,b2,by rw[np];exact c2,(ma.of σ b2).DD e3,?_⟩;have:=(cP.1 c2).1;rw[zu,rO,qv (by omega),Ri (by omega),c1];congr 3;omega
  ·rw[q7]at e1;cases e1;have zx:b2≠ .dead:=q8.agN e3.alive;rw[ue,←zw zx]at e3;exact .inl ⟨j',b2,by rw[np];exact q2,q8.DD e3,by rw[zu];exact vD (by rw[rO];exact q1)⟩
  ·rw[c1]at e1;rw[c3]at e3;have:=e3.mono (w:=w) fun b hb=>(other id blk b e1 hb c2).2.1;exact .inr ⟨S.h.lt e1 this,(other id blk b e1 this c2).1,e1,this⟩
 have AV:∀b,vF P w o hp0 b∨w.heap.size≤b→M b∨B≤b:=by
  rintro b (h|h)
  ·obtain⟨j,id,b1,i1,i2,i3⟩:=agS b h;exact S.h.own id b1 b i2 i3
  ·exact .inr (lR S.size h)
 have XX:∀j c b,pd bs j=some c→bV P w' (dn j) c b→vF P w o hp0 b∨w.heap.size≤b:=fun j c b h1 h2=>Sc.h.own j c b h1 h2;refine⟨β',hle,⟨⟨fun id blk ae=> ?_,fun i1 i2 b1 b2 b e1 e2 f1 f2=> ?_,fun id blk b ae hb=> ?_,Sc.h.mw⟩,fun b hb hM=> ?_,lR S.size Sc.size,fun b j hb=> ?_,⟨Sc.io.1.trans S.io.1,Sc.io.2.trans S.io.2⟩⟩,A7⟩
 ·rcases cls id with⟨i,b2,c1,c2,c3,c4,c5⟩|⟨j',b2,b',c,b0,q1,q2,q3,q4,q5,q6,q7,q8,q9,ue,Gj,zw⟩|⟨c1,c2,c3⟩
  ·rw[c3]at ae;cases ae;rw[c5];exact A7.agM (Sc.h.rel _ b2 (by rw[np];exact c2)) (.of σ b2)
  ·rw[q7]at ae;cases ae;have:=A7.agM (Sc.h.rel j' b2 (by rw[np];exact q2)) q8;by_cases zx:b2= .dead
   ·subst zx;cases q8;exact .dead
   ·rw[ue,←zw zx];exact this
  ·rw[c1]at ae;rw[c3];exact(S.h.rel id blk ae).mono hle fun b hb=>(other id blk b ae hb c2).2
 ·rcases place i1 b1 b e1 f1 with⟨j1,c1,g1,g2,g3⟩|⟨g1,g2,g3,g4⟩<;>rcases place i2 b2 b e2 f2 with⟨j2,c2,k1,k2,k3⟩|⟨k1,k2,k3,k4⟩
  ·have:=Sc.h.inj j1 j2 c1 c2 b g1 k1 g2 k2;subst this;rw[g3]at k3;cases k3;rfl
  ·rcases XX j1 c1 b g1 g2 with h|h
   ·exact absurd h k2
   ·omega
  ·rcases XX j2 c2 b k1 k2 with h|h
   ·exact absurd h g2
   ·omega
  ·exact S.h.inj i1 i2 _ _ b g3 k3 g4 k4
 ·rcases place id blk b ae hb with⟨j1,c1,g1,g2,g3⟩|⟨g1,g2,g3,g4⟩
  ·exact AV b (XX j1 c1 b g1 g2)
  ·exact S.h.own id blk b g3 g4
 ·refine(Sc.dF b (fY hb S.size) fun hx=> ?_).trans (S.dF b hb hM)
  rcases AV b (.inl hx)with h|h
  ·exact hM h
  ·omega
 ·rcases Sc.new b j hb with h|h|h
  ·exact S.new b j h
  ·exact .inr (AV b (.inl h))
  ·exact .inr (AV b (.inr h))
end
section
variable {P:Program}{A:dM}{w w':World}{I I' I2:Nat→Nat→Prop}{μ β β' dn:Nat→Option Nat}{hp hp' hp0 cE:Nat→Option ag}{C:af}{B:Nat}{M:Nat→Prop}{w0:Start}
theorem agT(hp:Nat→Option ag):∀(a b:List (Nat×ag)),cQ hp (a++b)=cQ (cQ hp b) a
 | [],b=>rfl
 |(i,x)::a,b=>by simp only[List.cons_append,cQ,agT hp a b]
theorem Gk{hp:Nat→Option ag}{l:List (Nat×ag)}{id:Nat}(h:∀q∈l,q.1≠id):cQ hp l id=hp id:=by
 rcases C6 (hp:=hp) (l:=l) (id:=id)with h1|⟨b,hb,_⟩
 all_goals grind
def DF (P : Program) : Prop := ∀ (f : Nat) fn, P.funcs[f]? = some fn → (fn.name == "runtime.NumGoroutine") = false
def Rk(P:Program)(f:FuncId)(e:TypeId):Prop:=
 (∀args w,(callFunc f args).run P w= .ok (.enter f args) w)∧∃t,P.underlying t=some (.slice e)∧
  ∀(s:Value) (w:World) (Q:Ending→World→Prop),(s= .slice none 0 0→Q (.returned (.slice none 0 0)) w)→
   (∀a n c,s= .slice (some a) n c→∃v w',(Builtin.append_ #[t,t] t #[.slice (some ⟨w.heap.size,0,none⟩) 0 0,s]).run P (w.alloc (.cells #[] e))= .ok v w'∧Q (.returned v) w')→
   (s= .slice none 0 0∨∃a n c,s= .slice (some a) n c)→Calls P f #[s] w Q
structure nO(P:Program)(A:dM):Prop where
 count:DF P
 ext:∀f T,A.ext f=some T→∀(b:Nat) (C:Array Value) (w:World),w.heap[b]? =some (.cells C T (0,0))→C.size=P.cellsOf T→(C[0]? =some (.pointer none)∨C[0]? =some (.pointer (some ⟨b,0,none⟩)))→
  (callFunc f #[.pointer (some ⟨b,0,none⟩)]).run P w= .ok (.enter f #[.pointer (some ⟨b,0,none⟩)]) w∧
  Calls P f #[.pointer (some ⟨b,0,none⟩)] w fun e w'=>e= .returned (.tuple #[])∧(w'=w∨w'=w.setCell ⟨b,0,none⟩ (.pointer (some ⟨b,0,none⟩)))
 idle:∀f,A.idle f=true→(∀args w,(callFunc f args).run P w= .ok (.enter f args) w)∧
  ∀args w,CallsD P f args .returning w fun e u' w'=>(∃v,e= .returned v)∧u'= .returning∧w'=w
 vb:∀f e,A.vb f=some e→Rk P f e
theorem nO.here{P:Program}{A:dM}(h:nO P A)(f id:Nat):nO P (A.here f id):=⟨h.count,h.ext,h.idle,h.vb⟩
def Kq(E:FuncId→Bool)(d:Deferred):Prop:= ∃f cap,d.target= .fn (.func f) cap∧E f=true
theorem XY{P:Program}{A:dM}(hP:nO P A){fn:Func}{tmps:Array Value}{R:Ending→World→Prop}{w:World}{v:Value}(hv:(results fn tmps).run P w= .ok v w)(hR:R (.returned v) w):
  ∀ds:List Deferred,(∀d∈ds,Kq A.idle d)→Leaves P fn tmps R ds .returning w
 | [],_=>⟨v,hv,hR⟩
 |d::ds,h=>by
  obtain⟨f,cap,ht,hf⟩:=h d (by simp);obtain⟨k1,k2⟩:=hP.idle f hf;obtain⟨t,das⟩:=d;simp only at ht;subst ht;refine leaves_cons (f:=f) (args:=das++cap) (by simp) ?_ ?_
  ·simp only[invoke];grind
  ·refine(k2 (das++cap) w).mono fun e u' w' hr=> ?_;obtain⟨⟨v',rfl⟩,rfl,rfl⟩:=hr;exact XY hP hv hR ds fun d hd=>h d (j5 _ hd)
def Kr(P:Program)(A:dM)(o:Oper)(a:Act)(w:World)(I:Nat→Nat→Prop)(β:Nat→Option Nat)(hp:Nat→Option ag)(B:Nat)(M:Nat→Prop)(w0:Start)(r:R):Prop:=
 ∀(next:Act→World→Prop) (Q:Exit→Act→World→Prop),
  (∀v w' I' β' ds,Le P w I β hp w' I' β' (cQ hp r.upd)→aK P w' I' β' (cQ hp r.upd) B M w0→ah P w' I' β' (cQ hp r.upd) v r.v→(∀d∈ds,d∈a.defers∨Kq A.idle d)→next ({a with defers:=ds}.put o.dst v) w')→o.wp P a w next Q
theorem xd.step{o:Oper}{a:Act}{r:R}(h:xd P ((execOp a.eval o).run P w) w I β hp B M w0 r):Kr P A o a w I β hp B M w0 r:=by
 obtain⟨v,w',I',β',h1,h2,h3,h4⟩:=h;intro next Q hn
 unfold Oper.wp;rcases h1 with h1|⟨h1,rfl⟩
 ·rw[h1];exact hn v w' I' β' a.defers h2 h3 h4 fun d hd=> .inl hd
 ·rw[h1];exact hn _ w' I' β' a.defers h2 h3 h4 fun d hd=> .inl hd
theorem agU:∀(l:List (Nat×VS)),ve l=AL (l.map (·.2))
 | []=>rfl
 |(_,s)::l=>by simp only[ve,nY,AL,agU l]
theorem aq6(hC:qL P A C)(S:aK P w I β hp B M w0)(hg:nh P A.aV w I){vals:List Value}{args:List V}{nb key:Nat}{f:FuncId}{r:R}{rd:List Nat}(hlen:vals.length=args.length)
  (dz:∀(j:Nat) v x,vals[j]? =some v→args[j]? =some x→ah P w I β hp v x) (h:(Jq P A nb key f args).run C hp=some (r,rd)):
  ∃fn c,P.funcs[f]? =some fn∧fn.body=some c∧Calls P f vals.toArray w fun e w'=> ∃v I' β',e= .returned v∧Le P w I β hp w' I' β' (cQ hp r.upd)∧aK P w' I' β' (cQ hp r.upd) B M w0∧ah P w' I' β' (cQ hp r.upd) v r.v:=by
 unfold Jq at h;obtain⟨agV,h0⟩:=aW h;clear h;rw[bU]at agV;subst agV;obtain⟨h1,kQ,d1,u1,a1,a2,a3,a5,a4⟩:=XQ S h0 hlen dz;obtain⟨h2,Bj,d2,u2,b1,b2,b3,b4⟩:=agB S a1;clear h0 a1;obtain⟨hc,h3⟩:=aW b1;clear b1;simp only[bc,bU,qu]at hc;obtain⟨gj,xB⟩:=hc;have Rl:=a2.trans b2;have wE:h2.ds=d1++d2:=by have:=Rl.ds;grind
 have zp:h2.upd=u1++u2:=by have:=Rl.upd;grind
 have kf:(h2.pl.map Place.id).Nodup:=Rl.nodup (by simp);obtain⟨c1,o,c2,c3⟩:=b4 [];simp only[uZ]at c1 c2 c3;cases Ks:C key h2.ds with
 |none=>
  simp only[Rd.run,Ks]at h3;cases h3
 |some es=>
  have rI:∃jn,(Jp P (A.so key es) nb h2 (A.lv key es)).run C hp=some (r,jn):=by
   obtain⟨x,hx,e⟩:=bind_some h3;rw[Ks]at hx;cases hx;unfold dM.so dM.lv;cases dr:A.alt key with
   |none=>grind
   |some S2=>
    rw[dr]at e;simp only[Rd.run]at e;grind
  clear h3;obtain⟨jn,h3⟩:=rI;unfold Jp at h3;simp only at h3;generalize ni:jC (A.so key es).dI ((A.lv key es).drop (ve (A.so key es).cY))=bs at h3;generalize zu:h2.pl++AN nb (bs.length-h2.pl.length)=σ at h3;generalize Kp:y8 σ nb (bs.drop h2.pl.length)=fr at h3;obtain⟨p0,bk,rd4,p1,p2,_,p3⟩:=agI h3;obtain⟨Gi,rd5,p4⟩:=agL p1;obtain⟨DG,p4⟩:=aW p4;obtain rfl:=bG p4;have qC:h2.pl.length≤bs.length:=by grind
  have DE:∀q∈bk,∃(j:Nat) (b:ag),h2.pl[j]? =some (.blk q.1)∧bs[j]? =some b∧ma σ b q.2∧Ko hp q:=by
   intro q hq;rcases p2 q hq with hx|⟨j,b,k1,k2,k3,k4⟩
   ·simp at hx
   ·have hj:=(cP.1 k1).1;rw[mL hj]at k2;exact⟨j,b,k1,k2,k3,k4⟩
  obtain⟨fn,c,hf,hb,XZ⟩:=hC key h2.ds es Ks;refine⟨fn,c,hf,hb,?_⟩;have hmb:jC (A.sin key).dI (h2.ds.drop (ve (A.sin key).cY))=jC (A.sin key).dI d2:=by
   rw[wE,agU,Re a3]
  have X0:(cG (A.sin key) h2.ds).hp=pd (jC (A.sin key).dI d2):=by
   simp only[cG,mk,hmb]
  have hl:∀j blk,(cG (A.sin key) h2.ds).hp j=some blk→∃p,iM h2.pl j=some p∧iz P w β hp p (o j) blk:=by
   intro j blk hj;rw[X0,np]at hj;grind
  have hd:∀j,j<h2.pl.length→∃blk,(cG (A.sin key) h2.ds).hp j=some blk:=by
   intro j hj;rw[X0,np];simp_all
  have agW:Ki P w β hp h2.pl o (cG (A.sin key) h2.ds).hp:=by
   intro j p hj;obtain⟨blk,k1⟩:=hd j (by rw[rO]at hj;grind);grind
  have i1:∀b j,I b j→oj P w I β hp h2.upd b j:=fun b j h=> .inl h;have entry:=aq1 (hp0:=(cG (A.sin key) h2.ds).hp) S kf xB hl (fun dU j blk hj=>by
   have ja:=hj;rw[X0,np]at ja;exact c3 (oj P w I β hp h2.upd) o _ i1 (fun q hq b j hb=> .inr ⟨q,by grind,hb⟩) h2.pl [] (by simp) agW j blk ja (dU j blk hj)) (fun b j h=>h.elim (S.h.mw b j) fun⟨p,_,blk,g1,g2⟩=>S.h.lt g1 g2.own)
  have aq7:vals.length=(A.sin key).cY.length:=by grind
  have ha:=XZ w (oj P w I β hp h2.upd) o vals entry (hg.mono i1 fun _ _ _=>rfl) aq7 fun j v x hj hx=>by
   rw[wE]at hx;exact(((a4.later b2) (oj P w I β hp h2.upd) o _ i1 (fun q hq b j hb=> .inr ⟨q,by grind,hb⟩) h2.pl [] (by simp) agW) d2).2 j v x hj hx
  refine ha.mono fun e w' Kt=> ?_;obtain⟨v,I2,dn,rfl,ha⟩:=Kt;have Rm:(cG (A.so key es) (A.lv key es)).hp=pd bs:=by simp only[cG,mk,ni]
  cases agX:(A.so key es).safe P with
  |true=>
   simp only[cond_true,uZ];have Ga:∀b j,I b j→I2 b j:=fun b j h=>ha.le.fI b j (i1 b j h);obtain⟨s1,s2⟩:=aq4 agX Ga ha.Gg i1;have Gh:qK w I o (cG (A.sin key) h2.ds).hp w' I dn (pd bs):=by
    rw[←Rm];exact⟨fun _ _ h=>h,fun b j h=>ha.le.dF b j (i1 b j h),ha.le.blk,ha.le.size⟩
   obtain⟨β',k1,k2,k3⟩:=agQ S zu.symm Kp.symm kf qC p3 DE hl hd (by rw[←Rm];exact⟨s1.h,s1.dF,s1.size,fun b j h=> .inl h,s1.io⟩) Gh Gi;exact⟨v,I,β',rfl,k1,k2,k3.val (by have:=s2 v ha.res;grind)⟩
  |false=>
   simp only[cond_false];rw[agX,IV,jk]at DG;have Gl:∀q∈h2.upd,FO hp q:=fun q hq=>by
    have Bd:=DG q hq;rcases Rl.Kj q (zp▸hq)with h|⟨T,cs,h,_⟩
    all_goals grind
   obtain⟨xi,S1⟩:=JH S Gl;rw[←kH,agT];have xD:∀p∈h2.pl,cQ hp h2.upd p.id=hp p.id:=fun p hp=>Gk fun q hq e=>
    Rg xB (iZ.2 ⟨q,hq,rfl⟩) (e▸iZ.2 ⟨p,hp,rfl⟩)
   have aq8:∀q∈bk,∃(j:Nat) (b:ag),h2.pl[j]? =some (.blk q.1)∧bs[j]? =some b∧ma σ b q.2∧Ko (cQ hp h2.upd) q:=by
    intro q hq;obtain⟨j,b,k1,k2,k3,k4⟩:=DE q hq;refine⟨j,b,k1,k2,k3,fun hn=> ?_⟩;have:=xD _ (o4 k1);simp only[Place.id]at this;grind
   have Wy:∀j blk,(cG (A.sin key) h2.ds).hp j=some blk→∃p,iM h2.pl j=some p∧iz P w β (cQ hp h2.upd) p (o j) blk:=by
    intro j blk hj;obtain⟨p,k1,k2⟩:=hl j blk hj;exact⟨p,k1,k2.other (xD p (by rw[rO]at k1;grind))⟩
   have aq9:∀q∈fr,cQ hp h2.upd q.1=none:=by
    intro q hq;rw[Gk fun q' eC e=> ?_]
    ·grind
    ·obtain⟨e1,dT,_,h5⟩:=Gl q' eC;grind
   obtain⟨β',k1,k2,k3⟩:=agQ S1 zu.symm Kp.symm kf qC p3 aq8 Wy hd (by rw[←Rm];exact ha.Gg) (by rw[←Rm];exact ha.le) aq9;exact⟨v,I2,β',rfl,xi.trans k1,k2,k3.val (by have:=ha.res;grind)⟩
theorem agY(hC:qL P A C)(hP:nO P A)(S:aK P w I β hp B M w0)(hg:nh P A.aV w I){a:Act}{nb key:Nat}{o:Oper}{f:FuncId}{vals:List Value}{args:List V}(hlen:vals.length=args.length)
  (dz:∀(j:Nat) v x,vals[j]? =some v→args[j]? =some x→ah P w I β hp v x) {r:R} {rd:List Nat} (h:(Jq P A nb key f args).run C hp=some (r,rd))
  (hex:(execOp a.eval o).run P w=(callFunc f vals.toArray).run P w):Kr P A o a w I β hp B M w0 r:=by
 intro next Q hn
 obtain⟨fn,c,hf,hb,XZ⟩:=aq6 hC S hg hlen dz h;unfold Oper.wp;rw[hex,MuLone.run_callFunc_enter hf (hP.count f _ hf) hb,Oper.upon_enter];refine XZ.mono fun e w' Kt=> ?_;obtain⟨v,I2,dn,rfl,k1,k2,k3⟩:=Kt;exact hn v w' I2 dn a.defers k1 k2 k3 fun d hd=> .inl hd
theorem pW.args{a:Act}{sl:Nat→V}(hs:pW P w I β hp a sl)(hg:nh P A.aV w I){args:Array Operand}{ts:Array TypeId}(b7:args.size=ts.size):
  (args.map a.eval).toList.length=((args.toList.zip ts.toList).map fun p=>bu P A.aV p.2 sl p.1).length∧
  ∀(j:Nat) v x,(args.map a.eval).toList[j]? =some v→((args.toList.zip ts.toList).map fun p=>bu P A.aV p.2 sl p.1)[j]? =some x→ah P w I β hp v x:=by
 refine⟨by simp;omega,fun j v x hv hx=> ?_⟩;simp only[Array.toList_map,mY,List.getElem?_zip_eq_some,Option.map_eq_some_iff]at hv hx;obtain⟨x1,oO,rfl⟩:=hv;obtain⟨⟨y1,t1⟩,⟨Rn,_⟩,rfl⟩:=hx;rw[oO]at Rn;cases Rn;exact hs.ev hg t1 _
theorem ara(hP:nO P A)(S:aK P w I β hp B M w0)(hg:nh P A.aV w I){a:Act}{sl:Nat→V}(hs:pW P w I β hp a sl){dst:Option Tmp}{ty e:TypeId}{pos:String}{after:Array Edge}{guard:Option (Nat×Bool)}{f:FuncId}
  {args:Array Operand} {argTypes:Array TypeId} {nb:Nat} {r:R} {rd:List Nat} (tX:A.vb f=some e)
  (h:((match args.toList with
    | [x]=> .aQ (dZ P e) (AK e (bu P A.aV ty sl x) fun xs=> .aQ (Nat.ble (xs.length*P.bytesOf e) bf) (mr nb (.arr e xs false) (.whole e nb) []))
    |_=> .fail):Rd R).run C hp=some (r,rd)):Kr P A (Oper.mk dst (.call (Go.Call.mk (.value (.func f)) args argTypes)) ty pos after guard) a w I β hp B M w0 r:=by
 cases ha:args.toList with
 |nil=>rw[ha]at h;cases h
 |cons x l=>
  rw[ha]at h;cases l with
  |cons _ _=>cases h
  |nil=>
   simp only at h;have e1:args= #[x]:=by grind
   subst e1;have hx:=hs.ev hg ty x;obtain⟨aD,h⟩:=aW h;have fin:∀{w1:World} {xk:Nat→Option Nat},(∀id blk,hp id=some blk→fS P w1 I xk hp (xk id) blk)→ah P w1 I xk hp (a.eval x) (bu P A.aV ty sl x)→∃xs,(((∃a',a.eval x= .slice a' 0 0)∧xs=[])∨∃a' c news,Row P w1 I e (a.eval x) xs a' c news)∧
     xs.length*P.bytesOf e≤bf∧hp nb=none∧r=⟨.whole e nb,[(nb,.arr e xs false)]⟩:=by
    intro w1 xk h1 h2;obtain⟨xs,rM,l,h⟩:=QZ h1 aD h2 h;obtain⟨fc,h⟩:=aW h;rw[fG]at fc;obtain⟨hn,rfl⟩:=pn h;grind
   obtain⟨c1,t,hu,c2⟩:=hP.vb f e tX;intro next Q xt
   unfold Oper.wp;have e2:(execOp a.eval ⟨dst,.call ⟨.value (.func f),#[x],argTypes⟩,ty,pos,after,guard⟩).run P w= .ok (.enter f #[a.eval x]) w:=by
    have kR:a.eval (.func f)= .func (.func f) #[] #[]:=rfl;simpa[execOp,resolve,kR,Deferred.ofValue,invoke]using c1 #[a.eval x] w
   rw[e2,Oper.upon_enter];refine c2 _ w _ (fun Ku=> ?_) (fun b n c F3=> ?_) ?_
   ·obtain⟨xs,rM,fc,hn,rfl⟩:=fin S.h.rel hx;have nk:xs=[]:=by
     rcases rM with⟨_,h⟩|⟨a,c,news,hr⟩
     ·exact h
     ·have:=hr.val.symm.trans Ku;cases this
    subst nk;obtain⟨a1,a2⟩:=JI S e hn;exact xt _ w I _ a.defers a1 a2 (.fk (cN _ _ _) (cN _ _ _)) fun d hd=> .inl hd
   ·obtain⟨m1,m2⟩:=ao9 (w':=w.alloc (.cells #[] e)) S (fun b hb=>heap_alloc_old w _ b hb) (by simp) ⟨rfl,rfl⟩;obtain⟨xs,rM,fc,hn,rfl⟩:=fin m2.h.rel (hx.mono m1);obtain⟨v,w',β',a1,a2,a3,a4⟩:=Xf (ty:=t) (a0:=some ⟨w.heap.size,0,none⟩) m2 hu aD hn fc rM;exact⟨v,w',a1,xt v w' I β' a.defers (m1.trans a2) a3 a4 fun d hd=> .inl hd⟩
   ·obtain⟨xs,rM,fc,hn,rfl⟩:=fin S.h.rel hx;rcases rM with⟨⟨b,h⟩,_⟩|⟨b,c,news,hr⟩
    ·rw[h];cases b with
     |none=>grind
     |some b=>grind
    ·exact .inr ⟨_,_,_,hr.val⟩
theorem arb(hP:nO P A)(S:aK P w I β hp B M w0)(hg:nh P A.aV w I){a:Act}{sl:Nat→V}(hs:pW P w I β hp a sl){dst:Option Tmp}{ty T0:TypeId}{pos:String}{after:Array Edge}{guard:Option (Nat×Bool)}{f:FuncId}
  {args:Array Operand} {argTypes:Array TypeId} {r:R} {rd:List Nat} (Kv:A.ext f=some T0)
  (h:((match args.toList with
   | [x]=>
    match bu P A.aV ty sl x with
    | .ptr id i c=>Rd.get id fun
     |some (.var T cs)=> .aQ (Nat.beq T T0&&(wQ P T&&(Nat.beq cs.length (P.cellsOf T)&&(Nat.beq i 0&&Nat.beq c 0)))) (.ret ⟨.bN [],[(id,.var T (.undef::cs.tail))]⟩)
     |_=> .fail
    |_=> .fail
   |_=> .fail):Rd R).run C hp=some (r,rd)):Kr P A (Oper.mk dst (.call (Go.Call.mk (.value (.func f)) args argTypes)) ty pos after guard) a w I β hp B M w0 r:=by
 cases ha:args.toList with
 |nil=>rw[ha]at h;cases h
 |cons x l=>
  rw[ha]at h;cases l with
  |cons _ _=>cases h
  |nil=>
   simp only at h;have e1:args= #[x]:=by grind
   subst e1;have hx:=hs.ev hg ty x;cases ln:bu P A.aV ty sl x<;>rw[ln]at h hx<;>simp only at h<;>first|(cases h;done)|skip
   rename_i id i c;obtain⟨l,h1⟩:=run_get h;cases ae:hp id with
   |none=>rw[ae]at h1;cases h1
   |some blk=>
    rw[ae]at h1;cases blk<;>simp only at h1<;>first|(cases h1;done)|skip
    rename_i T cs;obtain⟨h2,h3⟩:=aW h1;simp only[bc,bU]at h2;obtain⟨rfl,fB,hlc,rfl,rfl⟩:=h2;obtain rfl:=bG h3;obtain⟨b,hb,he⟩:=hx.oL ae (by simp);have hr:=S.h.rel id _ ae;rw[hb]at hr;cases hr with
    |@var _ b' Ca _ aJ hh b7 hI nk my=>
     cases aJ;have F8:a.eval x= .pointer (some ⟨b,0,none⟩):=by grind
     obtain⟨q1,q2⟩:=hP.ext f T Kv b Ca w hh (b7.trans hlc) (my fB);have h0:0<Ca.size:=by
      rcases my fB with k|k<;>exact(AD.1 k).1
     have Bi:(V.undef::cs.tail).length=cs.length:=by
      grind
     have rel:∀(C':Array Value),(∀j,0<j→C'[j]? =Ca[j]?)→∀(j:Nat) v y,C'[j]? =some v→(V.undef::cs.tail)[j]? =some y→ah P w I β hp v y:=by
      intro C' QS j v y hj hy;cases j with
      |zero=>simp at hy;subst hy;exact .undef
      |succ j=>
       grind
     have fin:∀w' C',(∀b',b'≠b→w'.heap[b']? =w.heap[b']?)→w'.heap[b]? =some (.cells C' T (0,0))→C'.size=Ca.size→w.heap.size≤w'.heap.size→w'.os=w.os∧w'.output=w.output→
       (∀j,0<j→C'[j]? =Ca[j]?)→(C'[0]? =some (.pointer none)∨C'[0]? =some (.pointer (some ⟨b,0,none⟩)))→
       Le P w I β hp w' I β (ar hp id (some (.var T (V.undef::cs.tail))))∧aK P w' I β (ar hp id (some (.var T (V.undef::cs.tail)))) B M w0:=by
      intro w' C' k1 k2 k3 k4 k5 k6 k7;exact JJ (w':=w') (blk':= .var T (V.undef::cs.tail)) S ae (by simp) rfl hb hI (by simp) k1 (by rw[nK k2,nK hh,k3]) k4 k5 fun hle=>
       .var rfl k2 (by omega) hI (fun j v y hj hy=>(rel C' k6 j v y hj hy).mono hle) fun _=>k7
     intro next Q hn
     unfold Oper.wp;have e2:(execOp a.eval ⟨dst,.call ⟨.value (.func f),#[x],argTypes⟩,ty,pos,after,guard⟩).run P w= .ok (.enter f #[.pointer (some ⟨b,0,none⟩)]) w:=by
      have kR:a.eval (.func f)= .func (.func f) #[] #[]:=rfl;simpa[execOp,resolve,kR,Deferred.ofValue,invoke,F8]using q1
     rw[e2,Oper.upon_enter];refine q2.mono fun e w' Kt=> ?_;obtain⟨rfl,hw⟩:=Kt;have agZ:Le P w I β hp w' I β (ar hp id (some (.var T (V.undef::cs.tail))))∧aK P w' I β (ar hp id (some (.var T (V.undef::cs.tail)))) B M w0:=by
      rcases hw with rfl|rfl
      ·exact fin w' Ca (fun _ _=>rfl) hh rfl (aR _) ⟨rfl,rfl⟩ (fun _ _=>rfl) (my fB)
      ·refine fin (w.setCell ⟨b,0,none⟩ (.pointer (some ⟨b,0,none⟩))) (Ca.setIfInBounds 0 (.pointer (some ⟨b,0,none⟩))) (fun b' bz=> ?_) ?_ (by simp) (by simp_all) ⟨rfl,rfl⟩ (fun j hj=> ?_) (.inr ?_)
       ·simp only[World.setCell,PT];grind
       ·simp[World.setCell,PT,hh]
       all_goals grind
     exact hn (.tuple #[]) w' I β a.defers agZ.1 agZ.2 (.bN rfl fun j v y hj _=>by simp at hj) fun d hd=> .inl hd
theorem arc(hC:qL P A C)(hP:nO P A)(S:aK P w I β hp B M w0)(hg:nh P A.aV w I){a:Act}{sl:Nat→V}(hs:pW P w I β hp a sl){ix nb:Nat}{o:Oper}{r:R}{rd:List Nat}
  (h:(nF P A sl ix nb o).run C hp=some (r,rd)):Kr P A o a w I β hp B M w0 r:=by
 cases hc:XJ o.op with
 |false=>exact(aqI S hg hs hc h).step
 |true=>
  obtain⟨dst,op,ty,pos,after,guard⟩:=o;cases op<;>simp only[XJ]at hc<;>first|(cases hc;done)|skip
  case defer c=>simp only[nF]at h;cases h
  rename_i c;obtain⟨callee,args,argTypes⟩:=c;cases callee with
  |invoke r m=>cases hc
  |builtin b=>cases hc
  |value f=>
   cases f with
   |func f=>
    simp only[nF]at h;cases Kv:A.ext f with
    |some T0=>
     rw[Kv]at h;simp only at h;exact arb hP S hg hs Kv h
    |none=>
    rw[Kv]at h;simp only at h;cases tX:A.vb f with
    |some e0=>
     rw[tX]at h;simp only at h;exact ara hP S hg hs tX h
    |none=>
    rw[tX]at h;simp only at h;obtain⟨h1,h2⟩:=aW h;rw[bU]at h1;obtain⟨k1,k2⟩:=hs.args hg h1;refine agY hC hP S hg k1 k2 h2 ?_;have e1:(args.map a.eval).toList.toArray=args.map a.eval:=Array.toArray_toList;rw[e1];simp[execOp,resolve,Act.eval,Deferred.ofValue,invoke]
   |tmp t=>
    simp only[nF]at h;cases fB:sl t<;>rw[fB]at h<;>simp only at h<;>first|(cases h;done)|skip
    rename_i f xs ys;obtain⟨h1,h2⟩:=aW h;rw[bU]at h1;obtain⟨k1,k2⟩:=hs.args hg h1;have hv:=hs t;rw[fB]at hv;generalize Ka:a.tmps.getD t undef=vt at hv;cases hv with
    |@fn _ fs cs _ _ q1 q2 q3 q4=>
     have l1:fs.toList.length=xs.length:=by omega
     have l3:cs.toList.length=ys.length:=by omega
     have r1:∀(j:Nat) v x,fs.toList[j]? =some v→xs[j]? =some x→ah P w I β hp v x:=fun j v x hj hx=>q2 j v x (by grind) hx;have r3:∀(j:Nat) v x,cs.toList[j]? =some v→ys[j]? =some x→ah P w I β hp v x:=fun j v x hj hx=>q4 j v x (by grind) hx;refine agY hC hP S hg (vals:=fs.toList++(args.map a.eval).toList++cs.toList) (args:=xs++((args.toList.zip argTypes.toList).map fun p=>bu P A.aV p.2 sl p.1)++ys) (by grind) ?_ h2 ?_
     ·grind
     ·have e1:(fs.toList++(args.map a.eval).toList++cs.toList).toArray=fs++args.map a.eval++cs:=by
       grind
      rw[e1];have kR:a.eval (.tmp t)= .func (.func f) fs cs:=Ka;simp[execOp,resolve,kR,Deferred.ofValue,invoke]
   |_=>cases hc
end
section
variable {P:Program}{A:dM}{w w':World}{I I' I2:Nat→Nat→Prop}{μ β β':Nat→Option Nat}{hp hp':Nat→Option ag}{C:af}{B:Nat}{M:Nat→Prop}{w0:Start}
structure kg(P:Program)(E:FuncId→Bool)(G:Nat→V)(w:World)(I:Nat→Nat→Prop)(β:Nat→Option Nat)(n:Nat)(a:Act)(st:St):Prop where
 sl:pW P w I β st.hp a st.sl
 size:a.tmps.size=n
 defers:∀d∈a.defers,Kq E d
 aV:nh P G w I
theorem X1{E:FuncId→Bool}{G:Nat→V}{n:Nat}{a:Act}{st:St}{o:Oper}{v:Value}{x:V}{hp':Nat→Option ag}{ds:List Deferred}(h:kg P E G w I β n a st)(hle:Le P w I β st.hp w' I' β' hp')(hd:AR o n=true)
  (hv:ah P w' I' β' hp' v x) (wE:∀d∈ds,d∈a.defers∨Kq E d):kg P E G w' I' β' n ({a with defers:=ds}.put o.dst v) ⟨fy st.sl o.dst x,hp',st.nb⟩:=by
 have hdf:∀d∈ds,Kq E d:=fun d hd=>(wE d hd).elim (h.defers d) id;cases ard:o.dst with
 |none=>exact⟨fun k=>(h.sl k).mono hle,h.size,hdf,h.aV.mono hle.fI hle.dF⟩
 |some d=>
  have bO:d<a.tmps.size:=by
   unfold AR at hd;rw[ard]at hd;rw[h.size];simpa using hd
  refine⟨fun k=> ?_,by simp[Act.put,h.size],hdf,h.aV.mono hle.fI hle.dF⟩;simp only[Act.put,fy,ar];cases hb:Nat.beq k d with
  |true=>
   rw[bU]at hb;subst hb;simpa[bO]using hv
  |false=>
   have bz:d≠k:=fun e=>by rw[e,nX]at hb;cases hb
   have:=(h.sl k).mono hle;simpa[Array.getElem?_setIfInBounds_ne bz]using this
theorem ag0{E:FuncId→Bool}{G:Nat→V}{n:Nat}{a:Act}{st:St}{d:Nat}{b:Bool}(h:kg P E G w I β n a st)(hd:st.sl d= .bool b):a.tmps[d]? =some (.bool b):=by
 have:=h.sl d;rw[hd]at this;have:=this.qD;cases ht:a.tmps[d]? with
 |none=>simp[ht]at this;cases this
 |some v=>simp[ht]at this;rw[this]
theorem are{x:V}{b:Bool}(h:rn x=some (some b)):x= .bool b:=by
 cases x with
 |bool c=>simp only[rn]at h;injection h with h;injection h with h;rw[h]
 |bN vs=>cases vs<;>simp[rn]at h
 |_=>simp[rn]at h
theorem arf{x:V}(h:rn x=some none):x= .bN []:=by
 cases x with
 |bN vs=>cases vs with
  |nil=>rfl
  |cons _ _=>simp[rn]at h
 |bool c=>simp[rn]at h
 |_=>simp[rn]at h
theorem ah.arh{v:Value}(h:ah P w I β hp v (.bN [])):v= .tuple #[]:=by
 cases h with
 |@bN cs _ hs _=>
  have:cs= #[]:=by
   apply Array.eq_empty_of_size_eq_zero;simpa using hs
  rw[this]
theorem ah.ag1:ah P w I β hp Go.undef (.bN []):= .bN (by rfl) (fun j v x _ hx=>by simp at hx)
theorem ag2(hC:qL P A C)(hP:nO P A){ops:Array Oper}{n i nb:Nat}{o:Oper}(ho:ops[i]? =some o){a:Act}{st st':St}{R W:List Nat}(S:aK P w I β st.hp B M w0)(hA:kg P A.idle A.aV w I β n a st)
  (h:kL P A C n ops i o nb st=some (st',R,W)) {K:Act→World→Prop} {Q:Exit→Act→World→Prop}
  (hK:∀a' w' I' β',Le P w I β st.hp w' I' β' st'.hp→aK P w' I' β' st'.hp B M w0→kg P A.idle A.aV w' I' β' n a' st'→K a' w'):wpOp P ops Q i K a w:=by
 unfold kL at h;cases hd:AR o n with
 |false=>rw[hd]at h;cases h
 |true=>
  rw[hd]at h;simp only[cond_true]at h;have go:∀{X2:St} {R W:List Nat},(((nF P A st.sl i (nb+64*i) o).run C st.hp).bind fun r=>some ((⟨fy st.sl o.dst r.1.v,cQ st.hp r.1.upd,st.nb⟩:St),za r.2 r.1.upd,lU st.hp r.1.upd))=some (X2,R,W)→X2=st'→
    o.wp P a w K Q:=by
   intro X2 R W h e;obtain⟨⟨r,rd⟩,h1,h2⟩:=bind_some h;cases h2;subst e;exact arc hC hP S hA.aV hA.sl h1 K Q fun v w' I' β' ds k1 k2 k3 k4=>hK _ w' I' β' k1 k2 (X1 hA k1 hd k3 k4)
  unfold wpOp;rw[ho];simp only;cases hg:o.guard with
  |none=>
   rw[hg]at h;simp only[Region.wanted,hg,rj];exact .inl (go h rfl)
  |some gw=>
   obtain⟨g,want⟩:=gw;rw[hg]at h;simp only at h;cases rQ:(ops[g]?).bind (·.dst)with
   |none=>rw[rQ]at h;cases h
   |some d=>
    rw[rQ]at h;simp only at h;cases sP:rn (st.sl d)with
    |none=>rw[sP]at h;cases h
    |some ob=>
    rw[sP]at h;cases ob with
    |none=>
     have F3:=arf sP;have hy:yielded ops a.tmps g=none:=by
      unfold yielded;rw[rQ];have:=hA.sl d;rw[F3]at this;have hu:=ah.arh this;simp only[Option.bind_some];cases ht:a.tmps[d]? with
      |none=>rfl
      |some v=>simp[ht]at hu;subst hu;rfl
     simp only[Region.wanted,hg,hy];injection h with h;injection h with h3 h4;subst h3;have h2:((none:Option Bool)==some want)=false:=rfl;simp only[h2,PW,rh];exact hK _ w I β (Le.refl w I β st.hp) S (X1 (ds:=a.defers) hA (Le.refl w I β st.hp) hd ah.ag1 fun d h=> .inl h)
    |some b=>
    simp only at h;have F3:=are sP;have hy:yielded ops a.tmps g=some b:=by
     unfold yielded;rw[rQ];simp only[Option.bind_some,ag0 hA F3]
    simp only[Region.wanted,hg,hy];by_cases hb:b=want
    ·subst hb;simp only[IZ,cond_true]at h;simp only[IZ,rj];exact .inl (go h rfl)
    ·have h1:(b==want)=false:=by simp[hb]
     have h2:(some b==some want)=false:=by simp[hb]
     rw[h1]at h;simp only[cond_false]at h;injection h with h;injection h with h3 h4;subst h3;simp only[h2,PW,rh];exact hK _ w I β (Le.refl w I β st.hp) S (X1 (ds:=a.defers) hA (Le.refl w I β st.hp) hd ah.ag1 fun d h=> .inl h)
def DH(hp hp':Nat→Option ag)(c:Nat):Prop:=hp' c=hp c∧(KB≤c→mj (hp' (c-KB))=mj (hp (c-KB)))
theorem DH.symm{c:Nat}(h:DH hp hp' c):DH hp' hp c:=⟨h.1.symm,fun hc=>(h.2 hc).symm⟩
theorem Bk{α:Type}:∀{p:Rd α} {r:α} {rd:List Nat},p.run C hp=some (r,rd)→(∀id∈rd,DH hp hp' id)→p.run C hp'=some (r,rd)
 | .ret a,r,rd,h,_=>h
 | .fail,r,rd,h,_=>by cases h
 | .get id k,r,rd,h,he=>by
  obtain⟨x,h1,h2⟩:=bind_some h;cases h2;have e1:hp' id=hp id:=(he id (by simp)).1;have:=Bk (p:=k (hp id)) (r:=x.1) (rd:=x.2) h1 (fun i hi=>he i (by simp[hi]));simp only[Rd.run,e1,this,Option.bind_some]
 | .live id ok k,r,rd,h,he=>by
  simp only[Rd.run]at h⊢;cases hk:ok (mj (hp id))with
  |false=>rw[hk]at h;cases h
  |true=>
   rw[hk]at h;obtain⟨x,h1,h2⟩:=bind_some h;cases h2;have e1:mj (hp' id)=mj (hp id):=by
    have:=(he (id+KB) (by simp)).2 (Nat.le_add_left _ _);rwa [Nat.add_sub_cancel]at this
   have:=Bk (p:=k) (r:=x.1) (rd:=x.2) h1 (fun i hi=>he i (by simp[hi]));rw[e1,hk,this];rfl
 | .opt o k,r,rd,h,he=>by
  obtain⟨x,h1,h2⟩:=bind_some h;simp only[Rd.run,h1,Option.bind_some];exact Bk h2 he
 | .aQ b k,r,rd,h,he=>by
  obtain⟨h1,h2⟩:=aW h;simp only[Rd.run,h1,cond_true];exact Bk h2 he
 | .call key ds k,r,rd,h,he=>by
  obtain⟨x,h1,h2⟩:=bind_some h;simp only[Rd.run,h1,Option.bind_some];exact Bk h2 he
 | .alt true x y,r,rd,h,he=>Bk (p:=x) h he
 | .alt false x y,r,rd,h,he=>Bk (p:=y) h he
theorem ari{G:Nat→V}{sl sl':Nat→V}{t:TypeId}{x:Operand}(h:∀k,x= .tmp k→sl k=sl' k):bu P G t sl x=bu P G t sl' x:=by
 cases x with
 |tmp k=>exact h k rfl
 |_=>rfl
theorem arj{sl sl':Nat→V}{ix nb:Nat}{o:Oper}(h:∀x∈o.op.operands,∀k,x= .tmp k→sl k=sl' k):nF P A sl ix nb o=nF P A sl' ix nb o:=by
 have kR:∀t x,x∈o.op.operands→bu P A.aV t sl x=bu P A.aV t sl' x:=fun t x hx=>ari (h x hx);obtain⟨dst,op,ty,pos,after,guard⟩:=o;have ag3:∀(t:TypeId) (ps:Array (Nat×Operand)),(∀x∈ps.map (·.2),bu P A.aV t sl x=bu P A.aV t sl' x)→
   (ps.toList.map fun p=>(p.1,bu P A.aV t sl p.2))=ps.toList.map fun p=>(p.1,bu P A.aV t sl' p.2):=fun t ps hp=>
  rl fun p hm=>by rw[hp p.2 (Array.mem_map.2 ⟨p,wK.1 hm,rfl⟩)]
 have ark:∀(t:TypeId) (ps:Array (Nat×Operand)),(∀x∈ps.map (·.2),bu P A.aV t sl x=bu P A.aV t sl' x)→
   (ps.toList.map fun p=>(bu P A.aV t sl p.2).cells)=ps.toList.map fun p=>(bu P A.aV t sl' p.2).cells:=fun t ps hp=>
  rl fun p hm=>by rw[hp p.2 (Array.mem_map.2 ⟨p,wK.1 hm,rfl⟩)]
 cases op<;>simp only[Op.operands]at kR<;>simp only[nF]
 case pick c x y=>rw[kR ty c (by simp),kR ty x (by simp),kR ty y (by simp)]
 case build t ps=>rw[ag3 ty ps fun x hx=>kR ty x (by simpa using hx),ark ty ps fun x hx=>kR ty x (by simpa using hx)]
 case buildSlice t len ps=>
  split
  ·rename_i e _;rw[ag3 e ps fun x hx=>kR e x (by simpa using hx)]
  ·rfl
 case slice t x lo hi mx=>
  cases mx with
  |some m=>
   have e1:lo.map (bu P A.aV 0 sl)=lo.map (bu P A.aV 0 sl'):=by
    cases lo with
    |none=>rfl
    |some l=>simp only[Option.map_some,kR 0 l (by simp)]
   have e2:hi.map (bu P A.aV 0 sl)=hi.map (bu P A.aV 0 sl'):=by
    cases hi with
    |none=>rfl
    |some l=>simp only[Option.map_some,kR 0 l (by simp)]
   have e3:=kR 0 m (by simp);simp only[kR ty x (by simp),e1,e2,e3]
  |none=>
   have e1:lo.map (bu P A.aV 0 sl)=lo.map (bu P A.aV 0 sl'):=by
    cases lo with
    |none=>rfl
    |some l=>simp only[Option.map_some,kR 0 l (by simp)]
   have e2:hi.map (bu P A.aV 0 sl)=hi.map (bu P A.aV 0 sl'):=by
    cases hi with
    |none=>rfl
    |some l=>simp only[Option.map_some,kR 0 l (by simp)]
   simp only[kR ty x (by simp),e1,e2]
 case call c=>
  obtain⟨callee,args,argTypes⟩:=c;have DI:∀t x,x∈args→bu P A.aV t sl x=bu P A.aV t sl' x:=fun t x hx=>kR t x (by simp[Call.operands,hx]);have hl:∀t (l:List Operand),(∀x∈l,x∈args)→l.map (bu P A.aV t sl)=l.map (bu P A.aV t sl'):=fun t l hl=>rl fun x hx=>DI t x (hl x hx);have hz:((args.toList.zip argTypes.toList).map fun p=>bu P A.aV p.2 sl p.1)=(args.toList.zip argTypes.toList).map fun p=>bu P A.aV p.2 sl' p.1:=
   rl fun p hp=>DI p.2 p.1 (wK.1 (List.of_mem_zip hp).1)
  cases callee with
  |invoke r m=>rfl
  |builtin b=>
   have dr:∀x∈args.toList,∀t,bu P A.aV t sl x=bu P A.aV t sl' x:=fun x hx t=>DI t x (wK.1 hx);have xE:∀t (l:List Operand),(∀x∈l,∀t,bu P A.aV t sl x=bu P A.aV t sl' x)→l.map (bu P A.aV t sl)=l.map (bu P A.aV t sl'):=fun t l h=>rl fun x hx=>h x hx t;cases b<;>first|rfl|skip
   case append=>
    dsimp only;generalize args.toList=al at dr
    match al,dr,argTypes.toList with
    | [s,x],dr,[t,u]=>simp only[dr s (by simp),dr x (by simp)]
    | [],_,_=>rfl
    | [_],_,_=>rfl
    |_::_::_::_,_,_=>rfl
    | [_,_],_,[]=>rfl
    | [_,_],_,[_]=>rfl
    | [_,_],_,_::_::_::_=>rfl
   case len=>
    dsimp only;generalize args.toList=al at dr
    match al,dr,argTypes.toList with
    | [x],dr,[t]=>simp only[dr x (by simp)]
    | [],_,_=>rfl
    |_::_::_,_,_=>rfl
    | [_],_,[]=>rfl
    | [_],_,_::_::_=>rfl
   case clear=>
    dsimp only;generalize args.toList=al at dr
    match al,dr,argTypes.toList with
    | [x],dr,[t]=>simp only[dr x (by simp)]
    | [],_,_=>rfl
    |_::_::_,_,_=>rfl
    | [_],_,[]=>rfl
    | [_],_,_::_::_=>rfl
   case unsafeSliceData=>
    dsimp only;generalize args.toList=al at dr
    match al,dr with
    | [],_=>rfl
    | [x],dr=>simp only[dr x (by simp)]
    |_::_::_,_=>rfl
   case unsafeString=>
    dsimp only;generalize args.toList=al at dr
    match al,dr,argTypes.toList with
    | [s,x],dr,[t,u]=>simp only[dr s (by simp),dr x (by simp)]
    | [],_,_=>rfl
    | [_],_,_=>rfl
    |_::_::_::_,_,_=>rfl
    | [_,_],_,[]=>rfl
    | [_,_],_,[_]=>rfl
    | [_,_],_,_::_::_::_=>rfl
   case max=>
    dsimp only;generalize args.toList=al at dr
    match al,dr with
    | [],_=>rfl
    |x::l,dr=>simp only[dr x (by simp),xE ty l (fun y hy=>dr y (by simp[hy]))]
   case min=>
    dsimp only;generalize args.toList=al at dr
    match al,dr with
    | [],_=>rfl
    |x::l,dr=>simp only[dr x (by simp),xE ty l (fun y hy=>dr y (by simp[hy]))]
  |value f=>
   cases f<;>first|rfl|skip
   ·rename_i t;have ht:sl t=sl' t:=h (.tmp t) (by simp[Op.operands,Call.operands]) t rfl;simp only[hz,ht]
   ·simp only[hz];cases hx:args.toList with
    |nil=>rfl
    |cons x l=>
     cases l with
     |cons _ _=>rfl
     |nil=>simp only[DI ty x (wK.1 (by rw[hx];simp))]
 case makeFunc fn a b=>
  cases fn<;>first|rfl|skip
  have e1:a.toList.map (bu P A.aV ty sl)=a.toList.map (bu P A.aV ty sl'):=rl fun x hx=>kR ty x (by simp[wK.1 hx]);have e2:b.toList.map (bu P A.aV ty sl)=b.toList.map (bu P A.aV ty sl'):=rl fun x hx=>kR ty x (by simp[wK.1 hx]);dsimp only;rw[e1,e2]
 case makeMap t r=>cases r<;>rfl
 all_goals first
  |rfl
  |(simp[kR];done)
end
section
variable {P:Program}{A:dM}{w w':World}{I I' I2:Nat→Nat→Prop}{μ β β':Nat→Option Nat}{hp hp':Nat→Option ag}{C:af}{B:Nat}{M:Nat→Prop}{w0:Start}
theorem Ro{q:Nat×ag}{upd:List (Nat×ag)}(h:q∈upd):q.1∈lU hp upd:=by
 unfold lU;rw[List.mem_flatMap];refine⟨q,h,?_⟩;cases Nat.beq (mj (hp q.1)) (mj (some q.2))<;>simp
theorem arl{upd:List (Nat×ag)}(h:∀q∈upd,mj (hp' q.1)=mj (hp q.1)):lU hp' upd=lU hp upd:=by
 unfold lU
 induction upd with
 |nil=>rfl
 |cons q l ih=>
  rw[Ft,Ft,ih fun x hx=>h x (j5 _ hx),h q (by simp)]
theorem Kw{c:Nat}:∀{upd:List (Nat×ag)},c∉lU hp upd→DH hp (cQ hp upd) c:=fun {upd} h=>by
 refine⟨Gk fun q hq e=>h (e▸Ro hq),fun hc=> ?_⟩
 induction upd with
 |nil=>rfl
 |cons q l ih=>
  have hl:c∉lU hp l:=fun hx=>h (by unfold lU at*;rw[Ft];exact Fu _ hx);have hq:mj (hp q.1)=mj (some q.2)∨c≠q.1+KB:=by
   cases hb:Nat.beq (mj (hp q.1)) (mj (some q.2))with
   |true=>exact .inl (IQ hb)
   |false=>
    refine .inr fun e=>h ?_;unfold lU;rw[Ft,hb,e];simp
  show mj (ar (cQ hp l) q.1 (some q.2) (c-KB))=_;simp only[ar];cases hb:Nat.beq (c-KB) q.1 with
  |false=>exact ih hl
  |true=>
   have e:=IQ hb;rcases hq with hq|hq
   ·rw[cond_true,e];exact hq.symm
   ·exact absurd (by omega) hq
theorem Gm{n i nb:Nat}{ops:Array Oper}{o:Oper}{st st':St}{R W:List Nat}(h:kL P A C n ops i o nb st=some (st',R,W)):
  ∃x upd,st'=⟨fy st.sl o.dst x,cQ st.hp upd,st.nb⟩∧W=lU st.hp upd∧∀ep:St,(∀d∈o.looksAt ops,ep.sl d=st.sl d)→(∀id∈R,DH st.hp ep.hp id)→
   kL P A C n ops i o nb ep=some (⟨fy ep.sl o.dst x,cQ ep.hp upd,ep.nb⟩,R,W)∧W=lU ep.hp upd:=by
 unfold kL at h;cases hd:AR o n with
 |false=>rw[hd]at h;cases h
 |true=>
  rw[hd]at h;simp only[cond_true]at h;have go:(((nF P A st.sl i (nb+64*i) o).run C st.hp).bind fun r=>some ((⟨fy st.sl o.dst r.1.v,cQ st.hp r.1.upd,st.nb⟩:St),za r.2 r.1.upd,lU st.hp r.1.upd))=some (st',R,W)→
    ∃x upd,st'=⟨fy st.sl o.dst x,cQ st.hp upd,st.nb⟩∧W=lU st.hp upd∧∀ep:St,(∀d∈o.looksAt ops,ep.sl d=st.sl d)→(∀id∈R,DH st.hp ep.hp id)→
     (((nF P A ep.sl i (nb+64*i) o).run C ep.hp).bind fun r=>some ((⟨fy ep.sl o.dst r.1.v,cQ ep.hp r.1.upd,ep.nb⟩:St),za r.2 r.1.upd,lU ep.hp r.1.upd))=some (⟨fy ep.sl o.dst x,cQ ep.hp upd,ep.nb⟩,R,W)∧W=lU ep.hp upd:=by
   intro h;obtain⟨⟨r,rd⟩,h1,h2⟩:=bind_some h;cases h2;refine⟨r.v,r.upd,rfl,rfl,fun ep hs hh=> ?_⟩;have hw:lU ep.hp r.upd=lU st.hp r.upd:=arl fun q hq=>by
    have:=(hh (q.1+KB) (Fu _ (iZ.2 ⟨q,hq,rfl⟩))).2 (Nat.le_add_left _ _);rwa [Nat.add_sub_cancel]at this
   rw[arj (sl':=st.sl) fun x hx k hk=> ?_,Bk h1 fun c hc=>hh c (Fv _ hc)]
   ·refine⟨?_,hw.symm⟩;rw[Option.bind_some,hw]
   ·subst hk;exact hs k (Fv _ (List.mem_filterMap.2 ⟨.tmp k,by simpa using hx,rfl⟩))
  cases hg:o.guard with
  |none=>
   rw[hg]at h;obtain⟨x,upd,e1,e2,e3⟩:=go h;refine⟨x,upd,e1,e2,fun ep hs hh=> ?_⟩;unfold kL;simp only[hd,cond_true,hg];exact e3 ep hs hh
  |some gw=>
   obtain⟨g,want⟩:=gw;rw[hg]at h;simp only at h;cases rQ:(ops[g]?).bind (·.dst)with
   |none=>rw[rQ]at h;cases h
   |some d=>
    rw[rQ]at h;simp only at h;have X3:d∈o.looksAt ops:=Fu _ (by rw[hg];simp[rQ]);cases sP:rn (st.sl d)with
    |none=>rw[sP]at h;cases h
    |some ob=>
    rw[sP]at h;cases ob with
    |none=>
     injection h with h;injection h with h3 h4;injection h4 with h5 h6;subst h5;subst h6;refine⟨.bN [],[],h3.symm,rfl,fun ep hs hh=> ?_⟩;unfold kL;simp only[hd,cond_true,hg,rQ,hs d X3,sP];exact⟨rfl,rfl⟩
    |some b=>
    simp only at h;cases hb:b==want with
    |true=>
     rw[hb]at h;obtain⟨x,upd,e1,e2,e3⟩:=go h;refine⟨x,upd,e1,e2,fun ep hs hh=> ?_⟩;unfold kL;simp only[hd,cond_true,hg,rQ,hs d X3,sP,hb];exact e3 ep hs hh
    |false=>
     rw[hb]at h;simp only[cond_false]at h;injection h with h;injection h with h3 h4;injection h4 with h5 h6;subst h5;subst h6;refine⟨.bN [],[],h3.symm,rfl,fun ep hs hh=> ?_⟩;unfold kL;simp only[hd,cond_true,hg,rQ,hs d X3,sP,hb,cond_false];exact⟨rfl,rfl⟩
theorem zy{sl:Nat→V}{d:Option Nat}{x:V}{k:Nat}(h:d≠some k):fy sl d x k=sl k:=by
 cases d with
 |none=>rfl
 |some d=>exact db _ _ fun e=>h (by rw[e])
theorem arn{hp:Nat→Option ag}{a b:List (Nat×ag)}(h:∀q∈a,∀q'∈b,q.1≠q'.1):cQ (cQ hp a) b=cQ (cQ hp b) a:=by
 funext id;by_cases ha:∃q∈a,q.1=id
 ·have hb:∀q∈b,q.1≠id:=by
   obtain⟨q,hq,rfl⟩:=ha;exact fun q' eC e=>h q hq q' eC e.symm
  rw[Gk hb];obtain⟨q,hq,rfl⟩:=ha;have same:∀(cE gQ:Nat→Option ag) (l:List (Nat×ag)) (q:Nat×ag),q∈l→cQ cE l q.1=cQ gQ l q.1:=by
   intro cE gQ l
   induction l with
   |nil=>intro q hq;simp at hq
   |cons p l ih=>
    intro q hq;simp only[cQ,ar];cases hb:Nat.beq q.1 p.1 with
    |true=>rfl
    |false=>
     simp only[cond_false];refine ih q ((kC.1 hq).resolve_left fun e=> ?_);rw[e,nX]at hb;cases hb
  exact same _ _ a q hq
 ·rw[Gk (hp:=cQ hp b) (l:=a) fun q hq e=>ha ⟨q,hq,e⟩];have same:∀(cE gQ:Nat→Option ag) (l:List (Nat×ag)),cE id=gQ id→cQ cE l id=cQ gQ l id:=by
   intro cE gQ l he
   induction l with
   |nil=>exact he
   |cons p l ih=>
    simp only[cQ,ar];cases hb:Nat.beq id p.1 with
    |true=>rfl
    |false=>exact ih
  exact same _ _ b (Gk fun q hq e=>ha ⟨q,hq,e⟩)
structure ag4(ops:Array Oper)(o1 o2:Oper)(R1 W1 R2 W2:List Nat):Prop where
 apart:Oper.apart ops o1 o2=true
 w:∀id∈W1,id∉R2∧id∉W2
 r:∀id∈R1,id∉W2
theorem ag5{n i j nb:Nat}{ops:Array Oper}{o1 o2:Oper}{st fJ ep:St}{R1 W1 R2 W2:List Nat}(h1:kL P A C n ops i o1 nb st=some (fJ,R1,W1))(h2:kL P A C n ops j o2 nb fJ=some (ep,R2,W2))
  (hi:ag4 ops o1 o2 R1 W1 R2 W2):∃zz,kL P A C n ops j o2 nb st=some (zz,R2,W2)∧kL P A C n ops i o1 nb zz=some (ep,R1,W1):=by
 obtain⟨x1,u1,e1,f1,g1⟩:=Gm h1;obtain⟨x2,u2,e2,f2,g2⟩:=Gm h2;obtain⟨a1,a2,a3⟩:=Oper.apart_spec hi.apart;subst e1;have k2:=g2 st (fun d hd=>by simp only;rw[zy fun e=>a1 d e hd]) fun c hc=>(Kw fun hw=>(hi.w c (by rw[f1];exact hw)).1 hc).symm;refine⟨_,k2.1,?_⟩;rw[(g1 _ (fun d hd=> ?_) (fun c hd=> ?_)).1,e2]
 ·congr 3
  ·funext k;cases hd1:o1.dst with
   |none=>rfl
   |some d1=>
    cases FV:o2.dst with
    |none=>rfl
    |some d2=>
     have bz:d2≠d1:=fun e=>a2 d1 hd1 (by rw[FV,e]);simp only[fy,ar];cases Bb:Nat.beq k d1<;>cases xF:Nat.beq k d2<;>simp only[cond_true,cond_false];rw[bU]at Bb xF;exact absurd (xF.symm.trans Bb) bz
  ·exact(arn fun q hq q' eC e=>(hi.w q.1 (by rw[f1];exact Ro hq)).2 (by rw[f2,e];exact Ro eC)).symm
 ·simp only;rw[zy fun e=>a3 d e hd]
 ·exact Kw fun hw=>hi.r c hd (by rw[k2.2];exact hw)
abbrev jR:=Nat×Oper×List Nat×List Nat×St×St
def Gn(P:Program)(A:dM)(C:af)(n:Nat)(ops:Array Oper)(nb:Nat):List jR→St→St→Prop
 | [],st,st'=>st=st'
 |x::l,st,st'=> ∃fJ,kL P A C n ops x.1 x.2.1 nb st=some (fJ,x.2.2.1,x.2.2.2.1)∧Gn P A C n ops nb l fJ st'
def DJ(P:Program)(A:dM)(C:af)(n:Nat)(ops:Array Oper)(nb:Nat):List jR→St→St→Prop
 | [],st,st'=>st=st'
 |x::l,st,st'=> ∃fJ,kL P A C n ops x.1 x.2.1 nb st=some (fJ,x.2.2.1,x.2.2.2.1)∧(∀d∈x.2.1.looksAt ops,st.sl d=x.2.2.2.2.1.sl d)∧AQ x.2.1 fJ=AQ x.2.1 x.2.2.2.2.2∧
   (x.2.2.2.1≠[]→st.hp=x.2.2.2.2.1.hp∧fJ.hp=x.2.2.2.2.2.hp)∧DJ P A C n ops nb l fJ st'
def ee(x:jR):pR:=(x.1,x.2.2)
theorem ag6{n nb:Nat}{ops:Array Oper}:∀{l:List (Nat×Oper)} {st st':St} {log FM:Log},tO P A C n ops nb l st log=some (st',FM)→
  ∃g,g.map (fun x=>(x.1,x.2.1))=l∧FM=log++g.map ee∧Gn P A C n ops nb g st st'∧DJ P A C n ops nb g st st'
 | [],st,st',log,FM,h=>by
  cases h;exact⟨[],rfl,by simp,rfl,rfl⟩
 |(i,o)::l,st,st',log,FM,h=>by
  obtain⟨⟨fJ,R,W⟩,h1,h2⟩:=bind_some h;obtain⟨g,a,b,c,d⟩:=ag6 h2;exact⟨(i,o,R,W,st,fJ)::g,by simp[a],by simp[b,ee],⟨fJ,h1,c⟩,fJ,h1,fun _ _=>rfl,rfl,fun _=>⟨rfl,rfl⟩,d⟩
def Kx(ops:Array Oper)(x y:jR):Prop:=ag4 ops x.2.1 y.2.1 x.2.2.1 x.2.2.2.1 y.2.2.1 y.2.2.2.1
theorem ag7{n nb:Nat}{ops:Array Oper}{y:jR}{g2:List jR}:∀{g1:List jR} {st st':St},
  Gn P A C n ops nb (g1++y::g2) st st'→(∀x∈g1,Kx ops x y)→∃fJ,kL P A C n ops y.1 y.2.1 nb st=some (fJ,y.2.2.1,y.2.2.2.1)∧Gn P A C n ops nb (g1++g2) fJ st'
 | [],st,st',h,_=>h
 |x::g1,st,st',h,hi=>by
  obtain⟨fJ,h1,h2⟩:=h;obtain⟨ep,h3,h4⟩:=ag7 h2 fun z hz=>hi z (j5 _ hz);obtain⟨zz,h5,h6⟩:=ag5 h1 h3 (hi x (by simp));exact⟨zz,h5,ep,h6,h4⟩
def Ev(P:Program)(A:dM)(C:af)(n:Nat)(ops:Array Oper)(nb:Nat)(x:jR)(H:Nat→Option ag):Prop:=
 ∃s1 s,(∀d∈x.2.1.looksAt ops,s.sl d=x.2.2.2.2.1.sl d)∧s.hp=H∧kL P A C n ops x.1 x.2.1 nb s=some (s1,x.2.2.1,[])∧AQ x.2.1 s1=AQ x.2.1 x.2.2.2.2.2
def Ky(P:Program)(A:dM)(C:af)(n:Nat)(ops:Array Oper)(nb:Nat)(x y:jR):Prop:=
 Oper.apart ops x.2.1 y.2.1=true∧((x.2.2.2.1=[]∨y.2.2.2.1=[])∧Kx ops x y∨x.2.2.2.1=[]∧y.2.2.2.1≠[]∧Ev P A C n ops nb x y.2.2.2.2.2.hp∨y.2.2.2.1=[]∧x.2.2.2.1≠[]∧Ev P A C n ops nb y x.2.2.2.2.1.hp)
theorem Bl{n i nb:Nat}{ops:Array Oper}{o:Oper}{st st':St}{R:List Nat}(h:kL P A C n ops i o nb st=some (st',R,[])):
  ∃x,st'=⟨fy st.sl o.dst x,st.hp,st.nb⟩∧∀ep:St,(∀d∈o.looksAt ops,ep.sl d=st.sl d)→ep.hp=st.hp→kL P A C n ops i o nb ep=some (⟨fy ep.sl o.dst x,ep.hp,ep.nb⟩,R,[]):=by
 obtain⟨x,upd,e1,e2,e3⟩:=Gm h;have hu:upd=[]:=by
  cases upd with
  |nil=>rfl
  |cons q l=>have:=Ro (hp:=st.hp) (q:=q) (upd:=q::l) (by simp);rw[←e2]at this;cases this
 subst hu;exact⟨x,e1,fun ep h1 h2=>(e3 ep h1 fun c _=>by rw[h2];exact⟨rfl,fun _=>rfl⟩).1⟩
theorem ag8{sl:Nat→V}{d1 d2:Option Nat}{x1 x2:V}(h:∀d,d1=some d→d2≠some d):fy (fy sl d1 x1) d2 x2=fy (fy sl d2 x2) d1 x1:=by
 funext k;cases d1 with
 |none=>rfl
 |some d1=>
  cases d2 with
  |none=>rfl
  |some d2=>
   have bz:d2≠d1:=fun e=>h d1 rfl (by rw[e]);simp only[fy,ar];cases Bb:Nat.beq k d1<;>cases xF:Nat.beq k d2<;>simp only[cond_true,cond_false];rw[bU]at Bb xF;exact absurd (xF.symm.trans Bb) bz
theorem p8{o:Oper}{sl:Nat→V}{x:V}{hp:Nat→Option ag}{k:Nat}:AQ o ⟨fy sl o.dst x,hp,k⟩=match o.dst with|some _=>x|none=> .undef:=by
 unfold AQ;cases o.dst with
 |none=>rfl
 |some d=>simp[fy,ar]
theorem ag9{o:Oper}{sl:Nat→V}{x y:V}(h:(match o.dst with|some _=>x|none=>V.undef)=match o.dst with|some _=>y|none=> .undef):fy sl o.dst x=fy sl o.dst y:=by
 cases hd:o.dst with
 |none=>rfl
 |some d=>rw[hd]at h;simp only at h;rw[h]
theorem aro{n nb:Nat}{ops:Array Oper}{x y:jR}{g:List jR}{st st':St}(h:DJ P A C n ops nb (x::y::g) st st')(hi:Ky P A C n ops nb x y):DJ P A C n ops nb (y::x::g) st st':=by
 obtain⟨fJ,h1,l1,v1,q1,ep,h2,l2,v2,q2,h3⟩:=h;obtain⟨ha,hi⟩:=hi;obtain⟨a1,a2,a3⟩:=Oper.apart_spec ha;obtain⟨x1,u1,e1,f1,g1⟩:=Gm h1;have gE:∀d∈y.2.1.looksAt ops,st.sl d=fJ.sl d:=fun d hd=>by rw[e1];exact(zy fun e=>a1 d e hd).symm
 rcases hi with⟨hw,hx⟩|⟨hw,Bm,s1,s,r1,r2,r3,r4⟩|⟨hw,Bm,s1,s,r1,r2,r3,r4⟩
 ·obtain⟨zz,k1,k2⟩:=ag5 h1 h2 hx;obtain⟨x2,u2,e2,f2,g2⟩:=Gm h2;have xe:=(g2 st gE fun c hc=>by rw[e1];exact(Kw fun hw=>(hx.w c (by rw[f1];exact hw)).1 hc).symm).1;rw[k1]at xe;simp only[gW,nZ,and_true]at xe;have xh:=(g1 zz (fun d hd=>by rw[xe];exact zy fun e=>a3 d e hd) fun c hc=>by
   rw[xe];exact Kw fun hw=>hx.r c hc (by
    have:=(g2 st gE fun c hc=>by rw[e1];exact(Kw fun hw=>(hx.w c (by rw[f1];exact hw)).1 hc).symm).2;rw[this];exact hw)).1
  rw[k2]at xh;simp only[gW,nZ,and_true]at xh;have p1:x.2.2.2.1=[]→fJ.hp=st.hp:=fun hw=>by
   rw[hw]at h1;obtain⟨_,e,_⟩:=Bl h1;rw[e]
  have p2:y.2.2.2.1=[]→zz.hp=st.hp∧ep.hp=fJ.hp:=fun hw=>by
   rw[hw]at k1 h2;obtain⟨_,e,_⟩:=Bl k1;obtain⟨_,e',_⟩:=Bl h2;rw[e,e'];exact⟨rfl,rfl⟩
  have p3:x.2.2.2.1=[]→ep.hp=zz.hp:=fun hw=>by
   rw[hw]at k2;obtain⟨_,e,_⟩:=Bl k2;rw[e]
  refine⟨zz,k1,fun d hd=>(gE d hd).trans (l2 d hd),?_,fun bz=> ?_,ep,k2,fun d hd=> ?_,?_,fun bz=> ?_,h3⟩
  ·rw[←v2,xe,e2,p8,p8]
  ·have hxp:=hw.resolve_right bz;obtain⟨q3,q4⟩:=q2 bz;exact⟨(p1 hxp).symm.trans q3,(p3 hxp).symm.trans q4⟩
  ·rw[xe];exact(zy fun e=>a3 d e hd).trans (l1 d hd)
  ·rw[←v1,xh,e1,p8,p8]
  ·obtain⟨q3,q4⟩:=q1 bz;have hyp:=hw.resolve_left bz;exact⟨(p2 hyp).1.trans q3,(p2 hyp).2.trans q4⟩
 ·
  rw[hw]at h1;obtain⟨x1',e1,g1'⟩:=Bl h1;obtain⟨x2,u2,e2,f2,g2⟩:=Gm h2;have k1:=(g2 st gE fun c _=>by rw[e1];exact⟨rfl,fun _=>rfl⟩).1;obtain⟨x3,e3,g3⟩:=Bl r3;have hh:ep.hp=cQ st.hp u2:=by rw[e2,e1]
  obtain⟨q3,q4⟩:=q2 Bm;have k2:=g3 ⟨fy st.sl y.2.1.dst x2,cQ st.hp u2,st.nb⟩ (fun d hd=>(zy fun e=>a3 d e hd).trans ((l1 d hd).trans (r1 d hd).symm)) (by rw[r2];exact hh.symm.trans q4);have hv:(match x.2.1.dst with|some _=>x3|none=>V.undef)=match x.2.1.dst with|some _=>x1'|none=>V.undef:=by
   rw[←p8 (o:=x.2.1) (sl:=s.sl) (hp:=s.hp) (k:=s.nb),←e3,r4,←v1,e1,p8]
  refine⟨_,k1,fun d hd=>(gE d hd).trans (l2 d hd),by rw[←v2,e2,p8,p8],fun _=>⟨by rw[←q3,e1],by rw[←q4,hh]⟩,_,by rw[hw];exact k2,fun d hd=>(zy fun e=>a3 d e hd).trans (l1 d hd),?_,fun bz=>absurd hw bz,?_⟩
  ·rw[p8,hv,←v1,e1,p8]
  ·rw[ag9 hv,ag8 fun d e=>fun e'=>a2 d e' e,←hh];have:ep=⟨fy (fy st.sl x.2.1.dst x1') y.2.1.dst x2,ep.hp,st.nb⟩:=by rw[e2,e1]
   rw[←this];exact h3
 ·
  rw[hw]at h2;obtain⟨x2,e2,g2⟩:=Bl h2;obtain⟨x3,e3,g3⟩:=Bl r3;obtain⟨q3,q4⟩:=q1 Bm;have k1:=g3 st (fun d hd=>(gE d hd).trans ((l2 d hd).trans (r1 d hd).symm)) (by rw[r2];exact q3);have k2:=(g1 ⟨fy st.sl y.2.1.dst x3,st.hp,st.nb⟩ (fun d hd=>zy fun e=>a3 d e hd) fun c _=>⟨rfl,fun _=>rfl⟩).1;have hv:(match y.2.1.dst with|some _=>x3|none=>V.undef)=match y.2.1.dst with|some _=>x2|none=>V.undef:=by
   rw[←p8 (o:=y.2.1) (sl:=s.sl) (hp:=s.hp) (k:=s.nb),←e3,r4,←v2,e2,p8]
  refine⟨_,by rw[hw];exact k1,fun d hd=>(gE d hd).trans (l2 d hd),by rw[p8,hv,←v2,e2,p8],fun bz=>absurd hw bz,_,k2,fun d hd=>(zy fun e=>a3 d e hd).trans (l1 d hd),?_,fun _=>⟨q3,?_⟩,?_⟩
  ·rw[p8,←v1,e1,p8]
  ·rw[←q4,e1]
  ·rw[ag9 hv,←ag8 fun d e=>fun e'=>a2 d e e'];have:ep=⟨fy (fy st.sl x.2.1.dst x1) y.2.1.dst x2,cQ st.hp u1,st.nb⟩:=by rw[e2,e1]
   rw[←this];exact h3
theorem aha{n nb:Nat}{ops:Array Oper}{y:jR}{g2:List jR}:∀{g1:List jR} {st st':St},
  DJ P A C n ops nb (g1++y::g2) st st'→(∀x∈g1,Ky P A C n ops nb x y)→DJ P A C n ops nb (y::(g1++g2)) st st'
 | [],st,st',h,_=>h
 |x::g1,st,st',h,hi=>by
  obtain⟨fJ,h1,l1,v1,q1,h2⟩:=h;exact aro ⟨fJ,h1,l1,v1,q1,aha h2 fun z hz=>hi z (j5 _ hz)⟩ (hi x (by simp))
theorem ahb(hC:qL P A C)(hP:nO P A){n nb:Nat}{ops:Array Oper}{Q:Exit→Act→World→Prop}:∀{g:List jR} {st st':St} {a:Act} {w:World} {I:Nat→Nat→Prop} {β:Nat→Option Nat},
  Gn P A C n ops nb g st st'→(∀x∈g,ops[x.1]? =some x.2.1)→aK P w I β st.hp B M w0→kg P A.idle A.aV w I β n a st→
  (∀a' w' I' β',Le P w I β st.hp w' I' β' st'.hp→aK P w' I' β' st'.hp B M w0→kg P A.idle A.aV w' I' β' n a' st'→Q .normal a' w')→wpOps P ops Q (g.map (·.1)) a w
 | [],st,st',a,w,I,β,h,_,S,hA,hQ=>by
  cases h;exact hQ a w I β (Le.refl w I β _) S hA
 |x::g,st,st',a,w,I,β,h,ho,S,hA,hQ=>by
  obtain⟨fJ,h1,h2⟩:=h;rw[nY,wpOps_cons];refine ag2 hC hP (ho x (by simp)) S hA h1 fun a' w' I' β' k1 k2 k3=> ?_;exact ahb hC hP h2 (fun y hy=>ho y (j5 _ hy)) k2 k3 fun a2 w2 I2 dn m1 m2 m3=>hQ a2 w2 I2 dn (k1.trans m1) m2 m3
end
section
variable {P:Program}{A:dM}{w w':World}{I I' I2:Nat→Nat→Prop}{μ β β':Nat→Option Nat}{hp hp':Nat→Option ag}{C:af}{B:Nat}{M:Nat→Prop}{w0:Start}
inductive DK(ops:Array Oper):Nat→Nat→Prop
 |ahc {i x:Nat} {o:Oper} {e:Edge}:ops[i]? =some o→e∈o.after→Region.binds .any e=true→e.on=x→DK ops i x
 |trans {i x:Nat} {o:Oper} {e:Edge}:ops[i]? =some o→e∈o.after→Region.binds .any e=true→DK ops e.on x→DK ops i x
theorem ahd{acc:Array Nat}{x:Nat}:∀{l:List Edge} {s:Nat},(l.foldl (fun s e=>if Region.binds .any e then s|||2^e.on|||acc.getD e.on 0 else s) s).testBit x=true→
  s.testBit x=true∨∃e∈l,Region.binds .any e=true∧(e.on=x∨(acc.getD e.on 0).testBit x=true)
 | [],s,h=> .inl h
 |e::l,s,h=>by
  simp only[List.foldl_cons]at h;rcases ahd h with h1|⟨e',a,b⟩
  ·by_cases hb:Region.binds .any e=true
   ·rw[aP hb,CG,CG,qw,qw]at h1;rcases h1 with(h1|h1)|h1
    ·exact .inl h1
    ·rw[Nat.testBit_two_pow]at h1;exact .inr ⟨e,by simp,hb,.inl (by simpa using h1)⟩
    ·exact .inr ⟨e,by simp,hb,.inr h1⟩
   ·rw[aM hb]at h1;exact .inl h1
  ·exact .inr ⟨e',j5 _ a,b⟩
theorem ahe{ops:Array Oper}{x:Nat}:∀{l:List Oper} {acc:Array Nat},(∀j o,l[j]? =some o→ops[acc.size+j]? =some o)→(∀j,(acc.getD j 0).testBit x=true→DK ops j x)→
  ∀j,((l.foldl (fun acc o=>acc.push (o.after.foldl (fun s e=>if Region.binds .any e then s|||2^e.on|||acc.getD e.on 0 else s) 0)) acc).getD j 0).testBit x=true→DK ops j x
 | [],acc,_,DL,j,h=>DL j h
 |o::l,acc,hl,DL,j,h=>by
  simp only[List.foldl_cons]at h;refine ahe (l:=l) ?_ ?_ j h
  ·intro j o' hj;have:=hl (j+1) o' (by simpa using hj);rw[Array.size_push];rwa [show acc.size+1+j=acc.size+(j+1) by omega]
  ·intro k hk;simp only[Cx,Array.getElem?_push]at hk;by_cases X4:k=acc.size
   ·rw[aP X4]at hk;simp only[Option.getD_some]at hk;rw[←PN]at hk;have ho:=hl 0 o rfl;rw[Nat.add_zero]at ho;rw[X4];have xF:(o.after.toList.foldl (fun s e=>if Region.binds .any e then s|||2^e.on|||acc.getD e.on 0 else s) 0).testBit x=true:=by simpa[Cx]using hk
    rcases ahd xF with h0|⟨e,he,hb,h1⟩
    ·simp at h0
    ·rcases h1 with h1|h1
     ·exact .ahc ho (wK.1 he) hb h1
     ·exact .trans ho (wK.1 he) hb (DL _ h1)
   ·rw[aM X4]at hk;exact DL k (by simpa[Cx]using hk)
theorem arp{ops:Array Oper}{i x:Nat}(h:((Region.before ops).getD i 0).testBit x=true):DK ops i x:=by
 unfold Region.before at h;rw[←PN]at h;refine ahe (l:=ops.toList) (acc:= #[]) (fun j o hj=>by simpa using hj) (fun j hj=>by simp at hj) i h
def ahf(ops:Array Oper)(listed:Array Bool):Prop:= ∀i o,ops[i]? =some o→listed.getD i false=true→∀e∈o.after,Region.binds .any e=true→listed.getD e.on false=true
theorem arq{ops:Array Oper}{listed:Array Bool}(hc:ahf ops listed){i x:Nat}(h:DK ops i x)(hi:∀o,ops[i]? =some o→∀e∈o.after,Region.binds .any e=true→listed.getD e.on false=true):listed.getD x false=true:=by
 induction h with
 |ahc ho he hb hx=>rw[←hx];exact hi _ ho _ he hb
 |trans ho he hb _ ih=>exact ih fun o' w9 e' F8 aJ=>hc _ o' w9 (hi _ ho _ he hb) e' F8 aJ
theorem ahg:∀{l:List Oper} {k j:Nat} {o:Oper},vh k l=true→l[j]? =some o→∀e∈o.after,Region.binds .any e=true→e.on<k+j
 | [],k,j,o,_,h=>by simp at h
 |o'::l,k,j,o,hk,h=>by
  simp only[vh,bc]at hk;cases j with
  |zero=>
   simp at h;subst h;intro e he hb;have:=jk.1 hk.1 e (wK.2 he);simp[hb]at this;omega
  |succ j=>
   intro e he hb;have:=ahg hk.2 (j:=j) (by simpa using h) e he hb;omega
theorem ahh{ops:Array Oper}{sE:Array Nat}:∀{l:Log},Qv ops sE l=true→l.Pairwise fun x y=>Qu ops sE x y=true
 | [],_=> .nil
 |x::l,h=>by
  simp only[Qv,bc]at h;exact .cons (fun y hy=>jk.1 h.1 y hy) (ahh h.2)
theorem ahi{listed:Array Bool}{i:Nat}(h:listed.getD i true=false):i<listed.size∧listed.getD i false=false:=by
 rcases fR i listed.size with h'|h'
 ·refine⟨h',?_⟩;simpa[h']using h
 ·simp[Array.getElem?_eq_none h']at h
structure Rp(P:Program)(A:dM)(C:af)(n:Nat)(ops:Array Oper)(nb:Nat)(RQ:List (Nat×Oper)→St→St→Prop):Prop where
 nil:∀st st',RQ [] st st'→st=st'
 pull:∀(g1:List (Nat×Oper)) (y:Nat×Oper) (g2:List (Nat×Oper)) st st',RQ (g1++y::g2) st st'→(∀x∈g1,((Region.before ops).getD y.1 0).testBit x.1=false)→
  ∃fJ R W,kL P A C n ops y.1 y.2 nb st=some (fJ,R,W)∧RQ (g1++g2) fJ st'
theorem ahj{α β:Type}{f:α→β}{g:List α}{g1 g2:List β}{y:β}(h:g.map f=g1++y::g2):∃a b c,g=a++b::c∧a.map f=g1∧f b=y∧c.map f=g2:=by
 obtain⟨a,b',rfl,h1,h2⟩:=List.map_eq_append_iff.1 h;obtain⟨b,c,rfl,h3,h4⟩:=List.map_eq_cons_iff.1 h2;exact⟨a,b,c,rfl,h1,h3,h4⟩
theorem ars{n nb:Nat}{ops:Array Oper}:Rp P A C n ops nb fun g st st'=> ∃g':List jR,g'.map (fun x=>(x.1,x.2.1))=g∧Gn P A C n ops nb g' st st'∧g'.Pairwise fun x y=>((Region.before ops).getD y.1 0).testBit x.1=true∨Kx ops x y:=by
 refine⟨fun st st' ⟨g',h1,h2,_⟩=> ?_,fun g1 y g2 st st' ⟨g',h1,h2,h3⟩ hb=> ?_⟩
 ·obtain rfl:=List.map_eq_nil_iff.1 h1;exact h2
 ·obtain⟨a,b,c,rfl,rfl,rfl,rfl⟩:=ahj h1;obtain⟨fJ,e1,e2⟩:=ag7 h2 fun x hx=>((I4.1 h3).2.2 x hx b (by simp)).resolve_left fun h=>by
   have:=hb (x.1,x.2.1) (iZ.2 ⟨x,hx,rfl⟩);simp only at this;rw[h]at this;cases this
  exact⟨fJ,_,_,e1,a++c,by simp,e2,h3.sublist (List.Sublist.append_left (List.sublist_cons_self b c) a)⟩
theorem art{n nb:Nat}{ops:Array Oper}:Rp P A C n ops nb fun g st st'=> ∃g':List jR,g'.map (fun x=>(x.1,x.2.1))=g∧DJ P A C n ops nb g' st st'∧g'.Pairwise fun x y=>((Region.before ops).getD y.1 0).testBit x.1=true∨Ky P A C n ops nb x y:=by
 refine⟨fun st st' ⟨g',h1,h2,_⟩=> ?_,fun g1 y g2 st st' ⟨g',h1,h2,h3⟩ hb=> ?_⟩
 ·obtain rfl:=List.map_eq_nil_iff.1 h1;exact h2
 ·obtain⟨a,b,c,rfl,rfl,rfl,rfl⟩:=ahj h1;obtain⟨fJ,e1,_,_,_,e2⟩:=aha h2 fun x hx=>((I4.1 h3).2.2 x hx b (by simp)).resolve_left fun h=>by
   have:=hb (x.1,x.2.1) (iZ.2 ⟨x,hx,rfl⟩);simp only at this;rw[h]at this;cases this
  exact⟨fJ,_,_,e1,a++c,by simp,e2,h3.sublist (List.Sublist.append_left (List.sublist_cons_self b c) a)⟩
theorem aru{x y:V}(h:Ws x y=true):x=y:=by
 unfold Ws at h;split at h<;>simp_all
theorem ahk{ops:Array Oper}{x y:jR}(hx:ops[x.1]? =some x.2.1)(hy:ops[y.1]? =some y.2.1):Oper.apart ops (ops.getD (ee x).1 default) (ops.getD (ee y).1 default)=Oper.apart ops x.2.1 y.2.1:=by
 simp only[ee,Cx,hx,hy,Option.getD_some]
theorem ahl{ops:Array Oper}{x y:jR}(ha:Oper.apart ops x.2.1 y.2.1=true)(h:(!(pP (ee x).2.2.1 ((ee y).2.1++(ee y).2.2.1))&& !(pP (ee x).2.1 (ee y).2.2.1))=true):Kx ops x y:=by
 simp only[ee,bc,qu]at h;refine⟨ha,fun id ae=> ?_,fun id ae=>Rg h.2 ae⟩;have:=Rg h.1 ae;rw[fQ]at this;exact⟨fun h=>this (.inl h),fun h=>this (.inr h)⟩
theorem arv{ops:Array Oper}{x y:jR}(hx:ops[x.1]? =some x.2.1)(hy:ops[y.1]? =some y.2.1)(h:Qu ops (Region.before ops) (ee x) (ee y)=true):
  ((Region.before ops).getD y.1 0).testBit x.1=true∨Kx ops x y:=by
 unfold Qu at h;rw[qw,ahk hx hy,bc]at h;exact h.imp id fun h=>ahl h.1 h.2
theorem ahm{n nb:Nat}{ops:Array Oper}:∀{l:List (pR×(Nat→Option ag))},zb P A C n ops nb l=some ()→∀q∈l,∀x:jR,ops[x.1]? =some x.2.1→ee x=q.1→x.2.2.2.1=[]→Ev P A C n ops nb x q.2
 | [],_,q,hq,_,_,_,_=>by cases hq
 |(e,H)::l,h,q,hq,x,hx,hn,hw=>by
  obtain⟨⟨s1,log⟩,h1,h2⟩:=bind_some h;cases hc:FL ops e (s1,log)with
  |false=>rw[hc]at h2;cases h2
  |true=>
   rw[hc]at h2;rcases kC.1 hq with rfl|hq
   ·simp only at hn;subst hn;obtain⟨⟨s2,R,W⟩,h3,h4⟩:=bind_some h1;cases h4;have ho:ops.getD (ee x).1 default=x.2.1:=by simp only[ee,Cx,hx,Option.getD_some]
    unfold FL at hc;simp only[ho,List.nil_append,List.all_cons,List.all_nil,CF,bc]at hc;obtain⟨⟨c1,c2⟩,c3⟩:=hc;have e1:R=x.2.2.1:=Bh c1;have e2:W=[]:=List.isEmpty_iff.1 c2;subst e2;rw[ho]at h3;exact⟨_,⟨x.2.2.2.2.1.sl,H,x.2.2.2.2.1.nb⟩,fun d _=>rfl,rfl,by rw[←e1];exact h3,aru c3⟩
   ·exact ahm h2 q hq x hx hn hw
theorem ahn{n nb:Nat}{ops:Array Oper}{x:jR}(hx:ops[x.1]? =some x.2.1):∀{g:List jR} {l:List (pR×(Nat→Option ag))},Wr ops (Region.before ops) (ee x) (g.map ee)=some l→(∀y∈g,ops[y.1]? =some y.2.1)→
  (∀q∈l,∀z:jR,ops[z.1]? =some z.2.1→ee z=q.1→z.2.2.2.1=[]→Ev P A C n ops nb z q.2)→∀y∈g,((Region.before ops).getD y.1 0).testBit x.1=true∨Ky P A C n ops nb x y
 | [],l,_,_,_,y,hy=>by cases hy
 |z::g,l,h,hg,hl,y,hy=>by
  obtain⟨r,h1,h2⟩:=bind_some h;have hz:=hg z (by simp);rw[ahk hx hz]at h2;have sub:∀q∈r,q∈l:=by
   intro q hq;revert h2;cases((Region.before ops).getD (ee z).1 0).testBit (ee x).1<;>simp only[cond_true,cond_false]
   ·cases(Oper.apart ops x.2.1 z.2.1&&((ee x).2.2.1.isEmpty||(ee z).2.2.1.isEmpty))<;>simp only[cond_true,cond_false]
    ·intro h;cases h
    ·cases(!(pP (ee x).2.2.1 ((ee z).2.1++(ee z).2.2.1))&& !(pP (ee x).2.1 (ee z).2.2.1))<;>simp only[cond_true,cond_false]
     ·cases(ee x).2.2.1.isEmpty<;>simp only[cond_true,cond_false]<;>(intro h;cases h;exact j5 _ hq)
     ·intro h;cases h;exact hq
   ·intro h;cases h;exact hq
  rcases kC.1 hy with rfl|hy
  ·cases hb:((Region.before ops).getD (ee y).1 0).testBit (ee x).1 with
   |true=>exact .inl hb
   |false=>
    rw[hb]at h2;simp only[cond_false]at h2;cases ha:(Oper.apart ops x.2.1 y.2.1&&((ee x).2.2.1.isEmpty||(ee y).2.2.1.isEmpty))with
    |false=>rw[ha]at h2;cases h2
    |true=>
     rw[ha]at h2;simp only[cond_true]at h2;simp only[bc,qw,List.isEmpty_iff]at ha;obtain⟨a1,a2⟩:=ha;cases xB:(!(pP (ee x).2.2.1 ((ee y).2.1++(ee y).2.2.1))&& !(pP (ee x).2.1 (ee y).2.2.1))with
     |true=>exact .inr ⟨a1,.inl ⟨a2,ahl a1 xB⟩⟩
     |false=>
      rw[xB]at h2;simp only[cond_false]at h2;cases Kz:(ee x).2.2.1.isEmpty with
      |true=>
       rw[Kz]at h2;cases h2;have hw:x.2.2.2.1=[]:=List.isEmpty_iff.1 Kz;have Bm:y.2.2.2.1≠[]:=fun e=>by
        have e1:(ee x).2.2.1=[]:=hw;have e2:(ee y).2.2.1=[]:=e;rw[e1,e2]at xB;have:pP (ee x).2.1 []=false:=by simp[pP,mo]
        rw[this]at xB;cases xB
       exact .inr ⟨a1,.inr (.inl ⟨hw,Bm,hl (ee x,(ee y).2.2.2.2.hp) (by simp) x hx rfl hw⟩)⟩
      |false=>
       rw[Kz]at h2;cases h2;have bz:x.2.2.2.1≠[]:=fun e=>by rw[show(ee x).2.2.1=[]from e]at Kz;cases Kz
       have hw:y.2.2.2.1=[]:=a2.resolve_left bz;exact .inr ⟨a1,.inr (.inr ⟨hw,bz,hl (ee y,(ee x).2.2.2.1.hp) (by simp) y hz rfl hw⟩)⟩
  ·exact ahn hx h1 (fun y hy=>hg y (j5 _ hy)) (fun q hq=>hl q (sub q hq)) y hy
theorem aho{n nb:Nat}{ops:Array Oper}:∀{g:List jR} {l:List (pR×(Nat→Option ag))},Jt ops (Region.before ops) (g.map ee)=some l→(∀y∈g,ops[y.1]? =some y.2.1)→
  (∀q∈l,∀z:jR,ops[z.1]? =some z.2.1→ee z=q.1→z.2.2.2.1=[]→Ev P A C n ops nb z q.2)→g.Pairwise fun x y=>((Region.before ops).getD y.1 0).testBit x.1=true∨Ky P A C n ops nb x y
 | [],l,_,_,_=> .nil
 |x::g,l,h,hg,hl=>by
  obtain⟨a,h1,h2⟩:=bind_some h;obtain⟨b,h3,h4⟩:=bind_some h2;cases h4;exact .cons (ahn (hg x (by simp)) h1 (fun y hy=>hg y (j5 _ hy)) fun q hq=>hl q (Fv _ hq)) (aho h3 (fun y hy=>hg y (j5 _ hy)) fun q hq=>hl q (Fu _ hq))
theorem ahp(hC:qL P A C)(hP:nO P A){n nb:Nat}{ops:Array Oper}{Q:Exit→Act→World→Prop}(Gp:vh 0 ops.toList=true){RQ:List (Nat×Oper)→St→St→Prop}(hR:Rp P A C n ops nb RQ):
  ∀(fuel:Nat) {g:List (Nat×Oper)} {listed:Array Bool} {st st':St} {a:Act} {w:World} {I:Nat→Nat→Prop} {β:Nat→Option Nat},
  g.length=fuel→RQ g st st'→(∀x∈g,ops[x.1]? =some x.2)→(g.map (·.1)).Pairwise (· < ·)→
  listed.size=ops.size→(∀i,i<ops.size→(listed.getD i false=false↔i∈g.map (·.1)))→ahf ops listed→
  aK P w I β st.hp B M w0→kg P A.idle A.aV w I β n a st→
  (∀a' w' I' β',Le P w I β st.hp w' I' β' st'.hp→aK P w' I' β' st'.hp B M w0→kg P A.idle A.aV w' I' β' n a' st'→Q .normal a' w')→wpAny P .any ops Q fuel listed a w
 |0,g,listed,st,st',a,w,I,β,hf,hr,ho,bO,b7,DM,tX,S,hA,hQ=>by
  obtain rfl:g=[]:=tG hf;obtain rfl:=hR.nil _ _ hr;refine⟨?_,hQ a w I β (Le.refl w I β _) S hA⟩;rw[List.eq_nil_iff_forall_not_mem];intro i hi;obtain⟨h0,_⟩:=mem_ready.1 hi;obtain⟨h1,h2⟩:=ahi h0;have:=(DM i (by omega)).1 h2;simp at this
 |fuel+1,g,listed,st,st',a,w,I,β,hf,hr,ho,bO,b7,DM,tX,S,hA,hQ=>by
  refine⟨fun Ku=> ?_,fun i hi=> ?_⟩
  ·exfalso;cases g with
   |nil=>simp at hf
   |cons x g=>
    have hx:=ho x (by simp);have nk:x.1<ops.size:=(AD.1 hx).1;have oM:x.1∈Region.ready .any ops listed:=by
     rw[mem_ready];have h0:=(DM x.1 nk).2 (by simp);refine⟨?_,x.2,hx,fun e he hb=> ?_⟩
     ·have hl:x.1<listed.size:=by omega
      simpa[hl]using h0
     ·have Xo:=ahg Gp (j:=x.1) (by simpa using hx) e he hb;rw[cL]at Xo;cases hle:listed.getD e.on false with
      |true=>rfl
      |false=>
       have hm:=(DM e.on (by omega)).1 hle;simp only[nY,kC]at hm;rw[nY,I5]at bO;rcases hm with hm|hm
       ·omega
       ·have:=bO.1 _ hm;omega
    rw[Ku]at oM;cases oM
  ·obtain⟨h0,oi,Rq,hed⟩:=mem_ready.1 hi;obtain⟨h1,h2⟩:=ahi h0;have hig:=(DM i (by omega)).1 h2;obtain⟨y,hy,Rs⟩:=iZ.1 hig;obtain⟨g1,g2,rfl⟩:=List.append_of_mem hy;subst Rs;have hyo:=ho y hy;rw[Rq]at hyo;have arw:oi=y.2:=fP hyo;have kf:((g1++y::g2).map (·.1)).Nodup:=bO.imp fun h=>IX h;have arx:∀x∈g1,((Region.before ops).getD y.1 0).testBit x.1=false:=by
    intro x hx;have mb:=ho x (fQ.2 (.inl hx));cases hp:((Region.before ops).getD y.1 0).testBit x.1 with
    |false=>rfl
    |true=>
     have hl:=arq tX (arp hp) fun o w9 e he hb=>by
      have:o=oi:=by
       have h3:ops[y.1]? =some o:=w9;rw[Rq]at h3;exact(fP h3).symm
      subst this;exact hed e he hb
     have nk:x.1<ops.size:=(AD.1 mb).1;have:=(DM x.1 nk).2 (iZ.2 ⟨x,fQ.2 (.inl hx),rfl⟩);rw[this]at hl;cases hl
   obtain⟨fJ,R1,W1,gE,ud⟩:=hR.pull _ _ _ _ _ hr arx;rw[←arw]at gE;refine ag2 hC hP Rq S hA gE fun a' w' I' β' k1 k2 k3=> ?_;have mz:List.Sublist (g1++g2) (g1++y::g2):=List.Sublist.append_left (List.sublist_cons_self y g2) g1;have pU:∀j,j≠y.1→(listed.setIfInBounds y.1 true).getD j false=listed.getD j false:=fun j hj=>getD_set_ne false (yN hj);refine ahp hC hP Gp hR fuel (g:=g1++g2) (st':=st') ?_ ud (fun x hx=>ho x (mz.subset hx)) (bO.sublist (mz.map _)) (by simp[b7]) (fun j hj=> ?_) (fun j o X5 eQ e he hb=> ?_) k2 k3 fun a2 w2 I2 dn m1 m2 m3=>hQ a2 w2 I2 dn (k1.trans m1) m2 m3
   ·simp at hf⊢;omega
   ·by_cases xl:j=y.1
    ·subst xl;have hl:y.1<listed.size:=by omega
     simp only[Cx,Array.getElem?_setIfInBounds_self_of_lt hl,Option.getD_some];refine⟨fun h=>(by cases h),fun h=> ?_⟩;exfalso;rw[sA,nY,PV,List.nodup_cons]at kf;rw[sA,fQ]at h;rcases h with h|h
     ·exact kf.2.2 _ h _ (by simp) rfl
     ·exact kf.2.1.1 h
    ·rw[pU j xl,DM j hj];simp only[sA,nY,fQ,kC];constructor
     ·rintro(h|h|h)
      ·exact .inl h
      ·exact absurd h xl
      ·exact .inr h
     ·rintro(h|h)
      ·exact .inl h
      ·exact .inr (.inr h)
   ·by_cases xl:j=y.1
    ·subst xl;rw[Rq]at X5;cases X5;exact getD_set_true (hed e he hb)
    ·rw[pU j xl]at eQ;exact getD_set_true (tX j o X5 eQ e he hb)
end
section
variable {P:Program}{A:dM}{w w':World}{I I' I2:Nat→Nat→Prop}{μ β β':Nat→Option Nat}{hp hp':Nat→Option ag}{C:af}{B:Nat}{M:Nat→Prop}{w0:Start}
theorem ahq:∀{l:List Oper} {k j:Nat},(vi k l)[j]? =(l[j]?).map fun o=>(k+j,o)
 | [],k,j=>by simp[vi]
 |o::l,k,0=>by simp[vi]
 |o::l,k,j+1=>by
  simp only[vi,List.getElem?_cons_succ,ahq];congr 1;funext o;rw[show k+1+j=k+(j+1) by omega]
theorem ahr:∀{l:List Oper} {k:Nat},(vi k l).map (·.1)=List.range' k l.length
 | [],k=>rfl
 |o::l,k=>by simp[vi,ahr,List.range'_succ]
theorem ary(hC:qL P A C)(hP:nO P A)(hm:P.follows .mixedOrders=true){n id:Nat}{ops:Array Oper}{draw:Bool}{st st':St}{a:Act}{Q:Exit→Act→World→Prop}
  (h:CS P A C n ops draw st=some st') (S:aK P w I β st.hp B M w0) (hA:kg P A.idle A.aV w I β n a st)
  (hQ:∀a' w' I' β',Le P w I β st.hp w' I' β' st'.hp→aK P w' I' β' st'.hp B M w0→kg P A.idle A.aV w' I' β' n a' st'→Q .normal a' w'):(Code.region id ops draw).wp P Q a w:=by
 obtain⟨⟨fJ,log⟩,h1,h2⟩:=bind_some h;obtain⟨g,g1,g2,g3,g4⟩:=ag6 h1;have X6:g.map (·.1)=List.range ops.size:=by
  have:g.map (·.1)=(g.map fun x=>(x.1,x.2.1)).map (·.1):=by simp
  rw[this,g1,ahr,List.range_eq_range'];simp
 have KA:∀x∈g,ops[x.1]? =some x.2.1:=by
  intro x hx;have:(x.1,x.2.1)∈vi 0 ops.toList:=by rw[←g1];exact iZ.2 ⟨x,hx,rfl⟩
  obtain⟨j,hj⟩:=List.mem_iff_getElem?.1 this;rw[ahq]at hj;cases ho:ops.toList[j]? with
  |none=>rw[ho]at hj;cases hj
  |some o=>
   rw[ho]at hj;simp only[Option.map_some,cL,gW,nZ]at hj;rw[←hj.1,←hj.2];simpa using ho
 cases draw with
 |false=>
  simp only[Bool.not_false,Bool.true_or,cond_true]at h2;cases h2;refine wp_region ?_;rw[←X6];exact ahb hC hP g3 KA S hA hQ
 |true=>
  simp only[Bool.not_true,IV]at h2;simp only[List.nil_append]at g2;have hlen:(g.map fun x=>(x.1,x.2.1)).length=ops.size:=by
   have:=congrArg List.length X6;simpa using this
  have hm1:(g.map fun x=>(x.1,x.2.1)).map (·.1)=List.range ops.size:=by rw[AE];exact X6
  have fin:∀{RQ:List (Nat×Oper)→St→St→Prop},Rp P A C n ops st.nb RQ→vh 0 ops.toList=true→RQ (g.map fun x=>(x.1,x.2.1)) st st'→(Code.region id ops true).wp P Q a w:=by
   intro RQ hR Gp hr;refine wp_region_any hm ?_;refine ahp hC hP Gp hR ops.size (st':=st') hlen hr (fun x hx=> ?_) (by rw[hm1];exact List.pairwise_lt_range) (by simp) (fun i hi=> ?_) (fun i o ho hl=> ?_)
    (w:=w.drew) S.drew ⟨fun k=>(hA.sl k).mono (Le.drew w I β _),hA.size,hA.defers,hA.aV.mono (Le.drew (P:=P) w I β st.hp).fI (Le.drew (P:=P) w I β st.hp).dF⟩ fun a' w' I' β' k1 k2 k3=>hQ a' w' I' β' ((Le.drew w I β _).trans k1) k2 k3
   ·obtain⟨y,hy,rfl⟩:=iZ.1 hx;exact KA y hy
   ·rw[hm1];simp[hi]
   ·have hi:=(AD.1 ho).1;simp[hi]at hl
  have pw:∀{R:pR→pR→Prop} {R':jR→jR→Prop},(g.map ee).Pairwise R→(∀x∈g,∀y∈g,R (ee x) (ee y)→R' x y)→g.Pairwise R':=fun h1 h2=>
   (PX.1 h1).imp_of_mem fun ha hb h=>h2 _ ha _ hb h
  cases hc:(Region.noSelect ops&&FK ops log)with
  |true=>
   rw[hc]at h2;cases h2;simp only[bc,FK]at hc;obtain⟨hns,Gp,arz⟩:=hc;exact fin ars Gp ⟨g,rfl,g3,pw (by rw[←g2];exact ahh arz) fun x hx y hy h=>arv (KA x hx) (KA y hy) h⟩
  |false=>
   rw[hc]at h2;simp only[cond_false]at h2;cases gh:(Region.noSelect ops&&vh 0 ops.toList)with
   |false=>rw[gh]at h2;cases h2
   |true=>
    rw[gh]at h2;obtain⟨l,h3,h4⟩:=bind_some h2;obtain⟨u,h5,h6⟩:=bind_some h4;cases h6;simp only[bc]at gh;rw[g2]at h3;exact fin art gh.2 ⟨g,rfl,g4,aho h3 KA fun q hq z hz hn hw=>ahm h5 q hq z hz hn hw⟩
end
section
variable {P:Program}{A:dM}{E:FuncId→Bool}{G:Nat→V}{w w':World}{I I' I2:Nat→Nat→Prop}{μ β β':Nat→Option Nat}{hp hp':Nat→Option ag}{C:af}{B:Nat}{M:Nat→Prop}{w0:Start}
theorem Bn:∀{l:List Nat} {hp:Nat→Option ag} {I:Nat→Nat→Prop},aK P w I β hp B M w0→∃I',Le P w I β hp w I' β (AO hp l)∧aK P w I' β (AO hp l) B M w0
 | [],hp,I,S=>⟨I,Le.refl w I β hp,S⟩
 |id::l,hp,I,S=>by
  simp only[AO];cases ae:hp id with
  |none=>exact Bn S
  |some blk=>
   cases blk with
   |dead=>exact Bn S
   |out _ _ _ _=>exact Bn S
   |var _=>exact Bn S
   |map _ _=>exact Bn S
   |arr e es fz=>
    obtain⟨h1,h2⟩:=JH S (upd:=[(id,.arr e es true)]) (fun p hp=>by
     simp only[iY]at hp;subst hp;exact⟨e,es,rfl,.inl ⟨fz,ae⟩⟩)
    obtain⟨I',h3,h4⟩:=Bn (l:=l) h2;exact⟨I',h1.trans h3,h4⟩
   |nest e es vers=>
    obtain⟨h1,h2⟩:=JH S (upd:=[(id,.arr e es true)]) (fun p hp=>by
     simp only[iY]at hp;subst hp;exact⟨e,es,rfl,.inr ⟨vers,ae⟩⟩)
    obtain⟨I',h3,h4⟩:=Bn (l:=l) h2;exact⟨I',h1.trans h3,h4⟩
theorem ahs{n:Nat}{a:Act}{st:St}(S:aK P w I β st.hp B M w0)(hA:kg P E G w I β n a st):
  ∃I',Le P w I β st.hp w I' β st.hp∧aK P w I' β st.hp B M w0∧kg P E G w I' β n a st∧zh P I' β st.hp:=by
 obtain⟨I',h1,h2,h3⟩:=afm S;exact⟨I',h1,h2,⟨fun k=>(hA.sl k).mono h1,hA.size,hA.defers,hA.aV.mono h1.fI h1.dF⟩,h3⟩
theorem arA{n:Nat}{a:Act}{st:St}(S:aK P w I β st.hp B M w0)(hA:kg P E G w I β n a st)(p:Nat):
  ∃β',Le P w I β st.hp w I β' (AP st p).hp∧aK P w I β' (AP st p).hp B M w0∧kg P E G w I β' n a (AP st p):=by
 have same:∃β',Le P w I β st.hp w I β' st.hp∧aK P w I β' st.hp B M w0∧kg P E G w I β' n a st:=⟨β,Le.refl ..,S,hA⟩
 unfold AP;cases Nat.ble (2*KB) p with
 |false=>exact same
 |true=>
  simp only[cond_true];split
  ·rename_i e hn hx;obtain⟨h1,h2⟩:=WE S (vers:=[0,0,0]) e hn;refine⟨_,h1,h2,⟨fun k=> ?_,hA.size,hA.defers,hA.aV⟩⟩;show ah P w I (ar β st.nb none) (ar st.hp st.nb (some (.nest e [] [0,0,0]))) _ (ar st.sl (p %KB) (V.whole e st.nb) k);by_cases hk:k=p %KB
   ·subst hk;have hv:=hA.sl (p %KB);rw[hx]at hv;rw[cN];generalize a.tmps.getD (p %KB) _=v at hv⊢;cases hv;exact .fA (cN _ _ _) (cN _ _ _)
   ·rw[db _ _ hk];exact(hA.sl k).mono h1
  ·rename_i cs hn hx;split
   ·rename_i e hc;obtain⟨h1,h2⟩:=WE S (vers:=[0,0,0]) e hn;refine⟨_,h1,h2,⟨fun k=> ?_,hA.size,hA.defers,hA.aV⟩⟩;show ah P w I (ar β st.nb none) (ar st.hp st.nb (some (.nest e [] [0,0,0]))) _ (ar st.sl (p %KB) (V.agg (cs.set (p/KB-2) (.whole e st.nb))) k);by_cases hk:k=p %KB
    ·subst hk;have hv:=hA.sl (p %KB);rw[hx]at hv;rw[cN];generalize a.tmps.getD (p %KB) _=v at hv⊢;obtain⟨vs,rfl,gE,ud⟩:=hv.qE;refine .agg (by grind) fun j v x hv qG=> ?_;by_cases hj:p/KB-2=j
     ·subst hj;have bO:=(cP.1 hc).1;rw[yL bO]at qG;cases qG;have Dv:=ud _ v _ hv hc;cases Dv;exact .fA (vers:=[0,0,0]) (cN _ _ _) (cN _ _ _)
     ·rw[Cz hj]at qG;exact(ud j v x hv qG).mono h1
    ·rw[db _ _ hk];exact(hA.sl k).mono h1
   omega
  ·rename_i id hn hx;split
   ·rename_i T cs ae;split
    ·rename_i e hc;obtain⟨h1,h2⟩:=WE S (vers:=[0,0,0]) e hn;have bz:id≠st.nb:=fun h=>by grind
     have vr:ar st.hp st.nb (some (.nest e [] [0,0,0])) id=some (.var T cs):=by rw[db _ _ bz];exact ae
     have hr:=h2.h.rel id _ vr;generalize ho:ar β st.nb none id=o at hr;cases hr with
     |@var _ b Ca _ hb hh hs hI nj my=>
     subst hb;obtain⟨h3,h4⟩:=JJ (w':=w) h2 (blk':= .var T (cs.set (p/KB-2) (.whole e st.nb))) vr (by simp) rfl ho hI (by simp) (fun _ _=>rfl) rfl (aR _) ⟨rfl,rfl⟩
      (fun hle=> .var rfl hh (by grind) hI (fun j v x hv qG=>by
       by_cases hj:p/KB-2=j
       ·subst hj;have bO:=(cP.1 hc).1;rw[yL bO]at qG;cases qG;have Dv:=nj _ v _ hv hc;cases Dv;exact .fA (vers:=[0,0,0]) (by rw[db _ _ (yN bz)];exact cN _ _ _) (cN _ _ _)
       ·rw[Cz hj]at qG;exact(nj j v x hv qG).mono hle) my)
     exact⟨_,h1.trans h3,h4,⟨fun k=>(hA.sl k).mono (h1.trans h3),hA.size,hA.defers,hA.aV⟩⟩
    omega
   omega
  omega
theorem aht{n:Nat}{a:Act}:∀(l:List Nat) {st:St} {β:Nat→Option Nat},aK P w I β st.hp B M w0→kg P E G w I β n a st→
  ∃β',Le P w I β st.hp w I β' (l.foldl AP st).hp∧aK P w I β' (l.foldl AP st).hp B M w0∧kg P E G w I β' n a (l.foldl AP st)
 | [],st,β,S,hA=>⟨β,Le.refl ..,S,hA⟩
 |p::l,st,β,S,hA=>by
  obtain⟨xk,h1,h2,h3⟩:=arA S hA p;obtain⟨dn,h4,h5,h6⟩:=aht l h2 h3;exact⟨dn,h1.trans h4,h5,h6⟩
theorem ahu{n m:Nat}{pur:List Nat}{a:Act}{st:St}(S:aK P w I β st.hp B M w0)(hA:kg P E G w I β n a st):
  ∃I' β',Le P w I β st.hp w I' β' (freeze m pur st).hp∧aK P w I' β' (freeze m pur st).hp B M w0∧kg P E G w I' β' n a (freeze m pur st):=by
 obtain⟨I1,h1,h2⟩:=Bn (l:=(Wq st pur).filter fun id=>Nat.ble m id) S;obtain⟨I',h3,h4,h5⟩:=afm h2;have h1:=h1.trans h3;have hA2:kg P E G w I' β n a ⟨st.sl,AO st.hp ((Wq st pur).filter fun id=>Nat.ble m id),st.nb⟩:=⟨fun k=>(hA.sl k).mono h1,hA.size,hA.defers,hA.aV.mono h1.fI h1.dF⟩
 obtain⟨β',k1,k2,k3⟩:=aht pur h4 hA2;exact⟨I',β',h1.trans k1,k2,k3⟩
structure Gq(hp:Nat→Option ag)(β:Nat→Option Nat)(ord:List Nat)(hp':Nat→Option ag)(β':Nat→Option Nat):Prop where
 arr:∀(j:Nat) id e es fz,ord[j]? =some id→hp id=some (.arr e es fz)→hp' j=some (.arr e es fz)
 var:∀(j:Nat) id T cs,ord[j]? =some id→hp id=some (.var T cs)→∃nL,hp' j=some (.var T nL)
 dead:∀(j:Nat) id,ord[j]? =some id→hp id=some .dead→hp' j=some .dead
 out:∀(j:Nat) id e es vs i,ord[j]? =some id→hp id=some (.out e es vs i)→hp' j=some .dead
 place:∀(j:Nat) id,ord[j]? =some id→β' j=β id
 nest:∀(j:Nat) id e es vers,ord[j]? =some id→hp id=some (.nest e es vers)→hp' j=some (.nest e es (vers.map fun _=>0))
 map:∀(j:Nat) id t es,ord[j]? =some id→hp id=some (.map t es)→hp' j=some (.map t es)
theorem p9:∀{l:List Nat} {n i j:Nat},mM l n i=some j→∃k,j=i+k∧l[k]? =some n
 | [],n,i,j,h=>by cases h
 |a::l,n,i,j,h=>by
  simp only[mM]at h;cases hb:Nat.beq n a with
  |true=>
   simp_all
  |false=>
   rw[hb]at h;obtain⟨k,h1,h2⟩:=p9 h;exact⟨k+1,by omega,by grind⟩
def qM(hp':Nat→Option ag)(β':Nat→Option Nat)(n:Nat)(bs:List ag):Prop:=
 ∀(k:Nat) b,bs[k]? =some b→hp' (n+k)=some b∧β' (n+k)=none
theorem X7:∀(vers:List Nat) (k:Nat),cy (vers.map fun _=>0) k=0
 | [],_=>rfl
 |_::_,0=>rfl
 |_::vs,k+1=>X7 vs k
theorem ahv{e:TypeId}{es:List V}{vers:List Nat}{path:Path}{ver:Nat}(hc:(Nat.blt 0 path.length&&(Nat.ble path.length vers.length&&Nat.beq (cy vers (path.length-1)) ver))=true)
  (h:(ag.nest e es vers).zc path ver):False:=by
 simp only[bc,rf,fG,bU]at hc;obtain⟨h1,h2,h3⟩:=hc;rcases h with h|h|h
 all_goals grind
theorem ahw(S:aK P w I β hp B M w0)(hT:zh P I β hp){ord:List Nat}(hR:Gq hp β ord hp' β'){v:Value}{x:V}(hv:ah P w I β hp v x):ah P w I β' hp' v (mN hp ord x):=by
 cases hv with
 |undef=>exact .undef
 |int=>exact .int
 |bool=>exact .bool
 |str h=>exact .str h
 |list h=>exact .list h
 |nilS=>exact .nilS
 |agg=>exact .undef
 |bN=>exact .undef
 |gX=>exact .gX
 |fn=>exact .undef
 |pref a b c=>exact .pref a b c
 |@fq _ e id ae=>
  simp only[mN];cases cE:mM ord id 0 with
  |none=>simp only[ae];exact .undef
  |some j=>
   obtain⟨k,rfl,hk⟩:=p9 cE;exact .fq (hR.dead _ id (by grind) ae)
 |@nc _ e id off len ae=>
  simp only[mN];cases cE:mM ord id 0 with
  |none=>simp only[ae];exact .undef
  |some j=>
   obtain⟨k,rfl,hk⟩:=p9 cE;exact .nc (hR.dead _ id (by grind) ae)
 |@oG _ id i c ae=>
  simp only[mN];cases cE:mM ord id 0 with
  |none=>exact .undef
  |some j=>
   obtain⟨k,rfl,hk⟩:=p9 cE;exact .oG (hR.dead _ id (by grind) ae)
 |@fk e id fz _ ae hb=>
  simp only[mN];cases cE:mM ord id 0 with
  |none=>
   simp only[ae];cases fz with
   |false=>exact .undef
   |true=>simp only[nX,cond_true];exact .list (.any fun _=>rfl)
  |some j=>
   obtain⟨k,rfl,hk⟩:=p9 cE;have eU:ord[0+k]? =some id:=by grind
   exact .fk (hR.arr _ id _ _ _ eU ae) ((hR.place _ id eU).trans hb)
 |@whole e id es fz b cap ae hb b7 cS hm=>
  simp only[mN];cases cE:mM ord id 0 with
  |none=>
   simp only[ae];cases fz with
   |false=>exact .undef
   |true=>
    simp only[nX,cond_true];have hr:=S.h.rel id _ ae;cases hr with
    |fT aJ=>grind
    |arr hL aD aJ hh hs hf jm hx=>
     rw[hb]at aJ;cases aJ;have:=C3 (I':=I) (off:=0) (len:=es.length) (o:=0) hh hx (gP aD) (by omega) cS (fun _=>by simp) (fun _ _ h=>h) (hT _ _ _ _ ae hb);exact .list (by grind)
  |some j=>
   obtain⟨k,rfl,hk⟩:=p9 cE;have eU:ord[0+k]? =some id:=by grind
   exact .whole (hR.arr _ id _ _ _ eU ae) ((hR.place _ id eU).trans hb) b7 cS hm
 |@nf e id fz _ ae hb=>
  simp only[mN];cases cE:mM ord id 0 with
  |none=>
   simp only[ae];cases fz with
   |false=>exact .undef
   |true=>simp only[nX,cond_true];exact .list (by simpa using(oe.any (P:=P) fun _=>rfl))
  |some j=>
   obtain⟨k,rfl,hk⟩:=p9 cE;have eU:ord[0+k]? =some id:=by grind
   exact .nf (hR.arr _ id _ _ _ eU ae) ((hR.place _ id eU).trans hb)
 |@sub e id off len es fz b o cap ae hb pV cS ho=>
  simp only[mN];cases cE:mM ord id 0 with
  |none=>
   simp only[ae];cases fz with
   |false=>exact .undef
   |true=>
    simp only[nX,cond_true];have hr:=S.h.rel id _ ae;cases hr with
    |fT aJ=>grind
    |arr hL aD aJ hh hs hf jm hx=>
     rw[hb]at aJ;cases aJ;exact .list (C3 (I':=I) hh hx (gP aD) pV cS ho (fun _ _ h=>h) (hT _ _ _ _ ae hb))
  |some j=>
   obtain⟨k,rfl,hk⟩:=p9 cE;have eU:ord[0+k]? =some id:=by grind
   exact .sub (hR.arr _ id _ _ _ eU ae) ((hR.place _ id eU).trans hb) pV cS ho
 |@ptr id i c b blk ae hd hb=>
  simp only[mN];cases cE:mM ord id 0 with
  |none=>exact .undef
  |some j=>
   obtain⟨k,rfl,hk⟩:=p9 cE;have eU:ord[0+k]? =some id:=by grind
   cases blk with
   |dead=>grind
   |var T0 cs=>
    obtain⟨nL,h'⟩:=hR.var _ id T0 cs eU ae;exact .ptr (blk:= .var T0 nL) h' (by simp) ((hR.place _ id eU).trans hb)
   |arr e es fz=>exact .ptr (blk:= .arr e es fz) (hR.arr _ id _ _ _ eU ae) (by simp) ((hR.place _ id eU).trans hb)
   |nest e es vers=>exact .ptr (blk:= .nest e es (vers.map fun _=>0)) (hR.nest _ id _ _ _ eU ae) (by simp) ((hR.place _ id eU).trans hb)
   |map t es=>exact .ptr (blk:= .map t es) (hR.map _ id _ _ eU ae) (by simp) ((hR.place _ id eU).trans hb)
   |out e es vs i=>exact .oG (hR.out _ id _ _ _ _ eU ae)
 |fZ=>exact .fZ
 |@nJ _ t id ae=>
  simp only[mN];cases cE:mM ord id 0 with
  |none=>exact .undef
  |some j=>
   obtain⟨k,rfl,hk⟩:=p9 cE;exact .nJ (hR.dead _ id (by grind) ae)
 |@dt t id b es ae hb=>
  simp only[mN];cases cE:mM ord id 0 with
  |none=>exact .undef
  |some j=>
   obtain⟨k,rfl,hk⟩:=p9 cE;have eU:ord[0+k]? =some id:=by grind
   exact .dt (hR.map _ id _ _ eU ae) ((hR.place _ id eU).trans hb)
 |@iv e id i es vers b cap ae hb b7 cS hm=>
  simp only[mN];cases cE:mM ord id 0 with
  |none=>simp only[ae];exact .undef
  |some j=>
   obtain⟨k,rfl,hk⟩:=p9 cE;exact .fq (hR.out _ id _ _ _ _ (by grind) ae)
 |@fA e id vers _ ae hb=>
  simp only[mN];cases cE:mM ord id 0 with
  |none=>simp only[ae];exact .undef
  |some j=>
   obtain⟨k,rfl,hk⟩:=p9 cE;have eU:ord[0+k]? =some id:=by grind
   exact .fA (hR.nest _ id _ _ _ eU ae) ((hR.place _ id eU).trans hb)
 |@fb e id es vers b cap ae hb b7 cS hm=>
  simp only[mN];cases cE:mM ord id 0 with
  |none=>simp only[ae];exact .undef
  |some j=>
   obtain⟨k,rfl,hk⟩:=p9 cE;have eU:ord[0+k]? =some id:=by grind
   exact .fb (hR.nest _ id _ _ _ eU ae) ((hR.place _ id eU).trans hb) b7 cS hm
 |@oH v e id ver path blk ae JG=>
  simp only[mN];split
  ·rename_i j e1 dT vers h1 h2;rw[ae]at h2;cases h2;cases hc:(Nat.blt 0 path.length&&(Nat.ble path.length vers.length&&Nat.beq (cy vers (path.length-1)) ver))with
   |false=>exact .undef
   |true=>exact(ahv hc JG).elim
  ·exact .undef
 |@oI v id ver i c path blk ae JG=>
  simp only[mN];split
  ·rename_i j e1 dT vers h1 h2;rw[ae]at h2;cases h2;cases hc:(Nat.blt 0 path.length&&(Nat.ble path.length vers.length&&Nat.beq (cy vers (path.length-1)) ver))with
   |false=>exact .undef
   |true=>exact(ahv hc JG).elim
  ·exact .undef
 |@row v e e0 t id ver b i c q es l vers ae hb hq hv ht hc=>
  simp only[mN];split
  ·rename_i j e1 dT AY h1 h2;obtain⟨k,rfl,hk⟩:=p9 h1;have eU:ord[0+k]? =some id:=by grind
   cases hx:(Nat.blt 0 (q++[(i,c)]).length&&(Nat.ble (q++[(i,c)]).length AY.length&&Nat.beq (cy AY ((q++[(i,c)]).length-1)) ver))with
   |false=>exact .undef
   |true=>exact .row (hR.nest _ id _ _ _ eU ae) ((hR.place _ id eU).trans hb) (by grind) (X7 _ _) ht hc
  ·exact .undef
 |@ez e e0 t id ver b b1 len cap i0 c0 i c q es l vers ae hb hq hv ht oJ hc=>
  simp only[mN];split
  ·rename_i j e1 dT AY h1 h2;obtain⟨k,rfl,hk⟩:=p9 h1;have eU:ord[0+k]? =some id:=by grind
   cases hx:(Nat.blt 0 (q++[(i0,c0)]).length&&(Nat.ble (q++[(i0,c0)]).length AY.length&&Nat.beq (cy AY ((q++[(i0,c0)]).length-1)) ver))with
   |false=>exact .undef
   |true=>exact .ez (hR.nest _ id _ _ _ eU ae) ((hR.place _ id eU).trans hb) (by grind) (X7 _ _) ht oJ hc
  ·exact .undef
theorem ahx(S:aK P w I β hp B M w0)(hT:zh P I β hp){ord:List Nat}(hR:Gq hp β ord hp' β'){vs:Array Value}{xs:List V}(h:∀(j:Nat) v x,vs[j]? =some v→xs[j]? =some x→ah P w I β hp v x)(j:Nat)(v:Value)(y:V)
  (hv:vs[j]? =some v) (hy:(xs.map (mN hp ord))[j]? =some y):ah P w I β' hp' v y:=by
 rw[mY]at hy;cases hx:xs[j]? with
 |none=>grind
 |some x=>rw[hx]at hy;cases hy;exact ahw S hT hR (h j v x hv hx)
theorem ahy(S:aK P w I β hp B M w0)(hT:zh P I β hp){ord:List Nat}(hR:Gq hp β ord hp' β'){kn:Bool}{n:Nat}{v:Value}{x:V}(hv:ah P w I β hp v x)(hF:qM hp' β' n (FI hp ord kn n x).2):
  ah P w I β' hp' v (FI hp ord kn n x).1:=by
 cases x with
 |nilS e=>
  cases hv with
  |nilS=>
   cases kn with
   |true=>exact .nilS
   |false=>
    obtain⟨h1,h2⟩:=hF 0 _ rfl;exact .fk h1 h2
 |fn f a b=>
  cases hv with
  |fn q1 q2 q3 q4=>exact .fn (by grind) (ahx S hT hR q2) (by grind) (ahx S hT hR q4)
 |_=>exact ahw S hT hR hv
end
section
variable {P:Program}{A:dM}{w w':World}{I I' I2:Nat→Nat→Prop}{μ β β':Nat→Option Nat}{hp hp':Nat→Option ag}{C:af}{B:Nat}{M:Nat→Prop}{w0:Start}
theorem qM.left{n:Nat}{a b:List ag}(h:qM hp' β' n (a++b)):qM hp' β' n a:=fun k x hx=>
 h k x (by rw[o6 (cP.1 hx).1];exact hx)
theorem qM.right{n:Nat}{a b:List ag}(h:qM hp' β' n (a++b)):qM hp' β' (n+a.length) b:=fun k x hx=>by
 have:=h (a.length+k) x (by rw[qv (by omega),PS];exact hx);rwa [←Cy]at this
def sQ(bs:List ag):Prop:= ∀b∈bs,∃e,b= .arr e [] false
theorem sQ.app{a b:List ag}(h1:sQ a)(h2:sQ b):sQ (a++b):=fun x hx=>(fQ.1 hx).elim (h1 x) (h2 x)
theorem sQ.nil:sQ []:=fun x hx=>by simp at hx
theorem ahz{ord:List Nat}{kn:Bool}{n:Nat}{x:V}:sQ (FI hp ord kn n x).2:=by
 cases x<;>simp only[FI]<;>first|exact .nil|skip
 cases kn<;>first|exact .nil|skip
 intro b hb;simp only[cond_false,iY]at hb;exact⟨_,hb⟩
theorem X8{ord:List Nat}{kn:Bool}:∀{xs:List V} {n:Nat},sQ (tN hp ord kn n xs).2
 | [],n=> .nil
 |x::xs,n=>by
  simp only[tN];exact ahz.app X8
theorem Rt{ord:List Nat}{kn:Bool}:∀{xs:List V} {n:Nat},(tN hp ord kn n xs).1.length=xs.length
 | [],n=>rfl
 |x::xs,n=>by simp only[tN,List.length_cons,Rt]
theorem Ru(S:aK P w I β hp B M w0)(hT:zh P I β hp){ord:List Nat}(hR:Gq hp β ord hp' β'){kn:Bool}:∀{xs:List V} {vs:List Value} {n:Nat},(∀(j:Nat) v x,vs[j]? =some v→xs[j]? =some x→ah P w I β hp v x)→
  qM hp' β' n (tN hp ord kn n xs).2→∀(j:Nat) v y,vs[j]? =some v→(tN hp ord kn n xs).1[j]? =some y→ah P w I β' hp' v y
 | [],vs,n,h,hF,j,v,y,hv,hy=>by simp[tN]at hy
 |x::xs,vs,n,h,hF,j,v,y,hv,hy=>by
  simp only[tN]at hF hy;cases j with
  |zero=>
   simp at hy;subst hy;exact ahy S hT hR (h 0 v x hv rfl) hF.left
  |succ j=>
   cases vs with
   |nil=>simp at hv
   |cons v0 vs=>exact Ru S hT hR (vs:=vs) (fun j v x hj hx=>h (j+1) v x (by simpa using hj) (by simpa using hx)) hF.right j v y (by simpa using hv) (by simpa using hy)
theorem arB{ord:List Nat}{n:Nat}{x:V}:sQ (y9 hp ord n x).2:=by
 cases x<;>simp only[y9]<;>first|exact ahz|exact X8
theorem arC(S:aK P w I β hp B M w0)(hT:zh P I β hp){ord:List Nat}(hR:Gq hp β ord hp' β'){n:Nat}{v:Value}{x:V}(hv:ah P w I β hp v x)(hF:qM hp' β' n (y9 hp ord n x).2):
  ah P w I β' hp' v (y9 hp ord n x).1:=by
 cases x with
 |agg cs=>
  obtain⟨ds,rfl,h1,h2⟩:=hv.qE;simp only[y9]at hF⊢;exact .agg (by rw[Rt];exact h1) fun j v y hj hy=>Ru S hT hR (vs:=ds.toList) (fun j v x hj hx=>h2 j v x (by simpa using hj) hx) hF j v y (by simpa using hj) hy
 |bN cs=>
  obtain⟨ds,rfl,h1,h2⟩:=hv.Dc;simp only[y9]at hF⊢;exact .bN (by rw[Rt];exact h1) fun j v y hj hy=>Ru S hT hR (vs:=ds.toList) (fun j v x hj hx=>h2 j v x (by simpa using hj) hx) hF j v y (by simpa using hj) hy
 |_=>exact ahy S hT hR hv hF
theorem ahA{ord:List Nat}{sl:Nat→V}:∀{l:List Nat} {n:Nat},sQ (rA hp ord sl n l).2
 | [],n=> .nil
 |s::l,n=>by
  simp only[rA];exact arB.app ahA
theorem ahB{ord:List Nat}{sl:Nat→V}{k:Nat}{y:V}:∀{l:List Nat} {n:Nat},qM hp' β' n (rA hp ord sl n l).2→gN (rA hp ord sl n l).1 k=some y→
  ∃n',qM hp' β' n' (y9 hp ord n' (sl k)).2∧y=(y9 hp ord n' (sl k)).1
 | [],n,_,h=>by cases h
 |s::l,n,hF,h=>by
  simp only[rA]at hF h;simp only[gN]at h;cases hb:Nat.beq k s with
  |true=>
   rw[hb]at h;rw[bU]at hb;subst hb;cases h;exact⟨n,hF.left,rfl⟩
  |false=>
   rw[hb]at h;exact ahB hF.right h
theorem arD{ord kp:List Nat}{n id:Nat}:sQ (iN hp ord kp n id).2:=by
 unfold iN;split
 ·exact X8
 ·exact .nil
 ·exact .nil
 ·exact .nil
 ·exact .nil
theorem ahC{ord kp:List Nat}:∀{l:List Nat} {n:Nat},sQ (la hp ord kp n l).2
 | [],n=> .nil
 |s::l,n=>by
  simp only[la];exact arD.app ahC
theorem ahD{ord kp:List Nat}:∀{l:List Nat} {n:Nat},(la hp ord kp n l).1.length=l.length
 | [],n=>rfl
 |x::xs,n=>by simp only[la,List.length_cons,ahD]
theorem ahE{ord kp:List Nat}:∀{l:List Nat} {n j:Nat} {id:Nat},l[j]? =some id→∃n',(qM hp' β' n (la hp ord kp n l).2→qM hp' β' n' (iN hp ord kp n' id).2)∧(la hp ord kp n l).1[j]? =some (iN hp ord kp n' id).1
 | [],n,j,id,h=>by simp at h
 |s::l,n,j,id,h=>by
  simp only[la];cases j with
  |zero=>
   simp at h;subst h;exact⟨n,fun hF=>hF.left,rfl⟩
  |succ j=>
   obtain⟨n',h1,h2⟩:=ahE (n:=n+(iN hp ord kp n s).2.length) (j:=j) (by simpa using h);exact⟨n',fun hF=>h1 hF.right,by simpa using h2⟩
theorem Rv:∀{l acc:List Nat},∃t,CR hp acc l=acc++t∧(acc.Nodup→(acc++t).Nodup)
 | [],acc=>⟨[],by simp[CR],by simp⟩
 |id::l,acc=>by
  simp only[CR];cases hb:(mo acc id|| !(Wn hp id))with
  |true=>exact Rv
  |false=>
   obtain⟨t,h1,h2⟩:=Rv (l:=l) (acc:=acc++[id]);refine⟨id::t,by simp only[cond_false,h1,kH,List.singleton_append],fun hn=> ?_⟩;have:acc++id::t=(acc++[id])++t:=by simp
   rw[this];refine h2 ?_;rw[PV];refine⟨hn,by simp,fun a ha b aJ=> ?_⟩;simp only[iY]at aJ;subst aJ;intro e;subst e;rw[FZ ha]at hb;cases hb
theorem ahF:∀{n:Nat} {l:List Nat},∃t,grow hp n l=l++t∧(l.Nodup→(l++t).Nodup)
 |0,l=>⟨[],by simp[grow],by simp⟩
 |n+1,l=>by
  simp only[grow];obtain⟨t,h1,h2⟩:=Rv (hp:=hp) (acc:=l) (l:=l.flatMap (Wo hp));rw[h1];obtain⟨t',h3,h4⟩:=ahF (n:=n) (l:=l++t);exact⟨t++t',by rw[h3,kH],fun hn=>by rw[←kH];exact h4 (h2 hn)⟩
theorem arE{m:Nat}{live:List Nat}{st:St}:∃t,Wp m live st=List.range m++t∧(List.range m++t).Nodup:=by
 unfold Wp;obtain⟨t,h1,h2⟩:=Rv (hp:=st.hp) (acc:=List.range m) (l:=live.flatMap fun s=>Qt (st.sl s));rw[h1];obtain⟨t',h3,h4⟩:=ahF (hp:=st.hp) (n:=3) (l:=List.range m++t);rw[h3];exact⟨t++t',by simp only[kH],by simpa only[kH]using h4 (h2 I6)⟩
end
section
variable {P:Program}{A:dM}{E:FuncId→Bool}{G:Nat→V}{w w':World}{I I' I2:Nat→Nat→Prop}{μ β β':Nat→Option Nat}{hp hp' hp0:Nat→Option ag}{C:af}{B:Nat}{M:Nat→Prop}{w0:Start}
def DN(hp0:Nat→Option ag):Prop:= ∀id e es vers,(hp0 id=some (.nest e es vers)∨∃i,hp0 id=some (.out e es vers i))→∀k,cy vers k=0
theorem ahG{n m:Nat}{ord kp live:List Nat}{a:Act}{st:St}(rJ:ord.Nodup)(pr:∀id,id<m→ord[id]? =some id∨∃p,ord[id]? =some p∧st.hp p=none)(S:aK P w I β st.hp B M w0)(hT:zh P I β st.hp)(hA:kg P E G w I β n a st)(hE:qK w0.w w0.I μ hp0 w I β st.hp)(hm:∀id blk,hp0 id=some blk→id<m)(kS:DN hp0):
  ∃β',aK P w I β' (FJ ord kp live st).hp B M w0∧kg P E G w I β' n a (FJ ord kp live st)∧qK w0.w w0.I μ hp0 w I β' (FJ ord kp live st).hp:=by
 have arF:FJ ord kp live st=mk (rA st.hp ord st.sl (ord.length+(la st.hp ord kp ord.length ord).2.length) live).1
   ((la st.hp ord kp ord.length ord).1++((la st.hp ord kp ord.length ord).2++(rA st.hp ord st.sl (ord.length+(la st.hp ord kp ord.length ord).2.length) live).2)):=by
  rfl
 rw[arF]
 let hp':=pd ((la st.hp ord kp ord.length ord).1++((la st.hp ord kp ord.length ord).2++(rA st.hp ord st.sl (ord.length+(la st.hp ord kp ord.length ord).2.length) live).2))
 let β':Nat→Option Nat:=fun j=>if j<ord.length then(ord[j]?).bind β else none
 have hlen:(la st.hp ord kp ord.length ord).1.length=ord.length:=ahD;have tZ:∀j,j<ord.length→hp' j=(la st.hp ord kp ord.length ord).1[j]? :=by
  intro j hj;simp only[hp',np];rw[o6 (by omega)]
 have rN:∀k,hp' (ord.length+k)=((la st.hp ord kp ord.length ord).2++(rA st.hp ord st.sl (ord.length+(la st.hp ord kp ord.length ord).2.length) live).2)[k]? :=by
  intro k;simp only[hp',np];rw[qv (by omega),hlen,PS]
 have hF:qM hp' β' ord.length ((la st.hp ord kp ord.length ord).2++(rA st.hp ord st.sl (ord.length+(la st.hp ord kp ord.length ord).2.length) live).2):=by
  intro k b hb;refine⟨(rN k).trans hb,?_⟩;simp only[β'];rw[fH]
 have Ku:sQ ((la st.hp ord kp ord.length ord).2++(rA st.hp ord st.sl (ord.length+(la st.hp ord kp ord.length ord).2.length) live).2):=ahC.app ahA;have vG:∀(j:Nat) id,ord[j]? =some id→β' j=β id:=by
  intro j id hj;simp only[β'];rw[aP (cP.1 hj).1,hj];rfl
 have xG:∀(j:Nat) id,ord[j]? =some id→∃n',qM hp' β' n' (iN st.hp ord kp n' id).2∧hp' j=some (iN st.hp ord kp n' id).1:=by
  intro j id hj;obtain⟨n',h1,h2⟩:=ahE (hp:=st.hp) (hp':=hp') (β':=β') (ord:=ord) (kp:=kp) (n:=ord.length) hj;exact⟨n',h1 hF.left,(tZ j (cP.1 hj).1).trans h2⟩
 have hR:Gq st.hp β ord hp' β':=by
  refine⟨fun j id e es fz hj ae=> ?_,fun j id T cs hj ae=> ?_,fun j id hj ae=> ?_,fun j id e es vs i hj ae=> ?_,vG,fun j id e es vers hj ae=> ?_,fun j id t es hj ae=> ?_⟩
  ·obtain⟨n',_,h2⟩:=xG j id hj;rw[h2];simp only[iN,ae]
  ·obtain⟨n',_,h2⟩:=xG j id hj;rw[h2];simp only[iN,ae];exact⟨_,rfl⟩
  ·obtain⟨n',_,h2⟩:=xG j id hj;rw[h2];simp only[iN,ae]
  ·obtain⟨n',_,h2⟩:=xG j id hj;rw[h2];simp only[iN,ae]
  ·obtain⟨n',_,h2⟩:=xG j id hj;rw[h2];simp only[iN,ae]
  ·obtain⟨n',_,h2⟩:=xG j id hj;rw[h2];simp only[iN,ae]
 have cls:∀j blk',hp' j=some blk'→(∃id,ord[j]? =some id∧((blk'= .dead)∨∃blk,st.hp id=some blk∧blk≠ .dead∧∀o b,bV P w o blk' b→bV P w o blk b))∨(∃e,blk'= .arr e [] false∧β' j=none):=by
  intro j blk' hj;rcases fR j ord.length with h|h
  ·have ja:=cv h;obtain⟨n',_,h2⟩:=xG j _ ja;rw[hj]at h2;refine .inl ⟨_,ja,?_⟩;cases ae:st.hp ord[j]with
   |none=>left;simp only[iN,ae]at h2;exact fP h2
   |some blk=>
    cases blk with
    |dead=>left;simp only[iN,ae]at h2;exact fP h2
    |out _ _ _ _=>left;simp only[iN,ae]at h2;exact fP h2
    |var T0 cs=>exact .inr ⟨_,rfl,by simp,fun o b h=>by simp only[iN,ae]at h2;rw[fP h2]at h;exact .root (by simp) (h.flat (by simp))⟩
    |arr e es fz=>exact .inr ⟨_,rfl,by simp,fun o b h=>by simp only[iN,ae]at h2;rw[fP h2]at h;exact .root (by simp) (h.flat (by simp))⟩
    |map t es=>exact .inr ⟨_,rfl,by simp,fun o b h=>by simp only[iN,ae]at h2;rw[fP h2]at h;exact .root (by simp) (h.flat (by simp))⟩
    |nest e es vers=>
     refine .inr ⟨_,rfl,by simp,fun o b h=> ?_⟩;simp only[iN,ae]at h2;rw[fP h2]at h;cases h with
     |root _ h=>exact .root (by simp) h
     |row h1 h2=>exact .row h1 h2
  ·obtain⟨k,rfl⟩:∃k,j=ord.length+k:=⟨j-ord.length,by omega⟩
   rw[rN]at hj;obtain⟨e,he⟩:=Ku _ (o4 hj);exact .inr ⟨e,he,(hF k _ hj).2⟩
 refine⟨β',⟨⟨fun j blk' hj=> ?_,fun j1 j2 b1 b2 b e1 e2 f1 f2=> ?_,fun j blk b e1 f1=> ?_,S.h.mw⟩,S.dF,S.size,S.new,S.io⟩,⟨fun k=> ?_,hA.size,hA.defers,hA.aV⟩,⟨hE.fI,hE.dF,fun id blk ae=> ?_,fun id blk blk' b ae cM hd hb=> ?_⟩⟩
 ·change hp' j=some blk' at hj;rcases fR j ord.length with h|h
  ·have ja:=cv h;obtain⟨n',hF',h2⟩:=xG j _ ja;rw[hj]at h2;rw[vG j _ ja];cases ae:st.hp ord[j]with
   |none=>simp only[iN,ae]at h2;rw[fP h2];exact .dead
   |some blk=>
    have hr:=S.h.rel _ _ ae;generalize β ord[j]=o at hr;cases hr with
    |dead=>simp only[iN,ae]at h2;rw[fP h2];exact .dead
    |out=>simp only[iN,ae]at h2;rw[fP h2];exact .dead
    |fT hb=>simp only[iN,ae]at h2;rw[fP h2];exact .fT hb
    |arr a0 a1 a2 a3 a4 a5 a6 a7=>simp only[iN,ae]at h2;rw[fP h2];exact .arr a0 a1 a2 a3 a4 a5 a6 a7
    |nest a1 a2 a3=>simp only[iN,ae]at h2;rw[fP h2];exact .nest a1 a2 a3
    |kO a1=>simp only[iN,ae]at h2;rw[fP h2];exact .kO a1
    |map a1 a2 a3 a4 a5 a6 a7=>simp only[iN,ae]at h2;rw[fP h2];exact .map a1 a2 a3 a4 a5 a6 a7
    |@var xs b Ca T hb hh hs dU hx my=>
     simp only[iN,ae]at h2 hF';rw[fP h2];exact .var hb hh (by rw[Rt];exact hs) dU (fun i v y hi hy=>Ru S hT hR (vs:=Ca.toList) (fun i v x hi eo=>hx i v x (by simpa using hi) eo) hF' i v y (by simpa using hi) hy) my
  ·rcases cls j blk' hj with⟨id,ae,_⟩|⟨e,he,hb⟩
   ·have:=(cP.1 ae).1;omega
   ·rw[he];exact .fT hb
 ·rcases cls j1 b1 e1 with⟨X9,o1,x1⟩|⟨e,_,hb⟩
  ·rcases cls j2 b2 e2 with⟨b9,o2,x2⟩|⟨e,_,hb⟩
   ·obtain⟨c1,y1,z1,g1⟩:=x1.resolve_left f1.alive;obtain⟨c2,y2,z2,g2⟩:=x2.resolve_left f2.alive;rw[vG _ _ o1]at f1;rw[vG _ _ o2]at f2;have:=S.h.inj X9 b9 c1 c2 b y1 y2 (g1 _ _ f1) (g2 _ _ f2);subst this;obtain⟨q1,q2⟩:=cP.1 o1;obtain⟨q3,q4⟩:=cP.1 o2;exact(List.getElem_inj rJ).1 (q2.trans q4.symm)
   ·subst ‹b2=_›;have:=f2.flat (by simp);rw[hb]at this;cases this
  ·subst ‹b1=_›;have:=f1.flat (by simp);rw[hb]at this;cases this
 ·rcases cls j blk e1 with⟨X9,o1,x1⟩|⟨e,_,hb⟩
  ·obtain⟨c1,y1,z1,g1⟩:=x1.resolve_left f1.alive;rw[vG _ _ o1]at f1;exact S.h.own X9 c1 b y1 (g1 _ _ f1)
  ·subst ‹blk=_›;have:=f1.flat (by simp);rw[hb]at this;cases this
 ·change ah P w I β' hp' (a.tmps.getD k undef) (oF _ k);unfold oF;cases Kh:gN (rA st.hp ord st.sl (ord.length+(la st.hp ord kp ord.length ord).2.length) live).1 k with
  |none=>exact .undef
  |some y=>
   obtain⟨n',h1,h2⟩:=ahB hF.right Kh;simp only[Option.getD_some,h2];exact arC S hT hR (hA.sl k) h1
 ·obtain⟨xA,k1,k2,k3⟩:=hE.blk id blk ae;rcases pr id (hm id blk ae)with ho|⟨p,ho,cE⟩
  ·cases xA with
   |dead=>exact⟨.dead,hR.dead id id ho k1,k2,fun h=>absurd rfl h⟩
   |out e es vs i=>exact⟨.dead,hR.out id id _ _ _ _ ho k1,by cases blk<;>trivial,fun h=>absurd rfl h⟩
   |var T0 cs=>
    obtain⟨nL,h'⟩:=hR.var id id T0 cs ho k1;refine⟨_,h',?_,fun _=>(vG id id ho).trans (k3 (by simp))⟩;cases blk<;>simp_all [ag.le]
   |arr e es fz=>exact⟨_,hR.arr id id e es fz ho k1,k2,fun _=>(vG id id ho).trans (k3 (by simp))⟩
   |map t es=>exact⟨_,hR.map id id t es ho k1,k2,fun _=>(vG id id ho).trans (k3 (by simp))⟩
   |nest e es vers=>
    refine⟨_,hR.nest id id e es vers ho k1,?_,fun _=>(vG id id ho).trans (k3 (by simp))⟩;rcases ag.afh k2 with⟨XS,arG,rfl,l1,l2,_⟩|⟨XS,arG,i0,rfl,l1,l2,_⟩
    ·exact⟨rfl,l1,by simpa using l2,fun k=>by rw[kS id _ _ _ (.inl ae) k];exact mi _⟩
    ·exact⟨rfl,l1,by simpa using l2,fun k=>by rw[kS id _ _ _ (.inr ⟨_,ae⟩) k];exact mi _⟩
  ·obtain⟨n',_,h2⟩:=xG id p ho;simp only[iN,cE]at h2;exact⟨.dead,h2,by cases blk<;>trivial,fun h=>absurd rfl h⟩
 ·obtain⟨xA,k1,k2,k3⟩:=hE.blk id blk ae;rcases pr id (hm id blk ae)with ho|⟨p,ho,cE⟩
  ·refine hE.size id blk xA b ae k1 (fun zx=> ?_) hb;subst zx;have:=hR.dead id id ho k1;change hp' id=some blk' at cM;rw[this]at cM;exact hd (fP cM).symm
  ·obtain⟨n',_,h2⟩:=xG id p ho;simp only[iN,cE]at h2;change hp' id=some blk' at cM;rw[h2]at cM;exact absurd (fP cM).symm hd
theorem arH{n m:Nat}{live:List Nat}{a:Act}{st:St}(S:aK P w I β st.hp B M w0)(hT:zh P I β st.hp)(hA:kg P E G w I β n a st)(hE:qK w0.w w0.I μ hp0 w I β st.hp)(hm:∀id blk,hp0 id=some blk→id<m)(kS:DN hp0):
  ∃β',aK P w I β' (canon m live st).hp B M w0∧kg P E G w I β' n a (canon m live st)∧qK w0.w w0.I μ hp0 w I β' (canon m live st).hp:=by
 obtain⟨t,pr,rJ⟩:=arE (m:=m) (live:=live) (st:=st);refine ahG (by rw[pr];exact rJ) (fun id bO=> .inl ?_) S hT hA hE hm kS;rw[pr,o6 (by simpa using bO)];simp[bO]
theorem ahH:∀{l:List Nat},vg l=true→l.Nodup
 | [],_=> .nil
 |a::l,h=>by
  simp only[vg,bc,qu]at h;rw[List.nodup_cons];exact⟨fun hm=>Bool.noConfusion ((FZ hm).symm.trans h.1),ahH h.2⟩
theorem arI{m:Nat}{mv:List Nat}{id:Nat}(h:id<m):(sD m mv)[id]? =some id∨(sD m mv)[id]? =some (m+id):=by
 unfold sD;rw[o6 (by simpa using h),mY];simp only[PY h,Option.map_some];cases mo mv id with
 |true=>exact .inr rfl
 |false=>exact .inl rfl
end
end Go.AM
