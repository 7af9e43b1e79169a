/-
  Functions of the program, lifted to plain data.
-/
import Derived.Laws.BytesString
import Derived.Lib.Builder
import Derived.Lib.UnsafeStr
import Derived.Conc.MuLone
import Derived.Defers
import Derived.Test.YtkfgodlgmlhbjaaGreatP2
set_option linter.unusedVariables false
set_option linter.unusedSimpArgs false
namespace Go.AM
section
variable {P:Program} {w w':World} {I I':Nat→Nat→Prop} {β β':Nat→Option Nat} {hp hp':Nat→Option ai} {C:ah} {B:Nat} {M:Nat→Prop} {w0:Start}
theorem RA: ∀(ns:List Int) (s:ByteArray),(ns.foldl (fun r n=>r.push (UInt8.ofNat n.toNat)) s).data.toList=s.data.toList++ns.map fun n=>UInt8.ofNat n.toNat
 | [],s=>by simp
 | n::ns,s=>by
  simp only[List.foldl_cons,RA ns,cM]
  simp[ByteArray.push]
theorem Ew {e:TypeId} {u:Value} {x:V} (he:P.underlying e=some (.int .u8)) (hp:Pure P w I e u x):u= .int .u8 x.toInt:=by
 cases hp with
 | int hp'=>rw[he] at hp';cases hp';rfl
 | bool hp'=>rw[he] at hp';cases hp'
 | str hp'=>rw[he] at hp';cases hp'
 | nil hp'=>rw[he] at hp';cases hp'
 | emp hp'=>rw[he] at hp';cases hp'
 | list _ hp'=>rw[he] at hp';cases hp'
theorem aaC (S:aC P w I β hp B M w0) {src dst e:TypeId} {v:Value} {x:V} {r:R} {rd:List Nat} (hs:P.underlying src=some (.slice e)) (he:P.underlying e=some (.int .u8)) (hd:P.underlying dst=some .string)
  (hv:ak P w I β hp v x) (h:(Rd.aD (cR P e) (sO e x fun es=> .ret ⟨.str (ly es),[]⟩)).run C hp=some (r,rd)):c7 P ((convert src dst v).run P w) w I β hp B M w0 r:=by
 obtain ⟨ar,h⟩:=aG h
 obtain ⟨xs,hx,l,h⟩:=FH S.h.rel ar hv h
 obtain rfl:=aT h
 have om:bM P e=false:=by simp[bM,he]
 have h1:P.cellsOf e=1:=by rw[←(lE ar).1,AV om];rfl
 rcases hx with ⟨⟨a,rfl⟩,rfl⟩|⟨a,c,news,hr⟩
 ·refine .same S (v:= .string .empty) ?_ (.str (by simp[ly]))
  rw[run_convert_bytes_string w src dst e a 0 0 hs he hd]
  cases a<;>simp[Conv.bytesToString,loadCells,loadCellsFrom]
 ·have th:news=(xs.map V.toInt).map (Value.int .u8):=by
   apply List.ext_getElem?
   intro j
   by_cases hj:j<xs.length
   ·obtain ⟨u,hu,hp⟩:=hr.el j 0 xs[j] e (bA hj) (by simp[aW,om]) (by omega)
    rw[h1] at hu
    simp only[bR,om,cond_false] at hp
    have gp:news[j]? =some u:=by simpa using hu
    rw[gp]
    have:=Ew he hp
    simp[hj,←this]
   ·have hl:news.length=xs.length:=by rw[hr.len,h1];simp
    rw[Ae (by omega),Ae (by simp;omega)]
  have Kt:=run_loadCells_list (P:=P) w a news hr.cell
  have hl:news.length=xs.length:=by rw[hr.len,h1];simp
  rw[hl] at Kt
  rw[th] at Kt
  refine .same S (v:= .string ((xs.map V.toInt).foldl (fun r n=>r.push (UInt8.ofNat n.toNat)) ByteArray.empty)) ?_ (.str ?_)
  ·rw[hr.val,run_convert_bytes_string w src dst e _ _ _ hs he hd]
   exact run_bytesToString w a xs.length c (xs.map V.toInt) Kt
  ·rw[RA]
   simp[ly]
theorem ak.FT {v:Value} (h:ak P w I β hp v .dH):v= .pointer none:=by cases h;rfl
section
variable (w:World)
theorem aaD (t e:TypeId) (a:Addr) (h:P.underlying t=some (.pointer e)):(binOp .eql t (.pointer (some a)) (.pointer none)).run P w= .ok (.bool false) w:=by
 have h0: ∀d:Nat,(Op.equalIn (d+1) t (.pointer (some a)) (.pointer none)).run P w= .ok false w:=fun d=>by simp[Op.equalIn,run_underlying h]
 simp only[binOp]
 simp[Op.equal,Op.maxDepth,h0 9999]
theorem aaE (t e:TypeId) (a:Addr) (h:P.underlying t=some (.pointer e)):(binOp .neq t (.pointer (some a)) (.pointer none)).run P w= .ok (.bool (!false)) w:=by
 have h0: ∀d:Nat,(Op.equalIn (d+1) t (.pointer (some a)) (.pointer none)).run P w= .ok false w:=fun d=>by simp[Op.equalIn,run_underlying h]
 simp only[binOp]
 simp[Op.equal,Op.maxDepth,h0 9999]
theorem aaF (t e:TypeId) (a:Addr) (h:P.underlying t=some (.pointer e)):(binOp .eql t (.pointer none) (.pointer (some a))).run P w= .ok (.bool false) w:=by
 have h0: ∀d:Nat,(Op.equalIn (d+1) t (.pointer none) (.pointer (some a))).run P w= .ok false w:=fun d=>by simp[Op.equalIn,run_underlying h]
 simp only[binOp]
 simp[Op.equal,Op.maxDepth,h0 9999]
theorem aaG (t e:TypeId) (a:Addr) (h:P.underlying t=some (.pointer e)):(binOp .neq t (.pointer none) (.pointer (some a))).run P w= .ok (.bool (!false)) w:=by
 have h0: ∀d:Nat,(Op.equalIn (d+1) t (.pointer none) (.pointer (some a))).run P w= .ok false w:=fun d=>by simp[Op.equalIn,run_underlying h]
 simp only[binOp]
 simp[Op.equal,Op.maxDepth,h0 9999]
theorem aaH (t e:TypeId) (h:P.underlying t=some (.pointer e)):(binOp .eql t (.pointer none) (.pointer none)).run P w= .ok (.bool true) w:=by
 have h0: ∀d:Nat,(Op.equalIn (d+1) t (.pointer none) (.pointer none)).run P w= .ok true w:=fun d=>by simp[Op.equalIn,run_underlying h]
 simp only[binOp]
 simp[Op.equal,Op.maxDepth,h0 9999]
theorem aaI (t e:TypeId) (h:P.underlying t=some (.pointer e)):(binOp .neq t (.pointer none) (.pointer none)).run P w= .ok (.bool (!true)) w:=by
 have h0: ∀d:Nat,(Op.equalIn (d+1) t (.pointer none) (.pointer none)).run P w= .ok true w:=fun d=>by simp[Op.equalIn,run_underlying h]
 simp only[binOp]
 simp[Op.equal,Op.maxDepth,h0 9999]
end
theorem FU (S:aC P w I β hp B M w0) {op:BinOp} {t:TypeId} {b:Bool} {x y:Operand} {v1 v2:Value} {r:R} {rd:List Nat} (h:(ptrEq P op t b).run C hp=some (r,rd)) (hg:(eqGuard op t x y v1 v2).run P w= .ok () w)
  (he: ∀e j,P.underlying t=some (.pointer e)→P.info? e=some j→(binOp .eql t v1 v2).run P w= .ok (.bool b) w∧(binOp .neq t v1 v2).run P w= .ok (.bool (!b)) w):
  c7 P ((do eqGuard op t x y v1 v2;binOp op t v1 v2:Sem Value).run P w) w I β hp B M w0 r:=by
 unfold ptrEq at h
 cases hu:P.underlying t with
 | none=>rw[hu] at h;cases h
 | some d=>
  rw[hu] at h
  cases d<;>simp only at h<;>first|(cases h;done)|skip
  rename_i e
  obtain ⟨h1,U⟩:=aG h
  obtain ⟨j,hj⟩:=xe.1 h1
  obtain ⟨k1,k2⟩:=he e j hu hj
  cases op<;>simp only at U<;>first|(cases U;done)|skip
  ·obtain rfl:=aT U
   exact .same S (by simp only[Sem.run_bind,hg,Result.andThen_ok,k1]) .bool
  ·obtain rfl:=aT U
   exact .same S (by simp only[Sem.run_bind,hg,Result.andThen_ok,k2]) .bool
theorem aaJ {b n:Nat}:(∀b',b'≠b→(w.freeze ⟨b,0,none⟩ n).heap[b']? =w.heap[b']?)∧bsize (w.freeze ⟨b,0,none⟩ n) b=bsize w b∧w.heap.size≤(w.freeze ⟨b,0,none⟩ n).heap.size∧(w.freeze ⟨b,0,none⟩ n).os=w.os∧(w.freeze ⟨b,0,none⟩ n).output=w.output:=by
 unfold World.freeze
 split
 ·exact ⟨fun _ _=>rfl,rfl,cl _,rfl,rfl⟩
 ·refine ⟨fun b' hb=> ?_,?_,by simp,rfl,rfl⟩
  ·simp only[Ai]
   rw[an (fun e=>hb e.symm)]
  ·simp only[bsize,Ai,c6]
   cases w.heap[b]? with
   | none=>rfl
   | some o=>cases o<;>rfl
theorem aaK {e:TypeId} (hb:isByte P e=true):P.underlying e=some (.int .u8):=by
 unfold isByte at hb
 split at hb
 ·assumption
 ·cases hb
theorem aaL (S:aC P w I β hp B M w0) {ts:Array TypeId} {ty e:TypeId} {v:Value} {id:Nat} {es:List V} {fz:Bool} (hv:ak P w I β hp v (.whole e id)) (ab:hp id=some (.arr e es fz)) (h0:0<es.length):
  c7 P ((Builtin.unsafeSliceData_ ts ty #[v]).run P w) w I β hp B M w0 ⟨.ptr id 0 0,[]⟩:=by
 cases hv with
 | dI h=>rw[ab] at h;cases h
 | dw h _=>rw[ab] at h;cases h;simp at h0
 | di h _ _ _ _=>rw[ab] at h;cases h
 | dB h _=>rw[ab] at h;cases h
 | @whole _ _ aN nW b cap h hb b6 hle hm=>
  rw[ab] at h;cases h
  refine .same S (Lib.run_unsafeSliceData_row w ts ty ⟨b,0,none⟩ es.length cap (by omega)) ?_
  have:=ak.ptr (P:=P) (w:=w) (I:=I) (β:=β) (i:=0) (c:=0) ab (by simp) hb
  simpa using this
theorem aaM (S:aC P w I β hp B M w0) {t u ty e:TypeId} {vx:Value} {id:Nat} {n:Int} {es:List V} (hu:P.underlying t=some (.pointer e)) (hb:isByte P e=true) (hv:ak P w I β hp vx (.ptr id 0 0))
  (ab:hp id=some (.arr e es false)) (h0:0<n) (hn:n≤es.length) (hm:n.toNat≤sN) (mr:(es.take n.toNat).all xt=true):c7 P ((Builtin.unsafeString_ #[t,u] ty #[vx,.int .i64 n]).run P w) w I β hp B M w0 ⟨.str (ly (es.take n.toNat)),[(id,.dead)]⟩:=by
 obtain ⟨b,Ku,rfl⟩:=hv.iB ab (by simp)
 have he:P.underlying e=some (.int .u8):=by
  unfold isByte at hb
  split at hb
  ·assumption
  ·cases hb
 have om:bM P e=false:=by simp[bM,he]
 have hr:=S.h.rel id _ ab
 rw[Ku] at hr
 cases hr with
 | dJ az=>cases az
 | @arr _ _ _ b1 Ca ar mz hh hs hI cW dg=>
  cases mz
  have h1:P.cellsOf e=1:=by rw[←(lE ar).1,AV om];rfl
  have aJ:=S.Y0 ab (by simp) Ku
  have hl:(ly (es.take n.toNat)).length=n.toNat:=by simp[ly];omega
  have Kq:n=((ly (es.take n.toNat)).length:Nat):=by rw[hl];omega
  have cG:=Lib.run_unsafeString_row (P:=P) w t u ty e hu h1 b Ca.size (by simp[World.shape?,hh]) (ly (es.take n.toNat)) (fun h=>by rw[h] at hl;simp at hl;omega) (by rw[hl];rw[h1] at hs;omega) (by rw[hl];unfold sN at hm;omega) (fun j x hx=>by
   have hj:j<n.toNat:=by
    have:=(bm.1 hx).1
    rw[hl] at this;exact this
   have iY:j<es.length:=by omega
   simp only[ly,e7,dU hj,bA iY,Option.map_some,ek] at hx
   obtain ⟨v,xQ,bz⟩:=dg j 0 es[j] e (bA iY) (by simp[aW,om]) (by omega)
   rw[h1] at xQ
   simp only[bR,om,cond_false] at bz
   have:=Ew he bz
   have hr:=fy.1 mr es[j] (jg (by rw[dU hj];exact bA iY))
   simp only[xt,aO,ej] at hr
   have mu:(x.toNat:Int)=es[j].toInt:=by
    rw[←hx]
    have:es[j].toInt.toNat<256:=by omega
    simp only[UInt8.toNat_ofNat']
    omega
   rw[mn,cell?_cells hh,mu]
   rw[show 0+j=j*1+0 by omega,xQ,this])
  obtain ⟨f1,f2,f3,f4,f5⟩:=aaJ (w:=w) (b:=b) (n:=n.toNat)
  obtain ⟨k1,k2⟩:=A0 (w':=w.freeze ⟨b,0,none⟩ n.toNat) S ab (by simp) (blk':= .dead) (by trivial) Ku (cW rfl) (by simp) f1 f2 f3 ⟨f4,f5⟩ (fun _=> .dead)
  rw[←Kq,hl] at cG
  refine ⟨.string ⟨(ly (es.take n.toNat)).toArray⟩,_,I,β,?_,k1,k2,.str ?_⟩
  ·simpa using cG
  ·rfl
def Kv:Op→Bool
 | .call {callee:= .value (.func _),..}=>true
 | .call {callee:= .value (.tmp _),..}=>true
 | .defer _=>true
 | _=>false
theorem qi.val {o:Oper} {a:Act} {s:Sem Value} {r:R} (he:execOp a.eval o=(do Pure.pure (Next.value (←s)))) (h:c7 P (s.run P w) w I β hp B M w0 r):qi P ((execOp a.eval o).run P w) w I β hp B M w0 r:=by
 rw[he];exact h.op
theorem aaN {A:cT} (S:aC P w I β hp B M w0) (hg:gA P A.aE w I) {a:Act} {sl:Nat→V} (hs:kS P w I β hp a sl) {ix nb:Nat} {o:Oper} (Kw:Kv o.op=false) {r:R} {rd:List Nat}
  (h:(fZ P A sl ix nb o).run C hp=some (r,rd)):qi P ((execOp a.eval o).run P w) w I β hp B M w0 r:=by
 obtain ⟨dst,op,ty,pos,after,guard⟩:=o
 cases op<;>simp only[fZ] at h<;>first|(cases h;done)|skip
 case move x=>
  obtain rfl:=aT h
  exact ⟨_,w,I,β,.inl (by simp[execOp]),Le.refl w I β hp,S,hs.ev hg ty x⟩
 case assign x=>
  obtain rfl:=aT h
  exact ⟨_,w,I,β,.inl (by simp[execOp]),Le.refl w I β hp,S,hs.ev hg ty x⟩
 case pick c x y=>
  have hc:=hs.ev hg ty c
  cases u9:aP P A.aE ty sl c<;>rw[u9] at h hc<;>simp only at h<;>first|(cases h;done)|skip
  rename_i t
  have aaO:=hc.kT
  have hx:=hs.ev hg ty x
  have hy:=hs.ev hg ty y
  have fin: ∀z:V,ak P w I β hp (if t then a.eval x else a.eval y) z→qi P ((execOp a.eval ⟨dst,.pick c x y,ty,pos,after,guard⟩).run P w) w I β hp B M w0 ⟨z,[]⟩:=by
   intro z hz
   exact ⟨_,w,I,β,.inl (by simp[execOp,aaO,asBool]),Le.refl w I β hp,S,hz⟩
  cases RB:gone (aP P A.aE ty sl x) with
  | true=>
   rw[RB] at h
   obtain ⟨h1,h⟩:=aG h
   obtain rfl:=aT h
   have:t=false:=by simpa using h1
   subst this
   refine fin _ ?_
   simpa using hy
  | false=>
   rw[RB] at h
   simp only[cond_false] at h
   cases FV:gone (aP P A.aE ty sl y) with
   | true=>
    rw[FV] at h
    obtain ⟨h1,h⟩:=aG h
    obtain rfl:=aT h
    subst h1
    refine fin _ ?_
    simpa using hx
   | false=>
    rw[FV] at h
    obtain rfl:=aT h
    exact fin _ (Qk hx hy)
 case makeFunc fn x y=>
  cases fn<;>simp only[fZ] at h<;>first|(cases h;done)|skip
  rename_i f
  obtain rfl:=aT h
  refine ⟨.func (.func f) (x.map a.eval) (y.map a.eval),w,I,β,.inl (by simp[execOp,Instr.makeFunc]),Le.refl w I β hp,S,.fn (by simp) (fun j v z hj hz=> ?_) (by simp) (fun j v z hj hz=> ?_)⟩
  ·rw[Array.getElem?_map] at hj
   rw[e7,lq] at hz
   cases hx:x[j]? with
   | none=>rw[hx] at hj;cases hj
   | some o1=>
    rw[hx] at hj hz
    cases hj
    cases hz
    exact hs.ev hg ty o1
  ·rw[Array.getElem?_map] at hj
   rw[e7,lq] at hz
   cases hx:y[j]? with
   | none=>rw[hx] at hj;cases hj
   | some o1=>
    rw[hx] at hj hz
    cases hj
    cases hz
    exact hs.ev hg ty o1
 case defer c=>cases Kw
 case makeMap t res=>
  cases res with
  | some x=>cases h
  | none=>exact .val rfl (aar S h)
 case lookup t m k ok=>
  cases ht:mg P t with
  | none=>rw[ht] at h;cases h
  | some q=>
   obtain ⟨kt,vt⟩:=q
   rw[ht] at h
   exact .val (s:=Instr.lookup t (a.eval m) (a.eval k) ok) rfl (aaq S ht (hs.ev hg t m) (hs.ev hg kt k) h)
 case mapUpdate t m k x=>
  cases ht:mg P t with
  | none=>rw[ht] at h;cases h
  | some q=>
   obtain ⟨kt,vt⟩:=q
   rw[ht] at h
   have:=Rv S ht (hs.ev hg t m) (hs.ev hg kt k) (hs.ev hg vt x) h
   exact this.op
 case insert t m k x=>
  cases ht:mg P t with
  | none=>rw[ht] at h;cases h
  | some q=>
   obtain ⟨kt,vt⟩:=q
   rw[ht] at h
   have:=Rv S ht (hs.ev hg t m) (hs.ev hg kt k) (hs.ev hg vt x) h
   exact this.op
 case alloc e=>
  exact .val rfl (ZD S h)
 case box e x=>
  exact .val rfl (ZE S (hs.ev hg e x) h)
 case build t ps=>exact .val rfl (ZG S hs hg h)
 case buildSlice t len ps=>
  cases hu:P.underlying t with
  | none=>rw[hu] at h;cases h
  | some d=>
   rw[hu] at h
   cases d<;>simp only at h<;>first|(cases h;done)|skip
   cases dst with
   | none=>exact .val rfl (QY S hs hg hu h)
   | some d=>
    simp only at h
    cases vd:gD A.p8 d with
    | true=>rw[vd] at h;exact .val rfl (aab S hs hg hu h)
    | false=>rw[vd] at h;exact .val rfl (QY S hs hg hu h)
 case load t x=>exact .val rfl (Zg S (hs.ev hg ty x) h)
 case store t x y=>
  have:=Zz S (hs.ev hg ty x) (hs.ev hg t y) h
  exact this.op
 case nilCheck x=>
  have hx:=hs.ev hg ty x
  cases fP:aP P A.aE ty sl x<;>rw[fP] at h hx<;>simp only at h<;>first|(cases h;done)|skip
  ·obtain ⟨⟨blk,ab,hd⟩,l,h⟩:=xC h
   obtain rfl:=aT h
   have cU:=hx
   obtain ⟨b,hb,he⟩:=hx.iB ab hd
   rw[he] at cU
   exact ⟨_,w,I,β,.inl (by simp only[execOp,he];rfl),Le.refl w I β hp,S,cU⟩
  ·obtain rfl:=aT h
   have cU:=hx
   obtain ⟨b,o,he,_⟩:=hx.Fq
   rw[he] at cU
   exact ⟨_,w,I,β,.inl (by simp only[execOp,he];rfl),Le.refl w I β hp,S,cU⟩
  ·obtain ⟨e0,es,vers,l,ab,h1,U,h3,h⟩:=oY h
   obtain rfl:=aT h
   have cU:=hx
   obtain ⟨b,o,he,_⟩:=hx.Qg ab h1 U h3
   rw[he] at cU
   exact ⟨_,w,I,β,.inl (by simp only[execOp,he];rfl),Le.refl w I β hp,S,cU⟩
 case binOp op t x y yt=>
  have hx:=hs.ev hg t x
  have hy:=hs.ev hg t y
  refine .val (s:=do eqGuard op t x y (a.eval x) (a.eval y);binOp op t (a.eval x) (a.eval y)) rfl ?_
  cases fP:aP P A.aE t sl x<;>cases ti:aP P A.aE t sl y<;>rw[fP,ti] at h<;>rw[fP] at hx<;>rw[ti] at hy<;>first|(simp only[kM] at h;cases h;done)|skip
  ·rw[hx.en,hy.en]
   have:=Y6 S h
   simpa[Y3] using this
  ·rw[hx.kT,hy.kT]
   have:=Y8 S h
   simpa[Y4] using this
  ·obtain ⟨s1,e1,l1⟩:=hx.m9
   obtain ⟨s2,e2,l2⟩:=hy.m9
   rw[e1,e2]
   rw[←l1,←l2] at h
   have:=Y9 (t:=t) S h
   simpa[Y5] using this
  ·obtain ⟨cs,e1,h1,U⟩:=hx.kb
   obtain ⟨ds,e2,h3,h4⟩:=hy.kb
   rw[e1,e2]
   exact Za S h1 h3 U h4 h
  ·
   simp only[kM] at h
   obtain ⟨h1,U⟩:=aG h
   clear h
   simp only[aO,aX] at h1
   obtain ⟨rfl,rfl,rfl⟩:=h1
   obtain ⟨⟨blk,ab,hd⟩,l,h⟩:=xC U
   obtain ⟨b,hb,e1⟩:=hx.iB ab hd
   obtain ⟨b',az,e2⟩:=hy.iB ab hd
   rw[hb] at az;cases az
   rw[e1,e2]
   exact FU S h (by cases op<;>simp[eqGuard]) fun e j he hj=>⟨run_eql_ptr_same w _ he hj,Lib.run_neq_ptr_same w _ he hj⟩
  ·simp only[kM] at h
   obtain ⟨⟨blk,ab,hd⟩,l,h⟩:=xC h
   obtain ⟨b,_,e1⟩:=hx.iB ab hd
   rw[e1,hy.FT]
   exact FU S h (by cases op<;>simp[eqGuard]) fun e j he hj=>⟨aaD w t e _ he,aaE w t e _ he⟩
  ·simp only[kM] at h
   obtain ⟨⟨blk,ab,hd⟩,l,h⟩:=xC h
   obtain ⟨b,_,e1⟩:=hy.iB ab hd
   rw[e1,hx.FT]
   exact FU S h (by cases op<;>simp[eqGuard]) fun e j he hj=>⟨aaF w t e _ he,aaG w t e _ he⟩
  ·simp only[kM] at h
   rw[hx.FT,hy.FT]
   exact FU S h (by cases op<;>simp[eqGuard]) fun e j he hj=>⟨aaH w t e he,aaI w t e he⟩
  ·
   simp only[kM] at h
   obtain ⟨l,h⟩:=run_get h
   split at h
   ·rename_i t2 es ab
    obtain ⟨b,hb⟩:=hx.aav ab
    rw[hy.Kr,hb]
    exact Rx (a:=some b) S x y h
   ·cases h
  ·simp only[kM] at h
   rw[hx.Kr,hy.Kr]
   exact Rx (a:=none) S x y h
 case unOp op t x=>exact .val rfl (Zb S (hs.ev hg ty x) h)
 case convert src dst x=>
  have hx:=hs.ev hg ty x
  refine .val (s:=convert src dst (a.eval x)) rfl ?_
  cases iz:P.underlying src with
  | none=>rw[iz] at h;cases h
  | some d1=>
   cases lI:P.underlying dst with
   | none=>rw[iz,lI] at h;cases d1<;>cases h
   | some d2=>
    rw[iz,lI] at h
    have iR: ∀{b:Nat} {T:TypeId} {cs:List V} {id:Nat},hp id=some (.var T cs)→β id=some b→w.shape? b=some (T,cs.length):=by
     intro b T cs id ab hb
     have hr:=S.h.rel id _ ab
     rw[hb] at hr
     cases hr with
     | var az hh aU _ _ _=>cases az;simp[World.shape?,hh,aU]
    cases d1<;>(try (cases d2<;>cases h;done))
    ·cases d2<;>(try (cases h;done))
     rename_i k1 k2
     cases fP:aP P A.aE ty sl x<;>rw[fP] at h hx<;>simp only at h<;>first|(cases h;done)|skip
     obtain rfl:=aT h
     rw[hx.en]
     exact .same S (by simp[convert,run_underlying iz,run_underlying lI,Conv.intToInt]) .int
    ·cases d2<;>(try (cases h;done))
     rename_i u
     cases fP:aP P A.aE ty sl x<;>rw[fP] at h hx<;>simp only at h<;>first|(cases h;done)|skip
     rename_i id i c
     obtain ⟨l,h1⟩:=run_get h
     cases ab:hp id with
     | none=>rw[ab] at h1;cases h1
     | some blk=>
      rw[ab] at h1
      cases blk<;>simp only at h1<;>first|(cases h1;done)|skip
      rename_i T cs
      obtain ⟨U,h3⟩:=aG h1
      simp only[aO,aX] at U
      obtain ⟨rfl,h4,h5⟩:=U
      obtain ⟨b,hb,e1⟩:=hx.iB ab (by simp)
      obtain rfl:=aT h3
      obtain ⟨j,hj⟩:=xe.1 h4
      have cU:=hx
      rw[e1] at cU⊢
      exact .same S (Lib.run_from_unsafe w _ iz lI hj (iR ab hb) (by simpa using h5)) cU
    ·cases d2<;>(try (cases h;done))
     rename_i t
     cases fP:aP P A.aE ty sl x<;>rw[fP] at h hx<;>simp only at h<;>first|(cases h;done)|skip
     rename_i id i c
     obtain ⟨l,h1⟩:=run_get h
     cases ab:hp id with
     | none=>rw[ab] at h1;cases h1
     | some blk=>
      rw[ab] at h1
      cases blk<;>simp only at h1<;>first|(cases h1;done)|skip
      rename_i T cs
      obtain ⟨U,h3⟩:=aG h1
      simp only[aO,aX,jZ] at U
      obtain ⟨rfl,h4,h5⟩:=U
      obtain ⟨b,hb,e1⟩:=hx.iB ab (by simp)
      obtain rfl:=aT h3
      cases hj:P.info? t with
      | none=>rw[hj] at h5;cases h5
      | some j=>
       rw[hj] at h5
       simp only[kJ] at h5
       have h6:j.size≠0:=fun e=>by rw[e] at h5;cases h5
       have cU:=hx
       rw[e1] at cU⊢
       exact .same S (Lib.run_to_unsafe w _ iz lI hj h6 (iR ab hb) (by simpa using h4)) cU
    ·rename_i e
     cases d2<;>(try (cases h;done))
     simp only at h
     cases he:P.underlying e with
     | none=>rw[he] at h;cases h
     | some d3=>
      rw[he] at h
      cases d3<;>(try (cases h;done))
      rename_i k
      cases k<;>(try (cases h;done))
      exact aaC S iz he lI hx h
 case fieldAddr s x f=>exact .val rfl (Zc S (hs.ev hg ty x) h)
 case field s x f=>exact .val rfl (aac S (hs.ev hg ty x) h)
 case indexAddr t x y=>exact .val rfl (aai S (hs.ev hg ty x) (hs.ev hg 0 y) h)
 case index t x y=>
  have hx:=hs.ev hg ty x
  have hy:=hs.ev hg 0 y
  refine .val (s:=Instr.index t (a.eval x) (a.eval y)) rfl ?_
  cases hu:P.underlying t with
  | none=>rw[hu] at h;cases h
  | some d=>
   rw[hu] at h
   cases d<;>(try (cases h;done))
   cases fP:aP P A.aE ty sl x<;>rw[fP] at h hx<;>(try (cases h;done))
   cases ti:aP P A.aE 0 sl y<;>rw[ti] at h hy<;>(try (cases h;done))
   obtain ⟨s,e1,l1⟩:=hx.m9
   rw[e1,hy.en]
   exact aae S hu l1 h
 case slice t x lo hi mx=>
  cases mx with
  | some m=>
   simp only at h
   refine .val (s:=Instr.sliceAt t (a.eval x) (lo.map a.eval) (hi.map a.eval) (some (a.eval m))) (by simp[execOp]) (aah S (hs.ev hg ty x) (fun hy=> ?_) (fun y hy=> ?_) (fun y hy=> ?_) h)
   ·cases lo with
    | none=>rfl
    | some l=>cases hy
   ·cases hi with
    | none=>cases hy
    | some l=>cases hy;exact ⟨_,rfl,hs.ev hg 0 l⟩
   ·cases hy;exact ⟨_,rfl,hs.ev hg 0 m⟩
  | none=>
   simp only at h
   have plain:(EY P t (aP P A.aE ty sl x) (lo.map (aP P A.aE 0 sl)) (hi.map (aP P A.aE 0 sl))).run C hp=some (r,rd)→qi P ((execOp a.eval ⟨dst,.slice t x lo hi none,ty,pos,after,guard⟩).run P w) w I β hp B M w0 r:=by
    intro h
    refine .val (s:=Instr.sliceAt t (a.eval x) (lo.map a.eval) (hi.map a.eval) none) (by simp[execOp]) (aag S (hs.ev hg ty x) (fun y hy=> ?_) (fun y hy=> ?_) (fun hy=> ?_) (fun hy=> ?_) h)
    ·cases lo with
     | none=>cases hy
     | some l=>cases hy;exact ⟨_,rfl,hs.ev hg 0 l⟩
    ·cases hi with
     | none=>cases hy
     | some l=>cases hy;exact ⟨_,rfl,hs.ev hg 0 l⟩
    ·cases lo with
     | none=>rfl
     | some l=>cases hy
    ·cases hi with
     | none=>rfl
     | some l=>cases hy
   have tr:(EZ P nb t (aP P A.aE ty sl x) (lo.map (aP P A.aE 0 sl)) (hi.map (aP P A.aE 0 sl))).run C hp=some (r,rd)→qi P ((execOp a.eval ⟨dst,.slice t x lo hi none,ty,pos,after,guard⟩).run P w) w I β hp B M w0 r:=by
    intro h
    refine .val (s:=Instr.sliceAt t (a.eval x) (lo.map a.eval) (hi.map a.eval) none) (by simp[execOp]) (aal S (hs.ev hg ty x) (fun y hy=> ?_) (fun hy=> ?_) h)
    ·cases hi with
     | none=>cases hy
     | some l=>cases hy;exact ⟨_,rfl,hs.ev hg 0 l⟩
    ·cases lo with
     | none=>rfl
     | some l=>cases hy
   cases dst with
   | none=>exact plain h
   | some d=>
    simp only at h
    cases RC:gD A.p8 d with
    | true=>rw[RC] at h;exact tr h
    | false=>rw[RC] at h;exact plain h
 case extract x i=>
  have hx:=hs.ev hg ty x
  cases fP:aP P A.aE ty sl x<;>rw[fP] at h hx<;>simp only at h<;>first|(cases h;done)|skip
  exact .val (s:=Instr.extract (a.eval x) i) rfl (aad S hx h)
 case makeSlice t l c=>
  have hl:=hs.ev hg 0 l
  have hc:=hs.ev hg 0 c
  refine .val (s:=Instr.makeSlice t (a.eval l) (a.eval c)) rfl ?_
  cases hu:P.underlying t with
  | none=>rw[hu] at h;cases h
  | some d=>
   rw[hu] at h
   cases d<;>(try (cases h;done))
   cases Kx:aP P A.aE 0 sl l<;>rw[Kx] at h hl<;>(try (cases h;done))
   cases u9:aP P A.aE 0 sl c<;>rw[u9] at h hc<;>(try (cases h;done))
   rw[hl.en,hc.en]
   cases dst with
   | none=>exact QZ S hu h
   | some d=>
    simp only at h
    cases hg:gD A.p8 d with
    | true=>rw[hg] at h;exact ZP S hu h
    | false=>rw[hg] at h;exact QZ S hu h
 case call c=>
  obtain ⟨callee,args,argTypes⟩:=c
  cases callee with
  | invoke r m=>cases h
  | value f=>
   cases f with
   | func f=>cases Kw
   | tmp f=>cases Kw
   | _=>cases h
  | builtin b=>
   have one: ∀{x:Operand},args.toList=[x]→args= #[x]:=fun h=>by rw[←Array.toArray_toList (xs:=args),h]
   have rK: ∀(s:Array TypeId→TypeId→Array Value→Sem Value),builtin b argTypes ty (args.map fun| .const _=>true|_=>false) (args.map a.eval)=(do Pure.pure (Next.value (←s argTypes ty (args.map a.eval))))→
     execOp a.eval ⟨dst,.call ⟨.builtin b,args,argTypes⟩,ty,pos,after,guard⟩=(do Pure.pure (Next.value (←s argTypes ty (args.map a.eval)))):=by
    intro s hb
    simp only[execOp,resolve,pure_bind,invoke]
    exact hb
   cases b<;>(try (cases h;done))
   case append=>
    simp only at h
    cases ha:args.toList with
    | nil=>rw[ha] at h;cases h
    | cons x l=>
     cases l with
     | nil=>rw[ha] at h;cases h
     | cons y l2=>
      cases l2 with
      | cons _ _=>rw[ha] at h;cases h
      | nil=>
       cases dK:argTypes.toList with
       | nil=>rw[ha,dK] at h;cases h
       | cons t l3=>
        cases l3 with
        | nil=>rw[ha,dK] at h;cases h
        | cons u l4=>
         cases l4 with
         | cons _ _=>rw[ha,dK] at h;cases h
         | nil=>
          rw[ha,dK] at h
          simp only at h
          have e1:args= #[x,y]:=by rw[←Array.toArray_toList (xs:=args),ha]
          have e2:argTypes= #[t,u]:=by rw[←Array.toArray_toList (xs:=argTypes),dK]
          cases hu:P.underlying t with
          | none=>rw[hu] at h;cases h
          | some d=>
           rw[hu] at h
           cases d<;>(try (cases h;done))
           cases hc:Nat.beq t u with
           | true=>
            rw[hc] at h
            rw[aX] at hc
            subst hc
            simp only[cond_true] at h
            refine .val (rK Builtin.append_ rfl) ?_
            rw[e1,e2]
            cases dst with
            | none=>
             have:=Q2 (ty:=ty) S hu (hs.ev hg t x) (hs.ev hg t y) h
             simpa using this
            | some d=>
             simp only at h
             cases vd:gD A.p8 d with
             | true=>
              rw[vd] at h
              have:=Z5 (ty:=ty) S hu (hs.ev hg t x) (hs.ev hg t y) h
              simpa using this
             | false=>
              rw[vd] at h
              have:=Q2 (ty:=ty) S hu (hs.ev hg t x) (hs.ev hg t y) h
              simpa using this
           | false=>
            rw[hc] at h
            simp only[cond_false] at h
            have hy:=hs.ev hg u y
            cases pe:P.underlying u with
            | none=>rw[pe] at h;cases h
            | some du=>
             rw[pe] at h
             cases du<;>(try (cases h;done))
             cases ti:aP P A.aE u sl y<;>rw[ti] at h hy<;>(try (cases h;done))
             simp only at h
             obtain ⟨hb,h⟩:=aG h
             obtain ⟨s1,q1,q2⟩:=hy.m9
             subst q2
             have:=aaA (ty:=ty) S hu pe (aaK hb) (hs.ev hg t x) h
             refine .val (rK Builtin.append_ rfl) ?_
             rw[e1,e2]
             simpa[q1] using this
   case len=>
    simp only at h
    cases ha:args.toList with
    | nil=>rw[ha] at h;cases h
    | cons x l=>
     cases l with
     | cons _ _=>rw[ha] at h;cases h
     | nil=>
      cases dK:argTypes.toList with
      | nil=>rw[ha,dK] at h;cases h
      | cons t l3=>
       cases l3 with
       | cons _ _=>rw[ha,dK] at h;cases h
       | nil=>
        rw[ha,dK] at h
        simp only at h
        have e1:args= #[x]:=by rw[←Array.toArray_toList (xs:=args),ha]
        have e2:argTypes= #[t]:=by rw[←Array.toArray_toList (xs:=argTypes),dK]
        have hx:=hs.ev hg ty x
        refine .val (rK Builtin.len_ rfl) ?_
        rw[e1,e2]
        cases hu:P.underlying t with
        | none=>rw[hu] at h;cases h
        | some d=>
         rw[hu] at h
         cases d<;>(try (cases h;done))
         ·cases fP:aP P A.aE ty sl x<;>rw[fP] at h hx<;>(try (cases h;done))
          have:=Ql (t:=t) (ty:=ty) S hx (fun l hl=>hu) (fun hn=>absurd rfl (hn _)) h
          simpa using this
         ·have U:(∀l,aP P A.aE ty sl x≠ .str l)∧(ET P (aP P A.aE ty sl x)).run C hp=some (r,rd):=by
           cases fP:aP P A.aE ty sl x<;>rw[fP] at h<;>first|(cases h;done)|exact ⟨fun l=>by simp,h⟩
          have:=Ql (t:=t) (ty:=ty) S hx (fun l hl=>absurd hl (U.1 l)) (fun _=>⟨_,hu⟩) U.2
          simpa using this
         ·have U:(EX (aP P A.aE ty sl x)).run C hp=some (r,rd):=by
           cases fP:aP P A.aE ty sl x<;>rw[fP] at h<;>exact h
          have:=aau (t:=t) (ty:=ty) S hu hx U
          simpa using this
   case unsafeSliceData=>
    simp only at h
    cases ha:args.toList with
    | nil=>rw[ha] at h;cases h
    | cons x l=>
     cases l with
     | cons _ _=>rw[ha] at h;cases h
     | nil=>
      rw[ha] at h
      simp only at h
      have e1:args= #[x]:=by rw[←Array.toArray_toList (xs:=args),ha]
      have hx:=hs.ev hg ty x
      refine .val (rK Builtin.unsafeSliceData_ rfl) ?_
      rw[e1]
      cases fP:aP P A.aE ty sl x<;>rw[fP] at h hx<;>simp only at h<;>first|(cases h;done)|skip
      rename_i e id
      obtain ⟨l2,h1⟩:=run_get h
      cases ab:hp id with
      | none=>rw[ab] at h1;cases h1
      | some blk=>
       rw[ab] at h1
       cases blk<;>simp only at h1<;>first|(cases h1;done)|skip
       rename_i e' es fz
       obtain ⟨U,h3⟩:=aG h1
       simp only[aO,aX,jZ] at U
       obtain ⟨rfl,h4⟩:=U
       obtain rfl:=aT h3
       have:=aaL (ts:=argTypes) (ty:=ty) S hx ab h4
       simpa using this
   case unsafeString=>
    simp only at h
    cases ha:args.toList with
    | nil=>rw[ha] at h;cases h
    | cons x l=>
     cases l with
     | nil=>rw[ha] at h;cases h
     | cons y l2=>
      cases l2 with
      | cons _ _=>rw[ha] at h;cases h
      | nil=>
       cases dK:argTypes.toList with
       | nil=>rw[ha,dK] at h;cases h
       | cons t l3=>
        cases l3 with
        | nil=>rw[ha,dK] at h;cases h
        | cons u l4=>
         cases l4 with
         | cons _ _=>rw[ha,dK] at h;cases h
         | nil=>
          rw[ha,dK] at h
          simp only at h
          have e1:args= #[x,y]:=by rw[←Array.toArray_toList (xs:=args),ha]
          have e2:argTypes= #[t,u]:=by rw[←Array.toArray_toList (xs:=argTypes),dK]
          have hx:=hs.ev hg ty x
          have hy:=hs.ev hg ty y
          cases hu:P.underlying t with
          | none=>rw[hu] at h;cases h
          | some d=>
           rw[hu] at h
           cases d<;>(try (cases h;done))
           rename_i e
           cases fP:aP P A.aE ty sl x<;>rw[fP] at h hx<;>(try (cases h;done))
           cases ti:aP P A.aE ty sl y<;>rw[ti] at h hy<;>(try (cases h;done))
           rename_i id i c k n
           cases k<;>(try (cases h;done))
           simp only at h
           obtain ⟨l2,h1⟩:=run_get h
           cases ab:hp id with
           | none=>rw[ab] at h1;cases h1
           | some blk=>
            rw[ab] at h1
            cases blk<;>simp only at h1<;>first|(cases h1;done)|skip
            rename_i e' es fz
            cases fz<;>simp only at h1<;>first|(cases h1;done)|skip
            obtain ⟨U,h3⟩:=aG h1
            simp only[aO,aX,dq,ej] at U
            obtain ⟨rfl,h4,rfl,rfl,h5,h6,h7,h8⟩:=U
            obtain rfl:=aT h3
            have:=aaM (u:=u) (ty:=ty) S hu h4 hx ab h5 h6 h7 h8
            refine .val (rK Builtin.unsafeString_ rfl) ?_
            rw[e1,e2]
            simpa[hy.en] using this
   case copy=>
    simp only at h
    cases ha:args.toList with
    | nil=>rw[ha] at h;cases h
    | cons x l=>
     cases l with
     | nil=>rw[ha] at h;cases h
     | cons y l2=>
      cases l2 with
      | cons _ _=>rw[ha] at h;cases h
      | nil=>
       cases dK:argTypes.toList with
       | nil=>rw[ha,dK] at h;cases h
       | cons t l3=>
        cases l3 with
        | nil=>rw[ha,dK] at h;cases h
        | cons u l4=>
         cases l4 with
         | cons _ _=>rw[ha,dK] at h;cases h
         | nil=>
          rw[ha,dK] at h
          simp only at h
          have e1:args= #[x,y]:=by rw[←Array.toArray_toList (xs:=args),ha]
          have e2:argTypes= #[t,u]:=by rw[←Array.toArray_toList (xs:=argTypes),dK]
          cases hu:P.underlying t with
          | none=>rw[hu] at h;cases h
          | some d=>
           rw[hu] at h
           cases d<;>(try (cases h;done))
           have:=ZY (u:=u) (ty:=ty) S hu (hs.ev hg t x) (hs.ev hg u y) h
           refine .val (rK Builtin.copy_ rfl) ?_
           rw[e1,e2]
           simpa using this
   case clear=>
    simp only at h
    cases ha:args.toList with
    | nil=>rw[ha] at h;cases h
    | cons x l=>
     cases l with
     | cons _ _=>rw[ha] at h;cases h
     | nil=>
      cases dK:argTypes.toList with
      | nil=>rw[ha,dK] at h;cases h
      | cons t l3=>
       cases l3 with
       | cons _ _=>rw[ha,dK] at h;cases h
       | nil=>
        rw[ha,dK] at h
        simp only at h
        have e1:args= #[x]:=by rw[←Array.toArray_toList (xs:=args),ha]
        have e2:argTypes= #[t]:=by rw[←Array.toArray_toList (xs:=argTypes),dK]
        cases hu:P.underlying t with
        | none=>rw[hu] at h;cases h
        | some d=>
         rw[hu] at h
         cases d<;>(try (cases h;done))
         have:=ZZ (ty:=ty) S hu (hs.ev hg t x) h
         refine .val (rK Builtin.clear_ rfl) ?_
         rw[e1,e2]
         simpa using this
   case max=>
    simp only at h
    cases ha:args.toList with
    | nil=>rw[ha] at h;cases h
    | cons x l=>
     rw[ha] at h
     simp only at h
     have:=Kg S true (vs:=l.map a.eval) (xs:=l.map (aP P A.aE ty sl)) (hs.ev hg ty x) (by simp) (fun j u y hu hy=>by
      simp only[e7] at hu hy
      cases hl:l[j]? with
      | none=>rw[hl] at hu;cases hu
      | some z=>rw[hl] at hu hy;cases hu;cases hy;exact hs.ev hg ty z) h
     refine .val (rK Builtin.max_ rfl) ?_
     simpa[Builtin.max_,ha] using this
   case min=>
    simp only at h
    cases ha:args.toList with
    | nil=>rw[ha] at h;cases h
    | cons x l=>
     rw[ha] at h
     simp only at h
     have:=Kg S false (vs:=l.map a.eval) (xs:=l.map (aP P A.aE ty sl)) (hs.ev hg ty x) (by simp) (fun j u y hu hy=>by
      simp only[e7] at hu hy
      cases hl:l[j]? with
      | none=>rw[hl] at hu;cases hu
      | some z=>rw[hl] at hu hy;cases hu;cases hy;exact hs.ev hg ty z) h
     refine .val (rK Builtin.min_ rfl) ?_
     simpa[Builtin.min_,ha] using this
end
section
variable {P:Program} {A:cT} {w w':World} {I I' I2:Nat→Nat→Prop} {μ β β':Nat→Option Nat} {hp hp':Nat→Option ai} {C:ah} {B:Nat} {M:Nat→Prop} {w0:Start}
theorem xV: ∀{l m:List Nat},eK.oU l m=true→l=m
 | [],[],_=>rfl
 | [],_::_,h=>by cases h
 | _::_,[],h=>by cases h
 | a::l,b::m,h=>by
  simp only[eK.oU,aO,aX] at h
  rw[h.1,xV h.2]
@[simp] theorem RD (n:Nat):lA (eC n)=n:=by simp[lA,eC,V.toInt]
theorem FW: ∀(path:List (Nat × Nat)) (rest:List V),Az (path.map (·.2)) ((path.map fun p=>eC p.1)++rest)=path
 | [],_=>rfl
 | p::l,rest=>by
  simp only[cM,List.cons_append,Az,V.nth,RD,lr,jF,FW l rest]
theorem FX {l:LS} {x:V} {ds:List V} (h:eK l x=some ds):ds.length=l.size∧(l= .qX∨∀rest,ji l (ds++rest)=x):=by
 cases l with
 | qX=>simp only[eK,ek] at h;subst h;exact ⟨rfl,.inl rfl⟩
 | int k=>
  cases x<;>simp only[eK] at h<;>first|(cases h;done)|skip
  rename_i k' n
  by_cases hk:k=k'
  ·subst hk
   simp only[sB,cond_true,ek] at h
   subst h
   exact ⟨rfl,.inr fun _=>rfl⟩
  ·simp[hk] at h
 | bool=>
  cases x<;>simp only[eK] at h<;>first|(cases h;done)|skip
  cases h
  exact ⟨rfl,.inr fun _=>rfl⟩
 | str=>
  cases x<;>simp only[eK] at h<;>first|(cases h;done)|skip
  cases h
  exact ⟨rfl,.inr fun _=>rfl⟩
 | list e=>
  cases x<;>simp only[eK] at h<;>first|(cases h;done)|skip
  rename_i e' es
  cases hb:Nat.beq e e' with
  | false=>rw[hb] at h;cases h
  | true=>
   rw[hb] at h
   rw[aX] at hb
   subst hb
   cases h
   exact ⟨rfl,.inr fun _=>rfl⟩
 | whole e j=>
  cases x<;>simp only[eK] at h<;>first|(cases h;done)|skip
  rename_i e' id
  cases hb:(Nat.beq e e'&&Nat.beq j id) with
  | false=>rw[hb] at h;cases h
  | true=>
   rw[hb] at h
   simp only[aO,aX] at hb
   obtain ⟨rfl,rfl⟩:=hb
   cases h
   exact ⟨rfl,.inr fun _=>rfl⟩
 | sub e j=>
  cases x<;>simp only[eK] at h<;>first|(cases h;done)|skip
  rename_i e' id o n
  cases hb:(Nat.beq e e'&&Nat.beq j id) with
  | false=>rw[hb] at h;cases h
  | true=>
   rw[hb] at h
   simp only[aO,aX] at hb
   obtain ⟨rfl,rfl⟩:=hb
   cases h
   exact ⟨rfl,.inr fun _=>by simp[ji,V.nth]⟩
 | ptr j=>
  cases x<;>simp only[eK] at h<;>first|(cases h;done)|skip
  rename_i id i c
  cases hb:(Nat.beq j id) with
  | false=>rw[hb] at h;cases h
  | true=>
   rw[hb] at h
   rw[aX] at hb
   subst hb
   cases h
   exact ⟨rfl,.inr fun _=>by simp[ji,V.nth]⟩
 | nT j i c=>
  cases x<;>simp only[eK] at h<;>first|(cases h;done)|skip
  rename_i id i' c'
  cases hb:(Nat.beq j id&&(Nat.beq i i'&&Nat.beq c c')) with
  | false=>rw[hb] at h;cases h
  | true=>
   rw[hb] at h
   simp only[aO,aX] at hb
   obtain ⟨rfl,rfl,rfl⟩:=hb
   cases h
   exact ⟨rfl,.inr fun _=>rfl⟩
 | nilS e=>
  cases x<;>simp only[eK] at h<;>first|(cases h;done)|skip
  rename_i e'
  cases hb:Nat.beq e e' with
  | false=>rw[hb] at h;cases h
  | true=>
   rw[hb] at h
   rw[aX] at hb
   subst hb
   cases h
   exact ⟨rfl,.inr fun _=>rfl⟩
 | dH=>
  cases x<;>simp only[eK] at h<;>first|(cases h;done)|skip
  cases h
  exact ⟨rfl,.inr fun _=>rfl⟩
 | cQ e j=>
  cases x<;>simp only[eK] at h<;>first|(cases h;done)|skip
  rename_i e' id
  cases hb:(Nat.beq e e'&&Nat.beq j id) with
  | false=>rw[hb] at h;cases h
  | true=>
   rw[hb] at h
   simp only[aO,aX] at hb
   obtain ⟨rfl,rfl⟩:=hb
   cases h
   exact ⟨rfl,.inr fun _=>rfl⟩
 | dV e=>
  cases x<;>simp only[eK] at h<;>first|(cases h;done)|skip
  rename_i e'
  cases hb:Nat.beq e e' with
  | false=>rw[hb] at h;cases h
  | true=>
   rw[hb] at h
   rw[aX] at hb
   subst hb
   cases h
   exact ⟨rfl,.inr fun _=>rfl⟩
 | EM k n=>
  cases x<;>simp only[eK] at h<;>first|(cases h;done)|skip
  rename_i k' m
  cases hb:(decide (k=k')&&decide (m=n)) with
  | false=>rw[hb] at h;cases h
  | true=>
   rw[hb] at h
   simp only[aO,ej] at hb
   obtain ⟨rfl,rfl⟩:=hb
   cases h
   exact ⟨rfl,.inr fun _=>rfl⟩
 | xj b=>
  cases x<;>simp only[eK] at h<;>first|(cases h;done)|skip
  rename_i c
  cases hb:decide (b=c) with
  | false=>rw[hb] at h;cases h
  | true=>
   rw[hb] at h
   obtain rfl:=gB hb
   cases h
   exact ⟨rfl,.inr fun _=>rfl⟩
 | row e j cs=>
  cases x<;>simp only[eK] at h<;>first|(cases h;done)|skip
  rename_i e' id ver path
  cases hb:(Nat.beq e e'&&(Nat.beq j id&&(Nat.beq ver 0&&eK.oU cs (path.map (·.2))))) with
  | false=>rw[hb] at h;cases h
  | true=>
   rw[hb] at h
   simp only[aO,aX] at hb
   obtain ⟨rfl,rfl,rfl,o0⟩:=hb
   have:=xV o0
   subst this
   cases h
   exact ⟨by simp[LS.size],.inr fun rest=>by simp only[ji,FW]⟩
 | cX j cs c=>
  cases x<;>simp only[eK] at h<;>first|(cases h;done)|skip
  rename_i id ver path i c'
  cases hb:(Nat.beq j id&&(Nat.beq ver 0&&(Nat.beq c c'&&eK.oU cs (path.map (·.2))))) with
  | false=>rw[hb] at h;cases h
  | true=>
   rw[hb] at h
   simp only[aO,aX] at hb
   obtain ⟨rfl,rfl,rfl,o0⟩:=hb
   have:=xV o0
   subst this
   cases h
   exact ⟨by simp[LS.size],.inr fun rest=>by simp only[ji,List.cons_append,V.nth,RD,lr,jF,FW]⟩
def LS.below (n:Nat) (x:V):Prop:= ∀id∈ew x,id<n
def RE:V→Prop
 | .agg _=>False
 | .bn _=>False
 | .fn .. =>False
 | .pref .. =>False
 | _=>True
theorem vi {c:Bool} {a d:List V} (h:(bif c then some a else none)=some d):c=true:=by
 cases c with
 | true=>rfl
 | false=>cases h
theorem aaP {l:LS} {x:V} {ds:List V} {n:Nat} (h:eK l x=some ds) (hl:l≠ .qX) (ar:l.ok n=true):RE x∧LS.below n x:=by
 cases l<;>cases x<;>simp only[eK] at h<;>first|(cases h;done)|(exact absurd rfl hl)|skip
 all_goals refine ⟨trivial,fun id ab=> ?_⟩
 all_goals simp only[ew,eH,List.not_mem_nil] at ab
 all_goals subst ab
 all_goals simp only[LS.ok,jZ] at ar
 all_goals
  have hb:=vi h
  simp only[aO,aX] at hb
  omega
theorem ak.aaQ {v:Value} {x:V} (h:ak P w I β hp v x) (hx:RE x) (hs: ∀id∈ew x,hp' id=hp id∧β' id=β id):ak P w I β' hp' v x:=by
 have one: ∀{id},id∈ew x→hp' id=hp id∧β' id=β id:=fun h=>hs _ h
 cases h with
 | undef=>exact .undef
 | int=>exact .int
 | bool=>exact .bool
 | str h=>exact .str h
 | list h=>exact .list h
 | nilS=>exact .nilS
 | agg=>exact hx.elim
 | bn=>exact hx.elim
 | dH=>exact .dH
 | fn=>exact hx.elim
 | pref=>exact hx.elim
 | dI h=>exact .dI ((one (by simp[ew])).1.trans h)
 | gE h=>exact .gE ((one (by simp[ew])).1.trans h)
 | kP h=>exact .kP ((one (by simp[ew])).1.trans h)
 | dw h hb=>exact .dw ((one (by simp[ew])).1.trans h) ((one (by simp[ew])).2.trans hb)
 | whole h hb a b c=>exact .whole ((one (by simp[ew])).1.trans h) ((one (by simp[ew])).2.trans hb) a b c
 | di h hb a b c=>exact .di ((one (by simp[ew])).1.trans h) ((one (by simp[ew])).2.trans hb) a b c
 | dB h hb=>exact .dB ((one (by simp[ew])).1.trans h) ((one (by simp[ew])).2.trans hb)
 | gn h hb=>exact .gn ((one (by simp[ew])).1.trans h) ((one (by simp[ew])).2.trans hb)
 | sub h hb a b c=>exact .sub ((one (by simp[ew])).1.trans h) ((one (by simp[ew])).2.trans hb) a b c
 | ptr h hd hb=>exact .ptr ((one (by simp[ew])).1.trans h) hd ((one (by simp[ew])).2.trans hb)
 | j8 h rE=>exact .j8 ((one (by simp[ew])).1.trans h) rE
 | j9 h rE=>exact .j9 ((one (by simp[ew])).1.trans h) rE
 | row h hb a b c d=>exact .row ((one (by simp[ew])).1.trans h) ((one (by simp[ew])).2.trans hb) a b c d
 | cX h hb a b c d e=>exact .cX ((one (by simp[ew])).1.trans h) ((one (by simp[ew])).2.trans hb) a b c d e
 | dV=>exact .dV
 | iW h=>exact .iW ((one (by simp[ew])).1.trans h)
 | cQ h hb=>exact .cQ ((one (by simp[ew])).1.trans h) ((one (by simp[ew])).2.trans hb)
theorem oo {a b:List V} {n:Nat} (h:a.length=n):(a++b).drop n=b:=by subst h;simp
def Br (n:Nat) (β:Nat→Option Nat) (hp:Nat→Option ai) (β':Nat→Option Nat) (hp':Nat→Option ai):Prop:= ∀id,id<n→hp' id=hp id∧β' id=β id
theorem RF {l:LS} {x:V} {ds:List V} {n:Nat} {v:Value} (h:eK l x=some ds) (ar:l.ok n=true) (hG:Br n β hp β' hp') (hv:ak P w I β hp v x) (rest:List V):
  ak P w I β' hp' v (ji l (ds++rest)):=by
 rcases (FX h).2 with e|e
 ·subst e;exact .undef
 ·rw[e rest]
  by_cases hu:l= .qX
  ·subst hu
   have:x= .undef:=(e rest).symm
   subst this
   exact .undef
  ·obtain ⟨h1,U⟩:=aaP h hu ar
   exact hv.aaQ h1 fun id ab=>hG id (U id ab)
theorem Bs {n:Nat} (hG:Br n β hp β' hp'): ∀{ls:List LS} {xs:List V} {ds:List V},qb ls xs=some ds→ls.all (LS.ok n)=true→
  ds.length=kN ls∧(∀rest,(iS ls (ds++rest)).length=xs.length)∧
  ∀(rest:List V) (j:Nat) (v:Value) (y:V),(∀x,xs[j]? =some x→ak P w I β hp v x)→(iS ls (ds++rest))[j]? =some y→ak P w I β' hp' v y
 | [],[],ds,h,_=>by cases h;exact ⟨rfl,fun _=>rfl,fun rest j v y _ hy=>by simp[iS] at hy⟩
 | [],_::_,ds,h,_=>by cases h
 | _::_,[],ds,h,_=>by cases h
 | l::ls,x::xs,ds,h,ar=>by
  simp only[qb] at h
  obtain ⟨a,h1,h⟩:=bind_some h
  obtain ⟨b,U,h⟩:=bind_some h
  cases h
  simp only[List.all_cons,aO] at ar
  obtain ⟨i1,i2,i3⟩:=Bs hG U ar.2
  have cD:=(FX h1).1
  have hd: ∀rest,(a++b++rest).drop l.size=b++rest:=fun rest=>by rw[cC];exact oo cD
  refine ⟨by simp only[cg,kN];omega,fun rest=>by simp only[iS,List.length_cons,hd,i2],fun rest j v y hv hy=> ?_⟩
  simp only[iS,hd] at hy
  cases j with
  | zero=>
   simp at hy
   subst hy
   exact RF h1 ar.1 hG (hv x rfl) _
  | succ j=>exact i3 rest j v y (fun x hx=>hv x (by simpa using hx)) (by simpa using hy)
theorem Ky: ∀{ls:List LS} {xs:List V} {ds:List V},qb ls xs=some ds→ls.all LS.plain=true→ds.length=kN ls∧∀rest,iS ls (ds++rest)=xs
 | [],[],ds,h,_=>by cases h;exact ⟨rfl,fun _=>rfl⟩
 | [],_::_,ds,h,_=>by cases h
 | _::_,[],ds,h,_=>by cases h
 | l::ls,x::xs,ds,h,ar=>by
  simp only[qb] at h
  obtain ⟨a,h1,h⟩:=bind_some h
  obtain ⟨b,U,h⟩:=bind_some h
  cases h
  simp only[List.all_cons,aO] at ar
  obtain ⟨i1,i2⟩:=Ky U ar.2
  obtain ⟨cD,hm⟩:=FX h1
  refine ⟨by simp only[cg,kN];omega,fun rest=> ?_⟩
  simp only[iS]
  rw[show (a++b++rest).drop l.size=b++rest by rw[cC];exact oo cD,i2,cC]
  rcases hm with e|e
  ·subst e;cases ar.1
  ·rw[e]
theorem Kz {n:Nat} (hG:Br n β hp β' hp') {s:VS} {x:V} {ds:List V} (h:qc s x=some ds) (ar:s.ok n=true):
  ds.length=s.size∧∀(rest:List V) (v:Value),ak P w I β hp v x→ak P w I β' hp' v (lC s (ds++rest)):=by
 cases s with
 | one l=>exact ⟨(FX h).1,fun rest v hv=>RF h ar hG hv rest⟩
 | agg ls=>
  cases x<;>simp only[qc] at h<;>first|(cases h;done)|skip
  rename_i xs
  obtain ⟨i1,i2,i3⟩:=Bs (P:=P) (w:=w) (I:=I) hG h ar
  refine ⟨i1,fun rest v hv=> ?_⟩
  obtain ⟨cs,rfl,e1,e2⟩:=hv.kb
  exact .agg (by rw[i2];exact e1) fun j v y hj hy=>i3 rest j v y (fun x hx=>e2 j v x hj hx) hy
 | bn ls=>
  cases x<;>simp only[qc] at h<;>first|(cases h;done)|skip
  rename_i xs
  obtain ⟨i1,i2,i3⟩:=Bs (P:=P) (w:=w) (I:=I) hG h ar
  refine ⟨i1,fun rest v hv=> ?_⟩
  obtain ⟨cs,rfl,e1,e2⟩:=hv.uW
  exact .bn (by rw[i2];exact e1) fun j v y hj hy=>i3 rest j v y (fun x hx=>e2 j v x hj hx) hy
 | fn f a b=>
  cases x<;>simp only[qc] at h<;>first|(cases h;done)|skip
  rename_i f' xs ys
  cases hb:Nat.beq f f' with
  | false=>rw[hb] at h;cases h
  | true=>
   rw[hb] at h
   rw[aX] at hb
   subst hb
   simp only[cond_true] at h
   obtain ⟨p,h1,h⟩:=bind_some h
   obtain ⟨q,U,h⟩:=bind_some h
   cases h
   simp only[VS.ok,aO] at ar
   obtain ⟨i1,i2,i3⟩:=Bs (P:=P) (w:=w) (I:=I) hG h1 ar.1
   obtain ⟨j1,j2,j3⟩:=Bs (P:=P) (w:=w) (I:=I) hG U ar.2
   refine ⟨by simp only[cg,VS.size];omega,fun rest v hv=> ?_⟩
   cases hv with
   | fn a1 a2 b1 b2=>
    simp only[lC]
    rw[show (p++q++rest).drop (kN a)=q++rest by rw[cC];exact oo i1,cC]
    exact .fn (by rw[i2];exact a1) (fun j v y hj hy=>i3 _ j v y (fun x hx=>a2 j v x hj hx) hy) (by rw[j2];exact b1) (fun j v y hj hy=>j3 _ j v y (fun x hx=>b2 j v x hj hx) hy)
 | pref ts ls=>
  cases x<;>simp only[qc] at h<;>first|(cases h;done)|skip
  rename_i xq xs
  cases hb:eK.oU ts xq with
  | false=>rw[hb] at h;cases h
  | true=>
   rw[hb] at h
   have:=xV hb
   subst this
   simp only[cond_true] at h
   refine ⟨?_,fun rest v hv=> ?_⟩
   ·exact (Ky h ar).1
   ·simp only[lC]
    rw[(Ky h ar).2]
    cases hv with
    | pref hl hI hc=>exact .pref hl hI hc
theorem Bt {n:Nat} (hG:Br n β hp β' hp'): ∀{ls:List VS} {xs:List V} {ds:List V},qP ls xs=some ds→ls.all (VS.ok n)=true→
  ds.length=sQ ls∧(∀rest,(fY ls (ds++rest)).length=xs.length)∧
  ∀(rest:List V) (j:Nat) (v:Value) (y:V),(∀x,xs[j]? =some x→ak P w I β hp v x)→(fY ls (ds++rest))[j]? =some y→ak P w I β' hp' v y
 | [],[],ds,h,_=>by cases h;exact ⟨rfl,fun _=>rfl,fun rest j v y _ hy=>by simp[fY] at hy⟩
 | [],_::_,ds,h,_=>by cases h
 | _::_,[],ds,h,_=>by cases h
 | l::ls,x::xs,ds,h,ar=>by
  simp only[qP] at h
  obtain ⟨a,h1,h⟩:=bind_some h
  obtain ⟨b,U,h⟩:=bind_some h
  cases h
  simp only[List.all_cons,aO] at ar
  obtain ⟨i1,i2,i3⟩:=Bt hG U ar.2
  obtain ⟨cD,xQ⟩:=Kz (P:=P) (w:=w) (I:=I) hG h1 ar.1
  have hd: ∀rest,(a++b++rest).drop l.size=b++rest:=fun rest=>by rw[cC];exact oo cD
  refine ⟨by simp only[cg,sQ];omega,fun rest=>by simp only[fY,List.length_cons,hd,i2],fun rest j v y hv hy=> ?_⟩
  simp only[fY,hd] at hy
  cases j with
  | zero=>
   simp at hy
   subst hy
   exact xQ _ v (hv x rfl)
  | succ j=>exact i3 rest j v y (fun x hx=>hv x (by simpa using hx)) (by simpa using hy)
end
section
variable {P:Program} {A:cT} {w w':World} {I I' I2:Nat→Nat→Prop} {μ β β':Nat→Option Nat} {hp hp' hp0:Nat→Option ai} {C:ah} {B:Nat} {M:Nat→Prop} {w0:Start}
theorem iI: ∀{l:List ai} {j:Nat},j6 l j=l[j]?
 | [],j=>by simp[j6]
 | b::l,0=>rfl
 | b::l,j+1=>by simp only[j6,iI,List.getElem?_cons_succ]
theorem KA {sl:Nat→V} {k:Nat} {y:V}: ∀{l:List (Nat × VS)} {ds:List V},Ax sl l=some ds→(∀p∈l,∀d,qc p.2 (sl p.1)=some d→d.length=p.2.size)→
  ds.length=oV l∧∀rest,dZ (fK l (ds++rest)) k=some y→∃s d gJ,(k,s)∈l∧qc s (sl k)=some d∧y=lC s (d++gJ)
 | [],ds,h,_=>by cases h;exact ⟨rfl,fun rest h=>by cases h⟩
 | (q,s)::l,ds,h,hz=>by
  simp only[Ax] at h
  obtain ⟨a,h1,h⟩:=bind_some h
  obtain ⟨b,U,h⟩:=bind_some h
  cases h
  obtain ⟨i1,i2⟩:=KA (k:=k) (y:=y) U fun p hp=>hz p (lZ _ hp)
  have cD:=hz (q,s) (sE ..) a h1
  refine ⟨by simp only[cg,oV];simp only at cD;omega,fun rest hl=> ?_⟩
  simp only[fK,dZ] at hl
  rw[show (a++b++rest).drop s.size=b++rest by rw[cC];exact oo cD] at hl
  cases hb:Nat.beq k q with
  | true=>
   rw[hb] at hl
   rw[aX] at hb
   subst hb
   cases hl
   exact ⟨s,a,b++rest,sE ..,h1,by rw[cC]⟩
  | false=>
   rw[hb] at hl
   obtain ⟨s',d,gJ,m1,m2,m3⟩:=i2 rest hl
   exact ⟨s',d,gJ,lZ _ m1,m2,m3⟩
theorem KC {α:Type} {c:Bool} {x:Option α} {a:α} (h:(bif c then x else none)=some a):c=true∧x=some a:=by
 cases c with
 | true=>exact ⟨rfl,h⟩
 | false=>cases h
theorem aaR {n:Nat} {b:BS} {o:Option ai} {ds:List V} (h:lB b o=some ds) (ar:b.ok n=true):ds.length=b.size:=by
 cases b with
 | dead=>cases o<;>(cases h;rfl)
 | var T0 ls=>
  cases o with
  | none=>cases h
  | some blk=>
   cases blk<;>simp only[lB] at h<;>first|(cases h;done)|skip
   exact (Bt (P:=default) (w:=default) (I:=fun _ _=>False) (β:=fun _=>none) (hp:=fun _=>none) (fun _ _=>⟨rfl,rfl⟩) (KC h).2 ar).1
 | arr e fz=>
  cases o with
  | none=>cases h
  | some blk=>
   cases blk<;>simp only[lB] at h<;>first|(cases h;done)|skip
   rw[vi h] at h
   cases h
   rfl
 | nest e=>
  cases o with
  | none=>cases h
  | some blk=>
   cases blk<;>simp only[lB] at h<;>first|(cases h;done)|skip
   rw[vi h] at h
   cases h
   rfl
 | map t=>
  cases o with
  | none=>cases h
  | some blk=>
   cases blk<;>simp only[lB] at h<;>first|(cases h;done)|skip
   rw[vi h] at h
   cases h
   rfl
theorem RG {n:Nat}: ∀{l:List BS} {j:Nat} {ds:List V},Ay hp j l=some ds→l.all (BS.ok n)=true→
  (∀rest,(e9 l (ds++rest)).length=l.length)∧∀(rest:List V) (i:Nat) (blk:ai),(e9 l (ds++rest))[i]? =some blk→∃b d gJ,l[i]? =some b∧b.ok n=true∧lB b (hp (j+i))=some d∧blk=gk b (d++gJ)
 | [],j,ds,h,_=>by cases h;exact ⟨fun _=>rfl,fun rest i blk hb=>by simp[e9] at hb⟩
 | b::l,j,ds,h,ar=>by
  simp only[Ay] at h
  obtain ⟨a,h1,h⟩:=bind_some h
  obtain ⟨c,U,h⟩:=bind_some h
  cases h
  simp only[List.all_cons,aO] at ar
  obtain ⟨i1,i2⟩:=RG U ar.2
  have cD:=aaR h1 ar.1
  have hd: ∀rest,(a++c++rest).drop b.size=c++rest:=fun rest=>by rw[cC];exact oo cD
  refine ⟨fun rest=>by simp only[e9,List.length_cons,hd,i1],fun rest i blk hb=> ?_⟩
  simp only[e9,hd] at hb
  cases i with
  | zero=>
   simp at hb
   exact ⟨b,a,c++rest,rfl,ar.1,h1,by rw[←hb]⟩
  | succ i=>
   obtain ⟨b',d,gJ,m1,m2,m3,m4⟩:=i2 rest i blk (by simpa using hb)
   exact ⟨b',d,gJ,by simpa using m1,m2,by rw[show j+(i+1)=j+1+i by omega];exact m3,m4⟩
theorem aaS {n:Nat} {b:BS} {blk:ai} {ds rest:List V} (h:lB b (some blk)=some ds) (ar:b.ok n=true):
  blk.le (gk b (ds++rest))∧(gk b (ds++rest)= .dead∨gk b (ds++rest)=blk∨∃T ls cs,b= .var T ls∧blk= .var T cs∧qP ls cs=some ds∧gk b (ds++rest)= .var T (fY ls (ds++rest))):=by
 cases b with
 | dead=>exact ⟨by cases blk<;>trivial,.inl rfl⟩
 | var T0 ls=>
  cases blk<;>simp only[lB] at h<;>first|(cases h;done)|skip
  obtain ⟨hT,h0⟩:=KC h
  clear h
  rw[aX] at hT
  subst hT
  exact ⟨rfl,.inr (.inr ⟨_,_,_,rfl,rfl,h0,rfl⟩)⟩
 | arr e fz=>
  cases blk<;>simp only[lB] at h<;>first|(cases h;done)|skip
  rename_i e' es nW
  have hb:=vi h
  simp only[aO,aX,nR] at hb
  obtain ⟨rfl,rfl⟩:=hb
  simp only[jE,beq_self_eq_true,Bool.and_self,cond_true,ek] at h
  subst h
  exact ⟨⟨rfl,rfl⟩,.inr (.inl rfl)⟩
 | nest e=>
  cases blk<;>simp only[lB] at h<;>first|(cases h;done)|skip
  rename_i e' es vers
  have hb:=vi h
  simp only[aO,aX] at hb
  obtain ⟨rfl,hv⟩:=hb
  have:=xV hv
  subst this
  simp only[jE,mU] at h
  cases h
  exact ⟨⟨rfl,rfl,rfl,fun _=>cl _⟩,.inr (.inl rfl)⟩
 | map t=>
  cases blk<;>simp only[lB] at h<;>first|(cases h;done)|skip
  rename_i t' es
  have hb:=vi h
  rw[aX] at hb
  subst hb
  simp only[jE,cond_true,ek] at h
  subst h
  exact ⟨rfl,.inr (.inl rfl)⟩
theorem RH {m:Nat} {S:Shape} {st:St} {ds:List V} (h:j7 m S st=some ds):
  S.ok=true∧m≤S.cE.length∧∃a b,Ax st.sl S.cd=some a∧Ay st.hp 0 S.cE=some b∧ds=a++b:=by
 unfold j7 at h
 cases hc:(S.ok&&Nat.ble m S.cE.length) with
 | false=>rw[hc] at h;cases h
 | true=>
  rw[hc] at h
  simp only[cond_true] at h
  simp only[aO,dq] at hc
  obtain ⟨a,h1,h⟩:=bind_some h
  obtain ⟨b,U,h⟩:=bind_some h
  cases h
  exact ⟨hc.1,hc.2,a,b,h1,U,rfl⟩
theorem reshape {m:Nat} {S:Shape} {st:St} {ds:List V} (h:j7 m S st=some ds) (hS:aC P w I β st.hp B M w0):
  aC P w I β (bG S ds).hp B M w0∧(∀(k:Nat) (v:Value),ak P w I β st.hp v (st.sl k)→ak P w I β (bG S ds).hp v ((bG S ds).sl k))∧
  (∀(μ:Nat→Option Nat) (hp0:Nat→Option ai),(∀id blk,hp0 id=some blk→id<m)→Le P w0.w w0.I μ hp0 w I β st.hp→Le P w0.w w0.I μ hp0 w I β (bG S ds).hp)∧
  ∀j blk',(bG S ds).hp j=some blk'→blk'≠ .dead→∃blk,st.hp j=some blk∧blk.le blk'∧∀o b,bh P w o blk' b→bh P w o blk b:=by
 obtain ⟨ar,hm,a,b,h1,U,rfl⟩:=RH h
 unfold Shape.ok at ar
 rw[aO] at ar
 obtain ⟨vc,FM⟩:=ar
 have aU: ∀p∈S.cd,∀d,qc p.2 (st.sl p.1)=some d→d.length=p.2.size:=fun p hp d hd=>
  (Kz (P:=P) (w:=w) (I:=I) (β:=β) (hp:=st.hp) (fun _ _=>⟨rfl,rfl⟩) hd (fy.1 vc p hp)).1
 have cD:a.length=oV S.cd:=(KA (k:=0) (y:= .undef) h1 aU).1
 have FN:(bG S (a++b)).hp=j6 (e9 S.cE (b++[])):=by
  simp only[bG,mk,dr]
  rw[oo cD]
 obtain ⟨bl,bg⟩:=RG U FM
 have get: ∀j blk',(bG S (a++b)).hp j=some blk'→j<S.cE.length∧∃bs d gJ,bs.ok S.cE.length=true∧lB bs (st.hp j)=some d∧blk'=gk bs (d++gJ):=by
  intro j blk' hj
  rw[FN,iI] at hj
  obtain ⟨bs,d,gJ,m1,m2,m3,m4⟩:=bg [] j blk' hj
  rw[fx] at m3
  exact ⟨(bm.1 m1).1,bs,d,gJ,m2,m3,m4⟩
 have have': ∀j,j<S.cE.length→∃blk',(bG S (a++b)).hp j=some blk':=by
  intro j hj
  rw[FN,iI]
  exact ⟨_,bA (by rw[bl];exact hj)⟩
 generalize ey:(bG S (a++b)).hp=vj at*
 let bz:Nat→Option ai:=fun id=>if id<S.cE.length then vj id else st.hp id
 have back: ∀j blk',vj j=some blk'→blk'≠ .dead→∃blk,st.hp j=some blk∧blk.le blk'∧(blk'=blk∨∃T ls cs d gJ,ls.all (VS.ok S.cE.length)=true∧blk= .var T cs∧qP ls cs=some d∧blk'= .var T (fY ls (d++gJ))):=by
  intro j blk' hj hd
  obtain ⟨b9,bs,d,gJ,m1,m2,m3⟩:=get j blk' hj
  cases ca:st.hp j with
  | none=>
   rw[ca] at m2
   cases bs<;>simp only[lB] at m2<;>first|(cases m2;done)|skip
   exact absurd m3 hd
  | some blk=>
   rw[ca] at m2
   obtain ⟨n1,n2⟩:=aaS (rest:=gJ) m2 m1
   rw[←m3] at n1 n2
   refine ⟨blk,rfl,n1,?_⟩
   rcases n2 with e|e|⟨T,ls,cs,e1,e2,e3,e4⟩
   ·exact absurd e hd
   ·exact .inl e
   ·subst e1
    exact .inr ⟨T,ls,cs,d,gJ,m1,e2,e3,e4⟩
 have le1: ∀j blk,st.hp j=some blk→j<S.cE.length→∃blk',vj j=some blk'∧blk.le blk':=by
  intro j blk hj b9
  obtain ⟨blk',az⟩:=have' j b9
  refine ⟨blk',az,?_⟩
  by_cases hd:blk'= .dead
  ·subst hd;cases blk<;>trivial
  ·obtain ⟨cv,e1,e2,_⟩:=back j blk' az hd
   rw[hj] at e1;cases e1
   exact e2
 have aaT: ∀j e es vers e' aN vers',st.hp j=some (.nest e es vers)→vj j=some (.nest e' aN vers')→e'=e∧aN=es∧vers'=vers:=by
  intro j e es vers e' aN vers' hj gZ
  obtain ⟨blk,e1,_,e3⟩:=back j _ gZ (by simp)
  rw[hj] at e1;cases e1
  rcases e3 with e3|⟨_,_,_,_,_,_,e3,_⟩
  ·cases e3;exact ⟨rfl,rfl,rfl⟩
  ·cases e3
 have hle:Le P w I β st.hp w I β bz:=by
  refine ⟨fun _ _ h=>h,fun _ _ _=>rfl,fun id blk ab=> ?_,fun _ _ _ _ _ _ _ _=>rfl,Le.ru (fun _ _ _ _ _ _=>rfl) fun id e es vers e' aN vers' ab bJ=> ?_⟩
  ·by_cases hl:id<S.cE.length
   ·obtain ⟨blk',e1,e2⟩:=le1 id blk ab hl
    exact ⟨blk',by simp only[bz,aj hl];exact e1,e2,fun _=>rfl⟩
   ·exact ⟨blk,by simp only[bz,an hl];exact ab,ai.le_refl _,fun _=>rfl⟩
  ·by_cases hl:id<S.cE.length
   ·simp only[bz,aj hl] at bJ
    exact aaT _ _ _ _ _ _ _ ab bJ
   ·simp only[bz,an hl] at bJ
    rw[ab] at bJ;cases bJ
    exact ⟨rfl,rfl,rfl⟩
 have hG:Br S.cE.length β bz β vj:=fun id ab=>⟨by simp only[bz,aj ab],rfl⟩
 have xJ: ∀j blk' blk o b,vj j=some blk'→st.hp j=some blk→bh P w o blk' b→bh P w o blk b:=by
  intro j blk' blk o b gZ hj ho
  obtain ⟨cv,e1,_,e3⟩:=back j blk' gZ ho.alive
  rw[hj] at e1;cases e1
  rcases e3 with e3|⟨T,ls,cs,d,gJ,_,e3,_,e5⟩
  ·subst e3;exact ho
  ·subst e3;subst e5
   exact .root (by simp) (ho.flat (by simp))
 refine ⟨⟨⟨fun j blk' hj=> ?_,fun j1 j2 b1 b2 b' e1 e2 o1 o2=> ?_,fun j blk b' hj ho=> ?_,hS.h.gF⟩,hS.cx,hS.size,hS.new,hS.io⟩,fun k v hv=> ?_,fun μ hp0 aJ hE=> ?_,fun j blk' hj hd=> ?_⟩
 ·by_cases hd:blk'= .dead
  ·subst hd;exact .dead
  ·obtain ⟨blk,e1,_,e3⟩:=back j blk' hj hd
   have hr:=hS.h.rel j blk e1
   generalize β j=o at hr
   rcases e3 with e3|⟨T0,ls,cs,d,gJ,q1,e3,e4,e5⟩
   ·subst e3
    cases hr with
    | @var xs b' Ca T hb hh hs cW hx gb=>
     obtain ⟨b9,bs,d,gJ,m1,m2,m3⟩:=get j _ hj
     rw[e1] at m2
     cases bs<;>simp only[lB] at m2<;>first|(cases m2;done)|skip
     ·rename_i T0 ls
      simp only[gk] at m3
      obtain ⟨hT,m2⟩:=KC m2
      obtain ⟨i1,i2,i3⟩:=Bt (P:=P) (w:=w) (I:=I) hG m2 m1
      injection m3 with m4 m3
      rw[m3]
      exact .var hb hh (by rw[i2];exact hs) cW (fun i v y hi hy=>i3 gJ i v y (fun x cU=>(hx i v x hi cU).mono hle) hy) gb
     ·simp only[gk] at m3
      cases m3
    | dJ hb=>exact .dJ hb
    | arr a1 a2 a3 a4 a5 a6 a7=>exact .arr a1 a2 a3 a4 a5 a6 a7
    | dead=>exact absurd rfl hd
    | nest a1 a2 a3=>exact .nest a1 a2 a3
    | fL a1=>exact .fL a1
    | map a1 a2 a3 a4 a5 a6 a7=>exact .map a1 a2 a3 a4 a5 a6 a7
   ·subst e3
    subst e5
    cases hr with
    | @var xs b' Ca T hb hh hs cW hx gb=>
     obtain ⟨i1,i2,i3⟩:=Bt (P:=P) (w:=w) (I:=I) hG e4 q1
     exact .var hb hh (by rw[i2];exact hs) cW (fun i v y hi hy=>i3 gJ i v y (fun x cU=>(hx i v x hi cU).mono hle) hy) gb
 ·obtain ⟨c1,x1,_,_⟩:=back j1 b1 e1 o1.alive
  obtain ⟨c2,x2,_,_⟩:=back j2 b2 e2 o2.alive
  exact hS.h.inj j1 j2 c1 c2 b' x1 x2 (xJ _ _ _ _ _ e1 x1 o1) (xJ _ _ _ _ _ e2 x2 o2)
 ·obtain ⟨c1,x1,_,_⟩:=back j blk hj ho.alive
  exact hS.h.own j c1 b' x1 (xJ _ _ _ _ _ hj x1 ho)
 ·change ak P w I β vj v (jJ (fK S.cd (a++b)) k)
  unfold jJ
  cases KD:dZ (fK S.cd (a++b)) k with
  | none=>exact .undef
  | some y=>
   obtain ⟨s,d,gJ,n1,n2,n3⟩:=(KA h1 aU).2 b KD
   simp only[Option.getD_some,n3]
   exact (Kz (P:=P) (w:=w) (I:=I) hG n2 (fy.1 vc _ n1)).2 gJ v (hv.mono hle)
 ·have h3:=hE.trans hle
  refine ⟨h3.dC,h3.cx,fun id blk ab=> ?_,fun id blk blk' b' ab bJ hd hb=> ?_,fun id e es vers e' aN vers' b2 q i c t v e1 l ab bJ=> ?_⟩
  ·have hl:=aJ id blk ab
   obtain ⟨blk',k1,k2,k3⟩:=h3.blk id blk ab
   simp only[bz,aj (show id<S.cE.length by omega)] at k1
   exact ⟨blk',k1,k2,k3⟩
  ·have hl:=aJ id blk ab
   exact h3.size id blk blk' b' ab (by simp only[bz,aj (show id<S.cE.length by omega)];exact bJ) hd hb
  ·have hl:=aJ id _ ab
   exact h3.row id e es vers e' aN vers' b2 q i c t v e1 l ab (by simp only[bz,aj (show id<S.cE.length by omega)];exact bJ)
 ·obtain ⟨blk,e1,e2,_⟩:=back j blk' hj hd
  exact ⟨blk,e1,e2,fun o b' ho=>xJ _ _ _ _ _ hj e1 ho⟩
end
section
variable {P:Program} {A:cT} {w w':World} {I I' I2:Nat→Nat→Prop} {μ β β':Nat→Option Nat} {hp hp' hp0:Nat→Option ai} {C:ah} {B:Nat} {M:Nat→Prop} {w0:Start}
inductive ez (P:Program) (w:World) (β:Nat→Option Nat) (hp:Nat→Option ai):Place→Option Nat→ai→Prop
 | var {id:Nat} {T:TypeId} {cs KE:List V}:hp id=some (.var T cs)→ez P w β hp (.blk id) (β id) (.var T KE)
 | arr {id:Nat} {e:TypeId} {es:List V}:hp id=some (.arr e es false)→ez P w β hp (.blk id) (β id) (.arr e es false)
 | nest {id:Nat} {e:TypeId} {es:List V} {vers:List Nat}:hp id=some (.nest e es vers)→ez P w β hp (.blk id) (β id) (.nest e es [0,0,0])
 | row {id ver b b':Nat} {path:Path} {e0 e':TypeId} {es l:List V} {vers:List Nat}:hp id=some (.nest e0 es vers)→β id=some b→At P w b e0 es path b' e' l→Aw P e'=true→
   0<path.length→path.length≤vers.length→bO vers (path.length-1)=ver→0<l.length→ez P w β hp (.row id ver path) (some b') (.arr e' l false)
 | map {id:Nat} {t:TypeId} {es:List V}:hp id=some (.map t es)→ez P w β hp (.blk id) (β id) (.map t es)
def Bu (P:Program) (w:World) (β:Nat→Option Nat) (hp:Nat→Option ai) (ρ:List Place) (μ:Nat→Option Nat) (hp0:Nat→Option ai):Prop:=
 ∀j p,eD ρ j=some p→∃blk,hp0 j=some blk∧ez P w β hp p (μ j) blk
theorem pf: ∀{l m:List Place} {j:Nat} {p:Place},eD l j=some p→eD (l++m) j=some p
 | [],m,j,p,h=>by cases h
 | a::l,m,0,p,h=>h
 | a::l,m,j+1,p,h=>pf (l:=l) h
theorem mC: ∀{l:List Place} {j:Nat},eD l j=l[j]?
 | [],j=>by simp[eD]
 | a::l,0=>rfl
 | a::l,j+1=>by simp only[eD,mC,List.getElem?_cons_succ]
structure Ext (P:Program) (w:World) (I:Nat→Nat→Prop) (β:Nat→Option Nat) (hp:Nat→Option ai) (h h':Hand) (d:List V) (u:List (Nat × ai)):Prop where
 ds:h'.ds=h.ds++d
 upd:h'.upd=h.upd++u
 FY: ∀q∈u,AT hp q
 pl: ∃m,h'.pl=h.pl++m
 nodup:(h.pl.map Place.id).Nodup→(h'.pl.map Place.id).Nodup
theorem Ext.refl (h:Hand):Ext P w I β hp h h [] []:=⟨by simp,by simp,by simp,⟨[],by simp⟩,id⟩
theorem Ext.trans {h1 U h3:Hand} {d1 d2:List V} {u1 u2:List (Nat × ai)} (a:Ext P w I β hp h1 U d1 u1) (b:Ext P w I β hp U h3 d2 u2):Ext P w I β hp h1 h3 (d1++d2) (u1++u2):=by
 obtain ⟨m1,e1⟩:=a.pl
 obtain ⟨m2,e2⟩:=b.pl
 exact ⟨by rw[b.ds,a.ds,cC],by rw[b.upd,a.upd,cC],fun q hq=>(eZ.1 hq).elim (a.FY q) (b.FY q),⟨m1++m2,by rw[e2,e1,cC]⟩,fun h=>b.nodup (a.nodup h)⟩
theorem Ext.look {h h':Hand} {d:List V} {u:List (Nat × ai)} (a:Ext P w I β hp h h' d u) {j:Nat} {p:Place} (hj:eD h.pl j=some p):eD h'.pl j=some p:=by
 obtain ⟨m,e⟩:=a.pl
 rw[e]
 exact pf hj
theorem Ext.leaf (h:Hand) (x:V):Ext P w I β hp h {h with ds:=h.ds++[x]} [x] []:=⟨rfl,by simp,by simp,⟨[],by simp⟩,id⟩
theorem aaU {α:Type} {ρ:List Place} {j:Nat} {p:Place} {k:List Place→Rd α} {r:α} {rd:List Nat} (h:(unify ρ j p k).run C hp=some (r,rd)) (hb: ∃id,p= .blk id∨∃ver path,p= .row id ver path):
  ∃kh,(k kh).run C hp=some (r,rd)∧(∃m,kh=ρ++m)∧eD kh j=some p∧((ρ.map Place.id).Nodup→(kh.map Place.id).Nodup):=by
 unfold unify at h
 cases hc:Nat.blt j ρ.length with
 | true=>
  rw[hc] at h
  obtain ⟨h1,U⟩:=aG h
  refine ⟨ρ,U,⟨[],by simp⟩,?_,id⟩
  unfold P6 at h1
  split at h1
  ·rename_i a b he
   rw[aX] at h1
   subst h1
   exact he
  ·cases h1
 | false=>
  rw[hc] at h
  obtain ⟨h1,U⟩:=aG h
  simp only[aO,aX,kJ] at h1
  obtain ⟨rfl,h3⟩:=h1
  refine ⟨ρ++[p],U,⟨[p],rfl⟩,?_,fun hn=> ?_⟩
  ·rw[mC];simp
  ·rw[eJ,xf]
   refine ⟨hn,by simp,fun a ha b hb=> ?_⟩
   simp only[cM,fJ,eH] at hb
   subst hb
   intro e
   subst e
   rw[xG ha] at h3
   cases h3
theorem vk {α:Type} {h:Hand} {j:Nat} {p:Place} {k:List Place→Rd α} {r:α} {rd:List Nat} (hr:(unify h.pl j p k).run C hp=some (r,rd)) (ds:List V):
  ∃kh,(k kh).run C hp=some (r,rd)∧eD kh j=some p∧Ext P w I β hp h {h with pl:=kh,ds:=h.ds++ds} ds []:=by
 obtain ⟨kh,a,b,c,d⟩:=aaU hr (by cases p with|blk id=>exact ⟨id,.inl rfl⟩|row id ver path=>exact ⟨id,.inr ⟨ver,path,rfl⟩⟩)
 exact ⟨kh,a,c,⟨rfl,by simp,by simp,b,d⟩⟩
theorem aaV {o:Option Nat} {blk:ai} {e:TypeId} {id j:Nat} {v:Value} (hv:ak P w I β hp v (.whole e id)) (hl:ez P w β hp (.blk id) o blk) (hj:hp0 j=some blk) (jQ:μ j=o):ak P w I' μ hp0 v (.whole e j):=by
 cases hl with
 | var h=>
  cases hv with
  | dI U=>rw[h] at U;cases U
  | dw U=>rw[h] at U;cases U
  | whole U=>rw[h] at U;cases U
  | di U=>rw[h] at U;cases U
  | dB U=>rw[h] at U;cases U
 | arr h=>
  cases hv with
  | dI U=>rw[h] at U;cases U
  | dw U hb=>rw[h] at U;cases U;exact .dw hj (jQ.trans hb)
  | whole U hb a b c=>rw[h] at U;cases U;exact .whole hj (jQ.trans hb) a b c
  | di U=>rw[h] at U;cases U
  | dB U=>rw[h] at U;cases U
 | nest h=>
  cases hv with
  | dI U=>rw[h] at U;cases U
  | dw U=>rw[h] at U;cases U
  | whole U=>rw[h] at U;cases U
  | di U hb a b c=>rw[h] at U;cases U;exact .di hj (jQ.trans hb) a b c
  | dB U hb=>rw[h] at U;cases U;exact .dB hj (jQ.trans hb)
 | map h=>
  cases hv with
  | dI U=>rw[h] at U;cases U
  | dw U=>rw[h] at U;cases U
  | whole U=>rw[h] at U;cases U
  | di U=>rw[h] at U;cases U
  | dB U=>rw[h] at U;cases U
theorem aaW {o:Option Nat} {blk:ai} {t:TypeId} {id j:Nat} {v:Value} (hv:ak P w I β hp v (.cQ t id)) (hl:ez P w β hp (.blk id) o blk) (hj:hp0 j=some blk) (jQ:μ j=o):ak P w I' μ hp0 v (.cQ t j):=by
 cases hv with
 | iW U=>cases hl<;>(rename_i h;rw[h] at U;cases U)
 | cQ U hb=>
  cases hl<;>(rename_i h;rw[h] at U;cases U)
  exact .cQ hj (jQ.trans hb)
theorem aaX {o:Option Nat} {blk:ai} {e:TypeId} {id off n j:Nat} {v:Value} (hv:ak P w I β hp v (.sub e id off n)) (hl:ez P w β hp (.blk id) o blk) (hj:hp0 j=some blk) (jQ:μ j=o):ak P w I' μ hp0 v (.sub e j off n):=by
 cases hl with
 | var h=>
  cases hv with
  | gE U=>rw[h] at U;cases U
  | gn U=>rw[h] at U;cases U
  | sub U=>rw[h] at U;cases U
 | arr h=>
  cases hv with
  | gE U=>rw[h] at U;cases U
  | gn U hb=>rw[h] at U;cases U;exact .gn hj (jQ.trans hb)
  | sub U hb a b c=>rw[h] at U;cases U;exact .sub hj (jQ.trans hb) a b c
 | nest h=>
  cases hv with
  | gE U=>rw[h] at U;cases U
  | gn U=>rw[h] at U;cases U
  | sub U=>rw[h] at U;cases U
 | map h=>
  cases hv with
  | gE U=>rw[h] at U;cases U
  | gn U=>rw[h] at U;cases U
  | sub U=>rw[h] at U;cases U
theorem RI {o:Option Nat} {blk:ai} {id i c j:Nat} {v:Value} (hv:ak P w I β hp v (.ptr id i c)) (hl:ez P w β hp (.blk id) o blk) (hj:hp0 j=some blk) (jQ:μ j=o):ak P w I' μ hp0 v (.ptr j i c):=by
 cases hl with
 | @var _ T0 cs KE h=>
  obtain ⟨b,hb,rfl⟩:=hv.iB h (by simp)
  exact ak.ptr (blk:= .var T0 KE) hj (by simp) (jQ.trans hb)
 | @arr _ e es h=>
  obtain ⟨b,hb,rfl⟩:=hv.iB h (by simp)
  exact ak.ptr (blk:= .arr e es false) hj (by simp) (jQ.trans hb)
 | @nest _ e es vers h=>
  obtain ⟨b,hb,rfl⟩:=hv.iB h (by simp)
  exact ak.ptr (blk:= .nest e es [0,0,0]) hj (by simp) (jQ.trans hb)
 | @map _ t es h=>
  obtain ⟨b,hb,rfl⟩:=hv.iB h (by simp)
  exact ak.ptr (blk:= .map t es) hj (by simp) (jQ.trans hb)
theorem aaY (cJ: ∀id blk,hp id=some blk→eb P w I β hp (β id) blk) {id b i c:Nat} {e0 t:TypeId} {es l:List V} {vers:List Nat} {q:Path} {e:TypeId} {v:Value} (ab:hp id=some (.nest e0 es vers)) (hb:β id=some b)
  (ht:P.underlying t=some (.slice e)) (hc:mZ P w b e0 es q i c t v (.list e l)) (hl:0<l.length): ∃b1 cap,v= .slice (some ⟨b1,0,none⟩) l.length cap∧cap*P.cellsOf e=bsize w b1∧l.length≤cap∧cap≤maxLen∧At P w b e0 es (q++[(i,c)]) b1 e l:=by
 obtain ⟨b2,e1,m,Ca,T,f,x,n1,n2,n3,n4,n5,n6⟩:=hc
 have hr:=cJ _ _ ab
 cases hr with
 | fL az=>rw[hb] at az;cases az
 | nest az hr hn=>
  rw[hb] at az;cases az
  have hR:=hr _ _ _ _ n1
  obtain ⟨AX,c1,c2,c3⟩:=hR.cells
  rw[n2] at c1
  cases c1
  have uT:c<P.cellsOf e1:=by rw[←eR hR.ok];exact (bm.1 n4).1
  obtain ⟨v',d1,d2⟩:=c3 i c x t n3 n4 uT
  rw[n6] at d1
  cases d1
  rw[n5] at d2
  generalize hy:V.list e l=y at d2
  cases d2 with
  | fB a p=>unfold eu at a;rw[ht] at a;cases a
  | emp hu ha=>cases hy;simp at hl
  | row hu gW aU b6 oZ=>
   cases hy
   exact ⟨_,_,rfl,aU,b6,oZ,n1.snoc n2 n3 n4 ht n5 gW n6⟩
theorem aaZ (S:aC P w I β hp B M w0) {o:Option Nat} {blk:ai} {e:TypeId} {id ver j:Nat} {path:Path} {v:Value} (hv:ak P w I β hp v (.row e id ver path)) (hl:ez P w β hp (.row id ver path) o blk) (hj:hp0 j=some blk) (jQ:μ j=o):ak P w I' μ hp0 v (.whole e j):=by
 cases hl with
 | row h hb ha hf h1 U h3 h4=>
  obtain ⟨b2,q,i,c,t,l2,rfl,fp,ht,hc⟩:=hv.Qe h h1 U h3
  rw[hb] at fp;cases fp
  obtain ⟨p1,p2⟩:=JA ha
  have eQ:=hc
  obtain ⟨b3,e3,m3,Ca,T,f,x,n1,n2,n3,n4,n5,n6⟩:=eQ
  obtain ⟨q1,q2⟩:=Fj n1 n3 n4 ht n5
  rw[p1] at q1
  rw[p2] at q2
  cases q1
  cases q2
  obtain ⟨b1,cap,rfl,m1,m2,m4,m5⟩:=aaY S.h.rel h hb ht hc h4
  have:=aa0 ha m5
  subst this
  exact .whole hj jQ m1 m2 m4
where
 aa0 {b b1 b2:Nat} {e e1 e2:TypeId} {es l l2:List V} {q:Path} (h:At P w b e es q b1 e1 l) (U:At P w b e es q b2 e2 l2):b2=b1:=(h.fun U).1
theorem RJ (S:aC P w I β hp B M w0) {α:Type} {l:LS} {x:V} {h:Hand} {k:Hand→Rd α} {r:α} {rd:List Nat} {v:Value} (hr:(E1 P l x h k).run C hp=some (r,rd)) (hv:ak P w I β hp v x):
  ∃h' fq d u,(k h').run C hp=some (r,fq)∧Ext P w I β hp h h' d u∧d.length=l.size∧
   ∀(I':Nat→Nat→Prop) (μ:Nat→Option Nat) (hp0:Nat→Option ai),(∀b j,I b j→I' b j)→(∀q∈u,∀b j,s5 P w β hp q.1 b j→I' b j)→∀ρ m,ρ=h'.pl++m→Bu P w β hp ρ μ hp0→∀rest,ak P w I' μ hp0 v (ji l (d++rest)):=by
 have plain: ∀{x':V} {jR:List Nat},(k {h with ds:=h.ds++[x']}).run C hp=some (r,jR)→l.size=1→(∀I' μ hp0 rest,ak P w I' μ hp0 v (ji l ([x']++rest)))→∃h' fq d u,(k h').run C hp=some (r,fq)∧Ext P w I β hp h h' d u∧d.length=l.size∧
   ∀(I':Nat→Nat→Prop) (μ:Nat→Option Nat) (hp0:Nat→Option ai),(∀b j,I b j→I' b j)→(∀q∈u,∀b j,s5 P w β hp q.1 b j→I' b j)→∀ρ m,ρ=h'.pl++m→Bu P w β hp ρ μ hp0→∀rest,ak P w I' μ hp0 v (ji l (d++rest)):=
  fun hk hs hx=>⟨_,_,_,_,hk,Ext.leaf h _,hs.symm,fun I' μ hp0 _ _ _ _ _ _ rest=>hx I' μ hp0 rest⟩
 have og: ∀{jR:List Nat},(k h).run C hp=some (r,jR)→l.size=0→(∀I' μ hp0 rest,ak P w I' μ hp0 v (ji l rest))→∃h' fq d u,(k h').run C hp=some (r,fq)∧Ext P w I β hp h h' d u∧d.length=l.size∧
   ∀(I':Nat→Nat→Prop) (μ:Nat→Option Nat) (hp0:Nat→Option ai),(∀b j,I b j→I' b j)→(∀q∈u,∀b j,s5 P w β hp q.1 b j→I' b j)→∀ρ m,ρ=h'.pl++m→Bu P w β hp ρ μ hp0→∀rest,ak P w I' μ hp0 v (ji l (d++rest)):=
  fun hk hs hx=>⟨_,_,_,_,hk,Ext.refl h,by simp[hs],fun I' μ hp0 _ _ _ _ _ _ rest=>hx I' μ hp0 rest⟩
 unfold E1 at hr
 cases l with
 | qX=>exact og hr rfl fun _ _ _ _=> .undef
 | int kd=>
  cases x<;>simp only at hr<;>first|(cases hr;done)|skip
  obtain ⟨h1,U⟩:=aG hr
  simp only[ej] at h1
  subst h1
  obtain rfl:=hv.en
  exact plain U rfl fun _ _ _ _=> .int
 | bool=>
  cases x<;>simp only at hr<;>first|(cases hr;done)|skip
  obtain rfl:=hv.kT
  exact plain hr rfl fun _ _ _ _=> .bool
 | str=>
  cases x<;>simp only at hr<;>first|(cases hr;done)|skip
  obtain ⟨s,rfl,hl⟩:=hv.m9
  exact plain hr rfl fun _ _ _ _=> .str hl
 | nilS e=>
  cases x<;>simp only at hr<;>first|(cases hr;done)|skip
  obtain ⟨h1,U⟩:=aG hr
  cases hv with
  | nilS=>exact og U rfl fun _ _ _ _=> .nilS
 | dH=>
  cases x<;>simp only at hr<;>first|(cases hr;done)|skip
  cases hv with
  | dH=>exact og hr rfl fun _ _ _ _=> .dH
 | row e j cs=>
  cases x<;>simp only at hr<;>first|(cases hr;done)|skip
  rename_i e' id ver path
  obtain ⟨e0,es,vers,l0,ab,p1,p2,p3,hr⟩:=oY hr
  obtain ⟨h1,U⟩:=aG hr
  simp only[aO,aX,dq] at h1
  obtain ⟨rfl,o0,hp3⟩:=h1
  have:=xV o0
  subst this
  obtain ⟨kh,a,b,c⟩:=vk (P:=P) (w:=w) (I:=I) (β:=β) U (path.map fun p=>eC p.1)
  refine ⟨_,_,path.map fun p=>eC p.1,[],a,c,by simp[LS.size],fun I' μ hp0 i1 i2 ρ m dQ cN rest=> ?_⟩
  obtain ⟨blk,k1,k2⟩:=cN j _ (by rw[dQ];exact pf b)
  obtain ⟨bb,q,i,cc,t,l,rfl,hb,ht,hc⟩:=hv.Qe ab p1 p2 p3
  have ry:blk= .nest e0 es [0,0,0]∧μ j=β id:=by
   generalize μ j=o at k2
   cases k2 with
   | var h=>rw[ab] at h;cases h
   | arr h=>rw[ab] at h;cases h
   | map h=>rw[ab] at h;cases h
   | nest h=>rw[ab] at h;cases h;exact ⟨rfl,rfl⟩
  obtain ⟨rfl,jQ⟩:=ry
  simp only[ji,FW]
  have hq:q.length<3:=by rw[cg,List.length_singleton] at hp3;omega
  refine .row k1 (jQ.trans hb) (by simpa using hq) ?_ ht hc
  match q.length,hq with
  | 0,_=>rfl
  | 1,_=>rfl
  | 2,_=>rfl
 | cX j cs c=>cases hr
 | EM k n=>cases hr
 | xj b=>cases hr
 | dV t=>
  cases x<;>simp only at hr<;>first|(cases hr;done)|skip
  obtain ⟨h1,U⟩:=aG hr
  cases hv with
  | dV=>exact og U rfl fun _ _ _ _=> .dV
 | cQ t j=>
  cases x<;>simp only at hr<;>first|(cases hr;done)|skip
  rename_i t' id
  obtain ⟨h1,U⟩:=aG hr
  rw[aX] at h1
  subst h1
  obtain ⟨kh,a,b,c⟩:=vk (P:=P) (w:=w) (I:=I) (β:=β) U []
  refine ⟨_,_,[],[],a,by simpa using c,rfl,fun I' μ hp0 i1 i2 ρ m dQ cN rest=> ?_⟩
  obtain ⟨blk,k1,k2⟩:=cN j _ (by rw[dQ];exact pf b)
  exact aaW hv k2 k1 rfl
 | list e=>
  obtain ⟨⟨y,u⟩,l1,l2,h1,U⟩:=lD hr
  cases y<;>simp only at U<;>first|(cases U;done)|skip
  rename_i e' es
  obtain ⟨h3,h4⟩:=aG U
  rw[aX] at h3
  subst h3
  obtain ⟨p1,p2⟩:=Fk S.h.rel h1 hv
  exact ⟨_,_,[.list e es],u,h4,⟨rfl,rfl,p1,⟨[],by simp⟩,id⟩,rfl,fun I' μ hp0 i1 i2 _ _ _ _ rest=> .list (p2 I' i1 i2)⟩
 | whole e j=>
  cases x<;>simp only at hr<;>first|(cases hr;done)|skip
  ·rename_i e' id
   obtain ⟨h1,U⟩:=aG hr
   rw[aX] at h1
   subst h1
   obtain ⟨kh,a,b,c⟩:=vk (P:=P) (w:=w) (I:=I) (β:=β) U []
   refine ⟨_,_,[],[],a,by simpa using c,rfl,fun I' μ hp0 i1 i2 ρ m dQ cN rest=> ?_⟩
   obtain ⟨blk,k1,k2⟩:=cN j _ (by rw[dQ];exact pf b)
   exact aaV hv k2 k1 rfl
  ·rename_i e' id ver path
   obtain ⟨h1,U⟩:=aG hr
   rw[aX] at h1
   subst h1
   obtain ⟨kh,a,b,c⟩:=vk (P:=P) (w:=w) (I:=I) (β:=β) U []
   refine ⟨_,_,[],[],a,by simpa using c,rfl,fun I' μ hp0 i1 i2 ρ m dQ cN rest=> ?_⟩
   obtain ⟨blk,k1,k2⟩:=cN j _ (by rw[dQ];exact pf b)
   exact aaZ S hv k2 k1 rfl
 | sub e j=>
  cases x<;>simp only at hr<;>first|(cases hr;done)|skip
  rename_i e' id o n
  obtain ⟨h1,U⟩:=aG hr
  rw[aX] at h1
  subst h1
  obtain ⟨kh,a,b,c⟩:=vk (P:=P) (w:=w) (I:=I) (β:=β) U [eC o,eC n]
  refine ⟨_,_,[eC o,eC n],[],a,c,rfl,fun I' μ hp0 i1 i2 ρ m dQ cN rest=> ?_⟩
  obtain ⟨blk,k1,k2⟩:=cN j _ (by rw[dQ];exact pf b)
  simpa[ji,V.nth] using aaX (I':=I') hv k2 k1 rfl
 | ptr j=>
  cases x<;>simp only at hr<;>first|(cases hr;done)|skip
  rename_i id i c
  obtain ⟨kh,a,b,c'⟩:=vk (P:=P) (w:=w) (I:=I) (β:=β) hr [eC i,eC c]
  refine ⟨_,_,[eC i,eC c],[],a,c',rfl,fun I' μ hp0 i1 i2 ρ m dQ cN rest=> ?_⟩
  obtain ⟨blk,k1,k2⟩:=cN j _ (by rw[dQ];exact pf b)
  simpa[ji,V.nth] using RI (I':=I') hv k2 k1 rfl
 | nT j i c=>
  cases x<;>simp only at hr<;>first|(cases hr;done)|skip
  rename_i id i' c'
  obtain ⟨h1,U⟩:=aG hr
  simp only[aO,aX] at h1
  obtain ⟨rfl,rfl⟩:=h1
  obtain ⟨kh,a,b,c'⟩:=vk (P:=P) (w:=w) (I:=I) (β:=β) U []
  refine ⟨_,_,[],[],a,by simpa using c',rfl,fun I' μ hp0 i1 i2 ρ m dQ cN rest=> ?_⟩
  obtain ⟨blk,k1,k2⟩:=cN j _ (by rw[dQ];exact pf b)
  exact RI hv k2 k1 rfl
end
section
variable {P:Program} {A:cT} {w w':World} {I I' I2:Nat→Nat→Prop} {μ β β':Nat→Option Nat} {hp hp' hp0:Nat→Option ai} {C:ah} {B:Nat} {M:Nat→Prop} {w0:Start}
def nk (P:Program) (w:World) (I:Nat→Nat→Prop) (β:Nat→Option Nat) (hp:Nat→Option ai) (h':Hand) (u:List (Nat × ai)) (K:(Nat→Nat→Prop)→(Nat→Option Nat)→(Nat→Option ai)→Prop):Prop:=
 ∀(I':Nat→Nat→Prop) (μ:Nat→Option Nat) (hp0:Nat→Option ai),(∀b j,I b j→I' b j)→(∀q∈u,∀b j,s5 P w β hp q.1 b j→I' b j)→∀ρ m,ρ=h'.pl++m→Bu P w β hp ρ μ hp0→K I' μ hp0
theorem nk.Bv {h h':Hand} {d:List V} {u u':List (Nat × ai)} {K:(Nat→Nat→Prop)→(Nat→Option Nat)→(Nat→Option ai)→Prop} (t:nk P w I β hp h u K) (e:Ext P w I β hp h h' d u'):nk P w I β hp h' (u++u') K:=by
 obtain ⟨m1,e1⟩:=e.pl
 exact fun I' μ hp0 i1 i2 ρ m dQ cN=>t I' μ hp0 i1 (fun q hq=>i2 q (eZ.2 (.inl hq))) ρ (m1++m) (by rw[dQ,e1,cC]) cN
theorem nk.more {h:Hand} {u u':List (Nat × ai)} {K:(Nat→Nat→Prop)→(Nat→Option Nat)→(Nat→Option ai)→Prop} (t:nk P w I β hp h u K):nk P w I β hp h (u'++u) K:=
 fun I' μ hp0 i1 i2 ρ m dQ cN=>t I' μ hp0 i1 (fun q hq=>i2 q (eZ.2 (.inr hq))) ρ m dQ cN
theorem FZ (S:aC P w I β hp B M w0) {α:Type}: ∀{ls:List LS} {xs:List V} {h:Hand} {k:Hand→Rd α} {r:α} {rd:List Nat} {vs:List Value},(xr P ls xs h k).run C hp=some (r,rd)→vs.length=xs.length→
  (∀(j:Nat) v x,vs[j]? =some v→xs[j]? =some x→ak P w I β hp v x)→
  ∃h' fq d u,(k h').run C hp=some (r,fq)∧Ext P w I β hp h h' d u∧d.length=kN ls∧ls.length=xs.length∧
   nk P w I β hp h' u fun I' μ hp0=> ∀rest,(iS ls (d++rest)).length=xs.length∧∀(j:Nat) v y,vs[j]? =some v→(iS ls (d++rest))[j]? =some y→ak P w I' μ hp0 v y
 | [],[],h,k,r,rd,vs,hr,hl,hv=>⟨h,rd,[],[],hr,Ext.refl h,rfl,rfl,fun I' μ hp0 _ _ _ _ _ _ rest=>⟨rfl,fun j v y _ hy=>by simp[iS] at hy⟩⟩
 | [],_::_,h,k,r,rd,vs,hr,hl,hv=>by cases hr
 | _::_,[],h,k,r,rd,vs,hr,hl,hv=>by cases hr
 | l::ls,x::xs,h,k,r,rd,vs,hr,hl,hv=>by
  cases vs with
  | nil=>simp at hl
  | cons v vs=>
   simp only[xr] at hr
   obtain ⟨h1,jR,d1,u1,a1,a2,a3,a4⟩:=RJ S hr (hv 0 v x rfl rfl)
   obtain ⟨U,tj,d2,u2,b1,b2,b3,b5,b4⟩:=FZ S a1 (by simpa using hl) (vs:=vs) (fun j v x hj hx=>hv (j+1) v x (by simpa using hj) (by simpa using hx))
   have a4':nk P w I β hp h1 u1 fun I' μ hp0=> ∀rest,ak P w I' μ hp0 v (ji l (d1++rest)):=a4
   refine ⟨U,tj,d1++d2,u1++u2,b1,a2.trans b2,by simp only[cg,kN];omega,by simp[b5],fun I' μ hp0 i1 i2 ρ m dQ cN rest=> ?_⟩
   have k1:=(a4'.Bv b2) I' μ hp0 i1 i2 ρ m dQ cN (d2++rest)
   obtain ⟨k2,k3⟩:=b4.more I' μ hp0 i1 i2 ρ m dQ cN rest
   simp only[iS]
   rw[show (d1++d2++rest).drop l.size=d2++rest by rw[cC];exact oo a3,cC]
   refine ⟨by simp[k2],fun j v' y hj hy=> ?_⟩
   cases j with
   | zero=>simp at hj hy;subst hj;subst hy;exact k1
   | succ j=>exact k3 j v' y (by simpa using hj) (by simpa using hy)
theorem aa1 (S:aC P w I β hp B M w0) {α:Type} {s:VS} {x:V} {h:Hand} {k:Hand→Rd α} {r:α} {rd:List Nat} {v:Value} (hr:(AA P s x h k).run C hp=some (r,rd)) (hv:ak P w I β hp v x):
  ∃h' fq d u,(k h').run C hp=some (r,fq)∧Ext P w I β hp h h' d u∧d.length=s.size∧
   nk P w I β hp h' u fun I' μ hp0=> ∀rest,ak P w I' μ hp0 v (lC s (d++rest)):=by
 cases s with
 | one l=>
  simp only[AA] at hr
  obtain ⟨h1,jR,d1,u1,a1,a2,a3,a4⟩:=RJ S hr hv
  exact ⟨h1,jR,d1,u1,a1,a2,a3,a4⟩
 | agg ls=>
  cases x<;>simp only[AA] at hr<;>first|(cases hr;done)|skip
  rename_i xs
  obtain ⟨cs,rfl,e1,e2⟩:=hv.kb
  obtain ⟨h1,jR,d1,u1,a1,a2,a3,a5,a4⟩:=FZ S hr (vs:=cs.toList) (by simpa using e1) (fun j v x hj hx=>e2 j v x (by simpa using hj) hx)
  refine ⟨h1,jR,d1,u1,a1,a2,a3,fun I' μ hp0 i1 i2 ρ m dQ cN rest=> ?_⟩
  obtain ⟨k1,k2⟩:=a4 I' μ hp0 i1 i2 ρ m dQ cN rest
  exact .agg (by rw[k1];exact e1) fun j v y hj hy=>k2 j v y (by simpa using hj) hy
 | bn ls=>cases x<;>cases hr
 | pref ts ls=>cases x<;>cases hr
 | fn f a b=>
  cases x<;>simp only[AA] at hr<;>first|(cases hr;done)|skip
  rename_i f' xs ys
  obtain ⟨hc,vl⟩:=aG hr
  clear hr
  rw[aX] at hc
  subst hc
  cases hv with
  | @fn _ fs cs _ _ q1 q2 q3 q4=>
   obtain ⟨h1,jR,d1,u1,a1,a2,a3,a5,a4⟩:=FZ S vl (vs:=fs.toList) (by simpa using q1) (fun j v x hj hx=>q2 j v x (by simpa using hj) hx)
   obtain ⟨U,tj,d2,u2,b1,b2,b3,b5,b4⟩:=FZ S a1 (vs:=cs.toList) (by simpa using q3) (fun j v x hj hx=>q4 j v x (by simpa using hj) hx)
   refine ⟨U,tj,d1++d2,u1++u2,b1,a2.trans b2,by simp only[cg,VS.size];omega,fun I' μ hp0 i1 i2 ρ m dQ cN rest=> ?_⟩
   obtain ⟨k1,k2⟩:=(a4.Bv b2) I' μ hp0 i1 i2 ρ m dQ cN (d2++rest)
   obtain ⟨k3,k4⟩:=b4.more I' μ hp0 i1 i2 ρ m dQ cN rest
   simp only[lC]
   rw[show (d1++d2++rest).drop (kN a)=d2++rest by rw[cC];exact oo a3,cC]
   exact .fn (by rw[k1];exact q1) (fun j v y hj hy=>k2 j v y (by simpa using hj) hy) (by rw[k3];exact q3) (fun j v y hj hy=>k4 j v y (by simpa using hj) hy)
theorem KF (S:aC P w I β hp B M w0) {α:Type}: ∀{ls:List VS} {xs:List V} {h:Hand} {k:Hand→Rd α} {r:α} {rd:List Nat} {vs:List Value},(AB P ls xs h k).run C hp=some (r,rd)→vs.length=xs.length→
  (∀(j:Nat) v x,vs[j]? =some v→xs[j]? =some x→ak P w I β hp v x)→
  ∃h' fq d u,(k h').run C hp=some (r,fq)∧Ext P w I β hp h h' d u∧d.length=sQ ls∧ls.length=xs.length∧
   nk P w I β hp h' u fun I' μ hp0=> ∀rest,(fY ls (d++rest)).length=xs.length∧∀(j:Nat) v y,vs[j]? =some v→(fY ls (d++rest))[j]? =some y→ak P w I' μ hp0 v y
 | [],[],h,k,r,rd,vs,hr,hl,hv=>⟨h,rd,[],[],hr,Ext.refl h,rfl,rfl,fun I' μ hp0 _ _ _ _ _ _ rest=>⟨rfl,fun j v y _ hy=>by simp[fY] at hy⟩⟩
 | [],_::_,h,k,r,rd,vs,hr,hl,hv=>by cases hr
 | _::_,[],h,k,r,rd,vs,hr,hl,hv=>by cases hr
 | l::ls,x::xs,h,k,r,rd,vs,hr,hl,hv=>by
  cases vs with
  | nil=>simp at hl
  | cons v vs=>
   simp only[AB] at hr
   obtain ⟨h1,jR,d1,u1,a1,a2,a3,a4⟩:=aa1 S hr (hv 0 v x rfl rfl)
   obtain ⟨U,tj,d2,u2,b1,b2,b3,b5,b4⟩:=KF S a1 (by simpa using hl) (vs:=vs) (fun j v x hj hx=>hv (j+1) v x (by simpa using hj) (by simpa using hx))
   refine ⟨U,tj,d1++d2,u1++u2,b1,a2.trans b2,by simp only[cg,sQ];omega,by simp[b5],fun I' μ hp0 i1 i2 ρ m dQ cN rest=> ?_⟩
   have k1:=(a4.Bv b2) I' μ hp0 i1 i2 ρ m dQ cN (d2++rest)
   obtain ⟨k2,k3⟩:=b4.more I' μ hp0 i1 i2 ρ m dQ cN rest
   simp only[fY]
   rw[show (d1++d2++rest).drop l.size=d2++rest by rw[cC];exact oo a3,cC]
   refine ⟨by simp[k2],fun j v' y hj hy=> ?_⟩
   cases j with
   | zero=>simp at hj hy;subst hj;subst hy;exact k1
   | succ j=>exact k3 j v' y (by simpa using hj) (by simpa using hy)
def F0:List BS→Nat
 | []=>0
 | b::l=>b.size+F0 l
theorem RK: ∀{b:Nat} {e e':TypeId} {es:List V} {v:V},(∀q b' e' m,At P w b e es q b' e' m→gm P w I b' e' m)→∀(path:Path),kL P e path=some e'→jI P e es path=some v→0<v.toList.length→
  ∃b1,At P w b e es path b1 e' v.toList
 | b,e,e',es,v,cO,[],ht,hv,hl=>by
  simp only[kL,ek] at ht
  simp only[jI,ek] at hv
  subst ht;subst hv
  exact ⟨b,.here⟩
 | b,e,e',es,v,cO,(i,c)::q,ht,hv,hl=>by
  simp only[kL] at ht
  simp only[jI] at hv
  obtain ⟨x,hx,hv⟩:=bind_some hv
  cases KG:(kL.Aq P e)[c]? with
  | none=>rw[KG] at ht;cases ht
  | some t=>
   rw[KG] at ht
   simp only at ht
   have F1:(aW P e)[c]? =some t:=KG
   cases hu:P.underlying t with
   | none=>rw[hu] at ht;cases ht
   | some d=>
    rw[hu] at ht
    cases d<;>simp only at ht<;>first|(cases ht;done)|skip
    rename_i e1
    rw[oa F1] at hv
    have hR:=cO _ _ _ _ .here
    obtain ⟨Ca,c1,c2,c3⟩:=hR.cells
    have uT:c<P.cellsOf e:=by rw[←eR hR.ok];exact (bm.1 F1).1
    obtain ⟨u,d1,d2⟩:=c3 i c x t hx F1 uT
    rw[d2.s8] at hv
    generalize hy:bR P e x c=y at d2 hv
    cases d2 with
    | fB a p=>unfold eu at a;rw[hu] at a;cases a
    | @emp e2 a cap ni ha=>
     rw[hu] at ni;cases ni
     simp only at hv
     cases q with
     | nil=>simp only[jI,ek] at hv;subst hv;simp[V.toList] at hl
     | cons a q=>simp[jI] at hv
    | @row e2 ct b2 cap ni gW aU b6 oZ=>
     rw[hu] at ni;cases ni
     simp only at hv
     have dc: ∀{q b' e' aN},At P w b2 e1 ct q b' e' aN→At P w b e es ((i,c)::q) b' e' aN:=fun h=> .step c1 hx F1 hu hy gW d1 h
     obtain ⟨b1,mz⟩:=RK (fun q b' e' m h=>cO _ _ _ _ (dc h)) q ht hv hl
     exact ⟨b1,dc mz⟩
theorem RL (S:aC P w I β hp B M w0) {α:Type}: ∀{bs:List BS} {j:Nat} {h:Hand} {k:Hand→Rd α} {r:α} {rd:List Nat},(qZ P bs j h k).run C hp=some (r,rd)→
  ∃h' fq d u,(k h').run C hp=some (r,fq)∧Ext P w I β hp h h' d u∧d.length=F0 bs∧
   ∀rest,(e9 bs (d++rest)).length=bs.length∧∃o:Nat→Option Nat,
    (∀(i:Nat) blk,(e9 bs (d++rest))[i]? =some blk→∃p,eD h'.pl (j+i)=some p∧ez P w β hp p (o i) blk)∧
    nk P w I β hp h' u fun I' μ hp0=> ∀(i:Nat) blk,(e9 bs (d++rest))[i]? =some blk→(∀b,bh P w (o i) blk b→∀j,¬I' b j)→eb P w I' μ hp0 (o i) blk
 | [],j,h,k,r,rd,hr=>⟨h,rd,[],[],hr,Ext.refl h,rfl,fun rest=>⟨rfl,fun _=>none,fun i blk hb=>by simp[e9] at hb,fun I' μ hp0 _ _ _ _ _ _ i blk hb=>by simp[e9] at hb⟩⟩
 | b::bs,j,h,k,r,rd,hr=>by
  simp only[qZ] at hr
  have fin: ∀{h1:Hand} {jR:List Nat} {d1:List V} {u1:List (Nat × ai)} {o1:Option Nat} {p:Place},(qZ P bs (j+1) h1 k).run C hp=some (r,jR)→Ext P w I β hp h h1 d1 u1→d1.length=b.size→eD h.pl j=some p→
    (∀rest,ez P w β hp p o1 (gk b (d1++rest)))→(∀rest,nk P w I β hp h1 u1 fun I' μ hp0=>(∀bb,bh P w o1 (gk b (d1++rest)) bb→∀j,¬I' bb j)→eb P w I' μ hp0 o1 (gk b (d1++rest)))→
    ∃h' fq d u,(k h').run C hp=some (r,fq)∧Ext P w I β hp h h' d u∧d.length=F0 (b::bs)∧
     ∀rest,(e9 (b::bs) (d++rest)).length=(b::bs).length∧∃o:Nat→Option Nat,
      (∀(i:Nat) blk,(e9 (b::bs) (d++rest))[i]? =some blk→∃p,eD h'.pl (j+i)=some p∧ez P w β hp p (o i) blk)∧
      nk P w I β hp h' u fun I' μ hp0=> ∀(i:Nat) blk,(e9 (b::bs) (d++rest))[i]? =some blk→(∀b,bh P w (o i) blk b→∀j,¬I' b j)→eb P w I' μ hp0 (o i) blk:=by
   intro h1 jR d1 u1 o1 p hk he hd bz hl ht
   obtain ⟨U,tj,d2,u2,b1,b2,b3,b4⟩:=RL S hk
   refine ⟨U,tj,d1++d2,u1++u2,b1,he.trans b2,by simp only[cg,F0];omega,fun rest=> ?_⟩
   obtain ⟨c1,o,c2,c3⟩:=b4 rest
   simp only[e9]
   rw[show (d1++d2++rest).drop b.size=d2++rest by rw[cC];exact oo hd,cC]
   refine ⟨by simp[c1],fun i=>match i with|0=>o1|i+1=>o i,fun i blk hb=> ?_,fun I' μ hp0 i1 i2 ρ m dQ cN i blk hb cW=> ?_⟩
   ·cases i with
    | zero=>
     simp at hb
     subst hb
     exact ⟨p,b2.look (he.look bz),hl _⟩
    | succ i=>
     obtain ⟨q,e1,e2⟩:=c2 i blk (by simpa using hb)
     exact ⟨q,by rw[show j+(i+1)=j+1+i by omega];exact e1,e2⟩
   ·cases i with
    | zero=>
     simp at hb
     subst hb
     exact ((ht _).Bv b2) I' μ hp0 i1 i2 ρ m dQ cN cW
    | succ i=>exact c3.more I' μ hp0 i1 i2 ρ m dQ cN i blk (by simpa using hb) cW
  cases bz:eD h.pl j with
  | none=>rw[bz] at hr;cases hr
  | some p=>
   rw[bz] at hr
   cases p with
   | blk id=>
    obtain ⟨l1,hr⟩:=run_get hr
    cases ab:hp id with
    | none=>rw[ab] at hr;cases hr
    | some blk=>
     rw[ab] at hr
     cases blk with
     | dead=>cases hr
     | var T0 cs=>
      cases b<;>simp only at hr<;>first|(cases hr;done)|skip
      rename_i T1 ss
      obtain ⟨hT,hr1⟩:=aG hr
      clear hr
      rw[aX] at hT
      subst hT
      have cJ:=S.h.rel id _ ab
      generalize ho:β id=o at cJ
      cases cJ with
      | @var _ bb Ca T hb hh hs hI hx gb=>
       obtain ⟨h1,jR,d1,u1,a1,a2,a3,a5,a4⟩:=KF S hr1 (vs:=Ca.toList) (by simpa using hs) (fun j v x hj cU=>hx j v x (by simpa using hj) cU)
       refine fin (o1:=β id) a1 a2 a3 bz (fun rest=> .var ab) fun rest I' μ hp0 i1 i2 ρ m dQ cN cW=> ?_
       obtain ⟨k1,k2⟩:=a4 I' μ hp0 i1 i2 ρ m dQ cN rest
       exact .var (ho.trans hb) hh (by rw[k1];exact hs) (cW _ (.root (by simp[gk]) (ho.trans hb))) (fun i v y hi hy=>k2 i v y (by simpa using hi) hy) gb
     | arr e' es fz=>
      cases fz with
      | true=>cases hr
      | false=>
       cases b with
       | arr e fz=>
        cases fz with
        | true=>cases hr
        | false=>
         obtain ⟨hc,vl⟩:=aG hr
         clear hr
         rw[aX] at hc
         subst hc
         refine fin (d1:=[.list e es]) (o1:=β id) vl (Ext.leaf h _) rfl bz (fun rest=>ez.arr ab) fun rest I' μ hp0 i1 i2 ρ m dQ cN cW=> ?_
         change eb P w I' μ hp0 (β id) (.arr e es false)
         have cJ:=S.h.rel id _ ab
         generalize ho:β id=o at cJ cW⊢
         cases cJ with
         | dJ hb=>exact .dJ hb
         | arr a1 a2 a3 a4 a5 a6 a7=>
          refine .arr a1 a2 a3 a4 (fun h=>by cases h) (fun _=>cW _ (.root (by simp[gk]) a2)) fun i j x t' y1 y2 y3=> ?_
          obtain ⟨v,z1,z2⟩:=a7 i j x t' y1 y2 y3
          exact ⟨v,z1,z2.mono i1 fun _ _ _=>rfl⟩
       | _=>cases hr
     | nest e' es vers=>
      cases b with
      | nest e=>
       obtain ⟨hc,vl⟩:=aG hr
       clear hr
       rw[aX] at hc
       subst hc
       refine fin (d1:=[.list e es]) (o1:=β id) vl (Ext.leaf h _) rfl bz (fun rest=>ez.nest ab) fun rest I' μ hp0 i1 i2 ρ m dQ cN cW=> ?_
       have RM: ∀bb,bh P w (β id) (.nest e es [0,0,0]) bb→∀j,¬I' bb j:=cW
       change eb P w I' μ hp0 (β id) (.nest e es [0,0,0])
       have cJ:=S.h.rel id _ ab
       generalize ho:β id=o at cJ RM⊢
       cases cJ with
       | fL hb=>exact .fL hb
       | nest hb cO mw=>
        refine .nest hb (fun q b' e1 m1 hq=> ?_) mw
        obtain ⟨ok,⟨Ca,c1,c2,c3⟩,nI⟩:=cO q b' e1 m1 hq
        refine ⟨ok,⟨Ca,c1,c2,fun i j x t' y1 y2 y3=> ?_⟩,RM _ (.row hb hq)⟩
        obtain ⟨v,z1,z2⟩:=c3 i j x t' y1 y2 y3
        exact ⟨v,z1,z2.mono i1 (fun _ _ _=>rfl) fun _ _ _ _ _=>rfl⟩
      | _=>cases hr
     | map t' es=>
      cases b with
      | map t=>
       obtain ⟨hc,vl⟩:=aG hr
       clear hr
       rw[aX] at hc
       subst hc
       refine fin (d1:=[.list t es]) (o1:=β id) vl (Ext.leaf h _) rfl bz (fun rest=>ez.map ab) fun rest I' μ hp0 i1 i2 ρ m dQ cN cW=> ?_
       change eb P w I' μ hp0 (β id) (.map t es)
       have cJ:=S.h.rel id _ ab
       generalize ho:β id=o at cJ cW⊢
       cases cJ with
       | map a1 a2 a3 a4 a5 a6 a7=>exact .map a1 a2 a3 a4 (cW _ (.root (by simp[gk]) a2)) a6 a7
      | _=>cases hr
   | row id ver path=>
    obtain ⟨e0,es,vers,l1,k1,k2,k3,k4,k5⟩:=oY hr
    obtain ⟨e',vv,m1,m2,m3⟩:=xz k5
    cases b with
    | arr e fz=>
     cases fz with
     | true=>cases m3
     | false=>
      obtain ⟨hc,m4⟩:=aG m3
      clear m3
      simp only[aO,aX,jZ] at hc
      obtain ⟨rfl,Bw,gW⟩:=hc
      have cJ:=S.h.rel id _ k1
      cases hb:β id with
      | none=>
       rw[hb] at cJ
       cases cJ with
       | nest az _ _=>cases az
       | fL _=>
        cases path with
        | nil=>cases m2;simp[V.toList] at gW
        | cons p q=>obtain ⟨i,c⟩:=p;simp[jI] at m2
      | some b0=>
       rw[hb] at cJ
       cases cJ with
       | fL az=>cases az
       | nest az cO mw=>
        cases az
        obtain ⟨b1,dK⟩:=RK cO path m1 m2 gW
        refine fin (d1:=[.list e vv.toList]) (o1:=some b1) m4 (Ext.leaf h _) rfl bz (fun rest=>ez.row k1 hb dK Bw k2 k3 k4 gW) fun rest I' μ hp0 i1 i2 ρ m dQ cN cW=> ?_
        change eb P w I' μ hp0 (some b1) (.arr e vv.toList false)
        obtain ⟨ok,⟨Ca,c1,c2,c3⟩,nI⟩:=cO _ _ _ _ dK
        refine .arr ok rfl c1 c2 (fun h=>by cases h) (fun _=>cW _ (.root (by simp[gk]) rfl)) fun i j x t' y1 y2 y3=> ?_
        obtain ⟨v,z1,z2⟩:=c3 i j x t' y1 y2 y3
        refine ⟨v,z1,?_⟩
        generalize bR P e x j=y at z2⊢
        cases z2 with
        | fB _ p=>exact p.mono i1 fun _ _ _=>rfl
        | emp hu _=>exact absurd hu (RN Bw y2 _)
        | row hu _ _ _ _=>exact absurd hu (RN Bw y2 _)
    | _=>cases m3
where
 RN {e t:TypeId} {j:Nat} (h:Aw P e=true) (ht:(aW P e)[j]? =some t) (e':TypeId):P.underlying t≠some (.slice e'):=by
  intro hu
  have U:=fy.1 h t (jg ht)
  rw[hu] at U
  cases U
end
section
variable {P:Program} {A:cT} {w w':World} {I I' I2:Nat→Nat→Prop} {μ β β' cm:Nat→Option Nat} {hp hp' hp0 bz:Nat→Option ai} {C:ah} {B:Nat} {M:Nat→Prop} {w0:Start}
structure lJ (w:World) (I:Nat→Nat→Prop) (β:Nat→Option Nat) (hp:Nat→Option ai) (w':World) (I':Nat→Nat→Prop) (β':Nat→Option Nat) (hp':Nat→Option ai):Prop where
 dC: ∀b j,I b j→I' b j
 cx: ∀b j,I b j→w'.cell? ⟨b,j,none⟩=w.cell? ⟨b,j,none⟩
 blk: ∀id blk,hp id=some blk→∃blk',hp' id=some blk'∧blk.le blk'∧(blk'≠ .dead→β' id=β id)
 size: ∀id blk blk' b,hp id=some blk→hp' id=some blk'→blk'≠ .dead→β id=some b→bsize w' b=bsize w b
theorem Le.xW (h:Le P w I β hp w' I' β' hp'):lJ w I β hp w' I' β' hp':=⟨h.dC,h.cx,h.blk,h.size⟩
theorem lJ.trans {AP:World} {AQ:Nat→Nat→Prop} {AR:Nat→Option Nat} {AS:Nat→Option ai} (h1:lJ w I β hp w' I' β' hp') (U:lJ w' I' β' hp' AP AQ AR AS):lJ w I β hp AP AQ AR AS:=by
 refine ⟨fun b j h=>U.dC b j (h1.dC b j h),fun b j h=>(U.cx b j (h1.dC b j h)).trans (h1.cx b j h),fun id blk h=> ?_,fun id blk uM b h sX hd hb=> ?_⟩
 ·obtain ⟨blk',e',l',b'⟩:=h1.blk id blk h
  obtain ⟨uM,dM,rp,Jv⟩:=U.blk id blk' e'
  refine ⟨uM,dM,ai.le_trans l' rp,fun hd=> ?_⟩
  have fb:blk'≠ .dead:=fun e=>hd (ai.qf (e▸rp))
  exact (Jv hd).trans (b' fb)
 ·obtain ⟨blk',e',l',b'⟩:=h1.blk id blk h
  obtain ⟨iy,e3,l3,b3⟩:=U.blk id blk' e'
  obtain rfl:iy=uM:=by rw[e3] at sX;exact dh sX
  have fb:blk'≠ .dead:=fun e=>hd (ai.qf (e▸l3))
  rw[U.size id blk' iy b e' e3 hd ((b' fb).trans hb),h1.size id blk blk' b h e' fb hb]
def pg (P:Program) (w:World) (μ:Nat→Option Nat) (hp0:Nat→Option ai) (b:Nat):Prop:= ∃j blk,hp0 j=some blk∧bh P w (μ j) blk b
structure aa2 (P:Program) (A:cT) (key:Nat) (w:World) (I:Nat→Nat→Prop) (μ:Nat→Option Nat) (ds es:List V) (w':World) (v:Value) (I2:Nat→Nat→Prop) (cm:Nat→Option Nat):Prop where
 xX:aC P w' I2 cm (bG (A.so key es) (A.lv key es)).hp w.heap.size (pg P w μ (bG (A.sin key) ds).hp) ⟨w,I⟩
 le:lJ w I μ (bG (A.sin key) ds).hp w' I2 cm (bG (A.so key es) (A.lv key es)).hp
 res:ak P w' I2 cm (bG (A.so key es) (A.lv key es)).hp v (qd (fK (A.so key es).cd (A.lv key es)))
def lK (P:Program) (A:cT) (C:ah):Prop:=
 ∀key ds es,C key ds=some es→∃fn c,P.funcs[A.im key]? =some fn∧fn.body=some c∧
  ∀(w:World) (I:Nat→Nat→Prop) (μ:Nat→Option Nat) (vals:List Value),
   uL P w I μ (bG (A.sin key) ds).hp w.heap.size (pg P w μ (bG (A.sin key) ds).hp)→gA P A.aE w I→
   vals.length=(A.sin key).cd.length→(∀(j:Nat) v x,vals[j]? =some v→(fY ((A.sin key).cd.map (·.2)) ds)[j]? =some x→ak P w I μ (bG (A.sin key) ds).hp v x)→
   Calls P (A.im key) vals.toArray w fun e w'=> ∃v I2 cm,e= .returned v∧aa2 P A key w I μ ds es w' v I2 cm
theorem ez.vm {p:Place} {o:Option Nat} {blk:ai} {b:Nat} (h:ez P w β hp p o blk) (ho:bh P w o blk b):
  ∃rL,hp p.id=some rL∧bh P w (β p.id) rL b∧∀e es,rL≠ .arr e es true:=by
 cases h with
 | var h=>exact ⟨_,h,.root (by simp) (ho.flat (by simp)),by simp⟩
 | arr h=>exact ⟨_,h,.root (by simp) (ho.flat (by simp)),by simp⟩
 | map h=>exact ⟨_,h,.root (by simp) (ho.flat (by simp)),by simp⟩
 | nest h=>
  refine ⟨_,h,?_,by simp⟩
  cases ho with
  | root _ hb=>exact .root (by simp) hb
  | row hb ha=>exact .row hb ha
 | row h hb ha _ _ _ _ _=>
  have:=ho.flat (by simp)
  cases this
  exact ⟨_,h,.row hb ha,by simp⟩
theorem aC.aa3 (S:aC P w I β hp B M w0) {id b:Nat} {blk:ai} (ab:hp id=some blk) (ho:bh P w (β id) blk b) (hf: ∀e es,blk≠ .arr e es true): ∀j,¬I b j:=by
 have hr:=S.h.rel id blk ab
 generalize β id=o at hr ho
 cases hr with
 | var hb _ _ hI _ _=>have:=ho.flat (by simp);rw[hb] at this;cases this;exact hI
 | dJ hb=>have:=ho.flat (by simp);rw[hb] at this;cases this
 | @arr e es fz _ _ _ hb _ _ _ dP _=>
  have:=ho.flat (by simp)
  rw[hb] at this;cases this
  cases fz with
  | true=>exact absurd rfl (hf e es)
  | false=>exact dP rfl
 | dead=>exact absurd rfl ho.alive
 | map _ hb _ _ hI _ _=>have:=ho.flat (by simp);rw[hb] at this;cases this;exact hI
 | fL hb=>cases ho<;>simp_all
 | nest hb hr _=>
  cases ho with
  | root _ az=>rw[hb] at az;cases az;exact (hr _ _ _ _ .here).nI
  | row az ha=>rw[hb] at az;cases az;exact (hr _ _ _ _ ha).nI
theorem F2 {a b:List Nat} (h:xk a b=false) {x:Nat} (ha:x∈a):x∉b:=by
 intro hb
 unfold xk at h
 rw[List.any_eq_false] at h
 exact h x ha (xG hb)
theorem aa4 (S:aC P w I β hp B M w0) {pl:List Place} {upd:List (Nat × ai)} {o:Nat→Option Nat} (jv:(pl.map Place.id).Nodup) (F3:xk (upd.map (·.1)) (pl.map Place.id)=false)
  (hl: ∀j blk,hp0 j=some blk→∃p,eD pl j=some p∧ez P w β hp p (o j) blk)
  (cJ:(∀j blk,hp0 j=some blk→∀b,bh P w (o j) blk b→∀j,¬jo P w I β hp upd b j)→∀j blk,hp0 j=some blk→eb P w (jo P w I β hp upd) o hp0 (o j) blk) (aJ: ∀b j,jo P w I β hp upd b j→b<w.heap.size):
  uL P w (jo P w I β hp upd) o hp0 w.heap.size (pg P w o hp0):=by
 have cW: ∀j blk,hp0 j=some blk→∀b,bh P w (o j) blk b→∀j,¬jo P w I β hp upd b j:=by
  intro j blk hj b ho jj hI
  obtain ⟨p,bz,ey⟩:=hl j blk hj
  obtain ⟨rL,k1,k2,k3⟩:=ey.vm ho
  rcases hI with hI|⟨q,hq,cv,q1,q2⟩
  ·exact S.aa3 k1 k2 k3 jj hI
  ·have:=S.h.inj _ _ _ _ b q1 k1 q2.own k2
   refine F2 F3 (gT.2 ⟨q,hq,rfl⟩) ?_
   rw[this]
   rw[mC] at bz
   exact gT.2 ⟨p,jg bz,rfl⟩
 refine ⟨cJ cW,fun j1 j2 b1 b2 b h1 U o1 o2=> ?_,fun j blk b h1 o1=> .inl ⟨j,blk,h1,o1⟩,aJ⟩
 obtain ⟨p1,q1,q2⟩:=hl j1 b1 h1
 obtain ⟨p2,r1,r2⟩:=hl j2 b2 U
 obtain ⟨c1,x1,x2,_⟩:=q2.vm o1
 obtain ⟨c2,y1,y2,_⟩:=r2.vm o2
 have ab:=S.h.inj _ _ _ _ b x1 y1 x2 y2
 rw[mC] at q1 r1
 have m1:(pl.map Place.id)[j1]? =some p1.id:=by rw[e7,q1];rfl
 have m2:(pl.map Place.id)[j2]? =some p2.id:=by rw[e7,r1];rfl
 rw[←ab] at m2
 obtain ⟨z1,z2⟩:=bm.1 m1
 obtain ⟨z3,z4⟩:=bm.1 m2
 exact (List.getElem_inj jv).1 (z2.trans z4.symm)
def RO:V→Prop
 | .list .. =>False
 | .pref .. =>False
 | .agg _=>False
 | .bn _=>False
 | .fn .. =>False
 | _=>True
theorem ak.free {v:Value} {x:V} (h:ak P w I β hp v x) (hx:RO x):ak P w I' β hp v x:=by
 cases h with
 | undef=>exact .undef
 | int=>exact .int
 | bool=>exact .bool
 | str h=>exact .str h
 | list h=>exact hx.elim
 | nilS=>exact .nilS
 | agg=>exact hx.elim
 | bn=>exact hx.elim
 | dH=>exact .dH
 | fn=>exact hx.elim
 | pref=>exact hx.elim
 | dI h=>exact .dI h
 | gE h=>exact .gE h
 | kP h=>exact .kP h
 | dw h hb=>exact .dw h hb
 | whole h hb a b c=>exact .whole h hb a b c
 | di h hb a b c=>exact .di h hb a b c
 | dB h hb=>exact .dB h hb
 | gn h hb=>exact .gn h hb
 | sub h hb a b c=>exact .sub h hb a b c
 | ptr h hd hb=>exact .ptr h hd hb
 | j8 h rE=>exact .j8 h rE
 | j9 h rE=>exact .j9 h rE
 | row h hb a b c d=>exact .row h hb a b c d
 | cX h hb a b c d e=>exact .cX h hb a b c d e
 | dV=>exact .dV
 | iW h=>exact .iW h
 | cQ h hb=>exact .cQ h hb
theorem Bx {l:LS} {ds:List V} (hs:l.safe=true):RO (ji l ds):=by
 cases l<;>simp only[LS.safe] at hs<;>first|(cases hs;done)|trivial
theorem By: ∀{ls:List LS} {ds:List V} {j:Nat} {y:V},(iS ls ds)[j]? =some y→∃l fQ,l∈ls∧y=ji l fQ
 | [],ds,j,y,h=>by simp[iS] at h
 | l::ls,ds,j,y,h=>by
  simp only[iS] at h
  cases j with
  | zero=>simp at h;exact ⟨l,ds,sE ..,h.symm⟩
  | succ j=>
   obtain ⟨l',fQ,h1,U⟩:=By (j:=j) (by simpa using h)
   exact ⟨l',fQ,lZ _ h1,U⟩
theorem RP: ∀{ls:List VS} {ds:List V} {j:Nat} {y:V},(fY ls ds)[j]? =some y→∃l fQ,l∈ls∧y=lC l fQ
 | [],ds,j,y,h=>by simp[fY] at h
 | l::ls,ds,j,y,h=>by
  simp only[fY] at h
  cases j with
  | zero=>simp at h;exact ⟨l,ds,sE ..,h.symm⟩
  | succ j=>
   obtain ⟨l',fQ,h1,U⟩:=RP (j:=j) (by simpa using h)
   exact ⟨l',fQ,lZ _ h1,U⟩
theorem RQ {s:VS} {ds:List V} {v:Value} (h:ak P w I β hp v (lC s ds)) (hs:s.safe=true):ak P w I' β hp v (lC s ds):=by
 cases s with
 | one l=>exact h.free (Bx hs)
 | agg ls=>
  simp only[lC] at h⊢
  obtain ⟨cs,rfl,e1,e2⟩:=h.kb
  refine .agg e1 fun j v x hj hx=> ?_
  obtain ⟨l,fQ,k1,rfl⟩:=By hx
  exact (e2 j v _ hj hx).free (Bx (fy.1 hs l k1))
 | bn ls=>
  simp only[lC] at h⊢
  obtain ⟨cs,rfl,e1,e2⟩:=h.uW
  refine .bn e1 fun j v x hj hx=> ?_
  obtain ⟨l,fQ,k1,rfl⟩:=By hx
  exact (e2 j v _ hj hx).free (Bx (fy.1 hs l k1))
 | fn f a b=>
  simp only[VS.safe,aO] at hs
  simp only[lC] at h⊢
  cases h with
  | fn a1 a2 b1 b2=>
   refine .fn a1 (fun j v x hj hx=> ?_) b1 (fun j v x hj hx=> ?_)
   ·obtain ⟨l,fQ,k1,rfl⟩:=By hx
    exact (a2 j v _ hj hx).free (Bx (fy.1 hs.1 l k1))
   ·obtain ⟨l,fQ,k1,rfl⟩:=By hx
    exact (b2 j v _ hj hx).free (Bx (fy.1 hs.2 l k1))
 | pref ts ls=>cases hs
theorem Pure.scalar {t:TypeId} {v:Value} {x:V} (h:Pure P w I t v x) (hn: ∀e,P.underlying t≠some (.slice e)):Pure P w I' t v x:=by
 cases h with
 | int h=>exact .int h
 | bool h=>exact .bool h
 | str h hl=>exact .str h hl
 | nil h=>exact absurd h (hn _)
 | emp h=>exact absurd h (hn _)
 | list g h=>exact absurd h (hn _)
theorem aa5 {e t:TypeId} {j:Nat} (h:Aw P e=true) (ht:(aW P e)[j]? =some t) (e':TypeId):P.underlying t≠some (.slice e'):=by
 intro hu
 have U:=fy.1 h t (jg ht)
 rw[hu] at U
 cases U
theorem aa6 {o:Option Nat} {b:BS} {ds:List V} (h:eb P w I2 β hp o (gk b ds)) (hs:b.safe P=true) (hi: ∀b j,I b j→I2 b j):eb P w I β hp o (gk b ds):=by
 cases b with
 | dead=>exact .dead
 | var T0 ls=>
  simp only[gk] at h⊢
  cases h with
  | var hb hh aU hI hx gb=>
   refine .var hb hh aU (fun j h=>hI j (hi _ j h)) (fun j v x hj cU=> ?_) gb
   obtain ⟨l,fQ,k1,rfl⟩:=RP cU
   exact RQ (hx j v _ hj cU) (fy.1 hs l k1)
 | arr e fz=>
  simp only[BS.safe,aO,kJ] at hs
  obtain ⟨rfl,Bw⟩:=hs
  simp only[gk] at h⊢
  generalize (V.nth ds 0).toList=es at h⊢
  cases h with
  | dJ hb=>exact .dJ hb
  | arr a1 a2 a3 a4 a5 a6 a7=>
   refine .arr a1 a2 a3 a4 (fun h=>by cases h) (fun _ j h=>a6 rfl j (hi _ j h)) fun i j x t' y1 y2 y3=> ?_
   obtain ⟨v,z1,z2⟩:=a7 i j x t' y1 y2 y3
   exact ⟨v,z1,z2.scalar (aa5 Bw y2)⟩
 | nest e=>
  simp only[gk] at h⊢
  generalize (V.nth ds 0).toList=es at h⊢
  cases h with
  | fL hb=>exact .fL hb
  | nest hb cO mw=>
   refine .nest hb (fun q b' e1 m1 hq=> ?_) mw
   obtain ⟨ok,⟨Ca,c1,c2,c3⟩,nI⟩:=cO q b' e1 m1 hq
   refine ⟨ok,⟨Ca,c1,c2,fun i j x t' y1 y2 y3=> ?_⟩,fun j h=>nI j (hi _ j h)⟩
   obtain ⟨v,z1,z2⟩:=c3 i j x t' y1 y2 y3
   refine ⟨v,z1,?_⟩
   generalize bR P e1 x j=y at z2⊢
   cases z2 with
   | fB a p=>
    refine .fB a (p.scalar fun e hu=> ?_)
    unfold eu at a
    rw[hu] at a
    cases a
   | emp a b=>exact .emp a b
   | row a b c d e=>exact .row a b c d e
 | map t=>
  simp only[gk] at h⊢
  cases h with
  | map a1 a2 a3 a4 a5 a6 a7=>exact .map a1 a2 a3 a4 (fun j h=>a5 j (hi _ j h)) a6 a7
theorem KH: ∀{l:List BS} {ds:List V} {j:Nat} {y:ai},(e9 l ds)[j]? =some y→∃b fQ,l[j]? =some b∧y=gk b fQ
 | [],ds,j,y,h=>by simp[e9] at h
 | b::l,ds,j,y,h=>by
  simp only[e9] at h
  cases j with
  | zero=>simp at h;exact ⟨b,ds,rfl,h.symm⟩
  | succ j=>
   obtain ⟨b',fQ,h1,U⟩:=KH (j:=j) (by simpa using h)
   exact ⟨b',fQ,by simpa using h1,U⟩
theorem RR: ∀{l:List (Nat × VS)} {ds:List V} {q:Nat × V},q∈fK l ds→∃s fQ,(q.1,s)∈l∧q.2=lC s fQ
 | [],ds,q,h=>by simp[fK] at h
 | (k,s)::l,ds,q,h=>by
  simp only[fK,dO] at h
  rcases h with h|h
  ·subst h;exact ⟨s,ds,sE ..,rfl⟩
  ·obtain ⟨s',fQ,h1,U⟩:=RR h
   exact ⟨s',fQ,lZ _ h1,U⟩
theorem aa7 {S:Shape} {es:List V} (hs:S.safe P=true) (hi: ∀b j,I b j→I2 b j) {N:Nat→Prop} {st:Start} (h:aC P w' I2 cm (bG S es).hp B N st) (h0: ∀b j,I b j→st.I b j):
  aC P w' I cm (bG S es).hp B N st∧∀v,ak P w' I2 cm (bG S es).hp v (qd (fK S.cd es))→ak P w' I cm (bG S es).hp v (qd (fK S.cd es)):=by
 unfold Shape.safe at hs
 simp only[aO] at hs
 obtain ⟨iz,lI⟩:=hs
 have one: ∀q∈fK S.cd es,∀v,ak P w' I2 cm (bG S es).hp v q.2→ak P w' I cm (bG S es).hp v q.2:=by
  intro q hq v hv
  obtain ⟨s,fQ,k1,k2⟩:=RR hq
  rw[k2] at hv⊢
  exact RQ hv (fy.1 iz _ k1)
 refine ⟨⟨⟨fun j blk hj=> ?_,h.h.inj,h.h.own,fun b j hb=>h.h.gF b j (hi b j hb)⟩,h.cx,h.size,fun b j hb=> .inl (h0 b j hb),h.io⟩,fun v hv=> ?_⟩
 ·have hr:=h.h.rel j blk hj
  have gZ:=hj
  simp only[bG,mk,iI] at gZ
  obtain ⟨b,fQ,k1,rfl⟩:=KH gZ
  exact aa6 hr (fy.1 lI _ (jg k1)) hi
 ·generalize fK S.cd es=l at one hv⊢
  match l,one,hv with
  | [],_,hv=>
   simp only[qd,fJ] at hv⊢
   obtain ⟨cs,rfl,e1,e2⟩:=hv.uW
   exact .bn e1 fun j v x _ hx=>by simp at hx
  | [q],one,hv=>exact one q (eH.2 rfl) v hv
  | q::q2::l,one,hv=>
   simp only[qd] at hv⊢
   obtain ⟨cs,rfl,e1,e2⟩:=hv.uW
   refine .bn e1 fun j v x hj hx=> ?_
   obtain ⟨y,hy,rfl⟩:=gT.1 (jg hx)
   exact one y hy v (e2 j v _ hj hx)
end
section
variable {P:Program} {A:cT} {w w':World} {I I' I2:Nat→Nat→Prop} {μ β β' cm:Nat→Option Nat} {hp hp' hp0 bz:Nat→Option ai} {C:ah} {B:Nat} {M:Nat→Prop} {w0:Start}
inductive gK (σ:List Place):ai→ai→Prop
 | dead:gK σ .dead .dead
 | var {T:TypeId} {cs:List V}:gK σ (.var T cs) (.var T (cs.map (E2 σ)))
 | arr {e:TypeId} {es:List V} {fz:Bool}:gK σ (.arr e es fz) (.arr e es fz)
 | nest {e:TypeId} {es:List V} {v1 v2:List Nat}:gK σ (.nest e es v1) (.nest e es v2)
 | map {t:TypeId} {es:List V}:gK σ (.map t es) (.map t es)
theorem gK.of (σ:List Place) (b:ai):gK σ b (uG σ b):=by
 cases b with
 | dead=>exact .dead
 | var T cs=>exact .var
 | arr e es fz=>exact .arr
 | nest e es v=>exact .nest
 | map t es=>exact .map
theorem RS {σ:List Place}: ∀{pl:List Place} {bs:List ai} {acc:List (Nat × ai)} {k:List (Nat × ai)→Rd R} {r:R} {rd:List Nat},(ra σ pl bs acc k).run C hp=some (r,rd)→
  pl.length≤bs.length∧∃bk fq,(k bk).run C hp=some (r,fq)∧(∀q∈bk,q∈acc∨∃(j:Nat) (b:ai),pl[j]? =some (.blk q.1)∧bs[j]? =some b∧gK σ b q.2∧((∃e es v2,q.2= .nest e es v2)→∃e es vers e' aN,hp q.1=some (.nest e es vers)∧q.2= .nest e' aN (vers.map (· +1))))∧
   (∀q∈acc,q∈bk)∧∀(j:Nat) p,pl[j]? =some p→∃id b,p= .blk id∧(id,b)∈bk
 | [],bs,acc,k,r,rd,h=>⟨oN _,acc,rd,by simpa only[ra] using h,fun q hq=> .inl hq,fun q hq=>hq,fun j p hp=>by simp at hp⟩
 | .row _ _ _::pl,bs,acc,k,r,rd,h=>by
  cases bs<;>(simp only[ra] at h;cases h)
 | .blk id::pl,[],acc,k,r,rd,h=>by simp only[ra] at h;cases h
 | .blk id::pl,b::bs,acc,k,r,rd,h=>by
  have fin: ∀{b2:ai} {jR:List Nat},(ra σ pl bs ((id,b2)::acc) k).run C hp=some (r,jR)→gK σ b b2→((∃e es v2,b2= .nest e es v2)→∃e es vers e' aN,hp id=some (.nest e es vers)∧b2= .nest e' aN (vers.map (· +1)))→
    (Place.blk id::pl).length≤(b::bs).length∧∃bk fq,(k bk).run C hp=some (r,fq)∧(∀q∈bk,q∈acc∨∃(j:Nat) (b':ai),(Place.blk id::pl)[j]? =some (.blk q.1)∧(b::bs)[j]? =some b'∧gK σ b' q.2∧((∃e es v2,q.2= .nest e es v2)→∃e es vers e' aN,hp q.1=some (.nest e es vers)∧q.2= .nest e' aN (vers.map (· +1))))∧
     (∀q∈acc,q∈bk)∧∀(j:Nat) p,(Place.blk id::pl)[j]? =some p→∃id b,p= .blk id∧(id,b)∈bk:=by
   intro b2 jR h1 hb hn
   obtain ⟨a0,bk,fq,a1,a2,a3,a4⟩:=RS h1
   refine ⟨by simp only[List.length_cons];omega,bk,fq,a1,fun q hq=> ?_,fun q hq=>a3 q (lZ _ hq),fun j p hj=> ?_⟩
   ·rcases a2 q hq with h|⟨j,b',k1,k2,k3,k4⟩
    ·rcases dO.1 h with e|h
     ·subst e;exact .inr ⟨0,b,rfl,rfl,hb,hn⟩
     ·exact .inl h
    ·exact .inr ⟨j+1,b',by simpa using k1,by simpa using k2,k3,k4⟩
   ·cases j with
    | zero=>simp at hj;subst hj;exact ⟨id,b2,rfl,a3 _ (sE ..)⟩
    | succ j=>exact a4 j p (by simpa using hj)
  cases b with
  | nest e es v=>
   simp only[ra] at h
   obtain ⟨l,h⟩:=run_get h
   cases ab:hp id with
   | none=>rw[ab] at h;cases h
   | some blk=>
    rw[ab] at h
    cases blk with
    | nest e0 Jw vers=>exact fin h .nest fun _=>⟨e0,Jw,vers,e,es,ab,rfl⟩
    | _=>cases h
  | dead=>exact fin h (.of σ _) fun ⟨_,_,_,h⟩=>by cases h
  | var T cs=>exact fin h (.of σ _) fun ⟨_,_,_,h⟩=>by cases h
  | arr e es fz=>exact fin h (.of σ _) fun ⟨_,_,_,h⟩=>by cases h
  | map t es=>exact fin h (.of σ _) fun ⟨_,_,_,h⟩=>by cases h
theorem RT {σ:List Place}: ∀{bs:List ai} {n:Nat} {q:Nat × ai},q∈rb σ n bs→∃i b,bs[i]? =some b∧q=(n+i,uG σ b)
 | [],n,q,h=>by simp[rb] at h
 | b::bs,n,q,h=>by
  simp only[rb,dO] at h
  rcases h with h|h
  ·exact ⟨0,b,rfl,h⟩
  ·obtain ⟨i,b',h1,U⟩:=RT h
   exact ⟨i+1,b',by simpa using h1,by rw[U];congr 1;omega⟩
theorem RU {σ:List Place}: ∀{bs:List ai} {n i:Nat} {b:ai},bs[i]? =some b→(n+i,uG σ b)∈rb σ n bs
 | [],n,i,b,h=>by simp at h
 | b0::bs,n,i,b,h=>by
  simp only[rb,dO]
  cases i with
  | zero=>simp at h;subst h;exact .inl rfl
  | succ i=>exact .inr (by rw[show n+(i+1)=n+1+i by omega];exact RU (by simpa using h))
theorem F4: ∀{k n i:Nat},i<k→(sR n k)[i]? =some (.blk (n+i))
 | 0,n,i,h=>by omega
 | k+1,n,0,h=>rfl
 | k+1,n,i+1,h=>by
  simp only[sR,List.getElem?_cons_succ]
  rw[F4 (by omega)]
  congr 2
  omega
theorem KI: ∀{k n:Nat},(sR n k).length=k
 | 0,_=>rfl
 | k+1,n=>by simp[sR,KI]
theorem RV: ∀{bs:List (Nat × ai)} {k:Rd R} {r:R} {rd:List Nat},(E3 bs k).run C hp=some (r,rd)→(∀q∈bs,hp q.1=none)∧∃fq,k.run C hp=some (r,fq)
 | [],k,r,rd,h=>⟨by simp,rd,h⟩
 | (id,b)::l,k,r,rd,h=>by
  simp only[E3] at h
  obtain ⟨l1,h⟩:=run_get h
  cases ab:hp id with
  | some blk=>rw[ab] at h;cases h
  | none=>
   rw[ab] at h
   obtain ⟨h1,U⟩:=RV h
   refine ⟨fun q hq=> ?_,U⟩
   rcases dO.1 hq with e|hq
   ·subst e;exact ab
   ·exact h1 q hq
structure qq (σ:List Place) (cm:Nat→Option Nat) (bz:Nat→Option ai) (β':Nat→Option Nat) (hp':Nat→Option ai):Prop where
 blk: ∀j b,bz j=some b→∃id b',eD σ j=some (.blk id)∧hp' id=some b'∧gK σ b b'∧(b≠ .dead→β' id=cm j)
 none: ∀j,bz j=none→eD σ j=none
 alQ: ∀j id ver path,eD σ j≠some (.row id ver path)
theorem qq.leaf {σ:List Place} (T:qq σ cm bz β' hp') {v:Value} {x:V} (h:ak P w I cm bz v x):ak P w I β' hp' v (j5 σ x):=by
 have look: ∀{j b},bz j=some b→∃id b',eD σ j=some (.blk id)∧hp' id=some b'∧gK σ b b'∧(b≠ .dead→β' id=cm j):=fun h=>T.blk _ _ h
 cases h with
 | undef=>exact .undef
 | int=>exact .int
 | bool=>exact .bool
 | str h=>exact .str h
 | list h=>exact .list h
 | nilS=>exact .nilS
 | agg=>exact .undef
 | bn=>exact .undef
 | dH=>exact .dH
 | fn=>exact .undef
 | pref a b c=>exact .pref a b c
 | @dI _ e j h=>
  obtain ⟨id,b',k1,k2,k3,k4⟩:=look h
  simp only[j5,k1]
  cases k3
  exact .dI k2
 | @gE _ e j _ _ h=>
  obtain ⟨id,b',k1,k2,k3,k4⟩:=look h
  simp only[j5,k1]
  cases k3
  exact .gE k2
 | @kP _ j _ _ h=>
  obtain ⟨id,b',k1,k2,k3,k4⟩:=look h
  simp only[j5,k1]
  cases k3
  exact .kP k2
 | @dw e j fz _ h hb=>
  obtain ⟨id,b',k1,k2,k3,k4⟩:=look h
  simp only[j5,k1]
  cases k3
  exact .dw k2 ((k4 (by simp)).trans hb)
 | @whole e j es fz b cap h hb a1 a2 a3=>
  obtain ⟨id,b',k1,k2,k3,k4⟩:=look h
  simp only[j5,k1]
  cases k3
  exact .whole k2 ((k4 (by simp)).trans hb) a1 a2 a3
 | @di e j es vers b cap h hb a1 a2 a3=>
  obtain ⟨id,b',k1,k2,k3,k4⟩:=look h
  simp only[j5,k1]
  cases k3
  exact .di k2 ((k4 (by simp)).trans hb) a1 a2 a3
 | @dB e j vers _ h hb=>
  obtain ⟨id,b',k1,k2,k3,k4⟩:=look h
  simp only[j5,k1]
  cases k3
  exact .dB k2 ((k4 (by simp)).trans hb)
 | @gn e j fz _ h hb=>
  obtain ⟨id,b',k1,k2,k3,k4⟩:=look h
  simp only[j5,k1]
  cases k3
  exact .gn k2 ((k4 (by simp)).trans hb)
 | @sub e j off len es fz b o cap h hb a1 a2 a3=>
  obtain ⟨id,b',k1,k2,k3,k4⟩:=look h
  simp only[j5,k1]
  cases k3
  exact .sub k2 ((k4 (by simp)).trans hb) a1 a2 a3
 | @ptr j i c b blk h hd hb=>
  obtain ⟨id,b',k1,k2,k3,k4⟩:=look h
  simp only[j5,k1]
  have hs:blk.sz P=b'.sz P:=by cases k3<;>rfl
  rw[hs]
  exact .ptr k2 (by intro e;subst e;cases k3;exact hd rfl) ((k4 hd).trans hb)
 | j8=>exact .undef
 | j9=>exact .undef
 | row=>exact .undef
 | cX=>exact .undef
 | dV=>exact .dV
 | @iW _ t j h=>
  obtain ⟨id,b',k1,k2,k3,k4⟩:=look h
  simp only[j5,k1]
  cases k3
  exact .iW k2
 | @cQ t j b es h hb=>
  obtain ⟨id,b',k1,k2,k3,k4⟩:=look h
  simp only[j5,k1]
  cases k3
  exact .cQ k2 ((k4 (by simp)).trans hb)
theorem qq.one {σ:List Place} (T:qq σ cm bz β' hp') {v:Value} {x:V} (h:ak P w I cm bz v x):ak P w I β' hp' v (Jn σ x):=by
 cases x with
 | agg xs=>
  obtain ⟨cs,rfl,e1,e2⟩:=h.kb
  exact .agg (by simpa using e1) fun j v y hj hy=>by
   rw[e7] at hy
   cases hx:xs[j]? with
   | none=>rw[hx] at hy;cases hy
   | some x=>rw[hx] at hy;cases hy;exact T.leaf (e2 j v x hj hx)
 | fn f a b=>
  cases h with
  | fn a1 a2 b1 b2=>
   refine .fn (by simpa using a1) (fun j v y hj hy=> ?_) (by simpa using b1) (fun j v y hj hy=> ?_)
   ·rw[e7] at hy
    cases hx:a[j]? with
    | none=>rw[hx] at hy;cases hy
    | some x=>rw[hx] at hy;cases hy;exact T.leaf (a2 j v x hj hx)
   ·rw[e7] at hy
    cases hx:b[j]? with
    | none=>rw[hx] at hy;cases hy
    | some x=>rw[hx] at hy;cases hy;exact T.leaf (b2 j v x hj hx)
 | _=>exact T.leaf h
theorem qq.val {σ:List Place} (T:qq σ cm bz β' hp') {v:Value} {x:V} (h:ak P w I cm bz v x):ak P w I β' hp' v (E2 σ x):=by
 cases x with
 | bn xs=>
  obtain ⟨cs,rfl,e1,e2⟩:=h.uW
  exact .bn (by simpa using e1) fun j v y hj hy=>by
   rw[e7] at hy
   cases hx:xs[j]? with
   | none=>rw[hx] at hy;cases hy
   | some x=>rw[hx] at hy;cases hy;exact T.one (e2 j v x hj hx)
 | _=>exact T.one h
theorem qq.RW {σ:List Place} (T:qq σ cm bz β' hp') {o:Option Nat} {b b':ai} (h:eb P w I cm bz o b) (hb:gK σ b b'):eb P w I β' hp' o b':=by
 cases hb with
 | dead=>exact .dead
 | var=>
  cases h with
  | var a1 a2 a3 a4 a5 a6=>
   refine .var a1 a2 (by simpa using a3) a4 (fun j v y hj hy=> ?_) a6
   rw[e7] at hy
   cases hx:(_:List V)[j]? with
   | none=>rw[hx] at hy;cases hy
   | some x=>rw[hx] at hy;cases hy;exact T.val (a5 j v x hj hx)
 | arr=>
  cases h with
  | dJ hb=>exact .dJ hb
  | arr a1 a2 a3 a4 a5 a6 a7=>exact .arr a1 a2 a3 a4 a5 a6 a7
 | nest=>
  cases h with
  | nest a1 a2 a3=>exact .nest a1 a2 a3
  | fL a1=>exact .fL a1
 | map=>
  cases h with
  | map a1 a2 a3 a4 a5 a6 a7=>exact .map a1 a2 a3 a4 a5 a6 a7
theorem gK.vm {σ:List Place} {o:Option Nat} {b b':ai} (h:gK σ b b') {m:Nat} (ho:bh P w o b' m):bh P w o b m:=by
 cases h with
 | dead=>exact absurd rfl ho.alive
 | var=>exact .root (by simp) (ho.flat (by simp))
 | arr=>exact .root (by simp) (ho.flat (by simp))
 | map=>exact .root (by simp) (ho.flat (by simp))
 | nest=>
  cases ho with
  | root _ hb=>exact .root (by simp) hb
  | row hb ha=>exact .row hb ha
theorem gK.RX {σ:List Place} {b b':ai} (h:gK σ b b'):b'≠ .dead→b≠ .dead:=by
 intro h1 U;subst U;cases h;exact h1 rfl
end
section
variable {P:Program} {A:cT} {w w':World} {I I' I2:Nat→Nat→Prop} {μ β β' cm:Nat→Option Nat} {hp hp' hp0 bz:Nat→Option ai} {C:ah} {B:Nat} {M:Nat→Prop} {w0:Start}
theorem RY: ∀{vs:List Nat} {k:Nat},k<vs.length→bO (vs.map (· +1)) k=bO vs k+1
 | [],k,h=>by simp at h
 | v::vs,0,h=>rfl
 | v::vs,k+1,h=>by simp only[cM,bO];exact RY (by simpa using h)
theorem RZ: ∀{vs:List Nat} {k:Nat},bO vs k≤bO (vs.map (· +1)) k
 | [],k=>by simp[bO]
 | v::vs,0=>by simp[bO]
 | v::vs,k+1=>by simp only[cM,bO];exact RZ
def Bz (hp:Nat→Option ai) (q:Nat × ai):Prop:=(∃e es v2,q.2= .nest e es v2)→∃e es vers e' aN,hp q.1=some (.nest e es vers)∧q.2= .nest e' aN (vers.map (· +1))
theorem ez.KJ {id:Nat} {o:Option Nat} {blk:ai} (h:ez P w β hp (.blk id) o blk):o=β id∧∃b0,hp id=some b0∧b0≠ .dead:=by
 cases h with
 | var h=>exact ⟨rfl,_,h,by simp⟩
 | arr h=>exact ⟨rfl,_,h,by simp⟩
 | nest h=>exact ⟨rfl,_,h,by simp⟩
 | map h=>exact ⟨rfl,_,h,by simp⟩
theorem ez.aa8 {id:Nat} {o:Option Nat} {c b b' b0:ai} {σ:List Place} (h:ez P w β hp (.blk id) o c) (h0:hp id=some b0) (hle:c.le b) (hb:gK σ b b') (hn:Bz hp (id,b')):b0.le b':=by
 cases h with
 | var h=>
  rw[h] at h0;cases h0
  cases hb with
  | dead=>trivial
  | var=>trivial
  | arr=>exact hle.elim
  | nest=>exact hle.elim
  | map=>exact hle.elim
 | arr h=>
  rw[h] at h0;cases h0
  cases hb with
  | dead=>trivial
  | var=>exact hle.elim
  | arr=>exact hle
  | nest=>exact hle.elim
  | map=>exact hle.elim
 | map h=>
  rw[h] at h0;cases h0
  cases hb with
  | dead=>trivial
  | map=>exact hle
  | _=>exact hle.elim
 | nest h=>
  rw[h] at h0;cases h0
  cases hb with
  | dead=>trivial
  | var=>exact hle.elim
  | arr=>exact hle
  | map=>exact hle.elim
  | @nest e es v1 v2=>
   obtain ⟨e1,cF,s7,e2,ct,k1,k2⟩:=hn ⟨_,_,_,rfl⟩
   cases k2
   change hp id=_ at k1
   rw[h] at k1;cases k1
   exact ⟨hle.1,hle.2.1,by simp,fun k=>RZ⟩
theorem ez.other {p:Place} {o:Option Nat} {blk:ai} (h:ez P w β hp p o blk) (he:hp' p.id=hp p.id):ez P w β hp' p o blk:=by
 cases h with
 | var h=>exact .var (he.trans h)
 | arr h=>exact .arr (he.trans h)
 | nest h=>exact .nest (he.trans h)
 | map h=>exact .map (he.trans h)
 | row h a b c d e f g=>exact .row (he.trans h) a b c d e f g
open Classical in
theorem R0 (S:aC P w I β hp B M w0) {pl:List Place} {o:Nat→Option Nat} {bs:List ai} {nb:Nat} {bk fr:List (Nat × ai)} {σ:List Place} (rM:σ=pl++sR nb (bs.length-pl.length)) (BA:fr=rb σ nb (bs.drop pl.length))
  (jv:(pl.map Place.id).Nodup) (ry:pl.length≤bs.length)
  (qs: ∀(j:Nat) p,pl[j]? =some p→∃id b,p= .blk id∧(id,b)∈bk) (F5: ∀q∈bk,∃(j:Nat) (b:ai),pl[j]? =some (.blk q.1)∧bs[j]? =some b∧gK σ b q.2∧Bz hp q)
  (hl: ∀j blk,hp0 j=some blk→∃p,eD pl j=some p∧ez P w β hp p (o j) blk) (hd: ∀j,j<pl.length→∃blk,hp0 j=some blk)
  (Sc:aC P w' I2 cm (j6 bs) w.heap.size (pg P w o hp0) ⟨w,I⟩) (xY:lJ w I o hp0 w' I2 cm (j6 bs)) (tk: ∀q∈fr,hp q.1=none):
  ∃β',Le P w I β hp w' I2 β' (bW hp (fr++bk))∧aC P w' I2 β' (bW hp (fr++bk)) B M w0∧qq σ cm (j6 bs) β' (bW hp (fr++bk)):=by
 generalize KK:bW hp (fr++bk)=ey
 let β':Nat→Option Nat:=fun n=>if∃q∈fr,q.1=n then cm (pl.length+(n-nb)) else β n
 have R3: ∀(j:Nat) id,pl[j]? =some (.blk id)→∃c,hp0 j=some c∧ez P w β hp (.blk id) (o j) c:=by
  intro j id hj
  obtain ⟨c,hc⟩:=hd j (bm.1 hj).1
  obtain ⟨p,h1,U⟩:=hl j c hc
  rw[mC,hj] at h1
  cases h1
  exact ⟨c,hc,U⟩
 have uniq: ∀(j1 j2:Nat) id,pl[j1]? =some (.blk id)→pl[j2]? =some (.blk id)→j1=j2:=by
  intro j1 j2 id h1 U
  have m1:(pl.map Place.id)[j1]? =some id:=by rw[e7,h1];rfl
  have m2:(pl.map Place.id)[j2]? =some id:=by rw[e7,U];rfl
  obtain ⟨z1,z2⟩:=bm.1 m1
  obtain ⟨z3,z4⟩:=bm.1 m2
  exact (List.getElem_inj jv).1 (z2.trans z4.symm)
 have cls: ∀id,(∃i b,id=nb+i∧bs[pl.length+i]? =some b∧ey id=some (uG σ b)∧hp id=none∧β' id=cm (pl.length+i))∨
   (∃(j:Nat) (b b' c b0:ai),pl[j]? =some (.blk id)∧bs[j]? =some b∧hp0 j=some c∧ez P w β hp (.blk id) (o j) c∧hp id=some b0∧b0.le b'∧ey id=some b'∧gK σ b b'∧Bz hp (id,b')∧β' id=β id∧c.le b∧(b≠ .dead→cm j=β id))∨
   (ey id=hp id∧(∀j:Nat,pl[j]? ≠some (.blk id))∧β' id=β id):=by
  intro id
  by_cases hm: ∃b,(id,b)∈fr++bk
  ·obtain ⟨b,hm⟩:=hm
   obtain ⟨b',Fl,he⟩:=Fi (hp:=hp) hm
   rw[KK] at he
   rcases eZ.1 Fl with h|h
   ·have h0:=tk _ h
    have ph:β' id=cm (pl.length+(id-nb)):=aj ⟨_,h,rfl⟩
    rw[BA] at h
    obtain ⟨i,b1,k1,k2⟩:=RT h
    rw[iP] at k1
    cases k2
    exact .inl ⟨i,b1,rfl,k1,he,h0,by rw[ph];congr 2;omega⟩
   ·obtain ⟨j,b1,q1,q2,q3,q4⟩:=F5 _ h
    obtain ⟨c,c1,c2⟩:=R3 j id q1
    obtain ⟨c3,b0,c4,c5⟩:=c2.KJ
    obtain ⟨b2,d1,d2,d3⟩:=xY.blk j c c1
    rw[iI,q2] at d1
    cases d1
    refine .inr (.inl ⟨j,b1,b',c,b0,q1,q2,c1,c2,c4,c2.aa8 c4 d2 q3 q4,he,q3,q4,an ?_,d2,fun h=>(d3 h).trans c3⟩)
    rintro ⟨q,hq,hqe⟩
    rw[←hqe,tk q hq] at c4
    cases c4
  ·refine .inr (.inr ⟨?_,fun j hj=> ?_,an ?_⟩)
   ·rcases uR (hp:=hp) (l:=fr++bk) (id:=id) with h|⟨b,hb,_⟩
    ·rw[KK] at h;exact h
    ·exact absurd ⟨b,hb⟩ hm
   ·obtain ⟨aw,b,e,hb⟩:=qs j _ hj
    cases e
    exact hm ⟨b,eZ.2 (.inr hb)⟩
   ·rintro ⟨q,hq,rfl⟩
    exact hm ⟨q.2,eZ.2 (.inl hq)⟩
 have R4: ∀b,pg P w o hp0 b→∃(j id:Nat) (b1:ai),pl[j]? =some (.blk id)∧hp id=some b1∧bh P w (β id) b1 b∧∀e es,b1≠ .arr e es true:=by
  rintro b ⟨j,c,hc,ho⟩
  obtain ⟨p,h1,U⟩:=hl j c hc
  rw[mC] at h1
  obtain ⟨id,b2,rfl,_⟩:=qs j p h1
  obtain ⟨b1,k1,k2,k3⟩:=U.vm ho
  exact ⟨j,id,b1,h1,k1,k2,k3⟩
 have other: ∀id blk b,hp id=some blk→bh P w (β id) blk b→(∀j:Nat,pl[j]? ≠some (.blk id))→¬pg P w o hp0 b∧w'.heap[b]? =w.heap[b]? ∧(∀j,I2 b j→I b j):=by
  intro id blk b e1 e3 e4
  have nn: ¬pg P w o hp0 b:=by
   intro hx
   obtain ⟨j,aw,b1,i1,i2,i3,_⟩:=R4 b hx
   have:=S.h.inj id aw _ _ b e1 i2 e3 i3
   subst this
   exact e4 j i1
  have aJ:=S.h.lt e1 e3
  refine ⟨nn,Sc.cx b aJ nn,fun j h=> ?_⟩
  rcases Sc.new b j h with h|h|h
  ·exact h
  ·exact absurd h nn
  ·omega
 have tc:qq σ cm (j6 bs) β' ey:=by
  refine ⟨fun j b hj=> ?_,fun j hj=> ?_,fun j id ver path hj=> ?_⟩
  ·rw[iI] at hj
   by_cases b9:j<pl.length
   ·obtain ⟨id,b1,e,mz⟩:=qs j _ (bA b9)
    have F6:pl[j]? =some (.blk id):=by rw[bA b9,e]
    have KL:eD σ j=some (.blk id):=by rw[rM];exact pf (by rw[mC];exact F6)
    rcases cls id with ⟨i,b2,c1,c2,c3,c4,c5⟩|⟨j',b2,b',c,b0,q1,q2,q3,q4,q5,q6,q7,q8,q9,qt,xZ,rN⟩|⟨c1,c2,c3⟩
    ·obtain ⟨c,d1,d2⟩:=R3 j id F6
     obtain ⟨_,b0,d3,_⟩:=d2.KJ
     rw[d3] at c4;cases c4
    ·obtain rfl:=uniq _ _ _ q1 F6
     rw[hj] at q2;cases q2
     exact ⟨id,b',KL,q7,q8,fun h=>qt.trans (rN h).symm⟩
    ·exact absurd F6 (c2 j)
   ·have R5:=(bm.1 hj).1
    have KL:eD σ j=some (.blk (nb+(j-pl.length))):=by
     rw[rM,mC,ik (by omega)]
     exact F4 (by omega)
    have hm:(nb+(j-pl.length),uG σ b)∈fr:=by
     rw[BA]
     refine RU ?_
     rw[iP,show pl.length+(j-pl.length)=j by omega]
     exact hj
    rcases cls (nb+(j-pl.length)) with ⟨i,b2,c1,c2,c3,c4,c5⟩|⟨j',b2,b',c,b0,q1,q2,q3,q4,q5,q6,q7,q8,q9,qt,xZ,rN⟩|⟨c1,c2,c3⟩
    ·have hi:i=j-pl.length:=by omega
     subst hi
     rw[show pl.length+(j-pl.length)=j by omega] at c2 c5
     rw[hj] at c2;cases c2
     exact ⟨_,_,KL,c3,.of σ _,fun _=>c5⟩
    ·rw[tk _ hm] at q5;cases q5
    ·obtain ⟨b',Fl,he⟩:=Fi (hp:=hp) (l:=fr++bk) (eZ.2 (.inl hm))
     rw[KK,c1,tk _ hm] at he
     cases he
  ·rw[iI] at hj
   have:=List.getElem?_eq_none_iff.1 hj
   rw[rM,mC,List.getElem?_eq_none_iff,cg,KI]
   omega
  ·rw[rM,mC] at hj
   by_cases b9:j<pl.length
   ·rw[gi b9] at hj
    obtain ⟨aw,b1,e,_⟩:=qs j _ hj
    cases e
   ·have R5:j-pl.length<bs.length-pl.length:=by
     have:=(bm.1 hj).1
     rw[cg,KI] at this
     omega
    rw[ik (by omega),F4 R5] at hj
    cases hj
 have hle:Le P w I β hp w' I2 β' ey:=by
  refine ⟨xY.dC,xY.cx,fun id blk ab=> ?_,fun id blk blk' b ab bJ rO hb=> ?_,fun id e es vers e' aN vers' b q i c t v e1 l ab bJ hb aJ hv ht hc=> ?_⟩
  ·rcases cls id with ⟨i,b2,c1,c2,c3,c4,c5⟩|⟨j',b2,b',c,b0,q1,q2,q3,q4,q5,q6,q7,q8,q9,qt,xZ,rN⟩|⟨c1,c2,c3⟩
   ·rw[ab] at c4;cases c4
   ·rw[ab] at q5;cases q5
    exact ⟨b',q7,q6,fun _=>qt⟩
   ·exact ⟨blk,c1.trans ab,ai.le_refl _,fun _=>c3⟩
  ·rcases cls id with ⟨i,b2,c1,c2,c3,c4,c5⟩|⟨j',b2,b',c,b0,q1,q2,q3,q4,q5,q6,q7,q8,q9,qt,xZ,rN⟩|⟨c1,c2,c3⟩
   ·rw[ab] at c4;cases c4
   ·rw[q7] at bJ;cases bJ
    exact xY.size j' c b2 b q3 (by rw[iI];exact q2) (q8.RX rO) (q4.KJ.1.trans hb)
   ·rw[c1,ab] at bJ
    cases bJ
    simp only[bsize,(other id blk b ab (.root rO hb) c2).2.1]
  ·rcases cls id with ⟨i2,b2,c1,c2,c3,c4,c5⟩|⟨j',b2,b',c',b0,q1,q2,q3,q4,q5,q6,q7,q8,q9,qt,xZ,rN⟩|⟨c1,c2,c3⟩
   ·rw[ab] at c4;cases c4
   ·rw[q7] at bJ;cases bJ
    obtain ⟨_,_,s7,_,_,k1,k2⟩:=q9 ⟨_,_,_,rfl⟩
    change hp id=_ at k1
    rw[ab] at k1;cases k1
    cases k2
    rw[RY aJ] at hv
    omega
   ·rw[c1,ab] at bJ
    cases bJ
    exact ⟨l,rfl,hc.mono fun _ _ _ _ h=>(other id _ _ ab (.row hb h) c2).2.1⟩
 have place: ∀id blk b,ey id=some blk→bh P w' (β' id) blk b→(∃j c,j6 bs j=some c∧bh P w' (cm j) c b∧eD σ j=some (.blk id))∨(b<w.heap.size∧¬pg P w o hp0 b∧hp id=some blk∧bh P w (β id) blk b):=by
  intro id blk b e1 e3
  rcases cls id with ⟨i,b2,c1,c2,c3,c4,c5⟩|⟨j',b2,b',c,b0,q1,q2,q3,q4,q5,q6,q7,q8,q9,qt,xZ,rN⟩|⟨c1,c2,c3⟩
  ·rw[c3] at e1;cases e1
   rw[c5] at e3
   refine .inl ⟨pl.length+i,b2,by rw[iI];exact c2,(gK.of σ b2).vm e3,?_⟩
   have:=(bm.1 c2).1
   rw[rM,mC,ik (by omega),F4 (by omega),c1]
   congr 3
   omega
  ·rw[q7] at e1;cases e1
   have rO:b2≠ .dead:=q8.RX e3.alive
   rw[qt,←rN rO] at e3
   exact .inl ⟨j',b2,by rw[iI];exact q2,q8.vm e3,by rw[rM];exact pf (by rw[mC];exact q1)⟩
  ·rw[c1] at e1
   rw[c3] at e3
   have:=e3.mono (w:=w) fun b hb=>(other id blk b e1 hb c2).2.1
   exact .inr ⟨S.h.lt e1 this,(other id blk b e1 this c2).1,e1,this⟩
 have s4: ∀b,pg P w o hp0 b∨w.heap.size≤b→M b∨B≤b:=by
  rintro b (h|h)
  ·obtain ⟨j,id,b1,i1,i2,i3,_⟩:=R4 b h
   exact S.h.own id b1 b i2 i3
  ·exact .inr (lX S.size h)
 have KM: ∀j c b,j6 bs j=some c→bh P w' (cm j) c b→pg P w o hp0 b∨w.heap.size≤b:=fun j c b h1 U=>Sc.h.own j c b h1 U
 refine ⟨β',hle,⟨⟨fun id blk ab=> ?_,fun i1 i2 b1 b2 b e1 e2 f1 f2=> ?_,fun id blk b ab hb=> ?_,Sc.h.gF⟩,fun b hb hM=> ?_,lX S.size Sc.size,fun b j hb=> ?_,⟨Sc.io.1.trans S.io.1,Sc.io.2.trans S.io.2⟩⟩,tc⟩
 ·rcases cls id with ⟨i,b2,c1,c2,c3,c4,c5⟩|⟨j',b2,b',c,b0,q1,q2,q3,q4,q5,q6,q7,q8,q9,qt,xZ,rN⟩|⟨c1,c2,c3⟩
  ·rw[c3] at ab;cases ab
   rw[c5]
   exact tc.RW (Sc.h.rel _ b2 (by rw[iI];exact c2)) (.of σ b2)
  ·rw[q7] at ab;cases ab
   have:=tc.RW (Sc.h.rel j' b2 (by rw[iI];exact q2)) q8
   by_cases rO:b2= .dead
   ·subst rO
    cases q8
    exact .dead
   ·rw[qt,←rN rO]
    exact this
  ·rw[c1] at ab
   rw[c3]
   exact (S.h.rel id blk ab).mono hle fun b hb=>(other id blk b ab hb c2).2
 ·rcases place i1 b1 b e1 f1 with ⟨j1,c1,g1,g2,g3⟩|⟨g1,g2,g3,g4⟩<;>rcases place i2 b2 b e2 f2 with ⟨j2,c2,k1,k2,k3⟩|⟨k1,k2,k3,k4⟩
  ·have:=Sc.h.inj j1 j2 c1 c2 b g1 k1 g2 k2
   subst this
   rw[g3] at k3
   cases k3
   rfl
  ·rcases KM j1 c1 b g1 g2 with h|h
   ·exact absurd h k2
   ·omega
  ·rcases KM j2 c2 b k1 k2 with h|h
   ·exact absurd h g2
   ·omega
  ·exact S.h.inj i1 i2 _ _ b g3 k3 g4 k4
 ·rcases place id blk b ab hb with ⟨j1,c1,g1,g2,g3⟩|⟨g1,g2,g3,g4⟩
  ·exact s4 b (KM j1 c1 b g1 g2)
  ·exact S.h.own id blk b g3 g4
 ·refine (Sc.cx b (nO hb S.size) fun hx=> ?_).trans (S.cx b hb hM)
  rcases s4 b (.inl hx) with h|h
  ·exact hM h
  ·omega
 ·rcases Sc.new b j hb with h|h|h
  ·exact S.new b j h
  ·exact .inr (s4 b (.inl h))
  ·exact .inr (s4 b (.inr h))
end
section
variable {P:Program} {A:cT} {w w':World} {I I' I2:Nat→Nat→Prop} {μ β β' cm:Nat→Option Nat} {hp hp' hp0 bz:Nat→Option ai} {C:ah} {B:Nat} {M:Nat→Prop} {w0:Start}
theorem R6 (hp:Nat→Option ai): ∀(a b:List (Nat × ai)),bW hp (a++b)=bW (bW hp b) a
 | [],b=>rfl
 | (i,x)::a,b=>by simp only[List.cons_append,bW,R6 hp a b]
theorem ya {hp:Nat→Option ai} {l:List (Nat × ai)} {id:Nat} (h: ∀q∈l,q.1≠id):bW hp l id=hp id:=by
 rcases uR (hp:=hp) (l:=l) (id:=id) with h1|⟨b,hb,_⟩
 ·exact h1
 ·exact absurd rfl (h _ hb)
def Ac (P : Program) : Prop := ∀ (f : Nat) fn, P.funcs[f]? = some fn → (fn.name == "runtime.NumGoroutine") = false
def R7 (P:Program) (f:FuncId) (e:TypeId):Prop:=
 (∀args w,(callFunc f args).run P w= .ok (.enter f args) w)∧∃t,P.underlying t=some (.slice e)∧
  ∀(s:Value) (w:World) (Q:Ending→World→Prop),(s= .slice none 0 0→Q (.returned (.slice none 0 0)) w)→
   (∀a n c,s= .slice (some a) n c→∃v w',(Builtin.append_ #[t,t] t #[.slice (some ⟨w.heap.size,0,none⟩) 0 0,s]).run P (w.alloc (.cells #[] e))= .ok v w'∧Q (.returned v) w')→
   (s= .slice none 0 0∨∃a n c,s= .slice (some a) n c)→Calls P f #[s] w Q
structure jw (P:Program) (A:cT):Prop where
 count:Ac P
 ext: ∀f T,A.ext f=some T→∀(b:Nat) (C:Array Value) (w:World),w.heap[b]? =some (.cells C T (0,0))→C.size=P.cellsOf T→(C[0]? =some (.pointer none)∨C[0]? =some (.pointer (some ⟨b,0,none⟩)))→
  (callFunc f #[.pointer (some ⟨b,0,none⟩)]).run P w= .ok (.enter f #[.pointer (some ⟨b,0,none⟩)]) w∧
  Calls P f #[.pointer (some ⟨b,0,none⟩)] w fun e w'=>e= .returned (.tuple #[])∧(w'=w∨w'=w.setCell ⟨b,0,none⟩ (.pointer (some ⟨b,0,none⟩)))
 idle: ∀f,A.idle f=true→(∀args w,(callFunc f args).run P w= .ok (.enter f args) w)∧
  ∀args w,CallsD P f args .returning w fun e u' w'=>(∃v,e= .returned v)∧u'= .returning∧w'=w
 oT: ∀f e,A.oT f=some e→R7 P f e
theorem jw.here {P:Program} {A:cT} (h:jw P A) (f id:Nat):jw P (A.here f id):=⟨h.count,h.ext,h.idle,h.oT⟩
def BB (E:FuncId→Bool) (d:Deferred):Prop:= ∃f cap,d.target= .fn (.func f) cap∧E f=true
theorem KN {P:Program} {A:cT} (hP:jw P A) {fn:Func} {tmps:Array Value} {R:Ending→World→Prop} {w:World} {v:Value} (hv:(results fn tmps).run P w= .ok v w) (hR:R (.returned v) w):
  ∀ds:List Deferred,(∀d∈ds,BB A.idle d)→Leaves P fn tmps R ds .returning w
 | [],_=>⟨v,hv,hR⟩
 | d::ds,h=>by
  obtain ⟨f,cap,ht,hf⟩:=h d (by simp)
  obtain ⟨k1,k2⟩:=hP.idle f hf
  obtain ⟨t,R8⟩:=d
  simp only at ht
  subst ht
  refine leaves_cons (f:=f) (args:=R8++cap) (by simp) ?_ ?_
  ·simp only[invoke];exact k1 _ w
  ·refine (k2 (R8++cap) w).mono fun e u' w' hr=> ?_
   obtain ⟨⟨v',rfl⟩,rfl,rfl⟩:=hr
   exact KN hP hv hR ds fun d hd=>h d (lZ _ hd)
def BC (P:Program) (A:cT) (o:Oper) (a:Act) (w:World) (I:Nat→Nat→Prop) (β:Nat→Option Nat) (hp:Nat→Option ai) (B:Nat) (M:Nat→Prop) (w0:Start) (r:R):Prop:=
 ∀(next:Act→World→Prop) (Q:Exit→Act→World→Prop),
  (∀v w' I' β' ds,Le P w I β hp w' I' β' (bW hp r.upd)→aC P w' I' β' (bW hp r.upd) B M w0→ak P w' I' β' (bW hp r.upd) v r.v→(∀d∈ds,d∈a.defers∨BB A.idle d)→next ({a with defers:=ds}.put o.dst v) w')→o.wp P a w next Q
theorem qi.step {o:Oper} {a:Act} {r:R} (h:qi P ((execOp a.eval o).run P w) w I β hp B M w0 r):BC P A o a w I β hp B M w0 r:=by
 obtain ⟨v,w',I',β',h1,U,h3,h4⟩:=h
 intro next Q hn
 unfold Oper.wp
 rcases h1 with h1|⟨h1,rfl⟩
 ·rw[h1];exact hn v w' I' β' a.defers U h3 h4 fun d hd=> .inl hd
 ·rw[h1];exact hn _ w' I' β' a.defers U h3 h4 fun d hd=> .inl hd
theorem R9: ∀(l:List (Nat × VS)),oV l=sQ (l.map (·.2))
 | []=>rfl
 | (_,s)::l=>by simp only[oV,cM,sQ,R9 l]
theorem aa9 (hC:lK P A C) (S:aC P w I β hp B M w0) (hg:gA P A.aE w I) {vals:List Value} {args:List V} {nb key:Nat} {f:FuncId} {r:R} {rd:List Nat} (hlen:vals.length=args.length)
  (cJ: ∀(j:Nat) v x,vals[j]? =some v→args[j]? =some x→ak P w I β hp v x) (h:(AE P A nb key f args).run C hp=some (r,rd)):
  ∃fn c,P.funcs[f]? =some fn∧fn.body=some c∧Calls P f vals.toArray w fun e w'=> ∃v I' β',e= .returned v∧Le P w I β hp w' I' β' (bW hp r.upd)∧aC P w' I' β' (bW hp r.upd) B M w0∧ak P w' I' β' (bW hp r.upd) v r.v:=by
 unfold AE at h
 obtain ⟨Sa,h0⟩:=aG h
 clear h
 rw[aX] at Sa
 subst Sa
 obtain ⟨h1,jR,d1,u1,a1,a2,a3,a5,a4⟩:=KF S h0 hlen cJ
 obtain ⟨U,tj,d2,u2,b1,b2,b3,b4⟩:=RL S a1
 clear h0 a1
 obtain ⟨hc,h3⟩:=aG b1
 clear b1
 simp only[aO,aX,kJ] at hc
 obtain ⟨ch,F3⟩:=hc
 have tm:=a2.trans b2
 have lW:U.ds=d1++d2:=by have:=tm.ds;simpa using this
 have qp:U.upd=u1++u2:=by have:=tm.upd;simpa using this
 have jv:(U.pl.map Place.id).Nodup:=tm.nodup (by simp)
 obtain ⟨c1,o,c2,c3⟩:=b4 []
 simp only[dr] at c1 c2 c3
 cases BD:C key U.ds with
 | none=>
  simp only[Rd.run,BD] at h3
  cases h3
 | some es=>
  have rv: ∃fq,(AD P (A.so key es) nb U (A.lv key es)).run C hp=some (r,fq):=by
   obtain ⟨x,hx,e⟩:=bind_some h3
   rw[BD] at hx
   cases hx
   unfold cT.so cT.lv
   cases cD:A.alt key with
   | none=>rw[cD] at e;exact ⟨_,e⟩
   | some S2=>
    rw[cD] at e
    simp only[Rd.run] at e
    cases hb:(V.nth es 0).toBool<;>(rw[hb] at e;exact ⟨_,e⟩)
  clear h3
  obtain ⟨fq,h3⟩:=rv
  unfold AD at h3
  simp only at h3
  generalize iA:e9 (A.so key es).cE ((A.lv key es).drop (oV (A.so key es).cd))=bs at h3
  generalize rM:U.pl++sR nb (bs.length-U.pl.length)=σ at h3
  generalize BA:rb σ nb (bs.drop U.pl.length)=fr at h3
  obtain ⟨p0,bk,rd4,p1,p2,_,p3⟩:=RS h3
  obtain ⟨tk,rd5,p4⟩:=RV p1
  obtain rfl:=aT p4
  have ry:U.pl.length≤bs.length:=by rw[eI] at p0;omega
  have F5: ∀q∈bk,∃(j:Nat) (b:ai),U.pl[j]? =some (.blk q.1)∧bs[j]? =some b∧gK σ b q.2∧Bz hp q:=by
   intro q hq
   rcases p2 q hq with hx|⟨j,b,k1,k2,k3,k4⟩
   ·simp at hx
   ·have hj:=(bm.1 k1).1
    rw[dU hj] at k2
    exact ⟨j,b,k1,k2,k3,k4⟩
  obtain ⟨fn,c,hf,hb,KO⟩:=hC key U.ds es BD
  refine ⟨fn,c,hf,hb,?_⟩
  have hmb:e9 (A.sin key).cE (U.ds.drop (oV (A.sin key).cd))=e9 (A.sin key).cE d2:=by
   rw[lW,R9,oo a3]
  have KP:(bG (A.sin key) U.ds).hp=j6 (e9 (A.sin key).cE d2):=by
   simp only[bG,mk,hmb]
  have hl: ∀j blk,(bG (A.sin key) U.ds).hp j=some blk→∃p,eD U.pl j=some p∧ez P w β hp p (o j) blk:=by
   intro j blk hj
   rw[KP,iI] at hj
   obtain ⟨p,k1,k2⟩:=c2 j blk hj
   rw[fx] at k1
   exact ⟨p,k1,k2⟩
  have hd: ∀j,j<U.pl.length→∃blk,(bG (A.sin key) U.ds).hp j=some blk:=by
   intro j hj
   rw[KP,iI]
   exact ⟨_,bA (by rw[c1,←ch];exact hj)⟩
  have Sb:Bu P w β hp U.pl o (bG (A.sin key) U.ds).hp:=by
   intro j p hj
   obtain ⟨blk,k1⟩:=hd j (by rw[mC] at hj;exact (bm.1 hj).1)
   obtain ⟨p',k2,k3⟩:=hl j blk k1
   rw[hj] at k2
   cases k2
   exact ⟨blk,k1,k3⟩
  obtain ⟨rC,S1⟩:=AY S tm.FY
  rw[←qp] at rC S1
  have i1: ∀b j,I b j→jo P w I β hp U.upd b j:=fun b j h=> .inl h
  have entry:=aa4 (hp0:=(bG (A.sin key) U.ds).hp) S jv F3 hl (fun cW j blk hj=>by
   have gZ:=hj
   rw[KP,iI] at gZ
   exact c3 (jo P w I β hp U.upd) o _ i1 (fun q hq b j hb=> .inr ⟨q,by rw[qp];exact eZ.2 (.inr hq),hb⟩) U.pl [] (by simp) Sb j blk gZ (cW j blk hj)) S1.h.gF
  have aba:vals.length=(A.sin key).cd.length:=by rw[hlen,←a5];simp
  have ha:=KO w (jo P w I β hp U.upd) o vals entry (hg.mono i1 fun _ _ _=>rfl) aba fun j v x hj hx=>by
   rw[lW] at hx
   exact (((a4.Bv b2) (jo P w I β hp U.upd) o _ i1 (fun q hq b j hb=> .inr ⟨q,by rw[qp];exact hq,hb⟩) U.pl [] (by simp) Sb) d2).2 j v x hj hx
  refine ha.mono fun e w' BE=> ?_
  obtain ⟨v,I2,cm,rfl,ha⟩:=BE
  have yb:(bG (A.so key es) (A.lv key es)).hp=j6 bs:=by simp only[bG,mk,iA]
  cases abb:(A.so key es).safe P with
  | true=>
   simp only[cond_true,dr]
   have iF: ∀b j,I b j→I2 b j:=fun b j h=>ha.le.dC b j (i1 b j h)
   obtain ⟨s1,s2⟩:=aa7 abb iF ha.xX i1
   have xY:lJ w I o (bG (A.sin key) U.ds).hp w' I cm (j6 bs):=by
    rw[←yb]
    exact ⟨fun _ _ h=>h,fun b j h=>ha.le.cx b j (i1 b j h),ha.le.blk,ha.le.size⟩
   obtain ⟨β',k1,k2,k3⟩:=R0 S rM.symm BA.symm jv ry p3 F5 hl hd (by rw[←yb];exact ⟨s1.h,s1.cx,s1.size,fun b j h=> .inl h,s1.io⟩) xY tk
   exact ⟨v,I,β',rfl,k1,k2,k3.val (by have:=s2 v ha.res;rw[yb] at this;exact this)⟩
  | false=>
   simp only[cond_false]
   rw[←cC,R6]
   have nn: ∀p∈U.pl,bW hp U.upd p.id=hp p.id:=fun p hp=>ya fun q hq e=>
    F2 F3 (gT.2 ⟨q,hq,rfl⟩) (e▸gT.2 ⟨p,hp,rfl⟩)
   have abc: ∀q∈bk,∃(j:Nat) (b:ai),U.pl[j]? =some (.blk q.1)∧bs[j]? =some b∧gK σ b q.2∧Bz (bW hp U.upd) q:=by
    intro q hq
    obtain ⟨j,b,k1,k2,k3,k4⟩:=F5 q hq
    refine ⟨j,b,k1,k2,k3,fun hn=> ?_⟩
    have:=nn _ (jg k1)
    simp only[Place.id] at this
    rw[this]
    exact k4 hn
   have sY: ∀j blk,(bG (A.sin key) U.ds).hp j=some blk→∃p,eD U.pl j=some p∧ez P w β (bW hp U.upd) p (o j) blk:=by
    intro j blk hj
    obtain ⟨p,k1,k2⟩:=hl j blk hj
    exact ⟨p,k1,k2.other (nn p (by rw[mC] at k1;exact jg k1))⟩
   have abd: ∀q∈fr,bW hp U.upd q.1=none:=by
    intro q hq
    rw[ya fun q' BF e=> ?_]
    ·exact tk q hq
    ·obtain ⟨e1,cF,_,h5⟩:=tm.FY q' (qp▸BF)
     rw[e,tk q hq] at h5
     rcases h5 with ⟨_,h5⟩|⟨_,h5⟩<;>cases h5
   obtain ⟨β',k1,k2,k3⟩:=R0 S1 rM.symm BA.symm jv ry p3 abc sY hd (by rw[←yb];exact ha.xX) (by rw[←yb];exact ha.le) abd
   exact ⟨v,I2,β',rfl,rC.trans k1,k2,k3.val (by have:=ha.res;rw[yb] at this;exact this)⟩
theorem Sd (hC:lK P A C) (hP:jw P A) (S:aC P w I β hp B M w0) (hg:gA P A.aE w I) {a:Act} {nb key:Nat} {o:Oper} {f:FuncId} {vals:List Value} {args:List V} (hlen:vals.length=args.length)
  (cJ: ∀(j:Nat) v x,vals[j]? =some v→args[j]? =some x→ak P w I β hp v x) {r:R} {rd:List Nat} (h:(AE P A nb key f args).run C hp=some (r,rd))
  (hex:(execOp a.eval o).run P w=(callFunc f vals.toArray).run P w):BC P A o a w I β hp B M w0 r:=by
 intro next Q hn
 obtain ⟨fn,c,hf,hb,KO⟩:=aa9 hC S hg hlen cJ h
 unfold Oper.wp
 rw[hex,MuLone.run_callFunc_enter hf (hP.count f _ hf) hb,Oper.upon_enter]
 refine KO.mono fun e w' BE=> ?_
 obtain ⟨v,I2,cm,rfl,k1,k2,k3⟩:=BE
 exact hn v w' I2 cm a.defers k1 k2 k3 fun d hd=> .inl hd
theorem kS.args {a:Act} {sl:Nat→V} (hs:kS P w I β hp a sl) (hg:gA P A.aE w I) {args:Array Operand} {ts:Array TypeId} (aU:args.size=ts.size):
  (args.map a.eval).toList.length=((args.toList.zip ts.toList).map fun p=>aP P A.aE p.2 sl p.1).length∧
  ∀(j:Nat) v x,(args.map a.eval).toList[j]? =some v→((args.toList.zip ts.toList).map fun p=>aP P A.aE p.2 sl p.1)[j]? =some x→ak P w I β hp v x:=by
 refine ⟨by simp;omega,fun j v x hv hx=> ?_⟩
 simp only[Array.toList_map,e7,List.getElem?_zip_eq_some,Aj] at hv hx
 obtain ⟨x1,pc,rfl⟩:=hv
 obtain ⟨⟨y1,t1⟩,⟨Se,_⟩,rfl⟩:=hx
 rw[pc] at Se
 cases Se
 exact hs.ev hg t1 _
theorem Sf {vs us:List Value} {xs ys:List V} (h1:vs.length=xs.length) (U: ∀(j:Nat) v x,vs[j]? =some v→xs[j]? =some x→ak P w I β hp v x)
  (h3: ∀(j:Nat) v x,us[j]? =some v→ys[j]? =some x→ak P w I β hp v x) (j:Nat) (v:Value) (x:V) (hv:(vs++us)[j]? =some v) (hx:(xs++ys)[j]? =some x):ak P w I β hp v x:=by
 by_cases hj:j<vs.length
 ·rw[gi hj] at hv
  rw[gi (by omega)] at hx
  exact U j v x hv hx
 ·rw[ik (by omega)] at hv
  rw[ik (by omega)] at hx
  rw[h1] at hv
  exact h3 _ v x hv hx
theorem abe (hP:jw P A) (S:aC P w I β hp B M w0) (hg:gA P A.aE w I) {a:Act} {sl:Nat→V} (hs:kS P w I β hp a sl) {dst:Option Tmp} {ty e:TypeId} {pos:String} {after:Array Edge} {guard:Option (Nat × Bool)} {f:FuncId}
  {args:Array Operand} {argTypes:Array TypeId} {nb:Nat} {r:R} {rd:List Nat} (lH:A.oT f=some e)
  (h:((match args.toList with
    | [x]=> .aD (cR P e) (sO e (aP P A.aE ty sl x) fun xs=> .aD (Nat.ble (xs.length*P.bytesOf e) bZ) (gV nb (.arr e xs false) (.whole e nb) []))
    | _=> .fail):Rd R).run C hp=some (r,rd)):BC P A (Oper.mk dst (.call (Go.Call.mk (.value (.func f)) args argTypes)) ty pos after guard) a w I β hp B M w0 r:=by
 cases ha:args.toList with
 | nil=>rw[ha] at h;cases h
 | cons x l=>
  rw[ha] at h
  cases l with
  | cons _ _=>cases h
  | nil=>
   simp only at h
   have e1:args= #[x]:=by rw[←Array.toArray_toList (xs:=args),ha]
   subst e1
   have hx:=hs.ev hg ty x
   obtain ⟨ar,h⟩:=aG h
   have fin: ∀{w1:World} {BG:Nat→Option Nat},(∀id blk,hp id=some blk→eb P w1 I BG hp (BG id) blk)→ak P w1 I BG hp (a.eval x) (aP P A.aE ty sl x)→∃xs,(((∃a',a.eval x= .slice a' 0 0)∧xs=[])∨∃a' c news,Row P w1 I e (a.eval x) xs a' c news)∧
     xs.length*P.bytesOf e≤bZ∧hp nb=none∧r=⟨.whole e nb,[(nb,.arr e xs false)]⟩:=by
    intro w1 BG h1 U
    obtain ⟨xs,mB,l,h⟩:=FH h1 ar U h
    obtain ⟨dL,h⟩:=aG h
    rw[dq] at dL
    obtain ⟨hn,rfl⟩:=kW h
    exact ⟨xs,mB,dL,hn,rfl⟩
   obtain ⟨c1,t,hu,c2⟩:=hP.oT f e lH
   intro next Q qo
   unfold Oper.wp
   have e2:(execOp a.eval ⟨dst,.call ⟨.value (.func f),#[x],argTypes⟩,ty,pos,after,guard⟩).run P w= .ok (.enter f #[a.eval x]) w:=by
    have ft:a.eval (.func f)= .func (.func f) #[] #[]:=rfl
    simpa[execOp,resolve,ft,Deferred.ofValue,invoke] using c1 #[a.eval x] w
   rw[e2,Oper.upon_enter]
   refine c2 _ w _ (fun BH=> ?_) (fun b n c ql=> ?_) ?_
   ·obtain ⟨xs,mB,dL,hn,rfl⟩:=fin S.h.rel hx
    have g9:xs=[]:=by
     rcases mB with ⟨_,h⟩|⟨a,c,news,hr⟩
     ·exact h
     ·have:=hr.val.symm.trans BH
      cases this
    subst g9
    obtain ⟨a1,a2⟩:=Fm S e hn
    exact qo _ w I _ a.defers a1 a2 (.dw (bS _ _ _) (bS _ _ _)) fun d hd=> .inl hd
   ·obtain ⟨m1,m2⟩:=Y2 (w':=w.alloc (.cells #[] e)) S (fun b hb=>heap_alloc_old w _ b hb) (by simp) ⟨rfl,rfl⟩
    obtain ⟨xs,mB,dL,hn,rfl⟩:=fin m2.h.rel (hx.mono m1)
    obtain ⟨v,w',β',a1,a2,a3,a4⟩:=J5 (ty:=t) (a0:=some ⟨w.heap.size,0,none⟩) m2 hu ar hn dL mB
    exact ⟨v,w',a1,qo v w' I β' a.defers (m1.trans a2) a3 a4 fun d hd=> .inl hd⟩
   ·obtain ⟨xs,mB,dL,hn,rfl⟩:=fin S.h.rel hx
    rcases mB with ⟨⟨b,h⟩,_⟩|⟨b,c,news,hr⟩
    ·rw[h]
     cases b with
     | none=>exact .inl rfl
     | some b=>exact .inr ⟨_,_,_,rfl⟩
    ·exact .inr ⟨_,_,_,hr.val⟩
theorem abf (hP:jw P A) (S:aC P w I β hp B M w0) (hg:gA P A.aE w I) {a:Act} {sl:Nat→V} (hs:kS P w I β hp a sl) {dst:Option Tmp} {ty T0:TypeId} {pos:String} {after:Array Edge} {guard:Option (Nat × Bool)} {f:FuncId}
  {args:Array Operand} {argTypes:Array TypeId} {r:R} {rd:List Nat} (BI:A.ext f=some T0)
  (h:((match args.toList with
   | [x]=>
    match aP P A.aE ty sl x with
    | .ptr id i c=>Rd.get id fun
     | some (.var T cs)=> .aD (Nat.beq T T0&&(p9 P T&&(Nat.beq cs.length (P.cellsOf T)&&(Nat.beq i 0&&Nat.beq c 0)))) (.ret ⟨.bn [],[(id,.var T (.undef::cs.tail))]⟩)
     | _=> .fail
    | _=> .fail
   | _=> .fail):Rd R).run C hp=some (r,rd)):BC P A (Oper.mk dst (.call (Go.Call.mk (.value (.func f)) args argTypes)) ty pos after guard) a w I β hp B M w0 r:=by
 cases ha:args.toList with
 | nil=>rw[ha] at h;cases h
 | cons x l=>
  rw[ha] at h
  cases l with
  | cons _ _=>cases h
  | nil=>
   simp only at h
   have e1:args= #[x]:=by rw[←Array.toArray_toList (xs:=args),ha]
   subst e1
   have hx:=hs.ev hg ty x
   cases fP:aP P A.aE ty sl x<;>rw[fP] at h hx<;>simp only at h<;>first|(cases h;done)|skip
   rename_i id i c
   obtain ⟨l,h1⟩:=run_get h
   cases ab:hp id with
   | none=>rw[ab] at h1;cases h1
   | some blk=>
    rw[ab] at h1
    cases blk<;>simp only at h1<;>first|(cases h1;done)|skip
    rename_i T cs
    obtain ⟨U,h3⟩:=aG h1
    simp only[aO,aX] at U
    obtain ⟨rfl,ca,pj,rfl,rfl⟩:=U
    obtain rfl:=aT h3
    obtain ⟨b,hb,he⟩:=hx.iB ab (by simp)
    have hr:=S.h.rel id _ ab
    rw[hb] at hr
    cases hr with
    | @var _ b' Ca _ az hh aU hI g9 gb=>
     cases az
     have iD:a.eval x= .pointer (some ⟨b,0,none⟩):=by rw[he];simp[ai.sz]
     obtain ⟨q1,q2⟩:=hP.ext f T BI b Ca w hh (aU.trans pj) (gb ca)
     have h0:0<Ca.size:=by
      rcases gb ca with k|k<;>exact (iQ.1 k).1
     have o0:(V.undef::cs.tail).length=cs.length:=by
      cases cs with
      | nil=>rw[aU] at h0;simp at h0
      | cons _ _=>rfl
     have rel: ∀(C':Array Value),(∀j,0<j→C'[j]? =Ca[j]?)→∀(j:Nat) v y,C'[j]? =some v→(V.undef::cs.tail)[j]? =some y→ak P w I β hp v y:=by
      intro C' u5 j v y hj hy
      cases j with
      | zero=>simp at hy;subst hy;exact .undef
      | succ j=>
       rw[u5 _ (by omega)] at hj
       refine g9 (j+1) v y hj ?_
       cases cs with
       | nil=>rw[aU] at h0;simp at h0
       | cons _ _=>simpa using hy
     have fin: ∀w' C',(∀b',b'≠b→w'.heap[b']? =w.heap[b']?)→w'.heap[b]? =some (.cells C' T (0,0))→C'.size=Ca.size→w.heap.size≤w'.heap.size→w'.os=w.os∧w'.output=w.output→
       (∀j,0<j→C'[j]? =Ca[j]?)→(C'[0]? =some (.pointer none)∨C'[0]? =some (.pointer (some ⟨b,0,none⟩)))→
       Le P w I β hp w' I β (ax hp id (some (.var T (V.undef::cs.tail))))∧aC P w' I β (ax hp id (some (.var T (V.undef::cs.tail)))) B M w0:=by
      intro w' C' k1 k2 k3 k4 k5 k6 k7
      exact A0 (w':=w') (blk':= .var T (V.undef::cs.tail)) S ab (by simp) rfl hb hI (by simp) k1 (by rw[jL k2,jL hh,k3]) k4 k5 fun hle=>
       .var rfl k2 (by rw[k3,aU,o0]) hI (fun j v y hj hy=>(rel C' k6 j v y hj hy).mono hle) fun _=>k7
     intro next Q hn
     unfold Oper.wp
     have e2:(execOp a.eval ⟨dst,.call ⟨.value (.func f),#[x],argTypes⟩,ty,pos,after,guard⟩).run P w= .ok (.enter f #[.pointer (some ⟨b,0,none⟩)]) w:=by
      have ft:a.eval (.func f)= .func (.func f) #[] #[]:=rfl
      simpa[execOp,resolve,ft,Deferred.ofValue,invoke,iD] using q1
     rw[e2,Oper.upon_enter]
     refine q2.mono fun e w' BE=> ?_
     obtain ⟨rfl,hw⟩:=BE
     have Sg:Le P w I β hp w' I β (ax hp id (some (.var T (V.undef::cs.tail))))∧aC P w' I β (ax hp id (some (.var T (V.undef::cs.tail)))) B M w0:=by
      rcases hw with rfl|rfl
      ·exact fin w' Ca (fun _ _=>rfl) hh rfl (cl _) ⟨rfl,rfl⟩ (fun _ _=>rfl) (gb ca)
      ·refine fin (w.setCell ⟨b,0,none⟩ (.pointer (some ⟨b,0,none⟩))) (Ca.setIfInBounds 0 (.pointer (some ⟨b,0,none⟩))) (fun b' bq=> ?_) ?_ (by simp) (by simp[World.setCell]) ⟨rfl,rfl⟩ (fun j hj=> ?_) (.inr ?_)
       ·simp only[World.setCell,Ai]
        rw[an (fun e=>bq e.symm)]
       ·simp[World.setCell,Ai,hh]
       ·rw[Ez (by omega)]
       ·rw[I6 h0]
     exact hn (.tuple #[]) w' I β a.defers Sg.1 Sg.2 (.bn rfl fun j v y hj _=>by simp at hj) fun d hd=> .inl hd
theorem abg (hC:lK P A C) (hP:jw P A) (S:aC P w I β hp B M w0) (hg:gA P A.aE w I) {a:Act} {sl:Nat→V} (hs:kS P w I β hp a sl) {ix nb:Nat} {o:Oper} {r:R} {rd:List Nat}
  (h:(fZ P A sl ix nb o).run C hp=some (r,rd)):BC P A o a w I β hp B M w0 r:=by
 cases hc:Kv o.op with
 | false=>exact (aaN S hg hs hc h).step
 | true=>
  obtain ⟨dst,op,ty,pos,after,guard⟩:=o
  cases op<;>simp only[Kv] at hc<;>first|(cases hc;done)|skip
  case defer c=>
   obtain ⟨callee,args,argTypes⟩:=c
   cases callee with
   | invoke r m=>simp only[fZ] at h;cases h
   | builtin b=>simp only[fZ] at h;cases h
   | value f=>
   cases f with
   | tmp t=>
    simp only[fZ] at h
    cases ca:sl t<;>rw[ca] at h<;>simp only at h<;>first|(cases h;done)|skip
    rename_i f xs ys
    obtain ⟨h1,U⟩:=aG h
    obtain rfl:=aT U
    have hv:=hs t
    rw[ca] at hv
    generalize vg:a.tmps.getD t undef=vt at hv
    cases hv with
    | @fn _ fs cs _ _ q1 q2 q3 q4=>
     intro next Q hn
     unfold Oper.wp
     have ft:a.eval (.tmp t)= .func (.func f) fs cs:=vg
     have e1:(execOp a.eval ⟨dst,.defer ⟨.value (.tmp t),args,argTypes⟩,ty,pos,after,guard⟩).run P w= .ok (.defer {target:= .fn (.func f) cs,args:=fs++args.map a.eval}) w:=by
      simp[execOp,resolve,ft,Deferred.ofValue]
     rw[e1,Oper.upon_defer]
     exact hn undef w I β _ (Le.refl w I β hp) S .undef fun d hd=>by
      rcases dO.1 hd with rfl|hd
      ·exact .inr ⟨f,cs,rfl,h1⟩
      ·exact .inl hd
   | func f=>simp only[fZ] at h;cases h
   | const _=>simp only[fZ] at h;cases h
   | global _=>simp only[fZ] at h;cases h
  rename_i c
  obtain ⟨callee,args,argTypes⟩:=c
  cases callee with
  | invoke r m=>cases hc
  | builtin b=>cases hc
  | value f=>
   cases f with
   | func f=>
    simp only[fZ] at h
    cases BI:A.ext f with
    | some T0=>
     rw[BI] at h
     simp only at h
     exact abf hP S hg hs BI h
    | none=>
    rw[BI] at h
    simp only at h
    cases lH:A.oT f with
    | some e0=>
     rw[lH] at h
     simp only at h
     exact abe hP S hg hs lH h
    | none=>
    rw[lH] at h
    simp only at h
    obtain ⟨h1,U⟩:=aG h
    rw[aX] at h1
    obtain ⟨k1,k2⟩:=hs.args hg h1
    refine Sd hC hP S hg k1 k2 U ?_
    have e1:(args.map a.eval).toList.toArray=args.map a.eval:=Array.toArray_toList
    rw[e1]
    simp[execOp,resolve,Act.eval,Deferred.ofValue,invoke]
   | tmp t=>
    simp only[fZ] at h
    cases ca:sl t<;>rw[ca] at h<;>simp only at h<;>first|(cases h;done)|skip
    rename_i f xs ys
    obtain ⟨h1,U⟩:=aG h
    rw[aX] at h1
    obtain ⟨k1,k2⟩:=hs.args hg h1
    have hv:=hs t
    rw[ca] at hv
    generalize vg:a.tmps.getD t undef=vt at hv
    cases hv with
    | @fn _ fs cs _ _ q1 q2 q3 q4=>
     have l1:fs.toList.length=xs.length:=by simpa using q1
     have l3:cs.toList.length=ys.length:=by simpa using q3
     have r1: ∀(j:Nat) v x,fs.toList[j]? =some v→xs[j]? =some x→ak P w I β hp v x:=fun j v x hj hx=>q2 j v x (by simpa using hj) hx
     have r3: ∀(j:Nat) v x,cs.toList[j]? =some v→ys[j]? =some x→ak P w I β hp v x:=fun j v x hj hx=>q4 j v x (by simpa using hj) hx
     refine Sd hC hP S hg (vals:=fs.toList++(args.map a.eval).toList++cs.toList) (args:=xs++((args.toList.zip argTypes.toList).map fun p=>aP P A.aE p.2 sl p.1)++ys) (by simp only[cg];omega) ?_ U ?_
     ·exact Sf (by simp only[cg];omega) (Sf l1 r1 k2) r3
     ·have e1:(fs.toList++(args.map a.eval).toList++cs.toList).toArray=fs++args.map a.eval++cs:=by
       apply Array.toList_inj.1;simp
      rw[e1]
      have ft:a.eval (.tmp t)= .func (.func f) fs cs:=vg
      simp[execOp,resolve,ft,Deferred.ofValue,invoke]
   | _=>cases hc
end
section
variable {P:Program} {A:cT} {w w':World} {I I' I2:Nat→Nat→Prop} {μ β β':Nat→Option Nat} {hp hp':Nat→Option ai} {C:ah} {B:Nat} {M:Nat→Prop} {w0:Start}
structure fC (P:Program) (E:FuncId→Bool) (G:Nat→V) (w:World) (I:Nat→Nat→Prop) (β:Nat→Option Nat) (n:Nat) (a:Act) (st:St):Prop where
 sl:kS P w I β st.hp a st.sl
 size:a.tmps.size=n
 defers: ∀d∈a.defers,BB E d
 aE:gA P G w I
theorem KQ {E:FuncId→Bool} {G:Nat→V} {n:Nat} {a:Act} {st:St} {o:Oper} {v:Value} {x:V} {hp':Nat→Option ai} {ds:List Deferred} (h:fC P E G w I β n a st) (hle:Le P w I β st.hp w' I' β' hp') (hd:sV o n=true)
  (hv:ak P w' I' β' hp' v x) (lW: ∀d∈ds,d∈a.defers∨BB E d):fC P E G w' I' β' n ({a with defers:=ds}.put o.dst v) ⟨iT st.sl o.dst x,hp',st.nb⟩:=by
 have Sh: ∀d∈ds,BB E d:=fun d hd=>(lW d hd).elim (h.defers d) id
 cases abh:o.dst with
 | none=>exact ⟨fun k=>(h.sl k).mono hle,h.size,Sh,h.aE.mono hle.dC hle.cx⟩
 | some d=>
  have aJ:d<a.tmps.size:=by
   unfold sV at hd
   rw[abh] at hd
   rw[h.size]
   simpa using hd
  refine ⟨fun k=> ?_,by simp[Act.put,h.size],Sh,h.aE.mono hle.dC hle.cx⟩
  simp only[Act.put,iT,ax]
  cases hb:Nat.beq k d with
  | true=>
   rw[aX] at hb
   subst hb
   simpa[aJ] using hv
  | false=>
   have bq:d≠k:=fun e=>by rw[e,jE] at hb;cases hb
   have:=(h.sl k).mono hle
   simpa[Ez bq] using this
theorem Si {E:FuncId→Bool} {G:Nat→V} {n:Nat} {a:Act} {st:St} {d:Nat} {b:Bool} (h:fC P E G w I β n a st) (hd:st.sl d= .bool b):a.tmps[d]? =some (.bool b):=by
 have:=h.sl d
 rw[hd] at this
 have:=this.kT
 cases ht:a.tmps[d]? with
 | none=>simp[ht] at this;cases this
 | some v=>simp[ht] at this;rw[this]
theorem abi {x:V} {b:Bool} (h:mc x=some (some b)):x= .bool b:=by
 cases x with
 | bool c=>simp only[mc] at h;injection h with h;injection h with h;rw[h]
 | bn vs=>cases vs<;>simp[mc] at h
 | _=>simp[mc] at h
theorem abj {x:V} (h:mc x=some none):x= .bn []:=by
 cases x with
 | bn vs=>cases vs with
  | nil=>rfl
  | cons _ _=>simp[mc] at h
 | bool c=>simp[mc] at h
 | _=>simp[mc] at h
theorem ak.abk {v:Value} (h:ak P w I β hp v (.bn [])):v= .tuple #[]:=by
 cases h with
 | @bn cs _ hs _=>
  have:cs= #[]:=by
   apply Array.eq_empty_of_size_eq_zero
   simpa using hs
  rw[this]
theorem ak.Sj:ak P w I β hp Go.undef (.bn []):= .bn (by rfl) (fun j v x _ hx=>by simp at hx)
theorem Sk (hC:lK P A C) (hP:jw P A) {ops:Array Oper} {n i nb:Nat} {o:Oper} (ho:ops[i]? =some o) {a:Act} {st st':St} {R W:List Nat} (S:aC P w I β st.hp B M w0) (hA:fC P A.idle A.aE w I β n a st)
  (h:iv P A C n ops i o nb st=some (st',R,W)) {K:Act→World→Prop} {Q:Exit→Act→World→Prop}
  (hK: ∀a' w' I' β',Le P w I β st.hp w' I' β' st'.hp→aC P w' I' β' st'.hp B M w0→fC P A.idle A.aE w' I' β' n a' st'→K a' w'):wpOp P ops Q i K a w:=by
 unfold iv at h
 cases hd:sV o n with
 | false=>rw[hd] at h;cases h
 | true=>
  rw[hd] at h
  simp only[cond_true] at h
  have go: ∀{KR:St} {R W:List Nat},(((fZ P A st.sl i (nb+64*i) o).run C st.hp).bind fun r=>some ((⟨iT st.sl o.dst r.1.v,bW st.hp r.1.upd,st.nb⟩:St),rj r.2 r.1.upd,gl st.hp r.1.upd))=some (KR,R,W)→KR=st'→
    o.wp P a w K Q:=by
   intro KR R W h e
   obtain ⟨⟨r,rd⟩,h1,U⟩:=bind_some h
   cases U
   subst e
   exact abg hC hP S hA.aE hA.sl h1 K Q fun v w' I' β' ds k1 k2 k3 k4=>hK _ w' I' β' k1 k2 (KQ hA k1 hd k3 k4)
  unfold wpOp
  rw[ho]
  simp only
  cases hg:o.guard with
  | none=>
   rw[hg] at h
   simp only[Region.wanted,hg,c6]
   exact .inl (go h rfl)
  | some gw=>
   obtain ⟨g,want⟩:=gw
   rw[hg] at h
   simp only at h
   cases mD:(ops[g]?).bind (·.dst) with
   | none=>rw[mD] at h;cases h
   | some d=>
    rw[mD] at h
    simp only at h
    cases np:mc (st.sl d) with
    | none=>rw[np] at h;cases h
    | some ob=>
    rw[np] at h
    cases ob with
    | none=>
     have ql:=abj np
     have hy:yielded ops a.tmps g=none:=by
      unfold yielded
      rw[mD]
      have:=hA.sl d
      rw[ql] at this
      have hu:=ak.abk this
      simp only[Option.bind_some]
      cases ht:a.tmps[d]? with
      | none=>rfl
      | some v=>simp[ht] at hu;subst hu;rfl
     simp only[Region.wanted,hg,hy]
     injection h with h
     injection h with h3 h4
     subst h3
     have U:((none:Option Bool)==some want)=false:=rfl
     simp only[U,Ak,fW]
     exact hK _ w I β (Le.refl w I β st.hp) S (KQ (ds:=a.defers) hA (Le.refl w I β st.hp) hd ak.Sj fun d h=> .inl h)
    | some b=>
    simp only at h
    have ql:=abi np
    have hy:yielded ops a.tmps g=some b:=by
     unfold yielded
     rw[mD]
     simp only[Option.bind_some,Si hA ql]
    simp only[Region.wanted,hg,hy]
    by_cases hb:b=want
    ·subst hb
     simp only[beq_self_eq_true,cond_true] at h
     simp only[beq_self_eq_true,c6]
     exact .inl (go h rfl)
    ·have h1:(b==want)=false:=by simp[hb]
     have U:(some b==some want)=false:=by simp[hb]
     rw[h1] at h
     simp only[cond_false] at h
     injection h with h
     injection h with h3 h4
     subst h3
     simp only[U,Ak,fW]
     exact hK _ w I β (Le.refl w I β st.hp) S (KQ (ds:=a.defers) hA (Le.refl w I β st.hp) hd ak.Sj fun d h=> .inl h)
def vn (hp hp':Nat→Option ai) (c:Nat):Prop:=hp' c=hp c∧(KB≤c→gC (hp' (c-KB))=gC (hp (c-KB)))
theorem vn.symm {c:Nat} (h:vn hp hp' c):vn hp' hp c:=⟨h.1.symm,fun hc=>(h.2 hc).symm⟩
theorem tn {α:Type}: ∀{p:Rd α} {r:α} {rd:List Nat},p.run C hp=some (r,rd)→(∀id∈rd,vn hp hp' id)→p.run C hp'=some (r,rd)
 | .ret a,r,rd,h,_=>h
 | .fail,r,rd,h,_=>by cases h
 | .get id k,r,rd,h,he=>by
  obtain ⟨x,h1,U⟩:=bind_some h
  cases U
  have e1:hp' id=hp id:=(he id (by simp)).1
  have:=tn (p:=k (hp id)) (r:=x.1) (rd:=x.2) h1 (fun i hi=>he i (by simp[hi]))
  simp only[Rd.run,e1,this,Option.bind_some]
 | .live id ok k,r,rd,h,he=>by
  simp only[Rd.run] at h⊢
  cases hk:ok (gC (hp id)) with
  | false=>rw[hk] at h;cases h
  | true=>
   rw[hk] at h
   obtain ⟨x,h1,U⟩:=bind_some h
   cases U
   have e1:gC (hp' id)=gC (hp id):=by
    have:=(he (id+KB) (by simp)).2 (Nat.le_add_left _ _)
    rwa [xb] at this
   have:=tn (p:=k) (r:=x.1) (rd:=x.2) h1 (fun i hi=>he i (by simp[hi]))
   rw[e1,hk,this]
   rfl
 | .opt o k,r,rd,h,he=>by
  obtain ⟨x,h1,U⟩:=bind_some h
  simp only[Rd.run,h1,Option.bind_some]
  exact tn U he
 | .aD b k,r,rd,h,he=>by
  obtain ⟨h1,U⟩:=aG h
  simp only[Rd.run,h1,cond_true]
  exact tn U he
 | .call key ds k,r,rd,h,he=>by
  obtain ⟨x,h1,U⟩:=bind_some h
  simp only[Rd.run,h1,Option.bind_some]
  exact tn U he
 | .alt true x y,r,rd,h,he=>tn (p:=x) h he
 | .alt false x y,r,rd,h,he=>tn (p:=y) h he
theorem abl {G:Nat→V} {sl sl':Nat→V} {t:TypeId} {x:Operand} (h: ∀k,x= .tmp k→sl k=sl' k):aP P G t sl x=aP P G t sl' x:=by
 cases x with
 | tmp k=>exact h k rfl
 | _=>rfl
theorem abm {sl sl':Nat→V} {ix nb:Nat} {o:Oper} (h: ∀x∈o.op.operands,∀k,x= .tmp k→sl k=sl' k):fZ P A sl ix nb o=fZ P A sl' ix nb o:=by
 have ft: ∀t x,x∈o.op.operands→aP P A.aE t sl x=aP P A.aE t sl' x:=fun t x hx=>abl (h x hx)
 obtain ⟨dst,op,ty,pos,after,guard⟩:=o
 have Sl: ∀(t:TypeId) (ps:Array (Nat × Operand)),(∀x∈ps.map (·.2),aP P A.aE t sl x=aP P A.aE t sl' x)→
   (ps.toList.map fun p=>(p.1,aP P A.aE t sl p.2))=ps.toList.map fun p=>(p.1,aP P A.aE t sl' p.2):=fun t ps hp=>
  sF fun p hm=>by rw[hp p.2 (Array.mem_map.2 ⟨p,p5.1 hm,rfl⟩)]
 have abn: ∀(t:TypeId) (ps:Array (Nat × Operand)),(∀x∈ps.map (·.2),aP P A.aE t sl x=aP P A.aE t sl' x)→
   (ps.toList.map fun p=>(aP P A.aE t sl p.2).cells)=ps.toList.map fun p=>(aP P A.aE t sl' p.2).cells:=fun t ps hp=>
  sF fun p hm=>by rw[hp p.2 (Array.mem_map.2 ⟨p,p5.1 hm,rfl⟩)]
 cases op<;>simp only[Op.operands] at ft<;>simp only[fZ]
 case pick c x y=>rw[ft ty c (by simp),ft ty x (by simp),ft ty y (by simp)]
 case build t ps=>rw[Sl ty ps fun x hx=>ft ty x (by simpa using hx),abn ty ps fun x hx=>ft ty x (by simpa using hx)]
 case buildSlice t len ps=>
  split
  ·rename_i e _
   rw[Sl e ps fun x hx=>ft e x (by simpa using hx)]
  ·rfl
 case slice t x lo hi mx=>
  cases mx with
  | some m=>
   have e1:lo.map (aP P A.aE 0 sl)=lo.map (aP P A.aE 0 sl'):=by
    cases lo with
    | none=>rfl
    | some l=>simp only[Option.map_some,ft 0 l (by simp)]
   have e2:hi.map (aP P A.aE 0 sl)=hi.map (aP P A.aE 0 sl'):=by
    cases hi with
    | none=>rfl
    | some l=>simp only[Option.map_some,ft 0 l (by simp)]
   have e3:=ft 0 m (by simp)
   simp only[ft ty x (by simp),e1,e2,e3]
  | none=>
   have e1:lo.map (aP P A.aE 0 sl)=lo.map (aP P A.aE 0 sl'):=by
    cases lo with
    | none=>rfl
    | some l=>simp only[Option.map_some,ft 0 l (by simp)]
   have e2:hi.map (aP P A.aE 0 sl)=hi.map (aP P A.aE 0 sl'):=by
    cases hi with
    | none=>rfl
    | some l=>simp only[Option.map_some,ft 0 l (by simp)]
   simp only[ft ty x (by simp),e1,e2]
 case call c=>
  obtain ⟨callee,args,argTypes⟩:=c
  have vo: ∀t x,x∈args→aP P A.aE t sl x=aP P A.aE t sl' x:=fun t x hx=>ft t x (by simp[Call.operands,hx])
  have hl: ∀t (l:List Operand),(∀x∈l,x∈args)→l.map (aP P A.aE t sl)=l.map (aP P A.aE t sl'):=fun t l hl=>sF fun x hx=>vo t x (hl x hx)
  have hz:((args.toList.zip argTypes.toList).map fun p=>aP P A.aE p.2 sl p.1)=(args.toList.zip argTypes.toList).map fun p=>aP P A.aE p.2 sl' p.1:=
   sF fun p hp=>vo p.2 p.1 (p5.1 (List.of_mem_zip hp).1)
  cases callee with
  | invoke r m=>rfl
  | builtin b=>
   have cD: ∀x∈args.toList,∀t,aP P A.aE t sl x=aP P A.aE t sl' x:=fun x hx t=>vo t x (p5.1 hx)
   have KS: ∀t (l:List Operand),(∀x∈l,∀t,aP P A.aE t sl x=aP P A.aE t sl' x)→l.map (aP P A.aE t sl)=l.map (aP P A.aE t sl'):=fun t l h=>sF fun x hx=>h x hx t
   cases b<;>first|rfl|skip
   case append=>
    dsimp only
    generalize args.toList=al at cD
    match al,cD,argTypes.toList with
    | [s,x],cD,[t,u]=>simp only[cD s (by simp),cD x (by simp)]
    | [],_,_=>rfl
    | [_],_,_=>rfl
    | _::_::_::_,_,_=>rfl
    | [_,_],_,[]=>rfl
    | [_,_],_,[_]=>rfl
    | [_,_],_,_::_::_::_=>rfl
   case copy=>
    dsimp only
    generalize args.toList=al at cD
    match al,cD,argTypes.toList with
    | [s,x],cD,[t,u]=>simp only[cD s (by simp),cD x (by simp)]
    | [],_,_=>rfl
    | [_],_,_=>rfl
    | _::_::_::_,_,_=>rfl
    | [_,_],_,[]=>rfl
    | [_,_],_,[_]=>rfl
    | [_,_],_,_::_::_::_=>rfl
   case len=>
    dsimp only
    generalize args.toList=al at cD
    match al,cD,argTypes.toList with
    | [x],cD,[t]=>simp only[cD x (by simp)]
    | [],_,_=>rfl
    | _::_::_,_,_=>rfl
    | [_],_,[]=>rfl
    | [_],_,_::_::_=>rfl
   case clear=>
    dsimp only
    generalize args.toList=al at cD
    match al,cD,argTypes.toList with
    | [x],cD,[t]=>simp only[cD x (by simp)]
    | [],_,_=>rfl
    | _::_::_,_,_=>rfl
    | [_],_,[]=>rfl
    | [_],_,_::_::_=>rfl
   case unsafeSliceData=>
    dsimp only
    generalize args.toList=al at cD
    match al,cD with
    | [],_=>rfl
    | [x],cD=>simp only[cD x (by simp)]
    | _::_::_,_=>rfl
   case unsafeString=>
    dsimp only
    generalize args.toList=al at cD
    match al,cD,argTypes.toList with
    | [s,x],cD,[t,u]=>simp only[cD s (by simp),cD x (by simp)]
    | [],_,_=>rfl
    | [_],_,_=>rfl
    | _::_::_::_,_,_=>rfl
    | [_,_],_,[]=>rfl
    | [_,_],_,[_]=>rfl
    | [_,_],_,_::_::_::_=>rfl
   case max=>
    dsimp only
    generalize args.toList=al at cD
    match al,cD with
    | [],_=>rfl
    | x::l,cD=>simp only[cD x (by simp),KS ty l (fun y hy=>cD y (by simp[hy]))]
   case min=>
    dsimp only
    generalize args.toList=al at cD
    match al,cD with
    | [],_=>rfl
    | x::l,cD=>simp only[cD x (by simp),KS ty l (fun y hy=>cD y (by simp[hy]))]
  | value f=>
   cases f<;>first|rfl|skip
   ·rename_i t
    have ht:sl t=sl' t:=h (.tmp t) (by simp[Op.operands,Call.operands]) t rfl
    simp only[hz,ht]
   ·simp only[hz]
    cases hx:args.toList with
    | nil=>rfl
    | cons x l=>
     cases l with
     | cons _ _=>rfl
     | nil=>simp only[vo ty x (p5.1 (by rw[hx];simp))]
 case defer c=>
  obtain ⟨callee,args,argTypes⟩:=c
  cases callee with
  | invoke r m=>rfl
  | builtin b=>rfl
  | value f=>
   cases f<;>first|rfl|skip
   rename_i t
   have ht:sl t=sl' t:=h (.tmp t) (by simp[Op.operands,Call.operands]) t rfl
   simp only[ht]
 case makeFunc fn a b=>
  cases fn<;>first|rfl|skip
  have e1:a.toList.map (aP P A.aE ty sl)=a.toList.map (aP P A.aE ty sl'):=sF fun x hx=>ft ty x (by simp[p5.1 hx])
  have e2:b.toList.map (aP P A.aE ty sl)=b.toList.map (aP P A.aE ty sl'):=sF fun x hx=>ft ty x (by simp[p5.1 hx])
  dsimp only
  rw[e1,e2]
 case makeMap t r=>cases r<;>rfl
 all_goals first
  | rfl
  | (simp[ft];done)
end
section
variable {P:Program} {A:cT} {w w':World} {I I' I2:Nat→Nat→Prop} {μ β β':Nat→Option Nat} {hp hp':Nat→Option ai} {C:ah} {B:Nat} {M:Nat→Prop} {w0:Start}
theorem KT {q:Nat × ai} {upd:List (Nat × ai)} (h:q∈upd):q.1∈gl hp upd:=by
 unfold gl
 rw[List.mem_flatMap]
 refine ⟨q,h,?_⟩
 cases Nat.beq (gC (hp q.1)) (gC (some q.2))<;>simp
theorem abo {upd:List (Nat × ai)} (h: ∀q∈upd,gC (hp' q.1)=gC (hp q.1)):gl hp' upd=gl hp upd:=by
 unfold gl
 induction upd with
 | nil=>rfl
 | cons q l ih=>
  rw[l9,l9,ih fun x hx=>h x (lZ _ hx),h q (by simp)]
theorem Sm {c:Nat}: ∀{upd:List (Nat × ai)},c∉gl hp upd→vn hp (bW hp upd) c:=fun {upd} h=>by
 refine ⟨ya fun q hq e=>h (e▸KT hq),fun hc=> ?_⟩
 induction upd with
 | nil=>rfl
 | cons q l ih=>
  have hl:c∉gl hp l:=fun hx=>h (by unfold gl at*;rw[l9];exact List.mem_append_right _ hx)
  have hq:gC (hp q.1)=gC (some q.2)∨c≠q.1+KB:=by
   cases hb:Nat.beq (gC (hp q.1)) (gC (some q.2)) with
   | true=>exact .inl (Ad hb)
   | false=>
    refine .inr fun e=>h ?_
    unfold gl
    rw[l9,hb,e]
    simp
  show gC (ax (bW hp l) q.1 (some q.2) (c-KB))=_
  simp only[ax]
  cases hb:Nat.beq (c-KB) q.1 with
  | false=>exact ih hl
  | true=>
   have e:=Ad hb
   rcases hq with hq|hq
   ·rw[cond_true,e];exact hq.symm
   ·exact absurd (by omega) hq
theorem Sn {n i nb:Nat} {ops:Array Oper} {o:Oper} {st st':St} {R W:List Nat} (h:iv P A C n ops i o nb st=some (st',R,W)):
  ∃x upd,st'=⟨iT st.sl o.dst x,bW st.hp upd,st.nb⟩∧W=gl st.hp upd∧∀eB:St,(∀d∈o.looksAt ops,eB.sl d=st.sl d)→(∀id∈R,vn st.hp eB.hp id)→
   iv P A C n ops i o nb eB=some (⟨iT eB.sl o.dst x,bW eB.hp upd,eB.nb⟩,R,W)∧W=gl eB.hp upd:=by
 unfold iv at h
 cases hd:sV o n with
 | false=>rw[hd] at h;cases h
 | true=>
  rw[hd] at h
  simp only[cond_true] at h
  have go:(((fZ P A st.sl i (nb+64*i) o).run C st.hp).bind fun r=>some ((⟨iT st.sl o.dst r.1.v,bW st.hp r.1.upd,st.nb⟩:St),rj r.2 r.1.upd,gl st.hp r.1.upd))=some (st',R,W)→
    ∃x upd,st'=⟨iT st.sl o.dst x,bW st.hp upd,st.nb⟩∧W=gl st.hp upd∧∀eB:St,(∀d∈o.looksAt ops,eB.sl d=st.sl d)→(∀id∈R,vn st.hp eB.hp id)→
     (((fZ P A eB.sl i (nb+64*i) o).run C eB.hp).bind fun r=>some ((⟨iT eB.sl o.dst r.1.v,bW eB.hp r.1.upd,eB.nb⟩:St),rj r.2 r.1.upd,gl eB.hp r.1.upd))=some (⟨iT eB.sl o.dst x,bW eB.hp upd,eB.nb⟩,R,W)∧W=gl eB.hp upd:=by
   intro h
   obtain ⟨⟨r,rd⟩,h1,U⟩:=bind_some h
   cases U
   refine ⟨r.v,r.upd,rfl,rfl,fun eB hs hh=> ?_⟩
   have hw:gl eB.hp r.upd=gl st.hp r.upd:=abo fun q hq=>by
    have:=(hh (q.1+KB) (List.mem_append_right _ (gT.2 ⟨q,hq,rfl⟩))).2 (Nat.le_add_left _ _)
    rwa [xb] at this
   rw[abm (sl':=st.sl) fun x hx k hk=> ?_,tn h1 fun c hc=>hh c (List.mem_append_left _ hc)]
   ·refine ⟨?_,hw.symm⟩
    rw[Option.bind_some,hw]
   ·subst hk
    exact hs k (List.mem_append_left _ (List.mem_filterMap.2 ⟨.tmp k,by simpa using hx,rfl⟩))
  cases hg:o.guard with
  | none=>
   rw[hg] at h
   obtain ⟨x,upd,e1,e2,e3⟩:=go h
   refine ⟨x,upd,e1,e2,fun eB hs hh=> ?_⟩
   unfold iv
   simp only[hd,cond_true,hg]
   exact e3 eB hs hh
  | some gw=>
   obtain ⟨g,want⟩:=gw
   rw[hg] at h
   simp only at h
   cases mD:(ops[g]?).bind (·.dst) with
   | none=>rw[mD] at h;cases h
   | some d=>
    rw[mD] at h
    simp only at h
    have KU:d∈o.looksAt ops:=List.mem_append_right _ (by rw[hg];simp[mD])
    cases np:mc (st.sl d) with
    | none=>rw[np] at h;cases h
    | some ob=>
    rw[np] at h
    cases ob with
    | none=>
     injection h with h
     injection h with h3 h4
     injection h4 with h5 h6
     subst h5;subst h6
     refine ⟨.bn [],[],h3.symm,rfl,fun eB hs hh=> ?_⟩
     unfold iv
     simp only[hd,cond_true,hg,mD,hs d KU,np]
     exact ⟨rfl,rfl⟩
    | some b=>
    simp only at h
    cases hb:b==want with
    | true=>
     rw[hb] at h
     obtain ⟨x,upd,e1,e2,e3⟩:=go h
     refine ⟨x,upd,e1,e2,fun eB hs hh=> ?_⟩
     unfold iv
     simp only[hd,cond_true,hg,mD,hs d KU,np,hb]
     exact e3 eB hs hh
    | false=>
     rw[hb] at h
     simp only[cond_false] at h
     injection h with h
     injection h with h3 h4
     injection h4 with h5 h6
     subst h5;subst h6
     refine ⟨.bn [],[],h3.symm,rfl,fun eB hs hh=> ?_⟩
     unfold iv
     simp only[hd,cond_true,hg,mD,hs d KU,np,hb,cond_false]
     exact ⟨rfl,rfl⟩
theorem So {sl:Nat→V} {d:Option Nat} {x:V} {k:Nat} (h:d≠some k):iT sl d x k=sl k:=by
 cases d with
 | none=>rfl
 | some d=>exact cy _ _ fun e=>h (by rw[e])
theorem abp {hp:Nat→Option ai} {a b:List (Nat × ai)} (h: ∀q∈a,∀q'∈b,q.1≠q'.1):bW (bW hp a) b=bW (bW hp b) a:=by
 funext id
 by_cases ha: ∃q∈a,q.1=id
 ·have hb: ∀q∈b,q.1≠id:=by
   obtain ⟨q,hq,rfl⟩:=ha
   exact fun q' BF e=>h q hq q' BF e.symm
  rw[ya hb]
  obtain ⟨q,hq,rfl⟩:=ha
  have same: ∀(bz ey:Nat→Option ai) (l:List (Nat × ai)) (q:Nat × ai),q∈l→bW bz l q.1=bW ey l q.1:=by
   intro bz ey l
   induction l with
   | nil=>intro q hq;simp at hq
   | cons p l ih=>
    intro q hq
    simp only[bW,ax]
    cases hb:Nat.beq q.1 p.1 with
    | true=>rfl
    | false=>
     simp only[cond_false]
     refine ih q ((dO.1 hq).resolve_left fun e=> ?_)
     rw[e,jE] at hb;cases hb
  exact same _ _ a q hq
 ·rw[ya (hp:=bW hp b) (l:=a) fun q hq e=>ha ⟨q,hq,e⟩]
  have same: ∀(bz ey:Nat→Option ai) (l:List (Nat × ai)),bz id=ey id→bW bz l id=bW ey l id:=by
   intro bz ey l he
   induction l with
   | nil=>exact he
   | cons p l ih=>
    simp only[bW,ax]
    cases hb:Nat.beq id p.1 with
    | true=>rfl
    | false=>exact ih
  exact same _ _ b (ya fun q hq e=>ha ⟨q,hq,e⟩)
structure Sp (ops:Array Oper) (o1 o2:Oper) (R1 W1 R2 W2:List Nat):Prop where
 apart:Oper.apart ops o1 o2=true
 w: ∀id∈W1,id∉R2∧id∉W2
 r: ∀id∈R1,id∉W2
theorem abq {n i j nb:Nat} {ops:Array Oper} {o1 o2:Oper} {st jx eB:St} {R1 W1 R2 W2:List Nat} (h1:iv P A C n ops i o1 nb st=some (jx,R1,W1)) (U:iv P A C n ops j o2 nb jx=some (eB,R2,W2))
  (hi:Sp ops o1 o2 R1 W1 R2 W2): ∃F7,iv P A C n ops j o2 nb st=some (F7,R2,W2)∧iv P A C n ops i o1 nb F7=some (eB,R1,W1):=by
 obtain ⟨x1,u1,e1,f1,g1⟩:=Sn h1
 obtain ⟨x2,u2,e2,f2,g2⟩:=Sn U
 obtain ⟨a1,a2,a3⟩:=Oper.apart_spec hi.apart
 subst e1
 have k2:=g2 st (fun d hd=>by simp only;rw[So fun e=>a1 d e hd]) fun c hc=>(Sm fun hw=>(hi.w c (by rw[f1];exact hw)).1 hc).symm
 refine ⟨_,k2.1,?_⟩
 rw[(g1 _ (fun d hd=> ?_) (fun c hd=> ?_)).1,e2]
 ·congr 3
  ·funext k
   cases F8:o1.dst with
   | none=>rfl
   | some d1=>
    cases jq:o2.dst with
    | none=>rfl
    | some d2=>
     have bq:d2≠d1:=fun e=>a2 d1 F8 (by rw[jq,e])
     simp only[iT,ax]
     cases Sq:Nat.beq k d1<;>cases nq:Nat.beq k d2<;>simp only[cond_true,cond_false]
     rw[aX] at Sq nq
     exact absurd (nq.symm.trans Sq) bq
  ·exact (abp fun q hq q' BF e=>(hi.w q.1 (by rw[f1];exact KT hq)).2 (by rw[f2,e];exact KT BF)).symm
 ·simp only
  rw[So fun e=>a3 d e hd]
 ·exact Sm fun hw=>hi.r c hd (by rw[k2.2];exact hw)
def yc (P:Program) (A:cT) (C:ah) (n:Nat) (ops:Array Oper) (nb:Nat):List (Nat × Oper × List Nat × List Nat)→St→St→Prop
 | [],st,st'=>st=st'
 | (i,o,R,W)::l,st,st'=> ∃jx,iv P A C n ops i o nb st=some (jx,R,W)∧yc P A C n ops nb l jx st'
def vp (x:Nat × Oper × List Nat × List Nat):Nat × List Nat × List Nat:=(x.1,x.2.2.1,x.2.2.2)
theorem Sr {n nb:Nat} {ops:Array Oper}: ∀{l:List (Nat × Oper)} {st st':St} {log F9:Log},qe P A C n ops nb l st log=some (st',F9)→
  ∃g,g.map (fun x=>(x.1,x.2.1))=l∧F9=log++g.map vp∧yc P A C n ops nb g st st'
 | [],st,st',log,F9,h=>by
  cases h
  exact ⟨[],rfl,by simp,rfl⟩
 | (i,o)::l,st,st',log,F9,h=>by
  obtain ⟨⟨jx,R,W⟩,h1,U⟩:=bind_some h
  obtain ⟨g,a,b,c⟩:=Sr U
  exact ⟨(i,o,R,W)::g,by simp[a],by simp[b,vp],jx,h1,c⟩
def Ss (ops:Array Oper) (x y:Nat × Oper × List Nat × List Nat):Prop:=Sp ops x.2.1 y.2.1 x.2.2.1 x.2.2.2 y.2.2.1 y.2.2.2
theorem Su {n nb:Nat} {ops:Array Oper} {y:Nat × Oper × List Nat × List Nat} {g2:List (Nat × Oper × List Nat × List Nat)}: ∀{g1:List (Nat × Oper × List Nat × List Nat)} {st st':St},
  yc P A C n ops nb (g1++y::g2) st st'→(∀x∈g1,Ss ops x y)→∃jx,iv P A C n ops y.1 y.2.1 nb st=some (jx,y.2.2.1,y.2.2.2)∧yc P A C n ops nb (g1++g2) jx st'
 | [],st,st',h,_=>h
 | x::g1,st,st',h,hi=>by
  obtain ⟨jx,h1,U⟩:=h
  obtain ⟨eB,h3,h4⟩:=Su U fun z hz=>hi z (lZ _ hz)
  obtain ⟨F7,h5,h6⟩:=abq h1 h3 (hi x (by simp))
  exact ⟨F7,h5,eB,h6,h4⟩
theorem Sv (hC:lK P A C) (hP:jw P A) {n nb:Nat} {ops:Array Oper} {Q:Exit→Act→World→Prop}: ∀{g:List (Nat × Oper × List Nat × List Nat)} {st st':St} {a:Act} {w:World} {I:Nat→Nat→Prop} {β:Nat→Option Nat},
  yc P A C n ops nb g st st'→(∀x∈g,ops[x.1]? =some x.2.1)→aC P w I β st.hp B M w0→fC P A.idle A.aE w I β n a st→
  (∀a' w' I' β',Le P w I β st.hp w' I' β' st'.hp→aC P w' I' β' st'.hp B M w0→fC P A.idle A.aE w' I' β' n a' st'→Q .normal a' w')→wpOps P ops Q (g.map (·.1)) a w
 | [],st,st',a,w,I,β,h,_,S,hA,hQ=>by
  cases h
  exact hQ a w I β (Le.refl w I β _) S hA
 | x::g,st,st',a,w,I,β,h,ho,S,hA,hQ=>by
  obtain ⟨jx,h1,U⟩:=h
  rw[cM,wpOps_cons]
  refine Sk hC hP (ho x (by simp)) S hA h1 fun a' w' I' β' k1 k2 k3=> ?_
  exact Sv hC hP U (fun y hy=>ho y (lZ _ hy)) k2 k3 fun a2 w2 I2 cm m1 m2 m3=>hQ a2 w2 I2 cm (k1.trans m1) m2 m3
end
section
variable {P:Program} {A:cT} {w w':World} {I I' I2:Nat→Nat→Prop} {μ β β':Nat→Option Nat} {hp hp':Nat→Option ai} {C:ah} {B:Nat} {M:Nat→Prop} {w0:Start}
inductive vq (ops:Array Oper):Nat→Nat→Prop
 | Sw {i x:Nat} {o:Oper} {e:Edge}:ops[i]? =some o→e∈o.after→Region.binds .any e=true→e.on=x→vq ops i x
 | trans {i x:Nat} {o:Oper} {e:Edge}:ops[i]? =some o→e∈o.after→Region.binds .any e=true→vq ops e.on x→vq ops i x
theorem Sy {acc:Array Nat} {x:Nat}: ∀{l:List Edge} {s:Nat},(l.foldl (fun s e=>if Region.binds .any e then s|||2^e.on|||acc.getD e.on 0 else s) s).testBit x=true→
  s.testBit x=true∨∃e∈l,Region.binds .any e=true∧(e.on=x∨(acc.getD e.on 0).testBit x=true)
 | [],s,h=> .inl h
 | e::l,s,h=>by
  simp only[List.foldl_cons] at h
  rcases Sy h with h1|⟨e',a,b⟩
  ·by_cases hb:Region.binds .any e=true
   ·rw[aj hb,Nat.testBit_or,Nat.testBit_or,Bool.or_eq_true,Bool.or_eq_true] at h1
    rcases h1 with (h1|h1)|h1
    ·exact .inl h1
    ·rw[Nat.testBit_two_pow] at h1
     exact .inr ⟨e,by simp,hb,.inl (by simpa using h1)⟩
    ·exact .inr ⟨e,by simp,hb,.inr h1⟩
   ·rw[an hb] at h1
    exact .inl h1
  ·exact .inr ⟨e',lZ _ a,b⟩
theorem Sz {ops:Array Oper} {x:Nat}: ∀{l:List Oper} {acc:Array Nat},(∀j o,l[j]? =some o→ops[acc.size+j]? =some o)→(∀j,(acc.getD j 0).testBit x=true→vq ops j x)→
  ∀j,((l.foldl (fun acc o=>acc.push (o.after.foldl (fun s e=>if Region.binds .any e then s|||2^e.on|||acc.getD e.on 0 else s) 0)) acc).getD j 0).testBit x=true→vq ops j x
 | [],acc,_,Ga,j,h=>Ga j h
 | o::l,acc,hl,Ga,j,h=>by
  simp only[List.foldl_cons] at h
  refine Sz (l:=l) ?_ ?_ j h
  ·intro j o' hj
   have:=hl (j+1) o' (by simpa using hj)
   rw[Array.size_push]
   rwa [show acc.size+1+j=acc.size+(j+1) by omega]
  ·intro k hk
   simp only[xc,Array.getElem?_push] at hk
   by_cases bc:k=acc.size
   ·rw[aj bc] at hk
    simp only[Option.getD_some] at hk
    rw[←EA] at hk
    have ho:=hl 0 o rfl
    rw[Nat.add_zero] at ho
    rw[bc]
    have nq:(o.after.toList.foldl (fun s e=>if Region.binds .any e then s|||2^e.on|||acc.getD e.on 0 else s) 0).testBit x=true:=by simpa[xc] using hk
    rcases Sy nq with h0|⟨e,he,hb,h1⟩
    ·simp at h0
    ·rcases h1 with h1|h1
     ·exact .Sw ho (p5.1 he) hb h1
     ·exact .trans ho (p5.1 he) hb (Ga _ h1)
   ·rw[an bc] at hk
    exact Ga k (by simpa[xc] using hk)
theorem abr {ops:Array Oper} {i x:Nat} (h:((Region.before ops).getD i 0).testBit x=true):vq ops i x:=by
 unfold Region.before at h
 rw[←EA] at h
 refine Sz (l:=ops.toList) (acc:= #[]) (fun j o hj=>by simpa using hj) (fun j hj=>by simp at hj) i h
def SA (ops:Array Oper) (gq:Array Bool):Prop:= ∀i o,ops[i]? =some o→gq.getD i false=true→∀e∈o.after,Region.binds .any e=true→gq.getD e.on false=true
theorem abt {ops:Array Oper} {gq:Array Bool} (hc:SA ops gq) {i x:Nat} (h:vq ops i x) (hi: ∀o,ops[i]? =some o→∀e∈o.after,Region.binds .any e=true→gq.getD e.on false=true):gq.getD x false=true:=by
 induction h with
 | Sw ho he hb hx=>rw[←hx];exact hi _ ho _ he hb
 | trans ho he hb _ ih=>exact ih fun o' jn e' iD az=>hc _ o' jn (hi _ ho _ he hb) e' iD az
theorem SB: ∀{l:List Oper} {k j:Nat} {o:Oper},AJ k l=true→l[j]? =some o→∀e∈o.after,Region.binds .any e=true→e.on<k+j
 | [],k,j,o,_,h=>by simp at h
 | o'::l,k,j,o,hk,h=>by
  simp only[AJ,aO] at hk
  cases j with
  | zero=>
   simp at h
   subst h
   intro e he hb
   have:=fy.1 hk.1 e (p5.2 he)
   simp[hb] at this
   omega
  | succ j=>
   intro e he hb
   have:=SB hk.2 (j:=j) (by simpa using h) e he hb
   omega
theorem SC {ops:Array Oper} {uH:Array Nat}: ∀{l:Log},E7 ops uH l=true→l.Pairwise fun x y=>AI ops uH x y=true
 | [],_=> .nil
 | x::l,h=>by
  simp only[E7,aO] at h
  exact .cons (fun y hy=>fy.1 h.1 y hy) (SC h.2)
theorem SD {gq:Array Bool} {i:Nat} (h:gq.getD i true=false):i<gq.size∧gq.getD i false=false:=by
 rcases pY i gq.size with h'|h'
 ·refine ⟨h',?_⟩
  simpa[h'] using h
 ·simp[Array.getElem?_eq_none h'] at h
theorem SF (hC:lK P A C) (hP:jw P A) {n nb:Nat} {ops:Array Oper} {Q:Exit→Act→World→Prop} (Gb:AJ 0 ops.toList=true):
  ∀(fuel:Nat) {g:List (Nat × Oper × List Nat × List Nat)} {gq:Array Bool} {st st':St} {a:Act} {w:World} {I:Nat→Nat→Prop} {β:Nat→Option Nat},
  g.length=fuel→yc P A C n ops nb g st st'→(∀x∈g,ops[x.1]? =some x.2.1)→(g.map (·.1)).Pairwise (· < ·)→(g.map vp).Pairwise (fun x y=>AI ops (Region.before ops) x y=true)→
  gq.size=ops.size→(∀i,i<ops.size→(gq.getD i false=false↔i∈g.map (·.1)))→SA ops gq→
  aC P w I β st.hp B M w0→fC P A.idle A.aE w I β n a st→
  (∀a' w' I' β',Le P w I β st.hp w' I' β' st'.hp→aC P w' I' β' st'.hp B M w0→fC P A.idle A.aE w' I' β' n a' st'→Q .normal a' w')→wpAny P .any ops Q fuel gq a w
 | 0,g,gq,st,st',a,w,I,β,hf,hr,ho,aJ,Gc,aU,vr,lH,S,hA,hQ=>by
  obtain rfl:g=[]:=lY hf
  cases hr
  refine ⟨?_,hQ a w I β (Le.refl w I β _) S hA⟩
  rw[List.eq_nil_iff_forall_not_mem]
  intro i hi
  obtain ⟨h0,_⟩:=mem_ready.1 hi
  obtain ⟨h1,U⟩:=SD h0
  have:=(vr i (by omega)).1 U
  simp at this
 | fuel+1,g,gq,st,st',a,w,I,β,hf,hr,ho,aJ,Gc,aU,vr,lH,S,hA,hQ=>by
  refine ⟨fun BH=> ?_,fun i hi=> ?_⟩
  ·exfalso
   cases g with
   | nil=>simp at hf
   | cons x g=>
    have hx:=ho x (by simp)
    have g9:x.1<ops.size:=(iQ.1 hx).1
    have mr:x.1∈Region.ready .any ops gq:=by
     rw[mem_ready]
     have h0:=(vr x.1 g9).2 (by simp)
     refine ⟨?_,x.2.1,hx,fun e he hb=> ?_⟩
     ·have hl:x.1<gq.size:=by omega
      simpa[hl] using h0
     ·have Kf:=SB Gb (j:=x.1) (by simpa using hx) e he hb
      rw[fx] at Kf
      cases hle:gq.getD e.on false with
      | true=>rfl
      | false=>
       have hm:=(vr e.on (by omega)).1 hle
       simp only[cM,dO] at hm
       rw[cM,uy] at aJ
       rcases hm with hm|hm
       ·omega
       ·have:=aJ.1 _ hm;omega
    rw[BH] at mr
    cases mr
  ·obtain ⟨h0,oi,BJ,SG⟩:=mem_ready.1 hi
   obtain ⟨h1,U⟩:=SD h0
   have hig:=(vr i (by omega)).1 U
   obtain ⟨y,hy,hyi⟩:=gT.1 hig
   obtain ⟨g1,g2,rfl⟩:=List.append_of_mem hy
   subst hyi
   have SH:=ho y hy
   rw[BJ] at SH
   have SI:oi=y.2.1:=dh SH
   have jv:((g1++y::g2).map (·.1)).Nodup:=aJ.imp fun h=>Ah h
   have abu: ∀x∈g1,Ss ops x y:=by
    intro x hx
    have hp:AI ops (Region.before ops) (vp x) (vp y)=true:=by
     rw[eJ,cM,List.pairwise_append] at Gc
     exact Gc.2.2 _ (gT.2 ⟨x,hx,rfl⟩) _ (by simp)
    have KV:=ho x (eZ.2 (.inl hx))
    unfold AI at hp
    rw[Bool.or_eq_true] at hp
    rcases hp with hp|hp
    ·have hl:=abt lH (abr hp) fun o jn e he hb=>by
      have:o=oi:=by
       have h3:ops[y.1]? =some o:=jn
       rw[BJ] at h3
       exact (dh h3).symm
      subst this
      exact SG e he hb
     have g9:x.1<ops.size:=(iQ.1 KV).1
     have:=(vr x.1 g9).2 (gT.2 ⟨x,eZ.2 (.inl hx),rfl⟩)
     rw[show (vp x).1=x.1 from rfl,this] at hl
     cases hl
    ·simp only[vp,xc,KV,BJ,Option.getD_some,aO,kJ] at hp
     obtain ⟨q1,q2,q3⟩:=hp
     refine ⟨SI▸q1,fun id ab=> ?_,fun id ab=>F2 q3 ab⟩
     have:=F2 q2 ab
     rw[eZ] at this
     exact ⟨fun h=>this (.inl h),fun h=>this (.inr h)⟩
   obtain ⟨jx,iz,lI⟩:=Su hr abu
   rw[←SI] at iz
   refine Sk hC hP BJ S hA iz fun a' w' I' β' k1 k2 k3=> ?_
   have kU:List.Sublist (g1++g2) (g1++y::g2):=List.Sublist.append_left (List.sublist_cons_self y g2) g1
   have uJ: ∀j,j≠y.1→(gq.setIfInBounds y.1 true).getD j false=gq.getD j false:=fun j hj=>getD_set_ne false (Ne.symm hj)
   refine SF hC hP Gb fuel (g:=g1++g2) (st':=st') ?_ lI (fun x hx=>ho x (kU.subset hx)) (aJ.sublist (kU.map _)) (Gc.sublist (kU.map _)) (by simp[aU]) (fun j hj=> ?_) (fun j o KW b9 e he hb=> ?_) k2 k3 fun a2 w2 I2 cm m1 m2 m3=>hQ a2 w2 I2 cm (k1.trans m1) m2 m3
   ·simp at hf⊢;omega
   ·by_cases qm:j=y.1
    ·subst qm
     have hl:y.1<gq.size:=by omega
     simp only[xc,I6 hl,Option.getD_some]
     refine ⟨fun h=>(by cases h),fun h=> ?_⟩
     exfalso
     rw[eJ,cM,xf,List.nodup_cons] at jv
     rw[eJ,eZ] at h
     rcases h with h|h
     ·exact jv.2.2 _ h _ (by simp) rfl
     ·exact jv.2.1.1 h
    ·rw[uJ j qm,vr j hj]
     simp only[eJ,cM,eZ,dO]
     constructor
     ·rintro (h|h|h)
      ·exact .inl h
      ·exact absurd h qm
      ·exact .inr h
     ·rintro (h|h)
      ·exact .inl h
      ·exact .inr (.inr h)
   ·by_cases qm:j=y.1
    ·subst qm
     rw[BJ] at KW
     cases KW
     exact getD_set_true (SG e he hb)
    ·rw[uJ j qm] at b9
     exact getD_set_true (lH j o KW b9 e he hb)
end
section
variable {P:Program} {A:cT} {w w':World} {I I' I2:Nat→Nat→Prop} {μ β β':Nat→Option Nat} {hp hp':Nat→Option ai} {C:ah} {B:Nat} {M:Nat→Prop} {w0:Start}
theorem SJ: ∀{l:List Oper} {k j:Nat},(oX k l)[j]? =(l[j]?).map fun o=>(k+j,o)
 | [],k,j=>by simp[oX]
 | o::l,k,0=>by simp[oX]
 | o::l,k,j+1=>by
  simp only[oX,List.getElem?_cons_succ,SJ]
  congr 1
  funext o
  rw[show k+1+j=k+(j+1) by omega]
theorem SK: ∀{l:List Oper} {k:Nat},(oX k l).map (·.1)=List.range' k l.length
 | [],k=>rfl
 | o::l,k=>by simp[oX,SK,List.range'_succ]
theorem abv (hC:lK P A C) (hP:jw P A) (hm:P.follows .mixedOrders=true) {n id:Nat} {ops:Array Oper} {draw:Bool} {st st':St} {a:Act} {Q:Exit→Act→World→Prop}
  (h:AL P A C n ops draw st=some st') (S:aC P w I β st.hp B M w0) (hA:fC P A.idle A.aE w I β n a st)
  (hQ: ∀a' w' I' β',Le P w I β st.hp w' I' β' st'.hp→aC P w' I' β' st'.hp B M w0→fC P A.idle A.aE w' I' β' n a' st'→Q .normal a' w'):(Code.region id ops draw).wp P Q a w:=by
 obtain ⟨⟨jx,log⟩,h1,U⟩:=bind_some h
 obtain ⟨g,g1,g2,g3⟩:=Sr h1
 have Ge:g.map (·.1)=List.range ops.size:=by
  have:g.map (·.1)=(g.map fun x=>(x.1,x.2.1)).map (·.1):=by simp
  rw[this,g1,SK,List.range_eq_range']
  simp
 have SL: ∀x∈g,ops[x.1]? =some x.2.1:=by
  intro x hx
  have:(x.1,x.2.1)∈oX 0 ops.toList:=by rw[←g1];exact gT.2 ⟨x,hx,rfl⟩
  obtain ⟨j,hj⟩:=List.mem_iff_getElem?.1 this
  rw[SJ] at hj
  cases ho:ops.toList[j]? with
  | none=>rw[ho] at hj;cases hj
  | some o=>
   rw[ho] at hj
   simp only[Option.map_some,fx,ek,kK] at hj
   rw[←hj.1,←hj.2]
   simpa using ho
 cases draw with
 | false=>
  simp only[uz,Bool.true_or,cond_true] at U
  cases U
  refine wp_region ?_
  rw[←Ge]
  exact Sv hC hP g3 SL S hA hQ
 | true=>
  simp only[qS,Bool.false_or] at U
  cases hc:(Region.noSelect ops&&AK ops log) with
  | false=>rw[hc] at U;cases U
  | true=>
   rw[hc] at U
   cases U
   simp only[aO,AK] at hc
   obtain ⟨hns,Gb,abw⟩:=hc
   simp only[List.nil_append] at g2
   refine wp_region_any hm ?_
   have hlen:g.length=ops.size:=by
    have:=congrArg List.length Ge
    simpa using this
   refine SF hC hP Gb ops.size (g:=g) (st':=st') hlen g3 SL (by rw[Ge];exact List.pairwise_lt_range) (by rw[←g2];exact SC abw) (by simp) (fun i hi=> ?_) (fun i o ho hl=> ?_)
    (w:=w.drew) S.drew ⟨fun k=>(hA.sl k).mono (Le.drew w I β _),hA.size,hA.defers,hA.aE.mono (Le.drew (P:=P) w I β st.hp).dC (Le.drew (P:=P) w I β st.hp).cx⟩ fun a' w' I' β' k1 k2 k3=>hQ a' w' I' β' ((Le.drew w I β _).trans k1) k2 k3
   ·rw[Ge]
    simp[hi]
   ·have hi:=(iQ.1 ho).1
    simp[hi] at hl
end
section
variable {P:Program} {A:cT} {E:FuncId→Bool} {G:Nat→V} {w w':World} {I I' I2:Nat→Nat→Prop} {μ β β':Nat→Option Nat} {hp hp':Nat→Option ai} {C:ah} {B:Nat} {M:Nat→Prop} {w0:Start}
theorem vu: ∀{l:List Nat} {hp:Nat→Option ai} {I:Nat→Nat→Prop},aC P w I β hp B M w0→∃I',Le P w I β hp w I' β (rh hp l)∧aC P w I' β (rh hp l) B M w0
 | [],hp,I,S=>⟨I,Le.refl w I β hp,S⟩
 | id::l,hp,I,S=>by
  simp only[rh]
  cases ab:hp id with
  | none=>exact vu S
  | some blk=>
   cases blk with
   | dead=>exact vu S
   | var _=>exact vu S
   | map _ _=>exact vu S
   | arr e es fz=>
    obtain ⟨h1,U⟩:=AY S (upd:=[(id,.arr e es true)]) (fun p hp=>by
     simp only[eH] at hp
     subst hp
     exact ⟨e,es,rfl,.inl ⟨fz,ab⟩⟩)
    obtain ⟨I',h3,h4⟩:=vu (l:=l) U
    exact ⟨I',h1.trans h3,h4⟩
   | nest e es vers=>
    obtain ⟨h1,U⟩:=AY S (upd:=[(id,.arr e es true)]) (fun p hp=>by
     simp only[eH] at hp
     subst hp
     exact ⟨e,es,rfl,.inr ⟨vers,ab⟩⟩)
    obtain ⟨I',h3,h4⟩:=vu (l:=l) U
    exact ⟨I',h1.trans h3,h4⟩
theorem SM {n:Nat} {a:Act} {st:St} (S:aC P w I β st.hp B M w0) (hA:fC P E G w I β n a st):
  ∃I',Le P w I β st.hp w I' β st.hp∧aC P w I' β st.hp B M w0∧fC P E G w I' β n a st∧qh P I' β st.hp:=by
 obtain ⟨I',h1,U,h3⟩:=Qh S
 exact ⟨I',h1,U,⟨fun k=>(hA.sl k).mono h1,hA.size,hA.defers,hA.aE.mono h1.dC h1.cx⟩,h3⟩
theorem abx {hp:Nat→Option ai} (S:aC P w I β hp B M w0) (hT:qh P I β hp) {v:Value} {x:V} (hv:ak P w I β hp v x):ak P w I β hp v (E6 hp x):=by
 cases x with
 | whole e id=>
  simp only[E6]
  split
  ·rename_i e' es ab
   cases he:Nat.beq e e' with
   | false=>exact hv
   | true=>
    rw[aX] at he
    subst he
    simp only[cond_true]
    cases hv with
    | dI h=>rw[ab] at h;cases h
    | di h=>rw[ab] at h;cases h
    | dB h=>rw[ab] at h;cases h
    | dw h=>rw[ab] at h;cases h;exact .list (.any fun _=>rfl)
    | whole h hb aU b6 hm=>
     rw[ab] at h;cases h
     have hr:=S.h.rel id _ ab
     cases hr with
     | dJ az=>rw[az] at hb;cases hb
     | arr ar az hh hs hf dP hx=>
      rw[hb] at az;cases az
      have:=s6 (I':=I) (off:=0) (len:=es.length) (o:=0) hh hx (eR ar) (by omega) b6 (fun _=>by simp) (fun _ _ h=>h) (hT _ _ _ _ ab hb)
      exact .list (by simpa using this)
  ·exact hv
 | _=>exact hv
theorem aby {n:Nat} {a:Act} {st:St} (S:aC P w I β st.hp B M w0) (hA:fC P E G w I β n a st) (p:Nat):
  ∃β',Le P w I β st.hp w I β' (sU st p).hp∧aC P w I β' (sU st p).hp B M w0∧fC P E G w I β' n a (sU st p):=by
 have same: ∃β',Le P w I β st.hp w I β' st.hp∧aC P w I β' st.hp B M w0∧fC P E G w I β' n a st:=⟨β,Le.refl ..,S,hA⟩
 unfold sU
 cases Nat.ble (2*KB) p with
 | false=>exact same
 | true=>
  simp only[cond_true]
  split
  ·rename_i e hn hx
   obtain ⟨h1,U⟩:=JD S (vers:=[0,0,0]) e hn
   refine ⟨_,h1,U,⟨fun k=> ?_,hA.size,hA.defers,hA.aE⟩⟩
   show ak P w I (ax β st.nb none) (ax st.hp st.nb (some (.nest e [] [0,0,0]))) _ (ax st.sl (p %KB) (V.whole e st.nb) k)
   by_cases hk:k=p %KB
   ·subst hk
    have hv:=hA.sl (p %KB)
    rw[hx] at hv
    rw[bS]
    generalize a.tmps.getD (p %KB) _=v at hv⊢
    cases hv
    exact .dB (bS _ _ _) (bS _ _ _)
   ·rw[cy _ _ hk]
    exact (hA.sl k).mono h1
  ·rename_i cs hn hx
   split
   ·rename_i e hc
    obtain ⟨h1,U⟩:=JD S (vers:=[0,0,0]) e hn
    refine ⟨_,h1,U,⟨fun k=> ?_,hA.size,hA.defers,hA.aE⟩⟩
    show ak P w I (ax β st.nb none) (ax st.hp st.nb (some (.nest e [] [0,0,0]))) _ (ax st.sl (p %KB) (V.agg (cs.set (p/KB-2) (.whole e st.nb))) k)
    by_cases hk:k=p %KB
    ·subst hk
     have hv:=hA.sl (p %KB)
     rw[hx] at hv
     rw[bS]
     generalize a.tmps.getD (p %KB) _=v at hv⊢
     obtain ⟨vs,rfl,iz,lI⟩:=hv.kb
     refine .agg (by simpa using iz) fun j v x hv jr=> ?_
     by_cases hj:p/KB-2=j
     ·subst hj
      have aJ:=(bm.1 hc).1
      rw[uw aJ] at jr
      cases jr
      have vf:=lI _ v _ hv hc
      cases vf
      exact .dB (vers:=[0,0,0]) (bS _ _ _) (bS _ _ _)
     ·rw[Ag hj] at jr
      exact (lI j v x hv jr).mono h1
    ·rw[cy _ _ hk]
     exact (hA.sl k).mono h1
   ·exact same
  ·rename_i id hn hx
   split
   ·rename_i T cs ab
    split
    ·rename_i e hc
     obtain ⟨h1,U⟩:=JD S (vers:=[0,0,0]) e hn
     have bq:id≠st.nb:=fun h=>by rw[h,hn] at ab;cases ab
     have tf:ax st.hp st.nb (some (.nest e [] [0,0,0])) id=some (.var T cs):=by rw[cy _ _ bq];exact ab
     have hr:=U.h.rel id _ tf
     generalize ho:ax β st.nb none id=o at hr
     cases hr with
     | @var _ b Ca _ hb hh hs hI mu gb=>
     subst hb
     obtain ⟨h3,h4⟩:=A0 (w':=w) U (blk':= .var T (cs.set (p/KB-2) (.whole e st.nb))) tf (by simp) rfl ho hI (by simp) (fun _ _=>rfl) rfl (cl _) ⟨rfl,rfl⟩
      (fun hle=> .var rfl hh (by simpa using hs) hI (fun j v x hv jr=>by
       by_cases hj:p/KB-2=j
       ·subst hj
        have aJ:=(bm.1 hc).1
        rw[uw aJ] at jr
        cases jr
        have vf:=mu _ v _ hv hc
        cases vf
        exact .dB (vers:=[0,0,0]) (by rw[cy _ _ (Ne.symm bq)];exact bS _ _ _) (bS _ _ _)
       ·rw[Ag hj] at jr
        exact (mu j v x hv jr).mono hle) gb)
     exact ⟨_,h1.trans h3,h4,⟨fun k=>(hA.sl k).mono (h1.trans h3),hA.size,hA.defers,hA.aE⟩⟩
    ·exact same
   ·exact same
  ·exact same
theorem SN {n:Nat} {a:Act}: ∀(l:List Nat) {st:St} {β:Nat→Option Nat},aC P w I β st.hp B M w0→fC P E G w I β n a st→
  ∃β',Le P w I β st.hp w I β' (l.foldl sU st).hp∧aC P w I β' (l.foldl sU st).hp B M w0∧fC P E G w I β' n a (l.foldl sU st)
 | [],st,β,S,hA=>⟨β,Le.refl ..,S,hA⟩
 | p::l,st,β,S,hA=>by
  obtain ⟨BG,h1,U,h3⟩:=aby S hA p
  obtain ⟨cm,h4,h5,h6⟩:=SN l U h3
  exact ⟨cm,h1.trans h4,h5,h6⟩
theorem SO {n m:Nat} {pur:List Nat} {a:Act} {st:St} (S:aC P w I β st.hp B M w0) (hA:fC P E G w I β n a st):
  ∃I' β',Le P w I β st.hp w I' β' (freeze m pur st).hp∧aC P w I' β' (freeze m pur st).hp B M w0∧fC P E G w I' β' n a (freeze m pur st):=by
 obtain ⟨I1,h1,U⟩:=vu (l:=(E5 st pur).filter fun id=>Nat.ble m id) S
 obtain ⟨I',h3,h4,h5⟩:=Qh U
 have h1:=h1.trans h3
 have hA2:fC P E G w I' β n a ⟨fun k=>bif gD pur (k+KB) then E6 (rh st.hp ((E5 st pur).filter fun id=>Nat.ble m id)) (st.sl k) else st.sl k,rh st.hp ((E5 st pur).filter fun id=>Nat.ble m id),st.nb⟩:=by
  refine ⟨fun k=> ?_,hA.size,hA.defers,hA.aE.mono h1.dC h1.cx⟩
  have hv:=(hA.sl k).mono h1
  cases hm:gD pur (k+KB) with
  | false=>simp only[hm,cond_false];exact hv
  | true=>simp only[hm,cond_true];exact abx h4 h5 hv
 obtain ⟨β',k1,k2,k3⟩:=SN pur h4 hA2
 exact ⟨I',β',h1.trans k1,k2,k3⟩
structure yd (hp:Nat→Option ai) (β:Nat→Option Nat) (ord:List Nat) (hp':Nat→Option ai) (β':Nat→Option Nat):Prop where
 arr: ∀(j:Nat) id e es fz,ord[j]? =some id→hp id=some (.arr e es fz)→hp' j=some (.arr e es fz)
 var: ∀(j:Nat) id T cs,ord[j]? =some id→hp id=some (.var T cs)→∃iZ,hp' j=some (.var T iZ)
 dead: ∀(j:Nat) id,ord[j]? =some id→hp id=some .dead→hp' j=some .dead
 place: ∀(j:Nat) id,ord[j]? =some id→β' j=β id
 nest: ∀(j:Nat) id e es vers,ord[j]? =some id→hp id=some (.nest e es vers)→hp' j=some (.nest e es (vers.map fun _=>0))
 map: ∀(j:Nat) id t es,ord[j]? =some id→hp id=some (.map t es)→hp' j=some (.map t es)
theorem lL: ∀{l:List Nat} {n i j:Nat},iq l n i=some j→∃k,j=i+k∧l[k]? =some n
 | [],n,i,j,h=>by cases h
 | a::l,n,i,j,h=>by
  simp only[iq] at h
  cases hb:Nat.beq n a with
  | true=>
   rw[hb] at h
   cases h
   rw[aX] at hb
   exact ⟨0,rfl,by rw[hb];rfl⟩
  | false=>
   rw[hb] at h
   obtain ⟨k,h1,U⟩:=lL h
   exact ⟨k+1,by omega,by simpa using U⟩
def lM (hp':Nat→Option ai) (β':Nat→Option Nat) (n:Nat) (bs:List ai):Prop:=
 ∀(k:Nat) b,bs[k]? =some b→hp' (n+k)=some b∧β' (n+k)=none
theorem KX: ∀(vers:List Nat) (k:Nat),bO (vers.map fun _=>0) k=0
 | [],_=>rfl
 | _::_,0=>rfl
 | _::vs,k+1=>KX vs k
theorem SP {e:TypeId} {es:List V} {vers:List Nat} {path:Path} {ver:Nat} (hc:(Nat.blt 0 path.length&&(Nat.ble path.length vers.length&&Nat.beq (bO vers (path.length-1)) ver))=true)
  (h:(ai.nest e es vers).uK path ver):False:=by
 simp only[aO,jZ,dq,aX] at hc
 obtain ⟨h1,U,h3⟩:=hc
 rcases h with h|h|h
 ·subst h;simp at h1
 ·omega
 ·omega
theorem SQ (S:aC P w I β hp B M w0) (hT:qh P I β hp) {ord:List Nat} (hR:yd hp β ord hp' β') {v:Value} {x:V} (hv:ak P w I β hp v x):ak P w I β' hp' v (iu hp ord x):=by
 cases hv with
 | undef=>exact .undef
 | int=>exact .int
 | bool=>exact .bool
 | str h=>exact .str h
 | list h=>exact .list h
 | nilS=>exact .nilS
 | agg=>exact .undef
 | bn=>exact .undef
 | dH=>exact .dH
 | fn=>exact .undef
 | pref a b c=>exact .pref a b c
 | @dI _ e id ab=>
  simp only[iu]
  cases bz:iq ord id 0 with
  | none=>simp only[ab];exact .undef
  | some j=>
   obtain ⟨k,rfl,hk⟩:=lL bz
   exact .dI (hR.dead _ id (by simpa using hk) ab)
 | @gE _ e id off len ab=>
  simp only[iu]
  cases bz:iq ord id 0 with
  | none=>simp only[ab];exact .undef
  | some j=>
   obtain ⟨k,rfl,hk⟩:=lL bz
   exact .gE (hR.dead _ id (by simpa using hk) ab)
 | @kP _ id i c ab=>
  simp only[iu]
  cases bz:iq ord id 0 with
  | none=>exact .undef
  | some j=>
   obtain ⟨k,rfl,hk⟩:=lL bz
   exact .kP (hR.dead _ id (by simpa using hk) ab)
 | @dw e id fz _ ab hb=>
  simp only[iu]
  cases bz:iq ord id 0 with
  | none=>
   simp only[ab]
   cases fz with
   | false=>exact .undef
   | true=>simp only[jE,cond_true];exact .list (.any fun _=>rfl)
  | some j=>
   obtain ⟨k,rfl,hk⟩:=lL bz
   have dj:ord[0+k]? =some id:=by simpa using hk
   exact .dw (hR.arr _ id _ _ _ dj ab) ((hR.place _ id dj).trans hb)
 | @whole e id es fz b cap ab hb aU b6 hm=>
  simp only[iu]
  cases bz:iq ord id 0 with
  | none=>
   simp only[ab]
   cases fz with
   | false=>exact .undef
   | true=>
    simp only[jE,cond_true]
    have hr:=S.h.rel id _ ab
    cases hr with
    | dJ az=>rw[az] at hb;cases hb
    | arr ar az hh hs hf dP hx=>
     rw[hb] at az;cases az
     have:=s6 (I':=I) (off:=0) (len:=es.length) (o:=0) hh hx (eR ar) (by omega) b6 (fun _=>by simp) (fun _ _ h=>h) (hT _ _ _ _ ab hb)
     exact .list (by simpa using this)
  | some j=>
   obtain ⟨k,rfl,hk⟩:=lL bz
   have dj:ord[0+k]? =some id:=by simpa using hk
   exact .whole (hR.arr _ id _ _ _ dj ab) ((hR.place _ id dj).trans hb) aU b6 hm
 | @gn e id fz _ ab hb=>
  simp only[iu]
  cases bz:iq ord id 0 with
  | none=>
   simp only[ab]
   cases fz with
   | false=>exact .undef
   | true=>simp only[jE,cond_true];exact .list (by simpa using (jm.any (P:=P) fun _=>rfl))
  | some j=>
   obtain ⟨k,rfl,hk⟩:=lL bz
   have dj:ord[0+k]? =some id:=by simpa using hk
   exact .gn (hR.arr _ id _ _ _ dj ab) ((hR.place _ id dj).trans hb)
 | @sub e id off len es fz b o cap ab hb kR b6 ho=>
  simp only[iu]
  cases bz:iq ord id 0 with
  | none=>
   simp only[ab]
   cases fz with
   | false=>exact .undef
   | true=>
    simp only[jE,cond_true]
    have hr:=S.h.rel id _ ab
    cases hr with
    | dJ az=>rw[az] at hb;cases hb
    | arr ar az hh hs hf dP hx=>
     rw[hb] at az;cases az
     exact .list (s6 (I':=I) hh hx (eR ar) kR b6 ho (fun _ _ h=>h) (hT _ _ _ _ ab hb))
  | some j=>
   obtain ⟨k,rfl,hk⟩:=lL bz
   have dj:ord[0+k]? =some id:=by simpa using hk
   exact .sub (hR.arr _ id _ _ _ dj ab) ((hR.place _ id dj).trans hb) kR b6 ho
 | @ptr id i c b blk ab hd hb=>
  simp only[iu]
  cases bz:iq ord id 0 with
  | none=>exact .undef
  | some j=>
   obtain ⟨k,rfl,hk⟩:=lL bz
   have dj:ord[0+k]? =some id:=by simpa using hk
   cases blk with
   | dead=>exact absurd rfl hd
   | var T0 cs=>
    obtain ⟨iZ,h'⟩:=hR.var _ id T0 cs dj ab
    exact .ptr (blk:= .var T0 iZ) h' (by simp) ((hR.place _ id dj).trans hb)
   | arr e es fz=>exact .ptr (blk:= .arr e es fz) (hR.arr _ id _ _ _ dj ab) (by simp) ((hR.place _ id dj).trans hb)
   | nest e es vers=>exact .ptr (blk:= .nest e es (vers.map fun _=>0)) (hR.nest _ id _ _ _ dj ab) (by simp) ((hR.place _ id dj).trans hb)
   | map t es=>exact .ptr (blk:= .map t es) (hR.map _ id _ _ dj ab) (by simp) ((hR.place _ id dj).trans hb)
 | dV=>exact .dV
 | @iW _ t id ab=>
  simp only[iu]
  cases bz:iq ord id 0 with
  | none=>exact .undef
  | some j=>
   obtain ⟨k,rfl,hk⟩:=lL bz
   exact .iW (hR.dead _ id (by simpa using hk) ab)
 | @cQ t id b es ab hb=>
  simp only[iu]
  cases bz:iq ord id 0 with
  | none=>exact .undef
  | some j=>
   obtain ⟨k,rfl,hk⟩:=lL bz
   have dj:ord[0+k]? =some id:=by simpa using hk
   exact .cQ (hR.map _ id _ _ dj ab) ((hR.place _ id dj).trans hb)
 | @dB e id vers _ ab hb=>
  simp only[iu]
  cases bz:iq ord id 0 with
  | none=>simp only[ab];exact .undef
  | some j=>
   obtain ⟨k,rfl,hk⟩:=lL bz
   have dj:ord[0+k]? =some id:=by simpa using hk
   exact .dB (hR.nest _ id _ _ _ dj ab) ((hR.place _ id dj).trans hb)
 | @di e id es vers b cap ab hb aU b6 hm=>
  simp only[iu]
  cases bz:iq ord id 0 with
  | none=>simp only[ab];exact .undef
  | some j=>
   obtain ⟨k,rfl,hk⟩:=lL bz
   have dj:ord[0+k]? =some id:=by simpa using hk
   exact .di (hR.nest _ id _ _ _ dj ab) ((hR.place _ id dj).trans hb) aU b6 hm
 | @j8 v e id ver path blk ab AW=>
  simp only[iu]
  split
  ·rename_i j e1 cF vers h1 U
   rw[ab] at U
   cases U
   cases hc:(Nat.blt 0 path.length&&(Nat.ble path.length vers.length&&Nat.beq (bO vers (path.length-1)) ver)) with
   | false=>exact .undef
   | true=>exact (SP hc AW).elim
  ·exact .undef
 | @j9 v id ver i c path blk ab AW=>
  simp only[iu]
  split
  ·rename_i j e1 cF vers h1 U
   rw[ab] at U
   cases U
   cases hc:(Nat.blt 0 path.length&&(Nat.ble path.length vers.length&&Nat.beq (bO vers (path.length-1)) ver)) with
   | false=>exact .undef
   | true=>exact (SP hc AW).elim
  ·exact .undef
 | @row v e e0 t id ver b i c q es l vers ab hb hq hv ht hc=>
  simp only[iu]
  split
  ·rename_i j e1 cF s7 h1 U
   obtain ⟨k,rfl,hk⟩:=lL h1
   have dj:ord[0+k]? =some id:=by simpa using hk
   cases hx:(Nat.blt 0 (q++[(i,c)]).length&&(Nat.ble (q++[(i,c)]).length s7.length&&Nat.beq (bO s7 ((q++[(i,c)]).length-1)) ver)) with
   | false=>exact .undef
   | true=>exact .row (hR.nest _ id _ _ _ dj ab) ((hR.place _ id dj).trans hb) (by simpa using hq) (KX _ _) ht hc
  ·exact .undef
 | @cX e e0 t id ver b b1 len cap i0 c0 i c q es l vers ab hb hq hv ht gW hc=>
  simp only[iu]
  split
  ·rename_i j e1 cF s7 h1 U
   obtain ⟨k,rfl,hk⟩:=lL h1
   have dj:ord[0+k]? =some id:=by simpa using hk
   cases hx:(Nat.blt 0 (q++[(i0,c0)]).length&&(Nat.ble (q++[(i0,c0)]).length s7.length&&Nat.beq (bO s7 ((q++[(i0,c0)]).length-1)) ver)) with
   | false=>exact .undef
   | true=>exact .cX (hR.nest _ id _ _ _ dj ab) ((hR.place _ id dj).trans hb) (by simpa using hq) (KX _ _) ht gW hc
  ·exact .undef
theorem SR (S:aC P w I β hp B M w0) (hT:qh P I β hp) {ord:List Nat} (hR:yd hp β ord hp' β') {vs:Array Value} {xs:List V} (h: ∀(j:Nat) v x,vs[j]? =some v→xs[j]? =some x→ak P w I β hp v x) (j:Nat) (v:Value) (y:V)
  (hv:vs[j]? =some v) (hy:(xs.map (iu hp ord))[j]? =some y):ak P w I β' hp' v y:=by
 rw[e7] at hy
 cases hx:xs[j]? with
 | none=>rw[hx] at hy;cases hy
 | some x=>rw[hx] at hy;cases hy;exact SQ S hT hR (h j v x hv hx)
theorem SS (S:aC P w I β hp B M w0) (hT:qh P I β hp) {ord:List Nat} (hR:yd hp β ord hp' β') {n:Nat} {v:Value} {x:V} (hv:ak P w I β hp v x) (hF:lM hp' β' n (xu hp ord n x).2):
  ak P w I β' hp' v (xu hp ord n x).1:=by
 cases x with
 | nilS e=>
  obtain ⟨h1,U⟩:=hF 0 _ rfl
  cases hv with
  | nilS=>exact .dw h1 U
 | fn f a b=>
  cases hv with
  | fn q1 q2 q3 q4=>exact .fn (by simpa using q1) (SR S hT hR q2) (by simpa using q3) (SR S hT hR q4)
 | _=>exact SQ S hT hR hv
end
section
variable {P:Program} {A:cT} {w w':World} {I I' I2:Nat→Nat→Prop} {μ β β':Nat→Option Nat} {hp hp':Nat→Option ai} {C:ah} {B:Nat} {M:Nat→Prop} {w0:Start}
theorem lM.left {n:Nat} {a b:List ai} (h:lM hp' β' n (a++b)):lM hp' β' n a:=fun k x hx=>
 h k x (by rw[gi (bm.1 hx).1];exact hx)
theorem lM.right {n:Nat} {a b:List ai} (h:lM hp' β' n (a++b)):lM hp' β' (n+a.length) b:=fun k x hx=>by
 have:=h (a.length+k) x (by rw[ik (by omega),ED];exact hx)
 rwa [←l8] at this
def nr (bs:List ai):Prop:= ∀b∈bs,∃e,b= .arr e [] false
theorem nr.app {a b:List ai} (h1:nr a) (U:nr b):nr (a++b):=fun x hx=>(eZ.1 hx).elim (h1 x) (U x)
theorem nr.nil:nr []:=fun x hx=>by simp at hx
theorem SU {ord:List Nat} {n:Nat} {x:V}:nr (xu hp ord n x).2:=by
 cases x<;>simp only[xu]<;>first|exact .nil|skip
 intro b hb
 simp only[eH] at hb
 exact ⟨_,hb⟩
theorem KY {ord:List Nat}: ∀{xs:List V} {n:Nat},nr (nX hp ord n xs).2
 | [],n=> .nil
 | x::xs,n=>by
  simp only[nX]
  exact SU.app KY
theorem Gf {ord:List Nat}: ∀{xs:List V} {n:Nat},(nX hp ord n xs).1.length=xs.length
 | [],n=>rfl
 | x::xs,n=>by simp only[nX,List.length_cons,Gf]
theorem Gg (S:aC P w I β hp B M w0) (hT:qh P I β hp) {ord:List Nat} (hR:yd hp β ord hp' β'): ∀{xs:List V} {vs:List Value} {n:Nat},(∀(j:Nat) v x,vs[j]? =some v→xs[j]? =some x→ak P w I β hp v x)→
  lM hp' β' n (nX hp ord n xs).2→∀(j:Nat) v y,vs[j]? =some v→(nX hp ord n xs).1[j]? =some y→ak P w I β' hp' v y
 | [],vs,n,h,hF,j,v,y,hv,hy=>by simp[nX] at hy
 | x::xs,vs,n,h,hF,j,v,y,hv,hy=>by
  simp only[nX] at hF hy
  cases j with
  | zero=>
   simp at hy
   subst hy
   exact SS S hT hR (h 0 v x hv rfl) hF.left
  | succ j=>
   cases vs with
   | nil=>simp at hv
   | cons v0 vs=>exact Gg S hT hR (vs:=vs) (fun j v x hj hx=>h (j+1) v x (by simpa using hj) (by simpa using hx)) hF.right j v y (by simpa using hv) (by simpa using hy)
theorem abz {ord:List Nat} {n:Nat} {x:V}:nr (rf hp ord n x).2:=by
 cases x<;>simp only[rf]<;>first|exact SU|exact KY
theorem abA (S:aC P w I β hp B M w0) (hT:qh P I β hp) {ord:List Nat} (hR:yd hp β ord hp' β') {n:Nat} {v:Value} {x:V} (hv:ak P w I β hp v x) (hF:lM hp' β' n (rf hp ord n x).2):
  ak P w I β' hp' v (rf hp ord n x).1:=by
 cases x with
 | agg cs=>
  obtain ⟨ds,rfl,h1,U⟩:=hv.kb
  simp only[rf] at hF⊢
  exact .agg (by rw[Gf];exact h1) fun j v y hj hy=>Gg S hT hR (vs:=ds.toList) (fun j v x hj hx=>U j v x (by simpa using hj) hx) hF j v y (by simpa using hj) hy
 | bn cs=>
  obtain ⟨ds,rfl,h1,U⟩:=hv.uW
  simp only[rf] at hF⊢
  exact .bn (by rw[Gf];exact h1) fun j v y hj hy=>Gg S hT hR (vs:=ds.toList) (fun j v x hj hx=>U j v x (by simpa using hj) hx) hF j v y (by simpa using hj) hy
 | _=>exact SS S hT hR hv hF
theorem SV {ord:List Nat} {sl:Nat→V}: ∀{l:List Nat} {n:Nat},nr (mh hp ord sl n l).2
 | [],n=> .nil
 | s::l,n=>by
  simp only[mh]
  exact abz.app SV
theorem SW {ord:List Nat} {sl:Nat→V} {k:Nat} {y:V}: ∀{l:List Nat} {n:Nat},lM hp' β' n (mh hp ord sl n l).2→dZ (mh hp ord sl n l).1 k=some y→
  ∃n',lM hp' β' n' (rf hp ord n' (sl k)).2∧y=(rf hp ord n' (sl k)).1
 | [],n,_,h=>by cases h
 | s::l,n,hF,h=>by
  simp only[mh] at hF h
  simp only[dZ] at h
  cases hb:Nat.beq k s with
  | true=>
   rw[hb] at h
   rw[aX] at hb
   subst hb
   cases h
   exact ⟨n,hF.left,rfl⟩
  | false=>
   rw[hb] at h
   exact SW hF.right h
theorem abB {ord:List Nat} {n id:Nat}:nr (fa hp ord n id).2:=by
 unfold fa
 split
 ·exact KY
 ·exact .nil
 ·exact .nil
 ·exact .nil
 ·exact .nil
theorem SY {ord:List Nat}: ∀{l:List Nat} {n:Nat},nr (ga hp ord n l).2
 | [],n=> .nil
 | s::l,n=>by
  simp only[ga]
  exact abB.app SY
theorem SZ {ord:List Nat}: ∀{l:List Nat} {n:Nat},(ga hp ord n l).1.length=l.length
 | [],n=>rfl
 | x::xs,n=>by simp only[ga,List.length_cons,SZ]
theorem S0 {ord:List Nat}: ∀{l:List Nat} {n j:Nat} {id:Nat},l[j]? =some id→∃n',(lM hp' β' n (ga hp ord n l).2→lM hp' β' n' (fa hp ord n' id).2)∧(ga hp ord n l).1[j]? =some (fa hp ord n' id).1
 | [],n,j,id,h=>by simp at h
 | s::l,n,j,id,h=>by
  simp only[ga]
  cases j with
  | zero=>
   simp at h
   subst h
   exact ⟨n,fun hF=>hF.left,rfl⟩
  | succ j=>
   obtain ⟨n',h1,U⟩:=S0 (n:=n+(fa hp ord n s).2.length) (j:=j) (by simpa using h)
   exact ⟨n',fun hF=>h1 hF.right,by simpa using U⟩
theorem BK: ∀{l acc:List Nat},∃t,sS hp acc l=acc++t∧(acc.Nodup→(acc++t).Nodup)
 | [],acc=>⟨[],by simp[sS],by simp⟩
 | id::l,acc=>by
  simp only[sS]
  cases hb:(gD acc id|| !(P7 hp id)) with
  | true=>exact BK
  | false=>
   obtain ⟨t,h1,U⟩:=BK (l:=l) (acc:=acc++[id])
   refine ⟨id::t,by simp only[cond_false,h1,cC,List.singleton_append],fun hn=> ?_⟩
   have:acc++id::t=(acc++[id])++t:=by simp
   rw[this]
   refine U ?_
   rw[xf]
   refine ⟨hn,by simp,fun a ha b az=> ?_⟩
   simp only[eH] at az
   subst az
   intro e
   subst e
   rw[xG ha] at hb
   cases hb
theorem S3: ∀{n:Nat} {l:List Nat},∃t,grow hp n l=l++t∧(l.Nodup→(l++t).Nodup)
 | 0,l=>⟨[],by simp[grow],by simp⟩
 | n+1,l=>by
  simp only[grow]
  obtain ⟨t,h1,U⟩:=BK (hp:=hp) (acc:=l) (l:=l.flatMap (AH hp))
  rw[h1]
  obtain ⟨t',h3,h4⟩:=S3 (n:=n) (l:=l++t)
  exact ⟨t++t',by rw[h3,cC],fun hn=>by rw[←cC];exact h4 (U hn)⟩
theorem abC {m:Nat} {live:List Nat} {st:St}: ∃t,Jo m live st=List.range m++t∧(List.range m++t).Nodup:=by
 unfold Jo
 obtain ⟨t,h1,U⟩:=BK (hp:=st.hp) (acc:=List.range m) (l:=live.flatMap fun s=>AG (st.sl s))
 rw[h1]
 obtain ⟨t',h3,h4⟩:=S3 (hp:=st.hp) (n:=3) (l:=List.range m++t)
 rw[h3]
 obtain ⟨t2,h5,h6⟩:=BK (hp:=P8 st.hp) (acc:=List.range m++t++t') (l:=live.flatMap fun s=>bif Nat.ble KB s then (AG (st.sl (s-KB))).flatMap (AH st.hp) else [])
 exact ⟨t++t'++t2,by rw[h5];simp only[cC],by simp only[←cC];exact h6 (h4 (U List.nodup_range))⟩
end
section
variable {P:Program} {A:cT} {E:FuncId→Bool} {G:Nat→V} {w w':World} {I I' I2:Nat→Nat→Prop} {μ β β':Nat→Option Nat} {hp hp' hp0:Nat→Option ai} {C:ah} {B:Nat} {M:Nat→Prop} {w0:Start}
theorem S4 {n m:Nat} {ord live:List Nat} {a:Act} {st:St} (ml:ord.Nodup) (BL: ∀id,id<m→ord[id]? =some id∨∃p,ord[id]? =some p∧st.hp p=none) (S:aC P w I β st.hp B M w0) (hT:qh P I β st.hp) (hA:fC P E G w I β n a st) (hE:lJ w0.w w0.I μ hp0 w I β st.hp) (hm: ∀id blk,hp0 id=some blk→id<m) (jS: ∀id e es vers,hp0 id=some (.nest e es vers)→∀k,bO vers k=0):
  ∃β',aC P w I β' (xw ord live st).hp B M w0∧fC P E G w I β' n a (xw ord live st)∧lJ w0.w w0.I μ hp0 w I β' (xw ord live st).hp:=by
 have abD:xw ord live st=mk (mh st.hp ord st.sl (ord.length+(ga st.hp ord ord.length ord).2.length) live).1
   ((ga st.hp ord ord.length ord).1++((ga st.hp ord ord.length ord).2++(mh st.hp ord st.sl (ord.length+(ga st.hp ord ord.length ord).2.length) live).2)):=by
  rfl
 rw[abD]
 let hp':=j6 ((ga st.hp ord ord.length ord).1++((ga st.hp ord ord.length ord).2++(mh st.hp ord st.sl (ord.length+(ga st.hp ord ord.length ord).2.length) live).2))
 let β':Nat→Option Nat:=fun j=>if j<ord.length then (ord[j]?).bind β else none
 have hlen:(ga st.hp ord ord.length ord).1.length=ord.length:=SZ
 have ju: ∀j,j<ord.length→hp' j=(ga st.hp ord ord.length ord).1[j]? :=by
  intro j hj
  simp only[hp',iI]
  rw[gi (by omega)]
 have iH: ∀k,hp' (ord.length+k)=((ga st.hp ord ord.length ord).2++(mh st.hp ord st.sl (ord.length+(ga st.hp ord ord.length ord).2.length) live).2)[k]? :=by
  intro k
  simp only[hp',iI]
  rw[ik (by omega),hlen,ED]
 have hF:lM hp' β' ord.length ((ga st.hp ord ord.length ord).2++(mh st.hp ord st.sl (ord.length+(ga st.hp ord ord.length ord).2.length) live).2):=by
  intro k b hb
  refine ⟨(iH k).trans hb,?_⟩
  simp only[β']
  rw[aM]
 have BH:nr ((ga st.hp ord ord.length ord).2++(mh st.hp ord st.sl (ord.length+(ga st.hp ord ord.length ord).2.length) live).2):=SY.app SV
 have ph: ∀(j:Nat) id,ord[j]? =some id→β' j=β id:=by
  intro j id hj
  simp only[β']
  rw[aj (bm.1 hj).1,hj]
  rfl
 have rP: ∀(j:Nat) id,ord[j]? =some id→∃n',lM hp' β' n' (fa st.hp ord n' id).2∧hp' j=some (fa st.hp ord n' id).1:=by
  intro j id hj
  obtain ⟨n',h1,U⟩:=S0 (hp:=st.hp) (hp':=hp') (β':=β') (ord:=ord) (n:=ord.length) hj
  exact ⟨n',h1 hF.left,(ju j (bm.1 hj).1).trans U⟩
 have hR:yd st.hp β ord hp' β':=by
  refine ⟨fun j id e es fz hj ab=> ?_,fun j id T cs hj ab=> ?_,fun j id hj ab=> ?_,ph,fun j id e es vers hj ab=> ?_,fun j id t es hj ab=> ?_⟩
  ·obtain ⟨n',_,U⟩:=rP j id hj
   rw[U];simp only[fa,ab]
  ·obtain ⟨n',_,U⟩:=rP j id hj
   rw[U];simp only[fa,ab];exact ⟨_,rfl⟩
  ·obtain ⟨n',_,U⟩:=rP j id hj
   rw[U];simp only[fa,ab]
  ·obtain ⟨n',_,U⟩:=rP j id hj
   rw[U];simp only[fa,ab]
  ·obtain ⟨n',_,U⟩:=rP j id hj
   rw[U];simp only[fa,ab]
 have cls: ∀j blk',hp' j=some blk'→(∃id,ord[j]? =some id∧((blk'= .dead)∨∃blk,st.hp id=some blk∧blk≠ .dead∧∀o b,bh P w o blk' b→bh P w o blk b))∨(∃e,blk'= .arr e [] false∧β' j=none):=by
  intro j blk' hj
  rcases pY j ord.length with h|h
  ·have gZ:=bA h
   obtain ⟨n',_,U⟩:=rP j _ gZ
   rw[hj] at U
   refine .inl ⟨_,gZ,?_⟩
   cases ab:st.hp ord[j] with
   | none=>left;simp only[fa,ab] at U;exact dh U
   | some blk=>
    cases blk with
    | dead=>left;simp only[fa,ab] at U;exact dh U
    | var T0 cs=>exact .inr ⟨_,rfl,by simp,fun o b h=>by simp only[fa,ab] at U;rw[dh U] at h;exact .root (by simp) (h.flat (by simp))⟩
    | arr e es fz=>exact .inr ⟨_,rfl,by simp,fun o b h=>by simp only[fa,ab] at U;rw[dh U] at h;exact .root (by simp) (h.flat (by simp))⟩
    | map t es=>exact .inr ⟨_,rfl,by simp,fun o b h=>by simp only[fa,ab] at U;rw[dh U] at h;exact .root (by simp) (h.flat (by simp))⟩
    | nest e es vers=>
     refine .inr ⟨_,rfl,by simp,fun o b h=> ?_⟩
     simp only[fa,ab] at U
     rw[dh U] at h
     cases h with
     | root _ h=>exact .root (by simp) h
     | row h1 U=>exact .row h1 U
  ·obtain ⟨k,rfl⟩: ∃k,j=ord.length+k:=⟨j-ord.length,by omega⟩
   rw[iH] at hj
   obtain ⟨e,he⟩:=BH _ (jg hj)
   exact .inr ⟨e,he,(hF k _ hj).2⟩
 refine ⟨β',⟨⟨fun j blk' hj=> ?_,fun j1 j2 b1 b2 b e1 e2 f1 f2=> ?_,fun j blk b e1 f1=> ?_,S.h.gF⟩,S.cx,S.size,S.new,S.io⟩,⟨fun k=> ?_,hA.size,hA.defers,hA.aE⟩,⟨hE.dC,hE.cx,fun id blk ab=> ?_,fun id blk blk' b ab bJ hd hb=> ?_⟩⟩
 ·change hp' j=some blk' at hj
  rcases pY j ord.length with h|h
  ·have gZ:=bA h
   obtain ⟨n',S5,U⟩:=rP j _ gZ
   rw[hj] at U
   rw[ph j _ gZ]
   cases ab:st.hp ord[j] with
   | none=>simp only[fa,ab] at U;rw[dh U];exact .dead
   | some blk=>
    have hr:=S.h.rel _ _ ab
    generalize β ord[j]=o at hr
    cases hr with
    | dead=>simp only[fa,ab] at U;rw[dh U];exact .dead
    | dJ hb=>simp only[fa,ab] at U;rw[dh U];exact .dJ hb
    | arr a1 a2 a3 a4 a5 a6 a7=>simp only[fa,ab] at U;rw[dh U];exact .arr a1 a2 a3 a4 a5 a6 a7
    | nest a1 a2 a3=>simp only[fa,ab] at U;rw[dh U];exact .nest a1 a2 a3
    | fL a1=>simp only[fa,ab] at U;rw[dh U];exact .fL a1
    | map a1 a2 a3 a4 a5 a6 a7=>simp only[fa,ab] at U;rw[dh U];exact .map a1 a2 a3 a4 a5 a6 a7
    | @var xs b Ca T hb hh hs cW hx gb=>
     simp only[fa,ab] at U S5
     rw[dh U]
     exact .var hb hh (by rw[Gf];exact hs) cW (fun i v y hi hy=>Gg S hT hR (vs:=Ca.toList) (fun i v x hi cU=>hx i v x (by simpa using hi) cU) S5 i v y (by simpa using hi) hy) gb
  ·rcases cls j blk' hj with ⟨id,ab,_⟩|⟨e,he,hb⟩
   ·have:=(bm.1 ab).1;omega
   ·rw[he];exact .dJ hb
 ·rcases cls j1 b1 e1 with ⟨KZ,o1,x1⟩|⟨e,_,hb⟩
  ·rcases cls j2 b2 e2 with ⟨bL,o2,x2⟩|⟨e,_,hb⟩
   ·obtain ⟨c1,y1,z1,g1⟩:=x1.resolve_left f1.alive
    obtain ⟨c2,y2,z2,g2⟩:=x2.resolve_left f2.alive
    rw[ph _ _ o1] at f1
    rw[ph _ _ o2] at f2
    have:=S.h.inj KZ bL c1 c2 b y1 y2 (g1 _ _ f1) (g2 _ _ f2)
    subst this
    obtain ⟨q1,q2⟩:=bm.1 o1
    obtain ⟨q3,q4⟩:=bm.1 o2
    exact (List.getElem_inj ml).1 (q2.trans q4.symm)
   ·subst ‹b2=_›;have:=f2.flat (by simp);rw[hb] at this;cases this
  ·subst ‹b1=_›;have:=f1.flat (by simp);rw[hb] at this;cases this
 ·rcases cls j blk e1 with ⟨KZ,o1,x1⟩|⟨e,_,hb⟩
  ·obtain ⟨c1,y1,z1,g1⟩:=x1.resolve_left f1.alive
   rw[ph _ _ o1] at f1
   exact S.h.own KZ c1 b y1 (g1 _ _ f1)
  ·subst ‹blk=_›;have:=f1.flat (by simp);rw[hb] at this;cases this
 ·change ak P w I β' hp' (a.tmps.getD k undef) (jJ _ k)
  unfold jJ
  cases KD:dZ (mh st.hp ord st.sl (ord.length+(ga st.hp ord ord.length ord).2.length) live).1 k with
  | none=>exact .undef
  | some y=>
   obtain ⟨n',h1,U⟩:=SW hF.right KD
   simp only[Option.getD_some,U]
   exact abA S hT hR (hA.sl k) h1
 ·obtain ⟨rL,k1,k2,k3⟩:=hE.blk id blk ab
  rcases BL id (hm id blk ab) with ho|⟨p,ho,bz⟩
  ·cases rL with
   | dead=>exact ⟨.dead,hR.dead id id ho k1,k2,fun h=>absurd rfl h⟩
   | var T0 cs=>
    obtain ⟨iZ,h'⟩:=hR.var id id T0 cs ho k1
    refine ⟨_,h',?_,fun _=>(ph id id ho).trans (k3 (by simp))⟩
    cases blk<;>simp_all [ai.le]
   | arr e es fz=>exact ⟨_,hR.arr id id e es fz ho k1,k2,fun _=>(ph id id ho).trans (k3 (by simp))⟩
   | map t es=>exact ⟨_,hR.map id id t es ho k1,k2,fun _=>(ph id id ho).trans (k3 (by simp))⟩
   | nest e es vers=>
    refine ⟨_,hR.nest id id e es vers ho k1,?_,fun _=>(ph id id ho).trans (k3 (by simp))⟩
    obtain ⟨Jw,YV,rfl,l1,l2,_⟩:=ai.Ju k2
    exact ⟨rfl,l1,by simpa using l2,fun k=>by rw[jS id _ _ _ ab k];exact oN _⟩
  ·obtain ⟨n',_,U⟩:=rP id p ho
   simp only[fa,bz] at U
   exact ⟨.dead,U,by cases blk<;>trivial,fun h=>absurd rfl h⟩
 ·obtain ⟨rL,k1,k2,k3⟩:=hE.blk id blk ab
  rcases BL id (hm id blk ab) with ho|⟨p,ho,bz⟩
  ·refine hE.size id blk rL b ab k1 (fun rO=> ?_) hb
   subst rO
   have:=hR.dead id id ho k1
   change hp' id=some blk' at bJ
   rw[this] at bJ
   exact hd (dh bJ).symm
  ·obtain ⟨n',_,U⟩:=rP id p ho
   simp only[fa,bz] at U
   change hp' id=some blk' at bJ
   rw[U] at bJ
   exact absurd (dh bJ).symm hd
theorem abE {n m:Nat} {live:List Nat} {a:Act} {st:St} (S:aC P w I β st.hp B M w0) (hT:qh P I β st.hp) (hA:fC P E G w I β n a st) (hE:lJ w0.w w0.I μ hp0 w I β st.hp) (hm: ∀id blk,hp0 id=some blk→id<m) (jS: ∀id e es vers,hp0 id=some (.nest e es vers)→∀k,bO vers k=0):
  ∃β',aC P w I β' (canon m live st).hp B M w0∧fC P E G w I β' n a (canon m live st)∧lJ w0.w w0.I μ hp0 w I β' (canon m live st).hp:=by
 obtain ⟨t,BL,ml⟩:=abC (m:=m) (live:=live) (st:=st)
 refine S4 (by rw[BL];exact ml) (fun id aJ=> .inl ?_) S hT hA hE hm jS
 rw[BL,gi (by simpa using aJ)]
 simp[aJ]
theorem S6: ∀{l:List Nat},ri l=true→l.Nodup
 | [],_=> .nil
 | a::l,h=>by
  simp only[ri,aO,kJ] at h
  rw[List.nodup_cons]
  exact ⟨fun hm=>Bool.noConfusion ((xG hm).symm.trans h.1),S6 h.2⟩
theorem abF {m:Nat} {mv:List Nat} {id:Nat} (h:id<m):(oW m mv)[id]? =some id∨(oW m mv)[id]? =some (m+id):=by
 unfold oW
 rw[gi (by simpa using h),e7]
 simp only[List.getElem?_range h,Option.map_some]
 cases gD mv id with
 | true=>exact .inr rfl
 | false=>exact .inl rfl
end
section
variable {P:Program} {A:cT} {w w':World} {I I' I2:Nat→Nat→Prop} {μ β β':Nat→Option Nat} {hp hp' hp0:Nat→Option ai} {C:ah} {B:Nat} {M:Nat→Prop} {w0:Start}
theorem Gh (p:Nat→Prop) (h: ∃n,p n): ∃n,p n∧∀m,p m→n≤m:=by
 obtain ⟨n,hn⟩:=h
 induction n using Nat.strongRecOn with
 | _ n ih=>
  by_cases hx: ∃m,m<n∧p m
  ·obtain ⟨m,hm,hp⟩:=hx
   exact ih m hm hp
  ·exact ⟨n,hn,fun m hm=>Nat.le_of_not_lt fun aJ=>hx ⟨m,aJ,hm⟩⟩
open Classical in
theorem abG {c:Code} {Q:Exit→Act→World→Prop} (J:Nat→Act→World→Prop) (h0: ∀a w,¬J 0 a w) (round: ∀n a w,J (n+1) a w→c.wp P (Exit.then (J n) Q) a w) {n:Nat} {a:Act} {w:World} (h:J n a w):
  (Code.loop c).wp P Q a w:=by
 refine wp_loop (fun a w=> ∃n,J n a w) (fun a w=>if h: ∃n,J n a w then (Gh _ h).choose else 0) ⟨n,h⟩ fun a w hJ=> ?_
 obtain ⟨h1,U⟩:=(Gh _ hJ).choose_spec
 generalize hk:(Gh _ hJ).choose=k at h1 U
 cases k with
 | zero=>exact absurd h1 (h0 a w)
 | succ k=>
  refine wp_mono (round k a w h1) fun e a' w' he=> ?_
  cases e with
  | normal=>
   have hex: ∃n,J n a' w':=⟨k,he⟩
   refine ⟨hex,?_⟩
   have h3:=(Gh _ hex).choose_spec.2 k he
   rw[sA hex,sA hJ,hk]
   omega
  | _=>exact he
def ye:Out→Exit
 | .norm=> .normal
 | .exit id=> .exit id
 | .ret=> .ret
def Inv (P:Program) (E:FuncId→Bool) (G:Nat→V) (B:Nat) (M:Nat→Prop) (w0:Start) (μ:Nat→Option Nat) (hp0:Nat→Option ai) (n:Nat) (a:Act) (w:World) (st:St):Prop:=
 ∃I β,aC P w I β st.hp B M w0∧fC P E G w I β n a st∧lJ w0.w w0.I μ hp0 w I β st.hp
theorem Inv.canon {E:FuncId→Bool} {G:Nat→V} {n m:Nat} {a:Act} {st:St} {live:List Nat} (h:Inv P E G B M w0 μ hp0 n a w st) (hm: ∀id blk,hp0 id=some blk→id<m) (jS: ∀id e es vers,hp0 id=some (.nest e es vers)→∀k,bO vers k=0):Inv P E G B M w0 μ hp0 n a w (canon m live st):=by
 obtain ⟨I0,β,S,hA,hE⟩:=h
 obtain ⟨I,h1,S,hA,hT⟩:=SM S hA
 obtain ⟨β',a,b,c⟩:=abE (live:=live) S hT hA (hE.trans h1.xW) hm jS
 exact ⟨I,β',a,b,c⟩
theorem Gi: ∀{l:List BS} {ds:List V},(e9 l ds).length=l.length
 | [],_=>rfl
 | b::l,ds=>by simp only[e9,List.length_cons,Gi]
theorem Inv.enter {A:cT} {E:FuncId→Bool} {G:Nat→V} {n f:Nat} {ds:List V} {a:Act} (jv:ri (oW (A.sin f).cE.length (A.mv f))=true) (h:Inv P E G B M w0 μ hp0 n a w (bG (A.sin f) ds)) (hm: ∀id blk,hp0 id=some blk→id<(A.sin f).cE.length)
  (jS: ∀id e es vers,hp0 id=some (.nest e es vers)→∀k,bO vers k=0) (yf: ∀p,(A.sin f).cE.length≤p→(bG (A.sin f) ds).hp p=none):Inv P E G B M w0 μ hp0 n a w (E9 A f ds):=by
 unfold E9
 split
 ·exact h
 ·obtain ⟨I0,β,S,hA,hE⟩:=h
  obtain ⟨I,h1,S,hA,hT⟩:=SM S hA
  obtain ⟨β',x,y,z⟩:=S4 (m:=(A.sin f).cE.length) (ord:=oW (A.sin f).cE.length (A.mv f)) (live:=(A.sin f).cd.map (·.1)) (S6 jv) (fun id ab=>(abF ab).imp (fun h=>h) fun h=>⟨_,h,yf _ (by omega)⟩) S hT hA (hE.trans h1.xW) hm jS
  exact ⟨I,β',x,y,z⟩
theorem Inv.reshape {E:FuncId→Bool} {G:Nat→V} {n m:Nat} {a:Act} {st:St} {S:Shape} {ds:List V} (h:Inv P E G B M w0 μ hp0 n a w st) (hs:j7 m S st=some ds) (hm: ∀id blk,hp0 id=some blk→id<m):Inv P E G B M w0 μ hp0 n a w (bG S ds):=by
 obtain ⟨I,β,S1,hA,hE⟩:=h
 obtain ⟨r1,r2,_,r4⟩:=AM.reshape hs S1
 refine ⟨I,β,r1,⟨fun k=>r2 k _ (hA.sl k),hA.size,hA.defers,hA.aE⟩,⟨hE.dC,hE.cx,fun id blk ab=> ?_,fun id blk blk' b ab bJ hd hb=> ?_⟩⟩
 ·obtain ⟨rL,k1,k2,k3⟩:=hE.blk id blk ab
  obtain ⟨_,hle,_⟩:=RH hs
  have hl:=hm id blk ab
  obtain ⟨cv,U⟩: ∃cv,(bG S ds).hp id=some cv:=by
   simp only[bG,mk,iI]
   exact ⟨_,bA (by rw[Gi];omega)⟩
  by_cases hd:cv= .dead
  ·subst hd
   exact ⟨_,U,by cases blk<;>trivial,fun h=>absurd rfl h⟩
  ·obtain ⟨iy,e1,e2,_⟩:=r4 id cv U hd
   rw[k1] at e1;cases e1
   exact ⟨_,U,ai.le_trans k2 e2,fun _=>k3 (fun e=>hd (ai.qf (e▸e2)))⟩
 ·obtain ⟨iy,e1,e2,_⟩:=r4 id blk' bJ hd
  exact hE.size id blk iy b ab e1 (fun e=>hd (ai.qf (e▸e2))) hb
theorem lK.here (h:lK P A C) (f:Nat) (id:Nat):lK P (A.here f id) C:=by
 intro key ds es hh
 obtain ⟨fn,c,h1,U,h3⟩:=h key ds es hh
 refine ⟨fn,c,h1,U,fun w I μ vals a g b d=>(h3 w I μ vals a g b d).mono fun e w' hx=> ?_⟩
 obtain ⟨v,I2,cm,q1,q2⟩:=hx
 exact ⟨v,I2,cm,q1,⟨q2.xX,q2.le,q2.res⟩⟩
theorem abH {a b:Out} (h:E8 a b=true):a=b:=by
 cases a<;>cases b<;>simp[E8] at h<;>first|rfl|(subst h;rfl)
theorem S7 {m:Nat} {r:Out × St}: ∀{l:List (Out × Shape)} {j:Nat} {e:Nat × List V},ways m j l r=some e→j≤e.1
 | [],j,e,h=>by cases h
 | (o,S)::l,j,e,h=>by
  simp only[ways] at h
  split at h
  ·cases h;exact cl _
  ·have:=S7 h;omega
theorem K0 {m:Nat} {o:Out} {s:St} {out:Out} {st':St}: ∀{l:List (Out × Shape)} {k:Nat} {e:Nat × List V},ways m k l (o,s)=some e→mY k l e.1 e.2 (fun o st=>some (o,st))=some (out,st')→
  out=o∧∃S,j7 m S s=some e.2∧st'=bG S e.2
 | [],k,e,h,_=>by cases h
 | (o',S)::l,k,e,h,U=>by
  simp only[ways] at h
  split at h
  ·rename_i ds hx
   cases h
   cases ho:E8 o' o with
   | false=>rw[ho] at hx;cases hx
   | true=>
    rw[ho] at hx
    have:=abH ho
    subst this
    cases l with
    | nil=>
     simp only[mY,ek,kK] at U
     exact ⟨U.1.symm,S,hx,U.2.symm⟩
    | cons p l=>
     simp only[mY,jE,cond_true,ek,kK] at U
     exact ⟨U.1.symm,S,hx,U.2.symm⟩
  ·have mA:=S7 h
   cases l with
   | nil=>cases h
   | cons p l=>
    have bq:Nat.beq e.1 k=false:=by
     cases hb:Nat.beq e.1 k with
     | false=>rfl
     | true=>rw[aX] at hb;omega
    simp only[mY,bq,cond_false] at U
    exact K0 h U
theorem abI (hC:lK P A C) (hP:jw P A) (oq:P.follows .mixedOrders=true) {f n m:Nat} (hm: ∀id blk,hp0 id=some blk→id<m) (jS: ∀id e es vers,hp0 id=some (.nest e es vers)→∀k,bO vers k=0):
  ∀(c:Code) {st st':St} {out:Out} {Q:Exit→Act→World→Prop} {a:Act} {w:World},exec P A C f n m c st=some (out,st')→Inv P A.idle A.aE B M w0 μ hp0 n a w st→
   (∀a' w',Inv P A.idle A.aE B M w0 μ hp0 n a' w' st'→Q (ye out) a' w')→c.wp P Q a w:=by
 intro c
 induction c with
 | skip=>
  intro st st' out Q a w h hI hQ
  simp only[exec,ek,kK] at h
  obtain ⟨rfl,rfl⟩:=h
  exact wp_skip (hQ a w hI)
 | exit id=>
  intro st st' out Q a w h hI hQ
  simp only[exec,ek,kK] at h
  obtain ⟨rfl,rfl⟩:=h
  exact wp_exit (hQ a w hI)
 | ret=>
  intro st st' out Q a w h hI hQ
  simp only[exec,ek,kK] at h
  obtain ⟨rfl,rfl⟩:=h
  exact wp_ret (hQ a w hI)
 | region id ops draw=>
  intro st st' out Q a w h hI hQ
  simp only[exec] at h
  obtain ⟨jx,h1,U⟩:=bind_some h
  simp only[ek,kK] at U
  obtain ⟨rfl,rfl⟩:=U
  obtain ⟨I,β,S,hA,hE⟩:=hI
  refine abv (hC.here f id) (hP.here f id) oq h1 S hA fun a' w' I' β' k1 k2 k3=> ?_
  obtain ⟨I2,cm,l1,l2,l3⟩:=SO (m:=m) (pur:=A.pur f id) k2 k3
  have hE2:=(hE.trans k1.xW).trans l1.xW
  exact hQ a' w' (Inv.canon ⟨I2,cm,l2,l3,hE2⟩ hm jS)
 | seq x y jk jl=>
  intro st st' out Q a w h hI hQ
  simp only[exec] at h
  obtain ⟨⟨o1,jx⟩,h1,U⟩:=bind_some h
  refine wp_seq (jk h1 hI fun a' w' ki=> ?_)
  cases o1 with
  | norm=>exact jl U ki hQ
  | exit id=>
   simp only[ek,kK] at U
   obtain ⟨rfl,rfl⟩:=U
   exact hQ a' w' ki
  | ret=>
   simp only[ek,kK] at U
   obtain ⟨rfl,rfl⟩:=U
   exact hQ a' w' ki
 | cond c x y jk jl=>
  intro st st' out Q a w h hI hQ
  cases c with
  | tmp t=>
   have go: ∀{st st':St} {out:Out} {Q:Exit→Act→World→Prop} {a:Act} {w:World},(match st.sl t with
     | .bool b=>(bif b then exec P A C f n m x st else exec P A C f n m y st).bind fun r=>
      match r.1 with
      | .norm=>some (.norm,AM.canon m (A.join f t) r.2)
      | _=>some r
     | _=>none)=some (out,st')→Inv P A.idle A.aE B M w0 μ hp0 n a w st→(∀a' w',Inv P A.idle A.aE B M w0 μ hp0 n a' w' st'→Q (ye out) a' w')→(Code.cond (.tmp t) x y).wp P Q a w:=by
    intro st st' out Q a w h hI hQ
    cases hs:st.sl t<;>rw[hs] at h<;>simp only at h<;>first|(cases h;done)|skip
    rename_i b
    obtain ⟨⟨o1,jx⟩,h1,U⟩:=bind_some h
    obtain ⟨I,β,S,hA,hE⟩:=hI
    have ft:a.eval (.tmp t)= .bool b:=by
     have:=Si hA hs
     simp[Act.eval,this]
    have fin: ∀a' w',Inv P A.idle A.aE B M w0 μ hp0 n a' w' jx→Q (ye o1) a' w':=by
     intro a' w' ki
     cases o1 with
     | norm=>
      simp only[ek,kK] at U
      obtain ⟨rfl,rfl⟩:=U
      exact hQ a' w' (ki.canon hm jS)
     | exit id=>
      simp only[ek,kK] at U
      obtain ⟨rfl,rfl⟩:=U
      exact hQ a' w' ki
     | ret=>
      simp only[ek,kK] at U
      obtain ⟨rfl,rfl⟩:=U
      exact hQ a' w' ki
    refine wp_cond ft ?_
    cases b with
    | true=>exact jk h1 ⟨I,β,S,hA,hE⟩ fin
    | false=>exact jl h1 ⟨I,β,S,hA,hE⟩ fin
   simp only[exec] at h
   split at h
   ·exact go h hI hQ
   ·obtain ⟨ds,h1,U⟩:=bind_some h
    obtain ⟨e,h3,h4⟩:=bind_some U
    obtain ⟨⟨o1,s1⟩,h5,h6⟩:=bind_some h3
    obtain ⟨rfl,S',k1,rfl⟩:=K0 h6 h4
    exact go h5 (hI.reshape h1 hm) fun a' w' ki=>hQ a' w' (ki.reshape k1 hm)
  | const v=>
   cases v with
   | bool b=>
    simp only[exec] at h
    refine wp_cond (t:=b) rfl ?_
    cases b with
    | true=>exact jk h hI hQ
    | false=>exact jl h hI hQ
   | _=>simp only[exec] at h;cases h
  | _=>simp only[exec] at h;cases h
 | block id c ih=>
  intro st st' out Q a w h hI hQ
  simp only[exec] at h
  obtain ⟨⟨o1,jx⟩,h1,U⟩:=bind_some h
  refine wp_block (ih h1 hI fun a' w' ki=> ?_)
  cases o1 with
  | norm=>
   simp only[ek,kK] at U
   obtain ⟨rfl,rfl⟩:=U
   exact hQ a' w' (ki.canon hm jS)
  | exit aw=>
   simp only at U
   cases hb:Nat.beq aw id with
   | true=>
    rw[hb] at U
    simp only[cond_true,ek,kK] at U
    obtain ⟨rfl,rfl⟩:=U
    rw[aX] at hb
    simp only[ye,Exit.inBlock,hb,c6]
    exact hQ a' w' (ki.canon hm jS)
   | false=>
    rw[hb] at U
    simp only[cond_false,ek,kK] at U
    obtain ⟨rfl,rfl⟩:=U
    have bq:aw≠id:=fun e=>by rw[e,jE] at hb;cases hb
    simp only[ye,Exit.inBlock,bq,fW]
    exact hQ a' w' ki
  | ret=>
   simp only[ek,kK] at U
   obtain ⟨rfl,rfl⟩:=U
   exact hQ a' w' ki
 | loop c ih=>
  intro st st' out Q a w h hI hQ
  simp only[exec] at h
  split at h
  ·cases h
  ·rename_i S hS
   obtain ⟨ds,h1,U⟩:=bind_some h
   obtain ⟨e,h3,h4⟩:=bind_some U
   obtain ⟨k,hk⟩:=xh h3
   refine abG (J:=fun k a w=> ∃ds,Inv P A.idle A.aE B M w0 μ hp0 n a w (bG S.1 ds)∧fX (fun ds=>nY m S.1 S.2 (exec P A C f n m c (bG S.1 ds))) k ds=some e) (fun a w ⟨s,_,h⟩=>by cases h) (fun k a w ⟨ds,hs,hk⟩=> ?_) ⟨ds,hI.reshape h1 hm,hk⟩
   simp only[fX] at hk
   obtain ⟨y,h5,h6⟩:=bind_some hk
   unfold nY at h5
   obtain ⟨⟨o1,s1⟩,h7,h8⟩:=bind_some h5
   refine ih h7 hs fun a' w' ki=> ?_
   have S8: ∀{e':Nat × List V},ways m 0 S.2 (o1,s1)=some e'→e'=e→Q (ye o1) a' w':=by
    intro e' q1 q2
    subst q2
    obtain ⟨rfl,S',k1,rfl⟩:=K0 q1 h4
    exact hQ a' w' (ki.reshape k1 hm)
   cases o1 with
   | norm=>
    obtain ⟨ds2,q1,q2⟩:=bind_some h8
    cases q2
    exact ⟨ds2,ki.reshape q1 hm,h6⟩
   | exit id=>
    obtain ⟨e',q1,q2⟩:=bind_some h8
    cases q2
    cases h6
    exact S8 q1 rfl
   | ret=>
    obtain ⟨e',q1,q2⟩:=bind_some h8
    cases q2
    cases h6
    exact S8 q1 rfl
 | _=>intro st st' out Q a w h;simp only[exec] at h;cases h
end
end Go.AM
