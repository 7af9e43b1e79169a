/-
  Functions of the program, lifted to plain data.
-/
import Derived.Test.YtbpldbfoleicgaaGreatDoorP5
set_option linter.unusedVariables false
set_option linter.unusedSimpArgs false
set_option linter.unusedSectionVars false
set_option maxRecDepth 100000
namespace Go.AM
open Go.IntKind (wrap)
open Go.Proofs
noncomputable def adJ (C:af) (bW:Int) (cd:Bool) (c6:Int) (bm aM aN aR aO aA aQ bw b7 cg:LV):Option LV:=
 some [.bool (c6==(aM.length:Int)),V.int .i64 bW,.bool cd,V.int .i64 c6,.list cD aQ,.list ag bm,.list ag aM,.list ab aN,.list ab aR,.list ag aO,.list dY aA,.list bZ bw,.list ab b7,.list ab cg]
theorem aqR {bW:Int} {cd:Bool} {c6:Int} {bm aM aN aR aO aA aQ bw b7 cg:LV} {r:Option LV} (h:adJ CC bW cd c6 bm aM aN aR aO aA aQ bw b7 cg=r):CC LA [V.int .i64 bW,.bool cd,V.int .i64 c6,.list ag bm,.list ag aM,.list ab aN,.list ab aR,.list ag aO,.list dY aA,.list cD aQ,.list bZ bw,.list ab b7,.list ab cg]=r:=bQ (L:=bO) aw h
noncomputable def ML (C:af) (i x bW:Int) (cd:Bool) (c6:Int) (bm aM aN aR aO aA aQ bw b7 cg:LV):Option LV:=
 (C F9 [V.int .i64 i,V.int .i64 x,V.int .i64 bW,.bool cd,V.int .i64 c6,.list ag bm,.list ag aM,.list ab aN,.list ab aR,.list ag aO,.list dY aA,.list cD aQ,.list bZ bw,.list ab b7,.list ab cg]).bind fun r1=>
 aP ((V.nth (((((r1.drop 1).drop 3).drop 1).drop 1).drop 1) 0).toList) ((V.nth r1 0).toInt) fun x2=>
 bif (x2.toInt:Int)==i then
  aP ((V.nth ((((((r1.drop 1).drop 3).drop 1).drop 1).drop 1).drop 1) 0).toList) ((V.nth r1 0).toInt) fun x3=>
  some [.bool ((x3.toInt:Int)==x),V.int .i64 ((V.nth (r1.drop 1) 0).toInt),.bool ((V.nth ((r1.drop 1).drop 1) 0).toBool),V.int .i64 ((V.nth (((r1.drop 1).drop 1).drop 1) 0).toInt),.list ag ((V.nth ((r1.drop 1).drop 3) 0).toList),.list cD ((V.nth (((r1.drop 1).drop 3).drop 1) 0).toList),.list ag ((V.nth ((((r1.drop 1).drop 3).drop 1).drop 1) 0).toList),.list ab ((V.nth (((((r1.drop 1).drop 3).drop 1).drop 1).drop 1) 0).toList),.list ab ((V.nth ((((((r1.drop 1).drop 3).drop 1).drop 1).drop 1).drop 1) 0).toList),.list ag ((V.nth (((((((r1.drop 1).drop 3).drop 1).drop 1).drop 1).drop 1).drop 1) 0).toList),.list dY ((V.nth ((((((((r1.drop 1).drop 3).drop 1).drop 1).drop 1).drop 1).drop 1).drop 1) 0).toList),.list bZ ((V.nth (((((((((r1.drop 1).drop 3).drop 1).drop 1).drop 1).drop 1).drop 1).drop 1).drop 1) 0).toList),.list ab ((V.nth ((((((((((r1.drop 1).drop 3).drop 1).drop 1).drop 1).drop 1).drop 1).drop 1).drop 1).drop 1) 0).toList),.list ab ((V.nth (((((((((((r1.drop 1).drop 3).drop 1).drop 1).drop 1).drop 1).drop 1).drop 1).drop 1).drop 1).drop 1) 0).toList)]
 else
  some [.bool false,V.int .i64 ((V.nth (r1.drop 1) 0).toInt),.bool ((V.nth ((r1.drop 1).drop 1) 0).toBool),V.int .i64 ((V.nth (((r1.drop 1).drop 1).drop 1) 0).toInt),.list ag ((V.nth ((r1.drop 1).drop 3) 0).toList),.list cD ((V.nth (((r1.drop 1).drop 3).drop 1) 0).toList),.list ag ((V.nth ((((r1.drop 1).drop 3).drop 1).drop 1) 0).toList),.list ab ((V.nth (((((r1.drop 1).drop 3).drop 1).drop 1).drop 1) 0).toList),.list ab ((V.nth ((((((r1.drop 1).drop 3).drop 1).drop 1).drop 1).drop 1) 0).toList),.list ag ((V.nth (((((((r1.drop 1).drop 3).drop 1).drop 1).drop 1).drop 1).drop 1) 0).toList),.list dY ((V.nth ((((((((r1.drop 1).drop 3).drop 1).drop 1).drop 1).drop 1).drop 1).drop 1) 0).toList),.list bZ ((V.nth (((((((((r1.drop 1).drop 3).drop 1).drop 1).drop 1).drop 1).drop 1).drop 1).drop 1) 0).toList),.list ab ((V.nth ((((((((((r1.drop 1).drop 3).drop 1).drop 1).drop 1).drop 1).drop 1).drop 1).drop 1).drop 1) 0).toList),.list ab ((V.nth (((((((((((r1.drop 1).drop 3).drop 1).drop 1).drop 1).drop 1).drop 1).drop 1).drop 1).drop 1).drop 1) 0).toList)]
theorem aqS {i x bW:Int} {cd:Bool} {c6:Int} {bm aM aN aR aO aA aQ bw b7 cg:LV} {r:Option LV} (h:ML CC i x bW cd c6 bm aM aN aR aO aA aQ bw b7 cg=r):CC Ga [V.int .i64 i,V.int .i64 x,V.int .i64 bW,.bool cd,V.int .i64 c6,.list ag bm,.list ag aM,.list ab aN,.list ab aR,.list ag aO,.list dY aA,.list cD aQ,.list bZ bw,.list ab b7,.list ab cg]=r:=bQ (L:=bO) aw h
section
variable {X R:Type} {step:X→Option (X ⊕ R)}
theorem xy (P:Nat→X→Prop) (Q:R→Prop) (n:Nat) (h: ∀i,i<n→∀x,P i x→(∃y,step x=some (.inl y)∧P (i+1) y)∨∃r,step x=some (.inr r)∧Q r)
  (he: ∀x,P n x→∃r,step x=some (.inr r)∧Q r): ∀(d i:Nat) (x:X),i+d=n→P i x→∃r,Loop step x=some r∧Q r
 | 0,i,x,hi,hx=>by
  obtain rfl:i=n:=hi;obtain ⟨r,h1,h2⟩:=he x hx;exact ⟨r,jX h1,h2⟩
 | d+1,i,x,hi,hx=>by
  rcases h i (by omega) x hx with ⟨y,h1,h2⟩|⟨r,h1,h2⟩
  ·obtain ⟨r,h3,h4⟩:=xy P Q n h he d (i+1) y (by omega) h2;exact ⟨r,(iR h1).trans h3,h4⟩
  ·exact ⟨r,jX h1,h2⟩
end
section
variable {α:Type} [DecidableEq α] {ke:α→V} {x:α}
theorem T4: ∀{S:List α} (i:Nat),(∀a∈S,ju (ke x) (ke a)=decide (x=a))→gM (ke x) (fR ke i S)=decide (x∈S)
 | [],_,_=>by simp[fR,gM]
 | a::S,i,h=>by
  have c: ∀(p q:V),(V.ba [p,q]).comp 0=p:=fun p q=>rfl;rw[fR,gM,c,h a (by simp),T4 (i+1) fun b hb=>h b (nD _ hb)];rw[xL];simp
theorem adK {z:V}: ∀{S:List α} (i:Nat),(∀a∈S,ju (ke x) (ke a)=decide (x=a))→x∈S→ki (ke x) (fR ke i S) z= .int .i64 ((i+S.idxOf x:Nat):Int)
 | [],_,_,h=>by cases h
 | a::S,i,hk,h=>by
  have c: ∀(p q:V),(V.ba [p,q]).comp 0=p:=fun p q=>rfl;have c1: ∀(p q:V),(V.ba [p,q]).comp 1=q:=fun p q=>rfl;rw[fR,ki,c,c1,hk a (by simp)];by_cases e:x=a
  ·subst e;rw[cp rfl];simp[fR.iV]
  ·rw[da e,cond_false,adK (i+1) (fun b hb=>hk b (nD _ hb)) ((fW.1 h).resolve_left e),show (a::S).idxOf x=S.idxOf x+1 from by rw[List.idxOf_cons,show (a==x)=false from ue.2 fun h=>e h.symm];rfl];congr 2;omega
theorem adL: ∀{S:List α} (i:Nat),(∀a∈S,ju (ke x) (ke a)=decide (x=a))→x∉S→jv (ke x) (.int .i64 ((i+S.length:Nat):Int)) (fR ke i S)=fR ke i (S++[x])
 | [],i,_,_=>by simp[fR,jv,fR.iV]
 | a::S,i,hk,h=>by
  have c: ∀(p q:V),(V.ba [p,q]).comp 0=p:=fun p q=>rfl;have e:x≠a:=fun e=>h (by simp[e]);rw[fR,jv,c,hk a (by simp),da e,cond_false,List.cons_append,fR];congr 1;have:=adL (i+1) (fun b hb=>hk b (nD _ hb)) fun hx=>h (nD _ hx);rw[←this];simp only[List.length_cons];congr 3;omega
end
section
variable {α:Type} [DecidableEq α] {ke:α→V} {x:α} {S T:List α}
def ic (S:List α) (a:α):Nat:=S.idxOf a
theorem sC (h:x∈S):ic S x<S.length:=v8 h
theorem adM (hp:T <+: S) (h:x∈T):ic S x=ic T x:=C4 hp h
theorem T6 (h:x∈S):S[ic S x]'(sC h)=x:=II (sC h)
theorem T7 (h:S.Nodup) {i:Nat} (hi:i<S.length):ic S S[i]=i:=h.idxOf_getElem i hi
theorem aqT (h:x∉S):ic (S++[x]) x=S.length:=by rw[ic,AP,aF h];simp
theorem adN (h: ∀a∈S,ju (ke x) (ke a)=decide (x=a)) (hx:x∈S):gM (ke x) (fR ke 0 S)=true:=(T4 0 h).trans (cp hx)
theorem adO (h: ∀a∈S,ju (ke x) (ke a)=decide (x=a)) (hx:x∉S):gM (ke x) (fR ke 0 S)=false:=(T4 0 h).trans (da hx)
theorem adP {z:V} (h: ∀a∈S,ju (ke x) (ke a)=decide (x=a)) (hx:x∈S):(ki (ke x) (fR ke 0 S) z).toInt=((ic S x:Nat):Int):=by rw[adK 0 h hx,dt];rfl
end
theorem aqU (a b:List UInt8):ju (.str a) (.str b)=decide (a=b):=by
 simp only[ju,V.cells,pO,wg,Bool.and_true];rw[xL];simp
def tV (f:List Nat):V:= .list ab (nS f)
def sV (S:List (List Nat)):LV:=S.map tV
def kT (f:List Nat):V:= .str (nt f)
def mT (S:List (List Nat)):LV:=fR kT 0 S
def iL (l:List Int):LV:=l.map fun x=> .int .i64 x
def wL (l:List (List UInt8)):LV:=l.map V.str
theorem oq {f:List Nat}:(tV f).toList=nS f:=by simp[tV]
theorem T8 {n:Nat} (hn:n≤32) {S:List (List Nat)} (hS: ∀f∈S,Tr n f) {f:List Nat} (hf:Tr n f): ∀a∈S,ju (kT f) (kT a)=decide (f=a):=fun a ha=>by
 rw[kT,kT,aqU,xL,DL,DL];exact ⟨fun e=>aqO (by omega) hf (hS a ha) e,fun e=>by rw[e]⟩
theorem G5 {S:List (List Nat)} {i:Nat} (h:i<S.length):(sV S)[i]? =some (tV S[i]):=by simp[sV,h]
theorem tX {l:List Int} {i:Nat} (h:i<l.length):(iL l)[i]? =some (.int .i64 (l.getD i 0)):=by simp[iL,h]
theorem xz {l:List (List UInt8)} {i:Nat} (h:i<l.length):(wL l)[i]? =some (.str (l.getD i [])):=by simp[wL,h]
@[simp] theorem pW {S:List (List Nat)}:(sV S).length=S.length:=by simp[sV]
@[simp] theorem axN {l:List Int}:(iL l).length=l.length:=by simp[iL]
@[simp] theorem axO {l:List (List UInt8)}:(wL l).length=l.length:=by simp[wL]
def xA (n D:Nat) (G:LV) (S:List (List Nat)) (P K:List Int) (R:List (List Nat)) (U:LV) (W:List (List UInt8)) (B:List Int) (s:List Nat):List V:=
 [.int .i64 (n:Int),.bool true,.int .i64 (D:Int),.list ag G,.list ag (sV S),.list ab (iL P),.list ab (iL K),.list ag (sV R),.list dY U,.list cD (mT S),.list bZ (wL W),.list ab (iL B),.list ab (nS s)]
def MM (n D:Nat) (G:LV) (S:List (List Nat)) (P K:List Int) (R:List (List Nat)) (U:LV) (W:List (List UInt8)) (B:List Int) (s:List Nat):List V:=
 [.int .i64 (n:Int),.bool true,.int .i64 (D:Int),.list ag G,.list cD (mT S),.list ag (sV S),.list ab (iL P),.list ab (iL K),.list ag (sV R),.list dY U,.list bZ (wL W),.list ab (iL B),.list ab (nS s)]
def vL (R:List (List Nat)) (s:List Nat) (b:Int) (x:Nat):Nat:=if b= -1 then s.getD x 0 else (R.getD b.toNat []).getD x 0
structure kg (L n:Nat) (g:Nat→List Nat) (S:List (List Nat)) (P K:List Int) (R:List (List Nat)) (W:List (List UInt8)) (B:List Int) (s:List Nat):Prop where
 tr: ∀f∈S,Tr n f
 nd:S.Nodup
 len:S.length≤2000
 lP:P.length=S.length
 lK:K.length=S.length
 lW:W.length=S.length
 lB:B.length=S.length
 row: ∀r∈R,r.length=L∧∀y∈r,y<S.length
 s:s.length≤L∧∀y∈s,y<S.length
 b: ∀i,i<S.length→B.getD i 0= -1∨(0≤B.getD i 0∧B.getD i 0<i)
 w: ∀i,i<S.length→(W.getD i []).length≤i
 p: ∀i,0<i→i<S.length→∃p x:Nat,P.getD i 0=p∧K.getD i 0=x∧p<i∧x<L∧S.getD i []=comp (S.getD p []) (g x)
 id:S.head? =some (List.range n)
section
variable {L n D:Nat} {g:Nat→List Nat} {S:List (List Nat)} {P K:List Int} {R:List (List Nat)} {W:List (List UInt8)} {B:List Int} {s:List Nat} {G U:LV}
theorem kg.grow (h:kg L n g S P K R W B s) {f:List Nat} (hf:Tr n f) (hn:f∉S) (hl:S.length<2000) {p x:Nat} {w:List UInt8} {b:Int} (hp:p<S.length) (hx:x<L) (hw:w.length≤S.length) (hb:b= -1∨(0≤b∧b<S.length)) (e:f=comp (S.getD p []) (g x)):
  kg L n g (S++[f]) (P++[(p:Int)]) (K++[(x:Int)]) R (W++[w]) (B++[b]) s:=by
 have a1: ∀{α:Type} {l:List α} {z d:α} {i:Nat},i<l.length→(l++[z]).getD i d=l.getD i d:=fun {α l z d i} hi=>by
  rw[pL,pL,nG hi]
 have a2: ∀{α:Type} {l:List α} {z d:α} {i:Nat},i=l.length→(l++[z]).getD i d=z:=fun {α l z d i} hi=>by subst hi;simp
 have c: ∀i,i<(S++[f]).length→i<S.length∨i=S.length:=fun i hi=>by simp at hi;omega
 refine ⟨fun a ha=> ?_,?_,by simp;omega,by simp[h.lP],by simp[h.lK],by simp[h.lW],by simp[h.lB],fun r hr=>⟨(h.row r hr).1,fun y hy=>by have:=(h.row r hr).2 y hy;simp;omega⟩,⟨h.s.1,fun y hy=>by have:=h.s.2 y hy;simp;omega⟩,fun i hi=> ?_,fun i hi=> ?_,fun i h0 hi=> ?_,?_⟩
 ·rcases eF.1 ha with ha|ha
  ·exact h.tr a ha
  ·rw[fu.1 ha];exact hf
 ·refine DI.2 ⟨h.nd,by simp,fun a ha b hb e=> ?_⟩;rw[fu.1 hb] at e;exact hn (e▸ha)
 ·rcases c i hi with c|c
  ·rw[a1 (by rw[h.lB];exact c)];exact h.b i c
  ·rw[a2 (by rw[h.lB];exact c),c];exact hb
 ·rcases c i hi with c|c
  ·rw[a1 (by rw[h.lW];exact c)];exact h.w i c
  ·rw[a2 (by rw[h.lW];exact c),c];exact hw
 ·rcases c i hi with c|c
  ·obtain ⟨p,x,q1,q2,q3,q4,q5⟩:=h.p i h0 c;exact ⟨p,x,by rw[a1 (by rw[h.lP];exact c)];exact q1,by rw[a1 (by rw[h.lK];exact c)];exact q2,q3,q4,by rw[a1 c,a1 (by omega)];exact q5⟩
  ·exact ⟨p,x,a2 (by rw[h.lP];exact c),a2 (by rw[h.lK];exact c),by omega,hx,by rw[a2 c,a1 hp];exact e⟩
 ·have:=h.id;cases S with
  | nil=>cases this
  | cons a S=>exact this
theorem kg.pos (h:kg L n g S P K R W B s):0<S.length:=by
 have:=h.id;cases S with
 | nil=>cases this
 | cons a S=>simp
theorem adQ (h:kg L n g S P K R W B s) {b:Int} {x:Nat} (hx:x<L) (hs:b= -1→x<s.length) (hb:b= -1∨(0≤b∧b<R.length)):vL R s b x<S.length:=by
 unfold vL;split
 ·rename_i e;rw[cN (hs e)];exact h.s.2 _ (dm _)
 ·rename_i e;obtain ⟨h1,h2⟩:=hb.resolve_left e;have h3:b.toNat<R.length:=by omega
  have:=h.row R[b.toNat] (dm h3);rw[cN h3,cN (by omega)];exact this.2 _ (dm _)
theorem T9 (hn:n≤32) (hS: ∀f∈S,Tr n f) {f:List Nat} (hf:Tr n f) (vd:f∉S) (h1:S.length≤2000) (h2:P.length≤2000) (h3:K.length≤2000) (h4:W.length≤2000) (h5:B.length≤2000) {p k b:Int} {w:List UInt8}:
  CC CD ([tV f,.int .i64 p,.int .i64 k,.str w,.int .i64 b]++xA n D G S P K R U W B s)=some (nV S.length::MM n D G (S++[f]) (P++[p]) (K++[k]) R U (W++[w]) (B++[b]) s):=by
 have hl:=hf.1;refine aqP ?_;unfold adH;refine bs (TZ hn hf) ?_;have e1:(nt f).length=n:=by simp[nt,hl]
 refine bT (kh.2 ⟨xH (by rw[show (V.nth [V.str (nt f)] 0).toStr=nt f from rfl,e1];unfold maxLen;omega),rfl⟩) ?_;refine bT (cap (by simp;omega) (by omega)) (bT (cap (by simp;omega) (by omega)) (bT (cap (by simp;omega) (by omega)) (bT (cap (by simp;omega) (by omega)) (bT (cap (by simp;omega) (by omega)) ?_))));have e2:=adL (ke:=kT) 0 (T8 hn hS hf) vd;rw[dt] at e2;rw[pW];unfold MM mT;rw[←e2];simp[sV,iL,wL,nV,tV];rfl
theorem Ua {b:Int} {x:Nat} (h:kg L n g S P K R W B s) (hx:x<L) (hs:b= -1→x<s.length) (hb:b= -1∨(0≤b∧b<R.length)):
  CC F9 ([.int .i64 b,nV x]++xA n D G S P K R U W B s)=some (nV (vL R s b x)::MM n D G S P K R U W B s):=by
 refine aqQ ?_;unfold adI vL;by_cases e:b= -1
 ·rw[aE e];refine bT (by simp[e]) ((bX (wP (hs e))).trans ?_);rw[cN (hs e)];rfl
 ·rw[aF e];obtain ⟨h1,h2⟩:=hb.resolve_left e;obtain ⟨k,rfl⟩:=IF h1;have h3:k<R.length:=by omega
  have h4:=(h.row R[k] (dm h3)).1;refine bF (by simp only[ue];exact e) ((bX (G5 h3)).trans ?_);rw[oq];refine bs (iw (by omega)) ?_;rw[show ((k:Int)).toNat=k from Int.toNat_natCast k,cN h3,cN (by omega)];rfl
theorem aqV {b:Int} {x:Nat} (h:kg L n g S P K R W B s) (hx:x<L) (hs:b= -1→x<s.length) (hb:b= -1∨(0≤b∧b<R.length)):
  ∃c,CC Ga ([.int .i64 b,nV x]++xA n D G S P K R U W B s)=some (.bool c::MM n D G S P K R U W B s):=by
 have h1:=adQ h hx hs hb;have e: ∀r,ML CC b (x:Int) (n:Int) true (D:Int) G (sV S) (iL P) (iL K) (sV R) U (mT S) (wL W) (iL B) (nS s)=r→CC Ga ([.int .i64 b,nV x]++xA n D G S P K R U W B s)=r:=fun r h=>aqS h;by_cases c1:P.getD (vL R s b x) 0=b
 ·refine ⟨K.getD (vL R s b x) 0==(x:Int),e _ ?_⟩;unfold ML;refine bs (Ua h hx hs hb) ((bX (tX (by rw[h.lP];exact h1))).trans (bT ?_ ((bX (tX (by rw[h.lK];exact h1))).trans rfl)));simpa using c1
 ·refine ⟨false,e _ ?_⟩;unfold ML;refine bs (Ua h hx hs hb) ((bX (tX (by rw[h.lP];exact h1))).trans (bF ?_ rfl));simpa using c1
theorem Ub:CC LA (xA n D G S P K R U W B s)=some [.bool ((D:Int)==(S.length:Int)),.int .i64 (n:Int),.bool true,.int .i64 (D:Int),.list cD (mT S),.list ag G,.list ag (sV S),.list ab (iL P),.list ab (iL K),.list ag (sV R),.list dY U,.list bZ (wL W),.list ab (iL B),.list ab (nS s)]:=by
 refine aqR ?_;unfold adJ;rw[pW]
end
noncomputable def tY (C:af) (u x i:Int) (Uc:List UInt8) (t28 t29:Int) (t78:Bool) (bW:Int) (cd:Bool) (c6:Int) (aQ rows fs sD fS fT gk gA dR fU gQ kQ:LV) {β:Type} (kr:(Int×Int×Bool×Int×LV×LV×LV×LV×LV×LV×LV×LV×LV×LV)→Option β):Option β:=
 bif t78 then
  aP gQ u fun x6=>
  (C F9 [V.int .i64 x6.toInt,V.int .i64 x,V.int .i64 bW,.bool cd,V.int .i64 c6,.list ag sD,.list ag fS,.list ab fT,.list ab gk,.list ag gA,.list dY dR,.list cD aQ,.list bZ fU,.list ab gQ,.list ab kQ]).bind fun r7=>
  (C CD [.list ab fs,V.int .i64 u,V.int .i64 x,.str Uc,V.int .i64 ((V.nth r7 0).toInt),V.int .i64 ((V.nth (r7.drop 1) 0).toInt),.bool ((V.nth ((r7.drop 1).drop 1) 0).toBool),V.int .i64 ((V.nth (((r7.drop 1).drop 1).drop 1) 0).toInt),.list ag ((V.nth ((r7.drop 1).drop 3) 0).toList),.list ag ((V.nth ((((r7.drop 1).drop 3).drop 1).drop 1) 0).toList),.list ab ((V.nth (((((r7.drop 1).drop 3).drop 1).drop 1).drop 1) 0).toList),.list ab ((V.nth ((((((r7.drop 1).drop 3).drop 1).drop 1).drop 1).drop 1) 0).toList),.list ag ((V.nth (((((((r7.drop 1).drop 3).drop 1).drop 1).drop 1).drop 1).drop 1) 0).toList),.list dY ((V.nth ((((((((r7.drop 1).drop 3).drop 1).drop 1).drop 1).drop 1).drop 1).drop 1) 0).toList),.list cD ((V.nth (((r7.drop 1).drop 3).drop 1) 0).toList),.list bZ ((V.nth (((((((((r7.drop 1).drop 3).drop 1).drop 1).drop 1).drop 1).drop 1).drop 1).drop 1) 0).toList),.list ab ((V.nth ((((((((((r7.drop 1).drop 3).drop 1).drop 1).drop 1).drop 1).drop 1).drop 1).drop 1).drop 1) 0).toList),.list ab ((V.nth (((((((((((r7.drop 1).drop 3).drop 1).drop 1).drop 1).drop 1).drop 1).drop 1).drop 1).drop 1).drop 1) 0).toList)]).bind fun r8=>
  kr ((V.nth r8 0).toInt,(V.nth (r8.drop 1) 0).toInt,(V.nth ((r8.drop 1).drop 1) 0).toBool,(V.nth (((r8.drop 1).drop 1).drop 1) 0).toInt,(V.nth (((r8.drop 1).drop 3).drop 1) 0).toList,(V.nth ((r8.drop 1).drop 3) 0).toList,(V.nth ((((r8.drop 1).drop 3).drop 1).drop 1) 0).toList,(V.nth (((((r8.drop 1).drop 3).drop 1).drop 1).drop 1) 0).toList,(V.nth ((((((r8.drop 1).drop 3).drop 1).drop 1).drop 1).drop 1) 0).toList,(V.nth (((((((r8.drop 1).drop 3).drop 1).drop 1).drop 1).drop 1).drop 1) 0).toList,(V.nth ((((((((r8.drop 1).drop 3).drop 1).drop 1).drop 1).drop 1).drop 1).drop 1) 0).toList,(V.nth (((((((((r8.drop 1).drop 3).drop 1).drop 1).drop 1).drop 1).drop 1).drop 1).drop 1) 0).toList,(V.nth ((((((((((r8.drop 1).drop 3).drop 1).drop 1).drop 1).drop 1).drop 1).drop 1).drop 1).drop 1) 0).toList,(V.nth (((((((((((r8.drop 1).drop 3).drop 1).drop 1).drop 1).drop 1).drop 1).drop 1).drop 1).drop 1).drop 1) 0).toList)
 else
  aP fU u fun x9=>
  bif !(x9.toStr==[]) then
  aP gQ u fun nU=>
  (C Ga [V.int .i64 nU.toInt,V.int .i64 x,V.int .i64 bW,.bool cd,V.int .i64 c6,.list ag sD,.list ag fS,.list ab fT,.list ab gk,.list ag gA,.list dY dR,.list cD aQ,.list bZ fU,.list ab gQ,.list ab kQ]).bind fun cx=>
  bif (V.nth cx 0).toBool then
   aP ((V.nth (((((((((cx.drop 1).drop 3).drop 1).drop 1).drop 1).drop 1).drop 1).drop 1).drop 1) 0).toList) i fun kR=>
   bif Nat.ble ((((V.nth ((((((((cx.drop 1).drop 3).drop 1).drop 1).drop 1).drop 1).drop 1).drop 1) 0).toList).length+([.agg [.str Uc,.str kR.toStr]]:LV).length)*32) aW then
   kr (i,(V.nth (cx.drop 1) 0).toInt,(V.nth ((cx.drop 1).drop 1) 0).toBool,(V.nth (((cx.drop 1).drop 1).drop 1) 0).toInt,(V.nth (((cx.drop 1).drop 3).drop 1) 0).toList,(V.nth ((cx.drop 1).drop 3) 0).toList,(V.nth ((((cx.drop 1).drop 3).drop 1).drop 1) 0).toList,(V.nth (((((cx.drop 1).drop 3).drop 1).drop 1).drop 1) 0).toList,(V.nth ((((((cx.drop 1).drop 3).drop 1).drop 1).drop 1).drop 1) 0).toList,(V.nth (((((((cx.drop 1).drop 3).drop 1).drop 1).drop 1).drop 1).drop 1) 0).toList,((V.nth ((((((((cx.drop 1).drop 3).drop 1).drop 1).drop 1).drop 1).drop 1).drop 1) 0).toList)++([.agg [.str Uc,.str kR.toStr]]:LV),(V.nth (((((((((cx.drop 1).drop 3).drop 1).drop 1).drop 1).drop 1).drop 1).drop 1).drop 1) 0).toList,(V.nth ((((((((((cx.drop 1).drop 3).drop 1).drop 1).drop 1).drop 1).drop 1).drop 1).drop 1).drop 1) 0).toList,(V.nth (((((((((((cx.drop 1).drop 3).drop 1).drop 1).drop 1).drop 1).drop 1).drop 1).drop 1).drop 1).drop 1) 0).toList)
   else none
  else
   kr (i,(V.nth (cx.drop 1) 0).toInt,(V.nth ((cx.drop 1).drop 1) 0).toBool,(V.nth (((cx.drop 1).drop 1).drop 1) 0).toInt,(V.nth (((cx.drop 1).drop 3).drop 1) 0).toList,(V.nth ((cx.drop 1).drop 3) 0).toList,(V.nth ((((cx.drop 1).drop 3).drop 1).drop 1) 0).toList,(V.nth (((((cx.drop 1).drop 3).drop 1).drop 1).drop 1) 0).toList,(V.nth ((((((cx.drop 1).drop 3).drop 1).drop 1).drop 1).drop 1) 0).toList,(V.nth (((((((cx.drop 1).drop 3).drop 1).drop 1).drop 1).drop 1).drop 1) 0).toList,(V.nth ((((((((cx.drop 1).drop 3).drop 1).drop 1).drop 1).drop 1).drop 1).drop 1) 0).toList,(V.nth (((((((((cx.drop 1).drop 3).drop 1).drop 1).drop 1).drop 1).drop 1).drop 1).drop 1) 0).toList,(V.nth ((((((((((cx.drop 1).drop 3).drop 1).drop 1).drop 1).drop 1).drop 1).drop 1).drop 1).drop 1) 0).toList,(V.nth (((((((((((cx.drop 1).drop 3).drop 1).drop 1).drop 1).drop 1).drop 1).drop 1).drop 1).drop 1).drop 1) 0).toList)
  else
  kr (i,bW,cd,c6,aQ,sD,fS,fT,gk,gA,dR,fU,gQ,kQ)
noncomputable def G6 (C:af) (u t28 t29 bW:Int) (cd:Bool) (c6:Int) (aQ rows sD gR fS fT gk gA dR fU gQ:LV) {β:Type} (kn:(Int×Int×Bool×Int×LV×LV×LV×LV×LV×LV×LV×LV×LV×LV×LV)→Option β) (kr:((Int×Int×Bool×Int×LV×LV×LV×LV×LV×LV×LV×LV×LV×LV) ⊕ (Int×Bool×Int×Bool×Int×LV×LV×LV×LV×LV×LV×LV×LV×LV×LV×LV))→Option β):Option β:=
 bif decide (t29<t28) then
  aP sD t29 fun x1=>
  aP gR u fun x2=>
  (C F8 [.list ab x2.toList,.list ab x1.toList]).bind fun r3=>
  (C xk [.list ab ((V.nth r3 0).toList)]).bind fun r4=>
  bif Nat.ble (((V.nth r4 0).toStr).length) maxLen&&true then
  aP dR u fun x5=>
  bif (decide (0≤(wrap .i32 (wrap .i64 (97+t29)))))&&(decide ((wrap .i32 (wrap .i64 (97+t29)))<128)) then
   bif Nat.ble (x5.toStr.length+[UInt8.ofNat ((wrap .i32 (wrap .i64 (97+t29)):Int).toNat)].length) oT then
   bif !(gM (.str ((V.nth r4 0).toStr)) aQ) then
    bif (gR.length:Int)==2000 then
    kr (.inl (3,bW,cd,c6,aQ,sD,gR,fS,fT,gk,gA,dR,fU,gQ))
    else
    tY C u t29 ((ki (.str ((V.nth r4 0).toStr)) aQ (V.int .i64 0)).toInt) (x5.toStr++[UInt8.ofNat ((wrap .i32 (wrap .i64 (97+t29)):Int).toNat)]) t28 t29 (!(gM (.str ((V.nth r4 0).toStr)) aQ)) bW cd c6 aQ rows ((V.nth r3 0).toList) sD gR fS fT gk gA dR fU gQ (un fun aqW=>un fun aqX=>un fun (GG:Bool)=>un fun GH=>un fun (sB:LV)=>un fun (aqY:LV)=>un fun (p5:LV)=>un fun (o9:LV)=>un fun (zQ:LV)=>un fun (zR:LV)=>un fun (tT:LV)=>un fun (uU:LV)=>un fun (MN:LV) (MO:LV)=>
     aP rows t29 fun x27=>
     kn (wrap .i64 (t29+1),aqX,GG,GH,sB,bj rows t29 (V.int .i64 aqW),aqY,p5,o9,zQ,zR,tT,uU,MN,MO))
   else
    tY C u t29 ((ki (.str ((V.nth r4 0).toStr)) aQ (V.int .i64 0)).toInt) (x5.toStr++[UInt8.ofNat ((wrap .i32 (wrap .i64 (97+t29)):Int).toNat)]) t28 t29 (!(gM (.str ((V.nth r4 0).toStr)) aQ)) bW cd c6 aQ rows ((V.nth r3 0).toList) sD gR fS fT gk gA dR fU gQ (un fun MP=>un fun Ud=>un fun (Ue:Bool)=>un fun Uf=>un fun (TQ:LV)=>un fun (aqZ:LV)=>un fun (zN:LV)=>un fun (GU:LV)=>un fun (Ug:LV)=>un fun (G7:LV)=>un fun (G8:LV)=>un fun (G9:LV)=>un fun (Ha:LV) (Dc:LV)=>
     aP rows t29 fun x42=>
     kn (wrap .i64 (t29+1),Ud,Ue,Uf,TQ,bj rows t29 (V.int .i64 MP),aqZ,zN,GU,Ug,G7,G8,G9,Ha,Dc))
   else none
  else none
  else none
 else
  kr (.inr (t29,decide (t29<t28),bW,cd,c6,aQ,rows,sD,gR,fS,fT,gk,gA,dR,fU,gQ))
noncomputable def Dd (C:af) (u t28:Int):=un fun t29=>un fun bW=>un fun cd=>un fun c6=>un fun aQ=>un fun rows=>un fun sD=>un fun gR=>un fun fS=>un fun fT=>un fun gk=>un fun gA=>un fun dR=>un fun fU gQ=>G6 C u t28 t29 bW cd c6 aQ rows sD gR fS fT gk gA dR fU gQ (fun y=>some (Sum.inl y)) (fun r=>some (Sum.inr r))
noncomputable def adR (C:af):cF:=Ln 1263 SL [[1,2,0,5,6,0,0,0,0,12,0,0,0,0,0,0,0,0,0]] (@tY C) (bN 65 SM [EQ,EQ,H1,H1,H1,H1,H1,H1,H1,H1,H1,H1,H1,H1,H1,H1,H1] [[0,0,0,0,0,0,0,0,0,0,0,0,0,0],[1,2,0,0,0,0,0,0,0,0,0,0,0,0,0,0,0,0]] (@G6 C) bO)
theorem aq0 (C:af):bB C (adR C) 97 (Cd 78 [1,1,1,0,1,0,0,1,1,0,0,1,1,1,1,0,0,1,1,1,0] [1,1,1,0,1,0,0,1,1,0,0,1,1,1,1,0,0,1,1,1,1] 97):=Lm SL [[1,2,0,5,6,0,0,0,0,12,0,0,0,0,0,0,0,0,0]] (@tY C) (bu aw) (bu aw)
theorem aq1 (C:af):bB C (adR C) 97 (Lp [1,1,1,0,1,0,0] 97):=bP SM [EQ,EQ,H1,H1,H1,H1,H1,H1,H1,H1,H1,H1,H1,H1,H1,H1,H1] [[0,0,0,0,0,0,0,0,0,0,0,0,0,0],[1,2,0,0,0,0,0,0,0,0,0,0,0,0,0,0,0,0]] (@G6 C) (bu (bC (aq0 C) aw))
noncomputable def MQ (C:af) (bW:Int) (cd:Bool) (c6:Int) (bm aM aN aR aO aA aQ bw b7 cg:LV):Option LV:=
 bif (decide (0≤(bm.length:Int)))&&((decide ((bm.length:Int)≤(bm.length:Int)))&&(Nat.ble (((bm.length:Int).toNat)*8) aW)) then
  (Loop (Dd C c6 (bm.length:Int)) (0,bW,cd,c6,aQ,List.replicate ((bm.length:Int).toNat) (V.int .i64 0),bm,aM,aN,aR,aO,aA,bw,b7,cg)).bind (gj (un fun Uh=>un fun Hb=>un fun (Ui:Bool)=>un fun Uj=>un fun (De:LV)=>un fun (xB:LV)=>un fun (Hc:LV)=>un fun (Uk:LV)=>un fun (Hd:LV)=>un fun (Ul:LV)=>un fun (Um:LV)=>un fun (Un:LV)=>un fun (Uo:LV) (Up:LV)=>
   some [V.int .i64 Uh,V.int .i64 Hb,.bool Ui,V.int .i64 Uj,.list cD De,.list ag xB,.list ag Hc,.list ab Uk,.list ab Hd,.list ag Ul,.list dY Um,.list bZ Un,.list ab Uo,.list ab Up]) (un fun aq2=>un fun (aq3:Bool)=>un fun aq4=>un fun (aq5:Bool)=>un fun aq6=>un fun (aq7:LV)=>un fun (adS:LV)=>un fun (aq8:LV)=>un fun (aq9:LV)=>un fun (ara:LV)=>un fun (arb:LV)=>un fun (adT:LV)=>un fun (arc:LV)=>un fun (ard:LV)=>un fun (are:LV) (arf:LV)=>
   bif Nat.ble ((adT.length+([.list ab adS]:LV).length)*24) aW then
   some [V.int .i64 0,V.int .i64 aq4,.bool aq5,V.int .i64 (wrap .i64 (aq6+1)),.list cD aq7,.list ag aq8,.list ag aq9,.list ab ara,.list ab arb,.list ag (adT++([.list ab adS]:LV)),.list dY arc,.list bZ ard,.list ab are,.list ab arf]
   else none))
 else none
theorem arh {bW:Int} {cd:Bool} {c6:Int} {bm aM aN aR aO aA aQ bw b7 cg:LV} {r:Option LV} (h:MQ CC bW cd c6 bm aM aN aR aO aA aQ bw b7 cg=r):CC FX [V.int .i64 bW,.bool cd,V.int .i64 c6,.list ag bm,.list ag aM,.list ab aN,.list ab aR,.list ag aO,.list dY aA,.list cD aQ,.list bZ bw,.list ab b7,.list ab cg]=r:=bQ (bC (aq1 CC) aw) h
theorem cg2 {α β γ:Sort _} {f:α→β→γ} {a a':α} {b b':β} (h:a=a') (k:b=b'):f a b=f a' b':=by rw[h,k]
theorem wrap32 {x:Int} (h1: -2147483648≤x) (h2:x<2147483648):wrap .i32 x=x:=by
 unfold IntKind.wrap;simp only[IntKind.bits,IntKind.signed];simp;omega
theorem He {x:Nat} (h:x<31):((decide (0≤(wrap .i32 (wrap .i64 (97+(x:Int))))))&&(decide ((wrap .i32 (wrap .i64 (97+(x:Int))))<128)))=true:=by
 rw[rZ,wrap32 (by omega) (by omega)];exact kh.2 ⟨cp (by omega),cp (by omega)⟩
section
variable {L n D:Nat} {g:Nat→List Nat} {S:List (List Nat)} {P K:List Int} {R:List (List Nat)} {W:List (List UInt8)} {B:List Int} {s:List Nat} {G U:LV}
section
variable (h:kg L n g S P K R W B s) (hs:s.length=L) (hD:D<S.length) (hR:R.length=D)
include h hD hR in
theorem Uq:B.getD D 0= -1∨(0≤B.getD D 0∧B.getD D 0<R.length):=by rw[hR];exact h.b D hD
include h hs hD hR
theorem ari {x i:Nat} (hx:x<L) (hi:i<S.length) (hU:U.length≤100000) {w:List UInt8} {t28 t29:Int} {rows fs:LV}:
  ∃U':LV,U'.length≤U.length+1∧∀{β:Type} (kr:(Int×Int×Bool×Int×LV×LV×LV×LV×LV×LV×LV×LV×LV×LV)→Option β),tY CC (D:Int) (x:Int) (i:Int) w t28 t29 false (n:Int) true (D:Int) (mT S) rows fs G (sV S) (iL P) (iL K) (sV R) U (wL W) (iL B) (nS s) kr=
   kr ((i:Int),(n:Int),true,(D:Int),mT S,G,sV S,iL P,iL K,sV R,U',wL W,iL B,nS s):=by
 simp only[tY];obtain ⟨c,hc⟩:=aqV (D:=D) (G:=G) (U:=U) h hx (fun _=>by rw[hs];exact hx) (Uq h hD hR);have e1:D<W.length:=by rw[h.lW];exact hD
 have e2:D<B.length:=by rw[h.lB];exact hD
 by_cases e0:W.getD D []=[]
 ·refine ⟨U,by omega,fun kr=>bF rfl ((bX (xz e1)).trans (bF ?_ rfl))⟩;rw[show (V.str (W.getD D [])).toStr=W.getD D [] from rfl,e0];rfl
 ·have e3:(!((V.str (W.getD D [])).toStr==[]))=true:=by
   rw[show (V.str (W.getD D [])).toStr=W.getD D [] from rfl];simpa using e0
  cases c with
  | false=>exact ⟨U,by omega,fun kr=>bF rfl ((bX (xz e1)).trans (bT e3 ((bX (tX e2)).trans (bs hc rfl))))⟩
  | true=>
   refine ⟨_,?_,fun kr=>bF rfl ((bX (xz e1)).trans (bT e3 ((bX (tX e2)).trans (bs hc (bT rfl ((bX (xz (by rw[h.lW];exact hi))).trans (bT (cap (m:=32) ?_ (by omega)) rfl)))))))⟩
   ·show (U++[_]).length≤_;simp
   ·show U.length+1≤_;omega
theorem arj {x:Nat} {i:Int} (hx:x<L) (hn:n≤32) {f:List Nat} (hf:Tr n f) (vd:f∉S) {w:List UInt8} {t28 t29:Int} {rows:LV} {β:Type} (kr:(Int×Int×Bool×Int×LV×LV×LV×LV×LV×LV×LV×LV×LV×LV)→Option β):
  tY CC (D:Int) (x:Int) i w t28 t29 true (n:Int) true (D:Int) (mT S) rows (nS f) G (sV S) (iL P) (iL K) (sV R) U (wL W) (iL B) (nS s) kr=
   kr ((S.length:Int),(n:Int),true,(D:Int),mT (S++[f]),G,sV (S++[f]),iL (P++[(D:Int)]),iL (K++[(x:Int)]),sV R,U,wL (W++[w]),iL (B++[(vL R s (B.getD D 0) x:Int)]),nS s):=by
 unfold tY;have e2:D<B.length:=by rw[h.lB];exact hD
 have hl:=h.len;refine bT rfl ((bX (tX e2)).trans (bs (Ua h hx (fun _=>by rw[hs];exact hx) (Uq h hD hR)) (bs (T9 hn h.tr hf vd hl ?_ ?_ ?_ ?_) rfl)))
 ·rw[h.lP];exact hl
 ·rw[h.lK];exact hl
 ·rw[h.lW];exact hl
 ·rw[h.lB];exact hl
end
def bn (g:Nat→List Nat) (f:List Nat) (x:Nat):List Nat:=comp f (g x)
def gV (L:Nat) (g:Nat→List Nat):LV:=tab L fun x=>tV (g x)
def vM (n D L:Nat) (g:Nat→List Nat) (T:List (List Nat)) (f:List Nat) (x:Nat) (S:List (List Nat)) (P K:List Int) (R:List (List Nat)) (U:LV) (W:List (List UInt8)) (B:List Int) (s:List Nat):Int×Int×Bool×Int×LV×LV×LV×LV×LV×LV×LV×LV×LV×LV×LV:=
 ((x:Int),(n:Int),true,(D:Int),mT S,(tab L fun j=>if j<x then nV (ic T (bn g f j)) else V.int .i64 0),gV L g,sV S,iL P,iL K,sV R,U,wL W,iL B,nS s)
def zS (n:Nat):Prop:= ∃T:List (List Nat),T.Nodup∧(∀f∈T,Tr n f)∧T.length=2000
theorem ark (h:kg L n g S P K R W B s) (hs:s.length=L) (hR:R.length=D) (hn:1≤n) (n8:n≤32) (hg: ∀x,x<L→Tr n (g x)) (hL:L≤6) {f:List Nat} (hD:S[D]? =some f) {U2:List (List Nat)} {x:Nat} (hx:x<L) (qS:cZ S (bn g f x) <+: U2) (hU:U.length≤100000):
  (∃P' K' U' W' B',Dd CC (D:Int) (L:Int) (vM n D L g U2 f x S P K R U W B s)=some (.inl (vM n D L g U2 f (x+1) (cZ S (bn g f x)) P' K' R U' W' B' s))∧kg L n g (cZ S (bn g f x)) P' K' R W' B' s∧U'.length≤U.length+1)∨
  ∃t,Dd CC (D:Int) (L:Int) (vM n D L g U2 f x S P K R U W B s)=some (.inr (.inl (3,t)))∧zS n:=by
 obtain ⟨pE,rfl⟩:=cu.1 hD;have hlen:=h.len;have pF:Tr n (bn g S[D] x):=(h.tr _ (dm pE)).comp (hg x hx);have jV:ic U2 (bn g S[D] x)=ic (cZ S (bn g S[D] x)) (bn g S[D] x):=adM qS CX;have jg:(tab L fun j=>if j<x then nV (ic U2 (bn g S[D] j)) else V.int .i64 0).set x (nV (ic U2 (bn g S[D] x)))=tab L fun j=>if j<x+1 then nV (ic U2 (bn g S[D] j)) else V.int .i64 0:=by
  rw[mH];refine dB fun j _=> ?_;by_cases hj:j=x
  ·rw[aE hj,dv,hj]
  ·rw[aF hj];by_cases dN:j<x
   ·rw[aE dN,dv]
   ·rw[aF dN,dA]
 have hW:=h.w D pE;have Ur:D<W.length:=by rw[h.lW];exact pE
 have Us:(gV L g)[x]? =some (tV (g x)):=nq hx;have hC:CC F8 [.list ab (tV S[D]).toList,.list ab (tV (g x)).toList]=some [tV (bn g S[D] x)]:=by
  rw[oq,oq];exact aqN hn n8 (h.tr _ (dm pE)) (hg x hx)
 have hX:CC xk [.list ab ((V.nth [tV (bn g S[D] x)] 0).toList)]=some [kT (bn g S[D] x)]:=by
  rw[show (V.nth [tV (bn g S[D] x)] 0).toList=nS (bn g S[D] x) from oq];exact TZ n8 pF
 have tD:(Nat.ble (((V.nth [kT (bn g S[D] x)] 0).toStr).length) maxLen&&true)=true:=by
  refine kh.2 ⟨xH ?_,rfl⟩;rw[show (V.nth [kT (bn g S[D] x)] 0).toStr=nt (bn g S[D] x) from rfl,show (nt (bn g S[D] x)).length=n by simp[nt,pF.1]];unfold maxLen;omega
 have Ut: ∀b:UInt8,Nat.ble ((V.str (W.getD D [])).toStr.length+[b].length) oT=true:=fun b=>by
  refine xH ?_;show (W.getD D []).length+1≤oT;unfold oT;omega
 have w7:=T8 n8 h.tr pF;simp only[Dd,G6,un,vM,aP,bj];by_cases hk:bn g S[D] x∈S
 ·obtain ⟨U2',hU2,he⟩:=ari (G:=gV L g) (U:=U) (D:=D) h hs pE hR hx (sC hk) hU
   (w:=W.getD D []++[UInt8.ofNat ((wrap .i32 (wrap .i64 (97+(x:Int))):Int).toNat)]) (t28:=(L:Int)) (t29:=(x:Int)) (rows:=tab L fun j=>if j<x then nV (ic U2 (bn g S[D] j)) else V.int .i64 0) (fs:=nS (bn g S[D] x))
  have zT:cZ S (bn g S[D] x)=S:=by rw[cZ,aE hk]
  rw[zT] at jV⊢;have hm:gM (kT (bn g S[D] x)) (mT S)=true:=adN w7 hk;refine .inl ⟨P,K,U2',W,B,bT (bh hx) ((bX Us).trans ((bX (G5 pE)).trans (bs hC (bs hX (bT tD ((bX (xz Ur)).trans (bT (He (by omega)) (bT (Ut _) (bF ?_ ?_))))))))),h,hU2⟩
  ·exact congrArg (!·) hm
  ·refine (cg2 (f:=fun i b=>tY CC (D:Int) (x:Int) i _ (L:Int) (x:Int) b (n:Int) true (D:Int) (mT S) _ _ (gV L g) (sV S) (iL P) (iL K) (sV R) U (wL W) (iL B) (nS s) _) (adP w7 hk) (congrArg (!·) hm)).trans ((he _).trans ((ri (by simpa using hx)).trans ?_))
   rw[br (by omega),Int.toNat_natCast,←jg,jV];rfl
 ·have hm:gM (kT (bn g S[D] x)) (mT S)=false:=adO w7 hk;have zT:cZ S (bn g S[D] x)=S++[bn g S[D] x]:=by rw[cZ,aF hk]
  by_cases adU:S.length=2000
  ·refine .inr ⟨_,bT (bh hx) ((bX Us).trans ((bX (G5 pE)).trans (bs hC (bs hX (bT tD ((bX (xz Ur)).trans (bT (He (by omega)) (bT (Ut _) (bT ?_ (bT ?_ rfl)))))))))),S,h.nd,h.tr,adU⟩
   ·exact congrArg (!·) hm
   ·simp[adU]
  ·rw[zT] at jV⊢;have Bk:=Uq h pE hR;have dj:=adQ h hx (fun _=>by rw[hs];exact hx) Bk;refine .inl ⟨P++[(D:Int)],K++[(x:Int)],U,W++[W.getD D []++[UInt8.ofNat ((wrap .i32 (wrap .i64 (97+(x:Int))):Int).toNat)]],B++[(vL R s (B.getD D 0) x:Int)],bT (bh hx) ((bX Us).trans ((bX (G5 pE)).trans (bs hC (bs hX (bT tD ((bX (xz Ur)).trans (bT (He (by omega)) (bT (Ut _) (bT ?_ (bF ?_ ?_)))))))))),h.grow pF hk (by omega) (p:=D) (x:=x) (b:=(vL R s (B.getD D 0) x:Int)) pE hx ?_ (.inr ⟨by omega,by exact_mod_cast dj⟩) ?_,Nat.le_succ _⟩
   ·exact congrArg (!·) hm
   ·simp;omega
   ·refine (congrArg (fun b=>tY CC (D:Int) (x:Int) _ _ (L:Int) (x:Int) b (n:Int) true (D:Int) (mT S) _ _ (gV L g) (sV S) (iL P) (iL K) (sV R) U (wL W) (iL B) (nS s) _) (congrArg (!·) hm)).trans ?_;refine (arj h hs pE hR hx n8 pF hk _).trans ((ri (by simpa using hx)).trans ?_)
    rw[br (by omega),Int.toNat_natCast,←jg,jV];rw[aqT hk];rfl
   ·rw[ik];show _+1≤_;omega
   ·rw[cN pE];rfl
end
noncomputable def Hf (C:af) (oE:Bool) (t39:LV) (t40 bW:Int) (cd:Bool) (c6:Int) (aM aN aR aO aA aQ bw b7 cg:LV) (t41:Int) (bm:LV) {β:Type} (kn:(Int×LV)→Option β) (kr:((Int) ⊕ (Int×Bool×LV))→Option β):Option β:=
 bif decide (t41<t40) then
  (idx t39 t41).bind fun x2=>
  bif (x2.toList.length:Int) != bW then
  kr (.inl 4)
  else
  (C CB [.list ab x2.toList]).bind fun r3=>
  bif !((V.nth r3 0).toBool) then
   kr (.inl 4)
  else
   bif Nat.ble (x2.toList.length*8) aW then
   bif Nat.ble ((bm.length+([.list ab x2.toList]:LV).length)*24) aW then
    kn (wrap .i64 (t41+1),bm++([.list ab x2.toList]:LV))
   else none
   else none
 else
  kr (.inr (t41,decide (t41<t40),bm))
noncomputable def MR (C:af) (oE:Bool) (t39:LV) (t40 bW:Int) (cd:Bool) (c6:Int) (aM aN aR aO aA aQ bw b7 cg:LV):=un fun t41 bm=>Hf C oE t39 t40 bW cd c6 aM aN aR aO aA aQ bw b7 cg t41 bm (fun y=>some (Sum.inl y)) (fun r=>some (Sum.inr r))
noncomputable def Hg (C:af) (empty:Int) (t72:Bool) (bW:Int) (cd:Bool) (c6:Int) (bm aM aN aR aO aA aQ bw b7 cg:LV) {β:Type} (kr:(Int×Int×Bool×Int×LV×LV×LV×LV×LV×LV×LV×LV×LV×LV)→Option β):Option β:=
 bif t72 then
  (C LJ [V.int .i64 bW]).bind fun r8=>
  (C CD [.list ab ((V.nth r8 0).toList),V.int .i64 (-1),V.int .i64 (-1),.str [],V.int .i64 (-1),V.int .i64 bW,.bool cd,V.int .i64 c6,.list ag bm,.list ag aM,.list ab aN,.list ab aR,.list ag aO,.list dY aA,.list cD aQ,.list bZ bw,.list ab b7,.list ab cg]).bind fun r9=>
  kr ((V.nth r9 0).toInt,(V.nth (r9.drop 1) 0).toInt,(V.nth ((r9.drop 1).drop 1) 0).toBool,(V.nth (((r9.drop 1).drop 1).drop 1) 0).toInt,(V.nth ((r9.drop 1).drop 3) 0).toList,(V.nth ((((r9.drop 1).drop 3).drop 1).drop 1) 0).toList,(V.nth (((((r9.drop 1).drop 3).drop 1).drop 1).drop 1) 0).toList,(V.nth ((((((r9.drop 1).drop 3).drop 1).drop 1).drop 1).drop 1) 0).toList,(V.nth (((((((r9.drop 1).drop 3).drop 1).drop 1).drop 1).drop 1).drop 1) 0).toList,(V.nth ((((((((r9.drop 1).drop 3).drop 1).drop 1).drop 1).drop 1).drop 1).drop 1) 0).toList,(V.nth (((r9.drop 1).drop 3).drop 1) 0).toList,(V.nth (((((((((r9.drop 1).drop 3).drop 1).drop 1).drop 1).drop 1).drop 1).drop 1).drop 1) 0).toList,(V.nth ((((((((((r9.drop 1).drop 3).drop 1).drop 1).drop 1).drop 1).drop 1).drop 1).drop 1).drop 1) 0).toList,(V.nth (((((((((((r9.drop 1).drop 3).drop 1).drop 1).drop 1).drop 1).drop 1).drop 1).drop 1).drop 1).drop 1) 0).toList)
 else
  kr (empty,bW,cd,c6,bm,aM,aN,aR,aO,aA,aQ,bw,b7,cg)
noncomputable def zU (C:af) (empty x:Int) (g:LV) (letter:List UInt8) (i t86 t87:Int) (t106:Bool) (bW:Int) (cd:Bool) (c6:Int) (xC aM aN aR aO aA aQ bw b7 cg:LV) {β:Type} (kr:(Int×Int×Bool×Int×LV×LV×LV×LV×LV×LV×LV×LV×LV×LV)→Option β):Option β:=
 bif t106 then
  aP bw i fun MS=>
  bif Nat.ble ((aA.length+([.agg [.str letter,.str MS.toStr]]:LV).length)*32) aW then
  kr (i,bW,cd,c6,xC,aM,aN,aR,aO,aA++([.agg [.str letter,.str MS.toStr]]:LV),aQ,bw,b7,cg)
  else none
 else
  bif Nat.ble (g.length*8) aW then
  (C CD [.list ab g,V.int .i64 empty,V.int .i64 x,.str letter,V.int .i64 empty,V.int .i64 bW,.bool cd,V.int .i64 c6,.list ag xC,.list ag aM,.list ab aN,.list ab aR,.list ag aO,.list dY aA,.list cD aQ,.list bZ bw,.list ab b7,.list ab cg]).bind fun pG=>
  kr ((V.nth pG 0).toInt,(V.nth (pG.drop 1) 0).toInt,(V.nth ((pG.drop 1).drop 1) 0).toBool,(V.nth (((pG.drop 1).drop 1).drop 1) 0).toInt,(V.nth ((pG.drop 1).drop 3) 0).toList,(V.nth ((((pG.drop 1).drop 3).drop 1).drop 1) 0).toList,(V.nth (((((pG.drop 1).drop 3).drop 1).drop 1).drop 1) 0).toList,(V.nth ((((((pG.drop 1).drop 3).drop 1).drop 1).drop 1).drop 1) 0).toList,(V.nth (((((((pG.drop 1).drop 3).drop 1).drop 1).drop 1).drop 1).drop 1) 0).toList,(V.nth ((((((((pG.drop 1).drop 3).drop 1).drop 1).drop 1).drop 1).drop 1).drop 1) 0).toList,(V.nth (((pG.drop 1).drop 3).drop 1) 0).toList,(V.nth (((((((((pG.drop 1).drop 3).drop 1).drop 1).drop 1).drop 1).drop 1).drop 1).drop 1) 0).toList,(V.nth ((((((((((pG.drop 1).drop 3).drop 1).drop 1).drop 1).drop 1).drop 1).drop 1).drop 1).drop 1) 0).toList,(V.nth (((((((((((pG.drop 1).drop 3).drop 1).drop 1).drop 1).drop 1).drop 1).drop 1).drop 1).drop 1).drop 1) 0).toList)
  else none
noncomputable def Hh (C:af) (empty t86 t87 bW:Int) (cd:Bool) (c6:Int) (xC aM aN aR aO aA aQ bw b7 cg:LV) {β:Type} (kn:(Int×Int×Bool×Int×LV×LV×LV×LV×LV×LV×LV×LV×LV×LV)→Option β) (kr:(Int×Bool×Int×Bool×Int×LV×LV×LV×LV×LV×LV×LV×LV×LV×LV)→Option β):Option β:=
 bif decide (t87<t86) then
  aP xC t87 fun MT=>
  bif (decide (0≤(wrap .i32 (wrap .i64 (97+t87)))))&&(decide ((wrap .i32 (wrap .i64 (97+t87)))<128)) then
  (C xk [.list ab MT.toList]).bind fun Uu=>
  bif Nat.ble (((V.nth Uu 0).toStr).length) maxLen&&true then
   zU C empty t87 MT.toList [UInt8.ofNat ((wrap .i32 (wrap .i64 (97+t87)):Int).toNat)] ((ki (.str ((V.nth Uu 0).toStr)) aQ (V.int .i64 0)).toInt) t86 t87 (gM (.str ((V.nth Uu 0).toStr)) aQ) bW cd c6 xC aM aN aR aO aA aQ bw b7 cg (un fun MP=>un fun Ud=>un fun (Ue:Bool)=>un fun Uf=>un fun (arl:LV)=>un fun (ady:LV)=>un fun (zN:LV)=>un fun (GU:LV)=>un fun (Ug:LV)=>un fun (G7:LV)=>un fun (G8:LV)=>un fun (G9:LV)=>un fun (Ha:LV) (Dc:LV)=>
    bif Nat.ble ((Dc.length+([V.int .i64 MP]:LV).length)*8) aW then
    kn (wrap .i64 (t87+1),Ud,Ue,Uf,arl,ady,zN,GU,Ug,G7,G8,G9,Ha,Dc++([V.int .i64 MP]:LV))
    else none)
  else none
  else none
 else
  kr (t87,decide (t87<t86),bW,cd,c6,xC,aM,aN,aR,aO,aA,aQ,bw,b7,cg)
noncomputable def Hi (C:af) (empty t86:Int):=un fun t87=>un fun bW=>un fun cd=>un fun c6=>un fun xC=>un fun aM=>un fun aN=>un fun aR=>un fun aO=>un fun aA=>un fun aQ=>un fun bw=>un fun b7 cg=>Hh C empty t86 t87 bW cd c6 xC aM aN aR aO aA aQ bw b7 cg (fun y=>some (Sum.inl y)) (fun r=>some (Sum.inr r))
noncomputable def MU (C:af):cF:=bN 97 SG [EQ,EQ,EQ,H1,EQ,EQ,EQ,H1,EQ,EQ,EQ,EQ,EQ,EQ,EQ,EQ,EQ] [[0],[1,2,3,0,0,5,6,7,0,9,10,11,12,13,14,15,16,17]] (@Hf C) (Ln 1167 SH [[0,0,0,0,0,0,0,0,0,0,0,0,0,0]] (@Hg C) (Ln 1711 SJ [[1,0,6,7,0,0,0,0,0,0,0,0,0,0,0,0,0]] (@zU C) (bN 257 SK [EQ,EQ,H1,H1,H1,H1,H1,H1,H1,H1,H1,H1,H1,H1,H1,H1] [[1,2,0,0,0,0,0,0,0,0,0,0,0,0,0,0,0]] (@Hh C) bO)))
theorem arn (C:af):bB C (MU C) 95 (Lp [1,1,1,1,0,1,0,0] 95):=bP SG [EQ,EQ,EQ,H1,EQ,EQ,EQ,H1,EQ,EQ,EQ,EQ,EQ,EQ,EQ,EQ,EQ] [[0],[1,2,3,0,0,5,6,7,0,9,10,11,12,13,14,15,16,17]] (@Hf C) (bu aw)
theorem aro (C:af):bB C (MU C) 95 (Cd 72 [1,1,1,1,1,1,0,1,0] [1,1,1,1,1,1,0,1,1] 95):=Lm SH [[0,0,0,0,0,0,0,0,0,0,0,0,0,0]] (@Hg C) (bu aw) (bu aw)
theorem arp (C:af):bB C (MU C) 95 (Cd 106 [1,1,1,1,1,1,1,0,1,0,0,1,1,0,0,1,1,1,0,1,0] [1,1,1,1,1,1,1,0,1,0,0,1,1,0,0,1,1,1,0,1,1] 95):=Lm SJ [[1,0,6,7,0,0,0,0,0,0,0,0,0,0,0,0,0]] (@zU C) (bu aw) (bu aw)
theorem arq (C:af):bB C (MU C) 95 (Lp [1,1,1,1,1,1,1,0,1,0,0] 95):=bP SK [EQ,EQ,H1,H1,H1,H1,H1,H1,H1,H1,H1,H1,H1,H1,H1,H1] [[1,2,0,0,0,0,0,0,0,0,0,0,0,0,0,0,0]] (@Hh C) (bu (bC (arp C) aw))
noncomputable def adV (C:af) (mh:LV) (oE:Bool):Option LV:=
 bif (mh.length:Int)==0 then
  some [V.bool true,V.int .i64 1]
 else
  bif decide ((mh.length:Int)>6) then
  some [V.bool true,V.int .i64 1]
  else
  (mh[0]?).bind fun x1=>
  (Loop (MR C oE mh (mh.length:Int) (x1.toList.length:Int) oE 0 ([]:LV) ([]:LV) ([]:LV) ([]:LV) ([]:LV) ([]:LV) ([]:LV) ([]:LV) ([]:LV)) (0,([]:LV))).bind (gj (fun lV=>
   some [V.bool true,V.int .i64 lV]) (un fun kC=>un fun (j7:Bool) (yu:LV)=>
   Hg C (-1) oE (x1.toList.length:Int) oE 0 yu ([]:LV) ([]:LV) ([]:LV) ([]:LV) ([]:LV) ([]:LV) ([]:LV) ([]:LV) ([]:LV) (un fun ars=>un fun art=>un fun (TA:Bool)=>un fun TB=>un fun (o7:LV)=>un fun (uQ:LV)=>un fun (yx:LV)=>un fun (sB:LV)=>un fun (vJ:LV)=>un fun (p5:LV)=>un fun (o9:LV)=>un fun (zQ:LV)=>un fun (zR:LV) (tT:LV)=>
    (Loop (Hi C ars (o7.length:Int)) (0,art,TA,TB,o7,uQ,yx,sB,vJ,p5,o9,zQ,zR,tT)).bind (un fun axP=>un fun (Uh:Bool)=>un fun aru=>un fun (arv:Bool)=>un fun arw=>un fun (arx:LV)=>un fun (xB:LV)=>un fun (Hc:LV)=>un fun (Uk:LV)=>un fun (Hd:LV)=>un fun (Ul:LV)=>un fun (Um:LV)=>un fun (Un:LV)=>un fun (Uo:LV) (Up:LV)=>
     some [V.bool false,V.int .i64 aru,.bool arv,V.int .i64 arw,.list ag arx,.list ag xB,.list ab Hc,.list ab Uk,.list ag Hd,.list dY Ul,.list cD Um,.list bZ Un,.list ab Uo,.list ab Up]))))
theorem ary {mh:LV} {oE:Bool} {r:Option LV} (h:adV CC mh oE=r):CC Ly [.list ag mh,.bool oE]=r:=bQ (bC (arn CC) (bC (aro CC) (bC (arq CC) aw))) h
noncomputable def MV (C:af) (lx:Int) (ly:Bool) (adW:Int) (aM aN aR aO aA aQ:LV) (bW:Int) (cd:Bool) (c6:Int) (bw b7 cg gB jK gR fS fT gk gA:LV) {β:Type} (kn:(Int×Bool×Int×LV×LV×LV×LV×LV×LV×LV×LV×LV×LV)→Option β) (kr:((Int×Int×Bool×Int×LV×LV×LV×LV×LV×LV) ⊕ (Bool×Int×Bool×Int×LV×LV×LV×LV×LV×LV×LV×LV×LV×LV))→Option β):Option β:=
 (C LA [V.int .i64 bW,.bool cd,V.int .i64 c6,.list ag bw,.list ag b7,.list ab cg,.list ab gB,.list ag jK,.list dY gR,.list cD fS,.list bZ fT,.list ab gk,.list ab gA]).bind fun r2=>
 bif !((V.nth r2 0).toBool) then
  (C FX [V.int .i64 ((V.nth (r2.drop 1) 0).toInt),.bool ((V.nth ((r2.drop 1).drop 1) 0).toBool),V.int .i64 ((V.nth (((r2.drop 1).drop 1).drop 1) 0).toInt),.list ag ((V.nth (((r2.drop 1).drop 3).drop 1) 0).toList),.list ag ((V.nth ((((r2.drop 1).drop 3).drop 1).drop 1) 0).toList),.list ab ((V.nth (((((r2.drop 1).drop 3).drop 1).drop 1).drop 1) 0).toList),.list ab ((V.nth ((((((r2.drop 1).drop 3).drop 1).drop 1).drop 1).drop 1) 0).toList),.list ag ((V.nth (((((((r2.drop 1).drop 3).drop 1).drop 1).drop 1).drop 1).drop 1) 0).toList),.list dY ((V.nth ((((((((r2.drop 1).drop 3).drop 1).drop 1).drop 1).drop 1).drop 1).drop 1) 0).toList),.list cD ((V.nth ((r2.drop 1).drop 3) 0).toList),.list bZ ((V.nth (((((((((r2.drop 1).drop 3).drop 1).drop 1).drop 1).drop 1).drop 1).drop 1).drop 1) 0).toList),.list ab ((V.nth ((((((((((r2.drop 1).drop 3).drop 1).drop 1).drop 1).drop 1).drop 1).drop 1).drop 1).drop 1) 0).toList),.list ab ((V.nth (((((((((((r2.drop 1).drop 3).drop 1).drop 1).drop 1).drop 1).drop 1).drop 1).drop 1).drop 1).drop 1) 0).toList)]).bind fun r3=>
  bif (((V.nth r3 0).toInt):Int) != 0 then
  kr (.inl ((V.nth r3 0).toInt,0,false,0,([]:LV),([]:LV),([]:LV),([]:LV),([]:LV),([]:LV)))
  else
  kn ((V.nth (r3.drop 1) 0).toInt,(V.nth ((r3.drop 1).drop 1) 0).toBool,(V.nth (((r3.drop 1).drop 1).drop 1) 0).toInt,(V.nth (((r3.drop 1).drop 3).drop 1) 0).toList,(V.nth ((((r3.drop 1).drop 3).drop 1).drop 1) 0).toList,(V.nth (((((r3.drop 1).drop 3).drop 1).drop 1).drop 1) 0).toList,(V.nth ((((((r3.drop 1).drop 3).drop 1).drop 1).drop 1).drop 1) 0).toList,(V.nth (((((((r3.drop 1).drop 3).drop 1).drop 1).drop 1).drop 1).drop 1) 0).toList,(V.nth ((((((((r3.drop 1).drop 3).drop 1).drop 1).drop 1).drop 1).drop 1).drop 1) 0).toList,(V.nth ((r3.drop 1).drop 3) 0).toList,(V.nth (((((((((r3.drop 1).drop 3).drop 1).drop 1).drop 1).drop 1).drop 1).drop 1).drop 1) 0).toList,(V.nth ((((((((((r3.drop 1).drop 3).drop 1).drop 1).drop 1).drop 1).drop 1).drop 1).drop 1).drop 1) 0).toList,(V.nth (((((((((((r3.drop 1).drop 3).drop 1).drop 1).drop 1).drop 1).drop 1).drop 1).drop 1).drop 1).drop 1) 0).toList)
 else
  kr (.inr (!((V.nth r2 0).toBool),(V.nth (r2.drop 1) 0).toInt,(V.nth ((r2.drop 1).drop 1) 0).toBool,(V.nth (((r2.drop 1).drop 1).drop 1) 0).toInt,(V.nth (((r2.drop 1).drop 3).drop 1) 0).toList,(V.nth ((((r2.drop 1).drop 3).drop 1).drop 1) 0).toList,(V.nth (((((r2.drop 1).drop 3).drop 1).drop 1).drop 1) 0).toList,(V.nth ((((((r2.drop 1).drop 3).drop 1).drop 1).drop 1).drop 1) 0).toList,(V.nth (((((((r2.drop 1).drop 3).drop 1).drop 1).drop 1).drop 1).drop 1) 0).toList,(V.nth ((((((((r2.drop 1).drop 3).drop 1).drop 1).drop 1).drop 1).drop 1).drop 1) 0).toList,(V.nth ((r2.drop 1).drop 3) 0).toList,(V.nth (((((((((r2.drop 1).drop 3).drop 1).drop 1).drop 1).drop 1).drop 1).drop 1).drop 1) 0).toList,(V.nth ((((((((((r2.drop 1).drop 3).drop 1).drop 1).drop 1).drop 1).drop 1).drop 1).drop 1).drop 1) 0).toList,(V.nth (((((((((((r2.drop 1).drop 3).drop 1).drop 1).drop 1).drop 1).drop 1).drop 1).drop 1).drop 1).drop 1) 0).toList))
noncomputable def Uv (C:af) (lx:Int) (ly:Bool) (adW:Int) (aM aN aR aO aA aQ:LV):=un fun bW=>un fun cd=>un fun c6=>un fun bw=>un fun b7=>un fun cg=>un fun gB=>un fun jK=>un fun gR=>un fun fS=>un fun fT=>un fun gk gA=>MV C lx ly adW aM aN aR aO aA aQ bW cd c6 bw b7 cg gB jK gR fS fT gk gA (fun y=>some (Sum.inl y)) (fun r=>some (Sum.inr r))
noncomputable def arz (C:af):cF:=bN 65 Sy [EQ,EQ,EQ,H1,H1,H1,EQ,EQ,EQ,EQ,EQ,EQ,H1,H1,H1,H1,H1,H1,H1,H1,H1,H1] [[0,0,0,0,0,0,0,0,0,0],[0,1,2,3,0,0,0,7,8,9,10,11,12,0,0,0,0,0,0,0,0,0,0]] (@MV C) bO
theorem arA (C:af):bB C (arz C) 66 (Lp [1,1,1,0,0,0] 66):=bP Sy [EQ,EQ,EQ,H1,H1,H1,EQ,EQ,EQ,EQ,EQ,EQ,H1,H1,H1,H1,H1,H1,H1,H1,H1,H1] [[0,0,0,0,0,0,0,0,0,0],[0,1,2,3,0,0,0,7,8,9,10,11,12,0,0,0,0,0,0,0,0,0,0]] (@MV C) (bu aw)
noncomputable def Uw (C:af) (mh:LV) (oE:Bool):Option LV:=
 (C Ly [.list ag mh,.bool oE]).bind fun r1=>
 bif (V.nth r1 0).toBool then
  bif (((V.nth (r1.drop 1) 0).toInt):Int) != 0 then
  some [V.int .i64 0,.bool false,V.int .i64 0,V.int .i64 ((V.nth (r1.drop 1) 0).toInt),.list ag ([]:LV),.list ag ([]:LV),.list ab ([]:LV),.list ab ([]:LV),.list ag ([]:LV),.list dY ([]:LV)]
  else none
 else
  (Loop (Uv C 0 false 0 ([]:LV) ([]:LV) ([]:LV) ([]:LV) ([]:LV) ([]:LV)) ((V.nth (r1.drop 1) 0).toInt,(V.nth ((r1.drop 1).drop 1) 0).toBool,(V.nth (((r1.drop 1).drop 1).drop 1) 0).toInt,(V.nth ((r1.drop 1).drop 3) 0).toList,(V.nth (((r1.drop 1).drop 3).drop 1) 0).toList,(V.nth ((((r1.drop 1).drop 3).drop 1).drop 1) 0).toList,(V.nth (((((r1.drop 1).drop 3).drop 1).drop 1).drop 1) 0).toList,(V.nth ((((((r1.drop 1).drop 3).drop 1).drop 1).drop 1).drop 1) 0).toList,(V.nth (((((((r1.drop 1).drop 3).drop 1).drop 1).drop 1).drop 1).drop 1) 0).toList,(V.nth ((((((((r1.drop 1).drop 3).drop 1).drop 1).drop 1).drop 1).drop 1).drop 1) 0).toList,(V.nth (((((((((r1.drop 1).drop 3).drop 1).drop 1).drop 1).drop 1).drop 1).drop 1).drop 1) 0).toList,(V.nth ((((((((((r1.drop 1).drop 3).drop 1).drop 1).drop 1).drop 1).drop 1).drop 1).drop 1).drop 1) 0).toList,(V.nth (((((((((((r1.drop 1).drop 3).drop 1).drop 1).drop 1).drop 1).drop 1).drop 1).drop 1).drop 1).drop 1) 0).toList)).bind (gj (un fun lV=>un fun arB=>un fun (arC:Bool)=>un fun Tz=>un fun (BB:LV)=>un fun (yA:LV)=>un fun (qm:LV)=>un fun (zI:LV)=>un fun (TC:LV) (C8:LV)=>
   some [V.int .i64 arB,.bool arC,V.int .i64 Tz,V.int .i64 lV,.list ag BB,.list ag yA,.list ab qm,.list ab zI,.list ag TC,.list dY C8]) (un fun (uS:Bool)=>un fun GG=>un fun (GH:Bool)=>un fun arD=>un fun (vJ:LV)=>un fun (p5:LV)=>un fun (o9:LV)=>un fun (zQ:LV)=>un fun (zR:LV)=>un fun (tT:LV)=>un fun (uU:LV)=>un fun (MN:LV)=>un fun (MO:LV) (adX:LV)=>
   some [V.int .i64 GG,.bool GH,V.int .i64 arD,V.int .i64 0,.list ag vJ,.list ag p5,.list ab o9,.list ab zQ,.list ag zR,.list dY tT]))
theorem adY {mh:LV} {oE:Bool} {r:Option LV} (h:Uw CC mh oE=r):CC Bt [.list ag mh,.bool oE]=r:=bQ (bC (arA CC) aw) h
section
variable {L n D:Nat} {g:Nat→List Nat} {S:List (List Nat)} {P K:List Int} {R:List (List Nat)} {W:List (List UInt8)} {B:List Int} {s:List Nat} {U:LV}
def fc (L:Nat) (g:Nat→List Nat) (T:List (List Nat)) (f:List Nat):List Nat:=(List.range L).map fun x=>ic T (bn g f x)
theorem arE {T:List (List Nat)} {f:List Nat}:tV (fc L g T f)= .list ab (tab L fun j=>if j<L then nV (ic T (bn g f j)) else V.int .i64 0):=by
 unfold tV fc nS;rw[AH];exact congrArg _ (dB (n:=L) (g:=nV ∘ fun x=>ic T (bn g f x)) fun j hj=>by rw[aE hj];rfl)
abbrev PrR:=(Int×Int×Bool×Int×LV×LV×LV×LV×LV×LV×LV×LV×LV×LV) ⊕ (Int×Bool×Int×Bool×Int×LV×LV×LV×LV×LV×LV×LV×LV×LV×LV×LV)
theorem arF (h:kg L n g S P K R W B s) (hs:s.length=L) (hR:R.length=D) (hn:1≤n) (n8:n≤32) (hg: ∀x,x<L→Tr n (g x)) (hL:L≤6) {f:List Nat} (hD:S[D]? =some f) (hU:U.length≤6+D*6):
  ∃r,CC FX (xA n D (gV L g) S P K R U W B s)=some r∧((∃l,r= .int .i64 3::l∧zS n)∨
   ∃P' K' U' W' B',r= .int .i64 0::[.int .i64 (n:Int),.bool true,.int .i64 ((D+1:Nat):Int),.list cD (mT (cA (bn g) S f L)),.list ag (gV L g),.list ag (sV (cA (bn g) S f L)),.list ab (iL P'),.list ab (iL K'),
    .list ag (sV (R++[fc L g (cA (bn g) S f L) f])),.list dY U',.list bZ (wL W'),.list ab (iL B'),.list ab (nS s)]∧
    kg L n g (cA (bn g) S f L) P' K' R W' B' s∧U'.length≤6+(D+1)*6):=by
 have Dg:=(cu.1 hD).1;have hlen:=h.len;have key: ∃r,Loop (Dd CC (D:Int) (L:Int)) (vM n D L g (cA (bn g) S f L) f 0 S P K R U W B s)=some r∧((∃t,r= .inl (3,t)∧zS n)∨
   ∃P' K' U' W' B',r= .inr ((L:Int),false,(vM n D L g (cA (bn g) S f L) f L (cA (bn g) S f L) P' K' R U' W' B' s).2)∧kg L n g (cA (bn g) S f L) P' K' R W' B' s∧U'.length≤6+(D+1)*6):=by
  refine xy (fun x y=> ∃P' K' U' W' B',y=vM n D L g (cA (bn g) S f L) f x (cA (bn g) S f x) P' K' R U' W' B' s∧kg L n g (cA (bn g) S f x) P' K' R W' B' s∧U'.length≤6+D*6+x)
   (fun r:PrR=>(∃t,r= .inl (3,t)∧zS n)∨∃P' K' U' W' B',r= .inr ((L:Int),false,(vM n D L g (cA (bn g) S f L) f L (cA (bn g) S f L) P' K' R U' W' B' s).2)∧kg L n g (cA (bn g) S f L) P' K' R W' B' s∧U'.length≤6+(D+1)*6)
   L (fun x hx y hy=> ?_) (fun y hy=> ?_) L 0 _ (dt _) ⟨P,K,U,W,B,rfl,h,hU⟩
  ·obtain ⟨P1,K1,U1,W1,B1,rfl,hI,Ux⟩:=hy;have qS:=My (next:=bn g) S f x;have pE:(cA (bn g) S f x)[D]? =some f:=by
    obtain ⟨Z,e⟩:=qS;rw[←e,nG Dg,hD]
   rcases ark (U2:=cA (bn g) S f L) hI hs hR hn n8 hg hL pE hx (CZ (next:=bn g) S f (show x+1≤L by omega)) (by omega) (U:=U1) with ⟨P2,K2,U2,W2,B2,e,h2,h3⟩|⟨t,e,hm⟩
   ·exact .inl ⟨_,e,P2,K2,U2,W2,B2,rfl,h2,by omega⟩
   ·exact .inr ⟨_,e,.inl ⟨t,rfl,hm⟩⟩
  ·obtain ⟨P1,K1,U1,W1,B1,rfl,hI,Ux⟩:=hy;refine ⟨_,?_,.inr ⟨P1,K1,U1,W1,B1,rfl,hI,by omega⟩⟩;unfold vM;simp only[Dd,G6,un];refine bF (aV (av _)) ?_;rw[aV (av _)]
 obtain ⟨r,e1,e2⟩:=key;have e0:List.replicate (((L:Nat):Int).toNat) (V.int .i64 0)=tab L fun j=>if j<0 then nV (ic (cA (bn g) S f L) (bn g f j)) else V.int .i64 0:=by
  rw[Int.toNat_natCast,qo];exact dB fun j _=>by rw[dA]
 have fin: ∀z,MQ CC (n:Int) true (D:Int) (gV L g) (sV S) (iL P) (iL K) (sV R) U (mT S) (wL W) (iL B) (nS s)=z→CC FX (xA n D (gV L g) S P K R U W B s)=z:=fun z h=>arh h;rcases e2 with ⟨t,rfl,hm⟩|⟨P1,K1,U1,W1,B1,rfl,hI,Ux⟩
 ·refine ⟨_,fin _ ?_,.inl ⟨[.int .i64 t.1,.bool t.2.1,.int .i64 t.2.2.1,.list cD t.2.2.2.1,.list ag t.2.2.2.2.1,.list ag t.2.2.2.2.2.1,.list ab t.2.2.2.2.2.2.1,.list ab t.2.2.2.2.2.2.2.1,.list ag t.2.2.2.2.2.2.2.2.1,.list dY t.2.2.2.2.2.2.2.2.2.1,.list bZ t.2.2.2.2.2.2.2.2.2.2.1,.list ab t.2.2.2.2.2.2.2.2.2.2.2.1,.list ab t.2.2.2.2.2.2.2.2.2.2.2.2],rfl,hm⟩⟩;unfold MQ;rw[show (gV L g).length=L from fG,e0];exact bT (fO (by omega) (by omega)) (bs e1 rfl)
 ·refine ⟨_,fin _ ?_,.inr ⟨P1,K1,U1,W1,B1,rfl,hI,Ux⟩⟩;unfold MQ;rw[show (gV L g).length=L from fG,e0];refine bT (fO (by omega) (by omega)) (bs e1 (bT (show Nat.ble (((sV R).length+1)*24) aW=true from cap (by simp;omega) (by omega)) ?_));have hw:((D+1:Nat):Int)=wrap .i64 ((D:Int)+1):=(br (by omega)).symm;have:sV (R++[fc L g (cA (bn g) S f L) f])=sV R++[tV (fc L g (cA (bn g) S f L) f)]:=by simp[sV]
  rw[hw,this,arE];rfl
end
section
variable {L n:Nat} {g:Nat→List Nat} (hn:1≤n) (n8:n≤32) (hg: ∀x,x<L→Tr n (g x)) (h1:1≤L) (hL:L≤6)
include hg in
theorem adZ {x:Nat} (hx:x<L):bn g (List.range n) x=g x:=by
 have h:=hg x hx;refine ui (by simp[bn,comp,h.1]) fun i h1 h2=> ?_;simp[bn,comp,h2]
include hn n8 hg h1 hL
theorem arG: ∃P K,∃U:LV,∃W B s,CC Ly [.list ag (gV L g),.bool true]=some (.bool false::xA n 0 (gV L g) (cA (bn g) [List.range n] (List.range n) L) P K [] U W B s)∧kg L n g (cA (bn g) [List.range n] (List.range n) L) P K [] W B s∧s.length=L∧U.length≤6:=by
 have hG:(gV L g).length=L:=fG;have l1: ∀{a b c d:LV} {e f g1 h1 i1:LV},Loop (MR CC true (gV L g) (L:Int) (n:Int) true 0 a b c d e f g1 h1 i1) (0,([]:LV))=some (.inr ((L:Int),false,gV L g)):=by
  intro a b c d e f g1 h1 i1;refine gx L (fun i=>((i:Int),tab i fun x=>tV (g x))) _ (fun i hi=> ?_) ?_
  ·simp only[MR,Hf,un];have ht:=hg i hi;refine bT (bh hi) (bs (qp hi) ?_);rw[oq];have e1:(nS (g i)).length=n:=by rw[dy,ht.1]
   refine bF (by rw[e1];simp) (bs (TY hn n8 ht) (bF rfl (bT (cap (a:=(nS (g i)).length) (b:=0) (by omega) (by omega)) (bT (cap (by simp;omega) (by omega)) ?_))));rw[br (by omega),Bw];rfl
  ·simp only[MR,Hf,un];refine bF (aV (av _)) ?_;rw[aV (av _)];rfl
 have hI0:kg L n g [List.range n] [-1] [-1] [] [[]] [-1] []:=by
  refine ⟨fun f hf=> ?_,by simp,by simp,rfl,rfl,rfl,rfl,fun r hr=>(by cases hr),⟨by simp,fun y hy=>(by cases hy)⟩,fun i hi=> ?_,fun i hi=> ?_,fun i h0 hi=>(by simp at hi;omega),rfl⟩
  ·rw[fu.1 hf];exact G3
  ·obtain rfl:i=0:=by simpa using hi
   exact .inl rfl
  ·obtain rfl:i=0:=by simpa using hi
   exact av _
 have key: ∃r,Loop (Hi CC 0 (L:Int)) (0,(n:Int),true,0,gV L g,sV [List.range n],iL [-1],iL [-1],sV [],[],mT [List.range n],wL [[]],iL [-1],nS [])=some r∧
   ∃P K,∃U:LV,∃W B s,r=((L:Int),false,(n:Int),true,0,gV L g,sV (cA (bn g) [List.range n] (List.range n) L),iL P,iL K,sV [],U,mT (cA (bn g) [List.range n] (List.range n) L),wL W,iL B,nS s)∧kg L n g (cA (bn g) [List.range n] (List.range n) L) P K [] W B s∧s.length=L∧U.length≤6:=by
  refine xy (fun x y=> ∃P K,∃U:LV,∃W B s,y=((x:Int),(n:Int),true,0,gV L g,sV (cA (bn g) [List.range n] (List.range n) x),iL P,iL K,sV [],U,mT (cA (bn g) [List.range n] (List.range n) x),wL W,iL B,nS s)∧kg L n g (cA (bn g) [List.range n] (List.range n) x) P K [] W B s∧s.length=x∧U.length≤x)
   (fun r=> ∃P K,∃U:LV,∃W B s,r=((L:Int),false,(n:Int),true,0,gV L g,sV (cA (bn g) [List.range n] (List.range n) L),iL P,iL K,sV [],U,mT (cA (bn g) [List.range n] (List.range n) L),wL W,iL B,nS s)∧kg L n g (cA (bn g) [List.range n] (List.range n) L) P K [] W B s∧s.length=L∧U.length≤6)
   L (fun x hx y hy=> ?_) (fun y hy=> ?_) L 0 _ (dt _) ⟨_,_,_,_,_,_,rfl,hI0,rfl,av _⟩
  ·obtain ⟨P,K,U,W,B,s,rfl,hI,hs,hU⟩:=hy;have pF:=hg x hx;have hf0:bn g (List.range n) x=g x:=adZ hg hx;have arH:cA (bn g) [List.range n] (List.range n) (x+1)=cZ (cA (bn g) [List.range n] (List.range n) x) (g x):=by rw[←hf0];rfl
   rw[arH];generalize hTx:cA (bn g) [List.range n] (List.range n) x=T at*
   have hlen:=hI.len;have eQ:=hI.pos;have w7:=T8 n8 hI.tr pF;have hX:CC xk [.list ab (tV (g x)).toList]=some [kT (g x)]:=by
    rw[oq];exact TZ n8 pF
   have tD:(Nat.ble (((V.nth [kT (g x)] 0).toStr).length) maxLen&&true)=true:=by
    refine kh.2 ⟨xH ?_,rfl⟩;rw[show (V.nth [kT (g x)] 0).toStr=nt (g x) from rfl,show (nt (g x)).length=n by simp[nt,pF.1]];unfold maxLen;omega
   have hsn: ∀y,nS s++[nV y]=nS (s++[y]):=fun y=>by simp[nS]
   simp only[Hi,Hh,un,aP];by_cases hk:g x∈T
   ·have zT:cZ T (g x)=T:=by rw[cZ,aE hk]
    have hm:gM (kT (g x)) (mT T)=true:=adN w7 hk;rw[zT];have va:=sC hk;refine .inl ⟨_,bT (bh hx) ((bX (nq hx)).trans (bT (He (by omega)) (bs hX (bT tD ?_)))),P,K,U++[.agg [.str [UInt8.ofNat ((wrap .i32 (wrap .i64 (97+(x:Int))):Int).toNat)],.str (W.getD (ic T (g x)) [])]],W,B,s++[ic T (g x)],rfl,⟨hI.tr,hI.nd,hI.len,hI.lP,hI.lK,hI.lW,hI.lB,hI.row,⟨by simp;omega,fun y hy=> ?_⟩,hI.b,hI.w,hI.p,hI.id⟩,by simp[hs],by simp;omega⟩
    ·refine (cg2 (f:=fun i b=>zU CC 0 (x:Int) _ _ i (L:Int) (x:Int) b (n:Int) true 0 (gV L g) (sV T) (iL P) (iL K) (sV []) U (mT T) (wL W) (iL B) (nS s) _) (adP w7 hk) hm).trans ?_;unfold zU;refine bT rfl ((bX (xz (by rw[hI.lW];exact va))).trans (bT (cap (by simp;omega) (by omega)) (bT (show Nat.ble (((nS s).length+1)*8) aW=true from cap (by rw[dy];omega) (by omega)) ?_)));rw[br (by omega),←hsn];rfl
    ·rcases eF.1 hy with hy|hy
     ·exact hI.s.2 y hy
     ·rw[fu.1 hy];exact va
   ·have zT:cZ T (g x)=T++[g x]:=by rw[cZ,aF hk]
    have hm:gM (kT (g x)) (mT T)=false:=adO w7 hk;rw[zT];have hT:T.length<2000:=by
     have:=adG (next:=bn g) [List.range n] (List.range n) x;rw[hTx] at this;simp at this;omega
    have ae:T.getD 0 []=List.range n:=by
     have:=hI.id;cases T with
     | nil=>cases this
     | cons a T=>exact dM this
    refine .inl ⟨_,bT (bh hx) ((bX (nq hx)).trans (bT (He (by omega)) (bs hX (bT tD ?_)))),P++[((0:Nat):Int)],K++[(x:Int)],U,W++[[UInt8.ofNat ((wrap .i32 (wrap .i64 (97+(x:Int))):Int).toNat)]],B++[0],s++[T.length],rfl,?_,by simp[hs],by omega⟩
    ·refine (congrArg (fun b=>zU CC 0 (x:Int) _ _ _ (L:Int) (x:Int) b (n:Int) true 0 (gV L g) (sV T) (iL P) (iL K) (sV []) U (mT T) (wL W) (iL B) (nS s) _) hm).trans ?_;unfold zU;rw[oq];refine bF rfl (bT (cap (a:=(nS (g x)).length) (b:=0) (by rw[dy,pF.1];omega) (by omega)) (bs (T9 (p:=0) (b:=0) (k:=(x:Int)) n8 hI.tr pF hk hlen (by rw[hI.lP];exact hlen) (by rw[hI.lK];exact hlen) (by rw[hI.lW];exact hlen) (by rw[hI.lB];exact hlen)) (bT (show Nat.ble (((nS s).length+1)*8) aW=true from cap (by rw[dy];omega) (by omega)) ?_)));rw[br (by omega),←hsn];rfl
    ·have h2:=hI.grow pF hk hT (p:=0) (x:=x) (w:=[UInt8.ofNat ((wrap .i32 (wrap .i64 (97+(x:Int))):Int).toNat)]) (b:=0) eQ hx (show 1≤_ from eQ) (.inr ⟨Int.le_refl _,by exact_mod_cast eQ⟩) (by rw[ae];exact hf0.symm);refine ⟨h2.tr,h2.nd,h2.len,h2.lP,h2.lK,h2.lW,h2.lB,h2.row,⟨by simp;omega,fun y hy=> ?_⟩,h2.b,h2.w,h2.p,h2.id⟩;rcases eF.1 hy with hy|hy
     ·exact h2.s.2 y hy
     ·rw[fu.1 hy];simp
  ·obtain ⟨P,K,U,W,B,s,rfl,hI,hs,hU⟩:=hy;refine ⟨_,?_,P,K,U,W,B,s,rfl,hI,hs,by omega⟩;simp only[Hi,Hh,un];refine bF (aV (av _)) ?_;rw[aV (av _)]
 obtain ⟨r,e1,P,K,U,W,B,s,rfl,hI,hs,hU⟩:=key;refine ⟨P,K,U,W,B,s,ary ?_,hI,hs,hU⟩;unfold adV;rw[hG];refine bF (by simp;omega) (bF (da (by omega)) (bs (nq (by omega)) ?_));rw[oq,dy,(hg 0 (by omega)).1];refine bs l1 ?_;show Hg CC (-1) true (n:Int) true 0 (gV L g) [] [] [] [] [] [] [] [] [] _=_;unfold Hg;refine bT rfl (bs (aqM hn n8) (bs (T9 (S:=[]) (P:=[]) (K:=[]) (R:=[]) (U:=[]) (W:=[]) (B:=[]) (s:=[]) (D:=0) (G:=gV L g) n8 (fun f hf=>by cases hf) G3 (by simp) (by simp) (by simp) (by simp) (by simp) (by simp)) ?_));show (Loop (Hi CC 0 ((gV L g).length:Int)) _).bind _=_;rw[hG];exact bs e1 rfl
structure lr (L n D:Nat) (g:Nat→List Nat) (S:List (List Nat)) (P K:List Int) (R:List (List Nat)) (W:List (List UInt8)) (B:List Int) (s:List Nat):Prop where
 I:kg L n g S P K R W B s
 sl:s.length=L
 dl:D≤S.length
 cl: ∀f∈S.take D,∀x,x<L→bn g f x∈S
 rr:R=(S.take D).map (fc L g S)
abbrev BdX:=Int×Bool×Int×LV×LV×LV×LV×LV×LV×LV×LV×LV×LV
abbrev BdR:=(Int×Int×Bool×Int×LV×LV×LV×LV×LV×LV) ⊕ (Bool×Int×Bool×Int×LV×LV×LV×LV×LV×LV×LV×LV×LV×LV)
def MW (n D L:Nat) (g:Nat→List Nat) (S:List (List Nat)) (P K:List Int) (R:List (List Nat)) (U:LV) (W:List (List UInt8)) (B:List Int) (s:List Nat):BdX:=
 ((n:Int),true,(D:Int),gV L g,sV S,iL P,iL K,sV R,U,mT S,wL W,iL B,nS s)
theorem WX: ∃r,CC Bt [.list ag (gV L g),.bool true]=some r∧((r=[.int .i64 0,.bool false,.int .i64 0,.int .i64 3,.list ag [],.list ag [],.list ab [],.list ab [],.list ag [],.list dY []]∧zS n)∨
  ∃S P K R W B s,∃U:LV,r=[.int .i64 (n:Int),.bool true,.int .i64 (S.length:Int),.int .i64 0,.list ag (gV L g),.list ag (sV S),.list ab (iL P),.list ab (iL K),.list ag (sV R),.list dY U]∧lr L n S.length g S P K R W B s):=by
 obtain ⟨P,K,U,W,B,s,e1,hI,hs,hU⟩:=arG hn n8 hg h1 hL;have key: ∃r,Loop (Uv CC 0 false 0 [] [] [] [] [] []) (MW n 0 L g (cA (bn g) [List.range n] (List.range n) L) P K [] U W B s)=some r∧((r= .inl (3,0,false,0,[],[],[],[],[],[])∧zS n)∨
   ∃S P K R W B s,∃U:LV,r= .inr (false,(n:Int),true,(S.length:Int),gV L g,sV S,iL P,iL K,sV R,U,mT S,wL W,iL B,nS s)∧lr L n S.length g S P K R W B s):=by
  refine Lf (fun x:BdX=> ∃D S P K R W B s,∃U:LV,x=MW n D L g S P K R U W B s∧lr L n D g S P K R W B s∧U.length≤6+D*6) (fun x=>3000-x.2.2.1.toNat)
   (fun r:BdR=>(r= .inl (3,0,false,0,[],[],[],[],[],[])∧zS n)∨∃S P K R W B s,∃U:LV,r= .inr (false,(n:Int),true,(S.length:Int),gV L g,sV S,iL P,iL K,sV R,U,mT S,wL W,iL B,nS s)∧lr L n S.length g S P K R W B s)
   (fun x hx=> ?_) _ ⟨0,_,P,K,[],W,B,s,U,rfl,⟨hI,hs,mO _,fun f hf=>(by cases hf),rfl⟩,hU⟩
  obtain ⟨D,S,P,K,R,W,B,s,U,rfl,hE,hU⟩:=hx;have hlen:=hE.I.len;have hD:=hE.dl;have hR:R.length=D:=by rw[hE.rr];simp[hD]
  unfold MW;simp only[Uv,MV,un];by_cases hf:D=S.length
  ·subst hf;refine .inr ⟨_,bs Ub (bF (by simp) rfl),.inr ⟨S,P,K,R,W,B,s,U,?_,hE⟩⟩;simp
  ·have Dg:D<S.length:=by omega
   obtain ⟨r,e2,h2⟩:=arF hE.I hE.sl hR hn n8 hg hL (bU Dg) hU;rcases h2 with ⟨l,rfl,hm⟩|⟨P',K',U',W',B',rfl,gI,hU'⟩
   ·exact .inr ⟨_,bs Ub (bT (by simp[hf];omega) (bs e2 (bT rfl rfl))),.inl ⟨rfl,hm⟩⟩
   ·have qS:=My (next:=bn g) S S[D] L;have htk:(cA (bn g) S S[D] L).take (D+1)=S.take D++[S[D]]:=by
     obtain ⟨Z,e⟩:=qS;rw[←e,List.take_append_of_le_length Dg,N6 Dg]
    have yJ: ∀x,x<L→bn g S[D] x∈cA (bn g) S S[D] L:=fun x hx=>ac7 hx;refine .inl ⟨MW n (D+1) L g (cA (bn g) S S[D] L) P' K' (R++[fc L g (cA (bn g) S S[D] L) S[D]]) U' W' B' s,bs Ub (bT (by simp;omega) (bs e2 (bF rfl rfl))),⟨D+1,_,P',K',_,W',B',s,U',rfl,⟨⟨gI.tr,gI.nd,gI.len,gI.lP,gI.lK,gI.lW,gI.lB,fun r hr=> ?_,gI.s,gI.b,gI.w,gI.p,gI.id⟩,hE.sl,oc Dg qS.length_le,fun f hf x hx=> ?_,?_⟩,hU'⟩,?_⟩
    ·rcases eF.1 hr with hr|hr
     ·exact gI.row r hr
     ·rw[fu.1 hr];refine ⟨by simp[fc],fun y hy=> ?_⟩;obtain ⟨x,hx,rfl⟩:=iQ.1 hy;exact sC (yJ x (iD.1 hx))
    ·rw[htk] at hf;rcases eF.1 hf with hf|hf
     ·exact qS.subset (hE.cl f hf x hx)
     ·rw[fu.1 hf];exact yJ x hx
    ·rw[htk,uh,hE.rr];refine congrArg (· ++[_]) (pK fun f hf=>pK fun x hx=> ?_);exact (adM qS (hE.cl f hf x (iD.1 hx))).symm
    ·show 3000-(((D+1:Nat):Int)).toNat<3000-((D:Int)).toNat
     omega
 obtain ⟨r,e2,h2⟩:=key;rcases h2 with ⟨rfl,hm⟩|⟨S,P,K,R,W,B,s,U,rfl,hE⟩
 ·refine ⟨_,adY ?_,.inl ⟨rfl,hm⟩⟩;unfold Uw;exact bs e1 (bF rfl (bs e2 rfl))
 ·refine ⟨_,adY ?_,.inr ⟨S,P,K,R,W,B,s,U,rfl,hE⟩⟩;unfold Uw;exact bs e1 (bF rfl (bs e2 rfl))
end
end Go.AM
set_option maxRecDepth 100000
namespace Go.AM
open Go.IntKind (wrap)
section
variable {β:Type} [DecidableEq β]
def b8 (g:Nat→β):Nat→List β
 | 0=>[]
 | n+1=>cZ (b8 g n) (g n)
theorem Uy (g:Nat→β): ∀n,(b8 g n).Nodup
 | 0=>List.nodup_nil
 | n+1=>TG (Uy g n)
theorem oF {g:Nat→β} {v:β}: ∀{n},v∈b8 g n↔∃q,q<n∧g q=v
 | 0=>⟨fun h=>(by cases h),fun ⟨q,h,_⟩=>(by omega)⟩
 | n+1=>by
  have ih:=oF (g:=g) (v:=v) (n:=n);rw[b8];unfold cZ;constructor
  ·intro h;split at h
   ·obtain ⟨q,h1,h2⟩:=ih.1 h;exact ⟨q,by omega,h2⟩
   ·rcases eF.1 h with h|h
    ·obtain ⟨q,h1,h2⟩:=ih.1 h;exact ⟨q,by omega,h2⟩
    ·exact ⟨n,by omega,(fu.1 h).symm⟩
  ·rintro ⟨q,h1,h2⟩;rcases js q n with c|c
   ·exact (zJ (b8 g n) (g n)).subset (ih.2 ⟨q,c,h2⟩)
   ·obtain rfl:q=n:=by omega
    rw[←h2];exact CX
theorem arI {g:Nat→β} {m n:Nat} (h:m≤n):b8 g m <+: b8 g n:=by
 induction n with
 | zero=>rw[vY.1 h];exact rA _
 | succ n ih=>
  rcases js m (n+1) with c|c
  ·exact (ih (by omega)).trans (zJ _ _)
  ·rw[show m=n+1 by omega];exact rA _
theorem Hj (g:Nat→β): ∀n,(b8 g n).length≤n
 | 0=>av _
 | n+1=>by
  have:=Hj g n;rw[b8,CY];split<;>omega
def gm (g:Nat→β) (n q:Nat):Nat:=(b8 g n).idxOf (g q)
theorem Uz {g:Nat→β} {n q:Nat} (h:q<n):gm g n q<(b8 g n).length:=v8 (oF.2 ⟨q,h,rfl⟩)
theorem ad0 {g:Nat→β} {n p q:Nat} (hp:p<n) (hq:q<n):gm g n p=gm g n q↔g p=g q:=by
 constructor
 ·intro h;have h1:=II (Uz (g:=g) hp);have h2:=II (Uz (g:=g) hq);rw[←h1,←h2];exact getElem_congr_idx h
 ·intro h;unfold gm;rw[h]
theorem UA {g:Nat→β} {m n q:Nat} (h:q<m) (hm:m≤n):gm g n q=gm g m q:=C4 (arI hm) (oF.2 ⟨q,h,rfl⟩)
theorem ad1 {g:Nat→β} {q:Nat} (h:g q∈b8 g q):b8 g (q+1)=b8 g q:=by rw[b8];unfold cZ;rw[aE h]
theorem ad2 {g:Nat→β} {q:Nat} (h:g q∉b8 g q):b8 g (q+1)=b8 g q++[g q]:=by rw[b8];unfold cZ;rw[aF h]
theorem arJ {g:Nat→β} {n q:Nat} (hq:q<n) (h:g q∈b8 g q):gm g n q=(b8 g q).idxOf (g q):=by
 rw[UA (show q<q+1 by omega) (by omega)];unfold gm;rw[ad1 h]
theorem arK {g:Nat→β} {n q:Nat} (hq:q<n) (h:g q∉b8 g q):gm g n q=(b8 g q).length:=by
 rw[UA (show q<q+1 by omega) (by omega)];unfold gm;rw[ad2 h,AP,aF h];simp
def zV (p:Nat→Nat) (n:Nat):Prop:= ∀m,m≤n→b8 p m=List.range (b8 p m).length
theorem ad3 (g:Nat→β) (n:Nat): ∀m,m≤n→b8 (gm g n) m=List.range (b8 g m).length:=by
 intro m
 induction m with
 | zero=>intro _;rfl
 | succ m ih=>
  intro hm;have ih:=ih (by omega);have e1:gm g n m=gm g (m+1) m:=UA (by omega) hm;have e2:gm g (m+1) m=if g m∈b8 g m then (b8 g m).idxOf (g m) else (b8 g m).length:=by
   unfold gm;rw[b8];unfold cZ;split
   ·rfl
   ·rename_i h;rw[AP,aF h];simp
  rw[b8,ih,b8,CY];unfold cZ;by_cases h:g m∈b8 g m
  ·have:=v8 h;rw[aE h] at e2;rw[aE h,aE (by rw[e1,e2];exact iD.2 this)]
  ·rw[aF h] at e2;rw[aF h,aF (by rw[e1,e2];simp),e1,e2,List.range_succ]
theorem arL (g:Nat→β) (n:Nat):zV (gm g n) n:=fun m hm=>by
 rw[ad3 g n m hm,jN]
theorem ad4 {γ:Type} [DecidableEq γ] {f:Nat→β} {c:Nat→γ} {n:Nat} (hr: ∀q q',q<n→q'<n→f q=f q'→c q=c q') (hl:(b8 f n).length≤(b8 c n).length):
  ∀q q',q<n→q'<n→c q=c q'→f q=f q':=by
 intro q q' hq dz hc;refine Decidable.byContradiction fun hf=> ?_;have rep: ∀v∈b8 f n,∃q,q<n∧f q=v:=fun v hv=>oF.1 hv;have: ∃R:β→Nat,∀v∈b8 f n,R v<n∧f (R v)=v:=by
  classical
  refine ⟨fun v=>if h:v∈b8 f n then Classical.choose (rep v h) else 0,fun v hv=> ?_⟩;simp only[hv,vU];exact Classical.choose_spec (rep v hv)
 obtain ⟨R,hR⟩:=this;have lA:b8 c n ⊆ ((b8 f n).filter fun v=>decide (v≠f q')).map fun v=>c (R v):=by
  intro u hu;obtain ⟨s,hs,rfl⟩:=oF.1 hu;by_cases h:f s=f q'
  ·refine iQ.2 ⟨f q,List.mem_filter.2 ⟨oF.2 ⟨q,hq,rfl⟩,cp hf⟩,?_⟩;have h1:=hR (f q) (oF.2 ⟨q,hq,rfl⟩);rw[hr _ _ h1.1 hq h1.2,hc,hr _ _ hs dz h]
  ·refine iQ.2 ⟨f s,List.mem_filter.2 ⟨oF.2 ⟨s,hs,rfl⟩,cp h⟩,?_⟩;have h1:=hR (f s) (oF.2 ⟨s,hs,rfl⟩);exact hr _ _ h1.1 hs h1.2
 have h1:=AK (Uy c n) lA;rw[db] at h1;have h2:((b8 f n).filter fun v=>decide (v≠f q')).length<(b8 f n).length:=by
  have hm:f q'∈b8 f n:=oF.2 ⟨q',dz,rfl⟩;have aY:=List.length_filter_lt_length_iff_exists (p:=fun v=>decide (v≠f q')) (l:=b8 f n);exact aY.2 ⟨f q',hm,by simp⟩
 omega
theorem arM {γ:Type} [DecidableEq γ] {f:Nat→β} {c:Nat→γ} {n:Nat} (hr: ∀q q',q<n→q'<n→f q=f q'→c q=c q'):(b8 c n).length≤(b8 f n).length:=by
 rcases js (b8 f n).length (b8 c n).length with h|h
 ·have:=ad4 hr (by omega);have rep: ∀v∈b8 f n,∃q,q<n∧f q=v:=fun v hv=>oF.1 hv;have: ∃R:β→Nat,∀v∈b8 f n,R v<n∧f (R v)=v:=by
   classical
   refine ⟨fun v=>if h:v∈b8 f n then Classical.choose (rep v h) else 0,fun v hv=> ?_⟩;simp only[hv,vU];exact Classical.choose_spec (rep v hv)
  obtain ⟨R,hR⟩:=this;have lA:b8 c n ⊆ (b8 f n).map fun v=>c (R v):=by
   intro u hu;obtain ⟨s,hs,rfl⟩:=oF.1 hu;have h1:=hR (f s) (oF.2 ⟨s,hs,rfl⟩);exact iQ.2 ⟨f s,oF.2 ⟨s,hs,rfl⟩,hr _ _ h1.1 hs h1.2⟩
  have h1:=AK (Uy c n) lA;rw[db] at h1;omega
 ·exact h
end
namespace Da
structure Part (a:Da) (c:Nat→Nat):Prop where
 coarse: ∀q q',q<a.n→q'<a.n→a.rf q a q'→c q=c q'
 fin: ∀q q',q<a.n→q'<a.n→c q=c q'→a.fin q=a.fin q'
def sig (a:Da) (c:Nat→Nat) (q:Nat):List Nat:=c q::(List.range a.L).map fun x=>c (a.nx q x)
theorem Hk {a:Da} {c:Nat→Nat} {q q':Nat}:a.sig c q=a.sig c q'↔c q=c q'∧∀x,x<a.L→c (a.nx q x)=c (a.nx q' x):=by
 unfold sig;rw[xK];refine and_congr Iff.rfl ⟨fun h x hx=> ?_,fun h=>pK fun x hx=>h x (iD.1 hx)⟩;have:=congrArg (fun l=>l.getD x 0) h;simpa[hx] using this
def UB (a:Da) (c f:Nat→Nat):Prop:= ∀q q',q<a.n→q'<a.n→(f q=f q'↔a.sig c q=a.sig c q')
theorem UB.part {a:Da} {c f:Nat→Nat} (h:a.UB c f) (ha:a.Ok) (hc:a.Part c):a.Part f where
 coarse q q' hq dz he:=(h q q' hq dz).2 (Hk.2 ⟨hc.coarse q q' hq dz he,fun x hx=>hc.coarse _ _ (ha.mg hq hx) (ha.mg dz hx) (he.nx hx)⟩)
 fin q q' hq dz he:=hc.fin q q' hq dz (Hk.1 ((h q q' hq dz).1 he)).1
def MX (a:Da) (p:Nat→Nat):Prop:=(∀q q',q<a.n→q'<a.n→(p q=p q'↔a.rf q a q'))∧zV p a.n
theorem Part.arN {a:Da} {c:Nat→Nat} (hc:a.Part c) (ha:a.Ok) (hs: ∀q q',q<a.n→q'<a.n→c q=c q'→a.sig c q=a.sig c q'): ∀q q',q<a.n→q'<a.n→(c q=c q'↔a.rf q a q'):=by
 intro q q' hq dz;refine ⟨fun h w=> ?_,hc.coarse q q' hq dz⟩
 induction w generalizing q q' with
 | nil=>intro _;rw[tR,tR];exact hc.fin q q' hq dz h
 | cons x w ih=>
  intro hw;rw[Mx,Mx];exact ih _ _ (ha.mg hq hw.head) (ha.mg dz hw.head) ((Hk.1 (hs q q' hq dz h)).2 x hw.head) hw.tail
def gS (p:Nat→Nat):Nat→List Nat
 | 0=>[]
 | n+1=>if p n∈b8 p n then gS p n else gS p n++[n]
theorem MY {p:Nat→Nat}: ∀n,(gS p n).map p=b8 p n
 | 0=>rfl
 | n+1=>by
  rw[gS,b8];unfold cZ;split
  ·exact MY n
  ·rw[uh,MY n];rfl
theorem Hl {p:Nat→Nat} {n:Nat}:(gS p n).length=(b8 p n).length:=by rw[←MY,db]
theorem zW {p:Nat→Nat}: ∀{n q},q∈gS p n→q<n
 | 0,q,h=>by cases h
 | n+1,q,h=>by
  rw[gS] at h;split at h
  ·have:=zW h;omega
  ·rcases eF.1 h with h|h
   ·have:=zW h;omega
   ·rw[fu.1 h];omega
theorem Dh {p:Nat→Nat} {n:Nat} (ho:zV p n) {c:Nat} (hc:c<(gS p n).length):p (gS p n)[c]=c:=by
 have h1:=ho n (av _);have h2:((gS p n).map p)[c]? =some c:=by rw[MY,h1,IH (by rw[Hl] at hc;exact hc)]
 rw[kZ,bU hc] at h2;exact dM h2
theorem Hm {p:Nat→Nat} {n q:Nat} (ho:zV p n) (hq:q<n):p q<(gS p n).length:=by
 have h1:p q∈b8 p n:=oF.2 ⟨q,hq,rfl⟩;rw[ho n (av _),iD] at h1;rw[Hl];exact h1
def quo (a:Da) (p:Nat→Nat):Da where
 L:=a.L
 st:=p a.st
 F:=(gS p a.n).map a.fin
 N:=(gS p a.n).map fun q=>tab a.L fun x=>p (a.nx q x)
theorem xD {a:Da} {p:Nat→Nat}:(a.quo p).n=(gS p a.n).length:=by simp[quo,n]
theorem ad5 {a:Da} {p:Nat→Nat} {c:Nat} (hc:c<(gS p a.n).length):(a.quo p).fin c=a.fin (gS p a.n)[c]:=by
 show ((gS p a.n).map a.fin).getD c false=_;rw[cN (by simpa using hc),DK]
theorem ad6 {a:Da} {p:Nat→Nat} {c x:Nat} (hc:c<(gS p a.n).length) (hx:x<a.L):(a.quo p).nx c x=p (a.nx (gS p a.n)[c] x):=by
 show (((gS p a.n).map fun q=>tab a.L fun x=>p (a.nx q x)).getD c []).getD x 0=_;rw[cN (l:=(gS p a.n).map fun q=>tab a.L fun x=>p (a.nx q x)) (by simpa using hc),DK,wM hx]
section
variable {a:Da} {p:Nat→Nat} (ha:a.Ok) (hp:a.MX p)
include ha hp
theorem ad7:(a.quo p).Ok where
 l1:=ha.l1
 l6:=ha.l6
 nN:=by rw[xD];simp[quo]
 row r hr:=by
  rw[xD];obtain ⟨q,hq,rfl⟩:=iQ.1 (show r∈(gS p a.n).map _ from hr);refine ⟨by simp[quo],fun s hs=> ?_⟩;obtain ⟨x,hx,rfl⟩:=JJ.1 hs;exact Hm hp.2 (ha.mg (zW hq) hx)
 s:=by rw[xD];exact Hm hp.2 ha.s
 dP:=by
  rw[xD,Hl];have:=Hj p a.n;have:=ha.dP;omega
theorem MZ: ∀(w:List Nat) {q:Nat},q<a.n→WL a.L w→(a.quo p).acc (p q) w=a.acc q w
 | [],q,hq,_=>by
  have hc:=Hm hp.2 hq;rw[tR,tR,ad5 hc];have h1:=(hp.1 _ _ (zW (dm hc)) hq).1 (Dh hp.2 hc);have:=h1 [] WL.nil;rwa [tR,tR] at this
 | x::w,q,hq,hw=>by
  have hc:=Hm hp.2 hq;have hr:=zW (dm hc);have h1:=(hp.1 _ _ hr hq).1 (Dh hp.2 hc);have h2:=(hp.1 _ _ (ha.mg hr hw.head) (ha.mg hq hw.head)).2 (h1.nx hw.head);rw[Mx,Mx,ad6 hc hw.head,h2];exact MZ w (ha.mg hq hw.head) hw.tail
theorem arO: ∀c d,c<(a.quo p).n→d<(a.quo p).n→(a.quo p).rf c (a.quo p) d→c=d:=by
 intro c d hc hd he;rw[xD] at hc hd;have r1:=zW (dm hc);have r2:=zW (dm hd);rw[←Dh hp.2 hc,←Dh hp.2 hd];refine (hp.1 _ _ r1 r2).2 fun w hw=> ?_;rw[←MZ ha hp w r1 hw,←MZ ha hp w r2 hw,Dh hp.2 hc,Dh hp.2 hd];exact he w hw
theorem arP:(a.quo p).trim.Canon a.L (a.acc a.st):=by
 have h:=(ad7 ha hp).apP (arO ha hp);exact ⟨h.ok,h.hL,h.st,h.num,h.red,fun w hw=>(h.CW w hw).trans (MZ ha hp w ha.s hw)⟩
end
end Da
end Go.AM
set_option maxRecDepth 100000
namespace Go.AM
open Go.IntKind (wrap)
open Go.Proofs
noncomputable def Hn (C:af) (t24:LV) (t25 bz bL:Int) (gG gb:LV) (count t26:Int) (dO:LV) {β:Type} (kn:(Int×Int×LV)→Option β) (kr:(Int×Int×Bool×LV)→Option β):Option β:=
 bif decide (t26<t25) then
  (idx t24 t26).bind fun x2=>
  (gG[0]?).bind fun x3=>
  bif !(x2.toBool==x3.toBool) then
  aP dO t26 fun x4=>
  kn (2,wrap .i64 (t26+1),bj dO t26 (V.int .i64 1))
  else
  kn (count,wrap .i64 (t26+1),dO)
 else
  kr (count,t26,decide (t26<t25),dO)
noncomputable def M1 (C:af) (t24:LV) (t25 bz bL:Int) (gG gb:LV):=un fun count=>un fun t26 dO=>Hn C t24 t25 bz bL gG gb count t26 dO (fun y=>some (Sum.inl y)) (fun r=>some (Sum.inr r))
noncomputable def Ho (C:af) (count q:Int) (t46:LV) (t47 t48:Int) (t58:LV) (t59 bz bL:Int) (gG gb dO numbers sE:LV) (t60 M3 M4 M5 M6 M7 M8 M9:Int) {β:Type} (kn:(Int×Int×Int×Int×Int×Int×Int×Int)→Option β) (kr:(Int×Bool×Int×Int×Int×Int×Int×Int×Int)→Option β):Option β:=
 bif decide (t60<t59) then
  (idx t58 t60).bind fun pH=>
  bif (decide (0≤pH.toInt))&&(decide (pH.toInt<(dO.length:Int))) then
  (dO[(pH.toInt:Int).toNat]?).bind fun kR=>
  bif (decide (0≤(wrap .i64 (1+t60))))&&(decide ((wrap .i64 (1+t60))<7)) then
   bif Nat.blt (0+(((wrap .i64 (1+t60):Int).toNat)*1)) 7 then
   kn (wrap .i64 (t60+1),bif Nat.beq (0+(((wrap .i64 (1+t60):Int).toNat)*1)) 0 then kR.toInt else M3,bif Nat.beq (0+(((wrap .i64 (1+t60):Int).toNat)*1)) 1 then kR.toInt else M4,bif Nat.beq (0+(((wrap .i64 (1+t60):Int).toNat)*1)) 2 then kR.toInt else M5,bif Nat.beq (0+(((wrap .i64 (1+t60):Int).toNat)*1)) 3 then kR.toInt else M6,bif Nat.beq (0+(((wrap .i64 (1+t60):Int).toNat)*1)) 4 then kR.toInt else M7,bif Nat.beq (0+(((wrap .i64 (1+t60):Int).toNat)*1)) 5 then kR.toInt else M8,bif Nat.beq (0+(((wrap .i64 (1+t60):Int).toNat)*1)) 6 then kR.toInt else M9)
   else none
  else none
  else none
 else
  kr (t60,decide (t60<t59),M3,M4,M5,M6,M7,M8,M9)
noncomputable def Na (C:af) (count q:Int) (t46:LV) (t47 t48:Int) (t58:LV) (t59 bz bL:Int) (gG gb dO numbers sE:LV):=un fun t60=>un fun M3=>un fun M4=>un fun M5=>un fun M6=>un fun M7=>un fun M8 M9=>Ho C count q t46 t47 t48 t58 t59 bz bL gG gb dO numbers sE t60 M3 M4 M5 M6 M7 M8 M9 (fun y=>some (Sum.inl y)) (fun r=>some (Sum.inr r))
noncomputable def Hp (C:af) (count:Int) (t46:LV) (t47 bz bL:Int) (gG gb dO:LV) (t48:Int) (numbers sE:LV) {β:Type} (kn:(Int×LV×LV)→Option β) (kr:(Int×Bool×LV×LV)→Option β):Option β:=
 bif decide (t48<t47) then
  (idx t46 t48).bind fun x9=>
  aP dO t48 fun nU=>
  (Loop (Na C count t48 t46 t47 t48 x9.toList (x9.toList.length:Int) bz bL gG gb dO numbers sE) (0,nU.toInt,0,0,0,0,0,0)).bind (un fun BC=>un fun (uS:Bool)=>un fun Hq=>un fun Hr=>un fun Hs=>un fun Ht=>un fun Hu=>un fun (Hv:Int) (Hw:Int)=>
   bif (gE .i64 Hq&&(gE .i64 Hr&&(gE .i64 Hs&&(gE .i64 Ht&&(gE .i64 Hu&&(gE .i64 Hv&&(gE .i64 Hw&&true)))))))&&true then
   bif !(gM (.agg [V.int .i64 Hq,V.int .i64 Hr,V.int .i64 Hs,V.int .i64 Ht,V.int .i64 Hu,V.int .i64 Hv,V.int .i64 Hw]) numbers) then
    bif (gE .i64 Hq&&(gE .i64 Hr&&(gE .i64 Hs&&(gE .i64 Ht&&(gE .i64 Hu&&(gE .i64 Hv&&(gE .i64 Hw&&true)))))))&&true then
    aP sE t48 fun Nb=>
    kn (wrap .i64 (t48+1),jv (.agg [V.int .i64 Hq,V.int .i64 Hr,V.int .i64 Hs,V.int .i64 Ht,V.int .i64 Hu,V.int .i64 Hv,V.int .i64 Hw]) (V.int .i64 (numbers.length:Int)) numbers,bj sE t48 (V.int .i64 (numbers.length:Int)))
    else none
   else
    aP sE t48 fun x23=>
    kn (wrap .i64 (t48+1),numbers,bj sE t48 (V.int .i64 ((ki (.agg [V.int .i64 Hq,V.int .i64 Hr,V.int .i64 Hs,V.int .i64 Ht,V.int .i64 Hu,V.int .i64 Hv,V.int .i64 Hw]) numbers (V.int .i64 0)).toInt)))
   else none)
 else
  kr (t48,decide (t48<t47),numbers,sE)
noncomputable def Nc (C:af) (count:Int) (t46:LV) (t47 bz bL:Int) (gG gb dO:LV):=un fun t48=>un fun numbers sE=>Hp C count t46 t47 bz bL gG gb dO t48 numbers sE (fun y=>some (Sum.inl y)) (fun r=>some (Sum.inr r))
noncomputable def Hy (C:af) (bz bL:Int) (gG gb:LV) (count:Int) (dO:LV) {β:Type} (kn:(Int×LV)→Option β) (kr:LV→Option β):Option β:=
 bif (decide (0≤(dO.length:Int)))&&((decide ((dO.length:Int)≤(dO.length:Int)))&&(Nat.ble (((dO.length:Int).toNat)*8) aW)) then
  (Loop (Nc C count gb (gb.length:Int) bz bL gG gb dO) (0,([]:LV),List.replicate ((dO.length:Int).toNat) (V.int .i64 0))).bind (un fun axQ=>un fun (axR:Bool)=>un fun (ad8:LV) (ad9:LV)=>
   bif (ad8.length:Int)==count then
   kr ad9
   else
   kn ((ad8.length:Int),ad9))
 else none
noncomputable def Hz (C:af) (bz bL:Int) (gG gb:LV):=un fun count dO=>Hy C bz bL gG gb count dO (fun y=>some (Sum.inl y)) (fun r=>some (Sum.inr r))
noncomputable def Nf (C:af):cF:=bN 81 Ss [H1,EQ,EQ,H1,EQ,EQ,EQ,EQ,H1] [[0,2,3,0,0,5,6,7,8,0]] (@Hn C) (bN 273 Su [EQ,EQ,EQ,EQ,EQ,EQ,EQ,H1,EQ,EQ,EQ,EQ,EQ,EQ,EQ,H1,H1,H1,H1,H1,H1,H1] [[1,2,3,4,5,6,7,0,0,9,10,11,12,13,14,15,0,0,0,0,0,0,0]] (@Ho C) (bN 209 Sv [EQ,EQ,EQ,H1,EQ,EQ,EQ,EQ,EQ,H1,H1] [[1,2,3,0,0,5,6,7,8,9,0,0]] (@Hp C) (bN 161 Sw [H1,EQ,EQ,EQ,EQ,H1] [[0]] (@Hy C) bO)))
theorem arQ (C:af):bB C (Nf C) 59 (Lp [1,1,1,0,1,0,0] 59):=bP Ss [H1,EQ,EQ,H1,EQ,EQ,EQ,EQ,H1] [[0,2,3,0,0,5,6,7,8,0]] (@Hn C) (bu aw)
theorem arR (C:af):bB C (Nf C) 59 (Lp [1,1,1,1,0,0,0,1,1,0,1,0,0,1,1,0,0,1,1,0,1,0,0] 59):=bP Su [EQ,EQ,EQ,EQ,EQ,EQ,EQ,H1,EQ,EQ,EQ,EQ,EQ,EQ,EQ,H1,H1,H1,H1,H1,H1,H1] [[1,2,3,4,5,6,7,0,0,9,10,11,12,13,14,15,0,0,0,0,0,0,0]] (@Ho C) (bu aw)
theorem arS (C:af):bB C (Nf C) 59 (Lp [1,1,1,1,0,0,0,1,1,0,1,0,0] 59):=bP Sv [EQ,EQ,EQ,H1,EQ,EQ,EQ,EQ,EQ,H1,H1] [[1,2,3,0,0,5,6,7,8,9,0,0]] (@Hp C) (bu (bC (arR C) aw))
theorem arT (C:af):bB C (Nf C) 59 (Lp [1,1,1,1,0,0] 59):=bP Sw [H1,EQ,EQ,EQ,EQ,H1] [[0]] (@Hy C) (bu (bC (arS C) aw))
noncomputable def aea (C:af) (cU cX:Int) (cG c8:LV):Option LV:=
 (C s6 [V.int .i64 cU,V.int .i64 cX,.list ar cG,.list ag c8]).bind fun r1=>
 bif (((V.nth r1 0).toInt):Int) != 0 then
  some [.list ab ([]:LV)]
 else
  bif (decide (0≤(cG.length:Int)))&&((decide ((cG.length:Int)≤(cG.length:Int)))&&(Nat.ble (((cG.length:Int).toNat)*8) aW)) then
  (Loop (M1 C cG (cG.length:Int) cU cX cG c8) (1,0,List.replicate ((cG.length:Int).toNat) (V.int .i64 0))).bind (un fun arU=>un fun j7=>un fun (oo:Bool) (arV:LV)=>
   (Loop (Hz C cU cX cG c8) (arU,arV)).bind (fun (arW:LV)=>
    some [.list ab arW]))
  else none
theorem arX {cU cX:Int} {cG c8:LV} {r:Option LV} (h:aea CC cU cX cG c8=r):CC Lu [V.int .i64 cU,V.int .i64 cX,.list ar cG,.list ag c8]=r:=bQ (bC (arQ CC) (bC (arT CC) aw)) h
def eX (a:Da) (c:Nat→Nat) (q t j:Nat):Nat:=if j=0 then c q else if j≤t then c (a.nx q (j-1)) else 0
def eR (a:Da) (c:Nat→Nat) (q:Nat):List Nat:=tab 7 (eX a c q a.L)
def HA (s:List Nat):V:= .agg (s.map nV)
theorem aeb: ∀s t:List Nat,pO (s.map nV) (t.map nV)=decide (s=t)
 | [],[]=>rfl
 | [],b::t=>rfl
 | a::s,[]=>rfl
 | a::s,b::t=>by
  simp only[kY,pO];rw[aeb s t,xL];simp only[nV,wg];simp only[aI,beq_iff_eq,jM,xK];exact and_congr (by omega) Iff.rfl
theorem UC (s t:List Nat):ju (HA s) (HA t)=decide (s=t):=aeb s t
theorem UD {a:Da} (h:a.Ok) {c:Nat→Nat} {q q':Nat}:eR a c q=eR a c q'↔a.sig c q=a.sig c q':=by
 rw[Da.Hk];have h6:=h.l6;constructor
 ·intro e;have g:=fun j (hj:j<7)=>congrArg (fun l:List Nat=>l.getD j 0) e;unfold eR at g;refine ⟨?_,fun x hx=> ?_⟩
  ·have:=g 0 (by omega);rw[wM (by omega),wM (by omega)] at this;exact this
  ·have:=g (x+1) (by omega);rw[wM (by omega),wM (by omega)] at this;unfold eX at this;rwa [aF (by omega),aE (by omega),aF (by omega),aE (by omega)] at this
 ·rintro ⟨h1,h2⟩;refine dB fun j _=> ?_;unfold eX;by_cases hj:j=0
  ·rw[aE hj,aE hj,h1]
  ·rw[aF hj,aF hj];by_cases dN:j≤a.L
   ·rw[aE dN,aE dN,h2 (j-1) (by omega)]
   ·rw[aF dN,aF dN]
theorem zX {a:Da} {c:Nat→Nat} {q t:Nat} (j:Nat):(bif Nat.beq (0+(t+1)*1) j then ((c (a.nx q t):Nat):Int) else ((eX a c q t j:Nat):Int))=((eX a c q (t+1) j:Nat):Int):=by
 by_cases hj:t+1=j
 ·rw[show Nat.beq (0+(t+1)*1) j=true from by rw[aK];omega,cond_true,←hj];unfold eX;rw[dA,dv];rfl
 ·rw[show Nat.beq (0+(t+1)*1) j=false from by rw[←Bool.not_eq_true,aK];omega,cond_false];unfold eX;by_cases h0:j=0
  ·rw[aE h0,aE h0]
  ·rw[aF h0,aF h0];by_cases h1:j≤t
   ·rw[aE h1,dv]
   ·rw[aF h1,dA]
def cV (n:Nat) (c:Nat→Nat):List V:=tab n fun q=>nV (c q)
section
variable {a:Da} (h:a.Ok) {c:Nat→Nat}
include h
theorem arY {q:Nat} (hq:q<a.n) {k1 k2 k3 k4 k5 k6:Int} {l1 l2 l3 l4 l5:List V}:
  Loop (Na CC k1 k2 l1 k3 k4 (tab a.L fun x=>iV (a.nx q x)) ((tab a.L fun x=>iV (a.nx q x)).length:Int) k5 k6 l2 l3 (cV a.n c) l4 l5) (0,(c q:Int),0,0,0,0,0,0)=
   some ((a.L:Int),false,(eX a c q a.L 0:Int),(eX a c q a.L 1:Int),(eX a c q a.L 2:Int),(eX a c q a.L 3:Int),(eX a c q a.L 4:Int),(eX a c q a.L 5:Int),(eX a c q a.L 6:Int)):=by
 have h6:=h.l6;rw[fG];refine (gx a.L (fun t=>((t:Int),(eX a c q t 0:Int),(eX a c q t 1:Int),(eX a c q t 2:Int),(eX a c q t 3:Int),(eX a c q t 4:Int),(eX a c q t 5:Int),(eX a c q t 6:Int))) _ (fun t ht=> ?_) ?_)
 ·simp only[Na,Ho,un];refine bT (bh ht) ?_;refine bs (MD ht) ?_;refine (nr (i:=a.nx q t) (h.mg hq ht)).trans ?_;have w:wrap .i64 (1+(t:Int))=((t+1:Nat):Int):=by rw[rZ];omega
  rw[w,br (by omega),Int.toNat_natCast];refine bT (kh.2 ⟨cp (by omega),cp (by omega)⟩) ?_;refine bT (show Nat.ble (0+(t+1)*1+1) 7=true by rw[fV];omega) ?_;show some (Sum.inl _)=some (Sum.inl _);refine congrArg (fun x=>some (Sum.inl x)) ?_;exact cK rfl (cK (zX 0) (cK (zX 1) (cK (zX 2) (cK (zX 3) (cK (zX 4) (cK (zX 5) (zX 6)))))))
 ·simp only[Na,Ho,un];refine bF (aV (av _)) ?_;rw[aV (av _)]
theorem arZ (hc: ∀q,q<a.n→c q≤1000) {q:Nat} (hq:q<a.n) (j:Nat):eX a c q a.L j≤1000:=by
 unfold eX;split
 ·exact hc q hq
 ·split
  ·exact hc _ (h.mg hq (by omega))
  ·omega
theorem ar0 (hc: ∀q,q<a.n→c q≤1000) {k1 k2 k3:Int} {l2:List V}:
  Loop (Nc CC k1 a.eh (a.eh.length:Int) k2 k3 l2 a.eh (cV a.n c)) (0,([]:List V),List.replicate ((((cV a.n c).length:Int):Int).toNat) (V.int .i64 0))=
   some ((a.n:Int),false,fR HA 0 (b8 (eR a c) a.n),cV a.n (gm (eR a c) a.n)):=by
 have hm:=h.dP;have hl:(cV a.n c).length=a.n:=by simp[cV]
 rw[hl,Int.toNat_natCast,qo,Da.ap3];refine (gx a.n (fun i=>((i:Int),fR HA 0 (b8 (eR a c) i),(tab a.n fun q=>if q<i then nV (gm (eR a c) a.n q) else nV 0))) _ (fun q hq=> ?_) ?_)
 ·have hle:=Hj (eR a c) q;simp only[Nc,Hp,un,aP,bj];refine bT (bh hq) ?_;refine bs (Da.JL hq) ?_;refine (nr (i:=q) hq).trans ?_;simp only[EF];refine bs (arY h hq) ?_;have k0:=arZ h hc hq;have kk: ∀j,gE .i64 ((eX a c q a.L j:Nat):Int)=true:=fun j=>TP (by have:=k0 j;omega);have aec:((gE .i64 ((eX a c q a.L 0:Nat):Int)&&(gE .i64 ((eX a c q a.L 1:Nat):Int)&&(gE .i64 ((eX a c q a.L 2:Nat):Int)&&(gE .i64 ((eX a c q a.L 3:Nat):Int)&&(gE .i64 ((eX a c q a.L 4:Nat):Int)&&(gE .i64 ((eX a c q a.L 5:Nat):Int)&&(gE .i64 ((eX a c q a.L 6:Nat):Int)&&true)))))))&&true)=true:=by
   simp only[kk,Bool.and_self]
  refine bT aec ?_;have ek:V.agg [V.int .i64 (eX a c q a.L 0:Int),V.int .i64 (eX a c q a.L 1:Int),V.int .i64 (eX a c q a.L 2:Int),V.int .i64 (eX a c q a.L 3:Int),V.int .i64 (eX a c q a.L 4:Int),V.int .i64 (eX a c q a.L 5:Int),V.int .i64 (eX a c q a.L 6:Int)]=HA (eR a c q):=rfl;simp only[un,ek];have e1:=TM UC (eR a c q) (b8 (eR a c) q) 0;have fin: ∀v,v=nV (gm (eR a c) a.n q)→(tab a.n fun j=>if j<q then nV (gm (eR a c) a.n j) else nV 0).set q v=tab a.n fun j=>if j<q+1 then nV (gm (eR a c) a.n j) else nV 0:=by
   rintro v rfl;rw[mH];refine dB fun j _=> ?_;by_cases hj:j=q
   ·rw[aE hj,dv,hj]
   ·rw[aF hj];by_cases dN:j<q
    ·rw[aE dN,dv]
    ·rw[aF dN,dA]
  rw[br (by omega)];by_cases hx:eR a c q∈b8 (eR a c) q
  ·refine bF (by rw[e1];simpa using hx) ?_;refine (nr hq).trans ?_;have e2:=TN UC (eR a c q) (.int .i64 0) (b8 (eR a c) q) 0 hx;rw[dt,←arJ hq hx] at e2;rw[e2,V.toInt_int,Int.toNat_natCast,show (V.int .i64 (gm (eR a c) a.n q:Int))=nV (gm (eR a c) a.n q) from rfl,fin _ rfl,ad1 hx]
  ·refine bT (by rw[e1];simpa using hx) ?_;refine bT aec ?_;refine (nr hq).trans ?_;have e2:=TO UC (eR a c q) (b8 (eR a c) q) 0 hx;rw[dt] at e2;rw[GP,e2,Int.toNat_natCast,←arK hq hx,show (V.int .i64 (gm (eR a c) a.n q:Int))=nV (gm (eR a c) a.n q) from rfl,fin _ rfl,ad2 hx]
 ·simp only[Nc,Hp,un,aP,bj];refine bF (aV (av _)) ?_;rw[aV (av _)];have:(tab a.n fun q=>if q<a.n then nV (gm (eR a c) a.n q) else nV 0)=cV a.n (gm (eR a c) a.n):=dB fun q hq=>aE hq;rw[this]
def oG (a:Da):Nat→Nat
 | 0=>1
 | i+1=>if a.fin i=a.fin 0 then oG a i else 2
def iP (a:Da) (q:Nat):Nat:=if a.fin q=a.fin 0 then 0 else 1
theorem ar1:(b8 (iP a) a.n).length=oG a a.n:=by
 have key: ∀m,(b8 (iP a) (m+1)=[0]∧oG a (m+1)=1)∨(b8 (iP a) (m+1)=[0,1]∧oG a (m+1)=2):=by
  intro m
  induction m with
  | zero=>left;simp[b8,cZ,iP,oG]
  | succ m ih=>
   rw[b8,oG];unfold iP cZ;by_cases hf:a.fin (m+1)=a.fin 0
   ·rw[aE hf,aE hf];rcases ih with ⟨i1,i2⟩|⟨i1,i2⟩
    ·left;refine ⟨?_,i2⟩;unfold iP at i1;rw[i1];rfl
    ·right;refine ⟨?_,i2⟩;unfold iP at i1;rw[i1];rfl
   ·rw[aF hf,aF hf];rcases ih with ⟨i1,i2⟩|⟨i1,i2⟩
    ·right;refine ⟨?_,rfl⟩;unfold iP at i1;rw[i1];rfl
    ·right;refine ⟨?_,rfl⟩;unfold iP at i1;rw[i1];rfl
 have hs:=h.s;obtain ⟨m,hm⟩: ∃m,a.n=m+1:=⟨a.n-1,by omega⟩
 rw[hm];rcases key m with ⟨e1,e2⟩|⟨e1,e2⟩<;>rw[e1,e2]<;>rfl
theorem ar2 {k2 k3:Int} {l2:List V}:Loop (M1 CC a.dU (a.dU.length:Int) k2 k3 a.dU l2) (1,0,List.replicate ((((a.dU.length:Nat):Int)).toNat) (V.int .i64 0))=some ((oG a a.n:Int),(a.n:Int),false,cV a.n (iP a)):=by
 have hm:=h.dP;have hs:=h.s;rw[Da.EE,Int.toNat_natCast,qo];refine (gx a.n (fun i=>((oG a i:Int),(i:Int),(tab a.n fun q=>if q<i then nV (iP a q) else nV 0))) _ (fun q hq=> ?_) ?_)
 ·simp only[M1,Hn,un,aP,bj];refine bT (bh hq) ?_;refine bs (Da.JK hq) ?_;refine bs (a:= .bool (a.fin 0)) (by unfold Da.dU;exact nq (by omega)) ?_;rw[br (by omega)];have fin:(tab a.n fun j=>if j<q then nV (iP a j) else nV 0).set q (nV (iP a q))=tab a.n fun j=>if j<q+1 then nV (iP a j) else nV 0:=by
   rw[mH];refine dB fun j _=> ?_;by_cases hj:j=q
   ·rw[aE hj,dv,hj]
   ·rw[aF hj];by_cases dN:j<q
    ·rw[aE dN,dv]
    ·rw[aF dN,dA]
  simp only[V.O3];by_cases hf:a.fin q=a.fin 0
  ·refine bF (by rw[hf];simp) ?_;have e:oG a (q+1)=oG a q:=by rw[oG,aE hf]
   have e2:(tab a.n fun j=>if j<q then nV (iP a j) else nV 0)=tab a.n fun j=>if j<q+1 then nV (iP a j) else nV 0:=dB fun j _=>by
    by_cases hj:j=q
    ·rw[dA,dv,hj];unfold iP;rw[aE hf]
    ·by_cases dN:j<q
     ·rw[aE dN,dv]
     ·rw[aF dN,dA]
   rw[e,e2]
  ·refine bT (by simpa using hf) ?_;refine (nr hq).trans ?_;have e:oG a (q+1)=2:=by rw[oG,aF hf]
   have e3:iP a q=1:=by unfold iP;rw[aF hf]
   rw[e3] at fin;rw[e,Int.toNat_natCast,show (V.int .i64 1)=nV 1 from rfl,fin];rfl
 ·simp only[M1,Hn,un,aP,bj];refine bF (aV (av _)) ?_;rw[aV (av _)];have:(tab a.n fun q=>if q<a.n then nV (iP a q) else nV 0)=cV a.n (iP a):=dB fun q hq=>aE hq;rw[this]
theorem ar3 {k2 k3:Int} {l2:List V}: ∃p,Loop (Hz CC k2 k3 l2 a.eh) ((oG a a.n:Int),cV a.n (iP a))=some (cV a.n p)∧a.MX p∧∀q,q<a.n→p q≤1000:=by
 have hm:=h.dP;have:=Lf (step:=Hz CC k2 k3 l2 a.eh)
  (fun x=> ∃c,x=(((b8 c a.n).length:Int),cV a.n c)∧a.Part c∧∀q,q<a.n→c q≤1000)
  (fun x=>a.n-x.1.toNat)
  (fun r=> ∃p,r=cV a.n p∧a.MX p∧∀q,q<a.n→p q≤1000) (fun x hx=> ?_) ((oG a a.n:Int),cV a.n (iP a)) ⟨iP a,by rw[ar1 h],⟨?_,?_⟩,?_⟩
 ·obtain ⟨r,h1,p,rfl,h2,h3⟩:=this;exact ⟨p,h1,h2,h3⟩
 ·obtain ⟨c,rfl,hp,hc⟩:=hx;have hl:(cV a.n c).length=a.n:=by simp[cV]
  have ar4:a.UB c (gm (eR a c) a.n):=fun q q' hq dz=>(ad0 hq dz).trans (UD h)
  have hle:=Hj (eR a c) a.n;have hb: ∀q,q<a.n→gm (eR a c) a.n q≤1000:=fun q hq=>by have:=Uz (g:=eR a c) hq;omega
  have UE: ∀q q',q<a.n→q'<a.n→eR a c q=eR a c q'→c q=c q':=fun q q' hq dz e=>(Da.Hk.1 ((UD h).1 e)).1;have axS:=arM UE;have cr:=ar0 h hc (k1:=((b8 c a.n).length:Int)) (k2:=k2) (k3:=k3) (l2:=l2);by_cases he:(b8 (eR a c) a.n).length=(b8 c a.n).length
  ·right;refine ⟨_,?_,gm (eR a c) a.n,rfl,⟨fun q q' hq dz=> ?_,arL _ _⟩,hb⟩
   ·simp only[Hz,Hy,un];refine bT (by rw[hl];exact fO (by omega) (by omega)) ?_;refine bs cr ?_;refine bT (by rw[GP];simp[he]) ?_;rfl
   ·have dp:=ad4 UE (by omega);rw[ad0 hq dz,←hp.arN h (fun s s' hs vc e=>(UD h).1 (dp s s' hs vc e)) q q' hq dz];exact ⟨UE q q' hq dz,dp q q' hq dz⟩
  ·left;have e2:(b8 (gm (eR a c) a.n) a.n).length=(b8 (eR a c) a.n).length:=by rw[ad3 _ _ _ (av _),jN]
   refine ⟨(((b8 (eR a c) a.n).length:Int),cV a.n (gm (eR a c) a.n)),?_,⟨gm (eR a c) a.n,by rw[e2],ar4.part h hp,hb⟩,?_⟩
   ·simp only[Hz,Hy,un];refine bT (by rw[hl];exact fO (by omega) (by omega)) ?_;refine bs cr ?_;refine bF (by rw[GP];simpa using fun e=>he (by omega)) ?_;rw[GP]
   ·simp only[Int.toNat_natCast];omega
 ·intro q q' hq dz he;have:=he [] WL.nil;rw[Da.tR,Da.tR] at this;unfold iP;rw[this]
 ·intro q q' hq dz he;unfold iP at he;split at he<;>split at he
  ·rename_i h1 h2;rw[h1,h2]
  ·omega
  ·omega
  ·rename_i h1 h2;revert h1 h2;cases a.fin q<;>cases a.fin q'<;>cases a.fin 0<;>simp
 ·intro q _;unfold iP;split<;>omega
theorem ar5: ∃p,CC Lu (dK a)=some [.list ab (cV a.n p)]∧a.MX p∧∀q,q<a.n→p q≤1000:=by
 have hm:=h.dP;obtain ⟨p,h1,h2,h3⟩:=ar3 h (k2:=(a.L:Int)) (k3:=(a.st:Int)) (l2:=a.dU);refine ⟨p,arX ?_,h2,h3⟩;unfold aea;refine bs (mC h) ?_;refine bF rfl ?_;refine bT (by rw[Da.EE];exact fO (by omega) (by omega)) ?_;refine bs (ar2 h) ?_;refine bs h1 ?_;rfl
end
noncomputable def HB (C:af) (q t29 t30:Int) (t47:LV) (t48 bz bL:Int) (gG gb:LV) (gf gg Di Dj:Int) (places dO:LV) (Dk Dl:Int) (aQ bw b7 cg gB jK:LV) (t49:Int) (rows:LV) {β:Type} (kn:(Int×LV)→Option β) (kr:(Int×Bool×LV)→Option β):Option β:=
 bif decide (t49<t48) then
  (idx t47 t49).bind fun x5=>
  bif (decide (0≤x5.toInt))&&(decide (x5.toInt<(dO.length:Int))) then
  (dO[(x5.toInt:Int).toNat]?).bind fun x6=>
  aP rows t49 fun x7=>
  kn (wrap .i64 (t49+1),bj rows t49 (V.int .i64 x6.toInt))
  else none
 else
  kr (t49,decide (t49<t48),rows)
noncomputable def Ng (C:af) (q t29 t30:Int) (t47:LV) (t48 bz bL:Int) (gG gb:LV) (gf gg Di Dj:Int) (places dO:LV) (Dk Dl:Int) (aQ bw b7 cg gB jK:LV):=un fun t49 rows=>HB C q t29 t30 t47 t48 bz bL gG gb gf gg Di Dj places dO Dk Dl aQ bw b7 cg gB jK t49 rows (fun y=>some (Sum.inl y)) (fun r=>some (Sum.inr r))
noncomputable def HC (C:af) (t29 bz bL:Int) (gG gb:LV) (gf gg Di Dj:Int) (places dO:LV) (Dk Dl:Int) (aA aQ bw b7:LV) (t30:Int) (cg gB:LV) {β:Type} (kn:(Int×LV×LV)→Option β) (kr:(Int×Bool×LV×LV)→Option β):Option β:=
 bif decide (t30<t29) then
  aP dO t30 fun x3=>
  bif decide ((x3.toInt:Int)<(cg.length:Int)) then
  kn (wrap .i64 (t30+1),cg,gB)
  else
  bif (decide (0≤bz))&&((decide (bz≤bz))&&(Nat.ble ((bz.toNat)*8) aW)) then
   aP b7 t30 fun x4=>
   (Loop (Ng C t30 t29 t30 x4.toList (x4.toList.length:Int) bz bL gG gb gf gg Di Dj places dO Dk Dl aA aQ bw b7 cg gB) (0,List.replicate (bz.toNat) (V.int .i64 0))).bind (un fun wQ=>un fun (vK:Bool) (aed:LV)=>
    aP bw t30 fun pH=>
    bif Nat.ble ((cg.length+([.bool pH.toBool]:LV).length)*1) aW then
    bif Nat.ble ((gB.length+([.list ab aed]:LV).length)*24) aW then
     kn (wrap .i64 (t30+1),cg++([.bool pH.toBool]:LV),gB++([.list ab aed]:LV))
    else none
    else none)
  else none
 else
  kr (t30,decide (t30<t29),cg,gB)
noncomputable def Nh (C:af) (t29 bz bL:Int) (gG gb:LV) (gf gg Di Dj:Int) (places dO:LV) (Dk Dl:Int) (aA aQ bw b7:LV):=un fun t30=>un fun cg gB=>HC C t29 bz bL gG gb gf gg Di Dj places dO Dk Dl aA aQ bw b7 t30 cg gB (fun y=>some (Sum.inl y)) (fun r=>some (Sum.inr r))
noncomputable def HD (C:af) (t88 gf gg:Int) (dO:LV) (fH fI:Int) (numbers UF aA aQ bw b7:LV) (t89:Int) (tU:LV) {β:Type} (kn:(Int×LV)→Option β) (kr:(Int×Bool×LV)→Option β):Option β:=
 bif decide (t89<t88) then
  aP UF t89 fun uT=>
  aP tU t89 fun J2=>
  bif decide ((uT.toInt:Int)≥0) then
  bif (decide (0≤uT.toInt))&&(decide (uT.toInt<(dO.length:Int))) then
   (dO[(uT.toInt:Int).toNat]?).bind fun Dm=>
   bif (decide (0≤Dm.toInt))&&(decide (Dm.toInt<(numbers.length:Int))) then
   (numbers[(Dm.toInt:Int).toNat]?).bind fun x20=>
   aP (bj tU t89 (V.int .i64 (-1))) t89 fun x21=>
   kn (wrap .i64 (t89+1),bj (bj tU t89 (V.int .i64 (-1))) t89 (V.int .i64 x20.toInt))
   else none
  else none
  else
  kn (wrap .i64 (t89+1),bj tU t89 (V.int .i64 (-1)))
 else
  kr (t89,decide (t89<t88),tU)
noncomputable def Ni (C:af) (t88 gf gg:Int) (dO:LV) (fH fI:Int) (numbers UF aA aQ bw b7:LV):=un fun t89 tU=>HD C t88 gf gg dO fH fI numbers UF aA aQ bw b7 t89 tU (fun y=>some (Sum.inl y)) (fun r=>some (Sum.inr r))
noncomputable def UG (C:af):cF:=bN 161 Se [EQ,EQ,EQ,EQ,EQ,H1,EQ,EQ,EQ,EQ,EQ,EQ,EQ,EQ,EQ,EQ,EQ,EQ,H1,EQ,EQ,EQ,EQ,EQ,EQ] [[1,2,3,4,5,0,0,7,8,9,10,11,12,13,14,15,16,17,18,0,20,21,22,23,24,25]] (@HB C) (bN 81 Sf [EQ,H1,EQ,EQ,EQ,EQ,EQ,EQ,EQ,EQ,EQ,EQ,EQ,EQ,EQ,EQ,EQ,EQ,H1,H1] [[1,0,0,3,4,5,6,7,8,9,10,11,12,13,14,15,16,17,18,0,0]] (@HC C) (bN 321 Sg [EQ,H1,EQ,EQ,EQ,EQ,EQ,EQ,H1,EQ,EQ,EQ,EQ,EQ] [[1,0,0,3,4,5,6,7,8,0,10,11,12,13,14]] (@HD C) bO))
theorem ar6 (C:af):bB C (UG C) 36 (Lp [1,1,1,1,0,1,0,0,1,1,0,0,1,1,1,0,1,0,0] 36):=bP Se [EQ,EQ,EQ,EQ,EQ,H1,EQ,EQ,EQ,EQ,EQ,EQ,EQ,EQ,EQ,EQ,EQ,EQ,H1,EQ,EQ,EQ,EQ,EQ,EQ] [[1,2,3,4,5,0,0,7,8,9,10,11,12,13,14,15,16,17,18,0,20,21,22,23,24,25]] (@HB C) (bu aw)
theorem ar7 (C:af):bB C (UG C) 36 (Lp [1,1,1,1,0,1,0,0] 36):=bP Sf [EQ,H1,EQ,EQ,EQ,EQ,EQ,EQ,EQ,EQ,EQ,EQ,EQ,EQ,EQ,EQ,EQ,EQ,H1,H1] [[1,0,0,3,4,5,6,7,8,9,10,11,12,13,14,15,16,17,18,0,0]] (@HC C) (bu (bC (ar6 C) aw))
theorem ar8 (C:af):bB C (UG C) 36 (Lp [1,1,1,1,1,1,1,0,1,0,0] 36):=bP Sg [EQ,H1,EQ,EQ,EQ,EQ,EQ,EQ,H1,EQ,EQ,EQ,EQ,EQ] [[1,0,0,3,4,5,6,7,8,0,10,11,12,13,14]] (@HD C) (bu aw)
noncomputable def aee (C:af) (cU cX:Int) (cG c8:LV):Option LV:=
 (C Cp [V.int .i64 cU,V.int .i64 cX,.list ar cG,.list ag c8]).bind fun r1=>
 (C Lu [V.int .i64 ((V.nth r1 0).toInt),V.int .i64 ((V.nth (r1.drop 1) 0).toInt),.list ar ((V.nth (r1.drop 2) 0).toList),.list ag ((V.nth ((r1.drop 2).drop 1) 0).toList)]).bind fun r2=>
 (Loop (Nh C (((V.nth r2 0).toList).length:Int) cU cX cG c8 0 0 ((V.nth r1 0).toInt) ((V.nth (r1.drop 1) 0).toInt) ((V.nth (((r1.drop 2).drop 1).drop 1) 0).toList) ((V.nth r2 0).toList) cU 0 ([]:LV) ([]:LV) ((V.nth (r1.drop 2) 0).toList) ((V.nth ((r1.drop 2).drop 1) 0).toList)) (0,([]:LV),([]:LV))).bind (un fun JS=>un fun (BC:Bool)=>un fun (o7:LV) (uQ:LV)=>
  (C Cp [V.int .i64 cU,V.int .i64 0,.list ar o7,.list ag uQ]).bind fun vN=>
  bif (decide (0≤(((V.nth (((r1.drop 2).drop 1).drop 1) 0).toList).length:Int)))&&((decide ((((V.nth (((r1.drop 2).drop 1).drop 1) 0).toList).length:Int)≤(((V.nth (((r1.drop 2).drop 1).drop 1) 0).toList).length:Int)))&&(Nat.ble ((((((V.nth (((r1.drop 2).drop 1).drop 1) 0).toList).length:Int):Int).toNat)*8) aW)) then
   (Loop (Ni C (((V.nth (((r1.drop 2).drop 1).drop 1) 0).toList).length:Int) 0 0 ((V.nth r2 0).toList) ((V.nth vN 0).toInt) ((V.nth (vN.drop 1) 0).toInt) ((V.nth (((vN.drop 2).drop 1).drop 1) 0).toList) ((V.nth (((r1.drop 2).drop 1).drop 1) 0).toList) ([]:LV) ([]:LV) ((V.nth (vN.drop 2) 0).toList) ((V.nth ((vN.drop 2).drop 1) 0).toList)) (0,List.replicate (((((V.nth (((r1.drop 2).drop 1).drop 1) 0).toList).length:Int):Int).toNat) (V.int .i64 0))).bind (un fun ar9=>un fun (axT:Bool) (asa:LV)=>
    some [V.int .i64 ((V.nth vN 0).toInt),V.int .i64 ((V.nth (vN.drop 1) 0).toInt),.list ar ((V.nth (vN.drop 2) 0).toList),.list ag ((V.nth ((vN.drop 2).drop 1) 0).toList),.list ab asa])
  else none)
theorem asb {cU cX:Int} {cG c8:LV} {r:Option LV} (h:aee CC cU cX cG c8=r):CC Lr [V.int .i64 cU,V.int .i64 cX,.list ar cG,.list ag c8]=r:=bQ (bC (ar7 CC) (bC (ar8 CC) aw)) h
noncomputable def aef (C:af) (cU cX:Int) (cG c8:LV):Option LV:=
 (C s6 [V.int .i64 cU,V.int .i64 cX,.list ar cG,.list ag c8]).bind fun r1=>
 bif (((V.nth r1 0).toInt):Int) != 0 then
  some [V.int .i64 0,V.int .i64 0,.list ar ([]:LV),.list ag ([]:LV)]
 else
  (C Lr [V.int .i64 cU,V.int .i64 cX,.list ar cG,.list ag c8]).bind fun r2=>
  some [V.int .i64 ((V.nth r2 0).toInt),V.int .i64 ((V.nth (r2.drop 1) 0).toInt),.list ar ((V.nth (r2.drop 2) 0).toList),.list ag ((V.nth ((r2.drop 2).drop 1) 0).toList)]
theorem asd {cU cX:Int} {cG c8:LV} {r:Option LV} (h:aef CC cU cX cG c8=r):CC zh [V.int .i64 cU,V.int .i64 cX,.list ar cG,.list ag c8]=r:=bQ (L:=bO) aw h
theorem ase {p:Nat→Nat} {n:Nat} (h:zV p n) (hn:0<n):p 0=0:=by
 simpa[b8,cZ] using h 1 (by omega)
theorem aeg {p:Nat→Nat} {n i:Nat} (h:zV p n) (hi:i<n):p i∈b8 p i↔p i<(Da.gS p i).length:=by
 rw[Da.Hl];constructor
 ·intro hm;rw[h i (by omega)] at hm;simpa using hm
 ·intro hm;rw[h i (by omega)];simpa using hm
theorem asf (p:Nat→Nat) (n:Nat):(Da.gS p n).length≤n:=by rw[Da.Hl];exact Hj p n
def qF (a:Da) (p:Nat→Nat) (i:Nat):List V:=(Da.gS p i).map fun r=>V.bool (a.fin r)
def qN (a:Da) (p:Nat→Nat) (i:Nat):List V:=(Da.gS p i).map fun r=>o6 a.L fun x=>p (a.nx r x)
theorem asg {a:Da} {p:Nat→Nat}:(a.quo p).dU=qF a p a.n∧(a.quo p).eh=qN a p a.n:=by
 constructor
 ·unfold Da.dU qF;rw[zL _ 0,Da.xD];exact dB fun i hi=>by rw[Da.ad5 hi,cN hi]
 ·unfold Da.eh qN;rw[zL _ 0,Da.xD];refine dB fun i hi=> ?_;unfold o6;exact congrArg _ (dB fun x hx=>by rw[Da.ad6 hi hx,cN hi])
section
variable {a:Da} (h:a.Ok) {p:Nat→Nat}
include h
theorem ash {q:Nat} (hq:q<a.n) {k1 k2 k3 k4 k5 k6 k7 k8 k9 k10 k11:Int} {l1 l2 l3 l4 l5 l6 l7 l8 l9:List V}:
  Loop (Ng CC k1 k2 k3 (tab a.L fun x=>iV (a.nx q x)) ((tab a.L fun x=>iV (a.nx q x)).length:Int) k4 k5 l1 l2 k6 k7 k8 k9 l3 (cV a.n p) k10 k11 l4 l5 l6 l7 l8 l9) (0,List.replicate (((a.L:Nat):Int).toNat) (V.int .i64 0))=
   some ((a.L:Int),false,(tab a.L fun x=>nV (p (a.nx q x)))):=by
 have h6:=h.l6;rw[fG,Int.toNat_natCast,qo];refine (gx a.L (fun t=>((t:Int),(tab a.L fun x=>if x<t then nV (p (a.nx q x)) else nV 0))) _ (fun t ht=> ?_) ?_)
 ·simp only[Ng,HB,un,aP,bj];refine bT (bh ht) ?_;refine bs (MD ht) ?_;refine (nr (i:=a.nx q t) (h.mg hq ht)).trans ?_;refine (nr ht).trans ?_;rw[br (by omega),Int.toNat_natCast,mH];refine congrArg (fun x=>some (Sum.inl (((t+1:Nat):Int),x))) (dB fun j _=> ?_);by_cases hj:j=t
  ·rw[aE hj,dv,hj];rfl
  ·rw[aF hj];by_cases dN:j<t
   ·rw[aE dN,dv]
   ·rw[aF dN,dA]
 ·simp only[Ng,HB,un,aP,bj];refine bF (aV (av _)) ?_;rw[aV (av _)];refine congrArg (fun x=>some (Sum.inr ((a.L:Int),false,x))) (dB fun j hj=>aE hj)
theorem asi (ho:zV p a.n) {k3 k4 k5 k6 k7 k8 k9:Int} {l1 l2 l3 l4 l5:List V}:
  Loop (Nh CC ((cV a.n p).length:Int) (a.L:Int) k3 l1 l2 k4 k5 k6 k7 l3 (cV a.n p) k8 k9 l4 l5 a.dU a.eh) (0,([]:List V),([]:List V))=
   some ((a.n:Int),false,qF a p a.n,qN a p a.n):=by
 have h6:=h.l6;have hm:=h.dP;rw[show (cV a.n p).length=a.n by simp[cV]];refine (gx a.n (fun i=>((i:Int),qF a p i,qN a p i)) _ (fun q hq=> ?_) ?_)
 ·have hle:=asf p q;have hF:(qF a p q).length=(Da.gS p q).length:=by simp[qF]
  have hN:(qN a p q).length=(Da.gS p q).length:=by simp[qN]
  simp only[Nh,HC,un,aP];refine bT (bh hq) ?_;refine (nr (i:=q) hq).trans ?_;rw[br (by omega)];simp only[nV,V.toInt_int];by_cases hx:p q∈b8 p q
  ·refine bT (cp (by rw[hF];have:=(aeg ho hq).1 hx;omega)) ?_;unfold qF qN;rw[Da.gS,aE hx]
  ·refine bF (da (by rw[hF];intro h2;exact hx ((aeg ho hq).2 (by omega)))) ?_;refine bT (fO (by omega) (by omega)) ?_;refine (nr (i:=q) hq).trans ?_;simp only[EF];refine bs (ash h hq) ?_;refine (nr (i:=q) hq).trans ?_;refine bT (cap (by rw[hF];simp;omega) (by omega)) ?_;refine bT (cap (by rw[hN];simp;omega) (by omega)) ?_;unfold qF qN;rw[Da.gS,aF hx,uh,uh];rfl
 ·simp only[Nh,HC,un,aP];refine bF (aV (av _)) ?_;rw[aV (av _)]
end
def vO (U U':List Nat) (p:Nat→Nat) (q:Nat):V:=if q∈U then iV ((if p (U.idxOf q)∈U' then nV (U'.idxOf (p (U.idxOf q))) else V.int .i64 (-1)).toInt) else V.int .i64 (-1)
theorem asj {n m k:Nat} {U U':List Nat} {p:Nat→Nat} (hn:n≤512) (hU:U.length≤m) (hp: ∀q,q<m→p q<k) {k1 k2 k3 k4:Int} {l1 l2 l3 l4:List V}:
  ∃X,Loop (Ni CC ((oD U n).length:Int) k1 k2 (cV m p) k3 k4 (oD U' k) (oD U n) l1 l2 l3 l4) (0,List.replicate ((((oD U n).length:Int):Int).toNat) (V.int .i64 0))=some ((n:Int),false,X):=by
 rw[show (oD U n).length=n by simp[oD],Int.toNat_natCast,qo];refine ⟨tab n fun q=>if q<n then vO U U' p q else V.int .i64 0,gx n (fun i=>((i:Int),(tab n fun q=>if q<i then vO U U' p q else V.int .i64 0))) _ (fun q hq=> ?_) ?_⟩
 ·simp only[Ni,HD,un,aP,bj];refine bT (bh hq) ?_;refine (nr (i:=q) hq).trans ?_;refine (nr (i:=q) hq).trans ?_;rw[br (by omega)];have fin: ∀v,v=vO U U' p q→((tab n fun j=>if j<q then vO U U' p j else V.int .i64 0).set q v)=tab n fun j=>if j<q+1 then vO U U' p j else V.int .i64 0:=by
   rintro v rfl;rw[mH];refine dB fun j _=> ?_;by_cases hj:j=q
   ·rw[aE hj,aE (show j<q+1 by omega),hj]
   ·rw[aF hj];by_cases dN:j<q
    ·rw[aE dN,aE (show j<q+1 by omega)]
    ·rw[aF dN,aF (show¬j<q+1 by omega)]
  by_cases hx:q∈U
  ·have es:vO U U' p q=iV ((if p (U.idxOf q)∈U' then nV (U'.idxOf (p (U.idxOf q))) else V.int .i64 (-1)).toInt):=by unfold vO;rw[aE hx]
   have hi:=v8 hx;rw[aE hx];refine bT (cp (by simp only[nV,V.toInt_int];omega)) ?_;simp only[nV,V.toInt_int];refine (nr (i:=U.idxOf q) (by omega)).trans ?_;simp only[nV,V.toInt_int];refine (nr (i:=p (U.idxOf q)) (hp _ (by omega))).trans ?_;refine bT (by rw[od,fG];exact ou hq) ?_;refine bs (a:= .int .i64 (-1)) (by rw[Int.toNat_natCast,DF];simp[hq]) ?_;rw[Int.toNat_natCast,AI,←fin _ es.symm]
  ·rw[aF hx];refine bF (da (by simp)) ?_;rw[Int.toNat_natCast,←fin _ (show V.int .i64 (-1)=vO U U' p q by unfold vO;rw[aF hx])]
 ·simp only[Ni,HD,un,aP,bj];refine bF (aV (av _)) ?_;rw[aV (av _)]
theorem Canon.congr {m:Da} {L:Nat} {K K':List Nat→Bool} (h:m.Canon L K) (e: ∀w,WL L w→K w=K' w):m.Canon L K':=⟨h.ok,h.hL,h.st,h.num,h.red,fun w hw=>(h.CW w hw).trans (e w hw)⟩
theorem asl {a:Da} (h:a.Ok): ∃m X,CC Lr (dK a)=some (dK m++[.list ab X])∧m.Canon a.L (a.acc a.st):=by
 have ht:=h.adg;have hm:=h.dP;have hle:=h.vH a.n;have e3:a.trim.n=(aG a.L a.nx a.st a.n).length:=tS;obtain ⟨p,c1,c2,c3⟩:=ar5 ht;have hq:=Da.ad7 ht c2;obtain ⟨q1,q2⟩:=asg (a:=a.trim) (p:=p);have asm:=Da.arP ht c2;have dp:(a.trim.quo p).st=0:=ase c2.2 ht.s;have pF:=adB hq;obtain ⟨X,hX⟩:=asj (n:=a.n) (m:=a.trim.n) (k:=(a.trim.quo p).n) (U:=aG a.L a.nx a.st a.n) (U':=aG (a.trim.quo p).L (a.trim.quo p).nx (a.trim.quo p).st (a.trim.quo p).n) (p:=p) hm (by omega) (fun q hq=>by rw[Da.xD];exact Da.Hm c2.2 hq) (k1:=0) (k2:=0) (k3:=((a.trim.quo p).trim.L:Int)) (k4:=((a.trim.quo p).trim.st:Int)) (l1:=[]) (l2:=[]) (l3:=(a.trim.quo p).trim.dU) (l4:=(a.trim.quo p).trim.eh);refine ⟨(a.trim.quo p).trim,X,asb ?_,Canon.congr asm fun w hw=>h.adh hw⟩;unfold aee;refine bs (adB h) ?_;refine bs c1 ?_;refine bs (asi ht c2.2) ?_;simp only[un];rw[←q1,←q2];have asn:CC Cp [.int .i64 (a.L:Int),.int .i64 0,.list ar (a.trim.quo p).dU,.list ag (a.trim.quo p).eh]=some (dK (a.trim.quo p).trim++[.list ab (oD (aG (a.trim.quo p).L (a.trim.quo p).nx (a.trim.quo p).st (a.trim.quo p).n) (a.trim.quo p).n)]):=by
  rw[←pF];unfold dK o5;rw[dp];rfl
 refine bs asn ?_;have e0:(oD (aG a.L a.nx a.st a.n) a.n).length=a.n:=by simp[oD]
 refine bT (show ((decide (0≤((oD (aG a.L a.nx a.st a.n) a.n).length:Int)))&&((decide (((oD (aG a.L a.nx a.st a.n) a.n).length:Int)≤((oD (aG a.L a.nx a.st a.n) a.n).length:Int)))&&(Nat.ble (((((oD (aG a.L a.nx a.st a.n) a.n).length:Nat):Int).toNat)*8) aW)))=true from fO (by rw[e0];omega) (by omega)) ?_;refine bs hX ?_;rfl
theorem aeh {a:Da} (h:a.Ok): ∃m,CC zh (dK a)=some (dK m)∧m.Canon a.L (a.acc a.st):=by
 obtain ⟨m,X,h1,h2⟩:=asl h;refine ⟨m,asd ?_,h2⟩;unfold aef;refine bs (mC h) ?_;refine bF rfl ?_;refine bs h1 ?_;rfl
open Classical in
noncomputable def minD (a:Da):Da:=if h: ∃m:Da,m.Canon a.L (a.acc a.st) then Classical.choose h else a
theorem uO {a:Da} (h:a.Ok):(minD a).Canon a.L (a.acc a.st):=by
 obtain ⟨m,_,h2⟩:=aeh h;have: ∃m:Da,m.Canon a.L (a.acc a.st):=⟨m,h2⟩
 unfold minD;rw[vU this];exact Classical.choose_spec this
theorem O9 {a m:Da} (h:a.Ok) (hm:m.Canon a.L (a.acc a.st)):m=minD a:=hm.eq (uO h)
theorem Bu {a:Da} (h:a.Ok):CC zh (dK a)=some (dK (minD a)):=by
 obtain ⟨m,h1,h2⟩:=aeh h;rw[h1,O9 h h2]
noncomputable def HE (C:af) (n a t33 t34 t37 ss fH fI:Int) (eY eS:LV) (t38:Int) (aM:LV) {β:Type} (kn:(Int×LV)→Option β) (kr:(Int×Bool×LV)→Option β):Option β:=
 bif decide (t38<t37) then
  aP aM a fun x1=>
  (idx eS t38).bind fun x2=>
  (idx x2.toList a).bind fun x3=>
  (aM[a.toNat]?).bind fun x4=>
  bif Nat.ble ((x4.toList.length+([V.int .i64 (wrap .i64 (ss+x3.toInt))]:LV).length)*8) aW then
  Cm aM a <|
  bif (Nat.beq (a.toNat) (a.toNat))&&true then
   kn (wrap .i64 (t38+1),bj aM a (.list ab (x4.toList++([V.int .i64 (wrap .i64 (ss+x3.toInt))]:LV))))
  else none
  else none
 else
  kr (t38,decide (t38<t37),aM)
noncomputable def Nj (C:af) (n a t33 t34 t37 ss fH fI:Int) (eY eS:LV):=un fun t38 aM=>HE C n a t33 t34 t37 ss fH fI eY eS t38 aM (fun y=>some (Sum.inl y)) (fun r=>some (Sum.inr r))
noncomputable def HF (C:af) (n t33 ss fH fI:Int) (eY eS:LV) (t34:Int) (aM:LV) {β:Type} (kn:(Int×LV)→Option β) (kr:(Int×Bool×LV)→Option β):Option β:=
 bif decide (t34<t33) then
  (Loop (Nj C n t34 t33 t34 n ss fH fI eY eS) (0,aM)).bind (un fun kC=>un fun (j7:Bool) (yu:LV)=>
   kn (wrap .i64 (t34+1),yu))
 else
  kr (t34,decide (t34<t33),aM)
noncomputable def Nk (C:af) (n t33 ss fH fI:Int) (eY eS:LV):=un fun t34 aM=>HF C n t33 ss fH fI eY eS t34 aM (fun y=>some (Sum.inl y)) (fun r=>some (Sum.inr r))
noncomputable def aei (C:af):cF:=bN 161 Sh [EQ,EQ,EQ,EQ,EQ,H1,EQ,EQ,EQ,EQ,EQ,H1] [[1,2,3,4,5,0,0,7,8,9,10,11,0]] (@HE C) (bN 113 Si [EQ,EQ,H1,EQ,EQ,EQ,EQ,EQ,H1] [[1,2,0,0,4,5,6,7,8,0]] (@HF C) bO)
theorem aso (C:af):bB C (aei C) 45 (Lp [1,1,1,1,0,1,0,0,1,1,0,0,1,1,0,0] 45):=bP Sh [EQ,EQ,EQ,EQ,EQ,H1,EQ,EQ,EQ,EQ,EQ,H1] [[1,2,3,4,5,0,0,7,8,9,10,11,0]] (@HE C) (bu aw)
theorem asp (C:af):bB C (aei C) 45 (Lp [1,1,1,1,0,1,0,0] 45):=bP Si [EQ,EQ,H1,EQ,EQ,EQ,EQ,EQ,H1] [[1,2,0,0,4,5,6,7,8,0]] (@HF C) (bu (bC (aso C) aw))
noncomputable def aej (C:af) (tZ Dn:Int) (vP Nl:LV) (ss:Int):Option LV:=
 bif decide (((wrap .i64 (ss+(vP.length:Int))):Int)>32) then
  some [V.int .i64 3,V.int .i64 ss,.list ag ([]:LV),.list fN ([]:LV)]
 else
  bif (decide (0≤tZ))&&((decide (tZ≤tZ))&&(Nat.ble ((tZ.toNat)*24) aW)) then
  (Loop (Nk C (vP.length:Int) ((List.replicate (tZ.toNat) (V.list ab ([]:LV))).length:Int) ss tZ Dn vP Nl) (0,List.replicate (tZ.toNat) (V.list ab ([]:LV)))).bind (un fun wQ=>un fun (vK:Bool) (qm:LV)=>
   bif Nat.ble (([.agg [V.int .i64 (wrap .i64 (ss+Dn)),.list ar vP,V.int .i64 ss]]:LV).length*40) aW then
    some [V.int .i64 0,V.int .i64 (wrap .i64 (ss+(vP.length:Int))),.list ag qm,.list fN ([.agg [V.int .i64 (wrap .i64 (ss+Dn)),.list ar vP,V.int .i64 ss]]:LV)]
   else none)
  else none
theorem asq {tZ Dn:Int} {vP Nl:LV} {ss:Int} {r:Option LV} (h:aej CC tZ Dn vP Nl ss=r):CC Ls [V.int .i64 tZ,V.int .i64 Dn,.list ar vP,.list ag Nl,V.int .i64 ss]=r:=bQ (bC (asp CC) aw) h
noncomputable def aek (C:af) (Nm:Int) (Nn:LV) (No:Int) (f:LV):Option LV:=
 (idx f Nm).bind fun x1=>
 (idx Nn (wrap .i64 (x1.toInt-No))).bind fun x2=>
 some [.bool x2.toBool]
theorem asr {Nm:Int} {Nn:LV} {No:Int} {f:LV} {r:Option LV} (h:aek CC Nm Nn No f=r):CC Lw [V.int .i64 Nm,.list ar Nn,V.int .i64 No,.list ab f]=r:=bQ (L:=bO) aw h
section
variable {a:LV} {i:Nat} {l l':LV}
theorem ass:Tryz.prog.underlying ag=some (.slice ab):=by kernel_rfl
theorem ael:bY Tryz.prog ag=false:=by kernel_rfl
theorem aem:parts Tryz.prog ag (.list ab l)=[.list ab l]:=by
 unfold parts;rw[ael];simp only[cond_false,g9,ass,V.ei]
theorem pZ (h:a[i]? =some (.list ab l)):e9 Tryz.prog ag a [(i,0)]=some (.list ab l):=by
 simp only[e9,h,Option.bind_some,aem];rfl
theorem ES (h:a[i]? =some (.list ab l)):setRow Tryz.prog l' ag a [(i,0)]=a.set i (.list ab l'):=by
 simp only[setRow,h,aem];simp only[List.getElem?_cons_zero,List.set_cons_zero,dw,ael,cond_false,V.JD]
theorem ast:Tryz.prog.underlying kH=some (.slice ar):=by kernel_rfl
theorem aen:bY Tryz.prog kH=false:=by kernel_rfl
theorem aeo:parts Tryz.prog kH (.list ar l)=[.list ar l]:=by
 unfold parts;rw[aen];simp only[cond_false,g9,ast,V.ei]
theorem aep (h:a[i]? =some (.list ar l)):e9 Tryz.prog kH a [(i,0)]=some (.list ar l):=by
 simp only[e9,h,Option.bind_some,aeo];rfl
theorem asu (h:a[i]? =some (.list ar l)):setRow Tryz.prog l' kH a [(i,0)]=a.set i (.list ar l'):=by
 simp only[setRow,h,aeo];simp only[List.getElem?_cons_zero,List.set_cons_zero,dw,aen,cond_false,V.JD]
end
def Da.gT (m:Da) (x:Nat):List Nat:=(List.range m.n).map fun q=>m.nx q x
theorem Da.Ok.gT {m:Da} (h:m.Ok) {x:Nat} (hx:x<m.L):Tr m.n (m.gT x):=by
 refine ⟨by simp[Da.gT],fun y hy=> ?_⟩;obtain ⟨q,hq,rfl⟩:=iQ.1 hy;exact h.mg (iD.1 hq) hx
theorem asv {m:Da} {x:Nat}:nS (m.gT x)=tab m.n fun q=>nV (m.nx q x):=by
 unfold Da.gT nS;rw[AH];rfl
def gy (m:Da):LV:=[.agg [.int .i64 (m.st:Int),.list ar m.dU,.int .i64 0]]
section
variable {m:Da} (h:m.Ok) (fA:m.n≤32)
include h fA
theorem asw {a:Nat} (ha:a<m.L) {k1 k2:Int}:Loop (Nj CC (m.n:Int) (a:Int) k1 k2 (m.n:Int) 0 (m.L:Int) (m.st:Int) m.dU m.eh) (0,tab m.L fun j=>if j<a then tV (m.gT j) else .list ab [])=some ((m.n:Int),false,tab m.L fun j=>if j<a+1 then tV (m.gT j) else .list ab []):=by
 have hl6:=h.l6;have dp: ∀{q:Nat} {l:LV},(tab m.L fun j=>if j<a then tV (m.gT j) else if j=a then .list ab l else .list ab [])[a]? =some (.list ab l):=fun {q l}=>by rw[nq ha,dA,dv]
 refine (gx m.n (fun q=>((q:Int),(tab m.L fun j=>if j<a then tV (m.gT j) else if j=a then .list ab (tab q fun p=>nV (m.nx p a)) else .list ab []))) _ (fun q hq=> ?_) ?_) |> fun e=>by
  rw[show (tab m.L fun j=>if j<a then tV (m.gT j) else .list ab [])=tab m.L fun j=>if j<a then tV (m.gT j) else if j=a then .list ab (tab 0 fun p=>nV (m.nx p a)) else .list ab [] from dB fun j _=>by
   by_cases c:j<a
   ·rw[aE c,aE c]
   ·rw[aF c,aF c];split<;>rfl]
  exact e
 ·simp only[Nj,HE,un,aP,Cm,bj];have e1:=dp (q:=q) (l:=tab q fun p=>nV (m.nx p a));have e2:a<(tab m.L fun j=>if j<a then tV (m.gT j) else if j=a then .list ab (tab q fun p=>nV (m.nx p a)) else V.list ab []).length:=by simpa using ha
  have wU:=h.mg hq ha;refine bT (bh hq) ((bX e1).trans (bs (Da.JL hq) ?_));rw[EF];refine bs (MD ha) (bs (by rw[Int.toNat_natCast];exact e1) (bT (cap (by simp;omega) (by omega)) (bT (ou e2) (bT (by simp) ?_))));rw[br (by omega),show wrap .i64 (0+(iV (m.nx q a)).toInt)=((m.nx q a:Nat):Int) from by show wrap .i64 (0+((m.nx q a:Nat):Int))=_;rw[rZ]<;>omega,Int.toNat_natCast,mH];refine congrArg (fun t=>some (Sum.inl (((q+1:Nat):Int),t))) (dB fun j _=> ?_);by_cases c:j=a
  ·subst c;rw[dv,dA,dv,V.ei,Bw];rfl
  ·rw[aF c];by_cases c2:j<a
   ·rw[dv,dv]
   ·rw[dA,aF c,dA,aF c]
 ·simp only[Nj,HE,un];refine bF (aV (av _)) ?_;rw[aV (av _)];refine congrArg (fun t=>some (Sum.inr ((m.n:Int),false,t))) (dB fun j _=> ?_);by_cases c:j=a
  ·subst c;rw[dA,dv,dv];unfold tV;rw[asv]
  ·by_cases c2:j<a
   ·rw[dv,dv]
   ·rw[dA,aF c,dA]
theorem JG:CC Ls (o5 m [.int .i64 0])=some [.int .i64 0,.int .i64 (m.n:Int),.list ag (gV m.L m.gT),.list fN (gy m)]:=by
 have hl6:=h.l6;have hs:=h.s;refine asq ?_;unfold aej;rw[Da.EE,show wrap .i64 (0+(m.n:Int))=(m.n:Int) from by rw[rZ]<;>omega];refine bF (da (by omega)) (bT (fO (by omega) (by omega)) ?_);rw[Int.toNat_natCast,v5];have l2:Loop (Nk CC (m.n:Int) (m.L:Int) 0 (m.L:Int) (m.st:Int) m.dU m.eh) (0,List.replicate m.L (V.list ab ([]:LV)))=some ((m.L:Int),false,gV m.L m.gT):=by
  rw[qo];refine (gx m.L (fun a=>((a:Int),(tab m.L fun j=>if j<a then tV (m.gT j) else .list ab []))) _ (fun a ha=> ?_) ?_)
  ·simp only[Nk,HF,un];refine bT (bh ha) (bs (asw h fA ha) ?_);rw[br (by omega)];rfl
  ·simp only[Nk,HF,un];refine bF (aV (av _)) ?_;rw[aV (av _)];exact congrArg (fun t=>some (Sum.inr ((m.L:Int),false,t))) (dB fun j hj=>aE hj)
 rw[show wrap .i64 (0+(m.st:Int))=(m.st:Int) from by rw[rZ]<;>omega];exact bs l2 rfl
theorem asx {f:List Nat} (hf:Tr m.n f):CC Lw [.int .i64 (m.st:Int),.list ar m.dU,.int .i64 0,.list ab (nS f)]=some [.bool (m.fin (f.getD m.st 0))]:=by
 have hs:=h.s;have vc:m.st<f.length:=by rw[hf.1];exact hs
 have h2:=hf.at vc;refine asr ?_;unfold aek;refine bs (iw vc) ?_;rw[show wrap .i64 ((nV f[m.st]).toInt-0)=((f[m.st]:Nat):Int) from by show wrap .i64 (((f[m.st]:Nat):Int)-0)=_;rw[rZ]<;>omega,cN vc];exact bs (Da.JK h2) rfl
end
noncomputable def HG (C:af) (t t13:LV) (t14 t15:Int) (t24:LV) (t25 t26:Int) {β:Type} (kn:Int→Option β) (kr:((Int) ⊕ (Int×Bool))→Option β):Option β:=
 bif decide (t26<t25) then
  (idx t24 t26).bind fun x2=>
  bif decide ((x2.toInt:Int)<0) then
  kr (.inl 4)
  else
  bif decide ((x2.toInt:Int)≥(t.length:Int)) then
   kr (.inl 4)
  else
   kn (wrap .i64 (t26+1))
 else
  kr (.inr (t26,decide (t26<t25)))
noncomputable def UH (C:af) (t t13:LV) (t14 t15:Int) (t24:LV) (t25:Int):=fun t26=>HG C t t13 t14 t15 t24 t25 t26 (fun y=>some (Sum.inl y)) (fun r=>some (Sum.inr r))
noncomputable def HH (C:af) (t t13:LV) (t14 t15:Int) {β:Type} (kn:Int→Option β) (kr:((Int) ⊕ (Int×Bool))→Option β):Option β:=
 bif decide (t15<t14) then
  (idx t13 t15).bind fun x1=>
  bif (x1.toList.length:Int) != (t.length:Int) then
  kr (.inl 4)
  else
  (Loop (UH C t t13 t14 t15 x1.toList (x1.toList.length:Int)) 0).bind (gj (fun jJ=>
   kr (.inl jJ)) (un fun (lV:Int) (kC:Bool)=>
   kn (wrap .i64 (t15+1))))
 else
  kr (.inr (t15,decide (t15<t14)))
noncomputable def UI (C:af) (t t13:LV) (t14:Int):=fun t15=>HH C t t13 t14 t15 (fun y=>some (Sum.inl y)) (fun r=>some (Sum.inr r))
noncomputable def aeq (C:af):cF:=bN 177 Tf [EQ,EQ,EQ,EQ,EQ,EQ,H1] [[0],[1,2,3,4,5,6,0,0]] (@HG C) (bN 97 Tg [EQ,EQ,EQ,H1] [[0],[1,2,3,0,0]] (@HH C) bO)
theorem asy (C:af):bB C (aeq C) 143 (Lp [1,1,1,0,1,0,0,1,1,0,0,1,1,1,0,0] 143):=bP Tf [EQ,EQ,EQ,EQ,EQ,EQ,H1] [[0],[1,2,3,4,5,6,0,0]] (@HG C) (bu aw)
theorem asz (C:af):bB C (aeq C) 143 (Lp [1,1,1,0,1,0,0] 143):=bP Tg [EQ,EQ,EQ,H1] [[0],[1,2,3,0,0]] (@HH C) (bu (bC (asy C) aw))
noncomputable def aer (C:af) (t:LV):Option LV:=
 bif decide ((t.length:Int)>400) then
  some [V.int .i64 3]
 else
  bif (t.length:Int)==0 then
  some [V.int .i64 4]
  else
  (Loop (UI C t t (t.length:Int)) 0).bind (gj (fun j7=>
   some [V.int .i64 j7]) (un fun (oo:Int) (wQ:Bool)=>
   some [V.int .i64 0]))
theorem asA {t:LV} {r:Option LV} (h:aer CC t=r):CC LL [.list ag t]=r:=bQ (bC (asz CC) aw) h
noncomputable def HI (C:af) (t:LV) (g:Int) (row left t16:LV) (t17 t18:Int) (t29:LV) (t30 t31:Int) (t45:LV) (t46:Int) (nu:LV) (t47:Int) {β:Type} (kn:Int→Option β) (kr:((Bool) ⊕ (Int×Bool))→Option β):Option β:=
 bif decide (t47<t46) then
  (idx t45 t47).bind fun x8=>
  (idx left t47).bind fun x9=>
  (idx row x8.toInt).bind fun nU=>
  bif (x9.toInt:Int) != nU.toInt then
  kr (.inl false)
  else
  kn (wrap .i64 (t47+1))
 else
  kr (.inr (t47,decide (t47<t46)))
noncomputable def UJ (C:af) (t:LV) (g:Int) (row left t16:LV) (t17 t18:Int) (t29:LV) (t30 t31:Int) (t45:LV) (t46:Int) (nu:LV):=fun t47=>HI C t g row left t16 t17 t18 t29 t30 t31 t45 t46 nu t47 (fun y=>some (Sum.inl y)) (fun r=>some (Sum.inr r))
noncomputable def HJ (C:af) (t:LV) (g:Int) (t16:LV) (t17 t18:Int) (t29:LV) (t30:Int) (nu:LV) (t31:Int) {β:Type} (kn:Int→Option β) (kr:((Bool) ⊕ (Int×Bool))→Option β):Option β:=
 bif decide (t31<t30) then
  (idx t29 t31).bind fun x4=>
  (idx x4.toList g).bind fun x5=>
  (idx t x5.toInt).bind fun x6=>
  (idx t g).bind fun x7=>
  (Loop (UJ C t g x4.toList x6.toList t16 t17 t18 t29 t30 t31 x7.toList (x7.toList.length:Int) nu) 0).bind (gj (fun (yw:Bool)=>
   kr (.inl yw)) (un fun (JS:Int) (BC:Bool)=>
   kn (wrap .i64 (t31+1))))
 else
  kr (.inr (t31,decide (t31<t30)))
noncomputable def Np (C:af) (t:LV) (g:Int) (t16:LV) (t17 t18:Int) (t29:LV) (t30:Int) (nu:LV):=fun t31=>HJ C t g t16 t17 t18 t29 t30 nu t31 (fun y=>some (Sum.inl y)) (fun r=>some (Sum.inr r))
noncomputable def HK (C:af) (t t16:LV) (t17 t18:Int) (nu:LV) {β:Type} (kn:(Int×LV)→Option β) (kr:((Bool) ⊕ (Int×Bool×LV))→Option β):Option β:=
 bif decide (t18<t17) then
  (idx t16 t18).bind fun x1=>
  bif (decide (0≤x1.toInt))&&(decide (x1.toInt<(nu.length:Int))) then
  (nu[(x1.toInt:Int).toNat]?).bind fun x2=>
  bif x2.toBool then
   kn (wrap .i64 (t18+1),nu)
  else
   bif (decide (0≤x1.toInt))&&(decide (x1.toInt<(nu.length:Int))) then
   (nu[(x1.toInt:Int).toNat]?).bind fun x3=>
   (Loop (Np C t x1.toInt t16 t17 t18 t (t.length:Int) (bj nu (x1.toInt) (.bool true))) 0).bind (gj (fun (uS:Bool)=>
    kr (.inl uS)) (un fun (JU:Int) (yE:Bool)=>
    kn (wrap .i64 (t18+1),bj nu (x1.toInt) (.bool true))))
   else none
  else none
 else
  kr (.inr (t18,decide (t18<t17),nu))
noncomputable def Nq (C:af) (t t16:LV) (t17:Int):=un fun t18 nu=>HK C t t16 t17 t18 nu (fun y=>some (Sum.inl y)) (fun r=>some (Sum.inr r))
noncomputable def UK (C:af):cF:=bN 193 Th [EQ,EQ,EQ,EQ,EQ,EQ,EQ,EQ,EQ,EQ,EQ,EQ,H1,EQ] [[0],[1,2,3,4,5,6,7,8,9,10,11,12,0,0,14]] (@HI C) (bN 129 Ti [EQ,EQ,EQ,EQ,EQ,EQ,EQ,H1,EQ] [[0],[1,2,3,4,5,6,7,0,0,9]] (@HJ C) (bN 49 Tj [EQ,EQ,EQ,H1,H1] [[0],[1,2,3,0,0,0]] (@HK C) bO))
theorem asB (C:af):bB C (UK C) 144 (Lp [1,1,0,1,0,0,1,1,0,0,1,1,1,1,0,0,1,1,0,0,1,1,1,0,0] 144):=bP Th [EQ,EQ,EQ,EQ,EQ,EQ,EQ,EQ,EQ,EQ,EQ,EQ,H1,EQ] [[0],[1,2,3,4,5,6,7,8,9,10,11,12,0,0,14]] (@HI C) (bu aw)
theorem asC (C:af):bB C (UK C) 144 (Lp [1,1,0,1,0,0,1,1,0,0,1,1,1,1,0,0] 144):=bP Ti [EQ,EQ,EQ,EQ,EQ,EQ,EQ,H1,EQ] [[0],[1,2,3,4,5,6,7,0,0,9]] (@HJ C) (bu (bC (asB C) aw))
theorem asD (C:af):bB C (UK C) 144 (Lp [1,1,0,1,0,0] 144):=bP Tj [EQ,EQ,EQ,H1,H1] [[0],[1,2,3,0,0,0]] (@HK C) (bu (bC (asC C) aw))
noncomputable def aes (C:af) (t mh:LV):Option LV:=
 bif (decide (0≤(t.length:Int)))&&((decide ((t.length:Int)≤(t.length:Int)))&&(Nat.ble (((t.length:Int).toNat)*1) aW)) then
  (Loop (Nq C t mh (mh.length:Int)) (0,List.replicate ((t.length:Int).toNat) (V.bool false))).bind (gj (fun (Nr:Bool)=>
   some [.bool Nr]) (un fun UL=>un fun (UM:Bool) (axU:LV)=>
   some [.bool true]))
 else none
theorem asE {t mh:LV} {r:Option LV} (h:aes CC t mh=r):CC LM [.list ag t,.list ab mh]=r:=bQ (bC (asD CC) aw) h
noncomputable def aet (C:af) (x:Int) (aM aN:LV):Option LV:=
 aP aM x fun x1=>
 bif !x1.toBool then
  aP aM x fun x2=>
  bif Nat.ble ((aN.length+([V.int .i64 x]:LV).length)*8) aW then
  some [.list ar (bj aM x (.bool true)),.list ab (aN++([V.int .i64 x]:LV))]
  else none
 else
  some [.list ar aM,.list ab aN]
theorem asF {x:Int} {aM aN:LV} {r:Option LV} (h:aet CC x aM aN=r):CC qX [V.int .i64 x,.list ar aM,.list ab aN]=r:=bQ (L:=bO) aw h
noncomputable def HL (C:af) (t:LV) (kS x t17 t18:Int) (t45:LV) (t46:Int) (pI:LV) (t47:Int) (aN aR:LV) {β:Type} (kn:(Int×LV×LV)→Option β) (kr:(Int×Bool×LV×LV)→Option β):Option β:=
 bif decide (t47<t46) then
  (idx t45 t47).bind fun x4=>
  (idx t x).bind fun x5=>
  (idx x5.toList x4.toInt).bind fun x6=>
  (C qX [V.int .i64 x6.toInt,.list ar aN,.list ab aR]).bind fun r7=>
  (idx t x4.toInt).bind fun x8=>
  (idx x8.toList x).bind fun x9=>
  (C qX [V.int .i64 x9.toInt,.list ar ((V.nth r7 0).toList),.list ab ((V.nth (r7.drop 1) 0).toList)]).bind fun eb=>
  kn (wrap .i64 (t47+1),(V.nth eb 0).toList,(V.nth (eb.drop 1) 0).toList)
 else
  kr (t47,decide (t47<t46),aN,aR)
noncomputable def HM (C:af) (t:LV) (kS x t17 t18:Int) (t45:LV) (t46:Int) (pI:LV):=un fun t47=>un fun aN aR=>HL C t kS x t17 t18 t45 t46 pI t47 aN aR (fun y=>some (Sum.inl y)) (fun r=>some (Sum.inr r))
noncomputable def Ns (C:af) (t:LV) (t17 t18:Int) (pI:LV) (kS:Int) (aN aR:LV) {β:Type} (kn:(Int×LV×LV)→Option β) (kr:(Int×Bool×LV×LV)→Option β):Option β:=
 bif decide (kS<(aR.length:Int)) then
  aP aR kS fun x3=>
  bif (decide (0≤(wrap .i64 (kS+1))))&&(decide ((wrap .i64 (kS+1))≤(aR.length:Int))) then
  (Loop (HM C t kS x3.toInt t17 t18 ((aR.drop 0).take (((wrap .i64 (kS+1):Int).toNat)-0)) (((wrap .i64 (kS+1):Int).toNat)-0:Int) pI) (0,aN,aR)).bind (un fun yw=>un fun (JS:Bool)=>un fun (C8:LV) (o7:LV)=>
   kn (wrap .i64 (kS+1),C8,o7))
  else none
 else
  kr (kS,decide (kS<(aR.length:Int)),aN,aR)
noncomputable def Nt (C:af) (t:LV) (t17 t18:Int) (pI:LV):=un fun kS=>un fun aN aR=>Ns C t t17 t18 pI kS aN aR (fun y=>some (Sum.inl y)) (fun r=>some (Sum.inr r))
noncomputable def HN (C:af) (t:LV) (t17 kS t18:Int) (pI aN aR:LV) {β:Type} (kn:(Int×Int×LV×LV×LV)→Option β) (kr:(Int×Int×Bool×LV×LV×LV)→Option β):Option β:=
 bif decide (t18<t17) then
  aP aN t18 fun x1=>
  bif x1.toBool then
  kn (kS,wrap .i64 (t18+1),pI,aN,aR)
  else
  bif Nat.ble ((pI.length+([V.int .i64 t18]:LV).length)*8) aW then
   (C qX [V.int .i64 t18,.list ar aN,.list ab aR]).bind fun r2=>
   (Loop (Nt C t t17 t18 (pI++([V.int .i64 t18]:LV))) (kS,(V.nth r2 0).toList,(V.nth (r2.drop 1) 0).toList)).bind (un fun asG=>un fun (yE:Bool)=>un fun (sB:LV) (vJ:LV)=>
    kn (asG,wrap .i64 (t18+1),pI++([V.int .i64 t18]:LV),sB,vJ))
  else none
 else
  kr (kS,t18,decide (t18<t17),pI,aN,aR)
noncomputable def Nu (C:af) (t:LV) (t17:Int):=un fun kS=>un fun t18=>un fun pI=>un fun aN aR=>HN C t t17 kS t18 pI aN aR (fun y=>some (Sum.inl y)) (fun r=>some (Sum.inr r))
noncomputable def UN (C:af):cF:=bN 241 Tk [EQ,EQ,EQ,EQ,EQ,EQ,EQ,H1,EQ,H1,H1] [[1,2,3,4,5,6,7,0,0,9,0,0]] (@HL C) (bN 177 Tl [EQ,H1,EQ,EQ,EQ,H1,H1] [[1,0,3,4,0,5,0,0]] (@Ns C) (bN 97 Tm [EQ,H1,EQ,H1,H1,H1,H1] [[1,0,3,0,0,0,0,0]] (@HN C) bO))
theorem asH (C:af):bB C (UN C) 145 (Lp [1,1,1,1,1,0,1,0,0,1,1,0,0,1,1,1,1,0,0,1,0,0,1,1,0,0] 145):=bP Tk [EQ,EQ,EQ,EQ,EQ,EQ,EQ,H1,EQ,H1,H1] [[1,2,3,4,5,6,7,0,0,9,0,0]] (@HL C) (bu aw)
theorem asI (C:af):bB C (UN C) 145 (Lp [1,1,1,1,1,0,1,0,0,1,1,0,0,1,1,1,1,0,0] 145):=bP Tl [EQ,H1,EQ,EQ,EQ,H1,H1] [[1,0,3,4,0,5,0,0]] (@Ns C) (bu (bC (asH C) aw))
theorem asJ (C:af):bB C (UN C) 145 (Lp [1,1,1,1,1,0,1,0,0] 145):=bP Tm [EQ,H1,EQ,H1,H1,H1,H1] [[1,0,3,0,0,0,0,0]] (@HN C) (bu (bC (asI C) aw))
noncomputable def aeu (C:af) (t:LV):Option LV:=
 bif (decide (0≤(t.length:Int)))&&((decide ((t.length:Int)≤(t.length:Int)))&&(Nat.ble (((t.length:Int).toNat)*1) aW)) then
  (Loop (Nu C t (t.length:Int)) (0,0,([]:LV),List.replicate ((t.length:Int).toNat) (V.bool false),([]:LV))).bind (un fun axV=>un fun ahC=>un fun (asK:Bool)=>un fun (asL:LV)=>un fun (tT:LV) (uU:LV)=>
   some [.list ab asL])
 else none
theorem asM {t:LV} {r:Option LV} (h:aeu CC t=r):CC LN [.list ag t]=r:=bQ (bC (asJ CC) aw) h
noncomputable def aev (C:af) (t:LV):Option LV:=
 (C LL [.list ag t]).bind fun r1=>
 bif (((V.nth r1 0).toInt):Int) != 0 then
  some [V.int .i64 ((V.nth r1 0).toInt)]
 else
  (C LN [.list ag t]).bind fun r2=>
  (C LM [.list ag t,.list ab ((V.nth r2 0).toList)]).bind fun r3=>
  bif !((V.nth r3 0).toBool) then
  some [V.int .i64 5]
  else
  some [V.int .i64 0]
theorem asN {t:LV} {r:Option LV} (h:aev CC t=r):CC F0 [.list ag t]=r:=bQ (L:=bO) aw h
noncomputable def aew (C:af) (t:LV):Option LV:=
 (C F0 [.list ag t]).bind fun r1=>
 some [.bool ((((V.nth r1 0).toInt):Int)==0)]
theorem asO {t:LV} {r:Option LV} (h:aew CC t=r):CC LO [.list ag t]=r:=bQ (L:=bO) aw h
theorem oH {n i:Nat} {g:Nat→V} (hi:i<n):idx (V.list ab (tab n g)).toList (i:Int)=some (g i):=by rw[V.ei];exact qp hi
def tG (K:Nat) (mul:Nat→Nat→Nat):LV:=tab K fun i=> .list ab (tab K fun j=>nV (mul i j))
structure Tb (K:Nat) (mul:Nat→Nat→Nat):Prop where
 k1:1≤K
 k4:K≤400
 lt: ∀i j,i<K→j<K→mul i j<K
def jL (K:Nat) (M:List Nat):LV:=tab K fun i=> .bool (decide (i∈M))
structure nc (K:Nat) (M:List Nat):Prop where
 nd:M.Nodup
 lt: ∀x∈M,x<K
theorem nc.le {K:Nat} {M:List Nat} (h:nc K M):M.length≤K:=by
 have:=AK (l₂:=List.range K) h.nd fun x hx=>iD.2 (h.lt x hx);simpa using this
theorem nc.add {K:Nat} {M:List Nat} (h:nc K M) {x:Nat} (hx:x<K):nc K (cZ M x):=⟨TG h.nd,fun y hy=>by
 unfold cZ at hy;split at hy
 ·exact h.lt y hy
 ·rcases eF.1 hy with hy|hy
  ·exact h.lt y hy
  ·rw[fu.1 hy];exact hx⟩
theorem UO {M:List Nat} {x y:Nat}:y∈cZ M x↔y∈M∨y=x:=by
 unfold cZ;split
 ·exact ⟨.inl,fun h=>h.elim id fun e=>by rw[e];assumption⟩
 ·rw[eF,fu]
theorem asP {K:Nat} {M:List Nat} {x:Nat} (h:x∉M):(jL K M).set x (.bool true)=jL K (cZ M x):=by
 unfold jL;rw[mH];refine dB fun j _=> ?_;by_cases c:j=x
 ·rw[aE c,cp (UO.2 (.inr c))]
 ·rw[aF c];by_cases c2:j∈M
  ·rw[cp c2,cp (UO.2 (.inl c2))]
  ·rw[da c2,da fun h=>(UO.1 h).elim c2 c]
section
variable {K:Nat} {mul:Nat→Nat→Nat} (h:Tb K mul)
theorem rj:(tG K mul).length=K:=fG
theorem mI {i:Nat} (hi:i<K):idx (tG K mul) (i:Int)=some (.list ab (tab K fun j=>nV (mul i j))):=qp hi
include h
theorem asQ:CC LL [.list ag (tG K mul)]=some [.int .i64 0]:=by
 have h1:=h.k1;have h4:=h.k4;refine asA ?_;unfold aer;rw[rj];refine bF (da (by omega)) (bF (by simp;omega) (bs (gx K (fun i=>(i:Int)) (.inr ((K:Int),false)) (fun i hi=> ?_) ?_) rfl))
 ·simp only[UI,HH];refine bT (bh hi) (bs (mI hi) ?_);rw[V.ei,fG,rj];refine bF (by simp) (bs (gx K (fun j=>(j:Int)) (.inr ((K:Int),false)) (fun j hj=> ?_) ?_) ?_)
  ·simp only[UH,HG];rw[rj];refine bT (bh hj) (bs (qp hj) (bF xx (bF (Db (h.lt i j hi hj)) ?_)));rw[br (by omega)]
  ·simp only[UH,HG];rw[aV (av _)];rfl
  ·rw[br (by omega)];rfl
 ·simp only[UI,HH];rw[aV (av _)];rfl
omit h in
theorem HO {M:List Nat} {x:Nat} (hx:x<K):(jL K M)[x]? =some (.bool (decide (x∈M))):=nq hx
omit h in
theorem UP {M:List Nat} (hM:nc K M) (h4:K≤400) {x:Nat} (hx:x<K):CC qX [.int .i64 (x:Int),.list ar (jL K M),.list ab (nS M)]=some [.list ar (jL K (cZ M x)),.list ab (nS (cZ M x))]:=by
 have hl:=hM.le;refine asF ?_;unfold aet;by_cases c:x∈M
 ·refine (bX (HO hx)).trans (bF (by simp[c]) ?_)
  rw[show cZ M x=M by rw[cZ,aE c]]
 ·refine (bX (HO hx)).trans (bT (by simp[c]) ((bX (HO hx)).trans (bT (cap (by rw[dy];simp;omega) (by omega)) ?_)))
  rw[show bj (jL K M) (x:Int) (.bool true)=jL K (cZ M x) from asP c,show cZ M x=M++[x] by rw[cZ,aF c]];simp[nS,nV]
theorem asR: ∃G:List Nat,CC LN [.list ag (tG K mul)]=some [.list ab (nS G)]∧(∀g∈G,g<K)∧G.length≤K:=by
 have h1:=h.k1;have h4:=h.k4;have l1: ∀{M0:List Nat} {k x:Nat} {a b c:Int} {d:LV},nc K M0→k<M0.length→x<K→∃M,nc K M∧M0 <+: M∧Loop (HM CC (tG K mul) a (x:Int) b c (((nS M0).drop 0).take ((((k+1:Nat):Int)).toNat-0)) ((((((k+1:Nat):Int)).toNat)-0:Int)) d) (0,jL K M0,nS M0)=some (((k+1:Nat):Int),false,jL K M,nS M):=by
  intro M0 k x a b c d HP hk hx;have hle:=HP.le;rw[Int.toNat_natCast,Nat.sub_zero,ud,Int.sub_zero,show (nS M0).take (k+1)=nS (M0.take (k+1)) by simp[nS,List.map_take]];have key:=jD (step:=HM CC (tG K mul) a (x:Int) b c (nS (M0.take (k+1))) ((k+1:Nat):Int) d) (fun i y=> ∃M,y=((i:Int),jL K M,nS M)∧nc K M∧M0 <+: M) (fun r=> ∃M,r=(((k+1:Nat):Int),false,jL K M,nS M)∧nc K M∧M0 <+: M) (k+1) 0 (0,jL K M0,nS M0) (fun i _ hi y hy=> ?_) (fun y hy=> ?_) ⟨M0,rfl,HP,rA _⟩
  ·obtain ⟨r,e,M,rfl,hM,hp⟩:=key;exact ⟨M,hM,hp,e⟩
  ·obtain ⟨M,rfl,hM,hp⟩:=hy;have bp:i<(M0.take (k+1)).length:=by rw[mN];omega
   have yY:(M0.take (k+1))[i]<K:=HP.lt _ (List.mem_of_mem_take (dm bp));have a1:=h.lt _ _ hx yY;have a2:=h.lt _ _ yY hx;simp only[HM,HL,un];refine ⟨_,bT (bh (by omega)) (bs (iw bp) (bs (mI hx) (bs (oH yY) (bs (UP hM h4 a1) (bs (mI yY) (bs (oH hx) (bs (UP (hM.add a1) h4 a2) rfl))))))),_,?_,(hM.add a1).add a2,hp.trans ((zJ _ _).trans (zJ _ _))⟩;rw[br (by omega)];rfl
  ·obtain ⟨M,rfl,hM,hp⟩:=hy;simp only[HM,HL,un];refine ⟨_,bF (aV (by omega)) rfl,M,?_,hM,hp⟩;rw[aV (by omega),dt]
 have l2: ∀{M0:List Nat} {k:Nat} {a b:Int} {d:LV},nc K M0→k≤M0.length→∃k' M,nc K M∧k'≤M.length∧M0 <+: M∧Loop (Nt CC (tG K mul) a b d) ((k:Int),jL K M0,nS M0)=some ((k':Int),false,jL K M,nS M):=by
  intro M0 k a b d HP hk;have key:=Lf (step:=Nt CC (tG K mul) a b d) (fun y=> ∃(k:Nat) (M:List Nat),y=((k:Int),jL K M,nS M)∧nc K M∧k≤M.length∧M0 <+: M) (fun y=>1000-y.1.toNat) (fun r=> ∃(k:Nat) (M:List Nat),r=((k:Int),false,jL K M,nS M)∧nc K M∧k≤M.length∧M0 <+: M) (fun y hy=> ?_) ((k:Int),jL K M0,nS M0) ⟨k,M0,rfl,HP,hk,rA _⟩
  ·obtain ⟨r,e,k',M,rfl,hM,eu,hp⟩:=key;exact ⟨k',M,hM,eu,hp,e⟩
  ·obtain ⟨k,M,rfl,hM,hk,hp⟩:=hy;have hle:=hM.le;simp only[Nt,Ns,un,aP];rw[dy];by_cases c:k<M.length
   ·obtain ⟨M',UQ,hp',e⟩:=l1 (a:=(k:Int)) (b:=a) (c:=b) (d:=d) hM c (hM.lt _ (dm c));refine .inl ⟨((k+1:Nat),jL K M',nS M'),bT (bh c) ?_,⟨k+1,M',rfl,UQ,by have:=hp'.length_le;omega,hp.trans hp'⟩,by simp only;omega⟩;refine ((congrArg (fun n:Nat=>bif decide (0≤(k:Int))&&decide ((k:Int)<(n:Int)) then _ else none) dy.symm)).trans ((bX (wP c)).trans ?_)
    rw[br (by omega)];exact bT (kh.2 ⟨cp (by omega),cp (by omega)⟩) (bs e rfl)
   ·refine .inr ⟨_,bF (aV (by omega)) rfl,k,M,?_,hM,hk,hp⟩;rw[aV (by omega)]
 have key:=jD (step:=Nu CC (tG K mul) (K:Int)) (fun i y=> ∃(k:Nat) (G M:List Nat),y=((k:Int),(i:Int),nS G,jL K M,nS M)∧nc K M∧k≤M.length∧(∀g∈G,g<K)∧G.length≤i) (fun r=> ∃(k:Nat) (G M:List Nat),r=((k:Int),(K:Int),false,nS G,jL K M,nS M)∧(∀g∈G,g<K)∧G.length≤K) K 0 (0,0,[],jL K [],[]) (fun i _ hi y hy=> ?_) (fun y hy=> ?_) ⟨0,[],[],rfl,⟨by simp,fun x hx=>(by cases hx)⟩,av _,fun g hg=>(by cases hg),av _⟩
 ·obtain ⟨r,e,k,G,M,rfl,hG,Nv⟩:=key;refine ⟨G,asM ?_,hG,Nv⟩;unfold aeu;rw[rj];refine bT (fO (by omega) (by omega)) ?_;rw[Int.toNat_natCast,qo,show (tab K fun _=>V.bool false)=jL K [] from dB fun j _=>by simp];exact bs e rfl
 ·obtain ⟨k,G,M,rfl,hM,hk,hG,Nv⟩:=hy;have zY:i<K:=by omega
  simp only[Nu,HN,un,aP];by_cases c:i∈M
  ·refine ⟨_,bT (bh zY) ((bX (HO zY)).trans (bT (by simp[c]) rfl)),k,G,M,?_,hM,hk,hG,by omega⟩;rw[br (by omega)]
  ·obtain ⟨k',M',UQ,eu,_,e⟩:=l2 (k:=k) (a:=(K:Int)) (b:=(i:Int)) (d:=nS (G++[i])) (hM.add zY) (by have:=(zJ M i).length_le;omega);have Ld:nS G++[V.int .i64 (i:Int)]=nS (G++[i]):=by simp[nS,nV]
   refine ⟨((k':Int),((i+1:Nat):Int),nS (G++[i]),jL K M',nS M'),bT (bh zY) ((bX (HO zY)).trans (bF (by simp[c]) (bT (cap (by rw[dy];simp;omega) (by omega)) (bs (UP hM h4 zY) ?_)))),k',G++[i],M',rfl,UQ,eu,fun g hg=> ?_,by simp;omega⟩
   ·rw[Ld];refine bs e ?_;rw[br (by omega)];rfl
   ·rcases eF.1 hg with hg|hg
    ·exact hG g hg
    ·rw[fu.1 hg];exact zY
 ·obtain ⟨k,G,M,rfl,hM,hk,hG,Nv⟩:=hy;rw[dt] at*
  simp only[Nu,HN,un,aP];refine ⟨_,bF (aV (av _)) rfl,k,G,M,?_,hG,Nv⟩;rw[aV (av _)]
section
variable (ha: ∀i j k,i<K→j<K→k<K→mul (mul i j) k=mul i (mul j k))
include ha
theorem asS {G:List Nat} (hG: ∀g∈G,g<K) (hl:G.length≤K):CC LM [.list ag (tG K mul),.list ab (nS G)]=some [.bool true]:=by
 have h4:=h.k4;have l2: ∀{g:Nat} {a b:Int} {c d:LV},g<K→Loop (Np CC (tG K mul) (g:Int) c a b (tG K mul) (K:Int) d) 0=some (.inr ((K:Int),false)):=by
  intro g a b c d hg;refine gx K (fun x=>(x:Int)) _ (fun x hx=> ?_) ?_
  ·have h1:=h.lt _ _ hx hg;simp only[Np,HJ];refine bT (bh hx) (bs (mI hx) (bs (oH hg) (bs (mI h1) (bs (mI hg) ?_))));rw[V.ei,V.ei,V.ei,fG];refine bs (gx K (fun y=>(y:Int)) (.inr ((K:Int),false)) (fun y hy=> ?_) ?_) ?_
   ·simp only[UJ,HI];refine bT (bh hy) (bs (qp hy) (bs (qp hy) (bs (qp (h.lt _ _ hg hy)) (bF ?_ ?_))))
    ·show (((mul (mul x g) y:Nat):Int) != ((mul x (mul g y):Nat):Int))=false;rw[ha _ _ _ hx hg hy];simp
    ·rw[br (by omega)]
   ·simp only[UJ,HI];rw[aV (av _)];rfl
   ·rw[br (by omega)];rfl
  ·simp only[Np,HJ];rw[aV (av _)];rfl
 refine asE ?_;unfold aes;rw[rj,dy];refine bT (fO (by omega) (by omega)) ?_;rw[Int.toNat_natCast];have key:=jD (step:=Nq CC (tG K mul) (nS G) (G.length:Int)) (fun i y=> ∃b:LV,y=((i:Int),b)∧b.length=K∧∀v∈b,∃c,v= .bool c) (fun r=> ∃b:LV,r= .inr ((G.length:Int),false,b)) G.length 0 (0,List.replicate K (V.bool false)) (fun i _ hi y hy=> ?_) (fun y hy=> ?_) ⟨_,rfl,by simp,fun v hv=>⟨false,(List.mem_replicate.1 hv).2⟩⟩
 ·obtain ⟨r,e,b,rfl⟩:=key;exact bs e rfl
 ·obtain ⟨b,rfl,hb,hv⟩:=hy;have bp:i<G.length:=by omega
  have hg:=hG _ (dm bp);have UR:G[i]<b.length:=by omega
  obtain ⟨c,hc⟩:=hv _ (dm UR);simp only[Nq,HK,un];have e0:b[((nV G[i]).toInt).toNat]? =some (.bool c):=by
   show b[G[i]]? =_;rw[bU UR,hc]
  have e1:((decide (0≤(nV G[i]).toInt))&&(decide ((nV G[i]).toInt<(b.length:Int))))=true:=ou UR;cases c with
  | true=>
   refine ⟨_,bT (bh bp) (bs (iw bp) (bT e1 (bs e0 (bT rfl rfl)))),b,?_,hb,hv⟩;rw[br (by omega)]
  | false=>
   refine ⟨(((i+1:Nat):Int),b.set G[i] (.bool true)),bT (bh bp) (bs (iw bp) (bT e1 (bs e0 (bF rfl (bT e1 (bs e0 ?_)))))),_,rfl,by simp[hb],fun v mU=> ?_⟩
   ·rw[rj];refine bs (l2 hg) ?_;rw[br (by omega)];rfl
   ·rcases DD mU with mU|mU
    ·exact hv v mU
    ·exact ⟨true,mU⟩
 ·obtain ⟨b,rfl,hb,hv⟩:=hy;simp only[Nq,HK,un];refine ⟨_,bF (aV (by omega)) rfl,b,?_⟩;rw[aV (by omega),dt]
theorem US:CC F0 [.list ag (tG K mul)]=some [.int .i64 0]:=by
 obtain ⟨G,e,hG,hl⟩:=asR h;refine asN ?_;unfold aev;exact bs (asQ h) (bF rfl (bs e (bs (asS h ha hG hl) (bF rfl rfl))))
theorem asT:CC LO [.list ag (tG K mul)]=some [.bool true]:=by
 refine asO ?_;unfold aew;exact bs (US h ha) rfl
end
end
noncomputable def Dp (C:af) (table:LV) (x n e:Int) {β:Type} (kn:Int→Option β) (kr:(Int×Bool)→Option β):Option β:=
 (idx table e).bind fun x1=>
 (idx x1.toList e).bind fun x2=>
 bif (x2.toInt:Int) != e then
  (idx table e).bind fun x3=>
  (idx x3.toList x).bind fun x4=>
  kn x4.toInt
 else
  kr (e,(x2.toInt:Int) != e)
noncomputable def Dq (C:af) (table:LV) (x n:Int):=fun e=>Dp C table x n e (fun y=>some (Sum.inl y)) (fun r=>some (Sum.inr r))
noncomputable def UT (C:af) (table:LV) (e g y:Int) {β:Type} (kn:Int→Option β) (kr:(Int×Bool)→Option β):Option β:=
 (idx table y).bind fun x9=>
 (idx x9.toList g).bind fun nU=>
 bif (nU.toInt:Int) != e then
  (idx table y).bind fun pH=>
  (idx pH.toList g).bind fun kR=>
  kn kR.toInt
 else
  kr (y,(nU.toInt:Int) != e)
noncomputable def asU (C:af) (table:LV) (e g:Int):=fun y=>UT C table e g y (fun y=>some (Sum.inl y)) (fun r=>some (Sum.inr r))
noncomputable def HQ (C:af) (table:LV) (x t54 y t55:Int) {β:Type} (kn:(Int×Int)→Option β) (kr:(Int×Int×Bool)→Option β):Option β:=
 bif decide (t55<t54) then
  (idx table y).bind fun J0=>
  (idx J0.toList x).bind fun J1=>
  kn (J1.toInt,wrap .i64 (t55+1))
 else
  kr (y,t55,decide (t55<t54))
noncomputable def HR (C:af) (table:LV) (x t54:Int):=un fun y t55=>HQ C table x t54 y t55 (fun y=>some (Sum.inl y)) (fun r=>some (Sum.inr r))
noncomputable def UU (C:af):cF:=bN 33 Tt [EQ,EQ,EQ,H1] [[1,2,3,0,0]] (@Dp C) (bN 113 Tu [EQ,EQ,H1,EQ] [[1,2,0,4,0]] (@UT C) (bN 177 Tv [EQ,EQ,H1,EQ,H1] [[1,2,0,4,0,0]] (@HQ C) bO))
theorem asV (C:af):bB C (UU C) 154 (Lp [1,1,0,0,0] 154):=bP Tt [EQ,EQ,EQ,H1] [[1,2,3,0,0]] (@Dp C) (bu aw)
theorem asW (C:af):bB C (UU C) 154 (Lp [1,1,1,1,0,1,0,1,0,0,0] 154):=bP Tu [EQ,EQ,H1,EQ] [[1,2,0,4,0]] (@UT C) (bu aw)
theorem asX (C:af):bB C (UU C) 154 (Lp [1,1,1,1,1,0,1,0,0] 154):=bP Tv [EQ,EQ,H1,EQ,H1] [[1,2,0,4,0,0]] (@HQ C) (bu aw)
noncomputable def aex (C:af) (table:LV) (x n:Int):Option LV:=
 (Loop (Dq C table x n) x).bind (un fun (vQ:Int) (j7:Bool)=>
  bif decide (n<0) then
   (idx table vQ).bind fun x7=>
   (idx x7.toList x).bind fun x8=>
   (Loop (asU C table vQ x8.toInt) vQ).bind (un fun (asY:Int) (uS:Bool)=>
    some [V.int .i64 asY])
  else
   (Loop (HR C table x n) (vQ,0)).bind (un fun asZ=>un fun (UL:Int) (UM:Bool)=>
    some [V.int .i64 asZ]))
theorem as0 {table:LV} {x n:Int} {r:Option LV} (h:aex CC table x n=r):CC Gc [.list ag table,V.int .i64 x,V.int .i64 n]=r:=bQ (bC (asV CC) (bC (asW CC) (bC (asX CC) aw))) h
def pw (mul:Nat→Nat→Nat) (x:Nat):Nat→Nat
 | 0=>x
 | k+1=>mul (pw mul x k) x
theorem as1 {K:Nat} {f:Nat→Nat} (h: ∀i,f i<K): ∃i j,i<j∧f i=f j:=by
 refine Classical.byContradiction fun hn=> ?_;have bH: ∀i j,i<j→f i≠f j:=fun i j Kz e=>hn ⟨i,j,Kz,e⟩;have hd:((List.range (K+1)).map f).Nodup:=by
  refine List.pairwise_map.2 (List.nodup_range.imp_of_mem fun {a b} _ _ Bk e=> ?_);rcases Nat.lt_or_gt_of_ne Bk with c|c
  ·exact bH a b c e
  ·exact bH b a c e.symm
 have:=AK (l₂:=List.range K) hd fun x hx=>by
  obtain ⟨i,_,rfl⟩:=iQ.1 hx;exact iD.2 (h i)
 simp at this;omega
section
variable {K:Nat} {mul:Nat→Nat→Nat} (h:Tb K mul) (ha: ∀i j k,i<K→j<K→k<K→mul (mul i j) k=mul i (mul j k)) {x:Nat} (hx:x<K)
include h hx
theorem Dr: ∀k,pw mul x k<K
 | 0=>hx
 | k+1=>h.lt _ _ (Dr k) hx
include ha
theorem aey (m:Nat): ∀n,mul (pw mul x m) (pw mul x n)=pw mul x (m+n+1)
 | 0=>rfl
 | n+1=>by
  show mul (pw mul x m) (mul (pw mul x n) x)=mul (pw mul x (m+n+1)) x;rw[←ha _ _ _ (Dr h hx m) (Dr h hx n) hx,aey m n]
theorem as2: ∃k,mul (pw mul x k) (pw mul x k)=pw mul x k:=by
 obtain ⟨i,j,Kz,e⟩:=as1 (Dr h hx);have step: ∀n,pw mul x (i+n)=pw mul x (j+n):=fun n=>by
  induction n with
  | zero=>exact e
  | succ n ih=>exact congrArg (fun y=>mul y x) ih
 have per: ∀c m,i≤m→pw mul x (m+(j-i)*c)=pw mul x m:=fun c=>by
  induction c with
  | zero=>intro m _;rw[Nat.mul_zero,Nat.add_zero]
  | succ c ih=>
   intro m hm;have h1:=step (m-i);rw[show i+(m-i)=m by omega,show j+(m-i)=m+(j-i) by omega] at h1;rw[h1,←ih (m+(j-i)) (by omega),Nat.mul_succ,xG,Nat.add_comm (j-i)]
 have hp:0<(j-i)*(i+1):=Nat.mul_pos (by omega) (by omega);have p9:i+1≤(j-i)*(i+1):=Nat.le_mul_of_pos_left _ (by omega);refine ⟨(j-i)*(i+1)-1,?_⟩;rw[aey h ha hx,show (j-i)*(i+1)-1+((j-i)*(i+1)-1)+1=((j-i)*(i+1)-1)+(j-i)*(i+1) by omega];exact per (i+1) _ (by omega)
theorem as3 {n:Nat} (hn:n≤100): ∃y,y<K∧CC Gc [.list ag (tG K mul),.int .i64 (x:Int),.int .i64 (n:Int)]=some [.int .i64 (y:Int)]:=by
 have h4:=h.k4;have l1: ∃e,e<K∧Loop (Dq CC (tG K mul) (x:Int) (n:Int)) (x:Int)=some ((e:Int),false):=by
  obtain ⟨k,hk⟩:=as2 h ha hx;have key: ∀d i,i+d=k→∃e,e<K∧Loop (Dq CC (tG K mul) (x:Int) (n:Int)) ((pw mul x i:Nat):Int)=some ((e:Int),false):=by
   intro d
   induction d with
   | zero=>
    intro i hi;obtain rfl:i=k:=by omega
    have hl:=Dr h hx i;refine ⟨pw mul x i,hl,jX ?_⟩;simp only[Dq,Dp];refine bs (mI hl) (bs (oH hl) (bF ?_ ?_))
    ·show (((mul (pw mul x i) (pw mul x i):Nat):Int) != ((pw mul x i:Nat):Int))=false;rw[hk];simp
    ·show some (Sum.inr (((pw mul x i:Nat):Int),((mul (pw mul x i) (pw mul x i):Nat):Int) != ((pw mul x i:Nat):Int)))=_;rw[hk];simp
   | succ d ih=>
    intro i hi;have hl:=Dr h hx i;by_cases c:mul (pw mul x i) (pw mul x i)=pw mul x i
    ·refine ⟨pw mul x i,hl,jX ?_⟩;simp only[Dq,Dp];refine bs (mI hl) (bs (oH hl) (bF ?_ ?_))
     ·show (((mul (pw mul x i) (pw mul x i):Nat):Int) != ((pw mul x i:Nat):Int))=false;rw[c];simp
     ·show some (Sum.inr (((pw mul x i:Nat):Int),((mul (pw mul x i) (pw mul x i):Nat):Int) != ((pw mul x i:Nat):Int)))=_;rw[c];simp
    ·obtain ⟨e,he,h2⟩:=ih (i+1) (by omega);refine ⟨e,he,(iR ?_).trans h2⟩;simp only[Dq,Dp];refine bs (mI hl) (bs (oH hl) (bT ?_ (bs (mI hl) (bs (oH hx) rfl))));show (((mul (pw mul x i) (pw mul x i):Nat):Int) != ((pw mul x i:Nat):Int))=true;rw[bne_iff_ne];exact fun e=>c (by exact_mod_cast e)
  exact key k 0 (dt _)
 obtain ⟨e,he,e1⟩:=l1;have l3: ∃y,y<K∧Loop (HR CC (tG K mul) (x:Int) (n:Int)) ((e:Int),0)=some ((y:Int),(n:Int),false):=by
  have key:=jD (step:=HR CC (tG K mul) (x:Int) (n:Int)) (fun i s=> ∃y:Nat,y<K∧s=((y:Int),(i:Int))) (fun r=> ∃y:Nat,y<K∧r=((y:Int),(n:Int),false)) n 0 ((e:Int),0) (fun i _ hi s hs=> ?_) (fun s hs=> ?_) ⟨e,he,rfl⟩
  ·obtain ⟨r,e2,y,hy,rfl⟩:=key;exact ⟨y,hy,e2⟩
  ·obtain ⟨y,hy,rfl⟩:=hs;simp only[HR,HQ,un];refine ⟨_,bT (bh (by omega)) (bs (mI hy) (bs (oH hx) rfl)),mul y x,h.lt _ _ hy hx,?_⟩;rw[br (by omega)];rfl
  ·obtain ⟨y,hy,rfl⟩:=hs;rw[dt] at*
   simp only[HR,HQ,un];refine ⟨_,bF (aV (av _)) rfl,y,hy,?_⟩;rw[aV (av _)]
 obtain ⟨y,hy,e3⟩:=l3;refine ⟨y,hy,as0 ?_⟩;unfold aex;refine bs e1 ?_;simp only[un];refine bF xx ?_;exact bs e3 rfl
end
noncomputable def HS (C:af) (table t18:LV) (t19 t20:Int) (t24:LV) (t25 t26 t48:Int) (fH:LV) (fI:Int) (eY eS gJ gK iy iz iA iB gU gW gX:LV) (iu dx t49:Int) (lists:LV) {β:Type} (kn:(Int×LV)→Option β) (kr:(Int×Bool×LV)→Option β):Option β:=
 bif decide (t49<t48) then
  (C Gc [.list ag table,V.int .i64 t49,V.int .i64 dx]).bind fun r3=>
  aP lists t49 fun x4=>
  kn (wrap .i64 (t49+1),bj lists t49 (V.int .i64 ((V.nth r3 0).toInt)))
 else
  kr (t49,decide (t49<t48),lists)
noncomputable def Nw (C:af) (table t18:LV) (t19 t20:Int) (t24:LV) (t25 t26 t48:Int) (fH:LV) (fI:Int) (eY eS gJ gK iy iz iA iB gU gW gX:LV) (iu dx:Int):=un fun t49 lists=>HS C table t18 t19 t20 t24 t25 t26 t48 fH fI eY eS gJ gK iy iz iA iB gU gW gX iu dx t49 lists (fun y=>some (Sum.inl y)) (fun r=>some (Sum.inr r))
noncomputable def HT (C:af) (table t18:LV) (t19 t20:Int) (t24:LV) (t25:Int) (fH:LV) (fI t26:Int) (eY eS gJ gK iy iz iA iB gU gW gX:LV) {β:Type} (kn:(Int×LV×LV×LV×LV×LV×LV×LV×LV×LV×LV×LV)→Option β) (kr:(Int×Bool×LV×LV×LV×LV×LV×LV×LV×LV×LV×LV×LV)→Option β):Option β:=
 bif decide (t26<t25) then
  (idx t24 t26).bind fun x2=>
  bif (((x2.cell 0).toInt):Int) != 3 then
  kn (wrap .i64 (t26+1),eY,eS,gJ,gK,iy,iz,iA,iB,gU,gW,gX)
  else
  bif (decide (0≤(wrap .i64 (((x2.cell 1).toInt)+1))))&&(decide ((wrap .i64 (((x2.cell 1).toInt)+1))<11)) then
   bif (Nat.beq (2+(((wrap .i64 (((x2.cell 1).toInt)+1):Int).toNat)*1)) 2||(Nat.beq (2+(((wrap .i64 (((x2.cell 1).toInt)+1):Int).toNat)*1)) 3||(Nat.beq (2+(((wrap .i64 (((x2.cell 1).toInt)+1):Int).toNat)*1)) 4||(Nat.beq (2+(((wrap .i64 (((x2.cell 1).toInt)+1):Int).toNat)*1)) 5||(Nat.beq (2+(((wrap .i64 (((x2.cell 1).toInt)+1):Int).toNat)*1)) 6||(Nat.beq (2+(((wrap .i64 (((x2.cell 1).toInt)+1):Int).toNat)*1)) 7||(Nat.beq (2+(((wrap .i64 (((x2.cell 1).toInt)+1):Int).toNat)*1)) 8||(Nat.beq (2+(((wrap .i64 (((x2.cell 1).toInt)+1):Int).toNat)*1)) 9||(Nat.beq (2+(((wrap .i64 (((x2.cell 1).toInt)+1):Int).toNat)*1)) 10||(Nat.beq (2+(((wrap .i64 (((x2.cell 1).toInt)+1):Int).toNat)*1)) 11||(Nat.beq (2+(((wrap .i64 (((x2.cell 1).toInt)+1):Int).toNat)*1)) 12||false))))))))))) then
   bif !(Nat.beq (bif Nat.beq (2+(((wrap .i64 (((x2.cell 1).toInt)+1):Int).toNat)*1)) 2 then eY else (bif Nat.beq (2+(((wrap .i64 (((x2.cell 1).toInt)+1):Int).toNat)*1)) 3 then eS else (bif Nat.beq (2+(((wrap .i64 (((x2.cell 1).toInt)+1):Int).toNat)*1)) 4 then gJ else (bif Nat.beq (2+(((wrap .i64 (((x2.cell 1).toInt)+1):Int).toNat)*1)) 5 then gK else (bif Nat.beq (2+(((wrap .i64 (((x2.cell 1).toInt)+1):Int).toNat)*1)) 6 then iy else (bif Nat.beq (2+(((wrap .i64 (((x2.cell 1).toInt)+1):Int).toNat)*1)) 7 then iz else (bif Nat.beq (2+(((wrap .i64 (((x2.cell 1).toInt)+1):Int).toNat)*1)) 8 then iA else (bif Nat.beq (2+(((wrap .i64 (((x2.cell 1).toInt)+1):Int).toNat)*1)) 9 then iB else (bif Nat.beq (2+(((wrap .i64 (((x2.cell 1).toInt)+1):Int).toNat)*1)) 10 then gU else (bif Nat.beq (2+(((wrap .i64 (((x2.cell 1).toInt)+1):Int).toNat)*1)) 11 then gW else (bif Nat.beq (2+(((wrap .i64 (((x2.cell 1).toInt)+1):Int).toNat)*1)) 12 then gX else ([]:LV)))))))))))).length 0) then
    kn (wrap .i64 (t26+1),eY,eS,gJ,gK,iy,iz,iA,iB,gU,gW,gX)
   else
    bif (decide (0≤(table.length:Int)))&&((decide ((table.length:Int)≤(table.length:Int)))&&(Nat.ble (((table.length:Int).toNat)*8) aW)) then
    (Loop (Nw C table t18 t19 t20 t24 t25 t26 ((List.replicate ((table.length:Int).toNat) (V.int .i64 0)).length:Int) fH fI eY eS gJ gK iy iz iA iB gU gW gX ((x2.cell 0).toInt) ((x2.cell 1).toInt)) (0,List.replicate ((table.length:Int).toNat) (V.int .i64 0))).bind (un fun kC=>un fun (j7:Bool) (rm:LV)=>
     bif (decide (0≤(wrap .i64 (((x2.cell 1).toInt)+1))))&&(decide ((wrap .i64 (((x2.cell 1).toInt)+1))<11)) then
      bif (Nat.beq (2+(((wrap .i64 (((x2.cell 1).toInt)+1):Int).toNat)*1)) 2||(Nat.beq (2+(((wrap .i64 (((x2.cell 1).toInt)+1):Int).toNat)*1)) 3||(Nat.beq (2+(((wrap .i64 (((x2.cell 1).toInt)+1):Int).toNat)*1)) 4||(Nat.beq (2+(((wrap .i64 (((x2.cell 1).toInt)+1):Int).toNat)*1)) 5||(Nat.beq (2+(((wrap .i64 (((x2.cell 1).toInt)+1):Int).toNat)*1)) 6||(Nat.beq (2+(((wrap .i64 (((x2.cell 1).toInt)+1):Int).toNat)*1)) 7||(Nat.beq (2+(((wrap .i64 (((x2.cell 1).toInt)+1):Int).toNat)*1)) 8||(Nat.beq (2+(((wrap .i64 (((x2.cell 1).toInt)+1):Int).toNat)*1)) 9||(Nat.beq (2+(((wrap .i64 (((x2.cell 1).toInt)+1):Int).toNat)*1)) 10||(Nat.beq (2+(((wrap .i64 (((x2.cell 1).toInt)+1):Int).toNat)*1)) 11||(Nat.beq (2+(((wrap .i64 (((x2.cell 1).toInt)+1):Int).toNat)*1)) 12||false))))))))))) then
      bif Nat.blt 0 rm.length&&true then
       kn (wrap .i64 (t26+1),(bif Nat.beq (2+(((wrap .i64 (((x2.cell 1).toInt)+1):Int).toNat)*1)) 2 then rm else eY),(bif Nat.beq (2+(((wrap .i64 (((x2.cell 1).toInt)+1):Int).toNat)*1)) 3 then rm else eS),(bif Nat.beq (2+(((wrap .i64 (((x2.cell 1).toInt)+1):Int).toNat)*1)) 4 then rm else gJ),(bif Nat.beq (2+(((wrap .i64 (((x2.cell 1).toInt)+1):Int).toNat)*1)) 5 then rm else gK),(bif Nat.beq (2+(((wrap .i64 (((x2.cell 1).toInt)+1):Int).toNat)*1)) 6 then rm else iy),(bif Nat.beq (2+(((wrap .i64 (((x2.cell 1).toInt)+1):Int).toNat)*1)) 7 then rm else iz),(bif Nat.beq (2+(((wrap .i64 (((x2.cell 1).toInt)+1):Int).toNat)*1)) 8 then rm else iA),(bif Nat.beq (2+(((wrap .i64 (((x2.cell 1).toInt)+1):Int).toNat)*1)) 9 then rm else iB),(bif Nat.beq (2+(((wrap .i64 (((x2.cell 1).toInt)+1):Int).toNat)*1)) 10 then rm else gU),(bif Nat.beq (2+(((wrap .i64 (((x2.cell 1).toInt)+1):Int).toNat)*1)) 11 then rm else gW),(bif Nat.beq (2+(((wrap .i64 (((x2.cell 1).toInt)+1):Int).toNat)*1)) 12 then rm else gX))
      else none
      else none
     else none)
    else none
   else none
  else none
 else
  kr (t26,decide (t26<t25),eY,eS,gJ,gK,iy,iz,iA,iB,gU,gW,gX)
noncomputable def HU (C:af) (table t18:LV) (t19 t20:Int) (t24:LV) (t25:Int) (fH:LV) (fI:Int):=un fun t26=>un fun eY=>un fun eS=>un fun gJ=>un fun gK=>un fun iy=>un fun iz=>un fun iA=>un fun iB=>un fun gU=>un fun gW gX=>HT C table t18 t19 t20 t24 t25 fH fI t26 eY eS gJ gK iy iz iA iB gU gW gX (fun y=>some (Sum.inl y)) (fun r=>some (Sum.inr r))
noncomputable def Ds (C:af) (table t18:LV) (t19:Int) (fH:LV) (fI t20:Int) (eY eS gJ gK iy iz iA iB gU gW gX:LV) {β:Type} (kn:(Int×LV×LV×LV×LV×LV×LV×LV×LV×LV×LV×LV)→Option β) (kr:(Int×Bool×LV×LV×LV×LV×LV×LV×LV×LV×LV×LV×LV)→Option β):Option β:=
 bif decide (t20<t19) then
  (idx t18 t20).bind fun x1=>
  (Loop (HU C table t18 t19 t20 x1.toList (x1.toList.length:Int) fH fI) (0,eY,eS,gJ,gK,iy,iz,iA,iB,gU,gW,gX)).bind (un fun wQ=>un fun (vK:Bool)=>un fun (gU:LV)=>un fun (gW:LV)=>un fun (gX:LV)=>un fun (as4:LV)=>un fun (as5:LV)=>un fun (as6:LV)=>un fun (as7:LV)=>un fun (as8:LV)=>un fun (as9:LV)=>un fun (ata:LV) (atb:LV)=>
   kn (wrap .i64 (t20+1),gU,gW,gX,as4,as5,as6,as7,as8,as9,ata,atb))
 else
  kr (t20,decide (t20<t19),eY,eS,gJ,gK,iy,iz,iA,iB,gU,gW,gX)
noncomputable def zZ (C:af) (table t18:LV) (t19:Int) (fH:LV) (fI:Int):=un fun t20=>un fun eY=>un fun eS=>un fun gJ=>un fun gK=>un fun iy=>un fun iz=>un fun iA=>un fun iB=>un fun gU=>un fun gW gX=>Ds C table t18 t19 fH fI t20 eY eS gJ gK iy iz iA iB gU gW gX (fun y=>some (Sum.inl y)) (fun r=>some (Sum.inr r))
noncomputable def UW (C:af):cF:=bN 177 S0 [EQ,EQ,EQ,EQ,EQ,EQ,EQ,EQ,H1,EQ,EQ,EQ,EQ,EQ,EQ,EQ,EQ,EQ,EQ,EQ,EQ,EQ,EQ,EQ,H1] [[1,2,3,4,5,6,7,8,0,0,10,11,12,13,14,15,16,17,18,19,20,21,22,23,24,0]] (@HS C) (bN 97 S3 [EQ,EQ,EQ,EQ,EQ,EQ,H1,EQ,EQ,H1,H1,H1,H1,H1,H1,H1,H1,H1,H1,H1] [[1,2,3,4,5,6,0,0,8,9,0,0,0,0,0,0,0,0,0,0,0]] (@HT C) (bN 49 S4 [EQ,EQ,EQ,H1,EQ,EQ,H1,H1,H1,H1,H1,H1,H1,H1,H1,H1,H1] [[1,2,3,0,0,5,6,0,0,0,0,0,0,0,0,0,0,0]] (@Ds C) bO))
theorem atc (C:af):bB C (UW C) 113 (Lp [1,1,0,1,0,0,1,1,0,0,1,1,0,0,1,1,0,0,1,1,1,0,1,0,0] 113):=bP S0 [EQ,EQ,EQ,EQ,EQ,EQ,EQ,EQ,H1,EQ,EQ,EQ,EQ,EQ,EQ,EQ,EQ,EQ,EQ,EQ,EQ,EQ,EQ,EQ,H1] [[1,2,3,4,5,6,7,8,0,0,10,11,12,13,14,15,16,17,18,19,20,21,22,23,24,0]] (@HS C) (bu aw)
theorem atd (C:af):bB C (UW C) 113 (Lp [1,1,0,1,0,0,1,1,0,0,1,1,0,0] 113):=bP S3 [EQ,EQ,EQ,EQ,EQ,EQ,H1,EQ,EQ,H1,H1,H1,H1,H1,H1,H1,H1,H1,H1,H1] [[1,2,3,4,5,6,0,0,8,9,0,0,0,0,0,0,0,0,0,0,0]] (@HT C) (bu (bC (atc C) aw))
theorem ate (C:af):bB C (UW C) 113 (Lp [1,1,0,1,0,0] 113):=bP S4 [EQ,EQ,EQ,H1,EQ,EQ,H1,H1,H1,H1,H1,H1,H1,H1,H1,H1,H1] [[1,2,3,0,0,5,6,0,0,0,0,0,0,0,0,0,0,0]] (@Ds C) (bu (bC (atd C) aw))
noncomputable def aez (C:af) (table:LV) (one:Int) (HV:LV):Option LV:=
 (Loop (zZ C table HV (HV.length:Int) table one) (0,([]:LV),([]:LV),([]:LV),([]:LV),([]:LV),([]:LV),([]:LV),([]:LV),([]:LV),([]:LV),([]:LV))).bind (un fun asK=>un fun (ar9:Bool)=>un fun (atf:LV)=>un fun (atg:LV)=>un fun (ath:LV)=>un fun (ati:LV)=>un fun (atj:LV)=>un fun (atk:LV)=>un fun (atl:LV)=>un fun (atm:LV)=>un fun (atn:LV)=>un fun (ato:LV) (atp:LV)=>
  some [.list ag table,V.int .i64 one,.list ab atf,.list ab atg,.list ab ath,.list ab ati,.list ab atj,.list ab atk,.list ab atl,.list ab atm,.list ab atn,.list ab ato,.list ab atp])
theorem atq {table:LV} {one:Int} {HV:LV} {r:Option LV} (h:aez CC table one HV=r):CC F4 [.list ag table,V.int .i64 one,.list Gf HV]=r:=bQ (bC (ate CC) aw) h
def cb (s:Nat×Nat):V:= .agg [.int .i64 (s.1:Int),.int .i64 (s.2:Int)]
def PL (K:Nat) (l:LV):Prop:= ∃f:Nat→Nat,l=tab K (fun i=>nV (f i))∧∀i,i<K→f i<K
def PN (K:Nat) (l:LV):Prop:=l=[]∨PL K l
theorem PL.len {K:Nat} {l:LV} (h:PL K l):l.length=K:=by
 obtain ⟨f,rfl,_⟩:=h;exact fG
def nw (i:Int) (A B:LV):Int×LV×LV×LV×LV×LV×LV×LV×LV×LV×LV×LV:=(i,[],A,B,[],[],[],[],[],[],[],[])
def fy (s:Nat×Nat):Prop:=s.1≤3∧(s.1=3→s.2=0∨s.2=1)
theorem aeA {p:List (Nat×Nat)} {i:Nat} (hi:i<p.length):idx (p.map cb) (i:Int)=some (cb p[i]):=by
 rw[ym rfl];simp[hi]
def qq (K:Nat) (p:List (Nat×Nat)) (k:Nat) (A B:LV):Prop:= ∀j,j<k→j<p.length→(p.getD j (0,0)).1=3→((p.getD j (0,0)).2=0→PL K A)∧((p.getD j (0,0)).2=1→PL K B)
section
variable {K:Nat} {mul:Nat→Nat→Nat} (h:Tb K mul) (ha: ∀i j k,i<K→j<K→k<K→mul (mul i j) k=mul i (mul j k))
include h ha
theorem aeB {n:Nat} (hn:n≤1) {t18 t24:LV} {t19 t20 t25 t26:Int} {m0 m2 m3 m4 m5 m6 m7 m8 m9 m10 m11 m12:LV} {m1 s0:Int}: ∃l,PL K l∧Loop (Nw CC (tG K mul) t18 t19 t20 t24 t25 t26 (K:Int) m0 m1 m2 m3 m4 m5 m6 m7 m8 m9 m10 m11 m12 s0 (n:Int)) (0,List.replicate K (V.int .i64 0))=some ((K:Int),false,l):=by
 have h4:=h.k4;have hex: ∀x,∃y,x<K→y<K∧CC Gc [.list ag (tG K mul),.int .i64 (x:Int),.int .i64 (n:Int)]=some [.int .i64 (y:Int)]:=fun x=>by
  by_cases c:x<K
  ·obtain ⟨y,h1,h2⟩:=as3 h ha c (n:=n) (by omega);exact ⟨y,fun _=>⟨h1,h2⟩⟩
  ·exact ⟨0,fun c2=>absurd c2 c⟩
 obtain ⟨f,hf⟩:=Classical.axiomOfChoice hex;refine ⟨tab K fun i=>nV (f i),⟨f,rfl,fun i hi=>(hf i hi).1⟩,?_⟩;refine tW (fun i a=>((i:Int),a)) K (fun i=>nV (f i)) (List.replicate K (V.int .i64 0)) (by simp) (fun a=>((K:Int),false,a)) (fun i hi a hl=> ?_) ?_
 ·simp only[Nw,HS,un,aP,bj];refine bT (bh hi) (bs (hf i hi).2 ((ri (by omega)).trans ?_));rw[br (by omega),Int.toNat_natCast];rfl
 ·simp only[Nw,HS,un];refine bF (aV (av _)) ?_;rw[aV (av _)]
theorem aeC {p:List (Nat×Nat)} (hp: ∀s∈p,fy s) (hl:p.length≤1000) {A B:LV} (hA:PN K A) (hB:PN K B) {t18 m0:LV} {t19 t20 m1:Int}: ∃A' B',PN K A'∧PN K B'∧(PL K A→PL K A')∧(PL K B→PL K B')∧qq K p p.length A' B'∧
  Loop (HU CC (tG K mul) t18 t19 t20 (p.map cb) (p.length:Int) m0 m1) (nw 0 A B)=some ((p.length:Int),false,[],A',B',[],[],[],[],[],[],[],[]):=by
 have h1:=h.k1;have h4:=h.k4;have key:=jD (step:=HU CC (tG K mul) t18 t19 t20 (p.map cb) (p.length:Int) m0 m1) (fun i y=> ∃A' B',PN K A'∧PN K B'∧(PL K A→PL K A')∧(PL K B→PL K B')∧qq K p i A' B'∧y=nw (i:Int) A' B')
  (fun r=> ∃A' B',PN K A'∧PN K B'∧(PL K A→PL K A')∧(PL K B→PL K B')∧qq K p p.length A' B'∧r=((p.length:Int),false,[],A',B',[],[],[],[],[],[],[],[])) p.length 0 (nw 0 A B) (fun i _ hi y hy=> ?_) (fun y hy=> ?_) ⟨A,B,hA,hB,id,id,fun j hj=>(by omega),rfl⟩
 ·obtain ⟨r,e,A',B',a1,a2,a3,a4,a5,rfl⟩:=key;exact ⟨A',B',a1,a2,a3,a4,a5,e⟩
 ·obtain ⟨A',B',a1,a2,a3,a4,a5,rfl⟩:=hy;have bp:i<p.length:=by omega
  have hs:=hp _ (dm bp);have hg:p.getD i (0,0)=p[i]:=by rw[pL,bU bp,Option.getD_some]
  have jV:=aeA bp;generalize Ld:p[i]=s at hs hg jV;obtain ⟨k,n⟩:=s;simp only[HU,HT,un,nw];by_cases ck:k=3
  case neg=>
   refine ⟨_,bT (bh bp) (bs jV (bT ?_ rfl)),A',B',a1,a2,a3,a4,fun j hj dh hk=> ?_,?_⟩
   ·show (((k:Nat):Int) != 3)=true;rw[bne_iff_ne];omega
   ·by_cases cj:j=i
    ·rw[cj,hg] at hk;exact absurd hk ck
    ·exact a5 j (by omega) dh hk
   ·rw[br (by omega)]
  subst ck;have eQ: ∀{l:LV},PL K l→Nat.beq l.length 0=false:=fun {l} hl=>by
   rw[hl.len];cases hb:Nat.beq K 0 with
   | false=>rfl
   | true=>rw[aK] at hb;omega
  rcases hs.2 rfl with z0|z0
  ·have z0:n=0:=z0;subst z0;rcases a1 with rfl|UX
   ·obtain ⟨l,sF,el⟩:=aeB h ha (n:=0) (by omega) (t18:=t18) (t24:=p.map cb) (t19:=t19) (t20:=t20) (t25:=(p.length:Int)) (t26:=(i:Int)) (m0:=m0) (m1:=m1) (m2:=[]) (m3:=[]) (m4:=B') (m5:=[]) (m6:=[]) (m7:=[]) (m8:=[]) (m9:=[]) (m10:=[]) (m11:=[]) (m12:=[]) (s0:=3);have aY:Nat.blt 0 l.length=true:=by rw[sF.len,mK];omega
    refine ⟨nw ((i+1:Nat):Int) l B',bT (bh bp) (bs jV (bF rfl (bT rfl (bT rfl (bF rfl ?_))))),l,B',.inr sF,a2,fun _=>sF,a4,fun j hj dh hk=> ?_,rfl⟩
    ·rw[rj];refine bT (fO (by omega) (by omega)) ?_;rw[Int.toNat_natCast,v5];refine bs el ?_;simp only[un];refine bT rfl (bT rfl (bT (by rw[aY];rfl) ?_));rw[br (by omega)];rfl
    ·by_cases cj:j=i
     ·rw[cj,hg];exact ⟨fun _=>sF,fun e=>(by cases e)⟩
     ·exact ⟨fun _=>sF,(a5 j (by omega) dh hk).2⟩
   ·refine ⟨nw ((i+1:Nat):Int) A' B',bT (bh bp) (bs jV (bF rfl (bT rfl (bT rfl (bT ?_ ?_))))),A',B',.inr UX,a2,a3,a4,fun j hj dh hk=> ?_,rfl⟩
    ·show (!(Nat.beq A'.length 0))=true;rw[eQ UX];rfl
    ·rw[br (by omega)];rfl
    ·by_cases cj:j=i
     ·rw[cj,hg];exact ⟨fun _=>UX,fun e=>(by cases e)⟩
     ·exact a5 j (by omega) dh hk
  ·have z0:n=1:=z0;subst z0;rcases a2 with rfl|UY
   ·obtain ⟨l,sF,el⟩:=aeB h ha (n:=1) (by omega) (t18:=t18) (t24:=p.map cb) (t19:=t19) (t20:=t20) (t25:=(p.length:Int)) (t26:=(i:Int)) (m0:=m0) (m1:=m1) (m2:=[]) (m3:=A') (m4:=[]) (m5:=[]) (m6:=[]) (m7:=[]) (m8:=[]) (m9:=[]) (m10:=[]) (m11:=[]) (m12:=[]) (s0:=3);have aY:Nat.blt 0 l.length=true:=by rw[sF.len,mK];omega
    refine ⟨nw ((i+1:Nat):Int) A' l,bT (bh bp) (bs jV (bF rfl (bT rfl (bT rfl (bF rfl ?_))))),A',l,a1,.inr sF,a3,fun _=>sF,fun j hj dh hk=> ?_,rfl⟩
    ·rw[rj];refine bT (fO (by omega) (by omega)) ?_;rw[Int.toNat_natCast,v5];refine bs el ?_;simp only[un];refine bT rfl (bT rfl (bT (by rw[aY];rfl) ?_));rw[br (by omega)];rfl
    ·by_cases cj:j=i
     ·rw[cj,hg];exact ⟨fun e=>(by cases e),fun _=>sF⟩
     ·exact ⟨(a5 j (by omega) dh hk).1,fun _=>sF⟩
   ·refine ⟨nw ((i+1:Nat):Int) A' B',bT (bh bp) (bs jV (bF rfl (bT rfl (bT rfl (bT ?_ ?_))))),A',B',a1,.inr UY,a3,a4,fun j hj dh hk=> ?_,rfl⟩
    ·show (!(Nat.beq B'.length 0))=true;rw[eQ UY];rfl
    ·rw[br (by omega)];rfl
    ·by_cases cj:j=i
     ·rw[cj,hg];exact ⟨fun e=>(by cases e),fun _=>UY⟩
     ·exact a5 j (by omega) dh hk
 ·obtain ⟨A',B',a1,a2,a3,a4,a5,rfl⟩:=hy;rw[dt] at*
  simp only[HU,HT,un,nw];exact ⟨_,bF (aV (av _)) rfl,A',B',a1,a2,a3,a4,a5,cK rfl (cK (aV (av _)) rfl)⟩
omit h ha in
theorem qq.mono {p:List (Nat×Nat)} {k:Nat} {A B A' B':LV} (hh:qq K p k A B) (h1:PL K A→PL K A') (h2:PL K B→PL K B'):qq K p k A' B':=fun j hj hl e=>⟨fun e2=>h1 ((hh j hj hl e).1 e2),fun e2=>h2 ((hh j hj hl e).2 e2)⟩
def Nx (t:LV) (one:Int) (A B:LV):List V:=[.list ag t,.int .i64 one,.list ab [],.list ab A,.list ab B,.list ab [],.list ab [],.list ab [],.list ab [],.list ab [],.list ab [],.list ab [],.list ab []]
theorem atr {p q:List (Nat×Nat)} (hp: ∀s∈p,fy s) (hq: ∀s∈q,fy s) (Ny:p.length≤1000) (Nz:q.length≤1000) {one:Int}: ∃A B,PN K A∧PN K B∧qq K p p.length A B∧qq K q q.length A B∧
  CC F4 [.list ag (tG K mul),.int .i64 one,.list Gf [.list bA (p.map cb),.list bA (q.map cb)]]=some (Nx (tG K mul) one A B):=by
 obtain ⟨A1,B1,a1,a2,a3,a4,a5,e1⟩:=aeC h ha hp Ny (A:=[]) (B:=[]) (.inl rfl) (.inl rfl) (t18:=[.list bA (p.map cb),.list bA (q.map cb)]) (m0:=tG K mul) (t19:=2) (t20:=0) (m1:=one);obtain ⟨A2,B2,b1,b2,b3,b4,b5,e2⟩:=aeC h ha hq Nz a1 a2 (t18:=[.list bA (p.map cb),.list bA (q.map cb)]) (m0:=tG K mul) (t19:=2) (t20:=1) (m1:=one);refine ⟨A2,B2,b1,b2,a5.mono b3 b4,b5,atq ?_⟩;unfold aez;have s1:zZ CC (tG K mul) [.list bA (p.map cb),.list bA (q.map cb)] 2 (tG K mul) one (nw 0 [] [])=some (.inl (nw 1 A1 B1)):=by
  simp only[zZ,Ds,un,nw];refine bT rfl (bs rfl ?_);rw[V.ei,db];exact bs e1 rfl
 have s2:zZ CC (tG K mul) [.list bA (p.map cb),.list bA (q.map cb)] 2 (tG K mul) one (nw 1 A1 B1)=some (.inl (nw 2 A2 B2)):=by
  simp only[zZ,Ds,un,nw];refine bT rfl (bs rfl ?_);rw[V.ei,db];exact bs e2 rfl
 have s3:zZ CC (tG K mul) [.list bA (p.map cb),.list bA (q.map cb)] 2 (tG K mul) one (nw 2 A2 B2)=some (.inr (2,false,[],A2,B2,[],[],[],[],[],[],[],[])):=by
  simp only[zZ,Ds,un,nw];exact bF rfl rfl
 exact bs ((iR s1).trans ((iR s2).trans (jX s3))) rfl
end
noncomputable def xE (C:af) (top:Int) (t11:LV) (t12 t13 t18:Int) (t19:Bool) (fH:LV) (fI:Int) (eY eS gJ gK iy iz iA iB gU gW gX iC ny:LV) (iu dx:Int) {β:Type} (kr:(Int×LV)→Option β):Option β:=
 bif t19 then
  bif (decide (0≤top))&&(decide (top<61)) then
  (ny[top.toNat]?).bind fun x2=>
  kr (wrap .i64 (top+1),bj ny top (V.int .i64 fI))
  else none
 else
  bif t18==1 then
  aP iC dx fun x3=>
  bif (decide (0≤top))&&(decide (top<61)) then
   (ny[top.toNat]?).bind fun x4=>
   kr (wrap .i64 (top+1),bj ny top (V.int .i64 x3.toInt))
  else none
  else
  bif t18==2 then
   bif (decide (0≤(wrap .i64 ((wrap .i64 (top-1))-1))))&&(decide ((wrap .i64 ((wrap .i64 (top-1))-1))<61)) then
   (ny[(wrap .i64 ((wrap .i64 (top-1))-1):Int).toNat]?).bind fun x5=>
   (idx fH x5.toInt).bind fun x6=>
   bif (decide (0≤(wrap .i64 (top-1))))&&(decide ((wrap .i64 (top-1))<61)) then
    (ny[(wrap .i64 (top-1):Int).toNat]?).bind fun x7=>
    (idx x6.toList x7.toInt).bind fun x8=>
    bif (decide (0≤(wrap .i64 ((wrap .i64 (top-1))-1))))&&(decide ((wrap .i64 ((wrap .i64 (top-1))-1))<61)) then
    (ny[(wrap .i64 ((wrap .i64 (top-1))-1):Int).toNat]?).bind fun x9=>
    kr (wrap .i64 (top-1),bj ny (wrap .i64 ((wrap .i64 (top-1))-1)) (V.int .i64 x8.toInt))
    else none
   else none
   else none
  else
   bif t18==3 then
   bif (decide (0≤(wrap .i64 (dx+1))))&&(decide ((wrap .i64 (dx+1))<11)) then
    bif (Nat.beq (2+(((wrap .i64 (dx+1):Int).toNat)*1)) 2||(Nat.beq (2+(((wrap .i64 (dx+1):Int).toNat)*1)) 3||(Nat.beq (2+(((wrap .i64 (dx+1):Int).toNat)*1)) 4||(Nat.beq (2+(((wrap .i64 (dx+1):Int).toNat)*1)) 5||(Nat.beq (2+(((wrap .i64 (dx+1):Int).toNat)*1)) 6||(Nat.beq (2+(((wrap .i64 (dx+1):Int).toNat)*1)) 7||(Nat.beq (2+(((wrap .i64 (dx+1):Int).toNat)*1)) 8||(Nat.beq (2+(((wrap .i64 (dx+1):Int).toNat)*1)) 9||(Nat.beq (2+(((wrap .i64 (dx+1):Int).toNat)*1)) 10||(Nat.beq (2+(((wrap .i64 (dx+1):Int).toNat)*1)) 11||(Nat.beq (2+(((wrap .i64 (dx+1):Int).toNat)*1)) 12||false))))))))))) then
    bif (decide (0≤(wrap .i64 (top-1))))&&(decide ((wrap .i64 (top-1))<61)) then
     (ny[(wrap .i64 (top-1):Int).toNat]?).bind fun nU=>
     (idx (bif Nat.beq (2+(((wrap .i64 (dx+1):Int).toNat)*1)) 2 then eY else (bif Nat.beq (2+(((wrap .i64 (dx+1):Int).toNat)*1)) 3 then eS else (bif Nat.beq (2+(((wrap .i64 (dx+1):Int).toNat)*1)) 4 then gJ else (bif Nat.beq (2+(((wrap .i64 (dx+1):Int).toNat)*1)) 5 then gK else (bif Nat.beq (2+(((wrap .i64 (dx+1):Int).toNat)*1)) 6 then iy else (bif Nat.beq (2+(((wrap .i64 (dx+1):Int).toNat)*1)) 7 then iz else (bif Nat.beq (2+(((wrap .i64 (dx+1):Int).toNat)*1)) 8 then iA else (bif Nat.beq (2+(((wrap .i64 (dx+1):Int).toNat)*1)) 9 then iB else (bif Nat.beq (2+(((wrap .i64 (dx+1):Int).toNat)*1)) 10 then gU else (bif Nat.beq (2+(((wrap .i64 (dx+1):Int).toNat)*1)) 11 then gW else (bif Nat.beq (2+(((wrap .i64 (dx+1):Int).toNat)*1)) 12 then gX else ([]:LV)))))))))))) nU.toInt).bind fun pH=>
     bif (decide (0≤(wrap .i64 (top-1))))&&(decide ((wrap .i64 (top-1))<61)) then
     (ny[(wrap .i64 (top-1):Int).toNat]?).bind fun kR=>
     kr (top,bj ny (wrap .i64 (top-1)) (V.int .i64 pH.toInt))
     else none
    else none
    else none
   else none
   else
   kr (top,ny)
noncomputable def HW (C:af) (t11:LV) (t12:Int) (fH:LV) (fI:Int) (eY eS gJ gK iy iz iA iB gU gW gX iC:LV) (top t13:Int) (ny:LV) {β:Type} (kn:(Int×Int×LV)→Option β) (kr:(Int×Int×Bool×LV)→Option β):Option β:=
 bif decide (t13<t12) then
  (idx t11 t13).bind fun x1=>
  xE C top t11 t12 t13 ((x1.cell 0).toInt) ((((x1.cell 0).toInt):Int)==0) fH fI eY eS gJ gK iy iz iA iB gU gW gX iC ny ((x1.cell 0).toInt) ((x1.cell 1).toInt) (un fun (ats:Int) (att:LV)=>
   kn (ats,wrap .i64 (t13+1),att))
 else
  kr (top,t13,decide (t13<t12),ny)
noncomputable def NA (C:af) (t11:LV) (t12:Int) (fH:LV) (fI:Int) (eY eS gJ gK iy iz iA iB gU gW gX iC:LV):=un fun top=>un fun t13 ny=>HW C t11 t12 fH fI eY eS gJ gK iy iz iA iB gU gW gX iC top t13 ny (fun y=>some (Sum.inl y)) (fun r=>some (Sum.inr r))
noncomputable def aeD (C:af):cF:=Ln 319 S5 [[0,2,3,4,7,8,9,10,11,12,13,14,15,16,17,18,19,20,0]] (@xE C) (bN 65 S6 [H1,EQ,EQ,H1,EQ,EQ,EQ,EQ,EQ,EQ,EQ,EQ,EQ,EQ,EQ,EQ,EQ,EQ,H1] [[0,2,3,0,0,5,6,7,8,9,10,11,12,13,14,15,16,17,18,0]] (@HW C) bO)
theorem atu (C:af):bB C (aeD C) 116 (Cd 19 [1,1,1,0,1,0,0,1,1,0,0,1,1,0,1,0] [1,1,1,0,1,0,0,1,1,0,0,1,1,0,1,1] 116):=Lm S5 [[0,2,3,4,7,8,9,10,11,12,13,14,15,16,17,18,19,20,0]] (@xE C) (bu aw) (bu aw)
theorem atv (C:af):bB C (aeD C) 116 (Lp [1,1,1,0,1,0,0] 116):=bP S6 [H1,EQ,EQ,H1,EQ,EQ,EQ,EQ,EQ,EQ,EQ,EQ,EQ,EQ,EQ,EQ,EQ,EQ,H1] [[0,2,3,0,0,5,6,7,8,9,10,11,12,13,14,15,16,17,18,0]] (@HW C) (bu (bC (atu C) aw))
noncomputable def aeE (C:af) (p fH:LV) (fI:Int) (eY eS gJ gK iy iz iA iB gU gW gX iC:LV):Option LV:=
 (Loop (NA C p (p.length:Int) fH fI eY eS gJ gK iy iz iA iB gU gW gX iC) (0,0,(List.replicate 61 (V.int .i64 0):LV))).bind (un fun axW=>un fun yE=>un fun (Nr:Bool) (atw:LV)=>
  (atw[0]?).bind fun Dm=>
  some [V.int .i64 Dm.toInt,.list ag fH,V.int .i64 fI,.list ab eY,.list ab eS,.list ab gJ,.list ab gK,.list ab iy,.list ab iz,.list ab iA,.list ab iB,.list ab gU,.list ab gW,.list ab gX,.list ab iC])
theorem atx {p fH:LV} {fI:Int} {eY eS gJ gK iy iz iA iB gU gW gX iC:LV} {r:Option LV} (h:aeE CC p fH fI eY eS gJ gK iy iz iA iB gU gW gX iC=r):CC F5 [.list bA p,.list ag fH,V.int .i64 fI,.list ab eY,.list ab eS,.list ab gJ,.list ab gK,.list ab iy,.list ab iz,.list ab iA,.list ab iB,.list ab gU,.list ab gW,.list ab gX,.list ab iC]=r:=bQ (bC (atv CC) aw) h
def HX (m t:Nat) (s:Nat×Nat):Option Nat:=
 if s.1=0 then (if t<60 then some (t+1) else none)
 else if s.1=1 then (if t<60∧s.2<m then some (t+1) else none)
 else if s.1=2 then (if 2≤t then some (t-1) else none)
 else if s.1=3 then (if 1≤t then some t else none) else none
def vR (m:Nat):List (Nat×Nat)→Nat→Option Nat
 | [],t=>some t
 | s::p,t=>(HX m t s).bind (vR m p)
theorem aty {m t n:Nat}:HX m t (0,n)=if t<60 then some (t+1) else none:=rfl
theorem atz {m t n:Nat}:HX m t (1,n)=if t<60∧n<m then some (t+1) else none:=rfl
theorem atA {m t n:Nat}:HX m t (2,n)=if 2≤t then some (t-1) else none:=rfl
theorem atB {m t n:Nat}:HX m t (3,n)=if 1≤t then some t else none:=rfl
def SI (K t:Nat) (l:LV):Prop:=l.length=61∧t≤60∧∀i,i<t→∃v,v<K∧l[i]? =some (nV v)
theorem SI.put {K t:Nat} {l:LV} (h:SI K t l) {i v t':Nat} (hi:i≤t) (hv:v<K) (ht:t'≤t∨(t'=t+1∧i=t)) (h60:t'≤60):SI K t' (l.set i (nV v)):=by
 obtain ⟨h1,h2,h3⟩:=h;refine ⟨by rw[od,h1],h60,fun j hj=> ?_⟩;by_cases c:i=j
 ·subst c;exact ⟨v,hv,oN (by omega)⟩
 ·rw[uf c];exact h3 j (by omega)
theorem NB {t:Nat} (h:1≤t) (h6:t≤1000):wrap .i64 ((t:Int)-1)=((t-1:Nat):Int):=by
 rw[show ((t:Int)-1)=((t-1:Nat):Int) by omega];exact wrap64 (by omega) (by omega)
def VL (K m:Nat) (l:LV):Prop:=l.length=m∧∀i,i<m→∃v,v<K∧l[i]? =some (nV v)
section
variable {K:Nat} {mul:Nat→Nat→Nat} (h:Tb K mul) {p:List (Nat×Nat)} (hp: ∀s∈p,fy s) (hl:p.length≤1000) {A B:LV} (hP:qq K p p.length A B) {one:Int} (h1:(∃s∈p,s.1=0)→∃o:Nat,o<K∧one=(o:Int))
  {m:Nat} {vs:LV} (hv:VL K m vs) (hw:vR m p 0=some 1)
include h hp hl hP h1 hv hw
theorem aeF: ∃y,y<K∧CC F5 (.list bA (p.map cb)::(Nx (tG K mul) one A B++[.list ab vs]))=some (.int .i64 (y:Int)::(Nx (tG K mul) one A B++[.list ab vs])):=by
 have h4:=h.k4;have key:=jD (step:=NA CC (p.map cb) (p.length:Int) (tG K mul) one [] A B [] [] [] [] [] [] [] [] vs)
  (fun i x=> ∃t l,vR m (p.drop i) t=some 1∧SI K t l∧x=((t:Int),(i:Int),l)) (fun r=> ∃l,SI K 1 l∧r=(1,(p.length:Int),false,l)) p.length 0 (0,0,List.replicate 61 (V.int .i64 0)) (fun i _ hi x hx=> ?_) (fun x hx=> ?_) ⟨0,_,hw,⟨by simp,by omega,fun i hi=>(by omega)⟩,rfl⟩
 ·obtain ⟨r,e,l,hs,rfl⟩:=key;obtain ⟨y,hy,hg⟩:=hs.2.2 0 (by omega);refine ⟨y,hy,atx ?_⟩;unfold aeE;rw[db];refine bs e ?_;simp only[un];exact bs hg rfl
 ·obtain ⟨t,l,hr,hs,rfl⟩:=hx;have bp:i<p.length:=by omega
  have jV:=aeA bp;have dp:=hp _ (dm bp);have hg:p.getD i (0,0)=p[i]:=by rw[pL,bU bp,Option.getD_some]
  have UZ:=hP i bp bp;rw[hg] at UZ;have p8:p[i].1=0→∃o:Nat,o<K∧one=(o:Int):=fun e=>h1 ⟨_,dm bp,e⟩;rw[List.drop_eq_getElem_cons bp] at hr;generalize p[i]=s at*
  obtain ⟨k,n⟩:=s;simp only[vR] at hr;have hll:=hs.1;have ht:=hs.2.1;simp only[NA,HW,un];rcases (by have:=dp.1;simp only at this;omega:k=0∨k=1∨k=2∨k=3) with rfl|rfl|rfl|rfl
  ·obtain ⟨o,ho,rfl⟩:=p8 rfl;rw[aty] at hr;by_cases c:t<60
   ·rw[aE c,Option.bind_some] at hr;refine ⟨_,bT (bh bp) (bs jV ?_),t+1,l.set t (nV o),hr,hs.put (av _) ho (.inr ⟨rfl,rfl⟩) (by omega),rfl⟩;simp only[xE];refine bT rfl (bT (kh.2 ⟨cp (by omega),cp (by omega)⟩) (bs (bU (by rw[Int.toNat_natCast,hll];omega)) ?_));rw[br (by omega),br (by omega)];rfl
   ·rw[aF c] at hr;cases hr
  ·rw[atz] at hr;by_cases c:t<60∧n<m
   ·rw[aE c,Option.bind_some] at hr;obtain ⟨v,NC,U0⟩:=hv.2 n c.2;refine ⟨_,bT (bh bp) (bs jV ?_),t+1,l.set t (nV v),hr,hs.put (av _) NC (.inr ⟨rfl,rfl⟩) (by omega),rfl⟩;simp only[xE];refine bF rfl (bT rfl ((bX (i:=n) U0).trans (bT (kh.2 ⟨cp (by omega),cp (by omega)⟩) (bs (bU (by rw[Int.toNat_natCast,hll];omega)) ?_))));rw[br (by omega),br (by omega)];rfl
   ·rw[aF c] at hr;cases hr
  ·rw[atA] at hr;by_cases c:2≤t
   ·rw[aE c,Option.bind_some] at hr;obtain ⟨u,hu,z7⟩:=hs.2.2 (t-2) (by omega);obtain ⟨v,NC,U0⟩:=hs.2.2 (t-1) (by omega);refine ⟨_,bT (bh bp) (bs jV ?_),t-1,l.set (t-2) (nV (mul u v)),hr,hs.put (by omega) (h.lt _ _ hu NC) (.inl (by omega)) (by omega),rfl⟩;simp only[xE];refine bF rfl (bF rfl (bT rfl ?_));rw[NB (t:=t) (by omega) (by omega),NB (t:=t-1) (by omega) (by omega),show t-1-1=t-2 by omega,Int.toNat_natCast,Int.toNat_natCast];refine bT (kh.2 ⟨cp (by omega),cp (by omega)⟩) (bs z7 (bs (mI hu) (bT (kh.2 ⟨cp (by omega),cp (by omega)⟩) (bs U0 (bs (oH NC) (bT (kh.2 ⟨cp (by omega),cp (by omega)⟩) (bs z7 ?_)))))));rw[br (by omega)];rfl
   ·rw[aF c] at hr;cases hr
  ·rw[atB] at hr;by_cases c:1≤t
   ·rw[aE c,Option.bind_some] at hr;obtain ⟨u,hu,z7⟩:=hs.2.2 (t-1) (by omega);have yO:(decide (0≤((t-1:Nat):Int))&&decide (((t-1:Nat):Int)<61))=true:=kh.2 ⟨cp (by omega),cp (by omega)⟩;rcases dp.2 rfl with hn|hn
    ·have hn:n=0:=hn;subst hn;obtain ⟨f,U3,hf⟩:=(UZ rfl).1 rfl;have hA:idx A (u:Int)=some (nV (f u)):=by rw[U3];exact qp hu
     refine ⟨_,bT (bh bp) (bs jV ?_),t,l.set (t-1) (nV (f u)),hr,hs.put (by omega) (hf u hu) (.inl (av _)) ht,rfl⟩;simp only[xE];refine bF rfl (bF rfl (bF rfl (bT rfl (bT rfl (bT rfl ?_)))));rw[NB (t:=t) c (by omega),Int.toNat_natCast];refine bT yO (bs z7 (bs (a:=nV (f u)) hA (bT yO (bs z7 ?_))));rw[br (by omega)];rfl
    ·have hn:n=1:=hn;subst hn;obtain ⟨f,U3,hf⟩:=(UZ rfl).2 rfl;have hA:idx B (u:Int)=some (nV (f u)):=by rw[U3];exact qp hu
     refine ⟨_,bT (bh bp) (bs jV ?_),t,l.set (t-1) (nV (f u)),hr,hs.put (by omega) (hf u hu) (.inl (av _)) ht,rfl⟩;simp only[xE];refine bF rfl (bF rfl (bF rfl (bT rfl (bT rfl (bT rfl ?_)))));rw[NB (t:=t) c (by omega),Int.toNat_natCast];refine bT yO (bs z7 (bs (a:=nV (f u)) hA (bT yO (bs z7 ?_))));rw[br (by omega)];rfl
   ·rw[aF c] at hr;cases hr
 ·obtain ⟨t,l,hr,hs,rfl⟩:=hx;rw[dt,List.drop_length] at hr;obtain rfl:t=1:=by simpa[vR] using hr
  rw[dt];simp only[NA,HW,un];exact ⟨_,bF (aV (av _)) rfl,l,hs,cK rfl (cK rfl (cK (aV (av _)) rfl))⟩
end
noncomputable def HY (C:af) (t16:Int) (eT eU ez fe:LV) (ff:Int) (fg fh fi fj fk fl fm fo fp fq ft U4:LV) (t17:Int) (iC:LV) {β:Type} (kn:(Int×LV)→Option β) (kr:(Int×Bool×LV)→Option β):Option β:=
 bif decide (t17<t16) then
  aP U4 t17 fun x1=>
  (idx ez t17).bind fun x2=>
  (idx x2.toList x1.toInt).bind fun x3=>
  aP iC t17 fun x4=>
  kn (wrap .i64 (t17+1),bj iC t17 (V.int .i64 x3.toInt))
 else
  kr (t17,decide (t17<t16),iC)
noncomputable def U5 (C:af) (t16:Int) (eT eU ez fe:LV) (ff:Int) (fg fh fi fj fk fl fm fo fp fq ft U4:LV):=un fun t17 iC=>HY C t16 eT eU ez fe ff fg fh fi fj fk fl fm fo fp fq ft U4 t17 iC (fun y=>some (Sum.inl y)) (fun r=>some (Sum.inr r))
noncomputable def atC (C:af):cF:=bN 49 SC [EQ,H1,EQ,EQ,EQ,EQ,EQ,EQ,EQ,EQ,EQ,EQ,EQ,EQ,EQ,EQ,EQ,EQ,H1,EQ] [[1,0,0,3,4,5,6,7,8,9,10,11,12,13,14,15,16,17,18,0,20]] (@HY C) bO
theorem atD (C:af):bB C (atC C) 74 (Lp [1,1,0,1,0,0] 74):=bP SC [EQ,H1,EQ,EQ,EQ,EQ,EQ,EQ,EQ,EQ,EQ,EQ,EQ,EQ,EQ,EQ,EQ,EQ,H1,EQ] [[1,0,0,3,4,5,6,7,8,9,10,11,12,13,14,15,16,17,18,0,20]] (@HY C) (bu aw)
noncomputable def aeG (C:af) (eT eU ez fe:LV) (ff:Int) (fg fh fi fj fk fl fm fo fp fq ft aM:LV):Option LV:=
 bif (decide (0≤(aM.length:Int)))&&((decide ((aM.length:Int)≤(aM.length:Int)))&&(Nat.ble (((aM.length:Int).toNat)*8) aW)) then
  (Loop (U5 C (aM.length:Int) eT eU ez fe ff fg fh fi fj fk fl fm fo fp fq ft aM) (0,List.replicate ((aM.length:Int).toNat) (V.int .i64 0))).bind (un fun kC=>un fun (j7:Bool) (atE:LV)=>
   some [.list bA eT,.list bA eU,.list ag ez,.list ag fe,V.int .i64 ff,.list ab fg,.list ab fh,.list ab fi,.list ab fj,.list ab fk,.list ab fl,.list ab fm,.list ab fo,.list ab fp,.list ab fq,.list ab ft,.list ab atE,.list ab aM])
 else none
theorem atF {eT eU ez fe:LV} {ff:Int} {fg fh fi fj fk fl fm fo fp fq ft aM:LV} {r:Option LV} (h:aeG CC eT eU ez fe ff fg fh fi fj fk fl fm fo fp fq ft aM=r):CC FW [.list bA eT,.list bA eU,.list ag ez,.list ag fe,V.int .i64 ff,.list ab fg,.list ab fh,.list ab fi,.list ab fj,.list ab fk,.list ab fl,.list ab fm,.list ab fo,.list ab fp,.list ab fq,.list ab ft,.list ab aM]=r:=bQ (bC (atD CC) aw) h
noncomputable def Dt (C:af) (eT eU ez fe:LV) (ff:Int) (fg fh fi fj fk fl fm fo fp fq ft:LV) (i:Int) (aN:LV) {β:Type} (kn:(Int×LV)→Option β) (kr:((Bool×LV) ⊕ (Int×Bool×LV))→Option β):Option β:=
 bif decide (i≥0) then
  aP aN i fun x1=>
  aP aN i fun x2=>
  aP (bj aN i (V.int .i64 (wrap .i64 (x1.toInt+1)))) i fun x3=>
  (idx ez i).bind fun x4=>
  bif decide ((x3.toInt:Int)<(x4.toList.length:Int)) then
  kr (.inl (true,bj aN i (V.int .i64 (wrap .i64 (x1.toInt+1)))))
  else
  aP (bj aN i (V.int .i64 (wrap .i64 (x1.toInt+1)))) i fun x5=>
  kn (wrap .i64 (i-1),bj (bj aN i (V.int .i64 (wrap .i64 (x1.toInt+1)))) i (V.int .i64 0))
 else
  kr (.inr (i,decide (i≥0),aN))
noncomputable def HZ (C:af) (eT eU ez fe:LV) (ff:Int) (fg fh fi fj fk fl fm fo fp fq ft:LV):=un fun i aN=>Dt C eT eU ez fe ff fg fh fi fj fk fl fm fo fp fq ft i aN (fun y=>some (Sum.inl y)) (fun r=>some (Sum.inr r))
noncomputable def atG (C:af):cF:=bN 33 S7 [H1,EQ,EQ,EQ,EQ,EQ,EQ,EQ,EQ,EQ,EQ,EQ,EQ,EQ,EQ,EQ,EQ,H1] [[0,2,3,4,5,6,7,8,9,10,11,12,13,14,15,16,17,0],[0,0,2,3,4,5,6,7,8,9,10,11,12,13,14,15,16,17,0]] (@Dt C) bO
theorem atH (C:af):bB C (atG C) 117 (Lp [1,0,1,0,0] 117):=bP S7 [H1,EQ,EQ,EQ,EQ,EQ,EQ,EQ,EQ,EQ,EQ,EQ,EQ,EQ,EQ,EQ,EQ,H1] [[0,2,3,4,5,6,7,8,9,10,11,12,13,14,15,16,17,0],[0,0,2,3,4,5,6,7,8,9,10,11,12,13,14,15,16,17,0]] (@Dt C) (bu aw)
noncomputable def ND (C:af) (eT eU ez fe:LV) (ff:Int) (fg fh fi fj fk fl fm fo fp fq ft aM:LV):Option LV:=
 (Loop (HZ C eT eU ez fe ff fg fh fi fj fk fl fm fo fp fq ft) (wrap .i64 ((aM.length:Int)-1),aM)).bind (gj (un fun (j7:Bool) (yu:LV)=>
  some [.bool j7,.list bA eT,.list bA eU,.list ag ez,.list ag fe,V.int .i64 ff,.list ab fg,.list ab fh,.list ab fi,.list ab fj,.list ab fk,.list ab fl,.list ab fm,.list ab fo,.list ab fp,.list ab fq,.list ab ft,.list ab yu]) (un fun i_8=>un fun (vK:Bool) (qm:LV)=>
  some [.bool false,.list bA eT,.list bA eU,.list ag ez,.list ag fe,V.int .i64 ff,.list ab fg,.list ab fh,.list ab fi,.list ab fj,.list ab fk,.list ab fl,.list ab fm,.list ab fo,.list ab fp,.list ab fq,.list ab ft,.list ab qm]))
theorem atI {eT eU ez fe:LV} {ff:Int} {fg fh fi fj fk fl fm fo fp fq ft aM:LV} {r:Option LV} (h:ND CC eT eU ez fe ff fg fh fi fj fk fl fm fo fp fq ft aM=r):CC F6 [.list bA eT,.list bA eU,.list ag ez,.list ag fe,V.int .i64 ff,.list ab fg,.list ab fh,.list ab fi,.list ab fj,.list ab fk,.list ab fl,.list ab fm,.list ab fo,.list ab fp,.list ab fq,.list ab ft,.list ab aM]=r:=bQ (bC (atH CC) aw) h
noncomputable def H0 (C:af) (qs steps t21:Int) (eT eU ez fe:LV) (ff:Int) (fg fh fi fj fk fl fm fo fp fq ft U6:LV) (t22:Int) (iC:LV) {β:Type} (kn:(Int×LV)→Option β) (kr:(Int×Bool×LV)→Option β):Option β:=
 bif decide (t22<t21) then
  aP U6 t22 fun x2=>
  (idx ez t22).bind fun x3=>
  (idx x3.toList x2.toInt).bind fun x4=>
  aP iC t22 fun x5=>
  kn (wrap .i64 (t22+1),bj iC t22 (V.int .i64 x4.toInt))
 else
  kr (t22,decide (t22<t21),iC)
noncomputable def NF (C:af) (qs steps t21:Int) (eT eU ez fe:LV) (ff:Int) (fg fh fi fj fk fl fm fo fp fq ft U6:LV):=un fun t22 iC=>H0 C qs steps t21 eT eU ez fe ff fg fh fi fj fk fl fm fo fp fq ft U6 t22 iC (fun y=>some (Sum.inl y)) (fun r=>some (Sum.inr r))
noncomputable def z8 (C:af) (qs steps:Int) (eT eU ez fe:LV) (ff:Int) (fg fh fi fj fk fl fm fo fp fq ft iC aR:LV) {β:Type} (kn:(Int×LV×LV×LV×LV×Int×LV×LV×LV×LV×LV×LV×LV×LV×LV×LV×LV×LV×LV)→Option β) (kr:((Int×Bool×Bool×LV×LV×LV×LV×Int×LV×LV×LV×LV×LV×LV×LV×LV×LV×LV×LV×LV) ⊕ (Int×Bool×LV×LV×LV×LV×Int×LV×LV×LV×LV×LV×LV×LV×LV×LV×LV×LV×LV×LV))→Option β):Option β:=
 bif decide (steps<qs) then
  (Loop (NF C qs (wrap .i64 (steps+1)) (aR.length:Int) eT eU ez fe ff fg fh fi fj fk fl fm fo fp fq ft aR) (0,iC)).bind (un fun j7=>un fun (oo:Bool) (atJ:LV)=>
   (C F5 [.list bA eT,.list ag fe,V.int .i64 ff,.list ab fg,.list ab fh,.list ab fi,.list ab fj,.list ab fk,.list ab fl,.list ab fm,.list ab fo,.list ab fp,.list ab fq,.list ab ft,.list ab atJ]).bind fun r9=>
   (C F5 [.list bA eU,.list ag ((V.nth (r9.drop 1) 0).toList),V.int .i64 ((V.nth ((r9.drop 1).drop 1) 0).toInt),.list ab ((V.nth (((r9.drop 1).drop 1).drop 1) 0).toList),.list ab ((V.nth ((((r9.drop 1).drop 1).drop 1).drop 1) 0).toList),.list ab ((V.nth (((((r9.drop 1).drop 1).drop 1).drop 1).drop 1) 0).toList),.list ab ((V.nth ((((((r9.drop 1).drop 1).drop 1).drop 1).drop 1).drop 1) 0).toList),.list ab ((V.nth (((((((r9.drop 1).drop 1).drop 1).drop 1).drop 1).drop 1).drop 1) 0).toList),.list ab ((V.nth ((((((((r9.drop 1).drop 1).drop 1).drop 1).drop 1).drop 1).drop 1).drop 1) 0).toList),.list ab ((V.nth (((((((((r9.drop 1).drop 1).drop 1).drop 1).drop 1).drop 1).drop 1).drop 1).drop 1) 0).toList),.list ab ((V.nth ((((((((((r9.drop 1).drop 1).drop 1).drop 1).drop 1).drop 1).drop 1).drop 1).drop 1).drop 1) 0).toList),.list ab ((V.nth (((((((((((r9.drop 1).drop 1).drop 1).drop 1).drop 1).drop 1).drop 1).drop 1).drop 1).drop 1).drop 1) 0).toList),.list ab ((V.nth ((((((((((((r9.drop 1).drop 1).drop 1).drop 1).drop 1).drop 1).drop 1).drop 1).drop 1).drop 1).drop 1).drop 1) 0).toList),.list ab ((V.nth (((((((((((((r9.drop 1).drop 1).drop 1).drop 1).drop 1).drop 1).drop 1).drop 1).drop 1).drop 1).drop 1).drop 1).drop 1) 0).toList),.list ab ((V.nth ((r9.drop 1).drop 13) 0).toList)]).bind fun eb=>
   bif (((V.nth r9 0).toInt):Int) != ((V.nth eb 0).toInt) then
   kr (.inl (wrap .i64 (steps+1),true,true,eT,eU,ez,(V.nth (eb.drop 1) 0).toList,(V.nth ((eb.drop 1).drop 1) 0).toInt,(V.nth (((eb.drop 1).drop 1).drop 1) 0).toList,(V.nth ((((eb.drop 1).drop 1).drop 1).drop 1) 0).toList,(V.nth (((((eb.drop 1).drop 1).drop 1).drop 1).drop 1) 0).toList,(V.nth ((((((eb.drop 1).drop 1).drop 1).drop 1).drop 1).drop 1) 0).toList,(V.nth (((((((eb.drop 1).drop 1).drop 1).drop 1).drop 1).drop 1).drop 1) 0).toList,(V.nth ((((((((eb.drop 1).drop 1).drop 1).drop 1).drop 1).drop 1).drop 1).drop 1) 0).toList,(V.nth (((((((((eb.drop 1).drop 1).drop 1).drop 1).drop 1).drop 1).drop 1).drop 1).drop 1) 0).toList,(V.nth ((((((((((eb.drop 1).drop 1).drop 1).drop 1).drop 1).drop 1).drop 1).drop 1).drop 1).drop 1) 0).toList,(V.nth (((((((((((eb.drop 1).drop 1).drop 1).drop 1).drop 1).drop 1).drop 1).drop 1).drop 1).drop 1).drop 1) 0).toList,(V.nth ((((((((((((eb.drop 1).drop 1).drop 1).drop 1).drop 1).drop 1).drop 1).drop 1).drop 1).drop 1).drop 1).drop 1) 0).toList,(V.nth (((((((((((((eb.drop 1).drop 1).drop 1).drop 1).drop 1).drop 1).drop 1).drop 1).drop 1).drop 1).drop 1).drop 1).drop 1) 0).toList,aR))
   else
   (C F6 [.list bA eT,.list bA eU,.list ag ez,.list ag ((V.nth (eb.drop 1) 0).toList),V.int .i64 ((V.nth ((eb.drop 1).drop 1) 0).toInt),.list ab ((V.nth (((eb.drop 1).drop 1).drop 1) 0).toList),.list ab ((V.nth ((((eb.drop 1).drop 1).drop 1).drop 1) 0).toList),.list ab ((V.nth (((((eb.drop 1).drop 1).drop 1).drop 1).drop 1) 0).toList),.list ab ((V.nth ((((((eb.drop 1).drop 1).drop 1).drop 1).drop 1).drop 1) 0).toList),.list ab ((V.nth (((((((eb.drop 1).drop 1).drop 1).drop 1).drop 1).drop 1).drop 1) 0).toList),.list ab ((V.nth ((((((((eb.drop 1).drop 1).drop 1).drop 1).drop 1).drop 1).drop 1).drop 1) 0).toList),.list ab ((V.nth (((((((((eb.drop 1).drop 1).drop 1).drop 1).drop 1).drop 1).drop 1).drop 1).drop 1) 0).toList),.list ab ((V.nth ((((((((((eb.drop 1).drop 1).drop 1).drop 1).drop 1).drop 1).drop 1).drop 1).drop 1).drop 1) 0).toList),.list ab ((V.nth (((((((((((eb.drop 1).drop 1).drop 1).drop 1).drop 1).drop 1).drop 1).drop 1).drop 1).drop 1).drop 1) 0).toList),.list ab ((V.nth ((((((((((((eb.drop 1).drop 1).drop 1).drop 1).drop 1).drop 1).drop 1).drop 1).drop 1).drop 1).drop 1).drop 1) 0).toList),.list ab ((V.nth (((((((((((((eb.drop 1).drop 1).drop 1).drop 1).drop 1).drop 1).drop 1).drop 1).drop 1).drop 1).drop 1).drop 1).drop 1) 0).toList),.list ab aR]).bind fun cx=>
   bif !((V.nth cx 0).toBool) then
    kr (.inl (wrap .i64 (steps+1),false,true,(V.nth (cx.drop 1) 0).toList,(V.nth ((cx.drop 1).drop 1) 0).toList,(V.nth (((cx.drop 1).drop 1).drop 1) 0).toList,(V.nth ((cx.drop 1).drop 3) 0).toList,(V.nth (((cx.drop 1).drop 3).drop 1) 0).toInt,(V.nth ((((cx.drop 1).drop 3).drop 1).drop 1) 0).toList,(V.nth (((((cx.drop 1).drop 3).drop 1).drop 1).drop 1) 0).toList,(V.nth ((((((cx.drop 1).drop 3).drop 1).drop 1).drop 1).drop 1) 0).toList,(V.nth (((((((cx.drop 1).drop 3).drop 1).drop 1).drop 1).drop 1).drop 1) 0).toList,(V.nth ((((((((cx.drop 1).drop 3).drop 1).drop 1).drop 1).drop 1).drop 1).drop 1) 0).toList,(V.nth (((((((((cx.drop 1).drop 3).drop 1).drop 1).drop 1).drop 1).drop 1).drop 1).drop 1) 0).toList,(V.nth ((((((((((cx.drop 1).drop 3).drop 1).drop 1).drop 1).drop 1).drop 1).drop 1).drop 1).drop 1) 0).toList,(V.nth (((((((((((cx.drop 1).drop 3).drop 1).drop 1).drop 1).drop 1).drop 1).drop 1).drop 1).drop 1).drop 1) 0).toList,(V.nth ((((((((((((cx.drop 1).drop 3).drop 1).drop 1).drop 1).drop 1).drop 1).drop 1).drop 1).drop 1).drop 1).drop 1) 0).toList,(V.nth (((((((((((((cx.drop 1).drop 3).drop 1).drop 1).drop 1).drop 1).drop 1).drop 1).drop 1).drop 1).drop 1).drop 1).drop 1) 0).toList,(V.nth ((((((((((((((cx.drop 1).drop 3).drop 1).drop 1).drop 1).drop 1).drop 1).drop 1).drop 1).drop 1).drop 1).drop 1).drop 1).drop 1) 0).toList,(V.nth (((cx.drop 1).drop 3).drop 13) 0).toList))
   else
    kn (wrap .i64 (steps+1),(V.nth (cx.drop 1) 0).toList,(V.nth ((cx.drop 1).drop 1) 0).toList,(V.nth (((cx.drop 1).drop 1).drop 1) 0).toList,(V.nth ((cx.drop 1).drop 3) 0).toList,(V.nth (((cx.drop 1).drop 3).drop 1) 0).toInt,(V.nth ((((cx.drop 1).drop 3).drop 1).drop 1) 0).toList,(V.nth (((((cx.drop 1).drop 3).drop 1).drop 1).drop 1) 0).toList,(V.nth ((((((cx.drop 1).drop 3).drop 1).drop 1).drop 1).drop 1) 0).toList,(V.nth (((((((cx.drop 1).drop 3).drop 1).drop 1).drop 1).drop 1).drop 1) 0).toList,(V.nth ((((((((cx.drop 1).drop 3).drop 1).drop 1).drop 1).drop 1).drop 1).drop 1) 0).toList,(V.nth (((((((((cx.drop 1).drop 3).drop 1).drop 1).drop 1).drop 1).drop 1).drop 1).drop 1) 0).toList,(V.nth ((((((((((cx.drop 1).drop 3).drop 1).drop 1).drop 1).drop 1).drop 1).drop 1).drop 1).drop 1) 0).toList,(V.nth (((((((((((cx.drop 1).drop 3).drop 1).drop 1).drop 1).drop 1).drop 1).drop 1).drop 1).drop 1).drop 1) 0).toList,(V.nth ((((((((((((cx.drop 1).drop 3).drop 1).drop 1).drop 1).drop 1).drop 1).drop 1).drop 1).drop 1).drop 1).drop 1) 0).toList,(V.nth (((((((((((((cx.drop 1).drop 3).drop 1).drop 1).drop 1).drop 1).drop 1).drop 1).drop 1).drop 1).drop 1).drop 1).drop 1) 0).toList,(V.nth ((((((((((((((cx.drop 1).drop 3).drop 1).drop 1).drop 1).drop 1).drop 1).drop 1).drop 1).drop 1).drop 1).drop 1).drop 1).drop 1) 0).toList,(V.nth ((eb.drop 1).drop 13) 0).toList,(V.nth (((cx.drop 1).drop 3).drop 13) 0).toList))
 else
  kr (.inr (steps,decide (steps<qs),eT,eU,ez,fe,ff,fg,fh,fi,fj,fk,fl,fm,fo,fp,fq,ft,iC,aR))
noncomputable def Du (C:af) (qs:Int):=un fun steps=>un fun eT=>un fun eU=>un fun ez=>un fun fe=>un fun ff=>un fun fg=>un fun fh=>un fun fi=>un fun fj=>un fun fk=>un fun fl=>un fun fm=>un fun fo=>un fun fp=>un fun fq=>un fun ft=>un fun iC aR=>z8 C qs steps eT eU ez fe ff fg fh fi fj fk fl fm fo fp fq ft iC aR (fun y=>some (Sum.inl y)) (fun r=>some (Sum.inr r))
noncomputable def aeH (C:af):cF:=bN 81 SA [EQ,EQ,EQ,H1,EQ,EQ,EQ,EQ,EQ,EQ,EQ,EQ,EQ,EQ,EQ,EQ,EQ,EQ,EQ,EQ,H1,EQ] [[1,2,3,0,0,5,6,7,8,9,10,11,12,13,14,15,16,17,18,19,20,0,22]] (@H0 C) (bN 33 SB [EQ,H1,H1,H1,H1,H1,H1,H1,H1,H1,H1,H1,H1,H1,H1,H1,H1,H1,H1,H1] [[0,0,0,0,0,0,0,0,0,0,0,0,0,0,0,0,0,0,0,0],[1,0,0,0,0,0,0,0,0,0,0,0,0,0,0,0,0,0,0,0,0]] (@z8 C) bO)
theorem atK (C:af):bB C (aeH C) 73 (Lp [1,1,0,0,0,1,0,1,0,1,0,0] 73):=bP SA [EQ,EQ,EQ,H1,EQ,EQ,EQ,EQ,EQ,EQ,EQ,EQ,EQ,EQ,EQ,EQ,EQ,EQ,EQ,EQ,H1,EQ] [[1,2,3,0,0,5,6,7,8,9,10,11,12,13,14,15,16,17,18,19,20,0,22]] (@H0 C) (bu aw)
theorem atL (C:af):bB C (aeH C) 73 (Lp [1,1,0,0,0] 73):=bP SB [EQ,H1,H1,H1,H1,H1,H1,H1,H1,H1,H1,H1,H1,H1,H1,H1,H1,H1,H1,H1] [[0,0,0,0,0,0,0,0,0,0,0,0,0,0,0,0,0,0,0,0],[1,0,0,0,0,0,0,0,0,0,0,0,0,0,0,0,0,0,0,0,0]] (@z8 C) (bu (bC (atK C) aw))
noncomputable def NG (C:af) (qs:Int) (eT eU ez fe:LV) (ff:Int) (fg fh fi fj fk fl fm fo fp fq ft aM:LV):Option LV:=
 (C FW [.list bA eT,.list bA eU,.list ag ez,.list ag fe,V.int .i64 ff,.list ab fg,.list ab fh,.list ab fi,.list ab fj,.list ab fk,.list ab fl,.list ab fm,.list ab fo,.list ab fp,.list ab fq,.list ab ft,.list ab aM]).bind fun r1=>
 (Loop (Du C qs) (0,(V.nth r1 0).toList,(V.nth (r1.drop 1) 0).toList,(V.nth ((r1.drop 1).drop 1) 0).toList,(V.nth (r1.drop 3) 0).toList,(V.nth ((r1.drop 3).drop 1) 0).toInt,(V.nth (((r1.drop 3).drop 1).drop 1) 0).toList,(V.nth ((((r1.drop 3).drop 1).drop 1).drop 1) 0).toList,(V.nth (((((r1.drop 3).drop 1).drop 1).drop 1).drop 1) 0).toList,(V.nth ((((((r1.drop 3).drop 1).drop 1).drop 1).drop 1).drop 1) 0).toList,(V.nth (((((((r1.drop 3).drop 1).drop 1).drop 1).drop 1).drop 1).drop 1) 0).toList,(V.nth ((((((((r1.drop 3).drop 1).drop 1).drop 1).drop 1).drop 1).drop 1).drop 1) 0).toList,(V.nth (((((((((r1.drop 3).drop 1).drop 1).drop 1).drop 1).drop 1).drop 1).drop 1).drop 1) 0).toList,(V.nth ((((((((((r1.drop 3).drop 1).drop 1).drop 1).drop 1).drop 1).drop 1).drop 1).drop 1).drop 1) 0).toList,(V.nth (((((((((((r1.drop 3).drop 1).drop 1).drop 1).drop 1).drop 1).drop 1).drop 1).drop 1).drop 1).drop 1) 0).toList,(V.nth ((((((((((((r1.drop 3).drop 1).drop 1).drop 1).drop 1).drop 1).drop 1).drop 1).drop 1).drop 1).drop 1).drop 1) 0).toList,(V.nth (((((((((((((r1.drop 3).drop 1).drop 1).drop 1).drop 1).drop 1).drop 1).drop 1).drop 1).drop 1).drop 1).drop 1).drop 1) 0).toList,(V.nth ((r1.drop 3).drop 13) 0).toList,(V.nth (((r1.drop 3).drop 13).drop 1) 0).toList)).bind (gj (un fun atM=>un fun (atN:Bool)=>un fun (atO:Bool)=>un fun (uQ:LV)=>un fun (yx:LV)=>un fun (sB:LV)=>un fun (vJ:LV)=>un fun p5=>un fun (o9:LV)=>un fun (zQ:LV)=>un fun (zR:LV)=>un fun (tT:LV)=>un fun (uU:LV)=>un fun (MN:LV)=>un fun (MO:LV)=>un fun (adX:LV)=>un fun (atP:LV)=>un fun (Pr:LV)=>un fun (atQ:LV) (atS:LV)=>
  some [V.int .i64 atM,.bool atN,.bool atO,.list bA uQ,.list bA yx,.list ag sB,.list ag vJ,V.int .i64 p5,.list ab o9,.list ab zQ,.list ab zR,.list ab tT,.list ab uU,.list ab MN,.list ab MO,.list ab adX,.list ab atP,.list ab Pr,.list ab atQ,.list ab atS]) (un fun atT=>un fun (atU:Bool)=>un fun (atV:LV)=>un fun (atW:LV)=>un fun (atX:LV)=>un fun (G7:LV)=>un fun G8=>un fun (G9:LV)=>un fun (Ha:LV)=>un fun (Dc:LV)=>un fun (atY:LV)=>un fun (atZ:LV)=>un fun (Hb:LV)=>un fun (Ui:LV)=>un fun (Uj:LV)=>un fun (De:LV)=>un fun (xB:LV)=>un fun (Hc:LV)=>un fun (axX:LV) (Hd:LV)=>
  some [V.int .i64 atT,.bool false,.bool false,.list bA atV,.list bA atW,.list ag atX,.list ag G7,V.int .i64 G8,.list ab G9,.list ab Ha,.list ab Dc,.list ab atY,.list ab atZ,.list ab Hb,.list ab Ui,.list ab Uj,.list ab De,.list ab xB,.list ab Hc,.list ab Hd]))
theorem at1 {qs:Int} {eT eU ez fe:LV} {ff:Int} {fg fh fi fj fk fl fm fo fp fq ft aM:LV} {r:Option LV} (h:NG CC qs eT eU ez fe ff fg fh fi fj fk fl fm fo fp fq ft aM=r):CC FV [V.int .i64 qs,.list bA eT,.list bA eU,.list ag ez,.list ag fe,V.int .i64 ff,.list ab fg,.list ab fh,.list ab fi,.list ab fj,.list ab fk,.list ab fl,.list ab fm,.list ab fo,.list ab fp,.list ab fq,.list ab ft,.list ab aM]=r:=bQ (bC (atL CC) aw) h
def RV (R:List (List Nat)):LV:=R.map fun r=> .list ab (nS r)
structure RG (K:Nat) (R:List (List Nat)):Prop where
 lt: ∀i,i<R.length→∀x∈R.getD i [],x<K
 len: ∀i,i<R.length→(R.getD i []).length≤1000
 rl:R.length≤10
def NX (R:List (List Nat)) (l:LV):Prop:=l.length=R.length∧∀i,i<R.length→∃k,k<(R.getD i []).length∧l[i]? =some (nV k)
theorem Dv {R:List (List Nat)} {i:Nat} (hi:i<R.length):idx (RV R) (i:Int)=some (.list ab (nS (R.getD i []))):=by
 rw[RV,ym rfl];simp[hi]
def pJ (p q:List (Nat×Nat)) (R:List (List Nat)) (t:LV) (one:Int) (A B:LV) (l:List V):List V:=
 .list bA (p.map cb):: .list bA (q.map cb):: .list ag (RV R)::(Nx t one A B++l)
section
variable {K:Nat} {R:List (List Nat)} (hR:RG K R) {nx:LV} (hN:NX R nx)
include hR hN
theorem aeI: ∃f:Nat→Nat,∀i,i<R.length→f i<K∧∃k,nx[i]? =some (nV k)∧idx (nS (R.getD i [])) (k:Int)=some (nV (f i)):=by
 have hex: ∀i,∃y,i<R.length→y<K∧∃k,nx[i]? =some (nV k)∧idx (nS (R.getD i [])) (k:Int)=some (nV y):=fun i=>by
  by_cases c:i<R.length
  ·obtain ⟨k,hk,hg⟩:=hN.2 i c;exact ⟨(R.getD i [])[k],fun _=>⟨hR.lt i c _ (dm hk),k,hg,iw hk⟩⟩
  ·exact ⟨0,fun c2=>absurd c2 c⟩
 exact Classical.axiomOfChoice hex
theorem aeJ {p q:List (Nat×Nat)} {t A B:LV} {one:Int}: ∃vs,VL K R.length vs∧CC FW (pJ p q R t one A B [.list ab nx])=some (pJ p q R t one A B [.list ab vs,.list ab nx]):=by
 have h10:=hR.rl;have hl:=hN.1;obtain ⟨f,hf⟩:=aeI hR hN;refine ⟨tab R.length fun i=>nV (f i),⟨fG,fun i hi=>⟨f i,(hf i hi).1,nq hi⟩⟩,atF ?_⟩;unfold aeG;rw[hl];refine bT (fO (by omega) (by omega)) ?_;rw[Int.toNat_natCast];refine bs (tW (fun i a=>((i:Int),a)) R.length (fun i=>nV (f i)) (List.replicate R.length (V.int .i64 0)) (by simp) (fun a=>((R.length:Int),false,a)) (fun i hi a ha=> ?_) ?_) rfl
 ·obtain ⟨k,hk,tk⟩:=(hf i hi).2;simp only[U5,HY,un,aP,bj];refine bT (bh hi) ((bX hk).trans (bs (Dv hi) ?_));rw[V.ei];refine bs tk ((ri (by omega)).trans ?_);rw[br (by omega),Int.toNat_natCast];rfl
 ·simp only[U5,HY,un];refine bF (aV (av _)) ?_;rw[aV (av _)]
theorem at2 {p q:List (Nat×Nat)} {t A B:LV} {one:Int}: ∃b lI,NX R lI∧CC F6 (pJ p q R t one A B [.list ab nx])=some (.bool b::pJ p q R t one A B [.list ab lI]):=by
 have h10:=hR.rl;have hl:=hN.1;have put: ∀{l:LV} {i k:Nat},NX R l→i<R.length→k<(R.getD i []).length→NX R (l.set i (nV k)):=fun {l i k} hn hi hk=>⟨by rw[od,hn.1],fun j hj=>by
  by_cases c:i=j
  ·subst c;exact ⟨k,hk,oN (by rw[hn.1];exact hi)⟩
  ·rw[uf c];exact hn.2 j hj⟩
 have key: ∀(d:Nat) (l:LV),d≤R.length→NX R l→∃r,Loop (HZ CC (p.map cb) (q.map cb) (RV R) t one [] A B [] [] [] [] [] [] [] []) ((d:Int)-1,l)=some r∧((∃b l',NX R l'∧r= .inl (b,l'))∨∃j b l',NX R l'∧r= .inr (j,b,l')):=by
  intro d
  induction d with
  | zero=>
   intro l _ hn;refine ⟨_,jX (r:= .inr (((0:Nat):Int)-1,false,l)) ?_,.inr ⟨_,_,l,hn,rfl⟩⟩;simp only[HZ,Dt,un];exact bF rfl rfl
  | succ i ih=>
   intro l hd hn;have hi:i<R.length:=by omega
   have e1:(((i+1:Nat):Int)-1)=(i:Int):=by omega
   rw[e1];obtain ⟨k,hk,hg⟩:=hn.2 i hi;have BJ:=hR.len i hi;have jg:(l.set i (.int .i64 ((k+1:Nat):Int)))[i]? =some (nV (k+1)):=oN (by rw[hn.1];exact hi);have w1:wrap .i64 ((nV k).toInt+1)=((k+1:Nat):Int):=br (by omega);by_cases c:k+1<(R.getD i []).length
   ·refine ⟨.inl (true,l.set i (nV (k+1))),jX ?_,.inl ⟨_,_,put hn hi c,rfl⟩⟩;simp only[HZ,Dt,un,aP,bj,Int.toNat_natCast];refine bT (cp (by omega)) ((bX hg).trans ((bX hg).trans ?_));simp only[w1];refine (bX jg).trans (bs (Dv hi) ?_)
    rw[V.ei,dy];exact bT (cp (by show ((k+1:Nat):Int)<_;omega)) rfl
   ·have eQ:0<(R.getD i []).length:=by omega
    obtain ⟨r,e,hr⟩:=ih (l.set i (nV 0)) (by omega) (put hn hi eQ);refine ⟨r,(iR ?_).trans e,hr⟩;simp only[HZ,Dt,un,aP,bj,Int.toNat_natCast];refine bT (cp (by omega)) ((bX hg).trans ((bX hg).trans ?_));simp only[w1];refine (bX jg).trans (bs (Dv hi) ?_)
    rw[V.ei,dy];refine bF (da (by show¬((k+1:Nat):Int)<_;omega)) ((bX jg).trans ?_);rw[AI];have w2:wrap .i64 ((i:Int)-1)=(i:Int)-1:=wrap64 (by omega) (by omega);rw[w2];rfl
 obtain ⟨r,e,hr⟩:=key R.length nx (av _) hN;have w3:wrap .i64 ((R.length:Int)-1)=(R.length:Int)-1:=wrap64 (by omega) (by omega);have fin: ∀z,ND CC (p.map cb) (q.map cb) (RV R) t one [] A B [] [] [] [] [] [] [] [] nx=z→CC F6 (pJ p q R t one A B [.list ab nx])=z:=fun z h=>atI h;rcases hr with ⟨b,l',pd,rfl⟩|⟨j,b,l',pd,rfl⟩
 ·refine ⟨b,l',pd,fin _ ?_⟩;unfold ND;rw[hl,w3];exact bs e rfl
 ·refine ⟨false,l',pd,fin _ ?_⟩;unfold ND;rw[hl,w3];exact bs e rfl
end
section
variable {K:Nat} {mul:Nat→Nat→Nat} (h:Tb K mul) {R:List (List Nat)} (hR:RG K R) {p q:List (Nat×Nat)} (hp: ∀s∈p,fy s) (hq: ∀s∈q,fy s) (Ny:p.length≤1000) (Nz:q.length≤1000) {A B:LV} (hP:qq K p p.length A B) (hQ:qq K q q.length A B)
  {one:Int} (h1:(∃s∈p,s.1=0)→∃o:Nat,o<K∧one=(o:Int)) (h2:(∃s∈q,s.1=0)→∃o:Nat,o<K∧one=(o:Int)) (hw:vR R.length p 0=some 1) (GI:vR R.length q 0=some 1)
include h hR hp hq Ny Nz hP hQ h1 h2 hw GI
theorem at3 {nx:LV} (hN:NX R nx) {lim:Nat} (axY:lim≤2000000): ∃(s:Int) (b1 b2:Bool) (lI:LV),NX R lI∧CC FV (.int .i64 (lim:Int)::pJ p q R (tG K mul) one A B [.list ab nx])=some (.int .i64 s:: .bool b1:: .bool b2::pJ p q R (tG K mul) one A B [.list ab lI]):=by
 have h10:=hR.rl;obtain ⟨vs0,Qw,e0⟩:=aeJ hR hN (p:=p) (q:=q) (t:=tG K mul) (A:=A) (B:=B) (one:=one);have fill: ∀{vs nx:LV} {s:Int},VL K R.length vs→NX R nx→∃rJ,VL K R.length rJ∧Loop (NF CC (lim:Int) s (R.length:Int) (p.map cb) (q.map cb) (RV R) (tG K mul) one [] A B [] [] [] [] [] [] [] [] nx) (0,vs)=some ((R.length:Int),false,rJ):=by
  intro vs nx s hv hn;obtain ⟨f,hf⟩:=aeI hR hn;refine ⟨tab R.length fun i=>nV (f i),⟨fG,fun i hi=>⟨f i,(hf i hi).1,nq hi⟩⟩,?_⟩;refine tW (fun i a=>((i:Int),a)) R.length (fun i=>nV (f i)) vs hv.1 (fun a=>((R.length:Int),false,a)) (fun i hi a ha=> ?_) ?_
  ·obtain ⟨k,hk,tk⟩:=(hf i hi).2;simp only[NF,H0,un,aP,bj];refine bT (bh hi) ((bX hk).trans (bs (Dv hi) ?_));rw[V.ei];refine bs tk ((ri (by omega)).trans ?_);rw[br (by omega),Int.toNat_natCast];rfl
  ·simp only[NF,H0,un];refine bF (aV (av _)) ?_;rw[aV (av _)]
 have key:=Lf (step:=Du CC (lim:Int)) (fun x=> ∃(s:Nat) (vs nx:LV),x=((s:Int),p.map cb,q.map cb,RV R,tG K mul,one,[],A,B,[],[],[],[],[],[],[],[],vs,nx)∧VL K R.length vs∧NX R nx∧s≤lim) (fun x=>lim-x.1.toNat)
  (fun r=>(∃(s:Int) (b1 b2:Bool) (lI:LV),NX R lI∧r= .inl (s,b1,b2,p.map cb,q.map cb,RV R,tG K mul,one,[],A,B,[],[],[],[],[],[],[],[],lI))∨∃(s:Int) (b:Bool) (vs lI:LV),NX R lI∧r= .inr (s,b,p.map cb,q.map cb,RV R,tG K mul,one,[],A,B,[],[],[],[],[],[],[],[],vs,lI))
  (fun x hx=> ?_) ((0:Int),p.map cb,q.map cb,RV R,tG K mul,one,[],A,B,[],[],[],[],[],[],[],[],vs0,nx) ⟨0,vs0,nx,rfl,Qw,hN,mO _⟩
 ·obtain ⟨r,e,hr⟩:=key;have fin: ∀z,NG CC (lim:Int) (p.map cb) (q.map cb) (RV R) (tG K mul) one [] A B [] [] [] [] [] [] [] [] nx=z→CC FV (.int .i64 (lim:Int)::pJ p q R (tG K mul) one A B [.list ab nx])=z:=fun z h=>at1 h;rcases hr with ⟨s,b1,b2,lI,pd,rfl⟩|⟨s,b,vs,lI,pd,rfl⟩
  ·refine ⟨s,b1,b2,lI,pd,fin _ ?_⟩;unfold NG;exact bs e0 (bs e rfl)
  ·refine ⟨s,false,false,lI,pd,fin _ ?_⟩;unfold NG;exact bs e0 (bs e rfl)
 ·obtain ⟨s,vs,nx,rfl,hv,hn,hs⟩:=hx;by_cases c:s<lim
  ·obtain ⟨rJ,uZ,ef⟩:=fill (s:=wrap .i64 ((s:Int)+1)) hv hn;obtain ⟨y1,_,U7⟩:=aeF h hp Ny hP h1 uZ hw;obtain ⟨y2,_,U8⟩:=aeF h hq Nz hQ h2 uZ GI;obtain ⟨b,lI,pd,ea⟩:=at2 hR hn (p:=p) (q:=q) (t:=tG K mul) (A:=A) (B:=B) (one:=one);by_cases cy:((y1:Int) != (y2:Int))=true
   ·refine .inr ⟨.inl (wrap .i64 ((s:Int)+1),true,true,p.map cb,q.map cb,RV R,tG K mul,one,[],A,B,[],[],[],[],[],[],[],[],nx),?_,.inl ⟨_,_,_,_,hn,rfl⟩⟩;simp only[Du,z8,un];refine bT (bh c) ?_;rw[hn.1];exact bs ef (bs U7 (bs U8 (bT cy rfl)))
   ·have cy:((y1:Int) != (y2:Int))=false:=by simpa using cy
    cases b with
    | false=>
     refine .inr ⟨.inl (wrap .i64 ((s:Int)+1),false,true,p.map cb,q.map cb,RV R,tG K mul,one,[],A,B,[],[],[],[],[],[],[],[],lI),?_,.inl ⟨_,_,_,_,pd,rfl⟩⟩;simp only[Du,z8,un];refine bT (bh c) ?_;rw[hn.1];exact bs ef (bs U7 (bs U8 (bF cy (bs ea (bT rfl rfl)))))
    | true=>
     refine .inl ⟨(((s+1:Nat):Int),p.map cb,q.map cb,RV R,tG K mul,one,[],A,B,[],[],[],[],[],[],[],[],rJ,lI),?_,⟨s+1,rJ,lI,rfl,uZ,pd,c⟩,?_⟩
     ·simp only[Du,z8,un];refine bT (bh c) ?_;rw[hn.1];refine bs ef (bs U7 (bs U8 (bF cy (bs ea (bF rfl ?_)))));rw[br (by omega)];rfl
     ·show lim-((s+1:Nat):Int).toNat<lim-(s:Int).toNat
      omega
  ·refine .inr ⟨.inr ((s:Int),false,p.map cb,q.map cb,RV R,tG K mul,one,[],A,B,[],[],[],[],[],[],[],[],vs,nx),?_,.inr ⟨_,_,_,_,hn,rfl⟩⟩;simp only[Du,z8,un];refine bF (aV (by omega)) ?_;rw[aV (by omega)]
end
noncomputable def H2 (C:af) (table dH t15:LV) (t16 t17:Int) (mJ:LV) {β:Type} (kn:(Int×LV)→Option β) (kr:((Bool) ⊕ (Int×Bool×LV))→Option β):Option β:=
 bif decide (t17<t16) then
  (idx t15 t17).bind fun x1=>
  bif decide ((x1.toInt:Int)<0) then
  kr (.inl false)
  else
  bif decide ((x1.toInt:Int)≥(table.length:Int)) then
   kr (.inl false)
  else
   bif decide (t17>0) then
   (idx dH (wrap .i64 (t17-1))).bind fun x2=>
   bif decide ((x2.toInt:Int)≥x1.toInt) then
    kr (.inl false)
   else
    bif (decide (0≤x1.toInt))&&(decide (x1.toInt<(mJ.length:Int))) then
    (mJ[(x1.toInt:Int).toNat]?).bind fun x3=>
    kn (wrap .i64 (t17+1),bj mJ (x1.toInt) (.bool true))
    else none
   else
   bif (decide (0≤x1.toInt))&&(decide (x1.toInt<(mJ.length:Int))) then
    (mJ[(x1.toInt:Int).toNat]?).bind fun x4=>
    kn (wrap .i64 (t17+1),bj mJ (x1.toInt) (.bool true))
   else none
 else
  kr (.inr (t17,decide (t17<t16),mJ))
noncomputable def NH (C:af) (table dH t15:LV) (t16:Int):=un fun t17 mJ=>H2 C table dH t15 t16 t17 mJ (fun y=>some (Sum.inl y)) (fun r=>some (Sum.inr r))
noncomputable def H3 (C:af) (table dH:LV) (x:Int) (t47:LV) (t48 t49:Int) (t53:LV) (t54:Int) (mJ:LV) (t55:Int) {β:Type} (kn:Int→Option β) (kr:((Bool) ⊕ (Int×Bool))→Option β):Option β:=
 bif decide (t55<t54) then
  (idx t53 t55).bind fun nU=>
  (idx table x).bind fun pH=>
  (idx pH.toList nU.toInt).bind fun kR=>
  bif (decide (0≤kR.toInt))&&(decide (kR.toInt<(mJ.length:Int))) then
  (mJ[(kR.toInt:Int).toNat]?).bind fun NI=>
  bif !NI.toBool then
   kr (.inl false)
  else
   kn (wrap .i64 (t55+1))
  else none
 else
  kr (.inr (t55,decide (t55<t54)))
noncomputable def NJ (C:af) (table dH:LV) (x:Int) (t47:LV) (t48 t49:Int) (t53:LV) (t54:Int) (mJ:LV):=fun t55=>H3 C table dH x t47 t48 t49 t53 t54 mJ t55 (fun y=>some (Sum.inl y)) (fun r=>some (Sum.inr r))
noncomputable def H4 (C:af) (table dH t47:LV) (t48:Int) (mJ:LV) (t49:Int) {β:Type} (kn:Int→Option β) (kr:((Bool) ⊕ (Int×Bool))→Option β):Option β:=
 bif decide (t49<t48) then
  (idx t47 t49).bind fun x9=>
  (Loop (NJ C table dH x9.toInt t47 t48 t49 dH (dH.length:Int) mJ) 0).bind (gj (fun (uS:Bool)=>
   kr (.inl uS)) (un fun (JU:Int) (yE:Bool)=>
   kn (wrap .i64 (t49+1))))
 else
  kr (.inr (t49,decide (t49<t48)))
noncomputable def NK (C:af) (table dH t47:LV) (t48:Int) (mJ:LV):=fun t49=>H4 C table dH t47 t48 mJ t49 (fun y=>some (Sum.inl y)) (fun r=>some (Sum.inr r))
noncomputable def U9 (C:af):cF:=bN 49 SV [EQ,EQ,EQ,EQ,H1,H1] [[0],[1,2,3,4,0,0,0]] (@H2 C) (bN 209 SW [EQ,EQ,EQ,EQ,EQ,EQ,EQ,EQ,H1,EQ] [[0],[1,2,3,4,5,6,7,8,0,0,10]] (@H3 C) (bN 161 SX [EQ,EQ,EQ,EQ,H1,EQ] [[0],[1,2,3,4,0,0,6]] (@H4 C) bO))
theorem at4 (C:af):bB C (U9 C) 108 (Lp [1,1,0,1,0,0] 108):=bP SV [EQ,EQ,EQ,EQ,H1,H1] [[0],[1,2,3,4,0,0,0]] (@H2 C) (bu aw)
theorem at5 (C:af):bB C (U9 C) 108 (Lp [1,1,1,0,1,0,0,1,1,0,0,1,1,0,0] 108):=bP SW [EQ,EQ,EQ,EQ,EQ,EQ,EQ,EQ,H1,EQ] [[0],[1,2,3,4,5,6,7,8,0,0,10]] (@H3 C) (bu aw)
theorem at6 (C:af):bB C (U9 C) 108 (Lp [1,1,1,0,1,0,0] 108):=bP SX [EQ,EQ,EQ,EQ,H1,EQ] [[0],[1,2,3,4,0,0,6]] (@H4 C) (bu (bC (at5 C) aw))
noncomputable def NL (C:af) (table dH:LV):Option LV:=
 bif (decide (0≤(table.length:Int)))&&((decide ((table.length:Int)≤(table.length:Int)))&&(Nat.ble (((table.length:Int).toNat)*1) aW)) then
  (Loop (NH C table dH dH (dH.length:Int)) (0,List.replicate ((table.length:Int).toNat) (V.bool false))).bind (gj (fun (kC:Bool)=>
   some [.bool kC]) (un fun j7=>un fun (oo:Bool) (at7:LV)=>
   (Loop (NK C table dH dH (dH.length:Int) at7) 0).bind (gj (fun (Nr:Bool)=>
    some [.bool Nr]) (un fun (UL:Int) (UM:Bool)=>
    some [.bool true]))))
 else none
theorem aua {table dH:LV} {r:Option LV} (h:NL CC table dH=r):CC F3 [.list ag table,.list ab dH]=r:=bQ (bC (at4 CC) (bC (at6 CC) aw)) h
section
variable {K:Nat} {mul:Nat→Nat→Nat} (h:Tb K mul) {Z:List Nat} (hZ: ∀z∈Z,z<K) (hl:Z.length≤400)
include h hZ hl
theorem aub: ∃b,CC F3 [.list ag (tG K mul),.list ab (nS Z)]=some [.bool b]:=by
 have h4:=h.k4;have l1: ∃r,Loop (NH CC (tG K mul) (nS Z) (nS Z) (Z.length:Int)) (0,List.replicate K (V.bool false))=some r∧((∃b,r= .inl b)∨∃a:LV,a.length=K∧r= .inr ((Z.length:Int),false,a)):=by
  refine xy (fun i x=> ∃a:LV,a.length=K∧x=((i:Int),a)) (fun (r:Bool ⊕ (Int×Bool×LV))=>(∃b,r= .inl b)∨∃a:LV,a.length=K∧r= .inr ((Z.length:Int),false,a)) Z.length (fun i hi x hx=> ?_) (fun x hx=> ?_) Z.length 0 _ (dt _) ⟨_,by simp,rfl⟩
  ·obtain ⟨a,oI,rfl⟩:=hx;have hz:=hZ _ (dm hi);simp only[NH,H2,un];rw[rj];have fin:(bif (decide (0≤(nV Z[i]).toInt))&&(decide ((nV Z[i]).toInt<(a.length:Int))) then
     (a[((nV Z[i]).toInt:Int).toNat]?).bind fun _=>some (Sum.inl (β:=Bool ⊕ (Int×Bool×LV)) (wrap .i64 ((i:Int)+1),bj a ((nV Z[i]).toInt) (V.bool true)))
     else none)=some (Sum.inl (((i+1:Nat):Int),bj a ((nV Z[i]).toInt) (V.bool true))):=by
    refine bT (ou (by rw[oI];exact hz)) (bs (bU (by rw[oI];exact hz)) ?_);rw[br (by omega)]
   have jg:(bj a ((nV Z[i]).toInt) (V.bool true)).length=K:=by simp only[bj];rw[od,oI]
   rcases DE i with c|c
   ·exact .inl ⟨_,bT (bh hi) (bs (iw hi) (bF xx (bF (Db hz) (bF (by simp[c]) fin)))),_,jg,rfl⟩
   ·have hp:idx (nS Z) (wrap .i64 ((i:Int)-1))=some (nV (Z[i-1]'(by omega))):=by
     rw[show wrap .i64 ((i:Int)-1)=((i-1:Nat):Int) by rw[show ((i:Int)-1)=((i-1:Nat):Int) by omega];exact wrap64 (by omega) (by omega)];exact iw (by omega)
    by_cases c2:((Z[i-1]'(by omega):Nat):Int)≥(Z[i]:Nat)
    ·exact .inr ⟨_,bT (bh hi) (bs (iw hi) (bF xx (bF (Db hz) (bT (cp (by omega)) (bs hp (bT (cp c2) rfl)))))),.inl ⟨_,rfl⟩⟩
    ·exact .inl ⟨_,bT (bh hi) (bs (iw hi) (bF xx (bF (Db hz) (bT (cp (by omega)) (bs hp (bF (da c2) fin)))))),_,jg,rfl⟩
  ·obtain ⟨a,oI,rfl⟩:=hx;simp only[NH,H2,un];exact ⟨_,bF (aV (av _)) rfl,.inr ⟨a,oI,by rw[aV (av _)]⟩⟩
 have l2: ∀{a:LV} {x:Nat} {s:LV} {p q:Int} {u:LV},a.length=K→x<K→s=nS Z→∃r,Loop (NJ CC (tG K mul) (nS Z) (x:Int) u p q s (Z.length:Int) a) 0=some r∧((∃b,r= .inl b)∨r= .inr ((Z.length:Int),false)):=by
  rintro a x _ p q u oI hx rfl;refine xy (fun i x=>x=(i:Int)) (fun (r:Bool ⊕ (Int×Bool))=>(∃b,r= .inl b)∨r= .inr ((Z.length:Int),false)) Z.length (fun i hi y hy=> ?_) (fun y hy=> ?_) Z.length 0 _ (dt _) rfl
  ·subst hy;have hz:=hZ _ (dm hi);have hm:=h.lt _ _ hx hz;simp only[NJ,H3];have ky:a[mul x Z[i]]? =some (a[mul x Z[i]]'(by rw[oI];exact hm)):=bU (by rw[oI];exact hm);cases hb:(a[mul x Z[i]]'(by rw[oI];exact hm)).toBool with
   | true=>
    refine .inl ⟨_,bT (bh hi) (bs (iw hi) (bs (mI hx) (bs (oH hz) (bT (ou (by rw[oI];exact hm)) (bs ky (bF (by rw[hb];rfl) rfl)))))),?_⟩;rw[br (by omega)]
   | false=>
    exact .inr ⟨_,bT (bh hi) (bs (iw hi) (bs (mI hx) (bs (oH hz) (bT (ou (by rw[oI];exact hm)) (bs ky (bT (by rw[hb];rfl) rfl)))))),.inl ⟨_,rfl⟩⟩
  ·subst hy;simp only[NJ,H3];exact ⟨_,bF (aV (av _)) rfl,.inr (by rw[aV (av _)])⟩
 have l3: ∀{a:LV},a.length=K→∃r,Loop (NK CC (tG K mul) (nS Z) (nS Z) (Z.length:Int) a) 0=some r∧((∃b,r= .inl b)∨r= .inr ((Z.length:Int),false)):=by
  intro a oI;refine xy (fun i x=>x=(i:Int)) (fun (r:Bool ⊕ (Int×Bool))=>(∃b,r= .inl b)∨r= .inr ((Z.length:Int),false)) Z.length (fun i hi y hy=> ?_) (fun y hy=> ?_) Z.length 0 _ (dt _) rfl
  ·subst hy;have hz:=hZ _ (dm hi);obtain ⟨r,e,hr⟩:=l2 (a:=a) (x:=Z[i]) (s:=nS Z) (p:=(Z.length:Int)) (q:=(i:Int)) (u:=nS Z) oI hz rfl;simp only[NK,H4];rcases hr with ⟨b,rfl⟩|rfl
   ·exact .inr ⟨_,bT (bh hi) (bs (iw hi) (bs (by rw[dy];exact e) rfl)),.inl ⟨_,rfl⟩⟩
   ·refine .inl ⟨_,bT (bh hi) (bs (iw hi) (bs (by rw[dy];exact e) rfl)),?_⟩;rw[br (by omega)]
  ·subst hy;simp only[NK,H4];exact ⟨_,bF (aV (av _)) rfl,.inr (by rw[aV (av _)])⟩
 have fin: ∀z,NL CC (tG K mul) (nS Z)=z→CC F3 [.list ag (tG K mul),.list ab (nS Z)]=z:=fun z h=>aua h;have body: ∃b,NL CC (tG K mul) (nS Z)=some [.bool b]:=by
  unfold NL;rw[rj,dy];obtain ⟨r,e,hr⟩:=l1;rcases hr with ⟨b,rfl⟩|⟨a,oI,rfl⟩
  ·exact ⟨b,bT (fO (by omega) (by omega)) (bs e rfl)⟩
  ·obtain ⟨r,e2,hr⟩:=l3 oI;rcases hr with ⟨b,rfl⟩|rfl
   ·exact ⟨b,bT (fO (by omega) (by omega)) (bs e (bs e2 rfl))⟩
   ·exact ⟨true,bT (fO (by omega) (by omega)) (bs e (bs e2 rfl))⟩
 obtain ⟨b,hb⟩:=body;exact ⟨b,fin _ hb⟩
end
noncomputable def H5 (C:af) (table dH:LV) (i t33 t34:Int) (t37:LV) (t38:Int) (z9 Aa Ab Ac Ad Ae Af Ag Ah Ai Aj Ak:Bool) (t39:Int) (kU:LV) {β:Type} (kn:(Int×LV)→Option β) (kr:(Int×Bool×LV)→Option β):Option β:=
 bif decide (t39<t38) then
  (idx t37 t39).bind fun x4=>
  bif (decide (0≤i))&&(decide (i<6)) then
  (([.bool z9,.bool Aa,.bool Ab,.bool Ac,.bool Ad,.bool Ae]:LV)[0+((i.toNat)*1)]?).bind fun x5=>
  bif !x5.toBool then
   aP kU i fun x6=>
   (kU[i.toNat]?).bind fun x7=>
   bif Nat.ble ((x7.toList.length+([V.int .i64 x4.toInt]:LV).length)*8) aW then
   Cm kU i <|
   bif (Nat.beq (i.toNat) (i.toNat))&&true then
    kn (wrap .i64 (t39+1),bj kU i (.list ab (x7.toList++([V.int .i64 x4.toInt]:LV))))
   else none
   else none
  else
   bif (decide (0≤i))&&(decide (i<6)) then
   (([.bool Af,.bool Ag,.bool Ah,.bool Ai,.bool Aj,.bool Ak]:LV)[0+((i.toNat)*1)]?).bind fun x8=>
   bif x8.toBool then
    aP kU i fun x9=>
    (kU[i.toNat]?).bind fun nU=>
    bif Nat.ble ((nU.toList.length+([V.int .i64 x4.toInt]:LV).length)*8) aW then
    Cm kU i <|
    bif (Nat.beq (i.toNat) (i.toNat))&&true then
     kn (wrap .i64 (t39+1),bj kU i (.list ab (nU.toList++([V.int .i64 x4.toInt]:LV))))
    else none
    else none
   else
    (idx table x4.toInt).bind fun pH=>
    (idx pH.toList x4.toInt).bind fun kR=>
    bif (kR.toInt:Int)==x4.toInt then
    aP kU i fun NI=>
    (kU[i.toNat]?).bind fun JZ=>
    bif Nat.ble ((JZ.toList.length+([V.int .i64 x4.toInt]:LV).length)*8) aW then
     Cm kU i <|
     bif (Nat.beq (i.toNat) (i.toNat))&&true then
     kn (wrap .i64 (t39+1),bj kU i (.list ab (JZ.toList++([V.int .i64 x4.toInt]:LV))))
     else none
    else none
    else
    kn (wrap .i64 (t39+1),kU)
   else none
  else none
 else
  kr (t39,decide (t39<t38),kU)
noncomputable def H6 (C:af) (table dH:LV) (i t33 t34:Int) (t37:LV) (t38:Int) (z9 Aa Ab Ac Ad Ae Af Ag Ah Ai Aj Ak:Bool):=un fun t39 kU=>H5 C table dH i t33 t34 t37 t38 z9 Aa Ab Ac Ad Ae Af Ag Ah Ai Aj Ak t39 kU (fun y=>some (Sum.inl y)) (fun r=>some (Sum.inr r))
noncomputable def H7 (C:af) (table dH:LV) (t33:Int) (z9 Aa Ab Ac Ad Ae Af Ag Ah Ai Aj Ak:Bool) (t34:Int) (kU:LV) {β:Type} (kn:(Int×LV)→Option β) (kr:(Int×Bool×LV)→Option β):Option β:=
 bif decide (t34<t33) then
  (Loop (H6 C table dH t34 t33 t34 dH (dH.length:Int) z9 Aa Ab Ac Ad Ae Af Ag Ah Ai Aj Ak) (0,kU)).bind (un fun JU=>un fun (yE:Bool) (auc:LV)=>
   kn (wrap .i64 (t34+1),auc))
 else
  kr (t34,decide (t34<t33),kU)
noncomputable def H8 (C:af) (table dH:LV) (t33:Int) (z9 Aa Ab Ac Ad Ae Af Ag Ah Ai Aj Ak:Bool):=un fun t34 kU=>H7 C table dH t33 z9 Aa Ab Ac Ad Ae Af Ag Ah Ai Aj Ak t34 kU (fun y=>some (Sum.inl y)) (fun r=>some (Sum.inr r))
noncomputable def aeK (C:af):cF:=bN 161 SY [EQ,EQ,EQ,EQ,EQ,EQ,EQ,H1,EQ,EQ,EQ,EQ,EQ,EQ,EQ,EQ,EQ,EQ,EQ,EQ,H1] [[1,2,3,4,5,6,7,0,0,9,10,11,12,13,14,15,16,17,18,19,20,0]] (@H5 C) (bN 113 SZ [EQ,EQ,EQ,H1,EQ,EQ,EQ,EQ,EQ,EQ,EQ,EQ,EQ,EQ,EQ,EQ,H1] [[1,2,3,0,0,5,6,7,8,9,10,11,12,13,14,15,16,0]] (@H7 C) bO)
theorem aud (C:af):bB C (aeK C) 112 (Lp [1,1,1,1,1,1,0,1,0,0,1,1,0,0,1,1,0,0] 112):=bP SY [EQ,EQ,EQ,EQ,EQ,EQ,EQ,H1,EQ,EQ,EQ,EQ,EQ,EQ,EQ,EQ,EQ,EQ,EQ,EQ,H1] [[1,2,3,4,5,6,7,0,0,9,10,11,12,13,14,15,16,17,18,19,20,0]] (@H5 C) (bu aw)
theorem aue (C:af):bB C (aeK C) 112 (Lp [1,1,1,1,1,1,0,1,0,0] 112):=bP SZ [EQ,EQ,EQ,H1,EQ,EQ,EQ,EQ,EQ,EQ,EQ,EQ,EQ,EQ,EQ,EQ,H1] [[1,2,3,0,0,5,6,7,8,9,10,11,12,13,14,15,16,0]] (@H7 C) (bu (bC (aud C) aw))
noncomputable def Va (C:af) (table dH:LV) (lJ lL:Int) (lM:LV) (lN lO:Int) (lQ:LV):Option LV:=
 (C gv [V.int .i64 lJ,V.int .i64 lL,.list ai lM,V.int .i64 0,V.int .i64 0,.list ai ([]:LV),.bool false,.bool false,.bool false,.bool false,.bool false,.bool false,.bool false,.bool false,.bool false,.bool false,.bool false,.bool false]).bind fun r1=>
 (C gv [V.int .i64 lN,V.int .i64 lO,.list ai lQ,V.int .i64 0,V.int .i64 0,.list ai ([]:LV),.bool ((V.nth r1 0).toBool),.bool ((V.nth (r1.drop 1) 0).toBool),.bool ((V.nth ((r1.drop 1).drop 1) 0).toBool),.bool ((V.nth (((r1.drop 1).drop 1).drop 1) 0).toBool),.bool ((V.nth ((((r1.drop 1).drop 1).drop 1).drop 1) 0).toBool),.bool ((V.nth (((((r1.drop 1).drop 1).drop 1).drop 1).drop 1) 0).toBool),.bool ((V.nth (r1.drop 6) 0).toBool),.bool ((V.nth ((r1.drop 6).drop 1) 0).toBool),.bool ((V.nth (((r1.drop 6).drop 1).drop 1) 0).toBool),.bool ((V.nth ((((r1.drop 6).drop 1).drop 1).drop 1) 0).toBool),.bool ((V.nth (((((r1.drop 6).drop 1).drop 1).drop 1).drop 1) 0).toBool),.bool ((V.nth ((((((r1.drop 6).drop 1).drop 1).drop 1).drop 1).drop 1) 0).toBool)]).bind fun r2=>
 (C mZ [.list ai ([.agg [V.int .i64 lJ,V.int .i64 lL,.list ai lM],.agg [V.int .i64 lN,V.int .i64 lO,.list ai lQ]]:LV)]).bind fun r3=>
 bif (decide (0≤((V.nth r3 0).toInt)))&&((decide (((V.nth r3 0).toInt)≤((V.nth r3 0).toInt)))&&(Nat.ble ((((V.nth r3 0).toInt:Int).toNat)*24) aW)) then
  (Loop (H8 C table dH ((List.replicate (((V.nth r3 0).toInt:Int).toNat) (V.list ab ([]:LV))).length:Int) ((V.nth r2 0).toBool) ((V.nth (r2.drop 1) 0).toBool) ((V.nth ((r2.drop 1).drop 1) 0).toBool) ((V.nth (((r2.drop 1).drop 1).drop 1) 0).toBool) ((V.nth ((((r2.drop 1).drop 1).drop 1).drop 1) 0).toBool) ((V.nth (((((r2.drop 1).drop 1).drop 1).drop 1).drop 1) 0).toBool) ((V.nth (r2.drop 6) 0).toBool) ((V.nth ((r2.drop 6).drop 1) 0).toBool) ((V.nth (((r2.drop 6).drop 1).drop 1) 0).toBool) ((V.nth ((((r2.drop 6).drop 1).drop 1).drop 1) 0).toBool) ((V.nth (((((r2.drop 6).drop 1).drop 1).drop 1).drop 1) 0).toBool) ((V.nth ((((((r2.drop 6).drop 1).drop 1).drop 1).drop 1).drop 1) 0).toBool)) (0,List.replicate (((V.nth r3 0).toInt:Int).toNat) (V.list ab ([]:LV)))).bind (un fun UL=>un fun (UM:Bool) (auf:LV)=>
   some [.list ag auf])
 else none
theorem aug {table dH:LV} {lJ lL:Int} {lM:LV} {lN lO:Int} {lQ:LV} {r:Option LV} (h:Va CC table dH lJ lL lM lN lO lQ=r):CC CA [.list ag table,.list ab dH,V.int .i64 lJ,V.int .i64 lL,.list ai lM,V.int .i64 lN,V.int .i64 lO,.list ai lQ]=r:=bQ (bC (aue CC) aw) h
noncomputable def aeL (C:af) (list:LV):Option LV:=
 some [.bool ((list.length:Int)==0)]
theorem auh {list:LV} {r:Option LV} (h:aeL CC list=r):CC xi [.list ab list]=r:=bQ (L:=bO) aw h
noncomputable def H9 (C:af) (s:LV) (t7 t8:Int) {β:Type} (kn:Int→Option β) (kr:((Int) ⊕ (Int×Bool))→Option β):Option β:=
 bif decide (t8<t7) then
  (idx s t8).bind fun x1=>
  (C xi [.list ab x1.toList]).bind fun r2=>
  bif (V.nth r2 0).toBool then
  kr (.inl t8)
  else
  kn (wrap .i64 (t8+1))
 else
  kr (.inr (t8,decide (t8<t7)))
noncomputable def NM (C:af) (s:LV) (t7:Int):=fun t8=>H9 C s t7 t8 (fun y=>some (Sum.inl y)) (fun r=>some (Sum.inr r))
noncomputable def aui (C:af):cF:=bN 33 Tw [EQ,EQ,H1] [[0],[1,2,0,0]] (@H9 C) bO
theorem auj (C:af):bB C (aui C) 155 (Lp [1,0,1,0,0] 155):=bP Tw [EQ,EQ,H1] [[0],[1,2,0,0]] (@H9 C) (bu aw)
noncomputable def Vb (C:af) (s:LV):Option LV:=
 (Loop (NM C s (s.length:Int)) 0).bind (gj (fun jJ=>
  some [V.int .i64 jJ]) (un fun (lV:Int) (kC:Bool)=>
  some [V.int .i64 (-1)]))
theorem aeM {s:LV} {r:Option LV} (h:Vb CC s=r):CC Rp [.list ag s]=r:=bQ (bC (auj CC) aw) h
noncomputable def Vc (C:af) (s:LV):Option LV:=
 (C Rp [.list ag s]).bind fun r1=>
 some [.bool (decide ((((V.nth r1 0).toInt):Int)≥0))]
theorem aeN {s:LV} {r:Option LV} (h:Vc CC s=r):CC LH [.list ag s]=r:=bQ (L:=bO) aw h
end Go.AM
