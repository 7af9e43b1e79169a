/-
  Functions of the program, lifted to plain data.
-/
import Derived.Sort.AssemblyPlain
import Derived.Test.YtpigoedhkpjgeaaGreatDoorP5
set_option linter.unusedVariables false
set_option linter.unusedSimpArgs false
set_option linter.unusedSectionVars false
set_option maxRecDepth 100000
namespace Go.AM
open Go.IntKind (wrap)
open Go.Proofs
section
variable {X R:Type} {step:X→Option (X ⊕ R)}
theorem LQ (P:Nat→X→Prop) (Q:R→Prop) (n:Nat) (h: ∀i,i<n→∀x,P i x→(∃y,step x=some (.inl y)∧P (i+1) y)∨∃r,step x=some (.inr r)∧Q r)
  (he: ∀x,P n x→∃r,step x=some (.inr r)∧Q r): ∀(d i:Nat) (x:X),i+d=n→P i x→∃r,Loop step x=some r∧Q r
 | 0,i,x,hi,hx=>by
  obtain rfl:i=n:=hi;obtain ⟨r,h1,h2⟩:=he x hx;exact ⟨r,cT h1,h2⟩
 | d+1,i,x,hi,hx=>by
  rcases h i (by omega) x hx with ⟨y,h1,h2⟩|⟨r,h1,h2⟩
  ·obtain ⟨r,h3,h4⟩:=LQ P Q n h he d (i+1) y (by omega) h2;exact ⟨r,(eJ h1).trans h3,h4⟩
  ·exact ⟨r,cT h1,h2⟩
end
section
variable {α:Type} [DecidableEq α] {ke:α→V} {x:α}
theorem Tj: ∀{S:List α} (i:Nat),(∀a∈S,gZ (ke x) (ke a)=decide (x=a))→fG (ke x) (e8 ke i S)=decide (x∈S)
 | [],_,_=>by simp[e8,fG]
 | a::S,i,h=>by
  have c: ∀(p q:V),(V.aX [p,q]).comp 0=p:=fun p q=>rfl;rw[e8,fG,c,h a (by simp),Tj (i+1) fun b hb=>h b (ka _ hb)];rw[wS];simp
theorem acm {z:V}: ∀{S:List α} (i:Nat),(∀a∈S,gZ (ke x) (ke a)=decide (x=a))→x∈S→jn (ke x) (e8 ke i S) z= .int .i64 ((i+S.idxOf x:Nat):Int)
 | [],_,_,h=>by cases h
 | a::S,i,hk,h=>by
  have c: ∀(p q:V),(V.aX [p,q]).comp 0=p:=fun p q=>rfl;have c1: ∀(p q:V),(V.aX [p,q]).comp 1=q:=fun p q=>rfl;rw[e8,jn,c,c1,hk a (by simp)];by_cases e:x=a
  ·subst e;rw[cZ rfl];simp[e8.iV]
  ·rw[cR e,cond_false,acm (i+1) (fun b hb=>hk b (ka _ hb)) ((lz.1 h).resolve_left e),show (a::S).idxOf x=S.idxOf x+1 from by rw[List.idxOf_cons,show (a==x)=false from vb.2 fun h=>e h.symm];rfl];congr 2;omega
theorem acn: ∀{S:List α} (i:Nat),(∀a∈S,gZ (ke x) (ke a)=decide (x=a))→x∉S→g9 (ke x) (.int .i64 ((i+S.length:Nat):Int)) (e8 ke i S)=e8 ke i (S++[x])
 | [],i,_,_=>by simp[e8,g9,e8.iV]
 | a::S,i,hk,h=>by
  have c: ∀(p q:V),(V.aX [p,q]).comp 0=p:=fun p q=>rfl;have e:x≠a:=fun e=>h (by simp[e]);rw[e8,g9,c,hk a (by simp),cR e,cond_false,List.cons_append,e8];congr 1;have:=acn (i+1) (fun b hb=>hk b (ka _ hb)) fun hx=>h (ka _ hx);rw[←this];simp only[List.length_cons];congr 3;omega
end
section
variable {α:Type} [DecidableEq α] {ke:α→V} {x:α} {S T:List α}
def cQ (S:List α) (a:α):Nat:=S.idxOf a
theorem ky (h:x∈S):cQ S x<S.length:=vj h
theorem aco (hp:T <+: S) (h:x∈T):cQ S x=cQ T x:=A4 hp h
theorem Fp (h:x∈S):S[cQ S x]'(ky h)=x:=HW (ky h)
theorem A8 (h:S.Nodup) {i:Nat} (hi:i<S.length):cQ S S[i]=i:=h.idxOf_getElem i hi
theorem ans (h:x∉S):cQ (S++[x]) x=S.length:=by rw[cQ,zf,aj h];simp
theorem acp (h: ∀a∈S,gZ (ke x) (ke a)=decide (x=a)) (hx:x∈S):fG (ke x) (e8 ke 0 S)=true:=(Tj 0 h).trans (cZ hx)
theorem acq (h: ∀a∈S,gZ (ke x) (ke a)=decide (x=a)) (hx:x∉S):fG (ke x) (e8 ke 0 S)=false:=(Tj 0 h).trans (cR hx)
theorem acr {z:V} (h: ∀a∈S,gZ (ke x) (ke a)=decide (x=a)) (hx:x∈S):(jn (ke x) (e8 ke 0 S) z).toInt=((cQ S x:Nat):Int):=by rw[acm 0 h hx,eT];rfl
end
theorem ant (a b:List UInt8):gZ (.str a) (.str b)=decide (a=b):=by
 simp only[gZ,V.cells,oR,vq,Bool.and_true];rw[wS];simp
def tV (f:List Nat):V:= .list ae (nS f)
def sV (S:List (List Nat)):LV:=S.map tV
def kT (f:List Nat):V:= .str (lX f)
def mT (S:List (List Nat)):LV:=e8 kT 0 S
def iL (l:List Int):LV:=l.map fun x=> .int .i64 x
def wL (l:List (List UInt8)):LV:=l.map V.str
theorem ph {f:List Nat}:(tV f).toList=nS f:=by simp[tV]
theorem Tk {n:Nat} (hn:n≤32) {S:List (List Nat)} (hS: ∀f∈S,Tr n f) {f:List Nat} (hf:Tr n f): ∀a∈S,gZ (kT f) (kT a)=decide (f=a):=fun a ha=>by
 rw[kT,kT,ant,wS,Ch,Ch];exact ⟨fun e=>anm (by omega) hf (hS a ha) e,fun e=>by rw[e]⟩
theorem Fq {S:List (List Nat)} {i:Nat} (h:i<S.length):(sV S)[i]? =some (tV S[i]):=by simp[sV,h]
theorem sU {l:List Int} {i:Nat} (h:i<l.length):(iL l)[i]? =some (.int .i64 (l.getD i 0)):=by simp[iL,h]
theorem wx {l:List (List UInt8)} {i:Nat} (h:i<l.length):(wL l)[i]? =some (.str (l.getD i [])):=by simp[wL,h]
@[simp] theorem wy {S:List (List Nat)}:(sV S).length=S.length:=by simp[sV]
@[simp] theorem auH {l:List Int}:(iL l).length=l.length:=by simp[iL]
@[simp] theorem auI {l:List (List UInt8)}:(wL l).length=l.length:=by simp[wL]
def wz (n D:Nat) (G:LV) (S:List (List Nat)) (P K:List Int) (R:List (List Nat)) (U:LV) (W:List (List UInt8)) (B:List Int) (s:List Nat):List V:=
 [.int .i64 (n:Int),.bool true,.int .i64 (D:Int),.list ah G,.list ah (sV S),.list ae (iL P),.list ae (iL K),.list ah (sV R),.list dU U,.list cC (mT S),.list cp (wL W),.list ae (iL B),.list ae (nS s)]
def LR (n D:Nat) (G:LV) (S:List (List Nat)) (P K:List Int) (R:List (List Nat)) (U:LV) (W:List (List UInt8)) (B:List Int) (s:List Nat):List V:=
 [.int .i64 (n:Int),.bool true,.int .i64 (D:Int),.list ah G,.list cC (mT S),.list ah (sV S),.list ae (iL P),.list ae (iL K),.list ah (sV R),.list dU U,.list cp (wL W),.list ae (iL B),.list ae (nS s)]
def uN (R:List (List Nat)) (s:List Nat) (b:Int) (x:Nat):Nat:=if b= -1 then s.getD x 0 else (R.getD b.toNat []).getD x 0
structure jf (L n:Nat) (g:Nat→List Nat) (S:List (List Nat)) (P K:List Int) (R:List (List Nat)) (W:List (List UInt8)) (B:List Int) (s:List Nat):Prop where
 tr: ∀f∈S,Tr n f
 nd:S.Nodup
 len:S.length≤2000
 lP:P.length=S.length
 lK:K.length=S.length
 lW:W.length=S.length
 lB:B.length=S.length
 row: ∀r∈R,r.length=L∧∀y∈r,y<S.length
 s:s.length≤L∧∀y∈s,y<S.length
 b: ∀i,i<S.length→B.getD i 0= -1∨(0≤B.getD i 0∧B.getD i 0<i)
 w: ∀i,i<S.length→(W.getD i []).length≤i
 p: ∀i,0<i→i<S.length→∃p x:Nat,P.getD i 0=p∧K.getD i 0=x∧p<i∧x<L∧S.getD i []=comp (S.getD p []) (g x)
 id:S.head? =some (List.range n)
section
variable {L n D:Nat} {g:Nat→List Nat} {S:List (List Nat)} {P K:List Int} {R:List (List Nat)} {W:List (List UInt8)} {B:List Int} {s:List Nat} {G U:LV}
theorem jf.grow (h:jf L n g S P K R W B s) {f:List Nat} (hf:Tr n f) (hn:f∉S) (hl:S.length<2000) {p x:Nat} {w:List UInt8} {b:Int} (hp:p<S.length) (hx:x<L) (hw:w.length≤S.length) (hb:b= -1∨(0≤b∧b<S.length)) (e:f=comp (S.getD p []) (g x)):
  jf L n g (S++[f]) (P++[(p:Int)]) (K++[(x:Int)]) R (W++[w]) (B++[b]) s:=by
 have a1: ∀{α:Type} {l:List α} {z d:α} {i:Nat},i<l.length→(l++[z]).getD i d=l.getD i d:=fun {α l z d i} hi=>by
  rw[vi,vi,mq hi]
 have a2: ∀{α:Type} {l:List α} {z d:α} {i:Nat},i=l.length→(l++[z]).getD i d=z:=fun {α l z d i} hi=>by subst hi;simp
 have c: ∀i,i<(S++[f]).length→i<S.length∨i=S.length:=fun i hi=>by simp at hi;omega
 refine ⟨fun a ha=> ?_,?_,by simp;omega,by simp[h.lP],by simp[h.lK],by simp[h.lW],by simp[h.lB],fun r hr=>⟨(h.row r hr).1,fun y hy=>by have:=(h.row r hr).2 y hy;simp;omega⟩,⟨h.s.1,fun y hy=>by have:=h.s.2 y hy;simp;omega⟩,fun i hi=> ?_,fun i hi=> ?_,fun i h0 hi=> ?_,?_⟩
 ·rcases eS.1 ha with ha|ha
  ·exact h.tr a ha
  ·rw[fl.1 ha];exact hf
 ·refine Ce.2 ⟨h.nd,by simp,fun a ha b hb e=> ?_⟩;rw[fl.1 hb] at e;exact hn (e▸ha)
 ·rcases c i hi with c|c
  ·rw[a1 (by rw[h.lB];exact c)];exact h.b i c
  ·rw[a2 (by rw[h.lB];exact c),c];exact hb
 ·rcases c i hi with c|c
  ·rw[a1 (by rw[h.lW];exact c)];exact h.w i c
  ·rw[a2 (by rw[h.lW];exact c),c];exact hw
 ·rcases c i hi with c|c
  ·obtain ⟨p,x,q1,q2,q3,q4,q5⟩:=h.p i h0 c;exact ⟨p,x,by rw[a1 (by rw[h.lP];exact c)];exact q1,by rw[a1 (by rw[h.lK];exact c)];exact q2,q3,q4,by rw[a1 c,a1 (by omega)];exact q5⟩
  ·exact ⟨p,x,a2 (by rw[h.lP];exact c),a2 (by rw[h.lK];exact c),by omega,hx,by rw[a2 c,a1 hp];exact e⟩
 ·have:=h.id;cases S with
  | nil=>cases this
  | cons a S=>exact this
theorem jf.pos (h:jf L n g S P K R W B s):0<S.length:=by
 have:=h.id;cases S with
 | nil=>cases this
 | cons a S=>simp
theorem acs (h:jf L n g S P K R W B s) {b:Int} {x:Nat} (hx:x<L) (hs:b= -1→x<s.length) (hb:b= -1∨(0≤b∧b<R.length)):uN R s b x<S.length:=by
 unfold uN;split
 ·rename_i e;rw[bD (hs e)];exact h.s.2 _ (cM _)
 ·rename_i e;obtain ⟨h1,h2⟩:=hb.resolve_left e;have h3:b.toNat<R.length:=by omega
  have:=h.row R[b.toNat] (cM h3);rw[bD h3,bD (by omega)];exact this.2 _ (cM _)
theorem Tl (hn:n≤32) (hS: ∀f∈S,Tr n f) {f:List Nat} (hf:Tr n f) (uc:f∉S) (h1:S.length≤2000) (h2:P.length≤2000) (h3:K.length≤2000) (h4:W.length≤2000) (h5:B.length≤2000) {p k b:Int} {w:List UInt8}:
  CC AF ([tV f,.int .i64 p,.int .i64 k,.str w,.int .i64 b]++wz n D G S P K R U W B s)=some (nV S.length::LR n D G (S++[f]) (P++[p]) (K++[k]) R U (W++[w]) (B++[b]) s):=by
 have hl:=hf.1;refine ano ?_;unfold aci;refine bs (Ti hn hf) ?_;have e1:(lX f).length=n:=by simp[lX,hl]
 refine bT (pJ.2 ⟨zd (by rw[show (V.nth [V.str (lX f)] 0).toStr=lX f from rfl,e1];unfold maxLen;omega),rfl⟩) ?_;refine bT (cap (by simp;omega) (by omega)) (bT (cap (by simp;omega) (by omega)) (bT (cap (by simp;omega) (by omega)) (bT (cap (by simp;omega) (by omega)) (bT (cap (by simp;omega) (by omega)) ?_))));have e2:=acn (ke:=kT) 0 (Tk hn hS hf) uc;rw[eT] at e2;rw[wy];unfold LR mT;rw[←e2];simp[sV,iL,wL,nV,tV];rfl
theorem Tm {b:Int} {x:Nat} (h:jf L n g S P K R W B s) (hx:x<L) (hs:b= -1→x<s.length) (hb:b= -1∨(0≤b∧b<R.length)):
  CC Ef ([.int .i64 b,nV x]++wz n D G S P K R U W B s)=some (nV (uN R s b x)::LR n D G S P K R U W B s):=by
 refine anp ?_;unfold acj uN;by_cases e:b= -1
 ·rw[ak e];refine bT (by simp[e]) ((cy (uM (hs e))).trans ?_);rw[bD (hs e)];rfl
 ·rw[aj e];obtain ⟨h1,h2⟩:=hb.resolve_left e;obtain ⟨k,rfl⟩:=Int.eq_ofNat_of_zero_le h1;have h3:k<R.length:=by omega
  have h4:=(h.row R[k] (cM h3)).1;refine bF (by simp only[vb];exact e) ((cy (Fq h3)).trans ?_);rw[ph];refine bs (gi (by omega)) ?_;rw[show ((k:Int)).toNat=k from Int.toNat_natCast k,bD h3,bD (by omega)];rfl
theorem anu {b:Int} {x:Nat} (h:jf L n g S P K R W B s) (hx:x<L) (hs:b= -1→x<s.length) (hb:b= -1∨(0≤b∧b<R.length)):
  ∃c,CC Eg ([.int .i64 b,nV x]++wz n D G S P K R U W B s)=some (.bool c::LR n D G S P K R U W B s):=by
 have h1:=acs h hx hs hb;have e: ∀r,LP CC b (x:Int) (n:Int) true (D:Int) G (sV S) (iL P) (iL K) (sV R) U (mT S) (wL W) (iL B) (nS s)=r→CC Eg ([.int .i64 b,nV x]++wz n D G S P K R U W B s)=r:=fun r h=>anr h;by_cases c1:P.getD (uN R s b x) 0=b
 ·refine ⟨K.getD (uN R s b x) 0==(x:Int),e _ ?_⟩;unfold LP;refine bs (Tm h hx hs hb) ((cy (sU (by rw[h.lP];exact h1))).trans (bT ?_ ((cy (sU (by rw[h.lK];exact h1))).trans rfl)));simpa using c1
 ·refine ⟨false,e _ ?_⟩;unfold LP;refine bs (Tm h hx hs hb) ((cy (sU (by rw[h.lP];exact h1))).trans (bF ?_ rfl));simpa using c1
theorem Tn:CC Kt (wz n D G S P K R U W B s)=some [.bool ((D:Int)==(S.length:Int)),.int .i64 (n:Int),.bool true,.int .i64 (D:Int),.list cC (mT S),.list ah G,.list ah (sV S),.list ae (iL P),.list ae (iL K),.list ah (sV R),.list dU U,.list cp (wL W),.list ae (iL B),.list ae (nS s)]:=by
 refine anq ?_;unfold ack;rw[wy]
end
noncomputable def sW (C:af) (u x i:Int) (To:List UInt8) (t28 t29:Int) (t78:Bool) (bN:Int) (bY:Bool) (c8:Int) (bf rows fs rv e9 fa fh fx dB fb fM jH:LV) {β:Type} (kr:(Int×Int×Bool×Int×LV×LV×LV×LV×LV×LV×LV×LV×LV×LV)→Option β):Option β:=
 bif t78 then
  ar fM u fun x6=>
  (C Ef [V.int .i64 x6.toInt,V.int .i64 x,V.int .i64 bN,.bool bY,V.int .i64 c8,.list ah rv,.list ah e9,.list ae fa,.list ae fh,.list ah fx,.list dU dB,.list cC bf,.list cp fb,.list ae fM,.list ae jH]).bind fun r7=>
  (C AF [.list ae fs,V.int .i64 u,V.int .i64 x,.str To,V.int .i64 ((V.nth r7 0).toInt),V.int .i64 ((V.nth (r7.drop 1) 0).toInt),.bool ((V.nth ((r7.drop 1).drop 1) 0).toBool),V.int .i64 ((V.nth (((r7.drop 1).drop 1).drop 1) 0).toInt),.list ah ((V.nth ((r7.drop 1).drop 3) 0).toList),.list ah ((V.nth ((((r7.drop 1).drop 3).drop 1).drop 1) 0).toList),.list ae ((V.nth (((((r7.drop 1).drop 3).drop 1).drop 1).drop 1) 0).toList),.list ae ((V.nth ((((((r7.drop 1).drop 3).drop 1).drop 1).drop 1).drop 1) 0).toList),.list ah ((V.nth (((((((r7.drop 1).drop 3).drop 1).drop 1).drop 1).drop 1).drop 1) 0).toList),.list dU ((V.nth ((((((((r7.drop 1).drop 3).drop 1).drop 1).drop 1).drop 1).drop 1).drop 1) 0).toList),.list cC ((V.nth (((r7.drop 1).drop 3).drop 1) 0).toList),.list cp ((V.nth (((((((((r7.drop 1).drop 3).drop 1).drop 1).drop 1).drop 1).drop 1).drop 1).drop 1) 0).toList),.list ae ((V.nth ((((((((((r7.drop 1).drop 3).drop 1).drop 1).drop 1).drop 1).drop 1).drop 1).drop 1).drop 1) 0).toList),.list ae ((V.nth (((((((((((r7.drop 1).drop 3).drop 1).drop 1).drop 1).drop 1).drop 1).drop 1).drop 1).drop 1).drop 1) 0).toList)]).bind fun r8=>
  kr ((V.nth r8 0).toInt,(V.nth (r8.drop 1) 0).toInt,(V.nth ((r8.drop 1).drop 1) 0).toBool,(V.nth (((r8.drop 1).drop 1).drop 1) 0).toInt,(V.nth (((r8.drop 1).drop 3).drop 1) 0).toList,(V.nth ((r8.drop 1).drop 3) 0).toList,(V.nth ((((r8.drop 1).drop 3).drop 1).drop 1) 0).toList,(V.nth (((((r8.drop 1).drop 3).drop 1).drop 1).drop 1) 0).toList,(V.nth ((((((r8.drop 1).drop 3).drop 1).drop 1).drop 1).drop 1) 0).toList,(V.nth (((((((r8.drop 1).drop 3).drop 1).drop 1).drop 1).drop 1).drop 1) 0).toList,(V.nth ((((((((r8.drop 1).drop 3).drop 1).drop 1).drop 1).drop 1).drop 1).drop 1) 0).toList,(V.nth (((((((((r8.drop 1).drop 3).drop 1).drop 1).drop 1).drop 1).drop 1).drop 1).drop 1) 0).toList,(V.nth ((((((((((r8.drop 1).drop 3).drop 1).drop 1).drop 1).drop 1).drop 1).drop 1).drop 1).drop 1) 0).toList,(V.nth (((((((((((r8.drop 1).drop 3).drop 1).drop 1).drop 1).drop 1).drop 1).drop 1).drop 1).drop 1).drop 1) 0).toList)
 else
  ar fb u fun x9=>
  bif !(x9.toStr==[]) then
  ar fM u fun lY=>
  (C Eg [V.int .i64 lY.toInt,V.int .i64 x,V.int .i64 bN,.bool bY,V.int .i64 c8,.list ah rv,.list ah e9,.list ae fa,.list ae fh,.list ah fx,.list dU dB,.list cC bf,.list cp fb,.list ae fM,.list ae jH]).bind fun dy=>
  bif (V.nth dy 0).toBool then
   ar ((V.nth (((((((((dy.drop 1).drop 3).drop 1).drop 1).drop 1).drop 1).drop 1).drop 1).drop 1) 0).toList) i fun qj=>
   bif Nat.ble ((((V.nth ((((((((dy.drop 1).drop 3).drop 1).drop 1).drop 1).drop 1).drop 1).drop 1) 0).toList).length+([.agg [.str To,.str qj.toStr]]:LV).length)*32) bm then
   kr (i,(V.nth (dy.drop 1) 0).toInt,(V.nth ((dy.drop 1).drop 1) 0).toBool,(V.nth (((dy.drop 1).drop 1).drop 1) 0).toInt,(V.nth (((dy.drop 1).drop 3).drop 1) 0).toList,(V.nth ((dy.drop 1).drop 3) 0).toList,(V.nth ((((dy.drop 1).drop 3).drop 1).drop 1) 0).toList,(V.nth (((((dy.drop 1).drop 3).drop 1).drop 1).drop 1) 0).toList,(V.nth ((((((dy.drop 1).drop 3).drop 1).drop 1).drop 1).drop 1) 0).toList,(V.nth (((((((dy.drop 1).drop 3).drop 1).drop 1).drop 1).drop 1).drop 1) 0).toList,((V.nth ((((((((dy.drop 1).drop 3).drop 1).drop 1).drop 1).drop 1).drop 1).drop 1) 0).toList)++([.agg [.str To,.str qj.toStr]]:LV),(V.nth (((((((((dy.drop 1).drop 3).drop 1).drop 1).drop 1).drop 1).drop 1).drop 1).drop 1) 0).toList,(V.nth ((((((((((dy.drop 1).drop 3).drop 1).drop 1).drop 1).drop 1).drop 1).drop 1).drop 1).drop 1) 0).toList,(V.nth (((((((((((dy.drop 1).drop 3).drop 1).drop 1).drop 1).drop 1).drop 1).drop 1).drop 1).drop 1).drop 1) 0).toList)
   else none
  else
   kr (i,(V.nth (dy.drop 1) 0).toInt,(V.nth ((dy.drop 1).drop 1) 0).toBool,(V.nth (((dy.drop 1).drop 1).drop 1) 0).toInt,(V.nth (((dy.drop 1).drop 3).drop 1) 0).toList,(V.nth ((dy.drop 1).drop 3) 0).toList,(V.nth ((((dy.drop 1).drop 3).drop 1).drop 1) 0).toList,(V.nth (((((dy.drop 1).drop 3).drop 1).drop 1).drop 1) 0).toList,(V.nth ((((((dy.drop 1).drop 3).drop 1).drop 1).drop 1).drop 1) 0).toList,(V.nth (((((((dy.drop 1).drop 3).drop 1).drop 1).drop 1).drop 1).drop 1) 0).toList,(V.nth ((((((((dy.drop 1).drop 3).drop 1).drop 1).drop 1).drop 1).drop 1).drop 1) 0).toList,(V.nth (((((((((dy.drop 1).drop 3).drop 1).drop 1).drop 1).drop 1).drop 1).drop 1).drop 1) 0).toList,(V.nth ((((((((((dy.drop 1).drop 3).drop 1).drop 1).drop 1).drop 1).drop 1).drop 1).drop 1).drop 1) 0).toList,(V.nth (((((((((((dy.drop 1).drop 3).drop 1).drop 1).drop 1).drop 1).drop 1).drop 1).drop 1).drop 1).drop 1) 0).toList)
  else
  kr (i,bN,bY,c8,bf,rv,e9,fa,fh,fx,dB,fb,fM,jH)
noncomputable def Fs (C:af) (u t28 t29 bN:Int) (bY:Bool) (c8:Int) (bf rows rv fN e9 fa fh fx dB fb fM:LV) {β:Type} (kn:(Int×Int×Bool×Int×LV×LV×LV×LV×LV×LV×LV×LV×LV×LV×LV)→Option β) (kr:((Int×Int×Bool×Int×LV×LV×LV×LV×LV×LV×LV×LV×LV×LV) ⊕ (Int×Bool×Int×Bool×Int×LV×LV×LV×LV×LV×LV×LV×LV×LV×LV×LV))→Option β):Option β:=
 bif decide (t29<t28) then
  ar rv t29 fun x1=>
  ar fN u fun x2=>
  (C Ee [.list ae x2.toList,.list ae x1.toList]).bind fun r3=>
  (C v9 [.list ae ((V.nth r3 0).toList)]).bind fun r4=>
  bif Nat.ble (((V.nth r4 0).toStr).length) maxLen&&true then
  ar dB u fun x5=>
  bif (decide (0≤(wrap .i32 (wrap .i64 (97+t29)))))&&(decide ((wrap .i32 (wrap .i64 (97+t29)))<128)) then
   bif Nat.ble (x5.toStr.length+[UInt8.ofNat ((wrap .i32 (wrap .i64 (97+t29)):Int).toNat)].length) pL then
   bif !(fG (.str ((V.nth r4 0).toStr)) bf) then
    bif (fN.length:Int)==2000 then
    kr (.inl (3,bN,bY,c8,bf,rv,fN,e9,fa,fh,fx,dB,fb,fM))
    else
    sW C u t29 ((jn (.str ((V.nth r4 0).toStr)) bf (V.int .i64 0)).toInt) (x5.toStr++[UInt8.ofNat ((wrap .i32 (wrap .i64 (97+t29)):Int).toNat)]) t28 t29 (!(fG (.str ((V.nth r4 0).toStr)) bf)) bN bY c8 bf rows ((V.nth r3 0).toList) rv fN e9 fa fh fx dB fb fM (un fun anv=>un fun anw=>un fun (Ft:Bool)=>un fun Fu=>un fun (j7:LV)=>un fun (anx:LV)=>un fun (rp:LV)=>un fun (sN:LV)=>un fun (yr:LV)=>un fun (yu:LV)=>un fun (sO:LV)=>un fun (E7:LV)=>un fun (acu:LV) (acv:LV)=>
     ar rows t29 fun LU=>
     kn (wrap .i64 (t29+1),anw,Ft,Fu,j7,aE rows t29 (V.int .i64 anv),anx,rp,sN,yr,yu,sO,E7,acu,acv))
   else
    sW C u t29 ((jn (.str ((V.nth r4 0).toStr)) bf (V.int .i64 0)).toInt) (x5.toStr++[UInt8.ofNat ((wrap .i32 (wrap .i64 (97+t29)):Int).toNat)]) t28 t29 (!(fG (.str ((V.nth r4 0).toStr)) bf)) bN bY c8 bf rows ((V.nth r3 0).toList) rv fN e9 fa fh fx dB fb fM (un fun LW=>un fun Tp=>un fun (Ts:Bool)=>un fun Tt=>un fun (E8:LV)=>un fun (anz:LV)=>un fun (yp:LV)=>un fun (E9:LV)=>un fun (Tu:LV)=>un fun (Fv:LV)=>un fun (Fw:LV)=>un fun (Tv:LV)=>un fun (Tw:LV) (LX:LV)=>
     ar rows t29 fun LY=>
     kn (wrap .i64 (t29+1),Tp,Ts,Tt,E8,aE rows t29 (V.int .i64 LW),anz,yp,E9,Tu,Fv,Fw,Tv,Tw,LX))
   else none
  else none
  else none
 else
  kr (.inr (t29,decide (t29<t28),bN,bY,c8,bf,rows,rv,fN,e9,fa,fh,fx,dB,fb,fM))
noncomputable def A9 (C:af) (u t28:Int):=un fun t29=>un fun bN=>un fun bY=>un fun c8=>un fun bf=>un fun rows=>un fun rv=>un fun fN=>un fun e9=>un fun fa=>un fun fh=>un fun fx=>un fun dB=>un fun fb fM=>Fs C u t28 t29 bN bY c8 bf rows rv fN e9 fa fh fx dB fb fM (fun y=>some (Sum.inl y)) (fun r=>some (Sum.inr r))
noncomputable def acw (C:af):cz:=pb 1263 R7 [[1,2,0,5,6,0,0,0,0,12,0,0,0,0,0,0,0,0,0]] (@sW C) (bt 65 R8 [EQ,EQ,H1,H1,H1,H1,H1,H1,H1,H1,H1,H1,H1,H1,H1,H1,H1] [[0,0,0,0,0,0,0,0,0,0,0,0,0,0],[1,2,0,0,0,0,0,0,0,0,0,0,0,0,0,0,0,0]] (@Fs C) bB)
theorem anA (C:af):bc C (acw C) 84 (Cd 78 [1,1,1,0,1,0,0,1,1,0,0,1,1,1,1,0,0,1,1,1,0] [1,1,1,0,1,0,0,1,1,0,0,1,1,1,1,0,0,1,1,1,1] 84):=o9 R7 [[1,2,0,5,6,0,0,0,0,12,0,0,0,0,0,0,0,0,0]] (@sW C) (aR av) (aR av)
theorem anB (C:af):bc C (acw C) 84 (Lp [1,1,1,0,1,0,0] 84):=br R8 [EQ,EQ,H1,H1,H1,H1,H1,H1,H1,H1,H1,H1,H1,H1,H1,H1,H1] [[0,0,0,0,0,0,0,0,0,0,0,0,0,0],[1,2,0,0,0,0,0,0,0,0,0,0,0,0,0,0,0,0]] (@Fs C) (aR (ba (anA C) av))
noncomputable def LZ (C:af) (bN:Int) (bY:Bool) (c8:Int) (aQ aH aI bh bq aS bf bK bU ca:LV):Option LV:=
 bif (decide (0≤(aQ.length:Int)))&&((decide ((aQ.length:Int)≤(aQ.length:Int)))&&(Nat.ble (((aQ.length:Int).toNat)*8) bm)) then
  (Loop (A9 C c8 (aQ.length:Int)) (0,bN,bY,c8,bf,List.replicate ((aQ.length:Int).toNat) (V.int .i64 0),aQ,aH,aI,bh,bq,aS,bK,bU,ca)).bind (cP (un fun Tx=>un fun Tz=>un fun (anC:Bool)=>un fun anD=>un fun (L0:LV)=>un fun (Ba:LV)=>un fun (TA:LV)=>un fun (TB:LV)=>un fun (Fx:LV)=>un fun (TC:LV)=>un fun (TD:LV)=>un fun (TE:LV)=>un fun (TF:LV) (TG:LV)=>
   some [V.int .i64 Tx,V.int .i64 Tz,.bool anC,V.int .i64 anD,.list cC L0,.list ah Ba,.list ah TA,.list ae TB,.list ae Fx,.list ah TC,.list dU TD,.list cp TE,.list ae TF,.list ae TG]) (un fun anE=>un fun (anF:Bool)=>un fun anG=>un fun (anH:Bool)=>un fun anI=>un fun (anJ:LV)=>un fun (acx:LV)=>un fun (anK:LV)=>un fun (anL:LV)=>un fun (anM:LV)=>un fun (anN:LV)=>un fun (acy:LV)=>un fun (anO:LV)=>un fun (anP:LV)=>un fun (anQ:LV) (anR:LV)=>
   bif Nat.ble ((acy.length+([.list ae acx]:LV).length)*24) bm then
   some [V.int .i64 0,V.int .i64 anG,.bool anH,V.int .i64 (wrap .i64 (anI+1)),.list cC anJ,.list ah anK,.list ah anL,.list ae anM,.list ae anN,.list ah (acy++([.list ae acx]:LV)),.list dU anO,.list cp anP,.list ae anQ,.list ae anR]
   else none))
 else none
theorem anS {bN:Int} {bY:Bool} {c8:Int} {aQ aH aI bh bq aS bf bK bU ca:LV} {r:Option LV} (h:LZ CC bN bY c8 aQ aH aI bh bq aS bf bK bU ca=r):CC D9 [V.int .i64 bN,.bool bY,V.int .i64 c8,.list ah aQ,.list ah aH,.list ae aI,.list ae bh,.list ah bq,.list dU aS,.list cC bf,.list cp bK,.list ae bU,.list ae ca]=r:=bA (ba (anB CC) av) h
theorem cg2 {α β γ:Sort _} {f:α→β→γ} {a a':α} {b b':β} (h:a=a') (k:b=b'):f a b=f a' b':=by rw[h,k]
theorem wrap32 {x:Int} (h1: -2147483648≤x) (h2:x<2147483648):wrap .i32 x=x:=by
 unfold IntKind.wrap;simp only[IntKind.bits,IntKind.signed];simp;omega
theorem Fy {x:Nat} (h:x<31):((decide (0≤(wrap .i32 (wrap .i64 (97+(x:Int))))))&&(decide ((wrap .i32 (wrap .i64 (97+(x:Int))))<128)))=true:=by
 rw[gG,wrap32 (by omega) (by omega)];exact pJ.2 ⟨cZ (by omega),cZ (by omega)⟩
section
variable {L n D:Nat} {g:Nat→List Nat} {S:List (List Nat)} {P K:List Int} {R:List (List Nat)} {W:List (List UInt8)} {B:List Int} {s:List Nat} {G U:LV}
section
variable (h:jf L n g S P K R W B s) (hs:s.length=L) (hD:D<S.length) (hR:R.length=D)
include h hD hR in
theorem TH:B.getD D 0= -1∨(0≤B.getD D 0∧B.getD D 0<R.length):=by rw[hR];exact h.b D hD
include h hs hD hR
theorem anT {x i:Nat} (hx:x<L) (hi:i<S.length) (hU:U.length≤100000) {w:List UInt8} {t28 t29:Int} {rows fs:LV}:
  ∃U':LV,U'.length≤U.length+1∧∀{β:Type} (kr:(Int×Int×Bool×Int×LV×LV×LV×LV×LV×LV×LV×LV×LV×LV)→Option β),sW CC (D:Int) (x:Int) (i:Int) w t28 t29 false (n:Int) true (D:Int) (mT S) rows fs G (sV S) (iL P) (iL K) (sV R) U (wL W) (iL B) (nS s) kr=
   kr ((i:Int),(n:Int),true,(D:Int),mT S,G,sV S,iL P,iL K,sV R,U',wL W,iL B,nS s):=by
 simp only[sW];obtain ⟨c,hc⟩:=anu (D:=D) (G:=G) (U:=U) h hx (fun _=>by rw[hs];exact hx) (TH h hD hR);have e1:D<W.length:=by rw[h.lW];exact hD
 have e2:D<B.length:=by rw[h.lB];exact hD
 by_cases e0:W.getD D []=[]
 ·refine ⟨U,by omega,fun kr=>bF rfl ((cy (wx e1)).trans (bF ?_ rfl))⟩;rw[show (V.str (W.getD D [])).toStr=W.getD D [] from rfl,e0];rfl
 ·have e3:(!((V.str (W.getD D [])).toStr==[]))=true:=by
   rw[show (V.str (W.getD D [])).toStr=W.getD D [] from rfl];simpa using e0
  cases c with
  | false=>exact ⟨U,by omega,fun kr=>bF rfl ((cy (wx e1)).trans (bT e3 ((cy (sU e2)).trans (bs hc rfl))))⟩
  | true=>
   refine ⟨_,?_,fun kr=>bF rfl ((cy (wx e1)).trans (bT e3 ((cy (sU e2)).trans (bs hc (bT rfl ((cy (wx (by rw[h.lW];exact hi))).trans (bT (cap (m:=32) ?_ (by omega)) rfl)))))))⟩
   ·show (U++[_]).length≤_;simp
   ·show U.length+1≤_;omega
theorem anU {x:Nat} {i:Int} (hx:x<L) (hn:n≤32) {f:List Nat} (hf:Tr n f) (uc:f∉S) {w:List UInt8} {t28 t29:Int} {rows:LV} {β:Type} (kr:(Int×Int×Bool×Int×LV×LV×LV×LV×LV×LV×LV×LV×LV×LV)→Option β):
  sW CC (D:Int) (x:Int) i w t28 t29 true (n:Int) true (D:Int) (mT S) rows (nS f) G (sV S) (iL P) (iL K) (sV R) U (wL W) (iL B) (nS s) kr=
   kr ((S.length:Int),(n:Int),true,(D:Int),mT (S++[f]),G,sV (S++[f]),iL (P++[(D:Int)]),iL (K++[(x:Int)]),sV R,U,wL (W++[w]),iL (B++[(uN R s (B.getD D 0) x:Int)]),nS s):=by
 unfold sW;have e2:D<B.length:=by rw[h.lB];exact hD
 have hl:=h.len;refine bT rfl ((cy (sU e2)).trans (bs (Tm h hx (fun _=>by rw[hs];exact hx) (TH h hD hR)) (bs (Tl hn h.tr hf uc hl ?_ ?_ ?_ ?_) rfl)))
 ·rw[h.lP];exact hl
 ·rw[h.lK];exact hl
 ·rw[h.lW];exact hl
 ·rw[h.lB];exact hl
end
def bn (g:Nat→List Nat) (f:List Nat) (x:Nat):List Nat:=comp f (g x)
def gV (L:Nat) (g:Nat→List Nat):LV:=tab L fun x=>tV (g x)
def uO (n D L:Nat) (g:Nat→List Nat) (T:List (List Nat)) (f:List Nat) (x:Nat) (S:List (List Nat)) (P K:List Int) (R:List (List Nat)) (U:LV) (W:List (List UInt8)) (B:List Int) (s:List Nat):Int×Int×Bool×Int×LV×LV×LV×LV×LV×LV×LV×LV×LV×LV×LV:=
 ((x:Int),(n:Int),true,(D:Int),mT S,(tab L fun j=>if j<x then nV (cQ T (bn g f j)) else V.int .i64 0),gV L g,sV S,iL P,iL K,sV R,U,wL W,iL B,nS s)
def yv (n:Nat):Prop:= ∃T:List (List Nat),T.Nodup∧(∀f∈T,Tr n f)∧T.length=2000
theorem anV (h:jf L n g S P K R W B s) (hs:s.length=L) (hR:R.length=D) (hn:1≤n) (mQ:n≤32) (hg: ∀x,x<L→Tr n (g x)) (hL:L≤6) {f:List Nat} (hD:S[D]? =some f) {U2:List (List Nat)} {x:Nat} (hx:x<L) (p5:bR S (bn g f x) <+: U2) (hU:U.length≤100000):
  (∃P' K' U' W' B',A9 CC (D:Int) (L:Int) (uO n D L g U2 f x S P K R U W B s)=some (.inl (uO n D L g U2 f (x+1) (bR S (bn g f x)) P' K' R U' W' B' s))∧jf L n g (bR S (bn g f x)) P' K' R W' B' s∧U'.length≤U.length+1)∨
  ∃t,A9 CC (D:Int) (L:Int) (uO n D L g U2 f x S P K R U W B s)=some (.inr (.inl (3,t)))∧yv n:=by
 obtain ⟨oH,rfl⟩:=ct.1 hD;have hlen:=h.len;have oI:Tr n (bn g S[D] x):=(h.tr _ (cM oH)).comp (hg x hx);have C7:cQ U2 (bn g S[D] x)=cQ (bR S (bn g S[D] x)) (bn g S[D] x):=aco p5 wq;have oc:(tab L fun j=>if j<x then nV (cQ U2 (bn g S[D] j)) else V.int .i64 0).set x (nV (cQ U2 (bn g S[D] x)))=tab L fun j=>if j<x+1 then nV (cQ U2 (bn g S[D] j)) else V.int .i64 0:=by
  rw[iI];refine cJ fun j _=> ?_;by_cases hj:j=x
  ·rw[ak hj,bu,hj]
  ·rw[aj hj];by_cases dj:j<x
   ·rw[ak dj,bu]
   ·rw[aj dj,bO]
 have hW:=h.w D oH;have TI:D<W.length:=by rw[h.lW];exact oH
 have TJ:(gV L g)[x]? =some (tV (g x)):=lk hx;have hC:CC Ee [.list ae (tV S[D]).toList,.list ae (tV (g x)).toList]=some [tV (bn g S[D] x)]:=by
  rw[ph,ph];exact anl hn mQ (h.tr _ (cM oH)) (hg x hx)
 have hX:CC v9 [.list ae ((V.nth [tV (bn g S[D] x)] 0).toList)]=some [kT (bn g S[D] x)]:=by
  rw[show (V.nth [tV (bn g S[D] x)] 0).toList=nS (bn g S[D] x) from ph];exact Ti mQ oI
 have sy:(Nat.ble (((V.nth [kT (bn g S[D] x)] 0).toStr).length) maxLen&&true)=true:=by
  refine pJ.2 ⟨zd ?_,rfl⟩;rw[show (V.nth [kT (bn g S[D] x)] 0).toStr=lX (bn g S[D] x) from rfl,show (lX (bn g S[D] x)).length=n by simp[lX,oI.1]];unfold maxLen;omega
 have TK: ∀b:UInt8,Nat.ble ((V.str (W.getD D [])).toStr.length+[b].length) pL=true:=fun b=>by
  refine zd ?_;show (W.getD D []).length+1≤pL;unfold pL;omega
 have vS:=Tk mQ h.tr oI;simp only[A9,Fs,un,uO,ar,aE];by_cases hk:bn g S[D] x∈S
 ·obtain ⟨U2',hU2,he⟩:=anT (G:=gV L g) (U:=U) (D:=D) h hs oH hR hx (ky hk) hU
   (w:=W.getD D []++[UInt8.ofNat ((wrap .i32 (wrap .i64 (97+(x:Int))):Int).toNat)]) (t28:=(L:Int)) (t29:=(x:Int)) (rows:=tab L fun j=>if j<x then nV (cQ U2 (bn g S[D] j)) else V.int .i64 0) (fs:=nS (bn g S[D] x))
  have yw:bR S (bn g S[D] x)=S:=by rw[bR,ak hk]
  rw[yw] at C7⊢;have hm:fG (kT (bn g S[D] x)) (mT S)=true:=acp vS hk;refine .inl ⟨P,K,U2',W,B,bT (cg hx) ((cy TJ).trans ((cy (Fq oH)).trans (bs hC (bs hX (bT sy ((cy (wx TI)).trans (bT (Fy (by omega)) (bT (TK _) (bF ?_ ?_))))))))),h,hU2⟩
  ·exact congrArg (!·) hm
  ·refine (cg2 (f:=fun i b=>sW CC (D:Int) (x:Int) i _ (L:Int) (x:Int) b (n:Int) true (D:Int) (mT S) _ _ (gV L g) (sV S) (iL P) (iL K) (sV R) U (wL W) (iL B) (nS s) _) (acr vS hk) (congrArg (!·) hm)).trans ((he _).trans ((rq (by simpa using hx)).trans ?_))
   rw[cq (by omega),Int.toNat_natCast,←oc,C7];rfl
 ·have hm:fG (kT (bn g S[D] x)) (mT S)=false:=acq vS hk;have yw:bR S (bn g S[D] x)=S++[bn g S[D] x]:=by rw[bR,aj hk]
  by_cases acz:S.length=2000
  ·refine .inr ⟨_,bT (cg hx) ((cy TJ).trans ((cy (Fq oH)).trans (bs hC (bs hX (bT sy ((cy (wx TI)).trans (bT (Fy (by omega)) (bT (TK _) (bT ?_ (bT ?_ rfl)))))))))),S,h.nd,h.tr,acz⟩
   ·exact congrArg (!·) hm
   ·simp[acz]
  ·rw[yw] at C7⊢;have ik:=TH h oH hR;have dc:=acs h hx (fun _=>by rw[hs];exact hx) ik;refine .inl ⟨P++[(D:Int)],K++[(x:Int)],U,W++[W.getD D []++[UInt8.ofNat ((wrap .i32 (wrap .i64 (97+(x:Int))):Int).toNat)]],B++[(uN R s (B.getD D 0) x:Int)],bT (cg hx) ((cy TJ).trans ((cy (Fq oH)).trans (bs hC (bs hX (bT sy ((cy (wx TI)).trans (bT (Fy (by omega)) (bT (TK _) (bT ?_ (bF ?_ ?_)))))))))),h.grow oI hk (by omega) (p:=D) (x:=x) (b:=(uN R s (B.getD D 0) x:Int)) oH hx ?_ (.inr ⟨by omega,by exact_mod_cast dc⟩) ?_,Nat.le_succ _⟩
   ·exact congrArg (!·) hm
   ·simp;omega
   ·refine (congrArg (fun b=>sW CC (D:Int) (x:Int) _ _ (L:Int) (x:Int) b (n:Int) true (D:Int) (mT S) _ _ (gV L g) (sV S) (iL P) (iL K) (sV R) U (wL W) (iL B) (nS s) _) (congrArg (!·) hm)).trans ?_;refine (anU h hs oH hR hx mQ oI hk _).trans ((rq (by simpa using hx)).trans ?_)
    rw[cq (by omega),Int.toNat_natCast,←oc,C7];rw[ans hk];rfl
   ·rw[gI];show _+1≤_;omega
   ·rw[bD oH];rfl
end
noncomputable def Fz (C:af) (nE:Bool) (t39:LV) (t40 bN:Int) (bY:Bool) (c8:Int) (aH aI bh bq aS bf bK bU ca:LV) (t41:Int) (aQ:LV) {β:Type} (kn:(Int×LV)→Option β) (kr:((Int) ⊕ (Int×Bool×LV))→Option β):Option β:=
 bif decide (t41<t40) then
  (idx t39 t41).bind fun x2=>
  bif (x2.toList.length:Int) != bN then
  kr (.inl 4)
  else
  (C AE [.list ae x2.toList]).bind fun r3=>
  bif !((V.nth r3 0).toBool) then
   kr (.inl 4)
  else
   bif Nat.ble (x2.toList.length*8) bm then
   bif Nat.ble ((aQ.length+([.list ae x2.toList]:LV).length)*24) bm then
    kn (wrap .i64 (t41+1),aQ++([.list ae x2.toList]:LV))
   else none
   else none
 else
  kr (.inr (t41,decide (t41<t40),aQ))
noncomputable def L3 (C:af) (nE:Bool) (t39:LV) (t40 bN:Int) (bY:Bool) (c8:Int) (aH aI bh bq aS bf bK bU ca:LV):=un fun t41 aQ=>Fz C nE t39 t40 bN bY c8 aH aI bh bq aS bf bK bU ca t41 aQ (fun y=>some (Sum.inl y)) (fun r=>some (Sum.inr r))
noncomputable def FA (C:af) (empty:Int) (t72:Bool) (bN:Int) (bY:Bool) (c8:Int) (aQ aH aI bh bq aS bf bK bU ca:LV) {β:Type} (kr:(Int×Int×Bool×Int×LV×LV×LV×LV×LV×LV×LV×LV×LV×LV)→Option β):Option β:=
 bif t72 then
  (C KA [V.int .i64 bN]).bind fun r8=>
  (C AF [.list ae ((V.nth r8 0).toList),V.int .i64 (-1),V.int .i64 (-1),.str [],V.int .i64 (-1),V.int .i64 bN,.bool bY,V.int .i64 c8,.list ah aQ,.list ah aH,.list ae aI,.list ae bh,.list ah bq,.list dU aS,.list cC bf,.list cp bK,.list ae bU,.list ae ca]).bind fun r9=>
  kr ((V.nth r9 0).toInt,(V.nth (r9.drop 1) 0).toInt,(V.nth ((r9.drop 1).drop 1) 0).toBool,(V.nth (((r9.drop 1).drop 1).drop 1) 0).toInt,(V.nth ((r9.drop 1).drop 3) 0).toList,(V.nth ((((r9.drop 1).drop 3).drop 1).drop 1) 0).toList,(V.nth (((((r9.drop 1).drop 3).drop 1).drop 1).drop 1) 0).toList,(V.nth ((((((r9.drop 1).drop 3).drop 1).drop 1).drop 1).drop 1) 0).toList,(V.nth (((((((r9.drop 1).drop 3).drop 1).drop 1).drop 1).drop 1).drop 1) 0).toList,(V.nth ((((((((r9.drop 1).drop 3).drop 1).drop 1).drop 1).drop 1).drop 1).drop 1) 0).toList,(V.nth (((r9.drop 1).drop 3).drop 1) 0).toList,(V.nth (((((((((r9.drop 1).drop 3).drop 1).drop 1).drop 1).drop 1).drop 1).drop 1).drop 1) 0).toList,(V.nth ((((((((((r9.drop 1).drop 3).drop 1).drop 1).drop 1).drop 1).drop 1).drop 1).drop 1).drop 1) 0).toList,(V.nth (((((((((((r9.drop 1).drop 3).drop 1).drop 1).drop 1).drop 1).drop 1).drop 1).drop 1).drop 1).drop 1) 0).toList)
 else
  kr (empty,bN,bY,c8,aQ,aH,aI,bh,bq,aS,bf,bK,bU,ca)
noncomputable def yx (C:af) (empty x:Int) (g:LV) (letter:List UInt8) (i t86 t87:Int) (t106:Bool) (bN:Int) (bY:Bool) (c8:Int) (wA aH aI bh bq aS bf bK bU ca:LV) {β:Type} (kr:(Int×Int×Bool×Int×LV×LV×LV×LV×LV×LV×LV×LV×LV×LV)→Option β):Option β:=
 bif t106 then
  ar bK i fun Bb=>
  bif Nat.ble ((aS.length+([.agg [.str letter,.str Bb.toStr]]:LV).length)*32) bm then
  kr (i,bN,bY,c8,wA,aH,aI,bh,bq,aS++([.agg [.str letter,.str Bb.toStr]]:LV),bf,bK,bU,ca)
  else none
 else
  bif Nat.ble (g.length*8) bm then
  (C AF [.list ae g,V.int .i64 empty,V.int .i64 x,.str letter,V.int .i64 empty,V.int .i64 bN,.bool bY,V.int .i64 c8,.list ah wA,.list ah aH,.list ae aI,.list ae bh,.list ah bq,.list dU aS,.list cC bf,.list cp bK,.list ae bU,.list ae ca]).bind fun oJ=>
  kr ((V.nth oJ 0).toInt,(V.nth (oJ.drop 1) 0).toInt,(V.nth ((oJ.drop 1).drop 1) 0).toBool,(V.nth (((oJ.drop 1).drop 1).drop 1) 0).toInt,(V.nth ((oJ.drop 1).drop 3) 0).toList,(V.nth ((((oJ.drop 1).drop 3).drop 1).drop 1) 0).toList,(V.nth (((((oJ.drop 1).drop 3).drop 1).drop 1).drop 1) 0).toList,(V.nth ((((((oJ.drop 1).drop 3).drop 1).drop 1).drop 1).drop 1) 0).toList,(V.nth (((((((oJ.drop 1).drop 3).drop 1).drop 1).drop 1).drop 1).drop 1) 0).toList,(V.nth ((((((((oJ.drop 1).drop 3).drop 1).drop 1).drop 1).drop 1).drop 1).drop 1) 0).toList,(V.nth (((oJ.drop 1).drop 3).drop 1) 0).toList,(V.nth (((((((((oJ.drop 1).drop 3).drop 1).drop 1).drop 1).drop 1).drop 1).drop 1).drop 1) 0).toList,(V.nth ((((((((((oJ.drop 1).drop 3).drop 1).drop 1).drop 1).drop 1).drop 1).drop 1).drop 1).drop 1) 0).toList,(V.nth (((((((((((oJ.drop 1).drop 3).drop 1).drop 1).drop 1).drop 1).drop 1).drop 1).drop 1).drop 1).drop 1) 0).toList)
  else none
noncomputable def FB (C:af) (empty t86 t87 bN:Int) (bY:Bool) (c8:Int) (wA aH aI bh bq aS bf bK bU ca:LV) {β:Type} (kn:(Int×Int×Bool×Int×LV×LV×LV×LV×LV×LV×LV×LV×LV×LV)→Option β) (kr:(Int×Bool×Int×Bool×Int×LV×LV×LV×LV×LV×LV×LV×LV×LV×LV)→Option β):Option β:=
 bif decide (t87<t86) then
  ar wA t87 fun lZ=>
  bif (decide (0≤(wrap .i32 (wrap .i64 (97+t87)))))&&(decide ((wrap .i32 (wrap .i64 (97+t87)))<128)) then
  (C v9 [.list ae lZ.toList]).bind fun Bc=>
  bif Nat.ble (((V.nth Bc 0).toStr).length) maxLen&&true then
   yx C empty t87 lZ.toList [UInt8.ofNat ((wrap .i32 (wrap .i64 (97+t87)):Int).toNat)] ((jn (.str ((V.nth Bc 0).toStr)) bf (V.int .i64 0)).toInt) t86 t87 (fG (.str ((V.nth Bc 0).toStr)) bf) bN bY c8 wA aH aI bh bq aS bf bK bU ca (un fun LW=>un fun Tp=>un fun (Ts:Bool)=>un fun Tt=>un fun (anW:LV)=>un fun (ab8:LV)=>un fun (yp:LV)=>un fun (E9:LV)=>un fun (Tu:LV)=>un fun (Fv:LV)=>un fun (Fw:LV)=>un fun (Tv:LV)=>un fun (Tw:LV) (LX:LV)=>
    bif Nat.ble ((LX.length+([V.int .i64 LW]:LV).length)*8) bm then
    kn (wrap .i64 (t87+1),Tp,Ts,Tt,anW,ab8,yp,E9,Tu,Fv,Fw,Tv,Tw,LX++([V.int .i64 LW]:LV))
    else none)
  else none
  else none
 else
  kr (t87,decide (t87<t86),bN,bY,c8,wA,aH,aI,bh,bq,aS,bf,bK,bU,ca)
noncomputable def FC (C:af) (empty t86:Int):=un fun t87=>un fun bN=>un fun bY=>un fun c8=>un fun wA=>un fun aH=>un fun aI=>un fun bh=>un fun bq=>un fun aS=>un fun bf=>un fun bK=>un fun bU ca=>FB C empty t86 t87 bN bY c8 wA aH aI bh bq aS bf bK bU ca (fun y=>some (Sum.inl y)) (fun r=>some (Sum.inr r))
noncomputable def L4 (C:af):cz:=bt 97 R3 [EQ,EQ,EQ,H1,EQ,EQ,EQ,H1,EQ,EQ,EQ,EQ,EQ,EQ,EQ,EQ,EQ] [[0],[1,2,3,0,0,5,6,7,0,9,10,11,12,13,14,15,16,17]] (@Fz C) (pb 1167 R4 [[0,0,0,0,0,0,0,0,0,0,0,0,0,0]] (@FA C) (pb 1711 R5 [[1,0,6,7,0,0,0,0,0,0,0,0,0,0,0,0,0]] (@yx C) (bt 257 R6 [EQ,EQ,H1,H1,H1,H1,H1,H1,H1,H1,H1,H1,H1,H1,H1,H1] [[1,2,0,0,0,0,0,0,0,0,0,0,0,0,0,0,0]] (@FB C) bB)))
theorem anX (C:af):bc C (L4 C) 82 (Lp [1,1,1,1,0,1,0,0] 82):=br R3 [EQ,EQ,EQ,H1,EQ,EQ,EQ,H1,EQ,EQ,EQ,EQ,EQ,EQ,EQ,EQ,EQ] [[0],[1,2,3,0,0,5,6,7,0,9,10,11,12,13,14,15,16,17]] (@Fz C) (aR av)
theorem anY (C:af):bc C (L4 C) 82 (Cd 72 [1,1,1,1,1,1,0,1,0] [1,1,1,1,1,1,0,1,1] 82):=o9 R4 [[0,0,0,0,0,0,0,0,0,0,0,0,0,0]] (@FA C) (aR av) (aR av)
theorem anZ (C:af):bc C (L4 C) 82 (Cd 106 [1,1,1,1,1,1,1,0,1,0,0,1,1,0,0,1,1,1,0,1,0] [1,1,1,1,1,1,1,0,1,0,0,1,1,0,0,1,1,1,0,1,1] 82):=o9 R5 [[1,0,6,7,0,0,0,0,0,0,0,0,0,0,0,0,0]] (@yx C) (aR av) (aR av)
theorem an0 (C:af):bc C (L4 C) 82 (Lp [1,1,1,1,1,1,1,0,1,0,0] 82):=br R6 [EQ,EQ,H1,H1,H1,H1,H1,H1,H1,H1,H1,H1,H1,H1,H1,H1] [[1,2,0,0,0,0,0,0,0,0,0,0,0,0,0,0,0]] (@FB C) (aR (ba (anZ C) av))
noncomputable def acA (C:af) (ep:LV) (nE:Bool):Option LV:=
 bif (ep.length:Int)==0 then
  some [V.bool true,V.int .i64 1]
 else
  bif decide ((ep.length:Int)>6) then
  some [V.bool true,V.int .i64 1]
  else
  (ep[0]?).bind fun x1=>
  (Loop (L3 C nE ep (ep.length:Int) (x1.toList.length:Int) nE 0 ([]:LV) ([]:LV) ([]:LV) ([]:LV) ([]:LV) ([]:LV) ([]:LV) ([]:LV) ([]:LV)) (0,([]:LV))).bind (cP (fun gU=>
   some [V.bool true,V.int .i64 gU]) (un fun oA=>un fun (oB:Bool) (FD:LV)=>
   FA C (-1) nE (x1.toList.length:Int) nE 0 FD ([]:LV) ([]:LV) ([]:LV) ([]:LV) ([]:LV) ([]:LV) ([]:LV) ([]:LV) ([]:LV) (un fun an1=>un fun an2=>un fun (TL:Bool)=>un fun TM=>un fun (qi:LV)=>un fun (FE:LV)=>un fun (yz:LV)=>un fun (j7:LV)=>un fun (yo:LV)=>un fun (rp:LV)=>un fun (sN:LV)=>un fun (yr:LV)=>un fun (yu:LV) (sO:LV)=>
    (Loop (FC C an1 (qi.length:Int)) (0,an2,TL,TM,qi,FE,yz,j7,yo,rp,sN,yr,yu,sO)).bind (un fun auJ=>un fun (Tx:Bool)=>un fun an3=>un fun (an4:Bool)=>un fun an5=>un fun (an6:LV)=>un fun (Ba:LV)=>un fun (TA:LV)=>un fun (TB:LV)=>un fun (Fx:LV)=>un fun (TC:LV)=>un fun (TD:LV)=>un fun (TE:LV)=>un fun (TF:LV) (TG:LV)=>
     some [V.bool false,V.int .i64 an3,.bool an4,V.int .i64 an5,.list ah an6,.list ah Ba,.list ae TA,.list ae TB,.list ah Fx,.list dU TC,.list cC TD,.list cp TE,.list ae TF,.list ae TG]))))
theorem an7 {ep:LV} {nE:Bool} {r:Option LV} (h:acA CC ep nE=r):CC Ks [.list ah ep,.bool nE]=r:=bA (ba (anX CC) (ba (anY CC) (ba (an0 CC) av))) h
noncomputable def L5 (C:af) (nF:Int) (nG:Bool) (acB:Int) (aH aI bh bq aS bf:LV) (bN:Int) (bY:Bool) (c8:Int) (bK bU ca fy iw fN e9 fa fh fx:LV) {β:Type} (kn:(Int×Bool×Int×LV×LV×LV×LV×LV×LV×LV×LV×LV×LV)→Option β) (kr:((Int×Int×Bool×Int×LV×LV×LV×LV×LV×LV) ⊕ (Bool×Int×Bool×Int×LV×LV×LV×LV×LV×LV×LV×LV×LV×LV))→Option β):Option β:=
 (C Kt [V.int .i64 bN,.bool bY,V.int .i64 c8,.list ah bK,.list ah bU,.list ae ca,.list ae fy,.list ah iw,.list dU fN,.list cC e9,.list cp fa,.list ae fh,.list ae fx]).bind fun r2=>
 bif !((V.nth r2 0).toBool) then
  (C D9 [V.int .i64 ((V.nth (r2.drop 1) 0).toInt),.bool ((V.nth ((r2.drop 1).drop 1) 0).toBool),V.int .i64 ((V.nth (((r2.drop 1).drop 1).drop 1) 0).toInt),.list ah ((V.nth (((r2.drop 1).drop 3).drop 1) 0).toList),.list ah ((V.nth ((((r2.drop 1).drop 3).drop 1).drop 1) 0).toList),.list ae ((V.nth (((((r2.drop 1).drop 3).drop 1).drop 1).drop 1) 0).toList),.list ae ((V.nth ((((((r2.drop 1).drop 3).drop 1).drop 1).drop 1).drop 1) 0).toList),.list ah ((V.nth (((((((r2.drop 1).drop 3).drop 1).drop 1).drop 1).drop 1).drop 1) 0).toList),.list dU ((V.nth ((((((((r2.drop 1).drop 3).drop 1).drop 1).drop 1).drop 1).drop 1).drop 1) 0).toList),.list cC ((V.nth ((r2.drop 1).drop 3) 0).toList),.list cp ((V.nth (((((((((r2.drop 1).drop 3).drop 1).drop 1).drop 1).drop 1).drop 1).drop 1).drop 1) 0).toList),.list ae ((V.nth ((((((((((r2.drop 1).drop 3).drop 1).drop 1).drop 1).drop 1).drop 1).drop 1).drop 1).drop 1) 0).toList),.list ae ((V.nth (((((((((((r2.drop 1).drop 3).drop 1).drop 1).drop 1).drop 1).drop 1).drop 1).drop 1).drop 1).drop 1) 0).toList)]).bind fun r3=>
  bif (((V.nth r3 0).toInt):Int) != 0 then
  kr (.inl ((V.nth r3 0).toInt,0,false,0,([]:LV),([]:LV),([]:LV),([]:LV),([]:LV),([]:LV)))
  else
  kn ((V.nth (r3.drop 1) 0).toInt,(V.nth ((r3.drop 1).drop 1) 0).toBool,(V.nth (((r3.drop 1).drop 1).drop 1) 0).toInt,(V.nth (((r3.drop 1).drop 3).drop 1) 0).toList,(V.nth ((((r3.drop 1).drop 3).drop 1).drop 1) 0).toList,(V.nth (((((r3.drop 1).drop 3).drop 1).drop 1).drop 1) 0).toList,(V.nth ((((((r3.drop 1).drop 3).drop 1).drop 1).drop 1).drop 1) 0).toList,(V.nth (((((((r3.drop 1).drop 3).drop 1).drop 1).drop 1).drop 1).drop 1) 0).toList,(V.nth ((((((((r3.drop 1).drop 3).drop 1).drop 1).drop 1).drop 1).drop 1).drop 1) 0).toList,(V.nth ((r3.drop 1).drop 3) 0).toList,(V.nth (((((((((r3.drop 1).drop 3).drop 1).drop 1).drop 1).drop 1).drop 1).drop 1).drop 1) 0).toList,(V.nth ((((((((((r3.drop 1).drop 3).drop 1).drop 1).drop 1).drop 1).drop 1).drop 1).drop 1).drop 1) 0).toList,(V.nth (((((((((((r3.drop 1).drop 3).drop 1).drop 1).drop 1).drop 1).drop 1).drop 1).drop 1).drop 1).drop 1) 0).toList)
 else
  kr (.inr (!((V.nth r2 0).toBool),(V.nth (r2.drop 1) 0).toInt,(V.nth ((r2.drop 1).drop 1) 0).toBool,(V.nth (((r2.drop 1).drop 1).drop 1) 0).toInt,(V.nth (((r2.drop 1).drop 3).drop 1) 0).toList,(V.nth ((((r2.drop 1).drop 3).drop 1).drop 1) 0).toList,(V.nth (((((r2.drop 1).drop 3).drop 1).drop 1).drop 1) 0).toList,(V.nth ((((((r2.drop 1).drop 3).drop 1).drop 1).drop 1).drop 1) 0).toList,(V.nth (((((((r2.drop 1).drop 3).drop 1).drop 1).drop 1).drop 1).drop 1) 0).toList,(V.nth ((((((((r2.drop 1).drop 3).drop 1).drop 1).drop 1).drop 1).drop 1).drop 1) 0).toList,(V.nth ((r2.drop 1).drop 3) 0).toList,(V.nth (((((((((r2.drop 1).drop 3).drop 1).drop 1).drop 1).drop 1).drop 1).drop 1).drop 1) 0).toList,(V.nth ((((((((((r2.drop 1).drop 3).drop 1).drop 1).drop 1).drop 1).drop 1).drop 1).drop 1).drop 1) 0).toList,(V.nth (((((((((((r2.drop 1).drop 3).drop 1).drop 1).drop 1).drop 1).drop 1).drop 1).drop 1).drop 1).drop 1) 0).toList))
noncomputable def TN (C:af) (nF:Int) (nG:Bool) (acB:Int) (aH aI bh bq aS bf:LV):=un fun bN=>un fun bY=>un fun c8=>un fun bK=>un fun bU=>un fun ca=>un fun fy=>un fun iw=>un fun fN=>un fun e9=>un fun fa=>un fun fh fx=>L5 C nF nG acB aH aI bh bq aS bf bN bY c8 bK bU ca fy iw fN e9 fa fh fx (fun y=>some (Sum.inl y)) (fun r=>some (Sum.inr r))
noncomputable def an8 (C:af):cz:=bt 65 RA [EQ,EQ,EQ,H1,H1,H1,EQ,EQ,EQ,EQ,EQ,EQ,H1,H1,H1,H1,H1,H1,H1,H1,H1,H1] [[0,0,0,0,0,0,0,0,0,0],[0,1,2,3,0,0,0,7,8,9,10,11,12,0,0,0,0,0,0,0,0,0,0]] (@L5 C) bB
theorem an9 (C:af):bc C (an8 C) 50 (Lp [1,1,1,0,0,0] 50):=br RA [EQ,EQ,EQ,H1,H1,H1,EQ,EQ,EQ,EQ,EQ,EQ,H1,H1,H1,H1,H1,H1,H1,H1,H1,H1] [[0,0,0,0,0,0,0,0,0,0],[0,1,2,3,0,0,0,7,8,9,10,11,12,0,0,0,0,0,0,0,0,0,0]] (@L5 C) (aR av)
noncomputable def TO (C:af) (ep:LV) (nE:Bool):Option LV:=
 (C Ks [.list ah ep,.bool nE]).bind fun r1=>
 bif (V.nth r1 0).toBool then
  bif (((V.nth (r1.drop 1) 0).toInt):Int) != 0 then
  some [V.int .i64 0,.bool false,V.int .i64 0,V.int .i64 ((V.nth (r1.drop 1) 0).toInt),.list ah ([]:LV),.list ah ([]:LV),.list ae ([]:LV),.list ae ([]:LV),.list ah ([]:LV),.list dU ([]:LV)]
  else none
 else
  (Loop (TN C 0 false 0 ([]:LV) ([]:LV) ([]:LV) ([]:LV) ([]:LV) ([]:LV)) ((V.nth (r1.drop 1) 0).toInt,(V.nth ((r1.drop 1).drop 1) 0).toBool,(V.nth (((r1.drop 1).drop 1).drop 1) 0).toInt,(V.nth ((r1.drop 1).drop 3) 0).toList,(V.nth (((r1.drop 1).drop 3).drop 1) 0).toList,(V.nth ((((r1.drop 1).drop 3).drop 1).drop 1) 0).toList,(V.nth (((((r1.drop 1).drop 3).drop 1).drop 1).drop 1) 0).toList,(V.nth ((((((r1.drop 1).drop 3).drop 1).drop 1).drop 1).drop 1) 0).toList,(V.nth (((((((r1.drop 1).drop 3).drop 1).drop 1).drop 1).drop 1).drop 1) 0).toList,(V.nth ((((((((r1.drop 1).drop 3).drop 1).drop 1).drop 1).drop 1).drop 1).drop 1) 0).toList,(V.nth (((((((((r1.drop 1).drop 3).drop 1).drop 1).drop 1).drop 1).drop 1).drop 1).drop 1) 0).toList,(V.nth ((((((((((r1.drop 1).drop 3).drop 1).drop 1).drop 1).drop 1).drop 1).drop 1).drop 1).drop 1) 0).toList,(V.nth (((((((((((r1.drop 1).drop 3).drop 1).drop 1).drop 1).drop 1).drop 1).drop 1).drop 1).drop 1).drop 1) 0).toList)).bind (cP (un fun gU=>un fun TP=>un fun (TQ:Bool)=>un fun TR=>un fun (wB:LV)=>un fun (Bd:LV)=>un fun (pj:LV)=>un fun (yA:LV)=>un fun (TS:LV) (A7:LV)=>
   some [V.int .i64 TP,.bool TQ,V.int .i64 TR,V.int .i64 gU,.list ah wB,.list ah Bd,.list ae pj,.list ae yA,.list ah TS,.list dU A7]) (un fun (sX:Bool)=>un fun Ft=>un fun (Fu:Bool)=>un fun aoa=>un fun (yo:LV)=>un fun (rp:LV)=>un fun (sN:LV)=>un fun (yr:LV)=>un fun (yu:LV)=>un fun (sO:LV)=>un fun (E7:LV)=>un fun (acu:LV)=>un fun (acv:LV) (auK:LV)=>
   some [V.int .i64 Ft,.bool Fu,V.int .i64 aoa,V.int .i64 0,.list ah yo,.list ah rp,.list ae sN,.list ae yr,.list ah yu,.list dU sO]))
theorem acC {ep:LV} {nE:Bool} {r:Option LV} (h:TO CC ep nE=r):CC Kg [.list ah ep,.bool nE]=r:=bA (ba (an9 CC) av) h
section
variable {L n D:Nat} {g:Nat→List Nat} {S:List (List Nat)} {P K:List Int} {R:List (List Nat)} {W:List (List UInt8)} {B:List Int} {s:List Nat} {U:LV}
def eO (L:Nat) (g:Nat→List Nat) (T:List (List Nat)) (f:List Nat):List Nat:=(List.range L).map fun x=>cQ T (bn g f x)
theorem aob {T:List (List Nat)} {f:List Nat}:tV (eO L g T f)= .list ae (tab L fun j=>if j<L then nV (cQ T (bn g f j)) else V.int .i64 0):=by
 unfold tV eO nS;rw[pI];exact congrArg _ (cJ (n:=L) (g:=nV ∘ fun x=>cQ T (bn g f x)) fun j hj=>by rw[ak hj];rfl)
abbrev PrR:=(Int×Int×Bool×Int×LV×LV×LV×LV×LV×LV×LV×LV×LV×LV) ⊕ (Int×Bool×Int×Bool×Int×LV×LV×LV×LV×LV×LV×LV×LV×LV×LV×LV)
theorem aoc (h:jf L n g S P K R W B s) (hs:s.length=L) (hR:R.length=D) (hn:1≤n) (mQ:n≤32) (hg: ∀x,x<L→Tr n (g x)) (hL:L≤6) {f:List Nat} (hD:S[D]? =some f) (hU:U.length≤6+D*6):
  ∃r,CC D9 (wz n D (gV L g) S P K R U W B s)=some r∧((∃l,r= .int .i64 3::l∧yv n)∨
   ∃P' K' U' W' B',r= .int .i64 0::[.int .i64 (n:Int),.bool true,.int .i64 ((D+1:Nat):Int),.list cC (mT (cx (bn g) S f L)),.list ah (gV L g),.list ah (sV (cx (bn g) S f L)),.list ae (iL P'),.list ae (iL K'),
    .list ah (sV (R++[eO L g (cx (bn g) S f L) f])),.list dU U',.list cp (wL W'),.list ae (iL B'),.list ae (nS s)]∧
    jf L n g (cx (bn g) S f L) P' K' R W' B' s∧U'.length≤6+(D+1)*6):=by
 have yB:=(ct.1 hD).1;have hlen:=h.len;have key: ∃r,Loop (A9 CC (D:Int) (L:Int)) (uO n D L g (cx (bn g) S f L) f 0 S P K R U W B s)=some r∧((∃t,r= .inl (3,t)∧yv n)∨
   ∃P' K' U' W' B',r= .inr ((L:Int),false,(uO n D L g (cx (bn g) S f L) f L (cx (bn g) S f L) P' K' R U' W' B' s).2)∧jf L n g (cx (bn g) S f L) P' K' R W' B' s∧U'.length≤6+(D+1)*6):=by
  refine LQ (fun x y=> ∃P' K' U' W' B',y=uO n D L g (cx (bn g) S f L) f x (cx (bn g) S f x) P' K' R U' W' B' s∧jf L n g (cx (bn g) S f x) P' K' R W' B' s∧U'.length≤6+D*6+x)
   (fun r:PrR=>(∃t,r= .inl (3,t)∧yv n)∨∃P' K' U' W' B',r= .inr ((L:Int),false,(uO n D L g (cx (bn g) S f L) f L (cx (bn g) S f L) P' K' R U' W' B' s).2)∧jf L n g (cx (bn g) S f L) P' K' R W' B' s∧U'.length≤6+(D+1)*6)
   L (fun x hx y hy=> ?_) (fun y hy=> ?_) L 0 _ (eT _) ⟨P,K,U,W,B,rfl,h,hU⟩
  ·obtain ⟨P1,K1,U1,W1,B1,rfl,hI,TT⟩:=hy;have p5:=Ln (next:=bn g) S f x;have oH:(cx (bn g) S f x)[D]? =some f:=by
    obtain ⟨Z,e⟩:=p5;rw[←e,mq yB,hD]
   rcases anV (U2:=cx (bn g) S f L) hI hs hR hn mQ hg hL oH hx (A1 (next:=bn g) S f (show x+1≤L by omega)) (by omega) (U:=U1) with ⟨P2,K2,U2,W2,B2,e,h2,h3⟩|⟨t,e,hm⟩
   ·exact .inl ⟨_,e,P2,K2,U2,W2,B2,rfl,h2,by omega⟩
   ·exact .inr ⟨_,e,.inl ⟨t,rfl,hm⟩⟩
  ·obtain ⟨P1,K1,U1,W1,B1,rfl,hI,TT⟩:=hy;refine ⟨_,?_,.inr ⟨P1,K1,U1,W1,B1,rfl,hI,by omega⟩⟩;unfold uO;simp only[A9,Fs,un];refine bF (aW (az _)) ?_;rw[aW (az _)]
 obtain ⟨r,e1,e2⟩:=key;have e0:List.replicate (((L:Nat):Int).toNat) (V.int .i64 0)=tab L fun j=>if j<0 then nV (cQ (cx (bn g) S f L) (bn g f j)) else V.int .i64 0:=by
  rw[Int.toNat_natCast,mP];exact cJ fun j _=>by rw[bO]
 have fin: ∀z,LZ CC (n:Int) true (D:Int) (gV L g) (sV S) (iL P) (iL K) (sV R) U (mT S) (wL W) (iL B) (nS s)=z→CC D9 (wz n D (gV L g) S P K R U W B s)=z:=fun z h=>anS h;rcases e2 with ⟨t,rfl,hm⟩|⟨P1,K1,U1,W1,B1,rfl,hI,TT⟩
 ·refine ⟨_,fin _ ?_,.inl ⟨[.int .i64 t.1,.bool t.2.1,.int .i64 t.2.2.1,.list cC t.2.2.2.1,.list ah t.2.2.2.2.1,.list ah t.2.2.2.2.2.1,.list ae t.2.2.2.2.2.2.1,.list ae t.2.2.2.2.2.2.2.1,.list ah t.2.2.2.2.2.2.2.2.1,.list dU t.2.2.2.2.2.2.2.2.2.1,.list cp t.2.2.2.2.2.2.2.2.2.2.1,.list ae t.2.2.2.2.2.2.2.2.2.2.2.1,.list ae t.2.2.2.2.2.2.2.2.2.2.2.2],rfl,hm⟩⟩;unfold LZ;rw[show (gV L g).length=L from eH,e0];exact bT (gh (by omega) (by omega)) (bs e1 rfl)
 ·refine ⟨_,fin _ ?_,.inr ⟨P1,K1,U1,W1,B1,rfl,hI,TT⟩⟩;unfold LZ;rw[show (gV L g).length=L from eH,e0];refine bT (gh (by omega) (by omega)) (bs e1 (bT (show Nat.ble (((sV R).length+1)*24) bm=true from cap (by simp;omega) (by omega)) ?_));have hw:((D+1:Nat):Int)=wrap .i64 ((D:Int)+1):=(cq (by omega)).symm;have:sV (R++[eO L g (cx (bn g) S f L) f])=sV R++[tV (eO L g (cx (bn g) S f L) f)]:=by simp[sV]
  rw[hw,this,aob];rfl
end
section
variable {L n:Nat} {g:Nat→List Nat} (hn:1≤n) (mQ:n≤32) (hg: ∀x,x<L→Tr n (g x)) (h1:1≤L) (hL:L≤6)
include hg in
theorem acD {x:Nat} (hx:x<L):bn g (List.range n) x=g x:=by
 have h:=hg x hx;refine tn (by simp[bn,comp,h.1]) fun i h1 h2=> ?_;simp[bn,comp,h2]
include hn mQ hg h1 hL
theorem aod: ∃P K,∃U:LV,∃W B s,CC Ks [.list ah (gV L g),.bool true]=some (.bool false::wz n 0 (gV L g) (cx (bn g) [List.range n] (List.range n) L) P K [] U W B s)∧jf L n g (cx (bn g) [List.range n] (List.range n) L) P K [] W B s∧s.length=L∧U.length≤6:=by
 have hG:(gV L g).length=L:=eH;have l1: ∀{a b c d:LV} {e f g1 h1 i1:LV},Loop (L3 CC true (gV L g) (L:Int) (n:Int) true 0 a b c d e f g1 h1 i1) (0,([]:LV))=some (.inr ((L:Int),false,gV L g)):=by
  intro a b c d e f g1 h1 i1;refine dW L (fun i=>((i:Int),tab i fun x=>tV (g x))) _ (fun i hi=> ?_) ?_
  ·simp only[L3,Fz,un];have ht:=hg i hi;refine bT (cg hi) (bs (qh hi) ?_);rw[ph];have e1:(nS (g i)).length=n:=by rw[cL,ht.1]
   refine bF (by rw[e1];simp) (bs (Th hn mQ ht) (bF rfl (bT (cap (a:=(nS (g i)).length) (b:=0) (by omega) (by omega)) (bT (cap (by simp;omega) (by omega)) ?_))));rw[cq (by omega),EW];rfl
  ·simp only[L3,Fz,un];refine bF (aW (az _)) ?_;rw[aW (az _)];rfl
 have hI0:jf L n g [List.range n] [-1] [-1] [] [[]] [-1] []:=by
  refine ⟨fun f hf=> ?_,by simp,by simp,rfl,rfl,rfl,rfl,fun r hr=>(by cases hr),⟨by simp,fun y hy=>(by cases hy)⟩,fun i hi=> ?_,fun i hi=> ?_,fun i h0 hi=>(by simp at hi;omega),rfl⟩
  ·rw[fl.1 hf];exact Fm
  ·obtain rfl:i=0:=by simpa using hi
   exact .inl rfl
  ·obtain rfl:i=0:=by simpa using hi
   exact az _
 have key: ∃r,Loop (FC CC 0 (L:Int)) (0,(n:Int),true,0,gV L g,sV [List.range n],iL [-1],iL [-1],sV [],[],mT [List.range n],wL [[]],iL [-1],nS [])=some r∧
   ∃P K,∃U:LV,∃W B s,r=((L:Int),false,(n:Int),true,0,gV L g,sV (cx (bn g) [List.range n] (List.range n) L),iL P,iL K,sV [],U,mT (cx (bn g) [List.range n] (List.range n) L),wL W,iL B,nS s)∧jf L n g (cx (bn g) [List.range n] (List.range n) L) P K [] W B s∧s.length=L∧U.length≤6:=by
  refine LQ (fun x y=> ∃P K,∃U:LV,∃W B s,y=((x:Int),(n:Int),true,0,gV L g,sV (cx (bn g) [List.range n] (List.range n) x),iL P,iL K,sV [],U,mT (cx (bn g) [List.range n] (List.range n) x),wL W,iL B,nS s)∧jf L n g (cx (bn g) [List.range n] (List.range n) x) P K [] W B s∧s.length=x∧U.length≤x)
   (fun r=> ∃P K,∃U:LV,∃W B s,r=((L:Int),false,(n:Int),true,0,gV L g,sV (cx (bn g) [List.range n] (List.range n) L),iL P,iL K,sV [],U,mT (cx (bn g) [List.range n] (List.range n) L),wL W,iL B,nS s)∧jf L n g (cx (bn g) [List.range n] (List.range n) L) P K [] W B s∧s.length=L∧U.length≤6)
   L (fun x hx y hy=> ?_) (fun y hy=> ?_) L 0 _ (eT _) ⟨_,_,_,_,_,_,rfl,hI0,rfl,az _⟩
  ·obtain ⟨P,K,U,W,B,s,rfl,hI,hs,hU⟩:=hy;have oI:=hg x hx;have hf0:bn g (List.range n) x=g x:=acD hg hx;have FF:cx (bn g) [List.range n] (List.range n) (x+1)=bR (cx (bn g) [List.range n] (List.range n) x) (g x):=by rw[←hf0];rfl
   rw[FF];generalize hTx:cx (bn g) [List.range n] (List.range n) x=T at*
   have hlen:=hI.len;have gQ:=hI.pos;have vS:=Tk mQ hI.tr oI;have hX:CC v9 [.list ae (tV (g x)).toList]=some [kT (g x)]:=by
    rw[ph];exact Ti mQ oI
   have sy:(Nat.ble (((V.nth [kT (g x)] 0).toStr).length) maxLen&&true)=true:=by
    refine pJ.2 ⟨zd ?_,rfl⟩;rw[show (V.nth [kT (g x)] 0).toStr=lX (g x) from rfl,show (lX (g x)).length=n by simp[lX,oI.1]];unfold maxLen;omega
   have hsn: ∀y,nS s++[nV y]=nS (s++[y]):=fun y=>by simp[nS]
   simp only[FC,FB,un,ar];by_cases hk:g x∈T
   ·have yw:bR T (g x)=T:=by rw[bR,ak hk]
    have hm:fG (kT (g x)) (mT T)=true:=acp vS hk;rw[yw];have nk:=ky hk;refine .inl ⟨_,bT (cg hx) ((cy (lk hx)).trans (bT (Fy (by omega)) (bs hX (bT sy ?_)))),P,K,U++[.agg [.str [UInt8.ofNat ((wrap .i32 (wrap .i64 (97+(x:Int))):Int).toNat)],.str (W.getD (cQ T (g x)) [])]],W,B,s++[cQ T (g x)],rfl,⟨hI.tr,hI.nd,hI.len,hI.lP,hI.lK,hI.lW,hI.lB,hI.row,⟨by simp;omega,fun y hy=> ?_⟩,hI.b,hI.w,hI.p,hI.id⟩,by simp[hs],by simp;omega⟩
    ·refine (cg2 (f:=fun i b=>yx CC 0 (x:Int) _ _ i (L:Int) (x:Int) b (n:Int) true 0 (gV L g) (sV T) (iL P) (iL K) (sV []) U (mT T) (wL W) (iL B) (nS s) _) (acr vS hk) hm).trans ?_;unfold yx;refine bT rfl ((cy (wx (by rw[hI.lW];exact nk))).trans (bT (cap (by simp;omega) (by omega)) (bT (show Nat.ble (((nS s).length+1)*8) bm=true from cap (by rw[cL];omega) (by omega)) ?_)));rw[cq (by omega),←hsn];rfl
    ·rcases eS.1 hy with hy|hy
     ·exact hI.s.2 y hy
     ·rw[fl.1 hy];exact nk
   ·have yw:bR T (g x)=T++[g x]:=by rw[bR,aj hk]
    have hm:fG (kT (g x)) (mT T)=false:=acq vS hk;rw[yw];have hT:T.length<2000:=by
     have:=ach (next:=bn g) [List.range n] (List.range n) x;rw[hTx] at this;simp at this;omega
    have ab:T.getD 0 []=List.range n:=by
     have:=hI.id;cases T with
     | nil=>cases this
     | cons a T=>exact dC this
    refine .inl ⟨_,bT (cg hx) ((cy (lk hx)).trans (bT (Fy (by omega)) (bs hX (bT sy ?_)))),P++[((0:Nat):Int)],K++[(x:Int)],U,W++[[UInt8.ofNat ((wrap .i32 (wrap .i64 (97+(x:Int))):Int).toNat)]],B++[0],s++[T.length],rfl,?_,by simp[hs],by omega⟩
    ·refine (congrArg (fun b=>yx CC 0 (x:Int) _ _ _ (L:Int) (x:Int) b (n:Int) true 0 (gV L g) (sV T) (iL P) (iL K) (sV []) U (mT T) (wL W) (iL B) (nS s) _) hm).trans ?_;unfold yx;rw[ph];refine bF rfl (bT (cap (a:=(nS (g x)).length) (b:=0) (by rw[cL,oI.1];omega) (by omega)) (bs (Tl (p:=0) (b:=0) (k:=(x:Int)) mQ hI.tr oI hk hlen (by rw[hI.lP];exact hlen) (by rw[hI.lK];exact hlen) (by rw[hI.lW];exact hlen) (by rw[hI.lB];exact hlen)) (bT (show Nat.ble (((nS s).length+1)*8) bm=true from cap (by rw[cL];omega) (by omega)) ?_)));rw[cq (by omega),←hsn];rfl
    ·have h2:=hI.grow oI hk hT (p:=0) (x:=x) (w:=[UInt8.ofNat ((wrap .i32 (wrap .i64 (97+(x:Int))):Int).toNat)]) (b:=0) gQ hx (show 1≤_ from gQ) (.inr ⟨Int.le_refl _,by exact_mod_cast gQ⟩) (by rw[ab];exact hf0.symm);refine ⟨h2.tr,h2.nd,h2.len,h2.lP,h2.lK,h2.lW,h2.lB,h2.row,⟨by simp;omega,fun y hy=> ?_⟩,h2.b,h2.w,h2.p,h2.id⟩;rcases eS.1 hy with hy|hy
     ·exact h2.s.2 y hy
     ·rw[fl.1 hy];simp
  ·obtain ⟨P,K,U,W,B,s,rfl,hI,hs,hU⟩:=hy;refine ⟨_,?_,P,K,U,W,B,s,rfl,hI,hs,by omega⟩;simp only[FC,FB,un];refine bF (aW (az _)) ?_;rw[aW (az _)]
 obtain ⟨r,e1,P,K,U,W,B,s,rfl,hI,hs,hU⟩:=key;refine ⟨P,K,U,W,B,s,an7 ?_,hI,hs,hU⟩;unfold acA;rw[hG];refine bF (by simp;omega) (bF (cR (by omega)) (bs (lk (by omega)) ?_));rw[ph,cL,(hg 0 (by omega)).1];refine bs l1 ?_;show FA CC (-1) true (n:Int) true 0 (gV L g) [] [] [] [] [] [] [] [] [] _=_;unfold FA;refine bT rfl (bs (ank hn mQ) (bs (Tl (S:=[]) (P:=[]) (K:=[]) (R:=[]) (U:=[]) (W:=[]) (B:=[]) (s:=[]) (D:=0) (G:=gV L g) mQ (fun f hf=>by cases hf) Fm (by simp) (by simp) (by simp) (by simp) (by simp) (by simp)) ?_));show (Loop (FC CC 0 ((gV L g).length:Int)) _).bind _=_;rw[hG];exact bs e1 rfl
structure kz (L n D:Nat) (g:Nat→List Nat) (S:List (List Nat)) (P K:List Int) (R:List (List Nat)) (W:List (List UInt8)) (B:List Int) (s:List Nat):Prop where
 I:jf L n g S P K R W B s
 sl:s.length=L
 dl:D≤S.length
 cl: ∀f∈S.take D,∀x,x<L→bn g f x∈S
 rr:R=(S.take D).map (eO L g S)
abbrev BdX:=Int×Bool×Int×LV×LV×LV×LV×LV×LV×LV×LV×LV×LV
abbrev BdR:=(Int×Int×Bool×Int×LV×LV×LV×LV×LV×LV) ⊕ (Bool×Int×Bool×Int×LV×LV×LV×LV×LV×LV×LV×LV×LV×LV)
def L6 (n D L:Nat) (g:Nat→List Nat) (S:List (List Nat)) (P K:List Int) (R:List (List Nat)) (U:LV) (W:List (List UInt8)) (B:List Int) (s:List Nat):BdX:=
 ((n:Int),true,(D:Int),gV L g,sV S,iL P,iL K,sV R,U,mT S,wL W,iL B,nS s)
theorem aoe: ∃r,CC Kg [.list ah (gV L g),.bool true]=some r∧((r=[.int .i64 0,.bool false,.int .i64 0,.int .i64 3,.list ah [],.list ah [],.list ae [],.list ae [],.list ah [],.list dU []]∧yv n)∨
  ∃S P K R W B s,∃U:LV,r=[.int .i64 (n:Int),.bool true,.int .i64 (S.length:Int),.int .i64 0,.list ah (gV L g),.list ah (sV S),.list ae (iL P),.list ae (iL K),.list ah (sV R),.list dU U]∧kz L n S.length g S P K R W B s):=by
 obtain ⟨P,K,U,W,B,s,e1,hI,hs,hU⟩:=aod hn mQ hg h1 hL;have key: ∃r,Loop (TN CC 0 false 0 [] [] [] [] [] []) (L6 n 0 L g (cx (bn g) [List.range n] (List.range n) L) P K [] U W B s)=some r∧((r= .inl (3,0,false,0,[],[],[],[],[],[])∧yv n)∨
   ∃S P K R W B s,∃U:LV,r= .inr (false,(n:Int),true,(S.length:Int),gV L g,sV S,iL P,iL K,sV R,U,mT S,wL W,iL B,nS s)∧kz L n S.length g S P K R W B s):=by
  refine DQ (fun x:BdX=> ∃D S P K R W B s,∃U:LV,x=L6 n D L g S P K R U W B s∧kz L n D g S P K R W B s∧U.length≤6+D*6) (fun x=>3000-x.2.2.1.toNat)
   (fun r:BdR=>(r= .inl (3,0,false,0,[],[],[],[],[],[])∧yv n)∨∃S P K R W B s,∃U:LV,r= .inr (false,(n:Int),true,(S.length:Int),gV L g,sV S,iL P,iL K,sV R,U,mT S,wL W,iL B,nS s)∧kz L n S.length g S P K R W B s)
   (fun x hx=> ?_) _ ⟨0,_,P,K,[],W,B,s,U,rfl,⟨hI,hs,kP _,fun f hf=>(by cases hf),rfl⟩,hU⟩
  obtain ⟨D,S,P,K,R,W,B,s,U,rfl,hE,hU⟩:=hx;have hlen:=hE.I.len;have hD:=hE.dl;have hR:R.length=D:=by rw[hE.rr];simp[hD]
  unfold L6;simp only[TN,L5,un];by_cases hf:D=S.length
  ·subst hf;refine .inr ⟨_,bs Tn (bF (by simp) rfl),.inr ⟨S,P,K,R,W,B,s,U,?_,hE⟩⟩;simp
  ·have yB:D<S.length:=by omega
   obtain ⟨r,e2,h2⟩:=aoc hE.I hE.sl hR hn mQ hg hL (bS yB) hU;rcases h2 with ⟨l,rfl,hm⟩|⟨P',K',U',W',B',rfl,fD,hU'⟩
   ·exact .inr ⟨_,bs Tn (bT (by simp[hf];omega) (bs e2 (bT rfl rfl))),.inl ⟨rfl,hm⟩⟩
   ·have p5:=Ln (next:=bn g) S S[D] L;have htk:(cx (bn g) S S[D] L).take (D+1)=S.take D++[S[D]]:=by
     obtain ⟨Z,e⟩:=p5;rw[←e,List.take_append_of_le_length yB,HX yB]
    have IW: ∀x,x<L→bn g S[D] x∈cx (bn g) S S[D] L:=fun x hx=>abz hx;refine .inl ⟨L6 n (D+1) L g (cx (bn g) S S[D] L) P' K' (R++[eO L g (cx (bn g) S S[D] L) S[D]]) U' W' B' s,bs Tn (bT (by simp;omega) (bs e2 (bF rfl rfl))),⟨D+1,_,P',K',_,W',B',s,U',rfl,⟨⟨fD.tr,fD.nd,fD.len,fD.lP,fD.lK,fD.lW,fD.lB,fun r hr=> ?_,fD.s,fD.b,fD.w,fD.p,fD.id⟩,hE.sl,lu yB p5.length_le,fun f hf x hx=> ?_,?_⟩,hU'⟩,?_⟩
    ·rcases eS.1 hr with hr|hr
     ·exact fD.row r hr
     ·rw[fl.1 hr];refine ⟨by simp[eO],fun y hy=> ?_⟩;obtain ⟨x,hx,rfl⟩:=ez.1 hy;exact ky (IW x (fm.1 hx))
    ·rw[htk] at hf;rcases eS.1 hf with hf|hf
     ·exact p5.subset (hE.cl f hf x hx)
     ·rw[fl.1 hf];exact IW x hx
    ·rw[htk,rM,hE.rr];refine congrArg (· ++[_]) (mr fun f hf=>mr fun x hx=> ?_);exact (aco p5 (hE.cl f hf x (fm.1 hx))).symm
    ·show 3000-(((D+1:Nat):Int)).toNat<3000-((D:Int)).toNat
     omega
 obtain ⟨r,e2,h2⟩:=key;rcases h2 with ⟨rfl,hm⟩|⟨S,P,K,R,W,B,s,U,rfl,hE⟩
 ·refine ⟨_,acC ?_,.inl ⟨rfl,hm⟩⟩;unfold TO;exact bs e1 (bF rfl (bs e2 rfl))
 ·refine ⟨_,acC ?_,.inr ⟨S,P,K,R,W,B,s,U,rfl,hE⟩⟩;unfold TO;exact bs e1 (bF rfl (bs e2 rfl))
end
end Go.AM
set_option maxRecDepth 100000
namespace Go.AM
open Go.IntKind (wrap)
section
variable {β:Type} [DecidableEq β]
def bV (g:Nat→β):Nat→List β
 | 0=>[]
 | n+1=>bR (bV g n) (g n)
theorem TU (g:Nat→β): ∀n,(bV g n).Nodup
 | 0=>List.nodup_nil
 | n+1=>SS (TU g n)
theorem nH {g:Nat→β} {v:β}: ∀{n},v∈bV g n↔∃q,q<n∧g q=v
 | 0=>⟨fun h=>(by cases h),fun ⟨q,h,_⟩=>(by omega)⟩
 | n+1=>by
  have ih:=nH (g:=g) (v:=v) (n:=n);rw[bV];unfold bR;constructor
  ·intro h;split at h
   ·obtain ⟨q,h1,h2⟩:=ih.1 h;exact ⟨q,by omega,h2⟩
   ·rcases eS.1 h with h|h
    ·obtain ⟨q,h1,h2⟩:=ih.1 h;exact ⟨q,by omega,h2⟩
    ·exact ⟨n,by omega,(fl.1 h).symm⟩
  ·rintro ⟨q,h1,h2⟩;rcases gy q n with c|c
   ·exact (nz (bV g n) (g n)).subset (ih.2 ⟨q,c,h2⟩)
   ·obtain rfl:q=n:=by omega
    rw[←h2];exact wq
theorem aof {g:Nat→β} {m n:Nat} (h:m≤n):bV g m <+: bV g n:=by
 induction n with
 | zero=>rw[ve.1 h];exact nW _
 | succ n ih=>
  rcases gy m (n+1) with c|c
  ·exact (ih (by omega)).trans (nz _ _)
  ·rw[show m=n+1 by omega];exact nW _
theorem FG (g:Nat→β): ∀n,(bV g n).length≤n
 | 0=>az _
 | n+1=>by
  have:=FG g n;rw[bV,A0];split<;>omega
def fi (g:Nat→β) (n q:Nat):Nat:=(bV g n).idxOf (g q)
theorem TV {g:Nat→β} {n q:Nat} (h:q<n):fi g n q<(bV g n).length:=vj (nH.2 ⟨q,h,rfl⟩)
theorem acE {g:Nat→β} {n p q:Nat} (hp:p<n) (hq:q<n):fi g n p=fi g n q↔g p=g q:=by
 constructor
 ·intro h;have h1:=HW (TV (g:=g) hp);have h2:=HW (TV (g:=g) hq);rw[←h1,←h2];exact getElem_congr_idx h
 ·intro h;unfold fi;rw[h]
theorem TW {g:Nat→β} {m n q:Nat} (h:q<m) (hm:m≤n):fi g n q=fi g m q:=A4 (aof hm) (nH.2 ⟨q,h,rfl⟩)
theorem acF {g:Nat→β} {q:Nat} (h:g q∈bV g q):bV g (q+1)=bV g q:=by rw[bV];unfold bR;rw[ak h]
theorem acG {g:Nat→β} {q:Nat} (h:g q∉bV g q):bV g (q+1)=bV g q++[g q]:=by rw[bV];unfold bR;rw[aj h]
theorem aog {g:Nat→β} {n q:Nat} (hq:q<n) (h:g q∈bV g q):fi g n q=(bV g q).idxOf (g q):=by
 rw[TW (show q<q+1 by omega) (by omega)];unfold fi;rw[acF h]
theorem aoh {g:Nat→β} {n q:Nat} (hq:q<n) (h:g q∉bV g q):fi g n q=(bV g q).length:=by
 rw[TW (show q<q+1 by omega) (by omega)];unfold fi;rw[acG h,zf,aj h];simp
def yC (p:Nat→Nat) (n:Nat):Prop:= ∀m,m≤n→bV p m=List.range (bV p m).length
theorem acH (g:Nat→β) (n:Nat): ∀m,m≤n→bV (fi g n) m=List.range (bV g m).length:=by
 intro m
 induction m with
 | zero=>intro _;rfl
 | succ m ih=>
  intro hm;have ih:=ih (by omega);have e1:fi g n m=fi g (m+1) m:=TW (by omega) hm;have e2:fi g (m+1) m=if g m∈bV g m then (bV g m).idxOf (g m) else (bV g m).length:=by
   unfold fi;rw[bV];unfold bR;split
   ·rfl
   ·rename_i h;rw[zf,aj h];simp
  rw[bV,ih,bV,A0];unfold bR;by_cases h:g m∈bV g m
  ·have:=vj h;rw[ak h] at e2;rw[ak h,ak (by rw[e1,e2];exact fm.2 this)]
  ·rw[aj h] at e2;rw[aj h,aj (by rw[e1,e2];simp),e1,e2,Cg]
theorem aoi (g:Nat→β) (n:Nat):yC (fi g n) n:=fun m hm=>by
 rw[acH g n m hm,jP]
theorem acI {γ:Type} [DecidableEq γ] {f:Nat→β} {c:Nat→γ} {n:Nat} (hr: ∀q q',q<n→q'<n→f q=f q'→c q=c q') (hl:(bV f n).length≤(bV c n).length):
  ∀q q',q<n→q'<n→c q=c q'→f q=f q':=by
 intro q q' hq dI hc;refine Decidable.byContradiction fun hf=> ?_;have rep: ∀v∈bV f n,∃q,q<n∧f q=v:=fun v hv=>nH.1 hv;have: ∃R:β→Nat,∀v∈bV f n,R v<n∧f (R v)=v:=by
  classical
  refine ⟨fun v=>if h:v∈bV f n then Classical.choose (rep v h) else 0,fun v hv=> ?_⟩;simp only[hv,pD];exact HY (rep v hv)
 obtain ⟨R,hR⟩:=this;have jY:bV c n ⊆ ((bV f n).filter fun v=>decide (v≠f q')).map fun v=>c (R v):=by
  intro u hu;obtain ⟨s,hs,rfl⟩:=nH.1 hu;by_cases h:f s=f q'
  ·refine ez.2 ⟨f q,List.mem_filter.2 ⟨nH.2 ⟨q,hq,rfl⟩,cZ hf⟩,?_⟩;have h1:=hR (f q) (nH.2 ⟨q,hq,rfl⟩);rw[hr _ _ h1.1 hq h1.2,hc,hr _ _ hs dI h]
  ·refine ez.2 ⟨f s,List.mem_filter.2 ⟨nH.2 ⟨s,hs,rfl⟩,cZ h⟩,?_⟩;have h1:=hR (f s) (nH.2 ⟨s,hs,rfl⟩);exact hr _ _ h1.1 hs h1.2
 have h1:=wR (TU c n) jY;rw[cY] at h1;have h2:((bV f n).filter fun v=>decide (v≠f q')).length<(bV f n).length:=by
  have hm:f q'∈bV f n:=nH.2 ⟨q',dI,rfl⟩;have aY:=List.length_filter_lt_length_iff_exists (p:=fun v=>decide (v≠f q')) (l:=bV f n);exact aY.2 ⟨f q',hm,by simp⟩
 omega
theorem aoj {γ:Type} [DecidableEq γ] {f:Nat→β} {c:Nat→γ} {n:Nat} (hr: ∀q q',q<n→q'<n→f q=f q'→c q=c q'):(bV c n).length≤(bV f n).length:=by
 rcases gy (bV f n).length (bV c n).length with h|h
 ·have:=acI hr (by omega);have rep: ∀v∈bV f n,∃q,q<n∧f q=v:=fun v hv=>nH.1 hv;have: ∃R:β→Nat,∀v∈bV f n,R v<n∧f (R v)=v:=by
   classical
   refine ⟨fun v=>if h:v∈bV f n then Classical.choose (rep v h) else 0,fun v hv=> ?_⟩;simp only[hv,pD];exact HY (rep v hv)
  obtain ⟨R,hR⟩:=this;have jY:bV c n ⊆ (bV f n).map fun v=>c (R v):=by
   intro u hu;obtain ⟨s,hs,rfl⟩:=nH.1 hu;have h1:=hR (f s) (nH.2 ⟨s,hs,rfl⟩);exact ez.2 ⟨f s,nH.2 ⟨s,hs,rfl⟩,hr _ _ h1.1 hs h1.2⟩
  have h1:=wR (TU c n) jY;rw[cY] at h1;omega
 ·exact h
end
namespace Da
structure Part (a:Da) (c:Nat→Nat):Prop where
 coarse: ∀q q',q<a.n→q'<a.n→a.qg q a q'→c q=c q'
 fin: ∀q q',q<a.n→q'<a.n→c q=c q'→a.fin q=a.fin q'
def sig (a:Da) (c:Nat→Nat) (q:Nat):List Nat:=c q::(List.range a.L).map fun x=>c (a.nx q x)
theorem FH {a:Da} {c:Nat→Nat} {q q':Nat}:a.sig c q=a.sig c q'↔c q=c q'∧∀x,x<a.L→c (a.nx q x)=c (a.nx q' x):=by
 unfold sig;rw[wQ];refine and_congr Iff.rfl ⟨fun h x hx=> ?_,fun h=>mr fun x hx=>h x (fm.1 hx)⟩;have:=congrArg (fun l=>l.getD x 0) h;simpa[hx] using this
def TX (a:Da) (c f:Nat→Nat):Prop:= ∀q q',q<a.n→q'<a.n→(f q=f q'↔a.sig c q=a.sig c q')
theorem TX.part {a:Da} {c f:Nat→Nat} (h:a.TX c f) (ha:a.Ok) (hc:a.Part c):a.Part f where
 coarse q q' hq dI he:=(h q q' hq dI).2 (FH.2 ⟨hc.coarse q q' hq dI he,fun x hx=>hc.coarse _ _ (ha.kq hq hx) (ha.kq dI hx) (he.nx hx)⟩)
 fin q q' hq dI he:=hc.fin q q' hq dI (FH.1 ((h q q' hq dI).1 he)).1
def L7 (a:Da) (p:Nat→Nat):Prop:=(∀q q',q<a.n→q'<a.n→(p q=p q'↔a.qg q a q'))∧yC p a.n
theorem Part.aok {a:Da} {c:Nat→Nat} (hc:a.Part c) (ha:a.Ok) (hs: ∀q q',q<a.n→q'<a.n→c q=c q'→a.sig c q=a.sig c q'): ∀q q',q<a.n→q'<a.n→(c q=c q'↔a.qg q a q'):=by
 intro q q' hq dI;refine ⟨fun h w=> ?_,hc.coarse q q' hq dI⟩
 induction w generalizing q q' with
 | nil=>intro _;rw[sK,sK];exact hc.fin q q' hq dI h
 | cons x w ih=>
  intro hw;rw[Lj,Lj];exact ih _ _ (ha.kq hq hw.head) (ha.kq dI hw.head) ((FH.1 (hs q q' hq dI h)).2 x hw.head) hw.tail
def fO (p:Nat→Nat):Nat→List Nat
 | 0=>[]
 | n+1=>if p n∈bV p n then fO p n else fO p n++[n]
theorem L8 {p:Nat→Nat}: ∀n,(fO p n).map p=bV p n
 | 0=>rfl
 | n+1=>by
  rw[fO,bV];unfold bR;split
  ·exact L8 n
  ·rw[rM,L8 n];rfl
theorem FI {p:Nat→Nat} {n:Nat}:(fO p n).length=(bV p n).length:=by rw[←L8,cY]
theorem yD {p:Nat→Nat}: ∀{n q},q∈fO p n→q<n
 | 0,q,h=>by cases h
 | n+1,q,h=>by
  rw[fO] at h;split at h
  ·have:=yD h;omega
  ·rcases eS.1 h with h|h
   ·have:=yD h;omega
   ·rw[fl.1 h];omega
theorem Be {p:Nat→Nat} {n:Nat} (ho:yC p n) {c:Nat} (hc:c<(fO p n).length):p (fO p n)[c]=c:=by
 have h1:=ho n (az _);have h2:((fO p n).map p)[c]? =some c:=by rw[L8,h1,HU (by rw[FI] at hc;exact hc)]
 rw[jk,bS hc] at h2;exact dC h2
theorem FJ {p:Nat→Nat} {n q:Nat} (ho:yC p n) (hq:q<n):p q<(fO p n).length:=by
 have h1:p q∈bV p n:=nH.2 ⟨q,hq,rfl⟩;rw[ho n (az _),fm] at h1;rw[FI];exact h1
def quo (a:Da) (p:Nat→Nat):Da where
 L:=a.L
 st:=p a.st
 F:=(fO p a.n).map a.fin
 N:=(fO p a.n).map fun q=>tab a.L fun x=>p (a.nx q x)
theorem wC {a:Da} {p:Nat→Nat}:(a.quo p).n=(fO p a.n).length:=by simp[quo,n]
theorem acJ {a:Da} {p:Nat→Nat} {c:Nat} (hc:c<(fO p a.n).length):(a.quo p).fin c=a.fin (fO p a.n)[c]:=by
 show ((fO p a.n).map a.fin).getD c false=_;rw[bD (by simpa using hc),zg]
theorem acK {a:Da} {p:Nat→Nat} {c x:Nat} (hc:c<(fO p a.n).length) (hx:x<a.L):(a.quo p).nx c x=p (a.nx (fO p a.n)[c] x):=by
 show (((fO p a.n).map fun q=>tab a.L fun x=>p (a.nx q x)).getD c []).getD x 0=_;rw[bD (l:=(fO p a.n).map fun q=>tab a.L fun x=>p (a.nx q x)) (by simpa using hc),zg,uJ hx]
section
variable {a:Da} {p:Nat→Nat} (ha:a.Ok) (hp:a.L7 p)
include ha hp
theorem acL:(a.quo p).Ok where
 l1:=ha.l1
 l6:=ha.l6
 nN:=by rw[wC];simp[quo]
 row r hr:=by
  rw[wC];obtain ⟨q,hq,rfl⟩:=ez.1 (show r∈(fO p a.n).map _ from hr);refine ⟨by simp[quo],fun s hs=> ?_⟩;obtain ⟨x,hx,rfl⟩:=Lv.1 hs;exact FJ hp.2 (ha.kq (yD hq) hx)
 s:=by rw[wC];exact FJ hp.2 ha.s
 je:=by
  rw[wC,FI];have:=FG p a.n;have:=ha.je;omega
theorem L9: ∀(w:List Nat) {q:Nat},q<a.n→WL a.L w→(a.quo p).acc (p q) w=a.acc q w
 | [],q,hq,_=>by
  have hc:=FJ hp.2 hq;rw[sK,sK,acJ hc];have h1:=(hp.1 _ _ (yD (cM hc)) hq).1 (Be hp.2 hc);have:=h1 [] WL.nil;rwa [sK,sK] at this
 | x::w,q,hq,hw=>by
  have hc:=FJ hp.2 hq;have hr:=yD (cM hc);have h1:=(hp.1 _ _ hr hq).1 (Be hp.2 hc);have h2:=(hp.1 _ _ (ha.kq hr hw.head) (ha.kq hq hw.head)).2 (h1.nx hw.head);rw[Lj,Lj,acK hc hw.head,h2];exact L9 w (ha.kq hq hw.head) hw.tail
theorem aol: ∀c d,c<(a.quo p).n→d<(a.quo p).n→(a.quo p).qg c (a.quo p) d→c=d:=by
 intro c d hc hd he;rw[wC] at hc hd;have r1:=yD (cM hc);have r2:=yD (cM hd);rw[←Be hp.2 hc,←Be hp.2 hd];refine (hp.1 _ _ r1 r2).2 fun w hw=> ?_;rw[←L9 ha hp w r1 hw,←L9 ha hp w r2 hw,Be hp.2 hc,Be hp.2 hd];exact he w hw
theorem aom:(a.quo p).trim.Canon a.L (a.acc a.st):=by
 have h:=(acL ha hp).al6 (aol ha hp);exact ⟨h.ok,h.hL,h.st,h.num,h.red,fun w hw=>(h.AZ w hw).trans (L9 ha hp w ha.s hw)⟩
end
end Da
end Go.AM
set_option maxRecDepth 100000
namespace Go.AM
open Go.IntKind (wrap)
open Go.Proofs
noncomputable def FK (C:af) (t24:LV) (t25 cF cX:Int) (dL dA:LV) (count t26:Int) (ee:LV) {β:Type} (kn:(Int×Int×LV)→Option β) (kr:(Int×Int×Bool×LV)→Option β):Option β:=
 bif decide (t26<t25) then
  (idx t24 t26).bind fun x2=>
  (dL[0]?).bind fun x3=>
  bif !(x2.toBool==x3.toBool) then
  ar ee t26 fun x4=>
  kn (2,wrap .i64 (t26+1),aE ee t26 (V.int .i64 1))
  else
  kn (count,wrap .i64 (t26+1),ee)
 else
  kr (count,t26,decide (t26<t25),ee)
noncomputable def Ma (C:af) (t24:LV) (t25 cF cX:Int) (dL dA:LV):=un fun count=>un fun t26 ee=>FK C t24 t25 cF cX dL dA count t26 ee (fun y=>some (Sum.inl y)) (fun r=>some (Sum.inr r))
noncomputable def FL (C:af) (count q:Int) (t46:LV) (t47 t48:Int) (t58:LV) (t59 cF cX:Int) (dL dA ee numbers ry:LV) (t60 Mb Mc Md Me Mf Mg Mh:Int) {β:Type} (kn:(Int×Int×Int×Int×Int×Int×Int×Int)→Option β) (kr:(Int×Bool×Int×Int×Int×Int×Int×Int×Int)→Option β):Option β:=
 bif decide (t60<t59) then
  (idx t58 t60).bind fun nJ=>
  bif (decide (0≤nJ.toInt))&&(decide (nJ.toInt<(ee.length:Int))) then
  (ee[(nJ.toInt:Int).toNat]?).bind fun qj=>
  bif (decide (0≤(wrap .i64 (1+t60))))&&(decide ((wrap .i64 (1+t60))<7)) then
   bif Nat.blt (0+(((wrap .i64 (1+t60):Int).toNat)*1)) 7 then
   kn (wrap .i64 (t60+1),bif Nat.beq (0+(((wrap .i64 (1+t60):Int).toNat)*1)) 0 then qj.toInt else Mb,bif Nat.beq (0+(((wrap .i64 (1+t60):Int).toNat)*1)) 1 then qj.toInt else Mc,bif Nat.beq (0+(((wrap .i64 (1+t60):Int).toNat)*1)) 2 then qj.toInt else Md,bif Nat.beq (0+(((wrap .i64 (1+t60):Int).toNat)*1)) 3 then qj.toInt else Me,bif Nat.beq (0+(((wrap .i64 (1+t60):Int).toNat)*1)) 4 then qj.toInt else Mf,bif Nat.beq (0+(((wrap .i64 (1+t60):Int).toNat)*1)) 5 then qj.toInt else Mg,bif Nat.beq (0+(((wrap .i64 (1+t60):Int).toNat)*1)) 6 then qj.toInt else Mh)
   else none
  else none
  else none
 else
  kr (t60,decide (t60<t59),Mb,Mc,Md,Me,Mf,Mg,Mh)
noncomputable def Mi (C:af) (count q:Int) (t46:LV) (t47 t48:Int) (t58:LV) (t59 cF cX:Int) (dL dA ee numbers ry:LV):=un fun t60=>un fun Mb=>un fun Mc=>un fun Md=>un fun Me=>un fun Mf=>un fun Mg Mh=>FL C count q t46 t47 t48 t58 t59 cF cX dL dA ee numbers ry t60 Mb Mc Md Me Mf Mg Mh (fun y=>some (Sum.inl y)) (fun r=>some (Sum.inr r))
noncomputable def FM (C:af) (count:Int) (t46:LV) (t47 cF cX:Int) (dL dA ee:LV) (t48:Int) (numbers ry:LV) {β:Type} (kn:(Int×LV×LV)→Option β) (kr:(Int×Bool×LV×LV)→Option β):Option β:=
 bif decide (t48<t47) then
  (idx t46 t48).bind fun x9=>
  ar ee t48 fun lY=>
  (Loop (Mi C count t48 t46 t47 t48 x9.toList (x9.toList.length:Int) cF cX dL dA ee numbers ry) (0,lY.toInt,0,0,0,0,0,0)).bind (un fun yE=>un fun (sX:Bool)=>un fun FN=>un fun FO=>un fun FP=>un fun FQ=>un fun FR=>un fun (FT:Int) (FU:Int)=>
   bif (fC .i64 FN&&(fC .i64 FO&&(fC .i64 FP&&(fC .i64 FQ&&(fC .i64 FR&&(fC .i64 FT&&(fC .i64 FU&&true)))))))&&true then
   bif !(fG (.agg [V.int .i64 FN,V.int .i64 FO,V.int .i64 FP,V.int .i64 FQ,V.int .i64 FR,V.int .i64 FT,V.int .i64 FU]) numbers) then
    bif (fC .i64 FN&&(fC .i64 FO&&(fC .i64 FP&&(fC .i64 FQ&&(fC .i64 FR&&(fC .i64 FT&&(fC .i64 FU&&true)))))))&&true then
    ar ry t48 fun oK=>
    kn (wrap .i64 (t48+1),g9 (.agg [V.int .i64 FN,V.int .i64 FO,V.int .i64 FP,V.int .i64 FQ,V.int .i64 FR,V.int .i64 FT,V.int .i64 FU]) (V.int .i64 (numbers.length:Int)) numbers,aE ry t48 (V.int .i64 (numbers.length:Int)))
    else none
   else
    ar ry t48 fun pk=>
    kn (wrap .i64 (t48+1),numbers,aE ry t48 (V.int .i64 ((jn (.agg [V.int .i64 FN,V.int .i64 FO,V.int .i64 FP,V.int .i64 FQ,V.int .i64 FR,V.int .i64 FT,V.int .i64 FU]) numbers (V.int .i64 0)).toInt)))
   else none)
 else
  kr (t48,decide (t48<t47),numbers,ry)
noncomputable def Mj (C:af) (count:Int) (t46:LV) (t47 cF cX:Int) (dL dA ee:LV):=un fun t48=>un fun numbers ry=>FM C count t46 t47 cF cX dL dA ee t48 numbers ry (fun y=>some (Sum.inl y)) (fun r=>some (Sum.inr r))
noncomputable def FV (C:af) (cF cX:Int) (dL dA:LV) (count:Int) (ee:LV) {β:Type} (kn:(Int×LV)→Option β) (kr:LV→Option β):Option β:=
 bif (decide (0≤(ee.length:Int)))&&((decide ((ee.length:Int)≤(ee.length:Int)))&&(Nat.ble (((ee.length:Int).toNat)*8) bm)) then
  (Loop (Mj C count dA (dA.length:Int) cF cX dL dA ee) (0,([]:LV),List.replicate ((ee.length:Int).toNat) (V.int .i64 0))).bind (un fun auL=>un fun (aon:Bool)=>un fun (acM:LV) (acN:LV)=>
   bif (acM.length:Int)==count then
   kr acN
   else
   kn ((acM.length:Int),acN))
 else none
noncomputable def FW (C:af) (cF cX:Int) (dL dA:LV):=un fun count ee=>FV C cF cX dL dA count ee (fun y=>some (Sum.inl y)) (fun r=>some (Sum.inr r))
noncomputable def Mk (C:af):cz:=bt 81 RX [H1,EQ,EQ,H1,EQ,EQ,EQ,EQ,H1] [[0,2,3,0,0,5,6,7,8,0]] (@FK C) (bt 273 RY [EQ,EQ,EQ,EQ,EQ,EQ,EQ,H1,EQ,EQ,EQ,EQ,EQ,EQ,EQ,H1,H1,H1,H1,H1,H1,H1] [[1,2,3,4,5,6,7,0,0,9,10,11,12,13,14,15,0,0,0,0,0,0,0]] (@FL C) (bt 209 RZ [EQ,EQ,EQ,H1,EQ,EQ,EQ,EQ,EQ,H1,H1] [[1,2,3,0,0,5,6,7,8,9,0,0]] (@FM C) (bt 161 R0 [H1,EQ,EQ,EQ,EQ,H1] [[0]] (@FV C) bB)))
theorem aoo (C:af):bc C (Mk C) 75 (Lp [1,1,1,0,1,0,0] 75):=br RX [H1,EQ,EQ,H1,EQ,EQ,EQ,EQ,H1] [[0,2,3,0,0,5,6,7,8,0]] (@FK C) (aR av)
theorem aop (C:af):bc C (Mk C) 75 (Lp [1,1,1,1,0,0,0,1,1,0,1,0,0,1,1,0,0,1,1,0,1,0,0] 75):=br RY [EQ,EQ,EQ,EQ,EQ,EQ,EQ,H1,EQ,EQ,EQ,EQ,EQ,EQ,EQ,H1,H1,H1,H1,H1,H1,H1] [[1,2,3,4,5,6,7,0,0,9,10,11,12,13,14,15,0,0,0,0,0,0,0]] (@FL C) (aR av)
theorem aoq (C:af):bc C (Mk C) 75 (Lp [1,1,1,1,0,0,0,1,1,0,1,0,0] 75):=br RZ [EQ,EQ,EQ,H1,EQ,EQ,EQ,EQ,EQ,H1,H1] [[1,2,3,0,0,5,6,7,8,9,0,0]] (@FM C) (aR (ba (aop C) av))
theorem aor (C:af):bc C (Mk C) 75 (Lp [1,1,1,1,0,0] 75):=br R0 [H1,EQ,EQ,EQ,EQ,H1] [[0]] (@FV C) (aR (ba (aoq C) av))
noncomputable def acO (C:af) (bW cf:Int) (bH b9:LV):Option LV:=
 (C sF [V.int .i64 bW,V.int .i64 cf,.list ax bH,.list ah b9]).bind fun r1=>
 bif (((V.nth r1 0).toInt):Int) != 0 then
  some [.list ae ([]:LV)]
 else
  bif (decide (0≤(bH.length:Int)))&&((decide ((bH.length:Int)≤(bH.length:Int)))&&(Nat.ble (((bH.length:Int).toNat)*8) bm)) then
  (Loop (Ma C bH (bH.length:Int) bW cf bH b9) (1,0,List.replicate ((bH.length:Int).toNat) (V.int .i64 0))).bind (un fun aos=>un fun oB=>un fun (oC:Bool) (aot:LV)=>
   (Loop (FW C bW cf bH b9) (aos,aot)).bind (fun (aou:LV)=>
    some [.list ae aou]))
  else none
theorem aov {bW cf:Int} {bH b9:LV} {r:Option LV} (h:acO CC bW cf bH b9=r):CC Kr [V.int .i64 bW,V.int .i64 cf,.list ax bH,.list ah b9]=r:=bA (ba (aoo CC) (ba (aor CC) av)) h
def et (a:Da) (c:Nat→Nat) (q t j:Nat):Nat:=if j=0 then c q else if j≤t then c (a.nx q (j-1)) else 0
def eh (a:Da) (c:Nat→Nat) (q:Nat):List Nat:=tab 7 (et a c q a.L)
def FX (s:List Nat):V:= .agg (s.map nV)
theorem acP: ∀s t:List Nat,oR (s.map nV) (t.map nV)=decide (s=t)
 | [],[]=>rfl
 | [],b::t=>rfl
 | a::s,[]=>rfl
 | a::s,b::t=>by
  simp only[iQ,oR];rw[acP s t,wS];simp only[nV,vq];simp only[aK,beq_iff_eq,fQ,wQ];exact and_congr (by omega) Iff.rfl
theorem TY (s t:List Nat):gZ (FX s) (FX t)=decide (s=t):=acP s t
theorem TZ {a:Da} (h:a.Ok) {c:Nat→Nat} {q q':Nat}:eh a c q=eh a c q'↔a.sig c q=a.sig c q':=by
 rw[Da.FH];have h6:=h.l6;constructor
 ·intro e;have g:=fun j (hj:j<7)=>congrArg (fun l:List Nat=>l.getD j 0) e;unfold eh at g;refine ⟨?_,fun x hx=> ?_⟩
  ·have:=g 0 (by omega);rw[uJ (by omega),uJ (by omega)] at this;exact this
  ·have:=g (x+1) (by omega);rw[uJ (by omega),uJ (by omega)] at this;unfold et at this;rwa [aj (by omega),ak (by omega),aj (by omega),ak (by omega)] at this
 ·rintro ⟨h1,h2⟩;refine cJ fun j _=> ?_;unfold et;by_cases hj:j=0
  ·rw[ak hj,ak hj,h1]
  ·rw[aj hj,aj hj];by_cases dj:j≤a.L
   ·rw[ak dj,ak dj,h2 (j-1) (by omega)]
   ·rw[aj dj,aj dj]
theorem yF {a:Da} {c:Nat→Nat} {q t:Nat} (j:Nat):(bif Nat.beq (0+(t+1)*1) j then ((c (a.nx q t):Nat):Int) else ((et a c q t j:Nat):Int))=((et a c q (t+1) j:Nat):Int):=by
 by_cases hj:t+1=j
 ·rw[show Nat.beq (0+(t+1)*1) j=true from by rw[aN];omega,cond_true,←hj];unfold et;rw[bO,bu];rfl
 ·rw[show Nat.beq (0+(t+1)*1) j=false from by rw[←Bool.not_eq_true,aN];omega,cond_false];unfold et;by_cases h0:j=0
  ·rw[ak h0,ak h0]
  ·rw[aj h0,aj h0];by_cases h1:j≤t
   ·rw[ak h1,bu]
   ·rw[aj h1,bO]
def cV (n:Nat) (c:Nat→Nat):List V:=tab n fun q=>nV (c q)
section
variable {a:Da} (h:a.Ok) {c:Nat→Nat}
include h
theorem aow {q:Nat} (hq:q<a.n) {k1 k2 k3 k4 k5 k6:Int} {l1 l2 l3 l4 l5:List V}:
  Loop (Mi CC k1 k2 l1 k3 k4 (tab a.L fun x=>iV (a.nx q x)) ((tab a.L fun x=>iV (a.nx q x)).length:Int) k5 k6 l2 l3 (cV a.n c) l4 l5) (0,(c q:Int),0,0,0,0,0,0)=
   some ((a.L:Int),false,(et a c q a.L 0:Int),(et a c q a.L 1:Int),(et a c q a.L 2:Int),(et a c q a.L 3:Int),(et a c q a.L 4:Int),(et a c q a.L 5:Int),(et a c q a.L 6:Int)):=by
 have h6:=h.l6;rw[eH];refine (dW a.L (fun t=>((t:Int),(et a c q t 0:Int),(et a c q t 1:Int),(et a c q t 2:Int),(et a c q t 3:Int),(et a c q t 4:Int),(et a c q t 5:Int),(et a c q t 6:Int))) _ (fun t ht=> ?_) ?_)
 ·simp only[Mi,FL,un];refine bT (cg ht) ?_;refine bs (E1 ht) ?_;refine (ll (i:=a.nx q t) (h.kq hq ht)).trans ?_;have w:wrap .i64 (1+(t:Int))=((t+1:Nat):Int):=by rw[gG];omega
  rw[w,cq (by omega),Int.toNat_natCast];refine bT (pJ.2 ⟨cZ (by omega),cZ (by omega)⟩) ?_;refine bT (show Nat.ble (0+(t+1)*1+1) 7=true by rw[fk];omega) ?_;show some (Sum.inl _)=some (Sum.inl _);refine congrArg (fun x=>some (Sum.inl x)) ?_;exact jl rfl (jl (yF 0) (jl (yF 1) (jl (yF 2) (jl (yF 3) (jl (yF 4) (jl (yF 5) (yF 6)))))))
 ·simp only[Mi,FL,un];refine bF (aW (az _)) ?_;rw[aW (az _)]
theorem aox (hc: ∀q,q<a.n→c q≤1000) {q:Nat} (hq:q<a.n) (j:Nat):et a c q a.L j≤1000:=by
 unfold et;split
 ·exact hc q hq
 ·split
  ·exact hc _ (h.kq hq (by omega))
  ·omega
theorem aoy (hc: ∀q,q<a.n→c q≤1000) {k1 k2 k3:Int} {l2:List V}:
  Loop (Mj CC k1 a.ed (a.ed.length:Int) k2 k3 l2 a.ed (cV a.n c)) (0,([]:List V),List.replicate ((((cV a.n c).length:Int):Int).toNat) (V.int .i64 0))=
   some ((a.n:Int),false,e8 FX 0 (bV (eh a c) a.n),cV a.n (fi (eh a c) a.n)):=by
 have hm:=h.je;have hl:(cV a.n c).length=a.n:=by simp[cV]
 rw[hl,Int.toNat_natCast,mP,Da.amx];refine (dW a.n (fun i=>((i:Int),e8 FX 0 (bV (eh a c) i),(tab a.n fun q=>if q<i then nV (fi (eh a c) a.n q) else nV 0))) _ (fun q hq=> ?_) ?_)
 ·have hle:=FG (eh a c) q;simp only[Mj,FM,un,ar,aE];refine bT (cg hq) ?_;refine bs (Da.LB hq) ?_;refine (ll (i:=q) hq).trans ?_;simp only[E0];refine bs (aow h hq) ?_;have k0:=aox h hc hq;have kk: ∀j,fC .i64 ((et a c q a.L j:Nat):Int)=true:=fun j=>S7 (by have:=k0 j;omega);have acQ:((fC .i64 ((et a c q a.L 0:Nat):Int)&&(fC .i64 ((et a c q a.L 1:Nat):Int)&&(fC .i64 ((et a c q a.L 2:Nat):Int)&&(fC .i64 ((et a c q a.L 3:Nat):Int)&&(fC .i64 ((et a c q a.L 4:Nat):Int)&&(fC .i64 ((et a c q a.L 5:Nat):Int)&&(fC .i64 ((et a c q a.L 6:Nat):Int)&&true)))))))&&true)=true:=by
   simp only[kk,Bool.and_self]
  refine bT acQ ?_;have ek:V.agg [V.int .i64 (et a c q a.L 0:Int),V.int .i64 (et a c q a.L 1:Int),V.int .i64 (et a c q a.L 2:Int),V.int .i64 (et a c q a.L 3:Int),V.int .i64 (et a c q a.L 4:Int),V.int .i64 (et a c q a.L 5:Int),V.int .i64 (et a c q a.L 6:Int)]=FX (eh a c q):=rfl;simp only[un,ek];have e1:=S4 TY (eh a c q) (bV (eh a c) q) 0;have fin: ∀v,v=nV (fi (eh a c) a.n q)→(tab a.n fun j=>if j<q then nV (fi (eh a c) a.n j) else nV 0).set q v=tab a.n fun j=>if j<q+1 then nV (fi (eh a c) a.n j) else nV 0:=by
   rintro v rfl;rw[iI];refine cJ fun j _=> ?_;by_cases hj:j=q
   ·rw[ak hj,bu,hj]
   ·rw[aj hj];by_cases dj:j<q
    ·rw[ak dj,bu]
    ·rw[aj dj,bO]
  rw[cq (by omega)];by_cases hx:eh a c q∈bV (eh a c) q
  ·refine bF (by rw[e1];simpa using hx) ?_;refine (ll hq).trans ?_;have e2:=S5 TY (eh a c q) (.int .i64 0) (bV (eh a c) q) 0 hx;rw[eT,←aog hq hx] at e2;rw[e2,V.toInt_int,Int.toNat_natCast,show (V.int .i64 (fi (eh a c) a.n q:Int))=nV (fi (eh a c) a.n q) from rfl,fin _ rfl,acF hx]
  ·refine bT (by rw[e1];simpa using hx) ?_;refine bT acQ ?_;refine (ll hq).trans ?_;have e2:=S6 TY (eh a c q) (bV (eh a c) q) 0 hx;rw[eT] at e2;rw[E2,e2,Int.toNat_natCast,←aoh hq hx,show (V.int .i64 (fi (eh a c) a.n q:Int))=nV (fi (eh a c) a.n q) from rfl,fin _ rfl,acG hx]
 ·simp only[Mj,FM,un,ar,aE];refine bF (aW (az _)) ?_;rw[aW (az _)];have:(tab a.n fun q=>if q<a.n then nV (fi (eh a c) a.n q) else nV 0)=cV a.n (fi (eh a c) a.n):=cJ fun q hq=>ak hq;rw[this]
def nK (a:Da):Nat→Nat
 | 0=>1
 | i+1=>if a.fin i=a.fin 0 then nK a i else 2
def gu (a:Da) (q:Nat):Nat:=if a.fin q=a.fin 0 then 0 else 1
theorem aoz:(bV (gu a) a.n).length=nK a a.n:=by
 have key: ∀m,(bV (gu a) (m+1)=[0]∧nK a (m+1)=1)∨(bV (gu a) (m+1)=[0,1]∧nK a (m+1)=2):=by
  intro m
  induction m with
  | zero=>left;simp[bV,bR,gu,nK]
  | succ m ih=>
   rw[bV,nK];unfold gu bR;by_cases hf:a.fin (m+1)=a.fin 0
   ·rw[ak hf,ak hf];rcases ih with ⟨i1,i2⟩|⟨i1,i2⟩
    ·left;refine ⟨?_,i2⟩;unfold gu at i1;rw[i1];rfl
    ·right;refine ⟨?_,i2⟩;unfold gu at i1;rw[i1];rfl
   ·rw[aj hf,aj hf];rcases ih with ⟨i1,i2⟩|⟨i1,i2⟩
    ·right;refine ⟨?_,rfl⟩;unfold gu at i1;rw[i1];rfl
    ·right;refine ⟨?_,rfl⟩;unfold gu at i1;rw[i1];rfl
 have hs:=h.s;obtain ⟨m,hm⟩: ∃m,a.n=m+1:=⟨a.n-1,by omega⟩
 rw[hm];rcases key m with ⟨e1,e2⟩|⟨e1,e2⟩<;>rw[e1,e2]<;>rfl
theorem aoA {k2 k3:Int} {l2:List V}:Loop (Ma CC a.dM (a.dM.length:Int) k2 k3 a.dM l2) (1,0,List.replicate ((((a.dM.length:Nat):Int)).toNat) (V.int .i64 0))=some ((nK a a.n:Int),(a.n:Int),false,cV a.n (gu a)):=by
 have hm:=h.je;have hs:=h.s;rw[Da.EZ,Int.toNat_natCast,mP];refine (dW a.n (fun i=>((nK a i:Int),(i:Int),(tab a.n fun q=>if q<i then nV (gu a q) else nV 0))) _ (fun q hq=> ?_) ?_)
 ·simp only[Ma,FK,un,ar,aE];refine bT (cg hq) ?_;refine bs (Da.S0 hq) ?_;refine bs (a:= .bool (a.fin 0)) (by unfold Da.dM;exact lk (by omega)) ?_;rw[cq (by omega)];have fin:(tab a.n fun j=>if j<q then nV (gu a j) else nV 0).set q (nV (gu a q))=tab a.n fun j=>if j<q+1 then nV (gu a j) else nV 0:=by
   rw[iI];refine cJ fun j _=> ?_;by_cases hj:j=q
   ·rw[ak hj,bu,hj]
   ·rw[aj hj];by_cases dj:j<q
    ·rw[ak dj,bu]
    ·rw[aj dj,bO]
  simp only[V.dS];by_cases hf:a.fin q=a.fin 0
  ·refine bF (by rw[hf];simp) ?_;have e:nK a (q+1)=nK a q:=by rw[nK,ak hf]
   have e2:(tab a.n fun j=>if j<q then nV (gu a j) else nV 0)=tab a.n fun j=>if j<q+1 then nV (gu a j) else nV 0:=cJ fun j _=>by
    by_cases hj:j=q
    ·rw[bO,bu,hj];unfold gu;rw[ak hf]
    ·by_cases dj:j<q
     ·rw[ak dj,bu]
     ·rw[aj dj,bO]
   rw[e,e2]
  ·refine bT (by simpa using hf) ?_;refine (ll hq).trans ?_;have e:nK a (q+1)=2:=by rw[nK,aj hf]
   have e3:gu a q=1:=by unfold gu;rw[aj hf]
   rw[e3] at fin;rw[e,Int.toNat_natCast,show (V.int .i64 1)=nV 1 from rfl,fin];rfl
 ·simp only[Ma,FK,un,ar,aE];refine bF (aW (az _)) ?_;rw[aW (az _)];have:(tab a.n fun q=>if q<a.n then nV (gu a q) else nV 0)=cV a.n (gu a):=cJ fun q hq=>ak hq;rw[this]
theorem aoB {k2 k3:Int} {l2:List V}: ∃p,Loop (FW CC k2 k3 l2 a.ed) ((nK a a.n:Int),cV a.n (gu a))=some (cV a.n p)∧a.L7 p∧∀q,q<a.n→p q≤1000:=by
 have hm:=h.je;have:=DQ (step:=FW CC k2 k3 l2 a.ed)
  (fun x=> ∃c,x=(((bV c a.n).length:Int),cV a.n c)∧a.Part c∧∀q,q<a.n→c q≤1000)
  (fun x=>a.n-x.1.toNat)
  (fun r=> ∃p,r=cV a.n p∧a.L7 p∧∀q,q<a.n→p q≤1000) (fun x hx=> ?_) ((nK a a.n:Int),cV a.n (gu a)) ⟨gu a,by rw[aoz h],⟨?_,?_⟩,?_⟩
 ·obtain ⟨r,h1,p,rfl,h2,h3⟩:=this;exact ⟨p,h1,h2,h3⟩
 ·obtain ⟨c,rfl,hp,hc⟩:=hx;have hl:(cV a.n c).length=a.n:=by simp[cV]
  have yG:a.TX c (fi (eh a c) a.n):=fun q q' hq dI=>(acE hq dI).trans (TZ h)
  have hle:=FG (eh a c) a.n;have hb: ∀q,q<a.n→fi (eh a c) a.n q≤1000:=fun q hq=>by have:=TV (g:=eh a c) hq;omega
  have T4: ∀q q',q<a.n→q'<a.n→eh a c q=eh a c q'→c q=c q':=fun q q' hq dI e=>(Da.FH.1 ((TZ h).1 e)).1;have auM:=aoj T4;have cr:=aoy h hc (k1:=((bV c a.n).length:Int)) (k2:=k2) (k3:=k3) (l2:=l2);by_cases he:(bV (eh a c) a.n).length=(bV c a.n).length
  ·right;refine ⟨_,?_,fi (eh a c) a.n,rfl,⟨fun q q' hq dI=> ?_,aoi _ _⟩,hb⟩
   ·simp only[FW,FV,un];refine bT (by rw[hl];exact gh (by omega) (by omega)) ?_;refine bs cr ?_;refine bT (by rw[E2];simp[he]) ?_;rfl
   ·have ec:=acI T4 (by omega);rw[acE hq dI,←hp.aok h (fun s s' hs ub e=>(TZ h).1 (ec s s' hs ub e)) q q' hq dI];exact ⟨T4 q q' hq dI,ec q q' hq dI⟩
  ·left;have e2:(bV (fi (eh a c) a.n) a.n).length=(bV (eh a c) a.n).length:=by rw[acH _ _ _ (az _),jP]
   refine ⟨(((bV (eh a c) a.n).length:Int),cV a.n (fi (eh a c) a.n)),?_,⟨fi (eh a c) a.n,by rw[e2],yG.part h hp,hb⟩,?_⟩
   ·simp only[FW,FV,un];refine bT (by rw[hl];exact gh (by omega) (by omega)) ?_;refine bs cr ?_;refine bF (by rw[E2];simpa using fun e=>he (by omega)) ?_;rw[E2]
   ·simp only[Int.toNat_natCast];omega
 ·intro q q' hq dI he;have:=he [] WL.nil;rw[Da.sK,Da.sK] at this;unfold gu;rw[this]
 ·intro q q' hq dI he;unfold gu at he;split at he<;>split at he
  ·rename_i h1 h2;rw[h1,h2]
  ·omega
  ·omega
  ·rename_i h1 h2;revert h1 h2;cases a.fin q<;>cases a.fin q'<;>cases a.fin 0<;>simp
 ·intro q _;unfold gu;split<;>omega
theorem aoC: ∃p,CC Kr (fE a)=some [.list ae (cV a.n p)]∧a.L7 p∧∀q,q<a.n→p q≤1000:=by
 have hm:=h.je;obtain ⟨p,h1,h2,h3⟩:=aoB h (k2:=(a.L:Int)) (k3:=(a.st:Int)) (l2:=a.dM);refine ⟨p,aov ?_,h2,h3⟩;unfold acO;refine bs (uL h) ?_;refine bF rfl ?_;refine bT (by rw[Da.EZ];exact gh (by omega) (by omega)) ?_;refine bs (aoA h) ?_;refine bs h1 ?_;rfl
end
noncomputable def FY (C:af) (q t29 t30:Int) (t47:LV) (t48 cF cX:Int) (dL dA:LV) (gq gr Bf Bg:Int) (places ee:LV) (Bh Bi:Int) (bf bK bU ca fy iw:LV) (t49:Int) (rows:LV) {β:Type} (kn:(Int×LV)→Option β) (kr:(Int×Bool×LV)→Option β):Option β:=
 bif decide (t49<t48) then
  (idx t47 t49).bind fun x5=>
  bif (decide (0≤x5.toInt))&&(decide (x5.toInt<(ee.length:Int))) then
  (ee[(x5.toInt:Int).toNat]?).bind fun x6=>
  ar rows t49 fun x7=>
  kn (wrap .i64 (t49+1),aE rows t49 (V.int .i64 x6.toInt))
  else none
 else
  kr (t49,decide (t49<t48),rows)
noncomputable def Ml (C:af) (q t29 t30:Int) (t47:LV) (t48 cF cX:Int) (dL dA:LV) (gq gr Bf Bg:Int) (places ee:LV) (Bh Bi:Int) (bf bK bU ca fy iw:LV):=un fun t49 rows=>FY C q t29 t30 t47 t48 cF cX dL dA gq gr Bf Bg places ee Bh Bi bf bK bU ca fy iw t49 rows (fun y=>some (Sum.inl y)) (fun r=>some (Sum.inr r))
noncomputable def FZ (C:af) (t29 cF cX:Int) (dL dA:LV) (gq gr Bf Bg:Int) (places ee:LV) (Bh Bi:Int) (aS bf bK bU:LV) (t30:Int) (ca fy:LV) {β:Type} (kn:(Int×LV×LV)→Option β) (kr:(Int×Bool×LV×LV)→Option β):Option β:=
 bif decide (t30<t29) then
  ar ee t30 fun x3=>
  bif decide ((x3.toInt:Int)<(ca.length:Int)) then
  kn (wrap .i64 (t30+1),ca,fy)
  else
  bif (decide (0≤cF))&&((decide (cF≤cF))&&(Nat.ble ((cF.toNat)*8) bm)) then
   ar bU t30 fun x4=>
   (Loop (Ml C t30 t29 t30 x4.toList (x4.toList.length:Int) cF cX dL dA gq gr Bf Bg places ee Bh Bi aS bf bK bU ca fy) (0,List.replicate (cF.toNat) (V.int .i64 0))).bind (un fun wu=>un fun (mO:Bool) (acR:LV)=>
    ar bK t30 fun nJ=>
    bif Nat.ble ((ca.length+([.bool nJ.toBool]:LV).length)*1) bm then
    bif Nat.ble ((fy.length+([.list ae acR]:LV).length)*24) bm then
     kn (wrap .i64 (t30+1),ca++([.bool nJ.toBool]:LV),fy++([.list ae acR]:LV))
    else none
    else none)
  else none
 else
  kr (t30,decide (t30<t29),ca,fy)
noncomputable def Mm (C:af) (t29 cF cX:Int) (dL dA:LV) (gq gr Bf Bg:Int) (places ee:LV) (Bh Bi:Int) (aS bf bK bU:LV):=un fun t30=>un fun ca fy=>FZ C t29 cF cX dL dA gq gr Bf Bg places ee Bh Bi aS bf bK bU t30 ca fy (fun y=>some (Sum.inl y)) (fun r=>some (Sum.inr r))
noncomputable def F0 (C:af) (t88 gq gr:Int) (ee:LV) (iJ iK:Int) (numbers T6 aS bf bK bU:LV) (t89:Int) (sQ:LV) {β:Type} (kn:(Int×LV)→Option β) (kr:(Int×Bool×LV)→Option β):Option β:=
 bif decide (t89<t88) then
  ar T6 t89 fun rz=>
  ar sQ t89 fun sY=>
  bif decide ((rz.toInt:Int)≥0) then
  bif (decide (0≤rz.toInt))&&(decide (rz.toInt<(ee.length:Int))) then
   (ee[(rz.toInt:Int).toNat]?).bind fun oL=>
   bif (decide (0≤oL.toInt))&&(decide (oL.toInt<(numbers.length:Int))) then
   (numbers[(oL.toInt:Int).toNat]?).bind fun sZ=>
   ar (aE sQ t89 (V.int .i64 (-1))) t89 fun s0=>
   kn (wrap .i64 (t89+1),aE (aE sQ t89 (V.int .i64 (-1))) t89 (V.int .i64 sZ.toInt))
   else none
  else none
  else
  kn (wrap .i64 (t89+1),aE sQ t89 (V.int .i64 (-1)))
 else
  kr (t89,decide (t89<t88),sQ)
noncomputable def Mn (C:af) (t88 gq gr:Int) (ee:LV) (iJ iK:Int) (numbers T6 aS bf bK bU:LV):=un fun t89 sQ=>F0 C t88 gq gr ee iJ iK numbers T6 aS bf bK bU t89 sQ (fun y=>some (Sum.inl y)) (fun r=>some (Sum.inr r))
noncomputable def T7 (C:af):cz:=bt 161 Rx [EQ,EQ,EQ,EQ,EQ,H1,EQ,EQ,EQ,EQ,EQ,EQ,EQ,EQ,EQ,EQ,EQ,EQ,H1,EQ,EQ,EQ,EQ,EQ,EQ] [[1,2,3,4,5,0,0,7,8,9,10,11,12,13,14,15,16,17,18,0,20,21,22,23,24,25]] (@FY C) (bt 81 Ry [EQ,H1,EQ,EQ,EQ,EQ,EQ,EQ,EQ,EQ,EQ,EQ,EQ,EQ,EQ,EQ,EQ,EQ,H1,H1] [[1,0,0,3,4,5,6,7,8,9,10,11,12,13,14,15,16,17,18,0,0]] (@FZ C) (bt 321 Rz [EQ,H1,EQ,EQ,EQ,EQ,EQ,EQ,H1,EQ,EQ,EQ,EQ,EQ] [[1,0,0,3,4,5,6,7,8,0,10,11,12,13,14]] (@F0 C) bB))
theorem aoD (C:af):bc C (T7 C) 44 (Lp [1,1,1,1,0,1,0,0,1,1,0,0,1,1,1,0,1,0,0] 44):=br Rx [EQ,EQ,EQ,EQ,EQ,H1,EQ,EQ,EQ,EQ,EQ,EQ,EQ,EQ,EQ,EQ,EQ,EQ,H1,EQ,EQ,EQ,EQ,EQ,EQ] [[1,2,3,4,5,0,0,7,8,9,10,11,12,13,14,15,16,17,18,0,20,21,22,23,24,25]] (@FY C) (aR av)
theorem aoE (C:af):bc C (T7 C) 44 (Lp [1,1,1,1,0,1,0,0] 44):=br Ry [EQ,H1,EQ,EQ,EQ,EQ,EQ,EQ,EQ,EQ,EQ,EQ,EQ,EQ,EQ,EQ,EQ,EQ,H1,H1] [[1,0,0,3,4,5,6,7,8,9,10,11,12,13,14,15,16,17,18,0,0]] (@FZ C) (aR (ba (aoD C) av))
theorem aoF (C:af):bc C (T7 C) 44 (Lp [1,1,1,1,1,1,1,0,1,0,0] 44):=br Rz [EQ,H1,EQ,EQ,EQ,EQ,EQ,EQ,H1,EQ,EQ,EQ,EQ,EQ] [[1,0,0,3,4,5,6,7,8,0,10,11,12,13,14]] (@F0 C) (aR av)
noncomputable def acS (C:af) (bW cf:Int) (bH b9:LV):Option LV:=
 (C Au [V.int .i64 bW,V.int .i64 cf,.list ax bH,.list ah b9]).bind fun r1=>
 (C Kr [V.int .i64 ((V.nth r1 0).toInt),V.int .i64 ((V.nth (r1.drop 1) 0).toInt),.list ax ((V.nth (r1.drop 2) 0).toList),.list ah ((V.nth ((r1.drop 2).drop 1) 0).toList)]).bind fun r2=>
 (Loop (Mm C (((V.nth r2 0).toList).length:Int) bW cf bH b9 0 0 ((V.nth r1 0).toInt) ((V.nth (r1.drop 1) 0).toInt) ((V.nth (((r1.drop 2).drop 1).drop 1) 0).toList) ((V.nth r2 0).toList) bW 0 ([]:LV) ([]:LV) ((V.nth (r1.drop 2) 0).toList) ((V.nth ((r1.drop 2).drop 1) 0).toList)) (0,([]:LV),([]:LV))).bind (un fun s6=>un fun (yE:Bool)=>un fun (qi:LV) (FE:LV)=>
  (C Au [V.int .i64 bW,V.int .i64 0,.list ax qi,.list ah FE]).bind fun nL=>
  bif (decide (0≤(((V.nth (((r1.drop 2).drop 1).drop 1) 0).toList).length:Int)))&&((decide ((((V.nth (((r1.drop 2).drop 1).drop 1) 0).toList).length:Int)≤(((V.nth (((r1.drop 2).drop 1).drop 1) 0).toList).length:Int)))&&(Nat.ble ((((((V.nth (((r1.drop 2).drop 1).drop 1) 0).toList).length:Int):Int).toNat)*8) bm)) then
   (Loop (Mn C (((V.nth (((r1.drop 2).drop 1).drop 1) 0).toList).length:Int) 0 0 ((V.nth r2 0).toList) ((V.nth nL 0).toInt) ((V.nth (nL.drop 1) 0).toInt) ((V.nth (((nL.drop 2).drop 1).drop 1) 0).toList) ((V.nth (((r1.drop 2).drop 1).drop 1) 0).toList) ([]:LV) ([]:LV) ((V.nth (nL.drop 2) 0).toList) ((V.nth ((nL.drop 2).drop 1) 0).toList)) (0,List.replicate (((((V.nth (((r1.drop 2).drop 1).drop 1) 0).toList).length:Int):Int).toNat) (V.int .i64 0))).bind (un fun aoG=>un fun (acT:Bool) (aoH:LV)=>
    some [V.int .i64 ((V.nth nL 0).toInt),V.int .i64 ((V.nth (nL.drop 1) 0).toInt),.list ax ((V.nth (nL.drop 2) 0).toList),.list ah ((V.nth ((nL.drop 2).drop 1) 0).toList),.list ae aoH])
  else none)
theorem aoI {bW cf:Int} {bH b9:LV} {r:Option LV} (h:acS CC bW cf bH b9=r):CC Kf [V.int .i64 bW,V.int .i64 cf,.list ax bH,.list ah b9]=r:=bA (ba (aoE CC) (ba (aoF CC) av)) h
noncomputable def acU (C:af) (bW cf:Int) (bH b9:LV):Option LV:=
 (C sF [V.int .i64 bW,V.int .i64 cf,.list ax bH,.list ah b9]).bind fun r1=>
 bif (((V.nth r1 0).toInt):Int) != 0 then
  some [V.int .i64 0,V.int .i64 0,.list ax ([]:LV),.list ah ([]:LV)]
 else
  (C Kf [V.int .i64 bW,V.int .i64 cf,.list ax bH,.list ah b9]).bind fun r2=>
  some [V.int .i64 ((V.nth r2 0).toInt),V.int .i64 ((V.nth (r2.drop 1) 0).toInt),.list ax ((V.nth (r2.drop 2) 0).toList),.list ah ((V.nth ((r2.drop 2).drop 1) 0).toList)]
theorem aoJ {bW cf:Int} {bH b9:LV} {r:Option LV} (h:acU CC bW cf bH b9=r):CC ux [V.int .i64 bW,V.int .i64 cf,.list ax bH,.list ah b9]=r:=bA (L:=bB) av h
theorem aoK {p:Nat→Nat} {n:Nat} (h:yC p n) (hn:0<n):p 0=0:=by
 simpa[bV,bR] using h 1 (by omega)
theorem acW {p:Nat→Nat} {n i:Nat} (h:yC p n) (hi:i<n):p i∈bV p i↔p i<(Da.fO p i).length:=by
 rw[Da.FI];constructor
 ·intro hm;rw[h i (by omega)] at hm;simpa using hm
 ·intro hm;rw[h i (by omega)];simpa using hm
theorem aoL (p:Nat→Nat) (n:Nat):(Da.fO p n).length≤n:=by rw[Da.FI];exact FG p n
def qF (a:Da) (p:Nat→Nat) (i:Nat):List V:=(Da.fO p i).map fun r=>V.bool (a.fin r)
def qN (a:Da) (p:Nat→Nat) (i:Nat):List V:=(Da.fO p i).map fun r=>lV a.L fun x=>p (a.nx r x)
theorem aoM {a:Da} {p:Nat→Nat}:(a.quo p).dM=qF a p a.n∧(a.quo p).ed=qN a p a.n:=by
 constructor
 ·unfold Da.dM qF;rw[yn _ 0,Da.wC];exact cJ fun i hi=>by rw[Da.acJ hi,bD hi]
 ·unfold Da.ed qN;rw[yn _ 0,Da.wC];refine cJ fun i hi=> ?_;unfold lV;exact congrArg _ (cJ fun x hx=>by rw[Da.acK hi hx,bD hi])
section
variable {a:Da} (h:a.Ok) {p:Nat→Nat}
include h
theorem aoN {q:Nat} (hq:q<a.n) {k1 k2 k3 k4 k5 k6 k7 k8 k9 k10 k11:Int} {l1 l2 l3 l4 l5 l6 l7 l8 l9:List V}:
  Loop (Ml CC k1 k2 k3 (tab a.L fun x=>iV (a.nx q x)) ((tab a.L fun x=>iV (a.nx q x)).length:Int) k4 k5 l1 l2 k6 k7 k8 k9 l3 (cV a.n p) k10 k11 l4 l5 l6 l7 l8 l9) (0,List.replicate (((a.L:Nat):Int).toNat) (V.int .i64 0))=
   some ((a.L:Int),false,(tab a.L fun x=>nV (p (a.nx q x)))):=by
 have h6:=h.l6;rw[eH,Int.toNat_natCast,mP];refine (dW a.L (fun t=>((t:Int),(tab a.L fun x=>if x<t then nV (p (a.nx q x)) else nV 0))) _ (fun t ht=> ?_) ?_)
 ·simp only[Ml,FY,un,ar,aE];refine bT (cg ht) ?_;refine bs (E1 ht) ?_;refine (ll (i:=a.nx q t) (h.kq hq ht)).trans ?_;refine (ll ht).trans ?_;rw[cq (by omega),Int.toNat_natCast,iI];refine congrArg (fun x=>some (Sum.inl (((t+1:Nat):Int),x))) (cJ fun j _=> ?_);by_cases hj:j=t
  ·rw[ak hj,bu,hj];rfl
  ·rw[aj hj];by_cases dj:j<t
   ·rw[ak dj,bu]
   ·rw[aj dj,bO]
 ·simp only[Ml,FY,un,ar,aE];refine bF (aW (az _)) ?_;rw[aW (az _)];refine congrArg (fun x=>some (Sum.inr ((a.L:Int),false,x))) (cJ fun j hj=>ak hj)
theorem aoO (ho:yC p a.n) {k3 k4 k5 k6 k7 k8 k9:Int} {l1 l2 l3 l4 l5:List V}:
  Loop (Mm CC ((cV a.n p).length:Int) (a.L:Int) k3 l1 l2 k4 k5 k6 k7 l3 (cV a.n p) k8 k9 l4 l5 a.dM a.ed) (0,([]:List V),([]:List V))=
   some ((a.n:Int),false,qF a p a.n,qN a p a.n):=by
 have h6:=h.l6;have hm:=h.je;rw[show (cV a.n p).length=a.n by simp[cV]];refine (dW a.n (fun i=>((i:Int),qF a p i,qN a p i)) _ (fun q hq=> ?_) ?_)
 ·have hle:=aoL p q;have hF:(qF a p q).length=(Da.fO p q).length:=by simp[qF]
  have hN:(qN a p q).length=(Da.fO p q).length:=by simp[qN]
  simp only[Mm,FZ,un,ar];refine bT (cg hq) ?_;refine (ll (i:=q) hq).trans ?_;rw[cq (by omega)];simp only[nV,V.toInt_int];by_cases hx:p q∈bV p q
  ·refine bT (cZ (by rw[hF];have:=(acW ho hq).1 hx;omega)) ?_;unfold qF qN;rw[Da.fO,ak hx]
  ·refine bF (cR (by rw[hF];intro h2;exact hx ((acW ho hq).2 (by omega)))) ?_;refine bT (gh (by omega) (by omega)) ?_;refine (ll (i:=q) hq).trans ?_;simp only[E0];refine bs (aoN h hq) ?_;refine (ll (i:=q) hq).trans ?_;refine bT (cap (by rw[hF];simp;omega) (by omega)) ?_;refine bT (cap (by rw[hN];simp;omega) (by omega)) ?_;unfold qF qN;rw[Da.fO,aj hx,rM,rM];rfl
 ·simp only[Mm,FZ,un,ar];refine bF (aW (az _)) ?_;rw[aW (az _)]
end
def uP (U U':List Nat) (p:Nat→Nat) (q:Nat):V:=if q∈U then iV ((if p (U.idxOf q)∈U' then nV (U'.idxOf (p (U.idxOf q))) else V.int .i64 (-1)).toInt) else V.int .i64 (-1)
theorem aoP {n m k:Nat} {U U':List Nat} {p:Nat→Nat} (hn:n≤512) (hU:U.length≤m) (hp: ∀q,q<m→p q<k) {k1 k2 k3 k4:Int} {l1 l2 l3 l4:List V}:
  ∃X,Loop (Mn CC ((nC U n).length:Int) k1 k2 (cV m p) k3 k4 (nC U' k) (nC U n) l1 l2 l3 l4) (0,List.replicate ((((nC U n).length:Int):Int).toNat) (V.int .i64 0))=some ((n:Int),false,X):=by
 rw[show (nC U n).length=n by simp[nC],Int.toNat_natCast,mP];refine ⟨tab n fun q=>if q<n then uP U U' p q else V.int .i64 0,dW n (fun i=>((i:Int),(tab n fun q=>if q<i then uP U U' p q else V.int .i64 0))) _ (fun q hq=> ?_) ?_⟩
 ·simp only[Mn,F0,un,ar,aE];refine bT (cg hq) ?_;refine (ll (i:=q) hq).trans ?_;refine (ll (i:=q) hq).trans ?_;rw[cq (by omega)];have fin: ∀v,v=uP U U' p q→((tab n fun j=>if j<q then uP U U' p j else V.int .i64 0).set q v)=tab n fun j=>if j<q+1 then uP U U' p j else V.int .i64 0:=by
   rintro v rfl;rw[iI];refine cJ fun j _=> ?_;by_cases hj:j=q
   ·rw[ak hj,ak (show j<q+1 by omega),hj]
   ·rw[aj hj];by_cases dj:j<q
    ·rw[ak dj,ak (show j<q+1 by omega)]
    ·rw[aj dj,aj (show¬j<q+1 by omega)]
  by_cases hx:q∈U
  ·have es:uP U U' p q=iV ((if p (U.idxOf q)∈U' then nV (U'.idxOf (p (U.idxOf q))) else V.int .i64 (-1)).toInt):=by unfold uP;rw[ak hx]
   have hi:=vj hx;rw[ak hx];refine bT (cZ (by simp only[nV,V.toInt_int];omega)) ?_;simp only[nV,V.toInt_int];refine (ll (i:=U.idxOf q) (by omega)).trans ?_;simp only[nV,V.toInt_int];refine (ll (i:=p (U.idxOf q)) (hp _ (by omega))).trans ?_;refine bT (by rw[tm,eH];exact nB hq) ?_;refine bs (a:= .int .i64 (-1)) (by rw[Int.toNat_natCast,B7];simp[hq]) ?_;rw[Int.toNat_natCast,List.set_set,←fin _ es.symm]
  ·rw[aj hx];refine bF (cR (by simp)) ?_;rw[Int.toNat_natCast,←fin _ (show V.int .i64 (-1)=uP U U' p q by unfold uP;rw[aj hx])]
 ·simp only[Mn,F0,un,ar,aE];refine bF (aW (az _)) ?_;rw[aW (az _)]
theorem Canon.congr {m:Da} {L:Nat} {K K':List Nat→Bool} (h:m.Canon L K) (e: ∀w,WL L w→K w=K' w):m.Canon L K':=⟨h.ok,h.hL,h.st,h.num,h.red,fun w hw=>(h.AZ w hw).trans (e w hw)⟩
theorem aoQ {a:Da} (h:a.Ok): ∃m X,CC Kf (fE a)=some (fE m++[.list ae X])∧m.Canon a.L (a.acc a.st):=by
 have ht:=h.abG;have hm:=h.je;have hle:=h.uI a.n;have e3:a.trim.n=(aJ a.L a.nx a.st a.n).length:=sL;obtain ⟨p,c1,c2,c3⟩:=aoC ht;have hq:=Da.acL ht c2;obtain ⟨q1,q2⟩:=aoM (a:=a.trim) (p:=p);have aoR:=Da.aom ht c2;have ec:(a.trim.quo p).st=0:=aoK c2.2 ht.s;have oI:=acb hq;obtain ⟨X,hX⟩:=aoP (n:=a.n) (m:=a.trim.n) (k:=(a.trim.quo p).n) (U:=aJ a.L a.nx a.st a.n) (U':=aJ (a.trim.quo p).L (a.trim.quo p).nx (a.trim.quo p).st (a.trim.quo p).n) (p:=p) hm (by omega) (fun q hq=>by rw[Da.wC];exact Da.FJ c2.2 hq) (k1:=0) (k2:=0) (k3:=((a.trim.quo p).trim.L:Int)) (k4:=((a.trim.quo p).trim.st:Int)) (l1:=[]) (l2:=[]) (l3:=(a.trim.quo p).trim.dM) (l4:=(a.trim.quo p).trim.ed);refine ⟨(a.trim.quo p).trim,X,aoI ?_,Canon.congr aoR fun w hw=>h.abH hw⟩;unfold acS;refine bs (acb h) ?_;refine bs c1 ?_;refine bs (aoO ht c2.2) ?_;simp only[un];rw[←q1,←q2];have aoS:CC Au [.int .i64 (a.L:Int),.int .i64 0,.list ax (a.trim.quo p).dM,.list ah (a.trim.quo p).ed]=some (fE (a.trim.quo p).trim++[.list ae (nC (aJ (a.trim.quo p).L (a.trim.quo p).nx (a.trim.quo p).st (a.trim.quo p).n) (a.trim.quo p).n)]):=by
  rw[←oI];unfold fE uK;rw[ec];rfl
 refine bs aoS ?_;have e0:(nC (aJ a.L a.nx a.st a.n) a.n).length=a.n:=by simp[nC]
 refine bT (show ((decide (0≤((nC (aJ a.L a.nx a.st a.n) a.n).length:Int)))&&((decide (((nC (aJ a.L a.nx a.st a.n) a.n).length:Int)≤((nC (aJ a.L a.nx a.st a.n) a.n).length:Int)))&&(Nat.ble (((((nC (aJ a.L a.nx a.st a.n) a.n).length:Nat):Int).toNat)*8) bm)))=true from gh (by rw[e0];omega) (by omega)) ?_;refine bs hX ?_;rfl
theorem acX {a:Da} (h:a.Ok): ∃m,CC ux (fE a)=some (fE m)∧m.Canon a.L (a.acc a.st):=by
 obtain ⟨m,X,h1,h2⟩:=aoQ h;refine ⟨m,aoJ ?_,h2⟩;unfold acU;refine bs (uL h) ?_;refine bF rfl ?_;refine bs h1 ?_;rfl
open Classical in
noncomputable def minD (a:Da):Da:=if h: ∃m:Da,m.Canon a.L (a.acc a.st) then Classical.choose h else a
theorem uQ {a:Da} (h:a.Ok):(minD a).Canon a.L (a.acc a.st):=by
 obtain ⟨m,_,h2⟩:=acX h;have: ∃m:Da,m.Canon a.L (a.acc a.st):=⟨m,h2⟩
 unfold minD;rw[pD this];exact HY this
theorem acY {a m:Da} (h:a.Ok) (hm:m.Canon a.L (a.acc a.st)):m=minD a:=hm.eq (uQ h)
theorem Bj {a:Da} (h:a.Ok):CC ux (fE a)=some (fE (minD a)):=by
 obtain ⟨m,h1,h2⟩:=acX h;rw[h1,acY h h2]
noncomputable def F3 (C:af) (n a t33 t34 t37 ss iJ iK:Int) (uR s7:LV) (t38:Int) (aH:LV) {β:Type} (kn:(Int×LV)→Option β) (kr:(Int×Bool×LV)→Option β):Option β:=
 bif decide (t38<t37) then
  ar aH a fun x1=>
  (idx s7 t38).bind fun x2=>
  (idx x2.toList a).bind fun x3=>
  (aH[a.toNat]?).bind fun x4=>
  bif Nat.ble ((x4.toList.length+([V.int .i64 (wrap .i64 (ss+x3.toInt))]:LV).length)*8) bm then
  Zp aH a <|
  bif (Nat.beq (a.toNat) (a.toNat))&&true then
   kn (wrap .i64 (t38+1),aE aH a (.list ae (x4.toList++([V.int .i64 (wrap .i64 (ss+x3.toInt))]:LV))))
  else none
  else none
 else
  kr (t38,decide (t38<t37),aH)
noncomputable def Mo (C:af) (n a t33 t34 t37 ss iJ iK:Int) (uR s7:LV):=un fun t38 aH=>F3 C n a t33 t34 t37 ss iJ iK uR s7 t38 aH (fun y=>some (Sum.inl y)) (fun r=>some (Sum.inr r))
noncomputable def F4 (C:af) (n t33 ss iJ iK:Int) (uR s7:LV) (t34:Int) (aH:LV) {β:Type} (kn:(Int×LV)→Option β) (kr:(Int×Bool×LV)→Option β):Option β:=
 bif decide (t34<t33) then
  (Loop (Mo C n t34 t33 t34 n ss iJ iK uR s7) (0,aH)).bind (un fun oA=>un fun (oB:Bool) (FD:LV)=>
   kn (wrap .i64 (t34+1),FD))
 else
  kr (t34,decide (t34<t33),aH)
noncomputable def Mp (C:af) (n t33 ss iJ iK:Int) (uR s7:LV):=un fun t34 aH=>F4 C n t33 ss iJ iK uR s7 t34 aH (fun y=>some (Sum.inl y)) (fun r=>some (Sum.inr r))
noncomputable def acZ (C:af):cz:=bt 161 Rj [EQ,EQ,EQ,EQ,EQ,H1,EQ,EQ,EQ,EQ,EQ,H1] [[1,2,3,4,5,0,0,7,8,9,10,11,0]] (@F3 C) (bt 113 Rk [EQ,EQ,H1,EQ,EQ,EQ,EQ,EQ,H1] [[1,2,0,0,4,5,6,7,8,0]] (@F4 C) bB)
theorem aoT (C:af):bc C (acZ C) 25 (Lp [1,1,1,1,0,1,0,0,1,1,0,0,1,1,0,0] 25):=br Rj [EQ,EQ,EQ,EQ,EQ,H1,EQ,EQ,EQ,EQ,EQ,H1] [[1,2,3,4,5,0,0,7,8,9,10,11,0]] (@F3 C) (aR av)
theorem aoU (C:af):bc C (acZ C) 25 (Lp [1,1,1,1,0,1,0,0] 25):=br Rk [EQ,EQ,H1,EQ,EQ,EQ,EQ,EQ,H1] [[1,2,0,0,4,5,6,7,8,0]] (@F4 C) (aR (ba (aoT C) av))
noncomputable def ac0 (C:af) (s8 Bk:Int) (uS Mq:LV) (ss:Int):Option LV:=
 bif decide (((wrap .i64 (ss+(uS.length:Int))):Int)>32) then
  some [V.int .i64 3,V.int .i64 ss,.list ah ([]:LV),.list jD ([]:LV)]
 else
  bif (decide (0≤s8))&&((decide (s8≤s8))&&(Nat.ble ((s8.toNat)*24) bm)) then
  (Loop (Mp C (uS.length:Int) ((List.replicate (s8.toNat) (V.list ae ([]:LV))).length:Int) ss s8 Bk uS Mq) (0,List.replicate (s8.toNat) (V.list ae ([]:LV)))).bind (un fun wu=>un fun (mO:Bool) (pj:LV)=>
   bif Nat.ble (([.agg [V.int .i64 (wrap .i64 (ss+Bk)),.list ax uS,V.int .i64 ss]]:LV).length*40) bm then
    some [V.int .i64 0,V.int .i64 (wrap .i64 (ss+(uS.length:Int))),.list ah pj,.list jD ([.agg [V.int .i64 (wrap .i64 (ss+Bk)),.list ax uS,V.int .i64 ss]]:LV)]
   else none)
  else none
theorem aoV {s8 Bk:Int} {uS Mq:LV} {ss:Int} {r:Option LV} (h:ac0 CC s8 Bk uS Mq ss=r):CC Ka [V.int .i64 s8,V.int .i64 Bk,.list ax uS,.list ah Mq,V.int .i64 ss]=r:=bA (ba (aoU CC) av) h
noncomputable def ac1 (C:af) (Mr:Int) (Ms:LV) (Mt:Int) (f:LV):Option LV:=
 (idx f Mr).bind fun x1=>
 (idx Ms (wrap .i64 (x1.toInt-Mt))).bind fun x2=>
 some [.bool x2.toBool]
theorem aoW {Mr:Int} {Ms:LV} {Mt:Int} {f:LV} {r:Option LV} (h:ac1 CC Mr Ms Mt f=r):CC Ki [V.int .i64 Mr,.list ax Ms,V.int .i64 Mt,.list ae f]=r:=bA (L:=bB) av h
section
variable {a:LV} {i:Nat} {l l':LV}
theorem aoX:Tryz.prog.underlying ah=some (.slice ae):=by kernel_rfl
theorem ac2:bZ Tryz.prog ah=false:=by kernel_rfl
theorem ac3:parts Tryz.prog ah (.list ae l)=[.list ae l]:=by
 unfold parts;rw[ac2];simp only[cond_false,fS,aoX,V.eo]
theorem oM (h:a[i]? =some (.list ae l)):eV Tryz.prog ah a [(i,0)]=some (.list ae l):=by
 simp only[eV,h,Option.bind_some,ac3];rfl
theorem Mu (h:a[i]? =some (.list ae l)):setRow Tryz.prog l' ah a [(i,0)]=a.set i (.list ae l'):=by
 simp only[setRow,h,ac3];simp only[List.getElem?_cons_zero,List.set_cons_zero,dm,ac2,cond_false,V.dJ]
theorem aoY:Tryz.prog.underlying ko=some (.slice ax):=by kernel_rfl
theorem ac4:bZ Tryz.prog ko=false:=by kernel_rfl
theorem ac5:parts Tryz.prog ko (.list ax l)=[.list ax l]:=by
 unfold parts;rw[ac4];simp only[cond_false,fS,aoY,V.eo]
theorem ac6 (h:a[i]? =some (.list ax l)):eV Tryz.prog ko a [(i,0)]=some (.list ax l):=by
 simp only[eV,h,Option.bind_some,ac5];rfl
theorem aoZ (h:a[i]? =some (.list ax l)):setRow Tryz.prog l' ko a [(i,0)]=a.set i (.list ax l'):=by
 simp only[setRow,h,ac5];simp only[List.getElem?_cons_zero,List.set_cons_zero,dm,ac4,cond_false,V.dJ]
end
def Da.gT (m:Da) (x:Nat):List Nat:=(List.range m.n).map fun q=>m.nx q x
theorem Da.Ok.gT {m:Da} (h:m.Ok) {x:Nat} (hx:x<m.L):Tr m.n (m.gT x):=by
 refine ⟨by simp[Da.gT],fun y hy=> ?_⟩;obtain ⟨q,hq,rfl⟩:=ez.1 hy;exact h.kq (fm.1 hq) hx
theorem ao0 {m:Da} {x:Nat}:nS (m.gT x)=tab m.n fun q=>nV (m.nx q x):=by
 unfold Da.gT nS;rw[pI];rfl
def rA (m:Da):LV:=[.agg [.int .i64 (m.st:Int),.list ax m.dM,.int .i64 0]]
section
variable {m:Da} (h:m.Ok) (nD:m.n≤32)
include h nD
theorem ao1 {a:Nat} (ha:a<m.L) {k1 k2:Int}:Loop (Mo CC (m.n:Int) (a:Int) k1 k2 (m.n:Int) 0 (m.L:Int) (m.st:Int) m.dM m.ed) (0,tab m.L fun j=>if j<a then tV (m.gT j) else .list ae [])=some ((m.n:Int),false,tab m.L fun j=>if j<a+1 then tV (m.gT j) else .list ae []):=by
 have hl6:=h.l6;have ec: ∀{q:Nat} {l:LV},(tab m.L fun j=>if j<a then tV (m.gT j) else if j=a then .list ae l else .list ae [])[a]? =some (.list ae l):=fun {q l}=>by rw[lk ha,bO,bu]
 refine (dW m.n (fun q=>((q:Int),(tab m.L fun j=>if j<a then tV (m.gT j) else if j=a then .list ae (tab q fun p=>nV (m.nx p a)) else .list ae []))) _ (fun q hq=> ?_) ?_) |> fun e=>by
  rw[show (tab m.L fun j=>if j<a then tV (m.gT j) else .list ae [])=tab m.L fun j=>if j<a then tV (m.gT j) else if j=a then .list ae (tab 0 fun p=>nV (m.nx p a)) else .list ae [] from cJ fun j _=>by
   by_cases c:j<a
   ·rw[ak c,ak c]
   ·rw[aj c,aj c];split<;>rfl]
  exact e
 ·simp only[Mo,F3,un,ar,Zp,aE];have e1:=ec (q:=q) (l:=tab q fun p=>nV (m.nx p a));have e2:a<(tab m.L fun j=>if j<a then tV (m.gT j) else if j=a then .list ae (tab q fun p=>nV (m.nx p a)) else V.list ae []).length:=by simpa using ha
  have C6:=h.kq hq ha;refine bT (cg hq) ((cy e1).trans (bs (Da.LB hq) ?_));rw[E0];refine bs (E1 ha) (bs (by rw[Int.toNat_natCast];exact e1) (bT (cap (by simp;omega) (by omega)) (bT (nB e2) (bT (by simp) ?_))));rw[cq (by omega),show wrap .i64 (0+(iV (m.nx q a)).toInt)=((m.nx q a:Nat):Int) from by show wrap .i64 (0+((m.nx q a:Nat):Int))=_;rw[gG]<;>omega,Int.toNat_natCast,iI];refine congrArg (fun t=>some (Sum.inl (((q+1:Nat):Int),t))) (cJ fun j _=> ?_);by_cases c:j=a
  ·subst c;rw[bu,bO,bu,V.eo,EW];rfl
  ·rw[aj c];by_cases c2:j<a
   ·rw[bu,bu]
   ·rw[bO,aj c,bO,aj c]
 ·simp only[Mo,F3,un];refine bF (aW (az _)) ?_;rw[aW (az _)];refine congrArg (fun t=>some (Sum.inr ((m.n:Int),false,t))) (cJ fun j _=> ?_);by_cases c:j=a
  ·subst c;rw[bO,bu,bu];unfold tV;rw[ao0]
  ·by_cases c2:j<a
   ·rw[bu,bu]
   ·rw[bO,aj c,bO]
theorem ac7:CC Ka (uK m [.int .i64 0])=some [.int .i64 0,.int .i64 (m.n:Int),.list ah (gV m.L m.gT),.list jD (rA m)]:=by
 have hl6:=h.l6;have hs:=h.s;refine aoV ?_;unfold ac0;rw[Da.EZ,show wrap .i64 (0+(m.n:Int))=(m.n:Int) from by rw[gG]<;>omega];refine bF (cR (by omega)) (bT (gh (by omega) (by omega)) ?_);rw[Int.toNat_natCast,za];have l2:Loop (Mp CC (m.n:Int) (m.L:Int) 0 (m.L:Int) (m.st:Int) m.dM m.ed) (0,List.replicate m.L (V.list ae ([]:LV)))=some ((m.L:Int),false,gV m.L m.gT):=by
  rw[mP];refine (dW m.L (fun a=>((a:Int),(tab m.L fun j=>if j<a then tV (m.gT j) else .list ae []))) _ (fun a ha=> ?_) ?_)
  ·simp only[Mp,F4,un];refine bT (cg ha) (bs (ao1 h nD ha) ?_);rw[cq (by omega)];rfl
  ·simp only[Mp,F4,un];refine bF (aW (az _)) ?_;rw[aW (az _)];exact congrArg (fun t=>some (Sum.inr ((m.L:Int),false,t))) (cJ fun j hj=>ak hj)
 rw[show wrap .i64 (0+(m.st:Int))=(m.st:Int) from by rw[gG]<;>omega];exact bs l2 rfl
theorem ao2 {f:List Nat} (hf:Tr m.n f):CC Ki [.int .i64 (m.st:Int),.list ax m.dM,.int .i64 0,.list ae (nS f)]=some [.bool (m.fin (f.getD m.st 0))]:=by
 have hs:=h.s;have ub:m.st<f.length:=by rw[hf.1];exact hs
 have h2:=hf.at ub;refine aoW ?_;unfold ac1;refine bs (gi ub) ?_;rw[show wrap .i64 ((nV f[m.st]).toInt-0)=((f[m.st]:Nat):Int) from by show wrap .i64 (((f[m.st]:Nat):Int)-0)=_;rw[gG]<;>omega,bD ub];exact bs (Da.S0 h2) rfl
end
noncomputable def F5 (C:af) (t t13:LV) (t14 t15:Int) (t24:LV) (t25 t26:Int) {β:Type} (kn:Int→Option β) (kr:((Int) ⊕ (Int×Bool))→Option β):Option β:=
 bif decide (t26<t25) then
  (idx t24 t26).bind fun x2=>
  bif decide ((x2.toInt:Int)<0) then
  kr (.inl 4)
  else
  bif decide ((x2.toInt:Int)≥(t.length:Int)) then
   kr (.inl 4)
  else
   kn (wrap .i64 (t26+1))
 else
  kr (.inr (t26,decide (t26<t25)))
noncomputable def T8 (C:af) (t t13:LV) (t14 t15:Int) (t24:LV) (t25:Int):=fun t26=>F5 C t t13 t14 t15 t24 t25 t26 (fun y=>some (Sum.inl y)) (fun r=>some (Sum.inr r))
noncomputable def F6 (C:af) (t t13:LV) (t14 t15:Int) {β:Type} (kn:Int→Option β) (kr:((Int) ⊕ (Int×Bool))→Option β):Option β:=
 bif decide (t15<t14) then
  (idx t13 t15).bind fun x1=>
  bif (x1.toList.length:Int) != (t.length:Int) then
  kr (.inl 4)
  else
  (Loop (T8 C t t13 t14 t15 x1.toList (x1.toList.length:Int)) 0).bind (cP (fun jF=>
   kr (.inl jF)) (un fun (gU:Int) (oA:Bool)=>
   kn (wrap .i64 (t15+1))))
 else
  kr (.inr (t15,decide (t15<t14)))
noncomputable def T9 (C:af) (t t13:LV) (t14:Int):=fun t15=>F6 C t t13 t14 t15 (fun y=>some (Sum.inl y)) (fun r=>some (Sum.inr r))
noncomputable def ac8 (C:af):cz:=bt 177 RL [EQ,EQ,EQ,EQ,EQ,EQ,H1] [[0],[1,2,3,4,5,6,0,0]] (@F5 C) (bt 97 RM [EQ,EQ,EQ,H1] [[0],[1,2,3,0,0]] (@F6 C) bB)
theorem ao3 (C:af):bc C (ac8 C) 63 (Lp [1,1,1,0,1,0,0,1,1,0,0,1,1,1,0,0] 63):=br RL [EQ,EQ,EQ,EQ,EQ,EQ,H1] [[0],[1,2,3,4,5,6,0,0]] (@F5 C) (aR av)
theorem ao4 (C:af):bc C (ac8 C) 63 (Lp [1,1,1,0,1,0,0] 63):=br RM [EQ,EQ,EQ,H1] [[0],[1,2,3,0,0]] (@F6 C) (aR (ba (ao3 C) av))
noncomputable def ac9 (C:af) (t:LV):Option LV:=
 bif decide ((t.length:Int)>400) then
  some [V.int .i64 3]
 else
  bif (t.length:Int)==0 then
  some [V.int .i64 4]
  else
  (Loop (T9 C t t (t.length:Int)) 0).bind (cP (fun oB=>
   some [V.int .i64 oB]) (un fun (oC:Int) (wu:Bool)=>
   some [V.int .i64 0]))
theorem ao5 {t:LV} {r:Option LV} (h:ac9 CC t=r):CC Kn [.list ah t]=r:=bA (ba (ao4 CC) av) h
noncomputable def F7 (C:af) (t:LV) (g:Int) (row left t16:LV) (t17 t18:Int) (t29:LV) (t30 t31:Int) (t45:LV) (t46:Int) (ma:LV) (t47:Int) {β:Type} (kn:Int→Option β) (kr:((Bool) ⊕ (Int×Bool))→Option β):Option β:=
 bif decide (t47<t46) then
  (idx t45 t47).bind fun x8=>
  (idx left t47).bind fun x9=>
  (idx row x8.toInt).bind fun lY=>
  bif (x9.toInt:Int) != lY.toInt then
  kr (.inl false)
  else
  kn (wrap .i64 (t47+1))
 else
  kr (.inr (t47,decide (t47<t46)))
noncomputable def Ua (C:af) (t:LV) (g:Int) (row left t16:LV) (t17 t18:Int) (t29:LV) (t30 t31:Int) (t45:LV) (t46:Int) (ma:LV):=fun t47=>F7 C t g row left t16 t17 t18 t29 t30 t31 t45 t46 ma t47 (fun y=>some (Sum.inl y)) (fun r=>some (Sum.inr r))
noncomputable def F8 (C:af) (t:LV) (g:Int) (t16:LV) (t17 t18:Int) (t29:LV) (t30:Int) (ma:LV) (t31:Int) {β:Type} (kn:Int→Option β) (kr:((Bool) ⊕ (Int×Bool))→Option β):Option β:=
 bif decide (t31<t30) then
  (idx t29 t31).bind fun x4=>
  (idx x4.toList g).bind fun x5=>
  (idx t x5.toInt).bind fun x6=>
  (idx t g).bind fun x7=>
  (Loop (Ua C t g x4.toList x6.toList t16 t17 t18 t29 t30 t31 x7.toList (x7.toList.length:Int) ma) 0).bind (cP (fun (wD:Bool)=>
   kr (.inl wD)) (un fun (s6:Int) (yE:Bool)=>
   kn (wrap .i64 (t31+1))))
 else
  kr (.inr (t31,decide (t31<t30)))
noncomputable def Mv (C:af) (t:LV) (g:Int) (t16:LV) (t17 t18:Int) (t29:LV) (t30:Int) (ma:LV):=fun t31=>F8 C t g t16 t17 t18 t29 t30 ma t31 (fun y=>some (Sum.inl y)) (fun r=>some (Sum.inr r))
noncomputable def F9 (C:af) (t t16:LV) (t17 t18:Int) (ma:LV) {β:Type} (kn:(Int×LV)→Option β) (kr:((Bool) ⊕ (Int×Bool×LV))→Option β):Option β:=
 bif decide (t18<t17) then
  (idx t16 t18).bind fun x1=>
  bif (decide (0≤x1.toInt))&&(decide (x1.toInt<(ma.length:Int))) then
  (ma[(x1.toInt:Int).toNat]?).bind fun x2=>
  bif x2.toBool then
   kn (wrap .i64 (t18+1),ma)
  else
   bif (decide (0≤x1.toInt))&&(decide (x1.toInt<(ma.length:Int))) then
   (ma[(x1.toInt:Int).toNat]?).bind fun x3=>
   (Loop (Mv C t x1.toInt t16 t17 t18 t (t.length:Int) (aE ma (x1.toInt) (.bool true))) 0).bind (cP (fun (sX:Bool)=>
    kr (.inl sX)) (un fun (ada:Int) (S8:Bool)=>
    kn (wrap .i64 (t18+1),aE ma (x1.toInt) (.bool true))))
   else none
  else none
 else
  kr (.inr (t18,decide (t18<t17),ma))
noncomputable def Mw (C:af) (t t16:LV) (t17:Int):=un fun t18 ma=>F9 C t t16 t17 t18 ma (fun y=>some (Sum.inl y)) (fun r=>some (Sum.inr r))
noncomputable def Ub (C:af):cz:=bt 193 RN [EQ,EQ,EQ,EQ,EQ,EQ,EQ,EQ,EQ,EQ,EQ,EQ,H1,EQ] [[0],[1,2,3,4,5,6,7,8,9,10,11,12,0,0,14]] (@F7 C) (bt 129 RO [EQ,EQ,EQ,EQ,EQ,EQ,EQ,H1,EQ] [[0],[1,2,3,4,5,6,7,0,0,9]] (@F8 C) (bt 49 RP [EQ,EQ,EQ,H1,H1] [[0],[1,2,3,0,0,0]] (@F9 C) bB))
theorem ao6 (C:af):bc C (Ub C) 64 (Lp [1,1,0,1,0,0,1,1,0,0,1,1,1,1,0,0,1,1,0,0,1,1,1,0,0] 64):=br RN [EQ,EQ,EQ,EQ,EQ,EQ,EQ,EQ,EQ,EQ,EQ,EQ,H1,EQ] [[0],[1,2,3,4,5,6,7,8,9,10,11,12,0,0,14]] (@F7 C) (aR av)
theorem ao7 (C:af):bc C (Ub C) 64 (Lp [1,1,0,1,0,0,1,1,0,0,1,1,1,1,0,0] 64):=br RO [EQ,EQ,EQ,EQ,EQ,EQ,EQ,H1,EQ] [[0],[1,2,3,4,5,6,7,0,0,9]] (@F8 C) (aR (ba (ao6 C) av))
theorem ao8 (C:af):bc C (Ub C) 64 (Lp [1,1,0,1,0,0] 64):=br RP [EQ,EQ,EQ,H1,H1] [[0],[1,2,3,0,0,0]] (@F9 C) (aR (ba (ao7 C) av))
noncomputable def adb (C:af) (t ep:LV):Option LV:=
 bif (decide (0≤(t.length:Int)))&&((decide ((t.length:Int)≤(t.length:Int)))&&(Nat.ble (((t.length:Int).toNat)*1) bm)) then
  (Loop (Mw C t ep (ep.length:Int)) (0,List.replicate ((t.length:Int).toNat) (V.bool false))).bind (cP (fun (Uc:Bool)=>
   some [.bool Uc]) (un fun ade=>un fun (ao9:Bool) (auN:LV)=>
   some [.bool true]))
 else none
theorem apa {t ep:LV} {r:Option LV} (h:adb CC t ep=r):CC Ko [.list ah t,.list ae ep]=r:=bA (ba (ao8 CC) av) h
noncomputable def Ga (C:af) (t t7:LV) (t8 t9:Int) {β:Type} (kn:Int→Option β) (kr:((Bool) ⊕ (Int×Bool))→Option β):Option β:=
 bif decide (t9<t8) then
  (idx t7 t9).bind fun x1=>
  bif decide ((x1.toInt:Int)<0) then
  kr (.inl false)
  else
  bif decide ((x1.toInt:Int)≥(t.length:Int)) then
   kr (.inl false)
  else
   kn (wrap .i64 (t9+1))
 else
  kr (.inr (t9,decide (t9<t8)))
noncomputable def Ud (C:af) (t t7:LV) (t8:Int):=fun t9=>Ga C t t7 t8 t9 (fun y=>some (Sum.inl y)) (fun r=>some (Sum.inr r))
noncomputable def apb (C:af):cz:=bt 33 Ru [EQ,EQ,EQ,H1] [[0],[1,2,3,0,0]] (@Ga C) bB
theorem apc (C:af):bc C (apb C) 34 (Lp [1,0,1,0,0] 34):=br Ru [EQ,EQ,EQ,H1] [[0],[1,2,3,0,0]] (@Ga C) (aR av)
noncomputable def adf (C:af) (t numbers:LV):Option LV:=
 (Loop (Ud C t numbers (numbers.length:Int)) 0).bind (cP (fun (sR:Bool)=>
  some [.bool sR]) (un fun (jF:Int) (gU:Bool)=>
  some [.bool true]))
theorem apd {t numbers:LV} {r:Option LV} (h:adf CC t numbers=r):CC D4 [.list ah t,.list ae numbers]=r:=bA (ba (apc CC) av) h
noncomputable def adg (C:af) (x:Int) (aH aI:LV):Option LV:=
 ar aH x fun x1=>
 bif !x1.toBool then
  ar aH x fun x2=>
  bif Nat.ble ((aI.length+([V.int .i64 x]:LV).length)*8) bm then
  some [.list ax (aE aH x (.bool true)),.list ae (aI++([V.int .i64 x]:LV))]
  else none
 else
  some [.list ax aH,.list ae aI]
theorem ape {x:Int} {aH aI:LV} {r:Option LV} (h:adg CC x aH aI=r):CC qd [V.int .i64 x,.list ax aH,.list ae aI]=r:=bA (L:=bB) av h
noncomputable def Gb (C:af) (t:LV) (jI x t17 t18:Int) (t45:LV) (t46:Int) (oN:LV) (t47:Int) (aI bh:LV) {β:Type} (kn:(Int×LV×LV)→Option β) (kr:(Int×Bool×LV×LV)→Option β):Option β:=
 bif decide (t47<t46) then
  (idx t45 t47).bind fun x4=>
  (idx t x).bind fun x5=>
  (idx x5.toList x4.toInt).bind fun x6=>
  (C qd [V.int .i64 x6.toInt,.list ax aI,.list ae bh]).bind fun r7=>
  (idx t x4.toInt).bind fun x8=>
  (idx x8.toList x).bind fun x9=>
  (C qd [V.int .i64 x9.toInt,.list ax ((V.nth r7 0).toList),.list ae ((V.nth (r7.drop 1) 0).toList)]).bind fun Mx=>
  kn (wrap .i64 (t47+1),(V.nth Mx 0).toList,(V.nth (Mx.drop 1) 0).toList)
 else
  kr (t47,decide (t47<t46),aI,bh)
noncomputable def Gc (C:af) (t:LV) (jI x t17 t18:Int) (t45:LV) (t46:Int) (oN:LV):=un fun t47=>un fun aI bh=>Gb C t jI x t17 t18 t45 t46 oN t47 aI bh (fun y=>some (Sum.inl y)) (fun r=>some (Sum.inr r))
noncomputable def My (C:af) (t:LV) (t17 t18:Int) (oN:LV) (jI:Int) (aI bh:LV) {β:Type} (kn:(Int×LV×LV)→Option β) (kr:(Int×Bool×LV×LV)→Option β):Option β:=
 bif decide (jI<(bh.length:Int)) then
  ar bh jI fun x3=>
  bif (decide (0≤(wrap .i64 (jI+1))))&&(decide ((wrap .i64 (jI+1))≤(bh.length:Int))) then
  (Loop (Gc C t jI x3.toInt t17 t18 ((bh.drop 0).take (((wrap .i64 (jI+1):Int).toNat)-0)) (((wrap .i64 (jI+1):Int).toNat)-0:Int) oN) (0,aI,bh)).bind (un fun wD=>un fun (s6:Bool)=>un fun (A7:LV) (qi:LV)=>
   kn (wrap .i64 (jI+1),A7,qi))
  else none
 else
  kr (jI,decide (jI<(bh.length:Int)),aI,bh)
noncomputable def Mz (C:af) (t:LV) (t17 t18:Int) (oN:LV):=un fun jI=>un fun aI bh=>My C t t17 t18 oN jI aI bh (fun y=>some (Sum.inl y)) (fun r=>some (Sum.inr r))
noncomputable def Gd (C:af) (t:LV) (t17 jI t18:Int) (oN aI bh:LV) {β:Type} (kn:(Int×Int×LV×LV×LV)→Option β) (kr:(Int×Int×Bool×LV×LV×LV)→Option β):Option β:=
 bif decide (t18<t17) then
  ar aI t18 fun x1=>
  bif x1.toBool then
  kn (jI,wrap .i64 (t18+1),oN,aI,bh)
  else
  bif Nat.ble ((oN.length+([V.int .i64 t18]:LV).length)*8) bm then
   (C qd [V.int .i64 t18,.list ax aI,.list ae bh]).bind fun r2=>
   (Loop (Mz C t t17 t18 (oN++([V.int .i64 t18]:LV))) (jI,(V.nth r2 0).toList,(V.nth (r2.drop 1) 0).toList)).bind (un fun apf=>un fun (S8:Bool)=>un fun (j7:LV) (yo:LV)=>
    kn (apf,wrap .i64 (t18+1),oN++([V.int .i64 t18]:LV),j7,yo))
  else none
 else
  kr (jI,t18,decide (t18<t17),oN,aI,bh)
noncomputable def MA (C:af) (t:LV) (t17:Int):=un fun jI=>un fun t18=>un fun oN=>un fun aI bh=>Gd C t t17 jI t18 oN aI bh (fun y=>some (Sum.inl y)) (fun r=>some (Sum.inr r))
noncomputable def Ue (C:af):cz:=bt 241 RQ [EQ,EQ,EQ,EQ,EQ,EQ,EQ,H1,EQ,H1,H1] [[1,2,3,4,5,6,7,0,0,9,0,0]] (@Gb C) (bt 177 RR [EQ,H1,EQ,EQ,EQ,H1,H1] [[1,0,3,4,0,5,0,0]] (@My C) (bt 97 RS [EQ,H1,EQ,H1,H1,H1,H1] [[1,0,3,0,0,0,0,0]] (@Gd C) bB))
theorem apg (C:af):bc C (Ue C) 65 (Lp [1,1,1,1,1,0,1,0,0,1,1,0,0,1,1,1,1,0,0,1,0,0,1,1,0,0] 65):=br RQ [EQ,EQ,EQ,EQ,EQ,EQ,EQ,H1,EQ,H1,H1] [[1,2,3,4,5,6,7,0,0,9,0,0]] (@Gb C) (aR av)
theorem aph (C:af):bc C (Ue C) 65 (Lp [1,1,1,1,1,0,1,0,0,1,1,0,0,1,1,1,1,0,0] 65):=br RR [EQ,H1,EQ,EQ,EQ,H1,H1] [[1,0,3,4,0,5,0,0]] (@My C) (aR (ba (apg C) av))
theorem api (C:af):bc C (Ue C) 65 (Lp [1,1,1,1,1,0,1,0,0] 65):=br RS [EQ,H1,EQ,H1,H1,H1,H1] [[1,0,3,0,0,0,0,0]] (@Gd C) (aR (ba (aph C) av))
noncomputable def adh (C:af) (t:LV):Option LV:=
 bif (decide (0≤(t.length:Int)))&&((decide ((t.length:Int)≤(t.length:Int)))&&(Nat.ble (((t.length:Int).toNat)*1) bm)) then
  (Loop (MA C t (t.length:Int)) (0,0,([]:LV),List.replicate ((t.length:Int).toNat) (V.bool false),([]:LV))).bind (un fun auO=>un fun auP=>un fun (apj:Bool)=>un fun (apk:LV)=>un fun (sO:LV) (E7:LV)=>
   some [.list ae apk])
 else none
theorem apl {t:LV} {r:Option LV} (h:adh CC t=r):CC Kp [.list ah t]=r:=bA (ba (api CC) av) h
noncomputable def adi (C:af) (t:LV):Option LV:=
 (C Kn [.list ah t]).bind fun r1=>
 bif (((V.nth r1 0).toInt):Int) != 0 then
  some [V.int .i64 ((V.nth r1 0).toInt)]
 else
  (C Kp [.list ah t]).bind fun r2=>
  (C Ko [.list ah t,.list ae ((V.nth r2 0).toList)]).bind fun r3=>
  bif !((V.nth r3 0).toBool) then
  some [V.int .i64 5]
  else
  some [V.int .i64 0]
theorem apm {t:LV} {r:Option LV} (h:adi CC t=r):CC uy [.list ah t]=r:=bA (L:=bB) av h
noncomputable def adj (C:af) (t:LV):Option LV:=
 (C uy [.list ah t]).bind fun r1=>
 some [.bool ((((V.nth r1 0).toInt):Int)==0)]
theorem apn {t:LV} {r:Option LV} (h:adj CC t=r):CC Km [.list ah t]=r:=bA (L:=bB) av h
noncomputable def adk (C:af) (t numbers:LV):Option LV:=
 (C D4 [.list ah t,.list ae numbers]).bind fun r1=>
 bif (V.nth r1 0).toBool then
  (C Km [.list ah t]).bind fun r2=>
  some [.bool ((V.nth r2 0).toBool)]
 else
  some [.bool false]
theorem apo {t numbers:LV} {r:Option LV} (h:adk CC t numbers=r):CC Kb [.list ah t,.list ae numbers]=r:=bA (L:=bB) av h
theorem uT {n i:Nat} {g:Nat→V} (hi:i<n):idx (V.list ae (tab n g)).toList (i:Int)=some (g i):=by rw[V.eo];exact qh hi
def tG (K:Nat) (mul:Nat→Nat→Nat):LV:=tab K fun i=> .list ae (tab K fun j=>nV (mul i j))
structure Tb (K:Nat) (mul:Nat→Nat→Nat):Prop where
 k1:1≤K
 k4:K≤400
 lt: ∀i j,i<K→j<K→mul i j<K
def dX (K:Nat) (M:List Nat):LV:=tab K fun i=> .bool (decide (i∈M))
structure eQ (K:Nat) (M:List Nat):Prop where
 nd:M.Nodup
 lt: ∀x∈M,x<K
theorem eQ.le {K:Nat} {M:List Nat} (h:eQ K M):M.length≤K:=by
 have:=wR (l₂:=List.range K) h.nd fun x hx=>fm.2 (h.lt x hx);simpa using this
theorem eQ.add {K:Nat} {M:List Nat} (h:eQ K M) {x:Nat} (hx:x<K):eQ K (bR M x):=⟨SS h.nd,fun y hy=>by
 unfold bR at hy;split at hy
 ·exact h.lt y hy
 ·rcases eS.1 hy with hy|hy
  ·exact h.lt y hy
  ·rw[fl.1 hy];exact hx⟩
theorem mR {M:List Nat} {x y:Nat}:y∈bR M x↔y∈M∨y=x:=by
 unfold bR;split
 ·exact ⟨.inl,fun h=>h.elim id fun e=>by rw[e];assumption⟩
 ·rw[eS,fl]
theorem adl {K:Nat} {M:List Nat} {x:Nat} (h:x∉M):(dX K M).set x (.bool true)=dX K (bR M x):=by
 unfold dX;rw[iI];refine cJ fun j _=> ?_;by_cases c:j=x
 ·rw[ak c,cZ (mR.2 (.inr c))]
 ·rw[aj c];by_cases c2:j∈M
  ·rw[cZ c2,cZ (mR.2 (.inl c2))]
  ·rw[cR c2,cR fun h=>(mR.1 h).elim c2 c]
section
variable {K:Nat} {mul:Nat→Nat→Nat} (h:Tb K mul)
theorem nM:(tG K mul).length=K:=eH
theorem pn {i:Nat} (hi:i<K):idx (tG K mul) (i:Int)=some (.list ae (tab K fun j=>nV (mul i j))):=qh hi
include h
theorem apq:CC Kn [.list ah (tG K mul)]=some [.int .i64 0]:=by
 have h1:=h.k1;have h4:=h.k4;refine ao5 ?_;unfold ac9;rw[nM];refine bF (cR (by omega)) (bF (by simp;omega) (bs (dW K (fun i=>(i:Int)) (.inr ((K:Int),false)) (fun i hi=> ?_) ?_) rfl))
 ·simp only[T9,F6];refine bT (cg hi) (bs (pn hi) ?_);rw[V.eo,eH,nM];refine bF (by simp) (bs (dW K (fun j=>(j:Int)) (.inr ((K:Int),false)) (fun j hj=> ?_) ?_) ?_)
  ·simp only[T8,F5];rw[nM];refine bT (cg hj) (bs (qh hj) (bF yq (bF (Fl (h.lt i j hi hj)) ?_)));rw[cq (by omega)]
  ·simp only[T8,F5];rw[aW (az _)];rfl
  ·rw[cq (by omega)];rfl
 ·simp only[T9,F6];rw[aW (az _)];rfl
omit h in
theorem s9 {M:List Nat} {x:Nat} (hx:x<K):(dX K M)[x]? =some (.bool (decide (x∈M))):=lk hx
omit h in
theorem Uf {M:List Nat} (hM:eQ K M) (h4:K≤400) {x:Nat} (hx:x<K):CC qd [.int .i64 (x:Int),.list ax (dX K M),.list ae (nS M)]=some [.list ax (dX K (bR M x)),.list ae (nS (bR M x))]:=by
 have hl:=hM.le;refine ape ?_;unfold adg;by_cases c:x∈M
 ·refine (cy (s9 hx)).trans (bF (by simp[c]) ?_)
  rw[show bR M x=M by rw[bR,ak c]]
 ·refine (cy (s9 hx)).trans (bT (by simp[c]) ((cy (s9 hx)).trans (bT (cap (by rw[cL];simp;omega) (by omega)) ?_)))
  rw[show aE (dX K M) (x:Int) (.bool true)=dX K (bR M x) from adl c,show bR M x=M++[x] by rw[bR,aj c]];simp[nS,nV]
theorem apr: ∃G:List Nat,CC Kp [.list ah (tG K mul)]=some [.list ae (nS G)]∧(∀g∈G,g<K)∧G.length≤K:=by
 have h1:=h.k1;have h4:=h.k4;have l1: ∀{M0:List Nat} {k x:Nat} {a b c:Int} {d:LV},eQ K M0→k<M0.length→x<K→∃M,eQ K M∧M0 <+: M∧Loop (Gc CC (tG K mul) a (x:Int) b c (((nS M0).drop 0).take ((((k+1:Nat):Int)).toNat-0)) ((((((k+1:Nat):Int)).toNat)-0:Int)) d) (0,dX K M0,nS M0)=some (((k+1:Nat):Int),false,dX K M,nS M):=by
  intro M0 k x a b c d rB hk hx;have hle:=rB.le;rw[Int.toNat_natCast,Nat.sub_zero,lx,Int.sub_zero,show (nS M0).take (k+1)=nS (M0.take (k+1)) by simp[nS,List.map_take]];have key:=sM (step:=Gc CC (tG K mul) a (x:Int) b c (nS (M0.take (k+1))) ((k+1:Nat):Int) d) (fun i y=> ∃M,y=((i:Int),dX K M,nS M)∧eQ K M∧M0 <+: M) (fun r=> ∃M,r=(((k+1:Nat):Int),false,dX K M,nS M)∧eQ K M∧M0 <+: M) (k+1) 0 (0,dX K M0,nS M0) (fun i _ hi y hy=> ?_) (fun y hy=> ?_) ⟨M0,rfl,rB,nW _⟩
  ·obtain ⟨r,e,M,rfl,hM,hp⟩:=key;exact ⟨M,hM,hp,e⟩
  ·obtain ⟨M,rfl,hM,hp⟩:=hy;have cd:i<(M0.take (k+1)).length:=by rw[oO];omega
   have xF:(M0.take (k+1))[i]<K:=rB.lt _ (HP (cM cd));have a1:=h.lt _ _ hx xF;have a2:=h.lt _ _ xF hx;simp only[Gc,Gb,un];refine ⟨_,bT (cg (by omega)) (bs (gi cd) (bs (pn hx) (bs (uT xF) (bs (Uf hM h4 a1) (bs (pn xF) (bs (uT hx) (bs (Uf (hM.add a1) h4 a2) rfl))))))),_,?_,(hM.add a1).add a2,hp.trans ((nz _ _).trans (nz _ _))⟩;rw[cq (by omega)];rfl
  ·obtain ⟨M,rfl,hM,hp⟩:=hy;simp only[Gc,Gb,un];refine ⟨_,bF (aW (by omega)) rfl,M,?_,hM,hp⟩;rw[aW (by omega),eT]
 have l2: ∀{M0:List Nat} {k:Nat} {a b:Int} {d:LV},eQ K M0→k≤M0.length→∃k' M,eQ K M∧k'≤M.length∧M0 <+: M∧Loop (Mz CC (tG K mul) a b d) ((k:Int),dX K M0,nS M0)=some ((k':Int),false,dX K M,nS M):=by
  intro M0 k a b d rB hk;have key:=DQ (step:=Mz CC (tG K mul) a b d) (fun y=> ∃(k:Nat) (M:List Nat),y=((k:Int),dX K M,nS M)∧eQ K M∧k≤M.length∧M0 <+: M) (fun y=>1000-y.1.toNat) (fun r=> ∃(k:Nat) (M:List Nat),r=((k:Int),false,dX K M,nS M)∧eQ K M∧k≤M.length∧M0 <+: M) (fun y hy=> ?_) ((k:Int),dX K M0,nS M0) ⟨k,M0,rfl,rB,hk,nW _⟩
  ·obtain ⟨r,e,k',M,rfl,hM,dh,hp⟩:=key;exact ⟨k',M,hM,dh,hp,e⟩
  ·obtain ⟨k,M,rfl,hM,hk,hp⟩:=hy;have hle:=hM.le;simp only[Mz,My,un,ar];rw[cL];by_cases c:k<M.length
   ·obtain ⟨M',Ge,hp',e⟩:=l1 (a:=(k:Int)) (b:=a) (c:=b) (d:=d) hM c (hM.lt _ (cM c));refine .inl ⟨((k+1:Nat),dX K M',nS M'),bT (cg c) ?_,⟨k+1,M',rfl,Ge,by have:=hp'.length_le;omega,hp.trans hp'⟩,by simp only;omega⟩;refine ((congrArg (fun n:Nat=>bif decide (0≤(k:Int))&&decide ((k:Int)<(n:Int)) then _ else none) cL.symm)).trans ((cy (uM c)).trans ?_)
    rw[cq (by omega)];exact bT (pJ.2 ⟨cZ (by omega),cZ (by omega)⟩) (bs e rfl)
   ·refine .inr ⟨_,bF (aW (by omega)) rfl,k,M,?_,hM,hk,hp⟩;rw[aW (by omega)]
 have key:=sM (step:=MA CC (tG K mul) (K:Int)) (fun i y=> ∃(k:Nat) (G M:List Nat),y=((k:Int),(i:Int),nS G,dX K M,nS M)∧eQ K M∧k≤M.length∧(∀g∈G,g<K)∧G.length≤i) (fun r=> ∃(k:Nat) (G M:List Nat),r=((k:Int),(K:Int),false,nS G,dX K M,nS M)∧(∀g∈G,g<K)∧G.length≤K) K 0 (0,0,[],dX K [],[]) (fun i _ hi y hy=> ?_) (fun y hy=> ?_) ⟨0,[],[],rfl,⟨by simp,fun x hx=>(by cases hx)⟩,az _,fun g hg=>(by cases hg),az _⟩
 ·obtain ⟨r,e,k,G,M,rfl,hG,Gf⟩:=key;refine ⟨G,apl ?_,hG,Gf⟩;unfold adh;rw[nM];refine bT (gh (by omega) (by omega)) ?_;rw[Int.toNat_natCast,mP,show (tab K fun _=>V.bool false)=dX K [] from cJ fun j _=>by simp];exact bs e rfl
 ·obtain ⟨k,G,M,rfl,hM,hk,hG,Gf⟩:=hy;have yH:i<K:=by omega
  simp only[MA,Gd,un,ar];by_cases c:i∈M
  ·refine ⟨_,bT (cg yH) ((cy (s9 yH)).trans (bT (by simp[c]) rfl)),k,G,M,?_,hM,hk,hG,by omega⟩;rw[cq (by omega)]
  ·obtain ⟨k',M',Ge,dh,_,e⟩:=l2 (k:=k) (a:=(K:Int)) (b:=(i:Int)) (d:=nS (G++[i])) (hM.add yH) (by have:=(nz M i).length_le;omega);have DP:nS G++[V.int .i64 (i:Int)]=nS (G++[i]):=by simp[nS,nV]
   refine ⟨((k':Int),((i+1:Nat):Int),nS (G++[i]),dX K M',nS M'),bT (cg yH) ((cy (s9 yH)).trans (bF (by simp[c]) (bT (cap (by rw[cL];simp;omega) (by omega)) (bs (Uf hM h4 yH) ?_)))),k',G++[i],M',rfl,Ge,dh,fun g hg=> ?_,by simp;omega⟩
   ·rw[DP];refine bs e ?_;rw[cq (by omega)];rfl
   ·rcases eS.1 hg with hg|hg
    ·exact hG g hg
    ·rw[fl.1 hg];exact yH
 ·obtain ⟨k,G,M,rfl,hM,hk,hG,Gf⟩:=hy;rw[eT] at*
  simp only[MA,Gd,un,ar];refine ⟨_,bF (aW (az _)) rfl,k,G,M,?_,hG,Gf⟩;rw[aW (az _)]
omit h in
theorem adm {L:List Nat} (hl:L.length≤1000000) (hL: ∀x∈L,x<K):CC D4 [.list ah (tG K mul),.list ae (nS L)]=some [.bool true]:=by
 refine apd ?_;unfold adf;rw[cL];refine bs (dW L.length (fun i=>(i:Int)) (.inr ((L.length:Int),false)) (fun i hi=> ?_) ?_) rfl
 ·simp only[Ud,Ga];rw[nM];refine bT (cg hi) (bs (gi hi) (bF yq (bF (Fl (hL _ (cM hi))) ?_)));rw[cq (by omega)]
 ·simp only[Ud,Ga];rw[aW (az _)];rfl
section
variable (ha: ∀i j k,i<K→j<K→k<K→mul (mul i j) k=mul i (mul j k))
include ha
theorem aps {G:List Nat} (hG: ∀g∈G,g<K) (hl:G.length≤K):CC Ko [.list ah (tG K mul),.list ae (nS G)]=some [.bool true]:=by
 have h4:=h.k4;have l2: ∀{g:Nat} {a b:Int} {c d:LV},g<K→Loop (Mv CC (tG K mul) (g:Int) c a b (tG K mul) (K:Int) d) 0=some (.inr ((K:Int),false)):=by
  intro g a b c d hg;refine dW K (fun x=>(x:Int)) _ (fun x hx=> ?_) ?_
  ·have h1:=h.lt _ _ hx hg;simp only[Mv,F8];refine bT (cg hx) (bs (pn hx) (bs (uT hg) (bs (pn h1) (bs (pn hg) ?_))));rw[V.eo,V.eo,V.eo,eH];refine bs (dW K (fun y=>(y:Int)) (.inr ((K:Int),false)) (fun y hy=> ?_) ?_) ?_
   ·simp only[Ua,F7];refine bT (cg hy) (bs (qh hy) (bs (qh hy) (bs (qh (h.lt _ _ hg hy)) (bF ?_ ?_))))
    ·show (((mul (mul x g) y:Nat):Int) != ((mul x (mul g y):Nat):Int))=false;rw[ha _ _ _ hx hg hy];simp
    ·rw[cq (by omega)]
   ·simp only[Ua,F7];rw[aW (az _)];rfl
   ·rw[cq (by omega)];rfl
  ·simp only[Mv,F8];rw[aW (az _)];rfl
 refine apa ?_;unfold adb;rw[nM,cL];refine bT (gh (by omega) (by omega)) ?_;rw[Int.toNat_natCast];have key:=sM (step:=Mw CC (tG K mul) (nS G) (G.length:Int)) (fun i y=> ∃b:LV,y=((i:Int),b)∧b.length=K∧∀v∈b,∃c,v= .bool c) (fun r=> ∃b:LV,r= .inr ((G.length:Int),false,b)) G.length 0 (0,List.replicate K (V.bool false)) (fun i _ hi y hy=> ?_) (fun y hy=> ?_) ⟨_,rfl,by simp,fun v hv=>⟨false,(List.mem_replicate.1 hv).2⟩⟩
 ·obtain ⟨r,e,b,rfl⟩:=key;exact bs e rfl
 ·obtain ⟨b,rfl,hb,hv⟩:=hy;have cd:i<G.length:=by omega
  have hg:=hG _ (cM cd);have Ug:G[i]<b.length:=by omega
  obtain ⟨c,hc⟩:=hv _ (cM Ug);simp only[Mw,F9,un];have e0:b[((nV G[i]).toInt).toNat]? =some (.bool c):=by
   show b[G[i]]? =_;rw[bS Ug,hc]
  have e1:((decide (0≤(nV G[i]).toInt))&&(decide ((nV G[i]).toInt<(b.length:Int))))=true:=nB Ug;cases c with
  | true=>
   refine ⟨_,bT (cg cd) (bs (gi cd) (bT e1 (bs e0 (bT rfl rfl)))),b,?_,hb,hv⟩;rw[cq (by omega)]
  | false=>
   refine ⟨(((i+1:Nat):Int),b.set G[i] (.bool true)),bT (cg cd) (bs (gi cd) (bT e1 (bs e0 (bF rfl (bT e1 (bs e0 ?_)))))),_,rfl,by simp[hb],fun v lG=> ?_⟩
   ·rw[nM];refine bs (l2 hg) ?_;rw[cq (by omega)];rfl
   ·rcases List.mem_or_eq_of_mem_set lG with lG|lG
    ·exact hv v lG
    ·exact ⟨true,lG⟩
 ·obtain ⟨b,rfl,hb,hv⟩:=hy;simp only[Mw,F9,un];refine ⟨_,bF (aW (by omega)) rfl,b,?_⟩;rw[aW (by omega),eT]
theorem Bl:CC uy [.list ah (tG K mul)]=some [.int .i64 0]:=by
 obtain ⟨G,e,hG,hl⟩:=apr h;refine apm ?_;unfold adi;exact bs (apq h) (bF rfl (bs e (bs (aps h ha hG hl) (bF rfl rfl))))
theorem apt:CC Km [.list ah (tG K mul)]=some [.bool true]:=by
 refine apn ?_;unfold adj;exact bs (Bl h ha) rfl
theorem apu {L:List Nat} (hl:L.length≤1000000) (hL: ∀x∈L,x<K):CC Kb [.list ah (tG K mul),.list ae (nS L)]=some [.bool true]:=by
 refine apo ?_;unfold adk;exact bs (adm hl hL) (bT rfl (bs (apt h ha) rfl))
end
end
noncomputable def adn (C:af) (t:LV):Option LV:=
 bif (decide (0≤(t.length:Int)))&&((decide ((t.length:Int)≤(t.length:Int)))&&(Nat.ble (((t.length:Int).toNat)*1) bm)) then
  some [.list ah t,.list ae ([]:LV),.list ax (List.replicate ((t.length:Int).toNat) (V.bool false)),.list ae ([]:LV)]
 else none
theorem apv {t:LV} {r:Option LV} (h:adn CC t=r):CC Kd [.list ah t]=r:=bA (L:=bB) av h
noncomputable def ado (C:af) (x:Int) (cs aQ aH aI:LV):Option LV:=
 ar aH x fun x1=>
 bif !x1.toBool then
  ar aH x fun x2=>
  bif Nat.ble ((aI.length+([V.int .i64 x]:LV).length)*8) bm then
  some [.list ah cs,.list ae aQ,.list ax (aE aH x (.bool true)),.list ae (aI++([V.int .i64 x]:LV))]
  else none
 else
  some [.list ah cs,.list ae aQ,.list ax aH,.list ae aI]
theorem apw {x:Int} {cs aQ aH aI:LV} {r:Option LV} (h:ado CC x cs aQ aH aI=r):CC As [V.int .i64 x,.list ah cs,.list ae aQ,.list ax aH,.list ae aI]=r:=bA (L:=bB) av h
noncomputable def Gg (C:af) (g before i t67 t68:Int) (cs Gh bq aS:LV) {β:Type} (kn:(Int×LV×LV×LV×LV)→Option β) (kr:(Int×Bool×LV×LV×LV×LV)→Option β):Option β:=
 bif decide (t68<t67) then
  ar Gh t68 fun x7=>
  ar aS i fun x8=>
  (idx cs x8.toInt).bind fun x9=>
  (idx x9.toList x7.toInt).bind fun lY=>
  (C As [V.int .i64 lY.toInt,.list ah cs,.list ae Gh,.list ax bq,.list ae aS]).bind fun dy=>
  kn (wrap .i64 (t68+1),(V.nth dy 0).toList,(V.nth (dy.drop 1) 0).toList,(V.nth ((dy.drop 1).drop 1) 0).toList,(V.nth (((dy.drop 1).drop 1).drop 1) 0).toList)
 else
  kr (t68,decide (t68<t67),cs,Gh,bq,aS)
noncomputable def Gi (C:af) (g before i t67:Int):=un fun t68=>un fun cs=>un fun Gh=>un fun bq aS=>Gg C g before i t67 t68 cs Gh bq aS (fun y=>some (Sum.inl y)) (fun r=>some (Sum.inr r))
noncomputable def MB (C:af) (g before i:Int) (cs bh bq aS:LV) {β:Type} (kn:(Int×LV×LV×LV×LV)→Option β) (kr:(Int×Bool×LV×LV×LV×LV)→Option β):Option β:=
 bif decide (i<(aS.length:Int)) then
  bif decide (i<before) then
  ar aS i fun x3=>
  (idx cs x3.toInt).bind fun x4=>
  (idx x4.toList g).bind fun x5=>
  (C As [V.int .i64 x5.toInt,.list ah cs,.list ae bh,.list ax bq,.list ae aS]).bind fun r6=>
  kn (wrap .i64 (i+1),(V.nth r6 0).toList,(V.nth (r6.drop 1) 0).toList,(V.nth ((r6.drop 1).drop 1) 0).toList,(V.nth (((r6.drop 1).drop 1).drop 1) 0).toList)
  else
  (Loop (Gi C g before i (bh.length:Int)) (0,cs,bh,bq,aS)).bind (un fun s6=>un fun (yE:Bool)=>un fun (apx:LV)=>un fun (apy:LV)=>un fun (yz:LV) (j7:LV)=>
   kn (wrap .i64 (i+1),apx,apy,yz,j7))
 else
  kr (i,decide (i<(aS.length:Int)),cs,bh,bq,aS)
noncomputable def Uh (C:af) (g before:Int):=un fun i=>un fun cs=>un fun bh=>un fun bq aS=>MB C g before i cs bh bq aS (fun y=>some (Sum.inl y)) (fun r=>some (Sum.inr r))
noncomputable def adp (C:af):cz:=bt 161 Rs [EQ,EQ,EQ,EQ,H1,H1,H1,H1,H1] [[1,2,3,4,0,0,0,0,0,0]] (@Gg C) (bt 81 Rt [EQ,EQ,H1,H1,H1,H1,H1] [[1,2,0,0,0,0,0,0]] (@MB C) bB)
theorem apz (C:af):bc C (adp C) 31 (Lp [1,1,1,1,1,0,0,1,0,0,1,1,0,0] 31):=br Rs [EQ,EQ,EQ,EQ,H1,H1,H1,H1,H1] [[1,2,3,4,0,0,0,0,0,0]] (@Gg C) (aR av)
theorem apA (C:af):bc C (adp C) 31 (Lp [1,1,1,1,1,0,0] 31):=br Rt [EQ,EQ,H1,H1,H1,H1,H1] [[1,2,0,0,0,0,0,0]] (@MB C) (aR (ba (apz C) av))
noncomputable def MC (C:af) (g:Int) (cs aQ aH aI:LV):Option LV:=
 ar aH g fun x1=>
 bif x1.toBool then
  some [.list ah cs,.list ae aQ,.list ax aH,.list ae aI]
 else
  bif Nat.ble ((aQ.length+([V.int .i64 g]:LV).length)*8) bm then
  (C As [V.int .i64 g,.list ah cs,.list ae (aQ++([V.int .i64 g]:LV)),.list ax aH,.list ae aI]).bind fun r2=>
  (Loop (Uh C g (aI.length:Int)) (0,(V.nth r2 0).toList,(V.nth (r2.drop 1) 0).toList,(V.nth ((r2.drop 1).drop 1) 0).toList,(V.nth (((r2.drop 1).drop 1).drop 1) 0).toList)).bind (un fun auQ=>un fun (ao9:Bool)=>un fun (apB:LV)=>un fun (yr:LV)=>un fun (yu:LV) (sO:LV)=>
   some [.list ah apB,.list ae yr,.list ax yu,.list ae sO])
  else none
theorem apC {g:Int} {cs aQ aH aI:LV} {r:Option LV} (h:MC CC g cs aQ aH aI=r):CC D2 [V.int .i64 g,.list ah cs,.list ae aQ,.list ax aH,.list ae aI]=r:=bA (ba (apA CC) av) h
inductive kC (mul:Nat→Nat→Nat) (G:List Nat):Nat→Prop
 | one {g:Nat}:g∈G→kC mul G g
 | more {x g:Nat}:kC mul G x→g∈G→kC mul G (mul x g)
theorem kC.mono {mul:Nat→Nat→Nat} {G H:List Nat} (h: ∀g∈G,g∈H) {x:Nat} (hx:kC mul G x):kC mul H x:=by
 induction hx with
 | one hg=>exact .one (h _ hg)
 | more _ hg ih=>exact .more ih (h _ hg)
structure Gj (K:Nat) (mul:Nat→Nat→Nat) (G M:List Nat):Prop where
 gd:eQ K M
 sub: ∀g∈G,g∈M
 pr: ∀x∈M,kC mul G x
 cl: ∀x∈M,∀g∈G,mul x g∈M
 gl:G.length≤M.length
def wE (K:Nat) (mul:Nat→Nat→Nat) (G M:List Nat):List V:=[.list ah (tG K mul),.list ae (nS G),.list ax (dX K M),.list ae (nS M)]
section
variable {K:Nat} {mul:Nat→Nat→Nat} (h:Tb K mul)
theorem Ui {G M:List Nat} (hM:eQ K M) (h4:K≤400) {x:Nat} (hx:x<K):CC As (.int .i64 (x:Int)::wE K mul G M)=some (wE K mul G (bR M x)):=by
 have hl:=hM.le;refine apw ?_;unfold ado;by_cases c:x∈M
 ·refine (cy (s9 hx)).trans (bF (by simp[c]) ?_)
  rw[show bR M x=M by rw[bR,ak c]];rfl
 ·refine (cy (s9 hx)).trans (bT (by simp[c]) ((cy (s9 hx)).trans (bT (cap (by rw[cL];simp;omega) (by omega)) ?_)))
  rw[show aE (dX K M) (x:Int) (.bool true)=dX K (bR M x) from adl c,show bR M x=M++[x] by rw[bR,aj c]];simp[nS,nV,wE]
include h
theorem apD {G M0:List Nat} (hG: ∀g∈G,g<K) (Gf:G.length≤401) (rB:eQ K M0) {i:Nat} (hi:i<M0.length) {a b:Int}: ∃M,Loop (Gi CC a b (i:Int) (G.length:Int)) (0,tG K mul,nS G,dX K M0,nS M0)=some ((G.length:Int),false,tG K mul,nS G,dX K M,nS M)∧eQ K M∧M0 <+: M∧(∀g∈G,mul M0[i] g∈M)∧∀y∈M,y∈M0∨∃g∈G,y=mul M0[i] g:=by
 have h4:=h.k4;have key:=sM (step:=Gi CC a b (i:Int) (G.length:Int)) (fun k y=> ∃M,y=((k:Int),tG K mul,nS G,dX K M,nS M)∧eQ K M∧M0 <+: M∧(∀j,j<k→mul M0[i] (G.getD j 0)∈M)∧∀y∈M,y∈M0∨∃g∈G,y=mul M0[i] g) (fun r=> ∃M,r=((G.length:Int),false,tG K mul,nS G,dX K M,nS M)∧eQ K M∧M0 <+: M∧(∀j,j<G.length→mul M0[i] (G.getD j 0)∈M)∧∀y∈M,y∈M0∨∃g∈G,y=mul M0[i] g) G.length 0 (0,tG K mul,nS G,dX K M0,nS M0) (fun k _ hk y hy=> ?_) (fun y hy=> ?_) ⟨M0,rfl,rB,nW _,fun j hj=>(by omega),fun y hy=> .inl hy⟩
 ·obtain ⟨r,e,M,rfl,h1,h2,h3,h5⟩:=key;refine ⟨M,e,h1,h2,fun g hg=> ?_,h5⟩;obtain ⟨j,hj,rfl⟩:=qy hg;have:=h3 j hj;rwa [bD hj] at this
 ·obtain ⟨M,rfl,h1,h2,h3,h5⟩:=hy;have dh:k<G.length:=by omega
  have hg:=hG _ (cM dh);have hiM:i<M.length:=lr hi h2.length_le;have Uj:M[i]=M0[i]:=(h2.getElem hi).symm;have hx:=rB.lt _ (cM hi);have hm:=h.lt _ _ hx hg;simp only[Gi,Gg,un,ar];refine ⟨_,bT (cg dh) ((cy (uM dh)).trans ((cy (uM hiM)).trans (bs (show idx (tG K mul) ((nV M[i]).toInt)=some (.list ae (tab K fun j=>nV (mul M0[i] j))) by rw[Uj];exact pn hx) (bs (uT hg) (bs (Ui h1 h4 hm) rfl))))),bR M (mul M0[i] G[k]),?_,h1.add hm,h2.trans (nz _ _),fun j hj=> ?_,fun y hy=> ?_⟩
  ·rw[cq (by omega)];rfl
  ·rcases gy j k with c|c
   ·exact mR.2 (.inl (h3 j c))
   ·obtain rfl:j=k:=by omega
    rw[bD dh];exact mR.2 (.inr rfl)
  ·rcases mR.1 hy with hy|rfl
   ·exact h5 y hy
   ·exact .inr ⟨_,cM dh,rfl⟩
 ·obtain ⟨M,rfl,h1,h2,h3,h5⟩:=hy;rw[eT] at*
  simp only[Gi,Gg,un];refine ⟨_,bF (aW (az _)) rfl,M,?_,h1,h2,h3,h5⟩;rw[aW (az _)]
theorem apE {G M:List Nat} (hI:Gj K mul G M) {g:Nat} (hg:g<K): ∃G' M',CC D2 (.int .i64 (g:Int)::wE K mul G M)=some (wE K mul G' M')∧Gj K mul G' M'∧(∀x∈M,x∈M')∧g∈M'∧∀x∈G',x∈G∨x=g:=by
 have h4:=h.k4;have fin: ∀z,MC CC (g:Int) (tG K mul) (nS G) (dX K M) (nS M)=z→CC D2 (.int .i64 (g:Int)::wE K mul G M)=z:=fun z h=>apC h;have hle:=hI.gd.le;have YL:=hI.gl;by_cases c:g∈M
 ·refine ⟨G,M,fin _ ?_,hI,fun x hx=>hx,c,fun x hx=> .inl hx⟩;unfold MC;exact (cy (s9 hg)).trans (bT (by simp[c]) rfl)
 ·have DP:nS G++[V.int .i64 (g:Int)]=nS (G++[g]):=by simp[nS,nV]
  have Uk:=hI.gd.add hg;have FF:bR M g=M++[g]:=by rw[bR,aj c]
  have hGK: ∀x∈G++[g],x<K:=fun x hx=>by
   rcases eS.1 hx with hx|hx
   ·exact hI.gd.lt _ (hI.sub x hx)
   ·rw[fl.1 hx];exact hg
  have hpr: ∀x∈bR M g,kC mul (G++[g]) x:=fun x hx=>by
   rcases mR.1 hx with hx|rfl
   ·exact (hI.pr x hx).mono fun y hy=>List.mem_append_left _ hy
   ·exact .one (by simp)
  have key:=DQ (step:=Uh CC (g:Int) (M.length:Int)) (fun y=> ∃(i:Nat) (M':List Nat),y=((i:Int),tG K mul,nS (G++[g]),dX K M',nS M')∧eQ K M'∧bR M g <+: M'∧i≤M'.length∧(∀x∈M',kC mul (G++[g]) x)∧∀j,j<i→∀x∈G++[g],mul (M'.getD j 0) x∈M')
   (fun y=>1000-y.1.toNat) (fun r=> ∃(i:Nat) (M':List Nat),r=((i:Int),false,tG K mul,nS (G++[g]),dX K M',nS M')∧eQ K M'∧bR M g <+: M'∧(∀x∈M',kC mul (G++[g]) x)∧∀x∈M',∀y∈G++[g],mul x y∈M')
   (fun y hy=> ?_) (0,tG K mul,nS (G++[g]),dX K (bR M g),nS (bR M g)) ⟨0,_,rfl,Uk,nW _,kP _,hpr,fun j hj=>(by omega)⟩
  ·obtain ⟨r,e,i,M',rfl,h1,h2,h3,h5⟩:=key;refine ⟨G++[g],M',fin _ ?_,⟨h1,fun x hx=> ?_,h3,h5,?_⟩,fun x hx=>h2.subset (mR.2 (.inl hx)),h2.subset (mR.2 (.inr rfl)),fun x hx=> ?_⟩
   ·unfold MC;refine (cy (s9 hg)).trans (bF (by simp[c]) (bT (cap (by rw[cL];simp;omega) (by omega)) ?_))
    rw[DP];refine bs (Ui hI.gd h4 hg) ?_;rw[cL];exact bs e rfl
   ·rcases eS.1 hx with hx|hx
    ·exact h2.subset (mR.2 (.inl (hI.sub x hx)))
    ·rw[fl.1 hx];exact h2.subset (mR.2 (.inr rfl))
   ·have:=h2.length_le;rw[FF] at this;simp at this⊢;omega
   ·rcases eS.1 hx with hx|hx
    ·exact .inl hx
    ·exact .inr (fl.1 hx)
  ·obtain ⟨i,M',rfl,h1,h2,hi,h3,h5⟩:=hy;have auR:=h1.le;simp only[Uh,MB,un,ar];by_cases jx:i<M'.length
   ·have hxK:=h1.lt _ (cM jx);by_cases hb:i<M.length
    ·have Uj:M'[i]=M[i]:=by
      have:=h2.getElem (i:=i) (by rw[FF];simp;omega);rw[←this];simp only[FF];exact List.getElem_append_left hb
     have hm:=h.lt _ _ hxK hg;refine .inl ⟨(((i+1:Nat):Int),tG K mul,nS (G++[g]),dX K (bR M' (mul M'[i] g)),nS (bR M' (mul M'[i] g))),bT (by rw[cL];exact cg jx) (bT (cg hb) ((cy (uM jx)).trans (bs (pn hxK) (bs (uT hg) (bs (Ui h1 h4 hm) ?_))))),⟨i+1,bR M' (mul M'[i] g),rfl,h1.add hm,h2.trans (nz _ _),by have:=(nz M' (mul M'[i] g)).length_le;omega,fun x hx=> ?_,fun j hj x hx=> ?_⟩,?_⟩
     ·rw[cq (by omega)];rfl
     ·rcases mR.1 hx with hx|rfl
      ·exact h3 x hx
      ·exact .more (h3 _ (cM jx)) (by simp)
     ·have yI:j<M'.length:=by omega
      have ej:(bR M' (mul M'[i] g)).getD j 0=M'[j]:=by
       rw[bD (lr yI (nz _ _).length_le)];exact ((nz M' (mul M'[i] g)).getElem yI).symm
      rw[ej];rcases gy j i with cj|cj
      ·have:=h5 j cj x hx;rw[bD yI] at this;exact mR.2 (.inl this)
      ·obtain rfl:j=i:=by omega
       rcases eS.1 hx with hx|hx
       ·have:=hI.cl _ (cM hb) x hx;rw[←Uj] at this;exact mR.2 (.inl (h2.subset (mR.2 (.inl this))))
       ·rw[fl.1 hx];exact mR.2 (.inr rfl)
     ·show 1000-(((i+1:Nat):Int)).toNat<1000-((i:Int)).toNat
      omega
    ·obtain ⟨M2,e,k1,k2,k3,k4⟩:=apD h hGK (by simp;omega) h1 jx (a:=(g:Int)) (b:=(M.length:Int));refine .inl ⟨(((i+1:Nat):Int),tG K mul,nS (G++[g]),dX K M2,nS M2),bT (by rw[cL];exact cg jx) (bF (aW (by omega)) ?_),⟨i+1,M2,rfl,k1,h2.trans k2,by have:=k2.length_le;omega,fun x hx=> ?_,fun j hj x hx=> ?_⟩,?_⟩
     ·rw[cL];refine bs e ?_;rw[cq (by omega)];rfl
     ·rcases k4 x hx with hx|⟨y,hy,rfl⟩
      ·exact h3 x hx
      ·exact .more (h3 _ (cM jx)) hy
     ·have yI:j<M'.length:=by omega
      have ej:M2.getD j 0=M'[j]:=by
       rw[bD (lr yI k2.length_le)];exact (k2.getElem yI).symm
      rw[ej];rcases gy j i with cj|cj
      ·have:=h5 j cj x hx;rw[bD yI] at this;exact k2.subset this
      ·obtain rfl:j=i:=by omega
       exact k3 x hx
     ·show 1000-(((i+1:Nat):Int)).toNat<1000-((i:Int)).toNat
      omega
   ·refine .inr ⟨_,bF (by rw[cL];exact aW (by omega)) rfl,i,M',?_,h1,h2,h3,fun x hx y hy=> ?_⟩
    ·rw[cL,aW (by omega)]
    ·obtain ⟨j,hj,rfl⟩:=qy hx;have:=h5 j (by omega) y hy;rwa [bD hj] at this
end
end Go.AM
set_option maxRecDepth 100000
namespace Go.AM
open Go.IntKind (wrap)
open Go.Proofs Go.Sort
section
variable {α:Type} {enc:α→V}
def ta (enc:α→V) (d:Array α):List V:=d.toList.map enc
theorem iM (d:Array α):(ta enc d).length=d.size:=by simp[ta]
theorem iy (d:Array α) (i:Nat) (x:α):(ta enc d).set i (enc x)=ta enc (d.setIfInBounds i x):=by
 unfold ta;rw[Array.toList_setIfInBounds,List.map_set]
variable [Inhabited α]
theorem iN {d:Array α} {i:Nat} (h:i<d.size):(ta enc d)[i]? =some (enc d[i]!):=by
 unfold ta;rw[jk,pF,kb h,getElem!_pos d i h];rfl
theorem j8 {d:Array α} {i j:Nat} {x:α} (h:i<d.size):(ta enc (d.setIfInBounds j x))[i]? =some (enc (d.setIfInBounds j x)[i]!):=iN (by rw[jm];exact h)
theorem iz (a b:Nat):(a:Int)+(b:Int)=((a+b:Nat):Int):=(Int.natCast_add a b).symm
theorem eR (a:Nat):(a:Int)+1=((a+1:Nat):Int):=rfl
theorem yJ (a:Nat):((a+1:Nat):Int)-1=(a:Int):=by omega
theorem Gk (a:Nat):(a:Int)*2=((a*2:Nat):Int):=by omega
theorem po {a b:Nat} (h:b≤a):(a:Int)-(b:Int)=((a-b:Nat):Int):=by omega
theorem mU {a:Nat} (h:1≤a):(a:Int)-1=((a-1:Nat):Int):=by omega
theorem divC (a b:Nat):Int.tdiv (a:Int) (b:Int)=((a/b:Nat):Int):=by rw[Int.tdiv_eq_ediv_of_nonneg (by omega)];rfl
theorem qk {p:Prop} [Decidable p] (h:p):decide p=true:=cZ h
theorem wF {p:Prop} [Decidable p] (h: ¬p):decide p=false:=cR h
theorem Bm (p:α→Bool) (d:Array α) (j i:Nat):scanUp p d j i=if i≤j then (if p d[i]! =true then scanUp p d j (i+1) else i) else i:=by
 conv=>lhs;rw[scanUp]
 by_cases h:i≤j
 ·rw[ak h];simp only[h,y8,Cc]
 ·rw[aj h,aj (by simp[h])]
theorem Ul (p:α→Bool) (d:Array α) (i j:Nat):scanDown p d i (j+1)=if i≤j+1 then (if p d[j+1]! =true then scanDown p d i j else j+1) else j+1:=by
 conv=>lhs;rw[scanDown]
 by_cases h:i≤j+1
 ·rw[ak h];simp only[h,y8,Cc]
 ·rw[aj h,aj (by simp[h])]
variable {lt:α→α→Bool}
theorem adq (a j:Nat) (d:Array α):insInner lt a (j+1) d=if j+1>a&&lt d[j+1]! d[j]! then insInner lt a j (swp d (j+1) j) else d:=rfl
theorem Um {a:Nat}: ∀(j:Nat) (d:Array α),(insInner lt a j d).size=d.size
 | 0,d=>rfl
 | j+1,d=>by
  rw[adq];split
  ·rw[Um j,size_swp]
  ·rfl
theorem Gl (hi first:Nat): ∀(n root:Nat) (d:Array α),hi-root≤n→(siftDown lt hi first root d).size=d.size:=by
 intro n
 induction n with
 | zero=>intro root d h;rw[siftDown,pD (by omega)]
 | succ n ih=>
  intro root d h;rw[siftDown];split
  ·rfl
  ·split
   ·split
    ·rfl
    ·split
     ·rw[ih _ _ (by omega),size_swp]
     ·rfl
   ·split
    ·rfl
    ·rw[ih _ _ (by omega),size_swp]
theorem Un (hi first:Nat): ∀(k:Nat) (d:Array α),(heapBuild lt hi first k d).size=d.size
 | 0,d=>rfl
 | k+1,d=>by rw[heapBuild,Un,Gl _ _ _ _ _ (az _)]
end
end Go.AM
set_option maxRecDepth 100000
namespace Go.AM
open Go.IntKind (wrap)
open Go.Proofs
noncomputable def adr (C:af) (x:Int):Option LV:=
 some [.bool (x != x)]
theorem apF {x:Int} {r:Option LV} (h:adr CC x=r):CC Ej [V.int .i64 x]=r:=bA (L:=bB) av h
noncomputable def ads (C:af) (x y:Int):Option LV:=
 (C Ej [V.int .i64 x]).bind fun r1=>
 bif (V.nth r1 0).toBool then
  (C Ej [V.int .i64 y]).bind fun r2=>
  bif !((V.nth r2 0).toBool) then
  some [.bool true]
  else
  some [.bool (decide (x<y))]
 else
  some [.bool (decide (x<y))]
theorem apG {x y:Int} {r:Option LV} (h:ads CC x y=r):CC jC [V.int .i64 x,V.int .i64 y]=r:=bA (L:=bB) av h
noncomputable def Bn (C:af) (a b' i j:Int) (an:LV) {β:Type} (kn:(Int×LV)→Option β) (kr:(Int×Bool×LV)→Option β):Option β:=
 bif decide (j>a) then
  ar an j fun x1=>
  ar an (wrap .i64 (j-1)) fun x2=>
  (C jC [V.int .i64 x1.toInt,V.int .i64 x2.toInt]).bind fun r3=>
  bif (V.nth r3 0).toBool then
  ar an (wrap .i64 (j-1)) fun x4=>
  ar an j fun x5=>
  ar an j fun x6=>
  ar (aE an j (V.int .i64 x4.toInt)) (wrap .i64 (j-1)) fun x7=>
  kn (wrap .i64 (j-1),aE (aE an j (V.int .i64 x4.toInt)) (wrap .i64 (j-1)) (V.int .i64 x5.toInt))
  else
  kr (j,(V.nth r3 0).toBool,an)
 else
  kr (j,false,an)
noncomputable def Bo (C:af) (a b' i:Int):=un fun j an=>Bn C a b' i j an (fun y=>some (Sum.inl y)) (fun r=>some (Sum.inr r))
noncomputable def Gm (C:af) (a b' i:Int) (an:LV) {β:Type} (kn:(Int×LV)→Option β) (kr:(Int×Bool×LV)→Option β):Option β:=
 bif decide (i<b') then
  (Loop (Bo C a b' i) (i,an)).bind (un fun j_8=>un fun (mO:Bool) (rC:LV)=>
   kn (wrap .i64 (i+1),rC))
 else
  kr (i,decide (i<b'),an)
noncomputable def MD (C:af) (a b':Int):=un fun i an=>Gm C a b' i an (fun y=>some (Sum.inl y)) (fun r=>some (Sum.inr r))
noncomputable def adt (C:af):cz:=bt 65 Sb [EQ,EQ,EQ,H1,H1] [[1,2,3,0,0,0]] (@Bn C) (bt 17 Sd [EQ,EQ,H1,H1] [[1,2,0,0,0]] (@Gm C) bB)
theorem apH (C:af):bc C (adt C) 88 (Lp [1,0,0,1,0,0,1,0,0] 88):=br Sb [EQ,EQ,EQ,H1,H1] [[1,2,3,0,0,0]] (@Bn C) (aR av)
theorem apI (C:af):bc C (adt C) 88 (Lp [1,0,0] 88):=br Sd [EQ,EQ,H1,H1] [[1,2,0,0,0]] (@Gm C) (aR (ba (apH C) av))
noncomputable def adu (C:af) (a b':Int) (an:LV):Option LV:=
 (Loop (MD C a b') (wrap .i64 (a+1),an)).bind (un fun auS=>un fun (s6:Bool) (Uo:LV)=>
  some [.list ae Uo])
theorem apJ {a b':Int} {an:LV} {r:Option LV} (h:adu CC a b' an=r):CC Eb [V.int .i64 a,V.int .i64 b',.list ae an]=r:=bA (ba (apI CC) av) h
noncomputable def yK (C:af) (hi first root child:Int) (t36:Bool) (an:LV) {β:Type} (kr:(Int)→Option β):Option β:=
 bif t36 then
  kr (wrap .i64 (child+1))
 else
  kr child
noncomputable def wG (C:af) (hi first root:Int) (an:LV) {β:Type} (kn:(Int×LV)→Option β) (kr:((Int×Int×Bool×LV) ⊕ (Int×Int×Bool×LV))→Option β):Option β:=
 bif decide (((wrap .i64 ((wrap .i64 (root*2))+1)):Int)≥hi) then
  kr (.inl (root,wrap .i64 ((wrap .i64 (root*2))+1),decide (((wrap .i64 ((wrap .i64 (root*2))+1)):Int)≥hi),an))
 else
  bif decide (((wrap .i64 ((wrap .i64 ((wrap .i64 (root*2))+1))+1)):Int)<hi) then
  ar an (wrap .i64 (first+(wrap .i64 ((wrap .i64 (root*2))+1)))) fun x1=>
  ar an (wrap .i64 ((wrap .i64 (first+(wrap .i64 ((wrap .i64 (root*2))+1))))+1)) fun x2=>
  (C jC [V.int .i64 x1.toInt,V.int .i64 x2.toInt]).bind fun r3=>
  yK C hi first root (wrap .i64 ((wrap .i64 (root*2))+1)) ((V.nth r3 0).toBool) an (fun Bp=>
   ar an (wrap .i64 (first+root)) fun x5=>
   ar an (wrap .i64 (first+Bp)) fun x6=>
   (C jC [V.int .i64 x5.toInt,V.int .i64 x6.toInt]).bind fun r7=>
   bif !((V.nth r7 0).toBool) then
    kr (.inr (root,Bp,!((V.nth r7 0).toBool),an))
   else
    ar an (wrap .i64 (first+Bp)) fun x8=>
    ar an (wrap .i64 (first+root)) fun x9=>
    ar an (wrap .i64 (first+root)) fun lY=>
    ar (aE an (wrap .i64 (first+root)) (V.int .i64 x8.toInt)) (wrap .i64 (first+Bp)) fun nJ=>
    kn (Bp,aE (aE an (wrap .i64 (first+root)) (V.int .i64 x8.toInt)) (wrap .i64 (first+Bp)) (V.int .i64 x9.toInt)))
  else
  yK C hi first root (wrap .i64 ((wrap .i64 (root*2))+1)) false an (fun Bq=>
   ar an (wrap .i64 (first+root)) fun uU=>
   ar an (wrap .i64 (first+Bq)) fun Br=>
   (C jC [V.int .i64 uU.toInt,V.int .i64 Br.toInt]).bind fun rn=>
   bif !((V.nth rn 0).toBool) then
    kr (.inr (root,Bq,!((V.nth rn 0).toBool),an))
   else
    ar an (wrap .i64 (first+Bq)) fun ql=>
    ar an (wrap .i64 (first+root)) fun rz=>
    ar an (wrap .i64 (first+root)) fun sY=>
    ar (aE an (wrap .i64 (first+root)) (V.int .i64 ql.toInt)) (wrap .i64 (first+Bq)) fun oL=>
    kn (Bq,aE (aE an (wrap .i64 (first+root)) (V.int .i64 ql.toInt)) (wrap .i64 (first+Bq)) (V.int .i64 rz.toInt)))
noncomputable def rD (C:af) (hi first:Int):=un fun root an=>wG C hi first root an (fun y=>some (Sum.inl y)) (fun r=>some (Sum.inr r))
noncomputable def adv (C:af):cz:=pb 591 SJ [[1,2,3,0,6]] (@yK C) (bt 17 SL [EQ,EQ,H1,H1] [[1,2,0,0,0,0],[1,2,0,0,0,0]] (@wG C) bB)
theorem apK (C:af):bc C (adv C) 127 (Cd 36 [1,0,0,0,1,1,0,1,0] [1,0,0,0,1,1,0,1,1] 127):=o9 SJ [[1,2,3,0,6]] (@yK C) (aR av) (aR av)
theorem apL (C:af):bc C (adv C) 127 (Lp [1,0,0] 127):=br SL [EQ,EQ,H1,H1] [[1,2,0,0,0,0],[1,2,0,0,0,0]] (@wG C) (aR (ba (apK C) av))
noncomputable def adw (C:af) (lo hi first:Int) (an:LV):Option LV:=
 (Loop (rD C hi first) (lo,an)).bind (cP (un fun auT=>un fun auU=>un fun (aoG:Bool) (apM:LV)=>
  some [.list ae apM]) (un fun auV=>un fun auW=>un fun (apO:Bool) (yL:LV)=>
  some [.list ae yL]))
theorem apP {lo hi first:Int} {an:LV} {r:Option LV} (h:adw CC lo hi first an=r):CC Eh [V.int .i64 lo,V.int .i64 hi,V.int .i64 first,.list ae an]=r:=bA (ba (apL CC) av) h
noncomputable def Gn (C:af) (first lo hi i:Int) (an:LV) {β:Type} (kn:(Int×LV)→Option β) (kr:(Int×Bool×LV)→Option β):Option β:=
 bif decide (i≥0) then
  (C Eh [V.int .i64 i,V.int .i64 hi,V.int .i64 first,.list ae an]).bind fun r1=>
  kn (wrap .i64 (i-1),(V.nth r1 0).toList)
 else
  kr (i,decide (i≥0),an)
noncomputable def ME (C:af) (first lo hi:Int):=un fun i an=>Gn C first lo hi i an (fun y=>some (Sum.inl y)) (fun r=>some (Sum.inr r))
noncomputable def Gp (C:af) (first lo i:Int) (an:LV) {β:Type} (kn:(Int×LV)→Option β) (kr:(Int×Bool×LV)→Option β):Option β:=
 bif decide (i≥0) then
  ar an (wrap .i64 (first+i)) fun x5=>
  ar an first fun x6=>
  ar an first fun x7=>
  ar (aE an first (V.int .i64 x5.toInt)) (wrap .i64 (first+i)) fun x8=>
  (C Eh [V.int .i64 lo,V.int .i64 i,V.int .i64 first,.list ae (aE (aE an first (V.int .i64 x5.toInt)) (wrap .i64 (first+i)) (V.int .i64 x6.toInt))]).bind fun r9=>
  kn (wrap .i64 (i-1),(V.nth r9 0).toList)
 else
  kr (i,decide (i≥0),an)
noncomputable def MF (C:af) (first lo:Int):=un fun i an=>Gp C first lo i an (fun y=>some (Sum.inl y)) (fun r=>some (Sum.inr r))
noncomputable def adx (C:af):cz:=bt 65 Se [EQ,EQ,EQ,H1,H1] [[1,2,3,0,0,0]] (@Gn C) (bt 129 Sf [EQ,EQ,H1,H1] [[1,2,0,0,0]] (@Gp C) bB)
theorem apQ (C:af):bc C (adx C) 89 (Lp [1,1,1,0,1,0,0] 89):=br Se [EQ,EQ,EQ,H1,H1] [[1,2,3,0,0,0]] (@Gn C) (aR av)
theorem apR (C:af):bc C (adx C) 89 (Lp [1,1,1,1,1,0,0] 89):=br Sf [EQ,EQ,H1,H1] [[1,2,0,0,0]] (@Gp C) (aR av)
noncomputable def ady (C:af) (a b':Int) (an:LV):Option LV:=
 (Loop (ME C a 0 (wrap .i64 (b'-a))) (wrap .i64 (Int.tdiv (wrap .i64 ((wrap .i64 (b'-a))-1)) 2),an)).bind (un fun i_2=>un fun (jF:Bool) (apS:LV)=>
  (Loop (MF C a 0) (wrap .i64 ((wrap .i64 (b'-a))-1),apS)).bind (un fun auX=>un fun (wD:Bool) (rE:LV)=>
   some [.list ae rE]))
theorem apU {a b':Int} {an:LV} {r:Option LV} (h:ady CC a b' an=r):CC Ec [V.int .i64 a,V.int .i64 b',.list ae an]=r:=bA (ba (apQ CC) (ba (apR CC) av)) h
noncomputable def Bs (C:af) (i j:Int) (an:LV) {β:Type} (kn:(Int×Int×LV)→Option β) (kr:(Int×Int×Bool×LV)→Option β):Option β:=
 bif decide (i<j) then
  ar an j fun x1=>
  ar an i fun x2=>
  ar an i fun x3=>
  ar (aE an i (V.int .i64 x1.toInt)) j fun x4=>
  kn (wrap .i64 (i+1),wrap .i64 (j-1),aE (aE an i (V.int .i64 x1.toInt)) j (V.int .i64 x2.toInt))
 else
  kr (i,j,decide (i<j),an)
noncomputable def Gq (C:af):=un fun i=>un fun j an=>Bs C i j an (fun y=>some (Sum.inl y)) (fun r=>some (Sum.inr r))
noncomputable def apV (C:af):cz:=bt 33 Sk [H1,H1,H1] [[0,0,0,0]] (@Bs C) bB
theorem apW (C:af):bc C (apV C) 92 (Lp [1,1,0,0] 92):=br Sk [H1,H1,H1] [[0,0,0,0]] (@Bs C) (aR av)
noncomputable def adz (C:af) (a b':Int) (an:LV):Option LV:=
 (Loop (Gq C) (a,wrap .i64 (b'-1),an)).bind (un fun i_5=>un fun j_6=>un fun (oC:Bool) (apX:LV)=>
  some [.list ae apX])
theorem apY {a b':Int} {an:LV} {r:Option LV} (h:adz CC a b' an=r):CC Kw [V.int .i64 a,V.int .i64 b',.list ae an]=r:=bA (ba (apW CC) av) h
end Go.AM
set_option maxRecDepth 100000
set_option maxHeartbeats 4000000
namespace Go.AM.SO
open Go.IntKind (wrap)
open Go.Proofs Go.Sort
def rF (x:Int):V:= .int .i64 x
def cG (a b:Int):Int:=a-b
theorem gj (x:Int):V.int .i64 (rF x).toInt=rF x:=rfl
theorem jg (a b:Int):CC jC [rF a,rF b]=some [.bool (decide (cG a b<0))]:=by
 have h: ∀z:Int,CC Ej [.int .i64 z]=some [.bool false]:=fun z=>by
  refine apF ?_;unfold adr;simp
 refine apG ?_;unfold ads;refine bs (h _) (bF rfl ?_);show some [V.bool (decide (a<b))]=_;rw[decide_eq_decide.2 (show a<b↔cG a b<0 by unfold cG;omega)]
theorem apZ:SWO (fun a b=>decide (cG a b<0)):=⟨fun x=>by simp only[decide_eq_false_iff_not];unfold cG;omega,fun x y z=>by simp only[fQ];unfold cG;omega,fun x y z=>by simp only[decide_eq_false_iff_not];unfold cG;omega⟩
def aC (a b:Int):Bool:=decide (cG a b<0)
theorem wH (a b:Int):(aC a b=true)=(cG a b<0):=by unfold aC;rw[fQ]
theorem uV (a b:Int):((!aC a b)=true)= ¬(cG a b<0):=by unfold aC;simp
abbrev eA (d:Array Int):List V:=ta rF d
theorem MG {β:Type} {d:Array Int} {i:Nat} {k:Int} {v:V} {x:Option β} (h:i<d.size:=by omega):ar (aE (eA d) k v) (i:Int) (fun _=>x)=x:=by
 unfold ar aE;rw[tm,iM,jb,bw,bu,bw,bu,Int.toNat_natCast,bS (by rw[tm,iM];exact h)];rfl
theorem ap0 (a j:Nat) (d:Array Int):insInner aC a (j+1) d=if j+1>a then (if cG d[j+1]! d[j]! <0 then insInner aC a j (swp d (j+1) j) else d) else d:=by
 rw[adq];by_cases h1:j+1>a
 ·rw[ak h1];simp only[h1,y8,Cc,wH]
 ·rw[aj h1,aj (by simp[h1])]
theorem Up (hi first root:Nat) (d:Array Int):siftDown aC hi first root d=
  if 2*root+1≥hi then d else
   if 2*root+2<hi then
    (if cG d[first+(2*root+1)]! d[first+(2*root+2)]! <0 then
     (if cG d[first+root]! d[first+(2*root+2)]! <0 then siftDown aC hi first (2*root+2) (swp d (first+root) (first+(2*root+2))) else d)
    else (if cG d[first+root]! d[first+(2*root+1)]! <0 then siftDown aC hi first (2*root+1) (swp d (first+root) (first+(2*root+1))) else d))
   else (if cG d[first+root]! d[first+(2*root+1)]! <0 then siftDown aC hi first (2*root+1) (swp d (first+root) (first+(2*root+1))) else d):=by
 rw[siftDown];by_cases h1:2*root+1≥hi
 ·rw[pD h1,ak h1]
 rw[dif_neg h1,aj h1];by_cases h2:2*root+2<hi
 ·rw[ak h2];by_cases h3:cG d[first+(2*root+1)]! d[first+(2*root+2)]! <0
  ·rw[ak h3,ak (by simp only[aK,fQ,wH];exact ⟨h2,h3⟩)];simp only[uV];by_cases h4:cG d[first+root]! d[first+(2*root+2)]! <0
   ·rw[aj (tp h4),pD h2,ak h4]
   ·rw[ak h4,aj h4]
  ·rw[aj h3,aj (by simp only[aK,fQ,wH];exact fun h=>h3 h.2)];simp only[uV];by_cases h4:cG d[first+root]! d[first+(2*root+1)]! <0
   ·rw[aj (tp h4),ak h4]
   ·rw[ak h4,aj h4]
 ·rw[aj h2,aj (by simp only[aK,fQ,wH];exact fun h=>h2 h.1)];simp only[uV];by_cases h4:cG d[first+root]! d[first+(2*root+1)]! <0
  ·rw[aj (tp h4),ak h4]
  ·rw[ak h4,aj h4]
theorem adA {a b i:Nat}: ∀(j:Nat) (d:Array Int),j<d.size→d.size<1152921504606846976→
  ∃j' t,Loop (Bo CC a b i) ((j:Int),eA d)=some (j',t,eA (insInner aC a j d))
 | 0,d,hj,hs=>⟨(0:Nat),false,cT (by
   simp (disch:=omega) only[Bo,Bn,un,bw,aj];rfl)⟩
 | j+1,d,hj,hs=>by
  obtain ⟨j',t,ih⟩:=adA (a:=a) (b:=b) (i:=i) j (swp d (j+1) j) (by rw[size_swp];omega) (by rw[size_swp];omega);rw[ap0];by_cases h1:j+1>a
  ·rw[ak h1];have e:Bo CC a b i (((j+1:Nat):Int),eA d)=if cG d[j+1]! d[j]! <0 then some (.inl ((j:Int),eA (swp d (j+1) j))) else some (.inr (((j+1:Nat):Int),decide (cG d[j+1]! d[j]! <0),eA d)):=by
    simp (disch:=omega) only[Bo,Bn,un,bw,jb,ja,ak,aj,wrap64,eR,iz,Int.toNat_natCast,Option.bind_some,iM,iN,gj,iy,j8,jm,jg,V.dJ,V.toInt_int,V.dS,cond_true,cond_false,yJ];rfl
   by_cases h2:cG d[j+1]! d[j]! <0
   ·rw[ak h2] at e⊢;exact ⟨j',t,(eJ e).trans ih⟩
   ·rw[aj h2] at e⊢;exact ⟨_,_,cT e⟩
  ·rw[aj h1];exact ⟨((j+1:Nat):Int),false,cT (by
    simp (disch:=omega) only[Bo,Bn,un,bw,aj])⟩
theorem ap1 {a b:Nat}: ∀(n i:Nat) (d:Array Int),b-i=n→b≤d.size→d.size<1152921504606846976→
  ∃j' t,Loop (MD CC a b) ((i:Int),eA d)=some (j',t,eA (insOuter aC a b i d)):=by
 intro n
 induction n with
 | zero=>
  intro i d hn hb hs;rw[insOuter,bO];exact ⟨(i:Int),false,cT (by
   simp (disch:=omega) only[MD,Gm,un,wF,cond_false])⟩
 | succ n ih=>
  intro i d hn hb hs;obtain ⟨j1,t1,h1⟩:=adA (a:=a) (b:=b) (i:=i) i d (by omega) hs;obtain ⟨j',t,h2⟩:=ih (i+1) (insInner aC a i d) (by omega) (by rw[Um];omega) (by rw[Um];omega);rw[insOuter,bu];refine ⟨j',t,(eJ ?_).trans h2⟩;simp (disch:=omega) only[MD,Gm,un,bw,ak,h1,Option.bind_some,eR,wrap64]
theorem adB {a b:Nat} {d:Array Int} (hb:b≤d.size) (hs:d.size<1152921504606846976) (ha:a<1152921504606846976):
  CC Eb [.int .i64 (a:Int),.int .i64 (b:Int),.list ae (eA d)]=some [.list ae (eA (insertionSort aC d a b))]:=by
 refine apJ ?_;unfold adu;obtain ⟨j',t,h⟩:=ap1 (a:=a) (b:=b) _ (a+1) d rfl hb hs;simp (disch:=omega) only[eR,wrap64];rw[h];rfl
theorem ap2 (hi first:Nat): ∀(n root:Nat) (d:Array Int),hi-root≤n→root<1152921504606846976→first+hi≤d.size→d.size<1152921504606846976→
  (∃x y z,Loop (rD CC hi first) ((root:Int),eA d)=some (.inl (x,y,z,eA (siftDown aC hi first root d))))∨
  (∃x y z,Loop (rD CC hi first) ((root:Int),eA d)=some (.inr (x,y,z,eA (siftDown aC hi first root d)))):=by
 intro n
 induction n with
 | zero=>
  intro root d hn hr hb hs;rw[Up,bu];exact .inl ⟨(root:Int),((root*2+1:Nat):Int),true,cT (by
   simp (disch:=omega) only[rD,wG,un,Gk,eR,wrap64];rw[qk (by omega)];rfl)⟩
 | succ n ih=>
  intro root d hn hr hb hs;by_cases h1:2*root+1≥hi
  ·rw[Up,ak h1];exact .inl ⟨(root:Int),((root*2+1:Nat):Int),true,cT (by
    simp (disch:=omega) only[rD,wG,un,Gk,eR,wrap64];rw[qk (by omega)];rfl)⟩
  ·have go: ∀c:Nat,c<hi→root<c→(rD CC hi first ((root:Int),eA d)=
      if cG d[first+root]! d[first+c]! <0 then some (.inl ((c:Int),eA (swp d (first+root) (first+c)))) else some (.inr (.inr ((root:Int),(c:Int),true,eA d))))→
     siftDown aC hi first root d=(if cG d[first+root]! d[first+c]! <0 then siftDown aC hi first c (swp d (first+root) (first+c)) else d)→
     ((∃x y z,Loop (rD CC hi first) ((root:Int),eA d)=some (.inl (x,y,z,eA (siftDown aC hi first root d))))∨
     (∃x y z,Loop (rD CC hi first) ((root:Int),eA d)=some (.inr (x,y,z,eA (siftDown aC hi first root d))))):=by
    intro c hc hrc e1 e2;rw[e2];by_cases h3:cG d[first+root]! d[first+c]! <0
    ·rw[ak h3] at e1;rw[ak h3,eJ e1];exact ih c _ (by omega) (by omega) (by rw[size_swp];omega) (by rw[size_swp];omega)
    ·rw[aj h3] at e1;rw[aj h3,cT e1];exact .inr ⟨_,_,_,rfl⟩
   have e0:=Up hi first root d
   rw[aj h1] at e0;by_cases h2:2*root+2<hi
   ·rw[ak h2] at e0;by_cases h3:cG d[first+(2*root+1)]! d[first+(2*root+2)]! <0
    ·rw[ak h3] at e0;refine go (2*root+2) (by omega) (by omega) ?_ e0;rw[pG 2 root] at h3;simp (disch:=omega) only[rD,wG,un,Gk,eR,iz,wrap64];rw[bw,bO,bw,bu];simp (disch:=omega) only[yK,bw,jb,ja,ak,aj,wrap64,eR,iz,Int.toNat_natCast,Option.bind_some,iM,iN,gj,iy,j8,jm,jg,V.dJ,V.toInt_int,V.dS,cond_true,cond_false,pG 2 root,qk];by_cases h4:cG d[first+root]! d[first+(root*2+2)]! <0
     ·simp only[h4,ly];rfl
     ·simp only[h4,m7];rfl
    ·rw[aj h3] at e0;refine go (2*root+1) (by omega) (by omega) ?_ e0;rw[pG 2 root] at h3;simp (disch:=omega) only[rD,wG,un,Gk,eR,iz,wrap64];rw[bw,bO,bw,bu];simp (disch:=omega) only[yK,bw,jb,ja,ak,aj,wrap64,eR,iz,Int.toNat_natCast,Option.bind_some,iM,iN,gj,iy,j8,jm,jg,V.dJ,V.toInt_int,V.dS,cond_true,cond_false,pG 2 root,wF];by_cases h4:cG d[first+root]! d[first+(root*2+1)]! <0
     ·simp only[h4,ly];rfl
     ·simp only[h4,m7];rfl
   ·rw[aj h2] at e0;refine go (2*root+1) (by omega) (by omega) ?_ e0;simp (disch:=omega) only[rD,wG,un,Gk,eR,iz,wrap64];rw[bw,bO,bw,bO];simp (disch:=omega) only[yK,bw,jb,ja,ak,aj,wrap64,eR,iz,Int.toNat_natCast,Option.bind_some,iM,iN,gj,iy,j8,jm,jg,V.dJ,V.toInt_int,V.dS,cond_true,cond_false,pG 2 root];by_cases h4:cG d[first+root]! d[first+(root*2+1)]! <0
    ·simp only[h4,ly];rfl
    ·simp only[h4,m7];rfl
theorem adC {lo hi first:Nat} {d:Array Int} (hl:lo<1152921504606846976) (hb:first+hi≤d.size) (hs:d.size<1152921504606846976):
  CC Eh [.int .i64 (lo:Int),.int .i64 (hi:Int),.int .i64 (first:Int),.list ae (eA d)]=some [.list ae (eA (siftDown aC hi first lo d))]:=by
 refine apP ?_;unfold adw;rcases ap2 hi first _ lo d (az _) hl hb hs with ⟨x,y,z,h⟩|⟨x,y,z,h⟩
 ·rw[h];rfl
 ·rw[h];rfl
theorem adD {hi first:Nat}: ∀(k:Nat) (d:Array Int),k<1152921504606846976→first+hi≤d.size→d.size<1152921504606846976→
  ∃x y,Loop (ME CC first 0 hi) ((k:Int)-1,eA d)=some (x,y,eA (heapBuild aC hi first k d))
 | 0,d,hk,hb,hs=>⟨-1,false,cT (by
   simp (disch:=omega) only[ME,Gn,un,bw,aj];rfl)⟩
 | k+1,d,hk,hb,hs=>by
  obtain ⟨x,y,ih⟩:=adD (hi:=hi) (first:=first) k (siftDown aC hi first k d) (by omega) (by rw[Gl _ _ _ _ _ (az _)];omega) (by rw[Gl _ _ _ _ _ (az _)];omega);refine ⟨x,y,(eJ ?_).trans ih⟩;simp (disch:=omega) only[ME,Gn,un,bw,ak,yJ,adC,Option.bind_some,V.dJ,V.eo,wrap64]
theorem adE {first:Nat}: ∀(k:Nat) (d:Array Int),k<1152921504606846976→first+k≤d.size→d.size<1152921504606846976→
  ∃x y,Loop (MF CC first 0) ((k:Int)-1,eA d)=some (x,y,eA (heapPop aC first k d))
 | 0,d,hk,hb,hs=>⟨-1,false,cT (by
   simp (disch:=omega) only[MF,Gp,un,bw,aj];rfl)⟩
 | k+1,d,hk,hb,hs=>by
  obtain ⟨x,y,ih⟩:=adE (first:=first) k (siftDown aC k first 0 (swp d first (first+k))) (by omega) (by rw[Gl _ _ _ _ _ (az _),size_swp];omega) (by rw[Gl _ _ _ _ _ (az _),size_swp];omega);refine ⟨x,y,(eJ ?_).trans ih⟩;have nn:=adC (lo:=0) (hi:=k) (first:=first) (d:=swp d first (first+k)) (by omega) (by rw[size_swp];omega) (by rw[size_swp];omega);unfold swp at nn⊢;rw[show ((0:Nat):Int)=0 from rfl] at nn;simp (disch:=omega) only[MF,Gp,un,yJ,bw,jb,ja,ak,aj,wrap64,eR,iz,Int.toNat_natCast,Option.bind_some,iM,iN,gj,iy,j8,jm,jg,V.dJ,V.toInt_int,V.dS,cond_true,cond_false];rw[nn];simp (disch:=omega) only[Option.bind_some,V.dJ,V.eo,wrap64]
theorem ap3 {a b:Nat} {d:Array Int} (ik:a<b) (hb:b≤d.size) (hs:d.size<1152921504606846976):
  CC Ec [.int .i64 (a:Int),.int .i64 (b:Int),.list ae (eA d)]=some [.list ae (eA (heapSort aC d a b))]:=by
 refine apU ?_;unfold ady;obtain ⟨x,y,h1⟩:=adD (hi:=b-a) (first:=a) ((b-a-1)/2+1) d (by omega) (by omega) hs;obtain ⟨x2,y2,h2⟩:=adE (first:=a) (b-a) (heapBuild aC (b-a) a ((b-a-1)/2+1) d) (by omega) (by rw[Un];omega) (by rw[Un];omega);have e1:((((b-a-1)/2+1:Nat):Int)-1)=Int.tdiv (((b-a:Nat):Int)-1) 2:=by
  rw[Int.tdiv_eq_ediv_of_nonneg (by omega)];omega
 rw[e1] at h1;simp (disch:=omega) only[po,wrap64];rw[h1];simp only[Option.bind_some,un];rw[h2];rfl
theorem ap4: ∀(n i j:Nat) (d:Array Int),j-i≤n→j<d.size→d.size<1152921504606846976→
  ∃x y z,Loop (Gq CC) ((i:Int),(j:Int),eA d)=some (x,y,z,eA (reverseLoop i j d)):=by
 intro n
 induction n with
 | zero=>
  intro i j d hn hj hs;rw[reverseLoop,bO];exact ⟨(i:Int),(j:Int),false,cT (by
   simp (disch:=omega) only[Gq,Bs,un,wF,cond_false])⟩
 | succ n ih=>
  intro i j d hn hj hs;rw[reverseLoop];by_cases h:i<j
  ·rw[ak h];obtain ⟨x,y,z,h2⟩:=ih (i+1) (j-1) (swp d i j) (by omega) (by rw[size_swp];omega) (by rw[size_swp];omega);refine ⟨x,y,z,(eJ ?_).trans h2⟩;simp (disch:=omega) only[Gq,Bs,un,bw,jb,ja,ak,aj,wrap64,eR,iz,Int.toNat_natCast,Option.bind_some,iM,iN,gj,iy,j8,jm,jg,V.dJ,V.toInt_int,V.dS,cond_true,cond_false,mU];rfl
  ·rw[aj h];exact ⟨(i:Int),(j:Int),false,cT (by
    simp (disch:=omega) only[Gq,Bs,un,wF,cond_false])⟩
theorem ap5 {a b:Nat} {d:Array Int} (ik:a<b) (hb:b≤d.size) (hs:d.size<1152921504606846976):
  CC Kw [.int .i64 (a:Int),.int .i64 (b:Int),.list ae (eA d)]=some [.list ae (eA (reverseRange d a b))]:=by
 refine apY ?_;unfold adz;obtain ⟨x,y,z,h⟩:=ap4 _ a (b-1) d (az _) (by omega) hs;simp (disch:=omega) only[mU,wrap64];rw[h];rfl
end Go.AM.SO
set_option maxRecDepth 100000
namespace Go.AM
open Go.IntKind (wrap)
open Go.Proofs
noncomputable def Gr (C:af) (a j:Int) (an:LV) (i:Int) {β:Type} (kn:Int→Option β) (kr:(Int×Bool)→Option β):Option β:=
 bif decide (i≤j) then
  ar an i fun x5=>
  ar an a fun x6=>
  (C jC [V.int .i64 x5.toInt,V.int .i64 x6.toInt]).bind fun r7=>
  bif (V.nth r7 0).toBool then
  kn (wrap .i64 (i+1))
  else
  kr (i,(V.nth r7 0).toBool)
 else
  kr (i,false)
noncomputable def Gs (C:af) (a j:Int) (an:LV):=fun i=>Gr C a j an i (fun y=>some (Sum.inl y)) (fun r=>some (Sum.inr r))
noncomputable def Bt (C:af) (a i:Int) (an:LV) (j:Int) {β:Type} (kn:Int→Option β) (kr:(Int×Bool)→Option β):Option β:=
 bif decide (i≤j) then
  ar an j fun lY=>
  ar an a fun nJ=>
  (C jC [V.int .i64 lY.toInt,V.int .i64 nJ.toInt]).bind fun mb=>
  bif !((V.nth mb 0).toBool) then
  kn (wrap .i64 (j-1))
  else
  kr (j,!((V.nth mb 0).toBool))
 else
  kr (j,false)
noncomputable def Bu (C:af) (a i:Int) (an:LV):=fun j=>Bt C a i an j (fun y=>some (Sum.inl y)) (fun r=>some (Sum.inr r))
noncomputable def Gt (C:af) (a j:Int) (an:LV) (i:Int) {β:Type} (kn:Int→Option β) (kr:(Int×Bool)→Option β):Option β:=
 bif decide (i≤j) then
  ar an i fun pk=>
  ar an a fun lZ=>
  (C jC [V.int .i64 pk.toInt,V.int .i64 lZ.toInt]).bind fun Bc=>
  bif (V.nth Bc 0).toBool then
  kn (wrap .i64 (i+1))
  else
  kr (i,(V.nth Bc 0).toBool)
 else
  kr (i,false)
noncomputable def Gu (C:af) (a j:Int) (an:LV):=fun i=>Gt C a j an i (fun y=>some (Sum.inl y)) (fun r=>some (Sum.inr r))
noncomputable def Bv (C:af) (a i:Int) (an:LV) (j:Int) {β:Type} (kn:Int→Option β) (kr:(Int×Bool)→Option β):Option β:=
 bif decide (i≤j) then
  ar an j fun yM=>
  ar an a fun yN=>
  (C jC [V.int .i64 yM.toInt,V.int .i64 yN.toInt]).bind fun Bw=>
  bif !((V.nth Bw 0).toBool) then
  kn (wrap .i64 (j-1))
  else
  kr (j,!((V.nth Bw 0).toBool))
 else
  kr (j,false)
noncomputable def Bx (C:af) (a i:Int) (an:LV):=fun j=>Bv C a i an j (fun y=>some (Sum.inl y)) (fun r=>some (Sum.inr r))
noncomputable def Gv (C:af) (a i j:Int) (an:LV) {β:Type} (kn:(Int×Int×LV)→Option β) (kr:(Int×Int×Bool×LV)→Option β):Option β:=
 (Loop (Gu C a j an) i).bind (un fun (sP:Int) (LJ:Bool)=>
  (Loop (Bx C a sP an) j).bind (un fun (yO:Int) (ap6:Bool)=>
   bif decide (sP>yO) then
    kr (sP,yO,decide (sP>yO),an)
   else
    ar an yO fun x33=>
    ar an sP fun x34=>
    ar an sP fun x35=>
    ar (aE an sP (V.int .i64 x33.toInt)) yO fun x36=>
    kn (wrap .i64 (sP+1),wrap .i64 (yO-1),aE (aE an sP (V.int .i64 x33.toInt)) yO (V.int .i64 x34.toInt))))
noncomputable def By (C:af) (a:Int):=un fun i=>un fun j an=>Gv C a i j an (fun y=>some (Sum.inl y)) (fun r=>some (Sum.inr r))
noncomputable def Gw (C:af):cz:=bt 49 Su [EQ,H1,EQ,EQ] [[1,0,3,0,4]] (@Gr C) (bt 81 Sv [EQ,EQ,H1,EQ] [[1,2,0,0,4]] (@Bt C) (bt 209 Sw [EQ,H1,EQ,EQ] [[1,0,3,0,4]] (@Gt C) (bt 241 Sy [EQ,EQ,H1,EQ] [[1,2,0,0,4]] (@Bv C) (bt 210 Sz [EQ,H1,H1,H1] [[1,0,0,0,0]] (@Gv C) bB))))
theorem ap7 (C:af):bc C (Gw C) 96 (Lp [1,1,1,0,0,0] 96):=br Su [EQ,H1,EQ,EQ] [[1,0,3,0,4]] (@Gr C) (aR av)
theorem ap8 (C:af):bc C (Gw C) 96 (Lp [1,1,1,1,0,0,0] 96):=br Sv [EQ,EQ,H1,EQ] [[1,2,0,0,4]] (@Bt C) (aR av)
theorem ap9 (C:af):bc C (Gw C) 96 (Lp [1,1,1,1,1,1,1,1,1,0,0,0,0,0,0,0] 96):=br Sw [EQ,H1,EQ,EQ] [[1,0,3,0,4]] (@Gt C) (aR av)
theorem aqa (C:af):bc C (Gw C) 96 (Lp [1,1,1,1,1,1,1,1,1,0,0,0,0,1,0,0,0] 96):=br Sy [EQ,EQ,H1,EQ] [[1,2,0,0,4]] (@Bv C) (aR av)
theorem aqb (C:af):bc C (Gw C) 96 (Lp [1,1,1,1,1,1,1,1,1,0,0,0] 96):=br Sz [EQ,H1,H1,H1] [[1,0,0,0,0]] (@Gv C) (aR (ba (ap9 C) (ba (aqa C) av)))
noncomputable def adF (C:af) (a b' pivot:Int) (an:LV):Option LV:=
 ar an pivot fun x1=>
 ar an a fun x2=>
 ar an a fun x3=>
 ar (aE an a (V.int .i64 x1.toInt)) pivot fun x4=>
 (Loop (Gs C a (wrap .i64 (b'-1)) (aE (aE an a (V.int .i64 x1.toInt)) pivot (V.int .i64 x2.toInt))) (wrap .i64 (a+1))).bind (un fun (ln:Int) (mO:Bool)=>
  (Loop (Bu C a ln (aE (aE an a (V.int .i64 x1.toInt)) pivot (V.int .i64 x2.toInt))) (wrap .i64 (b'-1))).bind (un fun (lp:Int) (sX:Bool)=>
   bif decide (ln>lp) then
    ar (aE (aE an a (V.int .i64 x1.toInt)) pivot (V.int .i64 x2.toInt)) a fun rG=>
    ar (aE (aE an a (V.int .i64 x1.toInt)) pivot (V.int .i64 x2.toInt)) lp fun ql=>
    ar (aE (aE an a (V.int .i64 x1.toInt)) pivot (V.int .i64 x2.toInt)) lp fun rz=>
    ar (aE (aE (aE an a (V.int .i64 x1.toInt)) pivot (V.int .i64 x2.toInt)) lp (V.int .i64 rG.toInt)) a fun sY=>
    some [V.int .i64 lp,.bool true,.list ae (aE (aE (aE (aE an a (V.int .i64 x1.toInt)) pivot (V.int .i64 x2.toInt)) lp (V.int .i64 rG.toInt)) a (V.int .i64 ql.toInt))]
   else
    ar (aE (aE an a (V.int .i64 x1.toInt)) pivot (V.int .i64 x2.toInt)) lp fun oL=>
    ar (aE (aE an a (V.int .i64 x1.toInt)) pivot (V.int .i64 x2.toInt)) ln fun sZ=>
    ar (aE (aE an a (V.int .i64 x1.toInt)) pivot (V.int .i64 x2.toInt)) ln fun s0=>
    ar (aE (aE (aE an a (V.int .i64 x1.toInt)) pivot (V.int .i64 x2.toInt)) ln (V.int .i64 oL.toInt)) lp fun oK=>
    (Loop (By C a) (wrap .i64 (ln+1),wrap .i64 (lp-1),aE (aE (aE (aE an a (V.int .i64 x1.toInt)) pivot (V.int .i64 x2.toInt)) ln (V.int .i64 oL.toInt)) lp (V.int .i64 sZ.toInt))).bind (un fun auY=>un fun Gx=>un fun (auZ:Bool) (rH:LV)=>
     ar rH a fun Gy=>
     ar rH Gx fun LY=>
     ar rH Gx fun x43=>
     ar (aE rH Gx (V.int .i64 Gy.toInt)) a fun x44=>
     some [V.int .i64 Gx,.bool false,.list ae (aE (aE rH Gx (V.int .i64 Gy.toInt)) a (V.int .i64 LY.toInt))])))
theorem aqc {a b' pivot:Int} {an:LV} {r:Option LV} (h:adF CC a b' pivot an=r):CC qc [V.int .i64 a,V.int .i64 b',V.int .i64 pivot,.list ae an]=r:=bA (ba (ap7 CC) (ba (ap8 CC) (ba (aqb CC) av))) h
noncomputable def Gz (C:af) (a j:Int) (an:LV) (i:Int) {β:Type} (kn:Int→Option β) (kr:(Int×Bool)→Option β):Option β:=
 bif decide (i≤j) then
  ar an a fun x5=>
  ar an i fun x6=>
  (C jC [V.int .i64 x5.toInt,V.int .i64 x6.toInt]).bind fun r7=>
  bif !((V.nth r7 0).toBool) then
  kn (wrap .i64 (i+1))
  else
  kr (i,!((V.nth r7 0).toBool))
 else
  kr (i,false)
noncomputable def GA (C:af) (a j:Int) (an:LV):=fun i=>Gz C a j an i (fun y=>some (Sum.inl y)) (fun r=>some (Sum.inr r))
noncomputable def Bz (C:af) (a i:Int) (an:LV) (j:Int) {β:Type} (kn:Int→Option β) (kr:(Int×Bool)→Option β):Option β:=
 bif decide (i≤j) then
  ar an a fun lY=>
  ar an j fun nJ=>
  (C jC [V.int .i64 lY.toInt,V.int .i64 nJ.toInt]).bind fun mb=>
  bif (V.nth mb 0).toBool then
  kn (wrap .i64 (j-1))
  else
  kr (j,(V.nth mb 0).toBool)
 else
  kr (j,false)
noncomputable def BA (C:af) (a i:Int) (an:LV):=fun j=>Bz C a i an j (fun y=>some (Sum.inl y)) (fun r=>some (Sum.inr r))
noncomputable def GB (C:af) (a i j:Int) (an:LV) {β:Type} (kn:(Int×Int×LV)→Option β) (kr:(Int×Int×Bool×LV)→Option β):Option β:=
 (Loop (GA C a j an) i).bind (un fun (ln:Int) (mO:Bool)=>
  (Loop (BA C a ln an) j).bind (un fun (lp:Int) (sX:Bool)=>
   bif decide (ln>lp) then
    kr (ln,lp,decide (ln>lp),an)
   else
    ar an lp fun rG=>
    ar an ln fun ql=>
    ar an ln fun rz=>
    ar (aE an ln (V.int .i64 rG.toInt)) lp fun sY=>
    kn (wrap .i64 (ln+1),wrap .i64 (lp-1),aE (aE an ln (V.int .i64 rG.toInt)) lp (V.int .i64 ql.toInt))))
noncomputable def BB (C:af) (a:Int):=un fun i=>un fun j an=>GB C a i j an (fun y=>some (Sum.inl y)) (fun r=>some (Sum.inr r))
noncomputable def Uq (C:af):cz:=bt 49 Sq [EQ,H1,EQ,EQ] [[1,0,3,0,4]] (@Gz C) (bt 81 Sr [EQ,EQ,H1,EQ] [[1,2,0,0,4]] (@Bz C) (bt 50 Ss [EQ,H1,H1,H1] [[1,0,0,0,0]] (@GB C) bB))
theorem aqd (C:af):bc C (Uq C) 95 (Lp [1,1,1,0,0,0,0,0,0,0] 95):=br Sq [EQ,H1,EQ,EQ] [[1,0,3,0,4]] (@Gz C) (aR av)
theorem aqe (C:af):bc C (Uq C) 95 (Lp [1,1,1,0,0,0,0,1,0,0,0] 95):=br Sr [EQ,EQ,H1,EQ] [[1,2,0,0,4]] (@Bz C) (aR av)
theorem aqf (C:af):bc C (Uq C) 95 (Lp [1,1,1,0,0,0] 95):=br Ss [EQ,H1,H1,H1] [[1,0,0,0,0]] (@GB C) (aR (ba (aqd C) (ba (aqe C) av)))
noncomputable def adG (C:af) (a b' pivot:Int) (an:LV):Option LV:=
 ar an pivot fun x1=>
 ar an a fun x2=>
 ar an a fun x3=>
 ar (aE an a (V.int .i64 x1.toInt)) pivot fun x4=>
 (Loop (BB C a) (wrap .i64 (a+1),wrap .i64 (b'-1),aE (aE an a (V.int .i64 x1.toInt)) pivot (V.int .i64 x2.toInt))).bind (un fun aqg=>un fun au0=>un fun (apj:Bool) (aqh:LV)=>
  some [V.int .i64 aqg,.list ae aqh])
theorem aqi {a b' pivot:Int} {an:LV} {r:Option LV} (h:adG CC a b' pivot an=r):CC xU [V.int .i64 a,V.int .i64 b',V.int .i64 pivot,.list ae an]=r:=bA (ba (aqf CC) av) h
noncomputable def GC (C:af) (a b' j:Int) (an:LV) (i:Int) {β:Type} (kn:Int→Option β) (kr:(Int×Bool)→Option β):Option β:=
 bif decide (i<b') then
  ar an i fun x1=>
  ar an (wrap .i64 (i-1)) fun x2=>
  (C jC [V.int .i64 x1.toInt,V.int .i64 x2.toInt]).bind fun r3=>
  bif !((V.nth r3 0).toBool) then
  kn (wrap .i64 (i+1))
  else
  kr (i,!((V.nth r3 0).toBool))
 else
  kr (i,false)
noncomputable def GD (C:af) (a b' j:Int) (an:LV):=fun i=>GC C a b' j an i (fun y=>some (Sum.inl y)) (fun r=>some (Sum.inr r))
noncomputable def GF (C:af) (a b' i j j':Int) (an:LV) {β:Type} (kn:(Int×LV)→Option β) (kr:(Int×LV)→Option β):Option β:=
 bif decide (j'≥1) then
  ar an j' fun lY=>
  ar an (wrap .i64 (j'-1)) fun nJ=>
  (C jC [V.int .i64 lY.toInt,V.int .i64 nJ.toInt]).bind fun mb=>
  bif !((V.nth mb 0).toBool) then
  kr (j',an)
  else
  ar an (wrap .i64 (j'-1)) fun uU=>
  ar an j' fun Br=>
  ar an j' fun rG=>
  ar (aE an j' (V.int .i64 uU.toInt)) (wrap .i64 (j'-1)) fun ql=>
  kn (wrap .i64 (j'-1),aE (aE an j' (V.int .i64 uU.toInt)) (wrap .i64 (j'-1)) (V.int .i64 Br.toInt))
 else
  kr (j',an)
noncomputable def GG (C:af) (a b' i j:Int):=un fun j' an=>GF C a b' i j j' an (fun y=>some (Sum.inl y)) (fun r=>some (Sum.inr r))
noncomputable def MH (C:af) (a b' i j:Int) (t61:Bool) (an:LV) {β:Type} (kr:LV→Option β):Option β:=
 bif t61 then
  (Loop (GG C a b' i j) (wrap .i64 (i-1),an)).bind (un fun (au1:Int) (aqj:LV)=>
   kr aqj)
 else
  kr an
noncomputable def GH (C:af) (a b' i j j':Int) (an:LV) {β:Type} (kn:(Int×LV)→Option β) (kr:(Int×LV)→Option β):Option β:=
 bif decide (j'<b') then
  ar an j' fun sZ=>
  ar an (wrap .i64 (j'-1)) fun s0=>
  (C jC [V.int .i64 sZ.toInt,V.int .i64 s0.toInt]).bind fun mV=>
  bif !((V.nth mV 0).toBool) then
  kr (j',an)
  else
  ar an (wrap .i64 (j'-1)) fun pk=>
  ar an j' fun lZ=>
  ar an j' fun yP=>
  ar (aE an j' (V.int .i64 pk.toInt)) (wrap .i64 (j'-1)) fun Bb=>
  kn (wrap .i64 (j'+1),aE (aE an j' (V.int .i64 pk.toInt)) (wrap .i64 (j'-1)) (V.int .i64 lZ.toInt))
 else
  kr (j',an)
noncomputable def GI (C:af) (a b' i j:Int):=un fun j' an=>GH C a b' i j j' an (fun y=>some (Sum.inl y)) (fun r=>some (Sum.inr r))
noncomputable def GJ (C:af) (a b' i j:Int) (an:LV) {β:Type} (kn:(Int×Int×LV)→Option β) (kr:((Bool×LV) ⊕ (Int×Int×Bool×LV))→Option β):Option β:=
 bif decide (j<5) then
  (Loop (GD C a b' j an) i).bind (un fun (mc:Int) (oA:Bool)=>
   bif mc==b' then
   kr (.inl (true,an))
   else
   bif decide (((wrap .i64 (b'-a)):Int)<50) then
    kr (.inl (false,an))
   else
    ar an (wrap .i64 (mc-1)) fun x6=>
    ar an mc fun x7=>
    ar an mc fun x8=>
    ar (aE an mc (V.int .i64 x6.toInt)) (wrap .i64 (mc-1)) fun x9=>
    MH C a b' mc j (decide (((wrap .i64 (mc-a)):Int)≥2)) (aE (aE an mc (V.int .i64 x6.toInt)) (wrap .i64 (mc-1)) (V.int .i64 x7.toInt)) (fun (adH:LV)=>
     bif decide (((wrap .i64 (b'-mc)):Int)≥2) then
     (Loop (GI C a b' mc j) (wrap .i64 (mc+1),adH)).bind (un fun (au2:Int) (aqk:LV)=>
      kn (mc,wrap .i64 (j+1),aqk))
     else
     kn (mc,wrap .i64 (j+1),adH)))
 else
  kr (.inr (i,j,decide (j<5),an))
noncomputable def wI (C:af) (a b':Int):=un fun i=>un fun j an=>GJ C a b' i j an (fun y=>some (Sum.inl y)) (fun r=>some (Sum.inr r))
noncomputable def GK (C:af):cz:=bt 81 Sl [EQ,EQ,H1,EQ,EQ] [[1,2,0,4,0,5]] (@GC C) (bt 225 Sm [EQ,EQ,EQ,EQ,H1,H1] [[1,2,3,4,0,0]] (@GF C) (pb 991 Sn [[1,2,3,4,0]] (@MH C) (bt 321 So [EQ,EQ,EQ,EQ,H1,H1] [[1,2,3,4,0,0]] (@GH C) (bt 49 Sp [EQ,EQ,H1,H1,H1] [[0,0],[1,2,0,0,0,0]] (@GJ C) bB))))
theorem aql (C:af):bc C (GK C) 93 (Lp [1,1,0,1,0,0,1,0,0,0,0,0] 93):=br Sl [EQ,EQ,H1,EQ,EQ] [[1,2,0,4,0,5]] (@GC C) (aR av)
theorem aqm (C:af):bc C (GK C) 93 (Lp [1,1,0,1,0,0,1,0,0,1,1,1,1,0,1,0,1,0,0] 93):=br Sm [EQ,EQ,EQ,EQ,H1,H1] [[1,2,3,4,0,0]] (@GF C) (aR av)
theorem aqn (C:af):bc C (GK C) 93 (Cd 61 [1,1,0,1,0,0,1,0,0,1,1,1,1,0,1,0] [1,1,0,1,0,0,1,0,0,1,1,1,1,0,1,1] 93):=o9 Sn [[1,2,3,4,0]] (@MH C) (aR (ba (aqm C) av)) (aR av)
theorem aqo (C:af):bc C (GK C) 93 (Lp [1,1,0,1,0,0,1,0,0,1,1,1,1,1,1,0,1,0,0] 93):=br So [EQ,EQ,EQ,EQ,H1,H1] [[1,2,3,4,0,0]] (@GH C) (aR av)
theorem aqp (C:af):bc C (GK C) 93 (Lp [1,1,0,1,0,0] 93):=br Sp [EQ,EQ,H1,H1,H1] [[0,0],[1,2,0,0,0,0]] (@GJ C) (aR (ba (aql C) (ba (aqn C) (ba (aqo C) av))))
noncomputable def adI (C:af) (a b':Int) (an:LV):Option LV:=
 (Loop (wI C a b') (wrap .i64 (a+1),0,an)).bind (cP (un fun (adJ:Bool) (aqq:LV)=>
  some [.bool adJ,.list ae aqq]) (un fun au3=>un fun aqr=>un fun (MI:Bool) (aqs:LV)=>
  some [.bool false,.list ae aqs]))
theorem aqt {a b':Int} {an:LV} {r:Option LV} (h:adI CC a b' an=r):CC Kx [V.int .i64 a,V.int .i64 b',.list ae an]=r:=bA (ba (aqp CC) av) h
end Go.AM
set_option maxRecDepth 100000
set_option maxHeartbeats 4000000
namespace Go.AM.SO
open Go.IntKind (wrap)
open Go.Proofs Go.Sort
theorem MJ (d:Array Int) (b i:Nat):scanSorted aC d b i=if i<b then (if cG d[i]! d[i-1]! <0 then i else scanSorted aC d b (i+1)) else i:=by
 conv=>lhs;rw[scanSorted]
 by_cases h:i<b
 ·rw[ak h];simp only[h,y8,Cc,uV];by_cases h2:cG d[i]! d[i-1]! <0
  ·rw[aj (tp h2),ak h2]
  ·rw[ak h2,aj h2]
 ·rw[aj h,aj (by simp[h])]
theorem adK (j:Nat) (d:Array Int):shiftDown aC (j+1) d=if cG d[j+1]! d[j]! <0 then shiftDown aC j (swp d (j+1) j) else d:=by
 conv=>lhs;rw[shiftDown]
 simp only[uV];by_cases h2:cG d[j+1]! d[j]! <0
 ·rw[aj (tp h2),ak h2]
 ·rw[ak h2,aj h2]
theorem MK (b j:Nat) (d:Array Int):shiftUp aC b j d=if j<b then (if cG d[j]! d[j-1]! <0 then shiftUp aC b (j+1) (swp d j (j-1)) else d) else d:=by
 conv=>lhs;rw[shiftUp]
 simp only[uV];by_cases h:j<b
 ·rw[ak h,ak h];by_cases h2:cG d[j]! d[j-1]! <0
  ·rw[aj (tp h2),ak h2]
  ·rw[ak h2,aj h2]
 ·rw[aj h,aj h]
theorem aqu {a:Nat}: ∀(n i j:Nat) (d:Array Int),j+1-i≤n→(partLoop aC a i j d).2.size=d.size∧(partLoop aC a i j d).1≤j:=by
 intro n
 induction n with
 | zero=>
  intro i j d hn;have h1:=scanUp_ge (fun x=>aC x d[a]!) d j i;have h2:=scanDown_le (fun x=> !aC x d[a]!) d (scanUp (fun x=>aC x d[a]!) d j i) j;rw[partLoop_eq,bu];exact ⟨rfl,h2⟩
 | succ n ih=>
  intro i j d hn;rw[partLoop_eq];have h1:=scanUp_ge (fun x=>aC x d[a]!) d j i;have h2:=scanDown_le (fun x=> !aC x d[a]!) d (scanUp (fun x=>aC x d[a]!) d j i) j;split
  ·exact ⟨rfl,h2⟩
  ·obtain ⟨h3,h4⟩:=ih (scanUp (fun x=>aC x d[a]!) d j i+1) (scanDown (fun x=> !aC x d[a]!) d (scanUp (fun x=>aC x d[a]!) d j i) j-1) (swp d (scanUp (fun x=>aC x d[a]!) d j i) (scanDown (fun x=> !aC x d[a]!) d (scanUp (fun x=>aC x d[a]!) d j i) j)) (by omega);exact ⟨by rw[h3,size_swp],by omega⟩
theorem mW {β:Type} {d:Array Int} {i:Nat} {f:V→Option β} (h:i<d.size:=by omega):ar (eA d) (i:Int) f=f (rF (d[i]!)):=by
 unfold ar;rw[iM,jb,bw,bu,bw,bu,Int.toNat_natCast,iN h];rfl
theorem aqv {a j:Nat} {d:Array Int} (ha:a<d.size) (hj:j<d.size) (hs:d.size<1152921504606846976): ∀(n i:Nat),j+1-i=n→i≤d.size→
  ∃t,Loop (Gs CC a j (eA d)) (i:Int)=some (((scanUp (fun x=>aC x d[a]!) d j i:Nat):Int),t):=by
 intro n
 induction n with
 | zero=>
  intro i hn hi;rw[Bm,bO];exact ⟨false,cT (by simp (disch:=omega) only[Gs,Gr,bw,aj])⟩
 | succ n ih=>
  intro i hn hi;obtain ⟨t,h⟩:=ih (i+1) (by omega) (by omega);rw[Bm,bu];have e:Gs CC a j (eA d) (i:Int)=if cG d[i]! d[a]! <0 then some (.inl ((i+1:Nat):Int)) else some (.inr ((i:Int),decide (cG d[i]! d[a]! <0))):=by
   simp (disch:=omega) only[Gs,Gr,bw,jb,ja,ak,aj,wrap64,eR,iz,Int.toNat_natCast,Option.bind_some,iM,iN,gj,iy,j8,jm,jg,V.dJ,V.toInt_int,V.dS,cond_true,cond_false]
  simp only[wH];by_cases h2:cG d[i]! d[a]! <0
  ·rw[ak h2] at e;rw[ak h2];exact ⟨t,(eJ e).trans h⟩
  ·rw[aj h2] at e;rw[aj h2];exact ⟨_,cT e⟩
theorem adL {a j:Nat} {d:Array Int} (ha:a<d.size) (hj:j<d.size) (hs:d.size<1152921504606846976): ∀(n i:Nat),j+1-i=n→i≤d.size→
  ∃t,Loop (Gu CC a j (eA d)) (i:Int)=some (((scanUp (fun x=>aC x d[a]!) d j i:Nat):Int),t):=by
 intro n
 induction n with
 | zero=>
  intro i hn hi;rw[Bm,bO];exact ⟨false,cT (by simp (disch:=omega) only[Gu,Gt,bw,aj])⟩
 | succ n ih=>
  intro i hn hi;obtain ⟨t,h⟩:=ih (i+1) (by omega) (by omega);rw[Bm,bu];have e:Gu CC a j (eA d) (i:Int)=if cG d[i]! d[a]! <0 then some (.inl ((i+1:Nat):Int)) else some (.inr ((i:Int),decide (cG d[i]! d[a]! <0))):=by
   simp (disch:=omega) only[Gu,Gt,bw,jb,ja,ak,aj,wrap64,eR,iz,Int.toNat_natCast,Option.bind_some,iM,iN,gj,iy,j8,jm,jg,V.dJ,V.toInt_int,V.dS,cond_true,cond_false]
  simp only[wH];by_cases h2:cG d[i]! d[a]! <0
  ·rw[ak h2] at e;rw[ak h2];exact ⟨t,(eJ e).trans h⟩
  ·rw[aj h2] at e;rw[aj h2];exact ⟨_,cT e⟩
theorem adM {a i:Nat} {d:Array Int} (ha:a<d.size) (hi:1≤i) (hs:d.size<1152921504606846976): ∀(j:Nat),j<d.size→
  ∃t,Loop (Bu CC a i (eA d)) (j:Int)=some (((scanDown (fun x=> !aC x d[a]!) d i j:Nat):Int),t)
 | 0,hj=>⟨false,cT (by simp (disch:=omega) only[Bu,Bt,bw,aj];rfl)⟩
 | j+1,hj=>by
  obtain ⟨t,h⟩:=adM ha hi hs j (by omega);rw[Ul];by_cases h1:i≤j+1
  ·rw[ak h1];have e:Bu CC a i (eA d) ((j+1:Nat):Int)=if cG d[j+1]! d[a]! <0 then some (.inr (((j+1:Nat):Int),!decide (cG d[j+1]! d[a]! <0))) else some (.inl (j:Int)):=by
    simp (disch:=omega) only[Bu,Bt,bw,jb,ja,ak,aj,wrap64,eR,iz,Int.toNat_natCast,Option.bind_some,iM,iN,gj,iy,j8,jm,jg,V.dJ,V.toInt_int,V.dS,cond_true,cond_false,yJ]
   simp only[uV];by_cases h2:cG d[j+1]! d[a]! <0
   ·rw[ak h2] at e;rw[aj (tp h2)];exact ⟨_,cT e⟩
   ·rw[aj h2] at e;rw[ak h2];exact ⟨t,(eJ e).trans h⟩
  ·rw[aj h1];exact ⟨false,cT (by simp (disch:=omega) only[Bu,Bt,bw,aj])⟩
theorem Ur {a i:Nat} {d:Array Int} (ha:a<d.size) (hi:1≤i) (hs:d.size<1152921504606846976): ∀(j:Nat),j<d.size→
  ∃t,Loop (Bx CC a i (eA d)) (j:Int)=some (((scanDown (fun x=> !aC x d[a]!) d i j:Nat):Int),t)
 | 0,hj=>⟨false,cT (by simp (disch:=omega) only[Bx,Bv,bw,aj];rfl)⟩
 | j+1,hj=>by
  obtain ⟨t,h⟩:=Ur ha hi hs j (by omega);rw[Ul];by_cases h1:i≤j+1
  ·rw[ak h1];have e:Bx CC a i (eA d) ((j+1:Nat):Int)=if cG d[j+1]! d[a]! <0 then some (.inr (((j+1:Nat):Int),!decide (cG d[j+1]! d[a]! <0))) else some (.inl (j:Int)):=by
    simp (disch:=omega) only[Bx,Bv,bw,jb,ja,ak,aj,wrap64,eR,iz,Int.toNat_natCast,Option.bind_some,iM,iN,gj,iy,j8,jm,jg,V.dJ,V.toInt_int,V.dS,cond_true,cond_false,yJ]
   simp only[uV];by_cases h2:cG d[j+1]! d[a]! <0
   ·rw[ak h2] at e;rw[aj (tp h2)];exact ⟨_,cT e⟩
   ·rw[aj h2] at e;rw[ak h2];exact ⟨t,(eJ e).trans h⟩
  ·rw[aj h1];exact ⟨false,cT (by simp (disch:=omega) only[Bx,Bv,bw,aj])⟩
theorem adN {a j:Nat} {d:Array Int} (ha:a<d.size) (hj:j<d.size) (hs:d.size<1152921504606846976): ∀(n i:Nat),j+1-i=n→i≤d.size→
  ∃t,Loop (GA CC a j (eA d)) (i:Int)=some (((scanUp (fun x=> !aC d[a]! x) d j i:Nat):Int),t):=by
 intro n
 induction n with
 | zero=>
  intro i hn hi;rw[Bm,bO];exact ⟨false,cT (by simp (disch:=omega) only[GA,Gz,bw,aj])⟩
 | succ n ih=>
  intro i hn hi;obtain ⟨t,h⟩:=ih (i+1) (by omega) (by omega);rw[Bm,bu];have e:GA CC a j (eA d) (i:Int)=if cG d[a]! d[i]! <0 then some (.inr ((i:Int),!decide (cG d[a]! d[i]! <0))) else some (.inl ((i+1:Nat):Int)):=by
   simp (disch:=omega) only[GA,Gz,bw,jb,ja,ak,aj,wrap64,eR,iz,Int.toNat_natCast,Option.bind_some,iM,iN,gj,iy,j8,jm,jg,V.dJ,V.toInt_int,V.dS,cond_true,cond_false]
  simp only[uV];by_cases h2:cG d[a]! d[i]! <0
  ·rw[ak h2] at e;rw[aj (tp h2)];exact ⟨_,cT e⟩
  ·rw[aj h2] at e;rw[ak h2];exact ⟨t,(eJ e).trans h⟩
theorem Us {a i:Nat} {d:Array Int} (ha:a<d.size) (hi:1≤i) (hs:d.size<1152921504606846976): ∀(j:Nat),j<d.size→
  ∃t,Loop (BA CC a i (eA d)) (j:Int)=some (((scanDown (fun x=>aC d[a]! x) d i j:Nat):Int),t)
 | 0,hj=>⟨false,cT (by simp (disch:=omega) only[BA,Bz,bw,aj];rfl)⟩
 | j+1,hj=>by
  obtain ⟨t,h⟩:=Us ha hi hs j (by omega);rw[Ul];by_cases h1:i≤j+1
  ·rw[ak h1];have e:BA CC a i (eA d) ((j+1:Nat):Int)=if cG d[a]! d[j+1]! <0 then some (.inl (j:Int)) else some (.inr (((j+1:Nat):Int),decide (cG d[a]! d[j+1]! <0))):=by
    simp (disch:=omega) only[BA,Bz,bw,jb,ja,ak,aj,wrap64,eR,iz,Int.toNat_natCast,Option.bind_some,iM,iN,gj,iy,j8,jm,jg,V.dJ,V.toInt_int,V.dS,cond_true,cond_false,yJ]
   simp only[wH];by_cases h2:cG d[a]! d[j+1]! <0
   ·rw[ak h2] at e;rw[ak h2];exact ⟨t,(eJ e).trans h⟩
   ·rw[aj h2] at e;rw[aj h2];exact ⟨_,cT e⟩
  ·rw[aj h1];exact ⟨false,cT (by simp (disch:=omega) only[BA,Bz,bw,aj])⟩
theorem aqw {a:Nat}: ∀(n i j:Nat) (d:Array Int),j+1-i≤n→1≤i→i≤d.size→a<d.size→j<d.size→d.size<1152921504606846976→
  ∃x z,Loop (By CC a) ((i:Int),(j:Int),eA d)=some (x,(((partLoop aC a i j d).1:Nat):Int),z,eA (partLoop aC a i j d).2):=by
 intro n
 induction n with
 | zero=>
  intro i j d hn h1 h2 ha hj hs;obtain ⟨t3,e3⟩:=adL (a:=a) ha hj hs _ i rfl h2;have g1:=scanUp_ge (fun x=>aC x d[a]!) d j i;have g2:=scanDown_le (fun x=> !aC x d[a]!) d (scanUp (fun x=>aC x d[a]!) d j i) j;obtain ⟨t4,e4⟩:=Ur (a:=a) (i:=scanUp (fun x=>aC x d[a]!) d j i) ha (by omega) hs j hj;rw[partLoop_eq,bu];refine ⟨((scanUp (fun x=>aC x d[a]!) d j i:Nat):Int),true,cT ?_⟩;simp only[By,Gv,un];rw[e3];simp only[Option.bind_some,un];rw[e4];simp (disch:=omega) only[Option.bind_some,un,qk,cond_true]
 | succ n ih=>
  intro i j d hn h1 h2 ha hj hs;obtain ⟨t3,e3⟩:=adL (a:=a) ha hj hs _ i rfl h2;have g1:=scanUp_ge (fun x=>aC x d[a]!) d j i;have g2:=scanDown_le (fun x=> !aC x d[a]!) d (scanUp (fun x=>aC x d[a]!) d j i) j;obtain ⟨t4,e4⟩:=Ur (a:=a) (i:=scanUp (fun x=>aC x d[a]!) d j i) ha (by omega) hs j hj;rw[partLoop_eq];have f:By CC a ((i:Int),(j:Int),eA d)=By CC a ((i:Int),(j:Int),eA d):=rfl
  conv at f=>rhs;simp only[By,Gv,un];rw[e3];simp only[Option.bind_some,un];rw[e4];simp only[Option.bind_some,un]
  generalize tX:scanUp (fun x=>aC x d[a]!) d j i=i2 at*
  generalize dj:scanDown (fun x=> !aC x d[a]!) d i2 j=j2 at*
  by_cases h:i2>j2
  ·rw[ak h];refine ⟨(i2:Int),true,cT (f.trans ?_)⟩;simp (disch:=omega) only[Option.bind_some,qk,cond_true]
  ·rw[aj h];obtain ⟨x,z,e⟩:=ih (i2+1) (j2-1) (swp d i2 j2) (by omega) (by omega) (by rw[size_swp];omega) (by rw[size_swp];omega) (by rw[size_swp];omega) (by rw[size_swp];omega);refine ⟨x,z,(eJ (f.trans ?_)).trans e⟩;simp (disch:=omega) only[bw,jb,ja,ak,aj,wrap64,eR,iz,Int.toNat_natCast,Option.bind_some,iM,iN,gj,iy,j8,jm,jg,V.dJ,V.toInt_int,V.dS,cond_true,cond_false,mU];rfl
theorem aqx (d:Array Int) (a b pivot:Nat):partition aC d a b pivot=
  if scanUp (fun x=>aC x (swp d a pivot)[a]!) (swp d a pivot) (b-1) (a+1)>scanDown (fun x=> !aC x (swp d a pivot)[a]!) (swp d a pivot) (scanUp (fun x=>aC x (swp d a pivot)[a]!) (swp d a pivot) (b-1) (a+1)) (b-1) then
   (scanDown (fun x=> !aC x (swp d a pivot)[a]!) (swp d a pivot) (scanUp (fun x=>aC x (swp d a pivot)[a]!) (swp d a pivot) (b-1) (a+1)) (b-1),true,swp (swp d a pivot) (scanDown (fun x=> !aC x (swp d a pivot)[a]!) (swp d a pivot) (scanUp (fun x=>aC x (swp d a pivot)[a]!) (swp d a pivot) (b-1) (a+1)) (b-1)) a)
  else
   ((partLoop aC a (scanUp (fun x=>aC x (swp d a pivot)[a]!) (swp d a pivot) (b-1) (a+1)+1) (scanDown (fun x=> !aC x (swp d a pivot)[a]!) (swp d a pivot) (scanUp (fun x=>aC x (swp d a pivot)[a]!) (swp d a pivot) (b-1) (a+1)) (b-1)-1) (swp (swp d a pivot) (scanUp (fun x=>aC x (swp d a pivot)[a]!) (swp d a pivot) (b-1) (a+1)) (scanDown (fun x=> !aC x (swp d a pivot)[a]!) (swp d a pivot) (scanUp (fun x=>aC x (swp d a pivot)[a]!) (swp d a pivot) (b-1) (a+1)) (b-1)))).1,false,
    swp (partLoop aC a (scanUp (fun x=>aC x (swp d a pivot)[a]!) (swp d a pivot) (b-1) (a+1)+1) (scanDown (fun x=> !aC x (swp d a pivot)[a]!) (swp d a pivot) (scanUp (fun x=>aC x (swp d a pivot)[a]!) (swp d a pivot) (b-1) (a+1)) (b-1)-1) (swp (swp d a pivot) (scanUp (fun x=>aC x (swp d a pivot)[a]!) (swp d a pivot) (b-1) (a+1)) (scanDown (fun x=> !aC x (swp d a pivot)[a]!) (swp d a pivot) (scanUp (fun x=>aC x (swp d a pivot)[a]!) (swp d a pivot) (b-1) (a+1)) (b-1)))).2
    (partLoop aC a (scanUp (fun x=>aC x (swp d a pivot)[a]!) (swp d a pivot) (b-1) (a+1)+1) (scanDown (fun x=> !aC x (swp d a pivot)[a]!) (swp d a pivot) (scanUp (fun x=>aC x (swp d a pivot)[a]!) (swp d a pivot) (b-1) (a+1)) (b-1)-1) (swp (swp d a pivot) (scanUp (fun x=>aC x (swp d a pivot)[a]!) (swp d a pivot) (b-1) (a+1)) (scanDown (fun x=> !aC x (swp d a pivot)[a]!) (swp d a pivot) (scanUp (fun x=>aC x (swp d a pivot)[a]!) (swp d a pivot) (b-1) (a+1)) (b-1)))).1 a):=rfl
theorem BC (d:Array Int) (i j:Nat):eA ((d.setIfInBounds i d[j]!).setIfInBounds j d[i]!)=eA (swp d i j):=rfl
theorem aqy {a b pivot:Nat} {d:Array Int} (hp:pivot<b) (ik:a<b) (hb:b≤d.size) (hs:d.size<1152921504606846976):
  CC qc [.int .i64 (a:Int),.int .i64 (b:Int),.int .i64 (pivot:Int),.list ae (eA d)]=
   some [.int .i64 ((partition aC d a b pivot).1:Int),.bool (partition aC d a b pivot).2.1,.list ae (eA (partition aC d a b pivot).2.2)]:=by
 refine aqc ?_;unfold adF;have z1:(swp d a pivot).size=d.size:=size_swp ..;obtain ⟨t1,e1⟩:=aqv (a:=a) (j:=b-1) (d:=swp d a pivot) (by omega) (by omega) (by omega) _ (a+1) rfl (by omega);have g1:=scanUp_ge (fun x=>aC x (swp d a pivot)[a]!) (swp d a pivot) (b-1) (a+1);have g2:=scanDown_le (fun x=> !aC x (swp d a pivot)[a]!) (swp d a pivot) (scanUp (fun x=>aC x (swp d a pivot)[a]!) (swp d a pivot) (b-1) (a+1)) (b-1);obtain ⟨t2,e2⟩:=adM (a:=a) (i:=scanUp (fun x=>aC x (swp d a pivot)[a]!) (swp d a pivot) (b-1) (a+1)) (d:=swp d a pivot) (by omega) (by omega) (by omega) (b-1) (by omega);have e0:=aqx d a b pivot;rw[mW (i:=pivot),mW (i:=a),mW (i:=a),MG (i:=pivot)];simp only[gj,Int.toNat_natCast,iy,BC];simp (disch:=omega) only[mU,eR,wrap64];rw[e1];simp only[Option.bind_some,un];rw[e2];simp only[Option.bind_some,un];generalize tX:scanUp (fun x=>aC x (swp d a pivot)[a]!) (swp d a pivot) (b-1) (a+1)=i2 at*
 generalize dj:scanDown (fun x=> !aC x (swp d a pivot)[a]!) (swp d a pivot) i2 (b-1)=j2 at*
 generalize swp d a pivot=d1 at*
 by_cases h:i2>j2
 ·rw[ak h] at e0;rw[e0,bw,bu];rw[mW (i:=a),mW (i:=j2)];rw[mW (i:=j2),MG (i:=a)];simp only[gj,Int.toNat_natCast,iy,BC]
 ·rw[aj h] at e0;rw[e0,bw,bO];have z2:(swp d1 i2 j2).size=d1.size:=size_swp ..;obtain ⟨x,z,e5⟩:=aqw (a:=a) _ (i2+1) (j2-1) (swp d1 i2 j2) (az _) (by omega) (by omega) (by omega) (by omega) (by omega);obtain ⟨q1,q2⟩:=aqu (a:=a) _ (i2+1) (j2-1) (swp d1 i2 j2) (az _);rw[mW (i:=j2),mW (i:=i2)];rw[mW (i:=i2),MG (i:=j2)];simp only[gj,Int.toNat_natCast,iy,BC];simp (disch:=omega) only[mU,eR,wrap64];rw[e5];generalize partLoop aC a (i2+1) (j2-1) (swp d1 i2 j2)=r at*
  simp only[Option.bind_some,un];rw[mW (i:=a),mW (i:=r.1)];rw[mW (i:=r.1),MG (i:=a)];simp only[gj,Int.toNat_natCast,iy,BC]
theorem aqz {a:Nat}: ∀(n i j:Nat) (d:Array Int),j+1-i≤n→1≤i→i≤d.size→a<d.size→j<d.size→d.size<1152921504606846976→
  ∃x z,Loop (BB CC a) ((i:Int),(j:Int),eA d)=some ((((partEqLoop aC a i j d).1:Nat):Int),x,z,eA (partEqLoop aC a i j d).2):=by
 intro n
 induction n with
 | zero=>
  intro i j d hn h1 h2 ha hj hs;obtain ⟨t3,e3⟩:=adN (a:=a) ha hj hs _ i rfl h2;have g1:=scanUp_ge (fun x=> !aC d[a]! x) d j i;have g2:=scanDown_le (fun x=>aC d[a]! x) d (scanUp (fun x=> !aC d[a]! x) d j i) j;obtain ⟨t4,e4⟩:=Us (a:=a) (i:=scanUp (fun x=> !aC d[a]! x) d j i) ha (by omega) hs j hj;rw[partEqLoop_eq,bu];refine ⟨((scanDown (fun x=>aC d[a]! x) d (scanUp (fun x=> !aC d[a]! x) d j i) j:Nat):Int),true,cT ?_⟩;simp only[BB,GB,un];rw[e3];simp only[Option.bind_some,un];rw[e4];simp (disch:=omega) only[Option.bind_some,un,qk,cond_true]
 | succ n ih=>
  intro i j d hn h1 h2 ha hj hs;obtain ⟨t3,e3⟩:=adN (a:=a) ha hj hs _ i rfl h2;have g1:=scanUp_ge (fun x=> !aC d[a]! x) d j i;have g2:=scanDown_le (fun x=>aC d[a]! x) d (scanUp (fun x=> !aC d[a]! x) d j i) j;obtain ⟨t4,e4⟩:=Us (a:=a) (i:=scanUp (fun x=> !aC d[a]! x) d j i) ha (by omega) hs j hj;rw[partEqLoop_eq];have f:BB CC a ((i:Int),(j:Int),eA d)=BB CC a ((i:Int),(j:Int),eA d):=rfl
  conv at f=>rhs;simp only[BB,GB,un];rw[e3];simp only[Option.bind_some,un];rw[e4];simp only[Option.bind_some,un]
  generalize tX:scanUp (fun x=> !aC d[a]! x) d j i=i2 at*
  generalize dj:scanDown (fun x=>aC d[a]! x) d i2 j=j2 at*
  by_cases h:i2>j2
  ·rw[ak h];refine ⟨(j2:Int),true,cT (f.trans ?_)⟩;simp (disch:=omega) only[Option.bind_some,qk,cond_true]
  ·rw[aj h];obtain ⟨x,z,e⟩:=ih (i2+1) (j2-1) (swp d i2 j2) (by omega) (by omega) (by rw[size_swp];omega) (by rw[size_swp];omega) (by rw[size_swp];omega) (by rw[size_swp];omega);refine ⟨x,z,(eJ (f.trans ?_)).trans e⟩;simp (disch:=omega) only[bw,jb,ja,ak,aj,wrap64,eR,iz,Int.toNat_natCast,Option.bind_some,iM,iN,gj,iy,j8,jm,jg,V.dJ,V.toInt_int,V.dS,cond_true,cond_false,mU];rfl
theorem aqA {a b pivot:Nat} {d:Array Int} (hp:pivot<b) (ik:a<b) (hb:b≤d.size) (hs:d.size<1152921504606846976):
  CC xU [.int .i64 (a:Int),.int .i64 (b:Int),.int .i64 (pivot:Int),.list ae (eA d)]=
   some [.int .i64 ((partitionEqual aC d a b pivot).1:Int),.list ae (eA (partitionEqual aC d a b pivot).2)]:=by
 refine aqi ?_;unfold adG;have z1:(swp d a pivot).size=d.size:=size_swp ..;obtain ⟨x,z,e⟩:=aqz (a:=a) _ (a+1) (b-1) (swp d a pivot) (az _) (by omega) (by omega) (by omega) (by omega) (by omega);simp (disch:=omega) only[bw,jb,ak,iM,iN,Int.toNat_natCast,Option.bind_some,gj,iy,j8,jm,mU,eR,wrap64,BC];rw[e];rfl
theorem aqB {a b j:Nat} {d:Array Int} (hb:b≤d.size) (hs:d.size<1152921504606846976): ∀(n i:Nat),b-i=n→1≤i→i≤b→
  ∃t,Loop (GD CC a b j (eA d)) (i:Int)=some (((scanSorted aC d b i:Nat):Int),t):=by
 intro n
 induction n with
 | zero=>
  intro i hn h1 hi;rw[MJ,bO];exact ⟨false,cT (by simp (disch:=omega) only[GD,GC,bw,aj])⟩
 | succ n ih=>
  intro i hn h1 hi;obtain ⟨t,h⟩:=ih (i+1) (by omega) (by omega) (by omega);rw[MJ,bu];have e:GD CC a b j (eA d) (i:Int)=if cG d[i]! d[i-1]! <0 then some (.inr ((i:Int),!decide (cG d[i]! d[i-1]! <0))) else some (.inl ((i+1:Nat):Int)):=by
   simp (disch:=omega) only[GD,GC,mU,bw,jb,ja,ak,aj,wrap64,eR,iz,Int.toNat_natCast,Option.bind_some,iM,iN,gj,iy,j8,jm,jg,V.dJ,V.toInt_int,V.dS,cond_true,cond_false]
  by_cases h2:cG d[i]! d[i-1]! <0
  ·rw[ak h2] at e⊢;exact ⟨_,cT e⟩
  ·rw[aj h2] at e⊢;exact ⟨t,(eJ e).trans h⟩
theorem adO: ∀(j:Nat) (d:Array Int),(shiftDown aC j d).size=d.size
 | 0,_=>rfl
 | j+1,d=>by
  rw[adK];split
  ·rw[adO j,size_swp]
  ·rfl
theorem aqC {b:Nat}: ∀(n j:Nat) (d:Array Int),b-j=n→(shiftUp aC b j d).size=d.size:=by
 intro n
 induction n with
 | zero=>intro j d h;rw[MK,bO]
 | succ n ih=>
  intro j d h;rw[MK,bu];split
  ·rw[ih _ _ (by omega),size_swp]
  ·rfl
theorem adP {a b i k:Nat}: ∀(j:Nat) (d:Array Int),j<d.size→d.size<1152921504606846976→
  ∃t,Loop (GG CC a b i k) ((j:Int),eA d)=some (t,eA (shiftDown aC j d))
 | 0,d,hj,hs=>⟨(0:Nat),cT (by
   simp (disch:=omega) only[GG,GF,un,bw,aj];rfl)⟩
 | j+1,d,hj,hs=>by
  obtain ⟨t,ih⟩:=adP (a:=a) (b:=b) (i:=i) (k:=k) j (swp d (j+1) j) (by rw[size_swp];omega) (by rw[size_swp];omega);rw[adK];have e:GG CC a b i k (((j+1:Nat):Int),eA d)=if cG d[j+1]! d[j]! <0 then some (.inl ((j:Int),eA (swp d (j+1) j))) else some (.inr (((j+1:Nat):Int),eA d)):=by
   simp (disch:=omega) only[GG,GF,un,bw,jb,ja,ak,aj,wrap64,eR,iz,Int.toNat_natCast,Option.bind_some,iM,iN,gj,iy,j8,jm,jg,V.dJ,V.toInt_int,V.dS,cond_true,cond_false,yJ];rfl
  by_cases h2:cG d[j+1]! d[j]! <0
  ·rw[ak h2] at e⊢;exact ⟨t,(eJ e).trans ih⟩
  ·rw[aj h2] at e⊢;exact ⟨_,cT e⟩
theorem aqD {a b i k:Nat}: ∀(n j:Nat) (d:Array Int),b-j=n→1≤j→j≤b→b≤d.size→d.size<1152921504606846976→
  ∃t,Loop (GI CC a b i k) ((j:Int),eA d)=some (t,eA (shiftUp aC b j d)):=by
 intro n
 induction n with
 | zero=>
  intro j d hn h1 hj hb hs;rw[MK,bO];exact ⟨(j:Int),cT (by
   simp (disch:=omega) only[GI,GH,un,bw,aj])⟩
 | succ n ih=>
  intro j d hn h1 hj hb hs;obtain ⟨t,h⟩:=ih (j+1) (swp d j (j-1)) (by omega) (by omega) (by omega) (by rw[size_swp];omega) (by rw[size_swp];omega);rw[MK,bu];have e:GI CC a b i k ((j:Int),eA d)=if cG d[j]! d[j-1]! <0 then some (.inl (((j+1:Nat):Int),eA (swp d j (j-1)))) else some (.inr ((j:Int),eA d)):=by
   simp (disch:=omega) only[GI,GH,un,mU,bw,jb,ja,ak,aj,wrap64,eR,iz,Int.toNat_natCast,Option.bind_some,iM,iN,gj,iy,j8,jm,jg,V.dJ,V.toInt_int,V.dS,cond_true,cond_false];rfl
  by_cases h2:cG d[j]! d[j-1]! <0
  ·rw[ak h2] at e⊢;exact ⟨t,(eJ e).trans h⟩
  ·rw[aj h2] at e⊢;exact ⟨_,cT e⟩
theorem aqE {d:Array Int} {b:Nat}: ∀(n i:Nat),b-i=n→i≤b→i≤scanSorted aC d b i∧scanSorted aC d b i≤b:=by
 intro n
 induction n with
 | zero=>intro i hn hi;rw[MJ,bO];omega
 | succ n ih=>
  intro i hn hi;rw[MJ,bu];obtain ⟨h1,h2⟩:=ih (i+1) (by omega) (by omega);split<;>omega
theorem aqF {a b:Nat}: ∀(s i:Nat) (d:Array Int),s≤5→a<i→i≤b→b≤d.size→d.size<1152921504606846976→
  (Loop (wI CC a b) ((i:Int),((5-s:Nat):Int),eA d)=some (.inl ((partialIns aC a b s i d).2,eA (partialIns aC a b s i d).1)))∨
  (∃x y z,(partialIns aC a b s i d).2=false∧Loop (wI CC a b) ((i:Int),((5-s:Nat):Int),eA d)=some (.inr (x,y,z,eA (partialIns aC a b s i d).1))):=by
 intro s
 induction s with
 | zero=>
  intro i d hs5 hi Ut hb hs;refine .inr ⟨(i:Int),((5:Nat):Int),false,rfl,cT ?_⟩;simp (disch:=omega) only[wI,GJ,un,wF,cond_false];rfl
 | succ s ih=>
  intro i d hs5 hi Ut hb hs;obtain ⟨t1,e1⟩:=aqB (a:=a) (j:=5-(s+1)) hb hs _ i rfl (by omega) Ut;obtain ⟨q1,q2⟩:=aqE (d:=d) _ i rfl Ut;rw[partialIns_succ];have f:wI CC a b ((i:Int),((5-(s+1):Nat):Int),eA d)=wI CC a b ((i:Int),((5-(s+1):Nat):Int),eA d):=rfl
  conv at f=>rhs;simp only[wI,GJ,un];rw[bw,bu,e1];simp only[Option.bind_some,un]
  generalize scanSorted aC d b i=k at*
  by_cases h1:k=b
  ·rw[ak h1];left;refine cT (f.trans ?_);rw[vX,bu]
  ·rw[aj h1];by_cases h2:b-a<50
   ·rw[ak h2];left;refine cT (f.trans ?_);rw[vX,bO,gG,bw,bu]
   ·rw[aj h2];have z1:(swp d k (k-1)).size=d.size:=size_swp ..;have z2:(fixDown aC a k (swp d k (k-1))).size=d.size:=by
     unfold fixDown;split
     ·rw[adO,z1]
     ·exact z1
    have z3:(fixUp aC b k (fixDown aC a k (swp d k (k-1)))).size=d.size:=by
     unfold fixUp;split
     ·rw[aqC _ _ _ rfl,z2]
     ·exact z2
    obtain ⟨t2,e2⟩:=adP (a:=a) (b:=b) (i:=k) (k:=5-(s+1)) (k-1) (swp d k (k-1)) (by omega) (by omega);obtain ⟨t4,e4⟩:=aqD (a:=a) (b:=b) (i:=k) (k:=5-(s+1)) _ (k+1) (fixDown aC a k (swp d k (k-1))) rfl (by omega) (by omega) (by omega) (by omega);have e5:wI CC a b ((i:Int),((5-(s+1):Nat):Int),eA d)=some (.inl ((k:Int),((5-s:Nat):Int),eA (fixUp aC b k (fixDown aC a k (swp d k (k-1)))))):=by
     refine f.trans ?_;rw[vX,bO,gG,bw,bO];simp (disch:=omega) only[bw,jb,ak,iM,iN,Int.toNat_natCast,Option.bind_some,gj,iy,j8,jm,mU,eR,po,wrap64,BC,MH];rw[show 5-(s+1)+1=5-s by omega];unfold fixDown at e4⊢;unfold fixUp;have c1:(((k-a:Nat):Int)≥2)=(k-a≥2):=propext (by omega);have c2:(((b-k:Nat):Int)≥2)=(b-k≥2):=propext (by omega);simp only[c1,c2];by_cases g1:k-a≥2
     ·by_cases g2:b-k≥2
      ·simp only[g1,g2,ly,e2,Option.bind_some,un] at e4⊢;rw[e4];rfl
      ·simp only[g1,g2,ly,m7,e2,Option.bind_some,un]
     ·by_cases g2:b-k≥2
      ·simp only[g1,g2,ly,m7] at e4⊢;rw[e4];rfl
      ·exact absurd (show b-k≥2 by omega) g2
    rw[eJ e5];exact ih k _ (by omega) (by omega) (by omega) (by omega) (by omega)
theorem adQ {a b:Nat} {d:Array Int} (ik:a<b) (hb:b≤d.size) (hs:d.size<1152921504606846976):
  CC Kx [.int .i64 (a:Int),.int .i64 (b:Int),.list ae (eA d)]=
   some [.bool (partialInsertionSort aC d a b).2,.list ae (eA (partialInsertionSort aC d a b).1)]:=by
 refine aqt ?_;unfold adI;simp (disch:=omega) only[eR,wrap64];rcases aqF (a:=a) (b:=b) 5 (a+1) d (az _) (by omega) (by omega) hb hs with h|⟨x,y,z,h0,h⟩
 ·rw[show ((5-5:Nat):Int)=0 from rfl] at h;rw[h];rfl
 ·rw[show ((5-5:Nat):Int)=0 from rfl] at h;rw[h];unfold partialInsertionSort;rw[h0];rfl
end Go.AM.SO
