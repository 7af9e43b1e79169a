/-
  Functions of the program, lifted to plain data.
-/
import Derived.Test.YtpfiomngchimkaaGreatDoorP8
set_option linter.unusedVariables false
set_option linter.unusedSimpArgs false
set_option linter.unusedSectionVars false
set_option maxRecDepth 100000
namespace Go.AM
open Go.Proofs
theorem aIr{j q:Nat}(h:2^j*(2*q+1)<2^64):
  wU ((bU ((2^j*(2*q+1):Nat):Int)&&&bU (wU (((2^j*(2*q+1):Nat):Int)-1))).toNat)=((2^j*(2*q):Nat):Int):=by
 have lp:0<2^j*(2*q+1):=Nat.mul_pos (uT zS) zO;have hp:((2^j*(2*q+1):Nat):Int)-1=((2^j*(2*q+1)-1:Nat):Int):=zO;rw[hp,sY (A:=2^j*(2*q+1)-1) zO,u64_and h zO,aoP]
theorem aIs{k j:Nat}(hk:k<=100)(hj:j<64):wI ((wI ((k:Int)*2^(min (6:Int).toNat kI)))+(j:Int))=((64*k+j:Nat):Int):=by
 have e:(2^(min (6:Int).toNat kI):Int)=64:=by rfl
 rw[e,wrap64 (x:=(k:Int)*64) zO zO,dk];omega
theorem aIt{j q:Nat}:¬((2^j*(2*q+1):Nat):Int)=0:=by
 have lp:0<2^j*(2*q+1):=Nat.mul_pos (uT zS) zO;omega
theorem aIu{A:Type}{S k:Nat}{step:(Int×A)->Option ((Int×A)⊕(Int×Bool×A))}{P:Nat->A->Prop}
  (h1:∀(j q:Nat) a,j<64->2^j*(2*q+1)<2^64->S.testBit (64*k+j)=true->P (64*k+j) a->∃a',step (((2^j*(2*q+1):Nat):Int),a)=some (.inl (((2^j*(2*q):Nat):Int),a'))∧P (64*k+j+1) a')
  (h2:∀i a,S.testBit i=false->P i a->P (i+1) a)
  (h0:∀a,step (0,a)=some (.inr (0,false,a))):
  ∀d j,j+d=64->∀(p:Nat) a,p<2^64->(∀t,t<64->p.testBit t=(decide (j<=t)&&S.testBit (64*k+t)))->P (64*k+j) a->∃a',Loop step ((p:Int),a)=some (0,false,a')∧P (64*k+64) a':=by
 intro d
 induction d with
 |zero=>
  intro j hj p a hp hb hP;have hj:j=64:=zO;subst hj;have:p=0:=aqD hp zO fun t ht=>by
   rw[hb t ht];have:¬64<=t:=zO
   simp[this]
  subst this;exact⟨a,dg (h0 a),hP⟩
 |succ d ih=>
  intro j hj p a hp hb hP;have OY:=hb j zO;rw[bQ (aC j),uX]at OY;cases hc:S.testBit (64*k+j)with
  |false=>
   refine ih (j+1) zO p a hp (fun t ht=>?_) (h2 _ _ hc hP);rw[hb t ht];by_cases e:t=j
   .subst e;have e4:¬t+1<=t:=zO
    simp[hc,e4]
   .have:(j<=t)↔(j+1<=t):=zO;simp[this]
  |true=>
   rw[hc]at OY;have cw:p≠0:=by rintro rfl;simp at OY
   obtain⟨j',q,uJ⟩:=aoO p cw;have e:j'=j:=by
    have h3:j'<64:=by rw[uJ]at hp;exact(OA hp).1
    have h4:p.testBit j'=true:=by rw[uJ,Em];simp
    rw[hb j' h3]at h4;have h5:j<=j':=by simp at h4;exact h4.1
    rw[uJ,Em]at OY;simp at OY;omega
   subst e;subst uJ;obtain⟨a',cv,OZ⟩:=h1 j' q a zO hp hc hP;rw[fg cv];have bt:2^j'*(2*q)<2^j'*(2*q+1):=Nat.mul_lt_mul_of_pos_left zO (uT zS);refine ih (j'+1) zO _ a' zO (fun t ht=>?_) OZ;have:=hb t ht;rw[Em]at this;rw[aec];by_cases e1:t=j'
   .subst e1;have e4:¬t+1<=t:=zO
    simp[e4]
   .by_cases e2:j'<t
    .have e3:j'+1<=t:=zO;have e4:j'<=t:=zO;simpa[e1,e2,e3,e4]using this
    .have e3:¬j'+1<=t:=zO;simp[e2,e3]
theorem aIv{A:Type}{S m:Nat}(hm:m<=100){outer:(Int×A)->Option ((Int×A)⊕(Int×Bool×A))}{inner:Nat->(Int×A)->Option ((Int×A)⊕(Int×Bool×A))}{P:Nat->A->Prop}
  (ho:∀(k:Nat) a a',k<m->Loop (inner k) (((wd S k:Nat):Int),a)=some (0,false,a')->outer ((k:Int),a)=some (.inl (((k+1:Nat):Int),a')))
  (he:∀a,outer ((m:Int),a)=some (.inr ((m:Int),false,a)))
  (h1:∀(k j q:Nat) a,k<m->j<64->2^j*(2*q+1)<2^64->S.testBit (64*k+j)=true->P (64*k+j) a->∃a',inner k (((2^j*(2*q+1):Nat):Int),a)=some (.inl (((2^j*(2*q):Nat):Int),a'))∧P (64*k+j+1) a')
  (h2:∀i a,S.testBit i=false->P i a->P (i+1) a)
  (h0:∀k a,inner k (0,a)=some (.inr (0,false,a))) (a0:A) (hP:P 0 a0):
  ∃a',Loop outer (0,a0)=some ((m:Int),false,a')∧P (64*m) a':=by
 have go:∀d k,k+d=m->∀a,P (64*k) a->∃a',Loop outer ((k:Int),a)=some ((m:Int),false,a')∧P (64*m) a':=by
  intro d
  induction d with
  |zero=>
   intro k hk a hP;have hk:k=m:=zO;subst hk;exact⟨a,dg (he a),hP⟩
  |succ d ih=>
   intro k hk a hP;obtain⟨a',hl,OZ⟩:=aIu (S:=S) (k:=k) (P:=P) (fun j q a hj hq hb hp=>h1 k j q a zO hj hq hb hp) h2 (h0 k) 64 0 zO (wd S k) a me (fun t ht=>by rw[uQ];simp[ht]) hP;rw[fg (ho k a a' zO hl)];exact ih (k+1) zO a' (by rw[show 64*(k+1)=64*k+64 by omega];exact OZ)
 exact go m 0 zO a0 hP
noncomputable def O0{A:Type}(v:Int->A->Option LV)(d:LV->A)(k:Int)(s:Int×A):Option ((Int×A)⊕(Int×Bool×A)):=
 bif(s.1:Int) !=0 then
  (CC 77 [.int .u64 s.1]).bind fun r2=>
  (v (wI ((wI (k*2^(min (6:Int).toNat kI)))+(gI r2))) s.2).bind fun r3=>
  some (.inl (wU ((bU s.1&&&bU (wU (s.1-1))).toNat),d r3))
 else some (.inr (s.1,(s.1:Int) !=0,s.2))
noncomputable def O1{A:Type}(v:Int->A->Option LV)(d:LV->A)(l:LV)(n:Int)(s:Int×A):Option ((Int×A)⊕(Int×Bool×A)):=
 bif decide ((s.1:Int)<n)then
  (idx l s.1).bind fun x1=>(Loop (O0 v d s.1) (x1.toInt,s.2)).bind fun r=>some (.inl (wI (s.1+1),r.2.2))
 else some (.inr (s.1,decide ((s.1:Int)<n),s.2))
def EG{A:Type}(v:Int->A->Option LV)(o:LV->A->Option LV)(e:A->LV):Prop:=∀(m F:Nat),m<=100->∀P:Nat->A->Prop,
 (∀(i:Nat) (a:A),i<64*m->F.testBit i=true->P i a->∃a',v (i:Int) a=some (e a')∧P (i+1) a')->(∀i a,F.testBit i=false->P i a->P (i+1) a)->
  ∀a,P 0 a->∃a',o (fZ m F) a=some (e a')∧P (64*m) a'
theorem HL{A:Type}{v:Int->A->Option LV}{o:LV->A->Option LV}{e:A->LV}(d:LV->A)(hd:∀a,d (e a)=a)(ho:∀l a,o l a=(Loop (O1 v d l (l.length:Int)) (0,a)).bind fun r=>some (e r.2.2)):EG v o e:=by
 intro m F hm P hv h2 a hP;suffices h:∃a',Loop (O1 v d (fZ m F) (m:Int)) (0,a)=some ((m:Int),false,a')∧P (64*m) a' by
  obtain⟨a',hl,OZ⟩:=h;refine⟨a',?_,OZ⟩;rw[ho,EC,hl];rfl
 refine aIv (S:=F) (m:=m) hm (outer:=O1 v d (fZ m F) (m:Int)) (inner:=fun k=>O0 v d (k:Int)) (P:=P) (fun k a a' hk hl=>?_) (fun a=>?_) (fun k j q a hk hj hq hb hp=>?_) h2 (fun k a=>?_) a hP
 .replace hl:Loop (O0 v d (k:Int)) (((wd F k:Nat):Int),a)=_:=hl;unfold O1;refine bT (bQ (by simp only;omega)) (bs (by rw[C7,BO hk]) ?_);rw[V.toInt_int,hl,Option.bind_some,wrap64 (by simp only;omega) (by simp only;omega)];rfl
 .unfold O1;refine bF (bX (by simp only;omega)) ?_;rw[bX (by simp only;omega)]
 .obtain⟨a',hc,hp'⟩:=hv (64*k+j) a zO hb hp;refine⟨a',?_,hp'⟩;show O0 v d (k:Int) _=_;unfold O0;refine bT (by simp only[bne_iff_ne];exact aIt) (bs (aoR hq) ?_);simp only[V.bj,V.toInt_int,gI];rw[aIs zO hj,hc,Option.bind_some,hd,aIr hq]
 .rfl
abbrev aIw:Nat:=53
theorem aIx:EG (A:=(List UInt8)×Int×Int×(LV)×(LV)) (fun i a=>CC 54 [.int .i64 i,.str a.1,.int .i64 a.2.1,.int .i64 a.2.2.1,.list 34 a.2.2.2.1,.list 74 a.2.2.2.2]) (fun s a=>CC aIw [.list 63 s,.str a.1,.int .i64 a.2.1,.int .i64 a.2.2.1,.list 34 a.2.2.2.1,.list 74 a.2.2.2.2]) fun a=>[.str a.1,.int .i64 a.2.1,.int .i64 a.2.2.1,.list 34 a.2.2.2.1,.list 74 a.2.2.2.2]:=
 HL (fun r=>((V.nth r 0).toStr,(V.nth (r.drop 1) 0).toInt,(V.nth ((r.drop 1).drop 1) 0).toInt,(V.nth (((r.drop 1).drop 1).drop 1) 0).toList,(V.nth ((r.drop 1).drop 3) 0).toList)) (fun _=>rfl) fun _ _=>aBX rfl
abbrev aIy:Nat:=YF
theorem aIz:EG (A:=(List UInt8)×Int×(LV)) (fun i a=>CC 76 [.int .i64 i,.str a.1,.int .i64 a.2.1,.list 74 a.2.2]) (fun s a=>CC aIy [.list 63 s,.str a.1,.int .i64 a.2.1,.list 74 a.2.2]) fun a=>[.str a.1,.int .i64 a.2.1,.list 74 a.2.2]:=
 HL (fun r=>((V.nth r 0).toStr,(V.nth (r.drop 1) 0).toInt,(V.nth ((r.drop 1).drop 1) 0).toList)) (fun _=>rfl) fun _ _=>aB3 rfl
abbrev aqK:Nat:=YG
theorem aIA:EG (A:=Int×Int×(LV)×(LV)×(LV)) (fun i a=>CC 75 [.int .i64 i,.int .i64 a.1,.int .i64 a.2.1,.list 34 a.2.2.1,.list 74 a.2.2.2.1,.list 74 a.2.2.2.2]) (fun s a=>CC aqK [.list 63 s,.int .i64 a.1,.int .i64 a.2.1,.list 34 a.2.2.1,.list 74 a.2.2.2.1,.list 74 a.2.2.2.2]) fun a=>[.int .i64 a.1,.int .i64 a.2.1,.list 34 a.2.2.1,.list 74 a.2.2.2.1,.list 74 a.2.2.2.2]:=
 HL (fun r=>((V.nth r 0).toInt,(V.nth (r.drop 1) 0).toInt,(V.nth ((r.drop 1).drop 1) 0).toList,(V.nth (r.drop 3) 0).toList,(V.nth ((r.drop 3).drop 1) 0).toList)) (fun _=>rfl) fun _ _=>aB9 rfl
abbrev aqL:Nat:=YH
theorem aIB:EG (A:=(LV)×(LV)) (fun i a=>CC 68 [.int .i64 i,.list 63 a.2,.list 74 a.1]) (fun s a=>CC aqL [.list 63 s,.list 63 a.2,.list 74 a.1]) fun a=>[.list 74 a.1,.list 63 a.2]:=
 HL (fun r=>((V.nth r 0).toList,(V.nth (r.drop 1) 0).toList)) (fun _=>rfl) fun _ _=>aCf rfl
abbrev aqM:Nat:=Si
theorem aIC:EG (A:=(List UInt8)×Bool×(LV)×(LV)) (fun i a=>CC 71 [.int .i64 i,.str a.1,.bool a.2.1,.list 74 a.2.2.1,.list 74 a.2.2.2]) (fun s a=>CC aqM [.list 63 s,.str a.1,.bool a.2.1,.list 74 a.2.2.1,.list 74 a.2.2.2]) fun a=>[.str a.1,.bool a.2.1,.list 74 a.2.2.1,.list 74 a.2.2.2]:=
 HL (fun r=>((V.nth r 0).toStr,(V.nth (r.drop 1) 0).toBool,(V.nth ((r.drop 1).drop 1) 0).toList,(V.nth (((r.drop 1).drop 1).drop 1) 0).toList)) (fun _=>rfl) fun _ _=>aCl rfl
abbrev aID:Nat:=YI
theorem aIE:EG (A:=Bool×(LV)×(LV)) (fun i a=>CC 72 [.int .i64 i,.bool a.1,.list 63 a.2.2,.list 74 a.2.1]) (fun s a=>CC aID [.list 63 s,.bool a.1,.list 63 a.2.2,.list 74 a.2.1]) fun a=>[.bool a.1,.list 74 a.2.1,.list 63 a.2.2]:=
 HL (fun r=>((V.nth r 0).toBool,(V.nth (r.drop 1) 0).toList,(V.nth ((r.drop 1).drop 1) 0).toList)) (fun _=>rfl) fun _ _=>aCs rfl
def mW(w:List UInt8):Nat:=w.length/64+1
abbrev oS(w:List UInt8)(S:Nat):V:=bn (fZ (mW w) S)
abbrev oV(w:List UInt8)(R:Nat->Option Nat):V:=dB (Rows (mW w) (w.length+1) R)
theorem yh{w:List UInt8}(h:w.length<=2048):mW w<=100:=by unfold mW;omega
theorem EH{w:List UInt8}{i:Nat}(h:i<=w.length):i/64<mW w:=by unfold mW;omega
theorem ae7{w:List UInt8}:w.length<64*mW w:=by unfold mW;omega
theorem HM{w:List UInt8}(h:w.length<=2048):CC 26 [.str w]=some [oS w 0]:=aIm h
def base(w:List UInt8)(o l:Int)(i:Nat):Nat:=if o=2 then 2^i else if o=3∧i<w.length∧jK w i=l then 2^(i+1)else 0
theorem aIF{w:List UInt8}{o l:Int}{ks:LV}{R:Nat->Option Nat}{i:Nat}(hw:w.length<=2048)(hl:∀i,i<w.length->0<=jK w i)(hi:i<=w.length):
  CC 54 [vI i,.str w,vI o,vI l,cM ks,oV w R]=some [.str w,vI o,vI l,cM ks,oV w (lH R i (base w o l i))]:=by
 refine aCv ?_;unfold ang;rw[HM hw];simp only[Option.bind_some,V.bj,V.dD,dZ,aF,Int.toNat_natCast,tE,sy (show i<w.length+1 by omega),HK,gL,gB];rw[aU,aU];unfold Uu base;by_cases h2:o=2
 .have e:(o==2)=true:=by simp[h2]
  rw[e,ai h2];simp only[cond_true,tE,dZ,aF,Int.toNat_natCast,sy (show i<w.length+1 by omega),Option.bind_some];rw[aU,aU,aqJ (EH hi) zO zO ae5];simp only[Option.bind_some,V.bj,V.dD,aqI,Nat.zero_or,gL,gB]
 .have e:(o==2)=false:=by simp[h2]
  rw[e,af h2];simp only[cond_false,kb,aF];by_cases h3:o=3
  .rw[ai h3];by_cases h4:i<w.length
   .rw[aU,<-aF,On h4];simp only[Option.bind_some,V.toInt_int];rw[UL (hl i h4),wrap64 (by have:=hl i h4;omega) (by have:=@an3 w i;omega)];by_cases h5:jK w i=l
    .rw[ai h5,ai ⟨h3,h4,h5⟩];simp only[tE,dZ,aF,Int.toNat_natCast,sy (show i<w.length+1 by omega),Option.bind_some];rw[aU,aU,dk];have:=aqJ (m:=mW w) (N:=w.length+1) (i:=i) (j:=i+1) (S:=0) (R:=lH R i 0) (EH zO) zO zO ae5;rw[Int.natCast_add]at this;refine(congrArg (fun o=>Option.bind o _) this).trans ?_;simp only[Option.bind_some,V.bj,V.dD,aqI,Nat.zero_or,gL,gB]
    .rw[af h5,af (fun h=>h5 h.2.2)]
   .rw[cl,af (fun h=>h4 h.2.1)]
  .rw[af h3,af (fun h=>h3 h.1)]
theorem aIG{w:List UInt8}{R:Nat->Option Nat}{i S M:Nat}(hw:w.length<=2048)(hi:i<=w.length)(hR:R i=some S)(hS:∀j,j<i->S.testBit j=false):
  CC 68 [vI i,oS w M,oV w R]=some [oV w R,oS w (M|||S)]:=by
 refine aCz ?_;unfold ani;simp only[dZ,aF,Int.toNat_natCast,tE,sy (show i<w.length+1 by omega),BQ (show i<w.length+1 by omega) hR,Option.bind_some,V.dD];rw[aU,aU,aqG (yh hw) (EH hi) hS];simp only[Option.bind_some,V.bj,V.dD,gL,gB]
theorem aIH{w:List UInt8}{R:Nat->Option Nat}{j O S:Nat}{b:Bool}(hw:w.length<=2048)(hj:j<=w.length)(hR:R j=some S)(hS:∀t,t<j->S.testBit t=false):
  CC 72 [vI j,.bool b,oS w O,oV w R]=some [.bool b,oV w R,oS w (if b=true∧O.testBit j=true then O else O|||S)]:=by
 refine aCB ?_;unfold ank;rw[aqF (EH hj) zO];simp only[Option.bind_some,V.bj,V.iM,kB,dZ,aF,Int.toNat_natCast,tE,sy (show j<w.length+1 by omega),BQ (show j<w.length+1 by omega) hR,V.dD,aqG (yh hw) (EH hj) hS,gL,gB];rw[aU,aU];cases b<;>cases h:O.testBit j<;>simp
theorem ae8{m N i:Nat}{R:Nat->Option Nat}{x:V}(h:i<N):((Rows m N R).set i x)[i]?=some x:=by
 rw[yp];simp[tE,h]
theorem aII{m N i:Nat}{R:Nat->Option Nat}{l:LV}(h:i<N):ej Tryz.prog 74 ((Rows m N R).set i (bn l)) [(i,0)]=some (bn l):=by
 simp only[ej,ae8 h,Option.bind_some,VK];rfl
theorem aIJ{m N i:Nat}{R:Nat->Option Nat}{l l':LV}(h:i<N):setRow Tryz.prog l' 74 ((Rows m N R).set i (bn l)) [(i,0)]=(Rows m N R).set i (bn l'):=by
 simp only[setRow,ae8 h,VK];simp only[List.getElem?_cons_zero,List.set_cons_zero,dW,ae6,cond_false,V.bj,List.set_set,gL,gB]
theorem aIK{m N i S:Nat}{R:Nat->Option Nat}(hR:R i=some S):Rows m N R=(Rows m N R).set i (bn (fZ m S)):=by
 rw[HK];congr 1;funext j;unfold lH;split
 .rename_i h;rw[h,hR]
 .rfl
def tF(o:Int)(a b:Nat):Nat:=if o=4 then a|||b else a&&&b
theorem aIL{o:Int}{a b n:Nat}(ha:a<2^n)(hb:b<2^n):tF o a b<2^n:=by
 unfold tF;split
 .exact qt ha hb
 .exact uS B6 ha
theorem ae9{o:Int}{a b j:Nat}:(tF o a b).testBit j=if o=4 then(a.testBit j||b.testBit j)else(a.testBit j&&b.testBit j):=by
 unfold tF;split
 .rw[rh]
 .rw[Ai]
theorem aIM{w:List UInt8}{R R2:Nat->Option Nat}{i S T:Nat}{o l:Int}{ks:LV}(hw:w.length<=2048)(hi:i<=w.length)(hR:R i=some S)(hT:R2 i=some T):
  CC 75 [vI i,vI o,vI l,cM ks,oV w R,oV w R2]=some [vI o,vI l,cM ks,oV w (lH R i (tF o S T)),oV w R2]:=by
 refine aCy ?_;unfold anh aj;have hN:i<w.length+1:=zO;have hm:=yh hw;simp only[dZ,aF,Int.toNat_natCast,tE,sy hN,BQ hN hR,Option.bind_some,V.dD,EC];rw[aU,aU]
 let g:Nat->Nat->Nat:=fun b k=>if k<b then tF o (wd S k) (wd T k)else wd S k
 have hg:∀b k,g b k<2^64:=fun b k=>by
  show(if k<b then _ else _)<_;split
  .exact aIL me me
  .exact me
 have go:∀d b,b+d=mW w->Loop (NK CC (i:Int) (mW w:Int) o l ks (Rows (mW w) (w.length+1) R2)) ((b:Int),(Rows (mW w) (w.length+1) R).set i (bn (fY (mW w) (g b))))=some ((mW w:Int),false,(Rows (mW w) (w.length+1) R).set i (bn (fY (mW w) (g (mW w))))):=by
  intro d
  induction d with
  |zero=>
   intro b hb;have hb:b=mW w:=zO;subst hb;refine dg ?_;simp only[NK,NJ,un,aj,az];rw[aF,cl,Ak]
  |succ d ih=>
   intro b hb;have HN:b<mW w:=zO;have cv:NK CC (i:Int) (mW w:Int) o l ks (Rows (mW w) (w.length+1) R2) ((b:Int),(Rows (mW w) (w.length+1) R).set i (bn (fY (mW w) (g b))))=some (.inl (((b+1:Nat):Int),(Rows (mW w) (w.length+1) R).set i (bn (fY (mW w) (g (b+1)))))):=by
    simp only[NK,NJ,un,aj,az];simp only[dZ,aF,kb,Int.toNat_natCast,yo,tE,ae8 hN,aII hN,Option.bind_some,V.dD,V.toInt_int,EB,ED HN,sy hN,BQ hN hT,EC,BO HN,aIJ hN];have e1:g b b=wd S b:=by simp[g]
    have e2:fY (mW w) (fun j=>if j=b then tF o (wd S b) (wd T b)else g b j)=fY (mW w) (g (b+1)):=by
     refine BP fun k _=>?_;show(if k=b then tF o (wd S b) (wd T b)else if k<b then tF o (wd S k) (wd T k)else wd S k)=if k<b+1 then tF o (wd S k) (wd T k)else wd S k
     by_cases h1:k=b
     .subst h1;rw[ai rfl,aU]
     .rw[af h1];by_cases h2:k<b
      .rw[ai h2,aU]
      .rw[af h2,cl]
    have t1:(b:Int)<(mW w:Int):=zO;have t2:(0:Int)<=(i:Int):=zO;have t3:(i:Int)<((w.length+1:Nat):Int):=zO;have t4:(0:Int)<=(b:Int):=zO;simp only[t1,t2,t3,t4,jZ];rw[e1,u64_or me me,u64_and me me,EE,EE,dk];by_cases h4:o=4
    .rw[ai h4];unfold tF at e2;simp only[h4,jZ]at e2;rw[e2];rfl
    .rw[af h4];unfold tF at e2;simp only[h4,mE]at e2;rw[e2];rfl
   rw[fg cv];exact ih (b+1) zO
 have e0:Rows (mW w) (w.length+1) R=(Rows (mW w) (w.length+1) R).set i (bn (fY (mW w) (g 0))):=by
  have:fY (mW w) (g 0)=fZ (mW w) S:=BP fun k _=>by show(if k<0 then _ else _)=_;rw[cl]
  rw[this];exact aIK hR
 have e1:fY (mW w) (g (mW w))=fZ (mW w) (tF o S T):=by
  refine VJ (fun k _=>hg _ _) fun k hk j hj=>?_;show(if k<mW w then _ else _:Nat).testBit j=_;rw[ai hk,ae9,ae9,uQ,uQ];simp[hj]
 have hl:=go (mW w) 0 zO;rw[<-e0,e1,HK]at hl;refine(congrArg (fun o=>Option.bind o _) hl).trans ?_;simp[un]
def full:Nat:=2^64-1
theorem afa{j:Nat}:full.testBit j=decide (j<64):=by unfold full;rw[Ib]
theorem aIN{A:Nat}(hA:A<2^64):wU (bU 18446744073709551615^^^bU (A:Int)).toNat=((full^^^A:Nat):Int):=by
 have e:(18446744073709551615:Int)=((full:Nat):Int):=by unfold full;rfl
 have hf:full<2^64:=by unfold full;omega
 rw[e,BitVec.toNat_xor,FT (n:=kU) (A:=full) hf,FT (n:=kU) (A:=A) hA];exact sY (Nat.xor_lt_two_pow hf hA)
def z0(s:Nat):Nat:=full*2^s%2^64
def O2(s:Nat):Nat:=full/2^s
theorem aIO{s:Nat}:z0 s<2^64:=yq _ (by decide)
theorem aIP{s:Nat}:O2 s<2^64:=uS (Nat.div_le_self _ _) (by unfold full;omega)
theorem aIQ{s j:Nat}(hj:j<64):(z0 s).testBit j=decide (s<=j):=by
 unfold z0;rw[Nat.testBit_mod_two_pow,oU,Nat.testBit_two_pow_mul,afa];by_cases h:s<=j
 .have h2:j-s<64:=zO;simp[h,hj,h2]
 .simp[h]
theorem aIR{s j:Nat}:(O2 s).testBit j=decide (j+s<64):=by
 unfold O2;rw[Nat.testBit_div_two_pow,afa]
theorem aIS{s:Nat}(h:s<64):wU (18446744073709551615*2^(min s kU))=((z0 s:Nat):Int):=by
 have e:min s kU=s:=BZ (by show s<=64;omega);rw[e,wU,wrap_u64];unfold z0 full;rw[Int.natCast_emod,Int.natCast_mul,Int.natCast_pow];rfl
theorem aIT{s:Nat}(h:s<64):Int.fdiv 18446744073709551615 (2^(min s kU))=((O2 s:Nat):Int):=by
 have:=FU (A:=full) (m:=s) h;exact this
def VL(i n S:Nat):Nat:=(((2^(n+1)-1) ^^^ (S&&&(2^(n+1)-1))) >>> i)<<< i
theorem aqN{i n S j:Nat}:(VL i n S).testBit j=(decide (i<=j)&&(decide (j<=n)&&!(S.testBit j))):=by
 unfold VL;rw[Nat.testBit_shiftLeft,Nat.testBit_shiftRight,Nat.testBit_xor,Ai,Ib];by_cases h:i<=j
 .have e:i+(j-i)=j:=zO;have e2:(j<n+1)↔(j<=n):=zO;simp only[e,e2,h,ge_iff_le,uU,uX];by_cases h2:j<=n<;>simp[h2]
 .simp[h]
theorem aIU{w:List UInt8}{R:Nat->Option Nat}{i S:Nat}(hw:w.length<=2048)(hi:i<=w.length)(hR:R i=some S):
  CC 76 [vI i,.str w,vI (w.length/64:Nat),oV w R]=some [.str w,vI (w.length/64:Nat),oV w (lH R i (VL i w.length S))]:=by
 refine aCE ?_;unfold anl aj az;have hN:i<w.length+1:=zO;have hm:=yh hw;have him:=EH hi;have pN:w.length/64<mW w:=by unfold mW;omega
 rw[HM hw,EF,OW zO,OW zO];simp only[Option.bind_some,V.bj,V.dD,gL,gB]
 let g:Nat->Nat->Nat:=fun b k=>if i/64<=k∧k<b then full^^^wd S k else wd 0 k
 have jG:full<2^64:=by unfold full;omega
 have go:∀d b,i/64<=b->b+d=mW w->Loop (NN CC (i:Int) w ((w.length/64:Nat):Int) (Rows (mW w) (w.length+1) R)) ((b:Int),fY (mW w) (g b))=some ((mW w:Int),false,fY (mW w) (g (mW w))):=by
  intro d
  induction d with
  |zero=>
   intro b _ hb;have hb:b=mW w:=zO;subst hb;refine dg ?_;simp only[NN,NL,un,aj,az];rw[aF,af (by unfold mW;omega),bX (by unfold mW;omega)]
  |succ d ih=>
   intro b oz hb;have HN:b<mW w:=zO;have cv:NN CC (i:Int) w ((w.length/64:Nat):Int) (Rows (mW w) (w.length+1) R) ((b:Int),fY (mW w) (g b))=some (.inl (((b+1:Nat):Int),fY (mW w) (g (b+1)))):=by
    simp only[NN,NL,un,aj,az];simp only[dZ,aF,Int.toNat_natCast,tE,Option.bind_some,V.dD,V.toInt_int,EB,ED HN,sy hN,BQ hN hR,EC,BO HN];have t1:(b:Int)<(mW w:Int):=zO;have t2:(0:Int)<=(i:Int):=zO;have t3:(i:Int)<((w.length+1:Nat):Int):=zO;have t4:(0:Int)<=(b:Int):=zO;have t5:(b:Int)<=((w.length/64:Nat):Int):=by unfold mW at HN;omega
    simp only[t1,t2,t3,t4,t5,jZ];rw[aIN me,EE,dk];have e2:fY (mW w) (fun j=>if j=b then full^^^wd S b else g b j)=fY (mW w) (g (b+1)):=by
     refine BP fun k _=>?_;show(if k=b then full^^^wd S b else if i/64<=k∧k<b then full^^^wd S k else wd 0 k)=if i/64<=k∧k<b+1 then full^^^wd S k else wd 0 k
     by_cases h1:k=b
     .subst h1;rw[ai rfl,aU]
     .rw[af h1];by_cases h2:i/64<=k∧k<b
      .rw[ai h2,aU]
      .rw[af h2,cl]
    rw[e2];rfl
   rw[fg cv];exact ih (b+1) zO zO
 have e0:fZ (mW w) 0=fY (mW w) (g (i/64)):=BP fun k _=>by
  show _=if i/64<=k∧k<i/64 then _ else wd 0 k
  rw[cl]
 have hl:=go (mW w-i/64) (i/64) zO zO;rw[<-e0]at hl;refine(congrArg (fun o=>Option.bind o _) hl).trans ?_;generalize hG:g (mW w)=G;have HO:∀k,G k<2^64:=fun k=>by
  rw[<-hG];show(if i/64<=k∧k<mW w then _ else _)<_;split
  .exact Nat.xor_lt_two_pow jG me
  .exact me
 have s1:i%64<64:=zO;have s2:63-w.length%64<64:=zO;have w1:wI (63-((w.length%64:Nat):Int))=((63-w.length%64:Nat):Int):=by rw[dk];omega
 simp only[Option.bind_some,un,dZ,aF,Int.toNat_natCast,EB,ED him,ED pN,V.toInt_int,aIS s1,w1,aIT s2];rw[u64_and (HO _) aIO,EE];simp only[EB,ED pN,Option.bind_some,V.toInt_int,tE,sy hN];have t1:(0:Int)<=((i/64:Nat):Int):=zO;have t2:((i/64:Nat):Int)<(mW w:Int):=zO;have t3:(0:Int)<=((i%64:Nat):Int):=zO;have t4:(0:Int)<=((w.length/64:Nat):Int):=zO;have t5:((w.length/64:Nat):Int)<(mW w:Int):=zO;have t6:(0:Int)<=((63-w.length%64:Nat):Int):=zO;have t7:(0:Int)<=(i:Int):=zO;have t8:(i:Int)<((w.length+1:Nat):Int):=zO;simp only[t1,t2,t3,t4,t5,t6,t7,t8,jZ];have hH:∀k,(if k=i/64 then G (i/64)&&&z0 (i%64)else G k)<2^64:=fun k=>by
  split
  .exact uS B6 (HO _)
  .exact HO _
 rw[u64_and (hH _) aIP,EE];have e9:fY (mW w) (fun j=>if j=w.length/64 then(if w.length/64=i/64 then G (i/64)&&&z0 (i%64)else G (w.length/64))&&&O2 (63-w.length%64)else if j=i/64 then G (i/64)&&&z0 (i%64)else G j)=fZ (mW w) (VL i w.length S):=by
  refine VJ (fun k _=>?_) fun k hk j hj=>?_
  .split
   .exact uS B6 (hH _)
   .exact hH _
  .have hGb:(G k).testBit j=(decide (i/64<=k)&&!(S.testBit (64*k+j))):=by
    rw[<-hG];show(if i/64<=k∧k<mW w then full^^^wd S k else wd 0 k:Nat).testBit j=_;by_cases h:i/64<=k
    .rw[ai ⟨h,hk⟩,Nat.testBit_xor,afa,uQ];simp[hj,h]
    .rw[af (fun h2=>h h2.1),uQ];simp[h]
   have hK:(if k=i/64 then G (i/64)&&&z0 (i%64)else G k:Nat).testBit j=(decide (i<=64*k+j)&&!(S.testBit (64*k+j))):=by
    by_cases h:k=i/64
    .rw[ai h,<-h,Ai,hGb,aIQ hj];have e:(i%64<=j)↔(i<=64*k+j):=zO;have e2:i/64<=k:=zO;simp only[e,e2,uU,uX];rw[Bool.and_comm]
    .rw[af h,hGb];have e:(i/64<=k)↔(i<=64*k+j):=zO;simp only[e]
   rw[aqN];by_cases h:k=w.length/64
   .rw[ai h];rw[<-h,Ai,hK,aIR];have e:(j+(63-w.length%64)<64)↔(64*k+j<=w.length):=zO;simp only[e];cases decide (i<=64*k+j)<;>cases decide (64*k+j<=w.length)<;>simp
   .rw[af h,hK];have e:64*k+j<=w.length:=by unfold mW at hk;omega
    simp only[e,uU,uX]
 rw[e9,HK]
theorem aIV{w:List UInt8}{R R2:Nat->Option Nat}{i S:Nat}{b:Bool}(hw:w.length<=2048)(hi:i<=w.length)(hR:R i=some S)(hS:In w S)
  (h2:∀j,S.testBit j=true->∃T,R2 j=some T∧(∀t,t<j->T.testBit t=false))
  (hb:b=true->∀j' T' j T x,S.testBit j'=true->S.testBit j=true->R2 j'=some T'->R2 j=some T->T'.testBit j=true->T.testBit x=true->T'.testBit x=true):
  ∃O:Nat,CC 71 [vI i,.str w,.bool b,oV w R,oV w R2]=some [.str w,.bool b,oV w (lH R i O),oV w R2]∧
   ∀x,O.testBit x=true↔∃j T,S.testBit j=true∧R2 j=some T∧T.testBit x=true:=by
 have hN:i<w.length+1:=zO;obtain⟨⟨b',r',u'⟩,hc,aI,Cx,O,lS,hO⟩:=aIE (mW w) S (yh hw)
  (fun t a=>a.1=b∧a.2.1=Rows (mW w) (w.length+1) R2∧∃O:Nat,a.2.2=fZ (mW w) O∧∀x,O.testBit x=true↔∃j T,j<t∧S.testBit j=true∧R2 j=some T∧T.testBit x=true)
  (fun t a ht iA hP=>by
   obtain⟨b',r',u'⟩:=a;obtain⟨rfl,rfl,O,rfl,hO⟩:=hP;obtain⟨T,hT,hTl⟩:=h2 t iA;refine⟨(b',Rows (mW w) (w.length+1) R2,fZ (mW w) (if b'=true∧O.testBit t=true then O else O|||T)),aIH hw (hS t iA) hT hTl,rfl,rfl,_,rfl,fun x=>?_⟩;constructor
   .intro hx;split at hx
    .obtain⟨j,T',h1,h2,h3,h4⟩:=(hO x).1 hx;exact⟨j,T',zO,h2,h3,h4⟩
    .rcases VH.1 hx with hx|hx
     .obtain⟨j,T',h1,h2,h3,h4⟩:=(hO x).1 hx;exact⟨j,T',zO,h2,h3,h4⟩
     .exact⟨t,T,zO,iA,hT,hx⟩
   .rintro⟨j,T',h1,hj,h3,h4⟩;by_cases sR:j=t
    .subst sR;rw[hT]at h3;obtain rfl:=ee h3;split
     .rename_i hc;obtain⟨j0,T0,g1,g2,g3,g4⟩:=(hO j).1 hc.2;exact(hO x).2 ⟨j0,T0,g1,g2,g3,hb hc.1 j0 T0 j T x g2 hj g3 hT g4 h4⟩
     .exact VH.2 (.inr h4)
    .have:=(hO x).2 ⟨j,T',zO,hj,h3,h4⟩;split
     .exact this
     .exact VH.2 (.inl this))
  (fun t a iA hP=>by
   obtain⟨h1,h2,O,h3,hO⟩:=hP;refine⟨h1,h2,O,h3,fun x=>(hO x).trans ⟨?_,?_⟩⟩
   .rintro⟨j,T,h1,h2⟩;exact⟨j,T,zO,h2⟩
   .rintro⟨j,T,h1,h2,h3⟩;refine⟨j,T,?_,h2,h3⟩;have:j≠t:=by rintro rfl;rw[iA]at h2;cases h2
    omega)
  (b,Rows (mW w) (w.length+1) R2,fZ (mW w) 0) ⟨rfl,rfl,0,rfl,fun x=>⟨fun h=>by simp at h,fun⟨j,T,h,_⟩=>zO⟩⟩
 subst aI Cx lS;refine⟨O,?_,fun x=>(hO x).trans ⟨fun⟨j,T,_,h⟩=>⟨j,T,h⟩,fun⟨j,T,h1,h⟩=>⟨j,T,by have:=hS j h1;have:=@ae7 w;omega,h1,h⟩⟩⟩;refine aCA ?_;unfold anj aj az;rw[HM hw];simp only[dZ,aF,Int.toNat_natCast,tE,sy hN,BQ hN hR,Option.bind_some,V.dD,V.bj,gL,gB];have t7:(0:Int)<=(i:Int):=zO;have t8:(i:Int)<((w.length+1:Nat):Int):=zO;simp only[t7,t8,jZ];refine(congrArg (fun o=>Option.bind o _) hc).trans ?_;simp only[Option.bind_some,iR,gK,V.bj,V.iM,V.dD,HK,gL,gB,eu,lW]
section
open Ex
def PR(F:Nat)(R:Nat->Option Nat)(Q:Nat->Nat->Prop)(t:Nat)(Rt:Nat->Option Nat):Prop:=
 (∀i,F.testBit i=true->i<t->∃S,Rt i=some S∧Q i S)∧∀i,t<=i->Rt i=R i
theorem PR.zero{F:Nat}{R:Nat->Option Nat}{Q:Nat->Nat->Prop}:PR F R Q 0 R:=⟨fun _ _ h=>zO,fun _ _=>rfl⟩
theorem PR.lH{F t S:Nat}{R Rt:Nat->Option Nat}{Q:Nat->Nat->Prop}(h:PR F R Q t Rt)(hQ:Q t S):PR F R Q (t+1) (lH Rt t S):=by
 refine⟨fun i hi ht=>?_,fun i hi=>?_⟩
 .by_cases e:i=t
  .subst e;exact⟨S,ae5,hQ⟩
  .rw[aqH e];exact h.1 i hi zO
 .rw[aqH zO];exact h.2 i zO
theorem PR.skip{F t:Nat}{R Rt:Nat->Option Nat}{Q:Nat->Nat->Prop}(h:PR F R Q t Rt)(hF:F.testBit t=false):PR F R Q (t+1) Rt:=by
 refine⟨fun i hi ht=>?_,fun i hi=>h.2 i zO⟩;by_cases e:i=t
 .subst e;rw[hF]at hi;cases hi
 .exact h.1 i hi zO
theorem PR.ends{w:List UInt8}{F:Nat}{R Rt:Nat->Option Nat}{L:Lg}(h:PR F R (fun i S=>∀j,S.testBit j=true↔Pt w L i j) (64*mW w) Rt)(hF:In w F):Ends w F Rt L:=fun i hi=>by
 have:=hF i hi;have:=@ae7 w
 exact h.1 i hi zO
theorem aqO{w:List UInt8}{i:Nat}(h:i<w.length):sl w i (i+1)=[w.getD i 0]:=by
 unfold sl;rw[show i+1-i=1 by omega,BW h,List.take_succ_cons,List.take_zero];simp[h]
theorem aIW{w:List UInt8}{o l:Int}{i j:Nat}(ho:o=1∨o=2∨o=3)(hi:i<=w.length):(base w o l i).testBit j=true↔Pt w (jM o l []) i j:=by
 unfold base Pt jM;rcases ho with rfl|rfl|rfl
 .simp
 .simp only[jZ];rw[VI];constructor
  .rintro rfl;exact⟨aC _,hi,aIe⟩
  .rintro⟨h1,h2,h3⟩;have:=OV h1 h2;rw[h3,List.length_nil]at this;omega
 .simp only[show¬((3:Int)=2) by omega,mE,jZ,true_and];by_cases h:i<w.length∧jK w i=l
  .rw[ai h,VI];have e:=aqO h.1;constructor
   .rintro rfl;exact⟨zO,zO,_,e,h.2⟩
   .rintro⟨h1,h2,c,h3,h4⟩;have:=OV h1 h2;rw[h3]at this;simp at this;omega
  .rw[af h];constructor
   .intro h;simp at h
   .rintro⟨h1,h2,c,h3,h4⟩;have:=OV h1 h2;rw[h3]at this;simp at this;have e2:j=i+1:=zO;subst e2;have bt:i<w.length:=zO;have e:=aqO bt;rw[e]at h3;injection h3 with h3;subst h3;exact absurd ⟨bt,h4⟩ h
theorem aIX{e:Ex}:CC 94 (nc e [])=some [.bool (decide (e.op=1))]:=by
 refine aCF ?_;unfold anm;congr 3
def O3(e:Ex):Bool:=decide (e.op=8∧e.kids.length=1∧∀k∈e.kids,k.op=1)
theorem aIY{e:Ex}:CC 70 (nc e [])=some [.bool (O3 e)]:=by
 obtain⟨o,l,ks⟩:=e;refine aCG ?_;unfold ano O3;simp only[Ex.op,Ex.kids,kb,cu];by_cases h1:o=8
 .rw[ai h1]
  match ks with
  |[]=>simp
  |[k]=>
   simp only[iB,yr,List.getElem?_cons_zero,Option.bind_some,iT,iU,iW];rw[ai zS];refine(congrArg (fun o=>Option.bind o _) (aIX (e:=k))).trans ?_;cases k;simp[h1,Ex.op]
   try rfl
  |k::k2::ks=>
   rw[af (by simp<;>omega)];simp
 .rw[af h1];simp[h1]
theorem aIZ{w:List UInt8}{o l:Int}{ks:LV}{F:Nat}(hw:w.length<=2048)(hl:∀i,i<w.length->0<=jK w i)(ho:o=1∨o=2∨o=3)(hF:In w F):
  ∃R,CC 53 [oS w F,.str w,vI o,vI l,cM ks,oV w (fun _=>none)]=some [.str w,vI o,vI l,cM ks,oV w R]∧Ends w F R (jM o l []):=by
 obtain⟨_,hc,R,rfl,hP⟩:=aIx (mW w) F (yh hw)
  (fun t a=>∃R,a=(w,o,l,ks,Rows (mW w) (w.length+1) R)∧PR F (fun _=>none) (fun i S=>∀j,S.testBit j=true↔Pt w (jM o l []) i j) t R)
  (fun t a ht iA hP=>by
   obtain⟨R,rfl,hP⟩:=hP;exact⟨(w,o,l,ks,_),aIF hw hl (hF t iA),_,rfl,hP.lH fun j=>aIW ho (hF t iA)⟩)
  (fun t a iA hP=>by
   obtain⟨R,h5,hP⟩:=hP;exact⟨R,h5,hP.skip iA⟩)
  (w,o,l,ks,Rows (mW w) (w.length+1) fun _=>none) ⟨_,rfl,PR.zero⟩
 exact⟨R,hc,hP.ends hF⟩
theorem yi{w:List UInt8}{F i:Nat}{R:Nat->Option Nat}{L:Lg}(h:Ends w F R L)(hi:F.testBit i=true):∃S,R i=some S∧In w S∧(∀j,j<i->S.testBit j=false)∧∀j,S.testBit j=true↔Pt w L i j:=by
 obtain⟨S,h1,h2⟩:=h i hi;exact⟨S,h1,aIj h2,fun j hj=>aIk h2 fun h=>by have:=h.1;omega,h2⟩
theorem aI0{w:List UInt8}{k:Ex}{F:Nat}{R0:Nat->Option Nat}(hw:w.length<=2048)(hF:In w F)
  (hk:CC 28 (.str w::nc k [oS w F])=some [oV w R0]) (hR:Ends w F R0 k.dv):
  ∃R,CC 52 (.str w::nc k [oS w F])=some [oV w R]∧Ends w F R (fun v=> ¬k.dv v):=by
 obtain⟨_,hc,R,rfl,hP⟩:=aIz (mW w) F (yh hw)
  (fun t a=>∃R,a=(w,((w.length/64:Nat):Int),Rows (mW w) (w.length+1) R)∧PR F R0 (fun i S=>∀j,S.testBit j=true↔Pt w (fun v=> ¬k.dv v) i j) t R)
  (fun t a ht iA hP=>by
   obtain⟨R,rfl,hP⟩:=hP;obtain⟨S,g1,g2,g3,g4⟩:=yi hR iA;have hRt:R t=some S:=by rw[hP.2 t (aC _),g1]
   refine⟨(w,_,_),aIU hw (hF t iA) hRt,_,rfl,hP.lH fun j=>?_⟩;rw[aqN];have:=g4 j;simp only[aZ,fp,ng,Pt];constructor
   .rintro⟨h1,h2,h3⟩;exact⟨h1,h2,fun h=>by rw[this.2 ⟨h1,h2,h⟩]at h3;cases h3⟩
   .rintro⟨h1,h2,h3⟩;refine⟨h1,h2,?_⟩;cases hc:S.testBit j
    .rfl
    .exact absurd (this.1 hc).2.2 h3)
  (fun t a iA hP=>by
   obtain⟨R,h5,hP⟩:=hP;exact⟨R,h5,hP.skip iA⟩)
  (w,((w.length/64:Nat):Int),Rows (mW w) (w.length+1) R0) ⟨_,rfl,PR.zero⟩
 refine⟨R,?_,hP.ends hF⟩;refine aCN ?_;unfold anr;refine(congrArg (fun o=>Option.bind o _) hk).trans ?_;simp only[Option.bind_some,V.bj,V.dD,gI,gL,gB,gS];rw[EF];refine(congrArg (fun o=>Option.bind o _) hc).trans ?_;simp only[Option.bind_some,iR,gK,V.bj,V.dD,gI,gL,gB,gS,bM,eu,lW,lX]
end
section
open Ex
def z7(w:List UInt8)(k:Ex):Prop:=∀F,In w F->∃R,CC 28 (.str w::nc k [oS w F])=some [oV w R]∧Ends w F R k.dv
theorem aI1{w:List UInt8}{A:Lg}{F:Nat}{R:Nat->Option Nat}(hw:w.length<=2048)(hF:In w F)(hR:Ends w F R A):
  ∃M:Nat,CC aqL [oS w F,oS w 0,oV w R]=some [oV w R,oS w M]∧In w M∧∀x,M.testBit x=true↔∃i,F.testBit i=true∧Pt w A i x:=by
 obtain⟨_,hc,M,rfl,hM⟩:=aIB (mW w) F (yh hw)
  (fun t a=>∃M:Nat,a=(Rows (mW w) (w.length+1) R,fZ (mW w) M)∧∀x,M.testBit x=true↔∃i,i<t∧F.testBit i=true∧Pt w A i x)
  (fun t a ht iA hP=>by
   obtain⟨M,rfl,hM⟩:=hP;obtain⟨S,g1,g2,g3,g4⟩:=yi hR iA;refine⟨(_,_),aIG hw (hF t iA) g1 g3,_,rfl,fun x=>?_⟩;rw[VH,hM x,g4 x];constructor
   .rintro(⟨i,h1,h2⟩|h)
    .exact⟨i,zO,h2⟩
    .exact⟨t,zO,iA,h⟩
   .rintro⟨i,h1,h2,h3⟩;by_cases e:i=t
    .subst e;exact .inr h3
    .exact .inl ⟨i,zO,h2,h3⟩)
  (fun t a iA hP=>by
   obtain⟨M,h5,hM⟩:=hP;refine⟨M,h5,fun x=>(hM x).trans ⟨fun⟨i,h1,h2⟩=>⟨i,zO,h2⟩,fun⟨i,h1,h2,h3⟩=>⟨i,?_,h2,h3⟩⟩⟩;have:i≠t:=by rintro rfl;rw[iA]at h2;cases h2
   omega)
  (Rows (mW w) (w.length+1) R,fZ (mW w) 0) ⟨0,rfl,fun x=>⟨fun h=>by simp at h,fun⟨i,h,_⟩=>zO⟩⟩
 have hM2:∀x,M.testBit x=true↔∃i,F.testBit i=true∧Pt w A i x:=fun x=>
  (hM x).trans ⟨fun⟨i,_,h⟩=>⟨i,h⟩,fun⟨i,h1,h⟩=>⟨i,by have:=hF i h1;have:=@ae7 w;omega,h1,h⟩⟩
 exact⟨M,hc,fun i hi=>by obtain⟨_,_,h⟩:=(hM2 i).1 hi;exact h.2.1,hM2⟩
theorem aI2{k:Ex}(h:O3 k=true)(v:List UInt8):k.dv v:=by
 obtain⟨o,l,ks⟩:=k;unfold O3 at h;obtain⟨h1,h2,h3⟩:=tH h;have h1:o=8:=h1;subst h1;have h2:ks.length=1:=h2;have h3:∀k∈ks,k.op=1:=h3
 match ks,h2,h3 with
 |[a],_,h3=>
  have:=h3 a zS;obtain⟨o,l,ks⟩:=a;rw[wc];have e:o=1:=this;subst e;simp[jM,EA,wc]
theorem aqP{w:List UInt8}{A:Lg}{k:Ex}{F M:Nat}{R R2:Nat->Option Nat}{b:Bool}(hw:w.length<=2048)(hF:In w F)(hR:Ends w F R A)
  (hM:∀x,M.testBit x=true↔∃i,F.testBit i=true∧Pt w A i x) (uR:Ends w M R2 k.dv)
  (hb:b=true->∀i j x,Pt w k.dv i j->Pt w k.dv j x->Pt w k.dv i x):
  ∃R',CC aqM [oS w F,.str w,.bool b,oV w R,oV w R2]=some [.str w,.bool b,oV w R',oV w R2]∧Ends w F R' (L2 A k.dv):=by
 obtain⟨_,hc,R',rfl,hP⟩:=aIC (mW w) F (yh hw)
  (fun t a=>∃Rt,a=(w,b,Rows (mW w) (w.length+1) Rt,Rows (mW w) (w.length+1) R2)∧PR F R (fun i S=>∀j,S.testBit j=true↔Pt w (L2 A k.dv) i j) t Rt)
  (fun t a ht iA hP=>by
   obtain⟨Rt,rfl,hP⟩:=hP;obtain⟨S,g1,g2,g3,g4⟩:=yi hR iA;have O4:∀j,S.testBit j=true->M.testBit j=true:=fun j hj=>(hM j).2 ⟨t,iA,(g4 j).1 hj⟩;obtain⟨O,ho,hO⟩:=aIV (R:=Rt) (R2:=R2) (b:=b) hw (hF t iA) (by rw[hP.2 t (aC _),g1]) g2
    (fun j hj=>by obtain⟨T,q1,q2,q3,q4⟩:=yi uR (O4 j hj);exact⟨T,q1,q3⟩)
    (fun hbt j' T' j T x kz hj e' e h1 h2=>by
     obtain⟨T1,q1,q2,q3,q4⟩:=yi uR (O4 j hj);obtain⟨T2,p1,p2,p3,p4⟩:=yi uR (O4 j' kz);rw[q1]at e;rw[p1]at e';obtain rfl:=ee e;obtain rfl:=ee e';exact(p4 x).2 (hb hbt _ _ _ ((p4 j).1 h1) ((q4 x).1 h2)))
   refine⟨(w,b,_,_),ho,_,rfl,hP.lH fun x=>?_⟩;rw[hO x,aIh];constructor
   .rintro⟨j,T,h1,h2,h3⟩;obtain⟨T1,q1,q2,q3,q4⟩:=yi uR (O4 j h1);rw[q1]at h2;obtain rfl:=ee h2;exact⟨j,(g4 j).1 h1,(q4 x).1 h3⟩
   .rintro⟨j,h1,h2⟩;have hj:=(g4 j).2 h1;obtain⟨T1,q1,q2,q3,q4⟩:=yi uR (O4 j hj);exact⟨j,T1,hj,q1,(q4 x).2 h2⟩)
  (fun t a iA hP=>by
   obtain⟨R,h5,hP⟩:=hP;exact⟨R,h5,hP.skip iA⟩)
  (w,b,Rows (mW w) (w.length+1) R,Rows (mW w) (w.length+1) R2) ⟨_,rfl,PR.zero⟩
 exact⟨R',hc,hP.ends hF⟩
theorem aI3{w:List UInt8}{F:Nat}(hw:w.length<=2048)(hF:In w F){rest:List Ex}(hlen:rest.length<=maxLen)(hk:∀k∈rest,z7 w k):
  ∀(eW pre:List Ex) (A:Lg) (R:Nat->Option Nat),rest=pre++eW->Ends w F R A->
  ∃R',Loop (G5 CC (fZ (mW w) F) (rest.map enc) ((rest.map enc).length:Int)) (((pre.length:Nat):Int),w,Rows (mW w) (w.length+1) R)=some (((rest.map enc).length:Int),false,w,Rows (mW w) (w.length+1) R')∧Ends w F R' ((eW.map dv).foldl L2 A):=by
 have hm:=si;intro eW
 induction eW with
 |nil=>
  intro pre A R e hR;rw[jO]at e;subst e;refine⟨R,dg ?_,hR⟩;simp only[G5,G4,un,cu];rw[aF,cl,Ak]
 |cons k eW ih=>
  intro pre A R e hR;have yU:k∈rest:=by rw[e];simp
  have bt:pre.length<rest.length:=by rw[e];simp
  obtain⟨M,c1,hMi,hM⟩:=aI1 hw hF hR;obtain⟨R2,c2,uR⟩:=hk k yU M hMi;have step:∃R',G5 CC (fZ (mW w) F) (rest.map enc) ((rest.map enc).length:Int) (((pre.length:Nat):Int),w,Rows (mW w) (w.length+1) R)=some (.inl (((pre.length+1:Nat):Int),w,Rows (mW w) (w.length+1) R'))∧Ends w F R' (L2 A k.dv):=by
   have hi:idx (rest.map enc) ((pre.length:Nat):Int)=some k.enc:=by rw[e];exact OS pre eW k
   by_cases h7:k.op=7
   .obtain⟨R',c3,EI⟩:=aqP (b:=true) hw hF hR hM uR (fun _ i j x h1 h2=>by
     obtain⟨o,l,ks⟩:=k;have e:o=7:=h7;subst e;have el:(Ex.node 7 l ks).dv=qq (EA (ks.map dv)):=by rw[wc];funext v;simp[jM]
     rw[el]at h1 h2⊢;exact aIi h1 h2)
    refine⟨R',?_,EI⟩;simp only[G5,G4,un,cu];rw[aF,aU,hi,HM hw];simp only[Option.bind_some,iT,iU,iW,V.bj,V.dD,gI,gL,gB,gS];refine(congrArg (fun o=>Option.bind o _) c1).trans ?_;simp only[Option.bind_some,iR,gK,V.bj,V.dD,gI,gL,gB,gS,bM,eu,lW,lX];refine(congrArg (fun o=>Option.bind o _) c2).trans ?_;simp only[Option.bind_some,V.bj,V.dD,gI,gL,gB,gS];rw[kb,ai h7];refine(congrArg (fun o=>Option.bind o _) c3).trans ?_;simp only[Option.bind_some,iR,gK,V.bj,V.dD,V.JH,gI,gL,gB,gS,bM,eu,lW,lX];rw[dk];rfl
   .obtain⟨R',c3,EI⟩:=aqP (b:=O3 k) hw hF hR hM uR (fun hu i j x h1 h2=>⟨mD h1.1 h2.1,h2.2.1,aI2 hu _⟩);refine⟨R',?_,EI⟩;simp only[G5,G4,un,cu];rw[aF,aU,hi,HM hw];simp only[Option.bind_some,iT,iU,iW,V.bj,V.dD,gI,gL,gB,gS];refine(congrArg (fun o=>Option.bind o _) c1).trans ?_;simp only[Option.bind_some,iR,gK,V.bj,V.dD,gI,gL,gB,gS,bM,eu,lW,lX];refine(congrArg (fun o=>Option.bind o _) c2).trans ?_;simp only[Option.bind_some,V.bj,V.dD,gI,gL,gB,gS];rw[kb,af h7];refine(congrArg (fun o=>Option.bind o _) (aIY (e:=k))).trans ?_;simp only[Option.bind_some,V.bj,V.iM,gI,gL,gB,gS];refine(congrArg (fun o=>Option.bind o _) c3).trans ?_;simp only[Option.bind_some,iR,gK,V.bj,V.dD,V.JH,gI,gL,gB,gS,bM,eu,lW,lX];rw[dk];rfl
  obtain⟨R',cv,EI⟩:=step;obtain⟨R'',h1,h2⟩:=ih (pre++[k]) (L2 A k.dv) R' (by simp[e]) EI;refine⟨R'',?_,h2⟩;rw[fg cv];simpa using h1
theorem drop_one{α:Type}{a:α}{l:List α}:((a::l).drop 1).take ((a::l).length-1)=l:=zS
theorem aI4{w:List UInt8}{F:Nat}(hw:w.length<=2048)(hF:In w F){k:Ex}{rest:List Ex}(hlen:rest.length<=maxLen)(sr:z7 w k)(hk:∀k∈rest,z7 w k):
  ∃R,CC 49 [.str w,cM ((k::rest).map enc),oS w F]=some [oV w R]∧Ends w F R (OT ((k::rest).map dv)):=by
 obtain⟨R0,c0,h0⟩:=sr F hF;obtain⟨R,hl,hR⟩:=aI3 hw hF hlen hk rest [] k.dv R0 rfl h0;refine⟨R,aCJ ?_,by simpa[OT]using hR⟩;unfold anp;simp only[iB,List.getElem?_cons_zero,Option.bind_some,iT,iU,iW];refine(congrArg (fun o=>Option.bind o _) c0).trans ?_;simp only[Option.bind_some,V.bj,V.dD,gI,gL,gB,gS];rw[aF,ai (by simp only[List.length_cons];omega),drop_one];refine(congrArg (fun o=>Option.bind o _) hl).trans ?_;rfl
def comb(o:Int)(A B:Lg):Lg:=fun v=>if o=4 then A v∨B v else A v∧B v
theorem aI5{w:List UInt8}{A:Lg}{k:Ex}{F:Nat}{R R2:Nat->Option Nat}{o l:Int}{ks:LV}(hw:w.length<=2048)(hF:In w F)(hR:Ends w F R A)(uR:Ends w F R2 k.dv):
  ∃R',CC aqK [oS w F,vI o,vI l,cM ks,oV w R,oV w R2]=some [vI o,vI l,cM ks,oV w R',oV w R2]∧Ends w F R' (comb o A k.dv):=by
 obtain⟨_,hc,R',rfl,hP⟩:=aIA (mW w) F (yh hw)
  (fun t a=>∃Rt,a=(o,l,ks,Rows (mW w) (w.length+1) Rt,Rows (mW w) (w.length+1) R2)∧PR F R (fun i S=>∀j,S.testBit j=true↔Pt w (comb o A k.dv) i j) t Rt)
  (fun t a ht iA hP=>by
   obtain⟨Rt,rfl,hP⟩:=hP;obtain⟨S,g1,g2,g3,g4⟩:=yi hR iA;obtain⟨T,q1,q2,q3,q4⟩:=yi uR iA;refine⟨(o,l,ks,_,_),aIM hw (hF t iA) (by rw[hP.2 t (aC _),g1]) q1,_,rfl,hP.lH fun x=>?_⟩;rw[ae9];unfold comb;have a1:=g4 x;have a2:=q4 x;unfold Pt at*
   by_cases h4:o=4
   .rw[ai h4,ri,a1,a2];simp only[ai h4];constructor
    .rintro(⟨h1,h2,h3⟩|⟨h1,h2,h3⟩)
     .exact⟨h1,h2,.inl h3⟩
     .exact⟨h1,h2,.inr h3⟩
    .rintro⟨h1,h2,h3|h3⟩
     .exact .inl ⟨h1,h2,h3⟩
     .exact .inr ⟨h1,h2,h3⟩
   .rw[af h4,aZ,a1,a2];simp only[af h4];constructor
    .rintro⟨⟨h1,h2,h3⟩,⟨_,_,h4⟩⟩;exact⟨h1,h2,h3,h4⟩
    .rintro⟨h1,h2,h3,h4⟩;exact⟨⟨h1,h2,h3⟩,⟨h1,h2,h4⟩⟩)
  (fun t a iA hP=>by
   obtain⟨R,h5,hP⟩:=hP;exact⟨R,h5,hP.skip iA⟩)
  (o,l,ks,Rows (mW w) (w.length+1) R,Rows (mW w) (w.length+1) R2) ⟨_,rfl,PR.zero⟩
 exact⟨R',hc,hP.ends hF⟩
theorem aI6{w:List UInt8}{F:Nat}{o l:Int}{es:LV}(hw:w.length<=2048)(hF:In w F){rest:List Ex}(hlen:rest.length<=maxLen)(hk:∀k∈rest,z7 w k):
  ∀(eW pre:List Ex) (A:Lg) (R:Nat->Option Nat),rest=pre++eW->Ends w F R A->
  ∃R',Loop (NT CC (fZ (mW w) F) (rest.map enc) ((rest.map enc).length:Int) w) (((pre.length:Nat):Int),o,l,es,Rows (mW w) (w.length+1) R)=some (((rest.map enc).length:Int),false,o,l,es,Rows (mW w) (w.length+1) R')∧Ends w F R' ((eW.map dv).foldl (comb o) A):=by
 have hm:=si;intro eW
 induction eW with
 |nil=>
  intro pre A R e hR;rw[jO]at e;subst e;refine⟨R,dg ?_,hR⟩;simp only[NT,NR,un,cu];rw[aF,cl,Ak]
 |cons k eW ih=>
  intro pre A R e hR;have yU:k∈rest:=by rw[e];simp
  have bt:pre.length<rest.length:=by rw[e];simp
  obtain⟨R2,c2,uR⟩:=hk k yU F hF;obtain⟨R',c3,EI⟩:=aI5 (o:=o) (l:=l) (ks:=es) hw hF hR uR;have cv:NT CC (fZ (mW w) F) (rest.map enc) ((rest.map enc).length:Int) w (((pre.length:Nat):Int),o,l,es,Rows (mW w) (w.length+1) R)=some (.inl (((pre.length+1:Nat):Int),o,l,es,Rows (mW w) (w.length+1) R')):=by
   have hi:idx (rest.map enc) ((pre.length:Nat):Int)=some k.enc:=by rw[e];exact OS pre eW k
   simp only[NT,NR,un,cu];rw[aF,aU,hi];simp only[Option.bind_some,iT,iU,iW,V.bj,V.dD,gI,gL,gB,gS];refine(congrArg (fun o=>Option.bind o _) c2).trans ?_;simp only[Option.bind_some,V.bj,V.dD,gI,gL,gB,gS];refine(congrArg (fun o=>Option.bind o _) c3).trans ?_;simp only[Option.bind_some,iR,gK,V.bj,V.dD,V.toInt_int,gI,gL,gB,gS,bM,eu,lW,lX];rw[dk];rfl
  obtain⟨R'',h1,h2⟩:=ih (pre++[k]) (comb o A k.dv) R' (by simp[e]) EI;refine⟨R'',?_,h2⟩;rw[fg cv];simpa using h1
theorem aqQ{w:List UInt8}{F:Nat}{o l:Int}(hw:w.length<=2048)(hF:In w F){k:Ex}{rest:List Ex}(hlen:rest.length<=maxLen)(sr:z7 w k)(hk:∀k∈rest,z7 w k):
  ∃R,CC 51 [.str w,vI o,vI l,cM ((k::rest).map enc),oS w F]=some [oV w R]∧Ends w F R ((rest.map dv).foldl (comb o) k.dv):=by
 obtain⟨R0,c0,h0⟩:=sr F hF;obtain⟨R,hl,hR⟩:=aI6 (o:=o) (l:=l) (es:=(k::rest).map enc) hw hF hlen hk rest [] k.dv R0 rfl h0;refine⟨R,aCM ?_,hR⟩;unfold anq;simp only[iB,List.getElem?_cons_zero,Option.bind_some,iT,iU,iW];refine(congrArg (fun o=>Option.bind o _) c0).trans ?_;simp only[Option.bind_some,V.bj,V.dD,gI,gL,gB,gS];rw[aF,ai (by simp only[List.length_cons];omega),drop_one];refine(congrArg (fun o=>Option.bind o _) hl).trans ?_;rfl
theorem aqR{v:List UInt8}:∀(Ls:List Lg) (A:Lg),Ls.foldl (comb 4) A v↔A v∨∃L∈Ls,L v
 |[],A=>zS
 |L::Ls,A=>by
  rw[List.foldl_cons,aqR Ls];simp[comb,or_assoc]
theorem aqS{v:List UInt8}:∀(Ls:List Lg) (A:Lg),Ls.foldl (comb 6) A v↔A v∧∀L∈Ls,L v
 |[],A=>zS
 |L::Ls,A=>by
  rw[List.foldl_cons,aqS Ls];simp[comb,and_assoc]
end
section
open Ex
theorem aI7{X R S:Type}{step:X->Option (X⊕R)}{ks:List Ex}(st:S->Nat->X)(g:S->Ex->S)(r:S->R)(I:S->List Ex->Prop)
  (h:∀pre k eW s,ks=pre++k::eW->I s (k::eW)->step (st s pre.length)=some (.inl (st (g s k) (pre.length+1)))∧I (g s k) eW) (he:∀s,step (st s ks.length)=some (.inr (r s))):
  ∀eW pre s,ks=pre++eW->I s eW->Loop step (st s pre.length)=some (r (eW.foldl g s)):=by
 intro eW
 induction eW with
 |nil=>
  intro pre s jc _;have:pre.length=ks.length:=by rw[jc];simp
  rw[this];exact dg (he s)
 |cons k eW ih=>
  intro pre s jc hI;obtain⟨h1,h2⟩:=h pre k eW s jc hI;rw[fg h1,List.foldl_cons];have:=ih (pre++[k]) (g s k) (by rw[jc];simp) h2;simpa using this
end
section
open Ex
theorem aI8(m n:Int):(m==n)=decide (m=n):=by rw[sD];simp
theorem aqT(e:Ex)(h:e.Ok):CC 24 (nc e [])=some [.bool (decide (e.val 6=0))]:=by
 refine aCO ?_;unfold ans;rw[aId e h];simp only[Option.bind_some,V.bj,V.toInt_int,gI];rw[aI8]
theorem aqU{e:Ex}(h:e.val 6=0):e.depth<=40∧e.size<=400∧e.wf 6=true:=by
 unfold Ex.val at h;rw[aU]at h;split at h
 .rename_i h1;split at h
  .rename_i h2;exact⟨h1.1,h1.2,h2⟩
  .omega
 .omega
theorem aI9{ks:List Ex}:∀{k},k∈ks->k.size<=eI ks:=by
 induction ks with
 |nil=>intro k h;simp at h
 |cons a ks ih=>
  intro k h;simp only[eI];rcases j4.1 h with rfl|h
  .omega
  .have:=ih h;omega
theorem aJa{an:Int}{ks:List Ex}(h:qZ an ks=true):∀k∈ks,k.wf an=true:=by
 induction ks with
 |nil=>simp
 |cons a ks ih=>
  simp only[qZ,aZ]at h;intro k hk;rcases j4.1 hk with rfl|hk
  .exact h.1
  .exact ih h.2 k hk
theorem aJb{an o l:Int}{ks:List Ex}(h:(Ex.node o l ks).wf an=true):Ez o l ks.length an=true∧∀k∈ks,k.wf an=true:=by
 simp only[Ex.wf,aZ]at h;exact⟨h.1,aJa h.2⟩
end
section
open Ex
inductive NS:Ex->Prop
 |node {o l:Int}{ks:List Ex}:o≠7->(∀k∈ks,NS k)->NS (.node o l ks)
theorem aJc{w:List UInt8}(hw:w.length<=2048)(hl:∀i,i<w.length->0<=jK w i):∀e:Ex,e.Ok->e.wf 6=true->NS e->z7 w e:=
 ind fun o l ks ih av XV hns F hF=>by
  obtain⟨h7,hnk⟩:o≠7∧∀k∈ks,NS k:=by cases hns;exact⟨‹_›,‹_›⟩
  obtain⟨hs,hwk⟩:=aJb XV;have hk:∀k∈ks,z7 w k:=fun k hk=>ih k hk (av.VG k hk) (hwk k hk) (hnk k hk);have hlen:=av.len;have wD:=si;show∃R,CC 28 [.str w,vI o,vI l,cM (ks.map enc),oS w F]=some [oV w R]∧Ends w F R (Ex.node o l ks).dv;rw[wc];unfold Ez at hs;have e1:wI ((w.length:Int)+1)=((w.length+1:Nat):Int):=by rw[dk];rfl
  have base:(o=1∨o=2∨o=3)->∃R,CC 28 [.str w,vI o,vI l,cM (ks.map enc),oS w F]=some [oV w R]∧Ends w F R (jM o l (ks.map dv)):=by
   intro ho;obtain⟨R,hc,hR⟩:=aIZ (l:=l) (ks:=ks.map enc) hw hl ho hF;have el:jM o l (ks.map dv)=jM o l []:=by
    funext v;unfold jM;rcases ho with rfl|rfl|rfl<;>simp
   refine⟨R,NQ ?_,by rw[el];exact hR⟩;unfold G3 D5;rw[e1];simp only[kb,dZ,aF,vD,Int.toNat_natCast];rw[cl,cl,cl,cl,cl,aU,aU,ai (by rw[uA];omega)];rw[aIo (m:=mW w)];refine(congrArg (fun o=>Option.bind o _) hc).trans ?_;simp only[Option.bind_some,iR,gK,V.bj,V.dD,gL,gB]
  by_cases h3:o=3
  .exact base zO
  rw[af h3]at hs;simp only[aZ]at hs;obtain⟨_,hs⟩:=hs;by_cases h12:o=1∨o=2
  .exact base zO
  rw[af h12]at hs;by_cases h78:o=7∨o=8
  .rw[ai h78]at hs;have hs:=tH hs;obtain⟨k,rfl⟩:∃k,ks=[k]:=by
    match ks,hs with
    |[k],_=>exact⟨k,rfl⟩
    |[],h=>simp at h
    |_::_::_,h=>simp at h;omega
   obtain rfl:o=8:=zO;obtain⟨R0,Fv,WD⟩:=hk k zS F hF;obtain⟨R,hc,hR⟩:=aI0 hw hF Fv WD;refine⟨R,NQ ?_,by
    have:jM 8 l ([k].map dv)=fun v=> ¬k.dv v:=by funext v;simp[jM,EA]
    rw[this];exact hR⟩
   unfold G3 D5;simp only[kb];rw[cl,cl,cl,cl,ai trivial];simp only[iB,yr,List.getElem?_cons_zero,Option.bind_some,iT,iU,iW];refine(congrArg (fun o=>Option.bind o _) hc).trans ?_;simp only[Option.bind_some,V.bj,V.dD,gL,gB]
  .rw[af h78]at hs;obtain⟨h4,h6,hn⟩:=tH hs
   match ks,hn,hk,hlen with
   |k::rest,hn,hk,hlen=>
    have sr:=hk k zS;have w9:∀k'∈rest,z7 w k':=fun k' h=>hk k' (by simp[h]);have hlr:rest.length<=maxLen:=by simp at hlen;omega
    have aJd:o=4∨o=5∨o=6:=zO;rcases aJd with rfl|rfl|rfl
    .obtain⟨R,hc,hR⟩:=aqQ (o:=4) (l:=l) hw hF hlr sr w9;refine⟨R,NQ ?_,by
      have:jM 4 l ((k::rest).map dv)=(rest.map dv).foldl (comb 4) k.dv:=by
       funext v;refine propext ?_;rw[aqR];simp[jM]
      rw[this];exact hR⟩
     unfold G3 D5;simp only[kb];rw[cl,cl,ai trivial,ai trivial];refine(congrArg (fun o=>Option.bind o _) hc).trans ?_;simp only[Option.bind_some,V.bj,V.dD,gL,gB]
    .obtain⟨R,hc,hR⟩:=aI4 hw hF hlr sr w9;refine⟨R,NQ ?_,by
      have:jM 5 l ((k::rest).map dv)=OT ((k::rest).map dv):=by funext v;simp[jM]
      rw[this];exact hR⟩
     unfold G3 D5;simp only[kb];rw[ai trivial];refine(congrArg (fun o=>Option.bind o _) hc).trans ?_;simp only[Option.bind_some,V.bj,V.dD,gL,gB]
    .obtain⟨R,hc,hR⟩:=aqQ (o:=6) (l:=l) hw hF hlr sr w9;refine⟨R,NQ ?_,by
      have:jM 6 l ((k::rest).map dv)=(rest.map dv).foldl (comb 6) k.dv:=by
       funext v;refine propext ?_;rw[aqS];simp[jM]
      rw[this];exact hR⟩
     unfold G3 D5;simp only[kb];rw[cl,cl,cl,ai trivial];refine(congrArg (fun o=>Option.bind o _) hc).trans ?_;simp only[Option.bind_some,V.bj,V.dD,gL,gB]
theorem aJe{e:Ex}(h:e.Ok)(hn:NS e)(h1:e.val 6=0){w:List UInt8}(h2:mz w 6):∃b,CC 11 (nc e [.str w])=some [.bool b]∧(b=true↔e.dv w):=by
 have hw:=h2.2.2.1;obtain⟨R,hc,hR⟩:=aJc hw (fun i hi=>(h2.2.2.2 i hi).1) e h (aqU h1).2.2 hn (2^0) (fun i hi=>by rw[VI]at hi;omega);obtain⟨S,g1,g2⟩:=hR 0 (VI.2 rfl);have ha:=aIl (m:=mW w) (S:=0) (i:=0) (by unfold mW;omega) zO;refine⟨S.testBit w.length,aCP ?_,by rw[g2];unfold Pt;rw[aIf];exact⟨fun h=>h.2.2,fun h=>⟨zO,aC _,h⟩⟩⟩;unfold ant;refine(congrArg (fun o=>Option.bind o _) (aqT e h)).trans ?_;simp only[Option.bind_some,V.bj,V.iM,kB,aF,gL,gB];rw[ai h1,adR];simp only[Option.bind_some,V.bj,V.iM,aF,gL,gB];rw[ai h2,HM hw];simp only[Option.bind_some,V.bj,V.dD,gL,gB];refine(congrArg (fun o=>Option.bind o _) ha).trans ?_;simp only[Option.bind_some,V.bj,V.dD,Nat.zero_or,gL,gB];refine(congrArg (fun o=>Option.bind o _) hc).trans ?_;simp only[Option.bind_some,V.bj,V.dD,tE,sy (show 0<w.length+1 by omega),BQ (show 0<w.length+1 by omega) g1,gL,gB];rw[aU,aqF (EH (aC _)) zO];simp only[Option.bind_some,V.bj,V.iM,gL,gB]
end
theorem GV.mono{L L':Nat}{ns:List Nd}(h:GV L ns)(hL:L<=L'):GV L' ns:=fun i d hd=>by
 have o:=h i d hd;exact⟨o.o1,o.o8,fun h=>gU (o.x1 h) hL,o.x0,o.a1,o.a0,o.b1,o.b0⟩
theorem HP{ns:List Nd}{i:Nat}(hi:i<ns.length):idx (ns.map Nd.v) (i:Int)=some ns[i].v:=by rw[JI rfl];simp[hi]
theorem HQ{op:Nat}:decide ((nU op:Int)>=1)=decide (5<=op):=by
 unfold nU;by_cases h5:5<=op
 .rw[ai h5,bQ h5];by_cases h8:op=8<;>simp[h8]
 .rw[af h5,bX h5];simp
theorem HR{op:Nat}:((nU op:Int)==2)=decide (5<=op∧op≠8):=by
 unfold nU;by_cases h5:5<=op
 .rw[ai h5];by_cases h8:op=8<;>simp[h5,h8]
 .rw[af h5,bX (fun h=>h5 h.1)];rfl
section
variable {L:Nat}{ns:List Nd}(hv:GV L ns)(h1:1<=L)(h6:L<=6)(hn:ns.length<=20000){r:Nat}(hr:r<ns.length)
include hv hn hr
include h1 h6 in
theorem aqV:CC 17 [fU (ns.map Nd.v),vI r,vI L]=some [vI 0]:=by
 refine alk ?_;unfold ab3;rw[cu];refine bF (bX zO) (bF (bX zO) (bF (bX zO) ?_));refine bs (fe ns.length (fun i=>(i:Int)) (.inr ((ns.length:Int),false)) (fun i hi=>?_) ?_) ?_
 .simp only[LY,DH];refine bT (dd hi) ?_;refine bs (HP hi) ?_
  try simp only[Nd.cells]
  refine bs (aow (hv i _ (cA hi))) (bF rfl ?_);rw[cN zO]
 .simp only[LY,DH];refine bF (bN (aC _)) ?_;rw[bN (aC _)]
 .simp only[db,un];exact bF (bX zO) (bF (bX zO) rfl)
structure Mk(ns:List Nd)(r:Nat)(mk:Nat->Bool):Prop where
 eR:mk r=true
 eLe:∀j,mk j=true->j<=r
 eA:∀(j:Nat) d,ns[j]?=some d->mk j=true->5<=d.op->mk d.a=true
 eB:∀(j:Nat) d,ns[j]?=some d->mk j=true->5<=d.op->d.op≠8->mk d.b=true
omit hv hn hr in
theorem VM{n a:Nat}{mk:Nat->Bool}:az (tab n fun i=>.bool (mk i)) (a:Int) (.bool true)=tab n fun i=>.bool (decide (i=a)||mk i):=by
 unfold az;rw[Int.toNat_natCast,m7];refine eK fun j _=>?_;by_cases c:j=a
 .rw[ai c];simp[c]
 .rw[af c];simp[c]
theorem aJf:∃mk,Mk ns r mk∧CC 19 [fU (ns.map Nd.v),vI r]=some [aB (tab ns.length fun i=>.bool (mk i))]:=by
 have e0:List.replicate ns.length (V.bool false)=tab ns.length fun _=>.bool false:=lB;have key:=qm (step:=Uy CC (ns.map Nd.v) (r:Int)) (fun t (s:Int×LV)=>∃mk:Nat->Bool,s=((r:Int)-(t:Int),tab ns.length fun i=>.bool (mk i))∧mk r=true∧(∀j,mk j=true->j<=r)∧(∀(j:Nat) d,r<j+t->ns[j]?=some d->mk j=true->5<=d.op->mk d.a=true)∧∀(j:Nat) d,r<j+t->ns[j]?=some d->mk j=true->5<=d.op->d.op≠8->mk d.b=true)
  (fun x=>∃mk:Nat->Bool,x=((-1:Int),false,tab ns.length fun i=>.bool (mk i))∧Mk ns r mk) (r+1) 0 ((r:Int),az (List.replicate ns.length (V.bool false)) (r:Int) (.bool true))
  (fun t _ ht s hs=>?_) (fun s hs=>?_) ⟨fun i=>decide (i=r)||false,by rw[e0,VM (mk:=fun _=>false)];simp,zS,zS,fun j d hj hd hm=>by simp at hm;omega,fun j d hj hd hm=>by simp at hm;omega⟩
 .obtain⟨x,e1,mk,rfl,hm⟩:=key;refine⟨mk,hm,aCT ?_⟩;unfold anv;rw[cu,Int.toNat_natCast];refine bT (lC zO zO) ((cK (v:=.bool false) (by simp[hr])).trans ?_);exact bs e1 rfl
 .obtain⟨mk,rfl,m1,m2,m3,m4⟩:=hs;rw[dT]at ht;obtain⟨i,hi⟩:∃i:Nat,i+t=r:=⟨r-t,zO⟩
  have ei:(r:Int)-(t:Int)=(i:Int):=zO;have en:wI ((i:Int)-1)=(r:Int)-((t+1:Nat):Int):=by rw[show(r:Int)-((t+1:Nat):Int)=(i:Int)-1 by omega];exact wrap64 zO zO
  have ku:i<ns.length:=zO;have av:=hv i _ (cA ku);rw[ei];simp only[Uy,NU,un];cases HS:mk i with
  |false=>
   refine⟨((r:Int)-((t+1:Nat):Int),tab ns.length fun i=>.bool (mk i)),bT (bQ zO) ((cK (fP ku)).trans (bT (by rw[HS];rfl) (by rw[en]))),mk,rfl,m1,m2,fun j d hj hd hm h5=>?_,fun j d hj hd hm h5 h8=>?_⟩
   .by_cases c:j=i
    .rw[c,HS]at hm;cases hm
    .exact m3 j d zO hd hm h5
   .by_cases c:j=i
    .rw[c,HS]at hm;cases hm
    .exact m4 j d zO hd hm h5 h8
  |true=>
   have pt:=qW (op:=ns[i].op) av.o8;by_cases h5:5<=ns[i].op
   .have ha:=av.a1 h5;have fx:ns[i].a<ns.length:=zO;by_cases h8:ns[i].op=8
    .refine⟨((r:Int)-((t+1:Nat):Int),tab ns.length fun j=>.bool (decide (j=ns[i].a)||mk j)),bT (bQ zO) ((cK (fP ku)).trans (bF (by rw[HS];rfl) (bs (HP ku) ?_))),fun j=>decide (j=ns[i].a)||mk j,rfl,by simp[m1],fun j hj=>?_,fun j d hj hd hm tG=>?_,fun j d hj hd hm tG VN=>?_⟩
     .try simp only[Nd.cells]
      refine bs pt ?_;simp only[V.bj,V.toInt_int,gI,gB];rw[HQ];unfold G6;refine bT (bQ h5) ((cK (fP fx)).trans (bs pt ?_));simp only[V.bj,V.toInt_int,gI,gB];rw[HR];refine bF (bX fun h=>h.2 h8) ?_;rw[en,VM]
     .simp only[ri,fp]at hj;rcases hj with rfl|hj
      .omega
      .exact m2 j hj
     .simp only[ri,fp]at hm⊢;by_cases c:j=i
      .subst c;rw[cA ku]at hd;cases hd;exact .inl rfl
      .refine .inr (m3 j d zO hd (hm.resolve_left fun e=>?_) tG);omega
     .simp only[ri,fp]at hm⊢;by_cases c:j=i
      .subst c;rw[cA ku]at hd;cases hd;exact absurd h8 VN
      .refine .inr (m4 j d zO hd (hm.resolve_left fun e=>?_) tG VN);omega
    .have hb:=av.b1 h5 h8;have sM:ns[i].b<ns.length:=zO;refine⟨((r:Int)-((t+1:Nat):Int),tab ns.length fun j=>.bool (decide (j=ns[i].b)||(decide (j=ns[i].a)||mk j))),bT (bQ zO) ((cK (fP ku)).trans (bF (by rw[HS];rfl) (bs (HP ku) ?_))),fun j=>decide (j=ns[i].b)||(decide (j=ns[i].a)||mk j),rfl,by simp[m1],fun j hj=>?_,fun j d hj hd hm tG=>?_,fun j d hj hd hm tG VN=>?_⟩
     .try simp only[Nd.cells]
      refine bs pt ?_;simp only[V.bj,V.toInt_int,gI,gB];rw[HQ];unfold G6;refine bT (bQ h5) ((cK (fP fx)).trans (bs pt ?_));simp only[V.bj,V.toInt_int,gI,gB];rw[HR,VM];refine bT (bQ ⟨h5,h8⟩) ((cK (fP sM)).trans ?_);rw[en,VM (mk:=fun j=>decide (j=ns[i].a)||mk j)]
     .simp only[ri,fp]at hj;rcases hj with rfl|rfl|hj
      .omega
      .omega
      .exact m2 j hj
     .simp only[ri,fp]at hm⊢;by_cases c:j=i
      .subst c;rw[cA ku]at hd;cases hd;exact .inr (.inl rfl)
      .refine .inr (.inr (m3 j d zO hd ((hm.resolve_left fun e=>?_).resolve_left fun e=>?_) tG))<;>omega
     .simp only[ri,fp]at hm⊢;by_cases c:j=i
      .subst c;rw[cA ku]at hd;cases hd;exact .inl rfl
      .refine .inr (.inr (m4 j d zO hd ((hm.resolve_left fun e=>?_).resolve_left fun e=>?_) tG VN))<;>omega
   .refine⟨((r:Int)-((t+1:Nat):Int),tab ns.length fun i=>.bool (mk i)),bT (bQ zO) ((cK (fP ku)).trans (bF (by rw[HS];rfl) (bs (HP ku) ?_))),mk,rfl,m1,m2,fun j d hj hd hm tG=>?_,fun j d hj hd hm tG h8=>?_⟩
    .try simp only[Nd.cells]
     refine bs pt ?_;simp only[V.bj,V.toInt_int,gI,gB];rw[HQ];unfold G6;refine bF (bX h5) (bs pt ?_);simp only[V.bj,V.toInt_int,gI,gB];rw[HR];refine bF (bX fun h=>h5 h.1) ?_;rw[en]
    .by_cases c:j=i
     .subst c;rw[cA ku]at hd;cases hd;exact absurd tG h5
     .exact m3 j d zO hd hm tG
    .by_cases c:j=i
     .subst c;rw[cA ku]at hd;cases hd;exact absurd tG h5
     .exact m4 j d zO hd hm tG h8
 .obtain⟨mk,rfl,m1,m2,m3,m4⟩:=hs;refine⟨((-1:Int),false,tab ns.length fun i=>.bool (mk i)),?_,mk,rfl,m1,m2,fun j d hd hm h5=>m3 j d zO hd hm h5,fun j d hd hm h5 h8=>m4 j d zO hd hm h5 h8⟩;simp only[Uy,NU,un];rw[show(r:Int)-((0+(r+1):Nat):Int)= -1 by omega];exact bF rfl rfl
end
section
open Ex
def Hi(w:List UInt8):Prop:=∀b∈w,97<=b.toNat
theorem mz.hi{w:List UInt8}{L:Int}(h:mz w L):Hi w:=fun b hb=>by
 obtain⟨i,hi,rfl⟩:=EU hb;have:=(h.2.2.2 i hi).1;unfold jK at this;rw[jf hi]at this;omega
structure we(g:List Nd)(i:Nat)(e:Ex):Prop where
 ok:e.Ok
 wf:e.wf 6=true
 ns:NS e
 dp:e.depth<=i+2
 sz:e.size+1<=3*2^i
 dv:∀w,Hi w->(e.dv w↔lg g i (lets w))
theorem aJg{w:List UInt8}(h:Hi w){x:Nat}:(∃c:UInt8,w=[c]∧(c.toNat:Int)-97=(x:Int))↔lets w=[x]:=by
 unfold lets
 match w with
 |[]=>simp
 |[c]=>
  have:=h c zS;simp;omega
 |_::_::_=>simp
section
variable {g:List Nd}{L:Nat}(hv:GV L g)(hL:L<=6){i:Nat}
include hv
include hL in
theorem aJh{op x a b:Nat}(hd:g[i]?=some ⟨op,x,a,b⟩)(ho:op=1∨op=2∨op=3):we g i (.node op x []):=by
 have hN:=hv i _ hd;have hp:0<2^i:=uT zS;rcases ho with rfl|rfl|rfl
 .have h0:=hN.x0 zS;simp only at h0;subst h0;refine⟨.node zO zO zS zS,by decide,.node (by decide) zS,by simp[depth,gH],by simp[size,eI];omega,fun w hw=>?_⟩;rw[wc,aeV hv hd];simp[jM]
 .have h0:=hN.x0 zS;simp only at h0;subst h0;refine⟨.node zO zO zS zS,by decide,.node (by decide) zS,by simp[depth,gH],by simp[size,eI];omega,fun w hw=>?_⟩;rw[wc,aeW hv hd];simp[jM,lets]
 .have h1:=hN.x1 rfl;simp only at h1;refine⟨.node zO zO zS zS,by simp[wf,qZ,Ez];omega,.node (by decide) zS,by simp[depth,gH],by simp[size,eI];omega,fun w hw=>?_⟩;rw[wc,OQ hv hd,<-aJg hw];simp[jM]
theorem aJi{x a b:Nat}(hd:g[i]?=some ⟨4,x,a,b⟩):we g i (.node 8 x [.node 1 0 []]):=by
 have hN:=hv i _ hd;have hp:0<2^i:=uT zS;have h0:=hN.x0 zS;simp only at h0;subst h0;refine⟨.node zO zO (by simp[maxLen]) (by simp;exact .node zO zO zS zS),by decide,.node (by decide) (by simp;exact .node (by decide) zS),by simp[depth,gH],by simp[size,eI];omega,fun w hw=>?_⟩;rw[wc,aeX hv hd];simp[jM,EA,wc]
theorem aJj{x a b:Nat}(hd:g[i]?=some ⟨8,x,a,b⟩){e:Ex}(he:we g a e):we g i (.node 8 x [e]):=by
 have hN:=hv i _ hd;have h0:=hN.x0 zS;simp only at h0;subst h0;have ha:=hN.a1 zS;simp only at ha;have hp:2*2^a<=2^i:=by rw[<-Nat.pow_succ'];exact pK zO ha
 have hs:=he.sz;have hdp:=he.dp;refine⟨.node zO zO (by simp[maxLen]) (by simpa using he.ok),by simp[wf,qZ,Ez,he.wf],.node (by decide) (by simpa using he.ns),by simp[depth,gH];omega,by simp[size,eI];omega,fun w hw=>?_⟩;rw[wc,ae1 hv hd,<-he.dv w hw];simp[jM,EA]
theorem aJk{op o x a b:Nat}(hd:g[i]?=some ⟨op,x,a,b⟩)(ho:op=5∧o=4∨op=6∧o=6∨op=7∧o=5){e f:Ex}(he:we g a e)(hf:we g b f):we g i (.node o x [e,f]):=by
 have hN:=hv i _ hd;have h0:=hN.x0 (by simp only;omega);simp only at h0;subst h0;have ha:=hN.a1 (by simp only;omega);simp only at ha;have hb:=hN.b1 (by simp only;omega) (by simp only;omega);simp only at hb;have hp:2*2^a<=2^i:=by rw[<-Nat.pow_succ'];exact pK zO ha
 have hq:2*2^b<=2^i:=by rw[<-Nat.pow_succ'];exact pK zO hb
 have hs:=he.sz;have ht:=hf.sz;have hdp:=he.dp;have hdq:=hf.dp;refine⟨.node zO zO (by simp[maxLen]) (by simp[he.ok,hf.ok]),?_,.node zO (by simp[he.ns,hf.ns]),by simp[depth,gH];omega,by simp[size,eI];omega,fun w hw=>?_⟩
 .rcases ho with⟨_,rfl⟩|⟨_,rfl⟩|⟨_,rfl⟩<;>simp[wf,qZ,Ez,he.wf,hf.wf]
 .rw[wc];rcases ho with⟨rfl,rfl⟩|⟨rfl,rfl⟩|⟨rfl,rfl⟩
  .rw[aeY hv hd,<-he.dv w hw,<-hf.dv w hw];simp[jM]
  .rw[aeZ hv hd,<-he.dv w hw,<-hf.dv w hw];simp[jM]
  .rw[ae0 hv hd];simp only[jM,OT,L2,iB,yr,List.foldl_cons,List.foldl_nil];constructor
   .intro h;simp at h;obtain⟨u,v,rfl,h1,h2⟩:=h;refine⟨lets u,lets v,aEc,(he.dv u fun b hb=>hw b (by simp[hb])).1 h1,(hf.dv v fun b hb=>hw b (by simp[hb])).1 h2⟩
   .rintro⟨u,v,e1,h1,h2⟩;obtain⟨u',v',rfl,rfl,rfl⟩:=List.map_eq_append_iff.1 e1;simp;exact⟨u',v',rfl,(he.dv u' fun b hb=>hw b (by simp[hb])).2 h1,(hf.dv v' fun b hb=>hw b (by simp[hb])).2 h2⟩
end
theorem VO{op o:Nat}(h:op=1∧o=1∨op=2∧o=2∨op=3∧o=3∨op=4∧o=8∨op=5∧o=4∨op=6∧o=6∨op=7∧o=5∨op=8∧o=8):CC 47 [vI op]=some [vI o]:=by
 refine aCV ?_;rcases h with⟨rfl,rfl⟩|⟨rfl,rfl⟩|⟨rfl,rfl⟩|⟨rfl,rfl⟩|⟨rfl,rfl⟩|⟨rfl,rfl⟩|⟨rfl,rfl⟩|⟨rfl,rfl⟩<;>rfl
section
variable {g:List Nd}{L:Nat}(hv:GV L g)(hL:L<=6)(hn:g.length<=100)
include hv hn
include hL in
theorem aJl(i:Nat):i<g.length->∃e,CC 23 [fU (g.map Nd.v),vI i]=some (nc e [])∧we g i e:=by
 induction i using Nat.strongRecOn with
 |ind i ih=>
 intro hi;have hd:=cA hi;have hN:=hv i _ hd;have iq:=HP hi;generalize g[i]=d at hd hN iq;obtain⟨op,x,a,b⟩:=d;obtain⟨o1,o8,_,_,a1,_,b1,_⟩:=hN;simp only at o1 o8 a1 b1;have fin:∀{e:Ex}{r},we g i e->r=some (nc e [])->G7 CC (g.map Nd.v) (i:Int)=r->∃e,CC 23 [fU (g.map Nd.v),vI i]=some (nc e [])∧we g i e:=fun h e1 e2=>⟨_,aCY (e2.trans e1),h⟩
 have one:∀k:Ex,(V.agg [vI k.op,vI k.letter,cM (k.kids.map enc)])=k.enc:=fun k=>(VF k).symm;by_cases h3:op<=3
 .refine fin (aJh hv hL hd zO) rfl ?_;unfold G7 D6 D7;refine bs iq (bs (VO (op:=op) (o:=op) zO) (bF ?_ (bs (qW (op:=op) o8) (bF ?_ (bs (qW (op:=op) o8) (bF ?_ rfl))))))
  .show((op:Int)==4)=false;simp;omega
  .simp only[V.bj,V.toInt_int,gI,gL];rw[HQ];exact bX zO
  .simp only[V.bj,V.toInt_int,gI,gL];rw[HR];exact bX fun h=>zO
 by_cases h4:op=4
 .subst h4;refine fin (aJi hv hd) rfl ?_;unfold G7 D6 D7;exact bs iq (bs (VO (op:=4) (o:=8) zO) (bT rfl (bs (qW (op:=4) o8) (bF rfl (bs (qW (op:=4) o8) (bF rfl rfl))))))
 have ha:=a1 zO;obtain⟨e,he,ge⟩:=ih a ha zO;by_cases h8:op=8
 .subst h8;refine fin (aJj hv hd ge) rfl ?_;unfold G7 D6 D7;refine bs iq (bs (VO (op:=8) (o:=8) zO) (bF rfl (bs (qW (op:=8) o8) (bT rfl (bs he (bT rfl (bs (qW (op:=8) o8) (bF rfl ?_))))))));simp only[nc,V.bj,V.toInt_int,iR,gK,V.dD,one,gI,gL,bM,fV];rfl
 have hb:=b1 zO h8;obtain⟨f,hf,gf⟩:=ih b hb zO;obtain⟨o,ho,sL⟩:∃o:Nat,(op=5∧o=4∨op=6∧o=6∨op=7∧o=5)∧True:=by
  rcases(by omega:op=5∨op=6∨op=7)with h|h|h
  .exact⟨4,.inl ⟨h,rfl⟩,trivial⟩
  .exact⟨6,.inr (.inl ⟨h,rfl⟩),trivial⟩
  .exact⟨5,.inr (.inr ⟨h,rfl⟩),trivial⟩
 refine fin (aJk hv hd (o:=o) ho ge gf) rfl ?_;unfold G7 D6 D7;refine bs iq (bs (VO (op:=op) (o:=o) zO) (bF ?_ (bs (qW (op:=op) o8) (bT ?_ (bs he (bT rfl (bs (qW (op:=op) o8) (bT ?_ (bs hf (bT rfl ?_))))))))))
 .show((op:Int)==4)=false;simp;omega
 .simp only[V.bj,V.toInt_int,gI,gL];rw[HQ];exact bQ zO
 .simp only[V.bj,V.toInt_int,gI,gL];rw[HR];exact bQ ⟨zO,zO⟩
 .simp only[nc,V.bj,V.toInt_int,iR,gK,V.dD,one,gI,gL,bM,fV];rfl
omit hv hn in
theorem z8{N i:Nat}{f:Nat->Int}{v:Int}:az (tab N fun j=>vI (f j)) (i:Int) (vI v)=tab N fun j=>vI (if j=i then v else f j):=by
 unfold az;rw[Int.toNat_natCast,m7];refine eK fun j _=>?_;by_cases c:j=i
 .rw[ai c,ai c]
 .rw[af c,af c]
theorem aJm{r:Nat}(hr:r<g.length):∃s d:Int,CC 22 [fU (g.map Nd.v),vI r]=some [vI s,vI d]:=by
 have hw:wI ((r:Int)+1)=((r+1:Nat):Int):=by rw[cN zO]
 have hG:∀i (h:i<g.length),i<r+1->idx (((g.map Nd.v).drop 0).take (r+1-0)) (i:Int)=some g[i].v:=fun i h hi=>by
  rw[JI rfl,List.getElem?_take,ai zO];simp[h]
 have HO:(((g.map Nd.v).drop 0).take (r+1-0)).length=r+1:=by simp;omega
 generalize hGG:((g.map Nd.v).drop 0).take (r+1-0)=G at hG HO;have key:=qm (step:=Uz CC G ((r+1:Nat):Int) (g.map Nd.v) (r:Int)) (fun i (s:Int×LV×LV)=>∃f h:Nat->Int,s=((i:Int),tab (r+1) fun j=>vI (f j),tab (r+1) fun j=>vI (h j)))
  (fun x=>∃f h:Nat->Int,x=(((r+1:Nat):Int),false,tab (r+1) fun j=>vI (f j),tab (r+1) fun j=>vI (h j))) (r+1) 0 (0,tab (r+1) fun _=>vI 0,tab (r+1) fun _=>vI 0)
  (fun i _ hi s hs=>?_) (fun s hs=>?_) ⟨fun _=>0,fun _=>0,rfl⟩
 .obtain⟨x,e1,f,h,rfl⟩:=key;refine⟨f r,h r,aDa ?_⟩;unfold anx;rw[hw,Int.toNat_natCast,hGG,HO,lB];refine bT (lC zO zO) (bT (lC zO zO) (bT ?_ (bs e1 ?_)))
  .simp;omega
  .simp only[un];exact(cK (fP (show r<r+1 by omega))).trans (cK (fP (show r<r+1 by omega)))
 .obtain⟨f,h,rfl⟩:=hs;rw[dT]at hi;have ku:i<g.length:=zO;have hN:=hv i _ (cA ku);have iq:=hG i ku hi;generalize g[i]=d at hN iq;obtain⟨op,x,a,b⟩:=d;obtain⟨_,o8,_,_,a1,_,b1,_⟩:=hN;simp only at o8 a1 b1;have p1:∀{c:Bool}{f h:Nat->Int}{t21:LV}{t22 t23 n0 n1 n2 n3 g1:Int}{g0:LV},∃f' h':Nat->Int,∀{β:Type}(kr:LV×LV->Option β),NV CC (i:Int) t21 t22 t23 c g0 g1 (tab (r+1) fun j=>vI (f j)) (tab (r+1) fun j=>vI (h j)) n0 n1 n2 n3 kr=kr (tab (r+1) fun j=>vI (f' j),tab (r+1) fun j=>vI (h' j)):=by
   intro c f h _ _ _ _ _ _ _ _ _;cases c with
   |false=>exact⟨f,h,fun kr=>rfl⟩
   |true=>
    refine⟨fun j=>if j=i then 2 else f j,fun j=>if j=i then 2 else h j,fun kr=>?_⟩;unfold NV;refine bT rfl ((cK (fP hi)).trans ((cK (fP hi)).trans ?_));rw[z8,z8]
  have p2:∀{c:Bool}{f h:Nat->Int}{t21:LV}{t22 t23 n0 n1 n3 g1:Int}{g0:LV},(c=true->a<r+1)->∃f' h':Nat->Int,∀{β:Type}(kr:LV×LV->Option β),NW CC (i:Int) t21 t22 t23 c g0 g1 (tab (r+1) fun j=>vI (f j)) (tab (r+1) fun j=>vI (h j)) n0 n1 (a:Int) n3 kr=kr (tab (r+1) fun j=>vI (f' j),tab (r+1) fun j=>vI (h' j)):=by
   intro c f h _ _ _ _ _ _ _ _ hc;cases c with
   |false=>exact⟨f,h,fun kr=>rfl⟩
   |true=>
    have hc:=hc rfl;refine⟨fun j=>if j=i then wI (f i+f a)else f j,fun j=>if j=i then wI (h a+1)else h j,fun kr=>?_⟩;unfold NW;refine bT rfl ((cK (fP hi)).trans ((cK (fP hc)).trans ((cK (fP hi)).trans ((cK (fP hc)).trans ((cK (fP hi)).trans ?_)))));simp only[V.toInt_int];rw[z8,z8]
  have p3:∀{c:Bool}{f h:Nat->Int}{t21:LV}{t22 t23 n0 n1 n2 g1:Int}{g0:LV},(c=true->b<r+1)->∃f' h':Nat->Int,∀{β:Type}(kr:LV×LV->Option β),NX CC (i:Int) t21 t22 t23 c g0 g1 (tab (r+1) fun j=>vI (f j)) (tab (r+1) fun j=>vI (h j)) n0 n1 n2 (b:Int) kr=kr (tab (r+1) fun j=>vI (f' j),tab (r+1) fun j=>vI (h' j)):=by
   intro c f h _ _ _ _ _ _ _ _ hc;cases c with
   |false=>exact⟨f,h,fun kr=>rfl⟩
   |true=>
    have hc:=hc rfl;refine⟨fun j=>if j=i then wI (f i+f b)else f j,fun j=>if j=i then(if wI (h b+1)>h i then wI (h b+1)else h i)else h j,fun kr=>?_⟩;unfold NX;refine bT rfl ((cK (fP hi)).trans ((cK (fP hc)).trans ((cK (fP hi)).trans ((cK (fP hi)).trans ((cK (fP hc)).trans ((cK (fP hi)).trans ?_))))));simp only[V.toInt_int];rw[z8,z8]
  have c1:((nU op:Int)>=1:Bool)=true->a<r+1:=fun h=>by rw[HQ]at h;have:=a1 (tH h);omega
  have c2:((nU op:Int)==2)=true->b<r+1:=fun h=>by rw[HR]at h;have:=b1 (tH h).1 (tH h).2;omega
  obtain⟨f1,h1,e1⟩:=@p1 ((op:Int)==4) (fun j=>if j=i then 1 else f j) (fun j=>if j=i then 1 else h j) G ((r+1:Nat):Int) (i:Int) (op:Int) (x:Int) (a:Int) (b:Int) (r:Int) (g.map Nd.v);obtain⟨f2,h2,e2⟩:=@p2 (decide ((nU op:Int)>=1)) f1 h1 G ((r+1:Nat):Int) (i:Int) (op:Int) (x:Int) (b:Int) (r:Int) (g.map Nd.v) c1;obtain⟨f3,h3,e3⟩:=@p3 ((nU op:Int)==2) f2 h2 G ((r+1:Nat):Int) (i:Int) (op:Int) (x:Int) (a:Int) (r:Int) (g.map Nd.v) c2;refine⟨(((i+1:Nat):Int),tab (r+1) fun j=>vI (if j=i then(if 401<f3 i then 401 else f3 i)else f3 j),tab (r+1) fun j=>vI (h3 j)),?_,_,_,rfl⟩;simp only[Uz,NY,un];refine bT (dd hi) (bs iq ((cK (fP hi)).trans ((cK (fP hi)).trans ?_)));rw[z8,z8];refine(e1 _).trans (bs (qW (op:=op) o8) ((e2 _).trans (bs (qW (op:=op) o8) ((e3 _).trans ((cK (fP hi)).trans ((cK (fP hi)).trans ?_))))))
  simp only[V.toInt_int];rw[z8,cN zO]
 .obtain⟨f,h,rfl⟩:=hs;rw[dT];refine⟨(((r+1:Nat):Int),false,tab (r+1) fun j=>vI (f j),tab (r+1) fun j=>vI (h j)),?_,f,h,rfl⟩;simp only[Uz,NY,un];refine bF (bN (aC _)) ?_;rw[bN (aC _)]
include hL in
theorem aJn{r:Nat}(hr:r<g.length)(h1:1<=L):(∃e,we g r e∧CC 9 [fU (g.map Nd.v),vI r,vI L]=some [vI e.op,vI e.letter,vI 0,cM (e.kids.map enc)])∨
  CC 9 [fU (g.map Nd.v),vI r,vI L]=some [vI 0,vI 0,vI 3,cM []]:=by
 obtain⟨s,d,e1⟩:=aJm hv hn hr;obtain⟨e,e2,he⟩:=aJl hv hL hn r hr;have e0:=aqV hv h1 hL (by omega:g.length<=20000) hr;by_cases h2:s>400
 .refine .inr (adw ?_);exact bs e0 (bF rfl (bs e1 (bT (bQ h2) rfl)))
 by_cases h3:d>40
 .refine .inr (adw ?_);exact bs e0 (bF rfl (bs e1 (bF (bX h2) (bT (bQ h3) rfl))))
 .refine .inl ⟨e,he,adw ?_⟩;exact bs e0 (bF rfl (bs e1 (bF (bX h2) (bF (bX h3) (bs e2 rfl)))))
end
end
def O5(x:Nat):V:=.agg [.int .u64 x,.int .u64 0]
section
variable {c d j:Nat}(hc:c<2^64)(hd:d<2^64)(hj:j<64)
include hc in
theorem afb(hj:j<64):CC 42 [.int .u64 c,.int .u64 0,vI j]=some [.int .u64 (c|||2^j:Nat),.int .u64 0]:=by
 refine aDc ?_;have e1:wI (Int.tdiv (j:Int) 64)=0:=by rw[Int.tdiv_eq_zero_of_lt zO zO];rfl
 have e2:Int.tmod (j:Int) 64=(j:Int):=Int.tmod_eq_of_lt zO zO;unfold anz;simp only[e1,e2];refine bT rfl (bs (a:=V.int .u64 c) rfl (bT (bQ zO) (bT rfl (bT rfl ?_))));rw[Int.toNat_natCast,A0 hj,V.toInt_int,u64_or hc (kK zO hj)];rfl
include hc in
theorem afc(hj:j<64):CC 21 [.int .u64 c,.int .u64 0,vI j]=some [.bool (c.testBit j)]:=by
 refine aDd ?_;have e1:wI (Int.tdiv (j:Int) 64)=0:=by rw[Int.tdiv_eq_zero_of_lt zO zO];rfl
 have e2:Int.tmod (j:Int) 64=(j:Int):=Int.tmod_eq_of_lt zO zO;unfold anA;simp only[e1,e2];refine bT rfl (bs (a:=V.int .u64 c) rfl (bT (bQ zO) ?_));rw[Int.toNat_natCast,V.toInt_int,Yh hc hj]
include hc hd in
theorem aqW:CC 44 [.int .u64 c,.int .u64 0,.int .u64 d,.int .u64 0]=some [.int .u64 (c|||d:Nat),.int .u64 0]:=by
 refine aDe ?_;unfold anB;rw[u64_or hc hd];rfl
include hc hd in
theorem aJo:CC 45 [.int .u64 c,.int .u64 0,.int .u64 d,.int .u64 0]=some [.int .u64 (c&&&d:Nat),.int .u64 0]:=by
 refine aDf ?_;unfold anC;rw[u64_and hc hd];rfl
include hc in
theorem aJp(d:Nat):∃x:Nat,x<2^64∧(∀i,x.testBit i=(c.testBit i&&!(d.testBit i)))∧CC 46 [.int .u64 c,.int .u64 0,.int .u64 d,.int .u64 0]=some [.int .u64 x,.int .u64 0]:=by
 obtain⟨x,h1,h2,h3⟩:=u64_andNot d hc;refine⟨x,h1,h2,aDg ?_⟩;unfold anD;rw[h3];rfl
end
theorem afd{c j i:Nat}:(c|||2^j).testBit i=(c.testBit i||decide (i=j)):=by
 rw[rh,wm];by_cases h:i=j
 .subst h;simp
 .rw[bX h,bX (fun e=>h e.symm)]
theorem aJq{p n:Nat}(hp:p<=n+1)(hn:n<60):∃x:Nat,x<2^64∧(∀i,x.testBit i=decide (p<=i∧i<=n))∧CC 43 [vI p,vI n]=some [.int .u64 x,.int .u64 0]:=by
 have key:=qm (step:=UB CC (n:Int) 0 0) (fun i (s:Int×Int×Int)=>∃x:Nat,s=(((p+i:Nat):Int),(x:Int),0)∧x<2^64∧∀j,x.testBit j=decide (p<=j∧j<p+i))
  (fun r=>∃x:Nat,r=(((n+1:Nat):Int),false,(x:Int),0)∧x<2^64∧∀j,x.testBit j=decide (p<=j∧j<n+1)) (n+1-p) 0 ((p:Int),0,0)
  (fun i _ hi s hs=>?_) (fun s hs=>?_) ⟨0,rfl,by decide,fun j=>by rw[Aj,bX zO]⟩
 .obtain⟨r,e1,x,rfl,h1,h2⟩:=key;refine⟨x,h1,fun i=>by rw[h2];exact yv.2 zO,aDl ?_⟩;unfold anE;exact bs e1 rfl
 .obtain⟨x,rfl,h1,h2⟩:=hs;rw[dT]at hi;refine⟨(((p+(i+1):Nat):Int),((x|||2^(p+i):Nat):Int),0),?_,x|||2^(p+i),rfl,qt h1 (kK zO zO),fun j=>?_⟩
  .simp only[UB,NZ,un];refine bT (bQ zO) (bs (afb h1 zO) ?_);rw[show((p+i:Nat):Int)+1=((p+(i+1):Nat):Int) by omega,show wI ((p+(i+1):Nat):Int)=((p+(i+1):Nat):Int)from wrap64 zO zO];rfl
  .rw[afd,h2];by_cases c:j=p+i
   .rw[bQ c,Bool.or_true,bQ zO]
   .rw[bX c,Bool.or_false];exact yv.2 zO
 .obtain⟨x,rfl,h1,h2⟩:=hs;rw[show p+(0+(n+1-p))=n+1 by omega]at h2⊢;refine⟨(((n+1:Nat):Int),false,(x:Int),0),?_,x,rfl,h1,h2⟩;simp only[UB,NZ,un];refine bF (bX zO) ?_;rw[bX zO]
def jN(u:LN)(p q:Nat):LN:=(u.drop p).take (q-p)
structure HT(P:LN->Prop)(u:LN)(p x:Nat):Prop where
 lt:x<2^64
 bit:∀q,q<=u.length->(x.testBit q=true↔p<=q∧P (jN u p q))
structure HU(P:LN->Prop)(u:LN)(t:LN):Prop where
 len:t.length=u.length+1
 gd:∀p,p<=u.length->HT P u p (t.getD p 0)
theorem aqX{u:LN}{p q:Nat}(uJ:p<=q)(hq:q<=u.length){P Q:LN->Prop}:(∃a b,jN u p q=a++b∧P a∧Q b)↔∃k,p<=k∧k<=q∧P (jN u p k)∧Q (jN u k q):=by
 have hl:(jN u p q).length=q-p:=by unfold jN;simp;omega
 have e1:∀k,p<=k->k<=q->(jN u p q).take (k-p)=jN u p k:=fun k h1 h2=>by
  unfold jN;rw[List.take_take,show min (k-p) (q-p)=k-p by omega]
 have e2:∀k,p<=k->k<=q->(jN u p q).drop (k-p)=jN u k q:=fun k h1 h2=>by
  unfold jN;rw[List.drop_take,H8,show p+(k-p)=k by omega,show q-p-(k-p)=q-k by omega]
 constructor
 .rintro⟨a,b,e,ha,hb⟩;have fx:a.length<=q-p:=by rw[<-hl,e];simp
  refine⟨p+a.length,zO,zO,?_,?_⟩
  .rw[<-e1 _ zO zO,e,show p+a.length-p=a.length by omega,List.take_left];exact ha
  .rw[<-e2 _ zO zO,e,show p+a.length-p=a.length by omega,List.drop_left];exact hb
 .rintro⟨k,h1,h2,ha,hb⟩;exact⟨(jN u p q).take (k-p),(jN u p q).drop (k-p),(List.take_append_drop _ _).symm,by rw[e1 k h1 h2];exact ha,by rw[e2 k h1 h2];exact hb⟩
def fD(t:LN):LV:=t.map O5
theorem O6{t:LN}{p:Nat}(h:p<t.length):(fD t)[p]?=some (O5 (t.getD p 0)):=by simp[fD,h]
theorem EJ{t:LN}{p x:Nat}:az (fD t) (p:Int) (.agg [.int .u64 x,.int .u64 0])=fD (t.set p x):=by
 unfold az fD;rw[Int.toNat_natCast,Ic];rfl
theorem VP{t:LN}{p:Nat}(h:t.getD p 0=0):t.set p 0=t:=by
 refine wi fun i=>?_;rw[yp];by_cases c:p=i
 .subst c;rw[ai rfl];by_cases d:p<t.length
  .rw[ai d,cA d];rw[jf d]at h;rw[h]
  .rw[af d,Ah zO]
 .rw[af c]
theorem BR{t:LN}{p:Nat}(h:p<t.length):idx (fD t) (p:Int)=some (O5 (t.getD p 0)):=by rw[JI rfl];exact O6 h
structure BT(P:LN->Prop)(u:LN)(tables:LV)(a:Nat)(ta:LN):Prop where
 ix:idx tables (a:Int)=some (oC (fD ta))
 tb:HU P u ta
theorem aqY{u:LN}{p q:Nat}(uJ:p<=q)(hq:q<=u.length):(jN u p q).length=q-p:=by unfold jN;simp;omega
theorem aqZ{u:LN}{p q:Nat}(uJ:p<=q)(hq:q<=u.length):jN u p q=[]↔q=p:=by
 rw[<-yl,aqY uJ hq];omega
theorem VQ{u:LN}{p q x:Nat}(uJ:p<=q)(hq:q<=u.length):jN u p q=[x]↔q=p+1∧u.getD p 0=x:=by
 constructor
 .intro e;have h1:q=p+1:=by have:=aqY uJ hq;rw[e]at this;simp at this;omega
  subst h1;refine⟨rfl,?_⟩;have h2:u.drop p=u[p]::u.drop (p+1):=BW zO;unfold jN at e;rw[h2,show p+1-p=0+1 by omega,List.take_succ_cons,List.take_zero]at e;rw[jf zO];exact(yn e).1
 .rintro⟨rfl,rfl⟩;have h2:u.drop p=u[p]::u.drop (p+1):=BW zO;unfold jN;rw[h2,show p+1-p=0+1 by omega,jf zO,List.take_succ_cons,List.take_zero]
section
variable {ns:List Nd}{i:Nat}{w:List UInt8}(hl:w.length<=40){tables:LV}{op x a b:Nat}{ta tb t:LN}{p:Nat}(ht:t.length=w.length+1)(hz:t.getD p 0=0)(hp:p<=w.length)
include hl ht hz hp
theorem aJr{t15 t16 n0 n1:Int}(hA:BT (lg ns a) (lets w) tables a ta)(hB:BT (lg ns b) (lets w) tables b tb):∃y,Loop (N3 CC tables w (p:Int) t15 t16 n0 n1 (a:Int) (b:Int)) ((p:Int),fD t)=some (((w.length+1:Nat):Int),false,fD (t.set p y))∧y<2^64∧∀q,q<=w.length->(y.testBit q=true↔p<=q∧∃k,p<=k∧k<=q∧lg ns a (jN (lets w) p k)∧lg ns b (jN (lets w) k q)):=by
 have z9:(lets w).length=w.length:=zP;have hta:ta.length=w.length+1:=by rw[hA.tb.len,z9]
 have FI:tb.length=w.length+1:=by rw[hB.tb.len,z9]
 have ga:=hA.tb.gd p zO;have key:=qm (step:=N3 CC tables w (p:Int) t15 t16 n0 n1 (a:Int) (b:Int)) (fun m (s:Int×LV)=>∃y,s=(((p+m:Nat):Int),fD (t.set p y))∧y<2^64∧∀q,q<=w.length->(y.testBit q=true↔∃k,p<=k∧k<p+m∧k<=q∧lg ns a (jN (lets w) p k)∧lg ns b (jN (lets w) k q)))
  (fun r=>∃y,r=(((w.length+1:Nat):Int),false,fD (t.set p y))∧y<2^64∧∀q,q<=w.length->(y.testBit q=true↔p<=q∧∃k,p<=k∧k<=q∧lg ns a (jN (lets w) p k)∧lg ns b (jN (lets w) k q))) (w.length+1-p) 0 ((p:Int),fD t)
  (fun m _ hm s hs=>?_) (fun s hs=>?_) ⟨0,by rw[VP hz];rfl,by decide,fun q _=>⟨fun h=>(by rw[Aj]at h;cases h),fun⟨k,h1,h2,_⟩=>zO⟩⟩
 .obtain⟨r,e1,y,rfl,h1,h2⟩:=key;exact⟨y,e1,h1,h2⟩
 .obtain⟨y,rfl,h1,h2⟩:=hs;rw[dT]at hm;have gb:=hB.tb.gd (p+m) zO;simp only[N3,N0,un];have hy:(t.set p y).getD p 0=y:=by simp[show p<t.length by omega]
  have e2:wI (((p+m:Nat):Int)+1)=((p+(m+1):Nat):Int):=by rw[cN zO];rfl
  by_cases c:(ta.getD p 0).testBit (p+m)=true
  .refine⟨(((p+(m+1):Nat):Int),fD (t.set p (y|||tb.getD (p+m) 0))),?_,_,rfl,qt h1 gb.lt,fun q hq=>?_⟩
   .refine bT (bQ zO) (bs hA.ix (bs (BR zO) (bs (afc ga.lt zO) (bT c ((cK (O6 (by simp;omega))).trans (bs hB.ix (bs (BR zO) ?_)))))));rw[hy];refine bs (aqW h1 gb.lt) ((cK (O6 (by simp;omega))).trans ?_);rw[e2];refine congrArg (fun z=>some (Sum.inl (_,z))) (EJ.trans ?_);rw[List.set_set]
   .rw[rh,ri,h2 q hq,gb.bit q zO];have hk:=(ga.bit (p+m) zO).1 c;constructor
    .rintro(⟨k,g1,g2,g3⟩|⟨g1,g2⟩)
     .exact⟨k,g1,zO,g3⟩
     .exact⟨p+m,zO,zO,g1,hk.2,g2⟩
    .rintro⟨k,g1,g2,g3,g4,g5⟩;by_cases ck:k=p+m
     .subst ck;exact .inr ⟨g3,g5⟩
     .exact .inl ⟨k,g1,zO,g3,g4,g5⟩
  .refine⟨(((p+(m+1):Nat):Int),fD (t.set p y)),?_,y,rfl,h1,fun q hq=>?_⟩
   .refine bT (bQ zO) (bs hA.ix (bs (BR zO) (bs (afc ga.lt zO) (bF (by simpa using c) ?_))));rw[e2]
   .rw[h2 q hq];constructor
    .rintro⟨k,g1,g2,g3⟩;exact⟨k,g1,zO,g3⟩
    .rintro⟨k,g1,g2,g3,g4,g5⟩;by_cases ck:k=p+m
     .subst ck;exact absurd ((ga.bit (p+m) zO).2 ⟨zO,g4⟩) c
     .exact⟨k,g1,zO,g3,g4,g5⟩
 .obtain⟨y,rfl,h1,h2⟩:=hs;rw[show p+(0+(w.length+1-p))=w.length+1 by omega]at h2⊢;refine⟨(((w.length+1:Nat):Int),false,fD (t.set p y)),?_,y,rfl,h1,fun q hq=>?_⟩
  .simp only[N3,N0,un];refine bF (bX zO) ?_;rw[bX zO]
  .rw[h2 q hq];constructor
   .rintro⟨k,g1,g2,g3,g4⟩;exact⟨zO,k,g1,g3,g4⟩
   .rintro⟨g0,k,g1,g3,g4⟩;exact⟨k,g1,zO,g3,g4⟩
theorem aJs{L:Nat}(hv:GV L ns)(hL:L<=6)(hw:mz w 6)(hd:ns[i]?=some ⟨op,x,a,b⟩)(hA:5<=op->BT (lg ns a) (lets w) tables a ta)(hB:5<=op->op≠8->BT (lg ns b) (lets w) tables b tb){t15:Int}{β:Type}(kr:LV->Option β):∃y,HT (lg ns i) (lets w) p y∧N7 CC tables w (p:Int) t15 (p:Int) (op:Int) ((op:Int)==2) (op:Int) (x:Int) (a:Int) (b:Int) (fD t) kr=kr (fD (t.set p y)):=by
 have z9:(lets w).length=w.length:=zP;have ok:=hv i _ hd;have o1:1<=op:=ok.o1;have o8:op<=8:=ok.o8;have cw:∀{m n:Nat},m≠n->((m:Int)==(n:Int))=false:=fun h=>by simp;omega
 have gz:(fD t)[p]?=some (O5 0):=by rw[O6 zO,hz]
 unfold N7;by_cases c2:op=2
 .subst c2;refine⟨0|||2^p,⟨qt (by decide) (kK zO zO),fun q hq=>?_⟩,?_⟩
  .rw[afd,Aj,EM,fp,aeW hv hd];constructor
   .rintro rfl;exact⟨aC _,(aqZ (aC _) hq).2 rfl⟩
   .rintro⟨h1,h2⟩;exact(aqZ h1 hq).1 h2
  .refine bT rfl ((cK gz).trans (bs (afb (by decide) zO) ((cK gz).trans ?_)));exact congrArg kr EJ
 suffices h:∃y,HT (lg ns i) (lets w) p y∧N6 CC tables w (p:Int) t15 (p:Int) (op:Int) ((op:Int)==3) (op:Int) (x:Int) (a:Int) (b:Int) (fD t) kr=kr (fD (t.set p y)) by
  obtain⟨y,h1,h2⟩:=h;exact⟨y,h1,bF (cw (n:=2) c2) h2⟩
 unfold N6;by_cases c3:op=3
 .subst c3;by_cases cp:p<w.length
  .have h0:=(hw.2.2.2 p cp).1;have eL:wI (IntKind.wrap .u8 (((w.getD p 0).toNat:Int)-97))=(((lets w).getD p 0:Nat):Int):=by
    rw[UL h0,<-adS cp h0];have:(lets w).getD p 0<6:=an5 (L:=6) hw cp;exact wrap64 zO zO
   by_cases cx:(lets w).getD p 0=x
   .refine⟨0|||2^(p+1),⟨qt (by decide) (kK zO zO),fun q hq=>?_⟩,?_⟩
    .rw[afd,Aj,EM,fp,OQ hv hd];constructor
     .rintro rfl;exact⟨zO,(VQ zO hq).2 ⟨rfl,cx⟩⟩
     .rintro⟨h1,h2⟩;exact((VQ h1 hq).1 h2).1
    .refine bT rfl (bT (dd cp) (bs (On cp) ?_));rw[V.toInt_int,eL,cx,cN zO];refine bT zS ((cK gz).trans (bs (afb (by decide) zO) ((cK gz).trans ?_)));exact congrArg kr EJ
   .refine⟨0,⟨by decide,fun q hq=>⟨fun h=>(by rw[Aj]at h;cases h),fun⟨h1,h2⟩=>?_⟩⟩,?_⟩
    .rw[OQ hv hd]at h2;exact absurd ((VQ h1 hq).1 h2).2 cx
    .refine bT rfl (bT (dd cp) (bs (On cp) ?_));rw[V.toInt_int,eL,VP hz];exact bF (cw cx) rfl
  .refine⟨0,⟨by decide,fun q hq=>⟨fun h=>(by rw[Aj]at h;cases h),fun⟨h1,h2⟩=>?_⟩⟩,?_⟩
   .rw[OQ hv hd]at h2;have:=((VQ h1 hq).1 h2).1;omega
   .rw[VP hz];exact bT rfl (bF (bN zO) rfl)
 suffices h:∃y,HT (lg ns i) (lets w) p y∧N5 CC tables w (p:Int) t15 (p:Int) (op:Int) ((op:Int)==4) (op:Int) (x:Int) (a:Int) (b:Int) (fD t) kr=kr (fD (t.set p y)) by
  obtain⟨y,h1,h2⟩:=h;exact⟨y,h1,bF (cw (n:=3) c3) h2⟩
 unfold N5;obtain⟨bw,mO,fN,hb3⟩:=aJq (p:=p) (n:=w.length) zO zO;by_cases c4:op=4
 .subst c4;refine⟨bw,⟨mO,fun q hq=>?_⟩,bT rfl (bs hb3 ((cK gz).trans (congrArg kr EJ)))⟩;rw[fN,fp,aeX hv hd];exact⟨fun h=>⟨h.1,trivial⟩,fun h=>⟨h.1,zO⟩⟩
 suffices h:∃y,HT (lg ns i) (lets w) p y∧N4 CC tables w (p:Int) t15 (p:Int) (op:Int) ((op:Int)==5) (op:Int) (x:Int) (a:Int) (b:Int) (fD t) kr=kr (fD (t.set p y)) by
  obtain⟨y,h1,h2⟩:=h;exact⟨y,h1,bF (cw (n:=4) c4) h2⟩
 unfold N4;by_cases c1:op=1
 .subst c1;refine⟨0,⟨by decide,fun q hq=>⟨fun h=>(by rw[Aj]at h;cases h),fun⟨_,h2⟩=>absurd h2 (by rw[aeV hv hd];exact id)⟩⟩,?_⟩;rw[VP hz];rfl
 have h5:5<=op:=zO;have A:=hA h5;have hta:ta.length=w.length+1:=by rw[A.tb.len,z9]
 have ga:=A.tb.gd p zO;by_cases c8:op=8
 .subst c8;obtain⟨y,y1,y2,y3⟩:=aJp mO (ta.getD p 0);refine⟨y,⟨y1,fun q hq=>?_⟩,bF rfl (bF rfl (bF rfl (bT rfl (bs hb3 (bs A.ix (bs (BR zO) (bs y3 ((cK gz).trans (congrArg kr EJ)))))))))⟩;rw[y2,fN,ae1 hv hd,aZ,fp,ng,<-Bool.not_eq_true,ga.bit q hq];constructor
  .rintro⟨h1,h2⟩;exact⟨h1.1,fun h=>h2 ⟨h1.1,h⟩⟩
  .rintro⟨h1,h2⟩;exact⟨⟨h1,zO⟩,fun h=>h2 h.2⟩
 have B:=hB h5 c8;have FI:tb.length=w.length+1:=by rw[B.tb.len,z9]
 have gb:=B.tb.gd p zO;by_cases c5:op=5
 .subst c5;refine⟨_,⟨qt ga.lt gb.lt,fun q hq=>?_⟩,bT rfl (bs A.ix (bs (BR zO) (bs B.ix (bs (BR zO) (bs (aqW ga.lt gb.lt) ((cK gz).trans (congrArg kr EJ)))))))⟩;rw[rh,ri,ga.bit q hq,gb.bit q hq,aeY hv hd,and_or_left]
 by_cases c6:op=6
 .subst c6;refine⟨_,⟨uS B6 ga.lt,fun q hq=>?_⟩,bF rfl (bT rfl (bs A.ix (bs (BR zO) (bs B.ix (bs (BR zO) (bs (aJo ga.lt gb.lt) ((cK gz).trans (congrArg kr EJ))))))))⟩;rw[Ai,aZ,ga.bit q hq,gb.bit q hq,aeZ hv hd];exact⟨fun h=>⟨h.1.1,h.1.2,h.2.2⟩,fun h=>⟨⟨h.1,h.2.1⟩,h.1,h.2.2⟩⟩
 have c7:op=7:=zO;subst c7;obtain⟨y,e1,y1,y2⟩:=aJr hl ht hz hp (t15:=t15) (t16:=(p:Int)) (n0:=7) (n1:=(x:Int)) A B;refine⟨y,⟨y1,fun q hq=>?_⟩,bF rfl (bF rfl (bT rfl (bs e1 rfl)))⟩;rw[y2 q zO,ae0 hv hd];exact⟨fun h=>⟨h.1,(aqX h.1 hq).2 h.2⟩,fun h=>⟨h.1,(aqX h.1 hq).1 h.2⟩⟩
end
theorem aJt{L:Nat}{ns:List Nd}(hv:GV L ns)(hL:L<=6){w:List UInt8}(hw:mz w 6)(hl:w.length<=40){tables:LV}{i:Nat}{d:Nd}(hd:ns[i]?=some d){ta tb:LN}(hA:5<=d.op->BT (lg ns d.a) (lets w) tables d.a ta)(hB:5<=d.op->d.op≠8->BT (lg ns d.b) (lets w) tables d.b tb):∃t,HU (lg ns i) (lets w) t∧CC 20 [vI d.op,vI d.x,vI d.a,vI d.b,.list 61 tables,.str w]=some [oC (fD t)]:=by
 have z9:(lets w).length=w.length:=zP;obtain⟨op,x,a,b⟩:=d;have e0:List.replicate (w.length+1) (V.agg [.int .u64 0,.int .u64 0])=fD (List.replicate (w.length+1) 0):=by unfold fD;rw[List.map_replicate];rfl
 have key:=qm (step:=UC CC tables w ((w.length+1:Nat):Int) (op:Int) (x:Int) (a:Int) (b:Int)) (fun p (s:Int×LV)=>∃t,s=((p:Int),fD t)∧t.length=w.length+1∧(∀q,p<=q->t.getD q 0=0)∧∀q,q<p->HT (lg ns i) (lets w) q (t.getD q 0))
  (fun r=>∃t,r=(((w.length+1:Nat):Int),false,fD t)∧HU (lg ns i) (lets w) t) (w.length+1) 0 (0,fD (List.replicate (w.length+1) 0))
  (fun p _ hp s hs=>?_) (fun s hs=>?_) ⟨_,rfl,BY,fun q _=>by simp[List.getD];grind,fun q hq=>zO⟩
 .obtain⟨r,e1,t,rfl,h1⟩:=key;refine⟨t,h1,aDy ?_⟩;unfold anF;rw[cN zO,Int.toNat_natCast,BY,e0];exact bT (lC zO zO) (bs e1 rfl)
 .obtain⟨t,rfl,h1,h2,h3⟩:=hs;rw[dT]at hp;obtain⟨y,gy,e⟩:=aJs hl h1 (h2 p (aC _)) zO hv hL hw hd hA hB (t15:=((w.length+1:Nat):Int)) (fun ts=>some (Sum.inl (((p+1:Nat):Int),ts)):LV->Option ((Int×LV)⊕(Int×Bool×LV)));refine⟨(((p+1:Nat):Int),fD (t.set p y)),?_,t.set p y,rfl,by rw[yo];exact h1,fun q hq=>?_,fun q hq=>?_⟩
  .simp only[UC,N8,un];refine bT (dd hp) ?_;rw[cN zO];exact e
  .have:=h2 q zO;rw[yu,BV zO,<-yu];exact this
  .by_cases c:q=p
   .subst c;rw[show(t.set q y).getD q 0=y by simp[show q<t.length by omega]];exact gy
   .rw[yu,BV zO,<-yu];exact h3 q zO
 .obtain⟨t,rfl,h1,h2,h3⟩:=hs;rw[dT]at h3⊢;refine⟨(((w.length+1:Nat):Int),false,fD t),?_,t,rfl,by rw[h1,z9],fun p hp=>h3 p zO⟩;simp only[UC,N8,un];refine bF (bN (aC _)) ?_;rw[bN (aC _)]
theorem aJu:Tryz.prog.underlying 61=some (.slice 65):=by kernel_rfl
theorem aJv:cP Tryz.prog 61=false:=by kernel_rfl
theorem aJw{l:LV}:parts Tryz.prog 61 (oC l)=[oC l]:=by
 unfold parts;rw[aJv];simp only[cond_false,iE,aJu,V.dD]
theorem aJx{es:LV}{i:Nat}{r:LV}(h:es[i]?=some (oC r)):ej Tryz.prog 61 es [(i,0)]=some (oC r):=by
 simp only[ej,h,Option.bind_some,aJw];rfl
theorem aJy{L:Nat}{ns:List Nd}(hv:GV L ns)(hL:L<=6)(hn:ns.length<=20000){r:Nat}(hr:r<ns.length){w:List UInt8}(hw:mz w 6)(hl:w.length<=40){b:Bool}(hb:lg ns r (lets w)↔b=true):CC 8 [fU (ns.map Nd.v),vI r,.str w]=some [.bool b]:=by
 have z9:(lets w).length=w.length:=zP;obtain⟨mk,hm,e1⟩:=aJf hv hn hr;have key:=qm (step:=UD CC w (ns.length:Int) (ns.map Nd.v) (r:Int) (tab ns.length fun i=>.bool (mk i))) (fun p (s:Int×LV)=>∃T:Nat->LN,s=((p:Int),tab ns.length fun j=>oC (fD (T j)))∧∀j,j<p->mk j=true->HU (lg ns j) (lets w) (T j))
  (fun x=>∃T:Nat->LN,x=((ns.length:Int),false,tab ns.length fun j=>oC (fD (T j)))∧∀j,j<ns.length->mk j=true->HU (lg ns j) (lets w) (T j)) ns.length 0 (0,tab ns.length fun _=>oC (fD []))
  (fun p _ hp s hs=>?_) (fun s hs=>?_) ⟨fun _=>[],rfl,fun j hj=>zO⟩
 .obtain⟨x,e2,T,rfl,hT⟩:=key;have tr:=hT r hr hm.eR;have g0:=tr.gd 0 (od _);refine aDB ?_;unfold anG;refine bs (aqV (hv.mono hL) zO (aC 6) hn hr) (bF rfl (bs (adR w 6) ?_));rw[bQ hw];refine bF rfl (bF (bX zO) ?_);rw[cu,Int.toNat_natCast];refine bT (lC zO zO) (bs e1 ?_);simp only[V.bj,V.dD,gI,gL,gB];rw[dJ,lB];refine bs e2 ((cK (fP hr)).trans ?_);rw[Int.toNat_natCast];have rv:=aJx (fP (g:=fun j=>oC (fD (T j))) hr);refine bs rv (bT (bQ (by simp only[V.dD,fD,cu,tr.len];omega)) (bs rv (bs (a:=O5 ((T r).getD 0 0)) ?_ (bs (afc g0.lt zO) ?_))))
  .rw[V.dD];exact O6 (by rw[tr.len];omega)
  .have h2:=g0.bit w.length zO;rw[show jN (lets w) 0 w.length=lets w by unfold jN;rw[<-z9];simp]at h2;simp only[V.bj,V.iM,gI,gL,gB];congr 3;refine sD.2 ?_;rw[h2,hb];exact⟨fun h=>h.2,fun h=>⟨od _,h⟩⟩
 .obtain⟨T,rfl,hT⟩:=hs;rw[dT]at hp;simp only[UD,N9,un];have hd:=cA hp;have ok:=hv p _ hd;cases O7:mk p with
  |false=>
   refine⟨(((p+1:Nat):Int),tab ns.length fun j=>oC (fD (T j))),bT (dd hp) ((cK (fP hp)).trans (bF (by rw[O7];rfl) ?_)),T,rfl,fun j hj wE=>?_⟩
   .rw[cN zO]
   .refine hT j ?_ wE;have:j≠p:=fun e=>by rw[e,O7]at wE;cases wE
    omega
  |true=>
   have hA:5<=ns[p].op->BT (lg ns ns[p].a) (lets w) (tab ns.length fun j=>oC (fD (T j))) ns[p].a (T ns[p].a):=fun h5=>by
    have:=ok.a1 h5;exact⟨nM zO,hT _ this (hm.eA p _ hd O7 h5)⟩
   have hB:5<=ns[p].op->ns[p].op≠8->BT (lg ns ns[p].b) (lets w) (tab ns.length fun j=>oC (fD (T j))) ns[p].b (T ns[p].b):=fun h5 h8=>by
    have:=ok.b1 h5 h8;exact⟨nM zO,hT _ this (hm.eB p _ hd O7 h5 h8)⟩
   obtain⟨t,ht,e⟩:=aJt hv hL hw hl hd hA hB;refine⟨(((p+1:Nat):Int),tab ns.length fun j=>oC (fD (if j=p then t else T j))),bT (dd hp) ((cK (fP hp)).trans (bT (by rw[O7];rfl) (bs (HP hp) (bs e ((cK (fP hp)).trans ?_))))),fun j=>if j=p then t else T j,rfl,fun j hj wE=>?_⟩
   .rw[cN zO];unfold az;rw[Int.toNat_natCast,m7];refine congrArg (fun z=>some (Sum.inl (_,z))) (eK fun j _=>?_);by_cases c:j=p
    .rw[ai c,ai c];rfl
    .rw[af c,af c]
   .show HU _ _ (if j=p then t else T j);by_cases c:j=p
    .rw[ai c,c];exact ht
    .rw[af c];exact hT j zO wE
 .obtain⟨T,rfl,hT⟩:=hs;rw[dT]at hT⊢;refine⟨((ns.length:Int),false,tab ns.length fun j=>oC (fD (T j))),?_,T,rfl,hT⟩;simp only[UD,N9,un];refine bF (bN (aC _)) ?_;rw[bN (aC _)]
def O8(b:UInt8):V:=.int .u8 b.toNat
theorem aJz(w:List UInt8):oX (w.map O8)=w:=by
 unfold oX;rw[List.map_map]
 conv=>rhs;rw[<-List.map_id w]
 apply rf;intro b _;show UInt8.ofNat ((b.toNat:Int)).toNat=b;simp
theorem aJA(t:Tp){L m:Nat}(h1:1<=L)(h2:L<=6)(hm:m<=100):∃(w:List UInt8) (u:Tp),mz w (L:Int)∧w.length<=m∧CC 7 [vI L,vI m,t.L,t.K]=some [.str w,u.L,u.K]:=by
 have key:∀(n:Nat) (t:Tp) (w:List UInt8),w.length+n<=m->(∀b∈w,97<=b.toNat∧b.toNat<97+L)->∃(w':List UInt8) (u:Tp),w'.length<=w.length+n∧(∀b∈w',97<=b.toNat∧b.toNat<97+L)∧
   Loop (UE CC (L:Int)) ((n:Int),t.l.map iV,(t.k:Int),w.map O8)=some (0,false,u.l.map iV,(u.k:Int),w'.map O8):=by
  intro n
  induction n with
  |zero=>
   intro t w hw hb;refine⟨w,t,aC _,hb,dg ?_⟩;simp only[UE,Oa,un];exact bF rfl rfl
  |succ n ih=>
   intro t w hw hb;obtain⟨v,t1,hv,e1⟩:=BA t (n:=L) h1 zO;have fl:V.int .u8 (IntKind.wrap .u8 (wI (97+(v:Int))))=O8 (UInt8.ofNat (97+v)):=by
    have a1:wI (97+(v:Int))=((97+v:Nat):Int):=by
     rw[show(97+(v:Int))=((97+v:Nat):Int) by omega];exact wrap64 zO zO
    have a2:IntKind.wrap .u8 ((97+v:Nat):Int)=((97+v:Nat):Int):=by
     rcases(by omega:v=0∨v=1∨v=2∨v=3∨v=4∨v=5)with rfl|rfl|rfl|rfl|rfl|rfl<;>rfl
    rw[a1,a2];unfold O8;refine congrArg _ (congrArg _ ?_);rcases(by omega:v=0∨v=1∨v=2∨v=3∨v=4∨v=5)with rfl|rfl|rfl|rfl|rfl|rfl<;>rfl
   have hvb:97<=(UInt8.ofNat (97+v)).toNat∧(UInt8.ofNat (97+v)).toNat<97+L:=by
    have:(UInt8.ofNat (97+v)).toNat=97+v:=by
     rcases(by omega:v=0∨v=1∨v=2∨v=3∨v=4∨v=5)with rfl|rfl|rfl|rfl|rfl|rfl<;>rfl
    omega
   obtain⟨w',u,g1,g2,g3⟩:=ih t1 (w++[UInt8.ofNat (97+v)]) (by simp;omega) fun b fN=>by
    rcases gh.1 fN with h|h
    .exact hb b h
    .rw[oc.1 h];exact hvb
   refine⟨w',u,by simp at g1;omega,g2,(fg ?_).trans g3⟩;simp only[UE,Oa,un];refine bT (bQ zO) (bs e1 ?_);have Jb:(gI [vI v,t1.L,t1.K])=(v:Int):=rfl;rw[Jb,fl];refine bT (by rw[gg,uA];simp;omega) ?_;have w2:wI (((n+1:Nat):Int)-1)=(n:Int):=by
    rw[show(((n+1:Nat):Int)-1)=(n:Int) by omega];exact wrap64 zO zO
   rw[w2,sC];rfl
 obtain⟨n,t1,hn,e1⟩:=BA t (n:=m+1) zO zO;obtain⟨w,u,g1,g2,g3⟩:=key n t1 [] (by simp;omega) fun _ h=>by cases h
 have hl:w.length<=m:=by simp at g1;omega
 refine⟨w,u,⟨zO,zO,zO,fun i hi=>?_⟩,hl,aDG ?_⟩
 .have:=g2 w[i] (gC hi);unfold jK;rw[jf hi];omega
 .unfold anH;have w1:wI ((m:Int)+1)=((m+1:Nat):Int):=cN zO;rw[w1];refine bs e1 (bs g3 ?_);simp only[un];rw[aJz];rfl
section
open Ex
theorem aq0:∀(ks:List Ex) (n:Int),ks.foldl (fun n k=>n+(k.size:Int)) n=n+eI ks
 |[],n=>by simp[eI]
 |k::ks,n=>by rw[List.foldl_cons,aq0 ks];simp only[eI];omega
theorem aJB:∀e:Ex,e.Ok->e.size<=400->CC 25 (nc e [])=some [vI e.size]:=
 ind fun o l ks ih av bR=>by
  have hs:(Ex.node o l ks).size=1+eI ks:=by simp only[size]
  have:=si;have hlen:=av.len;refine aDL ?_;have hl:=aI7 (step:=UF CC (ks.map enc) ((ks.map enc).length:Int)) (ks:=ks) (fun n i=>(n,(i:Int))) (fun n k=>n+(k.size:Int)) (fun n=>(n,((ks.length:Nat):Int),false)) (fun n eW=>0<=n∧n+eI eW<=400)
   (fun pre k eW s jc hI=>by
    have gl:pre.length<ks.length:=by rw[jc];simp
    have hm:k∈ks:=by rw[jc];simp
    have aKP:=aI9 hm;have nv:=hI;simp only[eI]at nv;refine⟨?_,zO⟩;simp only[UF,Ob,un,cu,aF];rw[aU,show idx (ks.map enc) (pre.length:Int)=some k.enc by rw[jc];exact OS _ _ _];simp only[Option.bind_some,iT,iU,iW];rw[ih k hm (av.VG k hm) zO];simp only[Option.bind_some,V.bj,V.toInt_int,gI,gB];rw[dk,dk];simp)
   (fun s=>by
    simp only[UF,Ob,un,cu,aF];rw[cl];simp) ks [] 1 rfl ⟨zO,zO⟩
  unfold anJ;simp only[Ex.kids];rw[aq0]at hl;simp only[List.length_nil,Int.ofNat_zero,Int.natCast_zero]at hl;erw [hl];simp only[Option.bind_some,un];rw[hs];rfl
theorem aJC(e:Ex)(h:e.Ok):CC 10 (nc e [])=some [vI (if e.val 6=0 then(e.size:Int)else 0)]:=by
 refine aDH ?_;unfold anI;rw[aqT e h];by_cases hv:e.val 6=0
 .rw[aJB e h (aqU hv).2.1];simp[hv]
 .simp[hv]
end
section
open Ex
theorem aJD{g:List Nd}{L:Nat}{W:List UInt8}{b:Bool}{n2:Int}{x y:V}{l2 l5 l6:LV}(hL:L=1∨L=2)(hg:uE g L)(hr:g.length-1<g.length)(hw:wI (1+n2)=(L:Int))(hW:mz W (L:Int))(hb:lg g (g.length-1) (lets W)↔b=true):
  Oc CC [vI (g.length-1:Nat),x,y,fU (g.map Nd.v)] (vI n2::l2) (.str W::l5) (.bool b::l6)=some [.bool true]:=by
 have n1:=hg.n1;have n2:=hg.n2;have hwl:∀X:Da,X.L=L->mz W (X.L:Int):=fun X h=>by rw[h];exact hW
 simp only[Oc,V.bj,V.toInt_int,iR,gK,V.dD,V.JH,V.iM,hw,gI,gL,gB,gS,bM,jq,hD,eu,zo,lX];rcases aHV hL hg hr with⟨O,h1,h2,h3⟩|h3
 .refine bs h3 (bF rfl (bs (aH1 hL hg h2 h1 hr) (bT rfl ?_)));simp only[V.bj,iR,gK,V.dD,aeU,cu,h1,gI,gL,gB,gS,bM,jq,hD,eu,zo,lX];have gd:=h2.gd _ (nY (show g.length-1<O.length by omega));rw[show wI ((g.length:Int)-1)=((g.length-1:Nat):Int) by rw[dk]<;>omega];refine bT zS ((cK (lf (show g.length-1<O.length by omega))).trans (bs (aEh gd.ok (hwl _ gd.hL)) (bT ?_ (bs aqw rfl))));simp only[V.bj,V.iM,gI,gL,gB,gS];rw[sD.2 ((aH6 hg h2 h1 _ hr (lets W) hW.WL).trans hb)];simp
 .exact bs h3 (bT rfl (bs aqw rfl))
theorem aq3(l w:List Int):CC 3 [HV l,HV w]=some [.bool true]:=by
 refine aDM ?_;unfold anK;obtain⟨t,e1⟩:=an1 l;refine bs e1 ?_;obtain⟨v,t1,hv,e2⟩:=BA t (n:=2) zO zO;refine bs e2 ?_;have hw:wI (1+(v:Int))=((v+1:Nat):Int):=by rw[dk];omega
 have hL:v+1=1∨v+1=2:=zO;obtain⟨g,t2,hg,hl,e3⟩:=aEa t1 (L:=v+1) (m:=8) zO zO zO zO;have n1:=hg.n1;have n2:=hg.n2;simp only[V.bj,V.toInt_int,iR,gK,Tp.L,Tp.K,V.dD,hw,gI,gL,gB,gS,bM,jq,hD,eu,zo,lX];refine bs e3 ?_;obtain⟨u,e4⟩:=an1 w;refine bs e4 ?_;simp only[V.bj,V.toInt_int,iR,gK,Tp.L,Tp.K,V.dD,gI,gL,gB,gS,bM,jq,hD,eu,zo,lX];obtain⟨W,u1,hW,hWl,e5⟩:=aJA u (L:=v+1) (m:=8) zO zO zO;refine bs e5 ?_;have er:(g.length:Int)-1=((g.length-1:Nat):Int):=zO;simp only[V.bj,V.JH,V.toInt_int,gI,gL,gB,gS];rw[er];have hr:g.length-1<g.length:=zO;have hW6:mz W 6:=⟨zO,zO,hW.2.2.1,fun i hi=>⟨(hW.2.2.2 i hi).1,by have:=(hW.2.2.2 i hi).2;omega⟩⟩
 obtain⟨b,hb⟩:∃b:Bool,lg g (g.length-1) (lets W)↔b=true:=⟨@decide (lg g (g.length-1) (lets W)) (Classical.propDecidable _),zS⟩
 refine bs (aJy hg.gv zO zO hr hW6 zO hb) ?_;have key:∃(z:Int) (r7:LV),CC 9 [fU (g.map Nd.v),vI (g.length-1:Nat),vI (v+1:Nat)]=some r7∧(gI (r7.drop 2))=z∧(z=0->∃n m:Int,CC 10 [vI (gI r7),vI (gI (r7.drop 1)),cM (gL (r7.drop 3))]=some [vI n]∧
   CC 11 [vI (gI r7),vI (gI (r7.drop 1)),cM (gL (r7.drop 3)),.str W]=some [.bool b]):=by
  rcases aJn hg.gv zO zO hr zO with⟨e,he,e7⟩|e7
  .have iY:e.val 6=0:=by
    have h1:=he.sz;have h2:=he.dp;have h3:2^(g.length-1)<=2^7:=pK zO zO;unfold Ex.val;rw[ai zO,ai zO,ai he.wf]
   obtain⟨b',hc,h4⟩:=aJe he.ok he.ns iY hW6;have hm:b'=b:=by rw[sD,h4,he.dv W hW6.hi,hb]
   exact⟨0,_,e7,rfl,fun _=>⟨_,0,aJC e he.ok,hm▸hc⟩⟩
  .exact⟨3,_,e7,rfl,fun h=>by cases h⟩
 obtain⟨z,r7,e7,ez,hz⟩:=key;have T:=fun(l2 l5 l6:LV) (x y:V)=>aJD (n2:=(v:Int)) (x:=x) (y:=y) (l2:=l2) (l5:=l5) (l6:=l6) hL hg hr hw hW hb;refine bs e7 ?_;simp only[ez];by_cases c:z=0
 .obtain⟨n,_,e8,e9⟩:=hz c;refine bT (by rw[c];rfl) (bs e8 ?_);by_cases c2:n<=60
  .exact bT (bQ c2) (bs e9 (bF (show(!(b==b))=false by simp) (T _ _ _ _ _)))
  .exact bF (bX c2) (T _ _ _ _ _)
 .exact bF (beq_eq_false_iff_ne.2 c) (T _ _ _ _ _)
end
end Go.AM
