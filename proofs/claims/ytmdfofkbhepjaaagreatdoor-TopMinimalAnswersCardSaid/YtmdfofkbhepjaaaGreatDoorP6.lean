/-
  Functions of the program, lifted to plain data.
-/
import Derived.Test.YtmdfofkbhepjaaaGreatDoorP5
set_option linter.unusedVariables false
set_option linter.unusedSimpArgs false
set_option linter.unusedSectionVars false
set_option maxRecDepth 100000
namespace Go.AM
open Go.IntKind (wrap)
section
variable {β:Type} [DecidableEq β]
def b7 (g:Nat→β):Nat→List β
 | 0=>[]
 | n+1=>cJ (b7 g n) (g n)
theorem U5 (g:Nat→β): ∀n,(b7 g n).Nodup
 | 0=>List.nodup_nil
 | n+1=>US (U5 g n)
theorem oX {g:Nat→β} {v:β}: ∀{n},v∈b7 g n↔∃q,q<n∧g q=v
 | 0=>⟨fun h=>(by cases h),fun ⟨q,h,_⟩=>(by omega)⟩
 | n+1=>by
  have ih:=oX (g:=g) (v:=v) (n:=n);rw[b7];unfold cJ;constructor
  ·intro h;split at h
   ·obtain ⟨q,h1,h2⟩:=ih.1 h;exact ⟨q,by omega,h2⟩
   ·rcases eD.1 h with h|h
    ·obtain ⟨q,h1,h2⟩:=ih.1 h;exact ⟨q,by omega,h2⟩
    ·exact ⟨n,by omega,(fx.1 h).symm⟩
  ·rintro ⟨q,h1,h2⟩;rcases jq q n with c|c
   ·exact (Aj (b7 g n) (g n)).subset (ih.2 ⟨q,c,h2⟩)
   ·obtain rfl:q=n:=by omega
    rw[←h2];exact Ak
theorem arH {g:Nat→β} {m n:Nat} (h:m≤n):b7 g m <+: b7 g n:=by
 induction n with
 | zero=>rw[wU.1 h];exact si _
 | succ n ih=>
  rcases jq m (n+1) with c|c
  ·exact (ih (by omega)).trans (Aj _ _)
  ·rw[show m=n+1 by omega];exact si _
theorem HD (g:Nat→β): ∀n,(b7 g n).length≤n
 | 0=>aw _
 | n+1=>by
  have:=HD g n;rw[b7,Dw];split<;>omega
def gk (g:Nat→β) (n q:Nat):Nat:=(b7 g n).idxOf (g q)
theorem U6 {g:Nat→β} {n q:Nat} (h:q<n):gk g n q<(b7 g n).length:=wY (oX.2 ⟨q,h,rfl⟩)
theorem aew {g:Nat→β} {n p q:Nat} (hp:p<n) (hq:q<n):gk g n p=gk g n q↔g p=g q:=by
 constructor
 ·intro h;have h1:=Jz (U6 (g:=g) hp);have h2:=Jz (U6 (g:=g) hq);rw[←h1,←h2];exact getElem_congr_idx h
 ·intro h;unfold gk;rw[h]
theorem U7 {g:Nat→β} {m n q:Nat} (h:q<m) (hm:m≤n):gk g n q=gk g m q:=Am (arH hm) (oX.2 ⟨q,h,rfl⟩)
theorem aex {g:Nat→β} {q:Nat} (h:g q∈b7 g q):b7 g (q+1)=b7 g q:=by rw[b7];unfold cJ;rw[aB h]
theorem aey {g:Nat→β} {q:Nat} (h:g q∉b7 g q):b7 g (q+1)=b7 g q++[g q]:=by rw[b7];unfold cJ;rw[aC h]
theorem arI {g:Nat→β} {n q:Nat} (hq:q<n) (h:g q∈b7 g q):gk g n q=(b7 g q).idxOf (g q):=by
 rw[U7 (show q<q+1 by omega) (by omega)];unfold gk;rw[aex h]
theorem arJ {g:Nat→β} {n q:Nat} (hq:q<n) (h:g q∉b7 g q):gk g n q=(b7 g q).length:=by
 rw[U7 (show q<q+1 by omega) (by omega)];unfold gk;rw[aey h,Bq,aC h];simp
def Au (p:Nat→Nat) (n:Nat):Prop:= ∀m,m≤n→b7 p m=List.range (b7 p m).length
theorem aez (g:Nat→β) (n:Nat): ∀m,m≤n→b7 (gk g n) m=List.range (b7 g m).length:=by
 intro m
 induction m with
 | zero=>intro _;rfl
 | succ m ih=>
  intro hm;have ih:=ih (by omega);have e1:gk g n m=gk g (m+1) m:=U7 (by omega) hm;have e2:gk g (m+1) m=if g m∈b7 g m then (b7 g m).idxOf (g m) else (b7 g m).length:=by
   unfold gk;rw[b7];unfold cJ;split
   ·rfl
   ·rename_i h;rw[Bq,aC h];simp
  rw[b7,ih,b7,Dw];unfold cJ;by_cases h:g m∈b7 g m
  ·have:=wY h;rw[aB h] at e2;rw[aB h,aB (by rw[e1,e2];exact ik.2 this)]
  ·rw[aC h] at e2;rw[aC h,aC (by rw[e1,e2];simp),e1,e2,List.range_succ]
theorem arK (g:Nat→β) (n:Nat):Au (gk g n) n:=fun m hm=>by
 rw[aez g n m hm,jX]
theorem aeA {γ:Type} [DecidableEq γ] {f:Nat→β} {c:Nat→γ} {n:Nat} (hr: ∀q q',q<n→q'<n→f q=f q'→c q=c q') (hl:(b7 f n).length≤(b7 c n).length):
  ∀q q',q<n→q'<n→c q=c q'→f q=f q':=by
 intro q q' hq dB hc;refine Decidable.byContradiction fun hf=> ?_;have rep: ∀v∈b7 f n,∃q,q<n∧f q=v:=fun v hv=>oX.1 hv;have: ∃R:β→Nat,∀v∈b7 f n,R v<n∧f (R v)=v:=by
  classical
  refine ⟨fun v=>if h:v∈b7 f n then Classical.choose (rep v h) else 0,fun v hv=> ?_⟩;simp only[hv,wO];exact Classical.choose_spec (rep v hv)
 obtain ⟨R,hR⟩:=this;have lD:b7 c n ⊆ ((b7 f n).filter fun v=>decide (v≠f q')).map fun v=>c (R v):=by
  intro u hu;obtain ⟨s,hs,rfl⟩:=oX.1 hu;by_cases h:f s=f q'
  ·refine iE.2 ⟨f q,List.mem_filter.2 ⟨oX.2 ⟨q,hq,rfl⟩,cq hf⟩,?_⟩;have h1:=hR (f q) (oX.2 ⟨q,hq,rfl⟩);rw[hr _ _ h1.1 hq h1.2,hc,hr _ _ hs dB h]
  ·refine iE.2 ⟨f s,List.mem_filter.2 ⟨oX.2 ⟨s,hs,rfl⟩,cq h⟩,?_⟩;have h1:=hR (f s) (oX.2 ⟨s,hs,rfl⟩);exact hr _ _ h1.1 hs h1.2
 have h1:=Bm (U5 c n) lD;rw[cY] at h1;have h2:((b7 f n).filter fun v=>decide (v≠f q')).length<(b7 f n).length:=by
  have hm:f q'∈b7 f n:=oX.2 ⟨q',dB,rfl⟩;have aZ:=List.length_filter_lt_length_iff_exists (p:=fun v=>decide (v≠f q')) (l:=b7 f n);exact aZ.2 ⟨f q',hm,by simp⟩
 omega
theorem arL {γ:Type} [DecidableEq γ] {f:Nat→β} {c:Nat→γ} {n:Nat} (hr: ∀q q',q<n→q'<n→f q=f q'→c q=c q'):(b7 c n).length≤(b7 f n).length:=by
 rcases jq (b7 f n).length (b7 c n).length with h|h
 ·have:=aeA hr (by omega);have rep: ∀v∈b7 f n,∃q,q<n∧f q=v:=fun v hv=>oX.1 hv;have: ∃R:β→Nat,∀v∈b7 f n,R v<n∧f (R v)=v:=by
   classical
   refine ⟨fun v=>if h:v∈b7 f n then Classical.choose (rep v h) else 0,fun v hv=> ?_⟩;simp only[hv,wO];exact Classical.choose_spec (rep v hv)
  obtain ⟨R,hR⟩:=this;have lD:b7 c n ⊆ (b7 f n).map fun v=>c (R v):=by
   intro u hu;obtain ⟨s,hs,rfl⟩:=oX.1 hu;have h1:=hR (f s) (oX.2 ⟨s,hs,rfl⟩);exact iE.2 ⟨f s,oX.2 ⟨s,hs,rfl⟩,hr _ _ h1.1 hs h1.2⟩
  have h1:=Bm (U5 c n) lD;rw[cY] at h1;omega
 ·exact h
end
namespace Da
structure Part (a:Da) (c:Nat→Nat):Prop where
 coarse: ∀q q',q<a.n→q'<a.n→a.rW q a q'→c q=c q'
 fin: ∀q q',q<a.n→q'<a.n→c q=c q'→a.fin q=a.fin q'
def sig (a:Da) (c:Nat→Nat) (q:Nat):List Nat:=c q::(List.range a.L).map fun x=>c (a.nx q x)
theorem HE {a:Da} {c:Nat→Nat} {q q':Nat}:a.sig c q=a.sig c q'↔c q=c q'∧∀x,x<a.L→c (a.nx q x)=c (a.nx q' x):=by
 unfold sig;rw[yA];refine and_congr Iff.rfl ⟨fun h x hx=> ?_,fun h=>qh fun x hx=>h x (ik.1 hx)⟩;have:=congrArg (fun l=>l.getD x 0) h;simpa[hx] using this
def U8 (a:Da) (c f:Nat→Nat):Prop:= ∀q q',q<a.n→q'<a.n→(f q=f q'↔a.sig c q=a.sig c q')
theorem U8.part {a:Da} {c f:Nat→Nat} (h:a.U8 c f) (ha:a.Ok) (hc:a.Part c):a.Part f where
 coarse q q' hq dB he:=(h q q' hq dB).2 (HE.2 ⟨hc.coarse q q' hq dB he,fun x hx=>hc.coarse _ _ (ha.kR hq hx) (ha.kR dB hx) (he.nx hx)⟩)
 fin q q' hq dB he:=hc.fin q q' hq dB (HE.1 ((h q q' hq dB).1 he)).1
def ND (a:Da) (p:Nat→Nat):Prop:=(∀q q',q<a.n→q'<a.n→(p q=p q'↔a.rW q a q'))∧Au p a.n
theorem Part.arM {a:Da} {c:Nat→Nat} (hc:a.Part c) (ha:a.Ok) (hs: ∀q q',q<a.n→q'<a.n→c q=c q'→a.sig c q=a.sig c q'): ∀q q',q<a.n→q'<a.n→(c q=c q'↔a.rW q a q'):=by
 intro q q' hq dB;refine ⟨fun h w=> ?_,hc.coarse q q' hq dB⟩
 induction w generalizing q q' with
 | nil=>intro _;rw[uI,uI];exact hc.fin q q' hq dB h
 | cons x w ih=>
  intro hw;rw[Nn,Nn];exact ih _ _ (ha.kR hq hw.head) (ha.kR dB hw.head) ((HE.1 (hs q q' hq dB h)).2 x hw.head) hw.tail
def gM (p:Nat→Nat):Nat→List Nat
 | 0=>[]
 | n+1=>if p n∈b7 p n then gM p n else gM p n++[n]
theorem NF {p:Nat→Nat}: ∀n,(gM p n).map p=b7 p n
 | 0=>rfl
 | n+1=>by
  rw[gM,b7];unfold cJ;split
  ·exact NF n
  ·rw[uY,NF n];rfl
theorem HF {p:Nat→Nat} {n:Nat}:(gM p n).length=(b7 p n).length:=by rw[←NF,cY]
theorem Av {p:Nat→Nat}: ∀{n q},q∈gM p n→q<n
 | 0,q,h=>by cases h
 | n+1,q,h=>by
  rw[gM] at h;split at h
  ·have:=Av h;omega
  ·rcases eD.1 h with h|h
   ·have:=Av h;omega
   ·rw[fx.1 h];omega
theorem DD {p:Nat→Nat} {n:Nat} (ho:Au p n) {c:Nat} (hc:c<(gM p n).length):p (gM p n)[c]=c:=by
 have h1:=ho n (aw _);have h2:((gM p n).map p)[c]? =some c:=by rw[NF,h1,Jy (by rw[HF] at hc;exact hc)]
 rw[ld,bU hc] at h2;exact dL h2
theorem HG {p:Nat→Nat} {n q:Nat} (ho:Au p n) (hq:q<n):p q<(gM p n).length:=by
 have h1:p q∈b7 p n:=oX.2 ⟨q,hq,rfl⟩;rw[ho n (aw _),ik] at h1;rw[HF];exact h1
def quo (a:Da) (p:Nat→Nat):Da where
 L:=a.L
 st:=p a.st
 F:=(gM p a.n).map a.fin
 N:=(gM p a.n).map fun q=>tab a.L fun x=>p (a.nx q x)
theorem yj {a:Da} {p:Nat→Nat}:(a.quo p).n=(gM p a.n).length:=by simp[quo,n]
theorem aeB {a:Da} {p:Nat→Nat} {c:Nat} (hc:c<(gM p a.n).length):(a.quo p).fin c=a.fin (gM p a.n)[c]:=by
 show ((gM p a.n).map a.fin).getD c false=_;rw[cP (by simpa using hc),Eg]
theorem aeC {a:Da} {p:Nat→Nat} {c x:Nat} (hc:c<(gM p a.n).length) (hx:x<a.L):(a.quo p).nx c x=p (a.nx (gM p a.n)[c] x):=by
 show (((gM p a.n).map fun q=>tab a.L fun x=>p (a.nx q x)).getD c []).getD x 0=_;rw[cP (l:=(gM p a.n).map fun q=>tab a.L fun x=>p (a.nx q x)) (by simpa using hc),Eg,Ao hx]
section
variable {a:Da} {p:Nat→Nat} (ha:a.Ok) (hp:a.ND p)
include ha hp
theorem aeD:(a.quo p).Ok where
 l1:=ha.l1
 l6:=ha.l6
 nN:=by rw[yj];simp[quo]
 row r hr:=by
  rw[yj];obtain ⟨q,hq,rfl⟩:=iE.1 (show r∈(gM p a.n).map _ from hr);refine ⟨by simp[quo],fun s hs=> ?_⟩;obtain ⟨x,hx,rfl⟩:=KS.1 hs;exact HG hp.2 (ha.kR (Av hq) hx)
 s:=by rw[yj];exact HG hp.2 ha.s
 dH:=by
  rw[yj,HF];have:=HD p a.n;have:=ha.dH;omega
theorem NG: ∀(w:List Nat) {q:Nat},q<a.n→WL a.L w→(a.quo p).acc (p q) w=a.acc q w
 | [],q,hq,_=>by
  have hc:=HG hp.2 hq;rw[uI,uI,aeB hc];have h1:=(hp.1 _ _ (Av (dr hc)) hq).1 (DD hp.2 hc);have:=h1 [] WL.nil;rwa [uI,uI] at this
 | x::w,q,hq,hw=>by
  have hc:=HG hp.2 hq;have hr:=Av (dr hc);have h1:=(hp.1 _ _ hr hq).1 (DD hp.2 hc);have h2:=(hp.1 _ _ (ha.kR hr hw.head) (ha.kR hq hw.head)).2 (h1.nx hw.head);rw[Nn,Nn,aeC hc hw.head,h2];exact NG w (ha.kR hq hw.head) hw.tail
theorem arN: ∀c d,c<(a.quo p).n→d<(a.quo p).n→(a.quo p).rW c (a.quo p) d→c=d:=by
 intro c d hc hd he;rw[yj] at hc hd;have r1:=Av (dr hc);have r2:=Av (dr hd);rw[←DD hp.2 hc,←DD hp.2 hd];refine (hp.1 _ _ r1 r2).2 fun w hw=> ?_;rw[←NG ha hp w r1 hw,←NG ha hp w r2 hw,DD hp.2 hc,DD hp.2 hd];exact he w hw
theorem arO:(a.quo p).trim.Canon a.L (a.acc a.st):=by
 have h:=(aeD ha hp).aqS (arN ha hp);exact ⟨h.ok,h.hL,h.st,h.num,h.red,fun w hw=>(h.Dv w hw).trans (NG ha hp w ha.s hw)⟩
end
end Da
end Go.AM
set_option maxRecDepth 100000
namespace Go.AM
open Go.IntKind (wrap)
open Go.Proofs
noncomputable def HH (C:af) (t24:LV) (t25 bj bt:Int) (fJ fE:LV) (count t26:Int) (dQ:LV) {β:Type} (kn:(Int×Int×LV)→Option β) (kr:(Int×Int×Bool×LV)→Option β):Option β:=
 bif decide (t26<t25) then
  (idx t24 t26).bind fun x2=>
  (fJ[0]?).bind fun x3=>
  bif !(x2.toBool==x3.toBool) then
  aM dQ t26 fun x4=>
  kn (2,wrap .i64 (t26+1),bn dQ t26 (V.int .i64 1))
  else
  kn (count,wrap .i64 (t26+1),dQ)
 else
  kr (count,t26,decide (t26<t25),dQ)
noncomputable def NH (C:af) (t24:LV) (t25 bj bt:Int) (fJ fE:LV):=un fun count=>un fun t26 dQ=>HH C t24 t25 bj bt fJ fE count t26 dQ (fun y=>some (Sum.inl y)) (fun r=>some (Sum.inr r))
noncomputable def HI (C:af) (count q:Int) (t46:LV) (t47 t48:Int) (t58:LV) (t59 bj bt:Int) (fJ fE dQ numbers tt:LV) (t60 NI NJ NK NL NM NN NO:Int) {β:Type} (kn:(Int×Int×Int×Int×Int×Int×Int×Int)→Option β) (kr:(Int×Bool×Int×Int×Int×Int×Int×Int×Int)→Option β):Option β:=
 bif decide (t60<t59) then
  (idx t58 t60).bind fun p6=>
  bif (decide (0≤p6.toInt))&&(decide (p6.toInt<(dQ.length:Int))) then
  (dQ[(p6.toInt:Int).toNat]?).bind fun kU=>
  bif (decide (0≤(wrap .i64 (1+t60))))&&(decide ((wrap .i64 (1+t60))<7)) then
   bif Nat.blt (0+(((wrap .i64 (1+t60):Int).toNat)*1)) 7 then
   kn (wrap .i64 (t60+1),bif Nat.beq (0+(((wrap .i64 (1+t60):Int).toNat)*1)) 0 then kU.toInt else NI,bif Nat.beq (0+(((wrap .i64 (1+t60):Int).toNat)*1)) 1 then kU.toInt else NJ,bif Nat.beq (0+(((wrap .i64 (1+t60):Int).toNat)*1)) 2 then kU.toInt else NK,bif Nat.beq (0+(((wrap .i64 (1+t60):Int).toNat)*1)) 3 then kU.toInt else NL,bif Nat.beq (0+(((wrap .i64 (1+t60):Int).toNat)*1)) 4 then kU.toInt else NM,bif Nat.beq (0+(((wrap .i64 (1+t60):Int).toNat)*1)) 5 then kU.toInt else NN,bif Nat.beq (0+(((wrap .i64 (1+t60):Int).toNat)*1)) 6 then kU.toInt else NO)
   else none
  else none
  else none
 else
  kr (t60,decide (t60<t59),NI,NJ,NK,NL,NM,NN,NO)
noncomputable def NQ (C:af) (count q:Int) (t46:LV) (t47 t48:Int) (t58:LV) (t59 bj bt:Int) (fJ fE dQ numbers tt:LV):=un fun t60=>un fun NI=>un fun NJ=>un fun NK=>un fun NL=>un fun NM=>un fun NN NO=>HI C count q t46 t47 t48 t58 t59 bj bt fJ fE dQ numbers tt t60 NI NJ NK NL NM NN NO (fun y=>some (Sum.inl y)) (fun r=>some (Sum.inr r))
noncomputable def HJ (C:af) (count:Int) (t46:LV) (t47 bj bt:Int) (fJ fE dQ:LV) (t48:Int) (numbers tt:LV) {β:Type} (kn:(Int×LV×LV)→Option β) (kr:(Int×Bool×LV×LV)→Option β):Option β:=
 bif decide (t48<t47) then
  (idx t46 t48).bind fun x9=>
  aM dQ t48 fun om=>
  (Loop (NQ C count t48 t46 t47 t48 x9.toList (x9.toList.length:Int) bj bt fJ fE dQ numbers tt) (0,om.toInt,0,0,0,0,0,0)).bind (un fun B6=>un fun (vB:Bool)=>un fun HK=>un fun HL=>un fun HM=>un fun HN=>un fun HO=>un fun (HP:Int) (HQ:Int)=>
   bif (eF .i64 HK&&(eF .i64 HL&&(eF .i64 HM&&(eF .i64 HN&&(eF .i64 HO&&(eF .i64 HP&&(eF .i64 HQ&&true)))))))&&true then
   bif !(fZ (.agg [V.int .i64 HK,V.int .i64 HL,V.int .i64 HM,V.int .i64 HN,V.int .i64 HO,V.int .i64 HP,V.int .i64 HQ]) numbers) then
    bif (eF .i64 HK&&(eF .i64 HL&&(eF .i64 HM&&(eF .i64 HN&&(eF .i64 HO&&(eF .i64 HP&&(eF .i64 HQ&&true)))))))&&true then
    aM tt t48 fun NR=>
    kn (wrap .i64 (t48+1),iH (.agg [V.int .i64 HK,V.int .i64 HL,V.int .i64 HM,V.int .i64 HN,V.int .i64 HO,V.int .i64 HP,V.int .i64 HQ]) (V.int .i64 (numbers.length:Int)) numbers,bn tt t48 (V.int .i64 (numbers.length:Int)))
    else none
   else
    aM tt t48 fun x23=>
    kn (wrap .i64 (t48+1),numbers,bn tt t48 (V.int .i64 ((jO (.agg [V.int .i64 HK,V.int .i64 HL,V.int .i64 HM,V.int .i64 HN,V.int .i64 HO,V.int .i64 HP,V.int .i64 HQ]) numbers (V.int .i64 0)).toInt)))
   else none)
 else
  kr (t48,decide (t48<t47),numbers,tt)
noncomputable def NS (C:af) (count:Int) (t46:LV) (t47 bj bt:Int) (fJ fE dQ:LV):=un fun t48=>un fun numbers tt=>HJ C count t46 t47 bj bt fJ fE dQ t48 numbers tt (fun y=>some (Sum.inl y)) (fun r=>some (Sum.inr r))
noncomputable def HR (C:af) (bj bt:Int) (fJ fE:LV) (count:Int) (dQ:LV) {β:Type} (kn:(Int×LV)→Option β) (kr:LV→Option β):Option β:=
 bif (decide (0≤(dQ.length:Int)))&&((decide ((dQ.length:Int)≤(dQ.length:Int)))&&(Nat.ble (((dQ.length:Int).toNat)*8) aX)) then
  (Loop (NS C count fE (fE.length:Int) bj bt fJ fE dQ) (0,([]:LV),List.replicate ((dQ.length:Int).toNat) (V.int .i64 0))).bind (un fun azH=>un fun (azI:Bool)=>un fun (aeE:LV) (aeF:LV)=>
   bif (aeE.length:Int)==count then
   kr aeF
   else
   kn ((aeE.length:Int),aeF))
 else none
noncomputable def HS (C:af) (bj bt:Int) (fJ fE:LV):=un fun count dQ=>HR C bj bt fJ fE count dQ (fun y=>some (Sum.inl y)) (fun r=>some (Sum.inr r))
noncomputable def NT (C:af):cD:=bI 81 TD [H1,EQ,EQ,H1,EQ,EQ,EQ,EQ,H1] [[0,2,3,0,0,5,6,7,8,0]] (@HH C) (bI 273 TE [EQ,EQ,EQ,EQ,EQ,EQ,EQ,H1,EQ,EQ,EQ,EQ,EQ,EQ,EQ,H1,H1,H1,H1,H1,H1,H1] [[1,2,3,4,5,6,7,0,0,9,10,11,12,13,14,15,0,0,0,0,0,0,0]] (@HI C) (bI 209 TF [EQ,EQ,EQ,H1,EQ,EQ,EQ,EQ,EQ,H1,H1] [[1,2,3,0,0,5,6,7,8,9,0,0]] (@HJ C) (bI 161 TG [H1,EQ,EQ,EQ,EQ,H1] [[0]] (@HR C) bB)))
theorem arP (C:af):bD C (NT C) 53 (Lp [1,1,1,0,1,0,0] 53):=bJ TD [H1,EQ,EQ,H1,EQ,EQ,EQ,EQ,H1] [[0,2,3,0,0,5,6,7,8,0]] (@HH C) (bq au)
theorem arQ (C:af):bD C (NT C) 53 (Lp [1,1,1,1,0,0,0,1,1,0,1,0,0,1,1,0,0,1,1,0,1,0,0] 53):=bJ TE [EQ,EQ,EQ,EQ,EQ,EQ,EQ,H1,EQ,EQ,EQ,EQ,EQ,EQ,EQ,H1,H1,H1,H1,H1,H1,H1] [[1,2,3,4,5,6,7,0,0,9,10,11,12,13,14,15,0,0,0,0,0,0,0]] (@HI C) (bq au)
theorem arR (C:af):bD C (NT C) 53 (Lp [1,1,1,1,0,0,0,1,1,0,1,0,0] 53):=bJ TF [EQ,EQ,EQ,H1,EQ,EQ,EQ,EQ,EQ,H1,H1] [[1,2,3,0,0,5,6,7,8,9,0,0]] (@HJ C) (bq (bE (arQ C) au))
theorem arS (C:af):bD C (NT C) 53 (Lp [1,1,1,1,0,0] 53):=bJ TG [H1,EQ,EQ,EQ,EQ,H1] [[0]] (@HR C) (bq (bE (arR C) au))
noncomputable def aeG (C:af) (c6 db:Int) (cE c7:LV):Option LV:=
 (C qs [V.int .i64 c6,V.int .i64 db,.list ak cE,.list ag c7]).bind fun r1=>
 bif (((V.nth r1 0).toInt):Int) != 0 then
  some [.list ab ([]:LV)]
 else
  bif (decide (0≤(cE.length:Int)))&&((decide ((cE.length:Int)≤(cE.length:Int)))&&(Nat.ble (((cE.length:Int).toNat)*8) aX)) then
  (Loop (NH C cE (cE.length:Int) c6 db cE c7) (1,0,List.replicate ((cE.length:Int).toNat) (V.int .i64 0))).bind (un fun arT=>un fun jz=>un fun (mL:Bool) (arU:LV)=>
   (Loop (HS C c6 db cE c7) (arT,arU)).bind (fun (arV:LV)=>
    some [.list ab arV]))
  else none
theorem arW {c6 db:Int} {cE c7:LV} {r:Option LV} (h:aeG CC c6 db cE c7=r):CC Mk [V.int .i64 c6,V.int .i64 db,.list ak cE,.list ag c7]=r:=bC (bE (arP CC) (bE (arS CC) au)) h
def e8 (a:Da) (c:Nat→Nat) (q t j:Nat):Nat:=if j=0 then c q else if j≤t then c (a.nx q (j-1)) else 0
def eQ (a:Da) (c:Nat→Nat) (q:Nat):List Nat:=tab 7 (e8 a c q a.L)
def HT (s:List Nat):V:= .agg (s.map nV)
theorem aeH: ∀s t:List Nat,ph (s.map nV) (t.map nV)=decide (s=t)
 | [],[]=>rfl
 | [],b::t=>rfl
 | a::s,[]=>rfl
 | a::s,b::t=>by
  simp only[lb,ph];rw[aeH s t,wZ];simp only[nV,u7];simp only[aJ,beq_iff_eq,jL,yA];exact and_congr (by omega) Iff.rfl
theorem U9 (s t:List Nat):iG (HT s) (HT t)=decide (s=t):=aeH s t
theorem Va {a:Da} (h:a.Ok) {c:Nat→Nat} {q q':Nat}:eQ a c q=eQ a c q'↔a.sig c q=a.sig c q':=by
 rw[Da.HE];have h6:=h.l6;constructor
 ·intro e;have g:=fun j (hj:j<7)=>congrArg (fun l:List Nat=>l.getD j 0) e;unfold eQ at g;refine ⟨?_,fun x hx=> ?_⟩
  ·have:=g 0 (by omega);rw[Ao (by omega),Ao (by omega)] at this;exact this
  ·have:=g (x+1) (by omega);rw[Ao (by omega),Ao (by omega)] at this;unfold e8 at this;rwa [aC (by omega),aB (by omega),aC (by omega),aB (by omega)] at this
 ·rintro ⟨h1,h2⟩;refine dy fun j _=> ?_;unfold e8;by_cases hj:j=0
  ·rw[aB hj,aB hj,h1]
  ·rw[aC hj,aC hj];by_cases dF:j≤a.L
   ·rw[aB dF,aB dF,h2 (j-1) (by omega)]
   ·rw[aC dF,aC dF]
theorem Aw {a:Da} {c:Nat→Nat} {q t:Nat} (j:Nat):(bif Nat.beq (0+(t+1)*1) j then ((c (a.nx q t):Nat):Int) else ((e8 a c q t j:Nat):Int))=((e8 a c q (t+1) j:Nat):Int):=by
 by_cases hj:t+1=j
 ·rw[show Nat.beq (0+(t+1)*1) j=true from by rw[aL];omega,cond_true,←hj];unfold e8;rw[dh,da];rfl
 ·rw[show Nat.beq (0+(t+1)*1) j=false from by rw[←Bool.not_eq_true,aL];omega,cond_false];unfold e8;by_cases h0:j=0
  ·rw[aB h0,aB h0]
  ·rw[aC h0,aC h0];by_cases h1:j≤t
   ·rw[aB h1,da]
   ·rw[aC h1,dh]
def cV (n:Nat) (c:Nat→Nat):List V:=tab n fun q=>nV (c q)
section
variable {a:Da} (h:a.Ok) {c:Nat→Nat}
include h
theorem arX {q:Nat} (hq:q<a.n) {k1 k2 k3 k4 k5 k6:Int} {l1 l2 l3 l4 l5:List V}:
  Loop (NQ CC k1 k2 l1 k3 k4 (tab a.L fun x=>iV (a.nx q x)) ((tab a.L fun x=>iV (a.nx q x)).length:Int) k5 k6 l2 l3 (cV a.n c) l4 l5) (0,(c q:Int),0,0,0,0,0,0)=
   some ((a.L:Int),false,(e8 a c q a.L 0:Int),(e8 a c q a.L 1:Int),(e8 a c q a.L 2:Int),(e8 a c q a.L 3:Int),(e8 a c q a.L 4:Int),(e8 a c q a.L 5:Int),(e8 a c q a.L 6:Int)):=by
 have h6:=h.l6;rw[fT];refine (gz a.L (fun t=>((t:Int),(e8 a c q t 0:Int),(e8 a c q t 1:Int),(e8 a c q t 2:Int),(e8 a c q t 3:Int),(e8 a c q t 4:Int),(e8 a c q t 5:Int),(e8 a c q t 6:Int))) _ (fun t ht=> ?_) ?_)
 ·simp only[NQ,HI,un];refine bT (bp ht) ?_;refine bs (DB ht) ?_;refine (mR (i:=a.nx q t) (h.kR hq ht)).trans ?_;have w:wrap .i64 (1+(t:Int))=((t+1:Nat):Int):=by rw[qu];omega
  rw[w,bz (by omega),Int.toNat_natCast];refine bT (ki.2 ⟨cq (by omega),cq (by omega)⟩) ?_;refine bT (show Nat.ble (0+(t+1)*1+1) 7=true by rw[gp];omega) ?_;show some (Sum.inl _)=some (Sum.inl _);refine congrArg (fun x=>some (Sum.inl x)) ?_;exact cx rfl (cx (Aw 0) (cx (Aw 1) (cx (Aw 2) (cx (Aw 3) (cx (Aw 4) (cx (Aw 5) (Aw 6)))))))
 ·simp only[NQ,HI,un];refine bF (aV (aw _)) ?_;rw[aV (aw _)]
theorem arY (hc: ∀q,q<a.n→c q≤1000) {q:Nat} (hq:q<a.n) (j:Nat):e8 a c q a.L j≤1000:=by
 unfold e8;split
 ·exact hc q hq
 ·split
  ·exact hc _ (h.kR hq (by omega))
  ·omega
theorem arZ (hc: ∀q,q<a.n→c q≤1000) {k1 k2 k3:Int} {l2:List V}:
  Loop (NS CC k1 a.cW (a.cW.length:Int) k2 k3 l2 a.cW (cV a.n c)) (0,([]:List V),List.replicate ((((cV a.n c).length:Int):Int).toNat) (V.int .i64 0))=
   some ((a.n:Int),false,fK HT 0 (b7 (eQ a c) a.n),cV a.n (gk (eQ a c) a.n)):=by
 have hm:=h.dH;have hl:(cV a.n c).length=a.n:=by simp[cV]
 rw[hl,Int.toNat_natCast,p5,Da.ara];refine (gz a.n (fun i=>((i:Int),fK HT 0 (b7 (eQ a c) i),(tab a.n fun q=>if q<i then nV (gk (eQ a c) a.n q) else nV 0))) _ (fun q hq=> ?_) ?_)
 ·have hle:=HD (eQ a c) q;simp only[NS,HJ,un,aM,bn];refine bT (bp hq) ?_;refine bs (Da.Hq hq) ?_;refine (mR (i:=q) hq).trans ?_;simp only[Dz];refine bs (arX h hq) ?_;have k0:=arY h hc hq;have kk: ∀j,eF .i64 ((e8 a c q a.L j:Nat):Int)=true:=fun j=>Aq (by have:=k0 j;omega);have aeI:((eF .i64 ((e8 a c q a.L 0:Nat):Int)&&(eF .i64 ((e8 a c q a.L 1:Nat):Int)&&(eF .i64 ((e8 a c q a.L 2:Nat):Int)&&(eF .i64 ((e8 a c q a.L 3:Nat):Int)&&(eF .i64 ((e8 a c q a.L 4:Nat):Int)&&(eF .i64 ((e8 a c q a.L 5:Nat):Int)&&(eF .i64 ((e8 a c q a.L 6:Nat):Int)&&true)))))))&&true)=true:=by
   simp only[kk,Bool.and_self]
  refine bT aeI ?_;have ek:V.agg [V.int .i64 (e8 a c q a.L 0:Int),V.int .i64 (e8 a c q a.L 1:Int),V.int .i64 (e8 a c q a.L 2:Int),V.int .i64 (e8 a c q a.L 3:Int),V.int .i64 (e8 a c q a.L 4:Int),V.int .i64 (e8 a c q a.L 5:Int),V.int .i64 (e8 a c q a.L 6:Int)]=HT (eQ a c q):=rfl;simp only[un,ek];have e1:=Nv U9 (eQ a c q) (b7 (eQ a c) q) 0;have fin: ∀v,v=nV (gk (eQ a c) a.n q)→(tab a.n fun j=>if j<q then nV (gk (eQ a c) a.n j) else nV 0).set q v=tab a.n fun j=>if j<q+1 then nV (gk (eQ a c) a.n j) else nV 0:=by
   rintro v rfl;rw[mn];refine dy fun j _=> ?_;by_cases hj:j=q
   ·rw[aB hj,da,hj]
   ·rw[aC hj];by_cases dF:j<q
    ·rw[aB dF,da]
    ·rw[aC dF,dh]
  rw[bz (by omega)];by_cases hx:eQ a c q∈b7 (eQ a c) q
  ·refine bF (by rw[e1];simpa using hx) ?_;refine (mR hq).trans ?_;have e2:=Nw U9 (eQ a c q) (.int .i64 0) (b7 (eQ a c) q) 0 hx;rw[dq,←arI hq hx] at e2;rw[e2,V.toInt_int,Int.toNat_natCast,show (V.int .i64 (gk (eQ a c) a.n q:Int))=nV (gk (eQ a c) a.n q) from rfl,fin _ rfl,aex hx]
  ·refine bT (by rw[e1];simpa using hx) ?_;refine bT aeI ?_;refine (mR hq).trans ?_;have e2:=Nx U9 (eQ a c q) (b7 (eQ a c) q) 0 hx;rw[dq] at e2;rw[Hr,e2,Int.toNat_natCast,←arJ hq hx,show (V.int .i64 (gk (eQ a c) a.n q:Int))=nV (gk (eQ a c) a.n q) from rfl,fin _ rfl,aey hx]
 ·simp only[NS,HJ,un,aM,bn];refine bF (aV (aw _)) ?_;rw[aV (aw _)];have:(tab a.n fun q=>if q<a.n then nV (gk (eQ a c) a.n q) else nV 0)=cV a.n (gk (eQ a c) a.n):=dy fun q hq=>aB hq;rw[this]
def oY (a:Da):Nat→Nat
 | 0=>1
 | i+1=>if a.fin i=a.fin 0 then oY a i else 2
def iQ (a:Da) (q:Nat):Nat:=if a.fin q=a.fin 0 then 0 else 1
theorem ar0:(b7 (iQ a) a.n).length=oY a a.n:=by
 have key: ∀m,(b7 (iQ a) (m+1)=[0]∧oY a (m+1)=1)∨(b7 (iQ a) (m+1)=[0,1]∧oY a (m+1)=2):=by
  intro m
  induction m with
  | zero=>left;simp[b7,cJ,iQ,oY]
  | succ m ih=>
   rw[b7,oY];unfold iQ cJ;by_cases hf:a.fin (m+1)=a.fin 0
   ·rw[aB hf,aB hf];rcases ih with ⟨i1,i2⟩|⟨i1,i2⟩
    ·left;refine ⟨?_,i2⟩;unfold iQ at i1;rw[i1];rfl
    ·right;refine ⟨?_,i2⟩;unfold iQ at i1;rw[i1];rfl
   ·rw[aC hf,aC hf];rcases ih with ⟨i1,i2⟩|⟨i1,i2⟩
    ·right;refine ⟨?_,rfl⟩;unfold iQ at i1;rw[i1];rfl
    ·right;refine ⟨?_,rfl⟩;unfold iQ at i1;rw[i1];rfl
 have hs:=h.s;obtain ⟨m,hm⟩: ∃m,a.n=m+1:=⟨a.n-1,by omega⟩
 rw[hm];rcases key m with ⟨e1,e2⟩|⟨e1,e2⟩<;>rw[e1,e2]<;>rfl
theorem ar1 {k2 k3:Int} {l2:List V}:Loop (NH CC a.cM (a.cM.length:Int) k2 k3 a.cM l2) (1,0,List.replicate ((((a.cM.length:Nat):Int)).toNat) (V.int .i64 0))=some ((oY a a.n:Int),(a.n:Int),false,cV a.n (iQ a)):=by
 have hm:=h.dH;have hs:=h.s;rw[Da.Nu,Int.toNat_natCast,p5];refine (gz a.n (fun i=>((oY a i:Int),(i:Int),(tab a.n fun q=>if q<i then nV (iQ a q) else nV 0))) _ (fun q hq=> ?_) ?_)
 ·simp only[NH,HH,un,aM,bn];refine bT (bp hq) ?_;refine bs (Da.DA hq) ?_;refine bs (a:= .bool (a.fin 0)) (by unfold Da.cM;exact nG (by omega)) ?_;rw[bz (by omega)];have fin:(tab a.n fun j=>if j<q then nV (iQ a j) else nV 0).set q (nV (iQ a q))=tab a.n fun j=>if j<q+1 then nV (iQ a j) else nV 0:=by
   rw[mn];refine dy fun j _=> ?_;by_cases hj:j=q
   ·rw[aB hj,da,hj]
   ·rw[aC hj];by_cases dF:j<q
    ·rw[aB dF,da]
    ·rw[aC dF,dh]
  simp only[V.CH];by_cases hf:a.fin q=a.fin 0
  ·refine bF (by rw[hf];simp) ?_;have e:oY a (q+1)=oY a q:=by rw[oY,aB hf]
   have e2:(tab a.n fun j=>if j<q then nV (iQ a j) else nV 0)=tab a.n fun j=>if j<q+1 then nV (iQ a j) else nV 0:=dy fun j _=>by
    by_cases hj:j=q
    ·rw[dh,da,hj];unfold iQ;rw[aB hf]
    ·by_cases dF:j<q
     ·rw[aB dF,da]
     ·rw[aC dF,dh]
   rw[e,e2]
  ·refine bT (by simpa using hf) ?_;refine (mR hq).trans ?_;have e:oY a (q+1)=2:=by rw[oY,aC hf]
   have e3:iQ a q=1:=by unfold iQ;rw[aC hf]
   rw[e3] at fin;rw[e,Int.toNat_natCast,show (V.int .i64 1)=nV 1 from rfl,fin];rfl
 ·simp only[NH,HH,un,aM,bn];refine bF (aV (aw _)) ?_;rw[aV (aw _)];have:(tab a.n fun q=>if q<a.n then nV (iQ a q) else nV 0)=cV a.n (iQ a):=dy fun q hq=>aB hq;rw[this]
theorem ar2 {k2 k3:Int} {l2:List V}: ∃p,Loop (HS CC k2 k3 l2 a.cW) ((oY a a.n:Int),cV a.n (iQ a))=some (cV a.n p)∧a.ND p∧∀q,q<a.n→p q≤1000:=by
 have hm:=h.dH;have:=L5 (step:=HS CC k2 k3 l2 a.cW)
  (fun x=> ∃c,x=(((b7 c a.n).length:Int),cV a.n c)∧a.Part c∧∀q,q<a.n→c q≤1000)
  (fun x=>a.n-x.1.toNat)
  (fun r=> ∃p,r=cV a.n p∧a.ND p∧∀q,q<a.n→p q≤1000) (fun x hx=> ?_) ((oY a a.n:Int),cV a.n (iQ a)) ⟨iQ a,by rw[ar0 h],⟨?_,?_⟩,?_⟩
 ·obtain ⟨r,h1,p,rfl,h2,h3⟩:=this;exact ⟨p,h1,h2,h3⟩
 ·obtain ⟨c,rfl,hp,hc⟩:=hx;have hl:(cV a.n c).length=a.n:=by simp[cV]
  have ar3:a.U8 c (gk (eQ a c) a.n):=fun q q' hq dB=>(aew hq dB).trans (Va h)
  have hle:=HD (eQ a c) a.n;have hb: ∀q,q<a.n→gk (eQ a c) a.n q≤1000:=fun q hq=>by have:=U6 (g:=eQ a c) hq;omega
  have Vb: ∀q q',q<a.n→q'<a.n→eQ a c q=eQ a c q'→c q=c q':=fun q q' hq dB e=>(Da.HE.1 ((Va h).1 e)).1;have azJ:=arL Vb;have cr:=arZ h hc (k1:=((b7 c a.n).length:Int)) (k2:=k2) (k3:=k3) (l2:=l2);by_cases he:(b7 (eQ a c) a.n).length=(b7 c a.n).length
  ·right;refine ⟨_,?_,gk (eQ a c) a.n,rfl,⟨fun q q' hq dB=> ?_,arK _ _⟩,hb⟩
   ·simp only[HS,HR,un];refine bT (by rw[hl];exact gB (by omega) (by omega)) ?_;refine bs cr ?_;refine bT (by rw[Hr];simp[he]) ?_;rfl
   ·have dN:=aeA Vb (by omega);rw[aew hq dB,←hp.arM h (fun s s' hs vR e=>(Va h).1 (dN s s' hs vR e)) q q' hq dB];exact ⟨Vb q q' hq dB,dN q q' hq dB⟩
  ·left;have e2:(b7 (gk (eQ a c) a.n) a.n).length=(b7 (eQ a c) a.n).length:=by rw[aez _ _ _ (aw _),jX]
   refine ⟨(((b7 (eQ a c) a.n).length:Int),cV a.n (gk (eQ a c) a.n)),?_,⟨gk (eQ a c) a.n,by rw[e2],ar3.part h hp,hb⟩,?_⟩
   ·simp only[HS,HR,un];refine bT (by rw[hl];exact gB (by omega) (by omega)) ?_;refine bs cr ?_;refine bF (by rw[Hr];simpa using fun e=>he (by omega)) ?_;rw[Hr]
   ·simp only[Int.toNat_natCast];omega
 ·intro q q' hq dB he;have:=he [] WL.nil;rw[Da.uI,Da.uI] at this;unfold iQ;rw[this]
 ·intro q q' hq dB he;unfold iQ at he;split at he<;>split at he
  ·rename_i h1 h2;rw[h1,h2]
  ·omega
  ·omega
  ·rename_i h1 h2;revert h1 h2;cases a.fin q<;>cases a.fin q'<;>cases a.fin 0<;>simp
 ·intro q _;unfold iQ;split<;>omega
theorem ar4: ∃p,CC Mk (eY a)=some [.list ab (cV a.n p)]∧a.ND p∧∀q,q<a.n→p q≤1000:=by
 have hm:=h.dH;obtain ⟨p,h1,h2,h3⟩:=ar2 h (k2:=(a.L:Int)) (k3:=(a.st:Int)) (l2:=a.cM);refine ⟨p,arW ?_,h2,h3⟩;unfold aeG;refine bs (oM h) ?_;refine bF rfl ?_;refine bT (by rw[Da.Nu];exact gB (by omega) (by omega)) ?_;refine bs (ar1 h) ?_;refine bs h1 ?_;rfl
end
noncomputable def HU (C:af) (q t29 t30:Int) (t47:LV) (t48 bj bt:Int) (fJ fE:LV) (ed ee DE DF:Int) (places dQ:LV) (DG DH:Int) (aP bm bR bL dY iR:LV) (t49:Int) (rows:LV) {β:Type} (kn:(Int×LV)→Option β) (kr:(Int×Bool×LV)→Option β):Option β:=
 bif decide (t49<t48) then
  (idx t47 t49).bind fun x5=>
  bif (decide (0≤x5.toInt))&&(decide (x5.toInt<(dQ.length:Int))) then
  (dQ[(x5.toInt:Int).toNat]?).bind fun x6=>
  aM rows t49 fun x7=>
  kn (wrap .i64 (t49+1),bn rows t49 (V.int .i64 x6.toInt))
  else none
 else
  kr (t49,decide (t49<t48),rows)
noncomputable def NU (C:af) (q t29 t30:Int) (t47:LV) (t48 bj bt:Int) (fJ fE:LV) (ed ee DE DF:Int) (places dQ:LV) (DG DH:Int) (aP bm bR bL dY iR:LV):=un fun t49 rows=>HU C q t29 t30 t47 t48 bj bt fJ fE ed ee DE DF places dQ DG DH aP bm bR bL dY iR t49 rows (fun y=>some (Sum.inl y)) (fun r=>some (Sum.inr r))
noncomputable def HV (C:af) (t29 bj bt:Int) (fJ fE:LV) (ed ee DE DF:Int) (places dQ:LV) (DG DH:Int) (aF aP bm bR:LV) (t30:Int) (bL dY:LV) {β:Type} (kn:(Int×LV×LV)→Option β) (kr:(Int×Bool×LV×LV)→Option β):Option β:=
 bif decide (t30<t29) then
  aM dQ t30 fun x3=>
  bif decide ((x3.toInt:Int)<(bL.length:Int)) then
  kn (wrap .i64 (t30+1),bL,dY)
  else
  bif (decide (0≤bj))&&((decide (bj≤bj))&&(Nat.ble ((bj.toNat)*8) aX)) then
   aM bR t30 fun x4=>
   (Loop (NU C t30 t29 t30 x4.toList (x4.toList.length:Int) bj bt fJ fE ed ee DE DF places dQ DG DH aF aP bm bR bL dY) (0,List.replicate (bj.toNat) (V.int .i64 0))).bind (un fun vD=>un fun (uJ:Bool) (aeJ:LV)=>
    aM bm t30 fun p6=>
    bif Nat.ble ((bL.length+([.bool p6.toBool]:LV).length)*1) aX then
    bif Nat.ble ((dY.length+([.list ab aeJ]:LV).length)*24) aX then
     kn (wrap .i64 (t30+1),bL++([.bool p6.toBool]:LV),dY++([.list ab aeJ]:LV))
    else none
    else none)
  else none
 else
  kr (t30,decide (t30<t29),bL,dY)
noncomputable def NV (C:af) (t29 bj bt:Int) (fJ fE:LV) (ed ee DE DF:Int) (places dQ:LV) (DG DH:Int) (aF aP bm bR:LV):=un fun t30=>un fun bL dY=>HV C t29 bj bt fJ fE ed ee DE DF places dQ DG DH aF aP bm bR t30 bL dY (fun y=>some (Sum.inl y)) (fun r=>some (Sum.inr r))
noncomputable def HW (C:af) (t88 ed ee:Int) (dQ:LV) (fL fM:Int) (numbers Vc aF aP bm bR:LV) (t89:Int) (uK:LV) {β:Type} (kn:(Int×LV)→Option β) (kr:(Int×Bool×LV)→Option β):Option β:=
 bif decide (t89<t88) then
  aM Vc t89 fun vC=>
  aM uK t89 fun KG=>
  bif decide ((vC.toInt:Int)≥0) then
  bif (decide (0≤vC.toInt))&&(decide (vC.toInt<(dQ.length:Int))) then
   (dQ[(vC.toInt:Int).toNat]?).bind fun DI=>
   bif (decide (0≤DI.toInt))&&(decide (DI.toInt<(numbers.length:Int))) then
   (numbers[(DI.toInt:Int).toNat]?).bind fun x20=>
   aM (bn uK t89 (V.int .i64 (-1))) t89 fun x21=>
   kn (wrap .i64 (t89+1),bn (bn uK t89 (V.int .i64 (-1))) t89 (V.int .i64 x20.toInt))
   else none
  else none
  else
  kn (wrap .i64 (t89+1),bn uK t89 (V.int .i64 (-1)))
 else
  kr (t89,decide (t89<t88),uK)
noncomputable def NW (C:af) (t88 ed ee:Int) (dQ:LV) (fL fM:Int) (numbers Vc aF aP bm bR:LV):=un fun t89 uK=>HW C t88 ed ee dQ fL fM numbers Vc aF aP bm bR t89 uK (fun y=>some (Sum.inl y)) (fun r=>some (Sum.inr r))
noncomputable def Vd (C:af):cD:=bI 161 Tv [EQ,EQ,EQ,EQ,EQ,H1,EQ,EQ,EQ,EQ,EQ,EQ,EQ,EQ,EQ,EQ,EQ,EQ,H1,EQ,EQ,EQ,EQ,EQ,EQ] [[1,2,3,4,5,0,0,7,8,9,10,11,12,13,14,15,16,17,18,0,20,21,22,23,24,25]] (@HU C) (bI 81 Tw [EQ,H1,EQ,EQ,EQ,EQ,EQ,EQ,EQ,EQ,EQ,EQ,EQ,EQ,EQ,EQ,EQ,EQ,H1,H1] [[1,0,0,3,4,5,6,7,8,9,10,11,12,13,14,15,16,17,18,0,0]] (@HV C) (bI 321 Tx [EQ,H1,EQ,EQ,EQ,EQ,EQ,EQ,H1,EQ,EQ,EQ,EQ,EQ] [[1,0,0,3,4,5,6,7,8,0,10,11,12,13,14]] (@HW C) bB))
theorem ar5 (C:af):bD C (Vd C) 32 (Lp [1,1,1,1,0,1,0,0,1,1,0,0,1,1,1,0,1,0,0] 32):=bJ Tv [EQ,EQ,EQ,EQ,EQ,H1,EQ,EQ,EQ,EQ,EQ,EQ,EQ,EQ,EQ,EQ,EQ,EQ,H1,EQ,EQ,EQ,EQ,EQ,EQ] [[1,2,3,4,5,0,0,7,8,9,10,11,12,13,14,15,16,17,18,0,20,21,22,23,24,25]] (@HU C) (bq au)
theorem ar6 (C:af):bD C (Vd C) 32 (Lp [1,1,1,1,0,1,0,0] 32):=bJ Tw [EQ,H1,EQ,EQ,EQ,EQ,EQ,EQ,EQ,EQ,EQ,EQ,EQ,EQ,EQ,EQ,EQ,EQ,H1,H1] [[1,0,0,3,4,5,6,7,8,9,10,11,12,13,14,15,16,17,18,0,0]] (@HV C) (bq (bE (ar5 C) au))
theorem ar7 (C:af):bD C (Vd C) 32 (Lp [1,1,1,1,1,1,1,0,1,0,0] 32):=bJ Tx [EQ,H1,EQ,EQ,EQ,EQ,EQ,EQ,H1,EQ,EQ,EQ,EQ,EQ] [[1,0,0,3,4,5,6,7,8,0,10,11,12,13,14]] (@HW C) (bq au)
noncomputable def aeK (C:af) (c6 db:Int) (cE c7:LV):Option LV:=
 (C CT [V.int .i64 c6,V.int .i64 db,.list ak cE,.list ag c7]).bind fun r1=>
 (C Mk [V.int .i64 ((V.nth r1 0).toInt),V.int .i64 ((V.nth (r1.drop 1) 0).toInt),.list ak ((V.nth (r1.drop 2) 0).toList),.list ag ((V.nth ((r1.drop 2).drop 1) 0).toList)]).bind fun r2=>
 (Loop (NV C (((V.nth r2 0).toList).length:Int) c6 db cE c7 0 0 ((V.nth r1 0).toInt) ((V.nth (r1.drop 1) 0).toInt) ((V.nth (((r1.drop 2).drop 1).drop 1) 0).toList) ((V.nth r2 0).toList) c6 0 ([]:LV) ([]:LV) ((V.nth (r1.drop 2) 0).toList) ((V.nth ((r1.drop 2).drop 1) 0).toList)) (0,([]:LV),([]:LV))).bind (un fun Kv=>un fun (B6:Bool)=>un fun (pE:LV) (vz:LV)=>
  (C CT [V.int .i64 c6,V.int .i64 0,.list ak pE,.list ag vz]).bind fun sN=>
  bif (decide (0≤(((V.nth (((r1.drop 2).drop 1).drop 1) 0).toList).length:Int)))&&((decide ((((V.nth (((r1.drop 2).drop 1).drop 1) 0).toList).length:Int)≤(((V.nth (((r1.drop 2).drop 1).drop 1) 0).toList).length:Int)))&&(Nat.ble ((((((V.nth (((r1.drop 2).drop 1).drop 1) 0).toList).length:Int):Int).toNat)*8) aX)) then
   (Loop (NW C (((V.nth (((r1.drop 2).drop 1).drop 1) 0).toList).length:Int) 0 0 ((V.nth r2 0).toList) ((V.nth sN 0).toInt) ((V.nth (sN.drop 1) 0).toInt) ((V.nth (((sN.drop 2).drop 1).drop 1) 0).toList) ((V.nth (((r1.drop 2).drop 1).drop 1) 0).toList) ([]:LV) ([]:LV) ((V.nth (sN.drop 2) 0).toList) ((V.nth ((sN.drop 2).drop 1) 0).toList)) (0,List.replicate (((((V.nth (((r1.drop 2).drop 1).drop 1) 0).toList).length:Int):Int).toNat) (V.int .i64 0))).bind (un fun ar8=>un fun (azK:Bool) (ar9:LV)=>
    some [V.int .i64 ((V.nth sN 0).toInt),V.int .i64 ((V.nth (sN.drop 1) 0).toInt),.list ak ((V.nth (sN.drop 2) 0).toList),.list ag ((V.nth ((sN.drop 2).drop 1) 0).toList),.list ab ar9])
  else none)
theorem asa {c6 db:Int} {cE c7:LV} {r:Option LV} (h:aeK CC c6 db cE c7=r):CC Mj [V.int .i64 c6,V.int .i64 db,.list ak cE,.list ag c7]=r:=bC (bE (ar6 CC) (bE (ar7 CC) au)) h
noncomputable def aeL (C:af) (c6 db:Int) (cE c7:LV):Option LV:=
 (C qs [V.int .i64 c6,V.int .i64 db,.list ak cE,.list ag c7]).bind fun r1=>
 bif (((V.nth r1 0).toInt):Int) != 0 then
  some [V.int .i64 0,V.int .i64 0,.list ak ([]:LV),.list ag ([]:LV)]
 else
  (C Mj [V.int .i64 c6,V.int .i64 db,.list ak cE,.list ag c7]).bind fun r2=>
  some [V.int .i64 ((V.nth r2 0).toInt),V.int .i64 ((V.nth (r2.drop 1) 0).toInt),.list ak ((V.nth (r2.drop 2) 0).toList),.list ag ((V.nth ((r2.drop 2).drop 1) 0).toList)]
theorem asb {c6 db:Int} {cE c7:LV} {r:Option LV} (h:aeL CC c6 db cE c7=r):CC uB [V.int .i64 c6,V.int .i64 db,.list ak cE,.list ag c7]=r:=bC (L:=bB) au h
theorem asd {p:Nat→Nat} {n:Nat} (h:Au p n) (hn:0<n):p 0=0:=by
 simpa[b7,cJ] using h 1 (by omega)
theorem aeM {p:Nat→Nat} {n i:Nat} (h:Au p n) (hi:i<n):p i∈b7 p i↔p i<(Da.gM p i).length:=by
 rw[Da.HF];constructor
 ·intro hm;rw[h i (by omega)] at hm;simpa using hm
 ·intro hm;rw[h i (by omega)];simpa using hm
theorem ase (p:Nat→Nat) (n:Nat):(Da.gM p n).length≤n:=by rw[Da.HF];exact HD p n
def qF (a:Da) (p:Nat→Nat) (i:Nat):List V:=(Da.gM p i).map fun r=>V.bool (a.fin r)
def qN (a:Da) (p:Nat→Nat) (i:Nat):List V:=(Da.gM p i).map fun r=>nH a.L fun x=>p (a.nx r x)
theorem asf {a:Da} {p:Nat→Nat}:(a.quo p).cM=qF a p a.n∧(a.quo p).cW=qN a p a.n:=by
 constructor
 ·unfold Da.cM qF;rw[Ap _ 0,Da.yj];exact dy fun i hi=>by rw[Da.aeB hi,cP hi]
 ·unfold Da.cW qN;rw[Ap _ 0,Da.yj];refine dy fun i hi=> ?_;unfold nH;exact congrArg _ (dy fun x hx=>by rw[Da.aeC hi hx,cP hi])
section
variable {a:Da} (h:a.Ok) {p:Nat→Nat}
include h
theorem asg {q:Nat} (hq:q<a.n) {k1 k2 k3 k4 k5 k6 k7 k8 k9 k10 k11:Int} {l1 l2 l3 l4 l5 l6 l7 l8 l9:List V}:
  Loop (NU CC k1 k2 k3 (tab a.L fun x=>iV (a.nx q x)) ((tab a.L fun x=>iV (a.nx q x)).length:Int) k4 k5 l1 l2 k6 k7 k8 k9 l3 (cV a.n p) k10 k11 l4 l5 l6 l7 l8 l9) (0,List.replicate (((a.L:Nat):Int).toNat) (V.int .i64 0))=
   some ((a.L:Int),false,(tab a.L fun x=>nV (p (a.nx q x)))):=by
 have h6:=h.l6;rw[fT,Int.toNat_natCast,p5];refine (gz a.L (fun t=>((t:Int),(tab a.L fun x=>if x<t then nV (p (a.nx q x)) else nV 0))) _ (fun t ht=> ?_) ?_)
 ·simp only[NU,HU,un,aM,bn];refine bT (bp ht) ?_;refine bs (DB ht) ?_;refine (mR (i:=a.nx q t) (h.kR hq ht)).trans ?_;refine (mR ht).trans ?_;rw[bz (by omega),Int.toNat_natCast,mn];refine congrArg (fun x=>some (Sum.inl (((t+1:Nat):Int),x))) (dy fun j _=> ?_);by_cases hj:j=t
  ·rw[aB hj,da,hj];rfl
  ·rw[aC hj];by_cases dF:j<t
   ·rw[aB dF,da]
   ·rw[aC dF,dh]
 ·simp only[NU,HU,un,aM,bn];refine bF (aV (aw _)) ?_;rw[aV (aw _)];refine congrArg (fun x=>some (Sum.inr ((a.L:Int),false,x))) (dy fun j hj=>aB hj)
theorem ash (ho:Au p a.n) {k3 k4 k5 k6 k7 k8 k9:Int} {l1 l2 l3 l4 l5:List V}:
  Loop (NV CC ((cV a.n p).length:Int) (a.L:Int) k3 l1 l2 k4 k5 k6 k7 l3 (cV a.n p) k8 k9 l4 l5 a.cM a.cW) (0,([]:List V),([]:List V))=
   some ((a.n:Int),false,qF a p a.n,qN a p a.n):=by
 have h6:=h.l6;have hm:=h.dH;rw[show (cV a.n p).length=a.n by simp[cV]];refine (gz a.n (fun i=>((i:Int),qF a p i,qN a p i)) _ (fun q hq=> ?_) ?_)
 ·have hle:=ase p q;have hF:(qF a p q).length=(Da.gM p q).length:=by simp[qF]
  have hN:(qN a p q).length=(Da.gM p q).length:=by simp[qN]
  simp only[NV,HV,un,aM];refine bT (bp hq) ?_;refine (mR (i:=q) hq).trans ?_;rw[bz (by omega)];simp only[nV,V.toInt_int];by_cases hx:p q∈b7 p q
  ·refine bT (cq (by rw[hF];have:=(aeM ho hq).1 hx;omega)) ?_;unfold qF qN;rw[Da.gM,aB hx]
  ·refine bF (c8 (by rw[hF];intro h2;exact hx ((aeM ho hq).2 (by omega)))) ?_;refine bT (gB (by omega) (by omega)) ?_;refine (mR (i:=q) hq).trans ?_;simp only[Dz];refine bs (asg h hq) ?_;refine (mR (i:=q) hq).trans ?_;refine bT (cap (by rw[hF];simp;omega) (by omega)) ?_;refine bT (cap (by rw[hN];simp;omega) (by omega)) ?_;unfold qF qN;rw[Da.gM,aC hx,uY,uY];rfl
 ·simp only[NV,HV,un,aM];refine bF (aV (aw _)) ?_;rw[aV (aw _)]
end
def wB (U U':List Nat) (p:Nat→Nat) (q:Nat):V:=if q∈U then iV ((if p (U.idxOf q)∈U' then nV (U'.idxOf (p (U.idxOf q))) else V.int .i64 (-1)).toInt) else V.int .i64 (-1)
theorem asi {n m k:Nat} {U U':List Nat} {p:Nat→Nat} (hn:n≤512) (hU:U.length≤m) (hp: ∀q,q<m→p q<k) {k1 k2 k3 k4:Int} {l1 l2 l3 l4:List V}:
  ∃X,Loop (NW CC ((oW U n).length:Int) k1 k2 (cV m p) k3 k4 (oW U' k) (oW U n) l1 l2 l3 l4) (0,List.replicate ((((oW U n).length:Int):Int).toNat) (V.int .i64 0))=some ((n:Int),false,X):=by
 rw[show (oW U n).length=n by simp[oW],Int.toNat_natCast,p5];refine ⟨tab n fun q=>if q<n then wB U U' p q else V.int .i64 0,gz n (fun i=>((i:Int),(tab n fun q=>if q<i then wB U U' p q else V.int .i64 0))) _ (fun q hq=> ?_) ?_⟩
 ·simp only[NW,HW,un,aM,bn];refine bT (bp hq) ?_;refine (mR (i:=q) hq).trans ?_;refine (mR (i:=q) hq).trans ?_;rw[bz (by omega)];have fin: ∀v,v=wB U U' p q→((tab n fun j=>if j<q then wB U U' p j else V.int .i64 0).set q v)=tab n fun j=>if j<q+1 then wB U U' p j else V.int .i64 0:=by
   rintro v rfl;rw[mn];refine dy fun j _=> ?_;by_cases hj:j=q
   ·rw[aB hj,aB (show j<q+1 by omega),hj]
   ·rw[aC hj];by_cases dF:j<q
    ·rw[aB dF,aB (show j<q+1 by omega)]
    ·rw[aC dF,aC (show¬j<q+1 by omega)]
  by_cases hx:q∈U
  ·have es:wB U U' p q=iV ((if p (U.idxOf q)∈U' then nV (U'.idxOf (p (U.idxOf q))) else V.int .i64 (-1)).toInt):=by unfold wB;rw[aB hx]
   have hi:=wY hx;rw[aB hx];refine bT (cq (by simp only[nV,V.toInt_int];omega)) ?_;simp only[nV,V.toInt_int];refine (mR (i:=U.idxOf q) (by omega)).trans ?_;simp only[nV,V.toInt_int];refine (mR (i:=p (U.idxOf q)) (hp _ (by omega))).trans ?_;refine bT (by rw[oG,fT];exact oO hq) ?_;refine bs (a:= .int .i64 (-1)) (by rw[Int.toNat_natCast,Eb];simp[hq]) ?_;rw[Int.toNat_natCast,Bk,←fin _ es.symm]
  ·rw[aC hx];refine bF (c8 (by simp)) ?_;rw[Int.toNat_natCast,←fin _ (show V.int .i64 (-1)=wB U U' p q by unfold wB;rw[aC hx])]
 ·simp only[NW,HW,un,aM,bn];refine bF (aV (aw _)) ?_;rw[aV (aw _)]
theorem Canon.congr {m:Da} {L:Nat} {K K':List Nat→Bool} (h:m.Canon L K) (e: ∀w,WL L w→K w=K' w):m.Canon L K':=⟨h.ok,h.hL,h.st,h.num,h.red,fun w hw=>(h.Dv w hw).trans (e w hw)⟩
theorem asj {a:Da} (h:a.Ok): ∃m X,CC Mj (eY a)=some (eY m++[.list ab X])∧m.Canon a.L (a.acc a.st):=by
 have ht:=h.ad8;have hm:=h.dH;have hle:=h.wA a.n;have e3:a.trim.n=(aA a.L a.nx a.st a.n).length:=tk;obtain ⟨p,c1,c2,c3⟩:=ar4 ht;have hq:=Da.aeD ht c2;obtain ⟨q1,q2⟩:=asf (a:=a.trim) (p:=p);have asl:=Da.arO ht c2;have dN:(a.trim.quo p).st=0:=asd c2.2 ht.s;have p7:=aev hq;obtain ⟨X,hX⟩:=asi (n:=a.n) (m:=a.trim.n) (k:=(a.trim.quo p).n) (U:=aA a.L a.nx a.st a.n) (U':=aA (a.trim.quo p).L (a.trim.quo p).nx (a.trim.quo p).st (a.trim.quo p).n) (p:=p) hm (by omega) (fun q hq=>by rw[Da.yj];exact Da.HG c2.2 hq) (k1:=0) (k2:=0) (k3:=((a.trim.quo p).trim.L:Int)) (k4:=((a.trim.quo p).trim.st:Int)) (l1:=[]) (l2:=[]) (l3:=(a.trim.quo p).trim.cM) (l4:=(a.trim.quo p).trim.cW);refine ⟨(a.trim.quo p).trim,X,asa ?_,Canon.congr asl fun w hw=>h.ad9 hw⟩;unfold aeK;refine bs (aev h) ?_;refine bs c1 ?_;refine bs (ash ht c2.2) ?_;simp only[un];rw[←q1,←q2];have asm:CC CT [.int .i64 (a.L:Int),.int .i64 0,.list ak (a.trim.quo p).cM,.list ag (a.trim.quo p).cW]=some (eY (a.trim.quo p).trim++[.list ab (oW (aA (a.trim.quo p).L (a.trim.quo p).nx (a.trim.quo p).st (a.trim.quo p).n) (a.trim.quo p).n)]):=by
  rw[←p7];unfold eY jC;rw[dN];rfl
 refine bs asm ?_;have e0:(oW (aA a.L a.nx a.st a.n) a.n).length=a.n:=by simp[oW]
 refine bT (show ((decide (0≤((oW (aA a.L a.nx a.st a.n) a.n).length:Int)))&&((decide (((oW (aA a.L a.nx a.st a.n) a.n).length:Int)≤((oW (aA a.L a.nx a.st a.n) a.n).length:Int)))&&(Nat.ble (((((oW (aA a.L a.nx a.st a.n) a.n).length:Nat):Int).toNat)*8) aX)))=true from gB (by rw[e0];omega) (by omega)) ?_;refine bs hX ?_;rfl
theorem aeN {a:Da} (h:a.Ok): ∃m,CC uB (eY a)=some (eY m)∧m.Canon a.L (a.acc a.st):=by
 obtain ⟨m,X,h1,h2⟩:=asj h;refine ⟨m,asb ?_,h2⟩;unfold aeL;refine bs (oM h) ?_;refine bF rfl ?_;refine bs h1 ?_;rfl
open Classical in
noncomputable def minD (a:Da):Da:=if h: ∃m:Da,m.Canon a.L (a.acc a.st) then Classical.choose h else a
theorem xz {a:Da} (h:a.Ok):(minD a).Canon a.L (a.acc a.st):=by
 obtain ⟨m,_,h2⟩:=aeN h;have: ∃m:Da,m.Canon a.L (a.acc a.st):=⟨m,h2⟩
 unfold minD;rw[wO this];exact Classical.choose_spec this
theorem aeO {a m:Da} (h:a.Ok) (hm:m.Canon a.L (a.acc a.st)):m=minD a:=hm.eq (xz h)
theorem Ax {a:Da} (h:a.Ok):CC uB (eY a)=some (eY (minD a)):=by
 obtain ⟨m,h1,h2⟩:=aeN h;rw[h1,aeO h h2]
noncomputable def E5 (C:af) (a b':LV) (t12 t13:Int) {β:Type} (kn:Int→Option β) (kr:((Bool) ⊕ (Int×Bool))→Option β):Option β:=
 bif decide (t13<t12) then
  (idx a t13).bind fun x1=>
  (idx b' t13).bind fun x2=>
  bif (x1.toInt:Int) != x2.toInt then
  kr (.inl false)
  else
  kn (wrap .i64 (t13+1))
 else
  kr (.inr (t13,decide (t13<t12)))
noncomputable def Qe (C:af) (a b':LV) (t12:Int):=fun t13=>E5 C a b' t12 t13 (fun y=>some (Sum.inl y)) (fun r=>some (Sum.inr r))
noncomputable def asn (C:af):cD:=bI 65 Tl [EQ,EQ,EQ,H1] [[0],[1,2,3,0,0]] (@E5 C) bB
theorem aso (C:af):bD C (asn C) 17 (Lp [1,1,0,1,0,0] 17):=bJ Tl [EQ,EQ,EQ,H1] [[0],[1,2,3,0,0]] (@E5 C) (bq au)
noncomputable def XX (C:af) (a b':LV):Option LV:=
 bif (a.length:Int) != (b'.length:Int) then
  some [.bool false]
 else
  (Loop (Qe C a b' (a.length:Int)) 0).bind (fg (fun (jJ:Bool)=>
   some [.bool jJ]) (un fun (lx:Int) (kC:Bool)=>
   some [.bool true]))
theorem aih {a b':LV} {r:Option LV} (h:XX CC a b'=r):CC Qd [.list ab a,.list ab b']=r:=bC (bE (aso CC) au) h
def aeP (m:Da) (e:Int):List V:=[.int .i64 (m.L:Int),.int .i64 (m.st:Int),.int .i64 e,.list ak m.cM,.list ag m.cW]
end Go.AM
set_option maxRecDepth 100000
namespace Go.AM
open Go.IntKind (wrap)
open Go.Proofs
namespace Da
def HX (a:Da) (k q:Nat):Prop:= ∃w,WL a.L w∧w.length≤k∧a.acc q w=true
def Live (a:Da) (q:Nat):Prop:= ∃w,WL a.L w∧a.acc q w=true
open Classical in
noncomputable def PB (a:Da) (q:Nat):Bool:=decide (a.Live q)
theorem HX.live {a:Da} {k q:Nat} (h:a.HX k q):a.Live q:=by obtain ⟨w,h1,_,h3⟩:=h;exact ⟨w,h1,h3⟩
theorem HX.mono {a:Da} {k m q:Nat} (h:a.HX k q) (hk:k≤m):a.HX m q:=by obtain ⟨w,h1,h2,h3⟩:=h;exact ⟨w,h1,by omega,h3⟩
end Da
def upd (r:Nat→Bool) (p:Nat) (b:Bool) (q:Nat):Bool:=if q=p then b else r q
structure LvI (a:Da) (r0 r:Nat→Bool) (c:Bool):Prop where
 lJ: ∀q,q<a.n→r q=true→a.Live q
 up: ∀q,q<a.n→r0 q=true→r q=true
 yes:c=true→∃q,q<a.n∧r0 q=false∧r q=true
 no:c=false→∀q,q<a.n→r q=r0 q
section
variable {a:Da} (h:a.Ok)
include h
end
section
variable {a:Da} (h:a.Ok)
include h
end
end Go.AM
set_option maxRecDepth 100000
namespace Go.AM
open Go.IntKind (wrap)
open Go.Proofs
theorem kH {a:Da} (h:a.Ok):(minD a).Ok:=(xz h).ok
theorem vF {a:Da} (h:a.Ok):(minD a).L=a.L:=(xz h).hL
theorem Ym {a:Da} (h:a.Ok):(minD a).st=0:=(xz h).st
theorem Cc {a:Da} (h:a.Ok) {w:List Nat} (hw:WL a.L w):(minD a).acc (minD a).st w=a.acc a.st w:=by
 rw[Ym h];exact (xz h).Dv w hw
theorem QB {a b:Da} (ha:a.Ok) (hb:b.Ok) (hL:a.L=b.L) (hl: ∀w,WL a.L w→a.acc a.st w=b.acc b.st w):minD a=minD b:=
 aeO hb (hL▸Canon.congr (xz ha) hl)
theorem asp {a:Da} (ha:a.Ok):minD (minD a)=minD a:=
 QB (kH ha) ha (vF ha) fun w hw=>Cc ha (by rwa [vF ha] at hw)
end Go.AM
set_option maxRecDepth 100000
namespace Go.AM
open Go.IntKind (wrap)
section
variable {α:Type} [DecidableEq α] {L:Nat} {next:α→Nat→α} {a0:α}
theorem Ve (S:List α) (a:α): ∀x,(b9 next S a x).length≤S.length+x
 | 0=>aw _
 | x+1=>by
  have:=Ve S a x;rw[b9,Dw];split<;>omega
theorem asq {k:Nat} (hd:(aA L next a0 k).length≤k) (i:Nat):(aA L next a0 i).length≤(aA L next a0 k).length:=by
 rcases jq k i with c|c
 ·rw[UT hd (by omega)];exact aw _
 ·exact (rX c).length_le
theorem asr {P:α→Prop} (h0:P a0) (hP: ∀a,P a→∀x,x<L→P (next a x)) (i:Nat): ∀a∈aA L next a0 i,P a:=by
 intro a ha;obtain ⟨w,hw,rfl⟩:=Hg i a ha;have: ∀(w:List Nat) (b:α),P b→WL L w→P (w.foldl next b):=by
  intro w
  induction w with
  | nil=>intro b hb _;exact hb
  | cons x w ih=>intro b hb hw;exact ih _ (hP b hb x hw.head) hw.tail
 exact this w a0 h0 hw
end
end Go.AM
set_option maxRecDepth 100000
namespace Go.AM
open Go.IntKind (wrap)
open Go.Proofs
noncomputable def aeQ (C:af) (uL uM x ed ee:Int) (kS kg:LV) (NY NZ:Int) (N3 HY:LV):Option LV:=
 (idx kg uL).bind fun x1=>
 (idx x1.toList x).bind fun x2=>
 (idx HY uM).bind fun x3=>
 (idx x3.toList x).bind fun x4=>
 some [V.int .i64 x2.toInt,V.int .i64 x4.toInt,V.int .i64 ed,V.int .i64 ee,.list ak kS,.list ag kg,V.int .i64 NY,V.int .i64 NZ,.list ak N3,.list ag HY]
theorem ass {uL uM x ed ee:Int} {kS kg:LV} {NY NZ:Int} {N3 HY:LV} {r:Option LV} (h:aeQ CC uL uM x ed ee kS kg NY NZ N3 HY=r):CC wc [V.int .i64 uL,V.int .i64 uM,V.int .i64 x,V.int .i64 ed,V.int .i64 ee,.list ak kS,.list ag kg,V.int .i64 NY,V.int .i64 NZ,.list ak N3,.list ag HY]=r:=bC (L:=bB) au h
noncomputable def N4 (C:af) (bit:Int) (t12:Bool) (y7 y8:Int) (azL azM:LV) (ed ee:Int) (kS kg:LV) (wC azN azO:Int) {β:Type} (kr:(Int)→Option β):Option β:=
 bif t12 then
  kr (wrap .i64 (bit+2))
 else
  kr bit
noncomputable def ast (C:af):cD:=Gk 207 Tu [[0,3,4,5,6,7,8,9,10,11,12,13]] (@N4 C) bB
theorem asu (C:af):bD C (ast C) 31 (Cd 12 [1,1,0,1,0] [1,1,0,1,1] 31):=Gj Tu [[0,3,4,5,6,7,8,9,10,11,12,13]] (@N4 C) (bq au) (bq au)
noncomputable def aeR (C:af) (uL uM tm tn:Int) (qU tp:LV) (ed ee:Int) (kS kg:LV) (wC:Int):Option LV:=
 (idx qU uL).bind fun x1=>
 N4 C 0 x1.toBool tm tn qU tp ed ee kS kg wC uL uM (fun N5=>
  (idx kS uM).bind fun x3=>
  bif x3.toBool then
   bif decide (0≤(wrap .i64 (N5+1))) then
   some [.bool (((wrap .i64 ((BitVec.ofInt (IntKind.bits .i64) (Int.fdiv wC (2^(min (wrap .i64 (N5+1)).toNat (IntKind.bits .i64))))&&&BitVec.ofInt (IntKind.bits .i64) 1).toNat)):Int)==1),V.int .i64 tm,V.int .i64 tn,.list ak qU,.list ag tp,V.int .i64 ed,V.int .i64 ee,.list ak kS,.list ag kg,V.int .i64 wC]
   else none
  else
   bif decide (0≤N5) then
   some [.bool (((wrap .i64 ((BitVec.ofInt (IntKind.bits .i64) (Int.fdiv wC (2^(min N5.toNat (IntKind.bits .i64))))&&&BitVec.ofInt (IntKind.bits .i64) 1).toNat)):Int)==1),V.int .i64 tm,V.int .i64 tn,.list ak qU,.list ag tp,V.int .i64 ed,V.int .i64 ee,.list ak kS,.list ag kg,V.int .i64 wC]
   else none)
theorem asv {uL uM tm tn:Int} {qU tp:LV} {ed ee:Int} {kS kg:LV} {wC:Int} {r:Option LV} (h:aeR CC uL uM tm tn qU tp ed ee kS kg wC=r):CC we [V.int .i64 uL,V.int .i64 uM,V.int .i64 tm,V.int .i64 tn,.list ak qU,.list ag tp,V.int .i64 ed,V.int .i64 ee,.list ak kS,.list ag kg,V.int .i64 wC]=r:=bC (bE (asu CC) au) h
noncomputable def aeS (C:af) (mo mq:Int) (ba:LV):Option LV:=
 bif (eF .i64 mo&&(eF .i64 mq&&true))&&true then
  bif (eF .i64 mo&&(eF .i64 mq&&true))&&true then
  bif Nat.ble ((ba.length+([.agg [V.int .i64 mo,V.int .i64 mq]]:LV).length)*16) aX then
   some [V.int .i64 (ba.length:Int),.list jV (ba++([.agg [V.int .i64 mo,V.int .i64 mq]]:LV)),.list lG (iH (.agg [V.int .i64 mo,V.int .i64 mq]) (V.int .i64 (ba.length:Int)) ([]:LV))]
  else none
  else none
 else none
theorem asw {mo mq:Int} {ba:LV} {r:Option LV} (h:aeS CC mo mq ba=r):CC Gl [V.int .i64 mo,V.int .i64 mq,.list jV ba]=r:=bC (L:=bB) au h
noncomputable def aeT (C:af) (mo mq:Int) (ba aI:LV):Option LV:=
 bif (eF .i64 mo&&(eF .i64 mq&&true))&&true then
  bif !(fZ (.agg [V.int .i64 mo,V.int .i64 mq]) aI) then
  bif (eF .i64 mo&&(eF .i64 mq&&true))&&true then
   bif Nat.ble ((ba.length+([.agg [V.int .i64 mo,V.int .i64 mq]]:LV).length)*16) aX then
   some [V.int .i64 (ba.length:Int),.list lG (iH (.agg [V.int .i64 mo,V.int .i64 mq]) (V.int .i64 (ba.length:Int)) aI),.list jV (ba++([.agg [V.int .i64 mo,V.int .i64 mq]]:LV))]
   else none
  else none
  else
  some [V.int .i64 ((jO (.agg [V.int .i64 mo,V.int .i64 mq]) aI (V.int .i64 0)).toInt),.list lG aI,.list jV ba]
 else none
theorem asx {mo mq:Int} {ba aI:LV} {r:Option LV} (h:aeT CC mo mq ba aI=r):CC Sy [V.int .i64 mo,V.int .i64 mq,.list jV ba,.list lG aI]=r:=bC (L:=bB) au h
noncomputable def HZ (C:af) (aO i t36 p8 qV qW bj bt Vf Vg:Int) (bm bR iR gm:LV) (t37 g9 hY:Int) (ia ib:LV) (p9 qa:Int) (qb qc rows bL dY:LV) {β:Type} (kn:(Int×Int×Int×LV×LV×Int×Int×LV×LV×LV×LV×LV)→Option β) (kr:(Int×Bool×Int×Int×LV×LV×Int×Int×LV×LV×LV×LV×LV)→Option β):Option β:=
 bif decide (t37<t36) then
  (C wc [V.int .i64 Vf,V.int .i64 Vg,V.int .i64 t37,V.int .i64 g9,V.int .i64 hY,.list ak ia,.list ag ib,V.int .i64 p9,V.int .i64 qa,.list ak qb,.list ag qc]).bind fun r3=>
  (C Sy [V.int .i64 ((V.nth r3 0).toInt),V.int .i64 ((V.nth (r3.drop 1) 0).toInt),.list jV bL,.list lG dY]).bind fun r4=>
  aM rows t37 fun x5=>
  kn (wrap .i64 (t37+1),(V.nth (r3.drop 2) 0).toInt,(V.nth ((r3.drop 2).drop 1) 0).toInt,(V.nth (((r3.drop 2).drop 1).drop 1) 0).toList,(V.nth ((((r3.drop 2).drop 1).drop 1).drop 1) 0).toList,(V.nth ((r3.drop 2).drop 4) 0).toInt,(V.nth (((r3.drop 2).drop 4).drop 1) 0).toInt,(V.nth ((((r3.drop 2).drop 4).drop 1).drop 1) 0).toList,(V.nth (((((r3.drop 2).drop 4).drop 1).drop 1).drop 1) 0).toList,bn rows t37 (V.int .i64 ((V.nth r4 0).toInt)),(V.nth ((r4.drop 1).drop 1) 0).toList,(V.nth (r4.drop 1) 0).toList)
 else
  kr (t37,decide (t37<t36),g9,hY,ia,ib,p9,qa,qb,qc,rows,bL,dY)
noncomputable def N6 (C:af) (aO i t36 p8 qV qW bj bt Vf Vg:Int) (bm bR iR gm:LV):=un fun t37=>un fun g9=>un fun hY=>un fun ia=>un fun ib=>un fun p9=>un fun qa=>un fun qb=>un fun qc=>un fun rows=>un fun bL dY=>HZ C aO i t36 p8 qV qW bj bt Vf Vg bm bR iR gm t37 g9 hY ia ib p9 qa qb qc rows bL dY (fun y=>some (Sum.inl y)) (fun r=>some (Sum.inr r))
noncomputable def H0 (C:af) (aO qV qW bj bt:Int) (aF aP:LV) (i g9 hY:Int) (ia ib:LV) (p9 qa:Int) (qb qc:LV) (p8:Int) (bm bR bL dY:LV) {β:Type} (kn:(Int×Int×Int×LV×LV×Int×Int×LV×LV×Int×LV×LV×LV×LV)→Option β) (kr:((Int×Int×Int×LV×LV×Int×Int×LV×LV×Int×Int×Int×LV×LV×LV) ⊕ (Int×Bool×Int×Int×LV×LV×Int×Int×LV×LV×Int×LV×LV×LV×LV))→Option β):Option β:=
 bif decide (i<(bm.length:Int)) then
  aM bm i fun x2=>
  bif (decide (0≤aO))&&((decide (aO≤aO))&&(Nat.ble ((aO.toNat)*8) aX)) then
  (Loop (N6 C aO i ((List.replicate (aO.toNat) (V.int .i64 0)).length:Int) p8 qV qW bj bt ((x2.cell 0).toInt) ((x2.cell 1).toInt) aF aP bL dY) (0,g9,hY,ia,ib,p9,qa,qb,qc,List.replicate (aO.toNat) (V.int .i64 0),bm,bR)).bind (un fun jz=>un fun (mL:Bool)=>un fun Hu=>un fun Hv=>un fun (Hw:LV)=>un fun (Hy:LV)=>un fun aeU=>un fun aeV=>un fun (aeW:LV)=>un fun (aeX:LV)=>un fun (aeY:LV)=>un fun (pY:LV) (tq:LV)=>
   bif decide ((pY.length:Int)>512) then
    kr (.inl (3,Hu,Hv,Hw,Hy,aeU,aeV,aeW,aeX,p8,0,0,([]:LV),([]:LV),([]:LV)))
   else
    bif Nat.ble ((dY.length+([.list ab aeY]:LV).length)*24) aX then
    (C we [V.int .i64 ((x2.cell 0).toInt),V.int .i64 ((x2.cell 1).toInt),V.int .i64 Hu,V.int .i64 Hv,.list ak Hw,.list ag Hy,V.int .i64 aeU,V.int .i64 aeV,.list ak aeW,.list ag aeX,V.int .i64 p8]).bind fun tu=>
    bif Nat.ble ((bL.length+([.bool ((V.nth tu 0).toBool)]:LV).length)*1) aX then
     kn (wrap .i64 (i+1),(V.nth (tu.drop 1) 0).toInt,(V.nth ((tu.drop 1).drop 1) 0).toInt,(V.nth (((tu.drop 1).drop 1).drop 1) 0).toList,(V.nth ((((tu.drop 1).drop 1).drop 1).drop 1) 0).toList,(V.nth ((tu.drop 1).drop 4) 0).toInt,(V.nth (((tu.drop 1).drop 4).drop 1) 0).toInt,(V.nth ((((tu.drop 1).drop 4).drop 1).drop 1) 0).toList,(V.nth (((((tu.drop 1).drop 4).drop 1).drop 1).drop 1) 0).toList,(V.nth (((tu.drop 1).drop 4).drop 4) 0).toInt,pY,tq,bL++([.bool ((V.nth tu 0).toBool)]:LV),dY++([.list ab aeY]:LV))
    else none
    else none)
  else none
 else
  kr (.inr (i,decide (i<(bm.length:Int)),g9,hY,ia,ib,p9,qa,qb,qc,p8,bm,bR,bL,dY))
noncomputable def H2 (C:af) (aO qV qW bj bt:Int) (aF aP:LV):=un fun i=>un fun g9=>un fun hY=>un fun ia=>un fun ib=>un fun p9=>un fun qa=>un fun qb=>un fun qc=>un fun p8=>un fun bm=>un fun bR=>un fun bL dY=>H0 C aO qV qW bj bt aF aP i g9 hY ia ib p9 qa qb qc p8 bm bR bL dY (fun y=>some (Sum.inl y)) (fun r=>some (Sum.inr r))
noncomputable def aeZ (C:af):cD:=bI 161 Ts [EQ,EQ,EQ,H1,H1,H1,H1,H1,H1,H1,H1,H1,EQ,EQ,EQ,EQ,EQ,EQ,EQ,H1,EQ,EQ,H1,H1,EQ,EQ] [[1,2,3,0,0,0,0,0,0,0,0,0,0,13,14,15,16,17,18,19,0,21,22,0,0,25,26]] (@HZ C) (bI 81 Tt [EQ,H1,H1,H1,H1,H1,H1,H1,H1,H1,H1,EQ,EQ,EQ,EQ,EQ,EQ,H1,H1,H1,H1] [[0,0,0,0,0,0,0,0,0,0,0,0,0,0,0],[1,0,0,0,0,0,0,0,0,0,0,0,12,13,14,15,16,17,0,0,0,0]] (@H0 C) bB)
theorem asy (C:af):bD C (aeZ C) 29 (Lp [1,1,1,1,0,1,0,0,1,0,0,1,1,0,1,0,0] 29):=bJ Ts [EQ,EQ,EQ,H1,H1,H1,H1,H1,H1,H1,H1,H1,EQ,EQ,EQ,EQ,EQ,EQ,EQ,H1,EQ,EQ,H1,H1,EQ,EQ] [[1,2,3,0,0,0,0,0,0,0,0,0,0,13,14,15,16,17,18,19,0,21,22,0,0,25,26]] (@HZ C) (bq au)
theorem asz (C:af):bD C (aeZ C) 29 (Lp [1,1,1,1,0,1,0,0] 29):=bJ Tt [EQ,H1,H1,H1,H1,H1,H1,H1,H1,H1,H1,EQ,EQ,EQ,EQ,EQ,EQ,H1,H1,H1,H1] [[0,0,0,0,0,0,0,0,0,0,0,0,0,0,0],[1,0,0,0,0,0,0,0,0,0,0,0,12,13,14,15,16,17,0,0,0,0]] (@H0 C) (bq (bE (asy C) au))
noncomputable def ae0 (C:af) (aO N7 N8 g9 hY:Int) (ia ib:LV) (p9 qa:Int) (qb qc:LV) (p8:Int):Option LV:=
 (C Gl [V.int .i64 N7,V.int .i64 N8,.list jV ([]:LV)]).bind fun r1=>
 (Loop (H2 C aO 0 0 aO 0 ([]:LV) ([]:LV)) (0,g9,hY,ia,ib,p9,qa,qb,qc,p8,(V.nth (r1.drop 1) 0).toList,(V.nth ((r1.drop 1).drop 1) 0).toList,([]:LV),([]:LV))).bind (fg (un fun Qo=>un fun wD=>un fun wE=>un fun (rY:LV)=>un fun (sL:LV)=>un fun DJ=>un fun DK=>un fun (N9:LV)=>un fun (Vh:LV)=>un fun Fp=>un fun asA=>un fun asB=>un fun (Hz:LV)=>un fun (NA:LV) (asC:LV)=>
  some [V.int .i64 asA,V.int .i64 asB,V.int .i64 Qo,V.int .i64 wD,V.int .i64 wE,.list ak rY,.list ag sL,V.int .i64 DJ,V.int .i64 DK,.list ak N9,.list ag Vh,V.int .i64 Fp,.list ak Hz,.list ag NA,.list jV asC]) (un fun azP=>un fun (azQ:Bool)=>un fun asD=>un fun asE=>un fun (asF:LV)=>un fun (asG:LV)=>un fun asH=>un fun asI=>un fun (asJ:LV)=>un fun (asK:LV)=>un fun asL=>un fun (H3:LV)=>un fun (Ay:LV)=>un fun (uN:LV) (Az:LV)=>
  some [V.int .i64 aO,V.int .i64 0,V.int .i64 0,V.int .i64 asD,V.int .i64 asE,.list ak asF,.list ag asG,V.int .i64 asH,V.int .i64 asI,.list ak asJ,.list ag asK,V.int .i64 asL,.list ak uN,.list ag Az,.list jV H3]))
theorem asM {aO N7 N8 g9 hY:Int} {ia ib:LV} {p9 qa:Int} {qb qc:LV} {p8:Int} {r:Option LV} (h:ae0 CC aO N7 N8 g9 hY ia ib p9 qa qb qc p8=r):CC Mi [V.int .i64 aO,V.int .i64 N7,V.int .i64 N8,V.int .i64 g9,V.int .i64 hY,.list ak ia,.list ag ib,V.int .i64 p9,V.int .i64 qa,.list ak qb,.list ag qc,V.int .i64 p8]=r:=bC (bE (asz CC) au) h
noncomputable def ae1 (C:af) (mr nJ:Int) (oy oz:LV) (mU nK:Int) (oA oB:LV) (op:Int):Option LV:=
 (C qs [V.int .i64 mr,V.int .i64 nJ,.list ak oy,.list ag oz]).bind fun r1=>
 bif (((V.nth r1 0).toInt):Int) != 0 then
  some [V.int .i64 0,V.int .i64 0,V.int .i64 ((V.nth r1 0).toInt),.list ak ([]:LV),.list ag ([]:LV)]
 else
  (C qs [V.int .i64 mU,V.int .i64 nK,.list ak oA,.list ag oB]).bind fun r2=>
  bif (((V.nth r2 0).toInt):Int) != 0 then
  some [V.int .i64 0,V.int .i64 0,V.int .i64 ((V.nth r2 0).toInt),.list ak ([]:LV),.list ag ([]:LV)]
  else
  bif mr != mU then
   some [V.int .i64 0,V.int .i64 0,V.int .i64 1,.list ak ([]:LV),.list ag ([]:LV)]
  else
   bif decide (op<0) then
   some [V.int .i64 0,V.int .i64 0,V.int .i64 1,.list ak ([]:LV),.list ag ([]:LV)]
   else
   bif decide (op>15) then
    some [V.int .i64 0,V.int .i64 0,V.int .i64 1,.list ak ([]:LV),.list ag ([]:LV)]
   else
    (C Mi [V.int .i64 mr,V.int .i64 nJ,V.int .i64 nK,V.int .i64 mr,V.int .i64 nJ,.list ak oy,.list ag oz,V.int .i64 mU,V.int .i64 nK,.list ak oA,.list ag oB,V.int .i64 op]).bind fun r3=>
    some [V.int .i64 ((V.nth r3 0).toInt),V.int .i64 ((V.nth (r3.drop 1) 0).toInt),V.int .i64 ((V.nth (r3.drop 2) 0).toInt),.list ak ((V.nth ((((r3.drop 3).drop 4).drop 4).drop 1) 0).toList),.list ag ((V.nth (((((r3.drop 3).drop 4).drop 4).drop 1).drop 1) 0).toList)]
theorem asN {mr nJ:Int} {oy oz:LV} {mU nK:Int} {oA oB:LV} {op:Int} {r:Option LV} (h:ae1 CC mr nJ oy oz mU nK oA oB op=r):CC Me [V.int .i64 mr,V.int .i64 nJ,.list ak oy,.list ag oz,V.int .i64 mU,V.int .i64 nK,.list ak oA,.list ag oB,V.int .i64 op]=r:=bC (L:=bB) au h
structure NP where
 p:Nat
 q:Nat
deriving DecidableEq
def pV (p:NP):V:= .agg [.int .i64 (p.p:Int),.int .i64 (p.q:Int)]
def pS (S:List (NP)):List V:=S.map pV
def pM (S:List (NP)):List V:=fK pV 0 S
theorem Vi (a b:NP):iG (pV a) (pV b)=decide (a=b):=by
 have:=ard (a.p,a.q) (b.p,b.q);refine this.trans ?_;rw[decide_eq_decide];cases a;cases b;simp
theorem asO (p:NP):((pV p).cell 0).toInt=(p.p:Int):=by simp[pV]
theorem asP (p:NP):((pV p).cell 1).toInt=(p.q:Int):=by simp[pV]
theorem DL {S:List (NP)}:(pS S).length=S.length:=by simp[pS]
theorem asQ {S:List (NP)} {i:Nat} (h:i<S.length):(pS S)[i]? =some (pV S[i]):=by simp[pS,h]
theorem asR {x:NP} (h1:x.p≤1000000) (h2:x.q≤1000000):CC Gl [nV x.p,nV x.q,.list jV []]=some [nV 0,.list jV (pS [x]),.list lG (pM [x])]:=by
 refine asw ?_;unfold aeS;rw[Aq (show x.p≤_ by omega),Aq (show x.q≤_ by omega)];exact bT rfl (bT rfl (bT (cap (by simp) (by omega)) rfl))
theorem asS {S:List (NP)} {x:NP} (h1:x.p≤1000000) (h2:x.q≤1000000) (hl:S.length≤1000000):CC Sy [nV x.p,nV x.q,.list jV (pS S),.list lG (pM S)]=some [nV ((cJ S x).idxOf x),.list lG (pM (cJ S x)),.list jV (pS (cJ S x))]:=by
 refine asx ?_;unfold aeT;have e1:=Nv Vi x S 0;rw[Aq (show x.p≤_ by omega),Aq (show x.q≤_ by omega)];refine bT rfl ?_;rw[show (V.agg [V.int .i64 (x.p:Int),V.int .i64 (x.q:Int)])=pV x from rfl];rw[ael];by_cases h:x∈S
 ·refine bF (by rw[show fZ (pV x) (pM S)=_ from e1];simpa using h) ?_;have e2:=Nw Vi x (.int .i64 0) S 0 h;rw[show jO (pV x) (pM S) (.int .i64 0)=_ from e2,aB h,dq,show cJ S x=S by unfold cJ;rw[aB h]];rfl
 ·refine bT (by rw[show fZ (pV x) (pM S)=_ from e1];simpa using h) ?_;refine bT rfl ?_;refine bT (cap (by rw[DL];simp;omega) (by omega)) ?_;have e2:=Nx Vi x S 0 h;rw[dq] at e2;rw[DL,show iH (pV x) (.int .i64 (S.length:Int)) (pM S)=_ from e2,aC h,show cJ S x=S++[x] by unfold cJ;rw[aC h]];simp[pS,nV,pM]
def Oa (op:Nat) (x y:Bool):Bool:=op.testBit ((if x=true then 2 else 0)+(if y=true then 1 else 0))
theorem asT: ∀op:Fin 16,∀k:Fin 4,((wrap .i64 ((BitVec.ofInt (IntKind.bits .i64) (Int.fdiv (op.val:Int) (2^(min ((k.val:Int)).toNat (IntKind.bits .i64))))&&&BitVec.ofInt (IntKind.bits .i64) 1).toNat))==1)=op.val.testBit k.val:=by decide+kernel
theorem Ob {op k:Nat} (ho:op≤15) (hk:k≤3):((wrap .i64 ((BitVec.ofInt (IntKind.bits .i64) (Int.fdiv (op:Int) (2^(min ((k:Int)).toNat (IntKind.bits .i64))))&&&BitVec.ofInt (IntKind.bits .i64) 1).toNat))==1)=op.testBit k:=asT ⟨op,by omega⟩ ⟨k,by omega⟩
def pn (a b:Da) (p:NP) (x:Nat):NP:=⟨a.nx p.p x,b.nx p.q x⟩
def pf (a b:Da) (op:Nat) (p:NP):Bool:=Oa op (a.fin p.p) (b.fin p.q)
def PI (a b:Da) (p:NP):Prop:=p.p<a.n∧p.q<b.n
theorem asU {a b:Da} (hL:a.L=b.L) {p:NP} {x:Nat} (hp:PI a b p) (hx:x<a.L):CC wc (nV p.p::nV p.q::nV x::jC a (eY b))=some (nV (pn a b p x).p::nV (pn a b p x).q::jC a (eY b)):=by
 refine ass ?_;unfold aeQ;refine bs (Da.Hq hp.1) ?_;rw[Dz];refine bs (DB hx) ?_;refine bs (Da.Hq hp.2) ?_;rw[Dz];exact bs (DB (hL▸hx)) rfl
theorem asV {a b:Da} {op:Nat} (ho:op≤15) {p:NP} (hp:PI a b p):CC we (nV p.p::nV p.q::jC a (jC b [.int .i64 (op:Int)]))=some (.bool (pf a b op p)::jC a (jC b [.int .i64 (op:Int)])):=by
 refine asv ?_;unfold aeR;refine bs (Da.DA hp.1) ?_;unfold N4 pf Oa;rw[V.CH];cases ha:a.fin p.p with
 | true=>
  refine bT rfl ?_;refine bs (Da.DA hp.2) ?_;rw[V.CH,show wrap .i64 (0+2)=((2:Nat):Int) from by decide];cases hb:b.fin p.q with
  | true=>
   refine bT rfl ?_;rw[show wrap .i64 (((2:Nat):Int)+1)=((3:Nat):Int) from by decide];refine bT (by decide) ?_;rw[Ob ho (by omega)];rfl
  | false=>
   refine bF rfl ?_;refine bT (by decide) ?_;rw[Ob ho (by omega)];rfl
 | false=>
  refine bF rfl ?_;refine bs (Da.DA hp.2) ?_;rw[V.CH];cases hb:b.fin p.q with
  | true=>
   refine bT rfl ?_;rw[show wrap .i64 (0+1)=((1:Nat):Int) from by decide];refine bT (by decide) ?_;rw[Ob ho (by omega)];rfl
  | false=>
   refine bF rfl ?_;refine bT (by decide) ?_;have:=Ob (k:=0) ho (by omega);rw[show ((0:Nat):Int)=0 from rfl] at this;rw[this];rfl
def mf (a b:Da):List NP:=aA a.L (pn a b) ⟨a.st,b.st⟩ (a.n*b.n)
def nL (a b:Da) (op:Nat):Da:=iw a.L (pn a b) (pf a b op) (mf a b)
def sO (a b:Da):Prop:=512<(mf a b).length
def Oc (m n:Nat):List NP:=(List.range m).flatMap fun p=>(List.range n).map fun q=>⟨p,q⟩
theorem asW (m n:Nat):(Oc m n).length=m*n:=by
 unfold Oc
 induction m with
 | zero=>simp
 | succ m ih=>rw[List.range_succ,List.flatMap_append,gS,ih];simp[D6]
theorem Vj {m n:Nat} {x:NP}:x∈Oc m n↔x.p<m∧x.q<n:=by
 unfold Oc;simp only[List.mem_flatMap,iE,ik];constructor
 ·rintro ⟨p,hp,q,hq,rfl⟩;exact ⟨hp,hq⟩
 ·rintro ⟨h1,h2⟩;exact ⟨x.p,h1,x.q,h2,rfl⟩
section
variable {a b:Da} (ha:a.Ok) (hb:b.Ok) (hL:a.L=b.L) {op:Nat}
include ha hb hL
theorem Vk {p:NP} (hp:PI a b p) {x:Nat} (hx:x<a.L):PI a b (pn a b p x):=⟨ha.kR hp.1 hx,hb.kR hp.2 (hL▸hx)⟩
theorem asX {S U:List (NP)} {p:NP} (hp0:PI a b p) (hSn:S.length≤1000) (hp:b9 (pn a b) S p a.L <+: U) {i c1 c2 c3:Int} {l1 l2 l3 l4:List V}:
  Loop (N6 CC (a.L:Int) i ((List.replicate (((a.L:Nat):Int).toNat) (V.int .i64 0)).length:Int) c1 c2 c3 (a.L:Int) 0 (p.p:Int) (p.q:Int) l1 l2 l3 l4) (0,(a.L:Int),(a.st:Int),a.cM,a.cW,(b.L:Int),(b.st:Int),b.cM,b.cW,List.replicate (((a.L:Nat):Int).toNat) (V.int .i64 0),pS S,pM S)=
   some ((a.L:Int),false,(a.L:Int),(a.st:Int),a.cM,a.cW,(b.L:Int),(b.st:Int),b.cM,b.cW,(tab a.L fun x=>nV (U.idxOf (pn a b p x))),pS (b9 (pn a b) S p a.L),pM (b9 (pn a b) S p a.L)):=by
 have h6:=ha.l6;have hma:=ha.dH;have RH:=hb.dH;rw[Int.toNat_natCast,p5,fT];refine (gz a.L (fun x=>((x:Int),(a.L:Int),(a.st:Int),a.cM,a.cW,(b.L:Int),(b.st:Int),b.cM,b.cW,(tab a.L fun j=>if j<x then nV (U.idxOf (pn a b p j)) else nV 0),pS (b9 (pn a b) S p x),pM (b9 (pn a b) S p x))) _ (fun x hx=> ?_) ?_)
 ·simp only[N6,HZ,un,aM,bn];refine bT (bp hx) ?_;refine bs (asU hL hp0 hx) ?_;have hT:=Ve (next:=pn a b) S p x;have hn:=Vk ha hb hL hp0 hx;unfold PI at hn;refine bs (asS (S:=b9 (pn a b) S p x) (x:=pn a b p x) (by omega) (by omega) (by omega)) ?_;refine (mR hx).trans ?_;rw[bz (by omega),Int.toNat_natCast,mn];have e:(cJ (b9 (pn a b) S p x) (pn a b p x)).idxOf (pn a b p x)=U.idxOf (pn a b p x):=(Am ((Al S p (show x+1≤a.L by omega)).trans hp) Ak).symm;show some (Sum.inl _)=some (Sum.inl _);refine congrArg (fun x=>some (Sum.inl x)) ?_;refine cx rfl (cx rfl (cx rfl (cx rfl (cx rfl (cx rfl (cx rfl (cx rfl (cx rfl (cx ?_ (cx rfl rfl))))))))));refine dy fun j _=> ?_;by_cases hj:j=x
  ·rw[aB hj,da,hj,←e];rfl
  ·rw[aC hj];by_cases dF:j<x
   ·rw[aB dF,da]
   ·rw[aC dF,dh]
 ·simp only[N6,HZ,un,aM,bn];refine bF (aV (aw _)) ?_;rw[aV (aw _)];have:(tab a.L fun j=>if j<a.L then nV (U.idxOf (pn a b p j)) else nV 0)=tab a.L fun j=>nV (U.idxOf (pn a b p j)):=dy fun j hj=>aB hj;rw[this]
theorem KV (i:Nat):(aA a.L (pn a b) ⟨a.st,b.st⟩ i).length≤a.n*b.n:=by
 rw[←asW];exact ad7 (Vj.2 ⟨ha.s,hb.s⟩) (fun p hp x hx=>Vj.2 (Vk ha hb hL (Vj.1 hp) hx)) i
theorem asY (i:Nat): ∀p∈aA a.L (pn a b) ⟨a.st,b.st⟩ i,PI a b p:=asr (P:=PI a b) ⟨ha.s,hb.s⟩ (fun _ hp _ hx=>Vk ha hb hL hp hx) i
theorem asZ (ho:op≤15) {i:Nat} (qB:i<(aA a.L (pn a b) ⟨a.st,b.st⟩ i).length) (hlen:(aA a.L (pn a b) ⟨a.st,b.st⟩ i).length≤512) {U:List (NP)} (hp:aA a.L (pn a b) ⟨a.st,b.st⟩ (i+1) <+: U) {l1 l2 l3 l4:List V} (hl3:l3.length≤1000) (hl4:l4.length≤1000):
  H2 CC (a.L:Int) 0 0 (a.L:Int) 0 l1 l2 ((i:Int),(a.L:Int),(a.st:Int),a.cM,a.cW,(b.L:Int),(b.st:Int),b.cM,b.cW,(op:Int),pS (aA a.L (pn a b) ⟨a.st,b.st⟩ i),pM (aA a.L (pn a b) ⟨a.st,b.st⟩ i),l3,l4)=
   if 512<(aA a.L (pn a b) ⟨a.st,b.st⟩ (i+1)).length then some (.inr (.inl (3,(a.L:Int),(a.st:Int),a.cM,a.cW,(b.L:Int),(b.st:Int),b.cM,b.cW,(op:Int),0,0,[],[],[])))
   else some (.inl (((i+1:Nat):Int),(a.L:Int),(a.st:Int),a.cM,a.cW,(b.L:Int),(b.st:Int),b.cM,b.cW,(op:Int),pS (aA a.L (pn a b) ⟨a.st,b.st⟩ (i+1)),pM (aA a.L (pn a b) ⟨a.st,b.st⟩ (i+1)),l3++[V.bool (pf a b op (aA a.L (pn a b) ⟨a.st,b.st⟩ i)[i])],l4++[V.list ab (tab a.L fun x=>nV (U.idxOf (pn a b (aA a.L (pn a b) ⟨a.st,b.st⟩ i)[i] x)))])):=by
 have h6:=ha.l6;have hq:=asY ha hb hL i _ (dr qB);have rA:aA a.L (pn a b) ⟨a.st,b.st⟩ (i+1)=b9 (pn a b) (aA a.L (pn a b) ⟨a.st,b.st⟩ i) (aA a.L (pn a b) ⟨a.st,b.st⟩ i)[i] a.L:=ad0 (bU qB);simp only[H2,H0,un,aM];refine bT (cq (by rw[DL];omega)) ?_;refine (bY (asQ qB)).trans ?_;rw[asO,asP];refine bT (gB (by omega) (by omega)) ?_;refine bs (asX ha hb hL hq (by omega) (U:=U) (by rw[←rA];exact hp)) ?_;rw[←rA];by_cases zA:512<(aA a.L (pn a b) ⟨a.st,b.st⟩ (i+1)).length
 ·rw[aB zA];refine bT (cq (by rw[DL];omega)) ?_;rfl
 ·rw[aC zA];refine bF (c8 (by rw[DL];omega)) ?_;refine bT (cap (by simp;omega) (by omega)) ?_;refine bs (asV ho hq) ?_;refine bT (cap (by simp;omega) (by omega)) ?_;rw[bz (by omega)];rfl
theorem as0 (ho:op≤15) (hn: ¬sO a b): ∃X,CC Mi ([nV a.L,nV a.st,nV b.st]++jC a (jC b [.int .i64 (op:Int)]))=some ([nV a.L,nV 0,.int .i64 0]++(jC a (jC b [.int .i64 (op:Int)])++[.list ak (nL a b op).cM,.list ag (nL a b op).cW,X])):=by
 have h6:=ha.l6;have hma:=ha.dH;have RH:=hb.dH;have hsa:=ha.s;have Y9:=hb.s;have hd:(aA a.L (pn a b) ⟨a.st,b.st⟩ (a.n*b.n)).length≤a.n*b.n:=KV ha hb hL _;have hle: ∀i,(aA a.L (pn a b) ⟨a.st,b.st⟩ i).length≤(mf a b).length:=asq hd;have azR:(mf a b).length≤512:=by unfold sO at hn;omega
 refine ⟨.list jV (pS (mf a b)),asM ?_⟩;unfold ae0;refine bs (asR (x:=⟨a.st,b.st⟩) (by simp only;omega) (by simp only;omega)) ?_;have key:Loop (H2 CC (a.L:Int) 0 0 (a.L:Int) 0 ([]:List V) ([]:List V)) (0,(a.L:Int),(a.st:Int),a.cM,a.cW,(b.L:Int),(b.st:Int),b.cM,b.cW,(op:Int),pS [⟨a.st,b.st⟩],pM [⟨a.st,b.st⟩],([]:List V),([]:List V))=
   some (.inr (((mf a b).length:Int),false,(a.L:Int),(a.st:Int),a.cM,a.cW,(b.L:Int),(b.st:Int),b.cM,b.cW,(op:Int),pS (mf a b),pM (mf a b),(nL a b op).cM,(nL a b op).cW)):=by
  refine (gz (mf a b).length (fun i=>((i:Int),(a.L:Int),(a.st:Int),a.cM,a.cW,(b.L:Int),(b.st:Int),b.cM,b.cW,(op:Int),pS (aA a.L (pn a b) ⟨a.st,b.st⟩ i),pM (aA a.L (pn a b) ⟨a.st,b.st⟩ i),(tab i fun j=>V.bool ((nL a b op).fin j)),(tab i fun j=>nH a.L ((nL a b op).nx j)))) _ (fun i hi=> ?_) ?_)
  ·have qB:=Np hd hi;have yk:i<a.n*b.n:=oF hi hd;have U4:(aA a.L (pn a b) ⟨a.st,b.st⟩ i)[i]=(mf a b)[i]:=(rX (show i≤a.n*b.n by omega)).getElem qB;have azS:=hle (i+1);have azT:=hle i;have:=asZ ha hb hL ho qB (by omega) (U:=mf a b) (rX (by omega)) (l1:=[]) (l2:=[]) (l3:=(tab i fun j=>V.bool ((nL a b op).fin j))) (l4:=(tab i fun j=>nH a.L ((nL a b op).nx j))) (by rw[fT];omega) (by rw[fT];omega);rw[dh,U4] at this;rw[this,Dy,Dy];have e1:(nL a b op).fin i=pf a b op (mf a b)[i]:=UU hi;have e2:nH a.L ((nL a b op).nx i)= .list ab (tab a.L fun x=>nV ((mf a b).idxOf (pn a b (mf a b)[i] x))):=by
    unfold nH;refine congrArg _ (dy fun x hx=> ?_);rw[show (nL a b op).nx i x=_ from Hi hi hx];rfl
   rw[e1,e2]
  ·simp only[H2,H0,un,aM];rw[show aA a.L (pn a b) ⟨a.st,b.st⟩ (mf a b).length=mf a b from UX hd,DL];refine bF (aV (aw _)) ?_;rw[aV (aw _)];have e3:(nL a b op).n=(mf a b).length:=tk;unfold Da.cM Da.cW;rw[e3];rfl
 refine bs key ?_;rfl
end
section
variable {a b:Da} (ha:a.Ok) (hb:b.Ok) (hL:a.L=b.L) {op:Nat}
include ha hb hL
theorem as1 (ho:op≤15) (hn: ¬sO a b):CC Me (jC a (jC b [.int .i64 (op:Int)]))=some (aeP (nL a b op) 0):=by
 obtain ⟨X,hX⟩:=as0 ha hb hL ho hn;refine asN ?_;unfold ae1;refine bs (oM ha) (bF rfl ?_);refine bs (oM hb) (bF rfl ?_);refine bF (by rw[hL];simp) ?_;refine bF (c8 (by omega)) ?_;refine bF (c8 (by omega)) ?_;refine bs hX ?_;rfl
end
theorem ae2 {a b:Da}: ∀(w:List Nat) (p:NP),w.foldl (pn a b) p=⟨a.run p.p w,b.run p.q w⟩
 | [],_=>rfl
 | x::w,p=>ae2 w (pn a b p x)
section
variable {a b:Da} (ha:a.Ok) (hb:b.Ok) (hL:a.L=b.L) {op:Nat}
include ha hb hL
theorem Od (hn: ¬sO a b):(nL a b op).Ok:=by
 unfold sO at hn;exact ad5 (KV ha hb hL _) ha.l1 ha.l6 (show (mf a b).length≤512 by omega)
theorem as2 {w:List Nat} (hw:WL a.L w):(nL a b op).acc 0 w=Oa op (a.acc a.st w) (b.acc b.st w):=by
 have hd:(aA a.L (pn a b) ⟨a.st,b.st⟩ (a.n*b.n)).length≤a.n*b.n:=KV ha hb hL _;have h1:=ad4 (fin:=pf a b op) hd (Hf _) hw;have h2:=ad1 (L:=a.L) (next:=pn a b) (a0:=(⟨a.st,b.st⟩:NP)) (a.n*b.n);rw[bU (Hf _)] at h2;rw[dL h2,ae2] at h1;exact h1
end
noncomputable def ae3 (C:af) (mr nJ:Int) (oy oz:LV) (mU nK:Int) (oA oB:LV):Option LV:=
 (C qs [V.int .i64 mr,V.int .i64 nJ,.list ak oy,.list ag oz]).bind fun r1=>
 bif (((V.nth r1 0).toInt):Int) != 0 then
  some [V.int .i64 0,V.int .i64 0,V.int .i64 0,V.int .i64 0,V.int .i64 ((V.nth r1 0).toInt),.list ak ([]:LV),.list ag ([]:LV),.list ak ([]:LV),.list ag ([]:LV)]
 else
  (C qs [V.int .i64 mU,V.int .i64 nK,.list ak oA,.list ag oB]).bind fun r2=>
  bif (((V.nth r2 0).toInt):Int) != 0 then
  some [V.int .i64 0,V.int .i64 0,V.int .i64 0,V.int .i64 0,V.int .i64 ((V.nth r2 0).toInt),.list ak ([]:LV),.list ag ([]:LV),.list ak ([]:LV),.list ag ([]:LV)]
  else
  bif mr != mU then
   some [V.int .i64 0,V.int .i64 0,V.int .i64 0,V.int .i64 0,V.int .i64 1,.list ak ([]:LV),.list ag ([]:LV),.list ak ([]:LV),.list ag ([]:LV)]
  else
   (C uB [V.int .i64 mr,V.int .i64 nJ,.list ak oy,.list ag oz]).bind fun r3=>
   (C uB [V.int .i64 mU,V.int .i64 nK,.list ak oA,.list ag oB]).bind fun r4=>
   some [V.int .i64 ((V.nth r3 0).toInt),V.int .i64 ((V.nth (r3.drop 1) 0).toInt),V.int .i64 ((V.nth r4 0).toInt),V.int .i64 ((V.nth (r4.drop 1) 0).toInt),V.int .i64 0,.list ak ((V.nth (r3.drop 2) 0).toList),.list ag ((V.nth ((r3.drop 2).drop 1) 0).toList),.list ak ((V.nth (r4.drop 2) 0).toList),.list ag ((V.nth ((r4.drop 2).drop 1) 0).toList)]
theorem as3 {mr nJ:Int} {oy oz:LV} {mU nK:Int} {oA oB:LV} {r:Option LV} (h:ae3 CC mr nJ oy oz mU nK oA oB=r):CC Md [V.int .i64 mr,V.int .i64 nJ,.list ak oy,.list ag oz,V.int .i64 mU,V.int .i64 nK,.list ak oA,.list ag oB]=r:=bC (L:=bB) au h
def as4 (a b:Da) (e:Int):List V:=[.int .i64 (a.L:Int),.int .i64 (a.st:Int),.int .i64 (b.L:Int),.int .i64 (b.st:Int),.int .i64 e,.list ak a.cM,.list ag a.cW,.list ak b.cM,.list ag b.cW]
theorem as5 {a b:Da} (ha:a.Ok) (hb:b.Ok) (hL:a.L=b.L):CC Md (jC a (eY b))=some (as4 (minD a) (minD b) 0):=by
 refine as3 ?_;unfold ae3;refine bs (oM ha) (bF rfl ?_);refine bs (oM hb) (bF rfl ?_);refine bF (by rw[hL];simp) ?_;refine bs (Ax ha) ?_;refine bs (Ax hb) ?_;rfl
noncomputable def ae4 (C:af) (mr nJ:Int) (oy oz:LV) (mU nK:Int) (oA oB:LV) (op:Int):Option LV:=
 (C Md [V.int .i64 mr,V.int .i64 nJ,.list ak oy,.list ag oz,V.int .i64 mU,V.int .i64 nK,.list ak oA,.list ag oB]).bind fun r1=>
 bif (((V.nth ((r1.drop 2).drop 2) 0).toInt):Int) != 0 then
  some [V.int .i64 0,V.int .i64 0,V.int .i64 ((V.nth ((r1.drop 2).drop 2) 0).toInt),.list ak ([]:LV),.list ag ([]:LV)]
 else
  (C Me [V.int .i64 ((V.nth r1 0).toInt),V.int .i64 ((V.nth (r1.drop 1) 0).toInt),.list ak ((V.nth (r1.drop 5) 0).toList),.list ag ((V.nth ((r1.drop 5).drop 1) 0).toList),V.int .i64 ((V.nth (r1.drop 2) 0).toInt),V.int .i64 ((V.nth ((r1.drop 2).drop 1) 0).toInt),.list ak ((V.nth (((r1.drop 5).drop 1).drop 1) 0).toList),.list ag ((V.nth ((((r1.drop 5).drop 1).drop 1).drop 1) 0).toList),V.int .i64 op]).bind fun r2=>
  bif (((V.nth (r2.drop 2) 0).toInt):Int) != 0 then
  some [V.int .i64 0,V.int .i64 0,V.int .i64 ((V.nth (r2.drop 2) 0).toInt),.list ak ([]:LV),.list ag ([]:LV)]
  else
  (C uB [V.int .i64 ((V.nth r2 0).toInt),V.int .i64 ((V.nth (r2.drop 1) 0).toInt),.list ak ((V.nth (r2.drop 3) 0).toList),.list ag ((V.nth ((r2.drop 3).drop 1) 0).toList)]).bind fun r3=>
  some [V.int .i64 ((V.nth r3 0).toInt),V.int .i64 ((V.nth (r3.drop 1) 0).toInt),V.int .i64 0,.list ak ((V.nth (r3.drop 2) 0).toList),.list ag ((V.nth ((r3.drop 2).drop 1) 0).toList)]
theorem as6 {mr nJ:Int} {oy oz:LV} {mU nK:Int} {oA oB:LV} {op:Int} {r:Option LV} (h:ae4 CC mr nJ oy oz mU nK oA oB op=r):CC KU [V.int .i64 mr,V.int .i64 nJ,.list ak oy,.list ag oz,V.int .i64 mU,V.int .i64 nK,.list ak oA,.list ag oB,V.int .i64 op]=r:=bC (L:=bB) au h
noncomputable def zi (a b:Da) (op:Nat):Da:=minD (nL (minD a) (minD b) op)
section
variable {a b:Da} (ha:a.Ok) (hb:b.Ok) (hL:a.L=b.L) {op:Nat}
include ha hb hL
theorem zh:(minD a).L=(minD b).L:=by rw[vF ha,vF hb,hL]
theorem ajn (ho:op≤15) (hn: ¬sO (minD a) (minD b)):CC KU (jC a (jC b [.int .i64 (op:Int)]))=some (aeP (zi a b op) 0):=by
 refine as6 ?_;unfold ae4;refine bs (as5 ha hb hL) (bF rfl ?_);have hp:=as1 (kH ha) (kH hb) (zh ha hb hL) ho hn;refine bs hp (bF rfl ?_);refine bs (Ax (Od (op:=op) (kH ha) (kH hb) (zh ha hb hL) hn)) ?_;rfl
theorem ajo (hn: ¬sO (minD a) (minD b)):(zi a b op).Ok:=kH (Od (kH ha) (kH hb) (zh ha hb hL) hn)
theorem ajp (hn: ¬sO (minD a) (minD b)):(zi a b op).L=a.L:=(vF (Od (op:=op) (kH ha) (kH hb) (zh ha hb hL) hn)).trans (vF ha)
theorem ajq (hn: ¬sO (minD a) (minD b)) {w:List Nat} (hw:WL a.L w):(zi a b op).acc (zi a b op).st w=Oa op (a.acc a.st w) (b.acc b.st w):=by
 have aq:=Od (op:=op) (kH ha) (kH hb) (zh ha hb hL) hn;have hwa:WL (minD a).L w:=by rw[vF ha];exact hw
 have h1:=Cc aq (w:=w) hwa;have h2:=as2 (kH ha) (kH hb) (zh ha hb hL) (op:=op) hwa;have h3:(nL (minD a) (minD b) op).st=0:=rfl;rw[h3] at h1;unfold zi;rw[h1,h2,Cc ha hw,Cc hb (hL▸hw)]
end
noncomputable def H4 (C:af) (f t13:LV) (t14 t15:Int) {β:Type} (kn:Int→Option β) (kr:((Bool) ⊕ (Int×Bool))→Option β):Option β:=
 bif decide (t15<t14) then
  (idx t13 t15).bind fun x1=>
  bif decide ((x1.toInt:Int)<0) then
  kr (.inl false)
  else
  bif decide ((x1.toInt:Int)≥(f.length:Int)) then
   kr (.inl false)
  else
   kn (wrap .i64 (t15+1))
 else
  kr (.inr (t15,decide (t15<t14)))
noncomputable def Vl (C:af) (f t13:LV) (t14:Int):=fun t15=>H4 C f t13 t14 t15 (fun y=>some (Sum.inl y)) (fun r=>some (Sum.inr r))
noncomputable def as7 (C:af):cD:=bI 65 Uq [EQ,EQ,EQ,H1] [[0],[1,2,3,0,0]] (@H4 C) bB
theorem as8 (C:af):bD C (as7 C) 137 (Lp [1,1,0,1,0,0] 137):=bJ Uq [EQ,EQ,EQ,H1] [[0],[1,2,3,0,0]] (@H4 C) (bq au)
noncomputable def ae5 (C:af) (f:LV):Option LV:=
 bif decide ((f.length:Int)<1) then
  some [.bool false]
 else
  bif decide ((f.length:Int)>32) then
  some [.bool false]
  else
  (Loop (Vl C f f (f.length:Int)) 0).bind (fg (fun (AA:Bool)=>
   some [.bool AA]) (un fun (jJ:Int) (lx:Bool)=>
   some [.bool true]))
theorem as9 {f:LV} {r:Option LV} (h:ae5 CC f=r):CC Db [.list ab f]=r:=bC (bE (as8 CC) au) h
noncomputable def H5 (C:af) (t14 t15:Int) (fs:LV) {β:Type} (kn:(Int×LV)→Option β) (kr:(Int×Bool×LV)→Option β):Option β:=
 bif decide (t15<t14) then
  aM fs t15 fun x1=>
  kn (wrap .i64 (t15+1),bn fs t15 (V.int .i64 t15))
 else
  kr (t15,decide (t15<t14),fs)
noncomputable def Vm (C:af) (t14:Int):=un fun t15 fs=>H5 C t14 t15 fs (fun y=>some (Sum.inl y)) (fun r=>some (Sum.inr r))
noncomputable def ata (C:af):cD:=bI 81 Ur [EQ,H1,H1] [[1,0,0,0]] (@H5 C) bB
theorem atb (C:af):bD C (ata C) 139 (Lp [1,1,1,0,1,0,0] 139):=bJ Ur [EQ,H1,H1] [[1,0,0,0]] (@H5 C) (bq au)
noncomputable def ae6 (C:af) (n:Int):Option LV:=
 bif decide (n<1) then
  some [.list ab ([]:LV)]
 else
  bif decide (n>32) then
  some [.list ab ([]:LV)]
  else
  bif (decide (0≤n))&&((decide (n≤n))&&(Nat.ble ((n.toNat)*8) aX)) then
   (Loop (Vm C ((List.replicate (n.toNat) (V.int .i64 0)).length:Int)) (0,List.replicate (n.toNat) (V.int .i64 0))).bind (un fun AA=>un fun (jJ:Bool) (atc:LV)=>
    some [.list ab atc])
  else none
theorem atd {n:Int} {r:Option LV} (h:ae6 CC n=r):CC MA [V.int .i64 n]=r:=bC (bE (atb CC) au) h
noncomputable def H6 (C:af) (g t26:LV) (t27 t28:Int) (H7:LV) {β:Type} (kn:(Int×LV)→Option β) (kr:(Int×Bool×LV)→Option β):Option β:=
 bif decide (t28<t27) then
  (idx t26 t28).bind fun x3=>
  (idx g x3.toInt).bind fun x4=>
  aM H7 t28 fun x5=>
  kn (wrap .i64 (t28+1),bn H7 t28 (V.int .i64 x4.toInt))
 else
  kr (t28,decide (t28<t27),H7)
noncomputable def Vn (C:af) (g t26:LV) (t27:Int):=un fun t28 H7=>H6 C g t26 t27 t28 H7 (fun y=>some (Sum.inl y)) (fun r=>some (Sum.inr r))
noncomputable def ate (C:af):cD:=bI 81 Ut [EQ,EQ,EQ,H1,H1] [[1,2,3,0,0,0]] (@H6 C) bB
theorem atf (C:af):bD C (ate C) 141 (Lp [1,1,1,0,1,0,0] 141):=bJ Ut [EQ,EQ,EQ,H1,H1] [[1,2,3,0,0,0]] (@H6 C) (bq au)
noncomputable def ae7 (C:af) (f g:LV):Option LV:=
 bif (f.length:Int) != (g.length:Int) then
  some [.list ab ([]:LV)]
 else
  (C Db [.list ab f]).bind fun r1=>
  bif !((V.nth r1 0).toBool) then
  some [.list ab ([]:LV)]
  else
  (C Db [.list ab g]).bind fun r2=>
  bif !((V.nth r2 0).toBool) then
   some [.list ab ([]:LV)]
  else
   bif (decide (0≤(f.length:Int)))&&((decide ((f.length:Int)≤(f.length:Int)))&&(Nat.ble (((f.length:Int).toNat)*8) aX)) then
   (Loop (Vn C g f (f.length:Int)) (0,List.replicate ((f.length:Int).toNat) (V.int .i64 0))).bind (un fun jz=>un fun (mL:Bool) (atg:LV)=>
    some [.list ab atg])
   else none
theorem ath {f g:LV} {r:Option LV} (h:ae7 CC f g=r):CC GC [.list ab f,.list ab g]=r:=bC (bE (atf CC) au) h
noncomputable def H8 (C:af) (t9:LV) (t10 t11:Int) (H9:LV) {β:Type} (kn:(Int×LV)→Option β) (kr:(Int×Bool×LV)→Option β):Option β:=
 bif decide (t11<t10) then
  (idx t9 t11).bind fun x1=>
  aM H9 t11 fun x2=>
  kn (wrap .i64 (t11+1),bn H9 t11 (.int .u8 (wrap .u8 x1.toInt)))
 else
  kr (t11,decide (t11<t10),H9)
noncomputable def Vo (C:af) (t9:LV) (t10:Int):=un fun t11 H9=>H8 C t9 t10 t11 H9 (fun y=>some (Sum.inl y)) (fun r=>some (Sum.inr r))
noncomputable def ati (C:af):cD:=bI 49 Us [EQ,EQ,H1,H1] [[1,2,0,0,0]] (@H8 C) bB
theorem atj (C:af):bD C (ati C) 140 (Lp [1,1,0,1,0,0] 140):=bJ Us [EQ,EQ,H1,H1] [[1,2,0,0,0]] (@H8 C) (bq au)
noncomputable def ae8 (C:af) (f:LV):Option LV:=
 bif (decide (0≤(f.length:Int)))&&((decide ((f.length:Int)≤(f.length:Int)))&&(Nat.ble (((f.length:Int).toNat)*1) aX)) then
  (Loop (Vo C f (f.length:Int)) (0,List.replicate ((f.length:Int).toNat) (V.int .u8 0))).bind (un fun jJ=>un fun (lx:Bool) (atk:LV)=>
   some [.str (lg atk)])
 else none
theorem atl {f:LV} {r:Option LV} (h:ae8 CC f=r):CC xX [.list ab f]=r:=bC (bE (atj CC) au) h
section
variable {X R γ:Type} {step:X→Option (X ⊕ R)}
theorem uO (s:Nat→LV→X) (n:Nat) (g:Nat→V) (a0:LV) (h0:a0.length=n) (r:LV→R)
  (h: ∀i,i<n→∀a:LV,a.length=n→step (s i a)=some (.inl (s (i+1) (a.set i (g i))))) (he:step (s n (tab n g))=some (.inr (r (tab n g)))):Loop step (s 0 a0)=some (r (tab n g)):=by
 have key: ∀i,i≤n→step (s i (tab n fun j=>if j<i then g j else a0.getD j (.bool false)))=if i<n then some (.inl (s (i+1) (tab n fun j=>if j<i+1 then g j else a0.getD j (.bool false)))) else some (.inr (r (tab n g))):=by
  intro i hi;by_cases c:i<n
  ·rw[aB c,h i c _ (by simp),mn];refine congrArg (fun t=>some (Sum.inl (s (i+1) t))) (dy fun j _=> ?_);by_cases c2:j=i
   ·rw[aB c2,da,c2]
   ·rw[aC c2];by_cases c3:j<i
    ·rw[aB c3,da]
    ·rw[aC c3,dh]
  ·rw[aC c];obtain rfl:i=n:=by omega
   rw[show (tab i fun j=>if j<i then g j else a0.getD j (.bool false))=tab i g from dy fun j hj=>aB hj];exact he
 have e0:a0=tab n fun j=>if j<0 then g j else a0.getD j (.bool false):=by
  conv=>lhs;rw[aej a0 (.bool false),h0]
  exact dy fun j _=>by rw[dh]
 rw[e0];refine gz n (fun i=>s i (tab n fun j=>if j<i then g j else a0.getD j (.bool false))) _ (fun i hi=> ?_) ?_
 ·rw[key i (by omega),aB hi]
 ·rw[key n (aw _),aC (nY _)]
theorem rZ {es:LV} {i:Nat} (hi:i<es.length) {K:Option γ}:(bif (decide (0≤(i:Int)))&&(decide ((i:Int)<(es.length:Int))) then (es[((i:Int)).toNat]?).bind (fun _=>K) else none)=K:=
 (bY (bU hi)).trans rfl
end
theorem iy {S:List Nat} {i:Nat} (h:i<S.length):idx (nS S) (i:Int)=some (nV S[i]):=by rw[yZ rfl,xx h]
theorem Vp (S:List Nat):nS S=tab S.length fun i=>nV (S.getD i 0):=Ap S 0
theorem DM {i n:Nat} (h:i<n):decide ((i:Int)≥(n:Int))=false:=c8 (by omega)
theorem yl {i:Nat}:decide ((i:Int)<0)=false:=c8 (by omega)
def Tr (n:Nat) (f:List Nat):Prop:=f.length=n∧∀y∈f,y<n
def comp (f g:List Nat):List Nat:=f.map fun i=>g.getD i 0
theorem Tr.at {n:Nat} {f:List Nat} (h:Tr n f) {i:Nat} (hi:i<f.length):f[i]<n:=h.2 _ (dr hi)
theorem Tr.comp {n:Nat} {f g:List Nat} (hf:Tr n f) (hg:Tr n g):Tr n (comp f g):=by
 refine ⟨by simp[Go.AM.comp,hf.1],fun y hy=> ?_⟩;obtain ⟨i,hi,rfl⟩:=iE.1 hy;have:=hf.2 i hi;rw[cP (by rw[hg.1];exact this)];exact hg.at _
theorem Ia {n:Nat}:Tr n (List.range n):=⟨by simp,fun y hy=>ik.1 hy⟩
section
variable {n:Nat} {f g:List Nat} (h1:1≤n) (mc:n≤32)
include h1 mc
theorem Vq (hf:Tr n f):CC Db [.list ab (nS f)]=some [.bool true]:=by
 have hl:=hf.1;refine as9 ?_;unfold ae5;rw[dC,hl];refine bF (c8 (by omega)) (bF (c8 (by omega)) ?_);refine bs (gz n (fun i=>(i:Int)) (.inr ((n:Int),false)) (fun i hi=> ?_) ?_) rfl
 ·simp only[Vl,H4];have bu:i<f.length:=by omega
  refine bT (bp hi) (bs (iy bu) (bF yl (bF ?_ ?_)))
  ·rw[dC,hl];exact DM (hf.at bu)
  ·rw[bz (by omega)]
 ·simp only[Vl,H4];rw[aV (aw _)];rfl
theorem atm:CC MA [.int .i64 (n:Int)]=some [.list ab (nS (List.range n))]:=by
 refine atd ?_;unfold ae6;refine bF (c8 (by omega)) (bF (c8 (by omega)) (bT (gB (by omega) (by omega)) ?_));rw[Int.toNat_natCast,wW];refine bs (uO (fun i a=>((i:Int),a)) n nV _ (by simp) (fun a=>((n:Int),false,a)) (fun i hi a ha=> ?_) ?_) ?_
 ·simp only[Vm,H5,un,aM,bn];refine bT (bp hi) ((rZ (by omega)).trans ?_);rw[bz (by omega),Int.toNat_natCast];rfl
 ·simp only[Vm,H5,un];rw[aV (aw _)];rfl
 ·rw[Vp];refine congrArg (fun t=>some [V.list ab t]) ?_;rw[jX];exact dy fun j hj=>by rw[cP (by simpa using hj)];simp
theorem atn (hf:Tr n f) (hg:Tr n g):CC GC [.list ab (nS f),.list ab (nS g)]=some [.list ab (nS (comp f g))]:=by
 have hl:=hf.1;have hlg:=hg.1;refine ath ?_;unfold ae7;rw[dC,dC,hl,hlg];refine bF (by simp) (bs (Vq h1 mc hf) (bF rfl (bs (Vq h1 mc hg) (bF rfl (bT (gB (by omega) (by omega)) ?_)))));rw[Int.toNat_natCast];refine bs (uO (fun i a=>((i:Int),a)) n (fun i=>nV (g.getD (f.getD i 0) 0)) _ (by simp) (fun a=>((n:Int),false,a)) (fun i hi a ha=> ?_) ?_) ?_
 ·simp only[Vn,H6,un,aM,bn];have bu:i<f.length:=by omega
  have h2:=hf.at bu;refine bT (bp hi) (bs (iy bu) (bs (iy (i:=f[i]) (by omega)) ((rZ (by omega)).trans ?_)));rw[bz (by omega),Int.toNat_natCast,cP bu,cP (by omega)];rfl
 ·simp only[Vn,H6,un];rw[aV (aw _)];rfl
 ·rw[Vp];refine congrArg (fun t=>some [V.list ab t]) ?_;rw[show (comp f g).length=n by simp[comp,hl]];refine dy fun j hj=> ?_;have dX:j<f.length:=by omega
  rw[cP (l:=comp f g) (by simpa[comp] using dX),cP dX];simp[comp]
end
def nM (f:List Nat):List UInt8:=f.map fun y=>UInt8.ofNat y
theorem ato {n:Nat} (hn:n≤256) {f g:List Nat} (hf:Tr n f) (hg:Tr n g) (e:nM f=nM g):f=g:=by
 refine uZ (hf.1.trans hg.1.symm) fun i h1 h2=> ?_;have:=List.getElem_of_eq e (i:=i) (by simpa[nM] using h1);simp only[nM,Eg] at this;have a:=hf.at h1;have b:=hg.at h2;have:=congrArg UInt8.toNat this;simp only[UInt8.toNat_ofNat'] at this;omega
theorem Vr {n:Nat} {f:List Nat} (hn:n≤32) (hf:Tr n f):CC xX [.list ab (nS f)]=some [.str (nM f)]:=by
 have hl:=hf.1;refine atl ?_;unfold ae8;rw[dC,hl];refine bT (gB (by omega) (by omega)) ?_;rw[Int.toNat_natCast];refine bs (uO (fun i a=>((i:Int),a)) n (fun i=> .int .u8 ((f.getD i 0:Nat):Int)) _ (by simp) (fun a=>((n:Int),false,a)) (fun i hi a ha=> ?_) ?_) ?_
 ·simp only[Vo,H8,un,aM,bn];have bu:i<f.length:=by omega
  have h2:=hf.at bu;refine bT (bp hi) (bs (iy bu) ((rZ (by omega)).trans ?_));rw[bz (by omega),Int.toNat_natCast,cP bu,show (nV f[i]).toInt=(f[i]:Int) from rfl,al6 (by omega) (by omega)]
 ·simp only[Vo,H8,un];rw[aV (aw _)];rfl
 ·refine congrArg (fun t=>some [V.str t]) ?_;rw[←hl];have:(tab f.length fun i=>V.int .u8 ((f.getD i 0:Nat):Int))=f.map fun y=> .int .u8 (y:Int):=(Ap (f:=fun y:Nat=>V.int .u8 (y:Int)) f 0).symm;rw[this];simp[lg,nM]
noncomputable def ae9 (C:af) (f:LV) (Ib last:Int) (word:List UInt8) (behind bX:Int) (cf:Bool) (dc:Int) (ba aI aQ aW aU aF aP bm bR bL:LV):Option LV:=
 (C xX [.list ab f]).bind fun r1=>
 bif Nat.ble (((V.nth r1 0).toStr).length) maxLen&&true then
  bif Nat.ble ((aI.length+([.list ab f]:LV).length)*24) aX then
  bif Nat.ble ((aQ.length+([V.int .i64 Ib]:LV).length)*8) aX then
   bif Nat.ble ((aW.length+([V.int .i64 last]:LV).length)*8) aX then
   bif Nat.ble ((bm.length+([.str word]:LV).length)*16) aX then
    bif Nat.ble ((bR.length+([V.int .i64 behind]:LV).length)*8) aX then
    some [V.int .i64 (aI.length:Int),V.int .i64 bX,.bool cf,V.int .i64 dc,.list ag ba,.list cF (iH (.str ((V.nth r1 0).toStr)) (V.int .i64 (aI.length:Int)) aP),.list ag (aI++([.list ab f]:LV)),.list ab (aQ++([V.int .i64 Ib]:LV)),.list ab (aW++([V.int .i64 last]:LV)),.list ag aU,.list eu aF,.list cu (bm++([.str word]:LV)),.list ab (bR++([V.int .i64 behind]:LV)),.list ab bL]
    else none
   else none
   else none
  else none
  else none
 else none
theorem atp {f:LV} {Ib last:Int} {word:List UInt8} {behind bX:Int} {cf:Bool} {dc:Int} {ba aI aQ aW aU aF aP bm bR bL:LV} {r:Option LV} (h:ae9 CC f Ib last word behind bX cf dc ba aI aQ aW aU aF aP bm bR bL=r):CC Dc [.list ab f,V.int .i64 Ib,V.int .i64 last,.str word,V.int .i64 behind,V.int .i64 bX,.bool cf,V.int .i64 dc,.list ag ba,.list ag aI,.list ab aQ,.list ab aW,.list ag aU,.list eu aF,.list cF aP,.list cu bm,.list ab bR,.list ab bL]=r:=bC (L:=bB) au h
noncomputable def afa (C:af) (i x bX:Int) (cf:Bool) (dc:Int) (ba aI aQ aW aU aF aP bm bR bL:LV):Option LV:=
 bif i==(-1) then
  aM bL x fun x1=>
  some [V.int .i64 x1.toInt,V.int .i64 bX,.bool cf,V.int .i64 dc,.list ag ba,.list cF aP,.list ag aI,.list ab aQ,.list ab aW,.list ag aU,.list eu aF,.list cu bm,.list ab bR,.list ab bL]
 else
  aM aU i fun x2=>
  (idx x2.toList x).bind fun x3=>
  some [V.int .i64 x3.toInt,V.int .i64 bX,.bool cf,V.int .i64 dc,.list ag ba,.list cF aP,.list ag aI,.list ab aQ,.list ab aW,.list ag aU,.list eu aF,.list cu bm,.list ab bR,.list ab bL]
theorem atq {i x bX:Int} {cf:Bool} {dc:Int} {ba aI aQ aW aU aF aP bm bR bL:LV} {r:Option LV} (h:afa CC i x bX cf dc ba aI aQ aW aU aF aP bm bR bL=r):CC GD [V.int .i64 i,V.int .i64 x,V.int .i64 bX,.bool cf,V.int .i64 dc,.list ag ba,.list ag aI,.list ab aQ,.list ab aW,.list ag aU,.list eu aF,.list cF aP,.list cu bm,.list ab bR,.list ab bL]=r:=bC (L:=bB) au h
noncomputable def afb (C:af) (bX:Int) (cf:Bool) (dc:Int) (ba aI aQ aW aU aF aP bm bR bL:LV):Option LV:=
 some [.bool (dc==(aI.length:Int)),V.int .i64 bX,.bool cf,V.int .i64 dc,.list cF aP,.list ag ba,.list ag aI,.list ab aQ,.list ab aW,.list ag aU,.list eu aF,.list cu bm,.list ab bR,.list ab bL]
theorem atr {bX:Int} {cf:Bool} {dc:Int} {ba aI aQ aW aU aF aP bm bR bL:LV} {r:Option LV} (h:afb CC bX cf dc ba aI aQ aW aU aF aP bm bR bL=r):CC Ms [V.int .i64 bX,.bool cf,V.int .i64 dc,.list ag ba,.list ag aI,.list ab aQ,.list ab aW,.list ag aU,.list eu aF,.list cF aP,.list cu bm,.list ab bR,.list ab bL]=r:=bC (L:=bB) au h
noncomputable def Oe (C:af) (i x bX:Int) (cf:Bool) (dc:Int) (ba aI aQ aW aU aF aP bm bR bL:LV):Option LV:=
 (C GD [V.int .i64 i,V.int .i64 x,V.int .i64 bX,.bool cf,V.int .i64 dc,.list ag ba,.list ag aI,.list ab aQ,.list ab aW,.list ag aU,.list eu aF,.list cF aP,.list cu bm,.list ab bR,.list ab bL]).bind fun r1=>
 aM ((V.nth (((((r1.drop 1).drop 3).drop 1).drop 1).drop 1) 0).toList) ((V.nth r1 0).toInt) fun x2=>
 bif (x2.toInt:Int)==i then
  aM ((V.nth ((((((r1.drop 1).drop 3).drop 1).drop 1).drop 1).drop 1) 0).toList) ((V.nth r1 0).toInt) fun x3=>
  some [.bool ((x3.toInt:Int)==x),V.int .i64 ((V.nth (r1.drop 1) 0).toInt),.bool ((V.nth ((r1.drop 1).drop 1) 0).toBool),V.int .i64 ((V.nth (((r1.drop 1).drop 1).drop 1) 0).toInt),.list ag ((V.nth ((r1.drop 1).drop 3) 0).toList),.list cF ((V.nth (((r1.drop 1).drop 3).drop 1) 0).toList),.list ag ((V.nth ((((r1.drop 1).drop 3).drop 1).drop 1) 0).toList),.list ab ((V.nth (((((r1.drop 1).drop 3).drop 1).drop 1).drop 1) 0).toList),.list ab ((V.nth ((((((r1.drop 1).drop 3).drop 1).drop 1).drop 1).drop 1) 0).toList),.list ag ((V.nth (((((((r1.drop 1).drop 3).drop 1).drop 1).drop 1).drop 1).drop 1) 0).toList),.list eu ((V.nth ((((((((r1.drop 1).drop 3).drop 1).drop 1).drop 1).drop 1).drop 1).drop 1) 0).toList),.list cu ((V.nth (((((((((r1.drop 1).drop 3).drop 1).drop 1).drop 1).drop 1).drop 1).drop 1).drop 1) 0).toList),.list ab ((V.nth ((((((((((r1.drop 1).drop 3).drop 1).drop 1).drop 1).drop 1).drop 1).drop 1).drop 1).drop 1) 0).toList),.list ab ((V.nth (((((((((((r1.drop 1).drop 3).drop 1).drop 1).drop 1).drop 1).drop 1).drop 1).drop 1).drop 1).drop 1) 0).toList)]
 else
  some [.bool false,V.int .i64 ((V.nth (r1.drop 1) 0).toInt),.bool ((V.nth ((r1.drop 1).drop 1) 0).toBool),V.int .i64 ((V.nth (((r1.drop 1).drop 1).drop 1) 0).toInt),.list ag ((V.nth ((r1.drop 1).drop 3) 0).toList),.list cF ((V.nth (((r1.drop 1).drop 3).drop 1) 0).toList),.list ag ((V.nth ((((r1.drop 1).drop 3).drop 1).drop 1) 0).toList),.list ab ((V.nth (((((r1.drop 1).drop 3).drop 1).drop 1).drop 1) 0).toList),.list ab ((V.nth ((((((r1.drop 1).drop 3).drop 1).drop 1).drop 1).drop 1) 0).toList),.list ag ((V.nth (((((((r1.drop 1).drop 3).drop 1).drop 1).drop 1).drop 1).drop 1) 0).toList),.list eu ((V.nth ((((((((r1.drop 1).drop 3).drop 1).drop 1).drop 1).drop 1).drop 1).drop 1) 0).toList),.list cu ((V.nth (((((((((r1.drop 1).drop 3).drop 1).drop 1).drop 1).drop 1).drop 1).drop 1).drop 1) 0).toList),.list ab ((V.nth ((((((((((r1.drop 1).drop 3).drop 1).drop 1).drop 1).drop 1).drop 1).drop 1).drop 1).drop 1) 0).toList),.list ab ((V.nth (((((((((((r1.drop 1).drop 3).drop 1).drop 1).drop 1).drop 1).drop 1).drop 1).drop 1).drop 1).drop 1) 0).toList)]
theorem ats {i x bX:Int} {cf:Bool} {dc:Int} {ba aI aQ aW aU aF aP bm bR bL:LV} {r:Option LV} (h:Oe CC i x bX cf dc ba aI aQ aW aU aF aP bm bR bL=r):CC GF [V.int .i64 i,V.int .i64 x,V.int .i64 bX,.bool cf,V.int .i64 dc,.list ag ba,.list ag aI,.list ab aQ,.list ab aW,.list ag aU,.list eu aF,.list cF aP,.list cu bm,.list ab bR,.list ab bL]=r:=bC (L:=bB) au h
section
variable {X R:Type} {step:X→Option (X ⊕ R)}
theorem ym (P:Nat→X→Prop) (Q:R→Prop) (n:Nat) (h: ∀i,i<n→∀x,P i x→(∃y,step x=some (.inl y)∧P (i+1) y)∨∃r,step x=some (.inr r)∧Q r)
  (he: ∀x,P n x→∃r,step x=some (.inr r)∧Q r): ∀(d i:Nat) (x:X),i+d=n→P i x→∃r,Loop step x=some r∧Q r
 | 0,i,x,hi,hx=>by
  obtain rfl:i=n:=hi;obtain ⟨r,h1,h2⟩:=he x hx;exact ⟨r,jY h1,h2⟩
 | d+1,i,x,hi,hx=>by
  rcases h i (by omega) x hx with ⟨y,h1,h2⟩|⟨r,h1,h2⟩
  ·obtain ⟨r,h3,h4⟩:=ym P Q n h he d (i+1) y (by omega) h2;exact ⟨r,(iS h1).trans h3,h4⟩
  ·exact ⟨r,jY h1,h2⟩
end
section
variable {α:Type} [DecidableEq α] {ke:α→V} {x:α}
theorem Vs: ∀{S:List α} (i:Nat),(∀a∈S,iG (ke x) (ke a)=decide (x=a))→fZ (ke x) (fK ke i S)=decide (x∈S)
 | [],_,_=>by simp[fK,fZ]
 | a::S,i,h=>by
  have c: ∀(p q:V),(V.bd [p,q]).comp 0=p:=fun p q=>rfl;rw[fK,fZ,c,h a (by simp),Vs (i+1) fun b hb=>h b (nX _ hb)];rw[wZ];simp
theorem afc {z:V}: ∀{S:List α} (i:Nat),(∀a∈S,iG (ke x) (ke a)=decide (x=a))→x∈S→jO (ke x) (fK ke i S) z= .int .i64 ((i+S.idxOf x:Nat):Int)
 | [],_,_,h=>by cases h
 | a::S,i,hk,h=>by
  have c: ∀(p q:V),(V.bd [p,q]).comp 0=p:=fun p q=>rfl;have c1: ∀(p q:V),(V.bd [p,q]).comp 1=q:=fun p q=>rfl;rw[fK,jO,c,c1,hk a (by simp)];by_cases e:x=a
  ·subst e;rw[cq rfl];simp[fK.iV]
  ·rw[c8 e,cond_false,afc (i+1) (fun b hb=>hk b (nX _ hb)) ((fY.1 h).resolve_left e),show (a::S).idxOf x=S.idxOf x+1 from by rw[List.idxOf_cons,show (a==x)=false from uV.2 fun h=>e h.symm];rfl];congr 2;omega
theorem afd: ∀{S:List α} (i:Nat),(∀a∈S,iG (ke x) (ke a)=decide (x=a))→x∉S→iH (ke x) (.int .i64 ((i+S.length:Nat):Int)) (fK ke i S)=fK ke i (S++[x])
 | [],i,_,_=>by simp[fK,iH,fK.iV]
 | a::S,i,hk,h=>by
  have c: ∀(p q:V),(V.bd [p,q]).comp 0=p:=fun p q=>rfl;have e:x≠a:=fun e=>h (by simp[e]);rw[fK,iH,c,hk a (by simp),c8 e,cond_false,List.cons_append,fK];congr 1;have:=afd (i+1) (fun b hb=>hk b (nX _ hb)) fun hx=>h (nX _ hx);rw[←this];simp only[List.length_cons];congr 3;omega
end
section
variable {α:Type} [DecidableEq α] {ke:α→V} {x:α} {S T:List α}
def ic (S:List α) (a:α):Nat:=S.idxOf a
theorem tv (h:x∈S):ic S x<S.length:=wY h
theorem afe (hp:T <+: S) (h:x∈T):ic S x=ic T x:=Am hp h
theorem Vt (h:x∈S):S[ic S x]'(tv h)=x:=Jz (tv h)
theorem Vu (h:S.Nodup) {i:Nat} (hi:i<S.length):ic S S[i]=i:=h.idxOf_getElem i hi
theorem att (h:x∉S):ic (S++[x]) x=S.length:=by rw[ic,Bq,aC h];simp
theorem aff (h: ∀a∈S,iG (ke x) (ke a)=decide (x=a)) (hx:x∈S):fZ (ke x) (fK ke 0 S)=true:=(Vs 0 h).trans (cq hx)
theorem afg (h: ∀a∈S,iG (ke x) (ke a)=decide (x=a)) (hx:x∉S):fZ (ke x) (fK ke 0 S)=false:=(Vs 0 h).trans (c8 hx)
theorem afh {z:V} (h: ∀a∈S,iG (ke x) (ke a)=decide (x=a)) (hx:x∈S):(jO (ke x) (fK ke 0 S) z).toInt=((ic S x:Nat):Int):=by rw[afc 0 h hx,dq];rfl
end
theorem atu (a b:List UInt8):iG (.str a) (.str b)=decide (a=b):=by
 simp only[iG,V.cells,ph,u7,Bool.and_true];rw[wZ];simp
def tV (f:List Nat):V:= .list ab (nS f)
def sV (S:List (List Nat)):LV:=S.map tV
def kT (f:List Nat):V:= .str (nM f)
def mT (S:List (List Nat)):LV:=fK kT 0 S
def iL (l:List Int):LV:=l.map fun x=> .int .i64 x
def wL (l:List (List UInt8)):LV:=l.map V.str
theorem qX {f:List Nat}:(tV f).toList=nS f:=by simp[tV]
theorem Vv {n:Nat} (hn:n≤32) {S:List (List Nat)} (hS: ∀f∈S,Tr n f) {f:List Nat} (hf:Tr n f): ∀a∈S,iG (kT f) (kT a)=decide (f=a):=fun a ha=>by
 rw[kT,kT,atu,wZ,Eh,Eh];exact ⟨fun e=>ato (by omega) hf (hS a ha) e,fun e=>by rw[e]⟩
theorem Ic {S:List (List Nat)} {i:Nat} (h:i<S.length):(sV S)[i]? =some (tV S[i]):=by simp[sV,h]
theorem uP {l:List Int} {i:Nat} (h:i<l.length):(iL l)[i]? =some (.int .i64 (l.getD i 0)):=by simp[iL,h]
theorem yn {l:List (List UInt8)} {i:Nat} (h:i<l.length):(wL l)[i]? =some (.str (l.getD i [])):=by simp[wL,h]
@[simp] theorem yo {S:List (List Nat)}:(sV S).length=S.length:=by simp[sV]
@[simp] theorem azU {l:List Int}:(iL l).length=l.length:=by simp[iL]
@[simp] theorem azV {l:List (List UInt8)}:(wL l).length=l.length:=by simp[wL]
def yp (n D:Nat) (G:LV) (S:List (List Nat)) (P K:List Int) (R:List (List Nat)) (U:LV) (W:List (List UInt8)) (B:List Int) (s:List Nat):List V:=
 [.int .i64 (n:Int),.bool true,.int .i64 (D:Int),.list ag G,.list ag (sV S),.list ab (iL P),.list ab (iL K),.list ag (sV R),.list eu U,.list cF (mT S),.list cu (wL W),.list ab (iL B),.list ab (nS s)]
def Of (n D:Nat) (G:LV) (S:List (List Nat)) (P K:List Int) (R:List (List Nat)) (U:LV) (W:List (List UInt8)) (B:List Int) (s:List Nat):List V:=
 [.int .i64 (n:Int),.bool true,.int .i64 (D:Int),.list ag G,.list cF (mT S),.list ag (sV S),.list ab (iL P),.list ab (iL K),.list ag (sV R),.list eu U,.list cu (wL W),.list ab (iL B),.list ab (nS s)]
def wF (R:List (List Nat)) (s:List Nat) (b:Int) (x:Nat):Nat:=if b= -1 then s.getD x 0 else (R.getD b.toNat []).getD x 0
structure kh (L n:Nat) (g:Nat→List Nat) (S:List (List Nat)) (P K:List Int) (R:List (List Nat)) (W:List (List UInt8)) (B:List Int) (s:List Nat):Prop where
 tr: ∀f∈S,Tr n f
 nd:S.Nodup
 len:S.length≤2000
 lP:P.length=S.length
 lK:K.length=S.length
 lW:W.length=S.length
 lB:B.length=S.length
 row: ∀r∈R,r.length=L∧∀y∈r,y<S.length
 s:s.length≤L∧∀y∈s,y<S.length
 b: ∀i,i<S.length→B.getD i 0= -1∨(0≤B.getD i 0∧B.getD i 0<i)
 w: ∀i,i<S.length→(W.getD i []).length≤i
 p: ∀i,0<i→i<S.length→∃p x:Nat,P.getD i 0=p∧K.getD i 0=x∧p<i∧x<L∧S.getD i []=comp (S.getD p []) (g x)
 id:S.head? =some (List.range n)
section
variable {L n D:Nat} {g:Nat→List Nat} {S:List (List Nat)} {P K:List Int} {R:List (List Nat)} {W:List (List UInt8)} {B:List Int} {s:List Nat} {G U:LV}
theorem kh.grow (h:kh L n g S P K R W B s) {f:List Nat} (hf:Tr n f) (hn:f∉S) (hl:S.length<2000) {p x:Nat} {w:List UInt8} {b:Int} (hp:p<S.length) (hx:x<L) (hw:w.length≤S.length) (hb:b= -1∨(0≤b∧b<S.length)) (e:f=comp (S.getD p []) (g x)):
  kh L n g (S++[f]) (P++[(p:Int)]) (K++[(x:Int)]) R (W++[w]) (B++[b]) s:=by
 have a1: ∀{α:Type} {l:List α} {z d:α} {i:Nat},i<l.length→(l++[z]).getD i d=l.getD i d:=fun {α l z d i} hi=>by
  rw[qi,qi,n0 hi]
 have a2: ∀{α:Type} {l:List α} {z d:α} {i:Nat},i=l.length→(l++[z]).getD i d=z:=fun {α l z d i} hi=>by subst hi;simp
 have c: ∀i,i<(S++[f]).length→i<S.length∨i=S.length:=fun i hi=>by simp at hi;omega
 refine ⟨fun a ha=> ?_,?_,by simp;omega,by simp[h.lP],by simp[h.lK],by simp[h.lW],by simp[h.lB],fun r hr=>⟨(h.row r hr).1,fun y hy=>by have:=(h.row r hr).2 y hy;simp;omega⟩,⟨h.s.1,fun y hy=>by have:=h.s.2 y hy;simp;omega⟩,fun i hi=> ?_,fun i hi=> ?_,fun i h0 hi=> ?_,?_⟩
 ·rcases eD.1 ha with ha|ha
  ·exact h.tr a ha
  ·rw[fx.1 ha];exact hf
 ·refine Ee.2 ⟨h.nd,by simp,fun a ha b hb e=> ?_⟩;rw[fx.1 hb] at e;exact hn (e▸ha)
 ·rcases c i hi with c|c
  ·rw[a1 (by rw[h.lB];exact c)];exact h.b i c
  ·rw[a2 (by rw[h.lB];exact c),c];exact hb
 ·rcases c i hi with c|c
  ·rw[a1 (by rw[h.lW];exact c)];exact h.w i c
  ·rw[a2 (by rw[h.lW];exact c),c];exact hw
 ·rcases c i hi with c|c
  ·obtain ⟨p,x,q1,q2,q3,q4,q5⟩:=h.p i h0 c;exact ⟨p,x,by rw[a1 (by rw[h.lP];exact c)];exact q1,by rw[a1 (by rw[h.lK];exact c)];exact q2,q3,q4,by rw[a1 c,a1 (by omega)];exact q5⟩
  ·exact ⟨p,x,a2 (by rw[h.lP];exact c),a2 (by rw[h.lK];exact c),by omega,hx,by rw[a2 c,a1 hp];exact e⟩
 ·have:=h.id;cases S with
  | nil=>cases this
  | cons a S=>exact this
theorem kh.pos (h:kh L n g S P K R W B s):0<S.length:=by
 have:=h.id;cases S with
 | nil=>cases this
 | cons a S=>simp
theorem afi (h:kh L n g S P K R W B s) {b:Int} {x:Nat} (hx:x<L) (hs:b= -1→x<s.length) (hb:b= -1∨(0≤b∧b<R.length)):wF R s b x<S.length:=by
 unfold wF;split
 ·rename_i e;rw[cP (hs e)];exact h.s.2 _ (dr _)
 ·rename_i e;obtain ⟨h1,h2⟩:=hb.resolve_left e;have h3:b.toNat<R.length:=by omega
  have:=h.row R[b.toNat] (dr h3);rw[cP h3,cP (by omega)];exact this.2 _ (dr _)
theorem Vw (hn:n≤32) (hS: ∀f∈S,Tr n f) {f:List Nat} (hf:Tr n f) (vS:f∉S) (h1:S.length≤2000) (h2:P.length≤2000) (h3:K.length≤2000) (h4:W.length≤2000) (h5:B.length≤2000) {p k b:Int} {w:List UInt8}:
  CC Dc ([tV f,.int .i64 p,.int .i64 k,.str w,.int .i64 b]++yp n D G S P K R U W B s)=some (nV S.length::Of n D G (S++[f]) (P++[p]) (K++[k]) R U (W++[w]) (B++[b]) s):=by
 have hl:=hf.1;refine atp ?_;unfold ae9;refine bs (Vr hn hf) ?_;have e1:(nM f).length=n:=by simp[nM,hl]
 refine bT (ki.2 ⟨yw (by rw[show (V.nth [V.str (nM f)] 0).toStr=nM f from rfl,e1];unfold maxLen;omega),rfl⟩) ?_;refine bT (cap (by simp;omega) (by omega)) (bT (cap (by simp;omega) (by omega)) (bT (cap (by simp;omega) (by omega)) (bT (cap (by simp;omega) (by omega)) (bT (cap (by simp;omega) (by omega)) ?_))));have e2:=afd (ke:=kT) 0 (Vv hn hS hf) vS;rw[dq] at e2;rw[yo];unfold Of mT;rw[←e2];simp[sV,iL,wL,nV,tV];rfl
theorem Vx {b:Int} {x:Nat} (h:kh L n g S P K R W B s) (hx:x<L) (hs:b= -1→x<s.length) (hb:b= -1∨(0≤b∧b<R.length)):
  CC GD ([.int .i64 b,nV x]++yp n D G S P K R U W B s)=some (nV (wF R s b x)::Of n D G S P K R U W B s):=by
 refine atq ?_;unfold afa wF;by_cases e:b= -1
 ·rw[aB e];refine bT (by simp[e]) ((bY (xx (hs e))).trans ?_);rw[cP (hs e)];rfl
 ·rw[aC e];obtain ⟨h1,h2⟩:=hb.resolve_left e;obtain ⟨k,rfl⟩:=Jw h1;have h3:k<R.length:=by omega
  have h4:=(h.row R[k] (dr h3)).1;refine bF (by simp only[uV];exact e) ((bY (Ic h3)).trans ?_);rw[qX];refine bs (iy (by omega)) ?_;rw[show ((k:Int)).toNat=k from Int.toNat_natCast k,cP h3,cP (by omega)];rfl
theorem atv {b:Int} {x:Nat} (h:kh L n g S P K R W B s) (hx:x<L) (hs:b= -1→x<s.length) (hb:b= -1∨(0≤b∧b<R.length)):
  ∃c,CC GF ([.int .i64 b,nV x]++yp n D G S P K R U W B s)=some (.bool c::Of n D G S P K R U W B s):=by
 have h1:=afi h hx hs hb;have e: ∀r,Oe CC b (x:Int) (n:Int) true (D:Int) G (sV S) (iL P) (iL K) (sV R) U (mT S) (wL W) (iL B) (nS s)=r→CC GF ([.int .i64 b,nV x]++yp n D G S P K R U W B s)=r:=fun r h=>ats h;by_cases c1:P.getD (wF R s b x) 0=b
 ·refine ⟨K.getD (wF R s b x) 0==(x:Int),e _ ?_⟩;unfold Oe;refine bs (Vx h hx hs hb) ((bY (uP (by rw[h.lP];exact h1))).trans (bT ?_ ((bY (uP (by rw[h.lK];exact h1))).trans rfl)));simpa using c1
 ·refine ⟨false,e _ ?_⟩;unfold Oe;refine bs (Vx h hx hs hb) ((bY (uP (by rw[h.lP];exact h1))).trans (bF ?_ rfl));simpa using c1
theorem Vy:CC Ms (yp n D G S P K R U W B s)=some [.bool ((D:Int)==(S.length:Int)),.int .i64 (n:Int),.bool true,.int .i64 (D:Int),.list cF (mT S),.list ag G,.list ag (sV S),.list ab (iL P),.list ab (iL K),.list ag (sV R),.list eu U,.list cu (wL W),.list ab (iL B),.list ab (nS s)]:=by
 refine atr ?_;unfold afb;rw[yo]
end
noncomputable def uQ (C:af) (u x i:Int) (Vz:List UInt8) (t28 t29:Int) (t78:Bool) (bX:Int) (cf:Bool) (dc:Int) (aP rows fs tw fU fV gn gC dR fW gN kV:LV) {β:Type} (kr:(Int×Int×Bool×Int×LV×LV×LV×LV×LV×LV×LV×LV×LV×LV)→Option β):Option β:=
 bif t78 then
  aM gN u fun x6=>
  (C GD [V.int .i64 x6.toInt,V.int .i64 x,V.int .i64 bX,.bool cf,V.int .i64 dc,.list ag tw,.list ag fU,.list ab fV,.list ab gn,.list ag gC,.list eu dR,.list cF aP,.list cu fW,.list ab gN,.list ab kV]).bind fun r7=>
  (C Dc [.list ab fs,V.int .i64 u,V.int .i64 x,.str Vz,V.int .i64 ((V.nth r7 0).toInt),V.int .i64 ((V.nth (r7.drop 1) 0).toInt),.bool ((V.nth ((r7.drop 1).drop 1) 0).toBool),V.int .i64 ((V.nth (((r7.drop 1).drop 1).drop 1) 0).toInt),.list ag ((V.nth ((r7.drop 1).drop 3) 0).toList),.list ag ((V.nth ((((r7.drop 1).drop 3).drop 1).drop 1) 0).toList),.list ab ((V.nth (((((r7.drop 1).drop 3).drop 1).drop 1).drop 1) 0).toList),.list ab ((V.nth ((((((r7.drop 1).drop 3).drop 1).drop 1).drop 1).drop 1) 0).toList),.list ag ((V.nth (((((((r7.drop 1).drop 3).drop 1).drop 1).drop 1).drop 1).drop 1) 0).toList),.list eu ((V.nth ((((((((r7.drop 1).drop 3).drop 1).drop 1).drop 1).drop 1).drop 1).drop 1) 0).toList),.list cF ((V.nth (((r7.drop 1).drop 3).drop 1) 0).toList),.list cu ((V.nth (((((((((r7.drop 1).drop 3).drop 1).drop 1).drop 1).drop 1).drop 1).drop 1).drop 1) 0).toList),.list ab ((V.nth ((((((((((r7.drop 1).drop 3).drop 1).drop 1).drop 1).drop 1).drop 1).drop 1).drop 1).drop 1) 0).toList),.list ab ((V.nth (((((((((((r7.drop 1).drop 3).drop 1).drop 1).drop 1).drop 1).drop 1).drop 1).drop 1).drop 1).drop 1) 0).toList)]).bind fun r8=>
  kr ((V.nth r8 0).toInt,(V.nth (r8.drop 1) 0).toInt,(V.nth ((r8.drop 1).drop 1) 0).toBool,(V.nth (((r8.drop 1).drop 1).drop 1) 0).toInt,(V.nth (((r8.drop 1).drop 3).drop 1) 0).toList,(V.nth ((r8.drop 1).drop 3) 0).toList,(V.nth ((((r8.drop 1).drop 3).drop 1).drop 1) 0).toList,(V.nth (((((r8.drop 1).drop 3).drop 1).drop 1).drop 1) 0).toList,(V.nth ((((((r8.drop 1).drop 3).drop 1).drop 1).drop 1).drop 1) 0).toList,(V.nth (((((((r8.drop 1).drop 3).drop 1).drop 1).drop 1).drop 1).drop 1) 0).toList,(V.nth ((((((((r8.drop 1).drop 3).drop 1).drop 1).drop 1).drop 1).drop 1).drop 1) 0).toList,(V.nth (((((((((r8.drop 1).drop 3).drop 1).drop 1).drop 1).drop 1).drop 1).drop 1).drop 1) 0).toList,(V.nth ((((((((((r8.drop 1).drop 3).drop 1).drop 1).drop 1).drop 1).drop 1).drop 1).drop 1).drop 1) 0).toList,(V.nth (((((((((((r8.drop 1).drop 3).drop 1).drop 1).drop 1).drop 1).drop 1).drop 1).drop 1).drop 1).drop 1) 0).toList)
 else
  aM fW u fun x9=>
  bif !(x9.toStr==[]) then
  aM gN u fun om=>
  (C GF [V.int .i64 om.toInt,V.int .i64 x,V.int .i64 bX,.bool cf,V.int .i64 dc,.list ag tw,.list ag fU,.list ab fV,.list ab gn,.list ag gC,.list eu dR,.list cF aP,.list cu fW,.list ab gN,.list ab kV]).bind fun cd=>
  bif (V.nth cd 0).toBool then
   aM ((V.nth (((((((((cd.drop 1).drop 3).drop 1).drop 1).drop 1).drop 1).drop 1).drop 1).drop 1) 0).toList) i fun kU=>
   bif Nat.ble ((((V.nth ((((((((cd.drop 1).drop 3).drop 1).drop 1).drop 1).drop 1).drop 1).drop 1) 0).toList).length+([.agg [.str Vz,.str kU.toStr]]:LV).length)*32) aX then
   kr (i,(V.nth (cd.drop 1) 0).toInt,(V.nth ((cd.drop 1).drop 1) 0).toBool,(V.nth (((cd.drop 1).drop 1).drop 1) 0).toInt,(V.nth (((cd.drop 1).drop 3).drop 1) 0).toList,(V.nth ((cd.drop 1).drop 3) 0).toList,(V.nth ((((cd.drop 1).drop 3).drop 1).drop 1) 0).toList,(V.nth (((((cd.drop 1).drop 3).drop 1).drop 1).drop 1) 0).toList,(V.nth ((((((cd.drop 1).drop 3).drop 1).drop 1).drop 1).drop 1) 0).toList,(V.nth (((((((cd.drop 1).drop 3).drop 1).drop 1).drop 1).drop 1).drop 1) 0).toList,((V.nth ((((((((cd.drop 1).drop 3).drop 1).drop 1).drop 1).drop 1).drop 1).drop 1) 0).toList)++([.agg [.str Vz,.str kU.toStr]]:LV),(V.nth (((((((((cd.drop 1).drop 3).drop 1).drop 1).drop 1).drop 1).drop 1).drop 1).drop 1) 0).toList,(V.nth ((((((((((cd.drop 1).drop 3).drop 1).drop 1).drop 1).drop 1).drop 1).drop 1).drop 1).drop 1) 0).toList,(V.nth (((((((((((cd.drop 1).drop 3).drop 1).drop 1).drop 1).drop 1).drop 1).drop 1).drop 1).drop 1).drop 1) 0).toList)
   else none
  else
   kr (i,(V.nth (cd.drop 1) 0).toInt,(V.nth ((cd.drop 1).drop 1) 0).toBool,(V.nth (((cd.drop 1).drop 1).drop 1) 0).toInt,(V.nth (((cd.drop 1).drop 3).drop 1) 0).toList,(V.nth ((cd.drop 1).drop 3) 0).toList,(V.nth ((((cd.drop 1).drop 3).drop 1).drop 1) 0).toList,(V.nth (((((cd.drop 1).drop 3).drop 1).drop 1).drop 1) 0).toList,(V.nth ((((((cd.drop 1).drop 3).drop 1).drop 1).drop 1).drop 1) 0).toList,(V.nth (((((((cd.drop 1).drop 3).drop 1).drop 1).drop 1).drop 1).drop 1) 0).toList,(V.nth ((((((((cd.drop 1).drop 3).drop 1).drop 1).drop 1).drop 1).drop 1).drop 1) 0).toList,(V.nth (((((((((cd.drop 1).drop 3).drop 1).drop 1).drop 1).drop 1).drop 1).drop 1).drop 1) 0).toList,(V.nth ((((((((((cd.drop 1).drop 3).drop 1).drop 1).drop 1).drop 1).drop 1).drop 1).drop 1).drop 1) 0).toList,(V.nth (((((((((((cd.drop 1).drop 3).drop 1).drop 1).drop 1).drop 1).drop 1).drop 1).drop 1).drop 1).drop 1) 0).toList)
  else
  kr (i,bX,cf,dc,aP,tw,fU,fV,gn,gC,dR,fW,gN,kV)
noncomputable def Ie (C:af) (u t28 t29 bX:Int) (cf:Bool) (dc:Int) (aP rows tw gm fU fV gn gC dR fW gN:LV) {β:Type} (kn:(Int×Int×Bool×Int×LV×LV×LV×LV×LV×LV×LV×LV×LV×LV×LV)→Option β) (kr:((Int×Int×Bool×Int×LV×LV×LV×LV×LV×LV×LV×LV×LV×LV) ⊕ (Int×Bool×Int×Bool×Int×LV×LV×LV×LV×LV×LV×LV×LV×LV×LV×LV))→Option β):Option β:=
 bif decide (t29<t28) then
  aM tw t29 fun x1=>
  aM gm u fun x2=>
  (C GC [.list ab x2.toList,.list ab x1.toList]).bind fun r3=>
  (C xX [.list ab ((V.nth r3 0).toList)]).bind fun r4=>
  bif Nat.ble (((V.nth r4 0).toStr).length) maxLen&&true then
  aM dR u fun x5=>
  bif (decide (0≤(wrap .i32 (wrap .i64 (97+t29)))))&&(decide ((wrap .i32 (wrap .i64 (97+t29)))<128)) then
   bif Nat.ble (x5.toStr.length+[UInt8.ofNat ((wrap .i32 (wrap .i64 (97+t29)):Int).toNat)].length) pg then
   bif !(fZ (.str ((V.nth r4 0).toStr)) aP) then
    bif (gm.length:Int)==2000 then
    kr (.inl (3,bX,cf,dc,aP,tw,gm,fU,fV,gn,gC,dR,fW,gN))
    else
    uQ C u t29 ((jO (.str ((V.nth r4 0).toStr)) aP (V.int .i64 0)).toInt) (x5.toStr++[UInt8.ofNat ((wrap .i32 (wrap .i64 (97+t29)):Int).toNat)]) t28 t29 (!(fZ (.str ((V.nth r4 0).toStr)) aP)) bX cf dc aP rows ((V.nth r3 0).toList) tw gm fU fV gn gC dR fW gN (un fun atw=>un fun atx=>un fun (Hc:Bool)=>un fun Hd=>un fun (pY:LV)=>un fun (aty:LV)=>un fun (qw:LV)=>un fun (pG:LV)=>un fun (wD:LV)=>un fun (wE:LV)=>un fun (rY:LV)=>un fun (sL:LV)=>un fun (DJ:LV) (DK:LV)=>
     aM rows t29 fun x27=>
     kn (wrap .i64 (t29+1),atx,Hc,Hd,pY,bn rows t29 (V.int .i64 atw),aty,qw,pG,wD,wE,rY,sL,DJ,DK))
   else
    uQ C u t29 ((jO (.str ((V.nth r4 0).toStr)) aP (V.int .i64 0)).toInt) (x5.toStr++[UInt8.ofNat ((wrap .i32 (wrap .i64 (97+t29)):Int).toNat)]) t28 t29 (!(fZ (.str ((V.nth r4 0).toStr)) aP)) bX cf dc aP rows ((V.nth r3 0).toList) tw gm fU fV gn gC dR fW gN (un fun Og=>un fun VA=>un fun (VB:Bool)=>un fun VC=>un fun (Hz:LV)=>un fun (atz:LV)=>un fun (Ar:LV)=>un fun (HA:LV)=>un fun (VD:LV)=>un fun (Ig:LV)=>un fun (Ih:LV)=>un fun (Ii:LV)=>un fun (Ij:LV) (DN:LV)=>
     aM rows t29 fun x42=>
     kn (wrap .i64 (t29+1),VA,VB,VC,Hz,bn rows t29 (V.int .i64 Og),atz,Ar,HA,VD,Ig,Ih,Ii,Ij,DN))
   else none
  else none
  else none
 else
  kr (.inr (t29,decide (t29<t28),bX,cf,dc,aP,rows,tw,gm,fU,fV,gn,gC,dR,fW,gN))
noncomputable def DO (C:af) (u t28:Int):=un fun t29=>un fun bX=>un fun cf=>un fun dc=>un fun aP=>un fun rows=>un fun tw=>un fun gm=>un fun fU=>un fun fV=>un fun gn=>un fun gC=>un fun dR=>un fun fW gN=>Ie C u t28 t29 bX cf dc aP rows tw gm fU fV gn gC dR fW gN (fun y=>some (Sum.inl y)) (fun r=>some (Sum.inr r))
noncomputable def afj (C:af):cD:=Gk 1263 T6 [[1,2,0,5,6,0,0,0,0,12,0,0,0,0,0,0,0,0,0]] (@uQ C) (bI 65 T7 [EQ,EQ,H1,H1,H1,H1,H1,H1,H1,H1,H1,H1,H1,H1,H1,H1,H1] [[0,0,0,0,0,0,0,0,0,0,0,0,0,0],[1,2,0,0,0,0,0,0,0,0,0,0,0,0,0,0,0,0]] (@Ie C) bB)
theorem atA (C:af):bD C (afj C) 106 (Cd 78 [1,1,1,0,1,0,0,1,1,0,0,1,1,1,1,0,0,1,1,1,0] [1,1,1,0,1,0,0,1,1,0,0,1,1,1,1,0,0,1,1,1,1] 106):=Gj T6 [[1,2,0,5,6,0,0,0,0,12,0,0,0,0,0,0,0,0,0]] (@uQ C) (bq au) (bq au)
theorem atB (C:af):bD C (afj C) 106 (Lp [1,1,1,0,1,0,0] 106):=bJ T7 [EQ,EQ,H1,H1,H1,H1,H1,H1,H1,H1,H1,H1,H1,H1,H1,H1,H1] [[0,0,0,0,0,0,0,0,0,0,0,0,0,0],[1,2,0,0,0,0,0,0,0,0,0,0,0,0,0,0,0,0]] (@Ie C) (bq (bE (atA C) au))
noncomputable def Oh (C:af) (bX:Int) (cf:Bool) (dc:Int) (ba aI aQ aW aU aF aP bm bR bL:LV):Option LV:=
 bif (decide (0≤(ba.length:Int)))&&((decide ((ba.length:Int)≤(ba.length:Int)))&&(Nat.ble (((ba.length:Int).toNat)*8) aX)) then
  (Loop (DO C dc (ba.length:Int)) (0,bX,cf,dc,aP,List.replicate ((ba.length:Int).toNat) (V.int .i64 0),ba,aI,aQ,aW,aU,aF,bm,bR,bL)).bind (fg (un fun VE=>un fun Ik=>un fun (VF:Bool)=>un fun H3=>un fun (Ay:LV)=>un fun (uN:LV)=>un fun (Az:LV)=>un fun (VG:LV)=>un fun (Il:LV)=>un fun (VH:LV)=>un fun (VI:LV)=>un fun (VJ:LV)=>un fun (VK:LV) (VM:LV)=>
   some [V.int .i64 VE,V.int .i64 Ik,.bool VF,V.int .i64 H3,.list cF Ay,.list ag uN,.list ag Az,.list ab VG,.list ab Il,.list ag VH,.list eu VI,.list cu VJ,.list ab VK,.list ab VM]) (un fun atC=>un fun (atD:Bool)=>un fun atE=>un fun (atF:Bool)=>un fun atG=>un fun (atH:LV)=>un fun (afk:LV)=>un fun (atI:LV)=>un fun (atJ:LV)=>un fun (atK:LV)=>un fun (atL:LV)=>un fun (afl:LV)=>un fun (atM:LV)=>un fun (atN:LV)=>un fun (atO:LV) (atP:LV)=>
   bif Nat.ble ((afl.length+([.list ab afk]:LV).length)*24) aX then
   some [V.int .i64 0,V.int .i64 atE,.bool atF,V.int .i64 (wrap .i64 (atG+1)),.list cF atH,.list ag atI,.list ag atJ,.list ab atK,.list ab atL,.list ag (afl++([.list ab afk]:LV)),.list eu atM,.list cu atN,.list ab atO,.list ab atP]
   else none))
 else none
theorem atQ {bX:Int} {cf:Bool} {dc:Int} {ba aI aQ aW aU aF aP bm bR bL:LV} {r:Option LV} (h:Oh CC bX cf dc ba aI aQ aW aU aF aP bm bR bL=r):CC Gu [V.int .i64 bX,.bool cf,V.int .i64 dc,.list ag ba,.list ag aI,.list ab aQ,.list ab aW,.list ag aU,.list eu aF,.list cF aP,.list cu bm,.list ab bR,.list ab bL]=r:=bC (bE (atB CC) au) h
theorem cg2 {α β γ:Sort _} {f:α→β→γ} {a a':α} {b b':β} (h:a=a') (k:b=b'):f a b=f a' b':=by rw[h,k]
theorem wrap32 {x:Int} (h1: -2147483648≤x) (h2:x<2147483648):wrap .i32 x=x:=by
 unfold IntKind.wrap;simp only[IntKind.bits,IntKind.signed];simp;omega
theorem Im {x:Nat} (h:x<31):((decide (0≤(wrap .i32 (wrap .i64 (97+(x:Int))))))&&(decide ((wrap .i32 (wrap .i64 (97+(x:Int))))<128)))=true:=by
 rw[qu,wrap32 (by omega) (by omega)];exact ki.2 ⟨cq (by omega),cq (by omega)⟩
section
variable {L n D:Nat} {g:Nat→List Nat} {S:List (List Nat)} {P K:List Int} {R:List (List Nat)} {W:List (List UInt8)} {B:List Int} {s:List Nat} {G U:LV}
section
variable (h:kh L n g S P K R W B s) (hs:s.length=L) (hD:D<S.length) (hR:R.length=D)
include h hD hR in
theorem VN:B.getD D 0= -1∨(0≤B.getD D 0∧B.getD D 0<R.length):=by rw[hR];exact h.b D hD
include h hs hD hR
theorem atS {x i:Nat} (hx:x<L) (hi:i<S.length) (hU:U.length≤100000) {w:List UInt8} {t28 t29:Int} {rows fs:LV}:
  ∃U':LV,U'.length≤U.length+1∧∀{β:Type} (kr:(Int×Int×Bool×Int×LV×LV×LV×LV×LV×LV×LV×LV×LV×LV)→Option β),uQ CC (D:Int) (x:Int) (i:Int) w t28 t29 false (n:Int) true (D:Int) (mT S) rows fs G (sV S) (iL P) (iL K) (sV R) U (wL W) (iL B) (nS s) kr=
   kr ((i:Int),(n:Int),true,(D:Int),mT S,G,sV S,iL P,iL K,sV R,U',wL W,iL B,nS s):=by
 simp only[uQ];obtain ⟨c,hc⟩:=atv (D:=D) (G:=G) (U:=U) h hx (fun _=>by rw[hs];exact hx) (VN h hD hR);have e1:D<W.length:=by rw[h.lW];exact hD
 have e2:D<B.length:=by rw[h.lB];exact hD
 by_cases e0:W.getD D []=[]
 ·refine ⟨U,by omega,fun kr=>bF rfl ((bY (yn e1)).trans (bF ?_ rfl))⟩;rw[show (V.str (W.getD D [])).toStr=W.getD D [] from rfl,e0];rfl
 ·have e3:(!((V.str (W.getD D [])).toStr==[]))=true:=by
   rw[show (V.str (W.getD D [])).toStr=W.getD D [] from rfl];simpa using e0
  cases c with
  | false=>exact ⟨U,by omega,fun kr=>bF rfl ((bY (yn e1)).trans (bT e3 ((bY (uP e2)).trans (bs hc rfl))))⟩
  | true=>
   refine ⟨_,?_,fun kr=>bF rfl ((bY (yn e1)).trans (bT e3 ((bY (uP e2)).trans (bs hc (bT rfl ((bY (yn (by rw[h.lW];exact hi))).trans (bT (cap (m:=32) ?_ (by omega)) rfl)))))))⟩
   ·show (U++[_]).length≤_;simp
   ·show U.length+1≤_;omega
theorem atT {x:Nat} {i:Int} (hx:x<L) (hn:n≤32) {f:List Nat} (hf:Tr n f) (vS:f∉S) {w:List UInt8} {t28 t29:Int} {rows:LV} {β:Type} (kr:(Int×Int×Bool×Int×LV×LV×LV×LV×LV×LV×LV×LV×LV×LV)→Option β):
  uQ CC (D:Int) (x:Int) i w t28 t29 true (n:Int) true (D:Int) (mT S) rows (nS f) G (sV S) (iL P) (iL K) (sV R) U (wL W) (iL B) (nS s) kr=
   kr ((S.length:Int),(n:Int),true,(D:Int),mT (S++[f]),G,sV (S++[f]),iL (P++[(D:Int)]),iL (K++[(x:Int)]),sV R,U,wL (W++[w]),iL (B++[(wF R s (B.getD D 0) x:Int)]),nS s):=by
 unfold uQ;have e2:D<B.length:=by rw[h.lB];exact hD
 have hl:=h.len;refine bT rfl ((bY (uP e2)).trans (bs (Vx h hx (fun _=>by rw[hs];exact hx) (VN h hD hR)) (bs (Vw hn h.tr hf vS hl ?_ ?_ ?_ ?_) rfl)))
 ·rw[h.lP];exact hl
 ·rw[h.lK];exact hl
 ·rw[h.lW];exact hl
 ·rw[h.lB];exact hl
end
def br (g:Nat→List Nat) (f:List Nat) (x:Nat):List Nat:=comp f (g x)
def gV (L:Nat) (g:Nat→List Nat):LV:=tab L fun x=>tV (g x)
def wG (n D L:Nat) (g:Nat→List Nat) (T:List (List Nat)) (f:List Nat) (x:Nat) (S:List (List Nat)) (P K:List Int) (R:List (List Nat)) (U:LV) (W:List (List UInt8)) (B:List Int) (s:List Nat):Int×Int×Bool×Int×LV×LV×LV×LV×LV×LV×LV×LV×LV×LV×LV:=
 ((x:Int),(n:Int),true,(D:Int),mT S,(tab L fun j=>if j<x then nV (ic T (br g f j)) else V.int .i64 0),gV L g,sV S,iL P,iL K,sV R,U,wL W,iL B,nS s)
def AB (n:Nat):Prop:= ∃T:List (List Nat),T.Nodup∧(∀f∈T,Tr n f)∧T.length=2000
theorem atU (h:kh L n g S P K R W B s) (hs:s.length=L) (hR:R.length=D) (hn:1≤n) (oC:n≤32) (hg: ∀x,x<L→Tr n (g x)) (hL:L≤6) {f:List Nat} (hD:S[D]? =some f) {U2:List (List Nat)} {x:Nat} (hx:x<L) (rM:cJ S (br g f x) <+: U2) (hU:U.length≤100000):
  (∃P' K' U' W' B',DO CC (D:Int) (L:Int) (wG n D L g U2 f x S P K R U W B s)=some (.inl (wG n D L g U2 f (x+1) (cJ S (br g f x)) P' K' R U' W' B' s))∧kh L n g (cJ S (br g f x)) P' K' R W' B' s∧U'.length≤U.length+1)∨
  ∃t,DO CC (D:Int) (L:Int) (wG n D L g U2 f x S P K R U W B s)=some (.inr (.inl (3,t)))∧AB n:=by
 obtain ⟨qd,rfl⟩:=cw.1 hD;have hlen:=h.len;have p7:Tr n (br g S[D] x):=(h.tr _ (dr qd)).comp (hg x hx);have jT:ic U2 (br g S[D] x)=ic (cJ S (br g S[D] x)) (br g S[D] x):=afe rM Ak;have jf:(tab L fun j=>if j<x then nV (ic U2 (br g S[D] j)) else V.int .i64 0).set x (nV (ic U2 (br g S[D] x)))=tab L fun j=>if j<x+1 then nV (ic U2 (br g S[D] j)) else V.int .i64 0:=by
  rw[mn];refine dy fun j _=> ?_;by_cases hj:j=x
  ·rw[aB hj,da,hj]
  ·rw[aC hj];by_cases dF:j<x
   ·rw[aB dF,da]
   ·rw[aC dF,dh]
 have hW:=h.w D qd;have VO:D<W.length:=by rw[h.lW];exact qd
 have VP:(gV L g)[x]? =some (tV (g x)):=nG hx;have hC:CC GC [.list ab (tV S[D]).toList,.list ab (tV (g x)).toList]=some [tV (br g S[D] x)]:=by
  rw[qX,qX];exact atn hn oC (h.tr _ (dr qd)) (hg x hx)
 have hX:CC xX [.list ab ((V.nth [tV (br g S[D] x)] 0).toList)]=some [kT (br g S[D] x)]:=by
  rw[show (V.nth [tV (br g S[D] x)] 0).toList=nS (br g S[D] x) from qX];exact Vr oC p7
 have uv:(Nat.ble (((V.nth [kT (br g S[D] x)] 0).toStr).length) maxLen&&true)=true:=by
  refine ki.2 ⟨yw ?_,rfl⟩;rw[show (V.nth [kT (br g S[D] x)] 0).toStr=nM (br g S[D] x) from rfl,show (nM (br g S[D] x)).length=n by simp[nM,p7.1]];unfold maxLen;omega
 have VQ: ∀b:UInt8,Nat.ble ((V.str (W.getD D [])).toStr.length+[b].length) pg=true:=fun b=>by
  refine yw ?_;show (W.getD D []).length+1≤pg;unfold pg;omega
 have xL:=Vv oC h.tr p7;simp only[DO,Ie,un,wG,aM,bn];by_cases hk:br g S[D] x∈S
 ·obtain ⟨U2',hU2,he⟩:=atS (G:=gV L g) (U:=U) (D:=D) h hs qd hR hx (tv hk) hU
   (w:=W.getD D []++[UInt8.ofNat ((wrap .i32 (wrap .i64 (97+(x:Int))):Int).toNat)]) (t28:=(L:Int)) (t29:=(x:Int)) (rows:=tab L fun j=>if j<x then nV (ic U2 (br g S[D] j)) else V.int .i64 0) (fs:=nS (br g S[D] x))
  have AD:cJ S (br g S[D] x)=S:=by rw[cJ,aB hk]
  rw[AD] at jT⊢;have hm:fZ (kT (br g S[D] x)) (mT S)=true:=aff xL hk;refine .inl ⟨P,K,U2',W,B,bT (bp hx) ((bY VP).trans ((bY (Ic qd)).trans (bs hC (bs hX (bT uv ((bY (yn VO)).trans (bT (Im (by omega)) (bT (VQ _) (bF ?_ ?_))))))))),h,hU2⟩
  ·exact congrArg (!·) hm
  ·refine (cg2 (f:=fun i b=>uQ CC (D:Int) (x:Int) i _ (L:Int) (x:Int) b (n:Int) true (D:Int) (mT S) _ _ (gV L g) (sV S) (iL P) (iL K) (sV R) U (wL W) (iL B) (nS s) _) (afh xL hk) (congrArg (!·) hm)).trans ((he _).trans ((rZ (by simpa using hx)).trans ?_))
   rw[bz (by omega),Int.toNat_natCast,←jf,jT];rfl
 ·have hm:fZ (kT (br g S[D] x)) (mT S)=false:=afg xL hk;have AD:cJ S (br g S[D] x)=S++[br g S[D] x]:=by rw[cJ,aC hk]
  by_cases afm:S.length=2000
  ·refine .inr ⟨_,bT (bp hx) ((bY VP).trans ((bY (Ic qd)).trans (bs hC (bs hX (bT uv ((bY (yn VO)).trans (bT (Im (by omega)) (bT (VQ _) (bT ?_ (bT ?_ rfl)))))))))),S,h.nd,h.tr,afm⟩
   ·exact congrArg (!·) hm
   ·simp[afm]
  ·rw[AD] at jT⊢;have BT:=VN h qd hR;have dp:=afi h hx (fun _=>by rw[hs];exact hx) BT;refine .inl ⟨P++[(D:Int)],K++[(x:Int)],U,W++[W.getD D []++[UInt8.ofNat ((wrap .i32 (wrap .i64 (97+(x:Int))):Int).toNat)]],B++[(wF R s (B.getD D 0) x:Int)],bT (bp hx) ((bY VP).trans ((bY (Ic qd)).trans (bs hC (bs hX (bT uv ((bY (yn VO)).trans (bT (Im (by omega)) (bT (VQ _) (bT ?_ (bF ?_ ?_)))))))))),h.grow p7 hk (by omega) (p:=D) (x:=x) (b:=(wF R s (B.getD D 0) x:Int)) qd hx ?_ (.inr ⟨by omega,by exact_mod_cast dp⟩) ?_,Nat.le_succ _⟩
   ·exact congrArg (!·) hm
   ·simp;omega
   ·refine (congrArg (fun b=>uQ CC (D:Int) (x:Int) _ _ (L:Int) (x:Int) b (n:Int) true (D:Int) (mT S) _ _ (gV L g) (sV S) (iL P) (iL K) (sV R) U (wL W) (iL B) (nS s) _) (congrArg (!·) hm)).trans ?_;refine (atT h hs qd hR hx oC p7 hk _).trans ((rZ (by simpa using hx)).trans ?_)
    rw[bz (by omega),Int.toNat_natCast,←jf,jT];rw[att hk];rfl
   ·rw[gS];show _+1≤_;omega
   ·rw[cP qd];rfl
end
noncomputable def Io (C:af) (oZ:Bool) (t39:LV) (t40 bX:Int) (cf:Bool) (dc:Int) (aI aQ aW aU aF aP bm bR bL:LV) (t41:Int) (ba:LV) {β:Type} (kn:(Int×LV)→Option β) (kr:((Int) ⊕ (Int×Bool×LV))→Option β):Option β:=
 bif decide (t41<t40) then
  (idx t39 t41).bind fun x2=>
  bif (x2.toList.length:Int) != bX then
  kr (.inl 4)
  else
  (C Db [.list ab x2.toList]).bind fun r3=>
  bif !((V.nth r3 0).toBool) then
   kr (.inl 4)
  else
   bif Nat.ble (x2.toList.length*8) aX then
   bif Nat.ble ((ba.length+([.list ab x2.toList]:LV).length)*24) aX then
    kn (wrap .i64 (t41+1),ba++([.list ab x2.toList]:LV))
   else none
   else none
 else
  kr (.inr (t41,decide (t41<t40),ba))
noncomputable def Oi (C:af) (oZ:Bool) (t39:LV) (t40 bX:Int) (cf:Bool) (dc:Int) (aI aQ aW aU aF aP bm bR bL:LV):=un fun t41 ba=>Io C oZ t39 t40 bX cf dc aI aQ aW aU aF aP bm bR bL t41 ba (fun y=>some (Sum.inl y)) (fun r=>some (Sum.inr r))
noncomputable def Ip (C:af) (empty:Int) (t72:Bool) (bX:Int) (cf:Bool) (dc:Int) (ba aI aQ aW aU aF aP bm bR bL:LV) {β:Type} (kr:(Int×Int×Bool×Int×LV×LV×LV×LV×LV×LV×LV×LV×LV×LV)→Option β):Option β:=
 bif t72 then
  (C MA [V.int .i64 bX]).bind fun r8=>
  (C Dc [.list ab ((V.nth r8 0).toList),V.int .i64 (-1),V.int .i64 (-1),.str [],V.int .i64 (-1),V.int .i64 bX,.bool cf,V.int .i64 dc,.list ag ba,.list ag aI,.list ab aQ,.list ab aW,.list ag aU,.list eu aF,.list cF aP,.list cu bm,.list ab bR,.list ab bL]).bind fun r9=>
  kr ((V.nth r9 0).toInt,(V.nth (r9.drop 1) 0).toInt,(V.nth ((r9.drop 1).drop 1) 0).toBool,(V.nth (((r9.drop 1).drop 1).drop 1) 0).toInt,(V.nth ((r9.drop 1).drop 3) 0).toList,(V.nth ((((r9.drop 1).drop 3).drop 1).drop 1) 0).toList,(V.nth (((((r9.drop 1).drop 3).drop 1).drop 1).drop 1) 0).toList,(V.nth ((((((r9.drop 1).drop 3).drop 1).drop 1).drop 1).drop 1) 0).toList,(V.nth (((((((r9.drop 1).drop 3).drop 1).drop 1).drop 1).drop 1).drop 1) 0).toList,(V.nth ((((((((r9.drop 1).drop 3).drop 1).drop 1).drop 1).drop 1).drop 1).drop 1) 0).toList,(V.nth (((r9.drop 1).drop 3).drop 1) 0).toList,(V.nth (((((((((r9.drop 1).drop 3).drop 1).drop 1).drop 1).drop 1).drop 1).drop 1).drop 1) 0).toList,(V.nth ((((((((((r9.drop 1).drop 3).drop 1).drop 1).drop 1).drop 1).drop 1).drop 1).drop 1).drop 1) 0).toList,(V.nth (((((((((((r9.drop 1).drop 3).drop 1).drop 1).drop 1).drop 1).drop 1).drop 1).drop 1).drop 1).drop 1) 0).toList)
 else
  kr (empty,bX,cf,dc,ba,aI,aQ,aW,aU,aF,aP,bm,bR,bL)
noncomputable def AE (C:af) (empty x:Int) (g:LV) (letter:List UInt8) (i t86 t87:Int) (t106:Bool) (bX:Int) (cf:Bool) (dc:Int) (yq aI aQ aW aU aF aP bm bR bL:LV) {β:Type} (kr:(Int×Int×Bool×Int×LV×LV×LV×LV×LV×LV×LV×LV×LV×LV)→Option β):Option β:=
 bif t106 then
  aM bm i fun Oj=>
  bif Nat.ble ((aF.length+([.agg [.str letter,.str Oj.toStr]]:LV).length)*32) aX then
  kr (i,bX,cf,dc,yq,aI,aQ,aW,aU,aF++([.agg [.str letter,.str Oj.toStr]]:LV),aP,bm,bR,bL)
  else none
 else
  bif Nat.ble (g.length*8) aX then
  (C Dc [.list ab g,V.int .i64 empty,V.int .i64 x,.str letter,V.int .i64 empty,V.int .i64 bX,.bool cf,V.int .i64 dc,.list ag yq,.list ag aI,.list ab aQ,.list ab aW,.list ag aU,.list eu aF,.list cF aP,.list cu bm,.list ab bR,.list ab bL]).bind fun qe=>
  kr ((V.nth qe 0).toInt,(V.nth (qe.drop 1) 0).toInt,(V.nth ((qe.drop 1).drop 1) 0).toBool,(V.nth (((qe.drop 1).drop 1).drop 1) 0).toInt,(V.nth ((qe.drop 1).drop 3) 0).toList,(V.nth ((((qe.drop 1).drop 3).drop 1).drop 1) 0).toList,(V.nth (((((qe.drop 1).drop 3).drop 1).drop 1).drop 1) 0).toList,(V.nth ((((((qe.drop 1).drop 3).drop 1).drop 1).drop 1).drop 1) 0).toList,(V.nth (((((((qe.drop 1).drop 3).drop 1).drop 1).drop 1).drop 1).drop 1) 0).toList,(V.nth ((((((((qe.drop 1).drop 3).drop 1).drop 1).drop 1).drop 1).drop 1).drop 1) 0).toList,(V.nth (((qe.drop 1).drop 3).drop 1) 0).toList,(V.nth (((((((((qe.drop 1).drop 3).drop 1).drop 1).drop 1).drop 1).drop 1).drop 1).drop 1) 0).toList,(V.nth ((((((((((qe.drop 1).drop 3).drop 1).drop 1).drop 1).drop 1).drop 1).drop 1).drop 1).drop 1) 0).toList,(V.nth (((((((((((qe.drop 1).drop 3).drop 1).drop 1).drop 1).drop 1).drop 1).drop 1).drop 1).drop 1).drop 1) 0).toList)
  else none
noncomputable def Iq (C:af) (empty t86 t87 bX:Int) (cf:Bool) (dc:Int) (yq aI aQ aW aU aF aP bm bR bL:LV) {β:Type} (kn:(Int×Int×Bool×Int×LV×LV×LV×LV×LV×LV×LV×LV×LV×LV)→Option β) (kr:(Int×Bool×Int×Bool×Int×LV×LV×LV×LV×LV×LV×LV×LV×LV×LV)→Option β):Option β:=
 bif decide (t87<t86) then
  aM yq t87 fun Ol=>
  bif (decide (0≤(wrap .i32 (wrap .i64 (97+t87)))))&&(decide ((wrap .i32 (wrap .i64 (97+t87)))<128)) then
  (C xX [.list ab Ol.toList]).bind fun VR=>
  bif Nat.ble (((V.nth VR 0).toStr).length) maxLen&&true then
   AE C empty t87 Ol.toList [UInt8.ofNat ((wrap .i32 (wrap .i64 (97+t87)):Int).toNat)] ((jO (.str ((V.nth VR 0).toStr)) aP (V.int .i64 0)).toInt) t86 t87 (fZ (.str ((V.nth VR 0).toStr)) aP) bX cf dc yq aI aQ aW aU aF aP bm bR bL (un fun Og=>un fun VA=>un fun (VB:Bool)=>un fun VC=>un fun (atV:LV)=>un fun (NA:LV)=>un fun (Ar:LV)=>un fun (HA:LV)=>un fun (VD:LV)=>un fun (Ig:LV)=>un fun (Ih:LV)=>un fun (Ii:LV)=>un fun (Ij:LV) (DN:LV)=>
    bif Nat.ble ((DN.length+([V.int .i64 Og]:LV).length)*8) aX then
    kn (wrap .i64 (t87+1),VA,VB,VC,atV,NA,Ar,HA,VD,Ig,Ih,Ii,Ij,DN++([V.int .i64 Og]:LV))
    else none)
  else none
  else none
 else
  kr (t87,decide (t87<t86),bX,cf,dc,yq,aI,aQ,aW,aU,aF,aP,bm,bR,bL)
noncomputable def Ir (C:af) (empty t86:Int):=un fun t87=>un fun bX=>un fun cf=>un fun dc=>un fun yq=>un fun aI=>un fun aQ=>un fun aW=>un fun aU=>un fun aF=>un fun aP=>un fun bm=>un fun bR bL=>Iq C empty t86 t87 bX cf dc yq aI aQ aW aU aF aP bm bR bL (fun y=>some (Sum.inl y)) (fun r=>some (Sum.inr r))
noncomputable def Om (C:af):cD:=bI 97 TX [EQ,EQ,EQ,H1,EQ,EQ,EQ,H1,EQ,EQ,EQ,EQ,EQ,EQ,EQ,EQ,EQ] [[0],[1,2,3,0,0,5,6,7,0,9,10,11,12,13,14,15,16,17]] (@Io C) (Gk 1167 TY [[0,0,0,0,0,0,0,0,0,0,0,0,0,0]] (@Ip C) (Gk 1711 TZ [[1,0,6,7,0,0,0,0,0,0,0,0,0,0,0,0,0]] (@AE C) (bI 257 T4 [EQ,EQ,H1,H1,H1,H1,H1,H1,H1,H1,H1,H1,H1,H1,H1,H1] [[1,2,0,0,0,0,0,0,0,0,0,0,0,0,0,0,0]] (@Iq C) bB)))
theorem atW (C:af):bD C (Om C) 104 (Lp [1,1,1,1,0,1,0,0] 104):=bJ TX [EQ,EQ,EQ,H1,EQ,EQ,EQ,H1,EQ,EQ,EQ,EQ,EQ,EQ,EQ,EQ,EQ] [[0],[1,2,3,0,0,5,6,7,0,9,10,11,12,13,14,15,16,17]] (@Io C) (bq au)
theorem atX (C:af):bD C (Om C) 104 (Cd 72 [1,1,1,1,1,1,0,1,0] [1,1,1,1,1,1,0,1,1] 104):=Gj TY [[0,0,0,0,0,0,0,0,0,0,0,0,0,0]] (@Ip C) (bq au) (bq au)
theorem atY (C:af):bD C (Om C) 104 (Cd 106 [1,1,1,1,1,1,1,0,1,0,0,1,1,0,0,1,1,1,0,1,0] [1,1,1,1,1,1,1,0,1,0,0,1,1,0,0,1,1,1,0,1,1] 104):=Gj TZ [[1,0,6,7,0,0,0,0,0,0,0,0,0,0,0,0,0]] (@AE C) (bq au) (bq au)
theorem atZ (C:af):bD C (Om C) 104 (Lp [1,1,1,1,1,1,1,0,1,0,0] 104):=bJ T4 [EQ,EQ,H1,H1,H1,H1,H1,H1,H1,H1,H1,H1,H1,H1,H1,H1] [[1,2,0,0,0,0,0,0,0,0,0,0,0,0,0,0,0]] (@Iq C) (bq (bE (atY C) au))
noncomputable def afn (C:af) (mu:LV) (oZ:Bool):Option LV:=
 bif (mu.length:Int)==0 then
  some [V.bool true,V.int .i64 1]
 else
  bif decide ((mu.length:Int)>6) then
  some [V.bool true,V.int .i64 1]
  else
  (mu[0]?).bind fun x1=>
  (Loop (Oi C oZ mu (mu.length:Int) (x1.toList.length:Int) oZ 0 ([]:LV) ([]:LV) ([]:LV) ([]:LV) ([]:LV) ([]:LV) ([]:LV) ([]:LV) ([]:LV)) (0,([]:LV))).bind (fg (fun lx=>
   some [V.bool true,V.int .i64 lx]) (un fun kC=>un fun (jz:Bool) (Is:LV)=>
   Ip C (-1) oZ (x1.toList.length:Int) oZ 0 Is ([]:LV) ([]:LV) ([]:LV) ([]:LV) ([]:LV) ([]:LV) ([]:LV) ([]:LV) ([]:LV) (un fun at1=>un fun at2=>un fun (UM:Bool)=>un fun UN=>un fun (pE:LV)=>un fun (vz:LV)=>un fun (y9:LV)=>un fun (pY:LV)=>un fun (tq:LV)=>un fun (qw:LV)=>un fun (pG:LV)=>un fun (wD:LV)=>un fun (wE:LV) (rY:LV)=>
    (Loop (Ir C at1 (pE.length:Int)) (0,at2,UM,UN,pE,vz,y9,pY,tq,qw,pG,wD,wE,rY)).bind (un fun azW=>un fun (VE:Bool)=>un fun at3=>un fun (at4:Bool)=>un fun at5=>un fun (at6:LV)=>un fun (uN:LV)=>un fun (Az:LV)=>un fun (VG:LV)=>un fun (Il:LV)=>un fun (VH:LV)=>un fun (VI:LV)=>un fun (VJ:LV)=>un fun (VK:LV) (VM:LV)=>
     some [V.bool false,V.int .i64 at3,.bool at4,V.int .i64 at5,.list ag at6,.list ag uN,.list ab Az,.list ab VG,.list ag Il,.list eu VH,.list cF VI,.list cu VJ,.list ab VK,.list ab VM]))))
theorem at7 {mu:LV} {oZ:Bool} {r:Option LV} (h:afn CC mu oZ=r):CC Mr [.list ag mu,.bool oZ]=r:=bC (bE (atW CC) (bE (atX CC) (bE (atZ CC) au))) h
noncomputable def On (C:af) (lz:Int) (lA:Bool) (afo:Int) (aI aQ aW aU aF aP:LV) (bX:Int) (cf:Bool) (dc:Int) (bm bR bL dY iR gm fU fV gn gC:LV) {β:Type} (kn:(Int×Bool×Int×LV×LV×LV×LV×LV×LV×LV×LV×LV×LV)→Option β) (kr:((Int×Int×Bool×Int×LV×LV×LV×LV×LV×LV) ⊕ (Bool×Int×Bool×Int×LV×LV×LV×LV×LV×LV×LV×LV×LV×LV))→Option β):Option β:=
 (C Ms [V.int .i64 bX,.bool cf,V.int .i64 dc,.list ag bm,.list ag bR,.list ab bL,.list ab dY,.list ag iR,.list eu gm,.list cF fU,.list cu fV,.list ab gn,.list ab gC]).bind fun r2=>
 bif !((V.nth r2 0).toBool) then
  (C Gu [V.int .i64 ((V.nth (r2.drop 1) 0).toInt),.bool ((V.nth ((r2.drop 1).drop 1) 0).toBool),V.int .i64 ((V.nth (((r2.drop 1).drop 1).drop 1) 0).toInt),.list ag ((V.nth (((r2.drop 1).drop 3).drop 1) 0).toList),.list ag ((V.nth ((((r2.drop 1).drop 3).drop 1).drop 1) 0).toList),.list ab ((V.nth (((((r2.drop 1).drop 3).drop 1).drop 1).drop 1) 0).toList),.list ab ((V.nth ((((((r2.drop 1).drop 3).drop 1).drop 1).drop 1).drop 1) 0).toList),.list ag ((V.nth (((((((r2.drop 1).drop 3).drop 1).drop 1).drop 1).drop 1).drop 1) 0).toList),.list eu ((V.nth ((((((((r2.drop 1).drop 3).drop 1).drop 1).drop 1).drop 1).drop 1).drop 1) 0).toList),.list cF ((V.nth ((r2.drop 1).drop 3) 0).toList),.list cu ((V.nth (((((((((r2.drop 1).drop 3).drop 1).drop 1).drop 1).drop 1).drop 1).drop 1).drop 1) 0).toList),.list ab ((V.nth ((((((((((r2.drop 1).drop 3).drop 1).drop 1).drop 1).drop 1).drop 1).drop 1).drop 1).drop 1) 0).toList),.list ab ((V.nth (((((((((((r2.drop 1).drop 3).drop 1).drop 1).drop 1).drop 1).drop 1).drop 1).drop 1).drop 1).drop 1) 0).toList)]).bind fun r3=>
  bif (((V.nth r3 0).toInt):Int) != 0 then
  kr (.inl ((V.nth r3 0).toInt,0,false,0,([]:LV),([]:LV),([]:LV),([]:LV),([]:LV),([]:LV)))
  else
  kn ((V.nth (r3.drop 1) 0).toInt,(V.nth ((r3.drop 1).drop 1) 0).toBool,(V.nth (((r3.drop 1).drop 1).drop 1) 0).toInt,(V.nth (((r3.drop 1).drop 3).drop 1) 0).toList,(V.nth ((((r3.drop 1).drop 3).drop 1).drop 1) 0).toList,(V.nth (((((r3.drop 1).drop 3).drop 1).drop 1).drop 1) 0).toList,(V.nth ((((((r3.drop 1).drop 3).drop 1).drop 1).drop 1).drop 1) 0).toList,(V.nth (((((((r3.drop 1).drop 3).drop 1).drop 1).drop 1).drop 1).drop 1) 0).toList,(V.nth ((((((((r3.drop 1).drop 3).drop 1).drop 1).drop 1).drop 1).drop 1).drop 1) 0).toList,(V.nth ((r3.drop 1).drop 3) 0).toList,(V.nth (((((((((r3.drop 1).drop 3).drop 1).drop 1).drop 1).drop 1).drop 1).drop 1).drop 1) 0).toList,(V.nth ((((((((((r3.drop 1).drop 3).drop 1).drop 1).drop 1).drop 1).drop 1).drop 1).drop 1).drop 1) 0).toList,(V.nth (((((((((((r3.drop 1).drop 3).drop 1).drop 1).drop 1).drop 1).drop 1).drop 1).drop 1).drop 1).drop 1) 0).toList)
 else
  kr (.inr (!((V.nth r2 0).toBool),(V.nth (r2.drop 1) 0).toInt,(V.nth ((r2.drop 1).drop 1) 0).toBool,(V.nth (((r2.drop 1).drop 1).drop 1) 0).toInt,(V.nth (((r2.drop 1).drop 3).drop 1) 0).toList,(V.nth ((((r2.drop 1).drop 3).drop 1).drop 1) 0).toList,(V.nth (((((r2.drop 1).drop 3).drop 1).drop 1).drop 1) 0).toList,(V.nth ((((((r2.drop 1).drop 3).drop 1).drop 1).drop 1).drop 1) 0).toList,(V.nth (((((((r2.drop 1).drop 3).drop 1).drop 1).drop 1).drop 1).drop 1) 0).toList,(V.nth ((((((((r2.drop 1).drop 3).drop 1).drop 1).drop 1).drop 1).drop 1).drop 1) 0).toList,(V.nth ((r2.drop 1).drop 3) 0).toList,(V.nth (((((((((r2.drop 1).drop 3).drop 1).drop 1).drop 1).drop 1).drop 1).drop 1).drop 1) 0).toList,(V.nth ((((((((((r2.drop 1).drop 3).drop 1).drop 1).drop 1).drop 1).drop 1).drop 1).drop 1).drop 1) 0).toList,(V.nth (((((((((((r2.drop 1).drop 3).drop 1).drop 1).drop 1).drop 1).drop 1).drop 1).drop 1).drop 1).drop 1) 0).toList))
noncomputable def VT (C:af) (lz:Int) (lA:Bool) (afo:Int) (aI aQ aW aU aF aP:LV):=un fun bX=>un fun cf=>un fun dc=>un fun bm=>un fun bR=>un fun bL=>un fun dY=>un fun iR=>un fun gm=>un fun fU=>un fun fV=>un fun gn gC=>On C lz lA afo aI aQ aW aU aF aP bX cf dc bm bR bL dY iR gm fU fV gn gC (fun y=>some (Sum.inl y)) (fun r=>some (Sum.inr r))
noncomputable def aua (C:af):cD:=bI 65 TS [EQ,EQ,EQ,H1,H1,H1,EQ,EQ,EQ,EQ,EQ,EQ,H1,H1,H1,H1,H1,H1,H1,H1,H1,H1] [[0,0,0,0,0,0,0,0,0,0],[0,1,2,3,0,0,0,7,8,9,10,11,12,0,0,0,0,0,0,0,0,0,0]] (@On C) bB
theorem aub (C:af):bD C (aua C) 76 (Lp [1,1,1,0,0,0] 76):=bJ TS [EQ,EQ,EQ,H1,H1,H1,EQ,EQ,EQ,EQ,EQ,EQ,H1,H1,H1,H1,H1,H1,H1,H1,H1,H1] [[0,0,0,0,0,0,0,0,0,0],[0,1,2,3,0,0,0,7,8,9,10,11,12,0,0,0,0,0,0,0,0,0,0]] (@On C) (bq au)
noncomputable def VU (C:af) (mu:LV) (oZ:Bool):Option LV:=
 (C Mr [.list ag mu,.bool oZ]).bind fun r1=>
 bif (V.nth r1 0).toBool then
  bif (((V.nth (r1.drop 1) 0).toInt):Int) != 0 then
  some [V.int .i64 0,.bool false,V.int .i64 0,V.int .i64 ((V.nth (r1.drop 1) 0).toInt),.list ag ([]:LV),.list ag ([]:LV),.list ab ([]:LV),.list ab ([]:LV),.list ag ([]:LV),.list eu ([]:LV)]
  else none
 else
  (Loop (VT C 0 false 0 ([]:LV) ([]:LV) ([]:LV) ([]:LV) ([]:LV) ([]:LV)) ((V.nth (r1.drop 1) 0).toInt,(V.nth ((r1.drop 1).drop 1) 0).toBool,(V.nth (((r1.drop 1).drop 1).drop 1) 0).toInt,(V.nth ((r1.drop 1).drop 3) 0).toList,(V.nth (((r1.drop 1).drop 3).drop 1) 0).toList,(V.nth ((((r1.drop 1).drop 3).drop 1).drop 1) 0).toList,(V.nth (((((r1.drop 1).drop 3).drop 1).drop 1).drop 1) 0).toList,(V.nth ((((((r1.drop 1).drop 3).drop 1).drop 1).drop 1).drop 1) 0).toList,(V.nth (((((((r1.drop 1).drop 3).drop 1).drop 1).drop 1).drop 1).drop 1) 0).toList,(V.nth ((((((((r1.drop 1).drop 3).drop 1).drop 1).drop 1).drop 1).drop 1).drop 1) 0).toList,(V.nth (((((((((r1.drop 1).drop 3).drop 1).drop 1).drop 1).drop 1).drop 1).drop 1).drop 1) 0).toList,(V.nth ((((((((((r1.drop 1).drop 3).drop 1).drop 1).drop 1).drop 1).drop 1).drop 1).drop 1).drop 1) 0).toList,(V.nth (((((((((((r1.drop 1).drop 3).drop 1).drop 1).drop 1).drop 1).drop 1).drop 1).drop 1).drop 1).drop 1) 0).toList)).bind (fg (un fun lx=>un fun auc=>un fun (aud:Bool)=>un fun UL=>un fun (B5:LV)=>un fun (zb:LV)=>un fun (qR:LV)=>un fun (Ai:LV)=>un fun (UO:LV) (DC:LV)=>
   some [V.int .i64 auc,.bool aud,V.int .i64 UL,V.int .i64 lx,.list ag B5,.list ag zb,.list ab qR,.list ab Ai,.list ag UO,.list eu DC]) (un fun (vB:Bool)=>un fun Hc=>un fun (Hd:Bool)=>un fun aue=>un fun (tq:LV)=>un fun (qw:LV)=>un fun (pG:LV)=>un fun (wD:LV)=>un fun (wE:LV)=>un fun (rY:LV)=>un fun (sL:LV)=>un fun (DJ:LV)=>un fun (DK:LV) (N9:LV)=>
   some [V.int .i64 Hc,.bool Hd,V.int .i64 aue,V.int .i64 0,.list ag tq,.list ag qw,.list ab pG,.list ab wD,.list ag wE,.list eu rY]))
theorem afp {mu:LV} {oZ:Bool} {r:Option LV} (h:VU CC mu oZ=r):CC Mo [.list ag mu,.bool oZ]=r:=bC (bE (aub CC) au) h
section
variable {L n D:Nat} {g:Nat→List Nat} {S:List (List Nat)} {P K:List Int} {R:List (List Nat)} {W:List (List UInt8)} {B:List Int} {s:List Nat} {U:LV}
def fX (L:Nat) (g:Nat→List Nat) (T:List (List Nat)) (f:List Nat):List Nat:=(List.range L).map fun x=>ic T (br g f x)
theorem auf {T:List (List Nat)} {f:List Nat}:tV (fX L g T f)= .list ab (tab L fun j=>if j<L then nV (ic T (br g f j)) else V.int .i64 0):=by
 unfold tV fX nS;rw[Bj];exact congrArg _ (dy (n:=L) (g:=nV ∘ fun x=>ic T (br g f x)) fun j hj=>by rw[aB hj];rfl)
abbrev PrR:=(Int×Int×Bool×Int×LV×LV×LV×LV×LV×LV×LV×LV×LV×LV) ⊕ (Int×Bool×Int×Bool×Int×LV×LV×LV×LV×LV×LV×LV×LV×LV×LV×LV)
theorem aug (h:kh L n g S P K R W B s) (hs:s.length=L) (hR:R.length=D) (hn:1≤n) (oC:n≤32) (hg: ∀x,x<L→Tr n (g x)) (hL:L≤6) {f:List Nat} (hD:S[D]? =some f) (hU:U.length≤6+D*6):
  ∃r,CC Gu (yp n D (gV L g) S P K R U W B s)=some r∧((∃l,r= .int .i64 3::l∧AB n)∨
   ∃P' K' U' W' B',r= .int .i64 0::[.int .i64 (n:Int),.bool true,.int .i64 ((D+1:Nat):Int),.list cF (mT (b9 (br g) S f L)),.list ag (gV L g),.list ag (sV (b9 (br g) S f L)),.list ab (iL P'),.list ab (iL K'),
    .list ag (sV (R++[fX L g (b9 (br g) S f L) f])),.list eu U',.list cu (wL W'),.list ab (iL B'),.list ab (nS s)]∧
    kh L n g (b9 (br g) S f L) P' K' R W' B' s∧U'.length≤6+(D+1)*6):=by
 have DP:=(cw.1 hD).1;have hlen:=h.len;have key: ∃r,Loop (DO CC (D:Int) (L:Int)) (wG n D L g (b9 (br g) S f L) f 0 S P K R U W B s)=some r∧((∃t,r= .inl (3,t)∧AB n)∨
   ∃P' K' U' W' B',r= .inr ((L:Int),false,(wG n D L g (b9 (br g) S f L) f L (b9 (br g) S f L) P' K' R U' W' B' s).2)∧kh L n g (b9 (br g) S f L) P' K' R W' B' s∧U'.length≤6+(D+1)*6):=by
  refine ym (fun x y=> ∃P' K' U' W' B',y=wG n D L g (b9 (br g) S f L) f x (b9 (br g) S f x) P' K' R U' W' B' s∧kh L n g (b9 (br g) S f x) P' K' R W' B' s∧U'.length≤6+D*6+x)
   (fun r:PrR=>(∃t,r= .inl (3,t)∧AB n)∨∃P' K' U' W' B',r= .inr ((L:Int),false,(wG n D L g (b9 (br g) S f L) f L (b9 (br g) S f L) P' K' R U' W' B' s).2)∧kh L n g (b9 (br g) S f L) P' K' R W' B' s∧U'.length≤6+(D+1)*6)
   L (fun x hx y hy=> ?_) (fun y hy=> ?_) L 0 _ (dq _) ⟨P,K,U,W,B,rfl,h,hU⟩
  ·obtain ⟨P1,K1,U1,W1,B1,rfl,hI,VV⟩:=hy;have rM:=No (next:=br g) S f x;have qd:(b9 (br g) S f x)[D]? =some f:=by
    obtain ⟨Z,e⟩:=rM;rw[←e,n0 DP,hD]
   rcases atU (U2:=b9 (br g) S f L) hI hs hR hn oC hg hL qd hx (Al (next:=br g) S f (show x+1≤L by omega)) (by omega) (U:=U1) with ⟨P2,K2,U2,W2,B2,e,h2,h3⟩|⟨t,e,hm⟩
   ·exact .inl ⟨_,e,P2,K2,U2,W2,B2,rfl,h2,by omega⟩
   ·exact .inr ⟨_,e,.inl ⟨t,rfl,hm⟩⟩
  ·obtain ⟨P1,K1,U1,W1,B1,rfl,hI,VV⟩:=hy;refine ⟨_,?_,.inr ⟨P1,K1,U1,W1,B1,rfl,hI,by omega⟩⟩;unfold wG;simp only[DO,Ie,un];refine bF (aV (aw _)) ?_;rw[aV (aw _)]
 obtain ⟨r,e1,e2⟩:=key;have e0:List.replicate (((L:Nat):Int).toNat) (V.int .i64 0)=tab L fun j=>if j<0 then nV (ic (b9 (br g) S f L) (br g f j)) else V.int .i64 0:=by
  rw[Int.toNat_natCast,p5];exact dy fun j _=>by rw[dh]
 have fin: ∀z,Oh CC (n:Int) true (D:Int) (gV L g) (sV S) (iL P) (iL K) (sV R) U (mT S) (wL W) (iL B) (nS s)=z→CC Gu (yp n D (gV L g) S P K R U W B s)=z:=fun z h=>atQ h;rcases e2 with ⟨t,rfl,hm⟩|⟨P1,K1,U1,W1,B1,rfl,hI,VV⟩
 ·refine ⟨_,fin _ ?_,.inl ⟨[.int .i64 t.1,.bool t.2.1,.int .i64 t.2.2.1,.list cF t.2.2.2.1,.list ag t.2.2.2.2.1,.list ag t.2.2.2.2.2.1,.list ab t.2.2.2.2.2.2.1,.list ab t.2.2.2.2.2.2.2.1,.list ag t.2.2.2.2.2.2.2.2.1,.list eu t.2.2.2.2.2.2.2.2.2.1,.list cu t.2.2.2.2.2.2.2.2.2.2.1,.list ab t.2.2.2.2.2.2.2.2.2.2.2.1,.list ab t.2.2.2.2.2.2.2.2.2.2.2.2],rfl,hm⟩⟩;unfold Oh;rw[show (gV L g).length=L from fT,e0];exact bT (gB (by omega) (by omega)) (bs e1 rfl)
 ·refine ⟨_,fin _ ?_,.inr ⟨P1,K1,U1,W1,B1,rfl,hI,VV⟩⟩;unfold Oh;rw[show (gV L g).length=L from fT,e0];refine bT (gB (by omega) (by omega)) (bs e1 (bT (show Nat.ble (((sV R).length+1)*24) aX=true from cap (by simp;omega) (by omega)) ?_));have hw:((D+1:Nat):Int)=wrap .i64 ((D:Int)+1):=(bz (by omega)).symm;have:sV (R++[fX L g (b9 (br g) S f L) f])=sV R++[tV (fX L g (b9 (br g) S f L) f)]:=by simp[sV]
  rw[hw,this,auf];rfl
end
section
variable {L n:Nat} {g:Nat→List Nat} (hn:1≤n) (oC:n≤32) (hg: ∀x,x<L→Tr n (g x)) (h1:1≤L) (hL:L≤6)
include hg in
theorem afq {x:Nat} (hx:x<L):br g (List.range n) x=g x:=by
 have h:=hg x hx;refine uZ (by simp[br,comp,h.1]) fun i h1 h2=> ?_;simp[br,comp,h2]
include hn oC hg h1 hL
theorem auh: ∃P K,∃U:LV,∃W B s,CC Mr [.list ag (gV L g),.bool true]=some (.bool false::yp n 0 (gV L g) (b9 (br g) [List.range n] (List.range n) L) P K [] U W B s)∧kh L n g (b9 (br g) [List.range n] (List.range n) L) P K [] W B s∧s.length=L∧U.length≤6:=by
 have hG:(gV L g).length=L:=fT;have l1: ∀{a b c d:LV} {e f g1 h1 i1:LV},Loop (Oi CC true (gV L g) (L:Int) (n:Int) true 0 a b c d e f g1 h1 i1) (0,([]:LV))=some (.inr ((L:Int),false,gV L g)):=by
  intro a b c d e f g1 h1 i1;refine gz L (fun i=>((i:Int),tab i fun x=>tV (g x))) _ (fun i hi=> ?_) ?_
  ·simp only[Oi,Io,un];have ht:=hg i hi;refine bT (bp hi) (bs (qT hi) ?_);rw[qX];have e1:(nS (g i)).length=n:=by rw[dC,ht.1]
   refine bF (by rw[e1];simp) (bs (Vq hn oC ht) (bF rfl (bT (cap (a:=(nS (g i)).length) (b:=0) (by omega) (by omega)) (bT (cap (by simp;omega) (by omega)) ?_))));rw[bz (by omega),Dy];rfl
  ·simp only[Oi,Io,un];refine bF (aV (aw _)) ?_;rw[aV (aw _)];rfl
 have hI0:kh L n g [List.range n] [-1] [-1] [] [[]] [-1] []:=by
  refine ⟨fun f hf=> ?_,by simp,by simp,rfl,rfl,rfl,rfl,fun r hr=>(by cases hr),⟨by simp,fun y hy=>(by cases hy)⟩,fun i hi=> ?_,fun i hi=> ?_,fun i h0 hi=>(by simp at hi;omega),rfl⟩
  ·rw[fx.1 hf];exact Ia
  ·obtain rfl:i=0:=by simpa using hi
   exact .inl rfl
  ·obtain rfl:i=0:=by simpa using hi
   exact aw _
 have key: ∃r,Loop (Ir CC 0 (L:Int)) (0,(n:Int),true,0,gV L g,sV [List.range n],iL [-1],iL [-1],sV [],[],mT [List.range n],wL [[]],iL [-1],nS [])=some r∧
   ∃P K,∃U:LV,∃W B s,r=((L:Int),false,(n:Int),true,0,gV L g,sV (b9 (br g) [List.range n] (List.range n) L),iL P,iL K,sV [],U,mT (b9 (br g) [List.range n] (List.range n) L),wL W,iL B,nS s)∧kh L n g (b9 (br g) [List.range n] (List.range n) L) P K [] W B s∧s.length=L∧U.length≤6:=by
  refine ym (fun x y=> ∃P K,∃U:LV,∃W B s,y=((x:Int),(n:Int),true,0,gV L g,sV (b9 (br g) [List.range n] (List.range n) x),iL P,iL K,sV [],U,mT (b9 (br g) [List.range n] (List.range n) x),wL W,iL B,nS s)∧kh L n g (b9 (br g) [List.range n] (List.range n) x) P K [] W B s∧s.length=x∧U.length≤x)
   (fun r=> ∃P K,∃U:LV,∃W B s,r=((L:Int),false,(n:Int),true,0,gV L g,sV (b9 (br g) [List.range n] (List.range n) L),iL P,iL K,sV [],U,mT (b9 (br g) [List.range n] (List.range n) L),wL W,iL B,nS s)∧kh L n g (b9 (br g) [List.range n] (List.range n) L) P K [] W B s∧s.length=L∧U.length≤6)
   L (fun x hx y hy=> ?_) (fun y hy=> ?_) L 0 _ (dq _) ⟨_,_,_,_,_,_,rfl,hI0,rfl,aw _⟩
  ·obtain ⟨P,K,U,W,B,s,rfl,hI,hs,hU⟩:=hy;have p7:=hg x hx;have hf0:br g (List.range n) x=g x:=afq hg hx;have aui:b9 (br g) [List.range n] (List.range n) (x+1)=cJ (b9 (br g) [List.range n] (List.range n) x) (g x):=by rw[←hf0];rfl
   rw[aui];generalize hTx:b9 (br g) [List.range n] (List.range n) x=T at*
   have hlen:=hI.len;have gh:=hI.pos;have xL:=Vv oC hI.tr p7;have hX:CC xX [.list ab (tV (g x)).toList]=some [kT (g x)]:=by
    rw[qX];exact Vr oC p7
   have uv:(Nat.ble (((V.nth [kT (g x)] 0).toStr).length) maxLen&&true)=true:=by
    refine ki.2 ⟨yw ?_,rfl⟩;rw[show (V.nth [kT (g x)] 0).toStr=nM (g x) from rfl,show (nM (g x)).length=n by simp[nM,p7.1]];unfold maxLen;omega
   have hsn: ∀y,nS s++[nV y]=nS (s++[y]):=fun y=>by simp[nS]
   simp only[Ir,Iq,un,aM];by_cases hk:g x∈T
   ·have AD:cJ T (g x)=T:=by rw[cJ,aB hk]
    have hm:fZ (kT (g x)) (mT T)=true:=aff xL hk;rw[AD];have vP:=tv hk;refine .inl ⟨_,bT (bp hx) ((bY (nG hx)).trans (bT (Im (by omega)) (bs hX (bT uv ?_)))),P,K,U++[.agg [.str [UInt8.ofNat ((wrap .i32 (wrap .i64 (97+(x:Int))):Int).toNat)],.str (W.getD (ic T (g x)) [])]],W,B,s++[ic T (g x)],rfl,⟨hI.tr,hI.nd,hI.len,hI.lP,hI.lK,hI.lW,hI.lB,hI.row,⟨by simp;omega,fun y hy=> ?_⟩,hI.b,hI.w,hI.p,hI.id⟩,by simp[hs],by simp;omega⟩
    ·refine (cg2 (f:=fun i b=>AE CC 0 (x:Int) _ _ i (L:Int) (x:Int) b (n:Int) true 0 (gV L g) (sV T) (iL P) (iL K) (sV []) U (mT T) (wL W) (iL B) (nS s) _) (afh xL hk) hm).trans ?_;unfold AE;refine bT rfl ((bY (yn (by rw[hI.lW];exact vP))).trans (bT (cap (by simp;omega) (by omega)) (bT (show Nat.ble (((nS s).length+1)*8) aX=true from cap (by rw[dC];omega) (by omega)) ?_)));rw[bz (by omega),←hsn];rfl
    ·rcases eD.1 hy with hy|hy
     ·exact hI.s.2 y hy
     ·rw[fx.1 hy];exact vP
   ·have AD:cJ T (g x)=T++[g x]:=by rw[cJ,aC hk]
    have hm:fZ (kT (g x)) (mT T)=false:=afg xL hk;rw[AD];have hT:T.length<2000:=by
     have:=Ve (next:=br g) [List.range n] (List.range n) x;rw[hTx] at this;simp at this;omega
    have ae:T.getD 0 []=List.range n:=by
     have:=hI.id;cases T with
     | nil=>cases this
     | cons a T=>exact dL this
    refine .inl ⟨_,bT (bp hx) ((bY (nG hx)).trans (bT (Im (by omega)) (bs hX (bT uv ?_)))),P++[((0:Nat):Int)],K++[(x:Int)],U,W++[[UInt8.ofNat ((wrap .i32 (wrap .i64 (97+(x:Int))):Int).toNat)]],B++[0],s++[T.length],rfl,?_,by simp[hs],by omega⟩
    ·refine (congrArg (fun b=>AE CC 0 (x:Int) _ _ _ (L:Int) (x:Int) b (n:Int) true 0 (gV L g) (sV T) (iL P) (iL K) (sV []) U (mT T) (wL W) (iL B) (nS s) _) hm).trans ?_;unfold AE;rw[qX];refine bF rfl (bT (cap (a:=(nS (g x)).length) (b:=0) (by rw[dC,p7.1];omega) (by omega)) (bs (Vw (p:=0) (b:=0) (k:=(x:Int)) oC hI.tr p7 hk hlen (by rw[hI.lP];exact hlen) (by rw[hI.lK];exact hlen) (by rw[hI.lW];exact hlen) (by rw[hI.lB];exact hlen)) (bT (show Nat.ble (((nS s).length+1)*8) aX=true from cap (by rw[dC];omega) (by omega)) ?_)));rw[bz (by omega),←hsn];rfl
    ·have h2:=hI.grow p7 hk hT (p:=0) (x:=x) (w:=[UInt8.ofNat ((wrap .i32 (wrap .i64 (97+(x:Int))):Int).toNat)]) (b:=0) gh hx (show 1≤_ from gh) (.inr ⟨Int.le_refl _,by exact_mod_cast gh⟩) (by rw[ae];exact hf0.symm);refine ⟨h2.tr,h2.nd,h2.len,h2.lP,h2.lK,h2.lW,h2.lB,h2.row,⟨by simp;omega,fun y hy=> ?_⟩,h2.b,h2.w,h2.p,h2.id⟩;rcases eD.1 hy with hy|hy
     ·exact h2.s.2 y hy
     ·rw[fx.1 hy];simp
  ·obtain ⟨P,K,U,W,B,s,rfl,hI,hs,hU⟩:=hy;refine ⟨_,?_,P,K,U,W,B,s,rfl,hI,hs,by omega⟩;simp only[Ir,Iq,un];refine bF (aV (aw _)) ?_;rw[aV (aw _)]
 obtain ⟨r,e1,P,K,U,W,B,s,rfl,hI,hs,hU⟩:=key;refine ⟨P,K,U,W,B,s,at7 ?_,hI,hs,hU⟩;unfold afn;rw[hG];refine bF (by simp;omega) (bF (c8 (by omega)) (bs (nG (by omega)) ?_));rw[qX,dC,(hg 0 (by omega)).1];refine bs l1 ?_;show Ip CC (-1) true (n:Int) true 0 (gV L g) [] [] [] [] [] [] [] [] [] _=_;unfold Ip;refine bT rfl (bs (atm hn oC) (bs (Vw (S:=[]) (P:=[]) (K:=[]) (R:=[]) (U:=[]) (W:=[]) (B:=[]) (s:=[]) (D:=0) (G:=gV L g) oC (fun f hf=>by cases hf) Ia (by simp) (by simp) (by simp) (by simp) (by simp) (by simp)) ?_));show (Loop (Ir CC 0 ((gV L g).length:Int)) _).bind _=_;rw[hG];exact bs e1 rfl
structure mw (L n D:Nat) (g:Nat→List Nat) (S:List (List Nat)) (P K:List Int) (R:List (List Nat)) (W:List (List UInt8)) (B:List Int) (s:List Nat):Prop where
 I:kh L n g S P K R W B s
 sl:s.length=L
 dl:D≤S.length
 cl: ∀f∈S.take D,∀x,x<L→br g f x∈S
 rr:R=(S.take D).map (fX L g S)
abbrev BdX:=Int×Bool×Int×LV×LV×LV×LV×LV×LV×LV×LV×LV×LV
abbrev BdR:=(Int×Int×Bool×Int×LV×LV×LV×LV×LV×LV) ⊕ (Bool×Int×Bool×Int×LV×LV×LV×LV×LV×LV×LV×LV×LV×LV)
def Oo (n D L:Nat) (g:Nat→List Nat) (S:List (List Nat)) (P K:List Int) (R:List (List Nat)) (U:LV) (W:List (List UInt8)) (B:List Int) (s:List Nat):BdX:=
 ((n:Int),true,(D:Int),gV L g,sV S,iL P,iL K,sV R,U,mT S,wL W,iL B,nS s)
theorem auj: ∃r,CC Mo [.list ag (gV L g),.bool true]=some r∧((r=[.int .i64 0,.bool false,.int .i64 0,.int .i64 3,.list ag [],.list ag [],.list ab [],.list ab [],.list ag [],.list eu []]∧AB n)∨
  ∃S P K R W B s,∃U:LV,r=[.int .i64 (n:Int),.bool true,.int .i64 (S.length:Int),.int .i64 0,.list ag (gV L g),.list ag (sV S),.list ab (iL P),.list ab (iL K),.list ag (sV R),.list eu U]∧mw L n S.length g S P K R W B s):=by
 obtain ⟨P,K,U,W,B,s,e1,hI,hs,hU⟩:=auh hn oC hg h1 hL;have key: ∃r,Loop (VT CC 0 false 0 [] [] [] [] [] []) (Oo n 0 L g (b9 (br g) [List.range n] (List.range n) L) P K [] U W B s)=some r∧((r= .inl (3,0,false,0,[],[],[],[],[],[])∧AB n)∨
   ∃S P K R W B s,∃U:LV,r= .inr (false,(n:Int),true,(S.length:Int),gV L g,sV S,iL P,iL K,sV R,U,mT S,wL W,iL B,nS s)∧mw L n S.length g S P K R W B s):=by
  refine L5 (fun x:BdX=> ∃D S P K R W B s,∃U:LV,x=Oo n D L g S P K R U W B s∧mw L n D g S P K R W B s∧U.length≤6+D*6) (fun x=>3000-x.2.2.1.toNat)
   (fun r:BdR=>(r= .inl (3,0,false,0,[],[],[],[],[],[])∧AB n)∨∃S P K R W B s,∃U:LV,r= .inr (false,(n:Int),true,(S.length:Int),gV L g,sV S,iL P,iL K,sV R,U,mT S,wL W,iL B,nS s)∧mw L n S.length g S P K R W B s)
   (fun x hx=> ?_) _ ⟨0,_,P,K,[],W,B,s,U,rfl,⟨hI,hs,nf _,fun f hf=>(by cases hf),rfl⟩,hU⟩
  obtain ⟨D,S,P,K,R,W,B,s,U,rfl,hE,hU⟩:=hx;have hlen:=hE.I.len;have hD:=hE.dl;have hR:R.length=D:=by rw[hE.rr];simp[hD]
  unfold Oo;simp only[VT,On,un];by_cases hf:D=S.length
  ·subst hf;refine .inr ⟨_,bs Vy (bF (by simp) rfl),.inr ⟨S,P,K,R,W,B,s,U,?_,hE⟩⟩;simp
  ·have DP:D<S.length:=by omega
   obtain ⟨r,e2,h2⟩:=aug hE.I hE.sl hR hn oC hg hL (bU DP) hU;rcases h2 with ⟨l,rfl,hm⟩|⟨P',K',U',W',B',rfl,gG,hU'⟩
   ·exact .inr ⟨_,bs Vy (bT (by simp[hf];omega) (bs e2 (bT rfl rfl))),.inl ⟨rfl,hm⟩⟩
   ·have rM:=No (next:=br g) S S[D] L;have htk:(b9 (br g) S S[D] L).take (D+1)=S.take D++[S[D]]:=by
     obtain ⟨Z,e⟩:=rM;rw[←e,List.take_append_of_le_length DP,Pg DP]
    have zm: ∀x,x<L→br g S[D] x∈b9 (br g) S S[D] L:=fun x hx=>adZ hx;refine .inl ⟨Oo n (D+1) L g (b9 (br g) S S[D] L) P' K' (R++[fX L g (b9 (br g) S S[D] L) S[D]]) U' W' B' s,bs Vy (bT (by simp;omega) (bs e2 (bF rfl rfl))),⟨D+1,_,P',K',_,W',B',s,U',rfl,⟨⟨gG.tr,gG.nd,gG.len,gG.lP,gG.lK,gG.lW,gG.lB,fun r hr=> ?_,gG.s,gG.b,gG.w,gG.p,gG.id⟩,hE.sl,mX DP rM.length_le,fun f hf x hx=> ?_,?_⟩,hU'⟩,?_⟩
    ·rcases eD.1 hr with hr|hr
     ·exact gG.row r hr
     ·rw[fx.1 hr];refine ⟨by simp[fX],fun y hy=> ?_⟩;obtain ⟨x,hx,rfl⟩:=iE.1 hy;exact tv (zm x (ik.1 hx))
    ·rw[htk] at hf;rcases eD.1 hf with hf|hf
     ·exact rM.subset (hE.cl f hf x hx)
     ·rw[fx.1 hf];exact zm x hx
    ·rw[htk,uY,hE.rr];refine congrArg (· ++[_]) (qh fun f hf=>qh fun x hx=> ?_);exact (afe rM (hE.cl f hf x (ik.1 hx))).symm
    ·show 3000-(((D+1:Nat):Int)).toNat<3000-((D:Int)).toNat
     omega
 obtain ⟨r,e2,h2⟩:=key;rcases h2 with ⟨rfl,hm⟩|⟨S,P,K,R,W,B,s,U,rfl,hE⟩
 ·refine ⟨_,afp ?_,.inl ⟨rfl,hm⟩⟩;unfold VU;exact bs e1 (bF rfl (bs e2 rfl))
 ·refine ⟨_,afp ?_,.inr ⟨S,P,K,R,W,B,s,U,rfl,hE⟩⟩;unfold VU;exact bs e1 (bF rfl (bs e2 rfl))
end
noncomputable def It (C:af) (n a t33 t34 t37 ss fL fM:Int) (e9 eR:LV) (t38:Int) (aI:LV) {β:Type} (kn:(Int×LV)→Option β) (kr:(Int×Bool×LV)→Option β):Option β:=
 bif decide (t38<t37) then
  aM aI a fun x1=>
  (idx eR t38).bind fun x2=>
  (idx x2.toList a).bind fun x3=>
  (aI[a.toNat]?).bind fun x4=>
  bif Nat.ble ((x4.toList.length+([V.int .i64 (wrap .i64 (ss+x3.toInt))]:LV).length)*8) aX then
  CQ aI a <|
  bif (Nat.beq (a.toNat) (a.toNat))&&true then
   kn (wrap .i64 (t38+1),bn aI a (.list ab (x4.toList++([V.int .i64 (wrap .i64 (ss+x3.toInt))]:LV))))
  else none
  else none
 else
  kr (t38,decide (t38<t37),aI)
noncomputable def Oq (C:af) (n a t33 t34 t37 ss fL fM:Int) (e9 eR:LV):=un fun t38 aI=>It C n a t33 t34 t37 ss fL fM e9 eR t38 aI (fun y=>some (Sum.inl y)) (fun r=>some (Sum.inr r))
noncomputable def Iu (C:af) (n t33 ss fL fM:Int) (e9 eR:LV) (t34:Int) (aI:LV) {β:Type} (kn:(Int×LV)→Option β) (kr:(Int×Bool×LV)→Option β):Option β:=
 bif decide (t34<t33) then
  (Loop (Oq C n t34 t33 t34 n ss fL fM e9 eR) (0,aI)).bind (un fun kC=>un fun (jz:Bool) (Is:LV)=>
   kn (wrap .i64 (t34+1),Is))
 else
  kr (t34,decide (t34<t33),aI)
noncomputable def Ot (C:af) (n t33 ss fL fM:Int) (e9 eR:LV):=un fun t34 aI=>Iu C n t33 ss fL fM e9 eR t34 aI (fun y=>some (Sum.inl y)) (fun r=>some (Sum.inr r))
noncomputable def afr (C:af):cD:=bI 161 TH [EQ,EQ,EQ,EQ,EQ,H1,EQ,EQ,EQ,EQ,EQ,H1] [[1,2,3,4,5,0,0,7,8,9,10,11,0]] (@It C) (bI 113 TI [EQ,EQ,H1,EQ,EQ,EQ,EQ,EQ,H1] [[1,2,0,0,4,5,6,7,8,0]] (@Iu C) bB)
theorem auk (C:af):bD C (afr C) 54 (Lp [1,1,1,1,0,1,0,0,1,1,0,0,1,1,0,0] 54):=bJ TH [EQ,EQ,EQ,EQ,EQ,H1,EQ,EQ,EQ,EQ,EQ,H1] [[1,2,3,4,5,0,0,7,8,9,10,11,0]] (@It C) (bq au)
theorem aul (C:af):bD C (afr C) 54 (Lp [1,1,1,1,0,1,0,0] 54):=bJ TI [EQ,EQ,H1,EQ,EQ,EQ,EQ,EQ,H1] [[1,2,0,0,4,5,6,7,8,0]] (@Iu C) (bq (bE (auk C) au))
noncomputable def afs (C:af) (uR DQ:Int) (wH Ou:LV) (ss:Int):Option LV:=
 bif decide (((wrap .i64 (ss+(wH.length:Int))):Int)>32) then
  some [V.int .i64 3,V.int .i64 ss,.list ag ([]:LV),.list kQ ([]:LV)]
 else
  bif (decide (0≤uR))&&((decide (uR≤uR))&&(Nat.ble ((uR.toNat)*24) aX)) then
  (Loop (Ot C (wH.length:Int) ((List.replicate (uR.toNat) (V.list ab ([]:LV))).length:Int) ss uR DQ wH Ou) (0,List.replicate (uR.toNat) (V.list ab ([]:LV)))).bind (un fun vD=>un fun (uJ:Bool) (qR:LV)=>
   bif Nat.ble (([.agg [V.int .i64 (wrap .i64 (ss+DQ)),.list ak wH,V.int .i64 ss]]:LV).length*40) aX then
    some [V.int .i64 0,V.int .i64 (wrap .i64 (ss+(wH.length:Int))),.list ag qR,.list kQ ([.agg [V.int .i64 (wrap .i64 (ss+DQ)),.list ak wH,V.int .i64 ss]]:LV)]
   else none)
  else none
theorem aum {uR DQ:Int} {wH Ou:LV} {ss:Int} {r:Option LV} (h:afs CC uR DQ wH Ou ss=r):CC Ml [V.int .i64 uR,V.int .i64 DQ,.list ak wH,.list ag Ou,V.int .i64 ss]=r:=bC (bE (aul CC) au) h
noncomputable def afu (C:af) (Ov:Int) (Ow:LV) (Ox:Int) (f:LV):Option LV:=
 (idx f Ov).bind fun x1=>
 (idx Ow (wrap .i64 (x1.toInt-Ox))).bind fun x2=>
 some [.bool x2.toBool]
theorem aun {Ov:Int} {Ow:LV} {Ox:Int} {f:LV} {r:Option LV} (h:afu CC Ov Ow Ox f=r):CC Mq [V.int .i64 Ov,.list ak Ow,V.int .i64 Ox,.list ab f]=r:=bC (L:=bB) au h
section
variable {a:LV} {i:Nat} {l l':LV}
theorem auo:Tryz.prog.underlying ag=some (.slice ab):=by kernel_rfl
theorem afv:bZ Tryz.prog ag=false:=by kernel_rfl
theorem afw:parts Tryz.prog ag (.list ab l)=[.list ab l]:=by
 unfold parts;rw[afv];simp only[cond_false,gX,auo,V.ez]
theorem qv (h:a[i]? =some (.list ab l)):fc Tryz.prog ag a [(i,0)]=some (.list ab l):=by
 simp only[fc,h,Option.bind_some,afw];rfl
theorem Fh (h:a[i]? =some (.list ab l)):setRow Tryz.prog l' ag a [(i,0)]=a.set i (.list ab l'):=by
 simp only[setRow,h,afw];simp only[List.getElem?_cons_zero,List.set_cons_zero,dz,afv,cond_false,V.L4]
theorem aup:Tryz.prog.underlying ov=some (.slice ak):=by kernel_rfl
theorem afx:bZ Tryz.prog ov=false:=by kernel_rfl
theorem afy:parts Tryz.prog ov (.list ak l)=[.list ak l]:=by
 unfold parts;rw[afx];simp only[cond_false,gX,aup,V.ez]
theorem afz (h:a[i]? =some (.list ak l)):fc Tryz.prog ov a [(i,0)]=some (.list ak l):=by
 simp only[fc,h,Option.bind_some,afy];rfl
theorem auq (h:a[i]? =some (.list ak l)):setRow Tryz.prog l' ov a [(i,0)]=a.set i (.list ak l'):=by
 simp only[setRow,h,afy];simp only[List.getElem?_cons_zero,List.set_cons_zero,dz,afx,cond_false,V.L4]
end
def Da.gT (m:Da) (x:Nat):List Nat:=(List.range m.n).map fun q=>m.nx q x
theorem Da.Ok.gT {m:Da} (h:m.Ok) {x:Nat} (hx:x<m.L):Tr m.n (m.gT x):=by
 refine ⟨by simp[Da.gT],fun y hy=> ?_⟩;obtain ⟨q,hq,rfl⟩:=iE.1 hy;exact h.kR (ik.1 hq) hx
theorem aur {m:Da} {x:Nat}:nS (m.gT x)=tab m.n fun q=>nV (m.nx q x):=by
 unfold Da.gT nS;rw[Bj];rfl
def tx (m:Da):LV:=[.agg [.int .i64 (m.st:Int),.list ak m.cM,.int .i64 0]]
section
variable {m:Da} (h:m.Ok) (mc:m.n≤32)
include h mc
theorem aus {a:Nat} (ha:a<m.L) {k1 k2:Int}:Loop (Oq CC (m.n:Int) (a:Int) k1 k2 (m.n:Int) 0 (m.L:Int) (m.st:Int) m.cM m.cW) (0,tab m.L fun j=>if j<a then tV (m.gT j) else .list ab [])=some ((m.n:Int),false,tab m.L fun j=>if j<a+1 then tV (m.gT j) else .list ab []):=by
 have hl6:=h.l6;have dN: ∀{q:Nat} {l:LV},(tab m.L fun j=>if j<a then tV (m.gT j) else if j=a then .list ab l else .list ab [])[a]? =some (.list ab l):=fun {q l}=>by rw[nG ha,dh,da]
 refine (gz m.n (fun q=>((q:Int),(tab m.L fun j=>if j<a then tV (m.gT j) else if j=a then .list ab (tab q fun p=>nV (m.nx p a)) else .list ab []))) _ (fun q hq=> ?_) ?_) |> fun e=>by
  rw[show (tab m.L fun j=>if j<a then tV (m.gT j) else .list ab [])=tab m.L fun j=>if j<a then tV (m.gT j) else if j=a then .list ab (tab 0 fun p=>nV (m.nx p a)) else .list ab [] from dy fun j _=>by
   by_cases c:j<a
   ·rw[aB c,aB c]
   ·rw[aC c,aC c];split<;>rfl]
  exact e
 ·simp only[Oq,It,un,aM,CQ,bn];have e1:=dN (q:=q) (l:=tab q fun p=>nV (m.nx p a));have e2:a<(tab m.L fun j=>if j<a then tV (m.gT j) else if j=a then .list ab (tab q fun p=>nV (m.nx p a)) else V.list ab []).length:=by simpa using ha
  have xD:=h.kR hq ha;refine bT (bp hq) ((bY e1).trans (bs (Da.Hq hq) ?_));rw[Dz];refine bs (DB ha) (bs (by rw[Int.toNat_natCast];exact e1) (bT (cap (by simp;omega) (by omega)) (bT (oO e2) (bT (by simp) ?_))));rw[bz (by omega),show wrap .i64 (0+(iV (m.nx q a)).toInt)=((m.nx q a:Nat):Int) from by show wrap .i64 (0+((m.nx q a:Nat):Int))=_;rw[qu]<;>omega,Int.toNat_natCast,mn];refine congrArg (fun t=>some (Sum.inl (((q+1:Nat):Int),t))) (dy fun j _=> ?_);by_cases c:j=a
  ·subst c;rw[da,dh,da,V.ez,Dy];rfl
  ·rw[aC c];by_cases c2:j<a
   ·rw[da,da]
   ·rw[dh,aC c,dh,aC c]
 ·simp only[Oq,It,un];refine bF (aV (aw _)) ?_;rw[aV (aw _)];refine congrArg (fun t=>some (Sum.inr ((m.n:Int),false,t))) (dy fun j _=> ?_);by_cases c:j=a
  ·subst c;rw[dh,da,da];unfold tV;rw[aur]
  ·by_cases c2:j<a
   ·rw[da,da]
   ·rw[dh,aC c,dh]
theorem afA:CC Ml (jC m [.int .i64 0])=some [.int .i64 0,.int .i64 (m.n:Int),.list ag (gV m.L m.gT),.list kQ (tx m)]:=by
 have hl6:=h.l6;have hs:=h.s;refine aum ?_;unfold afs;rw[Da.Nu,show wrap .i64 (0+(m.n:Int))=(m.n:Int) from by rw[qu]<;>omega];refine bF (c8 (by omega)) (bT (gB (by omega) (by omega)) ?_);rw[Int.toNat_natCast,wW];have l2:Loop (Ot CC (m.n:Int) (m.L:Int) 0 (m.L:Int) (m.st:Int) m.cM m.cW) (0,List.replicate m.L (V.list ab ([]:LV)))=some ((m.L:Int),false,gV m.L m.gT):=by
  rw[p5];refine (gz m.L (fun a=>((a:Int),(tab m.L fun j=>if j<a then tV (m.gT j) else .list ab []))) _ (fun a ha=> ?_) ?_)
  ·simp only[Ot,Iu,un];refine bT (bp ha) (bs (aus h mc ha) ?_);rw[bz (by omega)];rfl
  ·simp only[Ot,Iu,un];refine bF (aV (aw _)) ?_;rw[aV (aw _)];exact congrArg (fun t=>some (Sum.inr ((m.L:Int),false,t))) (dy fun j hj=>aB hj)
 rw[show wrap .i64 (0+(m.st:Int))=(m.st:Int) from by rw[qu]<;>omega];exact bs l2 rfl
theorem aut {f:List Nat} (hf:Tr m.n f):CC Mq [.int .i64 (m.st:Int),.list ak m.cM,.int .i64 0,.list ab (nS f)]=some [.bool (m.fin (f.getD m.st 0))]:=by
 have hs:=h.s;have vR:m.st<f.length:=by rw[hf.1];exact hs
 have h2:=hf.at vR;refine aun ?_;unfold afu;refine bs (iy vR) ?_;rw[show wrap .i64 ((nV f[m.st]).toInt-0)=((f[m.st]:Nat):Int) from by show wrap .i64 (((f[m.st]:Nat):Int)-0)=_;rw[qu]<;>omega,cP vR];exact bs (Da.DA h2) rfl
end
noncomputable def Iv (C:af) (t t13:LV) (t14 t15:Int) (t24:LV) (t25 t26:Int) {β:Type} (kn:Int→Option β) (kr:((Int) ⊕ (Int×Bool))→Option β):Option β:=
 bif decide (t26<t25) then
  (idx t24 t26).bind fun x2=>
  bif decide ((x2.toInt:Int)<0) then
  kr (.inl 4)
  else
  bif decide ((x2.toInt:Int)≥(t.length:Int)) then
   kr (.inl 4)
  else
   kn (wrap .i64 (t26+1))
 else
  kr (.inr (t26,decide (t26<t25)))
noncomputable def VW (C:af) (t t13:LV) (t14 t15:Int) (t24:LV) (t25:Int):=fun t26=>Iv C t t13 t14 t15 t24 t25 t26 (fun y=>some (Sum.inl y)) (fun r=>some (Sum.inr r))
noncomputable def Iw (C:af) (t t13:LV) (t14 t15:Int) {β:Type} (kn:Int→Option β) (kr:((Int) ⊕ (Int×Bool))→Option β):Option β:=
 bif decide (t15<t14) then
  (idx t13 t15).bind fun x1=>
  bif (x1.toList.length:Int) != (t.length:Int) then
  kr (.inl 4)
  else
  (Loop (VW C t t13 t14 t15 x1.toList (x1.toList.length:Int)) 0).bind (fg (fun jJ=>
   kr (.inl jJ)) (un fun (lx:Int) (kC:Bool)=>
   kn (wrap .i64 (t15+1))))
 else
  kr (.inr (t15,decide (t15<t14)))
noncomputable def VX (C:af) (t t13:LV) (t14:Int):=fun t15=>Iw C t t13 t14 t15 (fun y=>some (Sum.inl y)) (fun r=>some (Sum.inr r))
noncomputable def afB (C:af):cD:=bI 177 Uv [EQ,EQ,EQ,EQ,EQ,EQ,H1] [[0],[1,2,3,4,5,6,0,0]] (@Iv C) (bI 97 Uw [EQ,EQ,EQ,H1] [[0],[1,2,3,0,0]] (@Iw C) bB)
theorem auu (C:af):bD C (afB C) 151 (Lp [1,1,1,0,1,0,0,1,1,0,0,1,1,1,0,0] 151):=bJ Uv [EQ,EQ,EQ,EQ,EQ,EQ,H1] [[0],[1,2,3,4,5,6,0,0]] (@Iv C) (bq au)
theorem auv (C:af):bD C (afB C) 151 (Lp [1,1,1,0,1,0,0] 151):=bJ Uw [EQ,EQ,EQ,H1] [[0],[1,2,3,0,0]] (@Iw C) (bq (bE (auu C) au))
noncomputable def afC (C:af) (t:LV):Option LV:=
 bif decide ((t.length:Int)>400) then
  some [V.int .i64 3]
 else
  bif (t.length:Int)==0 then
  some [V.int .i64 4]
  else
  (Loop (VX C t t (t.length:Int)) 0).bind (fg (fun jz=>
   some [V.int .i64 jz]) (un fun (mL:Int) (vD:Bool)=>
   some [V.int .i64 0]))
theorem auw {t:LV} {r:Option LV} (h:afC CC t=r):CC MB [.list ag t]=r:=bC (bE (auv CC) au) h
noncomputable def Ix (C:af) (t:LV) (g:Int) (row left t16:LV) (t17 t18:Int) (t29:LV) (t30 t31:Int) (t45:LV) (t46:Int) (nO:LV) (t47:Int) {β:Type} (kn:Int→Option β) (kr:((Bool) ⊕ (Int×Bool))→Option β):Option β:=
 bif decide (t47<t46) then
  (idx t45 t47).bind fun x8=>
  (idx left t47).bind fun x9=>
  (idx row x8.toInt).bind fun om=>
  bif (x9.toInt:Int) != om.toInt then
  kr (.inl false)
  else
  kn (wrap .i64 (t47+1))
 else
  kr (.inr (t47,decide (t47<t46)))
noncomputable def VY (C:af) (t:LV) (g:Int) (row left t16:LV) (t17 t18:Int) (t29:LV) (t30 t31:Int) (t45:LV) (t46:Int) (nO:LV):=fun t47=>Ix C t g row left t16 t17 t18 t29 t30 t31 t45 t46 nO t47 (fun y=>some (Sum.inl y)) (fun r=>some (Sum.inr r))
noncomputable def Iy (C:af) (t:LV) (g:Int) (t16:LV) (t17 t18:Int) (t29:LV) (t30:Int) (nO:LV) (t31:Int) {β:Type} (kn:Int→Option β) (kr:((Bool) ⊕ (Int×Bool))→Option β):Option β:=
 bif decide (t31<t30) then
  (idx t29 t31).bind fun x4=>
  (idx x4.toList g).bind fun x5=>
  (idx t x5.toInt).bind fun x6=>
  (idx t g).bind fun x7=>
  (Loop (VY C t g x4.toList x6.toList t16 t17 t18 t29 t30 t31 x7.toList (x7.toList.length:Int) nO) 0).bind (fg (fun (y6:Bool)=>
   kr (.inl y6)) (un fun (Kv:Int) (B6:Bool)=>
   kn (wrap .i64 (t31+1))))
 else
  kr (.inr (t31,decide (t31<t30)))
noncomputable def Oy (C:af) (t:LV) (g:Int) (t16:LV) (t17 t18:Int) (t29:LV) (t30:Int) (nO:LV):=fun t31=>Iy C t g t16 t17 t18 t29 t30 nO t31 (fun y=>some (Sum.inl y)) (fun r=>some (Sum.inr r))
noncomputable def Iz (C:af) (t t16:LV) (t17 t18:Int) (nO:LV) {β:Type} (kn:(Int×LV)→Option β) (kr:((Bool) ⊕ (Int×Bool×LV))→Option β):Option β:=
 bif decide (t18<t17) then
  (idx t16 t18).bind fun x1=>
  bif (decide (0≤x1.toInt))&&(decide (x1.toInt<(nO.length:Int))) then
  (nO[(x1.toInt:Int).toNat]?).bind fun x2=>
  bif x2.toBool then
   kn (wrap .i64 (t18+1),nO)
  else
   bif (decide (0≤x1.toInt))&&(decide (x1.toInt<(nO.length:Int))) then
   (nO[(x1.toInt:Int).toNat]?).bind fun x3=>
   (Loop (Oy C t x1.toInt t16 t17 t18 t (t.length:Int) (bn nO (x1.toInt) (.bool true))) 0).bind (fg (fun (vB:Bool)=>
    kr (.inl vB)) (un fun (Kx:Int) (zf:Bool)=>
    kn (wrap .i64 (t18+1),bn nO (x1.toInt) (.bool true))))
   else none
  else none
 else
  kr (.inr (t18,decide (t18<t17),nO))
noncomputable def Oz (C:af) (t t16:LV) (t17:Int):=un fun t18 nO=>Iz C t t16 t17 t18 nO (fun y=>some (Sum.inl y)) (fun r=>some (Sum.inr r))
noncomputable def VZ (C:af):cD:=bI 193 Ux [EQ,EQ,EQ,EQ,EQ,EQ,EQ,EQ,EQ,EQ,EQ,EQ,H1,EQ] [[0],[1,2,3,4,5,6,7,8,9,10,11,12,0,0,14]] (@Ix C) (bI 129 Uy [EQ,EQ,EQ,EQ,EQ,EQ,EQ,H1,EQ] [[0],[1,2,3,4,5,6,7,0,0,9]] (@Iy C) (bI 49 Uz [EQ,EQ,EQ,H1,H1] [[0],[1,2,3,0,0,0]] (@Iz C) bB))
theorem auy (C:af):bD C (VZ C) 152 (Lp [1,1,0,1,0,0,1,1,0,0,1,1,1,1,0,0,1,1,0,0,1,1,1,0,0] 152):=bJ Ux [EQ,EQ,EQ,EQ,EQ,EQ,EQ,EQ,EQ,EQ,EQ,EQ,H1,EQ] [[0],[1,2,3,4,5,6,7,8,9,10,11,12,0,0,14]] (@Ix C) (bq au)
theorem auz (C:af):bD C (VZ C) 152 (Lp [1,1,0,1,0,0,1,1,0,0,1,1,1,1,0,0] 152):=bJ Uy [EQ,EQ,EQ,EQ,EQ,EQ,EQ,H1,EQ] [[0],[1,2,3,4,5,6,7,0,0,9]] (@Iy C) (bq (bE (auy C) au))
theorem auA (C:af):bD C (VZ C) 152 (Lp [1,1,0,1,0,0] 152):=bJ Uz [EQ,EQ,EQ,H1,H1] [[0],[1,2,3,0,0,0]] (@Iz C) (bq (bE (auz C) au))
noncomputable def afD (C:af) (t mu:LV):Option LV:=
 bif (decide (0≤(t.length:Int)))&&((decide ((t.length:Int)≤(t.length:Int)))&&(Nat.ble (((t.length:Int).toNat)*1) aX)) then
  (Loop (Oz C t mu (mu.length:Int)) (0,List.replicate ((t.length:Int).toNat) (V.bool false))).bind (fg (fun (OA:Bool)=>
   some [.bool OA]) (un fun V0=>un fun (V1:Bool) (azX:LV)=>
   some [.bool true]))
 else none
theorem auB {t mu:LV} {r:Option LV} (h:afD CC t mu=r):CC MC [.list ag t,.list ab mu]=r:=bC (bE (auA CC) au) h
noncomputable def afE (C:af) (x:Int) (aI aQ:LV):Option LV:=
 aM aI x fun x1=>
 bif !x1.toBool then
  aM aI x fun x2=>
  bif Nat.ble ((aQ.length+([V.int .i64 x]:LV).length)*8) aX then
  some [.list ak (bn aI x (.bool true)),.list ab (aQ++([V.int .i64 x]:LV))]
  else none
 else
  some [.list ak aI,.list ab aQ]
theorem auC {x:Int} {aI aQ:LV} {r:Option LV} (h:afE CC x aI aQ=r):CC rR [V.int .i64 x,.list ak aI,.list ab aQ]=r:=bC (L:=bB) au h
noncomputable def IA (C:af) (t:LV) (kW x t17 t18:Int) (t45:LV) (t46:Int) (qf:LV) (t47:Int) (aQ aW:LV) {β:Type} (kn:(Int×LV×LV)→Option β) (kr:(Int×Bool×LV×LV)→Option β):Option β:=
 bif decide (t47<t46) then
  (idx t45 t47).bind fun x4=>
  (idx t x).bind fun x5=>
  (idx x5.toList x4.toInt).bind fun x6=>
  (C rR [V.int .i64 x6.toInt,.list ak aQ,.list ab aW]).bind fun r7=>
  (idx t x4.toInt).bind fun x8=>
  (idx x8.toList x).bind fun x9=>
  (C rR [V.int .i64 x9.toInt,.list ak ((V.nth r7 0).toList),.list ab ((V.nth (r7.drop 1) 0).toList)]).bind fun eZ=>
  kn (wrap .i64 (t47+1),(V.nth eZ 0).toList,(V.nth (eZ.drop 1) 0).toList)
 else
  kr (t47,decide (t47<t46),aQ,aW)
noncomputable def IB (C:af) (t:LV) (kW x t17 t18:Int) (t45:LV) (t46:Int) (qf:LV):=un fun t47=>un fun aQ aW=>IA C t kW x t17 t18 t45 t46 qf t47 aQ aW (fun y=>some (Sum.inl y)) (fun r=>some (Sum.inr r))
noncomputable def OB (C:af) (t:LV) (t17 t18:Int) (qf:LV) (kW:Int) (aQ aW:LV) {β:Type} (kn:(Int×LV×LV)→Option β) (kr:(Int×Bool×LV×LV)→Option β):Option β:=
 bif decide (kW<(aW.length:Int)) then
  aM aW kW fun x3=>
  bif (decide (0≤(wrap .i64 (kW+1))))&&(decide ((wrap .i64 (kW+1))≤(aW.length:Int))) then
  (Loop (IB C t kW x3.toInt t17 t18 ((aW.drop 0).take (((wrap .i64 (kW+1):Int).toNat)-0)) (((wrap .i64 (kW+1):Int).toNat)-0:Int) qf) (0,aQ,aW)).bind (un fun y6=>un fun (Kv:Bool)=>un fun (DC:LV) (pE:LV)=>
   kn (wrap .i64 (kW+1),DC,pE))
  else none
 else
  kr (kW,decide (kW<(aW.length:Int)),aQ,aW)
noncomputable def OC (C:af) (t:LV) (t17 t18:Int) (qf:LV):=un fun kW=>un fun aQ aW=>OB C t t17 t18 qf kW aQ aW (fun y=>some (Sum.inl y)) (fun r=>some (Sum.inr r))
noncomputable def IC (C:af) (t:LV) (t17 kW t18:Int) (qf aQ aW:LV) {β:Type} (kn:(Int×Int×LV×LV×LV)→Option β) (kr:(Int×Int×Bool×LV×LV×LV)→Option β):Option β:=
 bif decide (t18<t17) then
  aM aQ t18 fun x1=>
  bif x1.toBool then
  kn (kW,wrap .i64 (t18+1),qf,aQ,aW)
  else
  bif Nat.ble ((qf.length+([V.int .i64 t18]:LV).length)*8) aX then
   (C rR [V.int .i64 t18,.list ak aQ,.list ab aW]).bind fun r2=>
   (Loop (OC C t t17 t18 (qf++([V.int .i64 t18]:LV))) (kW,(V.nth r2 0).toList,(V.nth (r2.drop 1) 0).toList)).bind (un fun auD=>un fun (zf:Bool)=>un fun (pY:LV) (tq:LV)=>
    kn (auD,wrap .i64 (t18+1),qf++([V.int .i64 t18]:LV),pY,tq))
  else none
 else
  kr (kW,t18,decide (t18<t17),qf,aQ,aW)
noncomputable def OD (C:af) (t:LV) (t17:Int):=un fun kW=>un fun t18=>un fun qf=>un fun aQ aW=>IC C t t17 kW t18 qf aQ aW (fun y=>some (Sum.inl y)) (fun r=>some (Sum.inr r))
noncomputable def V2 (C:af):cD:=bI 241 UA [EQ,EQ,EQ,EQ,EQ,EQ,EQ,H1,EQ,H1,H1] [[1,2,3,4,5,6,7,0,0,9,0,0]] (@IA C) (bI 177 UB [EQ,H1,EQ,EQ,EQ,H1,H1] [[1,0,3,4,0,5,0,0]] (@OB C) (bI 97 UC [EQ,H1,EQ,H1,H1,H1,H1] [[1,0,3,0,0,0,0,0]] (@IC C) bB))
theorem auE (C:af):bD C (V2 C) 153 (Lp [1,1,1,1,1,0,1,0,0,1,1,0,0,1,1,1,1,0,0,1,0,0,1,1,0,0] 153):=bJ UA [EQ,EQ,EQ,EQ,EQ,EQ,EQ,H1,EQ,H1,H1] [[1,2,3,4,5,6,7,0,0,9,0,0]] (@IA C) (bq au)
theorem auF (C:af):bD C (V2 C) 153 (Lp [1,1,1,1,1,0,1,0,0,1,1,0,0,1,1,1,1,0,0] 153):=bJ UB [EQ,H1,EQ,EQ,EQ,H1,H1] [[1,0,3,4,0,5,0,0]] (@OB C) (bq (bE (auE C) au))
theorem auG (C:af):bD C (V2 C) 153 (Lp [1,1,1,1,1,0,1,0,0] 153):=bJ UC [EQ,H1,EQ,H1,H1,H1,H1] [[1,0,3,0,0,0,0,0]] (@IC C) (bq (bE (auF C) au))
noncomputable def afF (C:af) (t:LV):Option LV:=
 bif (decide (0≤(t.length:Int)))&&((decide ((t.length:Int)≤(t.length:Int)))&&(Nat.ble (((t.length:Int).toNat)*1) aX)) then
  (Loop (OD C t (t.length:Int)) (0,0,([]:LV),List.replicate ((t.length:Int).toNat) (V.bool false),([]:LV))).bind (un fun azY=>un fun Qo=>un fun (auH:Bool)=>un fun (auI:LV)=>un fun (rY:LV) (sL:LV)=>
   some [.list ab auI])
 else none
theorem auJ {t:LV} {r:Option LV} (h:afF CC t=r):CC MD [.list ag t]=r:=bC (bE (auG CC) au) h
noncomputable def afG (C:af) (t:LV):Option LV:=
 (C MB [.list ag t]).bind fun r1=>
 bif (((V.nth r1 0).toInt):Int) != 0 then
  some [V.int .i64 ((V.nth r1 0).toInt)]
 else
  (C MD [.list ag t]).bind fun r2=>
  (C MC [.list ag t,.list ab ((V.nth r2 0).toList)]).bind fun r3=>
  bif !((V.nth r3 0).toBool) then
  some [V.int .i64 5]
  else
  some [V.int .i64 0]
theorem auK {t:LV} {r:Option LV} (h:afG CC t=r):CC Gx [.list ag t]=r:=bC (L:=bB) au h
noncomputable def afH (C:af) (t:LV):Option LV:=
 (C Gx [.list ag t]).bind fun r1=>
 some [.bool ((((V.nth r1 0).toInt):Int)==0)]
theorem auL {t:LV} {r:Option LV} (h:afH CC t=r):CC ME [.list ag t]=r:=bC (L:=bB) au h
theorem o0 {n i:Nat} {g:Nat→V} (hi:i<n):idx (V.list ab (tab n g)).toList (i:Int)=some (g i):=by rw[V.ez];exact qT hi
def tG (K:Nat) (mul:Nat→Nat→Nat):LV:=tab K fun i=> .list ab (tab K fun j=>nV (mul i j))
structure Tb (K:Nat) (mul:Nat→Nat→Nat):Prop where
 k1:1≤K
 k4:K≤400
 lt: ∀i j,i<K→j<K→mul i j<K
def jK (K:Nat) (M:List Nat):LV:=tab K fun i=> .bool (decide (i∈M))
structure nw (K:Nat) (M:List Nat):Prop where
 nd:M.Nodup
 lt: ∀x∈M,x<K
theorem nw.le {K:Nat} {M:List Nat} (h:nw K M):M.length≤K:=by
 have:=Bm (l₂:=List.range K) h.nd fun x hx=>ik.2 (h.lt x hx);simpa using this
theorem nw.add {K:Nat} {M:List Nat} (h:nw K M) {x:Nat} (hx:x<K):nw K (cJ M x):=⟨US h.nd,fun y hy=>by
 unfold cJ at hy;split at hy
 ·exact h.lt y hy
 ·rcases eD.1 hy with hy|hy
  ·exact h.lt y hy
  ·rw[fx.1 hy];exact hx⟩
theorem V3 {M:List Nat} {x y:Nat}:y∈cJ M x↔y∈M∨y=x:=by
 unfold cJ;split
 ·exact ⟨.inl,fun h=>h.elim id fun e=>by rw[e];assumption⟩
 ·rw[eD,fx]
theorem auM {K:Nat} {M:List Nat} {x:Nat} (h:x∉M):(jK K M).set x (.bool true)=jK K (cJ M x):=by
 unfold jK;rw[mn];refine dy fun j _=> ?_;by_cases c:j=x
 ·rw[aB c,cq (V3.2 (.inr c))]
 ·rw[aC c];by_cases c2:j∈M
  ·rw[cq c2,cq (V3.2 (.inl c2))]
  ·rw[c8 c2,c8 fun h=>(V3.1 h).elim c2 c]
section
variable {K:Nat} {mul:Nat→Nat→Nat} (h:Tb K mul)
theorem sa:(tG K mul).length=K:=fT
theorem mV {i:Nat} (hi:i<K):idx (tG K mul) (i:Int)=some (.list ab (tab K fun j=>nV (mul i j))):=qT hi
include h
theorem auN:CC MB [.list ag (tG K mul)]=some [.int .i64 0]:=by
 have h1:=h.k1;have h4:=h.k4;refine auw ?_;unfold afC;rw[sa];refine bF (c8 (by omega)) (bF (by simp;omega) (bs (gz K (fun i=>(i:Int)) (.inr ((K:Int),false)) (fun i hi=> ?_) ?_) rfl))
 ·simp only[VX,Iw];refine bT (bp hi) (bs (mV hi) ?_);rw[V.ez,fT,sa];refine bF (by simp) (bs (gz K (fun j=>(j:Int)) (.inr ((K:Int),false)) (fun j hj=> ?_) ?_) ?_)
  ·simp only[VW,Iv];rw[sa];refine bT (bp hj) (bs (qT hj) (bF yl (bF (DM (h.lt i j hi hj)) ?_)));rw[bz (by omega)]
  ·simp only[VW,Iv];rw[aV (aw _)];rfl
  ·rw[bz (by omega)];rfl
 ·simp only[VX,Iw];rw[aV (aw _)];rfl
omit h in
theorem ID {M:List Nat} {x:Nat} (hx:x<K):(jK K M)[x]? =some (.bool (decide (x∈M))):=nG hx
omit h in
theorem V4 {M:List Nat} (hM:nw K M) (h4:K≤400) {x:Nat} (hx:x<K):CC rR [.int .i64 (x:Int),.list ak (jK K M),.list ab (nS M)]=some [.list ak (jK K (cJ M x)),.list ab (nS (cJ M x))]:=by
 have hl:=hM.le;refine auC ?_;unfold afE;by_cases c:x∈M
 ·refine (bY (ID hx)).trans (bF (by simp[c]) ?_)
  rw[show cJ M x=M by rw[cJ,aB c]]
 ·refine (bY (ID hx)).trans (bT (by simp[c]) ((bY (ID hx)).trans (bT (cap (by rw[dC];simp;omega) (by omega)) ?_)))
  rw[show bn (jK K M) (x:Int) (.bool true)=jK K (cJ M x) from auM c,show cJ M x=M++[x] by rw[cJ,aC c]];simp[nS,nV]
theorem auO: ∃G:List Nat,CC MD [.list ag (tG K mul)]=some [.list ab (nS G)]∧(∀g∈G,g<K)∧G.length≤K:=by
 have h1:=h.k1;have h4:=h.k4;have l1: ∀{M0:List Nat} {k x:Nat} {a b c:Int} {d:LV},nw K M0→k<M0.length→x<K→∃M,nw K M∧M0 <+: M∧Loop (IB CC (tG K mul) a (x:Int) b c (((nS M0).drop 0).take ((((k+1:Nat):Int)).toNat-0)) ((((((k+1:Nat):Int)).toNat)-0:Int)) d) (0,jK K M0,nS M0)=some (((k+1:Nat):Int),false,jK K M,nS M):=by
  intro M0 k x a b c d IE hk hx;have hle:=IE.le;rw[Int.toNat_natCast,Nat.sub_zero,wQ,Int.sub_zero,show (nS M0).take (k+1)=nS (M0.take (k+1)) by simp[nS,List.map_take]];have key:=jB (step:=IB CC (tG K mul) a (x:Int) b c (nS (M0.take (k+1))) ((k+1:Nat):Int) d) (fun i y=> ∃M,y=((i:Int),jK K M,nS M)∧nw K M∧M0 <+: M) (fun r=> ∃M,r=(((k+1:Nat):Int),false,jK K M,nS M)∧nw K M∧M0 <+: M) (k+1) 0 (0,jK K M0,nS M0) (fun i _ hi y hy=> ?_) (fun y hy=> ?_) ⟨M0,rfl,IE,si _⟩
  ·obtain ⟨r,e,M,rfl,hM,hp⟩:=key;exact ⟨M,hM,hp,e⟩
  ·obtain ⟨M,rfl,hM,hp⟩:=hy;have bu:i<(M0.take (k+1)).length:=by rw[nc];omega
   have zD:(M0.take (k+1))[i]<K:=IE.lt _ (List.mem_of_mem_take (dr bu));have a1:=h.lt _ _ hx zD;have a2:=h.lt _ _ zD hx;simp only[IB,IA,un];refine ⟨_,bT (bp (by omega)) (bs (iy bu) (bs (mV hx) (bs (o0 zD) (bs (V4 hM h4 a1) (bs (mV zD) (bs (o0 hx) (bs (V4 (hM.add a1) h4 a2) rfl))))))),_,?_,(hM.add a1).add a2,hp.trans ((Aj _ _).trans (Aj _ _))⟩;rw[bz (by omega)];rfl
  ·obtain ⟨M,rfl,hM,hp⟩:=hy;simp only[IB,IA,un];refine ⟨_,bF (aV (by omega)) rfl,M,?_,hM,hp⟩;rw[aV (by omega),dq]
 have l2: ∀{M0:List Nat} {k:Nat} {a b:Int} {d:LV},nw K M0→k≤M0.length→∃k' M,nw K M∧k'≤M.length∧M0 <+: M∧Loop (OC CC (tG K mul) a b d) ((k:Int),jK K M0,nS M0)=some ((k':Int),false,jK K M,nS M):=by
  intro M0 k a b d IE hk;have key:=L5 (step:=OC CC (tG K mul) a b d) (fun y=> ∃(k:Nat) (M:List Nat),y=((k:Int),jK K M,nS M)∧nw K M∧k≤M.length∧M0 <+: M) (fun y=>1000-y.1.toNat) (fun r=> ∃(k:Nat) (M:List Nat),r=((k:Int),false,jK K M,nS M)∧nw K M∧k≤M.length∧M0 <+: M) (fun y hy=> ?_) ((k:Int),jK K M0,nS M0) ⟨k,M0,rfl,IE,hk,si _⟩
  ·obtain ⟨r,e,k',M,rfl,hM,eo,hp⟩:=key;exact ⟨k',M,hM,eo,hp,e⟩
  ·obtain ⟨k,M,rfl,hM,hk,hp⟩:=hy;have hle:=hM.le;simp only[OC,OB,un,aM];rw[dC];by_cases c:k<M.length
   ·obtain ⟨M',V5,hp',e⟩:=l1 (a:=(k:Int)) (b:=a) (c:=b) (d:=d) hM c (hM.lt _ (dr c));refine .inl ⟨((k+1:Nat),jK K M',nS M'),bT (bp c) ?_,⟨k+1,M',rfl,V5,by have:=hp'.length_le;omega,hp.trans hp'⟩,by simp only;omega⟩;refine ((congrArg (fun n:Nat=>bif decide (0≤(k:Int))&&decide ((k:Int)<(n:Int)) then _ else none) dC.symm)).trans ((bY (xx c)).trans ?_)
    rw[bz (by omega)];exact bT (ki.2 ⟨cq (by omega),cq (by omega)⟩) (bs e rfl)
   ·refine .inr ⟨_,bF (aV (by omega)) rfl,k,M,?_,hM,hk,hp⟩;rw[aV (by omega)]
 have key:=jB (step:=OD CC (tG K mul) (K:Int)) (fun i y=> ∃(k:Nat) (G M:List Nat),y=((k:Int),(i:Int),nS G,jK K M,nS M)∧nw K M∧k≤M.length∧(∀g∈G,g<K)∧G.length≤i) (fun r=> ∃(k:Nat) (G M:List Nat),r=((k:Int),(K:Int),false,nS G,jK K M,nS M)∧(∀g∈G,g<K)∧G.length≤K) K 0 (0,0,[],jK K [],[]) (fun i _ hi y hy=> ?_) (fun y hy=> ?_) ⟨0,[],[],rfl,⟨by simp,fun x hx=>(by cases hx)⟩,aw _,fun g hg=>(by cases hg),aw _⟩
 ·obtain ⟨r,e,k,G,M,rfl,hG,OE⟩:=key;refine ⟨G,auJ ?_,hG,OE⟩;unfold afF;rw[sa];refine bT (gB (by omega) (by omega)) ?_;rw[Int.toNat_natCast,p5,show (tab K fun _=>V.bool false)=jK K [] from dy fun j _=>by simp];exact bs e rfl
 ·obtain ⟨k,G,M,rfl,hM,hk,hG,OE⟩:=hy;have yk:i<K:=by omega
  simp only[OD,IC,un,aM];by_cases c:i∈M
  ·refine ⟨_,bT (bp yk) ((bY (ID yk)).trans (bT (by simp[c]) rfl)),k,G,M,?_,hM,hk,hG,by omega⟩;rw[bz (by omega)]
  ·obtain ⟨k',M',V5,eo,_,e⟩:=l2 (k:=k) (a:=(K:Int)) (b:=(i:Int)) (d:=nS (G++[i])) (hM.add yk) (by have:=(Aj M i).length_le;omega);have L3:nS G++[V.int .i64 (i:Int)]=nS (G++[i]):=by simp[nS,nV]
   refine ⟨((k':Int),((i+1:Nat):Int),nS (G++[i]),jK K M',nS M'),bT (bp yk) ((bY (ID yk)).trans (bF (by simp[c]) (bT (cap (by rw[dC];simp;omega) (by omega)) (bs (V4 hM h4 yk) ?_)))),k',G++[i],M',rfl,V5,eo,fun g hg=> ?_,by simp;omega⟩
   ·rw[L3];refine bs e ?_;rw[bz (by omega)];rfl
   ·rcases eD.1 hg with hg|hg
    ·exact hG g hg
    ·rw[fx.1 hg];exact yk
 ·obtain ⟨k,G,M,rfl,hM,hk,hG,OE⟩:=hy;rw[dq] at*
  simp only[OD,IC,un,aM];refine ⟨_,bF (aV (aw _)) rfl,k,G,M,?_,hG,OE⟩;rw[aV (aw _)]
section
variable (ha: ∀i j k,i<K→j<K→k<K→mul (mul i j) k=mul i (mul j k))
include ha
theorem auP {G:List Nat} (hG: ∀g∈G,g<K) (hl:G.length≤K):CC MC [.list ag (tG K mul),.list ab (nS G)]=some [.bool true]:=by
 have h4:=h.k4;have l2: ∀{g:Nat} {a b:Int} {c d:LV},g<K→Loop (Oy CC (tG K mul) (g:Int) c a b (tG K mul) (K:Int) d) 0=some (.inr ((K:Int),false)):=by
  intro g a b c d hg;refine gz K (fun x=>(x:Int)) _ (fun x hx=> ?_) ?_
  ·have h1:=h.lt _ _ hx hg;simp only[Oy,Iy];refine bT (bp hx) (bs (mV hx) (bs (o0 hg) (bs (mV h1) (bs (mV hg) ?_))));rw[V.ez,V.ez,V.ez,fT];refine bs (gz K (fun y=>(y:Int)) (.inr ((K:Int),false)) (fun y hy=> ?_) ?_) ?_
   ·simp only[VY,Ix];refine bT (bp hy) (bs (qT hy) (bs (qT hy) (bs (qT (h.lt _ _ hg hy)) (bF ?_ ?_))))
    ·show (((mul (mul x g) y:Nat):Int) != ((mul x (mul g y):Nat):Int))=false;rw[ha _ _ _ hx hg hy];simp
    ·rw[bz (by omega)]
   ·simp only[VY,Ix];rw[aV (aw _)];rfl
   ·rw[bz (by omega)];rfl
  ·simp only[Oy,Iy];rw[aV (aw _)];rfl
 refine auB ?_;unfold afD;rw[sa,dC];refine bT (gB (by omega) (by omega)) ?_;rw[Int.toNat_natCast];have key:=jB (step:=Oz CC (tG K mul) (nS G) (G.length:Int)) (fun i y=> ∃b:LV,y=((i:Int),b)∧b.length=K∧∀v∈b,∃c,v= .bool c) (fun r=> ∃b:LV,r= .inr ((G.length:Int),false,b)) G.length 0 (0,List.replicate K (V.bool false)) (fun i _ hi y hy=> ?_) (fun y hy=> ?_) ⟨_,rfl,by simp,fun v hv=>⟨false,(List.mem_replicate.1 hv).2⟩⟩
 ·obtain ⟨r,e,b,rfl⟩:=key;exact bs e rfl
 ·obtain ⟨b,rfl,hb,hv⟩:=hy;have bu:i<G.length:=by omega
  have hg:=hG _ (dr bu);have V6:G[i]<b.length:=by omega
  obtain ⟨c,hc⟩:=hv _ (dr V6);simp only[Oz,Iz,un];have e0:b[((nV G[i]).toInt).toNat]? =some (.bool c):=by
   show b[G[i]]? =_;rw[bU V6,hc]
  have e1:((decide (0≤(nV G[i]).toInt))&&(decide ((nV G[i]).toInt<(b.length:Int))))=true:=oO V6;cases c with
  | true=>
   refine ⟨_,bT (bp bu) (bs (iy bu) (bT e1 (bs e0 (bT rfl rfl)))),b,?_,hb,hv⟩;rw[bz (by omega)]
  | false=>
   refine ⟨(((i+1:Nat):Int),b.set G[i] (.bool true)),bT (bp bu) (bs (iy bu) (bT e1 (bs e0 (bF rfl (bT e1 (bs e0 ?_)))))),_,rfl,by simp[hb],fun v nj=> ?_⟩
   ·rw[sa];refine bs (l2 hg) ?_;rw[bz (by omega)];rfl
   ·rcases D9 nj with nj|nj
    ·exact hv v nj
    ·exact ⟨true,nj⟩
 ·obtain ⟨b,rfl,hb,hv⟩:=hy;simp only[Oz,Iz,un];refine ⟨_,bF (aV (by omega)) rfl,b,?_⟩;rw[aV (by omega),dq]
theorem V7:CC Gx [.list ag (tG K mul)]=some [.int .i64 0]:=by
 obtain ⟨G,e,hG,hl⟩:=auO h;refine auK ?_;unfold afG;exact bs (auN h) (bF rfl (bs e (bs (auP h ha hG hl) (bF rfl rfl))))
theorem auQ:CC ME [.list ag (tG K mul)]=some [.bool true]:=by
 refine auL ?_;unfold afH;exact bs (V7 h ha) rfl
end
end
noncomputable def DR (C:af) (table:LV) (x n e:Int) {β:Type} (kn:Int→Option β) (kr:(Int×Bool)→Option β):Option β:=
 (idx table e).bind fun x1=>
 (idx x1.toList e).bind fun x2=>
 bif (x2.toInt:Int) != e then
  (idx table e).bind fun x3=>
  (idx x3.toList x).bind fun x4=>
  kn x4.toInt
 else
  kr (e,(x2.toInt:Int) != e)
noncomputable def DS (C:af) (table:LV) (x n:Int):=fun e=>DR C table x n e (fun y=>some (Sum.inl y)) (fun r=>some (Sum.inr r))
noncomputable def V8 (C:af) (table:LV) (e g y:Int) {β:Type} (kn:Int→Option β) (kr:(Int×Bool)→Option β):Option β:=
 (idx table y).bind fun x9=>
 (idx x9.toList g).bind fun om=>
 bif (om.toInt:Int) != e then
  (idx table y).bind fun p6=>
  (idx p6.toList g).bind fun kU=>
  kn kU.toInt
 else
  kr (y,(om.toInt:Int) != e)
noncomputable def auR (C:af) (table:LV) (e g:Int):=fun y=>V8 C table e g y (fun y=>some (Sum.inl y)) (fun r=>some (Sum.inr r))
noncomputable def IF (C:af) (table:LV) (x t54 y t55:Int) {β:Type} (kn:(Int×Int)→Option β) (kr:(Int×Int×Bool)→Option β):Option β:=
 bif decide (t55<t54) then
  (idx table y).bind fun KE=>
  (idx KE.toList x).bind fun KF=>
  kn (KF.toInt,wrap .i64 (t55+1))
 else
  kr (y,t55,decide (t55<t54))
noncomputable def IG (C:af) (table:LV) (x t54:Int):=un fun y t55=>IF C table x t54 y t55 (fun y=>some (Sum.inl y)) (fun r=>some (Sum.inr r))
noncomputable def V9 (C:af):cD:=bI 33 UG [EQ,EQ,EQ,H1] [[1,2,3,0,0]] (@DR C) (bI 113 UH [EQ,EQ,H1,EQ] [[1,2,0,4,0]] (@V8 C) (bI 177 UI [EQ,EQ,H1,EQ,H1] [[1,2,0,4,0,0]] (@IF C) bB))
theorem auS (C:af):bD C (V9 C) 162 (Lp [1,1,0,0,0] 162):=bJ UG [EQ,EQ,EQ,H1] [[1,2,3,0,0]] (@DR C) (bq au)
theorem auT (C:af):bD C (V9 C) 162 (Lp [1,1,1,1,0,1,0,1,0,0,0] 162):=bJ UH [EQ,EQ,H1,EQ] [[1,2,0,4,0]] (@V8 C) (bq au)
theorem auU (C:af):bD C (V9 C) 162 (Lp [1,1,1,1,1,0,1,0,0] 162):=bJ UI [EQ,EQ,H1,EQ,H1] [[1,2,0,4,0,0]] (@IF C) (bq au)
noncomputable def afI (C:af) (table:LV) (x n:Int):Option LV:=
 (Loop (DS C table x n) x).bind (un fun (wI:Int) (jz:Bool)=>
  bif decide (n<0) then
   (idx table wI).bind fun x7=>
   (idx x7.toList x).bind fun x8=>
   (Loop (auR C table wI x8.toInt) wI).bind (un fun (auV:Int) (vB:Bool)=>
    some [V.int .i64 auV])
  else
   (Loop (IG C table x n) (wI,0)).bind (un fun auW=>un fun (V0:Int) (V1:Bool)=>
    some [V.int .i64 auW]))
theorem auX {table:LV} {x n:Int} {r:Option LV} (h:afI CC table x n=r):CC GH [.list ag table,V.int .i64 x,V.int .i64 n]=r:=bC (bE (auS CC) (bE (auT CC) (bE (auU CC) au))) h
def pw (mul:Nat→Nat→Nat) (x:Nat):Nat→Nat
 | 0=>x
 | k+1=>mul (pw mul x k) x
theorem auY {K:Nat} {f:Nat→Nat} (h: ∀i,f i<K): ∃i j,i<j∧f i=f j:=by
 refine Classical.byContradiction fun hn=> ?_;have bN: ∀i j,i<j→f i≠f j:=fun i j Lj e=>hn ⟨i,j,Lj,e⟩;have hd:((List.range (K+1)).map f).Nodup:=by
  refine List.pairwise_map.2 (List.nodup_range.imp_of_mem fun {a b} _ _ BT e=> ?_);rcases Nat.lt_or_gt_of_ne BT with c|c
  ·exact bN a b c e
  ·exact bN b a c e.symm
 have:=Bm (l₂:=List.range K) hd fun x hx=>by
  obtain ⟨i,_,rfl⟩:=iE.1 hx;exact ik.2 (h i)
 simp at this;omega
section
variable {K:Nat} {mul:Nat→Nat→Nat} (h:Tb K mul) (ha: ∀i j k,i<K→j<K→k<K→mul (mul i j) k=mul i (mul j k)) {x:Nat} (hx:x<K)
include h hx
theorem DT: ∀k,pw mul x k<K
 | 0=>hx
 | k+1=>h.lt _ _ (DT k) hx
include ha
theorem afJ (m:Nat): ∀n,mul (pw mul x m) (pw mul x n)=pw mul x (m+n+1)
 | 0=>rfl
 | n+1=>by
  show mul (pw mul x m) (mul (pw mul x n) x)=mul (pw mul x (m+n+1)) x;rw[←ha _ _ _ (DT h hx m) (DT h hx n) hx,afJ m n]
theorem auZ: ∃k,mul (pw mul x k) (pw mul x k)=pw mul x k:=by
 obtain ⟨i,j,Lj,e⟩:=auY (DT h hx);have step: ∀n,pw mul x (i+n)=pw mul x (j+n):=fun n=>by
  induction n with
  | zero=>exact e
  | succ n ih=>exact congrArg (fun y=>mul y x) ih
 have per: ∀c m,i≤m→pw mul x (m+(j-i)*c)=pw mul x m:=fun c=>by
  induction c with
  | zero=>intro m _;rw[Nat.mul_zero,Nat.add_zero]
  | succ c ih=>
   intro m hm;have h1:=step (m-i);rw[show i+(m-i)=m by omega,show j+(m-i)=m+(j-i) by omega] at h1;rw[h1,←ih (m+(j-i)) (by omega),Nat.mul_succ,yv,Nat.add_comm (j-i)]
 have hp:0<(j-i)*(i+1):=Nat.mul_pos (by omega) (by omega);have qA:i+1≤(j-i)*(i+1):=Nat.le_mul_of_pos_left _ (by omega);refine ⟨(j-i)*(i+1)-1,?_⟩;rw[afJ h ha hx,show (j-i)*(i+1)-1+((j-i)*(i+1)-1)+1=((j-i)*(i+1)-1)+(j-i)*(i+1) by omega];exact per (i+1) _ (by omega)
theorem au0 {n:Nat} (hn:n≤100): ∃y,y<K∧CC GH [.list ag (tG K mul),.int .i64 (x:Int),.int .i64 (n:Int)]=some [.int .i64 (y:Int)]:=by
 have h4:=h.k4;have l1: ∃e,e<K∧Loop (DS CC (tG K mul) (x:Int) (n:Int)) (x:Int)=some ((e:Int),false):=by
  obtain ⟨k,hk⟩:=auZ h ha hx;have key: ∀d i,i+d=k→∃e,e<K∧Loop (DS CC (tG K mul) (x:Int) (n:Int)) ((pw mul x i:Nat):Int)=some ((e:Int),false):=by
   intro d
   induction d with
   | zero=>
    intro i hi;obtain rfl:i=k:=by omega
    have hl:=DT h hx i;refine ⟨pw mul x i,hl,jY ?_⟩;simp only[DS,DR];refine bs (mV hl) (bs (o0 hl) (bF ?_ ?_))
    ·show (((mul (pw mul x i) (pw mul x i):Nat):Int) != ((pw mul x i:Nat):Int))=false;rw[hk];simp
    ·show some (Sum.inr (((pw mul x i:Nat):Int),((mul (pw mul x i) (pw mul x i):Nat):Int) != ((pw mul x i:Nat):Int)))=_;rw[hk];simp
   | succ d ih=>
    intro i hi;have hl:=DT h hx i;by_cases c:mul (pw mul x i) (pw mul x i)=pw mul x i
    ·refine ⟨pw mul x i,hl,jY ?_⟩;simp only[DS,DR];refine bs (mV hl) (bs (o0 hl) (bF ?_ ?_))
     ·show (((mul (pw mul x i) (pw mul x i):Nat):Int) != ((pw mul x i:Nat):Int))=false;rw[c];simp
     ·show some (Sum.inr (((pw mul x i:Nat):Int),((mul (pw mul x i) (pw mul x i):Nat):Int) != ((pw mul x i:Nat):Int)))=_;rw[c];simp
    ·obtain ⟨e,he,h2⟩:=ih (i+1) (by omega);refine ⟨e,he,(iS ?_).trans h2⟩;simp only[DS,DR];refine bs (mV hl) (bs (o0 hl) (bT ?_ (bs (mV hl) (bs (o0 hx) rfl))));show (((mul (pw mul x i) (pw mul x i):Nat):Int) != ((pw mul x i:Nat):Int))=true;rw[bne_iff_ne];exact fun e=>c (by exact_mod_cast e)
  exact key k 0 (dq _)
 obtain ⟨e,he,e1⟩:=l1;have l3: ∃y,y<K∧Loop (IG CC (tG K mul) (x:Int) (n:Int)) ((e:Int),0)=some ((y:Int),(n:Int),false):=by
  have key:=jB (step:=IG CC (tG K mul) (x:Int) (n:Int)) (fun i s=> ∃y:Nat,y<K∧s=((y:Int),(i:Int))) (fun r=> ∃y:Nat,y<K∧r=((y:Int),(n:Int),false)) n 0 ((e:Int),0) (fun i _ hi s hs=> ?_) (fun s hs=> ?_) ⟨e,he,rfl⟩
  ·obtain ⟨r,e2,y,hy,rfl⟩:=key;exact ⟨y,hy,e2⟩
  ·obtain ⟨y,hy,rfl⟩:=hs;simp only[IG,IF,un];refine ⟨_,bT (bp (by omega)) (bs (mV hy) (bs (o0 hx) rfl)),mul y x,h.lt _ _ hy hx,?_⟩;rw[bz (by omega)];rfl
  ·obtain ⟨y,hy,rfl⟩:=hs;rw[dq] at*
   simp only[IG,IF,un];refine ⟨_,bF (aV (aw _)) rfl,y,hy,?_⟩;rw[aV (aw _)]
 obtain ⟨y,hy,e3⟩:=l3;refine ⟨y,hy,auX ?_⟩;unfold afI;refine bs e1 ?_;simp only[un];refine bF yl ?_;exact bs e3 rfl
end
noncomputable def IH (C:af) (table t18:LV) (t19 t20:Int) (t24:LV) (t25 t26 t48:Int) (fL:LV) (fM:Int) (e9 eR gH gI iz iA iB iC gO gP gQ:LV) (iu dA t49:Int) (lists:LV) {β:Type} (kn:(Int×LV)→Option β) (kr:(Int×Bool×LV)→Option β):Option β:=
 bif decide (t49<t48) then
  (C GH [.list ag table,V.int .i64 t49,V.int .i64 dA]).bind fun r3=>
  aM lists t49 fun x4=>
  kn (wrap .i64 (t49+1),bn lists t49 (V.int .i64 ((V.nth r3 0).toInt)))
 else
  kr (t49,decide (t49<t48),lists)
noncomputable def OF (C:af) (table t18:LV) (t19 t20:Int) (t24:LV) (t25 t26 t48:Int) (fL:LV) (fM:Int) (e9 eR gH gI iz iA iB iC gO gP gQ:LV) (iu dA:Int):=un fun t49 lists=>IH C table t18 t19 t20 t24 t25 t26 t48 fL fM e9 eR gH gI iz iA iB iC gO gP gQ iu dA t49 lists (fun y=>some (Sum.inl y)) (fun r=>some (Sum.inr r))
noncomputable def II (C:af) (table t18:LV) (t19 t20:Int) (t24:LV) (t25:Int) (fL:LV) (fM t26:Int) (e9 eR gH gI iz iA iB iC gO gP gQ:LV) {β:Type} (kn:(Int×LV×LV×LV×LV×LV×LV×LV×LV×LV×LV×LV)→Option β) (kr:(Int×Bool×LV×LV×LV×LV×LV×LV×LV×LV×LV×LV×LV)→Option β):Option β:=
 bif decide (t26<t25) then
  (idx t24 t26).bind fun x2=>
  bif (((x2.cell 0).toInt):Int) != 3 then
  kn (wrap .i64 (t26+1),e9,eR,gH,gI,iz,iA,iB,iC,gO,gP,gQ)
  else
  bif (decide (0≤(wrap .i64 (((x2.cell 1).toInt)+1))))&&(decide ((wrap .i64 (((x2.cell 1).toInt)+1))<11)) then
   bif (Nat.beq (2+(((wrap .i64 (((x2.cell 1).toInt)+1):Int).toNat)*1)) 2||(Nat.beq (2+(((wrap .i64 (((x2.cell 1).toInt)+1):Int).toNat)*1)) 3||(Nat.beq (2+(((wrap .i64 (((x2.cell 1).toInt)+1):Int).toNat)*1)) 4||(Nat.beq (2+(((wrap .i64 (((x2.cell 1).toInt)+1):Int).toNat)*1)) 5||(Nat.beq (2+(((wrap .i64 (((x2.cell 1).toInt)+1):Int).toNat)*1)) 6||(Nat.beq (2+(((wrap .i64 (((x2.cell 1).toInt)+1):Int).toNat)*1)) 7||(Nat.beq (2+(((wrap .i64 (((x2.cell 1).toInt)+1):Int).toNat)*1)) 8||(Nat.beq (2+(((wrap .i64 (((x2.cell 1).toInt)+1):Int).toNat)*1)) 9||(Nat.beq (2+(((wrap .i64 (((x2.cell 1).toInt)+1):Int).toNat)*1)) 10||(Nat.beq (2+(((wrap .i64 (((x2.cell 1).toInt)+1):Int).toNat)*1)) 11||(Nat.beq (2+(((wrap .i64 (((x2.cell 1).toInt)+1):Int).toNat)*1)) 12||false))))))))))) then
   bif !(Nat.beq (bif Nat.beq (2+(((wrap .i64 (((x2.cell 1).toInt)+1):Int).toNat)*1)) 2 then e9 else (bif Nat.beq (2+(((wrap .i64 (((x2.cell 1).toInt)+1):Int).toNat)*1)) 3 then eR else (bif Nat.beq (2+(((wrap .i64 (((x2.cell 1).toInt)+1):Int).toNat)*1)) 4 then gH else (bif Nat.beq (2+(((wrap .i64 (((x2.cell 1).toInt)+1):Int).toNat)*1)) 5 then gI else (bif Nat.beq (2+(((wrap .i64 (((x2.cell 1).toInt)+1):Int).toNat)*1)) 6 then iz else (bif Nat.beq (2+(((wrap .i64 (((x2.cell 1).toInt)+1):Int).toNat)*1)) 7 then iA else (bif Nat.beq (2+(((wrap .i64 (((x2.cell 1).toInt)+1):Int).toNat)*1)) 8 then iB else (bif Nat.beq (2+(((wrap .i64 (((x2.cell 1).toInt)+1):Int).toNat)*1)) 9 then iC else (bif Nat.beq (2+(((wrap .i64 (((x2.cell 1).toInt)+1):Int).toNat)*1)) 10 then gO else (bif Nat.beq (2+(((wrap .i64 (((x2.cell 1).toInt)+1):Int).toNat)*1)) 11 then gP else (bif Nat.beq (2+(((wrap .i64 (((x2.cell 1).toInt)+1):Int).toNat)*1)) 12 then gQ else ([]:LV)))))))))))).length 0) then
    kn (wrap .i64 (t26+1),e9,eR,gH,gI,iz,iA,iB,iC,gO,gP,gQ)
   else
    bif (decide (0≤(table.length:Int)))&&((decide ((table.length:Int)≤(table.length:Int)))&&(Nat.ble (((table.length:Int).toNat)*8) aX)) then
    (Loop (OF C table t18 t19 t20 t24 t25 t26 ((List.replicate ((table.length:Int).toNat) (V.int .i64 0)).length:Int) fL fM e9 eR gH gI iz iA iB iC gO gP gQ ((x2.cell 0).toInt) ((x2.cell 1).toInt)) (0,List.replicate ((table.length:Int).toNat) (V.int .i64 0))).bind (un fun kC=>un fun (jz:Bool) (sb:LV)=>
     bif (decide (0≤(wrap .i64 (((x2.cell 1).toInt)+1))))&&(decide ((wrap .i64 (((x2.cell 1).toInt)+1))<11)) then
      bif (Nat.beq (2+(((wrap .i64 (((x2.cell 1).toInt)+1):Int).toNat)*1)) 2||(Nat.beq (2+(((wrap .i64 (((x2.cell 1).toInt)+1):Int).toNat)*1)) 3||(Nat.beq (2+(((wrap .i64 (((x2.cell 1).toInt)+1):Int).toNat)*1)) 4||(Nat.beq (2+(((wrap .i64 (((x2.cell 1).toInt)+1):Int).toNat)*1)) 5||(Nat.beq (2+(((wrap .i64 (((x2.cell 1).toInt)+1):Int).toNat)*1)) 6||(Nat.beq (2+(((wrap .i64 (((x2.cell 1).toInt)+1):Int).toNat)*1)) 7||(Nat.beq (2+(((wrap .i64 (((x2.cell 1).toInt)+1):Int).toNat)*1)) 8||(Nat.beq (2+(((wrap .i64 (((x2.cell 1).toInt)+1):Int).toNat)*1)) 9||(Nat.beq (2+(((wrap .i64 (((x2.cell 1).toInt)+1):Int).toNat)*1)) 10||(Nat.beq (2+(((wrap .i64 (((x2.cell 1).toInt)+1):Int).toNat)*1)) 11||(Nat.beq (2+(((wrap .i64 (((x2.cell 1).toInt)+1):Int).toNat)*1)) 12||false))))))))))) then
      bif Nat.blt 0 sb.length&&true then
       kn (wrap .i64 (t26+1),(bif Nat.beq (2+(((wrap .i64 (((x2.cell 1).toInt)+1):Int).toNat)*1)) 2 then sb else e9),(bif Nat.beq (2+(((wrap .i64 (((x2.cell 1).toInt)+1):Int).toNat)*1)) 3 then sb else eR),(bif Nat.beq (2+(((wrap .i64 (((x2.cell 1).toInt)+1):Int).toNat)*1)) 4 then sb else gH),(bif Nat.beq (2+(((wrap .i64 (((x2.cell 1).toInt)+1):Int).toNat)*1)) 5 then sb else gI),(bif Nat.beq (2+(((wrap .i64 (((x2.cell 1).toInt)+1):Int).toNat)*1)) 6 then sb else iz),(bif Nat.beq (2+(((wrap .i64 (((x2.cell 1).toInt)+1):Int).toNat)*1)) 7 then sb else iA),(bif Nat.beq (2+(((wrap .i64 (((x2.cell 1).toInt)+1):Int).toNat)*1)) 8 then sb else iB),(bif Nat.beq (2+(((wrap .i64 (((x2.cell 1).toInt)+1):Int).toNat)*1)) 9 then sb else iC),(bif Nat.beq (2+(((wrap .i64 (((x2.cell 1).toInt)+1):Int).toNat)*1)) 10 then sb else gO),(bif Nat.beq (2+(((wrap .i64 (((x2.cell 1).toInt)+1):Int).toNat)*1)) 11 then sb else gP),(bif Nat.beq (2+(((wrap .i64 (((x2.cell 1).toInt)+1):Int).toNat)*1)) 12 then sb else gQ))
      else none
      else none
     else none)
    else none
   else none
  else none
 else
  kr (t26,decide (t26<t25),e9,eR,gH,gI,iz,iA,iB,iC,gO,gP,gQ)
noncomputable def IJ (C:af) (table t18:LV) (t19 t20:Int) (t24:LV) (t25:Int) (fL:LV) (fM:Int):=un fun t26=>un fun e9=>un fun eR=>un fun gH=>un fun gI=>un fun iz=>un fun iA=>un fun iB=>un fun iC=>un fun gO=>un fun gP gQ=>II C table t18 t19 t20 t24 t25 fL fM t26 e9 eR gH gI iz iA iB iC gO gP gQ (fun y=>some (Sum.inl y)) (fun r=>some (Sum.inr r))
noncomputable def DU (C:af) (table t18:LV) (t19:Int) (fL:LV) (fM t20:Int) (e9 eR gH gI iz iA iB iC gO gP gQ:LV) {β:Type} (kn:(Int×LV×LV×LV×LV×LV×LV×LV×LV×LV×LV×LV)→Option β) (kr:(Int×Bool×LV×LV×LV×LV×LV×LV×LV×LV×LV×LV×LV)→Option β):Option β:=
 bif decide (t20<t19) then
  (idx t18 t20).bind fun x1=>
  (Loop (IJ C table t18 t19 t20 x1.toList (x1.toList.length:Int) fL fM) (0,e9,eR,gH,gI,iz,iA,iB,iC,gO,gP,gQ)).bind (un fun vD=>un fun (uJ:Bool)=>un fun (gO:LV)=>un fun (gP:LV)=>un fun (gQ:LV)=>un fun (au1:LV)=>un fun (au2:LV)=>un fun (au3:LV)=>un fun (au4:LV)=>un fun (au5:LV)=>un fun (au6:LV)=>un fun (au7:LV) (au8:LV)=>
   kn (wrap .i64 (t20+1),gO,gP,gQ,au1,au2,au3,au4,au5,au6,au7,au8))
 else
  kr (t20,decide (t20<t19),e9,eR,gH,gI,iz,iA,iB,iC,gO,gP,gQ)
noncomputable def AF (C:af) (table t18:LV) (t19:Int) (fL:LV) (fM:Int):=un fun t20=>un fun e9=>un fun eR=>un fun gH=>un fun gI=>un fun iz=>un fun iA=>un fun iB=>un fun iC=>un fun gO=>un fun gP gQ=>DU C table t18 t19 fL fM t20 e9 eR gH gI iz iA iB iC gO gP gQ (fun y=>some (Sum.inl y)) (fun r=>some (Sum.inr r))
noncomputable def Wa (C:af):cD:=bI 177 Uk [EQ,EQ,EQ,EQ,EQ,EQ,EQ,EQ,H1,EQ,EQ,EQ,EQ,EQ,EQ,EQ,EQ,EQ,EQ,EQ,EQ,EQ,EQ,EQ,H1] [[1,2,3,4,5,6,7,8,0,0,10,11,12,13,14,15,16,17,18,19,20,21,22,23,24,0]] (@IH C) (bI 97 Ul [EQ,EQ,EQ,EQ,EQ,EQ,H1,EQ,EQ,H1,H1,H1,H1,H1,H1,H1,H1,H1,H1,H1] [[1,2,3,4,5,6,0,0,8,9,0,0,0,0,0,0,0,0,0,0,0]] (@II C) (bI 49 Um [EQ,EQ,EQ,H1,EQ,EQ,H1,H1,H1,H1,H1,H1,H1,H1,H1,H1,H1] [[1,2,3,0,0,5,6,0,0,0,0,0,0,0,0,0,0,0]] (@DU C) bB))
theorem au9 (C:af):bD C (Wa C) 122 (Lp [1,1,0,1,0,0,1,1,0,0,1,1,0,0,1,1,0,0,1,1,1,0,1,0,0] 122):=bJ Uk [EQ,EQ,EQ,EQ,EQ,EQ,EQ,EQ,H1,EQ,EQ,EQ,EQ,EQ,EQ,EQ,EQ,EQ,EQ,EQ,EQ,EQ,EQ,EQ,H1] [[1,2,3,4,5,6,7,8,0,0,10,11,12,13,14,15,16,17,18,19,20,21,22,23,24,0]] (@IH C) (bq au)
theorem ava (C:af):bD C (Wa C) 122 (Lp [1,1,0,1,0,0,1,1,0,0,1,1,0,0] 122):=bJ Ul [EQ,EQ,EQ,EQ,EQ,EQ,H1,EQ,EQ,H1,H1,H1,H1,H1,H1,H1,H1,H1,H1,H1] [[1,2,3,4,5,6,0,0,8,9,0,0,0,0,0,0,0,0,0,0,0]] (@II C) (bq (bE (au9 C) au))
theorem avb (C:af):bD C (Wa C) 122 (Lp [1,1,0,1,0,0] 122):=bJ Um [EQ,EQ,EQ,H1,EQ,EQ,H1,H1,H1,H1,H1,H1,H1,H1,H1,H1,H1] [[1,2,3,0,0,5,6,0,0,0,0,0,0,0,0,0,0,0]] (@DU C) (bq (bE (ava C) au))
noncomputable def afK (C:af) (table:LV) (one:Int) (IK:LV):Option LV:=
 (Loop (AF C table IK (IK.length:Int) table one) (0,([]:LV),([]:LV),([]:LV),([]:LV),([]:LV),([]:LV),([]:LV),([]:LV),([]:LV),([]:LV),([]:LV))).bind (un fun auH=>un fun (ar8:Bool)=>un fun (avc:LV)=>un fun (avd:LV)=>un fun (ave:LV)=>un fun (avf:LV)=>un fun (avg:LV)=>un fun (avh:LV)=>un fun (avi:LV)=>un fun (avj:LV)=>un fun (avk:LV)=>un fun (avl:LV) (avm:LV)=>
  some [.list ag table,V.int .i64 one,.list ab avc,.list ab avd,.list ab ave,.list ab avf,.list ab avg,.list ab avh,.list ab avi,.list ab avj,.list ab avk,.list ab avl,.list ab avm])
theorem avn {table:LV} {one:Int} {IK:LV} {r:Option LV} (h:afK CC table one IK=r):CC Gz [.list ag table,V.int .i64 one,.list GK IK]=r:=bC (bE (avb CC) au) h
def cb (s:Nat×Nat):V:= .agg [.int .i64 (s.1:Int),.int .i64 (s.2:Int)]
def PL (K:Nat) (l:LV):Prop:= ∃f:Nat→Nat,l=tab K (fun i=>nV (f i))∧∀i,i<K→f i<K
def PN (K:Nat) (l:LV):Prop:=l=[]∨PL K l
theorem PL.len {K:Nat} {l:LV} (h:PL K l):l.length=K:=by
 obtain ⟨f,rfl,_⟩:=h;exact fT
def nP (i:Int) (A B:LV):Int×LV×LV×LV×LV×LV×LV×LV×LV×LV×LV×LV:=(i,[],A,B,[],[],[],[],[],[],[],[])
def fC (s:Nat×Nat):Prop:=s.1≤3∧(s.1=3→s.2=0∨s.2=1)
theorem afL {p:List (Nat×Nat)} {i:Nat} (hi:i<p.length):idx (p.map cb) (i:Int)=some (cb p[i]):=by
 rw[yZ rfl];simp[hi]
def qY (K:Nat) (p:List (Nat×Nat)) (k:Nat) (A B:LV):Prop:= ∀j,j<k→j<p.length→(p.getD j (0,0)).1=3→((p.getD j (0,0)).2=0→PL K A)∧((p.getD j (0,0)).2=1→PL K B)
section
variable {K:Nat} {mul:Nat→Nat→Nat} (h:Tb K mul) (ha: ∀i j k,i<K→j<K→k<K→mul (mul i j) k=mul i (mul j k))
include h ha
theorem afM {n:Nat} (hn:n≤1) {t18 t24:LV} {t19 t20 t25 t26:Int} {m0 m2 m3 m4 m5 m6 m7 m8 m9 m10 m11 m12:LV} {m1 s0:Int}: ∃l,PL K l∧Loop (OF CC (tG K mul) t18 t19 t20 t24 t25 t26 (K:Int) m0 m1 m2 m3 m4 m5 m6 m7 m8 m9 m10 m11 m12 s0 (n:Int)) (0,List.replicate K (V.int .i64 0))=some ((K:Int),false,l):=by
 have h4:=h.k4;have hex: ∀x,∃y,x<K→y<K∧CC GH [.list ag (tG K mul),.int .i64 (x:Int),.int .i64 (n:Int)]=some [.int .i64 (y:Int)]:=fun x=>by
  by_cases c:x<K
  ·obtain ⟨y,h1,h2⟩:=au0 h ha c (n:=n) (by omega);exact ⟨y,fun _=>⟨h1,h2⟩⟩
  ·exact ⟨0,fun c2=>absurd c2 c⟩
 obtain ⟨f,hf⟩:=Classical.axiomOfChoice hex;refine ⟨tab K fun i=>nV (f i),⟨f,rfl,fun i hi=>(hf i hi).1⟩,?_⟩;refine uO (fun i a=>((i:Int),a)) K (fun i=>nV (f i)) (List.replicate K (V.int .i64 0)) (by simp) (fun a=>((K:Int),false,a)) (fun i hi a hl=> ?_) ?_
 ·simp only[OF,IH,un,aM,bn];refine bT (bp hi) (bs (hf i hi).2 ((rZ (by omega)).trans ?_));rw[bz (by omega),Int.toNat_natCast];rfl
 ·simp only[OF,IH,un];refine bF (aV (aw _)) ?_;rw[aV (aw _)]
theorem afN {p:List (Nat×Nat)} (hp: ∀s∈p,fC s) (hl:p.length≤1000) {A B:LV} (hA:PN K A) (hB:PN K B) {t18 m0:LV} {t19 t20 m1:Int}: ∃A' B',PN K A'∧PN K B'∧(PL K A→PL K A')∧(PL K B→PL K B')∧qY K p p.length A' B'∧
  Loop (IJ CC (tG K mul) t18 t19 t20 (p.map cb) (p.length:Int) m0 m1) (nP 0 A B)=some ((p.length:Int),false,[],A',B',[],[],[],[],[],[],[],[]):=by
 have h1:=h.k1;have h4:=h.k4;have key:=jB (step:=IJ CC (tG K mul) t18 t19 t20 (p.map cb) (p.length:Int) m0 m1) (fun i y=> ∃A' B',PN K A'∧PN K B'∧(PL K A→PL K A')∧(PL K B→PL K B')∧qY K p i A' B'∧y=nP (i:Int) A' B')
  (fun r=> ∃A' B',PN K A'∧PN K B'∧(PL K A→PL K A')∧(PL K B→PL K B')∧qY K p p.length A' B'∧r=((p.length:Int),false,[],A',B',[],[],[],[],[],[],[],[])) p.length 0 (nP 0 A B) (fun i _ hi y hy=> ?_) (fun y hy=> ?_) ⟨A,B,hA,hB,id,id,fun j hj=>(by omega),rfl⟩
 ·obtain ⟨r,e,A',B',a1,a2,a3,a4,a5,rfl⟩:=key;exact ⟨A',B',a1,a2,a3,a4,a5,e⟩
 ·obtain ⟨A',B',a1,a2,a3,a4,a5,rfl⟩:=hy;have bu:i<p.length:=by omega
  have hs:=hp _ (dr bu);have hg:p.getD i (0,0)=p[i]:=by rw[qi,bU bu,Option.getD_some]
  have jT:=afL bu;generalize L3:p[i]=s at hs hg jT;obtain ⟨k,n⟩:=s;simp only[IJ,II,un,nP];by_cases ck:k=3
  case neg=>
   refine ⟨_,bT (bp bu) (bs jT (bT ?_ rfl)),A',B',a1,a2,a3,a4,fun j hj dm hk=> ?_,?_⟩
   ·show (((k:Nat):Int) != 3)=true;rw[bne_iff_ne];omega
   ·by_cases cj:j=i
    ·rw[cj,hg] at hk;exact absurd hk ck
    ·exact a5 j (by omega) dm hk
   ·rw[bz (by omega)]
  subst ck;have gh: ∀{l:LV},PL K l→Nat.beq l.length 0=false:=fun {l} hl=>by
   rw[hl.len];cases hb:Nat.beq K 0 with
   | false=>rfl
   | true=>rw[aL] at hb;omega
  rcases hs.2 rfl with AG|AG
  ·have AG:n=0:=AG;subst AG;rcases a1 with rfl|Wb
   ·obtain ⟨l,tz,el⟩:=afM h ha (n:=0) (by omega) (t18:=t18) (t24:=p.map cb) (t19:=t19) (t20:=t20) (t25:=(p.length:Int)) (t26:=(i:Int)) (m0:=m0) (m1:=m1) (m2:=[]) (m3:=[]) (m4:=B') (m5:=[]) (m6:=[]) (m7:=[]) (m8:=[]) (m9:=[]) (m10:=[]) (m11:=[]) (m12:=[]) (s0:=3);have aZ:Nat.blt 0 l.length=true:=by rw[tz.len,mY];omega
    refine ⟨nP ((i+1:Nat):Int) l B',bT (bp bu) (bs jT (bF rfl (bT rfl (bT rfl (bF rfl ?_))))),l,B',.inr tz,a2,fun _=>tz,a4,fun j hj dm hk=> ?_,rfl⟩
    ·rw[sa];refine bT (gB (by omega) (by omega)) ?_;rw[Int.toNat_natCast,wW];refine bs el ?_;simp only[un];refine bT rfl (bT rfl (bT (by rw[aZ];rfl) ?_));rw[bz (by omega)];rfl
    ·by_cases cj:j=i
     ·rw[cj,hg];exact ⟨fun _=>tz,fun e=>(by cases e)⟩
     ·exact ⟨fun _=>tz,(a5 j (by omega) dm hk).2⟩
   ·refine ⟨nP ((i+1:Nat):Int) A' B',bT (bp bu) (bs jT (bF rfl (bT rfl (bT rfl (bT ?_ ?_))))),A',B',.inr Wb,a2,a3,a4,fun j hj dm hk=> ?_,rfl⟩
    ·show (!(Nat.beq A'.length 0))=true;rw[gh Wb];rfl
    ·rw[bz (by omega)];rfl
    ·by_cases cj:j=i
     ·rw[cj,hg];exact ⟨fun _=>Wb,fun e=>(by cases e)⟩
     ·exact a5 j (by omega) dm hk
  ·have AG:n=1:=AG;subst AG;rcases a2 with rfl|Wc
   ·obtain ⟨l,tz,el⟩:=afM h ha (n:=1) (by omega) (t18:=t18) (t24:=p.map cb) (t19:=t19) (t20:=t20) (t25:=(p.length:Int)) (t26:=(i:Int)) (m0:=m0) (m1:=m1) (m2:=[]) (m3:=A') (m4:=[]) (m5:=[]) (m6:=[]) (m7:=[]) (m8:=[]) (m9:=[]) (m10:=[]) (m11:=[]) (m12:=[]) (s0:=3);have aZ:Nat.blt 0 l.length=true:=by rw[tz.len,mY];omega
    refine ⟨nP ((i+1:Nat):Int) A' l,bT (bp bu) (bs jT (bF rfl (bT rfl (bT rfl (bF rfl ?_))))),A',l,a1,.inr tz,a3,fun _=>tz,fun j hj dm hk=> ?_,rfl⟩
    ·rw[sa];refine bT (gB (by omega) (by omega)) ?_;rw[Int.toNat_natCast,wW];refine bs el ?_;simp only[un];refine bT rfl (bT rfl (bT (by rw[aZ];rfl) ?_));rw[bz (by omega)];rfl
    ·by_cases cj:j=i
     ·rw[cj,hg];exact ⟨fun e=>(by cases e),fun _=>tz⟩
     ·exact ⟨(a5 j (by omega) dm hk).1,fun _=>tz⟩
   ·refine ⟨nP ((i+1:Nat):Int) A' B',bT (bp bu) (bs jT (bF rfl (bT rfl (bT rfl (bT ?_ ?_))))),A',B',a1,.inr Wc,a3,a4,fun j hj dm hk=> ?_,rfl⟩
    ·show (!(Nat.beq B'.length 0))=true;rw[gh Wc];rfl
    ·rw[bz (by omega)];rfl
    ·by_cases cj:j=i
     ·rw[cj,hg];exact ⟨fun e=>(by cases e),fun _=>Wc⟩
     ·exact a5 j (by omega) dm hk
 ·obtain ⟨A',B',a1,a2,a3,a4,a5,rfl⟩:=hy;rw[dq] at*
  simp only[IJ,II,un,nP];exact ⟨_,bF (aV (aw _)) rfl,A',B',a1,a2,a3,a4,a5,cx rfl (cx (aV (aw _)) rfl)⟩
omit h ha in
theorem qY.mono {p:List (Nat×Nat)} {k:Nat} {A B A' B':LV} (hh:qY K p k A B) (h1:PL K A→PL K A') (h2:PL K B→PL K B'):qY K p k A' B':=fun j hj hl e=>⟨fun e2=>h1 ((hh j hj hl e).1 e2),fun e2=>h2 ((hh j hj hl e).2 e2)⟩
def OG (t:LV) (one:Int) (A B:LV):List V:=[.list ag t,.int .i64 one,.list ab [],.list ab A,.list ab B,.list ab [],.list ab [],.list ab [],.list ab [],.list ab [],.list ab [],.list ab [],.list ab []]
theorem avo {p q:List (Nat×Nat)} (hp: ∀s∈p,fC s) (hq: ∀s∈q,fC s) (OH:p.length≤1000) (OI:q.length≤1000) {one:Int}: ∃A B,PN K A∧PN K B∧qY K p p.length A B∧qY K q q.length A B∧
  CC Gz [.list ag (tG K mul),.int .i64 one,.list GK [.list bG (p.map cb),.list bG (q.map cb)]]=some (OG (tG K mul) one A B):=by
 obtain ⟨A1,B1,a1,a2,a3,a4,a5,e1⟩:=afN h ha hp OH (A:=[]) (B:=[]) (.inl rfl) (.inl rfl) (t18:=[.list bG (p.map cb),.list bG (q.map cb)]) (m0:=tG K mul) (t19:=2) (t20:=0) (m1:=one);obtain ⟨A2,B2,b1,b2,b3,b4,b5,e2⟩:=afN h ha hq OI a1 a2 (t18:=[.list bG (p.map cb),.list bG (q.map cb)]) (m0:=tG K mul) (t19:=2) (t20:=1) (m1:=one);refine ⟨A2,B2,b1,b2,a5.mono b3 b4,b5,avn ?_⟩;unfold afK;have s1:AF CC (tG K mul) [.list bG (p.map cb),.list bG (q.map cb)] 2 (tG K mul) one (nP 0 [] [])=some (.inl (nP 1 A1 B1)):=by
  simp only[AF,DU,un,nP];refine bT rfl (bs rfl ?_);rw[V.ez,cY];exact bs e1 rfl
 have s2:AF CC (tG K mul) [.list bG (p.map cb),.list bG (q.map cb)] 2 (tG K mul) one (nP 1 A1 B1)=some (.inl (nP 2 A2 B2)):=by
  simp only[AF,DU,un,nP];refine bT rfl (bs rfl ?_);rw[V.ez,cY];exact bs e2 rfl
 have s3:AF CC (tG K mul) [.list bG (p.map cb),.list bG (q.map cb)] 2 (tG K mul) one (nP 2 A2 B2)=some (.inr (2,false,[],A2,B2,[],[],[],[],[],[],[],[])):=by
  simp only[AF,DU,un,nP];exact bF rfl rfl
 exact bs ((iS s1).trans ((iS s2).trans (jY s3))) rfl
end
noncomputable def yr (C:af) (top:Int) (t11:LV) (t12 t13 t18:Int) (t19:Bool) (fL:LV) (fM:Int) (e9 eR gH gI iz iA iB iC gO gP gQ iD nQ:LV) (iu dA:Int) {β:Type} (kr:(Int×LV)→Option β):Option β:=
 bif t19 then
  bif (decide (0≤top))&&(decide (top<61)) then
  (nQ[top.toNat]?).bind fun x2=>
  kr (wrap .i64 (top+1),bn nQ top (V.int .i64 fM))
  else none
 else
  bif t18==1 then
  aM iD dA fun x3=>
  bif (decide (0≤top))&&(decide (top<61)) then
   (nQ[top.toNat]?).bind fun x4=>
   kr (wrap .i64 (top+1),bn nQ top (V.int .i64 x3.toInt))
  else none
  else
  bif t18==2 then
   bif (decide (0≤(wrap .i64 ((wrap .i64 (top-1))-1))))&&(decide ((wrap .i64 ((wrap .i64 (top-1))-1))<61)) then
   (nQ[(wrap .i64 ((wrap .i64 (top-1))-1):Int).toNat]?).bind fun x5=>
   (idx fL x5.toInt).bind fun x6=>
   bif (decide (0≤(wrap .i64 (top-1))))&&(decide ((wrap .i64 (top-1))<61)) then
    (nQ[(wrap .i64 (top-1):Int).toNat]?).bind fun x7=>
    (idx x6.toList x7.toInt).bind fun x8=>
    bif (decide (0≤(wrap .i64 ((wrap .i64 (top-1))-1))))&&(decide ((wrap .i64 ((wrap .i64 (top-1))-1))<61)) then
    (nQ[(wrap .i64 ((wrap .i64 (top-1))-1):Int).toNat]?).bind fun x9=>
    kr (wrap .i64 (top-1),bn nQ (wrap .i64 ((wrap .i64 (top-1))-1)) (V.int .i64 x8.toInt))
    else none
   else none
   else none
  else
   bif t18==3 then
   bif (decide (0≤(wrap .i64 (dA+1))))&&(decide ((wrap .i64 (dA+1))<11)) then
    bif (Nat.beq (2+(((wrap .i64 (dA+1):Int).toNat)*1)) 2||(Nat.beq (2+(((wrap .i64 (dA+1):Int).toNat)*1)) 3||(Nat.beq (2+(((wrap .i64 (dA+1):Int).toNat)*1)) 4||(Nat.beq (2+(((wrap .i64 (dA+1):Int).toNat)*1)) 5||(Nat.beq (2+(((wrap .i64 (dA+1):Int).toNat)*1)) 6||(Nat.beq (2+(((wrap .i64 (dA+1):Int).toNat)*1)) 7||(Nat.beq (2+(((wrap .i64 (dA+1):Int).toNat)*1)) 8||(Nat.beq (2+(((wrap .i64 (dA+1):Int).toNat)*1)) 9||(Nat.beq (2+(((wrap .i64 (dA+1):Int).toNat)*1)) 10||(Nat.beq (2+(((wrap .i64 (dA+1):Int).toNat)*1)) 11||(Nat.beq (2+(((wrap .i64 (dA+1):Int).toNat)*1)) 12||false))))))))))) then
    bif (decide (0≤(wrap .i64 (top-1))))&&(decide ((wrap .i64 (top-1))<61)) then
     (nQ[(wrap .i64 (top-1):Int).toNat]?).bind fun om=>
     (idx (bif Nat.beq (2+(((wrap .i64 (dA+1):Int).toNat)*1)) 2 then e9 else (bif Nat.beq (2+(((wrap .i64 (dA+1):Int).toNat)*1)) 3 then eR else (bif Nat.beq (2+(((wrap .i64 (dA+1):Int).toNat)*1)) 4 then gH else (bif Nat.beq (2+(((wrap .i64 (dA+1):Int).toNat)*1)) 5 then gI else (bif Nat.beq (2+(((wrap .i64 (dA+1):Int).toNat)*1)) 6 then iz else (bif Nat.beq (2+(((wrap .i64 (dA+1):Int).toNat)*1)) 7 then iA else (bif Nat.beq (2+(((wrap .i64 (dA+1):Int).toNat)*1)) 8 then iB else (bif Nat.beq (2+(((wrap .i64 (dA+1):Int).toNat)*1)) 9 then iC else (bif Nat.beq (2+(((wrap .i64 (dA+1):Int).toNat)*1)) 10 then gO else (bif Nat.beq (2+(((wrap .i64 (dA+1):Int).toNat)*1)) 11 then gP else (bif Nat.beq (2+(((wrap .i64 (dA+1):Int).toNat)*1)) 12 then gQ else ([]:LV)))))))))))) om.toInt).bind fun p6=>
     bif (decide (0≤(wrap .i64 (top-1))))&&(decide ((wrap .i64 (top-1))<61)) then
     (nQ[(wrap .i64 (top-1):Int).toNat]?).bind fun kU=>
     kr (top,bn nQ (wrap .i64 (top-1)) (V.int .i64 p6.toInt))
     else none
    else none
    else none
   else none
   else
   kr (top,nQ)
noncomputable def IL (C:af) (t11:LV) (t12:Int) (fL:LV) (fM:Int) (e9 eR gH gI iz iA iB iC gO gP gQ iD:LV) (top t13:Int) (nQ:LV) {β:Type} (kn:(Int×Int×LV)→Option β) (kr:(Int×Int×Bool×LV)→Option β):Option β:=
 bif decide (t13<t12) then
  (idx t11 t13).bind fun x1=>
  yr C top t11 t12 t13 ((x1.cell 0).toInt) ((((x1.cell 0).toInt):Int)==0) fL fM e9 eR gH gI iz iA iB iC gO gP gQ iD nQ ((x1.cell 0).toInt) ((x1.cell 1).toInt) (un fun (avp:Int) (avq:LV)=>
   kn (avp,wrap .i64 (t13+1),avq))
 else
  kr (top,t13,decide (t13<t12),nQ)
noncomputable def OJ (C:af) (t11:LV) (t12:Int) (fL:LV) (fM:Int) (e9 eR gH gI iz iA iB iC gO gP gQ iD:LV):=un fun top=>un fun t13 nQ=>IL C t11 t12 fL fM e9 eR gH gI iz iA iB iC gO gP gQ iD top t13 nQ (fun y=>some (Sum.inl y)) (fun r=>some (Sum.inr r))
noncomputable def afO (C:af):cD:=Gk 319 Un [[0,2,3,4,7,8,9,10,11,12,13,14,15,16,17,18,19,20,0]] (@yr C) (bI 65 Uo [H1,EQ,EQ,H1,EQ,EQ,EQ,EQ,EQ,EQ,EQ,EQ,EQ,EQ,EQ,EQ,EQ,EQ,H1] [[0,2,3,0,0,5,6,7,8,9,10,11,12,13,14,15,16,17,18,0]] (@IL C) bB)
theorem avr (C:af):bD C (afO C) 125 (Cd 19 [1,1,1,0,1,0,0,1,1,0,0,1,1,0,1,0] [1,1,1,0,1,0,0,1,1,0,0,1,1,0,1,1] 125):=Gj Un [[0,2,3,4,7,8,9,10,11,12,13,14,15,16,17,18,19,20,0]] (@yr C) (bq au) (bq au)
theorem avs (C:af):bD C (afO C) 125 (Lp [1,1,1,0,1,0,0] 125):=bJ Uo [H1,EQ,EQ,H1,EQ,EQ,EQ,EQ,EQ,EQ,EQ,EQ,EQ,EQ,EQ,EQ,EQ,EQ,H1] [[0,2,3,0,0,5,6,7,8,9,10,11,12,13,14,15,16,17,18,0]] (@IL C) (bq (bE (avr C) au))
noncomputable def afP (C:af) (p fL:LV) (fM:Int) (e9 eR gH gI iz iA iB iC gO gP gQ iD:LV):Option LV:=
 (Loop (OJ C p (p.length:Int) fL fM e9 eR gH gI iz iA iB iC gO gP gQ iD) (0,0,(List.replicate 61 (V.int .i64 0):LV))).bind (un fun azZ=>un fun zf=>un fun (OA:Bool) (avt:LV)=>
  (avt[0]?).bind fun DI=>
  some [V.int .i64 DI.toInt,.list ag fL,V.int .i64 fM,.list ab e9,.list ab eR,.list ab gH,.list ab gI,.list ab iz,.list ab iA,.list ab iB,.list ab iC,.list ab gO,.list ab gP,.list ab gQ,.list ab iD])
theorem avu {p fL:LV} {fM:Int} {e9 eR gH gI iz iA iB iC gO gP gQ iD:LV} {r:Option LV} (h:afP CC p fL fM e9 eR gH gI iz iA iB iC gO gP gQ iD=r):CC GA [.list bG p,.list ag fL,V.int .i64 fM,.list ab e9,.list ab eR,.list ab gH,.list ab gI,.list ab iz,.list ab iA,.list ab iB,.list ab iC,.list ab gO,.list ab gP,.list ab gQ,.list ab iD]=r:=bC (bE (avs CC) au) h
end Go.AM
