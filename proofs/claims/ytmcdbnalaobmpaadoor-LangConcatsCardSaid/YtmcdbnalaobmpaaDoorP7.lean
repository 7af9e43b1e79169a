/-
  Functions of uA program, lifted to plain data.
-/
import Derived.Test.YtmcdbnalaobmpaaDoorP6
set_option linter.unusedVariables false
set_option linter.unusedSimpArgs false
set_option maxRecDepth 100000
namespace Go.AM
open Go.Proofs
noncomputable abbrev sh:Code:=cx Tryd.prog (aw.aU 66)
noncomputable def Gc (C:ag) (q t18 t19:Int) (t26:Bool) (fa fb:Int) (ij gv:List V) (bO bP mb lg aM aJ aP aO:Int) (hY dd:List V) {β:Type} (kr:(Int)→Option β):Option β:=
 bif t26 then
  (C tB [.int .i64 q]).bind fun r3=>
  kr (IntKind.wrap .u64 ((BitVec.ofInt (IntKind.bits .u64) aO|||BitVec.ofInt (IntKind.bits .u64) ((V.nth r3 0).toInt)).toNat))
 else
  kr aO
noncomputable def BH (C:ag) (q t18 t19:Int) (t37:List V) (t38 fa fb:Int) (ij gv:List V) (bO bP mb lg aM aJ aP aO:Int) (hY:List V) (t39:Int) (dd:List V) {β:Type} (kn:(Int × (List V))→Option β) (kr:(Int × Bool × (List V))→Option β):Option β:=
 bif decide ((t39:Int)<t38) then
  (idx t37 t39).bind fun x6=>
  bif Nat.ble ((dd.length+([.agg [.int .i64 q,.int .i64 t39,.int .i64 x6.toInt]]:List V).length)*24) bA then
  kn (IntKind.wrap .i64 (t39+1),dd++([.agg [.int .i64 q,.int .i64 t39,.int .i64 x6.toInt]]:List V))
  else none
 else
  kr (t39,decide ((t39:Int)<t38),dd)
noncomputable def Gd (C:ag) (q t18 t19:Int) (t37:List V) (t38 fa fb:Int) (ij gv:List V) (bO bP mb lg aM aJ aP aO:Int) (hY:List V):(Int × (List V))→Option ((Int × (List V)) ⊕ (Int × Bool × (List V))):=un fun t39 dd=>BH C q t18 t19 t37 t38 fa fb ij gv bO bP mb lg aM aJ aP aO hY t39 dd (fun y=>some (.inl y)) (fun r=>some (.inr r))
noncomputable def BI (C:ag) (t18 fa fb:Int) (ij gv:List V) (bO bP mb lg aM aJ aP:Int) (hY:List V) (t19 aO:Int) (dd:List V) {β:Type} (kn:(Int × Int × (List V))→Option β) (kr:(Int × Bool × Int × (List V))→Option β):Option β:=
 bif decide ((t19:Int)<t18) then
  (idx ij t19).bind fun x2=>
  Gc C t19 t18 t19 x2.toBool fa fb ij gv bO bP mb lg aM aJ aP aO hY dd (fun (fM:Int)=>
   (idx gv t19).bind fun x5=>
   (Loop (Gd C t19 t18 t19 x5.toList (x5.toList.length:Int) fa fb ij gv bO bP mb lg aM aJ aP fM hY) (0,dd)).bind (un fun (kW:Int)=>un fun (mU:Bool) (BD:List V)=>
    kn (IntKind.wrap .i64 (t19+1),fM,BD)))
 else
  kr (t19,decide ((t19:Int)<t18),aO,dd)
noncomputable def Mh (C:ag) (t18 fa fb:Int) (ij gv:List V) (bO bP mb lg aM aJ aP:Int) (hY:List V):(Int × Int × (List V))→Option ((Int × Int × (List V)) ⊕ (Int × Bool × Int × (List V))):=un fun t19=>un fun aO dd=>BI C t18 fa fb ij gv bO bP mb lg aM aJ aP hY t19 aO dd (fun y=>some (.inl y)) (fun r=>some (.inr r))
noncomputable def Vl (C:ag):ch:=fun β n ds k=>
 bif Nat.beq n 431 then ko Jc [[1,2,3,5,6,7,8,9,10,11,12,13,14,15,0,17,18]] (@Gc C) ds k else
 bif Nat.beq n 129 then bq Jd [false,false,false,false,false,true,false,false,false,false,false,false,false,false,false,false,false,false,false,true] [[1,2,3,4,5,0,0,7,8,9,10,11,12,13,14,15,16,17,18,19,0]] (@BH C) ds k else
 bif Nat.beq n 49 then bq Je [false,true,false,false,false,false,false,false,false,false,false,false,false,true,false,true] [[1,0,0,3,4,5,6,7,8,9,10,11,12,13,0,15,0]] (@BI C) ds k else
 none
abbrev Mi (C:ag) (b:cd):Prop:=cf Tryd.prog aw C (Vl C) 66 (cG Tryd.prog (aw.aU 66)) (aw.sin 66).aZ.length b
theorem ahh (C:ag):Mi C (.cond 26 (ar [1,1,0,1,0,0,1,1,0,0,1,0,1,0] sh) (ar [1,1,0,1,0,0,1,1,0,0,1,0,1,1] sh)):=
 kV Jc [[1,2,3,5,6,7,8,9,10,11,12,13,14,15,0,17,18]] (@Gc C) (by kernel_rfl) (aR (bs:=[]) (by kernel_rfl) av) (aR (bs:=[]) (by kernel_rfl) av) (fun ds=>by kernel_rfl) (fun i β k=>by kernel_rfl) (fun β ds k=>by kernel_rfl)
theorem ahi (C:ag):Mi C (.loop (ar [1,1,0,1,0,0,1,1,0,0,1,1,1,0,0] sh)):=
 bu Jd [false,false,false,false,false,true,false,false,false,false,false,false,false,false,false,false,false,false,false,true] [[1,2,3,4,5,0,0,7,8,9,10,11,12,13,14,15,16,17,18,19,0]] (@BH C) (by kernel_rfl) (aR (bs:=[]) (by kernel_rfl) av) (fun ds=>by kernel_rfl) (fun i x=>by kernel_rfl) (fun i x β k=>by kernel_rfl) (fun β ds k=>by kernel_rfl)
theorem ahj (C:ag):Mi C (.loop (ar [1,1,0,1,0,0] sh)):=
 bu Je [false,true,false,false,false,false,false,false,false,false,false,false,false,true,false,true] [[1,0,0,3,4,5,6,7,8,9,10,11,12,13,0,15,0]] (@BI C) (by kernel_rfl) (aR (bs:=[.cond 26 (ar [1,1,0,1,0,0,1,1,0,0,1,0,1,0] sh) (ar [1,1,0,1,0,0,1,1,0,0,1,0,1,1] sh),.loop (ar [1,1,0,1,0,0,1,1,0,0,1,1,1,0,0] sh)]) (by kernel_rfl) (bd (ahh C) (bd (ahi C) av))) (fun ds=>by kernel_rfl) (fun i x=>by kernel_rfl) (fun i x β k=>by kernel_rfl) (fun β ds k=>by kernel_rfl)
noncomputable def Vm (C:ag) (b8 ct:Int) (cb cO:List V):Option (List V):=
 (C tB [.int .i64 ct]).bind fun r1=>
 (Loop (Mh C (cb.length:Int) b8 ct cb cO 0 0 0 0 b8 (cb.length:Int) ((V.nth r1 0).toInt) ([]:List V)) (0,0,([]:List V))).bind (un fun (Sm:Int)=>un fun (FD:Bool)=>un fun (Mj:Int) (rN:List V)=>
  some [.int .i64 b8,.int .i64 (cb.length:Int),.int .u64 ((V.nth r1 0).toInt),.int .u64 Mj,.list af rN])
theorem ahk {b8 ct:Int} {cb cO:List V} {r:Option (List V)} (h:Vm CC b8 ct cb cO=r):CC yT [.int .i64 b8,.int .i64 ct,.list ab cb,.list ae cO]=r:=
 bj (key:=66) (L:=Vl CC) (bs:=[.loop (ar [1,1,0,1,0,0] sh)]) (by kernel_rfl) (bd (ahj CC) av) (Eq.trans (by kernel_rfl) h)
end Go.AM
set_option maxRecDepth 100000
set_option linter.unusedSimpArgs false
namespace Go.AM
open Go.Proofs
def eF (p x q:Nat):Ed:=⟨(p:Int),(x:Int),(q:Int)⟩
def aN (L S:Nat) (st fin:Nat) (l:List Ed):List V:=[.int .i64 (L:Int),.int .i64 (S:Int),.int .u64 (st:Int),.int .u64 (fin:Int),.list af (l.map Ed.enc)]
def fm (n:Nat) (g:Nat→List Ed):List Ed:=(List.range n).flatMap g
theorem Vn {g:Nat→List Ed}:fm 0 g=[]:=rfl
theorem BJ {n:Nat} {g:Nat→List Ed}:fm (n+1) g=fm n g++g n:=by simp[fm,List.range_succ]
theorem Mk {n:Nat} {g:Nat→List Ed} {e:Ed}:e∈fm n g↔∃i,i<n∧e∈g i:=by simp[fm]
theorem BK {n k:Nat} {g:Nat→List Ed} (h: ∀i,i<n→(g i).length≤k):(fm n g).length≤n*k:=by
 induction n with
 | zero=>simp[fm]
 | succ n ih=>
  rw[BJ,List.length_append,Nat.succ_mul]
  have:=ih fun i hi=>h i (by omega)
  have:=h n (by omega)
  omega
theorem qJ {X R:Type} {step:X→Option (X ⊕ R)} (n:Nat) (s:Nat→X) (r:R) {x:X} (hx:x=s 0) (h: ∀i,i<n→step (s i)=some (.inl (s (i+1)))) (he:step (s n)=some (.inr r)):Loop step x=some r:=by rw[hx];exact ej n s r h he
theorem oD {a b:Nat} (h:a+b≤1000000000):IntKind.wrap .i64 ((a:Int)+(b:Int))=((a+b:Nat):Int):=by rw[wrap64 (by omega) (by omega)];omega
theorem Ge {l:List Ed} {p x q:Nat}:l.map Ed.enc++[V.agg [.int .i64 (p:Int),.int .i64 (x:Int),.int .i64 (q:Int)]]=(l++[eF p x q]).map Ed.enc:=by simp[eF,Ed.enc]
section
variable {L S st fin:Nat} {l:List Ed}
theorem Ml {p x q:Nat} (h:l.length≤1000000):CC vN [.int .i64 (p:Int),.int .i64 (x:Int),.int .i64 (q:Int),.int .i64 (L:Int),.int .i64 (S:Int),.int .u64 (st:Int),.int .u64 (fin:Int),.list af (l.map Ed.enc)]=some (aN L S st fin (l++[eF p x q])):=by
 refine ag3 ?_
 unfold U9
 refine bT (cap (by simp;omega) (by omega)) ?_
 rw[Ge];rfl
theorem Mm {q:Nat} (hq:q<64) (hs:st<2^64):CC vO [.int .i64 (q:Int),.int .i64 (L:Int),.int .i64 (S:Int),.int .u64 (st:Int),.int .u64 (fin:Int),.list af (l.map Ed.enc)]=some (aN L S (st|||2^q) fin l):=by
 refine ag4 ?_
 unfold Va
 refine bT (decide_eq_true (by omega)) ?_
 rw[Int.toNat_natCast,ze hq,u64_or hs (Nat.pow_lt_pow_right (by omega) hq)];rfl
theorem ahl {q:Nat} (hq:q<64) (hs:fin<2^64):CC DV [.int .i64 (q:Int),.int .i64 (L:Int),.int .i64 (S:Int),.int .u64 (st:Int),.int .u64 (fin:Int),.list af (l.map Ed.enc)]=some (aN L S st (fin|||2^q) l):=by
 refine ag5 ?_
 unfold Vb
 refine bT (decide_eq_true (by omega)) ?_
 rw[Int.toNat_natCast,ze hq,u64_or hs (Nat.pow_lt_pow_right (by omega) hq)];rfl
theorem Vo (h:S≤64):CC yS [.int .i64 (L:Int),.int .i64 (S:Int)]=some (.bool false::aN L S 0 0 []):=by
 refine ag2 ?_
 unfold U8
 exact bF (decide_eq_false (by omega)) rfl
def dS (fin:Nat) (f:Nat→Bool) (off:Nat):Nat→Nat
 | 0=>fin
 | i+1=>if f i=true then dS fin f off i|||2^(i+off) else dS fin f off i
theorem Mn {f:Nat→Bool} {off:Nat}: ∀{n j:Nat},(dS fin f off n).testBit j=(fin.testBit j||(decide (off≤j∧j<n+off)&&f (j-off)))
 | 0,j=>by
  rw[decide_eq_false (by omega)];simp[dS]
 | n+1,j=>by
  unfold dS
  by_cases hf:f n=true
  ·rw[if_pos hf,Nat.testBit_or,Mn,Nat.testBit_two_pow]
   by_cases hj:j=n+off
   ·subst hj
    rw[decide_eq_true (p:=n+off=n+off) rfl,decide_eq_true (p:=off≤n+off∧n+off<n+1+off) (by omega),show n+off-off=n by omega,hf];simp
   ·rw[decide_eq_false (p:=n+off=j) (by omega)]
    have:(off≤j∧j<n+off)↔(off≤j∧j<n+1+off):=by omega
    simp only[this,Bool.or_false]
  ·rw[if_neg hf,Mn]
   by_cases hj:j=n+off
   ·subst hj
    rw[show n+off-off=n by omega,Bool.eq_false_iff.2 hf];simp
   ·have:(off≤j∧j<n+off)↔(off≤j∧j<n+1+off):=by omega
    simp only[this]
theorem w9 {f:Nat→Bool} {off k:Nat} (hf:fin<2^k): ∀{n:Nat},n+off≤k→dS fin f off n<2^k
 | 0,_=>hf
 | n+1,h=>by
  unfold dS
  have ih:=w9 (f:=f) (off:=off) hf (n:=n) (by omega)
  split
  ·exact Nat.or_lt_two_pow ih (Nat.pow_lt_pow_right (by omega) (by omega))
  ·exact ih
theorem Vp {n off:Nat} {f:Nat→Bool} (ho:n+off≤64) (hs:fin<2^64):CC vP [.list ab (bV n f),.int .i64 (off:Int),.int .i64 (L:Int),.int .i64 (S:Int),.int .u64 (st:Int),.int .u64 (fin:Int),.list af (l.map Ed.enc)]=some (aN L S st (dS fin f off n) l):=by
 refine ag9 ?_
 unfold Ve
 rw[show (bV n f).length=n from dA]
 refine bs (ej n (fun i=>((i:Int),(L:Int),(S:Int),(st:Int),(dS fin f off i:Int),l.map Ed.enc)) ((n:Int),false,(L:Int),(S:Int),(st:Int),(dS fin f off n:Int),l.map Ed.enc) (fun i hi=> ?_) ?_) ?_
 ·simp only[Ma,BB,un]
  refine bT (dm hi) ?_
  refine bs (mZ hi) ?_
  have aS:=w9 (f:=f) (off:=off) hs (n:=i) (by omega)
  cases hf:f i with
  | true=>
   refine bT rfl ?_
   rw[oD (by omega)]
   refine bs (ahl (by omega) aS) ?_
   rw[cz (by omega),show dS fin f off (i+1)=dS fin f off i|||2^(i+off) from if_pos hf]
   rfl
  | false=>
   refine bF rfl ?_
   rw[cz (by omega),show dS fin f off (i+1)=dS fin f off i from if_neg (by rw[hf];simp)]
 ·simp only[Ma,BB,un]
  refine bF (bp (Nat.le_refl _)) ?_
  rw[bp (Nat.le_refl _)]
 ·rfl
def lC (a:Da) (off p:Nat):List Ed:=tab a.L fun x=>eF (p+off) x (a.nx p x+off)
def cg (a:Da) (off:Nat):List Ed:=fm a.n (lC a off)
theorem si {a:Da} {off:Nat} {e:Ed}:e∈cg a off↔∃p x,p<a.n∧x<a.L∧e=eF (p+off) x (a.nx p x+off):=by
 unfold cg lC
 rw[Mk]
 constructor
 ·rintro ⟨p,hp,he⟩
  obtain ⟨x,hx,rfl⟩:=zP.1 he
  exact ⟨p,x,hp,hx,rfl⟩
 ·rintro ⟨p,x,hp,hx,rfl⟩
  exact ⟨p,hp,zP.2 ⟨x,hx,rfl⟩⟩
theorem nv {a:Da} (h:a.Ok) {off:Nat} {n:Nat}:(fm n (lC a off)).length≤n*6:=BK fun p _=>by unfold lC;rw[dA];exact h.l6
theorem Mo {a:Da} (h:a.Ok) {off:Nat} (ho:off≤1000) (hl:l.length≤100000):CC vQ (iF a [.int .i64 (off:Int),.int .i64 (L:Int),.int .i64 (S:Int),.int .u64 (st:Int),.int .u64 (fin:Int),.list af (l.map Ed.enc)])=some (aN L S st fin (l++cg a off)):=by
 have hn:=h.ew
 have h6:=h.l6
 refine ahd ?_
 unfold Vh
 rw[show a.cD.length=a.n from dA]
 refine bs (qJ a.n (fun i=>((i:Int),(L:Int),(S:Int),(st:Int),(fin:Int),(l++fm i (lC a off)).map Ed.enc)) ((a.n:Int),false,(L:Int),(S:Int),(st:Int),(fin:Int),(l++cg a off).map Ed.enc) (by rw[Vn,List.append_nil];rfl) (fun p hp=> ?_) ?_) ?_
 ·have hlen:=nv h (off:=off) (n:=p)
  simp only[Mc,BF,un]
  refine bT (dm hp) ?_
  refine bs (mZ hp) ?_
  rw[show (fo a.L (a.nx p)).toList=tab a.L fun x=>nV (a.nx p x) from rfl,dA]
  refine bs (qJ a.L (fun i=>((i:Int),(L:Int),(S:Int),(st:Int),(fin:Int),((l++fm p (lC a off))++tab i fun x=>eF (p+off) x (a.nx p x+off)).map Ed.enc)) ((a.L:Int),false,(L:Int),(S:Int),(st:Int),(fin:Int),((l++fm p (lC a off))++lC a off p).map Ed.enc) (by rw[KO,List.append_nil];rfl) (fun x hx=> ?_) ?_) ?_
  ·have hq:=h.eO hp hx
   simp only[Mb,BE,un]
   refine bT (dm hx) ?_
   refine bs (mZ hx) ?_
   rw[show (nV (a.nx p x)).toInt=((a.nx p x:Nat):Int) from rfl,oD (by omega),oD (by omega)]
   refine bs (Ml (by rw[List.length_append,List.length_append,dA];omega)) ?_
   rw[cz (by omega),jU,←List.append_assoc]
   rfl
  ·simp only[Mb,BE,un]
   refine bF (bp (Nat.le_refl _)) ?_
   rw[bp (Nat.le_refl _)]
   rfl
  ·simp only[un]
   rw[cz (by omega),BJ,←List.append_assoc]
 ·simp only[Mc,BF,un]
  refine bF (bp (Nat.le_refl _)) ?_
  rw[bp (Nat.le_refl _)]
  rfl
 ·rfl
def kE (n:Nat) (f:Nat→Bool) (to:Nat) (l:List Ed):List Ed:=l.flatMap fun e=>if e.t.toNat<n∧f e.t.toNat=true then [⟨e.f,e.l,(to:Int)⟩] else []
theorem Vq {n to:Nat} {f:Nat→Bool} {e:Ed}:e∈kE n f to l↔∃e'∈l,e'.t.toNat<n∧f e'.t.toNat=true∧e=⟨e'.f,e'.l,(to:Int)⟩:=by
 unfold kE
 rw[List.mem_flatMap]
 constructor
 ·rintro ⟨a,ha,h⟩
  split at h
  ·next c=>exact ⟨a,ha,c.1,c.2,by simpa using h⟩
  ·cases h
 ·rintro ⟨a,ha,h1,h2,h3⟩
  exact ⟨a,ha,by rw[if_pos ⟨h1,h2⟩];simpa using h3⟩
theorem Mp {n to:Nat} {f:Nat→Bool}: ∀{l:List Ed},(kE n f to l).length≤l.length
 | []=>by simp[kE]
 | e::l=>by
  have ih:=Mp (n:=n) (to:=to) (f:=f) (l:=l)
  unfold kE at*
  rw[List.flatMap_cons,List.length_append,List.length_cons]
  split
  ·rw[List.length_singleton];omega
  ·rw[List.length_nil];omega
theorem ahm {n to i:Nat} {f:Nat→Bool} (hi:i<l.length):kE n f to (l.take (i+1))=kE n f to (l.take i)++(if l[i].t.toNat<n∧f l[i].t.toNat=true then [⟨l[i].f,l[i].l,(to:Int)⟩] else []):=by
 unfold kE
 rw[List.take_succ_eq_append_getElem hi,List.flatMap_append]
 simp
theorem ahn {n to:Nat} {f:Nat→Bool} (hE: ∀e∈l,0≤e.f∧0≤e.l∧0≤e.t) (hl:l.length≤100000) (hn:n≤1000):CC DW [.list ab (bV n f),.int .i64 (to:Int),.int .i64 (L:Int),.int .i64 (S:Int),.int .u64 (st:Int),.int .u64 (fin:Int),.list af (l.map Ed.enc)]=some (aN L S st fin (l++kE n f to l)):=by
 refine ahg ?_
 unfold Vk
 refine bT (by rw[Nat.ble_eq,tE,List.length_map];omega) ?_
 rw[List.length_map]
 refine bs (qJ l.length (fun i=>((i:Int),(L:Int),(S:Int),(st:Int),(fin:Int),(l++kE n f to (l.take i)).map Ed.enc)) ((l.length:Int),false,(L:Int),(S:Int),(st:Int),(fin:Int),(l++kE n f to l).map Ed.enc) (by rw[List.take_zero,show kE n f to []=[] from rfl,List.append_nil];rfl) (fun i hi=> ?_) ?_) ?_
 ·simp only[Mg,BG,un]
  refine bT (dm hi) ?_
  refine (lY (i:=i) (v:=l[i].enc) (by simp[hi])).trans ?_
  obtain ⟨e1,e2,e3⟩:=hE l[i] (List.getElem_mem hi)
  have hlen:=Mp (n:=n) (to:=to) (f:=f) (l:=l.take i)
  have NS:=List.length_take_le i l
  rw[Ed.da,Ed.db,Ed.dc,ahm hi,show (bV n f).length=n from dA]
  obtain ⟨t,ht⟩:=Int.eq_ofNat_of_zero_le e3
  obtain ⟨p,hp⟩:=Int.eq_ofNat_of_zero_le e1
  obtain ⟨x,hx⟩:=Int.eq_ofNat_of_zero_le e2
  rw[ht,hp,hx,Int.toNat_natCast]
  by_cases c:t<n
  ·refine bT (dm c) ?_
   refine bs (mZ c) ?_
   cases hf:f t with
   | true=>
    refine bT rfl ?_
    refine bs (Ml (by rw[List.length_append];omega)) ?_
    rw[cz (by omega),if_pos ⟨c,rfl⟩,←List.append_assoc]
    rfl
   | false=>
    refine bF rfl ?_
    rw[cz (by omega),if_neg (by simp),List.append_nil]
  ·refine bF (bp (by omega)) ?_
   rw[cz (by omega),if_neg (fun h=>c h.1),List.append_nil]
 ·simp only[Mg,BG,un]
  refine bF (bp (Nat.le_refl _)) ?_
  rw[bp (Nat.le_refl _),List.take_length]
 ·rfl
end
theorem Vr {a:Da} (h:a.Ok) (hs:a.n≤64):CC yT (dv a)=some (aN a.L a.n (2^a.st) (dS 0 a.fin 0 a.n) (cg a 0)):=by
 have h6:=h.l6
 have bJ:=h.s
 refine ahk ?_
 unfold Vm
 refine bs (EB (by omega)) ?_
 rw[show a.cC.length=a.n from dA]
 refine bs (ej a.n (fun i=>((i:Int),(dS 0 a.fin 0 i:Int),(fm i (lC a 0)).map Ed.enc)) ((a.n:Int),false,(dS 0 a.fin 0 a.n:Int),(cg a 0).map Ed.enc) (fun p hp=> ?_) ?_) ?_
 ·have hlen:=nv h (off:=0) (n:=p)
  simp only[Mh,BI,un]
  refine bT (dm hp) ?_
  refine bs (mZ hp) ?_
  have aS:=w9 (f:=a.fin) (off:=0) (fin:=0) (k:=64) (by omega) (n:=p) (by omega)
  have key: ∀(F:Nat),((idx a.cD (p:Int)).bind fun x5=>
   (Loop (Gd CC (p:Int) (a.n:Int) (p:Int) x5.toList (x5.toList.length:Int) (a.L:Int) (a.st:Int) a.cC a.cD 0 0 0 0 (a.L:Int) (a.n:Int) ((2^a.st:Nat):Int) (F:Int) ([]:List V)) (0,(fm p (lC a 0)).map Ed.enc)).bind (un fun (kW:Int)=>un fun (mU:Bool) (BD:List V)=>
    some (Sum.inl (IntKind.wrap .i64 ((p:Int)+1),(F:Int),BD):(Int × Int × List V) ⊕ (Int × Bool × Int × List V))))=some (Sum.inl (((p+1:Nat):Int),(F:Int),(fm (p+1) (lC a 0)).map Ed.enc)):=by
   intro F
   refine bs (mZ hp) ?_
   rw[show (fo a.L (a.nx p)).toList=tab a.L fun x=>nV (a.nx p x) from rfl,dA]
   refine bs (qJ a.L (fun i=>((i:Int),(fm p (lC a 0)++tab i fun x=>eF (p+0) x (a.nx p x+0)).map Ed.enc)) ((a.L:Int),false,(fm p (lC a 0)++lC a 0 p).map Ed.enc) (by rw[KO,List.append_nil];rfl) (fun x hx=> ?_) ?_) ?_
   ·simp only[Gd,BH,un]
    refine bT (dm hx) ?_
    refine bs (mZ hx) ?_
    refine bT (cap (by rw[List.length_map,List.length_append,dA];simp;omega) (by omega)) ?_
    rw[show (nV (a.nx p x)).toInt=((a.nx p x:Nat):Int) from rfl,Ge,cz (by omega),jU,←List.append_assoc]
    rfl
   ·simp only[Gd,BH,un]
    refine bF (bp (Nat.le_refl _)) ?_
    rw[bp (Nat.le_refl _)]
    rfl
   ·simp only[un]
    rw[cz (by omega),BJ]
  unfold Gc
  cases hf:a.fin p with
  | true=>
   refine bT rfl ?_
   refine bs (EB (by omega)) ?_
   rw[show (V.nth [V.int .u64 ((2^p:Nat):Int)] 0).toInt=((2^p:Nat):Int) from rfl,u64_or aS (Nat.pow_lt_pow_right (by omega) (by omega)),show dS 0 a.fin 0 (p+1)=dS 0 a.fin 0 p|||2^p from if_pos hf]
   exact key _
  | false=>
   refine bF rfl ?_
   rw[show dS 0 a.fin 0 (p+1)=dS 0 a.fin 0 p from if_neg (by rw[hf];simp)]
   exact key _
 ·simp only[Mh,BI,un]
  refine bF (bp (Nat.le_refl _)) ?_
  rw[bp (Nat.le_refl _)]
  rfl
 ·rfl
end Go.AM
set_option maxRecDepth 100000
namespace Go.AM
open Go.Proofs
noncomputable def Vs (C:ag) (aX aY:Int) (aG bc:List V):Option (List V):=
 (C oc [.int .i64 aX,.int .i64 aY,.list ab aG,.list ae bc]).bind fun r1=>
 bif (((V.nth r1 0).toInt):Int) != 0 then
  some [.int .i64 0,.int .i64 0,.int .i64 ((V.nth r1 0).toInt),.list ab ([]:List V),.list ae ([]:List V)]
 else
  (C rF [.int .i64 aX,.int .i64 aY,.list ab aG,.list ae bc]).bind fun r2=>
  some [.int .i64 ((V.nth r2 0).toInt),.int .i64 ((V.nth (r2.drop 1) 0).toInt),.int .i64 0,.list ab ((V.nth (r2.drop 2) 0).toList),.list ae ((V.nth ((r2.drop 2).drop 1) 0).toList)]
theorem aho {aX aY:Int} {aG bc:List V} {r:Option (List V)} (h:Vs CC aX aY aG bc=r):CC DQ [.int .i64 aX,.int .i64 aY,.list ab aG,.list ae bc]=r:=
 bj (key:=56) (L:=cT) (bs:=[]) (by kernel_rfl) av (Eq.trans (by kernel_rfl) h)
end Go.AM
set_option maxRecDepth 100000
namespace Go.AM
open Go.Proofs
noncomputable def Mq (C:ag) (b8 ct:Int) (cb cO:List V) (cI cL:Int) (cM dp:List V):Option (List V):=
 (C oc [.int .i64 b8,.int .i64 ct,.list ab cb,.list ae cO]).bind fun r1=>
 bif (((V.nth r1 0).toInt):Int) != 0 then
  some [.int .i64 0,.int .i64 0,.int .i64 0,.int .i64 0,.int .i64 ((V.nth r1 0).toInt),.list ab ([]:List V),.list ae ([]:List V),.list ab ([]:List V),.list ae ([]:List V)]
 else
  (C oc [.int .i64 cI,.int .i64 cL,.list ab cM,.list ae dp]).bind fun r2=>
  bif (((V.nth r2 0).toInt):Int) != 0 then
  some [.int .i64 0,.int .i64 0,.int .i64 0,.int .i64 0,.int .i64 ((V.nth r2 0).toInt),.list ab ([]:List V),.list ae ([]:List V),.list ab ([]:List V),.list ae ([]:List V)]
  else
  bif (b8:Int) != cI then
   some [.int .i64 0,.int .i64 0,.int .i64 0,.int .i64 0,.int .i64 1,.list ab ([]:List V),.list ae ([]:List V),.list ab ([]:List V),.list ae ([]:List V)]
  else
   (C rF [.int .i64 b8,.int .i64 ct,.list ab cb,.list ae cO]).bind fun r3=>
   (C rF [.int .i64 cI,.int .i64 cL,.list ab cM,.list ae dp]).bind fun r4=>
   some [.int .i64 ((V.nth r3 0).toInt),.int .i64 ((V.nth (r3.drop 1) 0).toInt),.int .i64 ((V.nth r4 0).toInt),.int .i64 ((V.nth (r4.drop 1) 0).toInt),.int .i64 0,.list ab ((V.nth (r3.drop 2) 0).toList),.list ae ((V.nth ((r3.drop 2).drop 1) 0).toList),.list ab ((V.nth (r4.drop 2) 0).toList),.list ae ((V.nth ((r4.drop 2).drop 1) 0).toList)]
theorem Vt {b8 ct:Int} {cb cO:List V} {cI cL:Int} {cM dp:List V} {r:Option (List V)} (h:Mq CC b8 ct cb cO cI cL cM dp=r):CC yU [.int .i64 b8,.int .i64 ct,.list ab cb,.list ae cO,.int .i64 cI,.int .i64 cL,.list ab cM,.list ae dp]=r:=
 bj (key:=68) (L:=cT) (bs:=[]) (by kernel_rfl) av (Eq.trans (by kernel_rfl) h)
end Go.AM
set_option maxRecDepth 100000
namespace Go.AM
open Go.Proofs
noncomputable def Vu (C:ag) (aX aY:Int) (aG bc:List V) (f kX kY:Int) (kZ Gf:List V) (g:Int):Option (List V):=
 bif (f:Int)==g then
  (C rE [.int .i64 aX,.int .i64 aY,.list ab aG,.list ae bc,.int .i64 kX,.int .i64 kY,.list ab kZ,.list ae Gf]).bind fun r1=>
  some [.bool ((V.nth r1 0).toBool)]
 else
  some [.bool false]
theorem ahp {aX aY:Int} {aG bc:List V} {f kX kY:Int} {kZ Gf:List V} {g:Int} {r:Option (List V)} (h:Vu CC aX aY aG bc f kX kY kZ Gf g=r):CC yO [.int .i64 aX,.int .i64 aY,.list ab aG,.list ae bc,.int .i64 f,.int .i64 kX,.int .i64 kY,.list ab kZ,.list ae Gf,.int .i64 g]=r:=
 bj (key:=18) (L:=cT) (bs:=[]) (by kernel_rfl) av (Eq.trans (by kernel_rfl) h)
end Go.AM
set_option maxRecDepth 100000
namespace Go.AM
open Go.Proofs
noncomputable def Vv (C:ag) (b8 ct:Int) (cb cO:List V) (cI cL:Int) (cM dp:List V) (ew:Int):Option (List V):=
 bif decide (((cb.length:Int):Int)≤ew) then
  bif decide (((cM.length:Int):Int)≤ew) then
  (C yP [.int .i64 b8,.int .i64 ct,.list ab cb,.list ae cO,.int .i64 cI,.int .i64 cL,.list ab cM,.list ae dp]).bind fun r1=>
  some [.bool ((((V.nth r1 0).toInt):Int)==0)]
  else
  some [.bool false]
 else
  some [.bool false]
theorem ahq {b8 ct:Int} {cb cO:List V} {cI cL:Int} {cM dp:List V} {ew:Int} {r:Option (List V)} (h:Vv CC b8 ct cb cO cI cL cM dp ew=r):CC DN [.int .i64 b8,.int .i64 ct,.list ab cb,.list ae cO,.int .i64 cI,.int .i64 cL,.list ab cM,.list ae dp,.int .i64 ew]=r:=
 bj (key:=26) (L:=cT) (bs:=[]) (by kernel_rfl) av (Eq.trans (by kernel_rfl) h)
end Go.AM
set_option maxRecDepth 100000
set_option linter.unusedSimpArgs false
namespace Go.AM
open Go.Proofs
theorem qK {a:Da} (h:a.Ok):(minD a).Ok:=(wu h).ok
theorem nw {a:Da} (h:a.Ok):(minD a).L=a.L:=(wu h).hL
theorem ahr {a:Da} (h:a.Ok):(minD a).st=0:=(wu h).st
theorem Vw {a:Da} (h:a.Ok) {w:List Nat} (hw:WL a.L w):(minD a).acc (minD a).st w=a.acc a.st w:=by
 rw[ahr h];exact (wu h).lf w hw
theorem Mr {a:Da} (h:a.Ok):(minD a).n≤a.n:=by
 obtain ⟨p,_,c2,_⟩:=Tz h
 rw[←wv h (Da.KZ h c2)]
 have h1:=(Da.E4 h c2).lW (a.quo p).n
 have h2:(a.quo p).trim.n=(aq (a.quo p).L (a.quo p).nx (a.quo p).st (a.quo p).n).length:=kp
 rw[h2]
 refine Nat.le_trans h1 ?_
 rw[Da.qx]
 exact K6 p a.n
theorem Vx {a b:Da} (ha:a.Ok) (hb:b.Ok) (hL:a.L=b.L) (hl: ∀w,WL a.L w→a.acc a.st w=b.acc b.st w):minD a=minD b:=
 wv hb (hL▸Canon.congr (wu ha) hl)
theorem ahs {a:Da} (ha:a.Ok):minD (minD a)=minD a:=
 Vx (qK ha) ha (nw ha) fun w hw=>Vw ha (by rwa [nw ha] at hw)
theorem aht {a:Da} (h:a.Ok):CC DQ (dv a)=some (mg (minD a) 0):=by
 refine aho ?_
 unfold Vs
 refine bs (tO h) (bF rfl ?_)
 refine bs (Fm h) ?_
 rfl
def uy (a b:Da) (e:Int):List V:=[.int .i64 (a.L:Int),.int .i64 (a.st:Int),.int .i64 (b.L:Int),.int .i64 (b.st:Int),.int .i64 e,.list ab a.cC,.list ae a.cD,.list ab b.cC,.list ae b.cD]
theorem ahu {a b:Da} (ha:a.Ok) (hb:b.Ok) (hL:a.L=b.L):CC yU (iF a (dv b))=some (uy (minD a) (minD b) 0):=by
 refine Vt ?_
 unfold Mq
 refine bs (tO ha) (bF rfl ?_)
 refine bs (tO hb) (bF rfl ?_)
 refine bF (by rw[hL];simp) ?_
 refine bs (Fm ha) ?_
 refine bs (Fm hb) ?_
 rfl
theorem ahv {d e:Df} (hd:d.Ok) (he:e.Ok) (hv:nu d e≠0):CC yU (jb d (jb e []))=some (uy zD zD (nu d e)):=by
 refine Vt ?_
 unfold Mq
 unfold nu at*
 refine bs (KM hd) ?_
 by_cases h1:d.val=0
 ·rw[if_neg (by simp[h1])] at*
  refine bF (by simp[h1]) ?_
  refine bs (KM he) ?_
  by_cases h2:e.val=0
  ·rw[if_neg (by simp[h2])] at*
   refine bF (by simp[h2]) ?_
   by_cases h3:d.L=e.L
   ·rw[if_neg (by simp[h3])] at hv
    exact absurd rfl hv
   ·rw[if_pos h3]
    refine bT (by simpa using h3) ?_
    rfl
  ·rw[if_pos h2]
   refine bT (by simpa using h2) ?_
   rfl
 ·rw[if_pos h1]
  refine bT (by simpa using h1) ?_
  rfl
theorem ahw {d e:Df} (h:nu d e=0): ∃a b:Da,a.Ok∧b.Ok∧a.L=b.L∧d=a.df∧e=b.df:=by
 unfold nu at h
 by_cases h1:d.val=0
 ·rw[if_neg (by simp[h1])] at h
  by_cases h2:e.val=0
  ·rw[if_neg (by simp[h2])] at h
   by_cases h3:d.L=e.L
   ·obtain ⟨a,ha,rfl⟩:=RP h1
    obtain ⟨b,hb,rfl⟩:=RP h2
    simp only[Da.df] at h3
    exact ⟨a,b,ha,hb,by omega,rfl,rfl⟩
   ·rw[if_pos h3] at h;omega
  ·rw[if_pos h2] at h;exact absurd h h2
 ·rw[if_pos h1] at h;exact absurd h h1
theorem Vy {m:Da} (h:CC rE (iF m (dv m))=some [.bool true]) (f:Int):CC yO (iF m (.int .i64 f::iF m [.int .i64 f]))=some [.bool true]:=by
 refine ahp ?_
 unfold Vu
 refine bT (by simp) ?_
 refine bs h ?_
 rfl
theorem ahx {d e:Df} (hd:d.Ok) (he:e.Ok) (m:Int):CC DN (jb d (jb e [.int .i64 m]))=some [.bool (decide ((d.F.length:Int)≤m∧(e.F.length:Int)≤m∧nu d e=0))]:=by
 refine ahq ?_
 unfold Vv
 rw[List.length_map,List.length_map]
 by_cases h1:(d.F.length:Int)≤m
 ·refine bT (decide_eq_true h1) ?_
  by_cases h2:(e.F.length:Int)≤m
  ·refine bT (decide_eq_true h2) ?_
   refine bs (U7 hd he) ?_
   refine congrArg (fun x=>some [V.bool x]) ?_
   rw[Bool.eq_iff_iff]
   simp[h1,h2]
  ·refine bF (decide_eq_false h2) ?_
   rw[decide_eq_false fun h=>h2 h.2.1]
 ·refine bF (decide_eq_false h1) ?_
  rw[decide_eq_false fun h=>h1 h.1]
end Go.AM
set_option maxRecDepth 100000
set_option linter.unusedSimpArgs false
namespace Go.AM
open Go.Proofs
def jZ (E:List Ed):Nat→List Nat→Nat→Prop
 | i,[],k=>i=k
 | i,x::w,k=> ∃j,eF i x j∈E∧jZ E j w k
theorem jZ.ext {A B:List Ed} (h: ∀e,e∈A→e∈B): ∀{w:List Nat} {i k:Nat},jZ A i w k→jZ B i w k
 | [],_,_,p=>p
 | _::_,_,_,⟨j,h1,h2⟩=>⟨j,h _ h1,jZ.ext h h2⟩
theorem jZ.app {E:List Ed}: ∀{v w:List Nat} {i k:Nat},jZ E i (v++w) k↔∃j,jZ E i v j∧jZ E j w k
 | [],w,i,k=>by simp[jZ]
 | x::v,w,i,k=>by
  simp only[List.cons_append,jZ]
  constructor
  ·rintro ⟨j,h1,h2⟩
   obtain ⟨m,h3,h4⟩:=jZ.app.1 h2
   exact ⟨m,⟨j,h1,h3⟩,h4⟩
  ·rintro ⟨m,⟨j,h1,h3⟩,h4⟩
   exact ⟨j,h1,jZ.app.2 ⟨m,h3,h4⟩⟩
theorem ahy {p x q p' x' q':Nat}:eF p x q=eF p' x' q'↔p=p'∧x=x'∧q=q':=by
 unfold eF
 simp only[Ed.mk.injEq]
 omega
theorem ahz {e:Ed} (h1:0≤e.f) (h2:0≤e.l) (h3:0≤e.t):e=eF e.f.toNat e.l.toNat e.t.toNat:=by
 unfold eF
 cases e
 simp only[Ed.mk.injEq] at*
 omega
theorem Ms {E:List Ed} (hE: ∀e∈E,0≤e.f∧0≤e.l∧0≤e.t): ∀(w:List Nat) (s k:Nat),(w.foldl (sn E) s).testBit k=true↔∃i,s.testBit i=true∧jZ E i w k
 | [],s,k=>by simp[jZ]
 | x::w,s,k=>by
  rw[List.foldl_cons,Ms hE w]
  constructor
  ·rintro ⟨j,h1,h2⟩
   unfold sn at h1
   rw[zw,List.any_eq_true] at h1
   obtain ⟨e,he,h3⟩:=h1
   simp only[Bool.and_eq_true,decide_eq_true_eq] at h3
   obtain ⟨c1,c2,c3⟩:=hE e he
   refine ⟨e.f.toNat,h3.2.1,j,?_,h2⟩
   have:e=eF e.f.toNat x j:=by
    rw[ahz c1 c2 c3]
    rw[ahy]
    simp only[eF,Int.toNat_natCast]
    exact ⟨trivial,by omega,h3.2.2⟩
   exact this▸he
  ·rintro ⟨i,h1,j,h2,h3⟩
   refine ⟨j,?_,h3⟩
   unfold sn
   rw[zw,List.any_eq_true]
   refine ⟨_,h2,?_⟩
   simp only[Bool.and_eq_true,decide_eq_true_eq,eF,Int.toNat_natCast]
   exact ⟨trivial,h1,trivial⟩
theorem ahA {fin s:Nat}:sf fin s=true↔∃k,s.testBit k=true∧fin.testBit k=true:=by
 unfold sf
 rw[Bool.not_eq_true',beq_eq_false_iff_ne]
 constructor
 ·intro h
  obtain ⟨k,hk⟩:=Nat.exists_testBit_of_ne_zero h
  rw[Nat.testBit_and,Bool.and_eq_true] at hk
  exact ⟨k,hk⟩
 ·rintro ⟨k,h1,h2⟩ h0
  have:(s&&&fin).testBit k=true:=by rw[Nat.testBit_and,h1,h2];rfl
  rw[h0,Nat.zero_testBit] at this
  cases this
def BL (st fin:Nat) (l:List Ed) (w:List Nat):Prop:= ∃i k,st.testBit i=true∧fin.testBit k=true∧jZ l i w k
section
variable {L S st fin:Nat} {l:List Ed} (h:sg L S st fin l)
include h
theorem ahB (hn: ¬fO (cA L S st fin l) L S):(e9 (cA L S st fin l) L S).Ok:=by
 unfold e9
 rw[if_neg hn]
 exact qK (ua (nt h) hn)
theorem ahC (hn: ¬fO (cA L S st fin l) L S):(e9 (cA L S st fin l) L S).L=L:=by
 unfold e9
 rw[if_neg hn]
 exact nw (ua (nt h) hn)
theorem ahD (hn: ¬fO (cA L S st fin l) L S) {w:List Nat} (hw:WL L w):(e9 (cA L S st fin l) L S).acc (e9 (cA L S st fin l) L S).st w=true↔BL st fin l w:=by
 have ax:=ua (nt h) hn
 unfold e9
 rw[if_neg hn,Vw ax hw,show (eE (cA L S st fin l) L S).st=0 from rfl,adL (nt h) hw]
 show sf fin (w.foldl (sn (ng l)) st)=true↔_
 have hE: ∀e∈ng l,0≤e.f∧0≤e.l∧0≤e.t:=fun e he=>by
  have:=h.E e (rV.1 he)
  unfold Ed.In at this
  exact ⟨this.1,this.2.2.2.2.1,this.2.2.1⟩
 rw[ahA]
 unfold BL
 constructor
 ·rintro ⟨k,h1,h2⟩
  obtain ⟨i,h3,h4⟩:=(Ms hE w st k).1 h1
  exact ⟨i,k,h3,h2,h4.ext fun e he=>rV.1 he⟩
 ·rintro ⟨i,k,h1,h2,h3⟩
  exact ⟨k,(Ms hE w st k).2 ⟨i,h1,h3.ext fun e he=>rV.2 he⟩,h2⟩
theorem ahE (hS:S≤9): ¬fO (cA L S st fin l) L S:=fun ho=>by
 have h1:=tZ (nt h) (2^S)
 have h2:2^S≤2^9:=Nat.pow_le_pow_right (by omega) hS
 have h3:(512:Nat)<(aq L (sn (cA L S st fin l).E) (cA L S st fin l).st (2^S)).length:=ho
 have h4:(2:Nat)^9=512:=by decide
 omega
end
end Go.AM
set_option maxRecDepth 100000
namespace Go.AM
open Go.Proofs
noncomputable abbrev Gg:Code:=cx Tryd.prog (aw.aU 51)
noncomputable def BM (C:ag) (q t36 t37 t41 aT ba:Int) (bm bh:List V) (bO bP hG hO:Int) (dd bZ bB bx:List V) (t42 aM aJ aP aO:Int) (bC:List V) {β:Type} (kn:(Int × Int × Int × Int × Int × (List V))→Option β) (kr:(Int × Bool × Int × Int × Int × Int × (List V))→Option β):Option β:=
 bif decide ((t42:Int)<t41) then
  (C vN [.int .i64 q,.int .i64 t42,.int .i64 q,.int .i64 aM,.int .i64 aJ,.int .u64 aP,.int .u64 aO,.list af bC]).bind fun r4=>
  kn (IntKind.wrap .i64 (t42+1),(V.nth r4 0).toInt,(V.nth (r4.drop 1) 0).toInt,(V.nth ((r4.drop 1).drop 1) 0).toInt,(V.nth (((r4.drop 1).drop 1).drop 1) 0).toInt,(V.nth (r4.drop 4) 0).toList)
 else
  kr (t42,decide ((t42:Int)<t41),aM,aJ,aP,aO,bC)
noncomputable def Mt (C:ag) (q t36 t37 t41 aT ba:Int) (bm bh:List V) (bO bP hG hO:Int) (dd bZ bB bx:List V):(Int × Int × Int × Int × Int × (List V))→Option ((Int × Int × Int × Int × Int × (List V)) ⊕ (Int × Bool × Int × Int × Int × Int × (List V))):=un fun t42=>un fun aM=>un fun aJ=>un fun aP=>un fun aO bC=>BM C q t36 t37 t41 aT ba bm bh bO bP hG hO dd bZ bB bx t42 aM aJ aP aO bC (fun y=>some (.inl y)) (fun r=>some (.inr r))
noncomputable def BN (C:ag) (t36 aT ba:Int) (bm bh:List V) (bO bP hG hO:Int) (dd bZ bB bx:List V) (t37 aM aJ aP aO:Int) (bC:List V) {β:Type} (kn:(Int × Int × Int × Int × Int × (List V))→Option β) (kr:(Int × Bool × Int × Int × Int × Int × (List V))→Option β):Option β:=
 bif decide ((t37:Int)<t36) then
  (Loop (Mt C t37 t36 t37 aT aT ba bm bh bO bP hG hO dd bZ bB bx) (0,aM,aJ,aP,aO,bC)).bind (un fun (la:Int)=>un fun (og:Bool)=>un fun (uv:Int)=>un fun (uw:Int)=>un fun (ux:Int)=>un fun (Mu:Int) (K8:List V)=>
   kn (IntKind.wrap .i64 (t37+1),uv,uw,ux,Mu,K8))
 else
  kr (t37,decide ((t37:Int)<t36),aM,aJ,aP,aO,bC)
noncomputable def Mv (C:ag) (t36 aT ba:Int) (bm bh:List V) (bO bP hG hO:Int) (dd bZ bB bx:List V):(Int × Int × Int × Int × Int × (List V))→Option ((Int × Int × Int × Int × Int × (List V)) ⊕ (Int × Bool × Int × Int × Int × Int × (List V))):=un fun t37=>un fun aM=>un fun aJ=>un fun aP=>un fun aO bC=>BN C t36 aT ba bm bh bO bP hG hO dd bZ bB bx t37 aM aJ aP aO bC (fun y=>some (.inl y)) (fun r=>some (.inr r))
noncomputable def Vz (C:ag):ch:=fun β n ds k=>
 bif Nat.beq n 193 then bq I5 [false,false,false,false,true,false,false,false,false,false,false,false,false,true,true,true,true,false,false,false,false,true] [[1,2,3,4,0,0,6,7,8,9,10,11,12,13,0,0,0,0,18,19,20,21,0]] (@BM C) ds k else
 bif Nat.beq n 145 then bq I6 [false,true,false,false,false,false,false,false,false,false,true,true,true,true,false,false,false,false,true] [[1,0,0,3,4,5,6,7,8,9,10,0,0,0,0,15,16,17,18,0]] (@BN C) ds k else
 none
abbrev VA (C:ag) (b:cd):Prop:=cf Tryd.prog aw C (Vz C) 51 (cG Tryd.prog (aw.aU 51)) (aw.sin 51).aZ.length b
theorem ahF (C:ag):VA C (.loop (ar [1,1,1,1,1,1,0,1,0,0,1,1,0,0,1,1,0,0] Gg)):=
 bu I5 [false,false,false,false,true,false,false,false,false,false,false,false,false,true,true,true,true,false,false,false,false,true] [[1,2,3,4,0,0,6,7,8,9,10,11,12,13,0,0,0,0,18,19,20,21,0]] (@BM C) (by kernel_rfl) (aR (bs:=[]) (by kernel_rfl) av) (fun ds=>by kernel_rfl) (fun i x=>by kernel_rfl) (fun i x β k=>by kernel_rfl) (fun β ds k=>by kernel_rfl)
theorem ahG (C:ag):VA C (.loop (ar [1,1,1,1,1,1,0,1,0,0] Gg)):=
 bu I6 [false,true,false,false,false,false,false,false,false,false,true,true,true,true,false,false,false,false,true] [[1,0,0,3,4,5,6,7,8,9,10,0,0,0,0,15,16,17,18,0]] (@BN C) (by kernel_rfl) (aR (bs:=[.loop (ar [1,1,1,1,1,1,0,1,0,0,1,1,0,0,1,1,0,0] Gg)]) (by kernel_rfl) (bd (ahF C) av)) (fun ds=>by kernel_rfl) (fun i x=>by kernel_rfl) (fun i x β k=>by kernel_rfl) (fun β ds k=>by kernel_rfl)
noncomputable def VB (C:ag) (aX aY:Int) (aG bc:List V):Option (List V):=
 (C DQ [.int .i64 aX,.int .i64 aY,.list ab aG,.list ae bc]).bind fun r1=>
 bif (((V.nth (r1.drop 2) 0).toInt):Int) != 0 then
  some [.int .i64 0,.int .i64 0,.int .i64 ((V.nth (r1.drop 2) 0).toInt),.list ab ([]:List V),.list ae ([]:List V)]
 else
  (C yS [.int .i64 aX,.int .i64 (((V.nth (r1.drop 3) 0).toList).length:Int)]).bind fun r2=>
  bif (V.nth r2 0).toBool then
  some [.int .i64 0,.int .i64 0,.int .i64 3,.list ab ([]:List V),.list ae ([]:List V)]
  else
  (C vQ [.int .i64 ((V.nth r1 0).toInt),.int .i64 ((V.nth (r1.drop 1) 0).toInt),.list ab ((V.nth (r1.drop 3) 0).toList),.list ae ((V.nth ((r1.drop 3).drop 1) 0).toList),.int .i64 0,.int .i64 ((V.nth (r2.drop 1) 0).toInt),.int .i64 ((V.nth ((r2.drop 1).drop 1) 0).toInt),.int .u64 ((V.nth (((r2.drop 1).drop 1).drop 1) 0).toInt),.int .u64 ((V.nth ((((r2.drop 1).drop 1).drop 1).drop 1) 0).toInt),.list af ((V.nth ((r2.drop 1).drop 4) 0).toList)]).bind fun r3=>
  (Loop (Mv C (((V.nth (r1.drop 3) 0).toList).length:Int) aX aY aG bc 0 0 ((V.nth r1 0).toInt) ((V.nth (r1.drop 1) 0).toInt) ([]:List V) ([]:List V) ((V.nth (r1.drop 3) 0).toList) ((V.nth ((r1.drop 3).drop 1) 0).toList)) (0,(V.nth r3 0).toInt,(V.nth (r3.drop 1) 0).toInt,(V.nth ((r3.drop 1).drop 1) 0).toInt,(V.nth (((r3.drop 1).drop 1).drop 1) 0).toInt,(V.nth (r3.drop 4) 0).toList)).bind (un fun (wq:Int)=>un fun (oj:Bool)=>un fun (Md:Int)=>un fun (Me:Int)=>un fun (Mf:Int)=>un fun (ahH:Int) (zW:List V)=>
   (C vO [.int .i64 ((V.nth (r1.drop 1) 0).toInt),.int .i64 Md,.int .i64 Me,.int .u64 Mf,.int .u64 ahH,.list af zW]).bind fun fV=>
   (C vP [.list ab ((V.nth (r1.drop 3) 0).toList),.int .i64 0,.int .i64 ((V.nth fV 0).toInt),.int .i64 ((V.nth (fV.drop 1) 0).toInt),.int .u64 ((V.nth ((fV.drop 1).drop 1) 0).toInt),.int .u64 ((V.nth (((fV.drop 1).drop 1).drop 1) 0).toInt),.list af ((V.nth (fV.drop 4) 0).toList)]).bind fun ic=>
   (C rG [.int .i64 ((V.nth ic 0).toInt),.int .i64 ((V.nth (ic.drop 1) 0).toInt),.int .u64 ((V.nth ((ic.drop 1).drop 1) 0).toInt),.int .u64 ((V.nth (((ic.drop 1).drop 1).drop 1) 0).toInt),.list af ((V.nth (ic.drop 4) 0).toList)]).bind fun kD=>
   some [.int .i64 ((V.nth kD 0).toInt),.int .i64 ((V.nth (kD.drop 1) 0).toInt),.int .i64 ((V.nth (kD.drop 2) 0).toInt),.list ab ((V.nth ((kD.drop 3).drop 5) 0).toList),.list ae ((V.nth (((kD.drop 3).drop 5).drop 1) 0).toList)])
theorem ahI {aX aY:Int} {aG bc:List V} {r:Option (List V)} (h:VB CC aX aY aG bc=r):CC DP [.int .i64 aX,.int .i64 aY,.list ab aG,.list ae bc]=r:=
 bj (key:=51) (L:=Vz CC) (bs:=[.loop (ar [1,1,1,1,1,1,0,1,0,0] Gg)]) (by kernel_rfl) (bd (ahG CC) av) (Eq.trans (by kernel_rfl) h)
end Go.AM
set_option maxRecDepth 100000
set_option linter.unusedSimpArgs false
namespace Go.AM
open Go.Proofs
theorem VC {p x q L S:Nat} (hp:p<S) (hx:x<L) (hq:q<S):(eF p x q).In (L:Int) (S:Int):=by unfold Ed.In eF;simp only;omega
theorem Mw {a:Da} (h:a.Ok) {off S:Nat} (hs:a.n+off≤S) {e:Ed} (he:e∈cg a off):e.In (a.L:Int) (S:Int):=by
 obtain ⟨p,x,hp,hx,rfl⟩:=si.1 he
 have:=h.eO hp hx
 exact VC (by omega) hx (by omega)
def jy (L n:Nat):List Ed:=fm n fun q=>tab L fun x=>eF q x q
theorem ahJ {L n:Nat} {e:Ed}:e∈jy L n↔∃q x,q<n∧x<L∧e=eF q x q:=by
 unfold jy
 rw[Mk]
 constructor
 ·rintro ⟨p,hp,he⟩
  obtain ⟨x,hx,rfl⟩:=zP.1 he
  exact ⟨p,x,hp,hx,rfl⟩
 ·rintro ⟨p,x,hp,hx,rfl⟩
  exact ⟨p,hp,zP.2 ⟨x,hx,rfl⟩⟩
def xb (m:Da):Nf:=cA m.L m.n (2^m.st) (dS 0 m.fin 0 m.n) (cg m 0++jy m.L m.n)
theorem VD {m:Da} (h:m.Ok) (hs:m.n≤64):sg m.L m.n (2^m.st) (dS 0 m.fin 0 m.n) (cg m 0++jy m.L m.n) where
 l1:=h.l1
 l6:=h.l6
 om:=hs
 st:=Nat.pow_lt_pow_right (by omega) h.s
 fin:=w9 (Nat.two_pow_pos _) (by omega)
 E:=fun e he=>by
  rcases List.mem_append.1 he with he|he
  ·exact Mw h (by omega) he
  ·obtain ⟨p,x,hp,hx,rfl⟩:=ahJ.1 he
   exact VC (by omega) hx (by omega)
 len:=by
  have h1:=nv h (off:=0) (n:=m.n)
  have h2:(jy m.L m.n).length≤m.n*6:=BK fun p _=>by rw[dA];exact h.l6
  rw[List.length_append]
  unfold cg
  omega
section
variable {a:Da} (h:a.Ok)
include h
theorem ahK (hs:(minD a).n≤64) {X:Da} {e:Int} {n:Nf} (hr:CC rG (aN (minD a).L (minD a).n (2^(minD a).st) (dS 0 (minD a).fin 0 (minD a).n) (cg (minD a) 0++jy (minD a).L (minD a).n))=some (L4 X e n)):CC DP (dv a)=some (mg X e):=by
 have hm:=qK h
 have h6:=hm.l6
 have hL:=nw h
 have bJ:=hm.s
 refine ahI ?_
 unfold VB
 refine bs (aht h) (bF rfl ?_)
 have e0:(V.nth ((mg (minD a) 0).drop 3) 0).toList=(minD a).cC:=rfl
 rw[e0,Da.m7]
 refine bs (Vo hs) (bF rfl ?_)
 refine bs (Mo (l:=[]) hm (off:=0) (by omega) (by simp)) ?_
 rw[List.nil_append]
 have hlen:=nv hm (off:=0) (n:=(minD a).n)
 refine bs (qJ (minD a).n (fun i=>((i:Int),(a.L:Int),((minD a).n:Int),((0:Nat):Int),((0:Nat):Int),(cg (minD a) 0++jy (minD a).L i).map Ed.enc)) (((minD a).n:Int),false,(a.L:Int),((minD a).n:Int),((0:Nat):Int),((0:Nat):Int),(cg (minD a) 0++jy (minD a).L (minD a).n).map Ed.enc) (by rw[show jy (minD a).L 0=[] from rfl,List.append_nil];rfl) (fun q hq=> ?_) ?_) ?_
 ·have qP:(jy (minD a).L q).length≤q*6:=BK fun p _=>by rw[dA];exact h6
  simp only[Mv,BN,un]
  refine bT (dm hq) ?_
  refine bs (qJ a.L (fun i=>((i:Int),(a.L:Int),((minD a).n:Int),((0:Nat):Int),((0:Nat):Int),((cg (minD a) 0++jy (minD a).L q)++tab i fun x=>eF q x q).map Ed.enc)) ((a.L:Int),false,(a.L:Int),((minD a).n:Int),((0:Nat):Int),((0:Nat):Int),((cg (minD a) 0++jy (minD a).L q)++tab (minD a).L fun x=>eF q x q).map Ed.enc) (by rw[KO,List.append_nil];rfl) (fun x hx=> ?_) ?_) ?_
  ·simp only[Mt,BM,un]
   refine bT (dm hx) ?_
   refine bs (Ml (by rw[List.length_append,List.length_append,dA];unfold cg;omega)) ?_
   rw[cz (by omega),jU,←List.append_assoc]
   rfl
  ·simp only[Mt,BM,un]
   refine bF (bp (Nat.le_refl _)) ?_
   rw[bp (Nat.le_refl _),hL]
  ·simp only[un]
   rw[cz (by omega),show jy (minD a).L (q+1)=jy (minD a).L q++tab (minD a).L fun x=>eF q x q from BJ,←List.append_assoc]
 ·simp only[Mv,BN,un]
  refine bF (bp (Nat.le_refl _)) ?_
  rw[bp (Nat.le_refl _)]
 ·simp only[un]
  refine bs (Mm (q:=(minD a).st) (by omega) (by omega)) ?_
  refine bs (Vp (n:=(minD a).n) (f:=(minD a).fin) (off:=0) (by omega) (by omega)) ?_
  rw[Nat.zero_or]
  rw[hL] at hr
  rw[hL]
  refine bs hr ?_
  rfl
end
end Go.AM
set_option maxRecDepth 100000
namespace Go.AM
open Go.Proofs
noncomputable abbrev Gh:Code:=cx Tryd.prog (aw.aU 30)
noncomputable def Gi (C:ag) (offset:Int) (t66:Bool) (oE oF ai2 ahL aM aJ aP aO:Int) (hY dd bZ bB bx:List V) {β:Type} (kr:(Int × Int × Int × Int × (List V))→Option β):Option β:=
 bif t66 then
  (C vO [.int .i64 (IntKind.wrap .i64 (offset+ahL)),.int .i64 aM,.int .i64 aJ,.int .u64 aP,.int .u64 aO,.list af bx]).bind fun r8=>
  kr ((V.nth r8 0).toInt,(V.nth (r8.drop 1) 0).toInt,(V.nth ((r8.drop 1).drop 1) 0).toInt,(V.nth (((r8.drop 1).drop 1).drop 1) 0).toInt,(V.nth (r8.drop 4) 0).toList)
 else
  kr (aM,aJ,aP,aO,bx)
noncomputable def VE (C:ag):ch:=fun β n ds k=>
 bif Nat.beq n 1071 then ko IT [[1,3,4,5,6,0,0,0,0,11,12,13,14,0]] (@Gi C) ds k else
 none
abbrev ahM (C:ag) (b:cd):Prop:=cf Tryd.prog aw C (VE C) 30 (cG Tryd.prog (aw.aU 30)) (aw.sin 30).aZ.length b
theorem ahN (C:ag):ahM C (.cond 66 (ar [1,1,1,1,1,1,1,1,1,1,0,1,0] Gh) (ar [1,1,1,1,1,1,1,1,1,1,0,1,1] Gh)):=
 kV IT [[1,3,4,5,6,0,0,0,0,11,12,13,14,0]] (@Gi C) (by kernel_rfl) (aR (bs:=[]) (by kernel_rfl) av) (aR (bs:=[]) (by kernel_rfl) av) (fun ds=>by kernel_rfl) (fun i β k=>by kernel_rfl) (fun β ds k=>by kernel_rfl)
noncomputable def Mx (C:ag) (b8 ct:Int) (cb cO:List V) (cI cL:Int) (cM dp:List V):Option (List V):=
 (C yU [.int .i64 b8,.int .i64 ct,.list ab cb,.list ae cO,.int .i64 cI,.int .i64 cL,.list ab cM,.list ae dp]).bind fun r1=>
 bif (((V.nth ((r1.drop 2).drop 2) 0).toInt):Int) != 0 then
  some [.int .i64 0,.int .i64 0,.int .i64 ((V.nth ((r1.drop 2).drop 2) 0).toInt),.list ab ([]:List V),.list ae ([]:List V)]
 else
  (C yS [.int .i64 b8,.int .i64 (IntKind.wrap .i64 ((((V.nth (r1.drop 5) 0).toList).length:Int)+(((V.nth (((r1.drop 5).drop 1).drop 1) 0).toList).length:Int)))]).bind fun r2=>
  bif (V.nth r2 0).toBool then
  some [.int .i64 0,.int .i64 0,.int .i64 3,.list ab ([]:List V),.list ae ([]:List V)]
  else
  (C vQ [.int .i64 ((V.nth r1 0).toInt),.int .i64 ((V.nth (r1.drop 1) 0).toInt),.list ab ((V.nth (r1.drop 5) 0).toList),.list ae ((V.nth ((r1.drop 5).drop 1) 0).toList),.int .i64 0,.int .i64 ((V.nth (r2.drop 1) 0).toInt),.int .i64 ((V.nth ((r2.drop 1).drop 1) 0).toInt),.int .u64 ((V.nth (((r2.drop 1).drop 1).drop 1) 0).toInt),.int .u64 ((V.nth ((((r2.drop 1).drop 1).drop 1).drop 1) 0).toInt),.list af ((V.nth ((r2.drop 1).drop 4) 0).toList)]).bind fun r3=>
  (C vQ [.int .i64 ((V.nth (r1.drop 2) 0).toInt),.int .i64 ((V.nth ((r1.drop 2).drop 1) 0).toInt),.list ab ((V.nth (((r1.drop 5).drop 1).drop 1) 0).toList),.list ae ((V.nth ((((r1.drop 5).drop 1).drop 1).drop 1) 0).toList),.int .i64 (((V.nth (r1.drop 5) 0).toList).length:Int),.int .i64 ((V.nth r3 0).toInt),.int .i64 ((V.nth (r3.drop 1) 0).toInt),.int .u64 ((V.nth ((r3.drop 1).drop 1) 0).toInt),.int .u64 ((V.nth (((r3.drop 1).drop 1).drop 1) 0).toInt),.list af ((V.nth (r3.drop 4) 0).toList)]).bind fun r4=>
  (C DW [.list ab ((V.nth (r1.drop 5) 0).toList),.int .i64 (IntKind.wrap .i64 ((((V.nth (r1.drop 5) 0).toList).length:Int)+((V.nth ((r1.drop 2).drop 1) 0).toInt))),.int .i64 ((V.nth r4 0).toInt),.int .i64 ((V.nth (r4.drop 1) 0).toInt),.int .u64 ((V.nth ((r4.drop 1).drop 1) 0).toInt),.int .u64 ((V.nth (((r4.drop 1).drop 1).drop 1) 0).toInt),.list af ((V.nth (r4.drop 4) 0).toList)]).bind fun r5=>
  (C vO [.int .i64 ((V.nth (r1.drop 1) 0).toInt),.int .i64 ((V.nth r5 0).toInt),.int .i64 ((V.nth (r5.drop 1) 0).toInt),.int .u64 ((V.nth ((r5.drop 1).drop 1) 0).toInt),.int .u64 ((V.nth (((r5.drop 1).drop 1).drop 1) 0).toInt),.list af ((V.nth (r5.drop 4) 0).toList)]).bind fun r6=>
  bif (decide (0≤((V.nth (r1.drop 1) 0).toInt)))&&(decide (((V.nth (r1.drop 1) 0).toInt)<(((V.nth (r1.drop 5) 0).toList).length:Int))) then
   (((V.nth (r1.drop 5) 0).toList)[((V.nth (r1.drop 1) 0).toInt:Int).toNat]?).bind fun x7=>
   Gi C (((V.nth (r1.drop 5) 0).toList).length:Int) x7.toBool 0 0 ((V.nth (r1.drop 2) 0).toInt) ((V.nth ((r1.drop 2).drop 1) 0).toInt) ((V.nth r6 0).toInt) ((V.nth (r6.drop 1) 0).toInt) ((V.nth ((r6.drop 1).drop 1) 0).toInt) ((V.nth (((r6.drop 1).drop 1).drop 1) 0).toInt) ([]:List V) ([]:List V) ((V.nth (((r1.drop 5).drop 1).drop 1) 0).toList) ((V.nth ((((r1.drop 5).drop 1).drop 1).drop 1) 0).toList) ((V.nth (r6.drop 4) 0).toList) (un fun (ux:Int)=>un fun (Mu:Int)=>un fun (ahO:Int)=>un fun (Mj:Int) (rN:List V)=>
    (C vP [.list ab ((V.nth (((r1.drop 5).drop 1).drop 1) 0).toList),.int .i64 (((V.nth (r1.drop 5) 0).toList).length:Int),.int .i64 ux,.int .i64 Mu,.int .u64 ahO,.int .u64 Mj,.list af rN]).bind fun oG=>
    (C rG [.int .i64 ((V.nth oG 0).toInt),.int .i64 ((V.nth (oG.drop 1) 0).toInt),.int .u64 ((V.nth ((oG.drop 1).drop 1) 0).toInt),.int .u64 ((V.nth (((oG.drop 1).drop 1).drop 1) 0).toInt),.list af ((V.nth (oG.drop 4) 0).toList)]).bind fun gf=>
    some [.int .i64 ((V.nth gf 0).toInt),.int .i64 ((V.nth (gf.drop 1) 0).toInt),.int .i64 ((V.nth (gf.drop 2) 0).toInt),.list ab ((V.nth ((gf.drop 3).drop 5) 0).toList),.list ae ((V.nth (((gf.drop 3).drop 5).drop 1) 0).toList)])
  else none
theorem VF {b8 ct:Int} {cb cO:List V} {cI cL:Int} {cM dp:List V} {r:Option (List V)} (h:Mx CC b8 ct cb cO cI cL cM dp=r):CC vL [.int .i64 b8,.int .i64 ct,.list ab cb,.list ae cO,.int .i64 cI,.int .i64 cL,.list ab cM,.list ae dp]=r:=
 bj (key:=30) (L:=VE CC) (bs:=[.cond 66 (ar [1,1,1,1,1,1,1,1,1,1,0,1,0] Gh) (ar [1,1,1,1,1,1,1,1,1,1,0,1,1] Gh)]) (by kernel_rfl) (bd (ahN CC) av) (Eq.trans (by kernel_rfl) h)
end Go.AM
set_option maxRecDepth 100000
set_option linter.unusedSimpArgs false
namespace Go.AM
open Go.Proofs
def uz (m k:Da):List Ed:=(cg m 0++cg k m.n)++kE m.n m.fin (m.n+k.st) (cg m 0++cg k m.n)
def sj (m k:Da):Nat:=if m.fin m.st=true then 2^m.st|||2^(m.n+k.st) else 2^m.st
def BO (m k:Da):Nat:=dS 0 k.fin m.n k.n
def qL (m k:Da):Nf:=cA m.L (m.n+k.n) (sj m k) (BO m k) (uz m k)
theorem ahP {L S:Nat} {e:Ed} (h:e.In (L:Int) (S:Int)):0≤e.f∧0≤e.l∧0≤e.t:=by unfold Ed.In at h;omega
section
variable {m k:Da} (hm:m.Ok) (hk:k.Ok) (hL:m.L=k.L)
include hm hk hL
theorem My {e:Ed} (he:e∈cg m 0++cg k m.n):e.In (m.L:Int) ((m.n+k.n:Nat):Int):=by
 rcases List.mem_append.1 he with he|he
 ·exact Mw hm (by omega) he
 ·rw[hL];exact Mw hk (by omega) he
theorem VG {e:Ed} (he:e∈uz m k):e.In (m.L:Int) ((m.n+k.n:Nat):Int):=by
 rcases List.mem_append.1 he with he|he
 ·exact My hm hk hL he
 ·obtain ⟨e',h1,h2,h3,rfl⟩:=Vq.1 he
  have:=My hm hk hL h1
  have:=hk.s
  unfold Ed.In at*
  simp only
  omega
theorem Gj (hs:m.n+k.n≤64):sg m.L (m.n+k.n) (sj m k) (BO m k) (uz m k) where
 l1:=hm.l1
 l6:=hm.l6
 om:=hs
 st:=by
  have h1:=hm.s
  have h2:=hk.s
  unfold sj
  split
  ·exact Nat.or_lt_two_pow (Nat.pow_lt_pow_right (by omega) (by omega)) (Nat.pow_lt_pow_right (by omega) (by omega))
  ·exact Nat.pow_lt_pow_right (by omega) (by omega)
 fin:=w9 (Nat.two_pow_pos _) (by omega)
 E:=fun e he=>VG hm hk hL he
 len:=by
  have h1:=nv hm (off:=0) (n:=m.n)
  have h2:=nv hk (off:=m.n) (n:=k.n)
  have h3:=Mp (l:=cg m 0++cg k m.n) (n:=m.n) (to:=m.n+k.st) (f:=m.fin)
  unfold uz
  rw[List.length_append]
  rw[List.length_append] at*
  unfold cg at*
  omega
end
section
variable {a b:Da} (ha:a.Ok) (hb:b.Ok) (hL:a.L=b.L)
include ha hb hL
theorem ahQ (hs:(minD a).n+(minD b).n≤64):CC vL (iF a (dv b))=some (mg (e9 (qL (minD a) (minD b)) a.L ((minD a).n+(minD b).n)) (mq (qL (minD a) (minD b)) a.L ((minD a).n+(minD b).n))):=by
 have hm:=qK ha
 have hk:=qK hb
 have sk:=nw ha
 have Mz:=nw hb
 have xc:(minD a).L=(minD b).L:=by rw[sk,Mz,hL]
 have bJ:=hm.s
 have hsk:=hk.s
 have hr:=agV (Gj hm hk xc hs)
 have l1:=nv hm (off:=0) (n:=(minD a).n)
 have l2:=nv hk (off:=(minD a).n) (n:=(minD b).n)
 refine VF ?_
 unfold Mx
 refine bs (ahu ha hb hL) (bF rfl ?_)
 have e0:(V.nth ((uy (minD a) (minD b) 0).drop 5) 0).toList=(minD a).cC:=rfl
 have e1:(V.nth ((((uy (minD a) (minD b) 0).drop 5).drop 1).drop 1) 0).toList=(minD b).cC:=rfl
 have e2:(V.nth (((uy (minD a) (minD b) 0).drop 2).drop 1) 0).toInt=((minD b).st:Int):=rfl
 have e3:(V.nth ((uy (minD a) (minD b) 0).drop 1) 0).toInt=((minD a).st:Int):=rfl
 rw[e0,e1,e2,e3,Da.m7,Da.m7,oD (by omega),oD (by omega)]
 refine bs (Vo hs) (bF rfl ?_)
 refine bs (Mo (l:=[]) hm (off:=0) (by omega) (by simp)) ?_
 rw[List.nil_append]
 refine bs (Mo hk (off:=(minD a).n) (by omega) (by unfold cg;omega)) ?_
 refine bs (ahn (n:=(minD a).n) (f:=(minD a).fin) (fun e he=>ahP (My hm hk xc he)) (by rw[List.length_append];unfold cg;omega) (by omega)) ?_
 refine bs (Mm (q:=(minD a).st) (by omega) (by omega)) ?_
 refine bT (KP bJ) ?_
 rw[Int.toNat_natCast]
 refine bs (zN bJ) ?_
 rw[sk] at hr
 have fin: ∀(s:Nat),s=sj (minD a) (minD b)→s<2^64→((CC vP [.list ab (minD b).cC,.int .i64 ((minD a).n:Int),.int .i64 (a.L:Int),.int .i64 (((minD a).n+(minD b).n:Nat):Int),.int .u64 (s:Int),.int .u64 ((0:Nat):Int),.list af ((uz (minD a) (minD b)).map Ed.enc)]).bind fun oG=>
    (CC rG [.int .i64 ((V.nth oG 0).toInt),.int .i64 ((V.nth (oG.drop 1) 0).toInt),.int .u64 ((V.nth ((oG.drop 1).drop 1) 0).toInt),.int .u64 ((V.nth (((oG.drop 1).drop 1).drop 1) 0).toInt),.list af ((V.nth (oG.drop 4) 0).toList)]).bind fun gf=>
    some [.int .i64 ((V.nth gf 0).toInt),.int .i64 ((V.nth (gf.drop 1) 0).toInt),.int .i64 ((V.nth (gf.drop 2) 0).toInt),.list ab ((V.nth ((gf.drop 3).drop 5) 0).toList),.list ae ((V.nth (((gf.drop 3).drop 5).drop 1) 0).toList)])=some (mg (e9 (qL (minD a) (minD b)) a.L ((minD a).n+(minD b).n)) (mq (qL (minD a) (minD b)) a.L ((minD a).n+(minD b).n))):=by
  rintro s rfl iT
  refine bs (Vp (n:=(minD b).n) (f:=(minD b).fin) (off:=(minD a).n) (by omega) (by omega)) ?_
  refine bs hr ?_
  show _=some (mg (e9 (cA (minD a).L _ _ _ _) a.L _) (mq (cA (minD a).L _ _ _ _) a.L _))
  rw[sk]
  rfl
 have p1:(2:Nat)^(minD a).st<2^64:=Nat.pow_lt_pow_right (by omega) (by omega)
 have p2:(2:Nat)^((minD a).n+(minD b).st)<2^64:=Nat.pow_lt_pow_right (by omega) (by omega)
 unfold Gi
 rw[Nat.zero_or]
 cases hf:(minD a).fin (minD a).st with
 | true=>
  refine bT rfl ?_
  rw[oD (by omega)]
  refine bs (Mm (q:=(minD a).n+(minD b).st) (by omega) p1) ?_
  exact fin _ (if_pos hf).symm (Nat.or_lt_two_pow p1 p2)
 | false=>
  refine bF rfl ?_
  exact fin _ (if_neg (by rw[hf];simp)).symm p1
end
theorem ahR {d e:Df} (hd:d.Ok) (he:e.Ok) (hv:nu d e≠0):CC vL (jb d (jb e []))=some (mg zD (nu d e)):=by
 refine VF ?_
 unfold Mx
 refine bs (ahv hd he hv) (bT (by simpa[uy] using hv) ?_)
 rfl
end Go.AM
set_option maxRecDepth 100000
set_option linter.unusedSimpArgs false
namespace Go.AM
open Go.Proofs
theorem VH {f:Nat→Bool} {off n j:Nat}:(dS 0 f off n).testBit j=true↔off≤j∧j<n+off∧f (j-off)=true:=by
 rw[Mn,Nat.zero_testBit,Bool.false_or,Bool.and_eq_true,decide_eq_true_eq,and_assoc]
section
variable {m k:Da} (hm:m.Ok) (hk:k.Ok) (hL:m.L=k.L)
include hm hk hL
end
end Go.AM
set_option maxRecDepth 100000
namespace Go.AM
open Go.Proofs
noncomputable abbrev pz:Code:=cx Tryd.prog (aw.aU 31)
noncomputable def BP (C:ag) (k' q t35 t36:Int) (t43:List V) (t44 fa fb ik gg oE oF aM aJ aP aO hG hO pA pB:Int) (bZ bB bx bC cw dR kA:List V) (t45:Int) (e7:List V) {β:Type} (kn:(Int × (List V))→Option β) (kr:(Int × Bool × (List V))→Option β):Option β:=
 bif decide ((t45:Int)<t44) then
  (idx t43 t45).bind fun x6=>
  bif (decide (0≤x6.toInt))&&(decide (x6.toInt<(bZ.length:Int))) then
  (bZ[(x6.toInt:Int).toNat]?).bind fun x7=>
  bif x7.toBool then
   bif Nat.ble ((e7.length+([.agg [.int .i64 q,.int .i64 t45,.int .i64 (IntKind.wrap .i64 (k'+gg))]]:List V).length)*24) bA then
   kn (IntKind.wrap .i64 (t45+1),e7++([.agg [.int .i64 q,.int .i64 t45,.int .i64 (IntKind.wrap .i64 (k'+gg))]]:List V))
   else none
  else
   kn (IntKind.wrap .i64 (t45+1),e7)
  else none
 else
  kr (t45,decide ((t45:Int)<t44),e7)
noncomputable def MA (C:ag) (k' q t35 t36:Int) (t43:List V) (t44 fa fb ik gg oE oF aM aJ aP aO hG hO pA pB:Int) (bZ bB bx bC cw dR kA:List V):(Int × (List V))→Option ((Int × (List V)) ⊕ (Int × Bool × (List V))):=un fun t45 e7=>BP C k' q t35 t36 t43 t44 fa fb ik gg oE oF aM aJ aP aO hG hO pA pB bZ bB bx bC cw dR kA t45 e7 (fun y=>some (.inl y)) (fun r=>some (.inr r))
noncomputable def BQ (C:ag) (k' t35 fa fb ik gg oE oF aM aJ aP aO hG hO pA pB:Int) (bZ bB bx bC cw dR kA:List V) (t36:Int) (e7:List V) {β:Type} (kn:(Int × (List V))→Option β) (kr:(Int × Bool × (List V))→Option β):Option β:=
 bif decide ((t36:Int)<t35) then
  bif (decide (0≤t36))&&(decide (t36<(bB.length:Int))) then
  (bB[(t36:Int).toNat]?).bind fun x5=>
  (Loop (MA C k' t36 t35 t36 x5.toList (x5.toList.length:Int) fa fb ik gg oE oF aM aJ aP aO hG hO pA pB bZ bB bx bC cw dR kA) (0,e7)).bind (un fun (mU:Int)=>un fun (pf:Bool) (rQ:List V)=>
   kn (IntKind.wrap .i64 (t36+1),rQ))
  else none
 else
  kr (t36,decide ((t36:Int)<t35),e7)
noncomputable def MB (C:ag) (k' t35 fa fb ik gg oE oF aM aJ aP aO hG hO pA pB:Int) (bZ bB bx bC cw dR kA:List V):(Int × (List V))→Option ((Int × (List V)) ⊕ (Int × Bool × (List V))):=un fun t36 e7=>BQ C k' t35 fa fb ik gg oE oF aM aJ aP aO hG hO pA pB bZ bB bx bC cw dR kA t36 e7 (fun y=>some (.inl y)) (fun r=>some (.inr r))
noncomputable def BR (C:ag) (k' t71 fa fb ik gg oE oF aM aJ aP aO hG hO pA pB:Int) (Gk bB bx bC cw dR e7:List V) (t72:Int) (kA:List V) {β:Type} (kn:(Int × (List V))→Option β) (kr:(Int × Bool × (List V))→Option β):Option β:=
 bif decide ((t72:Int)<t71) then
  bif (decide (0≤t72))&&(decide (t72<(Gk.length:Int))) then
  (Gk[(t72:Int).toNat]?).bind fun gJ=>
  bif Nat.ble ((kA.length+([.agg [.int .i64 (IntKind.wrap .i64 (k'+((gJ.cell 0).toInt))),.int .i64 ((gJ.cell 1).toInt),.int .i64 (IntKind.wrap .i64 (k'+((gJ.cell 2).toInt)))]]:List V).length)*24) bA then
   kn (IntKind.wrap .i64 (t72+1),kA++([.agg [.int .i64 (IntKind.wrap .i64 (k'+((gJ.cell 0).toInt))),.int .i64 ((gJ.cell 1).toInt),.int .i64 (IntKind.wrap .i64 (k'+((gJ.cell 2).toInt)))]]:List V))
  else none
  else none
 else
  kr (t72,decide ((t72:Int)<t71),kA)
noncomputable def MC (C:ag) (k' t71 fa fb ik gg oE oF aM aJ aP aO hG hO pA pB:Int) (Gk bB bx bC cw dR e7:List V):(Int × (List V))→Option ((Int × (List V)) ⊕ (Int × Bool × (List V))):=un fun t72 kA=>BR C k' t71 fa fb ik gg oE oF aM aJ aP aO hG hO pA pB Gk bB bx bC cw dR e7 t72 kA (fun y=>some (.inl y)) (fun r=>some (.inr r))
noncomputable def Gl (C:ag) (k':Int) (t98:Bool) (ik gg oE oF aM aJ aP aO hG hO pA pB:Int) (dd bZ bB bx bC cw:List V) {β:Type} (kr:(Int)→Option β):Option β:=
 bif t98 then
  (C tB [.int .i64 (IntKind.wrap .i64 (k'+gg))]).bind fun fV=>
  kr (IntKind.wrap .u64 ((BitVec.ofInt (IntKind.bits .u64) aP|||BitVec.ofInt (IntKind.bits .u64) ((V.nth fV 0).toInt)).toNat))
 else
  kr aP
noncomputable def VI (C:ag):ch:=fun β n ds k=>
 bif Nat.beq n 177 then bq IU [false,false,false,false,false,false,true,false,false,false,false,false,false,false,false,false,false,false,false,false,false,false,false,false,false,false,false,true,false] [[1,2,3,4,5,6,0,0,8,9,10,11,12,13,14,15,16,17,18,19,20,21,22,23,24,25,26,27,0,29]] (@BP C) ds k else
 bif Nat.beq n 129 then bq IV [false,false,true,false,false,false,false,false,false,false,false,false,false,false,false,false,false,false,false,false,false,false,false,true,false] [[1,2,0,0,4,5,6,7,8,9,10,11,12,13,14,15,16,17,18,19,20,21,22,23,0,25]] (@BQ C) ds k else
 bif Nat.beq n 289 then bq IW [false,false,true,false,false,false,false,false,false,false,false,false,false,false,false,false,false,false,false,false,false,false,false,false,true] [[1,2,0,0,4,5,6,7,8,9,10,11,12,13,14,15,16,17,18,19,20,21,22,23,24,0]] (@BR C) ds k else
 bif Nat.beq n 1583 then ko IX [[1,5,6,7,8,0,10,11,12,13,14,17,18,19,20]] (@Gl C) ds k else
 none
abbrev Gm (C:ag) (b:cd):Prop:=cf Tryd.prog aw C (VI C) 31 (cG Tryd.prog (aw.aU 31)) (aw.sin 31).aZ.length b
theorem ahS (C:ag):Gm C (.loop (ar [1,1,1,1,1,1,0,1,0,0,1,1,0,0,1,1,0,0] pz)):=
 bu IU [false,false,false,false,false,false,true,false,false,false,false,false,false,false,false,false,false,false,false,false,false,false,false,false,false,false,false,true,false] [[1,2,3,4,5,6,0,0,8,9,10,11,12,13,14,15,16,17,18,19,20,21,22,23,24,25,26,27,0,29]] (@BP C) (by kernel_rfl) (aR (bs:=[]) (by kernel_rfl) av) (fun ds=>by kernel_rfl) (fun i x=>by kernel_rfl) (fun i x β k=>by kernel_rfl) (fun β ds k=>by kernel_rfl)
theorem ahT (C:ag):Gm C (.loop (ar [1,1,1,1,1,1,0,1,0,0] pz)):=
 bu IV [false,false,true,false,false,false,false,false,false,false,false,false,false,false,false,false,false,false,false,false,false,false,false,true,false] [[1,2,0,0,4,5,6,7,8,9,10,11,12,13,14,15,16,17,18,19,20,21,22,23,0,25]] (@BQ C) (by kernel_rfl) (aR (bs:=[.loop (ar [1,1,1,1,1,1,0,1,0,0,1,1,0,0,1,1,0,0] pz)]) (by kernel_rfl) (bd (ahS C) av)) (fun ds=>by kernel_rfl) (fun i x=>by kernel_rfl) (fun i x β k=>by kernel_rfl) (fun β ds k=>by kernel_rfl)
theorem ahU (C:ag):Gm C (.loop (ar [1,1,1,1,1,1,1,0,1,0,0] pz)):=
 bu IW [false,false,true,false,false,false,false,false,false,false,false,false,false,false,false,false,false,false,false,false,false,false,false,false,true] [[1,2,0,0,4,5,6,7,8,9,10,11,12,13,14,15,16,17,18,19,20,21,22,23,24,0]] (@BR C) (by kernel_rfl) (aR (bs:=[]) (by kernel_rfl) av) (fun ds=>by kernel_rfl) (fun i x=>by kernel_rfl) (fun i x β k=>by kernel_rfl) (fun β ds k=>by kernel_rfl)
theorem ahV (C:ag):Gm C (.cond 98 (ar [1,1,1,1,1,1,1,1,0,1,0] pz) (ar [1,1,1,1,1,1,1,1,0,1,1] pz)):=
 kV IX [[1,5,6,7,8,0,10,11,12,13,14,17,18,19,20]] (@Gl C) (by kernel_rfl) (aR (bs:=[]) (by kernel_rfl) av) (aR (bs:=[]) (by kernel_rfl) av) (fun ds=>by kernel_rfl) (fun i β k=>by kernel_rfl) (fun β ds k=>by kernel_rfl)
noncomputable def VJ (C:ag) (b8 ct:Int) (cb cO:List V) (cI cL:Int) (cM dp:List V):Option (List V):=
 (C vM [.int .i64 b8,.int .i64 ct,.list ab cb,.list ae cO]).bind fun r1=>
 (C vM [.int .i64 cI,.int .i64 cL,.list ab cM,.list ae dp]).bind fun r2=>
 (C yT [.int .i64 ((V.nth r1 0).toInt),.int .i64 ((V.nth (r1.drop 1) 0).toInt),.list ab ((V.nth (r1.drop 2) 0).toList),.list ae ((V.nth ((r1.drop 2).drop 1) 0).toList)]).bind fun r3=>
 (C yT [.int .i64 ((V.nth r2 0).toInt),.int .i64 ((V.nth (r2.drop 1) 0).toInt),.list ab ((V.nth (r2.drop 2) 0).toList),.list ae ((V.nth ((r2.drop 2).drop 1) 0).toList)]).bind fun r4=>
 bif decide (((IntKind.wrap .i64 (((V.nth (r3.drop 1) 0).toInt)+((V.nth (r4.drop 1) 0).toInt))):Int)>64) then
  some [.int .i64 0,.int .i64 0,.int .i64 3,.list ab ([]:List V),.list ae ([]:List V)]
 else
  (Loop (MB C ((V.nth (r3.drop 1) 0).toInt) (((V.nth (r1.drop 2) 0).toList).length:Int) ((V.nth r1 0).toInt) ((V.nth (r1.drop 1) 0).toInt) ((V.nth r2 0).toInt) ((V.nth (r2.drop 1) 0).toInt) 0 0 ((V.nth r3 0).toInt) (IntKind.wrap .i64 (((V.nth (r3.drop 1) 0).toInt)+((V.nth (r4.drop 1) 0).toInt))) ((V.nth ((r3.drop 1).drop 1) 0).toInt) ((V.nth (((r3.drop 1).drop 1).drop 1) 0).toInt) ((V.nth r4 0).toInt) ((V.nth (r4.drop 1) 0).toInt) ((V.nth ((r4.drop 1).drop 1) 0).toInt) ((V.nth (((r4.drop 1).drop 1).drop 1) 0).toInt) ((V.nth (r1.drop 2) 0).toList) ((V.nth ((r1.drop 2).drop 1) 0).toList) ((V.nth (r2.drop 2) 0).toList) ((V.nth ((r2.drop 2).drop 1) 0).toList) ([]:List V) ([]:List V) ((V.nth (r4.drop 4) 0).toList)) (0,(V.nth (r3.drop 4) 0).toList)).bind (un fun (FD:Int)=>un fun (wq:Bool) (rN:List V)=>
   (Loop (MC C ((V.nth (r3.drop 1) 0).toInt) (((V.nth (r4.drop 4) 0).toList).length:Int) ((V.nth r1 0).toInt) ((V.nth (r1.drop 1) 0).toInt) ((V.nth r2 0).toInt) ((V.nth (r2.drop 1) 0).toInt) 0 0 ((V.nth r3 0).toInt) (IntKind.wrap .i64 (((V.nth (r3.drop 1) 0).toInt)+((V.nth (r4.drop 1) 0).toInt))) ((V.nth ((r3.drop 1).drop 1) 0).toInt) ((V.nth (((r3.drop 1).drop 1).drop 1) 0).toInt) ((V.nth r4 0).toInt) ((V.nth (r4.drop 1) 0).toInt) ((V.nth ((r4.drop 1).drop 1) 0).toInt) ((V.nth (((r4.drop 1).drop 1).drop 1) 0).toInt) ((V.nth (r4.drop 4) 0).toList) ((V.nth (r1.drop 2) 0).toList) ((V.nth ((r1.drop 2).drop 1) 0).toList) ((V.nth (r2.drop 2) 0).toList) ((V.nth ((r2.drop 2).drop 1) 0).toList) ([]:List V) ([]:List V)) (0,rN)).bind (un fun (S8:Int)=>un fun (wa:Bool) (pj:List V)=>
    bif (decide (0≤((V.nth (r1.drop 1) 0).toInt)))&&(decide (((V.nth (r1.drop 1) 0).toInt)<(((V.nth (r1.drop 2) 0).toList).length:Int))) then
    (((V.nth (r1.drop 2) 0).toList)[((V.nth (r1.drop 1) 0).toInt:Int).toNat]?).bind fun rP=>
    Gl C ((V.nth (r3.drop 1) 0).toInt) rP.toBool ((V.nth r2 0).toInt) ((V.nth (r2.drop 1) 0).toInt) 0 0 ((V.nth r3 0).toInt) (IntKind.wrap .i64 (((V.nth (r3.drop 1) 0).toInt)+((V.nth (r4.drop 1) 0).toInt))) ((V.nth ((r3.drop 1).drop 1) 0).toInt) ((V.nth (((r3.drop 1).drop 1).drop 1) 0).toInt) ((V.nth r4 0).toInt) ((V.nth (r4.drop 1) 0).toInt) ((V.nth ((r4.drop 1).drop 1) 0).toInt) ((V.nth (((r4.drop 1).drop 1).drop 1) 0).toInt) ((V.nth (r2.drop 2) 0).toList) ((V.nth ((r2.drop 2).drop 1) 0).toList) ([]:List V) ([]:List V) pj ((V.nth (r4.drop 4) 0).toList) (fun (ahW:Int)=>
     bif decide (0≤(IntKind.wrap .u64 ((V.nth (r3.drop 1) 0).toInt))) then
      (C DU [.int .i64 ((V.nth r3 0).toInt),.int .i64 (IntKind.wrap .i64 (((V.nth (r3.drop 1) 0).toInt)+((V.nth (r4.drop 1) 0).toInt))),.int .u64 ahW,.int .u64 (IntKind.wrap .u64 (((V.nth (((r4.drop 1).drop 1).drop 1) 0).toInt)*2^(min (IntKind.wrap .u64 ((V.nth (r3.drop 1) 0).toInt)).toNat (IntKind.bits .u64)))),.list af pj]).bind fun kD=>
      some [.int .i64 ((V.nth kD 0).toInt),.int .i64 ((V.nth (kD.drop 1) 0).toInt),.int .i64 ((V.nth (kD.drop 2) 0).toInt),.list ab ((V.nth (kD.drop 3) 0).toList),.list ae ((V.nth ((kD.drop 3).drop 1) 0).toList)]
     else none)
    else none))
theorem ahX {b8 ct:Int} {cb cO:List V} {cI cL:Int} {cM dp:List V} {r:Option (List V)} (h:VJ CC b8 ct cb cO cI cL cM dp=r):CC DO [.int .i64 b8,.int .i64 ct,.list ab cb,.list ae cO,.int .i64 cI,.int .i64 cL,.list ab cM,.list ae dp]=r:=
 bj (key:=31) (L:=VI CC) (bs:=[.loop (ar [1,1,1,1,1,1,0,1,0,0] pz),.loop (ar [1,1,1,1,1,1,1,0,1,0,0] pz),.cond 98 (ar [1,1,1,1,1,1,1,1,0,1,0] pz) (ar [1,1,1,1,1,1,1,1,0,1,1] pz)]) (by kernel_rfl) (bd (ahT CC) (bd (ahU CC) (bd (ahV CC) av))) (Eq.trans (by kernel_rfl) h)
end Go.AM
set_option maxRecDepth 100000
set_option linter.unusedSimpArgs false
namespace Go.AM
open Go.Proofs
def ja (m k:Da) (p:Nat) (n:Nat):List Ed:=(List.range n).flatMap fun x=>if m.fin (m.nx p x)=true then [eF p x (m.n+k.st)] else []
theorem VK {m k:Da} {p n:Nat}:ja m k p (n+1)=ja m k p n++(if m.fin (m.nx p n)=true then [eF p n (m.n+k.st)] else []):=by simp[ja,List.range_succ]
theorem Gn {m k:Da} {p:Nat}: ∀{n:Nat},(ja m k p n).length≤n
 | 0=>by simp[ja]
 | n+1=>by
  rw[VK,List.length_append]
  have:=Gn (m:=m) (k:=k) (p:=p) (n:=n)
  split
  ·rw[List.length_singleton];omega
  ·rw[List.length_nil];omega
def xd (d:Nat) (e:Ed):Ed:=⟨(d:Int)+e.f,e.l,(d:Int)+e.t⟩
def xe (m k:Da):List Ed:=(cg m 0++fm m.n fun p=>ja m k p m.L)++(cg k 0).map (xd m.n)
theorem MD {d p x q:Nat}:xd d (eF p x q)=eF (p+d) x (q+d):=by
 show Ed.mk ((d:Int)+(p:Int)) (x:Int) ((d:Int)+(q:Int))=Ed.mk ((p+d:Nat):Int) (x:Int) ((q+d:Nat):Int)
 rw[Ed.mk.injEq]
 exact ⟨by omega,rfl,by omega⟩
section
variable {m k:Da} (hm:m.Ok) (hk:k.Ok) (hL:m.L=k.L)
include hm hk hL
omit hk hL in
theorem VL {e:Ed}:e∈xe m k↔e∈uz m k:=by
 unfold xe uz
 have h1:(∃i,i<m.n∧e∈ja m k i m.L)↔e∈kE m.n m.fin (m.n+k.st) (cg m 0++cg k m.n):=by
  rw[Vq]
  unfold ja
  simp only[List.mem_flatMap,List.mem_range]
  constructor
  ·rintro ⟨p,hp,x,hx,h⟩
   split at h
   ·next c=>
    rw[List.mem_singleton] at h
    exact ⟨eF p x (m.nx p x),List.mem_append_left _ (si.2 ⟨p,x,hp,hx,rfl⟩),hm.eO hp hx,c,h⟩
   ·cases h
  ·rintro ⟨e',h1,h2,h3,rfl⟩
   rcases List.mem_append.1 h1 with h1|h1
   ·obtain ⟨p,x,hp,hx,rfl⟩:=si.1 h1
    have nH:m.fin (m.nx p x)=true:=h3
    refine ⟨p,hp,x,hx,?_⟩
    rw[if_pos nH]
    exact List.mem_singleton.2 rfl
   ·obtain ⟨p,x,hp,hx,rfl⟩:=si.1 h1
    have:(eF (p+m.n) x (k.nx p x+m.n)).t.toNat=k.nx p x+m.n:=rfl
    omega
 have h2:e∈(cg k 0).map (xd m.n)↔e∈cg k m.n:=by
  rw[List.mem_map,si]
  constructor
  ·rintro ⟨e',g1,g2⟩
   obtain ⟨p,x,hp,hx,rfl⟩:=si.1 g1
   exact ⟨p,x,hp,hx,g2.symm.trans MD⟩
  ·rintro ⟨p,x,hp,hx,rfl⟩
   exact ⟨_,si.2 ⟨p,x,hp,hx,rfl⟩,MD⟩
 rw[List.mem_append,List.mem_append,List.mem_append,List.mem_append,Mk,h1,h2,or_assoc,or_assoc,or_comm (a:=e∈kE _ _ _ _)]
theorem ahY (hs:m.n+k.n≤64):sg m.L (m.n+k.n) (sj m k) (BO m k) (xe m k) where
 l1:=hm.l1
 l6:=hm.l6
 om:=hs
 st:=(Gj hm hk hL hs).st
 fin:=(Gj hm hk hL hs).fin
 E:=fun e he=>VG hm hk hL ((VL hm).1 he)
 len:=by
  have h1:=nv hm (off:=0) (n:=m.n)
  have h2:=nv hk (off:=0) (n:=k.n)
  have h3:(fm m.n fun p=>ja m k p m.L).length≤m.n*6:=BK fun p _=>Nat.le_trans Gn hm.l6
  unfold xe
  rw[List.length_append,List.length_append,List.length_map]
  unfold cg
  omega
end
theorem ahZ {f:Nat→Bool} {d n:Nat}:dS 0 f 0 n*2^d=dS 0 f d n:=by
 refine Nat.eq_of_testBit_eq fun j=> ?_
 rw[Nat.testBit_mul_two_pow,Bool.eq_iff_iff,Bool.and_eq_true,VH,VH,decide_eq_true_eq]
 rw[Nat.sub_zero]
 constructor
 ·rintro ⟨h1,h2,h3,h4⟩;exact ⟨h1,by omega,h4⟩
 ·rintro ⟨h1,h2,h3⟩;exact ⟨h1,by omega,by omega,h3⟩
section
variable {a b:Da} (ha:a.Ok) (hb:b.Ok) (hL:a.L=b.L)
include ha hb hL
theorem ah0 (hs:(minD a).n+(minD b).n≤64):CC DO (iF a (dv b))=some (mg (e9 (qL (minD a) (minD b)) a.L ((minD a).n+(minD b).n)) (mq (qL (minD a) (minD b)) a.L ((minD a).n+(minD b).n))):=by
 have hm:=qK ha
 have hk:=qK hb
 have sk:=nw ha
 have Mz:=nw hb
 have xc:(minD a).L=(minD b).L:=by rw[sk,Mz,hL]
 have bJ:=hm.s
 have hsk:=hk.s
 have hm6:=hm.l6
 have hr:=agW (ahY hm hk xc hs)
 have en:cA (minD a).L ((minD a).n+(minD b).n) (sj (minD a) (minD b)) (BO (minD a) (minD b)) (xe (minD a) (minD b))=qL (minD a) (minD b):=by
  unfold qL cA
  rw[agU fun e=>VL hm (e:=e)]
 rw[en,sk] at hr
 have l1:=nv hm (off:=0) (n:=(minD a).n)
 have l2:=nv hk (off:=0) (n:=(minD b).n)
 have l3: ∀i,(fm i fun p=>ja (minD a) (minD b) p (minD a).L).length≤i*6:=fun i=>BK fun p _=>Nat.le_trans Gn hm6
 refine ahX ?_
 unfold VJ
 refine bs (Lm ha) ?_
 refine bs (Lm hb) ?_
 refine bs (Vr hm (by omega)) ?_
 refine bs (Vr hk (by omega)) ?_
 simp only[aN,dv,iF,V.bQ,List.drop_succ_cons,List.drop_zero,V.toInt_int,V.n8,Da.m7,List.length_map]
 rw[oD (by omega)]
 refine bF (decide_eq_false (by omega)) ?_
 refine bs (qJ (minD a).n (fun i=>((i:Int),(cg (minD a) 0++fm i fun p=>ja (minD a) (minD b) p (minD a).L).map Ed.enc)) (((minD a).n:Int),false,(cg (minD a) 0++fm (minD a).n fun p=>ja (minD a) (minD b) p (minD a).L).map Ed.enc) (by rw[Vn,List.append_nil];rfl) (fun p hp=> ?_) ?_) ?_
 ·have l4:=l3 p
  simp only[MB,BQ,un]
  refine bT (dm hp) ?_
  refine (ey (i:=p) hp).trans ?_
  rw[show (fo (minD a).L ((minD a).nx p)).toList=tab (minD a).L fun x=>nV ((minD a).nx p x) from rfl,dA]
  refine bs (qJ (minD a).L (fun i=>((i:Int),((cg (minD a) 0++fm p fun p=>ja (minD a) (minD b) p (minD a).L)++ja (minD a) (minD b) p i).map Ed.enc)) (((minD a).L:Int),false,((cg (minD a) 0++fm p fun p=>ja (minD a) (minD b) p (minD a).L)++ja (minD a) (minD b) p (minD a).L).map Ed.enc) (by rw[show ja (minD a) (minD b) p 0=[] from rfl,List.append_nil];rfl) (fun x hx=> ?_) ?_) ?_
  ·have l5:=Gn (m:=minD a) (k:=minD b) (p:=p) (n:=x)
   simp only[MA,BP,un]
   refine bT (dm hx) ?_
   refine bs (mZ hx) ?_
   refine (ey (i:=(minD a).nx p x) (hm.eO hp hx)).trans ?_
   rw[VK,oD (by omega)]
   cases hf:(minD a).fin ((minD a).nx p x) with
   | true=>
    refine bT rfl ?_
    refine bT (cap (by rw[List.length_map,List.length_append,List.length_append];unfold cg;simp;omega) (by omega)) ?_
    rw[Ge,cz (by omega),if_pos rfl,←List.append_assoc]
   | false=>
    refine bF rfl ?_
    rw[cz (by omega),if_neg (by simp),List.append_nil]
  ·simp only[MA,BP,un]
   refine bF (bp (Nat.le_refl _)) ?_
   rw[bp (Nat.le_refl _)]
  ·simp only[un]
   rw[cz (by omega),BJ,←List.append_assoc]
 ·simp only[MB,BQ,un]
  refine bF (bp (Nat.le_refl _)) ?_
  rw[bp (Nat.le_refl _)]
 ·simp only[un]
  have l4:=l3 (minD a).n
  refine bs (qJ (cg (minD b) 0).length (fun i=>((i:Int),((cg (minD a) 0++fm (minD a).n fun p=>ja (minD a) (minD b) p (minD a).L)++((cg (minD b) 0).take i).map (xd (minD a).n)).map Ed.enc)) (((cg (minD b) 0).length:Int),false,(xe (minD a) (minD b)).map Ed.enc) (by rw[List.take_zero,List.map_nil,List.append_nil];rfl) (fun i hi=> ?_) ?_) ?_
  ·have hl:((cg (minD b) 0).take i).length≤i:=List.length_take_le _ _
   have qP:(cg (minD b) 0).length≤(minD b).n*6:=l2
   simp only[MC,BR,un]
   refine bT (dm hi) ?_
   refine (lY (i:=i) (v:=(cg (minD b) 0)[i].enc) (by simp[hi])).trans ?_
   obtain ⟨p,x,hp,hx,he⟩:=si.1 (List.getElem_mem hi)
   have hq:=hk.eO hp hx
   rw[Ed.da,Ed.db,Ed.dc]
   have t1:(cg (minD b) 0)[i].f=((p+0:Nat):Int):=by rw[he];rfl
   have t2:(cg (minD b) 0)[i].l=(x:Int):=by rw[he];rfl
   have t3:(cg (minD b) 0)[i].t=(((minD b).nx p x+0:Nat):Int):=by rw[he];rfl
   rw[t1,t2,t3,oD (by omega),oD (by omega)]
   refine bT (cap (by rw[List.length_map,List.length_append,List.length_append,List.length_map];unfold cg at*;simp;omega) (by omega)) ?_
   have e6:((cg (minD b) 0).take (i+1)).map (xd (minD a).n)=((cg (minD b) 0).take i).map (xd (minD a).n)++[eF (p+0+(minD a).n) x ((minD b).nx p x+0+(minD a).n)]:=by rw[List.take_succ_eq_append_getElem hi,List.map_append,List.map_singleton,he,MD]
   rw[Ge,cz (by omega),e6,←List.append_assoc,Nat.add_comm (minD a).n (p+0),Nat.add_comm (minD a).n ((minD b).nx p x+0)]
  ·simp only[MC,BR,un]
   refine bF (bp (Nat.le_refl _)) ?_
   rw[bp (Nat.le_refl _),List.take_length]
   rfl
  ·simp only[un]
   refine bT (KP bJ) ?_
   rw[Int.toNat_natCast]
   refine bs (zN bJ) ?_
   have p1:(2:Nat)^(minD a).st<2^64:=Nat.pow_lt_pow_right (by omega) (by omega)
   have p2:(2:Nat)^((minD a).n+(minD b).st)<2^64:=Nat.pow_lt_pow_right (by omega) (by omega)
   have p3:dS 0 (minD b).fin (minD a).n (minD b).n<2^64:=w9 (Nat.two_pow_pos _) (by omega)
   have es:IntKind.wrap .u64 ((dS 0 (minD b).fin 0 (minD b).n:Int)*2^(min (IntKind.wrap .u64 ((minD a).n:Int)).toNat (IntKind.bits .u64)))=((BO (minD a) (minD b):Nat):Int):=by
    rw[oe (by omega),Int.toNat_natCast,show min (minD a).n (IntKind.bits .u64)=(minD a).n from Nat.min_eq_left (show (minD a).n≤64 by omega),show ((dS 0 (minD b).fin 0 (minD b).n:Int)*2^(minD a).n)=((dS 0 (minD b).fin 0 (minD b).n*2^(minD a).n:Nat):Int) by rw[Int.natCast_mul,Int.natCast_pow];rfl,ahZ,oe p3]
    rfl
   have eb:decide (0≤IntKind.wrap .u64 ((minD a).n:Int))=true:=by rw[oe (by omega)];exact decide_eq_true (by omega)
   unfold Gl
   cases hf:(minD a).fin (minD a).st with
   | true=>
    refine bT rfl ?_
    rw[oD (by omega)]
    refine bs (EB (by omega)) ?_
    rw[show (V.nth [V.int .u64 ((2^((minD a).n+(minD b).st):Nat):Int)] 0).toInt=((2^((minD a).n+(minD b).st):Nat):Int) from rfl,u64_or p1 p2,show 2^(minD a).st|||2^((minD a).n+(minD b).st)=sj (minD a) (minD b) from (if_pos hf).symm]
    refine bT eb ?_
    rw[es,sk]
    refine bs hr ?_
    rfl
   | false=>
    refine bF rfl ?_
    rw[show ((2^(minD a).st:Nat):Int)=((sj (minD a) (minD b):Nat):Int) from congrArg _ (if_neg (by rw[hf];simp)).symm]
    refine bT eb ?_
    rw[es,sk]
    refine bs hr ?_
    rfl
end
end Go.AM
set_option maxRecDepth 100000
set_option linter.unusedSimpArgs false
namespace Go.AM
open Go.Proofs
inductive qM (K:List Nat→Prop):List Nat→Prop
 | nil:qM K []
 | app {u v:List Nat}:u≠[]→K u→qM K v→qM K (u++v)
section
variable {K:List Nat→Prop}
theorem qM.one {w:List Nat} (h:K w):qM K w:=by
 by_cases hw:w=[]
 ·rw[hw];exact .nil
 ·have:=qM.app hw h .nil
  rwa [List.append_nil] at this
theorem qM.ext {K2:List Nat→Prop} {L:Nat} (h: ∀u,WL L u→(K u↔K2 u)) {w:List Nat} (hw:WL L w):qM K w↔qM K2 w:=by
 constructor
 ·intro hr
  induction hr with
  | nil=>exact .nil
  | app g1 g2 _ ih=>exact .app g1 ((h _ (WL.app.1 hw).1).1 g2) (ih (WL.app.1 hw).2)
 ·intro hr
  induction hr with
  | nil=>exact .nil
  | app g1 g2 _ ih=>exact .app g1 ((h _ (WL.app.1 hw).1).2 g2) (ih (WL.app.1 hw).2)
end
section
variable {m:Da} (hm:m.Ok)
include hm
end
end Go.AM
set_option maxRecDepth 100000
set_option linter.unusedSimpArgs false
namespace Go.AM
open Go.Proofs
section
variable {m:Da} (hm:m.Ok)
include hm
end
def Ed.rev (e:Ed):Ed:=⟨e.t,e.l,e.f⟩
@[simp] theorem Ed.rev_rev (e:Ed):e.rev.rev=e:=rfl
theorem WL.rev {L:Nat} {w:List Nat} (h:WL L w):WL L w.reverse:=fun x hx=>h x (List.mem_reverse.1 hx)
section
variable {m:Da} (hm:m.Ok)
include hm
end
section
variable {m:Da} (hm:m.Ok)
include hm
end
end Go.AM
set_option maxRecDepth 100000
set_option linter.unusedSimpArgs false
namespace Go.AM
open Go.Proofs
namespace Da
end Da
structure oH (X:Da) (L:Nat) (K:List Nat→Prop):Prop where
 ok:X.Ok
 hL:X.L=L
 min:minD X=X
 lf: ∀w,WL L w→(X.acc X.st w=true↔K w)
theorem oH.eq {X Y:Da} {L:Nat} {K K':List Nat→Prop} (h:oH X L K) (h':oH Y L K') (e: ∀w,WL L w→(K w↔K' w)):X=Y:=by
 rw[←h.min,←h'.min]
 refine Vx h.ok h'.ok (h.hL.trans h'.hL.symm) fun w hw=> ?_
 have jm:WL L w:=h.hL▸hw
 rw[Bool.eq_iff_iff,h.lf w jm,h'.lf w jm,e w jm]
theorem oH.ext {X:Da} {L:Nat} {K K':List Nat→Prop} (h:oH X L K) (e: ∀w,WL L w→(K w↔K' w)):oH X L K':=⟨h.ok,h.hL,h.min,fun w hw=>(h.lf w hw).trans (e w hw)⟩
theorem oH.acc {X:Da} {L:Nat} {K:List Nat→Prop} (h:oH X L K) {w:List Nat} (hw:WL L w) {b:Bool} (e:K w↔b=true):X.acc X.st w=b:=by
 rw[Bool.eq_iff_iff,h.lf w hw,e]
section
variable {L S st fin:Nat} {l:List Ed} (h:sg L S st fin l)
include h
theorem ah1 (hn: ¬fO (cA L S st fin l) L S):oH (e9 (cA L S st fin l) L S) L (BL st fin l) where
 ok:=ahB h hn
 hL:=ahC h hn
 min:=by
  unfold e9
  rw[if_neg hn]
  exact ahs (ua (nt h) hn)
 lf:=fun _ hw=>ahD h hn hw
theorem ah2 (hn: ¬fO (cA L S st fin l) L S):(e9 (cA L S st fin l) L S).n≤2^S:=by
 have h1:=Mr (ua (nt h) hn)
 have h2:=tZ (nt h) (2^S)
 have h3:(eE (cA L S st fin l) L S).n=(dP (cA L S st fin l) L S).length:=kp
 unfold e9
 rw[if_neg hn]
 unfold dP at h3
 omega
theorem VM:(mq (cA L S st fin l) L S=0∧oH (e9 (cA L S st fin l) L S) L (BL st fin l)∧(e9 (cA L S st fin l) L S).n≤2^S)∨(mq (cA L S st fin l) L S=3∧e9 (cA L S st fin l) L S=zD∧9<S):=by
 by_cases hn:fO (cA L S st fin l) L S
 ·refine .inr ⟨if_pos hn,if_pos hn,?_⟩
  rcases Nat.lt_or_ge 9 S with c|c
  ·exact c
  ·exact absurd hn (ahE h c)
 ·exact .inl ⟨if_neg hn,ah1 h hn,ah2 h hn⟩
theorem ah3:CC rE (iF (e9 (cA L S st fin l) L S) (dv (e9 (cA L S st fin l) L S)))=some [.bool true]:=by
 rcases VM h with ⟨_,h2,_⟩|⟨_,h2,_⟩
 ·exact h2.ok.same
 ·rw[h2];exact U6
end
def VN (r:Option (List V)) (L S:Nat) (K:List Nat→Prop):Prop:=(∃X,r=some (mg X 0)∧oH X L K∧X.n≤2^S)∨(r=some (mg zD 3)∧9<S)
theorem VN.of {L S st fin:Nat} {l:List Ed} (h:sg L S st fin l) {r:Option (List V)} (e:r=some (mg (e9 (cA L S st fin l) L S) (mq (cA L S st fin l) L S))) {K:List Nat→Prop} (hK: ∀w,WL L w→(BL st fin l w↔K w)):VN r L S K:=by
 rcases VM h with ⟨h1,h2,h3⟩|⟨h1,h2,h3⟩
 ·exact .inl ⟨_,by rw[e,h1],h2.ext hK,h3⟩
 ·exact .inr ⟨by rw[e,h1,h2],h3⟩
end Go.AM
set_option maxRecDepth 100000
set_option linter.unusedSimpArgs false
namespace Go.AM
open Go.Proofs
def eG:Da:=⟨2,0,[false,true],[[1,0],[0,1]]⟩
def mr:Da:=⟨2,0,[false,true],[[1,0],[1,1]]⟩
theorem BT:eG.Ok:=⟨by decide,by decide,by decide,by decide,by decide,by decide⟩
theorem Gp:mr.Ok:=⟨by decide,by decide,by decide,by decide,by decide,by decide⟩
theorem ah4:eG.Canon eG.L (eG.acc eG.st) where
 ok:=BT
 hL:=rfl
 st:=rfl
 num:=⟨by decide,by decide,by decide⟩
 red:=fun p q hp hq h=>by
  have h0:=h [] WL.nil
  have hp':p<2:=hp
  have bY:q<2:=hq
  have: ∀p,p<2→∀q,q<2→eG.acc p []=eG.acc q []→p=q:=by decide
  exact this p hp' q bY h0
 lf:=fun _ _=>rfl
theorem ah5:mr.Canon mr.L (mr.acc mr.st) where
 ok:=Gp
 hL:=rfl
 st:=rfl
 num:=⟨by decide,by decide,by decide⟩
 red:=fun p q hp hq h=>by
  have h0:=h [] WL.nil
  have hp':p<2:=hp
  have bY:q<2:=hq
  have: ∀p,p<2→∀q,q<2→mr.acc p []=mr.acc q []→p=q:=by decide
  exact this p hp' q bY h0
 lf:=fun _ _=>rfl
theorem VO:minD eG=eG:=(wv BT ah4).symm
theorem ah6:eE (xb eG) 2 2=mr:=by kernel_rfl
theorem VP: ¬fO (xb eG) 2 2:=by
 have:=tZ (nt (VD BT (by decide))) (2^2)
 exact fun h=>absurd (Nat.lt_of_lt_of_le h this) (by decide)
theorem ah7:e9 (xb eG) 2 2=mr:=by
 unfold e9
 rw[if_neg VP,ah6]
 exact (wv Gp ah5).symm
end Go.AM
set_option maxRecDepth 100000
namespace Go.AM
open Go.Proofs
noncomputable def VQ (C:ag):Option (List V):=
 (C DT []).bind fun r1=>
 (C DP [.int .i64 ((V.nth r1 0).toInt),.int .i64 ((V.nth (r1.drop 1) 0).toInt),.list ab ((V.nth (r1.drop 2) 0).toList),.list ae ((V.nth ((r1.drop 2).drop 1) 0).toList)]).bind fun r2=>
 bif (((V.nth (r2.drop 2) 0).toInt):Int)==0 then
  bif ((((V.nth (r2.drop 3) 0).toList).length:Int):Int)==2 then
  (C yQ [.int .i64 ((V.nth r2 0).toInt),.int .i64 ((V.nth (r2.drop 1) 0).toInt),.list ab ((V.nth (r2.drop 3) 0).toList),.list ae ((V.nth ((r2.drop 3).drop 1) 0).toList),.str [98,97,97]]).bind fun r3=>
  bif (V.nth r3 0).toBool then
   (C yQ [.int .i64 ((V.nth r2 0).toInt),.int .i64 ((V.nth (r2.drop 1) 0).toInt),.list ab ((V.nth (r2.drop 3) 0).toList),.list ae ((V.nth ((r2.drop 3).drop 1) 0).toList),.str [98,98]]).bind fun r4=>
   some [.bool (!((V.nth r4 0).toBool))]
  else
   some [.bool false]
  else
  some [.bool false]
 else
  some [.bool false]
theorem ah8 {r:Option (List V)} (h:VQ CC=r):CC vK []=r:=
 bj (key:=19) (L:=cT) (bs:=[]) (by kernel_rfl) av (Eq.trans (by kernel_rfl) h)
end Go.AM
set_option maxRecDepth 100000
namespace Go.AM
open Go.Proofs
noncomputable def ah9 (C:ag):Option (List V):=
 some [.int .i64 2,.int .i64 0,.list ab ([.bool false,.bool true]:List V),.list ae ([.list ah ([.int .i64 1,.int .i64 0]:List V),.list ah ([.int .i64 0,.int .i64 1]:List V)]:List V)]
theorem aia {r:Option (List V)} (h:ah9 CC=r):CC DT []=r:=
 bj (key:=59) (L:=cT) (bs:=[]) (by kernel_rfl) av (Eq.trans (by kernel_rfl) h)
end Go.AM
set_option maxRecDepth 100000
set_option linter.unusedSimpArgs false
namespace Go.AM
open Go.Proofs
def VR:List Ed:=[⟨0,0,1⟩,⟨0,1,0⟩,⟨1,0,0⟩,⟨1,1,1⟩,⟨0,0,0⟩,⟨0,1,0⟩,⟨1,0,1⟩,⟨1,1,1⟩]
def ME:List Ed:=[⟨0,0,0⟩,⟨0,0,1⟩,⟨0,1,0⟩,⟨0,1,0⟩,⟨1,0,0⟩,⟨1,0,1⟩,⟨1,1,1⟩,⟨1,1,1⟩]
def Gq:List Ed:=[⟨0,0,0⟩,⟨0,0,1⟩,⟨0,1,0⟩,⟨1,0,0⟩,⟨1,0,1⟩,⟨1,1,1⟩]
theorem aib:cg eG 0++jy 2 2=VR:=by decide
theorem aic:CC yW [.list af (VR.map Ed.enc)]=some [.list af (ME.map Ed.enc)]:=ZK (N:=40) (n:=40) (by kernel_rfl)
theorem aid:xb eG=⟨2,2,1,2,Gq⟩:=by kernel_rfl
theorem aie:CC rG (aN 2 2 (2^eG.st) (dS 0 eG.fin 0 2) (cg eG 0++jy 2 2))=some (L4 mr 0 ⟨2,2,1,2,Gq⟩):=by
 obtain ⟨b,e2⟩:=TP (l:=ME) (by decide)
 have hc:ib ME=Gq:=by decide
 rw[hc] at e2
 have e3:=UZ (nt (VD BT (by decide)))
 rw[show cA eG.L eG.n (2^eG.st) (dS 0 eG.fin 0 eG.n) (cg eG 0++jy eG.L eG.n)=xb eG from rfl,show eG.L=2 from rfl,show eG.n=2 from rfl,ah7,show mq (xb eG) 2 2=0 from if_neg VP,aid] at e3
 rw[aib]
 refine UX ?_
 unfold L0
 refine bs aic ?_
 refine bs e2 ?_
 cases b
 ·refine bF rfl ?_
  refine bs e3 ?_
  rfl
 ·refine bT rfl ?_
  refine bs e3 ?_
  rfl
theorem MF:CC vK []=some [.bool true]:=by
 have h1:CC DT []=some (dv eG):=aia rfl
 have h2:=ahK BT (X:=mr) (e:=0) (n:=⟨2,2,1,2,Gq⟩) (by rw[VO];decide) (by rw[VO];exact aie)
 refine ah8 ?_
 unfold VQ
 refine bs h1 ?_
 refine bs h2 ?_
 refine bT rfl (bT (by decide) ?_)
 refine bs (R4 Gp (w:=[98,97,97]) (by decide)) ?_
 refine bT (by decide) ?_
 refine bs (R4 Gp (w:=[98,98]) (by decide)) ?_
 rw[show mr.acc mr.st (lets [98,98])=false by decide]
 rfl
end Go.AM
set_option maxRecDepth 100000
namespace Go.AM
open Go.Proofs
noncomputable def Gr (C:ag) (b8 ct:Int) (cb cO:List V) (cI cL:Int) (cM dp:List V):Option (List V):=
 (C yP [.int .i64 b8,.int .i64 ct,.list ab cb,.list ae cO,.int .i64 cI,.int .i64 cL,.list ab cM,.list ae dp]).bind fun r1=>
 bif (((V.nth r1 0).toInt):Int) != 0 then
  (C vL [.int .i64 b8,.int .i64 ct,.list ab cb,.list ae cO,.int .i64 cI,.int .i64 cL,.list ab cM,.list ae dp]).bind fun r2=>
  (C yO [.int .i64 ((V.nth r2 0).toInt),.int .i64 ((V.nth (r2.drop 1) 0).toInt),.list ab ((V.nth (r2.drop 3) 0).toList),.list ae ((V.nth ((r2.drop 3).drop 1) 0).toList),.int .i64 ((V.nth (r2.drop 2) 0).toInt),.int .i64 0,.int .i64 0,.list ab ([]:List V),.list ae ([]:List V),.int .i64 ((V.nth r1 0).toInt)]).bind fun r3=>
  bif (V.nth r3 0).toBool then
  (C vK []).bind fun r4=>
  some [.bool ((V.nth r4 0).toBool)]
  else
  some [.bool false]
 else
  (C DN [.int .i64 b8,.int .i64 ct,.list ab cb,.list ae cO,.int .i64 cI,.int .i64 cL,.list ab cM,.list ae dp,.int .i64 4]).bind fun r5=>
  bif !((V.nth r5 0).toBool) then
  (C vK []).bind fun r6=>
  some [.bool ((V.nth r6 0).toBool)]
  else
  (C vL [.int .i64 b8,.int .i64 ct,.list ab cb,.list ae cO,.int .i64 cI,.int .i64 cL,.list ab cM,.list ae dp]).bind fun r7=>
  (C DO [.int .i64 b8,.int .i64 ct,.list ab cb,.list ae cO,.int .i64 cI,.int .i64 cL,.list ab cM,.list ae dp]).bind fun r8=>
  (C yO [.int .i64 ((V.nth r7 0).toInt),.int .i64 ((V.nth (r7.drop 1) 0).toInt),.list ab ((V.nth (r7.drop 3) 0).toList),.list ae ((V.nth ((r7.drop 3).drop 1) 0).toList),.int .i64 ((V.nth (r7.drop 2) 0).toInt),.int .i64 ((V.nth r8 0).toInt),.int .i64 ((V.nth (r8.drop 1) 0).toInt),.list ab ((V.nth (r8.drop 3) 0).toList),.list ae ((V.nth ((r8.drop 3).drop 1) 0).toList),.int .i64 ((V.nth (r8.drop 2) 0).toInt)]).bind fun r9=>
  bif (V.nth r9 0).toBool then
   (C vK []).bind fun r10=>
   some [.bool ((V.nth r10 0).toBool)]
  else
   some [.bool false]
theorem MG {b8 ct:Int} {cb cO:List V} {cI cL:Int} {cM dp:List V} {r:Option (List V)} (h:Gr CC b8 ct cb cO cI cL cM dp=r):CC IH [.int .i64 b8,.int .i64 ct,.list ab cb,.list ae cO,.int .i64 cI,.int .i64 cL,.list ab cM,.list ae dp]=r:=
 bj (key:=7) (L:=cT) (bs:=[]) (by kernel_rfl) av (Eq.trans (by kernel_rfl) h)
end Go.AM
set_option maxRecDepth 100000
set_option linter.unusedSimpArgs false
namespace Go.AM
open Go.Proofs
theorem VV (d:Df) (hd:d.Ok) (e:Df) (he:e.Ok):CC IH (jb d (jb e []))=some [.bool true]:=by
 have hP:=U7 hd he
 have hB:=ahx hd he 4
 by_cases hv:nu d e=0
 case neg=>
  refine MG ?_
  unfold Gr
  refine bs hP ?_
  refine bT (by simpa using hv) ?_
  refine bs (ahR hd he hv) ?_
  refine bs (Vy U6 _) (bT rfl ?_)
  exact bs MF rfl
 by_cases h4:(d.F.length:Int)≤4∧(e.F.length:Int)≤4∧nu d e=0
 case neg=>
  rw[decide_eq_false h4] at hB
  refine MG ?_
  unfold Gr
  refine bs hP ?_
  refine bF (by simp[hv]) ?_
  refine bs hB (bT rfl ?_)
  exact bs MF rfl
 rw[decide_eq_true h4] at hB
 rw[hv] at hP
 obtain ⟨a,b,ha,hb,hL,rfl,rfl⟩:=ahw hv
 have n1:(a.n:Int)≤4:=h4.1
 have n2:(b.n:Int)≤4:=h4.2.1
 have n3:=Mr ha
 have n4:=Mr hb
 have xc:(minD a).L=(minD b).L:=by rw[nw ha,nw hb,hL]
 have hs:(minD a).n+(minD b).n≤64:=by omega
 have hq:=ah3 (Gj (qK ha) (qK hb) xc hs)
 rw[nw ha] at hq
 rw[ha.leaves,hb.leaves] at*
 have r1:=ahQ ha hb hL hs
 have r2:=ah0 ha hb hL hs
 unfold qL at r1 r2
 rw[nw ha] at r1 r2
 refine MG ?_
 unfold Gr
 refine bs hP (bF rfl ?_)
 refine bs hB (bF rfl ?_)
 refine bs r1 ?_
 refine bs r2 ?_
 refine bs (Vy hq _) (bT rfl ?_)
 exact bs MF rfl
end Go.AM
set_option maxRecDepth 100000
namespace Go.AM
open Go.Proofs
theorem WT.MH {P:Program} {t:TypeId} {x:V} (hu:P.underlying t=some (.int .i64)) (h:WT P t x): ∃n:Int,x= .int .i64 n∧ -9223372036854775808≤n∧n≤9223372036854775807:=by
 obtain ⟨n,rfl,h1,h2⟩:=h.eu hu
 have e1:IntKind.min .i64= -9223372036854775808:=by decide
 have e2:IntKind.max .i64=9223372036854775807:=by decide
 rw[e1] at h1
 rw[e2] at h2
 exact ⟨n,rfl,h1,h2⟩
theorem aif {α:Type} {l:List α} (h:l.length=4): ∃a b c d,l=[a,b,c,d]:=by
 match l,h with
 | [a,b,c,d],_=>exact ⟨a,b,c,d,rfl⟩
theorem aih {x:V} (h:gY Tryd.prog ae x): ∃r:List Int,x=kq r∧(r.length≤maxLen∧∀q∈r,-9223372036854775808≤q∧q≤9223372036854775807):=by
 have hu:Tryd.prog.underlying ae=some (.slice ah):=by kernel_rfl
 have hi:Tryd.prog.underlying ah=some (.int .i64):=by kernel_rfl
 obtain ⟨es,rfl,e1,e2⟩:=WT.Iv hu (gY.one (by kernel_rfl) h)
 obtain ⟨r,rfl,hr⟩:=Iw (f:=iV) (p:=fun q=> -9223372036854775808≤q∧q≤9223372036854775807) fun y hy=>WT.MH hi (gY.one (by kernel_rfl) (e2 y hy))
 exact ⟨r,rfl,by simpa using e1,hr⟩
def Df.enc (d:Df):V:= .agg (jb d [])
theorem MJ {t:TypeId} {x:V} (ha:bH Tryd.prog t=true) (he:aV Tryd.prog t=[ah,ah,II,IJ]) (h:gY Tryd.prog t x): ∃d:Df,x=d.enc∧d.Ok:=by
 obtain ⟨xs,rfl,hl,hx⟩:=gY.ka ha h
 rw[he] at hl
 obtain ⟨a,b,c,d,rfl⟩:=aif hl
 have hu:Tryd.prog.underlying ah=some (.int .i64):=by kernel_rfl
 have hb:Tryd.prog.underlying ab=some .bool:=by kernel_rfl
 have hv:Tryd.prog.underlying II=some (.slice ab):=by kernel_rfl
 have hw:Tryd.prog.underlying IJ=some (.slice ae):=by kernel_rfl
 obtain ⟨L,rfl,l1,l2⟩:=WT.MH hu (hx 0 ah a (by rw[he];rfl) rfl)
 obtain ⟨S,rfl,s1,s2⟩:=WT.MH hu (hx 1 ah b (by rw[he];rfl) rfl)
 obtain ⟨fs,rfl,f1,f2⟩:=WT.Iv hv (hx 2 II c (by rw[he];rfl) rfl)
 obtain ⟨ns,rfl,n1,n2⟩:=WT.Iv hw (hx 3 IJ d (by rw[he];rfl) rfl)
 obtain ⟨F,rfl⟩:=Qa (f:=V.bool) fun y hy=>WT.ji hb (gY.one (by kernel_rfl) (f2 y hy))
 obtain ⟨N,rfl,hN⟩:=Iw (f:=kq) fun y hy=>aih (n2 y hy)
 exact ⟨⟨L,S,F,N⟩,rfl,l1,l2,s1,s2,by simpa using f1,by simpa using n1,hN⟩
end Go.AM
