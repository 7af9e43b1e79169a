/-
  Functions of the program, lifted to plain data.
-/
import Derived.Sort.AssemblyPlain
import Derived.Test.YtppefogdkedaiaaP4
set_option linter.unusedVariables false
set_option linter.unusedSimpArgs false
set_option maxRecDepth 100000
namespace Go.AM
open Go.Proofs Ex
def fP (k:Ex):Bool:=decide (k.op=1)
def gB (k:Ex):Bool:=decide (k.op=2)
theorem Bv (k:Ex):CC mW (bS k [])=some [.bool (fP k)]:=by
 refine aeH ?_
 unfold Tw fP
 rw[Gm]
theorem Gv (k:Ex):CC o6 (bS k [])=some [.bool (gB k)]:=by
 refine aeI ?_
 unfold Tx gB
 rw[Gm]
theorem Bw (k:Ex):CC mV (bS k [])=some [.bool (univ k)]:=by
 obtain ⟨o,l,ks⟩:=k
 refine aeJ ?_
 unfold Tz univ
 simp only[Ex.op,Ex.kids,df,aL]
 by_cases h1:o=8
 ·rw[aj h1]
  match ks with
  | []=>simp
  | [k]=>
   rw[aj (by simp)]
   simp only[cy,fD,List.getElem?_cons_zero,Option.bind_some,aW,bc,a9]
   refine (congrArg (fun o=>Option.bind o _) (Bv k)).trans ?_
   simp only[h1,fP]
   simp
   rfl
  | k::k2::ks=>
   rw[ai (by simp<;>omega)]
   simp
 ·rw[ai h1];simp[h1]
theorem lD {l:List Ex} {j:Nat} (h:j<l.length):l.take (j+1)=l.take j++[l.getD j aR]:=by
 rw[List.take_succ_eq_append_getElem h];simp[h]
theorem Bx {l ss:List Ex} {j:Nat} (hl:ss.length=l.length) (h:ss.drop j=l.drop j) (hj:j<l.length):ss.getD j aR=l.getD j aR:=by
 have h1:=congrArg (fun x:List Ex=>x.getD 0 aR) h
 simpa[hj,hl] using h1
theorem pb {l:List Ex} {i:Nat} (h:i<l.length):(l.map enc)[i]? =some (l.getD i aR).enc:=by simp[h]
theorem Gw (ss:List Ex) (m:Nat) (z:V) (hm:m≤ss.length):((((ss.map enc).take m++(List.replicate ((ss.map enc).length-m) z++(ss.map enc).drop (m+((ss.map enc).length-m)))).take m)=(ss.take m).map enc):=by
 rw[List.take_append_of_le_length (by simp;omega),zj (by simp;omega),List.map_take]
theorem aeY {ks:List Ex} (hlen:ks.length≤1000000): ∀(ax pre:List Ex),ks=pre++ax→(∀k∈pre,fP k=false)→
  (ks.any fP=false∧∃t,Loop (ve CC (ks.map enc) ((ks.map enc).length:Int)) ((pre.length:Nat):Int)=some (.inr t))∨
  (∃i:Nat,i<ks.length∧fP (ks.getD i aR)=true∧(∀k∈ks.take i,fP k=false)∧Loop (ve CC (ks.map enc) ((ks.map enc).length:Int)) ((pre.length:Nat):Int)=some (.inl (i:Int))):=by
 intro ax
 induction ax with
 | nil=>
  intro pre aY hp
  rw[cR] at aY
  subst aY
  refine .inl ⟨xY hp,⟨(((ks.length:Nat):Int),false),aS ?_⟩⟩
  ·simp only[ve,xZ,aL,az]
   rw[ai (by omega),b7 (by omega)]
 | cons k ax ih=>
  intro pre aY hp
  have bU:pre.length<ks.length:=by rw[aY];simp
  have bI:idx (ks.map enc) (pre.length:Int)=some k.enc:=by rw[aY];exact ga _ _ _
  cases hk:fP k with
  | true=>
   refine .inr ⟨pre.length,bU,by rw[aY];simpa using hk,by rw[aY];simpa using hp,aS ?_⟩
   simp only[ve,xZ,aL,az]
   rw[aj (by omega),bI]
   simp only[Option.bind_some,aW,bc,a9]
   refine (congrArg (fun o=>Option.bind o _) (Bv k)).trans ?_
   simp only[Option.bind_some,V.aT,V.ee]
   rw[hk,cond_true]
  | false=>
   have bQ:ve CC (ks.map enc) ((ks.map enc).length:Int) ((pre.length:Nat):Int)=some (.inl (((pre++[k]).length:Nat):Int)):=by
    simp only[ve,xZ,aL,az]
    rw[aj (by omega),bI]
    simp only[Option.bind_some,aW,bc,a9]
    refine (congrArg (fun o=>Option.bind o _) (Bv k)).trans ?_
    simp only[Option.bind_some,V.aT,V.ee]
    rw[hk,cond_false,wrap64 (by omega) (by omega)]
    simp
   rw[bJ bQ]
   refine ih (pre++[k]) (by rw[aY];simp) fun x hx=> ?_
   rcases eQ.1 hx with hx|hx
   ·exact hp x hx
   ·rw[ez.1 hx];exact hk
theorem TU {ks:List Ex} (hlen:ks.length≤1000000):
  (ks.any fP=false∧CC ru [.list aa (ks.map enc)]=some [.int .i64 (-1)])∨
  (∃i:Nat,i<ks.length∧fP (ks.getD i aR)=true∧(∀k∈ks.take i,fP k=false)∧CC ru [.list aa (ks.map enc)]=some [.int .i64 (i:Int)]):=by
 rcases aeY hlen ks [] rfl (by simp) with ⟨h1,t,U⟩|⟨i,h1,U,h3,h4⟩
 ·refine .inl ⟨h1,TC ?_⟩
  unfold Mu
  refine (congrArg (fun o=>Option.bind o _) U).trans ?_
  rfl
 ·refine .inr ⟨i,h1,U,h3,TC ?_⟩
  unfold Mu
  refine (congrArg (fun o=>Option.bind o _) h4).trans ?_
  rfl
theorem aeZ {ks:List Ex} (hlen:ks.length≤1000000):CC sP [.list aa (ks.map enc)]=some [.bool (ks.any fP)]:=by
 refine aeM ?_
 unfold TD
 rcases TU hlen with ⟨h1,U⟩|⟨i,h1,U,h3,h4⟩
 ·refine (congrArg (fun o=>Option.bind o _) U).trans ?_
  rw[h1];rfl
 ·refine (congrArg (fun o=>Option.bind o _) h4).trans ?_
  rw[oB.2 ⟨_,by rw[show ks.getD i aR=ks[i] by simp[h1]];exact List.getElem_mem h1,U⟩]
  simp
theorem ae0 {ks:List Ex} (hn:ks.length≤1000000): ∀(d j i:Nat) (ss:List Ex),j+d=ks.length→i≤j→ss.length=ks.length→ss.take i=(ks.take j).filter (fun k=> !(fP k))→ss.drop j=ks.drop j→
  ∃t fh,Loop (vf CC) ((i:Int),(j:Int),ss.map enc)=some (((ks.filter (fun k=> !(fP k))).length:Int),(ks.length:Int),t,List.map enc fh)∧fh.take (ks.filter (fun k=> !(fP k))).length=ks.filter (fun k=> !(fP k))∧fh.length=ks.length:=by
 intro d
 induction d with
 | zero=>
  intro j i ss hj hi hl ht hd
  obtain rfl:j=ks.length:=by omega
  rw[qo] at ht
  have hZ:i=(ks.filter (fun k=> !(fP k))).length:=by rw[←ht,fe];omega
  refine ⟨false,ss,aS ?_,by rw[←hZ];exact ht,hl⟩
  simp only[vf,ya,un,aL,az]
  rw[ai (by omega),b7 (by omega),hZ]
 | succ d ih=>
  intro j i ss hj hi hl ht hd
  have cl:j<ks.length:=by omega
  have hg:=Bx hl hd cl
  have jf:ss.drop (j+1)=ks.drop (j+1):=by rw[←qs,←qs,hd]
  have hx:(ss.map enc)[j]? =some (ks.getD j aR).enc:=by rw[pb (by omega),hg]
  have t1:((j:Nat):Int)<(ss.length:Int):=by omega
  have t2:(0:Int)≤((j:Nat):Int):=by omega
  have t3:((i:Nat):Int)<(ss.length:Int):=by omega
  have t4:(0:Int)≤((i:Nat):Int):=by omega
  have bI: ∃y,(ss.map enc)[i]? =some y:=⟨_,pb (by omega)⟩
  obtain ⟨y,hy⟩:=bI
  cases hk:fP (ks.getD j aR) with
  | true=>
   have bQ:vf CC ((i:Int),(j:Int),ss.map enc)=some (.inl ((i:Int),((j+1:Nat):Int),ss.map enc)):=by
    simp only[vf,ya,un,aL,az,cY,t1,t2,cO,Int.toNat_natCast,hx,Option.bind_some,aW,bc,a9]
    refine (congrArg (fun o=>Option.bind o _) (Bv (ks.getD j aR))).trans ?_
    simp only[Option.bind_some,V.aT,V.ee]
    rw[hk,qq,cond_false,wrap64 (by omega) (by omega)]
    rfl
   rw[bJ bQ]
   refine ih (j+1) i ss (by omega) (by omega) hl ?_ jf
   rw[lD cl,nr,ht,pA,hk]
   simp
  | false=>
   have bQ:vf CC ((i:Int),(j:Int),ss.map enc)=some (.inl (((i+1:Nat):Int),((j+1:Nat):Int),(ss.set i (ks.getD j aR)).map enc)):=by
    simp only[vf,ya,un,aL,az,cY,t1,t2,t3,t4,cO,Int.toNat_natCast,hx,hy,Option.bind_some,aW,bc,a9]
    refine (congrArg (fun o=>Option.bind o _) (Bv (ks.getD j aR))).trans ?_
    simp only[Option.bind_some,V.aT,V.ee]
    rw[hk,tD,cond_true,wrap64 (by omega) (by omega),wrap64 (by omega) (by omega),←dg,zl]
    rfl
   rw[bJ bQ]
   refine ih (j+1) (i+1) (ss.set i (ks.getD j aR)) (by omega) (by omega) (by simpa using hl) ?_ ?_
   ·rw[lD (by rw[oz];omega),Dj (b9 i),ht,lD cl,nr,pA,hk]
    simp[show i<ss.length by omega]
   ·rw[Dk (by omega),jf]
theorem ae1 {ks:List Ex} (hn:ks.length≤1000000): ∃b,CC FO [.list aa (ks.map enc)]=some [.bool b,.list aa ((ks.filter (fun k=> !(fP k))).map enc)]:=by
 rcases TU hn with ⟨h1,U⟩|⟨i,h1,U,h3,h4⟩
 ·refine ⟨true,TG ?_⟩
  unfold Mv
  refine (congrArg (fun o=>Option.bind o _) U).trans ?_
  rw[oD.2 fun k hk=>show (!(fP k))=true by rw[any_false (p:=fP) (by rw[h1];simp) k hk];rfl]
  rfl
 ·have hf:(ks.take (i+1)).filter (fun k=> !(fP k))=ks.take i:=by
   rw[lD h1,nr,pA,U,oD.2 fun k hk=>show (!(fP k))=true by rw[h3 k hk];rfl]
   simp
  obtain ⟨t,fh,e1,e2,e3⟩:=ae0 hn (ks.length-(i+1)) (i+1) i ks (by omega) (by omega) rfl hf.symm rfl
  refine ⟨false,TG ?_⟩
  unfold Mv
  refine (congrArg (fun o=>Option.bind o _) h4).trans ?_
  simp only[Option.bind_some,V.aT,V.toInt_int,df]
  rw[ai (by omega),wrap64 (by omega) (by omega)]
  refine (congrArg (fun o=>Option.bind o _) e1).trans ?_
  have hm:(ks.filter (fun k=> !(fP k))).length≤fh.length:=by rw[e3];exact tE _ _
  have t1:((((ks.filter (fun k=> !(fP k))).length:Nat):Int)≤((fh.map enc).length:Int)):=by rw[aL];omega
  simp only[Option.bind_some,un,cY,az,Int.toNat_natCast]
  rw[aj (by omega),aj t1,aj (by omega),aj (by simp only[bZ,fe,tB,pw];omega),Gw _ _ _ hm,e2]
theorem ae2 {ks:List Ex} (hlen:ks.length≤1000000): ∀(ax pre:List Ex),ks=pre++ax→(∀k∈pre,gB k=false)→
  (ks.any gB=false∧∃t,Loop (vg CC (ks.map enc) ((ks.map enc).length:Int)) ((pre.length:Nat):Int)=some (.inr t))∨
  (∃i:Nat,i<ks.length∧gB (ks.getD i aR)=true∧(∀k∈ks.take i,gB k=false)∧Loop (vg CC (ks.map enc) ((ks.map enc).length:Int)) ((pre.length:Nat):Int)=some (.inl (i:Int))):=by
 intro ax
 induction ax with
 | nil=>
  intro pre aY hp
  rw[cR] at aY
  subst aY
  refine .inl ⟨xY hp,⟨(((ks.length:Nat):Int),false),aS ?_⟩⟩
  ·simp only[vg,yb,aL,az]
   rw[ai (by omega),b7 (by omega)]
 | cons k ax ih=>
  intro pre aY hp
  have bU:pre.length<ks.length:=by rw[aY];simp
  have bI:idx (ks.map enc) (pre.length:Int)=some k.enc:=by rw[aY];exact ga _ _ _
  cases hk:gB k with
  | true=>
   refine .inr ⟨pre.length,bU,by rw[aY];simpa using hk,by rw[aY];simpa using hp,aS ?_⟩
   simp only[vg,yb,aL,az]
   rw[aj (by omega),bI]
   simp only[Option.bind_some,aW,bc,a9]
   refine (congrArg (fun o=>Option.bind o _) (Gv k)).trans ?_
   simp only[Option.bind_some,V.aT,V.ee]
   rw[hk,cond_true]
  | false=>
   have bQ:vg CC (ks.map enc) ((ks.map enc).length:Int) ((pre.length:Nat):Int)=some (.inl (((pre++[k]).length:Nat):Int)):=by
    simp only[vg,yb,aL,az]
    rw[aj (by omega),bI]
    simp only[Option.bind_some,aW,bc,a9]
    refine (congrArg (fun o=>Option.bind o _) (Gv k)).trans ?_
    simp only[Option.bind_some,V.aT,V.ee]
    rw[hk,cond_false,wrap64 (by omega) (by omega)]
    simp
   rw[bJ bQ]
   refine ih (pre++[k]) (by rw[aY];simp) fun x hx=> ?_
   rcases eQ.1 hx with hx|hx
   ·exact hp x hx
   ·rw[ez.1 hx];exact hk
theorem ae3 {ks:List Ex} (hlen:ks.length≤1000000):
  (ks.any gB=false∧CC FN [.list aa (ks.map enc)]=some [.int .i64 (-1)])∨
  (∃i:Nat,i<ks.length∧gB (ks.getD i aR)=true∧(∀k∈ks.take i,gB k=false)∧CC FN [.list aa (ks.map enc)]=some [.int .i64 (i:Int)]):=by
 rcases ae2 hlen ks [] rfl (by simp) with ⟨h1,t,U⟩|⟨i,h1,U,h3,h4⟩
 ·refine .inl ⟨h1,TJ ?_⟩
  unfold Mx
  refine (congrArg (fun o=>Option.bind o _) U).trans ?_
  rfl
 ·refine .inr ⟨i,h1,U,h3,TJ ?_⟩
  unfold Mx
  refine (congrArg (fun o=>Option.bind o _) h4).trans ?_
  rfl
theorem ae4 {ks:List Ex} (hn:ks.length≤1000000): ∀(d j i:Nat) (ss:List Ex),j+d=ks.length→i≤j→ss.length=ks.length→ss.take i=(ks.take j).filter (fun k=> !(gB k))→ss.drop j=ks.drop j→
  ∃t fh,Loop (vh CC) ((i:Int),(j:Int),ss.map enc)=some (((ks.filter (fun k=> !(gB k))).length:Int),(ks.length:Int),t,List.map enc fh)∧fh.take (ks.filter (fun k=> !(gB k))).length=ks.filter (fun k=> !(gB k))∧fh.length=ks.length:=by
 intro d
 induction d with
 | zero=>
  intro j i ss hj hi hl ht hd
  obtain rfl:j=ks.length:=by omega
  rw[qo] at ht
  have hZ:i=(ks.filter (fun k=> !(gB k))).length:=by rw[←ht,fe];omega
  refine ⟨false,ss,aS ?_,by rw[←hZ];exact ht,hl⟩
  simp only[vh,yc,un,aL,az]
  rw[ai (by omega),b7 (by omega),hZ]
 | succ d ih=>
  intro j i ss hj hi hl ht hd
  have cl:j<ks.length:=by omega
  have hg:=Bx hl hd cl
  have jf:ss.drop (j+1)=ks.drop (j+1):=by rw[←qs,←qs,hd]
  have hx:(ss.map enc)[j]? =some (ks.getD j aR).enc:=by rw[pb (by omega),hg]
  have t1:((j:Nat):Int)<(ss.length:Int):=by omega
  have t2:(0:Int)≤((j:Nat):Int):=by omega
  have t3:((i:Nat):Int)<(ss.length:Int):=by omega
  have t4:(0:Int)≤((i:Nat):Int):=by omega
  have bI: ∃y,(ss.map enc)[i]? =some y:=⟨_,pb (by omega)⟩
  obtain ⟨y,hy⟩:=bI
  cases hk:gB (ks.getD j aR) with
  | true=>
   have bQ:vh CC ((i:Int),(j:Int),ss.map enc)=some (.inl ((i:Int),((j+1:Nat):Int),ss.map enc)):=by
    simp only[vh,yc,un,aL,az,cY,t1,t2,cO,Int.toNat_natCast,hx,Option.bind_some,aW,bc,a9]
    refine (congrArg (fun o=>Option.bind o _) (Gv (ks.getD j aR))).trans ?_
    simp only[Option.bind_some,V.aT,V.ee]
    rw[hk,qq,cond_false,wrap64 (by omega) (by omega)]
    rfl
   rw[bJ bQ]
   refine ih (j+1) i ss (by omega) (by omega) hl ?_ jf
   rw[lD cl,nr,ht,pA,hk]
   simp
  | false=>
   have bQ:vh CC ((i:Int),(j:Int),ss.map enc)=some (.inl (((i+1:Nat):Int),((j+1:Nat):Int),(ss.set i (ks.getD j aR)).map enc)):=by
    simp only[vh,yc,un,aL,az,cY,t1,t2,t3,t4,cO,Int.toNat_natCast,hx,hy,Option.bind_some,aW,bc,a9]
    refine (congrArg (fun o=>Option.bind o _) (Gv (ks.getD j aR))).trans ?_
    simp only[Option.bind_some,V.aT,V.ee]
    rw[hk,tD,cond_true,wrap64 (by omega) (by omega),wrap64 (by omega) (by omega),←dg,zl]
    rfl
   rw[bJ bQ]
   refine ih (j+1) (i+1) (ss.set i (ks.getD j aR)) (by omega) (by omega) (by simpa using hl) ?_ ?_
   ·rw[lD (by rw[oz];omega),Dj (b9 i),ht,lD cl,nr,pA,hk]
    simp[show i<ss.length by omega]
   ·rw[Dk (by omega),jf]
theorem ae5 {ks:List Ex} (hn:ks.length≤1000000): ∃b,CC FM [.list aa (ks.map enc)]=some [.bool b,.list aa ((ks.filter (fun k=> !(gB k))).map enc)]:=by
 rcases ae3 hn with ⟨h1,U⟩|⟨i,h1,U,h3,h4⟩
 ·refine ⟨true,TM ?_⟩
  unfold My
  refine (congrArg (fun o=>Option.bind o _) U).trans ?_
  rw[oD.2 fun k hk=>show (!(gB k))=true by rw[any_false (p:=gB) (by rw[h1];simp) k hk];rfl]
  rfl
 ·have hf:(ks.take (i+1)).filter (fun k=> !(gB k))=ks.take i:=by
   rw[lD h1,nr,pA,U,oD.2 fun k hk=>show (!(gB k))=true by rw[h3 k hk];rfl]
   simp
  obtain ⟨t,fh,e1,e2,e3⟩:=ae4 hn (ks.length-(i+1)) (i+1) i ks (by omega) (by omega) rfl hf.symm rfl
  refine ⟨false,TM ?_⟩
  unfold My
  refine (congrArg (fun o=>Option.bind o _) h4).trans ?_
  simp only[Option.bind_some,V.aT,V.toInt_int,df]
  rw[ai (by omega),wrap64 (by omega) (by omega)]
  refine (congrArg (fun o=>Option.bind o _) e1).trans ?_
  have hm:(ks.filter (fun k=> !(gB k))).length≤fh.length:=by rw[e3];exact tE _ _
  have t1:((((ks.filter (fun k=> !(gB k))).length:Nat):Int)≤((fh.map enc).length:Int)):=by rw[aL];omega
  simp only[Option.bind_some,un,cY,az,Int.toNat_natCast]
  rw[aj (by omega),aj t1,aj (by omega),aj (by simp only[bZ,fe,tB,pw];omega),Gw _ _ _ hm,e2]
theorem ae6 {ks:List Ex} (hlen:ks.length≤1000000): ∀(ax pre:List Ex),ks=pre++ax→(∀k∈pre,univ k=false)→
  (ks.any univ=false∧∃t,Loop (vi CC (ks.map enc) ((ks.map enc).length:Int)) ((pre.length:Nat):Int)=some (.inr t))∨
  (∃i:Nat,i<ks.length∧univ (ks.getD i aR)=true∧(∀k∈ks.take i,univ k=false)∧Loop (vi CC (ks.map enc) ((ks.map enc).length:Int)) ((pre.length:Nat):Int)=some (.inl (i:Int))):=by
 intro ax
 induction ax with
 | nil=>
  intro pre aY hp
  rw[cR] at aY
  subst aY
  refine .inl ⟨xY hp,⟨(((ks.length:Nat):Int),false),aS ?_⟩⟩
  ·simp only[vi,yd,aL,az]
   rw[ai (by omega),b7 (by omega)]
 | cons k ax ih=>
  intro pre aY hp
  have bU:pre.length<ks.length:=by rw[aY];simp
  have bI:idx (ks.map enc) (pre.length:Int)=some k.enc:=by rw[aY];exact ga _ _ _
  cases hk:univ k with
  | true=>
   refine .inr ⟨pre.length,bU,by rw[aY];simpa using hk,by rw[aY];simpa using hp,aS ?_⟩
   simp only[vi,yd,aL,az]
   rw[aj (by omega),bI]
   simp only[Option.bind_some,aW,bc,a9]
   refine (congrArg (fun o=>Option.bind o _) (Bw k)).trans ?_
   simp only[Option.bind_some,V.aT,V.ee]
   rw[hk,cond_true]
  | false=>
   have bQ:vi CC (ks.map enc) ((ks.map enc).length:Int) ((pre.length:Nat):Int)=some (.inl (((pre++[k]).length:Nat):Int)):=by
    simp only[vi,yd,aL,az]
    rw[aj (by omega),bI]
    simp only[Option.bind_some,aW,bc,a9]
    refine (congrArg (fun o=>Option.bind o _) (Bw k)).trans ?_
    simp only[Option.bind_some,V.aT,V.ee]
    rw[hk,cond_false,wrap64 (by omega) (by omega)]
    simp
   rw[bJ bQ]
   refine ih (pre++[k]) (by rw[aY];simp) fun x hx=> ?_
   rcases eQ.1 hx with hx|hx
   ·exact hp x hx
   ·rw[ez.1 hx];exact hk
theorem TV {ks:List Ex} (hlen:ks.length≤1000000):
  (ks.any univ=false∧CC A6 [.list aa (ks.map enc)]=some [.int .i64 (-1)])∨
  (∃i:Nat,i<ks.length∧univ (ks.getD i aR)=true∧(∀k∈ks.take i,univ k=false)∧CC A6 [.list aa (ks.map enc)]=some [.int .i64 (i:Int)]):=by
 rcases ae6 hlen ks [] rfl (by simp) with ⟨h1,t,U⟩|⟨i,h1,U,h3,h4⟩
 ·refine .inl ⟨h1,TP ?_⟩
  unfold Mz
  refine (congrArg (fun o=>Option.bind o _) U).trans ?_
  rfl
 ·refine .inr ⟨i,h1,U,h3,TP ?_⟩
  unfold Mz
  refine (congrArg (fun o=>Option.bind o _) h4).trans ?_
  rfl
theorem ae7 {ks:List Ex} (hlen:ks.length≤1000000):CC Ki [.list aa (ks.map enc)]=some [.bool (ks.any univ)]:=by
 refine aeV ?_
 unfold TQ
 rcases TV hlen with ⟨h1,U⟩|⟨i,h1,U,h3,h4⟩
 ·refine (congrArg (fun o=>Option.bind o _) U).trans ?_
  rw[h1];rfl
 ·refine (congrArg (fun o=>Option.bind o _) h4).trans ?_
  rw[oB.2 ⟨_,by rw[show ks.getD i aR=ks[i] by simp[h1]];exact List.getElem_mem h1,U⟩]
  simp
theorem ae8 {ks:List Ex} (hn:ks.length≤1000000): ∀(d j i:Nat) (ss:List Ex),j+d=ks.length→i≤j→ss.length=ks.length→ss.take i=(ks.take j).filter (fun k=> !(univ k))→ss.drop j=ks.drop j→
  ∃t fh,Loop (vj CC) ((i:Int),(j:Int),ss.map enc)=some (((ks.filter (fun k=> !(univ k))).length:Int),(ks.length:Int),t,List.map enc fh)∧fh.take (ks.filter (fun k=> !(univ k))).length=ks.filter (fun k=> !(univ k))∧fh.length=ks.length:=by
 intro d
 induction d with
 | zero=>
  intro j i ss hj hi hl ht hd
  obtain rfl:j=ks.length:=by omega
  rw[qo] at ht
  have hZ:i=(ks.filter (fun k=> !(univ k))).length:=by rw[←ht,fe];omega
  refine ⟨false,ss,aS ?_,by rw[←hZ];exact ht,hl⟩
  simp only[vj,ye,un,aL,az]
  rw[ai (by omega),b7 (by omega),hZ]
 | succ d ih=>
  intro j i ss hj hi hl ht hd
  have cl:j<ks.length:=by omega
  have hg:=Bx hl hd cl
  have jf:ss.drop (j+1)=ks.drop (j+1):=by rw[←qs,←qs,hd]
  have hx:(ss.map enc)[j]? =some (ks.getD j aR).enc:=by rw[pb (by omega),hg]
  have t1:((j:Nat):Int)<(ss.length:Int):=by omega
  have t2:(0:Int)≤((j:Nat):Int):=by omega
  have t3:((i:Nat):Int)<(ss.length:Int):=by omega
  have t4:(0:Int)≤((i:Nat):Int):=by omega
  have bI: ∃y,(ss.map enc)[i]? =some y:=⟨_,pb (by omega)⟩
  obtain ⟨y,hy⟩:=bI
  cases hk:univ (ks.getD j aR) with
  | true=>
   have bQ:vj CC ((i:Int),(j:Int),ss.map enc)=some (.inl ((i:Int),((j+1:Nat):Int),ss.map enc)):=by
    simp only[vj,ye,un,aL,az,cY,t1,t2,cO,Int.toNat_natCast,hx,Option.bind_some,aW,bc,a9]
    refine (congrArg (fun o=>Option.bind o _) (Bw (ks.getD j aR))).trans ?_
    simp only[Option.bind_some,V.aT,V.ee]
    rw[hk,qq,cond_false,wrap64 (by omega) (by omega)]
    rfl
   rw[bJ bQ]
   refine ih (j+1) i ss (by omega) (by omega) hl ?_ jf
   rw[lD cl,nr,ht,pA,hk]
   simp
  | false=>
   have bQ:vj CC ((i:Int),(j:Int),ss.map enc)=some (.inl (((i+1:Nat):Int),((j+1:Nat):Int),(ss.set i (ks.getD j aR)).map enc)):=by
    simp only[vj,ye,un,aL,az,cY,t1,t2,t3,t4,cO,Int.toNat_natCast,hx,hy,Option.bind_some,aW,bc,a9]
    refine (congrArg (fun o=>Option.bind o _) (Bw (ks.getD j aR))).trans ?_
    simp only[Option.bind_some,V.aT,V.ee]
    rw[hk,tD,cond_true,wrap64 (by omega) (by omega),wrap64 (by omega) (by omega),←dg,zl]
    rfl
   rw[bJ bQ]
   refine ih (j+1) (i+1) (ss.set i (ks.getD j aR)) (by omega) (by omega) (by simpa using hl) ?_ ?_
   ·rw[lD (by rw[oz];omega),Dj (b9 i),ht,lD cl,nr,pA,hk]
    simp[show i<ss.length by omega]
   ·rw[Dk (by omega),jf]
theorem ae9 {ks:List Ex} (hn:ks.length≤1000000): ∃b,CC xw [.list aa (ks.map enc)]=some [.bool b,.list aa ((ks.filter (fun k=> !(univ k))).map enc)]:=by
 rcases TV hn with ⟨h1,U⟩|⟨i,h1,U,h3,h4⟩
 ·refine ⟨true,TT ?_⟩
  unfold MA
  refine (congrArg (fun o=>Option.bind o _) U).trans ?_
  rw[oD.2 fun k hk=>show (!(univ k))=true by rw[any_false (p:=univ) (by rw[h1];simp) k hk];rfl]
  rfl
 ·have hf:(ks.take (i+1)).filter (fun k=> !(univ k))=ks.take i:=by
   rw[lD h1,nr,pA,U,oD.2 fun k hk=>show (!(univ k))=true by rw[h3 k hk];rfl]
   simp
  obtain ⟨t,fh,e1,e2,e3⟩:=ae8 hn (ks.length-(i+1)) (i+1) i ks (by omega) (by omega) rfl hf.symm rfl
  refine ⟨false,TT ?_⟩
  unfold MA
  refine (congrArg (fun o=>Option.bind o _) h4).trans ?_
  simp only[Option.bind_some,V.aT,V.toInt_int,df]
  rw[ai (by omega),wrap64 (by omega) (by omega)]
  refine (congrArg (fun o=>Option.bind o _) e1).trans ?_
  have hm:(ks.filter (fun k=> !(univ k))).length≤fh.length:=by rw[e3];exact tE _ _
  have t1:((((ks.filter (fun k=> !(univ k))).length:Nat):Int)≤((fh.map enc).length:Int)):=by rw[aL];omega
  simp only[Option.bind_some,un,cY,az,Int.toNat_natCast]
  rw[aj (by omega),aj t1,aj (by omega),aj (by simp only[bZ,fe,tB,pw];omega),Gw _ _ _ hm,e2]
end Go.AM
set_option maxRecDepth 100000
namespace Go.AM
open Go.Proofs Go.Sort
section
variable {α:Type} {enc:α→V}
def qa (enc:α→V) (d:Array α):List V:=d.toList.map enc
theorem gb (d:Array α):(qa enc d).length=d.size:=by simp[qa]
theorem gd (d:Array α) (i:Nat) (x:α):(qa enc d).set i (enc x)=qa enc (d.setIfInBounds i x):=by
 unfold qa;rw[Array.toList_setIfInBounds,zl]
variable [Inhabited α]
theorem gf {d:Array α} {i:Nat} (h:i<d.size):(qa enc d)[i]? =some (enc d[i]!):=by
 unfold qa;rw[fR,r0,k9 h,getElem!_pos d i h];rfl
theorem iN {d:Array α} {i j:Nat} {x:α} (h:i<d.size):(qa enc (d.setIfInBounds j x))[i]? =some (enc (d.setIfInBounds j x)[i]!):=gf (by rw[gZ];exact h)
theorem gg (a b:Nat):(a:Int)+(b:Int)=((a+b:Nat):Int):=(Int.natCast_add a b).symm
theorem dP (a:Nat):(a:Int)+1=((a+1:Nat):Int):=rfl
theorem vk (a:Nat):((a+1:Nat):Int)-1=(a:Int):=by omega
theorem By (a:Nat):(a:Int)*2=((a*2:Nat):Int):=by omega
theorem m9 {a b:Nat} (h:b≤a):(a:Int)-(b:Int)=((a-b:Nat):Int):=by omega
theorem kV {a:Nat} (h:1≤a):(a:Int)-1=((a-1:Nat):Int):=by omega
theorem divC (a b:Nat):Int.tdiv (a:Int) (b:Int)=((a/b:Nat):Int):=by rw[Int.tdiv_eq_ediv_of_nonneg (by omega)];rfl
theorem n0 {p:Prop} [Decidable p] (h:p):decide p=true:=dr h
theorem s5 {p:Prop} [Decidable p] (h: ¬p):decide p=false:=b7 h
variable {lt:α→α→Bool}
theorem TW (a j:Nat) (d:Array α):insInner lt a (j+1) d=if j+1>a&&lt d[j+1]! d[j]! then insInner lt a j (swp d (j+1) j) else d:=rfl
theorem MB {a:Nat}: ∀(j:Nat) (d:Array α),(insInner lt a j d).size=d.size
 | 0,d=>rfl
 | j+1,d=>by
  rw[TW]
  split
  ·rw[MB j,size_swp]
  ·rfl
theorem Bz (hi first:Nat): ∀(n root:Nat) (d:Array α),hi-root≤n→(siftDown lt hi first root d).size=d.size:=by
 intro n
 induction n with
 | zero=>intro root d h;rw[siftDown,rV (by omega)]
 | succ n ih=>
  intro root d h
  rw[siftDown]
  split
  ·rfl
  ·split
   ·split
    ·rfl
    ·split
     ·rw[ih _ _ (by omega),size_swp]
     ·rfl
   ·split
    ·rfl
    ·rw[ih _ _ (by omega),size_swp]
theorem MC (hi first:Nat): ∀(k:Nat) (d:Array α),(heapBuild lt hi first k d).size=d.size
 | 0,d=>rfl
 | k+1,d=>by rw[heapBuild,MC,Bz _ _ _ _ _ (b9 _)]
end
end Go.AM
set_option maxRecDepth 100000
namespace Go.AM.SX
open Go.Proofs Ex
structure XE where
 e:Ex
 ok:e.Ok
instance:Inhabited XE:=⟨⟨.node 0 0 [],.node (by omega) (by omega) (by simp) (by simp)⟩⟩
namespace XE
def enc (x:XE):V:=x.e.enc
theorem aW (x:XE):(x.enc.cell 0).toInt=x.e.op:=Go.AM.aW x.e
theorem bc (x:XE):(x.enc.cell 1).toInt=x.e.bx:=Go.AM.bc x.e
theorem a9 (x:XE):(x.enc.cell 2).toList=x.e.kids.map Ex.enc:=Go.AM.a9 x.e
theorem re (x:XE):V.agg [.int .i64 x.e.op,.int .i64 x.e.bx,.list aa (x.e.kids.map Ex.enc)]=x.enc:=(Ex.dg x.e).symm
end XE
def b8 (a b:XE):Int:=cmp a.e b.e
theorem gT (a b:XE):CC bn [.int .i64 a.e.op,.int .i64 a.e.bx,.list aa (a.e.kids.map Ex.enc),.int .i64 b.e.op,.int .i64 b.e.bx,.list aa (b.e.kids.map Ex.enc)]=some [.int .i64 (b8 a b)]:=
 S0 a.e a.ok b.e b.ok
def XE.lt (a b:XE):Prop:=b8 a b<0
theorem XE.lt_irrefl (a:XE): ¬a.lt a:=by unfold XE.lt b8;rw[Bl];omega
theorem afa {a b c:Ex} (h1:cmp a b<0) (U:cmp b c<0):cmp a c<0:=by
 have h3:=L9 a b c (by omega) (by omega)
 refine Decidable.byContradiction fun h=> ?_
 have h0:cmp a c=0:=by omega
 have:=va a c h0
 subst this
 have:=sX a b
 omega
theorem XE.lt_trans {a b c:XE} (h1:a.lt b) (U:b.lt c):a.lt c:=afa h1 U
theorem XE.afb {a b c:XE} (h1: ¬a.lt b) (U: ¬b.lt c): ¬a.lt c:=by
 unfold XE.lt b8 at*
 have a1:=sX a.e b.e
 have a2:=sX b.e c.e
 have a3:=sX a.e c.e
 have:=L9 c.e b.e a.e (by omega) (by omega)
 omega
end Go.AM.SX
set_option maxRecDepth 100000
namespace Go.AM
open Go.Proofs
noncomputable abbrev Gx:Code:=cF Try.prog (ay.aV 111)
noncomputable def yf (C:ag) (a b' i j:Int) (ak:List V) {β:Type} (kn:(Int × (List V))→Option β) (kr:(Int × Bool × (List V))→Option β):Option β:=
 bif decide ((j:Int)>a) then
  bif (decide (0≤j))&&(decide (j<(ak.length:Int))) then
  (ak[(j:Int).toNat]?).bind fun x1=>
  bif (decide (0≤(IntKind.wrap .i64 (j-1))))&&(decide ((IntKind.wrap .i64 (j-1))<(ak.length:Int))) then
   (ak[(IntKind.wrap .i64 (j-1):Int).toNat]?).bind fun x2=>
   (C bn [.int .i64 ((x1.cell 0).toInt),.int .i64 ((x1.cell 1).toInt),.list aa ((x1.cell 2).toList),.int .i64 ((x2.cell 0).toInt),.int .i64 ((x2.cell 1).toInt),.list aa ((x2.cell 2).toList)]).bind fun r3=>
   bif decide ((((V.nth r3 0).toInt):Int)<0) then
   bif (decide (0≤(IntKind.wrap .i64 (j-1))))&&(decide ((IntKind.wrap .i64 (j-1))<(ak.length:Int))) then
    (ak[(IntKind.wrap .i64 (j-1):Int).toNat]?).bind fun x4=>
    bif (decide (0≤j))&&(decide (j<(ak.length:Int))) then
    (ak[(j:Int).toNat]?).bind fun x5=>
    bif (decide (0≤j))&&(decide (j<(ak.length:Int))) then
     (ak[(j:Int).toNat]?).bind fun x6=>
     bif (decide (0≤(IntKind.wrap .i64 (j-1))))&&(decide ((IntKind.wrap .i64 (j-1))<((ak.set ((j:Int).toNat) (.agg [.int .i64 ((x4.cell 0).toInt),.int .i64 ((x4.cell 1).toInt),.list aa ((x4.cell 2).toList)])).length:Int))) then
     ((ak.set ((j:Int).toNat) (.agg [.int .i64 ((x4.cell 0).toInt),.int .i64 ((x4.cell 1).toInt),.list aa ((x4.cell 2).toList)]))[(IntKind.wrap .i64 (j-1):Int).toNat]?).bind fun x7=>
     kn (IntKind.wrap .i64 (j-1),(ak.set ((j:Int).toNat) (.agg [.int .i64 ((x4.cell 0).toInt),.int .i64 ((x4.cell 1).toInt),.list aa ((x4.cell 2).toList)])).set ((IntKind.wrap .i64 (j-1):Int).toNat) (.agg [.int .i64 ((x5.cell 0).toInt),.int .i64 ((x5.cell 1).toInt),.list aa ((x5.cell 2).toList)]))
     else none
    else none
    else none
   else none
   else
   kr (j,decide ((((V.nth r3 0).toInt):Int)<0),ak)
  else none
  else none
 else
  kr (j,false,ak)
noncomputable def yg (C:ag) (a b' i:Int):(Int × (List V))→Option ((Int × (List V)) ⊕ (Int × Bool × (List V))):=un fun j ak=>yf C a b' i j ak (fun y=>some (.inl y)) (fun r=>some (.inr r))
noncomputable def BA (C:ag) (a b' i:Int) (ak:List V) {β:Type} (kn:(Int × (List V))→Option β) (kr:(Int × Bool × (List V))→Option β):Option β:=
 bif decide ((i:Int)<b') then
  (Loop (yg C a b' i) (i,ak)).bind (un fun (j_8:Int)=>un fun (sV:Bool) (pc:List V)=>
   kn (IntKind.wrap .i64 (i+1),pc))
 else
  kr (i,decide ((i:Int)<b'),ak)
noncomputable def Gy (C:ag) (a b':Int):(Int × (List V))→Option ((Int × (List V)) ⊕ (Int × Bool × (List V))):=un fun i ak=>BA C a b' i ak (fun y=>some (.inl y)) (fun r=>some (.inr r))
noncomputable def TY (C:ag):ct:=fun β n ds k=>
 bif Nat.beq n 65 then bW Lp [false,false,false,true,true] [[1,2,3,0,0,0]] (@yf C) ds k else
 bif Nat.beq n 17 then bW Lq [false,false,true,true] [[1,2,0,0,0]] (@BA C) ds k else
 none
abbrev TZ (C:ag) (b:cq):Prop:=cr Try.prog ay C (TY C) 111 (cK Try.prog (ay.aV 111)) (ay.sin 111).bj.length b
theorem afc (C:ag):TZ C (.loop (av [1,0,0,1,0,0,1,0,0] Gx)):=
 bY Lp [false,false,false,true,true] [[1,2,3,0,0,0]] (@yf C) (by kernel_rfl) (aZ (bs:=[]) (by kernel_rfl) aw) (fun ds=>by kernel_rfl) (fun i x=>by kernel_rfl) (fun i x β k=>by kernel_rfl) (fun β ds k=>by kernel_rfl)
theorem afd (C:ag):TZ C (.loop (av [1,0,0] Gx)):=
 bY Lq [false,false,true,true] [[1,2,0,0,0]] (@BA C) (by kernel_rfl) (aZ (bs:=[.loop (av [1,0,0,1,0,0,1,0,0] Gx)]) (by kernel_rfl) (bu (afc C) aw)) (fun ds=>by kernel_rfl) (fun i x=>by kernel_rfl) (fun i x β k=>by kernel_rfl) (fun β ds k=>by kernel_rfl)
noncomputable def T2 (C:ag) (a b':Int) (ak:List V):Option (List V):=
 (Loop (Gy C a b') (IntKind.wrap .i64 (a+1),ak)).bind (un fun (alF:Int)=>un fun (Ga:Bool) (MD:List V)=>
  some [.list aa MD])
theorem afe {a b':Int} {ak:List V} {r:Option (List V)} (h:T2 CC a b' ak=r):CC A0 [.int .i64 a,.int .i64 b',.list aa ak]=r:=
 bh (key:=111) (L:=TY CC) (bs:=[.loop (av [1,0,0] Gx)]) (by kernel_rfl) (bu (afd CC) aw) (bd (by kernel_rfl) h)
noncomputable abbrev yh:Code:=cF Try.prog (ay.aV 121)
noncomputable def vl (C:ag) (hi first root child:Int) (t40:Bool) (ak:List V) {β:Type} (kr:(Int)→Option β):Option β:=
 bif t40 then
  kr (IntKind.wrap .i64 (child+1))
 else
  kr child
noncomputable def s6 (C:ag) (hi first root:Int) (ak:List V) {β:Type} (kn:(Int × (List V))→Option β) (kr:((Int × Int × Bool × (List V)) ⊕ (Int × Int × Bool × (List V)))→Option β):Option β:=
 bif decide (((IntKind.wrap .i64 ((IntKind.wrap .i64 (root*2))+1)):Int)≥hi) then
  kr (.inl (root,IntKind.wrap .i64 ((IntKind.wrap .i64 (root*2))+1),decide (((IntKind.wrap .i64 ((IntKind.wrap .i64 (root*2))+1)):Int)≥hi),ak))
 else
  bif decide (((IntKind.wrap .i64 ((IntKind.wrap .i64 ((IntKind.wrap .i64 (root*2))+1))+1)):Int)<hi) then
  bif (decide (0≤(IntKind.wrap .i64 (first+(IntKind.wrap .i64 ((IntKind.wrap .i64 (root*2))+1))))))&&(decide ((IntKind.wrap .i64 (first+(IntKind.wrap .i64 ((IntKind.wrap .i64 (root*2))+1))))<(ak.length:Int))) then
   (ak[(IntKind.wrap .i64 (first+(IntKind.wrap .i64 ((IntKind.wrap .i64 (root*2))+1))):Int).toNat]?).bind fun x1=>
   bif (decide (0≤(IntKind.wrap .i64 ((IntKind.wrap .i64 (first+(IntKind.wrap .i64 ((IntKind.wrap .i64 (root*2))+1))))+1))))&&(decide ((IntKind.wrap .i64 ((IntKind.wrap .i64 (first+(IntKind.wrap .i64 ((IntKind.wrap .i64 (root*2))+1))))+1))<(ak.length:Int))) then
   (ak[(IntKind.wrap .i64 ((IntKind.wrap .i64 (first+(IntKind.wrap .i64 ((IntKind.wrap .i64 (root*2))+1))))+1):Int).toNat]?).bind fun x2=>
   (C bn [.int .i64 ((x1.cell 0).toInt),.int .i64 ((x1.cell 1).toInt),.list aa ((x1.cell 2).toList),.int .i64 ((x2.cell 0).toInt),.int .i64 ((x2.cell 1).toInt),.list aa ((x2.cell 2).toList)]).bind fun r3=>
   vl C hi first root (IntKind.wrap .i64 ((IntKind.wrap .i64 (root*2))+1)) (decide ((((V.nth r3 0).toInt):Int)<0)) ak (fun (oa:Int)=>
    bif (decide (0≤(IntKind.wrap .i64 (first+root))))&&(decide ((IntKind.wrap .i64 (first+root))<(ak.length:Int))) then
     (ak[(IntKind.wrap .i64 (first+root):Int).toNat]?).bind fun x5=>
     bif (decide (0≤(IntKind.wrap .i64 (first+oa))))&&(decide ((IntKind.wrap .i64 (first+oa))<(ak.length:Int))) then
     (ak[(IntKind.wrap .i64 (first+oa):Int).toNat]?).bind fun x6=>
     (C bn [.int .i64 ((x5.cell 0).toInt),.int .i64 ((x5.cell 1).toInt),.list aa ((x5.cell 2).toList),.int .i64 ((x6.cell 0).toInt),.int .i64 ((x6.cell 1).toInt),.list aa ((x6.cell 2).toList)]).bind fun r7=>
     bif !(decide ((((V.nth r7 0).toInt):Int)<0)) then
      kr (.inr (root,oa,!(decide ((((V.nth r7 0).toInt):Int)<0)),ak))
     else
      bif (decide (0≤(IntKind.wrap .i64 (first+oa))))&&(decide ((IntKind.wrap .i64 (first+oa))<(ak.length:Int))) then
      (ak[(IntKind.wrap .i64 (first+oa):Int).toNat]?).bind fun x8=>
      bif (decide (0≤(IntKind.wrap .i64 (first+root))))&&(decide ((IntKind.wrap .i64 (first+root))<(ak.length:Int))) then
       (ak[(IntKind.wrap .i64 (first+root):Int).toNat]?).bind fun x9=>
       bif (decide (0≤(IntKind.wrap .i64 (first+root))))&&(decide ((IntKind.wrap .i64 (first+root))<(ak.length:Int))) then
       (ak[(IntKind.wrap .i64 (first+root):Int).toNat]?).bind fun kW=>
       bif (decide (0≤(IntKind.wrap .i64 (first+oa))))&&(decide ((IntKind.wrap .i64 (first+oa))<((ak.set ((IntKind.wrap .i64 (first+root):Int).toNat) (.agg [.int .i64 ((x8.cell 0).toInt),.int .i64 ((x8.cell 1).toInt),.list aa ((x8.cell 2).toList)])).length:Int))) then
        ((ak.set ((IntKind.wrap .i64 (first+root):Int).toNat) (.agg [.int .i64 ((x8.cell 0).toInt),.int .i64 ((x8.cell 1).toInt),.list aa ((x8.cell 2).toList)]))[(IntKind.wrap .i64 (first+oa):Int).toNat]?).bind fun eK=>
        kn (oa,(ak.set ((IntKind.wrap .i64 (first+root):Int).toNat) (.agg [.int .i64 ((x8.cell 0).toInt),.int .i64 ((x8.cell 1).toInt),.list aa ((x8.cell 2).toList)])).set ((IntKind.wrap .i64 (first+oa):Int).toNat) (.agg [.int .i64 ((x9.cell 0).toInt),.int .i64 ((x9.cell 1).toInt),.list aa ((x9.cell 2).toList)]))
       else none
       else none
      else none
      else none
     else none
    else none)
   else none
  else none
  else
  vl C hi first root (IntKind.wrap .i64 ((IntKind.wrap .i64 (root*2))+1)) false ak (fun (oc:Int)=>
   bif (decide (0≤(IntKind.wrap .i64 (first+root))))&&(decide ((IntKind.wrap .i64 (first+root))<(ak.length:Int))) then
    (ak[(IntKind.wrap .i64 (first+root):Int).toNat]?).bind fun ju=>
    bif (decide (0≤(IntKind.wrap .i64 (first+oc))))&&(decide ((IntKind.wrap .i64 (first+oc))<(ak.length:Int))) then
    (ak[(IntKind.wrap .i64 (first+oc):Int).toNat]?).bind fun od=>
    (C bn [.int .i64 ((ju.cell 0).toInt),.int .i64 ((ju.cell 1).toInt),.list aa ((ju.cell 2).toList),.int .i64 ((od.cell 0).toInt),.int .i64 ((od.cell 1).toInt),.list aa ((od.cell 2).toList)]).bind fun oe=>
    bif !(decide ((((V.nth oe 0).toInt):Int)<0)) then
     kr (.inr (root,oc,!(decide ((((V.nth oe 0).toInt):Int)<0)),ak))
    else
     bif (decide (0≤(IntKind.wrap .i64 (first+oc))))&&(decide ((IntKind.wrap .i64 (first+oc))<(ak.length:Int))) then
     (ak[(IntKind.wrap .i64 (first+oc):Int).toNat]?).bind fun fv=>
     bif (decide (0≤(IntKind.wrap .i64 (first+root))))&&(decide ((IntKind.wrap .i64 (first+root))<(ak.length:Int))) then
      (ak[(IntKind.wrap .i64 (first+root):Int).toNat]?).bind fun rD=>
      bif (decide (0≤(IntKind.wrap .i64 (first+root))))&&(decide ((IntKind.wrap .i64 (first+root))<(ak.length:Int))) then
      (ak[(IntKind.wrap .i64 (first+root):Int).toNat]?).bind fun jL=>
      bif (decide (0≤(IntKind.wrap .i64 (first+oc))))&&(decide ((IntKind.wrap .i64 (first+oc))<((ak.set ((IntKind.wrap .i64 (first+root):Int).toNat) (.agg [.int .i64 ((fv.cell 0).toInt),.int .i64 ((fv.cell 1).toInt),.list aa ((fv.cell 2).toList)])).length:Int))) then
       ((ak.set ((IntKind.wrap .i64 (first+root):Int).toNat) (.agg [.int .i64 ((fv.cell 0).toInt),.int .i64 ((fv.cell 1).toInt),.list aa ((fv.cell 2).toList)]))[(IntKind.wrap .i64 (first+oc):Int).toNat]?).bind fun qb=>
       kn (oc,(ak.set ((IntKind.wrap .i64 (first+root):Int).toNat) (.agg [.int .i64 ((fv.cell 0).toInt),.int .i64 ((fv.cell 1).toInt),.list aa ((fv.cell 2).toList)])).set ((IntKind.wrap .i64 (first+oc):Int).toNat) (.agg [.int .i64 ((rD.cell 0).toInt),.int .i64 ((rD.cell 1).toInt),.list aa ((rD.cell 2).toList)]))
      else none
      else none
     else none
     else none
    else none
   else none)
noncomputable def pd (C:ag) (hi first:Int):(Int × (List V))→Option ((Int × (List V)) ⊕ ((Int × Int × Bool × (List V)) ⊕ (Int × Int × Bool × (List V)))):=un fun root ak=>s6 C hi first root ak (fun y=>some (.inl y)) (fun r=>some (.inr r))
noncomputable def T4 (C:ag):ct:=fun β n ds k=>
 bif Nat.beq n 655 then ij LR [[1,2,3,0,6]] (@vl C) ds k else
 bif Nat.beq n 17 then bW LU [false,false,true,true] [[1,2,0,0,0,0],[1,2,0,0,0,0]] (@s6 C) ds k else
 none
abbrev T6 (C:ag) (b:cq):Prop:=cr Try.prog ay C (T4 C) 121 (cK Try.prog (ay.aV 121)) (ay.sin 121).bj.length b
theorem aff (C:ag):T6 C (.cond 40 (av [1,0,0,0,1,1,0,1,0] yh) (av [1,0,0,0,1,1,0,1,1] yh)):=
 iL LR [[1,2,3,0,6]] (@vl C) (by kernel_rfl) (aZ (bs:=[]) (by kernel_rfl) aw) (aZ (bs:=[]) (by kernel_rfl) aw) (fun ds=>by kernel_rfl) (fun i β k=>by kernel_rfl) (fun β ds k=>by kernel_rfl)
theorem afg (C:ag):T6 C (.loop (av [1,0,0] yh)):=
 bY LU [false,false,true,true] [[1,2,0,0,0,0],[1,2,0,0,0,0]] (@s6 C) (by kernel_rfl) (aZ (bs:=[.cond 40 (av [1,0,0,0,1,1,0,1,0] yh) (av [1,0,0,0,1,1,0,1,1] yh)]) (by kernel_rfl) (bu (aff C) aw)) (fun ds=>by kernel_rfl) (fun i x=>by kernel_rfl) (fun i x β k=>by kernel_rfl) (fun β ds k=>by kernel_rfl)
noncomputable def T7 (C:ag) (lo hi first:Int) (ak:List V):Option (List V):=
 (Loop (pd C hi first) (lo,ak)).bind (bV (un fun (alG:Int)=>un fun (alH:Int)=>un fun (Ge:Bool) (afh:List V)=>
  some [.list aa afh]) (un fun (alI:Int)=>un fun (alJ:Int)=>un fun (Sv:Bool) (rE:List V)=>
  some [.list aa rE]))
theorem afi {lo hi first:Int} {ak:List V} {r:Option (List V)} (h:T7 CC lo hi first ak=r):CC A4 [.int .i64 lo,.int .i64 hi,.int .i64 first,.list aa ak]=r:=
 bh (key:=121) (L:=T4 CC) (bs:=[.loop (av [1,0,0] yh)]) (by kernel_rfl) (bu (afg CC) aw) (bd (by kernel_rfl) h)
noncomputable abbrev Gz:Code:=cF Try.prog (ay.aV 112)
noncomputable def BB (C:ag) (first lo hi i:Int) (ak:List V) {β:Type} (kn:(Int × (List V))→Option β) (kr:(Int × Bool × (List V))→Option β):Option β:=
 bif decide ((i:Int)≥0) then
  (C A4 [.int .i64 i,.int .i64 hi,.int .i64 first,.list aa ak]).bind fun r1=>
  kn (IntKind.wrap .i64 (i-1),(V.nth r1 0).toList)
 else
  kr (i,decide ((i:Int)≥0),ak)
noncomputable def GA (C:ag) (first lo hi:Int):(Int × (List V))→Option ((Int × (List V)) ⊕ (Int × Bool × (List V))):=un fun i ak=>BB C first lo hi i ak (fun y=>some (.inl y)) (fun r=>some (.inr r))
noncomputable def BC (C:ag) (first lo i:Int) (ak:List V) {β:Type} (kn:(Int × (List V))→Option β) (kr:(Int × Bool × (List V))→Option β):Option β:=
 bif decide ((i:Int)≥0) then
  bif (decide (0≤(IntKind.wrap .i64 (first+i))))&&(decide ((IntKind.wrap .i64 (first+i))<(ak.length:Int))) then
  (ak[(IntKind.wrap .i64 (first+i):Int).toNat]?).bind fun x5=>
  bif (decide (0≤first))&&(decide (first<(ak.length:Int))) then
   (ak[(first:Int).toNat]?).bind fun x6=>
   bif (decide (0≤first))&&(decide (first<(ak.length:Int))) then
   (ak[(first:Int).toNat]?).bind fun x7=>
   bif (decide (0≤(IntKind.wrap .i64 (first+i))))&&(decide ((IntKind.wrap .i64 (first+i))<((ak.set ((first:Int).toNat) (.agg [.int .i64 ((x5.cell 0).toInt),.int .i64 ((x5.cell 1).toInt),.list aa ((x5.cell 2).toList)])).length:Int))) then
    ((ak.set ((first:Int).toNat) (.agg [.int .i64 ((x5.cell 0).toInt),.int .i64 ((x5.cell 1).toInt),.list aa ((x5.cell 2).toList)]))[(IntKind.wrap .i64 (first+i):Int).toNat]?).bind fun x8=>
    (C A4 [.int .i64 lo,.int .i64 i,.int .i64 first,.list aa ((ak.set ((first:Int).toNat) (.agg [.int .i64 ((x5.cell 0).toInt),.int .i64 ((x5.cell 1).toInt),.list aa ((x5.cell 2).toList)])).set ((IntKind.wrap .i64 (first+i):Int).toNat) (.agg [.int .i64 ((x6.cell 0).toInt),.int .i64 ((x6.cell 1).toInt),.list aa ((x6.cell 2).toList)]))]).bind fun r9=>
    kn (IntKind.wrap .i64 (i-1),(V.nth r9 0).toList)
   else none
   else none
  else none
  else none
 else
  kr (i,decide ((i:Int)≥0),ak)
noncomputable def GB (C:ag) (first lo:Int):(Int × (List V))→Option ((Int × (List V)) ⊕ (Int × Bool × (List V))):=un fun i ak=>BC C first lo i ak (fun y=>some (.inl y)) (fun r=>some (.inr r))
noncomputable def T8 (C:ag):ct:=fun β n ds k=>
 bif Nat.beq n 65 then bW Lr [false,false,false,true,true] [[1,2,3,0,0,0]] (@BB C) ds k else
 bif Nat.beq n 129 then bW Lt [false,false,true,true] [[1,2,0,0,0]] (@BC C) ds k else
 none
abbrev T9 (C:ag) (b:cq):Prop:=cr Try.prog ay C (T8 C) 112 (cK Try.prog (ay.aV 112)) (ay.sin 112).bj.length b
theorem afj (C:ag):T9 C (.loop (av [1,1,1,0,1,0,0] Gz)):=
 bY Lr [false,false,false,true,true] [[1,2,3,0,0,0]] (@BB C) (by kernel_rfl) (aZ (bs:=[]) (by kernel_rfl) aw) (fun ds=>by kernel_rfl) (fun i x=>by kernel_rfl) (fun i x β k=>by kernel_rfl) (fun β ds k=>by kernel_rfl)
theorem afk (C:ag):T9 C (.loop (av [1,1,1,1,1,0,0] Gz)):=
 bY Lt [false,false,true,true] [[1,2,0,0,0]] (@BC C) (by kernel_rfl) (aZ (bs:=[]) (by kernel_rfl) aw) (fun ds=>by kernel_rfl) (fun i x=>by kernel_rfl) (fun i x β k=>by kernel_rfl) (fun β ds k=>by kernel_rfl)
noncomputable def Ua (C:ag) (a b':Int) (ak:List V):Option (List V):=
 (Loop (GA C a 0 (IntKind.wrap .i64 (b'-a))) (IntKind.wrap .i64 (Int.tdiv (IntKind.wrap .i64 ((IntKind.wrap .i64 (b'-a))-1)) 2),ak)).bind (un fun (i_2:Int)=>un fun (jr:Bool) (afl:List V)=>
  (Loop (GB C a 0) (IntKind.wrap .i64 ((IntKind.wrap .i64 (b'-a))-1),afl)).bind (un fun (alK:Int)=>un fun (F9:Bool) (na:List V)=>
   some [.list aa na]))
theorem afm {a b':Int} {ak:List V} {r:Option (List V)} (h:Ua CC a b' ak=r):CC A1 [.int .i64 a,.int .i64 b',.list aa ak]=r:=
 bh (key:=112) (L:=T8 CC) (bs:=[.loop (av [1,1,1,0,1,0,0] Gz),.loop (av [1,1,1,1,1,0,0] Gz)]) (by kernel_rfl) (bu (afj CC) (bu (afk CC) aw)) (bd (by kernel_rfl) h)
noncomputable abbrev Ub:Code:=cF Try.prog (ay.aV 115)
noncomputable def yi (C:ag) (i j:Int) (ak:List V) {β:Type} (kn:(Int × Int × (List V))→Option β) (kr:(Int × Int × Bool × (List V))→Option β):Option β:=
 bif decide ((i:Int)<j) then
  bif (decide (0≤j))&&(decide (j<(ak.length:Int))) then
  (ak[(j:Int).toNat]?).bind fun x1=>
  bif (decide (0≤i))&&(decide (i<(ak.length:Int))) then
   (ak[(i:Int).toNat]?).bind fun x2=>
   bif (decide (0≤i))&&(decide (i<(ak.length:Int))) then
   (ak[(i:Int).toNat]?).bind fun x3=>
   bif (decide (0≤j))&&(decide (j<((ak.set ((i:Int).toNat) (.agg [.int .i64 ((x1.cell 0).toInt),.int .i64 ((x1.cell 1).toInt),.list aa ((x1.cell 2).toList)])).length:Int))) then
    ((ak.set ((i:Int).toNat) (.agg [.int .i64 ((x1.cell 0).toInt),.int .i64 ((x1.cell 1).toInt),.list aa ((x1.cell 2).toList)]))[(j:Int).toNat]?).bind fun x4=>
    kn (IntKind.wrap .i64 (i+1),IntKind.wrap .i64 (j-1),(ak.set ((i:Int).toNat) (.agg [.int .i64 ((x1.cell 0).toInt),.int .i64 ((x1.cell 1).toInt),.list aa ((x1.cell 2).toList)])).set ((j:Int).toNat) (.agg [.int .i64 ((x2.cell 0).toInt),.int .i64 ((x2.cell 1).toInt),.list aa ((x2.cell 2).toList)]))
   else none
   else none
  else none
  else none
 else
  kr (i,j,decide ((i:Int)<j),ak)
noncomputable def BD (C:ag):(Int × Int × (List V))→Option ((Int × Int × (List V)) ⊕ (Int × Int × Bool × (List V))):=un fun i=>un fun j ak=>yi C i j ak (fun y=>some (.inl y)) (fun r=>some (.inr r))
noncomputable def Uc (C:ag):ct:=fun β n ds k=>
 bif Nat.beq n 33 then bW Ly [true,true,true] [[0,0,0,0]] (@yi C) ds k else
 none
abbrev afn (C:ag) (b:cq):Prop:=cr Try.prog ay C (Uc C) 115 (cK Try.prog (ay.aV 115)) (ay.sin 115).bj.length b
theorem afo (C:ag):afn C (.loop (av [1,1,0,0] Ub)):=
 bY Ly [true,true,true] [[0,0,0,0]] (@yi C) (by kernel_rfl) (aZ (bs:=[]) (by kernel_rfl) aw) (fun ds=>by kernel_rfl) (fun i x=>by kernel_rfl) (fun i x β k=>by kernel_rfl) (fun β ds k=>by kernel_rfl)
noncomputable def Ud (C:ag) (a b':Int) (ak:List V):Option (List V):=
 (Loop (BD C) (a,IntKind.wrap .i64 (b'-1),ak)).bind (un fun (cZ:Int)=>un fun (Mw:Int)=>un fun (o8:Bool) (afp:List V)=>
  some [.list aa afp])
theorem afq {a b':Int} {ak:List V} {r:Option (List V)} (h:Ud CC a b' ak=r):CC FH [.int .i64 a,.int .i64 b',.list aa ak]=r:=
 bh (key:=115) (L:=Uc CC) (bs:=[.loop (av [1,1,0,0] Ub)]) (by kernel_rfl) (bu (afo CC) aw) (bd (by kernel_rfl) h)
end Go.AM
set_option maxRecDepth 100000
set_option maxHeartbeats 4000000
namespace Go.AM.SX
open Go.Proofs Go.Sort
def aA (a b:XE):Bool:=decide (b8 a b<0)
theorem s7 (a b:XE):(aA a b=true)=(b8 a b<0):=by unfold aA;rw[eg]
theorem rF (a b:XE):((!aA a b)=true)= ¬(b8 a b<0):=by unfold aA;simp
abbrev eA (d:Array XE):List V:=qa XE.enc d
theorem afr (a j:Nat) (d:Array XE):insInner aA a (j+1) d=if j+1>a then (if b8 d[j+1]! d[j]! <0 then insInner aA a j (swp d (j+1) j) else d) else d:=by
 rw[TW]
 by_cases h1:j+1>a
 ·rw[aj h1];simp only[h1,rX,mz,s7]
 ·rw[ai h1,ai (by simp[h1])]
theorem ME (hi first root:Nat) (d:Array XE):siftDown aA hi first root d=
  if 2*root+1≥hi then d else
   if 2*root+2<hi then
    (if b8 d[first+(2*root+1)]! d[first+(2*root+2)]! <0 then
     (if b8 d[first+root]! d[first+(2*root+2)]! <0 then siftDown aA hi first (2*root+2) (swp d (first+root) (first+(2*root+2))) else d)
    else (if b8 d[first+root]! d[first+(2*root+1)]! <0 then siftDown aA hi first (2*root+1) (swp d (first+root) (first+(2*root+1))) else d))
   else (if b8 d[first+root]! d[first+(2*root+1)]! <0 then siftDown aA hi first (2*root+1) (swp d (first+root) (first+(2*root+1))) else d):=by
 rw[siftDown]
 by_cases h1:2*root+1≥hi
 ·rw[rV h1,aj h1]
 rw[dif_neg h1,ai h1]
 by_cases U:2*root+2<hi
 ·rw[aj U]
  by_cases h3:b8 d[first+(2*root+1)]! d[first+(2*root+2)]! <0
  ·rw[aj h3,aj (by simp only[aM,eg,s7];exact ⟨U,h3⟩)]
   simp only[rF]
   by_cases h4:b8 d[first+root]! d[first+(2*root+2)]! <0
   ·rw[ai (qt h4),rV U,aj h4]
   ·rw[aj h4,ai h4]
  ·rw[ai h3,ai (by simp only[aM,eg,s7];exact fun h=>h3 h.2)]
   simp only[rF]
   by_cases h4:b8 d[first+root]! d[first+(2*root+1)]! <0
   ·rw[ai (qt h4),aj h4]
   ·rw[aj h4,ai h4]
 ·rw[ai U,ai (by simp only[aM,eg,s7];exact fun h=>U h.1)]
  simp only[rF]
  by_cases h4:b8 d[first+root]! d[first+(2*root+1)]! <0
  ·rw[ai (qt h4),aj h4]
  ·rw[aj h4,ai h4]
theorem Ue {a b i:Nat}: ∀(j:Nat) (d:Array XE),j<d.size→d.size<1152921504606846976→
  ∃j' t,Loop (yg CC a b i) ((j:Int),eA d)=some (j',t,eA (insInner aA a j d))
 | 0,d,hj,hs=>⟨(0:Nat),false,aS (by
   simp (disch:=omega) only[yg,yf,un,az,ai]
   rfl)⟩
 | j+1,d,hj,hs=>by
  obtain ⟨j',t,ih⟩:=Ue (a:=a) (b:=b) (i:=i) j (swp d (j+1) j) (by rw[size_swp];omega) (by rw[size_swp];omega)
  rw[afr]
  by_cases h1:j+1>a
  ·rw[aj h1]
   have e:yg CC a b i (((j+1:Nat):Int),eA d)=if b8 d[j+1]! d[j]! <0 then some (.inl ((j:Int),eA (swp d (j+1) j))) else some (.inr (((j+1:Nat):Int),decide (b8 d[j+1]! d[j]! <0),eA d)):=by
    simp (disch:=omega) only[yg,yf,un,az,cY,ig,aj,ai,wrap64,dP,gg,Int.toNat_natCast,Option.bind_some,gb,gf,XE.aW,XE.bc,XE.a9,XE.re,gd,iN,gZ,gT,V.aT,V.toInt_int,cond_true,cond_false,vk]
    rfl
   by_cases U:b8 d[j+1]! d[j]! <0
   ·rw[aj U] at e⊢
    exact ⟨j',t,(bJ e).trans ih⟩
   ·rw[ai U] at e⊢
    exact ⟨_,_,aS e⟩
  ·rw[ai h1]
   exact ⟨((j+1:Nat):Int),false,aS (by
    simp (disch:=omega) only[yg,yf,un,az,ai])⟩
theorem afs {a b:Nat}: ∀(n i:Nat) (d:Array XE),b-i=n→b≤d.size→d.size<1152921504606846976→
  ∃j' t,Loop (Gy CC a b) ((i:Int),eA d)=some (j',t,eA (insOuter aA a b i d)):=by
 intro n
 induction n with
 | zero=>
  intro i d hn hb hs
  rw[insOuter,ai (by omega)]
  exact ⟨(i:Int),false,aS (by
   simp (disch:=omega) only[Gy,BA,un,s5,cond_false])⟩
 | succ n ih=>
  intro i d hn hb hs
  obtain ⟨j1,t1,h1⟩:=Ue (a:=a) (b:=b) (i:=i) i d (by omega) hs
  obtain ⟨j',t,U⟩:=ih (i+1) (insInner aA a i d) (by omega) (by rw[MB];omega) (by rw[MB];omega)
  rw[insOuter,aj (by omega)]
  refine ⟨j',t,(bJ ?_).trans U⟩
  simp (disch:=omega) only[Gy,BA,un,az,aj,h1,Option.bind_some,dP,wrap64]
theorem Uf {a b:Nat} {d:Array XE} (hb:b≤d.size) (hs:d.size<1152921504606846976) (ha:a<1152921504606846976):
  CC A0 [.int .i64 (a:Int),.int .i64 (b:Int),.list aa (eA d)]=some [.list aa (eA (insertionSort aA d a b))]:=by
 refine afe ?_
 unfold T2
 obtain ⟨j',t,h⟩:=afs (a:=a) (b:=b) _ (a+1) d rfl hb hs
 simp (disch:=omega) only[dP,wrap64]
 rw[h]
 rfl
theorem aft (hi first:Nat): ∀(n root:Nat) (d:Array XE),hi-root≤n→root<1152921504606846976→first+hi≤d.size→d.size<1152921504606846976→
  (∃x y z,Loop (pd CC hi first) ((root:Int),eA d)=some (.inl (x,y,z,eA (siftDown aA hi first root d))))∨
  (∃x y z,Loop (pd CC hi first) ((root:Int),eA d)=some (.inr (x,y,z,eA (siftDown aA hi first root d)))):=by
 intro n
 induction n with
 | zero=>
  intro root d hn hr hb hs
  rw[ME,aj (by omega)]
  exact .inl ⟨(root:Int),((root*2+1:Nat):Int),true,aS (by
   simp (disch:=omega) only[pd,s6,un,By,dP,wrap64];rw[n0 (by omega)];rfl)⟩
 | succ n ih=>
  intro root d hn hr hb hs
  by_cases h1:2*root+1≥hi
  ·rw[ME,aj h1]
   exact .inl ⟨(root:Int),((root*2+1:Nat):Int),true,aS (by
    simp (disch:=omega) only[pd,s6,un,By,dP,wrap64];rw[n0 (by omega)];rfl)⟩
  ·have go: ∀c:Nat,c<hi→root<c→(pd CC hi first ((root:Int),eA d)=
      if b8 d[first+root]! d[first+c]! <0 then some (.inl ((c:Int),eA (swp d (first+root) (first+c)))) else some (.inr (.inr ((root:Int),(c:Int),true,eA d))))→
     siftDown aA hi first root d=(if b8 d[first+root]! d[first+c]! <0 then siftDown aA hi first c (swp d (first+root) (first+c)) else d)→
     ((∃x y z,Loop (pd CC hi first) ((root:Int),eA d)=some (.inl (x,y,z,eA (siftDown aA hi first root d))))∨
     (∃x y z,Loop (pd CC hi first) ((root:Int),eA d)=some (.inr (x,y,z,eA (siftDown aA hi first root d))))):=by
    intro c hc hrc e1 e2
    rw[e2]
    by_cases h3:b8 d[first+root]! d[first+c]! <0
    ·rw[aj h3] at e1
     rw[aj h3,bJ e1]
     exact ih c _ (by omega) (by omega) (by rw[size_swp];omega) (by rw[size_swp];omega)
    ·rw[ai h3] at e1
     rw[ai h3,aS e1]
     exact .inr ⟨_,_,_,rfl⟩
   have e0:=ME hi first root d
   rw[ai h1] at e0
   by_cases U:2*root+2<hi
   ·rw[aj U] at e0
    by_cases h3:b8 d[first+(2*root+1)]! d[first+(2*root+2)]! <0
    ·rw[aj h3] at e0
     refine go (2*root+2) (by omega) (by omega) ?_ e0
     rw[oA 2 root] at h3
     simp (disch:=omega) only[pd,s6,un,By,dP,gg,wrap64]
     rw[az,ai (by omega),az,aj (by omega)]
     simp (disch:=omega) only[vl,az,cY,ig,aj,ai,wrap64,dP,gg,Int.toNat_natCast,Option.bind_some,gb,gf,XE.aW,XE.bc,XE.a9,XE.re,gd,iN,gZ,gT,V.aT,V.toInt_int,cond_true,cond_false,oA 2 root,n0]
     by_cases h4:b8 d[first+root]! d[first+(root*2+2)]! <0
     ·simp only[h4,cO];rfl
     ·simp only[h4,fB];rfl
    ·rw[ai h3] at e0
     refine go (2*root+1) (by omega) (by omega) ?_ e0
     rw[oA 2 root] at h3
     simp (disch:=omega) only[pd,s6,un,By,dP,gg,wrap64]
     rw[az,ai (by omega),az,aj (by omega)]
     simp (disch:=omega) only[vl,az,cY,ig,aj,ai,wrap64,dP,gg,Int.toNat_natCast,Option.bind_some,gb,gf,XE.aW,XE.bc,XE.a9,XE.re,gd,iN,gZ,gT,V.aT,V.toInt_int,cond_true,cond_false,oA 2 root,s5]
     by_cases h4:b8 d[first+root]! d[first+(root*2+1)]! <0
     ·simp only[h4,cO];rfl
     ·simp only[h4,fB];rfl
   ·rw[ai U] at e0
    refine go (2*root+1) (by omega) (by omega) ?_ e0
    simp (disch:=omega) only[pd,s6,un,By,dP,gg,wrap64]
    rw[az,ai (by omega),az,ai (by omega)]
    simp (disch:=omega) only[vl,az,cY,ig,aj,ai,wrap64,dP,gg,Int.toNat_natCast,Option.bind_some,gb,gf,XE.aW,XE.bc,XE.a9,XE.re,gd,iN,gZ,gT,V.aT,V.toInt_int,cond_true,cond_false,oA 2 root]
    by_cases h4:b8 d[first+root]! d[first+(root*2+1)]! <0
    ·simp only[h4,cO];rfl
    ·simp only[h4,fB];rfl
theorem Ug {lo hi first:Nat} {d:Array XE} (hl:lo<1152921504606846976) (hb:first+hi≤d.size) (hs:d.size<1152921504606846976):
  CC A4 [.int .i64 (lo:Int),.int .i64 (hi:Int),.int .i64 (first:Int),.list aa (eA d)]=some [.list aa (eA (siftDown aA hi first lo d))]:=by
 refine afi ?_
 unfold T7
 rcases aft hi first _ lo d (b9 _) hl hb hs with ⟨x,y,z,h⟩|⟨x,y,z,h⟩
 ·rw[h];rfl
 ·rw[h];rfl
theorem Uh {hi first:Nat}: ∀(k:Nat) (d:Array XE),k<1152921504606846976→first+hi≤d.size→d.size<1152921504606846976→
  ∃x y,Loop (GA CC first 0 hi) ((k:Int)-1,eA d)=some (x,y,eA (heapBuild aA hi first k d))
 | 0,d,hk,hb,hs=>⟨-1,false,aS (by
   simp (disch:=omega) only[GA,BB,un,az,ai]
   rfl)⟩
 | k+1,d,hk,hb,hs=>by
  obtain ⟨x,y,ih⟩:=Uh (hi:=hi) (first:=first) k (siftDown aA hi first k d) (by omega) (by rw[Bz _ _ _ _ _ (b9 _)];omega) (by rw[Bz _ _ _ _ _ (b9 _)];omega)
  refine ⟨x,y,(bJ ?_).trans ih⟩
  simp (disch:=omega) only[GA,BB,un,az,aj,vk,Ug,Option.bind_some,V.aT,V.kO,wrap64]
theorem Ui {first:Nat}: ∀(k:Nat) (d:Array XE),k<1152921504606846976→first+k≤d.size→d.size<1152921504606846976→
  ∃x y,Loop (GB CC first 0) ((k:Int)-1,eA d)=some (x,y,eA (heapPop aA first k d))
 | 0,d,hk,hb,hs=>⟨-1,false,aS (by
   simp (disch:=omega) only[GB,BC,un,az,ai]
   rfl)⟩
 | k+1,d,hk,hb,hs=>by
  obtain ⟨x,y,ih⟩:=Ui (first:=first) k (siftDown aA k first 0 (swp d first (first+k))) (by omega) (by rw[Bz _ _ _ _ _ (b9 _),size_swp];omega) (by rw[Bz _ _ _ _ _ (b9 _),size_swp];omega)
  refine ⟨x,y,(bJ ?_).trans ih⟩
  have ia:=Ug (lo:=0) (hi:=k) (first:=first) (d:=swp d first (first+k)) (by omega) (by rw[size_swp];omega) (by rw[size_swp];omega)
  unfold swp at ia⊢
  rw[show ((0:Nat):Int)=0 from rfl] at ia
  simp (disch:=omega) only[GB,BC,un,vk,az,cY,ig,aj,ai,wrap64,dP,gg,Int.toNat_natCast,Option.bind_some,gb,gf,XE.aW,XE.bc,XE.a9,XE.re,gd,iN,gZ,gT,V.aT,V.toInt_int,cond_true,cond_false]
  rw[ia]
  simp (disch:=omega) only[Option.bind_some,V.aT,V.kO,wrap64]
theorem afu {a b:Nat} {d:Array XE} (fp:a<b) (hb:b≤d.size) (hs:d.size<1152921504606846976):
  CC A1 [.int .i64 (a:Int),.int .i64 (b:Int),.list aa (eA d)]=some [.list aa (eA (heapSort aA d a b))]:=by
 refine afm ?_
 unfold Ua
 obtain ⟨x,y,h1⟩:=Uh (hi:=b-a) (first:=a) ((b-a-1)/2+1) d (by omega) (by omega) hs
 obtain ⟨x2,y2,U⟩:=Ui (first:=a) (b-a) (heapBuild aA (b-a) a ((b-a-1)/2+1) d) (by omega) (by rw[MC];omega) (by rw[MC];omega)
 have e1:((((b-a-1)/2+1:Nat):Int)-1)=Int.tdiv (((b-a:Nat):Int)-1) 2:=by
  rw[Int.tdiv_eq_ediv_of_nonneg (by omega)]
  omega
 rw[e1] at h1
 simp (disch:=omega) only[m9,wrap64]
 rw[h1]
 simp only[Option.bind_some,un]
 rw[U]
 rfl
theorem afv: ∀(n i j:Nat) (d:Array XE),j-i≤n→j<d.size→d.size<1152921504606846976→
  ∃x y z,Loop (BD CC) ((i:Int),(j:Int),eA d)=some (x,y,z,eA (reverseLoop i j d)):=by
 intro n
 induction n with
 | zero=>
  intro i j d hn hj hs
  rw[reverseLoop,ai (by omega)]
  exact ⟨(i:Int),(j:Int),false,aS (by
   simp (disch:=omega) only[BD,yi,un,s5,cond_false])⟩
 | succ n ih=>
  intro i j d hn hj hs
  rw[reverseLoop]
  by_cases h:i<j
  ·rw[aj h]
   obtain ⟨x,y,z,U⟩:=ih (i+1) (j-1) (swp d i j) (by omega) (by rw[size_swp];omega) (by rw[size_swp];omega)
   refine ⟨x,y,z,(bJ ?_).trans U⟩
   simp (disch:=omega) only[BD,yi,un,az,cY,ig,aj,ai,wrap64,dP,gg,Int.toNat_natCast,Option.bind_some,gb,gf,XE.aW,XE.bc,XE.a9,XE.re,gd,iN,gZ,gT,V.aT,V.toInt_int,cond_true,cond_false,kV]
   rfl
  ·rw[ai h]
   exact ⟨(i:Int),(j:Int),false,aS (by
    simp (disch:=omega) only[BD,yi,un,s5,cond_false])⟩
theorem afw {a b:Nat} {d:Array XE} (fp:a<b) (hb:b≤d.size) (hs:d.size<1152921504606846976):
  CC FH [.int .i64 (a:Int),.int .i64 (b:Int),.list aa (eA d)]=some [.list aa (eA (reverseRange d a b))]:=by
 refine afq ?_
 unfold Ud
 obtain ⟨x,y,z,h⟩:=afv _ a (b-1) d (b9 _) (by omega) hs
 simp (disch:=omega) only[kV,wrap64]
 rw[h]
 rfl
end Go.AM.SX
set_option maxRecDepth 100000
namespace Go.AM
open Go.Proofs
noncomputable abbrev qc:Code:=cF Try.prog (ay.aV 118)
noncomputable def BE (C:ag) (a j:Int) (ak:List V) (i:Int) {β:Type} (kn:Int→Option β) (kr:(Int × Bool)→Option β):Option β:=
 bif decide ((i:Int)≤j) then
  bif (decide (0≤i))&&(decide (i<(ak.length:Int))) then
  (ak[(i:Int).toNat]?).bind fun x5=>
  bif (decide (0≤a))&&(decide (a<(ak.length:Int))) then
   (ak[(a:Int).toNat]?).bind fun x6=>
   (C bn [.int .i64 ((x5.cell 0).toInt),.int .i64 ((x5.cell 1).toInt),.list aa ((x5.cell 2).toList),.int .i64 ((x6.cell 0).toInt),.int .i64 ((x6.cell 1).toInt),.list aa ((x6.cell 2).toList)]).bind fun r7=>
   bif decide ((((V.nth r7 0).toInt):Int)<0) then
   kn (IntKind.wrap .i64 (i+1))
   else
   kr (i,decide ((((V.nth r7 0).toInt):Int)<0))
  else none
  else none
 else
  kr (i,false)
noncomputable def BF (C:ag) (a j:Int) (ak:List V):(Int)→Option ((Int) ⊕ (Int × Bool)):=fun i=>BE C a j ak i (fun y=>some (.inl y)) (fun r=>some (.inr r))
noncomputable def yj (C:ag) (a i:Int) (ak:List V) (j:Int) {β:Type} (kn:Int→Option β) (kr:(Int × Bool)→Option β):Option β:=
 bif decide ((i:Int)≤j) then
  bif (decide (0≤j))&&(decide (j<(ak.length:Int))) then
  (ak[(j:Int).toNat]?).bind fun kW=>
  bif (decide (0≤a))&&(decide (a<(ak.length:Int))) then
   (ak[(a:Int).toNat]?).bind fun eK=>
   (C bn [.int .i64 ((kW.cell 0).toInt),.int .i64 ((kW.cell 1).toInt),.list aa ((kW.cell 2).toList),.int .i64 ((eK.cell 0).toInt),.int .i64 ((eK.cell 1).toInt),.list aa ((eK.cell 2).toList)]).bind fun gh=>
   bif !(decide ((((V.nth gh 0).toInt):Int)<0)) then
   kn (IntKind.wrap .i64 (j-1))
   else
   kr (j,!(decide ((((V.nth gh 0).toInt):Int)<0)))
  else none
  else none
 else
  kr (j,false)
noncomputable def yk (C:ag) (a i:Int) (ak:List V):(Int)→Option ((Int) ⊕ (Int × Bool)):=fun j=>yj C a i ak j (fun y=>some (.inl y)) (fun r=>some (.inr r))
noncomputable def BG (C:ag) (a j:Int) (ak:List V) (i:Int) {β:Type} (kn:Int→Option β) (kr:(Int × Bool)→Option β):Option β:=
 bif decide ((i:Int)≤j) then
  bif (decide (0≤i))&&(decide (i<(ak.length:Int))) then
  (ak[(i:Int).toNat]?).bind fun kf=>
  bif (decide (0≤a))&&(decide (a<(ak.length:Int))) then
   (ak[(a:Int).toNat]?).bind fun pe=>
   (C bn [.int .i64 ((kf.cell 0).toInt),.int .i64 ((kf.cell 1).toInt),.list aa ((kf.cell 2).toList),.int .i64 ((pe.cell 0).toInt),.int .i64 ((pe.cell 1).toInt),.list aa ((pe.cell 2).toList)]).bind fun BH=>
   bif decide ((((V.nth BH 0).toInt):Int)<0) then
   kn (IntKind.wrap .i64 (i+1))
   else
   kr (i,decide ((((V.nth BH 0).toInt):Int)<0))
  else none
  else none
 else
  kr (i,false)
noncomputable def BI (C:ag) (a j:Int) (ak:List V):(Int)→Option ((Int) ⊕ (Int × Bool)):=fun i=>BG C a j ak i (fun y=>some (.inl y)) (fun r=>some (.inr r))
noncomputable def yl (C:ag) (a i:Int) (ak:List V) (j:Int) {β:Type} (kn:Int→Option β) (kr:(Int × Bool)→Option β):Option β:=
 bif decide ((i:Int)≤j) then
  bif (decide (0≤j))&&(decide (j<(ak.length:Int))) then
  (ak[(j:Int).toNat]?).bind fun vm=>
  bif (decide (0≤a))&&(decide (a<(ak.length:Int))) then
   (ak[(a:Int).toNat]?).bind fun vn=>
   (C bn [.int .i64 ((vm.cell 0).toInt),.int .i64 ((vm.cell 1).toInt),.list aa ((vm.cell 2).toList),.int .i64 ((vn.cell 0).toInt),.int .i64 ((vn.cell 1).toInt),.list aa ((vn.cell 2).toList)]).bind fun s8=>
   bif !(decide ((((V.nth s8 0).toInt):Int)<0)) then
   kn (IntKind.wrap .i64 (j-1))
   else
   kr (j,!(decide ((((V.nth s8 0).toInt):Int)<0)))
  else none
  else none
 else
  kr (j,false)
noncomputable def ym (C:ag) (a i:Int) (ak:List V):(Int)→Option ((Int) ⊕ (Int × Bool)):=fun j=>yl C a i ak j (fun y=>some (.inl y)) (fun r=>some (.inr r))
noncomputable def BJ (C:ag) (a i j:Int) (ak:List V) {β:Type} (kn:(Int × Int × (List V))→Option β) (kr:(Int × Int × Bool × (List V))→Option β):Option β:=
 (Loop (BI C a j ak) i).bind (un fun (ml:Int) (Sw:Bool)=>
  (Loop (ym C a ml ak) j).bind (un fun (pf:Int) (ab0:Bool)=>
   bif decide ((ml:Int)>pf) then
    kr (ml,pf,decide ((ml:Int)>pf),ak)
   else
    bif (decide (0≤pf))&&(decide (pf<(ak.length:Int))) then
    (ak[(pf:Int).toNat]?).bind fun rG=>
    bif (decide (0≤ml))&&(decide (ml<(ak.length:Int))) then
     (ak[(ml:Int).toNat]?).bind fun MF=>
     bif (decide (0≤ml))&&(decide (ml<(ak.length:Int))) then
     (ak[(ml:Int).toNat]?).bind fun x35=>
     bif (decide (0≤pf))&&(decide (pf<((ak.set ((ml:Int).toNat) (.agg [.int .i64 ((rG.cell 0).toInt),.int .i64 ((rG.cell 1).toInt),.list aa ((rG.cell 2).toList)])).length:Int))) then
      ((ak.set ((ml:Int).toNat) (.agg [.int .i64 ((rG.cell 0).toInt),.int .i64 ((rG.cell 1).toInt),.list aa ((rG.cell 2).toList)]))[(pf:Int).toNat]?).bind fun x36=>
      kn (IntKind.wrap .i64 (ml+1),IntKind.wrap .i64 (pf-1),(ak.set ((ml:Int).toNat) (.agg [.int .i64 ((rG.cell 0).toInt),.int .i64 ((rG.cell 1).toInt),.list aa ((rG.cell 2).toList)])).set ((pf:Int).toNat) (.agg [.int .i64 ((MF.cell 0).toInt),.int .i64 ((MF.cell 1).toInt),.list aa ((MF.cell 2).toList)]))
     else none
     else none
    else none
    else none))
noncomputable def yn (C:ag) (a:Int):(Int × Int × (List V))→Option ((Int × Int × (List V)) ⊕ (Int × Int × Bool × (List V))):=un fun i=>un fun j ak=>BJ C a i j ak (fun y=>some (.inl y)) (fun r=>some (.inr r))
noncomputable def Uj (C:ag):ct:=fun β n ds k=>
 bif Nat.beq n 49 then bW LJ [false,true,false,false] [[1,0,3,0,4]] (@BE C) ds k else
 bif Nat.beq n 81 then bW LL [false,false,true,false] [[1,2,0,0,4]] (@yj C) ds k else
 bif Nat.beq n 209 then bW LM [false,true,false,false] [[1,0,3,0,4]] (@BG C) ds k else
 bif Nat.beq n 241 then bW LN [false,false,true,false] [[1,2,0,0,4]] (@yl C) ds k else
 bif Nat.beq n 210 then bW LO [false,true,true,true] [[1,0,0,0,0]] (@BJ C) ds k else
 none
abbrev BK (C:ag) (b:cq):Prop:=cr Try.prog ay C (Uj C) 118 (cK Try.prog (ay.aV 118)) (ay.sin 118).bj.length b
theorem afx (C:ag):BK C (.loop (av [1,1,1,0,0,0] qc)):=
 bY LJ [false,true,false,false] [[1,0,3,0,4]] (@BE C) (by kernel_rfl) (aZ (bs:=[]) (by kernel_rfl) aw) (fun ds=>by kernel_rfl) (fun i x=>by kernel_rfl) (fun i x β k=>by kernel_rfl) (fun β ds k=>by kernel_rfl)
theorem afy (C:ag):BK C (.loop (av [1,1,1,1,0,0,0] qc)):=
 bY LL [false,false,true,false] [[1,2,0,0,4]] (@yj C) (by kernel_rfl) (aZ (bs:=[]) (by kernel_rfl) aw) (fun ds=>by kernel_rfl) (fun i x=>by kernel_rfl) (fun i x β k=>by kernel_rfl) (fun β ds k=>by kernel_rfl)
theorem afz (C:ag):BK C (.loop (av [1,1,1,1,1,1,1,1,1,0,0,0,0,0,0,0] qc)):=
 bY LM [false,true,false,false] [[1,0,3,0,4]] (@BG C) (by kernel_rfl) (aZ (bs:=[]) (by kernel_rfl) aw) (fun ds=>by kernel_rfl) (fun i x=>by kernel_rfl) (fun i x β k=>by kernel_rfl) (fun β ds k=>by kernel_rfl)
theorem afA (C:ag):BK C (.loop (av [1,1,1,1,1,1,1,1,1,0,0,0,0,1,0,0,0] qc)):=
 bY LN [false,false,true,false] [[1,2,0,0,4]] (@yl C) (by kernel_rfl) (aZ (bs:=[]) (by kernel_rfl) aw) (fun ds=>by kernel_rfl) (fun i x=>by kernel_rfl) (fun i x β k=>by kernel_rfl) (fun β ds k=>by kernel_rfl)
theorem afB (C:ag):BK C (.loop (av [1,1,1,1,1,1,1,1,1,0,0,0] qc)):=
 bY LO [false,true,true,true] [[1,0,0,0,0]] (@BJ C) (by kernel_rfl) (aZ (bs:=[.loop (av [1,1,1,1,1,1,1,1,1,0,0,0,0,0,0,0] qc),.loop (av [1,1,1,1,1,1,1,1,1,0,0,0,0,1,0,0,0] qc)]) (by kernel_rfl) (bu (afz C) (bu (afA C) aw))) (fun ds=>by kernel_rfl) (fun i x=>by kernel_rfl) (fun i x β k=>by kernel_rfl) (fun β ds k=>by kernel_rfl)
noncomputable def Uk (C:ag) (a b' pivot:Int) (ak:List V):Option (List V):=
 bif (decide (0≤pivot))&&(decide (pivot<(ak.length:Int))) then
  (ak[(pivot:Int).toNat]?).bind fun x1=>
  bif (decide (0≤a))&&(decide (a<(ak.length:Int))) then
  (ak[(a:Int).toNat]?).bind fun x2=>
  bif (decide (0≤a))&&(decide (a<(ak.length:Int))) then
   (ak[(a:Int).toNat]?).bind fun x3=>
   bif (decide (0≤pivot))&&(decide (pivot<((ak.set ((a:Int).toNat) (.agg [.int .i64 ((x1.cell 0).toInt),.int .i64 ((x1.cell 1).toInt),.list aa ((x1.cell 2).toList)])).length:Int))) then
   ((ak.set ((a:Int).toNat) (.agg [.int .i64 ((x1.cell 0).toInt),.int .i64 ((x1.cell 1).toInt),.list aa ((x1.cell 2).toList)]))[(pivot:Int).toNat]?).bind fun x4=>
   (Loop (BF C a (IntKind.wrap .i64 (b'-1)) ((ak.set ((a:Int).toNat) (.agg [.int .i64 ((x1.cell 0).toInt),.int .i64 ((x1.cell 1).toInt),.list aa ((x1.cell 2).toList)])).set ((pivot:Int).toNat) (.agg [.int .i64 ((x2.cell 0).toInt),.int .i64 ((x2.cell 1).toInt),.list aa ((x2.cell 2).toList)]))) (IntKind.wrap .i64 (a+1))).bind (un fun (fi:Int) (sV:Bool)=>
    (Loop (yk C a fi ((ak.set ((a:Int).toNat) (.agg [.int .i64 ((x1.cell 0).toInt),.int .i64 ((x1.cell 1).toInt),.list aa ((x1.cell 2).toList)])).set ((pivot:Int).toNat) (.agg [.int .i64 ((x2.cell 0).toInt),.int .i64 ((x2.cell 1).toInt),.list aa ((x2.cell 2).toList)]))) (IntKind.wrap .i64 (b'-1))).bind (un fun (eL:Int) (rz:Bool)=>
     bif decide ((fi:Int)>eL) then
      bif (decide (0≤a))&&(decide (a<(((ak.set ((a:Int).toNat) (.agg [.int .i64 ((x1.cell 0).toInt),.int .i64 ((x1.cell 1).toInt),.list aa ((x1.cell 2).toList)])).set ((pivot:Int).toNat) (.agg [.int .i64 ((x2.cell 0).toInt),.int .i64 ((x2.cell 1).toInt),.list aa ((x2.cell 2).toList)])).length:Int))) then
      (((ak.set ((a:Int).toNat) (.agg [.int .i64 ((x1.cell 0).toInt),.int .i64 ((x1.cell 1).toInt),.list aa ((x1.cell 2).toList)])).set ((pivot:Int).toNat) (.agg [.int .i64 ((x2.cell 0).toInt),.int .i64 ((x2.cell 1).toInt),.list aa ((x2.cell 2).toList)]))[(a:Int).toNat]?).bind fun gi=>
      bif (decide (0≤eL))&&(decide (eL<(((ak.set ((a:Int).toNat) (.agg [.int .i64 ((x1.cell 0).toInt),.int .i64 ((x1.cell 1).toInt),.list aa ((x1.cell 2).toList)])).set ((pivot:Int).toNat) (.agg [.int .i64 ((x2.cell 0).toInt),.int .i64 ((x2.cell 1).toInt),.list aa ((x2.cell 2).toList)])).length:Int))) then
       (((ak.set ((a:Int).toNat) (.agg [.int .i64 ((x1.cell 0).toInt),.int .i64 ((x1.cell 1).toInt),.list aa ((x1.cell 2).toList)])).set ((pivot:Int).toNat) (.agg [.int .i64 ((x2.cell 0).toInt),.int .i64 ((x2.cell 1).toInt),.list aa ((x2.cell 2).toList)]))[(eL:Int).toNat]?).bind fun fv=>
       bif (decide (0≤eL))&&(decide (eL<(((ak.set ((a:Int).toNat) (.agg [.int .i64 ((x1.cell 0).toInt),.int .i64 ((x1.cell 1).toInt),.list aa ((x1.cell 2).toList)])).set ((pivot:Int).toNat) (.agg [.int .i64 ((x2.cell 0).toInt),.int .i64 ((x2.cell 1).toInt),.list aa ((x2.cell 2).toList)])).length:Int))) then
       (((ak.set ((a:Int).toNat) (.agg [.int .i64 ((x1.cell 0).toInt),.int .i64 ((x1.cell 1).toInt),.list aa ((x1.cell 2).toList)])).set ((pivot:Int).toNat) (.agg [.int .i64 ((x2.cell 0).toInt),.int .i64 ((x2.cell 1).toInt),.list aa ((x2.cell 2).toList)]))[(eL:Int).toNat]?).bind fun rD=>
       bif (decide (0≤a))&&(decide (a<((((ak.set ((a:Int).toNat) (.agg [.int .i64 ((x1.cell 0).toInt),.int .i64 ((x1.cell 1).toInt),.list aa ((x1.cell 2).toList)])).set ((pivot:Int).toNat) (.agg [.int .i64 ((x2.cell 0).toInt),.int .i64 ((x2.cell 1).toInt),.list aa ((x2.cell 2).toList)])).set ((eL:Int).toNat) (.agg [.int .i64 ((gi.cell 0).toInt),.int .i64 ((gi.cell 1).toInt),.list aa ((gi.cell 2).toList)])).length:Int))) then
        ((((ak.set ((a:Int).toNat) (.agg [.int .i64 ((x1.cell 0).toInt),.int .i64 ((x1.cell 1).toInt),.list aa ((x1.cell 2).toList)])).set ((pivot:Int).toNat) (.agg [.int .i64 ((x2.cell 0).toInt),.int .i64 ((x2.cell 1).toInt),.list aa ((x2.cell 2).toList)])).set ((eL:Int).toNat) (.agg [.int .i64 ((gi.cell 0).toInt),.int .i64 ((gi.cell 1).toInt),.list aa ((gi.cell 2).toList)]))[(a:Int).toNat]?).bind fun jL=>
        some [.int .i64 eL,.bool true,.list aa ((((ak.set ((a:Int).toNat) (.agg [.int .i64 ((x1.cell 0).toInt),.int .i64 ((x1.cell 1).toInt),.list aa ((x1.cell 2).toList)])).set ((pivot:Int).toNat) (.agg [.int .i64 ((x2.cell 0).toInt),.int .i64 ((x2.cell 1).toInt),.list aa ((x2.cell 2).toList)])).set ((eL:Int).toNat) (.agg [.int .i64 ((gi.cell 0).toInt),.int .i64 ((gi.cell 1).toInt),.list aa ((gi.cell 2).toList)])).set ((a:Int).toNat) (.agg [.int .i64 ((fv.cell 0).toInt),.int .i64 ((fv.cell 1).toInt),.list aa ((fv.cell 2).toList)]))]
       else none
       else none
      else none
      else none
     else
      bif (decide (0≤eL))&&(decide (eL<(((ak.set ((a:Int).toNat) (.agg [.int .i64 ((x1.cell 0).toInt),.int .i64 ((x1.cell 1).toInt),.list aa ((x1.cell 2).toList)])).set ((pivot:Int).toNat) (.agg [.int .i64 ((x2.cell 0).toInt),.int .i64 ((x2.cell 1).toInt),.list aa ((x2.cell 2).toList)])).length:Int))) then
      (((ak.set ((a:Int).toNat) (.agg [.int .i64 ((x1.cell 0).toInt),.int .i64 ((x1.cell 1).toInt),.list aa ((x1.cell 2).toList)])).set ((pivot:Int).toNat) (.agg [.int .i64 ((x2.cell 0).toInt),.int .i64 ((x2.cell 1).toInt),.list aa ((x2.cell 2).toList)]))[(eL:Int).toNat]?).bind fun qb=>
      bif (decide (0≤fi))&&(decide (fi<(((ak.set ((a:Int).toNat) (.agg [.int .i64 ((x1.cell 0).toInt),.int .i64 ((x1.cell 1).toInt),.list aa ((x1.cell 2).toList)])).set ((pivot:Int).toNat) (.agg [.int .i64 ((x2.cell 0).toInt),.int .i64 ((x2.cell 1).toInt),.list aa ((x2.cell 2).toList)])).length:Int))) then
       (((ak.set ((a:Int).toNat) (.agg [.int .i64 ((x1.cell 0).toInt),.int .i64 ((x1.cell 1).toInt),.list aa ((x1.cell 2).toList)])).set ((pivot:Int).toNat) (.agg [.int .i64 ((x2.cell 0).toInt),.int .i64 ((x2.cell 1).toInt),.list aa ((x2.cell 2).toList)]))[(fi:Int).toNat]?).bind fun vo=>
       bif (decide (0≤fi))&&(decide (fi<(((ak.set ((a:Int).toNat) (.agg [.int .i64 ((x1.cell 0).toInt),.int .i64 ((x1.cell 1).toInt),.list aa ((x1.cell 2).toList)])).set ((pivot:Int).toNat) (.agg [.int .i64 ((x2.cell 0).toInt),.int .i64 ((x2.cell 1).toInt),.list aa ((x2.cell 2).toList)])).length:Int))) then
       (((ak.set ((a:Int).toNat) (.agg [.int .i64 ((x1.cell 0).toInt),.int .i64 ((x1.cell 1).toInt),.list aa ((x1.cell 2).toList)])).set ((pivot:Int).toNat) (.agg [.int .i64 ((x2.cell 0).toInt),.int .i64 ((x2.cell 1).toInt),.list aa ((x2.cell 2).toList)]))[(fi:Int).toNat]?).bind fun GC=>
       bif (decide (0≤eL))&&(decide (eL<((((ak.set ((a:Int).toNat) (.agg [.int .i64 ((x1.cell 0).toInt),.int .i64 ((x1.cell 1).toInt),.list aa ((x1.cell 2).toList)])).set ((pivot:Int).toNat) (.agg [.int .i64 ((x2.cell 0).toInt),.int .i64 ((x2.cell 1).toInt),.list aa ((x2.cell 2).toList)])).set ((fi:Int).toNat) (.agg [.int .i64 ((qb.cell 0).toInt),.int .i64 ((qb.cell 1).toInt),.list aa ((qb.cell 2).toList)])).length:Int))) then
        ((((ak.set ((a:Int).toNat) (.agg [.int .i64 ((x1.cell 0).toInt),.int .i64 ((x1.cell 1).toInt),.list aa ((x1.cell 2).toList)])).set ((pivot:Int).toNat) (.agg [.int .i64 ((x2.cell 0).toInt),.int .i64 ((x2.cell 1).toInt),.list aa ((x2.cell 2).toList)])).set ((fi:Int).toNat) (.agg [.int .i64 ((qb.cell 0).toInt),.int .i64 ((qb.cell 1).toInt),.list aa ((qb.cell 2).toList)]))[(eL:Int).toNat]?).bind fun x22=>
        (Loop (yn C a) (IntKind.wrap .i64 (fi+1),IntKind.wrap .i64 (eL-1),(((ak.set ((a:Int).toNat) (.agg [.int .i64 ((x1.cell 0).toInt),.int .i64 ((x1.cell 1).toInt),.list aa ((x1.cell 2).toList)])).set ((pivot:Int).toNat) (.agg [.int .i64 ((x2.cell 0).toInt),.int .i64 ((x2.cell 1).toInt),.list aa ((x2.cell 2).toList)])).set ((fi:Int).toNat) (.agg [.int .i64 ((qb.cell 0).toInt),.int .i64 ((qb.cell 1).toInt),.list aa ((qb.cell 2).toList)])).set ((eL:Int).toNat) (.agg [.int .i64 ((vo.cell 0).toInt),.int .i64 ((vo.cell 1).toInt),.list aa ((vo.cell 2).toList)]))).bind (un fun (acC:Int)=>un fun (qd:Int)=>un fun (SB:Bool) (kh:List V)=>
         bif (decide (0≤a))&&(decide (a<(kh.length:Int))) then
         (kh[(a:Int).toNat]?).bind fun nc=>
         bif (decide (0≤qd))&&(decide (qd<(kh.length:Int))) then
          (kh[(qd:Int).toNat]?).bind fun vp=>
          bif (decide (0≤qd))&&(decide (qd<(kh.length:Int))) then
          (kh[(qd:Int).toNat]?).bind fun x43=>
          bif (decide (0≤a))&&(decide (a<((kh.set ((qd:Int).toNat) (.agg [.int .i64 ((nc.cell 0).toInt),.int .i64 ((nc.cell 1).toInt),.list aa ((nc.cell 2).toList)])).length:Int))) then
           ((kh.set ((qd:Int).toNat) (.agg [.int .i64 ((nc.cell 0).toInt),.int .i64 ((nc.cell 1).toInt),.list aa ((nc.cell 2).toList)]))[(a:Int).toNat]?).bind fun x44=>
           some [.int .i64 qd,.bool false,.list aa ((kh.set ((qd:Int).toNat) (.agg [.int .i64 ((nc.cell 0).toInt),.int .i64 ((nc.cell 1).toInt),.list aa ((nc.cell 2).toList)])).set ((a:Int).toNat) (.agg [.int .i64 ((vp.cell 0).toInt),.int .i64 ((vp.cell 1).toInt),.list aa ((vp.cell 2).toList)]))]
          else none
          else none
         else none
         else none)
       else none
       else none
      else none
      else none))
   else none
  else none
  else none
 else none
theorem afC {a b' pivot:Int} {ak:List V} {r:Option (List V)} (h:Uk CC a b' pivot ak=r):CC nV [.int .i64 a,.int .i64 b',.int .i64 pivot,.list aa ak]=r:=
 bh (key:=118) (L:=Uj CC) (bs:=[.loop (av [1,1,1,0,0,0] qc),.loop (av [1,1,1,1,0,0,0] qc),.loop (av [1,1,1,1,1,1,1,1,1,0,0,0] qc)]) (by kernel_rfl) (bu (afx CC) (bu (afy CC) (bu (afB CC) aw))) (bd (by kernel_rfl) h)
noncomputable abbrev yo:Code:=cF Try.prog (ay.aV 117)
noncomputable def BL (C:ag) (a j:Int) (ak:List V) (i:Int) {β:Type} (kn:Int→Option β) (kr:(Int × Bool)→Option β):Option β:=
 bif decide ((i:Int)≤j) then
  bif (decide (0≤a))&&(decide (a<(ak.length:Int))) then
  (ak[(a:Int).toNat]?).bind fun x5=>
  bif (decide (0≤i))&&(decide (i<(ak.length:Int))) then
   (ak[(i:Int).toNat]?).bind fun x6=>
   (C bn [.int .i64 ((x5.cell 0).toInt),.int .i64 ((x5.cell 1).toInt),.list aa ((x5.cell 2).toList),.int .i64 ((x6.cell 0).toInt),.int .i64 ((x6.cell 1).toInt),.list aa ((x6.cell 2).toList)]).bind fun r7=>
   bif !(decide ((((V.nth r7 0).toInt):Int)<0)) then
   kn (IntKind.wrap .i64 (i+1))
   else
   kr (i,!(decide ((((V.nth r7 0).toInt):Int)<0)))
  else none
  else none
 else
  kr (i,false)
noncomputable def BM (C:ag) (a j:Int) (ak:List V):(Int)→Option ((Int) ⊕ (Int × Bool)):=fun i=>BL C a j ak i (fun y=>some (.inl y)) (fun r=>some (.inr r))
noncomputable def yp (C:ag) (a i:Int) (ak:List V) (j:Int) {β:Type} (kn:Int→Option β) (kr:(Int × Bool)→Option β):Option β:=
 bif decide ((i:Int)≤j) then
  bif (decide (0≤a))&&(decide (a<(ak.length:Int))) then
  (ak[(a:Int).toNat]?).bind fun kW=>
  bif (decide (0≤j))&&(decide (j<(ak.length:Int))) then
   (ak[(j:Int).toNat]?).bind fun eK=>
   (C bn [.int .i64 ((kW.cell 0).toInt),.int .i64 ((kW.cell 1).toInt),.list aa ((kW.cell 2).toList),.int .i64 ((eK.cell 0).toInt),.int .i64 ((eK.cell 1).toInt),.list aa ((eK.cell 2).toList)]).bind fun gh=>
   bif decide ((((V.nth gh 0).toInt):Int)<0) then
   kn (IntKind.wrap .i64 (j-1))
   else
   kr (j,decide ((((V.nth gh 0).toInt):Int)<0))
  else none
  else none
 else
  kr (j,false)
noncomputable def yq (C:ag) (a i:Int) (ak:List V):(Int)→Option ((Int) ⊕ (Int × Bool)):=fun j=>yp C a i ak j (fun y=>some (.inl y)) (fun r=>some (.inr r))
noncomputable def BN (C:ag) (a i j:Int) (ak:List V) {β:Type} (kn:(Int × Int × (List V))→Option β) (kr:(Int × Int × Bool × (List V))→Option β):Option β:=
 (Loop (BM C a j ak) i).bind (un fun (fi:Int) (sV:Bool)=>
  (Loop (yq C a fi ak) j).bind (un fun (eL:Int) (rz:Bool)=>
   bif decide ((fi:Int)>eL) then
    kr (fi,eL,decide ((fi:Int)>eL),ak)
   else
    bif (decide (0≤eL))&&(decide (eL<(ak.length:Int))) then
    (ak[(eL:Int).toNat]?).bind fun gi=>
    bif (decide (0≤fi))&&(decide (fi<(ak.length:Int))) then
     (ak[(fi:Int).toNat]?).bind fun fv=>
     bif (decide (0≤fi))&&(decide (fi<(ak.length:Int))) then
     (ak[(fi:Int).toNat]?).bind fun rD=>
     bif (decide (0≤eL))&&(decide (eL<((ak.set ((fi:Int).toNat) (.agg [.int .i64 ((gi.cell 0).toInt),.int .i64 ((gi.cell 1).toInt),.list aa ((gi.cell 2).toList)])).length:Int))) then
      ((ak.set ((fi:Int).toNat) (.agg [.int .i64 ((gi.cell 0).toInt),.int .i64 ((gi.cell 1).toInt),.list aa ((gi.cell 2).toList)]))[(eL:Int).toNat]?).bind fun jL=>
      kn (IntKind.wrap .i64 (fi+1),IntKind.wrap .i64 (eL-1),(ak.set ((fi:Int).toNat) (.agg [.int .i64 ((gi.cell 0).toInt),.int .i64 ((gi.cell 1).toInt),.list aa ((gi.cell 2).toList)])).set ((eL:Int).toNat) (.agg [.int .i64 ((fv.cell 0).toInt),.int .i64 ((fv.cell 1).toInt),.list aa ((fv.cell 2).toList)]))
     else none
     else none
    else none
    else none))
noncomputable def yr (C:ag) (a:Int):(Int × Int × (List V))→Option ((Int × Int × (List V)) ⊕ (Int × Int × Bool × (List V))):=un fun i=>un fun j ak=>BN C a i j ak (fun y=>some (.inl y)) (fun r=>some (.inr r))
noncomputable def Ul (C:ag):ct:=fun β n ds k=>
 bif Nat.beq n 49 then bW LG [false,true,false,false] [[1,0,3,0,4]] (@BL C) ds k else
 bif Nat.beq n 81 then bW LH [false,false,true,false] [[1,2,0,0,4]] (@yp C) ds k else
 bif Nat.beq n 50 then bW LI [false,true,true,true] [[1,0,0,0,0]] (@BN C) ds k else
 none
abbrev MG (C:ag) (b:cq):Prop:=cr Try.prog ay C (Ul C) 117 (cK Try.prog (ay.aV 117)) (ay.sin 117).bj.length b
theorem afD (C:ag):MG C (.loop (av [1,1,1,0,0,0,0,0,0,0] yo)):=
 bY LG [false,true,false,false] [[1,0,3,0,4]] (@BL C) (by kernel_rfl) (aZ (bs:=[]) (by kernel_rfl) aw) (fun ds=>by kernel_rfl) (fun i x=>by kernel_rfl) (fun i x β k=>by kernel_rfl) (fun β ds k=>by kernel_rfl)
theorem afE (C:ag):MG C (.loop (av [1,1,1,0,0,0,0,1,0,0,0] yo)):=
 bY LH [false,false,true,false] [[1,2,0,0,4]] (@yp C) (by kernel_rfl) (aZ (bs:=[]) (by kernel_rfl) aw) (fun ds=>by kernel_rfl) (fun i x=>by kernel_rfl) (fun i x β k=>by kernel_rfl) (fun β ds k=>by kernel_rfl)
theorem afF (C:ag):MG C (.loop (av [1,1,1,0,0,0] yo)):=
 bY LI [false,true,true,true] [[1,0,0,0,0]] (@BN C) (by kernel_rfl) (aZ (bs:=[.loop (av [1,1,1,0,0,0,0,0,0,0] yo),.loop (av [1,1,1,0,0,0,0,1,0,0,0] yo)]) (by kernel_rfl) (bu (afD C) (bu (afE C) aw))) (fun ds=>by kernel_rfl) (fun i x=>by kernel_rfl) (fun i x β k=>by kernel_rfl) (fun β ds k=>by kernel_rfl)
noncomputable def Um (C:ag) (a b' pivot:Int) (ak:List V):Option (List V):=
 bif (decide (0≤pivot))&&(decide (pivot<(ak.length:Int))) then
  (ak[(pivot:Int).toNat]?).bind fun x1=>
  bif (decide (0≤a))&&(decide (a<(ak.length:Int))) then
  (ak[(a:Int).toNat]?).bind fun x2=>
  bif (decide (0≤a))&&(decide (a<(ak.length:Int))) then
   (ak[(a:Int).toNat]?).bind fun x3=>
   bif (decide (0≤pivot))&&(decide (pivot<((ak.set ((a:Int).toNat) (.agg [.int .i64 ((x1.cell 0).toInt),.int .i64 ((x1.cell 1).toInt),.list aa ((x1.cell 2).toList)])).length:Int))) then
   ((ak.set ((a:Int).toNat) (.agg [.int .i64 ((x1.cell 0).toInt),.int .i64 ((x1.cell 1).toInt),.list aa ((x1.cell 2).toList)]))[(pivot:Int).toNat]?).bind fun x4=>
   (Loop (yr C a) (IntKind.wrap .i64 (a+1),IntKind.wrap .i64 (b'-1),(ak.set ((a:Int).toNat) (.agg [.int .i64 ((x1.cell 0).toInt),.int .i64 ((x1.cell 1).toInt),.list aa ((x1.cell 2).toList)])).set ((pivot:Int).toNat) (.agg [.int .i64 ((x2.cell 0).toInt),.int .i64 ((x2.cell 1).toInt),.list aa ((x2.cell 2).toList)]))).bind (un fun (afG:Int)=>un fun (alL:Int)=>un fun (Bk:Bool) (afH:List V)=>
    some [.int .i64 afG,.list aa afH])
   else none
  else none
  else none
 else none
theorem afI {a b' pivot:Int} {ak:List V} {r:Option (List V)} (h:Um CC a b' pivot ak=r):CC uV [.int .i64 a,.int .i64 b',.int .i64 pivot,.list aa ak]=r:=
 bh (key:=117) (L:=Ul CC) (bs:=[.loop (av [1,1,1,0,0,0] yo)]) (by kernel_rfl) (bu (afF CC) aw) (bd (by kernel_rfl) h)
noncomputable abbrev og:Code:=cF Try.prog (ay.aV 116)
noncomputable def BO (C:ag) (a b' j:Int) (ak:List V) (i:Int) {β:Type} (kn:Int→Option β) (kr:(Int × Bool)→Option β):Option β:=
 bif decide ((i:Int)<b') then
  bif (decide (0≤i))&&(decide (i<(ak.length:Int))) then
  (ak[(i:Int).toNat]?).bind fun x1=>
  bif (decide (0≤(IntKind.wrap .i64 (i-1))))&&(decide ((IntKind.wrap .i64 (i-1))<(ak.length:Int))) then
   (ak[(IntKind.wrap .i64 (i-1):Int).toNat]?).bind fun x2=>
   (C bn [.int .i64 ((x1.cell 0).toInt),.int .i64 ((x1.cell 1).toInt),.list aa ((x1.cell 2).toList),.int .i64 ((x2.cell 0).toInt),.int .i64 ((x2.cell 1).toInt),.list aa ((x2.cell 2).toList)]).bind fun r3=>
   bif !(decide ((((V.nth r3 0).toInt):Int)<0)) then
   kn (IntKind.wrap .i64 (i+1))
   else
   kr (i,!(decide ((((V.nth r3 0).toInt):Int)<0)))
  else none
  else none
 else
  kr (i,false)
noncomputable def BP (C:ag) (a b' j:Int) (ak:List V):(Int)→Option ((Int) ⊕ (Int × Bool)):=fun i=>BO C a b' j ak i (fun y=>some (.inl y)) (fun r=>some (.inr r))
noncomputable def BQ (C:ag) (a b' i j j':Int) (ak:List V) {β:Type} (kn:(Int × (List V))→Option β) (kr:(Int × (List V))→Option β):Option β:=
 bif decide ((j':Int)≥1) then
  bif (decide (0≤j'))&&(decide (j'<(ak.length:Int))) then
  (ak[(j':Int).toNat]?).bind fun kW=>
  bif (decide (0≤(IntKind.wrap .i64 (j'-1))))&&(decide ((IntKind.wrap .i64 (j'-1))<(ak.length:Int))) then
   (ak[(IntKind.wrap .i64 (j'-1):Int).toNat]?).bind fun eK=>
   (C bn [.int .i64 ((kW.cell 0).toInt),.int .i64 ((kW.cell 1).toInt),.list aa ((kW.cell 2).toList),.int .i64 ((eK.cell 0).toInt),.int .i64 ((eK.cell 1).toInt),.list aa ((eK.cell 2).toList)]).bind fun gh=>
   bif !(decide ((((V.nth gh 0).toInt):Int)<0)) then
   kr (j',ak)
   else
   bif (decide (0≤(IntKind.wrap .i64 (j'-1))))&&(decide ((IntKind.wrap .i64 (j'-1))<(ak.length:Int))) then
    (ak[(IntKind.wrap .i64 (j'-1):Int).toNat]?).bind fun ju=>
    bif (decide (0≤j'))&&(decide (j'<(ak.length:Int))) then
    (ak[(j':Int).toNat]?).bind fun od=>
    bif (decide (0≤j'))&&(decide (j'<(ak.length:Int))) then
     (ak[(j':Int).toNat]?).bind fun gi=>
     bif (decide (0≤(IntKind.wrap .i64 (j'-1))))&&(decide ((IntKind.wrap .i64 (j'-1))<((ak.set ((j':Int).toNat) (.agg [.int .i64 ((ju.cell 0).toInt),.int .i64 ((ju.cell 1).toInt),.list aa ((ju.cell 2).toList)])).length:Int))) then
     ((ak.set ((j':Int).toNat) (.agg [.int .i64 ((ju.cell 0).toInt),.int .i64 ((ju.cell 1).toInt),.list aa ((ju.cell 2).toList)]))[(IntKind.wrap .i64 (j'-1):Int).toNat]?).bind fun fv=>
     kn (IntKind.wrap .i64 (j'-1),(ak.set ((j':Int).toNat) (.agg [.int .i64 ((ju.cell 0).toInt),.int .i64 ((ju.cell 1).toInt),.list aa ((ju.cell 2).toList)])).set ((IntKind.wrap .i64 (j'-1):Int).toNat) (.agg [.int .i64 ((od.cell 0).toInt),.int .i64 ((od.cell 1).toInt),.list aa ((od.cell 2).toList)]))
     else none
    else none
    else none
   else none
  else none
  else none
 else
  kr (j',ak)
noncomputable def BR (C:ag) (a b' i j:Int):(Int × (List V))→Option ((Int × (List V)) ⊕ (Int × (List V))):=un fun j' ak=>BQ C a b' i j j' ak (fun y=>some (.inl y)) (fun r=>some (.inr r))
noncomputable def GD (C:ag) (a b' i j:Int) (t65:Bool) (ak:List V) {β:Type} (kr:(List V)→Option β):Option β:=
 bif t65 then
  (Loop (BR C a b' i j) (IntKind.wrap .i64 (i-1),ak)).bind (un fun (alM:Int) (afJ:List V)=>
   kr afJ)
 else
  kr ak
noncomputable def BT (C:ag) (a b' i j j':Int) (ak:List V) {β:Type} (kn:(Int × (List V))→Option β) (kr:(Int × (List V))→Option β):Option β:=
 bif decide ((j':Int)<b') then
  bif (decide (0≤j'))&&(decide (j'<(ak.length:Int))) then
  (ak[(j':Int).toNat]?).bind fun vo=>
  bif (decide (0≤(IntKind.wrap .i64 (j'-1))))&&(decide ((IntKind.wrap .i64 (j'-1))<(ak.length:Int))) then
   (ak[(IntKind.wrap .i64 (j'-1):Int).toNat]?).bind fun GC=>
   (C bn [.int .i64 ((vo.cell 0).toInt),.int .i64 ((vo.cell 1).toInt),.list aa ((vo.cell 2).toList),.int .i64 ((GC.cell 0).toInt),.int .i64 ((GC.cell 1).toInt),.list aa ((GC.cell 2).toList)]).bind fun iO=>
   bif !(decide ((((V.nth iO 0).toInt):Int)<0)) then
   kr (j',ak)
   else
   bif (decide (0≤(IntKind.wrap .i64 (j'-1))))&&(decide ((IntKind.wrap .i64 (j'-1))<(ak.length:Int))) then
    (ak[(IntKind.wrap .i64 (j'-1):Int).toNat]?).bind fun kf=>
    bif (decide (0≤j'))&&(decide (j'<(ak.length:Int))) then
    (ak[(j':Int).toNat]?).bind fun pe=>
    bif (decide (0≤j'))&&(decide (j'<(ak.length:Int))) then
     (ak[(j':Int).toNat]?).bind fun x25=>
     bif (decide (0≤(IntKind.wrap .i64 (j'-1))))&&(decide ((IntKind.wrap .i64 (j'-1))<((ak.set ((j':Int).toNat) (.agg [.int .i64 ((kf.cell 0).toInt),.int .i64 ((kf.cell 1).toInt),.list aa ((kf.cell 2).toList)])).length:Int))) then
     ((ak.set ((j':Int).toNat) (.agg [.int .i64 ((kf.cell 0).toInt),.int .i64 ((kf.cell 1).toInt),.list aa ((kf.cell 2).toList)]))[(IntKind.wrap .i64 (j'-1):Int).toNat]?).bind fun oh=>
     kn (IntKind.wrap .i64 (j'+1),(ak.set ((j':Int).toNat) (.agg [.int .i64 ((kf.cell 0).toInt),.int .i64 ((kf.cell 1).toInt),.list aa ((kf.cell 2).toList)])).set ((IntKind.wrap .i64 (j'-1):Int).toNat) (.agg [.int .i64 ((pe.cell 0).toInt),.int .i64 ((pe.cell 1).toInt),.list aa ((pe.cell 2).toList)]))
     else none
    else none
    else none
   else none
  else none
  else none
 else
  kr (j',ak)
noncomputable def BU (C:ag) (a b' i j:Int):(Int × (List V))→Option ((Int × (List V)) ⊕ (Int × (List V))):=un fun j' ak=>BT C a b' i j j' ak (fun y=>some (.inl y)) (fun r=>some (.inr r))
noncomputable def BV (C:ag) (a b' i j:Int) (ak:List V) {β:Type} (kn:(Int × Int × (List V))→Option β) (kr:((Bool × (List V)) ⊕ (Int × Int × Bool × (List V)))→Option β):Option β:=
 bif decide ((j:Int)<5) then
  (Loop (BP C a b' j ak) i).bind (un fun (fw:Int) (m7:Bool)=>
   bif (fw:Int)==b' then
   kr (.inl (true,ak))
   else
   bif decide (((IntKind.wrap .i64 (b'-a)):Int)<50) then
    kr (.inl (false,ak))
   else
    bif (decide (0≤(IntKind.wrap .i64 (fw-1))))&&(decide ((IntKind.wrap .i64 (fw-1))<(ak.length:Int))) then
    (ak[(IntKind.wrap .i64 (fw-1):Int).toNat]?).bind fun x6=>
    bif (decide (0≤fw))&&(decide (fw<(ak.length:Int))) then
     (ak[(fw:Int).toNat]?).bind fun x7=>
     bif (decide (0≤fw))&&(decide (fw<(ak.length:Int))) then
     (ak[(fw:Int).toNat]?).bind fun x8=>
     bif (decide (0≤(IntKind.wrap .i64 (fw-1))))&&(decide ((IntKind.wrap .i64 (fw-1))<((ak.set ((fw:Int).toNat) (.agg [.int .i64 ((x6.cell 0).toInt),.int .i64 ((x6.cell 1).toInt),.list aa ((x6.cell 2).toList)])).length:Int))) then
      ((ak.set ((fw:Int).toNat) (.agg [.int .i64 ((x6.cell 0).toInt),.int .i64 ((x6.cell 1).toInt),.list aa ((x6.cell 2).toList)]))[(IntKind.wrap .i64 (fw-1):Int).toNat]?).bind fun x9=>
      GD C a b' fw j (decide (((IntKind.wrap .i64 (fw-a)):Int)≥2)) ((ak.set ((fw:Int).toNat) (.agg [.int .i64 ((x6.cell 0).toInt),.int .i64 ((x6.cell 1).toInt),.list aa ((x6.cell 2).toList)])).set ((IntKind.wrap .i64 (fw-1):Int).toNat) (.agg [.int .i64 ((x7.cell 0).toInt),.int .i64 ((x7.cell 1).toInt),.list aa ((x7.cell 2).toList)])) (fun (Un:List V)=>
       bif decide (((IntKind.wrap .i64 (b'-fw)):Int)≥2) then
       (Loop (BU C a b' fw j) (IntKind.wrap .i64 (fw+1),Un)).bind (un fun (alN:Int) (afK:List V)=>
        kn (fw,IntKind.wrap .i64 (j+1),afK))
       else
       kn (fw,IntKind.wrap .i64 (j+1),Un))
     else none
     else none
    else none
    else none)
 else
  kr (.inr (i,j,decide ((j:Int)<5),ak))
noncomputable def s9 (C:ag) (a b':Int):(Int × Int × (List V))→Option ((Int × Int × (List V)) ⊕ ((Bool × (List V)) ⊕ (Int × Int × Bool × (List V)))):=un fun i=>un fun j ak=>BV C a b' i j ak (fun y=>some (.inl y)) (fun r=>some (.inr r))
noncomputable def Uo (C:ag):ct:=fun β n ds k=>
 bif Nat.beq n 81 then bW LA [false,false,true,false,false] [[1,2,0,4,0,5]] (@BO C) ds k else
 bif Nat.beq n 225 then bW LB [false,false,false,false,true,true] [[1,2,3,4,0,0]] (@BQ C) ds k else
 bif Nat.beq n 1055 then ij LC [[1,2,3,4,0]] (@GD C) ds k else
 bif Nat.beq n 321 then bW LD [false,false,false,false,true,true] [[1,2,3,4,0,0]] (@BT C) ds k else
 bif Nat.beq n 49 then bW LF [false,false,true,true,true] [[0,0],[1,2,0,0,0,0]] (@BV C) ds k else
 none
abbrev BW (C:ag) (b:cq):Prop:=cr Try.prog ay C (Uo C) 116 (cK Try.prog (ay.aV 116)) (ay.sin 116).bj.length b
theorem afL (C:ag):BW C (.loop (av [1,1,0,1,0,0,1,0,0,0,0,0] og)):=
 bY LA [false,false,true,false,false] [[1,2,0,4,0,5]] (@BO C) (by kernel_rfl) (aZ (bs:=[]) (by kernel_rfl) aw) (fun ds=>by kernel_rfl) (fun i x=>by kernel_rfl) (fun i x β k=>by kernel_rfl) (fun β ds k=>by kernel_rfl)
theorem afM (C:ag):BW C (.loop (av [1,1,0,1,0,0,1,0,0,1,1,1,1,0,1,0,1,0,0] og)):=
 bY LB [false,false,false,false,true,true] [[1,2,3,4,0,0]] (@BQ C) (by kernel_rfl) (aZ (bs:=[]) (by kernel_rfl) aw) (fun ds=>by kernel_rfl) (fun i x=>by kernel_rfl) (fun i x β k=>by kernel_rfl) (fun β ds k=>by kernel_rfl)
theorem afN (C:ag):BW C (.cond 65 (av [1,1,0,1,0,0,1,0,0,1,1,1,1,0,1,0] og) (av [1,1,0,1,0,0,1,0,0,1,1,1,1,0,1,1] og)):=
 iL LC [[1,2,3,4,0]] (@GD C) (by kernel_rfl) (aZ (bs:=[.loop (av [1,1,0,1,0,0,1,0,0,1,1,1,1,0,1,0,1,0,0] og)]) (by kernel_rfl) (bu (afM C) aw)) (aZ (bs:=[]) (by kernel_rfl) aw) (fun ds=>by kernel_rfl) (fun i β k=>by kernel_rfl) (fun β ds k=>by kernel_rfl)
theorem afO (C:ag):BW C (.loop (av [1,1,0,1,0,0,1,0,0,1,1,1,1,1,1,0,1,0,0] og)):=
 bY LD [false,false,false,false,true,true] [[1,2,3,4,0,0]] (@BT C) (by kernel_rfl) (aZ (bs:=[]) (by kernel_rfl) aw) (fun ds=>by kernel_rfl) (fun i x=>by kernel_rfl) (fun i x β k=>by kernel_rfl) (fun β ds k=>by kernel_rfl)
theorem afP (C:ag):BW C (.loop (av [1,1,0,1,0,0] og)):=
 bY LF [false,false,true,true,true] [[0,0],[1,2,0,0,0,0]] (@BV C) (by kernel_rfl) (aZ (bs:=[.loop (av [1,1,0,1,0,0,1,0,0,0,0,0] og),.cond 65 (av [1,1,0,1,0,0,1,0,0,1,1,1,1,0,1,0] og) (av [1,1,0,1,0,0,1,0,0,1,1,1,1,0,1,1] og),.loop (av [1,1,0,1,0,0,1,0,0,1,1,1,1,1,1,0,1,0,0] og)]) (by kernel_rfl) (bu (afL C) (bu (afN C) (bu (afO C) aw)))) (fun ds=>by kernel_rfl) (fun i x=>by kernel_rfl) (fun i x β k=>by kernel_rfl) (fun β ds k=>by kernel_rfl)
noncomputable def Up (C:ag) (a b':Int) (ak:List V):Option (List V):=
 (Loop (s9 C a b') (IntKind.wrap .i64 (a+1),0,ak)).bind (bV (un fun (L6:Bool) (afQ:List V)=>
  some [.bool L6,.list aa afQ]) (un fun (alO:Int)=>un fun (alP:Int)=>un fun (Sy:Bool) (afR:List V)=>
  some [.bool false,.list aa afR]))
theorem afS {a b':Int} {ak:List V} {r:Option (List V)} (h:Up CC a b' ak=r):CC FI [.int .i64 a,.int .i64 b',.list aa ak]=r:=
 bh (key:=116) (L:=Uo CC) (bs:=[.loop (av [1,1,0,1,0,0] og)]) (by kernel_rfl) (bu (afP CC) aw) (bd (by kernel_rfl) h)
end Go.AM
set_option maxRecDepth 100000
set_option maxHeartbeats 4000000
namespace Go.AM.SX
open Go.Proofs Go.Sort
theorem yu (p:XE→Bool) (d:Array XE) (j i:Nat):scanUp p d j i=if i≤j then (if p d[i]! =true then scanUp p d j (i+1) else i) else i:=by
 conv=>lhs;rw[scanUp]
 by_cases h:i≤j
 ·rw[aj h];simp only[h,rX,mz]
 ·rw[ai h,ai (by simp[h])]
theorem MH (p:XE→Bool) (d:Array XE) (i j:Nat):scanDown p d i (j+1)=if i≤j+1 then (if p d[j+1]! =true then scanDown p d i j else j+1) else j+1:=by
 conv=>lhs;rw[scanDown]
 by_cases h:i≤j+1
 ·rw[aj h];simp only[h,rX,mz]
 ·rw[ai h,ai (by simp[h])]
theorem GF (d:Array XE) (b i:Nat):scanSorted aA d b i=if i<b then (if b8 d[i]! d[i-1]! <0 then i else scanSorted aA d b (i+1)) else i:=by
 conv=>lhs;rw[scanSorted]
 by_cases h:i<b
 ·rw[aj h];simp only[h,rX,mz,rF]
  by_cases U:b8 d[i]! d[i-1]! <0
  ·rw[ai (qt U),aj U]
  ·rw[aj U,ai U]
 ·rw[ai h,ai (by simp[h])]
theorem Uq (j:Nat) (d:Array XE):shiftDown aA (j+1) d=if b8 d[j+1]! d[j]! <0 then shiftDown aA j (swp d (j+1) j) else d:=by
 conv=>lhs;rw[shiftDown]
 simp only[rF]
 by_cases U:b8 d[j+1]! d[j]! <0
 ·rw[ai (qt U),aj U]
 ·rw[aj U,ai U]
theorem GG (b j:Nat) (d:Array XE):shiftUp aA b j d=if j<b then (if b8 d[j]! d[j-1]! <0 then shiftUp aA b (j+1) (swp d j (j-1)) else d) else d:=by
 conv=>lhs;rw[shiftUp]
 simp only[rF]
 by_cases h:j<b
 ·rw[aj h,aj h]
  by_cases U:b8 d[j]! d[j-1]! <0
  ·rw[ai (qt U),aj U]
  ·rw[aj U,ai U]
 ·rw[ai h,ai h]
theorem afT {a:Nat}: ∀(n i j:Nat) (d:Array XE),j+1-i≤n→(partLoop aA a i j d).2.size=d.size∧(partLoop aA a i j d).1≤j:=by
 intro n
 induction n with
 | zero=>
  intro i j d hn
  have h1:=scanUp_ge (fun x=>aA x d[a]!) d j i
  have U:=scanDown_le (fun x=> !aA x d[a]!) d (scanUp (fun x=>aA x d[a]!) d j i) j
  rw[partLoop_eq,aj (by omega)]
  exact ⟨rfl,U⟩
 | succ n ih=>
  intro i j d hn
  rw[partLoop_eq]
  have h1:=scanUp_ge (fun x=>aA x d[a]!) d j i
  have U:=scanDown_le (fun x=> !aA x d[a]!) d (scanUp (fun x=>aA x d[a]!) d j i) j
  split
  ·exact ⟨rfl,U⟩
  ·obtain ⟨h3,h4⟩:=ih (scanUp (fun x=>aA x d[a]!) d j i+1) (scanDown (fun x=> !aA x d[a]!) d (scanUp (fun x=>aA x d[a]!) d j i) j-1) (swp d (scanUp (fun x=>aA x d[a]!) d j i) (scanDown (fun x=> !aA x d[a]!) d (scanUp (fun x=>aA x d[a]!) d j i) j)) (by omega)
   exact ⟨by rw[h3,size_swp],by omega⟩
theorem kX {β:Type} {d:Array XE} {i:Nat} {x y:Option β} (h:i<d.size):(bif (decide (0≤(i:Int)))&&(decide ((i:Int)<((eA d).length:Int))) then x else y)=x:=by
 rw[gb,cY,az,aj (by omega),az,aj (by omega)]
theorem GH {β:Type} {d:Array XE} {i k:Nat} {v:V} {x y:Option β} (h:i<d.size):(bif (decide (0≤(i:Int)))&&(decide ((i:Int)<(((eA d).set k v).length:Int))) then x else y)=x:=by
 rw[oz,gb,cY,az,aj (by omega),az,aj (by omega)]
theorem kY {β:Type} {d:Array XE} {i:Nat} {f:V→Option β} (h:i<d.size):((eA d)[(i:Int).toNat]?).bind f=f (d[i]!).enc:=by
 rw[Int.toNat_natCast,gf h];rfl
theorem GI {β:Type} {d:Array XE} {i k:Nat} {v:V} {x:Option β} (h:i<d.size):(((eA d).set k v)[(i:Int).toNat]?).bind (fun _=>x)=x:=by
 rw[Int.toNat_natCast,bC (by rw[oz,gb];exact h)];rfl
theorem rH {β:Type} {d:Array XE} {i:Nat} {f:V→Option β} (h:i<d.size):((eA d)[i]?).bind f=f (d[i]!).enc:=by
 rw[gf h];rfl
theorem MI {β:Type} {d:Array XE} {i k:Nat} {v:V} {x:Option β} (h:i<d.size):(((eA d).set k v)[i]?).bind (fun _=>x)=x:=by
 rw[bC (by rw[oz,gb];exact h)];rfl
theorem afU {a j:Nat} {d:Array XE} (ha:a<d.size) (hj:j<d.size) (hs:d.size<1152921504606846976): ∀(n i:Nat),j+1-i=n→i≤d.size→
  ∃t,Loop (BF CC a j (eA d)) (i:Int)=some (((scanUp (fun x=>aA x d[a]!) d j i:Nat):Int),t):=by
 intro n
 induction n with
 | zero=>
  intro i hn hi
  rw[yu,ai (by omega)]
  exact ⟨false,aS (by simp (disch:=omega) only[BF,BE,az,ai])⟩
 | succ n ih=>
  intro i hn hi
  obtain ⟨t,h⟩:=ih (i+1) (by omega) (by omega)
  rw[yu,aj (by omega)]
  have e:BF CC a j (eA d) (i:Int)=if b8 d[i]! d[a]! <0 then some (.inl ((i+1:Nat):Int)) else some (.inr ((i:Int),decide (b8 d[i]! d[a]! <0))):=by
   simp (disch:=omega) only[BF,BE,az,cY,ig,aj,ai,wrap64,dP,gg,Int.toNat_natCast,Option.bind_some,gb,gf,XE.aW,XE.bc,XE.a9,XE.re,gd,iN,gZ,gT,V.aT,V.toInt_int,cond_true,cond_false]
  simp only[s7]
  by_cases U:b8 d[i]! d[a]! <0
  ·rw[aj U] at e
   rw[aj U]
   exact ⟨t,(bJ e).trans h⟩
  ·rw[ai U] at e
   rw[ai U]
   exact ⟨_,aS e⟩
theorem Ur {a j:Nat} {d:Array XE} (ha:a<d.size) (hj:j<d.size) (hs:d.size<1152921504606846976): ∀(n i:Nat),j+1-i=n→i≤d.size→
  ∃t,Loop (BI CC a j (eA d)) (i:Int)=some (((scanUp (fun x=>aA x d[a]!) d j i:Nat):Int),t):=by
 intro n
 induction n with
 | zero=>
  intro i hn hi
  rw[yu,ai (by omega)]
  exact ⟨false,aS (by simp (disch:=omega) only[BI,BG,az,ai])⟩
 | succ n ih=>
  intro i hn hi
  obtain ⟨t,h⟩:=ih (i+1) (by omega) (by omega)
  rw[yu,aj (by omega)]
  have e:BI CC a j (eA d) (i:Int)=if b8 d[i]! d[a]! <0 then some (.inl ((i+1:Nat):Int)) else some (.inr ((i:Int),decide (b8 d[i]! d[a]! <0))):=by
   simp (disch:=omega) only[BI,BG,az,cY,ig,aj,ai,wrap64,dP,gg,Int.toNat_natCast,Option.bind_some,gb,gf,XE.aW,XE.bc,XE.a9,XE.re,gd,iN,gZ,gT,V.aT,V.toInt_int,cond_true,cond_false]
  simp only[s7]
  by_cases U:b8 d[i]! d[a]! <0
  ·rw[aj U] at e
   rw[aj U]
   exact ⟨t,(bJ e).trans h⟩
  ·rw[ai U] at e
   rw[ai U]
   exact ⟨_,aS e⟩
theorem Us {a i:Nat} {d:Array XE} (ha:a<d.size) (hi:1≤i) (hs:d.size<1152921504606846976): ∀(j:Nat),j<d.size→
  ∃t,Loop (yk CC a i (eA d)) (j:Int)=some (((scanDown (fun x=> !aA x d[a]!) d i j:Nat):Int),t)
 | 0,hj=>⟨false,aS (by simp (disch:=omega) only[yk,yj,az,ai];rfl)⟩
 | j+1,hj=>by
  obtain ⟨t,h⟩:=Us ha hi hs j (by omega)
  rw[MH]
  by_cases h1:i≤j+1
  ·rw[aj h1]
   have e:yk CC a i (eA d) ((j+1:Nat):Int)=if b8 d[j+1]! d[a]! <0 then some (.inr (((j+1:Nat):Int),!decide (b8 d[j+1]! d[a]! <0))) else some (.inl (j:Int)):=by
    simp (disch:=omega) only[yk,yj,az,cY,ig,aj,ai,wrap64,dP,gg,Int.toNat_natCast,Option.bind_some,gb,gf,XE.aW,XE.bc,XE.a9,XE.re,gd,iN,gZ,gT,V.aT,V.toInt_int,cond_true,cond_false,vk]
   simp only[rF]
   by_cases U:b8 d[j+1]! d[a]! <0
   ·rw[aj U] at e
    rw[ai (qt U)]
    exact ⟨_,aS e⟩
   ·rw[ai U] at e
    rw[aj U]
    exact ⟨t,(bJ e).trans h⟩
  ·rw[ai h1]
   exact ⟨false,aS (by simp (disch:=omega) only[yk,yj,az,ai])⟩
theorem MJ {a i:Nat} {d:Array XE} (ha:a<d.size) (hi:1≤i) (hs:d.size<1152921504606846976): ∀(j:Nat),j<d.size→
  ∃t,Loop (ym CC a i (eA d)) (j:Int)=some (((scanDown (fun x=> !aA x d[a]!) d i j:Nat):Int),t)
 | 0,hj=>⟨false,aS (by simp (disch:=omega) only[ym,yl,az,ai];rfl)⟩
 | j+1,hj=>by
  obtain ⟨t,h⟩:=MJ ha hi hs j (by omega)
  rw[MH]
  by_cases h1:i≤j+1
  ·rw[aj h1]
   have e:ym CC a i (eA d) ((j+1:Nat):Int)=if b8 d[j+1]! d[a]! <0 then some (.inr (((j+1:Nat):Int),!decide (b8 d[j+1]! d[a]! <0))) else some (.inl (j:Int)):=by
    simp (disch:=omega) only[ym,yl,az,cY,ig,aj,ai,wrap64,dP,gg,Int.toNat_natCast,Option.bind_some,gb,gf,XE.aW,XE.bc,XE.a9,XE.re,gd,iN,gZ,gT,V.aT,V.toInt_int,cond_true,cond_false,vk]
   simp only[rF]
   by_cases U:b8 d[j+1]! d[a]! <0
   ·rw[aj U] at e
    rw[ai (qt U)]
    exact ⟨_,aS e⟩
   ·rw[ai U] at e
    rw[aj U]
    exact ⟨t,(bJ e).trans h⟩
  ·rw[ai h1]
   exact ⟨false,aS (by simp (disch:=omega) only[ym,yl,az,ai])⟩
theorem Ut {a j:Nat} {d:Array XE} (ha:a<d.size) (hj:j<d.size) (hs:d.size<1152921504606846976): ∀(n i:Nat),j+1-i=n→i≤d.size→
  ∃t,Loop (BM CC a j (eA d)) (i:Int)=some (((scanUp (fun x=> !aA d[a]! x) d j i:Nat):Int),t):=by
 intro n
 induction n with
 | zero=>
  intro i hn hi
  rw[yu,ai (by omega)]
  exact ⟨false,aS (by simp (disch:=omega) only[BM,BL,az,ai])⟩
 | succ n ih=>
  intro i hn hi
  obtain ⟨t,h⟩:=ih (i+1) (by omega) (by omega)
  rw[yu,aj (by omega)]
  have e:BM CC a j (eA d) (i:Int)=if b8 d[a]! d[i]! <0 then some (.inr ((i:Int),!decide (b8 d[a]! d[i]! <0))) else some (.inl ((i+1:Nat):Int)):=by
   simp (disch:=omega) only[BM,BL,az,cY,ig,aj,ai,wrap64,dP,gg,Int.toNat_natCast,Option.bind_some,gb,gf,XE.aW,XE.bc,XE.a9,XE.re,gd,iN,gZ,gT,V.aT,V.toInt_int,cond_true,cond_false]
  simp only[rF]
  by_cases U:b8 d[a]! d[i]! <0
  ·rw[aj U] at e
   rw[ai (qt U)]
   exact ⟨_,aS e⟩
  ·rw[ai U] at e
   rw[aj U]
   exact ⟨t,(bJ e).trans h⟩
theorem MK {a i:Nat} {d:Array XE} (ha:a<d.size) (hi:1≤i) (hs:d.size<1152921504606846976): ∀(j:Nat),j<d.size→
  ∃t,Loop (yq CC a i (eA d)) (j:Int)=some (((scanDown (fun x=>aA d[a]! x) d i j:Nat):Int),t)
 | 0,hj=>⟨false,aS (by simp (disch:=omega) only[yq,yp,az,ai];rfl)⟩
 | j+1,hj=>by
  obtain ⟨t,h⟩:=MK ha hi hs j (by omega)
  rw[MH]
  by_cases h1:i≤j+1
  ·rw[aj h1]
   have e:yq CC a i (eA d) ((j+1:Nat):Int)=if b8 d[a]! d[j+1]! <0 then some (.inl (j:Int)) else some (.inr (((j+1:Nat):Int),decide (b8 d[a]! d[j+1]! <0))):=by
    simp (disch:=omega) only[yq,yp,az,cY,ig,aj,ai,wrap64,dP,gg,Int.toNat_natCast,Option.bind_some,gb,gf,XE.aW,XE.bc,XE.a9,XE.re,gd,iN,gZ,gT,V.aT,V.toInt_int,cond_true,cond_false,vk]
   simp only[s7]
   by_cases U:b8 d[a]! d[j+1]! <0
   ·rw[aj U] at e
    rw[aj U]
    exact ⟨t,(bJ e).trans h⟩
   ·rw[ai U] at e
    rw[ai U]
    exact ⟨_,aS e⟩
  ·rw[ai h1]
   exact ⟨false,aS (by simp (disch:=omega) only[yq,yp,az,ai])⟩
theorem afV {a:Nat}: ∀(n i j:Nat) (d:Array XE),j+1-i≤n→1≤i→i≤d.size→a<d.size→j<d.size→d.size<1152921504606846976→
  ∃x z,Loop (yn CC a) ((i:Int),(j:Int),eA d)=some (x,(((partLoop aA a i j d).1:Nat):Int),z,eA (partLoop aA a i j d).2):=by
 intro n
 induction n with
 | zero=>
  intro i j d hn h1 U ha hj hs
  obtain ⟨t3,e3⟩:=Ur (a:=a) ha hj hs _ i rfl U
  have g1:=scanUp_ge (fun x=>aA x d[a]!) d j i
  have g2:=scanDown_le (fun x=> !aA x d[a]!) d (scanUp (fun x=>aA x d[a]!) d j i) j
  obtain ⟨t4,e4⟩:=MJ (a:=a) (i:=scanUp (fun x=>aA x d[a]!) d j i) ha (by omega) hs j hj
  rw[partLoop_eq,aj (by omega)]
  refine ⟨((scanUp (fun x=>aA x d[a]!) d j i:Nat):Int),true,aS ?_⟩
  simp only[yn,BJ,un]
  rw[e3]
  simp only[Option.bind_some,un]
  rw[e4]
  simp (disch:=omega) only[Option.bind_some,un,n0,cond_true]
 | succ n ih=>
  intro i j d hn h1 U ha hj hs
  obtain ⟨t3,e3⟩:=Ur (a:=a) ha hj hs _ i rfl U
  have g1:=scanUp_ge (fun x=>aA x d[a]!) d j i
  have g2:=scanDown_le (fun x=> !aA x d[a]!) d (scanUp (fun x=>aA x d[a]!) d j i) j
  obtain ⟨t4,e4⟩:=MJ (a:=a) (i:=scanUp (fun x=>aA x d[a]!) d j i) ha (by omega) hs j hj
  rw[partLoop_eq]
  have f:yn CC a ((i:Int),(j:Int),eA d)=yn CC a ((i:Int),(j:Int),eA d):=rfl
  conv at f=>rhs;simp only[yn,BJ,un];rw[e3];simp only[Option.bind_some,un];rw[e4];simp only[Option.bind_some,un]
  generalize hZ:scanUp (fun x=>aA x d[a]!) d j i=i2 at*
  generalize gu:scanDown (fun x=> !aA x d[a]!) d i2 j=j2 at*
  by_cases h:i2>j2
  ·rw[aj h]
   refine ⟨(i2:Int),true,aS (f.trans ?_)⟩
   simp (disch:=omega) only[Option.bind_some,n0,cond_true]
  ·rw[ai h]
   obtain ⟨x,z,e⟩:=ih (i2+1) (j2-1) (swp d i2 j2) (by omega) (by omega) (by rw[size_swp];omega) (by rw[size_swp];omega) (by rw[size_swp];omega) (by rw[size_swp];omega)
   refine ⟨x,z,(bJ (f.trans ?_)).trans e⟩
   simp (disch:=omega) only[az,cY,ig,aj,ai,wrap64,dP,gg,Int.toNat_natCast,Option.bind_some,gb,gf,XE.aW,XE.bc,XE.a9,XE.re,gd,iN,gZ,gT,V.aT,V.toInt_int,cond_true,cond_false,kV]
   rfl
theorem afW (d:Array XE) (a b pivot:Nat):partition aA d a b pivot=
  if scanUp (fun x=>aA x (swp d a pivot)[a]!) (swp d a pivot) (b-1) (a+1)>scanDown (fun x=> !aA x (swp d a pivot)[a]!) (swp d a pivot) (scanUp (fun x=>aA x (swp d a pivot)[a]!) (swp d a pivot) (b-1) (a+1)) (b-1) then
   (scanDown (fun x=> !aA x (swp d a pivot)[a]!) (swp d a pivot) (scanUp (fun x=>aA x (swp d a pivot)[a]!) (swp d a pivot) (b-1) (a+1)) (b-1),true,swp (swp d a pivot) (scanDown (fun x=> !aA x (swp d a pivot)[a]!) (swp d a pivot) (scanUp (fun x=>aA x (swp d a pivot)[a]!) (swp d a pivot) (b-1) (a+1)) (b-1)) a)
  else
   ((partLoop aA a (scanUp (fun x=>aA x (swp d a pivot)[a]!) (swp d a pivot) (b-1) (a+1)+1) (scanDown (fun x=> !aA x (swp d a pivot)[a]!) (swp d a pivot) (scanUp (fun x=>aA x (swp d a pivot)[a]!) (swp d a pivot) (b-1) (a+1)) (b-1)-1) (swp (swp d a pivot) (scanUp (fun x=>aA x (swp d a pivot)[a]!) (swp d a pivot) (b-1) (a+1)) (scanDown (fun x=> !aA x (swp d a pivot)[a]!) (swp d a pivot) (scanUp (fun x=>aA x (swp d a pivot)[a]!) (swp d a pivot) (b-1) (a+1)) (b-1)))).1,false,
    swp (partLoop aA a (scanUp (fun x=>aA x (swp d a pivot)[a]!) (swp d a pivot) (b-1) (a+1)+1) (scanDown (fun x=> !aA x (swp d a pivot)[a]!) (swp d a pivot) (scanUp (fun x=>aA x (swp d a pivot)[a]!) (swp d a pivot) (b-1) (a+1)) (b-1)-1) (swp (swp d a pivot) (scanUp (fun x=>aA x (swp d a pivot)[a]!) (swp d a pivot) (b-1) (a+1)) (scanDown (fun x=> !aA x (swp d a pivot)[a]!) (swp d a pivot) (scanUp (fun x=>aA x (swp d a pivot)[a]!) (swp d a pivot) (b-1) (a+1)) (b-1)))).2
    (partLoop aA a (scanUp (fun x=>aA x (swp d a pivot)[a]!) (swp d a pivot) (b-1) (a+1)+1) (scanDown (fun x=> !aA x (swp d a pivot)[a]!) (swp d a pivot) (scanUp (fun x=>aA x (swp d a pivot)[a]!) (swp d a pivot) (b-1) (a+1)) (b-1)-1) (swp (swp d a pivot) (scanUp (fun x=>aA x (swp d a pivot)[a]!) (swp d a pivot) (b-1) (a+1)) (scanDown (fun x=> !aA x (swp d a pivot)[a]!) (swp d a pivot) (scanUp (fun x=>aA x (swp d a pivot)[a]!) (swp d a pivot) (b-1) (a+1)) (b-1)))).1 a):=rfl
theorem yv (d:Array XE) (i j:Nat):eA ((d.setIfInBounds i d[j]!).setIfInBounds j d[i]!)=eA (swp d i j):=rfl
theorem afX {a b pivot:Nat} {d:Array XE} (hp:pivot<b) (fp:a<b) (hb:b≤d.size) (hs:d.size<1152921504606846976):
  CC nV [.int .i64 (a:Int),.int .i64 (b:Int),.int .i64 (pivot:Int),.list aa (eA d)]=
   some [.int .i64 ((partition aA d a b pivot).1:Int),.bool (partition aA d a b pivot).2.1,.list aa (eA (partition aA d a b pivot).2.2)]:=by
 refine afC ?_
 unfold Uk
 have z1:(swp d a pivot).size=d.size:=size_swp ..
 obtain ⟨t1,e1⟩:=afU (a:=a) (j:=b-1) (d:=swp d a pivot) (by omega) (by omega) (by omega) _ (a+1) rfl (by omega)
 have g1:=scanUp_ge (fun x=>aA x (swp d a pivot)[a]!) (swp d a pivot) (b-1) (a+1)
 have g2:=scanDown_le (fun x=> !aA x (swp d a pivot)[a]!) (swp d a pivot) (scanUp (fun x=>aA x (swp d a pivot)[a]!) (swp d a pivot) (b-1) (a+1)) (b-1)
 obtain ⟨t2,e2⟩:=Us (a:=a) (i:=scanUp (fun x=>aA x (swp d a pivot)[a]!) (swp d a pivot) (b-1) (a+1)) (d:=swp d a pivot) (by omega) (by omega) (by omega) (b-1) (by omega)
 have e0:=afW d a b pivot
 rw[kX (i:=pivot) (by omega),kY (by omega),kX (i:=a) (by omega),kY (by omega),kX (i:=a) (by omega),kY (by omega),GH (i:=pivot) (by omega),GI (by omega)]
 simp only[XE.aW,XE.bc,XE.a9,XE.re,Int.toNat_natCast,gd,yv]
 simp (disch:=omega) only[kV,dP,wrap64]
 rw[e1]
 simp only[Option.bind_some,un]
 rw[e2]
 simp only[Option.bind_some,un]
 generalize hZ:scanUp (fun x=>aA x (swp d a pivot)[a]!) (swp d a pivot) (b-1) (a+1)=i2 at*
 generalize gu:scanDown (fun x=> !aA x (swp d a pivot)[a]!) (swp d a pivot) i2 (b-1)=j2 at*
 generalize swp d a pivot=d1 at*
 by_cases h:i2>j2
 ·rw[aj h] at e0
  rw[e0,az,aj (by omega)]
  rw[kX (i:=a) (by omega)];(first|rw[kY (by omega)]|rw[rH (by omega)]);rw[kX (i:=j2) (by omega)];(first|rw[kY (by omega)]|rw[rH (by omega)]);rw[kX (i:=j2) (by omega)];(first|rw[kY (by omega)]|rw[rH (by omega)]);rw[GH (i:=a) (by omega)];(first|rw[GI (by omega)]|rw[MI (by omega)])
  simp only[XE.aW,XE.bc,XE.a9,XE.re,Int.toNat_natCast,gd,yv]
 ·rw[ai h] at e0
  rw[e0,az,ai (by omega)]
  have z2:(swp d1 i2 j2).size=d1.size:=size_swp ..
  obtain ⟨x,z,e5⟩:=afV (a:=a) _ (i2+1) (j2-1) (swp d1 i2 j2) (b9 _) (by omega) (by omega) (by omega) (by omega) (by omega)
  obtain ⟨q1,q2⟩:=afT (a:=a) _ (i2+1) (j2-1) (swp d1 i2 j2) (b9 _)
  rw[kX (i:=j2) (by omega)];(first|rw[kY (by omega)]|rw[rH (by omega)]);rw[kX (i:=i2) (by omega)];(first|rw[kY (by omega)]|rw[rH (by omega)]);rw[kX (i:=i2) (by omega)];(first|rw[kY (by omega)]|rw[rH (by omega)]);rw[GH (i:=j2) (by omega)];(first|rw[GI (by omega)]|rw[MI (by omega)])
  simp only[XE.aW,XE.bc,XE.a9,XE.re,Int.toNat_natCast,gd,yv]
  simp (disch:=omega) only[kV,dP,wrap64]
  rw[e5]
  generalize partLoop aA a (i2+1) (j2-1) (swp d1 i2 j2)=r at*
  simp only[Option.bind_some,un]
  rw[kX (i:=a) (by omega)];(first|rw[kY (by omega)]|rw[rH (by omega)]);rw[kX (i:=r.1) (by omega)];(first|rw[kY (by omega)]|rw[rH (by omega)]);rw[kX (i:=r.1) (by omega)];(first|rw[kY (by omega)]|rw[rH (by omega)]);rw[GH (i:=a) (by omega)];(first|rw[GI (by omega)]|rw[MI (by omega)])
  simp only[XE.aW,XE.bc,XE.a9,XE.re,Int.toNat_natCast,gd,yv]
theorem afY {a:Nat}: ∀(n i j:Nat) (d:Array XE),j+1-i≤n→1≤i→i≤d.size→a<d.size→j<d.size→d.size<1152921504606846976→
  ∃x z,Loop (yr CC a) ((i:Int),(j:Int),eA d)=some ((((partEqLoop aA a i j d).1:Nat):Int),x,z,eA (partEqLoop aA a i j d).2):=by
 intro n
 induction n with
 | zero=>
  intro i j d hn h1 U ha hj hs
  obtain ⟨t3,e3⟩:=Ut (a:=a) ha hj hs _ i rfl U
  have g1:=scanUp_ge (fun x=> !aA d[a]! x) d j i
  have g2:=scanDown_le (fun x=>aA d[a]! x) d (scanUp (fun x=> !aA d[a]! x) d j i) j
  obtain ⟨t4,e4⟩:=MK (a:=a) (i:=scanUp (fun x=> !aA d[a]! x) d j i) ha (by omega) hs j hj
  rw[partEqLoop_eq,aj (by omega)]
  refine ⟨((scanDown (fun x=>aA d[a]! x) d (scanUp (fun x=> !aA d[a]! x) d j i) j:Nat):Int),true,aS ?_⟩
  simp only[yr,BN,un]
  rw[e3]
  simp only[Option.bind_some,un]
  rw[e4]
  simp (disch:=omega) only[Option.bind_some,un,n0,cond_true]
 | succ n ih=>
  intro i j d hn h1 U ha hj hs
  obtain ⟨t3,e3⟩:=Ut (a:=a) ha hj hs _ i rfl U
  have g1:=scanUp_ge (fun x=> !aA d[a]! x) d j i
  have g2:=scanDown_le (fun x=>aA d[a]! x) d (scanUp (fun x=> !aA d[a]! x) d j i) j
  obtain ⟨t4,e4⟩:=MK (a:=a) (i:=scanUp (fun x=> !aA d[a]! x) d j i) ha (by omega) hs j hj
  rw[partEqLoop_eq]
  have f:yr CC a ((i:Int),(j:Int),eA d)=yr CC a ((i:Int),(j:Int),eA d):=rfl
  conv at f=>rhs;simp only[yr,BN,un];rw[e3];simp only[Option.bind_some,un];rw[e4];simp only[Option.bind_some,un]
  generalize hZ:scanUp (fun x=> !aA d[a]! x) d j i=i2 at*
  generalize gu:scanDown (fun x=>aA d[a]! x) d i2 j=j2 at*
  by_cases h:i2>j2
  ·rw[aj h]
   refine ⟨(j2:Int),true,aS (f.trans ?_)⟩
   simp (disch:=omega) only[Option.bind_some,n0,cond_true]
  ·rw[ai h]
   obtain ⟨x,z,e⟩:=ih (i2+1) (j2-1) (swp d i2 j2) (by omega) (by omega) (by rw[size_swp];omega) (by rw[size_swp];omega) (by rw[size_swp];omega) (by rw[size_swp];omega)
   refine ⟨x,z,(bJ (f.trans ?_)).trans e⟩
   simp (disch:=omega) only[az,cY,ig,aj,ai,wrap64,dP,gg,Int.toNat_natCast,Option.bind_some,gb,gf,XE.aW,XE.bc,XE.a9,XE.re,gd,iN,gZ,gT,V.aT,V.toInt_int,cond_true,cond_false,kV]
   rfl
theorem afZ {a b pivot:Nat} {d:Array XE} (hp:pivot<b) (fp:a<b) (hb:b≤d.size) (hs:d.size<1152921504606846976):
  CC uV [.int .i64 (a:Int),.int .i64 (b:Int),.int .i64 (pivot:Int),.list aa (eA d)]=
   some [.int .i64 ((partitionEqual aA d a b pivot).1:Int),.list aa (eA (partitionEqual aA d a b pivot).2)]:=by
 refine afI ?_
 unfold Um
 have z1:(swp d a pivot).size=d.size:=size_swp ..
 obtain ⟨x,z,e⟩:=afY (a:=a) _ (a+1) (b-1) (swp d a pivot) (b9 _) (by omega) (by omega) (by omega) (by omega) (by omega)
 simp (disch:=omega) only[az,cY,aj,gb,gf,Int.toNat_natCast,Option.bind_some,XE.aW,XE.bc,XE.a9,XE.re,gd,iN,gZ,kV,dP,wrap64,yv]
 rw[e]
 rfl
theorem af0 {a b j:Nat} {d:Array XE} (hb:b≤d.size) (hs:d.size<1152921504606846976): ∀(n i:Nat),b-i=n→1≤i→i≤b→
  ∃t,Loop (BP CC a b j (eA d)) (i:Int)=some (((scanSorted aA d b i:Nat):Int),t):=by
 intro n
 induction n with
 | zero=>
  intro i hn h1 hi
  rw[GF,ai (by omega)]
  exact ⟨false,aS (by simp (disch:=omega) only[BP,BO,az,ai])⟩
 | succ n ih=>
  intro i hn h1 hi
  obtain ⟨t,h⟩:=ih (i+1) (by omega) (by omega) (by omega)
  rw[GF,aj (by omega)]
  have e:BP CC a b j (eA d) (i:Int)=if b8 d[i]! d[i-1]! <0 then some (.inr ((i:Int),!decide (b8 d[i]! d[i-1]! <0))) else some (.inl ((i+1:Nat):Int)):=by
   simp (disch:=omega) only[BP,BO,kV,az,cY,ig,aj,ai,wrap64,dP,gg,Int.toNat_natCast,Option.bind_some,gb,gf,XE.aW,XE.bc,XE.a9,XE.re,gd,iN,gZ,gT,V.aT,V.toInt_int,cond_true,cond_false]
  by_cases U:b8 d[i]! d[i-1]! <0
  ·rw[aj U] at e⊢
   exact ⟨_,aS e⟩
  ·rw[ai U] at e⊢
   exact ⟨t,(bJ e).trans h⟩
theorem Uu: ∀(j:Nat) (d:Array XE),(shiftDown aA j d).size=d.size
 | 0,_=>rfl
 | j+1,d=>by
  rw[Uq]
  split
  ·rw[Uu j,size_swp]
  ·rfl
theorem af1 {b:Nat}: ∀(n j:Nat) (d:Array XE),b-j=n→(shiftUp aA b j d).size=d.size:=by
 intro n
 induction n with
 | zero=>intro j d h;rw[GG,ai (by omega)]
 | succ n ih=>
  intro j d h
  rw[GG,aj (by omega)]
  split
  ·rw[ih _ _ (by omega),size_swp]
  ·rfl
theorem Uv {a b i k:Nat}: ∀(j:Nat) (d:Array XE),j<d.size→d.size<1152921504606846976→
  ∃t,Loop (BR CC a b i k) ((j:Int),eA d)=some (t,eA (shiftDown aA j d))
 | 0,d,hj,hs=>⟨(0:Nat),aS (by
   simp (disch:=omega) only[BR,BQ,un,az,ai]
   rfl)⟩
 | j+1,d,hj,hs=>by
  obtain ⟨t,ih⟩:=Uv (a:=a) (b:=b) (i:=i) (k:=k) j (swp d (j+1) j) (by rw[size_swp];omega) (by rw[size_swp];omega)
  rw[Uq]
  have e:BR CC a b i k (((j+1:Nat):Int),eA d)=if b8 d[j+1]! d[j]! <0 then some (.inl ((j:Int),eA (swp d (j+1) j))) else some (.inr (((j+1:Nat):Int),eA d)):=by
   simp (disch:=omega) only[BR,BQ,un,az,cY,ig,aj,ai,wrap64,dP,gg,Int.toNat_natCast,Option.bind_some,gb,gf,XE.aW,XE.bc,XE.a9,XE.re,gd,iN,gZ,gT,V.aT,V.toInt_int,cond_true,cond_false,vk]
   rfl
  by_cases U:b8 d[j+1]! d[j]! <0
  ·rw[aj U] at e⊢
   exact ⟨t,(bJ e).trans ih⟩
  ·rw[ai U] at e⊢
   exact ⟨_,aS e⟩
theorem af2 {a b i k:Nat}: ∀(n j:Nat) (d:Array XE),b-j=n→1≤j→j≤b→b≤d.size→d.size<1152921504606846976→
  ∃t,Loop (BU CC a b i k) ((j:Int),eA d)=some (t,eA (shiftUp aA b j d)):=by
 intro n
 induction n with
 | zero=>
  intro j d hn h1 hj hb hs
  rw[GG,ai (by omega)]
  exact ⟨(j:Int),aS (by
   simp (disch:=omega) only[BU,BT,un,az,ai])⟩
 | succ n ih=>
  intro j d hn h1 hj hb hs
  obtain ⟨t,h⟩:=ih (j+1) (swp d j (j-1)) (by omega) (by omega) (by omega) (by rw[size_swp];omega) (by rw[size_swp];omega)
  rw[GG,aj (by omega)]
  have e:BU CC a b i k ((j:Int),eA d)=if b8 d[j]! d[j-1]! <0 then some (.inl (((j+1:Nat):Int),eA (swp d j (j-1)))) else some (.inr ((j:Int),eA d)):=by
   simp (disch:=omega) only[BU,BT,un,kV,az,cY,ig,aj,ai,wrap64,dP,gg,Int.toNat_natCast,Option.bind_some,gb,gf,XE.aW,XE.bc,XE.a9,XE.re,gd,iN,gZ,gT,V.aT,V.toInt_int,cond_true,cond_false]
   rfl
  by_cases U:b8 d[j]! d[j-1]! <0
  ·rw[aj U] at e⊢
   exact ⟨t,(bJ e).trans h⟩
  ·rw[ai U] at e⊢
   exact ⟨_,aS e⟩
theorem af3 {d:Array XE} {b:Nat}: ∀(n i:Nat),b-i=n→i≤b→i≤scanSorted aA d b i∧scanSorted aA d b i≤b:=by
 intro n
 induction n with
 | zero=>intro i hn hi;rw[GF,ai (by omega)];omega
 | succ n ih=>
  intro i hn hi
  rw[GF,aj (by omega)]
  obtain ⟨h1,U⟩:=ih (i+1) (by omega) (by omega)
  split<;>omega
theorem af4 {a b:Nat}: ∀(s i:Nat) (d:Array XE),s≤5→a<i→i≤b→b≤d.size→d.size<1152921504606846976→
  (Loop (s9 CC a b) ((i:Int),((5-s:Nat):Int),eA d)=some (.inl ((partialIns aA a b s i d).2,eA (partialIns aA a b s i d).1)))∨
  (∃x y z,(partialIns aA a b s i d).2=false∧Loop (s9 CC a b) ((i:Int),((5-s:Nat):Int),eA d)=some (.inr (x,y,z,eA (partialIns aA a b s i d).1))):=by
 intro s
 induction s with
 | zero=>
  intro i d hs5 hi ML hb hs
  refine .inr ⟨(i:Int),((5:Nat):Int),false,rfl,aS ?_⟩
  simp (disch:=omega) only[s9,BV,un,s5,cond_false]
  rfl
 | succ s ih=>
  intro i d hs5 hi ML hb hs
  obtain ⟨t1,e1⟩:=af0 (a:=a) (j:=5-(s+1)) hb hs _ i rfl (by omega) ML
  obtain ⟨q1,q2⟩:=af3 (d:=d) _ i rfl ML
  rw[partialIns_succ]
  have f:s9 CC a b ((i:Int),((5-(s+1):Nat):Int),eA d)=s9 CC a b ((i:Int),((5-(s+1):Nat):Int),eA d):=rfl
  conv at f=>rhs;simp only[s9,BV,un];rw[az,aj (by omega),e1];simp only[Option.bind_some,un]
  generalize scanSorted aA d b i=k at*
  by_cases h1:k=b
  ·rw[aj h1]
   left
   refine aS (f.trans ?_)
   rw[df,aj (by omega)]
  ·rw[ai h1]
   by_cases U:b-a<50
   ·rw[aj U]
    left
    refine aS (f.trans ?_)
    rw[df,ai (by omega),wrap64 (by omega) (by omega),az,aj (by omega)]
   ·rw[ai U]
    have z1:(swp d k (k-1)).size=d.size:=size_swp ..
    have z2:(fixDown aA a k (swp d k (k-1))).size=d.size:=by
     unfold fixDown
     split
     ·rw[Uu,z1]
     ·exact z1
    have z3:(fixUp aA b k (fixDown aA a k (swp d k (k-1)))).size=d.size:=by
     unfold fixUp
     split
     ·rw[af1 _ _ _ rfl,z2]
     ·exact z2
    obtain ⟨t2,e2⟩:=Uv (a:=a) (b:=b) (i:=k) (k:=5-(s+1)) (k-1) (swp d k (k-1)) (by omega) (by omega)
    obtain ⟨t4,e4⟩:=af2 (a:=a) (b:=b) (i:=k) (k:=5-(s+1)) _ (k+1) (fixDown aA a k (swp d k (k-1))) rfl (by omega) (by omega) (by omega) (by omega)
    have e5:s9 CC a b ((i:Int),((5-(s+1):Nat):Int),eA d)=some (.inl ((k:Int),((5-s:Nat):Int),eA (fixUp aA b k (fixDown aA a k (swp d k (k-1)))))):=by
     refine f.trans ?_
     rw[df,ai (by omega),wrap64 (by omega) (by omega),az,ai (by omega)]
     simp (disch:=omega) only[az,cY,aj,gb,gf,Int.toNat_natCast,Option.bind_some,XE.aW,XE.bc,XE.a9,XE.re,gd,iN,gZ,kV,dP,m9,wrap64,yv,GD]
     rw[show 5-(s+1)+1=5-s by omega]
     unfold fixDown at e4⊢
     unfold fixUp
     have c1:(((k-a:Nat):Int)≥2)=(k-a≥2):=propext (by omega)
     have c2:(((b-k:Nat):Int)≥2)=(b-k≥2):=propext (by omega)
     simp only[c1,c2]
     by_cases g1:k-a≥2
     ·by_cases g2:b-k≥2
      ·simp only[g1,g2,cO,e2,Option.bind_some,un] at e4⊢
       rw[e4]
       rfl
      ·simp only[g1,g2,cO,fB,e2,Option.bind_some,un]
     ·by_cases g2:b-k≥2
      ·simp only[g1,g2,cO,fB] at e4⊢
       rw[e4]
       rfl
      ·exact absurd (show b-k≥2 by omega) g2
    rw[bJ e5]
    exact ih k _ (by omega) (by omega) (by omega) (by omega) (by omega)
theorem Uw {a b:Nat} {d:Array XE} (fp:a<b) (hb:b≤d.size) (hs:d.size<1152921504606846976):
  CC FI [.int .i64 (a:Int),.int .i64 (b:Int),.list aa (eA d)]=
   some [.bool (partialInsertionSort aA d a b).2,.list aa (eA (partialInsertionSort aA d a b).1)]:=by
 refine afS ?_
 unfold Up
 simp (disch:=omega) only[dP,wrap64]
 rcases af4 (a:=a) (b:=b) 5 (a+1) d (b9 _) (by omega) (by omega) hb hs with h|⟨x,y,z,h0,h⟩
 ·rw[show ((5-5:Nat):Int)=0 from rfl] at h
  rw[h]
  rfl
 ·rw[show ((5-5:Nat):Int)=0 from rfl] at h
  rw[h]
  unfold partialInsertionSort
  rw[h0]
  rfl
end Go.AM.SX
set_option maxRecDepth 100000
namespace Go.AM
open Go.Proofs
noncomputable abbrev ta:Code:=cF Try.prog (ay.aV 114)
noncomputable def BX (C:ag) (data:List V) (i j k':Int) (t36:Bool) (im:Int) {β:Type} (kr:(Int × Int × Int × Int)→Option β):Option β:=
 bif t36 then
  (C xy [.list aa data,.int .i64 i,.int .i64 im]).bind fun r1=>
  (C xy [.list aa data,.int .i64 j,.int .i64 ((V.nth (r1.drop 1) 0).toInt)]).bind fun r2=>
  (C xy [.list aa data,.int .i64 k',.int .i64 ((V.nth (r2.drop 1) 0).toInt)]).bind fun r3=>
  kr ((V.nth r1 0).toInt,(V.nth r2 0).toInt,(V.nth r3 0).toInt,(V.nth (r3.drop 1) 0).toInt)
 else
  kr (i,j,k',im)
noncomputable def BY (C:ag) (data:List V) (l i j k':Int) (t34:Bool) (im:Int) {β:Type} (kr:(Int × Int)→Option β):Option β:=
 bif t34 then
  BX C data i j k' (decide ((l:Int)≥50)) im (un fun (fw:Int)=>un fun (j_5:Int)=>un fun (k_6:Int) (af5:Int)=>
   (C A5 [.list aa data,.int .i64 fw,.int .i64 j_5,.int .i64 k_6,.int .i64 af5]).bind fun r8=>
   kr ((V.nth r8 0).toInt,(V.nth (r8.drop 1) 0).toInt))
 else
  kr (j,im)
noncomputable def Ux (C:ag):ct:=fun β n ds k=>
 bif Nat.beq n 591 then ij Lw [[1,0,0,0,0]] (@BX C) ds k else
 bif Nat.beq n 559 then ij Lx [[0,0]] (@BY C) ds k else
 none
abbrev Uy (C:ag) (b:cq):Prop:=cr Try.prog ay C (Ux C) 114 (cK Try.prog (ay.aV 114)) (ay.sin 114).bj.length b
theorem af6 (C:ag):Uy C (.cond 36 (av [1,1,1,1,1,1,0,1,0,0,1,0] ta) (av [1,1,1,1,1,1,0,1,0,0,1,1] ta)):=
 iL Lw [[1,0,0,0,0]] (@BX C) (by kernel_rfl) (aZ (bs:=[]) (by kernel_rfl) aw) (aZ (bs:=[]) (by kernel_rfl) aw) (fun ds=>by kernel_rfl) (fun i β k=>by kernel_rfl) (fun β ds k=>by kernel_rfl)
theorem af7 (C:ag):Uy C (.cond 34 (av [1,1,1,1,1,1,0,1,0] ta) (av [1,1,1,1,1,1,0,1,1] ta)):=
 iL Lx [[0,0]] (@BY C) (by kernel_rfl) (aZ (bs:=[.cond 36 (av [1,1,1,1,1,1,0,1,0,0,1,0] ta) (av [1,1,1,1,1,1,0,1,0,0,1,1] ta)]) (by kernel_rfl) (bu (af6 C) aw)) (aZ (bs:=[]) (by kernel_rfl) aw) (fun ds=>by kernel_rfl) (fun i β k=>by kernel_rfl) (fun β ds k=>by kernel_rfl)
noncomputable def MM (C:ag) (data:List V) (a b':Int):Option (List V):=
 BY C data (IntKind.wrap .i64 (b'-a)) (IntKind.wrap .i64 (a+(IntKind.wrap .i64 (1*(IntKind.wrap .i64 (Int.tdiv (IntKind.wrap .i64 (b'-a)) 4)))))) (IntKind.wrap .i64 (a+(IntKind.wrap .i64 (2*(IntKind.wrap .i64 (Int.tdiv (IntKind.wrap .i64 (b'-a)) 4)))))) (IntKind.wrap .i64 (a+(IntKind.wrap .i64 (3*(IntKind.wrap .i64 (Int.tdiv (IntKind.wrap .i64 (b'-a)) 4)))))) (decide (((IntKind.wrap .i64 (b'-a)):Int)≥8)) 0 (un fun (MN:Int) (Uz:Int)=>
  bif (Uz:Int)==0 then
   some [.int .i64 MN,.int .i64 1]
  else
   bif (Uz:Int)==12 then
   some [.int .i64 MN,.int .i64 2]
   else
   some [.int .i64 MN,.int .i64 0])
theorem UA {data:List V} {a b':Int} {r:Option (List V)} (h:MM CC data a b'=r):CC A3 [.list aa data,.int .i64 a,.int .i64 b']=r:=
 bh (key:=114) (L:=Ux CC) (bs:=[.cond 34 (av [1,1,1,1,1,1,0,1,0] ta) (av [1,1,1,1,1,1,0,1,1] ta)]) (by kernel_rfl) (bu (af7 CC) aw) (bd (by kernel_rfl) h)
noncomputable def UB (C:ag) (data:List V) (a b' c im:Int):Option (List V):=
 (C xz [.list aa data,.int .i64 a,.int .i64 b',.int .i64 im]).bind fun r1=>
 (C xz [.list aa data,.int .i64 ((V.nth (r1.drop 1) 0).toInt),.int .i64 c,.int .i64 ((V.nth (r1.drop 2) 0).toInt)]).bind fun r2=>
 (C xz [.list aa data,.int .i64 ((V.nth r1 0).toInt),.int .i64 ((V.nth r2 0).toInt),.int .i64 ((V.nth (r2.drop 2) 0).toInt)]).bind fun r3=>
 some [.int .i64 ((V.nth (r3.drop 1) 0).toInt),.int .i64 ((V.nth (r3.drop 2) 0).toInt)]
theorem af8 {data:List V} {a b' c im:Int} {r:Option (List V)} (h:UB CC data a b' c im=r):CC A5 [.list aa data,.int .i64 a,.int .i64 b',.int .i64 c,.int .i64 im]=r:=
 bh (key:=125) (L:=cw) (bs:=[]) (by kernel_rfl) aw (bd (by kernel_rfl) h)
noncomputable def MO (C:ag) (data:List V) (a b' im:Int):Option (List V):=
 (idx data b').bind fun x1=>
 (idx data a).bind fun x2=>
 (C bn [.int .i64 ((x1.cell 0).toInt),.int .i64 ((x1.cell 1).toInt),.list aa ((x1.cell 2).toList),.int .i64 ((x2.cell 0).toInt),.int .i64 ((x2.cell 1).toInt),.list aa ((x2.cell 2).toList)]).bind fun r3=>
 bif decide ((((V.nth r3 0).toInt):Int)<0) then
  some [.int .i64 b',.int .i64 a,.int .i64 (IntKind.wrap .i64 (im+1))]
 else
  some [.int .i64 a,.int .i64 b',.int .i64 im]
theorem UC {data:List V} {a b' im:Int} {r:Option (List V)} (h:MO CC data a b' im=r):CC xz [.list aa data,.int .i64 a,.int .i64 b',.int .i64 im]=r:=
 bh (key:=126) (L:=cw) (bs:=[]) (by kernel_rfl) aw (bd (by kernel_rfl) h)
noncomputable def UD (C:ag) (data:List V) (a im:Int):Option (List V):=
 (C A5 [.list aa data,.int .i64 (IntKind.wrap .i64 (a-1)),.int .i64 a,.int .i64 (IntKind.wrap .i64 (a+1)),.int .i64 im]).bind fun r1=>
 some [.int .i64 ((V.nth r1 0).toInt),.int .i64 ((V.nth (r1.drop 1) 0).toInt)]
theorem af9 {data:List V} {a im:Int} {r:Option (List V)} (h:UD CC data a im=r):CC xy [.list aa data,.int .i64 a,.int .i64 im]=r:=
 bh (key:=124) (L:=cw) (bs:=[]) (by kernel_rfl) aw (bd (by kernel_rfl) h)
noncomputable abbrev yw:Code:=cF Try.prog (ay.aV 113)
noncomputable def GJ (C:ag) (a length yx ki other:Int) (t45:Bool) (ak:List V) (BZ:Int) {β:Type} (kr:(Int)→Option β):Option β:=
 bif t45 then
  kr (IntKind.wrap .i64 (other-length))
 else
  kr other
noncomputable def B0 (C:ag) (a length yx ki:Int) (ak:List V) (BZ:Int) {β:Type} (kn:(Int × (List V) × Int)→Option β) (kr:(Int × Bool × (List V) × Int)→Option β):Option β:=
 bif decide ((ki:Int)≤(IntKind.wrap .i64 ((IntKind.wrap .i64 (a+(IntKind.wrap .i64 (2*(IntKind.wrap .i64 (Int.tdiv length 4))))))+1))) then
  (C FL [.int .u64 BZ]).bind fun r2=>
  GJ C a length yx ki (IntKind.wrap .i64 (IntKind.wrap .u64 ((BitVec.ofInt (IntKind.bits .u64) ((V.nth r2 0).toInt)&&&BitVec.ofInt (IntKind.bits .u64) (IntKind.wrap .u64 (yx-1))).toNat))) (decide (((IntKind.wrap .i64 (IntKind.wrap .u64 ((BitVec.ofInt (IntKind.bits .u64) ((V.nth r2 0).toInt)&&&BitVec.ofInt (IntKind.bits .u64) (IntKind.wrap .u64 (yx-1))).toNat))):Int)≥length)) ak ((V.nth (r2.drop 1) 0).toInt) (fun (vq:Int)=>
   bif (decide (0≤(IntKind.wrap .i64 (a+vq))))&&(decide ((IntKind.wrap .i64 (a+vq))<(ak.length:Int))) then
   (ak[(IntKind.wrap .i64 (a+vq):Int).toNat]?).bind fun x4=>
   bif (decide (0≤ki))&&(decide (ki<(ak.length:Int))) then
    (ak[(ki:Int).toNat]?).bind fun x5=>
    bif (decide (0≤ki))&&(decide (ki<(ak.length:Int))) then
    (ak[(ki:Int).toNat]?).bind fun x6=>
    bif (decide (0≤(IntKind.wrap .i64 (a+vq))))&&(decide ((IntKind.wrap .i64 (a+vq))<((ak.set ((ki:Int).toNat) (.agg [.int .i64 ((x4.cell 0).toInt),.int .i64 ((x4.cell 1).toInt),.list aa ((x4.cell 2).toList)])).length:Int))) then
     ((ak.set ((ki:Int).toNat) (.agg [.int .i64 ((x4.cell 0).toInt),.int .i64 ((x4.cell 1).toInt),.list aa ((x4.cell 2).toList)]))[(IntKind.wrap .i64 (a+vq):Int).toNat]?).bind fun x7=>
     kn (IntKind.wrap .i64 (ki+1),(ak.set ((ki:Int).toNat) (.agg [.int .i64 ((x4.cell 0).toInt),.int .i64 ((x4.cell 1).toInt),.list aa ((x4.cell 2).toList)])).set ((IntKind.wrap .i64 (a+vq):Int).toNat) (.agg [.int .i64 ((x5.cell 0).toInt),.int .i64 ((x5.cell 1).toInt),.list aa ((x5.cell 2).toList)]),(V.nth (r2.drop 1) 0).toInt)
    else none
    else none
   else none
   else none)
 else
  kr (ki,decide ((ki:Int)≤(IntKind.wrap .i64 ((IntKind.wrap .i64 (a+(IntKind.wrap .i64 (2*(IntKind.wrap .i64 (Int.tdiv length 4))))))+1))),ak,BZ)
noncomputable def GK (C:ag) (a length yx:Int):(Int × (List V) × Int)→Option ((Int × (List V) × Int) ⊕ (Int × Bool × (List V) × Int)):=un fun ki=>un fun ak BZ=>B0 C a length yx ki ak BZ (fun y=>some (.inl y)) (fun r=>some (.inr r))
noncomputable def UE (C:ag):ct:=fun β n ds k=>
 bif Nat.beq n 735 then ij Lu [[1,2,3,4,0,7,8]] (@GJ C) ds k else
 bif Nat.beq n 81 then bW Lv [false,false,false,true,true,true] [[1,2,3,0,0,0,0]] (@B0 C) ds k else
 none
abbrev UF (C:ag) (b:cq):Prop:=cr Try.prog ay C (UE C) 113 (cK Try.prog (ay.aV 113)) (ay.sin 113).bj.length b
theorem aga (C:ag):UF C (.cond 45 (av [1,1,0,1,1,1,0,0,1,0,0,1,0,1,0] yw) (av [1,1,0,1,1,1,0,0,1,0,0,1,0,1,1] yw)):=
 iL Lu [[1,2,3,4,0,7,8]] (@GJ C) (by kernel_rfl) (aZ (bs:=[]) (by kernel_rfl) aw) (aZ (bs:=[]) (by kernel_rfl) aw) (fun ds=>by kernel_rfl) (fun i β k=>by kernel_rfl) (fun β ds k=>by kernel_rfl)
theorem agb (C:ag):UF C (.loop (av [1,1,0,1,1,1,0,0] yw)):=
 bY Lv [false,false,false,true,true,true] [[1,2,3,0,0,0,0]] (@B0 C) (by kernel_rfl) (aZ (bs:=[.cond 45 (av [1,1,0,1,1,1,0,0,1,0,0,1,0,1,0] yw) (av [1,1,0,1,1,1,0,0,1,0,0,1,0,1,1] yw)]) (by kernel_rfl) (bu (aga C) aw)) (fun ds=>by kernel_rfl) (fun i x=>by kernel_rfl) (fun i x β k=>by kernel_rfl) (fun β ds k=>by kernel_rfl)
noncomputable def UG (C:ag) (a b':Int) (ak:List V):Option (List V):=
 bif decide (((IntKind.wrap .i64 (b'-a)):Int)≥8) then
  (C FK [.int .i64 (IntKind.wrap .i64 (b'-a))]).bind fun r1=>
  (Loop (GK C a (IntKind.wrap .i64 (b'-a)) ((V.nth r1 0).toInt)) (IntKind.wrap .i64 ((IntKind.wrap .i64 (a+(IntKind.wrap .i64 (2*(IntKind.wrap .i64 (Int.tdiv (IntKind.wrap .i64 (b'-a)) 4))))))-1),ak,IntKind.wrap .u64 (IntKind.wrap .i64 (b'-a)))).bind (un fun (alQ:Int)=>un fun (sV:Bool)=>un fun (pc:List V) (alR:Int)=>
   some [.list aa pc])
 else
  some [.list aa ak]
theorem agc {a b':Int} {ak:List V} {r:Option (List V)} (h:UG CC a b' ak=r):CC FG [.int .i64 a,.int .i64 b',.list aa ak]=r:=
 bh (key:=113) (L:=UE CC) (bs:=[.loop (av [1,1,0,1,1,1,0,0] yw)]) (by kernel_rfl) (bu (agb CC) aw) (bd (by kernel_rfl) h)
noncomputable def UH (C:ag) (jv:Int):Option (List V):=
 some [.int .u64 (IntKind.wrap .u64 ((BitVec.ofInt (IntKind.bits .u64) (IntKind.wrap .u64 ((BitVec.ofInt (IntKind.bits .u64) (IntKind.wrap .u64 ((BitVec.ofInt (IntKind.bits .u64) jv ^^^ BitVec.ofInt (IntKind.bits .u64) (IntKind.wrap .u64 (jv*2^(min (13:Int).toNat (IntKind.bits .u64))))).toNat)) ^^^ BitVec.ofInt (IntKind.bits .u64) (Int.fdiv (IntKind.wrap .u64 ((BitVec.ofInt (IntKind.bits .u64) jv ^^^ BitVec.ofInt (IntKind.bits .u64) (IntKind.wrap .u64 (jv*2^(min (13:Int).toNat (IntKind.bits .u64))))).toNat)) (2^(min (7:Int).toNat (IntKind.bits .u64))))).toNat)) ^^^ BitVec.ofInt (IntKind.bits .u64) (IntKind.wrap .u64 ((IntKind.wrap .u64 ((BitVec.ofInt (IntKind.bits .u64) (IntKind.wrap .u64 ((BitVec.ofInt (IntKind.bits .u64) jv ^^^ BitVec.ofInt (IntKind.bits .u64) (IntKind.wrap .u64 (jv*2^(min (13:Int).toNat (IntKind.bits .u64))))).toNat)) ^^^ BitVec.ofInt (IntKind.bits .u64) (Int.fdiv (IntKind.wrap .u64 ((BitVec.ofInt (IntKind.bits .u64) jv ^^^ BitVec.ofInt (IntKind.bits .u64) (IntKind.wrap .u64 (jv*2^(min (13:Int).toNat (IntKind.bits .u64))))).toNat)) (2^(min (7:Int).toNat (IntKind.bits .u64))))).toNat))*2^(min (17:Int).toNat (IntKind.bits .u64))))).toNat)),.int .u64 (IntKind.wrap .u64 ((BitVec.ofInt (IntKind.bits .u64) (IntKind.wrap .u64 ((BitVec.ofInt (IntKind.bits .u64) (IntKind.wrap .u64 ((BitVec.ofInt (IntKind.bits .u64) jv ^^^ BitVec.ofInt (IntKind.bits .u64) (IntKind.wrap .u64 (jv*2^(min (13:Int).toNat (IntKind.bits .u64))))).toNat)) ^^^ BitVec.ofInt (IntKind.bits .u64) (Int.fdiv (IntKind.wrap .u64 ((BitVec.ofInt (IntKind.bits .u64) jv ^^^ BitVec.ofInt (IntKind.bits .u64) (IntKind.wrap .u64 (jv*2^(min (13:Int).toNat (IntKind.bits .u64))))).toNat)) (2^(min (7:Int).toNat (IntKind.bits .u64))))).toNat)) ^^^ BitVec.ofInt (IntKind.bits .u64) (IntKind.wrap .u64 ((IntKind.wrap .u64 ((BitVec.ofInt (IntKind.bits .u64) (IntKind.wrap .u64 ((BitVec.ofInt (IntKind.bits .u64) jv ^^^ BitVec.ofInt (IntKind.bits .u64) (IntKind.wrap .u64 (jv*2^(min (13:Int).toNat (IntKind.bits .u64))))).toNat)) ^^^ BitVec.ofInt (IntKind.bits .u64) (Int.fdiv (IntKind.wrap .u64 ((BitVec.ofInt (IntKind.bits .u64) jv ^^^ BitVec.ofInt (IntKind.bits .u64) (IntKind.wrap .u64 (jv*2^(min (13:Int).toNat (IntKind.bits .u64))))).toNat)) (2^(min (7:Int).toNat (IntKind.bits .u64))))).toNat))*2^(min (17:Int).toNat (IntKind.bits .u64))))).toNat))]
theorem agd {jv:Int} {r:Option (List V)} (h:UH CC jv=r):CC FL [.int .u64 jv]=r:=
 bh (key:=123) (L:=cw) (bs:=[]) (by kernel_rfl) aw (bd (by kernel_rfl) h)
noncomputable def UI (C:ag) (length:Int):Option (List V):=
 (C AZ [.int .u64 (IntKind.wrap .u64 length)]).bind fun r1=>
 bif decide (0≤((V.nth r1 0).toInt)) then
  some [.int .u64 (IntKind.wrap .u64 (1*2^(min ((V.nth r1 0).toInt).toNat (IntKind.bits .u64))))]
 else none
theorem age {length:Int} {r:Option (List V)} (h:UI CC length=r):CC FK [.int .i64 length]=r:=
 bh (key:=122) (L:=cw) (bs:=[]) (by kernel_rfl) aw (bd (by kernel_rfl) h)
noncomputable def UJ (C:ag) (x:Int):Option (List V):=
 (C FJ [.int .u64 x]).bind fun r1=>
 some [.int .i64 ((V.nth r1 0).toInt)]
theorem agf {x:Int} {r:Option (List V)} (h:UJ CC x=r):CC AZ [.int .u64 x]=r:=
 bh (key:=110) (L:=cw) (bs:=[]) (by kernel_rfl) aw (bd (by kernel_rfl) h)
noncomputable abbrev tc:Code:=cF Try.prog (ay.aV 120)
noncomputable def vr (C:ag) (x n:Int) (t4:Bool) {β:Type} (kr:(Int × Int)→Option β):Option β:=
 bif t4 then
  kr (Int.fdiv x (2^(min (32:Int).toNat (IntKind.bits .u64))),32)
 else
  kr (x,n)
noncomputable def vu (C:ag) (x n:Int) (t8:Bool) {β:Type} (kr:(Int × Int)→Option β):Option β:=
 bif t8 then
  kr (Int.fdiv x (2^(min (16:Int).toNat (IntKind.bits .u64))),IntKind.wrap .i64 (n+16))
 else
  kr (x,n)
noncomputable def UK (C:ag):ct:=fun β n ds k=>
 bif Nat.beq n 79 then ij LP [[0,0]] (@vr C) ds k else
 bif Nat.beq n 143 then ij LQ [[0,0]] (@vu C) ds k else
 none
abbrev UL (C:ag) (b:cq):Prop:=cr Try.prog ay C (UK C) 120 (cK Try.prog (ay.aV 120)) (ay.sin 120).bj.length b
theorem agh (C:ag):UL C (.cond 4 (av [1,0,1,0] tc) (av [1,0,1,1] tc)):=
 iL LP [[0,0]] (@vr C) (by kernel_rfl) (aZ (bs:=[]) (by kernel_rfl) aw) (aZ (bs:=[]) (by kernel_rfl) aw) (fun ds=>by kernel_rfl) (fun i β k=>by kernel_rfl) (fun β ds k=>by kernel_rfl)
theorem agi (C:ag):UL C (.cond 8 (av [1,1,0,1,0] tc) (av [1,1,0,1,1] tc)):=
 iL LQ [[0,0]] (@vu C) (by kernel_rfl) (aZ (bs:=[]) (by kernel_rfl) aw) (aZ (bs:=[]) (by kernel_rfl) aw) (fun ds=>by kernel_rfl) (fun i β k=>by kernel_rfl) (fun β ds k=>by kernel_rfl)
noncomputable def agj (C:ag) (x:Int):Option (List V):=
 vr C x 0 (decide ((x:Int)≥4294967296)) (un fun (iP:Int) (B1:Int)=>
  vu C iP B1 (decide ((iP:Int)≥65536)) (un fun (B4:Int) (UM:Int)=>
   bif decide ((B4:Int)≥256) then
    (bif decide (0≤(IntKind.wrap .u8 (Int.fdiv B4 (2^(min (8:Int).toNat (IntKind.bits .u64)))))) then (([0,1,2,2,3,3,3,3,4,4,4,4,4,4,4,4,5,5,5,5,5,5,5,5,5,5,5,5,5,5,5,5,6,6,6,6,6,6,6,6,6,6,6,6,6,6,6,6,6,6,6,6,6,6,6,6,6,6,6,6,6,6,6,6,7,7,7,7,7,7,7,7,7,7,7,7,7,7,7,7,7,7,7,7,7,7,7,7,7,7,7,7,7,7,7,7,7,7,7,7,7,7,7,7,7,7,7,7,7,7,7,7,7,7,7,7,7,7,7,7,7,7,7,7,7,7,7,7,8,8,8,8,8,8,8,8,8,8,8,8,8,8,8,8,8,8,8,8,8,8,8,8,8,8,8,8,8,8,8,8,8,8,8,8,8,8,8,8,8,8,8,8,8,8,8,8,8,8,8,8,8,8,8,8,8,8,8,8,8,8,8,8,8,8,8,8,8,8,8,8,8,8,8,8,8,8,8,8,8,8,8,8,8,8,8,8,8,8,8,8,8,8,8,8,8,8,8,8,8,8,8,8,8,8,8,8,8,8,8,8,8,8,8,8,8,8,8,8,8,8,8,8,8,8,8,8]:List UInt8)[(IntKind.wrap .u8 (Int.fdiv B4 (2^(min (8:Int).toNat (IntKind.bits .u64)))):Int).toNat]?).map fun b=>V.int .u8 b.toNat else none).bind fun x5=>
    some [.int .i64 (IntKind.wrap .i64 ((IntKind.wrap .i64 (UM+8))+(IntKind.wrap .i64 x5.toInt)))]
   else
    (bif decide (0≤(IntKind.wrap .u8 B4)) then (([0,1,2,2,3,3,3,3,4,4,4,4,4,4,4,4,5,5,5,5,5,5,5,5,5,5,5,5,5,5,5,5,6,6,6,6,6,6,6,6,6,6,6,6,6,6,6,6,6,6,6,6,6,6,6,6,6,6,6,6,6,6,6,6,7,7,7,7,7,7,7,7,7,7,7,7,7,7,7,7,7,7,7,7,7,7,7,7,7,7,7,7,7,7,7,7,7,7,7,7,7,7,7,7,7,7,7,7,7,7,7,7,7,7,7,7,7,7,7,7,7,7,7,7,7,7,7,7,8,8,8,8,8,8,8,8,8,8,8,8,8,8,8,8,8,8,8,8,8,8,8,8,8,8,8,8,8,8,8,8,8,8,8,8,8,8,8,8,8,8,8,8,8,8,8,8,8,8,8,8,8,8,8,8,8,8,8,8,8,8,8,8,8,8,8,8,8,8,8,8,8,8,8,8,8,8,8,8,8,8,8,8,8,8,8,8,8,8,8,8,8,8,8,8,8,8,8,8,8,8,8,8,8,8,8,8,8,8,8,8,8,8,8,8,8,8,8,8,8,8,8,8,8,8,8,8]:List UInt8)[(IntKind.wrap .u8 B4:Int).toNat]?).map fun b=>V.int .u8 b.toNat else none).bind fun x6=>
    some [.int .i64 (IntKind.wrap .i64 (UM+(IntKind.wrap .i64 x6.toInt)))]))
theorem UN {x:Int} {r:Option (List V)} (h:agj CC x=r):CC FJ [.int .u64 x]=r:=
 bh (key:=120) (L:=UK CC) (bs:=[.cond 4 (av [1,0,1,0] tc) (av [1,0,1,1] tc),.cond 8 (av [1,1,0,1,0] tc) (av [1,1,0,1,1] tc)]) (by kernel_rfl) (bu (agh CC) (bu (agi CC) aw)) (bd (by kernel_rfl) h)
noncomputable abbrev mn:Code:=cF Try.prog (ay.aV 109)
noncomputable def yz (C:ag) (a b' jN:Int) (eW fj:Bool) (length:Int) (t39:Bool) (ak:List V) {β:Type} (kr:(Int × (List V))→Option β):Option β:=
 bif t39 then
  (C FG [.int .i64 a,.int .i64 b',.list aa ak]).bind fun r3=>
  kr (IntKind.wrap .i64 (jN-1),(V.nth r3 0).toList)
 else
  kr (jN,ak)
noncomputable def yA (C:ag) (a b' jN:Int) (eW fj:Bool) (length pivot hint:Int) (t56:Bool) (ak:List V) {β:Type} (kr:(Int × Int × (List V))→Option β):Option β:=
 bif t56 then
  (C FH [.int .i64 a,.int .i64 b',.list aa ak]).bind fun r7=>
  kr (IntKind.wrap .i64 ((IntKind.wrap .i64 (b'-1))-(IntKind.wrap .i64 (pivot-a))),1,(V.nth r7 0).toList)
 else
  kr (pivot,hint,ak)
noncomputable def nf (C:ag) (a b' jN:Int) (eW fj:Bool) (length pivot:Int) (t75:Bool) (ak:List V) {β:Type} (kr:((Bool × (List V)) ⊕ (List V))→Option β):Option β:=
 bif t75 then
  (C FI [.int .i64 a,.int .i64 b',.list aa ak]).bind fun eu=>
  bif (V.nth eu 0).toBool then
  kr (.inl ((V.nth eu 0).toBool,(V.nth (eu.drop 1) 0).toList))
  else
  kr (.inr ((V.nth (eu.drop 1) 0).toList))
 else
  kr (.inr ak)
noncomputable def qe (C:ag) (a b' jN:Int) (eW fj:Bool) (ak:List V) {β:Type} (kn:(Int × Int × Int × Bool × Bool × (List V))→Option β) (kr:(List V)→Option β):Option β:=
 bif decide (((IntKind.wrap .i64 (b'-a)):Int)≤12) then
  (C A0 [.int .i64 a,.int .i64 b',.list aa ak]).bind fun r1=>
  kr ((V.nth r1 0).toList)
 else
  bif (jN:Int)==0 then
  (C A1 [.int .i64 a,.int .i64 b',.list aa ak]).bind fun r2=>
  kr ((V.nth r2 0).toList)
  else
  yz C a b' jN eW fj (IntKind.wrap .i64 (b'-a)) (!eW) ak (un fun (cM:Int) (B5:List V)=>
   (C A3 [.list aa B5,.int .i64 a,.int .i64 b']).bind fun r6=>
   yA C a b' cM eW fj (IntKind.wrap .i64 (b'-a)) ((V.nth r6 0).toInt) ((V.nth (r6.drop 1) 0).toInt) ((((V.nth (r6.drop 1) 0).toInt):Int)==2) B5 (un fun (dQ:Int)=>un fun (MP:Int) (pc:List V)=>
    bif eW then
     bif fj then
     nf C a b' cM eW fj (IntKind.wrap .i64 (b'-a)) dQ ((MP:Int)==1) pc (bV (un fun (Ga:Bool) (MD:List V)=>
      kr MD) (fun (vw:List V)=>
      bif decide ((a:Int)>0) then
       bif (decide (0≤(IntKind.wrap .i64 (a-1))))&&(decide ((IntKind.wrap .i64 (a-1))<(vw.length:Int))) then
       (vw[(IntKind.wrap .i64 (a-1):Int).toNat]?).bind fun gi=>
       bif (decide (0≤dQ))&&(decide (dQ<(vw.length:Int))) then
        (vw[(dQ:Int).toNat]?).bind fun fv=>
        (C bn [.int .i64 ((gi.cell 0).toInt),.int .i64 ((gi.cell 1).toInt),.list aa ((gi.cell 2).toList),.int .i64 ((fv.cell 0).toInt),.int .i64 ((fv.cell 1).toInt),.list aa ((fv.cell 2).toList)]).bind fun dR=>
        bif !(decide ((((V.nth dR 0).toInt):Int)<0)) then
        (C uV [.int .i64 a,.int .i64 b',.int .i64 dQ,.list aa vw]).bind fun kj=>
        kn ((V.nth kj 0).toInt,b',cM,eW,fj,(V.nth (kj.drop 1) 0).toList)
        else
        (C nV [.int .i64 a,.int .i64 b',.int .i64 dQ,.list aa vw]).bind fun dO=>
        bif decide (((IntKind.wrap .i64 (((V.nth dO 0).toInt)-a)):Int)<(IntKind.wrap .i64 (b'-((V.nth dO 0).toInt)))) then
         (C gP [.int .i64 a,.int .i64 ((V.nth dO 0).toInt),.int .i64 cM,.list aa ((V.nth (dO.drop 2) 0).toList)]).bind fun iQ=>
         kn (IntKind.wrap .i64 (((V.nth dO 0).toInt)+1),b',cM,decide (((IntKind.wrap .i64 (((V.nth dO 0).toInt)-a)):Int)≥(IntKind.wrap .i64 (Int.tdiv (IntKind.wrap .i64 (b'-a)) 8))),(V.nth (dO.drop 1) 0).toBool,(V.nth iQ 0).toList)
        else
         (C gP [.int .i64 (IntKind.wrap .i64 (((V.nth dO 0).toInt)+1)),.int .i64 b',.int .i64 cM,.list aa ((V.nth (dO.drop 2) 0).toList)]).bind fun pg=>
         kn (a,(V.nth dO 0).toInt,cM,decide (((IntKind.wrap .i64 (b'-((V.nth dO 0).toInt))):Int)≥(IntKind.wrap .i64 (Int.tdiv (IntKind.wrap .i64 (b'-a)) 8))),(V.nth (dO.drop 1) 0).toBool,(V.nth pg 0).toList)
       else none
       else none
      else
       (C nV [.int .i64 a,.int .i64 b',.int .i64 dQ,.list aa vw]).bind fun iO=>
       bif decide (((IntKind.wrap .i64 (((V.nth iO 0).toInt)-a)):Int)<(IntKind.wrap .i64 (b'-((V.nth iO 0).toInt)))) then
       (C gP [.int .i64 a,.int .i64 ((V.nth iO 0).toInt),.int .i64 cM,.list aa ((V.nth (iO.drop 2) 0).toList)]).bind fun r23=>
       kn (IntKind.wrap .i64 (((V.nth iO 0).toInt)+1),b',cM,decide (((IntKind.wrap .i64 (((V.nth iO 0).toInt)-a)):Int)≥(IntKind.wrap .i64 (Int.tdiv (IntKind.wrap .i64 (b'-a)) 8))),(V.nth (iO.drop 1) 0).toBool,(V.nth r23 0).toList)
       else
       (C gP [.int .i64 (IntKind.wrap .i64 (((V.nth iO 0).toInt)+1)),.int .i64 b',.int .i64 cM,.list aa ((V.nth (iO.drop 2) 0).toList)]).bind fun Mg=>
       kn (a,(V.nth iO 0).toInt,cM,decide (((IntKind.wrap .i64 (b'-((V.nth iO 0).toInt))):Int)≥(IntKind.wrap .i64 (Int.tdiv (IntKind.wrap .i64 (b'-a)) 8))),(V.nth (iO.drop 1) 0).toBool,(V.nth Mg 0).toList)))
     else
     nf C a b' cM eW fj (IntKind.wrap .i64 (b'-a)) dQ false pc (bV (un fun (abY:Bool) (agk:List V)=>
      kr agk) (fun (rE:List V)=>
      bif decide ((a:Int)>0) then
       bif (decide (0≤(IntKind.wrap .i64 (a-1))))&&(decide ((IntKind.wrap .i64 (a-1))<(rE.length:Int))) then
       (rE[(IntKind.wrap .i64 (a-1):Int).toNat]?).bind fun vm=>
       bif (decide (0≤dQ))&&(decide (dQ<(rE.length:Int))) then
        (rE[(dQ:Int).toNat]?).bind fun vn=>
        (C bn [.int .i64 ((vm.cell 0).toInt),.int .i64 ((vm.cell 1).toInt),.list aa ((vm.cell 2).toList),.int .i64 ((vn.cell 0).toInt),.int .i64 ((vn.cell 1).toInt),.list aa ((vn.cell 2).toList)]).bind fun s8=>
        bif !(decide ((((V.nth s8 0).toInt):Int)<0)) then
        (C uV [.int .i64 a,.int .i64 b',.int .i64 dQ,.list aa rE]).bind fun UO=>
        kn ((V.nth UO 0).toInt,b',cM,eW,fj,(V.nth (UO.drop 1) 0).toList)
        else
        (C nV [.int .i64 a,.int .i64 b',.int .i64 dQ,.list aa rE]).bind fun oj=>
        bif decide (((IntKind.wrap .i64 (((V.nth oj 0).toInt)-a)):Int)<(IntKind.wrap .i64 (b'-((V.nth oj 0).toInt)))) then
         (C gP [.int .i64 a,.int .i64 ((V.nth oj 0).toInt),.int .i64 cM,.list aa ((V.nth (oj.drop 2) 0).toList)]).bind fun r33=>
         kn (IntKind.wrap .i64 (((V.nth oj 0).toInt)+1),b',cM,decide (((IntKind.wrap .i64 (((V.nth oj 0).toInt)-a)):Int)≥(IntKind.wrap .i64 (Int.tdiv (IntKind.wrap .i64 (b'-a)) 8))),(V.nth (oj.drop 1) 0).toBool,(V.nth r33 0).toList)
        else
         (C gP [.int .i64 (IntKind.wrap .i64 (((V.nth oj 0).toInt)+1)),.int .i64 b',.int .i64 cM,.list aa ((V.nth (oj.drop 2) 0).toList)]).bind fun r34=>
         kn (a,(V.nth oj 0).toInt,cM,decide (((IntKind.wrap .i64 (b'-((V.nth oj 0).toInt))):Int)≥(IntKind.wrap .i64 (Int.tdiv (IntKind.wrap .i64 (b'-a)) 8))),(V.nth (oj.drop 1) 0).toBool,(V.nth r34 0).toList)
       else none
       else none
      else
       (C nV [.int .i64 a,.int .i64 b',.int .i64 dQ,.list aa rE]).bind fun om=>
       bif decide (((IntKind.wrap .i64 (((V.nth om 0).toInt)-a)):Int)<(IntKind.wrap .i64 (b'-((V.nth om 0).toInt)))) then
       (C gP [.int .i64 a,.int .i64 ((V.nth om 0).toInt),.int .i64 cM,.list aa ((V.nth (om.drop 2) 0).toList)]).bind fun r36=>
       kn (IntKind.wrap .i64 (((V.nth om 0).toInt)+1),b',cM,decide (((IntKind.wrap .i64 (((V.nth om 0).toInt)-a)):Int)≥(IntKind.wrap .i64 (Int.tdiv (IntKind.wrap .i64 (b'-a)) 8))),(V.nth (om.drop 1) 0).toBool,(V.nth r36 0).toList)
       else
       (C gP [.int .i64 (IntKind.wrap .i64 (((V.nth om 0).toInt)+1)),.int .i64 b',.int .i64 cM,.list aa ((V.nth (om.drop 2) 0).toList)]).bind fun r37=>
       kn (a,(V.nth om 0).toInt,cM,decide (((IntKind.wrap .i64 (b'-((V.nth om 0).toInt))):Int)≥(IntKind.wrap .i64 (Int.tdiv (IntKind.wrap .i64 (b'-a)) 8))),(V.nth (om.drop 1) 0).toBool,(V.nth r37 0).toList)))
    else
     nf C a b' cM eW fj (IntKind.wrap .i64 (b'-a)) dQ false pc (bV (un fun (SA:Bool) (agl:List V)=>
      kr agl) (fun (kh:List V)=>
      bif decide ((a:Int)>0) then
      bif (decide (0≤(IntKind.wrap .i64 (a-1))))&&(decide ((IntKind.wrap .i64 (a-1))<(kh.length:Int))) then
       (kh[(IntKind.wrap .i64 (a-1):Int).toNat]?).bind fun nc=>
       bif (decide (0≤dQ))&&(decide (dQ<(kh.length:Int))) then
       (kh[(dQ:Int).toNat]?).bind fun vp=>
       (C bn [.int .i64 ((nc.cell 0).toInt),.int .i64 ((nc.cell 1).toInt),.list aa ((nc.cell 2).toList),.int .i64 ((vp.cell 0).toInt),.int .i64 ((vp.cell 1).toInt),.list aa ((vp.cell 2).toList)]).bind fun r43=>
       bif !(decide ((((V.nth r43 0).toInt):Int)<0)) then
        (C uV [.int .i64 a,.int .i64 b',.int .i64 dQ,.list aa kh]).bind fun UP=>
        kn ((V.nth UP 0).toInt,b',cM,eW,fj,(V.nth (UP.drop 1) 0).toList)
       else
        (C nV [.int .i64 a,.int .i64 b',.int .i64 dQ,.list aa kh]).bind fun oo=>
        bif decide (((IntKind.wrap .i64 (((V.nth oo 0).toInt)-a)):Int)<(IntKind.wrap .i64 (b'-((V.nth oo 0).toInt)))) then
        (C gP [.int .i64 a,.int .i64 ((V.nth oo 0).toInt),.int .i64 cM,.list aa ((V.nth (oo.drop 2) 0).toList)]).bind fun r46=>
        kn (IntKind.wrap .i64 (((V.nth oo 0).toInt)+1),b',cM,decide (((IntKind.wrap .i64 (((V.nth oo 0).toInt)-a)):Int)≥(IntKind.wrap .i64 (Int.tdiv (IntKind.wrap .i64 (b'-a)) 8))),(V.nth (oo.drop 1) 0).toBool,(V.nth r46 0).toList)
        else
        (C gP [.int .i64 (IntKind.wrap .i64 (((V.nth oo 0).toInt)+1)),.int .i64 b',.int .i64 cM,.list aa ((V.nth (oo.drop 2) 0).toList)]).bind fun r47=>
        kn (a,(V.nth oo 0).toInt,cM,decide (((IntKind.wrap .i64 (b'-((V.nth oo 0).toInt))):Int)≥(IntKind.wrap .i64 (Int.tdiv (IntKind.wrap .i64 (b'-a)) 8))),(V.nth (oo.drop 1) 0).toBool,(V.nth r47 0).toList)
       else none
      else none
      else
      (C nV [.int .i64 a,.int .i64 b',.int .i64 dQ,.list aa kh]).bind fun oq=>
      bif decide (((IntKind.wrap .i64 (((V.nth oq 0).toInt)-a)):Int)<(IntKind.wrap .i64 (b'-((V.nth oq 0).toInt)))) then
       (C gP [.int .i64 a,.int .i64 ((V.nth oq 0).toInt),.int .i64 cM,.list aa ((V.nth (oq.drop 2) 0).toList)]).bind fun r49=>
       kn (IntKind.wrap .i64 (((V.nth oq 0).toInt)+1),b',cM,decide (((IntKind.wrap .i64 (((V.nth oq 0).toInt)-a)):Int)≥(IntKind.wrap .i64 (Int.tdiv (IntKind.wrap .i64 (b'-a)) 8))),(V.nth (oq.drop 1) 0).toBool,(V.nth r49 0).toList)
      else
       (C gP [.int .i64 (IntKind.wrap .i64 (((V.nth oq 0).toInt)+1)),.int .i64 b',.int .i64 cM,.list aa ((V.nth (oq.drop 2) 0).toList)]).bind fun r50=>
       kn (a,(V.nth oq 0).toInt,cM,decide (((IntKind.wrap .i64 (b'-((V.nth oq 0).toInt))):Int)≥(IntKind.wrap .i64 (Int.tdiv (IntKind.wrap .i64 (b'-a)) 8))),(V.nth (oq.drop 1) 0).toBool,(V.nth r50 0).toList)))))
noncomputable def UQ (C:ag):(Int × Int × Int × Bool × Bool × (List V))→Option ((Int × Int × Int × Bool × Bool × (List V)) ⊕ (List V)):=un fun a=>un fun b'=>un fun jN=>un fun eW=>un fun fj ak=>qe C a b' jN eW fj ak (fun y=>some (.inl y)) (fun r=>some (.inr r))
noncomputable def UR (C:ag):ct:=fun β n ds k=>
 bif Nat.beq n 639 then ij Ll [[1,2,0,4,5,6,0]] (@yz C) ds k else
 bif Nat.beq n 911 then ij Lm [[1,2,3,4,5,6,0,0,0]] (@yA C) ds k else
 bif Nat.beq n 1215 then ij Ln [[1,2,3,4,5,6,7,0,0],[1,2,3,4,5,6,7,0]] (@nf C) ds k else
 bif Nat.beq n 33 then bW Lo [true,true,true,true,true,true] [[0]] (@qe C) ds k else
 none
abbrev GL (C:ag) (b:cq):Prop:=cr Try.prog ay C (UR C) 109 (cK Try.prog (ay.aV 109)) (ay.sin 109).bj.length b
theorem agm (C:ag):GL C (.cond 39 (av [1,1,0,0,0,1,1,1,0,1,0] mn) (av [1,1,0,0,0,1,1,1,0,1,1] mn)):=
 iL Ll [[1,2,0,4,5,6,0]] (@yz C) (by kernel_rfl) (aZ (bs:=[]) (by kernel_rfl) aw) (aZ (bs:=[]) (by kernel_rfl) aw) (fun ds=>by kernel_rfl) (fun i β k=>by kernel_rfl) (fun β ds k=>by kernel_rfl)
theorem agn (C:ag):GL C (.cond 56 (av [1,1,0,0,0,1,1,1,1,1,0,1,0] mn) (av [1,1,0,0,0,1,1,1,1,1,0,1,1] mn)):=
 iL Lm [[1,2,3,4,5,6,0,0,0]] (@yA C) (by kernel_rfl) (aZ (bs:=[]) (by kernel_rfl) aw) (aZ (bs:=[]) (by kernel_rfl) aw) (fun ds=>by kernel_rfl) (fun i β k=>by kernel_rfl) (fun β ds k=>by kernel_rfl)
theorem ago (C:ag):GL C (.cond 75 (av [1,1,0,0,0,1,1,1,1,1,1,0,1,0] mn) (av [1,1,0,0,0,1,1,1,1,1,1,0,1,1] mn)):=
 iL Ln [[1,2,3,4,5,6,7,0,0],[1,2,3,4,5,6,7,0]] (@nf C) (by kernel_rfl) (aZ (bs:=[]) (by kernel_rfl) aw) (aZ (bs:=[]) (by kernel_rfl) aw) (fun ds=>by kernel_rfl) (fun i β k=>by kernel_rfl) (fun β ds k=>by kernel_rfl)
theorem agp (C:ag):GL C (.loop (av [1,1,0,0] mn)):=
 bY Lo [true,true,true,true,true,true] [[0]] (@qe C) (by kernel_rfl) (aZ (bs:=[.cond 39 (av [1,1,0,0,0,1,1,1,0,1,0] mn) (av [1,1,0,0,0,1,1,1,0,1,1] mn),.cond 56 (av [1,1,0,0,0,1,1,1,1,1,0,1,0] mn) (av [1,1,0,0,0,1,1,1,1,1,0,1,1] mn),.cond 75 (av [1,1,0,0,0,1,1,1,1,1,1,0,1,0] mn) (av [1,1,0,0,0,1,1,1,1,1,1,0,1,1] mn)]) (by kernel_rfl) (bu (agm C) (bu (agn C) (bu (ago C) aw)))) (fun ds=>by kernel_rfl) (fun i x=>by kernel_rfl) (fun i x β k=>by kernel_rfl) (fun β ds k=>by kernel_rfl)
noncomputable def US (C:ag) (a b' jN:Int) (ak:List V):Option (List V):=
 (Loop (UQ C) (a,b',jN,true,true,ak)).bind (fun (agq:List V)=>
  some [.list aa agq])
theorem agr {a b' jN:Int} {ak:List V} {r:Option (List V)} (h:US CC a b' jN ak=r):CC gP [.int .i64 a,.int .i64 b',.int .i64 jN,.list aa ak]=r:=
 bh (key:=109) (L:=UR CC) (bs:=[.loop (av [1,1,0,0] mn)]) (by kernel_rfl) (bu (agp CC) aw) (bd (by kernel_rfl) h)
noncomputable def UT (C:ag) (xs:List V):Option (List V):=
 (C AZ [.int .u64 (IntKind.wrap .u64 (xs.length:Int))]).bind fun r1=>
 (C gP [.int .i64 0,.int .i64 (xs.length:Int),.int .i64 ((V.nth r1 0).toInt),.list aa xs]).bind fun r2=>
 some [.list aa ((V.nth r2 0).toList)]
theorem ags {xs:List V} {r:Option (List V)} (h:UT CC xs=r):CC AY [.list aa xs]=r:=
 bh (key:=105) (L:=cw) (bs:=[]) (by kernel_rfl) aw (bd (by kernel_rfl) h)
end Go.AM
set_option maxRecDepth 100000
set_option maxHeartbeats 4000000
namespace Go.AM.SX
open Go.Proofs Go.Sort
theorem agt (a b:XE):b8 a b<0↔a.lt b:=Iff.rfl
theorem UU (a b:XE):(aA a b=true)=(a.lt b):=by rw[s7];rfl
theorem GM (a b:XE):(aA a b=false)= ¬(a.lt b):=by rw[←UU];simp
theorem yB:SWO aA where
 irrefl x:=by rw[GM];exact XE.lt_irrefl x
 trans x y z:=by simp only[UU];exact XE.lt_trans
 ntrans x y z:=by simp only[GM];exact XE.afb
def GN:List UInt8:=([0,1,2,2,3,3,3,3,4,4,4,4,4,4,4,4,5,5,5,5,5,5,5,5,5,5,5,5,5,5,5,5,6,6,6,6,6,6,6,6,6,6,6,6,6,6,6,6,6,6,6,6,6,6,6,6,6,6,6,6,6,6,6,6,7,7,7,7,7,7,7,7,7,7,7,7,7,7,7,7,7,7,7,7,7,7,7,7,7,7,7,7,7,7,7,7,7,7,7,7,7,7,7,7,7,7,7,7,7,7,7,7,7,7,7,7,7,7,7,7,7,7,7,7,7,7,7,7,8,8,8,8,8,8,8,8,8,8,8,8,8,8,8,8,8,8,8,8,8,8,8,8,8,8,8,8,8,8,8,8,8,8,8,8,8,8,8,8,8,8,8,8,8,8,8,8,8,8,8,8,8,8,8,8,8,8,8,8,8,8,8,8,8,8,8,8,8,8,8,8,8,8,8,8,8,8,8,8,8,8,8,8,8,8,8,8,8,8,8,8,8,8,8,8,8,8,8,8,8,8,8,8,8,8,8,8,8,8,8,8,8,8,8,8,8,8,8,8,8,8,8,8,8,8,8,8]:List UInt8)
theorem agu:(List.range 256).all (fun y=>match GN[y]? with|some b=>decide (b.toNat≤8)&&(Nat.beq y 0||(decide (1≤b.toNat)&&decide (2^(b.toNat-1)≤y)))|none=>false)=true:=by decide+kernel
theorem UW {y:Nat} (h:y<256): ∃b,GN[y]? =some b∧b.toNat≤8∧(0<y→1≤b.toNat∧2^(b.toNat-1)≤y):=by
 have:=fC.1 agu y (List.mem_range.2 h)
 cases hb:GN[y]? with
 | none=>rw[hb] at this;cases this
 | some b=>
  rw[hb] at this
  simp only[aM,Bool.or_eq_true,eg] at this
  refine ⟨b,rfl,this.1,fun hy=> ?_⟩
  rcases this.2 with U|U
  ·have:=za U;omega
  ·exact U
theorem MQ {y t k:Nat} (h:2^(t-1)≤y/2^k) (ht:1≤t):2^(t+k-1)≤y:=by
 have e:t+k-1=(t-1)+k:=by omega
 rw[e,Nat.pow_add]
 exact lI (dF _ h) (Nat.div_mul_le_self _ _)
noncomputable def yC (y n:Int):Option (List V):=
(bif decide ((y:Int)≥256) then
    (bif decide (0≤(IntKind.wrap .u8 (Int.fdiv y (2^(min (8:Int).toNat (IntKind.bits .u64)))))) then (([0,1,2,2,3,3,3,3,4,4,4,4,4,4,4,4,5,5,5,5,5,5,5,5,5,5,5,5,5,5,5,5,6,6,6,6,6,6,6,6,6,6,6,6,6,6,6,6,6,6,6,6,6,6,6,6,6,6,6,6,6,6,6,6,7,7,7,7,7,7,7,7,7,7,7,7,7,7,7,7,7,7,7,7,7,7,7,7,7,7,7,7,7,7,7,7,7,7,7,7,7,7,7,7,7,7,7,7,7,7,7,7,7,7,7,7,7,7,7,7,7,7,7,7,7,7,7,7,8,8,8,8,8,8,8,8,8,8,8,8,8,8,8,8,8,8,8,8,8,8,8,8,8,8,8,8,8,8,8,8,8,8,8,8,8,8,8,8,8,8,8,8,8,8,8,8,8,8,8,8,8,8,8,8,8,8,8,8,8,8,8,8,8,8,8,8,8,8,8,8,8,8,8,8,8,8,8,8,8,8,8,8,8,8,8,8,8,8,8,8,8,8,8,8,8,8,8,8,8,8,8,8,8,8,8,8,8,8,8,8,8,8,8,8,8,8,8,8,8,8,8,8,8,8,8,8]:List UInt8)[(IntKind.wrap .u8 (Int.fdiv y (2^(min (8:Int).toNat (IntKind.bits .u64)))):Int).toNat]?).map fun b=>V.int .u8 b.toNat else none).bind fun x5=>
    some [V.int .i64 (IntKind.wrap .i64 ((IntKind.wrap .i64 (n+8))+(IntKind.wrap .i64 x5.toInt)))]
   else
    (bif decide (0≤(IntKind.wrap .u8 y)) then (([0,1,2,2,3,3,3,3,4,4,4,4,4,4,4,4,5,5,5,5,5,5,5,5,5,5,5,5,5,5,5,5,6,6,6,6,6,6,6,6,6,6,6,6,6,6,6,6,6,6,6,6,6,6,6,6,6,6,6,6,6,6,6,6,7,7,7,7,7,7,7,7,7,7,7,7,7,7,7,7,7,7,7,7,7,7,7,7,7,7,7,7,7,7,7,7,7,7,7,7,7,7,7,7,7,7,7,7,7,7,7,7,7,7,7,7,7,7,7,7,7,7,7,7,7,7,7,7,8,8,8,8,8,8,8,8,8,8,8,8,8,8,8,8,8,8,8,8,8,8,8,8,8,8,8,8,8,8,8,8,8,8,8,8,8,8,8,8,8,8,8,8,8,8,8,8,8,8,8,8,8,8,8,8,8,8,8,8,8,8,8,8,8,8,8,8,8,8,8,8,8,8,8,8,8,8,8,8,8,8,8,8,8,8,8,8,8,8,8,8,8,8,8,8,8,8,8,8,8,8,8,8,8,8,8,8,8,8,8,8,8,8,8,8,8,8,8,8,8,8,8,8,8,8,8,8]:List UInt8)[(IntKind.wrap .u8 y:Int).toNat]?).map fun b=>V.int .u8 b.toNat else none).bind fun x6=>
    some [V.int .i64 (IntKind.wrap .i64 (n+(IntKind.wrap .i64 x6.toInt)))])
theorem agv {x:Nat} (h:x<2^64): ∃L:Nat,CC FJ [.int .u64 (x:Int)]=some [.int .i64 (L:Int)]∧L≤64∧(0<x→1≤L∧2^(L-1)≤x):=by
 have last: ∀y n:Nat,y<65536→n≤48→∃t:Nat,
   yC (y:Int) (n:Int)=some [V.int .i64 ((n+t:Nat):Int)]∧t≤16∧(0<y→1≤t∧2^(t-1)≤y):=by
  intro y n hy hn
  unfold yC
  rw[show ([0,1,2,2,3,3,3,3,4,4,4,4,4,4,4,4,5,5,5,5,5,5,5,5,5,5,5,5,5,5,5,5,6,6,6,6,6,6,6,6,6,6,6,6,6,6,6,6,6,6,6,6,6,6,6,6,6,6,6,6,6,6,6,6,7,7,7,7,7,7,7,7,7,7,7,7,7,7,7,7,7,7,7,7,7,7,7,7,7,7,7,7,7,7,7,7,7,7,7,7,7,7,7,7,7,7,7,7,7,7,7,7,7,7,7,7,7,7,7,7,7,7,7,7,7,7,7,7,8,8,8,8,8,8,8,8,8,8,8,8,8,8,8,8,8,8,8,8,8,8,8,8,8,8,8,8,8,8,8,8,8,8,8,8,8,8,8,8,8,8,8,8,8,8,8,8,8,8,8,8,8,8,8,8,8,8,8,8,8,8,8,8,8,8,8,8,8,8,8,8,8,8,8,8,8,8,8,8,8,8,8,8,8,8,8,8,8,8,8,8,8,8,8,8,8,8,8,8,8,8,8,8,8,8,8,8,8,8,8,8,8,8,8,8,8,8,8,8,8,8,8,8,8,8,8,8]:List UInt8)=GN from rfl]
  by_cases h1:y≥256
  ·have e:Int.fdiv (y:Int) (2^(min (8:Int).toNat (IntKind.bits .u64)))=((y/2^8:Nat):Int):=L0 (m:=8) (by omega)
   obtain ⟨b,hb,b1,b2⟩:=UW (y:=y/2^8) (by omega)
   refine ⟨b.toNat+8,?_,by omega,fun _=> ?_⟩
   ·rw[e,az,aj (by omega),Fe (by omega) (by omega),az,aj (by omega),Int.toNat_natCast,hb]
    simp only[Option.map_some,Option.bind_some,V.toInt_int]
    simp (disch:=omega) only[wrap64]
    congr 3
    omega
   ·obtain ⟨b3,b4⟩:=b2 (by omega)
    exact ⟨by omega,MQ b4 b3⟩
  ·obtain ⟨b,hb,b1,b2⟩:=UW (y:=y) (by omega)
   refine ⟨b.toNat,?_,by omega,b2⟩
   rw[az,ai (by omega),Fe (by omega) (by omega),az,aj (by omega),Int.toNat_natCast,hb]
   simp (disch:=omega) only[Option.map_some,Option.bind_some,V.toInt_int,wrap64]
   congr 3
 have mid: ∀y n:Nat,y<4294967296→n≤32→∃t:Nat,∀F:Int→Int→Option (List V),
   (∀y n:Nat,y<65536→n≤48→∃t:Nat,F (y:Int) (n:Int)=some [V.int .i64 ((n+t:Nat):Int)]∧t≤16∧(0<y→1≤t∧2^(t-1)≤y))→
   ∃t:Nat,vu CC (y:Int) (n:Int) (decide (((y:Int):Int)≥65536)) (un F)=some [V.int .i64 ((n+t:Nat):Int)]∧t≤32∧(0<y→1≤t∧2^(t-1)≤y):=by
  intro y n hy hn
  refine ⟨0,fun F hF=> ?_⟩
  unfold vu
  by_cases h1:y≥65536
  ·have e:Int.fdiv (y:Int) (2^(min (16:Int).toNat (IntKind.bits .u64)))=((y/2^16:Nat):Int):=L0 (m:=16) (by omega)
   rw[az,aj (by omega),e,wrap64 (by omega) (by omega)]
   obtain ⟨t,U,h3,h4⟩:=hF (y/2^16) (n+16) (by omega) (by omega)
   refine ⟨t+16,?_,by omega,fun _=> ?_⟩
   ·rw[show ((n:Int)+16)=((n+16:Nat):Int) by omega]
    simp only[un]
    rw[U]
    congr 3
    omega
   ·obtain ⟨b3,b4⟩:=h4 (by omega)
    exact ⟨by omega,MQ b4 b3⟩
  ·rw[az,ai (by omega)]
   obtain ⟨t,U,h3,h4⟩:=hF y n (by omega) (by omega)
   exact ⟨t,U,by omega,h4⟩
 by_cases h1:x≥4294967296
 ·have e:Int.fdiv (x:Int) (2^(min (32:Int).toNat (IntKind.bits .u64)))=((x/2^32:Nat):Int):=L0 (m:=32) (by omega)
  obtain ⟨_,hm⟩:=mid (x/2^32) 32 (by omega) (by omega)
  obtain ⟨t,U,h3,h4⟩:=hm yC last
  refine ⟨32+t,UN ?_,by omega,fun _=> ?_⟩
  ·show vr CC (x:Int) 0 (decide (((x:Int):Int)≥4294967296)) (un fun (iP:Int) (B1:Int)=>vu CC iP B1 (decide ((iP:Int)≥65536)) (un yC))=_
   unfold vr
   rw[az,aj (by omega),e]
   exact U
  ·obtain ⟨b3,b4⟩:=h4 (by omega)
   rw[Nat.add_comm 32 t]
   exact ⟨by omega,MQ b4 b3⟩
 ·obtain ⟨_,hm⟩:=mid x 0 (by omega) (by omega)
  obtain ⟨t,U,h3,h4⟩:=hm yC last
  refine ⟨t,UN ?_,by omega,h4⟩
  show vr CC (x:Int) 0 (decide (((x:Int):Int)≥4294967296)) (un fun (iP:Int) (B1:Int)=>vu CC iP B1 (decide ((iP:Int)≥65536)) (un yC))=_
  unfold vr
  rw[az,ai (by omega)]
  rw[gY] at U
  exact U
theorem UX {x:Nat} (h:x<2^64): ∃L:Nat,CC AZ [.int .u64 (x:Int)]=some [.int .i64 (L:Int)]∧L≤64∧(0<x→1≤L∧2^(L-1)≤x):=by
 obtain ⟨L,h1,U⟩:=agv h
 refine ⟨L,agf ?_,U⟩
 unfold UJ
 rw[h1]
 rfl
theorem agw {x:Nat} (h0:0<x) (h:x<1152921504606846976): ∃M:Nat,CC FK [.int .i64 (x:Int)]=some [.int .u64 (M:Int)]∧1≤M∧M≤2*x:=by
 obtain ⟨L,h1,U,h3⟩:=UX (x:=x) (by omega)
 obtain ⟨h4,h5⟩:=h3 h0
 have e:2^L=2*2^(L-1):=by
  obtain ⟨k,rfl⟩: ∃k,L=k+1:=⟨L-1,by omega⟩
  rw[Nat.pow_succ];simp only[vM];omega
 have hL:L<64:=by
  by_cases hx:L<64
  ·exact hx
  ·have:2^63≤2^(L-1):=Nat.pow_le_pow_right (by omega) (by omega)
   omega
 refine ⟨2^L,age ?_,Nat.pos_of_ne_zero (by simp),by omega⟩
 unfold UI
 rw[Bg (A:=x) (by omega),h1]
 simp only[Option.bind_some,V.aT,V.toInt_int]
 rw[az,aj (by omega),Int.toNat_natCast,abM hL]
theorem agx (r:Int): ∃R:Nat,CC FL [.int .u64 r]=some [.int .u64 (R:Int),.int .u64 (R:Int)]∧R<2^64:=by
 have h: ∀n:Int,∃R:Nat,IntKind.wrap .u64 n=(R:Int)∧R<2^64:=fun n=>⟨(IntKind.wrap .u64 n).toNat,by rw[wrap_u64];omega,by rw[wrap_u64];omega⟩
 obtain ⟨R,h1,U⟩:=h _
 exact ⟨R,agd (by unfold UH;rw[h1]),U⟩
theorem GO {d:Array XE} {i:Nat} (h:i<d.size):idx (eA d) (i:Int)=some (d[i]!).enc:=by rw[J7,gf h]
theorem MR {d:Array XE} {a b:Nat} {s:Int} (ha:a<d.size) (hb:b<d.size): ∃(x y:Nat) (s':Int),CC xz [.list aa (eA d),.int .i64 (a:Int),.int .i64 (b:Int),.int .i64 s]=some [.int .i64 (x:Int),.int .i64 (y:Int),.int .i64 s']∧(x=a∧y=b∨x=b∧y=a):=by
 by_cases h:b8 d[b]! d[a]! <0
 ·refine ⟨b,a,_,UC (by unfold MO;rw[GO hb,GO ha];simp only[Option.bind_some,XE.aW,XE.bc,XE.a9,gT,V.aT,V.toInt_int];rw[az,aj h]),.inr ⟨rfl,rfl⟩⟩
 ·refine ⟨a,b,_,UC (by unfold MO;rw[GO hb,GO ha];simp only[Option.bind_some,XE.aW,XE.bc,XE.a9,gT,V.aT,V.toInt_int];rw[az,ai h]),.inl ⟨rfl,rfl⟩⟩
theorem MS {d:Array XE} {a b c:Nat} {s:Int} (ha:a<d.size) (hb:b<d.size) (hc:c<d.size): ∃(m:Nat) (s':Int),CC A5 [.list aa (eA d),.int .i64 (a:Int),.int .i64 (b:Int),.int .i64 (c:Int),.int .i64 s]=some [.int .i64 (m:Int),.int .i64 s']∧(m=a∨m=b∨m=c):=by
 obtain ⟨x1,y1,s1,e1,o1⟩:=MR (s:=s) ha hb
 obtain ⟨x2,y2,s2,e2,o2⟩:=MR (d:=d) (a:=y1) (b:=c) (s:=s1) (by omega) hc
 obtain ⟨x3,y3,s3,e3,o3⟩:=MR (d:=d) (a:=x1) (b:=x2) (s:=s2) (by omega) (by omega)
 refine ⟨y3,s3,af8 ?_,by omega⟩
 unfold UB
 rw[e1]
 simp only[Option.bind_some,V.aT,V.rm,V.toInt_int,la,jy]
 rw[e2]
 simp only[Option.bind_some,V.aT,V.rm,V.toInt_int,la,jy]
 rw[e3]
 rfl
theorem MT {d:Array XE} {a:Nat} {s:Int} (h1:1≤a) (ha:a+1<d.size) (hs:d.size<1152921504606846976): ∃(m:Nat) (s':Int),CC xy [.list aa (eA d),.int .i64 (a:Int),.int .i64 s]=some [.int .i64 (m:Int),.int .i64 s']∧a≤m+1∧m≤a+1:=by
 obtain ⟨m,s',e,o⟩:=MS (d:=d) (a:=a-1) (b:=a) (c:=a+1) (s:=s) (by omega) (by omega) (by omega)
 refine ⟨m,s',af9 ?_,by omega,by omega⟩
 unfold UD
 simp (disch:=omega) only[kV,dP,wrap64]
 rw[e]
 rfl
theorem MU (n:Nat):Int.tdiv (n:Int) 4=((n/4:Nat):Int):=by
 have:=divC n 4
 exact this
theorem mulC (k n:Nat):((k:Nat):Int)*(n:Int)=((k*n:Nat):Int):=(Int.natCast_mul k n).symm
theorem agy {d:Array XE} {a b:Nat} (fp:a+12<b) (hb:b≤d.size) (hs:d.size<1152921504606846976): ∃(p:Nat) (h:Int),CC A3 [.list aa (eA d),.int .i64 (a:Int),.int .i64 (b:Int)]=some [.int .i64 (p:Int),.int .i64 h]∧a≤p∧p<b:=by
 have fin: ∀(p:Nat) (s:Int),∃h:Int,(bif (s:Int)==0 then some [V.int .i64 (p:Int),V.int .i64 1] else bif (s:Int)==12 then some [V.int .i64 (p:Int),V.int .i64 2] else some [V.int .i64 (p:Int),V.int .i64 0])=some [V.int .i64 (p:Int),V.int .i64 h]:=by
  intro p s
  rw[df]
  split
  ·exact ⟨1,rfl⟩
  ·rw[df]
   split
   ·exact ⟨2,rfl⟩
   ·exact ⟨0,rfl⟩
 have e1:IntKind.wrap .i64 ((b:Int)-(a:Int))=((b-a:Nat):Int):=by rw[m9 (by omega),wrap64 (by omega) (by omega)]
 have e2:IntKind.wrap .i64 (Int.tdiv ((b-a:Nat):Int) 4)=(((b-a)/4:Nat):Int):=by rw[MU,wrap64 (by omega) (by omega)]
 have e3: ∀k:Nat,k≤3→IntKind.wrap .i64 ((a:Int)+IntKind.wrap .i64 ((k:Int)*(((b-a)/4:Nat):Int)))=((a+k*((b-a)/4):Nat):Int):=by
  intro k hk
  have mS:k*((b-a)/4)≤3*((b-a)/4):=dF _ hk
  simp (disch:=omega) only[mulC,wrap64,gg]
 have MV:=e3 1 (by omega)
 have td:=e3 2 (by omega)
 have MW:=e3 3 (by omega)
 rw[show ((1:Nat):Int)=1 from rfl] at MV
 rw[show ((2:Nat):Int)=2 from rfl] at td
 rw[show ((3:Nat):Int)=3 from rfl] at MW
 by_cases h50:b-a≥50
 ·obtain ⟨m1,s1,q1,r1⟩:=MT (d:=d) (a:=a+1*((b-a)/4)) (s:=0) (by omega) (by omega) hs
  obtain ⟨m2,s2,q2,r2⟩:=MT (d:=d) (a:=a+2*((b-a)/4)) (s:=s1) (by omega) (by omega) hs
  obtain ⟨m3,s3,q3,r3⟩:=MT (d:=d) (a:=a+3*((b-a)/4)) (s:=s2) (by omega) (by omega) hs
  obtain ⟨m,s,q,r⟩:=MS (d:=d) (a:=m1) (b:=m2) (c:=m3) (s:=s3) (by omega) (by omega) (by omega)
  obtain ⟨h,hf⟩:=fin m s
  refine ⟨m,h,UA ?_,by omega,by omega⟩
  unfold MM BY BX
  rw[e1,e2,MV,td,MW,n0 (by omega),cond_true,n0 (by omega),cond_true,q1]
  simp only[Option.bind_some,V.aT,V.rm,V.toInt_int,la,jy]
  rw[q2]
  simp only[Option.bind_some,V.aT,V.rm,V.toInt_int,la,jy]
  rw[q3]
  simp only[Option.bind_some,V.aT,V.rm,V.toInt_int,la,jy,un]
  rw[q]
  exact hf
 ·obtain ⟨m,s,q,r⟩:=MS (d:=d) (a:=a+1*((b-a)/4)) (b:=a+2*((b-a)/4)) (c:=a+3*((b-a)/4)) (s:=0) (by omega) (by omega) (by omega)
  obtain ⟨h,hf⟩:=fin m s
  refine ⟨m,h,UA ?_,by omega,by omega⟩
  unfold MM BY BX
  rw[e1,e2,MV,td,MW,n0 (by omega),cond_true,s5 (by omega),cond_false]
  simp only[un]
  rw[q]
  exact hf
theorem agz {a b M:Nat} (hM1:1≤M) (hM:M≤2*(b-a)) (h8:8≤b-a) (hB:b<1152921504606846976): ∀(n i:Nat) (d:Array XE) (r:Int),a+2*((b-a)/4)+2-i=n→a≤i→b≤d.size→d.size<1152921504606846976→
  ∃x y z R,Loop (GK CC a (b-a:Nat) M) ((i:Int),eA d,r)=some (x,y,eA R,z)∧PermIn a b d R:=by
 have e2:IntKind.wrap .i64 (Int.tdiv ((b-a:Nat):Int) 4)=(((b-a)/4:Nat):Int):=by rw[MU,wrap64 (by omega) (by omega)]
 have td:IntKind.wrap .i64 ((a:Int)+IntKind.wrap .i64 (2*(((b-a)/4:Nat):Int)))=((a+2*((b-a)/4):Nat):Int):=by
  have:=mulC 2 ((b-a)/4)
  rw[show ((2:Nat):Int)=2 from rfl] at this
  rw[this]
  simp (disch:=omega) only[wrap64,gg]
 intro n
 induction n with
 | zero=>
  intro i d r hn hi hb hs
  refine ⟨(i:Int),false,r,d,aS ?_,permIn_refl _ _ _⟩
  simp only[GK,B0,un]
  rw[e2,td,dP,wrap64 (by omega) (by omega),s5 (by omega),cond_false]
 | succ n ih=>
  intro i d r hn hi hb hs
  obtain ⟨R1,q1,q2⟩:=agx r
  obtain ⟨o,ho,lU⟩: ∃o:Nat,(o=if R1&&&(M-1)≥b-a then (R1&&&(M-1))-(b-a) else R1&&&(M-1))∧o<b-a:=by
   refine ⟨_,rfl,?_⟩
   have:R1&&&(M-1)≤M-1:=Nat.and_le_right
   split<;>omega
  have hand:R1&&&(M-1)≤M-1:=Nat.and_le_right
  have hP:=swp_permIn (α:=XE) d a b i (a+o) hi (by omega) (by omega) (by omega) hb
  obtain ⟨x,y,z,R,e,hR⟩:=ih (i+1) (swp d i (a+o)) (R1:Int) (by omega) (by omega) (by rw[size_swp];exact hb) (by rw[size_swp];exact hs)
  refine ⟨x,y,z,R,(bJ ?_).trans e,permIn_trans _ _ _ a b hP hR⟩
  simp only[GK,B0,un]
  rw[e2,td,dP,wrap64 (x:=((a+2*((b-a)/4)+1:Nat):Int)) (by omega) (by omega),n0 (by omega),cond_true,q1]
  simp only[Option.bind_some,V.aT,V.rm,V.toInt_int,la,jy]
  have e5:IntKind.wrap .u64 ((M:Int)-1)=((M-1:Nat):Int):=by rw[kV hM1,Bg (by omega)]
  rw[e5,u64_and q2 (by omega),wrap64 (x:=((R1&&&(M-1):Nat):Int)) (by omega) (by omega)]
  have fin: ∀k:Int,k=(o:Int)→(bif (decide (0≤(IntKind.wrap .i64 ((a:Int)+k))))&&(decide ((IntKind.wrap .i64 ((a:Int)+k))<((eA d).length:Int))) then
   ((eA d)[(IntKind.wrap .i64 ((a:Int)+k):Int).toNat]?).bind fun x4=>
   bif (decide (0≤(i:Int)))&&(decide ((i:Int)<((eA d).length:Int))) then
    ((eA d)[((i:Int):Int).toNat]?).bind fun x5=>
    bif (decide (0≤(i:Int)))&&(decide ((i:Int)<((eA d).length:Int))) then
    ((eA d)[((i:Int):Int).toNat]?).bind fun x6=>
    bif (decide (0≤(IntKind.wrap .i64 ((a:Int)+k))))&&(decide ((IntKind.wrap .i64 ((a:Int)+k))<(((eA d).set (((i:Int):Int).toNat) (.agg [.int .i64 ((x4.cell 0).toInt),.int .i64 ((x4.cell 1).toInt),.list aa ((x4.cell 2).toList)])).length:Int))) then
     (((eA d).set (((i:Int):Int).toNat) (.agg [.int .i64 ((x4.cell 0).toInt),.int .i64 ((x4.cell 1).toInt),.list aa ((x4.cell 2).toList)]))[(IntKind.wrap .i64 ((a:Int)+k):Int).toNat]?).bind fun x7=>
     some (.inl (IntKind.wrap .i64 ((i:Int)+1),((eA d).set (((i:Int):Int).toNat) (.agg [.int .i64 ((x4.cell 0).toInt),.int .i64 ((x4.cell 1).toInt),.list aa ((x4.cell 2).toList)])).set ((IntKind.wrap .i64 ((a:Int)+k):Int).toNat) (.agg [.int .i64 ((x5.cell 0).toInt),.int .i64 ((x5.cell 1).toInt),.list aa ((x5.cell 2).toList)]),(R1:Int)))
    else none
    else none
   else none
   else none:Option ((Int × List V × Int) ⊕ (Int × Bool × List V × Int)))=some (.inl (((i+1:Nat):Int),eA (swp d i (a+o)),(R1:Int))):=by
   intro k hk
   subst hk
   simp (disch:=omega) only[az,cY,ig,aj,ai,wrap64,dP,gg,Int.toNat_natCast,Option.bind_some,gb,gf,XE.aW,XE.bc,XE.a9,XE.re,gd,iN,gZ,gT,V.aT,V.toInt_int,cond_true,cond_false]
   rfl
  unfold GJ
  by_cases h:R1&&&(M-1)≥b-a
  ·rw[aj h] at ho
   rw[n0 (by omega),cond_true]
   exact fin _ (by rw[m9 (by omega),wrap64 (by omega) (by omega)];omega)
  ·rw[ai h] at ho
   rw[s5 (by omega),cond_false]
   exact fin _ (by omega)
theorem agA {a b:Nat} {d:Array XE} (fp:a+12<b) (hb:b≤d.size) (hs:d.size<1152921504606846976): ∃R,CC FG [.int .i64 (a:Int),.int .i64 (b:Int),.list aa (eA d)]=some [.list aa (eA R)]∧PermIn a b d R:=by
 obtain ⟨M,q1,q2,q3⟩:=agw (x:=b-a) (by omega) (by omega)
 have e1:IntKind.wrap .i64 ((b:Int)-(a:Int))=((b-a:Nat):Int):=by rw[m9 (by omega),wrap64 (by omega) (by omega)]
 have e2:IntKind.wrap .i64 (Int.tdiv ((b-a:Nat):Int) 4)=(((b-a)/4:Nat):Int):=by rw[MU,wrap64 (by omega) (by omega)]
 have td:IntKind.wrap .i64 ((a:Int)+IntKind.wrap .i64 (2*(((b-a)/4:Nat):Int)))=((a+2*((b-a)/4):Nat):Int):=by
  have:=mulC 2 ((b-a)/4)
  rw[show ((2:Nat):Int)=2 from rfl] at this
  rw[this]
  simp (disch:=omega) only[wrap64,gg]
 obtain ⟨x,y,z,R,e,hR⟩:=agz (a:=a) (b:=b) (M:=M) q2 q3 (by omega) (by omega) _ (a+2*((b-a)/4)-1) d (IntKind.wrap .u64 ((b-a:Nat):Int)) rfl (by omega) hb hs
 refine ⟨R,agc ?_,hR⟩
 unfold UG
 rw[e1,az,aj (by omega),q1]
 simp only[Option.bind_some,V.aT,V.toInt_int]
 rw[e2,td,kV (by omega),wrap64 (x:=((a+2*((b-a)/4)-1:Nat):Int)) (by omega) (by omega),e]
 rfl
noncomputable def te (C:ag) (a b':Int) (eW fj:Bool) (cM dQ:Int) (na:List V) {β:Type} (kn:(Int × Int × Int × Bool × Bool × (List V))→Option β):Option β:=
      bif decide ((a:Int)>0) then
       bif (decide (0≤(IntKind.wrap .i64 (a-1))))&&(decide ((IntKind.wrap .i64 (a-1))<(na.length:Int))) then
       (na[(IntKind.wrap .i64 (a-1):Int).toNat]?).bind fun ju=>
       bif (decide (0≤dQ))&&(decide (dQ<(na.length:Int))) then
        (na[(dQ:Int).toNat]?).bind fun od=>
        (C bn [.int .i64 ((ju.cell 0).toInt),.int .i64 ((ju.cell 1).toInt),.list aa ((ju.cell 2).toList),.int .i64 ((od.cell 0).toInt),.int .i64 ((od.cell 1).toInt),.list aa ((od.cell 2).toList)]).bind fun oe=>
        bif !(decide ((((V.nth oe 0).toInt):Int)<0)) then
        (C uV [.int .i64 a,.int .i64 b',.int .i64 dQ,.list aa na]).bind fun qf=>
        kn ((V.nth qf 0).toInt,b',cM,eW,fj,(V.nth (qf.drop 1) 0).toList)
        else
        (C nV [.int .i64 a,.int .i64 b',.int .i64 dQ,.list aa na]).bind fun dR=>
        bif decide (((IntKind.wrap .i64 (((V.nth dR 0).toInt)-a)):Int)<(IntKind.wrap .i64 (b'-((V.nth dR 0).toInt)))) then
         (C gP [.int .i64 a,.int .i64 ((V.nth dR 0).toInt),.int .i64 cM,.list aa ((V.nth (dR.drop 2) 0).toList)]).bind fun kj=>
         kn (IntKind.wrap .i64 (((V.nth dR 0).toInt)+1),b',cM,decide (((IntKind.wrap .i64 (((V.nth dR 0).toInt)-a)):Int)≥(IntKind.wrap .i64 (Int.tdiv (IntKind.wrap .i64 (b'-a)) 8))),(V.nth (dR.drop 1) 0).toBool,(V.nth kj 0).toList)
        else
         (C gP [.int .i64 (IntKind.wrap .i64 (((V.nth dR 0).toInt)+1)),.int .i64 b',.int .i64 cM,.list aa ((V.nth (dR.drop 2) 0).toList)]).bind fun dO=>
         kn (a,(V.nth dR 0).toInt,cM,decide (((IntKind.wrap .i64 (b'-((V.nth dR 0).toInt))):Int)≥(IntKind.wrap .i64 (Int.tdiv (IntKind.wrap .i64 (b'-a)) 8))),(V.nth (dR.drop 1) 0).toBool,(V.nth dO 0).toList)
       else none
       else none
      else
       (C nV [.int .i64 a,.int .i64 b',.int .i64 dQ,.list aa na]).bind fun iQ=>
       bif decide (((IntKind.wrap .i64 (((V.nth iQ 0).toInt)-a)):Int)<(IntKind.wrap .i64 (b'-((V.nth iQ 0).toInt)))) then
       (C gP [.int .i64 a,.int .i64 ((V.nth iQ 0).toInt),.int .i64 cM,.list aa ((V.nth (iQ.drop 2) 0).toList)]).bind fun pg=>
       kn (IntKind.wrap .i64 (((V.nth iQ 0).toInt)+1),b',cM,decide (((IntKind.wrap .i64 (((V.nth iQ 0).toInt)-a)):Int)≥(IntKind.wrap .i64 (Int.tdiv (IntKind.wrap .i64 (b'-a)) 8))),(V.nth (iQ.drop 1) 0).toBool,(V.nth pg 0).toList)
       else
       (C gP [.int .i64 (IntKind.wrap .i64 (((V.nth iQ 0).toInt)+1)),.int .i64 b',.int .i64 cM,.list aa ((V.nth (iQ.drop 2) 0).toList)]).bind fun iO=>
       kn (a,(V.nth iQ 0).toInt,cM,decide (((IntKind.wrap .i64 (b'-((V.nth iQ 0).toInt))):Int)≥(IntKind.wrap .i64 (Int.tdiv (IntKind.wrap .i64 (b'-a)) 8))),(V.nth (iQ.drop 1) 0).toBool,(V.nth iO 0).toList)
theorem GP (C:ag) (a b' jN:Int) (eW fj:Bool) (ak:List V) {β:Type} (kn:(Int × Int × Int × Bool × Bool × (List V))→Option β) (kr:(List V)→Option β):
  qe C a b' jN eW fj ak kn kr=
 bif decide (((IntKind.wrap .i64 (b'-a)):Int)≤12) then
  (C A0 [.int .i64 a,.int .i64 b',.list aa ak]).bind fun r1=>
  kr ((V.nth r1 0).toList)
 else
  bif (jN:Int)==0 then
  (C A1 [.int .i64 a,.int .i64 b',.list aa ak]).bind fun r2=>
  kr ((V.nth r2 0).toList)
  else
  yz C a b' jN eW fj (IntKind.wrap .i64 (b'-a)) (!eW) ak (un fun (cM:Int) (B5:List V)=>
   (C A3 [.list aa B5,.int .i64 a,.int .i64 b']).bind fun r6=>
   yA C a b' cM eW fj (IntKind.wrap .i64 (b'-a)) ((V.nth r6 0).toInt) ((V.nth (r6.drop 1) 0).toInt) ((((V.nth (r6.drop 1) 0).toInt):Int)==2) B5 (un fun (dQ:Int)=>un fun (MP:Int) (pc:List V)=>
    bif eW then
     bif fj then
     nf C a b' cM eW fj (IntKind.wrap .i64 (b'-a)) dQ ((MP:Int)==1) pc (bV (un fun (L5:Bool) (MX:List V)=>
      kr MX) (fun (na:List V)=>te C a b' eW fj cM dQ na kn))
     else
     nf C a b' cM eW fj (IntKind.wrap .i64 (b'-a)) dQ false pc (bV (un fun (Sz:Bool) (agB:List V)=>
      kr agB) (fun (agC:List V)=>te C a b' eW fj cM dQ agC kn))
    else
     nf C a b' cM eW fj (IntKind.wrap .i64 (b'-a)) dQ false pc (bV (un fun (ab5:Bool) (agD:List V)=>
      kr agD) (fun (agE:List V)=>te C a b' eW fj cM dQ agE kn)))):=rfl
section
variable {a b:Nat} {lim:Int} {wb wp:Bool}
theorem agF {d:Array XE} (fp:a+12<b) (hb:b≤d.size) (hs:d.size<1152921504606846976) (len:Int) (t:Bool): ∃(l1:Int) (d1:Array XE),PermIn a b d d1∧∀(β:Type) (kr:(Int × List V)→Option β),yz CC a b lim wb wp len t (eA d) kr=kr (l1,eA d1):=by
 cases t with
 | true=>
  obtain ⟨R,e,hR⟩:=agA fp hb hs
  refine ⟨IntKind.wrap .i64 (lim-1),R,hR,fun β kr=> ?_⟩
  unfold yz
  rw[cond_true,e]
  rfl
 | false=>exact ⟨lim,d,permIn_refl _ _ _,fun β kr=>rfl⟩
theorem agG {d:Array XE} (fp:a+12<b) (hb:b≤d.size) (hs:d.size<1152921504606846976) (len h:Int) (t:Bool) {p:Nat} (h1:a≤p) (U:p<b): ∃(p2:Nat) (U:Int) (d1:Array XE),a≤p2∧p2<b∧PermIn a b d d1∧∀(β:Type) (kr:(Int × Int × List V)→Option β),yA CC a b lim wb wp len p h t (eA d) kr=kr ((p2:Int),U,eA d1):=by
 cases t with
 | true=>
  refine ⟨b-1-(p-a),1,reverseRange d a b,by omega,by omega,reverseRange_holds d a b (by omega) hb,fun β kr=> ?_⟩
  unfold yA
  rw[cond_true,afw (by omega) hb hs]
  simp (disch:=omega) only[Option.bind_some,V.aT,V.kO,kV,m9,wrap64]
 | false=>exact ⟨p,h,d,h1,U,permIn_refl _ _ _,fun β kr=>rfl⟩
theorem agH {d:Array XE} (fp:a+12<b) (hb:b≤d.size) (hs:d.size<1152921504606846976) (hB:Below aA a b d) (len p:Int) (t:Bool): ∃d1:Array XE,PermIn a b d d1∧
  ((∀(β:Type) (kr:((Bool × List V) ⊕ List V)→Option β),nf CC a b lim wb wp len p t (eA d) kr=kr (.inr (eA d1)))∨
  (SortedIn aA a b d1∧∀(β:Type) (kr:((Bool × List V) ⊕ List V)→Option β),nf CC a b lim wb wp len p t (eA d) kr=kr (.inl (true,eA d1)))):=by
 cases t with
 | true=>
  have hp:=partialInsertionSort_holds (lt:=aA) yB d a b (by omega) hb hB
  refine ⟨_,hp.1,?_⟩
  cases h:(partialInsertionSort aA d a b).2 with
  | true=>
   refine .inr ⟨hp.2 h,fun β kr=> ?_⟩
   unfold nf
   rw[cond_true,Uw (by omega) hb hs,h]
   rfl
  | false=>
   refine .inl fun β kr=> ?_
   unfold nf
   rw[cond_true,Uw (by omega) hb hs,h]
   rfl
 | false=>exact ⟨d,permIn_refl _ _ _,.inl fun β kr=>rfl⟩
end
def GQ (a b:Nat) (d:Array XE):Prop:= ∀(lim:Int) (wb wp:Bool),∃R,Loop (UQ CC) ((a:Int),(b:Int),lim,wb,wp,eA d)=some (eA R)∧PermIn a b d R∧SortedIn aA a b R
theorem GQ.call {a b:Nat} {d:Array XE} (h:GQ a b d) (lim:Int): ∃R,CC gP [.int .i64 (a:Int),.int .i64 (b:Int),.int .i64 lim,.list aa (eA d)]=some [.list aa (eA R)]∧PermIn a b d R∧SortedIn aA a b R:=by
 obtain ⟨R,e,h1,U⟩:=h lim true true
 refine ⟨R,agr ?_,h1,U⟩
 unfold US
 rw[e]
 rfl
theorem agI {a b p:Nat} {d:Array XE} (fp:a+12<b) (hb:b≤d.size) (hs:d.size<1152921504606846976) (hB:Below aA a b d) (h1:a≤p) (U:p<b)
  (ih: ∀(a2 b2:Nat) (d2:Array XE),b2-a2<b-a→a2≤b2→b2≤d2.size→d2.size<1152921504606846976→Below aA a2 b2 d2→GQ a2 b2 d2) (wb wp:Bool) (lim:Int):
  ∃(a2 b2:Nat) (vy vz:Bool) (d2:Array XE),b2-a2<b-a∧a2≤b2∧b2≤d2.size∧d2.size<1152921504606846976∧Below aA a2 b2 d2∧
   (∀R,PermIn a2 b2 d2 R→SortedIn aA a2 b2 R→PermIn a b d R∧SortedIn aA a b R)∧
   ∀(β:Type) (kn:(Int × Int × Int × Bool × Bool × (List V))→Option β),te CC a b wb wp lim p (eA d) kn=kn ((a2:Int),(b2:Int),lim,vy,vz,eA d2):=by
 have part: ∃(a2 b2:Nat) (vy vz:Bool) (d2:Array XE),b2-a2<b-a∧a2≤b2∧b2≤d2.size∧d2.size<1152921504606846976∧Below aA a2 b2 d2∧
   (∀R,PermIn a2 b2 d2 R→SortedIn aA a2 b2 R→PermIn a b d R∧SortedIn aA a b R)∧
   ∀(β:Type) (kn:(Int × Int × Int × Bool × Bool × (List V))→Option β),
    ((CC nV [.int .i64 (a:Int),.int .i64 (b:Int),.int .i64 (p:Int),.list aa (eA d)]).bind fun dR=>
        bif decide (((IntKind.wrap .i64 (((V.nth dR 0).toInt)-(a:Int))):Int)<(IntKind.wrap .i64 ((b:Int)-((V.nth dR 0).toInt)))) then
         (CC gP [.int .i64 (a:Int),.int .i64 ((V.nth dR 0).toInt),.int .i64 lim,.list aa ((V.nth (dR.drop 2) 0).toList)]).bind fun kj=>
         kn (IntKind.wrap .i64 (((V.nth dR 0).toInt)+1),(b:Int),lim,decide (((IntKind.wrap .i64 (((V.nth dR 0).toInt)-(a:Int))):Int)≥(IntKind.wrap .i64 (Int.tdiv (IntKind.wrap .i64 ((b:Int)-(a:Int))) 8))),(V.nth (dR.drop 1) 0).toBool,(V.nth kj 0).toList)
        else
         (CC gP [.int .i64 (IntKind.wrap .i64 (((V.nth dR 0).toInt)+1)),.int .i64 (b:Int),.int .i64 lim,.list aa ((V.nth (dR.drop 2) 0).toList)]).bind fun dO=>
         kn ((a:Int),(V.nth dR 0).toInt,lim,decide (((IntKind.wrap .i64 ((b:Int)-((V.nth dR 0).toInt))):Int)≥(IntKind.wrap .i64 (Int.tdiv (IntKind.wrap .i64 ((b:Int)-(a:Int))) 8))),(V.nth (dR.drop 1) 0).toBool,(V.nth dO 0).toList))=kn ((a2:Int),(b2:Int),lim,vy,vz,eA d2):=by
  obtain ⟨mid,ap,d4,hx⟩: ∃mid ap d4,partition aA d a b p=(mid,ap,d4):=⟨_,_,_,rfl⟩
  obtain ⟨g1,g2,ph,hBa,hBr,agJ,agK⟩:=round_part yB (partition_holds aA) h1 U hb hB hx
  have hc:=afX (a:=a) (b:=b) (pivot:=p) (d:=d) U (by omega) hb hs
  rw[hx] at hc
  by_cases hl:mid-a<b-mid
  ·obtain ⟨L,e,l1,l2⟩:=(ih a mid d4 (by omega) g1 (by rw[ph];omega) (by rw[ph];exact hs) hBa).call lim
   obtain ⟨MY,B6⟩:=agJ _ l1 l2
   refine ⟨mid+1,b,decide (((IntKind.wrap .i64 ((mid:Int)-(a:Int))):Int)≥(IntKind.wrap .i64 (Int.tdiv (IntKind.wrap .i64 ((b:Int)-(a:Int))) 8))),ap,L,by omega,by omega,by rw[l1.1,ph];exact hb,by rw[l1.1,ph];exact hs,MY,B6,fun β kn=> ?_⟩
   ·rw[hc]
    simp only[Option.bind_some,V.aT,V.rm,V.toInt_int,V.ee,V.kO,la,jy]
    rw[az,aj (by rw[m9 g1,m9 (by omega),wrap64 (by omega) (by omega),wrap64 (by omega) (by omega)];omega),e]
    simp only[Option.bind_some,V.aT,V.kO]
    rw[dP,wrap64 (x:=((mid+1:Nat):Int)) (by omega) (by omega)]
  ·obtain ⟨L,e,l1,l2⟩:=(ih (mid+1) b d4 (by omega) (by omega) (by rw[ph];exact hb) (by rw[ph];exact hs) hBr).call lim
   obtain ⟨MY,B6⟩:=agK _ l1 l2
   refine ⟨a,mid,decide (((IntKind.wrap .i64 ((b:Int)-(mid:Int))):Int)≥(IntKind.wrap .i64 (Int.tdiv (IntKind.wrap .i64 ((b:Int)-(a:Int))) 8))),ap,L,by omega,by omega,by rw[l1.1,ph];omega,by rw[l1.1,ph];exact hs,MY,B6,fun β kn=> ?_⟩
   ·rw[hc]
    simp only[Option.bind_some,V.aT,V.rm,V.toInt_int,V.ee,V.kO,la,jy]
    rw[az,ai (by rw[m9 g1,m9 (by omega),wrap64 (by omega) (by omega),wrap64 (by omega) (by omega)];omega),dP,wrap64 (x:=((mid+1:Nat):Int)) (by omega) (by omega),e]
    simp only[Option.bind_some,V.aT,V.kO]
 by_cases ha:0<a
 ·by_cases hc:b8 d[a-1]! d[p]! <0
  ·obtain ⟨a2,b2,vy,vz,d2,q1,q2,q3,q4,q5,q6,q7⟩:=part
   refine ⟨a2,b2,vy,vz,d2,q1,q2,q3,q4,q5,q6,fun β kn=> ?_⟩
   rw[←q7 β kn]
   unfold te
   rw[az,aj (by omega),kV ha,wrap64 (by omega) (by omega),kX (i:=a-1) (by omega),kY (by omega),kX (i:=p) (by omega),kY (by omega)]
   simp only[XE.aW,XE.bc,XE.a9,gT,Option.bind_some,V.aT,V.toInt_int]
   rw[ig,az,aj hc]
  ·obtain ⟨mid,d4,hx⟩: ∃mid d4,partitionEqual aA d a b p=(mid,d4):=⟨_,_,rfl⟩
   obtain ⟨g1,Iu,ph,hB4,B6⟩:=round_eq yB (partitionEqual_holds aA) ha h1 U hb hB (by rw[GM,←propext (agt _ _)];exact hc) hx
   have he:=afZ (a:=a) (b:=b) (pivot:=p) (d:=d) U (by omega) hb hs
   rw[hx] at he
   refine ⟨mid,b,wb,wp,d4,by omega,Iu,by rw[ph];exact hb,by rw[ph];exact hs,hB4,B6,fun β kn=> ?_⟩
   unfold te
   rw[az,aj (by omega),kV ha,wrap64 (by omega) (by omega),kX (i:=a-1) (by omega),kY (by omega),kX (i:=p) (by omega),kY (by omega)]
   simp only[XE.aW,XE.bc,XE.a9,gT,Option.bind_some,V.aT,V.toInt_int]
   rw[ig,az,ai hc,he]
   rfl
 ·obtain ⟨a2,b2,vy,vz,d2,q1,q2,q3,q4,q5,q6,q7⟩:=part
  refine ⟨a2,b2,vy,vz,d2,q1,q2,q3,q4,q5,q6,fun β kn=> ?_⟩
  rw[←q7 β kn]
  unfold te
  rw[az,ai (by omega)]
theorem agL: ∀(n a b:Nat) (d:Array XE),b-a≤n→a≤b→b≤d.size→d.size<1152921504606846976→Below aA a b d→GQ a b d:=by
 intro n
 induction n with
 | zero=>
  intro a b d hn fp hb hs hB lim wb wp
  have hi:=insertionSort_holds (lt:=aA) yB d a b fp hb
  refine ⟨_,aS ?_,hi⟩
  show qe CC a b lim wb wp (eA d) (fun y=>some (Sum.inl y)) (fun r=>some (Sum.inr r))=_
  rw[GP,az,aj (by rw[m9 fp,wrap64 (by omega) (by omega)];omega),Uf hb hs (by omega)]
  rfl
 | succ n ih=>
  intro a b d hn fp hb hs hB lim wb wp
  by_cases h12:b-a≤12
  ·have hi:=insertionSort_holds (lt:=aA) yB d a b fp hb
   refine ⟨_,aS ?_,hi⟩
   show qe CC a b lim wb wp (eA d) (fun y=>some (Sum.inl y)) (fun r=>some (Sum.inr r))=_
   rw[GP,az,aj (by rw[m9 fp,wrap64 (by omega) (by omega)];omega),Uf hb hs (by omega)]
   rfl
  ·have B7:a+12<b:=by omega
   have sK: ¬(((IntKind.wrap .i64 ((b:Int)-(a:Int))):Int)≤12):=by rw[m9 fp,wrap64 (by omega) (by omega)];omega
   by_cases h0:lim=0
   ·have hi:=heapSort_holds (lt:=aA) yB d a b fp hb
    refine ⟨_,aS ?_,hi⟩
    show qe CC a b lim wb wp (eA d) (fun y=>some (Sum.inl y)) (fun r=>some (Sum.inr r))=_
    rw[GP,az,ai sK,df,aj h0,afu (by omega) hb hs]
    rfl
   ·obtain ⟨l1,d1,s1,k1⟩:=agF (lim:=lim) (wb:=wb) (wp:=wp) B7 hb hs (IntKind.wrap .i64 ((b:Int)-(a:Int))) (!wb)
    have b1:b≤d1.size:=by rw[s1.1];exact hb
    have z1:d1.size<1152921504606846976:=by rw[s1.1];exact hs
    obtain ⟨p,h,c1,p1,p2⟩:=agy B7 b1 z1
    obtain ⟨q,U,d2,q1,q2,s2,k2⟩:=agG (lim:=l1) (wb:=wb) (wp:=wp) B7 b1 z1 (IntKind.wrap .i64 ((b:Int)-(a:Int))) h (h==2) p1 p2
    have b2:b≤d2.size:=by rw[s2.1];exact b1
    have z2:d2.size<1152921504606846976:=by rw[s2.1];exact z1
    have B2:Below aA a b d2:=(hB.perm hb s1).perm b1 s2
    obtain ⟨t,ht⟩: ∃t:Bool,t=(bif wb then (bif wp then (U==1) else false) else false):=⟨_,rfl⟩
    obtain ⟨d3,s3,k3⟩:=agH (lim:=l1) (wb:=wb) (wp:=wp) B7 b2 z2 B2 (IntKind.wrap .i64 ((b:Int)-(a:Int))) (q:Int) t
    have b3:b≤d3.size:=by rw[s3.1];exact b2
    have z3:d3.size<1152921504606846976:=by rw[s3.1];exact z2
    have B3:Below aA a b d3:=B2.perm b2 s3
    have P3:PermIn a b d d3:=permIn_trans _ _ _ a b (permIn_trans _ _ _ a b s1 s2) s3
    have step: ∀(β:Type) (kn:(Int × Int × Int × Bool × Bool × (List V))→Option β) (kr:(List V)→Option β),qe CC a b lim wb wp (eA d) kn kr=
      nf CC a b l1 wb wp (IntKind.wrap .i64 ((b:Int)-(a:Int))) (q:Int) t (eA d2) (bV (un fun (L5:Bool) (MX:List V)=>kr MX) (fun (na:List V)=>te CC a b wb wp l1 q na kn)):=by
     intro β kn kr
     rw[GP,az,ai sK,df,ai h0,k1]
     simp only[un]
     rw[c1]
     simp only[Option.bind_some,V.aT,V.rm,V.toInt_int,la,jy]
     rw[k2]
     simp only[un]
     rw[ht]
     cases wb
     ·rfl
     ·cases wp
      ·rfl
      ·rfl
    rcases k3 with k3|⟨k3s,k3⟩
    ·obtain ⟨a4,b4,wb4,wp4,d4,r1,r2,r3,r4,r5,r6,r7⟩:=agI B7 b3 z3 B3 q1 q2 (fun a2 b2 d2 aN h1 U h3 h4=>ih a2 b2 d2 (by omega) h1 U h3 h4) wb wp l1
     obtain ⟨R,e,e1,e2⟩:=ih a4 b4 d4 (by omega) r2 r3 r4 r5 l1 wb4 wp4
     obtain ⟨f1,f2⟩:=r6 R e1 e2
     refine ⟨R,(bJ ?_).trans e,permIn_trans _ _ _ a b P3 f1,f2⟩
     show qe CC a b lim wb wp (eA d) (fun y=>some (Sum.inl y)) (fun r=>some (Sum.inr r))=_
     rw[step,k3]
     exact r7 _ (fun y=>some (Sum.inl y))
    ·refine ⟨d3,aS ?_,P3,k3s⟩
     show qe CC a b lim wb wp (eA d) (fun y=>some (Sum.inl y)) (fun r=>some (Sum.inr r))=_
     rw[step,k3]
     rfl
theorem agM (l:List XE) (hs:l.length<1152921504606846976): ∃R:List XE,CC AY [.list aa (l.map XE.enc)]=some [.list aa (R.map XE.enc)]∧R.Perm l∧R.Pairwise (fun x y=> ¬y.lt x):=by
 obtain ⟨L,e1,_⟩:=UX (x:=l.length) (by omega)
 obtain ⟨R,e2,h1,U⟩:=(agL _ 0 l.toArray.size l.toArray (b9 _) (k0 _) (b9 _) (by simpa using hs) (.inl rfl)).call (L:Int)
 have ba:R.size=l.length:=by rw[h1.1];simp
 refine ⟨R.toList,ags ?_,?_,?_⟩
 ·unfold UT
  rw[aL,Bg (A:=l.length) (by omega),e1]
  simp only[Option.bind_some,V.aT,V.toInt_int]
  have e3:eA l.toArray=l.map XE.enc:=by simp[qa]
  rw[e3,show ((l.toArray.size:Nat):Int)=(l.length:Int) by simp,show ((0:Nat):Int)=0 from rfl] at e2
  rw[e2]
  rfl
 ·have h3:=h1.2.2
  rw[show l.toArray.size=R.size from h1.1.symm,Array.extract_size,h1.1,Array.extract_size] at h3
  exact h3
 ·rw[Dg]
  intro i j hi hj ur
  have h3:=U i j (k0 _) ur (by simpa[←ba] using hj)
  rw[GM] at h3
  have eb:i<R.size:=by simpa using hi
  have gM:j<R.size:=by simpa using hj
  rw[getElem!_pos R i eb,getElem!_pos R j gM] at h3
  simpa using h3
end Go.AM.SX
set_option maxRecDepth 100000
namespace Go.AM
open Go.Proofs
noncomputable abbrev GR:Code:=cF Try.prog (ay.aV 106)
noncomputable def yD (C:ag) (B8 vA:Nat) (k' kZ:Int) (ss:List V) {β:Type} (kn:(Int × Int × (List V))→Option β) (kr:(Int × Int × Bool × (List V))→Option β):Option β:=
 bif decide ((kZ:Int)<(vA:Int)) then
  bif (decide (0≤kZ))&&(decide (kZ<(vA:Int))) then
  (ss[B8+((kZ:Int).toNat)]?).bind fun x4=>
  bif (decide (0≤(IntKind.wrap .i64 (kZ-1))))&&(decide ((IntKind.wrap .i64 (kZ-1))<(vA:Int))) then
   (ss[B8+((IntKind.wrap .i64 (kZ-1):Int).toNat)]?).bind fun x5=>
   (C p6 [.int .i64 ((x4.cell 0).toInt),.int .i64 ((x4.cell 1).toInt),.list aa ((x4.cell 2).toList),.int .i64 ((x5.cell 0).toInt),.int .i64 ((x5.cell 1).toInt),.list aa ((x5.cell 2).toList)]).bind fun r6=>
   bif !((V.nth r6 0).toBool) then
   bif (decide (0≤kZ))&&(decide (kZ<(vA:Int))) then
    (ss[B8+((kZ:Int).toNat)]?).bind fun x7=>
    bif (decide (0≤k'))&&(decide (k'<(ss.length:Int))) then
    (ss[(k':Int).toNat]?).bind fun x8=>
    kn (IntKind.wrap .i64 (k'+1),IntKind.wrap .i64 (kZ+1),ss.set ((k':Int).toNat) (.agg [.int .i64 ((x7.cell 0).toInt),.int .i64 ((x7.cell 1).toInt),.list aa ((x7.cell 2).toList)]))
    else none
   else none
   else
   kn (k',IntKind.wrap .i64 (kZ+1),ss)
  else none
  else none
 else
  kr (k',kZ,decide ((kZ:Int)<(vA:Int)),ss)
noncomputable def vB (C:ag) (B8 vA:Nat):(Int × Int × (List V))→Option ((Int × Int × (List V)) ⊕ (Int × Int × Bool × (List V))):=un fun k'=>un fun kZ ss=>yD C B8 vA k' kZ ss (fun y=>some (.inl y)) (fun r=>some (.inr r))
noncomputable def yE (C:ag) (ss:List V) (k':Int) {β:Type} (kn:Int→Option β) (kr:((List V) ⊕ (Int × Bool))→Option β):Option β:=
 bif decide ((k':Int)<(ss.length:Int)) then
  bif (decide (0≤k'))&&(decide (k'<(ss.length:Int))) then
  (ss[(k':Int).toNat]?).bind fun x1=>
  bif (decide (0≤(IntKind.wrap .i64 (k'-1))))&&(decide ((IntKind.wrap .i64 (k'-1))<(ss.length:Int))) then
   (ss[(IntKind.wrap .i64 (k'-1):Int).toNat]?).bind fun x2=>
   (C p6 [.int .i64 ((x1.cell 0).toInt),.int .i64 ((x1.cell 1).toInt),.list aa ((x1.cell 2).toList),.int .i64 ((x2.cell 0).toInt),.int .i64 ((x2.cell 1).toInt),.list aa ((x2.cell 2).toList)]).bind fun r3=>
   bif (V.nth r3 0).toBool then
   bif (decide (0≤k'))&&(decide (k'≤(ss.length:Int))) then
    (Loop (vB C ((k':Int).toNat) (ss.length-((k':Int).toNat))) (k',1,ss)).bind (un fun (ng:Int)=>un fun (alS:Int)=>un fun (F9:Bool) (rI:List V)=>
     bif (decide (0≤ng))&&(decide (ng≤(rI.length:Int))) then
     bif (decide (0≤ng))&&(decide (ng≤((rI.take ((ng:Int).toNat)++(List.replicate (rI.length-((ng:Int).toNat)) (V.agg [.int .i64 0,.int .i64 0,.list aa ([]:List V)])++rI.drop (((ng:Int).toNat)+(rI.length-((ng:Int).toNat))))).length:Int))) then
      kr (.inl ((rI.take ((ng:Int).toNat)++(List.replicate (rI.length-((ng:Int).toNat)) (V.agg [.int .i64 0,.int .i64 0,.list aa ([]:List V)])++rI.drop (((ng:Int).toNat)+(rI.length-((ng:Int).toNat))))).take ((ng:Int).toNat)))
     else none
     else none)
   else none
   else
   kn (IntKind.wrap .i64 (k'+1))
  else none
  else none
 else
  kr (.inr (k',decide ((k':Int)<(ss.length:Int))))
noncomputable def vC (C:ag) (ss:List V):(Int)→Option ((Int) ⊕ ((List V) ⊕ (Int × Bool))):=fun k'=>yE C ss k' (fun y=>some (.inl y)) (fun r=>some (.inr r))
noncomputable def UY (C:ag):ct:=fun β n ds k=>
 bif Nat.beq n 145 then bW Lj [true,false,false,true,true] [[0,2,3,0,0,0]] (@yD C) ds k else
 bif Nat.beq n 65 then bW Lk [true,false] [[0],[0,0,2]] (@yE C) ds k else
 none
abbrev UZ (C:ag) (b:cq):Prop:=cr Try.prog ay C (UY C) 106 (cK Try.prog (ay.aV 106)) (ay.sin 106).bj.length b
theorem agN (C:ag):UZ C (.loop (av [1,1,0,1,0,0,1,0,0,1,0,1,0,1,0,0] GR)):=
 bY Lj [true,false,false,true,true] [[0,2,3,0,0,0]] (@yD C) (by kernel_rfl) (aZ (bs:=[]) (by kernel_rfl) aw) (fun ds=>by kernel_rfl) (fun i x=>by kernel_rfl) (fun i x β k=>by kernel_rfl) (fun β ds k=>by kernel_rfl)
theorem agO (C:ag):UZ C (.loop (av [1,1,0,1,0,0] GR)):=
 bY Lk [true,false] [[0],[0,0,2]] (@yE C) (by kernel_rfl) (aZ (bs:=[.loop (av [1,1,0,1,0,0,1,0,0,1,0,1,0,1,0,0] GR)]) (by kernel_rfl) (bu (agN C) aw)) (fun ds=>by kernel_rfl) (fun i x=>by kernel_rfl) (fun i x β k=>by kernel_rfl) (fun β ds k=>by kernel_rfl)
noncomputable def GS (C:ag) (ss:List V):Option (List V):=
 bif decide (((ss.length:Int):Int)<2) then
  some [V.bool true,.list aa ss]
 else
  (Loop (vC C ss) 1).bind (bV (fun (agP:List V)=>
   some [V.bool false,.list aa agP]) (un fun (alT:Int) (p8:Bool)=>
   some [V.bool true,.list aa ss]))
theorem MZ {ss:List V} {r:Option (List V)} (h:GS CC ss=r):CC FF [.list aa ss]=r:=
 bh (key:=106) (L:=UY CC) (bs:=[.loop (av [1,1,0,1,0,0] GR)]) (by kernel_rfl) (bu (agO CC) aw) (bd (by kernel_rfl) h)
noncomputable def U0 (C:ag) (gR:List V):Option (List V):=
 (C AY [.list aa gR]).bind fun r1=>
 (C FF [.list aa ((V.nth r1 0).toList)]).bind fun r2=>
 bif (V.nth r2 0).toBool then
  some [V.bool true,.list aa ((V.nth (r2.drop 1) 0).toList)]
 else
  some [V.bool false,.list aa ((V.nth (r2.drop 1) 0).toList)]
theorem agQ {gR:List V} {r:Option (List V)} (h:U0 CC gR=r):CC uU [.list aa gR]=r:=
 bh (key:=98) (L:=cw) (bs:=[]) (by kernel_rfl) aw (bd (by kernel_rfl) h)
noncomputable def U1 (C:ag) (eG ep:Int) (er:List V) (eH eI:Int) (eN:List V):Option (List V):=
 (C bn [.int .i64 eG,.int .i64 ep,.list aa er,.int .i64 eH,.int .i64 eI,.list aa eN]).bind fun r1=>
 some [.bool ((((V.nth r1 0).toInt):Int)==0)]
theorem agR {eG ep:Int} {er:List V} {eH eI:Int} {eN:List V} {r:Option (List V)} (h:U1 CC eG ep er eH eI eN=r):CC p6 [.int .i64 eG,.int .i64 ep,.list aa er,.int .i64 eH,.int .i64 eI,.list aa eN]=r:=
 bh (key:=107) (L:=cw) (bs:=[]) (by kernel_rfl) aw (bd (by kernel_rfl) h)
end Go.AM
set_option maxRecDepth 100000
namespace Go.AM
open Go.Proofs Ex
def ot (prev:Ex):List Ex→List Ex
 | []=>[]
 | x::l=>if cmp x prev=0 then ot x l else x::ot x l
def jw:List Ex→List Ex
 | []=>[]
 | x::l=>x::ot x l
theorem U2: ∀(m:List Ex) (prev x:Ex),ot prev (m++[x])=ot prev m++(if cmp x ((prev::m).getD m.length aR)=0 then [] else [x])
 | [],prev,x=>by simp only[List.nil_append,ot,List.length_nil,zk]
 | y::m,prev,x=>by
  have ih:=U2 m y x
  simp only[List.cons_append,ot,List.length_cons,List.getD_cons_succ]
  split
  ·exact ih
  ·rw[ih];rfl
theorem U3 {l:List Ex} {p:Nat} (h1:1≤p) (U:p<l.length):jw (l.take (p+1))=jw (l.take p)++(if cmp (l.getD p aR) (l.getD (p-1) aR)=0 then [] else [l.getD p aR]):=by
 match l,p,h1,U with
 | y::l,p+1,_,U=>
  simp only[List.length_cons] at U
  rw[List.take_succ_cons,List.take_succ_cons,jw,jw,lD (by omega),U2]
  simp only[List.getD_cons_succ,fe,vM]
  rw[show min p l.length=p by omega]
  have:(y::l.take p).getD p aR=(y::l).getD p aR:=by
   match p with
   | 0=>rfl
   | q+1=>simp only[List.getD_cons_succ];rw[gl,gl,fc (by omega)]
  rw[this];rfl
theorem U4: ∀(m:List Ex) (prev:Ex),(prev::m).Pairwise (fun x y=> ¬y.lx x)→j9 (prev::ot prev m)∧∀x,x∈prev::ot prev m↔x∈prev::m
 | [],prev,_=>⟨by simp[ot],by simp[ot]⟩
 | y::m,prev,h=>by
  have h1:=tC.1 h
  obtain ⟨i1,i2⟩:=U4 m y h1.2
  rw[ot]
  by_cases hc:cmp y prev=0
  ·rw[aj hc]
   have:=va _ _ hc
   subst this
   refine ⟨i1,fun x=> ?_⟩
   rw[i2 x];simp
  ·rw[ai hc]
   have aN:prev.lx y:=by
    by_cases U:prev.lx y
    ·exact U
    ·exact absurd (Ex.S9 U (h1.1 y (by simp))) fun e=>hc (by rw[e];exact Bl _)
   refine ⟨tC.2 ⟨fun x hx=> ?_,i1⟩,fun x=> ?_⟩
   ·rcases dx.1 hx with rfl|hx
    ·exact aN
    ·exact Ex.Md aN ((tC.1 i1).1 x hx)
   ·rw[dx,i2 x,←dx]
theorem agS {l:List Ex} (h:l.Pairwise (fun x y=> ¬y.lx x)):j9 (jw l)∧∀x,x∈jw l↔x∈l:=by
 match l,h with
 | [],_=>exact ⟨List.Pairwise.nil,fun _=>Iff.rfl⟩
 | y::l,h=>exact U4 l y h
theorem U5 (a:Ex) (ha:a.Ok) (b:Ex) (hb:b.Ok):CC p6 (bS a (bS b []))=some [.bool (decide (cmp a b=0))]:=by
 refine agR ?_
 unfold U1
 refine (congrArg (fun o=>Option.bind o _) (S0 a ha b hb)).trans ?_
 simp only[Option.bind_some,V.aT,V.toInt_int]
 rw[Gm]
section
variable {l:List Ex} (hn:l.length≤1000000) (au: ∀k∈l,k.Ok)
include hn au
theorem agT {k:Nat}: ∀(d k2 i:Nat) (ss:List Ex),k+k2+d=l.length→1≤k2→i+1≤k+k2→ss.length=l.length→ss.take i=jw (l.take (k+k2))→ss.drop (k+k2-1)=l.drop (k+k2-1)→
  ∃t u fh,Loop (vB CC k (l.length-k)) ((i:Int),(k2:Int),ss.map enc)=some (((jw l).length:Int),u,t,List.map enc fh)∧fh.take (jw l).length=jw l∧fh.length=l.length:=by
 intro d
 induction d with
 | zero=>
  intro k2 i ss hj mS hi hl ht hd
  have e0:l.take (k+k2)=l:=zj (by omega)
  rw[e0] at ht
  have hZ:i=(jw l).length:=by rw[←ht,fe];omega
  refine ⟨false,(k2:Int),ss,aS ?_,by rw[←hZ];exact ht,hl⟩
  simp only[vB,yD,un,aL,az]
  rw[ai (by omega),b7 (by omega),hZ]
 | succ d ih=>
  intro k2 i ss hj mS hi hl ht hd
  have hp:k+k2<l.length:=by omega
  have jf:ss.drop (k+k2)=l.drop (k+k2):=by
   have h:=congrArg (List.drop 1) hd
   rw[qs,qs] at h
   rwa [show k+k2-1+1=k+k2 by omega] at h
  have g1:=Bx hl jf hp
  have g0:=Bx hl hd (show k+k2-1<l.length by omega)
  have x1:(ss.map enc)[k+k2]? =some (l.getD (k+k2) aR).enc:=by rw[pb (by omega),g1]
  have x0:(ss.map enc)[k+(k2-1)]? =some (l.getD (k+k2-1) aR).enc:=by rw[show k+(k2-1)=k+k2-1 by omega,pb (by omega),g0]
  have w1:IntKind.wrap .i64 ((k2:Int)-1)=((k2-1:Nat):Int):=by rw[wrap64 (by omega) (by omega)];omega
  have t1:((k2:Nat):Int)<((l.length-k:Nat):Int):=by omega
  have t2:(0:Int)≤((k2:Nat):Int):=by omega
  have t3:(0:Int)≤((k2-1:Nat):Int):=by omega
  have t4:((k2-1:Nat):Int)<((l.length-k:Nat):Int):=by omega
  have t5:((i:Nat):Int)<(ss.length:Int):=by omega
  have t6:(0:Int)≤((i:Nat):Int):=by omega
  have bI: ∃y,(ss.map enc)[i]? =some y:=⟨_,pb (by omega)⟩
  obtain ⟨y,hy⟩:=bI
  have co:=U5 (l.getD (k+k2) aR) (xS au hp) (l.getD (k+k2-1) aR) (xS au (by omega))
  have cs:=U3 (l:=l) (p:=k+k2) (by omega) hp
  by_cases he:cmp (l.getD (k+k2) aR) (l.getD (k+k2-1) aR)=0
  ·have bQ:vB CC k (l.length-k) ((i:Int),(k2:Int),ss.map enc)=some (.inl ((i:Int),((k2+1:Nat):Int),ss.map enc)):=by
    simp only[vB,yD,un,aL,az,cY,w1,t1,t2,t3,t4,cO,Int.toNat_natCast,x1,x0,Option.bind_some,aW,bc,a9]
    refine (congrArg (fun o=>Option.bind o _) co).trans ?_
    simp only[Option.bind_some,V.aT,V.ee]
    rw[dr he,qq,cond_false,wrap64 (by omega) (by omega)]
    rfl
   rw[bJ bQ]
   refine ih (k2+1) i ss (by omega) (by omega) (by omega) hl ?_ (by rw[show k+(k2+1)-1=k+k2 by omega];exact jf)
   rw[show k+(k2+1)=k+k2+1 by omega,cs,aj he,cR,ht]
  ·have bQ:vB CC k (l.length-k) ((i:Int),(k2:Int),ss.map enc)=some (.inl (((i+1:Nat):Int),((k2+1:Nat):Int),(ss.set i (l.getD (k+k2) aR)).map enc)):=by
    simp only[vB,yD,un,aL,az,cY,w1,t1,t2,t3,t4,t5,t6,cO,Int.toNat_natCast,x1,x0,hy,Option.bind_some,aW,bc,a9]
    refine (congrArg (fun o=>Option.bind o _) co).trans ?_
    simp only[Option.bind_some,V.aT,V.ee]
    rw[b7 he,tD,cond_true,wrap64 (by omega) (by omega),wrap64 (by omega) (by omega),←dg,zl]
    rfl
   rw[bJ bQ]
   refine ih (k2+1) (i+1) (ss.set i (l.getD (k+k2) aR)) (by omega) (by omega) (by omega) (by simpa using hl) ?_ ?_
   ·rw[lD (by rw[oz];omega),Dj (b9 i),ht,show k+(k2+1)=k+k2+1 by omega,cs,ai he]
    simp[show i<ss.length by omega]
   ·rw[show k+(k2+1)-1=k+k2 by omega,Dk (by omega),jf]
theorem agU: ∀(d p:Nat),p+d=l.length→1≤p→jw (l.take p)=l.take p→
  (jw l=l∧∃t,Loop (vC CC (l.map enc)) (p:Int)=some (.inr t))∨Loop (vC CC (l.map enc)) (p:Int)=some (.inl ((jw l).map enc)):=by
 intro d
 induction d with
 | zero=>
  intro p hp h1 hc
  obtain rfl:p=l.length:=by omega
  rw[qo] at hc
  refine .inl ⟨hc,((l.length:Int),false),aS ?_⟩
  simp only[vC,yE,aL,az]
  rw[ai (by omega),b7 (by omega)]
 | succ d ih=>
  intro p hp h1 hc
  have bU:p<l.length:=by omega
  have cs:=U3 (l:=l) h1 bU
  have co:=U5 (l.getD p aR) (xS au bU) (l.getD (p-1) aR) (xS au (by omega))
  have x1:(l.map enc)[p]? =some (l.getD p aR).enc:=pb bU
  have x0:(l.map enc)[p-1]? =some (l.getD (p-1) aR).enc:=pb (by omega)
  have w1:IntKind.wrap .i64 ((p:Int)-1)=((p-1:Nat):Int):=by rw[wrap64 (by omega) (by omega)];omega
  have t1:((p:Nat):Int)<(l.length:Int):=by omega
  have t2:(0:Int)≤((p:Nat):Int):=by omega
  have t3:(0:Int)≤((p-1:Nat):Int):=by omega
  have t4:((p-1:Nat):Int)<(l.length:Int):=by omega
  have t5:((p:Nat):Int)≤(l.length:Int):=by omega
  by_cases he:cmp (l.getD p aR) (l.getD (p-1) aR)=0
  ·refine .inr (aS ?_)
   obtain ⟨t,u,fh,e1,e2,e3⟩:=agT hn au (k:=p) (l.length-(p+1)) 1 p l (by omega) (by omega) (by omega) rfl (by rw[cs,aj he,cR,hc]) rfl
   have hm:(jw l).length≤fh.length:=by
    have:=congrArg List.length e2
    rw[fe] at this
    omega
   have m1:(0:Int)≤(((jw l).length:Nat):Int):=by omega
   have m2:(((jw l).length:Nat):Int)≤((fh.map enc).length:Int):=by rw[aL];omega
   simp only[vC,yE,aL,az,cY,w1,t1,t2,t3,t4,t5,cO,Int.toNat_natCast,x1,x0,Option.bind_some,aW,bc,a9]
   refine (congrArg (fun o=>Option.bind o _) co).trans ?_
   simp only[Option.bind_some,V.aT,V.ee]
   rw[dr he,cond_true]
   refine (congrArg (fun o=>Option.bind o _) e1).trans ?_
   simp only[Option.bind_some,un,cY,az,Int.toNat_natCast]
   rw[aj m1,aj m2,aj m1,aj (by simp only[bZ,fe,tB,pw,aL];omega),Gw _ _ _ hm,e2]
  ·have bQ:vC CC (l.map enc) (p:Int)=some (.inl ((p+1:Nat):Int)):=by
    simp only[vC,yE,aL,az,cY,w1,t1,t2,t3,t4,cO,Int.toNat_natCast,x1,x0,Option.bind_some,aW,bc,a9]
    refine (congrArg (fun o=>Option.bind o _) co).trans ?_
    simp only[Option.bind_some,V.aT,V.ee]
    rw[b7 he,cond_false,wrap64 (by omega) (by omega)]
    rfl
   rw[bJ bQ]
   exact ih (p+1) (by omega) (by omega) (by rw[cs,ai he,hc,←lD bU])
theorem agV: ∃b,CC FF [.list aa (l.map enc)]=some [.bool b,.list aa ((jw l).map enc)]:=by
 by_cases U:l.length<2
 ·refine ⟨true,MZ ?_⟩
  unfold GS
  rw[aL,az,aj (by omega)]
  match l,U with
  | [],_=>rfl
  | [k],_=>rfl
 ·rcases agU hn au (l.length-1) 1 (by omega) (by omega) (by
   match l,U with
   | k::l,_=>rfl) with ⟨h3,t,h4⟩|h4
  ·refine ⟨true,MZ ?_⟩
   unfold GS
   rw[aL,az,ai (by omega)]
   refine (congrArg (fun o=>Option.bind o _) h4).trans ?_
   rw[h3];rfl
  ·refine ⟨false,MZ ?_⟩
   unfold GS
   rw[aL,az,ai (by omega)]
   refine (congrArg (fun o=>Option.bind o _) h4).trans ?_
   rfl
theorem agW: ∃R:List Ex,CC AY [.list aa (l.map enc)]=some [.list aa (R.map enc)]∧R.Perm l∧R.Pairwise (fun x y=> ¬y.lx x):=by
 have hx: ∃L:List SX.XE,L.map SX.XE.e=l:=by
  clear hn
  induction l with
  | nil=>exact ⟨[],rfl⟩
  | cons k l ih=>
   obtain ⟨L,hL⟩:=ih fun k hk=>au k (by simp[hk])
   exact ⟨⟨k,au k (by simp)⟩::L,by rw[cy,hL]⟩
 obtain ⟨L,rfl⟩:=hx
 have he: ∀L:List SX.XE,L.map SX.XE.enc=(L.map SX.XE.e).map enc:=fun L=>by rw[List.map_map];rfl
 obtain ⟨R,e1,h1,U⟩:=SX.agM L (by rw[aL] at hn;omega)
 refine ⟨R.map SX.XE.e,?_,h1.map _,List.pairwise_map.2 U⟩
 rw[←he,←he];exact e1
theorem U6: ∃b,CC uU [.list aa (l.map enc)]=some [.bool b,.list aa ((l.foldl dX []).map enc)]:=by
 obtain ⟨R,e1,h1,U⟩:=agW hn au
 obtain ⟨b,e2⟩:=agV (l:=R) (by rw[h1.length_eq];exact hn) fun k hk=>au k (h1.mem_iff.1 hk)
 obtain ⟨c1,c2⟩:=agS U
 have hc:jw R=l.foldl dX []:=Me c1 Gq fun x=>by rw[c2,xW,h1.mem_iff]
 rw[hc] at e2
 refine ⟨b,agQ ?_⟩
 unfold U0
 refine (congrArg (fun o=>Option.bind o _) e1).trans ?_
 simp only[Option.bind_some,V.aT,V.kO]
 refine (congrArg (fun o=>Option.bind o _) e2).trans ?_
 cases b<;>rfl
end
end Go.AM
set_option maxRecDepth 100000
namespace Go.AM
open Go.Proofs
noncomputable def U7 (C:ag) (kids:List V):Option (List V):=
 (C Ki [.list aa kids]).bind fun r1=>
 bif (V.nth r1 0).toBool then
  (C sR []).bind fun r2=>
  some [.int .i64 ((V.nth r2 0).toInt),.int .i64 ((V.nth (r2.drop 1) 0).toInt),.list aa ((V.nth (r2.drop 2) 0).toList)]
 else
  (C xx [.int .i64 4,.list aa kids]).bind fun r3=>
  (C FO [.list aa ((V.nth r3 0).toList)]).bind fun r4=>
  bif (V.nth r4 0).toBool then
  (C uU [.list aa ((V.nth (r4.drop 1) 0).toList)]).bind fun r5=>
  bif (V.nth r5 0).toBool then
   (C p5 []).bind fun r6=>
   (C mX [.int .i64 4,.list aa ((V.nth (r5.drop 1) 0).toList),.int .i64 ((V.nth r6 0).toInt),.int .i64 ((V.nth (r6.drop 1) 0).toInt),.list aa ((V.nth (r6.drop 2) 0).toList)]).bind fun r7=>
   some [.int .i64 ((V.nth r7 0).toInt),.int .i64 ((V.nth (r7.drop 1) 0).toInt),.list aa ((V.nth ((r7.drop 1).drop 1) 0).toList)]
  else
   (C p5 []).bind fun r8=>
   (C mX [.int .i64 4,.list aa ((V.nth (r5.drop 1) 0).toList),.int .i64 ((V.nth r8 0).toInt),.int .i64 ((V.nth (r8.drop 1) 0).toInt),.list aa ((V.nth (r8.drop 2) 0).toList)]).bind fun r9=>
   some [.int .i64 ((V.nth r9 0).toInt),.int .i64 ((V.nth (r9.drop 1) 0).toInt),.list aa ((V.nth ((r9.drop 1).drop 1) 0).toList)]
  else
  (C uU [.list aa ((V.nth (r4.drop 1) 0).toList)]).bind fun cN=>
  bif (V.nth cN 0).toBool then
   (C p5 []).bind fun eu=>
   (C mX [.int .i64 4,.list aa ((V.nth (cN.drop 1) 0).toList),.int .i64 ((V.nth eu 0).toInt),.int .i64 ((V.nth (eu.drop 1) 0).toInt),.list aa ((V.nth (eu.drop 2) 0).toList)]).bind fun gh=>
   some [.int .i64 ((V.nth gh 0).toInt),.int .i64 ((V.nth (gh.drop 1) 0).toInt),.list aa ((V.nth ((gh.drop 1).drop 1) 0).toList)]
  else
   (C p5 []).bind fun iM=>
   (C mX [.int .i64 4,.list aa ((V.nth (cN.drop 1) 0).toList),.int .i64 ((V.nth iM 0).toInt),.int .i64 ((V.nth (iM.drop 1) 0).toInt),.list aa ((V.nth (iM.drop 2) 0).toList)]).bind fun kb=>
   some [.int .i64 ((V.nth kb 0).toInt),.int .i64 ((V.nth (kb.drop 1) 0).toInt),.list aa ((V.nth ((kb.drop 1).drop 1) 0).toList)]
theorem agX {kids:List V} {r:Option (List V)} (h:U7 CC kids=r):CC Fz [.list aa kids]=r:=
 bh (key:=78) (L:=cw) (bs:=[]) (by kernel_rfl) aw (bd (by kernel_rfl) h)
noncomputable def U8 (C:ag) (kids:List V):Option (List V):=
 (C sP [.list aa kids]).bind fun r1=>
 bif (V.nth r1 0).toBool then
  (C p5 []).bind fun r2=>
  some [.int .i64 ((V.nth r2 0).toInt),.int .i64 ((V.nth (r2.drop 1) 0).toInt),.list aa ((V.nth (r2.drop 2) 0).toList)]
 else
  (C xx [.int .i64 5,.list aa kids]).bind fun r3=>
  (C FM [.list aa ((V.nth r3 0).toList)]).bind fun r4=>
  bif (V.nth r4 0).toBool then
  (C uT []).bind fun r5=>
  (C mX [.int .i64 5,.list aa ((V.nth (r4.drop 1) 0).toList),.int .i64 ((V.nth r5 0).toInt),.int .i64 ((V.nth (r5.drop 1) 0).toInt),.list aa ((V.nth (r5.drop 2) 0).toList)]).bind fun r6=>
  some [.int .i64 ((V.nth r6 0).toInt),.int .i64 ((V.nth (r6.drop 1) 0).toInt),.list aa ((V.nth ((r6.drop 1).drop 1) 0).toList)]
  else
  (C uT []).bind fun r7=>
  (C mX [.int .i64 5,.list aa ((V.nth (r4.drop 1) 0).toList),.int .i64 ((V.nth r7 0).toInt),.int .i64 ((V.nth (r7.drop 1) 0).toInt),.list aa ((V.nth (r7.drop 2) 0).toList)]).bind fun r8=>
  some [.int .i64 ((V.nth r8 0).toInt),.int .i64 ((V.nth (r8.drop 1) 0).toInt),.list aa ((V.nth ((r8.drop 1).drop 1) 0).toList)]
theorem agY {kids:List V} {r:Option (List V)} (h:U8 CC kids=r):CC FA [.list aa kids]=r:=
 bh (key:=79) (L:=cw) (bs:=[]) (by kernel_rfl) aw (bd (by kernel_rfl) h)
noncomputable def U9 (C:ag) (kids:List V):Option (List V):=
 (C sP [.list aa kids]).bind fun r1=>
 bif (V.nth r1 0).toBool then
  (C p5 []).bind fun r2=>
  some [.int .i64 ((V.nth r2 0).toInt),.int .i64 ((V.nth (r2.drop 1) 0).toInt),.list aa ((V.nth (r2.drop 2) 0).toList)]
 else
  (C xx [.int .i64 6,.list aa kids]).bind fun r3=>
  (C xw [.list aa ((V.nth r3 0).toList)]).bind fun r4=>
  bif (V.nth r4 0).toBool then
  (C uU [.list aa ((V.nth (r4.drop 1) 0).toList)]).bind fun r5=>
  bif (V.nth r5 0).toBool then
   (C sR []).bind fun r6=>
   (C mX [.int .i64 6,.list aa ((V.nth (r5.drop 1) 0).toList),.int .i64 ((V.nth r6 0).toInt),.int .i64 ((V.nth (r6.drop 1) 0).toInt),.list aa ((V.nth (r6.drop 2) 0).toList)]).bind fun r7=>
   some [.int .i64 ((V.nth r7 0).toInt),.int .i64 ((V.nth (r7.drop 1) 0).toInt),.list aa ((V.nth ((r7.drop 1).drop 1) 0).toList)]
  else
   (C sR []).bind fun r8=>
   (C mX [.int .i64 6,.list aa ((V.nth (r5.drop 1) 0).toList),.int .i64 ((V.nth r8 0).toInt),.int .i64 ((V.nth (r8.drop 1) 0).toInt),.list aa ((V.nth (r8.drop 2) 0).toList)]).bind fun r9=>
   some [.int .i64 ((V.nth r9 0).toInt),.int .i64 ((V.nth (r9.drop 1) 0).toInt),.list aa ((V.nth ((r9.drop 1).drop 1) 0).toList)]
  else
  (C uU [.list aa ((V.nth (r4.drop 1) 0).toList)]).bind fun cN=>
  bif (V.nth cN 0).toBool then
   (C sR []).bind fun eu=>
   (C mX [.int .i64 6,.list aa ((V.nth (cN.drop 1) 0).toList),.int .i64 ((V.nth eu 0).toInt),.int .i64 ((V.nth (eu.drop 1) 0).toInt),.list aa ((V.nth (eu.drop 2) 0).toList)]).bind fun gh=>
   some [.int .i64 ((V.nth gh 0).toInt),.int .i64 ((V.nth (gh.drop 1) 0).toInt),.list aa ((V.nth ((gh.drop 1).drop 1) 0).toList)]
  else
   (C sR []).bind fun iM=>
   (C mX [.int .i64 6,.list aa ((V.nth (cN.drop 1) 0).toList),.int .i64 ((V.nth iM 0).toInt),.int .i64 ((V.nth (iM.drop 1) 0).toInt),.list aa ((V.nth (iM.drop 2) 0).toList)]).bind fun kb=>
   some [.int .i64 ((V.nth kb 0).toInt),.int .i64 ((V.nth (kb.drop 1) 0).toInt),.list aa ((V.nth ((kb.drop 1).drop 1) 0).toList)]
theorem agZ {kids:List V} {r:Option (List V)} (h:U9 CC kids=r):CC FB [.list aa kids]=r:=
 bh (key:=80) (L:=cw) (bs:=[]) (by kernel_rfl) aw (bd (by kernel_rfl) h)
noncomputable def M0 (C:ag) (op:Int) (kids:List V):Option (List V):=
 bif (op:Int)==4 then
  (C Fz [.list aa kids]).bind fun r1=>
  some [.int .i64 ((V.nth r1 0).toInt),.int .i64 ((V.nth (r1.drop 1) 0).toInt),.list aa ((V.nth ((r1.drop 1).drop 1) 0).toList)]
 else
  bif (op:Int)==5 then
  (C FA [.list aa kids]).bind fun r2=>
  some [.int .i64 ((V.nth r2 0).toInt),.int .i64 ((V.nth (r2.drop 1) 0).toInt),.list aa ((V.nth ((r2.drop 1).drop 1) 0).toList)]
  else
  bif (op:Int)==6 then
   (C FB [.list aa kids]).bind fun r3=>
   some [.int .i64 ((V.nth r3 0).toInt),.int .i64 ((V.nth (r3.drop 1) 0).toInt),.list aa ((V.nth ((r3.drop 1).drop 1) 0).toList)]
  else
   bif ((kids.length:Int):Int) != 1 then
   some [.int .i64 0,.int .i64 0,.list aa ([]:List V)]
   else
   (kids[0]?).bind fun x4=>
   bif (op:Int)==8 then
    bif (((x4.cell 0).toInt):Int)==8 then
    bif ((((x4.cell 2).toList).length:Int):Int)==1 then
     (((x4.cell 2).toList)[0]?).bind fun x5=>
     some [.int .i64 ((x5.cell 0).toInt),.int .i64 ((x5.cell 1).toInt),.list aa ((x5.cell 2).toList)]
    else
     some [.int .i64 8,.int .i64 0,.list aa ([.agg [.int .i64 ((x4.cell 0).toInt),.int .i64 ((x4.cell 1).toInt),.list aa ((x4.cell 2).toList)]]:List V)]
    else
    some [.int .i64 8,.int .i64 0,.list aa ([.agg [.int .i64 ((x4.cell 0).toInt),.int .i64 ((x4.cell 1).toInt),.list aa ((x4.cell 2).toList)]]:List V)]
   else
    bif (op:Int)==7 then
    bif (((x4.cell 0).toInt):Int)==1 then
     (C uT []).bind fun r6=>
     some [.int .i64 ((V.nth r6 0).toInt),.int .i64 ((V.nth (r6.drop 1) 0).toInt),.list aa ((V.nth (r6.drop 2) 0).toList)]
    else
     bif (((x4.cell 0).toInt):Int)==2 then
     (C uT []).bind fun r7=>
     some [.int .i64 ((V.nth r7 0).toInt),.int .i64 ((V.nth (r7.drop 1) 0).toInt),.list aa ((V.nth (r7.drop 2) 0).toList)]
     else
     bif (((x4.cell 0).toInt):Int)==7 then
      some [.int .i64 ((x4.cell 0).toInt),.int .i64 ((x4.cell 1).toInt),.list aa ((x4.cell 2).toList)]
     else
      (C mV [.int .i64 ((x4.cell 0).toInt),.int .i64 ((x4.cell 1).toInt),.list aa ((x4.cell 2).toList)]).bind fun r8=>
      bif (V.nth r8 0).toBool then
      some [.int .i64 ((x4.cell 0).toInt),.int .i64 ((x4.cell 1).toInt),.list aa ((x4.cell 2).toList)]
      else
      some [.int .i64 7,.int .i64 0,.list aa ([.agg [.int .i64 ((x4.cell 0).toInt),.int .i64 ((x4.cell 1).toInt),.list aa ((x4.cell 2).toList)]]:List V)]
    else
    some [.int .i64 0,.int .i64 0,.list aa ([]:List V)]
theorem Va {op:Int} {kids:List V} {r:Option (List V)} (h:M0 CC op kids=r):CC kR [.int .i64 op,.list aa kids]=r:=
 bh (key:=69) (L:=cw) (bs:=[]) (by kernel_rfl) aw (bd (by kernel_rfl) h)
end Go.AM
