/-
  Functions of the program, lifted to plain data.
-/
import Derived.Sort.AssemblyPlain
import Derived.Test.YtppefogdkedaiaaGreatP4
set_option linter.unusedVariables false
set_option linter.unusedSimpArgs false
set_option maxRecDepth 100000
namespace Go.AM
open Go.Proofs Ex
def fR (k:Ex):Bool:=decide (k.op=1)
def gD (k:Ex):Bool:=decide (k.op=2)
theorem B8 (k:Ex):CC mW (bQ k [])=some [.bool (fR k)]:=by
 refine afm ?_
 unfold Ud fR
 rw[BW]
theorem Ha (k:Ex):CC o7 (bQ k [])=some [.bool (gD k)]:=by
 refine afn ?_
 unfold Ue gD
 rw[BW]
theorem B9 (k:Ex):CC mV (bQ k [])=some [.bool (univ k)]:=by
 obtain ⟨o,l,ks⟩:=k
 refine afo ?_
 unfold Uf univ
 simp only[Ex.op,Ex.kids,dq,aJ]
 by_cases h1:o=8
 ·rw[aj h1]
  match ks with
  | []=>simp
  | [k]=>
   rw[aj (by simp)]
   simp only[cJ,fT,List.getElem?_cons_zero,Option.bind_some,aU,aZ,aX]
   refine (congrArg (fun o=>Option.bind o _) (B8 k)).trans ?_
   simp only[h1,fR]
   simp
   rfl
  | k::k2::ks=>
   rw[ai (by simp<;>omega)]
   simp
 ·rw[ai h1];simp[h1]
theorem lF {l:List Ex} {j:Nat} (h:j<l.length):l.take (j+1)=l.take j++[l.getD j aG]:=by
 rw[List.take_succ_eq_append_getElem h];simp[h]
theorem Cc {l ss:List Ex} {j:Nat} (hl:ss.length=l.length) (h:ss.drop j=l.drop j) (hj:j<l.length):ss.getD j aG=l.getD j aG:=by
 have h1:=congrArg (fun x:List Ex=>x.getD 0 aG) h
 simpa[hj,hl] using h1
theorem pd {l:List Ex} {i:Nat} (h:i<l.length):(l.map enc)[i]? =some (l.getD i aG).enc:=by simp[h]
theorem Hb (ss:List Ex) (m:Nat) (z:V) (hm:m≤ss.length):((((ss.map enc).take m++(List.replicate ((ss.map enc).length-m) z++(ss.map enc).drop (m+((ss.map enc).length-m)))).take m)=(ss.take m).map enc):=by
 rw[List.take_append_of_le_length (by simp;omega),zU (by simp;omega),List.map_take]
theorem afD {ks:List Ex} (hlen:ks.length≤1000000): ∀(ay pre:List Ex),ks=pre++ay→(∀k∈pre,fR k=false)→
  (ks.any fR=false∧∃t,Loop (vF CC (ks.map enc) ((ks.map enc).length:Int)) ((pre.length:Nat):Int)=some (.inr t))∨
  (∃i:Nat,i<ks.length∧fR (ks.getD i aG)=true∧(∀k∈ks.take i,fR k=false)∧Loop (vF CC (ks.map enc) ((ks.map enc).length:Int)) ((pre.length:Nat):Int)=some (.inl (i:Int))):=by
 intro ay
 induction ay with
 | nil=>
  intro pre bd hp
  rw[c9] at bd
  subst bd
  refine .inl ⟨yG hp,⟨(((ks.length:Nat):Int),false),aS ?_⟩⟩
  ·simp only[vF,yH,aJ,az]
   rw[ai (by omega),bz (by omega)]
 | cons k ay ih=>
  intro pre bd hp
  have bS:pre.length<ks.length:=by rw[bd];simp
  have bM:idx (ks.map enc) (pre.length:Int)=some k.enc:=by rw[bd];exact gB _ _ _
  cases hk:fR k with
  | true=>
   refine .inr ⟨pre.length,bS,by rw[bd];simpa using hk,by rw[bd];simpa using hp,aS ?_⟩
   simp only[vF,yH,aJ,az]
   rw[aj (by omega),bM]
   simp only[Option.bind_some,aU,aZ,aX]
   refine (congrArg (fun o=>Option.bind o _) (B8 k)).trans ?_
   simp only[Option.bind_some,V.aM,V.dj]
   rw[hk,cond_true]
  | false=>
   have bX:vF CC (ks.map enc) ((ks.map enc).length:Int) ((pre.length:Nat):Int)=some (.inl (((pre++[k]).length:Nat):Int)):=by
    simp only[vF,yH,aJ,az]
    rw[aj (by omega),bM]
    simp only[Option.bind_some,aU,aZ,aX]
    refine (congrArg (fun o=>Option.bind o _) (B8 k)).trans ?_
    simp only[Option.bind_some,V.aM,V.dj]
    rw[hk,cond_false,wrap64 (by omega) (by omega)]
    simp
   rw[bJ bX]
   refine ih (pre++[k]) (by rw[bd];simp) fun x hx=> ?_
   rcases eN.1 hx with hx|hx
   ·exact hp x hx
   ·rw[eC.1 hx];exact hk
theorem UA {ks:List Ex} (hlen:ks.length≤1000000):
  (ks.any fR=false∧CC rG [.list aa (ks.map enc)]=some [.int .i64 (-1)])∨
  (∃i:Nat,i<ks.length∧fR (ks.getD i aG)=true∧(∀k∈ks.take i,fR k=false)∧CC rG [.list aa (ks.map enc)]=some [.int .i64 (i:Int)]):=by
 rcases afD hlen ks [] rfl (by simp) with ⟨h1,t,U⟩|⟨i,h1,U,h3,h4⟩
 ·refine .inl ⟨h1,Ui ?_⟩
  unfold Na
  refine (congrArg (fun o=>Option.bind o _) U).trans ?_
  rfl
 ·refine .inr ⟨i,h1,U,h3,Ui ?_⟩
  unfold Na
  refine (congrArg (fun o=>Option.bind o _) h4).trans ?_
  rfl
theorem afE {ks:List Ex} (hlen:ks.length≤1000000):CC s7 [.list aa (ks.map enc)]=some [.bool (ks.any fR)]:=by
 refine afr ?_
 unfold Uj
 rcases UA hlen with ⟨h1,U⟩|⟨i,h1,U,h3,h4⟩
 ·refine (congrArg (fun o=>Option.bind o _) U).trans ?_
  rw[h1];rfl
 ·refine (congrArg (fun o=>Option.bind o _) h4).trans ?_
  rw[oC.2 ⟨_,by rw[show ks.getD i aG=ks[i] by simp[h1]];exact List.getElem_mem h1,U⟩]
  simp
theorem afF {ks:List Ex} (hn:ks.length≤1000000): ∀(d j i:Nat) (ss:List Ex),j+d=ks.length→i≤j→ss.length=ks.length→ss.take i=(ks.take j).filter (fun k=> !(fR k))→ss.drop j=ks.drop j→
  ∃t fj,Loop (vG CC) ((i:Int),(j:Int),ss.map enc)=some (((ks.filter (fun k=> !(fR k))).length:Int),(ks.length:Int),t,List.map enc fj)∧fj.take (ks.filter (fun k=> !(fR k))).length=ks.filter (fun k=> !(fR k))∧fj.length=ks.length:=by
 intro d
 induction d with
 | zero=>
  intro j i ss hj hi hl ht hd
  obtain rfl:j=ks.length:=by omega
  rw[qy] at ht
  have hZ:i=(ks.filter (fun k=> !(fR k))).length:=by rw[←ht,ff];omega
  refine ⟨false,ss,aS ?_,by rw[←hZ];exact ht,hl⟩
  simp only[vG,yI,un,aJ,az]
  rw[ai (by omega),bz (by omega),hZ]
 | succ d ih=>
  intro j i ss hj hi hl ht hd
  have cz:j<ks.length:=by omega
  have hg:=Cc hl hd cz
  have ja:ss.drop (j+1)=ks.drop (j+1):=by rw[←qB,←qB,hd]
  have hx:(ss.map enc)[j]? =some (ks.getD j aG).enc:=by rw[pd (by omega),hg]
  have t1:((j:Nat):Int)<(ss.length:Int):=by omega
  have t2:(0:Int)≤((j:Nat):Int):=by omega
  have t3:((i:Nat):Int)<(ss.length:Int):=by omega
  have t4:(0:Int)≤((i:Nat):Int):=by omega
  have bM: ∃y,(ss.map enc)[i]? =some y:=⟨_,pd (by omega)⟩
  obtain ⟨y,hy⟩:=bM
  cases hk:fR (ks.getD j aG) with
  | true=>
   have bX:vG CC ((i:Int),(j:Int),ss.map enc)=some (.inl ((i:Int),((j+1:Nat):Int),ss.map enc)):=by
    simp only[vG,yI,un,aJ,az,dc,t1,t2,cW,Int.toNat_natCast,hx,Option.bind_some,aU,aZ,aX]
    refine (congrArg (fun o=>Option.bind o _) (B8 (ks.getD j aG))).trans ?_
    simp only[Option.bind_some,V.aM,V.dj]
    rw[hk,qA,cond_false,wrap64 (by omega) (by omega)]
    rfl
   rw[bJ bX]
   refine ih (j+1) i ss (by omega) (by omega) hl ?_ ja
   rw[lF cz,nq,ht,pF,hk]
   simp
  | false=>
   have bX:vG CC ((i:Int),(j:Int),ss.map enc)=some (.inl (((i+1:Nat):Int),((j+1:Nat):Int),(ss.set i (ks.getD j aG)).map enc)):=by
    simp only[vG,yI,un,aJ,az,dc,t1,t2,t3,t4,cW,Int.toNat_natCast,hx,hy,Option.bind_some,aU,aZ,aX]
    refine (congrArg (fun o=>Option.bind o _) (B8 (ks.getD j aG))).trans ?_
    simp only[Option.bind_some,V.aM,V.dj]
    rw[hk,tX,cond_true,wrap64 (by omega) (by omega),wrap64 (by omega) (by omega),←dx,zW]
    rfl
   rw[bJ bX]
   refine ih (j+1) (i+1) (ss.set i (ks.getD j aG)) (by omega) (by omega) (by simpa using hl) ?_ ?_
   ·rw[lF (by rw[oA];omega),DT (cg i),ht,lF cz,nq,pF,hk]
    simp[show i<ss.length by omega]
   ·rw[DU (by omega),ja]
theorem afG {ks:List Ex} (hn:ks.length≤1000000): ∃b,CC Gv [.list aa (ks.map enc)]=some [.bool b,.list aa ((ks.filter (fun k=> !(fR k))).map enc)]:=by
 rcases UA hn with ⟨h1,U⟩|⟨i,h1,U,h3,h4⟩
 ·refine ⟨true,Um ?_⟩
  unfold Nb
  refine (congrArg (fun o=>Option.bind o _) U).trans ?_
  rw[oF.2 fun k hk=>show (!(fR k))=true by rw[any_false (p:=fR) (by rw[h1];simp) k hk];rfl]
  rfl
 ·have hf:(ks.take (i+1)).filter (fun k=> !(fR k))=ks.take i:=by
   rw[lF h1,nq,pF,U,oF.2 fun k hk=>show (!(fR k))=true by rw[h3 k hk];rfl]
   simp
  obtain ⟨t,fj,e1,e2,e3⟩:=afF hn (ks.length-(i+1)) (i+1) i ks (by omega) (by omega) rfl hf.symm rfl
  refine ⟨false,Um ?_⟩
  unfold Nb
  refine (congrArg (fun o=>Option.bind o _) h4).trans ?_
  simp only[Option.bind_some,V.aM,V.toInt_int,dq]
  rw[ai (by omega),wrap64 (by omega) (by omega)]
  refine (congrArg (fun o=>Option.bind o _) e1).trans ?_
  have hm:(ks.filter (fun k=> !(fR k))).length≤fj.length:=by rw[e3];exact tY _ _
  have t1:((((ks.filter (fun k=> !(fR k))).length:Nat):Int)≤((fj.map enc).length:Int)):=by rw[aJ];omega
  simp only[Option.bind_some,un,dc,az,Int.toNat_natCast]
  rw[aj (by omega),aj t1,aj (by omega),aj (by simp only[b9,ff,tV,pD];omega),Hb _ _ _ hm,e2]
theorem afH {ks:List Ex} (hlen:ks.length≤1000000): ∀(ay pre:List Ex),ks=pre++ay→(∀k∈pre,gD k=false)→
  (ks.any gD=false∧∃t,Loop (vH CC (ks.map enc) ((ks.map enc).length:Int)) ((pre.length:Nat):Int)=some (.inr t))∨
  (∃i:Nat,i<ks.length∧gD (ks.getD i aG)=true∧(∀k∈ks.take i,gD k=false)∧Loop (vH CC (ks.map enc) ((ks.map enc).length:Int)) ((pre.length:Nat):Int)=some (.inl (i:Int))):=by
 intro ay
 induction ay with
 | nil=>
  intro pre bd hp
  rw[c9] at bd
  subst bd
  refine .inl ⟨yG hp,⟨(((ks.length:Nat):Int),false),aS ?_⟩⟩
  ·simp only[vH,yJ,aJ,az]
   rw[ai (by omega),bz (by omega)]
 | cons k ay ih=>
  intro pre bd hp
  have bS:pre.length<ks.length:=by rw[bd];simp
  have bM:idx (ks.map enc) (pre.length:Int)=some k.enc:=by rw[bd];exact gB _ _ _
  cases hk:gD k with
  | true=>
   refine .inr ⟨pre.length,bS,by rw[bd];simpa using hk,by rw[bd];simpa using hp,aS ?_⟩
   simp only[vH,yJ,aJ,az]
   rw[aj (by omega),bM]
   simp only[Option.bind_some,aU,aZ,aX]
   refine (congrArg (fun o=>Option.bind o _) (Ha k)).trans ?_
   simp only[Option.bind_some,V.aM,V.dj]
   rw[hk,cond_true]
  | false=>
   have bX:vH CC (ks.map enc) ((ks.map enc).length:Int) ((pre.length:Nat):Int)=some (.inl (((pre++[k]).length:Nat):Int)):=by
    simp only[vH,yJ,aJ,az]
    rw[aj (by omega),bM]
    simp only[Option.bind_some,aU,aZ,aX]
    refine (congrArg (fun o=>Option.bind o _) (Ha k)).trans ?_
    simp only[Option.bind_some,V.aM,V.dj]
    rw[hk,cond_false,wrap64 (by omega) (by omega)]
    simp
   rw[bJ bX]
   refine ih (pre++[k]) (by rw[bd];simp) fun x hx=> ?_
   rcases eN.1 hx with hx|hx
   ·exact hp x hx
   ·rw[eC.1 hx];exact hk
theorem afI {ks:List Ex} (hlen:ks.length≤1000000):
  (ks.any gD=false∧CC Gu [.list aa (ks.map enc)]=some [.int .i64 (-1)])∨
  (∃i:Nat,i<ks.length∧gD (ks.getD i aG)=true∧(∀k∈ks.take i,gD k=false)∧CC Gu [.list aa (ks.map enc)]=some [.int .i64 (i:Int)]):=by
 rcases afH hlen ks [] rfl (by simp) with ⟨h1,t,U⟩|⟨i,h1,U,h3,h4⟩
 ·refine .inl ⟨h1,Up ?_⟩
  unfold Nd
  refine (congrArg (fun o=>Option.bind o _) U).trans ?_
  rfl
 ·refine .inr ⟨i,h1,U,h3,Up ?_⟩
  unfold Nd
  refine (congrArg (fun o=>Option.bind o _) h4).trans ?_
  rfl
theorem afJ {ks:List Ex} (hn:ks.length≤1000000): ∀(d j i:Nat) (ss:List Ex),j+d=ks.length→i≤j→ss.length=ks.length→ss.take i=(ks.take j).filter (fun k=> !(gD k))→ss.drop j=ks.drop j→
  ∃t fj,Loop (vI CC) ((i:Int),(j:Int),ss.map enc)=some (((ks.filter (fun k=> !(gD k))).length:Int),(ks.length:Int),t,List.map enc fj)∧fj.take (ks.filter (fun k=> !(gD k))).length=ks.filter (fun k=> !(gD k))∧fj.length=ks.length:=by
 intro d
 induction d with
 | zero=>
  intro j i ss hj hi hl ht hd
  obtain rfl:j=ks.length:=by omega
  rw[qy] at ht
  have hZ:i=(ks.filter (fun k=> !(gD k))).length:=by rw[←ht,ff];omega
  refine ⟨false,ss,aS ?_,by rw[←hZ];exact ht,hl⟩
  simp only[vI,yK,un,aJ,az]
  rw[ai (by omega),bz (by omega),hZ]
 | succ d ih=>
  intro j i ss hj hi hl ht hd
  have cz:j<ks.length:=by omega
  have hg:=Cc hl hd cz
  have ja:ss.drop (j+1)=ks.drop (j+1):=by rw[←qB,←qB,hd]
  have hx:(ss.map enc)[j]? =some (ks.getD j aG).enc:=by rw[pd (by omega),hg]
  have t1:((j:Nat):Int)<(ss.length:Int):=by omega
  have t2:(0:Int)≤((j:Nat):Int):=by omega
  have t3:((i:Nat):Int)<(ss.length:Int):=by omega
  have t4:(0:Int)≤((i:Nat):Int):=by omega
  have bM: ∃y,(ss.map enc)[i]? =some y:=⟨_,pd (by omega)⟩
  obtain ⟨y,hy⟩:=bM
  cases hk:gD (ks.getD j aG) with
  | true=>
   have bX:vI CC ((i:Int),(j:Int),ss.map enc)=some (.inl ((i:Int),((j+1:Nat):Int),ss.map enc)):=by
    simp only[vI,yK,un,aJ,az,dc,t1,t2,cW,Int.toNat_natCast,hx,Option.bind_some,aU,aZ,aX]
    refine (congrArg (fun o=>Option.bind o _) (Ha (ks.getD j aG))).trans ?_
    simp only[Option.bind_some,V.aM,V.dj]
    rw[hk,qA,cond_false,wrap64 (by omega) (by omega)]
    rfl
   rw[bJ bX]
   refine ih (j+1) i ss (by omega) (by omega) hl ?_ ja
   rw[lF cz,nq,ht,pF,hk]
   simp
  | false=>
   have bX:vI CC ((i:Int),(j:Int),ss.map enc)=some (.inl (((i+1:Nat):Int),((j+1:Nat):Int),(ss.set i (ks.getD j aG)).map enc)):=by
    simp only[vI,yK,un,aJ,az,dc,t1,t2,t3,t4,cW,Int.toNat_natCast,hx,hy,Option.bind_some,aU,aZ,aX]
    refine (congrArg (fun o=>Option.bind o _) (Ha (ks.getD j aG))).trans ?_
    simp only[Option.bind_some,V.aM,V.dj]
    rw[hk,tX,cond_true,wrap64 (by omega) (by omega),wrap64 (by omega) (by omega),←dx,zW]
    rfl
   rw[bJ bX]
   refine ih (j+1) (i+1) (ss.set i (ks.getD j aG)) (by omega) (by omega) (by simpa using hl) ?_ ?_
   ·rw[lF (by rw[oA];omega),DT (cg i),ht,lF cz,nq,pF,hk]
    simp[show i<ss.length by omega]
   ·rw[DU (by omega),ja]
theorem afK {ks:List Ex} (hn:ks.length≤1000000): ∃b,CC Gt [.list aa (ks.map enc)]=some [.bool b,.list aa ((ks.filter (fun k=> !(gD k))).map enc)]:=by
 rcases afI hn with ⟨h1,U⟩|⟨i,h1,U,h3,h4⟩
 ·refine ⟨true,Us ?_⟩
  unfold Nf
  refine (congrArg (fun o=>Option.bind o _) U).trans ?_
  rw[oF.2 fun k hk=>show (!(gD k))=true by rw[any_false (p:=gD) (by rw[h1];simp) k hk];rfl]
  rfl
 ·have hf:(ks.take (i+1)).filter (fun k=> !(gD k))=ks.take i:=by
   rw[lF h1,nq,pF,U,oF.2 fun k hk=>show (!(gD k))=true by rw[h3 k hk];rfl]
   simp
  obtain ⟨t,fj,e1,e2,e3⟩:=afJ hn (ks.length-(i+1)) (i+1) i ks (by omega) (by omega) rfl hf.symm rfl
  refine ⟨false,Us ?_⟩
  unfold Nf
  refine (congrArg (fun o=>Option.bind o _) h4).trans ?_
  simp only[Option.bind_some,V.aM,V.toInt_int,dq]
  rw[ai (by omega),wrap64 (by omega) (by omega)]
  refine (congrArg (fun o=>Option.bind o _) e1).trans ?_
  have hm:(ks.filter (fun k=> !(gD k))).length≤fj.length:=by rw[e3];exact tY _ _
  have t1:((((ks.filter (fun k=> !(gD k))).length:Nat):Int)≤((fj.map enc).length:Int)):=by rw[aJ];omega
  simp only[Option.bind_some,un,dc,az,Int.toNat_natCast]
  rw[aj (by omega),aj t1,aj (by omega),aj (by simp only[b9,ff,tV,pD];omega),Hb _ _ _ hm,e2]
theorem afL {ks:List Ex} (hlen:ks.length≤1000000): ∀(ay pre:List Ex),ks=pre++ay→(∀k∈pre,univ k=false)→
  (ks.any univ=false∧∃t,Loop (vJ CC (ks.map enc) ((ks.map enc).length:Int)) ((pre.length:Nat):Int)=some (.inr t))∨
  (∃i:Nat,i<ks.length∧univ (ks.getD i aG)=true∧(∀k∈ks.take i,univ k=false)∧Loop (vJ CC (ks.map enc) ((ks.map enc).length:Int)) ((pre.length:Nat):Int)=some (.inl (i:Int))):=by
 intro ay
 induction ay with
 | nil=>
  intro pre bd hp
  rw[c9] at bd
  subst bd
  refine .inl ⟨yG hp,⟨(((ks.length:Nat):Int),false),aS ?_⟩⟩
  ·simp only[vJ,yL,aJ,az]
   rw[ai (by omega),bz (by omega)]
 | cons k ay ih=>
  intro pre bd hp
  have bS:pre.length<ks.length:=by rw[bd];simp
  have bM:idx (ks.map enc) (pre.length:Int)=some k.enc:=by rw[bd];exact gB _ _ _
  cases hk:univ k with
  | true=>
   refine .inr ⟨pre.length,bS,by rw[bd];simpa using hk,by rw[bd];simpa using hp,aS ?_⟩
   simp only[vJ,yL,aJ,az]
   rw[aj (by omega),bM]
   simp only[Option.bind_some,aU,aZ,aX]
   refine (congrArg (fun o=>Option.bind o _) (B9 k)).trans ?_
   simp only[Option.bind_some,V.aM,V.dj]
   rw[hk,cond_true]
  | false=>
   have bX:vJ CC (ks.map enc) ((ks.map enc).length:Int) ((pre.length:Nat):Int)=some (.inl (((pre++[k]).length:Nat):Int)):=by
    simp only[vJ,yL,aJ,az]
    rw[aj (by omega),bM]
    simp only[Option.bind_some,aU,aZ,aX]
    refine (congrArg (fun o=>Option.bind o _) (B9 k)).trans ?_
    simp only[Option.bind_some,V.aM,V.dj]
    rw[hk,cond_false,wrap64 (by omega) (by omega)]
    simp
   rw[bJ bX]
   refine ih (pre++[k]) (by rw[bd];simp) fun x hx=> ?_
   rcases eN.1 hx with hx|hx
   ·exact hp x hx
   ·rw[eC.1 hx];exact hk
theorem UB {ks:List Ex} (hlen:ks.length≤1000000):
  (ks.any univ=false∧CC BD [.list aa (ks.map enc)]=some [.int .i64 (-1)])∨
  (∃i:Nat,i<ks.length∧univ (ks.getD i aG)=true∧(∀k∈ks.take i,univ k=false)∧CC BD [.list aa (ks.map enc)]=some [.int .i64 (i:Int)]):=by
 rcases afL hlen ks [] rfl (by simp) with ⟨h1,t,U⟩|⟨i,h1,U,h3,h4⟩
 ·refine .inl ⟨h1,Uv ?_⟩
  unfold Ng
  refine (congrArg (fun o=>Option.bind o _) U).trans ?_
  rfl
 ·refine .inr ⟨i,h1,U,h3,Uv ?_⟩
  unfold Ng
  refine (congrArg (fun o=>Option.bind o _) h4).trans ?_
  rfl
theorem afM {ks:List Ex} (hlen:ks.length≤1000000):CC K3 [.list aa (ks.map enc)]=some [.bool (ks.any univ)]:=by
 refine afA ?_
 unfold Uw
 rcases UB hlen with ⟨h1,U⟩|⟨i,h1,U,h3,h4⟩
 ·refine (congrArg (fun o=>Option.bind o _) U).trans ?_
  rw[h1];rfl
 ·refine (congrArg (fun o=>Option.bind o _) h4).trans ?_
  rw[oC.2 ⟨_,by rw[show ks.getD i aG=ks[i] by simp[h1]];exact List.getElem_mem h1,U⟩]
  simp
theorem afN {ks:List Ex} (hn:ks.length≤1000000): ∀(d j i:Nat) (ss:List Ex),j+d=ks.length→i≤j→ss.length=ks.length→ss.take i=(ks.take j).filter (fun k=> !(univ k))→ss.drop j=ks.drop j→
  ∃t fj,Loop (vK CC) ((i:Int),(j:Int),ss.map enc)=some (((ks.filter (fun k=> !(univ k))).length:Int),(ks.length:Int),t,List.map enc fj)∧fj.take (ks.filter (fun k=> !(univ k))).length=ks.filter (fun k=> !(univ k))∧fj.length=ks.length:=by
 intro d
 induction d with
 | zero=>
  intro j i ss hj hi hl ht hd
  obtain rfl:j=ks.length:=by omega
  rw[qy] at ht
  have hZ:i=(ks.filter (fun k=> !(univ k))).length:=by rw[←ht,ff];omega
  refine ⟨false,ss,aS ?_,by rw[←hZ];exact ht,hl⟩
  simp only[vK,yM,un,aJ,az]
  rw[ai (by omega),bz (by omega),hZ]
 | succ d ih=>
  intro j i ss hj hi hl ht hd
  have cz:j<ks.length:=by omega
  have hg:=Cc hl hd cz
  have ja:ss.drop (j+1)=ks.drop (j+1):=by rw[←qB,←qB,hd]
  have hx:(ss.map enc)[j]? =some (ks.getD j aG).enc:=by rw[pd (by omega),hg]
  have t1:((j:Nat):Int)<(ss.length:Int):=by omega
  have t2:(0:Int)≤((j:Nat):Int):=by omega
  have t3:((i:Nat):Int)<(ss.length:Int):=by omega
  have t4:(0:Int)≤((i:Nat):Int):=by omega
  have bM: ∃y,(ss.map enc)[i]? =some y:=⟨_,pd (by omega)⟩
  obtain ⟨y,hy⟩:=bM
  cases hk:univ (ks.getD j aG) with
  | true=>
   have bX:vK CC ((i:Int),(j:Int),ss.map enc)=some (.inl ((i:Int),((j+1:Nat):Int),ss.map enc)):=by
    simp only[vK,yM,un,aJ,az,dc,t1,t2,cW,Int.toNat_natCast,hx,Option.bind_some,aU,aZ,aX]
    refine (congrArg (fun o=>Option.bind o _) (B9 (ks.getD j aG))).trans ?_
    simp only[Option.bind_some,V.aM,V.dj]
    rw[hk,qA,cond_false,wrap64 (by omega) (by omega)]
    rfl
   rw[bJ bX]
   refine ih (j+1) i ss (by omega) (by omega) hl ?_ ja
   rw[lF cz,nq,ht,pF,hk]
   simp
  | false=>
   have bX:vK CC ((i:Int),(j:Int),ss.map enc)=some (.inl (((i+1:Nat):Int),((j+1:Nat):Int),(ss.set i (ks.getD j aG)).map enc)):=by
    simp only[vK,yM,un,aJ,az,dc,t1,t2,t3,t4,cW,Int.toNat_natCast,hx,hy,Option.bind_some,aU,aZ,aX]
    refine (congrArg (fun o=>Option.bind o _) (B9 (ks.getD j aG))).trans ?_
    simp only[Option.bind_some,V.aM,V.dj]
    rw[hk,tX,cond_true,wrap64 (by omega) (by omega),wrap64 (by omega) (by omega),←dx,zW]
    rfl
   rw[bJ bX]
   refine ih (j+1) (i+1) (ss.set i (ks.getD j aG)) (by omega) (by omega) (by simpa using hl) ?_ ?_
   ·rw[lF (by rw[oA];omega),DT (cg i),ht,lF cz,nq,pF,hk]
    simp[show i<ss.length by omega]
   ·rw[DU (by omega),ja]
theorem afO {ks:List Ex} (hn:ks.length≤1000000): ∃b,CC ya [.list aa (ks.map enc)]=some [.bool b,.list aa ((ks.filter (fun k=> !(univ k))).map enc)]:=by
 rcases UB hn with ⟨h1,U⟩|⟨i,h1,U,h3,h4⟩
 ·refine ⟨true,Uz ?_⟩
  unfold Nh
  refine (congrArg (fun o=>Option.bind o _) U).trans ?_
  rw[oF.2 fun k hk=>show (!(univ k))=true by rw[any_false (p:=univ) (by rw[h1];simp) k hk];rfl]
  rfl
 ·have hf:(ks.take (i+1)).filter (fun k=> !(univ k))=ks.take i:=by
   rw[lF h1,nq,pF,U,oF.2 fun k hk=>show (!(univ k))=true by rw[h3 k hk];rfl]
   simp
  obtain ⟨t,fj,e1,e2,e3⟩:=afN hn (ks.length-(i+1)) (i+1) i ks (by omega) (by omega) rfl hf.symm rfl
  refine ⟨false,Uz ?_⟩
  unfold Nh
  refine (congrArg (fun o=>Option.bind o _) h4).trans ?_
  simp only[Option.bind_some,V.aM,V.toInt_int,dq]
  rw[ai (by omega),wrap64 (by omega) (by omega)]
  refine (congrArg (fun o=>Option.bind o _) e1).trans ?_
  have hm:(ks.filter (fun k=> !(univ k))).length≤fj.length:=by rw[e3];exact tY _ _
  have t1:((((ks.filter (fun k=> !(univ k))).length:Nat):Int)≤((fj.map enc).length:Int)):=by rw[aJ];omega
  simp only[Option.bind_some,un,dc,az,Int.toNat_natCast]
  rw[aj (by omega),aj t1,aj (by omega),aj (by simp only[b9,ff,tV,pD];omega),Hb _ _ _ hm,e2]
end Go.AM
set_option maxRecDepth 100000
namespace Go.AM
open Go.Proofs Go.Sort
section
variable {α:Type} {enc:α→V}
def qg (enc:α→V) (d:Array α):List V:=d.toList.map enc
theorem gf (d:Array α):(qg enc d).length=d.size:=by simp[qg]
theorem gg (d:Array α) (i:Nat) (x:α):(qg enc d).set i (enc x)=qg enc (d.setIfInBounds i x):=by
 unfold qg;rw[Array.toList_setIfInBounds,zW]
variable [Inhabited α]
theorem gh {d:Array α} {i:Nat} (h:i<d.size):(qg enc d)[i]? =some (enc d[i]!):=by
 unfold qg;rw[fI,sk,k9 h,getElem!_pos d i h];rfl
theorem iJ {d:Array α} {i j:Nat} {x:α} (h:i<d.size):(qg enc (d.setIfInBounds j x))[i]? =some (enc (d.setIfInBounds j x)[i]!):=gh (by rw[gZ];exact h)
theorem gi (a b:Nat):(a:Int)+(b:Int)=((a+b:Nat):Int):=(Int.natCast_add a b).symm
theorem dW (a:Nat):(a:Int)+1=((a+1:Nat):Int):=rfl
theorem vL (a:Nat):((a+1:Nat):Int)-1=(a:Int):=by omega
theorem Cd (a:Nat):(a:Int)*2=((a*2:Nat):Int):=by omega
theorem m7 {a b:Nat} (h:b≤a):(a:Int)-(b:Int)=((a-b:Nat):Int):=by omega
theorem kV {a:Nat} (h:1≤a):(a:Int)-1=((a-1:Nat):Int):=by omega
theorem divC (a b:Nat):Int.tdiv (a:Int) (b:Int)=((a/b:Nat):Int):=by rw[Int.tdiv_eq_ediv_of_nonneg (by omega)];rfl
theorem nY {p:Prop} [Decidable p] (h:p):decide p=true:=cx h
theorem tn {p:Prop} [Decidable p] (h: ¬p):decide p=false:=bz h
variable {lt:α→α→Bool}
theorem UC (a j:Nat) (d:Array α):insInner lt a (j+1) d=if j+1>a&&lt d[j+1]! d[j]! then insInner lt a j (swp d (j+1) j) else d:=rfl
theorem Ni {a:Nat}: ∀(j:Nat) (d:Array α),(insInner lt a j d).size=d.size
 | 0,d=>rfl
 | j+1,d=>by
  rw[UC]
  split
  ·rw[Ni j,size_swp]
  ·rfl
theorem Ce (hi first:Nat): ∀(n root:Nat) (d:Array α),hi-root≤n→(siftDown lt hi first root d).size=d.size:=by
 intro n
 induction n with
 | zero=>intro root d h;rw[siftDown,sf (by omega)]
 | succ n ih=>
  intro root d h
  rw[siftDown]
  split
  ·rfl
  ·split
   ·split
    ·rfl
    ·split
     ·rw[ih _ _ (by omega),size_swp]
     ·rfl
   ·split
    ·rfl
    ·rw[ih _ _ (by omega),size_swp]
theorem Nj (hi first:Nat): ∀(k:Nat) (d:Array α),(heapBuild lt hi first k d).size=d.size
 | 0,d=>rfl
 | k+1,d=>by rw[heapBuild,Nj,Ce _ _ _ _ _ (cg _)]
end
end Go.AM
set_option maxRecDepth 100000
namespace Go.AM.SX
open Go.Proofs Ex
structure XE where
 e:Ex
 ok:e.Ok
instance:Inhabited XE:=⟨⟨.node 0 0 [],.node (by omega) (by omega) (by simp) (by simp)⟩⟩
namespace XE
def enc (x:XE):V:=x.e.enc
theorem aU (x:XE):(x.enc.cell 0).toInt=x.e.op:=Go.AM.aU x.e
theorem aZ (x:XE):(x.enc.cell 1).toInt=x.e.bB:=Go.AM.aZ x.e
theorem aX (x:XE):(x.enc.cell 2).toList=x.e.kids.map Ex.enc:=Go.AM.aX x.e
theorem re (x:XE):V.agg [.int .i64 x.e.op,.int .i64 x.e.bB,.list aa (x.e.kids.map Ex.enc)]=x.enc:=(Ex.dx x.e).symm
end XE
def cf (a b:XE):Int:=cmp a.e b.e
theorem gW (a b:XE):CC bp [.int .i64 a.e.op,.int .i64 a.e.bB,.list aa (a.e.kids.map Ex.enc),.int .i64 b.e.op,.int .i64 b.e.bB,.list aa (b.e.kids.map Ex.enc)]=some [.int .i64 (cf a b)]:=
 GZ a.e a.ok b.e b.ok
def XE.lt (a b:XE):Prop:=cf a b<0
theorem XE.lt_irrefl (a:XE): ¬a.lt a:=by unfold XE.lt cf;rw[BZ];omega
theorem afP {a b c:Ex} (h1:cmp a b<0) (U:cmp b c<0):cmp a c<0:=by
 have h3:=MS a b c (by omega) (by omega)
 refine Decidable.byContradiction fun h=> ?_
 have h0:cmp a c=0:=by omega
 have:=vB a c h0
 subst this
 have:=ti a b
 omega
theorem XE.lt_trans {a b c:XE} (h1:a.lt b) (U:b.lt c):a.lt c:=afP h1 U
theorem XE.afQ {a b c:XE} (h1: ¬a.lt b) (U: ¬b.lt c): ¬a.lt c:=by
 unfold XE.lt cf at*
 have a1:=ti a.e b.e
 have a2:=ti b.e c.e
 have a3:=ti a.e c.e
 have:=MS c.e b.e a.e (by omega) (by omega)
 omega
end Go.AM.SX
set_option maxRecDepth 100000
namespace Go.AM
open Go.Proofs
noncomputable abbrev Hc:Code:=cE Tryz.prog (ax.aV 96)
noncomputable def yN (C:ae) (a b' i j:Int) (ak:List V) {β:Type} (kn:(Int × (List V))→Option β) (kr:(Int × Bool × (List V))→Option β):Option β:=
 bif decide ((j:Int)>a) then
  bif (decide (0≤j))&&(decide (j<(ak.length:Int))) then
  (ak[(j:Int).toNat]?).bind fun x1=>
  bif (decide (0≤(IntKind.wrap .i64 (j-1))))&&(decide ((IntKind.wrap .i64 (j-1))<(ak.length:Int))) then
   (ak[(IntKind.wrap .i64 (j-1):Int).toNat]?).bind fun x2=>
   (C bp [.int .i64 ((x1.cell 0).toInt),.int .i64 ((x1.cell 1).toInt),.list aa ((x1.cell 2).toList),.int .i64 ((x2.cell 0).toInt),.int .i64 ((x2.cell 1).toInt),.list aa ((x2.cell 2).toList)]).bind fun r3=>
   bif decide ((((V.nth r3 0).toInt):Int)<0) then
   bif (decide (0≤(IntKind.wrap .i64 (j-1))))&&(decide ((IntKind.wrap .i64 (j-1))<(ak.length:Int))) then
    (ak[(IntKind.wrap .i64 (j-1):Int).toNat]?).bind fun x4=>
    bif (decide (0≤j))&&(decide (j<(ak.length:Int))) then
    (ak[(j:Int).toNat]?).bind fun x5=>
    bif (decide (0≤j))&&(decide (j<(ak.length:Int))) then
     (ak[(j:Int).toNat]?).bind fun x6=>
     bif (decide (0≤(IntKind.wrap .i64 (j-1))))&&(decide ((IntKind.wrap .i64 (j-1))<((ak.set ((j:Int).toNat) (.agg [.int .i64 ((x4.cell 0).toInt),.int .i64 ((x4.cell 1).toInt),.list aa ((x4.cell 2).toList)])).length:Int))) then
     ((ak.set ((j:Int).toNat) (.agg [.int .i64 ((x4.cell 0).toInt),.int .i64 ((x4.cell 1).toInt),.list aa ((x4.cell 2).toList)]))[(IntKind.wrap .i64 (j-1):Int).toNat]?).bind fun x7=>
     kn (IntKind.wrap .i64 (j-1),(ak.set ((j:Int).toNat) (.agg [.int .i64 ((x4.cell 0).toInt),.int .i64 ((x4.cell 1).toInt),.list aa ((x4.cell 2).toList)])).set ((IntKind.wrap .i64 (j-1):Int).toNat) (.agg [.int .i64 ((x5.cell 0).toInt),.int .i64 ((x5.cell 1).toInt),.list aa ((x5.cell 2).toList)]))
     else none
    else none
    else none
   else none
   else
   kr (j,decide ((((V.nth r3 0).toInt):Int)<0),ak)
  else none
  else none
 else
  kr (j,false,ak)
noncomputable def yO (C:ae) (a b' i:Int):(Int × (List V))→Option ((Int × (List V)) ⊕ (Int × Bool × (List V))):=un fun j ak=>yN C a b' i j ak (fun y=>some (.inl y)) (fun r=>some (.inr r))
noncomputable def Cf (C:ae) (a b' i:Int) (ak:List V) {β:Type} (kn:(Int × (List V))→Option β) (kr:(Int × Bool × (List V))→Option β):Option β:=
 bif decide ((i:Int)<b') then
  (Loop (yO C a b' i) (i,ak)).bind (un fun (j_8:Int)=>un fun (td:Bool) (pe:List V)=>
   kn (IntKind.wrap .i64 (i+1),pe))
 else
  kr (i,decide ((i:Int)<b'),ak)
noncomputable def Hd (C:ae) (a b':Int):(Int × (List V))→Option ((Int × (List V)) ⊕ (Int × Bool × (List V))):=un fun i ak=>Cf C a b' i ak (fun y=>some (.inl y)) (fun r=>some (.inr r))
noncomputable def UD (C:ae):ct:=fun β n ds k=>
 bif Nat.beq n 65 then bY Mc [false,false,false,true,true] [[1,2,3,0,0,0]] (@yN C) ds k else
 bif Nat.beq n 17 then bY Md [false,false,true,true] [[1,2,0,0,0]] (@Cf C) ds k else
 none
abbrev UE (C:ae) (b:cq):Prop:=cr Tryz.prog ax C (UD C) 96 (cH Tryz.prog (ax.aV 96)) (ax.sin 96).bj.length b
theorem afR (C:ae):UE C (.loop (aw [1,0,0,1,0,0,1,0,0] Hc)):=
 b7 Mc [false,false,false,true,true] [[1,2,3,0,0,0]] (@yN C) (by kernel_rfl) (bf (bs:=[]) (by kernel_rfl) av) (fun ds=>by kernel_rfl) (fun i x=>by kernel_rfl) (fun i x β k=>by kernel_rfl) (fun β ds k=>by kernel_rfl)
theorem afS (C:ae):UE C (.loop (aw [1,0,0] Hc)):=
 b7 Md [false,false,true,true] [[1,2,0,0,0]] (@Cf C) (by kernel_rfl) (bf (bs:=[.loop (aw [1,0,0,1,0,0,1,0,0] Hc)]) (by kernel_rfl) (bx (afR C) av)) (fun ds=>by kernel_rfl) (fun i x=>by kernel_rfl) (fun i x β k=>by kernel_rfl) (fun β ds k=>by kernel_rfl)
noncomputable def UF (C:ae) (a b':Int) (ak:List V):Option (List V):=
 (Loop (Hd C a b') (IntKind.wrap .i64 (a+1),ak)).bind (un fun (amB:Int)=>un fun (GS:Bool) (Nk:List V)=>
  some [.list aa Nk])
theorem afT {a b':Int} {ak:List V} {r:Option (List V)} (h:UF CC a b' ak=r):CC By [.int .i64 a,.int .i64 b',.list aa ak]=r:=
 aY (key:=96) (L:=UD CC) (bs:=[.loop (aw [1,0,0] Hc)]) (by kernel_rfl) (bx (afS CC) av) (aW (by kernel_rfl) h)
noncomputable abbrev yP:Code:=cE Tryz.prog (ax.aV 106)
noncomputable def vM (C:ae) (hi first root child:Int) (t40:Bool) (ak:List V) {β:Type} (kr:(Int)→Option β):Option β:=
 bif t40 then
  kr (IntKind.wrap .i64 (child+1))
 else
  kr child
noncomputable def tp (C:ae) (hi first root:Int) (ak:List V) {β:Type} (kn:(Int × (List V))→Option β) (kr:((Int × Int × Bool × (List V)) ⊕ (Int × Int × Bool × (List V)))→Option β):Option β:=
 bif decide (((IntKind.wrap .i64 ((IntKind.wrap .i64 (root*2))+1)):Int)≥hi) then
  kr (.inl (root,IntKind.wrap .i64 ((IntKind.wrap .i64 (root*2))+1),decide (((IntKind.wrap .i64 ((IntKind.wrap .i64 (root*2))+1)):Int)≥hi),ak))
 else
  bif decide (((IntKind.wrap .i64 ((IntKind.wrap .i64 ((IntKind.wrap .i64 (root*2))+1))+1)):Int)<hi) then
  bif (decide (0≤(IntKind.wrap .i64 (first+(IntKind.wrap .i64 ((IntKind.wrap .i64 (root*2))+1))))))&&(decide ((IntKind.wrap .i64 (first+(IntKind.wrap .i64 ((IntKind.wrap .i64 (root*2))+1))))<(ak.length:Int))) then
   (ak[(IntKind.wrap .i64 (first+(IntKind.wrap .i64 ((IntKind.wrap .i64 (root*2))+1))):Int).toNat]?).bind fun x1=>
   bif (decide (0≤(IntKind.wrap .i64 ((IntKind.wrap .i64 (first+(IntKind.wrap .i64 ((IntKind.wrap .i64 (root*2))+1))))+1))))&&(decide ((IntKind.wrap .i64 ((IntKind.wrap .i64 (first+(IntKind.wrap .i64 ((IntKind.wrap .i64 (root*2))+1))))+1))<(ak.length:Int))) then
   (ak[(IntKind.wrap .i64 ((IntKind.wrap .i64 (first+(IntKind.wrap .i64 ((IntKind.wrap .i64 (root*2))+1))))+1):Int).toNat]?).bind fun x2=>
   (C bp [.int .i64 ((x1.cell 0).toInt),.int .i64 ((x1.cell 1).toInt),.list aa ((x1.cell 2).toList),.int .i64 ((x2.cell 0).toInt),.int .i64 ((x2.cell 1).toInt),.list aa ((x2.cell 2).toList)]).bind fun r3=>
   vM C hi first root (IntKind.wrap .i64 ((IntKind.wrap .i64 (root*2))+1)) (decide ((((V.nth r3 0).toInt):Int)<0)) ak (fun (nZ:Int)=>
    bif (decide (0≤(IntKind.wrap .i64 (first+root))))&&(decide ((IntKind.wrap .i64 (first+root))<(ak.length:Int))) then
     (ak[(IntKind.wrap .i64 (first+root):Int).toNat]?).bind fun x5=>
     bif (decide (0≤(IntKind.wrap .i64 (first+nZ))))&&(decide ((IntKind.wrap .i64 (first+nZ))<(ak.length:Int))) then
     (ak[(IntKind.wrap .i64 (first+nZ):Int).toNat]?).bind fun x6=>
     (C bp [.int .i64 ((x5.cell 0).toInt),.int .i64 ((x5.cell 1).toInt),.list aa ((x5.cell 2).toList),.int .i64 ((x6.cell 0).toInt),.int .i64 ((x6.cell 1).toInt),.list aa ((x6.cell 2).toList)]).bind fun r7=>
     bif !(decide ((((V.nth r7 0).toInt):Int)<0)) then
      kr (.inr (root,nZ,!(decide ((((V.nth r7 0).toInt):Int)<0)),ak))
     else
      bif (decide (0≤(IntKind.wrap .i64 (first+nZ))))&&(decide ((IntKind.wrap .i64 (first+nZ))<(ak.length:Int))) then
      (ak[(IntKind.wrap .i64 (first+nZ):Int).toNat]?).bind fun x8=>
      bif (decide (0≤(IntKind.wrap .i64 (first+root))))&&(decide ((IntKind.wrap .i64 (first+root))<(ak.length:Int))) then
       (ak[(IntKind.wrap .i64 (first+root):Int).toNat]?).bind fun x9=>
       bif (decide (0≤(IntKind.wrap .i64 (first+root))))&&(decide ((IntKind.wrap .i64 (first+root))<(ak.length:Int))) then
       (ak[(IntKind.wrap .i64 (first+root):Int).toNat]?).bind fun mj=>
       bif (decide (0≤(IntKind.wrap .i64 (first+nZ))))&&(decide ((IntKind.wrap .i64 (first+nZ))<((ak.set ((IntKind.wrap .i64 (first+root):Int).toNat) (.agg [.int .i64 ((x8.cell 0).toInt),.int .i64 ((x8.cell 1).toInt),.list aa ((x8.cell 2).toList)])).length:Int))) then
        ((ak.set ((IntKind.wrap .i64 (first+root):Int).toNat) (.agg [.int .i64 ((x8.cell 0).toInt),.int .i64 ((x8.cell 1).toInt),.list aa ((x8.cell 2).toList)]))[(IntKind.wrap .i64 (first+nZ):Int).toNat]?).bind fun eY=>
        kn (nZ,(ak.set ((IntKind.wrap .i64 (first+root):Int).toNat) (.agg [.int .i64 ((x8.cell 0).toInt),.int .i64 ((x8.cell 1).toInt),.list aa ((x8.cell 2).toList)])).set ((IntKind.wrap .i64 (first+nZ):Int).toNat) (.agg [.int .i64 ((x9.cell 0).toInt),.int .i64 ((x9.cell 1).toInt),.list aa ((x9.cell 2).toList)]))
       else none
       else none
      else none
      else none
     else none
    else none)
   else none
  else none
  else
  vM C hi first root (IntKind.wrap .i64 ((IntKind.wrap .i64 (root*2))+1)) false ak (fun (n0:Int)=>
   bif (decide (0≤(IntKind.wrap .i64 (first+root))))&&(decide ((IntKind.wrap .i64 (first+root))<(ak.length:Int))) then
    (ak[(IntKind.wrap .i64 (first+root):Int).toNat]?).bind fun jq=>
    bif (decide (0≤(IntKind.wrap .i64 (first+n0))))&&(decide ((IntKind.wrap .i64 (first+n0))<(ak.length:Int))) then
    (ak[(IntKind.wrap .i64 (first+n0):Int).toNat]?).bind fun oa=>
    (C bp [.int .i64 ((jq.cell 0).toInt),.int .i64 ((jq.cell 1).toInt),.list aa ((jq.cell 2).toList),.int .i64 ((oa.cell 0).toInt),.int .i64 ((oa.cell 1).toInt),.list aa ((oa.cell 2).toList)]).bind fun oc=>
    bif !(decide ((((V.nth oc 0).toInt):Int)<0)) then
     kr (.inr (root,n0,!(decide ((((V.nth oc 0).toInt):Int)<0)),ak))
    else
     bif (decide (0≤(IntKind.wrap .i64 (first+n0))))&&(decide ((IntKind.wrap .i64 (first+n0))<(ak.length:Int))) then
     (ak[(IntKind.wrap .i64 (first+n0):Int).toNat]?).bind fun fB=>
     bif (decide (0≤(IntKind.wrap .i64 (first+root))))&&(decide ((IntKind.wrap .i64 (first+root))<(ak.length:Int))) then
      (ak[(IntKind.wrap .i64 (first+root):Int).toNat]?).bind fun rO=>
      bif (decide (0≤(IntKind.wrap .i64 (first+root))))&&(decide ((IntKind.wrap .i64 (first+root))<(ak.length:Int))) then
      (ak[(IntKind.wrap .i64 (first+root):Int).toNat]?).bind fun jE=>
      bif (decide (0≤(IntKind.wrap .i64 (first+n0))))&&(decide ((IntKind.wrap .i64 (first+n0))<((ak.set ((IntKind.wrap .i64 (first+root):Int).toNat) (.agg [.int .i64 ((fB.cell 0).toInt),.int .i64 ((fB.cell 1).toInt),.list aa ((fB.cell 2).toList)])).length:Int))) then
       ((ak.set ((IntKind.wrap .i64 (first+root):Int).toNat) (.agg [.int .i64 ((fB.cell 0).toInt),.int .i64 ((fB.cell 1).toInt),.list aa ((fB.cell 2).toList)]))[(IntKind.wrap .i64 (first+n0):Int).toNat]?).bind fun qh=>
       kn (n0,(ak.set ((IntKind.wrap .i64 (first+root):Int).toNat) (.agg [.int .i64 ((fB.cell 0).toInt),.int .i64 ((fB.cell 1).toInt),.list aa ((fB.cell 2).toList)])).set ((IntKind.wrap .i64 (first+n0):Int).toNat) (.agg [.int .i64 ((rO.cell 0).toInt),.int .i64 ((rO.cell 1).toInt),.list aa ((rO.cell 2).toList)]))
      else none
      else none
     else none
     else none
    else none
   else none)
noncomputable def pf (C:ae) (hi first:Int):(Int × (List V))→Option ((Int × (List V)) ⊕ ((Int × Int × Bool × (List V)) ⊕ (Int × Int × Bool × (List V)))):=un fun root ak=>tp C hi first root ak (fun y=>some (.inl y)) (fun r=>some (.inr r))
noncomputable def UG (C:ae):ct:=fun β n ds k=>
 bif Nat.beq n 655 then iI MA [[1,2,3,0,6]] (@vM C) ds k else
 bif Nat.beq n 17 then bY MB [false,false,true,true] [[1,2,0,0,0,0],[1,2,0,0,0,0]] (@tp C) ds k else
 none
abbrev UH (C:ae) (b:cq):Prop:=cr Tryz.prog ax C (UG C) 106 (cH Tryz.prog (ax.aV 106)) (ax.sin 106).bj.length b
theorem afU (C:ae):UH C (.cond 40 (aw [1,0,0,0,1,1,0,1,0] yP) (aw [1,0,0,0,1,1,0,1,1] yP)):=
 jl MA [[1,2,3,0,6]] (@vM C) (by kernel_rfl) (bf (bs:=[]) (by kernel_rfl) av) (bf (bs:=[]) (by kernel_rfl) av) (fun ds=>by kernel_rfl) (fun i β k=>by kernel_rfl) (fun β ds k=>by kernel_rfl)
theorem afV (C:ae):UH C (.loop (aw [1,0,0] yP)):=
 b7 MB [false,false,true,true] [[1,2,0,0,0,0],[1,2,0,0,0,0]] (@tp C) (by kernel_rfl) (bf (bs:=[.cond 40 (aw [1,0,0,0,1,1,0,1,0] yP) (aw [1,0,0,0,1,1,0,1,1] yP)]) (by kernel_rfl) (bx (afU C) av)) (fun ds=>by kernel_rfl) (fun i x=>by kernel_rfl) (fun i x β k=>by kernel_rfl) (fun β ds k=>by kernel_rfl)
noncomputable def UI (C:ae) (lo hi first:Int) (ak:List V):Option (List V):=
 (Loop (pf C hi first) (lo,ak)).bind (bV (un fun (amC:Int)=>un fun (amD:Int)=>un fun (GV:Bool) (afW:List V)=>
  some [.list aa afW]) (un fun (amE:Int)=>un fun (amF:Int)=>un fun (Tb:Bool) (rP:List V)=>
  some [.list aa rP]))
theorem afX {lo hi first:Int} {ak:List V} {r:Option (List V)} (h:UI CC lo hi first ak=r):CC BB [.int .i64 lo,.int .i64 hi,.int .i64 first,.list aa ak]=r:=
 aY (key:=106) (L:=UG CC) (bs:=[.loop (aw [1,0,0] yP)]) (by kernel_rfl) (bx (afV CC) av) (aW (by kernel_rfl) h)
noncomputable abbrev He:Code:=cE Tryz.prog (ax.aV 97)
noncomputable def Cg (C:ae) (first lo hi i:Int) (ak:List V) {β:Type} (kn:(Int × (List V))→Option β) (kr:(Int × Bool × (List V))→Option β):Option β:=
 bif decide ((i:Int)≥0) then
  (C BB [.int .i64 i,.int .i64 hi,.int .i64 first,.list aa ak]).bind fun r1=>
  kn (IntKind.wrap .i64 (i-1),(V.nth r1 0).toList)
 else
  kr (i,decide ((i:Int)≥0),ak)
noncomputable def Hf (C:ae) (first lo hi:Int):(Int × (List V))→Option ((Int × (List V)) ⊕ (Int × Bool × (List V))):=un fun i ak=>Cg C first lo hi i ak (fun y=>some (.inl y)) (fun r=>some (.inr r))
noncomputable def Ch (C:ae) (first lo i:Int) (ak:List V) {β:Type} (kn:(Int × (List V))→Option β) (kr:(Int × Bool × (List V))→Option β):Option β:=
 bif decide ((i:Int)≥0) then
  bif (decide (0≤(IntKind.wrap .i64 (first+i))))&&(decide ((IntKind.wrap .i64 (first+i))<(ak.length:Int))) then
  (ak[(IntKind.wrap .i64 (first+i):Int).toNat]?).bind fun x5=>
  bif (decide (0≤first))&&(decide (first<(ak.length:Int))) then
   (ak[(first:Int).toNat]?).bind fun x6=>
   bif (decide (0≤first))&&(decide (first<(ak.length:Int))) then
   (ak[(first:Int).toNat]?).bind fun x7=>
   bif (decide (0≤(IntKind.wrap .i64 (first+i))))&&(decide ((IntKind.wrap .i64 (first+i))<((ak.set ((first:Int).toNat) (.agg [.int .i64 ((x5.cell 0).toInt),.int .i64 ((x5.cell 1).toInt),.list aa ((x5.cell 2).toList)])).length:Int))) then
    ((ak.set ((first:Int).toNat) (.agg [.int .i64 ((x5.cell 0).toInt),.int .i64 ((x5.cell 1).toInt),.list aa ((x5.cell 2).toList)]))[(IntKind.wrap .i64 (first+i):Int).toNat]?).bind fun x8=>
    (C BB [.int .i64 lo,.int .i64 i,.int .i64 first,.list aa ((ak.set ((first:Int).toNat) (.agg [.int .i64 ((x5.cell 0).toInt),.int .i64 ((x5.cell 1).toInt),.list aa ((x5.cell 2).toList)])).set ((IntKind.wrap .i64 (first+i):Int).toNat) (.agg [.int .i64 ((x6.cell 0).toInt),.int .i64 ((x6.cell 1).toInt),.list aa ((x6.cell 2).toList)]))]).bind fun r9=>
    kn (IntKind.wrap .i64 (i-1),(V.nth r9 0).toList)
   else none
   else none
  else none
  else none
 else
  kr (i,decide ((i:Int)≥0),ak)
noncomputable def Hg (C:ae) (first lo:Int):(Int × (List V))→Option ((Int × (List V)) ⊕ (Int × Bool × (List V))):=un fun i ak=>Ch C first lo i ak (fun y=>some (.inl y)) (fun r=>some (.inr r))
noncomputable def UJ (C:ae):ct:=fun β n ds k=>
 bif Nat.beq n 65 then bY Me [false,false,false,true,true] [[1,2,3,0,0,0]] (@Cg C) ds k else
 bif Nat.beq n 129 then bY Mf [false,false,true,true] [[1,2,0,0,0]] (@Ch C) ds k else
 none
abbrev UK (C:ae) (b:cq):Prop:=cr Tryz.prog ax C (UJ C) 97 (cH Tryz.prog (ax.aV 97)) (ax.sin 97).bj.length b
theorem afY (C:ae):UK C (.loop (aw [1,1,1,0,1,0,0] He)):=
 b7 Me [false,false,false,true,true] [[1,2,3,0,0,0]] (@Cg C) (by kernel_rfl) (bf (bs:=[]) (by kernel_rfl) av) (fun ds=>by kernel_rfl) (fun i x=>by kernel_rfl) (fun i x β k=>by kernel_rfl) (fun β ds k=>by kernel_rfl)
theorem afZ (C:ae):UK C (.loop (aw [1,1,1,1,1,0,0] He)):=
 b7 Mf [false,false,true,true] [[1,2,0,0,0]] (@Ch C) (by kernel_rfl) (bf (bs:=[]) (by kernel_rfl) av) (fun ds=>by kernel_rfl) (fun i x=>by kernel_rfl) (fun i x β k=>by kernel_rfl) (fun β ds k=>by kernel_rfl)
noncomputable def UL (C:ae) (a b':Int) (ak:List V):Option (List V):=
 (Loop (Hf C a 0 (IntKind.wrap .i64 (b'-a))) (IntKind.wrap .i64 (Int.tdiv (IntKind.wrap .i64 ((IntKind.wrap .i64 (b'-a))-1)) 2),ak)).bind (un fun (i_2:Int)=>un fun (jm:Bool) (af0:List V)=>
  (Loop (Hg C a 0) (IntKind.wrap .i64 ((IntKind.wrap .i64 (b'-a))-1),af0)).bind (un fun (amG:Int)=>un fun (GR:Bool) (m8:List V)=>
   some [.list aa m8]))
theorem af1 {a b':Int} {ak:List V} {r:Option (List V)} (h:UL CC a b' ak=r):CC Bz [.int .i64 a,.int .i64 b',.list aa ak]=r:=
 aY (key:=97) (L:=UJ CC) (bs:=[.loop (aw [1,1,1,0,1,0,0] He),.loop (aw [1,1,1,1,1,0,0] He)]) (by kernel_rfl) (bx (afY CC) (bx (afZ CC) av)) (aW (by kernel_rfl) h)
noncomputable abbrev UM:Code:=cE Tryz.prog (ax.aV 100)
noncomputable def yQ (C:ae) (i j:Int) (ak:List V) {β:Type} (kn:(Int × Int × (List V))→Option β) (kr:(Int × Int × Bool × (List V))→Option β):Option β:=
 bif decide ((i:Int)<j) then
  bif (decide (0≤j))&&(decide (j<(ak.length:Int))) then
  (ak[(j:Int).toNat]?).bind fun x1=>
  bif (decide (0≤i))&&(decide (i<(ak.length:Int))) then
   (ak[(i:Int).toNat]?).bind fun x2=>
   bif (decide (0≤i))&&(decide (i<(ak.length:Int))) then
   (ak[(i:Int).toNat]?).bind fun x3=>
   bif (decide (0≤j))&&(decide (j<((ak.set ((i:Int).toNat) (.agg [.int .i64 ((x1.cell 0).toInt),.int .i64 ((x1.cell 1).toInt),.list aa ((x1.cell 2).toList)])).length:Int))) then
    ((ak.set ((i:Int).toNat) (.agg [.int .i64 ((x1.cell 0).toInt),.int .i64 ((x1.cell 1).toInt),.list aa ((x1.cell 2).toList)]))[(j:Int).toNat]?).bind fun x4=>
    kn (IntKind.wrap .i64 (i+1),IntKind.wrap .i64 (j-1),(ak.set ((i:Int).toNat) (.agg [.int .i64 ((x1.cell 0).toInt),.int .i64 ((x1.cell 1).toInt),.list aa ((x1.cell 2).toList)])).set ((j:Int).toNat) (.agg [.int .i64 ((x2.cell 0).toInt),.int .i64 ((x2.cell 1).toInt),.list aa ((x2.cell 2).toList)]))
   else none
   else none
  else none
  else none
 else
  kr (i,j,decide ((i:Int)<j),ak)
noncomputable def Ci (C:ae):(Int × Int × (List V))→Option ((Int × Int × (List V)) ⊕ (Int × Int × Bool × (List V))):=un fun i=>un fun j ak=>yQ C i j ak (fun y=>some (.inl y)) (fun r=>some (.inr r))
noncomputable def UN (C:ae):ct:=fun β n ds k=>
 bif Nat.beq n 33 then bY Mk [true,true,true] [[0,0,0,0]] (@yQ C) ds k else
 none
abbrev af2 (C:ae) (b:cq):Prop:=cr Tryz.prog ax C (UN C) 100 (cH Tryz.prog (ax.aV 100)) (ax.sin 100).bj.length b
theorem af3 (C:ae):af2 C (.loop (aw [1,1,0,0] UM)):=
 b7 Mk [true,true,true] [[0,0,0,0]] (@yQ C) (by kernel_rfl) (bf (bs:=[]) (by kernel_rfl) av) (fun ds=>by kernel_rfl) (fun i x=>by kernel_rfl) (fun i x β k=>by kernel_rfl) (fun β ds k=>by kernel_rfl)
noncomputable def UO (C:ae) (a b':Int) (ak:List V):Option (List V):=
 (Loop (Ci C) (a,IntKind.wrap .i64 (b'-1),ak)).bind (un fun (df:Int)=>un fun (Nc:Int)=>un fun (pb:Bool) (af4:List V)=>
  some [.list aa af4])
theorem af5 {a b':Int} {ak:List V} {r:Option (List V)} (h:UO CC a b' ak=r):CC Gm [.int .i64 a,.int .i64 b',.list aa ak]=r:=
 aY (key:=100) (L:=UN CC) (bs:=[.loop (aw [1,1,0,0] UM)]) (by kernel_rfl) (bx (af3 CC) av) (aW (by kernel_rfl) h)
end Go.AM
set_option maxRecDepth 100000
set_option maxHeartbeats 4000000
namespace Go.AM.SX
open Go.Proofs Go.Sort
def aA (a b:XE):Bool:=decide (cf a b<0)
theorem tq (a b:XE):(aA a b=true)=(cf a b<0):=by unfold aA;rw[eg]
theorem rQ (a b:XE):((!aA a b)=true)= ¬(cf a b<0):=by unfold aA;simp
abbrev eA (d:Array XE):List V:=qg XE.enc d
theorem af6 (a j:Nat) (d:Array XE):insInner aA a (j+1) d=if j+1>a then (if cf d[j+1]! d[j]! <0 then insInner aA a j (swp d (j+1) j) else d) else d:=by
 rw[UC]
 by_cases h1:j+1>a
 ·rw[aj h1];simp only[h1,sh,my,tq]
 ·rw[ai h1,ai (by simp[h1])]
theorem Nl (hi first root:Nat) (d:Array XE):siftDown aA hi first root d=
  if 2*root+1≥hi then d else
   if 2*root+2<hi then
    (if cf d[first+(2*root+1)]! d[first+(2*root+2)]! <0 then
     (if cf d[first+root]! d[first+(2*root+2)]! <0 then siftDown aA hi first (2*root+2) (swp d (first+root) (first+(2*root+2))) else d)
    else (if cf d[first+root]! d[first+(2*root+1)]! <0 then siftDown aA hi first (2*root+1) (swp d (first+root) (first+(2*root+1))) else d))
   else (if cf d[first+root]! d[first+(2*root+1)]! <0 then siftDown aA hi first (2*root+1) (swp d (first+root) (first+(2*root+1))) else d):=by
 rw[siftDown]
 by_cases h1:2*root+1≥hi
 ·rw[sf h1,aj h1]
 rw[dif_neg h1,ai h1]
 by_cases U:2*root+2<hi
 ·rw[aj U]
  by_cases h3:cf d[first+(2*root+1)]! d[first+(2*root+2)]! <0
  ·rw[aj h3,aj (by simp only[aP,eg,tq];exact ⟨U,h3⟩)]
   simp only[rQ]
   by_cases h4:cf d[first+root]! d[first+(2*root+2)]! <0
   ·rw[ai (qC h4),sf U,aj h4]
   ·rw[aj h4,ai h4]
  ·rw[ai h3,ai (by simp only[aP,eg,tq];exact fun h=>h3 h.2)]
   simp only[rQ]
   by_cases h4:cf d[first+root]! d[first+(2*root+1)]! <0
   ·rw[ai (qC h4),aj h4]
   ·rw[aj h4,ai h4]
 ·rw[ai U,ai (by simp only[aP,eg,tq];exact fun h=>U h.1)]
  simp only[rQ]
  by_cases h4:cf d[first+root]! d[first+(2*root+1)]! <0
  ·rw[ai (qC h4),aj h4]
  ·rw[aj h4,ai h4]
theorem UP {a b i:Nat}: ∀(j:Nat) (d:Array XE),j<d.size→d.size<1152921504606846976→
  ∃j' t,Loop (yO CC a b i) ((j:Int),eA d)=some (j',t,eA (insInner aA a j d))
 | 0,d,hj,hs=>⟨(0:Nat),false,aS (by
   simp (disch:=omega) only[yO,yN,un,az,ai]
   rfl)⟩
 | j+1,d,hj,hs=>by
  obtain ⟨j',t,ih⟩:=UP (a:=a) (b:=b) (i:=i) j (swp d (j+1) j) (by rw[size_swp];omega) (by rw[size_swp];omega)
  rw[af6]
  by_cases h1:j+1>a
  ·rw[aj h1]
   have e:yO CC a b i (((j+1:Nat):Int),eA d)=if cf d[j+1]! d[j]! <0 then some (.inl ((j:Int),eA (swp d (j+1) j))) else some (.inr (((j+1:Nat):Int),decide (cf d[j+1]! d[j]! <0),eA d)):=by
    simp (disch:=omega) only[yO,yN,un,az,dc,ig,aj,ai,wrap64,dW,gi,Int.toNat_natCast,Option.bind_some,gf,gh,XE.aU,XE.aZ,XE.aX,XE.re,gg,iJ,gZ,gW,V.aM,V.toInt_int,cond_true,cond_false,vL]
    rfl
   by_cases U:cf d[j+1]! d[j]! <0
   ·rw[aj U] at e⊢
    exact ⟨j',t,(bJ e).trans ih⟩
   ·rw[ai U] at e⊢
    exact ⟨_,_,aS e⟩
  ·rw[ai h1]
   exact ⟨((j+1:Nat):Int),false,aS (by
    simp (disch:=omega) only[yO,yN,un,az,ai])⟩
theorem af7 {a b:Nat}: ∀(n i:Nat) (d:Array XE),b-i=n→b≤d.size→d.size<1152921504606846976→
  ∃j' t,Loop (Hd CC a b) ((i:Int),eA d)=some (j',t,eA (insOuter aA a b i d)):=by
 intro n
 induction n with
 | zero=>
  intro i d hn hb hs
  rw[insOuter,ai (by omega)]
  exact ⟨(i:Int),false,aS (by
   simp (disch:=omega) only[Hd,Cf,un,tn,cond_false])⟩
 | succ n ih=>
  intro i d hn hb hs
  obtain ⟨j1,t1,h1⟩:=UP (a:=a) (b:=b) (i:=i) i d (by omega) hs
  obtain ⟨j',t,U⟩:=ih (i+1) (insInner aA a i d) (by omega) (by rw[Ni];omega) (by rw[Ni];omega)
  rw[insOuter,aj (by omega)]
  refine ⟨j',t,(bJ ?_).trans U⟩
  simp (disch:=omega) only[Hd,Cf,un,az,aj,h1,Option.bind_some,dW,wrap64]
theorem UQ {a b:Nat} {d:Array XE} (hb:b≤d.size) (hs:d.size<1152921504606846976) (ha:a<1152921504606846976):
  CC By [.int .i64 (a:Int),.int .i64 (b:Int),.list aa (eA d)]=some [.list aa (eA (insertionSort aA d a b))]:=by
 refine afT ?_
 unfold UF
 obtain ⟨j',t,h⟩:=af7 (a:=a) (b:=b) _ (a+1) d rfl hb hs
 simp (disch:=omega) only[dW,wrap64]
 rw[h]
 rfl
theorem af8 (hi first:Nat): ∀(n root:Nat) (d:Array XE),hi-root≤n→root<1152921504606846976→first+hi≤d.size→d.size<1152921504606846976→
  (∃x y z,Loop (pf CC hi first) ((root:Int),eA d)=some (.inl (x,y,z,eA (siftDown aA hi first root d))))∨
  (∃x y z,Loop (pf CC hi first) ((root:Int),eA d)=some (.inr (x,y,z,eA (siftDown aA hi first root d)))):=by
 intro n
 induction n with
 | zero=>
  intro root d hn hr hb hs
  rw[Nl,aj (by omega)]
  exact .inl ⟨(root:Int),((root*2+1:Nat):Int),true,aS (by
   simp (disch:=omega) only[pf,tp,un,Cd,dW,wrap64];rw[nY (by omega)];rfl)⟩
 | succ n ih=>
  intro root d hn hr hb hs
  by_cases h1:2*root+1≥hi
  ·rw[Nl,aj h1]
   exact .inl ⟨(root:Int),((root*2+1:Nat):Int),true,aS (by
    simp (disch:=omega) only[pf,tp,un,Cd,dW,wrap64];rw[nY (by omega)];rfl)⟩
  ·have go: ∀c:Nat,c<hi→root<c→(pf CC hi first ((root:Int),eA d)=
      if cf d[first+root]! d[first+c]! <0 then some (.inl ((c:Int),eA (swp d (first+root) (first+c)))) else some (.inr (.inr ((root:Int),(c:Int),true,eA d))))→
     siftDown aA hi first root d=(if cf d[first+root]! d[first+c]! <0 then siftDown aA hi first c (swp d (first+root) (first+c)) else d)→
     ((∃x y z,Loop (pf CC hi first) ((root:Int),eA d)=some (.inl (x,y,z,eA (siftDown aA hi first root d))))∨
     (∃x y z,Loop (pf CC hi first) ((root:Int),eA d)=some (.inr (x,y,z,eA (siftDown aA hi first root d))))):=by
    intro c hc hrc e1 e2
    rw[e2]
    by_cases h3:cf d[first+root]! d[first+c]! <0
    ·rw[aj h3] at e1
     rw[aj h3,bJ e1]
     exact ih c _ (by omega) (by omega) (by rw[size_swp];omega) (by rw[size_swp];omega)
    ·rw[ai h3] at e1
     rw[ai h3,aS e1]
     exact .inr ⟨_,_,_,rfl⟩
   have e0:=Nl hi first root d
   rw[ai h1] at e0
   by_cases U:2*root+2<hi
   ·rw[aj U] at e0
    by_cases h3:cf d[first+(2*root+1)]! d[first+(2*root+2)]! <0
    ·rw[aj h3] at e0
     refine go (2*root+2) (by omega) (by omega) ?_ e0
     rw[oB 2 root] at h3
     simp (disch:=omega) only[pf,tp,un,Cd,dW,gi,wrap64]
     rw[az,ai (by omega),az,aj (by omega)]
     simp (disch:=omega) only[vM,az,dc,ig,aj,ai,wrap64,dW,gi,Int.toNat_natCast,Option.bind_some,gf,gh,XE.aU,XE.aZ,XE.aX,XE.re,gg,iJ,gZ,gW,V.aM,V.toInt_int,cond_true,cond_false,oB 2 root,nY]
     by_cases h4:cf d[first+root]! d[first+(root*2+2)]! <0
     ·simp only[h4,cW];rfl
     ·simp only[h4,fG];rfl
    ·rw[ai h3] at e0
     refine go (2*root+1) (by omega) (by omega) ?_ e0
     rw[oB 2 root] at h3
     simp (disch:=omega) only[pf,tp,un,Cd,dW,gi,wrap64]
     rw[az,ai (by omega),az,aj (by omega)]
     simp (disch:=omega) only[vM,az,dc,ig,aj,ai,wrap64,dW,gi,Int.toNat_natCast,Option.bind_some,gf,gh,XE.aU,XE.aZ,XE.aX,XE.re,gg,iJ,gZ,gW,V.aM,V.toInt_int,cond_true,cond_false,oB 2 root,tn]
     by_cases h4:cf d[first+root]! d[first+(root*2+1)]! <0
     ·simp only[h4,cW];rfl
     ·simp only[h4,fG];rfl
   ·rw[ai U] at e0
    refine go (2*root+1) (by omega) (by omega) ?_ e0
    simp (disch:=omega) only[pf,tp,un,Cd,dW,gi,wrap64]
    rw[az,ai (by omega),az,ai (by omega)]
    simp (disch:=omega) only[vM,az,dc,ig,aj,ai,wrap64,dW,gi,Int.toNat_natCast,Option.bind_some,gf,gh,XE.aU,XE.aZ,XE.aX,XE.re,gg,iJ,gZ,gW,V.aM,V.toInt_int,cond_true,cond_false,oB 2 root]
    by_cases h4:cf d[first+root]! d[first+(root*2+1)]! <0
    ·simp only[h4,cW];rfl
    ·simp only[h4,fG];rfl
theorem UR {lo hi first:Nat} {d:Array XE} (hl:lo<1152921504606846976) (hb:first+hi≤d.size) (hs:d.size<1152921504606846976):
  CC BB [.int .i64 (lo:Int),.int .i64 (hi:Int),.int .i64 (first:Int),.list aa (eA d)]=some [.list aa (eA (siftDown aA hi first lo d))]:=by
 refine afX ?_
 unfold UI
 rcases af8 hi first _ lo d (cg _) hl hb hs with ⟨x,y,z,h⟩|⟨x,y,z,h⟩
 ·rw[h];rfl
 ·rw[h];rfl
theorem US {hi first:Nat}: ∀(k:Nat) (d:Array XE),k<1152921504606846976→first+hi≤d.size→d.size<1152921504606846976→
  ∃x y,Loop (Hf CC first 0 hi) ((k:Int)-1,eA d)=some (x,y,eA (heapBuild aA hi first k d))
 | 0,d,hk,hb,hs=>⟨-1,false,aS (by
   simp (disch:=omega) only[Hf,Cg,un,az,ai]
   rfl)⟩
 | k+1,d,hk,hb,hs=>by
  obtain ⟨x,y,ih⟩:=US (hi:=hi) (first:=first) k (siftDown aA hi first k d) (by omega) (by rw[Ce _ _ _ _ _ (cg _)];omega) (by rw[Ce _ _ _ _ _ (cg _)];omega)
  refine ⟨x,y,(bJ ?_).trans ih⟩
  simp (disch:=omega) only[Hf,Cg,un,az,aj,vL,UR,Option.bind_some,V.aM,V.kM,wrap64]
theorem UT {first:Nat}: ∀(k:Nat) (d:Array XE),k<1152921504606846976→first+k≤d.size→d.size<1152921504606846976→
  ∃x y,Loop (Hg CC first 0) ((k:Int)-1,eA d)=some (x,y,eA (heapPop aA first k d))
 | 0,d,hk,hb,hs=>⟨-1,false,aS (by
   simp (disch:=omega) only[Hg,Ch,un,az,ai]
   rfl)⟩
 | k+1,d,hk,hb,hs=>by
  obtain ⟨x,y,ih⟩:=UT (first:=first) k (siftDown aA k first 0 (swp d first (first+k))) (by omega) (by rw[Ce _ _ _ _ _ (cg _),size_swp];omega) (by rw[Ce _ _ _ _ _ (cg _),size_swp];omega)
  refine ⟨x,y,(bJ ?_).trans ih⟩
  have ia:=UR (lo:=0) (hi:=k) (first:=first) (d:=swp d first (first+k)) (by omega) (by rw[size_swp];omega) (by rw[size_swp];omega)
  unfold swp at ia⊢
  rw[show ((0:Nat):Int)=0 from rfl] at ia
  simp (disch:=omega) only[Hg,Ch,un,vL,az,dc,ig,aj,ai,wrap64,dW,gi,Int.toNat_natCast,Option.bind_some,gf,gh,XE.aU,XE.aZ,XE.aX,XE.re,gg,iJ,gZ,gW,V.aM,V.toInt_int,cond_true,cond_false]
  rw[ia]
  simp (disch:=omega) only[Option.bind_some,V.aM,V.kM,wrap64]
theorem af9 {a b:Nat} {d:Array XE} (fu:a<b) (hb:b≤d.size) (hs:d.size<1152921504606846976):
  CC Bz [.int .i64 (a:Int),.int .i64 (b:Int),.list aa (eA d)]=some [.list aa (eA (heapSort aA d a b))]:=by
 refine af1 ?_
 unfold UL
 obtain ⟨x,y,h1⟩:=US (hi:=b-a) (first:=a) ((b-a-1)/2+1) d (by omega) (by omega) hs
 obtain ⟨x2,y2,U⟩:=UT (first:=a) (b-a) (heapBuild aA (b-a) a ((b-a-1)/2+1) d) (by omega) (by rw[Nj];omega) (by rw[Nj];omega)
 have e1:((((b-a-1)/2+1:Nat):Int)-1)=Int.tdiv (((b-a:Nat):Int)-1) 2:=by
  rw[Int.tdiv_eq_ediv_of_nonneg (by omega)]
  omega
 rw[e1] at h1
 simp (disch:=omega) only[m7,wrap64]
 rw[h1]
 simp only[Option.bind_some,un]
 rw[U]
 rfl
theorem aga: ∀(n i j:Nat) (d:Array XE),j-i≤n→j<d.size→d.size<1152921504606846976→
  ∃x y z,Loop (Ci CC) ((i:Int),(j:Int),eA d)=some (x,y,z,eA (reverseLoop i j d)):=by
 intro n
 induction n with
 | zero=>
  intro i j d hn hj hs
  rw[reverseLoop,ai (by omega)]
  exact ⟨(i:Int),(j:Int),false,aS (by
   simp (disch:=omega) only[Ci,yQ,un,tn,cond_false])⟩
 | succ n ih=>
  intro i j d hn hj hs
  rw[reverseLoop]
  by_cases h:i<j
  ·rw[aj h]
   obtain ⟨x,y,z,U⟩:=ih (i+1) (j-1) (swp d i j) (by omega) (by rw[size_swp];omega) (by rw[size_swp];omega)
   refine ⟨x,y,z,(bJ ?_).trans U⟩
   simp (disch:=omega) only[Ci,yQ,un,az,dc,ig,aj,ai,wrap64,dW,gi,Int.toNat_natCast,Option.bind_some,gf,gh,XE.aU,XE.aZ,XE.aX,XE.re,gg,iJ,gZ,gW,V.aM,V.toInt_int,cond_true,cond_false,kV]
   rfl
  ·rw[ai h]
   exact ⟨(i:Int),(j:Int),false,aS (by
    simp (disch:=omega) only[Ci,yQ,un,tn,cond_false])⟩
theorem agb {a b:Nat} {d:Array XE} (fu:a<b) (hb:b≤d.size) (hs:d.size<1152921504606846976):
  CC Gm [.int .i64 (a:Int),.int .i64 (b:Int),.list aa (eA d)]=some [.list aa (eA (reverseRange d a b))]:=by
 refine af5 ?_
 unfold UO
 obtain ⟨x,y,z,h⟩:=aga _ a (b-1) d (cg _) (by omega) hs
 simp (disch:=omega) only[kV,wrap64]
 rw[h]
 rfl
end Go.AM.SX
set_option maxRecDepth 100000
namespace Go.AM
open Go.Proofs
noncomputable abbrev qi:Code:=cE Tryz.prog (ax.aV 103)
noncomputable def Cj (C:ae) (a j:Int) (ak:List V) (i:Int) {β:Type} (kn:Int→Option β) (kr:(Int × Bool)→Option β):Option β:=
 bif decide ((i:Int)≤j) then
  bif (decide (0≤i))&&(decide (i<(ak.length:Int))) then
  (ak[(i:Int).toNat]?).bind fun x5=>
  bif (decide (0≤a))&&(decide (a<(ak.length:Int))) then
   (ak[(a:Int).toNat]?).bind fun x6=>
   (C bp [.int .i64 ((x5.cell 0).toInt),.int .i64 ((x5.cell 1).toInt),.list aa ((x5.cell 2).toList),.int .i64 ((x6.cell 0).toInt),.int .i64 ((x6.cell 1).toInt),.list aa ((x6.cell 2).toList)]).bind fun r7=>
   bif decide ((((V.nth r7 0).toInt):Int)<0) then
   kn (IntKind.wrap .i64 (i+1))
   else
   kr (i,decide ((((V.nth r7 0).toInt):Int)<0))
  else none
  else none
 else
  kr (i,false)
noncomputable def Ck (C:ae) (a j:Int) (ak:List V):(Int)→Option ((Int) ⊕ (Int × Bool)):=fun i=>Cj C a j ak i (fun y=>some (.inl y)) (fun r=>some (.inr r))
noncomputable def yR (C:ae) (a i:Int) (ak:List V) (j:Int) {β:Type} (kn:Int→Option β) (kr:(Int × Bool)→Option β):Option β:=
 bif decide ((i:Int)≤j) then
  bif (decide (0≤j))&&(decide (j<(ak.length:Int))) then
  (ak[(j:Int).toNat]?).bind fun mj=>
  bif (decide (0≤a))&&(decide (a<(ak.length:Int))) then
   (ak[(a:Int).toNat]?).bind fun eY=>
   (C bp [.int .i64 ((mj.cell 0).toInt),.int .i64 ((mj.cell 1).toInt),.list aa ((mj.cell 2).toList),.int .i64 ((eY.cell 0).toInt),.int .i64 ((eY.cell 1).toInt),.list aa ((eY.cell 2).toList)]).bind fun ep=>
   bif !(decide ((((V.nth ep 0).toInt):Int)<0)) then
   kn (IntKind.wrap .i64 (j-1))
   else
   kr (j,!(decide ((((V.nth ep 0).toInt):Int)<0)))
  else none
  else none
 else
  kr (j,false)
noncomputable def yS (C:ae) (a i:Int) (ak:List V):(Int)→Option ((Int) ⊕ (Int × Bool)):=fun j=>yR C a i ak j (fun y=>some (.inl y)) (fun r=>some (.inr r))
noncomputable def Cl (C:ae) (a j:Int) (ak:List V) (i:Int) {β:Type} (kn:Int→Option β) (kr:(Int × Bool)→Option β):Option β:=
 bif decide ((i:Int)≤j) then
  bif (decide (0≤i))&&(decide (i<(ak.length:Int))) then
  (ak[(i:Int).toNat]?).bind fun jZ=>
  bif (decide (0≤a))&&(decide (a<(ak.length:Int))) then
   (ak[(a:Int).toNat]?).bind fun pg=>
   (C bp [.int .i64 ((jZ.cell 0).toInt),.int .i64 ((jZ.cell 1).toInt),.list aa ((jZ.cell 2).toList),.int .i64 ((pg.cell 0).toInt),.int .i64 ((pg.cell 1).toInt),.list aa ((pg.cell 2).toList)]).bind fun Cm=>
   bif decide ((((V.nth Cm 0).toInt):Int)<0) then
   kn (IntKind.wrap .i64 (i+1))
   else
   kr (i,decide ((((V.nth Cm 0).toInt):Int)<0))
  else none
  else none
 else
  kr (i,false)
noncomputable def Cn (C:ae) (a j:Int) (ak:List V):(Int)→Option ((Int) ⊕ (Int × Bool)):=fun i=>Cl C a j ak i (fun y=>some (.inl y)) (fun r=>some (.inr r))
noncomputable def yT (C:ae) (a i:Int) (ak:List V) (j:Int) {β:Type} (kn:Int→Option β) (kr:(Int × Bool)→Option β):Option β:=
 bif decide ((i:Int)≤j) then
  bif (decide (0≤j))&&(decide (j<(ak.length:Int))) then
  (ak[(j:Int).toNat]?).bind fun vN=>
  bif (decide (0≤a))&&(decide (a<(ak.length:Int))) then
   (ak[(a:Int).toNat]?).bind fun vO=>
   (C bp [.int .i64 ((vN.cell 0).toInt),.int .i64 ((vN.cell 1).toInt),.list aa ((vN.cell 2).toList),.int .i64 ((vO.cell 0).toInt),.int .i64 ((vO.cell 1).toInt),.list aa ((vO.cell 2).toList)]).bind fun qj=>
   bif !(decide ((((V.nth qj 0).toInt):Int)<0)) then
   kn (IntKind.wrap .i64 (j-1))
   else
   kr (j,!(decide ((((V.nth qj 0).toInt):Int)<0)))
  else none
  else none
 else
  kr (j,false)
noncomputable def yU (C:ae) (a i:Int) (ak:List V):(Int)→Option ((Int) ⊕ (Int × Bool)):=fun j=>yT C a i ak j (fun y=>some (.inl y)) (fun r=>some (.inr r))
noncomputable def Co (C:ae) (a i j:Int) (ak:List V) {β:Type} (kn:(Int × Int × (List V))→Option β) (kr:(Int × Int × Bool × (List V))→Option β):Option β:=
 (Loop (Cn C a j ak) i).bind (un fun (ml:Int) (Tc:Bool)=>
  (Loop (yU C a ml ak) j).bind (un fun (ph:Int) (acG:Bool)=>
   bif decide ((ml:Int)>ph) then
    kr (ml,ph,decide ((ml:Int)>ph),ak)
   else
    bif (decide (0≤ph))&&(decide (ph<(ak.length:Int))) then
    (ak[(ph:Int).toNat]?).bind fun rR=>
    bif (decide (0≤ml))&&(decide (ml<(ak.length:Int))) then
     (ak[(ml:Int).toNat]?).bind fun Nn=>
     bif (decide (0≤ml))&&(decide (ml<(ak.length:Int))) then
     (ak[(ml:Int).toNat]?).bind fun x35=>
     bif (decide (0≤ph))&&(decide (ph<((ak.set ((ml:Int).toNat) (.agg [.int .i64 ((rR.cell 0).toInt),.int .i64 ((rR.cell 1).toInt),.list aa ((rR.cell 2).toList)])).length:Int))) then
      ((ak.set ((ml:Int).toNat) (.agg [.int .i64 ((rR.cell 0).toInt),.int .i64 ((rR.cell 1).toInt),.list aa ((rR.cell 2).toList)]))[(ph:Int).toNat]?).bind fun x36=>
      kn (IntKind.wrap .i64 (ml+1),IntKind.wrap .i64 (ph-1),(ak.set ((ml:Int).toNat) (.agg [.int .i64 ((rR.cell 0).toInt),.int .i64 ((rR.cell 1).toInt),.list aa ((rR.cell 2).toList)])).set ((ph:Int).toNat) (.agg [.int .i64 ((Nn.cell 0).toInt),.int .i64 ((Nn.cell 1).toInt),.list aa ((Nn.cell 2).toList)]))
     else none
     else none
    else none
    else none))
noncomputable def yV (C:ae) (a:Int):(Int × Int × (List V))→Option ((Int × Int × (List V)) ⊕ (Int × Int × Bool × (List V))):=un fun i=>un fun j ak=>Co C a i j ak (fun y=>some (.inl y)) (fun r=>some (.inr r))
noncomputable def UU (C:ae):ct:=fun β n ds k=>
 bif Nat.beq n 49 then bY Mt [false,true,false,false] [[1,0,3,0,4]] (@Cj C) ds k else
 bif Nat.beq n 81 then bY Mu [false,false,true,false] [[1,2,0,0,4]] (@yR C) ds k else
 bif Nat.beq n 209 then bY Mv [false,true,false,false] [[1,0,3,0,4]] (@Cl C) ds k else
 bif Nat.beq n 241 then bY Mw [false,false,true,false] [[1,2,0,0,4]] (@yT C) ds k else
 bif Nat.beq n 210 then bY Mx [false,true,true,true] [[1,0,0,0,0]] (@Co C) ds k else
 none
abbrev Cp (C:ae) (b:cq):Prop:=cr Tryz.prog ax C (UU C) 103 (cH Tryz.prog (ax.aV 103)) (ax.sin 103).bj.length b
theorem agc (C:ae):Cp C (.loop (aw [1,1,1,0,0,0] qi)):=
 b7 Mt [false,true,false,false] [[1,0,3,0,4]] (@Cj C) (by kernel_rfl) (bf (bs:=[]) (by kernel_rfl) av) (fun ds=>by kernel_rfl) (fun i x=>by kernel_rfl) (fun i x β k=>by kernel_rfl) (fun β ds k=>by kernel_rfl)
theorem agd (C:ae):Cp C (.loop (aw [1,1,1,1,0,0,0] qi)):=
 b7 Mu [false,false,true,false] [[1,2,0,0,4]] (@yR C) (by kernel_rfl) (bf (bs:=[]) (by kernel_rfl) av) (fun ds=>by kernel_rfl) (fun i x=>by kernel_rfl) (fun i x β k=>by kernel_rfl) (fun β ds k=>by kernel_rfl)
theorem age (C:ae):Cp C (.loop (aw [1,1,1,1,1,1,1,1,1,0,0,0,0,0,0,0] qi)):=
 b7 Mv [false,true,false,false] [[1,0,3,0,4]] (@Cl C) (by kernel_rfl) (bf (bs:=[]) (by kernel_rfl) av) (fun ds=>by kernel_rfl) (fun i x=>by kernel_rfl) (fun i x β k=>by kernel_rfl) (fun β ds k=>by kernel_rfl)
theorem agf (C:ae):Cp C (.loop (aw [1,1,1,1,1,1,1,1,1,0,0,0,0,1,0,0,0] qi)):=
 b7 Mw [false,false,true,false] [[1,2,0,0,4]] (@yT C) (by kernel_rfl) (bf (bs:=[]) (by kernel_rfl) av) (fun ds=>by kernel_rfl) (fun i x=>by kernel_rfl) (fun i x β k=>by kernel_rfl) (fun β ds k=>by kernel_rfl)
theorem agh (C:ae):Cp C (.loop (aw [1,1,1,1,1,1,1,1,1,0,0,0] qi)):=
 b7 Mx [false,true,true,true] [[1,0,0,0,0]] (@Co C) (by kernel_rfl) (bf (bs:=[.loop (aw [1,1,1,1,1,1,1,1,1,0,0,0,0,0,0,0] qi),.loop (aw [1,1,1,1,1,1,1,1,1,0,0,0,0,1,0,0,0] qi)]) (by kernel_rfl) (bx (age C) (bx (agf C) av))) (fun ds=>by kernel_rfl) (fun i x=>by kernel_rfl) (fun i x β k=>by kernel_rfl) (fun β ds k=>by kernel_rfl)
noncomputable def UW (C:ae) (a b' pivot:Int) (ak:List V):Option (List V):=
 bif (decide (0≤pivot))&&(decide (pivot<(ak.length:Int))) then
  (ak[(pivot:Int).toNat]?).bind fun x1=>
  bif (decide (0≤a))&&(decide (a<(ak.length:Int))) then
  (ak[(a:Int).toNat]?).bind fun x2=>
  bif (decide (0≤a))&&(decide (a<(ak.length:Int))) then
   (ak[(a:Int).toNat]?).bind fun x3=>
   bif (decide (0≤pivot))&&(decide (pivot<((ak.set ((a:Int).toNat) (.agg [.int .i64 ((x1.cell 0).toInt),.int .i64 ((x1.cell 1).toInt),.list aa ((x1.cell 2).toList)])).length:Int))) then
   ((ak.set ((a:Int).toNat) (.agg [.int .i64 ((x1.cell 0).toInt),.int .i64 ((x1.cell 1).toInt),.list aa ((x1.cell 2).toList)]))[(pivot:Int).toNat]?).bind fun x4=>
   (Loop (Ck C a (IntKind.wrap .i64 (b'-1)) ((ak.set ((a:Int).toNat) (.agg [.int .i64 ((x1.cell 0).toInt),.int .i64 ((x1.cell 1).toInt),.list aa ((x1.cell 2).toList)])).set ((pivot:Int).toNat) (.agg [.int .i64 ((x2.cell 0).toInt),.int .i64 ((x2.cell 1).toInt),.list aa ((x2.cell 2).toList)]))) (IntKind.wrap .i64 (a+1))).bind (un fun (fk:Int) (td:Bool)=>
    (Loop (yS C a fk ((ak.set ((a:Int).toNat) (.agg [.int .i64 ((x1.cell 0).toInt),.int .i64 ((x1.cell 1).toInt),.list aa ((x1.cell 2).toList)])).set ((pivot:Int).toNat) (.agg [.int .i64 ((x2.cell 0).toInt),.int .i64 ((x2.cell 1).toInt),.list aa ((x2.cell 2).toList)]))) (IntKind.wrap .i64 (b'-1))).bind (un fun (eI:Int) (qe:Bool)=>
     bif decide ((fk:Int)>eI) then
      bif (decide (0≤a))&&(decide (a<(((ak.set ((a:Int).toNat) (.agg [.int .i64 ((x1.cell 0).toInt),.int .i64 ((x1.cell 1).toInt),.list aa ((x1.cell 2).toList)])).set ((pivot:Int).toNat) (.agg [.int .i64 ((x2.cell 0).toInt),.int .i64 ((x2.cell 1).toInt),.list aa ((x2.cell 2).toList)])).length:Int))) then
      (((ak.set ((a:Int).toNat) (.agg [.int .i64 ((x1.cell 0).toInt),.int .i64 ((x1.cell 1).toInt),.list aa ((x1.cell 2).toList)])).set ((pivot:Int).toNat) (.agg [.int .i64 ((x2.cell 0).toInt),.int .i64 ((x2.cell 1).toInt),.list aa ((x2.cell 2).toList)]))[(a:Int).toNat]?).bind fun gj=>
      bif (decide (0≤eI))&&(decide (eI<(((ak.set ((a:Int).toNat) (.agg [.int .i64 ((x1.cell 0).toInt),.int .i64 ((x1.cell 1).toInt),.list aa ((x1.cell 2).toList)])).set ((pivot:Int).toNat) (.agg [.int .i64 ((x2.cell 0).toInt),.int .i64 ((x2.cell 1).toInt),.list aa ((x2.cell 2).toList)])).length:Int))) then
       (((ak.set ((a:Int).toNat) (.agg [.int .i64 ((x1.cell 0).toInt),.int .i64 ((x1.cell 1).toInt),.list aa ((x1.cell 2).toList)])).set ((pivot:Int).toNat) (.agg [.int .i64 ((x2.cell 0).toInt),.int .i64 ((x2.cell 1).toInt),.list aa ((x2.cell 2).toList)]))[(eI:Int).toNat]?).bind fun fB=>
       bif (decide (0≤eI))&&(decide (eI<(((ak.set ((a:Int).toNat) (.agg [.int .i64 ((x1.cell 0).toInt),.int .i64 ((x1.cell 1).toInt),.list aa ((x1.cell 2).toList)])).set ((pivot:Int).toNat) (.agg [.int .i64 ((x2.cell 0).toInt),.int .i64 ((x2.cell 1).toInt),.list aa ((x2.cell 2).toList)])).length:Int))) then
       (((ak.set ((a:Int).toNat) (.agg [.int .i64 ((x1.cell 0).toInt),.int .i64 ((x1.cell 1).toInt),.list aa ((x1.cell 2).toList)])).set ((pivot:Int).toNat) (.agg [.int .i64 ((x2.cell 0).toInt),.int .i64 ((x2.cell 1).toInt),.list aa ((x2.cell 2).toList)]))[(eI:Int).toNat]?).bind fun rO=>
       bif (decide (0≤a))&&(decide (a<((((ak.set ((a:Int).toNat) (.agg [.int .i64 ((x1.cell 0).toInt),.int .i64 ((x1.cell 1).toInt),.list aa ((x1.cell 2).toList)])).set ((pivot:Int).toNat) (.agg [.int .i64 ((x2.cell 0).toInt),.int .i64 ((x2.cell 1).toInt),.list aa ((x2.cell 2).toList)])).set ((eI:Int).toNat) (.agg [.int .i64 ((gj.cell 0).toInt),.int .i64 ((gj.cell 1).toInt),.list aa ((gj.cell 2).toList)])).length:Int))) then
        ((((ak.set ((a:Int).toNat) (.agg [.int .i64 ((x1.cell 0).toInt),.int .i64 ((x1.cell 1).toInt),.list aa ((x1.cell 2).toList)])).set ((pivot:Int).toNat) (.agg [.int .i64 ((x2.cell 0).toInt),.int .i64 ((x2.cell 1).toInt),.list aa ((x2.cell 2).toList)])).set ((eI:Int).toNat) (.agg [.int .i64 ((gj.cell 0).toInt),.int .i64 ((gj.cell 1).toInt),.list aa ((gj.cell 2).toList)]))[(a:Int).toNat]?).bind fun jE=>
        some [.int .i64 eI,.bool true,.list aa ((((ak.set ((a:Int).toNat) (.agg [.int .i64 ((x1.cell 0).toInt),.int .i64 ((x1.cell 1).toInt),.list aa ((x1.cell 2).toList)])).set ((pivot:Int).toNat) (.agg [.int .i64 ((x2.cell 0).toInt),.int .i64 ((x2.cell 1).toInt),.list aa ((x2.cell 2).toList)])).set ((eI:Int).toNat) (.agg [.int .i64 ((gj.cell 0).toInt),.int .i64 ((gj.cell 1).toInt),.list aa ((gj.cell 2).toList)])).set ((a:Int).toNat) (.agg [.int .i64 ((fB.cell 0).toInt),.int .i64 ((fB.cell 1).toInt),.list aa ((fB.cell 2).toList)]))]
       else none
       else none
      else none
      else none
     else
      bif (decide (0≤eI))&&(decide (eI<(((ak.set ((a:Int).toNat) (.agg [.int .i64 ((x1.cell 0).toInt),.int .i64 ((x1.cell 1).toInt),.list aa ((x1.cell 2).toList)])).set ((pivot:Int).toNat) (.agg [.int .i64 ((x2.cell 0).toInt),.int .i64 ((x2.cell 1).toInt),.list aa ((x2.cell 2).toList)])).length:Int))) then
      (((ak.set ((a:Int).toNat) (.agg [.int .i64 ((x1.cell 0).toInt),.int .i64 ((x1.cell 1).toInt),.list aa ((x1.cell 2).toList)])).set ((pivot:Int).toNat) (.agg [.int .i64 ((x2.cell 0).toInt),.int .i64 ((x2.cell 1).toInt),.list aa ((x2.cell 2).toList)]))[(eI:Int).toNat]?).bind fun qh=>
      bif (decide (0≤fk))&&(decide (fk<(((ak.set ((a:Int).toNat) (.agg [.int .i64 ((x1.cell 0).toInt),.int .i64 ((x1.cell 1).toInt),.list aa ((x1.cell 2).toList)])).set ((pivot:Int).toNat) (.agg [.int .i64 ((x2.cell 0).toInt),.int .i64 ((x2.cell 1).toInt),.list aa ((x2.cell 2).toList)])).length:Int))) then
       (((ak.set ((a:Int).toNat) (.agg [.int .i64 ((x1.cell 0).toInt),.int .i64 ((x1.cell 1).toInt),.list aa ((x1.cell 2).toList)])).set ((pivot:Int).toNat) (.agg [.int .i64 ((x2.cell 0).toInt),.int .i64 ((x2.cell 1).toInt),.list aa ((x2.cell 2).toList)]))[(fk:Int).toNat]?).bind fun vP=>
       bif (decide (0≤fk))&&(decide (fk<(((ak.set ((a:Int).toNat) (.agg [.int .i64 ((x1.cell 0).toInt),.int .i64 ((x1.cell 1).toInt),.list aa ((x1.cell 2).toList)])).set ((pivot:Int).toNat) (.agg [.int .i64 ((x2.cell 0).toInt),.int .i64 ((x2.cell 1).toInt),.list aa ((x2.cell 2).toList)])).length:Int))) then
       (((ak.set ((a:Int).toNat) (.agg [.int .i64 ((x1.cell 0).toInt),.int .i64 ((x1.cell 1).toInt),.list aa ((x1.cell 2).toList)])).set ((pivot:Int).toNat) (.agg [.int .i64 ((x2.cell 0).toInt),.int .i64 ((x2.cell 1).toInt),.list aa ((x2.cell 2).toList)]))[(fk:Int).toNat]?).bind fun Hh=>
       bif (decide (0≤eI))&&(decide (eI<((((ak.set ((a:Int).toNat) (.agg [.int .i64 ((x1.cell 0).toInt),.int .i64 ((x1.cell 1).toInt),.list aa ((x1.cell 2).toList)])).set ((pivot:Int).toNat) (.agg [.int .i64 ((x2.cell 0).toInt),.int .i64 ((x2.cell 1).toInt),.list aa ((x2.cell 2).toList)])).set ((fk:Int).toNat) (.agg [.int .i64 ((qh.cell 0).toInt),.int .i64 ((qh.cell 1).toInt),.list aa ((qh.cell 2).toList)])).length:Int))) then
        ((((ak.set ((a:Int).toNat) (.agg [.int .i64 ((x1.cell 0).toInt),.int .i64 ((x1.cell 1).toInt),.list aa ((x1.cell 2).toList)])).set ((pivot:Int).toNat) (.agg [.int .i64 ((x2.cell 0).toInt),.int .i64 ((x2.cell 1).toInt),.list aa ((x2.cell 2).toList)])).set ((fk:Int).toNat) (.agg [.int .i64 ((qh.cell 0).toInt),.int .i64 ((qh.cell 1).toInt),.list aa ((qh.cell 2).toList)]))[(eI:Int).toNat]?).bind fun x22=>
        (Loop (yV C a) (IntKind.wrap .i64 (fk+1),IntKind.wrap .i64 (eI-1),(((ak.set ((a:Int).toNat) (.agg [.int .i64 ((x1.cell 0).toInt),.int .i64 ((x1.cell 1).toInt),.list aa ((x1.cell 2).toList)])).set ((pivot:Int).toNat) (.agg [.int .i64 ((x2.cell 0).toInt),.int .i64 ((x2.cell 1).toInt),.list aa ((x2.cell 2).toList)])).set ((fk:Int).toNat) (.agg [.int .i64 ((qh.cell 0).toInt),.int .i64 ((qh.cell 1).toInt),.list aa ((qh.cell 2).toList)])).set ((eI:Int).toNat) (.agg [.int .i64 ((vP.cell 0).toInt),.int .i64 ((vP.cell 1).toInt),.list aa ((vP.cell 2).toList)]))).bind (un fun (adh:Int)=>un fun (qk:Int)=>un fun (Tg:Bool) (j7:List V)=>
         bif (decide (0≤a))&&(decide (a<(j7.length:Int))) then
         (j7[(a:Int).toNat]?).bind fun m9=>
         bif (decide (0≤qk))&&(decide (qk<(j7.length:Int))) then
          (j7[(qk:Int).toNat]?).bind fun vQ=>
          bif (decide (0≤qk))&&(decide (qk<(j7.length:Int))) then
          (j7[(qk:Int).toNat]?).bind fun x43=>
          bif (decide (0≤a))&&(decide (a<((j7.set ((qk:Int).toNat) (.agg [.int .i64 ((m9.cell 0).toInt),.int .i64 ((m9.cell 1).toInt),.list aa ((m9.cell 2).toList)])).length:Int))) then
           ((j7.set ((qk:Int).toNat) (.agg [.int .i64 ((m9.cell 0).toInt),.int .i64 ((m9.cell 1).toInt),.list aa ((m9.cell 2).toList)]))[(a:Int).toNat]?).bind fun x44=>
           some [.int .i64 qk,.bool false,.list aa ((j7.set ((qk:Int).toNat) (.agg [.int .i64 ((m9.cell 0).toInt),.int .i64 ((m9.cell 1).toInt),.list aa ((m9.cell 2).toList)])).set ((a:Int).toNat) (.agg [.int .i64 ((vQ.cell 0).toInt),.int .i64 ((vQ.cell 1).toInt),.list aa ((vQ.cell 2).toList)]))]
          else none
          else none
         else none
         else none)
       else none
       else none
      else none
      else none))
   else none
  else none
  else none
 else none
theorem agi {a b' pivot:Int} {ak:List V} {r:Option (List V)} (h:UW CC a b' pivot ak=r):CC nT [.int .i64 a,.int .i64 b',.int .i64 pivot,.list aa ak]=r:=
 aY (key:=103) (L:=UU CC) (bs:=[.loop (aw [1,1,1,0,0,0] qi),.loop (aw [1,1,1,1,0,0,0] qi),.loop (aw [1,1,1,1,1,1,1,1,1,0,0,0] qi)]) (by kernel_rfl) (bx (agc CC) (bx (agd CC) (bx (agh CC) av))) (aW (by kernel_rfl) h)
noncomputable abbrev yW:Code:=cE Tryz.prog (ax.aV 102)
noncomputable def Cq (C:ae) (a j:Int) (ak:List V) (i:Int) {β:Type} (kn:Int→Option β) (kr:(Int × Bool)→Option β):Option β:=
 bif decide ((i:Int)≤j) then
  bif (decide (0≤a))&&(decide (a<(ak.length:Int))) then
  (ak[(a:Int).toNat]?).bind fun x5=>
  bif (decide (0≤i))&&(decide (i<(ak.length:Int))) then
   (ak[(i:Int).toNat]?).bind fun x6=>
   (C bp [.int .i64 ((x5.cell 0).toInt),.int .i64 ((x5.cell 1).toInt),.list aa ((x5.cell 2).toList),.int .i64 ((x6.cell 0).toInt),.int .i64 ((x6.cell 1).toInt),.list aa ((x6.cell 2).toList)]).bind fun r7=>
   bif !(decide ((((V.nth r7 0).toInt):Int)<0)) then
   kn (IntKind.wrap .i64 (i+1))
   else
   kr (i,!(decide ((((V.nth r7 0).toInt):Int)<0)))
  else none
  else none
 else
  kr (i,false)
noncomputable def Cr (C:ae) (a j:Int) (ak:List V):(Int)→Option ((Int) ⊕ (Int × Bool)):=fun i=>Cq C a j ak i (fun y=>some (.inl y)) (fun r=>some (.inr r))
noncomputable def yX (C:ae) (a i:Int) (ak:List V) (j:Int) {β:Type} (kn:Int→Option β) (kr:(Int × Bool)→Option β):Option β:=
 bif decide ((i:Int)≤j) then
  bif (decide (0≤a))&&(decide (a<(ak.length:Int))) then
  (ak[(a:Int).toNat]?).bind fun mj=>
  bif (decide (0≤j))&&(decide (j<(ak.length:Int))) then
   (ak[(j:Int).toNat]?).bind fun eY=>
   (C bp [.int .i64 ((mj.cell 0).toInt),.int .i64 ((mj.cell 1).toInt),.list aa ((mj.cell 2).toList),.int .i64 ((eY.cell 0).toInt),.int .i64 ((eY.cell 1).toInt),.list aa ((eY.cell 2).toList)]).bind fun ep=>
   bif decide ((((V.nth ep 0).toInt):Int)<0) then
   kn (IntKind.wrap .i64 (j-1))
   else
   kr (j,decide ((((V.nth ep 0).toInt):Int)<0))
  else none
  else none
 else
  kr (j,false)
noncomputable def yY (C:ae) (a i:Int) (ak:List V):(Int)→Option ((Int) ⊕ (Int × Bool)):=fun j=>yX C a i ak j (fun y=>some (.inl y)) (fun r=>some (.inr r))
noncomputable def Cs (C:ae) (a i j:Int) (ak:List V) {β:Type} (kn:(Int × Int × (List V))→Option β) (kr:(Int × Int × Bool × (List V))→Option β):Option β:=
 (Loop (Cr C a j ak) i).bind (un fun (fk:Int) (td:Bool)=>
  (Loop (yY C a fk ak) j).bind (un fun (eI:Int) (qe:Bool)=>
   bif decide ((fk:Int)>eI) then
    kr (fk,eI,decide ((fk:Int)>eI),ak)
   else
    bif (decide (0≤eI))&&(decide (eI<(ak.length:Int))) then
    (ak[(eI:Int).toNat]?).bind fun gj=>
    bif (decide (0≤fk))&&(decide (fk<(ak.length:Int))) then
     (ak[(fk:Int).toNat]?).bind fun fB=>
     bif (decide (0≤fk))&&(decide (fk<(ak.length:Int))) then
     (ak[(fk:Int).toNat]?).bind fun rO=>
     bif (decide (0≤eI))&&(decide (eI<((ak.set ((fk:Int).toNat) (.agg [.int .i64 ((gj.cell 0).toInt),.int .i64 ((gj.cell 1).toInt),.list aa ((gj.cell 2).toList)])).length:Int))) then
      ((ak.set ((fk:Int).toNat) (.agg [.int .i64 ((gj.cell 0).toInt),.int .i64 ((gj.cell 1).toInt),.list aa ((gj.cell 2).toList)]))[(eI:Int).toNat]?).bind fun jE=>
      kn (IntKind.wrap .i64 (fk+1),IntKind.wrap .i64 (eI-1),(ak.set ((fk:Int).toNat) (.agg [.int .i64 ((gj.cell 0).toInt),.int .i64 ((gj.cell 1).toInt),.list aa ((gj.cell 2).toList)])).set ((eI:Int).toNat) (.agg [.int .i64 ((fB.cell 0).toInt),.int .i64 ((fB.cell 1).toInt),.list aa ((fB.cell 2).toList)]))
     else none
     else none
    else none
    else none))
noncomputable def yZ (C:ae) (a:Int):(Int × Int × (List V))→Option ((Int × Int × (List V)) ⊕ (Int × Int × Bool × (List V))):=un fun i=>un fun j ak=>Cs C a i j ak (fun y=>some (.inl y)) (fun r=>some (.inr r))
noncomputable def UX (C:ae):ct:=fun β n ds k=>
 bif Nat.beq n 49 then bY Mq [false,true,false,false] [[1,0,3,0,4]] (@Cq C) ds k else
 bif Nat.beq n 81 then bY Mr [false,false,true,false] [[1,2,0,0,4]] (@yX C) ds k else
 bif Nat.beq n 50 then bY Ms [false,true,true,true] [[1,0,0,0,0]] (@Cs C) ds k else
 none
abbrev No (C:ae) (b:cq):Prop:=cr Tryz.prog ax C (UX C) 102 (cH Tryz.prog (ax.aV 102)) (ax.sin 102).bj.length b
theorem agj (C:ae):No C (.loop (aw [1,1,1,0,0,0,0,0,0,0] yW)):=
 b7 Mq [false,true,false,false] [[1,0,3,0,4]] (@Cq C) (by kernel_rfl) (bf (bs:=[]) (by kernel_rfl) av) (fun ds=>by kernel_rfl) (fun i x=>by kernel_rfl) (fun i x β k=>by kernel_rfl) (fun β ds k=>by kernel_rfl)
theorem agk (C:ae):No C (.loop (aw [1,1,1,0,0,0,0,1,0,0,0] yW)):=
 b7 Mr [false,false,true,false] [[1,2,0,0,4]] (@yX C) (by kernel_rfl) (bf (bs:=[]) (by kernel_rfl) av) (fun ds=>by kernel_rfl) (fun i x=>by kernel_rfl) (fun i x β k=>by kernel_rfl) (fun β ds k=>by kernel_rfl)
theorem agl (C:ae):No C (.loop (aw [1,1,1,0,0,0] yW)):=
 b7 Ms [false,true,true,true] [[1,0,0,0,0]] (@Cs C) (by kernel_rfl) (bf (bs:=[.loop (aw [1,1,1,0,0,0,0,0,0,0] yW),.loop (aw [1,1,1,0,0,0,0,1,0,0,0] yW)]) (by kernel_rfl) (bx (agj C) (bx (agk C) av))) (fun ds=>by kernel_rfl) (fun i x=>by kernel_rfl) (fun i x β k=>by kernel_rfl) (fun β ds k=>by kernel_rfl)
noncomputable def UY (C:ae) (a b' pivot:Int) (ak:List V):Option (List V):=
 bif (decide (0≤pivot))&&(decide (pivot<(ak.length:Int))) then
  (ak[(pivot:Int).toNat]?).bind fun x1=>
  bif (decide (0≤a))&&(decide (a<(ak.length:Int))) then
  (ak[(a:Int).toNat]?).bind fun x2=>
  bif (decide (0≤a))&&(decide (a<(ak.length:Int))) then
   (ak[(a:Int).toNat]?).bind fun x3=>
   bif (decide (0≤pivot))&&(decide (pivot<((ak.set ((a:Int).toNat) (.agg [.int .i64 ((x1.cell 0).toInt),.int .i64 ((x1.cell 1).toInt),.list aa ((x1.cell 2).toList)])).length:Int))) then
   ((ak.set ((a:Int).toNat) (.agg [.int .i64 ((x1.cell 0).toInt),.int .i64 ((x1.cell 1).toInt),.list aa ((x1.cell 2).toList)]))[(pivot:Int).toNat]?).bind fun x4=>
   (Loop (yZ C a) (IntKind.wrap .i64 (a+1),IntKind.wrap .i64 (b'-1),(ak.set ((a:Int).toNat) (.agg [.int .i64 ((x1.cell 0).toInt),.int .i64 ((x1.cell 1).toInt),.list aa ((x1.cell 2).toList)])).set ((pivot:Int).toNat) (.agg [.int .i64 ((x2.cell 0).toInt),.int .i64 ((x2.cell 1).toInt),.list aa ((x2.cell 2).toList)]))).bind (un fun (agm:Int)=>un fun (amH:Int)=>un fun (BV:Bool) (agn:List V)=>
    some [.int .i64 agm,.list aa agn])
   else none
  else none
  else none
 else none
theorem ago {a b' pivot:Int} {ak:List V} {r:Option (List V)} (h:UY CC a b' pivot ak=r):CC vj [.int .i64 a,.int .i64 b',.int .i64 pivot,.list aa ak]=r:=
 aY (key:=102) (L:=UX CC) (bs:=[.loop (aw [1,1,1,0,0,0] yW)]) (by kernel_rfl) (bx (agl CC) av) (aW (by kernel_rfl) h)
noncomputable abbrev od:Code:=cE Tryz.prog (ax.aV 101)
noncomputable def Ct (C:ae) (a b' j:Int) (ak:List V) (i:Int) {β:Type} (kn:Int→Option β) (kr:(Int × Bool)→Option β):Option β:=
 bif decide ((i:Int)<b') then
  bif (decide (0≤i))&&(decide (i<(ak.length:Int))) then
  (ak[(i:Int).toNat]?).bind fun x1=>
  bif (decide (0≤(IntKind.wrap .i64 (i-1))))&&(decide ((IntKind.wrap .i64 (i-1))<(ak.length:Int))) then
   (ak[(IntKind.wrap .i64 (i-1):Int).toNat]?).bind fun x2=>
   (C bp [.int .i64 ((x1.cell 0).toInt),.int .i64 ((x1.cell 1).toInt),.list aa ((x1.cell 2).toList),.int .i64 ((x2.cell 0).toInt),.int .i64 ((x2.cell 1).toInt),.list aa ((x2.cell 2).toList)]).bind fun r3=>
   bif !(decide ((((V.nth r3 0).toInt):Int)<0)) then
   kn (IntKind.wrap .i64 (i+1))
   else
   kr (i,!(decide ((((V.nth r3 0).toInt):Int)<0)))
  else none
  else none
 else
  kr (i,false)
noncomputable def Cu (C:ae) (a b' j:Int) (ak:List V):(Int)→Option ((Int) ⊕ (Int × Bool)):=fun i=>Ct C a b' j ak i (fun y=>some (.inl y)) (fun r=>some (.inr r))
noncomputable def Cv (C:ae) (a b' i j j':Int) (ak:List V) {β:Type} (kn:(Int × (List V))→Option β) (kr:(Int × (List V))→Option β):Option β:=
 bif decide ((j':Int)≥1) then
  bif (decide (0≤j'))&&(decide (j'<(ak.length:Int))) then
  (ak[(j':Int).toNat]?).bind fun mj=>
  bif (decide (0≤(IntKind.wrap .i64 (j'-1))))&&(decide ((IntKind.wrap .i64 (j'-1))<(ak.length:Int))) then
   (ak[(IntKind.wrap .i64 (j'-1):Int).toNat]?).bind fun eY=>
   (C bp [.int .i64 ((mj.cell 0).toInt),.int .i64 ((mj.cell 1).toInt),.list aa ((mj.cell 2).toList),.int .i64 ((eY.cell 0).toInt),.int .i64 ((eY.cell 1).toInt),.list aa ((eY.cell 2).toList)]).bind fun ep=>
   bif !(decide ((((V.nth ep 0).toInt):Int)<0)) then
   kr (j',ak)
   else
   bif (decide (0≤(IntKind.wrap .i64 (j'-1))))&&(decide ((IntKind.wrap .i64 (j'-1))<(ak.length:Int))) then
    (ak[(IntKind.wrap .i64 (j'-1):Int).toNat]?).bind fun jq=>
    bif (decide (0≤j'))&&(decide (j'<(ak.length:Int))) then
    (ak[(j':Int).toNat]?).bind fun oa=>
    bif (decide (0≤j'))&&(decide (j'<(ak.length:Int))) then
     (ak[(j':Int).toNat]?).bind fun gj=>
     bif (decide (0≤(IntKind.wrap .i64 (j'-1))))&&(decide ((IntKind.wrap .i64 (j'-1))<((ak.set ((j':Int).toNat) (.agg [.int .i64 ((jq.cell 0).toInt),.int .i64 ((jq.cell 1).toInt),.list aa ((jq.cell 2).toList)])).length:Int))) then
     ((ak.set ((j':Int).toNat) (.agg [.int .i64 ((jq.cell 0).toInt),.int .i64 ((jq.cell 1).toInt),.list aa ((jq.cell 2).toList)]))[(IntKind.wrap .i64 (j'-1):Int).toNat]?).bind fun fB=>
     kn (IntKind.wrap .i64 (j'-1),(ak.set ((j':Int).toNat) (.agg [.int .i64 ((jq.cell 0).toInt),.int .i64 ((jq.cell 1).toInt),.list aa ((jq.cell 2).toList)])).set ((IntKind.wrap .i64 (j'-1):Int).toNat) (.agg [.int .i64 ((oa.cell 0).toInt),.int .i64 ((oa.cell 1).toInt),.list aa ((oa.cell 2).toList)]))
     else none
    else none
    else none
   else none
  else none
  else none
 else
  kr (j',ak)
noncomputable def Cw (C:ae) (a b' i j:Int):(Int × (List V))→Option ((Int × (List V)) ⊕ (Int × (List V))):=un fun j' ak=>Cv C a b' i j j' ak (fun y=>some (.inl y)) (fun r=>some (.inr r))
noncomputable def Hi (C:ae) (a b' i j:Int) (t65:Bool) (ak:List V) {β:Type} (kr:(List V)→Option β):Option β:=
 bif t65 then
  (Loop (Cw C a b' i j) (IntKind.wrap .i64 (i-1),ak)).bind (un fun (amI:Int) (agp:List V)=>
   kr agp)
 else
  kr ak
noncomputable def Cx (C:ae) (a b' i j j':Int) (ak:List V) {β:Type} (kn:(Int × (List V))→Option β) (kr:(Int × (List V))→Option β):Option β:=
 bif decide ((j':Int)<b') then
  bif (decide (0≤j'))&&(decide (j'<(ak.length:Int))) then
  (ak[(j':Int).toNat]?).bind fun vP=>
  bif (decide (0≤(IntKind.wrap .i64 (j'-1))))&&(decide ((IntKind.wrap .i64 (j'-1))<(ak.length:Int))) then
   (ak[(IntKind.wrap .i64 (j'-1):Int).toNat]?).bind fun Hh=>
   (C bp [.int .i64 ((vP.cell 0).toInt),.int .i64 ((vP.cell 1).toInt),.list aa ((vP.cell 2).toList),.int .i64 ((Hh.cell 0).toInt),.int .i64 ((Hh.cell 1).toInt),.list aa ((Hh.cell 2).toList)]).bind fun iK=>
   bif !(decide ((((V.nth iK 0).toInt):Int)<0)) then
   kr (j',ak)
   else
   bif (decide (0≤(IntKind.wrap .i64 (j'-1))))&&(decide ((IntKind.wrap .i64 (j'-1))<(ak.length:Int))) then
    (ak[(IntKind.wrap .i64 (j'-1):Int).toNat]?).bind fun jZ=>
    bif (decide (0≤j'))&&(decide (j'<(ak.length:Int))) then
    (ak[(j':Int).toNat]?).bind fun pg=>
    bif (decide (0≤j'))&&(decide (j'<(ak.length:Int))) then
     (ak[(j':Int).toNat]?).bind fun x25=>
     bif (decide (0≤(IntKind.wrap .i64 (j'-1))))&&(decide ((IntKind.wrap .i64 (j'-1))<((ak.set ((j':Int).toNat) (.agg [.int .i64 ((jZ.cell 0).toInt),.int .i64 ((jZ.cell 1).toInt),.list aa ((jZ.cell 2).toList)])).length:Int))) then
     ((ak.set ((j':Int).toNat) (.agg [.int .i64 ((jZ.cell 0).toInt),.int .i64 ((jZ.cell 1).toInt),.list aa ((jZ.cell 2).toList)]))[(IntKind.wrap .i64 (j'-1):Int).toNat]?).bind fun oe=>
     kn (IntKind.wrap .i64 (j'+1),(ak.set ((j':Int).toNat) (.agg [.int .i64 ((jZ.cell 0).toInt),.int .i64 ((jZ.cell 1).toInt),.list aa ((jZ.cell 2).toList)])).set ((IntKind.wrap .i64 (j'-1):Int).toNat) (.agg [.int .i64 ((pg.cell 0).toInt),.int .i64 ((pg.cell 1).toInt),.list aa ((pg.cell 2).toList)]))
     else none
    else none
    else none
   else none
  else none
  else none
 else
  kr (j',ak)
noncomputable def Cy (C:ae) (a b' i j:Int):(Int × (List V))→Option ((Int × (List V)) ⊕ (Int × (List V))):=un fun j' ak=>Cx C a b' i j j' ak (fun y=>some (.inl y)) (fun r=>some (.inr r))
noncomputable def Cz (C:ae) (a b' i j:Int) (ak:List V) {β:Type} (kn:(Int × Int × (List V))→Option β) (kr:((Bool × (List V)) ⊕ (Int × Int × Bool × (List V)))→Option β):Option β:=
 bif decide ((j:Int)<5) then
  (Loop (Cu C a b' j ak) i).bind (un fun (fC:Int) (mg:Bool)=>
   bif (fC:Int)==b' then
   kr (.inl (true,ak))
   else
   bif decide (((IntKind.wrap .i64 (b'-a)):Int)<50) then
    kr (.inl (false,ak))
   else
    bif (decide (0≤(IntKind.wrap .i64 (fC-1))))&&(decide ((IntKind.wrap .i64 (fC-1))<(ak.length:Int))) then
    (ak[(IntKind.wrap .i64 (fC-1):Int).toNat]?).bind fun x6=>
    bif (decide (0≤fC))&&(decide (fC<(ak.length:Int))) then
     (ak[(fC:Int).toNat]?).bind fun x7=>
     bif (decide (0≤fC))&&(decide (fC<(ak.length:Int))) then
     (ak[(fC:Int).toNat]?).bind fun x8=>
     bif (decide (0≤(IntKind.wrap .i64 (fC-1))))&&(decide ((IntKind.wrap .i64 (fC-1))<((ak.set ((fC:Int).toNat) (.agg [.int .i64 ((x6.cell 0).toInt),.int .i64 ((x6.cell 1).toInt),.list aa ((x6.cell 2).toList)])).length:Int))) then
      ((ak.set ((fC:Int).toNat) (.agg [.int .i64 ((x6.cell 0).toInt),.int .i64 ((x6.cell 1).toInt),.list aa ((x6.cell 2).toList)]))[(IntKind.wrap .i64 (fC-1):Int).toNat]?).bind fun x9=>
      Hi C a b' fC j (decide (((IntKind.wrap .i64 (fC-a)):Int)≥2)) ((ak.set ((fC:Int).toNat) (.agg [.int .i64 ((x6.cell 0).toInt),.int .i64 ((x6.cell 1).toInt),.list aa ((x6.cell 2).toList)])).set ((IntKind.wrap .i64 (fC-1):Int).toNat) (.agg [.int .i64 ((x7.cell 0).toInt),.int .i64 ((x7.cell 1).toInt),.list aa ((x7.cell 2).toList)])) (fun (UZ:List V)=>
       bif decide (((IntKind.wrap .i64 (b'-fC)):Int)≥2) then
       (Loop (Cy C a b' fC j) (IntKind.wrap .i64 (fC+1),UZ)).bind (un fun (amJ:Int) (agq:List V)=>
        kn (fC,IntKind.wrap .i64 (j+1),agq))
       else
       kn (fC,IntKind.wrap .i64 (j+1),UZ))
     else none
     else none
    else none
    else none)
 else
  kr (.inr (i,j,decide ((j:Int)<5),ak))
noncomputable def tt (C:ae) (a b':Int):(Int × Int × (List V))→Option ((Int × Int × (List V)) ⊕ ((Bool × (List V)) ⊕ (Int × Int × Bool × (List V)))):=un fun i=>un fun j ak=>Cz C a b' i j ak (fun y=>some (.inl y)) (fun r=>some (.inr r))
noncomputable def U0 (C:ae):ct:=fun β n ds k=>
 bif Nat.beq n 81 then bY Ml [false,false,true,false,false] [[1,2,0,4,0,5]] (@Ct C) ds k else
 bif Nat.beq n 225 then bY Mm [false,false,false,false,true,true] [[1,2,3,4,0,0]] (@Cv C) ds k else
 bif Nat.beq n 1055 then iI Mn [[1,2,3,4,0]] (@Hi C) ds k else
 bif Nat.beq n 321 then bY Mo [false,false,false,false,true,true] [[1,2,3,4,0,0]] (@Cx C) ds k else
 bif Nat.beq n 49 then bY Mp [false,false,true,true,true] [[0,0],[1,2,0,0,0,0]] (@Cz C) ds k else
 none
abbrev CA (C:ae) (b:cq):Prop:=cr Tryz.prog ax C (U0 C) 101 (cH Tryz.prog (ax.aV 101)) (ax.sin 101).bj.length b
theorem agr (C:ae):CA C (.loop (aw [1,1,0,1,0,0,1,0,0,0,0,0] od)):=
 b7 Ml [false,false,true,false,false] [[1,2,0,4,0,5]] (@Ct C) (by kernel_rfl) (bf (bs:=[]) (by kernel_rfl) av) (fun ds=>by kernel_rfl) (fun i x=>by kernel_rfl) (fun i x β k=>by kernel_rfl) (fun β ds k=>by kernel_rfl)
theorem ags (C:ae):CA C (.loop (aw [1,1,0,1,0,0,1,0,0,1,1,1,1,0,1,0,1,0,0] od)):=
 b7 Mm [false,false,false,false,true,true] [[1,2,3,4,0,0]] (@Cv C) (by kernel_rfl) (bf (bs:=[]) (by kernel_rfl) av) (fun ds=>by kernel_rfl) (fun i x=>by kernel_rfl) (fun i x β k=>by kernel_rfl) (fun β ds k=>by kernel_rfl)
theorem agt (C:ae):CA C (.cond 65 (aw [1,1,0,1,0,0,1,0,0,1,1,1,1,0,1,0] od) (aw [1,1,0,1,0,0,1,0,0,1,1,1,1,0,1,1] od)):=
 jl Mn [[1,2,3,4,0]] (@Hi C) (by kernel_rfl) (bf (bs:=[.loop (aw [1,1,0,1,0,0,1,0,0,1,1,1,1,0,1,0,1,0,0] od)]) (by kernel_rfl) (bx (ags C) av)) (bf (bs:=[]) (by kernel_rfl) av) (fun ds=>by kernel_rfl) (fun i β k=>by kernel_rfl) (fun β ds k=>by kernel_rfl)
theorem agu (C:ae):CA C (.loop (aw [1,1,0,1,0,0,1,0,0,1,1,1,1,1,1,0,1,0,0] od)):=
 b7 Mo [false,false,false,false,true,true] [[1,2,3,4,0,0]] (@Cx C) (by kernel_rfl) (bf (bs:=[]) (by kernel_rfl) av) (fun ds=>by kernel_rfl) (fun i x=>by kernel_rfl) (fun i x β k=>by kernel_rfl) (fun β ds k=>by kernel_rfl)
theorem agv (C:ae):CA C (.loop (aw [1,1,0,1,0,0] od)):=
 b7 Mp [false,false,true,true,true] [[0,0],[1,2,0,0,0,0]] (@Cz C) (by kernel_rfl) (bf (bs:=[.loop (aw [1,1,0,1,0,0,1,0,0,0,0,0] od),.cond 65 (aw [1,1,0,1,0,0,1,0,0,1,1,1,1,0,1,0] od) (aw [1,1,0,1,0,0,1,0,0,1,1,1,1,0,1,1] od),.loop (aw [1,1,0,1,0,0,1,0,0,1,1,1,1,1,1,0,1,0,0] od)]) (by kernel_rfl) (bx (agr C) (bx (agt C) (bx (agu C) av)))) (fun ds=>by kernel_rfl) (fun i x=>by kernel_rfl) (fun i x β k=>by kernel_rfl) (fun β ds k=>by kernel_rfl)
noncomputable def U1 (C:ae) (a b':Int) (ak:List V):Option (List V):=
 (Loop (tt C a b') (IntKind.wrap .i64 (a+1),0,ak)).bind (bV (un fun (MM:Bool) (agw:List V)=>
  some [.bool MM,.list aa agw]) (un fun (amK:Int)=>un fun (amL:Int)=>un fun (Td:Bool) (agx:List V)=>
  some [.bool false,.list aa agx]))
theorem agy {a b':Int} {ak:List V} {r:Option (List V)} (h:U1 CC a b' ak=r):CC Gn [.int .i64 a,.int .i64 b',.list aa ak]=r:=
 aY (key:=101) (L:=U0 CC) (bs:=[.loop (aw [1,1,0,1,0,0] od)]) (by kernel_rfl) (bx (agv CC) av) (aW (by kernel_rfl) h)
end Go.AM
set_option maxRecDepth 100000
set_option maxHeartbeats 4000000
namespace Go.AM.SX
open Go.Proofs Go.Sort
theorem y4 (p:XE→Bool) (d:Array XE) (j i:Nat):scanUp p d j i=if i≤j then (if p d[i]! =true then scanUp p d j (i+1) else i) else i:=by
 conv=>lhs;rw[scanUp]
 by_cases h:i≤j
 ·rw[aj h];simp only[h,sh,my]
 ·rw[ai h,ai (by simp[h])]
theorem Np (p:XE→Bool) (d:Array XE) (i j:Nat):scanDown p d i (j+1)=if i≤j+1 then (if p d[j+1]! =true then scanDown p d i j else j+1) else j+1:=by
 conv=>lhs;rw[scanDown]
 by_cases h:i≤j+1
 ·rw[aj h];simp only[h,sh,my]
 ·rw[ai h,ai (by simp[h])]
theorem Hj (d:Array XE) (b i:Nat):scanSorted aA d b i=if i<b then (if cf d[i]! d[i-1]! <0 then i else scanSorted aA d b (i+1)) else i:=by
 conv=>lhs;rw[scanSorted]
 by_cases h:i<b
 ·rw[aj h];simp only[h,sh,my,rQ]
  by_cases U:cf d[i]! d[i-1]! <0
  ·rw[ai (qC U),aj U]
  ·rw[aj U,ai U]
 ·rw[ai h,ai (by simp[h])]
theorem U2 (j:Nat) (d:Array XE):shiftDown aA (j+1) d=if cf d[j+1]! d[j]! <0 then shiftDown aA j (swp d (j+1) j) else d:=by
 conv=>lhs;rw[shiftDown]
 simp only[rQ]
 by_cases U:cf d[j+1]! d[j]! <0
 ·rw[ai (qC U),aj U]
 ·rw[aj U,ai U]
theorem Hk (b j:Nat) (d:Array XE):shiftUp aA b j d=if j<b then (if cf d[j]! d[j-1]! <0 then shiftUp aA b (j+1) (swp d j (j-1)) else d) else d:=by
 conv=>lhs;rw[shiftUp]
 simp only[rQ]
 by_cases h:j<b
 ·rw[aj h,aj h]
  by_cases U:cf d[j]! d[j-1]! <0
  ·rw[ai (qC U),aj U]
  ·rw[aj U,ai U]
 ·rw[ai h,ai h]
theorem agz {a:Nat}: ∀(n i j:Nat) (d:Array XE),j+1-i≤n→(partLoop aA a i j d).2.size=d.size∧(partLoop aA a i j d).1≤j:=by
 intro n
 induction n with
 | zero=>
  intro i j d hn
  have h1:=scanUp_ge (fun x=>aA x d[a]!) d j i
  have U:=scanDown_le (fun x=> !aA x d[a]!) d (scanUp (fun x=>aA x d[a]!) d j i) j
  rw[partLoop_eq,aj (by omega)]
  exact ⟨rfl,U⟩
 | succ n ih=>
  intro i j d hn
  rw[partLoop_eq]
  have h1:=scanUp_ge (fun x=>aA x d[a]!) d j i
  have U:=scanDown_le (fun x=> !aA x d[a]!) d (scanUp (fun x=>aA x d[a]!) d j i) j
  split
  ·exact ⟨rfl,U⟩
  ·obtain ⟨h3,h4⟩:=ih (scanUp (fun x=>aA x d[a]!) d j i+1) (scanDown (fun x=> !aA x d[a]!) d (scanUp (fun x=>aA x d[a]!) d j i) j-1) (swp d (scanUp (fun x=>aA x d[a]!) d j i) (scanDown (fun x=> !aA x d[a]!) d (scanUp (fun x=>aA x d[a]!) d j i) j)) (by omega)
   exact ⟨by rw[h3,size_swp],by omega⟩
theorem kW {β:Type} {d:Array XE} {i:Nat} {x y:Option β} (h:i<d.size):(bif (decide (0≤(i:Int)))&&(decide ((i:Int)<((eA d).length:Int))) then x else y)=x:=by
 rw[gf,dc,az,aj (by omega),az,aj (by omega)]
theorem Hl {β:Type} {d:Array XE} {i k:Nat} {v:V} {x y:Option β} (h:i<d.size):(bif (decide (0≤(i:Int)))&&(decide ((i:Int)<(((eA d).set k v).length:Int))) then x else y)=x:=by
 rw[oA,gf,dc,az,aj (by omega),az,aj (by omega)]
theorem kX {β:Type} {d:Array XE} {i:Nat} {f:V→Option β} (h:i<d.size):((eA d)[(i:Int).toNat]?).bind f=f (d[i]!).enc:=by
 rw[Int.toNat_natCast,gh h];rfl
theorem Hm {β:Type} {d:Array XE} {i k:Nat} {v:V} {x:Option β} (h:i<d.size):(((eA d).set k v)[(i:Int).toNat]?).bind (fun _=>x)=x:=by
 rw[Int.toNat_natCast,bG (by rw[oA,gf];exact h)];rfl
theorem rS {β:Type} {d:Array XE} {i:Nat} {f:V→Option β} (h:i<d.size):((eA d)[i]?).bind f=f (d[i]!).enc:=by
 rw[gh h];rfl
theorem Nq {β:Type} {d:Array XE} {i k:Nat} {v:V} {x:Option β} (h:i<d.size):(((eA d).set k v)[i]?).bind (fun _=>x)=x:=by
 rw[bG (by rw[oA,gf];exact h)];rfl
theorem agA {a j:Nat} {d:Array XE} (ha:a<d.size) (hj:j<d.size) (hs:d.size<1152921504606846976): ∀(n i:Nat),j+1-i=n→i≤d.size→
  ∃t,Loop (Ck CC a j (eA d)) (i:Int)=some (((scanUp (fun x=>aA x d[a]!) d j i:Nat):Int),t):=by
 intro n
 induction n with
 | zero=>
  intro i hn hi
  rw[y4,ai (by omega)]
  exact ⟨false,aS (by simp (disch:=omega) only[Ck,Cj,az,ai])⟩
 | succ n ih=>
  intro i hn hi
  obtain ⟨t,h⟩:=ih (i+1) (by omega) (by omega)
  rw[y4,aj (by omega)]
  have e:Ck CC a j (eA d) (i:Int)=if cf d[i]! d[a]! <0 then some (.inl ((i+1:Nat):Int)) else some (.inr ((i:Int),decide (cf d[i]! d[a]! <0))):=by
   simp (disch:=omega) only[Ck,Cj,az,dc,ig,aj,ai,wrap64,dW,gi,Int.toNat_natCast,Option.bind_some,gf,gh,XE.aU,XE.aZ,XE.aX,XE.re,gg,iJ,gZ,gW,V.aM,V.toInt_int,cond_true,cond_false]
  simp only[tq]
  by_cases U:cf d[i]! d[a]! <0
  ·rw[aj U] at e
   rw[aj U]
   exact ⟨t,(bJ e).trans h⟩
  ·rw[ai U] at e
   rw[ai U]
   exact ⟨_,aS e⟩
theorem U3 {a j:Nat} {d:Array XE} (ha:a<d.size) (hj:j<d.size) (hs:d.size<1152921504606846976): ∀(n i:Nat),j+1-i=n→i≤d.size→
  ∃t,Loop (Cn CC a j (eA d)) (i:Int)=some (((scanUp (fun x=>aA x d[a]!) d j i:Nat):Int),t):=by
 intro n
 induction n with
 | zero=>
  intro i hn hi
  rw[y4,ai (by omega)]
  exact ⟨false,aS (by simp (disch:=omega) only[Cn,Cl,az,ai])⟩
 | succ n ih=>
  intro i hn hi
  obtain ⟨t,h⟩:=ih (i+1) (by omega) (by omega)
  rw[y4,aj (by omega)]
  have e:Cn CC a j (eA d) (i:Int)=if cf d[i]! d[a]! <0 then some (.inl ((i+1:Nat):Int)) else some (.inr ((i:Int),decide (cf d[i]! d[a]! <0))):=by
   simp (disch:=omega) only[Cn,Cl,az,dc,ig,aj,ai,wrap64,dW,gi,Int.toNat_natCast,Option.bind_some,gf,gh,XE.aU,XE.aZ,XE.aX,XE.re,gg,iJ,gZ,gW,V.aM,V.toInt_int,cond_true,cond_false]
  simp only[tq]
  by_cases U:cf d[i]! d[a]! <0
  ·rw[aj U] at e
   rw[aj U]
   exact ⟨t,(bJ e).trans h⟩
  ·rw[ai U] at e
   rw[ai U]
   exact ⟨_,aS e⟩
theorem U4 {a i:Nat} {d:Array XE} (ha:a<d.size) (hi:1≤i) (hs:d.size<1152921504606846976): ∀(j:Nat),j<d.size→
  ∃t,Loop (yS CC a i (eA d)) (j:Int)=some (((scanDown (fun x=> !aA x d[a]!) d i j:Nat):Int),t)
 | 0,hj=>⟨false,aS (by simp (disch:=omega) only[yS,yR,az,ai];rfl)⟩
 | j+1,hj=>by
  obtain ⟨t,h⟩:=U4 ha hi hs j (by omega)
  rw[Np]
  by_cases h1:i≤j+1
  ·rw[aj h1]
   have e:yS CC a i (eA d) ((j+1:Nat):Int)=if cf d[j+1]! d[a]! <0 then some (.inr (((j+1:Nat):Int),!decide (cf d[j+1]! d[a]! <0))) else some (.inl (j:Int)):=by
    simp (disch:=omega) only[yS,yR,az,dc,ig,aj,ai,wrap64,dW,gi,Int.toNat_natCast,Option.bind_some,gf,gh,XE.aU,XE.aZ,XE.aX,XE.re,gg,iJ,gZ,gW,V.aM,V.toInt_int,cond_true,cond_false,vL]
   simp only[rQ]
   by_cases U:cf d[j+1]! d[a]! <0
   ·rw[aj U] at e
    rw[ai (qC U)]
    exact ⟨_,aS e⟩
   ·rw[ai U] at e
    rw[aj U]
    exact ⟨t,(bJ e).trans h⟩
  ·rw[ai h1]
   exact ⟨false,aS (by simp (disch:=omega) only[yS,yR,az,ai])⟩
theorem Nr {a i:Nat} {d:Array XE} (ha:a<d.size) (hi:1≤i) (hs:d.size<1152921504606846976): ∀(j:Nat),j<d.size→
  ∃t,Loop (yU CC a i (eA d)) (j:Int)=some (((scanDown (fun x=> !aA x d[a]!) d i j:Nat):Int),t)
 | 0,hj=>⟨false,aS (by simp (disch:=omega) only[yU,yT,az,ai];rfl)⟩
 | j+1,hj=>by
  obtain ⟨t,h⟩:=Nr ha hi hs j (by omega)
  rw[Np]
  by_cases h1:i≤j+1
  ·rw[aj h1]
   have e:yU CC a i (eA d) ((j+1:Nat):Int)=if cf d[j+1]! d[a]! <0 then some (.inr (((j+1:Nat):Int),!decide (cf d[j+1]! d[a]! <0))) else some (.inl (j:Int)):=by
    simp (disch:=omega) only[yU,yT,az,dc,ig,aj,ai,wrap64,dW,gi,Int.toNat_natCast,Option.bind_some,gf,gh,XE.aU,XE.aZ,XE.aX,XE.re,gg,iJ,gZ,gW,V.aM,V.toInt_int,cond_true,cond_false,vL]
   simp only[rQ]
   by_cases U:cf d[j+1]! d[a]! <0
   ·rw[aj U] at e
    rw[ai (qC U)]
    exact ⟨_,aS e⟩
   ·rw[ai U] at e
    rw[aj U]
    exact ⟨t,(bJ e).trans h⟩
  ·rw[ai h1]
   exact ⟨false,aS (by simp (disch:=omega) only[yU,yT,az,ai])⟩
theorem U5 {a j:Nat} {d:Array XE} (ha:a<d.size) (hj:j<d.size) (hs:d.size<1152921504606846976): ∀(n i:Nat),j+1-i=n→i≤d.size→
  ∃t,Loop (Cr CC a j (eA d)) (i:Int)=some (((scanUp (fun x=> !aA d[a]! x) d j i:Nat):Int),t):=by
 intro n
 induction n with
 | zero=>
  intro i hn hi
  rw[y4,ai (by omega)]
  exact ⟨false,aS (by simp (disch:=omega) only[Cr,Cq,az,ai])⟩
 | succ n ih=>
  intro i hn hi
  obtain ⟨t,h⟩:=ih (i+1) (by omega) (by omega)
  rw[y4,aj (by omega)]
  have e:Cr CC a j (eA d) (i:Int)=if cf d[a]! d[i]! <0 then some (.inr ((i:Int),!decide (cf d[a]! d[i]! <0))) else some (.inl ((i+1:Nat):Int)):=by
   simp (disch:=omega) only[Cr,Cq,az,dc,ig,aj,ai,wrap64,dW,gi,Int.toNat_natCast,Option.bind_some,gf,gh,XE.aU,XE.aZ,XE.aX,XE.re,gg,iJ,gZ,gW,V.aM,V.toInt_int,cond_true,cond_false]
  simp only[rQ]
  by_cases U:cf d[a]! d[i]! <0
  ·rw[aj U] at e
   rw[ai (qC U)]
   exact ⟨_,aS e⟩
  ·rw[ai U] at e
   rw[aj U]
   exact ⟨t,(bJ e).trans h⟩
theorem Ns {a i:Nat} {d:Array XE} (ha:a<d.size) (hi:1≤i) (hs:d.size<1152921504606846976): ∀(j:Nat),j<d.size→
  ∃t,Loop (yY CC a i (eA d)) (j:Int)=some (((scanDown (fun x=>aA d[a]! x) d i j:Nat):Int),t)
 | 0,hj=>⟨false,aS (by simp (disch:=omega) only[yY,yX,az,ai];rfl)⟩
 | j+1,hj=>by
  obtain ⟨t,h⟩:=Ns ha hi hs j (by omega)
  rw[Np]
  by_cases h1:i≤j+1
  ·rw[aj h1]
   have e:yY CC a i (eA d) ((j+1:Nat):Int)=if cf d[a]! d[j+1]! <0 then some (.inl (j:Int)) else some (.inr (((j+1:Nat):Int),decide (cf d[a]! d[j+1]! <0))):=by
    simp (disch:=omega) only[yY,yX,az,dc,ig,aj,ai,wrap64,dW,gi,Int.toNat_natCast,Option.bind_some,gf,gh,XE.aU,XE.aZ,XE.aX,XE.re,gg,iJ,gZ,gW,V.aM,V.toInt_int,cond_true,cond_false,vL]
   simp only[tq]
   by_cases U:cf d[a]! d[j+1]! <0
   ·rw[aj U] at e
    rw[aj U]
    exact ⟨t,(bJ e).trans h⟩
   ·rw[ai U] at e
    rw[ai U]
    exact ⟨_,aS e⟩
  ·rw[ai h1]
   exact ⟨false,aS (by simp (disch:=omega) only[yY,yX,az,ai])⟩
theorem agB {a:Nat}: ∀(n i j:Nat) (d:Array XE),j+1-i≤n→1≤i→i≤d.size→a<d.size→j<d.size→d.size<1152921504606846976→
  ∃x z,Loop (yV CC a) ((i:Int),(j:Int),eA d)=some (x,(((partLoop aA a i j d).1:Nat):Int),z,eA (partLoop aA a i j d).2):=by
 intro n
 induction n with
 | zero=>
  intro i j d hn h1 U ha hj hs
  obtain ⟨t3,e3⟩:=U3 (a:=a) ha hj hs _ i rfl U
  have g1:=scanUp_ge (fun x=>aA x d[a]!) d j i
  have g2:=scanDown_le (fun x=> !aA x d[a]!) d (scanUp (fun x=>aA x d[a]!) d j i) j
  obtain ⟨t4,e4⟩:=Nr (a:=a) (i:=scanUp (fun x=>aA x d[a]!) d j i) ha (by omega) hs j hj
  rw[partLoop_eq,aj (by omega)]
  refine ⟨((scanUp (fun x=>aA x d[a]!) d j i:Nat):Int),true,aS ?_⟩
  simp only[yV,Co,un]
  rw[e3]
  simp only[Option.bind_some,un]
  rw[e4]
  simp (disch:=omega) only[Option.bind_some,un,nY,cond_true]
 | succ n ih=>
  intro i j d hn h1 U ha hj hs
  obtain ⟨t3,e3⟩:=U3 (a:=a) ha hj hs _ i rfl U
  have g1:=scanUp_ge (fun x=>aA x d[a]!) d j i
  have g2:=scanDown_le (fun x=> !aA x d[a]!) d (scanUp (fun x=>aA x d[a]!) d j i) j
  obtain ⟨t4,e4⟩:=Nr (a:=a) (i:=scanUp (fun x=>aA x d[a]!) d j i) ha (by omega) hs j hj
  rw[partLoop_eq]
  have f:yV CC a ((i:Int),(j:Int),eA d)=yV CC a ((i:Int),(j:Int),eA d):=rfl
  conv at f=>rhs;simp only[yV,Co,un];rw[e3];simp only[Option.bind_some,un];rw[e4];simp only[Option.bind_some,un]
  generalize hZ:scanUp (fun x=>aA x d[a]!) d j i=i2 at*
  generalize gv:scanDown (fun x=> !aA x d[a]!) d i2 j=j2 at*
  by_cases h:i2>j2
  ·rw[aj h]
   refine ⟨(i2:Int),true,aS (f.trans ?_)⟩
   simp (disch:=omega) only[Option.bind_some,nY,cond_true]
  ·rw[ai h]
   obtain ⟨x,z,e⟩:=ih (i2+1) (j2-1) (swp d i2 j2) (by omega) (by omega) (by rw[size_swp];omega) (by rw[size_swp];omega) (by rw[size_swp];omega) (by rw[size_swp];omega)
   refine ⟨x,z,(bJ (f.trans ?_)).trans e⟩
   simp (disch:=omega) only[az,dc,ig,aj,ai,wrap64,dW,gi,Int.toNat_natCast,Option.bind_some,gf,gh,XE.aU,XE.aZ,XE.aX,XE.re,gg,iJ,gZ,gW,V.aM,V.toInt_int,cond_true,cond_false,kV]
   rfl
theorem agC (d:Array XE) (a b pivot:Nat):partition aA d a b pivot=
  if scanUp (fun x=>aA x (swp d a pivot)[a]!) (swp d a pivot) (b-1) (a+1)>scanDown (fun x=> !aA x (swp d a pivot)[a]!) (swp d a pivot) (scanUp (fun x=>aA x (swp d a pivot)[a]!) (swp d a pivot) (b-1) (a+1)) (b-1) then
   (scanDown (fun x=> !aA x (swp d a pivot)[a]!) (swp d a pivot) (scanUp (fun x=>aA x (swp d a pivot)[a]!) (swp d a pivot) (b-1) (a+1)) (b-1),true,swp (swp d a pivot) (scanDown (fun x=> !aA x (swp d a pivot)[a]!) (swp d a pivot) (scanUp (fun x=>aA x (swp d a pivot)[a]!) (swp d a pivot) (b-1) (a+1)) (b-1)) a)
  else
   ((partLoop aA a (scanUp (fun x=>aA x (swp d a pivot)[a]!) (swp d a pivot) (b-1) (a+1)+1) (scanDown (fun x=> !aA x (swp d a pivot)[a]!) (swp d a pivot) (scanUp (fun x=>aA x (swp d a pivot)[a]!) (swp d a pivot) (b-1) (a+1)) (b-1)-1) (swp (swp d a pivot) (scanUp (fun x=>aA x (swp d a pivot)[a]!) (swp d a pivot) (b-1) (a+1)) (scanDown (fun x=> !aA x (swp d a pivot)[a]!) (swp d a pivot) (scanUp (fun x=>aA x (swp d a pivot)[a]!) (swp d a pivot) (b-1) (a+1)) (b-1)))).1,false,
    swp (partLoop aA a (scanUp (fun x=>aA x (swp d a pivot)[a]!) (swp d a pivot) (b-1) (a+1)+1) (scanDown (fun x=> !aA x (swp d a pivot)[a]!) (swp d a pivot) (scanUp (fun x=>aA x (swp d a pivot)[a]!) (swp d a pivot) (b-1) (a+1)) (b-1)-1) (swp (swp d a pivot) (scanUp (fun x=>aA x (swp d a pivot)[a]!) (swp d a pivot) (b-1) (a+1)) (scanDown (fun x=> !aA x (swp d a pivot)[a]!) (swp d a pivot) (scanUp (fun x=>aA x (swp d a pivot)[a]!) (swp d a pivot) (b-1) (a+1)) (b-1)))).2
    (partLoop aA a (scanUp (fun x=>aA x (swp d a pivot)[a]!) (swp d a pivot) (b-1) (a+1)+1) (scanDown (fun x=> !aA x (swp d a pivot)[a]!) (swp d a pivot) (scanUp (fun x=>aA x (swp d a pivot)[a]!) (swp d a pivot) (b-1) (a+1)) (b-1)-1) (swp (swp d a pivot) (scanUp (fun x=>aA x (swp d a pivot)[a]!) (swp d a pivot) (b-1) (a+1)) (scanDown (fun x=> !aA x (swp d a pivot)[a]!) (swp d a pivot) (scanUp (fun x=>aA x (swp d a pivot)[a]!) (swp d a pivot) (b-1) (a+1)) (b-1)))).1 a):=rfl
theorem y5 (d:Array XE) (i j:Nat):eA ((d.setIfInBounds i d[j]!).setIfInBounds j d[i]!)=eA (swp d i j):=rfl
theorem agD {a b pivot:Nat} {d:Array XE} (hp:pivot<b) (fu:a<b) (hb:b≤d.size) (hs:d.size<1152921504606846976):
  CC nT [.int .i64 (a:Int),.int .i64 (b:Int),.int .i64 (pivot:Int),.list aa (eA d)]=
   some [.int .i64 ((partition aA d a b pivot).1:Int),.bool (partition aA d a b pivot).2.1,.list aa (eA (partition aA d a b pivot).2.2)]:=by
 refine agi ?_
 unfold UW
 have z1:(swp d a pivot).size=d.size:=size_swp ..
 obtain ⟨t1,e1⟩:=agA (a:=a) (j:=b-1) (d:=swp d a pivot) (by omega) (by omega) (by omega) _ (a+1) rfl (by omega)
 have g1:=scanUp_ge (fun x=>aA x (swp d a pivot)[a]!) (swp d a pivot) (b-1) (a+1)
 have g2:=scanDown_le (fun x=> !aA x (swp d a pivot)[a]!) (swp d a pivot) (scanUp (fun x=>aA x (swp d a pivot)[a]!) (swp d a pivot) (b-1) (a+1)) (b-1)
 obtain ⟨t2,e2⟩:=U4 (a:=a) (i:=scanUp (fun x=>aA x (swp d a pivot)[a]!) (swp d a pivot) (b-1) (a+1)) (d:=swp d a pivot) (by omega) (by omega) (by omega) (b-1) (by omega)
 have e0:=agC d a b pivot
 rw[kW (i:=pivot) (by omega),kX (by omega),kW (i:=a) (by omega),kX (by omega),kW (i:=a) (by omega),kX (by omega),Hl (i:=pivot) (by omega),Hm (by omega)]
 simp only[XE.aU,XE.aZ,XE.aX,XE.re,Int.toNat_natCast,gg,y5]
 simp (disch:=omega) only[kV,dW,wrap64]
 rw[e1]
 simp only[Option.bind_some,un]
 rw[e2]
 simp only[Option.bind_some,un]
 generalize hZ:scanUp (fun x=>aA x (swp d a pivot)[a]!) (swp d a pivot) (b-1) (a+1)=i2 at*
 generalize gv:scanDown (fun x=> !aA x (swp d a pivot)[a]!) (swp d a pivot) i2 (b-1)=j2 at*
 generalize swp d a pivot=d1 at*
 by_cases h:i2>j2
 ·rw[aj h] at e0
  rw[e0,az,aj (by omega)]
  rw[kW (i:=a) (by omega)];(first|rw[kX (by omega)]|rw[rS (by omega)]);rw[kW (i:=j2) (by omega)];(first|rw[kX (by omega)]|rw[rS (by omega)]);rw[kW (i:=j2) (by omega)];(first|rw[kX (by omega)]|rw[rS (by omega)]);rw[Hl (i:=a) (by omega)];(first|rw[Hm (by omega)]|rw[Nq (by omega)])
  simp only[XE.aU,XE.aZ,XE.aX,XE.re,Int.toNat_natCast,gg,y5]
 ·rw[ai h] at e0
  rw[e0,az,ai (by omega)]
  have z2:(swp d1 i2 j2).size=d1.size:=size_swp ..
  obtain ⟨x,z,e5⟩:=agB (a:=a) _ (i2+1) (j2-1) (swp d1 i2 j2) (cg _) (by omega) (by omega) (by omega) (by omega) (by omega)
  obtain ⟨q1,q2⟩:=agz (a:=a) _ (i2+1) (j2-1) (swp d1 i2 j2) (cg _)
  rw[kW (i:=j2) (by omega)];(first|rw[kX (by omega)]|rw[rS (by omega)]);rw[kW (i:=i2) (by omega)];(first|rw[kX (by omega)]|rw[rS (by omega)]);rw[kW (i:=i2) (by omega)];(first|rw[kX (by omega)]|rw[rS (by omega)]);rw[Hl (i:=j2) (by omega)];(first|rw[Hm (by omega)]|rw[Nq (by omega)])
  simp only[XE.aU,XE.aZ,XE.aX,XE.re,Int.toNat_natCast,gg,y5]
  simp (disch:=omega) only[kV,dW,wrap64]
  rw[e5]
  generalize partLoop aA a (i2+1) (j2-1) (swp d1 i2 j2)=r at*
  simp only[Option.bind_some,un]
  rw[kW (i:=a) (by omega)];(first|rw[kX (by omega)]|rw[rS (by omega)]);rw[kW (i:=r.1) (by omega)];(first|rw[kX (by omega)]|rw[rS (by omega)]);rw[kW (i:=r.1) (by omega)];(first|rw[kX (by omega)]|rw[rS (by omega)]);rw[Hl (i:=a) (by omega)];(first|rw[Hm (by omega)]|rw[Nq (by omega)])
  simp only[XE.aU,XE.aZ,XE.aX,XE.re,Int.toNat_natCast,gg,y5]
theorem agE {a:Nat}: ∀(n i j:Nat) (d:Array XE),j+1-i≤n→1≤i→i≤d.size→a<d.size→j<d.size→d.size<1152921504606846976→
  ∃x z,Loop (yZ CC a) ((i:Int),(j:Int),eA d)=some ((((partEqLoop aA a i j d).1:Nat):Int),x,z,eA (partEqLoop aA a i j d).2):=by
 intro n
 induction n with
 | zero=>
  intro i j d hn h1 U ha hj hs
  obtain ⟨t3,e3⟩:=U5 (a:=a) ha hj hs _ i rfl U
  have g1:=scanUp_ge (fun x=> !aA d[a]! x) d j i
  have g2:=scanDown_le (fun x=>aA d[a]! x) d (scanUp (fun x=> !aA d[a]! x) d j i) j
  obtain ⟨t4,e4⟩:=Ns (a:=a) (i:=scanUp (fun x=> !aA d[a]! x) d j i) ha (by omega) hs j hj
  rw[partEqLoop_eq,aj (by omega)]
  refine ⟨((scanDown (fun x=>aA d[a]! x) d (scanUp (fun x=> !aA d[a]! x) d j i) j:Nat):Int),true,aS ?_⟩
  simp only[yZ,Cs,un]
  rw[e3]
  simp only[Option.bind_some,un]
  rw[e4]
  simp (disch:=omega) only[Option.bind_some,un,nY,cond_true]
 | succ n ih=>
  intro i j d hn h1 U ha hj hs
  obtain ⟨t3,e3⟩:=U5 (a:=a) ha hj hs _ i rfl U
  have g1:=scanUp_ge (fun x=> !aA d[a]! x) d j i
  have g2:=scanDown_le (fun x=>aA d[a]! x) d (scanUp (fun x=> !aA d[a]! x) d j i) j
  obtain ⟨t4,e4⟩:=Ns (a:=a) (i:=scanUp (fun x=> !aA d[a]! x) d j i) ha (by omega) hs j hj
  rw[partEqLoop_eq]
  have f:yZ CC a ((i:Int),(j:Int),eA d)=yZ CC a ((i:Int),(j:Int),eA d):=rfl
  conv at f=>rhs;simp only[yZ,Cs,un];rw[e3];simp only[Option.bind_some,un];rw[e4];simp only[Option.bind_some,un]
  generalize hZ:scanUp (fun x=> !aA d[a]! x) d j i=i2 at*
  generalize gv:scanDown (fun x=>aA d[a]! x) d i2 j=j2 at*
  by_cases h:i2>j2
  ·rw[aj h]
   refine ⟨(j2:Int),true,aS (f.trans ?_)⟩
   simp (disch:=omega) only[Option.bind_some,nY,cond_true]
  ·rw[ai h]
   obtain ⟨x,z,e⟩:=ih (i2+1) (j2-1) (swp d i2 j2) (by omega) (by omega) (by rw[size_swp];omega) (by rw[size_swp];omega) (by rw[size_swp];omega) (by rw[size_swp];omega)
   refine ⟨x,z,(bJ (f.trans ?_)).trans e⟩
   simp (disch:=omega) only[az,dc,ig,aj,ai,wrap64,dW,gi,Int.toNat_natCast,Option.bind_some,gf,gh,XE.aU,XE.aZ,XE.aX,XE.re,gg,iJ,gZ,gW,V.aM,V.toInt_int,cond_true,cond_false,kV]
   rfl
theorem agF {a b pivot:Nat} {d:Array XE} (hp:pivot<b) (fu:a<b) (hb:b≤d.size) (hs:d.size<1152921504606846976):
  CC vj [.int .i64 (a:Int),.int .i64 (b:Int),.int .i64 (pivot:Int),.list aa (eA d)]=
   some [.int .i64 ((partitionEqual aA d a b pivot).1:Int),.list aa (eA (partitionEqual aA d a b pivot).2)]:=by
 refine ago ?_
 unfold UY
 have z1:(swp d a pivot).size=d.size:=size_swp ..
 obtain ⟨x,z,e⟩:=agE (a:=a) _ (a+1) (b-1) (swp d a pivot) (cg _) (by omega) (by omega) (by omega) (by omega) (by omega)
 simp (disch:=omega) only[az,dc,aj,gf,gh,Int.toNat_natCast,Option.bind_some,XE.aU,XE.aZ,XE.aX,XE.re,gg,iJ,gZ,kV,dW,wrap64,y5]
 rw[e]
 rfl
theorem agG {a b j:Nat} {d:Array XE} (hb:b≤d.size) (hs:d.size<1152921504606846976): ∀(n i:Nat),b-i=n→1≤i→i≤b→
  ∃t,Loop (Cu CC a b j (eA d)) (i:Int)=some (((scanSorted aA d b i:Nat):Int),t):=by
 intro n
 induction n with
 | zero=>
  intro i hn h1 hi
  rw[Hj,ai (by omega)]
  exact ⟨false,aS (by simp (disch:=omega) only[Cu,Ct,az,ai])⟩
 | succ n ih=>
  intro i hn h1 hi
  obtain ⟨t,h⟩:=ih (i+1) (by omega) (by omega) (by omega)
  rw[Hj,aj (by omega)]
  have e:Cu CC a b j (eA d) (i:Int)=if cf d[i]! d[i-1]! <0 then some (.inr ((i:Int),!decide (cf d[i]! d[i-1]! <0))) else some (.inl ((i+1:Nat):Int)):=by
   simp (disch:=omega) only[Cu,Ct,kV,az,dc,ig,aj,ai,wrap64,dW,gi,Int.toNat_natCast,Option.bind_some,gf,gh,XE.aU,XE.aZ,XE.aX,XE.re,gg,iJ,gZ,gW,V.aM,V.toInt_int,cond_true,cond_false]
  by_cases U:cf d[i]! d[i-1]! <0
  ·rw[aj U] at e⊢
   exact ⟨_,aS e⟩
  ·rw[ai U] at e⊢
   exact ⟨t,(bJ e).trans h⟩
theorem U6: ∀(j:Nat) (d:Array XE),(shiftDown aA j d).size=d.size
 | 0,_=>rfl
 | j+1,d=>by
  rw[U2]
  split
  ·rw[U6 j,size_swp]
  ·rfl
theorem agH {b:Nat}: ∀(n j:Nat) (d:Array XE),b-j=n→(shiftUp aA b j d).size=d.size:=by
 intro n
 induction n with
 | zero=>intro j d h;rw[Hk,ai (by omega)]
 | succ n ih=>
  intro j d h
  rw[Hk,aj (by omega)]
  split
  ·rw[ih _ _ (by omega),size_swp]
  ·rfl
theorem U7 {a b i k:Nat}: ∀(j:Nat) (d:Array XE),j<d.size→d.size<1152921504606846976→
  ∃t,Loop (Cw CC a b i k) ((j:Int),eA d)=some (t,eA (shiftDown aA j d))
 | 0,d,hj,hs=>⟨(0:Nat),aS (by
   simp (disch:=omega) only[Cw,Cv,un,az,ai]
   rfl)⟩
 | j+1,d,hj,hs=>by
  obtain ⟨t,ih⟩:=U7 (a:=a) (b:=b) (i:=i) (k:=k) j (swp d (j+1) j) (by rw[size_swp];omega) (by rw[size_swp];omega)
  rw[U2]
  have e:Cw CC a b i k (((j+1:Nat):Int),eA d)=if cf d[j+1]! d[j]! <0 then some (.inl ((j:Int),eA (swp d (j+1) j))) else some (.inr (((j+1:Nat):Int),eA d)):=by
   simp (disch:=omega) only[Cw,Cv,un,az,dc,ig,aj,ai,wrap64,dW,gi,Int.toNat_natCast,Option.bind_some,gf,gh,XE.aU,XE.aZ,XE.aX,XE.re,gg,iJ,gZ,gW,V.aM,V.toInt_int,cond_true,cond_false,vL]
   rfl
  by_cases U:cf d[j+1]! d[j]! <0
  ·rw[aj U] at e⊢
   exact ⟨t,(bJ e).trans ih⟩
  ·rw[ai U] at e⊢
   exact ⟨_,aS e⟩
theorem agI {a b i k:Nat}: ∀(n j:Nat) (d:Array XE),b-j=n→1≤j→j≤b→b≤d.size→d.size<1152921504606846976→
  ∃t,Loop (Cy CC a b i k) ((j:Int),eA d)=some (t,eA (shiftUp aA b j d)):=by
 intro n
 induction n with
 | zero=>
  intro j d hn h1 hj hb hs
  rw[Hk,ai (by omega)]
  exact ⟨(j:Int),aS (by
   simp (disch:=omega) only[Cy,Cx,un,az,ai])⟩
 | succ n ih=>
  intro j d hn h1 hj hb hs
  obtain ⟨t,h⟩:=ih (j+1) (swp d j (j-1)) (by omega) (by omega) (by omega) (by rw[size_swp];omega) (by rw[size_swp];omega)
  rw[Hk,aj (by omega)]
  have e:Cy CC a b i k ((j:Int),eA d)=if cf d[j]! d[j-1]! <0 then some (.inl (((j+1:Nat):Int),eA (swp d j (j-1)))) else some (.inr ((j:Int),eA d)):=by
   simp (disch:=omega) only[Cy,Cx,un,kV,az,dc,ig,aj,ai,wrap64,dW,gi,Int.toNat_natCast,Option.bind_some,gf,gh,XE.aU,XE.aZ,XE.aX,XE.re,gg,iJ,gZ,gW,V.aM,V.toInt_int,cond_true,cond_false]
   rfl
  by_cases U:cf d[j]! d[j-1]! <0
  ·rw[aj U] at e⊢
   exact ⟨t,(bJ e).trans h⟩
  ·rw[ai U] at e⊢
   exact ⟨_,aS e⟩
theorem agJ {d:Array XE} {b:Nat}: ∀(n i:Nat),b-i=n→i≤b→i≤scanSorted aA d b i∧scanSorted aA d b i≤b:=by
 intro n
 induction n with
 | zero=>intro i hn hi;rw[Hj,ai (by omega)];omega
 | succ n ih=>
  intro i hn hi
  rw[Hj,aj (by omega)]
  obtain ⟨h1,U⟩:=ih (i+1) (by omega) (by omega)
  split<;>omega
theorem agK {a b:Nat}: ∀(s i:Nat) (d:Array XE),s≤5→a<i→i≤b→b≤d.size→d.size<1152921504606846976→
  (Loop (tt CC a b) ((i:Int),((5-s:Nat):Int),eA d)=some (.inl ((partialIns aA a b s i d).2,eA (partialIns aA a b s i d).1)))∨
  (∃x y z,(partialIns aA a b s i d).2=false∧Loop (tt CC a b) ((i:Int),((5-s:Nat):Int),eA d)=some (.inr (x,y,z,eA (partialIns aA a b s i d).1))):=by
 intro s
 induction s with
 | zero=>
  intro i d hs5 hi Nt hb hs
  refine .inr ⟨(i:Int),((5:Nat):Int),false,rfl,aS ?_⟩
  simp (disch:=omega) only[tt,Cz,un,tn,cond_false]
  rfl
 | succ s ih=>
  intro i d hs5 hi Nt hb hs
  obtain ⟨t1,e1⟩:=agG (a:=a) (j:=5-(s+1)) hb hs _ i rfl (by omega) Nt
  obtain ⟨q1,q2⟩:=agJ (d:=d) _ i rfl Nt
  rw[partialIns_succ]
  have f:tt CC a b ((i:Int),((5-(s+1):Nat):Int),eA d)=tt CC a b ((i:Int),((5-(s+1):Nat):Int),eA d):=rfl
  conv at f=>rhs;simp only[tt,Cz,un];rw[az,aj (by omega),e1];simp only[Option.bind_some,un]
  generalize scanSorted aA d b i=k at*
  by_cases h1:k=b
  ·rw[aj h1]
   left
   refine aS (f.trans ?_)
   rw[dq,aj (by omega)]
  ·rw[ai h1]
   by_cases U:b-a<50
   ·rw[aj U]
    left
    refine aS (f.trans ?_)
    rw[dq,ai (by omega),wrap64 (by omega) (by omega),az,aj (by omega)]
   ·rw[ai U]
    have z1:(swp d k (k-1)).size=d.size:=size_swp ..
    have z2:(fixDown aA a k (swp d k (k-1))).size=d.size:=by
     unfold fixDown
     split
     ·rw[U6,z1]
     ·exact z1
    have z3:(fixUp aA b k (fixDown aA a k (swp d k (k-1)))).size=d.size:=by
     unfold fixUp
     split
     ·rw[agH _ _ _ rfl,z2]
     ·exact z2
    obtain ⟨t2,e2⟩:=U7 (a:=a) (b:=b) (i:=k) (k:=5-(s+1)) (k-1) (swp d k (k-1)) (by omega) (by omega)
    obtain ⟨t4,e4⟩:=agI (a:=a) (b:=b) (i:=k) (k:=5-(s+1)) _ (k+1) (fixDown aA a k (swp d k (k-1))) rfl (by omega) (by omega) (by omega) (by omega)
    have e5:tt CC a b ((i:Int),((5-(s+1):Nat):Int),eA d)=some (.inl ((k:Int),((5-s:Nat):Int),eA (fixUp aA b k (fixDown aA a k (swp d k (k-1)))))):=by
     refine f.trans ?_
     rw[dq,ai (by omega),wrap64 (by omega) (by omega),az,ai (by omega)]
     simp (disch:=omega) only[az,dc,aj,gf,gh,Int.toNat_natCast,Option.bind_some,XE.aU,XE.aZ,XE.aX,XE.re,gg,iJ,gZ,kV,dW,m7,wrap64,y5,Hi]
     rw[show 5-(s+1)+1=5-s by omega]
     unfold fixDown at e4⊢
     unfold fixUp
     have c1:(((k-a:Nat):Int)≥2)=(k-a≥2):=propext (by omega)
     have c2:(((b-k:Nat):Int)≥2)=(b-k≥2):=propext (by omega)
     simp only[c1,c2]
     by_cases g1:k-a≥2
     ·by_cases g2:b-k≥2
      ·simp only[g1,g2,cW,e2,Option.bind_some,un] at e4⊢
       rw[e4]
       rfl
      ·simp only[g1,g2,cW,fG,e2,Option.bind_some,un]
     ·by_cases g2:b-k≥2
      ·simp only[g1,g2,cW,fG] at e4⊢
       rw[e4]
       rfl
      ·exact absurd (show b-k≥2 by omega) g2
    rw[bJ e5]
    exact ih k _ (by omega) (by omega) (by omega) (by omega) (by omega)
theorem U8 {a b:Nat} {d:Array XE} (fu:a<b) (hb:b≤d.size) (hs:d.size<1152921504606846976):
  CC Gn [.int .i64 (a:Int),.int .i64 (b:Int),.list aa (eA d)]=
   some [.bool (partialInsertionSort aA d a b).2,.list aa (eA (partialInsertionSort aA d a b).1)]:=by
 refine agy ?_
 unfold U1
 simp (disch:=omega) only[dW,wrap64]
 rcases agK (a:=a) (b:=b) 5 (a+1) d (cg _) (by omega) (by omega) hb hs with h|⟨x,y,z,h0,h⟩
 ·rw[show ((5-5:Nat):Int)=0 from rfl] at h
  rw[h]
  rfl
 ·rw[show ((5-5:Nat):Int)=0 from rfl] at h
  rw[h]
  unfold partialInsertionSort
  rw[h0]
  rfl
end Go.AM.SX
set_option maxRecDepth 100000
namespace Go.AM
open Go.Proofs
noncomputable abbrev tu:Code:=cE Tryz.prog (ax.aV 99)
noncomputable def CB (C:ae) (data:List V) (i j k':Int) (t36:Bool) (il:Int) {β:Type} (kr:(Int × Int × Int × Int)→Option β):Option β:=
 bif t36 then
  (C yc [.list aa data,.int .i64 i,.int .i64 il]).bind fun r1=>
  (C yc [.list aa data,.int .i64 j,.int .i64 ((V.nth (r1.drop 1) 0).toInt)]).bind fun r2=>
  (C yc [.list aa data,.int .i64 k',.int .i64 ((V.nth (r2.drop 1) 0).toInt)]).bind fun r3=>
  kr ((V.nth r1 0).toInt,(V.nth r2 0).toInt,(V.nth r3 0).toInt,(V.nth (r3.drop 1) 0).toInt)
 else
  kr (i,j,k',il)
noncomputable def CD (C:ae) (data:List V) (l i j k':Int) (t34:Bool) (il:Int) {β:Type} (kr:(Int × Int)→Option β):Option β:=
 bif t34 then
  CB C data i j k' (decide ((l:Int)≥50)) il (un fun (fC:Int)=>un fun (j_5:Int)=>un fun (k_6:Int) (agL:Int)=>
   (C BC [.list aa data,.int .i64 fC,.int .i64 j_5,.int .i64 k_6,.int .i64 agL]).bind fun r8=>
   kr ((V.nth r8 0).toInt,(V.nth (r8.drop 1) 0).toInt))
 else
  kr (j,il)
noncomputable def U9 (C:ae):ct:=fun β n ds k=>
 bif Nat.beq n 591 then iI Mi [[1,0,0,0,0]] (@CB C) ds k else
 bif Nat.beq n 559 then iI Mj [[0,0]] (@CD C) ds k else
 none
abbrev Va (C:ae) (b:cq):Prop:=cr Tryz.prog ax C (U9 C) 99 (cH Tryz.prog (ax.aV 99)) (ax.sin 99).bj.length b
theorem agM (C:ae):Va C (.cond 36 (aw [1,1,1,1,1,1,0,1,0,0,1,0] tu) (aw [1,1,1,1,1,1,0,1,0,0,1,1] tu)):=
 jl Mi [[1,0,0,0,0]] (@CB C) (by kernel_rfl) (bf (bs:=[]) (by kernel_rfl) av) (bf (bs:=[]) (by kernel_rfl) av) (fun ds=>by kernel_rfl) (fun i β k=>by kernel_rfl) (fun β ds k=>by kernel_rfl)
theorem agN (C:ae):Va C (.cond 34 (aw [1,1,1,1,1,1,0,1,0] tu) (aw [1,1,1,1,1,1,0,1,1] tu)):=
 jl Mj [[0,0]] (@CD C) (by kernel_rfl) (bf (bs:=[.cond 36 (aw [1,1,1,1,1,1,0,1,0,0,1,0] tu) (aw [1,1,1,1,1,1,0,1,0,0,1,1] tu)]) (by kernel_rfl) (bx (agM C) av)) (bf (bs:=[]) (by kernel_rfl) av) (fun ds=>by kernel_rfl) (fun i β k=>by kernel_rfl) (fun β ds k=>by kernel_rfl)
noncomputable def Nu (C:ae) (data:List V) (a b':Int):Option (List V):=
 CD C data (IntKind.wrap .i64 (b'-a)) (IntKind.wrap .i64 (a+(IntKind.wrap .i64 (1*(IntKind.wrap .i64 (Int.tdiv (IntKind.wrap .i64 (b'-a)) 4)))))) (IntKind.wrap .i64 (a+(IntKind.wrap .i64 (2*(IntKind.wrap .i64 (Int.tdiv (IntKind.wrap .i64 (b'-a)) 4)))))) (IntKind.wrap .i64 (a+(IntKind.wrap .i64 (3*(IntKind.wrap .i64 (Int.tdiv (IntKind.wrap .i64 (b'-a)) 4)))))) (decide (((IntKind.wrap .i64 (b'-a)):Int)≥8)) 0 (un fun (Nw:Int) (Vb:Int)=>
  bif (Vb:Int)==0 then
   some [.int .i64 Nw,.int .i64 1]
  else
   bif (Vb:Int)==12 then
   some [.int .i64 Nw,.int .i64 2]
   else
   some [.int .i64 Nw,.int .i64 0])
theorem Vc {data:List V} {a b':Int} {r:Option (List V)} (h:Nu CC data a b'=r):CC BA [.list aa data,.int .i64 a,.int .i64 b']=r:=
 aY (key:=99) (L:=U9 CC) (bs:=[.cond 34 (aw [1,1,1,1,1,1,0,1,0] tu) (aw [1,1,1,1,1,1,0,1,1] tu)]) (by kernel_rfl) (bx (agN CC) av) (aW (by kernel_rfl) h)
noncomputable def Vd (C:ae) (data:List V) (a b' c il:Int):Option (List V):=
 (C yd [.list aa data,.int .i64 a,.int .i64 b',.int .i64 il]).bind fun r1=>
 (C yd [.list aa data,.int .i64 ((V.nth (r1.drop 1) 0).toInt),.int .i64 c,.int .i64 ((V.nth (r1.drop 2) 0).toInt)]).bind fun r2=>
 (C yd [.list aa data,.int .i64 ((V.nth r1 0).toInt),.int .i64 ((V.nth r2 0).toInt),.int .i64 ((V.nth (r2.drop 2) 0).toInt)]).bind fun r3=>
 some [.int .i64 ((V.nth (r3.drop 1) 0).toInt),.int .i64 ((V.nth (r3.drop 2) 0).toInt)]
theorem agO {data:List V} {a b' c il:Int} {r:Option (List V)} (h:Vd CC data a b' c il=r):CC BC [.list aa data,.int .i64 a,.int .i64 b',.int .i64 c,.int .i64 il]=r:=
 aY (key:=110) (L:=cd) (bs:=[]) (by kernel_rfl) av (aW (by kernel_rfl) h)
noncomputable def Nx (C:ae) (data:List V) (a b' il:Int):Option (List V):=
 (idx data b').bind fun x1=>
 (idx data a).bind fun x2=>
 (C bp [.int .i64 ((x1.cell 0).toInt),.int .i64 ((x1.cell 1).toInt),.list aa ((x1.cell 2).toList),.int .i64 ((x2.cell 0).toInt),.int .i64 ((x2.cell 1).toInt),.list aa ((x2.cell 2).toList)]).bind fun r3=>
 bif decide ((((V.nth r3 0).toInt):Int)<0) then
  some [.int .i64 b',.int .i64 a,.int .i64 (IntKind.wrap .i64 (il+1))]
 else
  some [.int .i64 a,.int .i64 b',.int .i64 il]
theorem Ve {data:List V} {a b' il:Int} {r:Option (List V)} (h:Nx CC data a b' il=r):CC yd [.list aa data,.int .i64 a,.int .i64 b',.int .i64 il]=r:=
 aY (key:=111) (L:=cd) (bs:=[]) (by kernel_rfl) av (aW (by kernel_rfl) h)
noncomputable def Vf (C:ae) (data:List V) (a il:Int):Option (List V):=
 (C BC [.list aa data,.int .i64 (IntKind.wrap .i64 (a-1)),.int .i64 a,.int .i64 (IntKind.wrap .i64 (a+1)),.int .i64 il]).bind fun r1=>
 some [.int .i64 ((V.nth r1 0).toInt),.int .i64 ((V.nth (r1.drop 1) 0).toInt)]
theorem agP {data:List V} {a il:Int} {r:Option (List V)} (h:Vf CC data a il=r):CC yc [.list aa data,.int .i64 a,.int .i64 il]=r:=
 aY (key:=109) (L:=cd) (bs:=[]) (by kernel_rfl) av (aW (by kernel_rfl) h)
noncomputable abbrev y6:Code:=cE Tryz.prog (ax.aV 98)
noncomputable def Hn (C:ae) (a length y7 j8 other:Int) (t45:Bool) (ak:List V) (CE:Int) {β:Type} (kr:(Int)→Option β):Option β:=
 bif t45 then
  kr (IntKind.wrap .i64 (other-length))
 else
  kr other
noncomputable def CF (C:ae) (a length y7 j8:Int) (ak:List V) (CE:Int) {β:Type} (kn:(Int × (List V) × Int)→Option β) (kr:(Int × Bool × (List V) × Int)→Option β):Option β:=
 bif decide ((j8:Int)≤(IntKind.wrap .i64 ((IntKind.wrap .i64 (a+(IntKind.wrap .i64 (2*(IntKind.wrap .i64 (Int.tdiv length 4))))))+1))) then
  (C Gr [.int .u64 CE]).bind fun r2=>
  Hn C a length y7 j8 (IntKind.wrap .i64 (IntKind.wrap .u64 ((BitVec.ofInt (IntKind.bits .u64) ((V.nth r2 0).toInt)&&&BitVec.ofInt (IntKind.bits .u64) (IntKind.wrap .u64 (y7-1))).toNat))) (decide (((IntKind.wrap .i64 (IntKind.wrap .u64 ((BitVec.ofInt (IntKind.bits .u64) ((V.nth r2 0).toInt)&&&BitVec.ofInt (IntKind.bits .u64) (IntKind.wrap .u64 (y7-1))).toNat))):Int)≥length)) ak ((V.nth (r2.drop 1) 0).toInt) (fun (vR:Int)=>
   bif (decide (0≤(IntKind.wrap .i64 (a+vR))))&&(decide ((IntKind.wrap .i64 (a+vR))<(ak.length:Int))) then
   (ak[(IntKind.wrap .i64 (a+vR):Int).toNat]?).bind fun x4=>
   bif (decide (0≤j8))&&(decide (j8<(ak.length:Int))) then
    (ak[(j8:Int).toNat]?).bind fun x5=>
    bif (decide (0≤j8))&&(decide (j8<(ak.length:Int))) then
    (ak[(j8:Int).toNat]?).bind fun x6=>
    bif (decide (0≤(IntKind.wrap .i64 (a+vR))))&&(decide ((IntKind.wrap .i64 (a+vR))<((ak.set ((j8:Int).toNat) (.agg [.int .i64 ((x4.cell 0).toInt),.int .i64 ((x4.cell 1).toInt),.list aa ((x4.cell 2).toList)])).length:Int))) then
     ((ak.set ((j8:Int).toNat) (.agg [.int .i64 ((x4.cell 0).toInt),.int .i64 ((x4.cell 1).toInt),.list aa ((x4.cell 2).toList)]))[(IntKind.wrap .i64 (a+vR):Int).toNat]?).bind fun x7=>
     kn (IntKind.wrap .i64 (j8+1),(ak.set ((j8:Int).toNat) (.agg [.int .i64 ((x4.cell 0).toInt),.int .i64 ((x4.cell 1).toInt),.list aa ((x4.cell 2).toList)])).set ((IntKind.wrap .i64 (a+vR):Int).toNat) (.agg [.int .i64 ((x5.cell 0).toInt),.int .i64 ((x5.cell 1).toInt),.list aa ((x5.cell 2).toList)]),(V.nth (r2.drop 1) 0).toInt)
    else none
    else none
   else none
   else none)
 else
  kr (j8,decide ((j8:Int)≤(IntKind.wrap .i64 ((IntKind.wrap .i64 (a+(IntKind.wrap .i64 (2*(IntKind.wrap .i64 (Int.tdiv length 4))))))+1))),ak,CE)
noncomputable def Ho (C:ae) (a length y7:Int):(Int × (List V) × Int)→Option ((Int × (List V) × Int) ⊕ (Int × Bool × (List V) × Int)):=un fun j8=>un fun ak CE=>CF C a length y7 j8 ak CE (fun y=>some (.inl y)) (fun r=>some (.inr r))
noncomputable def Vg (C:ae):ct:=fun β n ds k=>
 bif Nat.beq n 735 then iI Mg [[1,2,3,4,0,7,8]] (@Hn C) ds k else
 bif Nat.beq n 81 then bY Mh [false,false,false,true,true,true] [[1,2,3,0,0,0,0]] (@CF C) ds k else
 none
abbrev Vh (C:ae) (b:cq):Prop:=cr Tryz.prog ax C (Vg C) 98 (cH Tryz.prog (ax.aV 98)) (ax.sin 98).bj.length b
theorem agQ (C:ae):Vh C (.cond 45 (aw [1,1,0,1,1,1,0,0,1,0,0,1,0,1,0] y6) (aw [1,1,0,1,1,1,0,0,1,0,0,1,0,1,1] y6)):=
 jl Mg [[1,2,3,4,0,7,8]] (@Hn C) (by kernel_rfl) (bf (bs:=[]) (by kernel_rfl) av) (bf (bs:=[]) (by kernel_rfl) av) (fun ds=>by kernel_rfl) (fun i β k=>by kernel_rfl) (fun β ds k=>by kernel_rfl)
theorem agR (C:ae):Vh C (.loop (aw [1,1,0,1,1,1,0,0] y6)):=
 b7 Mh [false,false,false,true,true,true] [[1,2,3,0,0,0,0]] (@CF C) (by kernel_rfl) (bf (bs:=[.cond 45 (aw [1,1,0,1,1,1,0,0,1,0,0,1,0,1,0] y6) (aw [1,1,0,1,1,1,0,0,1,0,0,1,0,1,1] y6)]) (by kernel_rfl) (bx (agQ C) av)) (fun ds=>by kernel_rfl) (fun i x=>by kernel_rfl) (fun i x β k=>by kernel_rfl) (fun β ds k=>by kernel_rfl)
noncomputable def Vi (C:ae) (a b':Int) (ak:List V):Option (List V):=
 bif decide (((IntKind.wrap .i64 (b'-a)):Int)≥8) then
  (C Gq [.int .i64 (IntKind.wrap .i64 (b'-a))]).bind fun r1=>
  (Loop (Ho C a (IntKind.wrap .i64 (b'-a)) ((V.nth r1 0).toInt)) (IntKind.wrap .i64 ((IntKind.wrap .i64 (a+(IntKind.wrap .i64 (2*(IntKind.wrap .i64 (Int.tdiv (IntKind.wrap .i64 (b'-a)) 4))))))-1),ak,IntKind.wrap .u64 (IntKind.wrap .i64 (b'-a)))).bind (un fun (amM:Int)=>un fun (td:Bool)=>un fun (pe:List V) (amN:Int)=>
   some [.list aa pe])
 else
  some [.list aa ak]
theorem agS {a b':Int} {ak:List V} {r:Option (List V)} (h:Vi CC a b' ak=r):CC Gl [.int .i64 a,.int .i64 b',.list aa ak]=r:=
 aY (key:=98) (L:=Vg CC) (bs:=[.loop (aw [1,1,0,1,1,1,0,0] y6)]) (by kernel_rfl) (bx (agR CC) av) (aW (by kernel_rfl) h)
noncomputable def Vj (C:ae) (jr:Int):Option (List V):=
 some [.int .u64 (IntKind.wrap .u64 ((BitVec.ofInt (IntKind.bits .u64) (IntKind.wrap .u64 ((BitVec.ofInt (IntKind.bits .u64) (IntKind.wrap .u64 ((BitVec.ofInt (IntKind.bits .u64) jr ^^^ BitVec.ofInt (IntKind.bits .u64) (IntKind.wrap .u64 (jr*2^(min (13:Int).toNat (IntKind.bits .u64))))).toNat)) ^^^ BitVec.ofInt (IntKind.bits .u64) (Int.fdiv (IntKind.wrap .u64 ((BitVec.ofInt (IntKind.bits .u64) jr ^^^ BitVec.ofInt (IntKind.bits .u64) (IntKind.wrap .u64 (jr*2^(min (13:Int).toNat (IntKind.bits .u64))))).toNat)) (2^(min (7:Int).toNat (IntKind.bits .u64))))).toNat)) ^^^ BitVec.ofInt (IntKind.bits .u64) (IntKind.wrap .u64 ((IntKind.wrap .u64 ((BitVec.ofInt (IntKind.bits .u64) (IntKind.wrap .u64 ((BitVec.ofInt (IntKind.bits .u64) jr ^^^ BitVec.ofInt (IntKind.bits .u64) (IntKind.wrap .u64 (jr*2^(min (13:Int).toNat (IntKind.bits .u64))))).toNat)) ^^^ BitVec.ofInt (IntKind.bits .u64) (Int.fdiv (IntKind.wrap .u64 ((BitVec.ofInt (IntKind.bits .u64) jr ^^^ BitVec.ofInt (IntKind.bits .u64) (IntKind.wrap .u64 (jr*2^(min (13:Int).toNat (IntKind.bits .u64))))).toNat)) (2^(min (7:Int).toNat (IntKind.bits .u64))))).toNat))*2^(min (17:Int).toNat (IntKind.bits .u64))))).toNat)),.int .u64 (IntKind.wrap .u64 ((BitVec.ofInt (IntKind.bits .u64) (IntKind.wrap .u64 ((BitVec.ofInt (IntKind.bits .u64) (IntKind.wrap .u64 ((BitVec.ofInt (IntKind.bits .u64) jr ^^^ BitVec.ofInt (IntKind.bits .u64) (IntKind.wrap .u64 (jr*2^(min (13:Int).toNat (IntKind.bits .u64))))).toNat)) ^^^ BitVec.ofInt (IntKind.bits .u64) (Int.fdiv (IntKind.wrap .u64 ((BitVec.ofInt (IntKind.bits .u64) jr ^^^ BitVec.ofInt (IntKind.bits .u64) (IntKind.wrap .u64 (jr*2^(min (13:Int).toNat (IntKind.bits .u64))))).toNat)) (2^(min (7:Int).toNat (IntKind.bits .u64))))).toNat)) ^^^ BitVec.ofInt (IntKind.bits .u64) (IntKind.wrap .u64 ((IntKind.wrap .u64 ((BitVec.ofInt (IntKind.bits .u64) (IntKind.wrap .u64 ((BitVec.ofInt (IntKind.bits .u64) jr ^^^ BitVec.ofInt (IntKind.bits .u64) (IntKind.wrap .u64 (jr*2^(min (13:Int).toNat (IntKind.bits .u64))))).toNat)) ^^^ BitVec.ofInt (IntKind.bits .u64) (Int.fdiv (IntKind.wrap .u64 ((BitVec.ofInt (IntKind.bits .u64) jr ^^^ BitVec.ofInt (IntKind.bits .u64) (IntKind.wrap .u64 (jr*2^(min (13:Int).toNat (IntKind.bits .u64))))).toNat)) (2^(min (7:Int).toNat (IntKind.bits .u64))))).toNat))*2^(min (17:Int).toNat (IntKind.bits .u64))))).toNat))]
theorem agT {jr:Int} {r:Option (List V)} (h:Vj CC jr=r):CC Gr [.int .u64 jr]=r:=
 aY (key:=108) (L:=cd) (bs:=[]) (by kernel_rfl) av (aW (by kernel_rfl) h)
noncomputable def Vk (C:ae) (length:Int):Option (List V):=
 (C Bx [.int .u64 (IntKind.wrap .u64 length)]).bind fun r1=>
 bif decide (0≤((V.nth r1 0).toInt)) then
  some [.int .u64 (IntKind.wrap .u64 (1*2^(min ((V.nth r1 0).toInt).toNat (IntKind.bits .u64))))]
 else none
theorem agU {length:Int} {r:Option (List V)} (h:Vk CC length=r):CC Gq [.int .i64 length]=r:=
 aY (key:=107) (L:=cd) (bs:=[]) (by kernel_rfl) av (aW (by kernel_rfl) h)
noncomputable def Vl (C:ae) (x:Int):Option (List V):=
 (C Gp [.int .u64 x]).bind fun r1=>
 some [.int .i64 ((V.nth r1 0).toInt)]
theorem agV {x:Int} {r:Option (List V)} (h:Vl CC x=r):CC Bx [.int .u64 x]=r:=
 aY (key:=95) (L:=cd) (bs:=[]) (by kernel_rfl) av (aW (by kernel_rfl) h)
noncomputable abbrev tv:Code:=cE Tryz.prog (ax.aV 105)
noncomputable def vS (C:ae) (x n:Int) (t4:Bool) {β:Type} (kr:(Int × Int)→Option β):Option β:=
 bif t4 then
  kr (Int.fdiv x (2^(min (32:Int).toNat (IntKind.bits .u64))),32)
 else
  kr (x,n)
noncomputable def vT (C:ae) (x n:Int) (t8:Bool) {β:Type} (kr:(Int × Int)→Option β):Option β:=
 bif t8 then
  kr (Int.fdiv x (2^(min (16:Int).toNat (IntKind.bits .u64))),IntKind.wrap .i64 (n+16))
 else
  kr (x,n)
noncomputable def Vm (C:ae):ct:=fun β n ds k=>
 bif Nat.beq n 79 then iI My [[0,0]] (@vS C) ds k else
 bif Nat.beq n 143 then iI Mz [[0,0]] (@vT C) ds k else
 none
abbrev Vn (C:ae) (b:cq):Prop:=cr Tryz.prog ax C (Vm C) 105 (cH Tryz.prog (ax.aV 105)) (ax.sin 105).bj.length b
theorem agW (C:ae):Vn C (.cond 4 (aw [1,0,1,0] tv) (aw [1,0,1,1] tv)):=
 jl My [[0,0]] (@vS C) (by kernel_rfl) (bf (bs:=[]) (by kernel_rfl) av) (bf (bs:=[]) (by kernel_rfl) av) (fun ds=>by kernel_rfl) (fun i β k=>by kernel_rfl) (fun β ds k=>by kernel_rfl)
theorem agX (C:ae):Vn C (.cond 8 (aw [1,1,0,1,0] tv) (aw [1,1,0,1,1] tv)):=
 jl Mz [[0,0]] (@vT C) (by kernel_rfl) (bf (bs:=[]) (by kernel_rfl) av) (bf (bs:=[]) (by kernel_rfl) av) (fun ds=>by kernel_rfl) (fun i β k=>by kernel_rfl) (fun β ds k=>by kernel_rfl)
noncomputable def agY (C:ae) (x:Int):Option (List V):=
 vS C x 0 (decide ((x:Int)≥4294967296)) (un fun (iL:Int) (CG:Int)=>
  vT C iL CG (decide ((iL:Int)≥65536)) (un fun (CH:Int) (Vo:Int)=>
   bif decide ((CH:Int)≥256) then
    (bif decide (0≤(IntKind.wrap .u8 (Int.fdiv CH (2^(min (8:Int).toNat (IntKind.bits .u64)))))) then (([0,1,2,2,3,3,3,3,4,4,4,4,4,4,4,4,5,5,5,5,5,5,5,5,5,5,5,5,5,5,5,5,6,6,6,6,6,6,6,6,6,6,6,6,6,6,6,6,6,6,6,6,6,6,6,6,6,6,6,6,6,6,6,6,7,7,7,7,7,7,7,7,7,7,7,7,7,7,7,7,7,7,7,7,7,7,7,7,7,7,7,7,7,7,7,7,7,7,7,7,7,7,7,7,7,7,7,7,7,7,7,7,7,7,7,7,7,7,7,7,7,7,7,7,7,7,7,7,8,8,8,8,8,8,8,8,8,8,8,8,8,8,8,8,8,8,8,8,8,8,8,8,8,8,8,8,8,8,8,8,8,8,8,8,8,8,8,8,8,8,8,8,8,8,8,8,8,8,8,8,8,8,8,8,8,8,8,8,8,8,8,8,8,8,8,8,8,8,8,8,8,8,8,8,8,8,8,8,8,8,8,8,8,8,8,8,8,8,8,8,8,8,8,8,8,8,8,8,8,8,8,8,8,8,8,8,8,8,8,8,8,8,8,8,8,8,8,8,8,8,8,8,8,8,8,8]:List UInt8)[(IntKind.wrap .u8 (Int.fdiv CH (2^(min (8:Int).toNat (IntKind.bits .u64)))):Int).toNat]?).map fun b=>V.int .u8 b.toNat else none).bind fun x5=>
    some [.int .i64 (IntKind.wrap .i64 ((IntKind.wrap .i64 (Vo+8))+(IntKind.wrap .i64 x5.toInt)))]
   else
    (bif decide (0≤(IntKind.wrap .u8 CH)) then (([0,1,2,2,3,3,3,3,4,4,4,4,4,4,4,4,5,5,5,5,5,5,5,5,5,5,5,5,5,5,5,5,6,6,6,6,6,6,6,6,6,6,6,6,6,6,6,6,6,6,6,6,6,6,6,6,6,6,6,6,6,6,6,6,7,7,7,7,7,7,7,7,7,7,7,7,7,7,7,7,7,7,7,7,7,7,7,7,7,7,7,7,7,7,7,7,7,7,7,7,7,7,7,7,7,7,7,7,7,7,7,7,7,7,7,7,7,7,7,7,7,7,7,7,7,7,7,7,8,8,8,8,8,8,8,8,8,8,8,8,8,8,8,8,8,8,8,8,8,8,8,8,8,8,8,8,8,8,8,8,8,8,8,8,8,8,8,8,8,8,8,8,8,8,8,8,8,8,8,8,8,8,8,8,8,8,8,8,8,8,8,8,8,8,8,8,8,8,8,8,8,8,8,8,8,8,8,8,8,8,8,8,8,8,8,8,8,8,8,8,8,8,8,8,8,8,8,8,8,8,8,8,8,8,8,8,8,8,8,8,8,8,8,8,8,8,8,8,8,8,8,8,8,8,8,8]:List UInt8)[(IntKind.wrap .u8 CH:Int).toNat]?).map fun b=>V.int .u8 b.toNat else none).bind fun x6=>
    some [.int .i64 (IntKind.wrap .i64 (Vo+(IntKind.wrap .i64 x6.toInt)))]))
theorem Vp {x:Int} {r:Option (List V)} (h:agY CC x=r):CC Gp [.int .u64 x]=r:=
 aY (key:=105) (L:=Vm CC) (bs:=[.cond 4 (aw [1,0,1,0] tv) (aw [1,0,1,1] tv),.cond 8 (aw [1,1,0,1,0] tv) (aw [1,1,0,1,1] tv)]) (by kernel_rfl) (bx (agW CC) (bx (agX CC) av)) (aW (by kernel_rfl) h)
noncomputable abbrev mn:Code:=cE Tryz.prog (ax.aV 94)
noncomputable def y8 (C:ae) (a b' jH:Int) (eZ fm:Bool) (length:Int) (t39:Bool) (ak:List V) {β:Type} (kr:(Int × (List V))→Option β):Option β:=
 bif t39 then
  (C Gl [.int .i64 a,.int .i64 b',.list aa ak]).bind fun r3=>
  kr (IntKind.wrap .i64 (jH-1),(V.nth r3 0).toList)
 else
  kr (jH,ak)
noncomputable def y9 (C:ae) (a b' jH:Int) (eZ fm:Bool) (length pivot hint:Int) (t56:Bool) (ak:List V) {β:Type} (kr:(Int × Int × (List V))→Option β):Option β:=
 bif t56 then
  (C Gm [.int .i64 a,.int .i64 b',.list aa ak]).bind fun r7=>
  kr (IntKind.wrap .i64 ((IntKind.wrap .i64 (b'-1))-(IntKind.wrap .i64 (pivot-a))),1,(V.nth r7 0).toList)
 else
  kr (pivot,hint,ak)
noncomputable def na (C:ae) (a b' jH:Int) (eZ fm:Bool) (length pivot:Int) (t75:Bool) (ak:List V) {β:Type} (kr:((Bool × (List V)) ⊕ (List V))→Option β):Option β:=
 bif t75 then
  (C Gn [.int .i64 a,.int .i64 b',.list aa ak]).bind fun dz=>
  bif (V.nth dz 0).toBool then
  kr (.inl ((V.nth dz 0).toBool,(V.nth (dz.drop 1) 0).toList))
  else
  kr (.inr ((V.nth (dz.drop 1) 0).toList))
 else
  kr (.inr ak)
noncomputable def ql (C:ae) (a b' jH:Int) (eZ fm:Bool) (ak:List V) {β:Type} (kn:(Int × Int × Int × Bool × Bool × (List V))→Option β) (kr:(List V)→Option β):Option β:=
 bif decide (((IntKind.wrap .i64 (b'-a)):Int)≤12) then
  (C By [.int .i64 a,.int .i64 b',.list aa ak]).bind fun r1=>
  kr ((V.nth r1 0).toList)
 else
  bif (jH:Int)==0 then
  (C Bz [.int .i64 a,.int .i64 b',.list aa ak]).bind fun r2=>
  kr ((V.nth r2 0).toList)
  else
  y8 C a b' jH eZ fm (IntKind.wrap .i64 (b'-a)) (!eZ) ak (un fun (cV:Int) (CI:List V)=>
   (C BA [.list aa CI,.int .i64 a,.int .i64 b']).bind fun r6=>
   y9 C a b' cV eZ fm (IntKind.wrap .i64 (b'-a)) ((V.nth r6 0).toInt) ((V.nth (r6.drop 1) 0).toInt) ((((V.nth (r6.drop 1) 0).toInt):Int)==2) CI (un fun (dX:Int)=>un fun (Ny:Int) (pe:List V)=>
    bif eZ then
     bif fm then
     na C a b' cV eZ fm (IntKind.wrap .i64 (b'-a)) dX ((Ny:Int)==1) pe (bV (un fun (GS:Bool) (Nk:List V)=>
      kr Nk) (fun (vU:List V)=>
      bif decide ((a:Int)>0) then
       bif (decide (0≤(IntKind.wrap .i64 (a-1))))&&(decide ((IntKind.wrap .i64 (a-1))<(vU.length:Int))) then
       (vU[(IntKind.wrap .i64 (a-1):Int).toNat]?).bind fun gj=>
       bif (decide (0≤dX))&&(decide (dX<(vU.length:Int))) then
        (vU[(dX:Int).toNat]?).bind fun fB=>
        (C bp [.int .i64 ((gj.cell 0).toInt),.int .i64 ((gj.cell 1).toInt),.list aa ((gj.cell 2).toList),.int .i64 ((fB.cell 0).toInt),.int .i64 ((fB.cell 1).toInt),.list aa ((fB.cell 2).toList)]).bind fun dY=>
        bif !(decide ((((V.nth dY 0).toInt):Int)<0)) then
        (C vj [.int .i64 a,.int .i64 b',.int .i64 dX,.list aa vU]).bind fun j9=>
        kn ((V.nth j9 0).toInt,b',cV,eZ,fm,(V.nth (j9.drop 1) 0).toList)
        else
        (C nT [.int .i64 a,.int .i64 b',.int .i64 dX,.list aa vU]).bind fun dU=>
        bif decide (((IntKind.wrap .i64 (((V.nth dU 0).toInt)-a)):Int)<(IntKind.wrap .i64 (b'-((V.nth dU 0).toInt)))) then
         (C gP [.int .i64 a,.int .i64 ((V.nth dU 0).toInt),.int .i64 cV,.list aa ((V.nth (dU.drop 2) 0).toList)]).bind fun iM=>
         kn (IntKind.wrap .i64 (((V.nth dU 0).toInt)+1),b',cV,decide (((IntKind.wrap .i64 (((V.nth dU 0).toInt)-a)):Int)≥(IntKind.wrap .i64 (Int.tdiv (IntKind.wrap .i64 (b'-a)) 8))),(V.nth (dU.drop 1) 0).toBool,(V.nth iM 0).toList)
        else
         (C gP [.int .i64 (IntKind.wrap .i64 (((V.nth dU 0).toInt)+1)),.int .i64 b',.int .i64 cV,.list aa ((V.nth (dU.drop 2) 0).toList)]).bind fun pj=>
         kn (a,(V.nth dU 0).toInt,cV,decide (((IntKind.wrap .i64 (b'-((V.nth dU 0).toInt))):Int)≥(IntKind.wrap .i64 (Int.tdiv (IntKind.wrap .i64 (b'-a)) 8))),(V.nth (dU.drop 1) 0).toBool,(V.nth pj 0).toList)
       else none
       else none
      else
       (C nT [.int .i64 a,.int .i64 b',.int .i64 dX,.list aa vU]).bind fun iK=>
       bif decide (((IntKind.wrap .i64 (((V.nth iK 0).toInt)-a)):Int)<(IntKind.wrap .i64 (b'-((V.nth iK 0).toInt)))) then
       (C gP [.int .i64 a,.int .i64 ((V.nth iK 0).toInt),.int .i64 cV,.list aa ((V.nth (iK.drop 2) 0).toList)]).bind fun r23=>
       kn (IntKind.wrap .i64 (((V.nth iK 0).toInt)+1),b',cV,decide (((IntKind.wrap .i64 (((V.nth iK 0).toInt)-a)):Int)≥(IntKind.wrap .i64 (Int.tdiv (IntKind.wrap .i64 (b'-a)) 8))),(V.nth (iK.drop 1) 0).toBool,(V.nth r23 0).toList)
       else
       (C gP [.int .i64 (IntKind.wrap .i64 (((V.nth iK 0).toInt)+1)),.int .i64 b',.int .i64 cV,.list aa ((V.nth (iK.drop 2) 0).toList)]).bind fun MQ=>
       kn (a,(V.nth iK 0).toInt,cV,decide (((IntKind.wrap .i64 (b'-((V.nth iK 0).toInt))):Int)≥(IntKind.wrap .i64 (Int.tdiv (IntKind.wrap .i64 (b'-a)) 8))),(V.nth (iK.drop 1) 0).toBool,(V.nth MQ 0).toList)))
     else
     na C a b' cV eZ fm (IntKind.wrap .i64 (b'-a)) dX false pe (bV (un fun (acE:Bool) (agZ:List V)=>
      kr agZ) (fun (rP:List V)=>
      bif decide ((a:Int)>0) then
       bif (decide (0≤(IntKind.wrap .i64 (a-1))))&&(decide ((IntKind.wrap .i64 (a-1))<(rP.length:Int))) then
       (rP[(IntKind.wrap .i64 (a-1):Int).toNat]?).bind fun vN=>
       bif (decide (0≤dX))&&(decide (dX<(rP.length:Int))) then
        (rP[(dX:Int).toNat]?).bind fun vO=>
        (C bp [.int .i64 ((vN.cell 0).toInt),.int .i64 ((vN.cell 1).toInt),.list aa ((vN.cell 2).toList),.int .i64 ((vO.cell 0).toInt),.int .i64 ((vO.cell 1).toInt),.list aa ((vO.cell 2).toList)]).bind fun qj=>
        bif !(decide ((((V.nth qj 0).toInt):Int)<0)) then
        (C vj [.int .i64 a,.int .i64 b',.int .i64 dX,.list aa rP]).bind fun Vq=>
        kn ((V.nth Vq 0).toInt,b',cV,eZ,fm,(V.nth (Vq.drop 1) 0).toList)
        else
        (C nT [.int .i64 a,.int .i64 b',.int .i64 dX,.list aa rP]).bind fun og=>
        bif decide (((IntKind.wrap .i64 (((V.nth og 0).toInt)-a)):Int)<(IntKind.wrap .i64 (b'-((V.nth og 0).toInt)))) then
         (C gP [.int .i64 a,.int .i64 ((V.nth og 0).toInt),.int .i64 cV,.list aa ((V.nth (og.drop 2) 0).toList)]).bind fun r33=>
         kn (IntKind.wrap .i64 (((V.nth og 0).toInt)+1),b',cV,decide (((IntKind.wrap .i64 (((V.nth og 0).toInt)-a)):Int)≥(IntKind.wrap .i64 (Int.tdiv (IntKind.wrap .i64 (b'-a)) 8))),(V.nth (og.drop 1) 0).toBool,(V.nth r33 0).toList)
        else
         (C gP [.int .i64 (IntKind.wrap .i64 (((V.nth og 0).toInt)+1)),.int .i64 b',.int .i64 cV,.list aa ((V.nth (og.drop 2) 0).toList)]).bind fun r34=>
         kn (a,(V.nth og 0).toInt,cV,decide (((IntKind.wrap .i64 (b'-((V.nth og 0).toInt))):Int)≥(IntKind.wrap .i64 (Int.tdiv (IntKind.wrap .i64 (b'-a)) 8))),(V.nth (og.drop 1) 0).toBool,(V.nth r34 0).toList)
       else none
       else none
      else
       (C nT [.int .i64 a,.int .i64 b',.int .i64 dX,.list aa rP]).bind fun oh=>
       bif decide (((IntKind.wrap .i64 (((V.nth oh 0).toInt)-a)):Int)<(IntKind.wrap .i64 (b'-((V.nth oh 0).toInt)))) then
       (C gP [.int .i64 a,.int .i64 ((V.nth oh 0).toInt),.int .i64 cV,.list aa ((V.nth (oh.drop 2) 0).toList)]).bind fun r36=>
       kn (IntKind.wrap .i64 (((V.nth oh 0).toInt)+1),b',cV,decide (((IntKind.wrap .i64 (((V.nth oh 0).toInt)-a)):Int)≥(IntKind.wrap .i64 (Int.tdiv (IntKind.wrap .i64 (b'-a)) 8))),(V.nth (oh.drop 1) 0).toBool,(V.nth r36 0).toList)
       else
       (C gP [.int .i64 (IntKind.wrap .i64 (((V.nth oh 0).toInt)+1)),.int .i64 b',.int .i64 cV,.list aa ((V.nth (oh.drop 2) 0).toList)]).bind fun r37=>
       kn (a,(V.nth oh 0).toInt,cV,decide (((IntKind.wrap .i64 (b'-((V.nth oh 0).toInt))):Int)≥(IntKind.wrap .i64 (Int.tdiv (IntKind.wrap .i64 (b'-a)) 8))),(V.nth (oh.drop 1) 0).toBool,(V.nth r37 0).toList)))
    else
     na C a b' cV eZ fm (IntKind.wrap .i64 (b'-a)) dX false pe (bV (un fun (Tf:Bool) (ag0:List V)=>
      kr ag0) (fun (j7:List V)=>
      bif decide ((a:Int)>0) then
      bif (decide (0≤(IntKind.wrap .i64 (a-1))))&&(decide ((IntKind.wrap .i64 (a-1))<(j7.length:Int))) then
       (j7[(IntKind.wrap .i64 (a-1):Int).toNat]?).bind fun m9=>
       bif (decide (0≤dX))&&(decide (dX<(j7.length:Int))) then
       (j7[(dX:Int).toNat]?).bind fun vQ=>
       (C bp [.int .i64 ((m9.cell 0).toInt),.int .i64 ((m9.cell 1).toInt),.list aa ((m9.cell 2).toList),.int .i64 ((vQ.cell 0).toInt),.int .i64 ((vQ.cell 1).toInt),.list aa ((vQ.cell 2).toList)]).bind fun r43=>
       bif !(decide ((((V.nth r43 0).toInt):Int)<0)) then
        (C vj [.int .i64 a,.int .i64 b',.int .i64 dX,.list aa j7]).bind fun Vr=>
        kn ((V.nth Vr 0).toInt,b',cV,eZ,fm,(V.nth (Vr.drop 1) 0).toList)
       else
        (C nT [.int .i64 a,.int .i64 b',.int .i64 dX,.list aa j7]).bind fun oj=>
        bif decide (((IntKind.wrap .i64 (((V.nth oj 0).toInt)-a)):Int)<(IntKind.wrap .i64 (b'-((V.nth oj 0).toInt)))) then
        (C gP [.int .i64 a,.int .i64 ((V.nth oj 0).toInt),.int .i64 cV,.list aa ((V.nth (oj.drop 2) 0).toList)]).bind fun r46=>
        kn (IntKind.wrap .i64 (((V.nth oj 0).toInt)+1),b',cV,decide (((IntKind.wrap .i64 (((V.nth oj 0).toInt)-a)):Int)≥(IntKind.wrap .i64 (Int.tdiv (IntKind.wrap .i64 (b'-a)) 8))),(V.nth (oj.drop 1) 0).toBool,(V.nth r46 0).toList)
        else
        (C gP [.int .i64 (IntKind.wrap .i64 (((V.nth oj 0).toInt)+1)),.int .i64 b',.int .i64 cV,.list aa ((V.nth (oj.drop 2) 0).toList)]).bind fun r47=>
        kn (a,(V.nth oj 0).toInt,cV,decide (((IntKind.wrap .i64 (b'-((V.nth oj 0).toInt))):Int)≥(IntKind.wrap .i64 (Int.tdiv (IntKind.wrap .i64 (b'-a)) 8))),(V.nth (oj.drop 1) 0).toBool,(V.nth r47 0).toList)
       else none
      else none
      else
      (C nT [.int .i64 a,.int .i64 b',.int .i64 dX,.list aa j7]).bind fun om=>
      bif decide (((IntKind.wrap .i64 (((V.nth om 0).toInt)-a)):Int)<(IntKind.wrap .i64 (b'-((V.nth om 0).toInt)))) then
       (C gP [.int .i64 a,.int .i64 ((V.nth om 0).toInt),.int .i64 cV,.list aa ((V.nth (om.drop 2) 0).toList)]).bind fun r49=>
       kn (IntKind.wrap .i64 (((V.nth om 0).toInt)+1),b',cV,decide (((IntKind.wrap .i64 (((V.nth om 0).toInt)-a)):Int)≥(IntKind.wrap .i64 (Int.tdiv (IntKind.wrap .i64 (b'-a)) 8))),(V.nth (om.drop 1) 0).toBool,(V.nth r49 0).toList)
      else
       (C gP [.int .i64 (IntKind.wrap .i64 (((V.nth om 0).toInt)+1)),.int .i64 b',.int .i64 cV,.list aa ((V.nth (om.drop 2) 0).toList)]).bind fun r50=>
       kn (a,(V.nth om 0).toInt,cV,decide (((IntKind.wrap .i64 (b'-((V.nth om 0).toInt))):Int)≥(IntKind.wrap .i64 (Int.tdiv (IntKind.wrap .i64 (b'-a)) 8))),(V.nth (om.drop 1) 0).toBool,(V.nth r50 0).toList)))))
noncomputable def Vs (C:ae):(Int × Int × Int × Bool × Bool × (List V))→Option ((Int × Int × Int × Bool × Bool × (List V)) ⊕ (List V)):=un fun a=>un fun b'=>un fun jH=>un fun eZ=>un fun fm ak=>ql C a b' jH eZ fm ak (fun y=>some (.inl y)) (fun r=>some (.inr r))
noncomputable def Vt (C:ae):ct:=fun β n ds k=>
 bif Nat.beq n 639 then iI L8 [[1,2,0,4,5,6,0]] (@y8 C) ds k else
 bif Nat.beq n 911 then iI L9 [[1,2,3,4,5,6,0,0,0]] (@y9 C) ds k else
 bif Nat.beq n 1215 then iI Ma [[1,2,3,4,5,6,7,0,0],[1,2,3,4,5,6,7,0]] (@na C) ds k else
 bif Nat.beq n 33 then bY Mb [true,true,true,true,true,true] [[0]] (@ql C) ds k else
 none
abbrev Hp (C:ae) (b:cq):Prop:=cr Tryz.prog ax C (Vt C) 94 (cH Tryz.prog (ax.aV 94)) (ax.sin 94).bj.length b
theorem ag1 (C:ae):Hp C (.cond 39 (aw [1,1,0,0,0,1,1,1,0,1,0] mn) (aw [1,1,0,0,0,1,1,1,0,1,1] mn)):=
 jl L8 [[1,2,0,4,5,6,0]] (@y8 C) (by kernel_rfl) (bf (bs:=[]) (by kernel_rfl) av) (bf (bs:=[]) (by kernel_rfl) av) (fun ds=>by kernel_rfl) (fun i β k=>by kernel_rfl) (fun β ds k=>by kernel_rfl)
theorem ag2 (C:ae):Hp C (.cond 56 (aw [1,1,0,0,0,1,1,1,1,1,0,1,0] mn) (aw [1,1,0,0,0,1,1,1,1,1,0,1,1] mn)):=
 jl L9 [[1,2,3,4,5,6,0,0,0]] (@y9 C) (by kernel_rfl) (bf (bs:=[]) (by kernel_rfl) av) (bf (bs:=[]) (by kernel_rfl) av) (fun ds=>by kernel_rfl) (fun i β k=>by kernel_rfl) (fun β ds k=>by kernel_rfl)
theorem ag3 (C:ae):Hp C (.cond 75 (aw [1,1,0,0,0,1,1,1,1,1,1,0,1,0] mn) (aw [1,1,0,0,0,1,1,1,1,1,1,0,1,1] mn)):=
 jl Ma [[1,2,3,4,5,6,7,0,0],[1,2,3,4,5,6,7,0]] (@na C) (by kernel_rfl) (bf (bs:=[]) (by kernel_rfl) av) (bf (bs:=[]) (by kernel_rfl) av) (fun ds=>by kernel_rfl) (fun i β k=>by kernel_rfl) (fun β ds k=>by kernel_rfl)
theorem ag4 (C:ae):Hp C (.loop (aw [1,1,0,0] mn)):=
 b7 Mb [true,true,true,true,true,true] [[0]] (@ql C) (by kernel_rfl) (bf (bs:=[.cond 39 (aw [1,1,0,0,0,1,1,1,0,1,0] mn) (aw [1,1,0,0,0,1,1,1,0,1,1] mn),.cond 56 (aw [1,1,0,0,0,1,1,1,1,1,0,1,0] mn) (aw [1,1,0,0,0,1,1,1,1,1,0,1,1] mn),.cond 75 (aw [1,1,0,0,0,1,1,1,1,1,1,0,1,0] mn) (aw [1,1,0,0,0,1,1,1,1,1,1,0,1,1] mn)]) (by kernel_rfl) (bx (ag1 C) (bx (ag2 C) (bx (ag3 C) av)))) (fun ds=>by kernel_rfl) (fun i x=>by kernel_rfl) (fun i x β k=>by kernel_rfl) (fun β ds k=>by kernel_rfl)
noncomputable def Vu (C:ae) (a b' jH:Int) (ak:List V):Option (List V):=
 (Loop (Vs C) (a,b',jH,true,true,ak)).bind (fun (ag5:List V)=>
  some [.list aa ag5])
theorem ag6 {a b' jH:Int} {ak:List V} {r:Option (List V)} (h:Vu CC a b' jH ak=r):CC gP [.int .i64 a,.int .i64 b',.int .i64 jH,.list aa ak]=r:=
 aY (key:=94) (L:=Vt CC) (bs:=[.loop (aw [1,1,0,0] mn)]) (by kernel_rfl) (bx (ag4 CC) av) (aW (by kernel_rfl) h)
noncomputable def Vv (C:ae) (xs:List V):Option (List V):=
 (C Bx [.int .u64 (IntKind.wrap .u64 (xs.length:Int))]).bind fun r1=>
 (C gP [.int .i64 0,.int .i64 (xs.length:Int),.int .i64 ((V.nth r1 0).toInt),.list aa xs]).bind fun r2=>
 some [.list aa ((V.nth r2 0).toList)]
theorem ag7 {xs:List V} {r:Option (List V)} (h:Vv CC xs=r):CC Bw [.list aa xs]=r:=
 aY (key:=90) (L:=cd) (bs:=[]) (by kernel_rfl) av (aW (by kernel_rfl) h)
end Go.AM
set_option maxRecDepth 100000
set_option maxHeartbeats 4000000
namespace Go.AM.SX
open Go.Proofs Go.Sort
theorem ag8 (a b:XE):cf a b<0↔a.lt b:=Iff.rfl
theorem Vw (a b:XE):(aA a b=true)=(a.lt b):=by rw[tq];rfl
theorem Hq (a b:XE):(aA a b=false)= ¬(a.lt b):=by rw[←Vw];simp
theorem za:SWO aA where
 irrefl x:=by rw[Hq];exact XE.lt_irrefl x
 trans x y z:=by simp only[Vw];exact XE.lt_trans
 ntrans x y z:=by simp only[Hq];exact XE.afQ
def Hr:List UInt8:=([0,1,2,2,3,3,3,3,4,4,4,4,4,4,4,4,5,5,5,5,5,5,5,5,5,5,5,5,5,5,5,5,6,6,6,6,6,6,6,6,6,6,6,6,6,6,6,6,6,6,6,6,6,6,6,6,6,6,6,6,6,6,6,6,7,7,7,7,7,7,7,7,7,7,7,7,7,7,7,7,7,7,7,7,7,7,7,7,7,7,7,7,7,7,7,7,7,7,7,7,7,7,7,7,7,7,7,7,7,7,7,7,7,7,7,7,7,7,7,7,7,7,7,7,7,7,7,7,8,8,8,8,8,8,8,8,8,8,8,8,8,8,8,8,8,8,8,8,8,8,8,8,8,8,8,8,8,8,8,8,8,8,8,8,8,8,8,8,8,8,8,8,8,8,8,8,8,8,8,8,8,8,8,8,8,8,8,8,8,8,8,8,8,8,8,8,8,8,8,8,8,8,8,8,8,8,8,8,8,8,8,8,8,8,8,8,8,8,8,8,8,8,8,8,8,8,8,8,8,8,8,8,8,8,8,8,8,8,8,8,8,8,8,8,8,8,8,8,8,8,8,8,8,8,8,8]:List UInt8)
theorem ag9:(List.range 256).all (fun y=>match Hr[y]? with|some b=>decide (b.toNat≤8)&&(Nat.beq y 0||(decide (1≤b.toNat)&&decide (2^(b.toNat-1)≤y)))|none=>false)=true:=by decide+kernel
theorem Vx {y:Nat} (h:y<256): ∃b,Hr[y]? =some b∧b.toNat≤8∧(0<y→1≤b.toNat∧2^(b.toNat-1)≤y):=by
 have:=fH.1 ag9 y (List.mem_range.2 h)
 cases hb:Hr[y]? with
 | none=>rw[hb] at this;cases this
 | some b=>
  rw[hb] at this
  simp only[aP,Bool.or_eq_true,eg] at this
  refine ⟨b,rfl,this.1,fun hy=> ?_⟩
  rcases this.2 with U|U
  ·have:=zJ U;omega
  ·exact U
theorem Nz {y t k:Nat} (h:2^(t-1)≤y/2^k) (ht:1≤t):2^(t+k-1)≤y:=by
 have e:t+k-1=(t-1)+k:=by omega
 rw[e,Nat.pow_add]
 exact lK (dL _ h) (Nat.div_mul_le_self _ _)
noncomputable def zb (y n:Int):Option (List V):=
(bif decide ((y:Int)≥256) then
    (bif decide (0≤(IntKind.wrap .u8 (Int.fdiv y (2^(min (8:Int).toNat (IntKind.bits .u64)))))) then (([0,1,2,2,3,3,3,3,4,4,4,4,4,4,4,4,5,5,5,5,5,5,5,5,5,5,5,5,5,5,5,5,6,6,6,6,6,6,6,6,6,6,6,6,6,6,6,6,6,6,6,6,6,6,6,6,6,6,6,6,6,6,6,6,7,7,7,7,7,7,7,7,7,7,7,7,7,7,7,7,7,7,7,7,7,7,7,7,7,7,7,7,7,7,7,7,7,7,7,7,7,7,7,7,7,7,7,7,7,7,7,7,7,7,7,7,7,7,7,7,7,7,7,7,7,7,7,7,8,8,8,8,8,8,8,8,8,8,8,8,8,8,8,8,8,8,8,8,8,8,8,8,8,8,8,8,8,8,8,8,8,8,8,8,8,8,8,8,8,8,8,8,8,8,8,8,8,8,8,8,8,8,8,8,8,8,8,8,8,8,8,8,8,8,8,8,8,8,8,8,8,8,8,8,8,8,8,8,8,8,8,8,8,8,8,8,8,8,8,8,8,8,8,8,8,8,8,8,8,8,8,8,8,8,8,8,8,8,8,8,8,8,8,8,8,8,8,8,8,8,8,8,8,8,8,8]:List UInt8)[(IntKind.wrap .u8 (Int.fdiv y (2^(min (8:Int).toNat (IntKind.bits .u64)))):Int).toNat]?).map fun b=>V.int .u8 b.toNat else none).bind fun x5=>
    some [V.int .i64 (IntKind.wrap .i64 ((IntKind.wrap .i64 (n+8))+(IntKind.wrap .i64 x5.toInt)))]
   else
    (bif decide (0≤(IntKind.wrap .u8 y)) then (([0,1,2,2,3,3,3,3,4,4,4,4,4,4,4,4,5,5,5,5,5,5,5,5,5,5,5,5,5,5,5,5,6,6,6,6,6,6,6,6,6,6,6,6,6,6,6,6,6,6,6,6,6,6,6,6,6,6,6,6,6,6,6,6,7,7,7,7,7,7,7,7,7,7,7,7,7,7,7,7,7,7,7,7,7,7,7,7,7,7,7,7,7,7,7,7,7,7,7,7,7,7,7,7,7,7,7,7,7,7,7,7,7,7,7,7,7,7,7,7,7,7,7,7,7,7,7,7,8,8,8,8,8,8,8,8,8,8,8,8,8,8,8,8,8,8,8,8,8,8,8,8,8,8,8,8,8,8,8,8,8,8,8,8,8,8,8,8,8,8,8,8,8,8,8,8,8,8,8,8,8,8,8,8,8,8,8,8,8,8,8,8,8,8,8,8,8,8,8,8,8,8,8,8,8,8,8,8,8,8,8,8,8,8,8,8,8,8,8,8,8,8,8,8,8,8,8,8,8,8,8,8,8,8,8,8,8,8,8,8,8,8,8,8,8,8,8,8,8,8,8,8,8,8,8,8]:List UInt8)[(IntKind.wrap .u8 y:Int).toNat]?).map fun b=>V.int .u8 b.toNat else none).bind fun x6=>
    some [V.int .i64 (IntKind.wrap .i64 (n+(IntKind.wrap .i64 x6.toInt)))])
theorem aha {x:Nat} (h:x<2^64): ∃L:Nat,CC Gp [.int .u64 (x:Int)]=some [.int .i64 (L:Int)]∧L≤64∧(0<x→1≤L∧2^(L-1)≤x):=by
 have last: ∀y n:Nat,y<65536→n≤48→∃t:Nat,
   zb (y:Int) (n:Int)=some [V.int .i64 ((n+t:Nat):Int)]∧t≤16∧(0<y→1≤t∧2^(t-1)≤y):=by
  intro y n hy hn
  unfold zb
  rw[show ([0,1,2,2,3,3,3,3,4,4,4,4,4,4,4,4,5,5,5,5,5,5,5,5,5,5,5,5,5,5,5,5,6,6,6,6,6,6,6,6,6,6,6,6,6,6,6,6,6,6,6,6,6,6,6,6,6,6,6,6,6,6,6,6,7,7,7,7,7,7,7,7,7,7,7,7,7,7,7,7,7,7,7,7,7,7,7,7,7,7,7,7,7,7,7,7,7,7,7,7,7,7,7,7,7,7,7,7,7,7,7,7,7,7,7,7,7,7,7,7,7,7,7,7,7,7,7,7,8,8,8,8,8,8,8,8,8,8,8,8,8,8,8,8,8,8,8,8,8,8,8,8,8,8,8,8,8,8,8,8,8,8,8,8,8,8,8,8,8,8,8,8,8,8,8,8,8,8,8,8,8,8,8,8,8,8,8,8,8,8,8,8,8,8,8,8,8,8,8,8,8,8,8,8,8,8,8,8,8,8,8,8,8,8,8,8,8,8,8,8,8,8,8,8,8,8,8,8,8,8,8,8,8,8,8,8,8,8,8,8,8,8,8,8,8,8,8,8,8,8,8,8,8,8,8,8]:List UInt8)=Hr from rfl]
  by_cases h1:y≥256
  ·have e:Int.fdiv (y:Int) (2^(min (8:Int).toNat (IntKind.bits .u64)))=((y/2^8:Nat):Int):=MH (m:=8) (by omega)
   obtain ⟨b,hb,b1,b2⟩:=Vx (y:=y/2^8) (by omega)
   refine ⟨b.toNat+8,?_,by omega,fun _=> ?_⟩
   ·rw[e,az,aj (by omega),FN (by omega) (by omega),az,aj (by omega),Int.toNat_natCast,hb]
    simp only[Option.map_some,Option.bind_some,V.toInt_int]
    simp (disch:=omega) only[wrap64]
    congr 3
    omega
   ·obtain ⟨b3,b4⟩:=b2 (by omega)
    exact ⟨by omega,Nz b4 b3⟩
  ·obtain ⟨b,hb,b1,b2⟩:=Vx (y:=y) (by omega)
   refine ⟨b.toNat,?_,by omega,b2⟩
   rw[az,ai (by omega),FN (by omega) (by omega),az,aj (by omega),Int.toNat_natCast,hb]
   simp (disch:=omega) only[Option.map_some,Option.bind_some,V.toInt_int,wrap64]
   congr 3
 have mid: ∀y n:Nat,y<4294967296→n≤32→∃t:Nat,∀F:Int→Int→Option (List V),
   (∀y n:Nat,y<65536→n≤48→∃t:Nat,F (y:Int) (n:Int)=some [V.int .i64 ((n+t:Nat):Int)]∧t≤16∧(0<y→1≤t∧2^(t-1)≤y))→
   ∃t:Nat,vT CC (y:Int) (n:Int) (decide (((y:Int):Int)≥65536)) (un F)=some [V.int .i64 ((n+t:Nat):Int)]∧t≤32∧(0<y→1≤t∧2^(t-1)≤y):=by
  intro y n hy hn
  refine ⟨0,fun F hF=> ?_⟩
  unfold vT
  by_cases h1:y≥65536
  ·have e:Int.fdiv (y:Int) (2^(min (16:Int).toNat (IntKind.bits .u64)))=((y/2^16:Nat):Int):=MH (m:=16) (by omega)
   rw[az,aj (by omega),e,wrap64 (by omega) (by omega)]
   obtain ⟨t,U,h3,h4⟩:=hF (y/2^16) (n+16) (by omega) (by omega)
   refine ⟨t+16,?_,by omega,fun _=> ?_⟩
   ·rw[show ((n:Int)+16)=((n+16:Nat):Int) by omega]
    simp only[un]
    rw[U]
    congr 3
    omega
   ·obtain ⟨b3,b4⟩:=h4 (by omega)
    exact ⟨by omega,Nz b4 b3⟩
  ·rw[az,ai (by omega)]
   obtain ⟨t,U,h3,h4⟩:=hF y n (by omega) (by omega)
   exact ⟨t,U,by omega,h4⟩
 by_cases h1:x≥4294967296
 ·have e:Int.fdiv (x:Int) (2^(min (32:Int).toNat (IntKind.bits .u64)))=((x/2^32:Nat):Int):=MH (m:=32) (by omega)
  obtain ⟨_,hm⟩:=mid (x/2^32) 32 (by omega) (by omega)
  obtain ⟨t,U,h3,h4⟩:=hm zb last
  refine ⟨32+t,Vp ?_,by omega,fun _=> ?_⟩
  ·show vS CC (x:Int) 0 (decide (((x:Int):Int)≥4294967296)) (un fun (iL:Int) (CG:Int)=>vT CC iL CG (decide ((iL:Int)≥65536)) (un zb))=_
   unfold vS
   rw[az,aj (by omega),e]
   exact U
  ·obtain ⟨b3,b4⟩:=h4 (by omega)
   rw[Nat.add_comm 32 t]
   exact ⟨by omega,Nz b4 b3⟩
 ·obtain ⟨_,hm⟩:=mid x 0 (by omega) (by omega)
  obtain ⟨t,U,h3,h4⟩:=hm zb last
  refine ⟨t,Vp ?_,by omega,h4⟩
  show vS CC (x:Int) 0 (decide (((x:Int):Int)≥4294967296)) (un fun (iL:Int) (CG:Int)=>vT CC iL CG (decide ((iL:Int)≥65536)) (un zb))=_
  unfold vS
  rw[az,ai (by omega)]
  rw[gY] at U
  exact U
theorem Vy {x:Nat} (h:x<2^64): ∃L:Nat,CC Bx [.int .u64 (x:Int)]=some [.int .i64 (L:Int)]∧L≤64∧(0<x→1≤L∧2^(L-1)≤x):=by
 obtain ⟨L,h1,U⟩:=aha h
 refine ⟨L,agV ?_,U⟩
 unfold Vl
 rw[h1]
 rfl
theorem ahb {x:Nat} (h0:0<x) (h:x<1152921504606846976): ∃M:Nat,CC Gq [.int .i64 (x:Int)]=some [.int .u64 (M:Int)]∧1≤M∧M≤2*x:=by
 obtain ⟨L,h1,U,h3⟩:=Vy (x:=x) (by omega)
 obtain ⟨h4,h5⟩:=h3 h0
 have e:2^L=2*2^(L-1):=by
  obtain ⟨k,rfl⟩: ∃k,L=k+1:=⟨L-1,by omega⟩
  rw[Nat.pow_succ];simp only[wv];omega
 have hL:L<64:=by
  by_cases hx:L<64
  ·exact hx
  ·have:2^63≤2^(L-1):=Nat.pow_le_pow_right (by omega) (by omega)
   omega
 refine ⟨2^L,agU ?_,Nat.pos_of_ne_zero (by simp),by omega⟩
 unfold Vk
 rw[BQ (A:=x) (by omega),h1]
 simp only[Option.bind_some,V.aM,V.toInt_int]
 rw[az,aj (by omega),Int.toNat_natCast,acs hL]
theorem ahc (r:Int): ∃R:Nat,CC Gr [.int .u64 r]=some [.int .u64 (R:Int),.int .u64 (R:Int)]∧R<2^64:=by
 have h: ∀n:Int,∃R:Nat,IntKind.wrap .u64 n=(R:Int)∧R<2^64:=fun n=>⟨(IntKind.wrap .u64 n).toNat,by rw[wrap_u64];omega,by rw[wrap_u64];omega⟩
 obtain ⟨R,h1,U⟩:=h _
 exact ⟨R,agT (by unfold Vj;rw[h1]),U⟩
theorem Hs {d:Array XE} {i:Nat} (h:i<d.size):idx (eA d) (i:Int)=some (d[i]!).enc:=by rw[KR,gh h]
theorem NA {d:Array XE} {a b:Nat} {s:Int} (ha:a<d.size) (hb:b<d.size): ∃(x y:Nat) (s':Int),CC yd [.list aa (eA d),.int .i64 (a:Int),.int .i64 (b:Int),.int .i64 s]=some [.int .i64 (x:Int),.int .i64 (y:Int),.int .i64 s']∧(x=a∧y=b∨x=b∧y=a):=by
 by_cases h:cf d[b]! d[a]! <0
 ·refine ⟨b,a,_,Ve (by unfold Nx;rw[Hs hb,Hs ha];simp only[Option.bind_some,XE.aU,XE.aZ,XE.aX,gW,V.aM,V.toInt_int];rw[az,aj h]),.inr ⟨rfl,rfl⟩⟩
 ·refine ⟨a,b,_,Ve (by unfold Nx;rw[Hs hb,Hs ha];simp only[Option.bind_some,XE.aU,XE.aZ,XE.aX,gW,V.aM,V.toInt_int];rw[az,ai h]),.inl ⟨rfl,rfl⟩⟩
theorem NB {d:Array XE} {a b c:Nat} {s:Int} (ha:a<d.size) (hb:b<d.size) (hc:c<d.size): ∃(m:Nat) (s':Int),CC BC [.list aa (eA d),.int .i64 (a:Int),.int .i64 (b:Int),.int .i64 (c:Int),.int .i64 s]=some [.int .i64 (m:Int),.int .i64 s']∧(m=a∨m=b∨m=c):=by
 obtain ⟨x1,y1,s1,e1,o1⟩:=NA (s:=s) ha hb
 obtain ⟨x2,y2,s2,e2,o2⟩:=NA (d:=d) (a:=y1) (b:=c) (s:=s1) (by omega) hc
 obtain ⟨x3,y3,s3,e3,o3⟩:=NA (d:=d) (a:=x1) (b:=x2) (s:=s2) (by omega) (by omega)
 refine ⟨y3,s3,agO ?_,by omega⟩
 unfold Vd
 rw[e1]
 simp only[Option.bind_some,V.aM,V.rA,V.toInt_int,la,jt]
 rw[e2]
 simp only[Option.bind_some,V.aM,V.rA,V.toInt_int,la,jt]
 rw[e3]
 rfl
theorem NC {d:Array XE} {a:Nat} {s:Int} (h1:1≤a) (ha:a+1<d.size) (hs:d.size<1152921504606846976): ∃(m:Nat) (s':Int),CC yc [.list aa (eA d),.int .i64 (a:Int),.int .i64 s]=some [.int .i64 (m:Int),.int .i64 s']∧a≤m+1∧m≤a+1:=by
 obtain ⟨m,s',e,o⟩:=NB (d:=d) (a:=a-1) (b:=a) (c:=a+1) (s:=s) (by omega) (by omega) (by omega)
 refine ⟨m,s',agP ?_,by omega,by omega⟩
 unfold Vf
 simp (disch:=omega) only[kV,dW,wrap64]
 rw[e]
 rfl
theorem ND (n:Nat):Int.tdiv (n:Int) 4=((n/4:Nat):Int):=by
 have:=divC n 4
 exact this
theorem mulC (k n:Nat):((k:Nat):Int)*(n:Int)=((k*n:Nat):Int):=(Int.natCast_mul k n).symm
theorem ahd {d:Array XE} {a b:Nat} (fu:a+12<b) (hb:b≤d.size) (hs:d.size<1152921504606846976): ∃(p:Nat) (h:Int),CC BA [.list aa (eA d),.int .i64 (a:Int),.int .i64 (b:Int)]=some [.int .i64 (p:Int),.int .i64 h]∧a≤p∧p<b:=by
 have fin: ∀(p:Nat) (s:Int),∃h:Int,(bif (s:Int)==0 then some [V.int .i64 (p:Int),V.int .i64 1] else bif (s:Int)==12 then some [V.int .i64 (p:Int),V.int .i64 2] else some [V.int .i64 (p:Int),V.int .i64 0])=some [V.int .i64 (p:Int),V.int .i64 h]:=by
  intro p s
  rw[dq]
  split
  ·exact ⟨1,rfl⟩
  ·rw[dq]
   split
   ·exact ⟨2,rfl⟩
   ·exact ⟨0,rfl⟩
 have e1:IntKind.wrap .i64 ((b:Int)-(a:Int))=((b-a:Nat):Int):=by rw[m7 (by omega),wrap64 (by omega) (by omega)]
 have e2:IntKind.wrap .i64 (Int.tdiv ((b-a:Nat):Int) 4)=(((b-a)/4:Nat):Int):=by rw[ND,wrap64 (by omega) (by omega)]
 have e3: ∀k:Nat,k≤3→IntKind.wrap .i64 ((a:Int)+IntKind.wrap .i64 ((k:Int)*(((b-a)/4:Nat):Int)))=((a+k*((b-a)/4):Nat):Int):=by
  intro k hk
  have mS:k*((b-a)/4)≤3*((b-a)/4):=dL _ hk
  simp (disch:=omega) only[mulC,wrap64,gi]
 have NF:=e3 1 (by omega)
 have tw:=e3 2 (by omega)
 have NG:=e3 3 (by omega)
 rw[show ((1:Nat):Int)=1 from rfl] at NF
 rw[show ((2:Nat):Int)=2 from rfl] at tw
 rw[show ((3:Nat):Int)=3 from rfl] at NG
 by_cases h50:b-a≥50
 ·obtain ⟨m1,s1,q1,r1⟩:=NC (d:=d) (a:=a+1*((b-a)/4)) (s:=0) (by omega) (by omega) hs
  obtain ⟨m2,s2,q2,r2⟩:=NC (d:=d) (a:=a+2*((b-a)/4)) (s:=s1) (by omega) (by omega) hs
  obtain ⟨m3,s3,q3,r3⟩:=NC (d:=d) (a:=a+3*((b-a)/4)) (s:=s2) (by omega) (by omega) hs
  obtain ⟨m,s,q,r⟩:=NB (d:=d) (a:=m1) (b:=m2) (c:=m3) (s:=s3) (by omega) (by omega) (by omega)
  obtain ⟨h,hf⟩:=fin m s
  refine ⟨m,h,Vc ?_,by omega,by omega⟩
  unfold Nu CD CB
  rw[e1,e2,NF,tw,NG,nY (by omega),cond_true,nY (by omega),cond_true,q1]
  simp only[Option.bind_some,V.aM,V.rA,V.toInt_int,la,jt]
  rw[q2]
  simp only[Option.bind_some,V.aM,V.rA,V.toInt_int,la,jt]
  rw[q3]
  simp only[Option.bind_some,V.aM,V.rA,V.toInt_int,la,jt,un]
  rw[q]
  exact hf
 ·obtain ⟨m,s,q,r⟩:=NB (d:=d) (a:=a+1*((b-a)/4)) (b:=a+2*((b-a)/4)) (c:=a+3*((b-a)/4)) (s:=0) (by omega) (by omega) (by omega)
  obtain ⟨h,hf⟩:=fin m s
  refine ⟨m,h,Vc ?_,by omega,by omega⟩
  unfold Nu CD CB
  rw[e1,e2,NF,tw,NG,nY (by omega),cond_true,tn (by omega),cond_false]
  simp only[un]
  rw[q]
  exact hf
theorem ahe {a b M:Nat} (hM1:1≤M) (hM:M≤2*(b-a)) (h8:8≤b-a) (hB:b<1152921504606846976): ∀(n i:Nat) (d:Array XE) (r:Int),a+2*((b-a)/4)+2-i=n→a≤i→b≤d.size→d.size<1152921504606846976→
  ∃x y z R,Loop (Ho CC a (b-a:Nat) M) ((i:Int),eA d,r)=some (x,y,eA R,z)∧PermIn a b d R:=by
 have e2:IntKind.wrap .i64 (Int.tdiv ((b-a:Nat):Int) 4)=(((b-a)/4:Nat):Int):=by rw[ND,wrap64 (by omega) (by omega)]
 have tw:IntKind.wrap .i64 ((a:Int)+IntKind.wrap .i64 (2*(((b-a)/4:Nat):Int)))=((a+2*((b-a)/4):Nat):Int):=by
  have:=mulC 2 ((b-a)/4)
  rw[show ((2:Nat):Int)=2 from rfl] at this
  rw[this]
  simp (disch:=omega) only[wrap64,gi]
 intro n
 induction n with
 | zero=>
  intro i d r hn hi hb hs
  refine ⟨(i:Int),false,r,d,aS ?_,permIn_refl _ _ _⟩
  simp only[Ho,CF,un]
  rw[e2,tw,dW,wrap64 (by omega) (by omega),tn (by omega),cond_false]
 | succ n ih=>
  intro i d r hn hi hb hs
  obtain ⟨R1,q1,q2⟩:=ahc r
  obtain ⟨o,ho,lW⟩: ∃o:Nat,(o=if R1&&&(M-1)≥b-a then (R1&&&(M-1))-(b-a) else R1&&&(M-1))∧o<b-a:=by
   refine ⟨_,rfl,?_⟩
   have:R1&&&(M-1)≤M-1:=Nat.and_le_right
   split<;>omega
  have hand:R1&&&(M-1)≤M-1:=Nat.and_le_right
  have hP:=swp_permIn (α:=XE) d a b i (a+o) hi (by omega) (by omega) (by omega) hb
  obtain ⟨x,y,z,R,e,hR⟩:=ih (i+1) (swp d i (a+o)) (R1:Int) (by omega) (by omega) (by rw[size_swp];exact hb) (by rw[size_swp];exact hs)
  refine ⟨x,y,z,R,(bJ ?_).trans e,permIn_trans _ _ _ a b hP hR⟩
  simp only[Ho,CF,un]
  rw[e2,tw,dW,wrap64 (x:=((a+2*((b-a)/4)+1:Nat):Int)) (by omega) (by omega),nY (by omega),cond_true,q1]
  simp only[Option.bind_some,V.aM,V.rA,V.toInt_int,la,jt]
  have e5:IntKind.wrap .u64 ((M:Int)-1)=((M-1:Nat):Int):=by rw[kV hM1,BQ (by omega)]
  rw[e5,u64_and q2 (by omega),wrap64 (x:=((R1&&&(M-1):Nat):Int)) (by omega) (by omega)]
  have fin: ∀k:Int,k=(o:Int)→(bif (decide (0≤(IntKind.wrap .i64 ((a:Int)+k))))&&(decide ((IntKind.wrap .i64 ((a:Int)+k))<((eA d).length:Int))) then
   ((eA d)[(IntKind.wrap .i64 ((a:Int)+k):Int).toNat]?).bind fun x4=>
   bif (decide (0≤(i:Int)))&&(decide ((i:Int)<((eA d).length:Int))) then
    ((eA d)[((i:Int):Int).toNat]?).bind fun x5=>
    bif (decide (0≤(i:Int)))&&(decide ((i:Int)<((eA d).length:Int))) then
    ((eA d)[((i:Int):Int).toNat]?).bind fun x6=>
    bif (decide (0≤(IntKind.wrap .i64 ((a:Int)+k))))&&(decide ((IntKind.wrap .i64 ((a:Int)+k))<(((eA d).set (((i:Int):Int).toNat) (.agg [.int .i64 ((x4.cell 0).toInt),.int .i64 ((x4.cell 1).toInt),.list aa ((x4.cell 2).toList)])).length:Int))) then
     (((eA d).set (((i:Int):Int).toNat) (.agg [.int .i64 ((x4.cell 0).toInt),.int .i64 ((x4.cell 1).toInt),.list aa ((x4.cell 2).toList)]))[(IntKind.wrap .i64 ((a:Int)+k):Int).toNat]?).bind fun x7=>
     some (.inl (IntKind.wrap .i64 ((i:Int)+1),((eA d).set (((i:Int):Int).toNat) (.agg [.int .i64 ((x4.cell 0).toInt),.int .i64 ((x4.cell 1).toInt),.list aa ((x4.cell 2).toList)])).set ((IntKind.wrap .i64 ((a:Int)+k):Int).toNat) (.agg [.int .i64 ((x5.cell 0).toInt),.int .i64 ((x5.cell 1).toInt),.list aa ((x5.cell 2).toList)]),(R1:Int)))
    else none
    else none
   else none
   else none:Option ((Int × List V × Int) ⊕ (Int × Bool × List V × Int)))=some (.inl (((i+1:Nat):Int),eA (swp d i (a+o)),(R1:Int))):=by
   intro k hk
   subst hk
   simp (disch:=omega) only[az,dc,ig,aj,ai,wrap64,dW,gi,Int.toNat_natCast,Option.bind_some,gf,gh,XE.aU,XE.aZ,XE.aX,XE.re,gg,iJ,gZ,gW,V.aM,V.toInt_int,cond_true,cond_false]
   rfl
  unfold Hn
  by_cases h:R1&&&(M-1)≥b-a
  ·rw[aj h] at ho
   rw[nY (by omega),cond_true]
   exact fin _ (by rw[m7 (by omega),wrap64 (by omega) (by omega)];omega)
  ·rw[ai h] at ho
   rw[tn (by omega),cond_false]
   exact fin _ (by omega)
theorem ahf {a b:Nat} {d:Array XE} (fu:a+12<b) (hb:b≤d.size) (hs:d.size<1152921504606846976): ∃R,CC Gl [.int .i64 (a:Int),.int .i64 (b:Int),.list aa (eA d)]=some [.list aa (eA R)]∧PermIn a b d R:=by
 obtain ⟨M,q1,q2,q3⟩:=ahb (x:=b-a) (by omega) (by omega)
 have e1:IntKind.wrap .i64 ((b:Int)-(a:Int))=((b-a:Nat):Int):=by rw[m7 (by omega),wrap64 (by omega) (by omega)]
 have e2:IntKind.wrap .i64 (Int.tdiv ((b-a:Nat):Int) 4)=(((b-a)/4:Nat):Int):=by rw[ND,wrap64 (by omega) (by omega)]
 have tw:IntKind.wrap .i64 ((a:Int)+IntKind.wrap .i64 (2*(((b-a)/4:Nat):Int)))=((a+2*((b-a)/4):Nat):Int):=by
  have:=mulC 2 ((b-a)/4)
  rw[show ((2:Nat):Int)=2 from rfl] at this
  rw[this]
  simp (disch:=omega) only[wrap64,gi]
 obtain ⟨x,y,z,R,e,hR⟩:=ahe (a:=a) (b:=b) (M:=M) q2 q3 (by omega) (by omega) _ (a+2*((b-a)/4)-1) d (IntKind.wrap .u64 ((b-a:Nat):Int)) rfl (by omega) hb hs
 refine ⟨R,agS ?_,hR⟩
 unfold Vi
 rw[e1,az,aj (by omega),q1]
 simp only[Option.bind_some,V.aM,V.toInt_int]
 rw[e2,tw,kV (by omega),wrap64 (x:=((a+2*((b-a)/4)-1:Nat):Int)) (by omega) (by omega),e]
 rfl
noncomputable def tx (C:ae) (a b':Int) (eZ fm:Bool) (cV dX:Int) (m8:List V) {β:Type} (kn:(Int × Int × Int × Bool × Bool × (List V))→Option β):Option β:=
      bif decide ((a:Int)>0) then
       bif (decide (0≤(IntKind.wrap .i64 (a-1))))&&(decide ((IntKind.wrap .i64 (a-1))<(m8.length:Int))) then
       (m8[(IntKind.wrap .i64 (a-1):Int).toNat]?).bind fun jq=>
       bif (decide (0≤dX))&&(decide (dX<(m8.length:Int))) then
        (m8[(dX:Int).toNat]?).bind fun oa=>
        (C bp [.int .i64 ((jq.cell 0).toInt),.int .i64 ((jq.cell 1).toInt),.list aa ((jq.cell 2).toList),.int .i64 ((oa.cell 0).toInt),.int .i64 ((oa.cell 1).toInt),.list aa ((oa.cell 2).toList)]).bind fun oc=>
        bif !(decide ((((V.nth oc 0).toInt):Int)<0)) then
        (C vj [.int .i64 a,.int .i64 b',.int .i64 dX,.list aa m8]).bind fun gk=>
        kn ((V.nth gk 0).toInt,b',cV,eZ,fm,(V.nth (gk.drop 1) 0).toList)
        else
        (C nT [.int .i64 a,.int .i64 b',.int .i64 dX,.list aa m8]).bind fun dY=>
        bif decide (((IntKind.wrap .i64 (((V.nth dY 0).toInt)-a)):Int)<(IntKind.wrap .i64 (b'-((V.nth dY 0).toInt)))) then
         (C gP [.int .i64 a,.int .i64 ((V.nth dY 0).toInt),.int .i64 cV,.list aa ((V.nth (dY.drop 2) 0).toList)]).bind fun j9=>
         kn (IntKind.wrap .i64 (((V.nth dY 0).toInt)+1),b',cV,decide (((IntKind.wrap .i64 (((V.nth dY 0).toInt)-a)):Int)≥(IntKind.wrap .i64 (Int.tdiv (IntKind.wrap .i64 (b'-a)) 8))),(V.nth (dY.drop 1) 0).toBool,(V.nth j9 0).toList)
        else
         (C gP [.int .i64 (IntKind.wrap .i64 (((V.nth dY 0).toInt)+1)),.int .i64 b',.int .i64 cV,.list aa ((V.nth (dY.drop 2) 0).toList)]).bind fun dU=>
         kn (a,(V.nth dY 0).toInt,cV,decide (((IntKind.wrap .i64 (b'-((V.nth dY 0).toInt))):Int)≥(IntKind.wrap .i64 (Int.tdiv (IntKind.wrap .i64 (b'-a)) 8))),(V.nth (dY.drop 1) 0).toBool,(V.nth dU 0).toList)
       else none
       else none
      else
       (C nT [.int .i64 a,.int .i64 b',.int .i64 dX,.list aa m8]).bind fun iM=>
       bif decide (((IntKind.wrap .i64 (((V.nth iM 0).toInt)-a)):Int)<(IntKind.wrap .i64 (b'-((V.nth iM 0).toInt)))) then
       (C gP [.int .i64 a,.int .i64 ((V.nth iM 0).toInt),.int .i64 cV,.list aa ((V.nth (iM.drop 2) 0).toList)]).bind fun pj=>
       kn (IntKind.wrap .i64 (((V.nth iM 0).toInt)+1),b',cV,decide (((IntKind.wrap .i64 (((V.nth iM 0).toInt)-a)):Int)≥(IntKind.wrap .i64 (Int.tdiv (IntKind.wrap .i64 (b'-a)) 8))),(V.nth (iM.drop 1) 0).toBool,(V.nth pj 0).toList)
       else
       (C gP [.int .i64 (IntKind.wrap .i64 (((V.nth iM 0).toInt)+1)),.int .i64 b',.int .i64 cV,.list aa ((V.nth (iM.drop 2) 0).toList)]).bind fun iK=>
       kn (a,(V.nth iM 0).toInt,cV,decide (((IntKind.wrap .i64 (b'-((V.nth iM 0).toInt))):Int)≥(IntKind.wrap .i64 (Int.tdiv (IntKind.wrap .i64 (b'-a)) 8))),(V.nth (iM.drop 1) 0).toBool,(V.nth iK 0).toList)
theorem Ht (C:ae) (a b' jH:Int) (eZ fm:Bool) (ak:List V) {β:Type} (kn:(Int × Int × Int × Bool × Bool × (List V))→Option β) (kr:(List V)→Option β):
  ql C a b' jH eZ fm ak kn kr=
 bif decide (((IntKind.wrap .i64 (b'-a)):Int)≤12) then
  (C By [.int .i64 a,.int .i64 b',.list aa ak]).bind fun r1=>
  kr ((V.nth r1 0).toList)
 else
  bif (jH:Int)==0 then
  (C Bz [.int .i64 a,.int .i64 b',.list aa ak]).bind fun r2=>
  kr ((V.nth r2 0).toList)
  else
  y8 C a b' jH eZ fm (IntKind.wrap .i64 (b'-a)) (!eZ) ak (un fun (cV:Int) (CI:List V)=>
   (C BA [.list aa CI,.int .i64 a,.int .i64 b']).bind fun r6=>
   y9 C a b' cV eZ fm (IntKind.wrap .i64 (b'-a)) ((V.nth r6 0).toInt) ((V.nth (r6.drop 1) 0).toInt) ((((V.nth (r6.drop 1) 0).toInt):Int)==2) CI (un fun (dX:Int)=>un fun (Ny:Int) (pe:List V)=>
    bif eZ then
     bif fm then
     na C a b' cV eZ fm (IntKind.wrap .i64 (b'-a)) dX ((Ny:Int)==1) pe (bV (un fun (ML:Bool) (NH:List V)=>
      kr NH) (fun (m8:List V)=>tx C a b' eZ fm cV dX m8 kn))
     else
     na C a b' cV eZ fm (IntKind.wrap .i64 (b'-a)) dX false pe (bV (un fun (Te:Bool) (ahg:List V)=>
      kr ahg) (fun (ahh:List V)=>tx C a b' eZ fm cV dX ahh kn))
    else
     na C a b' cV eZ fm (IntKind.wrap .i64 (b'-a)) dX false pe (bV (un fun (acL:Bool) (ahi:List V)=>
      kr ahi) (fun (ahj:List V)=>tx C a b' eZ fm cV dX ahj kn)))):=rfl
section
variable {a b:Nat} {lim:Int} {wb wp:Bool}
theorem ahk {d:Array XE} (fu:a+12<b) (hb:b≤d.size) (hs:d.size<1152921504606846976) (len:Int) (t:Bool): ∃(l1:Int) (d1:Array XE),PermIn a b d d1∧∀(β:Type) (kr:(Int × List V)→Option β),y8 CC a b lim wb wp len t (eA d) kr=kr (l1,eA d1):=by
 cases t with
 | true=>
  obtain ⟨R,e,hR⟩:=ahf fu hb hs
  refine ⟨IntKind.wrap .i64 (lim-1),R,hR,fun β kr=> ?_⟩
  unfold y8
  rw[cond_true,e]
  rfl
 | false=>exact ⟨lim,d,permIn_refl _ _ _,fun β kr=>rfl⟩
theorem ahl {d:Array XE} (fu:a+12<b) (hb:b≤d.size) (hs:d.size<1152921504606846976) (len h:Int) (t:Bool) {p:Nat} (h1:a≤p) (U:p<b): ∃(p2:Nat) (U:Int) (d1:Array XE),a≤p2∧p2<b∧PermIn a b d d1∧∀(β:Type) (kr:(Int × Int × List V)→Option β),y9 CC a b lim wb wp len p h t (eA d) kr=kr ((p2:Int),U,eA d1):=by
 cases t with
 | true=>
  refine ⟨b-1-(p-a),1,reverseRange d a b,by omega,by omega,reverseRange_holds d a b (by omega) hb,fun β kr=> ?_⟩
  unfold y9
  rw[cond_true,agb (by omega) hb hs]
  simp (disch:=omega) only[Option.bind_some,V.aM,V.kM,kV,m7,wrap64]
 | false=>exact ⟨p,h,d,h1,U,permIn_refl _ _ _,fun β kr=>rfl⟩
theorem ahm {d:Array XE} (fu:a+12<b) (hb:b≤d.size) (hs:d.size<1152921504606846976) (hB:Below aA a b d) (len p:Int) (t:Bool): ∃d1:Array XE,PermIn a b d d1∧
  ((∀(β:Type) (kr:((Bool × List V) ⊕ List V)→Option β),na CC a b lim wb wp len p t (eA d) kr=kr (.inr (eA d1)))∨
  (SortedIn aA a b d1∧∀(β:Type) (kr:((Bool × List V) ⊕ List V)→Option β),na CC a b lim wb wp len p t (eA d) kr=kr (.inl (true,eA d1)))):=by
 cases t with
 | true=>
  have hp:=partialInsertionSort_holds (lt:=aA) za d a b (by omega) hb hB
  refine ⟨_,hp.1,?_⟩
  cases h:(partialInsertionSort aA d a b).2 with
  | true=>
   refine .inr ⟨hp.2 h,fun β kr=> ?_⟩
   unfold na
   rw[cond_true,U8 (by omega) hb hs,h]
   rfl
  | false=>
   refine .inl fun β kr=> ?_
   unfold na
   rw[cond_true,U8 (by omega) hb hs,h]
   rfl
 | false=>exact ⟨d,permIn_refl _ _ _,.inl fun β kr=>rfl⟩
end
def Hu (a b:Nat) (d:Array XE):Prop:= ∀(lim:Int) (wb wp:Bool),∃R,Loop (Vs CC) ((a:Int),(b:Int),lim,wb,wp,eA d)=some (eA R)∧PermIn a b d R∧SortedIn aA a b R
theorem Hu.call {a b:Nat} {d:Array XE} (h:Hu a b d) (lim:Int): ∃R,CC gP [.int .i64 (a:Int),.int .i64 (b:Int),.int .i64 lim,.list aa (eA d)]=some [.list aa (eA R)]∧PermIn a b d R∧SortedIn aA a b R:=by
 obtain ⟨R,e,h1,U⟩:=h lim true true
 refine ⟨R,ag6 ?_,h1,U⟩
 unfold Vu
 rw[e]
 rfl
theorem ahn {a b p:Nat} {d:Array XE} (fu:a+12<b) (hb:b≤d.size) (hs:d.size<1152921504606846976) (hB:Below aA a b d) (h1:a≤p) (U:p<b)
  (ih: ∀(a2 b2:Nat) (d2:Array XE),b2-a2<b-a→a2≤b2→b2≤d2.size→d2.size<1152921504606846976→Below aA a2 b2 d2→Hu a2 b2 d2) (wb wp:Bool) (lim:Int):
  ∃(a2 b2:Nat) (vV vW:Bool) (d2:Array XE),b2-a2<b-a∧a2≤b2∧b2≤d2.size∧d2.size<1152921504606846976∧Below aA a2 b2 d2∧
   (∀R,PermIn a2 b2 d2 R→SortedIn aA a2 b2 R→PermIn a b d R∧SortedIn aA a b R)∧
   ∀(β:Type) (kn:(Int × Int × Int × Bool × Bool × (List V))→Option β),tx CC a b wb wp lim p (eA d) kn=kn ((a2:Int),(b2:Int),lim,vV,vW,eA d2):=by
 have part: ∃(a2 b2:Nat) (vV vW:Bool) (d2:Array XE),b2-a2<b-a∧a2≤b2∧b2≤d2.size∧d2.size<1152921504606846976∧Below aA a2 b2 d2∧
   (∀R,PermIn a2 b2 d2 R→SortedIn aA a2 b2 R→PermIn a b d R∧SortedIn aA a b R)∧
   ∀(β:Type) (kn:(Int × Int × Int × Bool × Bool × (List V))→Option β),
    ((CC nT [.int .i64 (a:Int),.int .i64 (b:Int),.int .i64 (p:Int),.list aa (eA d)]).bind fun dY=>
        bif decide (((IntKind.wrap .i64 (((V.nth dY 0).toInt)-(a:Int))):Int)<(IntKind.wrap .i64 ((b:Int)-((V.nth dY 0).toInt)))) then
         (CC gP [.int .i64 (a:Int),.int .i64 ((V.nth dY 0).toInt),.int .i64 lim,.list aa ((V.nth (dY.drop 2) 0).toList)]).bind fun j9=>
         kn (IntKind.wrap .i64 (((V.nth dY 0).toInt)+1),(b:Int),lim,decide (((IntKind.wrap .i64 (((V.nth dY 0).toInt)-(a:Int))):Int)≥(IntKind.wrap .i64 (Int.tdiv (IntKind.wrap .i64 ((b:Int)-(a:Int))) 8))),(V.nth (dY.drop 1) 0).toBool,(V.nth j9 0).toList)
        else
         (CC gP [.int .i64 (IntKind.wrap .i64 (((V.nth dY 0).toInt)+1)),.int .i64 (b:Int),.int .i64 lim,.list aa ((V.nth (dY.drop 2) 0).toList)]).bind fun dU=>
         kn ((a:Int),(V.nth dY 0).toInt,lim,decide (((IntKind.wrap .i64 ((b:Int)-((V.nth dY 0).toInt))):Int)≥(IntKind.wrap .i64 (Int.tdiv (IntKind.wrap .i64 ((b:Int)-(a:Int))) 8))),(V.nth (dY.drop 1) 0).toBool,(V.nth dU 0).toList))=kn ((a2:Int),(b2:Int),lim,vV,vW,eA d2):=by
  obtain ⟨mid,ap,d4,hx⟩: ∃mid ap d4,partition aA d a b p=(mid,ap,d4):=⟨_,_,_,rfl⟩
  obtain ⟨g1,g2,pk,hBa,hBr,aho,ahp⟩:=round_part za (partition_holds aA) h1 U hb hB hx
  have hc:=agD (a:=a) (b:=b) (pivot:=p) (d:=d) U (by omega) hb hs
  rw[hx] at hc
  by_cases hl:mid-a<b-mid
  ·obtain ⟨L,e,l1,l2⟩:=(ih a mid d4 (by omega) g1 (by rw[pk];omega) (by rw[pk];exact hs) hBa).call lim
   obtain ⟨NI,qm⟩:=aho _ l1 l2
   refine ⟨mid+1,b,decide (((IntKind.wrap .i64 ((mid:Int)-(a:Int))):Int)≥(IntKind.wrap .i64 (Int.tdiv (IntKind.wrap .i64 ((b:Int)-(a:Int))) 8))),ap,L,by omega,by omega,by rw[l1.1,pk];exact hb,by rw[l1.1,pk];exact hs,NI,qm,fun β kn=> ?_⟩
   ·rw[hc]
    simp only[Option.bind_some,V.aM,V.rA,V.toInt_int,V.dj,V.kM,la,jt]
    rw[az,aj (by rw[m7 g1,m7 (by omega),wrap64 (by omega) (by omega),wrap64 (by omega) (by omega)];omega),e]
    simp only[Option.bind_some,V.aM,V.kM]
    rw[dW,wrap64 (x:=((mid+1:Nat):Int)) (by omega) (by omega)]
  ·obtain ⟨L,e,l1,l2⟩:=(ih (mid+1) b d4 (by omega) (by omega) (by rw[pk];exact hb) (by rw[pk];exact hs) hBr).call lim
   obtain ⟨NI,qm⟩:=ahp _ l1 l2
   refine ⟨a,mid,decide (((IntKind.wrap .i64 ((b:Int)-(mid:Int))):Int)≥(IntKind.wrap .i64 (Int.tdiv (IntKind.wrap .i64 ((b:Int)-(a:Int))) 8))),ap,L,by omega,by omega,by rw[l1.1,pk];omega,by rw[l1.1,pk];exact hs,NI,qm,fun β kn=> ?_⟩
   ·rw[hc]
    simp only[Option.bind_some,V.aM,V.rA,V.toInt_int,V.dj,V.kM,la,jt]
    rw[az,ai (by rw[m7 g1,m7 (by omega),wrap64 (by omega) (by omega),wrap64 (by omega) (by omega)];omega),dW,wrap64 (x:=((mid+1:Nat):Int)) (by omega) (by omega),e]
    simp only[Option.bind_some,V.aM,V.kM]
 by_cases ha:0<a
 ·by_cases hc:cf d[a-1]! d[p]! <0
  ·obtain ⟨a2,b2,vV,vW,d2,q1,q2,q3,q4,q5,q6,q7⟩:=part
   refine ⟨a2,b2,vV,vW,d2,q1,q2,q3,q4,q5,q6,fun β kn=> ?_⟩
   rw[←q7 β kn]
   unfold tx
   rw[az,aj (by omega),kV ha,wrap64 (by omega) (by omega),kW (i:=a-1) (by omega),kX (by omega),kW (i:=p) (by omega),kX (by omega)]
   simp only[XE.aU,XE.aZ,XE.aX,gW,Option.bind_some,V.aM,V.toInt_int]
   rw[ig,az,aj hc]
  ·obtain ⟨mid,d4,hx⟩: ∃mid d4,partitionEqual aA d a b p=(mid,d4):=⟨_,_,rfl⟩
   obtain ⟨g1,Jg,pk,hB4,qm⟩:=round_eq za (partitionEqual_holds aA) ha h1 U hb hB (by rw[Hq,←propext (ag8 _ _)];exact hc) hx
   have he:=agF (a:=a) (b:=b) (pivot:=p) (d:=d) U (by omega) hb hs
   rw[hx] at he
   refine ⟨mid,b,wb,wp,d4,by omega,Jg,by rw[pk];exact hb,by rw[pk];exact hs,hB4,qm,fun β kn=> ?_⟩
   unfold tx
   rw[az,aj (by omega),kV ha,wrap64 (by omega) (by omega),kW (i:=a-1) (by omega),kX (by omega),kW (i:=p) (by omega),kX (by omega)]
   simp only[XE.aU,XE.aZ,XE.aX,gW,Option.bind_some,V.aM,V.toInt_int]
   rw[ig,az,ai hc,he]
   rfl
 ·obtain ⟨a2,b2,vV,vW,d2,q1,q2,q3,q4,q5,q6,q7⟩:=part
  refine ⟨a2,b2,vV,vW,d2,q1,q2,q3,q4,q5,q6,fun β kn=> ?_⟩
  rw[←q7 β kn]
  unfold tx
  rw[az,ai (by omega)]
theorem ahq: ∀(n a b:Nat) (d:Array XE),b-a≤n→a≤b→b≤d.size→d.size<1152921504606846976→Below aA a b d→Hu a b d:=by
 intro n
 induction n with
 | zero=>
  intro a b d hn fu hb hs hB lim wb wp
  have hi:=insertionSort_holds (lt:=aA) za d a b fu hb
  refine ⟨_,aS ?_,hi⟩
  show ql CC a b lim wb wp (eA d) (fun y=>some (Sum.inl y)) (fun r=>some (Sum.inr r))=_
  rw[Ht,az,aj (by rw[m7 fu,wrap64 (by omega) (by omega)];omega),UQ hb hs (by omega)]
  rfl
 | succ n ih=>
  intro a b d hn fu hb hs hB lim wb wp
  by_cases h12:b-a≤12
  ·have hi:=insertionSort_holds (lt:=aA) za d a b fu hb
   refine ⟨_,aS ?_,hi⟩
   show ql CC a b lim wb wp (eA d) (fun y=>some (Sum.inl y)) (fun r=>some (Sum.inr r))=_
   rw[Ht,az,aj (by rw[m7 fu,wrap64 (by omega) (by omega)];omega),UQ hb hs (by omega)]
   rfl
  ·have CJ:a+12<b:=by omega
   have sX: ¬(((IntKind.wrap .i64 ((b:Int)-(a:Int))):Int)≤12):=by rw[m7 fu,wrap64 (by omega) (by omega)];omega
   by_cases h0:lim=0
   ·have hi:=heapSort_holds (lt:=aA) za d a b fu hb
    refine ⟨_,aS ?_,hi⟩
    show ql CC a b lim wb wp (eA d) (fun y=>some (Sum.inl y)) (fun r=>some (Sum.inr r))=_
    rw[Ht,az,ai sX,dq,aj h0,af9 (by omega) hb hs]
    rfl
   ·obtain ⟨l1,d1,s1,k1⟩:=ahk (lim:=lim) (wb:=wb) (wp:=wp) CJ hb hs (IntKind.wrap .i64 ((b:Int)-(a:Int))) (!wb)
    have b1:b≤d1.size:=by rw[s1.1];exact hb
    have z1:d1.size<1152921504606846976:=by rw[s1.1];exact hs
    obtain ⟨p,h,c1,p1,p2⟩:=ahd CJ b1 z1
    obtain ⟨q,U,d2,q1,q2,s2,k2⟩:=ahl (lim:=l1) (wb:=wb) (wp:=wp) CJ b1 z1 (IntKind.wrap .i64 ((b:Int)-(a:Int))) h (h==2) p1 p2
    have b2:b≤d2.size:=by rw[s2.1];exact b1
    have z2:d2.size<1152921504606846976:=by rw[s2.1];exact z1
    have B2:Below aA a b d2:=(hB.perm hb s1).perm b1 s2
    obtain ⟨t,ht⟩: ∃t:Bool,t=(bif wb then (bif wp then (U==1) else false) else false):=⟨_,rfl⟩
    obtain ⟨d3,s3,k3⟩:=ahm (lim:=l1) (wb:=wb) (wp:=wp) CJ b2 z2 B2 (IntKind.wrap .i64 ((b:Int)-(a:Int))) (q:Int) t
    have b3:b≤d3.size:=by rw[s3.1];exact b2
    have z3:d3.size<1152921504606846976:=by rw[s3.1];exact z2
    have B3:Below aA a b d3:=B2.perm b2 s3
    have P3:PermIn a b d d3:=permIn_trans _ _ _ a b (permIn_trans _ _ _ a b s1 s2) s3
    have step: ∀(β:Type) (kn:(Int × Int × Int × Bool × Bool × (List V))→Option β) (kr:(List V)→Option β),ql CC a b lim wb wp (eA d) kn kr=
      na CC a b l1 wb wp (IntKind.wrap .i64 ((b:Int)-(a:Int))) (q:Int) t (eA d2) (bV (un fun (ML:Bool) (NH:List V)=>kr NH) (fun (m8:List V)=>tx CC a b wb wp l1 q m8 kn)):=by
     intro β kn kr
     rw[Ht,az,ai sX,dq,ai h0,k1]
     simp only[un]
     rw[c1]
     simp only[Option.bind_some,V.aM,V.rA,V.toInt_int,la,jt]
     rw[k2]
     simp only[un]
     rw[ht]
     cases wb
     ·rfl
     ·cases wp
      ·rfl
      ·rfl
    rcases k3 with k3|⟨k3s,k3⟩
    ·obtain ⟨a4,b4,wb4,wp4,d4,r1,r2,r3,r4,r5,r6,r7⟩:=ahn CJ b3 z3 B3 q1 q2 (fun a2 b2 d2 aO h1 U h3 h4=>ih a2 b2 d2 (by omega) h1 U h3 h4) wb wp l1
     obtain ⟨R,e,e1,e2⟩:=ih a4 b4 d4 (by omega) r2 r3 r4 r5 l1 wb4 wp4
     obtain ⟨f1,f2⟩:=r6 R e1 e2
     refine ⟨R,(bJ ?_).trans e,permIn_trans _ _ _ a b P3 f1,f2⟩
     show ql CC a b lim wb wp (eA d) (fun y=>some (Sum.inl y)) (fun r=>some (Sum.inr r))=_
     rw[step,k3]
     exact r7 _ (fun y=>some (Sum.inl y))
    ·refine ⟨d3,aS ?_,P3,k3s⟩
     show ql CC a b lim wb wp (eA d) (fun y=>some (Sum.inl y)) (fun r=>some (Sum.inr r))=_
     rw[step,k3]
     rfl
theorem ahr (l:List XE) (hs:l.length<1152921504606846976): ∃R:List XE,CC Bw [.list aa (l.map XE.enc)]=some [.list aa (R.map XE.enc)]∧R.Perm l∧R.Pairwise (fun x y=> ¬y.lt x):=by
 obtain ⟨L,e1,_⟩:=Vy (x:=l.length) (by omega)
 obtain ⟨R,e2,h1,U⟩:=(ahq _ 0 l.toArray.size l.toArray (cg _) (k0 _) (cg _) (by simpa using hs) (.inl rfl)).call (L:Int)
 have bh:R.size=l.length:=by rw[h1.1];simp
 refine ⟨R.toList,ag7 ?_,?_,?_⟩
 ·unfold Vv
  rw[aJ,BQ (A:=l.length) (by omega),e1]
  simp only[Option.bind_some,V.aM,V.toInt_int]
  have e3:eA l.toArray=l.map XE.enc:=by simp[qg]
  rw[e3,show ((l.toArray.size:Nat):Int)=(l.length:Int) by simp,show ((0:Nat):Int)=0 from rfl] at e2
  rw[e2]
  rfl
 ·have h3:=h1.2.2
  rw[show l.toArray.size=R.size from h1.1.symm,Array.extract_size,h1.1,Array.extract_size] at h3
  exact h3
 ·rw[DR]
  intro i j hi hj uM
  have h3:=U i j (k0 _) uM (by simpa[←bh] using hj)
  rw[Hq] at h3
  have ej:i<R.size:=by simpa using hi
  have gM:j<R.size:=by simpa using hj
  rw[getElem!_pos R i ej,getElem!_pos R j gM] at h3
  simpa using h3
end Go.AM.SX
set_option maxRecDepth 100000
namespace Go.AM
open Go.Proofs
noncomputable abbrev Hv:Code:=cE Tryz.prog (ax.aV 91)
noncomputable def zc (C:ae) (CK vX:Nat) (k' kY:Int) (ss:List V) {β:Type} (kn:(Int × Int × (List V))→Option β) (kr:(Int × Int × Bool × (List V))→Option β):Option β:=
 bif decide ((kY:Int)<(vX:Int)) then
  bif (decide (0≤kY))&&(decide (kY<(vX:Int))) then
  (ss[CK+((kY:Int).toNat)]?).bind fun x4=>
  bif (decide (0≤(IntKind.wrap .i64 (kY-1))))&&(decide ((IntKind.wrap .i64 (kY-1))<(vX:Int))) then
   (ss[CK+((IntKind.wrap .i64 (kY-1):Int).toNat)]?).bind fun x5=>
   (C qd [.int .i64 ((x4.cell 0).toInt),.int .i64 ((x4.cell 1).toInt),.list aa ((x4.cell 2).toList),.int .i64 ((x5.cell 0).toInt),.int .i64 ((x5.cell 1).toInt),.list aa ((x5.cell 2).toList)]).bind fun r6=>
   bif !((V.nth r6 0).toBool) then
   bif (decide (0≤kY))&&(decide (kY<(vX:Int))) then
    (ss[CK+((kY:Int).toNat)]?).bind fun x7=>
    bif (decide (0≤k'))&&(decide (k'<(ss.length:Int))) then
    (ss[(k':Int).toNat]?).bind fun x8=>
    kn (IntKind.wrap .i64 (k'+1),IntKind.wrap .i64 (kY+1),ss.set ((k':Int).toNat) (.agg [.int .i64 ((x7.cell 0).toInt),.int .i64 ((x7.cell 1).toInt),.list aa ((x7.cell 2).toList)]))
    else none
   else none
   else
   kn (k',IntKind.wrap .i64 (kY+1),ss)
  else none
  else none
 else
  kr (k',kY,decide ((kY:Int)<(vX:Int)),ss)
noncomputable def vY (C:ae) (CK vX:Nat):(Int × Int × (List V))→Option ((Int × Int × (List V)) ⊕ (Int × Int × Bool × (List V))):=un fun k'=>un fun kY ss=>zc C CK vX k' kY ss (fun y=>some (.inl y)) (fun r=>some (.inr r))
noncomputable def zd (C:ae) (ss:List V) (k':Int) {β:Type} (kn:Int→Option β) (kr:((List V) ⊕ (Int × Bool))→Option β):Option β:=
 bif decide ((k':Int)<(ss.length:Int)) then
  bif (decide (0≤k'))&&(decide (k'<(ss.length:Int))) then
  (ss[(k':Int).toNat]?).bind fun x1=>
  bif (decide (0≤(IntKind.wrap .i64 (k'-1))))&&(decide ((IntKind.wrap .i64 (k'-1))<(ss.length:Int))) then
   (ss[(IntKind.wrap .i64 (k'-1):Int).toNat]?).bind fun x2=>
   (C qd [.int .i64 ((x1.cell 0).toInt),.int .i64 ((x1.cell 1).toInt),.list aa ((x1.cell 2).toList),.int .i64 ((x2.cell 0).toInt),.int .i64 ((x2.cell 1).toInt),.list aa ((x2.cell 2).toList)]).bind fun r3=>
   bif (V.nth r3 0).toBool then
   bif (decide (0≤k'))&&(decide (k'≤(ss.length:Int))) then
    (Loop (vY C ((k':Int).toNat) (ss.length-((k':Int).toNat))) (k',1,ss)).bind (un fun (nc:Int)=>un fun (amO:Int)=>un fun (GR:Bool) (rT:List V)=>
     bif (decide (0≤nc))&&(decide (nc≤(rT.length:Int))) then
     bif (decide (0≤nc))&&(decide (nc≤((rT.take ((nc:Int).toNat)++(List.replicate (rT.length-((nc:Int).toNat)) (V.agg [.int .i64 0,.int .i64 0,.list aa ([]:List V)])++rT.drop (((nc:Int).toNat)+(rT.length-((nc:Int).toNat))))).length:Int))) then
      kr (.inl ((rT.take ((nc:Int).toNat)++(List.replicate (rT.length-((nc:Int).toNat)) (V.agg [.int .i64 0,.int .i64 0,.list aa ([]:List V)])++rT.drop (((nc:Int).toNat)+(rT.length-((nc:Int).toNat))))).take ((nc:Int).toNat)))
     else none
     else none)
   else none
   else
   kn (IntKind.wrap .i64 (k'+1))
  else none
  else none
 else
  kr (.inr (k',decide ((k':Int)<(ss.length:Int))))
noncomputable def vZ (C:ae) (ss:List V):(Int)→Option ((Int) ⊕ ((List V) ⊕ (Int × Bool))):=fun k'=>zd C ss k' (fun y=>some (.inl y)) (fun r=>some (.inr r))
noncomputable def Vz (C:ae):ct:=fun β n ds k=>
 bif Nat.beq n 145 then bY L6 [true,false,false,true,true] [[0,2,3,0,0,0]] (@zc C) ds k else
 bif Nat.beq n 65 then bY L7 [true,false] [[0],[0,0,2]] (@zd C) ds k else
 none
abbrev VA (C:ae) (b:cq):Prop:=cr Tryz.prog ax C (Vz C) 91 (cH Tryz.prog (ax.aV 91)) (ax.sin 91).bj.length b
theorem ahs (C:ae):VA C (.loop (aw [1,1,0,1,0,0,1,0,0,1,0,1,0,1,0,0] Hv)):=
 b7 L6 [true,false,false,true,true] [[0,2,3,0,0,0]] (@zc C) (by kernel_rfl) (bf (bs:=[]) (by kernel_rfl) av) (fun ds=>by kernel_rfl) (fun i x=>by kernel_rfl) (fun i x β k=>by kernel_rfl) (fun β ds k=>by kernel_rfl)
theorem aht (C:ae):VA C (.loop (aw [1,1,0,1,0,0] Hv)):=
 b7 L7 [true,false] [[0],[0,0,2]] (@zd C) (by kernel_rfl) (bf (bs:=[.loop (aw [1,1,0,1,0,0,1,0,0,1,0,1,0,1,0,0] Hv)]) (by kernel_rfl) (bx (ahs C) av)) (fun ds=>by kernel_rfl) (fun i x=>by kernel_rfl) (fun i x β k=>by kernel_rfl) (fun β ds k=>by kernel_rfl)
noncomputable def Hw (C:ae) (ss:List V):Option (List V):=
 bif decide (((ss.length:Int):Int)<2) then
  some [V.bool true,.list aa ss]
 else
  (Loop (vZ C ss) 1).bind (bV (fun (ahu:List V)=>
   some [V.bool false,.list aa ahu]) (un fun (amP:Int) (rK:Bool)=>
   some [V.bool true,.list aa ss]))
theorem NJ {ss:List V} {r:Option (List V)} (h:Hw CC ss=r):CC Gk [.list aa ss]=r:=
 aY (key:=91) (L:=Vz CC) (bs:=[.loop (aw [1,1,0,1,0,0] Hv)]) (by kernel_rfl) (bx (aht CC) av) (aW (by kernel_rfl) h)
noncomputable def VB (C:ae) (gV:List V):Option (List V):=
 (C Bw [.list aa gV]).bind fun r1=>
 (C Gk [.list aa ((V.nth r1 0).toList)]).bind fun r2=>
 bif (V.nth r2 0).toBool then
  some [V.bool true,.list aa ((V.nth (r2.drop 1) 0).toList)]
 else
  some [V.bool false,.list aa ((V.nth (r2.drop 1) 0).toList)]
theorem ahv {gV:List V} {r:Option (List V)} (h:VB CC gV=r):CC vi [.list aa gV]=r:=
 aY (key:=83) (L:=cd) (bs:=[]) (by kernel_rfl) av (aW (by kernel_rfl) h)
noncomputable def VC (C:ae) (eT eJ:Int) (eU:List V) (eV eW:Int) (fb:List V):Option (List V):=
 (C bp [.int .i64 eT,.int .i64 eJ,.list aa eU,.int .i64 eV,.int .i64 eW,.list aa fb]).bind fun r1=>
 some [.bool ((((V.nth r1 0).toInt):Int)==0)]
theorem ahw {eT eJ:Int} {eU:List V} {eV eW:Int} {fb:List V} {r:Option (List V)} (h:VC CC eT eJ eU eV eW fb=r):CC qd [.int .i64 eT,.int .i64 eJ,.list aa eU,.int .i64 eV,.int .i64 eW,.list aa fb]=r:=
 aY (key:=92) (L:=cd) (bs:=[]) (by kernel_rfl) av (aW (by kernel_rfl) h)
end Go.AM
set_option maxRecDepth 100000
namespace Go.AM
open Go.Proofs Ex
def oo (prev:Ex):List Ex→List Ex
 | []=>[]
 | x::l=>if cmp x prev=0 then oo x l else x::oo x l
def js:List Ex→List Ex
 | []=>[]
 | x::l=>x::oo x l
theorem VD: ∀(m:List Ex) (prev x:Ex),oo prev (m++[x])=oo prev m++(if cmp x ((prev::m).getD m.length aG)=0 then [] else [x])
 | [],prev,x=>by simp only[List.nil_append,oo,List.length_nil,zV]
 | y::m,prev,x=>by
  have ih:=VD m y x
  simp only[List.cons_append,oo,List.length_cons,List.getD_cons_succ]
  split
  ·exact ih
  ·rw[ih];rfl
theorem VE {l:List Ex} {p:Nat} (h1:1≤p) (U:p<l.length):js (l.take (p+1))=js (l.take p)++(if cmp (l.getD p aG) (l.getD (p-1) aG)=0 then [] else [l.getD p aG]):=by
 match l,p,h1,U with
 | y::l,p+1,_,U=>
  simp only[List.length_cons] at U
  rw[List.take_succ_cons,List.take_succ_cons,js,js,lF (by omega),VD]
  simp only[List.getD_cons_succ,ff,wv]
  rw[show min p l.length=p by omega]
  have:(y::l.take p).getD p aG=(y::l).getD p aG:=by
   match p with
   | 0=>rfl
   | q+1=>simp only[List.getD_cons_succ];rw[fU,fU,fe (by omega)]
  rw[this];rfl
theorem VF: ∀(m:List Ex) (prev:Ex),(prev::m).Pairwise (fun x y=> ¬y.lx x)→j5 (prev::oo prev m)∧∀x,x∈prev::oo prev m↔x∈prev::m
 | [],prev,_=>⟨by simp[oo],by simp[oo]⟩
 | y::m,prev,h=>by
  have h1:=tW.1 h
  obtain ⟨i1,i2⟩:=VF m y h1.2
  rw[oo]
  by_cases hc:cmp y prev=0
  ·rw[aj hc]
   have:=vB _ _ hc
   subst this
   refine ⟨i1,fun x=> ?_⟩
   rw[i2 x];simp
  ·rw[ai hc]
   have aO:prev.lx y:=by
    by_cases U:prev.lx y
    ·exact U
    ·exact absurd (Ex.TW U (h1.1 y (by simp))) fun e=>hc (by rw[e];exact BZ _)
   refine ⟨tW.2 ⟨fun x hx=> ?_,i1⟩,fun x=> ?_⟩
   ·rcases dG.1 hx with rfl|hx
    ·exact aO
    ·exact Ex.MW aO ((tW.1 i1).1 x hx)
   ·rw[dG,i2 x,←dG]
theorem ahx {l:List Ex} (h:l.Pairwise (fun x y=> ¬y.lx x)):j5 (js l)∧∀x,x∈js l↔x∈l:=by
 match l,h with
 | [],_=>exact ⟨List.Pairwise.nil,fun _=>Iff.rfl⟩
 | y::l,h=>exact VF l y h
theorem VG (a:Ex) (ha:a.Ok) (b:Ex) (hb:b.Ok):CC qd (bQ a (bQ b []))=some [.bool (decide (cmp a b=0))]:=by
 refine ahw ?_
 unfold VC
 refine (congrArg (fun o=>Option.bind o _) (GZ a ha b hb)).trans ?_
 simp only[Option.bind_some,V.aM,V.toInt_int]
 rw[BW]
section
variable {l:List Ex} (hn:l.length≤1000000) (au: ∀k∈l,k.Ok)
include hn au
theorem ahy {k:Nat}: ∀(d k2 i:Nat) (ss:List Ex),k+k2+d=l.length→1≤k2→i+1≤k+k2→ss.length=l.length→ss.take i=js (l.take (k+k2))→ss.drop (k+k2-1)=l.drop (k+k2-1)→
  ∃t u fj,Loop (vY CC k (l.length-k)) ((i:Int),(k2:Int),ss.map enc)=some (((js l).length:Int),u,t,List.map enc fj)∧fj.take (js l).length=js l∧fj.length=l.length:=by
 intro d
 induction d with
 | zero=>
  intro k2 i ss hj mS hi hl ht hd
  have e0:l.take (k+k2)=l:=zU (by omega)
  rw[e0] at ht
  have hZ:i=(js l).length:=by rw[←ht,ff];omega
  refine ⟨false,(k2:Int),ss,aS ?_,by rw[←hZ];exact ht,hl⟩
  simp only[vY,zc,un,aJ,az]
  rw[ai (by omega),bz (by omega),hZ]
 | succ d ih=>
  intro k2 i ss hj mS hi hl ht hd
  have hp:k+k2<l.length:=by omega
  have ja:ss.drop (k+k2)=l.drop (k+k2):=by
   have h:=congrArg (List.drop 1) hd
   rw[qB,qB] at h
   rwa [show k+k2-1+1=k+k2 by omega] at h
  have g1:=Cc hl ja hp
  have g0:=Cc hl hd (show k+k2-1<l.length by omega)
  have x1:(ss.map enc)[k+k2]? =some (l.getD (k+k2) aG).enc:=by rw[pd (by omega),g1]
  have x0:(ss.map enc)[k+(k2-1)]? =some (l.getD (k+k2-1) aG).enc:=by rw[show k+(k2-1)=k+k2-1 by omega,pd (by omega),g0]
  have w1:IntKind.wrap .i64 ((k2:Int)-1)=((k2-1:Nat):Int):=by rw[wrap64 (by omega) (by omega)];omega
  have t1:((k2:Nat):Int)<((l.length-k:Nat):Int):=by omega
  have t2:(0:Int)≤((k2:Nat):Int):=by omega
  have t3:(0:Int)≤((k2-1:Nat):Int):=by omega
  have t4:((k2-1:Nat):Int)<((l.length-k:Nat):Int):=by omega
  have t5:((i:Nat):Int)<(ss.length:Int):=by omega
  have t6:(0:Int)≤((i:Nat):Int):=by omega
  have bM: ∃y,(ss.map enc)[i]? =some y:=⟨_,pd (by omega)⟩
  obtain ⟨y,hy⟩:=bM
  have co:=VG (l.getD (k+k2) aG) (yA au hp) (l.getD (k+k2-1) aG) (yA au (by omega))
  have cs:=VE (l:=l) (p:=k+k2) (by omega) hp
  by_cases he:cmp (l.getD (k+k2) aG) (l.getD (k+k2-1) aG)=0
  ·have bX:vY CC k (l.length-k) ((i:Int),(k2:Int),ss.map enc)=some (.inl ((i:Int),((k2+1:Nat):Int),ss.map enc)):=by
    simp only[vY,zc,un,aJ,az,dc,w1,t1,t2,t3,t4,cW,Int.toNat_natCast,x1,x0,Option.bind_some,aU,aZ,aX]
    refine (congrArg (fun o=>Option.bind o _) co).trans ?_
    simp only[Option.bind_some,V.aM,V.dj]
    rw[cx he,qA,cond_false,wrap64 (by omega) (by omega)]
    rfl
   rw[bJ bX]
   refine ih (k2+1) i ss (by omega) (by omega) (by omega) hl ?_ (by rw[show k+(k2+1)-1=k+k2 by omega];exact ja)
   rw[show k+(k2+1)=k+k2+1 by omega,cs,aj he,c9,ht]
  ·have bX:vY CC k (l.length-k) ((i:Int),(k2:Int),ss.map enc)=some (.inl (((i+1:Nat):Int),((k2+1:Nat):Int),(ss.set i (l.getD (k+k2) aG)).map enc)):=by
    simp only[vY,zc,un,aJ,az,dc,w1,t1,t2,t3,t4,t5,t6,cW,Int.toNat_natCast,x1,x0,hy,Option.bind_some,aU,aZ,aX]
    refine (congrArg (fun o=>Option.bind o _) co).trans ?_
    simp only[Option.bind_some,V.aM,V.dj]
    rw[bz he,tX,cond_true,wrap64 (by omega) (by omega),wrap64 (by omega) (by omega),←dx,zW]
    rfl
   rw[bJ bX]
   refine ih (k2+1) (i+1) (ss.set i (l.getD (k+k2) aG)) (by omega) (by omega) (by omega) (by simpa using hl) ?_ ?_
   ·rw[lF (by rw[oA];omega),DT (cg i),ht,show k+(k2+1)=k+k2+1 by omega,cs,ai he]
    simp[show i<ss.length by omega]
   ·rw[show k+(k2+1)-1=k+k2 by omega,DU (by omega),ja]
theorem ahz: ∀(d p:Nat),p+d=l.length→1≤p→js (l.take p)=l.take p→
  (js l=l∧∃t,Loop (vZ CC (l.map enc)) (p:Int)=some (.inr t))∨Loop (vZ CC (l.map enc)) (p:Int)=some (.inl ((js l).map enc)):=by
 intro d
 induction d with
 | zero=>
  intro p hp h1 hc
  obtain rfl:p=l.length:=by omega
  rw[qy] at hc
  refine .inl ⟨hc,((l.length:Int),false),aS ?_⟩
  simp only[vZ,zd,aJ,az]
  rw[ai (by omega),bz (by omega)]
 | succ d ih=>
  intro p hp h1 hc
  have bS:p<l.length:=by omega
  have cs:=VE (l:=l) h1 bS
  have co:=VG (l.getD p aG) (yA au bS) (l.getD (p-1) aG) (yA au (by omega))
  have x1:(l.map enc)[p]? =some (l.getD p aG).enc:=pd bS
  have x0:(l.map enc)[p-1]? =some (l.getD (p-1) aG).enc:=pd (by omega)
  have w1:IntKind.wrap .i64 ((p:Int)-1)=((p-1:Nat):Int):=by rw[wrap64 (by omega) (by omega)];omega
  have t1:((p:Nat):Int)<(l.length:Int):=by omega
  have t2:(0:Int)≤((p:Nat):Int):=by omega
  have t3:(0:Int)≤((p-1:Nat):Int):=by omega
  have t4:((p-1:Nat):Int)<(l.length:Int):=by omega
  have t5:((p:Nat):Int)≤(l.length:Int):=by omega
  by_cases he:cmp (l.getD p aG) (l.getD (p-1) aG)=0
  ·refine .inr (aS ?_)
   obtain ⟨t,u,fj,e1,e2,e3⟩:=ahy hn au (k:=p) (l.length-(p+1)) 1 p l (by omega) (by omega) (by omega) rfl (by rw[cs,aj he,c9,hc]) rfl
   have hm:(js l).length≤fj.length:=by
    have:=congrArg List.length e2
    rw[ff] at this
    omega
   have m1:(0:Int)≤(((js l).length:Nat):Int):=by omega
   have m2:(((js l).length:Nat):Int)≤((fj.map enc).length:Int):=by rw[aJ];omega
   simp only[vZ,zd,aJ,az,dc,w1,t1,t2,t3,t4,t5,cW,Int.toNat_natCast,x1,x0,Option.bind_some,aU,aZ,aX]
   refine (congrArg (fun o=>Option.bind o _) co).trans ?_
   simp only[Option.bind_some,V.aM,V.dj]
   rw[cx he,cond_true]
   refine (congrArg (fun o=>Option.bind o _) e1).trans ?_
   simp only[Option.bind_some,un,dc,az,Int.toNat_natCast]
   rw[aj m1,aj m2,aj m1,aj (by simp only[b9,ff,tV,pD,aJ];omega),Hb _ _ _ hm,e2]
  ·have bX:vZ CC (l.map enc) (p:Int)=some (.inl ((p+1:Nat):Int)):=by
    simp only[vZ,zd,aJ,az,dc,w1,t1,t2,t3,t4,cW,Int.toNat_natCast,x1,x0,Option.bind_some,aU,aZ,aX]
    refine (congrArg (fun o=>Option.bind o _) co).trans ?_
    simp only[Option.bind_some,V.aM,V.dj]
    rw[bz he,cond_false,wrap64 (by omega) (by omega)]
    rfl
   rw[bJ bX]
   exact ih (p+1) (by omega) (by omega) (by rw[cs,ai he,hc,←lF bS])
theorem ahA: ∃b,CC Gk [.list aa (l.map enc)]=some [.bool b,.list aa ((js l).map enc)]:=by
 by_cases U:l.length<2
 ·refine ⟨true,NJ ?_⟩
  unfold Hw
  rw[aJ,az,aj (by omega)]
  match l,U with
  | [],_=>rfl
  | [k],_=>rfl
 ·rcases ahz hn au (l.length-1) 1 (by omega) (by omega) (by
   match l,U with
   | k::l,_=>rfl) with ⟨h3,t,h4⟩|h4
  ·refine ⟨true,NJ ?_⟩
   unfold Hw
   rw[aJ,az,ai (by omega)]
   refine (congrArg (fun o=>Option.bind o _) h4).trans ?_
   rw[h3];rfl
  ·refine ⟨false,NJ ?_⟩
   unfold Hw
   rw[aJ,az,ai (by omega)]
   refine (congrArg (fun o=>Option.bind o _) h4).trans ?_
   rfl
theorem ahB: ∃R:List Ex,CC Bw [.list aa (l.map enc)]=some [.list aa (R.map enc)]∧R.Perm l∧R.Pairwise (fun x y=> ¬y.lx x):=by
 have hx: ∃L:List SX.XE,L.map SX.XE.e=l:=by
  clear hn
  induction l with
  | nil=>exact ⟨[],rfl⟩
  | cons k l ih=>
   obtain ⟨L,hL⟩:=ih fun k hk=>au k (by simp[hk])
   exact ⟨⟨k,au k (by simp)⟩::L,by rw[cJ,hL]⟩
 obtain ⟨L,rfl⟩:=hx
 have he: ∀L:List SX.XE,L.map SX.XE.enc=(L.map SX.XE.e).map enc:=fun L=>by rw[List.map_map];rfl
 obtain ⟨R,e1,h1,U⟩:=SX.ahr L (by rw[aJ] at hn;omega)
 refine ⟨R.map SX.XE.e,?_,h1.map _,List.pairwise_map.2 U⟩
 rw[←he,←he];exact e1
theorem VH: ∃b,CC vi [.list aa (l.map enc)]=some [.bool b,.list aa ((l.foldl ed []).map enc)]:=by
 obtain ⟨R,e1,h1,U⟩:=ahB hn au
 obtain ⟨b,e2⟩:=ahA (l:=R) (by rw[h1.length_eq];exact hn) fun k hk=>au k (h1.mem_iff.1 hk)
 obtain ⟨c1,c2⟩:=ahx U
 have hc:js R=l.foldl ed []:=MX c1 G6 fun x=>by rw[c2,yE,h1.mem_iff]
 rw[hc] at e2
 refine ⟨b,ahv ?_⟩
 unfold VB
 refine (congrArg (fun o=>Option.bind o _) e1).trans ?_
 simp only[Option.bind_some,V.aM,V.kM]
 refine (congrArg (fun o=>Option.bind o _) e2).trans ?_
 cases b<;>rfl
end
end Go.AM
set_option maxRecDepth 100000
namespace Go.AM
open Go.Proofs
noncomputable def VI (C:ae) (kids:List V):Option (List V):=
 (C K3 [.list aa kids]).bind fun r1=>
 bif (V.nth r1 0).toBool then
  (C s9 []).bind fun r2=>
  some [.int .i64 ((V.nth r2 0).toInt),.int .i64 ((V.nth (r2.drop 1) 0).toInt),.list aa ((V.nth (r2.drop 2) 0).toList)]
 else
  (C yb [.int .i64 4,.list aa kids]).bind fun r3=>
  (C Gv [.list aa ((V.nth r3 0).toList)]).bind fun r4=>
  bif (V.nth r4 0).toBool then
  (C vi [.list aa ((V.nth (r4.drop 1) 0).toList)]).bind fun r5=>
  bif (V.nth r5 0).toBool then
   (C qc []).bind fun r6=>
   (C mX [.int .i64 4,.list aa ((V.nth (r5.drop 1) 0).toList),.int .i64 ((V.nth r6 0).toInt),.int .i64 ((V.nth (r6.drop 1) 0).toInt),.list aa ((V.nth (r6.drop 2) 0).toList)]).bind fun r7=>
   some [.int .i64 ((V.nth r7 0).toInt),.int .i64 ((V.nth (r7.drop 1) 0).toInt),.list aa ((V.nth ((r7.drop 1).drop 1) 0).toList)]
  else
   (C qc []).bind fun r8=>
   (C mX [.int .i64 4,.list aa ((V.nth (r5.drop 1) 0).toList),.int .i64 ((V.nth r8 0).toInt),.int .i64 ((V.nth (r8.drop 1) 0).toInt),.list aa ((V.nth (r8.drop 2) 0).toList)]).bind fun r9=>
   some [.int .i64 ((V.nth r9 0).toInt),.int .i64 ((V.nth (r9.drop 1) 0).toInt),.list aa ((V.nth ((r9.drop 1).drop 1) 0).toList)]
  else
  (C vi [.list aa ((V.nth (r4.drop 1) 0).toList)]).bind fun dg=>
  bif (V.nth dg 0).toBool then
   (C qc []).bind fun dz=>
   (C mX [.int .i64 4,.list aa ((V.nth (dg.drop 1) 0).toList),.int .i64 ((V.nth dz 0).toInt),.int .i64 ((V.nth (dz.drop 1) 0).toInt),.list aa ((V.nth (dz.drop 2) 0).toList)]).bind fun ep=>
   some [.int .i64 ((V.nth ep 0).toInt),.int .i64 ((V.nth (ep.drop 1) 0).toInt),.list aa ((V.nth ((ep.drop 1).drop 1) 0).toList)]
  else
   (C qc []).bind fun gU=>
   (C mX [.int .i64 4,.list aa ((V.nth (dg.drop 1) 0).toList),.int .i64 ((V.nth gU 0).toInt),.int .i64 ((V.nth (gU.drop 1) 0).toInt),.list aa ((V.nth (gU.drop 2) 0).toList)]).bind fun jY=>
   some [.int .i64 ((V.nth jY 0).toInt),.int .i64 ((V.nth (jY.drop 1) 0).toInt),.list aa ((V.nth ((jY.drop 1).drop 1) 0).toList)]
theorem ahC {kids:List V} {r:Option (List V)} (h:VI CC kids=r):CC Gf [.list aa kids]=r:=
 aY (key:=65) (L:=cd) (bs:=[]) (by kernel_rfl) av (aW (by kernel_rfl) h)
noncomputable def VJ (C:ae) (kids:List V):Option (List V):=
 (C s7 [.list aa kids]).bind fun r1=>
 bif (V.nth r1 0).toBool then
  (C qc []).bind fun r2=>
  some [.int .i64 ((V.nth r2 0).toInt),.int .i64 ((V.nth (r2.drop 1) 0).toInt),.list aa ((V.nth (r2.drop 2) 0).toList)]
 else
  (C yb [.int .i64 5,.list aa kids]).bind fun r3=>
  (C Gt [.list aa ((V.nth r3 0).toList)]).bind fun r4=>
  bif (V.nth r4 0).toBool then
  (C vg []).bind fun r5=>
  (C mX [.int .i64 5,.list aa ((V.nth (r4.drop 1) 0).toList),.int .i64 ((V.nth r5 0).toInt),.int .i64 ((V.nth (r5.drop 1) 0).toInt),.list aa ((V.nth (r5.drop 2) 0).toList)]).bind fun r6=>
  some [.int .i64 ((V.nth r6 0).toInt),.int .i64 ((V.nth (r6.drop 1) 0).toInt),.list aa ((V.nth ((r6.drop 1).drop 1) 0).toList)]
  else
  (C vg []).bind fun r7=>
  (C mX [.int .i64 5,.list aa ((V.nth (r4.drop 1) 0).toList),.int .i64 ((V.nth r7 0).toInt),.int .i64 ((V.nth (r7.drop 1) 0).toInt),.list aa ((V.nth (r7.drop 2) 0).toList)]).bind fun r8=>
  some [.int .i64 ((V.nth r8 0).toInt),.int .i64 ((V.nth (r8.drop 1) 0).toInt),.list aa ((V.nth ((r8.drop 1).drop 1) 0).toList)]
theorem ahD {kids:List V} {r:Option (List V)} (h:VJ CC kids=r):CC Gg [.list aa kids]=r:=
 aY (key:=66) (L:=cd) (bs:=[]) (by kernel_rfl) av (aW (by kernel_rfl) h)
noncomputable def VK (C:ae) (kids:List V):Option (List V):=
 (C s7 [.list aa kids]).bind fun r1=>
 bif (V.nth r1 0).toBool then
  (C qc []).bind fun r2=>
  some [.int .i64 ((V.nth r2 0).toInt),.int .i64 ((V.nth (r2.drop 1) 0).toInt),.list aa ((V.nth (r2.drop 2) 0).toList)]
 else
  (C yb [.int .i64 6,.list aa kids]).bind fun r3=>
  (C ya [.list aa ((V.nth r3 0).toList)]).bind fun r4=>
  bif (V.nth r4 0).toBool then
  (C vi [.list aa ((V.nth (r4.drop 1) 0).toList)]).bind fun r5=>
  bif (V.nth r5 0).toBool then
   (C s9 []).bind fun r6=>
   (C mX [.int .i64 6,.list aa ((V.nth (r5.drop 1) 0).toList),.int .i64 ((V.nth r6 0).toInt),.int .i64 ((V.nth (r6.drop 1) 0).toInt),.list aa ((V.nth (r6.drop 2) 0).toList)]).bind fun r7=>
   some [.int .i64 ((V.nth r7 0).toInt),.int .i64 ((V.nth (r7.drop 1) 0).toInt),.list aa ((V.nth ((r7.drop 1).drop 1) 0).toList)]
  else
   (C s9 []).bind fun r8=>
   (C mX [.int .i64 6,.list aa ((V.nth (r5.drop 1) 0).toList),.int .i64 ((V.nth r8 0).toInt),.int .i64 ((V.nth (r8.drop 1) 0).toInt),.list aa ((V.nth (r8.drop 2) 0).toList)]).bind fun r9=>
   some [.int .i64 ((V.nth r9 0).toInt),.int .i64 ((V.nth (r9.drop 1) 0).toInt),.list aa ((V.nth ((r9.drop 1).drop 1) 0).toList)]
  else
  (C vi [.list aa ((V.nth (r4.drop 1) 0).toList)]).bind fun dg=>
  bif (V.nth dg 0).toBool then
   (C s9 []).bind fun dz=>
   (C mX [.int .i64 6,.list aa ((V.nth (dg.drop 1) 0).toList),.int .i64 ((V.nth dz 0).toInt),.int .i64 ((V.nth (dz.drop 1) 0).toInt),.list aa ((V.nth (dz.drop 2) 0).toList)]).bind fun ep=>
   some [.int .i64 ((V.nth ep 0).toInt),.int .i64 ((V.nth (ep.drop 1) 0).toInt),.list aa ((V.nth ((ep.drop 1).drop 1) 0).toList)]
  else
   (C s9 []).bind fun gU=>
   (C mX [.int .i64 6,.list aa ((V.nth (dg.drop 1) 0).toList),.int .i64 ((V.nth gU 0).toInt),.int .i64 ((V.nth (gU.drop 1) 0).toInt),.list aa ((V.nth (gU.drop 2) 0).toList)]).bind fun jY=>
   some [.int .i64 ((V.nth jY 0).toInt),.int .i64 ((V.nth (jY.drop 1) 0).toInt),.list aa ((V.nth ((jY.drop 1).drop 1) 0).toList)]
theorem ahE {kids:List V} {r:Option (List V)} (h:VK CC kids=r):CC Gh [.list aa kids]=r:=
 aY (key:=67) (L:=cd) (bs:=[]) (by kernel_rfl) av (aW (by kernel_rfl) h)
noncomputable def NK (C:ae) (op:Int) (kids:List V):Option (List V):=
 bif (op:Int)==4 then
  (C Gf [.list aa kids]).bind fun r1=>
  some [.int .i64 ((V.nth r1 0).toInt),.int .i64 ((V.nth (r1.drop 1) 0).toInt),.list aa ((V.nth ((r1.drop 1).drop 1) 0).toList)]
 else
  bif (op:Int)==5 then
  (C Gg [.list aa kids]).bind fun r2=>
  some [.int .i64 ((V.nth r2 0).toInt),.int .i64 ((V.nth (r2.drop 1) 0).toInt),.list aa ((V.nth ((r2.drop 1).drop 1) 0).toList)]
  else
  bif (op:Int)==6 then
   (C Gh [.list aa kids]).bind fun r3=>
   some [.int .i64 ((V.nth r3 0).toInt),.int .i64 ((V.nth (r3.drop 1) 0).toInt),.list aa ((V.nth ((r3.drop 1).drop 1) 0).toList)]
  else
   bif ((kids.length:Int):Int) != 1 then
   some [.int .i64 0,.int .i64 0,.list aa ([]:List V)]
   else
   (kids[0]?).bind fun x4=>
   bif (op:Int)==8 then
    bif (((x4.cell 0).toInt):Int)==8 then
    bif ((((x4.cell 2).toList).length:Int):Int)==1 then
     (((x4.cell 2).toList)[0]?).bind fun x5=>
     some [.int .i64 ((x5.cell 0).toInt),.int .i64 ((x5.cell 1).toInt),.list aa ((x5.cell 2).toList)]
    else
     some [.int .i64 8,.int .i64 0,.list aa ([.agg [.int .i64 ((x4.cell 0).toInt),.int .i64 ((x4.cell 1).toInt),.list aa ((x4.cell 2).toList)]]:List V)]
    else
    some [.int .i64 8,.int .i64 0,.list aa ([.agg [.int .i64 ((x4.cell 0).toInt),.int .i64 ((x4.cell 1).toInt),.list aa ((x4.cell 2).toList)]]:List V)]
   else
    bif (op:Int)==7 then
    bif (((x4.cell 0).toInt):Int)==1 then
     (C vg []).bind fun r6=>
     some [.int .i64 ((V.nth r6 0).toInt),.int .i64 ((V.nth (r6.drop 1) 0).toInt),.list aa ((V.nth (r6.drop 2) 0).toList)]
    else
     bif (((x4.cell 0).toInt):Int)==2 then
     (C vg []).bind fun r7=>
     some [.int .i64 ((V.nth r7 0).toInt),.int .i64 ((V.nth (r7.drop 1) 0).toInt),.list aa ((V.nth (r7.drop 2) 0).toList)]
     else
     bif (((x4.cell 0).toInt):Int)==7 then
      some [.int .i64 ((x4.cell 0).toInt),.int .i64 ((x4.cell 1).toInt),.list aa ((x4.cell 2).toList)]
     else
      (C mV [.int .i64 ((x4.cell 0).toInt),.int .i64 ((x4.cell 1).toInt),.list aa ((x4.cell 2).toList)]).bind fun r8=>
      bif (V.nth r8 0).toBool then
      some [.int .i64 ((x4.cell 0).toInt),.int .i64 ((x4.cell 1).toInt),.list aa ((x4.cell 2).toList)]
      else
      some [.int .i64 7,.int .i64 0,.list aa ([.agg [.int .i64 ((x4.cell 0).toInt),.int .i64 ((x4.cell 1).toInt),.list aa ((x4.cell 2).toList)]]:List V)]
    else
    some [.int .i64 0,.int .i64 0,.list aa ([]:List V)]
theorem VL {op:Int} {kids:List V} {r:Option (List V)} (h:NK CC op kids=r):CC kP [.int .i64 op,.list aa kids]=r:=
 aY (key:=52) (L:=cd) (bs:=[]) (by kernel_rfl) av (aW (by kernel_rfl) h)
end Go.AM
