/-
  Functions of the program, lifted to plain data.
-/
import Derived.Test.YtpfiomngchimkaaGreatDoorRows
import Derived.Lib.LaidTab
import Derived.LaidHandle
import Derived.LaidSub
import Derived.MakeChecks
import Derived.Lay
import Derived.Sort.AssemblyPlain
import Derived.Test.YtpfiomngchimkaaGreatDoorP6
set_option linter.unusedVariables false
set_option linter.unusedSimpArgs false
set_option linter.unusedSectionVars false
set_option maxRecDepth 100000
namespace Go.AM
open Go.Proofs
section
open Go.Proofs.YtpfiomngchimkaaGreatDoor Go.Lib Go.MakeChecks
def adz:List Int:=[0,1,56,2,57,49,28,3,61,58,42,50,38,29,17,4,62,47,59,36,45,43,51,22,53,39,33,30,24,18,12,5,63,55,48,27,60,41,37,16,46,35,44,21,52,32,23,11,54,26,40,15,34,20,31,10,25,14,19,9,13,8,7,6]
theorem aDQ:F9=adz.map fun z=>.int .u8 z:=by kernel_rfl
theorem aDR:Rows.laid_math_bits_deBruijn64tab (H:=Unit)=tabData .u8 adz:=by kernel_rfl
def adA:List Int:=[1,10,100,1000,10000,100000,1000000,10000000,100000000,1000000000,10000000000,100000000000,1000000000000,10000000000000,100000000000000,1000000000000000,10000000000000000,100000000000000000,1000000000000000000,10000000000000000000]
theorem aDS:YL=adA.map fun z=>.int .u64 z:=by kernel_rfl
theorem aDT:Rows.laid_internal_strconv_uint64pow10 (H:=Unit)=tabData .u64 adA:=by kernel_rfl
def adB:List Int:=[0,1,28,2,29,14,24,3,30,22,20,15,25,17,4,8,31,27,13,23,21,19,16,7,26,12,18,6,11,5,10,9]
theorem aDU:YM=adB.map fun z=>.int .u8 z:=by kernel_rfl
theorem aDV:Rows.laid_math_bits_deBruijn32tab (H:=Unit)=tabData .u8 adB:=by kernel_rfl
def Od :List (String×DataW Unit) := [("math/bits.deBruijn32tab", Rows.laid_math_bits_deBruijn32tab), ("math/bits.deBruijn64tab", Rows.laid_math_bits_deBruijn64tab), ("internal/strconv.uint64pow10", Rows.laid_internal_strconv_uint64pow10)]
theorem adC{W:World}{g n:Nat}{e:TypeId}{k:IntKind}{zs:List Int}{name:String}{T:LV}(hn:Tryz.prog.globalNamed name=some g)(he:Tryz.prog.underlying e=some (.int k))(hlen:zs.length=n)(hp:0<n)(hT:T=zs.map fun z=>.int k z)(ht:TabIs Tryz.prog W name k zs):
  ∃ts cs,V.pref (List.replicate n e) T=.pref ts cs∧ts.length=cs.length∧(∀j,j<cs.length->pY W g j)∧∀(j:Nat) (t:TypeId) (x:V),ts[j]?=some t->cs[j]?=some x->∃v,W.cell? ⟨g,0+j,none⟩=some v∧Pure Tryz.prog W (pY W) t v x:=by
 have hc:∀i,i<n->W.cell? ⟨g,i,none⟩=some (.int k (zs.getD i 0)):=fun i hi=>ht.cell hn i (by rw[hlen];exact hi);refine⟨List.replicate n e,T,rfl,by rw[hT];simp[hlen],fun _ _=>?_,fun j t x hj hx=>?_⟩
 .have h0:=hc 0 hp;unfold pY;unfold World.cell? at h0;by_cases hz:g<W.heap.size
  .exact hz
  .have:W.heap[g]?=none:=Array.getElem?_eq_none zO;simp[this]at h0
 .have UI:j<n:=by
   have:=(dw.1 hj).1;simpa using this
  rw[HY,ai UI]at hj;cases hj;rw[hT,j5]at hx;have qB:zs[j]?=some (zs.getD j 0):=by
   rw[cA (by rw[hlen];exact UI)];simp[List.getD,cA (show j<zs.length by rw[hlen];exact UI)]
  rw[qB]at hx;cases hx;exact⟨_,by simpa using hc j UI,.int he⟩
theorem aq8{W:World}(h:laidMetH Tryz.prog Od W):lP Tryz.prog mC.bf W (pY W):=by
 have e0 :Od= [("math/bits.deBruijn32tab", tabData .u8 adB), ("math/bits.deBruijn64tab", tabData .u8 adz), ("internal/strconv.uint64pow10", tabData .u64 adA)] :=by unfold Od; rw [aDR, aDT, aDV]
 rw[e0,laidMetH_plain _ _ _ (by kernel_rfl)]at h;intro g;have hg:mC.bf g=bif Nat.beq g 0 then .pref (List.replicate 64 5) F9 else bif Nat.beq g 1 then .pref (List.replicate 20 63) YL else bif Nat.beq g 2 then .pref (List.replicate 32 5) YM else .undef:=by kernel_rfl
 rw[hg];cases fI:Nat.beq g 0 with
 |true=>
  rw[bK]at fI;subst fI;have hs :=h.filter (fun x=> x.1== "math/bits.deBruijn64tab");have hn :Tryz.prog.globalNamed "math/bits.deBruijn64tab" =some 0 :=by kernel_rfl
  exact .inr (adC hn (e:=5) (by kernel_rfl) (by kernel_rfl) zO aDQ (tabIs_of_head (g:=0) (t:=140) (e:=5) (n:=64) (rest:=[]) hn (by kernel_rfl) (by kernel_rfl) (by kernel_rfl) (by kernel_rfl) (by kernel_rfl) hs))
 |false=>
 cases mO:Nat.beq g 1 with
 |true=>
  rw[bK]at mO;subst mO;have hs :=h.filter (fun x=> x.1== "internal/strconv.uint64pow10");have hn :Tryz.prog.globalNamed "internal/strconv.uint64pow10" =some 1 :=by kernel_rfl
  exact .inr (adC hn (e:=63) (by kernel_rfl) (by kernel_rfl) zO aDS (tabIs_of_head (g:=1) (t:=197) (e:=63) (n:=20) (rest:=[]) hn (by kernel_rfl) (by kernel_rfl) (by kernel_rfl) (by kernel_rfl) (by kernel_rfl) hs))
 |false=>
 cases fN:Nat.beq g 2 with
 |true=>
  rw[bK]at fN;subst fN;have hs :=h.filter (fun x=> x.1== "math/bits.deBruijn32tab");have hn :Tryz.prog.globalNamed "math/bits.deBruijn32tab" =some 2 :=by kernel_rfl
  exact .inr (adC hn (e:=5) (by kernel_rfl) (by kernel_rfl) zO aDU (tabIs_of_head (g:=2) (t:=216) (e:=5) (n:=32) (rest:=[]) hn (by kernel_rfl) (by kernel_rfl) (by kernel_rfl) (by kernel_rfl) (by kernel_rfl) hs))
 |false=>
 exact .inl rfl
theorem own:ownKnob Tryz.prog.godebug=none:=by kernel_rfl
theorem anL:FD Tryz.prog:=atY (by kernel_rfl)
theorem mixed:Tryz.prog.follows .mixedOrders=true:=by kernel_rfl
theorem aq7:oB Tryz.prog mC where
 count:=anL
 u5:=aDP anL
 idle:=fun f h=>by
  have h1:mC.idle f=false:=by kernel_rfl
  rw[h1]at h;cases h
noncomputable def afg(os:Os):World:=World.laidAll Tryz.prog os Od
theorem aq5(os:Os)(args:Array Value):laidMetH Tryz.prog Od ((afg os).forCall (fun _ _=>0) ⟨#[],args,[]⟩).memory:=by
 rw[laidMetH_plain _ _ _ (by kernel_rfl)];exact laidMet_laidAll args (by kernel_rfl) (by kernel_rfl)
end
theorem si:maxLen<=9223372036854775807:=by unfold maxLen;omega
theorem uA:br=35184372088832:=by unfold br;rfl
section
variable {α β:Type}{o:Option α}{a:α}{f:α->Option β}{r:Option β}{x y z:β}{b:Bool}
theorem bs(h:o=some a)(h2:f a=r):o.bind f=r:=by rw[h];exact h2
theorem bT(hb:b=true)(h:x=z):(bif b then x else y)=z:=by rw[hb];exact h
theorem bF(hb:b=false)(h:y=z):(bif b then x else y)=z:=by rw[hb];exact h
end
section
variable {X R A α:Type}{step:X->Option (X⊕R)}
theorem adD(l:List α)(s:Nat->A->X)(f:A->α->A)(r:A->R)(Inv:Nat->A->Prop)
  (h:∀(i:Nat) (a:A) (hi:i<l.length),Inv i a->step (s i a)=some (.inl (s (i+1) (f a l[i])))∧Inv (i+1) (f a l[i]))
  (he:∀a,Inv l.length a->step (s l.length a)=some (.inr (r a))) (a0:A) (h0:Inv 0 a0):
  Loop step (s 0 a0)=some (r (l.foldl f a0))∧Inv l.length (l.foldl f a0):=by
 have go:∀(k:Nat) (a:A),k<=l.length->Inv k a->Loop step (s k a)=some (r ((l.drop k).foldl f a))∧Inv l.length ((l.drop k).foldl f a):=by
  intro k;generalize hd:l.length-k=d
  induction d generalizing k with
  |zero=>
   intro a hk hi;have:k=l.length:=zO;subst this;simp only[List.drop_length,List.foldl_nil];exact⟨dg (he a hi),hi⟩
  |succ d ih=>
   intro a hk hi;have fG:k<l.length:=zO;obtain⟨h1,h2⟩:=h k a fG hi;rw[fg h1,BW fG,List.foldl_cons];grind
 grind
theorem Bx(good:Nat->Prop)[DecidablePred good](n:Nat)(s:Nat->X)(bad ok:R)(h:∀i,i<n->step (s i)=some (if good i then .inl (s (i+1))else .inr bad))(he:step (s n)=some (.inr ok)):
  Loop step (s 0)=some (if∀i,i<n->good i then ok else bad):=by
 have go:∀(d k:Nat),k+d=n->((∀i,k<=i->i<n->good i)->Loop step (s k)=some ok)∧((¬∀i,k<=i->i<n->good i)->Loop step (s k)=some bad):=by
  intro d
  induction d with
  |zero=>
   intro k hk;have:k=n:=zO;subst this;exact⟨fun _=>dg he,fun hx=>absurd (fun i h1 h2=>zO) hx⟩
  |succ d ih=>
   intro k hk;have h1:=h k zO;by_cases hg:good k
   .rw[ai hg]at h1;rw[fg h1];grind
   .rw[af hg]at h1;rw[dg h1];grind
 obtain⟨g1,g2⟩:=go n 0 zO;grind
end
theorem jf{α:Type}{l:List α}{i:Nat}{d:α}(h:i<l.length):l.getD i d=l[i]:=by simp[h]
structure Da where
 L:Nat
 st:Nat
 F:List Bool
 N:List (LN)
deriving DecidableEq
namespace Da
def n(d:Da):Nat:=d.F.length
def nx(d:Da)(q x:Nat):Nat:=(d.N.getD q []).getD x 0
def fin(d:Da)(q:Nat):Bool:=d.F.getD q false
def run(d:Da)(q:Nat)(w:LN):Nat:=w.foldl d.nx q
def acc(d:Da)(q:Nat)(w:LN):Bool:=d.fin (d.run q w)
structure Ok(d:Da):Prop where
 l1:1<=d.L
 l6:d.L<=6
 nN:d.N.length=d.n
 row:∀r∈d.N,r.length=d.L∧∀q∈r,q<d.n
 s:d.st<d.n
 dr:d.n<=512
end Da
def WL(L:Nat)(w:LN):Prop:=∀x∈w,x<L
theorem WL.nil{L:Nat}:WL L []:=fun _ h=>by cases h
theorem WL.cons{L x:Nat}{w:LN}(h:x<L)(hw:WL L w):WL L (x::w):=fun y hy=>by
 rcases j4.1 hy with rfl|hy
 .exact h
 .exact hw y hy
theorem WL.head{L x:Nat}{w:LN}(h:WL L (x::w)):x<L:=h x zS
theorem WL.tail{L x:Nat}{w:LN}(h:WL L (x::w)):WL L w:=fun y hy=>h y (by simp[hy])
theorem WL.app{L:Nat}{v w:LN}:WL L (v++w)↔WL L v∧WL L w:=by
 unfold WL;grind
namespace Da
def uB(d:Da)(q:Nat)(d':Da)(q':Nat):Prop:=∀w,WL d.L w->d.acc q w=d'.acc q' w
theorem Ok.gn{d:Da}(h:d.Ok){q x:Nat}(hq:q<d.n)(hx:x<d.L):d.nx q x<d.n:=by
 have eD:q<d.N.length:=by rw[h.nN];exact hq
 have hr:=h.row d.N[q] (gC eD);unfold nx;simp_all
theorem Ok.By{d:Da}(h:d.Ok):∀(w:LN){q:Nat},q<d.n->WL d.L w->d.run q w<d.n
 |[],q,hq,_=>hq
 |x::w,q,hq,hw=>h.By w (h.gn hq hw.head) hw.tail
theorem adE{d:Da}{q x:Nat}{w:LN}:d.run q (x::w)=d.run (d.nx q x) w:=rfl
theorem xV{d:Da}{q x:Nat}{w:LN}:d.acc q (x::w)=d.acc (d.nx q x) w:=rfl
theorem adF{d:Da}{q:Nat}{v w:LN}:d.run q (v++w)=d.run (d.run q v) w:=Pg
theorem UJ{d:Da}{q:Nat}{v w:LN}:d.acc q (v++w)=d.acc (d.run q v) w:=by unfold acc;rw[adF]
theorem qT{d:Da}{q:Nat}:d.acc q []=d.fin q:=rfl
theorem uB.nx{d d':Da}{q q' x:Nat}(h:d.uB q d' q')(hx:x<d.L):d.uB (d.nx q x) d' (d'.nx q' x):=fun w hw=>h (x::w) (hw.cons hx)
def pos(d:Da)(t:Nat):Nat:=d.nx (t/d.L) (t%d.L)
def mt(d:Da):Nat->Nat
 |0=>1
 |t+1=>if d.pos t=d.mt t then d.mt t+1 else d.mt t
structure Oe(d:Da):Prop where
 le:∀t,t<d.n*d.L->d.pos t<=d.mt t
 row:∀q,q<d.n->q<d.mt (q*d.L)
 all:d.mt (d.n*d.L)=d.n
structure Canon(d:Da)(L:Nat)(K:LN->Bool):Prop where
 ok:d.Ok
 hL:d.L=L
 st:d.st=0
 num:d.Oe
 red:∀p q,p<d.n->q<d.n->d.uB p d q->p=q
 dv:∀w,WL L w->d.acc 0 w=K w
theorem UK(d:Da):∀{s t:Nat},s<=t->d.mt s<=d.mt t:=by
 intro s t h
 induction t with
 |zero=>grind
 |succ t ih=>
  rcases iQ s (t+1)with h1|h1
  .have:=ih zO;have e:d.mt (t+1)=if d.pos t=d.mt t then d.mt t+1 else d.mt t:=rfl
   grind
  grind
theorem adG{d d':Da}{K:LN->Bool}{L:Nat}(h:d.Canon L K)(h':d'.Canon L K):∀t,t<=d.n*L->t<=d'.n*L->d.mt t=d'.mt t∧(∀s,s<t->d.pos s=d'.pos s)∧∀q,q<d.mt t->d.uB q d' q:=by
 intro t;have e:=h.hL;have e':=h'.hL;have hl:=h.ok.l1
 induction t with
 |zero=>
  intro _ _;refine⟨rfl,fun s hs=>zO,fun q hq=>?_⟩;obtain rfl:q=0:=by have:q<1:=hq;omega
  intro w hw;rw[h.dv w (e▸hw),h'.dv w (e▸hw)]
 |succ t ih=>
  intro h1 h2;obtain⟨i1,i2,i3⟩:=ih zO zO;have hm:d.mt t<=d.n:=by rw[<-h.num.all];exact d.UK zG
  have wE:d'.mt t<=d'.n:=by rw[<-h'.num.all];exact d'.UK zG
  have hq:t/L<d.n:=by rw[Ph zO];omega
  have eD:t/L<d'.n:=by rw[Ph zO];omega
  have hx:t%L<L:=yq _ zO;have hqm:t/L<d.mt t:=by
   have a:=h.num.row _ hq;rw[e]at a;have b:d.mt (t/L*L)<=d.mt t:=d.UK (Nat.div_mul_le_self t L);omega
  have hE:=(i3 _ hqm).nx (by rw[e];exact hx);have p1:d.pos t=d.nx (t/L) (t%L):=by unfold pos;rw[e]
  have p2:d'.pos t=d'.nx (t/L) (t%L):=by unfold pos;rw[e']
  rw[<-p1,<-p2]at hE;have l1:=h.num.le t zG;have l2:=h'.num.le t zG;have b1:d.pos t<d.n:=by rw[p1];exact h.ok.gn hq zO
  have b2:d'.pos t<d'.n:=by rw[p2];exact h'.ok.gn eD zO
  have key:d.pos t=d'.pos t:=by
   rcases iQ (d.pos t) (d.mt t)with c|c
   .have hA:=i3 _ c;refine h'.red _ _ zO b2 fun w hw=>?_;have hw2:WL d.L w:=zG;rw[<-hA w hw2,hE w hw2]
   .rcases iQ (d'.pos t) (d.mt t)with c'|c'
    .have hA:=i3 _ c';refine h.red _ _ b1 zO fun w hw=>?_;rw[hE w hw,hA w hw]
    .omega
  refine⟨?_,?_,?_⟩
  .unfold mt;grind
  .grind
  .intro q wM;rcases iQ q (d.mt t)with c|c
   .grind
   .have:d.pos t=d.mt t∧q=d.mt t:=by
     unfold mt at wM;grind
    grind
theorem anM{a b:LN}(hl:a.length=b.length)(h:∀x,x<a.length->a.getD x 0=b.getD x 0):a=b:=by
 refine Ag hl fun x h1 h2=>?_;grind
theorem Of{d:Da}(h:d.Ok){q:Nat}(hq:q<d.n):(d.N.getD q []).length=d.L:=by
 have eD:q<d.N.length:=by rw[h.nN];exact hq
 rw[jf eD];exact(h.row _ (gC eD)).1
theorem Canon.eq{d d':Da}{K:LN->Bool}{L:Nat}(h:d.Canon L K)(h':d'.Canon L K):d=d':=by
 have e:=h.hL;have e':=h'.hL;have hl:=h.ok.l1;rw[e]at hl;have hn:d.n=d'.n:=by
  rcases Nat.lt_trichotomy d.n d'.n with c|c|c
  .obtain⟨s1,_,_⟩:=adG h h' (d.n*L) (aC _) (fE _ zO);have a:=h.num.all;have b:=h'.num.row d.n c;grind
  .exact c
  .obtain⟨s1,_,_⟩:=adG h h' (d'.n*L) (fE _ zO) (aC _);have a:=h'.num.all;have b:=h.num.row d'.n c;grind
 obtain⟨s1,s2,s3⟩:=adG h h' (d.n*L) (aC _) zG;have a:=h.num.all;rw[e]at a;have hE:∀q,q<d.n->d.uB q d' q:=fun q hq=>s3 q zO;have hP:∀q x,q<d.n->x<L->d.nx q x=d'.nx q x:=fun q x hq hx=>by
  have:=s2 (q*L+x) (by
   have:(q+1)*L<=d.n*L:=fE _ zO;grind)
  unfold pos at this;rw[e,e']at this;rwa [show(q*L+x)/L=q by rw[oU,H0 zO,H2 hx];rfl,show(q*L+x) %L=x by rw[oU,Nat.mul_add_mod,HZ hx]]at this
 have hF:d.F=d'.F:=by
  refine Ag hn fun q h1 h2=>?_;have:=hE q h1 [] WL.nil;rw[qT,qT]at this;unfold fin at this;grind
 have hN:d.N=d'.N:=by
  refine Ag (by rw[h.ok.nN,h'.ok.nN,hn]) fun q h1 h2=>?_;have hq:q<d.n:=by rw[<-h.ok.nN];exact h1
  have r1:=Of h.ok hq;have r2:=Of h'.ok (show q<d'.n by omega);have hx:=fun x hx=>hP q x hq hx;unfold nx at hx;rw[jf h1]at r1 hx;rw[jf h2]at r2 hx;exact anM zO fun x h3=>hx x zO
 obtain⟨L1,s1,F1,N1⟩:=d;obtain⟨L2,s2,F2,N2⟩:=d';have q1:=h.st;have q2:=h'.st;grind
end Da
section
variable {α:Type}[DecidableEq α]
def dI(S:List α)(a:α):List α:=if a∈S then S else S++[a]
def aT(next:α->Nat->α)(S:List α)(a:α):Nat->List α
 |0=>S
 |x+1=>dI (aT next S a x) (next a x)
def ao(L:Nat)(next:α->Nat->α)(a0:α):Nat->List α
 |0=>[a0]
 |i+1=>match(ao L next a0 i)[i]?with
  |some a=>aT next (ao L next a0 i) a L
  |none=>ao L next a0 i
theorem adH(S:List α)(a:α):S<+:dI S a:=by
 unfold dI;grind
theorem zL{S:List α}{a:α}:a∈dI S a:=by
 unfold dI;split
 .assumption
 .simp
theorem anN{S:List α}{a:α}(h:S.Nodup):(dI S a).Nodup:=by
 unfold dI;grind
theorem tq{S:List α}{a:α}:(dI S a).length=if a∈S then S.length else S.length+1:=by
 unfold dI;grind
variable {L:Nat}{next:α->Nat->α}{a0:α}
theorem Og(S:List α)(a:α):∀x,S<+:aT next S a x
 |0=>tM _
 |x+1=>(Og S a x).trans (adH _ _)
theorem uC(S:List α)(a:α){x y:Nat}(h:x<=y):aT next S a x<+:aT next S a y:=by
 induction y with
 |zero=>grind
 |succ y ih=>
  rcases iQ x (y+1)with c|c
  .exact(ih zO).trans (adH _ _)
  grind
theorem anO{S:List α}{a:α}(h:S.Nodup):∀x,(aT next S a x).Nodup
 |0=>h
 |x+1=>anN (anO h x)
theorem aDW{S:List α}{a:α}{x y:Nat}(h:x<y):next a x∈aT next S a y:=
 (uC S a (show x+1<=y by omega)).subset zL
theorem Oh{i:Nat}{a:α}(h:(ao L next a0 i)[i]?=some a):ao L next a0 (i+1)=aT next (ao L next a0 i) a L:=by
 rw[ao,h]
theorem aDX{i:Nat}(h:(ao L next a0 i).length<=i):ao L next a0 (i+1)=ao L next a0 i:=by
 rw[ao,Ah h]
theorem anP(i:Nat):ao L next a0 i<+:ao L next a0 (i+1):=by
 rw[ao];split
 .exact Og _ _ _
 grind
theorem mY{i j:Nat}(h:i<=j):ao L next a0 i<+:ao L next a0 j:=by
 induction j with
 |zero=>grind
 |succ j ih=>
  rcases iQ i (j+1)with c|c
  .exact(ih zO).trans (anP j)
  grind
theorem D9:∀i,(ao L next a0 i).Nodup
 |0=>by simp[ao]
 |i+1=>by
  rw[ao];split
  .exact anO (D9 i) _
  .exact D9 i
theorem Oi{i j:Nat}(h:(ao L next a0 i).length<=i)(hj:i<=j):ao L next a0 j=ao L next a0 i:=by
 induction j with
 |zero=>grind
 |succ j ih=>
  rcases iQ i (j+1)with c|c
  .rw[aDX zG,ih zO]
  grind
theorem adI(i:Nat):(ao L next a0 i)[0]?=some a0:=by
 have h:=mY (L:=L) (next:=next) (a0:=a0) (od i);have h0:0<(ao L next a0 0).length:=by simp[ao]
 rw[cA (gU h0 h.length_le),<-h.getElem h0];rfl
theorem G9(i:Nat):0<(ao L next a0 i).length:=gU (by simp[ao]) (mY (L:=L) (next:=next) (a0:=a0) (od i)).length_le
theorem Oj:∀i,∀a∈ao L next a0 i,∃w,WL L w∧a=w.foldl next a0
 |0,a,h=>⟨[],WL.nil,by simpa[ao]using h⟩
 |i+1,a,h=>by
  rw[ao]at h;split at h
  .rename_i b hb;have aI:b∈ao L next a0 i:=oa hb
   obtain⟨w,hw,rfl⟩:=Oj i b aI;have:∀x,x<=L->∀a∈aT next (ao L next a0 i) (w.foldl next a0) x,∃w,WL L w∧a=w.foldl next a0:=by
    intro x
    induction x with
    |zero=>intro _ a h;exact Oj i a h
    |succ x ih=>
     intro hx a h;rw[aT]at h;unfold dI at h;split at h
     .grind
     .rcases gh.1 h with h|h
      .grind
      .refine⟨w++[x],WL.app.2 ⟨hw,WL.nil.cons zO⟩,?_⟩;grind
   grind
  .exact Oj i a h
section
variable {k:Nat}(hd:(ao L next a0 k).length<=k)
include hd
theorem Bz{i:Nat}(h:i<(ao L next a0 k).length):i<(ao L next a0 i).length:=by
 rcases iQ i (ao L next a0 i).length with c|c
 .exact c
 .have:=Oi c (show i<=k by omega);grind
theorem aDY{i:Nat}(h:i<(ao L next a0 k).length):(ao L next a0 i)[i]?=some (ao L next a0 k)[i]:=by
 have h1:=Bz hd h;rw[cA h1,(mY (show i<=k by omega)).getElem h1]
theorem Ea{i:Nat}(h:i<(ao L next a0 k).length):ao L next a0 (i+1)=aT next (ao L next a0 i) (ao L next a0 k)[i] L:=Oh (aDY hd h)
theorem adJ{a:α}(h:a∈ao L next a0 k){x:Nat}(hx:x<L):next a x∈ao L next a0 k:=by
 obtain⟨i,hi,rfl⟩:=EU h;have h1:next (ao L next a0 k)[i] x∈ao L next a0 (i+1):=by rw[Ea hd hi];exact aDW hx
 rcases iQ i k with c|c
 .exact(mY (show i+1<=k by omega)).subset h1
 .omega
end
def jC(L:Nat)(next:α->Nat->α)(fin:α->Bool)(S:List α):Da where
 L:=L
 st:=0
 F:=S.map fin
 N:=S.map fun a=>(List.range L).map fun x=>S.idxOf (next a x)
theorem ql{fin:α->Bool}{S:List α}:(jC L next fin S).n=S.length:=by simp[jC,Da.n]
theorem zM{fin:α->Bool}{S:List α}{i x:Nat}(hi:i<S.length)(hx:x<L):(jC L next fin S).nx i x=S.idxOf (next S[i] x):=by
 unfold Da.nx jC;grind
theorem Eb{fin:α->Bool}{S:List α}{i:Nat}(hi:i<S.length):(jC L next fin S).fin i=fin S[i]:=by
 unfold Da.fin jC;grind
theorem xW{S T:List α}(hp:T<+:S){a:α}(h:a∈T):S.idxOf a=T.idxOf a:=by
 obtain⟨U,rfl⟩:=hp;grind
section
variable {k:Nat}(hd:(ao L next a0 k).length<=k){fin:α->Bool}
include hd
theorem aDZ{i x:Nat}(hi:i<(ao L next a0 k).length)(hx:x<L):∃h:(jC L next fin (ao L next a0 k)).nx i x<(ao L next a0 k).length,(ao L next a0 k)[(jC L next fin (ao L next a0 k)).nx i x]=next (ao L next a0 k)[i] x:=by
 have hm:=adJ hd (gC hi) hx;rw[zM hi hx];grind
theorem anQ:∀(w:LN){i:Nat}(hi:i<(ao L next a0 k).length),WL L w->∃h:(jC L next fin (ao L next a0 k)).run i w<(ao L next a0 k).length,(ao L next a0 k)[(jC L next fin (ao L next a0 k)).run i w]=w.foldl next (ao L next a0 k)[i]
 |[],i,hi,_=>⟨hi,rfl⟩
 |x::w,i,hi,hw=>by
  obtain⟨h1,h2⟩:=aDZ (fin:=fin) hd hi hw.head;obtain⟨h3,h4⟩:=anQ w h1 hw.tail;refine⟨h3,?_⟩;rw[List.foldl_cons,<-h2];exact h4
theorem adK{w:LN}{i:Nat}(hi:i<(ao L next a0 k).length)(hw:WL L w):(jC L next fin (ao L next a0 k)).acc i w=fin (w.foldl next (ao L next a0 k)[i]):=by
 obtain⟨h1,h2⟩:=anQ (fin:=fin) hd w hi hw;unfold Da.acc;rw[Eb h1,h2]
theorem adL(h1:1<=L)(h6:L<=6)(hm:(ao L next a0 k).length<=512):(jC L next fin (ao L next a0 k)).Ok where
 l1:=h1
 l6:=h6
 nN:=by rw[ql];simp[jC]
 row r hr:=by
  rw[ql];obtain⟨a,ha,rfl⟩:=lh.1 (show r∈(ao L next a0 k).map _ from hr);refine⟨by simp[jC],fun q hq=>?_⟩;obtain⟨x,hx,rfl⟩:=lh.1 hq;exact Pj (adJ hd ha (lj.1 hx))
 s:=by rw[ql];exact G9 k
 dr:=by rw[ql];exact hm
theorem adM(h1:1<=L):∀i,i<=(ao L next a0 k).length->(jC L next fin (ao L next a0 k)).mt (i*L)=(ao L next a0 i).length∧∀(hi:i<(ao L next a0 k).length) x,x<=L->(jC L next fin (ao L next a0 k)).mt (i*L+x)=(aT next (ao L next a0 i) (ao L next a0 k)[i] x).length:=by
 have key:∀i,(jC L next fin (ao L next a0 k)).mt (i*L)=(ao L next a0 i).length->∀(hi:i<(ao L next a0 k).length) x,x<=L->(jC L next fin (ao L next a0 k)).mt (i*L+x)=(aT next (ao L next a0 i) (ao L next a0 k)[i] x).length:=by
  intro i h hi x
  induction x with
  |zero=>intro _;exact h
  |succ x ih=>
   intro hx;have ih:=ih zO;have hp:aT next (ao L next a0 i) (ao L next a0 k)[i] (x+1)<+:ao L next a0 k:=by
    refine(uC _ _ hx).trans ?_;rw[<-Ea hd hi];exact mY zO
   have hp0:aT next (ao L next a0 i) (ao L next a0 k)[i] x<+:ao L next a0 k:=(uC _ _ zO).trans hp
   have lp:(jC L next fin (ao L next a0 k)).pos (i*L+x)=(ao L next a0 k).idxOf (next (ao L next a0 k)[i] x):=by
    unfold Da.pos;rw[show(jC L next fin (ao L next a0 k)).L=L from rfl,show(i*L+x)/L=i by rw[oU,H0 zO,H2 zO];rfl,show(i*L+x) %L=x by rw[oU,Nat.mul_add_mod,HZ zO],zM hi zO]
   show(jC L next fin (ao L next a0 k)).mt ((i*L+x)+1)=_;rw[Da.mt,lp,ih,aT];rw[aT]at hp;generalize aT next (ao L next a0 i) (ao L next a0 k)[i] x=T at*
   generalize next (ao L next a0 k)[i] x=b at*
   rw[tq];by_cases hb:b∈T
   .rw[ai hb,xW hp0 hb,af zG]
   .rw[af hb];unfold dI at hp;rw[af hb]at hp;rw[xW hp zS,List.idxOf_append,af hb];simp
 intro i
 induction i with
 |zero=>
  intro _;have:(jC L next fin (ao L next a0 k)).mt (0*L)=(ao L next a0 0).length:=by rw[Nat.zero_mul];rfl
  grind
 |succ i ih=>
  intro hi;obtain⟨_,h3⟩:=ih zO;have h4:=h3 zO L (aC _);rw[<-Ea hd zO,<-Ac]at h4;grind
theorem Ec:(ao L next a0 (ao L next a0 k).length)=ao L next a0 k:=by
 have hp:=mY (L:=L) (next:=next) (a0:=a0) hd;exact(Oi hp.length_le hd).symm
theorem aD0(h1:1<=L):(jC L next fin (ao L next a0 k)).Oe where
 le t ht:=by
  rw[ql]at ht;have hq:t/L<(ao L next a0 k).length:=by rw[Ph zO];exact ht
  have hx:t%L<L:=yq _ zO;have Qo:t/L*L+t%L=t:=Nat.div_add_mod' t L;have h2:=(adM (fin:=fin) hd h1 (t/L) zO).2 hq (t%L) zO;rw[Qo]at h2;rw[h2];unfold Da.pos;rw[show(jC L next fin (ao L next a0 k)).L=L from rfl,zM hq hx];have hp:aT next (ao L next a0 (t/L)) (ao L next a0 k)[t/L] (t%L+1)<+:ao L next a0 k:=by
   refine(uC _ _ (show t%L+1<=L by omega)).trans ?_;rw[<-Ea hd hq];exact mY zO
  rw[aT]at hp;generalize aT next (ao L next a0 (t/L)) (ao L next a0 k)[t/L] (t%L)=T at*
  generalize next (ao L next a0 k)[t/L] (t%L)=b at*
  rw[xW hp zL];have:=Pj (zL (S:=T) (a:=b));rw[tq]at this;grind
 row q hq:=by
  rw[ql]at hq;rw[show(jC L next fin (ao L next a0 k)).L=L from rfl,(adM hd h1 q zO).1];exact Bz hd hq
 all:=by
  rw[ql,show(jC L next fin (ao L next a0 k)).L=L from rfl,(adM hd h1 _ (aC _)).1,Ec hd]
end
theorem anR{U:List α}(h0:a0∈U)(hU:∀a∈U,∀x,x<L->next a x∈U)(k:Nat):ao L next a0 k ⊆ U:=by
 intro a ha;obtain⟨w,hw,rfl⟩:=Oj k a ha;have:∀(w:LN) (b:α),b∈U->WL L w->w.foldl next b∈U:=by
  intro w
  induction w with
  |nil=>grind
  |cons x w ih=>intro b hb hw;exact ih _ (hU b hb x hw.head) hw.tail
 grind
theorem adN{U:List α}(h0:a0∈U)(hU:∀a∈U,∀x,x<L->next a x∈U)(k:Nat):(ao L next a0 k).length<=U.length:=
 Pk (D9 k) (anR h0 hU k)
end
namespace Da
def trim(d:Da):Da:=jC d.L d.nx d.fin (ao d.L d.nx d.st d.n)
theorem Ok.uD{d:Da}(h:d.Ok)(k:Nat):(ao d.L d.nx d.st k).length<=d.n:=by
 have:=adN (L:=d.L) (next:=d.nx) (a0:=d.st) (U:=List.range d.n) (lj.2 h.s) (fun a ha x hx=>lj.2 (h.gn (lj.1 ha) hx)) k;grind
theorem Ok.Ee{d:Da}(h:d.Ok)(k:Nat):∀q∈ao d.L d.nx d.st k,q<d.n:=fun q hq=>by
 have:=anR (L:=d.L) (next:=d.nx) (a0:=d.st) (U:=List.range d.n) (lj.2 h.s) (fun a ha x hx=>lj.2 (h.gn (lj.1 ha) hx)) k hq;grind
theorem Ok.anS{d:Da}(h:d.Ok):d.trim.Ok:=adL (h.uD _) h.l1 h.l6 (mD (h.uD _) h.dr)
theorem Ok.adO{d:Da}(h:d.Ok){i:Nat}(hi:i<(ao d.L d.nx d.st d.n).length){w:LN}(hw:WL d.L w):d.trim.acc i w=d.acc (ao d.L d.nx d.st d.n)[i] w:=adK (h.uD _) hi hw
theorem Ok.anT{d:Da}(h:d.Ok){w:LN}(hw:WL d.L w):d.trim.acc 0 w=d.acc d.st w:=by
 rw[h.adO (G9 _) hw];have:=adI (L:=d.L) (next:=d.nx) (a0:=d.st) d.n;grind
theorem Ok.aD1{d:Da}(h:d.Ok)(hr:∀p q,p<d.n->q<d.n->d.uB p d q->p=q):d.trim.Canon d.L (d.acc d.st)where
 ok:=h.anS
 hL:=rfl
 st:=rfl
 num:=aD0 (h.uD _) h.l1
 red p q hp hq he:=by
  unfold trim at hp hq;rw[ql]at hp hq;have h1:d.uB (ao d.L d.nx d.st d.n)[p] d (ao d.L d.nx d.st d.n)[q]:=fun w hw=>by
   rw[<-h.adO hp hw,<-h.adO hq hw];exact he w hw
  have h2:=hr _ _ (h.Ee _ _ (gC hp)) (h.Ee _ _ (gC hq)) h1;rw[<-List.Nodup.idxOf_getElem (D9 _) p hp,<-List.Nodup.idxOf_getElem (D9 _) q hq,h2]
 dv w hw:=h.anT hw
end Da
theorem anU(n:Int):CC 55 [vI n]=some [.bool (decide (1<=n∧n<=6))]:=by
 refine akA ?_;unfold akz;rw[aF];split
 .refine congrArg (fun b=>some [V.bool b]) ?_;rw[yv];omega
 .have:¬(1<=n∧n<=6):=zO;simp[this]
abbrev iV(n:Int):V:=vI n
def tt(r:List Int):V:=aR (r.map iV)
@[simp] theorem anV (r:List Int):(tt r).toList=r.map iV:=by simp[tt]
structure Df where
 L:Int
 st:Int
 F:List Bool
 N:List (List Int)
def Ha(d:Df)(l:LV):LV:=vI d.L::vI d.st::aB (d.F.map V.bool)::aE (d.N.map tt)::l
namespace Df
structure Ok(d:Df):Prop where
 L1: -9223372036854775808<=d.L
 L2:d.L<=9223372036854775807
 s1: -9223372036854775808<=d.st
 s2:d.st<=9223372036854775807
 F:d.F.length<=maxLen
 N:d.N.length<=maxLen
 row:∀r∈d.N,r.length<=maxLen∧∀q∈r,-9223372036854775808<=q∧q<=9223372036854775807
def mZ(d:Df)(r:List Int)(i:Nat):Prop:=0<=r.getD i 0∧r.getD i 0<d.F.length
instance (d:Df)(r:List Int):DecidablePred (d.mZ r):=fun i=>by unfold mZ;infer_instance
def sj(d:Df)(q:Nat):Prop:=((d.N.getD q []).length:Int)=d.L∧∀i,i<(d.N.getD q []).length->d.mZ (d.N.getD q []) i
instance (d:Df):DecidablePred d.sj:=fun i=>by unfold sj;infer_instance
def val(d:Df):Int:=
 if d.L<1∨6<d.L then 1
 else if 512<d.F.length then 3
 else if d.N.length≠d.F.length∨d.st<0∨(d.F.length:Int)<=d.st then 4
 else if∀q,q<d.N.length->d.sj q then 0 else 4
end Df
theorem Ol{α:Type}{f:α->V}{l:List α}{i:Nat}{z:α}(h:i<l.length):idx (l.map f) (i:Int)=some (f (l.getD i z)):=by
 simp_all
section
variable {d:Df}(hd:d.Ok)
include hd
theorem anW{q:Nat}(h:q<d.N.length):(d.N.getD q []).length<=maxLen:=by
 rw[show d.N.getD q []=d.N[q]by simp[h]];exact(hd.row _ (gC h)).1
theorem aD2{q:Nat}(hq:q<d.N.length){t38:LV}{t39:Int}{a b:Int}{l1 l2:LV}:
  Loop (SU CC (d.F.length:Int) t38 t39 (q:Int) ((d.N.getD q []).map iV) (((d.N.getD q []).map iV).length:Int) a b l1 l2) 0=
   some (if∀i,i<(d.N.getD q []).length->d.mZ (d.N.getD q []) i then .inr (((d.N.getD q []).length:Int),false)else .inl 4):=by
 have hl:=anW hd hq;have hm:=si;generalize d.N.getD q []=r at*
 refine Bx (d.mZ r) r.length (fun i=>(i:Int)) (.inl 4:Int⊕(Int×Bool)) (.inr ((r.length:Int),false)) (fun i hi=>?_) ?_
 .simp only[SU,KT,cu,aF];rw[aU,Ol (z:=0) hi];simp only[Option.bind_some,V.toInt_int];by_cases h1:r.getD i 0<0
  .rw[ai h1,af (show¬d.mZ r i from fun h=>by unfold Df.mZ at h;omega)]
  .rw[af h1];by_cases h2:r.getD i 0>=(d.F.length:Int)
   .rw[ai h2,af (show¬d.mZ r i from fun h=>by unfold Df.mZ at h;omega)]
   .rw[af h2,ai (show d.mZ r i from⟨zO,zO⟩),dk];rfl
 .simp only[SU,KT,cu,aF];grind
theorem aD3{a b:Int}{l1 l2:LV}:
  Loop (SV CC (d.F.length:Int) (d.N.map tt) ((d.N.map tt).length:Int) d.L b l1 l2) 0=
   some (if∀q,q<d.N.length->d.sj q then .inr ((d.N.length:Int),false)else .inl 4):=by
 have hm:=si;have hN:=hd.N;refine Bx d.sj d.N.length (fun i=>(i:Int)) (.inl 4:Int⊕(Int×Bool)) (.inr ((d.N.length:Int),false)) (fun q hq=>?_) ?_
 .simp only[SV,KU,cu,aF];rw[aU,Ol (z:=[]) hq];simp only[Option.bind_some,anV,cu,xj];have:=aD2 hd hq (t38:=d.N.map tt) (t39:=(d.N.length:Int)) (a:=d.L) (b:=b) (l1:=l1) (l2:=l2);rw[cu]at this;by_cases h1:((d.N.getD q []).length:Int)=d.L
  .rw[ai h1];refine bs this ?_;by_cases h2:∀i,i<(d.N.getD q []).length->d.mZ (d.N.getD q []) i
   .rw[ai h2,ai (show d.sj q from⟨h1,h2⟩)];simp only[db,un];rw[dk];rfl
   .rw[af h2,af (show¬d.sj q from fun h=>h2 h.2)];rfl
  .rw[af h1,af (show¬d.sj q from fun h=>h1 h.1)]
 .simp only[SV,KU,cu,aF];grind
theorem aD4:CC 64 (Ha d [])=some [vI d.val]:=by
 refine avy ?_;unfold akw Df.val;simp only[cu,aF,xj];have h:=aD3 hd (a:=0) (b:=d.st) (l1:=d.F.map V.bool) (l2:=d.N.map tt);rw[cu]at h;by_cases h1:d.L<1
 .grind
 rw[af h1];by_cases h2:d.L>6
 .grind
 rw[af h2,af (show¬(d.L<1∨6<d.L) by omega)];by_cases h3:512<d.F.length
 .grind
 rw[af (show¬(d.F.length:Int)>512 by omega),af h3];by_cases h4:d.N.length=d.F.length
 .rw[ai (show(d.N.length:Int)=(d.F.length:Int) by omega)];by_cases h5:d.st<0
  .grind
  rw[af h5];by_cases h6:d.st>=(d.F.length:Int)
  .grind
  rw[af h6,af (show¬(d.N.length≠d.F.length∨d.st<0∨(d.F.length:Int)<=d.st) by omega)];refine bs h ?_;split<;>rfl
 grind
theorem aD5{q:Nat}(hq:q<d.N.length){t38:LV}{t39:Int}{a b:Int}{l1 l2:LV}:
  Loop (SW CC (d.F.length:Int) t38 t39 (q:Int) ((d.N.getD q []).map iV) (((d.N.getD q []).map iV).length:Int) a b l1 l2) 0=
   some (if∀i,i<(d.N.getD q []).length->d.mZ (d.N.getD q []) i then .inr (((d.N.getD q []).length:Int),false)else .inl 4):=by
 have hl:=anW hd hq;have hm:=si;generalize d.N.getD q []=r at*
 refine Bx (d.mZ r) r.length (fun i=>(i:Int)) (.inl 4:Int⊕(Int×Bool)) (.inr ((r.length:Int),false)) (fun i hi=>?_) ?_
 .simp only[SW,KV,cu,aF];rw[aU,Ol (z:=0) hi];simp only[Option.bind_some,V.toInt_int];by_cases h1:r.getD i 0<0
  .rw[ai h1,af (show¬d.mZ r i from fun h=>by unfold Df.mZ at h;omega)]
  .rw[af h1];by_cases h2:r.getD i 0>=(d.F.length:Int)
   .rw[ai h2,af (show¬d.mZ r i from fun h=>by unfold Df.mZ at h;omega)]
   .rw[af h2,ai (show d.mZ r i from⟨zO,zO⟩),dk];rfl
 .simp only[SW,KV,cu,aF];rw[cl,Ak]
theorem aD6{b:Int}{l1 l2:LV}:
  Loop (SX CC (d.F.length:Int) (d.N.map tt) ((d.N.map tt).length:Int) d.L b l1 l2) 0=
   some (if∀q,q<d.N.length->d.sj q then .inr ((d.N.length:Int),false)else .inl 4):=by
 have hm:=si;have hN:=hd.N;refine Bx d.sj d.N.length (fun i=>(i:Int)) (.inl 4:Int⊕(Int×Bool)) (.inr ((d.N.length:Int),false)) (fun q hq=>?_) ?_
 .simp only[SX,KW,cu,aF];rw[aU,Ol (z:=[]) hq];simp only[Option.bind_some,anV,cu,xj];have:=aD5 hd hq (t38:=d.N.map tt) (t39:=(d.N.length:Int)) (a:=d.L) (b:=b) (l1:=l1) (l2:=l2);rw[cu]at this;by_cases h1:((d.N.getD q []).length:Int)=d.L
  .rw[ai h1];refine bs this ?_;by_cases h2:∀i,i<(d.N.getD q []).length->d.mZ (d.N.getD q []) i
   .rw[ai h2,ai (show d.sj q from⟨h1,h2⟩)];simp only[db,un];rw[dk];rfl
   .rw[af h2,af (show¬d.sj q from fun h=>h2 h.2)];rfl
  .rw[af h1,af (show¬d.sj q from fun h=>h1 h.1)]
 .simp only[SX,KW,cu,aF];rw[cl,Ak]
theorem anX:CC 95 (Ha d [])=some [vI d.val]:=by
 refine avB ?_;unfold aky Df.val;refine bs (anU d.L) ?_;simp only[cu,aF,xj,kb,V.bj,V.iM,kB,gB];have h:=aD6 hd (b:=d.st) (l1:=d.F.map V.bool) (l2:=d.N.map tt);rw[cu]at h;by_cases h1:d.L<1∨6<d.L
 .rw[ai h1,af (show¬(1<=d.L∧d.L<=6) by omega)]
 rw[af h1,ai (show 1<=d.L∧d.L<=6 by omega)];by_cases h3:512<d.F.length
 .rw[ai (show(d.F.length:Int)>512 by omega),ai h3]
 rw[af (show¬(d.F.length:Int)>512 by omega),af h3];by_cases h0:d.F.length=0
 .rw[ai (show(d.F.length:Int)=0 by omega),aU]
 rw[af (show¬(d.F.length:Int)=0 by omega)];by_cases h4:d.N.length=d.F.length
 .rw[ai (show(d.N.length:Int)=(d.F.length:Int) by omega)];by_cases h5:d.st<0
  .rw[ai h5,ai (.inr (.inl h5))]
  rw[af h5];by_cases h6:d.st>=(d.F.length:Int)
  .rw[ai h6,ai (.inr (.inr h6))]
  rw[af h6,af (show¬(d.N.length≠d.F.length∨d.st<0∨(d.F.length:Int)<=d.st) by omega)];refine bs h ?_;split<;>rfl
 .rw[af (show¬(d.N.length:Int)=(d.F.length:Int) by omega),ai (.inl h4)]
end
def xX(r:LN):List Int:=r.map fun q:Nat=>(q:Int)
theorem anY(r:LN)(i:Nat):(xX r).getD i 0=((r.getD i 0:Nat):Int):=by
 unfold xX;grind
def Da.df(a:Da):Df:=⟨a.L,a.st,a.F,a.N.map xX⟩
theorem Da.Ok.adP{a:Da}(h:a.Ok):a.df.Ok:=by
 have h1:=h.l6;have h2:=h.s;have h3:=h.dr;have h4:=h.nN;unfold Da.n at*
 refine⟨by simp only[Da.df];omega,by simp only[Da.df];omega,by simp only[Da.df];omega,by simp only[Da.df];omega,by simp only[Da.df];unfold maxLen;omega,by simp only[Da.df,cu];unfold maxLen;omega,fun r hr=>?_⟩;obtain⟨r,pj,rfl⟩:=lh.1 hr;have:=h.row r pj;refine⟨by simp only[xX,cu];unfold maxLen;omega,fun q hq=>?_⟩;obtain⟨q,wM,rfl⟩:=lh.1 hq;have:=this.2 q wM;unfold Da.n at this;omega
theorem Da.Ok.val{a:Da}(h:a.Ok):a.df.val=0:=by
 have h0:=h.l1;have h1:=h.l6;have h2:=h.s;have h3:=h.dr;have h4:=h.nN;unfold Da.n at*
 unfold Df.val;rw[af (by simp only[Da.df];omega),af (by simp only[Da.df];omega),af (by simp only[Da.df,cu];omega),ai];intro q hq;simp only[Da.df,cu]at hq;have e:a.df.N.getD q []=xX (a.N.getD q []):=by simp[Da.df,hq]
 have hr:=h.row (a.N.getD q []) zG;unfold Df.sj;rw[e];refine⟨by simp only[xX,cu,Da.df];omega,fun i hi=>?_⟩;rw[xX,cu]at hi;have:=hr.2 ((a.N.getD q [])[i]) (gC hi);unfold Df.mZ;rw[anY,jf hi];simp only[Da.df];unfold Da.n at this;omega
def tab{α:Type}(n:Nat)(g:Nat->α):List α:=(List.range n).map g
section
variable {α β:Type}{n i:Nat}{g h:Nat->α}
@[simp] theorem dJ:(tab n g).length=n:=by simp[tab]
theorem fP(hi:i<n):(tab n g)[i]?=some (g i):=by simp[tab,hi]
theorem zN(hi:i<n){z:α}:(tab n g).getD i z=g i:=by simp[tab,hi]
theorem adQ(hi:i<(tab n g).length):(tab n g)[i]=g i:=by simp[tab]
theorem eK(e:∀j,j<n->g j=h j):tab n g=tab n h:=rf fun j hj=>e j (lj.1 hj)
theorem m7{v:α}:(tab n g).set i v=tab n fun j=>if j=i then v else g j:=by
 refine Ag zS fun j h1 h2=>?_;rw[List.getElem_set,adQ,adQ];grind
theorem aD7:tab n g++[g n]=tab (n+1) g:=by simp[tab,B7]
theorem iz:tab (n+1) g=tab n g++[g n]:=aD7.symm
theorem Om:tab 0 g=[]:=rfl
theorem lB{v:α}:List.replicate n v=tab n fun _=>v:=by simp[tab,List.map_const']
theorem aD8{f:α->β}:(tab n g).map f=tab n fun i=>f (g i):=by simp[tab,Function.comp]
theorem aD9(l:List α)(z:α):l=tab l.length fun i=>l.getD i z:=by
 refine Ag zS fun j h1 h2=>?_;rw[adQ];simp[h1]
theorem Hb(l:List α)(z:α){f:α->β}:l.map f=tab l.length fun i=>f (l.getD i z):=by
 rw[<-aD8,<-aD9]
theorem xY{a:α}:a∈tab n g↔∃i,i<n∧g i=a:=by simp[tab]
end
section
variable {γ:Type}{n i:Nat}{g:Nat->V}
theorem nM(hi:i<n):idx (tab n g) (i:Int)=some (g i):=by rw[JI rfl,fP hi]
theorem gu(hi:i<n){K:V->Option γ}:(bif(decide (0<=(i:Int)))&&(decide ((i:Int)<((tab n g).length:Int)))then((tab n g)[((i:Int)).toNat]?).bind K else none)=K (g i):=by
 rw[Int.toNat_natCast,fP hi,pL.2 ⟨bQ zO,bQ (by simp_all)⟩];rfl
theorem cK{es:LV}{v:V}(hi:es[i]?=some v){K:V->Option γ}:(bif(decide (0<=(i:Int)))&&(decide ((i:Int)<(es.length:Int)))then(es[((i:Int)).toNat]?).bind K else none)=K v:=by
 grind
theorem anZ{m:Nat}(hi:i<m):((decide (0<=(i:Int)))&&(decide ((i:Int)<(m:Int))))=true:=pL.2 ⟨bQ zO,bQ zO⟩
end
theorem cap{a b m:Nat}(h:a+b<=10000000)(hm:m<=1000):Nat.ble ((a+b)*m) br=true:=by
 rw[gg,uA];have:=Nat.mul_le_mul h hm;omega
theorem lC{n m:Nat}(h:n<=10000000)(hm:m<=1000):((decide (0<=(n:Int)))&&((decide ((n:Int)<=(n:Int)))&&(Nat.ble (((n:Int).toNat)*m) br)))=true:=by
 have h2:=Nat.mul_le_mul h hm;rw[Int.toNat_natCast];refine pL.2 ⟨bQ zO,pL.2 ⟨bQ zO,?_⟩⟩;rw[gg,uA];omega
theorem cN{i:Nat}(h:i<=1000000000):wI ((i:Int)+1)=((i+1:Nat):Int):=by rw[dk];omega
theorem dd{i n:Nat}(h:i<n):decide ((i:Int)<(n:Int))=true:=bQ zO
theorem bN{i n:Nat}(h:n<=i):decide ((i:Int)<(n:Int))=false:=bX zO
section
variable {X R:Type}{step:X->Option (X⊕R)}
theorem fe(n:Nat)(s:Nat->X)(r:R)(h:∀i,i<n->step (s i)=some (.inl (s (i+1))))(he:step (s n)=some (.inr r)):Loop step (s 0)=some r:=JJ s n h he
theorem qm(P:Nat->X->Prop)(Q:R->Prop):∀(n k:Nat) (x:X),(∀i,k<=i->i<k+n->∀x,P i x->∃y,step x=some (.inl y)∧P (i+1) y)->(∀x,P (k+n) x->∃r,step x=some (.inr r)∧Q r)->P k x->∃r,Loop step x=some r∧Q r
 |0,k,x,_,he,hx=>by
  obtain⟨r,h1,h2⟩:=he x hx;exact⟨r,dg h1,h2⟩
 |n+1,k,x,h,he,hx=>by
  obtain⟨y,h1,h2⟩:=h k (aC _) zO x hx;obtain⟨r,h3,h4⟩:=qm P Q n (k+1) y (fun i hi hn=>h i zO zO) zG h2;exact⟨r,(fg h1).trans h3,h4⟩
end
theorem an0{x:Int}{n:Nat}(hn:1<=n)(hm:n<=1000000):∃v:Nat,v<n∧CC 16 [vI x,vI n]=some [vI v]:=by
 have h1:x%n<n:=Int.emod_lt_of_pos _ zO;have h2:0<=x%n:=Int.emod_nonneg _ zO;have e:((x%n).toNat:Int)=x%n:=Int.toNat_of_nonneg h2;have h0:Int.tmod x n=x%n∨Int.tmod x n=x%n-n:=by
  grind
 refine⟨(x%n).toNat,zO,avC ?_⟩;unfold akB;refine bF (by simp;omega) (bT (by simp;omega) ?_);rw[e];by_cases h:Int.tmod x n<0
 .refine bT (bQ h) ?_;have h3:Int.tmod x n+n=x%n:=zO;rw[h3,dk zO zO]
 grind
structure Tp where
 l:List Int
 k:Nat
 h:l.length<=80
 hk:k<=80
def Tp.L(t:Tp):V:=aR (t.l.map iV)
def Tp.K(t:Tp):V:=vI t.k
theorem an1(l:List Int):∃t:Tp,CC 4 [aR (l.map iV)]=some [t.L,t.K]:=by
 by_cases h:80<l.length
 .refine⟨⟨l.take 80,0,by simp;omega,zO⟩,akC ?_⟩;unfold abQ;refine bT (by simp;omega) (bT (by simp;omega) ?_);simp[Tp.L,Tp.K,List.map_take]
 .refine⟨⟨l,0,zO,zO⟩,akC ?_⟩;unfold abQ;exact bF (by simp;omega) rfl
theorem BA(t:Tp){n:Nat}(hn:1<=n)(hm:n<=1000000):∃(v:Nat) (u:Tp),v<n∧CC 5 [vI n,t.L,t.K]=some [vI v,u.L,u.K]:=by
 have hh:=t.h;have hk:=t.hk;by_cases h:t.l.length<=t.k
 .refine⟨0,t,zO,akD ?_⟩;unfold abR;exact bT (by simp;omega) rfl
 .obtain⟨v,hv,e⟩:=an0 (x:=t.l.getD t.k 0) hn hm;refine⟨v,⟨t.l,t.k+1,t.h,zO⟩,hv,akD ?_⟩;unfold abR;refine bF (by simp;omega) ?_;rw[cN zO,dk zO zO,show((t.k+1:Nat):Int)-1=(t.k:Int) by omega];refine bs (Ol (z:=0) zO) ?_;refine bs (by rw[V.toInt_int];exact e) ?_;rfl
structure Nd where
 op:Nat
 x:Nat
 a:Nat
 b:Nat
deriving DecidableEq
def Nd.v(d:Nd):V:=.agg [vI d.op,vI d.x,vI d.a,vI d.b]
structure Nd.Ok(d:Nd)(L i:Nat):Prop where
 o1:1<=d.op
 o8:d.op<=8
 x1:d.op=3->d.x<L
 x0:d.op≠3->d.x=0
 a1:5<=d.op->d.a<i
 a0:d.op<5->d.a=0
 b1:5<=d.op->d.op≠8->d.b<i
 b0:d.op<5∨d.op=8->d.b=0
structure uE(g:List Nd)(L:Nat):Prop where
 l1:1<=L
 l2:L<=6
 n1:1<=g.length
 n2:g.length<=100
 nd:∀i (h:i<g.length),g[i].Ok L i
theorem uE.get{g:List Nd}{L i:Nat}(h:uE g L)(hi:i<g.length):idx (g.map Nd.v) (i:Int)=some g[i].v:=by
 simp_all
theorem aEa(t:Tp){L m:Nat}(h1:1<=L)(h2:L<=6)(hm:1<=m)(mL:m<=50):∃(g:List Nd) (u:Tp),uE g L∧g.length<=m∧
  CC 6 [vI L,vI m,t.L,t.K]=some [vI ((g.length:Int)-1),u.L,u.K,fU (g.map Nd.v)]:=by
 obtain⟨v,t1,hv,e1⟩:=BA t hm zO;have hn:wI (1+(v:Int))=((v+1:Nat):Int):=by rw[dk];omega
 suffices hl:∃r:Int×Bool×LV×Int×LV,Loop (SY CC (L:Int) ((v+1:Nat):Int) 0 0 ([]:LV)) (0,t1.l.map iV,(t1.k:Int),([]:LV))=some r∧
   ∃(g:List Nd) (u:Tp),g.length=v+1∧(∀i (h:i<g.length),g[i].Ok L i)∧r.2.2=(u.l.map iV,(u.k:Int),g.map Nd.v) by
  obtain⟨⟨r1,r2,r3⟩,e2,g,u,h3,h4,h5⟩:=hl;simp only at h5;subst h5;refine⟨g,u,⟨h1,h2,zO,zO,h4⟩,zO,avP ?_⟩;unfold akI;refine bs e1 ?_;simp only[V.bj,V.toInt_int,iR,gK,Tp.L,Tp.K,V.dD,hn,gI,gL,jq,eu];refine bs e2 ?_;simp only[un,Tp.L,Tp.K,h3];rw[dk zO zO]
 refine qm (fun i x=>∃(g:List Nd) (u:Tp),g.length=i∧(∀i (h:i<g.length),g[i].Ok L i)∧x=((i:Int),u.l.map iV,(u.k:Int),g.map Nd.v)) _ (v+1) 0 _ ?_ ?_ ⟨[],t1,rfl,fun i h=>by simp at h,rfl⟩
 .rintro i _ hi x ⟨g,u,h3,h4,rfl⟩;obtain⟨o,u1,ho,e2⟩:=BA u (n:=8) zO zO;obtain⟨op,JA,e3⟩:∃op:Nat,(1<=op∧op<=8∧(i=0->op<=4))∧∀{β:Type}(k1 k2 k3 k4:Int) (l0 l1 l2:LV) (b1 b2 b3 b4:Int) (kr:Int->Option β),Gr CC b1 b2 (i:Int) ((i:Int)==0) l0 b3 k1 k2 (wI (1+(o:Int))) k3 k4 b4 l1 l2 kr=kr (op:Int):=by
   have hw:wI (1+(o:Int))=((o+1:Nat):Int):=by rw[dk];omega
   by_cases h0:i=0
   .subst h0;obtain⟨w,hw4,e4⟩:=an0 (x:=((o+1:Nat):Int)) (n:=4) zO zO;refine⟨w+1,⟨zO,zO,fun _=>zO⟩,fun {β}k1 k2 k3 k4 l0 l1 l2 b1 b2 b3 b4 kr=>?_⟩;unfold Gr;refine bT rfl ?_;rw[hw];refine bs e4 ?_;simp only[V.bj,V.toInt_int,gI,gL];rw[dk zO zO,show(1:Int)+w=((w+1:Nat):Int) by omega]
   .refine⟨o+1,⟨zO,zO,fun h=>absurd h h0⟩,fun {β}k1 k2 k3 k4 l0 l1 l2 b1 b2 b3 b4 kr=>?_⟩;unfold Gr;refine bF (by simp;omega) ?_;rw[hw]
  obtain⟨x,u2,hx,e4⟩:∃(x:Nat) (u2:Tp),((op=3->x<L)∧(op≠3->x=0))∧∀{β:Type}(k1 k2 k3 k4:Int) (l1 l2:LV) (b2:Int) (kr:LV×Int×Int->Option β),Gs CC (L:Int) b2 (i:Int) ((op:Int)==3) (u1.l.map iV) (u1.k:Int) k1 k2 (op:Int) 0 k3 k4 l1 l2 kr=kr (u2.l.map iV,(u2.k:Int),(x:Int)):=by
   by_cases h0:op=3
   .obtain⟨x,u2,hx,e4⟩:=BA u1 (n:=L) h1 zO;refine⟨x,u2,⟨fun _=>hx,fun h=>absurd h0 h⟩,fun {β}k1 k2 k3 k4 l1 l2 b2 kr=>?_⟩;unfold Gs;refine bT (by simp[h0]) (bs e4 ?_);simp[Tp.L,Tp.K]
   .refine⟨0,u1,⟨fun h=>absurd h h0,fun _=>rfl⟩,fun {β}k1 k2 k3 k4 l1 l2 b2 kr=>?_⟩;unfold Gs;exact bF (by simp;omega) rfl
  obtain⟨a,u3,ha,e5⟩:∃(a:Nat) (u3:Tp),((5<=op->a<i)∧(op<5->a=0))∧∀{β:Type}(k1 k2 k4:Int) (l1 l2:LV) (b1 b2:Int) (kr:LV×Int×Int->Option β),Gt CC b1 b2 (i:Int) (decide ((op:Int)>=5)) (u2.l.map iV) (u2.k:Int) k1 k2 (op:Int) (x:Int) 0 k4 l1 l2 kr=kr (u3.l.map iV,(u3.k:Int),(a:Int)):=by
   by_cases h0:5<=op
   .obtain⟨a,u3,ha,e5⟩:=BA u2 (n:=i) zO zO;refine⟨a,u3,⟨fun _=>ha,fun h=>zO⟩,fun {β}k1 k2 k4 l1 l2 b1 b2 kr=>?_⟩;unfold Gt;refine bT (by simp;omega) (bs e5 ?_);simp[Tp.L,Tp.K]
   .refine⟨0,u2,⟨fun h=>absurd h h0,fun _=>rfl⟩,fun {β}k1 k2 k4 l1 l2 b1 b2 kr=>?_⟩;unfold Gt;exact bF (by simp;omega) rfl
  obtain⟨b,u4,hb,e6⟩:∃(b:Nat) (u4:Tp),((5<=op->op≠8->b<i)∧(op<5∨op=8->b=0))∧∀{β:Type}(q:Bool) (hq:q=decide (5<=op∧op≠8)) (k1 k2:Int) (l1 l2:LV) (b1 b2:Int) (kr:LV×Int×Int->Option β),Dy CC b1 b2 (i:Int) q (u3.l.map iV) (u3.k:Int) k1 k2 (op:Int) (x:Int) (a:Int) 0 l1 l2 kr=kr (u4.l.map iV,(u4.k:Int),(b:Int)):=by
   by_cases h0:5<=op∧op≠8
   .obtain⟨a,u3,ha,e5⟩:=BA u3 (n:=i) zO zO;refine⟨a,u3,⟨fun _ _=>ha,fun h=>zO⟩,fun {β}q hq k1 k2 l1 l2 b1 b2 kr=>?_⟩;unfold Dy;refine bT (by rw[hq];exact bQ h0) (bs e5 ?_);simp[Tp.L,Tp.K]
   .refine⟨0,u3,⟨fun h h'=>absurd ⟨h,h'⟩ h0,fun _=>rfl⟩,fun {β}q hq k1 k2 l1 l2 b1 b2 kr=>?_⟩;unfold Dy;exact bF (by rw[hq];exact bX h0) rfl
  refine⟨_,?_,g++[⟨op,x,a,b⟩],u4,by simp[h3],fun j hj=>?_,rfl⟩
  .have cQ:Nat.ble (((g.map Nd.v).length+([.agg [vI op,vI x,vI a,vI b]]:LV).length)*32) br=true:=cap (by simp;omega) zO;simp only[SY,un];unfold KX;refine bT (dd zO) (bs e2 ?_);simp only[V.bj,V.toInt_int,iR,gK,Tp.L,Tp.K,V.dD,e3,e4,un,e5,gI,gL,jq,eu];by_cases h5:5<=op
   .refine bT (by simp;omega) ?_;have hq:((op:Int) !=8)=decide (5<=op∧op≠8):=by
     by_cases h8:op=8
     .simp[h8]
     .rw[bQ ⟨h5,h8⟩];simp;omega
    rw[e6 _ hq];refine bT cQ ?_;rw[cN zO];simp[Nd.v]
   .refine bF (by simp;omega) ?_;rw[e6 false (by rw[bX zO])];refine bT cQ ?_;rw[cN zO];simp[Nd.v]
  .rcases iQ j g.length with gm|gm
   .rw[Pl gm];exact h4 j gm
   .have:j=g.length:=by simp at hj;omega
    subst this;rw[List.getElem_append_right (aC _)];simp only[Nat.sub_self,List.getElem_singleton];rw[h3];exact⟨JA.1,JA.2.1,hx.1,hx.2,ha.1,ha.2,hb.1,hb.2⟩
 .rintro x ⟨g,u,h3,h4,rfl⟩;refine⟨(((0+(v+1):Nat):Int),decide (((0+(v+1):Nat):Int)<((v+1:Nat):Int)),u.l.map iV,(u.k:Int),g.map Nd.v),?_,g,u,zO,h4,rfl⟩;simp only[SY,un];unfold KX;exact bF (bN zO) rfl
def jK(w:List UInt8)(i:Nat):Int:=((w.getD i 0).toNat:Int)-97
def mz(w:List UInt8)(L:Int):Prop:=1<=L∧L<=6∧w.length<=2048∧∀i,i<w.length->0<=jK w i∧jK w i<L
instance (w:List UInt8)(L:Int):Decidable (mz w L):=by unfold mz;infer_instance
theorem On{w:List UInt8}{i:Nat}(h:i<w.length):(bif decide (0<=(i:Int))then(w[((i:Nat):Int).toNat]?).map (fun b=>V.int .u8 b.toNat)else none)=some (.int .u8 ((w.getD i 0).toNat:Int)):=by
 rw[aF,aU,Int.toNat_natCast];simp[h]
theorem an2(b:UInt8):b.toNat<256:=b.toNat_lt
theorem UL{w:List UInt8}{i:Nat}(h:0<=jK w i):IntKind.wrap .u8 (((w.getD i 0).toNat:Int)-97)=jK w i:=by
 have:=an2 (w.getD i 0);unfold jK at*
 exact X4 h zO
theorem an3{w:List UInt8}{i:Nat}:jK w i<256:=by
 have:=an2 (w.getD i 0);unfold jK;omega
theorem aEb{w:List UInt8}{L:Int}(hl:w.length<=2048):Loop (SZ CC w L (w.length:Int)) 0=some (if∀i,i<w.length->0<=jK w i∧jK w i<L then .inr ((w.length:Int),false)else .inl false):=by
 refine Bx (good:=fun i=>0<=jK w i∧jK w i<L) w.length (fun i=>(i:Int)) (Sum.inl false:Bool⊕(Int×Bool)) (Sum.inr ((w.length:Int),false)) (fun i hi=>?_) ?_
 .simp only[SZ,KZ,un];rw[aF,aU,On hi];simp only[Option.bind_some,V.toInt_int,aF];by_cases h1:0<=jK w i
  .have rC:=h1;unfold jK at rC;rw[cl,UL h1,wrap64 zO (by have:=@an3 w i;omega)];by_cases h2:jK w i<L
   .rw[cl,ai ⟨h1,h2⟩,dk];simp
   .rw[aU,af (fun h=>h2 h.2)]
  .have rC:=h1;unfold jK at rC;rw[aU,af (fun h=>h1 h.1)]
 .simp only[SZ,KZ,un];rw[aF,cl];simp
theorem adR(w:List UInt8)(L:Int):CC 18 [.str w,vI L]=some [.bool (decide (mz w L))]:=by
 refine avS ?_;unfold akK;simp only[aF];by_cases h1:L<1
 .rw[ai h1,bX (fun h=>by have:=h.1;omega)]
 rw[af h1];by_cases h2:L>6
 .rw[ai h2,bX (fun h=>by have:=h.2.1;omega)]
 rw[af h2];by_cases h3:(w.length:Int)>2048
 .rw[ai h3,bX (fun h=>by have:=h.2.2.1;omega)]
 rw[af h3,aEb zO];by_cases h4:∀i,i<w.length->0<=jK w i∧jK w i<L
 .rw[ai h4,bQ (show mz w L from⟨zO,zO,zO,h4⟩)];simp[db,un]
 .rw[af h4,bX (fun h=>h4 h.2.2.2)];simp[db,un]
def ff(L:Nat)(f:Nat->Nat):V:=aR (tab L fun x=>iV (f x))
def Da.cj(a:Da):LV:=tab a.n fun q=>V.bool (a.fin q)
def Da.bL(a:Da):LV:=tab a.n fun q=>ff a.L (a.nx q)
@[simp] theorem Da.sk {a:Da}:a.cj.length=a.n:=by simp[Da.cj]
@[simp] theorem Da.an4 {a:Da}:a.bL.length=a.n:=by simp[Da.bL]
@[simp] theorem m8 {L:Nat}{f:Nat->Nat}:(ff L f).toList=tab L fun x=>iV (f x):=by simp[ff]
def eG(a:Da)(l:LV):LV:=vI a.L::vI a.st::aB a.cj::aE a.bL::l
def dM(a:Da):LV:=eG a []
theorem Da.Ok.leaves{a:Da}(h:a.Ok)(l:LV):Ha a.df l=eG a l:=by
 unfold Ha eG;have e1:a.df.F.map V.bool=a.cj:=Hb _ false;have e2:a.df.N.map tt=a.bL:=by
  unfold Da.bL;rw[Hb _ [],show a.df.N.length=a.n by simp[Da.df,h.nN]];refine eK fun q hq=>?_;have eD:q<a.N.length:=by rw[h.nN];exact hq
  unfold tt ff;rw[show a.df.N.getD q []=xX (a.N.getD q []) by simp[Da.df,eD],Hb _ 0];have hl:(xX (a.N.getD q [])).length=a.L:=by simp only[xX,cu];exact Da.Of h hq
  rw[hl];exact congrArg _ (eK fun x _=>by rw[anY];rfl)
 rw[e1,e2];rfl
theorem Da.qn{a:Da}{q:Nat}(hq:q<a.n):idx a.cj (q:Int)=some (.bool (a.fin q)):=nM hq
theorem Da.nO{a:Da}{q:Nat}(hq:q<a.n):idx a.bL (q:Int)=some (ff a.L (a.nx q)):=nM hq
theorem pE{L x:Nat}{f:Nat->Nat}(hx:x<L):idx (tab L fun x=>iV (f x)) (x:Int)=some (iV (f x)):=nM hx
theorem vX{a:Da}(h:a.Ok):CC 64 (dM a)=some [vI 0]:=by
 have:=aD4 h.adP;rwa [h.val,h.leaves]at this
def lets(w:List UInt8):LN:=w.map fun b=>b.toNat-97
theorem zP{w:List UInt8}:(lets w).length=w.length:=by simp[lets]
theorem adS{w:List UInt8}{i:Nat}(hi:i<w.length)(h:0<=jK w i):(((lets w).getD i 0:Nat):Int)=jK w i:=by
 unfold lets jK at*
 grind
theorem mz.WL{w:List UInt8}{L:Nat}(h:mz w (L:Int)):WL L (lets w):=fun x hx=>by
 obtain⟨i,hi,rfl⟩:=EU hx;rw[zP]at hi;obtain⟨h1,h2⟩:=h.2.2.2 i hi;have:=adS hi h1;grind
theorem aEc{v w:List UInt8}:lets (v++w)=lets v++lets w:=by simp[lets]
theorem aEd{a:Da}{w:List UInt8}{q i:Nat}(hi:i<w.length):a.run q ((lets w).take (i+1))=a.nx (a.run q ((lets w).take i)) ((lets w).getD i 0):=by
 rw[H9 (by rw[zP];exact hi),Da.adF,jf (by rw[zP];exact hi)];rfl
theorem an5{w:List UInt8}{L i:Nat}(hw:mz w (L:Int))(hi:i<w.length):(lets w).getD i 0<L:=hw.WL _ (by rw[jf (by rw[zP];exact hi)];grind)
section
variable {a:Da}(h:a.Ok){w:List UInt8}(hw:mz w (a.L:Int)){q:Nat}(hq:q<a.n)
include h hw hq
theorem aEe{i:Nat}:a.run q ((lets w).take i)<a.n:=h.By _ hq fun x hx=>hw.WL x (List.mem_of_mem_take hx)
theorem aEf{x1 x2:Int}{l2:LV}:Loop (S3 CC w (w.length:Int) x1 x2 l2 a.bL) ((q:Int),0)=some ((a.run q (lets w):Int),(w.length:Int),false):=by
 have hl:w.length<=2048:=hw.2.2.1;have e:lets w=(lets w).take w.length:=by rw[Ia (by rw[zP];omega)]
 refine(fe w.length (fun i=>((a.run q ((lets w).take i):Int),(i:Int))) ((a.run q ((lets w).take w.length):Int),(w.length:Int),false) (fun i hi=>?_) ?_).trans (by rw[<-e])
 .simp only[S3,K0,un];refine bT (dd hi) ?_;refine bs (Da.nO (aEe h hw hq)) ?_;refine bs (On hi) ?_;have h1:=(hw.2.2.2 i hi).1;simp only[V.toInt_int,UL h1,m8];rw[<-adS hi h1];refine bs (pE (an5 hw hi)) ?_;rw[cN zO,aEd hi];rfl
 .simp only[S3,K0,un];exact bF (bN (aC _)) (by rw[bN (aC _)])
end
theorem aEg{a:Da}(h:a.Ok){q:Nat}(hq:q<a.n)(w:List UInt8):CC 40 (eG a [vI q,.str w])=some [vI (if mz w (a.L:Int)then(a.run q (lets w):Int)else-1)]:=by
 refine avW ?_;unfold akL;refine bs (vX h) ?_;refine bF rfl ?_;refine bF (bX zO) ?_;refine bF (bX (by rw[Da.sk];omega)) ?_;refine bs (adR w a.L) ?_;by_cases hw:mz w (a.L:Int)
 .rw[ai hw];refine bF (by simp[hw]) ?_;exact bs (aEf h hw hq) rfl
 .rw[af hw];exact bT (by simp[hw]) rfl
theorem aEh{a:Da}(h:a.Ok){w:List UInt8}(hw:mz w (a.L:Int)):CC 15 (eG a [.str w])=some [.bool (a.acc a.st (lets w))]:=by
 refine avX ?_;unfold akM;refine bs (aEg h h.s w) ?_;rw[ai hw];refine bT (bQ (by simp only[V.bj,V.toInt_int,gI,gB];omega)) ?_;refine bs (Da.qn (h.By _ h.s hw.WL)) ?_;rfl
section
variable {α:Type}(ke:α->V)
def jg(i:Nat):List α->LV
 |[]=>[]
 |a::S=>.ct [ke a,iV (i:Int)]::jg (i+1) S
where iV (n:Int):V:=vI n
end
theorem Hc{α:Type}{ke:α->V}:∀(S:List α) (i:Nat),(jg ke i S).length=S.length
 |[],_=>rfl
 |a::S,i=>by simp[jg,Hc S (i+1)]
section
variable {α:Type}[DecidableEq α]{ke:α->V}
variable (hk:∀a b,jF (ke a) (ke b)=decide (a=b))
include hk
theorem tu(x:α):∀(S:List α) (i:Nat),fi (ke x) (jg ke i S)=decide (x∈S)
 |[],_=>by simp[jg,fi]
 |a::S,i=>by
  have c:∀(p q:V),(V.ct [p,q]).comp 0=p:=fun p q=>rfl;rw[jg,fi,c,hk,tu x S (i+1)];grind
theorem xZ(x:α)(z:V):∀(S:List α) (i:Nat),x∈S->gV (ke x) (jg ke i S) z=vI (i+S.idxOf x:Nat)
 |[],_,h=>by cases h
 |a::S,i,h=>by
  have c:∀(p q:V),(V.ct [p,q]).comp 0=p:=fun p q=>rfl;have c1:∀(p q:V),(V.ct [p,q]).comp 1=q:=fun p q=>rfl;rw[jg,gV,c,c1,hk];by_cases e:x=a
  .subst e;rw[bQ rfl];simp[jg.iV]
  .rw[bX e,cond_false,xZ x z S (i+1) ((j4.1 h).resolve_left e),show(a::S).idxOf x=S.idxOf x+1 from zG];grind
theorem ya(x:α):∀(S:List α) (i:Nat),x∉S->fj (ke x) (vI (i+S.length:Nat)) (jg ke i S)=jg ke i (S++[x])
 |[],i,_=>by simp[jg,fj,jg.iV]
 |a::S,i,h=>by
  have c:∀(p q:V),(V.ct [p,q]).comp 0=p:=fun p q=>rfl;have e:x≠a:=fun e=>h (by simp[e]);rw[jg,fj,c,hk,bX e,cond_false,List.cons_append,jg];congr 1;have:=ya x S (i+1) fun hx=>h (by simp[hx]);grind
end
theorem aEi(a b:Nat):jF (vI a) (vI b)=decide (a=b):=by
 simp only[jF,V.cells,pP,u6,B1];grind
theorem aEj(a b:Nat):jF (.int .u64 a) (.int .u64 b)=decide (a=b):=by
 simp only[jF,V.cells,pP,u6,B1];grind
theorem aEk(a b:Nat×Nat):jF (.agg [vI (a.1:Int),vI (a.2:Int)]) (.agg [vI (b.1:Int),vI (b.2:Int)])=decide (a=b):=by
 simp only[jF,V.cells,pP,u6,B1];grind
theorem lZ{n:Nat}(h:n<=1000000000000):cS .i64 (n:Int)=true:=by
 have e1:IntKind.min .i64= -9223372036854775808:=by decide
 have e2:IntKind.max .i64=9223372036854775807:=by decide
 unfold cS;grind
theorem Hd{n:Nat}(h:n<2^64):cS .u64 (n:Int)=true:=by
 have e1:IntKind.min .u64=0:=by decide
 have e2:IntKind.max .u64=18446744073709551615:=by decide
 unfold cS;grind
theorem He{α:Type}[DecidableEq α]{S:List α}{a:α}:(dI S a).idxOf a=if a∈S then S.idxOf a else S.length:=by
 unfold dI;grind
def nV(q:Nat):V:=vI q
def nS(S:LN):LV:=S.map nV
def mS(S:LN):LV:=jg nV 0 S
theorem Hf(a b:Nat):jF (nV a) (nV b)=decide (a=b):=aEi a b
theorem vY{S:LN}:(nS S).length=S.length:=by simp[nS]
theorem Hg{S:LN}{i:Nat}(h:i<S.length):(nS S)[i]?=some (nV S[i]):=by simp[nS,h]
theorem aEl{x:Nat}(hx:x<=1000000):CC 159 [nV x,aR []]=some [nV 0,aR (nS [x]),.list kf (mS [x])]:=by
 refine av0 ?_;unfold akP;rw[lZ zO];exact bT rfl (bT rfl (bT (cap zS zO) rfl))
theorem aEm{S:LN}{x:Nat}(hx:x<=1000000)(hl:S.length<=1000000):CC YD [nV x,aR (nS S),.list kf (mS S)]=some [nV ((dI S x).idxOf x),.list kf (mS (dI S x)),aR (nS (dI S x))]:=by
 refine av1 ?_;unfold akQ;have e1:=tu Hf x S 0;rw[lZ zO];refine bT rfl ?_;rw[He];by_cases h:x∈S
 .refine bF (by rw[show fi (vI x) (mS S)=true from e1.trans (bQ h)];rfl) ?_;have e2:=xZ Hf x (vI 0) S 0 h;rw[show gV (vI x) (mS S) (vI 0)=_ from e2,ai h,dT,show dI S x=S by unfold dI;rw[ai h]];rfl
 .refine bT (by rw[show fi (vI x) (mS S)=false from e1.trans (bX h)];rfl) ?_;refine bT rfl ?_;refine bT (cap (by rw[vY];simp;omega) zO) ?_;have e2:=ya Hf x S 0 h;rw[dT]at e2;rw[vY,show fj (vI x) (vI S.length) (mS S)=_ from e2,af h,show dI S x=S++[x]by unfold dI;rw[af h]];simp[nS,nV,mS]
theorem aEn{a:Da}{q x:Nat}(hq:q<a.n)(hx:x<a.L):CC 139 (nV q::nV x::dM a)=some (nV (a.nx q x)::dM a):=by
 refine avY ?_;unfold akN;refine bs (Da.nO hq) ?_;rw[m8];exact bs (pE hx) rfl
theorem aEo{a:Da}{q:Nat}(hq:q<a.n):CC 140 (nV q::dM a)=some (.bool (a.fin q)::dM a):=by
 refine avZ ?_;unfold akO;exact bs (Da.qn hq) rfl
section
variable {a:Da}(h:a.Ok)
include h
theorem aEp{S U:LN}{q:Nat}(hq:q<a.n)(hS:∀s∈S,s<a.n)(hSn:S.length<=1000)(hp:aT a.nx S q a.L<+:U){i c1 c2:Int}{l1 l2 l3 l4:LV}:
  Loop (S4 CC (a.L:Int) i (q:Int) ((List.replicate (((a.L:Nat):Int).toNat) (vI 0)).length:Int) c1 c2 (a.L:Int) 0 l1 l2 l3 l4) (0,(a.L:Int),(a.st:Int),a.cj,a.bL,List.replicate (((a.L:Nat):Int).toNat) (vI 0),nS S,mS S)=
   some ((a.L:Int),false,(a.L:Int),(a.st:Int),a.cj,a.bL,(tab a.L fun x=>nV (U.idxOf (a.nx q x))),nS (aT a.nx S q a.L),mS (aT a.nx S q a.L)):=by
 have h6:=h.l6;rw[Int.toNat_natCast,lB,dJ];refine(fe a.L (fun x=>((x:Int),(a.L:Int),(a.st:Int),a.cj,a.bL,(tab a.L fun j=>if j<x then nV (U.idxOf (a.nx q j))else nV 0),nS (aT a.nx S q x),mS (aT a.nx S q x))) _ (fun x hx=>?_) ?_)
 .simp only[S4,K1,un,aj,az];refine bT (dd hx) ?_;refine bs (aEn hq hx) ?_;have hT:(aT a.nx S q x).length<=1000000:=by
   have:∀x,(aT a.nx S q x).length<=S.length+x:=by
    intro x
    induction x with
    |zero=>exact aC _
    |succ x ih=>rw[aT,tq];grind
   grind
  refine bs (aEm (S:=aT a.nx S q x) (by have:=h.gn hq hx;have:=h.dr;omega) hT) ?_;refine(gu hx).trans ?_;rw[cN zO,Int.toNat_natCast,m7];have e:(dI (aT a.nx S q x) (a.nx q x)).idxOf (a.nx q x)=U.idxOf (a.nx q x):=(xW ((uC S q (show x+1<=a.L by omega)).trans hp) zL).symm;show some (Sum.inl _)=some (Sum.inl _);refine congrArg (fun x=>some (Sum.inl x)) ?_;refine iD rfl (iD rfl (iD rfl (iD rfl (iD rfl (iD ?_ (iD rfl rfl))))));refine eK fun j _=>?_;by_cases hj:j=x
  .rw[ai hj,aU,hj,<-e];rfl
  grind
 .simp only[S4,K1,un,aj,az];refine bF (bN (aC _)) ?_;rw[bN (aC _)];have:(tab a.L fun j=>if j<a.L then nV (U.idxOf (a.nx q j))else nV 0)=tab a.L fun j=>nV (U.idxOf (a.nx q j)):=eK fun j hj=>ai hj;rw[this]
theorem aEq:CC 138 ([nV a.L,nV a.st]++dM a)=some ([nV a.L,nV 0,vI 0]++(dM a++[aB a.trim.cj,aE a.trim.bL,aR (nS (ao a.L a.nx a.st a.n))])):=by
 have h6:=h.l6;have hm:=h.dr;have hd:=h.uD a.n;refine awa ?_;unfold akT;refine bs (aEl (by have:=h.s;omega)) ?_;have key:Loop (S5 CC (a.L:Int) 0 0 (a.L:Int) 0 ([]:LV) ([]:LV)) (0,(a.L:Int),(a.st:Int),a.cj,a.bL,nS [a.st],mS [a.st],([]:LV),([]:LV))=
   some (.inr (((ao a.L a.nx a.st a.n).length:Int),false,(a.L:Int),(a.st:Int),a.cj,a.bL,nS (ao a.L a.nx a.st a.n),mS (ao a.L a.nx a.st a.n),a.trim.cj,a.trim.bL)):=by
  refine(fe (ao a.L a.nx a.st a.n).length (fun i=>((i:Int),(a.L:Int),(a.st:Int),a.cj,a.bL,nS (ao a.L a.nx a.st i),mS (ao a.L a.nx a.st i),(tab i fun j=>V.bool (a.trim.fin j)),(tab i fun j=>ff a.L (a.trim.nx j)))) _ (fun i hi=>?_) ?_)
  .have fH:=Bz hd hi;have vZ:(ao a.L a.nx a.st i)[i]=(ao a.L a.nx a.st a.n)[i]:=(mY (show i<=a.n by omega)).getElem fH;have hq:(ao a.L a.nx a.st a.n)[i]<a.n:=h.Ee _ _ (gC hi);have hlen:(ao a.L a.nx a.st i).length<=512:=mD (h.uD i) hm;have aKM:(ao a.L a.nx a.st (i+1)).length<=512:=mD (h.uD (i+1)) hm;have iL:=Ea hd hi;simp only[S5,K3,un,aj];refine bT (bQ (by rw[vY];omega)) ?_;refine(cK (Hg fH)).trans ?_;refine bT (lC zO zO) ?_;rw[vZ];refine bs (aEp h hq (h.Ee i) zO (U:=ao a.L a.nx a.st a.n) (by rw[<-iL];exact mY zO)) ?_;rw[<-iL];refine bF (bX (by rw[vY];omega)) ?_;refine bT (cap (by rw[dJ];simp;omega) zO) ?_;refine bs (aEo hq) ?_;refine bT (cap (by rw[dJ];simp;omega) zO) ?_;rw[cN zO,iz,iz];have e1:a.trim.fin i=a.fin (ao a.L a.nx a.st a.n)[i]:=Eb hi;have e2:ff a.L (a.trim.nx i)=aR (tab a.L fun x=>nV ((ao a.L a.nx a.st a.n).idxOf (a.nx (ao a.L a.nx a.st a.n)[i] x))):=by
    unfold ff;refine congrArg _ (eK fun x hx=>?_);rw[show a.trim.nx i x=_ from zM hi hx];rfl
   rw[e1,e2];rfl
  .simp only[S5,K3,un,aj];rw[Ec hd,vY];refine bF (bN (aC _)) ?_;rw[bN (aC _)];have e3:a.trim.n=(ao a.L a.nx a.st a.n).length:=ql;unfold Da.cj Da.bL;rw[e3];rfl
 refine bs key ?_;rfl
end
def nP(U:LN)(n:Nat):LV:=tab n fun q=>if q∈U then nV (U.idxOf q)else vI (-1)
theorem an6{U:LN}{n i:Nat}(hU:U.Nodup)(hi:i<U.length):(tab n fun q=>if q∈U.take i then nV (U.idxOf q)else vI (-1)).set U[i] (vI i)=tab n fun q=>if q∈U.take (i+1)then nV (U.idxOf q)else vI (-1):=by
 rw[m7];refine eK fun q _=>?_;have e:q∈U.take (i+1)↔q∈U.take i∨q=U[i]:=by rw[H9 hi,gh,oc]
 by_cases hq:q=U[i]
 .rw[ai hq,ai (e.2 (.inr hq)),hq,hU.idxOf_getElem i hi];rfl
 grind
theorem an7{a:Da}(h:a.Ok):CC 127 (dM a)=some (dM a.trim++[aR (nP (ao a.L a.nx a.st a.n) a.n)]):=by
 have hm:=h.dr;have hU:=h.Ee a.n;have hle:=h.uD a.n;refine awf ?_;unfold akX;refine bs (vX h) ?_;refine bF rfl ?_;refine bs (aEq h) ?_;have e0:(gL (((([nV a.L,nV 0,vI 0]++(dM a++[aB a.trim.cj,aE a.trim.bL,aR (nS (ao a.L a.nx a.st a.n))])).drop 3).drop 1).drop 1))=a.cj:=rfl;rw[e0,Da.sk];refine bT (lC zO zO) ?_;rw[Int.toNat_natCast,lB,dJ];generalize hUd:ao a.L a.nx a.st a.n=U at*
 have l1:∀{c1 c2 c3 c4:Int}{s1 s2 s3 s4 s5:LV},Loop (S8 CC (a.n:Int) c1 c2 c3 c4 s1 s2 s3 s4 s5) (0,tab a.n fun _=>vI 0)=some ((a.n:Int),false,tab a.n fun q=>if q∈U.take 0 then nV (U.idxOf q)else vI (-1)):=by
  intro c1 c2 c3 c4 s1 s2 s3 s4 s5;refine(fe a.n (fun i=>((i:Int),(tab a.n fun j=>if j<i then vI (-1)else vI 0))) _ (fun i hi=>?_) ?_)
  .simp only[S8,Lc,un,aj,az];refine bT (dd hi) ?_;refine(gu hi).trans ?_;rw[cN zO,Int.toNat_natCast,m7];grind
  .simp only[S8,Lc,un,aj,az];refine bF (bN (aC _)) ?_;rw[bN (aC _)];refine congrArg (fun x=>some (Sum.inr ((a.n:Int),false,x))) (eK fun j hj=>?_);grind
 refine bs l1 ?_;simp only[un];have hUn:U.Nodup:=by rw[<-hUd];exact D9 _
 have l2:∀{c1 c2 c3 c4:Int}{s2 s3 s4 s5:LV},Loop (S9 CC ((nS U).length:Int) c1 c2 c3 c4 (nS U) s2 s3 s4 s5) (0,tab a.n fun q=>if q∈U.take 0 then nV (U.idxOf q)else vI (-1))=some ((U.length:Int),false,nP U a.n):=by
  intro c1 c2 c3 c4 s2 s3 s4 s5;rw[vY];refine(fe U.length (fun i=>((i:Int),(tab a.n fun q=>if q∈U.take i then nV (U.idxOf q)else vI (-1)))) _ (fun i hi=>?_) ?_)
  .have hq:=hU U[i] (gC hi);simp only[S9,Ld,un,aj,az];refine bT (dd hi) ?_;refine(cK (Hg hi)).trans ?_;refine(gu (i:=U[i]) hq).trans ?_;rw[cN zO];refine congrArg (fun x=>some (Sum.inl (((i+1:Nat):Int),x))) ?_;exact an6 hUn hi
  .simp only[S9,Ld,un,aj,az];refine bF (bN (aC _)) ?_;rw[bN (aC _),ym];rfl
 refine bs l2 ?_;rfl
section
variable {β:Type}[DecidableEq β]
def bP(g:Nat->β):Nat->List β
 |0=>[]
 |n+1=>dI (bP g n) (g n)
theorem adT(g:Nat->β):∀n,(bP g n).Nodup
 |0=>List.nodup_nil
 |n+1=>anN (adT g n)
theorem nQ{g:Nat->β}{v:β}:∀{n},v∈bP g n↔∃q,q<n∧g q=v
 |0=>⟨fun h=>(by cases h),fun⟨q,h,_⟩=>zO⟩
 |n+1=>by
  have ih:=nQ (g:=g) (v:=v) (n:=n);rw[bP];unfold dI;grind
theorem aEr{g:Nat->β}{m n:Nat}(h:m<=n):bP g m<+:bP g n:=by
 induction n with
 |zero=>grind
 |succ n ih=>
  rcases iQ m (n+1)with c|c
  .exact(ih zO).trans (adH _ _)
  grind
theorem zQ(g:Nat->β):∀n,(bP g n).length<=n
 |0=>aC _
 |n+1=>by
  have:=zQ g n;rw[bP,tq];grind
def ed(g:Nat->β)(n q:Nat):Nat:=(bP g n).idxOf (g q)
theorem Oo{g:Nat->β}{n q:Nat}(h:q<n):ed g n q<(bP g n).length:=Pj (nQ.2 ⟨q,h,rfl⟩)
theorem Oq{g:Nat->β}{n p q:Nat}(hp:p<n)(hq:q<n):ed g n p=ed g n q↔g p=g q:=by
 constructor
 .intro h;have h1:=List.getElem_idxOf (Oo (g:=g) hp);have h2:=List.getElem_idxOf (Oo (g:=g) hq);rw[<-h1,<-h2];exact getElem_congr_idx h
 .intro h;unfold ed;rw[h]
theorem Ot{g:Nat->β}{m n q:Nat}(h:q<m)(hm:m<=n):ed g n q=ed g m q:=xW (aEr hm) (nQ.2 ⟨q,h,rfl⟩)
theorem adU{g:Nat->β}{q:Nat}(h:g q∈bP g q):bP g (q+1)=bP g q:=by rw[bP];unfold dI;grind
theorem UM{g:Nat->β}{q:Nat}(h:g q∉bP g q):bP g (q+1)=bP g q++[g q]:=by rw[bP];unfold dI;grind
theorem an8{g:Nat->β}{n q:Nat}(hq:q<n)(h:g q∈bP g q):ed g n q=(bP g q).idxOf (g q):=by
 rw[Ot (show q<q+1 by omega) zO];unfold ed;rw[adU h]
theorem an9{g:Nat->β}{n q:Nat}(hq:q<n)(h:g q∉bP g q):ed g n q=(bP g q).length:=by
 rw[Ot (show q<q+1 by omega) zO];unfold ed;rw[UM h,List.idxOf_append,af h];simp
def uF(p:Nat->Nat)(n:Nat):Prop:=∀m,m<=n->bP p m=List.range (bP p m).length
theorem aoa(g:Nat->β)(n:Nat):∀m,m<=n->bP (ed g n) m=List.range (bP g m).length:=by
 intro m
 induction m with
 |zero=>intro _;rfl
 |succ m ih=>
  intro hm;have ih:=ih zO;have e1:ed g n m=ed g (m+1) m:=Ot zO hm;have e2:ed g (m+1) m=if g m∈bP g m then(bP g m).idxOf (g m)else(bP g m).length:=by
   unfold ed;rw[bP];unfold dI;grind
  rw[bP,ih,bP,tq];unfold dI;by_cases h:g m∈bP g m
  .grind
  .rw[af h]at e2;rw[af h,af zG,e1,e2,B7]
theorem adV(g:Nat->β)(n:Nat):uF (ed g n) n:=fun m hm=>by
 rw[aoa g n m hm,List.length_range]
theorem adW{γ:Type}[DecidableEq γ]{f:Nat->β}{c:Nat->γ}{n:Nat}(hr:∀q q',q<n->q'<n->f q=f q'->c q=c q')(hl:(bP f n).length<=(bP c n).length):
  ∀q q',q<n->q'<n->c q=c q'->f q=f q':=by
 intro q q' hq eD hc;refine Decidable.byContradiction fun hf=>?_;have rep:∀v∈bP f n,∃q,q<n∧f q=v:=fun v hv=>nQ.1 hv;have:∃R:β->Nat,∀v∈bP f n,R v<n∧f (R v)=v:=by
  classical
  refine⟨fun v=>if h:v∈bP f n then Classical.choose (rep v h)else 0,fun v hv=>?_⟩;grind
 obtain⟨R,hR⟩:=this;have mN:bP c n ⊆ ((bP f n).filter fun v=>decide (v≠f q')).map fun v=>c (R v):=by
  intro u hu;obtain⟨s,hs,rfl⟩:=nQ.1 hu;by_cases h:f s=f q'
  .refine lh.2 ⟨f q,List.mem_filter.2 ⟨nQ.2 ⟨q,hq,rfl⟩,bQ hf⟩,?_⟩;have h1:=hR (f q) (nQ.2 ⟨q,hq,rfl⟩);grind
  .refine lh.2 ⟨f s,List.mem_filter.2 ⟨nQ.2 ⟨s,hs,rfl⟩,bQ h⟩,?_⟩;have h1:=hR (f s) (nQ.2 ⟨s,hs,rfl⟩);grind
 have h1:=Pk (adT c n) mN;rw[cu]at h1;have h2:((bP f n).filter fun v=>decide (v≠f q')).length<(bP f n).length:=by
  have hm:f q'∈bP f n:=nQ.2 ⟨q',eD,rfl⟩;simp_all
 omega
theorem aob{γ:Type}[DecidableEq γ]{f:Nat->β}{c:Nat->γ}{n:Nat}(hr:∀q q',q<n->q'<n->f q=f q'->c q=c q'):(bP c n).length<=(bP f n).length:=by
 rcases iQ (bP f n).length (bP c n).length with h|h
 .have:=adW hr zO;have rep:∀v∈bP f n,∃q,q<n∧f q=v:=fun v hv=>nQ.1 hv;have:∃R:β->Nat,∀v∈bP f n,R v<n∧f (R v)=v:=by
   classical
   refine⟨fun v=>if h:v∈bP f n then Classical.choose (rep v h)else 0,fun v hv=>?_⟩;grind
  obtain⟨R,hR⟩:=this;have mN:bP c n ⊆ (bP f n).map fun v=>c (R v):=by
   intro u hu;obtain⟨s,hs,rfl⟩:=nQ.1 hu;have h1:=hR (f s) (nQ.2 ⟨s,hs,rfl⟩);exact lh.2 ⟨f s,nQ.2 ⟨s,hs,rfl⟩,hr _ _ h1.1 hs h1.2⟩
  have h1:=Pk (adT c n) mN;grind
 .exact h
theorem aEs{γ:Type}[DecidableEq γ]{f:Nat->β}{c:Nat->γ}{n:Nat}(h:∀q q',q<n->q'<n->(f q=f q'↔c q=c q')):∀q,q<n->ed f n q=ed c n q:=by
 have key:∀m,m<=n->(bP f m).length=(bP c m).length∧∀q,q<m->ed f m q=ed c m q:=by
  intro m
  induction m with
  |zero=>intro _;exact⟨rfl,fun q hq=>zO⟩
  |succ m ih=>
   intro hm;obtain⟨i1,i2⟩:=ih zO;have wO:f m∈bP f m↔c m∈bP c m:=by
    rw[nQ,nQ];grind
   refine⟨?_,fun q hq=>?_⟩
   .rw[bP,bP,tq,tq,i1];grind
   .rcases iQ q m with c1|c1
    .exact(Ot (g:=f) c1 zO).trans ((i2 q c1).trans (Ot (g:=c) c1 zO).symm)
    .obtain rfl:q=m:=zO;unfold ed;rw[bP,bP];by_cases hx:f q∈bP f q
     .obtain⟨r,h1,h2⟩:=nQ.1 hx;have h3:=(h r q zO zO).1 h2;have:=i2 r h1;unfold ed at this;unfold dI;grind
     .unfold dI;grind
 grind
end
namespace Da
structure Part(a:Da)(c:Nat->Nat):Prop where
 coarse:∀q q',q<a.n->q'<a.n->a.uB q a q'->c q=c q'
 fin:∀q q',q<a.n->q'<a.n->c q=c q'->a.fin q=a.fin q'
def sig(a:Da)(c:Nat->Nat)(q:Nat):LN:=c q::(List.range a.L).map fun x=>c (a.nx q x)
theorem Ef{a:Da}{c:Nat->Nat}{q q':Nat}:a.sig c q=a.sig c q'↔c q=c q'∧∀x,x<a.L->c (a.nx q x)=c (a.nx q' x):=by
 unfold sig;simp_all
def UN(a:Da)(c f:Nat->Nat):Prop:=∀q q',q<a.n->q'<a.n->(f q=f q'↔a.sig c q=a.sig c q')
theorem UN.part{a:Da}{c f:Nat->Nat}(h:a.UN c f)(ha:a.Ok)(hc:a.Part c):a.Part f where
 coarse q q' hq eD he:=(h q q' hq eD).2 (Ef.2 ⟨hc.coarse q q' hq eD he,fun x hx=>hc.coarse _ _ (ha.gn hq hx) (ha.gn eD hx) (he.nx hx)⟩)
 fin q q' hq eD he:=hc.fin q q' hq eD (Ef.1 ((h q q' hq eD).1 he)).1
def Eg(a:Da)(p:Nat->Nat):Prop:=(∀q q',q<a.n->q'<a.n->(p q=p q'↔a.uB q a q'))∧uF p a.n
theorem Part.aoc{a:Da}{c:Nat->Nat}(hc:a.Part c)(ha:a.Ok)(hs:∀q q',q<a.n->q'<a.n->c q=c q'->a.sig c q=a.sig c q'):∀q q',q<a.n->q'<a.n->(c q=c q'↔a.uB q a q'):=by
 intro q q' hq eD;refine⟨fun h w=>?_,hc.coarse q q' hq eD⟩
 induction w generalizing q q' with
 |nil=>intro _;rw[qT,qT];exact hc.fin q q' hq eD h
 |cons x w ih=>
  intro hw;rw[xV,xV];exact ih _ _ (ha.gn hq hw.head) (ha.gn eD hw.head) ((Ef.1 (hs q q' hq eD h)).2 x hw.head) hw.tail
def gx(p:Nat->Nat):Nat->LN
 |0=>[]
 |n+1=>if p n∈bP p n then gx p n else gx p n++[n]
theorem UO{p:Nat->Nat}:∀n,(gx p n).map p=bP p n
 |0=>rfl
 |n+1=>by
  rw[gx,bP];unfold dI;split
  .exact UO n
  .rw[sC,UO n];rfl
theorem Hh{p:Nat->Nat}{n:Nat}:(gx p n).length=(bP p n).length:=by rw[<-UO,cu]
theorem Eh{p:Nat->Nat}:∀{n q},q∈gx p n->q<n
 |0,q,h=>by cases h
 |n+1,q,h=>by
  rw[gx]at h;split at h
  .have:=Eh h;omega
  .rcases gh.1 h with h|h
   .have:=Eh h;omega
   grind
theorem Hj{p:Nat->Nat}{n:Nat}(ho:uF p n){c:Nat}(hc:c<(gx p n).length):p (gx p n)[c]=c:=by
 have h1:=ho n (aC _);have h2:((gx p n).map p)[c]?=some c:=by rw[UO,h1,H6 (by rw[Hh]at hc;exact hc)]
 grind
theorem Ou{p:Nat->Nat}{n q:Nat}(ho:uF p n)(hq:q<n):p q<(gx p n).length:=by
 have h1:p q∈bP p n:=nQ.2 ⟨q,hq,rfl⟩;rw[ho n (aC _),lj]at h1;rw[Hh];exact h1
def quo(a:Da)(p:Nat->Nat):Da where
 L:=a.L
 st:=p a.st
 F:=(gx p a.n).map a.fin
 N:=(gx p a.n).map fun q=>tab a.L fun x=>p (a.nx q x)
theorem BB{a:Da}{p:Nat->Nat}:(a.quo p).n=(gx p a.n).length:=by simp[quo,n]
theorem aod{a:Da}{p:Nat->Nat}{c:Nat}(hc:c<(gx p a.n).length):(a.quo p).fin c=a.fin (gx p a.n)[c]:=by
 show((gx p a.n).map a.fin).getD c false=_;grind
theorem aoe{a:Da}{p:Nat->Nat}{c x:Nat}(hc:c<(gx p a.n).length)(hx:x<a.L):(a.quo p).nx c x=p (a.nx (gx p a.n)[c] x):=by
 show(((gx p a.n).map fun q=>tab a.L fun x=>p (a.nx q x)).getD c []).getD x 0=_;rw[jf (l:=(gx p a.n).map fun q=>tab a.L fun x=>p (a.nx q x)) zG,List.getElem_map,zN hx]
section
variable {a:Da}{p:Nat->Nat}(ha:a.Ok)(hp:a.Eg p)
include ha hp
theorem adX:(a.quo p).Ok where
 l1:=ha.l1
 l6:=ha.l6
 nN:=by rw[BB];simp[quo]
 row r hr:=by
  rw[BB];obtain⟨q,hq,rfl⟩:=lh.1 (show r∈(gx p a.n).map _ from hr);refine⟨by simp[quo],fun s hs=>?_⟩;obtain⟨x,hx,rfl⟩:=xY.1 hs;exact Ou hp.2 (ha.gn (Eh hq) hx)
 s:=by rw[BB];exact Ou hp.2 ha.s
 dr:=by
  rw[BB,Hh];have:=zQ p a.n;have:=ha.dr;omega
theorem UP:∀(w:LN){q:Nat},q<a.n->WL a.L w->(a.quo p).acc (p q) w=a.acc q w
 |[],q,hq,_=>by
  have hc:=Ou hp.2 hq;rw[qT,qT,aod hc];have h1:=(hp.1 _ _ (Eh (gC hc)) hq).1 (Hj hp.2 hc);have:=h1 [] WL.nil;rwa [qT,qT]at this
 |x::w,q,hq,hw=>by
  have hc:=Ou hp.2 hq;have hr:=Eh (gC hc);have h1:=(hp.1 _ _ hr hq).1 (Hj hp.2 hc);have h2:=(hp.1 _ _ (ha.gn hr hw.head) (ha.gn hq hw.head)).2 (h1.nx hw.head);rw[xV,xV,aoe hc hw.head,h2];exact UP w (ha.gn hq hw.head) hw.tail
theorem aEt:∀c d,c<(a.quo p).n->d<(a.quo p).n->(a.quo p).uB c (a.quo p) d->c=d:=by
 intro c d hc hd he;rw[BB]at hc hd;have r1:=Eh (gC hc);have r2:=Eh (gC hd);rw[<-Hj hp.2 hc,<-Hj hp.2 hd];refine(hp.1 _ _ r1 r2).2 fun w hw=>?_;rw[<-UP ha hp w r1 hw,<-UP ha hp w r2 hw,Hj hp.2 hc,Hj hp.2 hd];exact he w hw
theorem aof:(a.quo p).trim.Canon a.L (a.acc a.st):=by
 have h:=(adX ha hp).aD1 (aEt ha hp);exact⟨h.ok,h.hL,h.st,h.num,h.red,fun w hw=>(h.dv w hw).trans (UP ha hp w ha.s hw)⟩
end
end Da
def gr(a:Da)(c:Nat->Nat)(q t j:Nat):Nat:=if j=0 then c q else if j<=t then c (a.nx q (j-1))else 0
def fW(a:Da)(c:Nat->Nat)(q:Nat):LN:=tab 7 (gr a c q a.L)
def Ov(s:LN):V:=.agg (s.map nV)
theorem aog:∀s t:LN,pP (s.map nV) (t.map nV)=decide (s=t)
 |[],[]=>rfl
 |[],b::t=>rfl
 |a::s,[]=>rfl
 |a::s,b::t=>by
  simp only[iB,pP];rw[aog s t,sD];simp only[nV,u6];grind
theorem adY(s t:LN):jF (Ov s) (Ov t)=decide (s=t):=aog s t
theorem adZ{a:Da}(h:a.Ok){c:Nat->Nat}{q q':Nat}:fW a c q=fW a c q'↔a.sig c q=a.sig c q':=by
 rw[Da.Ef];have h6:=h.l6;constructor
 .intro e;have g:=fun j (hj:j<7)=>congrArg (fun l:LN=>l.getD j 0) e;unfold fW at g;refine⟨?_,fun x hx=>?_⟩
  .have:=g 0 zO;rw[zN zO,zN zO]at this;exact this
  .have:=g (x+1) zO;rw[zN zO,zN zO]at this;unfold gr at this;grind
 .rintro⟨h1,h2⟩;refine eK fun j _=>?_;unfold gr;grind
theorem Ei{a:Da}{c:Nat->Nat}{q t:Nat}(j:Nat):(bif Nat.beq (0+(t+1)*1) j then((c (a.nx q t):Nat):Int)else((gr a c q t j:Nat):Int))=((gr a c q (t+1) j:Nat):Int):=by
 by_cases hj:t+1=j
 .rw[show Nat.beq (0+(t+1)*1) j=true from by simp_all,cond_true,<-hj];unfold gr;grind
 .rw[show Nat.beq (0+(t+1)*1) j=false from by rw[<-Bool.not_eq_true,bK];omega,cond_false];unfold gr;grind
def cV(n:Nat)(c:Nat->Nat):LV:=tab n fun q=>nV (c q)
section
variable {a:Da}(h:a.Ok){c:Nat->Nat}
include h
theorem aEu{q:Nat}(hq:q<a.n){k1 k2 k3 k4 k5 k6:Int}{l1 l2 l3 l4 l5:LV}:
  Loop (Tj CC k1 k2 l1 k3 k4 (tab a.L fun x=>iV (a.nx q x)) ((tab a.L fun x=>iV (a.nx q x)).length:Int) k5 k6 l2 l3 (cV a.n c) l4 l5) (0,(c q:Int),0,0,0,0,0,0)=
   some ((a.L:Int),false,(gr a c q a.L 0:Int),(gr a c q a.L 1:Int),(gr a c q a.L 2:Int),(gr a c q a.L 3:Int),(gr a c q a.L 4:Int),(gr a c q a.L 5:Int),(gr a c q a.L 6:Int)):=by
 have h6:=h.l6;rw[dJ];refine(fe a.L (fun t=>((t:Int),(gr a c q t 0:Int),(gr a c q t 1:Int),(gr a c q t 2:Int),(gr a c q t 3:Int),(gr a c q t 4:Int),(gr a c q t 5:Int),(gr a c q t 6:Int))) _ (fun t ht=>?_) ?_)
 .simp only[Tj,Lh,un];refine bT (dd ht) ?_;refine bs (pE ht) ?_;refine(gu (i:=a.nx q t) (h.gn hq ht)).trans ?_;have w:wI (1+(t:Int))=((t+1:Nat):Int):=by rw[dk];omega
  rw[w,cN zO,Int.toNat_natCast];refine bT (pL.2 ⟨bQ zO,bQ zO⟩) ?_;refine bT (show Nat.ble (0+(t+1)*1+1) 7=true by rw[gg];omega) ?_;show some (Sum.inl _)=some (Sum.inl _);refine congrArg (fun x=>some (Sum.inl x)) ?_;exact iD rfl (iD (Ei 0) (iD (Ei 1) (iD (Ei 2) (iD (Ei 3) (iD (Ei 4) (iD (Ei 5) (Ei 6)))))))
 .simp only[Tj,Lh,un];grind
theorem aEv(hc:∀q,q<a.n->c q<=1000){q:Nat}(hq:q<a.n)(j:Nat):gr a c q a.L j<=1000:=by
 unfold gr;split
 .grind
 .split
  .exact hc _ (h.gn hq zO)
  .omega
theorem aEw(hc:∀q,q<a.n->c q<=1000){k1 k2 k3:Int}{l2:LV}:
  Loop (Tk CC k1 a.bL (a.bL.length:Int) k2 k3 l2 a.bL (cV a.n c)) (0,([]:LV),List.replicate ((((cV a.n c).length:Int):Int).toNat) (vI 0))=
   some ((a.n:Int),false,jg Ov 0 (bP (fW a c) a.n),cV a.n (ed (fW a c) a.n)):=by
 have hm:=h.dr;have hl:(cV a.n c).length=a.n:=by simp[cV]
 rw[hl,Int.toNat_natCast,lB,Da.an4];refine(fe a.n (fun i=>((i:Int),jg Ov 0 (bP (fW a c) i),(tab a.n fun q=>if q<i then nV (ed (fW a c) a.n q)else nV 0))) _ (fun q hq=>?_) ?_)
 .have hle:=zQ (fW a c) q;simp only[Tk,Li,un,aj,az];refine bT (dd hq) ?_;refine bs (Da.nO hq) ?_;refine(gu (i:=q) hq).trans ?_;simp only[m8];refine bs (aEu h hq) ?_;have k0:=aEv h hc hq;have kk:∀j,cS .i64 ((gr a c q a.L j:Nat):Int)=true:=fun j=>lZ zG;have aoh:((cS .i64 ((gr a c q a.L 0:Nat):Int)&&(cS .i64 ((gr a c q a.L 1:Nat):Int)&&(cS .i64 ((gr a c q a.L 2:Nat):Int)&&(cS .i64 ((gr a c q a.L 3:Nat):Int)&&(cS .i64 ((gr a c q a.L 4:Nat):Int)&&(cS .i64 ((gr a c q a.L 5:Nat):Int)&&(cS .i64 ((gr a c q a.L 6:Nat):Int)&&true)))))))&&true)=true:=by
   grind
  refine bT aoh ?_;have ek:V.agg [vI (gr a c q a.L 0:Int),vI (gr a c q a.L 1:Int),vI (gr a c q a.L 2:Int),vI (gr a c q a.L 3:Int),vI (gr a c q a.L 4:Int),vI (gr a c q a.L 5:Int),vI (gr a c q a.L 6:Int)]=Ov (fW a c q):=rfl;simp only[un,ek];have e1:=tu adY (fW a c q) (bP (fW a c) q) 0;have fin:∀v,v=nV (ed (fW a c) a.n q)->(tab a.n fun j=>if j<q then nV (ed (fW a c) a.n j)else nV 0).set q v=tab a.n fun j=>if j<q+1 then nV (ed (fW a c) a.n j)else nV 0:=by
   rintro v rfl;rw[m7];grind
  rw[cN zO];by_cases hx:fW a c q∈bP (fW a c) q
  .refine bF zG ?_;refine(gu hq).trans ?_;have e2:=xZ adY (fW a c q) (vI 0) (bP (fW a c) q) 0 hx;rw[dT,<-an8 hq hx]at e2;rw[e2,V.toInt_int,Int.toNat_natCast,show(vI (ed (fW a c) a.n q:Int))=nV (ed (fW a c) a.n q)from rfl,fin _ rfl,adU hx]
  .refine bT zG ?_;refine bT aoh ?_;refine(gu hq).trans ?_;have e2:=ya adY (fW a c q) (bP (fW a c) q) 0 hx;rw[dT]at e2;rw[Hc,e2,Int.toNat_natCast,<-an9 hq hx,show(vI (ed (fW a c) a.n q:Int))=nV (ed (fW a c) a.n q)from rfl,fin _ rfl,UM hx]
 .simp only[Tk,Li,un,aj,az];refine bF (bN (aC _)) ?_;rw[bN (aC _)];have:(tab a.n fun q=>if q<a.n then nV (ed (fW a c) a.n q)else nV 0)=cV a.n (ed (fW a c) a.n):=eK fun q hq=>ai hq;rw[this]
def qU(a:Da):Nat->Nat
 |0=>1
 |i+1=>if a.fin i=a.fin 0 then qU a i else 2
def jX(a:Da)(q:Nat):Nat:=if a.fin q=a.fin 0 then 0 else 1
theorem aEx:(bP (jX a) a.n).length=qU a a.n:=by
 have key:∀m,(bP (jX a) (m+1)=[0]∧qU a (m+1)=1)∨(bP (jX a) (m+1)=[0,1]∧qU a (m+1)=2):=by
  intro m
  induction m with
  |zero=>left;simp[bP,dI,jX,qU]
  |succ m ih=>
   rw[bP,qU];unfold jX dI;by_cases hf:a.fin (m+1)=a.fin 0
   .rw[ai hf,ai hf];rcases ih with⟨i1,i2⟩|⟨i1,i2⟩
    .left;refine⟨?_,i2⟩;unfold jX at i1;grind
    .right;refine⟨?_,i2⟩;unfold jX at i1;grind
   .rw[af hf,af hf];rcases ih with⟨i1,i2⟩|⟨i1,i2⟩
    .right;refine⟨?_,rfl⟩;unfold jX at i1;grind
    .right;refine⟨?_,rfl⟩;unfold jX at i1;grind
 have hs:=h.s;obtain⟨m,hm⟩:∃m,a.n=m+1:=⟨a.n-1,zO⟩
 grind
theorem aEy{k2 k3:Int}{l2:LV}:Loop (Ta CC a.cj (a.cj.length:Int) k2 k3 a.cj l2) (1,0,List.replicate ((((a.cj.length:Nat):Int)).toNat) (vI 0))=some ((qU a a.n:Int),(a.n:Int),false,cV a.n (jX a)):=by
 have hm:=h.dr;have hs:=h.s;rw[Da.sk,Int.toNat_natCast,lB];refine(fe a.n (fun i=>((qU a i:Int),(i:Int),(tab a.n fun q=>if q<i then nV (jX a q)else nV 0))) _ (fun q hq=>?_) ?_)
 .simp only[Ta,Lf,un,aj,az];refine bT (dd hq) ?_;refine bs (Da.qn hq) ?_;refine bs (a:=.bool (a.fin 0)) (by unfold Da.cj;exact fP zO) ?_;rw[cN zO];have fin:(tab a.n fun j=>if j<q then nV (jX a j)else nV 0).set q (nV (jX a q))=tab a.n fun j=>if j<q+1 then nV (jX a j)else nV 0:=by
   rw[m7];grind
  simp only[V.iM];by_cases hf:a.fin q=a.fin 0
  .refine bF zG ?_;have e:qU a (q+1)=qU a q:=by rw[qU,ai hf]
   have e2:(tab a.n fun j=>if j<q then nV (jX a j)else nV 0)=tab a.n fun j=>if j<q+1 then nV (jX a j)else nV 0:=eK fun j _=>by
    by_cases hj:j=q
    .rw[cl,aU,hj];unfold jX;grind
    grind
   rw[e,e2]
  .refine bT zG ?_;refine(gu hq).trans ?_;have e:qU a (q+1)=2:=by rw[qU,af hf]
   have e3:jX a q=1:=by unfold jX;grind
   rw[e3]at fin;rw[e,Int.toNat_natCast,show(vI 1)=nV 1 from rfl,fin];rfl
 .simp only[Ta,Lf,un,aj,az];refine bF (bN (aC _)) ?_;rw[bN (aC _)];have:(tab a.n fun q=>if q<a.n then nV (jX a q)else nV 0)=cV a.n (jX a):=eK fun q hq=>ai hq;rw[this]
theorem aEz{k2 k3:Int}{l2:LV}:∃p,Loop (Lt CC k2 k3 l2 a.bL) ((qU a a.n:Int),cV a.n (jX a))=some (cV a.n p)∧a.Eg p∧∀q,q<a.n->p q<=1000:=by
 have hm:=h.dr;have:=X5 (step:=Lt CC k2 k3 l2 a.bL)
  (fun x=>∃c,x=(((bP c a.n).length:Int),cV a.n c)∧a.Part c∧∀q,q<a.n->c q<=1000)
  (fun x=>a.n-x.1.toNat)
  (fun r=>∃p,r=cV a.n p∧a.Eg p∧∀q,q<a.n->p q<=1000) (fun x hx=>?_) ((qU a a.n:Int),cV a.n (jX a)) ⟨jX a,by rw[aEx h],⟨?_,?_⟩,?_⟩
 .grind
 .obtain⟨c,rfl,hp,hc⟩:=hx;have hl:(cV a.n c).length=a.n:=by simp[cV]
  have uG:a.UN c (ed (fW a c) a.n):=fun q q' hq eD=>(Oq hq eD).trans (adZ h)
  have hle:=zQ (fW a c) a.n;have hb:∀q,q<a.n->ed (fW a c) a.n q<=1000:=fun q hq=>by have:=Oo (g:=fW a c) hq;omega
  have Hk:∀q q',q<a.n->q'<a.n->fW a c q=fW a c q'->c q=c q':=fun q q' hq eD e=>(Da.Ef.1 ((adZ h).1 e)).1;have aEA:=aob Hk;have cr:=aEw h hc (k1:=((bP c a.n).length:Int)) (k2:=k2) (k3:=k3) (l2:=l2);by_cases he:(bP (fW a c) a.n).length=(bP c a.n).length
  .right;refine⟨_,?_,ed (fW a c) a.n,rfl,⟨fun q q' hq eD=>?_,adV _ _⟩,hb⟩
   .simp only[Lt,Lr,un];refine bT (by rw[hl];exact lC zO zO) ?_;refine bs cr ?_;refine bT (by rw[Hc];simp[he]) ?_;rfl
   .have cv:=adW Hk zO;rw[Oq hq eD,<-hp.aoc h (fun s s' hs AR e=>(adZ h).1 (cv s s' hs AR e)) q q' hq eD];grind
  .left;have e2:(bP (ed (fW a c) a.n) a.n).length=(bP (fW a c) a.n).length:=by rw[aoa _ _ _ (aC _),List.length_range]
   refine⟨(((bP (fW a c) a.n).length:Int),cV a.n (ed (fW a c) a.n)),?_,⟨ed (fW a c) a.n,by rw[e2],uG.part h hp,hb⟩,?_⟩
   .simp only[Lt,Lr,un];refine bT (by rw[hl];exact lC zO zO) ?_;refine bs cr ?_;refine bF (by rw[Hc];grind) ?_;rw[Hc]
   omega
 .intro q q' hq eD he;have:=he [] WL.nil;rw[Da.qT,Da.qT]at this;unfold jX;rw[this]
 .intro q q' hq eD he;unfold jX at he;split at he<;>split at he
  .grind
  .omega
  .omega
  .rename_i h1 h2;revert h1 h2;cases a.fin q<;>cases a.fin q'<;>cases a.fin 0<;>simp
 .intro q _;unfold jX;grind
theorem aEB:∃p,CC 128 (dM a)=some [aR (cV a.n p)]∧a.Eg p∧∀q,q<a.n->p q<=1000:=by
 have hm:=h.dr;obtain⟨p,h1,h2,h3⟩:=aEz h (k2:=(a.L:Int)) (k3:=(a.st:Int)) (l2:=a.cj);refine⟨p,awn ?_,h2,h3⟩;unfold ak0;refine bs (vX h) ?_;refine bF rfl ?_;refine bT (by rw[Da.sk];exact lC zO zO) ?_;refine bs (aEy h) ?_;refine bs h1 ?_;rfl
end
theorem aEC{p:Nat->Nat}{n:Nat}(h:uF p n)(hn:0<n):p 0=0:=by
 simpa[bP,dI]using h 1 zO
theorem ad0{p:Nat->Nat}{n i:Nat}(h:uF p n)(hi:i<n):p i∈bP p i↔p i<(Da.gx p i).length:=by
 rw[Da.Hh];constructor
 .intro hm;rw[h i zO]at hm;grind
 .intro hm;rw[h i zO];grind
theorem aoi(p:Nat->Nat)(n:Nat):(Da.gx p n).length<=n:=by rw[Da.Hh];exact zQ p n
def qF(a:Da)(p:Nat->Nat)(i:Nat):LV:=(Da.gx p i).map fun r=>V.bool (a.fin r)
def qN(a:Da)(p:Nat->Nat)(i:Nat):LV:=(Da.gx p i).map fun r=>ff a.L fun x=>p (a.nx r x)
theorem aoj{a:Da}{p:Nat->Nat}:(a.quo p).cj=qF a p a.n∧(a.quo p).bL=qN a p a.n:=by
 constructor
 .unfold Da.cj qF;rw[Hb _ 0,Da.BB];exact eK fun i hi=>by rw[Da.aod hi,jf hi]
 .unfold Da.bL qN;rw[Hb _ 0,Da.BB];refine eK fun i hi=>?_;unfold ff;exact congrArg _ (eK fun x hx=>by rw[Da.aoe hi hx,jf hi])
section
variable {a:Da}(h:a.Ok){p:Nat->Nat}
include h
theorem aED{q:Nat}(hq:q<a.n){k1 k2 k3 k4 k5 k6 k7 k8 k9 k10 k11:Int}{l1 l2 l3 l4 l5 l6 l7 l8 l9:LV}:
  Loop (Tn CC k1 k2 k3 (tab a.L fun x=>iV (a.nx q x)) ((tab a.L fun x=>iV (a.nx q x)).length:Int) k4 k5 l1 l2 k6 k7 k8 k9 l3 (cV a.n p) k10 k11 l4 l5 l6 l7 l8 l9) (0,List.replicate (((a.L:Nat):Int).toNat) (vI 0))=
   some ((a.L:Int),false,(tab a.L fun x=>nV (p (a.nx q x)))):=by
 have h6:=h.l6;rw[dJ,Int.toNat_natCast,lB];refine(fe a.L (fun t=>((t:Int),(tab a.L fun x=>if x<t then nV (p (a.nx q x))else nV 0))) _ (fun t ht=>?_) ?_)
 .simp only[Tn,Lu,un,aj,az];refine bT (dd ht) ?_;refine bs (pE ht) ?_;refine(gu (i:=a.nx q t) (h.gn hq ht)).trans ?_;refine(gu ht).trans ?_;rw[cN zO,Int.toNat_natCast,m7];refine congrArg (fun x=>some (Sum.inl (((t+1:Nat):Int),x))) (eK fun j _=>?_);by_cases hj:j=t
  .rw[ai hj,aU,hj];rfl
  grind
 .simp only[Tn,Lu,un,aj,az];refine bF (bN (aC _)) ?_;rw[bN (aC _)];refine congrArg (fun x=>some (Sum.inr ((a.L:Int),false,x))) (eK fun j hj=>ai hj)
theorem aEE(ho:uF p a.n){k3 k4 k5 k6 k7 k8 k9:Int}{l1 l2 l3 l4 l5:LV}:
  Loop (To CC ((cV a.n p).length:Int) (a.L:Int) k3 l1 l2 k4 k5 k6 k7 l3 (cV a.n p) k8 k9 l4 l5 a.cj a.bL) (0,([]:LV),([]:LV))=
   some ((a.n:Int),false,qF a p a.n,qN a p a.n):=by
 have h6:=h.l6;have hm:=h.dr;rw[show(cV a.n p).length=a.n by simp[cV]];refine(fe a.n (fun i=>((i:Int),qF a p i,qN a p i)) _ (fun q hq=>?_) ?_)
 .have hle:=aoi p q;have hF:(qF a p q).length=(Da.gx p q).length:=by simp[qF]
  have hN:(qN a p q).length=(Da.gx p q).length:=by simp[qN]
  simp only[To,Lv,un,aj];refine bT (dd hq) ?_;refine(gu (i:=q) hq).trans ?_;rw[cN zO];simp only[nV,V.toInt_int];by_cases hx:p q∈bP p q
  .refine bT (bQ (by rw[hF];have:=(ad0 ho hq).1 hx;omega)) ?_;unfold qF qN;rw[Da.gx,ai hx]
  .refine bF (bX (by rw[hF];intro h2;exact hx ((ad0 ho hq).2 zO))) ?_;refine bT (lC zO zO) ?_;refine(gu (i:=q) hq).trans ?_;simp only[m8];refine bs (aED h hq) ?_;refine(gu (i:=q) hq).trans ?_;refine bT (cap zG zO) ?_;refine bT (cap zG zO) ?_;unfold qF qN;rw[Da.gx,af hx,sC,sC];rfl
 .simp only[To,Lv,un,aj];grind
end
def zR(U U':LN)(p:Nat->Nat)(q:Nat):V:=if q∈U then iV ((if p (U.idxOf q)∈U' then nV (U'.idxOf (p (U.idxOf q)))else vI (-1)).toInt)else vI (-1)
theorem aEF{n m k:Nat}{U U':LN}{p:Nat->Nat}(hn:n<=512)(hU:U.length<=m)(hp:∀q,q<m->p q<k){k1 k2 k3 k4:Int}{l1 l2 l3 l4:LV}:
  ∃X,Loop (Tr CC ((nP U n).length:Int) k1 k2 (cV m p) k3 k4 (nP U' k) (nP U n) l1 l2 l3 l4) (0,List.replicate ((((nP U n).length:Int):Int).toNat) (vI 0))=some ((n:Int),false,X):=by
 rw[show(nP U n).length=n by simp[nP],Int.toNat_natCast,lB];refine⟨tab n fun q=>if q<n then zR U U' p q else vI 0,fe n (fun i=>((i:Int),(tab n fun q=>if q<i then zR U U' p q else vI 0))) _ (fun q hq=>?_) ?_⟩
 .simp only[Tr,Lw,un,aj,az];refine bT (dd hq) ?_;refine(gu (i:=q) hq).trans ?_;refine(gu (i:=q) hq).trans ?_;rw[cN zO];have fin:∀v,v=zR U U' p q->((tab n fun j=>if j<q then zR U U' p j else vI 0).set q v)=tab n fun j=>if j<q+1 then zR U U' p j else vI 0:=by
   rintro v rfl;rw[m7];grind
  by_cases hx:q∈U
  .have es:zR U U' p q=iV ((if p (U.idxOf q)∈U' then nV (U'.idxOf (p (U.idxOf q)))else vI (-1)).toInt):=by unfold zR;grind
   have hi:=Pj hx;rw[ai hx];refine bT (bQ (by simp only[nV,V.toInt_int];omega)) ?_;simp only[nV,V.toInt_int];refine(gu (i:=U.idxOf q) zO).trans ?_;simp only[nV,V.toInt_int];refine(gu (i:=p (U.idxOf q)) (hp _ zO)).trans ?_;simp_all
  .rw[af hx];refine bF (bX zS) ?_;rw[Int.toNat_natCast,<-fin _ (show vI (-1)=zR U U' p q by unfold zR;grind)]
 .simp only[Tr,Lw,un,aj,az];grind
theorem Canon.congr{m:Da}{L:Nat}{K K':LN->Bool}(h:m.Canon L K)(e:∀w,WL L w->K w=K' w):m.Canon L K':=⟨h.ok,h.hL,h.st,h.num,h.red,fun w hw=>(h.dv w hw).trans (e w hw)⟩
theorem aEG{a:Da}(h:a.Ok):∃m X,CC 113 (dM a)=some (dM m++[aR X])∧m.Canon a.L (a.acc a.st):=by
 have ht:=h.anS;have hm:=h.dr;have hle:=h.uD a.n;have e3:a.trim.n=(ao a.L a.nx a.st a.n).length:=ql;obtain⟨p,c1,c2,c3⟩:=aEB ht;have hq:=Da.adX ht c2;obtain⟨q1,q2⟩:=aoj (a:=a.trim) (p:=p);have aEH:=Da.aof ht c2;have cv:(a.trim.quo p).st=0:=aEC c2.2 ht.s;have htr:=an7 hq;obtain⟨X,hX⟩:=aEF (n:=a.n) (m:=a.trim.n) (k:=(a.trim.quo p).n) (U:=ao a.L a.nx a.st a.n) (U':=ao (a.trim.quo p).L (a.trim.quo p).nx (a.trim.quo p).st (a.trim.quo p).n) (p:=p) hm zO (fun q hq=>by rw[Da.BB];exact Da.Ou c2.2 hq) (k1:=0) (k2:=0) (k3:=((a.trim.quo p).trim.L:Int)) (k4:=((a.trim.quo p).trim.st:Int)) (l1:=[]) (l2:=[]) (l3:=(a.trim.quo p).trim.cj) (l4:=(a.trim.quo p).trim.bL);refine⟨(a.trim.quo p).trim,X,awt ?_,Canon.congr aEH fun w hw=>h.anT hw⟩;unfold ak2;refine bs (an7 h) ?_;refine bs c1 ?_;refine bs (aEE ht c2.2) ?_;simp only[un];rw[<-q1,<-q2];have aEI:CC 127 [vI a.L,vI 0,aB (a.trim.quo p).cj,aE (a.trim.quo p).bL]=some (dM (a.trim.quo p).trim++[aR (nP (ao (a.trim.quo p).L (a.trim.quo p).nx (a.trim.quo p).st (a.trim.quo p).n) (a.trim.quo p).n)]):=by
  rw[<-htr];unfold dM eG;rw[cv];rfl
 refine bs aEI ?_;have e0:(nP (ao a.L a.nx a.st a.n) a.n).length=a.n:=by simp[nP]
 refine bT (show((decide (0<=((nP (ao a.L a.nx a.st a.n) a.n).length:Int)))&&((decide (((nP (ao a.L a.nx a.st a.n) a.n).length:Int)<=((nP (ao a.L a.nx a.st a.n) a.n).length:Int)))&&(Nat.ble (((((nP (ao a.L a.nx a.st a.n) a.n).length:Nat):Int).toNat)*8) br)))=true from lC zO zO) ?_;refine bs hX ?_;rfl
theorem aok{a:Da}(h:a.Ok):∃m,CC 100 (dM a)=some (dM m)∧m.Canon a.L (a.acc a.st):=by
 obtain⟨m,X,h1,h2⟩:=aEG h;refine⟨m,awu ?_,h2⟩;unfold ak4;refine bs (vX h) ?_;refine bF rfl ?_;refine bs h1 ?_;rfl
open Classical in
noncomputable def minD(a:Da):Da:=if h:∃m:Da,m.Canon a.L (a.acc a.st)then Classical.choose h else a
theorem zT{a:Da}(h:a.Ok):(minD a).Canon a.L (a.acc a.st):=by
 obtain⟨m,_,h2⟩:=aok h;have:∃m:Da,m.Canon a.L (a.acc a.st):=⟨m,h2⟩
 unfold minD;grind
theorem Hl{a m:Da}(h:a.Ok)(hm:m.Canon a.L (a.acc a.st)):m=minD a:=hm.eq (zT h)
theorem Ow{a:Da}(h:a.Ok):CC 100 (dM a)=some (dM (minD a)):=by
 obtain⟨m,h1,h2⟩:=aok h;rw[h1,Hl h h2]
def v5(n:Nat)(S:LN):LV:=tab n fun q=>V.bool (decide (q∈S))
def UQ(S:LN)(ws:List (List UInt8)):Prop:=ws.length=S.length∧∀j (hj:j<ws.length),ws[j].length<=j
section
variable {a:Da}(h:a.Ok)
include h
theorem aEJ{S:LN}{i:Nat}(hi:i<S.length)(hS:∀s∈S,s<a.n)(hSn:S.length<=1000){ws:List (List UInt8)}(hw:UQ S ws){l2:LV}{c1:Int}:
  ∃r,Loop (Lx CC (i:Int) (a.L:Int) c1 l2 a.bL) (0,nS S,ws.map V.str,v5 a.n S)=some r∧∃kZ,r=((a.L:Int),false,nS (aT a.nx S S[i] a.L),List.map V.str kZ,v5 a.n (aT a.nx S S[i] a.L))∧UQ (aT a.nx S S[i] a.L) kZ:=by
 have h6:=h.l6;have hq:=hS _ (gC hi);have hlen:∀x,(aT a.nx S S[i] x).length<=S.length+x:=by
  intro x
  induction x with
  |zero=>exact aC _
  |succ x ih=>rw[aT,tq];split<;>omega
 refine qm (fun x st=>∃kZ,st=((x:Int),nS (aT a.nx S S[i] x),List.map V.str kZ,v5 a.n (aT a.nx S S[i] x))∧UQ (aT a.nx S S[i] x) kZ) _ a.L 0 _ (fun x _ hx st cv=>?_) (fun st cv=>?_) ⟨ws,rfl,hw⟩
 .obtain⟨kZ,rfl,pe⟩:=cv;rw[dT]at hx;have hT:=hlen x;have kV:=Og (next:=a.nx) S S[i] x;have hiT:i<(aT a.nx S S[i] x).length:=gU hi kV.length_le;have Hm:(aT a.nx S S[i] x)[i]=S[i]:=(kV.getElem hi).symm;have yR:=h.gn hq hx;have hm:=h.dr;by_cases wO:a.nx S[i] x∈aT a.nx S S[i] x
  .have e:aT a.nx S S[i] (x+1)=aT a.nx S S[i] x:=by rw[aT];unfold dI;rw[ai wO]
   refine⟨_,?_,kZ,rfl,by rw[e];exact pe⟩;simp only[Lx,GB,un,aj,az];refine bT (dd hx) ?_;refine(cK (Hg hiT)).trans ?_;rw[Hm];refine bs (Da.nO hq) ?_;simp only[m8];refine bs (pE hx) ?_;refine(gu (i:=a.nx S[i] x) yR).trans ?_;refine bF (by simp[wO]) ?_;rw[cN zO,e]
  .have e:aT a.nx S S[i] (x+1)=aT a.nx S S[i] x++[a.nx S[i] x]:=by rw[aT];unfold dI;rw[af wO]
   have hiW:i<kZ.length:=by rw[pe.1];exact hiT
   have hwi:=pe.2 i hiW;refine⟨(((x+1:Nat):Int),nS (aT a.nx S S[i] (x+1)),List.map V.str (kZ++[kZ[i]++oX [.int .u8 (IntKind.wrap .u8 (wI (97+(x:Int))))]]),v5 a.n (aT a.nx S S[i] (x+1))),?_,_,rfl,?_⟩
   .simp only[Lx,GB,un,aj,az];refine bT (dd hx) ?_;refine(cK (Hg hiT)).trans ?_;rw[Hm];refine bs (Da.nO hq) ?_;simp only[m8];refine bs (pE hx) ?_;refine(gu (i:=a.nx S[i] x) yR).trans ?_;refine bT (by simp[wO]) ?_;refine(gu (i:=a.nx S[i] x) yR).trans ?_;refine bT (cap (by rw[vY];simp;omega) zO) ?_;refine(cK (v:=.str kZ[i]) (by simp[hiW])).trans ?_;refine bT (by
     rw[gg];simp only[V.toStr,oX,cu,List.length_cons,List.length_nil,Pu];omega) ?_
    refine bT (cap (by rw[cu,pe.1];simp;omega) zO) ?_;rw[cN zO,e];refine congrArg (fun x=>some (Sum.inl x)) (iD rfl (iD ?_ (iD ?_ ?_)))
    .simp[nS,nV]
    .simp[V.toStr]
    .show(v5 a.n (aT a.nx S S[i] x)).set _ _=v5 a.n _;unfold v5;rw[V.toInt_int,Int.toNat_natCast,m7];refine eK fun j _=>?_;by_cases hj:j=a.nx S[i] x
     .rw[ai hj,bQ (by rw[hj];simp)]
     .rw[af hj];congr 1;rw[yv,gh,oc];exact⟨.inl,fun h=>h.resolve_right hj⟩
   .rw[e];refine⟨by simp[pe.1],fun j hj=>?_⟩;rw[dQ,List.length_singleton]at hj;rcases iQ j kZ.length with c|c
    .rw[Pl c];exact pe.2 j c
    .rw[List.getElem_append_right c];simp only[List.getElem_singleton,dQ,oX,cu,List.length_cons,List.length_nil];omega
 .obtain⟨kZ,rfl,pe⟩:=cv;rw[dT]at*
  refine⟨_,?_,kZ,rfl,pe⟩;simp only[Lx,GB,un,aj,az];refine bF (bN (aC _)) ?_;rw[bN (aC _)]
theorem aEK:∃W,CC 85 (dM a)=some [aR (nS (ao a.L a.nx a.st a.n)),W]:=by
 have hm:=h.dr;have hd:=h.uD a.n;have key:∃r,Loop (Ts CC (a.L:Int) (a.st:Int) a.cj a.bL) (0,nS [a.st],[[]].map V.str,v5 a.n [a.st])=some r∧∃kZ,r=(((ao a.L a.nx a.st a.n).length:Int),false,nS (ao a.L a.nx a.st a.n),List.map V.str kZ,v5 a.n (ao a.L a.nx a.st a.n)):=by
  refine qm (fun i st=>∃kZ,st=((i:Int),nS (ao a.L a.nx a.st i),List.map V.str kZ,v5 a.n (ao a.L a.nx a.st i))∧UQ (ao a.L a.nx a.st i) kZ) _ (ao a.L a.nx a.st a.n).length 0 _ (fun i _ hi st cv=>?_) (fun st cv=>?_) ⟨[[]],rfl,⟨rfl,fun j hj=>by simp at hj;subst hj;simp⟩⟩
  .obtain⟨kZ,rfl,pe⟩:=cv;rw[dT]at hi;have fH:=Bz hd hi;have vZ:(ao a.L a.nx a.st i)[i]=(ao a.L a.nx a.st a.n)[i]:=(mY (show i<=a.n by omega)).getElem fH;have hlen:(ao a.L a.nx a.st i).length<=512:=mD (h.uD i) hm;have iL:=Ea hd hi;obtain⟨r,h1,ws2,rfl,h3⟩:=aEJ h fH (h.Ee i) zO pe (l2:=a.cj) (c1:=(a.st:Int));rw[vZ,<-iL]at h1 h3;refine⟨_,?_,ws2,rfl,h3⟩;simp only[Ts,Ly,un];refine bT (bQ (by rw[vY];omega)) ?_;refine bs h1 ?_;rw[cN zO];rfl
  .obtain⟨kZ,rfl,pe⟩:=cv;rw[dT,Ec hd]at*
   refine⟨_,?_,kZ,rfl⟩;simp only[Ts,Ly,un];rw[vY];refine bF (bN (aC _)) ?_;rw[bN (aC _)]
 obtain⟨r,h1,kZ,rfl⟩:=key;refine⟨.list 9 (kZ.map V.str),awC ?_⟩;unfold ak6 aj az;rw[Da.sk,Int.toNat_natCast,lB];refine bT (by have:=lC (n:=a.n) (m:=1) zO zO;rwa [Int.toNat_natCast]at this) ?_;refine(gu (i:=a.st) h.s).trans ?_;have e:(tab a.n fun _=>V.bool false).set (((a.st:Nat):Int).toNat) (.bool true)=v5 a.n [a.st]:=by
  rw[Int.toNat_natCast,m7];refine eK fun j _=>?_;by_cases hj:j=a.st
  .rw[ai hj,bQ (by rw[hj];simp)]
  .rw[af hj,bX (by simpa using hj)]
 rw[e];refine bs h1 ?_;rfl
theorem aEL{q:Nat}(hq:q<a.n)(hU:∀x,x<a.L->a.nx q x∈ao a.L a.nx a.st a.n){c1 c2 c3 c4 c5 c6 c7 c8 c9:Int}{l1 l2 l3 l4 l5 l6 l7:LV}:
  Loop (Tv CC c1 c2 c3 (tab a.L fun x=>iV (a.nx q x)) ((tab a.L fun x=>iV (a.nx q x)).length:Int) c4 c5 l1 l2 c6 c7 (nP (ao a.L a.nx a.st a.n) a.n) c8 c9 l3 l4 l5 l6 l7) (0,([]:LV))=
   some ((a.L:Int),false,tab a.L fun x=>nV ((ao a.L a.nx a.st a.n).idxOf (a.nx q x))):=by
 have h6:=h.l6;rw[dJ];refine(fe a.L (fun t=>((t:Int),(tab t fun x=>nV ((ao a.L a.nx a.st a.n).idxOf (a.nx q x))))) _ (fun t ht=>?_) ?_)
 .simp only[Tv,LC,un];refine bT (dd ht) ?_;refine bs (pE ht) ?_;refine(gu (i:=a.nx q t) (h.gn hq ht)).trans ?_;refine bT (cap (by rw[dJ];simp;omega) zO) ?_;rw[cN zO,ai (hU t ht),iz];rfl
 .simp only[Tv,LC,un];refine bF (bN (aC _)) ?_;rw[bN (aC _)]
theorem aEM:CC 61 (dM a)=some (dM a.trim++[aR (nP (ao a.L a.nx a.st a.n) a.n)]):=by
 have h6:=h.l6;have hm:=h.dr;have hU:=h.Ee a.n;have hle:=h.uD a.n;obtain⟨W,hW⟩:=aEK h;refine awI ?_;unfold ak8;refine bs hW ?_;rw[Da.sk];refine bT (lC zO zO) ?_;rw[Int.toNat_natCast,lB,dJ];have row:=fun {q:Nat}(hq:q<a.n) hU=> @aEL a h q hq hU;have e1:∀{i:Nat}(hi:i<(ao a.L a.nx a.st a.n).length),a.trim.fin i=a.fin (ao a.L a.nx a.st a.n)[i]:=fun hi=>Eb hi;have e2:∀{i:Nat}(hi:i<(ao a.L a.nx a.st a.n).length),ff a.L (a.trim.nx i)=aR (tab a.L fun x=>nV ((ao a.L a.nx a.st a.n).idxOf (a.nx (ao a.L a.nx a.st a.n)[i] x))):=fun hi=>by
  unfold ff;refine congrArg _ (eK fun x hx=>?_);rw[show a.trim.nx _ x=_ from zM hi hx];rfl
 have e3:a.trim.n=(ao a.L a.nx a.st a.n).length:=ql;have rF:∀q∈ao a.L a.nx a.st a.n,∀x,x<a.L->a.nx q x∈ao a.L a.nx a.st a.n:=fun q hq x hx=>adJ hle hq hx;have hUn:(ao a.L a.nx a.st a.n).Nodup:=D9 _;have er:a.trim.cj=(tab (ao a.L a.nx a.st a.n).length fun i=>V.bool (a.trim.fin i)):=by unfold Da.cj;rw[e3]
 have en:a.trim.bL=(tab (ao a.L a.nx a.st a.n).length fun i=>ff a.L (a.trim.nx i)):=by unfold Da.bL;rw[e3];rfl
 have eL:a.trim.L=a.L:=rfl;unfold dM eG;rw[er,en,eL];generalize ao a.L a.nx a.st a.n=U at*
 have l1:∀{c1 c2 c3 c4:Int}{s1 s2 s3 s4 s5:LV},Loop (Tt CC (a.n:Int) c1 c2 s1 s2 c3 c4 s3 s4 s5) (0,tab a.n fun _=>vI 0)=some ((a.n:Int),false,tab a.n fun q=>if q∈U.take 0 then nV (U.idxOf q)else vI (-1)):=by
  intro c1 c2 c3 c4 s1 s2 s3 s4 s5;refine(fe a.n (fun i=>((i:Int),(tab a.n fun j=>if j<i then vI (-1)else vI 0))) _ (fun i hi=>?_) ?_)
  .simp only[Tt,LA,un,aj,az];refine bT (dd hi) ?_;refine(gu hi).trans ?_;rw[cN zO,Int.toNat_natCast,m7];refine congrArg (fun x=>some (Sum.inl (((i+1:Nat):Int),x))) (eK fun j _=>?_);by_cases hj:j=i
   .rw[ai hj,aU]
   .rw[af hj];by_cases gm:j<i
    .rw[ai gm,aU]
    .rw[af gm,cl]
  .simp only[Tt,LA,un,aj,az];refine bF (bN (aC _)) ?_;rw[bN (aC _)];refine congrArg (fun x=>some (Sum.inr ((a.n:Int),false,x))) (eK fun j hj=>?_);rw[ai hj,List.take_zero,af zS]
 refine bs l1 ?_;simp only[un];have l2:∀{c1 c2 c3 c4:Int}{s1 s2 s3 s4:LV},Loop (Tu CC ((nS U).length:Int) c1 c2 s1 s2 c3 c4 (nS U) s3 s4) (0,tab a.n fun q=>if q∈U.take 0 then nV (U.idxOf q)else vI (-1))=some ((U.length:Int),false,nP U a.n):=by
  intro c1 c2 c3 c4 s1 s2 s3 s4;rw[vY];refine(fe U.length (fun i=>((i:Int),(tab a.n fun q=>if q∈U.take i then nV (U.idxOf q)else vI (-1)))) _ (fun i hi=>?_) ?_)
  .have hq:=hU U[i] (gC hi);simp only[Tu,LB,un,aj,az];refine bT (dd hi) ?_;refine(cK (Hg hi)).trans ?_;refine(gu (i:=U[i]) hq).trans ?_;rw[cN zO];refine congrArg (fun x=>some (Sum.inl (((i+1:Nat):Int),x))) ?_;exact an6 hUn hi
  .simp only[Tu,LB,un,aj,az];refine bF (bN (aC _)) ?_;rw[bN (aC _),ym];rfl
 refine bs l2 ?_;have l4:∀{c1 c2 c3 c4:Int}{s1 s2:LV},Loop (Tx CC ((nS U).length:Int) (a.L:Int) (a.st:Int) a.cj a.bL c1 c2 (nP U a.n) c3 c4 (nS U) s1 s2) (0,([]:LV),([]:LV))=some ((U.length:Int),false,(tab U.length fun i=>V.bool (a.trim.fin i)),(tab U.length fun i=>ff a.L (a.trim.nx i))):=by
  intro c1 c2 c3 c4 s1 s2;rw[vY];refine(fe U.length (fun i=>((i:Int),(tab i fun i=>V.bool (a.trim.fin i)),(tab i fun i=>ff a.L (a.trim.nx i)))) _ (fun i hi=>?_) ?_)
  .have hq:=hU U[i] (gC hi);simp only[Tx,LD,un,aj];refine bT (dd hi) ?_;refine(cK (Hg hi)).trans ?_;refine bs (Da.nO hq) ?_;simp only[m8];refine bs (row hq (rF _ (gC hi))) ?_;refine bT (cap (by rw[dJ];simp;omega) zO) ?_;refine bs (Da.qn hq) ?_;refine bT (cap (by rw[dJ];simp;omega) zO) ?_;rw[cN zO,iz,iz,e1 hi,e2 hi];rfl
  .simp only[Tx,LD,un,aj];refine bF (bN (aC _)) ?_;rw[bN (aC _)]
 refine bs l4 ?_;rfl
end
theorem Ej{n:Nat}{c:Nat->Nat}:(cV n c).length=n:=by simp[cV]
theorem zU{n q:Nat}{c:Nat->Nat}(h:q<n):idx (cV n c) (q:Int)=some (nV (c q)):=nM h
theorem UR{n q:Nat}{f:Nat->V}{z v:V}(hv:v=f q):(tab n fun j=>if j<q then f j else z).set q v=tab n fun j=>if j<q+1 then f j else z:=by
 rw[hv,m7];refine eK fun j _=>?_;by_cases hj:j=q
 .rw[ai hj,aU,hj]
 .rw[af hj];by_cases gm:j<q
  .rw[ai gm,aU]
  .rw[af gm,cl]
theorem ad1{n:Nat}{f:Nat->V}{z:V}:(tab n fun j=>if j<n then f j else z)=tab n f:=eK fun j hj=>ai hj
theorem aol{n:Nat}{g:Nat->Nat}(hn:n<=1000)(hg:∀q,q<n->g q<=1000000000):CC 82 [aR (cV n g)]=some [aR (cV n (ed g n))]:=by
 refine awP ?_;unfold alb;rw[Ej];refine bT (lC zO zO) ?_;rw[Int.toNat_natCast,lB];refine bs (fe n (fun i=>((i:Int),jg nV 0 (bP g i),(tab n fun q=>if q<i then nV (ed g n q)else nV 0))) ((n:Int),false,jg nV 0 (bP g n),cV n (ed g n)) (fun q hq=>?_) ?_) ?_
 .have hle:=zQ g q;simp only[abZ,LG,un,aj,az];refine bT (dd hq) ?_;refine bs (zU hq) ?_;have hk:cS .i64 (g q:Int)=true:=lZ (by have:=hg q hq;omega);refine bT (by simp only[nV,V.toInt_int,hk,H4]) ?_;have e1:=tu Hf (g q) (bP g q) 0;rw[cN zO];simp only[nV,V.toInt_int];rw[show(vI (g q:Int))=nV (g q)from rfl];by_cases hx:g q∈bP g q
  .refine bF (by rw[show fi (nV (g q)) _=_ from e1];simpa using hx) ?_;refine(gu hq).trans ?_;have e2:=xZ Hf (g q) (vI 0) (bP g q) 0 hx;rw[dT,<-an8 hq hx]at e2;rw[show gV (nV (g q)) _ (vI 0)=_ from e2,V.toInt_int,Int.toNat_natCast,adU hx];exact congrArg (fun x=>some (Sum.inl (((q+1:Nat):Int),jg nV 0 (bP g q),x))) (UR (f:=fun j=>nV (ed g n j)) rfl)
  .refine bT (by rw[show fi (nV (g q)) _=_ from e1];simpa using hx) ?_;refine bT (by simp only[hk,H4]) ?_;refine(gu hq).trans ?_;have e2:=ya Hf (g q) (bP g q) 0 hx;rw[dT]at e2;rw[show List.length (jg nV 0 (bP g q))=(bP g q).length from Hc _ _,show fj (nV (g q)) _ _=_ from e2,Int.toNat_natCast,<-an9 hq hx,UM hx];exact congrArg (fun x=>some (Sum.inl (((q+1:Nat):Int),jg nV 0 (bP g q++[g q]),x))) (UR (f:=fun j=>nV (ed g n j)) rfl)
 .simp only[abZ,LG,un,aj,az];refine bF (bN (aC _)) ?_;rw[bN (aC _)];exact congrArg (fun x=>some (Sum.inr ((n:Int),false,jg nV 0 (bP g n),x))) (ad1 (f:=fun j=>nV (ed g n j)))
 .rfl
def qV(n:Nat)(p q:Nat->Nat)(i:Nat):Nat:=p i*(n+1)+q i
theorem aEN{n:Nat}{p q:Nat->Nat}(hn:n<=512)(hp:∀i,i<n->p i<=1000)(hq:∀i,i<n->q i<=1000):CC 83 [aR (cV n p),aR (cV n q)]=some [aR (cV n (ed (qV n p q) n))]:=by
 have hb:∀i,i<n->qV n p q i<=1000000000:=fun i hi=>by
  have h1:=hp i hi;have h2:=hq i hi;have:=Nat.mul_le_mul h1 (show n+1<=513 by omega);unfold qV;omega
 refine awT ?_;unfold alc;rw[Ej];refine bT (lC zO zO) ?_;rw[Int.toNat_natCast,lB];refine bs (fe n (fun i=>((i:Int),(tab n fun j=>if j<i then nV (qV n p q j)else nV 0))) ((n:Int),false,cV n (qV n p q)) (fun i hi=>?_) ?_) ?_
 .simp only[ab0,LH,un,aj,az];refine bT (dd hi) ?_;refine bs (zU hi) ?_;refine bs (zU hi) ?_;refine(gu hi).trans ?_;have h1:=hp i hi;have h2:=hq i hi;have h3:=hb i hi;have h4:wI ((wI ((wI (((cV n p).length:Int)+1))*(p i:Int)))+(q i:Int))=(qV n p q i:Int):=by
   rw[Ej,cN zO];have e:((n+1:Nat):Int)*(p i:Int)=((p i*(n+1):Nat):Int):=by rw[oU];push_cast;rfl
   unfold qV at*
   rw[e];have h5:p i*(n+1)<=1000000000:=zO;generalize p i*(n+1)=z at*
   rw[wrap64 (x:=(z:Int)) zO zO,dk]
   push_cast;rfl
  simp only[nV,V.toInt_int];rw[h4,cN zO,Int.toNat_natCast];exact congrArg (fun x=>some (Sum.inl (((i+1:Nat):Int),x))) (UR (f:=fun j=>nV (qV n p q j)) rfl)
 .simp only[ab0,LH,un,aj,az];refine bF (bN (aC _)) ?_;rw[bN (aC _)];exact congrArg (fun x=>some (Sum.inr ((n:Int),false,x))) (ad1 (f:=fun j=>nV (qV n p q j)))
 .simp only[un];refine bs (aol zO hb) ?_;rfl
theorem aom{n:Nat}{p q:Nat->Nat}(hn:n<=1000):CC 84 [aR (cV n p),aR (cV n q)]=some [.bool (decide (∀i,i<n->p i=q i))]:=by
 refine awL ?_;unfold ala;rw[Ej,Ej];refine bF zS ?_;refine bs (Bx (fun i=>p i=q i) n (fun i=>(i:Int)) (.inl false:Bool⊕(Int×Bool)) (.inr ((n:Int),false)) (fun i hi=>?_) ?_) ?_
 .simp only[abY,LF];refine bT (dd hi) ?_;refine bs (zU hi) ?_;refine bs (zU hi) ?_;simp only[nV,V.toInt_int];by_cases h:p i=q i
  .refine bF (by simp[h]) ?_;rw[ai h,cN zO]
  .refine bT (by simp;omega) ?_;rw[af h]
 .simp only[abY,LF];refine bF (bN (aC _)) ?_;rw[bN (aC _)]
 .by_cases h:∀i,i<n->p i=q i
  .rw[ai h,bQ h];rfl
  .rw[af h,bX h];rfl
theorem aEO{n:Nat}{p q:Nat->Nat}{i j:Nat}(hi:q i<=n)(hj:q j<=n):qV n p q i=qV n p q j↔p i=p j∧q i=q j:=by
 unfold qV;constructor
 .intro h;have h1:(p i*(n+1)+q i)/(n+1)=p i:=by rw[oU,H0 zO,H2 zO];rfl
  have h2:(p j*(n+1)+q j)/(n+1)=p j:=by rw[oU,H0 zO,H2 zO];rfl
  have h3:p i=p j:=by rw[<-h1,<-h2,h]
  rw[h3]at h;exact⟨h3,zO⟩
 .rintro⟨h1,h2⟩;rw[h1,h2]
section
variable {a:Da}(h:a.Ok)
def oM(a:Da)(c:Nat->Nat):Nat->Nat->Nat
 |0=>c
 |x+1=>ed (qV a.n (oM a c x) fun q=>c (a.nx q x)) a.n
theorem aon{c:Nat->Nat}(hc:∀q,q<a.n->c q<a.n):∀x q,q<a.n->oM a c x q<a.n
 |0,q,hq=>hc q hq
 |x+1,q,hq=>by
  have h1:=Oo (g:=qV a.n (oM a c x) fun q=>c (a.nx q x)) hq;have h2:=zQ (qV a.n (oM a c x) fun q=>c (a.nx q x)) a.n;show ed _ _ _<_;omega
include h
theorem aEP{c:Nat->Nat}(hc:∀q,q<a.n->c q<a.n):∀x,x<=a.L->∀q q',q<a.n->q'<a.n->(oM a c x q=oM a c x q'↔c q=c q'∧∀y,y<x->c (a.nx q y)=c (a.nx q' y)):=by
 intro x
 induction x with
 |zero=>intro _ q q' _ _;exact⟨fun e=>⟨e,fun y hy=>zO⟩,fun e=>e.1⟩
 |succ x ih=>
  intro hx q q' hq eD;show ed _ _ _=ed _ _ _↔_;rw[Oq hq eD,aEO (by have:=hc _ (h.gn hq (show x<a.L by omega));omega) (by have:=hc _ (h.gn eD (show x<a.L by omega));omega),ih zO q q' hq eD];constructor
  .rintro⟨⟨e1,e2⟩,e3⟩;refine⟨e1,fun y hy=>?_⟩;rcases iQ y x with c1|c1
   .exact e2 y c1
   .rw[show y=x by omega];exact e3
  .rintro⟨e1,e2⟩;exact⟨⟨e1,fun y hy=>e2 y zO⟩,e2 x zO⟩
theorem aEQ{c:Nat->Nat}{x:Nat}(hx:x<a.L){k1 k2:Int}{l1 l2:LV}:
  Loop (TB CC (cV a.n c) l1 (x:Int) ((cV a.n c).length:Int) k1 k2 l2 a.bL) (0,([]:LV))=some ((a.n:Int),false,cV a.n fun q=>c (a.nx q x)):=by
 have hm:=h.dr;rw[Ej];refine(fe a.n (fun t=>((t:Int),(tab t fun q=>nV (c (a.nx q x))))) _ (fun q hq=>?_) ?_)
 .simp only[TB,LJ,un];refine bT (dd hq) ?_;refine bs (Da.nO hq) ?_;simp only[m8];refine bs (pE hx) ?_;refine bs (zU (h.gn hq hx)) ?_;refine bT (cap (by rw[dJ];simp;omega) zO) ?_;rw[cN zO,iz];rfl
 .simp only[TB,LJ,un];refine bF (bN (aC _)) ?_;rw[bN (aC _)];rfl
theorem aoo{c:Nat->Nat}(hc:∀q,q<a.n->c q<a.n){k2:Int}{l2:LV}:
  Loop (TC CC (cV a.n c) (a.L:Int) k2 l2 a.bL) (cV a.n c,0)=some (cV a.n (oM a c a.L),(a.L:Int),false):=by
 have hm:=h.dr;have h6:=h.l6;refine(fe a.L (fun x=>(cV a.n (oM a c x),(x:Int))) _ (fun x hx=>?_) ?_)
 .simp only[TC,LM,un];refine bT (dd hx) ?_;refine bs (aEQ h hx) ?_;refine bs (aEN hm (fun q hq=>by have:=aon hc x q hq;omega) fun q hq=>by have:=hc _ (h.gn hq hx);omega) ?_;rw[cN zO];rfl
 .simp only[TC,LM,un];refine bF (bN (aC _)) ?_;rw[bN (aC _)]
theorem aER{c0:Nat->Nat}(hp0:a.Part c0)(ho0:uF c0 a.n)(Fv:∀q,q<a.n->c0 q<a.n){k2:Int}{l2:LV}:∃p,Loop (LP CC (a.L:Int) k2 l2 a.bL) (cV a.n c0)=some (cV a.n p)∧a.Eg p∧∀q,q<a.n->p q<a.n:=by
 have hm:=h.dr;have:=X5 (step:=LP CC (a.L:Int) k2 l2 a.bL)
  (fun x=>∃c,x=cV a.n c∧a.Part c∧uF c a.n∧∀q,q<a.n->c q<a.n)
  (fun x=>a.n-(bP (fun q=>(x.getD q (nV 0)).toInt) a.n).length)
  (fun r=>∃p,r=cV a.n p∧a.Eg p∧∀q,q<a.n->p q<a.n) (fun x hx=>?_) (cV a.n c0) ⟨c0,rfl,hp0,ho0,Fv⟩
 .obtain⟨r,h1,p,rfl,h2,h3⟩:=this;exact⟨p,h1,h2,h3⟩
 .obtain⟨c,rfl,hp,ho,hc⟩:=hx;have uG:a.UN c (oM a c a.L):=fun q q' hq eD=>(aEP h hc a.L (aC _) q q' hq eD).trans Da.Ef.symm;have hb:=aon hc a.L;have Hk:∀q q',q<a.n->q'<a.n->oM a c a.L q=oM a c a.L q'->c q=c q':=fun q q' hq eD e=>(Da.Ef.1 ((uG q q' hq eD).1 e)).1;have oo:uF (oM a c a.L) a.n:=by
   have h1:=h.l1;obtain⟨m,hm⟩:∃m,a.L=m+1:=⟨a.L-1,zO⟩
   rw[hm];exact adV _ _
  by_cases he:∀q,q<a.n->oM a c a.L q=c q
  .right;refine⟨_,?_,c,rfl,⟨hp.aoc h fun q q' hq eD e=>(uG q q' hq eD).1 (by rw[he q hq,he q' eD,e]),ho⟩,hc⟩;simp only[LP,LO,un];refine bs (aoo h hc) ?_;refine bs (aom zO) ?_;refine bT (by simpa using he) ?_;rfl
  .left;refine⟨cV a.n (oM a c a.L),?_,⟨oM a c a.L,rfl,uG.part h hp,oo,hb⟩,?_⟩
   .simp only[LP,LO,un];refine bs (aoo h hc) ?_;refine bs (aom zO) ?_;refine bF (by simp only[V.bj,V.iM,gL,gB];exact bX he) ?_;rfl
   .have ec:∀d:Nat->Nat,(bP (fun q=>((cV a.n d).getD q (nV 0)).toInt) a.n).length=(bP d a.n).length:=fun d=>by
     have key:∀m,m<=a.n->bP (fun q=>((cV a.n d).getD q (nV 0)).toInt) m=(bP d m).map fun n:Nat=>(n:Int):=by
      intro m
      induction m with
      |zero=>intro _;rfl
      |succ m ih=>
       intro hm;have e:((cV a.n d).getD m (nV 0)).toInt=(d m:Int):=by unfold cV;rw[zN zO];rfl
       rw[bP,bP,ih zO,e];unfold dI;by_cases hx:d m∈bP d m
       .rw[ai hx,ai (lh.2 ⟨d m,hx,rfl⟩)]
       .rw[af hx,af]
        .simp
        .intro h2;obtain⟨y,h3,h4⟩:=lh.1 h2;exact hx ((show y=d m by omega)▸h3)
     rw[key a.n (aC _),cu]
    simp only[ec];have aEA:=aob Hk;have hle:=zQ (oM a c a.L) a.n;have cw:(bP c a.n).length≠(bP (oM a c a.L) a.n).length:=by
     intro e;have cv:=adW Hk zO;refine he fun q hq=>?_;have h1:=aEs (f:=oM a c a.L) (c:=c) (fun s s' hs AR=>⟨Hk s s' hs AR,cv s s' hs AR⟩) q hq;have own:∀(d:Nat->Nat),uF d a.n->ed d a.n q=d q:=fun d hd=>by
      have h2:d q∈bP d a.n:=nQ.2 ⟨q,hq,rfl⟩;unfold ed;rw[hd a.n (aC _)]at h2⊢;have h3:=lj.1 h2;have h4:=(List.nodup_range (n:=(bP d a.n).length)).idxOf_getElem (d q) (by rw[List.length_range];exact h3);rwa [List.getElem_range]at h4
     rw[own _ oo,own _ ho]at h1;exact h1
    omega
theorem aES:∃p,CC 60 (dM a)=some [aR (cV a.n p)]∧a.Eg p∧∀q,q<a.n->p q<a.n:=by
 have hm:=h.dr;have hf0:∀q,q<a.n->(if a.fin q=true then 1 else 0)<=1000000000:=fun q _=>by split<;>omega
 have hb:∀q,q<a.n->ed (fun q=>if a.fin q=true then 1 else 0) a.n q<a.n:=fun q hq=>by
  have h1:=Oo (g:=fun q=>if a.fin q=true then 1 else 0) hq;have h2:=zQ (fun q=>if a.fin q=true then 1 else 0) a.n;omega
 obtain⟨p,h1,h2,h3⟩:=aER h (c0:=ed (fun q=>if a.fin q=true then 1 else 0) a.n)
  ⟨fun q q' hq eD he=>(Oq hq eD).2 (by have:=he [] WL.nil;rw[Da.qT,Da.qT]at this;rw[this]),
   fun q q' hq eD he=>by
   have h1:=(Oq hq eD).1 he;revert h1;cases a.fin q<;>cases a.fin q'<;>simp⟩ (adV _ _) hb (k2:=(a.st:Int)) (l2:=a.cj)
 refine⟨p,aw1 ?_,h2,h3⟩;unfold ale;rw[Da.sk];refine bT (lC zO zO) ?_;rw[Int.toNat_natCast,lB,dJ];refine bs (fe a.n (fun i=>((i:Int),(tab a.n fun j=>if j<i then nV (if a.fin j=true then 1 else 0)else nV 0))) ((a.n:Int),false,cV a.n fun q=>if a.fin q=true then 1 else 0) (fun q hq=>?_) ?_) ?_
 .simp only[ab1,LI,un,aj,az];refine bT (dd hq) ?_;refine bs (Da.qn hq) ?_;rw[cN zO,V.iM];cases hf:a.fin q with
  |true=>
   refine bT rfl ?_;refine(gu hq).trans ?_;rw[Int.toNat_natCast];exact congrArg (fun x=>some (Sum.inl (((q+1:Nat):Int),x))) (UR (f:=fun j=>nV (if a.fin j=true then 1 else 0)) (by rw[hf];rfl))
  |false=>
   refine bF rfl ?_;refine congrArg (fun x=>some (Sum.inl (((q+1:Nat):Int),x))) (eK fun j _=>?_);by_cases hj:j=q
   .rw[af (show¬j<q by omega),ai (show j<q+1 by omega),hj,hf];rfl
   .by_cases gm:j<q
    .rw[ai gm,ai (show j<q+1 by omega)]
    .rw[af gm,af (show¬j<q+1 by omega)]
 .simp only[ab1,LI,un,aj,az];refine bF (bN (aC _)) ?_;rw[bN (aC _)];exact congrArg (fun x=>some (Sum.inr ((a.n:Int),false,x))) (ad1 (f:=fun j=>nV (if a.fin j=true then 1 else 0)))
 .simp only[un];refine bs (aol zO hf0) ?_;refine bs h1 ?_;rfl
theorem aET{p:Nat->Nat}{q:Nat}(hq:q<a.n){k1 k2 k3 k4 k5 k6 k7 k8 k9 k10:Int}{l1 l2 l3 l4 l5 l6 l7:LV}:
  Loop (TE CC (cV a.n p) k1 k2 l1 k3 k4 (tab a.L fun x=>iV (a.nx q x)) ((tab a.L fun x=>iV (a.nx q x)).length:Int) k5 k6 l2 l3 k7 k8 k9 k10 l4 l5 l6 l7) (0,([]:LV))=
   some ((a.L:Int),false,(tab a.L fun x=>nV (p (a.nx q x)))):=by
 have h6:=h.l6;rw[dJ];refine(fe a.L (fun t=>((t:Int),(tab t fun x=>nV (p (a.nx q x))))) _ (fun t ht=>?_) ?_)
 .simp only[TE,LQ,un];refine bT (dd ht) ?_;refine bs (pE ht) ?_;refine bs (zU (h.gn hq ht)) ?_;refine bT (cap (by rw[dJ];simp;omega) zO) ?_;rw[cN zO,iz];rfl
 .simp only[TE,LQ,un];refine bF (bN (aC _)) ?_;rw[bN (aC _)]
theorem aEU{p:Nat->Nat}(ho:uF p a.n){k2 k3 k4 k5 k6:Int}{l4 l5:LV}:
  Loop (TF CC (cV a.n p) (cV a.n p) ((cV a.n p).length:Int) (a.L:Int) k2 a.cj a.bL k3 k4 k5 k6 l4 l5) (0,0,([]:LV),([]:LV))=
   some (((Da.gx p a.n).length:Int),(a.n:Int),false,qF a p a.n,qN a p a.n):=by
 have h6:=h.l6;have hm:=h.dr;rw[Ej];refine(fe a.n (fun i=>(((Da.gx p i).length:Int),(i:Int),qF a p i,qN a p i)) _ (fun q hq=>?_) ?_)
 .have hle:=aoi p q;have hF:(qF a p q).length=(Da.gx p q).length:=by simp[qF]
  have hN:(qN a p q).length=(Da.gx p q).length:=by simp[qN]
  simp only[TF,LR,un];refine bT (dd hq) ?_;refine bs (zU hq) ?_;rw[cN zO];simp only[nV,V.toInt_int];by_cases hx:p q∈bP p q
  .have:=(ad0 ho hq).1 hx;refine bT (by simp;omega) ?_;unfold qF qN;rw[Da.gx,ai hx]
  .have e:p q=(Da.gx p q).length:=by
    have h1:=ho (q+1) zO;rw[UM hx,dQ,List.length_singleton,B7]at h1;rw[Da.Hh];exact List.singleton_inj.1 (List.append_inj_right h1 zS)
   refine bF (by rw[e];simp) ?_;refine bs (Da.nO hq) ?_;simp only[m8];refine bs (aET h hq) ?_;refine bT (cap (by rw[hN];simp;omega) zO) ?_;refine bs (Da.qn hq) ?_;refine bT (cap (by rw[hF];simp;omega) zO) ?_;unfold qF qN;rw[Da.gx,af hx,sC,sC,dQ,cN zO];rfl
 .simp only[TF,LR,un];refine bF (bN (aC _)) ?_;rw[bN (aC _)]
theorem oN:CC 35 (dM a)=some (dM (minD a)):=by
 obtain⟨p,c1,c2,c3⟩:=aES h;have hq:=Da.adX h c2;obtain⟨q1,q2⟩:=aoj (a:=a) (p:=p);rw[<-Hl h (Da.aof h c2)];refine aw4 ?_;unfold alg;refine bs c1 ?_;refine bs (zU h.s) ?_;refine bs (aEU h c2.2) ?_;simp only[un];rw[<-q1,<-q2];have htr:=aEM hq;refine bs htr ?_;rfl
end
def zD:Da:=⟨0,0,[],[]⟩
def nR(m:Da)(e:Int):LV:=[vI m.L,vI m.st,vI e,aB m.cj,aE m.bL]
namespace Da
def Ox(a:Da)(k q:Nat):Prop:= ∃w,WL a.L w∧w.length<=k∧a.acc q w=true
def Live(a:Da)(q:Nat):Prop:= ∃w,WL a.L w∧a.acc q w=true
open Classical in
noncomputable def V8(a:Da)(q:Nat):Bool:=decide (a.Live q)
theorem Ox.live{a:Da}{k q:Nat}(h:a.Ox k q):a.Live q:=by obtain⟨w,h1,_,h3⟩:=h;exact⟨w,h1,h3⟩
theorem Ox.mono{a:Da}{k m q:Nat}(h:a.Ox k q)(hk:k<=m):a.Ox m q:=by obtain⟨w,h1,h2,h3⟩:=h;exact⟨w,h1,zO,h3⟩
end Da
def bV(n:Nat)(r:Nat->Bool):LV:=tab n fun q=>V.bool (r q)
def upd(r:Nat->Bool)(p:Nat)(b:Bool)(q:Nat):Bool:=if q=p then b else r q
structure LvI(a:Da)(r0 r:Nat->Bool)(c:Bool):Prop where
 good:∀q,q<a.n->r q=true->a.Live q
 up:∀q,q<a.n->r0 q=true->r q=true
 yes:c=true->∃q,q<a.n∧r0 q=false∧r q=true
 no:c=false->∀q,q<a.n->r q=r0 q
theorem eZ{a:Da}(h:a.Ok):(minD a).Ok:=(zT h).ok
theorem ma{a:Da}(h:a.Ok):(minD a).L=a.L:=(zT h).hL
theorem aop{a:Da}(h:a.Ok):(minD a).st=0:=(zT h).st
theorem BC{a:Da}(h:a.Ok){w:LN}(hw:WL a.L w):(minD a).acc (minD a).st w=a.acc a.st w:=by
 rw[aop h];exact(zT h).dv w hw
theorem aoq{a b:Da}(ha:a.Ok)(hb:b.Ok)(hL:a.L=b.L)(hl:∀w,WL a.L w->a.acc a.st w=b.acc b.st w):minD a=minD b:=
 Hl hb (hL▸Canon.congr (zT ha) hl)
theorem US{a:Da}(ha:a.Ok):minD (minD a)=minD a:=
 aoq (eZ ha) ha (ma ha) fun w hw=>BC ha (by rwa [ma ha]at hw)
namespace Da
def tv(a:Da)(f:Nat->Bool):Da:=⟨a.L,a.st,tab a.n f,a.N⟩
def pre(a:Da)(k:Nat)(g:Nat->LN):Da:=⟨k,a.st,a.F,tab a.n fun q=>tab k fun x=>a.run q (g x)⟩
theorem Ek{a:Da}{f:Nat->Bool}:(a.tv f).n=a.n:=by simp[tv,n]
theorem aor{a:Da}{f:Nat->Bool}{q:Nat}(h:q<a.n):(a.tv f).fin q=f q:=by
 show(tab a.n f).getD q false=f q;exact zN h
theorem Ok.tv{a:Da}(h:a.Ok){f:Nat->Bool}:(a.tv f).Ok:=⟨h.l1,h.l6,by rw[Ek];exact h.nN,fun r hr=>by rw[Ek];exact h.row r hr,by rw[Ek];exact h.s,by rw[Ek];exact h.dr⟩
theorem aEV{a:Da}{f:Nat->Bool}{q:Nat}{w:LN}:(a.tv f).run q w=a.run q w:=rfl
theorem aos{a:Da}(h:a.Ok){f:Nat->Bool}{q:Nat}(hq:q<a.n){w:LN}(hw:WL a.L w):(a.tv f).acc q w=f (a.run q w):=by
 unfold acc;rw[aEV,aor (h.By w hq hw)]
theorem aot{a:Da}{f:Nat->Bool}:(a.tv f).cj=bV a.n f:=by
 unfold cj bV;rw[Ek];exact eK fun q hq=>by rw[aor hq]
theorem aou{a:Da}{f:Nat->Bool}:(a.tv f).bL=a.bL:=by unfold bL;rw[Ek];rfl
theorem Ok.pre{a:Da}(h:a.Ok){k:Nat}{g:Nat->LN}(h1:1<=k)(h6:k<=6)(hg:∀x,x<k->WL a.L (g x)):(a.pre k g).Ok:=⟨h1,h6,by simp[Da.pre,n],fun r hr=>by
 obtain⟨q,hq,rfl⟩:=xY.1 hr;refine⟨by simp[Da.pre],fun s hs=>?_⟩;obtain⟨x,hx,rfl⟩:=xY.1 hs;exact h.By _ hq (hg x hx),h.s,h.dr⟩
end Da
theorem aEW{a:Da}(h:a.Ok):CC 91 (dM a)=some (dM (a.tv fun q=>!(a.fin q))):=by
 have hm:=h.dr;have h6:=h.l6;refine aw7 ?_;unfold alh;refine bs (vX h) (bF rfl ?_);rw[Da.sk];refine bs (fe a.n (fun i=>((i:Int),(tab i fun q=>V.bool (!(a.fin q))),(tab i fun q=>ff a.L (a.nx q)))) ((a.n:Int),false,(bV a.n fun q=>!(a.fin q)),a.bL) (fun q hq=>?_) ?_) ?_
 .simp only[ab2,LW,un];refine bT (dd hq) ?_;refine bs (Da.qn hq) ?_;refine bT (cap (by rw[dJ];simp;omega) zO) ?_;refine bs (Da.nO hq) ?_;rw[m8,dJ];refine bT (by rw[gg,uA];omega) ?_;refine bT (cap (by rw[dJ];simp;omega) zO) ?_;rw[cN zO,iz,iz];rfl
 .simp only[ab2,LW,un];refine bF (bN (aC _)) ?_;rw[bN (aC _)];rfl
 .unfold dM eG;rw[Da.aot,Da.aou];rfl
def nT(a:Da):Da:=a.tv fun q=>!(a.fin q)
theorem Oy{a:Da}(h:a.Ok):(nT a).Ok:=h.tv
theorem ad2{a:Da}(h:a.Ok)(hm:minD a=a):minD (nT a)=nT a:=by
 have hc:=zT h;rw[hm]at hc;have cv:a.st=0:=hc.st;have hn:(nT a).n=a.n:=Da.Ek;have CZ:∀q,q<a.n->∀w,WL a.L w->(nT a).acc q w= !(a.acc q w):=fun q hq w hw=>Da.aos h hq hw;have lp:(nT a).pos=a.pos:=rfl;have hmt:∀t,(nT a).mt t=a.mt t:=by
  intro t
  induction t with
  |zero=>rfl
  |succ t ih=>
   show(if(nT a).pos t=(nT a).mt t then(nT a).mt t+1 else(nT a).mt t)=(if a.pos t=a.mt t then a.mt t+1 else a.mt t)
   rw[ih,lp]
 have aEX:(nT a).Oe:=by
  refine⟨fun t ht=>?_,fun q hq=>?_,?_⟩
  .rw[hmt,lp];exact hc.num.le t (by rw[hn]at ht;exact ht)
  .rw[hmt];exact hc.num.row q (by rw[hn]at hq;exact hq)
  .rw[hmt,hn];exact hc.num.all
 refine(Hl (Oy h) ⟨Oy h,rfl,cv,aEX,fun p q hp hq he=>?_,fun w hw=>?_⟩).symm
 .rw[hn]at hp hq;refine hc.red p q hp hq fun w hw=>?_;have:=he w hw;rw[CZ p hp w hw,CZ q hq w hw]at this;exact Bool.not_inj this
 .rw[show(nT a).st=0 from cv]
def nU(op:Nat):Nat:=if 5<=op then(if op=8 then 1 else 2)else 0
theorem qW{op:Nat}(h:op<=8):CC 38 [vI op]=some [vI (nU op:Int)]:=by
 refine aw9 ?_;rcases(by omega:op=0∨op=1∨op=2∨op=3∨op=4∨op=5∨op=6∨op=7∨op=8)with rfl|rfl|rfl|rfl|rfl|rfl|rfl|rfl|rfl<;>rfl
theorem aov{p i:Nat}{b:Bool}(h1:b=true->p<i)(h2:b=false->p=0):CC 65 [vI p,vI i,.bool b]=some [.bool true]:=by
 refine axa ?_;unfold ali;cases b with
 |true=>
  refine bT rfl (bT (bQ zO) ?_);rw[bQ (by have:=h1 rfl;omega)]
 |false=>
  refine bF rfl ?_;rw[h2 rfl];rfl
theorem aow{d:Nd}{L i:Nat}(h:d.Ok L i):CC 41 [vI d.op,vI d.x,vI d.a,vI d.b,vI i,vI L]=some [.bool true]:=by
 have o1:=h.o1;have o8:=h.o8;refine axd ?_;unfold alj;refine bF (bX zO) (bF (bX zO) ?_);have key:∀{β:Type}(K:Bool⊕Unit->Option β),LX CC (i:Int) (L:Int) ((d.op:Int)==3) (d.op:Int) (d.x:Int) (d.a:Int) (d.b:Int) K=K (.inr ()):=by
  intro β K;unfold LX;by_cases h3:d.op=3
  .have:=h.x1 h3;exact bT (by simp[h3]) (bF (bX zO) (bF (bX zO) rfl))
  .have:=h.x0 h3;exact bF (by simp;omega) (bF (by simp[this]) rfl)
 rw[key];simp only[db];refine bs (qW o8) ?_;simp only[V.bj,V.toInt_int,gI,gB];have e1:decide ((nU d.op:Int)>=1)=decide (5<=d.op):=by
  unfold nU;by_cases h5:5<=d.op
  .rw[ai h5,bQ h5];by_cases h8:d.op=8<;>simp[h8]
  .rw[af h5,bX h5];simp
 have e2:((nU d.op:Int)==2)=decide (5<=d.op∧d.op≠8):=by
  unfold nU;by_cases h5:5<=d.op
  .rw[ai h5];by_cases h8:d.op=8<;>simp[h5,h8]
  .rw[af h5,bX (fun h=>h5 h.1)];rfl
 rw[e1];refine bs (aov (fun hb=>h.a1 (tH hb)) (fun hb=>h.a0 (by have:=of_decide_eq_false hb;omega))) (bT rfl ?_);refine bs (qW o8) ?_;simp only[V.bj,V.toInt_int,gI,gB];rw[e2];refine bs (aov (fun hb=>h.b1 (tH hb).1 (tH hb).2) (fun hb=>h.b0 (by have:=of_decide_eq_false hb;omega))) ?_;rfl
theorem Nd.cells{d:Nd}:(d.v.cell 0).toInt=(d.op:Int)∧(d.v.cell 1).toInt=(d.x:Int)∧(d.v.cell 2).toInt=(d.a:Int)∧(d.v.cell 3).toInt=(d.b:Int):=⟨rfl,rfl,rfl,rfl⟩
section
variable {g:List Nd}{L r:Nat}(h:uE g L)(hr:r<g.length)
include h hr
theorem aEY:CC 17 [fU (g.map Nd.v),vI r,vI L]=some [vI 0]:=by
 have l1:=h.l1;have l2:=h.l2;have n1:=h.n1;have n2:=h.n2;refine alk ?_;unfold ab3;rw[cu];refine bF (bX zO) (bF (bX zO) (bF (bX zO) ?_));refine bs (fe g.length (fun i=>(i:Int)) (.inr ((g.length:Int),false)) (fun i hi=>?_) ?_) ?_
 .simp only[LY,DH];refine bT (dd hi) ?_;refine bs (h.get hi) ?_
  try simp only[Nd.cells]
  refine bs (aow (h.nd i hi)) (bF rfl ?_);rw[cN zO]
 .simp only[LY,DH];refine bF (bN (aC _)) ?_;rw[bN (aC _)]
 .simp only[db,un];exact bF (bX zO) (bF (bX zO) rfl)
end
theorem aEZ{L:Nat}(l1:1<=L)(l2:L<=6):CC 55 [vI L]=some [.bool true]:=by
 refine akA ?_;rcases(by omega:L=1∨L=2∨L=3∨L=4∨L=5∨L=6)with rfl|rfl|rfl|rfl|rfl|rfl<;>rfl
theorem aox{i a b:Nat}{A B:Bool}(ha:A=true->a<i)(CK:A=false->a=0)(hb:B=true->b<i)(fI:B=false->b=0){β:Type}{l1 l2:LV}{k1 k2 k3 k4 k5 k6:Int}(K:Int⊕Unit->Option β):
  xL CC k1 (i:Int) A B l1 k2 k3 false l2 k4 k5 k6 (a:Int) (b:Int) K=K (.inr ()):=by
 simp only[xL,LZ];cases A<;>cases B
 .have:=CK rfl;have:=fI rfl;subst a;subst b;rfl
 .have h1:=CK rfl;have h2:=hb rfl;subst a
  have e1:decide ((b:Int)<0)=false:=bX zO;have e2:decide ((b:Int)>=(i:Int))=false:=bX zO;simp[e1,e2];omega
 .have h1:=ha rfl;have h2:=fI rfl;subst b
  have e1:decide ((a:Int)<0)=false:=bX zO;have e2:decide ((a:Int)>=(i:Int))=false:=bX zO;simp[e1,e2];omega
 .have h1:=ha rfl;have h2:=hb rfl
  have e1:decide ((a:Int)<0)=false:=bX zO;have e2:decide ((a:Int)>=(i:Int))=false:=bX zO;have e3:decide ((b:Int)<0)=false:=bX zO;have e4:decide ((b:Int)>=(i:Int))=false:=bX zO;simp only[e1,e2,e3,e4,cond_true,cond_false,BX]
theorem aE0{L i op x a b:Nat}{A B:Bool}(ha:A=true->a<i)(CK:A=false->a=0)(hb:B=true->b<i)(fI:B=false->b=0)(hx:op=3->x<L)(ow:op≠3->x=0){β:Type}{l1 l2:LV}{k2 k3 k4:Int}(K:Int⊕Unit->Option β):
  uw CC (L:Int) (i:Int) A B l1 k2 k3 false l2 k4 (op:Int) (x:Int) (a:Int) (b:Int) K=K (.inr ()):=by
 unfold uw;refine bF rfl ?_;by_cases h3:op=3
 .have:=hx h3;refine bT (by simp[h3]) (bF (bX zO) (bF (bX zO) (bF (by simp[h3]) ?_)));rw[aox ha CK hb fI];rfl
 .have h4:=ow h3;refine bF (by simp;omega) (bT (by simp;omega) ?_);rw[show((x:Int) !=0)=false by simp[h4],aox ha CK hb fI];rfl
section
variable {g:List Nd}{L r:Nat}(h:uE g L)(hr:r<g.length)
include h hr
theorem aE1:CC 30 [fU (g.map Nd.v),vI r,vI L]=some [vI 0]:=by
 have l1:=h.l1;have l2:=h.l2;have n1:=h.n1;have n2:=h.n2;refine axk ?_;unfold aln;refine bs (aEZ l1 l2) (bF rfl ?_);rw[cu];refine bF (bX zO) ?_;refine bs (fe g.length (fun i=>(i:Int)) (.inr ((g.length:Int),false)) (fun i hi=>?_) ?_) ?_
 .simp only[ab7,L0,TH,ab5,ab4];refine bT (dd hi) ?_;refine bs (h.get hi) ?_
  try simp only[Nd.cells]
  have hd:=h.nd i hi;generalize g[i]=d at hd;obtain⟨op,x,a,b⟩:=d;obtain⟨o1,o8,x1,x0,a1,a0,b1,b0⟩:=hd;simp only at o1 o8 x1 x0 a1 a0 b1 b0⊢;have hw:wI ((i:Int)+1)=((i+1:Nat):Int):=cN zO;have bq:∀k:Nat,((op:Int)==(k:Int))=decide (op=k):=fun k=>by rw[sD];simp;omega
  have b5:((op:Int)==5)=decide (op=5):=bq 5;have b6:((op:Int)==6)=decide (op=6):=bq 6;have b7:((op:Int)==7)=decide (op=7):=bq 7;have b8:((op:Int)==8)=decide (op=8):=bq 8;have bl:decide ((op:Int)<1)=false:=bX zO;have bg:decide ((op:Int)>8)=false:=bX zO;simp only[b5,b6,b7,b8,bl,bg,cond_false];rcases(by omega:op=1∨op=2∨op=3∨op=4∨op=5∨op=6∨op=7∨op=8)with rfl|rfl|rfl|rfl|rfl|rfl|rfl|rfl
  all_goals
   simp only[Nat.reduceEqDiff,uU,decide_false,cond_true,cond_false];rw[aE0 (L:=L) (by first|exact fun _=>a1 zO|exact fun h=>by cases h) (by first|exact fun _=>a0 zO|exact fun h=>by cases h) (by first|exact fun _=>b1 zO zO|exact fun h=>by cases h) (by first|exact fun _=>b0 zO|exact fun h=>by cases h) x1 x0];simp only[db,hw]
 .simp only[ab7,L0];refine bF (bN (aC _)) ?_;rw[bN (aC _)]
 .simp only[db,un];exact bF (bX zO) (bF (bX zO) rfl)
end
section
variable {α:Type}[DecidableEq α]{L:Nat}{next:α->Nat->α}{a0:α}
theorem ad3(S:List α)(a:α):∀x,(aT next S a x).length<=S.length+x
 |0=>aC _
 |x+1=>by
  have:=ad3 S a x;rw[aT,tq];grind
theorem aE2{m:Nat}(h:(ao L next a0 m).length<=m)(i:Nat):(ao L next a0 i).length<=m:=by
 rcases iQ m i with c|c
 .rw[Oi h zO];exact h
 .exact mD (mY c).length_le h
theorem UT{k:Nat}(hd:(ao L next a0 k).length<=k)(i:Nat):(ao L next a0 i).length<=(ao L next a0 k).length:=by
 rcases iQ k i with c|c
 .rw[Oi hd zO];omega
 .exact(mY c).length_le
theorem UU{k m:Nat}(h:m<(ao L next a0 k).length):m<(ao L next a0 m).length:=by
 rcases iQ m (ao L next a0 m).length with c|c
 .exact c
 .have:=aE2 c k;omega
theorem UW{m:Nat}(h:m<(ao L next a0 m).length)(hm:1<=m):∃i,i<m∧(∀j,j<=i->j<(ao L next a0 j).length∧(ao L next a0 j).length<=m)∧m<(ao L next a0 (i+1)).length:=by
 have key:∀d k,k+d=m->(∀j,j<=k->(ao L next a0 j).length<=m)->∃i,i<m∧(∀j,j<=i->j<(ao L next a0 j).length∧(ao L next a0 j).length<=m)∧m<(ao L next a0 (i+1)).length:=by
  intro d
  induction d with
  |zero=>
   grind
  |succ d ih=>
   intro k hk hj;rcases iQ m (ao L next a0 (k+1)).length with c|c
   .refine⟨k,zO,fun j hjk=>⟨?_,hj j hjk⟩,c⟩;rcases iQ j (ao L next a0 j).length with c1|c1
    .exact c1
    .have h1:=hj j hjk;rw[<-Oi c1 (show j<=m by omega)]at h1;omega
   .refine ih (k+1) zO fun j gm=>?_;grind
 exact key m 0 zO fun j hj=>by rw[Nat.le_zero.1 hj];simp[ao];omega
theorem aoy{S:List α}{a:α}{m:Nat}(hS:S.length<=m)(h:m<(aT next S a L).length):∃x,x<L∧(aT next S a x).length=m∧next a x∉aT next S a x∧∀y,y<=x->(aT next S a y).length<=m:=by
 have key:∀d k,k+d=L->(∀y,y<=k->(aT next S a y).length<=m)->∃x,x<L∧(aT next S a x).length=m∧next a x∉aT next S a x∧∀y,y<=x->(aT next S a y).length<=m:=by
  intro d
  induction d with
  |zero=>
   grind
  |succ d ih=>
   intro k hk hj;rcases iQ m (aT next S a (k+1)).length with c|c
   .have h0:=hj k (aC _);rw[aT,tq]at c;grind
   .refine ih (k+1) zO fun j gm=>?_;grind
 exact key L 0 zO fun y hy=>by rw[Nat.le_zero.1 hy];exact hS
theorem aoz{P:α->Prop}(h0:P a0)(hP:∀a,P a->∀x,x<L->P (next a x))(i:Nat):∀a∈ao L next a0 i,P a:=by
 intro a ha;obtain⟨w,hw,rfl⟩:=Oj i a ha;have:∀(w:LN) (b:α),P b->WL L w->P (w.foldl next b):=by
  intro w
  induction w with
  |nil=>grind
  |cons x w ih=>intro b hb hw;exact ih _ (hP b hb x hw.head) hw.tail
 grind
end
structure NP where
 p:Nat
 q:Nat
deriving DecidableEq
def pV(p:NP):V:=.agg [vI p.p,vI p.q]
def pS(S:List (NP)):LV:=S.map pV
def pM(S:List (NP)):LV:=jg pV 0 S
theorem yb(a b:NP):jF (pV a) (pV b)=decide (a=b):=by
 have:=aEk (a.p,a.q) (b.p,b.q);refine this.trans ?_;rw[yv];cases a;cases b;simp
theorem UX(p:NP):((pV p).cell 0).toInt=(p.p:Int):=by simp[pV]
theorem UY(p:NP):((pV p).cell 1).toInt=(p.q:Int):=by simp[pV]
theorem pF{S:List (NP)}:(pS S).length=S.length:=by simp[pS]
theorem UZ{S:List (NP)}{i:Nat}(h:i<S.length):(pS S)[i]?=some (pV S[i]):=by simp[pS,h]
theorem aoA{x:NP}(h1:x.p<=1000000)(h2:x.q<=1000000):CC 129 [nV x.p,nV x.q,qM []]=some [nV 0,qM (pS [x]),.list lu (pM [x])]:=by
 refine axp ?_;unfold alr;rw[lZ (show x.p<=_ by omega),lZ (show x.q<=_ by omega)];exact bT rfl (bT rfl (bT (cap zS zO) rfl))
theorem aE3{S:List (NP)}{x:NP}(h1:x.p<=1000000)(h2:x.q<=1000000)(hl:S.length<=1000000):CC YE [nV x.p,nV x.q,qM (pS S),.list lu (pM S)]=some [nV ((dI S x).idxOf x),.list lu (pM (dI S x)),qM (pS (dI S x))]:=by
 refine axq ?_;unfold als;have e1:=tu yb x S 0;rw[lZ (show x.p<=_ by omega),lZ (show x.q<=_ by omega)];refine bT rfl ?_;rw[show(V.agg [vI x.p,vI x.q])=pV x from rfl];rw[He];by_cases h:x∈S
 .refine bF (by rw[show fi (pV x) (pM S)=_ from e1];simpa using h) ?_;have e2:=xZ yb x (vI 0) S 0 h;rw[show gV (pV x) (pM S) (vI 0)=_ from e2,ai h,dT,show dI S x=S by unfold dI;rw[ai h]];rfl
 .refine bT (by rw[show fi (pV x) (pM S)=_ from e1];simpa using h) ?_;refine bT rfl ?_;refine bT (cap (by rw[pF];simp;omega) zO) ?_;have e2:=ya yb x S 0 h;rw[dT]at e2;rw[pF,show fj (pV x) (vI S.length) (pM S)=_ from e2,af h,show dI S x=S++[x]by unfold dI;rw[af h]];simp[pS,nV,pM]
def Hn(op:Nat)(x y:Bool):Bool:=op.testBit ((if x=true then 2 else 0)+(if y=true then 1 else 0))
theorem aE4:∀op:Fin 16,∀k:Fin 4,((wI ((bI (Int.fdiv (op.val:Int) (2^(min ((k.val:Int)).toNat kI)))&&&bI 1).toNat))==1)=op.val.testBit k.val:=by decide+kernel
theorem BD{op k:Nat}(ho:op<=15)(hk:k<=3):((wI ((bI (Int.fdiv (op:Int) (2^(min ((k:Int)).toNat kI)))&&&bI 1).toNat))==1)=op.testBit k:=aE4 ⟨op,zO⟩ ⟨k,zO⟩
def pn(a b:Da)(p:NP)(x:Nat):NP:=⟨a.nx p.p x,b.nx p.q x⟩
def pf(a b:Da)(op:Nat)(p:NP):Bool:=Hn op (a.fin p.p) (b.fin p.q)
def PI(a b:Da)(p:NP):Prop:=p.p<a.n∧p.q<b.n
theorem aE5{a b:Da}(hL:a.L=b.L){p:NP}{x:Nat}(hp:PI a b p)(hx:x<a.L):CC 115 (nV p.p::nV p.q::nV x::eG a (dM b))=some (nV (pn a b p x).p::nV (pn a b p x).q::eG a (dM b)):=by
 refine axl ?_;unfold alp;refine bs (Da.nO hp.1) ?_;rw[m8];refine bs (pE hx) ?_;refine bs (Da.nO hp.2) ?_;rw[m8];exact bs (pE (hL▸hx)) rfl
theorem aE6{a b:Da}{op:Nat}(ho:op<=15){p:NP}(hp:PI a b p):CC 116 (nV p.p::nV p.q::eG a (eG b [vI op]))=some (.bool (pf a b op p)::eG a (eG b [vI op])):=by
 refine axo ?_;unfold alq;refine bs (Da.qn hp.1) ?_;unfold TJ pf Hn;rw[V.iM];cases ha:a.fin p.p with
 |true=>
  refine bT rfl ?_;refine bs (Da.qn hp.2) ?_;rw[V.iM,show wI (0+2)=((2:Nat):Int)from by decide];cases hb:b.fin p.q with
  |true=>
   refine bT rfl ?_;rw[show wI (((2:Nat):Int)+1)=((3:Nat):Int)from by decide];refine bT (by decide) ?_;rw[BD ho zO];rfl
  |false=>
   refine bF rfl ?_;refine bT (by decide) ?_;rw[BD ho zO];rfl
 |false=>
  refine bF rfl ?_;refine bs (Da.qn hp.2) ?_;rw[V.iM];cases hb:b.fin p.q with
  |true=>
   refine bT rfl ?_;rw[show wI (0+1)=((1:Nat):Int)from by decide];refine bT (by decide) ?_;rw[BD ho zO];rfl
  |false=>
   refine bF rfl ?_;refine bT (by decide) ?_;have:=BD (k:=0) ho zO;rw[show((0:Nat):Int)=0 from rfl]at this;rw[this];rfl
def ij(a b:Da):List NP:=ao a.L (pn a b) ⟨a.st,b.st⟩ (a.n*b.n)
def kj(a b:Da)(op:Nat):Da:=jC a.L (pn a b) (pf a b op) (ij a b)
def jh(a b:Da):Prop:=512<(ij a b).length
def U0(m n:Nat):List NP:=(List.range m).flatMap fun p=>(List.range n).map fun q=>⟨p,q⟩
theorem aE7(m n:Nat):(U0 m n).length=m*n:=by
 unfold U0
 induction m with
 |zero=>simp
 |succ m ih=>rw[B7,List.flatMap_append,dQ,ih];simp[Ac]
theorem ad4{m n:Nat}{x:NP}:x∈U0 m n↔x.p<m∧x.q<n:=by
 unfold U0;simp only[List.mem_flatMap,lh,lj];constructor
 .rintro⟨p,hp,q,hq,rfl⟩;exact⟨hp,hq⟩
 .rintro⟨h1,h2⟩;exact⟨x.p,h1,x.q,h2,rfl⟩
section
variable {a b:Da}(ha:a.Ok)(hb:b.Ok)(hL:a.L=b.L){op:Nat}
include ha hb hL
theorem Ho{p:NP}(hp:PI a b p){x:Nat}(hx:x<a.L):PI a b (pn a b p x):=⟨ha.gn hp.1 hx,hb.gn hp.2 (hL▸hx)⟩
theorem aE8{S U:List (NP)}{p:NP}(hp0:PI a b p)(hSn:S.length<=1000)(hp:aT (pn a b) S p a.L<+:U){i c1 c2 c3:Int}{l1 l2 l3 l4:LV}:
  Loop (TL CC (a.L:Int) i ((List.replicate (((a.L:Nat):Int).toNat) (vI 0)).length:Int) c1 c2 c3 (a.L:Int) 0 (p.p:Int) (p.q:Int) l1 l2 l3 l4) (0,(a.L:Int),(a.st:Int),a.cj,a.bL,(b.L:Int),(b.st:Int),b.cj,b.bL,List.replicate (((a.L:Nat):Int).toNat) (vI 0),pS S,pM S)=
   some ((a.L:Int),false,(a.L:Int),(a.st:Int),a.cj,a.bL,(b.L:Int),(b.st:Int),b.cj,b.bL,(tab a.L fun x=>nV (U.idxOf (pn a b p x))),pS (aT (pn a b) S p a.L),pM (aT (pn a b) S p a.L)):=by
 have h6:=ha.l6;have BE:=ha.dr;have xf:=hb.dr;rw[Int.toNat_natCast,lB,dJ];refine(fe a.L (fun x=>((x:Int),(a.L:Int),(a.st:Int),a.cj,a.bL,(b.L:Int),(b.st:Int),b.cj,b.bL,(tab a.L fun j=>if j<x then nV (U.idxOf (pn a b p j))else nV 0),pS (aT (pn a b) S p x),pM (aT (pn a b) S p x))) _ (fun x hx=>?_) ?_)
 .simp only[TL,L4,un,aj,az];refine bT (dd hx) ?_;refine bs (aE5 hL hp0 hx) ?_;have hT:=ad3 (next:=pn a b) S p x;have hn:=Ho ha hb hL hp0 hx;unfold PI at hn;refine bs (aE3 (S:=aT (pn a b) S p x) (x:=pn a b p x) zO zO zO) ?_;refine(gu hx).trans ?_;rw[cN zO,Int.toNat_natCast,m7];have e:(dI (aT (pn a b) S p x) (pn a b p x)).idxOf (pn a b p x)=U.idxOf (pn a b p x):=(xW ((uC S p (show x+1<=a.L by omega)).trans hp) zL).symm;show some (Sum.inl _)=some (Sum.inl _);refine congrArg (fun x=>some (Sum.inl x)) ?_;refine iD rfl (iD rfl (iD rfl (iD rfl (iD rfl (iD rfl (iD rfl (iD rfl (iD rfl (iD ?_ (iD rfl rfl))))))))));refine eK fun j _=>?_;by_cases hj:j=x
  .rw[ai hj,aU,hj,<-e];rfl
  .rw[af hj];by_cases gm:j<x
   .rw[ai gm,aU]
   .rw[af gm,cl]
 .simp only[TL,L4,un,aj,az];refine bF (bN (aC _)) ?_;rw[bN (aC _)];have:(tab a.L fun j=>if j<a.L then nV (U.idxOf (pn a b p j))else nV 0)=tab a.L fun j=>nV (U.idxOf (pn a b p j)):=eK fun j hj=>ai hj;rw[this]
theorem U3(i:Nat):(ao a.L (pn a b) ⟨a.st,b.st⟩ i).length<=a.n*b.n:=by
 rw[<-aE7];exact adN (ad4.2 ⟨ha.s,hb.s⟩) (fun p hp x hx=>ad4.2 (Ho ha hb hL (ad4.1 hp) hx)) i
theorem ad5(i:Nat):∀p∈ao a.L (pn a b) ⟨a.st,b.st⟩ i,PI a b p:=aoz (P:=PI a b) ⟨ha.s,hb.s⟩ (fun _ hp _ hx=>Ho ha hb hL hp hx) i
theorem ad6(ho:op<=15){i:Nat}(fH:i<(ao a.L (pn a b) ⟨a.st,b.st⟩ i).length)(hlen:(ao a.L (pn a b) ⟨a.st,b.st⟩ i).length<=512){U:List (NP)}(hp:ao a.L (pn a b) ⟨a.st,b.st⟩ (i+1)<+:U){l1 l2 l3 l4:LV}(Hp:l3.length<=1000)(hl4:l4.length<=1000):
  GD CC (a.L:Int) 0 0 (a.L:Int) 0 l1 l2 ((i:Int),(a.L:Int),(a.st:Int),a.cj,a.bL,(b.L:Int),(b.st:Int),b.cj,b.bL,(op:Int),pS (ao a.L (pn a b) ⟨a.st,b.st⟩ i),pM (ao a.L (pn a b) ⟨a.st,b.st⟩ i),l3,l4)=
   if 512<(ao a.L (pn a b) ⟨a.st,b.st⟩ (i+1)).length then some (.inr (.inl (3,(a.L:Int),(a.st:Int),a.cj,a.bL,(b.L:Int),(b.st:Int),b.cj,b.bL,(op:Int),0,0,[],[],[])))
   else some (.inl (((i+1:Nat):Int),(a.L:Int),(a.st:Int),a.cj,a.bL,(b.L:Int),(b.st:Int),b.cj,b.bL,(op:Int),pS (ao a.L (pn a b) ⟨a.st,b.st⟩ (i+1)),pM (ao a.L (pn a b) ⟨a.st,b.st⟩ (i+1)),l3++[V.bool (pf a b op (ao a.L (pn a b) ⟨a.st,b.st⟩ i)[i])],l4++[aR (tab a.L fun x=>nV (U.idxOf (pn a b (ao a.L (pn a b) ⟨a.st,b.st⟩ i)[i] x)))])):=by
 have h6:=ha.l6;have hq:=ad5 ha hb hL i _ (gC fH);have iL:ao a.L (pn a b) ⟨a.st,b.st⟩ (i+1)=aT (pn a b) (ao a.L (pn a b) ⟨a.st,b.st⟩ i) (ao a.L (pn a b) ⟨a.st,b.st⟩ i)[i] a.L:=Oh (cA fH);simp only[GD,L5,un,aj];refine bT (bQ (by rw[pF];omega)) ?_;refine(cK (UZ fH)).trans ?_;rw[UX,UY];refine bT (lC zO zO) ?_;refine bs (aE8 ha hb hL hq zO (U:=U) (by rw[<-iL];exact hp)) ?_;rw[<-iL];by_cases rJ:512<(ao a.L (pn a b) ⟨a.st,b.st⟩ (i+1)).length
 .rw[ai rJ];refine bT (bQ (by rw[pF];omega)) ?_;rfl
 .rw[af rJ];refine bF (bX (by rw[pF];omega)) ?_;refine bT (cap (by simp;omega) zO) ?_;refine bs (aE6 ho hq) ?_;refine bT (cap (by simp;omega) zO) ?_;rw[cN zO];rfl
theorem aE9(ho:op<=15)(hn:¬jh a b):∃X,CC 114 ([nV a.L,nV a.st,nV b.st]++eG a (eG b [vI op]))=some ([nV a.L,nV 0,vI 0]++(eG a (eG b [vI op])++[aB (kj a b op).cj,aE (kj a b op).bL,X])):=by
 have h6:=ha.l6;have BE:=ha.dr;have xf:=hb.dr;have hsa:=ha.s;have Jc:=hb.s;have hd:(ao a.L (pn a b) ⟨a.st,b.st⟩ (a.n*b.n)).length<=a.n*b.n:=U3 ha hb hL _;have hle:∀i,(ao a.L (pn a b) ⟨a.st,b.st⟩ i).length<=(ij a b).length:=UT hd;have U4:(ij a b).length<=512:=by unfold jh at hn;omega
 refine⟨qM (pS (ij a b)),alB ?_⟩;unfold acb;refine bs (aoA (x:=⟨a.st,b.st⟩) (by simp only;omega) (by simp only;omega)) ?_;have key:Loop (GD CC (a.L:Int) 0 0 (a.L:Int) 0 ([]:LV) ([]:LV)) (0,(a.L:Int),(a.st:Int),a.cj,a.bL,(b.L:Int),(b.st:Int),b.cj,b.bL,(op:Int),pS [⟨a.st,b.st⟩],pM [⟨a.st,b.st⟩],([]:LV),([]:LV))=
   some (.inr (((ij a b).length:Int),false,(a.L:Int),(a.st:Int),a.cj,a.bL,(b.L:Int),(b.st:Int),b.cj,b.bL,(op:Int),pS (ij a b),pM (ij a b),(kj a b op).cj,(kj a b op).bL)):=by
  refine(fe (ij a b).length (fun i=>((i:Int),(a.L:Int),(a.st:Int),a.cj,a.bL,(b.L:Int),(b.st:Int),b.cj,b.bL,(op:Int),pS (ao a.L (pn a b) ⟨a.st,b.st⟩ i),pM (ao a.L (pn a b) ⟨a.st,b.st⟩ i),(tab i fun j=>V.bool ((kj a b op).fin j)),(tab i fun j=>ff a.L ((kj a b op).nx j)))) _ (fun i hi=>?_) ?_)
  .have fH:=Bz hd hi;have hiK:i<a.n*b.n:=gU hi hd;have vZ:(ao a.L (pn a b) ⟨a.st,b.st⟩ i)[i]=(ij a b)[i]:=(mY (show i<=a.n*b.n by omega)).getElem fH;have ad7:=hle (i+1);have aoB:=hle i;have:=ad6 ha hb hL ho fH zO (U:=ij a b) (mY zO) (l1:=[]) (l2:=[]) (l3:=(tab i fun j=>V.bool ((kj a b op).fin j))) (l4:=(tab i fun j=>ff a.L ((kj a b op).nx j))) (by rw[dJ];omega) (by rw[dJ];omega);rw[cl,vZ]at this;rw[this,iz,iz];have e1:(kj a b op).fin i=pf a b op (ij a b)[i]:=Eb hi;have e2:ff a.L ((kj a b op).nx i)=aR (tab a.L fun x=>nV ((ij a b).idxOf (pn a b (ij a b)[i] x))):=by
    unfold ff;refine congrArg _ (eK fun x hx=>?_);rw[show(kj a b op).nx i x=_ from zM hi hx];rfl
   rw[e1,e2]
  .simp only[GD,L5,un,aj];rw[show ao a.L (pn a b) ⟨a.st,b.st⟩ (ij a b).length=ij a b from Ec hd,pF];refine bF (bN (aC _)) ?_;rw[bN (aC _)];have e3:(kj a b op).n=(ij a b).length:=ql;unfold Da.cj Da.bL;rw[e3];rfl
 refine bs key ?_;rfl
theorem aFa(ho:op<=15)(hn:jh a b):∃X,CC 114 ([nV a.L,nV a.st,nV b.st]++eG a (eG b [vI op]))=some ([nV 0,nV 0,vI 3]++(eG a (eG b [vI op])++[aB [],aE [],X])):=by
 have h6:=ha.l6;have BE:=ha.dr;have xf:=hb.dr;have hsa:=ha.s;have Jc:=hb.s;obtain⟨m,hm1,mL,U5⟩:=UW (UU (show 512<(ao a.L (pn a b) ⟨a.st,b.st⟩ (a.n*b.n)).length from hn)) zO;refine⟨qM [],alB ?_⟩;unfold acb;refine bs (aoA (x:=⟨a.st,b.st⟩) (by simp only;omega) (by simp only;omega)) ?_;have key:∃r,Loop (GD CC (a.L:Int) 0 0 (a.L:Int) 0 ([]:LV) ([]:LV)) (0,(a.L:Int),(a.st:Int),a.cj,a.bL,(b.L:Int),(b.st:Int),b.cj,b.bL,(op:Int),pS [⟨a.st,b.st⟩],pM [⟨a.st,b.st⟩],([]:LV),([]:LV))=some r∧r=(.inl (3,(a.L:Int),(a.st:Int),a.cj,a.bL,(b.L:Int),(b.st:Int),b.cj,b.bL,(op:Int),0,0,[],[],[])):=by
  refine qm (fun i st=>∃l3 l4:LV,l3.length=i∧l4.length=i∧st=((i:Int),(a.L:Int),(a.st:Int),a.cj,a.bL,(b.L:Int),(b.st:Int),b.cj,b.bL,(op:Int),pS (ao a.L (pn a b) ⟨a.st,b.st⟩ i),pM (ao a.L (pn a b) ⟨a.st,b.st⟩ i),l3,l4)) _ m 0 _ (fun i _ hi st cv=>?_) (fun st cv=>?_) ⟨[],[],rfl,rfl,rfl⟩
  .obtain⟨l3,l4,e3,e4,rfl⟩:=cv;obtain⟨h1,h2⟩:=mL i zO;have h3:=(mL (i+1) zO).2;have:=ad6 ha hb hL ho h1 h2 (tM _) (l1:=[]) (l2:=[]) (l3:=l3) (l4:=l4) zO zO;rw[cl]at this;exact⟨_,this,_,_,by simp[e3],by simp[e4],rfl⟩
  .obtain⟨l3,l4,e3,e4,rfl⟩:=cv;rw[dT]at*
   obtain⟨h1,h2⟩:=mL m zO;have:=ad6 ha hb hL ho h1 h2 (tM _) (l1:=[]) (l2:=[]) (l3:=l3) (l4:=l4) zO zO;rw[aU]at this;exact⟨_,this,rfl⟩
 obtain⟨r,h1,rfl⟩:=key;refine bs h1 ?_;rfl
end
section
variable {a b:Da}(ha:a.Ok)(hb:b.Ok)(hL:a.L=b.L){op:Nat}
include ha hb hL
theorem aFb(ho:op<=15)(hn:¬jh a b):CC 102 (eG a (eG b [vI op]))=some (nR (kj a b op) 0):=by
 obtain⟨X,hX⟩:=aE9 ha hb hL ho hn;refine alC ?_;unfold acf;refine bs (vX ha) (bF rfl ?_);refine bs (vX hb) (bF rfl ?_);refine bF (by rw[hL];simp) ?_;refine bF (bX zO) ?_;refine bF (bX zO) ?_;refine bs hX ?_;rfl
theorem aFc(ho:op<=15)(hn:jh a b):CC 102 (eG a (eG b [vI op]))=some (nR zD 3):=by
 obtain⟨X,hX⟩:=aFa ha hb hL ho hn;refine alC ?_;unfold acf;refine bs (vX ha) (bF rfl ?_);refine bs (vX hb) (bF rfl ?_);refine bF (by rw[hL];simp) ?_;refine bF (bX zO) ?_;refine bF (bX zO) ?_;refine bs hX ?_;rfl
end
theorem aoC{a b:Da}:∀(w:LN) (p:NP),w.foldl (pn a b) p=⟨a.run p.p w,b.run p.q w⟩
 |[],_=>rfl
 |x::w,p=>aoC w (pn a b p x)
section
variable {a b:Da}(ha:a.Ok)(hb:b.Ok)(hL:a.L=b.L){op:Nat}
include ha hb hL
theorem Hq(hn:¬jh a b):(kj a b op).Ok:=by
 unfold jh at hn;exact adL (U3 ha hb hL _) ha.l1 ha.l6 (show(ij a b).length<=512 by omega)
theorem aFd{w:LN}(hw:WL a.L w):(kj a b op).acc 0 w=Hn op (a.acc a.st w) (b.acc b.st w):=by
 have hd:(ao a.L (pn a b) ⟨a.st,b.st⟩ (a.n*b.n)).length<=a.n*b.n:=U3 ha hb hL _;have h1:=adK (fin:=pf a b op) hd (G9 _) hw;have h2:=adI (L:=a.L) (next:=pn a b) (a0:=(⟨a.st,b.st⟩:NP)) (a.n*b.n);rw[cA (G9 _)]at h2;rw[ee h2,aoC]at h1;exact h1
end
theorem aoD{op:Nat}(ho:op<=15)(x y:Bool):CC 79 [vI op,.bool x,.bool y]=some [.bool (Hn op x y)]:=by
 refine axM ?_;unfold alD TO Hn;have w2:wU 2=((2:Nat):Int):=by decide
 have w3:wU (wI (2+1))=((3:Nat):Int):=by decide
 have w1:wU (wI (0+1))=((1:Nat):Int):=by decide
 have w0:wU 0=((0:Nat):Int):=by decide
 cases x with
 |true=>
  refine bT rfl ?_;cases y with
  |true=>
   refine bT rfl ?_;rw[w3];refine bT (by decide) ?_;rw[BD ho zO];rfl
  |false=>
   refine bF rfl ?_;rw[w2];refine bT (by decide) ?_;rw[BD ho zO];rfl
 |false=>
  refine bF rfl ?_;cases y with
  |true=>
   refine bT rfl ?_;rw[w1];refine bT (by decide) ?_;rw[BD ho zO];rfl
  |false=>
   refine bF rfl ?_;rw[w0];refine bT (by decide) ?_;rw[BD ho zO];rfl
section
variable {a b:Da}(ha:a.Ok)(hb:b.Ok)(hL:a.L=b.L){op:Nat}
include ha hb hL
theorem aoE{S U:List (NP)}{p:NP}(hp0:PI a b p)(hp:aT (pn a b) S p a.L<+:U)(hU:U.length<=512){o i c1 c2 c3 c4 c5 c6 c7:Int}{l1 l2 l3 l4 l5 l6:LV}:
  Loop (Bm CC o i (a.L:Int) c1 l1 a.bL c2 c3 l2 b.bL c4 c5 c6 c7 (p.p:Int) (p.q:Int) l3 l4 l5 l6) (0,pS S,pM S,([]:LV))=
   some (.inr ((a.L:Int),false,pS (aT (pn a b) S p a.L),pM (aT (pn a b) S p a.L),(tab a.L fun x=>nV (U.idxOf (pn a b p x))))):=by
 have h6:=ha.l6;have BE:=ha.dr;have xf:=hb.dr;refine(fe a.L (fun x=>((x:Int),pS (aT (pn a b) S p x),pM (aT (pn a b) S p x),(tab x fun j=>nV (U.idxOf (pn a b p j))))) _ (fun x hx=>?_) ?_)
 .have hn:=Ho ha hb hL hp0 hx;unfold PI at hn;have Hr:aT (pn a b) S p (x+1)<+:U:=(uC S p (show x+1<=a.L by omega)).trans hp;have gl:=Hr.length_le;have k1:cS .i64 ((a.nx p.p x:Nat):Int)=true:=lZ (by have:(pn a b p x).p=a.nx p.p x:=rfl;omega);have k2:cS .i64 ((b.nx p.q x:Nat):Int)=true:=lZ (by have:(pn a b p x).q=b.nx p.q x:=rfl;omega);simp only[Bm,DI,un];refine bT (dd hx) ?_;refine bs (Da.nO hp0.1) ?_;rw[m8];refine bs (pE hx) ?_;refine bs (Da.nO hp0.2) ?_;rw[m8];refine bs (pE (hL▸hx)) ?_;simp only[V.toInt_int];refine bT (by rw[k1,k2];rfl) ?_;rw[show(V.agg [vI (a.nx p.p x:Nat),vI (b.nx p.q x:Nat)])=pV (pn a b p x)from rfl];have e1:=tu yb (pn a b p x) (aT (pn a b) S p x) 0;unfold GF;rw[show fi (pV (pn a b p x)) (pM (aT (pn a b) S p x))=_ from e1,show(V.agg [vI (a.nx p.p x:Nat),vI (b.nx p.q x:Nat)])=pV (pn a b p x)from rfl];have ei:U.idxOf (pn a b p x)=(dI (aT (pn a b) S p x) (pn a b p x)).idxOf (pn a b p x):=xW Hr zL;rw[He]at ei;rw[aT,tq]at gl;by_cases h:pn a b p x∈aT (pn a b) S p x
  .have e2:=xZ yb (pn a b p x) (vI 0) (aT (pn a b) S p x) 0 h;rw[dT]at e2;rw[ai h]at ei;refine bF (by simpa using h) ?_;rw[show gV (pV (pn a b p x)) (pM (aT (pn a b) S p x)) (vI 0)=_ from e2,V.toInt_int,<-ei];simp only[db,un];refine bT (cap (by rw[dJ];simp;omega) zO) ?_;rw[cN zO,iz,aT];unfold dI;rw[ai h];rfl
  .rw[af h]at ei gl;refine bT (by simpa using h) ?_;refine bF (by rw[pF];simp;omega) ?_;refine bT (by rw[k1,k2];rfl) ?_;refine bT (cap (by rw[pF];simp;omega) zO) ?_;simp only[db,un];refine bT (cap (by rw[dJ];simp;omega) zO) ?_;have e2:=ya yb (pn a b p x) (aT (pn a b) S p x) 0 h;rw[dT]at e2;rw[pF,show fj (pV (pn a b p x)) _ (pM (aT (pn a b) S p x))=_ from e2,<-ei,cN zO,iz,aT];unfold dI;rw[af h];simp[pS,pM,nV]
 .simp only[Bm,DI,un];refine bF (bN (aC _)) ?_;rw[bN (aC _)]
theorem aFe(ho:op<=15)(hn:¬jh a b)(AW:CC 78 (eG a (dM b))=some [vI 0]):CC 56 (eG a (eG b [vI op]))=some (nR (kj a b op) 0):=by
 have h6:=ha.l6;have BE:=ha.dr;have xf:=hb.dr;have hsa:=ha.s;have Jc:=hb.s;have hd:(ao a.L (pn a b) ⟨a.st,b.st⟩ (a.n*b.n)).length<=a.n*b.n:=U3 ha hb hL _;have hle:∀i,(ao a.L (pn a b) ⟨a.st,b.st⟩ i).length<=(ij a b).length:=UT hd;have U4:(ij a b).length<=512:=by unfold jh at hn;omega
 refine alH ?_;unfold ach;refine bs AW (bF rfl ?_);refine bF (bX zO) ?_;refine bF (bX zO) ?_;refine bT (by rw[lZ (show a.st<=_ by omega),lZ (show b.st<=_ by omega)];rfl) ?_;have key:Loop (zz CC (op:Int) (a.L:Int) (a.st:Int) a.cj a.bL (b.L:Int) (b.st:Int) b.cj b.bL 0 0 (a.L:Int) 0 ([]:LV) ([]:LV)) (0,pS [⟨a.st,b.st⟩],pM [⟨a.st,b.st⟩],([]:LV),([]:LV))=
   some (.inr (((ij a b).length:Int),false,pS (ij a b),pM (ij a b),(kj a b op).cj,(kj a b op).bL)):=by
  refine(fe (ij a b).length (fun i=>((i:Int),pS (ao a.L (pn a b) ⟨a.st,b.st⟩ i),pM (ao a.L (pn a b) ⟨a.st,b.st⟩ i),(tab i fun j=>V.bool ((kj a b op).fin j)),(tab i fun j=>ff a.L ((kj a b op).nx j)))) _ (fun i hi=>?_) ?_)
  .have fH:=Bz hd hi;have hiK:i<a.n*b.n:=gU hi hd;have vZ:(ao a.L (pn a b) ⟨a.st,b.st⟩ i)[i]=(ij a b)[i]:=(mY (show i<=a.n*b.n by omega)).getElem fH;have ad7:=hle i;have hq:PI a b (ij a b)[i]:=ad5 ha hb hL _ _ (gC hi);have iL:ao a.L (pn a b) ⟨a.st,b.st⟩ (i+1)=aT (pn a b) (ao a.L (pn a b) ⟨a.st,b.st⟩ i) (ij a b)[i] a.L:=Ea hd hi;have e1:(kj a b op).fin i=pf a b op (ij a b)[i]:=Eb hi;have e2:ff a.L ((kj a b op).nx i)=aR (tab a.L fun x=>nV ((ij a b).idxOf (pn a b (ij a b)[i] x))):=by
    unfold ff;refine congrArg _ (eK fun x hx=>?_);rw[show(kj a b op).nx i x=_ from zM hi hx];rfl
   simp only[zz,DJ,un];refine bT (bQ (by rw[pF];omega)) ?_;refine(cK (UZ fH)).trans ?_;rw[UX,UY,vZ];refine bs (aoE ha hb hL hq (U:=ij a b) (by rw[<-iL];exact mY zO) U4) ?_;rw[<-iL];simp only[db,un];refine bT (cap (by rw[dJ];simp;omega) zO) ?_;refine bs (Da.qn hq.1) ?_;refine bs (Da.qn hq.2) ?_;refine bs (aoD ho _ _) ?_;refine bT (cap (by rw[dJ];simp;omega) zO) ?_;rw[cN zO,iz,iz,e1,e2];rfl
  .simp only[zz,DJ,un];rw[show ao a.L (pn a b) ⟨a.st,b.st⟩ (ij a b).length=ij a b from Ec hd,pF];refine bF (bN (aC _)) ?_;rw[bN (aC _)];have e3:(kj a b op).n=(ij a b).length:=ql;unfold Da.cj Da.bL;rw[e3];rfl
 refine bs key ?_;rfl
end
def ad8(d e:Df):Int:=if d.val≠0 then d.val else if e.val≠0 then e.val else if d.L≠e.L then 1 else 0
theorem aFf{d e:Df}(hd:d.Ok)(he:e.Ok):CC 78 (Ha d (Ha e []))=some [vI (ad8 d e)]:=by
 refine axN ?_;unfold alE ad8;refine bs (anX hd) ?_;by_cases h1:d.val=0
 .rw[af (by simp[h1])];refine bF (by simp[h1]) ?_;refine bs (anX he) ?_;by_cases h2:e.val=0
  .rw[af (by simp[h2])];refine bF (by simp[h2]) ?_;by_cases h3:d.L=e.L
   .rw[af (by simp[h3])];exact bF (by simp[h3]) rfl
   .rw[ai h3];exact bT (by simpa using h3) rfl
  .rw[ai h2];exact bT (by simpa using h2) rfl
 .rw[ai h1];exact bT (by simpa using h1) rfl
theorem aoF{a b:Da}(ha:a.Ok)(hb:b.Ok)(hL:a.L=b.L):CC 78 (eG a (dM b))=some [vI 0]:=by
 have:=aFf ha.adP hb.adP;rw[ha.leaves,hb.leaves]at this;unfold ad8 at this;rw[af (by simp[ha.val]),af (by simp[hb.val]),af (by simp[Da.df,hL])]at this;exact this
def El(a b:Da)(e:Int):LV:=[vI a.L,vI a.st,vI b.L,vI b.st,vI e,aB a.cj,aE a.bL,aB b.cj,aE b.bL]
theorem U6{a b:Da}(ha:a.Ok)(hb:b.Ok)(hL:a.L=b.L):CC 101 (eG a (dM b))=some (El (minD a) (minD b) 0):=by
 refine ax4 ?_;unfold alI;refine bs (vX ha) (bF rfl ?_);refine bs (vX hb) (bF rfl ?_);refine bF (by rw[hL];simp) ?_;refine bs (Ow ha) ?_;refine bs (Ow hb) ?_;rfl
noncomputable def uH(a b:Da)(op:Nat):Da:=minD (kj (minD a) (minD b) op)
section
variable {a b:Da}(ha:a.Ok)(hb:b.Ok)(hL:a.L=b.L){op:Nat}
include ha hb hL
theorem tw:(minD a).L=(minD b).L:=by rw[ma ha,ma hb,hL]
theorem aoG(ho:op<=15)(hn:¬jh (minD a) (minD b)):CC 89 (eG a (eG b [vI op]))=some (nR (uH a b op) 0):=by
 refine alJ ?_;unfold aci;refine bs (U6 ha hb hL) (bF rfl ?_);have hp:=aFb (eZ ha) (eZ hb) (tw ha hb hL) ho hn;refine bs hp (bF rfl ?_);refine bs (Ow (Hq (op:=op) (eZ ha) (eZ hb) (tw ha hb hL) hn)) ?_;rfl
theorem aoH(ho:op<=15)(hn:jh (minD a) (minD b)):CC 89 (eG a (eG b [vI op]))=some (nR zD 3):=by
 refine alJ ?_;unfold aci;refine bs (U6 ha hb hL) (bF rfl ?_);refine bs (aFc (eZ ha) (eZ hb) (tw ha hb hL) ho hn) (bT rfl ?_);rfl
theorem aoI(ho:op<=15)(hn:¬jh (minD a) (minD b)):CC 32 (eG a (eG b [vI op]))=some (nR (uH a b op) 0):=by
 refine alK ?_;unfold acj;refine bs (oN ha) ?_;refine bs (oN hb) ?_;have hp:=aFe (eZ ha) (eZ hb) (tw ha hb hL) ho hn (aoF (eZ ha) (eZ hb) (tw ha hb hL));refine bs hp (bF rfl ?_);refine bs (oN (Hq (op:=op) (eZ ha) (eZ hb) (tw ha hb hL) hn)) ?_;rfl
theorem aFg(hn:¬jh (minD a) (minD b)):(uH a b op).Ok:=eZ (Hq (eZ ha) (eZ hb) (tw ha hb hL) hn)
theorem aFh(hn:¬jh (minD a) (minD b)):(uH a b op).L=a.L:=(ma (Hq (op:=op) (eZ ha) (eZ hb) (tw ha hb hL) hn)).trans (ma ha)
theorem aoJ(hn:¬jh (minD a) (minD b)){w:LN}(hw:WL a.L w):(uH a b op).acc (uH a b op).st w=Hn op (a.acc a.st w) (b.acc b.st w):=by
 have av:=Hq (op:=op) (eZ ha) (eZ hb) (tw ha hb hL) hn;have hwa:WL (minD a).L w:=by rw[ma ha];exact hw
 have h1:=BC av (w:=w) hwa;have h2:=aFd (eZ ha) (eZ hb) (tw ha hb hL) (op:=op) hwa;have h3:(kj (minD a) (minD b) op).st=0:=rfl;rw[h3]at h1;unfold uH;rw[h1,h2,BC ha hw,BC hb (hL▸hw)]
end
structure Ed where
 f:Int
 l:Int
 t:Int
deriving DecidableEq,Inhabited
namespace Ed
def enc(e:Ed):V:=.agg [vI e.f,vI e.l,vI e.t]
@[simp] theorem iT (e:Ed):(e.enc.cell 0).toInt=e.f:=by simp[enc]
@[simp] theorem iU (e:Ed):(e.enc.cell 1).toInt=e.l:=by simp[enc]
@[simp] theorem iW (e:Ed):(e.enc.cell 2).toInt=e.t:=by simp[enc]
theorem re(e:Ed):V.agg [vI e.f,vI e.l,vI e.t]=e.enc:=rfl
def lt(a b:Ed):Prop:=a.f<b.f∨a.f=b.f∧(a.l<b.l∨a.l=b.l∧a.t<b.t)
instance (a b:Ed):Decidable (lt a b):=by unfold lt;infer_instance
def Ok(e:Ed):Prop:= -9223372036854775808<=e.f∧e.f<=9223372036854775807∧ -9223372036854775808<=e.l∧e.l<=9223372036854775807∧ -9223372036854775808<=e.t∧e.t<=9223372036854775807
def In(L S:Int)(e:Ed):Prop:=0<=e.f∧e.f<S∧0<=e.t∧e.t<S∧0<=e.l∧e.l<L
instance (L S:Int)(e:Ed):Decidable (e.In L S):=by unfold In;infer_instance
end Ed
structure Nf where
 L:Int
 S:Int
 st:Nat
 fin:Nat
 E:List Ed
def pG(n:Nf)(rest:LV):LV:=vI n.L::vI n.S:: .int .u64 n.st:: .int .u64 n.fin::cg (n.E.map Ed.enc)::rest
namespace Nf
structure Ok(n:Nf):Prop where
 L1: -9223372036854775808<=n.L
 L2:n.L<=9223372036854775807
 S1: -9223372036854775808<=n.S
 S2:n.S<=9223372036854775807
 st:n.st<2^64
 fin:n.fin<2^64
 len:n.E.length<=maxLen
 E:∀e∈n.E,e.Ok
def qo(n:Nf)(i:Nat):Prop:=(n.E.getD i default).In n.L n.S∧(0<i->(n.E.getD (i-1) default).lt (n.E.getD i default))
instance (n:Nf):DecidablePred n.qo:=fun i=>by unfold qo;infer_instance
def code(n:Nf):Int:=
 if n.L<1∨n.L>6∨n.S<0∨n.S>64 then 1
 else if¬(n.st<2^n.S.toNat∧n.fin<2^n.S.toNat)then 4
 else if∀i,i<n.E.length->n.qo i then 0 else 4
structure Good(n:Nf):Prop where
 L1:1<=n.L
 L6:n.L<=6
 S0:0<=n.S
 S64:n.S<=64
 st:n.st<2^n.S.toNat
 fin:n.fin<2^n.S.toNat
 E:∀e∈n.E,e.In n.L n.S
theorem aFi{n:Nf}(h:n.code=0):n.Good:=by
 unfold code at h;split at h
 .omega
 rename_i h1;split at h
 .omega
 rename_i h2;split at h
 .rename_i h3;have h2':=Classical.not_not.1 h2;refine⟨zO,zO,zO,zO,h2'.1,h2'.2,fun e he=>?_⟩;obtain⟨i,hi,rfl⟩:=EU he;have:=(h3 i hi).1;grind
 .omega
end Nf
theorem ad9{n:Nat}(h:n<=64):wU (wU (1*2^(min n kU))-1)=((2^n-1:Nat):Int):=by
 unfold wU;rw[wrap_u64,wrap_u64];have e:min n kU=n:=BZ h;rw[e];by_cases hn:n=64
 .grind
 .have h1:2^n<2^64:=kK zO zO;grind
theorem aFj{a n:Nat}:(a|||(2^n-1)=2^n-1)↔a<2^n:=by
 constructor
 .intro h;have:a<=a|||(2^n-1):=Nat.left_le_or;grind
 .intro h;apply B8;intro i;rw[rh,Ib];by_cases hi:i<n
  .simp[hi]
  .have:a.testBit i=false:=ET (gU h (pK zO zO));grind
theorem U7{a n:Nat}:a<2^n↔∀i,n<=i->a.testBit i=false:=by
 constructor
 .intro h i hi;exact ET (gU h (pK zO hi))
 .intro h;exact Nat.lt_pow_two_of_testBit a h
theorem aea{a n:Nat}(ha:a<2^64)(hn:n<=64):
  (wU ((bU (a:Int)&&&~~~bU ((2^n-1:Nat):Int)).toNat)=0)↔a<2^n:=by
 obtain⟨D,h1,h2,h3⟩:=u64_andNot (2^n-1) ha;rw[h3,U7];constructor
 .grind
 .intro h;have:D=0:=by
   apply B8;grind
  omega
theorem aoK{a b n:Nat}:a|||b<2^n↔a<2^n∧b<2^n:=by
 rw[U7,U7,U7];grind
def v7(set:Nat)(l:Int)(a:Nat)(e:Ed):Nat:=if e.l=l∧set.testBit e.f.toNat=true then a|||2^e.t.toNat else a
def mb(E:List Ed)(set:Nat)(l:Int):Nat:=E.foldl (v7 set l) 0
theorem aoL{set a k:Nat}{l:Int}{e:Ed}(ha:a<2^k)(he:e.t.toNat<k):v7 set l a e<2^k:=by
 unfold v7;split
 .exact qt ha (kK zO he)
 .exact ha
theorem aoM{set k:Nat}{l:Int}:∀(E:List Ed) (a:Nat),a<2^k->(∀e∈E,e.t.toNat<k)->E.foldl (v7 set l) a<2^k
 |[],a,ha,_=>ha
 |e::E,a,ha,h=>aoM E _ (aoL ha (h e zS)) (fun e' he=>h e' (by simp[he]))
theorem aeb{set k:Nat}{l:Int}{E:List Ed}(h:∀e∈E,e.t.toNat<k):mb E set l<2^k:=
 aoM E 0 (uT zS) h
theorem Ed.In.nat{L S:Int}{e:Ed}(h:e.In L S)(hS:S<=64):∃f t:Nat,e.f=(f:Int)∧e.t=(t:Int)∧f<64∧t<64∧f<S.toNat∧t<S.toNat:=by
 unfold Ed.In at h;exact⟨e.f.toNat,e.t.toNat,zO,zO,zO,zO,zO,zO⟩
theorem aoN{set:Nat}{l:Int}{j:Nat}:∀(E:List Ed) (a:Nat),(E.foldl (v7 set l) a).testBit j=(a.testBit j||E.any fun e=>decide (e.l=l)&&(set.testBit e.f.toNat&&decide (e.t.toNat=j)))
 |[],a=>zS
 |e::E,a=>by
  rw[List.foldl_cons,aoN E,List.any_cons];unfold v7;by_cases h1:e.l=l
  .cases hb:set.testBit e.f.toNat with
   |true=>simp[h1,wm,Bool.or_assoc]
   |false=>simp[h1]
  .simp[h1]
theorem Oz{E:List Ed}{set:Nat}{l:Int}{j:Nat}:(mb E set l).testBit j=E.any fun e=>decide (e.l=l)&&(set.testBit e.f.toNat&&decide (e.t.toNat=j)):=by
 unfold mb;rw[aoN];simp
theorem aoO:∀(x:Nat),x≠0->∃k m,x=2^k*(2*m+1):=by
 intro x
 induction x using Nat.strongRecOn with
 |ind x ih=>
  intro hx;by_cases h:x%2=1
  .exact⟨0,x/2,by simp;omega⟩
  .obtain⟨k,m,hm⟩:=ih (x/2) zO zO;refine⟨k+1,m,?_⟩;rw[Nat.pow_succ,Nat.mul_assoc,oU 2 (2*m+1),<-Nat.mul_assoc,<-hm];omega
theorem Em{k m j:Nat}:(2^k*(2*m+1)).testBit j=(decide (j=k)||(decide (k<j)&&m.testBit (j-k-1))):=by
 rw[Nat.testBit_two_pow_mul];by_cases h:j<k
 .grind
 .by_cases h2:j=k
  .grind
  .have h3:k<j:=zO;obtain⟨d,hd⟩:∃d,j-k=d+1:=⟨j-k-1,zO⟩
   grind
theorem aec{k m j:Nat}:(2^k*(2*m)).testBit j=(decide (k<j)&&m.testBit (j-k-1)):=by
 rw[Nat.testBit_two_pow_mul];by_cases h:j<k
 .grind
 .by_cases h2:j=k
  .grind
  .have h3:k<j:=zO;obtain⟨d,hd⟩:∃d,j-k=d+1:=⟨j-k-1,zO⟩
   grind
theorem OA{k m:Nat}(h:2^k*(2*m+1)<2^64):k<64∧m<2^(63-k):=by
 have h1:2^k<=2^k*(2*m+1):=Nat.le_mul_of_pos_right _ zO;have hk:k<64:=(Nat.pow_lt_pow_iff_right (by omega:1<2)).1 (uS h1 h);refine⟨hk,?_⟩;have h2:2^64=2^k*(2*2^(63-k)):=by
  have h4:2*2^(63-k)=2^(63-k+1):=zO;rw[h4,<-Nat.pow_add];grind
 rw[h2]at h;have:=Nat.lt_of_mul_lt_mul_left h;omega
theorem aFk{k m:Nat}(h:2^k*(2*m+1)<2^64):2^64-2^k*(2*m+1)=2^k*(2*(2^(63-k)-(m+1))+1):=by
 obtain⟨hk,hm⟩:=OA h;have h2:2^64=2^k*(2*2^(63-k)):=by
  have h4:2*2^(63-k)=2^(63-k+1):=zO;rw[h4,<-Nat.pow_add];grind
 rw[h2,<-Nat.mul_sub];grind
theorem aFl{k m:Nat}(h:2^k*(2*m+1)<2^64):(2^k*(2*m+1))&&&(2^64-2^k*(2*m+1))=2^k:=by
 obtain⟨hk,hm⟩:=OA h;rw[aFk h];apply B8;intro j;rw[Ai,Em,Em,wm,Nat.testBit_two_pow_sub_succ hm];grind
theorem aoP{k m:Nat}:(2^k*(2*m+1))&&&(2^k*(2*m+1)-1)=2^k*(2*m):=by
 have e:2^k*(2*m+1)-1=2^k*(2*m)+(2^k-1):=by
  grind
 rw[e];apply B8;intro j;have bt:2^k-1<2^k:=zG;rw[Ai,Em,aec,Nat.testBit_two_pow_mul_add _ bt,Ib];by_cases h1:j<k
 .grind
 .by_cases h2:j=k
  .grind
  .have h3:k<j:=zO;obtain⟨d,hd⟩:∃d,j-k=d+1:=⟨j-k-1,zO⟩
   grind
def mem(s:Nat):LN:=(List.range 64).filter s.testBit
theorem aFm{p q:Nat->Bool}{k:Nat}(hp:p k=true)(hq:∀j,j<=k->q j=false)(aKN:∀j,j<k->p j=false)(heq:∀j,k<j->p j=q j):
  ∀n,k<n->(List.range n).filter p=k::(List.range n).filter q:=by
 have hz:∀n,n<=k->(List.range n).filter p=[]∧(List.range n).filter q=[]:=by
  intro n hn;constructor<;>rw[List.filter_eq_nil_iff]<;>intro j hj<;>rw[lj]at hj
  all_goals grind
 intro n
 induction n with
 |zero=>omega
 |succ n ih=>
  intro hk;rw[B7,List.filter_append,List.filter_append];grind
theorem aFn:mem 0=[]:=by
 unfold mem;rw[List.filter_eq_nil_iff];intro j _;simp
theorem aFo{k m:Nat}(hk:k<64):mem (2^k*(2*m+1))=k::mem (2^k*(2*m)):=by
 unfold mem;refine aFm ?_ ?_ ?_ ?_ 64 hk
 .grind
 .grind
 .grind
 .intro j hj;rw[Em,aec];grind
theorem mem_iff{s j:Nat}(hs:s<2^64):j∈mem s↔s.testBit j=true:=by
 unfold mem;rw[List.mem_filter,lj];refine⟨fun h=>h.2,fun h=>⟨?_,h⟩⟩;by_cases hj:j<64
 .exact hj
 .have:s.testBit j=false:=ET (gU hs (pK zO zO));grind
theorem aoQ(s:Nat):(mem s).length<=64:=by
 unfold mem;grind
def OB(k:Nat):Nat:=285870213051353865*2^k%18446744073709551616/288230376151711744
theorem aFp:(List.range 64).map (fun k=>(F9.drop (OB k*1))[0]?)=(List.range 64).map (fun k:Nat=>some (V.int .u8 (k:Int))):=by kernel_rfl
theorem aFq:(List.range 64).all (fun k=>Nat.blt (OB k) 64)=true:=by kernel_rfl
theorem aFr{k:Nat}(hk:k<64):(F9.drop (OB k*1))[0]?=some (V.int .u8 (k:Int)):=by
 have h:=congrArg (·[k]?) aFp;simpa[hk]using h
theorem aFs{k:Nat}(hk:k<64):OB k<64:=by
 have h:=il.1 aFq k (lj.2 hk);simpa[rb]using h
theorem aFt(z:Int):fR Tryz.prog 5 (.int .u8 z)=true:=by kernel_rfl
theorem aoR{k m:Nat}(h:2^k*(2*m+1)<2^64):CC 77 [.int .u64 (2^k*(2*m+1):Nat)]=some [vI k]:=by
 obtain⟨hk,hm⟩:=OA h;have lp:0<2^k*(2*m+1):=Nat.mul_pos (uT zS) zO;refine ax5 ?_;unfold alL;generalize hx:2^k*(2*m+1)=x at*
 have e1:wU (0-(x:Int))=((2^64-x:Nat):Int):=by unfold wU;rw[wrap_u64];omega
 have e2:x&&&(2^64-x)=2^k:=by rw[<-hx];exact aFl (by rw[hx];exact h)
 have xg:2^k<2^64:=kK zO hk;have e3:wU (285870213051353865*((2^k:Nat):Int))=((285870213051353865*2^k%18446744073709551616:Nat):Int):=by unfold wU;rw[wrap_u64];omega
 have e4:Int.fdiv ((285870213051353865*2^k%18446744073709551616:Nat):Int) (2^(min (58:Int).toNat kU))=((OB k:Nat):Int):=by
  have:=FU (A:=285870213051353865*2^k%18446744073709551616) (m:=58) zO;exact this
 rw[kb,cl,e1,u64_and h zO,e2,e3,e4,Int.toNat_natCast,aFr hk];have hb:=aFs hk;rw[dZ,aF,aU,aF,aU];simp only[Option.bind_some,aFt,cond_true,V.toInt_int];rw[dk]
def sm(l:LN):LV:=l.map fun(k:Nat)=>vI k
theorem aFu:∀(s:Nat),s<2^64->∀acc:LV,acc.length+(mem s).length<=64->Loop (Md CC) ((s:Int),acc)=some (0,false,acc++sm (mem s)):=by
 intro s
 induction s using Nat.strongRecOn with
 |ind s ih=>
  intro hs acc hl;by_cases h0:s=0
  .subst h0;refine dg ?_;simp[Md,Mb,un,aFn,sm]
  .obtain⟨k,m,rfl⟩:=aoO s h0;obtain⟨hk,hm⟩:=OA hs;have lp:0<2^k:=uT zS;have bt:2^k*(2*m)<2^k*(2*m+1):=Nat.mul_lt_mul_of_pos_left zO lp;have wO:=aFo (m:=m) hk;rw[wO,List.length_cons]at hl;have hp:((2^k*(2*m+1):Nat):Int)-1=((2^k*(2*m+1)-1:Nat):Int):=zO;have cv:Md CC (((2^k*(2*m+1):Nat):Int),acc)=some (.inl (((2^k*(2*m):Nat):Int),acc++[vI k])):=by
    simp only[Md,Mb,un];rw[xj,cl,aoR hs];simp only[Option.bind_some,V.bj,V.toInt_int,gI];rw[hp,sY (A:=2^k*(2*m+1)-1) zO,u64_and hs zO,aoP,vD,ai (by rw[uA];simp only[List.length_cons,List.length_nil];omega)]
   rw[fg cv,ih _ bt zO _ (by simp only[dQ,List.length_cons,List.length_nil];omega),wO];simp[sm]
theorem aFv{s:Nat}(hs:s<2^64):CC 173 [.int .u64 s]=some [aR (sm (mem s))]:=by
 refine ax9 ?_;unfold alM;have:=aFu s hs [] (by simpa using aoQ s);rw[this];simp[un]
def U1(R:LN):LV:=R.map fun(x:Nat)=>V.int .u64 x
def U2(T:List (LN)):LV:=T.map fun R=>bn (U1 R)
theorem aoS:Tryz.prog.underlying 73=some (.slice 63):=by kernel_rfl
theorem aed:cP Tryz.prog 73=false:=by kernel_rfl
theorem aoT{P:Program}{e e1:TypeId}{l:LV}(hu:P.underlying e=some (.slice e1))(ha:cP P e=false):parts P e (.list e1 l)=[.list e1 l]:=by
 unfold parts;rw[ha];simp only[cond_false,iE,hu,V.dD]
theorem aFw{T:List (LN)}{i:Nat}{R:LN}(h:T[i]?=some R):ej Tryz.prog 73 (U2 T) [(i,0)]=some (bn (U1 R)):=by
 have e:(U2 T)[i]?=some (bn (U1 R)):=by unfold U2;rw[j5,h];rfl
 simp only[ej,e,Option.bind_some];rw[aoT aoS aed];rfl
theorem aFx{T:List (LN)}{i:Nat}{R R':LN}(h:T[i]?=some R):setRow Tryz.prog (U1 R') 73 (U2 T) [(i,0)]=U2 (T.set i R'):=by
 have e:(U2 T)[i]?=some (bn (U1 R)):=by unfold U2;rw[j5,h];rfl
 simp only[setRow,e];rw[aoT aoS aed];simp only[List.getElem?_cons_zero,List.set_cons_zero,dW,aed,cond_false,V.bj,gI,gL,gB];exact(Ic (f:=fun R=>bn (U1 R))).symm
theorem aee{R:LN}{i a:Nat}(h:R[i]?=some a):(U1 R)[i]?=some (.int .u64 a):=by unfold U1;grind
theorem aFy(R:LN)(i a:Nat):(U1 R).set i (.int .u64 a)=U1 (R.set i a):=(Ic (f:=fun(x:Nat)=>V.int .u64 x)).symm
@[simp] theorem qX (R:LN):(U1 R).length=R.length:=by simp[U1]
@[simp] theorem aKO (T:List (LN)):(U2 T).length=T.length:=by simp[U2]
theorem aoU{g:Nat->Nat}{j:Nat}:∀(l:LN) (a:Nat),(l.foldl (fun a p=>a|||g p) a).testBit j=(a.testBit j||l.any fun p=>(g p).testBit j)
 |[],a=>zS
 |p::l,a=>by rw[List.foldl_cons,aoU l];grind
def pH(L S:Nat)(E:List Ed):List (LN):=(List.range L).map fun(x:Nat)=>(List.range S).map fun(p:Nat)=>mb E (2^p) (x:Int)
theorem aef{L S:Nat}{E:List Ed}{x:Nat}(hx:x<L):(pH L S E)[x]?=some ((List.range S).map fun(p:Nat)=>mb E (2^p) (x:Int)):=by simp[pH,hx]
theorem aFz{L S:Nat}{E:List Ed}{e:Ed}{l f:Nat}(hl:e.l=(l:Int))(hf:e.f=(f:Int))(hlL:l<L)(hfS:f<S):
  (pH L S E).set l (((List.range S).map fun(p:Nat)=>mb E (2^p) (l:Int)).set f (mb E (2^f) (l:Int)|||2^e.t.toNat))=pH L S (E++[e]):=by
 apply wi;intro x;rw[yp];by_cases hx:x<L
 .simp only[aef hx];by_cases pT:l=x
  .subst pT;rw[ai rfl,ai (by simp[pH,hx]),gi];apply wi;intro p;rw[yp];by_cases hp:p<S
   .by_cases U8:f=p
    .subst U8;rw[ai rfl,ai (by simp[hp])];simp[hp,mb,Pg,v7,hl,hf]
    .rw[af U8];simp[hp,mb,Pg,v7,hl,hf,wm,Ne.symm U8,fun h:p=f=>U8 h.symm]
   grind
  .rw[af pT,gi];apply rf;intro p _;have:¬e.l=(x:Int):=zO;simp[mb,Pg,v7,this]
 .have h1:¬l=x:=zO;rw[af h1];simp[pH,hx]
theorem aFA{α:Type}(a b:α)(i d:Nat):(List.replicate i a++List.replicate (d+1) b).set i a=List.replicate (i+1) a++List.replicate d b:=by
 rw[List.set_append_right _ _ zS,BY,Nat.sub_self,List.replicate_succ,List.set_cons_zero,Pf,iC];rfl
def En(a b:Int):Int:=if a<b then-1 else if b<a then 1 else 0
def Eo(a b:Int):Int:=if a=0 then b else a
def uI(a b:Ed):Int:=Eo (En a.f b.f) (Eo (En a.l b.l) (En a.t b.t))
theorem Hs(a b:Ed):uI a b<0↔a.lt b:=by
 simp only[uI,Eo,En,Ed.lt];omega
theorem aFB(a b:Ed):uI a b=0↔a=b:=by
 cases a;cases b;simp only[uI,Eo,En,Ed.mk.injEq];omega
theorem aoV(x:Int):CC 132 [vI x]=some [.bool false]:=by
 refine ayl ?_;unfold alT;simp
theorem Ht(x y:Int):CC 123 [vI x,vI y]=some [vI (En x y)]:=by
 refine ayk ?_;unfold alS;rw[aoV,aoV];simp only[Option.bind_some,V.bj,V.iM,cond_false,aF,En,gI,gB];grind
theorem aoW(a b c:Int):CC 122 [aR [vI a,vI b,vI c]]=some [vI (Eo a (Eo b c))]:=by
 refine ayo ?_;unfold alU;have st:∀(i:Nat) (x:Int),i<3->([vI a,vI b,vI c])[i]?=some (vI x)->
   Bo CC 0 [vI a,vI b,vI c] 3 (i:Int)=some (if x=0 then .inl ((i+1:Nat):Int)else .inr (.inl x)):=by
  intro i x hi hx;simp only[Bo,Mi,un,aF,C7];rw[aU,hx];simp only[Option.bind_some,V.toInt_int,xj];split
  .rw[dk];simp
  .rfl
 have h0:=st 0 a zO rfl;have h1:=st 1 b zO rfl;have h2:=st 2 c zO rfl;have e:Loop (Bo CC 0 [vI a,vI b,vI c] 3) 0=some (if a≠0 then .inl a else if b≠0 then .inl b else if c≠0 then .inl c else .inr (3,false)):=by
  by_cases ha:a=0
  .rw[ai ha]at h0;rw[fg (show Bo CC 0 [vI a,vI b,vI c] 3 0=_ from h0),af zO];by_cases hb:b=0
   .rw[ai hb]at h1;rw[fg h1,af zO];by_cases hc:c=0
    .rw[ai hc]at h2;rw[fg h2,af zO];refine dg ?_;simp[Bo,Mi,un]
    .rw[af hc]at h2;rw[dg h2,ai hc]
   .rw[af hb]at h1;rw[dg h1,ai hb]
  .rw[af ha]at h0;rw[dg (show Bo CC 0 [vI a,vI b,vI c] 3 0=_ from h0),ai ha]
 have e':Loop (Bo CC 0 [vI a,vI b,vI c] (([vI a,vI b,vI c]:LV).length:Int)) 0=_:=e;rw[e'];simp only[Eo];by_cases ha:a=0
 .by_cases hb:b=0
  .by_cases hc:c=0
   .simp[ha,hb,hc,db,un]
   .simp[ha,hb,hc,db,un]
  .simp[ha,hb,db,un]
 .simp[ha,db,un]
theorem aFC(a b:Ed):CC 166 [vI a.f,vI a.l,vI a.t,vI b.f,vI b.l,vI b.t]=some [vI (uI a b)]:=by
 refine ayj ?_;unfold alR;rw[Ht,Ht,Ht];simp only[Option.bind_some,V.bj,V.toInt_int,gI,gB];rw[aoW];simp[uI]
theorem aoX(a b:Ed):CC 96 [vI a.f,vI a.l,vI a.t,vI b.f,vI b.l,vI b.t]=some [.bool (decide (a.lt b))]:=by
 refine ayp ?_;unfold alV;simp only[xj];split
 .split
  .refine congrArg (fun b=>some [V.bool b]) ?_;rw[yv];unfold Ed.lt;omega
  .refine congrArg (fun b=>some [V.bool b]) ?_;rw[yv];unfold Ed.lt;omega
 .refine congrArg (fun b=>some [V.bool b]) ?_;rw[yv];unfold Ed.lt;omega
theorem aFD{n:Int}(h0:0<=n)(h1:n<=64):CC 165 [vI n]=some [.int .u64 (2^n.toNat-1:Nat)]:=by
 refine ayi ?_;unfold alQ;rw[aF,ai h0,ad9 zO]
theorem Ep{E:List Ed}{i:Nat}(h:i<E.length):idx (E.map Ed.enc) (i:Int)=some (E.getD i default).enc:=by
 simp_all
theorem aFE(n:Nf)(h:n.Ok):Loop (TS CC (n.E.map Ed.enc) ((n.E.map Ed.enc).length:Int) n.L n.S n.st n.fin (n.E.map Ed.enc)) 0=some (if∀i,i<n.E.length->n.qo i then .inr ((n.E.length:Int),false)else .inl 4):=by
 have hl:=h.len;have hm:=si;refine Bx (good:=n.qo) n.E.length (fun i=>(i:Int)) (Sum.inl 4:Int⊕(Int×Bool)) (Sum.inr ((n.E.length:Int),false)) (fun i hi=>?_) ?_
 .simp only[TS,Mj,un,cu,aF];rw[aU,Ep hi];simp only[Option.bind_some,Ed.iT,Ed.iU,Ed.iW];generalize he:n.E.getD i default=e;by_cases gZ:e.In n.L n.S
  .have aeg:=gZ;unfold Ed.In at aeg;rw[af zO,af zO,cl];by_cases OC:(i:Int)>0
   .rw[ai OC,dk];have e1:(i:Int)-1=((i-1:Nat):Int):=zO;rw[e1,Ep zO];simp only[Option.bind_some,Ed.iT,Ed.iU,Ed.iW];generalize hp:n.E.getD (i-1) default=p;rw[aFC];simp only[Option.bind_some,V.bj,V.toInt_int,aF,gI];by_cases tW:p.lt e
    .have hx:n.qo i:=⟨zG,fun _=>zG⟩
     have h1:¬uI p e>0:=by have:=(Hs p e).2 tW;omega
     rw[ai hx,af h1];have h2:(((p.f:Int)==e.f)&&((p.l==e.l)&&((p.t==e.t)&&true)))=false:=by
      unfold Ed.lt at tW;grind
     rw[h2,cond_false,dk];simp
    .have hx:¬n.qo i:=fun hx=>tW (by have:=hx.2 zO;grind);rw[af hx];by_cases uJ:p=e
     .grind
     .have h1:uI p e>0:=by
       have h3:¬uI p e<0:=fun hx=>tW ((Hs p e).1 hx);have h4:¬uI p e=0:=fun hx=>uJ ((aFB p e).1 hx);omega
      grind
   .have hx:n.qo i:=⟨zG,fun _=>zO⟩
    rw[af OC,ai hx,dk];simp
  .have hx:¬n.qo i:=fun hx=>gZ (by have:=hx.1;grind);rw[af hx];unfold Ed.In at gZ;grind
 .simp only[TS,Mj,un,cu,aF];grind
theorem aoY(n:Nf)(h:n.Ok):CC 151 (pG n [])=some [vI n.code]:=by
 refine ays ?_;unfold alW Nf.code;simp only[aF];by_cases h1:n.L<1
 .grind
 rw[af h1];by_cases h2:n.L>6
 .grind
 rw[af h2];by_cases h3:n.S<0
 .grind
 rw[af h3];by_cases h4:n.S>64
 .grind
 rw[af h4,aFD zO zO];simp only[Option.bind_some,V.bj,V.toInt_int,gI];rw[u64_or h.st h.fin,aFE n h,af (show¬(n.L<1∨n.L>6∨n.S<0∨n.S>64) by omega)];have Qv:n.st|||n.fin<2^64:=qt h.st h.fin;rw[xj];by_cases h5:n.st<2^n.S.toNat∧n.fin<2^n.S.toNat
 .rw[ai ((aea Qv zO).2 (aoK.2 h5)),af (uY h5)];split<;>simp[db,un]
 .rw[af (fun hx=>h5 (aoK.1 ((aea Qv zO).1 hx))),ai h5]
theorem aFF{n:Int}(h0:0<=n)(h1:n<=64):CC 111 [vI n]=some [.int .u64 (2^n.toNat-1:Nat)]:=by
 refine ayw ?_;unfold alY;rw[aF];split
 .have:n=64:=zO;subst this;rfl
 .have e:wU n=n:=by unfold wU;rw[wrap_u64];omega
  rw[aF,e,ai h0,ad9 zO]
theorem aFG(n:Nf)(h:n.Ok):Loop (TT CC (n.E.map Ed.enc) ((n.E.map Ed.enc).length:Int) n.L n.S n.st n.fin (n.E.map Ed.enc)) 0=some (if∀i,i<n.E.length->n.qo i then .inr ((n.E.length:Int),false)else .inl 4):=by
 have hl:=h.len;have hm:=si;refine Bx (good:=n.qo) n.E.length (fun i=>(i:Int)) (Sum.inl 4:Int⊕(Int×Bool)) (Sum.inr ((n.E.length:Int),false)) (fun i hi=>?_) ?_
 .simp only[TT,Ml,un,cu,aF];rw[aU,Ep hi];simp only[Option.bind_some,Ed.iT,Ed.iU,Ed.iW];generalize he:n.E.getD i default=e;by_cases gZ:e.In n.L n.S
  .have aeg:=gZ;unfold Ed.In at aeg;rw[cl,cl,cl,cl,cl,cl];by_cases OC:(i:Int)>0
   .rw[ai OC,dk];have e1:(i:Int)-1=((i-1:Nat):Int):=zO;rw[e1,Ep zO];simp only[Option.bind_some,Ed.iT,Ed.iU,Ed.iW];generalize hp:n.E.getD (i-1) default=p;rw[aoX];simp only[Option.bind_some,V.bj,V.iM,kB,aF,gI,gB];by_cases tW:p.lt e
    .have hx:n.qo i:=⟨by rw[he];exact gZ,fun _=>by rw[he,hp];exact tW⟩
     rw[ai hx,ai tW,dk];simp
    .have hx:¬n.qo i:=fun hx=>tW (by have:=hx.2 zO;rwa [he,hp]at this);rw[af hx,af tW]
   .have hx:n.qo i:=⟨by rw[he];exact gZ,fun _=>zO⟩
    rw[af OC,ai hx,dk];simp
  .have hx:¬n.qo i:=fun hx=>gZ (by have:=hx.1;rwa [he]at this);rw[af hx];unfold Ed.In at gZ;by_cases h1:e.f<0
   .rw[ai h1]
   rw[af h1];by_cases h1:e.f>=n.S
   .rw[ai h1]
   rw[af h1];by_cases h1:e.t<0
   .rw[ai h1]
   rw[af h1];by_cases h1:e.t>=n.S
   .rw[ai h1]
   rw[af h1];by_cases h1:e.l<0
   .rw[ai h1]
   rw[af h1,aU]
 .simp only[TT,Ml,un,cu,aF];rw[cl];simp
theorem aoZ(n:Nf)(h:n.Ok):CC 97 (pG n [])=some [vI n.code]:=by
 refine ayv ?_;unfold alX Nf.code;rw[anU];simp only[Option.bind_some,V.bj,V.iM,kB,aF,gI,gB];by_cases h0:¬(1<=n.L∧n.L<=6)
 .rw[af h0,aU]
 have h1:=Classical.not_not.1 h0;rw[ai h1];by_cases h3:n.S<0
 .rw[ai h3,aU]
 rw[af h3];by_cases h4:n.S>64
 .rw[ai h4,aU]
 rw[af h4,aFF zO zO];simp only[Option.bind_some,V.bj,V.toInt_int,gI,gB];have hb:2^n.S.toNat-1<2^64:=by
  have h5:2^n.S.toNat<=2^64:=pK zO zO;omega
 rw[u64_or h.st hb,u64_or h.fin hb,aFG n h,af (show¬(n.L<1∨n.L>6∨n.S<0∨n.S>64) by omega)];simp only[xj];have hc:∀a:Nat,(((a|||(2^n.S.toNat-1):Nat):Int)=((2^n.S.toNat-1:Nat):Int))↔a<2^n.S.toNat:=fun a=>by
  rw[<-aFj];omega
 by_cases h5:n.st<2^n.S.toNat
 .rw[ai ((hc _).2 h5)];by_cases h6:n.fin<2^n.S.toNat
  .rw[ai ((hc _).2 h6),af (uY (And.intro h5 h6))];split<;>simp[db,un]
  .rw[af (fun hx=>h6 ((hc _).1 hx)),ai (fun hx:n.st<2^n.S.toNat∧n.fin<2^n.S.toNat=>h6 hx.2)]
 .rw[af (fun hx=>h5 ((hc _).1 hx)),ai (fun hx:n.st<2^n.S.toNat∧n.fin<2^n.S.toNat=>h5 hx.1)]
theorem U9{m:Nat}(h:m<64):CC 58 [vI m]=some [.int .u64 (2^m:Nat)]:=by
 refine alZ ?_;unfold acm;have e:wU (m:Int)=m:=by unfold wU;rw[wrap_u64];omega
 rw[aF,e,aU,Int.toNat_natCast,A0 h]
theorem aFH{A m:Nat}(hA:A<2^64)(h:m<64):CC 112 [.int .u64 A,vI m]=some [.bool (A.testBit m)]:=by
 refine ayB ?_;unfold al1;have e:wU (m:Int)=m:=by unfold wU;rw[wrap_u64];omega
 rw[aF,e,aU,Int.toNat_natCast,Yh hA h]
theorem ao0{E:List Ed}{i:Nat}(h:i<E.length):E.getD i default=E[i]:=by simp[h]
theorem aFI(n:Nf)(hg:n.Good)(hl:n.E.length<=maxLen){set:Nat}(vd:set<2^64)(l:Int):
  Loop (Mn CC (set:Int) l (n.E.map Ed.enc) ((n.E.map Ed.enc).length:Int)) (0,0)=some (((mb n.E set l:Nat):Int),(n.E.length:Int),false):=by
 have hm:=si;have:=adD (step:=Mn CC (set:Int) l (n.E.map Ed.enc) ((n.E.map Ed.enc).length:Int)) n.E (fun i (a:Nat)=>((a:Int),(i:Int))) (v7 set l) (fun a=>((a:Int),(n.E.length:Int),false)) (fun _ a=>a<2^64)
  (fun i a hi ha=>?_) (fun a ha=>?_) 0 zO
 .exact this.1
 .have gZ:=hg.E n.E[i] (gC hi);obtain⟨f,t,ef,et,hf,ht,_,_⟩:=gZ.nat hg.S64;refine⟨?_,aoL ha zO⟩;simp only[Mn,Mm,un,cu,aF];rw[aU,Ep hi,ao0 hi];simp only[Option.bind_some,Ed.iT,Ed.iU,Ed.iW,kb,ef,et,Int.toNat_natCast];rw[aFH vd hf,U9 ht];simp only[Option.bind_some,V.bj,V.iM,V.toInt_int,gI,gB];rw[dk,u64_or ha (kK zO ht)];unfold v7;rw[ef,et,Int.toNat_natCast,Int.toNat_natCast];by_cases h1:n.E[i].l=l
  .rw[ai h1];cases hb:set.testBit f with
   |true=>simp[h1]
   |false=>simp[h1]
  .rw[af h1,af (fun hx=>h1 hx.1)];simp
 .simp only[Mn,Mm,un,cu,aF];rw[cl];simp
theorem ao1(n:Nf)(h:n.Ok)(hg:n.Good){set:Nat}(vd:set<2^64)(l:Int):
  CC 98 (pG n [.int .u64 set,vI l])=some [.int .u64 (mb n.E set l:Nat)]:=by
 refine ayA ?_;unfold al0;rw[aFI n hg h.len vd l];rfl
theorem ao2(n:Nf)(h:n.Ok)(hg:n.Good):CC 153 (pG n [])=some [po (U2 (pH n.L.toNat n.S.toNat n.E))]:=by
 have hm:=si;have hlen:=h.len;have l1:=hg.L1;have l6:=hg.L6;have s0:=hg.S0;have yc:=hg.S64;refine ayE ?_;unfold al3;obtain⟨L,hL⟩:∃L:Nat,n.L=(L:Int):=⟨n.L.toNat,zO⟩
 obtain⟨S,hS⟩:∃S:Nat,n.S=(S:Int):=⟨n.S.toNat,zO⟩
 simp only[hL,hS,Int.toNat_natCast,BY];rw[dZ,aF,aU,dZ,aF,aU,vD,ai (by rw[uA];omega)];have e1:Loop (Mp CC (L:Int) (L:Int) (S:Int) n.st n.fin (n.E.map Ed.enc)) (0,List.replicate L (bn []))=
   some ((L:Int),false,List.replicate L (bn (U1 (List.replicate S 0)))):=by
  have:=JJ (step:=Mp CC (L:Int) (L:Int) (S:Int) n.st n.fin (n.E.map Ed.enc))
   (fun i=>((i:Int),List.replicate i (bn (U1 (List.replicate S 0)))++List.replicate (L-i) (bn []))) L (r:=((L:Int),false,List.replicate L (bn (U1 (List.replicate S 0))))) ?_ ?_
  .grind
  .intro i hi;obtain⟨d,hd⟩:∃d,L-i=d+1:=⟨L-i-1,zO⟩
   have tX:L-(i+1)=d:=zO;simp only[Mp,Mo,un,hd,tX,aj,az];rw[aF,aU,dZ,aF,aU,dZ,aF,aU,vD,ai (by rw[uA,Int.toNat_natCast];omega)];rw[dZ,aF,aU,aF,ai zG,Int.toNat_natCast];have iq:(List.replicate i (bn (U1 (List.replicate S 0)))++List.replicate (d+1) (bn []))[i]?=some (bn []):=by
    grind
   rw[iq];simp only[Option.bind_some,Int.toNat_natCast];have hr:List.replicate S (V.int .u64 0)=U1 (List.replicate S 0):=by simp[U1]
   rw[hr,aFA,dk];simp
  .simp only[Mp,Mo,un,aj,az];grind
 rw[e1];simp only[Option.bind_some,un];have e0:List.replicate L (bn (U1 (List.replicate S 0)))=U2 (pH L S []):=by
  unfold U2 pH;simp only[mb,List.foldl_nil];apply wi;intro i;by_cases hi:i<L
  .simp only[HY,hi,jZ,j5,H6,Option.map_some,gi];congr 2;apply wi;grind
  grind
 rw[e0];have e2:Loop (Mr CC (n.E.map Ed.enc) ((n.E.map Ed.enc).length:Int)) (0,U2 (pH L S []))=some ((n.E.length:Int),false,U2 (pH L S n.E)):=by
  have:=JJ (step:=Mr CC (n.E.map Ed.enc) ((n.E.map Ed.enc).length:Int)) (fun i=>((i:Int),U2 (pH L S (n.E.take i)))) n.E.length (r:=((n.E.length:Int),false,U2 (pH L S n.E))) ?_ ?_
  .grind
  .intro i hi;have gZ:=hg.E n.E[i] (gC hi);obtain⟨f,t,ef,et,hf,ht,hfS,htS⟩:=gZ.nat hg.S64;obtain⟨l,el⟩:∃l:Nat,n.E[i].l=(l:Int):=⟨n.E[i].l.toNat,by unfold Ed.In at gZ;omega⟩
   have hlL:l<L:=by unfold Ed.In at gZ;omega
   have ao3:f<S:=zO;simp only[Mr,Mq,un,cu,aj,az];rw[aF,aU,Ep hi,ao0 hi];simp only[Option.bind_some,Ed.iT,Ed.iU,Ed.iW,ef,et,el,Int.toNat_natCast];have eC:=aef (S:=S) (E:=n.E.take i) hlL;have hU:(U2 (pH L S (n.E.take i))).length=L:=by simp[pH]
   rw[dZ,aF,aU,aF,ai zO];rw[show(U2 (pH L S (n.E.take i)))[l]?=some (bn (U1 ((List.range S).map fun(p:Nat)=>mb (n.E.take i) (2^p) (l:Int)))) by unfold U2;grind];simp only[aFw eC,Option.bind_some,V.dD];have QD:(U1 ((List.range S).map fun(p:Nat)=>mb (n.E.take i) (2^p) (l:Int)))[f]?=some (.int .u64 (mb (n.E.take i) (2^f) (l:Int):Nat)):=aee (by simp[ao3]);rw[dZ,aF,aU,aF,ai (by simp;omega),QD];simp only[Option.bind_some,V.toInt_int];rw[aF,aU,dZ,aF,aU,aF,ai (by simp;omega)];have bt:mb (n.E.take i) (2^f) (l:Int)<2^64:=aeb fun e he=>by
    have:=(hg.E e (List.mem_of_mem_take he)).nat hg.S64;omega
   rw[A0 ht,u64_or bt (kK zO ht),aFy,aFx eC,dk];have qC:n.E[i].t.toNat=t:=zO;have hsn:=aFz (E:=n.E.take i) (e:=n.E[i]) (S:=S) el ef hlL ao3;simp_all
  .simp only[Mr,Mq,un,cu,aj,az];grind
 rw[e2];rfl
structure Hu(R:LN):Prop where
 len:R.length<=64
 lt:∀a∈R,a<2^R.length
theorem Hu.get{R:LN}(h:Hu R)(i:Nat):R.getD i 0<2^64:=by
 rw[yu];by_cases hi:i<R.length
 .rw[cA hi];exact gU (h.lt _ (gC hi)) (pK zO h.len)
 grind
theorem ao4{R:LN}{i:Nat}(h:i<R.length):idx (U1 R) (i:Int)=some (.int .u64 (R.getD i 0:Nat)):=by
 rw[C7];have:R.getD i 0=R[i]:=by simp[h]
 rw[this];exact aee zS
theorem ao5{n:Nat}(h1:n<=64):CC 174 [vI n]=some [.int .u64 (2^n-1:Nat)]:=by
 refine ayh ?_;unfold alP;rw[aF,aU,Int.toNat_natCast,ad9 zO]
theorem aFJ{n:Nat}(h:n<=64):2^n-1<2^64:=by
 have h5:2^n<=2^64:=pK zO h;omega
theorem aFK{R:LN}(h:Hu R):CC 172 [bn (U1 R)]=some [.bool true]:=by
 have hl:=h.len;refine ayg ?_;unfold alO;rw[aF,af (by rw[qX];omega)];have:=JJ (step:=Mh CC (U1 R) (U1 R) ((U1 R).length:Int)) (fun i=>(i:Int)) R.length (r:=.inr ((R.length:Int),false)) ?_ ?_
 .rw[show Loop (Mh CC (U1 R) (U1 R) ((U1 R).length:Int)) 0=_ from this];rfl
 .intro i hi;simp only[Mh,Mg,qX];rw[aF,aU,ao4 hi,ao5 hl];simp only[Option.bind_some,V.bj,V.toInt_int,gI,gL,gB];have hm:R.getD i 0∈R:=by
   grind
  rw[xj,ai ((aea (h.get i) hl).2 (h.lt _ hm)),dk];simp
 .simp only[Mh,Mg,qX];grind
def Va(R:LN)(s:Nat):Nat:=(mem s).foldl (fun a p=>a|||R.getD p 0) 0
theorem aFL{R:LN}{s j:Nat}:(Va R s).testBit j=(mem s).any fun p=>(R.getD p 0).testBit j:=by
 unfold Va;rw[aoU];simp
theorem aeh{s n j:Nat}(hs:s<2^64)(hn:n<=64):j∈mem (s&&&(2^n-1))↔j<n∧s.testBit j=true:=by
 rw[mem_iff (uS B6 hs),Ai,Ib];grind
theorem aFM{R:LN}(h:Hu R){s:Nat}(hs:s<2^64):
  CC 169 [bn (U1 R),.int .u64 s]=some [.int .u64 ((Va R (s&&&(2^R.length-1)):Nat):Int)]:=by
 have hl:=h.len;refine ayd ?_;unfold alN;have mR:s&&&(2^R.length-1)<2^64:=uS B6 hs;rw[aFK h];simp only[Option.bind_some,V.bj,V.iM,BX,cond_false,qX,gI,gL,gB];rw[ao5 hl];simp only[Option.bind_some,V.bj,V.toInt_int,gI,gL,gB];rw[u64_and hs (aFJ hl),aFv mR];simp only[Option.bind_some,V.bj,V.dD,gI,gL,gB];have QR:=aoQ (s&&&(2^R.length-1));have:=adD (step:=Mf CC (U1 R) ((sm (mem (s&&&(2^R.length-1)))).length:Int) (sm (mem (s&&&(2^R.length-1))))) (mem (s&&&(2^R.length-1)))
  (fun i (a:Nat)=>((a:Int),(i:Int))) (fun a p=>a|||R.getD p 0) (fun a=>((a:Int),((mem (s&&&(2^R.length-1))).length:Int),false)) (fun _ a=>a<2^64) ?_ ?_ 0 zO
 .rw[show Loop (Mf CC (U1 R) ((sm (mem (s&&&(2^R.length-1)))).length:Int) (sm (mem (s&&&(2^R.length-1))))) (0,0)=_ from this.1];rfl
 .intro i a hi ha;refine⟨?_,qt ha (h.get _)⟩;have hp:=(aeh hs hl).1 (gC hi);generalize hp':(mem (s&&&(2^R.length-1)))[i]=p at hp⊢;simp only[Mf,Me,un,aj];have e1:(sm (mem (s&&&(2^R.length-1)))).length=(mem (s&&&(2^R.length-1))).length:=by simp[sm]
  have e2:(sm (mem (s&&&(2^R.length-1))))[i]?=some (vI p):=by
   unfold sm;grind
  rw[aF,aU,dZ,aF,aU,aF,aU,Int.toNat_natCast,e2];simp only[Option.bind_some,V.toInt_int];rw[ao4 hp.1];simp only[Option.bind_some,V.toInt_int];rw[u64_or ha (h.get p),dk];simp
 .intro a ha;have e1:(sm (mem (s&&&(2^R.length-1)))).length=(mem (s&&&(2^R.length-1))).length:=by simp[sm]
  simp only[Mf,Me,un,aj];grind
def sq(S:Nat)(E:List Ed)(x:Int):LN:=(List.range S).map fun(p:Nat)=>mb E (2^p) x
theorem aFN{S:Nat}{E:List Ed}{x:Int}(hS:S<=64)(hE:∀e∈E,e.t.toNat<S):Hu (sq S E x)where
 len:=by simp[sq,hS]
 lt:=by
  intro a ha;simp only[sq,lh]at ha;obtain⟨p,_,rfl⟩:=ha;have:(sq S E x).length=S:=by simp[sq]
  rw[this];exact aeb hE
theorem aFO{S:Nat}{E:List Ed}{x:Int}{s:Nat}(hs:s<2^64)(hS:S<=64)(hE:∀e∈E,e.f.toNat<S):Va (sq S E x) (s&&&(2^S-1))=mb E s x:=by
 apply B8;intro j;rw[aFL,Oz,sD,B5,B5];constructor
 .rintro⟨p,hp,hb⟩;obtain⟨h1,h2⟩:=(aeh hs hS).1 hp;have e1:(sq S E x).getD p 0=mb E (2^p) x:=by simp[sq,h1]
  rw[e1,Oz,B5]at hb;grind
 .rintro⟨e,he,hb⟩;simp only[aZ,fp]at hb;refine⟨e.f.toNat,(aeh hs hS).2 ⟨hE e he,hb.2.1⟩,?_⟩;have e1:(sq S E x).getD e.f.toNat 0=mb E (2^e.f.toNat) x:=by simp[sq,hE e he]
  rw[e1,Oz,B5];grind
def uV(q:Nat):V:=.int .u64 q
def uM(S:LN):LV:=jg uV 0 S
theorem Er(a b:Nat):jF (uV a) (uV b)=decide (a=b):=aEj a b
theorem Vb{S:LN}{i:Nat}(h:i<S.length):(U1 S)[i]?=some (uV S[i]):=aee (cA h)
theorem ao6{x:Nat}(hx:x<2^64):CC 167 [uV x,bn []]=some [nV 0,bn (U1 [x]),.list 143 (uM [x])]:=by
 refine ayH ?_;unfold al6;rw[Hd hx];exact bT rfl (bT rfl (bT (cap zS zO) rfl))
theorem aFP{S:LN}{x:Nat}(hx:x<2^64)(hl:S.length<=1000000):CC YK [uV x,bn (U1 S),.list 143 (uM S)]=some [nV ((dI S x).idxOf x),.list 143 (uM (dI S x)),bn (U1 (dI S x))]:=by
 refine ayI ?_;unfold al7;have e1:=tu Er x S 0;rw[Hd hx];refine bT rfl ?_;rw[show(V.int .u64 x)=uV x from rfl,He];by_cases h:x∈S
 .refine bF (by rw[show fi (uV x) (uM S)=_ from e1];simpa using h) ?_;have e2:=xZ Er x (vI 0) S 0 h;rw[show gV (uV x) (uM S) (vI 0)=_ from e2,ai h,dT,show dI S x=S by unfold dI;rw[ai h]];rfl
 .refine bT (by rw[show fi (uV x) (uM S)=_ from e1];simpa using h) ?_;refine bT rfl ?_;refine bT (cap (by rw[qX];simp;omega) zO) ?_;have e2:=ya Er x S 0 h;rw[dT]at e2;rw[qX,show fj (uV x) (vI S.length) (uM S)=_ from e2,af h,show dI S x=S++[x]by unfold dI;rw[af h]];simp[U1,nV,uM,uV]
def sn(E:List Ed)(s x:Nat):Nat:=mb E s (x:Int)
def sf(fin s:Nat):Bool:= !((s&&&fin)==0)
structure Nat6(n:Nf)(L S:Nat):Prop where
 code:n.code=0
 ok:n.Ok
 hL:n.L=(L:Int)
 hS:n.S=(S:Int)
namespace Nat6
variable {n:Nf}{L S:Nat}(h:Nat6 n L S)
include h
theorem good:n.Good:=Nf.aFi h.code
theorem l1:1<=L:=by have:=h.good.L1;have:=h.hL;omega
theorem l6:L<=6:=by have:=h.good.L6;have:=h.hL;omega
theorem yc:S<=64:=by have:=h.good.S64;have:=h.hS;omega
theorem sS:n.S.toNat=S:=by have:=h.hS;omega
theorem lL:n.L.toNat=L:=by have:=h.hL;omega
theorem edF:∀e∈n.E,e.f.toNat<S:=fun e he=>by have:=h.good.E e he;have:=h.hS;unfold Ed.In at*;omega
theorem edT:∀e∈n.E,e.t.toNat<S:=fun e he=>by have:=h.good.E e he;have:=h.hS;unfold Ed.In at*;omega
theorem st:n.st<2^S:=by have:=h.good.st;rwa [h.sS]at this
theorem fin:n.fin<2^S:=by have:=h.good.fin;rwa [h.sS]at this
theorem pow:2^S<=2^64:=pK zO h.yc
theorem next(s x:Nat):sn n.E s x<2^S:=aeb h.edT
end Nat6
def gT(n:Nf)(L S:Nat):LN:=ao L (sn n.E) n.st (2^S)
def jD(n:Nf)(L S:Nat):Da:=jC L (sn n.E) (sf n.fin) (gT n L S)
def lD(n:Nf)(L S:Nat):Prop:=512<(gT n L S).length
def mc(n:Nf)(L S:Nat):LV:=U2 (pH L S n.E)
def Vc(m:Da)(e:Int)(X:V):LV:=[vI m.L,vI m.st,vI e,aB m.cj,aE m.bL,X]
section
variable {n:Nf}{L S:Nat}(h:Nat6 n L S)
include h
theorem aFQ{s x:Nat}(hs:s<2^S)(hx:x<L):CC 168 [uV s,nV x,po (mc n L S)]=some [uV (sn n.E s x),po (mc n L S)]:=by
 have hp:=h.pow;refine ayF ?_;unfold al4;have e1:idx (mc n L S) (x:Int)=some (bn (U1 (sq S n.E (x:Int)))):=by
  rw[JI rfl];unfold mc U2;rw[j5,aef hx];rfl
 refine bs e1 ?_;have hr:Hu (sq S n.E (x:Int)):=aFN h.yc h.edT;have e2:=aFM hr (s:=s) zO;have hl:(sq S n.E (x:Int)).length=S:=by simp[sq]
 rw[hl,aFO zO h.yc h.edF]at e2;refine bs e2 ?_;rfl
theorem aFR{s:Nat}(hs:s<2^S):CC 154 (uV s::pG n [])=some (.bool (sf n.fin s)::pG n []):=by
 have hp:=h.pow;have hf:=h.fin;refine ayG ?_;unfold al5;have e:wU ((bU (s:Int)&&&bU (n.fin:Int)).toNat)=((s&&&n.fin:Nat):Int):=u64_and zO zO;rw[e];have e2:(((s&&&n.fin:Nat):Int) !=0)=sf n.fin s:=by
  unfold sf;grind
 rw[e2];rfl
theorem sub_lt(i:Nat):∀s∈ao L (sn n.E) n.st i,s<2^S:=aoz (P:=fun s=>s<2^S) h.st (fun s _ x _=>h.next s x) i
theorem Hv(i:Nat):(ao L (sn n.E) n.st i).length<=2^S:=by
 have:=adN (L:=L) (next:=sn n.E) (a0:=n.st) (U:=List.range (2^S)) (lj.2 h.st) (fun s _ x _=>lj.2 (h.next s x)) i;grind
theorem aFS{T U:LN}{s:Nat}(hs:s<2^S)(hT:T.length<=1000)(hp:aT (sn n.E) T s L<+:U){i c1 c2:Int}{l1 l2 l3 l4:LV}:
  Loop (TV CC (L:Int) i (s:Int) ((List.replicate (((L:Nat):Int).toNat) (vI 0)).length:Int) n.L n.S (n.st:Int) (n.fin:Int) (n.E.map Ed.enc) c1 c2 (L:Int) 0 l1 l2 l3 l4) (0,mc n L S,List.replicate (((L:Nat):Int).toNat) (vI 0),U1 T,uM T)=
   some ((L:Int),false,mc n L S,(tab L fun x=>nV (U.idxOf (sn n.E s x))),U1 (aT (sn n.E) T s L),uM (aT (sn n.E) T s L)):=by
 have h6:=h.l6;have Hw:=h.pow;rw[Int.toNat_natCast,lB,dJ];refine(fe L (fun x=>((x:Int),mc n L S,(tab L fun j=>if j<x then nV (U.idxOf (sn n.E s j))else nV 0),U1 (aT (sn n.E) T s x),uM (aT (sn n.E) T s x))) _ (fun x hx=>?_) ?_)
 .simp only[TV,Mt,un,aj,az];refine bT (dd hx) ?_;refine bs (aFQ h hs hx) ?_;have hl:=ad3 (next:=sn n.E) T s x;have hn:=h.next s x;refine bs (aFP (S:=aT (sn n.E) T s x) (x:=sn n.E s x) zO zO) ?_;refine(gu hx).trans ?_;rw[cN zO,Int.toNat_natCast,m7];have e:(dI (aT (sn n.E) T s x) (sn n.E s x)).idxOf (sn n.E s x)=U.idxOf (sn n.E s x):=(xW ((uC T s (show x+1<=L by omega)).trans hp) zL).symm;show some (Sum.inl _)=some (Sum.inl _);refine congrArg (fun x=>some (Sum.inl x)) ?_;refine iD rfl (iD rfl (iD ?_ (iD rfl rfl)));refine eK fun j _=>?_;by_cases hj:j=x
  .rw[ai hj,aU,hj,<-e];rfl
  grind
 .simp only[TV,Mt,un,aj,az];refine bF (bN (aC _)) ?_;rw[bN (aC _)];have:(tab L fun j=>if j<L then nV (U.idxOf (sn n.E s j))else nV 0)=tab L fun j=>nV (U.idxOf (sn n.E s j)):=eK fun j hj=>ai hj;rw[this]
theorem aei{i:Nat}(fH:i<(ao L (sn n.E) n.st i).length)(hlen:(ao L (sn n.E) n.st i).length<=512){U:LN}(hp:ao L (sn n.E) n.st (i+1)<+:U){l1 l2 l3 l4:LV}(Hp:l3.length<=1000)(hl4:l4.length<=1000):
  GG CC (L:Int) 0 0 (L:Int) 0 l1 l2 ((i:Int),mc n L S,n.L,n.S,(n.st:Int),(n.fin:Int),n.E.map Ed.enc,U1 (ao L (sn n.E) n.st i),uM (ao L (sn n.E) n.st i),l3,l4)=
   if 512<(ao L (sn n.E) n.st (i+1)).length then some (.inr (.inl (3,mc n L S,n.L,n.S,(n.st:Int),(n.fin:Int),n.E.map Ed.enc,0,0,[],[],[])))
   else some (.inl (((i+1:Nat):Int),mc n L S,n.L,n.S,(n.st:Int),(n.fin:Int),n.E.map Ed.enc,U1 (ao L (sn n.E) n.st (i+1)),uM (ao L (sn n.E) n.st (i+1)),l3++[V.bool (sf n.fin (ao L (sn n.E) n.st i)[i])],l4++[aR (tab L fun x=>nV (U.idxOf (sn n.E (ao L (sn n.E) n.st i)[i] x)))])):=by
 have h6:=h.l6;have hq:=sub_lt h i _ (gC fH);have iL:ao L (sn n.E) n.st (i+1)=aT (sn n.E) (ao L (sn n.E) n.st i) (ao L (sn n.E) n.st i)[i] L:=Oh (cA fH);simp only[GG,Mu,un,aj];refine bT (bQ (by simp_all)) ?_;refine(cK (Vb fH)).trans ?_;refine bT (lC zO zO) ?_;refine bs (aFS h hq zO (U:=U) zG) ?_;rw[<-iL];by_cases rJ:512<(ao L (sn n.E) n.st (i+1)).length
 .rw[ai rJ];refine bT (bQ (by rw[qX];omega)) ?_;rfl
 .rw[af rJ];refine bF (bX (by rw[qX];omega)) ?_;refine bT (cap (by simp;omega) zO) ?_;refine bs (aFR h hq) ?_;refine bT (cap (by simp;omega) zO) ?_;rw[cN zO];rfl
theorem aFT(hn:¬lD n L S):∃X,CC 152 (nV L::uV n.st::po (mc n L S)::pG n [])=some ([nV L,nV 0,vI 0,po (mc n L S)]++(pG n []++[aB (jD n L S).cj,aE (jD n L S).bL,X])):=by
 have h6:=h.l6;have cv:=h.st;have Hw:=h.pow;have hd:(ao L (sn n.E) n.st (2^S)).length<=2^S:=Hv h _;have hle:∀i,(ao L (sn n.E) n.st i).length<=(gT n L S).length:=UT hd;have U4:(gT n L S).length<=512:=by unfold lD at hn;omega
 refine⟨bn (U1 (gT n L S)),al9 ?_⟩;unfold acn;refine bs (ao6 (x:=n.st) zO) ?_;have key:Loop (GG CC (L:Int) 0 0 (L:Int) 0 ([]:LV) ([]:LV)) (0,mc n L S,n.L,n.S,(n.st:Int),(n.fin:Int),n.E.map Ed.enc,U1 [n.st],uM [n.st],([]:LV),([]:LV))=
   some (.inr (((gT n L S).length:Int),false,mc n L S,n.L,n.S,(n.st:Int),(n.fin:Int),n.E.map Ed.enc,U1 (gT n L S),uM (gT n L S),(jD n L S).cj,(jD n L S).bL)):=by
  refine(fe (gT n L S).length (fun i=>((i:Int),mc n L S,n.L,n.S,(n.st:Int),(n.fin:Int),n.E.map Ed.enc,U1 (ao L (sn n.E) n.st i),uM (ao L (sn n.E) n.st i),(tab i fun j=>V.bool ((jD n L S).fin j)),(tab i fun j=>ff L ((jD n L S).nx j)))) _ (fun i hi=>?_) ?_)
  .have fH:=Bz hd hi;have hiK:i<2^S:=gU hi hd;have vZ:(ao L (sn n.E) n.st i)[i]=(gT n L S)[i]:=(mY (show i<=2^S by omega)).getElem fH;have ad7:=hle (i+1);have aoB:=hle i;have:=aei h fH zO (U:=gT n L S) (mY zO) (l1:=[]) (l2:=[]) (l3:=(tab i fun j=>V.bool ((jD n L S).fin j))) (l4:=(tab i fun j=>ff L ((jD n L S).nx j))) (by rw[dJ];omega) (by rw[dJ];omega);rw[cl,vZ]at this;rw[this,iz,iz];have e1:(jD n L S).fin i=sf n.fin (gT n L S)[i]:=Eb hi;have e2:ff L ((jD n L S).nx i)=aR (tab L fun x=>nV ((gT n L S).idxOf (sn n.E (gT n L S)[i] x))):=by
    unfold ff;refine congrArg _ (eK fun x hx=>?_);rw[show(jD n L S).nx i x=_ from zM hi hx];rfl
   rw[e1,e2]
  .simp only[GG,Mu,un,aj];rw[show ao L (sn n.E) n.st (gT n L S).length=gT n L S from Ec hd,qX];refine bF (bN (aC _)) ?_;rw[bN (aC _)];have e3:(jD n L S).n=(gT n L S).length:=ql;unfold Da.cj Da.bL;rw[e3];rfl
 refine bs key ?_;rfl
theorem aFU(hn:lD n L S):∃X,CC 152 (nV L::uV n.st::po (mc n L S)::pG n [])=some ([nV 0,nV 0,vI 3,po (mc n L S)]++(pG n []++[aB [],aE [],X])):=by
 have h6:=h.l6;have cv:=h.st;have Hw:=h.pow;obtain⟨m,hm1,mL,U5⟩:=UW (UU (show 512<(ao L (sn n.E) n.st (2^S)).length from hn)) zO;refine⟨bn [],al9 ?_⟩;unfold acn;refine bs (ao6 (x:=n.st) zO) ?_;have key:∃r,Loop (GG CC (L:Int) 0 0 (L:Int) 0 ([]:LV) ([]:LV)) (0,mc n L S,n.L,n.S,(n.st:Int),(n.fin:Int),n.E.map Ed.enc,U1 [n.st],uM [n.st],([]:LV),([]:LV))=some r∧r=(.inl (3,mc n L S,n.L,n.S,(n.st:Int),(n.fin:Int),n.E.map Ed.enc,0,0,[],[],[])):=by
  refine qm (fun i st=>∃l3 l4:LV,l3.length=i∧l4.length=i∧st=((i:Int),mc n L S,n.L,n.S,(n.st:Int),(n.fin:Int),n.E.map Ed.enc,U1 (ao L (sn n.E) n.st i),uM (ao L (sn n.E) n.st i),l3,l4)) _ m 0 _ (fun i _ hi st cv=>?_) (fun st cv=>?_) ⟨[],[],rfl,rfl,rfl⟩
  .obtain⟨l3,l4,e3,e4,rfl⟩:=cv;obtain⟨h1,h2⟩:=mL i zO;have h3:=(mL (i+1) zO).2;have:=aei h h1 h2 (tM _) (l1:=[]) (l2:=[]) (l3:=l3) (l4:=l4) zO zO;grind
  .obtain⟨l3,l4,e3,e4,rfl⟩:=cv;rw[dT]at*
   obtain⟨h1,h2⟩:=mL m zO;have:=aei h h1 h2 (tM _) (l1:=[]) (l2:=[]) (l3:=l3) (l4:=l4) zO zO;grind
 obtain⟨r,h1,rfl⟩:=key;refine bs h1 ?_;rfl
theorem aFV(hn:¬lD n L S):∃X,CC 133 (pG n [])=some (Vc (jD n L S) 0 (bn X)):=by
 obtain⟨X,hX⟩:=aFT h hn;refine⟨X.toList,ama ?_⟩;unfold acq;have hv:=aoY n h.ok;rw[h.code]at hv;refine bs hv (bF rfl ?_);have hs:=ao2 n h.ok h.good;rw[h.lL,h.sS]at hs;refine bs hs ?_;refine bs ((congrArg (fun z=>CC 152 (vI z::uV n.st::po (mc n L S)::pG n [])) h.hL).trans hX) ?_;rfl
theorem aFW(hn:lD n L S):∃X,CC 133 (pG n [])=some (Vc zD 3 (bn X)):=by
 obtain⟨X,hX⟩:=aFU h hn;refine⟨X.toList,ama ?_⟩;unfold acq;have hv:=aoY n h.ok;rw[h.code]at hv;refine bs hv (bF rfl ?_);have hs:=ao2 n h.ok h.good;rw[h.lL,h.sS]at hs;refine bs hs ?_;refine bs ((congrArg (fun z=>CC 152 (vI z::uV n.st::po (mc n L S)::pG n [])) h.hL).trans hX) ?_;rfl
theorem Es(hn:¬lD n L S):(jD n L S).Ok:=by
 unfold lD at hn;exact adL (Hv h _) h.l1 h.l6 (show(gT n L S).length<=512 by omega)
theorem aFX{w:LN}(hw:WL L w):(jD n L S).acc 0 w=sf n.fin (w.foldl (sn n.E) n.st):=by
 have h1:=adK (fin:=sf n.fin) (Hv h _) (G9 _) hw;have h2:=adI (L:=L) (next:=sn n.E) (a0:=n.st) (2^S);rw[cA (G9 _)]at h2;rw[ee h2]at h1;exact h1
end
section
open Go.Sort
section
variable {α:Type}{enc:α->V}
def yd(enc:α->V)(d:Array α):LV:=d.toList.map enc
theorem lE(d:Array α):(yd enc d).length=d.size:=by simp[yd]
theorem lb(d:Array α)(i:Nat)(x:α):(yd enc d).set i (enc x)=yd enc (d.setIfInBounds i x):=by
 unfold yd;rw[Array.toList_setIfInBounds,Ic]
variable [Inhabited α]
theorem lF{d:Array α}{i:Nat}(h:i<d.size):(yd enc d)[i]?=some (enc d[i]!):=by
 unfold yd;rw[j5,tJ,nh h,getElem!_pos d i h];rfl
theorem m9{d:Array α}{i j:Nat}{x:α}(h:i<d.size):(yd enc (d.setIfInBounds j x))[i]?=some (enc (d.setIfInBounds j x)[i]!):=lF (by rw[mg];exact h)
theorem ld(a b:Nat):(a:Int)+(b:Int)=((a+b:Nat):Int):=(Int.natCast_add a b).symm
theorem gA(a:Nat):(a:Int)+1=((a+1:Nat):Int):=rfl
theorem BF(a:Nat):((a+1:Nat):Int)-1=(a:Int):=zO
theorem OD(a:Nat):(a:Int)*2=((a*2:Nat):Int):=zO
theorem tx{a b:Nat}(h:b<=a):(a:Int)-(b:Int)=((a-b:Nat):Int):=zO
theorem pI{a:Nat}(h:1<=a):(a:Int)-1=((a-1:Nat):Int):=zO
theorem divC(a b:Nat):Int.tdiv (a:Int) (b:Int)=((a/b:Nat):Int):=by rw[Int.tdiv_eq_ediv_of_nonneg zO];rfl
theorem uK{p:Prop}[Decidable p](h:p):decide p=true:=bQ h
theorem zV{p:Prop}[Decidable p](h:¬p):decide p=false:=bX h
theorem Hy(p:α->Bool)(d:Array α)(j i:Nat):scanUp p d j i=if i<=j then(if p d[i]! =true then scanUp p d j (i+1)else i)else i:=by
 conv=>lhs;rw[scanUp]
 by_cases h:i<=j
 .rw[ai h];simp only[h,uU,uX]
 .rw[af h,af (by simp[h])]
theorem aej(p:α->Bool)(d:Array α)(i j:Nat):scanDown p d i (j+1)=if i<=j+1 then(if p d[j+1]! =true then scanDown p d i j else j+1)else j+1:=by
 conv=>lhs;rw[scanDown]
 by_cases h:i<=j+1
 .rw[ai h];simp only[h,uU,uX]
 .rw[af h,af (by simp[h])]
variable {lt:α->α->Bool}
theorem ao7(a j:Nat)(d:Array α):insInner lt a (j+1) d=if j+1>a&&lt d[j+1]! d[j]! then insInner lt a j (swp d (j+1) j)else d:=rfl
theorem aek{a:Nat}:∀(j:Nat) (d:Array α),(insInner lt a j d).size=d.size
 |0,d=>rfl
 |j+1,d=>by
  rw[ao7];split
  .rw[aek j,size_swp]
  .rfl
theorem OE(hi first:Nat):∀(n root:Nat) (d:Array α),hi-root<=n->(siftDown lt hi first root d).size=d.size:=by
 intro n
 induction n with
 |zero=>intro root d h;rw[siftDown,Ab zO]
 |succ n ih=>
  intro root d h;rw[siftDown];split
  .rfl
  .split
   .split
    .rfl
    .split
     .rw[ih _ _ zO,size_swp]
     .rfl
   .split
    .rfl
    .rw[ih _ _ zO,size_swp]
theorem ael(hi first:Nat):∀(k:Nat) (d:Array α),(heapBuild lt hi first k d).size=d.size
 |0,d=>rfl
 |k+1,d=>by rw[heapBuild,ael,OE _ _ _ _ _ (aC _)]
end
end
section
set_option maxHeartbeats 1000000
theorem Ed.lt_irrefl(a:Ed):¬a.lt a:=by unfold Ed.lt;omega
theorem Ed.lt_trans{a b c:Ed}:a.lt b->b.lt c->a.lt c:=by unfold Ed.lt;omega
theorem Ed.lt_asymm{a b:Ed}:a.lt b->¬b.lt a:=by unfold Ed.lt;omega
theorem Ed.ao8{a b:Ed}(h1:¬a.lt b)(h2:¬b.lt a):a=b:=by
 cases a;cases b;simp only[Ed.lt,Ed.mk.injEq]at*
 omega
abbrev uL(E:List Ed):Prop:=E.Pairwise Ed.lt
def Ed.key(e:Ed):Nat:=(e.f.toNat*6+e.l.toNat)*64+e.t.toNat
theorem Ed.aFY{a b:Ed}{L S:Int}(hL:L<=6)(hS:S<=64)(ha:a.In L S)(hb:b.In L S)(h:a.lt b):a.key<b.key:=by
 unfold Ed.In at ha hb;unfold Ed.lt at h;unfold Ed.key;omega
theorem aFZ{L S:Int}(hL:L<=6)(hS:S<=64):∀(E:List Ed),uL E->(∀e∈E,e.In L S)->∀i (hi:i<E.length),i<=E[i].key:=by
 intro E h hE i
 induction i with
 |zero=>omega
 |succ i ih=>
  intro hi;have h1:=ih zO;have h2:=(EP.1 h) i (i+1) zO hi zO;have:=Ed.aFY hL hS (hE _ (gC _)) (hE _ (gC _)) h2;omega
theorem aF0{L S:Int}(hL:L<=6)(hS:S<=64){E:List Ed}(h:uL E)(hE:∀e∈E,e.In L S):E.length<=24576:=by
 by_cases h0:E.length=0
 .omega
 .have h1:=aFZ hL hS E h hE (E.length-1) zO;have h2:=hE E[E.length-1] (gC _);unfold Ed.In at h2;unfold Ed.key at h1;omega
theorem aem:∀{A B:List Ed},uL A->uL B->(∀x,x∈A↔x∈B)->A=B
 |[],[],_,_,_=>rfl
 |[],b::B,_,_,h=>by have:=(h b).2 zS;cases this
 |a::A,[],_,_,h=>by have:=(h a).1 zS;cases this
 |a::A,b::B,hA,hB,h=>by
  have a1:=ES.1 hA;have b1:=ES.1 hB;have kS:a=b:=by
   have ha:=(h a).1 zS;have hb:=(h b).2 zS;rcases j4.1 ha with e|e
   .exact e
   .rcases j4.1 hb with e'|e'
    .grind
    .exact absurd (a1.1 b e') (Ed.lt_asymm (b1.1 a e))
  subst kS;rw[aem a1.2 b1.2 fun x=>?_];constructor
  .intro hx;rcases j4.1 ((h x).1 (by simp[hx]))with e|e
   .subst e;exact absurd (a1.1 x hx) (Ed.lt_irrefl x)
   .exact e
  .intro hx;rcases j4.1 ((h x).2 (by simp[hx]))with e|e
   .subst e;exact absurd (b1.1 x hx) (Ed.lt_irrefl x)
   .exact e
def nW(out:List Ed)(e:Ed):Nat->Nat
 |0=>0
 |k+1=>if e.lt (out.getD k default)then nW out e k else k+1
def uN(out:List Ed)(e:Ed):List Ed:=
 if nW out e out.length=0∨¬out.getD (nW out e out.length-1) default=e then out.take (nW out e out.length)++[e]++out.drop (nW out e out.length)else out
def uO(l:List Ed):List Ed:=l.foldl uN []
theorem Vd(out:List Ed)(e:Ed):∀k,nW out e k<=k
 |0=>aC _
 |k+1=>by unfold nW;split;exact Nat.le_succ_of_le (Vd out e k);omega
theorem ao9(out:List Ed)(e:Ed):∀k i,nW out e k<=i->i<k->e.lt (out.getD i default)
 |0,i,_,h=>zO
 |k+1,i,h1,h2=>by
  unfold nW at h1;split at h1
  .rename_i h3;by_cases hi:i=k
   .grind
   .exact ao9 out e k i h1 zO
  .omega
theorem apa(out:List Ed)(e:Ed):∀k,nW out e k≠0->¬e.lt (out.getD (nW out e k-1) default)
 |0,h=>by simp[nW]at h
 |k+1,h=>by
  unfold nW at h⊢;split
  .rename_i h3;rw[ai h3]at h;exact apa out e k h
  grind
theorem aF1{out:List Ed}{e x:Ed}(hk:nW out e out.length<=out.length):x∈uN out e↔x=e∨x∈out:=by
 unfold uN;split
 .rename_i h;have:=List.take_append_drop (nW out e out.length) out;grind
 grind
theorem aF2{out:List Ed}{e:Ed}(h:uL out):uL (uN out e):=by
 have hk:=Vd out e out.length;have up:=ao9 out e out.length;have dn:=apa out e out.length;unfold uN;generalize hq:nW out e out.length=k at*
 split
 .rename_i hc;have g:=EP.1 h;have qH:∀x∈out.take k,x.lt e:=by
   intro x hx;obtain⟨i,hi,rfl⟩:=EU hx;have gP:i<k:=zG;have ku:i<out.length:=zO;rw[List.getElem_take];have sr:k≠0:=zO;have h1:=dn sr;have h2:¬out.getD (k-1) default=e:=by
    grind
   have sT:k-1<out.length:=zO;have e1:out.getD (k-1) default=out[k-1]:=by simp[sT]
   rw[e1]at h1 h2;have h3:out[k-1].lt e:=by
    by_cases h4:out[k-1].lt e
    .exact h4
    .exact absurd (Ed.ao8 h4 h1) h2
   by_cases hik:i=k-1
   .grind
   .exact Ed.lt_trans (g i (k-1) ku sT zO) h3
  have pg:∀y∈out.drop k,e.lt y:=by
   intro y hy;obtain⟨i,hi,rfl⟩:=EU hy;simp_all
  rw[uL,iC,List.pairwise_append];refine⟨h.sublist (List.take_sublist _ _),?_,?_⟩
  .grind
  .intro x hx y hy;rw[List.singleton_append,j4]at hy;rcases hy with rfl|hy
   .grind
   .exact Ed.lt_trans (qH x hx) (pg y hy)
 .exact h
theorem aen:∀(l out:List Ed),uL out->uL (l.foldl uN out)∧∀x,x∈l.foldl uN out↔x∈l∨x∈out
 |[],out,h=>⟨h,zS⟩
 |e::l,out,h=>by
  obtain⟨h1,h2⟩:=aen l (uN out e) (aF2 h);refine⟨h1,fun x=>?_⟩;rw[List.foldl_cons,h2,aF1 (Vd _ _ _)];grind
theorem OF(l:List Ed):uL (uO l):=(aen l [] List.Pairwise.nil).1
theorem BG{l:List Ed}{x:Ed}:x∈uO l↔x∈l:=by
 have:=(aen l [] List.Pairwise.nil).2 x;simpa[uO]using this
theorem aF3(out:List Ed)(e:Ed):(uN out e).length<=out.length+1:=by
 unfold uN;grind
theorem apb{out:List Ed}{e:Ed}{t7:LV}{t8 t9:Int}:∀k,k<=out.length->out.length<1152921504606846976->∃t,Loop (Mx CC t7 t8 t9 (out.map Ed.enc) e.f e.l e.t) (k:Int)=some (((nW out e k:Nat):Int),t)
 |0,_,_=>⟨false,dg (by
   simp (disch:=omega) only[Mx,Mw,aF,af,aj];rfl)⟩
 |k+1,hk,hs=>by
  obtain⟨t,ih⟩:=apb (out:=out) (e:=e) (t7:=t7) (t8:=t8) (t9:=t9) k zO hs;have e1:Mx CC t7 t8 t9 (out.map Ed.enc) e.f e.l e.t ((k+1:Nat):Int)=bif decide (e.lt (out.getD k default))then some (.inl (k:Int))else some (.inr (((k+1:Nat):Int),decide (e.lt (out.getD k default)))):=by
   simp only[Mx,Mw,aj];rw[aF,aU,BF,dk,dZ,aF,aU,aF,ai (by rw[cu];omega),Int.toNat_natCast];have hg:(out.map Ed.enc)[k]?=some (out.getD k default).enc:=by
    rw[j5,cA zO];simp[show k<out.length by omega]
   rw[hg];simp only[Option.bind_some,Ed.iT,Ed.iU,Ed.iW,aoX,V.bj,V.iM,gB]
  unfold nW;by_cases h:e.lt (out.getD k default)
  .rw[ai h];rw[bQ h,cond_true]at e1;exact⟨t,(fg e1).trans ih⟩
  .rw[af h];rw[bX h,cond_false]at e1;exact⟨_,dg e1⟩
theorem OG(a b:Ed):((a.f==b.f)&&((a.l==b.l)&&((a.t==b.t)&&true)))=decide (a=b):=by
 cases a;cases b;grind
theorem aF4(out:List Ed)(k:Nat)(e:Ed):((([]:LV)++(((out.map Ed.enc).drop 0).take (k-0)))++([e.enc]:LV))++(((out.map Ed.enc).drop k).take ((out.map Ed.enc).length-k))=(out.take k++[e]++out.drop k).map Ed.enc:=by
 simp;rw[Ia zS]
theorem aF5{l:List Ed}(hl:l.length<=1000000000):CC 80 [cg (l.map Ed.enc)]=some [cg ((uO l).map Ed.enc)]:=by
 refine ayV ?_;unfold amc;have:=adD (step:=Mz CC (l.map Ed.enc) ((l.map Ed.enc).length:Int)) l (fun i (out:List Ed)=>((i:Int),out.map Ed.enc)) uN (fun out=>((l.length:Int),false,out.map Ed.enc)) (fun i out=>out.length<=i) ?_ ?_ [] (aC _)
 .rw[show Loop (Mz CC (l.map Ed.enc) ((l.map Ed.enc).length:Int)) (0,([]:LV))=_ from this.1];rfl
 .intro i out hi ho;refine⟨?_,mD (aF3 _ _) zO⟩;obtain⟨t,h1⟩:=apb (out:=out) (e:=l[i]) (t7:=l.map Ed.enc) (t8:=((l.map Ed.enc).length:Int)) (t9:=(i:Int)) out.length (aC _) zO;have hk:=Vd out l[i] out.length;simp only[Mz,My,acr,un,aj];rw[aF,ai (by rw[cu];omega),Ep hi,show l.getD i default=l[i] by simp[hi]];simp only[Option.bind_some,Ed.iT,Ed.iU,Ed.iW];rw[show((out.map Ed.enc).length:Int)=((out.length:Nat):Int) by simp,h1];simp only[Option.bind_some,un,Ed.re];unfold uN;generalize nW out l[i] out.length=k at*
  have apc:∀X:Option (((Int×LV))⊕(Int×Bool×LV)),X=some (.inl (wI ((i:Int)+1),((([]:LV)++(((out.map Ed.enc).drop 0).take (((k:Int).toNat)-0)))++([l[i].enc]:LV))++(((out.map Ed.enc).drop ((k:Int).toNat)).take ((out.map Ed.enc).length-((k:Int).toNat)))))->
    X=some (.inl (((i+1:Nat):Int),(out.take k++[l[i]]++out.drop k).map Ed.enc)):=by
   intro X hX;rw[hX,Int.toNat_natCast,aF4,gA,dk]
  have lens:(([]:LV).length+(((out.map Ed.enc).drop 0).take (((k:Int).toNat)-0)).length)*24<=br∧
    ((([]:LV)++(((out.map Ed.enc).drop 0).take (((k:Int).toNat)-0))).length+([l[i].enc]:LV).length)*24<=br∧
    (((([]:LV)++(((out.map Ed.enc).drop 0).take (((k:Int).toNat)-0)))++([l[i].enc]:LV)).length+(((out.map Ed.enc).drop ((k:Int).toNat)).take ((out.map Ed.enc).length-((k:Int).toNat))).length)*24<=br:=by
   rw[uA];simp only[Int.toNat_natCast,dQ,wj,List.length_drop,cu,List.length_nil,List.length_cons];omega
  by_cases sr:k=0
  .rw[ai (Or.inl sr),kb,aU];refine apc _ ?_;rw[dZ,aF,aU,aF,aU,vD,ai lens.1,vD,ai lens.2.1,dZ,aF,aU,aF,aU,vD,ai lens.2.2]
  .rw[kb,cl,pI zO,wrap64 (x:=((k-1:Nat):Int)) zO zO,dZ,aF,aU,aF,aU,Int.toNat_natCast];have hg:(out.map Ed.enc)[k-1]?=some (out.getD (k-1) default).enc:=by
    rw[j5,cA zO];simp[show k-1<out.length by omega]
   rw[hg];simp only[Option.bind_some,Ed.iT,Ed.iU,Ed.iW,OG];by_cases hc:out.getD (k-1) default=l[i]
   .rw[af (fun hx=>hx.elim sr (fun h=>h hc)),bQ hc];simp only[BX,cond_false];rw[gA,dk]
   .rw[ai (Or.inr hc),bX hc];simp only[Bool.not_false,cond_true];refine apc _ ?_;rw[dZ,aF,aU,aF,aU,vD,ai lens.1,vD,ai lens.2.1,dZ,aF,aU,aF,aU,vD,ai lens.2.2]
 .intro out ho;simp only[Mz,My,un,aj];rw[cu,zV zO,cond_false]
end
def uP(prev:Ed):List Ed->List Ed
 |[]=>[]
 |x::l=>if x=prev then uP x l else x::uP x l
def nX:List Ed->List Ed
 |[]=>[]
 |x::l=>x::uP x l
theorem aeo{l:List Ed}{j:Nat}(h:j<l.length):l.take (j+1)=l.take j++[l.getD j default]:=by
 rw[H9 h];simp[h]
theorem apd{l ss:List Ed}{j:Nat}(hl:ss.length=l.length)(h:ss.drop j=l.drop j)(hj:j<l.length):ss.getD j default=l.getD j default:=by
 have h1:=congrArg (fun x:List Ed=>x.getD 0 default) h;simpa[hj,hl]using h1
theorem OH{l:List Ed}{i:Nat}(h:i<l.length):(l.map Ed.enc)[i]?=some (l.getD i default).enc:=by simp[h]
theorem aF6(ss:List Ed)(m:Nat)(z:V)(hm:m<=ss.length):((((ss.map Ed.enc).take m++(List.replicate ((ss.map Ed.enc).length-m) z++(ss.map Ed.enc).drop (m+((ss.map Ed.enc).length-m)))).take m)=(ss.take m).map Ed.enc):=by
 rw[List.take_append_of_le_length (by simp;omega),Ia (by simp;omega),List.map_take]
theorem ape:∀(m:List Ed) (prev x:Ed),uP prev (m++[x])=uP prev m++(if x=(prev::m).getD m.length default then[]else[x])
 |[],prev,x=>by simp only[List.nil_append,uP,List.length_nil,List.getD_cons_zero]
 |y::m,prev,x=>by
  have ih:=ape m y x;simp only[List.cons_append,uP,List.length_cons,List.getD_cons_succ];split
  .exact ih
  .rw[ih];rfl
theorem apf{l:List Ed}{p:Nat}(h1:1<=p)(h2:p<l.length):nX (l.take (p+1))=nX (l.take p)++(if l.getD p default=l.getD (p-1) default then[]else[l.getD p default]):=by
 match l,p,h1,h2 with
 |y::l,p+1,_,h2=>
  simp only[List.length_cons]at h2;rw[List.take_succ_cons,List.take_succ_cons,nX,nX,aeo zO,ape];simp only[List.getD_cons_succ,wj,Af];rw[show min p l.length=p by omega];have:(y::l.take p).getD p default=(y::l).getD p default:=by
   match p with
   |0=>rfl
   |q+1=>simp only[List.getD_cons_succ];rw[yu,yu,mf zO]
  rw[this];rfl
theorem apg:∀(m:List Ed) (prev:Ed),(prev::m).Pairwise (fun x y=> ¬y.lt x)->uL (prev::uP prev m)∧∀x,x∈prev::uP prev m↔x∈prev::m
 |[],prev,_=>⟨by simp[uP],by simp[uP]⟩
 |y::m,prev,h=>by
  have h1:=ES.1 h;obtain⟨i1,i2⟩:=apg m y h1.2;rw[uP];by_cases hc:y=prev
  .rw[ai hc];subst hc;refine⟨i1,fun x=>?_⟩;rw[i2 x];simp
  .rw[af hc];have bt:prev.lt y:=by
    by_cases h2:prev.lt y
    .exact h2
    .exact absurd (Ed.ao8 h2 (h1.1 y zS)) fun e=>hc e.symm
   refine⟨ES.2 ⟨fun x hx=>?_,i1⟩,fun x=>?_⟩
   .rcases j4.1 hx with rfl|hx
    .exact bt
    .exact Ed.lt_trans bt ((ES.1 i1).1 x hx)
   .rw[j4,i2 x,<-j4]
theorem aF7{l:List Ed}(h:l.Pairwise (fun x y=> ¬y.lt x)):uL (nX l)∧∀x,x∈nX l↔x∈l:=by
 match l,h with
 |[],_=>exact⟨List.Pairwise.nil,fun _=>Iff.rfl⟩
 |y::l,h=>exact apg l y h
section
variable {l:List Ed}(hn:l.length<=1000000)
include hn
theorem aF8{k:Nat}:∀(d k2 i:Nat) (ss:List Ed),k+k2+d=l.length->1<=k2->i+1<=k+k2->ss.length=l.length->ss.take i=nX (l.take (k+k2))->ss.drop (k+k2-1)=l.drop (k+k2-1)->
  ∃t u Hz,Loop (DM CC k (l.length-k)) ((i:Int),(k2:Int),ss.map Ed.enc)=some (((nX l).length:Int),u,t,List.map Ed.enc Hz)∧Hz.take (nX l).length=nX l∧Hz.length=l.length:=by
 intro d
 induction d with
 |zero=>
  intro k2 i ss hj xg hi hl ht hd;have e0:l.take (k+k2)=l:=Ia zO;rw[e0]at ht;have mP:i=(nX l).length:=by rw[<-ht,wj];omega
  refine⟨false,(k2:Int),ss,dg ?_,by rw[<-mP];exact ht,hl⟩;simp only[DM,GH,un,cu,aF,aj,az];rw[cl,Ak,mP]
 |succ d ih=>
  intro k2 i ss hj xg hi hl ht hd;have hp:k+k2<l.length:=zO;have tX:ss.drop (k+k2)=l.drop (k+k2):=by
   have h:=congrArg (List.drop 1) hd;rw[H8,H8]at h;rwa [show k+k2-1+1=k+k2 by omega]at h
  have g1:=apd hl tX hp;have g0:=apd hl hd (show k+k2-1<l.length by omega);have x1:(ss.map Ed.enc)[k+k2]?=some (l.getD (k+k2) default).enc:=by rw[OH zO,g1]
  have x0:(ss.map Ed.enc)[k+(k2-1)]?=some (l.getD (k+k2-1) default).enc:=by rw[show k+(k2-1)=k+k2-1 by omega,OH zO,g0]
  have w1:wI ((k2:Int)-1)=((k2-1:Nat):Int):=by rw[dk];omega
  have t1:((k2:Nat):Int)<((l.length-k:Nat):Int):=zO;have t2:(0:Int)<=((k2:Nat):Int):=zO;have t3:(0:Int)<=((k2-1:Nat):Int):=zO;have t4:((k2-1:Nat):Int)<((l.length-k:Nat):Int):=zO;have t5:((i:Nat):Int)<(ss.length:Int):=zO;have t6:(0:Int)<=((i:Nat):Int):=zO;have sU:∃y,(ss.map Ed.enc)[i]?=some y:=⟨_,OH zO⟩
  obtain⟨y,hy⟩:=sU;have cs:=apf (l:=l) (p:=k+k2) zO hp;by_cases he:l.getD (k+k2) default=l.getD (k+k2-1) default
  .have cv:DM CC k (l.length-k) ((i:Int),(k2:Int),ss.map Ed.enc)=some (.inl ((i:Int),((k2+1:Nat):Int),ss.map Ed.enc)):=by
    simp only[DM,GH,un,aj,az];refine bT (bQ t1) ?_;refine bT (pL.2 ⟨bQ t2,bQ t1⟩) ?_;rw[Int.toNat_natCast];refine bs x1 ?_;rw[w1];refine bT (pL.2 ⟨bQ t3,bQ t4⟩) ?_;rw[Int.toNat_natCast];refine bs x0 ?_;simp only[Ed.iT,Ed.iU,Ed.iW,OG];rw[bQ he];refine bF rfl ?_;rw[dk];rfl
   rw[fg cv];refine ih (k2+1) i ss zO zO zO hl ?_ (by rw[show k+(k2+1)-1=k+k2 by omega];exact tX);rw[show k+(k2+1)=k+k2+1 by omega,cs,ai he,jO,ht]
  .have cv:DM CC k (l.length-k) ((i:Int),(k2:Int),ss.map Ed.enc)=some (.inl (((i+1:Nat):Int),((k2+1:Nat):Int),(ss.set i (l.getD (k+k2) default)).map Ed.enc)):=by
    simp only[DM,GH,un,aj,az];refine bT (bQ t1) ?_;refine bT (pL.2 ⟨bQ t2,bQ t1⟩) ?_;rw[Int.toNat_natCast];refine bs x1 ?_;rw[w1];refine bT (pL.2 ⟨bQ t3,bQ t4⟩) ?_;rw[Int.toNat_natCast];refine bs x0 ?_;simp only[Ed.iT,Ed.iU,Ed.iW,OG];rw[bX he];refine bT rfl ?_;refine bT (pL.2 ⟨bQ t2,bQ t1⟩) ?_;refine bs x1 ?_;refine bT (by rw[cu];exact pL.2 ⟨bQ t6,bQ t5⟩) ?_;rw[Int.toNat_natCast];refine bs hy ?_;simp only[Ed.iT,Ed.iU,Ed.iW,Ed.re];rw[dk,dk,Ic];rfl
   rw[fg cv];refine ih (k2+1) (i+1) (ss.set i (l.getD (k+k2) default)) zO zO zO (by simpa using hl) ?_ ?_
   .rw[aeo (by rw[yo];omega),List.take_set_of_le (aC i),ht,show k+(k2+1)=k+k2+1 by omega,cs,af he];simp[show i<ss.length by omega]
   .rw[show k+(k2+1)-1=k+k2 by omega,List.drop_set_of_lt zO,tX]
theorem aF9:∀(d p:Nat),p+d=l.length->1<=p->nX (l.take p)=l.take p->
  (nX l=l∧∃t,Loop (DN CC (l.map Ed.enc)) (p:Int)=some (.inr t))∨Loop (DN CC (l.map Ed.enc)) (p:Int)=some (.inl ((nX l).map Ed.enc)):=by
 intro d
 induction d with
 |zero=>
  intro p hp h1 hc;obtain rfl:p=l.length:=zO;rw[ym]at hc;refine .inl ⟨hc,((l.length:Int),false),dg ?_⟩;simp only[DN,GI,cu,aF,aj];rw[cl,Ak]
 |succ d ih=>
  intro p hp h1 hc;have gl:p<l.length:=zO;have cs:=apf (l:=l) h1 gl;have x1:(l.map Ed.enc)[p]?=some (l.getD p default).enc:=OH gl;have x0:(l.map Ed.enc)[p-1]?=some (l.getD (p-1) default).enc:=OH zO;have w1:wI ((p:Int)-1)=((p-1:Nat):Int):=by rw[dk];omega
  have t1:((p:Nat):Int)<(l.length:Int):=zO;have t2:(0:Int)<=((p:Nat):Int):=zO;have t3:(0:Int)<=((p-1:Nat):Int):=zO;have t4:((p-1:Nat):Int)<(l.length:Int):=zO;have t5:((p:Nat):Int)<=(l.length:Int):=zO;by_cases he:l.getD p default=l.getD (p-1) default
  .refine .inr (dg ?_);obtain⟨t,u,Hz,e1,e2,e3⟩:=aF8 hn (k:=p) (l.length-(p+1)) 1 p l zO zO zO rfl (by rw[cs,ai he,jO,hc]) rfl;have hm:(nX l).length<=Hz.length:=by
    have:=congrArg List.length e2;rw[wj]at this;omega
   have m1:(0:Int)<=(((nX l).length:Nat):Int):=zO;have m2:(((nX l).length:Nat):Int)<=((Hz.map Ed.enc).length:Int):=by rw[cu];omega
   simp only[DN,GI,cu,aj];refine bT (bQ t1) ?_;refine bT (pL.2 ⟨bQ t2,bQ t1⟩) ?_;rw[Int.toNat_natCast];refine bs x1 ?_;rw[w1];refine bT (pL.2 ⟨bQ t3,bQ t4⟩) ?_;rw[Int.toNat_natCast];refine bs x0 ?_;simp only[Ed.iT,Ed.iU,Ed.iW,OG];rw[bQ he];refine bT rfl ?_;refine bT (pL.2 ⟨bQ t2,bQ t5⟩) ?_;refine(congrArg (fun o=>Option.bind o _) e1).trans ?_;simp only[Option.bind_some,un,dZ,aF,Int.toNat_natCast];rw[ai m1,ai m2,ai m1,ai (by simp only[dQ,wj,BY,List.length_drop,cu];omega),aF6 _ _ _ hm,e2]
  .have cv:DN CC (l.map Ed.enc) (p:Int)=some (.inl ((p+1:Nat):Int)):=by
    simp only[DN,GI,cu,aj];refine bT (bQ t1) ?_;refine bT (pL.2 ⟨bQ t2,bQ t1⟩) ?_;rw[Int.toNat_natCast];refine bs x1 ?_;rw[w1];refine bT (pL.2 ⟨bQ t3,bQ t4⟩) ?_;rw[Int.toNat_natCast];refine bs x0 ?_;simp only[Ed.iT,Ed.iU,Ed.iW,OG];rw[bX he];refine bF rfl ?_;rw[dk];rfl
   rw[fg cv];exact ih (p+1) zO zO (by rw[cs,af he,hc,<-aeo gl])
theorem aGa:∃b,CC 124 [cg (l.map Ed.enc)]=some [.bool b,cg ((nX l).map Ed.enc)]:=by
 by_cases h2:l.length<2
 .refine⟨true,acs ?_⟩;unfold TW;rw[cu,aF,aU]
  match l,h2 with
  |[],_=>rfl
  |[k],_=>rfl
 .rcases aF9 hn (l.length-1) 1 zO zO (by
   match l,h2 with
   |k::l,_=>rfl)with⟨h3,t,h4⟩|h4
  .refine⟨true,acs ?_⟩;unfold TW;rw[cu,aF,cl];refine(congrArg (fun o=>Option.bind o _) h4).trans ?_;rw[h3];rfl
  .refine⟨false,acs ?_⟩;unfold TW;rw[cu,aF,cl];refine(congrArg (fun o=>Option.bind o _) h4).trans ?_;rfl
end
section
open Go.Sort
class au(α:Type)where
 E:SE
 enc:α->V
 cmp:α->α->Int
 re:∀x,V.agg (E.ex (enc x))=enc x
 cs:∀a b,CC E.cmp (E.ex (enc a)++E.ex (enc b))=some [vI (cmp a b)]
 swo:SWO (fun a b=>decide (cmp a b<0))
 aph:∀{a b':Int}{aq:LV}{r:Option LV},acu E CC a b' aq=r->CC (E.k 0) [vI a,vI b',.list E.T aq]=r
 api:∀{lo hi first:Int}{aq:LV}{r:Option LV},acw E CC lo hi first aq=r->CC (E.k 1) [vI lo,vI hi,vI first,.list E.T aq]=r
 apj:∀{a b':Int}{aq:LV}{r:Option LV},acy E CC a b' aq=r->CC (E.k 2) [vI a,vI b',.list E.T aq]=r
 apk:∀{a b':Int}{aq:LV}{r:Option LV},acA E CC a b' aq=r->CC (E.k 3) [vI a,vI b',.list E.T aq]=r
 apl:∀{a b' pivot:Int}{aq:LV}{r:Option LV},acB E CC a b' pivot aq=r->CC (E.k 4) [vI a,vI b',vI pivot,.list E.T aq]=r
 apm:∀{a b' pivot:Int}{aq:LV}{r:Option LV},acC E CC a b' pivot aq=r->CC (E.k 5) [vI a,vI b',vI pivot,.list E.T aq]=r
 apn:∀{a b':Int}{aq:LV}{r:Option LV},acD E CC a b' aq=r->CC (E.k 6) [vI a,vI b',.list E.T aq]=r
 apo:∀{a b':Int}{aq:LV}{r:Option LV},acF E CC a b' aq=r->CC (E.k 7) [vI a,vI b',.list E.T aq]=r
 apq:∀{data:LV}{a b' c je:Int}{r:Option LV},acG E CC data a b' c je=r->CC (E.k 8) [.list E.T data,vI a,vI b',vI c,vI je]=r
 apr:∀{data:LV}{a je:Int}{r:Option LV},acH E CC data a je=r->CC (E.k 9) [.list E.T data,vI a,vI je]=r
 aep:∀{data:LV}{a b' je:Int}{r:Option LV},Ua E CC data a b' je=r->CC (E.k 10) [.list E.T data,vI a,vI b',vI je]=r
 aeq:∀{data:LV}{a b':Int}{r:Option LV},Ub E CC data a b'=r->CC (E.k 11) [.list E.T data,vI a,vI b']=r
 aps:∀{a b' pB:Int}{aq:LV}{r:Option LV},acI E CC a b' pB aq=r->CC (E.k 12) [vI a,vI b',vI pB,.list E.T aq]=r
 apt:∀{xs:LV}{r:Option LV},acJ E CC xs=r->CC (E.k 13) [.list E.T xs]=r
end
end Go.AM
