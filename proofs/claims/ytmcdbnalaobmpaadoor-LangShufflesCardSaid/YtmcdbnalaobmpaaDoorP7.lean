/-
  Functions of uC program, lifted to plain data.
-/
import Derived.Test.YtmcdbnalaobmpaaDoorP6
set_option linter.unusedVariables false
set_option linter.unusedSimpArgs false
set_option maxRecDepth 100000
namespace Go.AM
open Go.Proofs
noncomputable def Vg (C:af) (aX aY:Int) (aG bc:List V):Option (List V):=
 (C nX [.int .i64 aX,.int .i64 aY,.list ab aG,.list aa bc]).bind fun r1=>
 bif (((V.nth r1 0).toInt):Int) != 0 then
  some [.int .i64 0,.int .i64 0,.int .i64 ((V.nth r1 0).toInt),.list ab ([]:List V),.list aa ([]:List V)]
 else
  (C rI [.int .i64 aX,.int .i64 aY,.list ab aG,.list aa bc]).bind fun r2=>
  some [.int .i64 ((V.nth r2 0).toInt),.int .i64 ((V.nth (r2.drop 1) 0).toInt),.int .i64 0,.list ab ((V.nth (r2.drop 2) 0).toList),.list aa ((V.nth ((r2.drop 2).drop 1) 0).toList)]
theorem ag6 {aX aY:Int} {aG bc:List V} {r:Option (List V)} (h:Vg CC aX aY aG bc=r):CC DQ [.int .i64 aX,.int .i64 aY,.list ab aG,.list aa bc]=r:=
 bn (key:=56) (L:=cT) (bs:=[]) (by kernel_rfl) av (Eq.trans (by kernel_rfl) h)
end Go.AM
set_option maxRecDepth 100000
namespace Go.AM
open Go.Proofs
noncomputable def Mc (C:af) (cx cI:Int) (cE dg:List V) (cF cK:Int) (cL dq:List V):Option (List V):=
 (C nX [.int .i64 cx,.int .i64 cI,.list ab cE,.list aa dg]).bind fun r1=>
 bif (((V.nth r1 0).toInt):Int) != 0 then
  some [.int .i64 0,.int .i64 0,.int .i64 0,.int .i64 0,.int .i64 ((V.nth r1 0).toInt),.list ab ([]:List V),.list aa ([]:List V),.list ab ([]:List V),.list aa ([]:List V)]
 else
  (C nX [.int .i64 cF,.int .i64 cK,.list ab cL,.list aa dq]).bind fun r2=>
  bif (((V.nth r2 0).toInt):Int) != 0 then
  some [.int .i64 0,.int .i64 0,.int .i64 0,.int .i64 0,.int .i64 ((V.nth r2 0).toInt),.list ab ([]:List V),.list aa ([]:List V),.list ab ([]:List V),.list aa ([]:List V)]
  else
  bif (cx:Int) != cF then
   some [.int .i64 0,.int .i64 0,.int .i64 0,.int .i64 0,.int .i64 1,.list ab ([]:List V),.list aa ([]:List V),.list ab ([]:List V),.list aa ([]:List V)]
  else
   (C rI [.int .i64 cx,.int .i64 cI,.list ab cE,.list aa dg]).bind fun r3=>
   (C rI [.int .i64 cF,.int .i64 cK,.list ab cL,.list aa dq]).bind fun r4=>
   some [.int .i64 ((V.nth r3 0).toInt),.int .i64 ((V.nth (r3.drop 1) 0).toInt),.int .i64 ((V.nth r4 0).toInt),.int .i64 ((V.nth (r4.drop 1) 0).toInt),.int .i64 0,.list ab ((V.nth (r3.drop 2) 0).toList),.list aa ((V.nth ((r3.drop 2).drop 1) 0).toList),.list ab ((V.nth (r4.drop 2) 0).toList),.list aa ((V.nth ((r4.drop 2).drop 1) 0).toList)]
theorem Vh {cx cI:Int} {cE dg:List V} {cF cK:Int} {cL dq:List V} {r:Option (List V)} (h:Mc CC cx cI cE dg cF cK cL dq=r):CC vM [.int .i64 cx,.int .i64 cI,.list ab cE,.list aa dg,.int .i64 cF,.int .i64 cK,.list ab cL,.list aa dq]=r:=
 bn (key:=68) (L:=cT) (bs:=[]) (by kernel_rfl) av (Eq.trans (by kernel_rfl) h)
end Go.AM
set_option maxRecDepth 100000
namespace Go.AM
open Go.Proofs
noncomputable def Vi (C:af) (aX aY:Int) (aG bc:List V) (f kR kS:Int) (kT Ge:List V) (g:Int):Option (List V):=
 bif (f:Int)==g then
  (C rG [.int .i64 aX,.int .i64 aY,.list ab aG,.list aa bc,.int .i64 kR,.int .i64 kS,.list ab kT,.list aa Ge]).bind fun r1=>
  some [.bool ((V.nth r1 0).toBool)]
 else
  some [.bool false]
theorem ag7 {aX aY:Int} {aG bc:List V} {f kR kS:Int} {kT Ge:List V} {g:Int} {r:Option (List V)} (h:Vi CC aX aY aG bc f kR kS kT Ge g=r):CC yK [.int .i64 aX,.int .i64 aY,.list ab aG,.list aa bc,.int .i64 f,.int .i64 kR,.int .i64 kS,.list ab kT,.list aa Ge,.int .i64 g]=r:=
 bn (key:=18) (L:=cT) (bs:=[]) (by kernel_rfl) av (Eq.trans (by kernel_rfl) h)
end Go.AM
set_option maxRecDepth 100000
namespace Go.AM
open Go.Proofs
noncomputable def Vj (C:af) (cx cI:Int) (cE dg:List V) (cF cK:Int) (cL dq:List V) (eh:Int):Option (List V):=
 bif decide (((cE.length:Int):Int)≤eh) then
  bif decide (((cL.length:Int):Int)≤eh) then
  (C yL [.int .i64 cx,.int .i64 cI,.list ab cE,.list aa dg,.int .i64 cF,.int .i64 cK,.list ab cL,.list aa dq]).bind fun r1=>
  some [.bool ((((V.nth r1 0).toInt):Int)==0)]
  else
  some [.bool false]
 else
  some [.bool false]
theorem ag8 {cx cI:Int} {cE dg:List V} {cF cK:Int} {cL dq:List V} {eh:Int} {r:Option (List V)} (h:Vj CC cx cI cE dg cF cK cL dq eh=r):CC DO [.int .i64 cx,.int .i64 cI,.list ab cE,.list aa dg,.int .i64 cF,.int .i64 cK,.list ab cL,.list aa dq,.int .i64 eh]=r:=
 bn (key:=26) (L:=cT) (bs:=[]) (by kernel_rfl) av (Eq.trans (by kernel_rfl) h)
end Go.AM
set_option maxRecDepth 100000
set_option linter.unusedSimpArgs false
namespace Go.AM
open Go.Proofs
theorem qL {a:Da} (h:a.Ok):(minD a).Ok:=(wk h).ok
theorem nn {a:Da} (h:a.Ok):(minD a).L=a.L:=(wk h).hL
theorem ag9 {a:Da} (h:a.Ok):(minD a).st=0:=(wk h).st
theorem Vk {a:Da} (h:a.Ok) {w:List Nat} (hw:WL a.L w):(minD a).acc (minD a).st w=a.acc a.st w:=by
 rw[ag9 h];exact (wk h).kW w hw
theorem Md {a:Da} (h:a.Ok):(minD a).n≤a.n:=by
 obtain ⟨p,_,c2,_⟩:=Ts h
 rw[←wm h (Da.KS h c2)]
 have h1:=(Da.E5 h c2).lR (a.quo p).n
 have h2:(a.quo p).trim.n=(aq (a.quo p).L (a.quo p).nx (a.quo p).st (a.quo p).n).length:=ki
 rw[h2]
 refine Nat.le_trans h1 ?_
 rw[Da.qv]
 exact KZ p a.n
theorem Vl {a b:Da} (ha:a.Ok) (hb:b.Ok) (hL:a.L=b.L) (hl: ∀w,WL a.L w→a.acc a.st w=b.acc b.st w):minD a=minD b:=
 wm hb (hL▸Canon.congr (wk ha) hl)
theorem aha {a:Da} (ha:a.Ok):minD (minD a)=minD a:=
 Vl (qL ha) ha (nn ha) fun w hw=>Vk ha (by rwa [nn ha] at hw)
theorem ahb {a:Da} (h:a.Ok):CC DQ (cU a)=some (ku (minD a) 0):=by
 refine ag6 ?_
 unfold Vg
 refine bs (tP h) (bF rfl ?_)
 refine bs (Fo h) ?_
 rfl
def BF (a b:Da) (e:Int):List V:=[.int .i64 (a.L:Int),.int .i64 (a.st:Int),.int .i64 (b.L:Int),.int .i64 (b.st:Int),.int .i64 e,.list ab a.cN,.list aa a.cv,.list ab b.cN,.list aa b.cv]
theorem ahc {a b:Da} (ha:a.Ok) (hb:b.Ok) (hL:a.L=b.L):CC vM (gn a (cU b))=some (BF (minD a) (minD b) 0):=by
 refine Vh ?_
 unfold Mc
 refine bs (tP ha) (bF rfl ?_)
 refine bs (tP hb) (bF rfl ?_)
 refine bF (by rw[hL];simp) ?_
 refine bs (Fo ha) ?_
 refine bs (Fo hb) ?_
 rfl
theorem ahd {d e:Df} (hd:d.Ok) (he:e.Ok) (hv:nj d e≠0):CC vM (iX d (iX e []))=some (BF zD zD (nj d e)):=by
 refine Vh ?_
 unfold Mc
 unfold nj at*
 refine bs (KG hd) ?_
 by_cases h1:d.val=0
 ·rw[if_neg (by simp[h1])] at*
  refine bF (by simp[h1]) ?_
  refine bs (KG he) ?_
  by_cases h2:e.val=0
  ·rw[if_neg (by simp[h2])] at*
   refine bF (by simp[h2]) ?_
   by_cases h3:d.L=e.L
   ·rw[if_neg (by simp[h3])] at hv
    exact absurd rfl hv
   ·rw[if_pos h3]
    refine bT (by simpa using h3) ?_
    rfl
  ·rw[if_pos h2]
   refine bT (by simpa using h2) ?_
   rfl
 ·rw[if_pos h1]
  refine bT (by simpa using h1) ?_
  rfl
theorem ahe {d e:Df} (h:nj d e=0): ∃a b:Da,a.Ok∧b.Ok∧a.L=b.L∧d=a.df∧e=b.df:=by
 unfold nj at h
 by_cases h1:d.val=0
 ·rw[if_neg (by simp[h1])] at h
  by_cases h2:e.val=0
  ·rw[if_neg (by simp[h2])] at h
   by_cases h3:d.L=e.L
   ·obtain ⟨a,ha,rfl⟩:=RI h1
    obtain ⟨b,hb,rfl⟩:=RI h2
    simp only[Da.df] at h3
    exact ⟨a,b,ha,hb,by omega,rfl,rfl⟩
   ·rw[if_pos h3] at h;omega
  ·rw[if_pos h2] at h;exact absurd h h2
 ·rw[if_pos h1] at h;exact absurd h h1
theorem Vm {m:Da} (h:CC rG (gn m (cU m))=some [.bool true]) (f:Int):CC yK (gn m (.int .i64 f::gn m [.int .i64 f]))=some [.bool true]:=by
 refine ag7 ?_
 unfold Vi
 refine bT (by simp) ?_
 refine bs h ?_
 rfl
theorem ahf {d e:Df} (hd:d.Ok) (he:e.Ok) (m:Int):CC DO (iX d (iX e [.int .i64 m]))=some [.bool (decide ((d.F.length:Int)≤m∧(e.F.length:Int)≤m∧nj d e=0))]:=by
 refine ag8 ?_
 unfold Vj
 rw[List.length_map,List.length_map]
 by_cases h1:(d.F.length:Int)≤m
 ·refine bT (decide_eq_true h1) ?_
  by_cases h2:(e.F.length:Int)≤m
  ·refine bT (decide_eq_true h2) ?_
   refine bs (U0 hd he) ?_
   refine congrArg (fun x=>some [V.bool x]) ?_
   rw[Bool.eq_iff_iff]
   simp[h1,h2]
  ·refine bF (decide_eq_false h2) ?_
   rw[decide_eq_false fun h=>h2 h.2.1]
 ·refine bF (decide_eq_false h1) ?_
  rw[decide_eq_false fun h=>h1 h.1]
end Go.AM
set_option maxRecDepth 100000
set_option linter.unusedSimpArgs false
namespace Go.AM
open Go.Proofs
def jW (E:List Ed):Nat→List Nat→Nat→Prop
 | i,[],k=>i=k
 | i,x::w,k=> ∃j,fy i x j∈E∧jW E j w k
theorem jW.ext {A B:List Ed} (h: ∀e,e∈A→e∈B): ∀{w:List Nat} {i k:Nat},jW A i w k→jW B i w k
 | [],_,_,p=>p
 | _::_,_,_,⟨j,h1,h2⟩=>⟨j,h _ h1,jW.ext h h2⟩
theorem jW.app {E:List Ed}: ∀{v w:List Nat} {i k:Nat},jW E i (v++w) k↔∃j,jW E i v j∧jW E j w k
 | [],w,i,k=>by simp[jW]
 | x::v,w,i,k=>by
  simp only[List.cons_append,jW]
  constructor
  ·rintro ⟨j,h1,h2⟩
   obtain ⟨m,h3,h4⟩:=jW.app.1 h2
   exact ⟨m,⟨j,h1,h3⟩,h4⟩
  ·rintro ⟨m,⟨j,h1,h3⟩,h4⟩
   exact ⟨j,h1,jW.app.2 ⟨m,h3,h4⟩⟩
theorem ahg {p x q p' x' q':Nat}:fy p x q=fy p' x' q'↔p=p'∧x=x'∧q=q':=by
 unfold fy
 simp only[Ed.mk.injEq]
 omega
theorem ahh {e:Ed} (h1:0≤e.f) (h2:0≤e.l) (h3:0≤e.t):e=fy e.f.toNat e.l.toNat e.t.toNat:=by
 unfold fy
 cases e
 simp only[Ed.mk.injEq] at*
 omega
theorem Me {E:List Ed} (hE: ∀e∈E,0≤e.f∧0≤e.l∧0≤e.t): ∀(w:List Nat) (s k:Nat),(w.foldl (sn E) s).testBit k=true↔∃i,s.testBit i=true∧jW E i w k
 | [],s,k=>by simp[jW]
 | x::w,s,k=>by
  rw[List.foldl_cons,Me hE w]
  constructor
  ·rintro ⟨j,h1,h2⟩
   unfold sn at h1
   rw[zr,List.any_eq_true] at h1
   obtain ⟨e,he,h3⟩:=h1
   simp only[Bool.and_eq_true,decide_eq_true_eq] at h3
   obtain ⟨c1,c2,c3⟩:=hE e he
   refine ⟨e.f.toNat,h3.2.1,j,?_,h2⟩
   have:e=fy e.f.toNat x j:=by
    rw[ahh c1 c2 c3]
    rw[ahg]
    simp only[fy,Int.toNat_natCast]
    exact ⟨trivial,by omega,h3.2.2⟩
   exact this▸he
  ·rintro ⟨i,h1,j,h2,h3⟩
   refine ⟨j,?_,h3⟩
   unfold sn
   rw[zr,List.any_eq_true]
   refine ⟨_,h2,?_⟩
   simp only[Bool.and_eq_true,decide_eq_true_eq,fy,Int.toNat_natCast]
   exact ⟨trivial,h1,trivial⟩
theorem ahi {fin s:Nat}:sf fin s=true↔∃k,s.testBit k=true∧fin.testBit k=true:=by
 unfold sf
 rw[Bool.not_eq_true',beq_eq_false_iff_ne]
 constructor
 ·intro h
  obtain ⟨k,hk⟩:=Nat.exists_testBit_of_ne_zero h
  rw[Nat.testBit_and,Bool.and_eq_true] at hk
  exact ⟨k,hk⟩
 ·rintro ⟨k,h1,h2⟩ h0
  have:(s&&&fin).testBit k=true:=by rw[Nat.testBit_and,h1,h2];rfl
  rw[h0,Nat.zero_testBit] at this
  cases this
def BG (st fin:Nat) (l:List Ed) (w:List Nat):Prop:= ∃i k,st.testBit i=true∧fin.testBit k=true∧jW l i w k
section
variable {L S st fin:Nat} {l:List Ed} (h:uz L S st fin l)
include h
theorem ahj (hn: ¬fM (cy L S st fin l) L S):(eG (cy L S st fin l) L S).Ok:=by
 unfold eG
 rw[if_neg hn]
 exact qL (ud (ni h) hn)
theorem ahk (hn: ¬fM (cy L S st fin l) L S):(eG (cy L S st fin l) L S).L=L:=by
 unfold eG
 rw[if_neg hn]
 exact nn (ud (ni h) hn)
theorem ahl (hn: ¬fM (cy L S st fin l) L S) {w:List Nat} (hw:WL L w):(eG (cy L S st fin l) L S).acc (eG (cy L S st fin l) L S).st w=true↔BG st fin l w:=by
 have ax:=ud (ni h) hn
 unfold eG
 rw[if_neg hn,Vk ax hw,show (eF (cy L S st fin l) L S).st=0 from rfl,adx (ni h) hw]
 show sf fin (w.foldl (sn (o7 l)) st)=true↔_
 have hE: ∀e∈o7 l,0≤e.f∧0≤e.l∧0≤e.t:=fun e he=>by
  have:=h.E e (wx.1 he)
  unfold Ed.In at this
  exact ⟨this.1,this.2.2.2.2.1,this.2.2.1⟩
 rw[ahi]
 unfold BG
 constructor
 ·rintro ⟨k,h1,h2⟩
  obtain ⟨i,h3,h4⟩:=(Me hE w st k).1 h1
  exact ⟨i,k,h3,h2,h4.ext fun e he=>wx.1 he⟩
 ·rintro ⟨i,k,h1,h2,h3⟩
  exact ⟨k,(Me hE w st k).2 ⟨i,h1,h3.ext fun e he=>wx.2 he⟩,h2⟩
theorem ahm (hS:S≤9): ¬fM (cy L S st fin l) L S:=fun ho=>by
 have h1:=uc (ni h) (2^S)
 have h2:2^S≤2^9:=Nat.pow_le_pow_right (by omega) hS
 have h3:(512:Nat)<(aq L (sn (cy L S st fin l).E) (cy L S st fin l).st (2^S)).length:=ho
 have h4:(2:Nat)^9=512:=by decide
 omega
end
end Go.AM
set_option maxRecDepth 100000
namespace Go.AM
open Go.Proofs
noncomputable abbrev Gf:Code:=cC Tryd.prog (aw.aW 51)
noncomputable def BH (C:af) (q t36 t37 t41 aQ ba:Int) (bp bj:List V) (ca cb qw qx:Int) (cP bP br bd:List V) (t42 aO aL aT aP:Int) (bm:List V) {β:Type} (kn:(Int × Int × Int × Int × Int × (List V))→Option β) (kr:(Int × Bool × Int × Int × Int × Int × (List V))→Option β):Option β:=
 bif decide ((t42:Int)<t41) then
  (C tC [.int .i64 q,.int .i64 t42,.int .i64 q,.int .i64 aO,.int .i64 aL,.int .u64 aT,.int .u64 aP,.list ag bm]).bind fun r4=>
  kn (IntKind.wrap .i64 (t42+1),(V.nth r4 0).toInt,(V.nth (r4.drop 1) 0).toInt,(V.nth ((r4.drop 1).drop 1) 0).toInt,(V.nth (((r4.drop 1).drop 1).drop 1) 0).toInt,(V.nth (r4.drop 4) 0).toList)
 else
  kr (t42,decide ((t42:Int)<t41),aO,aL,aT,aP,bm)
noncomputable def Mf (C:af) (q t36 t37 t41 aQ ba:Int) (bp bj:List V) (ca cb qw qx:Int) (cP bP br bd:List V):(Int × Int × Int × Int × Int × (List V))→Option ((Int × Int × Int × Int × Int × (List V)) ⊕ (Int × Bool × Int × Int × Int × Int × (List V))):=un fun t42=>un fun aO=>un fun aL=>un fun aT=>un fun aP bm=>BH C q t36 t37 t41 aQ ba bp bj ca cb qw qx cP bP br bd t42 aO aL aT aP bm (fun y=>some (.inl y)) (fun r=>some (.inr r))
noncomputable def BI (C:af) (t36 aQ ba:Int) (bp bj:List V) (ca cb qw qx:Int) (cP bP br bd:List V) (t37 aO aL aT aP:Int) (bm:List V) {β:Type} (kn:(Int × Int × Int × Int × Int × (List V))→Option β) (kr:(Int × Bool × Int × Int × Int × Int × (List V))→Option β):Option β:=
 bif decide ((t37:Int)<t36) then
  (Loop (Mf C t37 t36 t37 aQ aQ ba bp bj ca cb qw qx cP bP br bd) (0,aO,aL,aT,aP,bm)).bind (un fun (lP:Int)=>un fun (nZ:Bool)=>un fun (sg:Int)=>un fun (BA:Int)=>un fun (L8:Int)=>un fun (ahn:Int) (K1:List V)=>
   kn (IntKind.wrap .i64 (t37+1),sg,BA,L8,ahn,K1))
 else
  kr (t37,decide ((t37:Int)<t36),aO,aL,aT,aP,bm)
noncomputable def Mg (C:af) (t36 aQ ba:Int) (bp bj:List V) (ca cb qw qx:Int) (cP bP br bd:List V):(Int × Int × Int × Int × Int × (List V))→Option ((Int × Int × Int × Int × Int × (List V)) ⊕ (Int × Bool × Int × Int × Int × Int × (List V))):=un fun t37=>un fun aO=>un fun aL=>un fun aT=>un fun aP bm=>BI C t36 aQ ba bp bj ca cb qw qx cP bP br bd t37 aO aL aT aP bm (fun y=>some (.inl y)) (fun r=>some (.inr r))
noncomputable def Vn (C:af):cq:=fun β n ds k=>
 bif Nat.beq n 193 then bu I0 [false,false,false,false,true,false,false,false,false,false,false,false,false,true,true,true,true,false,false,false,false,true] [[1,2,3,4,0,0,6,7,8,9,10,11,12,13,0,0,0,0,18,19,20,21,0]] (@BH C) ds k else
 bif Nat.beq n 145 then bu I1 [false,true,false,false,false,false,false,false,false,false,true,true,true,true,false,false,false,false,true] [[1,0,0,3,4,5,6,7,8,9,10,0,0,0,0,15,16,17,18,0]] (@BI C) ds k else
 none
abbrev Vo (C:af) (b:ch):Prop:=cj Tryd.prog aw C (Vn C) 51 (cJ Tryd.prog (aw.aW 51)) (aw.sin 51).a8.length b
theorem aho (C:af):Vo C (.loop (ar [1,1,1,1,1,1,0,1,0,0,1,1,0,0,1,1,0,0] Gf)):=
 bz I0 [false,false,false,false,true,false,false,false,false,false,false,false,false,true,true,true,true,false,false,false,false,true] [[1,2,3,4,0,0,6,7,8,9,10,11,12,13,0,0,0,0,18,19,20,21,0]] (@BH C) (by kernel_rfl) (aS (bs:=[]) (by kernel_rfl) av) (fun ds=>by kernel_rfl) (fun i x=>by kernel_rfl) (fun i x β k=>by kernel_rfl) (fun β ds k=>by kernel_rfl)
theorem ahp (C:af):Vo C (.loop (ar [1,1,1,1,1,1,0,1,0,0] Gf)):=
 bz I1 [false,true,false,false,false,false,false,false,false,false,true,true,true,true,false,false,false,false,true] [[1,0,0,3,4,5,6,7,8,9,10,0,0,0,0,15,16,17,18,0]] (@BI C) (by kernel_rfl) (aS (bs:=[.loop (ar [1,1,1,1,1,1,0,1,0,0,1,1,0,0,1,1,0,0] Gf)]) (by kernel_rfl) (bf (aho C) av)) (fun ds=>by kernel_rfl) (fun i x=>by kernel_rfl) (fun i x β k=>by kernel_rfl) (fun β ds k=>by kernel_rfl)
noncomputable def Vp (C:af) (aX aY:Int) (aG bc:List V):Option (List V):=
 (C DQ [.int .i64 aX,.int .i64 aY,.list ab aG,.list aa bc]).bind fun r1=>
 bif (((V.nth (r1.drop 2) 0).toInt):Int) != 0 then
  some [.int .i64 0,.int .i64 0,.int .i64 ((V.nth (r1.drop 2) 0).toInt),.list ab ([]:List V),.list aa ([]:List V)]
 else
  (C yP [.int .i64 aX,.int .i64 (((V.nth (r1.drop 3) 0).toList).length:Int)]).bind fun r2=>
  bif (V.nth r2 0).toBool then
  some [.int .i64 0,.int .i64 0,.int .i64 3,.list ab ([]:List V),.list aa ([]:List V)]
  else
  (C DW [.int .i64 ((V.nth r1 0).toInt),.int .i64 ((V.nth (r1.drop 1) 0).toInt),.list ab ((V.nth (r1.drop 3) 0).toList),.list aa ((V.nth ((r1.drop 3).drop 1) 0).toList),.int .i64 0,.int .i64 ((V.nth (r2.drop 1) 0).toInt),.int .i64 ((V.nth ((r2.drop 1).drop 1) 0).toInt),.int .u64 ((V.nth (((r2.drop 1).drop 1).drop 1) 0).toInt),.int .u64 ((V.nth ((((r2.drop 1).drop 1).drop 1).drop 1) 0).toInt),.list ag ((V.nth ((r2.drop 1).drop 4) 0).toList)]).bind fun r3=>
  (Loop (Mg C (((V.nth (r1.drop 3) 0).toList).length:Int) aX aY aG bc 0 0 ((V.nth r1 0).toInt) ((V.nth (r1.drop 1) 0).toInt) ([]:List V) ([]:List V) ((V.nth (r1.drop 3) 0).toList) ((V.nth ((r1.drop 3).drop 1) 0).toList)) (0,(V.nth r3 0).toInt,(V.nth (r3.drop 1) 0).toInt,(V.nth ((r3.drop 1).drop 1) 0).toInt,(V.nth (((r3.drop 1).drop 1).drop 1) 0).toInt,(V.nth (r3.drop 4) 0).toList)).bind (un fun (Ao:Int)=>un fun (mN:Bool)=>un fun (uA:Int)=>un fun (pe:Int)=>un fun (Ma:Int)=>un fun (ahq:Int) (tS:List V)=>
   (C yQ [.int .i64 ((V.nth (r1.drop 1) 0).toInt),.int .i64 uA,.int .i64 pe,.int .u64 Ma,.int .u64 ahq,.list ag tS]).bind fun e7=>
   (C DU [.list ab ((V.nth (r1.drop 3) 0).toList),.int .i64 0,.int .i64 ((V.nth e7 0).toInt),.int .i64 ((V.nth (e7.drop 1) 0).toInt),.int .u64 ((V.nth ((e7.drop 1).drop 1) 0).toInt),.int .u64 ((V.nth (((e7.drop 1).drop 1).drop 1) 0).toInt),.list ag ((V.nth (e7.drop 4) 0).toList)]).bind fun hZ=>
   (C tD [.int .i64 ((V.nth hZ 0).toInt),.int .i64 ((V.nth (hZ.drop 1) 0).toInt),.int .u64 ((V.nth ((hZ.drop 1).drop 1) 0).toInt),.int .u64 ((V.nth (((hZ.drop 1).drop 1).drop 1) 0).toInt),.list ag ((V.nth (hZ.drop 4) 0).toList)]).bind fun qJ=>
   some [.int .i64 ((V.nth qJ 0).toInt),.int .i64 ((V.nth (qJ.drop 1) 0).toInt),.int .i64 ((V.nth (qJ.drop 2) 0).toInt),.list ab ((V.nth ((qJ.drop 3).drop 5) 0).toList),.list aa ((V.nth (((qJ.drop 3).drop 5).drop 1) 0).toList)])
theorem ahr {aX aY:Int} {aG bc:List V} {r:Option (List V)} (h:Vp CC aX aY aG bc=r):CC DP [.int .i64 aX,.int .i64 aY,.list ab aG,.list aa bc]=r:=
 bn (key:=51) (L:=Vn CC) (bs:=[.loop (ar [1,1,1,1,1,1,0,1,0,0] Gf)]) (by kernel_rfl) (bf (ahp CC) av) (Eq.trans (by kernel_rfl) h)
end Go.AM
set_option maxRecDepth 100000
set_option linter.unusedSimpArgs false
namespace Go.AM
open Go.Proofs
theorem Gg {p x q L S:Nat} (hp:p<S) (hx:x<L) (hq:q<S):(fy p x q).In (L:Int) (S:Int):=by unfold Ed.In fy;simp only;omega
theorem ahs {a:Da} (h:a.Ok) {off S:Nat} (hs:a.n+off≤S) {e:Ed} (he:e∈ju a off):e.In (a.L:Int) (S:Int):=by
 obtain ⟨p,x,hp,hx,rfl⟩:=ag4.1 he
 have:=h.ej hp hx
 exact Gg (by omega) hx (by omega)
def jv (L n:Nat):List Ed:=fm n fun q=>tab L fun x=>fy q x q
theorem aht {L n:Nat} {e:Ed}:e∈jv L n↔∃q x,q<n∧x<L∧e=fy q x q:=by
 unfold jv
 rw[BE]
 constructor
 ·rintro ⟨p,hp,he⟩
  obtain ⟨x,hx,rfl⟩:=zL.1 he
  exact ⟨p,x,hp,hx,rfl⟩
 ·rintro ⟨p,x,hp,hx,rfl⟩
  exact ⟨p,hp,zL.2 ⟨x,hx,rfl⟩⟩
def w7 (m:Da):Nf:=cy m.L m.n (2^m.st) (iW 0 m.fin 0 m.n) (ju m 0++jv m.L m.n)
theorem Vq {m:Da} (h:m.Ok) (hs:m.n≤64):uz m.L m.n (2^m.st) (iW 0 m.fin 0 m.n) (ju m 0++jv m.L m.n) where
 l1:=h.l1
 l6:=h.l6
 oZ:=hs
 st:=Nat.pow_lt_pow_right (by omega) h.s
 fin:=Gd (Nat.two_pow_pos _) (by omega)
 E:=fun e he=>by
  rcases List.mem_append.1 he with he|he
  ·exact ahs h (by omega) he
  ·obtain ⟨p,x,hp,hx,rfl⟩:=aht.1 he
   exact Gg (by omega) hx (by omega)
 len:=by
  have h1:=Mb h (off:=0) (n:=m.n)
  have h2:(jv m.L m.n).length≤m.n*6:=w6 fun p _=>by rw[dQ];exact h.l6
  rw[List.length_append]
  unfold ju
  omega
section
variable {a:Da} (h:a.Ok)
include h
theorem ahu (hs:(minD a).n≤64) {X:Da} {e:Int} {n:Nf} (hr:CC tD (aN (minD a).L (minD a).n (2^(minD a).st) (iW 0 (minD a).fin 0 (minD a).n) (ju (minD a) 0++jv (minD a).L (minD a).n))=some (LX X e n)):CC DP (cU a)=some (ku X e):=by
 have hm:=qL h
 have h6:=hm.l6
 have hL:=nn h
 have bN:=hm.s
 refine ahr ?_
 unfold Vp
 refine bs (ahb h) (bF rfl ?_)
 have e0:(V.nth ((ku (minD a) 0).drop 3) 0).toList=(minD a).cN:=rfl
 rw[e0,Da.mT]
 refine bs (Vf hs) (bF rfl ?_)
 refine bs (ag5 (l:=[]) hm (off:=0) (by omega) (by simp)) ?_
 rw[List.nil_append]
 have hlen:=Mb hm (off:=0) (n:=(minD a).n)
 refine bs (pf (minD a).n (fun i=>((i:Int),(a.L:Int),((minD a).n:Int),((0:Nat):Int),((0:Nat):Int),(ju (minD a) 0++jv (minD a).L i).map Ed.enc)) (((minD a).n:Int),false,(a.L:Int),((minD a).n:Int),((0:Nat):Int),((0:Nat):Int),(ju (minD a) 0++jv (minD a).L (minD a).n).map Ed.enc) (by rw[show jv (minD a).L 0=[] from rfl,List.append_nil];rfl) (fun q hq=> ?_) ?_) ?_
 ·have sm:(jv (minD a).L q).length≤q*6:=w6 fun p _=>by rw[dQ];exact h6
  simp only[Mg,BI,un]
  refine bT (dp hq) ?_
  refine bs (pf a.L (fun i=>((i:Int),(a.L:Int),((minD a).n:Int),((0:Nat):Int),((0:Nat):Int),((ju (minD a) 0++jv (minD a).L q)++tab i fun x=>fy q x q).map Ed.enc)) ((a.L:Int),false,(a.L:Int),((minD a).n:Int),((0:Nat):Int),((0:Nat):Int),((ju (minD a) 0++jv (minD a).L q)++tab (minD a).L fun x=>fy q x q).map Ed.enc) (by rw[RJ,List.append_nil];rfl) (fun x hx=> ?_) ?_) ?_
  ·simp only[Mf,BH,un]
   refine bT (dp hx) ?_
   refine bs (Gc (by rw[List.length_append,List.length_append,dQ];unfold ju;omega)) ?_
   rw[cu (by omega),ko,←List.append_assoc]
   rfl
  ·simp only[Mf,BH,un]
   refine bF (bt (Nat.le_refl _)) ?_
   rw[bt (Nat.le_refl _),hL]
  ·simp only[un]
   rw[cu (by omega),show jv (minD a).L (q+1)=jv (minD a).L q++tab (minD a).L fun x=>fy q x q from qK,←List.append_assoc]
 ·simp only[Mg,BI,un]
  refine bF (bt (Nat.le_refl _)) ?_
  rw[bt (Nat.le_refl _)]
 ·simp only[un]
  refine bs (Vd (q:=(minD a).st) (by omega) (by omega)) ?_
  refine bs (ag3 (n:=(minD a).n) (f:=(minD a).fin) (off:=0) (by omega) (by omega)) ?_
  rw[Nat.zero_or]
  rw[hL] at hr
  rw[hL]
  refine bs hr ?_
  rfl
end
end Go.AM
set_option maxRecDepth 100000
set_option linter.unusedSimpArgs false
namespace Go.AM
open Go.Proofs
inductive qM (K:List Nat→Prop):List Nat→Prop
 | nil:qM K []
 | app {u v:List Nat}:u≠[]→K u→qM K v→qM K (u++v)
section
variable {K:List Nat→Prop}
theorem qM.one {w:List Nat} (h:K w):qM K w:=by
 by_cases hw:w=[]
 ·rw[hw];exact .nil
 ·have:=qM.app hw h .nil
  rwa [List.append_nil] at this
theorem qM.ext {K2:List Nat→Prop} {L:Nat} (h: ∀u,WL L u→(K u↔K2 u)) {w:List Nat} (hw:WL L w):qM K w↔qM K2 w:=by
 constructor
 ·intro hr
  induction hr with
  | nil=>exact .nil
  | app g1 g2 _ ih=>exact .app g1 ((h _ (WL.app.1 hw).1).1 g2) (ih (WL.app.1 hw).2)
 ·intro hr
  induction hr with
  | nil=>exact .nil
  | app g1 g2 _ ih=>exact .app g1 ((h _ (WL.app.1 hw).1).2 g2) (ih (WL.app.1 hw).2)
end
section
variable {m:Da} (hm:m.Ok)
include hm
end
end Go.AM
set_option maxRecDepth 100000
set_option linter.unusedSimpArgs false
namespace Go.AM
open Go.Proofs
section
variable {m:Da} (hm:m.Ok)
include hm
end
def Ed.rev (e:Ed):Ed:=⟨e.t,e.l,e.f⟩
@[simp] theorem Ed.rev_rev (e:Ed):e.rev.rev=e:=rfl
theorem WL.rev {L:Nat} {w:List Nat} (h:WL L w):WL L w.reverse:=fun x hx=>h x (List.mem_reverse.1 hx)
section
variable {m:Da} (hm:m.Ok)
include hm
end
section
variable {m:Da} (hm:m.Ok)
include hm
end
end Go.AM
set_option maxRecDepth 100000
set_option linter.unusedSimpArgs false
namespace Go.AM
open Go.Proofs
namespace Da
end Da
structure ov (X:Da) (L:Nat) (K:List Nat→Prop):Prop where
 ok:X.Ok
 hL:X.L=L
 min:minD X=X
 kW: ∀w,WL L w→(X.acc X.st w=true↔K w)
theorem ov.eq {X Y:Da} {L:Nat} {K K':List Nat→Prop} (h:ov X L K) (h':ov Y L K') (e: ∀w,WL L w→(K w↔K' w)):X=Y:=by
 rw[←h.min,←h'.min]
 refine Vl h.ok h'.ok (h.hL.trans h'.hL.symm) fun w hw=> ?_
 have jh:WL L w:=h.hL▸hw
 rw[Bool.eq_iff_iff,h.kW w jh,h'.kW w jh,e w jh]
theorem ov.ext {X:Da} {L:Nat} {K K':List Nat→Prop} (h:ov X L K) (e: ∀w,WL L w→(K w↔K' w)):ov X L K':=⟨h.ok,h.hL,h.min,fun w hw=>(h.kW w hw).trans (e w hw)⟩
theorem ov.acc {X:Da} {L:Nat} {K:List Nat→Prop} (h:ov X L K) {w:List Nat} (hw:WL L w) {b:Bool} (e:K w↔b=true):X.acc X.st w=b:=by
 rw[Bool.eq_iff_iff,h.kW w hw,e]
section
variable {L S st fin:Nat} {l:List Ed} (h:uz L S st fin l)
include h
theorem ahv (hn: ¬fM (cy L S st fin l) L S):ov (eG (cy L S st fin l) L S) L (BG st fin l) where
 ok:=ahj h hn
 hL:=ahk h hn
 min:=by
  unfold eG
  rw[if_neg hn]
  exact aha (ud (ni h) hn)
 kW:=fun _ hw=>ahl h hn hw
theorem ahw (hn: ¬fM (cy L S st fin l) L S):(eG (cy L S st fin l) L S).n≤2^S:=by
 have h1:=Md (ud (ni h) hn)
 have h2:=uc (ni h) (2^S)
 have h3:(eF (cy L S st fin l) L S).n=(dR (cy L S st fin l) L S).length:=ki
 unfold eG
 rw[if_neg hn]
 unfold dR at h3
 omega
theorem Vr:(kA (cy L S st fin l) L S=0∧ov (eG (cy L S st fin l) L S) L (BG st fin l)∧(eG (cy L S st fin l) L S).n≤2^S)∨(kA (cy L S st fin l) L S=3∧eG (cy L S st fin l) L S=zD∧9<S):=by
 by_cases hn:fM (cy L S st fin l) L S
 ·refine .inr ⟨if_pos hn,if_pos hn,?_⟩
  rcases Nat.lt_or_ge 9 S with c|c
  ·exact c
  ·exact absurd hn (ahm h c)
 ·exact .inl ⟨if_neg hn,ahv h hn,ahw h hn⟩
theorem ahx:CC rG (gn (eG (cy L S st fin l) L S) (cU (eG (cy L S st fin l) L S)))=some [.bool true]:=by
 rcases Vr h with ⟨_,h2,_⟩|⟨_,h2,_⟩
 ·exact h2.ok.same
 ·rw[h2];exact UZ
end
def Vs (r:Option (List V)) (L S:Nat) (K:List Nat→Prop):Prop:=(∃X,r=some (ku X 0)∧ov X L K∧X.n≤2^S)∨(r=some (ku zD 3)∧9<S)
theorem Vs.of {L S st fin:Nat} {l:List Ed} (h:uz L S st fin l) {r:Option (List V)} (e:r=some (ku (eG (cy L S st fin l) L S) (kA (cy L S st fin l) L S))) {K:List Nat→Prop} (hK: ∀w,WL L w→(BG st fin l w↔K w)):Vs r L S K:=by
 rcases Vr h with ⟨h1,h2,h3⟩|⟨h1,h2,h3⟩
 ·exact .inl ⟨_,by rw[e,h1],h2.ext hK,h3⟩
 ·exact .inr ⟨by rw[e,h1,h2],h3⟩
end Go.AM
set_option maxRecDepth 100000
namespace Go.AM
open Go.Proofs
noncomputable abbrev w8:Code:=cC Tryd.prog (aw.aW 25)
noncomputable def BJ (C:af) (width p:Int) (row:List V) (q:Int) (other:List V) (pair t57 t58 t65 t66 t77 dB dU:Int) (gJ gf:List V) (fA fB pg ph pj pk:Int) (np si bd bm bK b7:List V) (t78 aO aL aT aP:Int) (eZ:List V) {β:Type} (kn:(Int × Int × Int × Int × Int × (List V))→Option β) (kr:(Int × Bool × Int × Int × Int × Int × (List V))→Option β):Option β:=
 bif decide ((t78:Int)<t77) then
  (idx row t78).bind fun x6=>
  (C tC [.int .i64 pair,.int .i64 t78,.int .i64 (IntKind.wrap .i64 ((IntKind.wrap .i64 (width*x6.toInt))+q)),.int .i64 aO,.int .i64 aL,.int .u64 aT,.int .u64 aP,.list ag eZ]).bind fun r7=>
  (idx other t78).bind fun x8=>
  (C tC [.int .i64 pair,.int .i64 t78,.int .i64 (IntKind.wrap .i64 ((IntKind.wrap .i64 (width*p))+x8.toInt)),.int .i64 ((V.nth r7 0).toInt),.int .i64 ((V.nth (r7.drop 1) 0).toInt),.int .u64 ((V.nth ((r7.drop 1).drop 1) 0).toInt),.int .u64 ((V.nth (((r7.drop 1).drop 1).drop 1) 0).toInt),.list ag ((V.nth (r7.drop 4) 0).toList)]).bind fun r9=>
  kn (IntKind.wrap .i64 (t78+1),(V.nth r9 0).toInt,(V.nth (r9.drop 1) 0).toInt,(V.nth ((r9.drop 1).drop 1) 0).toInt,(V.nth (((r9.drop 1).drop 1).drop 1) 0).toInt,(V.nth (r9.drop 4) 0).toList)
 else
  kr (t78,decide ((t78:Int)<t77),aO,aL,aT,aP,eZ)
noncomputable def Mh (C:af) (width p:Int) (row:List V) (q:Int) (other:List V) (pair t57 t58 t65 t66 t77 dB dU:Int) (gJ gf:List V) (fA fB pg ph pj pk:Int) (np si bd bm bK b7:List V):(Int × Int × Int × Int × Int × (List V))→Option ((Int × Int × Int × Int × Int × (List V)) ⊕ (Int × Bool × Int × Int × Int × Int × (List V))):=un fun t78=>un fun aO=>un fun aL=>un fun aT=>un fun aP eZ=>BJ C width p row q other pair t57 t58 t65 t66 t77 dB dU gJ gf fA fB pg ph pj pk np si bd bm bK b7 t78 aO aL aT aP eZ (fun y=>some (.inl y)) (fun r=>some (.inr r))
noncomputable def BK (C:af) (width p:Int) (row:List V) (t57 t58 t65 dB dU:Int) (gJ gf:List V) (fA fB pg ph pj pk:Int) (np si bd bm bK b7:List V) (t66 aO aL aT aP:Int) (eZ:List V) {β:Type} (kn:(Int × Int × Int × Int × Int × (List V))→Option β) (kr:(Int × Bool × Int × Int × Int × Int × (List V))→Option β):Option β:=
 bif decide ((t66:Int)<t65) then
  bif (decide (0≤t66))&&(decide (t66<(si.length:Int))) then
  (si[(t66:Int).toNat]?).bind fun x5=>
  (Loop (Mh C width p row t66 x5.toList (IntKind.wrap .i64 ((IntKind.wrap .i64 (width*p))+t66)) t57 t58 t65 t66 dB dB dU gJ gf fA fB pg ph pj pk np si bd bm bK b7) (0,aO,aL,aT,aP,eZ)).bind (un fun (Sh:Int)=>un fun (Ld:Bool)=>un fun (Mi:Int)=>un fun (BD:Int)=>un fun (uA:Int)=>un fun (pe:Int) (ua:List V)=>
   bif (decide (0≤p))&&(decide (p<(bK.length:Int))) then
    (bK[(p:Int).toNat]?).bind fun mX=>
    bif mX.toBool then
    bif (decide (0≤t66))&&(decide (t66<(b7.length:Int))) then
     (b7[(t66:Int).toNat]?).bind fun rR=>
     bif rR.toBool then
     (C yR [.int .i64 (IntKind.wrap .i64 ((IntKind.wrap .i64 (width*p))+t66)),.int .i64 Mi,.int .i64 BD,.int .u64 uA,.int .u64 pe,.list ag ua]).bind fun e7=>
     kn (IntKind.wrap .i64 (t66+1),(V.nth e7 0).toInt,(V.nth (e7.drop 1) 0).toInt,(V.nth ((e7.drop 1).drop 1) 0).toInt,(V.nth (((e7.drop 1).drop 1).drop 1) 0).toInt,(V.nth (e7.drop 4) 0).toList)
     else
     kn (IntKind.wrap .i64 (t66+1),Mi,BD,uA,pe,ua)
    else none
    else
    kn (IntKind.wrap .i64 (t66+1),Mi,BD,uA,pe,ua)
   else none)
  else none
 else
  kr (t66,decide ((t66:Int)<t65),aO,aL,aT,aP,eZ)
noncomputable def Mj (C:af) (width p:Int) (row:List V) (t57 t58 t65 dB dU:Int) (gJ gf:List V) (fA fB pg ph pj pk:Int) (np si bd bm bK b7:List V):(Int × Int × Int × Int × Int × (List V))→Option ((Int × Int × Int × Int × Int × (List V)) ⊕ (Int × Bool × Int × Int × Int × Int × (List V))):=un fun t66=>un fun aO=>un fun aL=>un fun aT=>un fun aP eZ=>BK C width p row t57 t58 t65 dB dU gJ gf fA fB pg ph pj pk np si bd bm bK b7 t66 aO aL aT aP eZ (fun y=>some (.inl y)) (fun r=>some (.inr r))
noncomputable def BL (C:af) (width t57 dB dU:Int) (gJ gf:List V) (fA fB pg ph pj pk:Int) (np br bd bm bK b7:List V) (t58 aO aL aT aP:Int) (eZ:List V) {β:Type} (kn:(Int × Int × Int × Int × Int × (List V))→Option β) (kr:(Int × Bool × Int × Int × Int × Int × (List V))→Option β):Option β:=
 bif decide ((t58:Int)<t57) then
  bif (decide (0≤t58))&&(decide (t58<(np.length:Int))) then
  (np[(t58:Int).toNat]?).bind fun x4=>
  (Loop (Mj C width t58 x4.toList t57 t58 (b7.length:Int) dB dU gJ gf fA fB pg ph pj pk np b7 br bd bm bK) (0,aO,aL,aT,aP,eZ)).bind (un fun (K7:Int)=>un fun (afb:Bool)=>un fun (ahy:Int)=>un fun (ahz:Int)=>un fun (ahA:Int)=>un fun (Mk:Int) (Ml:List V)=>
   kn (IntKind.wrap .i64 (t58+1),ahy,ahz,ahA,Mk,Ml))
  else none
 else
  kr (t58,decide ((t58:Int)<t57),aO,aL,aT,aP,eZ)
noncomputable def Mm (C:af) (width t57 dB dU:Int) (gJ gf:List V) (fA fB pg ph pj pk:Int) (np br bd bm bK b7:List V):(Int × Int × Int × Int × Int × (List V))→Option ((Int × Int × Int × Int × Int × (List V)) ⊕ (Int × Bool × Int × Int × Int × Int × (List V))):=un fun t58=>un fun aO=>un fun aL=>un fun aT=>un fun aP eZ=>BL C width t57 dB dU gJ gf fA fB pg ph pj pk np br bd bm bK b7 t58 aO aL aT aP eZ (fun y=>some (.inl y)) (fun r=>some (.inr r))
noncomputable def Vt (C:af):cq:=fun β n ds k=>
 bif Nat.beq n 273 then bu IM [false,false,false,false,false,false,false,false,false,false,false,true,false,false,false,false,false,false,false,false,false,false,true,true,true,true,false,false,false,false,false,false,true] [[1,2,3,4,5,6,7,8,9,10,11,0,0,13,14,15,16,17,18,19,20,21,22,0,0,0,0,27,28,29,30,31,32,0]] (@BJ C) ds k else
 bif Nat.beq n 209 then bu IN [false,false,false,false,false,false,true,false,false,false,false,false,false,false,false,false,false,true,true,true,true,false,false,false,false,false,false,true] [[1,2,3,4,5,6,0,0,8,9,10,11,12,13,14,15,16,17,0,0,0,0,22,23,24,25,26,27,0]] (@BK C) ds k else
 bif Nat.beq n 161 then bu IP [false,false,true,false,false,false,false,false,false,false,false,false,false,true,true,true,true,false,false,false,false,false,false,true] [[1,2,0,0,4,5,6,7,8,9,10,11,12,13,0,0,0,0,18,19,20,21,22,23,0]] (@BL C) ds k else
 none
abbrev Mn (C:af) (b:ch):Prop:=cj Tryd.prog aw C (Vt C) 25 (cJ Tryd.prog (aw.aW 25)) (aw.sin 25).a8.length b
theorem ahB (C:af):Mn C (.loop (ar [1,1,1,1,1,1,1,0,1,0,0,1,1,0,0,1,1,0,0,1,1,0,0,1,1,0,1,0,0] w8)):=
 bz IM [false,false,false,false,false,false,false,false,false,false,false,true,false,false,false,false,false,false,false,false,false,false,true,true,true,true,false,false,false,false,false,false,true] [[1,2,3,4,5,6,7,8,9,10,11,0,0,13,14,15,16,17,18,19,20,21,22,0,0,0,0,27,28,29,30,31,32,0]] (@BJ C) (by kernel_rfl) (aS (bs:=[]) (by kernel_rfl) av) (fun ds=>by kernel_rfl) (fun i x=>by kernel_rfl) (fun i x β k=>by kernel_rfl) (fun β ds k=>by kernel_rfl)
theorem ahC (C:af):Mn C (.loop (ar [1,1,1,1,1,1,1,0,1,0,0,1,1,0,0,1,1,0,0] w8)):=
 bz IN [false,false,false,false,false,false,true,false,false,false,false,false,false,false,false,false,false,true,true,true,true,false,false,false,false,false,false,true] [[1,2,3,4,5,6,0,0,8,9,10,11,12,13,14,15,16,17,0,0,0,0,22,23,24,25,26,27,0]] (@BK C) (by kernel_rfl) (aS (bs:=[.loop (ar [1,1,1,1,1,1,1,0,1,0,0,1,1,0,0,1,1,0,0,1,1,0,0,1,1,0,1,0,0] w8)]) (by kernel_rfl) (bf (ahB C) av)) (fun ds=>by kernel_rfl) (fun i x=>by kernel_rfl) (fun i x β k=>by kernel_rfl) (fun β ds k=>by kernel_rfl)
theorem ahD (C:af):Mn C (.loop (ar [1,1,1,1,1,1,1,0,1,0,0] w8)):=
 bz IP [false,false,true,false,false,false,false,false,false,false,false,false,false,true,true,true,true,false,false,false,false,false,false,true] [[1,2,0,0,4,5,6,7,8,9,10,11,12,13,0,0,0,0,18,19,20,21,22,23,0]] (@BL C) (by kernel_rfl) (aS (bs:=[.loop (ar [1,1,1,1,1,1,1,0,1,0,0,1,1,0,0,1,1,0,0] w8)]) (by kernel_rfl) (bf (ahC C) av)) (fun ds=>by kernel_rfl) (fun i x=>by kernel_rfl) (fun i x β k=>by kernel_rfl) (fun β ds k=>by kernel_rfl)
noncomputable def Mo (C:af) (cx cI:Int) (cE dg:List V) (cF cK:Int) (cL dq:List V):Option (List V):=
 (C vM [.int .i64 cx,.int .i64 cI,.list ab cE,.list aa dg,.int .i64 cF,.int .i64 cK,.list ab cL,.list aa dq]).bind fun r1=>
 bif (((V.nth ((r1.drop 2).drop 2) 0).toInt):Int) != 0 then
  some [.int .i64 0,.int .i64 0,.int .i64 ((V.nth ((r1.drop 2).drop 2) 0).toInt),.list ab ([]:List V),.list aa ([]:List V)]
 else
  (C yP [.int .i64 cx,.int .i64 (IntKind.wrap .i64 ((((V.nth (((r1.drop 5).drop 1).drop 1) 0).toList).length:Int)*(((V.nth (r1.drop 5) 0).toList).length:Int)))]).bind fun r2=>
  bif (V.nth r2 0).toBool then
  some [.int .i64 0,.int .i64 0,.int .i64 3,.list ab ([]:List V),.list aa ([]:List V)]
  else
  (C yQ [.int .i64 (IntKind.wrap .i64 ((IntKind.wrap .i64 ((((V.nth (((r1.drop 5).drop 1).drop 1) 0).toList).length:Int)*((V.nth (r1.drop 1) 0).toInt)))+((V.nth ((r1.drop 2).drop 1) 0).toInt))),.int .i64 ((V.nth (r2.drop 1) 0).toInt),.int .i64 ((V.nth ((r2.drop 1).drop 1) 0).toInt),.int .u64 ((V.nth (((r2.drop 1).drop 1).drop 1) 0).toInt),.int .u64 ((V.nth ((((r2.drop 1).drop 1).drop 1).drop 1) 0).toInt),.list ag ((V.nth ((r2.drop 1).drop 4) 0).toList)]).bind fun r3=>
  (Loop (Mm C (((V.nth (((r1.drop 5).drop 1).drop 1) 0).toList).length:Int) (((V.nth ((r1.drop 5).drop 1) 0).toList).length:Int) cx cI cE dg 0 0 ((V.nth r1 0).toInt) ((V.nth (r1.drop 1) 0).toInt) ((V.nth (r1.drop 2) 0).toInt) ((V.nth ((r1.drop 2).drop 1) 0).toInt) ((V.nth ((r1.drop 5).drop 1) 0).toList) ([]:List V) ([]:List V) ((V.nth (r1.drop 5) 0).toList) ((V.nth (((r1.drop 5).drop 1).drop 1) 0).toList) ((V.nth ((((r1.drop 5).drop 1).drop 1).drop 1) 0).toList)) (0,(V.nth r3 0).toInt,(V.nth (r3.drop 1) 0).toInt,(V.nth ((r3.drop 1).drop 1) 0).toInt,(V.nth (((r3.drop 1).drop 1).drop 1) 0).toInt,(V.nth (r3.drop 4) 0).toList)).bind (un fun (Sb:Int)=>un fun (aiO:Bool)=>un fun (ahE:Int)=>un fun (ahF:Int)=>un fun (ahG:Int)=>un fun (ahH:Int) (EX:List V)=>
   (C tD [.int .i64 ahE,.int .i64 ahF,.int .u64 ahG,.int .u64 ahH,.list ag EX]).bind fun uv=>
   some [.int .i64 ((V.nth uv 0).toInt),.int .i64 ((V.nth (uv.drop 1) 0).toInt),.int .i64 ((V.nth (uv.drop 2) 0).toInt),.list ab ((V.nth ((uv.drop 3).drop 5) 0).toList),.list aa ((V.nth (((uv.drop 3).drop 5).drop 1) 0).toList)])
theorem Vu {cx cI:Int} {cE dg:List V} {cF cK:Int} {cL dq:List V} {r:Option (List V)} (h:Mo CC cx cI cE dg cF cK cL dq=r):CC tB [.int .i64 cx,.int .i64 cI,.list ab cE,.list aa dg,.int .i64 cF,.int .i64 cK,.list ab cL,.list aa dq]=r:=
 bn (key:=25) (L:=Vt CC) (bs:=[.loop (ar [1,1,1,1,1,1,1,0,1,0,0] w8)]) (by kernel_rfl) (bf (ahD CC) av) (Eq.trans (by kernel_rfl) h)
end Go.AM
set_option maxRecDepth 100000
namespace Go.AM
open Go.Proofs
noncomputable abbrev pn:Code:=cC Tryd.prog (aw.aW 27)
noncomputable def BM (C:af) (m p q t41 t42 t47 t48:Int) (t62:Bool) (dB dU fT fU fA fB aO aL aT aP:Int) (cP bP br bd bm bK b7:List V) {β:Type} (kr:(Int)→Option β):Option β:=
 bif t62 then
  (C vN [.int .i64 (IntKind.wrap .i64 ((IntKind.wrap .i64 (m*p))+q))]).bind fun r6=>
  kr (IntKind.wrap .u64 ((BitVec.ofInt (IntKind.bits .u64) aP|||BitVec.ofInt (IntKind.bits .u64) ((V.nth r6 0).toInt)).toNat))
 else
  kr aP
noncomputable def BN (C:af) (m p q t41 t42 t47 t48 dB dU fT fU fA fB aO aL aT aP:Int) (cP bP br bd bm bK:List V) (x:Int) (b7:List V) {β:Type} (kn:(Int × (List V))→Option β) (kr:(Int × Bool × (List V))→Option β):Option β:=
 bif decide ((x:Int)<dB) then
  bif (decide (0≤p))&&(decide (p<(bP.length:Int))) then
  (bP[(p:Int).toNat]?).bind fun x8=>
  (idx x8.toList x).bind fun x9=>
  bif (decide (0≤q))&&(decide (q<(bd.length:Int))) then
   (bd[(q:Int).toNat]?).bind fun gd=>
   (idx gd.toList x).bind fun ey=>
   bif Nat.ble ((b7.length+([.agg [.int .i64 (IntKind.wrap .i64 ((IntKind.wrap .i64 (m*p))+q)),.int .i64 x,.int .i64 (IntKind.wrap .i64 ((IntKind.wrap .i64 (m*x9.toInt))+q))],.agg [.int .i64 (IntKind.wrap .i64 ((IntKind.wrap .i64 (m*p))+q)),.int .i64 x,.int .i64 (IntKind.wrap .i64 ((IntKind.wrap .i64 (m*p))+ey.toInt))]]:List V).length)*24) bB then
   kn (IntKind.wrap .i64 (x+1),b7++([.agg [.int .i64 (IntKind.wrap .i64 ((IntKind.wrap .i64 (m*p))+q)),.int .i64 x,.int .i64 (IntKind.wrap .i64 ((IntKind.wrap .i64 (m*x9.toInt))+q))],.agg [.int .i64 (IntKind.wrap .i64 ((IntKind.wrap .i64 (m*p))+q)),.int .i64 x,.int .i64 (IntKind.wrap .i64 ((IntKind.wrap .i64 (m*p))+ey.toInt))]]:List V))
   else none
  else none
  else none
 else
  kr (x,decide ((x:Int)<dB),b7)
noncomputable def BO (C:af) (m p q t41 t42 t47 t48 dB dU fT fU fA fB aO aL aT aP:Int) (cP bP br bd bm bK:List V):(Int × (List V))→Option ((Int × (List V)) ⊕ (Int × Bool × (List V))):=un fun x b7=>BN C m p q t41 t42 t47 t48 dB dU fT fU fA fB aO aL aT aP cP bP br bd bm bK x b7 (fun y=>some (.inl y)) (fun r=>some (.inr r))
noncomputable def BP (C:af) (m p t41 t42 t47 dB dU fT fU fA fB aO aL aT:Int) (cP bP br bd bm bK:List V) (t48 aP:Int) (b7:List V) {β:Type} (kn:(Int × Int × (List V))→Option β) (kr:(Int × Bool × Int × (List V))→Option β):Option β:=
 bif decide ((t48:Int)<t47) then
  bif (decide (0≤p))&&(decide (p<(cP.length:Int))) then
  (cP[(p:Int).toNat]?).bind fun x4=>
  bif x4.toBool then
   bif (decide (0≤t48))&&(decide (t48<(br.length:Int))) then
   (br[(t48:Int).toNat]?).bind fun x5=>
   BM C m p t48 t41 t42 t47 t48 x5.toBool dB dU fT fU fA fB aO aL aT aP cP bP br bd bm bK b7 (fun (sg:Int)=>
    (Loop (BO C m p t48 t41 t42 t47 t48 dB dU fT fU fA fB aO aL aT sg cP bP br bd bm bK) (0,b7)).bind (un fun (aiP:Int)=>un fun (mN:Bool) (qt:List V)=>
     kn (IntKind.wrap .i64 (t48+1),sg,qt)))
   else none
  else
   BM C m p t48 t41 t42 t47 t48 false dB dU fT fU fA fB aO aL aT aP cP bP br bd bm bK b7 (fun (pe:Int)=>
    (Loop (BO C m p t48 t41 t42 t47 t48 dB dU fT fU fA fB aO aL aT pe cP bP br bd bm bK) (0,b7)).bind (un fun (aiQ:Int)=>un fun (agO:Bool) (tS:List V)=>
     kn (IntKind.wrap .i64 (t48+1),pe,tS)))
  else none
 else
  kr (t48,decide ((t48:Int)<t47),aP,b7)
noncomputable def Mp (C:af) (m p t41 t42 t47 dB dU fT fU fA fB aO aL aT:Int) (cP bP br bd bm bK:List V):(Int × Int × (List V))→Option ((Int × Int × (List V)) ⊕ (Int × Bool × Int × (List V))):=un fun t48=>un fun aP b7=>BP C m p t41 t42 t47 dB dU fT fU fA fB aO aL aT cP bP br bd bm bK t48 aP b7 (fun y=>some (.inl y)) (fun r=>some (.inr r))
noncomputable def BQ (C:af) (m t41 dB dU fT fU fA fB aO aL aT:Int) (cP bP br bd bm bK:List V) (t42 aP:Int) (b7:List V) {β:Type} (kn:(Int × Int × (List V))→Option β) (kr:(Int × Bool × Int × (List V))→Option β):Option β:=
 bif decide ((t42:Int)<t41) then
  (Loop (Mp C m t42 t41 t42 (br.length:Int) dB dU fT fU fA fB aO aL aT cP bP br bd bm bK) (0,aP,b7)).bind (un fun (adM:Int)=>un fun (K7:Bool)=>un fun (ahI:Int) (Au:List V)=>
   kn (IntKind.wrap .i64 (t42+1),ahI,Au))
 else
  kr (t42,decide ((t42:Int)<t41),aP,b7)
noncomputable def Mq (C:af) (m t41 dB dU fT fU fA fB aO aL aT:Int) (cP bP br bd bm bK:List V):(Int × Int × (List V))→Option ((Int × Int × (List V)) ⊕ (Int × Bool × Int × (List V))):=un fun t42=>un fun aP b7=>BQ C m t41 dB dU fT fU fA fB aO aL aT cP bP br bd bm bK t42 aP b7 (fun y=>some (.inl y)) (fun r=>some (.inr r))
noncomputable def Vv (C:af):cq:=fun β n ds k=>
 bif Nat.beq n 1007 then lO IQ [[1,2,3,4,5,6,7,9,10,11,12,13,14,15,16,17,0,19,20,21,22,23,24,25]] (@BM C) ds k else
 bif Nat.beq n 257 then bu IS [false,false,false,true,false,false,false,false,false,false,false,false,false,false,false,false,false,false,false,false,false,false,false,false,true] [[1,2,3,0,5,6,7,8,0,9,10,11,12,13,14,15,16,17,18,19,20,21,22,23,24,0]] (@BN C) ds k else
 bif Nat.beq n 177 then bu IT [false,false,false,false,false,true,false,false,false,false,false,false,false,false,false,true,false,false,false,false,false,false,true] [[1,2,3,4,5,0,0,7,8,9,10,11,12,13,14,15,0,17,18,19,20,21,22,0]] (@BP C) ds k else
 bif Nat.beq n 129 then bu IU [false,false,true,false,false,false,false,false,false,false,false,false,true,false,false,false,false,false,false,true] [[1,2,0,0,4,5,6,7,8,9,10,11,12,0,14,15,16,17,18,19,0]] (@BQ C) ds k else
 none
abbrev Gh (C:af) (b:ch):Prop:=cj Tryd.prog aw C (Vv C) 27 (cJ Tryd.prog (aw.aW 27)) (aw.sin 27).a8.length b
theorem ahJ (C:af):Gh C (.cond 62 (ar [1,1,1,1,1,1,0,1,0,0,1,1,0,0,1,1,0,0,1,1,0,0,1,0,1,0] pn) (ar [1,1,1,1,1,1,0,1,0,0,1,1,0,0,1,1,0,0,1,1,0,0,1,0,1,1] pn)):=
 mK IQ [[1,2,3,4,5,6,7,9,10,11,12,13,14,15,16,17,0,19,20,21,22,23,24,25]] (@BM C) (by kernel_rfl) (aS (bs:=[]) (by kernel_rfl) av) (aS (bs:=[]) (by kernel_rfl) av) (fun ds=>by kernel_rfl) (fun i β k=>by kernel_rfl) (fun β ds k=>by kernel_rfl)
theorem ahK (C:af):Gh C (.loop (ar [1,1,1,1,1,1,0,1,0,0,1,1,0,0,1,1,0,0,1,1,0,0,1,1,1,0,0] pn)):=
 bz IS [false,false,false,true,false,false,false,false,false,false,false,false,false,false,false,false,false,false,false,false,false,false,false,false,true] [[1,2,3,0,5,6,7,8,0,9,10,11,12,13,14,15,16,17,18,19,20,21,22,23,24,0]] (@BN C) (by kernel_rfl) (aS (bs:=[]) (by kernel_rfl) av) (fun ds=>by kernel_rfl) (fun i x=>by kernel_rfl) (fun i x β k=>by kernel_rfl) (fun β ds k=>by kernel_rfl)
theorem ahL (C:af):Gh C (.loop (ar [1,1,1,1,1,1,0,1,0,0,1,1,0,0,1,1,0,0] pn)):=
 bz IT [false,false,false,false,false,true,false,false,false,false,false,false,false,false,false,true,false,false,false,false,false,false,true] [[1,2,3,4,5,0,0,7,8,9,10,11,12,13,14,15,0,17,18,19,20,21,22,0]] (@BP C) (by kernel_rfl) (aS (bs:=[.cond 62 (ar [1,1,1,1,1,1,0,1,0,0,1,1,0,0,1,1,0,0,1,1,0,0,1,0,1,0] pn) (ar [1,1,1,1,1,1,0,1,0,0,1,1,0,0,1,1,0,0,1,1,0,0,1,0,1,1] pn),.loop (ar [1,1,1,1,1,1,0,1,0,0,1,1,0,0,1,1,0,0,1,1,0,0,1,1,1,0,0] pn)]) (by kernel_rfl) (bf (ahJ C) (bf (ahK C) av))) (fun ds=>by kernel_rfl) (fun i x=>by kernel_rfl) (fun i x β k=>by kernel_rfl) (fun β ds k=>by kernel_rfl)
theorem ahM (C:af):Gh C (.loop (ar [1,1,1,1,1,1,0,1,0,0] pn)):=
 bz IU [false,false,true,false,false,false,false,false,false,false,false,false,true,false,false,false,false,false,false,true] [[1,2,0,0,4,5,6,7,8,9,10,11,12,0,14,15,16,17,18,19,0]] (@BQ C) (by kernel_rfl) (aS (bs:=[.loop (ar [1,1,1,1,1,1,0,1,0,0,1,1,0,0,1,1,0,0] pn)]) (by kernel_rfl) (bf (ahL C) av)) (fun ds=>by kernel_rfl) (fun i x=>by kernel_rfl) (fun i x β k=>by kernel_rfl) (fun β ds k=>by kernel_rfl)
noncomputable def Vw (C:af) (cx cI:Int) (cE dg:List V) (cF cK:Int) (cL dq:List V):Option (List V):=
 (C rH [.int .i64 cx,.int .i64 cI,.list ab cE,.list aa dg]).bind fun r1=>
 (C rH [.int .i64 cF,.int .i64 cK,.list ab cL,.list aa dq]).bind fun r2=>
 bif decide (((IntKind.wrap .i64 ((((V.nth (r2.drop 2) 0).toList).length:Int)*(((V.nth (r1.drop 2) 0).toList).length:Int))):Int)>64) then
  some [.int .i64 0,.int .i64 0,.int .i64 3,.list ab ([]:List V),.list aa ([]:List V)]
 else
  (C vN [.int .i64 (IntKind.wrap .i64 ((IntKind.wrap .i64 ((((V.nth (r2.drop 2) 0).toList).length:Int)*((V.nth (r1.drop 1) 0).toInt)))+((V.nth (r2.drop 1) 0).toInt)))]).bind fun r3=>
  (Loop (Mq C (((V.nth (r2.drop 2) 0).toList).length:Int) (((V.nth (r1.drop 2) 0).toList).length:Int) ((V.nth r1 0).toInt) ((V.nth (r1.drop 1) 0).toInt) ((V.nth r2 0).toInt) ((V.nth (r2.drop 1) 0).toInt) 0 0 ((V.nth r1 0).toInt) (IntKind.wrap .i64 ((((V.nth (r2.drop 2) 0).toList).length:Int)*(((V.nth (r1.drop 2) 0).toList).length:Int))) ((V.nth r3 0).toInt) ((V.nth (r1.drop 2) 0).toList) ((V.nth ((r1.drop 2).drop 1) 0).toList) ((V.nth (r2.drop 2) 0).toList) ((V.nth ((r2.drop 2).drop 1) 0).toList) ([]:List V) ([]:List V)) (0,0,([]:List V))).bind (un fun (KX:Int)=>un fun (acx:Bool)=>un fun (Mk:Int) (Ml:List V)=>
   (C DV [.int .i64 ((V.nth r1 0).toInt),.int .i64 (IntKind.wrap .i64 ((((V.nth (r2.drop 2) 0).toList).length:Int)*(((V.nth (r1.drop 2) 0).toList).length:Int))),.int .u64 ((V.nth r3 0).toInt),.int .u64 Mk,.list ag Ml]).bind fun BR=>
   some [.int .i64 ((V.nth BR 0).toInt),.int .i64 ((V.nth (BR.drop 1) 0).toInt),.int .i64 ((V.nth (BR.drop 2) 0).toInt),.list ab ((V.nth (BR.drop 3) 0).toList),.list aa ((V.nth ((BR.drop 3).drop 1) 0).toList)])
theorem ahN {cx cI:Int} {cE dg:List V} {cF cK:Int} {cL dq:List V} {r:Option (List V)} (h:Vw CC cx cI cE dg cF cK cL dq=r):CC yM [.int .i64 cx,.int .i64 cI,.list ab cE,.list aa dg,.int .i64 cF,.int .i64 cK,.list ab cL,.list aa dq]=r:=
 bn (key:=27) (L:=Vv CC) (bs:=[.loop (ar [1,1,1,1,1,1,0,1,0,0] pn)]) (by kernel_rfl) (bf (ahM CC) av) (Eq.trans (by kernel_rfl) h)
end Go.AM
set_option maxRecDepth 100000
set_option linter.unusedSimpArgs false
namespace Go.AM
open Go.Proofs
theorem po {a b:Nat} (h:a*b≤1000000000):IntKind.wrap .i64 ((a:Int)*(b:Int))=((a*b:Nat):Int):=by
 rw[←Int.natCast_mul,wrap64 (by omega) (by omega)]
def BT (m k:Da) (p q x:Nat):List Ed:=[fy (k.n*p+q) x (k.n*m.nx p x+q),fy (k.n*p+q) x (k.n*p+k.nx q x)]
def lr (m k:Da) (p q n:Nat):List Ed:=fm n (BT m k p q)
def iE (m k:Da) (p n:Nat):List Ed:=fm n fun q=>lr m k p q m.L
def ib (m k:Da) (n:Nat):List Ed:=fm n fun p=>iE m k p k.n
def pq (m k:Da):Nat→Nat
 | 0=>0
 | p+1=>iW (pq m k p) (fun q=>m.fin p&&k.fin q) (k.n*p) k.n
def mf (m k:Da) (p i:Nat):Nat:=iW (pq m k p) (fun q=>m.fin p&&k.fin q) (k.n*p) i
def sj (m k:Da):Nat:=2^(k.n*m.st+k.st)
def qO (m k:Da):Nf:=cy m.L (k.n*m.n) (sj m k) (pq m k m.n) (ib m k m.n)
theorem qP {a b p q:Nat} (hp:p<b) (hq:q<a):a*p+q<a*b:=by
 have:a*(p+1)≤a*b:=Nat.mul_le_mul_left _ hp
 rw[Nat.mul_add] at this
 omega
section
variable {m k:Da} (hm:m.Ok)
include hm
omit hm in
theorem Mr {p q n:Nat}:(lr m k p q n).length≤n*2:=w6 fun _ _=>Nat.le_refl _
theorem Ms {p n:Nat}:(iE m k p n).length≤n*12:=w6 fun q _=>by
 have:=hm.l6
 have:=Mr (m:=m) (k:=k) (p:=p) (q:=q) (n:=m.L)
 omega
variable (hk:k.Ok)
include hk
theorem Mt {n:Nat}:(ib m k n).length≤n*6144:=w6 fun p _=>by
 have:=hk.eh
 have:=Ms hm (k:=k) (p:=p) (n:=k.n)
 omega
omit hm hk in
theorem Mu {p i:Nat} (hs:k.n*m.n≤64) (hp:p<m.n) (hi:i≤k.n) (hF:pq m k p<2^(k.n*m.n)):mf m k p i<2^(k.n*m.n):=by
 have:k.n*(p+1)≤k.n*m.n:=Nat.mul_le_mul_left _ hp
 rw[Nat.mul_add] at this
 exact Gd hF (by omega)
omit hm hk in
theorem Gi (hs:k.n*m.n≤64): ∀p,p≤m.n→pq m k p<2^(k.n*m.n)
 | 0,_=>Nat.two_pow_pos _
 | p+1,hp=>Mu hs (by omega) (Nat.le_refl _) (Gi hs p (by omega))
variable (hL:m.L=k.L)
include hL
theorem Mv (hs:k.n*m.n≤64):uz m.L (k.n*m.n) (sj m k) (pq m k m.n) (ib m k m.n) where
 l1:=hm.l1
 l6:=hm.l6
 oZ:=hs
 st:=Nat.pow_lt_pow_right (by omega) (qP hm.s hk.s)
 fin:=Gi hs _ (Nat.le_refl _)
 E:=fun e he=>by
  obtain ⟨p,hp,he⟩:=BE.1 he
  obtain ⟨q,hq,he⟩:=BE.1 he
  obtain ⟨x,hx,he⟩:=BE.1 he
  have h1:=hm.ej hp hx
  have h2:=hk.ej hq (hL▸hx)
  rcases List.mem_cons.1 he with rfl|he
  ·exact Gg (qP hp hq) hx (qP h1 hq)
  ·rw[List.mem_singleton] at he
   subst he
   exact Gg (qP hp hq) hx (qP hp h2)
 len:=by
  have h1:=Mt hm hk (n:=m.n)
  have h2:=hm.s
  have h3:=hk.s
  have h4:1*m.n≤k.n*m.n:=Nat.mul_le_mul_right _ (by omega)
  omega
end
section
variable {a b m k:Da} (hm:m.Ok) (hk:k.Ok) (pr:m.L=a.L) (w9:k.L=a.L)
include hm hk pr w9
theorem ahO (hb:CC vM (gn a (cU b))=some (BF m k 0)) (hs:k.n*m.n≤64):CC tB (gn a (cU b))=some (ku (eG (qO m k) a.L (k.n*m.n)) (kA (qO m k) a.L (k.n*m.n))):=by
 have h6:=hm.l6
 have bN:=hm.s
 have Mw:=hk.s
 have uB:m.L=k.L:=pr.trans w9.symm
 have hr:=agI (Mv hm hk uB hs)
 have iO:1*m.n≤k.n*m.n:=Nat.mul_le_mul_right _ (by omega)
 have ahP:(2:Nat)^(k.n*m.n)≤2^64:=Nat.pow_le_pow_right (by omega) hs
 have rD:k.n*1≤k.n*m.n:=Nat.mul_le_mul_left _ (by omega)
 have b0:=qP bN Mw
 refine Vu ?_
 unfold Mo
 refine bs hb (bF rfl ?_)
 simp only[BF,V.bQ,List.drop_succ_cons,List.drop_zero,V.toInt_int,V.mH,Da.mT]
 rw[po (a:=k.n) (b:=m.n) (by omega),po (a:=k.n) (b:=m.st) (by omega),nk (by omega),show m.cv.length=m.n from dQ]
 refine bs (Vf hs) (bF rfl ?_)
 refine bs (Vd (q:=k.n*m.st+k.st) (l:=[]) (by omega) (by omega)) ?_
 rw[Nat.zero_or]
 refine bs (pf m.n (fun i=>((i:Int),(a.L:Int),((k.n*m.n:Nat):Int),(sj m k:Int),(pq m k i:Int),(ib m k i).map Ed.enc)) ((m.n:Int),false,(a.L:Int),((k.n*m.n:Nat):Int),(sj m k:Int),(pq m k m.n:Int),(ib m k m.n).map Ed.enc) rfl (fun p hp=> ?_) ?_) ?_
 ·have Mx:=Gi hs p (by omega)
  have l1:=Mt hm hk (n:=p)
  simp only[Mm,BL,un]
  refine bT (dp hp) ?_
  refine (dE (i:=p) hp).trans ?_
  rw[show (fi m.L (m.nx p)).toList=tab m.L fun x=>nV (m.nx p x) from rfl,show k.cv.length=k.n from dQ]
  refine bs (pf k.n (fun i=>((i:Int),(a.L:Int),((k.n*m.n:Nat):Int),(sj m k:Int),(mf m k p i:Int),(ib m k p++iE m k p i).map Ed.enc)) ((k.n:Int),false,(a.L:Int),((k.n*m.n:Nat):Int),(sj m k:Int),(mf m k p k.n:Int),(ib m k p++iE m k p k.n).map Ed.enc) (by rw[show iE m k p 0=[] from rfl,List.append_nil];rfl) (fun q hq=> ?_) ?_) ?_
  ·have hG:=Mu hs hp (show q≤k.n by omega) Mx
   have l2:=Ms hm (k:=k) (p:=p) (n:=q)
   have b1:=qP hp hq
   have b2:k.n*p≤k.n*m.n:=Nat.mul_le_mul_left _ (by omega)
   simp only[Mj,BK,un]
   refine bT (dp hq) ?_
   refine (dE (i:=q) hq).trans ?_
   rw[show (fi k.L (k.nx q)).toList=tab k.L fun x=>nV (k.nx q x) from rfl,po (a:=k.n) (b:=p) (by omega),nk (by omega)]
   refine bs (pf a.L (fun i=>((i:Int),(a.L:Int),((k.n*m.n:Nat):Int),(sj m k:Int),(mf m k p q:Int),((ib m k p++iE m k p q)++lr m k p q i).map Ed.enc)) ((a.L:Int),false,(a.L:Int),((k.n*m.n:Nat):Int),(sj m k:Int),(mf m k p q:Int),((ib m k p++iE m k p q)++lr m k p q m.L).map Ed.enc) (by rw[show lr m k p q 0=[] from rfl,List.append_nil];rfl) (fun x hx=> ?_) ?_) ?_
   ·have l3:=Mr (m:=m) (k:=k) (p:=p) (q:=q) (n:=x)
    have c1:=hm.ej hp (pr▸hx)
    have c2:=hk.ej hq (w9▸hx)
    have b3:k.n*m.nx p x≤k.n*m.n:=Nat.mul_le_mul_left _ (by omega)
    simp only[Mh,BJ,un]
    refine bT (dp hx) ?_
    refine bs (n9 (pr▸hx)) ?_
    rw[show (nV (m.nx p x)).toInt=((m.nx p x:Nat):Int) from rfl,po (a:=k.n) (b:=m.nx p x) (by omega),nk (by omega)]
    refine bs (Gc (by rw[List.length_append,List.length_append];omega)) ?_
    refine bs (n9 (w9▸hx)) ?_
    rw[show (nV (k.nx q x)).toInt=((k.nx q x:Nat):Int) from rfl,po (a:=k.n) (b:=p) (by omega),nk (by omega)]
    refine bs (Gc (by rw[List.length_append,List.length_append,List.length_append];simp;omega)) ?_
    rw[cu (by omega),show lr m k p q (x+1)=lr m k p q x++BT m k p q x from qK]
    simp[aN,BT]
   ·simp only[Mh,BJ,un]
    refine bF (bt (Nat.le_refl _)) ?_
    rw[bt (Nat.le_refl _),pr]
   ·simp only[un]
    refine (dE (i:=p) hp).trans ?_
    rw[V.jL]
    have e1:iE m k p (q+1)=iE m k p q++lr m k p q m.L:=qK
    have e2:mf m k p (q+1)=if (m.fin p&&k.fin q)=true then mf m k p q|||2^(q+k.n*p) else mf m k p q:=rfl
    rw[e1,e2,←List.append_assoc]
    cases hf:m.fin p with
    | true=>
     refine bT rfl ?_
     refine (dE (i:=q) hq).trans ?_
     rw[V.jL]
     cases hg:k.fin q with
     | true=>
      refine bT rfl ?_
      refine bs (Ve (q:=k.n*p+q) (by omega) (by omega)) ?_
      rw[cu (by omega),if_pos (by rfl),Nat.add_comm q (k.n*p)]
      rfl
     | false=>
      refine bF rfl ?_
      rw[cu (by omega),if_neg (by simp)]
    | false=>
     refine bF rfl ?_
     rw[cu (by omega),if_neg (by simp)]
  ·simp only[Mj,BK,un]
   refine bF (bt (Nat.le_refl _)) ?_
   rw[bt (Nat.le_refl _)]
  ·simp only[un]
   rw[cu (by omega),show ib m k (p+1)=ib m k p++iE m k p k.n from qK]
   rfl
 ·simp only[Mm,BL,un]
  refine bF (bt (Nat.le_refl _)) ?_
  rw[bt (Nat.le_refl _)]
 ·simp only[un]
  rw[pr] at hr
  refine bs hr ?_
  show _=some (ku (eG (cy m.L _ _ _ _) a.L _) (kA (cy m.L _ _ _ _) a.L _))
  rw[pr]
  rfl
omit pr w9 in
theorem ahQ (ha:CC rH (cU a)=some (cU m)) (hb:CC rH (cU b)=some (cU k)) (hs:k.n*m.n≤64):CC yM (gn a (cU b))=some (ku (eG (qO m k) a.L (k.n*m.n)) (kA (qO m k) a.L (k.n*m.n))):=by
 have h6:=hm.l6
 have bN:=hm.s
 have Mw:=hk.s
 have uB:m.L=k.L:=pr.trans w9.symm
 have hr:=agJ (Mv hm hk uB hs)
 have iO:1*m.n≤k.n*m.n:=Nat.mul_le_mul_right _ (by omega)
 have ahP:(2:Nat)^(k.n*m.n)≤2^64:=Nat.pow_le_pow_right (by omega) hs
 have rD:k.n*1≤k.n*m.n:=Nat.mul_le_mul_left _ (by omega)
 have b0:=qP bN Mw
 refine ahN ?_
 unfold Vw
 refine bs ha ?_
 refine bs hb ?_
 simp only[cU,gn,V.bQ,List.drop_succ_cons,List.drop_zero,V.toInt_int,V.mH,Da.mT]
 rw[po (a:=k.n) (b:=m.n) (by omega)]
 refine bF (decide_eq_false (by omega)) ?_
 rw[po (a:=k.n) (b:=m.st) (by omega),nk (by omega)]
 refine bs (Kp (by omega)) ?_
 refine bs (pf m.n (fun i=>((i:Int),(pq m k i:Int),(ib m k i).map Ed.enc)) ((m.n:Int),false,(pq m k m.n:Int),(ib m k m.n).map Ed.enc) rfl (fun p hp=> ?_) ?_) ?_
 ·have Mx:=Gi hs p (by omega)
  have l1:=Mt hm hk (n:=p)
  simp only[Mq,BQ,un]
  refine bT (dp hp) ?_
  rw[Da.mT]
  refine bs (pf k.n (fun i=>((i:Int),(mf m k p i:Int),(ib m k p++iE m k p i).map Ed.enc)) ((k.n:Int),false,(mf m k p k.n:Int),(ib m k p++iE m k p k.n).map Ed.enc) (by rw[show iE m k p 0=[] from rfl,List.append_nil];rfl) (fun q hq=> ?_) ?_) ?_
  ·have hG:=Mu hs hp (show q≤k.n by omega) Mx
   have l2:=Ms hm (k:=k) (p:=p) (n:=q)
   have b1:=qP hp hq
   have b2:k.n*p≤k.n*m.n:=Nat.mul_le_mul_left _ (by omega)
   have e1:iE m k p (q+1)=iE m k p q++lr m k p q m.L:=qK
   have e2:mf m k p (q+1)=if (m.fin p&&k.fin q)=true then mf m k p q|||2^(q+k.n*p) else mf m k p q:=rfl
   have key: ∀{F:Int} {c0 c1 c2 c3:Int} {l0 l1:List V},Loop (BO CC (k.n:Int) (p:Int) (q:Int) (m.n:Int) (p:Int) (k.n:Int) (q:Int) (m.L:Int) (m.st:Int) (k.L:Int) (k.st:Int) c0 c1 (m.L:Int) c2 c3 F m.cN m.cv k.cN k.cv l0 l1) (0,(ib m k p++iE m k p q).map Ed.enc)=some ((m.L:Int),false,((ib m k p++iE m k p q)++lr m k p q m.L).map Ed.enc):=by
    intro F c0 c1 c2 c3 l0 l1
    refine pf m.L (fun i=>((i:Int),((ib m k p++iE m k p q)++lr m k p q i).map Ed.enc)) _ (by rw[show lr m k p q 0=[] from rfl,List.append_nil];rfl) (fun x hx=> ?_) ?_
    ·have l3:=Mr (m:=m) (k:=k) (p:=p) (q:=q) (n:=x)
     have c1:=hm.ej hp hx
     have c2:=hk.ej hq (uB▸hx)
     have b3:k.n*m.nx p x≤k.n*m.n:=Nat.mul_le_mul_left _ (by omega)
     simp only[BO,BN,un]
     refine bT (dp hx) ?_
     refine (dE (i:=p) hp).trans ?_
     refine bs (n9 hx) ?_
     refine (dE (i:=q) hq).trans ?_
     refine bs (n9 (uB▸hx)) ?_
     rw[show (iV (m.nx p x)).toInt=((m.nx p x:Nat):Int) from rfl,show (iV (k.nx q x)).toInt=((k.nx q x:Nat):Int) from rfl,po (a:=k.n) (b:=m.nx p x) (by omega),po (a:=k.n) (b:=p) (by omega),nk (by omega),nk (by omega),nk (by omega)]
     refine bT (cap (by simp;omega) (by omega)) ?_
     rw[cu (by omega),show lr m k p q (x+1)=lr m k p q x++BT m k p q x from qK]
     simp[BT,fy,Ed.enc]
    ·simp only[BO,BN,un]
     refine bF (bt (Nat.le_refl _)) ?_
     rw[bt (Nat.le_refl _)]
   simp only[Mp,BP,un]
   refine bT (dp hq) ?_
   refine (dE (i:=p) hp).trans ?_
   rw[V.jL,e1,e2,←List.append_assoc]
   unfold BM
   cases hf:m.fin p with
   | true=>
    refine bT rfl ?_
    refine (dE (i:=q) hq).trans ?_
    rw[V.jL]
    cases hg:k.fin q with
    | true=>
     refine bT rfl ?_
     rw[po (a:=k.n) (b:=p) (by omega),nk (by omega)]
     refine bs (Kp (by omega)) ?_
     rw[show (V.nth [V.int .u64 ((2^(k.n*p+q):Nat):Int)] 0).toInt=((2^(k.n*p+q):Nat):Int) from rfl,u64_or (by omega) (Nat.pow_lt_pow_right (by omega) (by omega)),if_pos (by rfl),Nat.add_comm q (k.n*p)]
     refine bs key ?_
     simp only[un]
     rw[cu (by omega)]
    | false=>
     refine bF rfl ?_
     rw[if_neg (by simp)]
     refine bs key ?_
     simp only[un]
     rw[cu (by omega)]
   | false=>
    refine bF rfl ?_
    rw[if_neg (by simp)]
    refine bF rfl ?_
    refine bs key ?_
    simp only[un]
    rw[cu (by omega)]
  ·simp only[Mp,BP,un]
   refine bF (bt (Nat.le_refl _)) ?_
   rw[bt (Nat.le_refl _)]
  ·simp only[un]
   rw[cu (by omega),show ib m k (p+1)=ib m k p++iE m k p k.n from qK]
   rfl
 ·simp only[Mq,BQ,un]
  refine bF (bt (Nat.le_refl _)) ?_
  rw[bt (Nat.le_refl _)]
 ·simp only[un]
  refine bs hr ?_
  show _=some (ku (eG (cy m.L _ _ _ _) a.L _) (kA (cy m.L _ _ _ _) a.L _))
  rw[pr]
  rfl
end
section
variable {a b:Da} (ha:a.Ok) (hb:b.Ok) (hL:a.L=b.L)
include ha hb hL
theorem ahR (hs:(minD b).n*(minD a).n≤64):CC tB (gn a (cU b))=some (ku (eG (qO (minD a) (minD b)) a.L ((minD b).n*(minD a).n)) (kA (qO (minD a) (minD b)) a.L ((minD b).n*(minD a).n))):=
 ahO (qL ha) (qL hb) (nn ha) ((nn hb).trans hL.symm) (ahc ha hb hL) hs
theorem ahS (hs:(minD b).n*(minD a).n≤64):CC yM (gn a (cU b))=some (ku (eG (qO (minD a) (minD b)) a.L ((minD b).n*(minD a).n)) (kA (qO (minD a) (minD b)) a.L ((minD b).n*(minD a).n))):=
 ahQ (qL ha) (qL hb) (nn ha) ((nn hb).trans hL.symm) (Lh ha) (Lh hb) hs
end
theorem ahT {d e:Df} (hd:d.Ok) (he:e.Ok) (hv:nj d e≠0):CC tB (iX d (iX e []))=some (ku zD (nj d e)):=by
 refine Vu ?_
 unfold Mo
 refine bs (ahd hd he hv) (bT (by simpa[BF] using hv) ?_)
 rfl
end Go.AM
set_option maxRecDepth 100000
set_option linter.unusedSimpArgs false
namespace Go.AM
open Go.Proofs
def eH:Da:=⟨2,0,[false,true],[[1,0],[0,1]]⟩
def mg:Da:=⟨2,0,[false,true],[[1,0],[1,1]]⟩
theorem BU:eH.Ok:=⟨by decide,by decide,by decide,by decide,by decide,by decide⟩
theorem Gj:mg.Ok:=⟨by decide,by decide,by decide,by decide,by decide,by decide⟩
theorem ahU:eH.Canon eH.L (eH.acc eH.st) where
 ok:=BU
 hL:=rfl
 st:=rfl
 num:=⟨by decide,by decide,by decide⟩
 red:=fun p q hp hq h=>by
  have h0:=h [] WL.nil
  have hp':p<2:=hp
  have bY:q<2:=hq
  have: ∀p,p<2→∀q,q<2→eH.acc p []=eH.acc q []→p=q:=by decide
  exact this p hp' q bY h0
 kW:=fun _ _=>rfl
theorem ahV:mg.Canon mg.L (mg.acc mg.st) where
 ok:=Gj
 hL:=rfl
 st:=rfl
 num:=⟨by decide,by decide,by decide⟩
 red:=fun p q hp hq h=>by
  have h0:=h [] WL.nil
  have hp':p<2:=hp
  have bY:q<2:=hq
  have: ∀p,p<2→∀q,q<2→mg.acc p []=mg.acc q []→p=q:=by decide
  exact this p hp' q bY h0
 kW:=fun _ _=>rfl
theorem Vx:minD eH=eH:=(wm BU ahU).symm
theorem ahW:eF (w7 eH) 2 2=mg:=by kernel_rfl
theorem Vy: ¬fM (w7 eH) 2 2:=by
 have:=uc (ni (Vq BU (by decide))) (2^2)
 exact fun h=>absurd (Nat.lt_of_lt_of_le h this) (by decide)
theorem ahX:eG (w7 eH) 2 2=mg:=by
 unfold eG
 rw[if_neg Vy,ahW]
 exact (wm Gj ahV).symm
end Go.AM
set_option maxRecDepth 100000
namespace Go.AM
open Go.Proofs
noncomputable def Vz (C:af):Option (List V):=
 (C DT []).bind fun r1=>
 (C DP [.int .i64 ((V.nth r1 0).toInt),.int .i64 ((V.nth (r1.drop 1) 0).toInt),.list ab ((V.nth (r1.drop 2) 0).toList),.list aa ((V.nth ((r1.drop 2).drop 1) 0).toList)]).bind fun r2=>
 bif (((V.nth (r2.drop 2) 0).toInt):Int)==0 then
  bif ((((V.nth (r2.drop 3) 0).toList).length:Int):Int)==2 then
  (C yN [.int .i64 ((V.nth r2 0).toInt),.int .i64 ((V.nth (r2.drop 1) 0).toInt),.list ab ((V.nth (r2.drop 3) 0).toList),.list aa ((V.nth ((r2.drop 3).drop 1) 0).toList),.str [98,97,97]]).bind fun r3=>
  bif (V.nth r3 0).toBool then
   (C yN [.int .i64 ((V.nth r2 0).toInt),.int .i64 ((V.nth (r2.drop 1) 0).toInt),.list ab ((V.nth (r2.drop 3) 0).toList),.list aa ((V.nth ((r2.drop 3).drop 1) 0).toList),.str [98,98]]).bind fun r4=>
   some [.bool (!((V.nth r4 0).toBool))]
  else
   some [.bool false]
  else
  some [.bool false]
 else
  some [.bool false]
theorem ahY {r:Option (List V)} (h:Vz CC=r):CC vL []=r:=
 bn (key:=19) (L:=cT) (bs:=[]) (by kernel_rfl) av (Eq.trans (by kernel_rfl) h)
end Go.AM
set_option maxRecDepth 100000
namespace Go.AM
open Go.Proofs
noncomputable def ahZ (C:af):Option (List V):=
 some [.int .i64 2,.int .i64 0,.list ab ([.bool false,.bool true]:List V),.list aa ([.list ah ([.int .i64 1,.int .i64 0]:List V),.list ah ([.int .i64 0,.int .i64 1]:List V)]:List V)]
theorem ah0 {r:Option (List V)} (h:ahZ CC=r):CC DT []=r:=
 bn (key:=59) (L:=cT) (bs:=[]) (by kernel_rfl) av (Eq.trans (by kernel_rfl) h)
end Go.AM
set_option maxRecDepth 100000
set_option linter.unusedSimpArgs false
namespace Go.AM
open Go.Proofs
def VA:List Ed:=[⟨0,0,1⟩,⟨0,1,0⟩,⟨1,0,0⟩,⟨1,1,1⟩,⟨0,0,0⟩,⟨0,1,0⟩,⟨1,0,1⟩,⟨1,1,1⟩]
def My:List Ed:=[⟨0,0,0⟩,⟨0,0,1⟩,⟨0,1,0⟩,⟨0,1,0⟩,⟨1,0,0⟩,⟨1,0,1⟩,⟨1,1,1⟩,⟨1,1,1⟩]
def Gk:List Ed:=[⟨0,0,0⟩,⟨0,0,1⟩,⟨0,1,0⟩,⟨1,0,0⟩,⟨1,0,1⟩,⟨1,1,1⟩]
theorem ah1:ju eH 0++jv 2 2=VA:=by decide
theorem ah2:CC yT [.list ag (VA.map Ed.enc)]=some [.list ag (My.map Ed.enc)]:=Zu (N:=40) (n:=40) (by kernel_rfl)
theorem ah3:w7 eH=⟨2,2,1,2,Gk⟩:=by kernel_rfl
theorem ah4:CC tD (aN 2 2 (2^eH.st) (iW 0 eH.fin 0 2) (ju eH 0++jv 2 2))=some (LX mg 0 ⟨2,2,1,2,Gk⟩):=by
 obtain ⟨b,e2⟩:=TK (l:=My) (by decide)
 have hc:hY My=Gk:=by decide
 rw[hc] at e2
 have e3:=UT (ni (Vq BU (by decide)))
 rw[show cy eH.L eH.n (2^eH.st) (iW 0 eH.fin 0 eH.n) (ju eH 0++jv eH.L eH.n)=w7 eH from rfl,show eH.L=2 from rfl,show eH.n=2 from rfl,ahX,show kA (w7 eH) 2 2=0 from if_neg Vy,ah3] at e3
 rw[ah1]
 refine UR ?_
 unfold LV
 refine bs ah2 ?_
 refine bs e2 ?_
 cases b
 ·refine bF rfl ?_
  refine bs e3 ?_
  rfl
 ·refine bT rfl ?_
  refine bs e3 ?_
  rfl
theorem Mz:CC vL []=some [.bool true]:=by
 have h1:CC DT []=some (cU eH):=ah0 rfl
 have h2:=ahu BU (X:=mg) (e:=0) (n:=⟨2,2,1,2,Gk⟩) (by rw[Vx];decide) (by rw[Vx];exact ah4)
 refine ahY ?_
 unfold Vz
 refine bs h1 ?_
 refine bs h2 ?_
 refine bT rfl (bT (by decide) ?_)
 refine bs (RW Gj (w:=[98,97,97]) (by decide)) ?_
 refine bT (by decide) ?_
 refine bs (RW Gj (w:=[98,98]) (by decide)) ?_
 rw[show mg.acc mg.st (lets [98,98])=false by decide]
 rfl
end Go.AM
set_option maxRecDepth 100000
namespace Go.AM
open Go.Proofs
noncomputable def Gl (C:af) (cx cI:Int) (cE dg:List V) (cF cK:Int) (cL dq:List V):Option (List V):=
 (C yL [.int .i64 cx,.int .i64 cI,.list ab cE,.list aa dg,.int .i64 cF,.int .i64 cK,.list ab cL,.list aa dq]).bind fun r1=>
 bif (((V.nth r1 0).toInt):Int) != 0 then
  (C tB [.int .i64 cx,.int .i64 cI,.list ab cE,.list aa dg,.int .i64 cF,.int .i64 cK,.list ab cL,.list aa dq]).bind fun r2=>
  (C yK [.int .i64 ((V.nth r2 0).toInt),.int .i64 ((V.nth (r2.drop 1) 0).toInt),.list ab ((V.nth (r2.drop 3) 0).toList),.list aa ((V.nth ((r2.drop 3).drop 1) 0).toList),.int .i64 ((V.nth (r2.drop 2) 0).toInt),.int .i64 0,.int .i64 0,.list ab ([]:List V),.list aa ([]:List V),.int .i64 ((V.nth r1 0).toInt)]).bind fun r3=>
  bif (V.nth r3 0).toBool then
  (C vL []).bind fun r4=>
  some [.bool ((V.nth r4 0).toBool)]
  else
  some [.bool false]
 else
  (C DO [.int .i64 cx,.int .i64 cI,.list ab cE,.list aa dg,.int .i64 cF,.int .i64 cK,.list ab cL,.list aa dq,.int .i64 3]).bind fun r5=>
  bif !((V.nth r5 0).toBool) then
  (C vL []).bind fun r6=>
  some [.bool ((V.nth r6 0).toBool)]
  else
  (C tB [.int .i64 cx,.int .i64 cI,.list ab cE,.list aa dg,.int .i64 cF,.int .i64 cK,.list ab cL,.list aa dq]).bind fun r7=>
  (C yM [.int .i64 cx,.int .i64 cI,.list ab cE,.list aa dg,.int .i64 cF,.int .i64 cK,.list ab cL,.list aa dq]).bind fun r8=>
  (C yK [.int .i64 ((V.nth r7 0).toInt),.int .i64 ((V.nth (r7.drop 1) 0).toInt),.list ab ((V.nth (r7.drop 3) 0).toList),.list aa ((V.nth ((r7.drop 3).drop 1) 0).toList),.int .i64 ((V.nth (r7.drop 2) 0).toInt),.int .i64 ((V.nth r8 0).toInt),.int .i64 ((V.nth (r8.drop 1) 0).toInt),.list ab ((V.nth (r8.drop 3) 0).toList),.list aa ((V.nth ((r8.drop 3).drop 1) 0).toList),.int .i64 ((V.nth (r8.drop 2) 0).toInt)]).bind fun r9=>
  bif (V.nth r9 0).toBool then
   (C vL []).bind fun r10=>
   some [.bool ((V.nth r10 0).toBool)]
  else
   some [.bool false]
theorem MA {cx cI:Int} {cE dg:List V} {cF cK:Int} {cL dq:List V} {r:Option (List V)} (h:Gl CC cx cI cE dg cF cK cL dq=r):CC IC [.int .i64 cx,.int .i64 cI,.list ab cE,.list aa dg,.int .i64 cF,.int .i64 cK,.list ab cL,.list aa dq]=r:=
 bn (key:=5) (L:=cT) (bs:=[]) (by kernel_rfl) av (Eq.trans (by kernel_rfl) h)
end Go.AM
set_option maxRecDepth 100000
set_option linter.unusedSimpArgs false
namespace Go.AM
open Go.Proofs
theorem VD (d:Df) (hd:d.Ok) (e:Df) (he:e.Ok):CC IC (iX d (iX e []))=some [.bool true]:=by
 have hP:=U0 hd he
 have hB:=ahf hd he 3
 by_cases hv:nj d e=0
 case neg=>
  refine MA ?_
  unfold Gl
  refine bs hP ?_
  refine bT (by simpa using hv) ?_
  refine bs (ahT hd he hv) ?_
  refine bs (Vm UZ _) (bT rfl ?_)
  exact bs Mz rfl
 by_cases h4:(d.F.length:Int)≤3∧(e.F.length:Int)≤3∧nj d e=0
 case neg=>
  rw[decide_eq_false h4] at hB
  refine MA ?_
  unfold Gl
  refine bs hP ?_
  refine bF (by simp[hv]) ?_
  refine bs hB (bT rfl ?_)
  exact bs Mz rfl
 rw[decide_eq_true h4] at hB
 rw[hv] at hP
 obtain ⟨a,b,ha,hb,hL,rfl,rfl⟩:=ahe hv
 have n1:(a.n:Int)≤3:=h4.1
 have n2:(b.n:Int)≤3:=h4.2.1
 have n3:=Md ha
 have n4:=Md hb
 have uB:(minD a).L=(minD b).L:=by rw[nn ha,nn hb,hL]
 have hs:(minD b).n*(minD a).n≤64:=by
  have:=Nat.mul_le_mul (show (minD b).n≤3 by omega) (show (minD a).n≤3 by omega)
  omega
 have hq:=ahx (Mv (qL ha) (qL hb) uB hs)
 rw[nn ha] at hq
 rw[ha.leaves,hb.leaves] at*
 have r1:=ahR ha hb hL hs
 have r2:=ahS ha hb hL hs
 unfold qO at r1 r2
 rw[nn ha] at r1 r2
 refine MA ?_
 unfold Gl
 refine bs hP (bF rfl ?_)
 refine bs hB (bF rfl ?_)
 refine bs r1 ?_
 refine bs r2 ?_
 refine bs (Vm hq _) (bT rfl ?_)
 exact bs Mz rfl
end Go.AM
set_option maxRecDepth 100000
namespace Go.AM
open Go.Proofs
theorem WT.MB {P:Program} {t:TypeId} {x:V} (hu:P.underlying t=some (.int .i64)) (h:WT P t x): ∃n:Int,x= .int .i64 n∧ -9223372036854775808≤n∧n≤9223372036854775807:=by
 obtain ⟨n,rfl,h1,h2⟩:=h.ew hu
 have e1:IntKind.min .i64= -9223372036854775808:=by decide
 have e2:IntKind.max .i64=9223372036854775807:=by decide
 rw[e1] at h1
 rw[e2] at h2
 exact ⟨n,rfl,h1,h2⟩
theorem ah5 {α:Type} {l:List α} (h:l.length=4): ∃a b c d,l=[a,b,c,d]:=by
 match l,h with
 | [a,b,c,d],_=>exact ⟨a,b,c,d,rfl⟩
theorem ah6 {x:V} (h:gX Tryd.prog aa x): ∃r:List Int,x=kj r∧(r.length≤maxLen∧∀q∈r,-9223372036854775808≤q∧q≤9223372036854775807):=by
 have hu:Tryd.prog.underlying aa=some (.slice ah):=by kernel_rfl
 have hi:Tryd.prog.underlying ah=some (.int .i64):=by kernel_rfl
 obtain ⟨es,rfl,e1,e2⟩:=WT.Iq hu (gX.one (by kernel_rfl) h)
 obtain ⟨r,rfl,hr⟩:=Ir (f:=iV) (p:=fun q=> -9223372036854775808≤q∧q≤9223372036854775807) fun y hy=>WT.MB hi (gX.one (by kernel_rfl) (e2 y hy))
 exact ⟨r,rfl,by simpa using e1,hr⟩
def Df.enc (d:Df):V:= .agg (iX d [])
theorem MD {t:TypeId} {x:V} (ha:bH Tryd.prog t=true) (he:aU Tryd.prog t=[ah,ah,ID,IE]) (h:gX Tryd.prog t x): ∃d:Df,x=d.enc∧d.Ok:=by
 obtain ⟨xs,rfl,hl,hx⟩:=gX.j7 ha h
 rw[he] at hl
 obtain ⟨a,b,c,d,rfl⟩:=ah5 hl
 have hu:Tryd.prog.underlying ah=some (.int .i64):=by kernel_rfl
 have hb:Tryd.prog.underlying ab=some .bool:=by kernel_rfl
 have hv:Tryd.prog.underlying ID=some (.slice ab):=by kernel_rfl
 have hw:Tryd.prog.underlying IE=some (.slice aa):=by kernel_rfl
 obtain ⟨L,rfl,l1,l2⟩:=WT.MB hu (hx 0 ah a (by rw[he];rfl) rfl)
 obtain ⟨S,rfl,s1,s2⟩:=WT.MB hu (hx 1 ah b (by rw[he];rfl) rfl)
 obtain ⟨fs,rfl,f1,f2⟩:=WT.Iq hv (hx 2 ID c (by rw[he];rfl) rfl)
 obtain ⟨ns,rfl,n1,n2⟩:=WT.Iq hw (hx 3 IE d (by rw[he];rfl) rfl)
 obtain ⟨F,rfl⟩:=P2 (f:=V.bool) fun y hy=>WT.je hb (gX.one (by kernel_rfl) (f2 y hy))
 obtain ⟨N,rfl,hN⟩:=Ir (f:=kj) fun y hy=>ah6 (n2 y hy)
 exact ⟨⟨L,S,F,N⟩,rfl,l1,l2,s1,s2,by simpa using f1,by simpa using n1,hN⟩
end Go.AM
