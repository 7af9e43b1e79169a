/-
  Functions of the program, lifted to plain data.
-/
import Derived.Sort.AssemblyPlain
import Derived.Test.YtpigoedhkpjgeaaGreatDoorP5
set_option linter.unusedVariables false
set_option linter.unusedSimpArgs false
set_option linter.unusedSectionVars false
set_option maxRecDepth 100000
namespace Go.AM
open Go.IntKind (wrap)
open Go.Proofs
noncomputable def sR (C:af) (u x i:Int) (Tk:List UInt8) (t28 t29:Int) (t78:Bool) (bM:Int) (bX:Bool) (cY:Int) (bd rows fs rp eY eZ fa ft dx e7 fG jD:LV) {β:Type} (kr:(Int×Int×Bool×Int×LV×LV×LV×LV×LV×LV×LV×LV×LV×LV)→Option β):Option β:=
 bif t78 then
  aq fG u fun x6=>
  (C Ed [V.int .i64 x6.toInt,V.int .i64 x,V.int .i64 bM,.bool bX,V.int .i64 cY,.list ah rp,.list ah eY,.list ae eZ,.list ae fa,.list ah ft,.list dQ dx,.list cz bd,.list ch e7,.list ae fG,.list ae jD]).bind fun r7=>
  (C AA [.list ae fs,V.int .i64 u,V.int .i64 x,.str Tk,V.int .i64 ((V.nth r7 0).toInt),V.int .i64 ((V.nth (r7.drop 1) 0).toInt),.bool ((V.nth ((r7.drop 1).drop 1) 0).toBool),V.int .i64 ((V.nth (((r7.drop 1).drop 1).drop 1) 0).toInt),.list ah ((V.nth ((r7.drop 1).drop 3) 0).toList),.list ah ((V.nth ((((r7.drop 1).drop 3).drop 1).drop 1) 0).toList),.list ae ((V.nth (((((r7.drop 1).drop 3).drop 1).drop 1).drop 1) 0).toList),.list ae ((V.nth ((((((r7.drop 1).drop 3).drop 1).drop 1).drop 1).drop 1) 0).toList),.list ah ((V.nth (((((((r7.drop 1).drop 3).drop 1).drop 1).drop 1).drop 1).drop 1) 0).toList),.list dQ ((V.nth ((((((((r7.drop 1).drop 3).drop 1).drop 1).drop 1).drop 1).drop 1).drop 1) 0).toList),.list cz ((V.nth (((r7.drop 1).drop 3).drop 1) 0).toList),.list ch ((V.nth (((((((((r7.drop 1).drop 3).drop 1).drop 1).drop 1).drop 1).drop 1).drop 1).drop 1) 0).toList),.list ae ((V.nth ((((((((((r7.drop 1).drop 3).drop 1).drop 1).drop 1).drop 1).drop 1).drop 1).drop 1).drop 1) 0).toList),.list ae ((V.nth (((((((((((r7.drop 1).drop 3).drop 1).drop 1).drop 1).drop 1).drop 1).drop 1).drop 1).drop 1).drop 1) 0).toList)]).bind fun r8=>
  kr ((V.nth r8 0).toInt,(V.nth (r8.drop 1) 0).toInt,(V.nth ((r8.drop 1).drop 1) 0).toBool,(V.nth (((r8.drop 1).drop 1).drop 1) 0).toInt,(V.nth (((r8.drop 1).drop 3).drop 1) 0).toList,(V.nth ((r8.drop 1).drop 3) 0).toList,(V.nth ((((r8.drop 1).drop 3).drop 1).drop 1) 0).toList,(V.nth (((((r8.drop 1).drop 3).drop 1).drop 1).drop 1) 0).toList,(V.nth ((((((r8.drop 1).drop 3).drop 1).drop 1).drop 1).drop 1) 0).toList,(V.nth (((((((r8.drop 1).drop 3).drop 1).drop 1).drop 1).drop 1).drop 1) 0).toList,(V.nth ((((((((r8.drop 1).drop 3).drop 1).drop 1).drop 1).drop 1).drop 1).drop 1) 0).toList,(V.nth (((((((((r8.drop 1).drop 3).drop 1).drop 1).drop 1).drop 1).drop 1).drop 1).drop 1) 0).toList,(V.nth ((((((((((r8.drop 1).drop 3).drop 1).drop 1).drop 1).drop 1).drop 1).drop 1).drop 1).drop 1) 0).toList,(V.nth (((((((((((r8.drop 1).drop 3).drop 1).drop 1).drop 1).drop 1).drop 1).drop 1).drop 1).drop 1).drop 1) 0).toList)
 else
  aq e7 u fun x9=>
  bif !(x9.toStr==[]) then
  aq fG u fun lX=>
  (C Ee [V.int .i64 lX.toInt,V.int .i64 x,V.int .i64 bM,.bool bX,V.int .i64 cY,.list ah rp,.list ah eY,.list ae eZ,.list ae fa,.list ah ft,.list dQ dx,.list cz bd,.list ch e7,.list ae fG,.list ae jD]).bind fun dt=>
  bif (V.nth dt 0).toBool then
   aq ((V.nth (((((((((dt.drop 1).drop 3).drop 1).drop 1).drop 1).drop 1).drop 1).drop 1).drop 1) 0).toList) i fun qi=>
   bif Nat.ble ((((V.nth ((((((((dt.drop 1).drop 3).drop 1).drop 1).drop 1).drop 1).drop 1).drop 1) 0).toList).length+([.agg [.str Tk,.str qi.toStr]]:LV).length)*32) bm then
   kr (i,(V.nth (dt.drop 1) 0).toInt,(V.nth ((dt.drop 1).drop 1) 0).toBool,(V.nth (((dt.drop 1).drop 1).drop 1) 0).toInt,(V.nth (((dt.drop 1).drop 3).drop 1) 0).toList,(V.nth ((dt.drop 1).drop 3) 0).toList,(V.nth ((((dt.drop 1).drop 3).drop 1).drop 1) 0).toList,(V.nth (((((dt.drop 1).drop 3).drop 1).drop 1).drop 1) 0).toList,(V.nth ((((((dt.drop 1).drop 3).drop 1).drop 1).drop 1).drop 1) 0).toList,(V.nth (((((((dt.drop 1).drop 3).drop 1).drop 1).drop 1).drop 1).drop 1) 0).toList,((V.nth ((((((((dt.drop 1).drop 3).drop 1).drop 1).drop 1).drop 1).drop 1).drop 1) 0).toList)++([.agg [.str Tk,.str qi.toStr]]:LV),(V.nth (((((((((dt.drop 1).drop 3).drop 1).drop 1).drop 1).drop 1).drop 1).drop 1).drop 1) 0).toList,(V.nth ((((((((((dt.drop 1).drop 3).drop 1).drop 1).drop 1).drop 1).drop 1).drop 1).drop 1).drop 1) 0).toList,(V.nth (((((((((((dt.drop 1).drop 3).drop 1).drop 1).drop 1).drop 1).drop 1).drop 1).drop 1).drop 1).drop 1) 0).toList)
   else none
  else
   kr (i,(V.nth (dt.drop 1) 0).toInt,(V.nth ((dt.drop 1).drop 1) 0).toBool,(V.nth (((dt.drop 1).drop 1).drop 1) 0).toInt,(V.nth (((dt.drop 1).drop 3).drop 1) 0).toList,(V.nth ((dt.drop 1).drop 3) 0).toList,(V.nth ((((dt.drop 1).drop 3).drop 1).drop 1) 0).toList,(V.nth (((((dt.drop 1).drop 3).drop 1).drop 1).drop 1) 0).toList,(V.nth ((((((dt.drop 1).drop 3).drop 1).drop 1).drop 1).drop 1) 0).toList,(V.nth (((((((dt.drop 1).drop 3).drop 1).drop 1).drop 1).drop 1).drop 1) 0).toList,(V.nth ((((((((dt.drop 1).drop 3).drop 1).drop 1).drop 1).drop 1).drop 1).drop 1) 0).toList,(V.nth (((((((((dt.drop 1).drop 3).drop 1).drop 1).drop 1).drop 1).drop 1).drop 1).drop 1) 0).toList,(V.nth ((((((((((dt.drop 1).drop 3).drop 1).drop 1).drop 1).drop 1).drop 1).drop 1).drop 1).drop 1) 0).toList,(V.nth (((((((((((dt.drop 1).drop 3).drop 1).drop 1).drop 1).drop 1).drop 1).drop 1).drop 1).drop 1).drop 1) 0).toList)
  else
  kr (i,bM,bX,cY,bd,rp,eY,eZ,fa,ft,dx,e7,fG,jD)
noncomputable def Fq (C:af) (u t28 t29 bM:Int) (bX:Bool) (cY:Int) (bd rows rp fH eY eZ fa ft dx e7 fG:LV) {β:Type} (kn:(Int×Int×Bool×Int×LV×LV×LV×LV×LV×LV×LV×LV×LV×LV×LV)→Option β) (kr:((Int×Int×Bool×Int×LV×LV×LV×LV×LV×LV×LV×LV×LV×LV) ⊕ (Int×Bool×Int×Bool×Int×LV×LV×LV×LV×LV×LV×LV×LV×LV×LV×LV))→Option β):Option β:=
 bif decide (t29<t28) then
  aq rp t29 fun x1=>
  aq fH u fun x2=>
  (C Ec [.list ae x2.toList,.list ae x1.toList]).bind fun r3=>
  (C vZ [.list ae ((V.nth r3 0).toList)]).bind fun r4=>
  bif Nat.ble (((V.nth r4 0).toStr).length) maxLen&&true then
  aq dx u fun x5=>
  bif (decide (0≤(wrap .i32 (wrap .i64 (97+t29)))))&&(decide ((wrap .i32 (wrap .i64 (97+t29)))<128)) then
   bif Nat.ble (x5.toStr.length+[UInt8.ofNat ((wrap .i32 (wrap .i64 (97+t29)):Int).toNat)].length) pK then
   bif !(fB (.str ((V.nth r4 0).toStr)) bd) then
    bif (fH.length:Int)==2000 then
    kr (.inl (3,bM,bX,cY,bd,rp,fH,eY,eZ,fa,ft,dx,e7,fG))
    else
    sR C u t29 ((jl (.str ((V.nth r4 0).toStr)) bd (V.int .i64 0)).toInt) (x5.toStr++[UInt8.ofNat ((wrap .i32 (wrap .i64 (97+t29)):Int).toNat)]) t28 t29 (!(fB (.str ((V.nth r4 0).toStr)) bd)) bM bX cY bd rows ((V.nth r3 0).toList) rp fH eY eZ fa ft dx e7 fG (un fun amF=>un fun amG=>un fun (Fs:Bool)=>un fun Ft=>un fun (j4:LV)=>un fun (amH:LV)=>un fun (rm:LV)=>un fun (sK:LV)=>un fun (yp:LV)=>un fun (yq:LV)=>un fun (sL:LV)=>un fun (E6:LV)=>un fun (acm:LV) (acn:LV)=>
     aq rows t29 fun LP=>
     kn (wrap .i64 (t29+1),amG,Fs,Ft,j4,aD rows t29 (V.int .i64 amF),amH,rm,sK,yp,yq,sL,E6,acm,acn))
   else
    sR C u t29 ((jl (.str ((V.nth r4 0).toStr)) bd (V.int .i64 0)).toInt) (x5.toStr++[UInt8.ofNat ((wrap .i32 (wrap .i64 (97+t29)):Int).toNat)]) t28 t29 (!(fB (.str ((V.nth r4 0).toStr)) bd)) bM bX cY bd rows ((V.nth r3 0).toList) rp fH eY eZ fa ft dx e7 fG (un fun LQ=>un fun Tl=>un fun (Tm:Bool)=>un fun Tn=>un fun (E7:LV)=>un fun (amI:LV)=>un fun (yn:LV)=>un fun (E8:LV)=>un fun (To:LV)=>un fun (Fu:LV)=>un fun (Fv:LV)=>un fun (Tp:LV)=>un fun (Ts:LV) (LR:LV)=>
     aq rows t29 fun LU=>
     kn (wrap .i64 (t29+1),Tl,Tm,Tn,E7,aD rows t29 (V.int .i64 LQ),amI,yn,E8,To,Fu,Fv,Tp,Ts,LR))
   else none
  else none
  else none
 else
  kr (.inr (t29,decide (t29<t28),bM,bX,cY,bd,rows,rp,fH,eY,eZ,fa,ft,dx,e7,fG))
noncomputable def A4 (C:af) (u t28:Int):=un fun t29=>un fun bM=>un fun bX=>un fun cY=>un fun bd=>un fun rows=>un fun rp=>un fun fH=>un fun eY=>un fun eZ=>un fun fa=>un fun ft=>un fun dx=>un fun e7 fG=>Fq C u t28 t29 bM bX cY bd rows rp fH eY eZ fa ft dx e7 fG (fun y=>some (Sum.inl y)) (fun r=>some (Sum.inr r))
noncomputable def aco (C:af):cx:=o9 1263 R3 [[1,2,0,5,6,0,0,0,0,12,0,0,0,0,0,0,0,0,0]] (@sR C) (br 65 R4 [EQ,EQ,H1,H1,H1,H1,H1,H1,H1,H1,H1,H1,H1,H1,H1,H1,H1] [[0,0,0,0,0,0,0,0,0,0,0,0,0,0],[1,2,0,0,0,0,0,0,0,0,0,0,0,0,0,0,0,0]] (@Fq C) bA)
theorem amJ (C:af):aZ C (aco C) 84 (Cd 78 [1,1,1,0,1,0,0,1,1,0,0,1,1,1,1,0,0,1,1,1,0] [1,1,1,0,1,0,0,1,1,0,0,1,1,1,1,0,0,1,1,1,1] 84):=o8 R3 [[1,2,0,5,6,0,0,0,0,12,0,0,0,0,0,0,0,0,0]] (@sR C) (aR au) (aR au)
theorem amK (C:af):aZ C (aco C) 84 (Lp [1,1,1,0,1,0,0] 84):=bq R4 [EQ,EQ,H1,H1,H1,H1,H1,H1,H1,H1,H1,H1,H1,H1,H1,H1,H1] [[0,0,0,0,0,0,0,0,0,0,0,0,0,0],[1,2,0,0,0,0,0,0,0,0,0,0,0,0,0,0,0,0]] (@Fq C) (aR (aY (amJ C) au))
noncomputable def LW (C:af) (bM:Int) (bX:Bool) (cY:Int) (aP aH aI bh bp aS bd bJ bS b7:LV):Option LV:=
 bif (decide (0≤(aP.length:Int)))&&((decide ((aP.length:Int)≤(aP.length:Int)))&&(Nat.ble (((aP.length:Int).toNat)*8) bm)) then
  (Loop (A4 C cY (aP.length:Int)) (0,bM,bX,cY,bd,List.replicate ((aP.length:Int).toNat) (V.int .i64 0),aP,aH,aI,bh,bp,aS,bJ,bS,b7)).bind (cM (un fun Tt=>un fun Tu=>un fun (amL:Bool)=>un fun amM=>un fun (LX:LV)=>un fun (A5:LV)=>un fun (Tv:LV)=>un fun (Tw:LV)=>un fun (Fw:LV)=>un fun (Tx:LV)=>un fun (Tz:LV)=>un fun (TA:LV)=>un fun (TB:LV) (TC:LV)=>
   some [V.int .i64 Tt,V.int .i64 Tu,.bool amL,V.int .i64 amM,.list cz LX,.list ah A5,.list ah Tv,.list ae Tw,.list ae Fw,.list ah Tx,.list dQ Tz,.list ch TA,.list ae TB,.list ae TC]) (un fun amN=>un fun (amO:Bool)=>un fun amP=>un fun (amQ:Bool)=>un fun amR=>un fun (amS:LV)=>un fun (acp:LV)=>un fun (amT:LV)=>un fun (amU:LV)=>un fun (amV:LV)=>un fun (amW:LV)=>un fun (acq:LV)=>un fun (amX:LV)=>un fun (amY:LV)=>un fun (amZ:LV) (am0:LV)=>
   bif Nat.ble ((acq.length+([.list ae acp]:LV).length)*24) bm then
   some [V.int .i64 0,V.int .i64 amP,.bool amQ,V.int .i64 (wrap .i64 (amR+1)),.list cz amS,.list ah amT,.list ah amU,.list ae amV,.list ae amW,.list ah (acq++([.list ae acp]:LV)),.list dQ amX,.list ch amY,.list ae amZ,.list ae am0]
   else none))
 else none
theorem am1 {bM:Int} {bX:Bool} {cY:Int} {aP aH aI bh bp aS bd bJ bS b7:LV} {r:Option LV} (h:LW CC bM bX cY aP aH aI bh bp aS bd bJ bS b7=r):CC D7 [V.int .i64 bM,.bool bX,V.int .i64 cY,.list ah aP,.list ah aH,.list ae aI,.list ae bh,.list ah bp,.list dQ aS,.list cz bd,.list ch bJ,.list ae bS,.list ae b7]=r:=bz (aY (amK CC) au) h
theorem cg2 {α β γ:Sort _} {f:α→β→γ} {a a':α} {b b':β} (h:a=a') (k:b=b'):f a b=f a' b':=by rw[h,k]
theorem wrap32 {x:Int} (h1: -2147483648≤x) (h2:x<2147483648):wrap .i32 x=x:=by
 unfold IntKind.wrap;simp only[IntKind.bits,IntKind.signed];simp;omega
theorem Fx {x:Nat} (h:x<31):((decide (0≤(wrap .i32 (wrap .i64 (97+(x:Int))))))&&(decide ((wrap .i32 (wrap .i64 (97+(x:Int))))<128)))=true:=by
 rw[gB,wrap32 (by omega) (by omega)];exact pI.2 ⟨cW (by omega),cW (by omega)⟩
section
variable {L n D:Nat} {g:Nat→List Nat} {S:List (List Nat)} {P K:List Int} {R:List (List Nat)} {W:List (List UInt8)} {B:List Int} {s:List Nat} {G U:LV}
section
variable (h:jd L n g S P K R W B s) (hs:s.length=L) (hD:D<S.length) (hR:R.length=D)
include h hD hR in
theorem TD:B.getD D 0= -1∨(0≤B.getD D 0∧B.getD D 0<R.length):=by rw[hR];exact h.b D hD
include h hs hD hR
theorem am2 {x i:Nat} (hx:x<L) (hi:i<S.length) (hU:U.length≤100000) {w:List UInt8} {t28 t29:Int} {rows fs:LV}:
  ∃U':LV,U'.length≤U.length+1∧∀{β:Type} (kr:(Int×Int×Bool×Int×LV×LV×LV×LV×LV×LV×LV×LV×LV×LV)→Option β),sR CC (D:Int) (x:Int) (i:Int) w t28 t29 false (n:Int) true (D:Int) (mT S) rows fs G (sV S) (iL P) (iL K) (sV R) U (wL W) (iL B) (nS s) kr=
   kr ((i:Int),(n:Int),true,(D:Int),mT S,G,sV S,iL P,iL K,sV R,U',wL W,iL B,nS s):=by
 simp only[sR];obtain ⟨c,hc⟩:=amE (D:=D) (G:=G) (U:=U) h hx (fun _=>by rw[hs];exact hx) (TD h hD hR);have e1:D<W.length:=by rw[h.lW];exact hD
 have e2:D<B.length:=by rw[h.lB];exact hD
 by_cases e0:W.getD D []=[]
 ·refine ⟨U,by omega,fun kr=>bF rfl ((cw (wo e1)).trans (bF ?_ rfl))⟩;rw[show (V.str (W.getD D [])).toStr=W.getD D [] from rfl,e0];rfl
 ·have e3:(!((V.str (W.getD D [])).toStr==[]))=true:=by
   rw[show (V.str (W.getD D [])).toStr=W.getD D [] from rfl];simpa using e0
  cases c with
  | false=>exact ⟨U,by omega,fun kr=>bF rfl ((cw (wo e1)).trans (bT e3 ((cw (sQ e2)).trans (bs hc rfl))))⟩
  | true=>
   refine ⟨_,?_,fun kr=>bF rfl ((cw (wo e1)).trans (bT e3 ((cw (sQ e2)).trans (bs hc (bT rfl ((cw (wo (by rw[h.lW];exact hi))).trans (bT (cap (m:=32) ?_ (by omega)) rfl)))))))⟩
   ·show (U++[_]).length≤_;simp
   ·show U.length+1≤_;omega
theorem am3 {x:Nat} {i:Int} (hx:x<L) (hn:n≤32) {f:List Nat} (hf:Tr n f) (tZ:f∉S) {w:List UInt8} {t28 t29:Int} {rows:LV} {β:Type} (kr:(Int×Int×Bool×Int×LV×LV×LV×LV×LV×LV×LV×LV×LV×LV)→Option β):
  sR CC (D:Int) (x:Int) i w t28 t29 true (n:Int) true (D:Int) (mT S) rows (nS f) G (sV S) (iL P) (iL K) (sV R) U (wL W) (iL B) (nS s) kr=
   kr ((S.length:Int),(n:Int),true,(D:Int),mT (S++[f]),G,sV (S++[f]),iL (P++[(D:Int)]),iL (K++[(x:Int)]),sV R,U,wL (W++[w]),iL (B++[(uK R s (B.getD D 0) x:Int)]),nS s):=by
 unfold sR;have e2:D<B.length:=by rw[h.lB];exact hD
 have hl:=h.len;refine bT rfl ((cw (sQ e2)).trans (bs (Ti h hx (fun _=>by rw[hs];exact hx) (TD h hD hR)) (bs (Th hn h.tr hf tZ hl ?_ ?_ ?_ ?_) rfl)))
 ·rw[h.lP];exact hl
 ·rw[h.lK];exact hl
 ·rw[h.lW];exact hl
 ·rw[h.lB];exact hl
end
def bn (g:Nat→List Nat) (f:List Nat) (x:Nat):List Nat:=comp f (g x)
def gV (L:Nat) (g:Nat→List Nat):LV:=tab L fun x=>tV (g x)
def uL (n D L:Nat) (g:Nat→List Nat) (T:List (List Nat)) (f:List Nat) (x:Nat) (S:List (List Nat)) (P K:List Int) (R:List (List Nat)) (U:LV) (W:List (List UInt8)) (B:List Int) (s:List Nat):Int×Int×Bool×Int×LV×LV×LV×LV×LV×LV×LV×LV×LV×LV×LV:=
 ((x:Int),(n:Int),true,(D:Int),mT S,(tab L fun j=>if j<x then nV (cN T (bn g f j)) else V.int .i64 0),gV L g,sV S,iL P,iL K,sV R,U,wL W,iL B,nS s)
def yr (n:Nat):Prop:= ∃T:List (List Nat),T.Nodup∧(∀f∈T,Tr n f)∧T.length=2000
theorem am4 (h:jd L n g S P K R W B s) (hs:s.length=L) (hR:R.length=D) (hn:1≤n) (mN:n≤32) (hg: ∀x,x<L→Tr n (g x)) (hL:L≤6) {f:List Nat} (hD:S[D]? =some f) {U2:List (List Nat)} {x:Nat} (hx:x<L) (pZ:bQ S (bn g f x) <+: U2) (hU:U.length≤100000):
  (∃P' K' U' W' B',A4 CC (D:Int) (L:Int) (uL n D L g U2 f x S P K R U W B s)=some (.inl (uL n D L g U2 f (x+1) (bQ S (bn g f x)) P' K' R U' W' B' s))∧jd L n g (bQ S (bn g f x)) P' K' R W' B' s∧U'.length≤U.length+1)∨
  ∃t,A4 CC (D:Int) (L:Int) (uL n D L g U2 f x S P K R U W B s)=some (.inr (.inl (3,t)))∧yr n:=by
 obtain ⟨oF,rfl⟩:=cq.1 hD;have hlen:=h.len;have oG:Tr n (bn g S[D] x):=(h.tr _ (cJ oF)).comp (hg x hx);have CZ:cN U2 (bn g S[D] x)=cN (bQ S (bn g S[D] x)) (bn g S[D] x):=acg pZ wj;have n8:(tab L fun j=>if j<x then nV (cN U2 (bn g S[D] j)) else V.int .i64 0).set x (nV (cN U2 (bn g S[D] x)))=tab L fun j=>if j<x+1 then nV (cN U2 (bn g S[D] j)) else V.int .i64 0:=by
  rw[iG];refine cG fun j _=> ?_;by_cases hj:j=x
  ·rw[ak hj,bt,hj]
  ·rw[aj hj];by_cases dg:j<x
   ·rw[ak dg,bt]
   ·rw[aj dg,bN]
 have hW:=h.w D oF;have TE:D<W.length:=by rw[h.lW];exact oF
 have TF:(gV L g)[x]? =some (tV (g x)):=lf hx;have hC:CC Ec [.list ae (tV S[D]).toList,.list ae (tV (g x)).toList]=some [tV (bn g S[D] x)]:=by
  rw[pg,pg];exact amw hn mN (h.tr _ (cJ oF)) (hg x hx)
 have hX:CC vZ [.list ae ((V.nth [tV (bn g S[D] x)] 0).toList)]=some [kT (bn g S[D] x)]:=by
  rw[show (V.nth [tV (bn g S[D] x)] 0).toList=nS (bn g S[D] x) from pg];exact Te mN oG
 have su:(Nat.ble (((V.nth [kT (bn g S[D] x)] 0).toStr).length) maxLen&&true)=true:=by
  refine pI.2 ⟨zb ?_,rfl⟩;rw[show (V.nth [kT (bn g S[D] x)] 0).toStr=lV (bn g S[D] x) from rfl,show (lV (bn g S[D] x)).length=n by simp[lV,oG.1]];unfold maxLen;omega
 have TG: ∀b:UInt8,Nat.ble ((V.str (W.getD D [])).toStr.length+[b].length) pK=true:=fun b=>by
  refine zb ?_;show (W.getD D []).length+1≤pK;unfold pK;omega
 have vO:=Tg mN h.tr oG;simp only[A4,Fq,un,uL,aq,aD];by_cases hk:bn g S[D] x∈S
 ·obtain ⟨U2',hU2,he⟩:=am2 (G:=gV L g) (U:=U) (D:=D) h hs oF hR hx (km hk) hU
   (w:=W.getD D []++[UInt8.ofNat ((wrap .i32 (wrap .i64 (97+(x:Int))):Int).toNat)]) (t28:=(L:Int)) (t29:=(x:Int)) (rows:=tab L fun j=>if j<x then nV (cN U2 (bn g S[D] j)) else V.int .i64 0) (fs:=nS (bn g S[D] x))
  have yu:bQ S (bn g S[D] x)=S:=by rw[bQ,ak hk]
  rw[yu] at CZ⊢;have hm:fB (kT (bn g S[D] x)) (mT S)=true:=ach vO hk;refine .inl ⟨P,K,U2',W,B,bT (cd hx) ((cw TF).trans ((cw (Fp oF)).trans (bs hC (bs hX (bT su ((cw (wo TE)).trans (bT (Fx (by omega)) (bT (TG _) (bF ?_ ?_))))))))),h,hU2⟩
  ·exact congrArg (!·) hm
  ·refine (cg2 (f:=fun i b=>sR CC (D:Int) (x:Int) i _ (L:Int) (x:Int) b (n:Int) true (D:Int) (mT S) _ _ (gV L g) (sV S) (iL P) (iL K) (sV R) U (wL W) (iL B) (nS s) _) (acj vO hk) (congrArg (!·) hm)).trans ((he _).trans ((rn (by simpa using hx)).trans ?_))
   rw[cm (by omega),Int.toNat_natCast,←n8,CZ];rfl
 ·have hm:fB (kT (bn g S[D] x)) (mT S)=false:=aci vO hk;have yu:bQ S (bn g S[D] x)=S++[bn g S[D] x]:=by rw[bQ,aj hk]
  by_cases acr:S.length=2000
  ·refine .inr ⟨_,bT (cd hx) ((cw TF).trans ((cw (Fp oF)).trans (bs hC (bs hX (bT su ((cw (wo TE)).trans (bT (Fx (by omega)) (bT (TG _) (bT ?_ (bT ?_ rfl)))))))))),S,h.nd,h.tr,acr⟩
   ·exact congrArg (!·) hm
   ·simp[acr]
  ·rw[yu] at CZ⊢;have ib:=TD h oF hR;have c8:=ack h hx (fun _=>by rw[hs];exact hx) ib;refine .inl ⟨P++[(D:Int)],K++[(x:Int)],U,W++[W.getD D []++[UInt8.ofNat ((wrap .i32 (wrap .i64 (97+(x:Int))):Int).toNat)]],B++[(uK R s (B.getD D 0) x:Int)],bT (cd hx) ((cw TF).trans ((cw (Fp oF)).trans (bs hC (bs hX (bT su ((cw (wo TE)).trans (bT (Fx (by omega)) (bT (TG _) (bT ?_ (bF ?_ ?_)))))))))),h.grow oG hk (by omega) (p:=D) (x:=x) (b:=(uK R s (B.getD D 0) x:Int)) oF hx ?_ (.inr ⟨by omega,by exact_mod_cast c8⟩) ?_,Nat.le_succ _⟩
   ·exact congrArg (!·) hm
   ·simp;omega
   ·refine (congrArg (fun b=>sR CC (D:Int) (x:Int) _ _ (L:Int) (x:Int) b (n:Int) true (D:Int) (mT S) _ _ (gV L g) (sV S) (iL P) (iL K) (sV R) U (wL W) (iL B) (nS s) _) (congrArg (!·) hm)).trans ?_;refine (am3 h hs oF hR hx mN oG hk _).trans ((rn (by simpa using hx)).trans ?_)
    rw[cm (by omega),Int.toNat_natCast,←n8,CZ];rw[amC hk];rfl
   ·rw[gD];show _+1≤_;omega
   ·rw[bC oF];rfl
end
noncomputable def Fy (C:af) (nC:Bool) (t39:LV) (t40 bM:Int) (bX:Bool) (cY:Int) (aH aI bh bp aS bd bJ bS b7:LV) (t41:Int) (aP:LV) {β:Type} (kn:(Int×LV)→Option β) (kr:((Int) ⊕ (Int×Bool×LV))→Option β):Option β:=
 bif decide (t41<t40) then
  (idx t39 t41).bind fun x2=>
  bif (x2.toList.length:Int) != bM then
  kr (.inl 4)
  else
  (C Az [.list ae x2.toList]).bind fun r3=>
  bif !((V.nth r3 0).toBool) then
   kr (.inl 4)
  else
   bif Nat.ble (x2.toList.length*8) bm then
   bif Nat.ble ((aP.length+([.list ae x2.toList]:LV).length)*24) bm then
    kn (wrap .i64 (t41+1),aP++([.list ae x2.toList]:LV))
   else none
   else none
 else
  kr (.inr (t41,decide (t41<t40),aP))
noncomputable def LY (C:af) (nC:Bool) (t39:LV) (t40 bM:Int) (bX:Bool) (cY:Int) (aH aI bh bp aS bd bJ bS b7:LV):=un fun t41 aP=>Fy C nC t39 t40 bM bX cY aH aI bh bp aS bd bJ bS b7 t41 aP (fun y=>some (Sum.inl y)) (fun r=>some (Sum.inr r))
noncomputable def Fz (C:af) (empty:Int) (t72:Bool) (bM:Int) (bX:Bool) (cY:Int) (aP aH aI bh bp aS bd bJ bS b7:LV) {β:Type} (kr:(Int×Int×Bool×Int×LV×LV×LV×LV×LV×LV×LV×LV×LV×LV)→Option β):Option β:=
 bif t72 then
  (C Ky [V.int .i64 bM]).bind fun r8=>
  (C AA [.list ae ((V.nth r8 0).toList),V.int .i64 (-1),V.int .i64 (-1),.str [],V.int .i64 (-1),V.int .i64 bM,.bool bX,V.int .i64 cY,.list ah aP,.list ah aH,.list ae aI,.list ae bh,.list ah bp,.list dQ aS,.list cz bd,.list ch bJ,.list ae bS,.list ae b7]).bind fun r9=>
  kr ((V.nth r9 0).toInt,(V.nth (r9.drop 1) 0).toInt,(V.nth ((r9.drop 1).drop 1) 0).toBool,(V.nth (((r9.drop 1).drop 1).drop 1) 0).toInt,(V.nth ((r9.drop 1).drop 3) 0).toList,(V.nth ((((r9.drop 1).drop 3).drop 1).drop 1) 0).toList,(V.nth (((((r9.drop 1).drop 3).drop 1).drop 1).drop 1) 0).toList,(V.nth ((((((r9.drop 1).drop 3).drop 1).drop 1).drop 1).drop 1) 0).toList,(V.nth (((((((r9.drop 1).drop 3).drop 1).drop 1).drop 1).drop 1).drop 1) 0).toList,(V.nth ((((((((r9.drop 1).drop 3).drop 1).drop 1).drop 1).drop 1).drop 1).drop 1) 0).toList,(V.nth (((r9.drop 1).drop 3).drop 1) 0).toList,(V.nth (((((((((r9.drop 1).drop 3).drop 1).drop 1).drop 1).drop 1).drop 1).drop 1).drop 1) 0).toList,(V.nth ((((((((((r9.drop 1).drop 3).drop 1).drop 1).drop 1).drop 1).drop 1).drop 1).drop 1).drop 1) 0).toList,(V.nth (((((((((((r9.drop 1).drop 3).drop 1).drop 1).drop 1).drop 1).drop 1).drop 1).drop 1).drop 1).drop 1) 0).toList)
 else
  kr (empty,bM,bX,cY,aP,aH,aI,bh,bp,aS,bd,bJ,bS,b7)
noncomputable def yv (C:af) (empty x:Int) (g:LV) (letter:List UInt8) (i t86 t87:Int) (t106:Bool) (bM:Int) (bX:Bool) (cY:Int) (wv aH aI bh bp aS bd bJ bS b7:LV) {β:Type} (kr:(Int×Int×Bool×Int×LV×LV×LV×LV×LV×LV×LV×LV×LV×LV)→Option β):Option β:=
 bif t106 then
  aq bJ i fun A6=>
  bif Nat.ble ((aS.length+([.agg [.str letter,.str A6.toStr]]:LV).length)*32) bm then
  kr (i,bM,bX,cY,wv,aH,aI,bh,bp,aS++([.agg [.str letter,.str A6.toStr]]:LV),bd,bJ,bS,b7)
  else none
 else
  bif Nat.ble (g.length*8) bm then
  (C AA [.list ae g,V.int .i64 empty,V.int .i64 x,.str letter,V.int .i64 empty,V.int .i64 bM,.bool bX,V.int .i64 cY,.list ah wv,.list ah aH,.list ae aI,.list ae bh,.list ah bp,.list dQ aS,.list cz bd,.list ch bJ,.list ae bS,.list ae b7]).bind fun oH=>
  kr ((V.nth oH 0).toInt,(V.nth (oH.drop 1) 0).toInt,(V.nth ((oH.drop 1).drop 1) 0).toBool,(V.nth (((oH.drop 1).drop 1).drop 1) 0).toInt,(V.nth ((oH.drop 1).drop 3) 0).toList,(V.nth ((((oH.drop 1).drop 3).drop 1).drop 1) 0).toList,(V.nth (((((oH.drop 1).drop 3).drop 1).drop 1).drop 1) 0).toList,(V.nth ((((((oH.drop 1).drop 3).drop 1).drop 1).drop 1).drop 1) 0).toList,(V.nth (((((((oH.drop 1).drop 3).drop 1).drop 1).drop 1).drop 1).drop 1) 0).toList,(V.nth ((((((((oH.drop 1).drop 3).drop 1).drop 1).drop 1).drop 1).drop 1).drop 1) 0).toList,(V.nth (((oH.drop 1).drop 3).drop 1) 0).toList,(V.nth (((((((((oH.drop 1).drop 3).drop 1).drop 1).drop 1).drop 1).drop 1).drop 1).drop 1) 0).toList,(V.nth ((((((((((oH.drop 1).drop 3).drop 1).drop 1).drop 1).drop 1).drop 1).drop 1).drop 1).drop 1) 0).toList,(V.nth (((((((((((oH.drop 1).drop 3).drop 1).drop 1).drop 1).drop 1).drop 1).drop 1).drop 1).drop 1).drop 1) 0).toList)
  else none
noncomputable def FA (C:af) (empty t86 t87 bM:Int) (bX:Bool) (cY:Int) (wv aH aI bh bp aS bd bJ bS b7:LV) {β:Type} (kn:(Int×Int×Bool×Int×LV×LV×LV×LV×LV×LV×LV×LV×LV×LV)→Option β) (kr:(Int×Bool×Int×Bool×Int×LV×LV×LV×LV×LV×LV×LV×LV×LV×LV)→Option β):Option β:=
 bif decide (t87<t86) then
  aq wv t87 fun lY=>
  bif (decide (0≤(wrap .i32 (wrap .i64 (97+t87)))))&&(decide ((wrap .i32 (wrap .i64 (97+t87)))<128)) then
  (C vZ [.list ae lY.toList]).bind fun A7=>
  bif Nat.ble (((V.nth A7 0).toStr).length) maxLen&&true then
   yv C empty t87 lY.toList [UInt8.ofNat ((wrap .i32 (wrap .i64 (97+t87)):Int).toNat)] ((jl (.str ((V.nth A7 0).toStr)) bd (V.int .i64 0)).toInt) t86 t87 (fB (.str ((V.nth A7 0).toStr)) bd) bM bX cY wv aH aI bh bp aS bd bJ bS b7 (un fun LQ=>un fun Tl=>un fun (Tm:Bool)=>un fun Tn=>un fun (am5:LV)=>un fun (ab1:LV)=>un fun (yn:LV)=>un fun (E8:LV)=>un fun (To:LV)=>un fun (Fu:LV)=>un fun (Fv:LV)=>un fun (Tp:LV)=>un fun (Ts:LV) (LR:LV)=>
    bif Nat.ble ((LR.length+([V.int .i64 LQ]:LV).length)*8) bm then
    kn (wrap .i64 (t87+1),Tl,Tm,Tn,am5,ab1,yn,E8,To,Fu,Fv,Tp,Ts,LR++([V.int .i64 LQ]:LV))
    else none)
  else none
  else none
 else
  kr (t87,decide (t87<t86),bM,bX,cY,wv,aH,aI,bh,bp,aS,bd,bJ,bS,b7)
noncomputable def FB (C:af) (empty t86:Int):=un fun t87=>un fun bM=>un fun bX=>un fun cY=>un fun wv=>un fun aH=>un fun aI=>un fun bh=>un fun bp=>un fun aS=>un fun bd=>un fun bJ=>un fun bS b7=>FA C empty t86 t87 bM bX cY wv aH aI bh bp aS bd bJ bS b7 (fun y=>some (Sum.inl y)) (fun r=>some (Sum.inr r))
noncomputable def LZ (C:af):cx:=br 97 RX [EQ,EQ,EQ,H1,EQ,EQ,EQ,H1,EQ,EQ,EQ,EQ,EQ,EQ,EQ,EQ,EQ] [[0],[1,2,3,0,0,5,6,7,0,9,10,11,12,13,14,15,16,17]] (@Fy C) (o9 1167 RY [[0,0,0,0,0,0,0,0,0,0,0,0,0,0]] (@Fz C) (o9 1711 RZ [[1,0,6,7,0,0,0,0,0,0,0,0,0,0,0,0,0]] (@yv C) (br 257 R0 [EQ,EQ,H1,H1,H1,H1,H1,H1,H1,H1,H1,H1,H1,H1,H1,H1] [[1,2,0,0,0,0,0,0,0,0,0,0,0,0,0,0,0]] (@FA C) bA)))
theorem am6 (C:af):aZ C (LZ C) 82 (Lp [1,1,1,1,0,1,0,0] 82):=bq RX [EQ,EQ,EQ,H1,EQ,EQ,EQ,H1,EQ,EQ,EQ,EQ,EQ,EQ,EQ,EQ,EQ] [[0],[1,2,3,0,0,5,6,7,0,9,10,11,12,13,14,15,16,17]] (@Fy C) (aR au)
theorem am7 (C:af):aZ C (LZ C) 82 (Cd 72 [1,1,1,1,1,1,0,1,0] [1,1,1,1,1,1,0,1,1] 82):=o8 RY [[0,0,0,0,0,0,0,0,0,0,0,0,0,0]] (@Fz C) (aR au) (aR au)
theorem am8 (C:af):aZ C (LZ C) 82 (Cd 106 [1,1,1,1,1,1,1,0,1,0,0,1,1,0,0,1,1,1,0,1,0] [1,1,1,1,1,1,1,0,1,0,0,1,1,0,0,1,1,1,0,1,1] 82):=o8 RZ [[1,0,6,7,0,0,0,0,0,0,0,0,0,0,0,0,0]] (@yv C) (aR au) (aR au)
theorem am9 (C:af):aZ C (LZ C) 82 (Lp [1,1,1,1,1,1,1,0,1,0,0] 82):=bq R0 [EQ,EQ,H1,H1,H1,H1,H1,H1,H1,H1,H1,H1,H1,H1,H1,H1] [[1,2,0,0,0,0,0,0,0,0,0,0,0,0,0,0,0]] (@FA C) (aR (aY (am8 C) au))
noncomputable def acs (C:af) (ei:LV) (nC:Bool):Option LV:=
 bif (ei.length:Int)==0 then
  some [V.bool true,V.int .i64 1]
 else
  bif decide ((ei.length:Int)>6) then
  some [V.bool true,V.int .i64 1]
  else
  (ei[0]?).bind fun x1=>
  (Loop (LY C nC ei (ei.length:Int) (x1.toList.length:Int) nC 0 ([]:LV) ([]:LV) ([]:LV) ([]:LV) ([]:LV) ([]:LV) ([]:LV) ([]:LV) ([]:LV)) (0,([]:LV))).bind (cM (fun gP=>
   some [V.bool true,V.int .i64 gP]) (un fun oy=>un fun (oz:Bool) (FC:LV)=>
   Fz C (-1) nC (x1.toList.length:Int) nC 0 FC ([]:LV) ([]:LV) ([]:LV) ([]:LV) ([]:LV) ([]:LV) ([]:LV) ([]:LV) ([]:LV) (un fun ana=>un fun anb=>un fun (TH:Bool)=>un fun TI=>un fun (qh:LV)=>un fun (FD:LV)=>un fun (yw:LV)=>un fun (j4:LV)=>un fun (ym:LV)=>un fun (rm:LV)=>un fun (sK:LV)=>un fun (yp:LV)=>un fun (yq:LV) (sL:LV)=>
    (Loop (FB C ana (qh.length:Int)) (0,anb,TH,TI,qh,FD,yw,j4,ym,rm,sK,yp,yq,sL)).bind (un fun atQ=>un fun (Tt:Bool)=>un fun anc=>un fun (ane:Bool)=>un fun anf=>un fun (ang:LV)=>un fun (A5:LV)=>un fun (Tv:LV)=>un fun (Tw:LV)=>un fun (Fw:LV)=>un fun (Tx:LV)=>un fun (Tz:LV)=>un fun (TA:LV)=>un fun (TB:LV) (TC:LV)=>
     some [V.bool false,V.int .i64 anc,.bool ane,V.int .i64 anf,.list ah ang,.list ah A5,.list ae Tv,.list ae Tw,.list ah Fw,.list dQ Tx,.list cz Tz,.list ch TA,.list ae TB,.list ae TC]))))
theorem anh {ei:LV} {nC:Bool} {r:Option LV} (h:acs CC ei nC=r):CC Kq [.list ah ei,.bool nC]=r:=bz (aY (am6 CC) (aY (am7 CC) (aY (am9 CC) au))) h
noncomputable def L0 (C:af) (nD:Int) (nE:Bool) (acu:Int) (aH aI bh bp aS bd:LV) (bM:Int) (bX:Bool) (cY:Int) (bJ bS b7 fu iq fH eY eZ fa ft:LV) {β:Type} (kn:(Int×Bool×Int×LV×LV×LV×LV×LV×LV×LV×LV×LV×LV)→Option β) (kr:((Int×Int×Bool×Int×LV×LV×LV×LV×LV×LV) ⊕ (Bool×Int×Bool×Int×LV×LV×LV×LV×LV×LV×LV×LV×LV×LV))→Option β):Option β:=
 (C Kr [V.int .i64 bM,.bool bX,V.int .i64 cY,.list ah bJ,.list ah bS,.list ae b7,.list ae fu,.list ah iq,.list dQ fH,.list cz eY,.list ch eZ,.list ae fa,.list ae ft]).bind fun r2=>
 bif !((V.nth r2 0).toBool) then
  (C D7 [V.int .i64 ((V.nth (r2.drop 1) 0).toInt),.bool ((V.nth ((r2.drop 1).drop 1) 0).toBool),V.int .i64 ((V.nth (((r2.drop 1).drop 1).drop 1) 0).toInt),.list ah ((V.nth (((r2.drop 1).drop 3).drop 1) 0).toList),.list ah ((V.nth ((((r2.drop 1).drop 3).drop 1).drop 1) 0).toList),.list ae ((V.nth (((((r2.drop 1).drop 3).drop 1).drop 1).drop 1) 0).toList),.list ae ((V.nth ((((((r2.drop 1).drop 3).drop 1).drop 1).drop 1).drop 1) 0).toList),.list ah ((V.nth (((((((r2.drop 1).drop 3).drop 1).drop 1).drop 1).drop 1).drop 1) 0).toList),.list dQ ((V.nth ((((((((r2.drop 1).drop 3).drop 1).drop 1).drop 1).drop 1).drop 1).drop 1) 0).toList),.list cz ((V.nth ((r2.drop 1).drop 3) 0).toList),.list ch ((V.nth (((((((((r2.drop 1).drop 3).drop 1).drop 1).drop 1).drop 1).drop 1).drop 1).drop 1) 0).toList),.list ae ((V.nth ((((((((((r2.drop 1).drop 3).drop 1).drop 1).drop 1).drop 1).drop 1).drop 1).drop 1).drop 1) 0).toList),.list ae ((V.nth (((((((((((r2.drop 1).drop 3).drop 1).drop 1).drop 1).drop 1).drop 1).drop 1).drop 1).drop 1).drop 1) 0).toList)]).bind fun r3=>
  bif (((V.nth r3 0).toInt):Int) != 0 then
  kr (.inl ((V.nth r3 0).toInt,0,false,0,([]:LV),([]:LV),([]:LV),([]:LV),([]:LV),([]:LV)))
  else
  kn ((V.nth (r3.drop 1) 0).toInt,(V.nth ((r3.drop 1).drop 1) 0).toBool,(V.nth (((r3.drop 1).drop 1).drop 1) 0).toInt,(V.nth (((r3.drop 1).drop 3).drop 1) 0).toList,(V.nth ((((r3.drop 1).drop 3).drop 1).drop 1) 0).toList,(V.nth (((((r3.drop 1).drop 3).drop 1).drop 1).drop 1) 0).toList,(V.nth ((((((r3.drop 1).drop 3).drop 1).drop 1).drop 1).drop 1) 0).toList,(V.nth (((((((r3.drop 1).drop 3).drop 1).drop 1).drop 1).drop 1).drop 1) 0).toList,(V.nth ((((((((r3.drop 1).drop 3).drop 1).drop 1).drop 1).drop 1).drop 1).drop 1) 0).toList,(V.nth ((r3.drop 1).drop 3) 0).toList,(V.nth (((((((((r3.drop 1).drop 3).drop 1).drop 1).drop 1).drop 1).drop 1).drop 1).drop 1) 0).toList,(V.nth ((((((((((r3.drop 1).drop 3).drop 1).drop 1).drop 1).drop 1).drop 1).drop 1).drop 1).drop 1) 0).toList,(V.nth (((((((((((r3.drop 1).drop 3).drop 1).drop 1).drop 1).drop 1).drop 1).drop 1).drop 1).drop 1).drop 1) 0).toList)
 else
  kr (.inr (!((V.nth r2 0).toBool),(V.nth (r2.drop 1) 0).toInt,(V.nth ((r2.drop 1).drop 1) 0).toBool,(V.nth (((r2.drop 1).drop 1).drop 1) 0).toInt,(V.nth (((r2.drop 1).drop 3).drop 1) 0).toList,(V.nth ((((r2.drop 1).drop 3).drop 1).drop 1) 0).toList,(V.nth (((((r2.drop 1).drop 3).drop 1).drop 1).drop 1) 0).toList,(V.nth ((((((r2.drop 1).drop 3).drop 1).drop 1).drop 1).drop 1) 0).toList,(V.nth (((((((r2.drop 1).drop 3).drop 1).drop 1).drop 1).drop 1).drop 1) 0).toList,(V.nth ((((((((r2.drop 1).drop 3).drop 1).drop 1).drop 1).drop 1).drop 1).drop 1) 0).toList,(V.nth ((r2.drop 1).drop 3) 0).toList,(V.nth (((((((((r2.drop 1).drop 3).drop 1).drop 1).drop 1).drop 1).drop 1).drop 1).drop 1) 0).toList,(V.nth ((((((((((r2.drop 1).drop 3).drop 1).drop 1).drop 1).drop 1).drop 1).drop 1).drop 1).drop 1) 0).toList,(V.nth (((((((((((r2.drop 1).drop 3).drop 1).drop 1).drop 1).drop 1).drop 1).drop 1).drop 1).drop 1).drop 1) 0).toList))
noncomputable def TJ (C:af) (nD:Int) (nE:Bool) (acu:Int) (aH aI bh bp aS bd:LV):=un fun bM=>un fun bX=>un fun cY=>un fun bJ=>un fun bS=>un fun b7=>un fun fu=>un fun iq=>un fun fH=>un fun eY=>un fun eZ=>un fun fa ft=>L0 C nD nE acu aH aI bh bp aS bd bM bX cY bJ bS b7 fu iq fH eY eZ fa ft (fun y=>some (Sum.inl y)) (fun r=>some (Sum.inr r))
noncomputable def ani (C:af):cx:=br 65 Rw [EQ,EQ,EQ,H1,H1,H1,EQ,EQ,EQ,EQ,EQ,EQ,H1,H1,H1,H1,H1,H1,H1,H1,H1,H1] [[0,0,0,0,0,0,0,0,0,0],[0,1,2,3,0,0,0,7,8,9,10,11,12,0,0,0,0,0,0,0,0,0,0]] (@L0 C) bA
theorem anj (C:af):aZ C (ani C) 50 (Lp [1,1,1,0,0,0] 50):=bq Rw [EQ,EQ,EQ,H1,H1,H1,EQ,EQ,EQ,EQ,EQ,EQ,H1,H1,H1,H1,H1,H1,H1,H1,H1,H1] [[0,0,0,0,0,0,0,0,0,0],[0,1,2,3,0,0,0,7,8,9,10,11,12,0,0,0,0,0,0,0,0,0,0]] (@L0 C) (aR au)
noncomputable def TK (C:af) (ei:LV) (nC:Bool):Option LV:=
 (C Kq [.list ah ei,.bool nC]).bind fun r1=>
 bif (V.nth r1 0).toBool then
  bif (((V.nth (r1.drop 1) 0).toInt):Int) != 0 then
  some [V.int .i64 0,.bool false,V.int .i64 0,V.int .i64 ((V.nth (r1.drop 1) 0).toInt),.list ah ([]:LV),.list ah ([]:LV),.list ae ([]:LV),.list ae ([]:LV),.list ah ([]:LV),.list dQ ([]:LV)]
  else none
 else
  (Loop (TJ C 0 false 0 ([]:LV) ([]:LV) ([]:LV) ([]:LV) ([]:LV) ([]:LV)) ((V.nth (r1.drop 1) 0).toInt,(V.nth ((r1.drop 1).drop 1) 0).toBool,(V.nth (((r1.drop 1).drop 1).drop 1) 0).toInt,(V.nth ((r1.drop 1).drop 3) 0).toList,(V.nth (((r1.drop 1).drop 3).drop 1) 0).toList,(V.nth ((((r1.drop 1).drop 3).drop 1).drop 1) 0).toList,(V.nth (((((r1.drop 1).drop 3).drop 1).drop 1).drop 1) 0).toList,(V.nth ((((((r1.drop 1).drop 3).drop 1).drop 1).drop 1).drop 1) 0).toList,(V.nth (((((((r1.drop 1).drop 3).drop 1).drop 1).drop 1).drop 1).drop 1) 0).toList,(V.nth ((((((((r1.drop 1).drop 3).drop 1).drop 1).drop 1).drop 1).drop 1).drop 1) 0).toList,(V.nth (((((((((r1.drop 1).drop 3).drop 1).drop 1).drop 1).drop 1).drop 1).drop 1).drop 1) 0).toList,(V.nth ((((((((((r1.drop 1).drop 3).drop 1).drop 1).drop 1).drop 1).drop 1).drop 1).drop 1).drop 1) 0).toList,(V.nth (((((((((((r1.drop 1).drop 3).drop 1).drop 1).drop 1).drop 1).drop 1).drop 1).drop 1).drop 1).drop 1) 0).toList)).bind (cM (un fun gP=>un fun TL=>un fun (TM:Bool)=>un fun TN=>un fun (wx:LV)=>un fun (A8:LV)=>un fun (ph:LV)=>un fun (yx:LV)=>un fun (TO:LV) (A1:LV)=>
   some [V.int .i64 TL,.bool TM,V.int .i64 TN,V.int .i64 gP,.list ah wx,.list ah A8,.list ae ph,.list ae yx,.list ah TO,.list dQ A1]) (un fun (sS:Bool)=>un fun Fs=>un fun (Ft:Bool)=>un fun ank=>un fun (ym:LV)=>un fun (rm:LV)=>un fun (sK:LV)=>un fun (yp:LV)=>un fun (yq:LV)=>un fun (sL:LV)=>un fun (E6:LV)=>un fun (acm:LV)=>un fun (acn:LV) (atS:LV)=>
   some [V.int .i64 Fs,.bool Ft,V.int .i64 ank,V.int .i64 0,.list ah ym,.list ah rm,.list ae sK,.list ae yp,.list ah yq,.list dQ sL]))
theorem acv {ei:LV} {nC:Bool} {r:Option LV} (h:TK CC ei nC=r):CC Ke [.list ah ei,.bool nC]=r:=bz (aY (anj CC) au) h
section
variable {L n D:Nat} {g:Nat→List Nat} {S:List (List Nat)} {P K:List Int} {R:List (List Nat)} {W:List (List UInt8)} {B:List Int} {s:List Nat} {U:LV}
def eL (L:Nat) (g:Nat→List Nat) (T:List (List Nat)) (f:List Nat):List Nat:=(List.range L).map fun x=>cN T (bn g f x)
theorem anl {T:List (List Nat)} {f:List Nat}:tV (eL L g T f)= .list ae (tab L fun j=>if j<L then nV (cN T (bn g f j)) else V.int .i64 0):=by
 unfold tV eL nS;rw[pH];exact congrArg _ (cG (n:=L) (g:=nV ∘ fun x=>cN T (bn g f x)) fun j hj=>by rw[ak hj];rfl)
abbrev PrR:=(Int×Int×Bool×Int×LV×LV×LV×LV×LV×LV×LV×LV×LV×LV) ⊕ (Int×Bool×Int×Bool×Int×LV×LV×LV×LV×LV×LV×LV×LV×LV×LV×LV)
theorem anm (h:jd L n g S P K R W B s) (hs:s.length=L) (hR:R.length=D) (hn:1≤n) (mN:n≤32) (hg: ∀x,x<L→Tr n (g x)) (hL:L≤6) {f:List Nat} (hD:S[D]? =some f) (hU:U.length≤6+D*6):
  ∃r,CC D7 (wu n D (gV L g) S P K R U W B s)=some r∧((∃l,r= .int .i64 3::l∧yr n)∨
   ∃P' K' U' W' B',r= .int .i64 0::[.int .i64 (n:Int),.bool true,.int .i64 ((D+1:Nat):Int),.list cz (mT (cu (bn g) S f L)),.list ah (gV L g),.list ah (sV (cu (bn g) S f L)),.list ae (iL P'),.list ae (iL K'),
    .list ah (sV (R++[eL L g (cu (bn g) S f L) f])),.list dQ U',.list ch (wL W'),.list ae (iL B'),.list ae (nS s)]∧
    jd L n g (cu (bn g) S f L) P' K' R W' B' s∧U'.length≤6+(D+1)*6):=by
 have yz:=(cq.1 hD).1;have hlen:=h.len;have key: ∃r,Loop (A4 CC (D:Int) (L:Int)) (uL n D L g (cu (bn g) S f L) f 0 S P K R U W B s)=some r∧((∃t,r= .inl (3,t)∧yr n)∨
   ∃P' K' U' W' B',r= .inr ((L:Int),false,(uL n D L g (cu (bn g) S f L) f L (cu (bn g) S f L) P' K' R U' W' B' s).2)∧jd L n g (cu (bn g) S f L) P' K' R W' B' s∧U'.length≤6+(D+1)*6):=by
  refine LN (fun x y=> ∃P' K' U' W' B',y=uL n D L g (cu (bn g) S f L) f x (cu (bn g) S f x) P' K' R U' W' B' s∧jd L n g (cu (bn g) S f x) P' K' R W' B' s∧U'.length≤6+D*6+x)
   (fun r:PrR=>(∃t,r= .inl (3,t)∧yr n)∨∃P' K' U' W' B',r= .inr ((L:Int),false,(uL n D L g (cu (bn g) S f L) f L (cu (bn g) S f L) P' K' R U' W' B' s).2)∧jd L n g (cu (bn g) S f L) P' K' R W' B' s∧U'.length≤6+(D+1)*6)
   L (fun x hx y hy=> ?_) (fun y hy=> ?_) L 0 _ (eQ _) ⟨P,K,U,W,B,rfl,h,hU⟩
  ·obtain ⟨P1,K1,U1,W1,B1,rfl,hI,TP⟩:=hy;have pZ:=Lk (next:=bn g) S f x;have oF:(cu (bn g) S f x)[D]? =some f:=by
    obtain ⟨Z,e⟩:=pZ;rw[←e,mn yz,hD]
   rcases am4 (U2:=cu (bn g) S f L) hI hs hR hn mN hg hL oF hx (AW (next:=bn g) S f (show x+1≤L by omega)) (by omega) (U:=U1) with ⟨P2,K2,U2,W2,B2,e,h2,h3⟩|⟨t,e,hm⟩
   ·exact .inl ⟨_,e,P2,K2,U2,W2,B2,rfl,h2,by omega⟩
   ·exact .inr ⟨_,e,.inl ⟨t,rfl,hm⟩⟩
  ·obtain ⟨P1,K1,U1,W1,B1,rfl,hI,TP⟩:=hy;refine ⟨_,?_,.inr ⟨P1,K1,U1,W1,B1,rfl,hI,by omega⟩⟩;unfold uL;simp only[A4,Fq,un];refine bF (aV (az _)) ?_;rw[aV (az _)]
 obtain ⟨r,e1,e2⟩:=key;have e0:List.replicate (((L:Nat):Int).toNat) (V.int .i64 0)=tab L fun j=>if j<0 then nV (cN (cu (bn g) S f L) (bn g f j)) else V.int .i64 0:=by
  rw[Int.toNat_natCast,mM];exact cG fun j _=>by rw[bN]
 have fin: ∀z,LW CC (n:Int) true (D:Int) (gV L g) (sV S) (iL P) (iL K) (sV R) U (mT S) (wL W) (iL B) (nS s)=z→CC D7 (wu n D (gV L g) S P K R U W B s)=z:=fun z h=>am1 h;rcases e2 with ⟨t,rfl,hm⟩|⟨P1,K1,U1,W1,B1,rfl,hI,TP⟩
 ·refine ⟨_,fin _ ?_,.inl ⟨[.int .i64 t.1,.bool t.2.1,.int .i64 t.2.2.1,.list cz t.2.2.2.1,.list ah t.2.2.2.2.1,.list ah t.2.2.2.2.2.1,.list ae t.2.2.2.2.2.2.1,.list ae t.2.2.2.2.2.2.2.1,.list ah t.2.2.2.2.2.2.2.2.1,.list dQ t.2.2.2.2.2.2.2.2.2.1,.list ch t.2.2.2.2.2.2.2.2.2.2.1,.list ae t.2.2.2.2.2.2.2.2.2.2.2.1,.list ae t.2.2.2.2.2.2.2.2.2.2.2.2],rfl,hm⟩⟩;unfold LW;rw[show (gV L g).length=L from eC,e0];exact bT (ga (by omega) (by omega)) (bs e1 rfl)
 ·refine ⟨_,fin _ ?_,.inr ⟨P1,K1,U1,W1,B1,rfl,hI,TP⟩⟩;unfold LW;rw[show (gV L g).length=L from eC,e0];refine bT (ga (by omega) (by omega)) (bs e1 (bT (show Nat.ble (((sV R).length+1)*24) bm=true from cap (by simp;omega) (by omega)) ?_));have hw:((D+1:Nat):Int)=wrap .i64 ((D:Int)+1):=(cm (by omega)).symm;have:sV (R++[eL L g (cu (bn g) S f L) f])=sV R++[tV (eL L g (cu (bn g) S f L) f)]:=by simp[sV]
  rw[hw,this,anl];rfl
end
section
variable {L n:Nat} {g:Nat→List Nat} (hn:1≤n) (mN:n≤32) (hg: ∀x,x<L→Tr n (g x)) (h1:1≤L) (hL:L≤6)
include hg in
theorem acw {x:Nat} (hx:x<L):bn g (List.range n) x=g x:=by
 have h:=hg x hx;refine tj (by simp[bn,comp,h.1]) fun i h1 h2=> ?_;simp[bn,comp,h2]
include hn mN hg h1 hL
theorem ano: ∃P K,∃U:LV,∃W B s,CC Kq [.list ah (gV L g),.bool true]=some (.bool false::wu n 0 (gV L g) (cu (bn g) [List.range n] (List.range n) L) P K [] U W B s)∧jd L n g (cu (bn g) [List.range n] (List.range n) L) P K [] W B s∧s.length=L∧U.length≤6:=by
 have hG:(gV L g).length=L:=eC;have l1: ∀{a b c d:LV} {e f g1 h1 i1:LV},Loop (LY CC true (gV L g) (L:Int) (n:Int) true 0 a b c d e f g1 h1 i1) (0,([]:LV))=some (.inr ((L:Int),false,gV L g)):=by
  intro a b c d e f g1 h1 i1;refine dR L (fun i=>((i:Int),tab i fun x=>tV (g x))) _ (fun i hi=> ?_) ?_
  ·simp only[LY,Fy,un];have ht:=hg i hi;refine bT (cd hi) (bs (qg hi) ?_);rw[pg];have e1:(nS (g i)).length=n:=by rw[cI,ht.1]
   refine bF (by rw[e1];simp) (bs (Td hn mN ht) (bF rfl (bT (cap (a:=(nS (g i)).length) (b:=0) (by omega) (by omega)) (bT (cap (by simp;omega) (by omega)) ?_))));rw[cm (by omega),EV];rfl
  ·simp only[LY,Fy,un];refine bF (aV (az _)) ?_;rw[aV (az _)];rfl
 have hI0:jd L n g [List.range n] [-1] [-1] [] [[]] [-1] []:=by
  refine ⟨fun f hf=> ?_,by simp,by simp,rfl,rfl,rfl,rfl,fun r hr=>(by cases hr),⟨by simp,fun y hy=>(by cases hy)⟩,fun i hi=> ?_,fun i hi=> ?_,fun i h0 hi=>(by simp at hi;omega),rfl⟩
  ·rw[ff.1 hf];exact Fl
  ·obtain rfl:i=0:=by simpa using hi
   exact .inl rfl
  ·obtain rfl:i=0:=by simpa using hi
   exact az _
 have key: ∃r,Loop (FB CC 0 (L:Int)) (0,(n:Int),true,0,gV L g,sV [List.range n],iL [-1],iL [-1],sV [],[],mT [List.range n],wL [[]],iL [-1],nS [])=some r∧
   ∃P K,∃U:LV,∃W B s,r=((L:Int),false,(n:Int),true,0,gV L g,sV (cu (bn g) [List.range n] (List.range n) L),iL P,iL K,sV [],U,mT (cu (bn g) [List.range n] (List.range n) L),wL W,iL B,nS s)∧jd L n g (cu (bn g) [List.range n] (List.range n) L) P K [] W B s∧s.length=L∧U.length≤6:=by
  refine LN (fun x y=> ∃P K,∃U:LV,∃W B s,y=((x:Int),(n:Int),true,0,gV L g,sV (cu (bn g) [List.range n] (List.range n) x),iL P,iL K,sV [],U,mT (cu (bn g) [List.range n] (List.range n) x),wL W,iL B,nS s)∧jd L n g (cu (bn g) [List.range n] (List.range n) x) P K [] W B s∧s.length=x∧U.length≤x)
   (fun r=> ∃P K,∃U:LV,∃W B s,r=((L:Int),false,(n:Int),true,0,gV L g,sV (cu (bn g) [List.range n] (List.range n) L),iL P,iL K,sV [],U,mT (cu (bn g) [List.range n] (List.range n) L),wL W,iL B,nS s)∧jd L n g (cu (bn g) [List.range n] (List.range n) L) P K [] W B s∧s.length=L∧U.length≤6)
   L (fun x hx y hy=> ?_) (fun y hy=> ?_) L 0 _ (eQ _) ⟨_,_,_,_,_,_,rfl,hI0,rfl,az _⟩
  ·obtain ⟨P,K,U,W,B,s,rfl,hI,hs,hU⟩:=hy;have oG:=hg x hx;have hf0:bn g (List.range n) x=g x:=acw hg hx;have FE:cu (bn g) [List.range n] (List.range n) (x+1)=bQ (cu (bn g) [List.range n] (List.range n) x) (g x):=by rw[←hf0];rfl
   rw[FE];generalize hTx:cu (bn g) [List.range n] (List.range n) x=T at*
   have hlen:=hI.len;have gL:=hI.pos;have vO:=Tg mN hI.tr oG;have hX:CC vZ [.list ae (tV (g x)).toList]=some [kT (g x)]:=by
    rw[pg];exact Te mN oG
   have su:(Nat.ble (((V.nth [kT (g x)] 0).toStr).length) maxLen&&true)=true:=by
    refine pI.2 ⟨zb ?_,rfl⟩;rw[show (V.nth [kT (g x)] 0).toStr=lV (g x) from rfl,show (lV (g x)).length=n by simp[lV,oG.1]];unfold maxLen;omega
   have hsn: ∀y,nS s++[nV y]=nS (s++[y]):=fun y=>by simp[nS]
   simp only[FB,FA,un,aq];by_cases hk:g x∈T
   ·have yu:bQ T (g x)=T:=by rw[bQ,ak hk]
    have hm:fB (kT (g x)) (mT T)=true:=ach vO hk;rw[yu];have ni:=km hk;refine .inl ⟨_,bT (cd hx) ((cw (lf hx)).trans (bT (Fx (by omega)) (bs hX (bT su ?_)))),P,K,U++[.agg [.str [UInt8.ofNat ((wrap .i32 (wrap .i64 (97+(x:Int))):Int).toNat)],.str (W.getD (cN T (g x)) [])]],W,B,s++[cN T (g x)],rfl,⟨hI.tr,hI.nd,hI.len,hI.lP,hI.lK,hI.lW,hI.lB,hI.row,⟨by simp;omega,fun y hy=> ?_⟩,hI.b,hI.w,hI.p,hI.id⟩,by simp[hs],by simp;omega⟩
    ·refine (cg2 (f:=fun i b=>yv CC 0 (x:Int) _ _ i (L:Int) (x:Int) b (n:Int) true 0 (gV L g) (sV T) (iL P) (iL K) (sV []) U (mT T) (wL W) (iL B) (nS s) _) (acj vO hk) hm).trans ?_;unfold yv;refine bT rfl ((cw (wo (by rw[hI.lW];exact ni))).trans (bT (cap (by simp;omega) (by omega)) (bT (show Nat.ble (((nS s).length+1)*8) bm=true from cap (by rw[cI];omega) (by omega)) ?_)));rw[cm (by omega),←hsn];rfl
    ·rcases eO.1 hy with hy|hy
     ·exact hI.s.2 y hy
     ·rw[ff.1 hy];exact ni
   ·have yu:bQ T (g x)=T++[g x]:=by rw[bQ,aj hk]
    have hm:fB (kT (g x)) (mT T)=false:=aci vO hk;rw[yu];have hT:T.length<2000:=by
     have:=ab9 (next:=bn g) [List.range n] (List.range n) x;rw[hTx] at this;simp at this;omega
    have ab:T.getD 0 []=List.range n:=by
     have:=hI.id;cases T with
     | nil=>cases this
     | cons a T=>exact dA this
    refine .inl ⟨_,bT (cd hx) ((cw (lf hx)).trans (bT (Fx (by omega)) (bs hX (bT su ?_)))),P++[((0:Nat):Int)],K++[(x:Int)],U,W++[[UInt8.ofNat ((wrap .i32 (wrap .i64 (97+(x:Int))):Int).toNat)]],B++[0],s++[T.length],rfl,?_,by simp[hs],by omega⟩
    ·refine (congrArg (fun b=>yv CC 0 (x:Int) _ _ _ (L:Int) (x:Int) b (n:Int) true 0 (gV L g) (sV T) (iL P) (iL K) (sV []) U (mT T) (wL W) (iL B) (nS s) _) hm).trans ?_;unfold yv;rw[pg];refine bF rfl (bT (cap (a:=(nS (g x)).length) (b:=0) (by rw[cI,oG.1];omega) (by omega)) (bs (Th (p:=0) (b:=0) (k:=(x:Int)) mN hI.tr oG hk hlen (by rw[hI.lP];exact hlen) (by rw[hI.lK];exact hlen) (by rw[hI.lW];exact hlen) (by rw[hI.lB];exact hlen)) (bT (show Nat.ble (((nS s).length+1)*8) bm=true from cap (by rw[cI];omega) (by omega)) ?_)));rw[cm (by omega),←hsn];rfl
    ·have h2:=hI.grow oG hk hT (p:=0) (x:=x) (w:=[UInt8.ofNat ((wrap .i32 (wrap .i64 (97+(x:Int))):Int).toNat)]) (b:=0) gL hx (show 1≤_ from gL) (.inr ⟨Int.le_refl _,by exact_mod_cast gL⟩) (by rw[ab];exact hf0.symm);refine ⟨h2.tr,h2.nd,h2.len,h2.lP,h2.lK,h2.lW,h2.lB,h2.row,⟨by simp;omega,fun y hy=> ?_⟩,h2.b,h2.w,h2.p,h2.id⟩;rcases eO.1 hy with hy|hy
     ·exact h2.s.2 y hy
     ·rw[ff.1 hy];simp
  ·obtain ⟨P,K,U,W,B,s,rfl,hI,hs,hU⟩:=hy;refine ⟨_,?_,P,K,U,W,B,s,rfl,hI,hs,by omega⟩;simp only[FB,FA,un];refine bF (aV (az _)) ?_;rw[aV (az _)]
 obtain ⟨r,e1,P,K,U,W,B,s,rfl,hI,hs,hU⟩:=key;refine ⟨P,K,U,W,B,s,anh ?_,hI,hs,hU⟩;unfold acs;rw[hG];refine bF (by simp;omega) (bF (cO (by omega)) (bs (lf (by omega)) ?_));rw[pg,cI,(hg 0 (by omega)).1];refine bs l1 ?_;show Fz CC (-1) true (n:Int) true 0 (gV L g) [] [] [] [] [] [] [] [] [] _=_;unfold Fz;refine bT rfl (bs (amv hn mN) (bs (Th (S:=[]) (P:=[]) (K:=[]) (R:=[]) (U:=[]) (W:=[]) (B:=[]) (s:=[]) (D:=0) (G:=gV L g) mN (fun f hf=>by cases hf) Fl (by simp) (by simp) (by simp) (by simp) (by simp) (by simp)) ?_));show (Loop (FB CC 0 ((gV L g).length:Int)) _).bind _=_;rw[hG];exact bs e1 rfl
structure ko (L n D:Nat) (g:Nat→List Nat) (S:List (List Nat)) (P K:List Int) (R:List (List Nat)) (W:List (List UInt8)) (B:List Int) (s:List Nat):Prop where
 I:jd L n g S P K R W B s
 sl:s.length=L
 dl:D≤S.length
 cl: ∀f∈S.take D,∀x,x<L→bn g f x∈S
 rr:R=(S.take D).map (eL L g S)
abbrev BdX:=Int×Bool×Int×LV×LV×LV×LV×LV×LV×LV×LV×LV×LV
abbrev BdR:=(Int×Int×Bool×Int×LV×LV×LV×LV×LV×LV) ⊕ (Bool×Int×Bool×Int×LV×LV×LV×LV×LV×LV×LV×LV×LV×LV)
def L3 (n D L:Nat) (g:Nat→List Nat) (S:List (List Nat)) (P K:List Int) (R:List (List Nat)) (U:LV) (W:List (List UInt8)) (B:List Int) (s:List Nat):BdX:=
 ((n:Int),true,(D:Int),gV L g,sV S,iL P,iL K,sV R,U,mT S,wL W,iL B,nS s)
theorem anp: ∃r,CC Ke [.list ah (gV L g),.bool true]=some r∧((r=[.int .i64 0,.bool false,.int .i64 0,.int .i64 3,.list ah [],.list ah [],.list ae [],.list ae [],.list ah [],.list dQ []]∧yr n)∨
  ∃S P K R W B s,∃U:LV,r=[.int .i64 (n:Int),.bool true,.int .i64 (S.length:Int),.int .i64 0,.list ah (gV L g),.list ah (sV S),.list ae (iL P),.list ae (iL K),.list ah (sV R),.list dQ U]∧ko L n S.length g S P K R W B s):=by
 obtain ⟨P,K,U,W,B,s,e1,hI,hs,hU⟩:=ano hn mN hg h1 hL;have key: ∃r,Loop (TJ CC 0 false 0 [] [] [] [] [] []) (L3 n 0 L g (cu (bn g) [List.range n] (List.range n) L) P K [] U W B s)=some r∧((r= .inl (3,0,false,0,[],[],[],[],[],[])∧yr n)∨
   ∃S P K R W B s,∃U:LV,r= .inr (false,(n:Int),true,(S.length:Int),gV L g,sV S,iL P,iL K,sV R,U,mT S,wL W,iL B,nS s)∧ko L n S.length g S P K R W B s):=by
  refine DO (fun x:BdX=> ∃D S P K R W B s,∃U:LV,x=L3 n D L g S P K R U W B s∧ko L n D g S P K R W B s∧U.length≤6+D*6) (fun x=>3000-x.2.2.1.toNat)
   (fun r:BdR=>(r= .inl (3,0,false,0,[],[],[],[],[],[])∧yr n)∨∃S P K R W B s,∃U:LV,r= .inr (false,(n:Int),true,(S.length:Int),gV L g,sV S,iL P,iL K,sV R,U,mT S,wL W,iL B,nS s)∧ko L n S.length g S P K R W B s)
   (fun x hx=> ?_) _ ⟨0,_,P,K,[],W,B,s,U,rfl,⟨hI,hs,kK _,fun f hf=>(by cases hf),rfl⟩,hU⟩
  obtain ⟨D,S,P,K,R,W,B,s,U,rfl,hE,hU⟩:=hx;have hlen:=hE.I.len;have hD:=hE.dl;have hR:R.length=D:=by rw[hE.rr];simp[hD]
  unfold L3;simp only[TJ,L0,un];by_cases hf:D=S.length
  ·subst hf;refine .inr ⟨_,bs Tj (bF (by simp) rfl),.inr ⟨S,P,K,R,W,B,s,U,?_,hE⟩⟩;simp
  ·have yz:D<S.length:=by omega
   obtain ⟨r,e2,h2⟩:=anm hE.I hE.sl hR hn mN hg hL (bR yz) hU;rcases h2 with ⟨l,rfl,hm⟩|⟨P',K',U',W',B',rfl,fy,hU'⟩
   ·exact .inr ⟨_,bs Tj (bT (by simp[hf];omega) (bs e2 (bT rfl rfl))),.inl ⟨rfl,hm⟩⟩
   ·have pZ:=Lk (next:=bn g) S S[D] L;have htk:(cu (bn g) S S[D] L).take (D+1)=S.take D++[S[D]]:=by
     obtain ⟨Z,e⟩:=pZ;rw[←e,List.take_append_of_le_length yz,HW yz]
    have IU: ∀x,x<L→bn g S[D] x∈cu (bn g) S S[D] L:=fun x hx=>abr hx;refine .inl ⟨L3 n (D+1) L g (cu (bn g) S S[D] L) P' K' (R++[eL L g (cu (bn g) S S[D] L) S[D]]) U' W' B' s,bs Tj (bT (by simp;omega) (bs e2 (bF rfl rfl))),⟨D+1,_,P',K',_,W',B',s,U',rfl,⟨⟨fy.tr,fy.nd,fy.len,fy.lP,fy.lK,fy.lW,fy.lB,fun r hr=> ?_,fy.s,fy.b,fy.w,fy.p,fy.id⟩,hE.sl,ln yz pZ.length_le,fun f hf x hx=> ?_,?_⟩,hU'⟩,?_⟩
    ·rcases eO.1 hr with hr|hr
     ·exact fy.row r hr
     ·rw[ff.1 hr];refine ⟨by simp[eL],fun y hy=> ?_⟩;obtain ⟨x,hx,rfl⟩:=eu.1 hy;exact km (IU x (fg.1 hx))
    ·rw[htk] at hf;rcases eO.1 hf with hf|hf
     ·exact pZ.subset (hE.cl f hf x hx)
     ·rw[ff.1 hf];exact IU x hx
    ·rw[htk,rK,hE.rr];refine congrArg (· ++[_]) (mo fun f hf=>mo fun x hx=> ?_);exact (acg pZ (hE.cl f hf x (fg.1 hx))).symm
    ·show 3000-(((D+1:Nat):Int)).toNat<3000-((D:Int)).toNat
     omega
 obtain ⟨r,e2,h2⟩:=key;rcases h2 with ⟨rfl,hm⟩|⟨S,P,K,R,W,B,s,U,rfl,hE⟩
 ·refine ⟨_,acv ?_,.inl ⟨rfl,hm⟩⟩;unfold TK;exact bs e1 (bF rfl (bs e2 rfl))
 ·refine ⟨_,acv ?_,.inr ⟨S,P,K,R,W,B,s,U,rfl,hE⟩⟩;unfold TK;exact bs e1 (bF rfl (bs e2 rfl))
end
end Go.AM
set_option maxRecDepth 100000
namespace Go.AM
open Go.IntKind (wrap)
section
variable {β:Type} [DecidableEq β]
def bU (g:Nat→β):Nat→List β
 | 0=>[]
 | n+1=>bQ (bU g n) (g n)
theorem TQ (g:Nat→β): ∀n,(bU g n).Nodup
 | 0=>List.nodup_nil
 | n+1=>SN (TQ g n)
theorem nF {g:Nat→β} {v:β}: ∀{n},v∈bU g n↔∃q,q<n∧g q=v
 | 0=>⟨fun h=>(by cases h),fun ⟨q,h,_⟩=>(by omega)⟩
 | n+1=>by
  have ih:=nF (g:=g) (v:=v) (n:=n);rw[bU];unfold bQ;constructor
  ·intro h;split at h
   ·obtain ⟨q,h1,h2⟩:=ih.1 h;exact ⟨q,by omega,h2⟩
   ·rcases eO.1 h with h|h
    ·obtain ⟨q,h1,h2⟩:=ih.1 h;exact ⟨q,by omega,h2⟩
    ·exact ⟨n,by omega,(ff.1 h).symm⟩
  ·rintro ⟨q,h1,h2⟩;rcases gr q n with c|c
   ·exact (nw (bU g n) (g n)).subset (ih.2 ⟨q,c,h2⟩)
   ·obtain rfl:q=n:=by omega
    rw[←h2];exact wj
theorem anq {g:Nat→β} {m n:Nat} (h:m≤n):bU g m <+: bU g n:=by
 induction n with
 | zero=>rw[vb.1 h];exact nT _
 | succ n ih=>
  rcases gr m (n+1) with c|c
  ·exact (ih (by omega)).trans (nw _ _)
  ·rw[show m=n+1 by omega];exact nT _
theorem FF (g:Nat→β): ∀n,(bU g n).length≤n
 | 0=>az _
 | n+1=>by
  have:=FF g n;rw[bU,AV];split<;>omega
def fb (g:Nat→β) (n q:Nat):Nat:=(bU g n).idxOf (g q)
theorem TR {g:Nat→β} {n q:Nat} (h:q<n):fb g n q<(bU g n).length:=vg (nF.2 ⟨q,h,rfl⟩)
theorem acx {g:Nat→β} {n p q:Nat} (hp:p<n) (hq:q<n):fb g n p=fb g n q↔g p=g q:=by
 constructor
 ·intro h;have h1:=HV (TR (g:=g) hp);have h2:=HV (TR (g:=g) hq);rw[←h1,←h2];exact getElem_congr_idx h
 ·intro h;unfold fb;rw[h]
theorem TS {g:Nat→β} {m n q:Nat} (h:q<m) (hm:m≤n):fb g n q=fb g m q:=AY (anq hm) (nF.2 ⟨q,h,rfl⟩)
theorem acy {g:Nat→β} {q:Nat} (h:g q∈bU g q):bU g (q+1)=bU g q:=by rw[bU];unfold bQ;rw[ak h]
theorem acz {g:Nat→β} {q:Nat} (h:g q∉bU g q):bU g (q+1)=bU g q++[g q]:=by rw[bU];unfold bQ;rw[aj h]
theorem anr {g:Nat→β} {n q:Nat} (hq:q<n) (h:g q∈bU g q):fb g n q=(bU g q).idxOf (g q):=by
 rw[TS (show q<q+1 by omega) (by omega)];unfold fb;rw[acy h]
theorem ans {g:Nat→β} {n q:Nat} (hq:q<n) (h:g q∉bU g q):fb g n q=(bU g q).length:=by
 rw[TS (show q<q+1 by omega) (by omega)];unfold fb;rw[acz h,zd,aj h];simp
def yA (p:Nat→Nat) (n:Nat):Prop:= ∀m,m≤n→bU p m=List.range (bU p m).length
theorem acA (g:Nat→β) (n:Nat): ∀m,m≤n→bU (fb g n) m=List.range (bU g m).length:=by
 intro m
 induction m with
 | zero=>intro _;rfl
 | succ m ih=>
  intro hm;have ih:=ih (by omega);have e1:fb g n m=fb g (m+1) m:=TS (by omega) hm;have e2:fb g (m+1) m=if g m∈bU g m then (bU g m).idxOf (g m) else (bU g m).length:=by
   unfold fb;rw[bU];unfold bQ;split
   ·rfl
   ·rename_i h;rw[zd,aj h];simp
  rw[bU,ih,bU,AV];unfold bQ;by_cases h:g m∈bU g m
  ·have:=vg h;rw[ak h] at e2;rw[ak h,ak (by rw[e1,e2];exact fg.2 this)]
  ·rw[aj h] at e2;rw[aj h,aj (by rw[e1,e2];simp),e1,e2,B8]
theorem ant (g:Nat→β) (n:Nat):yA (fb g n) n:=fun m hm=>by
 rw[acA g n m hm,jL]
theorem acB {γ:Type} [DecidableEq γ] {f:Nat→β} {c:Nat→γ} {n:Nat} (hr: ∀q q',q<n→q'<n→f q=f q'→c q=c q') (hl:(bU f n).length≤(bU c n).length):
  ∀q q',q<n→q'<n→c q=c q'→f q=f q':=by
 intro q q' hq dE hc;refine Decidable.byContradiction fun hf=> ?_;have rep: ∀v∈bU f n,∃q,q<n∧f q=v:=fun v hv=>nF.1 hv;have: ∃R:β→Nat,∀v∈bU f n,R v<n∧f (R v)=v:=by
  classical
  refine ⟨fun v=>if h:v∈bU f n then Classical.choose (rep v h) else 0,fun v hv=> ?_⟩;simp only[hv,pC];exact HX (rep v hv)
 obtain ⟨R,hR⟩:=this;have jU:bU c n ⊆ ((bU f n).filter fun v=>decide (v≠f q')).map fun v=>c (R v):=by
  intro u hu;obtain ⟨s,hs,rfl⟩:=nF.1 hu;by_cases h:f s=f q'
  ·refine eu.2 ⟨f q,List.mem_filter.2 ⟨nF.2 ⟨q,hq,rfl⟩,cW hf⟩,?_⟩;have h1:=hR (f q) (nF.2 ⟨q,hq,rfl⟩);rw[hr _ _ h1.1 hq h1.2,hc,hr _ _ hs dE h]
  ·refine eu.2 ⟨f s,List.mem_filter.2 ⟨nF.2 ⟨s,hs,rfl⟩,cW h⟩,?_⟩;have h1:=hR (f s) (nF.2 ⟨s,hs,rfl⟩);exact hr _ _ h1.1 hs h1.2
 have h1:=wM (TQ c n) jU;rw[cU] at h1;have h2:((bU f n).filter fun v=>decide (v≠f q')).length<(bU f n).length:=by
  have hm:f q'∈bU f n:=nF.2 ⟨q',dE,rfl⟩;have ba:=List.length_filter_lt_length_iff_exists (p:=fun v=>decide (v≠f q')) (l:=bU f n);exact ba.2 ⟨f q',hm,by simp⟩
 omega
theorem anu {γ:Type} [DecidableEq γ] {f:Nat→β} {c:Nat→γ} {n:Nat} (hr: ∀q q',q<n→q'<n→f q=f q'→c q=c q'):(bU c n).length≤(bU f n).length:=by
 rcases gr (bU f n).length (bU c n).length with h|h
 ·have:=acB hr (by omega);have rep: ∀v∈bU f n,∃q,q<n∧f q=v:=fun v hv=>nF.1 hv;have: ∃R:β→Nat,∀v∈bU f n,R v<n∧f (R v)=v:=by
   classical
   refine ⟨fun v=>if h:v∈bU f n then Classical.choose (rep v h) else 0,fun v hv=> ?_⟩;simp only[hv,pC];exact HX (rep v hv)
  obtain ⟨R,hR⟩:=this;have jU:bU c n ⊆ (bU f n).map fun v=>c (R v):=by
   intro u hu;obtain ⟨s,hs,rfl⟩:=nF.1 hu;have h1:=hR (f s) (nF.2 ⟨s,hs,rfl⟩);exact eu.2 ⟨f s,nF.2 ⟨s,hs,rfl⟩,hr _ _ h1.1 hs h1.2⟩
  have h1:=wM (TQ c n) jU;rw[cU] at h1;omega
 ·exact h
end
namespace Da
structure Part (a:Da) (c:Nat→Nat):Prop where
 coarse: ∀q q',q<a.n→q'<a.n→a.qf q a q'→c q=c q'
 fin: ∀q q',q<a.n→q'<a.n→c q=c q'→a.fin q=a.fin q'
def sig (a:Da) (c:Nat→Nat) (q:Nat):List Nat:=c q::(List.range a.L).map fun x=>c (a.nx q x)
theorem FG {a:Da} {c:Nat→Nat} {q q':Nat}:a.sig c q=a.sig c q'↔c q=c q'∧∀x,x<a.L→c (a.nx q x)=c (a.nx q' x):=by
 unfold sig;rw[wK];refine and_congr Iff.rfl ⟨fun h x hx=> ?_,fun h=>mo fun x hx=>h x (fg.1 hx)⟩;have:=congrArg (fun l=>l.getD x 0) h;simpa[hx] using this
def TT (a:Da) (c f:Nat→Nat):Prop:= ∀q q',q<a.n→q'<a.n→(f q=f q'↔a.sig c q=a.sig c q')
theorem TT.part {a:Da} {c f:Nat→Nat} (h:a.TT c f) (ha:a.Ok) (hc:a.Part c):a.Part f where
 coarse q q' hq dE he:=(h q q' hq dE).2 (FG.2 ⟨hc.coarse q q' hq dE he,fun x hx=>hc.coarse _ _ (ha.ki hq hx) (ha.ki dE hx) (he.nx hx)⟩)
 fin q q' hq dE he:=hc.fin q q' hq dE (FG.1 ((h q q' hq dE).1 he)).1
def L4 (a:Da) (p:Nat→Nat):Prop:=(∀q q',q<a.n→q'<a.n→(p q=p q'↔a.qf q a q'))∧yA p a.n
theorem Part.anv {a:Da} {c:Nat→Nat} (hc:a.Part c) (ha:a.Ok) (hs: ∀q q',q<a.n→q'<a.n→c q=c q'→a.sig c q=a.sig c q'): ∀q q',q<a.n→q'<a.n→(c q=c q'↔a.qf q a q'):=by
 intro q q' hq dE;refine ⟨fun h w=> ?_,hc.coarse q q' hq dE⟩
 induction w generalizing q q' with
 | nil=>intro _;rw[sH,sH];exact hc.fin q q' hq dE h
 | cons x w ih=>
  intro hw;rw[Lg,Lg];exact ih _ _ (ha.ki hq hw.head) (ha.ki dE hw.head) ((FG.1 (hs q q' hq dE h)).2 x hw.head) hw.tail
def fI (p:Nat→Nat):Nat→List Nat
 | 0=>[]
 | n+1=>if p n∈bU p n then fI p n else fI p n++[n]
theorem L5 {p:Nat→Nat}: ∀n,(fI p n).map p=bU p n
 | 0=>rfl
 | n+1=>by
  rw[fI,bU];unfold bQ;split
  ·exact L5 n
  ·rw[rK,L5 n];rfl
theorem FH {p:Nat→Nat} {n:Nat}:(fI p n).length=(bU p n).length:=by rw[←L5,cU]
theorem yB {p:Nat→Nat}: ∀{n q},q∈fI p n→q<n
 | 0,q,h=>by cases h
 | n+1,q,h=>by
  rw[fI] at h;split at h
  ·have:=yB h;omega
  ·rcases eO.1 h with h|h
   ·have:=yB h;omega
   ·rw[ff.1 h];omega
theorem A9 {p:Nat→Nat} {n:Nat} (ho:yA p n) {c:Nat} (hc:c<(fI p n).length):p (fI p n)[c]=c:=by
 have h1:=ho n (az _);have h2:((fI p n).map p)[c]? =some c:=by rw[L5,h1,HT (by rw[FH] at hc;exact hc)]
 rw[jh,bR hc] at h2;exact dA h2
theorem FI {p:Nat→Nat} {n q:Nat} (ho:yA p n) (hq:q<n):p q<(fI p n).length:=by
 have h1:p q∈bU p n:=nF.2 ⟨q,hq,rfl⟩;rw[ho n (az _),fg] at h1;rw[FH];exact h1
def quo (a:Da) (p:Nat→Nat):Da where
 L:=a.L
 st:=p a.st
 F:=(fI p a.n).map a.fin
 N:=(fI p a.n).map fun q=>tab a.L fun x=>p (a.nx q x)
theorem wy {a:Da} {p:Nat→Nat}:(a.quo p).n=(fI p a.n).length:=by simp[quo,n]
theorem acC {a:Da} {p:Nat→Nat} {c:Nat} (hc:c<(fI p a.n).length):(a.quo p).fin c=a.fin (fI p a.n)[c]:=by
 show ((fI p a.n).map a.fin).getD c false=_;rw[bC (by simpa using hc),ze]
theorem acD {a:Da} {p:Nat→Nat} {c x:Nat} (hc:c<(fI p a.n).length) (hx:x<a.L):(a.quo p).nx c x=p (a.nx (fI p a.n)[c] x):=by
 show (((fI p a.n).map fun q=>tab a.L fun x=>p (a.nx q x)).getD c []).getD x 0=_;rw[bC (l:=(fI p a.n).map fun q=>tab a.L fun x=>p (a.nx q x)) (by simpa using hc),ze,uG hx]
section
variable {a:Da} {p:Nat→Nat} (ha:a.Ok) (hp:a.L4 p)
include ha hp
theorem acE:(a.quo p).Ok where
 l1:=ha.l1
 l6:=ha.l6
 nN:=by rw[wy];simp[quo]
 row r hr:=by
  rw[wy];obtain ⟨q,hq,rfl⟩:=eu.1 (show r∈(fI p a.n).map _ from hr);refine ⟨by simp[quo],fun s hs=> ?_⟩;obtain ⟨x,hx,rfl⟩:=Ls.1 hs;exact FI hp.2 (ha.ki (yB hq) hx)
 s:=by rw[wy];exact FI hp.2 ha.s
 jc:=by
  rw[wy,FH];have:=FF p a.n;have:=ha.jc;omega
theorem L6: ∀(w:List Nat) {q:Nat},q<a.n→WL a.L w→(a.quo p).acc (p q) w=a.acc q w
 | [],q,hq,_=>by
  have hc:=FI hp.2 hq;rw[sH,sH,acC hc];have h1:=(hp.1 _ _ (yB (cJ hc)) hq).1 (A9 hp.2 hc);have:=h1 [] WL.nil;rwa [sH,sH] at this
 | x::w,q,hq,hw=>by
  have hc:=FI hp.2 hq;have hr:=yB (cJ hc);have h1:=(hp.1 _ _ hr hq).1 (A9 hp.2 hc);have h2:=(hp.1 _ _ (ha.ki hr hw.head) (ha.ki hq hw.head)).2 (h1.nx hw.head);rw[Lg,Lg,acD hc hw.head,h2];exact L6 w (ha.ki hq hw.head) hw.tail
theorem anw: ∀c d,c<(a.quo p).n→d<(a.quo p).n→(a.quo p).qf c (a.quo p) d→c=d:=by
 intro c d hc hd he;rw[wy] at hc hd;have r1:=yB (cJ hc);have r2:=yB (cJ hd);rw[←A9 hp.2 hc,←A9 hp.2 hd];refine (hp.1 _ _ r1 r2).2 fun w hw=> ?_;rw[←L6 ha hp w r1 hw,←L6 ha hp w r2 hw,A9 hp.2 hc,A9 hp.2 hd];exact he w hw
theorem anx:(a.quo p).trim.Canon a.L (a.acc a.st):=by
 have h:=(acE ha hp).alg (anw ha hp);exact ⟨h.ok,h.hL,h.st,h.num,h.red,fun w hw=>(h.AU w hw).trans (L6 ha hp w ha.s hw)⟩
end
end Da
end Go.AM
set_option maxRecDepth 100000
namespace Go.AM
open Go.IntKind (wrap)
open Go.Proofs
noncomputable def FJ (C:af) (t24:LV) (t25 cC cT:Int) (dG dw:LV) (count t26:Int) (dY:LV) {β:Type} (kn:(Int×Int×LV)→Option β) (kr:(Int×Int×Bool×LV)→Option β):Option β:=
 bif decide (t26<t25) then
  (idx t24 t26).bind fun x2=>
  (dG[0]?).bind fun x3=>
  bif !(x2.toBool==x3.toBool) then
  aq dY t26 fun x4=>
  kn (2,wrap .i64 (t26+1),aD dY t26 (V.int .i64 1))
  else
  kn (count,wrap .i64 (t26+1),dY)
 else
  kr (count,t26,decide (t26<t25),dY)
noncomputable def L7 (C:af) (t24:LV) (t25 cC cT:Int) (dG dw:LV):=un fun count=>un fun t26 dY=>FJ C t24 t25 cC cT dG dw count t26 dY (fun y=>some (Sum.inl y)) (fun r=>some (Sum.inr r))
noncomputable def FK (C:af) (count q:Int) (t46:LV) (t47 t48:Int) (t58:LV) (t59 cC cT:Int) (dG dw dY numbers rq:LV) (t60 L8 L9 Ma Mb Mc Md Me:Int) {β:Type} (kn:(Int×Int×Int×Int×Int×Int×Int×Int)→Option β) (kr:(Int×Bool×Int×Int×Int×Int×Int×Int×Int)→Option β):Option β:=
 bif decide (t60<t59) then
  (idx t58 t60).bind fun nG=>
  bif (decide (0≤nG.toInt))&&(decide (nG.toInt<(dY.length:Int))) then
  (dY[(nG.toInt:Int).toNat]?).bind fun qi=>
  bif (decide (0≤(wrap .i64 (1+t60))))&&(decide ((wrap .i64 (1+t60))<7)) then
   bif Nat.blt (0+(((wrap .i64 (1+t60):Int).toNat)*1)) 7 then
   kn (wrap .i64 (t60+1),bif Nat.beq (0+(((wrap .i64 (1+t60):Int).toNat)*1)) 0 then qi.toInt else L8,bif Nat.beq (0+(((wrap .i64 (1+t60):Int).toNat)*1)) 1 then qi.toInt else L9,bif Nat.beq (0+(((wrap .i64 (1+t60):Int).toNat)*1)) 2 then qi.toInt else Ma,bif Nat.beq (0+(((wrap .i64 (1+t60):Int).toNat)*1)) 3 then qi.toInt else Mb,bif Nat.beq (0+(((wrap .i64 (1+t60):Int).toNat)*1)) 4 then qi.toInt else Mc,bif Nat.beq (0+(((wrap .i64 (1+t60):Int).toNat)*1)) 5 then qi.toInt else Md,bif Nat.beq (0+(((wrap .i64 (1+t60):Int).toNat)*1)) 6 then qi.toInt else Me)
   else none
  else none
  else none
 else
  kr (t60,decide (t60<t59),L8,L9,Ma,Mb,Mc,Md,Me)
noncomputable def Mf (C:af) (count q:Int) (t46:LV) (t47 t48:Int) (t58:LV) (t59 cC cT:Int) (dG dw dY numbers rq:LV):=un fun t60=>un fun L8=>un fun L9=>un fun Ma=>un fun Mb=>un fun Mc=>un fun Md Me=>FK C count q t46 t47 t48 t58 t59 cC cT dG dw dY numbers rq t60 L8 L9 Ma Mb Mc Md Me (fun y=>some (Sum.inl y)) (fun r=>some (Sum.inr r))
noncomputable def FL (C:af) (count:Int) (t46:LV) (t47 cC cT:Int) (dG dw dY:LV) (t48:Int) (numbers rq:LV) {β:Type} (kn:(Int×LV×LV)→Option β) (kr:(Int×Bool×LV×LV)→Option β):Option β:=
 bif decide (t48<t47) then
  (idx t46 t48).bind fun x9=>
  aq dY t48 fun lX=>
  (Loop (Mf C count t48 t46 t47 t48 x9.toList (x9.toList.length:Int) cC cT dG dw dY numbers rq) (0,lX.toInt,0,0,0,0,0,0)).bind (un fun yC=>un fun (sS:Bool)=>un fun FM=>un fun FN=>un fun FO=>un fun FP=>un fun FQ=>un fun (FR:Int) (FT:Int)=>
   bif (fx .i64 FM&&(fx .i64 FN&&(fx .i64 FO&&(fx .i64 FP&&(fx .i64 FQ&&(fx .i64 FR&&(fx .i64 FT&&true)))))))&&true then
   bif !(fB (.agg [V.int .i64 FM,V.int .i64 FN,V.int .i64 FO,V.int .i64 FP,V.int .i64 FQ,V.int .i64 FR,V.int .i64 FT]) numbers) then
    bif (fx .i64 FM&&(fx .i64 FN&&(fx .i64 FO&&(fx .i64 FP&&(fx .i64 FQ&&(fx .i64 FR&&(fx .i64 FT&&true)))))))&&true then
    aq rq t48 fun oI=>
    kn (wrap .i64 (t48+1),gW (.agg [V.int .i64 FM,V.int .i64 FN,V.int .i64 FO,V.int .i64 FP,V.int .i64 FQ,V.int .i64 FR,V.int .i64 FT]) (V.int .i64 (numbers.length:Int)) numbers,aD rq t48 (V.int .i64 (numbers.length:Int)))
    else none
   else
    aq rq t48 fun pj=>
    kn (wrap .i64 (t48+1),numbers,aD rq t48 (V.int .i64 ((jl (.agg [V.int .i64 FM,V.int .i64 FN,V.int .i64 FO,V.int .i64 FP,V.int .i64 FQ,V.int .i64 FR,V.int .i64 FT]) numbers (V.int .i64 0)).toInt)))
   else none)
 else
  kr (t48,decide (t48<t47),numbers,rq)
noncomputable def Mg (C:af) (count:Int) (t46:LV) (t47 cC cT:Int) (dG dw dY:LV):=un fun t48=>un fun numbers rq=>FL C count t46 t47 cC cT dG dw dY t48 numbers rq (fun y=>some (Sum.inl y)) (fun r=>some (Sum.inr r))
noncomputable def FU (C:af) (cC cT:Int) (dG dw:LV) (count:Int) (dY:LV) {β:Type} (kn:(Int×LV)→Option β) (kr:LV→Option β):Option β:=
 bif (decide (0≤(dY.length:Int)))&&((decide ((dY.length:Int)≤(dY.length:Int)))&&(Nat.ble (((dY.length:Int).toNat)*8) bm)) then
  (Loop (Mg C count dw (dw.length:Int) cC cT dG dw dY) (0,([]:LV),List.replicate ((dY.length:Int).toNat) (V.int .i64 0))).bind (un fun atT=>un fun (anz:Bool)=>un fun (acF:LV) (acG:LV)=>
   bif (acF.length:Int)==count then
   kr acG
   else
   kn ((acF.length:Int),acG))
 else none
noncomputable def FV (C:af) (cC cT:Int) (dG dw:LV):=un fun count dY=>FU C cC cT dG dw count dY (fun y=>some (Sum.inl y)) (fun r=>some (Sum.inr r))
noncomputable def Mh (C:af):cx:=br 81 RT [H1,EQ,EQ,H1,EQ,EQ,EQ,EQ,H1] [[0,2,3,0,0,5,6,7,8,0]] (@FJ C) (br 273 RU [EQ,EQ,EQ,EQ,EQ,EQ,EQ,H1,EQ,EQ,EQ,EQ,EQ,EQ,EQ,H1,H1,H1,H1,H1,H1,H1] [[1,2,3,4,5,6,7,0,0,9,10,11,12,13,14,15,0,0,0,0,0,0,0]] (@FK C) (br 209 RV [EQ,EQ,EQ,H1,EQ,EQ,EQ,EQ,EQ,H1,H1] [[1,2,3,0,0,5,6,7,8,9,0,0]] (@FL C) (br 161 RW [H1,EQ,EQ,EQ,EQ,H1] [[0]] (@FU C) bA)))
theorem anA (C:af):aZ C (Mh C) 75 (Lp [1,1,1,0,1,0,0] 75):=bq RT [H1,EQ,EQ,H1,EQ,EQ,EQ,EQ,H1] [[0,2,3,0,0,5,6,7,8,0]] (@FJ C) (aR au)
theorem anB (C:af):aZ C (Mh C) 75 (Lp [1,1,1,1,0,0,0,1,1,0,1,0,0,1,1,0,0,1,1,0,1,0,0] 75):=bq RU [EQ,EQ,EQ,EQ,EQ,EQ,EQ,H1,EQ,EQ,EQ,EQ,EQ,EQ,EQ,H1,H1,H1,H1,H1,H1,H1] [[1,2,3,4,5,6,7,0,0,9,10,11,12,13,14,15,0,0,0,0,0,0,0]] (@FK C) (aR au)
theorem anC (C:af):aZ C (Mh C) 75 (Lp [1,1,1,1,0,0,0,1,1,0,1,0,0] 75):=bq RV [EQ,EQ,EQ,H1,EQ,EQ,EQ,EQ,EQ,H1,H1] [[1,2,3,0,0,5,6,7,8,9,0,0]] (@FL C) (aR (aY (anB C) au))
theorem anD (C:af):aZ C (Mh C) 75 (Lp [1,1,1,1,0,0] 75):=bq RW [H1,EQ,EQ,EQ,EQ,H1] [[0]] (@FU C) (aR (aY (anC C) au))
noncomputable def acH (C:af) (bV cb:Int) (bG bZ:LV):Option LV:=
 (C sC [V.int .i64 bV,V.int .i64 cb,.list ax bG,.list ah bZ]).bind fun r1=>
 bif (((V.nth r1 0).toInt):Int) != 0 then
  some [.list ae ([]:LV)]
 else
  bif (decide (0≤(bG.length:Int)))&&((decide ((bG.length:Int)≤(bG.length:Int)))&&(Nat.ble (((bG.length:Int).toNat)*8) bm)) then
  (Loop (L7 C bG (bG.length:Int) bV cb bG bZ) (1,0,List.replicate ((bG.length:Int).toNat) (V.int .i64 0))).bind (un fun anE=>un fun oz=>un fun (oA:Bool) (anF:LV)=>
   (Loop (FV C bV cb bG bZ) (anE,anF)).bind (fun (anG:LV)=>
    some [.list ae anG]))
  else none
theorem anH {bV cb:Int} {bG bZ:LV} {r:Option LV} (h:acH CC bV cb bG bZ=r):CC Kp [V.int .i64 bV,V.int .i64 cb,.list ax bG,.list ah bZ]=r:=bz (aY (anA CC) (aY (anD CC) au)) h
def en (a:Da) (c:Nat→Nat) (q t j:Nat):Nat:=if j=0 then c q else if j≤t then c (a.nx q (j-1)) else 0
def ed (a:Da) (c:Nat→Nat) (q:Nat):List Nat:=tab 7 (en a c q a.L)
def FW (s:List Nat):V:= .agg (s.map nV)
theorem acI: ∀s t:List Nat,oQ (s.map nV) (t.map nV)=decide (s=t)
 | [],[]=>rfl
 | [],b::t=>rfl
 | a::s,[]=>rfl
 | a::s,b::t=>by
  simp only[iO,oQ];rw[acI s t,wO];simp only[nV,vn];simp only[aK,beq_iff_eq,fK,wK];exact and_congr (by omega) Iff.rfl
theorem TU (s t:List Nat):gU (FW s) (FW t)=decide (s=t):=acI s t
theorem TV {a:Da} (h:a.Ok) {c:Nat→Nat} {q q':Nat}:ed a c q=ed a c q'↔a.sig c q=a.sig c q':=by
 rw[Da.FG];have h6:=h.l6;constructor
 ·intro e;have g:=fun j (hj:j<7)=>congrArg (fun l:List Nat=>l.getD j 0) e;unfold ed at g;refine ⟨?_,fun x hx=> ?_⟩
  ·have:=g 0 (by omega);rw[uG (by omega),uG (by omega)] at this;exact this
  ·have:=g (x+1) (by omega);rw[uG (by omega),uG (by omega)] at this;unfold en at this;rwa [aj (by omega),ak (by omega),aj (by omega),ak (by omega)] at this
 ·rintro ⟨h1,h2⟩;refine cG fun j _=> ?_;unfold en;by_cases hj:j=0
  ·rw[ak hj,ak hj,h1]
  ·rw[aj hj,aj hj];by_cases dg:j≤a.L
   ·rw[ak dg,ak dg,h2 (j-1) (by omega)]
   ·rw[aj dg,aj dg]
theorem yD {a:Da} {c:Nat→Nat} {q t:Nat} (j:Nat):(bif Nat.beq (0+(t+1)*1) j then ((c (a.nx q t):Nat):Int) else ((en a c q t j:Nat):Int))=((en a c q (t+1) j:Nat):Int):=by
 by_cases hj:t+1=j
 ·rw[show Nat.beq (0+(t+1)*1) j=true from by rw[aO];omega,cond_true,←hj];unfold en;rw[bN,bt];rfl
 ·rw[show Nat.beq (0+(t+1)*1) j=false from by rw[←Bool.not_eq_true,aO];omega,cond_false];unfold en;by_cases h0:j=0
  ·rw[ak h0,ak h0]
  ·rw[aj h0,aj h0];by_cases h1:j≤t
   ·rw[ak h1,bt]
   ·rw[aj h1,bN]
def cV (n:Nat) (c:Nat→Nat):List V:=tab n fun q=>nV (c q)
section
variable {a:Da} (h:a.Ok) {c:Nat→Nat}
include h
theorem anI {q:Nat} (hq:q<a.n) {k1 k2 k3 k4 k5 k6:Int} {l1 l2 l3 l4 l5:List V}:
  Loop (Mf CC k1 k2 l1 k3 k4 (tab a.L fun x=>iV (a.nx q x)) ((tab a.L fun x=>iV (a.nx q x)).length:Int) k5 k6 l2 l3 (cV a.n c) l4 l5) (0,(c q:Int),0,0,0,0,0,0)=
   some ((a.L:Int),false,(en a c q a.L 0:Int),(en a c q a.L 1:Int),(en a c q a.L 2:Int),(en a c q a.L 3:Int),(en a c q a.L 4:Int),(en a c q a.L 5:Int),(en a c q a.L 6:Int)):=by
 have h6:=h.l6;rw[eC];refine (dR a.L (fun t=>((t:Int),(en a c q t 0:Int),(en a c q t 1:Int),(en a c q t 2:Int),(en a c q t 3:Int),(en a c q t 4:Int),(en a c q t 5:Int),(en a c q t 6:Int))) _ (fun t ht=> ?_) ?_)
 ·simp only[Mf,FK,un];refine bT (cd ht) ?_;refine bs (E0 ht) ?_;refine (lg (i:=a.nx q t) (h.ki hq ht)).trans ?_;have w:wrap .i64 (1+(t:Int))=((t+1:Nat):Int):=by rw[gB];omega
  rw[w,cm (by omega),Int.toNat_natCast];refine bT (pI.2 ⟨cW (by omega),cW (by omega)⟩) ?_;refine bT (show Nat.ble (0+(t+1)*1+1) 7=true by rw[fe];omega) ?_;show some (Sum.inl _)=some (Sum.inl _);refine congrArg (fun x=>some (Sum.inl x)) ?_;exact ji rfl (ji (yD 0) (ji (yD 1) (ji (yD 2) (ji (yD 3) (ji (yD 4) (ji (yD 5) (yD 6)))))))
 ·simp only[Mf,FK,un];refine bF (aV (az _)) ?_;rw[aV (az _)]
theorem anJ (hc: ∀q,q<a.n→c q≤1000) {q:Nat} (hq:q<a.n) (j:Nat):en a c q a.L j≤1000:=by
 unfold en;split
 ·exact hc q hq
 ·split
  ·exact hc _ (h.ki hq (by omega))
  ·omega
theorem anK (hc: ∀q,q<a.n→c q≤1000) {k1 k2 k3:Int} {l2:List V}:
  Loop (Mg CC k1 a.dX (a.dX.length:Int) k2 k3 l2 a.dX (cV a.n c)) (0,([]:List V),List.replicate ((((cV a.n c).length:Int):Int).toNat) (V.int .i64 0))=
   some ((a.n:Int),false,eX FW 0 (bU (ed a c) a.n),cV a.n (fb (ed a c) a.n)):=by
 have hm:=h.jc;have hl:(cV a.n c).length=a.n:=by simp[cV]
 rw[hl,Int.toNat_natCast,mM,Da.alJ];refine (dR a.n (fun i=>((i:Int),eX FW 0 (bU (ed a c) i),(tab a.n fun q=>if q<i then nV (fb (ed a c) a.n q) else nV 0))) _ (fun q hq=> ?_) ?_)
 ·have hle:=FF (ed a c) q;simp only[Mg,FL,un,aq,aD];refine bT (cd hq) ?_;refine bs (Da.Lx hq) ?_;refine (lg (i:=q) hq).trans ?_;simp only[EZ];refine bs (anI h hq) ?_;have k0:=anJ h hc hq;have kk: ∀j,fx .i64 ((en a c q a.L j:Nat):Int)=true:=fun j=>S3 (by have:=k0 j;omega);have acJ:((fx .i64 ((en a c q a.L 0:Nat):Int)&&(fx .i64 ((en a c q a.L 1:Nat):Int)&&(fx .i64 ((en a c q a.L 2:Nat):Int)&&(fx .i64 ((en a c q a.L 3:Nat):Int)&&(fx .i64 ((en a c q a.L 4:Nat):Int)&&(fx .i64 ((en a c q a.L 5:Nat):Int)&&(fx .i64 ((en a c q a.L 6:Nat):Int)&&true)))))))&&true)=true:=by
   simp only[kk,Bool.and_self]
  refine bT acJ ?_;have ek:V.agg [V.int .i64 (en a c q a.L 0:Int),V.int .i64 (en a c q a.L 1:Int),V.int .i64 (en a c q a.L 2:Int),V.int .i64 (en a c q a.L 3:Int),V.int .i64 (en a c q a.L 4:Int),V.int .i64 (en a c q a.L 5:Int),V.int .i64 (en a c q a.L 6:Int)]=FW (ed a c q):=rfl;simp only[un,ek];have e1:=SY TU (ed a c q) (bU (ed a c) q) 0;have fin: ∀v,v=nV (fb (ed a c) a.n q)→(tab a.n fun j=>if j<q then nV (fb (ed a c) a.n j) else nV 0).set q v=tab a.n fun j=>if j<q+1 then nV (fb (ed a c) a.n j) else nV 0:=by
   rintro v rfl;rw[iG];refine cG fun j _=> ?_;by_cases hj:j=q
   ·rw[ak hj,bt,hj]
   ·rw[aj hj];by_cases dg:j<q
    ·rw[ak dg,bt]
    ·rw[aj dg,bN]
  rw[cm (by omega)];by_cases hx:ed a c q∈bU (ed a c) q
  ·refine bF (by rw[e1];simpa using hx) ?_;refine (lg hq).trans ?_;have e2:=SZ TU (ed a c q) (.int .i64 0) (bU (ed a c) q) 0 hx;rw[eQ,←anr hq hx] at e2;rw[e2,V.toInt_int,Int.toNat_natCast,show (V.int .i64 (fb (ed a c) a.n q:Int))=nV (fb (ed a c) a.n q) from rfl,fin _ rfl,acy hx]
  ·refine bT (by rw[e1];simpa using hx) ?_;refine bT acJ ?_;refine (lg hq).trans ?_;have e2:=S0 TU (ed a c q) (bU (ed a c) q) 0 hx;rw[eQ] at e2;rw[E1,e2,Int.toNat_natCast,←ans hq hx,show (V.int .i64 (fb (ed a c) a.n q:Int))=nV (fb (ed a c) a.n q) from rfl,fin _ rfl,acz hx]
 ·simp only[Mg,FL,un,aq,aD];refine bF (aV (az _)) ?_;rw[aV (az _)];have:(tab a.n fun q=>if q<a.n then nV (fb (ed a c) a.n q) else nV 0)=cV a.n (fb (ed a c) a.n):=cG fun q hq=>ak hq;rw[this]
def nH (a:Da):Nat→Nat
 | 0=>1
 | i+1=>if a.fin i=a.fin 0 then nH a i else 2
def gn (a:Da) (q:Nat):Nat:=if a.fin q=a.fin 0 then 0 else 1
theorem anL:(bU (gn a) a.n).length=nH a a.n:=by
 have key: ∀m,(bU (gn a) (m+1)=[0]∧nH a (m+1)=1)∨(bU (gn a) (m+1)=[0,1]∧nH a (m+1)=2):=by
  intro m
  induction m with
  | zero=>left;simp[bU,bQ,gn,nH]
  | succ m ih=>
   rw[bU,nH];unfold gn bQ;by_cases hf:a.fin (m+1)=a.fin 0
   ·rw[ak hf,ak hf];rcases ih with ⟨i1,i2⟩|⟨i1,i2⟩
    ·left;refine ⟨?_,i2⟩;unfold gn at i1;rw[i1];rfl
    ·right;refine ⟨?_,i2⟩;unfold gn at i1;rw[i1];rfl
   ·rw[aj hf,aj hf];rcases ih with ⟨i1,i2⟩|⟨i1,i2⟩
    ·right;refine ⟨?_,rfl⟩;unfold gn at i1;rw[i1];rfl
    ·right;refine ⟨?_,rfl⟩;unfold gn at i1;rw[i1];rfl
 have hs:=h.s;obtain ⟨m,hm⟩: ∃m,a.n=m+1:=⟨a.n-1,by omega⟩
 rw[hm];rcases key m with ⟨e1,e2⟩|⟨e1,e2⟩<;>rw[e1,e2]<;>rfl
theorem anM {k2 k3:Int} {l2:List V}:Loop (L7 CC a.dH (a.dH.length:Int) k2 k3 a.dH l2) (1,0,List.replicate ((((a.dH.length:Nat):Int)).toNat) (V.int .i64 0))=some ((nH a a.n:Int),(a.n:Int),false,cV a.n (gn a)):=by
 have hm:=h.jc;have hs:=h.s;rw[Da.EY,Int.toNat_natCast,mM];refine (dR a.n (fun i=>((nH a i:Int),(i:Int),(tab a.n fun q=>if q<i then nV (gn a q) else nV 0))) _ (fun q hq=> ?_) ?_)
 ·simp only[L7,FJ,un,aq,aD];refine bT (cd hq) ?_;refine bs (Da.SW hq) ?_;refine bs (a:= .bool (a.fin 0)) (by unfold Da.dH;exact lf (by omega)) ?_;rw[cm (by omega)];have fin:(tab a.n fun j=>if j<q then nV (gn a j) else nV 0).set q (nV (gn a q))=tab a.n fun j=>if j<q+1 then nV (gn a j) else nV 0:=by
   rw[iG];refine cG fun j _=> ?_;by_cases hj:j=q
   ·rw[ak hj,bt,hj]
   ·rw[aj hj];by_cases dg:j<q
    ·rw[ak dg,bt]
    ·rw[aj dg,bN]
  simp only[V.dP];by_cases hf:a.fin q=a.fin 0
  ·refine bF (by rw[hf];simp) ?_;have e:nH a (q+1)=nH a q:=by rw[nH,ak hf]
   have e2:(tab a.n fun j=>if j<q then nV (gn a j) else nV 0)=tab a.n fun j=>if j<q+1 then nV (gn a j) else nV 0:=cG fun j _=>by
    by_cases hj:j=q
    ·rw[bN,bt,hj];unfold gn;rw[ak hf]
    ·by_cases dg:j<q
     ·rw[ak dg,bt]
     ·rw[aj dg,bN]
   rw[e,e2]
  ·refine bT (by simpa using hf) ?_;refine (lg hq).trans ?_;have e:nH a (q+1)=2:=by rw[nH,aj hf]
   have e3:gn a q=1:=by unfold gn;rw[aj hf]
   rw[e3] at fin;rw[e,Int.toNat_natCast,show (V.int .i64 1)=nV 1 from rfl,fin];rfl
 ·simp only[L7,FJ,un,aq,aD];refine bF (aV (az _)) ?_;rw[aV (az _)];have:(tab a.n fun q=>if q<a.n then nV (gn a q) else nV 0)=cV a.n (gn a):=cG fun q hq=>ak hq;rw[this]
theorem anN {k2 k3:Int} {l2:List V}: ∃p,Loop (FV CC k2 k3 l2 a.dX) ((nH a a.n:Int),cV a.n (gn a))=some (cV a.n p)∧a.L4 p∧∀q,q<a.n→p q≤1000:=by
 have hm:=h.jc;have:=DO (step:=FV CC k2 k3 l2 a.dX)
  (fun x=> ∃c,x=(((bU c a.n).length:Int),cV a.n c)∧a.Part c∧∀q,q<a.n→c q≤1000)
  (fun x=>a.n-x.1.toNat)
  (fun r=> ∃p,r=cV a.n p∧a.L4 p∧∀q,q<a.n→p q≤1000) (fun x hx=> ?_) ((nH a a.n:Int),cV a.n (gn a)) ⟨gn a,by rw[anL h],⟨?_,?_⟩,?_⟩
 ·obtain ⟨r,h1,p,rfl,h2,h3⟩:=this;exact ⟨p,h1,h2,h3⟩
 ·obtain ⟨c,rfl,hp,hc⟩:=hx;have hl:(cV a.n c).length=a.n:=by simp[cV]
  have yE:a.TT c (fb (ed a c) a.n):=fun q q' hq dE=>(acx hq dE).trans (TV h)
  have hle:=FF (ed a c) a.n;have hb: ∀q,q<a.n→fb (ed a c) a.n q≤1000:=fun q hq=>by have:=TR (g:=ed a c) hq;omega
  have TW: ∀q q',q<a.n→q'<a.n→ed a c q=ed a c q'→c q=c q':=fun q q' hq dE e=>(Da.FG.1 ((TV h).1 e)).1;have atU:=anu TW;have cr:=anK h hc (k1:=((bU c a.n).length:Int)) (k2:=k2) (k3:=k3) (l2:=l2);by_cases he:(bU (ed a c) a.n).length=(bU c a.n).length
  ·right;refine ⟨_,?_,fb (ed a c) a.n,rfl,⟨fun q q' hq dE=> ?_,ant _ _⟩,hb⟩
   ·simp only[FV,FU,un];refine bT (by rw[hl];exact ga (by omega) (by omega)) ?_;refine bs cr ?_;refine bT (by rw[E1];simp[he]) ?_;rfl
   ·have eg:=acB TW (by omega);rw[acx hq dE,←hp.anv h (fun s s' hs tY e=>(TV h).1 (eg s s' hs tY e)) q q' hq dE];exact ⟨TW q q' hq dE,eg q q' hq dE⟩
  ·left;have e2:(bU (fb (ed a c) a.n) a.n).length=(bU (ed a c) a.n).length:=by rw[acA _ _ _ (az _),jL]
   refine ⟨(((bU (ed a c) a.n).length:Int),cV a.n (fb (ed a c) a.n)),?_,⟨fb (ed a c) a.n,by rw[e2],yE.part h hp,hb⟩,?_⟩
   ·simp only[FV,FU,un];refine bT (by rw[hl];exact ga (by omega) (by omega)) ?_;refine bs cr ?_;refine bF (by rw[E1];simpa using fun e=>he (by omega)) ?_;rw[E1]
   ·simp only[Int.toNat_natCast];omega
 ·intro q q' hq dE he;have:=he [] WL.nil;rw[Da.sH,Da.sH] at this;unfold gn;rw[this]
 ·intro q q' hq dE he;unfold gn at he;split at he<;>split at he
  ·rename_i h1 h2;rw[h1,h2]
  ·omega
  ·omega
  ·rename_i h1 h2;revert h1 h2;cases a.fin q<;>cases a.fin q'<;>cases a.fin 0<;>simp
 ·intro q _;unfold gn;split<;>omega
theorem anO: ∃p,CC Kp (fA a)=some [.list ae (cV a.n p)]∧a.L4 p∧∀q,q<a.n→p q≤1000:=by
 have hm:=h.jc;obtain ⟨p,h1,h2,h3⟩:=anN h (k2:=(a.L:Int)) (k3:=(a.st:Int)) (l2:=a.dH);refine ⟨p,anH ?_,h2,h3⟩;unfold acH;refine bs (uI h) ?_;refine bF rfl ?_;refine bT (by rw[Da.EY];exact ga (by omega) (by omega)) ?_;refine bs (anM h) ?_;refine bs h1 ?_;rfl
end
noncomputable def FX (C:af) (q t29 t30:Int) (t47:LV) (t48 cC cT:Int) (dG dw:LV) (gk gm Ba Bb:Int) (places dY:LV) (Bc Bd:Int) (bd bJ bS b7 fu iq:LV) (t49:Int) (rows:LV) {β:Type} (kn:(Int×LV)→Option β) (kr:(Int×Bool×LV)→Option β):Option β:=
 bif decide (t49<t48) then
  (idx t47 t49).bind fun x5=>
  bif (decide (0≤x5.toInt))&&(decide (x5.toInt<(dY.length:Int))) then
  (dY[(x5.toInt:Int).toNat]?).bind fun x6=>
  aq rows t49 fun x7=>
  kn (wrap .i64 (t49+1),aD rows t49 (V.int .i64 x6.toInt))
  else none
 else
  kr (t49,decide (t49<t48),rows)
noncomputable def Mi (C:af) (q t29 t30:Int) (t47:LV) (t48 cC cT:Int) (dG dw:LV) (gk gm Ba Bb:Int) (places dY:LV) (Bc Bd:Int) (bd bJ bS b7 fu iq:LV):=un fun t49 rows=>FX C q t29 t30 t47 t48 cC cT dG dw gk gm Ba Bb places dY Bc Bd bd bJ bS b7 fu iq t49 rows (fun y=>some (Sum.inl y)) (fun r=>some (Sum.inr r))
noncomputable def FY (C:af) (t29 cC cT:Int) (dG dw:LV) (gk gm Ba Bb:Int) (places dY:LV) (Bc Bd:Int) (aS bd bJ bS:LV) (t30:Int) (b7 fu:LV) {β:Type} (kn:(Int×LV×LV)→Option β) (kr:(Int×Bool×LV×LV)→Option β):Option β:=
 bif decide (t30<t29) then
  aq dY t30 fun x3=>
  bif decide ((x3.toInt:Int)<(b7.length:Int)) then
  kn (wrap .i64 (t30+1),b7,fu)
  else
  bif (decide (0≤cC))&&((decide (cC≤cC))&&(Nat.ble ((cC.toNat)*8) bm)) then
   aq bS t30 fun x4=>
   (Loop (Mi C t30 t29 t30 x4.toList (x4.toList.length:Int) cC cT dG dw gk gm Ba Bb places dY Bc Bd aS bd bJ bS b7 fu) (0,List.replicate (cC.toNat) (V.int .i64 0))).bind (un fun wk=>un fun (mL:Bool) (acK:LV)=>
    aq bJ t30 fun nG=>
    bif Nat.ble ((b7.length+([.bool nG.toBool]:LV).length)*1) bm then
    bif Nat.ble ((fu.length+([.list ae acK]:LV).length)*24) bm then
     kn (wrap .i64 (t30+1),b7++([.bool nG.toBool]:LV),fu++([.list ae acK]:LV))
    else none
    else none)
  else none
 else
  kr (t30,decide (t30<t29),b7,fu)
noncomputable def Mj (C:af) (t29 cC cT:Int) (dG dw:LV) (gk gm Ba Bb:Int) (places dY:LV) (Bc Bd:Int) (aS bd bJ bS:LV):=un fun t30=>un fun b7 fu=>FY C t29 cC cT dG dw gk gm Ba Bb places dY Bc Bd aS bd bJ bS t30 b7 fu (fun y=>some (Sum.inl y)) (fun r=>some (Sum.inr r))
noncomputable def FZ (C:af) (t88 gk gm:Int) (dY:LV) (iH iI:Int) (numbers TX aS bd bJ bS:LV) (t89:Int) (sN:LV) {β:Type} (kn:(Int×LV)→Option β) (kr:(Int×Bool×LV)→Option β):Option β:=
 bif decide (t89<t88) then
  aq TX t89 fun rv=>
  aq sN t89 fun sU=>
  bif decide ((rv.toInt:Int)≥0) then
  bif (decide (0≤rv.toInt))&&(decide (rv.toInt<(dY.length:Int))) then
   (dY[(rv.toInt:Int).toNat]?).bind fun oJ=>
   bif (decide (0≤oJ.toInt))&&(decide (oJ.toInt<(numbers.length:Int))) then
   (numbers[(oJ.toInt:Int).toNat]?).bind fun sW=>
   aq (aD sN t89 (V.int .i64 (-1))) t89 fun sX=>
   kn (wrap .i64 (t89+1),aD (aD sN t89 (V.int .i64 (-1))) t89 (V.int .i64 sW.toInt))
   else none
  else none
  else
  kn (wrap .i64 (t89+1),aD sN t89 (V.int .i64 (-1)))
 else
  kr (t89,decide (t89<t88),sN)
noncomputable def Mk (C:af) (t88 gk gm:Int) (dY:LV) (iH iI:Int) (numbers TX aS bd bJ bS:LV):=un fun t89 sN=>FZ C t88 gk gm dY iH iI numbers TX aS bd bJ bS t89 sN (fun y=>some (Sum.inl y)) (fun r=>some (Sum.inr r))
noncomputable def TY (C:af):cx:=br 161 Rt [EQ,EQ,EQ,EQ,EQ,H1,EQ,EQ,EQ,EQ,EQ,EQ,EQ,EQ,EQ,EQ,EQ,EQ,H1,EQ,EQ,EQ,EQ,EQ,EQ] [[1,2,3,4,5,0,0,7,8,9,10,11,12,13,14,15,16,17,18,0,20,21,22,23,24,25]] (@FX C) (br 81 Ru [EQ,H1,EQ,EQ,EQ,EQ,EQ,EQ,EQ,EQ,EQ,EQ,EQ,EQ,EQ,EQ,EQ,EQ,H1,H1] [[1,0,0,3,4,5,6,7,8,9,10,11,12,13,14,15,16,17,18,0,0]] (@FY C) (br 321 Rv [EQ,H1,EQ,EQ,EQ,EQ,EQ,EQ,H1,EQ,EQ,EQ,EQ,EQ] [[1,0,0,3,4,5,6,7,8,0,10,11,12,13,14]] (@FZ C) bA))
theorem anP (C:af):aZ C (TY C) 44 (Lp [1,1,1,1,0,1,0,0,1,1,0,0,1,1,1,0,1,0,0] 44):=bq Rt [EQ,EQ,EQ,EQ,EQ,H1,EQ,EQ,EQ,EQ,EQ,EQ,EQ,EQ,EQ,EQ,EQ,EQ,H1,EQ,EQ,EQ,EQ,EQ,EQ] [[1,2,3,4,5,0,0,7,8,9,10,11,12,13,14,15,16,17,18,0,20,21,22,23,24,25]] (@FX C) (aR au)
theorem anQ (C:af):aZ C (TY C) 44 (Lp [1,1,1,1,0,1,0,0] 44):=bq Ru [EQ,H1,EQ,EQ,EQ,EQ,EQ,EQ,EQ,EQ,EQ,EQ,EQ,EQ,EQ,EQ,EQ,EQ,H1,H1] [[1,0,0,3,4,5,6,7,8,9,10,11,12,13,14,15,16,17,18,0,0]] (@FY C) (aR (aY (anP C) au))
theorem anR (C:af):aZ C (TY C) 44 (Lp [1,1,1,1,1,1,1,0,1,0,0] 44):=bq Rv [EQ,H1,EQ,EQ,EQ,EQ,EQ,EQ,H1,EQ,EQ,EQ,EQ,EQ] [[1,0,0,3,4,5,6,7,8,0,10,11,12,13,14]] (@FZ C) (aR au)
noncomputable def acL (C:af) (bV cb:Int) (bG bZ:LV):Option LV:=
 (C Ap [V.int .i64 bV,V.int .i64 cb,.list ax bG,.list ah bZ]).bind fun r1=>
 (C Kp [V.int .i64 ((V.nth r1 0).toInt),V.int .i64 ((V.nth (r1.drop 1) 0).toInt),.list ax ((V.nth (r1.drop 2) 0).toList),.list ah ((V.nth ((r1.drop 2).drop 1) 0).toList)]).bind fun r2=>
 (Loop (Mj C (((V.nth r2 0).toList).length:Int) bV cb bG bZ 0 0 ((V.nth r1 0).toInt) ((V.nth (r1.drop 1) 0).toInt) ((V.nth (((r1.drop 2).drop 1).drop 1) 0).toList) ((V.nth r2 0).toList) bV 0 ([]:LV) ([]:LV) ((V.nth (r1.drop 2) 0).toList) ((V.nth ((r1.drop 2).drop 1) 0).toList)) (0,([]:LV),([]:LV))).bind (un fun sY=>un fun (yC:Bool)=>un fun (qh:LV) (FD:LV)=>
  (C Ap [V.int .i64 bV,V.int .i64 0,.list ax qh,.list ah FD]).bind fun nJ=>
  bif (decide (0≤(((V.nth (((r1.drop 2).drop 1).drop 1) 0).toList).length:Int)))&&((decide ((((V.nth (((r1.drop 2).drop 1).drop 1) 0).toList).length:Int)≤(((V.nth (((r1.drop 2).drop 1).drop 1) 0).toList).length:Int)))&&(Nat.ble ((((((V.nth (((r1.drop 2).drop 1).drop 1) 0).toList).length:Int):Int).toNat)*8) bm)) then
   (Loop (Mk C (((V.nth (((r1.drop 2).drop 1).drop 1) 0).toList).length:Int) 0 0 ((V.nth r2 0).toList) ((V.nth nJ 0).toInt) ((V.nth (nJ.drop 1) 0).toInt) ((V.nth (((nJ.drop 2).drop 1).drop 1) 0).toList) ((V.nth (((r1.drop 2).drop 1).drop 1) 0).toList) ([]:LV) ([]:LV) ((V.nth (nJ.drop 2) 0).toList) ((V.nth ((nJ.drop 2).drop 1) 0).toList)) (0,List.replicate (((((V.nth (((r1.drop 2).drop 1).drop 1) 0).toList).length:Int):Int).toNat) (V.int .i64 0))).bind (un fun anS=>un fun (acM:Bool) (anT:LV)=>
    some [V.int .i64 ((V.nth nJ 0).toInt),V.int .i64 ((V.nth (nJ.drop 1) 0).toInt),.list ax ((V.nth (nJ.drop 2) 0).toList),.list ah ((V.nth ((nJ.drop 2).drop 1) 0).toList),.list ae anT])
  else none)
theorem anU {bV cb:Int} {bG bZ:LV} {r:Option LV} (h:acL CC bV cb bG bZ=r):CC Kd [V.int .i64 bV,V.int .i64 cb,.list ax bG,.list ah bZ]=r:=bz (aY (anQ CC) (aY (anR CC) au)) h
noncomputable def acN (C:af) (bV cb:Int) (bG bZ:LV):Option LV:=
 (C sC [V.int .i64 bV,V.int .i64 cb,.list ax bG,.list ah bZ]).bind fun r1=>
 bif (((V.nth r1 0).toInt):Int) != 0 then
  some [V.int .i64 0,V.int .i64 0,.list ax ([]:LV),.list ah ([]:LV)]
 else
  (C Kd [V.int .i64 bV,V.int .i64 cb,.list ax bG,.list ah bZ]).bind fun r2=>
  some [V.int .i64 ((V.nth r2 0).toInt),V.int .i64 ((V.nth (r2.drop 1) 0).toInt),.list ax ((V.nth (r2.drop 2) 0).toList),.list ah ((V.nth ((r2.drop 2).drop 1) 0).toList)]
theorem anV {bV cb:Int} {bG bZ:LV} {r:Option LV} (h:acN CC bV cb bG bZ=r):CC uu [V.int .i64 bV,V.int .i64 cb,.list ax bG,.list ah bZ]=r:=bz (L:=bA) au h
theorem anW {p:Nat→Nat} {n:Nat} (h:yA p n) (hn:0<n):p 0=0:=by
 simpa[bU,bQ] using h 1 (by omega)
theorem acO {p:Nat→Nat} {n i:Nat} (h:yA p n) (hi:i<n):p i∈bU p i↔p i<(Da.fI p i).length:=by
 rw[Da.FH];constructor
 ·intro hm;rw[h i (by omega)] at hm;simpa using hm
 ·intro hm;rw[h i (by omega)];simpa using hm
theorem anX (p:Nat→Nat) (n:Nat):(Da.fI p n).length≤n:=by rw[Da.FH];exact FF p n
def qF (a:Da) (p:Nat→Nat) (i:Nat):List V:=(Da.fI p i).map fun r=>V.bool (a.fin r)
def qN (a:Da) (p:Nat→Nat) (i:Nat):List V:=(Da.fI p i).map fun r=>lU a.L fun x=>p (a.nx r x)
theorem anY {a:Da} {p:Nat→Nat}:(a.quo p).dH=qF a p a.n∧(a.quo p).dX=qN a p a.n:=by
 constructor
 ·unfold Da.dH qF;rw[yl _ 0,Da.wy];exact cG fun i hi=>by rw[Da.acC hi,bC hi]
 ·unfold Da.dX qN;rw[yl _ 0,Da.wy];refine cG fun i hi=> ?_;unfold lU;exact congrArg _ (cG fun x hx=>by rw[Da.acD hi hx,bC hi])
section
variable {a:Da} (h:a.Ok) {p:Nat→Nat}
include h
theorem anZ {q:Nat} (hq:q<a.n) {k1 k2 k3 k4 k5 k6 k7 k8 k9 k10 k11:Int} {l1 l2 l3 l4 l5 l6 l7 l8 l9:List V}:
  Loop (Mi CC k1 k2 k3 (tab a.L fun x=>iV (a.nx q x)) ((tab a.L fun x=>iV (a.nx q x)).length:Int) k4 k5 l1 l2 k6 k7 k8 k9 l3 (cV a.n p) k10 k11 l4 l5 l6 l7 l8 l9) (0,List.replicate (((a.L:Nat):Int).toNat) (V.int .i64 0))=
   some ((a.L:Int),false,(tab a.L fun x=>nV (p (a.nx q x)))):=by
 have h6:=h.l6;rw[eC,Int.toNat_natCast,mM];refine (dR a.L (fun t=>((t:Int),(tab a.L fun x=>if x<t then nV (p (a.nx q x)) else nV 0))) _ (fun t ht=> ?_) ?_)
 ·simp only[Mi,FX,un,aq,aD];refine bT (cd ht) ?_;refine bs (E0 ht) ?_;refine (lg (i:=a.nx q t) (h.ki hq ht)).trans ?_;refine (lg ht).trans ?_;rw[cm (by omega),Int.toNat_natCast,iG];refine congrArg (fun x=>some (Sum.inl (((t+1:Nat):Int),x))) (cG fun j _=> ?_);by_cases hj:j=t
  ·rw[ak hj,bt,hj];rfl
  ·rw[aj hj];by_cases dg:j<t
   ·rw[ak dg,bt]
   ·rw[aj dg,bN]
 ·simp only[Mi,FX,un,aq,aD];refine bF (aV (az _)) ?_;rw[aV (az _)];refine congrArg (fun x=>some (Sum.inr ((a.L:Int),false,x))) (cG fun j hj=>ak hj)
theorem an0 (ho:yA p a.n) {k3 k4 k5 k6 k7 k8 k9:Int} {l1 l2 l3 l4 l5:List V}:
  Loop (Mj CC ((cV a.n p).length:Int) (a.L:Int) k3 l1 l2 k4 k5 k6 k7 l3 (cV a.n p) k8 k9 l4 l5 a.dH a.dX) (0,([]:List V),([]:List V))=
   some ((a.n:Int),false,qF a p a.n,qN a p a.n):=by
 have h6:=h.l6;have hm:=h.jc;rw[show (cV a.n p).length=a.n by simp[cV]];refine (dR a.n (fun i=>((i:Int),qF a p i,qN a p i)) _ (fun q hq=> ?_) ?_)
 ·have hle:=anX p q;have hF:(qF a p q).length=(Da.fI p q).length:=by simp[qF]
  have hN:(qN a p q).length=(Da.fI p q).length:=by simp[qN]
  simp only[Mj,FY,un,aq];refine bT (cd hq) ?_;refine (lg (i:=q) hq).trans ?_;rw[cm (by omega)];simp only[nV,V.toInt_int];by_cases hx:p q∈bU p q
  ·refine bT (cW (by rw[hF];have:=(acO ho hq).1 hx;omega)) ?_;unfold qF qN;rw[Da.fI,ak hx]
  ·refine bF (cO (by rw[hF];intro h2;exact hx ((acO ho hq).2 (by omega)))) ?_;refine bT (ga (by omega) (by omega)) ?_;refine (lg (i:=q) hq).trans ?_;simp only[EZ];refine bs (anZ h hq) ?_;refine (lg (i:=q) hq).trans ?_;refine bT (cap (by rw[hF];simp;omega) (by omega)) ?_;refine bT (cap (by rw[hN];simp;omega) (by omega)) ?_;unfold qF qN;rw[Da.fI,aj hx,rK,rK];rfl
 ·simp only[Mj,FY,un,aq];refine bF (aV (az _)) ?_;rw[aV (az _)]
end
def uM (U U':List Nat) (p:Nat→Nat) (q:Nat):V:=if q∈U then iV ((if p (U.idxOf q)∈U' then nV (U'.idxOf (p (U.idxOf q))) else V.int .i64 (-1)).toInt) else V.int .i64 (-1)
theorem an1 {n m k:Nat} {U U':List Nat} {p:Nat→Nat} (hn:n≤512) (hU:U.length≤m) (hp: ∀q,q<m→p q<k) {k1 k2 k3 k4:Int} {l1 l2 l3 l4:List V}:
  ∃X,Loop (Mk CC ((nA U n).length:Int) k1 k2 (cV m p) k3 k4 (nA U' k) (nA U n) l1 l2 l3 l4) (0,List.replicate ((((nA U n).length:Int):Int).toNat) (V.int .i64 0))=some ((n:Int),false,X):=by
 rw[show (nA U n).length=n by simp[nA],Int.toNat_natCast,mM];refine ⟨tab n fun q=>if q<n then uM U U' p q else V.int .i64 0,dR n (fun i=>((i:Int),(tab n fun q=>if q<i then uM U U' p q else V.int .i64 0))) _ (fun q hq=> ?_) ?_⟩
 ·simp only[Mk,FZ,un,aq,aD];refine bT (cd hq) ?_;refine (lg (i:=q) hq).trans ?_;refine (lg (i:=q) hq).trans ?_;rw[cm (by omega)];have fin: ∀v,v=uM U U' p q→((tab n fun j=>if j<q then uM U U' p j else V.int .i64 0).set q v)=tab n fun j=>if j<q+1 then uM U U' p j else V.int .i64 0:=by
   rintro v rfl;rw[iG];refine cG fun j _=> ?_;by_cases hj:j=q
   ·rw[ak hj,ak (show j<q+1 by omega),hj]
   ·rw[aj hj];by_cases dg:j<q
    ·rw[ak dg,ak (show j<q+1 by omega)]
    ·rw[aj dg,aj (show¬j<q+1 by omega)]
  by_cases hx:q∈U
  ·have es:uM U U' p q=iV ((if p (U.idxOf q)∈U' then nV (U'.idxOf (p (U.idxOf q))) else V.int .i64 (-1)).toInt):=by unfold uM;rw[ak hx]
   have hi:=vg hx;rw[ak hx];refine bT (cW (by simp only[nV,V.toInt_int];omega)) ?_;simp only[nV,V.toInt_int];refine (lg (i:=U.idxOf q) (by omega)).trans ?_;simp only[nV,V.toInt_int];refine (lg (i:=p (U.idxOf q)) (hp _ (by omega))).trans ?_;refine bT (by rw[ti,eC];exact nz hq) ?_;refine bs (a:= .int .i64 (-1)) (by rw[Int.toNat_natCast,BZ];simp[hq]) ?_;rw[Int.toNat_natCast,List.set_set,←fin _ es.symm]
  ·rw[aj hx];refine bF (cO (by simp)) ?_;rw[Int.toNat_natCast,←fin _ (show V.int .i64 (-1)=uM U U' p q by unfold uM;rw[aj hx])]
 ·simp only[Mk,FZ,un,aq,aD];refine bF (aV (az _)) ?_;rw[aV (az _)]
theorem Canon.congr {m:Da} {L:Nat} {K K':List Nat→Bool} (h:m.Canon L K) (e: ∀w,WL L w→K w=K' w):m.Canon L K':=⟨h.ok,h.hL,h.st,h.num,h.red,fun w hw=>(h.AU w hw).trans (e w hw)⟩
theorem an2 {a:Da} (h:a.Ok): ∃m X,CC Kd (fA a)=some (fA m++[.list ae X])∧m.Canon a.L (a.acc a.st):=by
 have ht:=h.abz;have hm:=h.jc;have hle:=h.uF a.n;have e3:a.trim.n=(aJ a.L a.nx a.st a.n).length:=sI;obtain ⟨p,c1,c2,c3⟩:=anO ht;have hq:=Da.acE ht c2;obtain ⟨q1,q2⟩:=anY (a:=a.trim) (p:=p);have an3:=Da.anx ht c2;have eg:(a.trim.quo p).st=0:=anW c2.2 ht.s;have oG:=ab4 hq;obtain ⟨X,hX⟩:=an1 (n:=a.n) (m:=a.trim.n) (k:=(a.trim.quo p).n) (U:=aJ a.L a.nx a.st a.n) (U':=aJ (a.trim.quo p).L (a.trim.quo p).nx (a.trim.quo p).st (a.trim.quo p).n) (p:=p) hm (by omega) (fun q hq=>by rw[Da.wy];exact Da.FI c2.2 hq) (k1:=0) (k2:=0) (k3:=((a.trim.quo p).trim.L:Int)) (k4:=((a.trim.quo p).trim.st:Int)) (l1:=[]) (l2:=[]) (l3:=(a.trim.quo p).trim.dH) (l4:=(a.trim.quo p).trim.dX);refine ⟨(a.trim.quo p).trim,X,anU ?_,Canon.congr an3 fun w hw=>h.abA hw⟩;unfold acL;refine bs (ab4 h) ?_;refine bs c1 ?_;refine bs (an0 ht c2.2) ?_;simp only[un];rw[←q1,←q2];have an4:CC Ap [.int .i64 (a.L:Int),.int .i64 0,.list ax (a.trim.quo p).dH,.list ah (a.trim.quo p).dX]=some (fA (a.trim.quo p).trim++[.list ae (nA (aJ (a.trim.quo p).L (a.trim.quo p).nx (a.trim.quo p).st (a.trim.quo p).n) (a.trim.quo p).n)]):=by
  rw[←oG];unfold fA uH;rw[eg];rfl
 refine bs an4 ?_;have e0:(nA (aJ a.L a.nx a.st a.n) a.n).length=a.n:=by simp[nA]
 refine bT (show ((decide (0≤((nA (aJ a.L a.nx a.st a.n) a.n).length:Int)))&&((decide (((nA (aJ a.L a.nx a.st a.n) a.n).length:Int)≤((nA (aJ a.L a.nx a.st a.n) a.n).length:Int)))&&(Nat.ble (((((nA (aJ a.L a.nx a.st a.n) a.n).length:Nat):Int).toNat)*8) bm)))=true from ga (by rw[e0];omega) (by omega)) ?_;refine bs hX ?_;rfl
theorem acP {a:Da} (h:a.Ok): ∃m,CC uu (fA a)=some (fA m)∧m.Canon a.L (a.acc a.st):=by
 obtain ⟨m,X,h1,h2⟩:=an2 h;refine ⟨m,anV ?_,h2⟩;unfold acN;refine bs (uI h) ?_;refine bF rfl ?_;refine bs h1 ?_;rfl
open Classical in
noncomputable def minD (a:Da):Da:=if h: ∃m:Da,m.Canon a.L (a.acc a.st) then Classical.choose h else a
theorem uN {a:Da} (h:a.Ok):(minD a).Canon a.L (a.acc a.st):=by
 obtain ⟨m,_,h2⟩:=acP h;have: ∃m:Da,m.Canon a.L (a.acc a.st):=⟨m,h2⟩
 unfold minD;rw[pC this];exact HX this
theorem acQ {a m:Da} (h:a.Ok) (hm:m.Canon a.L (a.acc a.st)):m=minD a:=hm.eq (uN h)
theorem Be {a:Da} (h:a.Ok):CC uu (fA a)=some (fA (minD a)):=by
 obtain ⟨m,h1,h2⟩:=acP h;rw[h1,acQ h h2]
noncomputable def F0 (C:af) (n a t33 t34 t37 ss iH iI:Int) (uO sZ:LV) (t38:Int) (aH:LV) {β:Type} (kn:(Int×LV)→Option β) (kr:(Int×Bool×LV)→Option β):Option β:=
 bif decide (t38<t37) then
  aq aH a fun x1=>
  (idx sZ t38).bind fun x2=>
  (idx x2.toList a).bind fun x3=>
  (aH[a.toNat]?).bind fun x4=>
  bif Nat.ble ((x4.toList.length+([V.int .i64 (wrap .i64 (ss+x3.toInt))]:LV).length)*8) bm then
  Zk aH a <|
  bif (Nat.beq (a.toNat) (a.toNat))&&true then
   kn (wrap .i64 (t38+1),aD aH a (.list ae (x4.toList++([V.int .i64 (wrap .i64 (ss+x3.toInt))]:LV))))
  else none
  else none
 else
  kr (t38,decide (t38<t37),aH)
noncomputable def Ml (C:af) (n a t33 t34 t37 ss iH iI:Int) (uO sZ:LV):=un fun t38 aH=>F0 C n a t33 t34 t37 ss iH iI uO sZ t38 aH (fun y=>some (Sum.inl y)) (fun r=>some (Sum.inr r))
noncomputable def F3 (C:af) (n t33 ss iH iI:Int) (uO sZ:LV) (t34:Int) (aH:LV) {β:Type} (kn:(Int×LV)→Option β) (kr:(Int×Bool×LV)→Option β):Option β:=
 bif decide (t34<t33) then
  (Loop (Ml C n t34 t33 t34 n ss iH iI uO sZ) (0,aH)).bind (un fun oy=>un fun (oz:Bool) (FC:LV)=>
   kn (wrap .i64 (t34+1),FC))
 else
  kr (t34,decide (t34<t33),aH)
noncomputable def Mm (C:af) (n t33 ss iH iI:Int) (uO sZ:LV):=un fun t34 aH=>F3 C n t33 ss iH iI uO sZ t34 aH (fun y=>some (Sum.inl y)) (fun r=>some (Sum.inr r))
noncomputable def acR (C:af):cx:=br 161 Rf [EQ,EQ,EQ,EQ,EQ,H1,EQ,EQ,EQ,EQ,EQ,H1] [[1,2,3,4,5,0,0,7,8,9,10,11,0]] (@F0 C) (br 113 Rg [EQ,EQ,H1,EQ,EQ,EQ,EQ,EQ,H1] [[1,2,0,0,4,5,6,7,8,0]] (@F3 C) bA)
theorem an5 (C:af):aZ C (acR C) 25 (Lp [1,1,1,1,0,1,0,0,1,1,0,0,1,1,0,0] 25):=bq Rf [EQ,EQ,EQ,EQ,EQ,H1,EQ,EQ,EQ,EQ,EQ,H1] [[1,2,3,4,5,0,0,7,8,9,10,11,0]] (@F0 C) (aR au)
theorem an6 (C:af):aZ C (acR C) 25 (Lp [1,1,1,1,0,1,0,0] 25):=bq Rg [EQ,EQ,H1,EQ,EQ,EQ,EQ,EQ,H1] [[1,2,0,0,4,5,6,7,8,0]] (@F3 C) (aR (aY (an5 C) au))
noncomputable def acS (C:af) (s0 Bf:Int) (uP Mn:LV) (ss:Int):Option LV:=
 bif decide (((wrap .i64 (ss+(uP.length:Int))):Int)>32) then
  some [V.int .i64 3,V.int .i64 ss,.list ah ([]:LV),.list jz ([]:LV)]
 else
  bif (decide (0≤s0))&&((decide (s0≤s0))&&(Nat.ble ((s0.toNat)*24) bm)) then
  (Loop (Mm C (uP.length:Int) ((List.replicate (s0.toNat) (V.list ae ([]:LV))).length:Int) ss s0 Bf uP Mn) (0,List.replicate (s0.toNat) (V.list ae ([]:LV)))).bind (un fun wk=>un fun (mL:Bool) (ph:LV)=>
   bif Nat.ble (([.agg [V.int .i64 (wrap .i64 (ss+Bf)),.list ax uP,V.int .i64 ss]]:LV).length*40) bm then
    some [V.int .i64 0,V.int .i64 (wrap .i64 (ss+(uP.length:Int))),.list ah ph,.list jz ([.agg [V.int .i64 (wrap .i64 (ss+Bf)),.list ax uP,V.int .i64 ss]]:LV)]
   else none)
  else none
theorem an7 {s0 Bf:Int} {uP Mn:LV} {ss:Int} {r:Option LV} (h:acS CC s0 Bf uP Mn ss=r):CC J8 [V.int .i64 s0,V.int .i64 Bf,.list ax uP,.list ah Mn,V.int .i64 ss]=r:=bz (aY (an6 CC) au) h
noncomputable def acT (C:af) (Mo:Int) (Mp:LV) (Mq:Int) (f:LV):Option LV:=
 (idx f Mo).bind fun x1=>
 (idx Mp (wrap .i64 (x1.toInt-Mq))).bind fun x2=>
 some [.bool x2.toBool]
theorem an8 {Mo:Int} {Mp:LV} {Mq:Int} {f:LV} {r:Option LV} (h:acT CC Mo Mp Mq f=r):CC Kg [V.int .i64 Mo,.list ax Mp,V.int .i64 Mq,.list ae f]=r:=bz (L:=bA) au h
section
variable {a:LV} {i:Nat} {l l':LV}
theorem an9:Tryz.prog.underlying ah=some (.slice ae):=by kernel_rfl
theorem acU:b8 Tryz.prog ah=false:=by kernel_rfl
theorem acW:parts Tryz.prog ah (.list ae l)=[.list ae l]:=by
 unfold parts;rw[acU];simp only[cond_false,fN,an9,V.eh]
theorem oK (h:a[i]? =some (.list ae l)):eS Tryz.prog ah a [(i,0)]=some (.list ae l):=by
 simp only[eS,h,Option.bind_some,acW];rfl
theorem Mr (h:a[i]? =some (.list ae l)):setRow Tryz.prog l' ah a [(i,0)]=a.set i (.list ae l'):=by
 simp only[setRow,h,acW];simp only[List.getElem?_cons_zero,List.set_cons_zero,di,acU,cond_false,V.dF]
theorem aoa:Tryz.prog.underlying kh=some (.slice ax):=by kernel_rfl
theorem acX:b8 Tryz.prog kh=false:=by kernel_rfl
theorem acY:parts Tryz.prog kh (.list ax l)=[.list ax l]:=by
 unfold parts;rw[acX];simp only[cond_false,fN,aoa,V.eh]
theorem acZ (h:a[i]? =some (.list ax l)):eS Tryz.prog kh a [(i,0)]=some (.list ax l):=by
 simp only[eS,h,Option.bind_some,acY];rfl
theorem aob (h:a[i]? =some (.list ax l)):setRow Tryz.prog l' kh a [(i,0)]=a.set i (.list ax l'):=by
 simp only[setRow,h,acY];simp only[List.getElem?_cons_zero,List.set_cons_zero,di,acX,cond_false,V.dF]
end
def Da.gT (m:Da) (x:Nat):List Nat:=(List.range m.n).map fun q=>m.nx q x
theorem Da.Ok.gT {m:Da} (h:m.Ok) {x:Nat} (hx:x<m.L):Tr m.n (m.gT x):=by
 refine ⟨by simp[Da.gT],fun y hy=> ?_⟩;obtain ⟨q,hq,rfl⟩:=eu.1 hy;exact h.ki (fg.1 hq) hx
theorem aoc {m:Da} {x:Nat}:nS (m.gT x)=tab m.n fun q=>nV (m.nx q x):=by
 unfold Da.gT nS;rw[pH];rfl
def ry (m:Da):LV:=[.agg [.int .i64 (m.st:Int),.list ax m.dH,.int .i64 0]]
section
variable {m:Da} (h:m.Ok) (nB:m.n≤32)
include h nB
theorem aod {a:Nat} (ha:a<m.L) {k1 k2:Int}:Loop (Ml CC (m.n:Int) (a:Int) k1 k2 (m.n:Int) 0 (m.L:Int) (m.st:Int) m.dH m.dX) (0,tab m.L fun j=>if j<a then tV (m.gT j) else .list ae [])=some ((m.n:Int),false,tab m.L fun j=>if j<a+1 then tV (m.gT j) else .list ae []):=by
 have hl6:=h.l6;have eg: ∀{q:Nat} {l:LV},(tab m.L fun j=>if j<a then tV (m.gT j) else if j=a then .list ae l else .list ae [])[a]? =some (.list ae l):=fun {q l}=>by rw[lf ha,bN,bt]
 refine (dR m.n (fun q=>((q:Int),(tab m.L fun j=>if j<a then tV (m.gT j) else if j=a then .list ae (tab q fun p=>nV (m.nx p a)) else .list ae []))) _ (fun q hq=> ?_) ?_) |> fun e=>by
  rw[show (tab m.L fun j=>if j<a then tV (m.gT j) else .list ae [])=tab m.L fun j=>if j<a then tV (m.gT j) else if j=a then .list ae (tab 0 fun p=>nV (m.nx p a)) else .list ae [] from cG fun j _=>by
   by_cases c:j<a
   ·rw[ak c,ak c]
   ·rw[aj c,aj c];split<;>rfl]
  exact e
 ·simp only[Ml,F0,un,aq,Zk,aD];have e1:=eg (q:=q) (l:=tab q fun p=>nV (m.nx p a));have e2:a<(tab m.L fun j=>if j<a then tV (m.gT j) else if j=a then .list ae (tab q fun p=>nV (m.nx p a)) else V.list ae []).length:=by simpa using ha
  have CY:=h.ki hq ha;refine bT (cd hq) ((cw e1).trans (bs (Da.Lx hq) ?_));rw[EZ];refine bs (E0 ha) (bs (by rw[Int.toNat_natCast];exact e1) (bT (cap (by simp;omega) (by omega)) (bT (nz e2) (bT (by simp) ?_))));rw[cm (by omega),show wrap .i64 (0+(iV (m.nx q a)).toInt)=((m.nx q a:Nat):Int) from by show wrap .i64 (0+((m.nx q a:Nat):Int))=_;rw[gB]<;>omega,Int.toNat_natCast,iG];refine congrArg (fun t=>some (Sum.inl (((q+1:Nat):Int),t))) (cG fun j _=> ?_);by_cases c:j=a
  ·subst c;rw[bt,bN,bt,V.eh,EV];rfl
  ·rw[aj c];by_cases c2:j<a
   ·rw[bt,bt]
   ·rw[bN,aj c,bN,aj c]
 ·simp only[Ml,F0,un];refine bF (aV (az _)) ?_;rw[aV (az _)];refine congrArg (fun t=>some (Sum.inr ((m.n:Int),false,t))) (cG fun j _=> ?_);by_cases c:j=a
  ·subst c;rw[bN,bt,bt];unfold tV;rw[aoc]
  ·by_cases c2:j<a
   ·rw[bt,bt]
   ·rw[bN,aj c,bN]
theorem ac0:CC J8 (uH m [.int .i64 0])=some [.int .i64 0,.int .i64 (m.n:Int),.list ah (gV m.L m.gT),.list jz (ry m)]:=by
 have hl6:=h.l6;have hs:=h.s;refine an7 ?_;unfold acS;rw[Da.EY,show wrap .i64 (0+(m.n:Int))=(m.n:Int) from by rw[gB]<;>omega];refine bF (cO (by omega)) (bT (ga (by omega) (by omega)) ?_);rw[Int.toNat_natCast,y8];have l2:Loop (Mm CC (m.n:Int) (m.L:Int) 0 (m.L:Int) (m.st:Int) m.dH m.dX) (0,List.replicate m.L (V.list ae ([]:LV)))=some ((m.L:Int),false,gV m.L m.gT):=by
  rw[mM];refine (dR m.L (fun a=>((a:Int),(tab m.L fun j=>if j<a then tV (m.gT j) else .list ae []))) _ (fun a ha=> ?_) ?_)
  ·simp only[Mm,F3,un];refine bT (cd ha) (bs (aod h nB ha) ?_);rw[cm (by omega)];rfl
  ·simp only[Mm,F3,un];refine bF (aV (az _)) ?_;rw[aV (az _)];exact congrArg (fun t=>some (Sum.inr ((m.L:Int),false,t))) (cG fun j hj=>ak hj)
 rw[show wrap .i64 (0+(m.st:Int))=(m.st:Int) from by rw[gB]<;>omega];exact bs l2 rfl
theorem aoe {f:List Nat} (hf:Tr m.n f):CC Kg [.int .i64 (m.st:Int),.list ax m.dH,.int .i64 0,.list ae (nS f)]=some [.bool (m.fin (f.getD m.st 0))]:=by
 have hs:=h.s;have tY:m.st<f.length:=by rw[hf.1];exact hs
 have h2:=hf.at tY;refine an8 ?_;unfold acT;refine bs (gb tY) ?_;rw[show wrap .i64 ((nV f[m.st]).toInt-0)=((f[m.st]:Nat):Int) from by show wrap .i64 (((f[m.st]:Nat):Int)-0)=_;rw[gB]<;>omega,bC tY];exact bs (Da.SW h2) rfl
end
noncomputable def F4 (C:af) (t t13:LV) (t14 t15:Int) (t24:LV) (t25 t26:Int) {β:Type} (kn:Int→Option β) (kr:((Int) ⊕ (Int×Bool))→Option β):Option β:=
 bif decide (t26<t25) then
  (idx t24 t26).bind fun x2=>
  bif decide ((x2.toInt:Int)<0) then
  kr (.inl 4)
  else
  bif decide ((x2.toInt:Int)≥(t.length:Int)) then
   kr (.inl 4)
  else
   kn (wrap .i64 (t26+1))
 else
  kr (.inr (t26,decide (t26<t25)))
noncomputable def TZ (C:af) (t t13:LV) (t14 t15:Int) (t24:LV) (t25:Int):=fun t26=>F4 C t t13 t14 t15 t24 t25 t26 (fun y=>some (Sum.inl y)) (fun r=>some (Sum.inr r))
noncomputable def F5 (C:af) (t t13:LV) (t14 t15:Int) {β:Type} (kn:Int→Option β) (kr:((Int) ⊕ (Int×Bool))→Option β):Option β:=
 bif decide (t15<t14) then
  (idx t13 t15).bind fun x1=>
  bif (x1.toList.length:Int) != (t.length:Int) then
  kr (.inl 4)
  else
  (Loop (TZ C t t13 t14 t15 x1.toList (x1.toList.length:Int)) 0).bind (cM (fun jB=>
   kr (.inl jB)) (un fun (gP:Int) (oy:Bool)=>
   kn (wrap .i64 (t15+1))))
 else
  kr (.inr (t15,decide (t15<t14)))
noncomputable def T4 (C:af) (t t13:LV) (t14:Int):=fun t15=>F5 C t t13 t14 t15 (fun y=>some (Sum.inl y)) (fun r=>some (Sum.inr r))
noncomputable def ac1 (C:af):cx:=br 177 RH [EQ,EQ,EQ,EQ,EQ,EQ,H1] [[0],[1,2,3,4,5,6,0,0]] (@F4 C) (br 97 RI [EQ,EQ,EQ,H1] [[0],[1,2,3,0,0]] (@F5 C) bA)
theorem aof (C:af):aZ C (ac1 C) 63 (Lp [1,1,1,0,1,0,0,1,1,0,0,1,1,1,0,0] 63):=bq RH [EQ,EQ,EQ,EQ,EQ,EQ,H1] [[0],[1,2,3,4,5,6,0,0]] (@F4 C) (aR au)
theorem aog (C:af):aZ C (ac1 C) 63 (Lp [1,1,1,0,1,0,0] 63):=bq RI [EQ,EQ,EQ,H1] [[0],[1,2,3,0,0]] (@F5 C) (aR (aY (aof C) au))
noncomputable def ac2 (C:af) (t:LV):Option LV:=
 bif decide ((t.length:Int)>400) then
  some [V.int .i64 3]
 else
  bif (t.length:Int)==0 then
  some [V.int .i64 4]
  else
  (Loop (T4 C t t (t.length:Int)) 0).bind (cM (fun oz=>
   some [V.int .i64 oz]) (un fun (oA:Int) (wk:Bool)=>
   some [V.int .i64 0]))
theorem aoh {t:LV} {r:Option LV} (h:ac2 CC t=r):CC Kl [.list ah t]=r:=bz (aY (aog CC) au) h
noncomputable def F6 (C:af) (t:LV) (g:Int) (row left t16:LV) (t17 t18:Int) (t29:LV) (t30 t31:Int) (t45:LV) (t46:Int) (lZ:LV) (t47:Int) {β:Type} (kn:Int→Option β) (kr:((Bool) ⊕ (Int×Bool))→Option β):Option β:=
 bif decide (t47<t46) then
  (idx t45 t47).bind fun x8=>
  (idx left t47).bind fun x9=>
  (idx row x8.toInt).bind fun lX=>
  bif (x9.toInt:Int) != lX.toInt then
  kr (.inl false)
  else
  kn (wrap .i64 (t47+1))
 else
  kr (.inr (t47,decide (t47<t46)))
noncomputable def T6 (C:af) (t:LV) (g:Int) (row left t16:LV) (t17 t18:Int) (t29:LV) (t30 t31:Int) (t45:LV) (t46:Int) (lZ:LV):=fun t47=>F6 C t g row left t16 t17 t18 t29 t30 t31 t45 t46 lZ t47 (fun y=>some (Sum.inl y)) (fun r=>some (Sum.inr r))
noncomputable def F7 (C:af) (t:LV) (g:Int) (t16:LV) (t17 t18:Int) (t29:LV) (t30:Int) (lZ:LV) (t31:Int) {β:Type} (kn:Int→Option β) (kr:((Bool) ⊕ (Int×Bool))→Option β):Option β:=
 bif decide (t31<t30) then
  (idx t29 t31).bind fun x4=>
  (idx x4.toList g).bind fun x5=>
  (idx t x5.toInt).bind fun x6=>
  (idx t g).bind fun x7=>
  (Loop (T6 C t g x4.toList x6.toList t16 t17 t18 t29 t30 t31 x7.toList (x7.toList.length:Int) lZ) 0).bind (cM (fun (wz:Bool)=>
   kr (.inl wz)) (un fun (sY:Int) (yC:Bool)=>
   kn (wrap .i64 (t31+1))))
 else
  kr (.inr (t31,decide (t31<t30)))
noncomputable def Ms (C:af) (t:LV) (g:Int) (t16:LV) (t17 t18:Int) (t29:LV) (t30:Int) (lZ:LV):=fun t31=>F7 C t g t16 t17 t18 t29 t30 lZ t31 (fun y=>some (Sum.inl y)) (fun r=>some (Sum.inr r))
noncomputable def F8 (C:af) (t t16:LV) (t17 t18:Int) (lZ:LV) {β:Type} (kn:(Int×LV)→Option β) (kr:((Bool) ⊕ (Int×Bool×LV))→Option β):Option β:=
 bif decide (t18<t17) then
  (idx t16 t18).bind fun x1=>
  bif (decide (0≤x1.toInt))&&(decide (x1.toInt<(lZ.length:Int))) then
  (lZ[(x1.toInt:Int).toNat]?).bind fun x2=>
  bif x2.toBool then
   kn (wrap .i64 (t18+1),lZ)
  else
   bif (decide (0≤x1.toInt))&&(decide (x1.toInt<(lZ.length:Int))) then
   (lZ[(x1.toInt:Int).toNat]?).bind fun x3=>
   (Loop (Ms C t x1.toInt t16 t17 t18 t (t.length:Int) (aD lZ (x1.toInt) (.bool true))) 0).bind (cM (fun (sS:Bool)=>
    kr (.inl sS)) (un fun (ac3:Int) (S4:Bool)=>
    kn (wrap .i64 (t18+1),aD lZ (x1.toInt) (.bool true))))
   else none
  else none
 else
  kr (.inr (t18,decide (t18<t17),lZ))
noncomputable def Mt (C:af) (t t16:LV) (t17:Int):=un fun t18 lZ=>F8 C t t16 t17 t18 lZ (fun y=>some (Sum.inl y)) (fun r=>some (Sum.inr r))
noncomputable def T7 (C:af):cx:=br 193 RJ [EQ,EQ,EQ,EQ,EQ,EQ,EQ,EQ,EQ,EQ,EQ,EQ,H1,EQ] [[0],[1,2,3,4,5,6,7,8,9,10,11,12,0,0,14]] (@F6 C) (br 129 RK [EQ,EQ,EQ,EQ,EQ,EQ,EQ,H1,EQ] [[0],[1,2,3,4,5,6,7,0,0,9]] (@F7 C) (br 49 RL [EQ,EQ,EQ,H1,H1] [[0],[1,2,3,0,0,0]] (@F8 C) bA))
theorem aoi (C:af):aZ C (T7 C) 64 (Lp [1,1,0,1,0,0,1,1,0,0,1,1,1,1,0,0,1,1,0,0,1,1,1,0,0] 64):=bq RJ [EQ,EQ,EQ,EQ,EQ,EQ,EQ,EQ,EQ,EQ,EQ,EQ,H1,EQ] [[0],[1,2,3,4,5,6,7,8,9,10,11,12,0,0,14]] (@F6 C) (aR au)
theorem aoj (C:af):aZ C (T7 C) 64 (Lp [1,1,0,1,0,0,1,1,0,0,1,1,1,1,0,0] 64):=bq RK [EQ,EQ,EQ,EQ,EQ,EQ,EQ,H1,EQ] [[0],[1,2,3,4,5,6,7,0,0,9]] (@F7 C) (aR (aY (aoi C) au))
theorem aok (C:af):aZ C (T7 C) 64 (Lp [1,1,0,1,0,0] 64):=bq RL [EQ,EQ,EQ,H1,H1] [[0],[1,2,3,0,0,0]] (@F8 C) (aR (aY (aoj C) au))
noncomputable def ac4 (C:af) (t ei:LV):Option LV:=
 bif (decide (0≤(t.length:Int)))&&((decide ((t.length:Int)≤(t.length:Int)))&&(Nat.ble (((t.length:Int).toNat)*1) bm)) then
  (Loop (Mt C t ei (ei.length:Int)) (0,List.replicate ((t.length:Int).toNat) (V.bool false))).bind (cM (fun (T8:Bool)=>
   some [.bool T8]) (un fun ac5=>un fun (aol:Bool) (atV:LV)=>
   some [.bool true]))
 else none
theorem aom {t ei:LV} {r:Option LV} (h:ac4 CC t ei=r):CC Km [.list ah t,.list ae ei]=r:=bz (aY (aok CC) au) h
noncomputable def F9 (C:af) (t t7:LV) (t8 t9:Int) {β:Type} (kn:Int→Option β) (kr:((Bool) ⊕ (Int×Bool))→Option β):Option β:=
 bif decide (t9<t8) then
  (idx t7 t9).bind fun x1=>
  bif decide ((x1.toInt:Int)<0) then
  kr (.inl false)
  else
  bif decide ((x1.toInt:Int)≥(t.length:Int)) then
   kr (.inl false)
  else
   kn (wrap .i64 (t9+1))
 else
  kr (.inr (t9,decide (t9<t8)))
noncomputable def T9 (C:af) (t t7:LV) (t8:Int):=fun t9=>F9 C t t7 t8 t9 (fun y=>some (Sum.inl y)) (fun r=>some (Sum.inr r))
noncomputable def aon (C:af):cx:=br 33 Rq [EQ,EQ,EQ,H1] [[0],[1,2,3,0,0]] (@F9 C) bA
theorem aoo (C:af):aZ C (aon C) 34 (Lp [1,0,1,0,0] 34):=bq Rq [EQ,EQ,EQ,H1] [[0],[1,2,3,0,0]] (@F9 C) (aR au)
noncomputable def ac6 (C:af) (t numbers:LV):Option LV:=
 (Loop (T9 C t numbers (numbers.length:Int)) 0).bind (cM (fun (sO:Bool)=>
  some [.bool sO]) (un fun (jB:Int) (gP:Bool)=>
  some [.bool true]))
theorem aop {t numbers:LV} {r:Option LV} (h:ac6 CC t numbers=r):CC D2 [.list ah t,.list ae numbers]=r:=bz (aY (aoo CC) au) h
noncomputable def ac7 (C:af) (x:Int) (aH aI:LV):Option LV:=
 aq aH x fun x1=>
 bif !x1.toBool then
  aq aH x fun x2=>
  bif Nat.ble ((aI.length+([V.int .i64 x]:LV).length)*8) bm then
  some [.list ax (aD aH x (.bool true)),.list ae (aI++([V.int .i64 x]:LV))]
  else none
 else
  some [.list ax aH,.list ae aI]
theorem aoq {x:Int} {aH aI:LV} {r:Option LV} (h:ac7 CC x aH aI=r):CC qc [V.int .i64 x,.list ax aH,.list ae aI]=r:=bz (L:=bA) au h
noncomputable def Ga (C:af) (t:LV) (jE x t17 t18:Int) (t45:LV) (t46:Int) (oL:LV) (t47:Int) (aI bh:LV) {β:Type} (kn:(Int×LV×LV)→Option β) (kr:(Int×Bool×LV×LV)→Option β):Option β:=
 bif decide (t47<t46) then
  (idx t45 t47).bind fun x4=>
  (idx t x).bind fun x5=>
  (idx x5.toList x4.toInt).bind fun x6=>
  (C qc [V.int .i64 x6.toInt,.list ax aI,.list ae bh]).bind fun r7=>
  (idx t x4.toInt).bind fun x8=>
  (idx x8.toList x).bind fun x9=>
  (C qc [V.int .i64 x9.toInt,.list ax ((V.nth r7 0).toList),.list ae ((V.nth (r7.drop 1) 0).toList)]).bind fun Mu=>
  kn (wrap .i64 (t47+1),(V.nth Mu 0).toList,(V.nth (Mu.drop 1) 0).toList)
 else
  kr (t47,decide (t47<t46),aI,bh)
noncomputable def Gb (C:af) (t:LV) (jE x t17 t18:Int) (t45:LV) (t46:Int) (oL:LV):=un fun t47=>un fun aI bh=>Ga C t jE x t17 t18 t45 t46 oL t47 aI bh (fun y=>some (Sum.inl y)) (fun r=>some (Sum.inr r))
noncomputable def Mv (C:af) (t:LV) (t17 t18:Int) (oL:LV) (jE:Int) (aI bh:LV) {β:Type} (kn:(Int×LV×LV)→Option β) (kr:(Int×Bool×LV×LV)→Option β):Option β:=
 bif decide (jE<(bh.length:Int)) then
  aq bh jE fun x3=>
  bif (decide (0≤(wrap .i64 (jE+1))))&&(decide ((wrap .i64 (jE+1))≤(bh.length:Int))) then
  (Loop (Gb C t jE x3.toInt t17 t18 ((bh.drop 0).take (((wrap .i64 (jE+1):Int).toNat)-0)) (((wrap .i64 (jE+1):Int).toNat)-0:Int) oL) (0,aI,bh)).bind (un fun wz=>un fun (sY:Bool)=>un fun (A1:LV) (qh:LV)=>
   kn (wrap .i64 (jE+1),A1,qh))
  else none
 else
  kr (jE,decide (jE<(bh.length:Int)),aI,bh)
noncomputable def Mw (C:af) (t:LV) (t17 t18:Int) (oL:LV):=un fun jE=>un fun aI bh=>Mv C t t17 t18 oL jE aI bh (fun y=>some (Sum.inl y)) (fun r=>some (Sum.inr r))
noncomputable def Gc (C:af) (t:LV) (t17 jE t18:Int) (oL aI bh:LV) {β:Type} (kn:(Int×Int×LV×LV×LV)→Option β) (kr:(Int×Int×Bool×LV×LV×LV)→Option β):Option β:=
 bif decide (t18<t17) then
  aq aI t18 fun x1=>
  bif x1.toBool then
  kn (jE,wrap .i64 (t18+1),oL,aI,bh)
  else
  bif Nat.ble ((oL.length+([V.int .i64 t18]:LV).length)*8) bm then
   (C qc [V.int .i64 t18,.list ax aI,.list ae bh]).bind fun r2=>
   (Loop (Mw C t t17 t18 (oL++([V.int .i64 t18]:LV))) (jE,(V.nth r2 0).toList,(V.nth (r2.drop 1) 0).toList)).bind (un fun aor=>un fun (S4:Bool)=>un fun (j4:LV) (ym:LV)=>
    kn (aor,wrap .i64 (t18+1),oL++([V.int .i64 t18]:LV),j4,ym))
  else none
 else
  kr (jE,t18,decide (t18<t17),oL,aI,bh)
noncomputable def Mx (C:af) (t:LV) (t17:Int):=un fun jE=>un fun t18=>un fun oL=>un fun aI bh=>Gc C t t17 jE t18 oL aI bh (fun y=>some (Sum.inl y)) (fun r=>some (Sum.inr r))
noncomputable def Ua (C:af):cx:=br 241 RM [EQ,EQ,EQ,EQ,EQ,EQ,EQ,H1,EQ,H1,H1] [[1,2,3,4,5,6,7,0,0,9,0,0]] (@Ga C) (br 177 RN [EQ,H1,EQ,EQ,EQ,H1,H1] [[1,0,3,4,0,5,0,0]] (@Mv C) (br 97 RO [EQ,H1,EQ,H1,H1,H1,H1] [[1,0,3,0,0,0,0,0]] (@Gc C) bA))
theorem aos (C:af):aZ C (Ua C) 65 (Lp [1,1,1,1,1,0,1,0,0,1,1,0,0,1,1,1,1,0,0,1,0,0,1,1,0,0] 65):=bq RM [EQ,EQ,EQ,EQ,EQ,EQ,EQ,H1,EQ,H1,H1] [[1,2,3,4,5,6,7,0,0,9,0,0]] (@Ga C) (aR au)
theorem aot (C:af):aZ C (Ua C) 65 (Lp [1,1,1,1,1,0,1,0,0,1,1,0,0,1,1,1,1,0,0] 65):=bq RN [EQ,H1,EQ,EQ,EQ,H1,H1] [[1,0,3,4,0,5,0,0]] (@Mv C) (aR (aY (aos C) au))
theorem aou (C:af):aZ C (Ua C) 65 (Lp [1,1,1,1,1,0,1,0,0] 65):=bq RO [EQ,H1,EQ,H1,H1,H1,H1] [[1,0,3,0,0,0,0,0]] (@Gc C) (aR (aY (aot C) au))
noncomputable def ac8 (C:af) (t:LV):Option LV:=
 bif (decide (0≤(t.length:Int)))&&((decide ((t.length:Int)≤(t.length:Int)))&&(Nat.ble (((t.length:Int).toNat)*1) bm)) then
  (Loop (Mx C t (t.length:Int)) (0,0,([]:LV),List.replicate ((t.length:Int).toNat) (V.bool false),([]:LV))).bind (un fun atW=>un fun atX=>un fun (aov:Bool)=>un fun (aow:LV)=>un fun (sL:LV) (E6:LV)=>
   some [.list ae aow])
 else none
theorem aox {t:LV} {r:Option LV} (h:ac8 CC t=r):CC Kn [.list ah t]=r:=bz (aY (aou CC) au) h
noncomputable def ac9 (C:af) (t:LV):Option LV:=
 (C Kl [.list ah t]).bind fun r1=>
 bif (((V.nth r1 0).toInt):Int) != 0 then
  some [V.int .i64 ((V.nth r1 0).toInt)]
 else
  (C Kn [.list ah t]).bind fun r2=>
  (C Km [.list ah t,.list ae ((V.nth r2 0).toList)]).bind fun r3=>
  bif !((V.nth r3 0).toBool) then
  some [V.int .i64 5]
  else
  some [V.int .i64 0]
theorem aoy {t:LV} {r:Option LV} (h:ac9 CC t=r):CC uv [.list ah t]=r:=bz (L:=bA) au h
noncomputable def ada (C:af) (t:LV):Option LV:=
 (C uv [.list ah t]).bind fun r1=>
 some [.bool ((((V.nth r1 0).toInt):Int)==0)]
theorem aoz {t:LV} {r:Option LV} (h:ada CC t=r):CC Kk [.list ah t]=r:=bz (L:=bA) au h
noncomputable def adb (C:af) (t numbers:LV):Option LV:=
 (C D2 [.list ah t,.list ae numbers]).bind fun r1=>
 bif (V.nth r1 0).toBool then
  (C Kk [.list ah t]).bind fun r2=>
  some [.bool ((V.nth r2 0).toBool)]
 else
  some [.bool false]
theorem aoA {t numbers:LV} {r:Option LV} (h:adb CC t numbers=r):CC J9 [.list ah t,.list ae numbers]=r:=bz (L:=bA) au h
theorem uQ {n i:Nat} {g:Nat→V} (hi:i<n):idx (V.list ae (tab n g)).toList (i:Int)=some (g i):=by rw[V.eh];exact qg hi
def tG (K:Nat) (mul:Nat→Nat→Nat):LV:=tab K fun i=> .list ae (tab K fun j=>nV (mul i j))
structure Tb (K:Nat) (mul:Nat→Nat→Nat):Prop where
 k1:1≤K
 k4:K≤400
 lt: ∀i j,i<K→j<K→mul i j<K
def dS (K:Nat) (M:List Nat):LV:=tab K fun i=> .bool (decide (i∈M))
structure eM (K:Nat) (M:List Nat):Prop where
 nd:M.Nodup
 lt: ∀x∈M,x<K
theorem eM.le {K:Nat} {M:List Nat} (h:eM K M):M.length≤K:=by
 have:=wM (l₂:=List.range K) h.nd fun x hx=>fg.2 (h.lt x hx);simpa using this
theorem eM.add {K:Nat} {M:List Nat} (h:eM K M) {x:Nat} (hx:x<K):eM K (bQ M x):=⟨SN h.nd,fun y hy=>by
 unfold bQ at hy;split at hy
 ·exact h.lt y hy
 ·rcases eO.1 hy with hy|hy
  ·exact h.lt y hy
  ·rw[ff.1 hy];exact hx⟩
theorem mO {M:List Nat} {x y:Nat}:y∈bQ M x↔y∈M∨y=x:=by
 unfold bQ;split
 ·exact ⟨.inl,fun h=>h.elim id fun e=>by rw[e];assumption⟩
 ·rw[eO,ff]
theorem ade {K:Nat} {M:List Nat} {x:Nat} (h:x∉M):(dS K M).set x (.bool true)=dS K (bQ M x):=by
 unfold dS;rw[iG];refine cG fun j _=> ?_;by_cases c:j=x
 ·rw[ak c,cW (mO.2 (.inr c))]
 ·rw[aj c];by_cases c2:j∈M
  ·rw[cW c2,cW (mO.2 (.inl c2))]
  ·rw[cO c2,cO fun h=>(mO.1 h).elim c2 c]
section
variable {K:Nat} {mul:Nat→Nat→Nat} (h:Tb K mul)
theorem nK:(tG K mul).length=K:=eC
theorem pk {i:Nat} (hi:i<K):idx (tG K mul) (i:Int)=some (.list ae (tab K fun j=>nV (mul i j))):=qg hi
include h
theorem aoB:CC Kl [.list ah (tG K mul)]=some [.int .i64 0]:=by
 have h1:=h.k1;have h4:=h.k4;refine aoh ?_;unfold ac2;rw[nK];refine bF (cO (by omega)) (bF (by simp;omega) (bs (dR K (fun i=>(i:Int)) (.inr ((K:Int),false)) (fun i hi=> ?_) ?_) rfl))
 ·simp only[T4,F5];refine bT (cd hi) (bs (pk hi) ?_);rw[V.eh,eC,nK];refine bF (by simp) (bs (dR K (fun j=>(j:Int)) (.inr ((K:Int),false)) (fun j hj=> ?_) ?_) ?_)
  ·simp only[TZ,F4];rw[nK];refine bT (cd hj) (bs (qg hj) (bF yo (bF (Fk (h.lt i j hi hj)) ?_)));rw[cm (by omega)]
  ·simp only[TZ,F4];rw[aV (az _)];rfl
  ·rw[cm (by omega)];rfl
 ·simp only[T4,F5];rw[aV (az _)];rfl
omit h in
theorem s6 {M:List Nat} {x:Nat} (hx:x<K):(dS K M)[x]? =some (.bool (decide (x∈M))):=lf hx
omit h in
theorem Ub {M:List Nat} (hM:eM K M) (h4:K≤400) {x:Nat} (hx:x<K):CC qc [.int .i64 (x:Int),.list ax (dS K M),.list ae (nS M)]=some [.list ax (dS K (bQ M x)),.list ae (nS (bQ M x))]:=by
 have hl:=hM.le;refine aoq ?_;unfold ac7;by_cases c:x∈M
 ·refine (cw (s6 hx)).trans (bF (by simp[c]) ?_)
  rw[show bQ M x=M by rw[bQ,ak c]]
 ·refine (cw (s6 hx)).trans (bT (by simp[c]) ((cw (s6 hx)).trans (bT (cap (by rw[cI];simp;omega) (by omega)) ?_)))
  rw[show aD (dS K M) (x:Int) (.bool true)=dS K (bQ M x) from ade c,show bQ M x=M++[x] by rw[bQ,aj c]];simp[nS,nV]
theorem aoC: ∃G:List Nat,CC Kn [.list ah (tG K mul)]=some [.list ae (nS G)]∧(∀g∈G,g<K)∧G.length≤K:=by
 have h1:=h.k1;have h4:=h.k4;have l1: ∀{M0:List Nat} {k x:Nat} {a b c:Int} {d:LV},eM K M0→k<M0.length→x<K→∃M,eM K M∧M0 <+: M∧Loop (Gb CC (tG K mul) a (x:Int) b c (((nS M0).drop 0).take ((((k+1:Nat):Int)).toNat-0)) ((((((k+1:Nat):Int)).toNat)-0:Int)) d) (0,dS K M0,nS M0)=some (((k+1:Nat):Int),false,dS K M,nS M):=by
  intro M0 k x a b c d rz hk hx;have hle:=rz.le;rw[Int.toNat_natCast,Nat.sub_zero,lq,Int.sub_zero,show (nS M0).take (k+1)=nS (M0.take (k+1)) by simp[nS,List.map_take]];have key:=sJ (step:=Gb CC (tG K mul) a (x:Int) b c (nS (M0.take (k+1))) ((k+1:Nat):Int) d) (fun i y=> ∃M,y=((i:Int),dS K M,nS M)∧eM K M∧M0 <+: M) (fun r=> ∃M,r=(((k+1:Nat):Int),false,dS K M,nS M)∧eM K M∧M0 <+: M) (k+1) 0 (0,dS K M0,nS M0) (fun i _ hi y hy=> ?_) (fun y hy=> ?_) ⟨M0,rfl,rz,nT _⟩
  ·obtain ⟨r,e,M,rfl,hM,hp⟩:=key;exact ⟨M,hM,hp,e⟩
  ·obtain ⟨M,rfl,hM,hp⟩:=hy;have ca:i<(M0.take (k+1)).length:=by rw[oM];omega
   have xD:(M0.take (k+1))[i]<K:=rz.lt _ (HO (cJ ca));have a1:=h.lt _ _ hx xD;have a2:=h.lt _ _ xD hx;simp only[Gb,Ga,un];refine ⟨_,bT (cd (by omega)) (bs (gb ca) (bs (pk hx) (bs (uQ xD) (bs (Ub hM h4 a1) (bs (pk xD) (bs (uQ hx) (bs (Ub (hM.add a1) h4 a2) rfl))))))),_,?_,(hM.add a1).add a2,hp.trans ((nw _ _).trans (nw _ _))⟩;rw[cm (by omega)];rfl
  ·obtain ⟨M,rfl,hM,hp⟩:=hy;simp only[Gb,Ga,un];refine ⟨_,bF (aV (by omega)) rfl,M,?_,hM,hp⟩;rw[aV (by omega),eQ]
 have l2: ∀{M0:List Nat} {k:Nat} {a b:Int} {d:LV},eM K M0→k≤M0.length→∃k' M,eM K M∧k'≤M.length∧M0 <+: M∧Loop (Mw CC (tG K mul) a b d) ((k:Int),dS K M0,nS M0)=some ((k':Int),false,dS K M,nS M):=by
  intro M0 k a b d rz hk;have key:=DO (step:=Mw CC (tG K mul) a b d) (fun y=> ∃(k:Nat) (M:List Nat),y=((k:Int),dS K M,nS M)∧eM K M∧k≤M.length∧M0 <+: M) (fun y=>1000-y.1.toNat) (fun r=> ∃(k:Nat) (M:List Nat),r=((k:Int),false,dS K M,nS M)∧eM K M∧k≤M.length∧M0 <+: M) (fun y hy=> ?_) ((k:Int),dS K M0,nS M0) ⟨k,M0,rfl,rz,hk,nT _⟩
  ·obtain ⟨r,e,k',M,rfl,hM,da,hp⟩:=key;exact ⟨k',M,hM,da,hp,e⟩
  ·obtain ⟨k,M,rfl,hM,hk,hp⟩:=hy;have hle:=hM.le;simp only[Mw,Mv,un,aq];rw[cI];by_cases c:k<M.length
   ·obtain ⟨M',Gd,hp',e⟩:=l1 (a:=(k:Int)) (b:=a) (c:=b) (d:=d) hM c (hM.lt _ (cJ c));refine .inl ⟨((k+1:Nat),dS K M',nS M'),bT (cd c) ?_,⟨k+1,M',rfl,Gd,by have:=hp'.length_le;omega,hp.trans hp'⟩,by simp only;omega⟩;refine ((congrArg (fun n:Nat=>bif decide (0≤(k:Int))&&decide ((k:Int)<(n:Int)) then _ else none) cI.symm)).trans ((cw (uJ c)).trans ?_)
    rw[cm (by omega)];exact bT (pI.2 ⟨cW (by omega),cW (by omega)⟩) (bs e rfl)
   ·refine .inr ⟨_,bF (aV (by omega)) rfl,k,M,?_,hM,hk,hp⟩;rw[aV (by omega)]
 have key:=sJ (step:=Mx CC (tG K mul) (K:Int)) (fun i y=> ∃(k:Nat) (G M:List Nat),y=((k:Int),(i:Int),nS G,dS K M,nS M)∧eM K M∧k≤M.length∧(∀g∈G,g<K)∧G.length≤i) (fun r=> ∃(k:Nat) (G M:List Nat),r=((k:Int),(K:Int),false,nS G,dS K M,nS M)∧(∀g∈G,g<K)∧G.length≤K) K 0 (0,0,[],dS K [],[]) (fun i _ hi y hy=> ?_) (fun y hy=> ?_) ⟨0,[],[],rfl,⟨by simp,fun x hx=>(by cases hx)⟩,az _,fun g hg=>(by cases hg),az _⟩
 ·obtain ⟨r,e,k,G,M,rfl,hG,Ge⟩:=key;refine ⟨G,aox ?_,hG,Ge⟩;unfold ac8;rw[nK];refine bT (ga (by omega) (by omega)) ?_;rw[Int.toNat_natCast,mM,show (tab K fun _=>V.bool false)=dS K [] from cG fun j _=>by simp];exact bs e rfl
 ·obtain ⟨k,G,M,rfl,hM,hk,hG,Ge⟩:=hy;have yF:i<K:=by omega
  simp only[Mx,Gc,un,aq];by_cases c:i∈M
  ·refine ⟨_,bT (cd yF) ((cw (s6 yF)).trans (bT (by simp[c]) rfl)),k,G,M,?_,hM,hk,hG,by omega⟩;rw[cm (by omega)]
  ·obtain ⟨k',M',Gd,da,_,e⟩:=l2 (k:=k) (a:=(K:Int)) (b:=(i:Int)) (d:=nS (G++[i])) (hM.add yF) (by have:=(nw M i).length_le;omega);have DN:nS G++[V.int .i64 (i:Int)]=nS (G++[i]):=by simp[nS,nV]
   refine ⟨((k':Int),((i+1:Nat):Int),nS (G++[i]),dS K M',nS M'),bT (cd yF) ((cw (s6 yF)).trans (bF (by simp[c]) (bT (cap (by rw[cI];simp;omega) (by omega)) (bs (Ub hM h4 yF) ?_)))),k',G++[i],M',rfl,Gd,da,fun g hg=> ?_,by simp;omega⟩
   ·rw[DN];refine bs e ?_;rw[cm (by omega)];rfl
   ·rcases eO.1 hg with hg|hg
    ·exact hG g hg
    ·rw[ff.1 hg];exact yF
 ·obtain ⟨k,G,M,rfl,hM,hk,hG,Ge⟩:=hy;rw[eQ] at*
  simp only[Mx,Gc,un,aq];refine ⟨_,bF (aV (az _)) rfl,k,G,M,?_,hG,Ge⟩;rw[aV (az _)]
omit h in
theorem adf {L:List Nat} (hl:L.length≤1000000) (hL: ∀x∈L,x<K):CC D2 [.list ah (tG K mul),.list ae (nS L)]=some [.bool true]:=by
 refine aop ?_;unfold ac6;rw[cI];refine bs (dR L.length (fun i=>(i:Int)) (.inr ((L.length:Int),false)) (fun i hi=> ?_) ?_) rfl
 ·simp only[T9,F9];rw[nK];refine bT (cd hi) (bs (gb hi) (bF yo (bF (Fk (hL _ (cJ hi))) ?_)));rw[cm (by omega)]
 ·simp only[T9,F9];rw[aV (az _)];rfl
section
variable (ha: ∀i j k,i<K→j<K→k<K→mul (mul i j) k=mul i (mul j k))
include ha
theorem aoD {G:List Nat} (hG: ∀g∈G,g<K) (hl:G.length≤K):CC Km [.list ah (tG K mul),.list ae (nS G)]=some [.bool true]:=by
 have h4:=h.k4;have l2: ∀{g:Nat} {a b:Int} {c d:LV},g<K→Loop (Ms CC (tG K mul) (g:Int) c a b (tG K mul) (K:Int) d) 0=some (.inr ((K:Int),false)):=by
  intro g a b c d hg;refine dR K (fun x=>(x:Int)) _ (fun x hx=> ?_) ?_
  ·have h1:=h.lt _ _ hx hg;simp only[Ms,F7];refine bT (cd hx) (bs (pk hx) (bs (uQ hg) (bs (pk h1) (bs (pk hg) ?_))));rw[V.eh,V.eh,V.eh,eC];refine bs (dR K (fun y=>(y:Int)) (.inr ((K:Int),false)) (fun y hy=> ?_) ?_) ?_
   ·simp only[T6,F6];refine bT (cd hy) (bs (qg hy) (bs (qg hy) (bs (qg (h.lt _ _ hg hy)) (bF ?_ ?_))))
    ·show (((mul (mul x g) y:Nat):Int) != ((mul x (mul g y):Nat):Int))=false;rw[ha _ _ _ hx hg hy];simp
    ·rw[cm (by omega)]
   ·simp only[T6,F6];rw[aV (az _)];rfl
   ·rw[cm (by omega)];rfl
  ·simp only[Ms,F7];rw[aV (az _)];rfl
 refine aom ?_;unfold ac4;rw[nK,cI];refine bT (ga (by omega) (by omega)) ?_;rw[Int.toNat_natCast];have key:=sJ (step:=Mt CC (tG K mul) (nS G) (G.length:Int)) (fun i y=> ∃b:LV,y=((i:Int),b)∧b.length=K∧∀v∈b,∃c,v= .bool c) (fun r=> ∃b:LV,r= .inr ((G.length:Int),false,b)) G.length 0 (0,List.replicate K (V.bool false)) (fun i _ hi y hy=> ?_) (fun y hy=> ?_) ⟨_,rfl,by simp,fun v hv=>⟨false,(List.mem_replicate.1 hv).2⟩⟩
 ·obtain ⟨r,e,b,rfl⟩:=key;exact bs e rfl
 ·obtain ⟨b,rfl,hb,hv⟩:=hy;have ca:i<G.length:=by omega
  have hg:=hG _ (cJ ca);have Uc:G[i]<b.length:=by omega
  obtain ⟨c,hc⟩:=hv _ (cJ Uc);simp only[Mt,F8,un];have e0:b[((nV G[i]).toInt).toNat]? =some (.bool c):=by
   show b[G[i]]? =_;rw[bR Uc,hc]
  have e1:((decide (0≤(nV G[i]).toInt))&&(decide ((nV G[i]).toInt<(b.length:Int))))=true:=nz Uc;cases c with
  | true=>
   refine ⟨_,bT (cd ca) (bs (gb ca) (bT e1 (bs e0 (bT rfl rfl)))),b,?_,hb,hv⟩;rw[cm (by omega)]
  | false=>
   refine ⟨(((i+1:Nat):Int),b.set G[i] (.bool true)),bT (cd ca) (bs (gb ca) (bT e1 (bs e0 (bF rfl (bT e1 (bs e0 ?_)))))),_,rfl,by simp[hb],fun v lD=> ?_⟩
   ·rw[nK];refine bs (l2 hg) ?_;rw[cm (by omega)];rfl
   ·rcases List.mem_or_eq_of_mem_set lD with lD|lD
    ·exact hv v lD
    ·exact ⟨true,lD⟩
 ·obtain ⟨b,rfl,hb,hv⟩:=hy;simp only[Mt,F8,un];refine ⟨_,bF (aV (by omega)) rfl,b,?_⟩;rw[aV (by omega),eQ]
theorem Bg:CC uv [.list ah (tG K mul)]=some [.int .i64 0]:=by
 obtain ⟨G,e,hG,hl⟩:=aoC h;refine aoy ?_;unfold ac9;exact bs (aoB h) (bF rfl (bs e (bs (aoD h ha hG hl) (bF rfl rfl))))
theorem aoE:CC Kk [.list ah (tG K mul)]=some [.bool true]:=by
 refine aoz ?_;unfold ada;exact bs (Bg h ha) rfl
theorem aoF {L:List Nat} (hl:L.length≤1000000) (hL: ∀x∈L,x<K):CC J9 [.list ah (tG K mul),.list ae (nS L)]=some [.bool true]:=by
 refine aoA ?_;unfold adb;exact bs (adf hl hL) (bT rfl (bs (aoE h ha) rfl))
end
end
noncomputable def adg (C:af) (t:LV):Option LV:=
 bif (decide (0≤(t.length:Int)))&&((decide ((t.length:Int)≤(t.length:Int)))&&(Nat.ble (((t.length:Int).toNat)*1) bm)) then
  some [.list ah t,.list ae ([]:LV),.list ax (List.replicate ((t.length:Int).toNat) (V.bool false)),.list ae ([]:LV)]
 else none
theorem aoG {t:LV} {r:Option LV} (h:adg CC t=r):CC Ka [.list ah t]=r:=bz (L:=bA) au h
noncomputable def adh (C:af) (x:Int) (cs aP aH aI:LV):Option LV:=
 aq aH x fun x1=>
 bif !x1.toBool then
  aq aH x fun x2=>
  bif Nat.ble ((aI.length+([V.int .i64 x]:LV).length)*8) bm then
  some [.list ah cs,.list ae aP,.list ax (aD aH x (.bool true)),.list ae (aI++([V.int .i64 x]:LV))]
  else none
 else
  some [.list ah cs,.list ae aP,.list ax aH,.list ae aI]
theorem aoH {x:Int} {cs aP aH aI:LV} {r:Option LV} (h:adh CC x cs aP aH aI=r):CC Ao [V.int .i64 x,.list ah cs,.list ae aP,.list ax aH,.list ae aI]=r:=bz (L:=bA) au h
noncomputable def Gf (C:af) (g before i t67 t68:Int) (cs Gg bp aS:LV) {β:Type} (kn:(Int×LV×LV×LV×LV)→Option β) (kr:(Int×Bool×LV×LV×LV×LV)→Option β):Option β:=
 bif decide (t68<t67) then
  aq Gg t68 fun x7=>
  aq aS i fun x8=>
  (idx cs x8.toInt).bind fun x9=>
  (idx x9.toList x7.toInt).bind fun lX=>
  (C Ao [V.int .i64 lX.toInt,.list ah cs,.list ae Gg,.list ax bp,.list ae aS]).bind fun dt=>
  kn (wrap .i64 (t68+1),(V.nth dt 0).toList,(V.nth (dt.drop 1) 0).toList,(V.nth ((dt.drop 1).drop 1) 0).toList,(V.nth (((dt.drop 1).drop 1).drop 1) 0).toList)
 else
  kr (t68,decide (t68<t67),cs,Gg,bp,aS)
noncomputable def Gh (C:af) (g before i t67:Int):=un fun t68=>un fun cs=>un fun Gg=>un fun bp aS=>Gf C g before i t67 t68 cs Gg bp aS (fun y=>some (Sum.inl y)) (fun r=>some (Sum.inr r))
noncomputable def My (C:af) (g before i:Int) (cs bh bp aS:LV) {β:Type} (kn:(Int×LV×LV×LV×LV)→Option β) (kr:(Int×Bool×LV×LV×LV×LV)→Option β):Option β:=
 bif decide (i<(aS.length:Int)) then
  bif decide (i<before) then
  aq aS i fun x3=>
  (idx cs x3.toInt).bind fun x4=>
  (idx x4.toList g).bind fun x5=>
  (C Ao [V.int .i64 x5.toInt,.list ah cs,.list ae bh,.list ax bp,.list ae aS]).bind fun r6=>
  kn (wrap .i64 (i+1),(V.nth r6 0).toList,(V.nth (r6.drop 1) 0).toList,(V.nth ((r6.drop 1).drop 1) 0).toList,(V.nth (((r6.drop 1).drop 1).drop 1) 0).toList)
  else
  (Loop (Gh C g before i (bh.length:Int)) (0,cs,bh,bp,aS)).bind (un fun sY=>un fun (yC:Bool)=>un fun (aoI:LV)=>un fun (aoJ:LV)=>un fun (yw:LV) (j4:LV)=>
   kn (wrap .i64 (i+1),aoI,aoJ,yw,j4))
 else
  kr (i,decide (i<(aS.length:Int)),cs,bh,bp,aS)
noncomputable def Ud (C:af) (g before:Int):=un fun i=>un fun cs=>un fun bh=>un fun bp aS=>My C g before i cs bh bp aS (fun y=>some (Sum.inl y)) (fun r=>some (Sum.inr r))
noncomputable def adi (C:af):cx:=br 161 Ro [EQ,EQ,EQ,EQ,H1,H1,H1,H1,H1] [[1,2,3,4,0,0,0,0,0,0]] (@Gf C) (br 81 Rp [EQ,EQ,H1,H1,H1,H1,H1] [[1,2,0,0,0,0,0,0]] (@My C) bA)
theorem aoK (C:af):aZ C (adi C) 31 (Lp [1,1,1,1,1,0,0,1,0,0,1,1,0,0] 31):=bq Ro [EQ,EQ,EQ,EQ,H1,H1,H1,H1,H1] [[1,2,3,4,0,0,0,0,0,0]] (@Gf C) (aR au)
theorem aoL (C:af):aZ C (adi C) 31 (Lp [1,1,1,1,1,0,0] 31):=bq Rp [EQ,EQ,H1,H1,H1,H1,H1] [[1,2,0,0,0,0,0,0]] (@My C) (aR (aY (aoK C) au))
noncomputable def Mz (C:af) (g:Int) (cs aP aH aI:LV):Option LV:=
 aq aH g fun x1=>
 bif x1.toBool then
  some [.list ah cs,.list ae aP,.list ax aH,.list ae aI]
 else
  bif Nat.ble ((aP.length+([V.int .i64 g]:LV).length)*8) bm then
  (C Ao [V.int .i64 g,.list ah cs,.list ae (aP++([V.int .i64 g]:LV)),.list ax aH,.list ae aI]).bind fun r2=>
  (Loop (Ud C g (aI.length:Int)) (0,(V.nth r2 0).toList,(V.nth (r2.drop 1) 0).toList,(V.nth ((r2.drop 1).drop 1) 0).toList,(V.nth (((r2.drop 1).drop 1).drop 1) 0).toList)).bind (un fun atY=>un fun (aol:Bool)=>un fun (aoM:LV)=>un fun (yp:LV)=>un fun (yq:LV) (sL:LV)=>
   some [.list ah aoM,.list ae yp,.list ax yq,.list ae sL])
  else none
theorem aoN {g:Int} {cs aP aH aI:LV} {r:Option LV} (h:Mz CC g cs aP aH aI=r):CC D0 [V.int .i64 g,.list ah cs,.list ae aP,.list ax aH,.list ae aI]=r:=bz (aY (aoL CC) au) h
inductive kq (mul:Nat→Nat→Nat) (G:List Nat):Nat→Prop
 | one {g:Nat}:g∈G→kq mul G g
 | more {x g:Nat}:kq mul G x→g∈G→kq mul G (mul x g)
theorem kq.mono {mul:Nat→Nat→Nat} {G H:List Nat} (h: ∀g∈G,g∈H) {x:Nat} (hx:kq mul G x):kq mul H x:=by
 induction hx with
 | one hg=>exact .one (h _ hg)
 | more _ hg ih=>exact .more ih (h _ hg)
structure Gi (K:Nat) (mul:Nat→Nat→Nat) (G M:List Nat):Prop where
 gd:eM K M
 sub: ∀g∈G,g∈M
 pr: ∀x∈M,kq mul G x
 cl: ∀x∈M,∀g∈G,mul x g∈M
 gl:G.length≤M.length
def wA (K:Nat) (mul:Nat→Nat→Nat) (G M:List Nat):List V:=[.list ah (tG K mul),.list ae (nS G),.list ax (dS K M),.list ae (nS M)]
section
variable {K:Nat} {mul:Nat→Nat→Nat} (h:Tb K mul)
theorem Ue {G M:List Nat} (hM:eM K M) (h4:K≤400) {x:Nat} (hx:x<K):CC Ao (.int .i64 (x:Int)::wA K mul G M)=some (wA K mul G (bQ M x)):=by
 have hl:=hM.le;refine aoH ?_;unfold adh;by_cases c:x∈M
 ·refine (cw (s6 hx)).trans (bF (by simp[c]) ?_)
  rw[show bQ M x=M by rw[bQ,ak c]];rfl
 ·refine (cw (s6 hx)).trans (bT (by simp[c]) ((cw (s6 hx)).trans (bT (cap (by rw[cI];simp;omega) (by omega)) ?_)))
  rw[show aD (dS K M) (x:Int) (.bool true)=dS K (bQ M x) from ade c,show bQ M x=M++[x] by rw[bQ,aj c]];simp[nS,nV,wA]
include h
theorem aoO {G M0:List Nat} (hG: ∀g∈G,g<K) (Ge:G.length≤401) (rz:eM K M0) {i:Nat} (hi:i<M0.length) {a b:Int}: ∃M,Loop (Gh CC a b (i:Int) (G.length:Int)) (0,tG K mul,nS G,dS K M0,nS M0)=some ((G.length:Int),false,tG K mul,nS G,dS K M,nS M)∧eM K M∧M0 <+: M∧(∀g∈G,mul M0[i] g∈M)∧∀y∈M,y∈M0∨∃g∈G,y=mul M0[i] g:=by
 have h4:=h.k4;have key:=sJ (step:=Gh CC a b (i:Int) (G.length:Int)) (fun k y=> ∃M,y=((k:Int),tG K mul,nS G,dS K M,nS M)∧eM K M∧M0 <+: M∧(∀j,j<k→mul M0[i] (G.getD j 0)∈M)∧∀y∈M,y∈M0∨∃g∈G,y=mul M0[i] g) (fun r=> ∃M,r=((G.length:Int),false,tG K mul,nS G,dS K M,nS M)∧eM K M∧M0 <+: M∧(∀j,j<G.length→mul M0[i] (G.getD j 0)∈M)∧∀y∈M,y∈M0∨∃g∈G,y=mul M0[i] g) G.length 0 (0,tG K mul,nS G,dS K M0,nS M0) (fun k _ hk y hy=> ?_) (fun y hy=> ?_) ⟨M0,rfl,rz,nT _,fun j hj=>(by omega),fun y hy=> .inl hy⟩
 ·obtain ⟨r,e,M,rfl,h1,h2,h3,h5⟩:=key;refine ⟨M,e,h1,h2,fun g hg=> ?_,h5⟩;obtain ⟨j,hj,rfl⟩:=qx hg;have:=h3 j hj;rwa [bC hj] at this
 ·obtain ⟨M,rfl,h1,h2,h3,h5⟩:=hy;have da:k<G.length:=by omega
  have hg:=hG _ (cJ da);have hiM:i<M.length:=ll hi h2.length_le;have Uf:M[i]=M0[i]:=(h2.getElem hi).symm;have hx:=rz.lt _ (cJ hi);have hm:=h.lt _ _ hx hg;simp only[Gh,Gf,un,aq];refine ⟨_,bT (cd da) ((cw (uJ da)).trans ((cw (uJ hiM)).trans (bs (show idx (tG K mul) ((nV M[i]).toInt)=some (.list ae (tab K fun j=>nV (mul M0[i] j))) by rw[Uf];exact pk hx) (bs (uQ hg) (bs (Ue h1 h4 hm) rfl))))),bQ M (mul M0[i] G[k]),?_,h1.add hm,h2.trans (nw _ _),fun j hj=> ?_,fun y hy=> ?_⟩
  ·rw[cm (by omega)];rfl
  ·rcases gr j k with c|c
   ·exact mO.2 (.inl (h3 j c))
   ·obtain rfl:j=k:=by omega
    rw[bC da];exact mO.2 (.inr rfl)
  ·rcases mO.1 hy with hy|rfl
   ·exact h5 y hy
   ·exact .inr ⟨_,cJ da,rfl⟩
 ·obtain ⟨M,rfl,h1,h2,h3,h5⟩:=hy;rw[eQ] at*
  simp only[Gh,Gf,un];refine ⟨_,bF (aV (az _)) rfl,M,?_,h1,h2,h3,h5⟩;rw[aV (az _)]
theorem aoP {G M:List Nat} (hI:Gi K mul G M) {g:Nat} (hg:g<K): ∃G' M',CC D0 (.int .i64 (g:Int)::wA K mul G M)=some (wA K mul G' M')∧Gi K mul G' M'∧(∀x∈M,x∈M')∧g∈M'∧∀x∈G',x∈G∨x=g:=by
 have h4:=h.k4;have fin: ∀z,Mz CC (g:Int) (tG K mul) (nS G) (dS K M) (nS M)=z→CC D0 (.int .i64 (g:Int)::wA K mul G M)=z:=fun z h=>aoN h;have hle:=hI.gd.le;have YG:=hI.gl;by_cases c:g∈M
 ·refine ⟨G,M,fin _ ?_,hI,fun x hx=>hx,c,fun x hx=> .inl hx⟩;unfold Mz;exact (cw (s6 hg)).trans (bT (by simp[c]) rfl)
 ·have DN:nS G++[V.int .i64 (g:Int)]=nS (G++[g]):=by simp[nS,nV]
  have Ug:=hI.gd.add hg;have FE:bQ M g=M++[g]:=by rw[bQ,aj c]
  have hGK: ∀x∈G++[g],x<K:=fun x hx=>by
   rcases eO.1 hx with hx|hx
   ·exact hI.gd.lt _ (hI.sub x hx)
   ·rw[ff.1 hx];exact hg
  have hpr: ∀x∈bQ M g,kq mul (G++[g]) x:=fun x hx=>by
   rcases mO.1 hx with hx|rfl
   ·exact (hI.pr x hx).mono fun y hy=>List.mem_append_left _ hy
   ·exact .one (by simp)
  have key:=DO (step:=Ud CC (g:Int) (M.length:Int)) (fun y=> ∃(i:Nat) (M':List Nat),y=((i:Int),tG K mul,nS (G++[g]),dS K M',nS M')∧eM K M'∧bQ M g <+: M'∧i≤M'.length∧(∀x∈M',kq mul (G++[g]) x)∧∀j,j<i→∀x∈G++[g],mul (M'.getD j 0) x∈M')
   (fun y=>1000-y.1.toNat) (fun r=> ∃(i:Nat) (M':List Nat),r=((i:Int),false,tG K mul,nS (G++[g]),dS K M',nS M')∧eM K M'∧bQ M g <+: M'∧(∀x∈M',kq mul (G++[g]) x)∧∀x∈M',∀y∈G++[g],mul x y∈M')
   (fun y hy=> ?_) (0,tG K mul,nS (G++[g]),dS K (bQ M g),nS (bQ M g)) ⟨0,_,rfl,Ug,nT _,kK _,hpr,fun j hj=>(by omega)⟩
  ·obtain ⟨r,e,i,M',rfl,h1,h2,h3,h5⟩:=key;refine ⟨G++[g],M',fin _ ?_,⟨h1,fun x hx=> ?_,h3,h5,?_⟩,fun x hx=>h2.subset (mO.2 (.inl hx)),h2.subset (mO.2 (.inr rfl)),fun x hx=> ?_⟩
   ·unfold Mz;refine (cw (s6 hg)).trans (bF (by simp[c]) (bT (cap (by rw[cI];simp;omega) (by omega)) ?_))
    rw[DN];refine bs (Ue hI.gd h4 hg) ?_;rw[cI];exact bs e rfl
   ·rcases eO.1 hx with hx|hx
    ·exact h2.subset (mO.2 (.inl (hI.sub x hx)))
    ·rw[ff.1 hx];exact h2.subset (mO.2 (.inr rfl))
   ·have:=h2.length_le;rw[FE] at this;simp at this⊢;omega
   ·rcases eO.1 hx with hx|hx
    ·exact .inl hx
    ·exact .inr (ff.1 hx)
  ·obtain ⟨i,M',rfl,h1,h2,hi,h3,h5⟩:=hy;have atZ:=h1.le;simp only[Ud,My,un,aq];by_cases ju:i<M'.length
   ·have hxK:=h1.lt _ (cJ ju);by_cases hb:i<M.length
    ·have Uf:M'[i]=M[i]:=by
      have:=h2.getElem (i:=i) (by rw[FE];simp;omega);rw[←this];simp only[FE];exact List.getElem_append_left hb
     have hm:=h.lt _ _ hxK hg;refine .inl ⟨(((i+1:Nat):Int),tG K mul,nS (G++[g]),dS K (bQ M' (mul M'[i] g)),nS (bQ M' (mul M'[i] g))),bT (by rw[cI];exact cd ju) (bT (cd hb) ((cw (uJ ju)).trans (bs (pk hxK) (bs (uQ hg) (bs (Ue h1 h4 hm) ?_))))),⟨i+1,bQ M' (mul M'[i] g),rfl,h1.add hm,h2.trans (nw _ _),by have:=(nw M' (mul M'[i] g)).length_le;omega,fun x hx=> ?_,fun j hj x hx=> ?_⟩,?_⟩
     ·rw[cm (by omega)];rfl
     ·rcases mO.1 hx with hx|rfl
      ·exact h3 x hx
      ·exact .more (h3 _ (cJ ju)) (by simp)
     ·have yG:j<M'.length:=by omega
      have ej:(bQ M' (mul M'[i] g)).getD j 0=M'[j]:=by
       rw[bC (ll yG (nw _ _).length_le)];exact ((nw M' (mul M'[i] g)).getElem yG).symm
      rw[ej];rcases gr j i with cj|cj
      ·have:=h5 j cj x hx;rw[bC yG] at this;exact mO.2 (.inl this)
      ·obtain rfl:j=i:=by omega
       rcases eO.1 hx with hx|hx
       ·have:=hI.cl _ (cJ hb) x hx;rw[←Uf] at this;exact mO.2 (.inl (h2.subset (mO.2 (.inl this))))
       ·rw[ff.1 hx];exact mO.2 (.inr rfl)
     ·show 1000-(((i+1:Nat):Int)).toNat<1000-((i:Int)).toNat
      omega
    ·obtain ⟨M2,e,k1,k2,k3,k4⟩:=aoO h hGK (by simp;omega) h1 ju (a:=(g:Int)) (b:=(M.length:Int));refine .inl ⟨(((i+1:Nat):Int),tG K mul,nS (G++[g]),dS K M2,nS M2),bT (by rw[cI];exact cd ju) (bF (aV (by omega)) ?_),⟨i+1,M2,rfl,k1,h2.trans k2,by have:=k2.length_le;omega,fun x hx=> ?_,fun j hj x hx=> ?_⟩,?_⟩
     ·rw[cI];refine bs e ?_;rw[cm (by omega)];rfl
     ·rcases k4 x hx with hx|⟨y,hy,rfl⟩
      ·exact h3 x hx
      ·exact .more (h3 _ (cJ ju)) hy
     ·have yG:j<M'.length:=by omega
      have ej:M2.getD j 0=M'[j]:=by
       rw[bC (ll yG k2.length_le)];exact (k2.getElem yG).symm
      rw[ej];rcases gr j i with cj|cj
      ·have:=h5 j cj x hx;rw[bC yG] at this;exact k2.subset this
      ·obtain rfl:j=i:=by omega
       exact k3 x hx
     ·show 1000-(((i+1:Nat):Int)).toNat<1000-((i:Int)).toNat
      omega
   ·refine .inr ⟨_,bF (by rw[cI];exact aV (by omega)) rfl,i,M',?_,h1,h2,h3,fun x hx y hy=> ?_⟩
    ·rw[cI,aV (by omega)]
    ·obtain ⟨j,hj,rfl⟩:=qx hx;have:=h5 j (by omega) y hy;rwa [bC hj] at this
end
end Go.AM
set_option maxRecDepth 100000
namespace Go.AM
open Go.IntKind (wrap)
open Go.Proofs Go.Sort
section
variable {α:Type} {enc:α→V}
def s7 (enc:α→V) (d:Array α):List V:=d.toList.map enc
theorem iJ (d:Array α):(s7 enc d).length=d.size:=by simp[s7]
theorem iu (d:Array α) (i:Nat) (x:α):(s7 enc d).set i (enc x)=s7 enc (d.setIfInBounds i x):=by
 unfold s7;rw[Array.toList_setIfInBounds,List.map_set]
variable [Inhabited α]
theorem iK {d:Array α} {i:Nat} (h:i<d.size):(s7 enc d)[i]? =some (enc d[i]!):=by
 unfold s7;rw[jh,pE,kJ h,getElem!_pos d i h];rfl
theorem j5 {d:Array α} {i j:Nat} {x:α} (h:i<d.size):(s7 enc (d.setIfInBounds j x))[i]? =some (enc (d.setIfInBounds j x)[i]!):=iK (by rw[jk];exact h)
theorem iv (a b:Nat):(a:Int)+(b:Int)=((a+b:Nat):Int):=(Int.natCast_add a b).symm
theorem eN (a:Nat):(a:Int)+1=((a+1:Nat):Int):=rfl
theorem yH (a:Nat):((a+1:Nat):Int)-1=(a:Int):=by omega
theorem Gj (a:Nat):(a:Int)*2=((a*2:Nat):Int):=by omega
theorem pn {a b:Nat} (h:b≤a):(a:Int)-(b:Int)=((a-b:Nat):Int):=by omega
theorem mP {a:Nat} (h:1≤a):(a:Int)-1=((a-1:Nat):Int):=by omega
theorem divC (a b:Nat):Int.tdiv (a:Int) (b:Int)=((a/b:Nat):Int):=by rw[Int.tdiv_eq_ediv_of_nonneg (by omega)];rfl
theorem qj {p:Prop} [Decidable p] (h:p):decide p=true:=cW h
theorem wB {p:Prop} [Decidable p] (h: ¬p):decide p=false:=cO h
theorem Bh (p:α→Bool) (d:Array α) (j i:Nat):scanUp p d j i=if i≤j then (if p d[i]! =true then scanUp p d j (i+1) else i) else i:=by
 conv=>lhs;rw[scanUp]
 by_cases h:i≤j
 ·rw[ak h];simp only[h,y6,B5]
 ·rw[aj h,aj (by simp[h])]
theorem Uh (p:α→Bool) (d:Array α) (i j:Nat):scanDown p d i (j+1)=if i≤j+1 then (if p d[j+1]! =true then scanDown p d i j else j+1) else j+1:=by
 conv=>lhs;rw[scanDown]
 by_cases h:i≤j+1
 ·rw[ak h];simp only[h,y6,B5]
 ·rw[aj h,aj (by simp[h])]
variable {lt:α→α→Bool}
theorem adj (a j:Nat) (d:Array α):insInner lt a (j+1) d=if j+1>a&&lt d[j+1]! d[j]! then insInner lt a j (swp d (j+1) j) else d:=rfl
theorem Ui {a:Nat}: ∀(j:Nat) (d:Array α),(insInner lt a j d).size=d.size
 | 0,d=>rfl
 | j+1,d=>by
  rw[adj];split
  ·rw[Ui j,size_swp]
  ·rfl
theorem Gk (hi first:Nat): ∀(n root:Nat) (d:Array α),hi-root≤n→(siftDown lt hi first root d).size=d.size:=by
 intro n
 induction n with
 | zero=>intro root d h;rw[siftDown,pC (by omega)]
 | succ n ih=>
  intro root d h;rw[siftDown];split
  ·rfl
  ·split
   ·split
    ·rfl
    ·split
     ·rw[ih _ _ (by omega),size_swp]
     ·rfl
   ·split
    ·rfl
    ·rw[ih _ _ (by omega),size_swp]
theorem Uj (hi first:Nat): ∀(k:Nat) (d:Array α),(heapBuild lt hi first k d).size=d.size
 | 0,d=>rfl
 | k+1,d=>by rw[heapBuild,Uj,Gk _ _ _ _ _ (az _)]
end
end Go.AM
set_option maxRecDepth 100000
namespace Go.AM
open Go.IntKind (wrap)
open Go.Proofs
noncomputable def adk (C:af) (x:Int):Option LV:=
 some [.bool (x != x)]
theorem aoQ {x:Int} {r:Option LV} (h:adk CC x=r):CC Eh [V.int .i64 x]=r:=bz (L:=bA) au h
noncomputable def adl (C:af) (x y:Int):Option LV:=
 (C Eh [V.int .i64 x]).bind fun r1=>
 bif (V.nth r1 0).toBool then
  (C Eh [V.int .i64 y]).bind fun r2=>
  bif !((V.nth r2 0).toBool) then
  some [.bool true]
  else
  some [.bool (decide (x<y))]
 else
  some [.bool (decide (x<y))]
theorem aoR {x y:Int} {r:Option LV} (h:adl CC x y=r):CC jy [V.int .i64 x,V.int .i64 y]=r:=bz (L:=bA) au h
noncomputable def Bi (C:af) (a b' i j:Int) (an:LV) {β:Type} (kn:(Int×LV)→Option β) (kr:(Int×Bool×LV)→Option β):Option β:=
 bif decide (j>a) then
  aq an j fun x1=>
  aq an (wrap .i64 (j-1)) fun x2=>
  (C jy [V.int .i64 x1.toInt,V.int .i64 x2.toInt]).bind fun r3=>
  bif (V.nth r3 0).toBool then
  aq an (wrap .i64 (j-1)) fun x4=>
  aq an j fun x5=>
  aq an j fun x6=>
  aq (aD an j (V.int .i64 x4.toInt)) (wrap .i64 (j-1)) fun x7=>
  kn (wrap .i64 (j-1),aD (aD an j (V.int .i64 x4.toInt)) (wrap .i64 (j-1)) (V.int .i64 x5.toInt))
  else
  kr (j,(V.nth r3 0).toBool,an)
 else
  kr (j,false,an)
noncomputable def Bj (C:af) (a b' i:Int):=un fun j an=>Bi C a b' i j an (fun y=>some (Sum.inl y)) (fun r=>some (Sum.inr r))
noncomputable def Gl (C:af) (a b' i:Int) (an:LV) {β:Type} (kn:(Int×LV)→Option β) (kr:(Int×Bool×LV)→Option β):Option β:=
 bif decide (i<b') then
  (Loop (Bj C a b' i) (i,an)).bind (un fun j_8=>un fun (mL:Bool) (rA:LV)=>
   kn (wrap .i64 (i+1),rA))
 else
  kr (i,decide (i<b'),an)
noncomputable def MA (C:af) (a b':Int):=un fun i an=>Gl C a b' i an (fun y=>some (Sum.inl y)) (fun r=>some (Sum.inr r))
noncomputable def adm (C:af):cx:=br 65 R7 [EQ,EQ,EQ,H1,H1] [[1,2,3,0,0,0]] (@Bi C) (br 17 R8 [EQ,EQ,H1,H1] [[1,2,0,0,0]] (@Gl C) bA)
theorem aoS (C:af):aZ C (adm C) 88 (Lp [1,0,0,1,0,0,1,0,0] 88):=bq R7 [EQ,EQ,EQ,H1,H1] [[1,2,3,0,0,0]] (@Bi C) (aR au)
theorem aoT (C:af):aZ C (adm C) 88 (Lp [1,0,0] 88):=bq R8 [EQ,EQ,H1,H1] [[1,2,0,0,0]] (@Gl C) (aR (aY (aoS C) au))
noncomputable def adn (C:af) (a b':Int) (an:LV):Option LV:=
 (Loop (MA C a b') (wrap .i64 (a+1),an)).bind (un fun at1=>un fun (sY:Bool) (Uk:LV)=>
  some [.list ae Uk])
theorem aoU {a b':Int} {an:LV} {r:Option LV} (h:adn CC a b' an=r):CC D9 [V.int .i64 a,V.int .i64 b',.list ae an]=r:=bz (aY (aoT CC) au) h
noncomputable def yI (C:af) (hi first root child:Int) (t36:Bool) (an:LV) {β:Type} (kr:(Int)→Option β):Option β:=
 bif t36 then
  kr (wrap .i64 (child+1))
 else
  kr child
noncomputable def wC (C:af) (hi first root:Int) (an:LV) {β:Type} (kn:(Int×LV)→Option β) (kr:((Int×Int×Bool×LV) ⊕ (Int×Int×Bool×LV))→Option β):Option β:=
 bif decide (((wrap .i64 ((wrap .i64 (root*2))+1)):Int)≥hi) then
  kr (.inl (root,wrap .i64 ((wrap .i64 (root*2))+1),decide (((wrap .i64 ((wrap .i64 (root*2))+1)):Int)≥hi),an))
 else
  bif decide (((wrap .i64 ((wrap .i64 ((wrap .i64 (root*2))+1))+1)):Int)<hi) then
  aq an (wrap .i64 (first+(wrap .i64 ((wrap .i64 (root*2))+1)))) fun x1=>
  aq an (wrap .i64 ((wrap .i64 (first+(wrap .i64 ((wrap .i64 (root*2))+1))))+1)) fun x2=>
  (C jy [V.int .i64 x1.toInt,V.int .i64 x2.toInt]).bind fun r3=>
  yI C hi first root (wrap .i64 ((wrap .i64 (root*2))+1)) ((V.nth r3 0).toBool) an (fun Bk=>
   aq an (wrap .i64 (first+root)) fun x5=>
   aq an (wrap .i64 (first+Bk)) fun x6=>
   (C jy [V.int .i64 x5.toInt,V.int .i64 x6.toInt]).bind fun r7=>
   bif !((V.nth r7 0).toBool) then
    kr (.inr (root,Bk,!((V.nth r7 0).toBool),an))
   else
    aq an (wrap .i64 (first+Bk)) fun x8=>
    aq an (wrap .i64 (first+root)) fun x9=>
    aq an (wrap .i64 (first+root)) fun lX=>
    aq (aD an (wrap .i64 (first+root)) (V.int .i64 x8.toInt)) (wrap .i64 (first+Bk)) fun nG=>
    kn (Bk,aD (aD an (wrap .i64 (first+root)) (V.int .i64 x8.toInt)) (wrap .i64 (first+Bk)) (V.int .i64 x9.toInt)))
  else
  yI C hi first root (wrap .i64 ((wrap .i64 (root*2))+1)) false an (fun Bl=>
   aq an (wrap .i64 (first+root)) fun uR=>
   aq an (wrap .i64 (first+Bl)) fun Bm=>
   (C jy [V.int .i64 uR.toInt,V.int .i64 Bm.toInt]).bind fun rl=>
   bif !((V.nth rl 0).toBool) then
    kr (.inr (root,Bl,!((V.nth rl 0).toBool),an))
   else
    aq an (wrap .i64 (first+Bl)) fun qk=>
    aq an (wrap .i64 (first+root)) fun rv=>
    aq an (wrap .i64 (first+root)) fun sU=>
    aq (aD an (wrap .i64 (first+root)) (V.int .i64 qk.toInt)) (wrap .i64 (first+Bl)) fun oJ=>
    kn (Bl,aD (aD an (wrap .i64 (first+root)) (V.int .i64 qk.toInt)) (wrap .i64 (first+Bl)) (V.int .i64 rv.toInt)))
noncomputable def rB (C:af) (hi first:Int):=un fun root an=>wC C hi first root an (fun y=>some (Sum.inl y)) (fun r=>some (Sum.inr r))
noncomputable def ado (C:af):cx:=o9 591 SF [[1,2,3,0,6]] (@yI C) (br 17 SH [EQ,EQ,H1,H1] [[1,2,0,0,0,0],[1,2,0,0,0,0]] (@wC C) bA)
theorem aoV (C:af):aZ C (ado C) 127 (Cd 36 [1,0,0,0,1,1,0,1,0] [1,0,0,0,1,1,0,1,1] 127):=o8 SF [[1,2,3,0,6]] (@yI C) (aR au) (aR au)
theorem aoW (C:af):aZ C (ado C) 127 (Lp [1,0,0] 127):=bq SH [EQ,EQ,H1,H1] [[1,2,0,0,0,0],[1,2,0,0,0,0]] (@wC C) (aR (aY (aoV C) au))
noncomputable def adp (C:af) (lo hi first:Int) (an:LV):Option LV:=
 (Loop (rB C hi first) (lo,an)).bind (cM (un fun at2=>un fun at3=>un fun (anS:Bool) (aoX:LV)=>
  some [.list ae aoX]) (un fun at4=>un fun at5=>un fun (aoY:Bool) (yJ:LV)=>
  some [.list ae yJ]))
theorem aoZ {lo hi first:Int} {an:LV} {r:Option LV} (h:adp CC lo hi first an=r):CC Ef [V.int .i64 lo,V.int .i64 hi,V.int .i64 first,.list ae an]=r:=bz (aY (aoW CC) au) h
noncomputable def Gm (C:af) (first lo hi i:Int) (an:LV) {β:Type} (kn:(Int×LV)→Option β) (kr:(Int×Bool×LV)→Option β):Option β:=
 bif decide (i≥0) then
  (C Ef [V.int .i64 i,V.int .i64 hi,V.int .i64 first,.list ae an]).bind fun r1=>
  kn (wrap .i64 (i-1),(V.nth r1 0).toList)
 else
  kr (i,decide (i≥0),an)
noncomputable def MB (C:af) (first lo hi:Int):=un fun i an=>Gm C first lo hi i an (fun y=>some (Sum.inl y)) (fun r=>some (Sum.inr r))
noncomputable def Gn (C:af) (first lo i:Int) (an:LV) {β:Type} (kn:(Int×LV)→Option β) (kr:(Int×Bool×LV)→Option β):Option β:=
 bif decide (i≥0) then
  aq an (wrap .i64 (first+i)) fun x5=>
  aq an first fun x6=>
  aq an first fun x7=>
  aq (aD an first (V.int .i64 x5.toInt)) (wrap .i64 (first+i)) fun x8=>
  (C Ef [V.int .i64 lo,V.int .i64 i,V.int .i64 first,.list ae (aD (aD an first (V.int .i64 x5.toInt)) (wrap .i64 (first+i)) (V.int .i64 x6.toInt))]).bind fun r9=>
  kn (wrap .i64 (i-1),(V.nth r9 0).toList)
 else
  kr (i,decide (i≥0),an)
noncomputable def MC (C:af) (first lo:Int):=un fun i an=>Gn C first lo i an (fun y=>some (Sum.inl y)) (fun r=>some (Sum.inr r))
noncomputable def adq (C:af):cx:=br 65 R9 [EQ,EQ,EQ,H1,H1] [[1,2,3,0,0,0]] (@Gm C) (br 129 Sa [EQ,EQ,H1,H1] [[1,2,0,0,0]] (@Gn C) bA)
theorem ao0 (C:af):aZ C (adq C) 89 (Lp [1,1,1,0,1,0,0] 89):=bq R9 [EQ,EQ,EQ,H1,H1] [[1,2,3,0,0,0]] (@Gm C) (aR au)
theorem ao1 (C:af):aZ C (adq C) 89 (Lp [1,1,1,1,1,0,0] 89):=bq Sa [EQ,EQ,H1,H1] [[1,2,0,0,0]] (@Gn C) (aR au)
noncomputable def adr (C:af) (a b':Int) (an:LV):Option LV:=
 (Loop (MB C a 0 (wrap .i64 (b'-a))) (wrap .i64 (Int.tdiv (wrap .i64 ((wrap .i64 (b'-a))-1)) 2),an)).bind (un fun i_2=>un fun (jB:Bool) (ao2:LV)=>
  (Loop (MC C a 0) (wrap .i64 ((wrap .i64 (b'-a))-1),ao2)).bind (un fun at6=>un fun (wz:Bool) (rC:LV)=>
   some [.list ae rC]))
theorem ao3 {a b':Int} {an:LV} {r:Option LV} (h:adr CC a b' an=r):CC Ea [V.int .i64 a,V.int .i64 b',.list ae an]=r:=bz (aY (ao0 CC) (aY (ao1 CC) au)) h
noncomputable def Bn (C:af) (i j:Int) (an:LV) {β:Type} (kn:(Int×Int×LV)→Option β) (kr:(Int×Int×Bool×LV)→Option β):Option β:=
 bif decide (i<j) then
  aq an j fun x1=>
  aq an i fun x2=>
  aq an i fun x3=>
  aq (aD an i (V.int .i64 x1.toInt)) j fun x4=>
  kn (wrap .i64 (i+1),wrap .i64 (j-1),aD (aD an i (V.int .i64 x1.toInt)) j (V.int .i64 x2.toInt))
 else
  kr (i,j,decide (i<j),an)
noncomputable def Gp (C:af):=un fun i=>un fun j an=>Bn C i j an (fun y=>some (Sum.inl y)) (fun r=>some (Sum.inr r))
noncomputable def ao4 (C:af):cx:=br 33 Sg [H1,H1,H1] [[0,0,0,0]] (@Bn C) bA
theorem ao5 (C:af):aZ C (ao4 C) 92 (Lp [1,1,0,0] 92):=bq Sg [H1,H1,H1] [[0,0,0,0]] (@Bn C) (aR au)
noncomputable def ads (C:af) (a b':Int) (an:LV):Option LV:=
 (Loop (Gp C) (a,wrap .i64 (b'-1),an)).bind (un fun i_5=>un fun j_6=>un fun (oA:Bool) (ao6:LV)=>
  some [.list ae ao6])
theorem ao7 {a b':Int} {an:LV} {r:Option LV} (h:ads CC a b' an=r):CC Ku [V.int .i64 a,V.int .i64 b',.list ae an]=r:=bz (aY (ao5 CC) au) h
end Go.AM
set_option maxRecDepth 100000
set_option maxHeartbeats 4000000
namespace Go.AM.SO
open Go.Proofs Go.Sort
def rD (x:Int):V:= .int .i64 x
def cD (a b:Int):Int:=a-b
theorem gf (x:Int):V.int .i64 (rD x).toInt=rD x:=rfl
theorem je (a b:Int):CC jy [rD a,rD b]=some [.bool (decide (cD a b<0))]:=by
 have h: ∀z:Int,CC Eh [.int .i64 z]=some [.bool false]:=fun z=>by
  refine aoQ ?_;unfold adk;simp
 refine aoR ?_;unfold adl;refine bs (h _) (bF rfl ?_);show some [V.bool (decide (a<b))]=_;rw[decide_eq_decide.2 (show a<b↔cD a b<0 by unfold cD;omega)]
theorem ao8:SWO (fun a b=>decide (cD a b<0)):=⟨fun x=>by simp only[decide_eq_false_iff_not];unfold cD;omega,fun x y z=>by simp only[fK];unfold cD;omega,fun x y z=>by simp only[decide_eq_false_iff_not];unfold cD;omega⟩
def aC (a b:Int):Bool:=decide (cD a b<0)
theorem wD (a b:Int):(aC a b=true)=(cD a b<0):=by unfold aC;rw[fK]
theorem uS (a b:Int):((!aC a b)=true)= ¬(cD a b<0):=by unfold aC;simp
abbrev eA (d:Array Int):List V:=s7 rD d
theorem MD {β:Type} {d:Array Int} {i:Nat} {k:Int} {v:V} {x:Option β} (h:i<d.size:=by omega):aq (aD (eA d) k v) (i:Int) (fun _=>x)=x:=by
 unfold aq aD;rw[ti,iJ,iZ,bu,bt,bu,bt,Int.toNat_natCast,bR (by rw[ti,iJ];exact h)];rfl
theorem ao9 (a j:Nat) (d:Array Int):insInner aC a (j+1) d=if j+1>a then (if cD d[j+1]! d[j]! <0 then insInner aC a j (swp d (j+1) j) else d) else d:=by
 rw[adj];by_cases h1:j+1>a
 ·rw[ak h1];simp only[h1,y6,B5,wD]
 ·rw[aj h1,aj (by simp[h1])]
theorem Ul (hi first root:Nat) (d:Array Int):siftDown aC hi first root d=
  if 2*root+1≥hi then d else
   if 2*root+2<hi then
    (if cD d[first+(2*root+1)]! d[first+(2*root+2)]! <0 then
     (if cD d[first+root]! d[first+(2*root+2)]! <0 then siftDown aC hi first (2*root+2) (swp d (first+root) (first+(2*root+2))) else d)
    else (if cD d[first+root]! d[first+(2*root+1)]! <0 then siftDown aC hi first (2*root+1) (swp d (first+root) (first+(2*root+1))) else d))
   else (if cD d[first+root]! d[first+(2*root+1)]! <0 then siftDown aC hi first (2*root+1) (swp d (first+root) (first+(2*root+1))) else d):=by
 rw[siftDown];by_cases h1:2*root+1≥hi
 ·rw[pC h1,ak h1]
 rw[dif_neg h1,aj h1];by_cases h2:2*root+2<hi
 ·rw[ak h2];by_cases h3:cD d[first+(2*root+1)]! d[first+(2*root+2)]! <0
  ·rw[ak h3,ak (by simp only[aK,fK,wD];exact ⟨h2,h3⟩)];simp only[uS];by_cases h4:cD d[first+root]! d[first+(2*root+2)]! <0
   ·rw[aj (tk h4),pC h2,ak h4]
   ·rw[ak h4,aj h4]
  ·rw[aj h3,aj (by simp only[aK,fK,wD];exact fun h=>h3 h.2)];simp only[uS];by_cases h4:cD d[first+root]! d[first+(2*root+1)]! <0
   ·rw[aj (tk h4),ak h4]
   ·rw[ak h4,aj h4]
 ·rw[aj h2,aj (by simp only[aK,fK,wD];exact fun h=>h2 h.1)];simp only[uS];by_cases h4:cD d[first+root]! d[first+(2*root+1)]! <0
  ·rw[aj (tk h4),ak h4]
  ·rw[ak h4,aj h4]
theorem adt {a b i:Nat}: ∀(j:Nat) (d:Array Int),j<d.size→d.size<1152921504606846976→
  ∃j' t,Loop (Bj CC a b i) ((j:Int),eA d)=some (j',t,eA (insInner aC a j d))
 | 0,d,hj,hs=>⟨(0:Nat),false,cQ (by
   simp (disch:=omega) only[Bj,Bi,un,bu,aj];rfl)⟩
 | j+1,d,hj,hs=>by
  obtain ⟨j',t,ih⟩:=adt (a:=a) (b:=b) (i:=i) j (swp d (j+1) j) (by rw[size_swp];omega) (by rw[size_swp];omega);rw[ao9];by_cases h1:j+1>a
  ·rw[ak h1];have e:Bj CC a b i (((j+1:Nat):Int),eA d)=if cD d[j+1]! d[j]! <0 then some (.inl ((j:Int),eA (swp d (j+1) j))) else some (.inr (((j+1:Nat):Int),decide (cD d[j+1]! d[j]! <0),eA d)):=by
    simp (disch:=omega) only[Bj,Bi,un,bu,iZ,iY,ak,aj,wrap64,eN,iv,Int.toNat_natCast,Option.bind_some,iJ,iK,gf,iu,j5,jk,je,V.dF,V.toInt_int,V.dP,cond_true,cond_false,yH];rfl
   by_cases h2:cD d[j+1]! d[j]! <0
   ·rw[ak h2] at e⊢;exact ⟨j',t,(eD e).trans ih⟩
   ·rw[aj h2] at e⊢;exact ⟨_,_,cQ e⟩
  ·rw[aj h1];exact ⟨((j+1:Nat):Int),false,cQ (by
    simp (disch:=omega) only[Bj,Bi,un,bu,aj])⟩
theorem apa {a b:Nat}: ∀(n i:Nat) (d:Array Int),b-i=n→b≤d.size→d.size<1152921504606846976→
  ∃j' t,Loop (MA CC a b) ((i:Int),eA d)=some (j',t,eA (insOuter aC a b i d)):=by
 intro n
 induction n with
 | zero=>
  intro i d hn hb hs;rw[insOuter,bN];exact ⟨(i:Int),false,cQ (by
   simp (disch:=omega) only[MA,Gl,un,wB,cond_false])⟩
 | succ n ih=>
  intro i d hn hb hs;obtain ⟨j1,t1,h1⟩:=adt (a:=a) (b:=b) (i:=i) i d (by omega) hs;obtain ⟨j',t,h2⟩:=ih (i+1) (insInner aC a i d) (by omega) (by rw[Ui];omega) (by rw[Ui];omega);rw[insOuter,bt];refine ⟨j',t,(eD ?_).trans h2⟩;simp (disch:=omega) only[MA,Gl,un,bu,ak,h1,Option.bind_some,eN,wrap64]
theorem adu {a b:Nat} {d:Array Int} (hb:b≤d.size) (hs:d.size<1152921504606846976) (ha:a<1152921504606846976):
  CC D9 [.int .i64 (a:Int),.int .i64 (b:Int),.list ae (eA d)]=some [.list ae (eA (insertionSort aC d a b))]:=by
 refine aoU ?_;unfold adn;obtain ⟨j',t,h⟩:=apa (a:=a) (b:=b) _ (a+1) d rfl hb hs;simp (disch:=omega) only[eN,wrap64];rw[h];rfl
theorem apb (hi first:Nat): ∀(n root:Nat) (d:Array Int),hi-root≤n→root<1152921504606846976→first+hi≤d.size→d.size<1152921504606846976→
  (∃x y z,Loop (rB CC hi first) ((root:Int),eA d)=some (.inl (x,y,z,eA (siftDown aC hi first root d))))∨
  (∃x y z,Loop (rB CC hi first) ((root:Int),eA d)=some (.inr (x,y,z,eA (siftDown aC hi first root d)))):=by
 intro n
 induction n with
 | zero=>
  intro root d hn hr hb hs;rw[Ul,bt];exact .inl ⟨(root:Int),((root*2+1:Nat):Int),true,cQ (by
   simp (disch:=omega) only[rB,wC,un,Gj,eN,wrap64];rw[qj (by omega)];rfl)⟩
 | succ n ih=>
  intro root d hn hr hb hs;by_cases h1:2*root+1≥hi
  ·rw[Ul,ak h1];exact .inl ⟨(root:Int),((root*2+1:Nat):Int),true,cQ (by
    simp (disch:=omega) only[rB,wC,un,Gj,eN,wrap64];rw[qj (by omega)];rfl)⟩
  ·have go: ∀c:Nat,c<hi→root<c→(rB CC hi first ((root:Int),eA d)=
      if cD d[first+root]! d[first+c]! <0 then some (.inl ((c:Int),eA (swp d (first+root) (first+c)))) else some (.inr (.inr ((root:Int),(c:Int),true,eA d))))→
     siftDown aC hi first root d=(if cD d[first+root]! d[first+c]! <0 then siftDown aC hi first c (swp d (first+root) (first+c)) else d)→
     ((∃x y z,Loop (rB CC hi first) ((root:Int),eA d)=some (.inl (x,y,z,eA (siftDown aC hi first root d))))∨
     (∃x y z,Loop (rB CC hi first) ((root:Int),eA d)=some (.inr (x,y,z,eA (siftDown aC hi first root d))))):=by
    intro c hc hrc e1 e2;rw[e2];by_cases h3:cD d[first+root]! d[first+c]! <0
    ·rw[ak h3] at e1;rw[ak h3,eD e1];exact ih c _ (by omega) (by omega) (by rw[size_swp];omega) (by rw[size_swp];omega)
    ·rw[aj h3] at e1;rw[aj h3,cQ e1];exact .inr ⟨_,_,_,rfl⟩
   have e0:=Ul hi first root d
   rw[aj h1] at e0;by_cases h2:2*root+2<hi
   ·rw[ak h2] at e0;by_cases h3:cD d[first+(2*root+1)]! d[first+(2*root+2)]! <0
    ·rw[ak h3] at e0;refine go (2*root+2) (by omega) (by omega) ?_ e0;rw[pF 2 root] at h3;simp (disch:=omega) only[rB,wC,un,Gj,eN,iv,wrap64];rw[bu,bN,bu,bt];simp (disch:=omega) only[yI,bu,iZ,iY,ak,aj,wrap64,eN,iv,Int.toNat_natCast,Option.bind_some,iJ,iK,gf,iu,j5,jk,je,V.dF,V.toInt_int,V.dP,cond_true,cond_false,pF 2 root,qj];by_cases h4:cD d[first+root]! d[first+(root*2+2)]! <0
     ·simp only[h4,lr];rfl
     ·simp only[h4,mX];rfl
    ·rw[aj h3] at e0;refine go (2*root+1) (by omega) (by omega) ?_ e0;rw[pF 2 root] at h3;simp (disch:=omega) only[rB,wC,un,Gj,eN,iv,wrap64];rw[bu,bN,bu,bt];simp (disch:=omega) only[yI,bu,iZ,iY,ak,aj,wrap64,eN,iv,Int.toNat_natCast,Option.bind_some,iJ,iK,gf,iu,j5,jk,je,V.dF,V.toInt_int,V.dP,cond_true,cond_false,pF 2 root,wB];by_cases h4:cD d[first+root]! d[first+(root*2+1)]! <0
     ·simp only[h4,lr];rfl
     ·simp only[h4,mX];rfl
   ·rw[aj h2] at e0;refine go (2*root+1) (by omega) (by omega) ?_ e0;simp (disch:=omega) only[rB,wC,un,Gj,eN,iv,wrap64];rw[bu,bN,bu,bN];simp (disch:=omega) only[yI,bu,iZ,iY,ak,aj,wrap64,eN,iv,Int.toNat_natCast,Option.bind_some,iJ,iK,gf,iu,j5,jk,je,V.dF,V.toInt_int,V.dP,cond_true,cond_false,pF 2 root];by_cases h4:cD d[first+root]! d[first+(root*2+1)]! <0
    ·simp only[h4,lr];rfl
    ·simp only[h4,mX];rfl
theorem adv {lo hi first:Nat} {d:Array Int} (hl:lo<1152921504606846976) (hb:first+hi≤d.size) (hs:d.size<1152921504606846976):
  CC Ef [.int .i64 (lo:Int),.int .i64 (hi:Int),.int .i64 (first:Int),.list ae (eA d)]=some [.list ae (eA (siftDown aC hi first lo d))]:=by
 refine aoZ ?_;unfold adp;rcases apb hi first _ lo d (az _) hl hb hs with ⟨x,y,z,h⟩|⟨x,y,z,h⟩
 ·rw[h];rfl
 ·rw[h];rfl
theorem adw {hi first:Nat}: ∀(k:Nat) (d:Array Int),k<1152921504606846976→first+hi≤d.size→d.size<1152921504606846976→
  ∃x y,Loop (MB CC first 0 hi) ((k:Int)-1,eA d)=some (x,y,eA (heapBuild aC hi first k d))
 | 0,d,hk,hb,hs=>⟨-1,false,cQ (by
   simp (disch:=omega) only[MB,Gm,un,bu,aj];rfl)⟩
 | k+1,d,hk,hb,hs=>by
  obtain ⟨x,y,ih⟩:=adw (hi:=hi) (first:=first) k (siftDown aC hi first k d) (by omega) (by rw[Gk _ _ _ _ _ (az _)];omega) (by rw[Gk _ _ _ _ _ (az _)];omega);refine ⟨x,y,(eD ?_).trans ih⟩;simp (disch:=omega) only[MB,Gm,un,bu,ak,yH,adv,Option.bind_some,V.dF,V.eh,wrap64]
theorem adx {first:Nat}: ∀(k:Nat) (d:Array Int),k<1152921504606846976→first+k≤d.size→d.size<1152921504606846976→
  ∃x y,Loop (MC CC first 0) ((k:Int)-1,eA d)=some (x,y,eA (heapPop aC first k d))
 | 0,d,hk,hb,hs=>⟨-1,false,cQ (by
   simp (disch:=omega) only[MC,Gn,un,bu,aj];rfl)⟩
 | k+1,d,hk,hb,hs=>by
  obtain ⟨x,y,ih⟩:=adx (first:=first) k (siftDown aC k first 0 (swp d first (first+k))) (by omega) (by rw[Gk _ _ _ _ _ (az _),size_swp];omega) (by rw[Gk _ _ _ _ _ (az _),size_swp];omega);refine ⟨x,y,(eD ?_).trans ih⟩;have nj:=adv (lo:=0) (hi:=k) (first:=first) (d:=swp d first (first+k)) (by omega) (by rw[size_swp];omega) (by rw[size_swp];omega);unfold swp at nj⊢;rw[show ((0:Nat):Int)=0 from rfl] at nj;simp (disch:=omega) only[MC,Gn,un,yH,bu,iZ,iY,ak,aj,wrap64,eN,iv,Int.toNat_natCast,Option.bind_some,iJ,iK,gf,iu,j5,jk,je,V.dF,V.toInt_int,V.dP,cond_true,cond_false];rw[nj];simp (disch:=omega) only[Option.bind_some,V.dF,V.eh,wrap64]
theorem apc {a b:Nat} {d:Array Int} (ib:a<b) (hb:b≤d.size) (hs:d.size<1152921504606846976):
  CC Ea [.int .i64 (a:Int),.int .i64 (b:Int),.list ae (eA d)]=some [.list ae (eA (heapSort aC d a b))]:=by
 refine ao3 ?_;unfold adr;obtain ⟨x,y,h1⟩:=adw (hi:=b-a) (first:=a) ((b-a-1)/2+1) d (by omega) (by omega) hs;obtain ⟨x2,y2,h2⟩:=adx (first:=a) (b-a) (heapBuild aC (b-a) a ((b-a-1)/2+1) d) (by omega) (by rw[Uj];omega) (by rw[Uj];omega);have e1:((((b-a-1)/2+1:Nat):Int)-1)=Int.tdiv (((b-a:Nat):Int)-1) 2:=by
  rw[Int.tdiv_eq_ediv_of_nonneg (by omega)];omega
 rw[e1] at h1;simp (disch:=omega) only[pn,wrap64];rw[h1];simp only[Option.bind_some,un];rw[h2];rfl
theorem apd: ∀(n i j:Nat) (d:Array Int),j-i≤n→j<d.size→d.size<1152921504606846976→
  ∃x y z,Loop (Gp CC) ((i:Int),(j:Int),eA d)=some (x,y,z,eA (reverseLoop i j d)):=by
 intro n
 induction n with
 | zero=>
  intro i j d hn hj hs;rw[reverseLoop,bN];exact ⟨(i:Int),(j:Int),false,cQ (by
   simp (disch:=omega) only[Gp,Bn,un,wB,cond_false])⟩
 | succ n ih=>
  intro i j d hn hj hs;rw[reverseLoop];by_cases h:i<j
  ·rw[ak h];obtain ⟨x,y,z,h2⟩:=ih (i+1) (j-1) (swp d i j) (by omega) (by rw[size_swp];omega) (by rw[size_swp];omega);refine ⟨x,y,z,(eD ?_).trans h2⟩;simp (disch:=omega) only[Gp,Bn,un,bu,iZ,iY,ak,aj,wrap64,eN,iv,Int.toNat_natCast,Option.bind_some,iJ,iK,gf,iu,j5,jk,je,V.dF,V.toInt_int,V.dP,cond_true,cond_false,mP];rfl
  ·rw[aj h];exact ⟨(i:Int),(j:Int),false,cQ (by
    simp (disch:=omega) only[Gp,Bn,un,wB,cond_false])⟩
theorem ape {a b:Nat} {d:Array Int} (ib:a<b) (hb:b≤d.size) (hs:d.size<1152921504606846976):
  CC Ku [.int .i64 (a:Int),.int .i64 (b:Int),.list ae (eA d)]=some [.list ae (eA (reverseRange d a b))]:=by
 refine ao7 ?_;unfold ads;obtain ⟨x,y,z,h⟩:=apd _ a (b-1) d (az _) (by omega) hs;simp (disch:=omega) only[mP,wrap64];rw[h];rfl
end Go.AM.SO
set_option maxRecDepth 100000
namespace Go.AM
open Go.IntKind (wrap)
open Go.Proofs
noncomputable def Gq (C:af) (a j:Int) (an:LV) (i:Int) {β:Type} (kn:Int→Option β) (kr:(Int×Bool)→Option β):Option β:=
 bif decide (i≤j) then
  aq an i fun x5=>
  aq an a fun x6=>
  (C jy [V.int .i64 x5.toInt,V.int .i64 x6.toInt]).bind fun r7=>
  bif (V.nth r7 0).toBool then
  kn (wrap .i64 (i+1))
  else
  kr (i,(V.nth r7 0).toBool)
 else
  kr (i,false)
noncomputable def Gr (C:af) (a j:Int) (an:LV):=fun i=>Gq C a j an i (fun y=>some (Sum.inl y)) (fun r=>some (Sum.inr r))
noncomputable def Bo (C:af) (a i:Int) (an:LV) (j:Int) {β:Type} (kn:Int→Option β) (kr:(Int×Bool)→Option β):Option β:=
 bif decide (i≤j) then
  aq an j fun lX=>
  aq an a fun nG=>
  (C jy [V.int .i64 lX.toInt,V.int .i64 nG.toInt]).bind fun ma=>
  bif !((V.nth ma 0).toBool) then
  kn (wrap .i64 (j-1))
  else
  kr (j,!((V.nth ma 0).toBool))
 else
  kr (j,false)
noncomputable def Bp (C:af) (a i:Int) (an:LV):=fun j=>Bo C a i an j (fun y=>some (Sum.inl y)) (fun r=>some (Sum.inr r))
noncomputable def Gs (C:af) (a j:Int) (an:LV) (i:Int) {β:Type} (kn:Int→Option β) (kr:(Int×Bool)→Option β):Option β:=
 bif decide (i≤j) then
  aq an i fun pj=>
  aq an a fun lY=>
  (C jy [V.int .i64 pj.toInt,V.int .i64 lY.toInt]).bind fun A7=>
  bif (V.nth A7 0).toBool then
  kn (wrap .i64 (i+1))
  else
  kr (i,(V.nth A7 0).toBool)
 else
  kr (i,false)
noncomputable def Gt (C:af) (a j:Int) (an:LV):=fun i=>Gs C a j an i (fun y=>some (Sum.inl y)) (fun r=>some (Sum.inr r))
noncomputable def Bq (C:af) (a i:Int) (an:LV) (j:Int) {β:Type} (kn:Int→Option β) (kr:(Int×Bool)→Option β):Option β:=
 bif decide (i≤j) then
  aq an j fun yK=>
  aq an a fun yL=>
  (C jy [V.int .i64 yK.toInt,V.int .i64 yL.toInt]).bind fun Br=>
  bif !((V.nth Br 0).toBool) then
  kn (wrap .i64 (j-1))
  else
  kr (j,!((V.nth Br 0).toBool))
 else
  kr (j,false)
noncomputable def Bs (C:af) (a i:Int) (an:LV):=fun j=>Bq C a i an j (fun y=>some (Sum.inl y)) (fun r=>some (Sum.inr r))
noncomputable def Gu (C:af) (a i j:Int) (an:LV) {β:Type} (kn:(Int×Int×LV)→Option β) (kr:(Int×Int×Bool×LV)→Option β):Option β:=
 (Loop (Gt C a j an) i).bind (un fun (sM:Int) (LG:Bool)=>
  (Loop (Bs C a sM an) j).bind (un fun (yM:Int) (apf:Bool)=>
   bif decide (sM>yM) then
    kr (sM,yM,decide (sM>yM),an)
   else
    aq an yM fun x33=>
    aq an sM fun x34=>
    aq an sM fun x35=>
    aq (aD an sM (V.int .i64 x33.toInt)) yM fun x36=>
    kn (wrap .i64 (sM+1),wrap .i64 (yM-1),aD (aD an sM (V.int .i64 x33.toInt)) yM (V.int .i64 x34.toInt))))
noncomputable def Bt (C:af) (a:Int):=un fun i=>un fun j an=>Gu C a i j an (fun y=>some (Sum.inl y)) (fun r=>some (Sum.inr r))
noncomputable def Gv (C:af):cx:=br 49 Sp [EQ,H1,EQ,EQ] [[1,0,3,0,4]] (@Gq C) (br 81 Sq [EQ,EQ,H1,EQ] [[1,2,0,0,4]] (@Bo C) (br 209 Sr [EQ,H1,EQ,EQ] [[1,0,3,0,4]] (@Gs C) (br 241 Ss [EQ,EQ,H1,EQ] [[1,2,0,0,4]] (@Bq C) (br 210 Su [EQ,H1,H1,H1] [[1,0,0,0,0]] (@Gu C) bA))))
theorem apg (C:af):aZ C (Gv C) 96 (Lp [1,1,1,0,0,0] 96):=bq Sp [EQ,H1,EQ,EQ] [[1,0,3,0,4]] (@Gq C) (aR au)
theorem aph (C:af):aZ C (Gv C) 96 (Lp [1,1,1,1,0,0,0] 96):=bq Sq [EQ,EQ,H1,EQ] [[1,2,0,0,4]] (@Bo C) (aR au)
theorem api (C:af):aZ C (Gv C) 96 (Lp [1,1,1,1,1,1,1,1,1,0,0,0,0,0,0,0] 96):=bq Sr [EQ,H1,EQ,EQ] [[1,0,3,0,4]] (@Gs C) (aR au)
theorem apj (C:af):aZ C (Gv C) 96 (Lp [1,1,1,1,1,1,1,1,1,0,0,0,0,1,0,0,0] 96):=bq Ss [EQ,EQ,H1,EQ] [[1,2,0,0,4]] (@Bq C) (aR au)
theorem apk (C:af):aZ C (Gv C) 96 (Lp [1,1,1,1,1,1,1,1,1,0,0,0] 96):=bq Su [EQ,H1,H1,H1] [[1,0,0,0,0]] (@Gu C) (aR (aY (api C) (aY (apj C) au)))
noncomputable def ady (C:af) (a b' pivot:Int) (an:LV):Option LV:=
 aq an pivot fun x1=>
 aq an a fun x2=>
 aq an a fun x3=>
 aq (aD an a (V.int .i64 x1.toInt)) pivot fun x4=>
 (Loop (Gr C a (wrap .i64 (b'-1)) (aD (aD an a (V.int .i64 x1.toInt)) pivot (V.int .i64 x2.toInt))) (wrap .i64 (a+1))).bind (un fun (lh:Int) (mL:Bool)=>
  (Loop (Bp C a lh (aD (aD an a (V.int .i64 x1.toInt)) pivot (V.int .i64 x2.toInt))) (wrap .i64 (b'-1))).bind (un fun (lj:Int) (sS:Bool)=>
   bif decide (lh>lj) then
    aq (aD (aD an a (V.int .i64 x1.toInt)) pivot (V.int .i64 x2.toInt)) a fun rE=>
    aq (aD (aD an a (V.int .i64 x1.toInt)) pivot (V.int .i64 x2.toInt)) lj fun qk=>
    aq (aD (aD an a (V.int .i64 x1.toInt)) pivot (V.int .i64 x2.toInt)) lj fun rv=>
    aq (aD (aD (aD an a (V.int .i64 x1.toInt)) pivot (V.int .i64 x2.toInt)) lj (V.int .i64 rE.toInt)) a fun sU=>
    some [V.int .i64 lj,.bool true,.list ae (aD (aD (aD (aD an a (V.int .i64 x1.toInt)) pivot (V.int .i64 x2.toInt)) lj (V.int .i64 rE.toInt)) a (V.int .i64 qk.toInt))]
   else
    aq (aD (aD an a (V.int .i64 x1.toInt)) pivot (V.int .i64 x2.toInt)) lj fun oJ=>
    aq (aD (aD an a (V.int .i64 x1.toInt)) pivot (V.int .i64 x2.toInt)) lh fun sW=>
    aq (aD (aD an a (V.int .i64 x1.toInt)) pivot (V.int .i64 x2.toInt)) lh fun sX=>
    aq (aD (aD (aD an a (V.int .i64 x1.toInt)) pivot (V.int .i64 x2.toInt)) lh (V.int .i64 oJ.toInt)) lj fun oI=>
    (Loop (Bt C a) (wrap .i64 (lh+1),wrap .i64 (lj-1),aD (aD (aD (aD an a (V.int .i64 x1.toInt)) pivot (V.int .i64 x2.toInt)) lh (V.int .i64 oJ.toInt)) lj (V.int .i64 sW.toInt))).bind (un fun at7=>un fun Gw=>un fun (aua:Bool) (rF:LV)=>
     aq rF a fun Gx=>
     aq rF Gw fun LU=>
     aq rF Gw fun x43=>
     aq (aD rF Gw (V.int .i64 Gx.toInt)) a fun x44=>
     some [V.int .i64 Gw,.bool false,.list ae (aD (aD rF Gw (V.int .i64 Gx.toInt)) a (V.int .i64 LU.toInt))])))
theorem apl {a b' pivot:Int} {an:LV} {r:Option LV} (h:ady CC a b' pivot an=r):CC qb [V.int .i64 a,V.int .i64 b',V.int .i64 pivot,.list ae an]=r:=bz (aY (apg CC) (aY (aph CC) (aY (apk CC) au))) h
noncomputable def Gy (C:af) (a j:Int) (an:LV) (i:Int) {β:Type} (kn:Int→Option β) (kr:(Int×Bool)→Option β):Option β:=
 bif decide (i≤j) then
  aq an a fun x5=>
  aq an i fun x6=>
  (C jy [V.int .i64 x5.toInt,V.int .i64 x6.toInt]).bind fun r7=>
  bif !((V.nth r7 0).toBool) then
  kn (wrap .i64 (i+1))
  else
  kr (i,!((V.nth r7 0).toBool))
 else
  kr (i,false)
noncomputable def Gz (C:af) (a j:Int) (an:LV):=fun i=>Gy C a j an i (fun y=>some (Sum.inl y)) (fun r=>some (Sum.inr r))
noncomputable def Bu (C:af) (a i:Int) (an:LV) (j:Int) {β:Type} (kn:Int→Option β) (kr:(Int×Bool)→Option β):Option β:=
 bif decide (i≤j) then
  aq an a fun lX=>
  aq an j fun nG=>
  (C jy [V.int .i64 lX.toInt,V.int .i64 nG.toInt]).bind fun ma=>
  bif (V.nth ma 0).toBool then
  kn (wrap .i64 (j-1))
  else
  kr (j,(V.nth ma 0).toBool)
 else
  kr (j,false)
noncomputable def Bv (C:af) (a i:Int) (an:LV):=fun j=>Bu C a i an j (fun y=>some (Sum.inl y)) (fun r=>some (Sum.inr r))
noncomputable def GA (C:af) (a i j:Int) (an:LV) {β:Type} (kn:(Int×Int×LV)→Option β) (kr:(Int×Int×Bool×LV)→Option β):Option β:=
 (Loop (Gz C a j an) i).bind (un fun (lh:Int) (mL:Bool)=>
  (Loop (Bv C a lh an) j).bind (un fun (lj:Int) (sS:Bool)=>
   bif decide (lh>lj) then
    kr (lh,lj,decide (lh>lj),an)
   else
    aq an lj fun rE=>
    aq an lh fun qk=>
    aq an lh fun rv=>
    aq (aD an lh (V.int .i64 rE.toInt)) lj fun sU=>
    kn (wrap .i64 (lh+1),wrap .i64 (lj-1),aD (aD an lh (V.int .i64 rE.toInt)) lj (V.int .i64 qk.toInt))))
noncomputable def Bw (C:af) (a:Int):=un fun i=>un fun j an=>GA C a i j an (fun y=>some (Sum.inl y)) (fun r=>some (Sum.inr r))
noncomputable def Um (C:af):cx:=br 49 Sm [EQ,H1,EQ,EQ] [[1,0,3,0,4]] (@Gy C) (br 81 Sn [EQ,EQ,H1,EQ] [[1,2,0,0,4]] (@Bu C) (br 50 So [EQ,H1,H1,H1] [[1,0,0,0,0]] (@GA C) bA))
theorem apm (C:af):aZ C (Um C) 95 (Lp [1,1,1,0,0,0,0,0,0,0] 95):=bq Sm [EQ,H1,EQ,EQ] [[1,0,3,0,4]] (@Gy C) (aR au)
theorem apn (C:af):aZ C (Um C) 95 (Lp [1,1,1,0,0,0,0,1,0,0,0] 95):=bq Sn [EQ,EQ,H1,EQ] [[1,2,0,0,4]] (@Bu C) (aR au)
theorem apo (C:af):aZ C (Um C) 95 (Lp [1,1,1,0,0,0] 95):=bq So [EQ,H1,H1,H1] [[1,0,0,0,0]] (@GA C) (aR (aY (apm C) (aY (apn C) au)))
noncomputable def adz (C:af) (a b' pivot:Int) (an:LV):Option LV:=
 aq an pivot fun x1=>
 aq an a fun x2=>
 aq an a fun x3=>
 aq (aD an a (V.int .i64 x1.toInt)) pivot fun x4=>
 (Loop (Bw C a) (wrap .i64 (a+1),wrap .i64 (b'-1),aD (aD an a (V.int .i64 x1.toInt)) pivot (V.int .i64 x2.toInt))).bind (un fun apq=>un fun aub=>un fun (aov:Bool) (apr:LV)=>
  some [V.int .i64 apq,.list ae apr])
theorem aps {a b' pivot:Int} {an:LV} {r:Option LV} (h:adz CC a b' pivot an=r):CC xS [V.int .i64 a,V.int .i64 b',V.int .i64 pivot,.list ae an]=r:=bz (aY (apo CC) au) h
noncomputable def GB (C:af) (a b' j:Int) (an:LV) (i:Int) {β:Type} (kn:Int→Option β) (kr:(Int×Bool)→Option β):Option β:=
 bif decide (i<b') then
  aq an i fun x1=>
  aq an (wrap .i64 (i-1)) fun x2=>
  (C jy [V.int .i64 x1.toInt,V.int .i64 x2.toInt]).bind fun r3=>
  bif !((V.nth r3 0).toBool) then
  kn (wrap .i64 (i+1))
  else
  kr (i,!((V.nth r3 0).toBool))
 else
  kr (i,false)
noncomputable def GC (C:af) (a b' j:Int) (an:LV):=fun i=>GB C a b' j an i (fun y=>some (Sum.inl y)) (fun r=>some (Sum.inr r))
noncomputable def GD (C:af) (a b' i j j':Int) (an:LV) {β:Type} (kn:(Int×LV)→Option β) (kr:(Int×LV)→Option β):Option β:=
 bif decide (j'≥1) then
  aq an j' fun lX=>
  aq an (wrap .i64 (j'-1)) fun nG=>
  (C jy [V.int .i64 lX.toInt,V.int .i64 nG.toInt]).bind fun ma=>
  bif !((V.nth ma 0).toBool) then
  kr (j',an)
  else
  aq an (wrap .i64 (j'-1)) fun uR=>
  aq an j' fun Bm=>
  aq an j' fun rE=>
  aq (aD an j' (V.int .i64 uR.toInt)) (wrap .i64 (j'-1)) fun qk=>
  kn (wrap .i64 (j'-1),aD (aD an j' (V.int .i64 uR.toInt)) (wrap .i64 (j'-1)) (V.int .i64 Bm.toInt))
 else
  kr (j',an)
noncomputable def GF (C:af) (a b' i j:Int):=un fun j' an=>GD C a b' i j j' an (fun y=>some (Sum.inl y)) (fun r=>some (Sum.inr r))
noncomputable def ME (C:af) (a b' i j:Int) (t61:Bool) (an:LV) {β:Type} (kr:LV→Option β):Option β:=
 bif t61 then
  (Loop (GF C a b' i j) (wrap .i64 (i-1),an)).bind (un fun (auc:Int) (apt:LV)=>
   kr apt)
 else
  kr an
noncomputable def GG (C:af) (a b' i j j':Int) (an:LV) {β:Type} (kn:(Int×LV)→Option β) (kr:(Int×LV)→Option β):Option β:=
 bif decide (j'<b') then
  aq an j' fun sW=>
  aq an (wrap .i64 (j'-1)) fun sX=>
  (C jy [V.int .i64 sW.toInt,V.int .i64 sX.toInt]).bind fun mQ=>
  bif !((V.nth mQ 0).toBool) then
  kr (j',an)
  else
  aq an (wrap .i64 (j'-1)) fun pj=>
  aq an j' fun lY=>
  aq an j' fun yN=>
  aq (aD an j' (V.int .i64 pj.toInt)) (wrap .i64 (j'-1)) fun A6=>
  kn (wrap .i64 (j'+1),aD (aD an j' (V.int .i64 pj.toInt)) (wrap .i64 (j'-1)) (V.int .i64 lY.toInt))
 else
  kr (j',an)
noncomputable def GH (C:af) (a b' i j:Int):=un fun j' an=>GG C a b' i j j' an (fun y=>some (Sum.inl y)) (fun r=>some (Sum.inr r))
noncomputable def GI (C:af) (a b' i j:Int) (an:LV) {β:Type} (kn:(Int×Int×LV)→Option β) (kr:((Bool×LV) ⊕ (Int×Int×Bool×LV))→Option β):Option β:=
 bif decide (j<5) then
  (Loop (GC C a b' j an) i).bind (un fun (mb:Int) (oy:Bool)=>
   bif mb==b' then
   kr (.inl (true,an))
   else
   bif decide (((wrap .i64 (b'-a)):Int)<50) then
    kr (.inl (false,an))
   else
    aq an (wrap .i64 (mb-1)) fun x6=>
    aq an mb fun x7=>
    aq an mb fun x8=>
    aq (aD an mb (V.int .i64 x6.toInt)) (wrap .i64 (mb-1)) fun x9=>
    ME C a b' mb j (decide (((wrap .i64 (mb-a)):Int)≥2)) (aD (aD an mb (V.int .i64 x6.toInt)) (wrap .i64 (mb-1)) (V.int .i64 x7.toInt)) (fun (adA:LV)=>
     bif decide (((wrap .i64 (b'-mb)):Int)≥2) then
     (Loop (GH C a b' mb j) (wrap .i64 (mb+1),adA)).bind (un fun (aud:Int) (apu:LV)=>
      kn (mb,wrap .i64 (j+1),apu))
     else
     kn (mb,wrap .i64 (j+1),adA)))
 else
  kr (.inr (i,j,decide (j<5),an))
noncomputable def wE (C:af) (a b':Int):=un fun i=>un fun j an=>GI C a b' i j an (fun y=>some (Sum.inl y)) (fun r=>some (Sum.inr r))
noncomputable def GJ (C:af):cx:=br 81 Sh [EQ,EQ,H1,EQ,EQ] [[1,2,0,4,0,5]] (@GB C) (br 225 Si [EQ,EQ,EQ,EQ,H1,H1] [[1,2,3,4,0,0]] (@GD C) (o9 991 Sj [[1,2,3,4,0]] (@ME C) (br 321 Sk [EQ,EQ,EQ,EQ,H1,H1] [[1,2,3,4,0,0]] (@GG C) (br 49 Sl [EQ,EQ,H1,H1,H1] [[0,0],[1,2,0,0,0,0]] (@GI C) bA))))
theorem apv (C:af):aZ C (GJ C) 93 (Lp [1,1,0,1,0,0,1,0,0,0,0,0] 93):=bq Sh [EQ,EQ,H1,EQ,EQ] [[1,2,0,4,0,5]] (@GB C) (aR au)
theorem apw (C:af):aZ C (GJ C) 93 (Lp [1,1,0,1,0,0,1,0,0,1,1,1,1,0,1,0,1,0,0] 93):=bq Si [EQ,EQ,EQ,EQ,H1,H1] [[1,2,3,4,0,0]] (@GD C) (aR au)
theorem apx (C:af):aZ C (GJ C) 93 (Cd 61 [1,1,0,1,0,0,1,0,0,1,1,1,1,0,1,0] [1,1,0,1,0,0,1,0,0,1,1,1,1,0,1,1] 93):=o8 Sj [[1,2,3,4,0]] (@ME C) (aR (aY (apw C) au)) (aR au)
theorem apy (C:af):aZ C (GJ C) 93 (Lp [1,1,0,1,0,0,1,0,0,1,1,1,1,1,1,0,1,0,0] 93):=bq Sk [EQ,EQ,EQ,EQ,H1,H1] [[1,2,3,4,0,0]] (@GG C) (aR au)
theorem apz (C:af):aZ C (GJ C) 93 (Lp [1,1,0,1,0,0] 93):=bq Sl [EQ,EQ,H1,H1,H1] [[0,0],[1,2,0,0,0,0]] (@GI C) (aR (aY (apv C) (aY (apx C) (aY (apy C) au))))
noncomputable def adB (C:af) (a b':Int) (an:LV):Option LV:=
 (Loop (wE C a b') (wrap .i64 (a+1),0,an)).bind (cM (un fun (adC:Bool) (apA:LV)=>
  some [.bool adC,.list ae apA]) (un fun aue=>un fun apB=>un fun (MF:Bool) (apC:LV)=>
  some [.bool false,.list ae apC]))
theorem apD {a b':Int} {an:LV} {r:Option LV} (h:adB CC a b' an=r):CC Kv [V.int .i64 a,V.int .i64 b',.list ae an]=r:=bz (aY (apz CC) au) h
end Go.AM
set_option maxRecDepth 100000
set_option maxHeartbeats 4000000
namespace Go.AM.SO
open Go.Proofs Go.Sort
theorem MG (d:Array Int) (b i:Nat):scanSorted aC d b i=if i<b then (if cD d[i]! d[i-1]! <0 then i else scanSorted aC d b (i+1)) else i:=by
 conv=>lhs;rw[scanSorted]
 by_cases h:i<b
 ·rw[ak h];simp only[h,y6,B5,uS];by_cases h2:cD d[i]! d[i-1]! <0
  ·rw[aj (tk h2),ak h2]
  ·rw[ak h2,aj h2]
 ·rw[aj h,aj (by simp[h])]
theorem adD (j:Nat) (d:Array Int):shiftDown aC (j+1) d=if cD d[j+1]! d[j]! <0 then shiftDown aC j (swp d (j+1) j) else d:=by
 conv=>lhs;rw[shiftDown]
 simp only[uS];by_cases h2:cD d[j+1]! d[j]! <0
 ·rw[aj (tk h2),ak h2]
 ·rw[ak h2,aj h2]
theorem MH (b j:Nat) (d:Array Int):shiftUp aC b j d=if j<b then (if cD d[j]! d[j-1]! <0 then shiftUp aC b (j+1) (swp d j (j-1)) else d) else d:=by
 conv=>lhs;rw[shiftUp]
 simp only[uS];by_cases h:j<b
 ·rw[ak h,ak h];by_cases h2:cD d[j]! d[j-1]! <0
  ·rw[aj (tk h2),ak h2]
  ·rw[ak h2,aj h2]
 ·rw[aj h,aj h]
theorem apE {a:Nat}: ∀(n i j:Nat) (d:Array Int),j+1-i≤n→(partLoop aC a i j d).2.size=d.size∧(partLoop aC a i j d).1≤j:=by
 intro n
 induction n with
 | zero=>
  intro i j d hn;have h1:=scanUp_ge (fun x=>aC x d[a]!) d j i;have h2:=scanDown_le (fun x=> !aC x d[a]!) d (scanUp (fun x=>aC x d[a]!) d j i) j;rw[partLoop_eq,bt];exact ⟨rfl,h2⟩
 | succ n ih=>
  intro i j d hn;rw[partLoop_eq];have h1:=scanUp_ge (fun x=>aC x d[a]!) d j i;have h2:=scanDown_le (fun x=> !aC x d[a]!) d (scanUp (fun x=>aC x d[a]!) d j i) j;split
  ·exact ⟨rfl,h2⟩
  ·obtain ⟨h3,h4⟩:=ih (scanUp (fun x=>aC x d[a]!) d j i+1) (scanDown (fun x=> !aC x d[a]!) d (scanUp (fun x=>aC x d[a]!) d j i) j-1) (swp d (scanUp (fun x=>aC x d[a]!) d j i) (scanDown (fun x=> !aC x d[a]!) d (scanUp (fun x=>aC x d[a]!) d j i) j)) (by omega);exact ⟨by rw[h3,size_swp],by omega⟩
theorem mR {β:Type} {d:Array Int} {i:Nat} {f:V→Option β} (h:i<d.size:=by omega):aq (eA d) (i:Int) f=f (rD (d[i]!)):=by
 unfold aq;rw[iJ,iZ,bu,bt,bu,bt,Int.toNat_natCast,iK h];rfl
theorem apF {a j:Nat} {d:Array Int} (ha:a<d.size) (hj:j<d.size) (hs:d.size<1152921504606846976): ∀(n i:Nat),j+1-i=n→i≤d.size→
  ∃t,Loop (Gr CC a j (eA d)) (i:Int)=some (((scanUp (fun x=>aC x d[a]!) d j i:Nat):Int),t):=by
 intro n
 induction n with
 | zero=>
  intro i hn hi;rw[Bh,bN];exact ⟨false,cQ (by simp (disch:=omega) only[Gr,Gq,bu,aj])⟩
 | succ n ih=>
  intro i hn hi;obtain ⟨t,h⟩:=ih (i+1) (by omega) (by omega);rw[Bh,bt];have e:Gr CC a j (eA d) (i:Int)=if cD d[i]! d[a]! <0 then some (.inl ((i+1:Nat):Int)) else some (.inr ((i:Int),decide (cD d[i]! d[a]! <0))):=by
   simp (disch:=omega) only[Gr,Gq,bu,iZ,iY,ak,aj,wrap64,eN,iv,Int.toNat_natCast,Option.bind_some,iJ,iK,gf,iu,j5,jk,je,V.dF,V.toInt_int,V.dP,cond_true,cond_false]
  simp only[wD];by_cases h2:cD d[i]! d[a]! <0
  ·rw[ak h2] at e;rw[ak h2];exact ⟨t,(eD e).trans h⟩
  ·rw[aj h2] at e;rw[aj h2];exact ⟨_,cQ e⟩
theorem adE {a j:Nat} {d:Array Int} (ha:a<d.size) (hj:j<d.size) (hs:d.size<1152921504606846976): ∀(n i:Nat),j+1-i=n→i≤d.size→
  ∃t,Loop (Gt CC a j (eA d)) (i:Int)=some (((scanUp (fun x=>aC x d[a]!) d j i:Nat):Int),t):=by
 intro n
 induction n with
 | zero=>
  intro i hn hi;rw[Bh,bN];exact ⟨false,cQ (by simp (disch:=omega) only[Gt,Gs,bu,aj])⟩
 | succ n ih=>
  intro i hn hi;obtain ⟨t,h⟩:=ih (i+1) (by omega) (by omega);rw[Bh,bt];have e:Gt CC a j (eA d) (i:Int)=if cD d[i]! d[a]! <0 then some (.inl ((i+1:Nat):Int)) else some (.inr ((i:Int),decide (cD d[i]! d[a]! <0))):=by
   simp (disch:=omega) only[Gt,Gs,bu,iZ,iY,ak,aj,wrap64,eN,iv,Int.toNat_natCast,Option.bind_some,iJ,iK,gf,iu,j5,jk,je,V.dF,V.toInt_int,V.dP,cond_true,cond_false]
  simp only[wD];by_cases h2:cD d[i]! d[a]! <0
  ·rw[ak h2] at e;rw[ak h2];exact ⟨t,(eD e).trans h⟩
  ·rw[aj h2] at e;rw[aj h2];exact ⟨_,cQ e⟩
theorem adF {a i:Nat} {d:Array Int} (ha:a<d.size) (hi:1≤i) (hs:d.size<1152921504606846976): ∀(j:Nat),j<d.size→
  ∃t,Loop (Bp CC a i (eA d)) (j:Int)=some (((scanDown (fun x=> !aC x d[a]!) d i j:Nat):Int),t)
 | 0,hj=>⟨false,cQ (by simp (disch:=omega) only[Bp,Bo,bu,aj];rfl)⟩
 | j+1,hj=>by
  obtain ⟨t,h⟩:=adF ha hi hs j (by omega);rw[Uh];by_cases h1:i≤j+1
  ·rw[ak h1];have e:Bp CC a i (eA d) ((j+1:Nat):Int)=if cD d[j+1]! d[a]! <0 then some (.inr (((j+1:Nat):Int),!decide (cD d[j+1]! d[a]! <0))) else some (.inl (j:Int)):=by
    simp (disch:=omega) only[Bp,Bo,bu,iZ,iY,ak,aj,wrap64,eN,iv,Int.toNat_natCast,Option.bind_some,iJ,iK,gf,iu,j5,jk,je,V.dF,V.toInt_int,V.dP,cond_true,cond_false,yH]
   simp only[uS];by_cases h2:cD d[j+1]! d[a]! <0
   ·rw[ak h2] at e;rw[aj (tk h2)];exact ⟨_,cQ e⟩
   ·rw[aj h2] at e;rw[ak h2];exact ⟨t,(eD e).trans h⟩
  ·rw[aj h1];exact ⟨false,cQ (by simp (disch:=omega) only[Bp,Bo,bu,aj])⟩
theorem Un {a i:Nat} {d:Array Int} (ha:a<d.size) (hi:1≤i) (hs:d.size<1152921504606846976): ∀(j:Nat),j<d.size→
  ∃t,Loop (Bs CC a i (eA d)) (j:Int)=some (((scanDown (fun x=> !aC x d[a]!) d i j:Nat):Int),t)
 | 0,hj=>⟨false,cQ (by simp (disch:=omega) only[Bs,Bq,bu,aj];rfl)⟩
 | j+1,hj=>by
  obtain ⟨t,h⟩:=Un ha hi hs j (by omega);rw[Uh];by_cases h1:i≤j+1
  ·rw[ak h1];have e:Bs CC a i (eA d) ((j+1:Nat):Int)=if cD d[j+1]! d[a]! <0 then some (.inr (((j+1:Nat):Int),!decide (cD d[j+1]! d[a]! <0))) else some (.inl (j:Int)):=by
    simp (disch:=omega) only[Bs,Bq,bu,iZ,iY,ak,aj,wrap64,eN,iv,Int.toNat_natCast,Option.bind_some,iJ,iK,gf,iu,j5,jk,je,V.dF,V.toInt_int,V.dP,cond_true,cond_false,yH]
   simp only[uS];by_cases h2:cD d[j+1]! d[a]! <0
   ·rw[ak h2] at e;rw[aj (tk h2)];exact ⟨_,cQ e⟩
   ·rw[aj h2] at e;rw[ak h2];exact ⟨t,(eD e).trans h⟩
  ·rw[aj h1];exact ⟨false,cQ (by simp (disch:=omega) only[Bs,Bq,bu,aj])⟩
theorem adG {a j:Nat} {d:Array Int} (ha:a<d.size) (hj:j<d.size) (hs:d.size<1152921504606846976): ∀(n i:Nat),j+1-i=n→i≤d.size→
  ∃t,Loop (Gz CC a j (eA d)) (i:Int)=some (((scanUp (fun x=> !aC d[a]! x) d j i:Nat):Int),t):=by
 intro n
 induction n with
 | zero=>
  intro i hn hi;rw[Bh,bN];exact ⟨false,cQ (by simp (disch:=omega) only[Gz,Gy,bu,aj])⟩
 | succ n ih=>
  intro i hn hi;obtain ⟨t,h⟩:=ih (i+1) (by omega) (by omega);rw[Bh,bt];have e:Gz CC a j (eA d) (i:Int)=if cD d[a]! d[i]! <0 then some (.inr ((i:Int),!decide (cD d[a]! d[i]! <0))) else some (.inl ((i+1:Nat):Int)):=by
   simp (disch:=omega) only[Gz,Gy,bu,iZ,iY,ak,aj,wrap64,eN,iv,Int.toNat_natCast,Option.bind_some,iJ,iK,gf,iu,j5,jk,je,V.dF,V.toInt_int,V.dP,cond_true,cond_false]
  simp only[uS];by_cases h2:cD d[a]! d[i]! <0
  ·rw[ak h2] at e;rw[aj (tk h2)];exact ⟨_,cQ e⟩
  ·rw[aj h2] at e;rw[ak h2];exact ⟨t,(eD e).trans h⟩
theorem Uo {a i:Nat} {d:Array Int} (ha:a<d.size) (hi:1≤i) (hs:d.size<1152921504606846976): ∀(j:Nat),j<d.size→
  ∃t,Loop (Bv CC a i (eA d)) (j:Int)=some (((scanDown (fun x=>aC d[a]! x) d i j:Nat):Int),t)
 | 0,hj=>⟨false,cQ (by simp (disch:=omega) only[Bv,Bu,bu,aj];rfl)⟩
 | j+1,hj=>by
  obtain ⟨t,h⟩:=Uo ha hi hs j (by omega);rw[Uh];by_cases h1:i≤j+1
  ·rw[ak h1];have e:Bv CC a i (eA d) ((j+1:Nat):Int)=if cD d[a]! d[j+1]! <0 then some (.inl (j:Int)) else some (.inr (((j+1:Nat):Int),decide (cD d[a]! d[j+1]! <0))):=by
    simp (disch:=omega) only[Bv,Bu,bu,iZ,iY,ak,aj,wrap64,eN,iv,Int.toNat_natCast,Option.bind_some,iJ,iK,gf,iu,j5,jk,je,V.dF,V.toInt_int,V.dP,cond_true,cond_false,yH]
   simp only[wD];by_cases h2:cD d[a]! d[j+1]! <0
   ·rw[ak h2] at e;rw[ak h2];exact ⟨t,(eD e).trans h⟩
   ·rw[aj h2] at e;rw[aj h2];exact ⟨_,cQ e⟩
  ·rw[aj h1];exact ⟨false,cQ (by simp (disch:=omega) only[Bv,Bu,bu,aj])⟩
theorem apG {a:Nat}: ∀(n i j:Nat) (d:Array Int),j+1-i≤n→1≤i→i≤d.size→a<d.size→j<d.size→d.size<1152921504606846976→
  ∃x z,Loop (Bt CC a) ((i:Int),(j:Int),eA d)=some (x,(((partLoop aC a i j d).1:Nat):Int),z,eA (partLoop aC a i j d).2):=by
 intro n
 induction n with
 | zero=>
  intro i j d hn h1 h2 ha hj hs;obtain ⟨t3,e3⟩:=adE (a:=a) ha hj hs _ i rfl h2;have g1:=scanUp_ge (fun x=>aC x d[a]!) d j i;have g2:=scanDown_le (fun x=> !aC x d[a]!) d (scanUp (fun x=>aC x d[a]!) d j i) j;obtain ⟨t4,e4⟩:=Un (a:=a) (i:=scanUp (fun x=>aC x d[a]!) d j i) ha (by omega) hs j hj;rw[partLoop_eq,bt];refine ⟨((scanUp (fun x=>aC x d[a]!) d j i:Nat):Int),true,cQ ?_⟩;simp only[Bt,Gu,un];rw[e3];simp only[Option.bind_some,un];rw[e4];simp (disch:=omega) only[Option.bind_some,un,qj,cond_true]
 | succ n ih=>
  intro i j d hn h1 h2 ha hj hs;obtain ⟨t3,e3⟩:=adE (a:=a) ha hj hs _ i rfl h2;have g1:=scanUp_ge (fun x=>aC x d[a]!) d j i;have g2:=scanDown_le (fun x=> !aC x d[a]!) d (scanUp (fun x=>aC x d[a]!) d j i) j;obtain ⟨t4,e4⟩:=Un (a:=a) (i:=scanUp (fun x=>aC x d[a]!) d j i) ha (by omega) hs j hj;rw[partLoop_eq];have f:Bt CC a ((i:Int),(j:Int),eA d)=Bt CC a ((i:Int),(j:Int),eA d):=rfl
  conv at f=>rhs;simp only[Bt,Gu,un];rw[e3];simp only[Option.bind_some,un];rw[e4];simp only[Option.bind_some,un]
  generalize tT:scanUp (fun x=>aC x d[a]!) d j i=i2 at*
  generalize dg:scanDown (fun x=> !aC x d[a]!) d i2 j=j2 at*
  by_cases h:i2>j2
  ·rw[ak h];refine ⟨(i2:Int),true,cQ (f.trans ?_)⟩;simp (disch:=omega) only[Option.bind_some,qj,cond_true]
  ·rw[aj h];obtain ⟨x,z,e⟩:=ih (i2+1) (j2-1) (swp d i2 j2) (by omega) (by omega) (by rw[size_swp];omega) (by rw[size_swp];omega) (by rw[size_swp];omega) (by rw[size_swp];omega);refine ⟨x,z,(eD (f.trans ?_)).trans e⟩;simp (disch:=omega) only[bu,iZ,iY,ak,aj,wrap64,eN,iv,Int.toNat_natCast,Option.bind_some,iJ,iK,gf,iu,j5,jk,je,V.dF,V.toInt_int,V.dP,cond_true,cond_false,mP];rfl
theorem apH (d:Array Int) (a b pivot:Nat):partition aC d a b pivot=
  if scanUp (fun x=>aC x (swp d a pivot)[a]!) (swp d a pivot) (b-1) (a+1)>scanDown (fun x=> !aC x (swp d a pivot)[a]!) (swp d a pivot) (scanUp (fun x=>aC x (swp d a pivot)[a]!) (swp d a pivot) (b-1) (a+1)) (b-1) then
   (scanDown (fun x=> !aC x (swp d a pivot)[a]!) (swp d a pivot) (scanUp (fun x=>aC x (swp d a pivot)[a]!) (swp d a pivot) (b-1) (a+1)) (b-1),true,swp (swp d a pivot) (scanDown (fun x=> !aC x (swp d a pivot)[a]!) (swp d a pivot) (scanUp (fun x=>aC x (swp d a pivot)[a]!) (swp d a pivot) (b-1) (a+1)) (b-1)) a)
  else
   ((partLoop aC a (scanUp (fun x=>aC x (swp d a pivot)[a]!) (swp d a pivot) (b-1) (a+1)+1) (scanDown (fun x=> !aC x (swp d a pivot)[a]!) (swp d a pivot) (scanUp (fun x=>aC x (swp d a pivot)[a]!) (swp d a pivot) (b-1) (a+1)) (b-1)-1) (swp (swp d a pivot) (scanUp (fun x=>aC x (swp d a pivot)[a]!) (swp d a pivot) (b-1) (a+1)) (scanDown (fun x=> !aC x (swp d a pivot)[a]!) (swp d a pivot) (scanUp (fun x=>aC x (swp d a pivot)[a]!) (swp d a pivot) (b-1) (a+1)) (b-1)))).1,false,
    swp (partLoop aC a (scanUp (fun x=>aC x (swp d a pivot)[a]!) (swp d a pivot) (b-1) (a+1)+1) (scanDown (fun x=> !aC x (swp d a pivot)[a]!) (swp d a pivot) (scanUp (fun x=>aC x (swp d a pivot)[a]!) (swp d a pivot) (b-1) (a+1)) (b-1)-1) (swp (swp d a pivot) (scanUp (fun x=>aC x (swp d a pivot)[a]!) (swp d a pivot) (b-1) (a+1)) (scanDown (fun x=> !aC x (swp d a pivot)[a]!) (swp d a pivot) (scanUp (fun x=>aC x (swp d a pivot)[a]!) (swp d a pivot) (b-1) (a+1)) (b-1)))).2
    (partLoop aC a (scanUp (fun x=>aC x (swp d a pivot)[a]!) (swp d a pivot) (b-1) (a+1)+1) (scanDown (fun x=> !aC x (swp d a pivot)[a]!) (swp d a pivot) (scanUp (fun x=>aC x (swp d a pivot)[a]!) (swp d a pivot) (b-1) (a+1)) (b-1)-1) (swp (swp d a pivot) (scanUp (fun x=>aC x (swp d a pivot)[a]!) (swp d a pivot) (b-1) (a+1)) (scanDown (fun x=> !aC x (swp d a pivot)[a]!) (swp d a pivot) (scanUp (fun x=>aC x (swp d a pivot)[a]!) (swp d a pivot) (b-1) (a+1)) (b-1)))).1 a):=rfl
theorem Bx (d:Array Int) (i j:Nat):eA ((d.setIfInBounds i d[j]!).setIfInBounds j d[i]!)=eA (swp d i j):=rfl
theorem apI {a b pivot:Nat} {d:Array Int} (hp:pivot<b) (ib:a<b) (hb:b≤d.size) (hs:d.size<1152921504606846976):
  CC qb [.int .i64 (a:Int),.int .i64 (b:Int),.int .i64 (pivot:Int),.list ae (eA d)]=
   some [.int .i64 ((partition aC d a b pivot).1:Int),.bool (partition aC d a b pivot).2.1,.list ae (eA (partition aC d a b pivot).2.2)]:=by
 refine apl ?_;unfold ady;have z1:(swp d a pivot).size=d.size:=size_swp ..;obtain ⟨t1,e1⟩:=apF (a:=a) (j:=b-1) (d:=swp d a pivot) (by omega) (by omega) (by omega) _ (a+1) rfl (by omega);have g1:=scanUp_ge (fun x=>aC x (swp d a pivot)[a]!) (swp d a pivot) (b-1) (a+1);have g2:=scanDown_le (fun x=> !aC x (swp d a pivot)[a]!) (swp d a pivot) (scanUp (fun x=>aC x (swp d a pivot)[a]!) (swp d a pivot) (b-1) (a+1)) (b-1);obtain ⟨t2,e2⟩:=adF (a:=a) (i:=scanUp (fun x=>aC x (swp d a pivot)[a]!) (swp d a pivot) (b-1) (a+1)) (d:=swp d a pivot) (by omega) (by omega) (by omega) (b-1) (by omega);have e0:=apH d a b pivot;rw[mR (i:=pivot),mR (i:=a),mR (i:=a),MD (i:=pivot)];simp only[gf,Int.toNat_natCast,iu,Bx];simp (disch:=omega) only[mP,eN,wrap64];rw[e1];simp only[Option.bind_some,un];rw[e2];simp only[Option.bind_some,un];generalize tT:scanUp (fun x=>aC x (swp d a pivot)[a]!) (swp d a pivot) (b-1) (a+1)=i2 at*
 generalize dg:scanDown (fun x=> !aC x (swp d a pivot)[a]!) (swp d a pivot) i2 (b-1)=j2 at*
 generalize swp d a pivot=d1 at*
 by_cases h:i2>j2
 ·rw[ak h] at e0;rw[e0,bu,bt];rw[mR (i:=a),mR (i:=j2)];rw[mR (i:=j2),MD (i:=a)];simp only[gf,Int.toNat_natCast,iu,Bx]
 ·rw[aj h] at e0;rw[e0,bu,bN];have z2:(swp d1 i2 j2).size=d1.size:=size_swp ..;obtain ⟨x,z,e5⟩:=apG (a:=a) _ (i2+1) (j2-1) (swp d1 i2 j2) (az _) (by omega) (by omega) (by omega) (by omega) (by omega);obtain ⟨q1,q2⟩:=apE (a:=a) _ (i2+1) (j2-1) (swp d1 i2 j2) (az _);rw[mR (i:=j2),mR (i:=i2)];rw[mR (i:=i2),MD (i:=j2)];simp only[gf,Int.toNat_natCast,iu,Bx];simp (disch:=omega) only[mP,eN,wrap64];rw[e5];generalize partLoop aC a (i2+1) (j2-1) (swp d1 i2 j2)=r at*
  simp only[Option.bind_some,un];rw[mR (i:=a),mR (i:=r.1)];rw[mR (i:=r.1),MD (i:=a)];simp only[gf,Int.toNat_natCast,iu,Bx]
theorem apJ {a:Nat}: ∀(n i j:Nat) (d:Array Int),j+1-i≤n→1≤i→i≤d.size→a<d.size→j<d.size→d.size<1152921504606846976→
  ∃x z,Loop (Bw CC a) ((i:Int),(j:Int),eA d)=some ((((partEqLoop aC a i j d).1:Nat):Int),x,z,eA (partEqLoop aC a i j d).2):=by
 intro n
 induction n with
 | zero=>
  intro i j d hn h1 h2 ha hj hs;obtain ⟨t3,e3⟩:=adG (a:=a) ha hj hs _ i rfl h2;have g1:=scanUp_ge (fun x=> !aC d[a]! x) d j i;have g2:=scanDown_le (fun x=>aC d[a]! x) d (scanUp (fun x=> !aC d[a]! x) d j i) j;obtain ⟨t4,e4⟩:=Uo (a:=a) (i:=scanUp (fun x=> !aC d[a]! x) d j i) ha (by omega) hs j hj;rw[partEqLoop_eq,bt];refine ⟨((scanDown (fun x=>aC d[a]! x) d (scanUp (fun x=> !aC d[a]! x) d j i) j:Nat):Int),true,cQ ?_⟩;simp only[Bw,GA,un];rw[e3];simp only[Option.bind_some,un];rw[e4];simp (disch:=omega) only[Option.bind_some,un,qj,cond_true]
 | succ n ih=>
  intro i j d hn h1 h2 ha hj hs;obtain ⟨t3,e3⟩:=adG (a:=a) ha hj hs _ i rfl h2;have g1:=scanUp_ge (fun x=> !aC d[a]! x) d j i;have g2:=scanDown_le (fun x=>aC d[a]! x) d (scanUp (fun x=> !aC d[a]! x) d j i) j;obtain ⟨t4,e4⟩:=Uo (a:=a) (i:=scanUp (fun x=> !aC d[a]! x) d j i) ha (by omega) hs j hj;rw[partEqLoop_eq];have f:Bw CC a ((i:Int),(j:Int),eA d)=Bw CC a ((i:Int),(j:Int),eA d):=rfl
  conv at f=>rhs;simp only[Bw,GA,un];rw[e3];simp only[Option.bind_some,un];rw[e4];simp only[Option.bind_some,un]
  generalize tT:scanUp (fun x=> !aC d[a]! x) d j i=i2 at*
  generalize dg:scanDown (fun x=>aC d[a]! x) d i2 j=j2 at*
  by_cases h:i2>j2
  ·rw[ak h];refine ⟨(j2:Int),true,cQ (f.trans ?_)⟩;simp (disch:=omega) only[Option.bind_some,qj,cond_true]
  ·rw[aj h];obtain ⟨x,z,e⟩:=ih (i2+1) (j2-1) (swp d i2 j2) (by omega) (by omega) (by rw[size_swp];omega) (by rw[size_swp];omega) (by rw[size_swp];omega) (by rw[size_swp];omega);refine ⟨x,z,(eD (f.trans ?_)).trans e⟩;simp (disch:=omega) only[bu,iZ,iY,ak,aj,wrap64,eN,iv,Int.toNat_natCast,Option.bind_some,iJ,iK,gf,iu,j5,jk,je,V.dF,V.toInt_int,V.dP,cond_true,cond_false,mP];rfl
theorem apK {a b pivot:Nat} {d:Array Int} (hp:pivot<b) (ib:a<b) (hb:b≤d.size) (hs:d.size<1152921504606846976):
  CC xS [.int .i64 (a:Int),.int .i64 (b:Int),.int .i64 (pivot:Int),.list ae (eA d)]=
   some [.int .i64 ((partitionEqual aC d a b pivot).1:Int),.list ae (eA (partitionEqual aC d a b pivot).2)]:=by
 refine aps ?_;unfold adz;have z1:(swp d a pivot).size=d.size:=size_swp ..;obtain ⟨x,z,e⟩:=apJ (a:=a) _ (a+1) (b-1) (swp d a pivot) (az _) (by omega) (by omega) (by omega) (by omega) (by omega);simp (disch:=omega) only[bu,iZ,ak,iJ,iK,Int.toNat_natCast,Option.bind_some,gf,iu,j5,jk,mP,eN,wrap64,Bx];rw[e];rfl
theorem apL {a b j:Nat} {d:Array Int} (hb:b≤d.size) (hs:d.size<1152921504606846976): ∀(n i:Nat),b-i=n→1≤i→i≤b→
  ∃t,Loop (GC CC a b j (eA d)) (i:Int)=some (((scanSorted aC d b i:Nat):Int),t):=by
 intro n
 induction n with
 | zero=>
  intro i hn h1 hi;rw[MG,bN];exact ⟨false,cQ (by simp (disch:=omega) only[GC,GB,bu,aj])⟩
 | succ n ih=>
  intro i hn h1 hi;obtain ⟨t,h⟩:=ih (i+1) (by omega) (by omega) (by omega);rw[MG,bt];have e:GC CC a b j (eA d) (i:Int)=if cD d[i]! d[i-1]! <0 then some (.inr ((i:Int),!decide (cD d[i]! d[i-1]! <0))) else some (.inl ((i+1:Nat):Int)):=by
   simp (disch:=omega) only[GC,GB,mP,bu,iZ,iY,ak,aj,wrap64,eN,iv,Int.toNat_natCast,Option.bind_some,iJ,iK,gf,iu,j5,jk,je,V.dF,V.toInt_int,V.dP,cond_true,cond_false]
  by_cases h2:cD d[i]! d[i-1]! <0
  ·rw[ak h2] at e⊢;exact ⟨_,cQ e⟩
  ·rw[aj h2] at e⊢;exact ⟨t,(eD e).trans h⟩
theorem adH: ∀(j:Nat) (d:Array Int),(shiftDown aC j d).size=d.size
 | 0,_=>rfl
 | j+1,d=>by
  rw[adD];split
  ·rw[adH j,size_swp]
  ·rfl
theorem apM {b:Nat}: ∀(n j:Nat) (d:Array Int),b-j=n→(shiftUp aC b j d).size=d.size:=by
 intro n
 induction n with
 | zero=>intro j d h;rw[MH,bN]
 | succ n ih=>
  intro j d h;rw[MH,bt];split
  ·rw[ih _ _ (by omega),size_swp]
  ·rfl
theorem adI {a b i k:Nat}: ∀(j:Nat) (d:Array Int),j<d.size→d.size<1152921504606846976→
  ∃t,Loop (GF CC a b i k) ((j:Int),eA d)=some (t,eA (shiftDown aC j d))
 | 0,d,hj,hs=>⟨(0:Nat),cQ (by
   simp (disch:=omega) only[GF,GD,un,bu,aj];rfl)⟩
 | j+1,d,hj,hs=>by
  obtain ⟨t,ih⟩:=adI (a:=a) (b:=b) (i:=i) (k:=k) j (swp d (j+1) j) (by rw[size_swp];omega) (by rw[size_swp];omega);rw[adD];have e:GF CC a b i k (((j+1:Nat):Int),eA d)=if cD d[j+1]! d[j]! <0 then some (.inl ((j:Int),eA (swp d (j+1) j))) else some (.inr (((j+1:Nat):Int),eA d)):=by
   simp (disch:=omega) only[GF,GD,un,bu,iZ,iY,ak,aj,wrap64,eN,iv,Int.toNat_natCast,Option.bind_some,iJ,iK,gf,iu,j5,jk,je,V.dF,V.toInt_int,V.dP,cond_true,cond_false,yH];rfl
  by_cases h2:cD d[j+1]! d[j]! <0
  ·rw[ak h2] at e⊢;exact ⟨t,(eD e).trans ih⟩
  ·rw[aj h2] at e⊢;exact ⟨_,cQ e⟩
theorem apO {a b i k:Nat}: ∀(n j:Nat) (d:Array Int),b-j=n→1≤j→j≤b→b≤d.size→d.size<1152921504606846976→
  ∃t,Loop (GH CC a b i k) ((j:Int),eA d)=some (t,eA (shiftUp aC b j d)):=by
 intro n
 induction n with
 | zero=>
  intro j d hn h1 hj hb hs;rw[MH,bN];exact ⟨(j:Int),cQ (by
   simp (disch:=omega) only[GH,GG,un,bu,aj])⟩
 | succ n ih=>
  intro j d hn h1 hj hb hs;obtain ⟨t,h⟩:=ih (j+1) (swp d j (j-1)) (by omega) (by omega) (by omega) (by rw[size_swp];omega) (by rw[size_swp];omega);rw[MH,bt];have e:GH CC a b i k ((j:Int),eA d)=if cD d[j]! d[j-1]! <0 then some (.inl (((j+1:Nat):Int),eA (swp d j (j-1)))) else some (.inr ((j:Int),eA d)):=by
   simp (disch:=omega) only[GH,GG,un,mP,bu,iZ,iY,ak,aj,wrap64,eN,iv,Int.toNat_natCast,Option.bind_some,iJ,iK,gf,iu,j5,jk,je,V.dF,V.toInt_int,V.dP,cond_true,cond_false];rfl
  by_cases h2:cD d[j]! d[j-1]! <0
  ·rw[ak h2] at e⊢;exact ⟨t,(eD e).trans h⟩
  ·rw[aj h2] at e⊢;exact ⟨_,cQ e⟩
theorem apP {d:Array Int} {b:Nat}: ∀(n i:Nat),b-i=n→i≤b→i≤scanSorted aC d b i∧scanSorted aC d b i≤b:=by
 intro n
 induction n with
 | zero=>intro i hn hi;rw[MG,bN];omega
 | succ n ih=>
  intro i hn hi;rw[MG,bt];obtain ⟨h1,h2⟩:=ih (i+1) (by omega) (by omega);split<;>omega
theorem apQ {a b:Nat}: ∀(s i:Nat) (d:Array Int),s≤5→a<i→i≤b→b≤d.size→d.size<1152921504606846976→
  (Loop (wE CC a b) ((i:Int),((5-s:Nat):Int),eA d)=some (.inl ((partialIns aC a b s i d).2,eA (partialIns aC a b s i d).1)))∨
  (∃x y z,(partialIns aC a b s i d).2=false∧Loop (wE CC a b) ((i:Int),((5-s:Nat):Int),eA d)=some (.inr (x,y,z,eA (partialIns aC a b s i d).1))):=by
 intro s
 induction s with
 | zero=>
  intro i d hs5 hi Up hb hs;refine .inr ⟨(i:Int),((5:Nat):Int),false,rfl,cQ ?_⟩;simp (disch:=omega) only[wE,GI,un,wB,cond_false];rfl
 | succ s ih=>
  intro i d hs5 hi Up hb hs;obtain ⟨t1,e1⟩:=apL (a:=a) (j:=5-(s+1)) hb hs _ i rfl (by omega) Up;obtain ⟨q1,q2⟩:=apP (d:=d) _ i rfl Up;rw[partialIns_succ];have f:wE CC a b ((i:Int),((5-(s+1):Nat):Int),eA d)=wE CC a b ((i:Int),((5-(s+1):Nat):Int),eA d):=rfl
  conv at f=>rhs;simp only[wE,GI,un];rw[bu,bt,e1];simp only[Option.bind_some,un]
  generalize scanSorted aC d b i=k at*
  by_cases h1:k=b
  ·rw[ak h1];left;refine cQ (f.trans ?_);rw[vT,bt]
  ·rw[aj h1];by_cases h2:b-a<50
   ·rw[ak h2];left;refine cQ (f.trans ?_);rw[vT,bN,gB,bu,bt]
   ·rw[aj h2];have z1:(swp d k (k-1)).size=d.size:=size_swp ..;have z2:(fixDown aC a k (swp d k (k-1))).size=d.size:=by
     unfold fixDown;split
     ·rw[adH,z1]
     ·exact z1
    have z3:(fixUp aC b k (fixDown aC a k (swp d k (k-1)))).size=d.size:=by
     unfold fixUp;split
     ·rw[apM _ _ _ rfl,z2]
     ·exact z2
    obtain ⟨t2,e2⟩:=adI (a:=a) (b:=b) (i:=k) (k:=5-(s+1)) (k-1) (swp d k (k-1)) (by omega) (by omega);obtain ⟨t4,e4⟩:=apO (a:=a) (b:=b) (i:=k) (k:=5-(s+1)) _ (k+1) (fixDown aC a k (swp d k (k-1))) rfl (by omega) (by omega) (by omega) (by omega);have e5:wE CC a b ((i:Int),((5-(s+1):Nat):Int),eA d)=some (.inl ((k:Int),((5-s:Nat):Int),eA (fixUp aC b k (fixDown aC a k (swp d k (k-1)))))):=by
     refine f.trans ?_;rw[vT,bN,gB,bu,bN];simp (disch:=omega) only[bu,iZ,ak,iJ,iK,Int.toNat_natCast,Option.bind_some,gf,iu,j5,jk,mP,eN,pn,wrap64,Bx,ME];rw[show 5-(s+1)+1=5-s by omega];unfold fixDown at e4⊢;unfold fixUp;have c1:(((k-a:Nat):Int)≥2)=(k-a≥2):=propext (by omega);have c2:(((b-k:Nat):Int)≥2)=(b-k≥2):=propext (by omega);simp only[c1,c2];by_cases g1:k-a≥2
     ·by_cases g2:b-k≥2
      ·simp only[g1,g2,lr,e2,Option.bind_some,un] at e4⊢;rw[e4];rfl
      ·simp only[g1,g2,lr,mX,e2,Option.bind_some,un]
     ·by_cases g2:b-k≥2
      ·simp only[g1,g2,lr,mX] at e4⊢;rw[e4];rfl
      ·exact absurd (show b-k≥2 by omega) g2
    rw[eD e5];exact ih k _ (by omega) (by omega) (by omega) (by omega) (by omega)
theorem adJ {a b:Nat} {d:Array Int} (ib:a<b) (hb:b≤d.size) (hs:d.size<1152921504606846976):
  CC Kv [.int .i64 (a:Int),.int .i64 (b:Int),.list ae (eA d)]=
   some [.bool (partialInsertionSort aC d a b).2,.list ae (eA (partialInsertionSort aC d a b).1)]:=by
 refine apD ?_;unfold adB;simp (disch:=omega) only[eN,wrap64];rcases apQ (a:=a) (b:=b) 5 (a+1) d (az _) (by omega) (by omega) hb hs with h|⟨x,y,z,h0,h⟩
 ·rw[show ((5-5:Nat):Int)=0 from rfl] at h;rw[h];rfl
 ·rw[show ((5-5:Nat):Int)=0 from rfl] at h;rw[h];unfold partialInsertionSort;rw[h0];rfl
end Go.AM.SO
set_option maxRecDepth 100000
namespace Go.AM
open Go.IntKind (wrap)
open Go.Proofs
noncomputable def GK (C:af) (data:LV) (i j k':Int) (t34:Bool) (jF:Int) {β:Type} (kr:(Int×Int×Int×Int)→Option β):Option β:=
 bif t34 then
  (C AB [.list ae data,V.int .i64 i,V.int .i64 jF]).bind fun r1=>
  (C AB [.list ae data,V.int .i64 j,V.int .i64 ((V.nth (r1.drop 1) 0).toInt)]).bind fun r2=>
  (C AB [.list ae data,V.int .i64 k',V.int .i64 ((V.nth (r2.drop 1) 0).toInt)]).bind fun r3=>
  kr ((V.nth r1 0).toInt,(V.nth r2 0).toInt,(V.nth r3 0).toInt,(V.nth (r3.drop 1) 0).toInt)
 else
  kr (i,j,k',jF)
noncomputable def GL (C:af) (data:LV) (l i j k':Int) (t32:Bool) (jF:Int) {β:Type} (kr:(Int×Int)→Option β):Option β:=
 bif t32 then
  GK C data i j k' (decide (l≥50)) jF (un fun mb=>un fun j_5=>un fun (k_6:Int) (apR:Int)=>
   (C Eg [.list ae data,V.int .i64 mb,V.int .i64 j_5,V.int .i64 k_6,V.int .i64 apR]).bind fun r8=>
   kr ((V.nth r8 0).toInt,(V.nth (r8.drop 1) 0).toInt))
 else
  kr (j,jF)
noncomputable def adK (C:af):cx:=o9 559 Se [[1,0,0,0,0]] (@GK C) (o9 527 Sf [[0,0]] (@GL C) bA)
theorem apS (C:af):aZ C (adK C) 91 (Cd 34 [1,1,1,1,1,1,0,1,0,0,1,0] [1,1,1,1,1,1,0,1,0,0,1,1] 91):=o8 Se [[1,0,0,0,0]] (@GK C) (aR au) (aR au)
theorem apU (C:af):aZ C (adK C) 91 (Cd 32 [1,1,1,1,1,1,0,1,0] [1,1,1,1,1,1,0,1,1] 91):=o8 Sf [[0,0]] (@GL C) (aR (aY (apS C) au)) (aR au)
noncomputable def Uq (C:af) (data:LV) (a b':Int):Option LV:=
 GL C data (wrap .i64 (b'-a)) (wrap .i64 (a+(wrap .i64 (1*(wrap .i64 (Int.tdiv (wrap .i64 (b'-a)) 4)))))) (wrap .i64 (a+(wrap .i64 (2*(wrap .i64 (Int.tdiv (wrap .i64 (b'-a)) 4)))))) (wrap .i64 (a+(wrap .i64 (3*(wrap .i64 (Int.tdiv (wrap .i64 (b'-a)) 4)))))) (decide (((wrap .i64 (b'-a)):Int)≥8)) 0 (un fun (Ur:Int) (adL:Int)=>
  bif (adL:Int)==0 then
   some [V.int .i64 Ur,V.int .i64 1]
  else
   bif (adL:Int)==12 then
   some [V.int .i64 Ur,V.int .i64 2]
   else
   some [V.int .i64 Ur,V.int .i64 0])
theorem adM {data:LV} {a b':Int} {r:Option LV} (h:Uq CC data a b'=r):CC Eb [.list ae data,V.int .i64 a,V.int .i64 b']=r:=bz (aY (apU CC) au) h
noncomputable def adN (C:af) (data:LV) (a b' c jF:Int):Option LV:=
 (C AD [.list ae data,V.int .i64 a,V.int .i64 b',V.int .i64 jF]).bind fun r1=>
 (C AD [.list ae data,V.int .i64 ((V.nth (r1.drop 1) 0).toInt),V.int .i64 c,V.int .i64 ((V.nth (r1.drop 2) 0).toInt)]).bind fun r2=>
 (C AD [.list ae data,V.int .i64 ((V.nth r1 0).toInt),V.int .i64 ((V.nth r2 0).toInt),V.int .i64 ((V.nth (r2.drop 2) 0).toInt)]).bind fun r3=>
 some [V.int .i64 ((V.nth (r3.drop 1) 0).toInt),V.int .i64 ((V.nth (r3.drop 2) 0).toInt)]
theorem apV {data:LV} {a b' c jF:Int} {r:Option LV} (h:adN CC data a b' c jF=r):CC Eg [.list ae data,V.int .i64 a,V.int .i64 b',V.int .i64 c,V.int .i64 jF]=r:=bz (L:=bA) au h
noncomputable def Us (C:af) (data:LV) (a b' jF:Int):Option LV:=
 (idx data b').bind fun x1=>
 (idx data a).bind fun x2=>
 (C jy [V.int .i64 x1.toInt,V.int .i64 x2.toInt]).bind fun r3=>
 bif (V.nth r3 0).toBool then
  some [V.int .i64 b',V.int .i64 a,V.int .i64 (wrap .i64 (jF+1))]
 else
  some [V.int .i64 a,V.int .i64 b',V.int .i64 jF]
theorem adO {data:LV} {a b' jF:Int} {r:Option LV} (h:Us CC data a b' jF=r):CC AD [.list ae data,V.int .i64 a,V.int .i64 b',V.int .i64 jF]=r:=bz (L:=bA) au h
noncomputable def adP (C:af) (data:LV) (a jF:Int):Option LV:=
 (C Eg [.list ae data,V.int .i64 (wrap .i64 (a-1)),V.int .i64 a,V.int .i64 (wrap .i64 (a+1)),V.int .i64 jF]).bind fun r1=>
 some [V.int .i64 ((V.nth r1 0).toInt),V.int .i64 ((V.nth (r1.drop 1) 0).toInt)]
theorem apW {data:LV} {a jF:Int} {r:Option LV} (h:adP CC data a jF=r):CC AB [.list ae data,V.int .i64 a,V.int .i64 jF]=r:=bz (L:=bA) au h
noncomputable def MI (C:af) (a length By ql other:Int) (t43:Bool) (an:LV) (GM:Int) {β:Type} (kr:(Int)→Option β):Option β:=
 bif t43 then
  kr (wrap .i64 (other-length))
 else
  kr other
noncomputable def GN (C:af) (a length By ql:Int) (an:LV) (GM:Int) {β:Type} (kn:(Int×LV×Int)→Option β) (kr:(Int×Bool×LV×Int)→Option β):Option β:=
 bif decide (ql≤(wrap .i64 ((wrap .i64 (a+(wrap .i64 (2*(wrap .i64 (Int.tdiv length 4))))))+1))) then
  (C KA [.int .u64 GM]).bind fun r2=>
  MI C a length By ql (wrap .i64 (wrap .u64 ((BitVec.ofInt (IntKind.bits .u64) ((V.nth r2 0).toInt)&&&BitVec.ofInt (IntKind.bits .u64) (wrap .u64 (By-1))).toNat))) (decide (((wrap .i64 (wrap .u64 ((BitVec.ofInt (IntKind.bits .u64) ((V.nth r2 0).toInt)&&&BitVec.ofInt (IntKind.bits .u64) (wrap .u64 (By-1))).toNat))):Int)≥length)) an ((V.nth (r2.drop 1) 0).toInt) (fun Ut=>
   aq an (wrap .i64 (a+Ut)) fun x4=>
   aq an ql fun x5=>
   aq an ql fun x6=>
   aq (aD an ql (V.int .i64 x4.toInt)) (wrap .i64 (a+Ut)) fun x7=>
   kn (wrap .i64 (ql+1),aD (aD an ql (V.int .i64 x4.toInt)) (wrap .i64 (a+Ut)) (V.int .i64 x5.toInt),(V.nth (r2.drop 1) 0).toInt))
 else
  kr (ql,decide (ql≤(wrap .i64 ((wrap .i64 (a+(wrap .i64 (2*(wrap .i64 (Int.tdiv length 4))))))+1))),an,GM)
noncomputable def MJ (C:af) (a length By:Int):=un fun ql=>un fun an GM=>GN C a length By ql an GM (fun y=>some (Sum.inl y)) (fun r=>some (Sum.inr r))
noncomputable def adQ (C:af):cx:=o9 703 Sb [[1,2,3,4,0,7,8]] (@MI C) (br 81 Sd [EQ,EQ,EQ,H1,H1,H1] [[1,2,3,0,0,0,0]] (@GN C) bA)
theorem apX (C:af):aZ C (adQ C) 90 (Cd 43 [1,1,0,1,1,1,0,0,1,0,0,1,0,1,0] [1,1,0,1,1,1,0,0,1,0,0,1,0,1,1] 90):=o8 Sb [[1,2,3,4,0,7,8]] (@MI C) (aR au) (aR au)
theorem apY (C:af):aZ C (adQ C) 90 (Lp [1,1,0,1,1,1,0,0] 90):=bq Sd [EQ,EQ,EQ,H1,H1,H1] [[1,2,3,0,0,0,0]] (@GN C) (aR (aY (apX C) au))
noncomputable def adR (C:af) (a b':Int) (an:LV):Option LV:=
 bif decide (((wrap .i64 (b'-a)):Int)≥8) then
  (C Kz [V.int .i64 (wrap .i64 (b'-a))]).bind fun r1=>
  (Loop (MJ C a (wrap .i64 (b'-a)) ((V.nth r1 0).toInt)) (wrap .i64 ((wrap .i64 (a+(wrap .i64 (2*(wrap .i64 (Int.tdiv (wrap .i64 (b'-a)) 4))))))-1),an,wrap .u64 (wrap .i64 (b'-a)))).bind (un fun auf=>un fun (mL:Bool)=>un fun (rA:LV) (aug:Int)=>
   some [.list ae rA])
 else
  some [.list ae an]
theorem apZ {a b':Int} {an:LV} {r:Option LV} (h:adR CC a b' an=r):CC Kt [V.int .i64 a,V.int .i64 b',.list ae an]=r:=bz (aY (apY CC) au) h
noncomputable def adS (C:af) (xs:LV):Option LV:=
 (C D5 [.int .u64 (wrap .u64 (xs.length:Int))]).bind fun r1=>
 (C ja [V.int .i64 0,V.int .i64 (xs.length:Int),V.int .i64 ((V.nth r1 0).toInt),.list ae xs]).bind fun r2=>
 some [.list ae ((V.nth r2 0).toList)]
theorem ap0 {xs:LV} {r:Option LV} (h:adS CC xs=r):CC D1 [.list ae xs]=r:=bz (L:=bA) au h
noncomputable def adT (C:af) (ku:Int):Option LV:=
 some [.int .u64 (wrap .u64 ((BitVec.ofInt (IntKind.bits .u64) (wrap .u64 ((BitVec.ofInt (IntKind.bits .u64) (wrap .u64 ((BitVec.ofInt (IntKind.bits .u64) ku ^^^ BitVec.ofInt (IntKind.bits .u64) (wrap .u64 (ku*2^(min (13:Int).toNat (IntKind.bits .u64))))).toNat)) ^^^ BitVec.ofInt (IntKind.bits .u64) (Int.fdiv (wrap .u64 ((BitVec.ofInt (IntKind.bits .u64) ku ^^^ BitVec.ofInt (IntKind.bits .u64) (wrap .u64 (ku*2^(min (13:Int).toNat (IntKind.bits .u64))))).toNat)) (2^(min (7:Int).toNat (IntKind.bits .u64))))).toNat)) ^^^ BitVec.ofInt (IntKind.bits .u64) (wrap .u64 ((wrap .u64 ((BitVec.ofInt (IntKind.bits .u64) (wrap .u64 ((BitVec.ofInt (IntKind.bits .u64) ku ^^^ BitVec.ofInt (IntKind.bits .u64) (wrap .u64 (ku*2^(min (13:Int).toNat (IntKind.bits .u64))))).toNat)) ^^^ BitVec.ofInt (IntKind.bits .u64) (Int.fdiv (wrap .u64 ((BitVec.ofInt (IntKind.bits .u64) ku ^^^ BitVec.ofInt (IntKind.bits .u64) (wrap .u64 (ku*2^(min (13:Int).toNat (IntKind.bits .u64))))).toNat)) (2^(min (7:Int).toNat (IntKind.bits .u64))))).toNat))*2^(min (17:Int).toNat (IntKind.bits .u64))))).toNat)),.int .u64 (wrap .u64 ((BitVec.ofInt (IntKind.bits .u64) (wrap .u64 ((BitVec.ofInt (IntKind.bits .u64) (wrap .u64 ((BitVec.ofInt (IntKind.bits .u64) ku ^^^ BitVec.ofInt (IntKind.bits .u64) (wrap .u64 (ku*2^(min (13:Int).toNat (IntKind.bits .u64))))).toNat)) ^^^ BitVec.ofInt (IntKind.bits .u64) (Int.fdiv (wrap .u64 ((BitVec.ofInt (IntKind.bits .u64) ku ^^^ BitVec.ofInt (IntKind.bits .u64) (wrap .u64 (ku*2^(min (13:Int).toNat (IntKind.bits .u64))))).toNat)) (2^(min (7:Int).toNat (IntKind.bits .u64))))).toNat)) ^^^ BitVec.ofInt (IntKind.bits .u64) (wrap .u64 ((wrap .u64 ((BitVec.ofInt (IntKind.bits .u64) (wrap .u64 ((BitVec.ofInt (IntKind.bits .u64) ku ^^^ BitVec.ofInt (IntKind.bits .u64) (wrap .u64 (ku*2^(min (13:Int).toNat (IntKind.bits .u64))))).toNat)) ^^^ BitVec.ofInt (IntKind.bits .u64) (Int.fdiv (wrap .u64 ((BitVec.ofInt (IntKind.bits .u64) ku ^^^ BitVec.ofInt (IntKind.bits .u64) (wrap .u64 (ku*2^(min (13:Int).toNat (IntKind.bits .u64))))).toNat)) (2^(min (7:Int).toNat (IntKind.bits .u64))))).toNat))*2^(min (17:Int).toNat (IntKind.bits .u64))))).toNat))]
theorem ap1 {ku:Int} {r:Option LV} (h:adT CC ku=r):CC KA [.int .u64 ku]=r:=bz (L:=bA) au h
noncomputable def adU (C:af) (length:Int):Option LV:=
 (C D5 [.int .u64 (wrap .u64 length)]).bind fun r1=>
 bif decide (0≤((V.nth r1 0).toInt)) then
  some [.int .u64 (wrap .u64 (1*2^(min ((V.nth r1 0).toInt).toNat (IntKind.bits .u64))))]
 else none
theorem ap2 {length:Int} {r:Option LV} (h:adU CC length=r):CC Kz [V.int .i64 length]=r:=bz (L:=bA) au h
noncomputable def adV (C:af) (x:Int):Option LV:=
 (C Kw [.int .u64 x]).bind fun r1=>
 some [V.int .i64 ((V.nth r1 0).toInt)]
theorem ap3 {x:Int} {r:Option LV} (h:adV CC x=r):CC D5 [.int .u64 x]=r:=bz (L:=bA) au h
end Go.AM
