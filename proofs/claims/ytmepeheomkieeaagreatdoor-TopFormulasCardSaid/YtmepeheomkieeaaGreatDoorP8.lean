/-
  Functions of the program, lifted to plain data.
-/
import Derived.Test.YtmepeheomkieeaaGreatDoorP7
set_option linter.unusedVariables false
set_option linter.unusedSimpArgs false
set_option linter.unusedSectionVars false
set_option maxRecDepth 100000
namespace Go.AM
open Go.IntKind (wrap)
open Go.Proofs
noncomputable def Vw(C:af)(yz yA yB yC yD uR:Int)(ss aE ao aj:LV):Option LV:=
 bif (dE .i64 yz&&(dE .i64 yA&&(dE .i64 yB&&(dE .i64 yC&&(dE .i64 yD&&(dE .i64 uR&&true))))))&&true then
  bif !(gD (.agg [vI yz,vI yA,vI yB,vI yC,vI yD,vI uR]) ao)then
  bif (dE .i64 yz&&(dE .i64 yA&&(dE .i64 yB&&(dE .i64 yC&&(dE .i64 yD&&(dE .i64 uR&&true))))))&&true then
   bif Nat.ble ((aE.length+([.agg [vI yz,vI yA,vI yB,vI yC,vI yD,vI uR]]:LV).length)*48) bf then
   some [vI (aE.length:Int),cz ss,mD (kJ (.agg [vI yz,vI yA,vI yB,vI yC,vI yD,vI uR]) (vI (aE.length:Int)) ao),mC aj,gG (aE++([.agg [vI yz,vI yA,vI yB,vI yC,vI yD,vI uR]]:LV))]
   else none
  else none
  else
  some [vI ((mq (.agg [vI yz,vI yA,vI yB,vI yC,vI yD,vI uR]) ao (vI 0)).toInt),cz ss,mD ao,mC aj,gG aE]
 else none
theorem aGb{yz yA yB yC yD uR:Int}{ss aE ao aj:LV}{r:Option LV}(h:Vw CC yz yA yB yC yD uR ss aE ao aj=r):CC 88 [vI yz,vI yA,vI yB,vI yC,vI yD,vI uR,cz ss,gG aE,mD ao,mC aj]=r:=bR (L:=bS) ak h
noncomputable def aee(C:af)(ts aE ao aj:LV):Option LV:=
 (C 88 [vI 1,vI 0,vI 0,vI 0,vI 0,vI 0,cz ts,gG aE,mD ao,mC aj]).bind fun r1=>
 some (vS r1 [])
theorem aGc{ts aE ao aj:LV}{r:Option LV}(h:aee CC ts aE ao aj=r):CC 89 [cz ts,gG aE,mD ao,mC aj]=r:=bR (L:=bS) ak h
noncomputable def aef(C:af)(a b':Int)(ts aE ao aj:LV):Option LV:=
 (C 88 [vI 5,vI 0,vI 0,vI 0,vI a,vI b',cz ts,gG aE,mD ao,mC aj]).bind fun r1=>
 some (vS r1 [])
theorem aGd{a b':Int}{ts aE ao aj:LV}{r:Option LV}(h:aef CC a b' ts aE ao aj=r):CC 91 [vI a,vI b',cz ts,gG aE,mD ao,mC aj]=r:=bR (L:=bS) ak h
noncomputable def aeg(C:af)(x y:Int)(ts aE ao aj:LV):Option LV:=
 (C 88 [vI 3,vI x,vI y,vI 0,vI 0,vI 0,cz ts,gG aE,mD ao,mC aj]).bind fun r1=>
 some (vS r1 [])
theorem aGe{x y:Int}{ts aE ao aj:LV}{r:Option LV}(h:aeg CC x y ts aE ao aj=r):CC 90 [vI x,vI y,cz ts,gG aE,mD ao,mC aj]=r:=bR (L:=bS) ak h
structure Fm where
 op:Nat
 x:Nat
 y:Nat
 c:Nat
 a:Nat
 b:Nat
deriving DecidableEq
def Fm.v(d:Fm):V:= .agg [vI (d.op:Int),vI (d.x:Int),vI (d.y:Int),vI (d.c:Int),vI (d.a:Int),vI (d.b:Int)]
structure Fm.Ok(d:Fm)(i:Nat):Prop where
 o1:1≤d.op
 o7:d.op≤7
 x3:d.x<3
 x0:d.op=1∨d.op=4∨d.op=5∨d.op=6→d.x=0
 y3:d.y<3
 y0:d.op≠2→d.op≠3→d.y=0
 c6:d.c<6
 c0:d.op≠2→d.c=0
 a1:4≤d.op→d.a<i
 a0:d.op<4→d.a=0
 b1:d.op=5∨d.op=6→d.b<i
 b0:d.op≠5→d.op≠6→d.b=0
def GF(fs:List Fm):Prop:= ∀(i:Nat) d,fs[i]? =some d→d.Ok i
def iX(e:Nat→Nat)(v x:Nat):Nat→Nat:=fun w=>if w=v then x else e w
def den(u:List Nat)(S:Nat→(Nat→Nat)→Prop)(d:Fm)(e:Nat→Nat):Prop:=
 if d.op=1 then True else if d.op=2 then e d.y=e d.x+1∧u.getD (e d.x) 0=d.c else if d.op=3 then e d.x≤e d.y
 else if d.op=4 then¬S d.a e else if d.op=5 then S d.a e∧S d.b e else if d.op=6 then S d.a e∨S d.b e
 else∃v,v≤u.length∧S d.a (iX e d.x v)
def E5(S:List ((Nat→Nat)→Prop))(i:Nat):(Nat→Nat)→Prop:=S.getD i fun _=>False
def Iv(u:List Nat)(S:List ((Nat→Nat)→Prop))(d:Fm):List ((Nat→Nat)→Prop):=S++[den u (E5 S) d]
def fo(fs:List Fm)(u:List Nat)(i:Nat):(Nat→Nat)→Prop:=E5 (fs.foldl (Iv u) []) i
theorem Vx(u:List Nat):∀(gs:List Fm) S,S <+: gs.foldl (Iv u) S∧(gs.foldl (Iv u) S).length=S.length+gs.length
 | [],S=>⟨List.prefix_refl _,rfl⟩
 |d::gs,S=>by
  obtain⟨h1,h2⟩:=Vx u gs (Iv u S d);refine⟨(Ja S _).trans h1,?_⟩;rw[List.foldl_cons,h2];simp[Iv];omega
theorem aGf{S T:List ((Nat→Nat)→Prop)}(h:S <+: T){i:Nat}(hi:i<S.length):E5 T i=E5 S i:=by
 unfold E5;have h2:i<T.length:=fY hi h.length_le;rw[dK hi,dK h2,h.getElem hi]
theorem Iw{fs gs:List Fm}(h:fs <+: gs){i:Nat}(hi:i<fs.length)(u:List Nat):fo gs u i=fo fs u i:=by
 obtain⟨t,rfl⟩:=h;unfold fo;rw[Fx];exact aGf (Vx u t _).1 (by rw[(Vx u fs []).2];simp;omega)
theorem an3{u:List Nat}{S T:Nat→(Nat→Nat)→Prop}{d:Fm}{i:Nat}(ok:d.Ok i)(h:∀j,j<i→S j=T j):den u S d=den u T d:=by
 have ha:4≤d.op→S d.a=T d.a:=fun h4=>h _ (ok.a1 h4);have hb:d.op=5∨d.op=6→S d.b=T d.b:=fun h5=>h _ (ok.b1 h5);have o1:=ok.o1;funext e;unfold den;by_cases h1:d.op=1
 ·rw[aP h1,aP h1]
 rw[aM h1,aM h1];by_cases h2:d.op=2
 ·rw[aP h2,aP h2]
 rw[aM h2,aM h2];by_cases h3:d.op=3
 ·rw[aP h3,aP h3]
 rw[aM h3,aM h3,ha (by omega)];by_cases h5:d.op=5∨d.op=6
 ·rw[hb h5]
 ·rw[aM (fun e=>h5 (.inl e)),aM (fun e=>h5 (.inr e)),aM (fun e=>h5 (.inl e)),aM (fun e=>h5 (.inr e))]
theorem aeh{fs:List Fm}{i:Nat}{d:Fm}(hd:fs[i]? =some d)(ok:d.Ok i)(u:List Nat):fo fs u i=den u (fo fs u) d:=by
 obtain⟨hi,rfl⟩:=cP.1 hd;have hp:fs.take (i+1) <+: fs:=List.take_prefix _ _;have hp0:fs.take i <+: fs:=List.take_prefix _ _;have hl:(fs.take i).length=i:=by simp;omega
 have e1:fs.take (i+1)=fs.take i++[fs[i]]:=u9 hi;rw[Iw hp (by simp;omega) u,an3 ok (S:=fo fs u) (T:=fo (fs.take i) u) fun j hj=>Iw hp0 (by omega) u];have wM:=(Vx u (fs.take i) []).2;rw[hl]at wM;unfold fo;rw[e1,Fx,List.foldl_cons,List.foldl_nil];generalize (fs.take i).foldl (Iv u) []=T at wM⊢;have hT:T.length=i:=by simpa using wM
 show(T++[den u (E5 T) fs[i]]).getD i _=den u (E5 T) fs[i];rw[dK (by simp[hT]),List.getElem_append_right (by omega)];simp
structure XF(fs gs:List Fm)(k:Nat):Prop where
 v:GF gs
 p:fs <+: gs
 l:gs.length≤fs.length+k
theorem XF.trans{a b c:List Fm}{k m:Nat}(h1:XF a b k)(h2:XF b c m):XF a c (k+m):=⟨h2.v,h1.p.trans h2.p,by have:=h1.l;have:=h2.l;omega⟩
theorem XF.mono{a b:List Fm}{k m:Nat}(h:XF a b k)(hk:k≤m):XF a b m:=⟨h.v,h.p,by have:=h.l;omega⟩
theorem XF.le{a b:List Fm}{k:Nat}(h:XF a b k):a.length≤b.length:=h.p.length_le
theorem Fm.An(a b:Fm):jO a.v b.v=decide (a=b):=by
 obtain⟨o,x,y,z,s,t⟩:=a;obtain⟨o',x',y',z',s',t'⟩:=b;simp only[Fm.v,jO,V.cells,qy,wR,CF];rw[CI];simp only[bc,beq_iff_eq,il,Fm.mk.injEq];omega
def TI(s:LV)(fs:List Fm)(o:LV):LV:=[cz s,gG (fs.map Fm.v),mD (cO Fm.v 0 fs),mC o]
def TO(s:LV)(fs:List Fm)(o:LV):LV:=[cz s,mD (cO Fm.v 0 fs),mC o,gG (fs.map Fm.v)]
structure FR(fs gs:List Fm)(k i:Nat)(P:List Nat→(Nat→Nat)→Prop):Prop where
 x:XF fs gs k
 lt:i<gs.length
 m:∀u e,fo gs u i e↔P u e
section
variable {fs:List Fm}{s o:LV}(hv:GF fs)(hn:fs.length≤1000000)
include hv hn
theorem Co{d:Fm}(hd:d.Ok fs.length):∃(i:Nat) (gs:List Fm),CC 88 (vI (d.op:Int)::vI (d.x:Int)::vI (d.y:Int)::vI (d.c:Int)::vI (d.a:Int)::vI (d.b:Int)::TI s fs o)=some (vI (i:Int)::TO s gs o)∧FR fs gs 1 i fun u=>den u (fo fs u) d:=by
 have fin:∀z,Vw CC (d.op:Int) (d.x:Int) (d.y:Int) (d.c:Int) (d.a:Int) (d.b:Int) s (fs.map Fm.v) (cO Fm.v 0 fs) o=z→CC 88 (vI (d.op:Int)::vI (d.x:Int)::vI (d.y:Int)::vI (d.c:Int)::vI (d.a:Int)::vI (d.b:Int)::TI s fs o)=z:=fun z h=>aGb h;have o7:=hd.o7;have x3:=hd.x3;have y3:=hd.y3;have c6:=hd.c6;have ha:d.a≤fs.length:=by
  by_cases h:4≤d.op
  ·exact IT (hd.a1 h)
  ·rw[hd.a0 (by omega)];omega
 have hb:d.b≤fs.length:=by
  by_cases h:d.op=5∨d.op=6
  ·exact IT (hd.b1 h)
  ·rw[hd.b0 (by omega) (by omega)];omega
 have k1:((dE .i64 (d.op:Int)&&(dE .i64 (d.x:Int)&&(dE .i64 (d.y:Int)&&(dE .i64 (d.c:Int)&&(dE .i64 (d.a:Int)&&(dE .i64 (d.b:Int)&&true))))))&&true)=true:=by
  rw[te (by omega),te (by omega),te (by omega),te (by omega),te (by omega),te (by omega)];rfl
 have kv:V.agg [vI (d.op:Int),vI (d.x:Int),vI (d.y:Int),vI (d.c:Int),vI (d.a:Int),vI (d.b:Int)]=d.v:=rfl;by_cases h:d∈fs
 ·have e1:gD d.v (cO Fm.v 0 fs)=true:=(Ey Fm.An d fs 0).trans (bj h)
  have e2:=MB Fm.An d (vI 0) fs 0 h;rw[cL]at e2;have bO:=List.idxOf_lt_length_iff.2 h;have hg:fs[fs.idxOf d]? =some d:=by rw[cv bO,I8]
  refine⟨fs.idxOf d,fs,fin _ ?_,⟨hv,List.prefix_refl _,by omega⟩,bO,fun u e=>by rw[aeh hg (hv _ _ hg)]⟩;unfold Vw;refine bT k1 (bF (by rw[kv,e1];rfl) ?_);rw[kv,e2];rfl
 ·have e1:gD d.v (cO Fm.v 0 fs)=false:=(Ey Fm.An d fs 0).trans (cw h)
  have e2:=MC Fm.An d fs 0 h;rw[cL]at e2;have gv:GF (fs++[d]):=fun i z hz=>by
   rcases fR i fs.length with hi|hi
   ·rw[o6 hi]at hz;exact hv i z hz
   ·rw[qv hi]at hz;have:i=fs.length:=by
     have:=(cP.1 hz).1;simp at this;omega
    subst this;simp at hz;subst hz;exact hd
  have hg:(fs++[d])[fs.length]? =some d:=by simp
  refine⟨fs.length,fs++[d],fin _ ?_,⟨gv,Ja _ _,by simp⟩,by simp,fun u e=> ?_⟩
  ·unfold Vw;refine bT k1 (bT (by rw[kv,e1];rfl) (bT k1 (bT (by rw[fG,zU];simp;omega) ?_)));rw[kv,dD,e2];simp[TO]
  ·rw[aeh hg hd,an3 hd fun j hj=>Iw (Ja fs [d]) hj u]
theorem an4:∃(i:Nat) (gs:List Fm),CC 89 (TI s fs o)=some (vI (i:Int)::TO s gs o)∧FR fs gs 1 i fun _ _=>True:=by
 obtain⟨i,gs,e,h⟩:=Co (s:=s) (o:=o) hv hn (d:=⟨1,0,0,0,0,0⟩) ⟨by simp,by simp,by simp,by simp,by simp,by simp,by simp,by simp,by simp,by simp,by simp,by simp⟩;have fin:∀z,aee CC s (fs.map Fm.v) (cO Fm.v 0 fs) o=z→CC 89 (TI s fs o)=z:=fun z h=>aGc h;exact⟨i,gs,fin _ (by unfold aee;exact bs e rfl),h.x,h.lt,fun u e=>(h.m u e).trans (by simp[den])⟩
theorem aei{x y:Nat}(hx:x<3)(hy:y<3):∃(i:Nat) (gs:List Fm),CC 90 (vI (x:Int)::vI (y:Int)::TI s fs o)=some (vI (i:Int)::TO s gs o)∧FR fs gs 1 i fun _ e=>e x≤e y:=by
 obtain⟨i,gs,e,h⟩:=Co (s:=s) (o:=o) hv hn (d:=⟨3,x,y,0,0,0⟩) ⟨by simp,by simp,by simpa,by simp,by simpa,by simp,by simp,by simp,by simp,by simp,by simp,by simp⟩;have fin:∀z,aeg CC (x:Int) (y:Int) s (fs.map Fm.v) (cO Fm.v 0 fs) o=z→CC 90 (vI (x:Int)::vI (y:Int)::TI s fs o)=z:=fun z h=>aGe h;exact⟨i,gs,fin _ (by unfold aeg;exact bs e rfl),h.x,h.lt,fun u e=>(h.m u e).trans (by simp[den])⟩
theorem Vy{a b:Nat}(ha:a<fs.length)(hb:b<fs.length):∃(i:Nat) (gs:List Fm),CC 91 (vI (a:Int)::vI (b:Int)::TI s fs o)=some (vI (i:Int)::TO s gs o)∧FR fs gs 1 i fun u e=>fo fs u a e∧fo fs u b e:=by
 obtain⟨i,gs,e,h⟩:=Co (s:=s) (o:=o) hv hn (d:=⟨5,0,0,0,a,b⟩) ⟨by simp,by simp,by simp,by simp,by simp,by simp,by simp,by simp,by simpa using ha,by simp,by simpa using hb,by simp⟩;have fin:∀z,aef CC (a:Int) (b:Int) s (fs.map Fm.v) (cO Fm.v 0 fs) o=z→CC 91 (vI (a:Int)::vI (b:Int)::TI s fs o)=z:=fun z h=>aGd h;exact⟨i,gs,fin _ (by unfold aef;exact bs e rfl),h.x,h.lt,fun u e=>(h.m u e).trans (by simp[den])⟩
end
noncomputable def an5(C:af)(jW jX:Int):Option LV:=
 some [vI (wrap .i64 ((wrap .i64 (3*jW))+jX))]
theorem aGg{jW jX:Int}{r:Option LV}(h:an5 CC jW jX=r):CC 38 [vI jW,vI jX]=r:=bR (L:=bS) ak h
noncomputable def an6(C:af)(jW jX:Int):Option LV:=
 some [vI (wrap .i64 ((wrap .i64 (3-jW))-jX))]
theorem aGh{jW jX:Int}{r:Option LV}(h:an6 CC jW jX=r):CC 87 [vI jW,vI jX]=r:=bR (L:=bS) ak h
noncomputable def aej(C:af)(gJ lE iF iR jW jX:Int)(ts aE ao aj:LV):Option LV:=
 bif gJ==1 then
  (C 89 [cz ts,gG aE,mD ao,mC aj]).bind fun r1=>
  (C 88 (vI 4::(vI 0::(vI 0::(vI 0::(vI (gI r1)::(vI 0::(G4 r1 [])))))))).bind fun r2=>
  some (vS r2 [])
 else
  bif gJ==2 then
  (C 90 [vI jX,vI jW,cz ts,gG aE,mD ao,mC aj]).bind fun r3=>
  some (vS r3 [])
  else
  bif gJ==3 then
   (C 88 [vI 2,vI jW,vI jX,vI lE,vI 0,vI 0,cz ts,gG aE,mD ao,mC aj]).bind fun r4=>
   some (vS r4 [])
  else
   bif gJ==5 then
   (C 38 [vI jW,vI jX]).bind fun r5=>
   jS aj iF <|
   bif (decide (0≤(gI r5)))&&(decide ((gI r5)<9))then
    (aj[iF.toNat]?).bind fun x6=>
    ((Bz x6)[0+((((gI r5):Int).toNat)*1)]?).bind fun x7=>
    (C 38 [vI jW,vI jX]).bind fun r8=>
    jS aj iR <|
    bif (decide (0≤(gI r8)))&&(decide ((gI r8)<9))then
    (aj[iR.toNat]?).bind fun x9=>
    ((Bz x9)[0+((((gI r8):Int).toNat)*1)]?).bind fun mc=>
    (C 88 [vI 6,vI 0,vI 0,vI 0,vI x7.toInt,vI mc.toInt,cz ts,gG aE,mD ao,mC aj]).bind fun jg=>
    some (vS jg [])
    else none
   else none
   else
   bif gJ==6 then
    (C 38 [vI jW,vI jX]).bind fun EY=>
    jS aj iF <|
    bif (decide (0≤(gI EY)))&&(decide ((gI EY)<9))then
    (aj[iF.toNat]?).bind fun oT=>
    ((Bz oT)[0+((((gI EY):Int).toNat)*1)]?).bind fun pJ=>
    (C 38 [vI jW,vI jX]).bind fun jt=>
    jS aj iR <|
    bif (decide (0≤(gI jt)))&&(decide ((gI jt)<9))then
     (aj[iR.toNat]?).bind fun nz=>
     ((Bz nz)[0+((((gI jt):Int).toNat)*1)]?).bind fun pF=>
     (C 91 [vI pJ.toInt,vI pF.toInt,cz ts,gG aE,mD ao,mC aj]).bind fun r18=>
     some (vS r18 [])
    else none
    else none
   else
    bif gJ==8 then
    (C 38 [vI jW,vI jX]).bind fun E6=>
    jS aj iF <|
    bif (decide (0≤(gI E6)))&&(decide ((gI E6)<9))then
     (aj[iF.toNat]?).bind fun uN=>
     ((Bz uN)[0+((((gI E6):Int).toNat)*1)]?).bind fun Af=>
     (C 88 [vI 4,vI 0,vI 0,vI 0,vI Af.toInt,vI 0,cz ts,gG aE,mD ao,mC aj]).bind fun EU=>
     some (vS EU [])
    else none
    else
    bif gJ==7 then
     (C 87 [vI jW,vI jX]).bind fun kq=>
     (C 90 [vI jW,vI (gI kq),cz ts,gG aE,mD ao,mC aj]).bind fun wk=>
     (C 90 (vI (gI kq)::(vI jX::(G4 wk [])))).bind fun Ad=>
     (C 91 (vI (gI wk)::(vI (gI Ad)::(G4 Ad [])))).bind fun nC=>
     (C 38 [vI jW,vI (gI kq)]).bind fun BY=>
     jS (jr nC) iF <|
     bif (decide (0≤(gI BY)))&&(decide ((gI BY)<9))then
     ((jr nC)[iF.toNat]?).bind fun B4=>
     ((Bz B4)[0+((((gI BY):Int).toNat)*1)]?).bind fun Ak=>
     (C 38 [vI (gI kq),vI jX]).bind fun r30=>
     jS (jr nC) iR <|
     bif (decide (0≤(gI r30)))&&(decide ((gI r30)<9))then
      ((jr nC)[iR.toNat]?).bind fun HN=>
      ((Bz HN)[0+((((gI r30):Int).toNat)*1)]?).bind fun NP=>
      (C 91 (vI Ak.toInt::(vI NP.toInt::(G4 nC [])))).bind fun OU=>
      (C 91 (vI (gI nC)::(vI (gI OU)::(G4 OU [])))).bind fun r34=>
      (C 88 (vI 7::(vI (gI kq)::(vI 0::(vI 0::(vI (gI r34)::(vI 0::(G4 r34 [])))))))).bind fun UE=>
      some (vS UE [])
     else none
     else none
    else
     (C 89 [cz ts,gG aE,mD ao,mC aj]).bind fun Ci=>
     some (vS Ci [])
theorem aGi{gJ lE iF iR jW jX:Int}{ts aE ao aj:LV}{r:Option LV}(h:aej CC gJ lE iF iR jW jX ts aE ao aj=r):CC 36 [vI gJ,vI lE,vI iF,vI iR,vI jW,vI jX,cz ts,gG aE,mD ao,mC aj]=r:=bR (L:=bS) ak h
theorem wy{l r:Nat}(hl:l<3)(hr:r<3):CC 38 [vI (l:Int),vI (r:Int)]=some [vI ((3*l+r:Nat):Int)]:=by
 refine aGg ?_;unfold an5;rw[wrap64 (x:=3*(l:Int)) (by omega) (by omega),wrap64 (by omega) (by omega)];simp
theorem an7{l r:Nat}(hl:l<3)(hr:r<3)(h:l≠r):CC 87 [vI (l:Int),vI (r:Int)]=some [vI ((3-l-r:Nat):Int)]:=by
 refine aGh ?_;unfold an6;rw[wrap64 (x:=3-(l:Int)) (by omega) (by omega),wrap64 (by omega) (by omega),show(3:Int)-(l:Int)-(r:Int)=((3-l-r:Nat):Int) by omega]
def qq(f:Nat→Nat):V:= .agg (tab 9 fun s=>nV (f s))
def fW(n:Nat)(S:Nat→Nat→Nat):LV:=tab n fun i=>qq (S i)
theorem Cp{f:Nat→Nat}{s:Nat}(hs:s<9):(([vI (((qq f).cell 0).toInt),vI (((qq f).cell 1).toInt),vI (((qq f).cell 2).toInt),vI (((qq f).cell 3).toInt),vI (((qq f).cell 4).toInt),vI (((qq f).cell 5).toInt),vI (((qq f).cell 6).toInt),vI (((qq f).cell 7).toInt),vI (((qq f).cell 8).toInt)]:LV)[0+(((s:Int).toNat)*1)]?)=some (nV (f s)):=by
 rw[cL,kD,Int.toNat_natCast];exact dH (n:=9) (g:=fun s=>nV (f s)) hs
theorem pO{s:Nat}(hs:s<9):(decide (0≤(s:Int))&&decide ((s:Int)<9))=true:=by
 rw[bj (by omega),bj (by omega)];rfl
theorem yE{n i:Nat}{S:Nat→Nat→Nat}(hi:i<n):(decide (0≤(i:Int))&&decide ((i:Int)<((fW n S).length:Int)))=true:=by
 rw[show(fW n S).length=n from fi];exact qj hi
theorem Av{n i:Nat}{S:Nat→Nat→Nat}(hi:i<n):(fW n S)[(i:Int).toNat]? =some (qq (S i)):=by rw[Int.toNat_natCast];exact dH hi
structure wz(ns:List Nd)(fs:List Fm)(i f l r:Nat):Prop where
 lt:f<fs.length
 m:∀(u:List Nat) (e:Nat→Nat),(∀v,e v≤u.length)→e l≤e r→(fo fs u f e↔lg ns i (iH u (e l) (e r)))
theorem wz.up{ns:List Nd}{fs gs:List Fm}{i f l r k:Nat}(h:wz ns fs i f l r)(x:XF fs gs k):wz ns gs i f l r:=⟨fY h.lt x.le,fun u e h1 h2=>by rw[Iw x.p h.lt];exact h.m u e h1 h2⟩
theorem FR.Cq{ns:List Nd}{fs gs:List Fm}{i f l r k:Nat}{P:List Nat→(Nat→Nat)→Prop}(h:FR fs gs k f P)(hm:∀(u:List Nat) (e:Nat→Nat),(∀v,e v≤u.length)→e l≤e r→(P u e↔lg ns i (iH u (e l) (e r)))):wz ns gs i f l r:=⟨h.lt,fun u e h1 h2=>(h.m u e).trans (hm u e h1 h2)⟩
section
variable {ns:List Nd}(hv:GV 6 ns){i op x a b:Nat}(hd:ns[i]? =some ⟨op,x,a,b⟩){fs:List Fm}(hf:GF fs)(hn:fs.length≤900000){n:Nat}(hi:i<n){S:Nat→Nat→Nat}{l r:Nat}(hl:l<3)(hr:r<3)(NL:l≠r){s:LV}
include hv hd hf hn hi hl hr NL
theorem aGj(hA:5≤op→op≠7→wz ns fs a (S a (3*l+r)) l r)(hB:5≤op→op≠7→op≠8→wz ns fs b (S b (3*l+r)) l r)
  (hA7:op=7→wz ns fs a (S a (3*l+(3-l-r))) l (3-l-r)) (hB7:op=7→wz ns fs b (S b (3*(3-l-r)+r)) (3-l-r) r):
  ∃(f:Nat) (gs:List Fm),CC 36 (vI (op:Int)::vI (x:Int)::vI (a:Int)::vI (b:Int)::vI (l:Int)::vI (r:Int)::TI s fs (fW n S))=some (vI (f:Int)::TO s gs (fW n S))∧XF fs gs 6∧wz ns gs i f l r:=by
 have fin:∀z,aej CC (op:Int) (x:Int) (a:Int) (b:Int) (l:Int) (r:Int) s (fs.map Fm.v) (cO Fm.v 0 fs) (fW n S)=z→CC 36 (vI (op:Int)::vI (x:Int)::vI (a:Int)::vI (b:Int)::vI (l:Int)::vI (r:Int)::TI s fs (fW n S))=z:=fun z h=>aGi h;have ok:=hv i _ hd;have o1:1≤op:=ok.o1;have o8:op≤8:=ok.o8;have bz:∀{m n:Nat},m≠n→((m:Int)==(n:Int))=false:=fun h=>by simp;omega
 have ha:5≤op→a<n:=fun h=>Nat.lt_trans (ok.a1 h) hi;have hb:5≤op→op≠8→b<n:=fun h h'=>Nat.lt_trans (ok.b1 h h') hi;unfold aej at fin;by_cases c1:op=1
 ·subst c1;obtain⟨i1,g1,e1,h1⟩:=an4 (s:=s) (o:=fW n S) hf (by omega);obtain⟨i2,g2,e2,h2⟩:=Co (s:=s) (o:=fW n S) (d:=⟨4,0,0,0,i1,0⟩) h1.x.v (by have:=h1.x.l;omega) ⟨by simp,by simp,by simp,by simp,by simp,by simp,by simp,by simp,fun _=>h1.lt,by simp,by simp,by simp⟩;refine⟨i2,g2,fin _ (bT rfl (bs e1 (bs e2 rfl))),(h1.x.trans h2.x).mono (by omega),h2.Cq fun u e _ _=> ?_⟩;rw[acz hv hd];simp[den,h1.m]
 by_cases c2:op=2
 ·subst c2;obtain⟨i1,g1,e1,h1⟩:=aei (s:=s) (o:=fW n S) hf (by omega) hr hl;refine⟨i1,g1,fin _ (bF rfl (bT rfl (bs e1 rfl))),h1.x.mono (by omega),h1.Cq fun u e he hle=> ?_⟩;rw[amO hv hd,aeb hle (he r)];omega
 by_cases c3:op=3
 ·subst c3;obtain⟨i1,g1,e1,h1⟩:=Co (s:=s) (o:=fW n S) (d:=⟨2,l,r,x,0,0⟩) hf (by omega) ⟨by simp,by simp,hl,by simp,hr,by simp,ok.x1 rfl,by simp,by simp,by simp,by simp,by simp⟩;refine⟨i1,g1,fin _ (bF rfl (bF rfl (bT rfl (bs e1 rfl)))),h1.x.mono (by omega),h1.Cq fun u e he hle=> ?_⟩;rw[NI hv hd,O1 hle (he r)];simp[den]
 by_cases c4:op=4
 ·subst c4;obtain⟨i1,g1,e1,h1⟩:=an4 (s:=s) (o:=fW n S) hf (by omega);refine⟨i1,g1,fin _ (bF rfl (bF rfl (bF rfl (bF rfl (bF rfl (bF rfl (bF rfl (bs e1 rfl)))))))),h1.x.mono (by omega),h1.Cq fun u e he hle=> ?_⟩;rw[acA hv hd]
 have h5:5≤op:=by omega
 have an:=ha h5;have hs:3*l+r<9:=by omega
 by_cases c8:op=8
 ·subst c8;have A:=hA h5 (by omega);obtain⟨i1,g1,e1,h1⟩:=Co (s:=s) (o:=fW n S) (d:=⟨4,0,0,0,S a (3*l+r),0⟩) hf (by omega) ⟨by simp,by simp,by simp,by simp,by simp,by simp,by simp,by simp,fun _=>A.lt,by simp,by simp,by simp⟩;refine⟨i1,g1,fin _ (bF rfl (bF rfl (bF rfl (bF rfl (bF rfl (bT rfl (bs (wy hl hr) (bT (yE an) (bT (pO hs) (bs (Av an) (bs (Cp hs) (bs e1 rfl)))))))))))),h1.x.mono (by omega),h1.Cq fun u e he hle=> ?_⟩;rw[acE hv hd,←A.m u e he hle];simp[den]
 have bn:=hb h5 c8;by_cases c5:op=5
 ·subst c5;have A:=hA h5 (by omega);have B:=hB h5 (by omega) c8;obtain⟨i1,g1,e1,h1⟩:=Co (s:=s) (o:=fW n S) (d:=⟨6,0,0,0,S a (3*l+r),S b (3*l+r)⟩) hf (by omega) ⟨by simp,by simp,by simp,by simp,by simp,by simp,by simp,by simp,fun _=>A.lt,by simp,fun _=>B.lt,by simp⟩;refine⟨i1,g1,fin _ (bF rfl (bF rfl (bF rfl (bT rfl (bs (wy hl hr) (bT (yE an) (bT (pO hs) (bs (Av an) (bs (Cp hs) (bs (wy hl hr) (bT (yE bn) (bT (pO hs) (bs (Av bn) (bs (Cp hs) (bs e1 rfl))))))))))))))),h1.x.mono (by omega),h1.Cq fun u e he hle=> ?_⟩;rw[acB hv hd,←A.m u e he hle,←B.m u e he hle];simp[den]
 by_cases c6:op=6
 ·subst c6;have A:=hA h5 (by omega);have B:=hB h5 (by omega) c8;obtain⟨i1,g1,e1,h1⟩:=Vy (s:=s) (o:=fW n S) hf (by omega) A.lt B.lt;refine⟨i1,g1,fin _ (bF rfl (bF rfl (bF rfl (bF rfl (bT rfl (bs (wy hl hr) (bT (yE an) (bT (pO hs) (bs (Av an) (bs (Cp hs) (bs (wy hl hr) (bT (yE bn) (bT (pO hs) (bs (Av bn) (bs (Cp hs) (bs e1 rfl)))))))))))))))),h1.x.mono (by omega),h1.Cq fun u e he hle=> ?_⟩;rw[acC hv hd,←A.m u e he hle,←B.m u e he hle]
 have c7:op=7:=by omega
 subst c7;have A:=hA7 rfl;have B:=hB7 rfl;generalize ht:3-l-r=t at A B;have h3:t<3:=by omega
 have tl:t≠l:=by omega
 have tr:t≠r:=by omega
 obtain⟨i1,g1,e1,h1⟩:=aei (s:=s) (o:=fW n S) hf (by omega) hl h3;obtain⟨i2,g2,e2,h2⟩:=aei (s:=s) (o:=fW n S) h1.x.v (by have:=h1.x.l;omega) h3 hr;obtain⟨i3,g3,e3,rI⟩:=Vy (s:=s) (o:=fW n S) h2.x.v (by have:=h1.x.l;have:=h2.x.l;omega) (fY h1.lt h2.x.le) h2.lt;have x3:=(h1.x.trans h2.x).trans rI.x;have A3:=A.up x3;have B3:=B.up x3;obtain⟨i4,g4,e4,h4⟩:=Vy (s:=s) (o:=fW n S) x3.v (by have:=x3.l;omega) A3.lt B3.lt;obtain⟨i5,g5,e5,oA⟩:=Vy (s:=s) (o:=fW n S) h4.x.v (by have:=x3.l;have:=h4.x.l;omega) (fY rI.lt h4.x.le) h4.lt;obtain⟨i6,g6,e6,h6⟩:=Co (s:=s) (o:=fW n S) (d:=⟨7,t,0,0,i5,0⟩) oA.x.v (by have:=x3.l;have:=h4.x.l;have:=oA.x.l;omega) ⟨by simp,by simp,h3,by simp,by simp,by simp,by simp,by simp,fun _=>oA.lt,by simp,by simp,by simp⟩;have s1:3*l+t<9:=by omega
 have s2:3*t+r<9:=by omega
 have et:=an7 hl hr NL;rw[ht]at et;refine⟨i6,g6,fin _ (bF rfl (bF rfl (bF rfl (bF rfl (bF rfl (bF rfl (bT rfl (bs et (bs e1 (bs e2 (bs e3 (bs (wy hl h3) (bT (yE an) (bT (pO s1) (bs (Av an) (bs (Cp s1) (bs (wy h3 hr) (bT (yE bn) (bT (pO s2) (bs (Av bn) (bs (Cp s2) (bs e4 (bs e5 (bs e6 rfl)))))))))))))))))))))))),((x3.trans h4.x).trans (oA.x.trans h6.x)).mono (by omega),h6.Cq fun u e he hle=> ?_⟩;have key:∀v,v≤u.length→(fo g5 u i5 (iX e t v)↔(e l≤v∧v≤e r)∧lg ns a (iH u (e l) v)∧lg ns b (iH u v (e r))):=fun v lZ=>by
  have ul:iX e t v l=e l:=aM (yN tl);have ur:iX e t v r=e r:=aM (yN tr);have ut:iX e t v t=v:=aP rfl;have ub:∀w,iX e t v w≤u.length:=fun w=>by
   unfold iX;split
   ·exact lZ
   ·exact he w
  rw[oA.m,h4.m,Iw h4.x.p rI.lt,rI.m,Iw h2.x.p h1.lt,h1.m,h2.m,ul,ur,ut];refine CL fun hh=> ?_;have m1:=A3.m u (iX e t v) ub (by rw[ul,ut];exact hh.1);have m2:=B3.m u (iX e t v) ub (by rw[ur,ut];exact hh.2);rw[m1,m2,ul,ur,ut]
 rw[acD hv hd,aea hle (he r)];constructor
 ·intro hh;obtain⟨v,v1,v2⟩:∃v,v≤u.length∧fo g5 u i5 (iX e t v):=by simpa[den]using hh
  have:=(key v v1).1 v2;exact⟨v,this.1.1,this.1.2,this.2⟩
 ·rintro⟨v,v1,v2,v3⟩;have v4:v≤u.length:=lR v2 (he r);have:∃v,v≤u.length∧fo g5 u i5 (iX e t v):=⟨v,v4,(key v v4).2 ⟨⟨v1,v2⟩,v3⟩⟩
  simpa[den]using this
end
noncomputable def an8(C:af)(slot:Int):Option LV:=
 some [vI (wrap .i64 (Int.tdiv slot 3)),vI (Int.tmod slot 3)]
theorem aGk{slot:Int}{r:Option LV}(h:an8 CC slot=r):CC 37 [vI slot]=r:=bR (L:=bS) ak h
noncomputable def O4(C:af)(i:Int)(aek ael aem aen aeo aep aeq aer aes:Bool)(gK:LV)(ji jy lJ dS fV t37:Int)(eX:LV){β:Type}(kn:ay (Int×LV) β)(kr:ay (Int×Bool×LV) β):Option β:=
 bif decide (t37<9)then
  (idx ([.bool aek,.bool ael,.bool aem,.bool aen,.bool aeo,.bool aep,.bool aeq,.bool aer,.bool aes]:LV) t37).bind fun x5=>
  bif !x5.toBool then
  kn (wrap .i64 (t37+1),eX)
  else
  (C 37 [vI t37]).bind fun r6=>
  bif jy==5 then
   bif jy==5 then
   jS eX dS <|
   bif (decide (0≤t37))&&(decide (t37<9))then
    bif Nat.blt (0+((t37.toNat)*1)) 9 then
    (eX[dS.toNat]?).bind fun x7=>
    jS (aG eX dS (oo (t37) (true) x7)) fV <|
    bif (decide (0≤t37))&&(decide (t37<9))then
     bif Nat.blt (0+((t37.toNat)*1)) 9 then
     ((aG eX dS (oo (t37) (true) x7))[fV.toNat]?).bind fun x8=>
     kn (wrap .i64 (t37+1),aG (aG eX dS (oo (t37) (true) x7)) fV (oo (t37) (true) x8))
     else none
    else none
    else none
   else none
   else
   bif jy==8 then
    jS eX dS <|
    bif (decide (0≤t37))&&(decide (t37<9))then
    bif Nat.blt (0+((t37.toNat)*1)) 9 then
     (eX[dS.toNat]?).bind fun x9=>
     kn (wrap .i64 (t37+1),aG eX dS (oo (t37) (true) x9))
    else none
    else none
   else
    bif jy==7 then
    (C 87 [vI (gI r6),vI (dm r6)]).bind fun EX=>
    (C 38 [vI (gI r6),vI (gI EX)]).bind fun jg=>
    jS eX dS <|
    bif (decide (0≤(gI jg)))&&(decide ((gI jg)<9))then
     bif Nat.blt (0+((((gI jg):Int).toNat)*1)) 9 then
     (eX[dS.toNat]?).bind fun ij=>
     (C 87 [vI (gI r6),vI (dm r6)]).bind fun jL=>
     (C 38 [vI (gI jL),vI (dm r6)]).bind fun rb=>
     jS (aG eX dS (oo (gI jg) (true) ij)) fV <|
     bif (decide (0≤(gI rb)))&&(decide ((gI rb)<9))then
      bif Nat.blt (0+((((gI rb):Int).toNat)*1)) 9 then
      ((aG eX dS (oo (gI jg) (true) ij))[fV.toNat]?).bind fun uP=>
      kn (wrap .i64 (t37+1),aG (aG eX dS (oo (gI jg) (true) ij)) fV (oo (gI rb) (true) uP))
      else none
     else none
     else none
    else none
    else
    kn (wrap .i64 (t37+1),eX)
  else
   bif jy==6 then
   jS eX dS <|
   bif (decide (0≤t37))&&(decide (t37<9))then
    bif Nat.blt (0+((t37.toNat)*1)) 9 then
    (eX[dS.toNat]?).bind fun nz=>
    jS (aG eX dS (oo (t37) (true) nz)) fV <|
    bif (decide (0≤t37))&&(decide (t37<9))then
     bif Nat.blt (0+((t37.toNat)*1)) 9 then
     ((aG eX dS (oo (t37) (true) nz))[fV.toNat]?).bind fun pF=>
     kn (wrap .i64 (t37+1),aG (aG eX dS (oo (t37) (true) nz)) fV (oo (t37) (true) pF))
     else none
    else none
    else none
   else none
   else
   bif jy==8 then
    jS eX dS <|
    bif (decide (0≤t37))&&(decide (t37<9))then
    bif Nat.blt (0+((t37.toNat)*1)) 9 then
     (eX[dS.toNat]?).bind fun wg=>
     kn (wrap .i64 (t37+1),aG eX dS (oo (t37) (true) wg))
    else none
    else none
   else
    bif jy==7 then
    (C 87 [vI (gI r6),vI (dm r6)]).bind fun E6=>
    (C 38 [vI (gI r6),vI (gI E6)]).bind fun Au=>
    jS eX dS <|
    bif (decide (0≤(gI Au)))&&(decide ((gI Au)<9))then
     bif Nat.blt (0+((((gI Au):Int).toNat)*1)) 9 then
     (eX[dS.toNat]?).bind fun Af=>
     (C 87 [vI (gI r6),vI (dm r6)]).bind fun EU=>
     (C 38 [vI (gI EU),vI (dm r6)]).bind fun kq=>
     jS (aG eX dS (oo (gI Au) (true) Af)) fV <|
     bif (decide (0≤(gI kq)))&&(decide ((gI kq)<9))then
      bif Nat.blt (0+((((gI kq):Int).toNat)*1)) 9 then
      ((aG eX dS (oo (gI Au) (true) Af))[fV.toNat]?).bind fun uK=>
      kn (wrap .i64 (t37+1),aG (aG eX dS (oo (gI Au) (true) Af)) fV (oo (gI kq) (true) uK))
      else none
     else none
     else none
    else none
    else
    kn (wrap .i64 (t37+1),eX)
 else
  kr (t37,decide (t37<9),eX)
noncomputable def Ix(C:af)(i:Int)(aek ael aem aen aeo aep aeq aer aes:Bool)(gK:LV)(ji jy lJ dS fV:Int):=un fun t37 eX=>O4 C i aek ael aem aen aeo aep aeq aer aes gK ji jy lJ dS fV t37 eX ct cu
noncomputable def O5(C:af)(gK:LV)(ji i:Int)(eX:LV){β:Type}(kn:ay (Int×LV) β)(kr:ay (Int×Bool×LV) β):Option β:=
 bif decide (i≥0)then
  (idx gK i).bind fun x3=>
  aL eX i fun x4=>
  (Loop (Ix C i ((x4.cell 0).toBool) ((x4.cell 1).toBool) ((x4.cell 2).toBool) ((x4.cell 3).toBool) ((x4.cell 4).toBool) ((x4.cell 5).toBool) ((x4.cell 6).toBool) ((x4.cell 7).toBool) ((x4.cell 8).toBool) gK ji ((x3.cell 0).toInt) ((x3.cell 1).toInt) ((x3.cell 2).toInt) ((x3.cell 3).toInt)) (0,eX)).bind (un fun ay2=>un fun(ad0:Bool) (aGl:LV)=>
   kn (wrap .i64 (i-1),aGl))
 else
  kr (i,decide (i≥0),eX)
noncomputable def O6(C:af)(gK:LV)(ji:Int):=un fun i eX=>O5 C gK ji i eX ct cu
noncomputable def an9(C:af):da:=cm 129 Z0 (aN 18 9216) [[1,2,3,4,5,6,7,8,9,10,0,0,12,13,0,15,16,17,18]] (@O4 C) (cm 65 Z1 [zK,zJ,zJ,zK] [[0,0,2,3,0]] (@O5 C) bS)
theorem aGm(C:af):bt C (an9 C) 35 (Lp [1,1,1,0,1,0,0,1,0,0,1,1,0,0] 35):=cj Z0 (aN 18 9216) [[1,2,3,4,5,6,7,8,9,10,0,0,12,13,0,15,16,17,18]] (@O4 C) (aY ak)
theorem aGn(C:af):bt C (an9 C) 35 (Lp [1,1,1,0,1,0,0] 35):=cj Z1 [zK,zJ,zJ,zK] [[0,0,2,3,0]] (@O5 C) (aY (br (aGm C) ak))
noncomputable def aoa(C:af)(dk:LV)(ew Vz VA:Int):Option LV:=
 bif (decide (0≤(dk.length:Int)))&&((decide ((dk.length:Int)≤(dk.length:Int)))&&(Nat.ble (((dk.length:Int).toNat)*9) bf))then
  (C 38 [vI Vz,vI VA]).bind fun r1=>
  jS (List.replicate ((dk.length:Int).toNat) (V.agg [.bool false,.bool false,.bool false,.bool false,.bool false,.bool false,.bool false,.bool false,.bool false])) ew <|
  bif (decide (0≤(gI r1)))&&(decide ((gI r1)<9))then
  bif Nat.blt (0+((((gI r1):Int).toNat)*1)) 9 then
   ((List.replicate ((dk.length:Int).toNat) (V.agg [.bool false,.bool false,.bool false,.bool false,.bool false,.bool false,.bool false,.bool false,.bool false]))[ew.toNat]?).bind fun x2=>
   (Loop (O6 C dk ew) (ew,aG (List.replicate ((dk.length:Int).toNat) (V.agg [.bool false,.bool false,.bool false,.bool false,.bool false,.bool false,.bool false,.bool false,.bool false])) ew (oo (gI r1) (true) x2))).bind (un fun MT=>un fun(am3:Bool) (aGo:LV)=>
    some [.list 101 aGo])
  else none
  else none
 else none
theorem aGp{dk:LV}{ew Vz VA:Int}{r:Option LV}(h:aoa CC dk ew Vz VA=r):CC 35 [cz dk,vI ew,vI Vz,vI VA]=r:=bR (br (aGn CC) ak) h
theorem Iy{s:Nat}(hs:s<9):CC 37 [vI (s:Int)]=some [vI ((s/3:Nat):Int),vI ((s %3:Nat):Int)]:=by
 refine aGk ?_;unfold an8;have e1:Int.tdiv (s:Int) 3=((s/3:Nat):Int):=by grind
 have e2:Int.tmod (s:Int) 3=((s %3:Nat):Int):=by grind
 rw[e1,e2,wrap64 (by omega) (by omega)]
def bA(f:Nat→Bool):V:= .agg (tab 9 fun s=> .bool (f s))
def fX(n:Nat)(N:Nat→Nat→Bool):LV:=tab n fun i=>bA (N i)
def gU(N:Nat→Nat→Bool)(i s:Nat):Nat→Nat→Bool:=fun j q=>decide (j=i∧q=s)||N j q
def aB(x:Int)(y:V):V:= .agg [.bool (bif Nat.beq (0+((x.toNat)*1)) 0 then true else(y.cell 0).toBool),.bool (bif Nat.beq (0+((x.toNat)*1)) 1 then true else(y.cell 1).toBool),.bool (bif Nat.beq (0+((x.toNat)*1)) 2 then true else(y.cell 2).toBool),.bool (bif Nat.beq (0+((x.toNat)*1)) 3 then true else(y.cell 3).toBool),.bool (bif Nat.beq (0+((x.toNat)*1)) 4 then true else(y.cell 4).toBool),.bool (bif Nat.beq (0+((x.toNat)*1)) 5 then true else(y.cell 5).toBool),.bool (bif Nat.beq (0+((x.toNat)*1)) 6 then true else(y.cell 6).toBool),.bool (bif Nat.beq (0+((x.toNat)*1)) 7 then true else(y.cell 7).toBool),.bool (bif Nat.beq (0+((x.toNat)*1)) 8 then true else(y.cell 8).toBool)]
theorem nine{P:Nat→Prop}(h0:P 0)(h1:P 1)(h2:P 2)(h3:P 3)(h4:P 4)(h5:P 5)(h6:P 6)(h7:P 7)(h8:P 8)(s:Nat)(hs:s<9):P s:=by
 grind
theorem aGq{f:Nat→Bool}{s:Nat}(hs:s<9):aB (s:Int) (bA f)=bA fun q=>decide (q=s)||f q:=
 nine (P:=fun s=>aB ((s:Nat):Int) (bA f)=bA fun q=>decide (q=s)||f q) rfl rfl rfl rfl rfl rfl rfl rfl rfl s hs
section
variable {n i s:Nat}{N:Nat→Nat→Bool}
theorem E7(hi:i<n):(fX n N)[(i:Int).toNat]? =some (bA (N i)):=by rw[Int.toNat_natCast];exact dH hi
theorem E8(hi:i<n):(decide (0≤(i:Int))&&decide ((i:Int)<((fX n N).length:Int)))=true:=by
 rw[show(fX n N).length=n from fi];grind
theorem Iz(hs:s<9):aG (fX n N) (i:Int) (aB (s:Int) (bA (N i)))=fX n (gU N i s):=by
 rw[aGq hs];unfold aG fX;rw[Int.toNat_natCast,jf];refine dA fun j _=> ?_;unfold gU;by_cases c:j=i
 all_goals simp_all
theorem Aw(hs:s<9):Nat.blt (0+(((s:Int).toNat)*1)) 9=true:=by
 simp_all
end
def gA(q:Nat):Nat:=3-q/3-q %3
def chA(op q:Nat):Nat:=if op=7 then 3*(q/3)+gA q else q
def chB(op q:Nat):Nat:=if op=7 then 3*gA q+q %3 else q
structure yF(d:Nd)(q:Nat)(N:Nat→Nat→Bool):Prop where
 cA:5≤d.op→N d.a (chA d.op q)=true
 cB:5≤d.op→d.op≠8→N d.b (chB d.op q)=true
structure aet(ns:List Nd)(r:Nat)(N:Nat→Nat→Bool):Prop where
 root:N r 1=true
 ne:∀j q,q<9→N j q=true→q/3≠q %3
 ch:∀(j:Nat) d q,ns[j]? =some d→j≤r→q<9→N j q=true→yF d q N
structure Cr(i:Nat)(N M:Nat→Nat→Bool):Prop where
 mono:∀j q,N j q=true→M j q=true
 same:∀j q,i≤j→M j q=N j q
 ne:∀j q,q<9→M j q=true→q/3≠q %3
theorem yF.up{d:Nd}{q:Nat}{N M:Nat→Nat→Bool}(h:yF d q N)(hm:∀j q,N j q=true→M j q=true):yF d q M:=⟨fun a=>hm _ _ (h.cA a),fun a b=>hm _ _ (h.cB a b)⟩
theorem IA{N:Nat→Nat→Bool}{i s:Nat}:gU N i s i s=true:=by simp[gU]
theorem yG{N:Nat→Nat→Bool}{i s j q:Nat}(h:N j q=true):gU N i s j q=true:=by simp[gU,h]
theorem aGr{N:Nat→Nat→Bool}{i s j q:Nat}(h:i<j):gU N i s j q=N j q:=by
 unfold gU;rw[cw (by omega)];rfl
theorem aob{N:Nat→Nat→Bool}{i s:Nat}(hs:s/3≠s %3)(h:∀j q,q<9→N j q=true→q/3≠q %3)(j q:Nat)(hq:q<9)(hn:gU N i s j q=true):q/3≠q %3:=by
 unfold gU at hn;grind
theorem Cr.set{i a s:Nat}{N M:Nat→Nat→Bool}(h:Cr i N M)(ha:a<i)(hs:s/3≠s %3):Cr i N (gU M a s):=⟨fun j q hq=>yG (h.mono j q hq),fun j q hj=>(aGr (by omega)).trans (h.same j q hj),aob hs h.ne⟩
section
variable {n i:Nat}{op x a b:Nat}{N M:Nat→Nat→Bool}(ha:5≤op→a<i)(hb:5≤op→op≠8→b<i)(hi:i<n)(o8:op≤8)(hM:Cr i N M){k:Nat}(hk:k<9)
include ha hb hi o8 hM hk
theorem aGs{g:LV}{g1:Int}:∃M',Cr i N M'∧(∀j q,M j q=true→M' j q=true)∧(N i k=true→yF ⟨op,x,a,b⟩ k M')∧Ix CC (i:Int) (N i 0) (N i 1) (N i 2) (N i 3) (N i 4) (N i 5) (N i 6) (N i 7) (N i 8) g g1 (op:Int) (x:Int) (a:Int) (b:Int) ((k:Int),fX n M)=some (.inl (((k+1:Nat):Int),fX n M')):=by
 have bz:∀{m n:Nat},m≠n→((m:Int)==(n:Int))=false:=fun h=>by simp;omega
 have e0:idx ([.bool (N i 0),.bool (N i 1),.bool (N i 2),.bool (N i 3),.bool (N i 4),.bool (N i 5),.bool (N i 6),.bool (N i 7),.bool (N i 8)]:LV) (k:Int)=some (.bool (N i k)):=pC (n:=9) (g:=fun s=> .bool (N i s)) hk;have fw:∀{z z':LV},z=z'→(some (Sum.inl (wrap .i64 ((k:Int)+1),z)):Option ((Int×LV) ⊕ (Int×Bool×LV)))=some (.inl (((k+1:Nat):Int),z')):=fun h=>by rw[h,bY (by omega)]
 simp only[Ix,O4,un];cases hN:N i k with
 |false=>
  refine⟨M,hM,fun j q h=>h,fun h=>(by cases h),bT (bj (by omega)) (bs e0 (bT (by rw[hN];rfl) (fw rfl)))⟩
 |true=>
  have wA:k/3≠k %3:=hM.ne i k hk (by rw[hM.same i k (aR _)];exact hN);have l3:k/3<3:=by omega
  have r3:k %3<3:=by omega
  by_cases o5:op<5
  ·refine⟨M,hM,fun j q h=>h,fun _=>⟨fun h=>absurd h (by grind),fun h=>absurd h (by grind)⟩,bT (bj (by omega)) (bs e0 (bF (by rw[hN];rfl) (bs (Iy hk) (bF (bz (n:=5) (by omega)) (bF (bz (n:=6) (by omega)) (bF (bz (n:=8) (by omega)) (bF (bz (n:=7) (by omega)) (fw rfl))))))))⟩
  have Cs:=ha (by omega);have an:a<n:=by omega
  by_cases c8:op=8
  ·subst c8;refine⟨gU M a k,hM.set Cs wA,fun j q h=>yG h,fun _=>⟨fun _=>(show gU M a k a k=true from IA),fun _ h=>absurd rfl h⟩,bT (bj (by omega)) (bs e0 (bF (by rw[hN];rfl) (bs (Iy hk) (bF rfl (bF rfl (bT rfl (bT (E8 an) (bT (pO hk) (bT (Aw hk) (bs (E7 an) (fw (Iz hk))))))))))))⟩
  have aJ:=hb (by omega) c8;have bn:b<n:=by omega
  by_cases c7:op=7
  ·subst c7;have t3:gA k<3:=by unfold gA;omega
   have s1:3*(k/3)+gA k<9:=by omega
   have s2:3*gA k+k %3<9:=by omega
   have n1:(3*(k/3)+gA k)/3≠(3*(k/3)+gA k) %3:=by unfold gA at t3⊢;omega
   have n2:(3*gA k+k %3)/3≠(3*gA k+k %3) %3:=by unfold gA at t3⊢;omega
   have eS:aG (fX n M) (a:Int) (aB ((3*(k/3)+gA k:Nat):Int) (bA (M a)))=fX n (gU M a (3*(k/3)+gA k)):=Iz s1;have eT:aG (fX n (gU M a (3*(k/3)+gA k))) (b:Int) (aB ((3*gA k+k %3:Nat):Int) (bA (gU M a (3*(k/3)+gA k) b)))=fX n (gU (gU M a (3*(k/3)+gA k)) b (3*gA k+k %3)):=Iz s2;have et:=an7 l3 r3 wA;refine⟨gU (gU M a (3*(k/3)+gA k)) b (3*gA k+k %3),(hM.set Cs n1).set aJ n2,fun j q h=>yG (yG h),fun _=>⟨fun _=>yG IA,fun _ _=>IA⟩,bT (bj (by omega)) (bs e0 (bF (by rw[hN];rfl) (bs (Iy hk) (bF rfl (bF rfl (bF rfl (bT rfl (bs et (bs (wy l3 t3) (bT (E8 an) (bT (pO s1) (bT (Aw s1) (bs (E7 an) (bs et (bs (wy t3 r3) (bT ((congrArg (fun l:LV=>decide (0≤(b:Int))&&decide ((b:Int)<(l.length:Int))) eS).trans (E8 bn)) (bT (pO s2) (bT (Aw s2) (bs ((congrArg (fun l:LV=>l[(b:Int).toNat]?) eS).trans (E7 bn)) (fw ((congrArg (fun l=>aG l (b:Int) (aB ((3*gA k+k %3:Nat):Int) (bA (gU M a (3*(k/3)+gA k) b)))) eS).trans eT)))))))))))))))))))))⟩
  have eS:aG (fX n M) (a:Int) (aB (k:Int) (bA (M a)))=fX n (gU M a k):=Iz hk;have eT:aG (fX n (gU M a k)) (b:Int) (aB (k:Int) (bA (gU M a k b)))=fX n (gU (gU M a k) b k):=Iz hk;have hc:yF ⟨op,x,a,b⟩ k (gU (gU M a k) b k):=⟨fun _=>by unfold chA;rw[aM c7];exact yG IA,fun _ _=>by unfold chB;rw[aM c7];exact IA⟩
  have h1:((decide (0≤(b:Int))&&decide ((b:Int)<((aG (fX n M) (a:Int) (aB (k:Int) (bA (M a)))).length:Int))))=true:=by rw[eS];exact E8 bn
  have h2:(aG (fX n M) (a:Int) (aB (k:Int) (bA (M a))))[(b:Int).toNat]? =some (bA (gU M a k b)):=by rw[eS];exact E7 bn
  have h3:aG (aG (fX n M) (a:Int) (aB (k:Int) (bA (M a)))) (b:Int) (aB (k:Int) (bA (gU M a k b)))=fX n (gU (gU M a k) b k):=by grind
  by_cases c5:op=5
  ·subst c5;exact⟨_,(hM.set Cs wA).set aJ wA,fun j q h=>yG (yG h),fun _=>hc,bT (bj (by omega)) (bs e0 (bF (by rw[hN];rfl) (bs (Iy hk) (bT rfl (bT rfl (bT (E8 an) (bT (pO hk) (bT (Aw hk) (bs (E7 an) (bT h1 (bT (pO hk) (bT (Aw hk) (bs h2 (fw h3))))))))))))))⟩
  ·have c6:op=6:=by omega
   subst c6;exact⟨_,(hM.set Cs wA).set aJ wA,fun j q h=>yG (yG h),fun _=>hc,bT (bj (by omega)) (bs e0 (bF (by rw[hN];rfl) (bs (Iy hk) (bF rfl (bT rfl (bT (E8 an) (bT (pO hk) (bT (Aw hk) (bs (E7 an) (bT h1 (bT (pO hk) (bT (Aw hk) (bs h2 (fw h3))))))))))))))⟩
end
theorem aGt{n i:Nat}{d:Nd}{N:Nat→Nat→Bool}{L:Nat}(ok:d.Ok L i)(hi:i<n)(hN:∀j q,q<9→N j q=true→q/3≠q %3){g:LV}{g1:Int}:∃M,Cr i N M∧(∀q,q<9→N i q=true→yF d q M)∧Loop (Ix CC (i:Int) (N i 0) (N i 1) (N i 2) (N i 3) (N i 4) (N i 5) (N i 6) (N i 7) (N i 8) g g1 (d.op:Int) (d.x:Int) (d.a:Int) (d.b:Int)) (0,fX n N)=some (9,false,fX n M):=by
 obtain⟨op,x,a,b⟩:=d;have key:=gH (step:=Ix CC (i:Int) (N i 0) (N i 1) (N i 2) (N i 3) (N i 4) (N i 5) (N i 6) (N i 7) (N i 8) g g1 (op:Int) (x:Int) (a:Int) (b:Int)) (fun k (s:Int×LV)=> ∃M,s=((k:Int),fX n M)∧Cr i N M∧∀q,q<k→N i q=true→yF ⟨op,x,a,b⟩ q M)
  (fun r=> ∃M,r=((9:Int),false,fX n M)∧Cr i N M∧∀q,q<9→N i q=true→yF ⟨op,x,a,b⟩ q M) 9 0 (0,fX n N)
  (fun k _ hk s hs=> ?_) (fun s hs=> ?_) ⟨N,rfl,⟨fun _ _ h=>h,fun _ _ _=>rfl,hN⟩,fun q hq=>by omega⟩
 ·grind
 ·obtain⟨M,rfl,h1,h2⟩:=hs;obtain⟨M',m1,m2,m3,e⟩:=aGs ok.a1 ok.b1 hi ok.o8 h1 (show k<9 by omega) (x:=x) (g:=g) (g1:=g1);refine⟨_,e,M',rfl,m1,fun q hq hn=> ?_⟩;by_cases c:q=k
  ·grind
  ·exact(h2 q (by omega) hn).up m2
 ·obtain⟨M,rfl,h1,h2⟩:=hs;refine⟨((9:Int),false,fX n M),?_,M,rfl,h1,h2⟩;simp only[Ix,O4,un];grind
theorem aGu{L:Nat}{ns:List Nd}(hv:GV L ns)(hn:ns.length≤20000){r:Nat}(hr:r<ns.length):∃N,aet ns r N∧CC 35 [cz (ns.map Nd.v),vI (r:Int),vI 0,vI 1]=some [.list 101 (fX ns.length N)]:=by
 have e0:List.replicate ns.length (V.agg [.bool false,.bool false,.bool false,.bool false,.bool false,.bool false,.bool false,.bool false,.bool false])=fX ns.length fun _ _=>false:=mG;have e1:aG (fX ns.length fun _ _=>false) (r:Int) (aB ((1:Nat):Int) (bA fun _=>false))=fX ns.length (gU (fun _ _=>false) r 1):=Iz (by decide);have key:=gH (step:=O6 CC (ns.map Nd.v) (r:Int)) (fun t (s:Int×LV)=> ∃N,s=((r:Int)-(t:Int),fX ns.length N)∧N r 1=true∧(∀j q,q<9→N j q=true→q/3≠q %3)∧∀(j:Nat) d q,ns[j]? =some d→r<j+t→j≤r→q<9→N j q=true→yF d q N)
  (fun x=> ∃N,x=((-1:Int),false,fX ns.length N)∧aet ns r N) (r+1) 0 ((r:Int),fX ns.length (gU (fun _ _=>false) r 1))
  (fun t _ ht s hs=> ?_) (fun s hs=> ?_) ⟨gU (fun _ _=>false) r 1,by simp,IA,aob (N:=fun _ _=>false) (by decide) (fun _ _ _ h=>by cases h),fun j d q _ h1 h2=>by omega⟩
 ·obtain⟨x,e2,N,rfl,h1⟩:=key;refine⟨N,h1,aGp ?_⟩;unfold aoa;rw[dD,Int.toNat_natCast,e0];refine bT (iB (by omega) (by omega)) (bs (wy (l:=0) (r:=1) (by decide) (by decide)) (bT (E8 hr) (bT (pO (s:=1) (by decide)) (bT (Aw (s:=1) (by decide)) (bs (E7 hr) ?_)))));exact bs ((congrArg (fun l=>Loop (O6 CC (ns.map Nd.v) (r:Int)) ((r:Int),l)) e1).trans e2) rfl
 ·obtain⟨N,rfl,h1,h2,h3⟩:=hs;rw[cL]at ht;obtain⟨i,hi⟩:∃i:Nat,i+t=r:=⟨r-t,by omega⟩
  have ei:(r:Int)-(t:Int)=(i:Int):=by omega
  have en:wrap .i64 ((i:Int)-1)=(r:Int)-((t+1:Nat):Int):=by rw[show(r:Int)-((t+1:Nat):Int)=(i:Int)-1 by omega];exact wrap64 (by omega) (by omega)
  have gk:i<ns.length:=by omega
  have hd:=cv gk;obtain⟨M,m1,m2,e3⟩:=aGt (hv i _ hd) gk h2 (g:=ns.map Nd.v) (g1:=(r:Int));rw[ei];simp only[O6,O5,un];refine⟨((r:Int)-((t+1:Nat):Int),fX ns.length M),bT (bj (by omega)) (bs (yx gk) ((aU (dH gk)).trans (bs e3 ?_))),M,rfl,m1.mono _ _ h1,m1.ne,fun j d q hj h4 h5 hq hm=> ?_⟩
  ·show some (Sum.inl (wrap .i64 ((i:Int)-1),fX ns.length M))=_;rw[en]
  ·have eC:N j q=true:=by rw[←m1.same j q (by omega)];exact hm
   by_cases c:j=i
   ·grind
   ·exact(h3 j d q hj (by omega) h5 hq eC).up m1.mono
 ·obtain⟨N,rfl,h1,h2,h3⟩:=hs;refine⟨((-1:Int),false,fX ns.length N),?_,N,rfl,h1,h2,fun j d q hj h4 hq hm=>h3 j d q hj (by omega) h4 hq hm⟩;simp only[O6,O5,un];grind
noncomputable def O7(C:af)(i t45 t46:Int)(aeu aev aew aex aey aez aeA aeB aeC:Bool)(gK:LV)(ji IB IC:Int)(eX:LV)(t53:Int)(ts aS aw aC:LV){β:Type}(kn:ay (Int×LV×LV×LV×LV) β)(kr:ay (Int×Bool×LV×LV×LV×LV) β):Option β:=
 bif decide (t53<9)then
  (idx ([.bool aeu,.bool aev,.bool aew,.bool aex,.bool aey,.bool aez,.bool aeA,.bool aeB,.bool aeC]:LV) t53).bind fun x4=>
  bif x4.toBool then
  (idx gK i).bind fun x5=>
  (C 37 [vI t53]).bind fun r6=>
  (C 36 (SI x5 [vI (gI r6),vI (dm r6),cz ts,gG aS,mD aw,mC aC])).bind fun r7=>
  jS (jr r7) i <|
  bif (decide (0≤t53))&&(decide (t53<9))then
   bif Nat.blt (0+((t53.toNat)*1)) 9 then
   ((jr r7)[i.toNat]?).bind fun x8=>
   jS aC i <|
   bif (Nat.beq (i.toNat) (i.toNat))&&true then
    kn (wrap .i64 (t53+1),(dw r7),(oq r7),(jT r7),aG (jr r7) i (asW (t53) (gI r7) x8))
   else none
   else none
  else none
  else
  kn (wrap .i64 (t53+1),ts,aS,aw,aC)
 else
  kr (t53,decide (t53<9),ts,aS,aw,aC)
noncomputable def O8(C:af)(i t45 t46:Int)(aeu aev aew aex aey aez aeA aeB aeC:Bool)(gK:LV)(ji IB IC:Int)(eX:LV):=un fun t53=>un fun ts=>un fun aS=>un fun aw aC=>O7 C i t45 t46 aeu aev aew aex aey aez aeA aeB aeC gK ji IB IC eX t53 ts aS aw aC ct cu
noncomputable def O9(C:af)(t45:Int)(gK:LV)(ji IB IC:Int)(eX:LV)(t46:Int)(ts aS aw aC:LV){β:Type}(kn:ay (Int×LV×LV×LV×LV) β)(kr:ay (Int×Bool×LV×LV×LV×LV) β):Option β:=
 bif decide (t46<t45)then
  aL eX t46 fun x3=>
  (Loop (O8 C t46 t45 t46 ((x3.cell 0).toBool) ((x3.cell 1).toBool) ((x3.cell 2).toBool) ((x3.cell 3).toBool) ((x3.cell 4).toBool) ((x3.cell 5).toBool) ((x3.cell 6).toBool) ((x3.cell 7).toBool) ((x3.cell 8).toBool) gK ji IB IC eX) (0,ts,aS,aw,aC)).bind (un fun uI=>un fun(z9:Bool)=>un fun(aGv:LV)=>un fun(zY:LV)=>un fun(HD:LV) (rX:LV)=>
   kn (wrap .i64 (t46+1),aGv,zY,HD,rX))
 else
  kr (t46,decide (t46<t45),ts,aS,aw,aC)
noncomputable def VB(C:af)(t45:Int)(gK:LV)(ji IB IC:Int)(eX:LV):=un fun t46=>un fun ts=>un fun aS=>un fun aw aC=>O9 C t45 gK ji IB IC eX t46 ts aS aw aC ct cu
noncomputable def aoc(C:af):da:=cm 225 Zw (aN 22 3706880) [[1,2,3,4,5,6,7,8,9,10,11,12,0,0,14,15,0,17,18,19,0,0,0]] (@O7 C) (cm 177 Zx (aN 11 1810) [[1,0,0,3,4,0,6,7,8,0,0,0]] (@O9 C) bS)
theorem aGw(C:af):bt C (aoc C) 12 (Lp [1,1,1,1,1,1,1,0,1,0,0,1,1,0,0,1,1,0,0] 12):=cj Zw (aN 22 3706880) [[1,2,3,4,5,6,7,8,9,10,11,12,0,0,14,15,0,17,18,19,0,0,0]] (@O7 C) (aY ak)
theorem aGx(C:af):bt C (aoc C) 12 (Lp [1,1,1,1,1,1,1,0,1,0,0] 12):=cj Zx (aN 11 1810) [[1,0,0,3,4,0,6,7,8,0,0,0]] (@O9 C) (aY (br (aGw C) ak))
noncomputable def aod(C:af)(dk:LV)(ew aO:Int):Option LV:=
 (C 32 [cz dk,vI ew,vI aO]).bind fun r1=>
 bif ((gI r1):Int) != 0 then
  some [vI 0,vI (gI r1),gG ([]:LV)]
 else
  bif decide (((wrap .i64 ((wrap .i64 ((dk.length:Int)*40))+20)):Int)>200000)then
  some [vI 0,vI 3,gG ([]:LV)]
  else
  bif (decide (0≤(dk.length:Int)))&&((decide ((dk.length:Int)≤(dk.length:Int)))&&(Nat.ble (((dk.length:Int).toNat)*72) bf))then
   (C 35 [cz dk,vI ew,vI 0,vI 1]).bind fun r2=>
   (Loop (VB C (wrap .i64 (ew+1)) dk ew 0 1 (gL r2)) (0,dk,([]:LV),([]:LV),List.replicate ((dk.length:Int).toNat) (V.agg [vI 0,vI 0,vI 0,vI 0,vI 0,vI 0,vI 0,vI 0,vI 0]))).bind (un fun aoe=>un fun(abI:Bool)=>un fun(aof:LV)=>un fun(yf:LV)=>un fun(qi:LV) (lz:LV)=>
    (C 38 [vI 0,vI 1]).bind fun wq=>
    jS lz ew <|
    bif (decide (0≤(gI wq)))&&(decide ((gI wq)<9))then
    (lz[ew.toNat]?).bind fun yk=>
    ((Bz yk)[0+((((gI wq):Int).toNat)*1)]?).bind fun tj=>
    some [vI tj.toInt,vI 0,gG yf]
    else none)
  else none
theorem aGy{dk:LV}{ew aO:Int}{r:Option LV}(h:aod CC dk ew aO=r):CC 12 [cz dk,vI ew,vI aO]=r:=bR (br (aGx CC) ak) h
def aI(x f:Int)(y:V):V:= .agg [vI (bif Nat.beq (0+((x.toNat)*1)) 0 then f else(y.cell 0).toInt),vI (bif Nat.beq (0+((x.toNat)*1)) 1 then f else(y.cell 1).toInt),vI (bif Nat.beq (0+((x.toNat)*1)) 2 then f else(y.cell 2).toInt),vI (bif Nat.beq (0+((x.toNat)*1)) 3 then f else(y.cell 3).toInt),vI (bif Nat.beq (0+((x.toNat)*1)) 4 then f else(y.cell 4).toInt),vI (bif Nat.beq (0+((x.toNat)*1)) 5 then f else(y.cell 5).toInt),vI (bif Nat.beq (0+((x.toNat)*1)) 6 then f else(y.cell 6).toInt),vI (bif Nat.beq (0+((x.toNat)*1)) 7 then f else(y.cell 7).toInt),vI (bif Nat.beq (0+((x.toNat)*1)) 8 then f else(y.cell 8).toInt)]
theorem aGz{g:Nat→Nat}{f s:Nat}(hs:s<9):aI (s:Int) (f:Int) (qq g)=qq fun q=>if q=s then f else g q:=
 nine (P:=fun s=>aI ((s:Nat):Int) (f:Int) (qq g)=qq fun q=>if q=s then f else g q) rfl rfl rfl rfl rfl rfl rfl rfl rfl s hs
theorem aGA{n i s f:Nat}{S:Nat→Nat→Nat}(hs:s<9):aG (fW n S) (i:Int) (aI (s:Int) (f:Int) (qq (S i)))=fW n fun j q=>if j=i∧q=s then f else S j q:=by
 rw[aGz hs];unfold aG fW;rw[Int.toNat_natCast,jf];refine dA fun j _=> ?_;by_cases c:j=i
 ·subst c;rw[aP rfl];simp
 ·rw[aM c];simp[c]
structure ID(ns:List Nd)(N:Nat→Nat→Bool)(i k:Nat)(fs:List Fm)(S:Nat→Nat→Nat):Prop where
 v:GF fs
 l:fs.length≤(9*i+k)*6
 m:∀j q,j<i∨j=i∧q<k→q<9→N j q=true→wz ns fs j (S j q) (q/3) (q %3)
section
variable {ns:List Nd}(hv:GV 6 ns)(hn:ns.length≤4000){r:Nat}(hr:r<ns.length){N:Nat→Nat→Bool}(hN:aet ns r N)
include hv hn hr hN
theorem aGB{i:Nat}(hi:i≤r){x1:Int}{g:LV}{g1 w0 w1:Int}{nd:LV}{fs:List Fm}{S:Nat→Nat→Nat}(h0:ID ns N i 0 fs S):∃(gs:List Fm) (T:Nat→Nat→Nat),ID ns N (i+1) 0 gs T∧
  Loop (O8 CC (i:Int) x1 (i:Int) (N i 0) (N i 1) (N i 2) (N i 3) (N i 4) (N i 5) (N i 6) (N i 7) (N i 8) (ns.map Nd.v) g1 w0 w1 nd) (0,g,fs.map Fm.v,cO Fm.v 0 fs,fW ns.length S)=some (9,false,g,gs.map Fm.v,cO Fm.v 0 gs,fW ns.length T):=by
 have gk:i<ns.length:=by omega
 obtain⟨⟨op,x,a,b⟩,hd⟩:∃d,ns[i]? =some d:=⟨_,cv gk⟩
 have ok:=hv i _ hd;have eg:idx (ns.map Nd.v) (i:Int)=some (Nd.v ⟨op,x,a,b⟩):=by rw[yx gk,(cP.1 hd).2]
 have key:=gH (step:=O8 CC (i:Int) x1 (i:Int) (N i 0) (N i 1) (N i 2) (N i 3) (N i 4) (N i 5) (N i 6) (N i 7) (N i 8) (ns.map Nd.v) g1 w0 w1 nd) (fun k (s:Int×LV×LV×LV×LV)=> ∃(gs:List Fm) (T:Nat→Nat→Nat),s=((k:Int),g,gs.map Fm.v,cO Fm.v 0 gs,fW ns.length T)∧ID ns N i k gs T)
  (fun r=> ∃(gs:List Fm) (T:Nat→Nat→Nat),r=((9:Int),false,g,gs.map Fm.v,cO Fm.v 0 gs,fW ns.length T)∧ID ns N i 9 gs T) 9 0 (0,g,fs.map Fm.v,cO Fm.v 0 fs,fW ns.length S)
  (fun k _ hk s hs=> ?_) (fun s hs=> ?_) ⟨fs,S,rfl,h0⟩
 ·obtain⟨r,e1,gs,T,rfl,h1⟩:=key;refine⟨gs,T,⟨h1.v,by have:=h1.l;omega,fun j q hj hq hm=>h1.m j q ?_ hq hm⟩,e1⟩;omega
 ·obtain⟨gs,T,rfl,h1⟩:=hs;rw[cL]at hk;have e0:idx ([.bool (N i 0),.bool (N i 1),.bool (N i 2),.bool (N i 3),.bool (N i 4),.bool (N i 5),.bool (N i 6),.bool (N i 7),.bool (N i 8)]:LV) (k:Int)=some (.bool (N i k)):=pC (n:=9) (g:=fun s=> .bool (N i s)) hk;simp only[O8,O7,un];cases Pb:N i k with
  |false=>
   refine⟨(((k+1:Nat):Int),g,gs.map Fm.v,cO Fm.v 0 gs,fW ns.length T),bT (bj (by omega)) (bs e0 (bF (by rw[Pb];rfl) (by rw[bY (by omega)]))),gs,T,rfl,h1.v,by have:=h1.l;omega,fun j q hj hq hm=>h1.m j q ?_ hq hm⟩;have:¬(j=i∧q=k):=fun h=>by rw[h.1,h.2,Pb]at hm;cases hm
   omega
  |true=>
   have wA:=hN.ne i k hk Pb;have ch:=hN.ch i _ k hd hi hk Pb;have ek:3*(k/3)+k %3=k:=by omega
   have l3:k/3<3:=by omega
   have r3:k %3<3:=by omega
   have t3:gA k<3:=by unfold gA;omega
   have s1:3*(k/3)+gA k<9:=by omega
   have s2:3*gA k+k %3<9:=by omega
   obtain⟨f,Ax,e2,x2,m2⟩:=aGj hv hd h1.v (by have:=h1.l;omega) gk l3 r3 wA (S:=T) (s:=g)
    (fun h5 h7=>by
     have:N a (if op=7 then 3*(k/3)+gA k else k)=true:=ch.cA h5;rw[aM h7]at this;rw[ek];exact h1.m _ k (.inl (ok.a1 h5)) hk this)
    (fun h5 h7 h8=>by
     have:N b (if op=7 then 3*gA k+k %3 else k)=true:=ch.cB h5 h8;rw[aM h7]at this;rw[ek];exact h1.m _ k (.inl (ok.b1 h5 h8)) hk this)
    (fun h7=>by
     have:N a (if op=7 then 3*(k/3)+gA k else k)=true:=ch.cA (by show 5≤op;omega);rw[aP h7]at this;have:=h1.m _ _ (.inl (ok.a1 (by show 5≤op;omega))) s1 this;rwa [show(3*(k/3)+gA k)/3=k/3 by omega,show(3*(k/3)+gA k) %3=3-k/3-k %3 by unfold gA at t3⊢;omega]at this)
    (fun h7=>by
     have:N b (if op=7 then 3*gA k+k %3 else k)=true:=ch.cB (by show 5≤op;omega) (by show op≠8;omega);rw[aP h7]at this;have:=h1.m _ _ (.inl (ok.b1 (by show 5≤op;omega) (by show op≠8;omega))) s2 this;rwa [show(3*gA k+k %3)/3=3-k/3-k %3 by unfold gA at t3⊢;omega,show(3*gA k+k %3) %3=k %3 by omega]at this)
   refine⟨(((k+1:Nat):Int),g,Ax.map Fm.v,cO Fm.v 0 Ax,fW ns.length fun j q=>if j=i∧q=k then f else T j q),bT (bj (by omega)) (bs e0 (bT (by rw[Pb];rfl) (bs eg (bs (Iy hk) (bs e2 (bT (yE gk) (bT (pO hk) (bT (Aw hk) (bs (Av gk) (bT (yE gk) (bT (by rw[CF];exact nX _) ?_))))))))))),Ax,_,rfl,x2.v,by have:=h1.l;have:=x2.l;omega,fun j q hj hq hm=> ?_⟩
   ·refine(congrArg (fun z=>some (Sum.inl (wrap .i64 ((k:Int)+1),g,Ax.map Fm.v,cO Fm.v 0 Ax,z))) (aGA (f:=f) hk)).trans ?_;rw[bY (by omega)]
   ·by_cases c:j=i∧q=k
    ·rw[aP c,c.1,c.2];exact m2
    ·rw[aM c];exact(h1.m j q (by omega) hq hm).up x2
 ·obtain⟨gs,T,rfl,h1⟩:=hs;refine⟨((9:Int),false,g,gs.map Fm.v,cO Fm.v 0 gs,fW ns.length T),?_,gs,T,rfl,h1⟩;simp only[O8,O7,un];exact bF rfl rfl
end
theorem aGC{L:Nat}{ns:List Nd}(hv:GV L ns)(h1:1≤L)(h6:L≤6)(hn:ns.length≤4000){r:Nat}(hr:r<ns.length):∃(fs:List Fm) (f:Nat),GF fs∧fs.length≤54*(r+1)∧wz ns fs r f 0 1∧CC 12 [cz (ns.map Nd.v),vI (r:Int),vI (L:Int)]=some [vI (f:Int),vI 0,gG (fs.map Fm.v)]:=by
 have hv6:=hv.mono h6;obtain⟨N,hN,e1⟩:=aGu hv (by omega) hr;have e0:List.replicate ns.length (V.agg [vI 0,vI 0,vI 0,vI 0,vI 0,vI 0,vI 0,vI 0,vI 0])=fW ns.length fun _ _=>0:=mG;have key:=gH (step:=VB CC ((r+1:Nat):Int) (ns.map Nd.v) (r:Int) 0 1 (fX ns.length N)) (fun i (s:Int×LV×LV×LV×LV)=> ∃(gs:List Fm) (T:Nat→Nat→Nat),s=((i:Int),ns.map Nd.v,gs.map Fm.v,cO Fm.v 0 gs,fW ns.length T)∧ID ns N i 0 gs T)
  (fun x=> ∃(gs:List Fm) (T:Nat→Nat→Nat),x=(((r+1:Nat):Int),false,ns.map Nd.v,gs.map Fm.v,cO Fm.v 0 gs,fW ns.length T)∧ID ns N (r+1) 0 gs T) (r+1) 0 (0,ns.map Nd.v,[],[],fW ns.length fun _ _=>0)
  (fun i _ hi s hs=> ?_) (fun s hs=> ?_) ⟨[],fun _ _=>0,rfl,fun i d h=>by simp at h,mi _,fun j q h=>by omega⟩
 ·obtain⟨x,e2,gs,T,rfl,h⟩:=key;refine⟨gs,T r 1,h.v,by have:=h.l;omega,h.m r 1 (.inl (yK _)) (by decide) hN.root,aGy ?_⟩;unfold aod;refine bs (ad6 hv h1 h6 (by omega) hr) (bF rfl ?_);rw[dD,bY (by omega),Int.toNat_natCast,e0,wrap64 (x:=(ns.length:Int)*40) (by omega) (by omega),wrap64 (by omega) (by omega)];refine bF (cw (by omega)) (bT (iB (by omega) (by omega)) (bs e1 (bs e2 (bs (wy (l:=0) (r:=1) (by decide) (by decide)) (bT (yE hr) (bT (pO (s:=1) (by decide)) (bs (Av hr) (bs (Cp (s:=1) (by decide)) ?_))))))));rfl
 ·obtain⟨gs,T,rfl,h⟩:=hs;rw[cL]at hi;have gk:i<ns.length:=by omega
  obtain⟨Ax,T',h',e3⟩:=aGB hv6 hn hr hN (show i≤r by omega) (x1:=((r+1:Nat):Int)) (g:=ns.map Nd.v) (g1:=(r:Int)) (w0:=0) (w1:=1) (nd:=fX ns.length N) h;refine⟨(((i+1:Nat):Int),ns.map Nd.v,Ax.map Fm.v,cO Fm.v 0 Ax,fW ns.length T'),?_,Ax,T',rfl,h'⟩;simp only[VB,O9,un];refine bT (cF hi) ((aU (dH gk)).trans (bs e3 ?_));simp only[un];rw[bY (by omega)]
 ·obtain⟨gs,T,rfl,h⟩:=hs;rw[cL]at h⊢;refine⟨(((r+1:Nat):Int),false,ns.map Nd.v,gs.map Fm.v,cO Fm.v 0 gs,fW ns.length T),?_,gs,T,rfl,h⟩;simp only[VB,O9,un];refine bF (cf (aR _)) ?_;rw[cf (aR _)]
noncomputable def aog(C:af)(sn qo lA:Bool)(fL hZ:Int)(jV:LV)(x y:Int):Option LV:=
 (idx jV (wrap .i64 ((wrap .i64 (fL*x))+(wrap .i64 (hZ*y))))).bind fun x1=>
 some [.int .u64 x1.toInt]
theorem aGD{sn qo lA:Bool}{fL hZ:Int}{jV:LV}{x y:Int}{r:Option LV}(h:aog CC sn qo lA fL hZ jV x y=r):CC 47 [.bool sn,.bool qo,.bool lA,vI fL,vI hZ,jd jV,vI x,vI y]=r:=bR (L:=bS) ak h
noncomputable def aeD(C:af)(ky fF ik lN mg mh E9 to:Int)(w:List UInt8):Option LV:=
 bif ky==2 then
  bif to==(wrap .i64 (E9+1))then
  (bif decide (0≤E9)then(w[E9.toNat]?).map fun b=>V.int .u8 b.toNat else none).bind fun x1=>
  some [.bool (((wrap .i64 (wrap .u8 (x1.toInt-97))):Int)==lN)]
  else
  some [.bool false]
 else
  some [.bool (decide (E9≤to))]
theorem aGE{ky fF ik lN mg mh E9 to:Int}{w:List UInt8}{r:Option LV}(h:aeD CC ky fF ik lN mg mh E9 to w=r):CC 127 [vI ky,vI fF,vI ik,vI lN,vI mg,vI mh,vI E9,vI to,.str w]=r:=bR (L:=bS) ak h
noncomputable def VC(C:af)(w:List UInt8)(row:Int)(t33:Bool){β:Type}(kr:ay (Int) β):Option β:=
 bif t33 then
  bif decide (0≤(wrap .i64 ((w.length:Int)+1)))then
  kr (wrap .u64 ((wrap .u64 (1*2^(min (wrap .i64 ((w.length:Int)+1)).toNat (IntKind.bits .u64))))-1))
  else none
 else
  kr row
noncomputable def Pc(C:af)(w:List UInt8)(t42 jZ jA jM kW iI jN VD VE row t43 aeE:Int){β:Type}(kn:ay (Int×Int×Int) β)(kr:ay (Int×Int×Bool×Int) β):Option β:=
 bif decide (t43<t42)then
  bif (decide (0≤jA))&&(decide (jA<3))then
  (([vI VD,vI VE,vI t43]:LV)[0+((jA.toNat)*1)]?).bind fun x5=>
  bif (decide (0≤jM))&&(decide (jM<3))then
   (([vI VD,vI VE,vI t43]:LV)[0+((jM.toNat)*1)]?).bind fun x6=>
   (C 127 [vI jZ,vI jA,vI jM,vI kW,vI iI,vI jN,vI x5.toInt,vI x6.toInt,.str w]).bind fun r7=>
   bif (gB r7)then
   bif decide (0≤t43)then
    kn (wrap .u64 ((BitVec.ofInt (IntKind.bits .u64) row|||BitVec.ofInt (IntKind.bits .u64) (wrap .u64 (1*2^(min t43.toNat (IntKind.bits .u64))))).toNat),wrap .i64 (t43+1),t43)
   else none
   else
   kn (row,wrap .i64 (t43+1),t43)
  else none
  else none
 else
  kr (row,t43,decide (t43<t42),aeE)
noncomputable def Pd(C:af)(w:List UInt8)(t42 jZ jA jM kW iI jN VD VE:Int):=un fun row=>un fun t43 aeE=>Pc C w t42 jZ jA jM kW iI jN VD VE row t43 aeE ct cu
noncomputable def aoh(C:af):da:=lu 543 aaS [[0]] (@VC C) (cm 129 aaT (aN 13 4106) [[1,0,3,0,0,5,6,7,8,9,10,11,12,0]] (@Pc C) bS)
theorem aGF(C:af):bt C (aoh C) 99 (Cd 33 [1,1,1,0,1,0,0,1,0] [1,1,1,0,1,0,0,1,1] 99):=lr aaS [[0]] (@VC C) (aY ak) (aY ak)
theorem aGG(C:af):bt C (aoh C) 99 (Lp [1,1,1,1,0,1,0,0] 99):=cj aaT (aN 13 4106) [[1,0,3,0,0,5,6,7,8,9,10,11,12,0]] (@Pc C) (aY ak)
noncomputable def aeF(C:af)(ky fF ik lN mg mh x y:Int)(w:List UInt8):Option LV:=
 bif fF != 2 then
  bif ik != 2 then
  bif (decide (0≤fF))&&(decide (fF<3))then
   (([vI x,vI y,vI 0]:LV)[0+((fF.toNat)*1)]?).bind fun x1=>
   bif (decide (0≤ik))&&(decide (ik<3))then
   (([vI x,vI y,vI 0]:LV)[0+((ik.toNat)*1)]?).bind fun x2=>
   (C 127 [vI ky,vI fF,vI ik,vI lN,vI mg,vI mh,vI x1.toInt,vI x2.toInt,.str w]).bind fun r3=>
   VC C w 0 (gB r3) (fun aeG=>
    some [.int .u64 aeG])
   else none
  else none
  else
  (Loop (Pd C w (wrap .i64 ((w.length:Int)+1)) ky fF ik lN mg mh x y) (0,0,0)).bind (un fun aGH=>un fun uI=>un fun(z9:Bool) (aJi:Int)=>
   some [.int .u64 aGH])
 else
  (Loop (Pd C w (wrap .i64 ((w.length:Int)+1)) ky fF ik lN mg mh x y) (0,0,0)).bind (un fun aGI=>un fun Er=>un fun(Mh:Bool) (aJj:Int)=>
   some [.int .u64 aGI])
theorem aGJ{ky fF ik lN mg mh x y:Int}{w:List UInt8}{r:Option LV}(h:aeF CC ky fF ik lN mg mh x y w=r):CC 99 [vI ky,vI fF,vI ik,vI lN,vI mg,vI mh,vI x,vI y,.str w]=r:=bR (br (aGF CC) (br (aGG CC) ak)) h
noncomputable def IE(C:af)(v:Int)(sn qo lA:Bool)(fL hZ:Int)(jV:LV)(x y t23 row t24:Int){β:Type}(kn:ay (Int×Int) β)(kr:ay (Int×Int×Bool) β):Option β:=
 bif decide (t24<t23)then
  bif v==0 then
  (C 47 [.bool sn,.bool qo,.bool lA,vI fL,vI hZ,jd jV,vI t24,vI y]).bind fun r2=>
  kn (wrap .u64 ((BitVec.ofInt (IntKind.bits .u64) row|||BitVec.ofInt (IntKind.bits .u64) (gI r2)).toNat),wrap .i64 (t24+1))
  else
  (C 47 [.bool sn,.bool qo,.bool lA,vI fL,vI hZ,jd jV,vI x,vI t24]).bind fun r3=>
  kn (wrap .u64 ((BitVec.ofInt (IntKind.bits .u64) row|||BitVec.ofInt (IntKind.bits .u64) (gI r3)).toNat),wrap .i64 (t24+1))
 else
  kr (row,t24,decide (t24<t23))
noncomputable def Fa(C:af)(v:Int)(sn qo lA:Bool)(fL hZ:Int)(jV:LV)(x y t23:Int):=un fun row t24=>IE C v sn qo lA fL hZ jV x y t23 row t24 ct cu
noncomputable def aGK(C:af):da:=cm 113 aaU (aN 12 2560) [[1,2,3,4,5,6,7,8,9,0,11,0,0]] (@IE C) bS
theorem aGL(C:af):bt C (aGK C) 100 (Lp [1,1,1,0,1,0,0] 100):=cj aaU (aN 12 2560) [[1,2,3,4,5,6,7,8,9,0,11,0,0]] (@IE C) (aY ak)
noncomputable def aeH(C:af)(v:Int)(sn qo lA:Bool)(fL hZ:Int)(jV:LV)(x y jz:Int):Option LV:=
 bif v==2 then
  (C 47 [.bool sn,.bool qo,.bool lA,vI fL,vI hZ,jd jV,vI x,vI y]).bind fun r1=>
  bif ((gI r1):Int) != 0 then
  bif decide (0≤jz)then
   some [.int .u64 (wrap .u64 ((wrap .u64 (1*2^(min jz.toNat (IntKind.bits .u64))))-1))]
  else none
  else
  some [.int .u64 0]
 else
  (Loop (Fa C v sn qo lA fL hZ jV x y jz) (0,0)).bind (un fun aeG=>un fun(jV:Int) (uE:Bool)=>
   some [.int .u64 aeG])
theorem aGM{v:Int}{sn qo lA:Bool}{fL hZ:Int}{jV:LV}{x y jz:Int}{r:Option LV}(h:aeH CC v sn qo lA fL hZ jV x y jz=r):CC 100 [vI v,.bool sn,.bool qo,.bool lA,vI fL,vI hZ,jd jV,vI x,vI y,vI jz]=r:=bR (br (aGL CC) ak) h
def fO(x y z:Nat):Nat→Nat:=fun v=>if v=0 then x else if v=1 then y else z
structure lO(R n:Nat)(F:Nat→Prop):Prop where
 lt:R<2^64
 bit:∀z,R.testBit z=true↔z≤n∧F z
structure Tt where
 D:Nat→Bool
 s0:Nat
 s1:Nat
 l:List Nat
def U6(l:List Nat):LV:=l.map fun(x:Nat)=> .int .u64 (x:Int)
def Tt.v(t:Tt):V:= .agg [.bool (t.D 0),.bool (t.D 1),.bool (t.D 2),vI (t.s0:Int),vI (t.s1:Int),jd (U6 t.l)]
structure Pe(n:Nat)(P:(Nat→Nat)→Prop)(t:Tt):Prop where
 loc:∀e e',e 0=e' 0→e 1=e' 1→e 2=e' 2→(P e↔P e')
 dep:∀v,v<3→t.D v=false→∀e w,(P (iX e v w)↔P e)
 b0:t.s0≤100
 b1:t.s1≤100
 row:∀x y,x≤n→y≤n→∃R,t.l[t.s0*x+t.s1*y]? =some R∧lO R n fun z=>P (fO x y z)
theorem lO.zero{n:Nat}{F:Nat→Prop}(h:∀z,z≤n→¬F z):lO 0 n F:=⟨by decide,fun z=>⟨fun h=>(by grind),fun h'=>absurd h'.2 (h z h'.1)⟩⟩
theorem lO.full{n:Nat}{F:Nat→Prop}(hn:n≤40)(h:∀z,z≤n→F z):lO (2^(n+1)-1) n F:=⟨Fs (Nat.sub_le _ _) (yP (by omega) (by omega)),fun z=>by
 grind⟩
theorem lO.congr{R n:Nat}{F G:Nat→Prop}(h:lO R n F)(e:∀z,z≤n→(F z↔G z)):lO R n G:=⟨h.lt,fun z=>by
 rw[h.bit];grind⟩
theorem aeI{n:Nat}(hn:n≤40):wrap .u64 ((wrap .u64 (1*2^(min ((n+1:Nat):Int).toNat (IntKind.bits .u64))))-1)=((2^(n+1)-1:Nat):Int):=by
 have h1:2^(n+1)<2^64:=yP (by omega) (by omega);have h2:1≤2^(n+1):=Nat.one_le_two_pow;rw[Int.toNat_natCast,abm (by omega),show((2^(n+1):Nat):Int)-1=((2^(n+1)-1:Nat):Int) by omega];exact Mc (by omega)
section
variable {n:Nat}(hn:n≤40){P:(Nat→Nat)→Prop}{t:Tt}(h:Pe n P t){x y:Nat}(hx:x≤n)(hy:y≤n)
include hn h hx hy
theorem Ay:∃R,lO R n (fun z=>P (fO x y z))∧CC 47 [.bool (t.D 0),.bool (t.D 1),.bool (t.D 2),vI (t.s0:Int),vI (t.s1:Int),jd (U6 t.l),vI (x:Int),vI (y:Int)]=some [.int .u64 (R:Int)]:=by
 obtain⟨R,e,g⟩:=h.row x y hx hy;refine⟨R,g,aGD ?_⟩;unfold aog;have b0:=Fz h.b0 (show x≤40 by omega);have b1:=Fz h.b1 (show y≤40 by omega);have i1:wrap .i64 ((t.s0:Int)*(x:Int))=((t.s0*x:Nat):Int):=by rw[←Int.natCast_mul];exact wrap64 (by omega) (by omega)
 have i2:wrap .i64 ((t.s1:Int)*(y:Int))=((t.s1*y:Nat):Int):=by rw[←Int.natCast_mul];exact wrap64 (by omega) (by omega)
 rw[i1,i2,show((t.s0*x:Nat):Int)+((t.s1*y:Nat):Int)=((t.s0*x+t.s1*y:Nat):Int) by omega,wrap64 (by omega) (by omega)];refine bs (a:=V.int .u64 (R:Int)) ?_ rfl;rw[zB rfl];unfold U6;grind
end
section
variable {w:List UInt8}(hw:nv w 6)(hn:w.length≤40)
include hw hn
theorem aGN{op x y c a b p q:Nat}(hp:p≤w.length)(hq:q≤w.length)(ho:op=2∨op=3):∃r:Bool,(r=true↔if op=2 then q=p+1∧(lets w).getD p 0=c else p≤q)∧CC 127 [vI (op:Int),vI (x:Int),vI (y:Int),vI (c:Int),vI (a:Int),vI (b:Int),vI (p:Int),vI (q:Int),.str w]=some [.bool r]:=by
 have fin:∀{r:Bool},aeD CC (op:Int) (x:Int) (y:Int) (c:Int) (a:Int) (b:Int) (p:Int) (q:Int) w=some [.bool r]→CC 127 [vI (op:Int),vI (x:Int),vI (y:Int),vI (c:Int),vI (a:Int),vI (b:Int),vI (p:Int),vI (q:Int),.str w]=some [.bool r]:=fun h=>aGE h;unfold aeD at fin;rw[bY (by omega)]at fin;rcases ho with rfl|rfl
 ·rw[aP rfl];by_cases h:q=p+1
  ·have cp:p<w.length:=by omega
   have h0:=(hw.2.2.2 p cp).1;have eL:wrap .i64 (wrap .u8 (((w.getD p 0).toNat:Int)-97))=(((lets w).getD p 0:Nat):Int):=by
    rw[TH h0,←TN cp h0];have:(lets w).getD p 0<6:=abH (L:=6) hw cp;exact wrap64 (by omega) (by omega)
   refine⟨(((lets w).getD p 0:Nat):Int)==(c:Int),?_,fin (bT rfl (bT (by simp[h]) (bs (Ms cp) ?_)))⟩
   ·grind
   simp_all
  ·exact⟨false,by simp[h],fin (bT rfl (bF (by simp;omega) rfl))⟩
 grind
omit hw hn in
theorem Ct{v x y z:Nat}(hv:v<3):(([vI (x:Int),vI (y:Int),vI (z:Int)]:LV)[0+(((v:Int).toNat)*1)]?)=some (vI ((fO x y z v:Nat):Int)):=by
 rcases(show v=0∨v=1∨v=2 by omega)with rfl|rfl|rfl<;>rfl
omit hw hn in
theorem tv{v:Nat}(hv:v<3):(decide (0≤(v:Int))&&decide ((v:Int)<3))=true:=by
 rw[bj (by omega),bj (by omega)];rfl
omit hw hn in
theorem aeJ{x y z n v:Nat}(hx:x≤n)(hy:y≤n)(hz:z≤n):fO x y z v≤n:=by unfold fO;split;exact hx;split;exact hy;exact hz
theorem aoi{d:Fm}(ho:d.op=2∨d.op=3)(h1:d.x<3)(h2:d.y<3){x y:Nat}(hx:x≤w.length)(hy:y≤w.length){S:Nat→(Nat→Nat)→Prop}:∃R,lO R w.length (fun z=>den (lets w) S d (fO x y z))∧CC 99 [vI (d.op:Int),vI (d.x:Int),vI (d.y:Int),vI (d.c:Int),vI (d.a:Int),vI (d.b:Int),vI (x:Int),vI (y:Int),.str w]=some [.int .u64 (R:Int)]:=by
 obtain⟨op,v1,v2,c,a,b⟩:=d;replace h1:v1<3:=h1;replace h2:v2<3:=h2;replace ho:op=2∨op=3:=ho;have aoj:∀z,z≤w.length→∃r:Bool,(r=true↔den (lets w) S ⟨op,v1,v2,c,a,b⟩ (fO x y z))∧CC 127 [vI (op:Int),vI (v1:Int),vI (v2:Int),vI (c:Int),vI (a:Int),vI (b:Int),vI ((fO x y z v1:Nat):Int),vI ((fO x y z v2:Nat):Int),.str w]=some [.bool r]:=fun z hz=>by
  obtain⟨r,e1,e2⟩:=aGN hw hn (op:=op) (x:=v1) (y:=v2) (c:=c) (a:=a) (b:=b) (aeJ (v:=v1) hx hy hz) (aeJ (v:=v2) hx hy hz) ho;refine⟨r,e1.trans ?_,e2⟩;unfold den;grind
 have fin:∀{R:Nat},aeF CC (op:Int) (v1:Int) (v2:Int) (c:Int) (a:Int) (b:Int) (x:Int) (y:Int) w=some [.int .u64 (R:Int)]→CC 99 [vI (op:Int),vI (v1:Int),vI (v2:Int),vI (c:Int),vI (a:Int),vI (b:Int),vI (x:Int),vI (y:Int),.str w]=some [.int .u64 (R:Int)]:=fun h=>aGJ h;unfold aeF at fin;rw[bY (by omega)]at fin;have key:=gH (step:=Pd CC w ((w.length+1:Nat):Int) (op:Int) (v1:Int) (v2:Int) (c:Int) (a:Int) (b:Int) (x:Int) (y:Int)) (fun k (s:Int×Int×Int)=> ∃(R:Nat) (z:Int),s=((R:Int),(k:Int),z)∧R<2^64∧∀z,R.testBit z=true↔z<k∧den (lets w) S ⟨op,v1,v2,c,a,b⟩ (fO x y z))
  (fun r=> ∃(R:Nat) (z:Int),r=((R:Int),((w.length+1:Nat):Int),false,z)∧lO R w.length fun z=>den (lets w) S ⟨op,v1,v2,c,a,b⟩ (fO x y z)) (w.length+1) 0 (0,0,0)
  (fun k _ hk s hs=> ?_) (fun s hs=> ?_) ⟨0,0,rfl,by decide,fun z=>by grind⟩
 ·obtain⟨r,e1,R,z,rfl,g⟩:=key;by_cases c1:v1=2
  ·subst c1;exact⟨R,g,fin (bF rfl (bs e1 rfl))⟩
  ·by_cases c2:v2=2
   ·subst c2;exact⟨R,g,fin (bT (by simp;omega) (bF rfl (bs e1 rfl)))⟩
   ·obtain⟨r,h3,h4⟩:=aoj 0 (mi _);have hz:∀z,den (lets w) S ⟨op,v1,v2,c,a,b⟩ (fO x y z)↔den (lets w) S ⟨op,v1,v2,c,a,b⟩ (fO x y 0):=fun z=>by
     have ea:fO x y z v1=fO x y 0 v1:=by unfold fO;grind
     have eb:fO x y z v2=fO x y 0 v2:=by unfold fO;grind
     unfold den;grind
    cases r with
    |false=>exact⟨0,lO.zero fun z _ hd=>(by grind),fin (bT (by simp;omega) (bT (by simp;omega) (bT (tv h1) (bs (Ct (z:=0) h1) (bT (tv h2) (bs (Ct (z:=0) h2) (bs h4 rfl)))))))⟩
    |true=>
     refine⟨2^(w.length+1)-1,lO.full hn fun z _=>(hz z).2 (h3.1 rfl),fin (bT (by simp;omega) (bT (by simp;omega) (bT (tv h1) (bs (Ct (z:=0) h1) (bT (tv h2) (bs (Ct (z:=0) h2) (bs h4 ?_)))))))⟩;unfold VC;rw[bY (by omega)];refine bT rfl (bT (bj (by omega)) ?_);rw[aeI hn]
 ·obtain⟨R,z,rfl,g1,g2⟩:=hs;rw[cL]at hk;obtain⟨r,h3,h4⟩:=aoj k (by omega);simp only[Pd,Pc,un];cases r with
  |false=>
   refine⟨((R:Int),((k+1:Nat):Int),(k:Int)),bT (cF hk) (bT (tv h1) (bs (Ct h1) (bT (tv h2) (bs (Ct h2) (bs h4 (bF rfl (by rw[bY (by omega)]))))))),R,_,rfl,g1,fun z=> ?_⟩;grind
  |true=>
   refine⟨(((R|||2^k:Nat):Int),((k+1:Nat):Int),(k:Int)),bT (cF hk) (bT (tv h1) (bs (Ct h1) (bT (tv h2) (bs (Ct h2) (bs h4 (bT rfl (bT (bj (by omega)) ?_))))))),_,_,rfl,yO g1 (yP (by omega) (by omega)),fun z=> ?_⟩
   ·rw[Int.toNat_natCast,abm (by omega),u64_or g1 (yP (by omega) (by omega)),bY (by omega)]
   grind
 ·obtain⟨R,z,rfl,g1,g2⟩:=hs;rw[cL]at g2⊢;refine⟨((R:Int),((w.length+1:Nat):Int),false,z),?_,R,z,rfl,g1,fun z=>(g2 z).trans ⟨fun h=>⟨by omega,h.2⟩,fun h=>⟨by omega,h.2⟩⟩⟩;simp only[Pd,Pc,un];grind
end
section
variable {n:Nat}(hn:n≤40){P:(Nat→Nat)→Prop}{t:Tt}(h:Pe n P t){x y:Nat}(hx:x≤n)(hy:y≤n)
include hn h hx hy
theorem aGO{v:Nat}(hv:v<3):∃R,lO R n (fun z=> ∃q,q≤n∧P (iX (fO x y z) v q))∧CC 100 [vI (v:Int),.bool (t.D 0),.bool (t.D 1),.bool (t.D 2),vI (t.s0:Int),vI (t.s1:Int),jd (U6 t.l),vI (x:Int),vI (y:Int),vI ((n+1:Nat):Int)]=some [.int .u64 (R:Int)]:=by
 have fin:∀{R:Nat},aeH CC (v:Int) (t.D 0) (t.D 1) (t.D 2) (t.s0:Int) (t.s1:Int) (U6 t.l) (x:Int) (y:Int) ((n+1:Nat):Int)=some [.int .u64 (R:Int)]→CC 100 [vI (v:Int),.bool (t.D 0),.bool (t.D 1),.bool (t.D 2),vI (t.s0:Int),vI (t.s1:Int),jd (U6 t.l),vI (x:Int),vI (y:Int),vI ((n+1:Nat):Int)]=some [.int .u64 (R:Int)]:=fun h=>aGM h;unfold aeH at fin;by_cases c:v=2
 ·subst c;obtain⟨R,g,e⟩:=Ay hn h hx hy;have eu:∀z q,(P (iX (fO x y z) 2 q)↔P (fO x y q)):=fun z q=>h.loc _ _ rfl rfl rfl;by_cases hR:R=0
  ·subst hR;refine⟨0,lO.zero fun z _ ⟨q,q1,q2⟩=> ?_,fin (bT rfl (bs e (bF rfl rfl)))⟩;have:=(g.bit q).2 ⟨q1,(eu z q).1 q2⟩;grind
  ·obtain⟨q,hq⟩:=Nat.exists_testBit_of_ne_zero hR;have:=(g.bit q).1 hq;refine⟨2^(n+1)-1,lO.full hn fun z _=>⟨q,this.1,(eu z q).2 this.2⟩,fin (bT rfl (bs e (bT (by simp;omega) (bT (bj (by omega)) ?_))))⟩;rw[aeI hn]
 ·have lp:∀(G:Nat→Nat→Prop),(∀k,k≤n→∃R,lO R n (G k)∧∀A:Nat,A<2^64→Fa CC (v:Int) (t.D 0) (t.D 1) (t.D 2) (t.s0:Int) (t.s1:Int) (U6 t.l) (x:Int) (y:Int) ((n+1:Nat):Int) ((A:Int),(k:Int))=some (.inl (((A|||R:Nat):Int),((k+1:Nat):Int))))→
    ∃R:Nat,lO R n (fun z=> ∃q,q≤n∧G q z)∧Loop (Fa CC (v:Int) (t.D 0) (t.D 1) (t.D 2) (t.s0:Int) (t.s1:Int) (U6 t.l) (x:Int) (y:Int) ((n+1:Nat):Int)) (0,0)=some ((R:Int),((n+1:Nat):Int),false):=fun G hG=>by
   have key:=gH (step:=Fa CC (v:Int) (t.D 0) (t.D 1) (t.D 2) (t.s0:Int) (t.s1:Int) (U6 t.l) (x:Int) (y:Int) ((n+1:Nat):Int)) (fun k (s:Int×Int)=> ∃R:Nat,s=((R:Int),(k:Int))∧R<2^64∧∀z,R.testBit z=true↔z≤n∧∃q,q<k∧G q z)
    (fun r=> ∃R:Nat,r=((R:Int),((n+1:Nat):Int),false)∧lO R n (fun z=> ∃q,q≤n∧G q z)) (n+1) 0 (0,0)
    (fun k _ hk s hs=> ?_) (fun s hs=> ?_) ⟨0,rfl,by decide,fun z=>by grind⟩
   ·grind
   ·obtain⟨A,rfl,a1,a2⟩:=hs;obtain⟨R,g,e⟩:=hG k (by omega);refine⟨_,e A a1,_,rfl,yO a1 g.lt,fun z=> ?_⟩;rw[CG,qw,a2,g.bit,←and_or_left];refine CL fun _=> ?_;constructor
    ·rintro(⟨q,q1,q2⟩|q2)
     all_goals grind
    grind
   ·obtain⟨A,rfl,a1,a2⟩:=hs;rw[cL]at a2⊢;refine⟨((A:Int),((n+1:Nat):Int),false),?_,A,rfl,a1,fun z=>(a2 z).trans (CL fun _=>⟨fun⟨q,q1,q2⟩=>⟨q,by omega,q2⟩,fun⟨q,q1,q2⟩=>⟨q,by omega,q2⟩⟩)⟩;simp only[Fa,IE,un];grind
  by_cases c0:v=0
  ·subst c0;obtain⟨R,g,e⟩:=lp (fun q z=>P (fO q y z)) fun k hk=>by
    obtain⟨R,g,e⟩:=Ay hn h hk hy;refine⟨R,g,fun A hA=> ?_⟩;simp only[Fa,IE,un];refine bT (cF (by omega)) (bT rfl (bs e ?_));simp only[V.jE,V.toInt_int,gI,gL,gB,gS];rw[u64_or hA g.lt,bY (by omega)]
   refine⟨R,g.congr fun z _=> ?_,fin (bF rfl (bs e rfl))⟩;exact exists_congr fun q=>CL fun _=>h.loc _ _ rfl rfl rfl
  ·have c1:v=1:=by omega
   subst c1;obtain⟨R,g,e⟩:=lp (fun q z=>P (fO x q z)) fun k hk=>by
    obtain⟨R,g,e⟩:=Ay hn h hx hk;refine⟨R,g,fun A hA=> ?_⟩;simp only[Fa,IE,un];refine bT (cF (by omega)) (bF rfl (bs e ?_));simp only[V.jE,V.toInt_int,gI,gL,gB,gS];rw[u64_or hA g.lt,bY (by omega)]
   refine⟨R,g.congr fun z _=> ?_,fin (bF rfl (bs e rfl))⟩;exact exists_congr fun q=>CL fun _=>h.loc _ _ rfl rfl rfl
end
noncomputable def aok(C:af)(op:Int):Option LV:=
 bif op==1 then
  some [.bool false,.bool false,.bool false,.bool false,.bool false,.bool true]
 else
  bif op==2 then
  some [.bool true,.bool true,.bool true,.bool false,.bool false,.bool true]
  else
  bif op==3 then
   some [.bool true,.bool true,.bool false,.bool false,.bool false,.bool true]
  else
   bif op==4 then
   some [.bool false,.bool false,.bool false,.bool true,.bool false,.bool true]
   else
   bif op==5 then
    bif op==5 then
    some [.bool false,.bool false,.bool false,.bool true,.bool true,.bool true]
    else
    bif op==7 then
     some [.bool true,.bool false,.bool false,.bool true,.bool false,.bool true]
    else
     some [.bool false,.bool false,.bool false,.bool false,.bool false,.bool false]
   else
    bif op==6 then
    some [.bool false,.bool false,.bool false,.bool true,.bool true,.bool true]
    else
    bif op==7 then
     some [.bool true,.bool false,.bool false,.bool true,.bool false,.bool true]
    else
     some [.bool false,.bool false,.bool false,.bool false,.bool false,.bool false]
theorem aGP{op:Int}{r:Option LV}(h:aok CC op=r):CC 46 [vI op]=r:=bR (L:=bS) ak h
noncomputable def VF(C:af)(tables:LV)(t13:Bool)(jZ jA jM kW iI jN:Int)(jF jG BZ wB wC wD Fb Fc Fe Ff Fg Fh:Bool){β:Type}(kr:ay (Bool×Bool×Bool) β):Option β:=
 bif t13 then
  (idx tables iI).bind fun x2=>
  kr ((x2.cell 0).toBool,(x2.cell 1).toBool,(x2.cell 2).toBool)
 else
  kr (wB,wC,wD)
noncomputable def aeK(C:af)(aeL aeM aeN:Bool)(jZ jA jM kW iI jN:Int)(jF jG BZ Fb Fc Fe Ff Fg Fh:Bool)(t28:Int)(wB wC wD:Bool){β:Type}(kn:ay (Int×Bool×Bool×Bool) β)(kr:ay (Int×Bool×Bool×Bool×Bool) β):Option β:=
 bif decide (t28<3)then
  (idx ([.bool aeL,.bool aeM,.bool aeN]:LV) t28).bind fun x7=>
  bif (decide (0≤t28))&&(decide (t28<3))then
  (([.bool wB,.bool wC,.bool wD]:LV)[0+((t28.toNat)*1)]?).bind fun x8=>
  bif x8.toBool then
   bif (decide (0≤t28))&&(decide (t28<3))then
   bif Nat.blt (0+((t28.toNat)*1)) 3 then
    kn (wrap .i64 (t28+1),bif Nat.beq (0+((t28.toNat)*1)) 0 then true else wB,bif Nat.beq (0+((t28.toNat)*1)) 1 then true else wC,bif Nat.beq (0+((t28.toNat)*1)) 2 then true else wD)
   else none
   else none
  else
   bif (decide (0≤t28))&&(decide (t28<3))then
   bif Nat.blt (0+((t28.toNat)*1)) 3 then
    kn (wrap .i64 (t28+1),bif Nat.beq (0+((t28.toNat)*1)) 0 then x7.toBool else wB,bif Nat.beq (0+((t28.toNat)*1)) 1 then x7.toBool else wC,bif Nat.beq (0+((t28.toNat)*1)) 2 then x7.toBool else wD)
   else none
   else none
  else none
 else
  kr (t28,decide (t28<3),wB,wC,wD)
noncomputable def aol(C:af)(aeL aeM aeN:Bool)(jZ jA jM kW iI jN:Int)(jF jG BZ Fb Fc Fe Ff Fg Fh:Bool):=un fun t28=>un fun wB=>un fun wC wD=>aeK C aeL aeM aeN jZ jA jM kW iI jN jF jG BZ Fb Fc Fe Ff Fg Fh t28 wB wC wD ct cu
noncomputable def VG(C:af)(tables:LV)(t21:Bool)(jZ jA jM kW iI jN:Int)(jF jG BZ wB wC wD Fb Fc Fe Ff Fg Fh:Bool){β:Type}(kr:ay (Bool×Bool×Bool) β):Option β:=
 bif t21 then
  (idx tables jN).bind fun x6=>
  (Loop (aol C ((x6.cell 0).toBool) ((x6.cell 1).toBool) ((x6.cell 2).toBool) jZ jA jM kW iI jN jF jG BZ Fb Fc Fe Ff Fg Fh) (0,wB,wC,wD)).bind (un fun uI=>un fun(z9:Bool)=>un fun(aGQ:Bool)=>un fun(aGR:Bool) (aGS:Bool)=>
   kr (aGQ,aGR,aGS))
 else
  kr (wB,wC,wD)
noncomputable def aeO(C:af):da:=lu 223 aaP [[1,3,4,5,6,7,8,9,10,11,0,0,0,15,16,17,18,19,20]] (@VF C) (cm 113 aaQ (aN 22 57352) [[1,2,3,0,0,5,6,7,8,9,10,11,12,13,0,0,0,17,18,19,20,21,22]] (@aeK C) (lu 351 aaR [[3,4,5,6,7,8,9,10,11,0,0,0,15,16,17,18,19,20]] (@VG C) bS))
theorem aGT(C:af):bt C (aeO C) 98 (Cd 13 [1,1,1,0,1,0] [1,1,1,0,1,1] 98):=lr aaP [[1,3,4,5,6,7,8,9,10,11,0,0,0,15,16,17,18,19,20]] (@VF C) (aY ak) (aY ak)
theorem aGU(C:af):bt C (aeO C) 98 (Lp [1,1,1,1,0,1,0,1,0,0] 98):=cj aaQ (aN 22 57352) [[1,2,3,0,0,5,6,7,8,9,10,11,12,13,0,0,0,17,18,19,20,21,22]] (@aeK C) (aY ak)
theorem aGV(C:af):bt C (aeO C) 98 (Cd 21 [1,1,1,1,0,1,0] [1,1,1,1,0,1,1] 98):=lr aaR [[3,4,5,6,7,8,9,10,11,0,0,0,15,16,17,18,19,20]] (@VG C) (aY (br (aGU C) ak)) (aY ak)
noncomputable def aeP(C:af)(ky fF ik lN mg mh:Int)(tables:LV):Option LV:=
 (C 46 [vI ky]).bind fun r1=>
 VF C tables (vR r1) ky fF ik lN mg mh false false false false false false (gB r1) (js r1) (mR r1) (vR r1) (uy r1) (BB r1) (un fun(aGW:Bool)=>un fun(aGX:Bool) (aGY:Bool)=>
  VG C tables (uy r1) ky fF ik lN mg mh false false false aGW aGX aGY (gB r1) (js r1) (mR r1) (vR r1) (uy r1) (BB r1) (un fun(aeQ:Bool)=>un fun(aeR:Bool) (aeS:Bool)=>
   bif ky==7 then
    bif (decide (0≤fF))&&(decide (fF<3))then
    bif Nat.blt (0+((fF.toNat)*1)) 3 then
     some [.bool (bif Nat.beq (0+((fF.toNat)*1)) 0 then false else aeQ),.bool (bif Nat.beq (0+((fF.toNat)*1)) 1 then false else aeR),.bool (bif Nat.beq (0+((fF.toNat)*1)) 2 then false else aeS)]
    else none
    else none
   else
    bif (gB r1)then
    bif (decide (0≤fF))&&(decide (fF<3))then
     bif Nat.blt (0+((fF.toNat)*1)) 3 then
     bif (decide (0≤ik))&&(decide (ik<3))then
      bif Nat.blt (0+((ik.toNat)*1)) 3 then
      some [.bool (bif Nat.beq (0+((ik.toNat)*1)) 0 then true else bif Nat.beq (0+((fF.toNat)*1)) 0 then true else aeQ),.bool (bif Nat.beq (0+((ik.toNat)*1)) 1 then true else bif Nat.beq (0+((fF.toNat)*1)) 1 then true else aeR),.bool (bif Nat.beq (0+((ik.toNat)*1)) 2 then true else bif Nat.beq (0+((fF.toNat)*1)) 2 then true else aeS)]
      else none
     else none
     else none
    else none
    else
    some [.bool aeQ,.bool aeR,.bool aeS]))
theorem aGZ{ky fF ik lN mg mh:Int}{tables:LV}{r:Option LV}(h:aeP CC ky fF ik lN mg mh tables=r):CC 98 [vI ky,vI fF,vI ik,vI lN,vI mg,vI mh,.list 125 tables]=r:=bR (br (aGT CC) (br (aGV CC) ak)) h
noncomputable def VH(C:af)(tables:LV)(w:List UInt8)(jz:Int)(t24:Bool)(jZ jA jM kW iI jN:Int)(fu fv tx:Bool)(tz tC:Int)(bP bQ tD:Bool)(sr su sw qs:Int)(aS aw:LV){β:Type}(kr:ay (Int×Int) β):Option β:=
 bif t24 then
  kr (1,jz)
 else
  kr (su,qs)
noncomputable def VI(C:af)(tables:LV)(w:List UInt8)(jz:Int)(t31:Bool)(jZ jA jM kW iI jN:Int)(fu fv tx:Bool)(tz tC:Int)(bP bQ tD:Bool)(sr su sw qs:Int)(aS aw:LV){β:Type}(kr:ay (Int×Int) β):Option β:=
 bif t31 then
  kr (qs,jz)
 else
  kr (sr,sw)
noncomputable def Pf(C:af)(tables:LV)(w:List UInt8)(jz full x y row t49 t50 t54 t55 t59:Int)(t71:Bool)(jZ jA jM kW iI jN:Int)(fu fv tx:Bool)(tz tC:Int)(bP bQ tD:Bool)(sr su sw qs:Int)(aS aw:LV){β:Type}(kr:ay (Int) β):Option β:=
 bif t71 then
  (idx tables iI).bind fun mc=>
  (C 47 (xV mc [jd ((mc.cell 5).toList),vI x,vI y])).bind fun jg=>
  kr (wrap .u64 ((BitVec.ofInt (IntKind.bits .u64) full&&& ~~~ BitVec.ofInt (IntKind.bits .u64) (gI jg)).toNat))
 else
  bif t59==5 then
  (idx tables iI).bind fun ij=>
  (C 47 (xV ij [jd ((ij.cell 5).toList),vI x,vI y])).bind fun jL=>
  (idx tables jN).bind fun pJ=>
  (C 47 (xV pJ [jd ((pJ.cell 5).toList),vI x,vI y])).bind fun jt=>
  kr (wrap .u64 ((BitVec.ofInt (IntKind.bits .u64) (gI jL)&&&BitVec.ofInt (IntKind.bits .u64) (gI jt)).toNat))
  else
  bif t59==6 then
   (idx tables iI).bind fun nz=>
   (C 47 (xV nz [jd ((nz.cell 5).toList),vI x,vI y])).bind fun Hs=>
   (idx tables jN).bind fun wg=>
   (C 47 (xV wg [jd ((wg.cell 5).toList),vI x,vI y])).bind fun E6=>
   kr (wrap .u64 ((BitVec.ofInt (IntKind.bits .u64) (gI Hs)|||BitVec.ofInt (IntKind.bits .u64) (gI E6)).toNat))
  else
   bif t59==7 then
   (idx tables iI).bind fun uN=>
   (C 100 (vI jA::(xV uN [jd ((uN.cell 5).toList),vI x,vI y,vI jz]))).bind fun wq=>
   kr (gI wq)
   else
   kr row
noncomputable def Pg(C:af)(tables:LV)(w:List UInt8)(jz full x y row t49 t50 t54 t55 t59:Int)(t60:Bool)(jZ jA jM kW iI jN:Int)(fu fv tx:Bool)(tz tC:Int)(bP bQ tD:Bool)(sr su sw qs:Int)(aS aw:LV){β:Type}(kr:ay (Int) β):Option β:=
 bif t60 then
  kr full
 else
  bif t59==2 then
  bif t59==2 then
   (C 99 [vI jZ,vI jA,vI jM,vI kW,vI iI,vI jN,vI x,vI y,.str w]).bind fun r9=>
   kr (gI r9)
  else
   Pf C tables w jz full x y row t49 t50 t54 t55 t59 (t59==4) jZ jA jM kW iI jN fu fv tx tz tC bP bQ tD sr su sw qs aS aw (fun aG0=>
    kr aG0)
  else
  bif t59==3 then
   (C 99 [vI jZ,vI jA,vI jM,vI kW,vI iI,vI jN,vI x,vI y,.str w]).bind fun kq=>
   kr (gI kq)
  else
   Pf C tables w jz full x y row t49 t50 t54 t55 t59 (t59==4) jZ jA jM kW iI jN fu fv tx tz tC bP bQ tD sr su sw qs aS aw (fun aG1=>
    kr aG1)
noncomputable def Ph(C:af)(tables:LV)(w:List UInt8)(jz full x t49 t50 t54 jZ jA jM kW iI jN:Int)(fu fv tx:Bool)(tz tC:Int)(bP bQ tD:Bool)(sr su sw qs:Int)(aS:LV)(t55:Int)(aw:LV){β:Type}(kn:ay (Int×LV) β)(kr:ay (Int×Bool×LV) β):Option β:=
 bif decide (t55<t54)then
  Pg C tables w jz full x t55 0 t49 t50 t54 t55 jZ (jZ==1) jZ jA jM kW iI jN fu fv tx tz tC bP bQ tD sr su sw qs aS aw (fun aom=>
   bif Nat.ble ((aw.length+([.int .u64 aom]:LV).length)*8) bf then
   kn (wrap .i64 (t55+1),aw++([.int .u64 aom]:LV))
   else none)
 else
  kr (t55,decide (t55<t54),aw)
noncomputable def VJ(C:af)(tables:LV)(w:List UInt8)(jz full x t49 t50 t54 jZ jA jM kW iI jN:Int)(fu fv tx:Bool)(tz tC:Int)(bP bQ tD:Bool)(sr su sw qs:Int)(aS:LV):=un fun t55 aw=>Ph C tables w jz full x t49 t50 t54 jZ jA jM kW iI jN fu fv tx tz tC bP bQ tD sr su sw qs aS t55 aw ct cu
noncomputable def Pj(C:af)(tables:LV)(w:List UInt8)(jz full t49 jZ jA jM kW iI jN:Int)(fu fv tx:Bool)(tz tC:Int)(bP bQ tD:Bool)(sr su sw qs:Int)(aS:LV)(t50:Int)(aw:LV){β:Type}(kn:ay (Int×LV) β)(kr:ay (Int×Bool×LV) β):Option β:=
 bif decide (t50<t49)then
  (Loop (VJ C tables w jz full t50 t49 t50 qs jZ jA jM kW iI jN fu fv tx tz tC bP bQ tD sr su sw qs aS) (0,aw)).bind (un fun ad0=>un fun(alL:Bool) (OE:LV)=>
   kn (wrap .i64 (t50+1),OE))
 else
  kr (t50,decide (t50<t49),aw)
noncomputable def VK(C:af)(tables:LV)(w:List UInt8)(jz full t49 jZ jA jM kW iI jN:Int)(fu fv tx:Bool)(tz tC:Int)(bP bQ tD:Bool)(sr su sw qs:Int)(aS:LV):=un fun t50 aw=>Pj C tables w jz full t49 jZ jA jM kW iI jN fu fv tx tz tC bP bQ tD sr su sw qs aS t50 aw ct cu
noncomputable def IF(C:af):da:=lu 399 aae [[1,2,3,5,6,7,8,9,10,11,12,13,14,15,16,17,18,19,0,21,0,23,24]] (@VH C) (lu 511 aaf [[1,2,3,5,6,7,8,9,10,11,12,13,14,15,16,17,18,0,20,0,22,23,24]] (@VI C) (lu 1151 aag [[1,2,3,4,5,0,8,9,10,11,14,15,16,17,18,19,20,21,22,23,24,25,26,27,28,29,30,31,32,33]] (@Pf C) (lu 975 aah [[1,2,3,4,5,0,8,9,10,11,14,15,16,17,18,19,20,21,22,23,24,25,26,27,28,29,30,31,32,33]] (@Pg C) (cm 257 aai (aN 29 268435712) [[1,2,3,4,5,6,7,8,0,0,10,11,12,13,14,15,16,17,18,19,20,21,22,23,24,25,26,27,28,0]] (@Ph C) (cm 209 aaj (aN 26 33554464) [[1,2,3,4,5,0,0,7,8,9,10,11,12,13,14,15,16,17,18,19,20,21,22,23,24,25,0]] (@Pj C) bS)))))
theorem aG2(C:af):bt C (IF C) 45 (Cd 24 [1,1,1,1,0,1,0] [1,1,1,1,0,1,1] 45):=lr aae [[1,2,3,5,6,7,8,9,10,11,12,13,14,15,16,17,18,19,0,21,0,23,24]] (@VH C) (aY ak) (aY ak)
theorem aG3(C:af):bt C (IF C) 45 (Cd 31 [1,1,1,1,1,0,1,0] [1,1,1,1,1,0,1,1] 45):=lr aaf [[1,2,3,5,6,7,8,9,10,11,12,13,14,15,16,17,18,0,20,0,22,23,24]] (@VI C) (aY ak) (aY ak)
theorem aG4(C:af):bt C (IF C) 45 (Cd 71 [1,1,1,1,1,1,1,1,0,1,0,0,1,1,0,0,1,1,0,0,1,1,0,0,1,1,0,1,0,1,1,1,1,1,0] [1,1,1,1,1,1,1,1,0,1,0,0,1,1,0,0,1,1,0,0,1,1,0,0,1,1,0,1,0,1,1,1,1,1,1] 45):=lr aag [[1,2,3,4,5,0,8,9,10,11,14,15,16,17,18,19,20,21,22,23,24,25,26,27,28,29,30,31,32,33]] (@Pf C) (aY ak) (aY ak)
theorem aG5(C:af):bt C (IF C) 45 (Cd 60 [1,1,1,1,1,1,1,1,0,1,0,0,1,1,0,0,1,1,0,0,1,1,0,0,1,1,0,1,0,1,0] [1,1,1,1,1,1,1,1,0,1,0,0,1,1,0,0,1,1,0,0,1,1,0,0,1,1,0,1,0,1,1] 45):=lr aah [[1,2,3,4,5,0,8,9,10,11,14,15,16,17,18,19,20,21,22,23,24,25,26,27,28,29,30,31,32,33]] (@Pg C) (aY ak) (aY (br (aG4 C) ak))
theorem aG6(C:af):bt C (IF C) 45 (Lp [1,1,1,1,1,1,1,1,0,1,0,0,1,1,0,0,1,1,0,0] 45):=cj aai (aN 29 268435712) [[1,2,3,4,5,6,7,8,0,0,10,11,12,13,14,15,16,17,18,19,20,21,22,23,24,25,26,27,28,0]] (@Ph C) (aY (br (aG5 C) ak))
theorem aG7(C:af):bt C (IF C) 45 (Lp [1,1,1,1,1,1,1,1,0,1,0,0] 45):=cj aaj (aN 26 33554464) [[1,2,3,4,5,0,0,7,8,9,10,11,12,13,14,15,16,17,18,19,20,21,22,23,24,25,0]] (@Pj C) (aY (br (aG6 C) ak))
noncomputable def aon(C:af)(ky fF ik lN mg mh:Int)(tables:LV)(w:List UInt8):Option LV:=
 (C 98 [vI ky,vI fF,vI ik,vI lN,vI mg,vI mh,.list 125 tables]).bind fun r1=>
 VH C tables w (wrap .i64 ((w.length:Int)+1)) (js r1) ky fF ik lN mg mh false false false 0 0 (gB r1) (js r1) (mR r1) 0 0 1 1 ([]:LV) ([]:LV) (un fun(Mu:Int) (VL:Int)=>
  VI C tables w (wrap .i64 ((w.length:Int)+1)) (gB r1) ky fF ik lN mg mh false false false 0 0 (gB r1) (js r1) (mR r1) 0 Mu 1 VL ([]:LV) ([]:LV) (un fun(IG:Int) (VM:Int)=>
   bif decide (0≤(wrap .i64 ((w.length:Int)+1)))then
    bif (decide (0≤(wrap .i64 (VL*VM))))&&(Nat.ble (((wrap .i64 (VL*VM):Int).toNat)*8) bf)then
    (Loop (VK C tables w (wrap .i64 ((w.length:Int)+1)) (wrap .u64 ((wrap .u64 (1*2^(min (wrap .i64 ((w.length:Int)+1)).toNat (IntKind.bits .u64))))-1)) VM ky fF ik lN mg mh false false false 0 0 (gB r1) (js r1) (mR r1) IG Mu VM VL ([]:LV)) (0,List.replicate 0 (V.int .u64 0))).bind (un fun am3=>un fun(aJk:Bool) (ade:LV)=>
     some [.bool (gB r1),.bool (js r1),.bool (mR r1),vI IG,vI Mu,jd ade])
    else none
   else none))
theorem aG8{ky fF ik lN mg mh:Int}{tables:LV}{w:List UInt8}{r:Option LV}(h:aon CC ky fF ik lN mg mh tables w=r):CC 45 [vI ky,vI fF,vI ik,vI lN,vI mg,vI mh,.list 125 tables,.str w]=r:=bR (br (aG2 CC) (br (aG3 CC) (br (aG7 CC) ak))) h
theorem VN{op:Nat}(h1:1≤op)(h7:op≤7):CC 46 [vI (op:Int)]=some [.bool (decide (op=2∨op=3∨op=7)),.bool (decide (op=2∨op=3)),.bool (decide (op=2)),.bool (decide (4≤op)),.bool (decide (op=5∨op=6)),.bool true]:=by
 refine aGP ?_;unfold aok;rcases(show op=1∨op=2∨op=3∨op=4∨op=5∨op=6∨op=7 by omega)with rfl|rfl|rfl|rfl|rfl|rfl|rfl<;>rfl
structure TA(n:Nat)(tables:LV)(a:Nat)(P:(Nat→Nat)→Prop)(t:Tt):Prop where
 ix:idx tables (a:Int)=some t.v
 ok:Pe n P t
theorem aoo{D0 D1 D2 E0 E1 E2:Bool}{f0 f1 f2 f3 f4 f5:Int}{b0 b1 b2 c0 c1 c2 c3 c4 c5:Bool}:Loop (aol CC E0 E1 E2 f0 f1 f2 f3 f4 f5 b0 b1 b2 c0 c1 c2 c3 c4 c5) (0,D0,D1,D2)=some (3,false,D0||E0,D1||E1,D2||E2):=by
 refine gp 3 (fun i=>((i:Int),bif Nat.blt 0 i then D0||E0 else D0,bif Nat.blt 1 i then D1||E1 else D1,bif Nat.blt 2 i then D2||E2 else D2)) (3,false,D0||E0,D1||E1,D2||E2) (fun i hi=> ?_) ?_
 ·rcases(show i=0∨i=1∨i=2 by omega)with rfl|rfl|rfl
  ·cases D0<;>rfl
  ·cases D1<;>rfl
  ·cases D2<;>rfl
 ·rfl
theorem aG9{e:Nat→Nat}{v w w':Nat}:iX (iX e v w) v w'=iX e v w':=by
 funext u;unfold iX;by_cases h:u=v
 ·rw[aP h,aP h]
 ·rw[aM h,aM h,aM h]
theorem aHa{e:Nat→Nat}{v x w w':Nat}(h:v≠x):iX (iX e v w) x w'=iX (iX e x w') v w:=by
 funext u;unfold iX;by_cases h1:u=x
 ·rw[aP h1,aM (by omega),aP h1]
 ·rw[aM h1];by_cases h2:u=v
  ·rw[aP h2,aP h2]
  ·rw[aM h2,aM h2,aM h1]
section
variable {n:Nat}{u:List Nat}{S:Nat→(Nat→Nat)→Prop}{d:Fm}{i:Nat}(ok:d.Ok i){tables:LV}{ta tb:Tt}(hA:4≤d.op→TA n tables d.a (S d.a) ta)(hB:d.op=5∨d.op=6→TA n tables d.b (S d.b) tb)
include ok hA hB
theorem aHb(e e':Nat→Nat)(h0:e 0=e' 0)(h1:e 1=e' 1)(h2:e 2=e' 2):den u S d e↔den u S d e':=by
 obtain⟨op,x,y,c,a,b⟩:=d;have o1:1≤op:=ok.o1;have o7:op≤7:=ok.o7;have x3:x<3:=ok.x3;have y3:y<3:=ok.y3;have hv:∀v,v<3→e v=e' v:=fun v hv=>by rcases(show v=0∨v=1∨v=2 by omega)with rfl|rfl|rfl<;>assumption
 have up:∀w v,v<3→iX e x w v=iX e' x w v:=fun w v lZ=>by
  unfold iX;by_cases h:v=x
  ·rw[aP h,aP h]
  ·rw[aM h,aM h,hv v lZ]
 rcases(show op=1∨op=2∨op=3∨op=4∨op=5∨op=6∨op=7 by omega)with rfl|rfl|rfl|rfl|rfl|rfl|rfl
 ·exact Iff.rfl
 ·simp[den,hv x x3,hv y y3]
 ·simp[den,hv x x3,hv y y3]
 ·have:=(hA (aR _)).ok.loc e e' h0 h1 h2;simpa[den]using not_congr this
 ·have h3:=(hA (by show 4≤5;omega)).ok.loc e e' h0 h1 h2;have h4:=(hB (.inl rfl)).ok.loc e e' h0 h1 h2;simpa[den]using yS h3 h4
 ·have h3:=(hA (by show 4≤6;omega)).ok.loc e e' h0 h1 h2;have h4:=(hB (.inr rfl)).ok.loc e e' h0 h1 h2;simpa[den]using yR h3 h4
 ·have h3:=(hA (by show 4≤7;omega)).ok.loc;simp only[den];exact exists_congr fun v=>CL fun _=>h3 _ _ (up v 0 (by decide)) (up v 1 (by decide)) (up v 2 (by decide))
theorem aHc:∃D:Nat→Bool,(∀v,v<3→D v=false→∀e w,(den u S d (iX e v w)↔den u S d e))∧CC 98 [vI (d.op:Int),vI (d.x:Int),vI (d.y:Int),vI (d.c:Int),vI (d.a:Int),vI (d.b:Int),.list 125 tables]=some [.bool (D 0),.bool (D 1),.bool (D 2)]:=by
 obtain⟨op,x,y,c,a,b⟩:=d;have o1:1≤op:=ok.o1;have o7:op≤7:=ok.o7;have x3:x<3:=ok.x3;have y3:y<3:=ok.y3;have bl:∀{v:Nat},v<3→Nat.blt (0+(((v:Int).toNat)*1)) 3=true:=fun h=>by
  rw[cL,kD,Int.toNat_natCast];exact AF (by omega)
 have bq:∀{v q:Nat},(bif Nat.beq (0+(((v:Int).toNat)*1)) q then true else false)=false→q≠v:=fun h e=>by
  rw[cL,kD,Int.toNat_natCast,e,nX]at h;cases h
 have fin:∀{r:Option LV},aeP CC (op:Int) (x:Int) (y:Int) (c:Int) (a:Int) (b:Int) tables=r→CC 98 [vI (op:Int),vI (x:Int),vI (y:Int),vI (c:Int),vI (a:Int),vI (b:Int),.list 125 tables]=r:=fun h=>aGZ h;have ef:=VN o1 o7;unfold aeP VF VG at fin;simp only[un]at fin;rcases(show op=1∨op=2∨op=3∨op=4∨op=5∨op=6∨op=7 by omega)with rfl|rfl|rfl|rfl|rfl|rfl|rfl
 ·exact⟨fun _=>false,fun v _ _ e w=>Iff.rfl,fin (bs ef (bF rfl (bF rfl (bF rfl (bF rfl rfl)))))⟩
 ·refine⟨fun q=>bif Nat.beq (0+(((y:Int).toNat)*1)) q then true else bif Nat.beq (0+(((x:Int).toNat)*1)) q then true else false,fun v _ hD e w=> ?_,fin (bs ef (bF rfl (bF rfl (bF rfl (bT rfl (bT (tv x3) (bT (bl x3) (bT (tv y3) (bT (bl y3) rfl)))))))))⟩;have h1:v≠y:=fun e=>by subst e;simp at hD
  have h2:v≠x:=fun e=>by subst e;simp at hD
  simp[den,iX,yN h1,yN h2]
 ·refine⟨fun q=>bif Nat.beq (0+(((y:Int).toNat)*1)) q then true else bif Nat.beq (0+(((x:Int).toNat)*1)) q then true else false,fun v _ hD e w=> ?_,fin (bs ef (bF rfl (bF rfl (bF rfl (bT rfl (bT (tv x3) (bT (bl x3) (bT (tv y3) (bT (bl y3) rfl)))))))))⟩;have h1:v≠y:=fun e=>by subst e;simp at hD
  have h2:v≠x:=fun e=>by subst e;simp at hD
  simp[den,iX,yN h1,yN h2]
 ·have A:=hA (by show 4≤4;omega);refine⟨ta.D,fun v hv hD e w=> ?_,fin (bs ef (bT rfl (bs A.ix (bF rfl (bF rfl (bF rfl rfl))))))⟩;simpa[den]using not_congr (A.ok.dep v hv hD e w)
 ·have A:=hA (by show 4≤5;omega);have B:=hB (.inl rfl);refine⟨fun v=>ta.D v||tb.D v,fun v hv hD e w=> ?_,fin (bs ef (bT rfl (bs A.ix (bT rfl (bs B.ix (bs aoo (by simp only[un];exact bF rfl (bF rfl rfl))))))))⟩;have Cu:=Bool.or_eq_false_iff.1 hD;simpa[den]using yS (A.ok.dep v hv Cu.1 e w) (B.ok.dep v hv Cu.2 e w)
 ·have A:=hA (by show 4≤6;omega);have B:=hB (.inr rfl);refine⟨fun v=>ta.D v||tb.D v,fun v hv hD e w=> ?_,fin (bs ef (bT rfl (bs A.ix (bT rfl (bs B.ix (bs aoo (by simp only[un];exact bF rfl (bF rfl rfl))))))))⟩;have Cu:=Bool.or_eq_false_iff.1 hD;simpa[den]using yR (A.ok.dep v hv Cu.1 e w) (B.ok.dep v hv Cu.2 e w)
 ·have A:=hA (by show 4≤7;omega);refine⟨fun q=>bif Nat.beq (0+(((x:Int).toNat)*1)) q then false else ta.D q,fun v hv hD e w=> ?_,fin (bs ef (bT rfl (bs A.ix (bF rfl (bT rfl (bT (tv x3) (bT (bl x3) rfl)))))))⟩;simp only[den];refine exists_congr fun q=>CL fun _=> ?_;show S a (iX (iX e v w) x q)↔S a (iX e x q);by_cases hx:v=x
  ·subst hx;rw[aG9]
  ·rw[aHa hx];refine A.ok.dep v hv ?_ _ _;have hb:Nat.beq (0+(((x:Int).toNat)*1)) v=false:=by
    rw[cL,kD,Int.toNat_natCast];cases hq:Nat.beq x v with
    |false=>rfl
    |true=>exact absurd (IQ hq).symm hx
   have Cu:(bif Nat.beq (0+(((x:Int).toNat)*1)) v then false else ta.D v)=false:=hD;rw[hb]at Cu;exact Cu
end
section
variable {w:List UInt8}(hw:nv w 6)(hn:w.length≤40){S:Nat→(Nat→Nat)→Prop}{d:Fm}{i:Nat}(ok:d.Ok i){tables:LV}{ta tb:Tt}(hA:4≤d.op→TA w.length tables d.a (S d.a) ta)(hB:d.op=5∨d.op=6→TA w.length tables d.b (S d.b) tb){x y:Nat}(hx:x≤w.length)(hy:y≤w.length)
include hw hn ok hA hB hx hy
theorem aHd:∃R,lO R w.length (fun z=>den (lets w) S d (fO x y z))∧∀(k1 k2 k3 k4:Int) (b0 b1 b2:Bool) (i3 i4:Int) (c0 c1 c2:Bool) (j3 j4 m0 m1:Int) (l4 l5:LV) {β:Type} (kr:Int→Option β),
  Pg CC tables w ((w.length+1:Nat):Int) ((2^(w.length+1)-1:Nat):Int) (x:Int) (y:Int) 0 k1 k2 k3 k4 (d.op:Int) ((d.op:Int)==1) (d.op:Int) (d.x:Int) (d.y:Int) (d.c:Int) (d.a:Int) (d.b:Int) b0 b1 b2 i3 i4 c0 c1 c2 j3 j4 m0 m1 l4 l5 kr=kr (R:Int):=by
 obtain⟨op,v1,v2,c,a,b⟩:=d;have o1:1≤op:=ok.o1;have o7:op≤7:=ok.o7;have x3:v1<3:=ok.x3;have y3:v2<3:=ok.y3;have gf:lO (2^(w.length+1)-1) w.length fun _=>True:=lO.full hn fun _ _=>trivial;unfold Pg Pf;rcases(show op=1∨op=2∨op=3∨op=4∨op=5∨op=6∨op=7 by omega)with rfl|rfl|rfl|rfl|rfl|rfl|rfl
 ·exact⟨_,gf.congr fun z _=>by simp[den],fun _ _ _ _ _ _ _ _ _ _ _ _ _ _ _ _ _ _ _ kr=>bT rfl rfl⟩
 ·obtain⟨R,g,e⟩:=aoi hw hn (d:=⟨2,v1,v2,c,a,b⟩) (S:=S) (.inl rfl) x3 y3 hx hy;exact⟨R,g,fun _ _ _ _ _ _ _ _ _ _ _ _ _ _ _ _ _ _ _ kr=>bF rfl (bT rfl (bT rfl (bs e rfl)))⟩
 ·obtain⟨R,g,e⟩:=aoi hw hn (d:=⟨3,v1,v2,c,a,b⟩) (S:=S) (.inr rfl) x3 y3 hx hy;exact⟨R,g,fun _ _ _ _ _ _ _ _ _ _ _ _ _ _ _ _ _ _ _ kr=>bF rfl (bF rfl (bT rfl (bs e rfl)))⟩
 ·have A:=hA (by show 4≤4;omega);obtain⟨R,g,e⟩:=Ay hn A.ok hx hy;obtain⟨Q,q1,q2,q3⟩:=u64_andNot R gf.lt;refine⟨Q,⟨q1,fun z=> ?_⟩,fun _ _ _ _ _ _ _ _ _ _ _ _ _ _ _ _ _ _ _ kr=>bF rfl (bF rfl (bF rfl (bT rfl (bs A.ix (bs e ?_)))))⟩
  ·rw[q2,bc,gf.bit,qu,←Bool.not_eq_true,g.bit];simp only[den];constructor
   ·rintro⟨h1,h2⟩;exact⟨h1.1,fun h=>h2 ⟨h1.1,h⟩⟩
   ·rintro⟨h1,h2⟩;exact⟨⟨h1,trivial⟩,fun h=>h2 h.2⟩
  ·simp only[V.jE,V.toInt_int,gI,gL,gB,gS];rw[q3]
 ·have A:=hA (by show 4≤5;omega);have B:=hB (.inl rfl);obtain⟨R,g,e⟩:=Ay hn A.ok hx hy;obtain⟨Q,g',e'⟩:=Ay hn B.ok hx hy;refine⟨R&&&Q,⟨Fs Nat.and_le_left g.lt,fun z=> ?_⟩,fun _ _ _ _ _ _ _ _ _ _ _ _ _ _ _ _ _ _ _ kr=>bF rfl (bF rfl (bF rfl (bF rfl (bT rfl (bs A.ix (bs e (bs B.ix (bs e' ?_))))))))⟩
  ·rw[Nat.testBit_and,bc,g.bit,g'.bit];simp only[den];exact⟨fun h=>⟨h.1.1,h.1.2,h.2.2⟩,fun h=>⟨⟨h.1,h.2.1⟩,h.1,h.2.2⟩⟩
  ·simp only[V.jE,V.toInt_int,V.jE,V.toInt_int,gI,gL,gB,gS];rw[u64_and g.lt g'.lt]
 ·have A:=hA (by show 4≤6;omega);have B:=hB (.inr rfl);obtain⟨R,g,e⟩:=Ay hn A.ok hx hy;obtain⟨Q,g',e'⟩:=Ay hn B.ok hx hy;refine⟨R|||Q,⟨yO g.lt g'.lt,fun z=> ?_⟩,fun _ _ _ _ _ _ _ _ _ _ _ _ _ _ _ _ _ _ _ kr=>bF rfl (bF rfl (bF rfl (bF rfl (bF rfl (bT rfl (bs A.ix (bs e (bs B.ix (bs e' ?_)))))))))⟩
  ·rw[CG,qw,g.bit,g'.bit,←and_or_left];simp[den]
  ·simp only[V.jE,V.toInt_int,V.jE,V.toInt_int,gI,gL,gB,gS];rw[u64_or g.lt g'.lt]
 ·have A:=hA (by show 4≤7;omega);obtain⟨R,g,e⟩:=aGO hn A.ok hx hy x3;rw[show w.length=(lets w).length from rZ.symm]at g;refine⟨R,?_,fun _ _ _ _ _ _ _ _ _ _ _ _ _ _ _ _ _ _ _ kr=>bF rfl (bF rfl (bF rfl (bF rfl (bF rfl (bF rfl (bT rfl (bs A.ix (bs e rfl))))))))⟩;rw[show w.length=(lets w).length from rZ.symm];exact g
end
def Fi(n c1:Nat)(P:(Nat→Nat)→Prop)(x y:Nat)(l:List Nat):Prop:= ∀p q,p<x∧q<c1∨p=x∧q<y→∃R,l[p*c1+q]? =some R∧lO R n fun z=>P (fO p q z)
theorem Fi.app{n c1 x y R:Nat}{P:(Nat→Nat)→Prop}{l:List Nat}(h:Fi n c1 P x y l)(hl:l.length=x*c1+y)(g:lO R n fun z=>P (fO x y z)):Fi n c1 P x (y+1) (l++[R]):=fun p q Iu=>by
 by_cases c:p=x∧q=y
 ·obtain⟨rfl,rfl⟩:=c;exact⟨R,by rw[←hl];simp,g⟩
 ·obtain⟨Q,e,g'⟩:=h p q (by omega);exact⟨Q,by rw[o6 (cP.1 e).1];exact e,g'⟩
theorem aHe{w:List UInt8}(hw:nv w 6)(hn:w.length≤40){S:Nat→(Nat→Nat)→Prop}{d:Fm}{i:Nat}(ok:d.Ok i){tables:LV}{ta tb:Tt}(hA:4≤d.op→TA w.length tables d.a (S d.a) ta)(hB:d.op=5∨d.op=6→TA w.length tables d.b (S d.b) tb):
  ∃t:Tt,Pe w.length (den (lets w) S d) t∧CC 45 [vI (d.op:Int),vI (d.x:Int),vI (d.y:Int),vI (d.c:Int),vI (d.a:Int),vI (d.b:Int),.list 125 tables,.str w]=some [.bool (t.D 0),.bool (t.D 1),.bool (t.D 2),vI (t.s0:Int),vI (t.s1:Int),jd (U6 t.l)]:=by
 obtain⟨D,hD,eD⟩:=aHc (u:=lets w) ok hA hB;have VO:=aHb (u:=lets w) ok hA hB;have row:=fun {x y:Nat} (hx:x≤w.length) (hy:y≤w.length)=>aHd hw hn ok hA hB hx hy;generalize den (lets w) S d=P at hD VO row;obtain⟨c1,iw⟩:∃c,c=if D 1=true then w.length+1 else 1:=⟨_,rfl⟩
 obtain⟨c0,Dw⟩:∃c,c=if D 0=true then w.length+1 else 1:=⟨_,rfl⟩
 obtain⟨s1,gE⟩:∃c,c=if D 1=true then 1 else 0:=⟨_,rfl⟩
 obtain⟨s0,Cv⟩:∃c,c=if D 0=true then c1 else 0:=⟨_,rfl⟩
 have b1:c1≤w.length+1:=by rw[iw];split<;>omega
 have b0:c0≤w.length+1:=by rw[Dw];split<;>omega
 have bm:c1*c0≤41*41:=Fz (by omega) (by omega);have key:=gH (step:=VK CC tables w ((w.length+1:Nat):Int) ((2^(w.length+1)-1:Nat):Int) (c0:Int) (d.op:Int) (d.x:Int) (d.y:Int) (d.c:Int) (d.a:Int) (d.b:Int) false false false 0 0 (D 0) (D 1) (D 2) (s0:Int) (s1:Int) (c0:Int) (c1:Int) []) (fun x (s:Int×LV)=> ∃l:List Nat,s=((x:Int),U6 l)∧l.length=x*c1∧Fi w.length c1 P x 0 l)
  (fun r=> ∃l:List Nat,r=((c0:Int),false,U6 l)∧Fi w.length c1 P c0 0 l) c0 0 (0,U6 [])
  (fun x _ hx s hs=> ?_) (fun s hs=> ?_) ⟨[],rfl,by simp,fun p q h=>by omega⟩
 ·obtain⟨r,e1,l,rfl,g⟩:=key;refine⟨⟨D,s0,s1,l⟩,⟨VO,hD,by rw[Cv];show(if _ then _ else _)≤100;split<;>omega,by rw[gE];show(if _ then _ else _)≤100;split<;>omega,fun x y hx hy=> ?_⟩,aG8 ?_⟩
  ·have ex:∀y,D 0=false→∀z,(P (fO 0 y z)↔P (fO x y z)):=fun y h z=>((hD 0 (by decide) h (fO 0 y z) x).symm).trans (VO _ _ rfl rfl rfl)
   have ey:∀x,D 1=false→∀z,(P (fO x 0 z)↔P (fO x y z)):=fun x h z=>((hD 1 (by decide) h (fO x 0 z) y).symm).trans (VO _ _ rfl rfl rfl)
   show∃R,l[s0*x+s1*y]? =some R∧lO R w.length fun z=>P (fO x y z);cases h0:D 0<;>cases h1:D 1<;>simp only[h0,h1,rj,rh,PW]at Dw iw Cv gE
   ·obtain⟨R,e,gr⟩:=g 0 0 (by omega);refine⟨R,by rw[Cv,gE];simpa using e,gr.congr fun z _=>(ey 0 h1 z).trans (ex y h0 z)⟩
   ·obtain⟨R,e,gr⟩:=g 0 y (by omega);refine⟨R,by rw[Cv,gE];simpa using e,gr.congr fun z _=>ex y h0 z⟩
   ·obtain⟨R,e,gr⟩:=g x 0 (by omega);refine⟨R,by rw[Cv,gE,wJ];simpa using e,gr.congr fun z _=>ey x h1 z⟩
   ·obtain⟨R,e,gr⟩:=g x y (by omega);exact⟨R,by rw[Cv,gE,wJ c1 x,Nat.one_mul];exact e,gr⟩
  ·unfold aon VH VI;refine bs eD ?_;have e2:wrap .i64 ((w.length:Int)+1)=((w.length+1:Nat):Int):=bY (by omega);have em:wrap .i64 ((c1:Int)*(c0:Int))=((c1*c0:Nat):Int):=by rw[←Int.natCast_mul];exact wrap64 (by omega) (by omega)
   have ck:(decide (0≤((c1*c0:Nat):Int))&&Nat.ble ((((c1*c0:Nat):Int).toNat)*8) bf)=true:=by
    rw[bj (by omega),Bool.true_and,fG,zU,Int.toNat_natCast];omega
   simp only[un,e2,aeI hn];cases h0:D 0<;>cases h1:D 1<;>simp only[h0,h1,rj,rh,PW]at Dw iw Cv gE e1<;>subst Dw iw Cv gE
   ·exact bF rfl (bF rfl (bT (bj (by omega)) (bT ((congrArg (fun m:Int=>decide (0≤m)&&Nat.ble ((m.toNat)*8) bf) em).trans ck) (bs e1 rfl))))
   ·exact bT rfl (bF rfl (bT (bj (by omega)) (bT ((congrArg (fun m:Int=>decide (0≤m)&&Nat.ble ((m.toNat)*8) bf) em).trans ck) (bs e1 rfl))))
   ·exact bF rfl (bT rfl (bT (bj (by omega)) (bT ((congrArg (fun m:Int=>decide (0≤m)&&Nat.ble ((m.toNat)*8) bf) em).trans ck) (bs e1 rfl))))
   ·exact bT rfl (bT rfl (bT (bj (by omega)) (bT ((congrArg (fun m:Int=>decide (0≤m)&&Nat.ble ((m.toNat)*8) bf) em).trans ck) (bs e1 rfl))))
 ·obtain⟨l,rfl,hl,g⟩:=hs;rw[cL]at hx;have bx:x*c1+c1≤c1*c0:=by rw[←sy,wJ];exact yM _ hx
  have aHf:=gH (step:=VJ CC tables w ((w.length+1:Nat):Int) ((2^(w.length+1)-1:Nat):Int) (x:Int) (c0:Int) (x:Int) (c1:Int) (d.op:Int) (d.x:Int) (d.y:Int) (d.c:Int) (d.a:Int) (d.b:Int) false false false 0 0 (D 0) (D 1) (D 2) (s0:Int) (s1:Int) (c0:Int) (c1:Int) []) (fun y (s:Int×LV)=> ∃l:List Nat,s=((y:Int),U6 l)∧l.length=x*c1+y∧Fi w.length c1 P x y l)
   (fun r=> ∃l:List Nat,r=((c1:Int),false,U6 l)∧l.length=x*c1+c1∧Fi w.length c1 P x c1 l) c1 0 (0,U6 l)
   (fun y _ hy s hs=> ?_) (fun s hs=> ?_) ⟨l,rfl,hl,g⟩
  ·obtain⟨r,e1,l',rfl,pZ,g'⟩:=aHf;refine⟨(((x+1:Nat):Int),U6 l'),?_,l',rfl,by rw[pZ,sy],fun p q h=>g' p q (by omega)⟩;simp only[VK,Pj,un];refine bT (cF hx) (bs e1 ?_);simp only[un];rw[bY (by omega)]
  ·obtain⟨l,rfl,hl,g⟩:=hs;rw[cL]at hy;obtain⟨R,gr,e⟩:=row (show x≤w.length by omega) (show y≤w.length by omega);refine⟨(((y+1:Nat):Int),U6 (l++[R])),?_,l++[R],rfl,by simp[hl];omega,g.app hl gr⟩;simp only[VJ,Ph,un];refine bT (cF hy) ((e _ _ _ _ _ _ _ _ _ _ _ _ _ _ _ _ _ _ _).trans (bT (by rw[fG,zU];simp[U6,hl];omega) ?_));rw[bY (by omega)];simp[U6]
  ·obtain⟨l,rfl,hl,g⟩:=hs;rw[cL]at hl g⊢;refine⟨((c1:Int),false,U6 l),?_,l,rfl,hl,g⟩;simp only[VJ,Ph,un];refine bF (cf (aR _)) ?_;rw[cf (aR _)]
 ·obtain⟨l,rfl,hl,g⟩:=hs;rw[cL]at g⊢;refine⟨((c0:Int),false,U6 l),?_,l,rfl,g⟩;simp only[VK,Pj,un];refine bF (cf (aR _)) ?_;rw[cf (aR _)]
noncomputable def aop(C:af)(value count:Int)(Ar:Bool):Option LV:=
 bif Ar then
  bif decide (value≥0)then
  some [.bool (decide (value<count))]
  else
  some [.bool false]
 else
  some [.bool (value==0)]
theorem aHg{value count:Int}{Ar:Bool}{r:Option LV}(h:aop CC value count Ar=r):CC 97 [vI value,vI count,.bool Ar]=r:=bR (L:=bS) ak h
noncomputable def Pk(C:af)(list:LV)(root aO:Int)(t19:LV)(t20 t21:Int){β:Type}(kn:ay Int β)(kr:ay ((Int) ⊕ (Int×Bool)) β):Option β:=
 bif decide (t21<t20)then
  (idx t19 t21).bind fun x1=>
  (C 46 [vI ((x1.cell 0).toInt)]).bind fun r2=>
  bif !(BB r2)then
  kr (.inl 22)
  else
  (C 97 [vI ((x1.cell 1).toInt),vI 3,.bool (gB r2)]).bind fun r3=>
  bif !(gB r3)then
   kr (.inl 22)
  else
   (C 97 [vI ((x1.cell 2).toInt),vI 3,.bool (js r2)]).bind fun r4=>
   bif !(gB r4)then
   kr (.inl 22)
   else
   (C 97 [vI ((x1.cell 3).toInt),vI aO,.bool (mR r2)]).bind fun r5=>
   bif !(gB r5)then
    kr (.inl 22)
   else
    (C 97 [vI ((x1.cell 4).toInt),vI t21,.bool (vR r2)]).bind fun r6=>
    bif !(gB r6)then
    kr (.inl 22)
    else
    (C 97 [vI ((x1.cell 5).toInt),vI t21,.bool (uy r2)]).bind fun r7=>
    bif !(gB r7)then
     kr (.inl 22)
    else
     kn (wrap .i64 (t21+1))
 else
  kr (.inr (t21,decide (t21<t20)))
noncomputable def aeT(C:af)(list:LV)(root aO:Int)(t19:LV)(t20:Int):=fun t21=>Pk C list root aO t19 t20 t21 ct cu
noncomputable def aHh(C:af):da:=cm 97 aaa (aN 6 32) [[0],[1,2,3,4,5,0,0]] (@Pk C) bS
theorem aHi(C:af):bt C (aHh C) 43 (Lp [1,1,1,0,1,0,0] 43):=cj aaa (aN 6 32) [[0],[1,2,3,4,5,0,0]] (@Pk C) (aY ak)
noncomputable def aoq(C:af)(list:LV)(root aO:Int):Option LV:=
 bif decide (aO<1)then
  some [vI 1]
 else
  bif decide (aO>6)then
  some [vI 1]
  else
  bif decide ((list.length:Int)>200000)then
   some [vI 3]
  else
   (Loop (aeT C list root aO list (list.length:Int)) 0).bind (gZ (fun BO=>
    some [vI BO]) (un fun(uI:Int) (z9:Bool)=>
    bif decide (root<0)then
    some [vI 22]
    else
    bif decide (root≥(list.length:Int))then
     some [vI 22]
    else
     some [vI 0]))
theorem aHj{list:LV}{root aO:Int}{r:Option LV}(h:aoq CC list root aO=r):CC 43 [gG list,vI root,vI aO]=r:=bR (br (aHi CC) ak) h
noncomputable def Pl(C:af)(list:LV)(root t13 t14:Int)(kz:LV){β:Type}(kn:ay (Int×LV) β)(kr:ay (Int×Bool×LV) β):Option β:=
 bif decide (t14<t13)then
  aL kz t14 fun x1=>
  kn (wrap .i64 (t14+1),aG kz t14 (vI (-1)))
 else
  kr (t14,decide (t14<t13),kz)
noncomputable def VP(C:af)(list:LV)(root t13:Int):=un fun t14 kz=>Pl C list root t13 t14 kz ct cu
noncomputable def VQ(C:af)(list:LV)(i:Int)(t42:Bool)(kz:LV)(Fb Fc Fe Ff Fg Fh:Bool){β:Type}(kr:ay LV β):Option β:=
 bif t42 then
  (idx list i).bind fun x9=>
  (idx list i).bind fun mc=>
  aL kz ((mc.cell 4).toInt) fun ny=>
  aL kz ((x9.cell 4).toInt) fun ij=>
  kr (aG kz ((x9.cell 4).toInt) (vI (if i>ny.toInt then i else ny.toInt)))
 else
  kr kz
noncomputable def Pm(C:af)(list:LV)(i:Int)(kz:LV){β:Type}(kn:ay (Int×LV) β)(kr:ay (Int×Bool×LV) β):Option β:=
 bif decide (i≥0)then
  aL kz i fun x6=>
  bif decide ((x6.toInt:Int)<0)then
  kn (wrap .i64 (i-1),kz)
  else
  (idx list i).bind fun x7=>
  (C 46 [vI ((x7.cell 0).toInt)]).bind fun r8=>
  VQ C list i (vR r8) kz (gB r8) (js r8) (mR r8) (vR r8) (uy r8) (BB r8) (fun(VR:LV)=>
   bif (uy r8)then
    (idx list i).bind fun pJ=>
    (idx list i).bind fun uP=>
    aL VR ((uP.cell 5).toInt) fun nz=>
    aL VR ((pJ.cell 5).toInt) fun pF=>
    kn (wrap .i64 (i-1),aG VR ((pJ.cell 5).toInt) (vI (if i>nz.toInt then i else nz.toInt)))
   else
    kn (wrap .i64 (i-1),VR))
 else
  kr (i,decide (i≥0),kz)
noncomputable def Pn(C:af)(list:LV):=un fun i kz=>Pm C list i kz ct cu
noncomputable def aeU(C:af):da:=cm 49 aab (aN 5 24) [[1,2,3,0,0,0]] (@Pl C) (lu 687 aac [[1,2,0,5,6,7,8,9,10]] (@VQ C) (cm 145 aad [zJ,zK,zK] [[1,0,0,0]] (@Pm C) bS))
theorem aHk(C:af):bt C (aeU C) 44 (Lp [1,1,0,1,0,0] 44):=cj aab (aN 5 24) [[1,2,3,0,0,0]] (@Pl C) (aY ak)
theorem aHl(C:af):bt C (aeU C) 44 (Cd 42 [1,1,1,1,0,1,0,0,1,0,0,1,1,0,1,0] [1,1,1,1,0,1,0,0,1,0,0,1,1,0,1,1] 44):=lr aac [[1,2,0,5,6,7,8,9,10]] (@VQ C) (aY ak) (aY ak)
theorem aHm(C:af):bt C (aeU C) 44 (Lp [1,1,1,1,0,1,0,0] 44):=cj aad [zJ,zK,zK] [[1,0,0,0]] (@Pm C) (aY (br (aHl C) ak))
noncomputable def aor(C:af)(list:LV)(root:Int):Option LV:=
 bif (decide (0≤(wrap .i64 (root+1))))&&((decide ((wrap .i64 (root+1))≤(wrap .i64 (root+1))))&&(Nat.ble (((wrap .i64 (root+1):Int).toNat)*8) bf))then
  (Loop (VP C list root ((List.replicate ((wrap .i64 (root+1):Int).toNat) (vI 0)).length:Int)) (0,List.replicate ((wrap .i64 (root+1):Int).toNat) (vI 0))).bind (un fun lA=>un fun(fL:Bool) (aos:LV)=>
   aL aos root fun x5=>
   (Loop (Pn C list) (root,aG aos root (vI root))).bind (un fun aJl=>un fun(aJm:Bool) (aHn:LV)=>
    some [ab aHn]))
 else none
theorem aHo{list:LV}{root:Int}{r:Option LV}(h:aor CC list root=r):CC 44 [gG list,vI root]=r:=bR (br (aHk CC) (br (aHm CC) ak)) h
theorem vf{v c:Nat}{nd:Bool}(h1:nd=true→v<c)(h0:nd=false→v=0):CC 97 [vI (v:Int),vI (c:Int),.bool nd]=some [.bool true]:=by
 refine aHg ?_;unfold aop;cases nd with
 |true=>
  have:=h1 rfl;refine bT rfl (bT (bj (by omega)) ?_);rw[bj (by omega)]
 |false=>
  refine bF rfl ?_;rw[h0 rfl];rfl
theorem aot{fs:List Fm}{i:Nat}{d:Fm}(hd:fs[i]? =some d):idx (fs.map Fm.v) (i:Int)=some d.v:=by rw[zB rfl,mY,hd];rfl
section
variable {fs:List Fm}(hv:GF fs)(hn:fs.length≤200000){r:Nat}(hr:r<fs.length)
include hv hn hr
theorem aHp:CC 43 [gG (fs.map Fm.v),vI (r:Int),vI 6]=some [vI 0]:=by
 refine aHj ?_;unfold aoq;rw[dD];refine bF rfl (bF rfl (bF (cw (by omega)) ?_));refine bs (gp fs.length (fun i=>(i:Int)) (.inr ((fs.length:Int),false)) (fun i hi=> ?_) ?_) ?_
 ·obtain⟨d,hd⟩:∃d,fs[i]? =some d:=⟨_,cv hi⟩
  have ok:=hv i d hd;have o1:=ok.o1;have o7:=ok.o7;simp only[aeT,Pk];refine bT (cF hi) (bs (aot hd) (bs (VN o1 o7) (bF rfl
   (bs (vf (c:=3) (fun _=>ok.x3) fun h=>ok.x0 (by have:=yT h;omega)) (bF rfl
   (bs (vf (c:=3) (fun _=>ok.y3) fun h=>ok.y0 (by have:=yT h;omega) (by have:=yT h;omega)) (bF rfl
   (bs (vf (c:=6) (fun _=>ok.c6) fun h=>ok.c0 (yT h)) (bF rfl
   (bs (vf (fun h=>ok.a1 (AA h)) fun h=>ok.a0 (by have:=yT h;omega)) (bF rfl
   (bs (vf (fun h=>ok.b1 (AA h)) fun h=>ok.b0 (by have:=yT h;omega) (by have:=yT h;omega)) (bF rfl ?_)))))))))))))
  rw[bY (by omega)]
 ·simp only[aeT,Pk];refine bF (cf (aR _)) ?_;rw[cf (aR _)]
 ·simp only[gZ,un];exact bF (cw (by omega)) (bF (cw (by omega)) rfl)
end
def uV(n:Nat)(U:Nat→Int):LV:=tab n fun i=>vI (U i)
theorem IH{n j:Nat}{U:Nat→Int}(h:j<n):(uV n U)[j]? =some (vI (U j)):=dH h
def uset(U:Nat→Int)(a:Nat)(i:Int):Nat→Int:=fun j=>if j=a then(if i>U a then i else U a)else U j
theorem aeV{n a:Nat}{U:Nat→Int}{i:Int}:aG (uV n U) (a:Int) (vI (if i>U a then i else U a))=uV n (uset U a i):=by
 unfold aG uV uset;rw[Int.toNat_natCast,jf];refine dA fun j _=> ?_;by_cases c:j=a
 ·rw[aP c,aP c]
 ·rw[aM c,aM c]
theorem VT{U:Nat→Int}{a:Nat}{i:Int}(j:Nat):U j≤uset U a i j:=by
 unfold uset;by_cases c:j=a
 ·subst c;rw[aP rfl];split<;>omega
 ·rw[aM c];exact Int.le_refl _
theorem aeW{U:Nat→Int}{a:Nat}{i:Int}:i≤uset U a i a:=by
 unfold uset;rw[aP rfl];split<;>omega
theorem aeX{U:Nat→Int}{a j:Nat}{i:Int}(h:j≠a):uset U a i j=U j:=aM h
structure II(d:Fm)(i:Nat)(U:Nat→Int):Prop where
 a:4≤d.op→(i:Int)≤U d.a
 b:d.op=5∨d.op=6→(i:Int)≤U d.b
structure aeY(fs:List Fm)(r:Nat)(U:Nat→Int):Prop where
 root:0≤U r
 ch:∀(i:Nat) d,fs[i]? =some d→i≤r→0≤U i→II d i U
theorem II.up{d:Fm}{i:Nat}{U W:Nat→Int}(h:II d i U)(hm:∀j,U j≤W j):II d i W:=⟨fun c=>Jc (h.a c) (hm _),fun c=>Jc (h.b c) (hm _)⟩
section
variable {fs:List Fm}(hv:GF fs)(hn:fs.length≤200000){r:Nat}(hr:r<fs.length)
include hv hn hr
omit hn hr in
theorem aHq{i:Nat}(hi:i≤r){d:Fm}(hd:fs[i]? =some d){U:Nat→Int}:∃W,(∀j,U j≤W j)∧(∀j,i≤j→W j=U j)∧(0≤U i→II d i W)∧
  Pn CC (fs.map Fm.v) ((i:Int),uV (r+1) U)=some (.inl (wrap .i64 ((i:Int)-1),uV (r+1) W)):=by
 have ok:=hv i d hd;have e0:=aot hd;have ri:i<r+1:=by omega
 have ui:=IH (U:=U) ri;have ef:=VN ok.o1 ok.o7;simp only[Pn,Pm,un];by_cases hU:U i<0
 ·exact⟨U,fun _=>Int.le_refl _,fun _ _=>rfl,fun h=>by omega,bT (bj (by omega)) ((aU ui).trans (bT (bj hU) rfl))⟩
 unfold VQ;by_cases c4:4≤d.op
 ·have ha:=ok.a1 c4;have ua:=IH (U:=U) (show d.a<r+1 by omega);by_cases c5:d.op=5∨d.op=6
  ·have hb:=ok.b1 c5;refine⟨uset (uset U d.a i) d.b i,fun j=>Jc (VT j) (VT j),fun j hj=>by rw[aeX (by omega),aeX (by omega)],fun _=>⟨fun _=>Jc aeW (VT _),fun _=>aeW⟩,
    bT (bj (by omega)) ((aU ui).trans (bF (cw hU) (bs e0 (bs ef (bT (bj c4) (bs e0 (bs e0 ((aU ua).trans ((aU ua).trans (bT (bj c5) (bs e0 (bs e0 ?_))))))))))))⟩
   have e1:aG (uV (r+1) U) (d.a:Int) (vI (if(i:Int)>U d.a then(i:Int)else U d.a))=uV (r+1) (uset U d.a i):=aeV;have e2:aG (uV (r+1) (uset U d.a i)) (d.b:Int) (vI (if(i:Int)>uset U d.a i d.b then(i:Int)else uset U d.a i d.b))=uV (r+1) (uset (uset U d.a i) d.b i):=aeV;have ub:(aG (uV (r+1) U) (d.a:Int) (vI (if(i:Int)>U d.a then(i:Int)else U d.a)))[d.b]? =some (vI (uset U d.a i d.b)):=by rw[e1];exact IH (by omega)
   have e3:=(congrArg (fun l=>aG l (d.b:Int) (vI (if(i:Int)>uset U d.a i d.b then(i:Int)else uset U d.a i d.b))) e1).trans e2;refine(aU ub).trans ((aU ub).trans ?_)
   exact congrArg (fun z=>some (Sum.inl (_,z))) e3
  ·refine⟨uset U d.a i,fun j=>VT j,fun j hj=>by rw[aeX (by omega)],fun _=>⟨fun _=>aeW,fun h=>absurd h c5⟩,
    bT (bj (by omega)) ((aU ui).trans (bF (cw hU) (bs e0 (bs ef (bT (bj c4) (bs e0 (bs e0 ((aU ua).trans ((aU ua).trans (bF (cw c5) ?_))))))))))⟩
   exact congrArg (fun z=>some (Sum.inl (_,z))) aeV
 ·exact⟨U,fun _=>Int.le_refl _,fun _ _=>rfl,fun _=>⟨fun h=>absurd h c4,fun h=>by omega⟩,
   bT (bj (by omega)) ((aU ui).trans (bF (cw hU) (bs e0 (bs ef (bF (cw c4) (bF (cw (by omega)) rfl))))))⟩
theorem aHr:∃U,aeY fs r U∧CC 44 [gG (fs.map Fm.v),vI (r:Int)]=some [ab (uV (r+1) U)]:=by
 have f1:Loop (VP CC (fs.map Fm.v) (r:Int) ((r+1:Nat):Int)) (0,uV (r+1) fun _=>0)=some (((r+1:Nat):Int),false,uV (r+1) fun _=> -1):=by
  have e:(uV (r+1) fun j=>if j<r+1 then-1 else 0)=uV (r+1) fun _=> -1:=dA fun j hj=>congrArg (V.int .i64) (aP hj);rw[←e];refine gp (r+1) (fun i=>((i:Int),uV (r+1) fun j=>if j<i then-1 else 0)) _ (fun i hi=> ?_) ?_
  ·simp only[VP,Pl,un];refine bT (cF hi) ((aU (dH hi)).trans ?_);rw[bY (by omega)];unfold aG uV;rw[Int.toNat_natCast,jf];refine congrArg (fun z=>some (Sum.inl (_,z))) (dA fun j _=> ?_);by_cases c:j=i
   ·rw[aP c];exact congrArg (V.int .i64) (aP (by omega)).symm
   ·rw[aM c];refine congrArg (V.int .i64) (show(if j<i then(-1:Int)else 0)=if j<i+1 then-1 else 0 from ?_);by_cases c':j<i
    ·rw[aP c',aP (by omega)]
    ·rw[aM c',aM (by omega)]
  ·simp only[VP,Pl,un];refine bF (cf (aR _)) ?_;rw[cf (aR _)]
 have e0:List.replicate (r+1) (vI 0)=uV (r+1) fun _=>0:=mG;have e1:aG (uV (r+1) fun _=> -1) (r:Int) (vI (r:Int))=uV (r+1) fun j=>if j=r then(r:Int)else-1:=by
  unfold aG uV;rw[Int.toNat_natCast,jf];refine dA fun j _=> ?_;by_cases c:j=r
  ·rw[aP c];exact congrArg (V.int .i64) (aP c).symm
  ·rw[aM c];exact congrArg (V.int .i64) (aM c).symm
 have key:=gH (step:=Pn CC (fs.map Fm.v)) (fun t (s:Int×LV)=> ∃U,s=((r:Int)-(t:Int),uV (r+1) U)∧0≤U r∧∀(j:Nat) d,fs[j]? =some d→r<j+t→j≤r→0≤U j→II d j U)
  (fun x=> ∃U,x=((-1:Int),false,uV (r+1) U)∧aeY fs r U) (r+1) 0 ((r:Int),uV (r+1) fun j=>if j=r then(r:Int)else-1)
  (fun t _ ht s hs=> ?_) (fun s hs=> ?_) ⟨fun j=>if j=r then(r:Int)else-1,by simp,by simp,fun j d _ h1 h2=>by omega⟩
 ·obtain⟨x,e2,U,rfl,h⟩:=key;refine⟨U,h,aHo ?_⟩;unfold aor;rw[bY (by omega),Int.toNat_natCast,CD,e0];refine bT (iB (by omega) (by omega)) (bs f1 ?_);simp only[un];refine(aU (dH (yK r))).trans ?_;rw[e1];exact bs e2 rfl
 ·obtain⟨U,rfl,h1,h2⟩:=hs;rw[cL]at ht;obtain⟨i,hi⟩:∃i:Nat,i+t=r:=⟨r-t,by omega⟩
  have ei:(r:Int)-(t:Int)=(i:Int):=by omega
  have en:wrap .i64 ((i:Int)-1)=(r:Int)-((t+1:Nat):Int):=by rw[show(r:Int)-((t+1:Nat):Int)=(i:Int)-1 by omega];exact wrap64 (by omega) (by omega)
  obtain⟨d,hd⟩:∃d,fs[i]? =some d:=⟨_,cv (by omega)⟩
  obtain⟨W,w1,w2,w3,e3⟩:=aHq hv (show i≤r by omega) hd (U:=U);rw[ei];rw[en]at e3;refine⟨_,e3,W,rfl,Jc h1 (w1 r),fun j d' hj h3 h4 h5=> ?_⟩;rw[w2 j (by omega)]at h5;by_cases c:j=i
  ·subst c;rw[hd]at hj;cases hj;exact w3 h5
  ·exact(h2 j d' hj (by omega) h4 h5).up w1
 ·obtain⟨U,rfl,h1,h2⟩:=hs;refine⟨((-1:Int),false,uV (r+1) U),?_,U,rfl,h1,fun i d hd hi h0=>h2 i d hd (by omega) hi h0⟩;simp only[Pn,Pm,un];rw[show(r:Int)-((0+(r+1):Nat):Int)= -1 by omega];exact bF rfl rfl
end
noncomputable def Po(C:af)(root:Int)(w:List UInt8)(i:Int)(t35:LV)(t36 t37:Int)(t67:Bool)(kz nR:LV)(jZ jA jM kW iI jN:Int)(Fb Fc Fe Ff Fg Fh:Bool){β:Type}(kr:ay LV β):Option β:=
 bif t67 then
  aL nR iI fun mc=>
  kr (aG nR iI (.agg (xV mc [jd ([]:LV)])))
 else
  kr nR
noncomputable def Pp(C:af)(root:Int)(w:List UInt8)(t35:LV)(t36:Int)(kz:LV)(t37:Int)(nR:LV){β:Type}(kn:ay (Int×LV) β)(kr:ay (Int×Bool×LV) β):Option β:=
 bif decide (t37<t36)then
  (idx t35 t37).bind fun x4=>
  aL kz t37 fun x5=>
  bif decide ((x5.toInt:Int)<0)then
  kn (wrap .i64 (t37+1),nR)
  else
  (C 45 (SI x4 [vI ((x4.cell 4).toInt),vI ((x4.cell 5).toInt),.list 125 nR,.str w])).bind fun r6=>
  aL nR t37 fun x7=>
  (C 46 [vI ((x4.cell 0).toInt)]).bind fun r8=>
  bif (vR r8)then
   aL kz ((x4.cell 4).toInt) fun x9=>
   Po C root w t37 t35 t36 t37 ((x9.toInt:Int)==t37) kz (aG nR t37 (.agg [.bool (gB r6),.bool (js r6),.bool (mR r6),vI (uw r6),vI (gI ((((r6.drop 1).drop 1).drop 1).drop 1)),jd (gL (r6.drop 5))])) ((x4.cell 0).toInt) ((x4.cell 1).toInt) ((x4.cell 2).toInt) ((x4.cell 3).toInt) ((x4.cell 4).toInt) ((x4.cell 5).toInt) (gB r8) (js r8) (mR r8) (vR r8) (uy r8) (BB r8) (fun(VU:LV)=>
    bif (uy r8)then
    aL kz ((x4.cell 5).toInt) fun ij=>
    bif (ij.toInt:Int)==t37 then
     aL VU ((x4.cell 5).toInt) fun oT=>
     kn (wrap .i64 (t37+1),aG VU ((x4.cell 5).toInt) (.agg (xV oT [jd ([]:LV)])))
    else
     kn (wrap .i64 (t37+1),VU)
    else
    kn (wrap .i64 (t37+1),VU))
  else
   Po C root w t37 t35 t36 t37 false kz (aG nR t37 (.agg [.bool (gB r6),.bool (js r6),.bool (mR r6),vI (uw r6),vI (gI ((((r6.drop 1).drop 1).drop 1).drop 1)),jd (gL (r6.drop 5))])) ((x4.cell 0).toInt) ((x4.cell 1).toInt) ((x4.cell 2).toInt) ((x4.cell 3).toInt) ((x4.cell 4).toInt) ((x4.cell 5).toInt) (gB r8) (js r8) (mR r8) (vR r8) (uy r8) (BB r8) (fun(VV:LV)=>
    bif (uy r8)then
    aL kz ((x4.cell 5).toInt) fun uP=>
    bif (uP.toInt:Int)==t37 then
     aL VV ((x4.cell 5).toInt) fun nz=>
     kn (wrap .i64 (t37+1),aG VV ((x4.cell 5).toInt) (.agg (xV nz [jd ([]:LV)])))
    else
     kn (wrap .i64 (t37+1),VV)
    else
    kn (wrap .i64 (t37+1),VV))
 else
  kr (t37,decide (t37<t36),nR)
noncomputable def Pq(C:af)(root:Int)(w:List UInt8)(t35:LV)(t36:Int)(kz:LV):=un fun t37 nR=>Pp C root w t35 t36 kz t37 nR ct cu
noncomputable def aou(C:af):da:=lu 1087 Zz [[1,2,3,4,5,6,8,0,10,11,12,13,14,15,16,17,18,19,20,21]] (@Po C) (cm 97 ZA (aN 7 80) [[1,2,3,4,0,0,6,0]] (@Pp C) bS)
theorem aHs(C:af):bt C (aou C) 15 (Cd 67 [1,1,1,1,0,1,0,0,1,1,0,0,1,1,1,1,0,1,0] [1,1,1,1,0,1,0,0,1,1,0,0,1,1,1,1,0,1,1] 15):=lr Zz [[1,2,3,4,5,6,8,0,10,11,12,13,14,15,16,17,18,19,20,21]] (@Po C) (aY ak) (aY ak)
theorem aHt(C:af):bt C (aou C) 15 (Lp [1,1,1,1,0,1,0,0] 15):=cj ZA (aN 7 80) [[1,2,3,4,0,0,6,0]] (@Pp C) (aY (br (aHs C) ak))
noncomputable def aov(C:af)(list:LV)(root:Int)(w:List UInt8):Option LV:=
 (C 43 [gG list,vI root,vI 6]).bind fun r1=>
 bif ((gI r1):Int) != 0 then
  some [.bool false]
 else
  (C 40 [.str w,vI 6]).bind fun r2=>
  bif !(gB r2)then
  some [.bool false]
  else
  bif decide ((w.length:Int)>40)then
   some [.bool false]
  else
   (C 44 [gG list,vI root]).bind fun r3=>
   bif (decide (0≤(wrap .i64 (root+1))))&&((decide ((wrap .i64 (root+1))≤(wrap .i64 (root+1))))&&(Nat.ble (((wrap .i64 (root+1):Int).toNat)*48) bf))then
   bif (decide (0≤(wrap .i64 (root+1))))&&(decide ((wrap .i64 (root+1))≤(list.length:Int)))then
    (Loop (Pq C root w ((list.drop 0).take (((wrap .i64 (root+1):Int).toNat)-0)) (((list.drop 0).take (((wrap .i64 (root+1):Int).toNat)-0)).length:Int) (gL r3)) (0,List.replicate ((wrap .i64 (root+1):Int).toNat) (V.agg [.bool false,.bool false,.bool false,vI 0,vI 0,jd ([]:LV)]))).bind (un fun aBu=>un fun(aBv:Bool) (aHu:LV)=>
     aL aHu root fun uN=>
     (C 47 (xV uN [jd ((uN.cell 5).toList),vI 0,vI (w.length:Int)])).bind fun wq=>
     some [.bool (((wrap .u64 ((BitVec.ofInt (IntKind.bits .u64) (gI wq)&&&BitVec.ofInt (IntKind.bits .u64) 1).toNat)):Int)==1)])
   else none
   else none
theorem aHv{list:LV}{root:Int}{w:List UInt8}{r:Option LV}(h:aov CC list root w=r):CC 15 [gG list,vI root,.str w]=r:=bR (br (aHt CC) ak) h
def mK(n:Nat)(T:Nat→Tt):LV:=tab n fun j=>(T j).v
theorem Cw{n j:Nat}{T:Nat→Tt}(h:j<n):(mK n T)[j]? =some (T j).v:=dH h
def sx(T:Nat→Tt)(a:Nat):Nat→Tt:=fun j=>if j=a then⟨(T a).D,(T a).s0,(T a).s1,[]⟩else T j
def eY(T:Nat→Tt)(i:Nat)(t:Tt):Nat→Tt:=fun j=>if j=i then t else T j
theorem aow{n i:Nat}{T:Nat→Tt}{t:Tt}:aG (mK n T) (i:Int) t.v=mK n (eY T i t):=by
 unfold aG mK eY;rw[Int.toNat_natCast,jf];refine dA fun j _=> ?_;by_cases c:j=i
 ·rw[aP c,aP c]
 ·rw[aM c,aM c]
theorem VW{n a:Nat}{T:Nat→Tt}:aG (mK n T) (a:Int) (.agg [.bool (((T a).v.cell 0).toBool),.bool (((T a).v.cell 1).toBool),.bool (((T a).v.cell 2).toBool),vI (((T a).v.cell 3).toInt),vI (((T a).v.cell 4).toInt),jd ([]:LV)])=mK n (sx T a):=aow (t:=⟨(T a).D,(T a).s0,(T a).s1,[]⟩)
def Pr(fs:List Fm)(u:List Nat)(r:Nat)(U:Nat→Int)(i:Nat)(T:Nat→Tt):Prop:= ∀j,j<i→((i:Int)≤U j∨j=r)→Pe u.length (fo fs u j) (T j)
section
variable {fs:List Fm}(hv:GF fs){r:Nat}(hr:r<fs.length){w:List UInt8}(hw:nv w 6)(hl:w.length≤40){U:Nat→Int}(hU:aeY fs r U){i:Nat}(hi:i≤r){T:Nat→Tt}(hT:Pr fs (lets w) r U i T)
include hv hr hw hl hU hi hT
theorem aHw{ls:LV}(e0:∀d,fs[i]? =some d→idx ls (i:Int)=some d.v){n:Nat}(hn:r<n){m r':Int}(hm:(i:Int)<m):∃T',Pr fs (lets w) r U (i+1) T'∧Pq CC r' w ls m (uV n U) ((i:Int),mK n T)=some (.inl (wrap .i64 ((i:Int)+1),mK n T')):=by
 have o3:(lets w).length=w.length:=rZ;obtain⟨d,hd⟩:∃d,fs[i]? =some d:=⟨_,cv (by omega)⟩
 have ok:=hv i d hd;have eg:=e0 d hd;have en:i<n:=by omega
 have ui:=IH (U:=U) en;simp only[Pq,Pp,un];by_cases h0:U i<0
 ·refine⟨T,fun j hj h=> ?_,bT (bj hm) (bs eg ((aU ui).trans (bT (bj h0) rfl)))⟩;have:j≠i:=fun e=>by
   subst e;rcases h with h|h
   ·omega
   ·subst h;have:=hU.root;omega
  refine hT j (by omega) (h.imp_left fun h=>by omega)
 have hc:=hU.ch i d hd hi (by omega);have tA:4≤d.op→TA w.length (mK n T) d.a (fo fs (lets w) d.a) (T d.a):=fun h4=>by
  have:=ok.a1 h4;exact⟨by rw[zB rfl];exact Cw (by omega),o3▸hT d.a this (.inl (hc.a h4))⟩
 have tB:d.op=5∨d.op=6→TA w.length (mK n T) d.b (fo fs (lets w) d.b) (T d.b):=fun h5=>by
  have:=ok.b1 h5;exact⟨by rw[zB rfl];exact Cw (by omega),o3▸hT d.b this (.inl (hc.b h5))⟩
 obtain⟨t,ht,et⟩:=aHe hw hl ok tA tB;rw[←aeh hd ok,←o3]at ht;have ef:=VN ok.o1 ok.o7;have ti:=Cw (T:=T) en;have st:aG (mK n T) (i:Int) t.v=mK n (eY T i t):=aow;have good:∀T',(∀j,T' j=eY T i t j∨j<i∧U j=i)→Pr fs (lets w) r U (i+1) T':=fun T' h j hj ja=>by
  have:T' j=eY T i t j:=(h j).resolve_right fun h=>by
   rcases ja with h'|h'
   ·have:=h.2;omega
   ·omega
  rw[this];unfold eY;by_cases c:j=i
  ·rw[aP c,c];exact ht
  ·rw[aM c];exact hT j (by omega) (ja.imp_left fun h=>by omega)
 unfold Po;have fr:∀{T1:Nat→Tt} {a:Nat},a<i→U a=i→(∀j,T1 j=eY T i t j∨j<i∧U j=i)→∀j,sx T1 a j=eY T i t j∨j<i∧U j=i:=fun {T1 a} ha hu h j=>by
  unfold sx;by_cases c:j=a
  ·subst c;exact .inr ⟨ha,hu⟩
  ·rw[aM c];exact h j
 have g0:∀j,eY T i t j=eY T i t j∨j<i∧U j=i:=fun j=> .inl rfl;have Ps:∀{z:Int},z=i→(z==(i:Int))=true:=fun h=>by simp[h]
 have Pt:∀{z:Int},z≠i→(z==(i:Int))=false:=fun h=>by simp[h]
 have fw:∀{l:LV} {T':Nat→Tt},l=mK n T'→(some (Sum.inl (wrap .i64 ((i:Int)+1),l)):Option ((Int×LV) ⊕ (Int×Bool×LV)))=some (.inl (wrap .i64 ((i:Int)+1),mK n T')):=fun h=>by rw[h]
 by_cases c4:4≤d.op
 ·have ha:=ok.a1 c4;have ua:=IH (U:=U) (show d.a<n by omega);by_cases c5:d.op=5∨d.op=6
  ·have hb:=ok.b1 c5;have ub:=IH (U:=U) (show d.b<n by omega);by_cases ca:U d.a=i
   ·have ga:(aG (mK n T) (i:Int) t.v)[d.a]? =some (eY T i t d.a).v:=by rw[st];exact Cw (by omega)
    have s2:=(congrArg (fun l=>aG l (d.a:Int) (.agg [.bool (((eY T i t d.a).v.cell 0).toBool),.bool (((eY T i t d.a).v.cell 1).toBool),.bool (((eY T i t d.a).v.cell 2).toBool),vI (((eY T i t d.a).v.cell 3).toInt),vI (((eY T i t d.a).v.cell 4).toInt),jd ([]:LV)])) st).trans VW;by_cases cb:U d.b=i
    ·refine⟨sx (sx (eY T i t) d.a) d.b,good _ (fr hb cb (fr ha ca g0)),bT (bj hm) (bs eg ((aU ui).trans (bF (cw h0) (bs et ((aU ti).trans (bs ef (bT (bj c4) ((aU ua).trans (bT (Ps ca) ((aU ga).trans (bT (bj c5) ((aU ub).trans (bT (Ps cb) ?_)))))))))))))⟩;have gb:(aG (aG (mK n T) (i:Int) t.v) (d.a:Int) (.agg [.bool (((eY T i t d.a).v.cell 0).toBool),.bool (((eY T i t d.a).v.cell 1).toBool),.bool (((eY T i t d.a).v.cell 2).toBool),vI (((eY T i t d.a).v.cell 3).toInt),vI (((eY T i t d.a).v.cell 4).toInt),jd ([]:LV)]))[d.b]? =some (sx (eY T i t) d.a d.b).v:=by rw[s2];exact Cw (by omega)
     have s3:=(congrArg (fun l=>aG l (d.b:Int) (.agg [.bool (((sx (eY T i t) d.a d.b).v.cell 0).toBool),.bool (((sx (eY T i t) d.a d.b).v.cell 1).toBool),.bool (((sx (eY T i t) d.a d.b).v.cell 2).toBool),vI (((sx (eY T i t) d.a d.b).v.cell 3).toInt),vI (((sx (eY T i t) d.a d.b).v.cell 4).toInt),jd ([]:LV)])) s2).trans VW;exact(aU gb).trans (fw s3)
    ·exact⟨sx (eY T i t) d.a,good _ (fr ha ca g0),bT (bj hm) (bs eg ((aU ui).trans (bF (cw h0) (bs et ((aU ti).trans (bs ef (bT (bj c4) ((aU ua).trans (bT (Ps ca) ((aU ga).trans (bT (bj c5) ((aU ub).trans (bF (Pt cb) (fw s2))))))))))))))⟩
   ·by_cases cb:U d.b=i
    ·have gb:(aG (mK n T) (i:Int) t.v)[d.b]? =some (eY T i t d.b).v:=by rw[st];exact Cw (by omega)
     have s2:=(congrArg (fun l=>aG l (d.b:Int) (.agg [.bool (((eY T i t d.b).v.cell 0).toBool),.bool (((eY T i t d.b).v.cell 1).toBool),.bool (((eY T i t d.b).v.cell 2).toBool),vI (((eY T i t d.b).v.cell 3).toInt),vI (((eY T i t d.b).v.cell 4).toInt),jd ([]:LV)])) st).trans VW;exact⟨sx (eY T i t) d.b,good _ (fr hb cb g0),bT (bj hm) (bs eg ((aU ui).trans (bF (cw h0) (bs et ((aU ti).trans (bs ef (bT (bj c4) ((aU ua).trans (bF (Pt ca) (bT (bj c5) ((aU ub).trans (bT (Ps cb) ((aU gb).trans (fw s2))))))))))))))⟩
    ·exact⟨eY T i t,good _ g0,bT (bj hm) (bs eg ((aU ui).trans (bF (cw h0) (bs et ((aU ti).trans (bs ef (bT (bj c4) ((aU ua).trans (bF (Pt ca) (bT (bj c5) ((aU ub).trans (bF (Pt cb) (fw st)))))))))))))⟩
  ·by_cases ca:U d.a=i
   ·have ga:(aG (mK n T) (i:Int) t.v)[d.a]? =some (eY T i t d.a).v:=by rw[st];exact Cw (by omega)
    have s2:=(congrArg (fun l=>aG l (d.a:Int) (.agg [.bool (((eY T i t d.a).v.cell 0).toBool),.bool (((eY T i t d.a).v.cell 1).toBool),.bool (((eY T i t d.a).v.cell 2).toBool),vI (((eY T i t d.a).v.cell 3).toInt),vI (((eY T i t d.a).v.cell 4).toInt),jd ([]:LV)])) st).trans VW;exact⟨sx (eY T i t) d.a,good _ (fr ha ca g0),bT (bj hm) (bs eg ((aU ui).trans (bF (cw h0) (bs et ((aU ti).trans (bs ef (bT (bj c4) ((aU ua).trans (bT (Ps ca) ((aU ga).trans (bF (cw c5) (fw s2))))))))))))⟩
   ·exact⟨eY T i t,good _ g0,bT (bj hm) (bs eg ((aU ui).trans (bF (cw h0) (bs et ((aU ti).trans (bs ef (bT (bj c4) ((aU ua).trans (bF (Pt ca) (bF (cw c5) (fw st)))))))))))⟩
 ·exact⟨eY T i t,good _ g0,bT (bj hm) (bs eg ((aU ui).trans (bF (cw h0) (bs et ((aU ti).trans (bs ef (bF (cw c4) (bF rfl (bF (cw (by omega)) (fw st))))))))))⟩
end
theorem aHx{fs:List Fm}(hv:GF fs)(hn:fs.length≤200000){r:Nat}(hr:r<fs.length){w:List UInt8}(hw:nv w 6)(hl:w.length≤40){b:Bool}(hb:fo fs (lets w) r (fO 0 w.length 0)↔b=true):CC 15 [gG (fs.map Fm.v),vI (r:Int),.str w]=some [.bool b]:=by
 have o3:(lets w).length=w.length:=rZ;obtain⟨U,hU,e1⟩:=aHr hv hn hr;obtain⟨ls,KG⟩:∃l:LV,l=((fs.map Fm.v).drop 0).take (((r+1:Nat):Int).toNat-0):=⟨_,rfl⟩
 have ll:ls.length=r+1:=by rw[KG];simp;omega
 have lg:∀i,i≤r→∀d,fs[i]? =some d→idx ls (i:Int)=some d.v:=fun i hi d hd=>by
  rw[zB rfl,KG,wF,Nat.sub_zero,Int.toNat_natCast,List.getElem?_take,aP (by omega),mY,hd];rfl
 have key:=gH (step:=Pq CC (r:Int) w ls ((r+1:Nat):Int) (uV (r+1) U)) (fun i (s:Int×LV)=> ∃T,s=((i:Int),mK (r+1) T)∧Pr fs (lets w) r U i T)
  (fun x=> ∃T,x=(((r+1:Nat):Int),false,mK (r+1) T)∧Pr fs (lets w) r U (r+1) T) (r+1) 0 (0,mK (r+1) fun _=>⟨fun _=>false,0,0,[]⟩)
  (fun i _ hi s hs=> ?_) (fun s hs=> ?_) ⟨fun _=>⟨fun _=>false,0,0,[]⟩,rfl,fun j hj=>by omega⟩
 ·obtain⟨x,e2,T,rfl,hT⟩:=key;have tr:=hT r (yK r) (.inr rfl);obtain⟨R,g,e3⟩:=Ay (by omega) tr (mi _) (aR _) (y:=(lets w).length);rw[o3]at e3 g;have e0:List.replicate (r+1) (V.agg [.bool false,.bool false,.bool false,vI 0,vI 0,jd ([]:LV)])=mK (r+1) fun _=>⟨fun _=>false,0,0,[]⟩:=mG;refine aHv ?_;unfold aov;refine bs (aHp hv hn hr) (bF rfl (bs (abF w 6) ?_));rw[bj hw];refine bF rfl (bF (cw (by omega)) (bs e1 ?_));rw[bY (by omega),←KG,ll,Int.toNat_natCast,e0,dD];refine bT (iB (by omega) (by omega)) (bT ?_ (bs e2 ?_))
  ·rw[bj (by omega),bj (by omega)];rfl
  ·refine(aU (Cw (yK r))).trans (bs e3 ?_)
   have h1:=u64_and g.lt (show 1<2^64 by decide);rw[show((1:Nat):Int)=1 from rfl]at h1;simp only[V.jE,V.toInt_int,gI,gL,gB,gS];rw[h1];congr 3;have h2:=g.bit 0;rw[Nat.testBit_zero,il]at h2;refine CI.2 ?_;rw[←hb,beq_iff_eq,Nat.and_one_is_mod];constructor
   ·intro h;exact(h2.1 (by omega)).2
   ·intro h;have:=h2.2 ⟨mi _,h⟩;omega
 ·obtain⟨T,rfl,hT⟩:=hs;rw[cL]at hi;obtain⟨T',h',e⟩:=aHw hv hr hw hl hU (show i≤r by omega) hT (lg i (by omega)) (yK r) (show(i:Int)<((r+1:Nat):Int) by omega) (r':=(r:Int));exact⟨_,e,T',by rw[bY (by omega)],h'⟩
 ·obtain⟨T,rfl,hT⟩:=hs;rw[cL]at hT⊢;refine⟨(((r+1:Nat):Int),false,mK (r+1) T),?_,T,rfl,hT⟩;simp only[Pq,Pp,un];refine bF (cf (aR _)) ?_;rw[cf (aR _)]
noncomputable def Pu(C:af)(aO n q fu fv cD cJ:Int)(aS aw aC aH:LV)(a:Int)(bP:LV)(bQ:Int)(rows:LV){β:Type}(kn:ay (Int×LV×Int×LV) β)(kr:ay (Int×Bool×LV×Int×LV) β):Option β:=
 bif decide (a<aO)then
  (C 18 [vI n,ab bP,vI bQ]).bind fun r4=>
  bif Nat.ble ((rows.length+([vI (gI r4)]:LV).length)*8) bf then
  kn (wrap .i64 (a+1),(dw r4),(jo r4),rows++([vI (gI r4)]:LV))
  else none
 else
  kr (a,decide (a<aO),bP,bQ,rows)
noncomputable def Pv(C:af)(aO n q fu fv cD cJ:Int)(aS aw aC aH:LV):=un fun a=>un fun bP=>un fun bQ rows=>Pu C aO n q fu fv cD cJ aS aw aC aH a bP bQ rows ct cu
noncomputable def Pw(C:af)(aO n fu fv cD cJ:Int)(aj aS:LV)(q:Int)(bP:LV)(bQ:Int)(aw aC:LV){β:Type}(kn:ay (Int×LV×Int×LV×LV) β)(kr:ay (Int×Bool×LV×Int×LV×LV) β):Option β:=
 bif decide (q<n)then
  (C 18 [vI 2,ab bP,vI bQ]).bind fun r3=>
  bif Nat.ble ((aw.length+([.bool (((gI r3):Int)==1)]:LV).length)*1) bf then
  (Loop (Pv C aO n q fu fv cD cJ aj aS (aw++([.bool (((gI r3):Int)==1)]:LV)) aC) (0,(dw r3),(jo r3),([]:LV))).bind (un fun a_5=>un fun(uE:Bool)=>un fun(IG:LV)=>un fun(aHy:Int) (aHz:LV)=>
   bif Nat.ble ((aC.length+1)*24) bf then
    kn (wrap .i64 (q+1),IG,aHy,aw++([.bool (((gI r3):Int)==1)]:LV),aC++([ab aHz]:LV))
   else none)
  else none
 else
  kr (q,decide (q<n),bP,bQ,aw,aC)
noncomputable def VX(C:af)(aO n fu fv cD cJ:Int)(aj aS:LV):=un fun q=>un fun bP=>un fun bQ=>un fun aw aC=>Pw C aO n fu fv cD cJ aj aS q bP bQ aw aC ct cu
noncomputable def aox(C:af):da:=cm 161 aau (aN 15 1080) [[1,2,3,0,0,0,0,7,8,9,10,0,12,13,14,15]] (@Pu C) (cm 81 aav (aN 13 6172) [[1,2,0,0,0,0,6,7,8,9,10,11,0,0]] (@Pw C) bS)
theorem aHA(C:af):bt C (aox C) 51 (Lp [1,1,1,1,0,1,0,0,1,0,0,1,1,0,1,0,0] 51):=cj aau (aN 15 1080) [[1,2,3,0,0,0,0,7,8,9,10,0,12,13,14,15]] (@Pu C) (aY ak)
theorem aHB(C:af):bt C (aox C) 51 (Lp [1,1,1,1,0,1,0,0] 51):=cj aav (aN 13 6172) [[1,2,0,0,0,0,6,7,8,9,10,11,0,0]] (@Pw C) (aY (br (aHA C) ak))
noncomputable def aoy(C:af)(aO eG:Int)(bP:LV)(bQ:Int):Option LV:=
 (C 18 [vI eG,ab bP,vI bQ]).bind fun r1=>
 (C 18 [vI (wrap .i64 (1+(gI r1))),ab (dw r1),vI (jo r1)]).bind fun r2=>
 (Loop (VX C aO (wrap .i64 (1+(gI r1))) 0 0 aO (gI r2) ([]:LV) ([]:LV)) (0,(dw r2),(jo r2),([]:LV),([]:LV))).bind (un fun aHC=>un fun(Mg:Bool)=>un fun(aHD:LV)=>un fun aHE=>un fun(rX:LV) (uF:LV)=>
  some [vI aO,vI (gI r2),ab aHD,vI aHE,au rX,aq uF])
theorem aHF{aO eG:Int}{bP:LV}{bQ:Int}{r:Option LV}(h:aoy CC aO eG bP bQ=r):CC 51 [vI aO,vI eG,ab bP,vI bQ]=r:=bR (br (aHB CC) ak) h
def dB(N:List (List Nat)):LV:=N.map fun r=>ab (nS r)
structure FN(L:Nat)(F:List Bool)(N:List (List Nat)):Prop where
 len:F.length=N.length
 pos:1≤N.length
 row:∀r∈N,r.length=L∧∀q∈r,q<N.length
theorem FN.ok{L st:Nat}{F:List Bool}{N:List (List Nat)}(h:FN L F N)(h1:1≤L)(h6:L≤6)(hs:st<N.length)(hn:N.length≤512):(⟨L,st,F,N⟩:Da).Ok:=by
 have e:(⟨L,st,F,N⟩:Da).n=N.length:=h.len;exact⟨h1,h6,by rw[e],fun r hr=>by rw[e];exact h.row r hr,by grind,by omega⟩
theorem FN.leaves{L st:Nat}{F:List Bool}{N:List (List Nat)}(h:(⟨L,st,F,N⟩:Da).Ok):iC ⟨L,st,F,N⟩=[vI (L:Int),vI (st:Int),au (F.map V.bool),aq (dB N)]:=by
 have:=h.leaves [];show BP _ []=_;rw[←this];simp only[TE,Da.df,dB,AE];refine congrArg (fun x=>[vI (L:Int),vI (st:Int),au (F.map V.bool),aq x]) (rl fun r _=> ?_);simp only[Function.comp,ye,v8,nS,AE];rfl
theorem aoz(t:Tp){L m:Nat}(h1:1≤L)(h6:L≤6)(hm:1≤m)(AX:m≤50):∃(F:List Bool) (N:List (List Nat)) (st:Nat) (u:Tp),FN L F N∧N.length≤m∧st<N.length∧
  CC 51 [vI (L:Int),vI (m:Int),t.L,t.K]=some [vI (L:Int),vI (st:Int),u.L,u.K,au (F.map V.bool),aq (dB N)]:=by
 obtain⟨v,t1,hv,e1⟩:=rY t (n:=m) hm (by omega);obtain⟨st,t2,fB,e2⟩:=rY t1 (n:=v+1) (by omega) (by omega);have inner:∀(w:Tp) {x1 x2 x3 x4 x5:Int} {y1 y2 y3 y4:LV},∃(r:List Nat) (u:Tp),r.length=L∧(∀q∈r,q<v+1)∧
   Loop (Pv CC (L:Int) ((v+1:Nat):Int) x1 x2 x3 x4 x5 y1 y2 y3 y4) (0,w.l.map iV,(w.k:Int),([]:LV))=some ((L:Int),false,u.l.map iV,(u.k:Int),nS r):=by
  intro w x1 x2 x3 x4 x5 y1 y2 y3 y4;have key:=gH (step:=Pv CC (L:Int) ((v+1:Nat):Int) x1 x2 x3 x4 x5 y1 y2 y3 y4) (fun i x=> ∃(r:List Nat) (u:Tp),r.length=i∧(∀q∈r,q<v+1)∧x=((i:Int),u.l.map iV,(u.k:Int),nS r))
   (fun o=> ∃(r:List Nat) (u:Tp),r.length=L∧(∀q∈r,q<v+1)∧o=((L:Int),false,u.l.map iV,(u.k:Int),nS r)) L 0 (0,w.l.map iV,(w.k:Int),nS []) (fun i _ hi x hx=> ?_) (fun x hx=> ?_) ⟨[],w,rfl,fun _ h=>(by cases h),rfl⟩
  ·obtain⟨o,e,r,u,a1,a2,rfl⟩:=key;exact⟨r,u,a1,a2,e⟩
  ·obtain⟨r,u,a1,a2,rfl⟩:=hx;obtain⟨k,u2,hk,e⟩:=rY u (n:=v+1) (by omega) (by omega);simp only[Pv,Pu,un];refine⟨_,bT (cF (by omega)) (bs e (bT (cap (a:=(nS r).length) (b:=1) (by rw[ff];omega) (by omega)) rfl)),r++[k],u2,by simp;omega,fun q hq=> ?_,?_⟩
   ·grind
   ·rw[bY (by omega)];refine dX rfl (dX rfl (dX rfl ?_));simp[nS,nV]
  ·obtain⟨r,u,a1,a2,rfl⟩:=hx;rw[cL]at*
   simp only[Pv,Pu,un];exact⟨_,bF (cf (aR _)) rfl,r,u,a1,a2,dX rfl (dX (cf (aR _)) rfl)⟩
 have key:=gH (step:=VX CC (L:Int) ((v+1:Nat):Int) 0 0 (L:Int) (st:Int) [] []) (fun i x=> ∃(F:List Bool) (N:List (List Nat)) (u:Tp),F.length=i∧N.length=i∧(∀r∈N,r.length=L∧∀q∈r,q<v+1)∧x=((i:Int),u.l.map iV,(u.k:Int),F.map V.bool,dB N))
  (fun o=> ∃(F:List Bool) (N:List (List Nat)) (u:Tp),F.length=v+1∧N.length=v+1∧(∀r∈N,r.length=L∧∀q∈r,q<v+1)∧o=(((v+1:Nat):Int),false,u.l.map iV,(u.k:Int),F.map V.bool,dB N)) (v+1) 0 (0,t2.l.map iV,(t2.k:Int),([]:LV),([]:LV)) (fun i _ hi x hx=> ?_) (fun x hx=> ?_) ⟨[],[],t2,rfl,rfl,fun _ h=>(by cases h),rfl⟩
 ·obtain⟨o,e,F,N,u,a1,a2,a3,rfl⟩:=key;refine⟨F,N,st,u,⟨by omega,by omega,fun r hr=>by grind⟩,by omega,by omega,aHF ?_⟩;unfold aoy;have hw:wrap .i64 (1+(gI [vI (v:Int),t1.L,t1.K]))=((v+1:Nat):Int):=by
   show wrap .i64 (1+(v:Int))=_;rw[show(1+(v:Int))=((v+1:Nat):Int) by omega];exact wrap64 (by omega) (by omega)
  refine bs e1 ?_;rw[hw];exact bs e2 (bs e rfl)
 ·obtain⟨F,N,u,a1,a2,a3,rfl⟩:=hx;obtain⟨k,u2,hk,e⟩:=rY u (n:=2) (by omega) (by omega);obtain⟨r,u3,b1,b2,e3⟩:=inner u2 (x1:=(i:Int)) (x2:=0) (x3:=0) (x4:=(L:Int)) (x5:=(st:Int)) (y1:=[]) (y2:=[]) (y3:=F.map V.bool++[.bool ((k:Int)==1)]) (y4:=dB N);simp only[VX,Pw,un];refine⟨(((i+1:Nat):Int),u3.l.map iV,(u3.k:Int),F.map V.bool++[.bool ((k:Int)==1)],dB N++[ab (nS r)]),bT (cF (by omega)) (bs e (bT (cap (a:=(F.map V.bool).length) (b:=1) (by grind) (by omega)) (bs e3 ?_))),F++[(k:Int)==1],N++[r],u3,by simp;omega,by simp;omega,fun s hs=> ?_,?_⟩
  ·simp only[un];refine bT (cap (a:=(dB N).length) (b:=1) (by rw[dB,dD];omega) (by omega)) ?_;rw[bY (by omega)];rfl
  ·grind
  ·simp[dB]
 ·obtain⟨F,N,u,a1,a2,a3,rfl⟩:=hx;rw[cL]at*
  simp only[VX,Pw,un];exact⟨_,bF (cf (aR _)) rfl,F,N,u,a1,a2,a3,dX rfl (dX (cf (aR _)) rfl)⟩
noncomputable def Px(C:af)(q t17 t18:Int)(t25:Nat)(t26:Int)(IJ:LV)(IK fu fv cD cJ:Int)(aS aw aC:LV)(t27:Int)(Az:LV){β:Type}(kn:ay (Int×LV) β)(kr:ay (Int×Bool×LV) β):Option β:=
 bif decide (t27<t26)then
  (ec Tryz.prog 22 Az [(t25,0)]).bind fun x4=>
  bif (decide (0≤t27))&&(decide (t27<(x4.toList.length:Int)))then
  (ec Tryz.prog 22 Az [(t25,0)]).bind fun x5=>
  (x5.toList[t27.toNat]?).bind fun x6=>
  aL Az q fun x7=>
  (ec Tryz.prog 22 Az [(q.toNat,0)]).bind fun x8=>
  bif (decide (0≤t27))&&(decide (t27<(x8.toList.length:Int)))then
   (ec Tryz.prog 22 Az [(q.toNat,0)]).bind fun x9=>
   (x9.toList[t27.toNat]?).bind fun mc=>
   kn (wrap .i64 (t27+1),setRow Tryz.prog (aG x9.toList t27 (vI (if x6.toInt>q then x6.toInt else q))) 22 Az [(q.toNat,0)])
  else none
  else none
 else
  kr (t27,decide (t27<t26),Az)
noncomputable def Py(C:af)(q t17 t18:Int)(t25:Nat)(t26:Int)(IJ:LV)(IK fu fv cD cJ:Int)(aS aw aC:LV):=un fun t27 Az=>Px C q t17 t18 t25 t26 IJ IK fu fv cD cJ aS aw aC t27 Az ct cu
noncomputable def Pz(C:af)(t17:Int)(IJ:LV)(IK fu fv cD cJ:Int)(aj aS aw:LV)(t18:Int)(aC:LV){β:Type}(kn:ay (Int×LV) β)(kr:ay (Int×Bool×LV) β):Option β:=
 bif decide (t18<t17)then
  aL aC t18 fun x2=>
  (ec Tryz.prog 22 aC [(t18.toNat,0)]).bind fun x3=>
  (Loop (Py C t18 t17 t18 (t18.toNat) (x3.toList.length:Int) IJ IK fu fv cD cJ aj aS aw) (0,aC)).bind (un fun Mg=>un fun(Uw:Bool) (aHG:LV)=>
   kn (wrap .i64 (t18+1),aHG))
 else
  kr (t18,decide (t18<t17),aC)
noncomputable def VY(C:af)(t17:Int)(IJ:LV)(IK fu fv cD cJ:Int)(aj aS aw:LV):=un fun t18 aC=>Pz C t17 IJ IK fu fv cD cJ aj aS aw t18 aC ct cu
noncomputable def aoA(C:af):da:=cm 97 aak (aN 16 4128) [[1,2,3,4,5,0,0,7,8,9,10,11,12,0,14,15,16]] (@Px C) (cm 49 aal (aN 12 2050) [[1,0,0,3,4,5,6,7,8,9,10,11,0]] (@Pz C) bS)
theorem aHH(C:af):bt C (aoA C) 48 (Lp [1,1,0,1,0,0,1,1,0,0,1,1,0,0] 48):=cj aak (aN 16 4128) [[1,2,3,4,5,0,0,7,8,9,10,11,12,0,14,15,16]] (@Px C) (aY ak)
theorem aHI(C:af):bt C (aoA C) 48 (Lp [1,1,0,1,0,0] 48):=cj aal (aN 12 2050) [[1,0,0,3,4,5,6,7,8,9,10,11,0]] (@Pz C) (aY (br (aHH C) ak))
noncomputable def aoB(C:af)(aO eG:Int)(bP:LV)(bQ:Int):Option LV:=
 (C 51 [vI aO,vI eG,ab bP,vI bQ]).bind fun r1=>
 (Loop (VY C ((D6 r1).length:Int) (jq r1) (LB r1) 0 0 (gI r1) (dm r1) ([]:LV) ([]:LV) (G3 r1)) (0,(D6 r1))).bind (un fun Mh=>un fun(aoe:Bool) (Ep:LV)=>
  some [vI (gI r1),vI 0,ab (jq r1),vI (LB r1),au (G3 r1),aq Ep])
theorem aHJ{aO eG:Int}{bP:LV}{bQ:Int}{r:Option LV}(h:aoB CC aO eG bP bQ=r):CC 48 [vI aO,vI eG,ab bP,vI bQ]=r:=bR (br (aHI CC) ak) h
theorem aeZ{N:List (List Nat)}:(dB N).length=N.length:=by simp[dB]
theorem aHK{N:List (List Nat)}{q:Nat}{r:List Nat}(hq:q<N.length):(dB (N.set q r))[q]? =some (ab (nS r)):=by simp[dB,hq]
theorem aHL(t:Tp){L m:Nat}(h1:1≤L)(h6:L≤6)(hm:1≤m)(AX:m≤50):∃(F:List Bool) (N:List (List Nat)) (u:Tp),FN L F N∧N.length≤m∧
  CC 48 [vI (L:Int),vI (m:Int),t.L,t.K]=some [vI (L:Int),vI 0,u.L,u.K,au (F.map V.bool),aq (dB N)]:=by
 obtain⟨F,N0,st,u,hF,hNm,fB,e0⟩:=aoz t h1 h6 hm AX;obtain⟨n,hn⟩:∃n,n=N0.length:=⟨_,rfl⟩
 have aoC:=hF.row;rw[←hn]at aoC;have inner:∀{N:List (List Nat)} {q:Nat},N.length=n→q<n→(∀r∈N,r.length=L∧∀y∈r,y<n)→∃r:List Nat,r.length=L∧(∀y∈r,y<n)∧
   Loop (Py CC (q:Int) (n:Int) (q:Int) q (L:Int) (u.l.map iV) (u.k:Int) 0 0 (L:Int) (st:Int) [] [] (F.map V.bool)) (0,dB N)=some ((L:Int),false,dB (N.set q r)):=by
  intro N q hN hq ed;have hqr:=ed N[q] (fx (by omega));have key:=gH (step:=Py CC (q:Int) (n:Int) (q:Int) q (L:Int) (u.l.map iV) (u.k:Int) 0 0 (L:Int) (st:Int) [] [] (F.map V.bool)) (fun j x=> ∃r:List Nat,r.length=L∧(∀y∈r,y<n)∧x=((j:Int),dB (N.set q r)))
   (fun o=> ∃r:List Nat,r.length=L∧(∀y∈r,y<n)∧o=((L:Int),false,dB (N.set q r))) L 0 (0,dB N) (fun j _ hj x hx=> ?_) (fun x hx=> ?_) ⟨N[q],hqr.1,hqr.2,by rw[List.set_getElem_self];rfl⟩
  ·obtain⟨o,e,r,a1,a2,rfl⟩:=key;exact⟨r,a1,a2,e⟩
  ·obtain⟨r,a1,a2,rfl⟩:=hx;have ja:j<r.length:=by omega
   have hg:=aHK (N:=N) (q:=q) (r:=r) (by omega);have Fj:=tm hg;have RH:=a2 _ (fx ja);have VZ:(ab (nS r)).toList[((j:Int)).toNat]? =some (nV r[j]):=by rw[V.fa,Int.toNat_natCast];exact EB ja
   have hb:(decide (0≤(j:Int))&&decide ((j:Int)<((ab (nS r)).toList.length:Int)))=true:=by rw[V.fa];exact qj (by rw[ff];exact ja)
   have pU:setRow Tryz.prog (aG (ab (nS r)).toList (j:Int) (vI (if(nV r[j]).toInt>(q:Int)then(nV r[j]).toInt else(q:Int)))) 22 (dB (N.set q r)) [((q:Int).toNat,0)]=dB (N.set q (r.set j (if r[j]>q then r[j]else q))):=by
    rw[Int.toNat_natCast,Nu hg,V.fa];have hv:(vI (if(nV r[j]).toInt>(q:Int)then(nV r[j]).toInt else(q:Int)))=nV (if r[j]>q then r[j]else q):=by
     show vI (if((r[j]:Nat):Int)>(q:Int)then((r[j]:Nat):Int)else(q:Int))=vI ((if r[j]>q then r[j]else q:Nat):Int);by_cases c:r[j]>q
     ·rw[aP c,aP (by omega)]
     ·rw[aM c,aM (by omega)]
    rw[hv];simp only[aG,Int.toNat_natCast,dB,List.map_set];rw[List.set_set];simp[nS]
   simp only[Py,Px,un];refine⟨_,bT (cF (by omega)) (bs Fj (bT hb (bs Fj (bs (a:=nV r[j]) VZ ((aU hg).trans (bs (by rw[Int.toNat_natCast];exact Fj) (bT hb (bs (by rw[Int.toNat_natCast];exact Fj) (bs (a:=nV r[j]) VZ rfl))))))))),r.set j (if r[j]>q then r[j]else q),by rw[wH,a1],fun y hy=> ?_,?_⟩
   ·rcases P6 hy with hy|rfl
    ·exact a2 y hy
    ·split
     ·exact RH
     ·exact hq
   ·rw[bY (by omega)];exact dX rfl pU
  ·obtain⟨r,a1,a2,rfl⟩:=hx;rw[cL]at*
   simp only[Py,Px,un];exact⟨_,bF (cf (aR _)) rfl,r,a1,a2,dX rfl (dX (cf (aR _)) rfl)⟩
 have key:=gH (step:=VY CC (n:Int) (u.l.map iV) (u.k:Int) 0 0 (L:Int) (st:Int) [] [] (F.map V.bool)) (fun q x=> ∃N:List (List Nat),N.length=n∧(∀r∈N,r.length=L∧∀y∈r,y<n)∧x=((q:Int),dB N))
  (fun o=> ∃N:List (List Nat),N.length=n∧(∀r∈N,r.length=L∧∀y∈r,y<n)∧o=((n:Int),false,dB N)) n 0 (0,dB N0) (fun q _ hq x hx=> ?_) (fun x hx=> ?_) ⟨N0,hn.symm,aoC,rfl⟩
 ·obtain⟨o,e,N,a1,a2,rfl⟩:=key;refine⟨F,N,u,⟨by rw[hF.len,←hn,a1],by rw[a1,hn];exact hF.pos,fun r hr=>by rw[a1];exact a2 r hr⟩,by omega,aHJ ?_⟩;unfold aoB;refine bs e0 ?_;have hl:((gL ((([vI (L:Int),vI (st:Int),u.L,u.K,au (F.map V.bool),aq (dB N0)].drop 2).drop 2).drop 1)).length:Int)=(n:Int):=by show((dB N0).length:Int)=_;rw[aeZ,hn]
  rw[hl];exact bs e rfl
 ·obtain⟨N,a1,a2,rfl⟩:=hx;have eC:q<n:=by omega
  obtain⟨r,b1,b2,e⟩:=inner a1 eC a2;have hg:(dB N)[q]? =some (ab (nS N[q])):=by simp[dB,a1,eC]
  have RA:=(a2 N[q] (fx (by omega))).1;simp only[VY,Pz,un];have hlen:((ab (nS N[q])).toList.length:Int)=(L:Int):=by rw[V.fa,ff,RA]
  refine⟨(((q+1:Nat):Int),dB (N.set q r)),bT (cF eC) ((aU hg).trans (bs (by rw[Int.toNat_natCast];exact tm hg) ?_)),N.set q r,by rw[wH,a1],fun s hs=> ?_,rfl⟩
  ·rw[hlen,Int.toNat_natCast];refine bs e ?_;rw[bY (by omega)];rfl
  ·rcases P6 hs with hs|rfl
   ·exact a2 s hs
   ·exact⟨b1,b2⟩
 ·obtain⟨N,a1,a2,rfl⟩:=hx;rw[cL]at*
  simp only[VY,Pz,un];exact⟨_,bF (cf (aR _)) rfl,N,a1,a2,dX rfl (dX (cf (aR _)) rfl)⟩
noncomputable def PA(C:af)(aO n fu fv cD cJ:Int)(aj aS:LV)(q:Int)(bP:LV)(bQ:Int)(aw aC:LV){β:Type}(kn:ay (Int×LV×Int×LV×LV) β)(kr:ay (Int×Bool×LV×Int×LV×LV) β):Option β:=
 bif decide (q<n)then
  (C 18 [vI 2,ab bP,vI bQ]).bind fun r3=>
  bif Nat.ble ((aw.length+([.bool (((gI r3):Int)==1)]:LV).length)*1) bf then
  bif (decide (0≤aO))&&((decide (aO≤aO))&&(Nat.ble ((aO.toNat)*8) bf))then
   bif Nat.ble ((aC.length+1)*24) bf then
   kn (wrap .i64 (q+1),(dw r3),(jo r3),aw++([.bool (((gI r3):Int)==1)]:LV),aC++([ab (List.replicate (aO.toNat) (vI 0))]:LV))
   else none
  else none
  else none
 else
  kr (q,decide (q<n),bP,bQ,aw,aC)
noncomputable def PB(C:af)(aO n fu fv cD cJ:Int)(aj aS:LV):=un fun q=>un fun bP=>un fun bQ=>un fun aw aC=>PA C aO n fu fv cD cJ aj aS q bP bQ aw aC ct cu
noncomputable def PC(C:af)(aO n a:Int)(bP:LV)(bQ fu fv cD cJ:Int)(aS aw aC aH:LV)(q:Int)(nT:LV){β:Type}(kn:ay (Int×LV) β)(kr:ay (Int×Bool×LV) β):Option β:=
 bif decide (q<n)then
  bif Nat.ble ((nT.length+([vI q]:LV).length)*8) bf then
  kn (wrap .i64 (q+1),nT++([vI q]:LV))
  else none
 else
  kr (q,decide (q<n),nT)
noncomputable def V0(C:af)(aO n a:Int)(bP:LV)(bQ fu fv cD cJ:Int)(aS aw aC aH:LV):=un fun q nT=>PC C aO n a bP bQ fu fv cD cJ aS aw aC aH q nT ct cu
noncomputable def PD(C:af)(aO n a fu fv cD cJ:Int)(aS aw aC:LV)(q:Int)(bP:LV)(bQ:Int)(nT aH:LV){β:Type}(kn:ay (Int×LV×Int×LV×LV) β)(kr:ay (Int×Bool×LV×Int×LV×LV) β):Option β:=
 bif decide (q<n)then
  (C 18 [vI (nT.length:Int),ab bP,vI bQ]).bind fun jL=>
  aL aH q fun pJ=>
  aL nT (gI jL) fun uP=>
  (ec Tryz.prog 22 aH [(q.toNat,0)]).bind fun nz=>
  bif (decide (0≤a))&&(decide (a<(nz.toList.length:Int)))then
  (ec Tryz.prog 22 aH [(q.toNat,0)]).bind fun pF=>
  (pF.toList[a.toNat]?).bind fun wg=>
  bif (decide (0≤(gI jL)))&&(decide ((gI jL)≤(nT.length:Int)))then
   bif Nat.ble ((([]:LV).length+((nT.drop 0).take ((((gI jL):Int).toNat)-0)).length)*8) bf then
   bif (decide (0≤(wrap .i64 ((gI jL)+1))))&&(decide ((wrap .i64 ((gI jL)+1))≤(nT.length:Int)))then
    bif Nat.ble (((([]:LV)++((nT.drop 0).take ((((gI jL):Int).toNat)-0))).length+((nT.drop ((wrap .i64 ((gI jL)+1):Int).toNat)).take (nT.length-((wrap .i64 ((gI jL)+1):Int).toNat))).length)*8) bf then
    kn (wrap .i64 (q+1),(dw jL),(jo jL),(([]:LV)++((nT.drop 0).take ((((gI jL):Int).toNat)-0)))++((nT.drop ((wrap .i64 ((gI jL)+1):Int).toNat)).take (nT.length-((wrap .i64 ((gI jL)+1):Int).toNat))),setRow Tryz.prog (aG pF.toList a (vI uP.toInt)) 22 aH [(q.toNat,0)])
    else none
   else none
   else none
  else none
  else none
 else
  kr (q,decide (q<n),bP,bQ,nT,aH)
noncomputable def PE(C:af)(aO n a fu fv cD cJ:Int)(aS aw aC:LV):=un fun q=>un fun bP=>un fun bQ=>un fun nT aH=>PD C aO n a fu fv cD cJ aS aw aC q bP bQ nT aH ct cu
noncomputable def PF(C:af)(aO n fu fv cD cJ:Int)(aj aS aw:LV)(a:Int)(bP:LV)(bQ:Int)(aC:LV){β:Type}(kn:ay (Int×LV×Int×LV) β)(kr:ay (Int×Bool×LV×Int×LV) β):Option β:=
 bif decide (a<aO)then
  (Loop (V0 C aO n a bP bQ fu fv cD cJ aj aS aw aC) (0,([]:LV))).bind (un fun aHC=>un fun(Mg:Bool) (aHM:LV)=>
   (Loop (PE C aO n a fu fv cD cJ aj aS aw) (0,bP,bQ,aHM,aC)).bind (un fun aJn=>un fun(aJo:Bool)=>un fun(aHN:LV)=>un fun aHO=>un fun(aJp:LV) (HE:LV)=>
    kn (wrap .i64 (a+1),aHN,aHO,HE)))
 else
  kr (a,decide (a<aO),bP,bQ,aC)
noncomputable def V1(C:af)(aO n fu fv cD cJ:Int)(aj aS aw:LV):=un fun a=>un fun bP=>un fun bQ aC=>PF C aO n fu fv cD cJ aj aS aw a bP bQ aC ct cu
noncomputable def V2(C:af):da:=cm 81 aam (aN 13 6172) [[1,2,0,0,0,0,6,7,8,9,10,11,0,0]] (@PA C) (cm 209 aan (aN 15 1032) [[1,2,3,0,0,5,6,7,8,9,10,0,12,13,14,15]] (@PC C) (cm 273 aao (aN 15 17464) [[1,2,3,0,0,0,0,7,8,9,10,0,12,13,14,0]] (@PD C) (cm 145 aap (aN 13 4124) [[1,2,0,0,0,0,6,7,8,9,10,11,12,0]] (@PF C) bS)))
theorem aHP(C:af):bt C (V2 C) 49 (Lp [1,1,1,1,0,1,0,0] 49):=cj aam (aN 13 6172) [[1,2,0,0,0,0,6,7,8,9,10,11,0,0]] (@PA C) (aY ak)
theorem aHQ(C:af):bt C (V2 C) 49 (Lp [1,1,1,1,1,0,1,0,0,1,0,0,1,0,1,0,0] 49):=cj aan (aN 15 1032) [[1,2,3,0,0,5,6,7,8,9,10,0,12,13,14,15]] (@PC C) (aY ak)
theorem aHR(C:af):bt C (V2 C) 49 (Lp [1,1,1,1,1,0,1,0,0,1,0,0,1,1,1,0,0] 49):=cj aao (aN 15 17464) [[1,2,3,0,0,0,0,7,8,9,10,0,12,13,14,0]] (@PD C) (aY ak)
theorem aHS(C:af):bt C (V2 C) 49 (Lp [1,1,1,1,1,0,1,0,0] 49):=cj aap (aN 13 4124) [[1,2,0,0,0,0,6,7,8,9,10,11,12,0]] (@PF C) (aY (br (aHQ C) (br (aHR C) ak)))
noncomputable def aoD(C:af)(aO eG:Int)(bP:LV)(bQ:Int):Option LV:=
 (C 18 [vI eG,ab bP,vI bQ]).bind fun r1=>
 (C 18 [vI (wrap .i64 (1+(gI r1))),ab (dw r1),vI (jo r1)]).bind fun r2=>
 (Loop (PB C aO (wrap .i64 (1+(gI r1))) 0 0 aO (gI r2) ([]:LV) ([]:LV)) (0,(dw r2),(jo r2),([]:LV),([]:LV))).bind (un fun q_4=>un fun(jV:Bool)=>un fun(abG:LV)=>un fun IG=>un fun(Ht:LV) (Eo:LV)=>
  (Loop (V1 C aO (wrap .i64 (1+(gI r1))) 0 0 aO (gI r2) ([]:LV) ([]:LV) Ht) (0,abG,IG,Eo)).bind (un fun aJq=>un fun(ad0:Bool)=>un fun(aHT:LV)=>un fun(aHU:Int) (aHV:LV)=>
   some [vI aO,vI (gI r2),ab aHT,vI aHU,au Ht,aq aHV]))
theorem aHW{aO eG:Int}{bP:LV}{bQ:Int}{r:Option LV}(h:aoD CC aO eG bP bQ=r):CC 49 [vI aO,vI eG,ab bP,vI bQ]=r:=bR (br (aHP CC) (br (aHS CC) ak)) h
theorem aHX(l:List Nat)(k:Nat):((([]:LV)++((nS l).drop 0).take (k-0))++((nS l).drop (k+1)).take ((nS l).length-(k+1)))=nS (l.take k++l.drop (k+1)):=by
 have h:((nS l).drop (k+1)).take ((nS l).length-(k+1))=(nS l).drop (k+1):=P3 (by grind);rw[wF,Nat.sub_zero,List.nil_append,h];simp[nS,List.map_take,List.map_drop]
theorem aHY(t:Tp){L m:Nat}(h1:1≤L)(h6:L≤6)(hm:1≤m)(AX:m≤50):∃(F:List Bool) (N:List (List Nat)) (st:Nat) (u:Tp),FN L F N∧N.length≤m∧st<N.length∧
  CC 49 [vI (L:Int),vI (m:Int),t.L,t.K]=some [vI (L:Int),vI (st:Int),u.L,u.K,au (F.map V.bool),aq (dB N)]:=by
 obtain⟨v,t1,hv,e1⟩:=rY t (n:=m) hm (by omega);obtain⟨st,t2,fB,e2⟩:=rY t1 (n:=v+1) (by omega) (by omega);obtain⟨n,hn⟩:∃n,n=v+1:=⟨_,rfl⟩
 rw[←hn]at fB e2;have l1:∃(F:List Bool) (N:List (List Nat)) (u:Tp),F.length=n∧N.length=n∧(∀r∈N,r.length=L∧∀y∈r,y<n)∧
   Loop (PB CC (L:Int) (n:Int) 0 0 (L:Int) (st:Int) [] []) (0,t2.l.map iV,(t2.k:Int),([]:LV),([]:LV))=some ((n:Int),false,u.l.map iV,(u.k:Int),F.map V.bool,dB N):=by
  have key:=gH (step:=PB CC (L:Int) (n:Int) 0 0 (L:Int) (st:Int) [] []) (fun i x=> ∃(F:List Bool) (N:List (List Nat)) (u:Tp),F.length=i∧N.length=i∧(∀r∈N,r.length=L∧∀y∈r,y<n)∧x=((i:Int),u.l.map iV,(u.k:Int),F.map V.bool,dB N))
   (fun o=> ∃(F:List Bool) (N:List (List Nat)) (u:Tp),F.length=n∧N.length=n∧(∀r∈N,r.length=L∧∀y∈r,y<n)∧o=((n:Int),false,u.l.map iV,(u.k:Int),F.map V.bool,dB N)) n 0 (0,t2.l.map iV,(t2.k:Int),([]:LV),([]:LV)) (fun i _ hi x hx=> ?_) (fun x hx=> ?_) ⟨[],[],t2,rfl,rfl,fun _ h=>(by cases h),rfl⟩
  ·obtain⟨o,e,F,N,u,a1,a2,a3,rfl⟩:=key;exact⟨F,N,u,a1,a2,a3,e⟩
  ·obtain⟨F,N,u,a1,a2,a3,rfl⟩:=hx;obtain⟨k,u2,hk,e⟩:=rY u (n:=2) (by omega) (by omega);simp only[PB,PA,un];refine⟨(((i+1:Nat):Int),u2.l.map iV,(u2.k:Int),F.map V.bool++[.bool ((k:Int)==1)],dB N++[ab (List.replicate L (vI 0))]),bT (cF (by omega)) (bs e (bT (cap (a:=(F.map V.bool).length) (b:=1) (by rw[dD];omega) (by omega)) (bT (iB (by omega) (by omega)) (bT (cap (a:=(dB N).length) (b:=1) (by rw[aeZ];omega) (by omega)) ?_)))),F++[(k:Int)==1],N++[List.replicate L 0],u2,by simp;omega,by simp;omega,fun s hs=> ?_,?_⟩
   ·rw[bY (by omega),Int.toNat_natCast];rfl
   ·rcases fQ.1 hs with hs|hs
    ·exact a3 s hs
    ·rw[iY.1 hs];exact⟨by simp,fun y hy=>by rw[(List.mem_replicate.1 hy).2];omega⟩
   ·simp[dB,nS,nV]
  ·obtain⟨F,N,u,a1,a2,a3,rfl⟩:=hx;rw[cL]at*
   simp only[PB,PA,un];exact⟨_,bF (cf (aR _)) rfl,F,N,u,a1,a2,a3,dX rfl (dX (cf (aR _)) rfl)⟩
 obtain⟨F,N0,u0,f1,f2,f3,eL1⟩:=l1;have l2:∀{x1 x2 x3 x4 x5 x6:Int} {y0 y1 y2 y3 y4:LV},Loop (V0 CC (L:Int) (n:Int) x1 y0 x2 x3 x4 x5 x6 y1 y2 y3 y4) (0,([]:LV))=some ((n:Int),false,nS (List.range n)):=by
  intro x1 x2 x3 x4 x5 x6 y0 y1 y2 y3 y4;refine gp n (fun i=>((i:Int),nS (List.range i))) _ (fun i hi=> ?_) ?_
  ·simp only[V0,PC,un];refine bT (cF hi) (bT (cap (a:=(nS (List.range i)).length) (b:=1) (by rw[ff,qx];omega) (by omega)) ?_);rw[bY (by omega),Fy];simp[nS,nV]
  ·simp only[V0,PC,un];refine bF (cf (aR _)) ?_;rw[cf (aR _)]
 have l3:∀{a:Nat} (ha:a<L) {N:List (List Nat)} {w:Tp},N.length=n→(∀r∈N,r.length=L∧∀y∈r,y<n)→∃(N':List (List Nat)) (u:Tp) (l:LV),N'.length=n∧(∀r∈N',r.length=L∧∀y∈r,y<n)∧
   Loop (PE CC (L:Int) (n:Int) (a:Int) 0 0 (L:Int) (st:Int) [] [] (F.map V.bool)) (0,w.l.map iV,(w.k:Int),nS (List.range n),dB N)=some ((n:Int),false,u.l.map iV,(u.k:Int),l,dB N'):=by
  intro a ha N w hN ed;have key:=gH (step:=PE CC (L:Int) (n:Int) (a:Int) 0 0 (L:Int) (st:Int) [] [] (F.map V.bool)) (fun q x=> ∃(N':List (List Nat)) (u:Tp) (l:List Nat),N'.length=n∧(∀r∈N',r.length=L∧∀y∈r,y<n)∧l.length=n-q∧(∀y∈l,y<n)∧x=((q:Int),u.l.map iV,(u.k:Int),nS l,dB N'))
   (fun o=> ∃(N':List (List Nat)) (u:Tp) (l:LV),N'.length=n∧(∀r∈N',r.length=L∧∀y∈r,y<n)∧o=((n:Int),false,u.l.map iV,(u.k:Int),l,dB N')) n 0 (0,w.l.map iV,(w.k:Int),nS (List.range n),dB N) (fun q _ hq x hx=> ?_) (fun x hx=> ?_) ⟨N,w,List.range n,hN,ed,by simp,fun y hy=>gM.1 hy,rfl⟩
  ·obtain⟨o,e,N',u,l,a1,a2,rfl⟩:=key;exact⟨N',u,l,a1,a2,e⟩
  ·obtain⟨N',u,l,a1,a2,a3,a4,rfl⟩:=hx;have eC:q<n:=by omega
   obtain⟨k,u2,hk,e⟩:=rY u (n:=l.length) (by omega) (by omega);have hg:(dB N')[q]? =some (ab (nS N'[q])):=by simp[dB,a1,eC]
   have hr:=a2 N'[q] (fx (by omega));have Fj:=tm hg;have Kh:=a4 _ (fx hk);have har:a<(N'[q]).length:=by rw[hr.1];exact ha
   have VZ:(ab (nS N'[q])).toList[((a:Int)).toNat]? =some (nV (N'[q])[a]):=by rw[V.fa,Int.toNat_natCast];exact EB har
   have hb:(decide (0≤(a:Int))&&decide ((a:Int)<((ab (nS N'[q])).toList.length:Int)))=true:=by rw[V.fa];exact qj (by rw[ff];exact har)
   have hw1:wrap .i64 ((k:Int)+1)=((k+1:Nat):Int):=bY (by omega);have pU:setRow Tryz.prog (aG (ab (nS N'[q])).toList (a:Int) (vI (nV l[k]).toInt)) 22 (dB N') [((q:Int).toNat,0)]=dB (N'.set q ((N'[q]).set a l[k])):=by
    rw[Int.toNat_natCast,Nu hg,V.fa];simp[aG,dB,List.map_set,nS,nV]
   simp only[PE,PD,un];refine⟨(((q+1:Nat):Int),u2.l.map iV,(u2.k:Int),nS (l.take k++l.drop (k+1)),dB (N'.set q ((N'[q]).set a l[k]))),bT (cF eC) ?_,N'.set q ((N'[q]).set a l[k]),u2,l.take k++l.drop (k+1),by rw[wH,a1],fun s hs=> ?_,by rw[kG,u6,List.length_drop];omega,fun y hy=> ?_,rfl⟩
   ·rw[ff];refine bs e ((aU hg).trans ((aU (i:=k) (EB hk)).trans (bs (by rw[Int.toNat_natCast];exact Fj) (bT hb (bs (by rw[Int.toNat_natCast];exact Fj) (bs (a:=nV (N'[q])[a]) VZ ?_))))));have xj:(gI [vI (k:Int),u2.L,u2.K])=(k:Int):=rfl;simp only[xj,hw1,Int.toNat_natCast];refine bT (u7.2 ⟨bj (by omega),bj (by omega)⟩) (bT (cap (a:=0) (by rw[u6];simp;omega) (by omega)) (bT (u7.2 ⟨bj (by omega),bj (by omega)⟩) (bT (cap (by rw[kG,u6,u6,List.length_drop,List.length_drop,ff];simp;omega) (by omega)) ?_)));rw[bY (by omega)];have aoE:=pU;rw[Int.toNat_natCast]at aoE;refine congrArg (fun z=>some (Sum.inl z)) (dX rfl (dX rfl (dX rfl (dX ?_ aoE))));have:=aHX l k;rw[ff]at this;exact this
   ·rcases P6 hs with hs|rfl
    ·exact a2 s hs
    ·refine⟨by rw[wH,hr.1],fun y hy=> ?_⟩;rcases P6 hy with hy|rfl
     ·exact hr.2 y hy
     ·exact Kh
   ·rcases fQ.1 hy with hy|hy
    ·exact a4 y (List.mem_of_mem_take hy)
    ·exact a4 y (List.mem_of_mem_drop hy)
  ·obtain⟨N',u,l,a1,a2,a3,a4,rfl⟩:=hx;rw[cL]at*
   simp only[PE,PD,un];exact⟨_,bF (cf (aR _)) rfl,N',u,nS l,a1,a2,dX rfl (dX (cf (aR _)) rfl)⟩
 have key:=gH (step:=V1 CC (L:Int) (n:Int) 0 0 (L:Int) (st:Int) [] [] (F.map V.bool)) (fun a x=> ∃(N':List (List Nat)) (u:Tp),N'.length=n∧(∀r∈N',r.length=L∧∀y∈r,y<n)∧x=((a:Int),u.l.map iV,(u.k:Int),dB N'))
  (fun o=> ∃(N':List (List Nat)) (u:Tp),N'.length=n∧(∀r∈N',r.length=L∧∀y∈r,y<n)∧o=((L:Int),false,u.l.map iV,(u.k:Int),dB N')) L 0 (0,u0.l.map iV,(u0.k:Int),dB N0) (fun a _ ha x hx=> ?_) (fun x hx=> ?_) ⟨N0,u0,f2,f3,rfl⟩
 ·obtain⟨o,e,N,u,a1,a2,rfl⟩:=key;refine⟨F,N,st,u,⟨by omega,by omega,fun r hr=>by rw[a1];exact a2 r hr⟩,by omega,by omega,aHW ?_⟩;unfold aoD;have hw:wrap .i64 (1+(gI [vI (v:Int),t1.L,t1.K]))=(n:Int):=by
   show wrap .i64 (1+(v:Int))=_;rw[show(1+(v:Int))=(n:Int) by omega];exact wrap64 (by omega) (by omega)
  refine bs e1 ?_;rw[hw];exact bs e2 (bs eL1 (bs e rfl))
 ·obtain⟨N',u,a1,a2,rfl⟩:=hx;obtain⟨N2,u2,l,b1,b2,e⟩:=l3 (a:=a) (by omega) (w:=u) a1 a2;simp only[V1,PF,un];refine⟨_,bT (cF (by omega)) (bs l2 (bs e rfl)),N2,u2,b1,b2,?_⟩;exact dX (bY (by omega)) rfl
 ·obtain⟨N',u,a1,a2,rfl⟩:=hx;rw[cL]at*
  simp only[V1,PF,un];exact⟨_,bF (cf (aR _)) rfl,N',u,a1,a2,dX rfl (dX (cf (aR _)) rfl)⟩
noncomputable def PH(C:af)(aO:Int)(w:List UInt8)(a:Int)(v:List UInt8)(t23 t24 t51:Int)(bP:LV)(bQ jF jG cD cJ:Int)(ls rows aw aC aH bB:LV)(to t52:Int){β:Type}(kn:ay (Int×Int) β)(kr:ay (Int×Int×Bool) β):Option β:=
 bif decide (t52<t51)then
  aL ls t52 fun x5=>
  bif x5.toStr==v then
  kn (t52,wrap .i64 (t52+1))
  else
  kn (to,wrap .i64 (t52+1))
 else
  kr (to,t52,decide (t52<t51))
noncomputable def V3(C:af)(aO:Int)(w:List UInt8)(a:Int)(v:List UInt8)(t23 t24 t51:Int)(bP:LV)(bQ jF jG cD cJ:Int)(ls rows aw aC aH bB:LV):=un fun to t52=>PH C aO w a v t23 t24 t51 bP bQ jF jG cD cJ ls rows aw aC aH bB to t52 ct cu
noncomputable def Fk(C:af)(aO:Int)(w:List UInt8)(a t23 t24:Int)(bP:LV)(bQ jF jG cD cJ:Int)(ls rows aw aC aH bB:LV)(v:List UInt8)(to:Int){β:Type}(kn:ay ((List UInt8)×Int) β)(kr:ay ((List UInt8)×Int×Bool) β):Option β:=
 bif to==(-1)then
  (Loop (V3 C aO w a v t23 t24 (ls.length:Int) bP bQ jF jG cD cJ ls rows aw aC aH bB) (to,0)).bind (un fun aHZ=>un fun(v7:Int) (BO:Bool)=>
   bif decide (1≤(v.length:Int))then
   kn ((v.drop 1).take (v.length-1),aHZ)
   else none)
 else
  kr (v,to,to==(-1))
noncomputable def Fl(C:af)(aO:Int)(w:List UInt8)(a t23 t24:Int)(bP:LV)(bQ jF jG cD cJ:Int)(ls rows aw aC aH bB:LV):=un fun v to=>Fk C aO w a t23 t24 bP bQ jF jG cD cJ ls rows aw aC aH bB v to ct cu
noncomputable def PI(C:af)(aO:Int)(w:List UInt8)(t23 t24:Int)(bP:LV)(bQ jF jG cD cJ:Int)(ls aw aC aH bB:LV)(a:Int)(rows:LV){β:Type}(kn:ay (Int×LV) β)(kr:ay (Int×Bool×LV) β):Option β:=
 bif decide (a<aO)then
  bif Nat.ble (w.length+(mu ([.int .u8 (wrap .u8 (wrap .i64 (97+a)))]:LV)).length) ry then
  (Loop (Fl C aO w a t23 t24 bP bQ jF jG cD cJ ls rows aw aC aH bB) (w++(mu ([.int .u8 (wrap .u8 (wrap .i64 (97+a)))]:LV)),(-1))).bind (un fun(v_9:List UInt8)=>un fun(aoF:Int) (Mg:Bool)=>
   bif Nat.ble ((rows.length+([vI aoF]:LV).length)*8) bf then
    kn (wrap .i64 (a+1),rows++([vI aoF]:LV))
   else none)
  else none
 else
  kr (a,decide (a<aO),rows)
noncomputable def V4(C:af)(aO:Int)(w:List UInt8)(t23 t24:Int)(bP:LV)(bQ jF jG cD cJ:Int)(ls aw aC aH bB:LV):=un fun a rows=>PI C aO w t23 t24 bP bQ jF jG cD cJ ls aw aC aH bB a rows ct cu
noncomputable def PJ(C:af)(aO t23 jF jG cD cJ:Int)(ls aS aw:LV)(t24:Int)(bP:LV)(bQ:Int)(aC aH:LV){β:Type}(kn:ay (Int×LV×Int×LV×LV) β)(kr:ay (Int×Bool×LV×Int×LV×LV) β):Option β:=
 bif decide (t24<t23)then
  aL ls t24 fun x3=>
  (C 18 [vI 2,ab bP,vI bQ]).bind fun r4=>
  bif Nat.ble ((aC.length+([.bool (((gI r4):Int)==1)]:LV).length)*1) bf then
  (Loop (V4 C aO x3.toStr t23 t24 (dw r4) (jo r4) jF jG cD cJ ls aS aw (aC++([.bool (((gI r4):Int)==1)]:LV)) aH) (0,([]:LV))).bind (un fun aJr=>un fun(Er:Bool) (aH0:LV)=>
   bif Nat.ble ((aH.length+1)*24) bf then
    kn (wrap .i64 (t24+1),(dw r4),(jo r4),aC++([.bool (((gI r4):Int)==1)]:LV),aH++([ab aH0]:LV))
   else none)
  else none
 else
  kr (t24,decide (t24<t23),bP,bQ,aC,aH)
noncomputable def PK(C:af)(aO t23 jF jG cD cJ:Int)(ls aS aw:LV):=un fun t24=>un fun bP=>un fun bQ=>un fun aC aH=>PJ C aO t23 jF jG cD cJ ls aS aw t24 bP bQ aC aH ct cu
noncomputable def V5(C:af):da:=cm 241 aaq (aN 21 272) [[1,2,3,4,0,6,7,8,0,0,10,11,12,13,14,15,16,17,18,19,20,21]] (@PH C) (cm 209 aar (aN 19 24) [[1,2,3,0,0,6,7,0,8,9,10,11,12,13,14,15,16,17,18,19]] (@Fk C) (cm 145 aas (aN 17 4100) [[1,2,0,4,5,0,6,7,8,9,10,11,12,0,14,15,16,17]] (@PI C) (cm 65 aat (aN 14 12316) [[1,2,0,0,0,0,6,7,8,9,10,11,12,0,0]] (@PJ C) bS)))
theorem aH1(C:af):bt C (V5 C) 50 (Lp [1,1,1,0,1,0,0,1,1,0,0,1,1,1,0,1,0,0,1,0,0,1,1,0,0,0,1,0,0,1,0,0] 50):=cj aaq (aN 21 272) [[1,2,3,4,0,6,7,8,0,0,10,11,12,13,14,15,16,17,18,19,20,21]] (@PH C) (aY ak)
theorem aH2(C:af):bt C (V5 C) 50 (Lp [1,1,1,0,1,0,0,1,1,0,0,1,1,1,0,1,0,0,1,0,0,1,1,0,0,0] 50):=cj aar (aN 19 24) [[1,2,3,0,0,6,7,0,8,9,10,11,12,13,14,15,16,17,18,19]] (@Fk C) (aY (br (aH1 C) ak))
theorem aH3(C:af):bt C (V5 C) 50 (Lp [1,1,1,0,1,0,0,1,1,0,0,1,1,1,0,1,0,0] 50):=cj aas (aN 17 4100) [[1,2,0,4,5,0,6,7,8,9,10,11,12,0,14,15,16,17]] (@PI C) (aY (br (aH2 C) ak))
theorem aH4(C:af):bt C (V5 C) 50 (Lp [1,1,1,0,1,0,0] 50):=cj aat (aN 14 12316) [[1,2,0,0,0,0,6,7,8,9,10,11,12,0,0]] (@PJ C) (aY (br (aH3 C) ak))
noncomputable def aoG(C:af)(aO:Int)(bP:LV)(bQ:Int):Option LV:=
 (C 18 [vI 2,ab bP,vI bQ]).bind fun r1=>
 (C 101 [vI aO,vI (wrap .i64 (1+(gI r1)))]).bind fun r2=>
 (Loop (PK C aO ((gL r2).length:Int) 0 0 aO 0 (gL r2) ([]:LV) ([]:LV)) (0,(dw r1),(jo r1),([]:LV),([]:LV))).bind (un fun aoe=>un fun(abI:Bool)=>un fun(aof:LV)=>un fun aH5=>un fun(qi:LV) (lz:LV)=>
  some [vI aO,vI 0,ab aof,vI aH5,au qi,aq lz])
theorem aH6{aO:Int}{bP:LV}{bQ:Int}{r:Option LV}(h:aoG CC aO bP bQ=r):CC 50 [vI aO,ab bP,vI bQ]=r:=bR (br (aH4 CC) ak) h
def Fo(ws:List (List UInt8)):List UInt8→Nat
 | []=>0
 |c::p=>if(c::p)∈ws then ws.idxOf (c::p)else Fo ws p
section
variable {ws:List (List UInt8)}(hw:ws.length≤100)(kf:ws.Nodup)
include hw kf
theorem aoH{L a t23 t24 k x1 x2 x3 x4:Int}{w v:List UInt8}{y0 y1 y2 y3 y4 y5:LV}:Loop (V3 CC L w a v t23 t24 (ws.length:Int) y0 k x1 x2 x3 x4 (ws.map V.str) y1 y2 y3 y4 y5) (-1,0)=some (if v∈ws then((ws.idxOf v:Nat):Int)else-1,(ws.length:Int),false):=by
 have e0:(-1:Int)=if v∈ws.take 0 then((ws.idxOf v:Nat):Int)else-1:=by simp
 rw[show((-1:Int),(0:Int))=((if v∈ws.take 0 then((ws.idxOf v:Nat):Int)else-1),(0:Int)) by rw[←e0]];refine gp ws.length (fun j=>((if v∈ws.take j then((ws.idxOf v:Nat):Int)else-1),(j:Int))) _ (fun j hj=> ?_) ?_
 ·have hg:(ws.map V.str)[j]? =some (.str ws[j]):=by simp[hj]
  simp only[V3,PH,un];by_cases c:(ws[j]==v)=true
  ·have e:ws[j]=v:=by simpa using c
   have hi:ws.idxOf v=j:=by rw[←e];exact List.Nodup.idxOf_getElem kf _ hj
   refine bT (cF hj) ((aU hg).trans (bT c ?_));rw[bY (by omega),aP (by rw[u9 hj];exact Fu _ (iY.2 e.symm)),hi]
  ·have c':(ws[j]==v)=false:=by simpa using c
   have e:ws[j]≠v:=by simpa using c
   refine bT (cF hj) ((aU hg).trans (bF c' ?_));rw[bY (by omega)];refine congrArg (fun z=>some (Sum.inl (z,((j+1:Nat):Int)))) ?_;rw[u9 hj];by_cases h:v∈ws.take j
   ·rw[aP h,aP (Fv _ h)]
   ·rw[aM h,aM fun h2=>by
     rcases fQ.1 h2 with h2|h2
     ·exact h h2
     ·exact e (iY.1 h2).symm]
 ·simp only[V3,PH,un];rw[tH];refine bF (cf (aR _)) ?_;rw[cf (aR _)]
theorem aH7{L a t23 t24 k x1 x2 x3 x4:Int}{w:List UInt8}{y0 y1 y2 y3 y4 y5:LV}{b:UInt8}(hb:[b]∈ws):∀(p:List UInt8),∃v:List UInt8,
  Loop (Fl CC L w a t23 t24 y0 k x1 x2 x3 x4 (ws.map V.str) y1 y2 y3 y4 y5) (p++[b],-1)=some (v,((Fo ws (p++[b]):Nat):Int),false):=by
 have fin:∀{v:List UInt8} {i:Nat},Loop (Fl CC L w a t23 t24 y0 k x1 x2 x3 x4 (ws.map V.str) y1 y2 y3 y4 y5) (v,(i:Int))=some (v,(i:Int),false):=fun {v i}=>by
  refine lS ?_;simp only[Fl,Fk,un];have hf:((i:Int)==(-1))=false:=by rw[beq_eq_false_iff_ne];omega
  exact bF hf (by rw[hf])
 intro p
 induction p with
 |nil=>
  have e:=aoH hw kf (L:=L) (a:=a) (t23:=t23) (t24:=t24) (k:=k) (x1:=x1) (x2:=x2) (x3:=x3) (x4:=x4) (w:=w) (v:=[b]) (y0:=y0) (y1:=y1) (y2:=y2) (y3:=y3) (y4:=y4) (y5:=y5);rw[aP hb]at e;have hf:Fo ws ([]++[b])=ws.idxOf [b]:=aP hb;rw[hf];refine⟨[],(kY (y:=([],((ws.idxOf [b]:Nat):Int))) ?_).trans fin⟩;simp only[Fl,Fk,un];rw[dD];refine bT rfl (bs e ?_);simp only[un];exact bT rfl rfl
 |cons c p ih=>
  have e:=aoH hw kf (L:=L) (a:=a) (t23:=t23) (t24:=t24) (k:=k) (x1:=x1) (x2:=x2) (x3:=x3) (x4:=x4) (w:=w) (v:=c::(p++[b])) (y0:=y0) (y1:=y1) (y2:=y2) (y3:=y3) (y4:=y4) (y5:=y5);have hlen:decide (1≤(((c::(p++[b])).length:Nat):Int))=true:=bj (by simp;omega);have aoI:((c::(p++[b])).drop 1).take ((c::(p++[b])).length-1)=p++[b]:=by
   show(p++[b]).take _=_;exact P3 (by simp)
  by_cases hm:(c::(p++[b]))∈ws
  ·rw[aP hm]at e;have hf:Fo ws (c::p++[b])=ws.idxOf (c::(p++[b])):=aP hm;rw[hf];refine⟨p++[b],(kY ?_).trans fin⟩;simp only[Fl,Fk,un,List.cons_append];rw[dD];refine bT rfl (bs e (bT hlen ?_));rw[aoI]
  ·rw[aM hm]at e;have hf:Fo ws (c::p++[b])=Fo ws (p++[b]):=aM hm;rw[hf];obtain⟨v,e2⟩:=ih;refine⟨v,(kY ?_).trans e2⟩;simp only[Fl,Fk,un,List.cons_append];rw[dD];refine bT rfl (bs e (bT hlen ?_));rw[aoI]
end
def kX(ws:List (List UInt8))(L:Nat)(w:List UInt8):List Nat:=(List.range L).map fun a=>Fo ws (w++[UInt8.ofNat (97+a)])
theorem aH8{ws:List (List UInt8)}(hw:ws.length≤100)(kf:ws.Nodup)(pN:∀w∈ws,w.length≤100){L:Nat}(hL:L≤2)(aH9:∀a,a<L→[UInt8.ofNat (97+a)]∈ws)(t:Tp):∃(F:List Bool) (u:Tp),F.length=ws.length∧
  Loop (PK CC (L:Int) (ws.length:Int) 0 0 (L:Int) 0 (ws.map V.str) [] []) (0,t.l.map iV,(t.k:Int),([]:LV),([]:LV))=some ((ws.length:Int),false,u.l.map iV,(u.k:Int),F.map V.bool,dB (ws.map (kX ws L))):=by
 have aIa:∀a:Nat,a<L→mu ([.int .u8 (wrap .u8 (wrap .i64 (97+(a:Int))))]:LV)=[UInt8.ofNat (97+a)]:=fun a ha=>by
  rcases(by omega:a=0∨a=1)with rfl|rfl<;>rfl
 have row:∀{w:List UInt8} (hwi:w.length≤100) {x1 x2 x3 x4 x5 x6 x7:Int} {y0 y1 y2 y3 y4:LV},
   Loop (V4 CC (L:Int) w x1 x2 y0 x3 x4 x5 x6 x7 (ws.map V.str) y1 y2 y3 y4) (0,([]:LV))=some ((L:Int),false,nS (kX ws L w)):=by
  intro w hwi x1 x2 x3 x4 x5 x6 x7 y0 y1 y2 y3 y4;refine gp L (fun a=>((a:Int),nS (kX ws a w))) _ (fun a Cs=> ?_) ?_
  ·have hrl:(kX ws a w).length=a:=by simp[kX]
   obtain⟨v,e⟩:=aH7 hw kf (aH9 a Cs) (L:=(L:Int)) (a:=(a:Int)) (t23:=x1) (t24:=x2) (k:=x3) (x1:=x4) (x2:=x5) (x3:=x6) (x4:=x7) (w:=w) (y0:=y0) (y1:=nS (kX ws a w)) (y2:=y1) (y3:=y2) (y4:=y3) (y5:=y4) w;simp only[V4,PI,un];rw[aIa a Cs];refine bT (cF Cs) (bT (AF (by unfold ry;simp;omega)) (bs e ?_));simp only[un];refine bT (cap (a:=(nS (kX ws a w)).length) (b:=1) (by rw[ff];omega) (by omega)) ?_;rw[bY (by omega)];refine congrArg (fun z=>some (Sum.inl (((a+1:Nat):Int),z))) ?_;unfold kX;rw[Fy];simp[nS,nV]
  ·simp only[V4,PI,un];refine bF (cf (aR _)) ?_;rw[cf (aR _)]
 have key:=gH (step:=PK CC (L:Int) (ws.length:Int) 0 0 (L:Int) 0 (ws.map V.str) [] []) (fun i x=> ∃(F:List Bool) (u:Tp),F.length=i∧x=((i:Int),u.l.map iV,(u.k:Int),F.map V.bool,dB ((ws.take i).map (kX ws L))))
  (fun o=> ∃(F:List Bool) (u:Tp),F.length=ws.length∧o=((ws.length:Int),false,u.l.map iV,(u.k:Int),F.map V.bool,dB (ws.map (kX ws L)))) ws.length 0 (0,t.l.map iV,(t.k:Int),([]:LV),([]:LV)) (fun i _ hi x hx=> ?_) (fun x hx=> ?_) ⟨[],t,rfl,rfl⟩
 ·obtain⟨o,e,F,u,a1,rfl⟩:=key;exact⟨F,u,a1,e⟩
 ·obtain⟨F,u,a1,rfl⟩:=hx;have dO:i<ws.length:=by omega
  have hNl:((ws.take i).map (kX ws L)).length=i:=by rw[dD,u6];omega
  obtain⟨k,u2,hk,e⟩:=rY u (n:=2) (by omega) (by omega);have hg:(ws.map V.str)[i]? =some (.str ws[i]):=by simp[dO]
  have er:=row (pN _ (fx dO)) (x1:=(ws.length:Int)) (x2:=(i:Int)) (x3:=(u2.k:Int)) (x4:=0) (x5:=0) (x6:=(L:Int)) (x7:=0) (y0:=u2.l.map iV) (y1:=[]) (y2:=[]) (y3:=F.map V.bool++[.bool ((k:Int)==1)]) (y4:=dB ((ws.take i).map (kX ws L)));simp only[PK,PJ,un];refine⟨(((i+1:Nat):Int),u2.l.map iV,(u2.k:Int),F.map V.bool++[.bool ((k:Int)==1)],dB ((ws.take i).map (kX ws L))++[ab (nS (kX ws L ws[i]))]),bT (cF dO) ((aU hg).trans (bs e (bT (cap (a:=(F.map V.bool).length) (b:=1) (by rw[dD];omega) (by omega)) (bs er ?_)))),F++[(k:Int)==1],u2,by simp;omega,?_⟩
  ·simp only[un];refine bT (cap (a:=(dB ((ws.take i).map (kX ws L))).length) (b:=1) (by rw[aeZ,hNl];omega) (by omega)) ?_;rw[bY (by omega)];rfl
  ·have hN:dB ((ws.take (i+1)).map (kX ws L))=dB ((ws.take i).map (kX ws L))++[ab (nS (kX ws L ws[i]))]:=by
    rw[u9 dO,sA];unfold dB;rw[sA];rfl
   rw[hN,sA];rfl
 ·obtain⟨F,u,a1,rfl⟩:=hx;rw[cL]at*
  simp only[PK,PJ,un];exact⟨_,bF (cf (aR _)) rfl,F,u,a1,dX rfl (dX (cf (aR _)) (by rw[tH]))⟩
noncomputable def IL(C:af)(aO eG:Int)(bP:LV)(bQ:Int):Option LV:=
 (C 18 [vI 6,ab bP,vI bQ]).bind fun r1=>
 bif ((gI r1):Int)==1 then
  (C 48 [vI aO,vI eG,ab (dw r1),vI (jo r1)]).bind fun r2=>
  some (SH r2 [])
 else
  bif ((gI r1):Int)==2 then
  (C 49 [vI aO,vI (if 4<eG then 4 else eG),ab (dw r1),vI (jo r1)]).bind fun r3=>
  some (SH r3 [])
  else
  bif ((gI r1):Int)==3 then
   (C 50 [vI aO,ab (dw r1),vI (jo r1)]).bind fun r4=>
   some (SH r4 [])
  else
   (C 51 [vI aO,vI eG,ab (dw r1),vI (jo r1)]).bind fun r5=>
   some (SH r5 [])
theorem aIb{aO eG:Int}{bP:LV}{bQ:Int}{r:Option LV}(h:IL CC aO eG bP bQ=r):CC 16 [vI aO,vI eG,ab bP,vI bQ]=r:=bR (L:=bS) ak h
noncomputable def aoJ(C:af)(bP:LV)(bQ:Int):Option LV:=
 (C 18 [vI 8,ab bP,vI bQ]).bind fun r1=>
 some [vI (wrap .i64 (2-(wrap .i64 (Int.tdiv (gI r1) 7)))),ab (dw r1),vI (jo r1)]
theorem aIc{bP:LV}{bQ:Int}{r:Option LV}(h:aoJ CC bP bQ=r):CC 17 [ab bP,vI bQ]=r:=bR (L:=bS) ak h
noncomputable def aoK(C:af)(l:LV)(eG:Int):Option LV:=
 (C 5 [ab l]).bind fun r1=>
 (C 17 [ab (gL r1),vI (dm r1)]).bind fun r2=>
 (C 16 [vI (gI r2),vI eG,ab (dw r2),vI (jo r2)]).bind fun r3=>
 some [vI (gI r3),vI (dm r3),au (G3 r3),aq (D6 r3)]
theorem aId{l:LV}{eG:Int}{r:Option LV}(h:aoK CC l eG=r):CC 4 [ab l,vI eG]=r:=bR (L:=bS) ak h
def nU(L k:Nat):List (List UInt8):=
 if L=1 then(if k=1 then [[],[97]]else [[],[97],[97,97]])
 else(if k=1 then [[],[97],[98]]else [[],[97],[98],[97,97],[97,98],[98,97],[98,98]])
theorem aIe:CC 101 [vI 1,vI 1]=some [cq [.str [],.str [97]]]:=gl (N:=60) (n:=30) (by kernel_rfl)
theorem aIf:CC 101 [vI 1,vI 2]=some [cq [.str [],.str [97],.str [97,97]]]:=gl (N:=60) (n:=30) (by kernel_rfl)
theorem aIg:CC 101 [vI 2,vI 1]=some [cq [.str [],.str [97],.str [98]]]:=gl (N:=60) (n:=30) (by kernel_rfl)
theorem aIh:CC 101 [vI 2,vI 2]=some [cq [.str [],.str [97],.str [98],.str [97,97],.str [97,98],.str [98,97],.str [98,98]]]:=gl (N:=60) (n:=30) (by kernel_rfl)
theorem aIi{L k:Nat}(h1:1≤L)(h2:L≤2)(k1:1≤k)(k2:k≤2):CC 101 [vI (L:Int),vI (k:Int)]=some [cq ((nU L k).map V.str)]:=by
 rcases(by omega:L=1∨L=2)with rfl|rfl<;>rcases(by omega:k=1∨k=2)with rfl|rfl
 ·exact aIe
 ·exact aIf
 ·exact aIg
 ·exact aIh
theorem aIj{L k:Nat}(h1:1≤L)(h2:L≤2)(k1:1≤k)(k2:k≤2):1≤(nU L k).length∧(nU L k).length≤7∧(∀w∈nU L k,w.length≤100)∧(∀a,a<L→[UInt8.ofNat (97+a)]∈nU L k)∧(nU L k).Nodup∧∀w∈nU L k,∀y∈kX (nU L k) L w,y<(nU L k).length:=by
 rcases(by omega:L=1∨L=2)with rfl|rfl<;>rcases(by omega:k=1∨k=2)with rfl|rfl<;>decide
theorem aIk(t:Tp){L:Nat}(h1:1≤L)(h2:L≤2):∃(F:List Bool) (N:List (List Nat)) (u:Tp),FN L F N∧(N.length≤3∨L=2∧N=(nU 2 2).map (kX (nU 2 2) 2))∧
  CC 50 [vI (L:Int),t.L,t.K]=some [vI (L:Int),vI 0,u.L,u.K,au (F.map V.bool),aq (dB N)]:=by
 obtain⟨v,t1,hv,e1⟩:=rY t (n:=2) (by omega) (by omega);obtain⟨w1,w2,w3,w4,w5,w6⟩:=aIj (L:=L) (k:=v+1) h1 h2 (by omega) (by omega);have w7:((nU L (v+1)).map (kX (nU L (v+1)) L)).length≤3∨L=2∧(nU L (v+1)).map (kX (nU L (v+1)) L)=(nU 2 2).map (kX (nU 2 2) 2):=by
  rw[dD];rcases(by omega:L=1∨L=2)with rfl|rfl<;>rcases(by omega:v=0∨v=1)with rfl|rfl
  ·exact .inl (by decide)
  ·exact .inl (by decide)
  ·exact .inl (by decide)
  ·exact .inr ⟨rfl,rfl⟩
 have hW:=aIi (L:=L) (k:=v+1) h1 h2 (by omega) (by omega);generalize nU L (v+1)=ws at*
 obtain⟨F,u,a1,e⟩:=aH8 (ws:=ws) (by omega) w5 w3 h2 w4 t1;refine⟨F,ws.map (kX ws L),u,⟨by rw[dD];omega,by rw[dD];omega,fun r hr=> ?_⟩,w7,aH6 ?_⟩
 ·obtain⟨w,hw,rfl⟩:=iZ.1 hr;rw[dD];exact⟨by simp[kX],w6 w hw⟩
 unfold aoG;have hw:wrap .i64 (1+(gI [vI (v:Int),t1.L,t1.K]))=((v+1:Nat):Int):=by
  show wrap .i64 (1+(v:Int))=_;rw[show(1+(v:Int))=((v+1:Nat):Int) by omega];exact wrap64 (by omega) (by omega)
 refine bs e1 ?_;rw[hw];refine bs hW ?_;have hl:((gL [cq (ws.map V.str)]).length:Int)=(ws.length:Int):=by show((ws.map V.str).length:Int)=_;rw[dD]
 rw[hl];exact bs e rfl
def tE:List (List Nat):=(nU 2 2).map (kX (nU 2 2) 2)
def IM(k L st:Nat)(N:List (List Nat)):Prop:=N.length≤k∨L=2∧N=tE∧st=0
theorem IM.le{k L st:Nat}{N:List (List Nat)}(hk:k≤7)(h:IM k L st N):N.length≤7:=by
 rcases h with h|⟨_,rfl,_⟩
 ·omega
 ·decide
theorem aIl(t:Tp){L m k:Nat}(h1:1≤L)(h2:L≤2)(hm:1≤m)(AX:m≤4)(hk:m≤k)(wA:3≤k):∃(F:List Bool) (N:List (List Nat)) (st:Nat) (u:Tp),FN L F N∧IM k L st N∧st<N.length∧
  CC 16 [vI (L:Int),vI (m:Int),t.L,t.K]=some [vI (L:Int),vI (st:Int),u.L,u.K,au (F.map V.bool),aq (dB N)]:=by
 obtain⟨v,t1,hv,e1⟩:=rY t (n:=6) (by omega) (by omega);have A:∀z,IL CC (L:Int) (m:Int) (t.l.map iV) (t.k:Int)=z→CC 16 [vI (L:Int),vI (m:Int),t.L,t.K]=z:=fun z h=>aIb h;have IN:∀k:Nat,v≠k→((gI [vI (v:Int),t1.L,t1.K])==(k:Int))=false:=fun k hk=>by
  show((v:Int)==(k:Int))=false;rw[beq_eq_false_iff_ne];omega
 by_cases c1:v=1
 ·subst c1;obtain⟨F,N,u,a1,a2,e⟩:=aHL t1 h1 (L:=L) (m:=m) (by omega) hm (by omega);refine⟨F,N,0,u,a1,.inl (by omega),a1.pos,A _ ?_⟩;unfold IL;exact bs e1 (bT rfl (bs e rfl))
 by_cases c2:v=2
 ·subst c2;obtain⟨F,N,st,u,a1,a2,a3,e⟩:=aHY t1 h1 (L:=L) (m:=m) (by omega) hm (by omega);refine⟨F,N,st,u,a1,.inl (by omega),a3,A _ ?_⟩;unfold IL;have aIm:(if(4:Int)<(m:Int)then(4:Int)else(m:Int))=(m:Int):=aM (by omega);refine bs e1 (bF (IN 1 (by omega)) (bT rfl ?_));rw[aIm];exact bs e rfl
 by_cases c3:v=3
 ·subst c3;obtain⟨F,N,u,a1,a2,e⟩:=aIk t1 h1 h2;refine⟨F,N,0,u,a1,a2.imp (fun h=>by omega) (fun h=>⟨h.1,h.2,rfl⟩),a1.pos,A _ ?_⟩;unfold IL;exact bs e1 (bF (IN 1 (by omega)) (bF (IN 2 (by omega)) (bT rfl (bs e rfl))))
 ·obtain⟨F,N,st,u,a1,a2,a3,e⟩:=aoz t1 h1 (L:=L) (m:=m) (by omega) hm (by omega);refine⟨F,N,st,u,a1,.inl (by omega),a3,A _ ?_⟩;unfold IL;exact bs e1 (bF (IN 1 c1) (bF (IN 2 c2) (bF (IN 3 c3) (bs e rfl))))
theorem aIn(t:Tp):∃(L:Nat) (u:Tp),1≤L∧L≤2∧CC 17 [t.L,t.K]=some [vI (L:Int),u.L,u.K]:=by
 obtain⟨v,t1,hv,e1⟩:=rY t (n:=8) (by omega) (by omega);have key:∀v:Nat,v<8→∃L:Nat,1≤L∧L≤2∧wrap .i64 (2-(wrap .i64 (Int.tdiv ((v:Nat):Int) 7)))=(L:Int):=fun v hv=>by
  rcases(by omega:v=0∨v=1∨v=2∨v=3∨v=4∨v=5∨v=6∨v=7)with rfl|rfl|rfl|rfl|rfl|rfl|rfl|rfl
  all_goals first|exact⟨2,by omega,by omega,by decide⟩|exact⟨1,by omega,by omega,by decide⟩
 obtain⟨L,h1,h2,hL⟩:=key v hv;refine⟨L,t1,h1,h2,aIc ?_⟩;unfold aoJ;refine bs e1 ?_;show some [vI (wrap .i64 (2-(wrap .i64 (Int.tdiv ((v:Nat):Int) 7)))),_,_]=_;rw[hL];rfl
theorem aIo(l:List Int){m k:Nat}(hm:1≤m)(AX:m≤4)(hk:m≤k)(wA:3≤k)(hk7:k≤7):∃a:Da,a.Ok∧a.L≤2∧IM k a.L a.st a.N∧CC 4 [ab (l.map iV),vI (m:Int)]=some (iC a):=by
 obtain⟨t,e0⟩:=alu l;obtain⟨L,t1,h1,h2,e1⟩:=aIn t;obtain⟨F,N,st,u,hF,hN,hs,e2⟩:=aIl t1 h1 h2 hm AX hk wA;have hle:=hN.le hk7;have aD:=hF.ok h1 (by omega) hs (by omega);refine⟨⟨L,st,F,N⟩,aD,h2,hN,?_⟩;rw[FN.leaves aD];refine aId ?_;unfold aoK;exact bs e0 (bs e1 (bs e2 rfl))
end Go.AM
set_option maxRecDepth 100000
namespace Go.AM
open Go.IntKind (wrap)
open Go.Proofs
namespace Da
theorem Tv.reach{d:Da}(h1:1≤d.L)(h:d.Tv):∀t,t≤d.n*d.L→∀q,q<d.mt t→∃w,WL d.L w∧d.run 0 w=q
 |0,_,q,hq=>⟨[],WL.nil,by have:q<1:=hq;show 0=q;omega⟩
 |t+1,ht,q,hq=>by
  have ih:=h.reach h1 t (by omega);rcases fR q (d.mt t)with c|c
  ·grind
  ·have e:d.pos t=q:=by
    unfold mt at hq;grind
   have hx:t %d.L<d.L:=CB _ (by omega);have hp:t/d.L<d.n:=by rw[PZ (by omega)];omega
   have h2:=h.row _ hp;have h3:=d.Tw (Nat.div_mul_le_self t d.L);obtain⟨w,hw,hr⟩:=ih (t/d.L) (by omega);refine⟨w++[t %d.L],WL.app.2 ⟨hw,WL.nil.cons hx⟩,?_⟩;rw[Hu,hr];exact e
end Da
theorem aoL{a:Da}(h:a.Ok){q:Nat}(hq:q<(minD a).n):∃w,WL a.L w∧(minD a).run (minD a).st w=q:=by
 have hc:=Ah h;obtain⟨w,hw,hr⟩:=hc.num.reach (tt h).l1 _ (aR _) q (by rw[hc.num.all];exact hq);exact⟨w,by rw[Am h]at hw;exact hw,by rw[amL h];exact hr⟩
theorem aIp{f:Nat→Nat}{n:Nat}(h:∀p q,p<n→q<n→f p=f q→p=q):((List.range n).map f).Nodup:=by
 refine PX.2 (I6.imp_of_mem fun {a b} ha hb bz e=>bz ?_);grind
theorem ae0{a:Da}(h:a.Ok):(minD a).n≤a.n:=by
 have hc:=Ah h;have hL:=Am h;have hex:∀q:Nat,∃w,q<(minD a).n→WL a.L w∧(minD a).run (minD a).st w=q:=fun q=>by
  by_cases c:q<(minD a).n
  ·obtain⟨w,h1,h2⟩:=aoL h c;grind
  ·exact⟨[],fun c2=>absurd c2 c⟩
 obtain⟨W,hW⟩:=Classical.axiomOfChoice hex;have key:=tJ (l₁:=(List.range (minD a).n).map fun q=>a.run a.st (W q)) (l₂:=List.range a.n) (aIp fun p q hp hq e=> ?_) fun x hx=> ?_
 ·grind
 ·obtain⟨p1,p2⟩:=hW p hp;obtain⟨q1,q2⟩:=hW q hq;refine hc.red p q hp hq fun w hw=> ?_;rw[hL]at hw;rw[←p2,←q2,←Da.BN,←Da.BN,HU h (WL.app.2 ⟨p1,hw⟩),HU h (WL.app.2 ⟨q1,hw⟩),Da.BN,Da.BN,e]
 ·obtain⟨q,hq,rfl⟩:=iZ.1 hx;exact gM.2 (h.Et _ h.s (hW q (gM.1 hq)).1)
end Go.AM
set_option maxRecDepth 100000
namespace Go.AM
open Go.IntKind (wrap)
open Go.Proofs
def yH:Nat→List (List Nat)
 |0=>[[]]
 |n+1=>(yH n).flatMap fun t=>[0::t,1::t,2::t]
theorem aoM:∀{f:List Nat},(∀x∈f,x<3)→f∈yH f.length
 | [],_=>by simp[yH]
 |x::f,h=>by
  have h1:=aoM fun y hy=>h y (j5 _ hy);have h2:=h x (by simp);refine List.mem_flatMap.2 ⟨f,h1,?_⟩;rcases(by omega:x=0∨x=1∨x=2)with rfl|rfl|rfl<;>simp
theorem aIq:∀n,n≤3→(yH n).length≤27:=by decide
theorem aIr:∀n,n≤2→(yH n).length≤12:=by decide
theorem aoN{n:Nat}{f:List Nat}(h:Tr n f)(hn:n≤3):f∈yH n:=by
 rw[←h.1];exact aoM fun x hx=>by have:=h.2 x hx;omega
def Fp(f:List Nat):Bool:=[[0,1],[0,2],[1,2],[0,1,2]].any fun C=>C.all fun c=>C.contains (f.getD c 0)&&f.getD c 0 != c
def IP(q x:Nat):Nat:=(⟨2,0,[],tE⟩:Da).nx q x
theorem aIs:∀q,q<7→∀x,x<2→∀y,y<2→IP (IP q x) y=IP (IP 0 x) y:=by decide
section
variable {a:Da}(h:a.Ok)
include h
theorem aIt(hd:a.L=2∧a.N=tE∧a.st=0){u:List Nat}{x y q:Nat}(hu:WL 2 u)(hx:x<2)(hy:y<2)(hq:q<(minD a).n):(minD a).run q (u++[x,y])=(minD a).run q [x,y]:=by
 obtain⟨L,st,F,N⟩:=a;obtain⟨e1,e2,e3⟩:=hd;obtain rfl:L=2:=e1;obtain rfl:N=tE:=e2;obtain rfl:st=0:=e3;have hc:=Ah h;have hL:(minD ⟨2,0,F,tE⟩).L=2:=Am h;have hm:=tt h;have h2:WL 2 [x,y]:=fun z hz=>by simp at hz;omega
 obtain⟨z,hz,rfl⟩:=aoL h hq;replace hz:WL 2 z:=hz;have key:∀v,WL 2 v→(⟨2,0,F,tE⟩:Da).run 0 (v++[x,y])=IP (IP 0 x) y:=fun v hv=>by
  rw[Da.Hu];have h7:(⟨2,0,F,tE⟩:Da).run 0 v<7:=by
   have h1:=h.Et v h.s hv;have h3:=h.nN;have h4:tE.length=7:=by decide
   rw[←h3]at h1;exact Nat.lt_of_lt_of_eq h1 h4
  exact aIs _ h7 x hx y hy
 have HW:=hm.Et (u++[x,y]) hq (by rw[hL];exact WL.app.2 ⟨hu,h2⟩);have lt2:=hm.Et [x,y] hq (by rw[hL];exact h2);refine hc.red _ _ HW lt2 fun v hv=> ?_;replace hv:WL 2 v:=by rw[←hL];exact hv
 rw[←Da.Hu,←Da.Hu,←Da.BN,←Da.BN,HU h (show WL 2 _ from WL.app.2 ⟨WL.app.2 ⟨hz,WL.app.2 ⟨hu,h2⟩⟩,hv⟩),HU h (show WL 2 _ from WL.app.2 ⟨WL.app.2 ⟨hz,h2⟩,hv⟩),Da.BN,Da.BN];show(⟨2,0,F,tE⟩:Da).acc ((⟨2,0,F,tE⟩:Da).run 0 (z++(u++[x,y]))) v=(⟨2,0,F,tE⟩:Da).acc ((⟨2,0,F,tE⟩:Da).run 0 (z++[x,y])) v;rw[←kH,key _ (WL.app.2 ⟨hz,hu⟩),key _ hz]
def Fq:List (List Nat):=[[],[0],[1],[0,0],[0,1],[1,0],[1,1]]
theorem aoO(hd:a.L=2∧a.N=tE∧a.st=0){w:List Nat}(hw:WL 2 w):jY (minD a) w∈Fq.map (jY (minD a)):=by
 have hm:=tt h;have hL:(minD a).L=2:=(Am h).trans hd.1;have two:∀x,x<2→∀y,y<2→[x,y]∈Fq:=by decide
 have one:∀x,x<2→[x]∈Fq:=by decide
 rcases List.eq_nil_or_concat w with rfl|⟨v,y,rfl⟩
 ·exact List.mem_map_of_mem (by decide)
 rw[List.concat_eq_append]at hw⊢;have hy:y<2:=hw y (by simp);have hv:WL 2 v:=(WL.app.1 hw).1;rcases List.eq_nil_or_concat v with rfl|⟨u,x,rfl⟩
 ·exact List.mem_map_of_mem (one y hy)
 rw[List.concat_eq_append]at hv hw⊢;have hx:x<2:=hv x (by simp);have hu:WL 2 u:=(WL.app.1 hv).1;have e:jY (minD a) (u++[x]++[y])=jY (minD a) [x,y]:=(aBJ hm (by rw[hL];exact hw) (by rw[hL];exact(fun z hz=>by simp at hz;omega:WL 2 [x,y]))).2 fun q hq=>by
  rw[kH];exact aIt h hd hu hx hy hq
 rw[e];exact List.mem_map_of_mem (two x hx y hy)
theorem aIu(hf:IM 3 a.L a.st a.N):¬acx (minD a).L (minD a).n (minD a).gT:=by
 rintro⟨T,hd,ht,hl⟩;rcases hf with hf|⟨e1,e2,e3⟩
 ·have hn:(minD a).n≤3:=lR (ae0 h) (by rw[←h.nN];exact hf);have:=tJ (l₂:=yH (minD a).n) hd fun f hf=>aoN (ht f hf).1 hn;have:=aIq _ hn;omega
 ·have:=tJ (l₂:=Fq.map (jY (minD a))) hd fun f hf=>by
   obtain⟨w,hw,rfl⟩:=(ht f hf).2;exact aoO h ⟨e1,e2,e3⟩ (by rw[←e1,←Am h];exact hw)
  have h7:(Fq.map (jY (minD a))).length=7:=rfl;omega
section
variable {S:List (List Nat)}(hS:wj (minD a) S)
include hS
theorem aoP{i j:Nat}(hi:i<S.length)(hj:j<S.length):S.getD (eH S i j) []=comp (S.getD i []) (S.getD j []):=by
 have hm:=tt h;obtain⟨u,hu,rfl⟩:=Aq hS hi;obtain⟨v,hv,rfl⟩:=Aq hS hj;rw[yq hm hS hu hv,Ap hS (WL.app.2 ⟨hu,hv⟩),Ap hS hu,Ap hS hv,anc hm hu hv]
theorem aoQ(h3:(minD a).n=3)(ap:uW S.length (eH S)){f:List Nat}(hf:f∈S):Fp f=false:=by
 cases hb:Fp f with
 |false=>rfl
 |true=>
  exfalso;have hm:=tt h;obtain⟨i,hi,rfl⟩:=CH hf;obtain⟨C,hC,hc⟩:=List.any_eq_true.1 hb;have QQ:∀c∈C,S[i].getD c 0∈C∧S[i].getD c 0≠c:=fun c hcc=>by
   have:=jk.1 hc c hcc;simpa using this
  have hC3:∀c∈C,c<3:=by
   have:∀C∈([[0,1],[0,2],[1,2],[0,1,2]]:List (List Nat)),∀c∈C,c<3:=by decide
   exact this C hC
  obtain⟨p,hp⟩:∃p,p∈C:=by
   have:∀C∈([[0,1],[0,2],[1,2],[0,1,2]]:List (List Nat)),C.getD 0 0∈C:=by decide
   exact⟨_,this C hC⟩
  have plt:∀k,pw (eH S) i k<S.length:=fun k=>by
   induction k with
   |zero=>exact hi
   |succ k ih=>exact H6 hm hS ih hi
  have step:∀k,(S.getD (eH S (pw (eH S) i k) i) []).getD p 0=S[i].getD ((S.getD (pw (eH S) i k) []).getD p 0) 0:=fun k=>by
   rw[aoP h hS (plt k) hi,dK hi];have hl:p<(S.getD (pw (eH S) i k) []).length:=by
    have:=hS.tr _ (show S.getD (pw (eH S) i k) []∈S by rw[dK (plt k)];exact fx _);rw[this.1,h3];exact hC3 p hp
   unfold comp;rw[getD_map (k:=fun i_1=>S[i].getD i_1 0) hl,dK hl]
  have inC:∀k,(S.getD (pw (eH S) i k) []).getD p 0∈C:=fun k=>by
   induction k with
   |zero=>show(S.getD i []).getD p 0∈C;rw[dK hi];exact(QQ p hp).1
   |succ k ih=>
    show(S.getD (eH S (pw (eH S) i k) i) []).getD p 0∈C;rw[step];exact(QQ _ ih).1
  have e:=step (eN-1);rw[ap i hi]at e;exact(QQ _ (inC (eN-1))).2 e.symm
theorem aIv(hf:IM 3 a.L a.st a.N)(ap:uW S.length (eH S)):S.length≤12:=by
 rcases hf with hf|⟨e1,e2,e3⟩
 ·have hn:(minD a).n≤3:=lR (ae0 h) (by rw[←h.nN];exact hf);have sub:∀f∈S,f∈yH (minD a).n:=fun f hf=>aoN (hS.tr f hf) hn;by_cases h2:(minD a).n≤2
  ·exact lR (tJ hS.nd sub) (aIr _ h2)
  ·have h3:(minD a).n=3:=by omega
   have cl:∀f∈S,∀g∈S,Fp (comp f g)=false:=fun f hf g hg=>by
    obtain⟨i,hi,rfl⟩:=CH hf;obtain⟨j,hj,rfl⟩:=CH hg;refine aoQ h hS h3 ap ?_;have:=aoP h hS hi hj;rw[dK hi,dK hj]at this;rw[←this,dK (H6 (tt h) hS hi hj)];exact fx _
   have pick:∀{f g:List Nat},(Fp (comp f g)||Fp (comp g f))=true→∃m,(m=f∨m=g)∧m∉S:=fun {f g} hb=>by
    by_cases hf:f∈S
    ·by_cases hg:g∈S
     ·rw[cl f hf g hg,cl g hg f hf]at hb;cases hb
     ·exact⟨g,.inr rfl,hg⟩
    ·exact⟨f,.inl rfl,hf⟩
   obtain⟨m1,c1,n1⟩:=pick (f:=[0,0,1]) (g:=[2,1,2]) (by decide);obtain⟨m2,c2,n2⟩:=pick (f:=[0,0,2]) (g:=[2,1,1]) (by decide);obtain⟨m3,c3,n3⟩:=pick (f:=[0,1,0]) (g:=[1,2,2]) (by decide);obtain⟨m4,c4,n4⟩:=pick (f:=[0,1,1]) (g:=[2,0,2]) (by decide);have mz:∀f∈m1::m2::m3::m4::S,f∈(yH 3).filter fun f=> !Fp f:=fun f hf=>by
    simp only[kC]at hf;rcases hf with rfl|rfl|rfl|rfl|hf
    ·rcases c1 with rfl|rfl<;>decide
    ·rcases c2 with rfl|rfl<;>decide
    ·rcases c3 with rfl|rfl<;>decide
    ·rcases c4 with rfl|rfl<;>decide
    ·have:=sub f hf;rw[h3]at this;exact FA.2 ⟨this,by rw[aoQ h hS h3 ap hf];rfl⟩
   have kf:(m1::m2::m3::m4::S).Nodup:=by
    have:=hS.nd;rcases c1 with rfl|rfl<;>rcases c2 with rfl|rfl<;>rcases c3 with rfl|rfl<;>rcases c4 with rfl|rfl<;>simp[n1,n2,n3,n4,this]
   have:=tJ kf mz;have h16:((yH 3).filter fun f=> !Fp f).length=16:=by decide
   rw[h16]at this;simp only[List.length_cons]at this;omega
 ·have:=tJ (l₂:=Fq.map (jY (minD a))) hS.nd fun f hf=>by
   obtain⟨i,hi,rfl⟩:=CH hf;obtain⟨w,hw,e⟩:=hS.re i hi;rw[←dK (d:=[]) hi,e];exact aoO h ⟨e1,e2,e3⟩ (by rw[←e1,←Am h];exact hw)
  have h7:(Fq.map (jY (minD a))).length=7:=rfl;omega
end
end
noncomputable def aoR(C:af)(l w:LV):Option LV:=
 (C 4 [ab l,vI 3]).bind fun r1=>
 (C 5 [ab w]).bind fun r2=>
 (C 6 [vI (gI r1),vI 7,ab (gL r2),vI (dm r2)]).bind fun r3=>
 (C 7 (D7 r1 [])).bind fun r4=>
 bif ((gI (r4.drop 6)):Int) != 0 then
  some [.bool false]
 else
  bif (((dw r4).length:Int):Int)==0 then
  some [.bool false]
  else
  (C 8 (SG r4 [])).bind fun r5=>
  (C 9 (SG r4 [])).bind fun r6=>
  bif !(gB r6)then
   bif ((dm r5):Int)==20 then
   (C 10 []).bind fun r7=>
   some [.bool (gB r7)]
   else
   some [.bool false]
  else
   bif decide ((((dw r4).length:Int):Int)>5)then
   (C 10 []).bind fun r8=>
   some [.bool (gB r8)]
   else
   (C 11 [cz (jq r5),vI (gI r5)]).bind fun r9=>
   (C 12 [cz (jq r9),vI (gI r9),vI (gI r4)]).bind fun EX=>
   bif ((dm r5):Int) != 0 then
    some [.bool false]
   else
    bif ((dm r9):Int) != 0 then
    some [.bool false]
    else
    bif ((dm EX):Int) != 0 then
     some [.bool false]
    else
     (C 13 (D7 r1 [.str (gS r3)])).bind fun jg=>
     (C 14 [cz (jq r9),vI (gI r9),.str (gS r3)]).bind fun EY=>
     bif (gB EY)==(gB jg)then
     (C 15 [gG (jq EX),vI (gI EX),.str (gS r3)]).bind fun jL=>
     bif (gB jL)==(gB jg)then
      (C 10 []).bind fun rb=>
      some [.bool (gB rb)]
     else
      some [.bool false]
     else
     some [.bool false]
theorem aIw{l w:LV}{r:Option LV}(h:aoR CC l w=r):CC 3 [ab l,ab w]=r:=bR (L:=bS) ak h
theorem aoU(l w:List Int):CC 3 [ab (l.map iV),ab (w.map iV)]=some [.bool true]:=by
 obtain⟨a,ha,hL,hf,e0⟩:=aIo l (m:=3) (k:=3) (by omega) (by omega) (by omega) (by omega) (by omega);obtain⟨t,e1⟩:=alu w;obtain⟨wd,u,hw,hlen,e2⟩:=aw7 t (L:=a.L) (m:=7) ha.l1 ha.l6 (by omega);have hm:=tt ha;have hmL:=Am ha;have hn:(minD a).n≤32:=by
  have h1:=ae0 ha;have h2:=hf.le (by omega);rw[ha.nN]at h2;omega
 refine aIw ?_;unfold aoR;refine bs e0 (bs e1 (bs e2 ?_));rcases az2 ha hn with⟨_,hb⟩|⟨S,f,eO,hS⟩
 ·exact absurd hb (aIu ha hf)
 have ka:=hS.pos;refine bs eO (bF rfl (bF ?_ ?_))
 ·show(((lC S).length:Int)==0)=false;rw[show(lC S).length=S.length from fi,beq_eq_false_iff_ne];omega
 rcases aCo ha hS eO with⟨ap,hA⟩|⟨_,hA⟩
 ·obtain⟨r,e3,h5⟩:=aFe ha hS eO (by rw[hmL];exact hL) ap hA (aIv ha hS hf ap);refine bs e3 (bs hA (bF rfl ?_));by_cases c:S.length≤5
  ·obtain⟨i,ns,o,rfl,hv,hi,hk,hlg⟩:=h5 c;obtain⟨ms,j,e4,rG,xF,hj,ej⟩:=aFz hv hm.l6 (by omega) hi;obtain⟨fs,g,hg,RA,hM,e5⟩:=aGC rG hm.l1 hm.l6 (by omega) hj;have hw6:nv wd 6:=⟨by decide,by decide,hw.2.2.1,fun i hi=>⟨(hw.2.2.2 i hi).1,by have:=(hw.2.2.2 i hi).2;omega⟩⟩
   have pN:WL (minD a).L (lets wd):=by rw[hmL];exact hw.WL
   have DL:lg ms j (lets wd)↔a.acc a.st (lets wd)=true:=by
    rw[ej,hlg _ pN,HU ha hw.WL]
   have o3:(lets wd).length=wd.length:=rZ;have hfo:fo fs (lets wd) g (fO 0 wd.length 0)↔a.acc a.st (lets wd)=true:=by
    rw[←DL,hM.m (lets wd) (fO 0 wd.length 0) (fun v=>by rw[o3];exact aeJ (mi _) (aR _) (mi _)) (mi _)];have:iH (lets wd) (fO 0 wd.length 0 0) (fO 0 wd.length 0 1)=lets wd:=by
     show((lets wd).drop 0).take (wd.length-0)=lets wd;rw[←o3];simp
    rw[this]
   refine bF ?_ (bs e4 (bs e5 (bF rfl (bF rfl (bF rfl (bs (axi ha hw) (bs (aGa rG hm.l6 (by omega) hj hw6 (by omega) DL) (bT (IZ _) (bs (aHx hg (by omega) hM.lt hw6 (by omega) hfo) (bT (IZ _) (bs abt rfl)))))))))));show decide (((lC S).length:Int)>5)=false;rw[show(lC S).length=S.length from fi];exact cw (by omega)
  ·refine bT ?_ (bs abt rfl);show decide (((lC S).length:Int)>5)=true;rw[show(lC S).length=S.length from fi];exact bj (by omega)
 ·exact bs (aFd ha hS eO hA) (bs hA (bT rfl (bT rfl (bs abt rfl))))
end Go.AM
set_option maxRecDepth 100000
namespace Go.AM
open Go.IntKind (wrap)
theorem WT.aIx{P:Program}{t:TypeId}{x:V}(hu:P.underlying t=some (.int .i64))(h:WT P t x):∃n:Int,x=vI n∧ -9223372036854775808≤n∧n≤9223372036854775807:=by
 obtain⟨n,rfl,h1,h2⟩:=h.jP hu;have e1:IntKind.min .i64= -9223372036854775808:=by decide
 have e2:IntKind.max .i64=9223372036854775807:=by decide
 rw[e1]at h1;rw[e2]at h2;exact⟨n,rfl,h1,h2⟩
end Go.AM
set_option maxRecDepth 100000
namespace Go.AM
open Go.IntKind (wrap)
open Go.Proofs
def V6(r:List Int):V:=ab (r.map fun n=>vI n)
theorem ae2{t:TypeId}{x:V}(hu:Tryz.prog.underlying t=some (.slice 3))(hi:Tryz.prog.underlying 3=some (.int .i64))(h:py Tryz.prog t x):∃r:List Int,x=V6 r∧(r.length≤maxLen∧∀q∈r,-9223372036854775808≤q∧q≤9223372036854775807):=by
 obtain⟨es,rfl,e1,e2⟩:=WT.ar4 hu (py.one (by simp[cR,hu]) h);obtain⟨r,rfl,hr⟩:=ah3 (f:=fun n=>vI n) (p:=fun q=> -9223372036854775808≤q∧q≤9223372036854775807) fun y hy=>WT.aIx hi (py.one (by simp[cR,hi]) (e2 y hy));exact⟨r,rfl,by simpa using e1,hr⟩
end Go.AM
