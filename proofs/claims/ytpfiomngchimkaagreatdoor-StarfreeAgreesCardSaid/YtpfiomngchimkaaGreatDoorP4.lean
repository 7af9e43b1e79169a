/-
  Functions of the program, lifted to plain data.
-/
import Derived.Carry
import Derived.OpenShut
import Derived.Deep.Slices
import Derived.Test.YtpfiomngchimkaaGreatDoorP3
noncomputable section
set_option linter.unusedVariables false
set_option linter.unusedSimpArgs false
set_option linter.unusedSectionVars false
set_option maxRecDepth 100000
namespace Go.AM
open Go.Proofs
section
open Go.ChangeShapes Go.WideShapes Go.RowKit
section
variable (P:Program)
inductive WT:TypeId->V->Prop
 |int {t:TypeId}{k:IntKind}{n:Int}:P.underlying t=some (.int k)->(Lit.int k n).wf=true->WT t (.int k n)
 |bool {t:TypeId}{b:Bool}:P.underlying t=some .bool->WT t (.bool b)
 |str {t:TypeId}{l:List UInt8}:P.underlying t=some .string->l.length<=maxLen->WT t (.str l)
 |list {t e:TypeId}{es:LV}:P.underlying t=some (.slice e)->es.length<=maxLen->
   (∀(i:Nat) x,es[i]?=some x->cP P e=true->∃xs,x=.agg xs∧xs.length=(bA P e).length)->
   (∀(i j:Nat) x t',es[i]?=some x->(bA P e)[j]?=some t'->WT t' (cT P e x j))->WT t (.list e es)
def pk(t:TypeId)(x:V):Prop:=
 (cP P t=true->∃xs,x=.agg xs∧xs.length=(bA P t).length)∧∀(j:Nat) t',(bA P t)[j]?=some t'->WT P t' (cT P t x j)
def yj:List TypeId->LV->Prop
 |[],[]=>True
 |t::ts,x::xs=>pk P t x∧yj ts xs
 |_,_=>False
def hasB(L:List TypeId)(t:TypeId):Bool:=L.any fun u=>Nat.beq u t
def Q4(L:List TypeId):Nat->List Field->Bool
 |_,[]=>true
 |n,f::fs=>hasB L f.type&&(Nat.beq f.offset n&&(Nat.beq (P.cellsOf f.type) (bA P f.type).length&&Q4 L (n+P.cellsOf f.type) fs))
def JF:LN->LN->Bool
 |[],[]=>true
 |a::l,b::m=>Nat.beq a b&&JF l m
 |_,_=>false
def XT(L:List TypeId)(t:TypeId):Bool:=
 Nat.beq (P.cellsOf t) (bA P t).length&&
 match P.underlying t with
 |some (.int _)=>true
 |some .bool=>true
 |some .string=>true
 |some (.slice e)=>hasB L e&&dU P e
 |some (.struct fs)=>Q4 P L 0 fs.toList&&JF (flat P t) (fs.toList.flatMap fun f=>bA P f.type)
 |some (.array n e)=>hasB L e&&(Nat.beq (P.cellsOf e) (bA P e).length&&JF (flat P t) (List.replicate n (bA P e)).flatten)
 |_=>false
def JG(L:List TypeId):Bool:=L.all fun t=>XT P L t
end
theorem Q5{L:List TypeId}{t:TypeId}(h:hasB L t=true):t∈L:=by
 obtain⟨u,hu,h2⟩:=B5.1 h;rw[bK]at h2;exact h2▸hu
theorem XU:∀{l m:LN},JF l m=true->l=m
 |[],[],_=>rfl
 |a::l,b::m,h=>by
  simp only[JF,aZ,bK]at h;rw[h.1,XU h.2]
 |[],_::_,h=>by cases h
 |_::_,[],h=>by cases h
section
variable {P:Program}{H:Type}{enc:TypeId×Value->H}{w:World}{base:Nat}{spare:Nat->Bool}{held:Bool}{L:List TypeId}
def pY(w:World):Nat->Nat->Prop:=fun b _=>b<w.heap.size
def ud(P:Program)(w:World)(ts:List TypeId)(cs:List Value)(xs:LV):Prop:=
 cs.length=ts.length∧xs.length=ts.length∧∀(j:Nat) t',ts[j]?=some t'->∃v y,cs[j]?=some v∧xs[j]?=some y∧Pure P w (pY w) t' v y∧WT P t' y
theorem ud.app{ts wx:List TypeId}{cs mM:List Value}{xs xs':LV}(h:ud P w ts cs xs)(h':ud P w wx mM xs'):ud P w (ts++wx) (cs++mM) (xs++xs'):=by
 obtain⟨a,b,c⟩:=h;obtain⟨a',b',c'⟩:=h';refine⟨by simp[a,a'],by simp[b,b'],fun j t' hj=>?_⟩;by_cases bt:j<ts.length
 .rw[tK bt]at hj;obtain⟨v,y,e1,e2,e3⟩:=c j t' hj;exact⟨v,y,by rw[tK zO];exact e1,by rw[tK zO];exact e2,e3⟩
 .rw[tL zO]at hj;obtain⟨v,y,e1,e2,e3⟩:=c' _ t' hj;exact⟨v,y,by rw[tL zO,a];exact e1,by rw[tL zO,b];exact e2,e3⟩
theorem atT{w:World}{a:Addr}{v:Value}(h:w.cell? a=some v):a.spot=none∧a.block<w.heap.size:=by
 unfold World.cell? at h;split at h
 .rename_i hh;split at h
  .cases h
  .rename_i hs;exact⟨by simpa using hs,(B4.1 hh).1⟩
 all_goals (first|cases h|skip)
theorem ah1{rd:TypeId->List Value->Option (DataW H×List MemPlace)}(cs:List Value)
  (ih:∀t cs x,t∈L->rd t cs=some x->∃xs,ud P w (bA P t) cs xs):∀(fs:List Field) (n:Nat),Q4 P L n fs=true->
  (∀f∈fs,∃x,rd f.type ((cs.drop f.offset).take (P.cellsOf f.type))=some x)->∃m xs,n<=m∧ud P w (fs.flatMap fun f=>bA P f.type) ((cs.drop n).take (m-n)) xs∧m-n=(fs.flatMap fun f=>bA P f.type).length
 |[],n,_,_=>⟨n,[],aC _,⟨zS,rfl,zS⟩,zS⟩
 |f::fs,n,h,hx=>by
  simp only[Q4,aZ,bK]at h;obtain⟨h1,h2,h3,h4⟩:=h;obtain⟨x,hxf⟩:=hx f zS;obtain⟨xs,mQ⟩:=ih _ _ _ (Q5 h1) hxf;obtain⟨m,ys,hm,y8,QR⟩:=ah1 cs ih fs (n+P.cellsOf f.type) h4 fun g hg=>hx g (by simp[hg]);refine⟨m,xs++ys,zO,?_,by simp only[ER,dQ];omega⟩;have:=mQ.app y8;rw[ER];rw[h2]at this;have e:(cs.drop n).take (m-n)=(cs.drop n).take (P.cellsOf f.type)++(cs.drop (n+P.cellsOf f.type)).take (m-(n+P.cellsOf f.type)):=by
   rw[show m-n=P.cellsOf f.type+(m-(n+P.cellsOf f.type)) by omega,List.take_add,H8]
  rw[e];exact this
theorem ah2{rd:List Value->Option (DataW H×List MemPlace)}(cs:List Value){e:TypeId}(hs:P.cellsOf e=(bA P e).length)
  (ih:∀cs x,rd cs=some x->∃xs,ud P w (bA P e) cs xs):∀(n:Nat),
  (∀i,i<n->∃x,rd ((cs.drop (i*P.cellsOf e)).take (P.cellsOf e))=some x)->∃xs,ud P w (List.replicate n (bA P e)).flatten (cs.take (n*P.cellsOf e)) xs
 |0,_=>⟨[],zS,rfl,zS⟩
 |n+1,hx=>by
  obtain⟨xs,mQ⟩:=ah2 cs hs ih n fun i hi=>hx i zO;obtain⟨x,w4⟩:=hx n zO;obtain⟨ys,y8⟩:=ih _ _ w4;refine⟨xs++ys,?_⟩;rw[Pf,List.flatten_append];have:=mQ.app y8;rw[nf,Nat.one_mul,List.take_add];simpa using this
theorem Q6(hL:JG P L=true):∀(fuel:Nat) (t:TypeId) (cs:List Value) (x:DataW H×List MemPlace),t∈L->DataW.trod enc P w base spare held fuel t cs=some x->
  ∃xs,ud P w (bA P t) cs xs
 |0,_,_,_,_,h=>by cases h
 |fuel+1,t,cs,x,ht,h=>by
  have hg:=il.1 hL t ht;unfold XT at hg;rw[aZ,bK]at hg;obtain⟨hc,hg⟩:=hg;have one:cP P t=false->bA P t=[t]:=fun h=>by simp[bA,h]
  cases hu:P.underlying t with
  |none=>rw[hu]at hg;cases hg
  |some d=>
   rw[hu]at hg;cases d with
   |int k=>
    obtain⟨n,rfl,rfl,XV⟩:=DataW.trod_int hu h;rw[one (by simp[cP,hu])];exact⟨[.int k n],rfl,rfl,fun j t' hj=>by
     cases j with
     |zero=>cases hj;exact⟨_,_,rfl,rfl,.int hu,.int hu XV⟩
     |succ j=>simp at hj⟩
   |bool=>
    obtain⟨b,rfl,rfl⟩:=DataW.trod_bool hu h;rw[one (by simp[cP,hu])];exact⟨[.bool b],rfl,rfl,fun j t' hj=>by
     cases j with
     |zero=>cases hj;exact⟨_,_,rfl,rfl,.bool hu,.bool hu⟩
     |succ j=>simp at hj⟩
   |string=>
    obtain⟨s,rfl,rfl,hl⟩:=DataW.trod_string hu h;rw[one (by simp[cP,hu])];exact⟨[.str s.data.toList],rfl,rfl,fun j t' hj=>by
     cases j with
     |zero=>cases hj;exact⟨_,_,rfl,rfl,.str hu rfl,.str hu (by simpa using hl)⟩
     |succ j=>simp at hj⟩
   |slice e=>
    simp only[aZ]at hg;obtain⟨he,av⟩:=hg;rw[one (by simp[cP,hu])];have single:∀v y,cs=[v]->Pure P w (pY w) t v y->WT P t y->∃xs,ud P w [t] cs xs:=by
     rintro v y rfl a b;exact⟨[y],rfl,rfl,fun j t' hj=>by
      cases j with
      |zero=>cases hj;exact⟨_,_,rfl,rfl,a,b⟩
      |succ j=>simp at hj⟩
    rcases DataW.trod_slice hu h with⟨rfl,rfl⟩|⟨a,len,cap,elems,rest,n,hn,rfl,rfl,hb,hl,hm,hlen,g9,_,_⟩
    .exact single _ _ rfl (.nil hu) (.list hu zS zS zS)
    .cases hn;have lp:=(qy av).2;have agu:P.cellsOf e=(bA P e).length:=(gE av).symm;have key:∀i,i<len->∃mM xs,w.cells? base (a.add (i*P.cellsOf e)) (P.cellsOf e)=some mM∧ud P w (bA P e) mM xs:=by
      intro i hi;have h1:=g9 i hi;rw[cA zO]at h1;obtain⟨mM,h2,h3⟩:=Option.bind_eq_some_iff.1 h1;obtain⟨xs,mQ⟩:=Q6 hL fuel e mM _ (Q5 he) h3;exact⟨mM,xs,h2,mQ⟩
     by_cases h0:len=0
     .subst h0;exact single _ _ rfl (.emp hu) (.list hu zS zS zS)
     .have qG:a.spot=none∧a.block<w.heap.size:=by
       obtain⟨mM,xs,h2,_⟩:=key 0 zO;obtain⟨_,h3,h4⟩:=World.cells?_some h2;have h5:=h4 0 lp;rw[cA zO]at h5;have:=atT h5;simpa[Addr.add]using this
      have hF:∃(F:Nat->List Value) (X:Nat->LV),∀i,i<len->w.cells? base (a.add (i*P.cellsOf e)) (P.cellsOf e)=some (F i)∧ud P w (bA P e) (F i) (X i):=by
       refine⟨fun i=>if hi:i<len then(key i hi).choose else[],fun i=>if hi:i<len then(key i hi).choose_spec.choose else[],fun i hi=>?_⟩;simp only[Ab hi];exact(key i hi).choose_spec.choose_spec
      obtain⟨F,X,XW⟩:=hF;have hx:∀(i j:Nat) y t',((List.range len).map fun i=>dW P e (X i))[i]?=some y->(bA P e)[j]?=some t'->i<len∧∃v,(F i)[j]?=some v∧Pure P w (pY w) t' v (cT P e y j)∧WT P t' (cT P e y j):=by
       intro i j y t' hy hj;have hi:i<len:=by
        have:=(dw.1 hy).1;simpa using this
       refine⟨hi,?_⟩;simp[H6 hi]at hy;obtain⟨c1,c2,c3⟩:=(XW i hi).2;obtain⟨v,z,d1,d2,d3,d4⟩:=c3 j t' hj;have:cT P e y j=z:=by
        rw[<-hy];unfold cT dW;cases ha:cP P e with
        |true=>
         simp only[cond_true,V.cell];rw[Cz _ _ _ d2]
        |false=>
         simp only[cond_false];have:bA P e=[e]:=by simp[bA,ha]
         rw[this]at hj;cases j with
         |zero=>rw[Cz _ _ _ d2]
         |succ j=>simp at hj
       rw[this];exact⟨v,d1,d3,d4⟩
      have iZ:∀i j,i<len->j<P.cellsOf e->w.cell? ⟨a.block,a.off+(i*P.cellsOf e+j),none⟩=some ((F i).getD j undef):=by
       intro i j hi hj;obtain⟨h1,h2⟩:=XW i hi;obtain⟨_,h3,h4⟩:=World.cells?_some h1;have h5:=h4 j hj;rw[Go.Deep.add_add]at h5;have e1:a.add (i*P.cellsOf e+j)=⟨a.block,a.off+(i*P.cellsOf e+j),none⟩:=by
        obtain⟨b,o,s⟩:=a;simp only at qG;rw[qG.1];exact rE ..
       rw[e1]at h5;rw[h5,yu,cA zO];rfl
      have ha:a=⟨a.block,a.off,none⟩:=by
       obtain⟨b,o,s⟩:=a;simp only at qG;rw[qG.1]
      refine single (.slice (some a) len cap) (.list e ((List.range len).map fun i=>dW P e (X i))) rfl ?_ ?_
      .rw[ha];refine .list (fun i j=>(F i).getD j undef) hu zS hl (fun _ _=>qG.2) iZ ?_;intro i j y t' hy hj;obtain⟨hi,v,d1,d2,_⟩:=hx i j y t' hy hj;rw[yu,d1];exact d2
      .refine .list hu (by simp;omega) ?_ ?_
       .intro i y hy Q7;have hi:i<len:=by
         have:=(dw.1 hy).1;simpa using this
        simp[H6 hi]at hy;rw[<-hy];exact⟨X i,by simp[dW,Q7],(XW i hi).2.2.1⟩
       .intro i j y t' hy hj;obtain⟨_,v,_,_,d3⟩:=hx i j y t' hy hj;exact d3
   |struct fs=>
    simp only[aZ]at hg;obtain⟨xs,n,hn,rfl,hlen,pT,hx⟩:=DataW.trod_struct hu h;cases hn;have het:bA P t=fs.toList.flatMap fun f=>bA P f.type:=by
     rw[<-XU hg.2];simp[bA,cP,hu]
    obtain⟨m,ys,_,y8,hm⟩:=ah1 (w:=w) (rd:=fun t cs=>DataW.trod enc P w base spare held fuel t cs) cs (fun t cs x a b=>Q6 hL fuel t cs x a b) fs.toList 0 hg.1 (by
     intro f hf;obtain⟨i,hi⟩:=wh hf;rw[tJ]at hi;have ku:i<fs.size:=(B4.1 hi).1;exact⟨_,(hx i f hi).trans (cA zO)⟩)
    rw[het];refine⟨ys,?_⟩;have:(cs.drop 0).take (m-0)=cs:=by
     rw[gK,hm,<-het,<-hc,<-hlen,ym]
    rw[this]at y8;exact y8
   |array n e=>
    simp only[aZ,bK]at hg;obtain⟨xs,m,hn,rfl,hlen,pT,hx⟩:=DataW.trod_array hu h;cases hn;have het:bA P t=(List.replicate n (bA P e)).flatten:=by
     rw[<-XU hg.2.2];simp[bA,cP,hu]
    obtain⟨ys,y8⟩:=ah2 (w:=w) (rd:=DataW.trod enc P w base spare held fuel e) cs hg.2.1 (fun cs x b=>Q6 hL fuel e cs x (Q5 hg.1) b) n (by
     intro i hi;exact⟨_,(hx i hi).trans (cA zO)⟩)
    rw[het];refine⟨ys,?_⟩;have:cs.take (n*P.cellsOf e)=cs:=by
     have:n*P.cellsOf e=cs.length:=by
      rw[hlen,hc,het,hg.2.1];simp
     rw[this,ym]
    rw[this]at y8;exact y8
   |_=>cases hg
end
end
section
open Go.ChangeShapes Go.WideShapes Go.RowKit
section
variable {P:Program}{H:Type}{enc:TypeId×Value->H}{w:World}{L:List TypeId}
theorem atU{base XX:Nat}{spare:Nat->Bool}{held:Bool}{r:Reach}{β:Nat->Option Nat}{hp:Nat->Option ah}(hL:JG P L=true){t:TypeId}{v:Value}{d:DataW H}{ps:List MemPlace}(ht:t∈L)(iY:Value.okWide P w r XX t v)
  (h:DataW.Trod enc P w base spare held t v d ps):∃x,ak P w (pY w) β hp v x∧pk P t x:=by
 obtain⟨fuel,hf⟩:=h;obtain⟨xs,c1,c2,c3⟩:=Q6 hL fuel t _ _ ht hf;have hg:=il.1 hL t ht;unfold XT at hg;rw[aZ,bK]at hg;obtain⟨_,hg⟩:=hg;have Q7:cP P t=true->∃x,ak P w (pY w) β hp v x∧pk P t x:=by
  intro ha;have hv:∃cs,v=.agg cs:=by
   unfold Value.okWide at iY;unfold cP at ha;grind
  obtain⟨cs,rfl⟩:=hv;refine⟨.agg xs,.agg (by simpa[Value.cells]using c1.trans c2.symm) fun j v x hv hx=>?_,fun _=>⟨xs,rfl,c2⟩,fun j t' hj=>?_⟩
  .have hj:j<(bA P t).length:=zG;obtain⟨v',y,e1,e2,e3,_⟩:=c3 j _ (cA hj);rw[hx]at e2;cases e2;have:cs[j]?=some v':=by simpa[Value.cells]using e1
   rw[hv]at this;cases this;exact .vf e3
  .obtain⟨v',y,e1,e2,_,e4⟩:=c3 j t' hj;have:cT P t (.agg xs) j=y:=by
    simp only[cT,ha,cond_true,V.cell];exact Cz _ _ _ e2
   grind
 have vo:cP P t=false->v.cells= #[v]->∃x,ak P w (pY w) β hp v x∧pk P t x:=by
  intro ha CG;have he:bA P t=[t]:=by simp[bA,ha]
  rw[he]at c1 c2 c3;obtain⟨v',y,e1,e2,e3,e4⟩:=c3 0 t rfl;rw[CG]at e1;cases e1;refine⟨y,.vf e3,⟨fun h=>absurd (ha.symm.trans h) zS,fun j t' hj=>?_⟩⟩;rw[he]at hj;cases j with
  |succ j=>simp at hj
  |zero=>
   cases hj;simpa[cT,ha]using e4
 unfold Value.okWide at iY;cases hu:P.underlying t with
 |none=>grind
 |some dsc=>
  rw[hu]at hg iY;cases dsc with
  |int k=>
   refine vo (by simp[cP,hu]) ?_;simp only[Cell.okWide,Cell.ok,hu]at iY;cases v<;>first|rfl|(simp at iY;done)|exact iY.elim
  |bool=>
   refine vo (by simp[cP,hu]) ?_;simp only[Cell.okWide,Cell.ok,hu]at iY;cases v<;>first|rfl|(simp at iY;done)|exact iY.elim
  |string=>
   refine vo (by simp[cP,hu]) ?_;simp only[Cell.okWide,Cell.ok,hu]at iY;cases v<;>first|rfl|(simp at iY;done)|exact iY.elim
  |slice e=>
   refine vo (by simp[cP,hu]) ?_;simp only[Cell.okWide,Cell.ok,hu]at iY;cases v<;>first|rfl|(simp at iY;done)|exact iY.elim
  |struct fs=>exact Q7 (by simp[cP,hu])
  |array n e=>exact Q7 (by simp[cP,hu])
  |_=>cases hg
theorem ah3{base XX:Nat}{spare:Nat->Bool}{held:Bool}{r:Reach}{β:Nat->Option Nat}{hp:Nat->Option ah}(hL:JG P L=true):∀{ts:List TypeId}{vs:List Value}{ds:List (DataW H)}{ps:List MemPlace},
  (∀t∈ts,t∈L)->(∀(j:Nat) t v,ts[j]?=some t->vs[j]?=some v->Value.okWide P w r XX t v)->DataW.TrodAll enc P w base spare held ts vs ds ps->
  ∃xs,vs.length=xs.length∧(∀(j:Nat) v x,vs[j]?=some v->xs[j]?=some x->ak P w (pY w) β hp v x)∧yj P ts xs
 |[],vs,ds,ps,_,_,h=>by
  obtain⟨rfl,rfl,rfl⟩:=trodAll_nil h;exact⟨[],rfl,zS,trivial⟩
 |t::ts,vs,ds,ps,hm,iY,h=>by
  obtain⟨v,Ay,d,ds1,a,b,rfl,rfl,rfl,h1,h2⟩:=trodAll_cons h;obtain⟨x,w4,qB⟩:=atU (β:=β) (hp:=hp) hL (hm t zS) (iY 0 t v rfl rfl) h1;obtain⟨xs,hl,hr,hw⟩:=ah3 (β:=β) (hp:=hp) hL (fun t ht=>hm t (by simp[ht])) (fun j t v a b=>iY (j+1) t v zG zG) h2;refine⟨x::xs,by simp[hl],fun j v' x' hv hx=>?_,qB,hw⟩;grind
theorem ah4{base:Nat}{spare:Nat->Bool}{held:Bool}:∀{ts:List TypeId}{vs:List Value}{ds:List (DataW H)}{ps:List MemPlace},DataW.TrodAll enc P w base spare held ts vs ds ps->ds.length=ts.length
 |[],vs,ds,ps,h=>by obtain⟨rfl,rfl,rfl⟩:=trodAll_nil h;rfl
 |t::ts,vs,ds,ps,h=>by
  obtain⟨v,Ay,d,ds1,a,b,rfl,rfl,rfl,h1,h2⟩:=trodAll_cons h;simp[ah4 h2]
theorem ah5{base:Nat}(hl:laidOutB P=true){W W':World}{sp':Nat->Bool}:∀{ts:List TypeId}{vs:List Value}{ds:List (DataW H)}{ps:List MemPlace},(∀t∈ts,P.readableRec t=true∧t<P.types.size)->
  DataW.TrodAll enc P W base (fun _=>true) true ts vs ds ps->(∀p∈ps,W.sameAt W' p)->(∀p∈ps,sp' p.block=true)->DataW.TrodAll enc P W' base sp' true ts vs ds ps
 |[],vs,ds,ps,_,h,_,_=>by obtain⟨rfl,rfl,rfl⟩:=trodAll_nil h;exact trodAll_mk0
 |t::ts,vs,ds,ps,hr,h,h1,h2=>by
  obtain⟨v,Ay,d,ds1,a,b,rfl,rfl,rfl,h3,h4⟩:=trodAll_cons h;obtain⟨r1,r2⟩:=hr t zS;exact trodAll_cons_mk (WideElems.Trod_stays hl r1 r2 h3 (fun p hp=>h1 p (by simp[hp])) (fun p hp=>h2 p (by simp[hp])))
   (ah5 hl (fun t ht=>hr t (by simp[ht])) h4 (fun p hp=>h1 p (by simp[hp])) (fun p hp=>h2 p (by simp[hp])))
theorem atV{f:Func}{s:ChangeSpec}{apart fresh handsOn again:Bool}{W W':World}{args:Array Value}{v:Value}{ds gs:List (DataW H)}{before pa pv:List MemPlace}
  (hW:DataW.Whole enc P f.params.toList s.vars apart W args.toList ds gs before)
  (ah6:∀(b:Nat) (sp:Nat->Bool) (hd:Bool),DataW.TrodAll enc P W' b sp hd f.resultTypes.toList (v.resultList f.resultTypes.size) (s.fn H (ds++gs)).results [])
  (CW:∀sp:Nat->Bool,(∀p∈before,sp p.block=true)->DataW.TrodAll enc P W' 0 sp true f.params.toList args.toList (s.fn H (ds++gs)).args pa)
  (ah7:∀sp:Nat->Bool,(∀p∈before,sp p.block=true)->DataW.TrodVars enc P W' sp s.vars (s.fn H (ds++gs)).vars pv)
  (hps:before=pa++pv) (hk:W.keptBut W' (· ∈before)) (Jx:∀a:Addr,a.block<W.heap.size->W'.frozen? a=W.frozen? a)
  (av:∀(j:Nat) (t:TypeId) (r:Value),f.resultTypes[j]?=some t->(v.resultList f.resultTypes.size)[j]?=some r->Value.okWide P W' .any 0 t r):
  s.post enc P f apart fresh handsOn again W args v W':=by
 have hold:∀p∈before,(fun b=>decide (b<W.heap.size)) p.block=true:=fun p hp=>by simpa using hW.lt p hp
 refine⟨ds,gs,before,[],pa,pv,hW,ah6 _ _ _,CW _ hold,ah7 _ hold,World.keptBut_mono (fun p hp=>⟨hp,?_⟩) hk,fun _=>?_⟩
 .grind
 .have bt:=hW.lt;obtain⟨_,_,_,_,_,hz,hn⟩:=hW;refine⟨av,_,_,([]++pa)++pv,⟨[]++pa,pv,trodAll_append (CW _ (fun _ _=>rfl)) (ah6 _ _ _),ah7 _ (fun _ _=>rfl),rfl,?_,?_⟩,?_⟩
  .intro b off hp;have hb:MemPlace.cell b off∈before:=zG;rw[Jx ⟨b,off,none⟩ (bt _ hb)];exact hz b off hb
  all_goals grind
theorem atW{A:eh}(hP:oB P A)(uc:P.follows .mixedOrders=true){f key:Nat}{fn:Func}{tb:TypeId}{s:ChangeSpec}{apart fresh handsOn again:Bool}
  (hf:P.funcs[f]?=some fn) (XY:A.ll key=f) (hL:JG P L=true) (gl:fn.params.toList.all (fun t=>hasB L t)=true) (Q8:fn.resultTypes= #[tb]) (FI:P.underlying tb=some .bool) (CU:s.vars=[])
  (hs:∀ds:List (DataW H),ds.length=fn.params.toList.length->s.fn H ds={results:=[.lit (.bool true)],args:=ds})
  (XZ:laidOutB P=true) (X0:fn.params.toList.all (fun t=>P.readableRec t&&Nat.blt t P.types.size)=true)
  (gZ:(A.sin key).dN=[]) (av:((A.sin key).cW.map (·.2)).all (VS.ok 0)=true) (X1:(A.j6 key).cW=[(0,.one .bool)]) (halt:A.alt key=none)
  {W:World}{base:Nat}{args:Array Value}{ds gs:List (DataW H)}{before:List MemPlace}
  (X2:lP P A.bf W (pY W)) (iY:∀(j:Nat) t v,fn.params[j]?=some t->args[j]?=some v->Value.okWide P W .any base t v)
  (hW:DataW.Whole enc P fn.params.toList s.vars apart W args.toList ds gs before) (Q:LV->Prop)
  (hQ:∀xs:LV,yj P fn.params.toList xs->(∀(j:Nat) v x,args.toList[j]?=some v->xs[j]?=some x->ak P W (pY W) (fun _=>none) (fun _=>none) v x)->Q xs)
  (X3:∀xs,yj P fn.params.toList xs->Q xs->∃ds,yk ((A.sin key).cW.map (·.2)) xs=some ds∧Call P A key ds=some [.bool true]):
  Calls P f args W fun e W'=>∃v,e=.returned v∧s.post enc P fn apart fresh handsOn again W args v W':=by
 have hW0:=hW;obtain⟨p,q,hA,hV,rfl,Jx,pW⟩:=hW;rw[CU]at hV;obtain⟨hgs,hq⟩:gs=[]∧q=[]:=by
  cases gs with
  |nil=>exact⟨rfl,hV⟩
  |cons g gs=>exact hV.elim
 subst hgs;subst hq;obtain⟨xs,hl,hr,hwt⟩:=ah3 (β:=fun _=>none) (hp:=fun _=>none) hL (fun t ht=>Q5 (il.1 gl t ht)) (fun j t v a b=>iY j t v zG zG) hA;obtain⟨ls,hls,Jw⟩:=X3 xs hwt (hQ xs hwt hr);obtain⟨fn',c,h1,h2,h3⟩:=atO (A:=A) hP uc key ls [.bool true] Jw;rw[XY]at h1 h3;rw[hf]at h1;cases h1;have ahR:∀j,(cD (A.sin key) ls).hp j=none:=fun j=>by simp[cD,mk,gZ,jl,o0]
 obtain⟨_,r1,r2⟩:=Jm (P:=P) (w:=W) (I:=pY W) (n:=0) (β:=fun _=>none) (β':=fun _=>none) (hp:=fun _=>none) (hp':=(cD (A.sin key) ls).hp) (fun j hj=>absurd hj (Nat.not_lt_zero j)) hls av;have hlen:((A.sin key).cW.map (·.2)).length=xs.length:=by rw[<-r1 [],XR]
 have h4:=h3 W (pY W) (fun _=>none) args.toList ⟨fun id blk h=>zG,fun id ax blk blk' b h=>zG,fun id blk b h=>zG,fun b j h=>h⟩ X2
  zG (fun j v y hv hy=>r2 [] j v y (fun x hx=>hr j v x hv hx) zG)
 have ea:args.toList.toArray=args:=zS;rw[ea]at h4;refine h4.mono fun e W' ⟨v,I2,dC,he,ha⟩=>⟨v,he,?_⟩
 have AK:∀b,b<W.heap.size->W'.heap[b]?=W.heap[b]?:=fun b hb=>ha.Fy.dH b hb (by rintro⟨j,blk,hj,_⟩;grind);have CL:=ha.res;have hso:A.so key [.bool true]=A.j6 key∧A.lv key [.bool true]=[.bool true]:=by unfold eh.so eh.lv;grind
 rw[hso.1,hso.2,X1]at CL;obtain rfl:v=.bool true:=CL.o5;have mO:Value.okWide P W' .any 0 tb (.bool true):=by simp[Value.okWide,FI,Cell.okWide,Cell.ok]
 have ra:ds.length=fn.params.toList.length:=ah4 hA;have lR:∀p'∈p++[],W.sameAt W' p':=by
  intro p' hp';have bt:=hW0.lt p' hp';cases p' with
  |cell b o=>exact World.cell?_of_block (w:=W) (AK b bt)
  |map b=>exact AK b bt
 refine atV (pa:=p) (pv:=[]) hW0 ?_ ?_ ?_ rfl ?_ ?_ ?_
 .intro b sp hd;rw[jO,hs ds ra,Q8];exact trodAll_mk1 ⟨1,by simp[DataW.trod,Value.cells,FI]⟩
 .intro sp qG;rw[jO,hs ds ra];refine ah5 XZ (fun t ht=>?_) hA (fun p' hp'=>lR p' zG) (fun p' hp'=>qG p' zG);have:=il.1 X0 t ht;simp_all
 .intro sp qG;rw[CU,jO,hs ds ra];exact rfl
 .refine⟨ha.Fy.io.1,ha.Fy.io.2,fun i hi=>?_⟩;grind
 .intro a bt;exact World.frozen?_of_block (w:=W) (AK a.block bt)
 .intro j t r hj hrj;rw[Q8]at hj hrj;cases j with
  |zero=>
   simp[Value.resultList]at hj hrj;grind
  |succ j=>simp at hj
theorem aq6{A:eh}(hP:oB P A)(uc:P.follows .mixedOrders=true){f key:Nat}{fn:Func}{tb:TypeId}{s:ChangeSpec}{apart fresh handsOn again:Bool}
  (hf:P.funcs[f]?=some fn) (XY:A.ll key=f) (hL:JG P L=true) (gl:fn.params.toList.all (fun t=>hasB L t)=true) (Q8:fn.resultTypes= #[tb]) (FI:P.underlying tb=some .bool) (CU:s.vars=[])
  (hs:∀ds:List (DataW H),ds.length=fn.params.toList.length->s.fn H ds={results:=[.lit (.bool true)],args:=ds})
  (XZ:laidOutB P=true) (X0:fn.params.toList.all (fun t=>P.readableRec t&&Nat.blt t P.types.size)=true)
  (gZ:(A.sin key).dN=[]) (av:((A.sin key).cW.map (·.2)).all (VS.ok 0)=true) (X1:(A.j6 key).cW=[(0,.one .bool)]) (halt:A.alt key=none)
  (X3:∀xs,yj P fn.params.toList xs->∃ds,yk ((A.sin key).cW.map (·.2)) xs=some ds∧Call P A key ds=some [.bool true])
  {W:World}{base:Nat}{args:Array Value}{ds gs:List (DataW H)}{before:List MemPlace}
  (X2:lP P A.bf W (pY W)) (iY:∀(j:Nat) t v,fn.params[j]?=some t->args[j]?=some v->Value.okWide P W .any base t v)
  (hW:DataW.Whole enc P fn.params.toList s.vars apart W args.toList ds gs before):
  Calls P f args W fun e W'=>∃v,e=.returned v∧s.post enc P fn apart fresh handsOn again W args v W':=
 atW hP uc hf XY hL gl Q8 FI CU hs XZ X0 gZ av X1 halt X2 iY hW (fun _=>True) (fun _ _ _=>trivial) fun xs h _=>X3 xs h
end
end
@[simp] theorem V.toInt_int (k:IntKind) (n:Int):V.toInt (.int k n)=n:=by cases k<;>rfl
@[simp] theorem V.iM (b:Bool):V.toBool (.bool b)=b:=by cases b<;>rfl
@[simp] theorem V.JH (s:List UInt8):V.toStr (.str s)=s:=by cases s<;>rfl
@[simp] theorem V.dD (e:TypeId) (es:LV):V.toList (.list e es)=es:=by cases es<;>rfl
@[simp] theorem V.aJM (e:TypeId) (es:LV):V.toList (.own e es)=es:=by cases es<;>rfl
@[simp] theorem V.atX (cs:LV) (j:Nat):V.cell (.agg cs) j=V.nth cs j:=by cases cs<;>rfl
@[simp] theorem V.aJN (cs:LV) (j:Nat):V.comp (.ct cs) j=V.nth cs j:=by cases cs<;>rfl
@[simp] theorem V.bj (x:V) (l:LV):V.nth (x::l) 0=x:=by cases l<;>rfl
@[simp] theorem V.y9 (x:V) (l:LV) (n:Nat):V.nth (x::l) (n+1)=V.nth l n:=by cases l<;>rfl
@[simp] theorem V.aJO (x y:V) (l:LV):V.nth (x::y::l) 1=y:=by cases l<;>rfl
@[simp] theorem V.aJP (x y z:V) (l:LV):V.nth (x::y::z::l) 2=z:=by cases l<;>rfl
@[simp] theorem V.aJQ (x y z u:V) (l:LV):V.nth (x::y::z::u::l) 3=u:=by cases l<;>rfl
theorem wrap64{x:Int}(h1: -9223372036854775808<=x)(h2:x<9223372036854775808):wI x=x:=by
 unfold wI;rw[IntKind.wrap_i64];omega
theorem dk{x:Int}(h1: -9223372036854775808<=x:=by omega)(h2:x<9223372036854775808:=by omega):wI x=x:=wrap64 h1 h2
theorem X4{x:Int}(h1:0<=x)(h2:x<256):IntKind.wrap .u8 x=x:=by
 rw[IntKind.wrap_u8];omega
theorem JI{es:LV}{i:Int}{n:Nat}(h:i=n):idx es i=es[n]?:=by
 subst h;simp[idx]
@[simp] theorem C7 (es:LV) (n:Nat):idx es (n:Int)=es[n]?:=by simp[idx]
section
variable {X R:Type}{step:X->Option (X⊕R)}
theorem X5(Inv:X->Prop)(μ:X->Nat)(Q:R->Prop)
  (h:∀x,Inv x->(∃y,step x=some (.inl y)∧Inv y∧μ y<μ x)∨∃r,step x=some (.inr r)∧Q r):
  ∀x,Inv x->∃r,Loop step x=some r∧Q r:=by
 intro x
 induction hm:μ x using Nat.strongRecOn generalizing x with
 |ind m ih=>
  intro hx;rcases h x hx with⟨y,h1,h2,h3⟩|⟨r,h1,h2⟩
  .obtain⟨r,h4,h5⟩:=ih (μ y) zO y rfl h2;exact⟨r,(fg h1).trans h4,h5⟩
  .exact⟨r,dg h1,h2⟩
theorem JJ(s:Nat->X)(n:Nat){r:R}(h:∀i,i<n->step (s i)=some (.inl (s (i+1))))(he:step (s n)=some (.inr r)):Loop step (s 0)=some r:=by
 induction n generalizing s with
 |zero=>exact dg he
 |succ n ih=>
  rw[fg (h 0 zO)];exact ih (fun i=>s (i+1)) (fun i hi=>h (i+1) zO) he
theorem ah8(s:Nat->X)(k:Nat){r:R}(h:∀i,i<k->step (s i)=some (.inl (s (i+1))))(he:step (s k)=some (.inr r)):Loop step (s 0)=some r:=JJ s k h he
end
@[simp] theorem aF {α:Type}(p:Prop) [Decidable p] (a b:α):(bif decide p then a else b)=if p then a else b:=by by_cases h:p<;>simp[h]
@[simp] theorem kb {α:Type}(m n:Int) (a b:α):(bif m==n then a else b)=if m=n then a else b:=by
 by_cases h:m=n
 .simp[h]
 .have:(m==n)=false:=by simp[h]
  rw[this,af h];rfl
@[simp] theorem xj {α:Type}(m n:Int) (a b:α):(bif m !=n then a else b)=if m=n then b else a:=by
 by_cases h:m=n
 .simp[h]
 .have:(m !=n)=true:=by simp[h]
  rw[this,af h];rfl
@[simp] theorem kB {α:Type}(c:Bool) (a b:α):(bif !c then a else b)=bif c then b else a:=by cases c<;>rfl
@[simp] theorem vD {α:Type}(m n:Nat) (a b:α):(bif Nat.ble m n then a else b)=if m<=n then a else b:=by
 cases hb:Nat.ble m n with
 |true=>rw[ai (Nat.le_of_ble_eq_true hb)];rfl
 |false=>
  rw[af fun h=>?_]
  .rfl
  .rw[Nat.ble_eq_true_of_le h]at hb;cases hb
@[simp] theorem dZ {α:Type}(c d:Bool) (a b:α):(bif c&&d then a else b)=bif c then(bif d then a else b)else b:=by cases c<;>rfl
section
variable {P:Program}
def ah9 (P :Program) :Bool :=P.funcs.all fun fn=>!(fn.name== "runtime.NumGoroutine")
theorem atY(h:ah9 P=true):FD P:=by
 intro f fn hf;unfold ah9 at h;have:=(Array.all_eq_true_iff_forall_mem.1 h) fn (Array.mem_of_getElem? hf);simpa using this
theorem afe{t:TypeId}{ts:List TypeId}{xs:LV}(h:yj P (t::ts) xs):∃x ys,xs=x::ys∧pk P t x∧yj P ts ys:=by
 cases xs with
 |nil=>exact h.elim
 |cons x ys=>exact⟨x,ys,rfl,h.1,h.2⟩
theorem aq2{xs:LV}(h:yj P [] xs):xs=[]:=by
 cases xs with
 |nil=>rfl
 |cons x ys=>exact h.elim
theorem pk.one{t:TypeId}{x:V}(ha:cP P t=false)(h:pk P t x):WT P t x:=by
 have he:bA P t=[t]:=by simp[bA,ha]
 have:=h.2 0 t (by rw[he];rfl);simpa[cT,ha]using this
theorem WT.jo{t:TypeId}{k:IntKind}{x:V}(hu:P.underlying t=some (.int k))(h:WT P t x):∃n,x=.int k n∧k.min<=n∧n<=k.max:=by
 cases h with
 |int h1 h2=>
  rw[hu]at h1;cases h1;simp only[Lit.wf,aZ,fp]at h2;exact⟨_,rfl,h2⟩
 |bool h1=>rw[hu]at h1;cases h1
 |str h1=>rw[hu]at h1;cases h1
 |list h1=>rw[hu]at h1;cases h1
theorem WT.o5{t:TypeId}{x:V}(hu:P.underlying t=some .bool)(h:WT P t x):∃b,x=.bool b:=by
 cases h with
 |int h1=>rw[hu]at h1;cases h1
 |bool h1=>exact⟨_,rfl⟩
 |str h1=>rw[hu]at h1;cases h1
 |list h1=>rw[hu]at h1;cases h1
theorem WT.rD{t:TypeId}{x:V}(hu:P.underlying t=some .string)(h:WT P t x):∃s,x=.str s∧s.length<=maxLen:=by
 cases h with
 |int h1=>rw[hu]at h1;cases h1
 |bool h1=>rw[hu]at h1;cases h1
 |str h1 h2=>exact⟨_,rfl,h2⟩
 |list h1=>rw[hu]at h1;cases h1
theorem WT.atZ{t e:TypeId}{x:V}(hu:P.underlying t=some (.slice e))(h:WT P t x):∃es,x=.list e es∧es.length<=maxLen∧∀y∈es,pk P e y:=by
 cases h with
 |int h1=>rw[hu]at h1;cases h1
 |bool h1=>rw[hu]at h1;cases h1
 |str h1=>rw[hu]at h1;cases h1
 |list h1 h2 h3 h4=>
  rw[hu]at h1;cases h1;refine⟨_,rfl,h2,fun y hy=>?_⟩;obtain⟨i,hi⟩:=wh hy;exact⟨h3 i y hi,fun j t' hj=>h4 i j y t' hi hj⟩
theorem pk.o6{t:TypeId}{x:V}(ha:cP P t=true)(h:pk P t x):∃xs,x=.agg xs∧xs.length=(bA P t).length∧∀(j:Nat) t' y,(bA P t)[j]?=some t'->xs[j]?=some y->WT P t' y:=by
 obtain⟨xs,rfl,hl⟩:=h.1 ha;refine⟨xs,rfl,hl,fun j t' y hj hy=>?_⟩;have:=h.2 j t' hj;simp only[cT,ha,cond_true,V.atX]at this;rw[Cz _ _ _ hy]at this;exact this
theorem aia{α:Type}{f:α->V}{p:α->Prop}:∀{es:LV},(∀y∈es,∃a,y=f a∧p a)->∃l:List α,es=l.map f∧∀a∈l,p a
 |[],_=>⟨[],rfl,zS⟩
 |y::es,h=>by
  obtain⟨a,rfl,ha⟩:=h y zS;obtain⟨l,rfl,hl⟩:=aia (f:=f) (p:=p) (es:=es) fun z hz=>h z (by simp[hz]);exact⟨a::l,rfl,by
   intro b hb;rcases j4.1 hb with rfl|hb
   .exact ha
   .exact hl b hb⟩
theorem pk.int{t:TypeId}{x:V}(hu:P.underlying t=some (.int .i64))(h:pk P t x):∃n,x=.int .i64 n∧IntKind.min .i64<=n∧n<=IntKind.max .i64:=
 (h.one (by simp[cP,hu])).jo hu
theorem pk.str{t:TypeId}{x:V}(hu:P.underlying t=some .string)(h:pk P t x):∃s,x=.str s∧s.length<=maxLen:=
 (h.one (by simp[cP,hu])).rD hu
end
def un.{u}{A B:Type}{γ:Sort u}(f:A->B->γ)(p:A×B):γ:=f p.1 p.2
def db{A B γ:Type}(f:A->γ)(g:B->γ):A⊕B->γ
 |.inl a=>f a
 |.inr b=>g b
def za:LN->Code->Code
 |[],c=>c
 |0::p,.seq a _=>za p a
 |_::p,.seq _ b=>za p b
 |0::p,.cond _ a _=>za p a
 |_::p,.cond _ _ b=>za p b
 |_::p,.block _ c=>za p c
 |_::p,.loop c=>za p c
 |_,c=>c
inductive rL where
 |loop (c:Code)
 |cond (t:Nat) (x y:Code)
section
variable (P:Program)(A:eh)(C:ab)(L:cm)(f n m:Nat)
def ue:Code->List rL
 |.seq a b=>ue a++ue b
 |.cond (.tmp t) x y=>
  match A.ni f (t*16+15)with
  |none=>ue x++ue y
  |some _=>[.cond t x y]
 |.cond (.const _) x y=>ue x++ue y
 |.block _ c=>ue c
 |.loop c=>[.loop c]
 |_=>[]
def xk:rL->Prop
 |.loop c=>
  match A.ni f (keyOf c+1)with
  |none=>True
  |some S=>∀(β:Type) ds (k:Nat->LV->Option β),L β (keyOf c+1) ds k=(Loop (stepG P A C f n m S c) ds).bind fun r=>k r.1 r.2
 |.cond t x y=>
  match A.ni f (t*16+15)with
  |none=>True
  |some S=>∀(β:Type) ds (k:Nat->LV->Option β),L β (t*16+15) ds k=(Ix P A C f n m t S x y ds).bind fun r=>k r.1 r.2
def rM:List rL->Prop
 |[]=>True
 |b::l=>xk P A C L f n m b∧rM l
variable {P A C L f n m}
theorem rM.left{a b:List rL}:rM P A C L f n m (a++b)->rM P A C L f n m a:=by
 induction a with
 |nil=>exact fun _=>trivial
 |cons x a ih=>exact fun h=>⟨h.1,ih h.2⟩
theorem rM.right{a b:List rL}:rM P A C L f n m (a++b)->rM P A C L f n m b:=by
 induction a with
 |nil=>exact fun h=>h
 |cons x a ih=>exact fun h=>ih h.2
theorem aib:∀{c:Code}{bs:List rL},ue A f c=bs->rM P A C L f n m bs->mi P A C L f n m c:=by
 intro c
 induction c with
 |seq a b Wd We=>
  intro bs h hb;subst h;exact⟨Wd rfl hb.left,We rfl hb.right⟩
 |cond c x y kP kQ=>
  intro bs h hb;subst h;cases c with
  |tmp t=>
   simp only[ue]at hb;simp only[mi];cases hs:A.ni f (t*16+15)with
   |none=>
    rw[hs]at hb;exact⟨kP rfl hb.left,kQ rfl hb.right⟩
   |some S=>
    rw[hs]at hb;have:=hb.1;simp only[xk,hs]at this;exact this
  |const v=>exact⟨kP rfl hb.left,kQ rfl hb.right⟩
  |_=>trivial
 |block id c ih=>
  intro bs h hb;subst h;exact ih rfl hb
 |loop c ih=>
  intro bs h hb;subst h;exact hb.1
 |_=>intro bs h hb;trivial
variable (P A C L f n m)in
def X6{β:Type}(t:Nat)(S:Shape×List (Out×Shape))(x y:Code)(ds:LV)(k:Nat->LV->Option β):Option β:=
 let kc:Out->St->Option β:=fun o st=>
  match o with
  |.norm=>(ways m 0 S.2 (.norm,canon m (A.join f t) st)).bind fun e=>k e.1 e.2
  |o=>(ways m 0 S.2 (o,st)).bind fun e=>k e.1 e.2
 match(cD S.1 ds).sl t with
 |.bool b=>bif b then mJ P A C L f n m x (cD S.1 ds) kc else mJ P A C L f n m y (cD S.1 ds) kc
 |_=>none
theorem at0{t:Nat}{x y:Code}{S:Shape×List (Out×Shape)}(hS:A.ni f (t*16+15)=some S)(hx:mi P A C L f n m x)(hy:mi P A C L f n m y){I R:Type}(enc:I->LV)(sX:I->R->Nat×LV)
  (de:LV->I) (body:I->(β:Type)->(R->Option β)->Option β) (C8:∀ds,cD S.1 (enc (de ds))=cD S.1 ds)
  (e1:∀i (β:Type) (k:Nat->LV->Option β),X6 P A C L f n m t S x y (enc i) k=body i β (fun r=>k (sX i r).1 (sX i r).2))
  (hl:∀(β:Type) ds (k:Nat->LV->Option β),L β (t*16+15) ds k=body (de ds) β (fun r=>k (sX (de ds) r).1 (sX (de ds) r).2)):
  xk P A C L f n m (.cond t x y):=by
 simp only[xk,hS];intro β ds k;rw[hl,<-e1];unfold X6 Ix;rw[C8];simp only;have hk:∀(z:Option (Out×St)),(z.bind fun r=>(match r.1 with
   |.norm=>(ways m 0 S.2 (.norm,canon m (A.join f t) r.2)).bind fun e=>k e.1 e.2
   |o=>(ways m 0 S.2 (o,r.2)).bind fun e=>k e.1 e.2))=((z.bind fun r=>
   match r.1 with
   |.norm=>some (Out.norm,canon m (A.join f t) r.2)
   |_=>some r).bind fun r=>ways m 0 S.2 r).bind fun r=>k r.1 r.2:=by
  intro z;cases z with
  |none=>rfl
  |some r=>obtain⟨o,st⟩:=r;cases o<;>rfl
 cases(cD S.1 ds).sl t with
 |bool b=>
  cases b with
  |true=>simp only[cond_true,PQ P A C f n m x hx];exact hk _
  |false=>simp only[cond_false,PQ P A C f n m y hy];exact hk _
 |_=>rfl
theorem aL{b:rL}{l:List rL}(h:xk P A C L f n m b)(h2:rM P A C L f n m l):rM P A C L f n m (b::l):=⟨h,h2⟩
theorem ag:rM P A C L f n m []:=trivial
theorem at1{key:Nat}{bs:List rL}(hb:ue A key (yI P (A.ll key))=bs)(ht:rM P A (Call P A) L key (Iy P (A.ll key)) (A.sin key).dN.length bs){ds:LV}{r:Option (LV)}
  (h:PS P A (Call P A) L key ds=r):Call P A key ds=r:=by
 rw[atS,are P A (Call P A) key (aib hb ht),h]
end
section
variable (P:Program)(A:eh)
def mT(C:ab)(N f n m:Nat):Code->St->Option (Out×St)
 |.skip,st=>some (.norm,st)
 |.region id ops draw,st=>(E6 P (A.here f id) C n ops draw st).bind fun st'=>some (.norm,canon m (A.live f id) (freeze m (A.pur f id) st'))
 |.seq a b,st=>(mT C N f n m a st).bind fun r=>
  match r.1 with
  |.norm=>mT C N f n m b r.2
  |_=>some r
 |.cond (.tmp t) x y,st=>
  let go (st:St):Option (Out×St):=
   match st.sl t with
   |.bool b=>(bif b then mT C N f n m x st else mT C N f n m y st).bind fun r=>
    match r.1 with
    |.norm=>some (.norm,canon m (A.join f t) r.2)
    |_=>some r
   |_=>none
  match A.ni f (t*16+15)with
  |none=>go st
  |some S=>(nj m S.1 st).bind fun ds=>((go (cD S.1 ds)).bind fun r=>ways m 0 S.2 r).bind fun e=>pQ 0 S.2 e.1 e.2 fun o st=>some (o,st)
 |.cond (.const (.bool b)) x y,st=>bif b then mT C N f n m x st else mT C N f n m y st
 |.block id c,st=>(mT C N f n m c st).bind fun r=>
  match r.1 with
  |.norm=>some (.norm,canon m (A.blk f id) r.2)
  |.exit ax=>bif Nat.beq ax id then some (.norm,canon m (A.blk f id) r.2)else some r
  |.ret=>some r
 |.loop c,st=>
  match A.ni f (keyOf c+1)with
  |none=>none
  |some S=>(nj m S.1 st).bind fun ds=>(jk (fun ds=>rr m S.1 S.2 (mT C N f n m c (cD S.1 ds))) N ds).bind fun e=>pQ 0 S.2 e.1 e.2 fun o st=>some (o,st)
 |.exit id,st=>some (.exit id,st)
 |.ret,st=>some (.ret,st)
 |_,_=>none
def X7(C:ab)(N f:Nat)(ds:LV):Option (LV):=
 match P.funcs[A.ll f]?with
 |none=>none
 |some fn=>
  match fn.body with
  |none=>none
  |some c=>bif mI 0 (A.sin f).cW&&(Nat.ble (A.sin f).cW.length fn.ntmps&&((A.sin f).ok&&(mI 0 (A.j6 f).cW&&(Nat.beq (A.j6 f).cW.length fn.results.size&&va (sH (A.sin f).dN.length (A.mv f))))))then
    (mT P A C N f fn.ntmps (A.sin f).dN.length c (Iw A f ds)).bind fun r=>
     match r.1 with
     |.exit _=>none
     |_=>((Ck P A f fn (A.sin f).dN.length r.2).run C r.2.hp).map (·.1)
   else none
def AY(N:Nat):Nat->ab
 |0=>fun _ _=>none
 |n+1=>X7 P A (AY N n) N
variable {P A}
theorem aic{X R:Type}{s1 s2:X->Option (X⊕R)}(h:∀x y,s1 x=some y->s2 x=some y):∀(n:Nat) (x:X) (r:R),jk s1 n x=some r->jk s2 n x=some r
 |0,x,r,e=>by cases e
 |n+1,x,r,e=>by
  simp only[jk]at e⊢;obtain⟨y,h1,h2⟩:=bind_some e;rw[h x y h1];cases y with
  |inl z=>exact aic h n z r h2
  |inr q=>exact h2
theorem at2{C:ab}{N f n m:Nat}:∀(c:Code){st:St}{r:Out×St},mT P A C N f n m c st=some r->exec P A C f n m c st=some r:=by
 intro c
 induction c with
 |skip=>exact fun e=>e
 |exit id=>exact fun e=>e
 |ret=>exact fun e=>e
 |region id ops draw=>exact fun e=>e
 |seq x y kP kQ=>
  intro st r e;simp only[mT,exec]at e⊢;obtain⟨⟨o,s1⟩,h1,h2⟩:=bind_some e;rw[kP h1];cases o with
  |norm=>exact kQ h2
  |exit id=>exact h2
  |ret=>exact h2
 |cond c x y kP kQ=>
  intro st r e;cases c with
  |tmp t=>
   have go:∀{st:St}{r:Out×St},(match st.sl t with
     |.bool b=>(bif b then mT P A C N f n m x st else mT P A C N f n m y st).bind fun r=>
      match r.1 with
      |.norm=>some (.norm,canon m (A.join f t) r.2)
      |_=>some r
     |_=>none)=some r->(match st.sl t with
     |.bool b=>(bif b then exec P A C f n m x st else exec P A C f n m y st).bind fun r=>
      match r.1 with
      |.norm=>some (.norm,canon m (A.join f t) r.2)
      |_=>some r
     |_=>none)=some r:=by
    intro st r e;cases hs:st.sl t<;>rw[hs]at e<;>simp only at e⊢ <;>first|(cases e;done)|skip
    rename_i b;obtain⟨x1,h1,h2⟩:=bind_some e;cases b with
    |true=>simp only[cond_true,kP h1,Option.bind_some];exact h2
    |false=>simp only[cond_false,kQ h1,Option.bind_some];exact h2
   simp only[mT,exec]at e⊢;split at e
   .rename_i hS
    try rw[hS]
    exact go e
   .rename_i S hS;obtain⟨ds,h1,h2⟩:=bind_some e;obtain⟨e',h3,h4⟩:=bind_some h2;obtain⟨r1,h5,h6⟩:=bind_some h3
    try rw[hS]
    simp only[h1,Option.bind_some];exact(congrArg (fun z:Option (Out×St)=>(z.bind fun r=>ways m 0 S.2 r).bind fun e=>pQ 0 S.2 e.1 e.2 fun o st=>some (o,st)) (go h5)).trans (by simp only[Option.bind_some,h6];exact h4)
  |const v=>
   cases v with
   |bool b=>
    simp only[mT,exec]at e⊢;cases b with
    |true=>exact kP e
    |false=>exact kQ e
   |_=>simp only[mT]at e;cases e
  |_=>simp only[mT]at e;cases e
 |block id c ih=>
  intro st r e;simp only[mT,exec]at e⊢;obtain⟨x1,h1,h2⟩:=bind_some e;rw[ih h1];exact h2
 |loop c ih=>
  intro st r e;simp only[mT,exec]at e⊢;split at e
  .cases e
  .rename_i S hS;obtain⟨ds,h1,h2⟩:=bind_some e;obtain⟨e',h3,h4⟩:=bind_some h2
   try rw[hS]
   simp only[h1,Option.bind_some];rw[EV (aic (s2:=fun ds=>rr m S.1 S.2 (exec P A C f n m c (cD S.1 ds))) (fun x y JD=>by
    unfold rr at JD⊢;obtain⟨z,h5,h6⟩:=bind_some JD;rw[ih h5];exact h6) N ds e' h3)]
   exact h4
 |_=>intro st r e;simp only[mT]at e;cases e
theorem at3{C:ab}{N f:Nat}{ds es:LV}(e:X7 P A C N f ds=some es):vc P A C f ds=some es:=by
 unfold X7 at e;unfold vc;cases hf:P.funcs[A.ll f]?with
 |none=>rw[hf]at e;cases e
 |some fn=>
  rw[hf]at e;simp only at e⊢;cases hb:fn.body with
  |none=>rw[hb]at e;cases e
  |some c=>
   rw[hb]at e;simp only at e⊢;cases hc:(mI 0 (A.sin f).cW&&(Nat.ble (A.sin f).cW.length fn.ntmps&&((A.sin f).ok&&(mI 0 (A.j6 f).cW&&(Nat.beq (A.j6 f).cW.length fn.results.size&&va (sH (A.sin f).dN.length (A.mv f)))))))with
   |false=>rw[hc]at e;cases e
   |true=>
    rw[hc]at e;simp only[cond_true]at e⊢;obtain⟨x,h1,h2⟩:=bind_some e;rw[at2 c h1];exact h2
theorem aid{N:Nat}:∀n {f:Nat}{a r:LV},AY P A N n f a=some r->pR P A n f a=some r
 |0,f,a,r,h=>by cases h
 |n+1,f,a,r,h=>by
  obtain⟨M,hM⟩:=Q3 (C:=AY P A N n) (D:=fun _=>pR P A n) (fun f a r h=>⟨0,fun _ _=>aid n h⟩) (at3 h);exact hM M (aC _)
theorem Q9{N n f:Nat}{a r:LV}(h:AY P A N n f a=some r):Call P A f a=some r:=JE.2 ⟨n,aid n h⟩
end
inductive LK where
 |int (k:IntKind)
 |bool
 |str
 |list (e:TypeId)
 |nat
def LK.Ty:LK->Type
 |.int _=>Int
 |.bool=>Bool
 |.str=>List UInt8
 |.list _=>LV
 |.nat=>Nat
def LK.enc:(k:LK)->k.Ty->V
 |.int k,n=>.int k n
 |.bool,b=>.bool b
 |.str,s=>.str s
 |.list e,l=>.list e l
 |.nat,n=>fw n
def LK.dec:(k:LK)->V->k.Ty
 |.int _,v=>v.toInt
 |.bool,v=>v.toBool
 |.str,v=>v.toStr
 |.list _,v=>v.toList
 |.nat,v=>qu v
theorem LK.aie:∀(k:LK) (x:k.Ty),k.dec (k.enc x)=x
 |.int _,_=>rfl
 |.bool,_=>rfl
 |.str,_=>rfl
 |.list _,_=>rfl
 |.nat,_=>rfl
def X8:LN->List LK
 |[]=>[]
 |_::l=>.nat::X8 l
def LS.ks:LS->List LK
 |.int k=>[.int k]
 |.bool=>[.bool]
 |.str=>[.str]
 |.list e=>[.list e]
 |.sub .. =>[.nat,.nat]
 |.ptr _=>[.nat,.nat]
 |.row _ _ cs=>X8 cs
 |.eJ _ cs _=>.nat::X8 cs
 |_=>[]
def FJ:List LS->List LK
 |[]=>[]
 |l::ls=>l.ks++FJ ls
def VS.ks:VS->List LK
 |.one l=>l.ks
 |.agg ls=>FJ ls
 |.ct ls=>FJ ls
 |.fn _ a b=>FJ a++FJ b
 |.pref _ ls=>FJ ls
def aif:List VS->List LK
 |[]=>[]
 |l::ls=>l.ks++aif ls
def BS.ks:BS->List LK
 |.var _ cs=>aif cs
 |.arr e _=>[.list e]
 |.nest e=>[.list e]
 |.dead=>[]
 |.map t=>[.list t]
def aih:List (Nat×VS)->List LK
 |[]=>[]
 |p::l=>p.2.ks++aih l
def aii:List BS->List LK
 |[]=>[]
 |b::l=>b.ks++aii l
def Shape.ks(S:Shape):List LK:=aih S.cW++aii S.dN
def X9:LN->LV->LV
 |[],_=>[]
 |_::cs,ds=>fw (qu (V.nth ds 0))::X9 cs (ds.drop 1)
def LS.norm:LS->LV->LV
 |.int k,ds=>[.int k (V.nth ds 0).toInt]
 |.bool,ds=>[.bool (V.nth ds 0).toBool]
 |.str,ds=>[.str (V.nth ds 0).toStr]
 |.list e,ds=>[.list e (V.nth ds 0).toList]
 |.sub ..,ds=>[fw (qu (V.nth ds 0)),fw (qu (V.nth ds 1))]
 |.ptr _,ds=>[fw (qu (V.nth ds 0)),fw (qu (V.nth ds 1))]
 |.row _ _ cs,ds=>X9 cs ds
 |.eJ _ cs _,ds=>fw (qu (V.nth ds 0))::X9 cs (ds.drop 1)
 |_,_=>[]
def FK:List LS->LV->LV
 |[],_=>[]
 |l::ls,ds=>l.norm ds++FK ls (ds.drop l.size)
def VS.norm:VS->LV->LV
 |.one l,ds=>l.norm ds
 |.agg ls,ds=>FK ls ds
 |.ct ls,ds=>FK ls ds
 |.fn _ a b,ds=>FK a ds++FK b (ds.drop (oY a))
 |.pref _ ls,ds=>FK ls ds
def aij:List VS->LV->LV
 |[],_=>[]
 |l::ls,ds=>l.norm ds++aij ls (ds.drop l.size)
def BS.norm:BS->LV->LV
 |.var _ cs,ds=>aij cs ds
 |.arr e _,ds=>[.list e (V.nth ds 0).toList]
 |.nest e,ds=>[.list e (V.nth ds 0).toList]
 |.dead,_=>[]
 |.map t,ds=>[.list t (V.nth ds 0).toList]
def aik:List (Nat×VS)->LV->LV
 |[],_=>[]
 |p::l,ds=>p.2.norm ds++aik l (ds.drop p.2.size)
def ail:List BS->LV->LV
 |[],_=>[]
 |b::l,ds=>b.norm ds++ail l (ds.drop b.size)
def Shape.norm(S:Shape)(ds:LV):LV:=aik S.cW ds++ail S.dN (ds.drop (u9 S.cW))
def C9:LK->List LK->Type
 |k,[]=>k.Ty
 |k,k'::ks=>k.Ty×C9 k' ks
def pZ:List LK->Type
 |[]=>Unit
 |k::ks=>C9 k ks
def Db:(k:LK)->(ks:List LK)->C9 k ks->LV
 |k,[],x=>[k.enc x]
 |k,k'::ks,x=>k.enc x.1::Db k' ks x.2
def qL:(ks:List LK)->pZ ks->LV
 |[],_=>[]
 |k::ks,x=>Db k ks x
def JK:(k:LK)->(ks:List LK)->LV->C9 k ks
 |k,[],l=>k.dec (V.nth l 0)
 |k,k'::ks,l=>(k.dec (V.nth l 0),JK k' ks l.tail)
def vE:(ks:List LK)->LV->pZ ks
 |[],_=>()
 |k::ks,l=>JK k ks l
theorem aim:∀(k:LK) (ks:List LK) (x:C9 k ks) (r:LV),JK k ks (Db k ks x++r)=x
 |k,[],x,r=>LK.aie k x
 |k,k'::ks,x,r=>by
  show(k.dec (k.enc x.1),JK k' ks (Db k' ks x.2++r))=x;rw[LK.aie,aim k' ks];rfl
def FL:List LK->Type 1->Type 1
 |[],R=>R
 |k::ks,R=>k.Ty->FL ks R
def apN:(k:LK)->(ks:List LK)->{R:Type 1}->FL (k::ks) R->C9 k ks->R
 |_,[],_,f,x=>f x
 |_,k'::ks,_,f,x=>apN k' ks (f x.1) x.2
def Dc:(ks:List LK)->{R:Type 1}->FL ks R->pZ ks->R
 |[],_,f,_=>f
 |k::ks,_,f,x=>apN k ks f x
def FM{α:Type}(b:Bool):List Bool->List α->List α
 |[],_=>[]
 |_,[]=>[]
 |c::m,x::l=>bif c==b then x::FM b m l else FM b m l
def merge:List Bool->LV->LV->LV
 |[],_,_=>[]
 |true::m,i,x=>V.nth x 0::merge m i x.tail
 |false::m,i,x=>V.nth i 0::merge m i.tail x
def FN:LN->List LK->List LK
 |[],_=>[]
 |_,[]=>[]
 |0::t,k::ks=>k::FN t ks
 |(_+1)::t,_::ks=>FN t ks
abbrev kC:=LN×List LK
def kC.fresh(w:kC):List LK:=FN w.1 w.2
def put:LN->LV->LV->LV
 |[],_,_=>[]
 |0::t,ds,x=>V.nth x 0::put t ds x.tail
 |(j+1)::t,ds,x=>V.nth ds j::put t ds x
def Dd:LN->LV->LV
 |[],_=>[]
 |0::t,l=>V.nth l 0::Dd t l.tail
 |(_+1)::t,l=>Dd t l.tail
def AZ:kC->List kC->Type
 |w,[]=>pZ w.fresh
 |w,w'::ws=>pZ w.fresh⊕AZ w' ws
def zb:List kC->Type
 |[]=>Empty
 |w::ws=>AZ w ws
def wN(ds:LV){β:Type}(k:Nat->LV->Option β):Nat->(w:kC)->(ws:List kC)->AZ w ws->Option β
 |j,w,[],r=>k j (put w.1 ds (qL w.fresh r))
 |j,w,w'::ws,r=>db (fun x=>k j (put w.1 ds (qL w.fresh x))) (fun y=>wN ds k (j+1) w' ws y) r
def wT(ds:LV){β:Type}(k:Nat->LV->Option β):(ws:List kC)->zb ws->Option β
 |[],r=>Empty.elim r
 |w::ws,r=>wN ds k 0 w ws r
def vF(ds:LV):Nat->(w:kC)->(ws:List kC)->AZ w ws->Nat×LV
 |j,w,[],r=>(j,put w.1 ds (qL w.fresh r))
 |j,w,_::_,.inl x=>(j,put w.1 ds (qL w.fresh x))
 |j,_,w'::ws,.inr y=>vF ds (j+1) w' ws y
def FO(ds:LV):(ws:List kC)->zb ws->Nat×LV
 |[],r=>Empty.elim r
 |w::ws,r=>vF ds 0 w ws r
theorem ain(ds:LV){β:Type}(k:Nat->LV->Option β):∀(j:Nat) (w:kC) (ws:List kC) (r:AZ w ws),wN ds k j w ws r=k (vF ds j w ws r).1 (vF ds j w ws r).2
 |_,_,[],_=>rfl
 |_,_,_::_,.inl _=>rfl
 |j,_,w'::ws,.inr y=>ain ds k (j+1) w' ws y
theorem Ra(ds:LV){β:Type}(k:Nat->LV->Option β):∀(ws:List kC) (r:zb ws),wT ds k ws r=k (FO ds ws r).1 (FO ds ws r).2
 |[],r=>Empty.elim r
 |w::ws,r=>ain ds k 0 w ws r
def FP:Nat->(w:kC)->(ws:List kC)->LV->AZ w ws
 |_,w,[],l=>vE w.fresh (Dd w.1 l)
 |0,w,_::_,l=>.inl (vE w.fresh (Dd w.1 l))
 |j+1,_,w'::ws,l=>.inr (FP j w' ws l)
def deT(j:Nat):(ws:List kC)->LV->Option (zb ws)
 |[],_=>none
 |w::ws,l=>some (FP j w ws l)
def FQ:LN->LV->LV
 |[],_=>[]
 |0::t,x=>V.nth x 0::FQ t x.tail
 |(_+1)::t,x=>FQ t x
theorem Ya:∀(t:LN) (ds x:LV),Dd t (put t ds x)=FQ t x
 |[],_,_=>rfl
 |0::t,ds,x=>congrArg (V.nth x 0:: ·) (Ya t ds x.tail)
 |(_+1)::t,ds,x=>Ya t ds x
theorem Yb:∀(t:LN) (ks:List LK) (k:LK) (xl:List LK),FN t ks=k::xl->∀x:C9 k xl,∃r,FQ t (Db k xl x)=Db k xl x++r
 |[],_,_,_,h,_=>by cases h
 |_::_,[],_,_,h,_=>by simp[FN]at h
 |0::t,a::ks,k,xl,h,x=>by
  simp only[FN,EN]at h;obtain⟨rfl,h2⟩:=h;cases xl with
  |nil=>exact⟨FQ t [],rfl⟩
  |cons k' xl=>
   obtain⟨r,hr⟩:=Yb t ks k' xl h2 x.2;exact⟨r,congrArg (a.enc x.1:: ·) hr⟩
 |(_+1)::t,a::ks,k,xl,h,x=>Yb t ks k xl h x
theorem aio(w:kC)(ds:LV)(x:pZ w.fresh):vE w.fresh (Dd w.1 (put w.1 ds (qL w.fresh x)))=x:=by
 rw[Ya];revert x;generalize hf:w.fresh=f;cases f with
 |nil=>intro x;rfl
 |cons k ks=>
  intro x;obtain⟨r,hr⟩:=Yb w.1 w.2 k ks hf x;show JK k ks (FQ w.1 (Db k ks x))=x;rw[hr];exact aim k ks x r
theorem aip(ds:LV):∀(j:Nat) (w:kC) (ws:List kC) (r:AZ w ws),j<=(vF ds j w ws r).1
 |_,_,[],_=>aC _
 |_,_,_::_,.inl _=>aC _
 |j,_,w'::ws,.inr y=>mD (Nat.le_succ j) (aip ds (j+1) w' ws y)
theorem at4(w:kC)(l:LV):∀j,FP j w [] l=vE w.fresh (Dd w.1 l)
 |0=>rfl
 |_+1=>rfl
theorem aiq(ds:LV):∀(j:Nat) (w:kC) (ws:List kC) (r:AZ w ws),FP ((vF ds j w ws r).1-j) w ws (vF ds j w ws r).2=r
 |j,w,[],r=>(at4 w _ _).trans (aio w ds r)
 |j,w,w'::ws,.inl x=>by
  show FP (j-j) w (w'::ws) (put w.1 ds (qL w.fresh x))=.inl x;rw[Nat.sub_self];exact congrArg Sum.inl (aio w ds x)
 |j,w,w'::ws,.inr y=>by
  have h1:=aip ds (j+1) w' ws y;have h2:=aiq ds (j+1) w' ws y;show FP ((vF ds (j+1) w' ws y).1-j) w (w'::ws) (vF ds (j+1) w' ws y).2=.inr y;obtain⟨d,hd⟩:∃d,(vF ds (j+1) w' ws y).1=j+1+d:=⟨(vF ds (j+1) w' ws y).1-(j+1),zO⟩
  rw[hd]at h2⊢;rw[show j+1+d-(j+1)=d by omega]at h2;rw[show j+1+d-j=d+1 by omega];exact congrArg Sum.inr h2
theorem at5(ds:LV):∀(ws:List kC) (r:zb ws),deT (FO ds ws r).1 ws (FO ds ws r).2=some r
 |[],r=>Empty.elim r
 |w::ws,r=>congrArg some (aiq ds 0 w ws r)
section
variable {P:Program}{A:eh}{C:ab}{L:cm}{f n m:Nat}
theorem at6{c:Code}{S:Shape×List (Out×Shape)}(hS:A.ni f (keyOf c+1)=some S)(hL:mi P A C L f n m c){I X R:Type}(enc:I->X->LV)(sX:I->R->Nat×LV)
  (xm:LV->I) (zc:LV->X) (Rb:Nat×LV->Option R) (body:I->X->(β:Type)->(X->Option β)->(R->Option β)->Option β)
  (C8:∀ds,cD S.1 (enc (xm ds) (zc ds))=cD S.1 ds) (Yc:∀i x,zc (enc i x)=x) (hdr:∀i r,Rb (sX i r)=some r)
  (e1:∀i x (β:Type) (k:(LV⊕(Nat×LV))->Option β),mJ P A C L f n m c (cD S.1 (enc i x)) (fun o st=>(rr m S.1 S.2 (some (o,st))).bind k)=
   body i x β (fun y=>k (.inl (enc i y))) (fun r=>k (.inr (sX i r))))
  (hl:∀(β:Type) ds (k:Nat->LV->Option β),L β (keyOf c+1) ds k=(Loop (fun x=>body (xm ds) x (X⊕R) (fun y=>some (.inl y)) (fun r=>some (.inr r))) (zc ds)).bind fun r=>k (sX (xm ds) r).1 (sX (xm ds) r).2):
  xk P A C L f n m (.loop c):=by
 simp only[xk,hS];intro β ds k;rw[hl];have hex:∀(z:Option (Out×St)),rr m S.1 S.2 z=z.bind fun r=>rr m S.1 S.2 (some (r.1,r.2)):=by
  intro z;cases z<;>rfl
 have hs:∀i x,stepG P A C f n m S c (enc i x)=(body i x (X⊕R) (fun y=>some (.inl y)) (fun r=>some (.inr r))).map fun|.inl y=>.inl (enc i y)|.inr r=>.inr (sX i r):=by
  intro i x;have k1:=e1 i x _ (fun z=>some z);have k2:=e1 i x (X⊕R) (fun|.inl ds=>some (.inl (zc ds))|.inr e=>(Rb e).map .inr);have k3:=e1 i x (LV⊕(Nat×LV)) (fun|.inl ds=>some (.inl (enc i (zc ds)))|.inr e=>(Rb e).map fun r=>.inr (sX i r));simp only[Yc,hdr,Option.map_some]at k2 k3;unfold stepG;rw[hex];rw[PQ P A C f n m c hL]at k1 k2 k3;rw[<-k2];refine Eq.trans ?_ (k1.trans (k3.symm.trans ?_))
  .simp
  .cases exec P A C f n m c (cD S.1 (enc i x))with
   |none=>rfl
   |some r=>
    simp only[Option.bind_some];cases rr m S.1 S.2 (some (r.1,r.2))with
    |none=>rfl
    |some z=>
     cases z with
     |inl _=>rfl
     |inr e=>simp only[Option.bind_some];cases Rb e<;>rfl
 have h0:stepG P A C f n m S c ds=stepG P A C f n m S c (enc (xm ds) (zc ds)):=by
  unfold stepG;rw[C8]
 have:Loop (stepG P A C f n m S c) ds=(Loop (fun x=>body (xm ds) x (X⊕R) (fun y=>some (.inl y)) (fun r=>some (.inr r))) (zc ds)).map (sX (xm ds)):=by
  rw[Pm,h0,<-Pm];exact arc (enc (xm ds)) (sX (xm ds)) (fun x=>hs _ _) (zc ds)
 rw[this];cases Loop (fun x=>body (xm ds) x (X⊕R) (fun y=>some (.inl y)) (fun r=>some (.inr r))) (zc ds)<;>rfl
abbrev JL(S:Shape)(mk:List Bool):List LK:=FM false mk S.ks
abbrev De(S:Shape)(mk:List Bool):List LK:=FM true mk S.ks
def zd(ts:List (LN))(W:List (Out×Shape)):List kC:=
 match ts,W with
 |t::ts,w::W=>(t,w.2.ks)::zd ts W
 |_,_=>[]
abbrev JM(S:Shape)(mk:List Bool)(i:pZ (JL S mk))(x:pZ (De S mk)):LV:=merge mk (qL _ i) (qL _ x)
abbrev Yd(S:Shape)(mk:List Bool)(i:pZ (JL S mk)):LV:=merge mk (qL _ i) []
abbrev Rc(S:Shape)(mk:List Bool)(ds:LV):pZ (JL S mk):=vE _ (FM false mk (S.norm ds))
abbrev Re(S:Shape)(mk:List Bool)(ds:LV):pZ (De S mk):=vE _ (FM true mk (S.norm ds))
abbrev air(X R:Type):Type 1:=(β:Type)->(X->Option β)->(R->Option β)->Option β
abbrev Rf(S:Shape×List (Out×Shape))(mk:List Bool)(ts:List (LN)):Type 1:=FL (JL S.1 mk) (FL (De S.1 mk) (air (pZ (De S.1 mk)) (zb (zd ts S.2))))
abbrev Ye(S:Shape×List (Out×Shape))(mk:List Bool)(ts:List (LN))(b:Rf S mk ts)(i:pZ (JL S.1 mk))(x:pZ (De S.1 mk)):air (pZ (De S.1 mk)) (zb (zd ts S.2)):=Dc _ (Dc _ b i) x
def Yf(S:Shape×List (Out×Shape))(mk:List Bool)(ts:List (LN))(b:Rf S mk ts){β:Type}(ds:LV)(k:Nat->LV->Option β):Option β:=
 (Loop (fun x=>Ye S mk ts b (Rc S.1 mk ds) x (pZ (De S.1 mk)⊕zb (zd ts S.2)) (fun y=>some (.inl y)) (fun r=>some (.inr r))) (Re S.1 mk ds)).bind (wT (Yd S.1 mk (Rc S.1 mk ds)) k (zd ts S.2))
theorem bB{c:Code}(S:Shape×List (Out×Shape))(mk:List Bool)(ts:List (LN))(b:Rf S mk ts)(hL:mi P A C L f n m c)(hS:A.ni f (keyOf c+1)=some S:=by kernel_rfl)
  (C8:∀ds,cD S.1 (JM S.1 mk (Rc S.1 mk ds) (Re S.1 mk ds))=cD S.1 ds:=by intros;kernel_rfl) (Yc:∀i x,Re S.1 mk (JM S.1 mk i x)=x:=by intros;kernel_rfl)
  (e1:∀i x (β:Type) (k:(LV⊕(Nat×LV))->Option β),mJ P A C L f n m c (cD S.1 (JM S.1 mk i x)) (fun o st=>(rr m S.1 S.2 (some (o,st))).bind k)=
   Ye S mk ts b i x β (fun y=>k (.inl (JM S.1 mk i y))) (wT (Yd S.1 mk i) (fun j l=>k (.inr (j,l))) (zd ts S.2)):=by intros;kernel_rfl)
  (hl:∀(β:Type) ds (k:Nat->LV->Option β),L β (keyOf c+1) ds k=Yf S mk ts b ds k:=by intros;kernel_rfl):
  xk P A C L f n m (.loop c):=
 at6 hS hL (JM S.1 mk) (fun i r=>FO (Yd S.1 mk i) _ r) (Rc S.1 mk) (Re S.1 mk) (fun e=>deT e.1 _ e.2) (Ye S mk ts b) C8 Yc (fun i r=>at5 _ _ r)
  (fun i x β k=>by
   rw[e1];congr 1;funext r;exact Ra _ _ _ r)
  (fun β ds k=>by
   rw[hl];unfold Yf;congr 1;funext r;exact Ra _ _ _ r)
abbrev Yg(S:Shape×List (Out×Shape))(ts:List (LN)):Type 1:=FL S.1.ks ((β:Type)->(zb (zd ts S.2)->Option β)->Option β)
def ais(S:Shape×List (Out×Shape))(ts:List (LN))(b:Yg S ts){β:Type}(ds:LV)(k:Nat->LV->Option β):Option β:=
 Dc S.1.ks b (vE _ (S.1.norm ds)) β (wT (qL S.1.ks (vE _ (S.1.norm ds))) k (zd ts S.2))
theorem fJ{t:Nat}{x y:Code}(S:Shape×List (Out×Shape))(ts:List (LN))(b:Yg S ts)(hx:mi P A C L f n m x)(hy:mi P A C L f n m y)(hS:A.ni f (t*16+15)=some S:=by kernel_rfl)
  (C8:∀ds,cD S.1 (qL S.1.ks (vE _ (S.1.norm ds)))=cD S.1 ds:=by intros;kernel_rfl)
  (e1:∀i (β:Type) (k:Nat->LV->Option β),X6 P A C L f n m t S x y (qL S.1.ks i) k=Dc S.1.ks b i β (wT (qL S.1.ks i) k (zd ts S.2)):=by intros;kernel_rfl)
  (hl:∀(β:Type) ds (k:Nat->LV->Option β),L β (t*16+15) ds k=ais S ts b ds k:=by intros;kernel_rfl):
  xk P A C L f n m (.cond t x y):=
 at0 hS hx hy (qL S.1.ks) (fun i r=>FO (qL S.1.ks i) _ r) (fun ds=>vE _ (S.1.norm ds)) (Dc S.1.ks b) C8
  (fun i β k=>by
   rw[e1];exact congrArg (Dc S.1.ks b i β) (funext fun r=>Ra _ _ _ r))
  (fun β ds k=>by
   rw[hl];exact congrArg (Dc S.1.ks b (vE _ (S.1.norm ds)) β) (funext fun r=>Ra _ _ _ r))
end
theorem ay{P:Program}{A:eh}{C:ab}{L:cm}{f n m:Nat}{c:Code}{bs:List rL}(hb:rM P A C L f n m bs)(h:ue A f c=bs:=by kernel_rfl):mi P A C L f n m c:=aib h hb
theorem aM{P:Program}{A:eh}{L:cm}{key:Nat}{bs:List rL}{ds:LV}{r x:Option (LV)}(ht:rM P A (Call P A) L key (Iy P (A.ll key)) (A.sin key).dN.length bs)(h:x=r)
  (hb:ue A key (yI P (A.ll key))=bs:=by kernel_rfl) (e:PS P A (Call P A) L key ds=x:=by kernel_rfl):Call P A key ds=r:=at1 hb ht (e.trans h)
def bC(j:Nat)(S:Shape×List (Out×Shape))(mk:List Bool)(ts:List (LN))(b:Rf S mk ts)(L:cm):cm:=fun β n ds k=>bif Nat.beq n j then Yf S mk ts b ds k else L β n ds k
def fK(j:Nat)(S:Shape×List (Out×Shape))(ts:List (LN))(b:Yg S ts)(L:cm):cm:=fun β n ds k=>bif Nat.beq n j then ais S ts b ds k else L β n ds k
def aO:cm:=fun _ _ _ _=>none
structure SE where
 T:TypeId
 cmp:Nat
 ex:V->LV
 k:Nat->Nat
abbrev FR(l:LV)(j:Int){β:Type}(x:Option β):Option β:=bif(decide (0<=j))&&(decide (j<(l.length:Int)))then x else none
abbrev aj(l:LV)(j:Int){β:Type}(f:V->Option β):Option β:=bif(decide (0<=j))&&(decide (j<(l.length:Int)))then(l[j.toNat]?).bind f else none
abbrev az(l:LV)(j:Int)(v:V):LV:=l.set j.toNat v
theorem wrap_u64(n:Int):IntKind.u64.wrap n=n%18446744073709551616:=by simp[IntKind.wrap,IntKind.bits,IntKind.signed]
theorem sY{A:Nat}(h:A<2^64):wU (A:Int)=A:=by
 unfold wU;rw[wrap_u64];omega
theorem FT{n A:Nat}(h:A<2^n):(BitVec.ofInt n (A:Int)).toNat=A:=by
 rw[BitVec.ofInt_natCast,BitVec.toNat_ofNat];exact HZ h
theorem at7{n A B:Nat}(hA:A<2^n)(hB:B<2^n):(BitVec.ofInt n (A:Int)|||BitVec.ofInt n (B:Int)).toNat=A|||B:=by
 rw[BitVec.toNat_or,FT hA,FT hB]
theorem bv_and{n A B:Nat}(hA:A<2^n)(hB:B<2^n):(BitVec.ofInt n (A:Int)&&&BitVec.ofInt n (B:Int)).toNat=A&&&B:=by
 rw[BitVec.toNat_and,FT hA,FT hB]
theorem aua{n A B:Nat}(hA:A<2^n)(i:Nat):(BitVec.ofInt n (A:Int)&&&~~~BitVec.ofInt n (B:Int)).toNat.testBit i=(A.testBit i&&!(B.testBit i)):=by
 rw[BitVec.testBit_toNat,BitVec.ofInt_natCast,BitVec.ofInt_natCast];by_cases hi:i<n
 .simp only[BitVec.getLsbD_and,BitVec.getLsbD_not,BitVec.getLsbD_ofNat,hi,uU,uX]
 .have hf:A.testBit i=false:=ET (gU hA (pK zO zO));rw[hf,Bool.false_and,BitVec.getLsbD_of_ge _ _ zO]
theorem u64_or{A B:Nat}(hA:A<2^64)(hB:B<2^64):wU ((bU (A:Int)|||bU (B:Int)).toNat)=((A|||B:Nat):Int):=by
 rw[at7 (n:=kU) hA hB];exact sY (qt hA hB)
theorem u64_and{A B:Nat}(hA:A<2^64)(hB:B<2^64):wU ((bU (A:Int)&&&bU (B:Int)).toNat)=((A&&&B:Nat):Int):=by
 rw[bv_and (n:=kU) hA hB];exact sY (uS B6 hA)
theorem u64_andNot{A:Nat}(B:Nat)(hA:A<2^64):∃D:Nat,D<2^64∧(∀i,D.testBit i=(A.testBit i&&!(B.testBit i)))∧
  wU ((bU (A:Int)&&&~~~bU (B:Int)).toNat)=(D:Int):=
 ⟨(bU (A:Int)&&&~~~bU (B:Int)).toNat,BitVec.isLt _,fun i=>aua hA i,sY (BitVec.isLt _)⟩
theorem A0{m:Nat}(h:m<64):wU (1*2^(min m kU))=((2^m:Nat):Int):=by
 have e:min m kU=m:=BZ (by show m<=64;omega);rw[e];have:(1*2^m:Int)=((2^m:Nat):Int):=zS;rw[this];exact sY (kK zO h)
theorem FU{A m:Nat}(h:m<64):Int.fdiv (A:Int) (2^(min m kU))=((A/2^m:Nat):Int):=by
 have e:min m kU=m:=BZ (by show m<=64;omega);rw[e];have:(2^m:Int)=((2^m:Nat):Int):=zS;rw[this,Int.fdiv_eq_ediv_of_nonneg _ (Int.natCast_nonneg _)];exact Int.natCast_ediv ..
theorem Yh{A m:Nat}(hA:A<2^64)(h:m<64):
  (wU ((bU (Int.fdiv (A:Int) (2^(min m kU)))&&&bU 1).toNat)==1)=A.testBit m:=by
 rw[FU h];have:=u64_and (A:=A/2^m) (B:=1) (uS (Nat.div_le_self _ _) hA) zO;rw[show((1:Nat):Int)=1 from rfl]at this;rw[this];rw[Nat.and_one_is_mod,Nat.testBit_eq_decide_div_mod_eq];by_cases hb:A/2^m%2=1
 .simp[hb]
 .have:A/2^m%2=0:=zO;simp[this]
end Go.AM
