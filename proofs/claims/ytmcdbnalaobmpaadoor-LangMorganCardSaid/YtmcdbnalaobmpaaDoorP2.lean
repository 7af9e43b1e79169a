/-
  Functions of the program, lifted to plain data.
-/
import Derived.Great.BuildSlice
import Derived.Maps.Keyed
import Derived.WideKeyArr
import Derived.MapKept
import Derived.ChangeMaps4
import Derived.Carry
import Derived.Lib.AppendStr
import Derived.Laws.BytesString
import Derived.Lib.Builder
import Derived.Lib.UnsafeStr
import Derived.Test.YtmcdbnalaobmpaaDoorP1
set_option linter.unusedVariables false
set_option linter.unusedSimpArgs false
namespace Go.AM
section
variable {P:Program} {w w':World} {I I':Nat→Prop} {β β':Nat→Option Nat} {hp hp':Nat→Option Blk} {C:CallF} {B:Nat} {M:Nat→Prop} {w0:Start}
theorem store_sim (S:Sim P w I β hp B M w0) {t:TypeId} {a v:Value} {xa x:V} {r:R} {rd:List Nat} (ha:VRel P w I β hp a xa) (hv:VRel P w I β hp v x)
  (h:(storeRd P t xa x).run C hp=some (r,rd)):StoreOk P ((Instr.storeAt t a v).run P w) w I β hp B M w0 r:=by
 unfold storeRd at h
 obtain ⟨h0,h⟩:=run_chk h
 simp only[Bool.and_eq_true,Nat.beq_eq] at h0
 obtain ⟨ht,hn⟩:=h0
 cases xa with
 | ptr id i c=>
  obtain ⟨l,h⟩:=run_get h
  cases hid:hp id with
  | none=>rw[hid] at h;cases h
  | some blk=>
   rw[hid] at h
   cases blk with
   | dead=>cases h
   | var T0 cs=>
    obtain ⟨hsf0,h⟩:=run_chk h
    have hsf:selfTy P T0=true→0<c:=fun hst=>by
     rw[hst] at hsf0
     simpa using hsf0
    obtain ⟨b,hb,rfl⟩:=ha.ptr_inv hid (by simp)
    simp only[Blk.sz,Nat.mul_zero,Nat.zero_add]
    cases hte:(typedEach P t cs&&typed1 P t x) with
    | true=>
     dsimp only at h
     rw[hte] at h
     simp only[cond_true] at h
     obtain ⟨hc,h⟩:=run_chk h
     obtain rfl:=run_ret' h
     simp only[Bool.and_eq_true,Nat.blt_eq] at hc hte
     obtain ⟨o1,o2⟩:=typed_one hv hte.2
     have hxc:=typed1_cells hte.2
     refine store_var_sim S hid hb ht hn (by rw[o2,hxc];rfl) hsf (fun j u y hu hy=> ?_) (by rw[o2];simp[o1]) (by rw[hxc];simp;omega) (setSym_length _ _ _ _) (fun j y hy hj u hu=> ?_) (fun j y hy hj u hu=> ?_)
     ·rw[o2] at hu
      rw[hxc] at hy
      cases j with
      | zero=>simp at hu hy;subst hu;subst hy;exact hv
      | succ j=>simp at hy
     ·rw[setSym_get] at hy
      cases hcj:cs[j]? with
      | none=>rw[hcj] at hy;cases hy
      | some y0=>
       rw[hcj] at hy
       simp only[Option.map_some,Option.some.injEq] at hy
       rw[hxc] at hj
       simp only[List.length_singleton] at hj
       have hne:Nat.beq c (0+j)=false:=by
        cases hq:Nat.beq c (0+j) with
        | false=>rfl
        | true=>rw[Nat.beq_eq] at hq;omega
       rw[hne] at hy
       have:=pickV_sim (c:=false) hv (hu y0 hcj)
       rw[←hy]
       simpa using this
     ·rw[hxc] at hj hu
      have hj0:j=0:=by simpa using hj
      subst hj0
      rw[setSym_get] at hy
      cases hcj:cs[c+0]? with
      | none=>rw[hcj] at hy;cases hy
      | some y0=>
       rw[hcj] at hy
       simp only[Option.map_some,Option.some.injEq] at hy
       have heq:Nat.beq c (0+(c+0))=true:=by rw[Nat.beq_eq];omega
       rw[heq] at hy
       have h2:VRel P w I β hp u x:=hu x rfl
       have:pickV true x y0=x:=pick_true x y0
       rw[←hy,this]
       exact h2
    | false=>
     dsimp only at h
     rw[hte] at h
     simp only[cond_false] at h
     obtain ⟨hc,h⟩:=run_chk h
     simp only[Bool.and_eq_true,Nat.ble_eq] at hc
     obtain ⟨e1,e2⟩:=cells_rel hv h
     obtain ⟨h1,l2,h⟩:=solidL_run h (vs:=v.cells.toList) (by simpa using e1) (fun j u y a b=>e2 j u y (by simpa using a) b)
     obtain rfl:=run_ret' h
     refine store_var_sim S hid hb ht hn e1 hsf e2 h1 hc.2 (splice_length _ _ _ hc.2) (fun j y hy hj u hu=> ?_) (fun j y hy hj u hu=> ?_)
     ·unfold splice at hy
      rw[splice_get _ _ _ _ hc.2] at hy
      rcases hj with hj|hj
      ·rw[if_pos hj] at hy;exact hu y hy
      ·rw[if_neg (by omega),if_neg (by omega)] at hy;exact hu y hy
     ·unfold splice at hy
      rw[splice_get _ _ _ _ hc.2,if_neg (by omega),if_pos (by omega)] at hy
      rw[show c+j-c=j by omega] at hy
      exact hu y hy
   | arr e es fz=>
    cases fz with
    | true=>cases h
    | false=>
    obtain ⟨b,hb,rfl⟩:=ha.ptr_inv hid (by simp)
    obtain ⟨hok,h⟩:=run_chk h
    obtain ⟨⟨ys,fr⟩,l1,l2,hp1,h⟩:=run_bnd h
    obtain ⟨hc,h⟩:=run_chk h
    obtain ⟨x0,hx0,h⟩:=run_opt h
    obtain rfl:=run_ret' h
    simp only[Bool.and_eq_true,Bool.not_eq_true',Nat.ble_eq] at hc
    obtain ⟨hc1,hc3,hc2⟩:=hc
    have hvc:v.cells.size=x.cells.length∧∀(j:Nat) u y,v.cells.toList[j]? =some u→x.cells[j]? =some y→VRel P w I β hp u y:=by
     cases x with
     | agg xs=>
      obtain ⟨cs,rfl,h1,h2⟩:=hv.agg_inv
      exact ⟨h1,fun j u y a b=>h2 j u y (by simpa[Value.cells] using a) b⟩
     | _=>
      simp only[V.cells] at hp1 hc2⊢
      simp only[pureL] at hp1
      obtain ⟨⟨y1,u1⟩,l3,l4,hq,hp1⟩:=run_bnd hp1
      obtain ⟨q1,q2⟩:=pure1_sim S.h.rel hq hv
      obtain ⟨⟨y2,u2⟩,l5,l6,hq2,hp1⟩:=run_bnd hp1
      cases hq2
      have:=run_ret' hp1
      cases this
      obtain ⟨tl,tg⟩:=typedAll_get hc2
      have hty:=tg 0 _ y1 (List.getElem?_eq_getElem (by rw[tl];exact Nat.one_pos)) rfl
      have hpl:=q2 (IFrz P w I β hp u1) (fun _ h=> .inl h) (fun p hp b h=> .inr ⟨p,hp,h⟩)
      have ho:=hpl.pure hty
      have hvcell:v.cells= #[v]:=by cases ho<;>rfl
      rw[hvcell]
      refine ⟨rfl,fun j u y hu hy=> ?_⟩
      cases j with
      | zero=>simp at hu hy;subst hu;subst hy;exact hv
      | succ j=>simp at hy
    obtain ⟨k1,k2,k3⟩:=pureL_sim S.h.rel hp1 (vs:=v.cells.toList) (by simpa using hvc.1) hvc.2
    obtain ⟨hle1,S1⟩:=freeze_sim S k2
    have hid1:updH hp fr id=some (.arr e es false):=by
     rcases updH_of (hp:=hp) (l:=fr) (id:=id) with h|⟨b',hm,_⟩
     ·exact h.trans hid
     ·exfalso
      have hmem:memN (fr.map (·.1)) id=true:=memN_of (List.mem_map.2 ⟨_,hm,rfl⟩)
      rw[hmem] at hc1;cases hc1
    have hplain:=k3 (IFrz P w I β hp fr) (fun _ h=> .inl h) (fun p hp b h=> .inr ⟨p,hp,h⟩)
    obtain ⟨tl,tg⟩:=typedAll_get hc2
    have hfl:=(okTy_len hok).1
    have hyl:ys.length=v.cells.size:=by rw[k1,hvc.1]
    have hcn:c+v.cells.size≤P.cellsOf e:=by rw[hvc.1];exact hc3
    have hr:=S1.h.rel id _ hid1
    cases hr with
    | arrNil hb'=>simp at hx0
    | @arr _ _ _ b' Ca hok' hb' hh hs hf hnf hx=>
     rw[hb] at hb'
     cases hb'
     have hilt:i<es.length:=(List.getElem?_eq_some_iff.1 hx0).1
     have hbound:i*P.cellsOf e+P.cellsOf e≤Ca.size:=by
      have:(i+1)*P.cellsOf e≤es.length*P.cellsOf e:=Nat.mul_le_mul_right _ hilt
      rw[Nat.add_mul] at this
      omega
     simp only[Blk.sz]
     have hbd':i*P.cellsOf e+c+v.cells.size≤Ca.size:=by omega
     have hnI: ¬IFrz P w I β hp fr b:=hnf rfl
     have h1: ∀u∈v.cells.toList,u.oneCell'=true:=by
      intro u hu
      obtain ⟨j,hj⟩:=List.getElem?_of_mem hu
      have hjl:j<ys.length:=by rw[hyl];simpa using (List.getElem?_eq_some_iff.1 hj).1
      have hjt:j<(((flat P e).drop c).take x.cells.length).length:=by rw[tl];exact hjl
      exact (hplain j u ys[j] hj (List.getElem?_eq_getElem hjl)).one (tg j _ ys[j] (List.getElem?_eq_getElem hjt) (List.getElem?_eq_getElem hjl))
     have hrun:=storeAt_run (t:=t) (o:=i*P.cellsOf e+c) (v:=v) ht (by rw[hvc.1];exact hn.symm) hh hbd' h1
     have hlen:(Ca.toList.take (i*P.cellsOf e+c)++(v.cells.toList++Ca.toList.drop (i*P.cellsOf e+c+v.cells.toList.length))).length=Ca.size:=by
      rw[splice_length _ _ _ (by simpa using hbd')];simp
     have hpl:(parts P e x0).length=P.cellsOf e:=by rw[parts_length];exact okTy_etys hok
     have hch:=setRow_change S1 (blk':= .arr e (es.set i (mkElem P e (splice (parts P e x0) c ys))) false)
      (Cb:=(Ca.toList.take (i*P.cellsOf e+c)++(v.cells.toList++Ca.toList.drop (i*P.cellsOf e+c+v.cells.toList.length))).toArray) hid1 (by simp) ⟨rfl,by simp⟩ hb hnI (by simp) hh (by simpa using hlen)
      (fun hle hnew=> .arr hok rfl hnew (by simp only[List.size_toArray,List.length_set];omega) (fun h=>by cases h) (fun _=>hnI) fun i' j z t' hz hjt hj=>by
       simp only[List.getElem?_toArray]
       rw[splice_get _ _ _ _ (by simpa using hbd')]
       simp only[Array.length_toList]
       rw[List.getElem?_set] at hz
       by_cases hii:i=i'
       ·subst hii
        rw[if_pos rfl,if_pos hilt] at hz
        cases hz
        have hjp:j<(parts P e x0).length:=by omega
        have hspl:(splice (parts P e x0) c ys)[j]? =if j<c then (parts P e x0)[j]? else if j<c+ys.length then ys[j-c]? else (parts P e x0)[j]? :=by
         unfold splice;exact splice_get _ _ _ _ (by omega)
        by_cases hj1:j<c
        ·rw[if_pos (by omega)]
         rw[if_pos hj1] at hspl
         obtain ⟨u,t2,a1,a2,a3⟩:=arr_part hx hok hx0 (List.getElem?_eq_getElem hjp)
         rw[hjt] at a1;cases a1
         refine ⟨u,by simpa using a2,?_⟩
         rw[epart_mkElem (hspl.trans (List.getElem?_eq_getElem hjp)) hjt]
         exact a3.mono hle.imm hle.keep
        ·rw[if_neg hj1] at hspl
         by_cases hj2:j<c+ys.length
         ·rw[if_pos hj2] at hspl
          rw[if_neg (by omega),if_pos (by omega)]
          have hjy:j-c<ys.length:=by omega
          have hjv:j-c<v.cells.toList.length:=by simp;omega
          have hjv':j-c<v.cells.size:=by omega
          refine ⟨v.cells.toList[j-c],?_,?_⟩
          ·rw[show i*P.cellsOf e+j-(i*P.cellsOf e+c)=j-c by omega]
           exact List.getElem?_eq_getElem hjv
          ·rw[epart_mkElem (hspl.trans (List.getElem?_eq_getElem hjy)) hjt]
           have hft:(((flat P e).drop c).take x.cells.length)[j-c]? =some t':=by
            rw[List.getElem?_take_of_lt (by omega),List.getElem?_drop,show c+(j-c)=j by omega,←etys_flat]
            exact hjt
           exact ((hplain (j-c) _ ys[j-c] (List.getElem?_eq_getElem hjv) (List.getElem?_eq_getElem hjy)).pure (tg (j-c) t' ys[j-c] hft (List.getElem?_eq_getElem hjy))).mono hle.imm hle.keep
         ·rw[if_neg hj2] at hspl
          rw[if_neg (by omega),if_neg (by omega)]
          obtain ⟨u,t2,a1,a2,a3⟩:=arr_part hx hok hx0 (List.getElem?_eq_getElem hjp)
          rw[hjt] at a1;cases a1
          refine ⟨u,by simpa using a2,?_⟩
          rw[epart_mkElem (hspl.trans (List.getElem?_eq_getElem hjp)) hjt]
          exact a3.mono hle.imm hle.keep
       ·rw[if_neg hii] at hz
        obtain ⟨u,a2,a3⟩:=hx i' j z t' hz hjt hj
        have hne:i'*P.cellsOf e+j<i*P.cellsOf e+c∨i*P.cellsOf e+c+v.cells.size≤i'*P.cellsOf e+j:=by
         rcases Nat.lt_or_ge i' i with hlt|hge
         ·left
          have:(i'+1)*P.cellsOf e≤i*P.cellsOf e:=Nat.mul_le_mul_right _ hlt
          rw[Nat.add_mul] at this
          omega
         ·right
          have:(i+1)*P.cellsOf e≤i'*P.cellsOf e:=Nat.mul_le_mul_right _ (by omega)
          rw[Nat.add_mul] at this
          omega
        refine ⟨u,?_,a3.mono hle.imm hle.keep⟩
        rcases hne with hne|hne
        ·rw[if_pos hne];simpa using a2
        ·rw[if_neg (by omega),if_neg (by omega)];simpa using a2)
     exact ⟨_,_,_,hrun,hle1.trans hch.1,hch.2,rfl⟩
   | map _ _=>cases h
   | nest e es vers=>
    obtain ⟨b,hb,rfl⟩:=ha.ptr_inv hid (by simp)
    exact nestStore_sim S ht hn hv hid hb .here h
 | elt id ver path i c=>
  obtain ⟨e0,es,vers,l,hid,h1,h2,h3,h⟩:=rowAt_run h
  obtain ⟨b,b1,e1,l1,hb,hat,rfl⟩:=ha.at_inv hid h1 h2 h3
  exact nestStore_sim S ht hn hv hid hb hat h
 | _=>cases h
end
end Go.AM
namespace Go.AM
section
variable {P:Program} {w w':World} {I I':Nat→Prop} {β β':Nat→Option Nat} {hp hp':Nat→Option Blk} {C:CallF} {B:Nat} {M:Nat→Prop} {w0:Start}
theorem constCells_get: ∀{ts:List TypeId} {vs:List Value} {j:Nat} {y:V},(constCells P ts vs)[j]? =some y→∃t v,ts[j]? =some t∧vs[j]? =some v∧y=constV P t v
 | [],vs,j,y,h=>by simp[constCells] at h
 | _::_,[],j,y,h=>by simp[constCells] at h
 | t::ts,v::vs,0,y,h=>by simp[constCells] at h;exact ⟨t,v,rfl,rfl,h.symm⟩
 | t::ts,v::vs,j+1,y,h=>by
  simp only[constCells,List.getElem?_cons_succ] at h
  obtain ⟨t',v',a,b,c⟩:=constCells_get h
  exact ⟨t',v',by simpa using a,by simpa using b,c⟩
theorem constCells_length: ∀{ts:List TypeId} {vs:List Value},ts.length=vs.length→(constCells P ts vs).length=vs.length
 | [],[],_=>rfl
 | [],_::_,h=>by simp at h
 | _::_,[],h=>by simp at h
 | t::ts,v::vs,h=>by simp[constCells,constCells_length (ts:=ts) (vs:=vs) (by simpa using h)]
theorem okTy_zero {e:TypeId} (h:okTy P e=true): ∃i z,P.info? e=some i∧i.zero=some z∧i.size=P.cellsOf e∧z.cells.size=P.cellsOf e∧zeroCells P e=constCells P (flat P e) z.cells.toList:=by
 unfold okTy at h
 simp only[Bool.and_eq_true,Nat.beq_eq,Nat.blt_eq] at h
 obtain ⟨h1,h2,_,h3⟩:=h
 cases hi:P.info? e with
 | none=>rw[hi] at h3;cases h3
 | some i=>
  rw[hi] at h3
  simp only[Option.bind_some] at h3
  cases hz:i.zero with
  | none=>rw[hz] at h3;cases h3
  | some z=>
   rw[hz] at h3
   simp only[Nat.beq_eq] at h3
   exact ⟨i,z,rfl,hz,by simp[Program.cellsOf,hi],h3,by simp[zeroCells,hi,hz]⟩
theorem zeroCells_rel {e:TypeId} (h:okTy P e=true): ∃i z,P.info? e=some i∧i.zero=some z∧z.cells.size=(zeroCells P e).length∧z.cells.size=P.cellsOf e∧
  ∀(j:Nat) v x,z.cells[j]? =some v→(zeroCells P e)[j]? =some x→VRel P w I β hp v x:=by
 obtain ⟨i,z,h1,h2,h3,h4,h5⟩:=okTy_zero h
 have hl:(flat P e).length=z.cells.toList.length:=by rw[(okTy_len h).1];simpa using h4.symm
 refine ⟨i,z,h1,h2,?_,h4,fun j v x hv hx=> ?_⟩
 ·rw[h5,constCells_length hl];simp
 ·rw[h5] at hx
  obtain ⟨t,v',_,hv',rfl⟩:=constCells_get hx
  have:v'=v:=by
   have e1:z.cells[j]? =some v':=by simpa using hv'
   rw[hv] at e1;exact (Option.some.inj e1).symm
  subst this
  exact VRel.const t v'
theorem newRd_run {nb:Nat} {b:Blk} {v:V} {upd:List (Nat × Blk)} {r:R} {rd:List Nat} (h:(newRd nb b v upd).run C hp=some (r,rd)):hp nb=none∧r=⟨v,(nb,b)::upd⟩:=by
 obtain ⟨l,h⟩:=run_get h
 cases hn:hp nb with
 | none=>rw[hn] at h;exact ⟨rfl,(run_ret' h).symm⟩
 | some x=>rw[hn] at h;cases h
theorem newVar_sim (S:Sim P w I β hp B M w0) {nb:Nat} {xs:List V} {C0:Array Value} {T:TypeId} (hn:hp nb=none) (hs:C0.size=xs.length)
  (hx: ∀(j:Nat) v x,C0[j]? =some v→xs[j]? =some x→VRel P w I β hp v x) (hself:SelfOk P w.heap.size T C0):
  Le P w I β hp (w.alloc (.cells C0 T)) I (setN β nb (some w.heap.size)) (setN hp nb (some (.var T xs)))∧Sim P (w.alloc (.cells C0 T)) I (setN β nb (some w.heap.size)) (setN hp nb (some (.var T xs))) B M w0∧
  VRel P (w.alloc (.cells C0 T)) I (setN β nb (some w.heap.size)) (setN hp nb (some (.var T xs))) (.pointer (some ⟨w.heap.size,0,none⟩)) (.ptr nb 0 0):=by
 obtain ⟨h1,h2⟩:=alloc_sim S (blk:= .var T xs) (c:=C0) (T:=T) hn (fun b' h=>(Option.some.inj (h.flat (by simp))).symm) (fun hle hnew hnI=> .var rfl hnew hs hnI (fun j v x a b=>(hx j v x a b).mono hle) hself)
 refine ⟨h1,h2,?_⟩
 have:=VRel.ptr (P:=P) (w:=w.alloc (.cells C0 T)) (I:=I) (β:=setN β nb (some w.heap.size)) (hp:=setN hp nb (some (.var T xs))) (i:=0) (c:=0) (blk:= .var T xs) (setN_same _ _ _) (by simp) (setN_same _ _ _)
 simpa using this
theorem alloc_op_sim (S:Sim P w I β hp B M w0) {e:TypeId} {nb:Nat} {r:R} {rd:List Nat}
  (h:(Rd.chk (okTy P e&&(!(selfTy P e)||nilFirst (zeroCells P e))) (newRd nb (.var e (zeroCells P e)) (.ptr nb 0 0) [])).run C hp=some (r,rd)):ValOk P ((Instr.alloc e true (.tuple #[])).run P w) w I β hp B M w0 r:=by
 obtain ⟨hok,h⟩:=run_chk h
 rw[Bool.and_eq_true] at hok
 obtain ⟨hok,hsf⟩:=hok
 obtain ⟨hn,rfl⟩:=newRd_run h
 obtain ⟨i,z,h1,h2,h3,h4,h5⟩:=zeroCells_rel (w:=w) (I:=I) (β:=β) (hp:=hp) hok
 obtain ⟨a,b,c⟩:=newVar_sim S (T:=e) hn h3 h5 fun hst=>by
  rw[hst,Bool.not_true,Bool.false_or] at hsf
  cases hz:zeroCells P e with
  | nil=>rw[hz] at hsf;cases hsf
  | cons y l=>
   rw[hz] at hsf h3 h5
   cases y<;>first|(cases hsf;done)|skip
   have hlt:0<z.cells.size:=by rw[h3];simp
   have:=h5 0 z.cells[0] .nilp (Array.getElem?_eq_getElem hlt) rfl
   left
   rw[Array.getElem?_eq_getElem hlt]
   generalize z.cells[0]=u at this
   cases this;rfl
 exact ⟨_,_,_,_,by simp[Instr.alloc,zeroValue,typeInfo,h1,h2,newVar,newRow],a,b,c⟩
theorem box_op_sim (S:Sim P w I β hp B M w0) {e:TypeId} {nb:Nat} {x:V} {v:Value} {r:R} {rd:List Nat} (hv:VRel P w I β hp v x)
  (h:(Rd.chk (!(selfTy P e)) <| solidL x.cells (newRd nb (.var e x.cells) (.ptr nb 0 0) [])).run C hp=some (r,rd)):ValOk P ((Instr.box e v).run P w) w I β hp B M w0 r:=by
 obtain ⟨hsf,h⟩:=run_chk h
 obtain ⟨e1,e2⟩:=cells_rel hv h
 obtain ⟨_,l,h⟩:=solidL_run h (vs:=v.cells.toList) (by simpa using e1) (fun j u y a b=>e2 j u y (by simpa using a) b)
 obtain ⟨hn,rfl⟩:=newRd_run h
 obtain ⟨a,b,c⟩:=newVar_sim S (T:=e) hn e1 e2 fun hst=>by rw[hst] at hsf;cases hsf
 exact ⟨_,_,_,_,by simp[Instr.box,newVar,newRow],a,b,c⟩
theorem foldl_set (off:Nat): ∀(vs:List Value) (k:Nat) (cs:Array Value) (i:Nat),off+k+vs.length≤cs.size→
  ((vs.zipIdx k).foldl (fun cs p=>cs.setIfInBounds (off+p.2) p.1) cs)[i]? =if i<off+k then cs[i]? else if i<off+k+vs.length then vs[i-(off+k)]? else cs[i]?
 | [],k,cs,i,h=>by simp;intro h1 h2;omega
 | v::vs,k,cs,i,h=>by
  simp only[List.zipIdx_cons,List.foldl_cons]
  simp only[List.length_cons] at h⊢
  rw[foldl_set off vs (k+1) _ i (by simp;omega)]
  by_cases h1:i<off+k
  ·rw[if_pos (by omega),if_pos h1]
   rw[Array.getElem?_setIfInBounds_ne (by omega)]
  ·rw[if_neg h1]
   by_cases h2:i=off+k
   ·subst h2
    rw[if_pos (by omega),if_pos (by omega)]
    rw[Array.getElem?_setIfInBounds_self_of_lt (by omega)]
    simp
   ·rw[if_neg (by omega)]
    by_cases h3:i<off+k+(vs.length+1)
    ·rw[if_pos (by omega),if_pos h3,show i-(off+k)=(i-(off+(k+1)))+1 by omega]
     simp
    ·rw[if_neg (by omega),if_neg h3,Array.getElem?_setIfInBounds_ne (by omega)]
theorem foldl_set_size (off:Nat): ∀(vs:List Value) (k:Nat) (cs:Array Value),((vs.zipIdx k).foldl (fun cs p=>cs.setIfInBounds (off+p.2) p.1) cs).size=cs.size
 | [],k,cs=>rfl
 | v::vs,k,cs=>by
  simp only[List.zipIdx_cons,List.foldl_cons]
  rw[foldl_set_size off vs (k+1)]
  simp
theorem fill_one {cells:Array Value} {off:Nat} {v:Value} (h:off+v.cells.size≤cells.size) (i:Nat):
  (v.cells.zipIdx.foldl (fun cs (p:Value × Nat)=>cs.setIfInBounds (off+p.2) p.1) cells)[i]? =if i<off then cells[i]? else if i<off+v.cells.size then v.cells[i-off]? else cells[i]? :=by
 have:=foldl_set off v.cells.toList 0 cells i (by simpa using h)
 rw[←Array.foldl_toList]
 simpa[Array.toList_zipIdx] using this
theorem fill_one_size {cells:Array Value} {off:Nat} {v:Value}:(v.cells.zipIdx.foldl (fun cs (p:Value × Nat)=>cs.setIfInBounds (off+p.2) p.1) cells).size=cells.size:=by
 have:=foldl_set_size off v.cells.toList 0 cells
 rw[←Array.foldl_toList]
 simpa[Array.toList_zipIdx] using this
inductive PartsRel (P:Program) (w:World) (I:Nat→Prop) (β:Nat→Option Nat) (hp:Nat→Option Blk):List (Nat × Value)→List (Nat × V)→Prop
 | nil:PartsRel P w I β hp [] []
 | cons {i:Nat} {v:Value} {x:V} {vs:List (Nat × Value)} {xs:List (Nat × V)}:v.cells.size=x.cells.length→(∀(j:Nat) u y,v.cells[j]? =some u→x.cells[j]? =some y→VRel P w I β hp u y)→
   PartsRel P w I β hp vs xs→PartsRel P w I β hp ((i,v)::vs) ((i,x)::xs)
theorem fill_sim (place:Nat→Option (Nat × Nat)): ∀{vs:List (Nat × Value)} {px:List (Nat × V)} {cells:Array Value} {xs ys:List V},PartsRel P w I β hp vs px→cells.size=xs.length→
  (∀(j:Nat) v x,cells[j]? =some v→xs[j]? =some x→VRel P w I β hp v x)→fillCells place xs px=some ys→
  ∃cells':Array Value,Instr.fill place cells vs=some cells'∧cells'.size=ys.length∧∀(j:Nat) v x,cells'[j]? =some v→ys[j]? =some x→VRel P w I β hp v x
 | _,_,cells,xs,ys,.nil,hs,hx,h=>by
  simp only[fillCells,Option.some.injEq] at h
  subst h
  exact ⟨cells,by simp[Instr.fill],hs,hx⟩
 | _,_,cells,xs,ys,@PartsRel.cons _ _ _ _ _ i v x vs px h1 h2 h3,hs,hx,h=>by
  simp only[fillCells] at h
  cases hpl:place i with
  | none=>rw[hpl] at h;cases h
  | some os=>
   obtain ⟨off,size⟩:=os
   rw[hpl] at h
   simp only at h
   cases hc:(Nat.beq x.cells.length size&&Nat.ble (off+size) xs.length) with
   | false=>rw[hc] at h;cases h
   | true=>
    rw[hc] at h
    simp only[cond_true] at h
    simp only[Bool.and_eq_true,Nat.beq_eq,Nat.ble_eq] at hc
    have hv:off+v.cells.size≤cells.size:=by omega
    have hb:off+x.cells.length≤xs.length:=by omega
    have hl:(splice xs off x.cells).length=xs.length:=splice_length _ _ _ hb
    obtain ⟨cells',f1,f2,f3⟩:=fill_sim place (cells:=v.cells.zipIdx.foldl (fun cs (p:Value × Nat)=>cs.setIfInBounds (off+p.2) p.1) cells) (xs:=splice xs off x.cells) h3 (by rw[fill_one_size,hl,hs])
     (fun j u y hu hy=>by
      rw[fill_one hv] at hu
      unfold splice at hy
      rw[splice_get _ _ _ _ hb] at hy
      by_cases j1:j<off
      ·rw[if_pos j1] at hu hy;exact hx j u y hu hy
      ·rw[if_neg j1] at hu hy
       by_cases j2:j<off+x.cells.length
       ·rw[if_pos (by omega)] at hu
        rw[if_pos j2] at hy
        exact h2 (j-off) u y hu hy
       ·rw[if_neg (by omega)] at hu
        rw[if_neg j2] at hy
        exact hx j u y hu hy) h
    refine ⟨cells',?_,f2,f3⟩
    simp only[Instr.fill,hpl]
    rw[if_neg (by simp;omega)]
    exact f1
theorem build_run {t:TypeId} {parts:Array (Nat × Value)} {cells:Array Value} {z:Value} {i:TypeInfo} (hi:P.info? t=some i) (hz:i.zero=some z) (h:Instr.fill (placeOf P t) z.cells parts.toList=some cells) (ha:isAggT P t=true)
  (hpl: ∀fs,P.underlying t=some (.struct fs)→(fs.toList.mapM fun f=>(P.info? f.type).map fun i=>(f.offset,i.size)).isSome=true) (hpa: ∀n e,P.underlying t=some (.array n e)→(P.info? e).isSome=true):
  (Instr.build t parts).run P w= .ok (.agg cells) w:=by
 refine run_build w t parts cells ?_
 unfold Program.built
 unfold isAggT at ha
 rw[hi]
 split at ha
 ·rename_i fs hu
  have:=hpl fs hu
  cases hm:fs.toList.mapM fun f=>(P.info? f.type).map fun i=>(f.offset,i.size) with
  | none=>rw[hm] at this;cases this
  | some places=>
   simp only[hu,hz,hm]
   have hq:placeOf P t=fun i=>places[i]? :=by simp[placeOf,hu,hm]
   rw[hq] at h
   simpa using h
 ·rename_i n e hu
  have:=hpa n e hu
  cases hie:P.info? e with
  | none=>rw[hie] at this;cases this
  | some ie=>
   simp only[hu,hz,hie]
   have hq:placeOf P t=fun i=>some (i*ie.size,ie.size):=by simp[placeOf,hu,hie]
   rw[hq] at h
   exact h
 ·cases ha
theorem solidL_append {α:Type}: ∀(xs ys:List V) (k:Rd α),solidL (xs++ys) k=solidL xs (solidL ys k)
 | [],_,_=>rfl
 | x::xs,ys,k=>by simp only[List.cons_append,solidL,solidL_append xs ys k]
theorem parts_rel {a:Act} {sl:Nat→V} (hs:SRel P w I β hp a sl) {G:Nat→V} (hg:GlobOk P G w I) (t:TypeId) {α:Type}: ∀{l:List (Nat × Operand)} {k:Rd α} {r:α} {rd:List Nat},
  (solidL ((l.map fun p=>(evO P G t sl p.2).cells).flatten) k).run C hp=some (r,rd)→
  PartsRel P w I β hp (l.map fun p=>(p.1,a.eval p.2)) (l.map fun p=>(p.1,evO P G t sl p.2))∧∃rd',k.run C hp=some (r,rd')
 | [],k,r,rd,h=>⟨.nil,rd,h⟩
 | (i,x)::l,k,r,rd,h=>by
  simp only[List.map_cons,List.flatten_cons,solidL_append] at h
  obtain ⟨e1,e2⟩:=cells_rel (hs.ev hg t x) h
  obtain ⟨_,l1,h⟩:=solidL_run h (vs:=(a.eval x).cells.toList) (by simpa using e1) (fun j u y a b=>e2 j u y (by simpa using a) b)
  obtain ⟨h1,h2⟩:=parts_rel hs hg t h
  exact ⟨.cons e1 e2 h1,h2⟩
theorem build_op_sim (S:Sim P w I β hp B M w0) {a:Act} {sl:Nat→V} (hs:SRel P w I β hp a sl) {G:Nat→V} (hg:GlobOk P G w I) {t ty:TypeId} {ps:Array (Nat × Operand)} {r:R} {rd:List Nat}
  (h:(Rd.chk (okTy P t&&(isAggT P t&&placesOk P t)) (solidL ((ps.toList.map fun p=>(evO P G ty sl p.2).cells).flatten)
   (optRd (fillCells (placeOf P t) (zeroCells P t) (ps.toList.map fun p=>(p.1,evO P G ty sl p.2))) fun cs=> .ret ⟨.agg cs,[]⟩))).run C hp=some (r,rd)):
  ValOk P ((Instr.build t (ps.map fun (i,x)=>(i,a.eval x))).run P w) w I β hp B M w0 r:=by
 obtain ⟨hok,h⟩:=run_chk h
 simp only[Bool.and_eq_true] at hok
 obtain ⟨h1,l,h⟩:=parts_rel hs hg ty h
 cases hf:fillCells (placeOf P t) (zeroCells P t) (ps.toList.map fun p=>(p.1,evO P G ty sl p.2)) with
 | none=>rw[hf] at h;cases h
 | some cs=>
  rw[hf] at h
  obtain rfl:=run_ret' h
  obtain ⟨i,z,hi,hz,h3,h4,h5⟩:=zeroCells_rel (w:=w) (I:=I) (β:=β) (hp:=hp) hok.1
  obtain ⟨cells,f1,f2,f3⟩:=fill_sim (placeOf P t) h1 h3 h5 hf
  have hpo:=hok.2.2
  refine .same S (v:= .agg cells) (build_run hi hz (by simpa using f1) hok.2.1 (fun fs hu=> ?_) (fun n e hu=> ?_)) (.agg f2 f3)
  ·simpa[placesOk,hu] using hpo
  ·simpa[placesOk,hu] using hpo
theorem pure_cells (hrel: ∀id blk,hp id=some blk→BlkRel P w I β hp (β id) blk) {x:V} {v:Value} {ys:List V} {fr:List (Nat × Blk)} {rd:List Nat} {ts:List TypeId} (hv:VRel P w I β hp v x)
  (h:(pureL P x.cells).run C hp=some ((ys,fr),rd)) (ht:typedAll P ts ys=true):
  v.cells.size=x.cells.length∧∀(j:Nat) u y,v.cells.toList[j]? =some u→x.cells[j]? =some y→VRel P w I β hp u y:=by
 cases x with
 | agg xs=>
  obtain ⟨cs,rfl,h1,h2⟩:=hv.agg_inv
  exact ⟨h1,fun j u y a b=>h2 j u y (by simpa[Value.cells] using a) b⟩
 | _=>
  simp only[V.cells] at h⊢
  simp only[pureL] at h
  obtain ⟨⟨y1,u1⟩,l3,l4,hq,h⟩:=run_bnd h
  obtain ⟨q1,q2⟩:=pure1_sim hrel hq hv
  obtain ⟨⟨y2,u2⟩,l5,l6,hq2,h⟩:=run_bnd h
  cases hq2
  have:=run_ret' h
  cases this
  obtain ⟨tl,tg⟩:=typedAll_get ht
  have hty:=tg 0 _ y1 (List.getElem?_eq_getElem (by rw[tl];exact Nat.one_pos)) rfl
  have hpl:=q2 (IFrz P w I β hp u1) (fun _ h=> .inl h) (fun p hp b h=> .inr ⟨p,hp,h⟩)
  have ho:=hpl.pure hty
  have hvcell:v.cells= #[v]:=by cases ho<;>rfl
  rw[hvcell]
  refine ⟨rfl,fun j u y hu hy=> ?_⟩
  cases j with
  | zero=>simp at hu hy;subst hu;subst hy;exact hv
  | succ j=>simp at hy
def ElemsRel (P:Program) (w:World) (I:Nat→Prop) (e:TypeId) (cells:Array Value) (es:List V):Prop:=
 cells.size=es.length*P.cellsOf e∧∀(i j:Nat) (x:V) (t':TypeId),es[i]? =some x→(etys P e)[j]? =some t'→j<P.cellsOf e→∃v,cells[i*P.cellsOf e+j]? =some v∧Pure P w I t' v (epart P e x j)
theorem ElemsRel.set {e:TypeId} {cells:Array Value} {es ys:List V} {i:Nat} {v:Value} (h:ElemsRel P w I e cells es) (hi:i<es.length) (hv:v.cells.size=P.cellsOf e) (hy:ys.length=P.cellsOf e)
  (hr: ∀(j:Nat) (t':TypeId) (u:Value) (y:V),(etys P e)[j]? =some t'→v.cells[j]? =some u→ys[j]? =some y→Pure P w I t' u y):
  ElemsRel P w I e (v.cells.zipIdx.foldl (fun cs (p:Value × Nat)=>cs.setIfInBounds (i*P.cellsOf e+p.2) p.1) cells) (es.set i (mkElem P e ys)):=by
 obtain ⟨h1,h2⟩:=h
 have hb:i*P.cellsOf e+v.cells.size≤cells.size:=by
  have:(i+1)*P.cellsOf e≤es.length*P.cellsOf e:=Nat.mul_le_mul_right _ hi
  rw[Nat.add_mul] at this
  omega
 refine ⟨by rw[fill_one_size,List.length_set,h1],fun i' j x t' hx ht hj=> ?_⟩
 rw[fill_one hb]
 rw[List.getElem?_set] at hx
 by_cases hii:i=i'
 ·subst hii
  rw[if_pos rfl,if_pos hi] at hx
  cases hx
  rw[if_neg (by omega),if_pos (by omega),show i*P.cellsOf e+j-i*P.cellsOf e=j by omega]
  have h3:j<v.cells.size:=by omega
  have h4:j<ys.length:=by omega
  refine ⟨v.cells[j],Array.getElem?_eq_getElem h3,?_⟩
  rw[epart_mkElem (List.getElem?_eq_getElem h4) ht]
  exact hr j t' _ _ ht (Array.getElem?_eq_getElem h3) (List.getElem?_eq_getElem h4)
 ·rw[if_neg hii] at hx
  have hne:i'*P.cellsOf e+j<i*P.cellsOf e∨i*P.cellsOf e+v.cells.size≤i'*P.cellsOf e+j:=by
   rcases Nat.lt_or_ge i' i with hlt|hge
   ·left
    have:(i'+1)*P.cellsOf e≤i*P.cellsOf e:=Nat.mul_le_mul_right _ hlt
    rw[Nat.add_mul] at this
    omega
   ·right
    have:(i+1)*P.cellsOf e≤i'*P.cellsOf e:=Nat.mul_le_mul_right _ (by omega)
    rw[Nat.add_mul] at this
    omega
  rcases hne with hne|hne
  ·rw[if_pos hne];exact h2 i' j x t' hx ht hj
  ·rw[if_neg (by omega),if_neg (by omega)];exact h2 i' j x t' hx ht hj
theorem const_pure {t':TypeId} {v:Value} (hty:typed1 P t' (plain0 (constV P t' v))=true):Pure P w I t' v (plain0 (constV P t' v)):=by
 have hc:=VRel.const (P:=P) (w:=w) (I:=I) (β:=fun _=>none) (hp:=fun _=>none) t' v
 cases hcv:constV P t' v<;>rw[hcv] at hty hc<;>simp only[plain0] at hty⊢
 case int k n=>rw[hc.int_inv];exact Plain.pure (v:= .int k n) (y:= .int k n) rfl hty
 case bool b=>rw[hc.bool_inv];exact Plain.pure (v:= .bool b) (y:= .bool b) rfl hty
 case str l=>obtain ⟨s,e1,e2⟩:=hc.str_inv;rw[e1];exact Plain.pure (v:= .string s) (y:= .str l) ⟨s,rfl,e2⟩ hty
 case nilS e'=>
  cases hc
  exact Plain.pure (y:= .list e' []) (PList.any fun _=>rfl) hty
 case list e' es=>
  cases hc with
  | list hp=>exact Plain.pure (y:= .list e' es) hp hty
 all_goals (unfold typed1 at hty;split at hty<;>simp_all)
theorem zero_pure {e:TypeId} (h:okElem P e=true): ∃i z,P.info? e=some i∧i.zero=some z∧i.size=P.cellsOf e∧z.cells.size=P.cellsOf e∧
  ∀(j:Nat) (t':TypeId),(etys P e)[j]? =some t'→j<P.cellsOf e→∃v,z.cells[j]? =some v∧Pure P w I t' v (epart P e (mkElem P e (zeroElem P e)) j):=by
 unfold okElem at h
 simp only[Bool.and_eq_true] at h
 obtain ⟨i,z,h1,h2,h3,h4,h5⟩:=okTy_zero h.1
 refine ⟨i,z,h1,h2,h3,h4,fun j t' ht hj=> ?_⟩
 obtain ⟨tl,tg⟩:=typedAll_get h.2
 have hjl:j<(zeroElem P e).length:=by rw[←tl,(okTy_len h.1).1];exact hj
 have hz:=List.getElem?_eq_getElem hjl
 have hty:=tg j t' _ (by rw[←etys_flat];exact ht) hz
 refine ⟨z.cells[j],Array.getElem?_eq_getElem (by omega),?_⟩
 rw[epart_mkElem hz ht]
 have hzc:(zeroElem P e)[j]=plain0 (constV P t' z.cells[j]):=by
  have:(zeroElem P e)[j]? =((zeroCells P e)[j]?).map plain0:=by simp[zeroElem]
  rw[hz] at this
  cases hc:(zeroCells P e)[j]? with
  | none=>rw[hc] at this;cases this
  | some y=>
   rw[hc] at this
   simp only[Option.map_some,Option.some.injEq] at this
   rw[h5] at hc
   obtain ⟨t2,v2,a1,a2,rfl⟩:=constCells_get hc
   have ht2:t2=t':=by
    rw[←etys_flat,ht] at a1;exact (Option.some.inj a1).symm
   have hv2:v2=z.cells[j]:=by
    have hjz:j<z.cells.size:=by omega
    have:z.cells.toList[j]? =some z.cells[j]:=by simp[hjz]
    rw[this] at a2;exact (Option.some.inj a2).symm
   rw[this,ht2,hv2]
 rw[hzc] at hty⊢
 exact const_pure hty
end
end Go.AM
namespace Go.AM
section
variable {P:Program} {w w':World} {I I':Nat→Prop} {β β':Nat→Option Nat} {hp hp':Nat→Option Blk} {C:CallF} {B:Nat} {M:Nat→Prop} {w0:Start}
theorem newArr_sim (S:Sim P w I β hp B M w0) {nb cap:Nat} {e:TypeId} {es:List V} {C0:Array Value} (hok:okTy P e=true) (hn:hp nb=none) (hs:C0.size=cap*P.cellsOf e) (hl:es.length≤cap) (hm:cap≤maxLen)
  (hx: ∀(i j:Nat) (x:V) (t':TypeId),es[i]? =some x→(etys P e)[j]? =some t'→j<P.cellsOf e→∃v,C0[i*P.cellsOf e+j]? =some v∧Pure P w I t' v (epart P e x j)):
  Le P w I β hp (w.alloc (.cells C0 e)) I (setN β nb (some w.heap.size)) (setN hp nb (some (.arr e es false)))∧Sim P (w.alloc (.cells C0 e)) I (setN β nb (some w.heap.size)) (setN hp nb (some (.arr e es false))) B M w0∧
  VRel P (w.alloc (.cells C0 e)) I (setN β nb (some w.heap.size)) (setN hp nb (some (.arr e es false))) (.slice (some ⟨w.heap.size,0,none⟩) es.length cap) (.whole e nb):=by
 obtain ⟨h1,h2⟩:=alloc_sim S (blk:= .arr e es false) (c:=C0) (T:=e) hn (fun b' h=>(Option.some.inj (h.flat (by simp))).symm) (fun hle hnew hnI=> .arr hok rfl hnew (by rw[hs];exact Nat.mul_le_mul_right _ hl) (fun h=>by cases h) (fun _=>hnI) fun i j x t' a b c=>by
  obtain ⟨v,hv,hp⟩:=hx i j x t' a b c
  exact ⟨v,hv,hp.mono hle.imm hle.keep⟩)
 refine ⟨h1,h2,.whole (setN_same _ _ _) (setN_same _ _ _) ?_ hl hm⟩
 rw[bsize_cells (heap_alloc_new w (.cells C0 e)),hs]
theorem At.only {b b':Nat} {e e':TypeId} {es es':List V} {q:Path} (hz: ∀(i j:Nat) x t' e1 l,es[i]? =some x→(etys P e)[j]? =some t'→epart P e x j= .list e1 l→l=[])
  (h:At P w b e es q b' e' es'):q=[]∧b'=b∧e'=e∧es'=es:=by
 cases h with
 | here=>exact ⟨rfl,rfl,rfl,rfl⟩
 | step h1 h2 h3 h4 h5 h6=>have:=hz _ _ _ _ _ _ h2 h3 h5;subst this;simp at h6
theorem CellOk.of_pure {t:TypeId} {v:Value} {x:V} (h:Pure P w I t v x) (hz: ∀e1 l,x= .list e1 l→l=[]):CellOk P w I t v x:=by
 cases h with
 | int h=>exact .scal (by unfold scalarT;rw[h]) (.int h)
 | bool h=>exact .scal (by unfold scalarT;rw[h]) (.bool h)
 | str h hl=>exact .scal (by unfold scalarT;rw[h]) (.str h hl)
 | nil h=>exact .emp h fun _=>rfl
 | emp h=>exact .emp h fun h=>by cases h
 | list g hu hl _ _ _ _=>
  have:=hz _ _ rfl
  subst this
  simp at hl
  subst hl
  exact .emp hu fun h=>by cases h
theorem newNest_sim (S:Sim P w I β hp B M w0) {nb cap:Nat} {e:TypeId} {es:List V} {C0:Array Value} (hok:okTy P e=true) (hn:hp nb=none) (hs:C0.size=cap*P.cellsOf e) (hl:es.length≤cap) (hm:cap≤maxLen)
  (hx: ∀(i j:Nat) (x:V) (t':TypeId),es[i]? =some x→(etys P e)[j]? =some t'→j<P.cellsOf e→∃v,C0[i*P.cellsOf e+j]? =some v∧Pure P w I t' v (epart P e x j))
  (hz: ∀(i j:Nat) x t' e1 l,es[i]? =some x→(etys P e)[j]? =some t'→epart P e x j= .list e1 l→l=[]):
  Le P w I β hp (w.alloc (.cells C0 e)) I (setN β nb (some w.heap.size)) (setN hp nb (some (.nest e es [0,0,0])))∧Sim P (w.alloc (.cells C0 e)) I (setN β nb (some w.heap.size)) (setN hp nb (some (.nest e es [0,0,0]))) B M w0∧
  VRel P (w.alloc (.cells C0 e)) I (setN β nb (some w.heap.size)) (setN hp nb (some (.nest e es [0,0,0]))) (.slice (some ⟨w.heap.size,0,none⟩) es.length cap) (.whole e nb):=by
 obtain ⟨h1,h2⟩:=alloc_sim S (blk:= .nest e es [0,0,0]) (c:=C0) (T:=e) hn (fun b' h=>by
   cases h with
   | root _ h=>exact (Option.some.inj h).symm
   | row h ha=>cases h;exact (At.only hz ha).2.1)
  (fun hle hnew hnI=> .nest rfl (fun q b' e' es' ha=>by
   obtain ⟨rfl,rfl,rfl,rfl⟩:=At.only hz ha
   refine ⟨hok,⟨C0,hnew,by rw[hs];exact Nat.mul_le_mul_right _ hl,fun i j x t' a b c=> ?_⟩,hnI⟩
   obtain ⟨v,hv,hp⟩:=hx i j x t' a b c
   exact ⟨v,hv,.of_pure (hp.mono hle.imm hle.keep) fun e1 l h=>hz i j x t' e1 l a b h⟩)
   fun q1 q2 b' e1 es1 e2 es2 a1 a2=>(At.only hz a1).1.trans (At.only hz a2).1.symm)
 refine ⟨h1,h2,.wholeN (setN_same _ _ _) (setN_same _ _ _) ?_ hl hm⟩
 rw[bsize_cells (heap_alloc_new w (.cells C0 e)),hs]
theorem partsPure_sim (hrel: ∀id blk,hp id=some blk→BlkRel P w I β hp (β id) blk) {a:Act} {sl:Nat→V} (hs:SRel P w I β hp a sl) {G:Nat→V} (hg:GlobOk P G w I) {e:TypeId} {len:Nat}: ∀{l:List (Nat × Operand)} {ps:List (Nat × V)} {upd:List (Nat × Blk)} {rd:List Nat},
  (partsPure P e len (l.map fun p=>(p.1,evO P G e sl p.2))).run C hp=some ((ps,upd),rd)→okTy P e=true→(∀p∈upd,Frz hp p)∧∀I':Nat→Prop,(∀b,I b→I' b)→(∀p∈upd,∀b,Held P w β hp p.1 b→I' b)→
   ∀(cells:Array Value) (es:List V),es.length=len→ElemsRel P w I' e cells es→∃cells',Instr.fill (fun i=>some (i*P.cellsOf e,P.cellsOf e)) cells (l.map fun p=>(p.1,a.eval p.2))=some cells'∧ElemsRel P w I' e cells' (setElems es ps)∧(setElems es ps).length=len
 | [],ps,upd,rd,h,_=>by
  cases h
  exact ⟨by simp,fun I' _ _ cells es hl he=>⟨cells,by simp[Instr.fill],he,hl⟩⟩
 | (i,x)::l,ps,upd,rd,h,hok=>by
  simp only[List.map_cons,partsPure] at h
  obtain ⟨⟨ys,u1⟩,l1,l2,h1,h⟩:=run_bnd h
  obtain ⟨hc,h⟩:=run_chk h
  obtain ⟨⟨ps',u2⟩,l3,l4,h2,h⟩:=run_bnd h
  have:=run_ret' h
  cases this
  simp only[Bool.and_eq_true,Nat.blt_eq] at hc
  obtain ⟨hi,hty⟩:=hc
  obtain ⟨tl,tg⟩:=typedAll_get hty
  have hvr:=hs.ev hg e x
  obtain ⟨v1,v2⟩:=pure_cells hrel hvr h1 hty
  obtain ⟨k1,k2,k3⟩:=pureL_sim hrel h1 (vs:=(a.eval x).cells.toList) (by simpa using v1) v2
  obtain ⟨m1,m2⟩:=partsPure_sim hrel hs hg h2 hok
  refine ⟨fun p hp=> ?_,fun I' i1 i2 cells es hl he=> ?_⟩
  ·rcases List.mem_append.1 hp with h|h
   ·exact k2 p h
   ·exact m1 p h
  ·have hpl:=k3 I' i1 (fun p hp=>i2 p (List.mem_append.2 (.inl hp)))
   have hsz:=(okTy_len hok).1
   have hyl:ys.length=P.cellsOf e:=by rw[←tl,hsz]
   have hvs:(a.eval x).cells.size=P.cellsOf e:=by rw[v1,←k1,hyl]
   have he':=he.set (i:=i) (ys:=ys) (by omega) hvs hyl (fun j t' u y ht hu hy=>by
    exact (hpl j u y (by simpa using hu) hy).pure (tg j t' y (by rw[←etys_flat];exact ht) hy))
   obtain ⟨cells',f1,f2,f3⟩:=m2 I' i1 (fun p hp=>i2 p (List.mem_append.2 (.inr hp))) _ (es.set i (mkElem P e ys)) (by simpa using hl) he'
   refine ⟨cells',?_,f2,f3⟩
   have hb:i*P.cellsOf e+P.cellsOf e≤cells.size:=by
    rw[he.1,hl]
    have:(i+1)*P.cellsOf e≤len*P.cellsOf e:=Nat.mul_le_mul_right _ hi
    rw[Nat.add_mul] at this
    omega
   simp only[List.map_cons,Instr.fill]
   rw[if_neg (by simp;omega)]
   exact f1
theorem zeros_get {z:Array Value} {n k:Nat} (hk:k<n) (hz:0<z.size):((Array.range n).map (z[· %z.size]!))[k]? =z[k %z.size]? :=by
 have hm:k %z.size<z.size:=Nat.mod_lt _ hz
 simp[hk,hm]
theorem zeros_rel {e:TypeId} (h:okElem P e=true) {i:TypeInfo} {z:Value} (hi:P.info? e=some i) (hz:i.zero=some z) (n m:Nat) (hnm:n≤m):
  ∀(k j:Nat) (x:V) (t':TypeId),(List.replicate n (mkElem P e (zeroElem P e)))[k]? =some x→(etys P e)[j]? =some t'→j<P.cellsOf e→
   ∃v,((Array.range (m*P.cellsOf e)).map (z.cells[· %z.cells.size]!))[k*P.cellsOf e+j]? =some v∧Pure P w I t' v (epart P e x j):=by
 intro k j x t' hx ht hj
 obtain ⟨i2,z2,h1,h2,h3,h4,h5⟩:=zero_pure (w:=w) (I:=I) h
 rw[hi] at h1;cases h1
 rw[hz] at h2;cases h2
 rw[List.getElem?_replicate] at hx
 split at hx
 ·rename_i hk
  cases hx
  obtain ⟨v,hv,hp⟩:=h5 j t' ht hj
  refine ⟨v,?_,hp⟩
  have hb:k*P.cellsOf e+j<m*P.cellsOf e:=by
   have:(k+1)*P.cellsOf e≤m*P.cellsOf e:=Nat.mul_le_mul_right _ (by omega)
   rw[Nat.add_mul] at this
   omega
  rw[zeros_get hb (by omega),h4,show (k*P.cellsOf e+j) %P.cellsOf e=j by rw[Nat.mul_comm,Nat.mul_add_mod];exact Nat.mod_eq_of_lt hj]
  exact hv
 ·cases hx
theorem run_buildSliceAny {P:Program} (w:World) (t e:TypeId) (len:Nat) (parts:Array (Nat × Value)) (cells:Array Value) (ie:TypeInfo) (z:Value)
  (hu:P.underlying t=some (.slice e)) (hie:P.info? e=some ie) (hz:ie.zero=some z) (hsmall: ¬len*ie.size>2^24)
  (h:Instr.fill (fun i=>some (i*ie.size,ie.size)) ((Array.range (len*ie.size)).map (z.cells[· %z.cells.size]!)) parts.toList=some cells):
  (Instr.buildSlice t len parts).run P w= .ok (.slice (some ⟨w.heap.size,0,none⟩) len len) (w.alloc (.cells cells e)):=by
 by_cases hnm:len*ie.size=0
 ·have h0: ∀g:Nat→Value,(Array.range (len*ie.size)).map g= #[]:=by intro g;exact Array.eq_empty_of_size_eq_zero (by simp[hnm])
  have hp: ∀(u:Array Value),(Pure.pure u:Sem (Array Value)).run P w= .ok u w:=fun _=>rfl
  rw[h0] at h
  simp only[Instr.buildSlice,Sem.run_bind,run_underlying hu,Result.andThen_ok,sizeOf,typeInfo,hie]
  have h1:(Array.range (len*ie.size)).map (fun _:Nat=>(default:Value))= #[]:=h0 _
  have hs: ¬16777216<len*ie.size:=by omega
  simp[hie,hs,hnm]
  simp only[hnm] at h1
  simp[h1,h,newRow]
 ·exact run_buildSlice w t e len parts cells ie z hu hie hz hsmall hnm h
theorem buildSlice_op_sim (S:Sim P w I β hp B M w0) {a:Act} {sl:Nat→V} (hs:SRel P w I β hp a sl) {G:Nat→V} (hg:GlobOk P G w I) {t e:TypeId} {len nb:Nat} {ps:Array (Nat × Operand)} {r:R} {rd:List Nat} (hu:P.underlying t=some (.slice e))
  (h:(Rd.chk (okElem P e&&Nat.ble (len*P.cellsOf e) (2^24)) ((partsPure P e len (ps.toList.map fun p=>(p.1,evO P G e sl p.2))).bind fun r=>
    newRd nb (.arr e (setElems (List.replicate len (mkElem P e (zeroElem P e))) r.1) false) (.whole e nb) r.2)).run C hp=some (r,rd)):
  ValOk P ((Instr.buildSlice t len (ps.map fun (i,x)=>(i,a.eval x))).run P w) w I β hp B M w0 r:=by
 obtain ⟨hc,h⟩:=run_chk h
 simp only[Bool.and_eq_true,Nat.ble_eq] at hc
 obtain ⟨hel,hl1⟩:=hc
 have hok:okTy P e=true:=by
  unfold okElem at hel;simp only[Bool.and_eq_true] at hel;exact hel.1
 obtain ⟨⟨pv,upd⟩,l1,l2,h1,h⟩:=run_bnd h
 obtain ⟨hn,rfl⟩:=newRd_run h
 obtain ⟨m1,m2⟩:=partsPure_sim S.h.rel hs hg h1 hok
 obtain ⟨hle1,S1⟩:=freeze_sim S m1
 obtain ⟨i,z,hi,hz,h3,h4,_⟩:=zero_pure (w:=w) (I:=I) hel
 have hpos:=(okTy_len hok).2
 have h0:ElemsRel P w (IFrz P w I β hp upd) e ((Array.range (len*P.cellsOf e)).map (z.cells[· %z.cells.size]!)) (List.replicate len (mkElem P e (zeroElem P e))):=
  ⟨by simp,zeros_rel hel hi hz len len (Nat.le_refl _)⟩
 obtain ⟨cells,f1,f2,f3⟩:=m2 (IFrz P w I β hp upd) (fun _ h=> .inl h) (fun p hp b h=> .inr ⟨p,hp,h⟩) _ _ (by simp) h0
 have hn1:updH hp upd nb=none:=by
  rcases updH_of (hp:=hp) (l:=upd) (id:=nb) with h|⟨b',hm,_⟩
  ·exact h.trans hn
  ·obtain ⟨e1,es1,_,h5⟩:=m1 _ hm
   simp only[hn] at h5
   rcases h5 with ⟨_,h5⟩|⟨_,h5⟩<;>cases h5
 have hmx:len≤maxLen:=by
  have:len*1≤len*P.cellsOf e:=Nat.mul_le_mul_left _ hpos
  simp only[maxLen]
  omega
 obtain ⟨n1,n2,n3⟩:=newArr_sim S1 (cap:=len) hok hn1 (by rw[f2.1,f3]) (by rw[f3];exact Nat.le_refl _) hmx f2.2
 have hrun:=run_buildSliceAny w t e len (ps.map fun (i,x)=>(i,a.eval x)) cells i z hu hi hz (by rw[h3];omega) (by rw[h3];simpa using f1)
 refine ⟨_,_,_,_,hrun,hle1.trans n1,n2,?_⟩
 rw[f3] at n3
 exact n3
theorem makeSlice_op_sim (S:Sim P w I β hp B M w0) {t e:TypeId} {nb:Nat} {kl kc:IntKind} {n m:Int} {r:R} {rd:List Nat} (hu:P.underlying t=some (.slice e))
  (h:(Rd.chk (okElem P e&&(decide (0≤n)&&(decide (n≤m)&&Nat.ble (m.toNat*P.bytesOf e) maxBytes)))
    (newRd nb (.arr e (List.replicate n.toNat (mkElem P e (zeroElem P e))) false) (.whole e nb) [])).run C hp=some (r,rd)):
  ValOk P ((Instr.makeSlice t (.int kl n) (.int kc m)).run P w) w I β hp B M w0 r:=by
 obtain ⟨hc,h⟩:=run_chk h
 simp only[Bool.and_eq_true,Nat.ble_eq,decide_eq_true_eq] at hc
 obtain ⟨hel,h0,hnm,hby⟩:=hc
 have hok:okTy P e=true:=by
  unfold okElem at hel;simp only[Bool.and_eq_true] at hel;exact hel.1
 obtain ⟨hn,rfl⟩:=newRd_run h
 obtain ⟨i,z,hi,hz,h3,h4,_⟩:=zero_pure (w:=w) (I:=I) hel
 have hbi:P.bytesOf e=i.bytes:=by simp[Program.bytesOf,hi]
 have hm63:m≤9223372036854775807:=by
  have h1:m.toNat*1≤m.toNat*P.bytesOf e:=Nat.mul_le_mul_left _ (okTy_bytes hok)
  simp only[maxBytes] at hby
  omega
 have hrun:=run_make (P:=P) w t e i z hu hi hz kl kc n m h0 hnm (by
  rw[hbi] at hby
  simp only[maxBytes] at hby
  have:(i.bytes:Int)*m=((m.toNat*i.bytes:Nat):Int):=by
   rw[Int.natCast_mul,Int.toNat_of_nonneg (by omega),Int.mul_comm]
  rw[this]
  omega) hm63
 have hlen:(List.replicate n.toNat (mkElem P e (zeroElem P e))).length=n.toNat:=by simp
 obtain ⟨n1,n2,n3⟩:=newArr_sim S (cap:=m.toNat) (es:=List.replicate n.toNat (mkElem P e (zeroElem P e))) (C0:=madeCells z.cells (m.toNat*i.size)) hok hn (by rw[size_madeCells,h3]) (by rw[hlen];omega) (by simp only[maxLen];omega)
  (by rw[h3];exact zeros_rel hel hi hz n.toNat m.toNat (by omega))
 refine ⟨_,_,_,_,hrun,n1,n2,?_⟩
 rw[hlen] at n3
 exact n3
theorem noRows_nth: ∀{l:List V} {j:Nat} {e1:TypeId} {k:List V},noRows l=true→V.nth l j= .list e1 k→k=[]
 | [],j,e1,k,_,h=>by cases j<;>cases h
 | x::l,0,e1,k,hn,h=>by
  simp only[V.nth] at h
  subst h
  cases k with
  | nil=>rfl
  | cons _ _=>cases hn
 | x::l,j+1,e1,k,hn,h=>by
  refine noRows_nth (l:=l) (j:=j) ?_ h
  cases x with
  | list e2 k2=>
   cases k2 with
   | nil=>exact hn
   | cons _ _=>cases hn
  | _=>exact hn
theorem noRows_elem {e:TypeId} {n:Nat} (hok:okTy P e=true) (h:noRows (zeroElem P e)=true):
  ∀(i j:Nat) x t' e1 l,(List.replicate n (mkElem P e (zeroElem P e)))[i]? =some x→(etys P e)[j]? =some t'→epart P e x j= .list e1 l→l=[]:=by
 intro i j x t' e1 l hx ht hl
 have:=List.eq_of_mem_replicate (List.mem_of_getElem? hx)
 subst this
 unfold epart mkElem at hl
 cases ha:isAggT P e with
 | true=>rw[ha] at hl;exact noRows_nth h hl
 | false=>rw[ha] at hl;exact noRows_nth h hl
theorem makeNest_op_sim (S:Sim P w I β hp B M w0) {t e:TypeId} {nb:Nat} {kl kc:IntKind} {n m:Int} {r:R} {rd:List Nat} (hu:P.underlying t=some (.slice e))
  (h:(Rd.chk (okElem P e&&(decide (0≤n)&&(decide (n≤m)&&Nat.ble (m.toNat*P.bytesOf e) maxBytes)))
    (Rd.chk (noRows (zeroElem P e)) (newRd nb (.nest e (List.replicate n.toNat (mkElem P e (zeroElem P e))) [0,0,0]) (.whole e nb) []))).run C hp=some (r,rd)):
  ValOk P ((Instr.makeSlice t (.int kl n) (.int kc m)).run P w) w I β hp B M w0 r:=by
 obtain ⟨hc,h⟩:=run_chk h
 simp only[Bool.and_eq_true,Nat.ble_eq,decide_eq_true_eq] at hc
 obtain ⟨hel,h0,hnm,hby⟩:=hc
 have hok:okTy P e=true:=by
  unfold okElem at hel;simp only[Bool.and_eq_true] at hel;exact hel.1
 obtain ⟨hnr,h⟩:=run_chk h
 obtain ⟨hn,rfl⟩:=newRd_run h
 obtain ⟨i,z,hi,hz,h3,h4,_⟩:=zero_pure (w:=w) (I:=I) hel
 have hbi:P.bytesOf e=i.bytes:=by simp[Program.bytesOf,hi]
 have hm63:m≤9223372036854775807:=by
  have h1:m.toNat*1≤m.toNat*P.bytesOf e:=Nat.mul_le_mul_left _ (okTy_bytes hok)
  simp only[maxBytes] at hby
  omega
 have hrun:=run_make (P:=P) w t e i z hu hi hz kl kc n m h0 hnm (by
  rw[hbi] at hby
  simp only[maxBytes] at hby
  have:(i.bytes:Int)*m=((m.toNat*i.bytes:Nat):Int):=by
   rw[Int.natCast_mul,Int.toNat_of_nonneg (by omega),Int.mul_comm]
  rw[this]
  omega) hm63
 have hlen:(List.replicate n.toNat (mkElem P e (zeroElem P e))).length=n.toNat:=by simp
 obtain ⟨n1,n2,n3⟩:=newNest_sim S (cap:=m.toNat) (es:=List.replicate n.toNat (mkElem P e (zeroElem P e))) (C0:=madeCells z.cells (m.toNat*i.size)) hok hn (by rw[size_madeCells,h3]) (by rw[hlen];omega) (by simp only[maxLen];omega)
  (by rw[h3];exact zeros_rel hel hi hz n.toNat m.toNat (by omega))
  (noRows_elem hok hnr)
 refine ⟨_,_,_,_,hrun,n1,n2,?_⟩
 rw[hlen] at n3
 exact n3
theorem Pure.one {t:TypeId} {v:Value} {x:V} (h:Pure P w I t v x):v.oneCell'=true:=by cases h<;>rfl
structure Row (P:Program) (w:World) (I:Nat→Prop) (e:TypeId) (v:Value) (xs:List V) (a:Addr) (c:Nat) (news:List Value):Prop where
 val:v= .slice (some a) xs.length c
 len:news.length=xs.length*P.cellsOf e
 cell: ∀(j:Nat) u,news[j]? =some u→w.cell? (a.add j)=some u
 el: ∀(i j:Nat) (x:V) (t':TypeId),xs[i]? =some x→(etys P e)[j]? =some t'→j<P.cellsOf e→∃u,news[i*P.cellsOf e+j]? =some u∧Pure P w I t' u (epart P e x j)
theorem Row.one {e:TypeId} {v:Value} {xs:List V} {a:Addr} {c:Nat} {news:List Value} (h:Row P w I e v xs a c news) (hok:okTy P e=true): ∀u∈news,u.oneCell'=true:=by
 intro u hu
 obtain ⟨k,hk⟩:=List.getElem?_of_mem hu
 have hkl:=(List.getElem?_eq_some_iff.1 hk).1
 have hpos:=(okTy_len hok).2
 rw[h.len] at hkl
 have hi:k/P.cellsOf e<xs.length:=Nat.div_lt_of_lt_mul (by rw[Nat.mul_comm];exact hkl)
 have hj:k %P.cellsOf e<P.cellsOf e:=Nat.mod_lt _ hpos
 have hj':k %P.cellsOf e<(etys P e).length:=by rw[okTy_etys hok];exact hj
 obtain ⟨u',hu',hp⟩:=h.el (k/P.cellsOf e) (k %P.cellsOf e) _ _ (List.getElem?_eq_getElem hi) (List.getElem?_eq_getElem hj') hj
 rw[Nat.div_add_mod'] at hu'
 rw[hk] at hu'
 cases hu'
 exact hp.one
theorem row_of_arr {e:TypeId} {es:List V} {b:Nat} {Ca:Array Value} {off len cap o:Nat} (hh:w.heap[b]? =some (.cells Ca e (0,0))) (hs:es.length*P.cellsOf e≤Ca.size)
  (hx: ∀(i j:Nat) (x:V) (t':TypeId),es[i]? =some x→(etys P e)[j]? =some t'→j<P.cellsOf e→∃v,Ca[i*P.cellsOf e+j]? =some v∧Pure P w I t' v (epart P e x j))
  (hol:off+len≤es.length) (ho:0<len→o=off*P.cellsOf e):
  Row P w I e (.slice (some ⟨b,o,none⟩) len cap) ((es.drop off).take len) ⟨b,o,none⟩ cap ((Ca.toList.drop (off*P.cellsOf e)).take (len*P.cellsOf e)):=by
 have hlen:((es.drop off).take len).length=len:=by simp;omega
 have hb:(off+len)*P.cellsOf e≤Ca.size:=Nat.le_trans (Nat.mul_le_mul_right _ hol) hs
 rw[Nat.add_mul] at hb
 refine ⟨by rw[hlen],by rw[hlen];simp;omega,fun j u hj=> ?_,fun i j x t' hxi ht hj=> ?_⟩
 ·have hjl:=(List.getElem?_eq_some_iff.1 hj).1
  have hjl2:j<len*P.cellsOf e:=by
   rw[List.length_take] at hjl;omega
  have hl0:0<len:=by
   rcases Nat.eq_zero_or_pos len with h|h
   ·rw[h] at hjl2;simp at hjl2
   ·exact h
  rw[List.getElem?_take_of_lt hjl2,List.getElem?_drop] at hj
  rw[add_none,cell?_cells hh,ho hl0]
  simpa using hj
 ·have hi:i<len:=by rw[←hlen];exact (List.getElem?_eq_some_iff.1 hxi).1
  rw[List.getElem?_take_of_lt hi,List.getElem?_drop] at hxi
  obtain ⟨u,hu,hp⟩:=hx (off+i) j x t' hxi ht hj
  refine ⟨u,?_,hp⟩
  have:i*P.cellsOf e+j<len*P.cellsOf e:=by
   have:(i+1)*P.cellsOf e≤len*P.cellsOf e:=Nat.mul_le_mul_right _ hi
   rw[Nat.add_mul] at this
   omega
  rw[List.getElem?_take_of_lt this,List.getElem?_drop]
  rw[Nat.add_mul] at hu
  rw[←Nat.add_assoc]
  simpa using hu
theorem elems_sim (hrel: ∀id blk,hp id=some blk→BlkRel P w I β hp (β id) blk) {e:TypeId} {v:Value} {x:V} {k:List V→Rd R} {r:R} {rd:List Nat} (hok:okTy P e=true) (hv:VRel P w I β hp v x)
  (h:(elemsRd e x k).run C hp=some (r,rd)): ∃xs,(((∃a,v= .slice a 0 0)∧xs=[])∨∃a c news,Row P w I e v xs a c news)∧∃l,(k xs).run C hp=some (r,l):=by
 cases hv with
 | list hp'=>
  obtain ⟨hc,h2⟩:=run_chk h
  clear h
  rw[Nat.beq_eq] at hc
  subst hc
  cases hp' with
  | nil=>exact ⟨[],.inl ⟨⟨_,rfl⟩,rfl⟩,rd,h2⟩
  | @emp a cap=>exact ⟨[],.inr ⟨a,cap,[],⟨rfl,by simp,fun j u hj=>by simp at hj,fun i j x t' hx _ _=>by simp at hx⟩⟩,rd,h2⟩
  | @list b o len cap es g hl hcap hI hcell hx=>
   refine ⟨_,.inr ⟨⟨b,o,none⟩,cap,(List.range (len*P.cellsOf e)).map fun k=>g (k/P.cellsOf e) (k %P.cellsOf e),⟨by rw[hl],by rw[hl];simp,fun j u hj=> ?_,fun i j x t' hxi ht hj=> ?_⟩⟩,rd,h2⟩
   ·obtain ⟨hjl,hje⟩:=List.getElem?_eq_some_iff.1 hj
    simp at hjl hje
    have hpos:=(okTy_len hok).2
    have hi:j/P.cellsOf e<len:=Nat.div_lt_of_lt_mul (by rw[Nat.mul_comm];exact hjl)
    have hj2:j %P.cellsOf e<P.cellsOf e:=Nat.mod_lt _ hpos
    rw[add_none,←hje]
    have:=hcell (j/P.cellsOf e) (j %P.cellsOf e) hi hj2
    rwa [Nat.div_add_mod'] at this
   ·have hi:i<len:=by rw[←hl];exact (List.getElem?_eq_some_iff.1 hxi).1
    have hb:i*P.cellsOf e+j<len*P.cellsOf e:=by
     have:(i+1)*P.cellsOf e≤len*P.cellsOf e:=Nat.mul_le_mul_right _ hi
     rw[Nat.add_mul] at this
     omega
    refine ⟨g i j,?_,hx i j x t' hxi ht⟩
    have e1:(i*P.cellsOf e+j)/P.cellsOf e=i:=by
     rw[Nat.mul_comm,Nat.mul_add_div (okTy_len hok).2,Nat.div_eq_of_lt hj,Nat.add_zero]
    have e2:(i*P.cellsOf e+j) %P.cellsOf e=j:=by
     rw[Nat.mul_comm,Nat.mul_add_mod];exact Nat.mod_eq_of_lt hj
    simp[hb,e1,e2]
 | nilS=>
  obtain ⟨hc,h⟩:=run_chk h
  exact ⟨[],.inl ⟨⟨_,rfl⟩,rfl⟩,rd,h⟩
 | wholeNil hid hb=>
  obtain ⟨l,h⟩:=run_get h
  simp only[hid] at h
  obtain ⟨hc,h⟩:=run_chk h
  exact ⟨[],.inl ⟨⟨_,rfl⟩,rfl⟩,l,h⟩
 | @whole e' id es fz b cap hid hb hsz hcap hm=>
  obtain ⟨l,h⟩:=run_get h
  simp only[hid] at h
  obtain ⟨hc,h2⟩:=run_chk h
  clear h
  simp only[Bool.and_eq_true,Nat.beq_eq] at hc
  obtain ⟨rfl,_⟩:=hc
  have hr:=hrel _ _ hid
  cases hr with
  | arrNil hb'=>rw[hb'] at hb;cases hb
  | arr hok' hb' hh hs hf hnf hx=>
   rw[hb] at hb';cases hb'
   have:=row_of_arr (cap:=cap) (off:=0) (len:=es.length) (o:=0) hh hs hx (by omega) (fun _=>by simp)
   exact ⟨es,.inr ⟨_,_,_,by simpa using this⟩,l,h2⟩
 | subNil hid hb=>
  obtain ⟨l,h⟩:=run_get h
  simp only[hid] at h
  obtain ⟨hc,h⟩:=run_chk h
  exact ⟨[],.inl ⟨⟨_,rfl⟩,rfl⟩,l,by simpa using h⟩
 | @sub e' id off len es fz b o cap hid hb hol hcap ho=>
  obtain ⟨l,h⟩:=run_get h
  simp only[hid] at h
  obtain ⟨hc,h2⟩:=run_chk h
  clear h
  simp only[Bool.and_eq_true,Nat.beq_eq] at hc
  obtain ⟨rfl,_⟩:=hc
  have hr:=hrel _ _ hid
  cases hr with
  | arrNil hb'=>rw[hb'] at hb;cases hb
  | arr hok' hb' hh hs hf hnf hx=>
   rw[hb] at hb';cases hb'
   exact ⟨_,.inr ⟨_,_,_,row_of_arr (cap:=cap) hh hs hx hol ho⟩,l,h2⟩
 | wholeDead hid=>
  obtain ⟨l,h⟩:=run_get h
  simp only[hid] at h
  cases h
 | subDead hid=>
  obtain ⟨l,h⟩:=run_get h
  simp only[hid] at h
  cases h
 | undef=>cases h
 | int=>cases h
 | bool=>cases h
 | str=>cases h
 | agg=>cases h
 | tup=>cases h
 | nilp=>cases h
 | fn=>cases h
 | pref=>cases h
 | ptrDead=>cases h
 | ptr=>cases h
 | rowPast=>cases h
 | atPast=>cases h
 | row=>cases h
 | elt=>cases h
 | nilM=>cases h
 | mrefDead=>cases h
 | mref=>cases h
 | wholeN hid=>
  obtain ⟨l,h⟩:=run_get h
  simp only[hid] at h
  cases h
theorem run_append_empty {t ty e:TypeId} {i:TypeInfo} (ht:P.underlying t=some (.slice e)) (hi:P.info? e=some i) (a:Option Addr) (n cap:Nat) (x:Value) (hx: ∃a c,x= .slice a 0 c) (hn:n≤cap):
  (Builtin.append_ #[t,t] ty #[.slice a n cap,x]).run P w= .ok (.slice a n cap) w:=by
 obtain ⟨a',c,rfl⟩:=hx
 cases a' with
 | none=>cases a<;>simp[Builtin.append_,run_underlying ht,sizeOf,typeInfo,hi,Builtin.lenOf,Builtin.firstCells,hn,storeCells]
 | some a'=>cases a<;>simp[Builtin.append_,run_underlying ht,sizeOf,typeInfo,hi,Builtin.lenOf,Builtin.firstCells,hn,storeCells,loadCells,loadCellsFrom]
theorem append_elems {e:TypeId} {es xs:List V} {n:Nat} {c:List Value} {news:List Value} (hn:es.length=n)
  (h1: ∀(i j:Nat) (x:V) (t':TypeId),es[i]? =some x→(etys P e)[j]? =some t'→j<P.cellsOf e→∃v,c[i*P.cellsOf e+j]? =some v∧Pure P w I t' v (epart P e x j))
  (h2: ∀(i j:Nat) (x:V) (t':TypeId),xs[i]? =some x→(etys P e)[j]? =some t'→j<P.cellsOf e→∃v,news[i*P.cellsOf e+j]? =some v∧Pure P w I t' v (epart P e x j))
  (hb:n*P.cellsOf e≤c.length) (rest:List Value):
  ∀(i j:Nat) (x:V) (t':TypeId),(es++xs)[i]? =some x→(etys P e)[j]? =some t'→j<P.cellsOf e→∃v,(c.take (n*P.cellsOf e)++news++rest)[i*P.cellsOf e+j]? =some v∧Pure P w I t' v (epart P e x j):=by
 intro i j x t' hx ht hj
 have hl:(c.take (n*P.cellsOf e)).length=n*P.cellsOf e:=by simp;omega
 by_cases hi:i<n
 ·rw[List.getElem?_append_left (by omega)] at hx
  obtain ⟨v,hv,hp⟩:=h1 i j x t' hx ht hj
  have:i*P.cellsOf e+j<n*P.cellsOf e:=by
   have:(i+1)*P.cellsOf e≤n*P.cellsOf e:=Nat.mul_le_mul_right _ hi
   rw[Nat.add_mul] at this
   omega
  exact ⟨v,by rw[List.append_assoc,List.getElem?_append_left (by omega),List.getElem?_take_of_lt this];exact hv,hp⟩
 ·rw[List.getElem?_append_right (by omega),hn] at hx
  obtain ⟨v,hv,hp⟩:=h2 (i-n) j x t' hx ht hj
  have hi2:i-n<xs.length:=(List.getElem?_eq_some_iff.1 hx).1
  have e1:i*P.cellsOf e+j-n*P.cellsOf e=(i-n)*P.cellsOf e+j:=by
   rw[Nat.sub_mul]
   have:n*P.cellsOf e≤i*P.cellsOf e:=Nat.mul_le_mul_right _ (by omega)
   omega
  have h3:(i-n)*P.cellsOf e+j<news.length:=(List.getElem?_eq_some_iff.1 hv).1
  refine ⟨v,?_,hp⟩
  have h4:n*P.cellsOf e≤i*P.cellsOf e+j:=by
   have:n*P.cellsOf e≤i*P.cellsOf e:=Nat.mul_le_mul_right _ (by omega)
   omega
  rw[List.append_assoc,List.getElem?_append_right (by omega),hl,e1,List.getElem?_append_left h3]
  exact hv
theorem Pure.drew {t:TypeId} {v:Value} {x:V} (h:Pure P w I t v x):Pure P w.drew I t v x:=Pure.mono (w:=w) (w':=w.drew) (fun _ h=>h) (fun _ _=>rfl) h
theorem run_append_cap0 (w:World) (t ty e:TypeId) (i:TypeInfo) (z:Value) (ht:P.underlying t=some (.slice e)) (hi:P.info? e=some i) (hz:i.zero=some z)
  (a0:Option Addr) (a:Addr) (n c:Nat) (news:List Value) (hl:news.length=n*i.size) (hnews: ∀j v,news[j]? =some v→w.cell? (a.add j)=some v)
  (h0:0<n) (h63:(n:Int)≤9223372036854775807) (h48:n*i.bytes≤281474976710656):
  (Builtin.append_ #[t,t] ty #[.slice a0 0 0,.slice (some a) n c]).run P w=
   .ok (.slice (some ⟨w.heap.size,0,none⟩) n (grownCap w n 0 e)) (w.drew.alloc (.cells (news.toArray++Builtin.zeroCells z.cells (grownCap w n 0 e-n)) e)):=by
 cases a0 with
 | none=>exact run_append_nil w t ty e i z ht hi hz a n c news hl hnews h0 h63 h48
 | some b=>
  have:=run_append_grow (P:=P) w t ty e i z ht hi hz b 0 0 [] (by simp) (by simp) a n c news hl hnews (by omega) (by omega) (by rw[Nat.zero_add,nextslicecap_zero h0];omega)
  simpa using this
theorem append_nil_sim (S:Sim P w I β hp B M w0) {t ty e:TypeId} {nb:Nat} {x:Value} {xs:List V} (hu:P.underlying t=some (.slice e)) (hok:okTy P e=true) (hn:hp nb=none)
  (hby:xs.length*P.bytesOf e≤maxBytes) {a0:Option Addr} (hx:((∃a,x= .slice a 0 0)∧xs=[])∨∃a c news,Row P w I e x xs a c news):
  ∃v w' β',(Builtin.append_ #[t,t] ty #[.slice a0 0 0,x]).run P w= .ok v w'∧Le P w I β hp w' I β' (setN hp nb (some (.arr e xs false)))∧Sim P w' I β' (setN hp nb (some (.arr e xs false))) B M w0∧
   VRel P w' I β' (setN hp nb (some (.arr e xs false))) v (.whole e nb):=by
 obtain ⟨i,z,hi,hz,h3,h4,_⟩:=okTy_zero hok
 have hbp:=okTy_bytes hok
 have hbi:P.bytesOf e=i.bytes:=by simp[Program.bytesOf,hi]
 have hlen:xs.length≤2^45:=by
  have:xs.length*1≤xs.length*P.bytesOf e:=Nat.mul_le_mul_left _ hbp
  simp only[maxBytes] at hby
  omega
 have empty:xs=[]→(∃a c,x= .slice a 0 c)→∃v w' β',(Builtin.append_ #[t,t] ty #[.slice a0 0 0,x]).run P w= .ok v w'∧Le P w I β hp w' I β' (setN hp nb (some (.arr e xs false)))∧Sim P w' I β' (setN hp nb (some (.arr e xs false))) B M w0∧
   VRel P w' I β' (setN hp nb (some (.arr e xs false))) v (.whole e nb):=by
  intro hxs hxx
  subst hxs
  obtain ⟨a1,a2⟩:=adoptNil_sim S e hn
  exact ⟨_,_,_,run_append_empty hu hi a0 0 0 x hxx (Nat.le_refl _),a1,a2,.wholeNil (setN_same _ _ _) (setN_same _ _ _)⟩
 rcases hx with ⟨⟨_,rfl⟩,rfl⟩|⟨a,c,news,hr⟩
 ·exact empty rfl ⟨_,_,rfl⟩
 ·by_cases h0:xs.length=0
  ·have hxs:xs=[]:=List.eq_nil_of_length_eq_zero h0
   refine empty hxs ⟨some a,c,?_⟩
   rw[hr.val,h0]
  ·have hrun:=run_append_cap0 (P:=P) w t ty e i z hu hi hz a0 a xs.length c news (by rw[hr.len,h3]) hr.cell (by omega) (by omega) (by rw[←hbi];simp only[maxBytes] at hby;omega)
   have hge:=grownCap_ge w xs.length 0 e
   have hcm:grownCap w xs.length 0 e≤maxLen:=grownCap_le_maxLen w xs.length 0 e (by simp only[maxLen];omega)
   obtain ⟨n1,n2,n3⟩:=newArr_sim S.drew (nb:=nb) (cap:=grownCap w xs.length 0 e) (es:=xs) (C0:=news.toArray++Builtin.zeroCells z.cells (grownCap w xs.length 0 e-xs.length)) hok hn
    (by simp only[Array.size_append,List.size_toArray,size_zeroCells,h4,hr.len,←Nat.add_mul];congr 1;omega) hge hcm
    (fun i' j y t' hy ht hj=>by
     obtain ⟨u,hu',hp⟩:=hr.el i' j y t' hy ht hj
     have hlt:=(List.getElem?_eq_some_iff.1 hu').1
     refine ⟨u,?_,Pure.drew hp⟩
     rw[Array.getElem?_append_left (by simpa using hlt)]
     simpa using hu')
   rw[hr.val]
   exact ⟨_,_,_,hrun,(Le.drew w I β hp).trans n1,n2,n3⟩
theorem append_sim (S:Sim P w I β hp B M w0) {t ty e:TypeId} {nb:Nat} {s x:Value} {sv xv:V} {r:R} {rd:List Nat} (hu:P.underlying t=some (.slice e)) (hs:VRel P w I β hp s sv) (hx:VRel P w I β hp x xv)
  (h:(appendRd P nb e sv xv).run C hp=some (r,rd)):ValOk P ((Builtin.append_ #[t,t] ty #[s,x]).run P w) w I β hp B M w0 r:=by
 unfold appendRd at h
 obtain ⟨hok,h⟩:=run_chk h
 obtain ⟨xs,hxr,l0,h⟩:=elems_sim S.h.rel hok hx h
 cases sv with
 | nilS e'=>
  obtain ⟨hc,h⟩:=run_chk h
  simp only[Bool.and_eq_true,Nat.beq_eq,Nat.ble_eq] at hc
  obtain ⟨hn,rfl⟩:=newRd_run h
  obtain ⟨a0,rfl⟩: ∃a0,s= .slice a0 0 0:=by cases hs;exact ⟨_,rfl⟩
  obtain ⟨v,w',β',a1,a2,a3,a4⟩:=append_nil_sim (ty:=ty) S hu hok hn hc.2 hxr
  exact ⟨v,w',I,β',a1,a2,a3,a4⟩
 | whole e' id=>
  obtain ⟨l,h⟩:=run_get h
  cases hid:hp id with
  | none=>rw[hid] at h;cases h
  | some blk=>
   rw[hid] at h
   cases blk with
   | dead=>cases h
   | var _=>cases h
   | nest _ _ _=>cases h
   | map _ _=>cases h
   | arr e'' es fz=>
    cases fz with
    | true=>cases h
    | false=>
     obtain ⟨hc,h⟩:=run_chk h
     obtain ⟨hn,rfl⟩:=newRd_run h
     simp only[Bool.and_eq_true,Nat.beq_eq,Nat.ble_eq] at hc
     obtain ⟨he1,he2,hby⟩:=hc
     subst he1
     subst he2
     have hne:nb≠id:=fun e=>by rw[e,hid] at hn;cases hn
     obtain ⟨k1,k2⟩:=kill_sim S hid
     have hn1:setN hp id (some Blk.dead) nb=none:=by rw[setN_ne _ _ hne];exact hn
     cases hs with
     | wholeDead hd=>rw[hid] at hd;cases hd
     | wholeN hd=>rw[hid] at hd;cases hd
     | wholeNil hd hb=>
      rw[hid] at hd
      cases hd
      simp only[List.length_nil,Nat.zero_add] at hby
      have hxr':((∃a,x= .slice a 0 0)∧xs=[])∨∃a c news,Row P w I e x xs a c news:=hxr
      obtain ⟨v,w',β',a1,a2,a3,a4⟩:=append_nil_sim (ty:=ty) k2 hu hok hn1 hby hxr'
      exact ⟨v,w',I,β',a1,k1.trans a2,a3,a4⟩
     | @whole _ _ es' fz' b cap hd hb hsz hcap hm=>
      rw[hid] at hd
      cases hd
      have hr:=S.h.rel id _ hid
      cases hr with
      | arrNil hb'=>rw[hb'] at hb;cases hb
      | @arr _ _ _ b' Ca _ hb' hh hsA hf hnf hxA=>
       rw[hb] at hb'
       cases hb'
       obtain ⟨i,z,hi,hz,h3,h4,_⟩:=okTy_zero hok
       have hbp:=okTy_bytes hok
       have hbi:P.bytesOf e=i.bytes:=by simp[Program.bytesOf,hi]
       have hlen:es.length+xs.length≤2^45:=by
        have:(es.length+xs.length)*1≤(es.length+xs.length)*P.bytesOf e:=Nat.mul_le_mul_left _ hbp
        simp only[maxBytes] at hby
        omega
       rw[bsize_cells hh] at hsz
       have hfree: ∀id' blk',setN hp id (some Blk.dead) id'=some blk'→¬Owns P w (β id') blk' b:=by
        intro id' blk' h1 h2
        by_cases hii:id'=id
        ·subst hii;rw[setN_same] at h1;cases h1;exact h2.alive rfl
        ·rw[setN_ne _ _ hii] at h1
         exact hii (S.h.inj id' id blk' _ b h1 hid h2 (.root (by simp) hb))
       have hMb:=S.h.own0 id _ b hid (by simp) hb
       have room: ∀(C':Array Value) (w':World) (ys:List V),w'.heap[b]? =some (.cells C' e (0,0))→C'.size=Ca.size→(∀b',b'≠b→w'.heap[b']? =w.heap[b']?)→w.heap.size≤w'.heap.size→(w'.os=w.os∧w'.output=w.output)→ys.length≤cap→
         (∀(i j:Nat) (y:V) (t':TypeId),ys[i]? =some y→(etys P e)[j]? =some t'→j<P.cellsOf e→∃v,C'[i*P.cellsOf e+j]? =some v∧Pure P w I t' v (epart P e y j))→
         Le P w I β hp w' I (setN β nb (some b)) (setN (setN hp id (some .dead)) nb (some (.arr e ys false)))∧Sim P w' I (setN β nb (some b)) (setN (setN hp id (some .dead)) nb (some (.arr e ys false))) B M w0∧
         VRel P w' I (setN β nb (some b)) (setN (setN hp id (some .dead)) nb (some (.arr e ys false))) (.slice (some ⟨b,0,none⟩) ys.length cap) (.whole e nb):=by
        intro C' w' ys hC hCs hw' hwz hwio hyl hy
        obtain ⟨a1,a2⟩:=adopt_sim k2 (blk:= .arr e ys false) (w':=w') hn1 hfree (hnf rfl) (fun b' h _=>hw' b' h) hwz hwio hMb
         (fun b' h=>(Option.some.inj (h.flat (by simp))).symm) (fun hle=> .arr hok rfl hC (by rw[hCs,←hsz];exact Nat.mul_le_mul_right _ hyl) (fun h=>by cases h) (fun _=>hnf rfl) fun i j y t' a b c=>by
          obtain ⟨v,hv,hp⟩:=hy i j y t' a b c
          exact ⟨v,hv,hp.mono hle.imm hle.keep⟩)
        refine ⟨k1.trans a1,a2,.whole (setN_same _ _ _) (setN_same _ _ _) ?_ hyl hm⟩
        rw[bsize_cells hC,hCs,hsz]
       have same:xs=[]→(∃a c,x= .slice a 0 c)→ValOk P ((Builtin.append_ #[t,t] ty #[.slice (some ⟨b,0,none⟩) es.length cap,x]).run P w) w I β hp B M w0 ⟨.whole e nb,[(nb,.arr e (es++xs) false),(id,.dead)]⟩:=by
        intro hxs hxx
        subst hxs
        rw[List.append_nil]
        obtain ⟨a1,a2,a3⟩:=room Ca w es hh rfl (fun _ _=>rfl) (Nat.le_refl _) ⟨rfl,rfl⟩ hcap hxA
        exact ⟨_,_,_,_,run_append_empty hu hi _ _ _ x hxx hcap,a1,a2,a3⟩
       rcases hxr with ⟨⟨_,rfl⟩,rfl⟩|⟨a,c,news,hrow⟩
       ·exact same rfl ⟨_,_,rfl⟩
       ·have h1:=hrow.one hok
        have hb1:es.length*P.cellsOf e≤Ca.toList.length:=by simpa using hsA
        by_cases hroom:es.length+xs.length≤cap
        ·have hfit:es.length*P.cellsOf e+news.length≤Ca.size:=by rw[hrow.len,←Nat.add_mul,←hsz];exact Nat.mul_le_mul_right _ hroom
         have hrun:=run_append_room (P:=P) w t ty e i hu hi b es.length cap Ca hh a xs.length c news (by rw[hrow.len,h3]) hrow.cell h1 hroom (by rw[h3];exact hfit)
         rw[h3] at hrun
         have hel:=append_elems (P:=P) (w:=w) (I:=I) (n:=es.length) (c:=Ca.toList) rfl (fun i j y t' a b c=>by
          obtain ⟨v,hv,hp⟩:=hxA i j y t' a b c
          exact ⟨v,by simpa using hv,hp⟩) hrow.el hb1 (Ca.toList.drop (es.length*P.cellsOf e+news.length))
         obtain ⟨a1,a2,a3⟩:=room (Ca.toList.take (es.length*P.cellsOf e)++news++Ca.toList.drop (es.length*P.cellsOf e+news.length)).toArray (w.setRow b _) (es++xs)
          (setRow_heap w b Ca _ e _ hh) (by simp;omega) (fun b' hb'=>setRow_other w b b' _ hb') (by simp) ⟨rfl,rfl⟩ (by simpa using hroom)
          (fun i j y t' a b c=>by
           obtain ⟨v,hv,hp⟩:=hel i j y t' a b c
           exact ⟨v,by simpa using hv,hp⟩)
         rw[hrow.val]
         rw[List.length_append] at a3
         exact ⟨_,_,_,_,hrun,a1,a2,a3⟩
        ·have hold: ∀(j:Nat) v,(Ca.toList.take (es.length*P.cellsOf e))[j]? =some v→w.cell? ((⟨b,0,none⟩:Addr).add j)=some v:=by
          intro j v hj
          have hjl:=(List.getElem?_eq_some_iff.1 hj).1
          have hj2:j<es.length*P.cellsOf e:=by rw[List.length_take] at hjl;omega
          rw[List.getElem?_take_of_lt hj2] at hj
          rw[add_none,cell?_cells hh,Nat.zero_add]
          simpa using hj
         have hrun:=run_append_grow (P:=P) w t ty e i z hu hi hz ⟨b,0,none⟩ es.length cap (Ca.toList.take (es.length*P.cellsOf e)) (by rw[h3];simp;omega) hold a xs.length c news (by rw[hrow.len,h3]) hrow.cell (by omega) (by omega)
          (growslice_fits (by omega) (by rw[←hbi];simp only[maxBytes] at hby;omega))
         have hge:=grownCap_ge w (es.length+xs.length) cap e
         have hcm:grownCap w (es.length+xs.length) cap e≤maxLen:=grownCap_le_maxLen w _ cap e (by simp only[maxLen];omega)
         have hel:=append_elems (P:=P) (w:=w) (I:=I) (n:=es.length) (c:=Ca.toList) rfl (fun i j y t' a b c=>by
          obtain ⟨v,hv,hp⟩:=hxA i j y t' a b c
          exact ⟨v,by simpa using hv,hp⟩) hrow.el hb1 (Builtin.zeroCells z.cells (grownCap w (es.length+xs.length) cap e-(es.length+xs.length))).toList
         obtain ⟨n1,n2,n3⟩:=newArr_sim k2.drew (nb:=nb) (cap:=grownCap w (es.length+xs.length) cap e) (es:=es++xs)
          (C0:=(Ca.toList.take (es.length*P.cellsOf e)).toArray++news.toArray++Builtin.zeroCells z.cells (grownCap w (es.length+xs.length) cap e-(es.length+xs.length))) hok hn1
          (by
           have e1:(Ca.toList.take (es.length*P.cellsOf e)).length=es.length*P.cellsOf e:=by simp;omega
           simp only[Array.size_append,List.size_toArray,size_zeroCells,h4,hrow.len,e1,←Nat.add_mul];congr 1;omega) (by simpa using hge) hcm
          (fun i j y t' a b c=>by
           obtain ⟨v,hv,hp⟩:=hel i j y t' a b c
           refine ⟨v,?_,Pure.drew hp⟩
           rw[←Array.getElem?_toList]
           simpa using hv)
         rw[hrow.val]
         rw[List.length_append] at n3
         exact ⟨_,_,_,_,hrun,(k1.trans (Le.drew w I β _)).trans n1,n2,n3⟩
 | _=>cases h
end
end Go.AM
namespace Go.AM
section
variable {P:Program} {w w':World} {I I':Nat→Prop} {β β':Nat→Option Nat} {hp hp':Nat→Option Blk} {C:CallF} {B:Nat} {M:Nat→Prop} {w0:Start}
theorem run_copy_none (w:World) {dT sT ty elem:TypeId} {i:TypeInfo} (a0:Option Addr) (dLen dCap:Nat) (a1:Option Addr) (sLen sCap:Nat) (hu:P.underlying dT=some (.slice elem)) (hi:P.info? elem=some i) (h0:Nat.min sLen dLen=0):
  (Builtin.copy_ #[dT,sT] ty #[.slice a0 dLen dCap,.slice a1 sLen sCap]).run P w= .ok (goInt 0) w:=by
 cases a0<;>cases a1<;>simp[Builtin.copy_,run_underlying hu,Builtin.lenOf,Builtin.firstCells,sizeOf,typeInfo,hi,h0,storeCells,loadCells,loadCellsFrom]
theorem copy_sim (S:Sim P w I β hp B M w0) {t u ty e:TypeId} {s x:Value} {sv xv:V} {r:R} {rd:List Nat} (hu:P.underlying t=some (.slice e)) (hs:VRel P w I β hp s sv) (hx:VRel P w I β hp x xv)
  (h:(copyRd P e sv xv).run C hp=some (r,rd)):ValOk P ((Builtin.copy_ #[t,u] ty #[s,x]).run P w) w I β hp B M w0 r:=by
 unfold copyRd at h
 obtain ⟨hok,h'⟩:=run_chk h
 clear h
 simp only[Bool.and_eq_true,Nat.beq_eq] at hok
 obtain ⟨hok,h1⟩:=hok
 obtain ⟨xs,hxr,l0,h⟩:=elems_sim S.h.rel hok hx h'
 obtain ⟨i,z,hi,hz,hsz,_⟩:=okTy_zero hok
 cases sv<;>simp only at h<;>first|(cases h;done)|skip
 rename_i e' id
 obtain ⟨l,h2⟩:=run_get h
 clear h
 cases hid:hp id with
 | none=>rw[hid] at h2;cases h2
 | some blk=>
  rw[hid] at h2
  cases blk<;>simp only at h2<;>first|(cases h2;done)|skip
  rename_i e2 es fz
  cases fz with
  | true=>cases h2
  | false=>
  obtain ⟨hc,h3⟩:=run_chk h2
  simp only[Bool.and_eq_true,Nat.beq_eq] at hc
  obtain ⟨rfl,rfl⟩:=hc
  obtain rfl:=run_ret' h3
  have none':min xs.length es.length=0→(Builtin.copy_ #[t,u] ty #[s,x]).run P w= .ok (goInt 0) w→ValOk P ((Builtin.copy_ #[t,u] ty #[s,x]).run P w) w I β hp B M w0 ⟨.int .i64 (min xs.length es.length:Nat),[(id,.arr e (xs.take es.length++es.drop xs.length) false)]⟩:=by
   intro h0 hr
   have he:xs.take es.length++es.drop xs.length=es:=by
    rcases Nat.le_total xs.length es.length with hl|hl
    ·have:xs=[]:=List.eq_nil_of_length_eq_zero (by omega)
     simp[this]
    ·have:es=[]:=List.eq_nil_of_length_eq_zero (by omega)
     simp[this]
   have hself:updH hp [(id,.arr e (xs.take es.length++es.drop xs.length) false)]=hp:=by
    rw[he];exact setN_self hp id _ hid
   refine ⟨goInt 0,w,I,β,hr,?_⟩
   simp only[hself,h0]
   exact ⟨Le.refl w I β hp,S,.int⟩
  cases hs with
  | wholeDead hd=>rw[hid] at hd;cases hd
  | wholeN hd=>rw[hid] at hd;cases hd
  | @wholeNil _ _ fz a hd hb=>
   rw[hid] at hd
   cases hd
   refine none' (by simp) ?_
   rcases hxr with ⟨⟨a',rfl⟩,rfl⟩|⟨a',c,news,hrow⟩
   ·exact run_copy_none w _ _ _ _ _ _ hu hi (by simp)
   ·rw[hrow.val];exact run_copy_none w _ _ _ _ _ _ hu hi (by simp)
  | @whole _ _ es' fz' b cap hd hb hsz2 hcap hm=>
   have hd':=hd
   rw[hid] at hd
   cases hd
   rcases hxr with ⟨⟨a',rfl⟩,rfl⟩|⟨a',c,news,hrow⟩
   ·exact none' (by simp) (run_copy_none w _ _ _ _ _ _ hu hi (by simp))
   have hr:=S.h.rel id _ hid
   cases hr with
   | arrNil hb'=>rw[hb'] at hb;cases hb
   | @arr _ _ _ b' Ca _ hb' hh hsA hf hnf hxA=>
    rw[hb] at hb'
    cases hb'
    have hnl:news.length=xs.length:=by rw[hrow.len,h1,Nat.mul_one]
    rw[h1,Nat.mul_one] at hsA
    have hcl:(news.take es.length).length=Nat.min xs.length es.length:=by
     rw[List.length_take,hnl,Nat.min_comm]
    have hmin:Nat.min xs.length es.length=min xs.length es.length:=rfl
    have hrun:=run_copy_row (P:=P) w t u ty e b 0 es.length cap a' xs.length c Ca e (news.take es.length) hu (by rw[hi];simp[hsz,h1]) hh hcl
     (fun j v hj=>hrow.cell j v (by
      have:=(List.getElem?_eq_some_iff.1 hj).1
      rw[List.length_take] at this
      rwa [List.getElem?_take_of_lt (by omega)] at hj)) (by rw[hcl,hmin];omega) (fun v hv=>hrow.one hok v (List.mem_of_mem_take hv))
    rw[hrow.val]
    have hq:(goInt (news.take es.length).length)= .int .i64 ((min xs.length es.length:Nat):Int):=by rw[hcl];rfl
    have hl':(xs.take es.length++es.drop xs.length).length=es.length:=by simp;omega
    have hCs:(Ca.toList.take 0++news.take es.length++Ca.toList.drop (0+(news.take es.length).length)).toArray.size=Ca.size:=by
     simp only[List.size_toArray,List.length_append,List.length_drop,List.length_take,hcl,hmin]
     simp
     omega
    obtain ⟨a1,a2⟩:=setRow_change S (blk':= .arr e (xs.take es.length++es.drop xs.length) false) (Cb:=(Ca.toList.take 0++news.take es.length++Ca.toList.drop (0+(news.take es.length).length)).toArray) hid (by simp) ⟨rfl,hl'.symm⟩ hb (hnf rfl) (by simp) hh hCs
     (fun hle hnew=> .arr hok rfl hnew (by rw[hCs,hl',h1,Nat.mul_one];exact hsA) (fun h=>by cases h) (fun _=>hnf rfl) fun i j y t' hy ht hj=>by
      rw[h1] at hj⊢
      obtain rfl:j=0:=by omega
      rw[Nat.mul_one,Nat.add_zero]
      have hil:=(List.getElem?_eq_some_iff.1 hy).1
      rw[hl'] at hil
      by_cases hix:i<xs.length
      ·rw[List.getElem?_append_left (by rw[List.length_take];omega),List.getElem?_take_of_lt hil] at hy
       obtain ⟨u',k1,k2⟩:=hrow.el i 0 y t' hy ht (by omega)
       rw[h1,Nat.mul_one,Nat.add_zero] at k1
       refine ⟨u',?_,k2.mono hle.imm hle.keep⟩
       simp only[List.take_zero,List.nil_append,List.getElem?_toArray]
       rw[List.getElem?_append_left (by rw[List.length_take];omega),List.getElem?_take_of_lt hil]
       exact k1
      ·have e1:(xs.take es.length).length=xs.length:=by rw[List.length_take];omega
       rw[List.getElem?_append_right (by omega),e1,List.getElem?_drop,show xs.length+(i-xs.length)=i by omega] at hy
       obtain ⟨u',k1,k2⟩:=hxA i 0 y t' hy ht (by omega)
       rw[h1,Nat.mul_one,Nat.add_zero] at k1
       refine ⟨u',?_,k2.mono hle.imm hle.keep⟩
       simp only[List.take_zero,List.nil_append,List.getElem?_toArray,Nat.zero_add]
       have e2:(news.take es.length).length=xs.length:=by rw[List.length_take];omega
       rw[List.getElem?_append_right (by omega),e2,List.getElem?_drop,show xs.length+(i-xs.length)=i by omega]
       simpa using k1)
    exact ⟨_,_,_,_,hrun,a1,a2,by rw[hq];exact .int⟩
theorem clear_sim (S:Sim P w I β hp B M w0) {t ty e:TypeId} {x:Value} {xv:V} {r:R} {rd:List Nat} (hu:P.underlying t=some (.slice e)) (hx:VRel P w I β hp x xv)
  (h:(clearRd P e xv).run C hp=some (r,rd)):ValOk P ((Builtin.clear_ #[t] ty #[x]).run P w) w I β hp B M w0 r:=by
 unfold clearRd at h
 obtain ⟨hel,h'⟩:=run_chk h
 clear h
 have hok:okTy P e=true:=by
  unfold okElem at hel;simp only[Bool.and_eq_true] at hel;exact hel.1
 obtain ⟨i,z,hi,hz,hsz,hzs,hzp⟩:=zero_pure (w:=w) (I:=I) hel
 have hpos:=(okTy_len hok).2
 cases xv<;>simp only at h'<;>first|(cases h';done)|skip
 rename_i e' id off len
 obtain ⟨l,h2⟩:=run_get h'
 clear h'
 cases hid:hp id with
 | none=>rw[hid] at h2;cases h2
 | some blk=>
  rw[hid] at h2
  cases blk<;>simp only at h2<;>first|(cases h2;done)|skip
  rename_i e2 es fz
  cases fz with
  | true=>cases h2
  | false=>
  obtain ⟨hc,h3⟩:=run_chk h2
  simp only[Bool.and_eq_true,Nat.beq_eq] at hc
  obtain ⟨rfl,rfl⟩:=hc
  obtain rfl:=run_ret' h3
  have none':len=0→(Builtin.clear_ #[t] ty #[x]).run P w= .ok (.tuple #[]) w→ValOk P ((Builtin.clear_ #[t] ty #[x]).run P w) w I β hp B M w0 ⟨.tup [],[(id,.arr e (es.take off++(List.replicate len (mkElem P e (zeroElem P e))++es.drop (off+len))) false)]⟩:=by
   intro h0 hr
   subst h0
   have hself:updH hp [(id,.arr e (es.take off++(List.replicate 0 (mkElem P e (zeroElem P e))++es.drop (off+0))) false)]=hp:=by
    simp only[List.replicate_zero,List.nil_append,Nat.add_zero,List.take_append_drop]
    exact setN_self hp id _ hid
   refine ⟨.tuple #[],w,I,β,hr,?_⟩
   simp only[hself]
   exact ⟨Le.refl w I β hp,S,.tup rfl fun j v x hj hx=>by simp at hx⟩
  cases hx with
  | subDead hd=>rw[hid] at hd;cases hd
  | @subNil _ _ _ a0 hd hb=>exact none' rfl (by cases a0<;>simp[Builtin.clear_,run_underlying hu])
  | @sub _ _ _ _ es' fz' b o cap hd hb hol hcap ho=>
   by_cases hlen:len=0
   ·refine none' hlen ?_
    subst hlen
    simp[Builtin.clear_,run_underlying hu]
   have hlen0:0<len:=by omega
   have hd':=hd
   rw[hid] at hd
   cases hd
   have hr:=S.h.rel id _ hid
   cases hr with
   | arrNil hb'=>rw[hb'] at hb;cases hb
   | @arr _ _ _ b' Ca _ hb' hh hsA hf hnf hxA=>
    rw[hb] at hb'
    cases hb'
    have ho:=ho hlen0
    subst ho
    have hzc:(Builtin.zeroCells z.cells len).toList.length=len*P.cellsOf e:=by rw[Array.length_toList,size_zeroCells,hzs]
    have hmul:off*P.cellsOf e+len*P.cellsOf e≤es.length*P.cellsOf e:=by rw[←Nat.add_mul];exact Nat.mul_le_mul_right _ hol
    have hone: ∀v∈(Builtin.zeroCells z.cells len).toList,v.oneCell'=true:=by
     intro v hv
     obtain ⟨k,hk⟩:=List.getElem?_of_mem hv
     have hkl:=(List.getElem?_eq_some_iff.1 hk).1
     rw[hzc] at hkl
     have hzg:(Builtin.zeroCells z.cells len)[k]? =z.cells[k %z.cells.size]? :=zeros_get (z:=z.cells) (n:=len*z.cells.size) (by rw[hzs];exact hkl) (by rw[hzs];exact hpos)
     rw[Array.getElem?_toList,hzg] at hk
     have hm:k %z.cells.size<P.cellsOf e:=by rw[hzs];exact Nat.mod_lt _ hpos
     have htl:k %z.cells.size<(etys P e).length:=by rw[okTy_etys hok];exact hm
     obtain ⟨v',hv',hp'⟩:=hzp (k %z.cells.size) _ (List.getElem?_eq_getElem htl) hm
     rw[hk] at hv'
     cases hv'
     generalize epart P e (mkElem P e (zeroElem P e)) (k %z.cells.size)=y at hp'
     cases hp'<;>rfl
    have hst:=run_storeCells_at P b (off*P.cellsOf e) e (Builtin.zeroCells z.cells len).toList 0 Ca w hh (by rw[hzc];omega) hone
    simp only[Nat.add_zero] at hst
    have hrun:(Builtin.clear_ #[t] ty #[.slice (some ⟨b,off*P.cellsOf e,none⟩) len cap]).run P w= .ok (.tuple #[]) (w.setRow b (Ca.toList.take (off*P.cellsOf e)++(Builtin.zeroCells z.cells len).toList++Ca.toList.drop (off*P.cellsOf e+(Builtin.zeroCells z.cells len).toList.length)).toArray):=by
     obtain ⟨n,rfl⟩: ∃n,len=n+1:=⟨len-1,by omega⟩
     simp[Builtin.clear_,run_underlying hu,zeroValue,typeInfo,hi,hz,hst]
    have hl':(es.take off++(List.replicate len (mkElem P e (zeroElem P e))++es.drop (off+len))).length=es.length:=by simp;omega
    have hCs:(Ca.toList.take (off*P.cellsOf e)++(Builtin.zeroCells z.cells len).toList++Ca.toList.drop (off*P.cellsOf e+(Builtin.zeroCells z.cells len).toList.length)).toArray.size=Ca.size:=by
     simp only[List.size_toArray,List.length_append,List.length_drop,List.length_take,hzc,Array.length_toList]
     omega
    obtain ⟨a1,a2⟩:=setRow_change S (blk':= .arr e (es.take off++(List.replicate len (mkElem P e (zeroElem P e))++es.drop (off+len))) false) hid (by simp) ⟨rfl,hl'.symm⟩ hb (hnf rfl) (by simp) hh hCs
     (fun hle hnew=> .arr hok rfl hnew (by rw[hCs,hl'];exact hsA) (fun h=>by cases h) (fun _=>hnf rfl) fun i' j y t' hy ht hj=>by
      have hsp:=splice_get es (List.replicate len (mkElem P e (zeroElem P e))) off i' (by simp;omega)
      rw[List.length_replicate] at hsp
      rw[hsp] at hy
      have hC:(Ca.toList.take (off*P.cellsOf e)++(Builtin.zeroCells z.cells len).toList++Ca.toList.drop (off*P.cellsOf e+(Builtin.zeroCells z.cells len).toList.length)).toArray[i'*P.cellsOf e+j]? =
        if i'*P.cellsOf e+j<off*P.cellsOf e then Ca.toList[i'*P.cellsOf e+j]? else if i'*P.cellsOf e+j<off*P.cellsOf e+len*P.cellsOf e then (Builtin.zeroCells z.cells len).toList[i'*P.cellsOf e+j-off*P.cellsOf e]? else Ca.toList[i'*P.cellsOf e+j]? :=by
       have:=splice_get Ca.toList (Builtin.zeroCells z.cells len).toList (off*P.cellsOf e) (i'*P.cellsOf e+j) (by rw[hzc,Array.length_toList];omega)
       rw[List.getElem?_toArray,List.append_assoc,this,hzc]
      by_cases hi1:i'<off
      ·rw[if_pos hi1] at hy
       have:(i'+1)*P.cellsOf e≤off*P.cellsOf e:=Nat.mul_le_mul_right _ hi1
       rw[Nat.add_mul] at this
       rw[if_pos (by omega)] at hC
       obtain ⟨u,k1,k2⟩:=hxA i' j y t' hy ht hj
       exact ⟨u,hC.trans (by simpa using k1),k2.mono hle.imm hle.keep⟩
      ·rw[if_neg hi1] at hy
       have h1:off*P.cellsOf e≤i'*P.cellsOf e:=Nat.mul_le_mul_right _ (by omega)
       rw[if_neg (by omega)] at hC
       by_cases hi2:i'<off+len
       ·rw[if_pos hi2] at hy
        have:(i'+1)*P.cellsOf e≤(off+len)*P.cellsOf e:=Nat.mul_le_mul_right _ hi2
        rw[Nat.add_mul,Nat.add_mul] at this
        rw[if_pos (by omega)] at hC
        obtain ⟨v,k1,k2⟩:=zeros_rel (w:=w) (I:=I) hel hi hz len len (Nat.le_refl _) (i'-off) j y t' hy ht hj
        refine ⟨v,hC.trans ?_,k2.mono hle.imm hle.keep⟩
        rw[show i'*P.cellsOf e+j-off*P.cellsOf e=(i'-off)*P.cellsOf e+j by rw[Nat.sub_mul];omega,Array.getElem?_toList]
        unfold Builtin.zeroCells
        rw[hzs] at k1⊢
        exact k1
       ·rw[if_neg hi2] at hy
        have:(off+len)*P.cellsOf e≤i'*P.cellsOf e:=Nat.mul_le_mul_right _ (by omega)
        rw[Nat.add_mul] at this
        rw[if_neg (by omega)] at hC
        obtain ⟨u,k1,k2⟩:=hxA i' j y t' hy ht hj
        exact ⟨u,hC.trans (by simpa using k1),k2.mono hle.imm hle.keep⟩)
    exact ⟨_,_,_,_,hrun,a1,a2,.tup rfl fun j v x hj hx=>by simp at hx⟩
end
end Go.AM
namespace Go.AM
section
variable {P:Program} {w w':World} {I I':Nat→Prop} {β β':Nat→Option Nat} {hp hp':Nat→Option Blk} {C:CallF} {B:Nat} {M:Nat→Prop} {w0:Start}
theorem field_sim (S:Sim P w I β hp B M w0) {s:TypeId} {f:Nat} {v:Value} {x:V} {r:R} {rd:List Nat} (hv:VRel P w I β hp v x)
  (h:(fieldRd P s f x).run C hp=some (r,rd)):ValOk P ((Instr.field s v f).run P w) w I β hp B M w0 r:=by
 unfold fieldRd fieldOf at h
 split at h
 ·rename_i fs hu
  cases hf:fs[f]? with
  | none=>rw[hf] at h;cases h
  | some fd=>
   rw[hf] at h
   simp only[optRd] at h
   obtain ⟨ht,h⟩:=run_chk h
   obtain ⟨d,hud⟩:=optTy ht
   obtain ⟨i,hi⟩:=info_of_und hud
   have hsz:i.size=P.cellsOf fd.type:=by simp[Program.cellsOf,hi]
   cases x with
   | agg xs=>
    obtain ⟨cs,rfl,h1,h2⟩:=hv.agg_inv
    dsimp only at h
    cases ha:isAggT P fd.type with
    | true=>
     rw[ha] at h
     simp only[cond_true] at h
     obtain ⟨hc,h⟩:=run_chk h
     obtain rfl:=run_ret' h
     rw[Nat.ble_eq] at hc
     refine .same S (v:= .agg (cs.extract fd.offset (fd.offset+P.cellsOf fd.type))) ?_ (.agg (by simp;omega) fun j u y hu' hy=> ?_)
     ·simp[Instr.field,run_underlying hu,hf,part,isAgg_run hud,ha,asAgg,sizeOf,typeInfo,hi,hsz]
     ·have hj:j<P.cellsOf fd.type:=by
       have:=(Array.getElem?_eq_some_iff.1 hu').1
       simp at this;omega
      rw[List.getElem?_take_of_lt hj,List.getElem?_drop] at hy
      refine h2 (fd.offset+j) u y ?_ hy
      rw[Array.getElem?_extract] at hu'
      split at hu'
      ·exact hu'
      ·cases hu'
    | false=>
     rw[ha] at h
     simp only[cond_false] at h
     obtain ⟨y,hy,h⟩:=run_opt h
     obtain rfl:=run_ret' h
     have hlt:fd.offset<cs.size:=by rw[h1];exact (List.getElem?_eq_some_iff.1 hy).1
     refine .same S (v:=cs[fd.offset]) ?_ (h2 _ _ _ (Array.getElem?_eq_getElem hlt) hy)
     simp[Instr.field,run_underlying hu,hf,part,isAgg_run hud,ha,asAgg,hlt]
   | _=>cases h
 ·cases h
theorem extract_sim (S:Sim P w I β hp B M w0) {i:Nat} {v:Value} {xs:List V} {r:R} {rd:List Nat} (hv:VRel P w I β hp v (.tup xs))
  (h:(Rd.opt xs[i]? fun v=> .ret ⟨v,[]⟩).run C hp=some (r,rd)):ValOk P ((Instr.extract v i).run P w) w I β hp B M w0 r:=by
 obtain ⟨cs,rfl,h1,h2⟩:=hv.tup_inv
 obtain ⟨y,hy,h⟩:=run_opt h
 obtain rfl:=run_ret' h
 have hlt:i<cs.size:=by rw[h1];exact (List.getElem?_eq_some_iff.1 hy).1
 exact .same S (v:=cs[i]) (by simp[Instr.extract,hlt]) (h2 _ _ _ (Array.getElem?_eq_getElem hlt) hy)
theorem index_sim (S:Sim P w I β hp B M w0) {t:TypeId} {s:ByteArray} {l:List UInt8} {k:IntKind} {i:Int} {r:R} {rd:List Nat} (hu:P.underlying t=some .string) (hs:s.data.toList=l)
  (h:(Rd.opt (bif decide (0≤i) then (l[i.toNat]?).map fun b=>V.int .u8 b.toNat else none) fun v=> .ret ⟨.int .u8 v.toInt,[]⟩).run C hp=some (r,rd)):
  ValOk P ((Instr.index t (.string s) (.int k i)).run P w) w I β hp B M w0 r:=by
 obtain ⟨v,hv,h⟩:=run_opt h
 obtain rfl:=run_ret' h
 cases hc:decide (0≤i) with
 | false=>rw[hc] at hv;cases hv
 | true=>
  rw[hc] at hv
  simp only[cond_true] at hv
  have h0:0≤i:=by simpa using hc
  cases hb:l[i.toNat]? with
  | none=>rw[hb] at hv;cases hv
  | some b=>
   rw[hb] at hv
   simp only[Option.map_some,Option.some.injEq] at hv
   subst hv
   have hsb:s[i.toNat]? =some b:=by
    subst hs
    obtain ⟨hlt,he⟩:=List.getElem?_eq_some_iff.1 hb
    have hlt':i.toNat<s.size:=by simpa using hlt
    rw[getElem?_pos s i.toNat hlt']
    congr 1
   refine .same S (v:= .int .u8 b.toNat) ?_ .int
   simp[Instr.index,asIntOf,run_underlying hu,h0,hsb]
theorem minMax_sim (S:Sim P w I β hp B M w0) (mx:Bool): ∀{vs:List Value} {xs:List V} {v:Value} {x:V} {r:R} {rd:List Nat},VRel P w I β hp v x→vs.length=xs.length→
  (∀(j:Nat) u y,vs[j]? =some u→xs[j]? =some y→VRel P w I β hp u y)→(minMax mx x xs).run C hp=some (r,rd)→
  ValOk P ((vs.foldlM (if mx then Builtin.max2 else Builtin.min2) v).run P w) w I β hp B M w0 r
 | [],[],v,x,r,rd,hv,_,_,h=>by
  have:r=⟨x,[]⟩:=by
   cases x<;>(simp only[minMax] at h;exact (run_ret' h).symm)
  subst this
  exact .same S (by simp) hv
 | [],_::_,v,x,r,rd,hv,hl,_,h=>by simp at hl
 | _::_,[],v,x,r,rd,hv,hl,_,h=>by simp at hl
 | u::vs,y::xs,v,x,r,rd,hv,hl,hx,h=>by
  cases x<;>cases y<;>simp only[minMax] at h<;>first|(cases h;done)|skip
  rename_i k a k' b
  obtain ⟨hc,h4⟩:=run_chk h
  clear h
  obtain rfl:k=k':=by simpa using hc
  have hu:=hx 0 u _ rfl rfl
  rw[hv.int_inv,hu.int_inv]
  have ih:=minMax_sim S mx (vs:=vs) (xs:=xs) (v:= .int k (bif mx then (if b>a then b else a) else (if b<a then b else a))) .int (by simpa using hl)
   (fun j u y h1 h2=>hx (j+1) u y (by simpa using h1) (by simpa using h2)) h4
  cases mx with
  | true=>simpa[List.foldlM_cons,Builtin.max2] using ih
  | false=>simpa[List.foldlM_cons,Builtin.min2] using ih
theorem bounds_sim {n cap:Nat} {isS:Bool} {lo hi:Option V} {lov hiv:Option Value} {k:Nat→Nat→Rd R} {r:R} {rd:List Nat} (hn:n≤cap)
  (hlo: ∀x,lo=some x→∃v,lov=some v∧VRel P w I β hp v x) (hhi: ∀x,hi=some x→∃v,hiv=some v∧VRel P w I β hp v x) (hlo0:lo=none→lov=none) (hhi0:hi=none→hiv=none)
  (h:(boundsRd n lo hi k).run C hp=some (r,rd)): ∃l u,l≤u∧u≤n∧(Instr.sliceBounds isS n cap lov hiv none).run P w= .ok (l,u,cap) w∧(k l u).run C hp=some (r,rd):=by
 have ok: ∀(kk:IntKind) (i:Int) (y:Nat) (c:BoundsCode),0≤i→i≤y→(Instr.sliceBound (.int kk i) y c).run P w= .ok i.toNat w:=by
  intro kk i y c h1 h2
  simp[Instr.sliceBound,asIntOf,h1,h2]
 unfold boundsRd at h
 cases lo with
 | none=>
  rw[hlo0 rfl]
  cases hi with
  | none=>
   rw[hhi0 rfl]
   exact ⟨0,n,Nat.zero_le _,Nat.le_refl _,by simp[Instr.sliceBounds],h⟩
  | some x=>
   obtain ⟨v,rfl,hv⟩:=hhi x rfl
   cases x<;>simp only at h<;>first|(cases h;done)|skip
   rename_i kk u
   obtain ⟨hc,h⟩:=run_chk h
   simp only[Bool.and_eq_true,decide_eq_true_eq] at hc
   rw[hv.int_inv]
   have:=ok kk u cap (if isS then .sliceAcap else .sliceAlen) hc.1 (by omega)
   exact ⟨0,u.toNat,Nat.zero_le _,by omega,by simp[Instr.sliceBounds,this],h⟩
 | some x=>
  obtain ⟨v,rfl,hv⟩:=hlo x rfl
  cases hi with
  | none=>
   rw[hhi0 rfl]
   cases x<;>simp only at h<;>first|(cases h;done)|skip
   rename_i kk l
   obtain ⟨hc,h⟩:=run_chk h
   simp only[Bool.and_eq_true,decide_eq_true_eq] at hc
   rw[hv.int_inv]
   have:=ok kk l n .sliceB hc.1 (by omega)
   exact ⟨l.toNat,n,by omega,Nat.le_refl _,by simp[Instr.sliceBounds,this],h⟩
  | some y=>
   obtain ⟨v2,rfl,hv2⟩:=hhi y rfl
   cases x<;>cases y<;>simp only at h<;>first|(cases h;done)|skip
   rename_i kk l kk2 u
   obtain ⟨hc,h⟩:=run_chk h
   simp only[Bool.and_eq_true,decide_eq_true_eq] at hc
   rw[hv.int_inv,hv2.int_inv]
   have h1:=ok kk2 u cap (if isS then .sliceAcap else .sliceAlen) (by omega) (by omega)
   have h2:=ok kk l u.toNat .sliceB hc.1 (by omega)
   exact ⟨l.toNat,u.toNat,by omega,by omega,by simp[Instr.sliceBounds,h1,h2],h⟩
theorem slice_nil_run {a:Option Addr} {t e:TypeId} {i:TypeInfo} (hu:P.underlying t=some (.slice e)) (hi:P.info? e=some i) {lov hiv:Option Value}
  (hb:(Instr.sliceBounds true 0 0 lov hiv none).run P w= .ok (0,0,0) w):(Instr.sliceAt t (.slice a 0 0) lov hiv none).run P w= .ok (.slice a 0 0) w:=by
 cases a<;>simp[Instr.sliceAt,Instr.slice,run_underlying hu,hb,sizeOf,typeInfo,hi]
theorem slice_run {t e:TypeId} {i:TypeInfo} {b o len cap l u:Nat} (hu:P.underlying t=some (.slice e)) (hi:P.info? e=some i) {lov hiv:Option Value} (huc:u≤cap)
  (hb:(Instr.sliceBounds true len cap lov hiv none).run P w= .ok (l,u,cap) w): ∃o',(0<u-l→o'=o+l*i.size)∧(Instr.sliceAt t (.slice (some ⟨b,o,none⟩) len cap) lov hiv none).run P w= .ok (.slice (some ⟨b,o',none⟩) (u-l) (cap-l)) w:=by
 by_cases hc:cap=l
 ·subst hc
  refine ⟨o,fun h=>by omega,?_⟩
  ·simp[Instr.sliceAt,Instr.slice,run_underlying hu,hb,sizeOf,typeInfo,hi]
 ·refine ⟨o+l*i.size,fun _=>rfl,?_⟩
  simp[Instr.sliceAt,Instr.slice,run_underlying hu,hb,sizeOf,typeInfo,hi,hc,add_none]
theorem bytes_sub (s:ByteArray) (l:List UInt8) (h:s.data.toList=l) (a b:Nat):(s.extract a b).data.toList=(l.drop a).take (b-a):=by
 subst h
 simp[ByteArray.data_extract]
theorem slice_sim (S:Sim P w I β hp B M w0) {t:TypeId} {v:Value} {x:V} {lo hi:Option V} {lov hiv:Option Value} {r:R} {rd:List Nat} (hv:VRel P w I β hp v x)
  (hlo: ∀x,lo=some x→∃v,lov=some v∧VRel P w I β hp v x) (hhi: ∀x,hi=some x→∃v,hiv=some v∧VRel P w I β hp v x) (hlo0:lo=none→lov=none) (hhi0:hi=none→hiv=none)
  (h:(sliceRd P t x lo hi).run C hp=some (r,rd)):ValOk P ((Instr.sliceAt t v lov hiv none).run P w) w I β hp B M w0 r:=by
 unfold sliceRd at h
 cases hu:P.underlying t with
 | none=>rw[hu] at h;cases h
 | some d=>
  rw[hu] at h
  cases d<;>simp only at h<;>first|(cases h;done)|skip
  case string=>
   cases x<;>simp only at h<;>first|(cases h;done)|skip
   rename_i l
   obtain ⟨s,rfl,hs⟩:=hv.str_inv
   have hsz:l.length=s.size:=by rw[←hs];simp
   obtain ⟨a,u,h1,h2,h3,h4⟩:=bounds_sim (isS:=false) (cap:=s.size) (by omega) hlo hhi hlo0 hhi0 h
   obtain rfl:=run_ret' h4
   rw[hsz] at h3
   refine .same S (v:= .string (s.extract a u)) ?_ (.str (bytes_sub s l hs a u))
   simp[Instr.sliceAt,Instr.slice,run_underlying hu,h3]
  case slice e=>
   cases x<;>simp only at h<;>first|(cases h;done)|skip
   case list e' es=>
    obtain ⟨hc,h⟩:=run_chk h
    simp only[Bool.and_eq_true,Nat.beq_eq] at hc
    obtain ⟨hc1,hok⟩:=hc
    obtain ⟨i,z,hi',_,hsz,_⟩:=okTy_zero hok
    cases hv with
    | list hp'=>
     cases hp' with
     | nil=>
      obtain ⟨a,u,h1,h2,h3,h4⟩:=bounds_sim (n:=0) (isS:=true) (cap:=0) (Nat.le_refl _) hlo hhi hlo0 hhi0 h
      obtain rfl:=run_ret' h4
      obtain rfl:u=0:=by omega
      obtain rfl:a=0:=by omega
      exact .same S (slice_nil_run hu hi' h3) (by simpa using VRel.list PList.nil)
     | @emp ad cap=>
      obtain ⟨a,u,h1,h2,h3,h4⟩:=bounds_sim (n:=0) (isS:=true) (cap:=cap) (Nat.zero_le _) hlo hhi hlo0 hhi0 h
      obtain rfl:=run_ret' h4
      obtain rfl:u=0:=by omega
      obtain rfl:a=0:=by omega
      refine .same S (v:= .slice (some ad) 0 cap) ?_ (by simpa using VRel.list PList.emp)
      by_cases hc:cap=0
      ·subst hc
       simp[Instr.sliceAt,Instr.slice,run_underlying hu,h3,sizeOf,typeInfo,hi']
      ·simp[Instr.sliceAt,Instr.slice,run_underlying hu,h3,sizeOf,typeInfo,hi',hc,Addr.add]
     | @list b o len cap _ g hl hcap hI hcell hx=>
      obtain ⟨a,u,h1,h2,h3,h4⟩:=bounds_sim (isS:=true) (cap:=cap) (by omega) hlo hhi hlo0 hhi0 h
      obtain rfl:=run_ret' h4
      rw[hl] at h2 h3
      obtain ⟨o',ho',hrun⟩:=slice_run (b:=b) (o:=o) hu hi' (by omega) h3
      have hee:e=e':=hc1
      refine .same S hrun (.list ?_)
      rw[←hee]
      rw[←hee] at hcell hx hI
      have hlen:((es.drop a).take (u-a)).length=u-a:=by simp;omega
      refine .list (fun i j=>g (a+i) j) hlen (by omega) (fun h=>hI (Nat.lt_of_lt_of_le h (Nat.mul_le_mul_right _ (by omega)))) (fun i j hi hj=> ?_) (fun i j y t' hy ht=> ?_)
      ·have:=hcell (a+i) j (by omega) hj
       rw[Nat.add_mul,Nat.add_assoc,←Nat.add_assoc o] at this
       rw[ho' (by omega),hsz]
       exact this
      ·have hi:i<u-a:=by rw[←hlen];exact (List.getElem?_eq_some_iff.1 hy).1
       rw[List.getElem?_take_of_lt hi,List.getElem?_drop] at hy
       exact hx (a+i) j y t' hy ht
   case whole e' id=>
    obtain ⟨l,h⟩:=run_get h
    cases hid:hp id with
    | none=>rw[hid] at h;cases h
    | some blk=>
     rw[hid] at h
     cases blk<;>simp only at h<;>first|(cases h;done)|skip
     rename_i e'' es fz
     obtain ⟨hc,h9⟩:=run_chk h
     clear h
     simp only[Bool.and_eq_true,Nat.beq_eq] at hc
     obtain ⟨hc1,hc2,hok⟩:=hc
     obtain ⟨i,z,hi',_,hsz,_⟩:=okTy_zero hok
     cases hv with
     | wholeDead hd=>rw[hid] at hd;cases hd
     | wholeN hd=>rw[hid] at hd;cases hd
     | wholeNil hd hb=>
      rw[hid] at hd
      cases hd
      obtain ⟨a,u,h1,h2,h3,h4⟩:=bounds_sim (n:=0) (isS:=true) (cap:=0) (Nat.le_refl _) hlo hhi hlo0 hhi0 h9
      obtain rfl:=run_ret' h4
      obtain rfl:u=0:=by omega
      obtain rfl:a=0:=by omega
      exact .same S (slice_nil_run hu hi' h3) (.subNil hid hb)
     | @whole _ _ es' fz' b cap hd hb hsz2 hcap hm=>
      have hd':=hd
      rw[hid] at hd
      cases hd
      obtain ⟨a,u,h1,h2,h3,h4⟩:=bounds_sim (isS:=true) (cap:=cap) hcap hlo hhi hlo0 hhi0 h9
      obtain rfl:=run_ret' h4
      obtain ⟨o',ho',hrun⟩:=slice_run (b:=b) (o:=0) hu hi' (by omega) h3
      have hee:e=e':=hc1
      exact .same S hrun (.sub hd' hb (by omega) (by omega) (fun h=>by rw[ho' h,hsz,hee,Nat.zero_add]))
   case sub e' id off len=>
    obtain ⟨l,h⟩:=run_get h
    cases hid:hp id with
    | none=>rw[hid] at h;cases h
    | some blk=>
     rw[hid] at h
     cases blk<;>simp only at h<;>first|(cases h;done)|skip
     rename_i e'' es fz
     obtain ⟨hc,h⟩:=run_chk h
     simp only[Bool.and_eq_true,Nat.beq_eq] at hc
     obtain ⟨hc1,hc2,hok⟩:=hc
     obtain ⟨i,z,hi',_,hsz,_⟩:=okTy_zero hok
     cases hv with
     | subDead hd=>rw[hid] at hd;cases hd
     | subNil hd hb=>
      have hd':=hd
      obtain ⟨a,u,h1,h2,h3,h4⟩:=bounds_sim (isS:=true) (cap:=0) (Nat.le_refl _) hlo hhi hlo0 hhi0 h
      obtain rfl:=run_ret' h4
      obtain rfl:u=0:=by omega
      obtain rfl:a=0:=by omega
      exact .same S (slice_nil_run hu hi' h3) (.subNil hd' hb)
     | @sub _ _ _ _ es' fz' b o cap hd hb hol hcap ho=>
      have hd':=hd
      obtain ⟨a,u,h1,h2,h3,h4⟩:=bounds_sim (isS:=true) (cap:=cap) hcap hlo hhi hlo0 hhi0 h
      obtain rfl:=run_ret' h4
      obtain ⟨o',ho',hrun⟩:=slice_run (b:=b) (o:=o) hu hi' (by omega) h3
      have hee:e=e':=hc1
      exact .same S hrun (.sub hd' hb (by omega) (by omega) (fun h=>by rw[ho' h,hsz,ho (by omega),hee,Nat.add_mul]))
theorem slice3_sim (S:Sim P w I β hp B M w0) {t:TypeId} {v:Value} {x:V} {lo hi mx:Option V} {lov hiv mxv:Option Value} {r:R} {rd:List Nat} (hv:VRel P w I β hp v x)
  (hlo:lo=none→lov=none) (hhi: ∀y,hi=some y→∃u,hiv=some u∧VRel P w I β hp u y) (hmx: ∀y,mx=some y→∃u,mxv=some u∧VRel P w I β hp u y)
  (h:(slice3Rd P t x lo hi mx).run C hp=some (r,rd)):ValOk P ((Instr.sliceAt t v lov hiv mxv).run P w) w I β hp B M w0 r:=by
 unfold slice3Rd at h
 cases hu:P.underlying t with
 | none=>rw[hu] at h;cases h
 | some d=>
  rw[hu] at h
  cases d<;>(try (cases h;done))
  rename_i e
  cases lo<;>(try (cases h;done))
  cases hi<;>(try (cases h;done))
  rename_i hv1
  cases hv1<;>(try (cases h;done))
  cases mx<;>(try (cases h;done))
  rename_i mv1
  cases mv1<;>(try (cases h;done))
  obtain ⟨hc,h9⟩:=run_chk h
  clear h
  have h:=h9
  clear h9
  simp only[Bool.and_eq_true,decide_eq_true_eq] at hc
  obtain ⟨rfl,rfl,hok⟩:=hc
  obtain ⟨i,z,hi',_,_,_⟩:=okTy_zero hok
  obtain ⟨u1,rfl,k1⟩:=hhi _ rfl
  obtain ⟨u2,rfl,k2⟩:=hmx _ rfl
  rw[k1.int_inv,k2.int_inv,hlo rfl]
  have run: ∀{k k2:IntKind} (a:Option Addr) (len cap:Nat),(Instr.sliceAt t (.slice a len cap) none (some (.int k 0)) (some (.int k2 0))).run P w= .ok (.slice a 0 0) w:=by
   intro k k2 a len cap
   cases a<;>simp[Instr.sliceAt,Instr.slice,Instr.sliceBounds,Instr.sliceBound,asIntOf,run_underlying hu,sizeOf,typeInfo,hi']
  cases x<;>(try (cases h;done))
  ·simp only at h
   obtain rfl:=run_ret' h
   cases hv with
   | list hp'=>cases hp'<;>exact .same S (run _ _ _) .nilS
  ·simp only at h
   obtain rfl:=run_ret' h
   cases hv
   exact .same S (run _ _ _) .nilS
  ·rename_i e' id
   simp only at h
   obtain ⟨l,h⟩:=run_get h
   cases hid:hp id with
   | none=>rw[hid] at h;cases h
   | some blk=>
    rw[hid] at h
    cases blk<;>simp only at h<;>first|(cases h;done)|skip
    all_goals
     obtain rfl:=run_ret' h
     cases hv with
     | wholeDead hd=>rw[hid] at hd;cases hd
     | wholeN hd=>exact .same S (run _ _ _) .nilS
     | wholeNil hd hb=>exact .same S (run _ _ _) .nilS
     | whole hd=>exact .same S (run _ _ _) .nilS
theorem indexAddr_sim (S:Sim P w I β hp B M w0) {t:TypeId} {v ix:Value} {x y:V} {r:R} {rd:List Nat} (hv:VRel P w I β hp v x) (hy:VRel P w I β hp ix y)
  (h:(indexAddrRd P t x y).run C hp=some (r,rd)):ValOk P ((Instr.indexAt t v ix).run P w) w I β hp B M w0 r:=by
 unfold indexAddrRd at h
 cases hu:P.underlying t with
 | none=>rw[hu] at h;cases h
 | some d=>
  rw[hu] at h
  cases y<;>(try (cases d<;>cases h;done))
  rename_i k i
  rw[hy.int_inv]
  cases d<;>simp only at h<;>first|(cases h;done)|skip
  case slice e=>
   have run: ∀(b o len cap:Nat) (ie:TypeInfo),P.info? e=some ie→0≤i→i<(len:Int)→(Instr.indexAt t (.slice (some ⟨b,o,none⟩) len cap) (.int k i)).run P w= .ok (.pointer (some ⟨b,o+i.toNat*ie.size,none⟩)) w:=by
    intro b o len cap ie hie h0 h1
    simp[Instr.indexAt,asIntOf,run_underlying hu,h0,h1,sizeOf,typeInfo,hie,add_none]
   cases x<;>simp only at h<;>first|(cases h;done)|skip
   case list e' es=>
    obtain ⟨hc,h⟩:=run_chk h
    simp only[Bool.and_eq_true,Nat.beq_eq] at hc
    obtain ⟨hc1,hok⟩:=hc
    have hee:e=e':=hc1
    obtain ⟨ie,z,hi',_,hsz,_⟩:=okTy_zero hok
    obtain ⟨el,hel,h⟩:=run_opt h
    obtain rfl:=run_ret' h
    unfold idx at hel
    cases h0:decide (0≤i) with
    | false=>rw[h0] at hel;cases hel
    | true=>
     rw[h0] at hel
     simp only[cond_true] at hel
     have h0':0≤i:=by simpa using h0
     have hlt:i.toNat<es.length:=(List.getElem?_eq_some_iff.1 hel).1
     cases hv with
     | list hp'=>
      cases hp' with
      | nil=>simp at hlt
      | emp=>simp at hlt
      | @list b o len cap _ g hl hcap hI hcell hx=>
       rw[←hee] at hcell hx hI
       refine .same S (run b o len cap ie hi' h0' (by omega)) ?_
       have hpl:=parts_length (P:=P) e el
       have hok2:=okTy_etys hok
       have hety:(bif isAggT P e then flat P e else [e])=etys P e:=rfl
       rw[hety]
       refine .pref (by rw[hpl]) (fun _=>hI ?_) (fun j t' y' ht hy'=> ?_)
       ·have:=Nat.mul_pos (show 0<len by omega) (okTy_len hok).2
        exact this
       ·obtain ⟨t2,a1,a2⟩:=parts_get hy'
        rw[ht] at a1;cases a1
        have hj:j<P.cellsOf e:=by rw[←hok2];exact (List.getElem?_eq_some_iff.1 ht).1
        have hp2:=hx i.toNat j el t' hel ht
        refine ⟨g i.toNat j,?_,?_⟩
        ·rw[hsz,Nat.add_assoc];exact hcell i.toNat j (by omega) hj
        ·rw[a2,hp2.retype1_eq];exact hp2
   case whole e' id=>
    obtain ⟨l,h⟩:=run_get h
    cases hid:hp id with
    | none=>rw[hid] at h;cases h
    | some blk=>
     rw[hid] at h
     cases blk<;>simp only at h<;>first|(cases h;done)|skip
     rename_i e'' es fz
     obtain ⟨hc,h⟩:=run_chk h
     simp only[Bool.and_eq_true,Nat.beq_eq] at hc
     obtain ⟨hc1,hc2⟩:=hc
     obtain ⟨hb0,h⟩:=run_chk h
     simp only[Bool.and_eq_true,decide_eq_true_eq] at hb0
     obtain rfl:=run_ret' h
     cases hv with
     | wholeDead hd=>rw[hid] at hd;cases hd
     | wholeN hd=>rw[hid] at hd;cases hd
     | wholeNil hd hb=>rw[hid] at hd;cases hd;simp at hb0;omega
     | @whole _ _ es' fz' b cap hd hb hsz2 hcap hm=>
      have hd':=hd
      rw[hid] at hd
      cases hd
      have hr:=S.h.rel id _ hid
      cases hr with
      | arrNil hb'=>rw[hb'] at hb;cases hb
      | arr hok hb' hh hs hf hnf hx=>
       have hee:e=e':=hc1
       obtain ⟨ie,z,hi',_,hsz,_⟩:=okTy_zero hok
       rw[←hee] at hi' hsz
       refine .same S (run b 0 _ cap ie hi' hb0.1 hb0.2) ?_
       have:=VRel.ptr (P:=P) (w:=w) (I:=I) (i:=i.toNat) (c:=0) hd' (by simp) hb
       simp only[Blk.sz] at this
       rw[Nat.zero_add,hsz,hee]
       simpa using this
     rename_i e'' es vers
     obtain ⟨hc,h⟩:=run_chk h
     simp only[Bool.and_eq_true,Nat.beq_eq] at hc
     obtain ⟨hc1,hc2⟩:=hc
     obtain ⟨hb0,h⟩:=run_chk h
     simp only[Bool.and_eq_true,decide_eq_true_eq] at hb0
     obtain rfl:=run_ret' h
     cases hv with
     | wholeDead hd=>rw[hid] at hd;cases hd
     | wholeNil hd hb=>rw[hid] at hd;cases hd
     | whole hd=>rw[hid] at hd;cases hd
     | @wholeN _ _ es' vers' b cap hd hb hsz2 hcap hm=>
      have hd':=hd
      rw[hid] at hd
      cases hd
      have hok:=(S.rows hd' hb .here).ok
      have hee:e=e':=hc1
      obtain ⟨ie,z,hi',_,hsz,_⟩:=okTy_zero hok
      rw[←hee] at hi' hsz
      refine .same S (run b 0 _ cap ie hi' hb0.1 hb0.2) ?_
      have:=VRel.ptr (P:=P) (w:=w) (I:=I) (i:=i.toNat) (c:=0) hd' (by simp) hb
      simp only[Blk.sz] at this
      rw[Nat.zero_add,hsz,hee]
      simpa using this
   case row e' id ver path=>
    obtain ⟨e0,es,vers,l,hid,h1,h2,h3,h⟩:=rowAt_run h
    obtain ⟨e2,v',k1,k2,h⟩:=rowRd_run h
    obtain ⟨hc,h⟩:=run_chk h
    simp only[Bool.and_eq_true,Nat.beq_eq] at hc
    obtain ⟨hc1,hc2⟩:=hc
    obtain ⟨hb0,h⟩:=run_chk h
    simp only[Bool.and_eq_true,decide_eq_true_eq] at hb0
    obtain rfl:=run_ret' h
    cases hv with
    | rowPast hd hp'=>rw[hid] at hd;cases hd;exact absurd hp' (not_past h1 h2 h3)
    | @row v _ e0 t1 _ ver b i1 c1 q es l1 vers hd hb hq hver ht hcell=>
     have hcell':=hcell
     obtain ⟨b',e3,es',Ca,T,f,x,m1,m2,m3,m4,m5,m6⟩:=hcell
     have hd2:=hd
     rw[hid] at hd2
     cases hd2
     obtain ⟨n1,n2⟩:=rowV_snoc m1 m3 m4 ht m5
     rw[n2] at k2
     cases k2
     simp only[V.toList] at hb0
     have hR:=S.rows hd hb m1
     obtain ⟨C1,c2,c3,c4⟩:=hR.cells
     rw[m2] at c2
     cases c2
     have hj:c1<P.cellsOf e3:=by
      rw[←okTy_etys hR.ok];exact (List.getElem?_eq_some_iff.1 m4).1
     obtain ⟨v2,d1,d2⟩:=c4 _ _ _ _ m3 m4 hj
     rw[m6] at d1
     cases d1
     rw[m5] at d2
     cases d2 with
     | scal a _=>unfold scalarT at a;rw[ht] at a;cases a
     | emp _ _=>simp at hb0;omega
     | @row _ _ b1 cap _ hl _ _ _=>
      have hok:=(S.rows hd hb (m1.snoc m2 m3 m4 ht m5 hl m6)).ok
      have hee:e=e':=hc1
      obtain ⟨ie,z,hi',_,hsz,_⟩:=okTy_zero hok
      rw[←hee] at hi' hsz
      refine .same S (run b1 0 _ cap ie hi' hb0.1 hb0.2) ?_
      have:=VRel.elt (P:=P) (I:=I) (i:=i.toNat) (c:=0) hd hb hq hver ht hl hcell'
      rw[Nat.zero_add,hsz,hee]
      simpa using this
   case sub e' id off len=>
    obtain ⟨l,h⟩:=run_get h
    cases hid:hp id with
    | none=>rw[hid] at h;cases h
    | some blk=>
     rw[hid] at h
     cases blk<;>simp only at h<;>first|(cases h;done)|skip
     rename_i e'' es fz
     obtain ⟨hc,h⟩:=run_chk h
     simp only[Bool.and_eq_true,Nat.beq_eq] at hc
     obtain ⟨hc1,hc2⟩:=hc
     obtain ⟨hb0,h⟩:=run_chk h
     simp only[Bool.and_eq_true,decide_eq_true_eq] at hb0
     obtain rfl:=run_ret' h
     cases hv with
     | subDead hd=>rw[hid] at hd;cases hd
     | subNil hd hb=>simp at hb0;omega
     | @sub _ _ _ _ es' fz' b o cap hd hb hol hcap ho=>
      have hd':=hd
      rw[hid] at hd
      cases hd
      have hr:=S.h.rel id _ hid
      cases hr with
      | arrNil hb'=>rw[hb'] at hb;cases hb
      | arr hok hb' hh hs hf hnf hx=>
       have hee:e=e':=hc1
       obtain ⟨ie,z,hi',_,hsz,_⟩:=okTy_zero hok
       rw[←hee] at hi' hsz
       refine .same S (run b o _ cap ie hi' hb0.1 hb0.2) ?_
       have:=VRel.ptr (P:=P) (w:=w) (I:=I) (i:=off+i.toNat) (c:=0) hd' (by simp) hb
       simp only[Blk.sz] at this
       rw[ho (by omega),hsz,hee,←Nat.add_mul]
       simpa using this
  case array n e=>
   have run: ∀(b o:Nat) (ie:TypeInfo),P.info? e=some ie→0≤i→i<(n:Int)→(Instr.indexAt t (.pointer (some ⟨b,o,none⟩)) (.int k i)).run P w= .ok (.pointer (some ⟨b,o+i.toNat*ie.size,none⟩)) w:=by
    intro b o ie hie h0 h1
    simp[Instr.indexAt,asIntOf,run_underlying hu,h0,h1,sizeOf,typeInfo,hie,add_none,Instr.sureAddr]
   cases x<;>simp only at h<;>first|(cases h;done)|skip
   case ptr id j c=>
    obtain ⟨⟨blk,hid,hd⟩,l,h⟩:=run_alive h
    obtain ⟨hb0,h⟩:=run_chk h
    simp only[Bool.and_eq_true,decide_eq_true_eq] at hb0
    obtain rfl:=run_ret' h
    obtain ⟨b,hb,rfl⟩:=hv.ptr_inv hid hd
    obtain ⟨d,hud⟩:=optTy hb0.1
    obtain ⟨ie,hie⟩:=info_of_und hud
    have hsz:ie.size=P.cellsOf e:=by simp[Program.cellsOf,hie]
    refine .same S (run b _ ie hie hb0.2.1 hb0.2.2) ?_
    rw[hsz,Nat.add_assoc]
    exact .ptr hid hd hb
   case pref ts cs=>
    obtain ⟨hb0,h⟩:=run_chk h
    simp only[Bool.and_eq_true,decide_eq_true_eq] at hb0
    obtain rfl:=run_ret' h
    obtain ⟨b,o,rfl,h1,h2,h3⟩:=hv.pref_inv
    obtain ⟨d,hud⟩:=optTy hb0.1
    obtain ⟨ie,hie⟩:=info_of_und hud
    have hsz:ie.size=P.cellsOf e:=by simp[Program.cellsOf,hie]
    refine .same S (run b _ ie hie hb0.2.1 hb0.2.2) ?_
    rw[hsz]
    exact VRel.pref_drop h1 h2 h3
end
end Go.AM
namespace Go.AM
open Go.Maps
section
variable {P:Program} {w w':World} {I I':Nat→Prop} {β β':Nat→Option Nat} {hp hp':Nat→Option Blk} {C:CallF} {B:Nat} {M:Nat→Prop} {w0:Start}
theorem trunc_sim (S:Sim P w I β hp B M w0) {nb:Nat} {t:TypeId} {v:Value} {x:V} {lo hi:Option V} {lov hiv:Option Value} {r:R} {rd:List Nat} (hv:VRel P w I β hp v x)
  (hhi: ∀x,hi=some x→∃v,hiv=some v∧VRel P w I β hp v x) (hlo0:lo=none→lov=none)
  (h:(truncRd P nb t x lo hi).run C hp=some (r,rd)):ValOk P ((Instr.sliceAt t v lov hiv none).run P w) w I β hp B M w0 r:=by
 unfold truncRd at h
 split at h
 case h_2=>cases h
 rename_i e e' id k hh hu
 obtain ⟨l,h1⟩:=run_get h
 cases hid:hp id with
 | none=>rw[hid] at h1;cases h1
 | some blk=>
  rw[hid] at h1
  cases blk<;>simp only at h1<;>first|(cases h1;done)|skip
  rename_i e2 es fz
  cases fz with
  | true=>cases h1
  | false=>
  obtain ⟨hc,h2⟩:=run_chk h1
  simp only[Bool.and_eq_true,Nat.beq_eq,decide_eq_true_eq] at hc
  obtain ⟨rfl,rfl,hok,hh0,hhn⟩:=hc
  obtain ⟨hn,rfl⟩:=newRd_run h2
  have hlo:=hlo0 rfl
  subst hlo
  obtain ⟨hvv,rfl,hhv⟩:=hhi _ rfl
  obtain rfl:=hhv.int_inv
  obtain ⟨i,z,hi',_,hsz,_⟩:=okTy_zero hok
  have hne:nb≠id:=fun e=>by rw[e,hid] at hn;cases hn
  obtain ⟨k1,k2⟩:=kill_sim S hid
  have hn1:setN hp id (some Blk.dead) nb=none:=by rw[setN_ne _ _ hne];exact hn
  have bnd: ∀cap,es.length≤cap→(Instr.sliceBounds true es.length cap none (some (.int k hh)) none).run P w= .ok (0,hh.toNat,cap) w:=by
   intro cap hcap
   have hb:(boundsRd es.length none (some (.int k hh)) fun l u=> .chk (decide (l=0∧u=hh.toNat)) (.ret (⟨.undef,[]⟩:R))).run C hp=some (⟨.undef,[]⟩,[]):=by
    simp[boundsRd,Rd.run,hh0,hhn]
   obtain ⟨l,u,b1,b2,b3,b4⟩:=bounds_sim (P:=P) (w:=w) (I:=I) (β:=β) (hp:=hp) (n:=es.length) (isS:=true) (cap:=cap) (lov:=none) (hiv:=some (.int k hh)) hcap (by simp) (fun x hx=>by cases hx;exact ⟨_,rfl,.int⟩) (fun _=>rfl) (by simp) hb
   obtain ⟨b5,_⟩:=run_chk b4
   simp only[decide_eq_true_eq] at b5
   obtain ⟨rfl,rfl⟩:=b5
   exact b3
  cases hv with
  | wholeDead hd=>rw[hid] at hd;cases hd
  | wholeN hd=>rw[hid] at hd;cases hd
  | @wholeNil _ _ _ a0 hd hb=>
   rw[hid] at hd
   cases hd
   have h00:hh=0:=by simpa using Int.le_antisymm hhn hh0
   subst h00
   have hb':=bnd 0 (Nat.le_refl _)
   obtain ⟨a1,a2⟩:=adoptNil_sim k2 e hn1
   refine ⟨_,w,I,_,slice_nil_run hu hi' hb',k1.trans a1,a2,.wholeNil (setN_same _ _ _) (setN_same _ _ _)⟩
  | @whole _ _ es' fz' b cap hd hb hsz2 hcap hm=>
   have hd':=hd
   rw[hid] at hd
   cases hd
   have hr:=S.h.rel id _ hid
   cases hr with
   | arrNil hb'=>rw[hb'] at hb;cases hb
   | @arr _ _ _ b' Ca _ hb' hhp hsA hf hnf hxA=>
    rw[hb] at hb'
    cases hb'
    have hl':(es.take hh.toNat).length=hh.toNat:=by rw[List.length_take];omega
    have hrun:(Instr.sliceAt t (.slice (some ⟨b,0,none⟩) es.length cap) none (some (.int k hh)) none).run P w= .ok (.slice (some ⟨b,0,none⟩) hh.toNat cap) w:=by
     have hb':=bnd cap hcap
     by_cases hc0:cap=0
     ·subst hc0
      simp[Instr.sliceAt,Instr.slice,run_underlying hu,hb',sizeOf,typeInfo,hi']
     ·simp[Instr.sliceAt,Instr.slice,run_underlying hu,hb',sizeOf,typeInfo,hi',hc0,add_none]
    have hfree: ∀id' blk',setN hp id (some Blk.dead) id'=some blk'→¬Owns P w (β id') blk' b:=by
     intro id' blk' h1 h2
     by_cases hii:id'=id
     ·subst hii;rw[setN_same] at h1;cases h1;exact h2.alive rfl
     ·rw[setN_ne _ _ hii] at h1
      exact hii (S.h.inj id' id blk' _ b h1 hid h2 (.root (by simp) hb))
    obtain ⟨a1,a2⟩:=adopt_sim k2 (blk:= .arr e (es.take hh.toNat) false) (w':=w) hn1 hfree (hnf rfl) (fun _ _ _=>rfl) (Nat.le_refl _) ⟨rfl,rfl⟩ (S.h.own0 id _ b hid (by simp) hb)
     (fun b' h=>(Option.some.inj (h.flat (by simp))).symm) (fun hle=> .arr hok rfl hhp (by rw[hl'];exact Nat.le_trans (Nat.mul_le_mul_right _ (by omega)) hsA) (fun h=>by cases h) (fun _=>hnf rfl) fun i j y t' hy ht hj=>by
      have hil:=(List.getElem?_eq_some_iff.1 hy).1
      rw[hl'] at hil
      rw[List.getElem?_take_of_lt hil] at hy
      obtain ⟨v,hv,hp⟩:=hxA i j y t' hy ht hj
      exact ⟨v,hv,hp.mono hle.imm hle.keep⟩)
    refine ⟨_,w,I,_,hrun,k1.trans a1,a2,?_⟩
    have:=VRel.whole (P:=P) (w:=w) (I:=I) (β:=setN β nb (some b)) (hp:=setN (setN hp id (some .dead)) nb (some (.arr e (es.take hh.toNat) false))) (cap:=cap) (setN_same _ _ _) (setN_same _ _ _) hsz2 (by rw[hl'];omega) hm
    rw[hl'] at this
    exact this
theorem keyFit1_cases {t:TypeId} {x:V} (h:keyFit1 P t x=true):
  (∃q n,P.underlying t=some (.int q)∧x= .int q n∧inKind q n=true)∨(∃b,P.underlying t=some .bool∧x= .bool b)∨(∃s,P.underlying t=some .string∧x= .str s∧s.length≤maxLen):=by
 unfold keyFit1 at h
 split at h
 ·rename_i q q' n hu
  simp only[Bool.and_eq_true,decide_eq_true_eq] at h
  obtain ⟨rfl,h⟩:=h
  exact .inl ⟨_,_,hu,rfl,h⟩
 ·rename_i b hu
  exact .inr (.inl ⟨_,hu,rfl⟩)
 ·rename_i s hu
  exact .inr (.inr ⟨_,hu,rfl,by simpa using h⟩)
 ·cases h
theorem size_data (s:ByteArray):s.data.toList.length=s.size:=by simp
theorem inKind_wf {q:IntKind} {n:Int} (h:inKind q n=true):(Lit.int q n).wf=true:=h
theorem keyFit1_lit {t:TypeId} {x:V} {v:Value} (h:keyFit1 P t x=true) (hv:KRel1 v x): ∃l,mapKey P t v=some l∧∀d,P.keyLits (d+1) t [v]=some [l]:=by
 rcases keyFit1_cases h with ⟨q,n,hu,rfl,hn⟩|⟨b,hu,rfl⟩|⟨s,hu,rfl,hs⟩
 ·obtain rfl:v= .int q n:=hv
  have hw:=inKind_wf hn
  exact ⟨.int q n,by simp[mapKey,hu,hw],fun d=>by simp[Program.keyLits,hu,hw]⟩
 ·obtain rfl:v= .bool b:=hv
  exact ⟨.bool b,by simp[mapKey,hu],fun d=>by simp[Program.keyLits,hu]⟩
 ·obtain ⟨s',rfl,hs'⟩:=hv
  have:s'.size≤maxLen:=by rw[←size_data,hs'];exact hs
  exact ⟨.string s'.data.toList,by simp[mapKey,hu,this],fun d=>by simp[Program.keyLits,hu,this]⟩
theorem keyFits_get {t:TypeId}: ∀{xs:List V} {j:Nat} {x:V},keyFits P t xs=true→xs[j]? =some x→keyFit1 P t x=true
 | [],j,x,_,h=>by simp at h
 | y::ys,0,x,h,hx=>by
  simp only[keyFits,Bool.and_eq_true] at h
  simp at hx;subst hx;exact h.1
 | y::ys,j+1,x,h,hx=>by
  simp only[keyFits,Bool.and_eq_true] at h
  exact keyFits_get (j:=j) h.2 (by simpa using hx)
theorem mapM_some {α β:Type} {f:α→Option β}: ∀{l:List α},(∀a∈l,∃b,f a=some b)→∃bs,l.mapM f=some bs
 | [],_=>⟨[],rfl⟩
 | a::l,h=>by
  obtain ⟨b,hb⟩:=h a (List.mem_cons_self ..)
  obtain ⟨bs,hbs⟩:=mapM_some (l:=l) fun x hx=>h x (List.mem_cons_of_mem _ hx)
  exact ⟨b::bs,by simp[List.mapM_cons,hb,hbs]⟩
inductive KeyKind (P:Program) (t:TypeId) (x:V):Prop
 | one:keyFit1 P t x=true→x.cells=[x]→KeyKind P t x
 | arr {n:Nat} {e:TypeId} {xs:List V}:x= .agg xs→WideMaps.ArrKey P t e n→xs.length=n→0<P.types.size→keyFits P e xs=true→KeyKind P t x
theorem keyFit_kind {t:TypeId} {x:V} (h:keyFit P t x=true):KeyKind P t x:=by
 unfold keyFit at h
 split at h
 ·rename_i n e xs hu
  simp only[Bool.and_eq_true,Nat.beq_eq] at h
  rw[Nat.blt_eq] at h
  exact .arr rfl ⟨hu,h.2.2.2.1,h.2.1,h.2.2.1⟩ h.1 h.2.2.2.2.1 h.2.2.2.2.2
 ·refine .one h ?_
  rcases keyFit1_cases h with ⟨q,n,hu,rfl,hn⟩|⟨b,hu,rfl⟩|⟨s,hu,rfl,hs⟩<;>rfl
theorem KRel.one {x:V} {v:Value} (h:KRel v x) (hx:x.cells=[x]):KRel1 v x:=by
 cases x<;>first|exact h|skip
 simp only[V.cells] at hx
 rename_i cs
 have:=congrArg List.length hx
 cases cs with
 | nil=>simp at hx
 | cons c cs=>
  simp only[List.cons.injEq] at hx
  have:=congrArg SizeOf.sizeOf hx.1
  simp at this
  omega
theorem key_lit {t:TypeId} {x:V} {v:Value} (h:keyFit P t x=true) (hv:KRel v x): ∃l,Go.keyOf P t v=some l:=by
 cases keyFit_kind h with
 | one h1 hx=>
  obtain ⟨l,hl,_⟩:=keyFit1_lit h1 (hv.one hx)
  refine ⟨l,?_⟩
  rcases keyFit1_cases h1 with ⟨q,n,hu,_⟩|⟨b,hu,_⟩|⟨s,hu,_⟩<;>simp only[Go.keyOf,hu,hl]
 | @arr n e xs hx A hl hp0 hf=>
  subst hx
  obtain ⟨cs,rfl,hs,hc⟩:=hv
  obtain ⟨m,hm⟩: ∃m,P.types.size=m+1:=⟨P.types.size-1,by omega⟩
  have hkt:=A.keyType ⟨m,hm⟩
  have hlen:cs.toList.length=P.cellsOf t:=by rw[A.size];simp[hs,hl]
  have hfm:(Value.agg cs).formed P t=true:=by simp[Value.formed,A.hu,A.size,hs,hl]
  have hex: ∀i∈List.range n,∃y,P.keyLits (m+1) e (((Value.agg cs).cells.toList.drop (i*P.cellsOf e)).take (P.cellsOf e))=some y:=by
   intro i hi
   have hi:=List.mem_range.1 hi
   rw[A.one]
   have hic:i<cs.size:=by omega
   have hix:i<xs.length:=by omega
   obtain ⟨l,_,h2⟩:=keyFit1_lit (keyFits_get hf (List.getElem?_eq_getElem hix)) (hc i cs[i] xs[i] (Array.getElem?_eq_getElem hic) (List.getElem?_eq_getElem hix))
   have e1:((Value.agg cs).cells.toList.drop (i*1)).take 1=[cs[i]]:=by
    show (cs.toList.drop (i*1)).take 1=_
    rw[Nat.mul_one,List.drop_eq_getElem_cons (by simpa using hic)]
    simp
   rw[e1]
   exact ⟨_,h2 m⟩
  obtain ⟨bs,hbs⟩:=mapM_some hex
  refine ⟨.string (keyBytes bs.flatten),?_⟩
  have hlen2:(Value.agg cs).cells.toList.length=P.cellsOf t:=hlen
  unfold Go.keyOf
  rw[A.hu]
  simp only[hkt,hfm,Bool.and_self,if_true]
  unfold Program.keyLits
  rw[A.hu,hm]
  simp only[hlen2,if_true,hbs,Option.map_some]
theorem key_keyed {t:TypeId} {x:V} (h:keyFit P t x=true):Keyed P t:=by
 cases keyFit_kind h with
 | one h1 hx=>
  rcases keyFit1_cases h1 with ⟨q,n,hu,_⟩|⟨b,hu,_⟩|⟨s,hu,_⟩
  ·exact int_keyed hu
  ·exact bool_keyed hu
  ·exact string_keyed hu
 | arr hx A hl _ hf=>exact Keyed.of_law A.law
theorem keyEq1_iff {t:TypeId} {x y:V} {v u:Value} (h1:keyFit1 P t x=true) (h2:keyFit1 P t y=true) (hv:KRel1 v x) (hu:KRel1 u y):keyEq1 x y=true↔v=u:=by
 rcases keyFit1_cases h1 with ⟨q,n,hu1,rfl,_⟩|⟨b,hu1,rfl⟩|⟨s,hu1,rfl,_⟩<;>
 rcases keyFit1_cases h2 with ⟨q',n',hu2,rfl,_⟩|⟨b',hu2,rfl⟩|⟨s',hu2,rfl,_⟩<;>
  (rw[hu1] at hu2;cases hu2)
 ·obtain rfl:v= .int q n:=hv
  obtain rfl:u= .int q n':=hu
  simp[keyEq1]
 ·obtain rfl:v= .bool b:=hv
  obtain rfl:u= .bool b':=hu
  simp[keyEq1]
 ·obtain ⟨s1,rfl,e1⟩:=hv
  obtain ⟨s2,rfl,e2⟩:=hu
  simp only[keyEq1,beq_iff_eq,Value.string.injEq,←e1,←e2]
  constructor
  ·intro h
   have:=Array.toList_inj.1 h
   cases s1;cases s2;simp_all
  ·rintro rfl;rfl
theorem keyEqs_iff {t:TypeId}: ∀{xs ys:List V} {vs us:List Value},keyFits P t xs=true→keyFits P t ys=true→xs.length=ys.length→vs.length=xs.length→us.length=ys.length→
  (∀(j:Nat) v x,vs[j]? =some v→xs[j]? =some x→KRel1 v x)→(∀(j:Nat) v x,us[j]? =some v→ys[j]? =some x→KRel1 v x)→(keyEqs xs ys=true↔vs=us)
 | [],[],vs,us,_,_,_,h1,h2,_,_=>by
  have e1:=List.eq_nil_of_length_eq_zero (l:=vs) (by simpa using h1)
  have e2:=List.eq_nil_of_length_eq_zero (l:=us) (by simpa using h2)
  simp[keyEqs,e1,e2]
 | [],_::_,_,_,_,_,h,_,_,_,_=>by simp at h
 | _::_,[],_,_,_,_,h,_,_,_,_=>by simp at h
 | x::xs,y::ys,[],us,_,_,_,h,_,_,_=>by simp at h
 | x::xs,y::ys,v::vs,[],_,_,_,_,h,_,_=>by simp at h
 | x::xs,y::ys,v::vs,u::us,f1,f2,h,h1,h2,r1,r2=>by
  simp only[keyFits,Bool.and_eq_true] at f1 f2
  have a:=keyEq1_iff f1.1 f2.1 (r1 0 v x rfl rfl) (r2 0 u y rfl rfl)
  have b:=keyEqs_iff (vs:=vs) (us:=us) f1.2 f2.2 (by simpa using h) (by simpa using h1) (by simpa using h2) (fun j v x hj hx=>r1 (j+1) v x (by simpa using hj) (by simpa using hx)) (fun j v x hj hx=>r2 (j+1) v x (by simpa using hj) (by simpa using hx))
  simp only[keyEqs,Bool.and_eq_true,a,b,List.cons.injEq]
theorem keyEq_iff {t:TypeId} {x y:V} {v u:Value} (h1:keyFit P t x=true) (h2:keyFit P t y=true) (hv:KRel v x) (hu:KRel u y):keyEq x y=true↔v=u:=by
 unfold keyEq
 cases keyFit_kind h1 with
 | one f1 c1=>
  cases keyFit_kind h2 with
  | one f2 c2=>
   rw[c1,c2]
   simp only[keyEqs,Bool.and_true]
   exact keyEq1_iff f1 f2 (hv.one c1) (hu.one c2)
  | arr hy A hl _ hf=>
   rcases keyFit1_cases f1 with ⟨q,n,hu1,_⟩|⟨b,hu1,_⟩|⟨s,hu1,_⟩<;>(rw[A.hu] at hu1;cases hu1)
 | arr hx A hl _ hf=>
  cases keyFit_kind h2 with
  | one f2 c2=>
   rcases keyFit1_cases f2 with ⟨q,n,hu1,_⟩|⟨b,hu1,_⟩|⟨s,hu1,_⟩<;>(rw[A.hu] at hu1;cases hu1)
  | arr hy A2 hl2 _ hf2=>
   have hee:=A.hu.symm.trans A2.hu
   cases hee
   subst hx
   subst hy
   obtain ⟨cs,rfl,s1,r1⟩:=hv
   obtain ⟨ds,rfl,s2,r2⟩:=hu
   have:=keyEqs_iff (vs:=cs.toList) (us:=ds.toList) hf hf2 (by omega) (by simpa using s1) (by simpa using s2) (fun j v x hj hx=>r1 j v x (by simpa using hj) hx) (fun j v x hj hx=>r2 j v x (by simpa using hj) hx)
   simp only[V.cells,this,Value.agg.injEq]
   exact Array.toList_inj
theorem mget_none {k:V}: ∀{es:List V},(∀x∈es,keyEq k (x.comp 0)=false)→mHas k es=false∧(∀z,mGet k es z=z)∧∀v,mPut k v es=es++[.tup [k,v]]
 | [],_=>⟨rfl,fun _=>rfl,fun _=>rfl⟩
 | e::es,h=>by
  have h0:=h e (List.mem_cons_self ..)
  obtain ⟨a,b,c⟩:=mget_none (k:=k) (es:=es) fun x hx=>h x (List.mem_cons_of_mem _ hx)
  exact ⟨by simp[mHas,h0,a],fun z=>by simp[mGet,h0,b],fun v=>by simp[mPut,h0,c]⟩
theorem mget_some {k:V}: ∀{es:List V} {j:Nat} {k' y:V},es[j]? =some (.tup [k',y])→keyEq k k'=true→(∀i x,i<j→es[i]? =some x→keyEq k (x.comp 0)=false)→
  mHas k es=true∧(∀z,mGet k es z=y)∧∀v,mPut k v es=es.set j (.tup [k',v])
 | [],j,k',y,h,_,_=>by simp at h
 | e::es,0,k',y,h,he,_=>by
  simp at h
  subst h
  exact ⟨by simp[mHas,V.comp,V.nth,he],fun z=>by simp[mGet,V.comp,V.nth,he],fun v=>by simp[mPut,V.comp,V.nth,he]⟩
 | e::es,j+1,k',y,h,he,hlt=>by
  have h0:=hlt 0 e (by omega) rfl
  obtain ⟨a,b,c⟩:=mget_some (k:=k) (es:=es) (j:=j) (by simpa using h) he fun i x hi hx=>hlt (i+1) x (by omega) (by simpa using hx)
  exact ⟨by simp[mHas,h0,a],fun z=>by simp[mGet,h0,b],fun v=>by simp[mPut,h0,c]⟩
theorem find_map {kt vt:TypeId} {E:Array MapEntry} {es:List V} {k:V} {kv:Value} (hs:E.size=es.length) (hx: ∀(j:Nat) (e:MapEntry) (x:V),E[j]? =some e→es[j]? =some x→EntRel P kt vt e x)
  (hn:E.toList.Pairwise (fun a b=>a.key≠b.key)) (hk:keyFit P kt k=true) (hkv:KRel kv k) (w:World):
  ((Instr.findKey kt kv E.toList).run P w= .ok none w∧(∀e∈E.toList,e.key≠kv)∧mHas k es=false∧(∀z,mGet k es z=z)∧∀v,mPut k v es=es++[.tup [k,v]])∨
  ∃j e k' y,(Instr.findKey kt kv E.toList).run P w= .ok (some (j,e.val)) w∧E[j]? =some e∧e.key=kv∧es[j]? =some (.tup [k',y])∧keyFit P kt k'=true∧KRel kv k'∧typed1 P vt y=true∧KRel1 e.val y∧
   mHas k es=true∧(∀z,mGet k es z=y)∧∀v,mPut k v es=es.set j (.tup [k',v]):=by
 have K:=key_keyed hk
 obtain ⟨l,hl⟩:=key_lit hk hkv
 have ent: ∀(j:Nat) x,es[j]? =some x→∃e,E[j]? =some e∧EntRel P kt vt e x:=by
  intro j x hj
  have hlt:j<E.size:=by rw[hs];exact (List.getElem?_eq_some_iff.1 hj).1
  exact ⟨E[j],Array.getElem?_eq_getElem hlt,hx j _ x (Array.getElem?_eq_getElem hlt) hj⟩
 have keys: ∀e∈E.toList,∃l,Go.keyOf P kt e.key=some l:=by
  intro e he
  obtain ⟨j,hj⟩:=List.getElem?_of_mem he
  have hj':E[j]? =some e:=by simpa using hj
  have hlt:j<es.length:=by rw[←hs];exact (Array.getElem?_eq_some_iff.1 hj').1
  obtain ⟨k',y,_,h1,h2,_⟩:=hx j e es[j] hj' (List.getElem?_eq_getElem hlt)
  exact key_lit h1 h2
 rcases K.find w hl E.toList keys with ⟨h1,h2⟩|⟨j,e,h1,h2,h3⟩
 ·left
  refine ⟨h1,h2,mget_none fun x hxm=> ?_⟩
  obtain ⟨j,hj⟩:=List.getElem?_of_mem hxm
  obtain ⟨e,he,k',y,rfl,f1,f2,_⟩:=ent j x hj
  cases hq:keyEq k (V.comp (.tup [k',y]) 0) with
  | false=>rfl
  | true=>
   have:=(keyEq_iff hk f1 hkv f2).1 hq
   exact absurd this.symm (h2 e (List.mem_of_getElem? (by simpa using he)))
 ·right
  have hE:E[j]? =some e:=by simpa using h2
  have hlt:j<es.length:=by rw[←hs];exact (Array.getElem?_eq_some_iff.1 hE).1
  obtain ⟨k',y,hy,f1,f2,f3,f4⟩:=hx j e es[j] hE (List.getElem?_eq_getElem hlt)
  have hj:=List.getElem?_eq_getElem hlt
  rw[hy] at hj
  rw[h3] at f2
  refine ⟨j,e,k',y,h1,hE,h3,hj,f1,f2,f3,f4,mget_some hj ((keyEq_iff hk f1 hkv f2).2 rfl) fun i x hi hxi=> ?_⟩
  obtain ⟨e',he',k2,y2,rfl,g1,g2,_⟩:=ent i x hxi
  cases hq:keyEq k (V.comp (.tup [k2,y2]) 0) with
  | false=>rfl
  | true=>
   have:=(keyEq_iff hk g1 hkv g2).1 hq
   have i1:i<E.toList.length:=by have:=(List.getElem?_eq_some_iff.1 hxi).1;simp;omega
   have i2:j<E.toList.length:=by simp;omega
   have:=List.pairwise_iff_getElem.1 hn i j i1 i2 hi
   have a1:E.toList[i]=e':=by
    have:E.toList[i]? =some e':=by simpa using he'
    rw[List.getElem?_eq_getElem i1] at this;exact Option.some.inj this
   have a2:E.toList[j]=e:=by
    have:=h2
    rw[List.getElem?_eq_getElem i2] at this;exact Option.some.inj this
   rw[a1,a2,h3] at this
   exact absurd (by rw[← ‹kv=e'.key›]) this
theorem VRel.krel1 {v:Value} {x:V} (h:VRel P w I β hp v x) {t:TypeId} (hx:keyFit1 P t x=true):KRel1 v x:=by
 rcases keyFit1_cases hx with ⟨q,n,_,rfl,_⟩|⟨b,_,rfl⟩|⟨s,_,rfl,_⟩
 ·exact h.int_inv
 ·exact h.bool_inv
 ·exact h.str_inv
theorem VRel.krel {v:Value} {x:V} (h:VRel P w I β hp v x) {t:TypeId} (hx:keyFit P t x=true):KRel v x:=by
 cases keyFit_kind hx with
 | one f c=>
  have:=h.krel1 f
  cases x<;>first|exact this|cases this
 | arr hx A hl _ hf=>
  subst hx
  obtain ⟨cs,rfl,h1,h2⟩:=h.agg_inv
  exact ⟨cs,rfl,h1,fun j u y hu hy=>(h2 j u y hu hy).krel1 (keyFits_get hf hy)⟩
theorem mapVal_cases {vt:TypeId} {y:V} (h:mapVal P vt=true) (ht:typed1 P vt y=true):(∃q n,P.underlying vt=some (.int q)∧y= .int q n)∨∃b,P.underlying vt=some .bool∧y= .bool b:=by
 unfold mapVal at h
 unfold typed1 at ht
 split at h
 ·rename_i q hu
  rw[hu] at ht
  cases y<;>first|(simp at ht;done)|skip
  simp only[decide_eq_true_eq] at ht
  subst ht
  exact .inl ⟨_,_,hu,rfl⟩
 ·rename_i hu
  rw[hu] at ht
  cases y<;>first|(simp at ht;done)|skip
  exact .inr ⟨_,hu,rfl⟩
 ·cases h
theorem KRel1.vrel {vt:TypeId} {v:Value} {y:V} (h:mapVal P vt=true) (ht:typed1 P vt y=true) (hv:KRel1 v y):VRel P w I β hp v y:=by
 rcases mapVal_cases h ht with ⟨q,n,_,rfl⟩|⟨b,_,rfl⟩
 ·obtain rfl:v= .int q n:=hv;exact .int
 ·obtain rfl:v= .bool b:=hv;exact .bool
theorem VRel.val1 {vt:TypeId} {v:Value} {y:V} (h:mapVal P vt=true) (ht:typed1 P vt y=true) (hv:VRel P w I β hp v y):KRel1 v y:=by
 rcases mapVal_cases h ht with ⟨q,n,_,rfl⟩|⟨b,_,rfl⟩
 ·exact hv.int_inv
 ·exact hv.bool_inv
theorem zero1_run {vt:TypeId} {z:V} (h:zero1 P vt=some z) (w:World): ∃v,(zeroValue vt).run P w= .ok v w∧KRel1 v z:=by
 unfold zero1 at h
 cases hi:P.info? vt with
 | none=>rw[hi] at h;cases h
 | some i=>
  rw[hi] at h
  simp only[Option.bind_some] at h
  cases hz:i.zero with
  | none=>rw[hz] at h;cases h
  | some v=>
   rw[hz] at h
   refine ⟨v,by simp[zeroValue,typeInfo,hi,hz],?_⟩
   cases v<;>simp only at h<;>first|(cases h;done)|skip
   ·cases h;rfl
   ·cases h;rfl
theorem mapTy_und {t kt vt:TypeId} (h:mapTy P t=some (kt,vt)):P.underlying t=some (.map kt vt):=by
 unfold mapTy at h
 split at h
 ·rename_i k e hu;cases h;exact hu
 ·cases h
theorem lookRes_ok (S:Sim P w I β hp B M w0) {ok:Bool} {v:Value} {x:V} {b:Bool} {r:R} {rd:List Nat} {res:Result Value} (hv:VRel P w I β hp v x)
  (hr:res= .ok (if ok then .tuple #[v,.bool b] else v) w) (h:(lookRes ok x b).run C hp=some (r,rd)):ValOk P res w I β hp B M w0 r:=by
 unfold lookRes at h
 obtain rfl:=run_ret' h
 cases ok with
 | false=>exact .same S hr hv
 | true=>
  refine .same S hr (.tup rfl fun j u y hu hy=> ?_)
  match j,hu,hy with
  | 0,hu,hy=>simp at hu hy;subst hu;subst hy;exact hv
  | 1,hu,hy=>simp at hu hy;subst hu;subst hy;exact .bool
  | j+2,hu,hy=>simp at hy
theorem lookup_sim (S:Sim P w I β hp B M w0) {t kt vt:TypeId} (ht:mapTy P t=some (kt,vt)) {m k:Value} {mx kx:V} {ok:Bool} {r:R} {rd:List Nat} (hm:VRel P w I β hp m mx) (hk:VRel P w I β hp k kx)
  (h:(lookupRd P t mx kx ok).run C hp=some (r,rd)):ValOk P ((Instr.lookup t m k ok).run P w) w I β hp B M w0 r:=by
 unfold lookupRd at h
 rw[ht] at h
 simp only at h
 cases hz:zero1 P vt with
 | none=>rw[hz] at h;cases h
 | some z=>
  rw[hz] at h
  obtain ⟨hc,h'⟩:=run_chk h
  clear h
  have h:=h'
  clear h'
  simp only[Bool.and_eq_true] at hc
  obtain ⟨hkf,hmv,hzt⟩:=hc
  have hu:=mapTy_und ht
  have hkr:=hk.krel hkf
  have K:=key_keyed hkf
  obtain ⟨l,hl⟩:=key_lit hkf hkr
  obtain ⟨zv,hzr,hzk⟩:=zero1_run hz w
  cases mx<;>simp only at h<;>first|(cases h;done)|skip
  ·rename_i t' id
   obtain ⟨htt,h'⟩:=run_chk h
   clear h
   have h:=h'
   clear h'
   rw[Nat.beq_eq] at htt
   subst htt
   obtain ⟨l2,h'⟩:=run_get h
   clear h
   have h:=h'
   clear h'
   cases hid:hp id with
   | none=>rw[hid] at h;cases h
   | some blk=>
    rw[hid] at h
    cases blk<;>simp only at h<;>first|(cases h;done)|skip
    rename_i t2 es
    obtain ⟨htt,h'⟩:=run_chk h
    clear h
    have h:=h'
    clear h'
    rw[Nat.beq_eq] at htt
    subst htt
    cases hm with
    | mrefDead hd=>rw[hid] at hd;cases hd
    | @mref _ _ b es' hd hb=>
     rw[hid] at hd
     cases hd
     have hr:=S.h.rel id _ hid
     cases hr with
     | @map _ kt' vt' _ b' clock E hu' hb' hh hs hI hx hn=>
      rw[hb] at hb';cases hb'
      rw[hu] at hu';cases hu'
      rcases find_map hs hx hn hkf hkr w with ⟨h1,_,h3,h4,_⟩|⟨j,e,k',y,h1,_,_,_,_,_,h6,h7,h3,h4,_⟩
      ·rw[h3,h4,typed1_retype1 hzt] at h
       refine lookRes_ok S (KRel1.vrel hmv hzt hzk) ?_ h
       unfold Instr.lookup
       simp only[Sem.run_bind,run_underlying hu,Result.andThen_ok,Go.MapKept.run_getObj_map hh,Sem.run_pure,K.check w E.isEmpty hl,h1,hzr]
      ·rw[h3,h4,typed1_retype1 h6] at h
       refine lookRes_ok S (KRel1.vrel hmv h6 h7) ?_ h
       unfold Instr.lookup
       simp only[Sem.run_bind,run_underlying hu,Result.andThen_ok,Go.MapKept.run_getObj_map hh,Sem.run_pure,K.check w E.isEmpty hl,h1]
  ·rename_i t'
   obtain ⟨htt,h⟩:=run_chk h
   cases hm
   rw[typed1_retype1 hzt] at h
   refine lookRes_ok S (KRel1.vrel hmv hzt hzk) ?_ h
   have hf:(Instr.findKey kt k []).run P w= .ok none w:=by
    rcases K.find w hl [] (by simp) with ⟨h1,_⟩|⟨j,e,_,h2,_⟩
    ·exact h1
    ·simp at h2
   unfold Instr.lookup
   simp[run_underlying hu,K.check w true hl,hf,hzr]
theorem makeMap_sim (S:Sim P w I β hp B M w0) {t:TypeId} {nb:Nat} {r:R} {rd:List Nat} (h:(Rd.chk (mapTy P t).isSome (newRd nb (.map t []) (.mref t nb) [])).run C hp=some (r,rd)):
  ValOk P ((Instr.makeMap t none).run P w) w I β hp B M w0 r:=by
 obtain ⟨ht,h⟩:=run_chk h
 obtain ⟨hn,rfl⟩:=newRd_run h
 obtain ⟨⟨kt,vt⟩,ht⟩:=Option.isSome_iff_exists.1 ht
 have hu:=mapTy_und ht
 have hnI: ¬I w.heap.size:=fun h=>Nat.lt_irrefl _ (S.h.Ilt _ h)
 have hnew:(w.alloc (.map #[] 0)).heap[w.heap.size]? =some (.map #[] 0):=heap_alloc_new w _
 obtain ⟨a1,a2⟩:=adopt_sim S (w':=w.alloc (.map #[] 0)) (blk:= .map t []) (b:=w.heap.size) hn (fun id' blk' h ho=>Nat.lt_irrefl _ (S.h.lt h ho)) hnI
  (fun b' _ hlt=>heap_alloc_old w _ b' hlt) (by simp) ⟨rfl,rfl⟩ (.inr S.size) (fun b' h=>(Option.some.inj (h.flat (by simp))).symm)
  (fun _=> .map hu rfl hnew rfl hnI (fun j e x he _=>by simp at he) (by simp))
 exact ⟨_,_,_,_,Go.RowKit.run_makeMap t w,a1,a2,.mref (setN_same _ _ _) (setN_same _ _ _)⟩
theorem mapPut_sim (S:Sim P w I β hp B M w0) {t kt vt:TypeId} (ht:mapTy P t=some (kt,vt)) {m k v:Value} {mx kx vx:V} {r:R} {rd:List Nat} (hm:VRel P w I β hp m mx) (hk:VRel P w I β hp k kx) (hv:VRel P w I β hp v vx)
  (h:(mapPutRd P t mx kx vx).run C hp=some (r,rd)):StoreOk P ((Instr.mapUpdate t m k v).run P w) w I β hp B M w0 r:=by
 unfold mapPutRd at h
 rw[ht] at h
 obtain ⟨hc,h'⟩:=run_chk h
 clear h
 have h:=h'
 clear h'
 simp only[Bool.and_eq_true] at hc
 obtain ⟨hkf,hmv,hvt⟩:=hc
 have hu:=mapTy_und ht
 have hkr:=hk.krel hkf
 have hvr:=VRel.val1 hmv hvt hv
 have K:=key_keyed hkf
 obtain ⟨l,hl⟩:=key_lit hkf hkr
 cases mx<;>simp only at h<;>first|(cases h;done)|skip
 rename_i t' id
 obtain ⟨htt,h'⟩:=run_chk h
 clear h
 have h:=h'
 clear h'
 rw[Nat.beq_eq] at htt
 subst htt
 obtain ⟨l2,h'⟩:=run_get h
 clear h
 have h:=h'
 clear h'
 cases hid:hp id with
 | none=>rw[hid] at h;cases h
 | some blk=>
  rw[hid] at h
  cases blk<;>simp only at h<;>first|(cases h;done)|skip
  rename_i t2 es
  obtain ⟨htt,h'⟩:=run_chk h
  clear h
  have h:=h'
  clear h'
  rw[Nat.beq_eq] at htt
  subst htt
  obtain rfl:=run_ret' h
  cases hm with
  | mrefDead hd=>rw[hid] at hd;cases hd
  | @mref _ _ b es' hd hb=>
   rw[hid] at hd
   cases hd
   have hr:=S.h.rel id _ hid
   cases hr with
   | @map _ kt' vt' _ b' clock E hu' hb' hh hs hI hx hn=>
    rw[hb] at hb';cases hb'
    rw[hu] at hu';cases hu'
    have hlt:b<w.heap.size:=(Array.getElem?_eq_some_iff.1 hh).1
    have fin: ∀(E':Array MapEntry) (clock':Nat),(Instr.mapUpdate t (.map (some b)) k v).run P w= .ok () {w with heap:=w.heap.setIfInBounds b (.map E' clock')}→E'.size=(mPut kx vx es).length→
      (∀(j:Nat) (e:MapEntry) (x:V),E'[j]? =some e→(mPut kx vx es)[j]? =some x→EntRel P kt vt e x)→E'.toList.Pairwise (fun a b=>a.key≠b.key)→
      StoreOk P ((Instr.mapUpdate t (.map (some b)) k v).run P w) w I β hp B M w0 ⟨.undef,[(id,.map t (mPut kx vx es))]⟩:=by
     intro E' clock' hrun hs' hx' hn'
     have hnew:({w with heap:=w.heap.setIfInBounds b (.map E' clock')}:World).heap[b]? =some (.map E' clock'):=by simp[hlt]
     obtain ⟨a1,a2⟩:=change_sim S (w':={w with heap:=w.heap.setIfInBounds b (.map E' clock')}) (blk':= .map t (mPut kx vx es)) hid (by simp) rfl hb hI (by simp)
      (fun b' hb'=>by simp[Array.getElem?_setIfInBounds,Ne.symm hb']) (by simp only[bsize,hnew,hh]) (by simp) ⟨rfl,rfl⟩ (fun _=> .map hu rfl hnew hs' hI hx' hn')
     exact ⟨_,I,β,hrun,a1,a2,rfl⟩
    rcases find_map hs hx hn hkf hkr w with ⟨h1,h2,_,_,h5⟩|⟨j,e,k',y,h1,hE,hek,hes,hk'f,hk'r,_,_,_,_,h5⟩
    ·have e5:=h5 vx
     refine fin (E.push {key:=k,val:=v,born:=clock}) (clock+1) ?_ (by rw[e5];simp[hs]) (fun j e x he hxj=> ?_) ?_
     ·unfold Instr.mapUpdate
      simp only[Sem.run_bind,run_underlying hu,Result.andThen_ok,Go.MapKept.run_getObj_map hh,K.check w false hl,h1,Go.MapKept.run_setObj_map _ hh]
     ·rw[e5] at hxj
      rw[Array.getElem?_push] at he
      split at he
      ·rename_i hj
       rw[List.getElem?_append_right (by omega),hj,hs,Nat.sub_self] at hxj
       simp at he hxj
       subst he;subst hxj
       exact ⟨kx,vx,rfl,hkf,hkr,hvt,hvr⟩
      ·have hj:j<E.size:=(Array.getElem?_eq_some_iff.1 he).1
       rw[List.getElem?_append_left (by omega)] at hxj
       exact hx j e x he hxj
     ·rw[Array.toList_push,List.pairwise_append]
      refine ⟨hn,by simp,fun a ha b' hb'=> ?_⟩
      simp only[List.mem_singleton] at hb'
      subst hb'
      exact h2 a ha
    ·have e5:=h5 vx
     have hj:j<E.size:=(Array.getElem?_eq_some_iff.1 hE).1
     refine fin (E.modify j fun e=>{e with key:=k,val:=v}) clock ?_ (by rw[e5];simp[hs]) (fun i e' x he hxi=> ?_) ?_
     ·have hst:=K.stays w hl
      unfold Instr.mapUpdate
      simp only[Sem.run_bind,run_underlying hu,Result.andThen_ok,Go.MapKept.run_getObj_map hh,K.check w false hl,h1]
      simp only[hE,Option.map_some,Option.getD_some,hek,hst,Result.andThen_ok,Go.MapKept.run_setObj_map _ hh]
     ·rw[e5] at hxi
      rw[Array.getElem?_modify] at he
      rw[List.getElem?_set] at hxi
      split at he
      ·rename_i hij
       subst hij
       rw[if_pos rfl,if_pos (by omega)] at hxi
       rw[hE] at he
       simp at he hxi
       subst he;subst hxi
       exact ⟨k',vx,rfl,hk'f,hk'r,hvt,hvr⟩
      ·rename_i hij
       rw[if_neg hij] at hxi
       exact hx i e' x he hxi
     ·have hke: ∀i (h1:i<(E.modify j fun e=>{e with key:=k,val:=v}).toList.length) (h2:i<E.toList.length),((E.modify j fun e=>{e with key:=k,val:=v}).toList[i]).key=(E.toList[i]).key:=by
       intro i h1 h2
       simp only[Array.getElem_toList,Array.getElem_modify]
       split
       ·rename_i hij
        subst hij
        have:=(Array.getElem?_eq_some_iff.1 hE).2
        rw[this,hek]
       ·rfl
      rw[List.pairwise_iff_getElem] at hn⊢
      intro i i' h1 h2 hii
      have g1:i<E.toList.length:=by simpa using h1
      have g2:i'<E.toList.length:=by simpa using h2
      rw[hke i h1 g1,hke i' h2 g2]
      exact hn i i' g1 g2 hii
theorem mapLen_sim (S:Sim P w I β hp B M w0) {t ty kt vt:TypeId} {v:Value} {x:V} {r:R} {rd:List Nat} (hu:P.underlying t=some (.map kt vt)) (hv:VRel P w I β hp v x)
  (h:(mapLenRd x).run C hp=some (r,rd)):ValOk P ((Builtin.len_ #[t] ty #[v]).run P w) w I β hp B M w0 r:=by
 unfold mapLenRd at h
 cases x<;>simp only at h<;>first|(cases h;done)|skip
 ·rename_i t' id
  obtain ⟨l2,h'⟩:=run_get h
  clear h
  have h:=h'
  clear h'
  cases hid:hp id with
  | none=>rw[hid] at h;cases h
  | some blk=>
   rw[hid] at h
   cases blk<;>simp only at h<;>first|(cases h;done)|skip
   rename_i t2 es
   obtain rfl:=run_ret' h
   cases hv with
   | mrefDead hd=>rw[hid] at hd;cases hd
   | @mref _ _ b es' hd hb=>
    rw[hid] at hd
    cases hd
    have hr:=S.h.rel id _ hid
    cases hr with
    | @map _ kt' vt' _ b' clock E hu' hb' hh hs hI hx hn=>
     rw[hb] at hb';cases hb'
     refine .same S (v:= .int .i64 E.size) (by simp[Builtin.len_,run_underlying hu,Go.MapKept.run_getObj_map hh,goInt]) ?_
     rw[hs]
     exact .int
 ·obtain rfl:=run_ret' h
  cases hv
  exact .same S (v:= .int .i64 0) (by simp[Builtin.len_,run_underlying hu,goInt]) .int
theorem VRel.nilM_inv {v:Value} {t:TypeId} (h:VRel P w I β hp v (.nilM t)):v= .map none:=by cases h;rfl
theorem VRel.mref_inv {v:Value} {t t':TypeId} {id:Nat} {es:List V} (h:VRel P w I β hp v (.mref t id)) (hid:hp id=some (.map t' es)): ∃b,v= .map (some b):=by
 cases h with
 | mrefDead h=>rw[hid] at h;cases h
 | mref h hb=>exact ⟨_,rfl⟩
theorem mapEq_sim (S:Sim P w I β hp B M w0) {op:BinOp} {t:TypeId} {a:Option Nat} {r:R} {rd:List Nat} (x y:Operand)
  (h:(mapEq P op t a.isNone).run C hp=some (r,rd)):ValOk P ((do eqGuard op t x y (.map a) (.map none);binOp op t (.map a) (.map none)).run P w) w I β hp B M w0 r:=by
 unfold mapEq at h
 split at h
 case h_2=>cases h
 rename_i kt vt hu
 have he:(Op.equal t (.map a) (.map none)).run P w= .ok a.isNone w:=by
  show (Op.equalIn (9999+1) t (.map a) (.map none)).run P w=_
  rw[Op.equalIn]
  cases a<;>simp[Sem.run_bind,run_underlying hu,Result.andThen_ok,Sem.run_pure]
 cases op<;>simp only at h<;>first|(cases h;done)|skip
 ·obtain rfl:=run_ret' h
  exact .same S (by simp[eqGuard,binOp,he]) .bool
 ·obtain rfl:=run_ret' h
  exact .same S (by simp[eqGuard,binOp,he]) .bool
end
end Go.AM
namespace Go.AM
section
variable {P:Program} {w w':World} {I I':Nat→Prop} {β β':Nat→Option Nat} {hp hp':Nat→Option Blk} {C:CallF} {B:Nat} {M:Nat→Prop} {w0:Start}
theorem strV_el {e:TypeId} (he:P.underlying e=some (.int .u8)) (hc:P.cellsOf e=1) (s:ByteArray): ∀(i j:Nat) (x:V) (t':TypeId),(s.data.toList.map byteV)[i]? =some x→(etys P e)[j]? =some t'→j<P.cellsOf e→
  ∃u,(Lib.strCells s)[i*P.cellsOf e+j]? =some u∧Pure P w I t' u (epart P e x j):=by
 intro i j x t' hx ht hj
 have hna:isAggT P e=false:=by simp[isAggT,he]
 obtain rfl:j=0:=by omega
 simp only[etys,hna,cond_false,List.getElem?_cons_zero,Option.some.injEq] at ht
 subst ht
 rw[List.getElem?_map] at hx
 cases hb:s.data.toList[i]? with
 | none=>rw[hb] at hx;cases hx
 | some b=>
  rw[hb] at hx
  cases hx
  refine ⟨.int .u8 b.toNat,?_,?_⟩
  ·rw[hc,Nat.mul_one,Nat.add_zero]
   simp only[Lib.strCells,List.getElem?_map,hb,Option.map_some]
  ·simp only[epart,hna,cond_false]
   exact .int he
theorem run_append_cap0_string (w:World) (t u ty e:TypeId) (i:TypeInfo) (z:Value) (ht:P.underlying t=some (.slice e)) (hu:P.underlying u=some .string) (hi:P.info? e=some i) (hz:i.zero=some z)
  (s:ByteArray) (h0:0<s.size) (h63:(s.size:Int)≤9223372036854775807) (h48:s.size*i.bytes≤281474976710656) (a0:Option Addr):
  (Builtin.append_ #[t,u] ty #[.slice a0 0 0,.string s]).run P w=
   .ok (.slice (some ⟨w.heap.size,0,none⟩) s.size (grownCap w s.size 0 e))
    (w.drew.alloc (.cells (s.data.map (fun b=>Value.int .u8 b.toNat)++Builtin.zeroCells z.cells (grownCap w s.size 0 e-s.size)) e)):=by
 cases a0 with
 | none=>exact run_append_nil_string w t u ty e i z ht hu hi hz s h0 h63 h48
 | some b=>
  rw[←run_append_nil_string w t u ty e i z ht hu hi hz s h0 h63 h48]
  have hn:s.size≠0:=by omega
  have h63': ¬(9223372036854775807<(s.size:Int)):=by omega
  have h48': ¬(281474976710656<Builtin.nextslicecap s.size 0*i.bytes):=by rw[nextslicecap_zero h0];omega
  simp[Builtin.append_,run_underlying ht,run_underlying hu,sizeOf,typeInfo,zeroValue,hi,hz,Builtin.lenOf,Builtin.firstCells,hn,h63',h48',Question.forced,newRow,grownCap,loadCells,loadCellsFrom]
theorem nilStr (S:Sim P w I β hp B M w0) {t u ty e:TypeId} {nb:Nat} {x:ByteArray} {xs:List V} {i:TypeInfo} {z:Value} (hu:P.underlying t=some (.slice e)) (hus:P.underlying u=some .string) (hok:okTy P e=true) (hn:hp nb=none)
 (hi:P.info? e=some i) (hz:i.zero=some z) (h3:i.size=P.cellsOf e) (h4:z.cells.size=P.cellsOf e) (hsz1:i.size=1) (hbi:P.bytesOf e=i.bytes) (hby:xs.length*P.bytesOf e≤maxBytes) (hxl:xs.length=x.size) (hnl:(Lib.strCells x).length=x.size)
 (hel: ∀(i j:Nat) (y:V) (t':TypeId),xs[i]? =some y→(etys P e)[j]? =some t'→j<P.cellsOf e→∃u,(Lib.strCells x)[i*P.cellsOf e+j]? =some u∧Pure P w I t' u (epart P e y j)):
 ∀a0,∃v w' β',(Builtin.append_ #[t,u] ty #[.slice a0 0 0,.string x]).run P w= .ok v w'∧Le P w I β hp w' I β' (setN hp nb (some (.arr e xs false)))∧Sim P w' I β' (setN hp nb (some (.arr e xs false))) B M w0∧
  VRel P w' I β' (setN hp nb (some (.arr e xs false))) v (.whole e nb):=by
 intro a0
 have hbp:=okTy_bytes hok
 have hlen:xs.length≤2^45:=by
  have:xs.length*1≤xs.length*P.bytesOf e:=Nat.mul_le_mul_left _ hbp
  simp only[maxBytes] at hby
  omega
 by_cases h0:x.size=0
 ·have hxs:xs=[]:=List.eq_nil_of_length_eq_zero (by omega)
  subst hxs
  obtain ⟨a1,a2⟩:=adoptNil_sim S e hn
  have hf:=Lib.run_firstCells_string (P:=P) w 1 x
  rw[h0] at hf
  have hsc:Lib.strCells x=[]:=List.eq_nil_of_length_eq_zero (by omega)
  exact ⟨.slice a0 0 0,_,_,by cases a0<;>simp[storeCells,hsc,Builtin.append_,run_underlying hu,run_underlying hus,sizeOf,typeInfo,hi,hsz1,Builtin.lenOf,h0,hf],a1,a2,.wholeNil (setN_same _ _ _) (setN_same _ _ _)⟩
 ·have hrun:=run_append_cap0_string (P:=P) w t u ty e i z hu hus hi hz x (by omega) (by omega) (by rw[←hbi,←hxl];simp only[maxBytes] at hby;omega) a0
  have e1:(x.data.map fun b=>Value.int .u8 b.toNat)=(Lib.strCells x).toArray:=by
   apply Array.ext'
   simp[Lib.strCells]
  rw[e1,←hxl] at hrun
  have hge:=grownCap_ge w xs.length 0 e
  have hcm:grownCap w xs.length 0 e≤maxLen:=grownCap_le_maxLen w xs.length 0 e (by simp only[maxLen];omega)
  obtain ⟨n1,n2,n3⟩:=newArr_sim S.drew (nb:=nb) (cap:=grownCap w xs.length 0 e) (es:=xs) (C0:=(Lib.strCells x).toArray++Builtin.zeroCells z.cells (grownCap w xs.length 0 e-xs.length)) hok hn
   (by
    have:(Lib.strCells x).length=xs.length*P.cellsOf e:=by rw[hnl,hxl,←h3,hsz1,Nat.mul_one]
    simp only[Array.size_append,List.size_toArray,size_zeroCells,h4,this,←Nat.add_mul];congr 1;omega) hge hcm
   (fun i' j y t' hy ht hj=>by
    obtain ⟨u,hu',hp⟩:=hel i' j y t' hy ht hj
    have hlt:=(List.getElem?_eq_some_iff.1 hu').1
    refine ⟨u,?_,Pure.drew hp⟩
    rw[Array.getElem?_append_left (by simpa using hlt)]
    simpa using hu')
  exact ⟨_,_,_,hrun,(Le.drew w I β hp).trans n1,n2,n3⟩
theorem appendStr_sim (S:Sim P w I β hp B M w0) {t u ty e:TypeId} {nb:Nat} {s:Value} {sv:V} {x:ByteArray} {r:R} {rd:List Nat} (hu:P.underlying t=some (.slice e)) (hus:P.underlying u=some .string) (he:P.underlying e=some (.int .u8)) (hs:VRel P w I β hp s sv)
  (h:(appendRd P nb e sv (.list e (x.data.toList.map byteV))).run C hp=some (r,rd)):ValOk P ((Builtin.append_ #[t,u] ty #[s,.string x]).run P w) w I β hp B M w0 r:=by
 unfold appendRd at h
 obtain ⟨hok,h⟩:=run_chk h
 simp only[elemsRd] at h
 obtain ⟨_,h⟩:=run_chk h
 have hna:isAggT P e=false:=by simp[isAggT,he]
 have hc1:P.cellsOf e=1:=by rw[←(okTy_len hok).1,flat_scalar hna];rfl
 obtain ⟨i,z,hi,hz,h3,h4,_⟩:=okTy_zero hok
 have hsz1:i.size=1:=by rw[h3,hc1]
 have hbp:=okTy_bytes hok
 have hbi:P.bytesOf e=i.bytes:=by simp[Program.bytesOf,hi]
 have hel0:=strV_el (P:=P) (w:=w) (I:=I) he hc1 x
 have hxl:(x.data.toList.map byteV).length=x.size:=by simp
 have hnl:(Lib.strCells x).length=x.size:=Lib.strCells_length x
 have h1:=Lib.strCells_oneCell x
 generalize hxs:x.data.toList.map byteV=xs at*
 cases sv with
 | nilS e'=>
  obtain ⟨hc,h⟩:=run_chk h
  simp only[Bool.and_eq_true,Nat.beq_eq,Nat.ble_eq] at hc
  obtain ⟨hn,rfl⟩:=newRd_run h
  obtain ⟨a0,rfl⟩: ∃a0,s= .slice a0 0 0:=by cases hs;exact ⟨_,rfl⟩
  obtain ⟨v,w',β',a1,a2,a3,a4⟩:=nilStr S hu hus hok hn hi hz h3 h4 hsz1 hbi hc.2 hxl hnl hel0 _
  exact ⟨v,w',I,β',a1,a2,a3,a4⟩
 | whole e' id=>
  obtain ⟨l,h⟩:=run_get h
  cases hid:hp id with
  | none=>rw[hid] at h;cases h
  | some blk=>
   rw[hid] at h
   cases blk with
   | dead=>cases h
   | var _=>cases h
   | nest _ _ _=>cases h
   | map _ _=>cases h
   | arr e'' es fz=>
    cases fz with
    | true=>cases h
    | false=>
     obtain ⟨hc,h⟩:=run_chk h
     obtain ⟨hn,rfl⟩:=newRd_run h
     simp only[Bool.and_eq_true,Nat.beq_eq,Nat.ble_eq] at hc
     obtain ⟨he1,he2,hby⟩:=hc
     subst he1
     subst he2
     have hne:nb≠id:=fun e=>by rw[e,hid] at hn;cases hn
     obtain ⟨k1,k2⟩:=kill_sim S hid
     have hn1:setN hp id (some Blk.dead) nb=none:=by rw[setN_ne _ _ hne];exact hn
     cases hs with
     | wholeDead hd=>rw[hid] at hd;cases hd
     | wholeN hd=>rw[hid] at hd;cases hd
     | wholeNil hd hb=>
      rw[hid] at hd
      cases hd
      simp only[List.length_nil,Nat.zero_add] at hby
      obtain ⟨v,w',β',a1,a2,a3,a4⟩:=nilStr k2 hu hus hok hn1 hi hz h3 h4 hsz1 hbi hby hxl hnl hel0 _
      exact ⟨v,w',I,β',a1,k1.trans a2,a3,a4⟩
     | @whole _ _ es' fz' b cap hd hb hsz hcap hm=>
      rw[hid] at hd
      cases hd
      have hr:=S.h.rel id _ hid
      cases hr with
      | arrNil hb'=>rw[hb'] at hb;cases hb
      | @arr _ _ _ b' Ca _ hb' hh hsA hf hnf hxA=>
       rw[hb] at hb'
       cases hb'
       have hlen:es.length+xs.length≤2^45:=by
        have:(es.length+xs.length)*1≤(es.length+xs.length)*P.bytesOf e:=Nat.mul_le_mul_left _ hbp
        simp only[maxBytes] at hby
        omega
       rw[bsize_cells hh] at hsz
       have hfree: ∀id' blk',setN hp id (some Blk.dead) id'=some blk'→¬Owns P w (β id') blk' b:=by
        intro id' blk' h1 h2
        by_cases hii:id'=id
        ·subst hii;rw[setN_same] at h1;cases h1;exact h2.alive rfl
        ·rw[setN_ne _ _ hii] at h1
         exact hii (S.h.inj id' id blk' _ b h1 hid h2 (.root (by simp) hb))
       have hMb:=S.h.own0 id _ b hid (by simp) hb
       have hb1:es.length*P.cellsOf e≤Ca.toList.length:=by simpa using hsA
       have hnl':(Lib.strCells x).length=xs.length*P.cellsOf e:=by rw[hnl,hxl,hc1,Nat.mul_one]
       by_cases hroom:es.length+xs.length≤cap
       ·have hfit:es.length*P.cellsOf e+(Lib.strCells x).length≤Ca.size:=by rw[hnl',←Nat.add_mul,←hsz];exact Nat.mul_le_mul_right _ hroom
        have hrun:=Lib.run_append_room_string (P:=P) w t u ty e i hu hus hi hsz1 b es.length cap Ca hh x (by rw[←hxl];exact hroom) (by rw[←hnl];rw[hc1,Nat.mul_one] at hfit;exact hfit)
        have hel:=append_elems (P:=P) (w:=w) (I:=I) (n:=es.length) (c:=Ca.toList) rfl (fun i j y t' a b c=>by
         obtain ⟨v,hv,hp⟩:=hxA i j y t' a b c
         exact ⟨v,by simpa using hv,hp⟩) hel0 hb1 (Ca.toList.drop (es.length*P.cellsOf e+(Lib.strCells x).length))
        generalize hC':(Ca.toList.take es.length++Lib.strCells x++Ca.toList.drop (es.length+x.size)).toArray=C' at hrun
        have hCs:C'.size=Ca.size:=by
         rw[hc1,Nat.mul_one] at hfit
         rw[←hC'];simp;omega
        have hCh:(w.setRow b C').heap[b]? =some (.cells C' e (0,0)):=setRow_heap w b Ca C' e _ hh
        obtain ⟨a1,a2⟩:=adopt_sim k2 (blk:= .arr e (es++xs) false) (w':=w.setRow b C') hn1 hfree (hnf rfl) (fun b' h _=>setRow_other w b b' _ h) (by simp) ⟨rfl,rfl⟩ hMb
         (fun b' h=>(Option.some.inj (h.flat (by simp))).symm) (fun hle=> .arr hok rfl hCh (by rw[hCs,←hsz];exact Nat.mul_le_mul_right _ (by simpa using hroom)) (fun h=>by cases h) (fun _=>hnf rfl) fun i j y t' a b c=>by
          obtain ⟨v,hv,hp⟩:=hel i j y t' a b c
          refine ⟨v,?_,hp.mono hle.imm hle.keep⟩
          rw[←hC',List.getElem?_toArray]
          rw[hc1] at hv⊢
          simpa[hnl] using hv)
        refine ⟨_,_,_,_,hrun,k1.trans a1,a2,?_⟩
        have a3:=VRel.whole (P:=P) (w:=w.setRow b C') (I:=I) (β:=setN β nb (some b)) (hp:=setN (setN hp id (some .dead)) nb (some (.arr e (es++xs) false))) (cap:=cap) (b:=b) (es:=es++xs) (fz:=false) (id:=nb) (e:=e) (setN_same _ _ _) (setN_same _ _ _) (by rw[bsize_cells hCh,hCs,hsz]) (by simpa using hroom) hm
        rw[List.length_append,hxl] at a3
        exact a3
       ·have hold: ∀(j:Nat) v,(Ca.toList.take (es.length*P.cellsOf e))[j]? =some v→w.cell? ((⟨b,0,none⟩:Addr).add j)=some v:=by
         intro j v hj
         have hjl:=(List.getElem?_eq_some_iff.1 hj).1
         have hj2:j<es.length*P.cellsOf e:=by rw[List.length_take] at hjl;omega
         rw[List.getElem?_take_of_lt hj2] at hj
         rw[add_none,cell?_cells hh,Nat.zero_add]
         simpa using hj
        have hrun:=Lib.run_append_grow_string (P:=P) w t u ty e i z hu hus hi hz ⟨b,0,none⟩ es.length cap (Ca.toList.take (es.length*P.cellsOf e)) (by rw[h3];simp;omega) hold x (by omega) (by omega)
         (growslice_fits (by omega) (by rw[←hbi,←hxl];simp only[maxBytes] at hby;omega))
        rw[←hxl] at hrun
        have hge:=grownCap_ge w (es.length+xs.length) cap e
        have hcm:grownCap w (es.length+xs.length) cap e≤maxLen:=grownCap_le_maxLen w _ cap e (by simp only[maxLen];omega)
        have hel:=append_elems (P:=P) (w:=w) (I:=I) (n:=es.length) (c:=Ca.toList) rfl (fun i j y t' a b c=>by
         obtain ⟨v,hv,hp⟩:=hxA i j y t' a b c
         exact ⟨v,by simpa using hv,hp⟩) hel0 hb1 (Builtin.zeroCells z.cells (grownCap w (es.length+xs.length) cap e-(es.length+xs.length))).toList
        obtain ⟨n1,n2,n3⟩:=newArr_sim k2.drew (nb:=nb) (cap:=grownCap w (es.length+xs.length) cap e) (es:=es++xs)
         (C0:=(Ca.toList.take (es.length*P.cellsOf e)).toArray++(Lib.strCells x).toArray++Builtin.zeroCells z.cells (grownCap w (es.length+xs.length) cap e-(es.length+xs.length))) hok hn1
         (by
          have e1:(Ca.toList.take (es.length*P.cellsOf e)).length=es.length*P.cellsOf e:=by simp;omega
          simp only[Array.size_append,List.size_toArray,size_zeroCells,h4,hnl',e1,←Nat.add_mul];congr 1;omega) (by simpa using hge) hcm
         (fun i j y t' a b c=>by
          obtain ⟨v,hv,hp⟩:=hel i j y t' a b c
          refine ⟨v,?_,Pure.drew hp⟩
          rw[←Array.getElem?_toList]
          simpa using hv)
        rw[List.length_append] at n3
        exact ⟨_,_,_,_,hrun,(k1.trans (Le.drew w I β _)).trans n1,n2,n3⟩
 | _=>cases h
end
end Go.AM
namespace Go.AM
section
variable {P:Program} {w w':World} {I I':Nat→Prop} {β β':Nat→Option Nat} {hp hp':Nat→Option Blk} {C:CallF} {B:Nat} {M:Nat→Prop} {w0:Start}
theorem pushes_toList: ∀(ns:List Int) (s:ByteArray),(ns.foldl (fun r n=>r.push (UInt8.ofNat n.toNat)) s).data.toList=s.data.toList++ns.map fun n=>UInt8.ofNat n.toNat
 | [],s=>by simp
 | n::ns,s=>by
  simp only[List.foldl_cons,pushes_toList ns,List.map_cons]
  simp[ByteArray.push]
theorem u8_inv {e:TypeId} {u:Value} {x:V} (he:P.underlying e=some (.int .u8)) (hp:Pure P w I e u x):u= .int .u8 x.toInt:=by
 cases hp with
 | int hp'=>rw[he] at hp';cases hp';rfl
 | bool hp'=>rw[he] at hp';cases hp'
 | str hp'=>rw[he] at hp';cases hp'
 | nil hp'=>rw[he] at hp';cases hp'
 | emp hp'=>rw[he] at hp';cases hp'
 | list _ hp'=>rw[he] at hp';cases hp'
theorem bytes_sim (S:Sim P w I β hp B M w0) {src dst e:TypeId} {v:Value} {x:V} {r:R} {rd:List Nat} (hs:P.underlying src=some (.slice e)) (he:P.underlying e=some (.int .u8)) (hd:P.underlying dst=some .string)
  (hv:VRel P w I β hp v x) (h:(Rd.chk (okTy P e) (elemsRd e x fun es=> .ret ⟨.str (bytesOfV es),[]⟩)).run C hp=some (r,rd)):ValOk P ((convert src dst v).run P w) w I β hp B M w0 r:=by
 obtain ⟨hok,h⟩:=run_chk h
 obtain ⟨xs,hx,l,h⟩:=elems_sim S.h.rel hok hv h
 obtain rfl:=run_ret' h
 have hna:isAggT P e=false:=by simp[isAggT,he]
 have h1:P.cellsOf e=1:=by rw[←(okTy_len hok).1,flat_scalar hna];rfl
 rcases hx with ⟨⟨a,rfl⟩,rfl⟩|⟨a,c,news,hr⟩
 ·refine .same S (v:= .string .empty) ?_ (.str (by simp[bytesOfV]))
  rw[run_convert_bytes_string w src dst e a 0 0 hs he hd]
  cases a<;>simp[Conv.bytesToString,loadCells,loadCellsFrom]
 ·have hnews:news=(xs.map V.toInt).map (Value.int .u8):=by
   apply List.ext_getElem?
   intro j
   by_cases hj:j<xs.length
   ·obtain ⟨u,hu,hp⟩:=hr.el j 0 xs[j] e (List.getElem?_eq_getElem hj) (by simp[etys,hna]) (by omega)
    rw[h1] at hu
    simp only[epart,hna,cond_false] at hp
    have hu':news[j]? =some u:=by simpa using hu
    rw[hu']
    have:=u8_inv he hp
    simp[hj,←this]
   ·have hl:news.length=xs.length:=by rw[hr.len,h1];simp
    rw[List.getElem?_eq_none (by omega),List.getElem?_eq_none (by simp;omega)]
  have hload:=run_loadCells_list (P:=P) w a news hr.cell
  have hl:news.length=xs.length:=by rw[hr.len,h1];simp
  rw[hl] at hload
  rw[hnews] at hload
  refine .same S (v:= .string ((xs.map V.toInt).foldl (fun r n=>r.push (UInt8.ofNat n.toNat)) ByteArray.empty)) ?_ (.str ?_)
  ·rw[hr.val,run_convert_bytes_string w src dst e _ _ _ hs he hd]
   exact run_bytesToString w a xs.length c (xs.map V.toInt) hload
  ·rw[pushes_toList]
   simp[bytesOfV]
theorem VRel.nilp_inv' {v:Value} (h:VRel P w I β hp v .nilp):v= .pointer none:=by cases h;rfl
section
variable (w:World)
theorem run_ptr_nil (t e:TypeId) (a:Addr) (h:P.underlying t=some (.pointer e)):(binOp .eql t (.pointer (some a)) (.pointer none)).run P w= .ok (.bool false) w:=by
 have h0: ∀d:Nat,(Op.equalIn (d+1) t (.pointer (some a)) (.pointer none)).run P w= .ok false w:=fun d=>by simp[Op.equalIn,run_underlying h]
 simp only[binOp]
 simp[Op.equal,Op.maxDepth,h0 9999]
theorem run_ptr_nil' (t e:TypeId) (a:Addr) (h:P.underlying t=some (.pointer e)):(binOp .neq t (.pointer (some a)) (.pointer none)).run P w= .ok (.bool (!false)) w:=by
 have h0: ∀d:Nat,(Op.equalIn (d+1) t (.pointer (some a)) (.pointer none)).run P w= .ok false w:=fun d=>by simp[Op.equalIn,run_underlying h]
 simp only[binOp]
 simp[Op.equal,Op.maxDepth,h0 9999]
theorem run_nil_ptr (t e:TypeId) (a:Addr) (h:P.underlying t=some (.pointer e)):(binOp .eql t (.pointer none) (.pointer (some a))).run P w= .ok (.bool false) w:=by
 have h0: ∀d:Nat,(Op.equalIn (d+1) t (.pointer none) (.pointer (some a))).run P w= .ok false w:=fun d=>by simp[Op.equalIn,run_underlying h]
 simp only[binOp]
 simp[Op.equal,Op.maxDepth,h0 9999]
theorem run_nil_ptr' (t e:TypeId) (a:Addr) (h:P.underlying t=some (.pointer e)):(binOp .neq t (.pointer none) (.pointer (some a))).run P w= .ok (.bool (!false)) w:=by
 have h0: ∀d:Nat,(Op.equalIn (d+1) t (.pointer none) (.pointer (some a))).run P w= .ok false w:=fun d=>by simp[Op.equalIn,run_underlying h]
 simp only[binOp]
 simp[Op.equal,Op.maxDepth,h0 9999]
theorem run_nil_nil (t e:TypeId) (h:P.underlying t=some (.pointer e)):(binOp .eql t (.pointer none) (.pointer none)).run P w= .ok (.bool true) w:=by
 have h0: ∀d:Nat,(Op.equalIn (d+1) t (.pointer none) (.pointer none)).run P w= .ok true w:=fun d=>by simp[Op.equalIn,run_underlying h]
 simp only[binOp]
 simp[Op.equal,Op.maxDepth,h0 9999]
theorem run_nil_nil' (t e:TypeId) (h:P.underlying t=some (.pointer e)):(binOp .neq t (.pointer none) (.pointer none)).run P w= .ok (.bool (!true)) w:=by
 have h0: ∀d:Nat,(Op.equalIn (d+1) t (.pointer none) (.pointer none)).run P w= .ok true w:=fun d=>by simp[Op.equalIn,run_underlying h]
 simp only[binOp]
 simp[Op.equal,Op.maxDepth,h0 9999]
end
theorem ptrEq_sim (S:Sim P w I β hp B M w0) {op:BinOp} {t:TypeId} {b:Bool} {x y:Operand} {v1 v2:Value} {r:R} {rd:List Nat} (h:(ptrEq P op t b).run C hp=some (r,rd)) (hg:(eqGuard op t x y v1 v2).run P w= .ok () w)
  (he: ∀e j,P.underlying t=some (.pointer e)→P.info? e=some j→(binOp .eql t v1 v2).run P w= .ok (.bool b) w∧(binOp .neq t v1 v2).run P w= .ok (.bool (!b)) w):
  ValOk P ((do eqGuard op t x y v1 v2;binOp op t v1 v2:Sem Value).run P w) w I β hp B M w0 r:=by
 unfold ptrEq at h
 cases hu:P.underlying t with
 | none=>rw[hu] at h;cases h
 | some d=>
  rw[hu] at h
  cases d<;>simp only at h<;>first|(cases h;done)|skip
  rename_i e
  obtain ⟨h1,h2⟩:=run_chk h
  obtain ⟨j,hj⟩:=Option.isSome_iff_exists.1 h1
  obtain ⟨k1,k2⟩:=he e j hu hj
  cases op<;>simp only at h2<;>first|(cases h2;done)|skip
  ·obtain rfl:=run_ret' h2
   exact .same S (by simp only[Sem.run_bind,hg,Result.andThen_ok,k1]) .bool
  ·obtain rfl:=run_ret' h2
   exact .same S (by simp only[Sem.run_bind,hg,Result.andThen_ok,k2]) .bool
theorem freeze_heap {b n:Nat}:(∀b',b'≠b→(w.freeze ⟨b,0,none⟩ n).heap[b']? =w.heap[b']?)∧bsize (w.freeze ⟨b,0,none⟩ n) b=bsize w b∧w.heap.size≤(w.freeze ⟨b,0,none⟩ n).heap.size∧(w.freeze ⟨b,0,none⟩ n).os=w.os∧(w.freeze ⟨b,0,none⟩ n).output=w.output:=by
 unfold World.freeze
 split
 ·exact ⟨fun _ _=>rfl,rfl,Nat.le_refl _,rfl,rfl⟩
 ·refine ⟨fun b' hb=> ?_,?_,by simp,rfl,rfl⟩
  ·simp only[Array.getElem?_modify]
   rw[if_neg (fun e=>hb e.symm)]
  ·simp only[bsize,Array.getElem?_modify,if_true]
   cases w.heap[b]? with
   | none=>rfl
   | some o=>cases o<;>rfl
theorem byte_of {e:TypeId} (hb:isByte P e=true):P.underlying e=some (.int .u8):=by
 unfold isByte at hb
 split at hb
 ·assumption
 ·cases hb
theorem slData_sim (S:Sim P w I β hp B M w0) {ts:Array TypeId} {ty e:TypeId} {v:Value} {id:Nat} {es:List V} {fz:Bool} (hv:VRel P w I β hp v (.whole e id)) (hid:hp id=some (.arr e es fz)) (h0:0<es.length):
  ValOk P ((Builtin.unsafeSliceData_ ts ty #[v]).run P w) w I β hp B M w0 ⟨.ptr id 0 0,[]⟩:=by
 cases hv with
 | wholeDead h=>rw[hid] at h;cases h
 | wholeNil h _=>rw[hid] at h;cases h;simp at h0
 | wholeN h _ _ _ _=>rw[hid] at h;cases h
 | @whole _ _ es' fz' b cap h hb hcap hle hm=>
  rw[hid] at h;cases h
  refine .same S (Lib.run_unsafeSliceData_row w ts ty ⟨b,0,none⟩ es.length cap (by omega)) ?_
  have:=VRel.ptr (P:=P) (w:=w) (I:=I) (β:=β) (i:=0) (c:=0) hid (by simp) hb
  simpa using this
theorem unsafeString_sim (S:Sim P w I β hp B M w0) {t u ty e:TypeId} {vx:Value} {id:Nat} {n:Int} {es:List V} (hu:P.underlying t=some (.pointer e)) (hb:isByte P e=true) (hv:VRel P w I β hp vx (.ptr id 0 0))
  (hid:hp id=some (.arr e es false)) (h0:0<n) (hn:n≤es.length) (hm:n.toNat≤maxStr) (hin:(es.take n.toNat).all inByte=true):ValOk P ((Builtin.unsafeString_ #[t,u] ty #[vx,.int .i64 n]).run P w) w I β hp B M w0 ⟨.str (bytesOfV (es.take n.toNat)),[(id,.dead)]⟩:=by
 obtain ⟨b,hbe,rfl⟩:=hv.ptr_inv hid (by simp)
 have he:P.underlying e=some (.int .u8):=by
  unfold isByte at hb
  split at hb
  ·assumption
  ·cases hb
 have hna:isAggT P e=false:=by simp[isAggT,he]
 have hr:=S.h.rel id _ hid
 rw[hbe] at hr
 cases hr with
 | arrNil hb'=>cases hb'
 | @arr _ _ _ b1 Ca hok hb1 hh hs hI hnI hel=>
  cases hb1
  have h1:P.cellsOf e=1:=by rw[←(okTy_len hok).1,flat_scalar hna];rfl
  have hlt:=S.block_lt hid (by simp) hbe
  have hl:(bytesOfV (es.take n.toNat)).length=n.toNat:=by simp[bytesOfV];omega
  have hn':n=((bytesOfV (es.take n.toNat)).length:Nat):=by rw[hl];omega
  have hrun:=Lib.run_unsafeString_row (P:=P) w t u ty e hu h1 b Ca.size (by simp[World.shape?,hh]) (bytesOfV (es.take n.toNat)) (fun h=>by rw[h] at hl;simp at hl;omega) (by rw[hl];rw[h1] at hs;omega) (by rw[hl];unfold maxStr at hm;omega) (fun j x hx=>by
   have hj:j<n.toNat:=by
    have:=(List.getElem?_eq_some_iff.1 hx).1
    rw[hl] at this;exact this
   have hje:j<es.length:=by omega
   simp only[bytesOfV,List.getElem?_map,List.getElem?_take_of_lt hj,List.getElem?_eq_getElem hje,Option.map_some,Option.some.injEq] at hx
   obtain ⟨v,hv1,hp1⟩:=hel j 0 es[j] e (List.getElem?_eq_getElem hje) (by simp[etys,hna]) (by omega)
   rw[h1] at hv1
   simp only[epart,hna,cond_false] at hp1
   have:=u8_inv he hp1
   have hr:=List.all_eq_true.1 hin es[j] (List.mem_of_getElem? (by rw[List.getElem?_take_of_lt hj];exact List.getElem?_eq_getElem hje))
   simp only[inByte,Bool.and_eq_true,decide_eq_true_eq] at hr
   have hx2:(x.toNat:Int)=es[j].toInt:=by
    rw[←hx]
    have:es[j].toInt.toNat<256:=by omega
    simp only[UInt8.toNat_ofNat']
    omega
   rw[add_none,cell?_cells hh,hx2]
   rw[show 0+j=j*1+0 by omega,hv1,this])
  obtain ⟨f1,f2,f3,f4,f5⟩:=freeze_heap (w:=w) (b:=b) (n:=n.toNat)
  obtain ⟨k1,k2⟩:=change_sim (w':=w.freeze ⟨b,0,none⟩ n.toNat) S hid (by simp) (blk':= .dead) (by trivial) hbe (hnI rfl) (by simp) f1 f2 f3 ⟨f4,f5⟩ (fun _=> .dead)
  rw[←hn',hl] at hrun
  refine ⟨.string ⟨(bytesOfV (es.take n.toNat)).toArray⟩,_,I,β,?_,k1,k2,.str ?_⟩
  ·simpa using hrun
  ·rfl
def isCall:Op→Bool
 | .call {callee:= .value (.func _),..}=>true
 | .call {callee:= .value (.tmp _),..}=>true
 | .defer _=>true
 | _=>false
theorem OpOk.val {o:Oper} {a:Act} {s:Sem Value} {r:R} (he:execOp a.eval o=(do Pure.pure (Next.value (←s)))) (h:ValOk P (s.run P w) w I β hp B M w0 r):OpOk P ((execOp a.eval o).run P w) w I β hp B M w0 r:=by
 rw[he];exact h.op
theorem op_sim {A:Ann} (S:Sim P w I β hp B M w0) (hg:GlobOk P A.glob w I) {a:Act} {sl:Nat→V} (hs:SRel P w I β hp a sl) {ix nb:Nat} {o:Oper} (hnc:isCall o.op=false) {r:R} {rd:List Nat}
  (h:(opRd P A sl ix nb o).run C hp=some (r,rd)):OpOk P ((execOp a.eval o).run P w) w I β hp B M w0 r:=by
 obtain ⟨dst,op,ty,pos,after,guard⟩:=o
 cases op<;>simp only[opRd] at h<;>first|(cases h;done)|skip
 case move x=>
  obtain rfl:=run_ret' h
  exact ⟨_,w,I,β,.inl (by simp[execOp]),Le.refl w I β hp,S,hs.ev hg ty x⟩
 case assign x=>
  obtain rfl:=run_ret' h
  exact ⟨_,w,I,β,.inl (by simp[execOp]),Le.refl w I β hp,S,hs.ev hg ty x⟩
 case pick c x y=>
  have hc:=hs.ev hg ty c
  cases hcv:evO P A.glob ty sl c<;>rw[hcv] at h hc<;>simp only at h<;>first|(cases h;done)|skip
  rename_i t
  have hcv2:=hc.bool_inv
  have hx:=hs.ev hg ty x
  have hy:=hs.ev hg ty y
  have fin: ∀z:V,VRel P w I β hp (if t then a.eval x else a.eval y) z→OpOk P ((execOp a.eval ⟨dst,.pick c x y,ty,pos,after,guard⟩).run P w) w I β hp B M w0 ⟨z,[]⟩:=by
   intro z hz
   exact ⟨_,w,I,β,.inl (by simp[execOp,hcv2,asBool]),Le.refl w I β hp,S,hz⟩
  cases hg1:gone (evO P A.glob ty sl x) with
  | true=>
   rw[hg1] at h
   obtain ⟨h1,h⟩:=run_chk h
   obtain rfl:=run_ret' h
   have:t=false:=by simpa using h1
   subst this
   refine fin _ ?_
   simpa using hy
  | false=>
   rw[hg1] at h
   simp only[cond_false] at h
   cases hg2:gone (evO P A.glob ty sl y) with
   | true=>
    rw[hg2] at h
    obtain ⟨h1,h⟩:=run_chk h
    obtain rfl:=run_ret' h
    subst h1
    refine fin _ ?_
    simpa using hx
   | false=>
    rw[hg2] at h
    obtain rfl:=run_ret' h
    exact fin _ (pickV_sim hx hy)
 case makeFunc fn x y=>
  cases fn<;>simp only[opRd] at h<;>first|(cases h;done)|skip
  rename_i f
  obtain rfl:=run_ret' h
  refine ⟨.func (.func f) (x.map a.eval) (y.map a.eval),w,I,β,.inl (by simp[execOp,Instr.makeFunc]),Le.refl w I β hp,S,.fn (by simp) (fun j v z hj hz=> ?_) (by simp) (fun j v z hj hz=> ?_)⟩
  ·rw[Array.getElem?_map] at hj
   rw[List.getElem?_map,Array.getElem?_toList] at hz
   cases hx:x[j]? with
   | none=>rw[hx] at hj;cases hj
   | some o1=>
    rw[hx] at hj hz
    cases hj
    cases hz
    exact hs.ev hg ty o1
  ·rw[Array.getElem?_map] at hj
   rw[List.getElem?_map,Array.getElem?_toList] at hz
   cases hx:y[j]? with
   | none=>rw[hx] at hj;cases hj
   | some o1=>
    rw[hx] at hj hz
    cases hj
    cases hz
    exact hs.ev hg ty o1
 case defer c=>cases hnc
 case makeMap t res=>
  cases res with
  | some x=>cases h
  | none=>exact .val rfl (makeMap_sim S h)
 case lookup t m k ok=>
  cases ht:mapTy P t with
  | none=>rw[ht] at h;cases h
  | some q=>
   obtain ⟨kt,vt⟩:=q
   rw[ht] at h
   exact .val (s:=Instr.lookup t (a.eval m) (a.eval k) ok) rfl (lookup_sim S ht (hs.ev hg t m) (hs.ev hg kt k) h)
 case mapUpdate t m k x=>
  cases ht:mapTy P t with
  | none=>rw[ht] at h;cases h
  | some q=>
   obtain ⟨kt,vt⟩:=q
   rw[ht] at h
   have:=mapPut_sim S ht (hs.ev hg t m) (hs.ev hg kt k) (hs.ev hg vt x) h
   exact this.op
 case insert t m k x=>
  cases ht:mapTy P t with
  | none=>rw[ht] at h;cases h
  | some q=>
   obtain ⟨kt,vt⟩:=q
   rw[ht] at h
   have:=mapPut_sim S ht (hs.ev hg t m) (hs.ev hg kt k) (hs.ev hg vt x) h
   exact this.op
 case alloc e=>
  exact .val rfl (alloc_op_sim S h)
 case box e x=>
  exact .val rfl (box_op_sim S (hs.ev hg e x) h)
 case build t ps=>exact .val rfl (build_op_sim S hs hg h)
 case buildSlice t len ps=>
  cases hu:P.underlying t with
  | none=>rw[hu] at h;cases h
  | some d=>
   rw[hu] at h
   cases d<;>simp only at h<;>first|(cases h;done)|skip
   exact .val rfl (buildSlice_op_sim S hs hg hu h)
 case load t x=>exact .val rfl (load_sim S (hs.ev hg ty x) h)
 case store t x y=>
  have:=store_sim S (hs.ev hg ty x) (hs.ev hg t y) h
  exact this.op
 case nilCheck x=>
  have hx:=hs.ev hg ty x
  cases hxv:evO P A.glob ty sl x<;>rw[hxv] at h hx<;>simp only at h<;>first|(cases h;done)|skip
  ·obtain ⟨⟨blk,hid,hd⟩,l,h⟩:=run_alive h
   obtain rfl:=run_ret' h
   have hx':=hx
   obtain ⟨b,hb,he⟩:=hx.ptr_inv hid hd
   rw[he] at hx'
   exact ⟨_,w,I,β,.inl (by simp only[execOp,he];rfl),Le.refl w I β hp,S,hx'⟩
  ·obtain rfl:=run_ret' h
   have hx':=hx
   obtain ⟨b,o,he,_⟩:=hx.pref_inv
   rw[he] at hx'
   exact ⟨_,w,I,β,.inl (by simp only[execOp,he];rfl),Le.refl w I β hp,S,hx'⟩
  ·obtain ⟨e0,es,vers,l,hid,h1,h2,h3,h⟩:=rowAt_run h
   obtain rfl:=run_ret' h
   have hx':=hx
   obtain ⟨b,o,he,_⟩:=hx.at_off hid h1 h2 h3
   rw[he] at hx'
   exact ⟨_,w,I,β,.inl (by simp only[execOp,he];rfl),Le.refl w I β hp,S,hx'⟩
 case binOp op t x y yt=>
  have hx:=hs.ev hg t x
  have hy:=hs.ev hg t y
  refine .val (s:=do eqGuard op t x y (a.eval x) (a.eval y);binOp op t (a.eval x) (a.eval y)) rfl ?_
  cases hxv:evO P A.glob t sl x<;>cases hyv:evO P A.glob t sl y<;>rw[hxv,hyv] at h<;>rw[hxv] at hx<;>rw[hyv] at hy<;>first|(simp only[binRd] at h;cases h;done)|skip
  ·rw[hx.int_inv,hy.int_inv]
   have:=bin_int_sim S h
   simpa[run_eqGuard_int] using this
  ·rw[hx.bool_inv,hy.bool_inv]
   have:=bin_bool_sim S h
   simpa[run_eqGuard_bool] using this
  ·obtain ⟨s1,e1,l1⟩:=hx.str_inv
   obtain ⟨s2,e2,l2⟩:=hy.str_inv
   rw[e1,e2]
   rw[←l1,←l2] at h
   have:=bin_str_sim (t:=t) S h
   simpa[run_eqGuard_str] using this
  ·obtain ⟨cs,e1,h1,h2⟩:=hx.agg_inv
   obtain ⟨ds,e2,h3,h4⟩:=hy.agg_inv
   rw[e1,e2]
   exact eqAgg_sim S h1 h3 h2 h4 h
  ·
   simp only[binRd] at h
   obtain ⟨h1,h2⟩:=run_chk h
   clear h
   simp only[Bool.and_eq_true,Nat.beq_eq] at h1
   obtain ⟨rfl,rfl,rfl⟩:=h1
   obtain ⟨⟨blk,hid,hd⟩,l,h⟩:=run_alive h2
   obtain ⟨b,hb,e1⟩:=hx.ptr_inv hid hd
   obtain ⟨b',hb',e2⟩:=hy.ptr_inv hid hd
   rw[hb] at hb';cases hb'
   rw[e1,e2]
   exact ptrEq_sim S h (by cases op<;>simp[eqGuard]) fun e j he hj=>⟨run_eql_ptr_same w _ he hj,Lib.run_neq_ptr_same w _ he hj⟩
  ·simp only[binRd] at h
   obtain ⟨⟨blk,hid,hd⟩,l,h⟩:=run_alive h
   obtain ⟨b,_,e1⟩:=hx.ptr_inv hid hd
   rw[e1,hy.nilp_inv']
   exact ptrEq_sim S h (by cases op<;>simp[eqGuard]) fun e j he hj=>⟨run_ptr_nil w t e _ he,run_ptr_nil' w t e _ he⟩
  ·simp only[binRd] at h
   obtain ⟨⟨blk,hid,hd⟩,l,h⟩:=run_alive h
   obtain ⟨b,_,e1⟩:=hy.ptr_inv hid hd
   rw[e1,hx.nilp_inv']
   exact ptrEq_sim S h (by cases op<;>simp[eqGuard]) fun e j he hj=>⟨run_nil_ptr w t e _ he,run_nil_ptr' w t e _ he⟩
  ·simp only[binRd] at h
   rw[hx.nilp_inv',hy.nilp_inv']
   exact ptrEq_sim S h (by cases op<;>simp[eqGuard]) fun e j he hj=>⟨run_nil_nil w t e he,run_nil_nil' w t e he⟩
  ·
   simp only[binRd] at h
   obtain ⟨l,h⟩:=run_get h
   split at h
   ·rename_i t2 es hid
    obtain ⟨b,hb⟩:=hx.mref_inv hid
    rw[hy.nilM_inv,hb]
    exact mapEq_sim (a:=some b) S x y h
   ·cases h
  ·simp only[binRd] at h
   rw[hx.nilM_inv,hy.nilM_inv]
   exact mapEq_sim (a:=none) S x y h
 case unOp op t x=>exact .val rfl (un_sim S (hs.ev hg ty x) h)
 case convert src dst x=>
  have hx:=hs.ev hg ty x
  refine .val (s:=convert src dst (a.eval x)) rfl ?_
  cases hs1:P.underlying src with
  | none=>rw[hs1] at h;cases h
  | some d1=>
   cases hs2:P.underlying dst with
   | none=>rw[hs1,hs2] at h;cases d1<;>cases h
   | some d2=>
    rw[hs1,hs2] at h
    have shp: ∀{b:Nat} {T:TypeId} {cs:List V} {id:Nat},hp id=some (.var T cs)→β id=some b→w.shape? b=some (T,cs.length):=by
     intro b T cs id hid hb
     have hr:=S.h.rel id _ hid
     rw[hb] at hr
     cases hr with
     | var hb' hh hsz _ _ _=>cases hb';simp[World.shape?,hh,hsz]
    cases d1<;>(try (cases d2<;>cases h;done))
    ·cases d2<;>(try (cases h;done))
     rename_i k1 k2
     cases hxv:evO P A.glob ty sl x<;>rw[hxv] at h hx<;>simp only at h<;>first|(cases h;done)|skip
     obtain rfl:=run_ret' h
     rw[hx.int_inv]
     exact .same S (by simp[convert,run_underlying hs1,run_underlying hs2,Conv.intToInt]) .int
    ·cases d2<;>(try (cases h;done))
     rename_i u
     cases hxv:evO P A.glob ty sl x<;>rw[hxv] at h hx<;>simp only at h<;>first|(cases h;done)|skip
     rename_i id i c
     obtain ⟨l,h1⟩:=run_get h
     cases hid:hp id with
     | none=>rw[hid] at h1;cases h1
     | some blk=>
      rw[hid] at h1
      cases blk<;>simp only at h1<;>first|(cases h1;done)|skip
      rename_i T cs
      obtain ⟨h2,h3⟩:=run_chk h1
      simp only[Bool.and_eq_true,Nat.beq_eq] at h2
      obtain ⟨rfl,h4,h5⟩:=h2
      obtain ⟨b,hb,e1⟩:=hx.ptr_inv hid (by simp)
      obtain rfl:=run_ret' h3
      obtain ⟨j,hj⟩:=Option.isSome_iff_exists.1 h4
      have hx':=hx
      rw[e1] at hx'⊢
      exact .same S (Lib.run_from_unsafe w _ hs1 hs2 hj (shp hid hb) (by simpa using h5)) hx'
    ·cases d2<;>(try (cases h;done))
     rename_i t
     cases hxv:evO P A.glob ty sl x<;>rw[hxv] at h hx<;>simp only at h<;>first|(cases h;done)|skip
     rename_i id i c
     obtain ⟨l,h1⟩:=run_get h
     cases hid:hp id with
     | none=>rw[hid] at h1;cases h1
     | some blk=>
      rw[hid] at h1
      cases blk<;>simp only at h1<;>first|(cases h1;done)|skip
      rename_i T cs
      obtain ⟨h2,h3⟩:=run_chk h1
      simp only[Bool.and_eq_true,Nat.beq_eq,Nat.blt_eq] at h2
      obtain ⟨rfl,h4,h5⟩:=h2
      obtain ⟨b,hb,e1⟩:=hx.ptr_inv hid (by simp)
      obtain rfl:=run_ret' h3
      cases hj:P.info? t with
      | none=>rw[hj] at h5;cases h5
      | some j=>
       rw[hj] at h5
       simp only[Bool.not_eq_true'] at h5
       have h6:j.size≠0:=fun e=>by rw[e] at h5;cases h5
       have hx':=hx
       rw[e1] at hx'⊢
       exact .same S (Lib.run_to_unsafe w _ hs1 hs2 hj h6 (shp hid hb) (by simpa using h4)) hx'
    ·rename_i e
     cases d2<;>(try (cases h;done))
     simp only at h
     cases he:P.underlying e with
     | none=>rw[he] at h;cases h
     | some d3=>
      rw[he] at h
      cases d3<;>(try (cases h;done))
      rename_i k
      cases k<;>(try (cases h;done))
      exact bytes_sim S hs1 he hs2 hx h
 case fieldAddr s x f=>exact .val rfl (fieldAddr_sim S (hs.ev hg ty x) h)
 case field s x f=>exact .val rfl (field_sim S (hs.ev hg ty x) h)
 case indexAddr t x y=>exact .val rfl (indexAddr_sim S (hs.ev hg ty x) (hs.ev hg 0 y) h)
 case index t x y=>
  have hx:=hs.ev hg ty x
  have hy:=hs.ev hg 0 y
  refine .val (s:=Instr.index t (a.eval x) (a.eval y)) rfl ?_
  cases hu:P.underlying t with
  | none=>rw[hu] at h;cases h
  | some d=>
   rw[hu] at h
   cases d<;>(try (cases h;done))
   cases hxv:evO P A.glob ty sl x<;>rw[hxv] at h hx<;>(try (cases h;done))
   cases hyv:evO P A.glob 0 sl y<;>rw[hyv] at h hy<;>(try (cases h;done))
   obtain ⟨s,e1,l1⟩:=hx.str_inv
   rw[e1,hy.int_inv]
   exact index_sim S hu l1 h
 case slice t x lo hi mx=>
  cases mx with
  | some m=>
   simp only at h
   refine .val (s:=Instr.sliceAt t (a.eval x) (lo.map a.eval) (hi.map a.eval) (some (a.eval m))) (by simp[execOp]) (slice3_sim S (hs.ev hg ty x) (fun hy=> ?_) (fun y hy=> ?_) (fun y hy=> ?_) h)
   ·cases lo with
    | none=>rfl
    | some l=>cases hy
   ·cases hi with
    | none=>cases hy
    | some l=>cases hy;exact ⟨_,rfl,hs.ev hg 0 l⟩
   ·cases hy;exact ⟨_,rfl,hs.ev hg 0 m⟩
  | none=>
   simp only at h
   have plain:(sliceRd P t (evO P A.glob ty sl x) (lo.map (evO P A.glob 0 sl)) (hi.map (evO P A.glob 0 sl))).run C hp=some (r,rd)→OpOk P ((execOp a.eval ⟨dst,.slice t x lo hi none,ty,pos,after,guard⟩).run P w) w I β hp B M w0 r:=by
    intro h
    refine .val (s:=Instr.sliceAt t (a.eval x) (lo.map a.eval) (hi.map a.eval) none) (by simp[execOp]) (slice_sim S (hs.ev hg ty x) (fun y hy=> ?_) (fun y hy=> ?_) (fun hy=> ?_) (fun hy=> ?_) h)
    ·cases lo with
     | none=>cases hy
     | some l=>cases hy;exact ⟨_,rfl,hs.ev hg 0 l⟩
    ·cases hi with
     | none=>cases hy
     | some l=>cases hy;exact ⟨_,rfl,hs.ev hg 0 l⟩
    ·cases lo with
     | none=>rfl
     | some l=>cases hy
    ·cases hi with
     | none=>rfl
     | some l=>cases hy
   have tr:(truncRd P nb t (evO P A.glob ty sl x) (lo.map (evO P A.glob 0 sl)) (hi.map (evO P A.glob 0 sl))).run C hp=some (r,rd)→OpOk P ((execOp a.eval ⟨dst,.slice t x lo hi none,ty,pos,after,guard⟩).run P w) w I β hp B M w0 r:=by
    intro h
    refine .val (s:=Instr.sliceAt t (a.eval x) (lo.map a.eval) (hi.map a.eval) none) (by simp[execOp]) (trunc_sim S (hs.ev hg ty x) (fun y hy=> ?_) (fun hy=> ?_) h)
    ·cases hi with
     | none=>cases hy
     | some l=>cases hy;exact ⟨_,rfl,hs.ev hg 0 l⟩
    ·cases lo with
     | none=>rfl
     | some l=>cases hy
   cases dst with
   | none=>exact plain h
   | some d=>
    simp only at h
    cases htr:memN A.nstNow d with
    | true=>rw[htr] at h;exact tr h
    | false=>rw[htr] at h;exact plain h
 case extract x i=>
  have hx:=hs.ev hg ty x
  cases hxv:evO P A.glob ty sl x<;>rw[hxv] at h hx<;>simp only at h<;>first|(cases h;done)|skip
  exact .val (s:=Instr.extract (a.eval x) i) rfl (extract_sim S hx h)
 case makeSlice t l c=>
  have hl:=hs.ev hg 0 l
  have hc:=hs.ev hg 0 c
  refine .val (s:=Instr.makeSlice t (a.eval l) (a.eval c)) rfl ?_
  cases hu:P.underlying t with
  | none=>rw[hu] at h;cases h
  | some d=>
   rw[hu] at h
   cases d<;>(try (cases h;done))
   cases hlv:evO P A.glob 0 sl l<;>rw[hlv] at h hl<;>(try (cases h;done))
   cases hcv:evO P A.glob 0 sl c<;>rw[hcv] at h hc<;>(try (cases h;done))
   rw[hl.int_inv,hc.int_inv]
   cases dst with
   | none=>exact makeSlice_op_sim S hu h
   | some d=>
    simp only at h
    cases hg:memN A.nstNow d with
    | true=>rw[hg] at h;exact makeNest_op_sim S hu h
    | false=>rw[hg] at h;exact makeSlice_op_sim S hu h
 case call c=>
  obtain ⟨callee,args,argTypes⟩:=c
  cases callee with
  | invoke r m=>cases h
  | value f=>
   cases f with
   | func f=>cases hnc
   | tmp f=>cases hnc
   | _=>cases h
  | builtin b=>
   have one: ∀{x:Operand},args.toList=[x]→args= #[x]:=fun h=>by rw[←Array.toArray_toList (xs:=args),h]
   have hexec: ∀(s:Array TypeId→TypeId→Array Value→Sem Value),builtin b argTypes ty (args.map fun| .const _=>true|_=>false) (args.map a.eval)=(do Pure.pure (Next.value (←s argTypes ty (args.map a.eval))))→
     execOp a.eval ⟨dst,.call ⟨.builtin b,args,argTypes⟩,ty,pos,after,guard⟩=(do Pure.pure (Next.value (←s argTypes ty (args.map a.eval)))):=by
    intro s hb
    simp only[execOp,resolve,pure_bind,invoke]
    exact hb
   cases b<;>(try (cases h;done))
   case append=>
    simp only at h
    cases ha:args.toList with
    | nil=>rw[ha] at h;cases h
    | cons x l=>
     cases l with
     | nil=>rw[ha] at h;cases h
     | cons y l2=>
      cases l2 with
      | cons _ _=>rw[ha] at h;cases h
      | nil=>
       cases hat:argTypes.toList with
       | nil=>rw[ha,hat] at h;cases h
       | cons t l3=>
        cases l3 with
        | nil=>rw[ha,hat] at h;cases h
        | cons u l4=>
         cases l4 with
         | cons _ _=>rw[ha,hat] at h;cases h
         | nil=>
          rw[ha,hat] at h
          simp only at h
          have e1:args= #[x,y]:=by rw[←Array.toArray_toList (xs:=args),ha]
          have e2:argTypes= #[t,u]:=by rw[←Array.toArray_toList (xs:=argTypes),hat]
          cases hu:P.underlying t with
          | none=>rw[hu] at h;cases h
          | some d=>
           rw[hu] at h
           cases d<;>(try (cases h;done))
           cases hc:Nat.beq t u with
           | true=>
            rw[hc] at h
            rw[Nat.beq_eq] at hc
            subst hc
            have:=append_sim (ty:=ty) S hu (hs.ev hg t x) (hs.ev hg t y) h
            refine .val (hexec Builtin.append_ rfl) ?_
            rw[e1,e2]
            simpa using this
           | false=>
            rw[hc] at h
            simp only[cond_false] at h
            have hy:=hs.ev hg u y
            cases hus:P.underlying u with
            | none=>rw[hus] at h;cases h
            | some du=>
             rw[hus] at h
             cases du<;>(try (cases h;done))
             cases hyv:evO P A.glob u sl y<;>rw[hyv] at h hy<;>(try (cases h;done))
             simp only at h
             obtain ⟨hb,h⟩:=run_chk h
             obtain ⟨s1,q1,q2⟩:=hy.str_inv
             subst q2
             have:=appendStr_sim (ty:=ty) S hu hus (byte_of hb) (hs.ev hg t x) h
             refine .val (hexec Builtin.append_ rfl) ?_
             rw[e1,e2]
             simpa[q1] using this
   case len=>
    simp only at h
    cases ha:args.toList with
    | nil=>rw[ha] at h;cases h
    | cons x l=>
     cases l with
     | cons _ _=>rw[ha] at h;cases h
     | nil=>
      cases hat:argTypes.toList with
      | nil=>rw[ha,hat] at h;cases h
      | cons t l3=>
       cases l3 with
       | cons _ _=>rw[ha,hat] at h;cases h
       | nil=>
        rw[ha,hat] at h
        simp only at h
        have e1:args= #[x]:=by rw[←Array.toArray_toList (xs:=args),ha]
        have e2:argTypes= #[t]:=by rw[←Array.toArray_toList (xs:=argTypes),hat]
        have hx:=hs.ev hg ty x
        refine .val (hexec Builtin.len_ rfl) ?_
        rw[e1,e2]
        cases hu:P.underlying t with
        | none=>rw[hu] at h;cases h
        | some d=>
         rw[hu] at h
         cases d<;>(try (cases h;done))
         ·cases hxv:evO P A.glob ty sl x<;>rw[hxv] at h hx<;>(try (cases h;done))
          have:=len_sim (t:=t) (ty:=ty) S hx (fun l hl=>hu) (fun hn=>absurd rfl (hn _)) h
          simpa using this
         ·have h2:(∀l,evO P A.glob ty sl x≠ .str l)∧(lenRd P (evO P A.glob ty sl x)).run C hp=some (r,rd):=by
           cases hxv:evO P A.glob ty sl x<;>rw[hxv] at h<;>first|(cases h;done)|exact ⟨fun l=>by simp,h⟩
          have:=len_sim (t:=t) (ty:=ty) S hx (fun l hl=>absurd hl (h2.1 l)) (fun _=>⟨_,hu⟩) h2.2
          simpa using this
         ·have h2:(mapLenRd (evO P A.glob ty sl x)).run C hp=some (r,rd):=by
           cases hxv:evO P A.glob ty sl x<;>rw[hxv] at h<;>exact h
          have:=mapLen_sim (t:=t) (ty:=ty) S hu hx h2
          simpa using this
   case unsafeSliceData=>
    simp only at h
    cases ha:args.toList with
    | nil=>rw[ha] at h;cases h
    | cons x l=>
     cases l with
     | cons _ _=>rw[ha] at h;cases h
     | nil=>
      rw[ha] at h
      simp only at h
      have e1:args= #[x]:=by rw[←Array.toArray_toList (xs:=args),ha]
      have hx:=hs.ev hg ty x
      refine .val (hexec Builtin.unsafeSliceData_ rfl) ?_
      rw[e1]
      cases hxv:evO P A.glob ty sl x<;>rw[hxv] at h hx<;>simp only at h<;>first|(cases h;done)|skip
      rename_i e id
      obtain ⟨l2,h1⟩:=run_get h
      cases hid:hp id with
      | none=>rw[hid] at h1;cases h1
      | some blk=>
       rw[hid] at h1
       cases blk<;>simp only at h1<;>first|(cases h1;done)|skip
       rename_i e' es fz
       obtain ⟨h2,h3⟩:=run_chk h1
       simp only[Bool.and_eq_true,Nat.beq_eq,Nat.blt_eq] at h2
       obtain ⟨rfl,h4⟩:=h2
       obtain rfl:=run_ret' h3
       have:=slData_sim (ts:=argTypes) (ty:=ty) S hx hid h4
       simpa using this
   case unsafeString=>
    simp only at h
    cases ha:args.toList with
    | nil=>rw[ha] at h;cases h
    | cons x l=>
     cases l with
     | nil=>rw[ha] at h;cases h
     | cons y l2=>
      cases l2 with
      | cons _ _=>rw[ha] at h;cases h
      | nil=>
       cases hat:argTypes.toList with
       | nil=>rw[ha,hat] at h;cases h
       | cons t l3=>
        cases l3 with
        | nil=>rw[ha,hat] at h;cases h
        | cons u l4=>
         cases l4 with
         | cons _ _=>rw[ha,hat] at h;cases h
         | nil=>
          rw[ha,hat] at h
          simp only at h
          have e1:args= #[x,y]:=by rw[←Array.toArray_toList (xs:=args),ha]
          have e2:argTypes= #[t,u]:=by rw[←Array.toArray_toList (xs:=argTypes),hat]
          have hx:=hs.ev hg ty x
          have hy:=hs.ev hg ty y
          cases hu:P.underlying t with
          | none=>rw[hu] at h;cases h
          | some d=>
           rw[hu] at h
           cases d<;>(try (cases h;done))
           rename_i e
           cases hxv:evO P A.glob ty sl x<;>rw[hxv] at h hx<;>(try (cases h;done))
           cases hyv:evO P A.glob ty sl y<;>rw[hyv] at h hy<;>(try (cases h;done))
           rename_i id i c k n
           cases k<;>(try (cases h;done))
           simp only at h
           obtain ⟨l2,h1⟩:=run_get h
           cases hid:hp id with
           | none=>rw[hid] at h1;cases h1
           | some blk=>
            rw[hid] at h1
            cases blk<;>simp only at h1<;>first|(cases h1;done)|skip
            rename_i e' es fz
            cases fz<;>simp only at h1<;>first|(cases h1;done)|skip
            obtain ⟨h2,h3⟩:=run_chk h1
            simp only[Bool.and_eq_true,Nat.beq_eq,Nat.ble_eq,decide_eq_true_eq] at h2
            obtain ⟨rfl,h4,rfl,rfl,h5,h6,h7,h8⟩:=h2
            obtain rfl:=run_ret' h3
            have:=unsafeString_sim (u:=u) (ty:=ty) S hu h4 hx hid h5 h6 h7 h8
            refine .val (hexec Builtin.unsafeString_ rfl) ?_
            rw[e1,e2]
            simpa[hy.int_inv] using this
   case copy=>
    simp only at h
    cases ha:args.toList with
    | nil=>rw[ha] at h;cases h
    | cons x l=>
     cases l with
     | nil=>rw[ha] at h;cases h
     | cons y l2=>
      cases l2 with
      | cons _ _=>rw[ha] at h;cases h
      | nil=>
       cases hat:argTypes.toList with
       | nil=>rw[ha,hat] at h;cases h
       | cons t l3=>
        cases l3 with
        | nil=>rw[ha,hat] at h;cases h
        | cons u l4=>
         cases l4 with
         | cons _ _=>rw[ha,hat] at h;cases h
         | nil=>
          rw[ha,hat] at h
          simp only at h
          have e1:args= #[x,y]:=by rw[←Array.toArray_toList (xs:=args),ha]
          have e2:argTypes= #[t,u]:=by rw[←Array.toArray_toList (xs:=argTypes),hat]
          cases hu:P.underlying t with
          | none=>rw[hu] at h;cases h
          | some d=>
           rw[hu] at h
           cases d<;>(try (cases h;done))
           have:=copy_sim (u:=u) (ty:=ty) S hu (hs.ev hg t x) (hs.ev hg u y) h
           refine .val (hexec Builtin.copy_ rfl) ?_
           rw[e1,e2]
           simpa using this
   case clear=>
    simp only at h
    cases ha:args.toList with
    | nil=>rw[ha] at h;cases h
    | cons x l=>
     cases l with
     | cons _ _=>rw[ha] at h;cases h
     | nil=>
      cases hat:argTypes.toList with
      | nil=>rw[ha,hat] at h;cases h
      | cons t l3=>
       cases l3 with
       | cons _ _=>rw[ha,hat] at h;cases h
       | nil=>
        rw[ha,hat] at h
        simp only at h
        have e1:args= #[x]:=by rw[←Array.toArray_toList (xs:=args),ha]
        have e2:argTypes= #[t]:=by rw[←Array.toArray_toList (xs:=argTypes),hat]
        cases hu:P.underlying t with
        | none=>rw[hu] at h;cases h
        | some d=>
         rw[hu] at h
         cases d<;>(try (cases h;done))
         have:=clear_sim (ty:=ty) S hu (hs.ev hg t x) h
         refine .val (hexec Builtin.clear_ rfl) ?_
         rw[e1,e2]
         simpa using this
   case max=>
    simp only at h
    cases ha:args.toList with
    | nil=>rw[ha] at h;cases h
    | cons x l=>
     rw[ha] at h
     simp only at h
     have:=minMax_sim S true (vs:=l.map a.eval) (xs:=l.map (evO P A.glob ty sl)) (hs.ev hg ty x) (by simp) (fun j u y hu hy=>by
      simp only[List.getElem?_map] at hu hy
      cases hl:l[j]? with
      | none=>rw[hl] at hu;cases hu
      | some z=>rw[hl] at hu hy;cases hu;cases hy;exact hs.ev hg ty z) h
     refine .val (hexec Builtin.max_ rfl) ?_
     simpa[Builtin.max_,ha] using this
   case min=>
    simp only at h
    cases ha:args.toList with
    | nil=>rw[ha] at h;cases h
    | cons x l=>
     rw[ha] at h
     simp only at h
     have:=minMax_sim S false (vs:=l.map a.eval) (xs:=l.map (evO P A.glob ty sl)) (hs.ev hg ty x) (by simp) (fun j u y hu hy=>by
      simp only[List.getElem?_map] at hu hy
      cases hl:l[j]? with
      | none=>rw[hl] at hu;cases hu
      | some z=>rw[hl] at hu hy;cases hu;cases hy;exact hs.ev hg ty z) h
     refine .val (hexec Builtin.min_ rfl) ?_
     simpa[Builtin.min_,ha] using this
end
end Go.AM
namespace Go.AM
section
variable {P:Program} {A:Ann} {w w':World} {I I' I2:Nat→Prop} {μ β β':Nat→Option Nat} {hp hp':Nat→Option Blk} {C:CallF} {B:Nat} {M:Nat→Prop} {w0:Start}
theorem natsBeq_eq: ∀{l m:List Nat},readL.natsBeq l m=true→l=m
 | [],[],_=>rfl
 | [],_::_,h=>by cases h
 | _::_,[],h=>by cases h
 | a::l,b::m,h=>by
  simp only[readL.natsBeq,Bool.and_eq_true,Nat.beq_eq] at h
  rw[h.1,natsBeq_eq h.2]
@[simp] theorem vNat_nat (n:Nat):vNat (natV n)=n:=by simp[vNat,natV,V.toInt]
theorem makePath_eq: ∀(path:List (Nat × Nat)) (rest:List V),makePath (path.map (·.2)) ((path.map fun p=>natV p.1)++rest)=path
 | [],_=>rfl
 | p::l,rest=>by
  simp only[List.map_cons,List.cons_append,makePath,V.nth,vNat_nat,List.drop_succ_cons,List.drop_zero,makePath_eq l rest]
theorem readL_make {l:LS} {x:V} {ds:List V} (h:readL l x=some ds):ds.length=l.size∧(l= .und∨∀rest,makeL l (ds++rest)=x):=by
 cases l with
 | und=>simp only[readL,Option.some.injEq] at h;subst h;exact ⟨rfl,.inl rfl⟩
 | int k=>
  cases x<;>simp only[readL] at h<;>first|(cases h;done)|skip
  rename_i k' n
  by_cases hk:k=k'
  ·subst hk
   simp only[decide_true,cond_true,Option.some.injEq] at h
   subst h
   exact ⟨rfl,.inr fun _=>rfl⟩
  ·simp[hk] at h
 | bool=>
  cases x<;>simp only[readL] at h<;>first|(cases h;done)|skip
  cases h
  exact ⟨rfl,.inr fun _=>rfl⟩
 | str=>
  cases x<;>simp only[readL] at h<;>first|(cases h;done)|skip
  cases h
  exact ⟨rfl,.inr fun _=>rfl⟩
 | list e=>
  cases x<;>simp only[readL] at h<;>first|(cases h;done)|skip
  rename_i e' es
  cases hb:Nat.beq e e' with
  | false=>rw[hb] at h;cases h
  | true=>
   rw[hb] at h
   rw[Nat.beq_eq] at hb
   subst hb
   cases h
   exact ⟨rfl,.inr fun _=>rfl⟩
 | whole e j=>
  cases x<;>simp only[readL] at h<;>first|(cases h;done)|skip
  rename_i e' id
  cases hb:(Nat.beq e e'&&Nat.beq j id) with
  | false=>rw[hb] at h;cases h
  | true=>
   rw[hb] at h
   simp only[Bool.and_eq_true,Nat.beq_eq] at hb
   obtain ⟨rfl,rfl⟩:=hb
   cases h
   exact ⟨rfl,.inr fun _=>rfl⟩
 | sub e j=>
  cases x<;>simp only[readL] at h<;>first|(cases h;done)|skip
  rename_i e' id o n
  cases hb:(Nat.beq e e'&&Nat.beq j id) with
  | false=>rw[hb] at h;cases h
  | true=>
   rw[hb] at h
   simp only[Bool.and_eq_true,Nat.beq_eq] at hb
   obtain ⟨rfl,rfl⟩:=hb
   cases h
   exact ⟨rfl,.inr fun _=>by simp[makeL,V.nth]⟩
 | ptr j=>
  cases x<;>simp only[readL] at h<;>first|(cases h;done)|skip
  rename_i id i c
  cases hb:(Nat.beq j id) with
  | false=>rw[hb] at h;cases h
  | true=>
   rw[hb] at h
   rw[Nat.beq_eq] at hb
   subst hb
   cases h
   exact ⟨rfl,.inr fun _=>by simp[makeL,V.nth]⟩
 | ptrC j i c=>
  cases x<;>simp only[readL] at h<;>first|(cases h;done)|skip
  rename_i id i' c'
  cases hb:(Nat.beq j id&&(Nat.beq i i'&&Nat.beq c c')) with
  | false=>rw[hb] at h;cases h
  | true=>
   rw[hb] at h
   simp only[Bool.and_eq_true,Nat.beq_eq] at hb
   obtain ⟨rfl,rfl,rfl⟩:=hb
   cases h
   exact ⟨rfl,.inr fun _=>rfl⟩
 | nilS e=>
  cases x<;>simp only[readL] at h<;>first|(cases h;done)|skip
  rename_i e'
  cases hb:Nat.beq e e' with
  | false=>rw[hb] at h;cases h
  | true=>
   rw[hb] at h
   rw[Nat.beq_eq] at hb
   subst hb
   cases h
   exact ⟨rfl,.inr fun _=>rfl⟩
 | nilp=>
  cases x<;>simp only[readL] at h<;>first|(cases h;done)|skip
  cases h
  exact ⟨rfl,.inr fun _=>rfl⟩
 | mref e j=>
  cases x<;>simp only[readL] at h<;>first|(cases h;done)|skip
  rename_i e' id
  cases hb:(Nat.beq e e'&&Nat.beq j id) with
  | false=>rw[hb] at h;cases h
  | true=>
   rw[hb] at h
   simp only[Bool.and_eq_true,Nat.beq_eq] at hb
   obtain ⟨rfl,rfl⟩:=hb
   cases h
   exact ⟨rfl,.inr fun _=>rfl⟩
 | nilM e=>
  cases x<;>simp only[readL] at h<;>first|(cases h;done)|skip
  rename_i e'
  cases hb:Nat.beq e e' with
  | false=>rw[hb] at h;cases h
  | true=>
   rw[hb] at h
   rw[Nat.beq_eq] at hb
   subst hb
   cases h
   exact ⟨rfl,.inr fun _=>rfl⟩
 | intC k n=>
  cases x<;>simp only[readL] at h<;>first|(cases h;done)|skip
  rename_i k' m
  cases hb:(decide (k=k')&&decide (m=n)) with
  | false=>rw[hb] at h;cases h
  | true=>
   rw[hb] at h
   simp only[Bool.and_eq_true,decide_eq_true_eq] at hb
   obtain ⟨rfl,rfl⟩:=hb
   cases h
   exact ⟨rfl,.inr fun _=>rfl⟩
 | row e j cs=>
  cases x<;>simp only[readL] at h<;>first|(cases h;done)|skip
  rename_i e' id ver path
  cases hb:(Nat.beq e e'&&(Nat.beq j id&&(Nat.beq ver 0&&readL.natsBeq cs (path.map (·.2))))) with
  | false=>rw[hb] at h;cases h
  | true=>
   rw[hb] at h
   simp only[Bool.and_eq_true,Nat.beq_eq] at hb
   obtain ⟨rfl,rfl,rfl,hcs⟩:=hb
   have:=natsBeq_eq hcs
   subst this
   cases h
   exact ⟨by simp[LS.size],.inr fun rest=>by simp only[makeL,makePath_eq]⟩
 | elt j cs c=>
  cases x<;>simp only[readL] at h<;>first|(cases h;done)|skip
  rename_i id ver path i c'
  cases hb:(Nat.beq j id&&(Nat.beq ver 0&&(Nat.beq c c'&&readL.natsBeq cs (path.map (·.2))))) with
  | false=>rw[hb] at h;cases h
  | true=>
   rw[hb] at h
   simp only[Bool.and_eq_true,Nat.beq_eq] at hb
   obtain ⟨rfl,rfl,rfl,hcs⟩:=hb
   have:=natsBeq_eq hcs
   subst this
   cases h
   exact ⟨by simp[LS.size],.inr fun rest=>by simp only[makeL,List.cons_append,V.nth,vNat_nat,List.drop_succ_cons,List.drop_zero,makePath_eq]⟩
def LS.below (n:Nat) (x:V):Prop:= ∀id∈refs0 x,id<n
def isLeaf:V→Prop
 | .agg _=>False
 | .tup _=>False
 | .fn .. =>False
 | .pref .. =>False
 | _=>True
theorem of_bif {c:Bool} {a d:List V} (h:(bif c then some a else none)=some d):c=true:=by
 cases c with
 | true=>rfl
 | false=>cases h
theorem readL_leaf {l:LS} {x:V} {ds:List V} {n:Nat} (h:readL l x=some ds) (hl:l≠ .und) (hok:l.ok n=true):isLeaf x∧LS.below n x:=by
 cases l<;>cases x<;>simp only[readL] at h<;>first|(cases h;done)|(exact absurd rfl hl)|skip
 all_goals refine ⟨trivial,fun id hid=> ?_⟩
 all_goals simp only[refs0,List.mem_singleton,List.not_mem_nil] at hid
 all_goals subst hid
 all_goals simp only[LS.ok,Nat.blt_eq] at hok
 all_goals
  have hb:=of_bif h
  simp only[Bool.and_eq_true,Nat.beq_eq] at hb
  omega
theorem VRel.leaf_sub {v:Value} {x:V} (h:VRel P w I β hp v x) (hx:isLeaf x) (hs: ∀id∈refs0 x,hp' id=hp id∧β' id=β id):VRel P w I β' hp' v x:=by
 have one: ∀{id},id∈refs0 x→hp' id=hp id∧β' id=β id:=fun h=>hs _ h
 cases h with
 | undef=>exact .undef
 | int=>exact .int
 | bool=>exact .bool
 | str h=>exact .str h
 | list h=>exact .list h
 | nilS=>exact .nilS
 | agg=>exact hx.elim
 | tup=>exact hx.elim
 | nilp=>exact .nilp
 | fn=>exact hx.elim
 | pref=>exact hx.elim
 | wholeDead h=>exact .wholeDead ((one (by simp[refs0])).1.trans h)
 | subDead h=>exact .subDead ((one (by simp[refs0])).1.trans h)
 | ptrDead h=>exact .ptrDead ((one (by simp[refs0])).1.trans h)
 | wholeNil h hb=>exact .wholeNil ((one (by simp[refs0])).1.trans h) ((one (by simp[refs0])).2.trans hb)
 | whole h hb a b c=>exact .whole ((one (by simp[refs0])).1.trans h) ((one (by simp[refs0])).2.trans hb) a b c
 | wholeN h hb a b c=>exact .wholeN ((one (by simp[refs0])).1.trans h) ((one (by simp[refs0])).2.trans hb) a b c
 | subNil h hb=>exact .subNil ((one (by simp[refs0])).1.trans h) ((one (by simp[refs0])).2.trans hb)
 | sub h hb a b c=>exact .sub ((one (by simp[refs0])).1.trans h) ((one (by simp[refs0])).2.trans hb) a b c
 | ptr h hd hb=>exact .ptr ((one (by simp[refs0])).1.trans h) hd ((one (by simp[refs0])).2.trans hb)
 | rowPast h hpa=>exact .rowPast ((one (by simp[refs0])).1.trans h) hpa
 | atPast h hpa=>exact .atPast ((one (by simp[refs0])).1.trans h) hpa
 | row h hb a b c d=>exact .row ((one (by simp[refs0])).1.trans h) ((one (by simp[refs0])).2.trans hb) a b c d
 | elt h hb a b c d e=>exact .elt ((one (by simp[refs0])).1.trans h) ((one (by simp[refs0])).2.trans hb) a b c d e
 | nilM=>exact .nilM
 | mrefDead h=>exact .mrefDead ((one (by simp[refs0])).1.trans h)
 | mref h hb=>exact .mref ((one (by simp[refs0])).1.trans h) ((one (by simp[refs0])).2.trans hb)
theorem drop_app {a b:List V} {n:Nat} (h:a.length=n):(a++b).drop n=b:=by subst h;simp
def Same (n:Nat) (β:Nat→Option Nat) (hp:Nat→Option Blk) (β':Nat→Option Nat) (hp':Nat→Option Blk):Prop:= ∀id,id<n→hp' id=hp id∧β' id=β id
theorem readL_sim {l:LS} {x:V} {ds:List V} {n:Nat} {v:Value} (h:readL l x=some ds) (hok:l.ok n=true) (hsame:Same n β hp β' hp') (hv:VRel P w I β hp v x) (rest:List V):
  VRel P w I β' hp' v (makeL l (ds++rest)):=by
 rcases (readL_make h).2 with e|e
 ·subst e;exact .undef
 ·rw[e rest]
  by_cases hu:l= .und
  ·subst hu
   have:x= .undef:=(e rest).symm
   subst this
   exact .undef
  ·obtain ⟨h1,h2⟩:=readL_leaf h hu hok
   exact hv.leaf_sub h1 fun id hid=>hsame id (h2 id hid)
theorem readLs_sim {n:Nat} (hsame:Same n β hp β' hp'): ∀{ls:List LS} {xs:List V} {ds:List V},readLs ls xs=some ds→ls.all (LS.ok n)=true→
  ds.length=lsSize ls∧(∀rest,(makeLs ls (ds++rest)).length=xs.length)∧
  ∀(rest:List V) (j:Nat) (v:Value) (y:V),(∀x,xs[j]? =some x→VRel P w I β hp v x)→(makeLs ls (ds++rest))[j]? =some y→VRel P w I β' hp' v y
 | [],[],ds,h,_=>by cases h;exact ⟨rfl,fun _=>rfl,fun rest j v y _ hy=>by simp[makeLs] at hy⟩
 | [],_::_,ds,h,_=>by cases h
 | _::_,[],ds,h,_=>by cases h
 | l::ls,x::xs,ds,h,hok=>by
  simp only[readLs] at h
  obtain ⟨a,h1,h⟩:=bind_some h
  obtain ⟨b,h2,h⟩:=bind_some h
  cases h
  simp only[List.all_cons,Bool.and_eq_true] at hok
  obtain ⟨i1,i2,i3⟩:=readLs_sim hsame h2 hok.2
  have hal:=(readL_make h1).1
  have hd: ∀rest,(a++b++rest).drop l.size=b++rest:=fun rest=>by rw[List.append_assoc];exact drop_app hal
  refine ⟨by simp only[List.length_append,lsSize];omega,fun rest=>by simp only[makeLs,List.length_cons,hd,i2],fun rest j v y hv hy=> ?_⟩
  simp only[makeLs,hd] at hy
  cases j with
  | zero=>
   simp at hy
   subst hy
   exact readL_sim h1 hok.1 hsame (hv x rfl) _
  | succ j=>exact i3 rest j v y (fun x hx=>hv x (by simpa using hx)) (by simpa using hy)
theorem readLs_plain: ∀{ls:List LS} {xs:List V} {ds:List V},readLs ls xs=some ds→ls.all LS.plain=true→ds.length=lsSize ls∧∀rest,makeLs ls (ds++rest)=xs
 | [],[],ds,h,_=>by cases h;exact ⟨rfl,fun _=>rfl⟩
 | [],_::_,ds,h,_=>by cases h
 | _::_,[],ds,h,_=>by cases h
 | l::ls,x::xs,ds,h,hok=>by
  simp only[readLs] at h
  obtain ⟨a,h1,h⟩:=bind_some h
  obtain ⟨b,h2,h⟩:=bind_some h
  cases h
  simp only[List.all_cons,Bool.and_eq_true] at hok
  obtain ⟨i1,i2⟩:=readLs_plain h2 hok.2
  obtain ⟨hal,hm⟩:=readL_make h1
  refine ⟨by simp only[List.length_append,lsSize];omega,fun rest=> ?_⟩
  simp only[makeLs]
  rw[show (a++b++rest).drop l.size=b++rest by rw[List.append_assoc];exact drop_app hal,i2,List.append_assoc]
  rcases hm with e|e
  ·subst e;cases hok.1
  ·rw[e]
theorem readV_sim {n:Nat} (hsame:Same n β hp β' hp') {s:VS} {x:V} {ds:List V} (h:readV s x=some ds) (hok:s.ok n=true):
  ds.length=s.size∧∀(rest:List V) (v:Value),VRel P w I β hp v x→VRel P w I β' hp' v (makeV s (ds++rest)):=by
 cases s with
 | one l=>exact ⟨(readL_make h).1,fun rest v hv=>readL_sim h hok hsame hv rest⟩
 | agg ls=>
  cases x<;>simp only[readV] at h<;>first|(cases h;done)|skip
  rename_i xs
  obtain ⟨i1,i2,i3⟩:=readLs_sim (P:=P) (w:=w) (I:=I) hsame h hok
  refine ⟨i1,fun rest v hv=> ?_⟩
  obtain ⟨cs,rfl,e1,e2⟩:=hv.agg_inv
  exact .agg (by rw[i2];exact e1) fun j v y hj hy=>i3 rest j v y (fun x hx=>e2 j v x hj hx) hy
 | tup ls=>
  cases x<;>simp only[readV] at h<;>first|(cases h;done)|skip
  rename_i xs
  obtain ⟨i1,i2,i3⟩:=readLs_sim (P:=P) (w:=w) (I:=I) hsame h hok
  refine ⟨i1,fun rest v hv=> ?_⟩
  obtain ⟨cs,rfl,e1,e2⟩:=hv.tup_inv
  exact .tup (by rw[i2];exact e1) fun j v y hj hy=>i3 rest j v y (fun x hx=>e2 j v x hj hx) hy
 | fn f a b=>
  cases x<;>simp only[readV] at h<;>first|(cases h;done)|skip
  rename_i f' xs ys
  cases hb:Nat.beq f f' with
  | false=>rw[hb] at h;cases h
  | true=>
   rw[hb] at h
   rw[Nat.beq_eq] at hb
   subst hb
   simp only[cond_true] at h
   obtain ⟨p,h1,h⟩:=bind_some h
   obtain ⟨q,h2,h⟩:=bind_some h
   cases h
   simp only[VS.ok,Bool.and_eq_true] at hok
   obtain ⟨i1,i2,i3⟩:=readLs_sim (P:=P) (w:=w) (I:=I) hsame h1 hok.1
   obtain ⟨j1,j2,j3⟩:=readLs_sim (P:=P) (w:=w) (I:=I) hsame h2 hok.2
   refine ⟨by simp only[List.length_append,VS.size];omega,fun rest v hv=> ?_⟩
   cases hv with
   | fn a1 a2 b1 b2=>
    simp only[makeV]
    rw[show (p++q++rest).drop (lsSize a)=q++rest by rw[List.append_assoc];exact drop_app i1,List.append_assoc]
    exact .fn (by rw[i2];exact a1) (fun j v y hj hy=>i3 _ j v y (fun x hx=>a2 j v x hj hx) hy) (by rw[j2];exact b1) (fun j v y hj hy=>j3 _ j v y (fun x hx=>b2 j v x hj hx) hy)
 | pref ts ls=>
  cases x<;>simp only[readV] at h<;>first|(cases h;done)|skip
  rename_i ts' xs
  cases hb:readL.natsBeq ts ts' with
  | false=>rw[hb] at h;cases h
  | true=>
   rw[hb] at h
   have:=natsBeq_eq hb
   subst this
   simp only[cond_true] at h
   refine ⟨?_,fun rest v hv=> ?_⟩
   ·exact (readLs_plain h hok).1
   ·simp only[makeV]
    rw[(readLs_plain h hok).2]
    cases hv with
    | pref hl hI hc=>exact .pref hl hI hc
theorem readVs_sim {n:Nat} (hsame:Same n β hp β' hp'): ∀{ls:List VS} {xs:List V} {ds:List V},readVs ls xs=some ds→ls.all (VS.ok n)=true→
  ds.length=vsSize ls∧(∀rest,(makeVs ls (ds++rest)).length=xs.length)∧
  ∀(rest:List V) (j:Nat) (v:Value) (y:V),(∀x,xs[j]? =some x→VRel P w I β hp v x)→(makeVs ls (ds++rest))[j]? =some y→VRel P w I β' hp' v y
 | [],[],ds,h,_=>by cases h;exact ⟨rfl,fun _=>rfl,fun rest j v y _ hy=>by simp[makeVs] at hy⟩
 | [],_::_,ds,h,_=>by cases h
 | _::_,[],ds,h,_=>by cases h
 | l::ls,x::xs,ds,h,hok=>by
  simp only[readVs] at h
  obtain ⟨a,h1,h⟩:=bind_some h
  obtain ⟨b,h2,h⟩:=bind_some h
  cases h
  simp only[List.all_cons,Bool.and_eq_true] at hok
  obtain ⟨i1,i2,i3⟩:=readVs_sim hsame h2 hok.2
  obtain ⟨hal,hv1⟩:=readV_sim (P:=P) (w:=w) (I:=I) hsame h1 hok.1
  have hd: ∀rest,(a++b++rest).drop l.size=b++rest:=fun rest=>by rw[List.append_assoc];exact drop_app hal
  refine ⟨by simp only[List.length_append,vsSize];omega,fun rest=>by simp only[makeVs,List.length_cons,hd,i2],fun rest j v y hv hy=> ?_⟩
  simp only[makeVs,hd] at hy
  cases j with
  | zero=>
   simp at hy
   subst hy
   exact hv1 _ v (hv x rfl)
  | succ j=>exact i3 rest j v y (fun x hx=>hv x (by simpa using hx)) (by simpa using hy)
end
end Go.AM
namespace Go.AM
section
variable {P:Program} {A:Ann} {w w':World} {I I' I2:Nat→Prop} {μ β β':Nat→Option Nat} {hp hp' hp0:Nat→Option Blk} {C:CallF} {B:Nat} {M:Nat→Prop} {w0:Start}
theorem hpOf_get: ∀{l:List Blk} {j:Nat},hpOf l j=l[j]?
 | [],j=>by simp[hpOf]
 | b::l,0=>rfl
 | b::l,j+1=>by simp only[hpOf,hpOf_get,List.getElem?_cons_succ]
theorem readSlots_sim {sl:Nat→V} {k:Nat} {y:V}: ∀{l:List (Nat × VS)} {ds:List V},readSlots sl l=some ds→(∀p∈l,∀d,readV p.2 (sl p.1)=some d→d.length=p.2.size)→
  ds.length=slotsSize l∧∀rest,lookupN (makeSlots l (ds++rest)) k=some y→∃s d rest',(k,s)∈l∧readV s (sl k)=some d∧y=makeV s (d++rest')
 | [],ds,h,_=>by cases h;exact ⟨rfl,fun rest h=>by cases h⟩
 | (q,s)::l,ds,h,hz=>by
  simp only[readSlots] at h
  obtain ⟨a,h1,h⟩:=bind_some h
  obtain ⟨b,h2,h⟩:=bind_some h
  cases h
  obtain ⟨i1,i2⟩:=readSlots_sim (k:=k) (y:=y) h2 fun p hp=>hz p (List.mem_cons_of_mem _ hp)
  have hal:=hz (q,s) (List.mem_cons_self ..) a h1
  refine ⟨by simp only[List.length_append,slotsSize];simp only at hal;omega,fun rest hl=> ?_⟩
  simp only[makeSlots,lookupN] at hl
  rw[show (a++b++rest).drop s.size=b++rest by rw[List.append_assoc];exact drop_app hal] at hl
  cases hb:Nat.beq k q with
  | true=>
   rw[hb] at hl
   rw[Nat.beq_eq] at hb
   subst hb
   cases hl
   exact ⟨s,a,b++rest,List.mem_cons_self ..,h1,by rw[List.append_assoc]⟩
  | false=>
   rw[hb] at hl
   obtain ⟨s',d,rest',m1,m2,m3⟩:=i2 rest hl
   exact ⟨s',d,rest',List.mem_cons_of_mem _ m1,m2,m3⟩
theorem bif_some {α:Type} {c:Bool} {x:Option α} {a:α} (h:(bif c then x else none)=some a):c=true∧x=some a:=by
 cases c with
 | true=>exact ⟨rfl,h⟩
 | false=>cases h
theorem readB_size {n:Nat} {b:BS} {o:Option Blk} {ds:List V} (h:readB b o=some ds) (hok:b.ok n=true):ds.length=b.size:=by
 cases b with
 | dead=>cases o<;>(cases h;rfl)
 | var T0 ls=>
  cases o with
  | none=>cases h
  | some blk=>
   cases blk<;>simp only[readB] at h<;>first|(cases h;done)|skip
   exact (readVs_sim (P:=default) (w:=default) (I:=fun _=>False) (β:=fun _=>none) (hp:=fun _=>none) (fun _ _=>⟨rfl,rfl⟩) (bif_some h).2 hok).1
 | arr e fz=>
  cases o with
  | none=>cases h
  | some blk=>
   cases blk<;>simp only[readB] at h<;>first|(cases h;done)|skip
   rw[of_bif h] at h
   cases h
   rfl
 | nest e=>
  cases o with
  | none=>cases h
  | some blk=>
   cases blk<;>simp only[readB] at h<;>first|(cases h;done)|skip
   rw[of_bif h] at h
   cases h
   rfl
 | map t=>
  cases o with
  | none=>cases h
  | some blk=>
   cases blk<;>simp only[readB] at h<;>first|(cases h;done)|skip
   rw[of_bif h] at h
   cases h
   rfl
theorem readBlks_sim {n:Nat}: ∀{l:List BS} {j:Nat} {ds:List V},readBlks hp j l=some ds→l.all (BS.ok n)=true→
  (∀rest,(makeBlks l (ds++rest)).length=l.length)∧∀(rest:List V) (i:Nat) (blk:Blk),(makeBlks l (ds++rest))[i]? =some blk→∃b d rest',l[i]? =some b∧b.ok n=true∧readB b (hp (j+i))=some d∧blk=makeB b (d++rest')
 | [],j,ds,h,_=>by cases h;exact ⟨fun _=>rfl,fun rest i blk hb=>by simp[makeBlks] at hb⟩
 | b::l,j,ds,h,hok=>by
  simp only[readBlks] at h
  obtain ⟨a,h1,h⟩:=bind_some h
  obtain ⟨c,h2,h⟩:=bind_some h
  cases h
  simp only[List.all_cons,Bool.and_eq_true] at hok
  obtain ⟨i1,i2⟩:=readBlks_sim h2 hok.2
  have hal:=readB_size h1 hok.1
  have hd: ∀rest,(a++c++rest).drop b.size=c++rest:=fun rest=>by rw[List.append_assoc];exact drop_app hal
  refine ⟨fun rest=>by simp only[makeBlks,List.length_cons,hd,i1],fun rest i blk hb=> ?_⟩
  simp only[makeBlks,hd] at hb
  cases i with
  | zero=>
   simp at hb
   exact ⟨b,a,c++rest,rfl,hok.1,h1,by rw[←hb]⟩
  | succ i=>
   obtain ⟨b',d,rest',m1,m2,m3,m4⟩:=i2 rest i blk (by simpa using hb)
   exact ⟨b',d,rest',by simpa using m1,m2,by rw[show j+(i+1)=j+1+i by omega];exact m3,m4⟩
theorem makeB_weak {n:Nat} {b:BS} {blk:Blk} {ds rest:List V} (h:readB b (some blk)=some ds) (hok:b.ok n=true):
  blk.le (makeB b (ds++rest))∧(makeB b (ds++rest)= .dead∨makeB b (ds++rest)=blk∨∃T ls cs,b= .var T ls∧blk= .var T cs∧readVs ls cs=some ds∧makeB b (ds++rest)= .var T (makeVs ls (ds++rest))):=by
 cases b with
 | dead=>exact ⟨by cases blk<;>trivial,.inl rfl⟩
 | var T0 ls=>
  cases blk<;>simp only[readB] at h<;>first|(cases h;done)|skip
  obtain ⟨hT,h0⟩:=bif_some h
  clear h
  rw[Nat.beq_eq] at hT
  subst hT
  exact ⟨rfl,.inr (.inr ⟨_,_,_,rfl,rfl,h0,rfl⟩)⟩
 | arr e fz=>
  cases blk<;>simp only[readB] at h<;>first|(cases h;done)|skip
  rename_i e' es fz'
  have hb:=of_bif h
  simp only[Bool.and_eq_true,Nat.beq_eq,beq_iff_eq] at hb
  obtain ⟨rfl,rfl⟩:=hb
  simp only[Nat.beq_refl,beq_self_eq_true,Bool.and_self,cond_true,Option.some.injEq] at h
  subst h
  exact ⟨⟨rfl,rfl⟩,.inr (.inl rfl)⟩
 | nest e=>
  cases blk<;>simp only[readB] at h<;>first|(cases h;done)|skip
  rename_i e' es vers
  have hb:=of_bif h
  simp only[Bool.and_eq_true,Nat.beq_eq] at hb
  obtain ⟨rfl,hv⟩:=hb
  have:=natsBeq_eq hv
  subst this
  simp only[Nat.beq_refl,Bool.true_and] at h
  cases h
  exact ⟨⟨rfl,rfl,rfl,fun _=>Nat.le_refl _⟩,.inr (.inl rfl)⟩
 | map t=>
  cases blk<;>simp only[readB] at h<;>first|(cases h;done)|skip
  rename_i t' es
  have hb:=of_bif h
  rw[Nat.beq_eq] at hb
  subst hb
  simp only[Nat.beq_refl,cond_true,Option.some.injEq] at h
  subst h
  exact ⟨rfl,.inr (.inl rfl)⟩
theorem ofSt_inv {m:Nat} {S:Shape} {st:St} {ds:List V} (h:ofSt m S st=some ds):
  S.ok=true∧m≤S.blks.length∧∃a b,readSlots st.sl S.slots=some a∧readBlks st.hp 0 S.blks=some b∧ds=a++b:=by
 unfold ofSt at h
 cases hc:(S.ok&&Nat.ble m S.blks.length) with
 | false=>rw[hc] at h;cases h
 | true=>
  rw[hc] at h
  simp only[cond_true] at h
  simp only[Bool.and_eq_true,Nat.ble_eq] at hc
  obtain ⟨a,h1,h⟩:=bind_some h
  obtain ⟨b,h2,h⟩:=bind_some h
  cases h
  exact ⟨hc.1,hc.2,a,b,h1,h2,rfl⟩
theorem reshape {m:Nat} {S:Shape} {st:St} {ds:List V} (h:ofSt m S st=some ds) (hS:Sim P w I β st.hp B M w0):
  Sim P w I β (toSt S ds).hp B M w0∧(∀(k:Nat) (v:Value),VRel P w I β st.hp v (st.sl k)→VRel P w I β (toSt S ds).hp v ((toSt S ds).sl k))∧
  (∀(μ:Nat→Option Nat) (hp0:Nat→Option Blk),(∀id blk,hp0 id=some blk→id<m)→Le P w0.w w0.I μ hp0 w I β st.hp→Le P w0.w w0.I μ hp0 w I β (toSt S ds).hp)∧
  ∀j blk',(toSt S ds).hp j=some blk'→blk'≠ .dead→∃blk,st.hp j=some blk∧blk.le blk'∧∀o b,Owns P w o blk' b→Owns P w o blk b:=by
 obtain ⟨hok,hm,a,b,h1,h2,rfl⟩:=ofSt_inv h
 unfold Shape.ok at hok
 rw[Bool.and_eq_true] at hok
 obtain ⟨hok1,hok2⟩:=hok
 have hsz: ∀p∈S.slots,∀d,readV p.2 (st.sl p.1)=some d→d.length=p.2.size:=fun p hp d hd=>
  (readV_sim (P:=P) (w:=w) (I:=I) (β:=β) (hp:=st.hp) (fun _ _=>⟨rfl,rfl⟩) hd (List.all_eq_true.1 hok1 p hp)).1
 have hal:a.length=slotsSize S.slots:=(readSlots_sim (k:=0) (y:= .undef) h1 hsz).1
 have hhp:(toSt S (a++b)).hp=hpOf (makeBlks S.blks (b++[])):=by
  simp only[toSt,mk,List.append_nil]
  rw[drop_app hal]
 obtain ⟨bl,bg⟩:=readBlks_sim h2 hok2
 have get: ∀j blk',(toSt S (a++b)).hp j=some blk'→j<S.blks.length∧∃bs d rest',bs.ok S.blks.length=true∧readB bs (st.hp j)=some d∧blk'=makeB bs (d++rest'):=by
  intro j blk' hj
  rw[hhp,hpOf_get] at hj
  obtain ⟨bs,d,rest',m1,m2,m3,m4⟩:=bg [] j blk' hj
  rw[Nat.zero_add] at m3
  exact ⟨(List.getElem?_eq_some_iff.1 m1).1,bs,d,rest',m2,m3,m4⟩
 have have': ∀j,j<S.blks.length→∃blk',(toSt S (a++b)).hp j=some blk':=by
  intro j hj
  rw[hhp,hpOf_get]
  exact ⟨_,List.getElem?_eq_getElem (by rw[bl];exact hj)⟩
 generalize hp2:(toSt S (a++b)).hp=hpN at*
 let hp1:Nat→Option Blk:=fun id=>if id<S.blks.length then hpN id else st.hp id
 have back: ∀j blk',hpN j=some blk'→blk'≠ .dead→∃blk,st.hp j=some blk∧blk.le blk'∧(blk'=blk∨∃T ls cs d rest',ls.all (VS.ok S.blks.length)=true∧blk= .var T cs∧readVs ls cs=some d∧blk'= .var T (makeVs ls (d++rest'))):=by
  intro j blk' hj hd
  obtain ⟨hjl,bs,d,rest',m1,m2,m3⟩:=get j blk' hj
  cases hst:st.hp j with
  | none=>
   rw[hst] at m2
   cases bs<;>simp only[readB] at m2<;>first|(cases m2;done)|skip
   exact absurd m3 hd
  | some blk=>
   rw[hst] at m2
   obtain ⟨n1,n2⟩:=makeB_weak (rest:=rest') m2 m1
   rw[←m3] at n1 n2
   refine ⟨blk,rfl,n1,?_⟩
   rcases n2 with e|e|⟨T,ls,cs,e1,e2,e3,e4⟩
   ·exact absurd e hd
   ·exact .inl e
   ·subst e1
    exact .inr ⟨T,ls,cs,d,rest',m1,e2,e3,e4⟩
 have le1: ∀j blk,st.hp j=some blk→j<S.blks.length→∃blk',hpN j=some blk'∧blk.le blk':=by
  intro j blk hj hjl
  obtain ⟨blk',hb'⟩:=have' j hjl
  refine ⟨blk',hb',?_⟩
  by_cases hd:blk'= .dead
  ·subst hd;cases blk<;>trivial
  ·obtain ⟨blk2,e1,e2,_⟩:=back j blk' hb' hd
   rw[hj] at e1;cases e1
   exact e2
 have nestEq: ∀j e es vers e' es' vers',st.hp j=some (.nest e es vers)→hpN j=some (.nest e' es' vers')→e'=e∧es'=es∧vers'=vers:=by
  intro j e es vers e' es' vers' hj hj'
  obtain ⟨blk,e1,_,e3⟩:=back j _ hj' (by simp)
  rw[hj] at e1;cases e1
  rcases e3 with e3|⟨_,_,_,_,_,_,e3,_⟩
  ·cases e3;exact ⟨rfl,rfl,rfl⟩
  ·cases e3
 have hle:Le P w I β st.hp w I β hp1:=by
  refine ⟨fun _ h=>h,fun _ _=>rfl,fun id blk hid=> ?_,fun _ _ _ _ _ _ _ _=>rfl,Le.row_keep (fun _ _ _ _ _ _=>rfl) fun id e es vers e' es' vers' hid hid'=> ?_⟩
  ·by_cases hl:id<S.blks.length
   ·obtain ⟨blk',e1,e2⟩:=le1 id blk hid hl
    exact ⟨blk',by simp only[hp1,if_pos hl];exact e1,e2,fun _=>rfl⟩
   ·exact ⟨blk,by simp only[hp1,if_neg hl];exact hid,Blk.le_refl _,fun _=>rfl⟩
  ·by_cases hl:id<S.blks.length
   ·simp only[hp1,if_pos hl] at hid'
    exact nestEq _ _ _ _ _ _ _ hid hid'
   ·simp only[hp1,if_neg hl] at hid'
    rw[hid] at hid';cases hid'
    exact ⟨rfl,rfl,rfl⟩
 have hsame:Same S.blks.length β hp1 β hpN:=fun id hid=>⟨by simp only[hp1,if_pos hid],rfl⟩
 have hown: ∀j blk' blk o b,hpN j=some blk'→st.hp j=some blk→Owns P w o blk' b→Owns P w o blk b:=by
  intro j blk' blk o b hj' hj ho
  obtain ⟨blk2,e1,_,e3⟩:=back j blk' hj' ho.alive
  rw[hj] at e1;cases e1
  rcases e3 with e3|⟨T,ls,cs,d,rest',_,e3,_,e5⟩
  ·subst e3;exact ho
  ·subst e3;subst e5
   exact .root (by simp) (ho.flat (by simp))
 refine ⟨⟨⟨fun j blk' hj=> ?_,fun j1 j2 b1 b2 b' e1 e2 o1 o2=> ?_,fun j blk b' hj ho=> ?_,hS.h.Ilt⟩,hS.keep,hS.size,hS.new,hS.io⟩,fun k v hv=> ?_,fun μ hp0 hlt hE=> ?_,fun j blk' hj hd=> ?_⟩
 ·by_cases hd:blk'= .dead
  ·subst hd;exact .dead
  ·obtain ⟨blk,e1,_,e3⟩:=back j blk' hj hd
   have hr:=hS.h.rel j blk e1
   generalize β j=o at hr
   rcases e3 with e3|⟨T0,ls,cs,d,rest',q1,e3,e4,e5⟩
   ·subst e3
    cases hr with
    | @var xs b' Ca T hb hh hs hnI hx hself=>
     obtain ⟨hjl,bs,d,rest',m1,m2,m3⟩:=get j _ hj
     rw[e1] at m2
     cases bs<;>simp only[readB] at m2<;>first|(cases m2;done)|skip
     ·rename_i T0 ls
      simp only[makeB] at m3
      obtain ⟨hT,m2⟩:=bif_some m2
      obtain ⟨i1,i2,i3⟩:=readVs_sim (P:=P) (w:=w) (I:=I) hsame m2 m1
      injection m3 with m4 m3
      rw[m3]
      exact .var hb hh (by rw[i2];exact hs) hnI (fun i v y hi hy=>i3 rest' i v y (fun x hx'=>(hx i v x hi hx').mono hle) hy) hself
     ·simp only[makeB] at m3
      cases m3
    | arrNil hb=>exact .arrNil hb
    | arr a1 a2 a3 a4 a5 a6 a7=>exact .arr a1 a2 a3 a4 a5 a6 a7
    | dead=>exact absurd rfl hd
    | nest a1 a2 a3=>exact .nest a1 a2 a3
    | map a1 a2 a3 a4 a5 a6 a7=>exact .map a1 a2 a3 a4 a5 a6 a7
   ·subst e3
    subst e5
    cases hr with
    | @var xs b' Ca T hb hh hs hnI hx hself=>
     obtain ⟨i1,i2,i3⟩:=readVs_sim (P:=P) (w:=w) (I:=I) hsame e4 q1
     exact .var hb hh (by rw[i2];exact hs) hnI (fun i v y hi hy=>i3 rest' i v y (fun x hx'=>(hx i v x hi hx').mono hle) hy) hself
 ·obtain ⟨c1,x1,_,_⟩:=back j1 b1 e1 o1.alive
  obtain ⟨c2,x2,_,_⟩:=back j2 b2 e2 o2.alive
  exact hS.h.inj j1 j2 c1 c2 b' x1 x2 (hown _ _ _ _ _ e1 x1 o1) (hown _ _ _ _ _ e2 x2 o2)
 ·obtain ⟨c1,x1,_,_⟩:=back j blk hj ho.alive
  exact hS.h.own j c1 b' x1 (hown _ _ _ _ _ hj x1 ho)
 ·change VRel P w I β hpN v (slOf (makeSlots S.slots (a++b)) k)
  unfold slOf
  cases hlk:lookupN (makeSlots S.slots (a++b)) k with
  | none=>exact .undef
  | some y=>
   obtain ⟨s,d,rest',n1,n2,n3⟩:=(readSlots_sim h1 hsz).2 b hlk
   simp only[Option.getD_some,n3]
   exact (readV_sim (P:=P) (w:=w) (I:=I) hsame n2 (List.all_eq_true.1 hok1 _ n1)).2 rest' v (hv.mono hle)
 ·have h3:=hE.trans hle
  refine ⟨h3.imm,h3.keep,fun id blk hid=> ?_,fun id blk blk' b' hid hid' hd hb=> ?_,fun id e es vers e' es' vers' b2 q i c t v e1 l hid hid'=> ?_⟩
  ·have hl:=hlt id blk hid
   obtain ⟨blk',k1,k2,k3⟩:=h3.blk id blk hid
   simp only[hp1,if_pos (show id<S.blks.length by omega)] at k1
   exact ⟨blk',k1,k2,k3⟩
  ·have hl:=hlt id blk hid
   exact h3.size id blk blk' b' hid (by simp only[hp1,if_pos (show id<S.blks.length by omega)];exact hid') hd hb
  ·have hl:=hlt id _ hid
   exact h3.row id e es vers e' es' vers' b2 q i c t v e1 l hid (by simp only[hp1,if_pos (show id<S.blks.length by omega)];exact hid')
 ·obtain ⟨blk,e1,e2,_⟩:=back j blk' hj hd
  exact ⟨blk,e1,e2,fun o b' ho=>hown _ _ _ _ _ hj e1 ho⟩
end
end Go.AM
namespace Go.AM
section
variable {P:Program} {A:Ann} {w w':World} {I I' I2:Nat→Prop} {μ β β':Nat→Option Nat} {hp hp' hp0:Nat→Option Blk} {C:CallF} {B:Nat} {M:Nat→Prop} {w0:Start}
inductive Lent (P:Program) (w:World) (β:Nat→Option Nat) (hp:Nat→Option Blk):Place→Option Nat→Blk→Prop
 | var {id:Nat} {T:TypeId} {cs cs0:List V}:hp id=some (.var T cs)→Lent P w β hp (.blk id) (β id) (.var T cs0)
 | arr {id:Nat} {e:TypeId} {es:List V}:hp id=some (.arr e es false)→Lent P w β hp (.blk id) (β id) (.arr e es false)
 | nest {id:Nat} {e:TypeId} {es:List V} {vers:List Nat}:hp id=some (.nest e es vers)→Lent P w β hp (.blk id) (β id) (.nest e es [0,0,0])
 | row {id ver b b':Nat} {path:Path} {e0 e':TypeId} {es l:List V} {vers:List Nat}:hp id=some (.nest e0 es vers)→β id=some b→At P w b e0 es path b' e' l→flatScalar P e'=true→
   0<path.length→path.length≤vers.length→verAt vers (path.length-1)=ver→0<l.length→Lent P w β hp (.row id ver path) (some b') (.arr e' l false)
 | map {id:Nat} {t:TypeId} {es:List V}:hp id=some (.map t es)→Lent P w β hp (.blk id) (β id) (.map t es)
def Agr (P:Program) (w:World) (β:Nat→Option Nat) (hp:Nat→Option Blk) (ρ:List Place) (μ:Nat→Option Nat) (hp0:Nat→Option Blk):Prop:=
 ∀j p,nthP ρ j=some p→∃blk,hp0 j=some blk∧Lent P w β hp p (μ j) blk
theorem nthP_app: ∀{l m:List Place} {j:Nat} {p:Place},nthP l j=some p→nthP (l++m) j=some p
 | [],m,j,p,h=>by cases h
 | a::l,m,0,p,h=>h
 | a::l,m,j+1,p,h=>nthP_app (l:=l) h
theorem nthP_get: ∀{l:List Place} {j:Nat},nthP l j=l[j]?
 | [],j=>by simp[nthP]
 | a::l,0=>rfl
 | a::l,j+1=>by simp only[nthP,nthP_get,List.getElem?_cons_succ]
structure Ext (P:Program) (w:World) (I:Nat→Prop) (β:Nat→Option Nat) (hp:Nat→Option Blk) (h h':Hand) (d:List V) (u:List (Nat × Blk)):Prop where
 ds:h'.ds=h.ds++d
 upd:h'.upd=h.upd++u
 frz: ∀q∈u,Frz hp q
 pl: ∃m,h'.pl=h.pl++m
 nodup:(h.pl.map Place.id).Nodup→(h'.pl.map Place.id).Nodup
theorem Ext.refl (h:Hand):Ext P w I β hp h h [] []:=⟨by simp,by simp,by simp,⟨[],by simp⟩,id⟩
theorem Ext.trans {h1 h2 h3:Hand} {d1 d2:List V} {u1 u2:List (Nat × Blk)} (a:Ext P w I β hp h1 h2 d1 u1) (b:Ext P w I β hp h2 h3 d2 u2):Ext P w I β hp h1 h3 (d1++d2) (u1++u2):=by
 obtain ⟨m1,e1⟩:=a.pl
 obtain ⟨m2,e2⟩:=b.pl
 exact ⟨by rw[b.ds,a.ds,List.append_assoc],by rw[b.upd,a.upd,List.append_assoc],fun q hq=>(List.mem_append.1 hq).elim (a.frz q) (b.frz q),⟨m1++m2,by rw[e2,e1,List.append_assoc]⟩,fun h=>b.nodup (a.nodup h)⟩
theorem Ext.look {h h':Hand} {d:List V} {u:List (Nat × Blk)} (a:Ext P w I β hp h h' d u) {j:Nat} {p:Place} (hj:nthP h.pl j=some p):nthP h'.pl j=some p:=by
 obtain ⟨m,e⟩:=a.pl
 rw[e]
 exact nthP_app hj
theorem Ext.leaf (h:Hand) (x:V):Ext P w I β hp h {h with ds:=h.ds++[x]} [x] []:=⟨rfl,by simp,by simp,⟨[],by simp⟩,id⟩
theorem unify_run {α:Type} {ρ:List Place} {j:Nat} {p:Place} {k:List Place→Rd α} {r:α} {rd:List Nat} (h:(unify ρ j p k).run C hp=some (r,rd)) (hb: ∃id,p= .blk id∨∃ver path,p= .row id ver path):
  ∃ρ',(k ρ').run C hp=some (r,rd)∧(∃m,ρ'=ρ++m)∧nthP ρ' j=some p∧((ρ.map Place.id).Nodup→(ρ'.map Place.id).Nodup):=by
 unfold unify at h
 cases hc:Nat.blt j ρ.length with
 | true=>
  rw[hc] at h
  obtain ⟨h1,h2⟩:=run_chk h
  refine ⟨ρ,h2,⟨[],by simp⟩,?_,id⟩
  unfold samePl at h1
  split at h1
  ·rename_i a b he
   rw[Nat.beq_eq] at h1
   subst h1
   exact he
  ·cases h1
 | false=>
  rw[hc] at h
  obtain ⟨h1,h2⟩:=run_chk h
  simp only[Bool.and_eq_true,Nat.beq_eq,Bool.not_eq_true'] at h1
  obtain ⟨rfl,h3⟩:=h1
  refine ⟨ρ++[p],h2,⟨[p],rfl⟩,?_,fun hn=> ?_⟩
  ·rw[nthP_get];simp
  ·rw[List.map_append,List.nodup_append]
   refine ⟨hn,by simp,fun a ha b hb=> ?_⟩
   simp only[List.map_cons,List.map_nil,List.mem_singleton] at hb
   subst hb
   intro e
   subst e
   rw[memN_of ha] at h3
   cases h3
theorem unify_ext {α:Type} {h:Hand} {j:Nat} {p:Place} {k:List Place→Rd α} {r:α} {rd:List Nat} (hr:(unify h.pl j p k).run C hp=some (r,rd)) (ds:List V):
  ∃ρ',(k ρ').run C hp=some (r,rd)∧nthP ρ' j=some p∧Ext P w I β hp h {h with pl:=ρ',ds:=h.ds++ds} ds []:=by
 obtain ⟨ρ',a,b,c,d⟩:=unify_run hr (by cases p with|blk id=>exact ⟨id,.inl rfl⟩|row id ver path=>exact ⟨id,.inr ⟨ver,path,rfl⟩⟩)
 exact ⟨ρ',a,c,⟨rfl,by simp,by simp,b,d⟩⟩
theorem lent_whole {o:Option Nat} {blk:Blk} {e:TypeId} {id j:Nat} {v:Value} (hv:VRel P w I β hp v (.whole e id)) (hl:Lent P w β hp (.blk id) o blk) (hj:hp0 j=some blk) (hμ:μ j=o):VRel P w I' μ hp0 v (.whole e j):=by
 cases hl with
 | var h=>
  cases hv with
  | wholeDead h2=>rw[h] at h2;cases h2
  | wholeNil h2=>rw[h] at h2;cases h2
  | whole h2=>rw[h] at h2;cases h2
  | wholeN h2=>rw[h] at h2;cases h2
 | arr h=>
  cases hv with
  | wholeDead h2=>rw[h] at h2;cases h2
  | wholeNil h2 hb=>rw[h] at h2;cases h2;exact .wholeNil hj (hμ.trans hb)
  | whole h2 hb a b c=>rw[h] at h2;cases h2;exact .whole hj (hμ.trans hb) a b c
  | wholeN h2=>rw[h] at h2;cases h2
 | nest h=>
  cases hv with
  | wholeDead h2=>rw[h] at h2;cases h2
  | wholeNil h2=>rw[h] at h2;cases h2
  | whole h2=>rw[h] at h2;cases h2
  | wholeN h2 hb a b c=>rw[h] at h2;cases h2;exact .wholeN hj (hμ.trans hb) a b c
 | map h=>
  cases hv with
  | wholeDead h2=>rw[h] at h2;cases h2
  | wholeNil h2=>rw[h] at h2;cases h2
  | whole h2=>rw[h] at h2;cases h2
  | wholeN h2=>rw[h] at h2;cases h2
theorem lent_map {o:Option Nat} {blk:Blk} {t:TypeId} {id j:Nat} {v:Value} (hv:VRel P w I β hp v (.mref t id)) (hl:Lent P w β hp (.blk id) o blk) (hj:hp0 j=some blk) (hμ:μ j=o):VRel P w I' μ hp0 v (.mref t j):=by
 cases hv with
 | mrefDead h2=>cases hl<;>(rename_i h;rw[h] at h2;cases h2)
 | mref h2 hb=>
  cases hl<;>(rename_i h;rw[h] at h2;cases h2)
  exact .mref hj (hμ.trans hb)
theorem lent_sub {o:Option Nat} {blk:Blk} {e:TypeId} {id off n j:Nat} {v:Value} (hv:VRel P w I β hp v (.sub e id off n)) (hl:Lent P w β hp (.blk id) o blk) (hj:hp0 j=some blk) (hμ:μ j=o):VRel P w I' μ hp0 v (.sub e j off n):=by
 cases hl with
 | var h=>
  cases hv with
  | subDead h2=>rw[h] at h2;cases h2
  | subNil h2=>rw[h] at h2;cases h2
  | sub h2=>rw[h] at h2;cases h2
 | arr h=>
  cases hv with
  | subDead h2=>rw[h] at h2;cases h2
  | subNil h2 hb=>rw[h] at h2;cases h2;exact .subNil hj (hμ.trans hb)
  | sub h2 hb a b c=>rw[h] at h2;cases h2;exact .sub hj (hμ.trans hb) a b c
 | nest h=>
  cases hv with
  | subDead h2=>rw[h] at h2;cases h2
  | subNil h2=>rw[h] at h2;cases h2
  | sub h2=>rw[h] at h2;cases h2
 | map h=>
  cases hv with
  | subDead h2=>rw[h] at h2;cases h2
  | subNil h2=>rw[h] at h2;cases h2
  | sub h2=>rw[h] at h2;cases h2
theorem lent_ptr {o:Option Nat} {blk:Blk} {id i c j:Nat} {v:Value} (hv:VRel P w I β hp v (.ptr id i c)) (hl:Lent P w β hp (.blk id) o blk) (hj:hp0 j=some blk) (hμ:μ j=o):VRel P w I' μ hp0 v (.ptr j i c):=by
 cases hl with
 | @var _ T0 cs cs0 h=>
  obtain ⟨b,hb,rfl⟩:=hv.ptr_inv h (by simp)
  exact VRel.ptr (blk:= .var T0 cs0) hj (by simp) (hμ.trans hb)
 | @arr _ e es h=>
  obtain ⟨b,hb,rfl⟩:=hv.ptr_inv h (by simp)
  exact VRel.ptr (blk:= .arr e es false) hj (by simp) (hμ.trans hb)
 | @nest _ e es vers h=>
  obtain ⟨b,hb,rfl⟩:=hv.ptr_inv h (by simp)
  exact VRel.ptr (blk:= .nest e es [0,0,0]) hj (by simp) (hμ.trans hb)
 | @map _ t es h=>
  obtain ⟨b,hb,rfl⟩:=hv.ptr_inv h (by simp)
  exact VRel.ptr (blk:= .map t es) hj (by simp) (hμ.trans hb)
theorem hrel_cell (hrel: ∀id blk,hp id=some blk→BlkRel P w I β hp (β id) blk) {id b i c:Nat} {e0 t:TypeId} {es l:List V} {vers:List Nat} {q:Path} {e:TypeId} {v:Value} (hid:hp id=some (.nest e0 es vers)) (hb:β id=some b)
  (ht:P.underlying t=some (.slice e)) (hc:CellAt P w b e0 es q i c t v (.list e l)) (hl:0<l.length): ∃b1 cap,v= .slice (some ⟨b1,0,none⟩) l.length cap∧cap*P.cellsOf e=bsize w b1∧l.length≤cap∧cap≤maxLen∧At P w b e0 es (q++[(i,c)]) b1 e l:=by
 obtain ⟨b2,e1,m,Ca,T,f,x,n1,n2,n3,n4,n5,n6⟩:=hc
 have hr:=hrel _ _ hid
 cases hr with
 | nest hb' hr hn=>
  rw[hb] at hb';cases hb'
  have hR:=hr _ _ _ _ n1
  obtain ⟨Ca',c1,c2,c3⟩:=hR.cells
  rw[n2] at c1
  cases c1
  have hclt:c<P.cellsOf e1:=by rw[←okTy_etys hR.ok];exact (List.getElem?_eq_some_iff.1 n4).1
  obtain ⟨v',d1,d2⟩:=c3 i c x t n3 n4 hclt
  rw[n6] at d1
  cases d1
  rw[n5] at d2
  generalize hy:V.list e l=y at d2
  cases d2 with
  | scal a p=>unfold scalarT at a;rw[ht] at a;cases a
  | emp hu ha=>cases hy;simp at hl
  | row hu hl0 hsz hcap hmx=>
   cases hy
   exact ⟨_,_,rfl,hsz,hcap,hmx,n1.snoc n2 n3 n4 ht n5 hl0 n6⟩
theorem lent_row (S:Sim P w I β hp B M w0) {o:Option Nat} {blk:Blk} {e:TypeId} {id ver j:Nat} {path:Path} {v:Value} (hv:VRel P w I β hp v (.row e id ver path)) (hl:Lent P w β hp (.row id ver path) o blk) (hj:hp0 j=some blk) (hμ:μ j=o):VRel P w I' μ hp0 v (.whole e j):=by
 cases hl with
 | row h hb ha hf h1 h2 h3 h4=>
  obtain ⟨b2,q,i,c,t,l2,rfl,hb2,ht,hc⟩:=hv.row_inv h h1 h2 h3
  rw[hb] at hb2;cases hb2
  obtain ⟨p1,p2⟩:=rowV_at ha
  have hc2:=hc
  obtain ⟨b3,e3,m3,Ca,T,f,x,n1,n2,n3,n4,n5,n6⟩:=hc2
  obtain ⟨q1,q2⟩:=rowV_snoc n1 n3 n4 ht n5
  rw[p1] at q1
  rw[p2] at q2
  cases q1
  cases q2
  obtain ⟨b1,cap,rfl,m1,m2,m4,m5⟩:=hrel_cell S.h.rel h hb ht hc h4
  have:=atFun ha m5
  subst this
  exact .whole hj hμ m1 m2 m4
where
 atFun {b b1 b2:Nat} {e e1 e2:TypeId} {es l l2:List V} {q:Path} (h:At P w b e es q b1 e1 l) (h2:At P w b e es q b2 e2 l2):b2=b1:=(h.fun h2).1
theorem handL_ok (S:Sim P w I β hp B M w0) {α:Type} {l:LS} {x:V} {h:Hand} {k:Hand→Rd α} {r:α} {rd:List Nat} {v:Value} (hr:(handL P l x h k).run C hp=some (r,rd)) (hv:VRel P w I β hp v x):
  ∃h' rd' d u,(k h').run C hp=some (r,rd')∧Ext P w I β hp h h' d u∧d.length=l.size∧
   ∀(I':Nat→Prop) (μ:Nat→Option Nat) (hp0:Nat→Option Blk),(∀b,I b→I' b)→(∀q∈u,∀b,Held P w β hp q.1 b→I' b)→∀ρ m,ρ=h'.pl++m→Agr P w β hp ρ μ hp0→∀rest,VRel P w I' μ hp0 v (makeL l (d++rest)):=by
 have plain: ∀{x':V} {rd1:List Nat},(k {h with ds:=h.ds++[x']}).run C hp=some (r,rd1)→l.size=1→(∀I' μ hp0 rest,VRel P w I' μ hp0 v (makeL l ([x']++rest)))→∃h' rd' d u,(k h').run C hp=some (r,rd')∧Ext P w I β hp h h' d u∧d.length=l.size∧
   ∀(I':Nat→Prop) (μ:Nat→Option Nat) (hp0:Nat→Option Blk),(∀b,I b→I' b)→(∀q∈u,∀b,Held P w β hp q.1 b→I' b)→∀ρ m,ρ=h'.pl++m→Agr P w β hp ρ μ hp0→∀rest,VRel P w I' μ hp0 v (makeL l (d++rest)):=
  fun hk hs hx=>⟨_,_,_,_,hk,Ext.leaf h _,hs.symm,fun I' μ hp0 _ _ _ _ _ _ rest=>hx I' μ hp0 rest⟩
 have none': ∀{rd1:List Nat},(k h).run C hp=some (r,rd1)→l.size=0→(∀I' μ hp0 rest,VRel P w I' μ hp0 v (makeL l rest))→∃h' rd' d u,(k h').run C hp=some (r,rd')∧Ext P w I β hp h h' d u∧d.length=l.size∧
   ∀(I':Nat→Prop) (μ:Nat→Option Nat) (hp0:Nat→Option Blk),(∀b,I b→I' b)→(∀q∈u,∀b,Held P w β hp q.1 b→I' b)→∀ρ m,ρ=h'.pl++m→Agr P w β hp ρ μ hp0→∀rest,VRel P w I' μ hp0 v (makeL l (d++rest)):=
  fun hk hs hx=>⟨_,_,_,_,hk,Ext.refl h,by simp[hs],fun I' μ hp0 _ _ _ _ _ _ rest=>hx I' μ hp0 rest⟩
 unfold handL at hr
 cases l with
 | und=>exact none' hr rfl fun _ _ _ _=> .undef
 | int kd=>
  cases x<;>simp only at hr<;>first|(cases hr;done)|skip
  obtain ⟨h1,h2⟩:=run_chk hr
  simp only[decide_eq_true_eq] at h1
  subst h1
  obtain rfl:=hv.int_inv
  exact plain h2 rfl fun _ _ _ _=> .int
 | bool=>
  cases x<;>simp only at hr<;>first|(cases hr;done)|skip
  obtain rfl:=hv.bool_inv
  exact plain hr rfl fun _ _ _ _=> .bool
 | str=>
  cases x<;>simp only at hr<;>first|(cases hr;done)|skip
  obtain ⟨s,rfl,hl⟩:=hv.str_inv
  exact plain hr rfl fun _ _ _ _=> .str hl
 | nilS e=>
  cases x<;>simp only at hr<;>first|(cases hr;done)|skip
  obtain ⟨h1,h2⟩:=run_chk hr
  cases hv with
  | nilS=>exact none' h2 rfl fun _ _ _ _=> .nilS
 | nilp=>
  cases x<;>simp only at hr<;>first|(cases hr;done)|skip
  cases hv with
  | nilp=>exact none' hr rfl fun _ _ _ _=> .nilp
 | row e j cs=>
  cases x<;>simp only at hr<;>first|(cases hr;done)|skip
  rename_i e' id ver path
  obtain ⟨e0,es,vers,l0,hid,p1,p2,p3,hr⟩:=rowAt_run hr
  obtain ⟨h1,h2⟩:=run_chk hr
  simp only[Bool.and_eq_true,Nat.beq_eq,Nat.ble_eq] at h1
  obtain ⟨rfl,hcs,hp3⟩:=h1
  have:=natsBeq_eq hcs
  subst this
  obtain ⟨ρ',a,b,c⟩:=unify_ext (P:=P) (w:=w) (I:=I) (β:=β) h2 (path.map fun p=>natV p.1)
  refine ⟨_,_,path.map fun p=>natV p.1,[],a,c,by simp[LS.size],fun I' μ hp0 i1 i2 ρ m hρ hag rest=> ?_⟩
  obtain ⟨blk,k1,k2⟩:=hag j _ (by rw[hρ];exact nthP_app b)
  obtain ⟨bb,q,i,cc,t,l,rfl,hb,ht,hc⟩:=hv.row_inv hid p1 p2 p3
  have hbl:blk= .nest e0 es [0,0,0]∧μ j=β id:=by
   generalize μ j=o at k2
   cases k2 with
   | var h=>rw[hid] at h;cases h
   | arr h=>rw[hid] at h;cases h
   | map h=>rw[hid] at h;cases h
   | nest h=>rw[hid] at h;cases h;exact ⟨rfl,rfl⟩
  obtain ⟨rfl,hμ⟩:=hbl
  simp only[makeL,makePath_eq]
  have hq:q.length<3:=by rw[List.length_append,List.length_singleton] at hp3;omega
  refine .row k1 (hμ.trans hb) (by simpa using hq) ?_ ht hc
  match q.length,hq with
  | 0,_=>rfl
  | 1,_=>rfl
  | 2,_=>rfl
 | elt j cs c=>cases hr
 | intC k n=>cases hr
 | nilM t=>
  cases x<;>simp only at hr<;>first|(cases hr;done)|skip
  obtain ⟨h1,h2⟩:=run_chk hr
  cases hv with
  | nilM=>exact none' h2 rfl fun _ _ _ _=> .nilM
 | mref t j=>
  cases x<;>simp only at hr<;>first|(cases hr;done)|skip
  rename_i t' id
  obtain ⟨h1,h2⟩:=run_chk hr
  rw[Nat.beq_eq] at h1
  subst h1
  obtain ⟨ρ',a,b,c⟩:=unify_ext (P:=P) (w:=w) (I:=I) (β:=β) h2 []
  refine ⟨_,_,[],[],a,by simpa using c,rfl,fun I' μ hp0 i1 i2 ρ m hρ hag rest=> ?_⟩
  obtain ⟨blk,k1,k2⟩:=hag j _ (by rw[hρ];exact nthP_app b)
  exact lent_map hv k2 k1 rfl
 | list e=>
  obtain ⟨⟨y,u⟩,l1,l2,h1,h2⟩:=run_bnd hr
  cases y<;>simp only at h2<;>first|(cases h2;done)|skip
  rename_i e' es
  obtain ⟨h3,h4⟩:=run_chk h2
  rw[Nat.beq_eq] at h3
  subst h3
  obtain ⟨p1,p2⟩:=pure1_sim S.h.rel h1 hv
  exact ⟨_,_,[.list e es],u,h4,⟨rfl,rfl,p1,⟨[],by simp⟩,id⟩,rfl,fun I' μ hp0 i1 i2 _ _ _ _ rest=> .list (p2 I' i1 i2)⟩
 | whole e j=>
  cases x<;>simp only at hr<;>first|(cases hr;done)|skip
  ·rename_i e' id
   obtain ⟨h1,h2⟩:=run_chk hr
   rw[Nat.beq_eq] at h1
   subst h1
   obtain ⟨ρ',a,b,c⟩:=unify_ext (P:=P) (w:=w) (I:=I) (β:=β) h2 []
   refine ⟨_,_,[],[],a,by simpa using c,rfl,fun I' μ hp0 i1 i2 ρ m hρ hag rest=> ?_⟩
   obtain ⟨blk,k1,k2⟩:=hag j _ (by rw[hρ];exact nthP_app b)
   exact lent_whole hv k2 k1 rfl
  ·rename_i e' id ver path
   obtain ⟨h1,h2⟩:=run_chk hr
   rw[Nat.beq_eq] at h1
   subst h1
   obtain ⟨ρ',a,b,c⟩:=unify_ext (P:=P) (w:=w) (I:=I) (β:=β) h2 []
   refine ⟨_,_,[],[],a,by simpa using c,rfl,fun I' μ hp0 i1 i2 ρ m hρ hag rest=> ?_⟩
   obtain ⟨blk,k1,k2⟩:=hag j _ (by rw[hρ];exact nthP_app b)
   exact lent_row S hv k2 k1 rfl
 | sub e j=>
  cases x<;>simp only at hr<;>first|(cases hr;done)|skip
  rename_i e' id o n
  obtain ⟨h1,h2⟩:=run_chk hr
  rw[Nat.beq_eq] at h1
  subst h1
  obtain ⟨ρ',a,b,c⟩:=unify_ext (P:=P) (w:=w) (I:=I) (β:=β) h2 [natV o,natV n]
  refine ⟨_,_,[natV o,natV n],[],a,c,rfl,fun I' μ hp0 i1 i2 ρ m hρ hag rest=> ?_⟩
  obtain ⟨blk,k1,k2⟩:=hag j _ (by rw[hρ];exact nthP_app b)
  simpa[makeL,V.nth] using lent_sub (I':=I') hv k2 k1 rfl
 | ptr j=>
  cases x<;>simp only at hr<;>first|(cases hr;done)|skip
  rename_i id i c
  obtain ⟨ρ',a,b,c'⟩:=unify_ext (P:=P) (w:=w) (I:=I) (β:=β) hr [natV i,natV c]
  refine ⟨_,_,[natV i,natV c],[],a,c',rfl,fun I' μ hp0 i1 i2 ρ m hρ hag rest=> ?_⟩
  obtain ⟨blk,k1,k2⟩:=hag j _ (by rw[hρ];exact nthP_app b)
  simpa[makeL,V.nth] using lent_ptr (I':=I') hv k2 k1 rfl
 | ptrC j i c=>
  cases x<;>simp only at hr<;>first|(cases hr;done)|skip
  rename_i id i' c'
  obtain ⟨h1,h2⟩:=run_chk hr
  simp only[Bool.and_eq_true,Nat.beq_eq] at h1
  obtain ⟨rfl,rfl⟩:=h1
  obtain ⟨ρ',a,b,c'⟩:=unify_ext (P:=P) (w:=w) (I:=I) (β:=β) h2 []
  refine ⟨_,_,[],[],a,by simpa using c',rfl,fun I' μ hp0 i1 i2 ρ m hρ hag rest=> ?_⟩
  obtain ⟨blk,k1,k2⟩:=hag j _ (by rw[hρ];exact nthP_app b)
  exact lent_ptr hv k2 k1 rfl
end
end Go.AM
namespace Go.AM
section
variable {P:Program} {A:Ann} {w w':World} {I I' I2:Nat→Prop} {μ β β':Nat→Option Nat} {hp hp' hp0:Nat→Option Blk} {C:CallF} {B:Nat} {M:Nat→Prop} {w0:Start}
def Then (P:Program) (w:World) (I:Nat→Prop) (β:Nat→Option Nat) (hp:Nat→Option Blk) (h':Hand) (u:List (Nat × Blk)) (K:(Nat→Prop)→(Nat→Option Nat)→(Nat→Option Blk)→Prop):Prop:=
 ∀(I':Nat→Prop) (μ:Nat→Option Nat) (hp0:Nat→Option Blk),(∀b,I b→I' b)→(∀q∈u,∀b,Held P w β hp q.1 b→I' b)→∀ρ m,ρ=h'.pl++m→Agr P w β hp ρ μ hp0→K I' μ hp0
theorem Then.later {h h':Hand} {d:List V} {u u':List (Nat × Blk)} {K:(Nat→Prop)→(Nat→Option Nat)→(Nat→Option Blk)→Prop} (t:Then P w I β hp h u K) (e:Ext P w I β hp h h' d u'):Then P w I β hp h' (u++u') K:=by
 obtain ⟨m1,e1⟩:=e.pl
 exact fun I' μ hp0 i1 i2 ρ m hρ hag=>t I' μ hp0 i1 (fun q hq=>i2 q (List.mem_append.2 (.inl hq))) ρ (m1++m) (by rw[hρ,e1,List.append_assoc]) hag
theorem Then.more {h:Hand} {u u':List (Nat × Blk)} {K:(Nat→Prop)→(Nat→Option Nat)→(Nat→Option Blk)→Prop} (t:Then P w I β hp h u K):Then P w I β hp h (u'++u) K:=
 fun I' μ hp0 i1 i2 ρ m hρ hag=>t I' μ hp0 i1 (fun q hq=>i2 q (List.mem_append.2 (.inr hq))) ρ m hρ hag
theorem handLs_ok (S:Sim P w I β hp B M w0) {α:Type}: ∀{ls:List LS} {xs:List V} {h:Hand} {k:Hand→Rd α} {r:α} {rd:List Nat} {vs:List Value},(handLs P ls xs h k).run C hp=some (r,rd)→vs.length=xs.length→
  (∀(j:Nat) v x,vs[j]? =some v→xs[j]? =some x→VRel P w I β hp v x)→
  ∃h' rd' d u,(k h').run C hp=some (r,rd')∧Ext P w I β hp h h' d u∧d.length=lsSize ls∧ls.length=xs.length∧
   Then P w I β hp h' u fun I' μ hp0=> ∀rest,(makeLs ls (d++rest)).length=xs.length∧∀(j:Nat) v y,vs[j]? =some v→(makeLs ls (d++rest))[j]? =some y→VRel P w I' μ hp0 v y
 | [],[],h,k,r,rd,vs,hr,hl,hv=>⟨h,rd,[],[],hr,Ext.refl h,rfl,rfl,fun I' μ hp0 _ _ _ _ _ _ rest=>⟨rfl,fun j v y _ hy=>by simp[makeLs] at hy⟩⟩
 | [],_::_,h,k,r,rd,vs,hr,hl,hv=>by cases hr
 | _::_,[],h,k,r,rd,vs,hr,hl,hv=>by cases hr
 | l::ls,x::xs,h,k,r,rd,vs,hr,hl,hv=>by
  cases vs with
  | nil=>simp at hl
  | cons v vs=>
   simp only[handLs] at hr
   obtain ⟨h1,rd1,d1,u1,a1,a2,a3,a4⟩:=handL_ok S hr (hv 0 v x rfl rfl)
   obtain ⟨h2,rd2,d2,u2,b1,b2,b3,b5,b4⟩:=handLs_ok S a1 (by simpa using hl) (vs:=vs) (fun j v x hj hx=>hv (j+1) v x (by simpa using hj) (by simpa using hx))
   have a4':Then P w I β hp h1 u1 fun I' μ hp0=> ∀rest,VRel P w I' μ hp0 v (makeL l (d1++rest)):=a4
   refine ⟨h2,rd2,d1++d2,u1++u2,b1,a2.trans b2,by simp only[List.length_append,lsSize];omega,by simp[b5],fun I' μ hp0 i1 i2 ρ m hρ hag rest=> ?_⟩
   have k1:=(a4'.later b2) I' μ hp0 i1 i2 ρ m hρ hag (d2++rest)
   obtain ⟨k2,k3⟩:=b4.more I' μ hp0 i1 i2 ρ m hρ hag rest
   simp only[makeLs]
   rw[show (d1++d2++rest).drop l.size=d2++rest by rw[List.append_assoc];exact drop_app a3,List.append_assoc]
   refine ⟨by simp[k2],fun j v' y hj hy=> ?_⟩
   cases j with
   | zero=>simp at hj hy;subst hj;subst hy;exact k1
   | succ j=>exact k3 j v' y (by simpa using hj) (by simpa using hy)
theorem handV_ok (S:Sim P w I β hp B M w0) {α:Type} {s:VS} {x:V} {h:Hand} {k:Hand→Rd α} {r:α} {rd:List Nat} {v:Value} (hr:(handV P s x h k).run C hp=some (r,rd)) (hv:VRel P w I β hp v x):
  ∃h' rd' d u,(k h').run C hp=some (r,rd')∧Ext P w I β hp h h' d u∧d.length=s.size∧
   Then P w I β hp h' u fun I' μ hp0=> ∀rest,VRel P w I' μ hp0 v (makeV s (d++rest)):=by
 cases s with
 | one l=>
  simp only[handV] at hr
  obtain ⟨h1,rd1,d1,u1,a1,a2,a3,a4⟩:=handL_ok S hr hv
  exact ⟨h1,rd1,d1,u1,a1,a2,a3,a4⟩
 | agg ls=>
  cases x<;>simp only[handV] at hr<;>first|(cases hr;done)|skip
  rename_i xs
  obtain ⟨cs,rfl,e1,e2⟩:=hv.agg_inv
  obtain ⟨h1,rd1,d1,u1,a1,a2,a3,a5,a4⟩:=handLs_ok S hr (vs:=cs.toList) (by simpa using e1) (fun j v x hj hx=>e2 j v x (by simpa using hj) hx)
  refine ⟨h1,rd1,d1,u1,a1,a2,a3,fun I' μ hp0 i1 i2 ρ m hρ hag rest=> ?_⟩
  obtain ⟨k1,k2⟩:=a4 I' μ hp0 i1 i2 ρ m hρ hag rest
  exact .agg (by rw[k1];exact e1) fun j v y hj hy=>k2 j v y (by simpa using hj) hy
 | tup ls=>cases x<;>cases hr
 | pref ts ls=>cases x<;>cases hr
 | fn f a b=>
  cases x<;>simp only[handV] at hr<;>first|(cases hr;done)|skip
  rename_i f' xs ys
  obtain ⟨hc,hr2⟩:=run_chk hr
  clear hr
  rw[Nat.beq_eq] at hc
  subst hc
  cases hv with
  | @fn _ fs cs _ _ q1 q2 q3 q4=>
   obtain ⟨h1,rd1,d1,u1,a1,a2,a3,a5,a4⟩:=handLs_ok S hr2 (vs:=fs.toList) (by simpa using q1) (fun j v x hj hx=>q2 j v x (by simpa using hj) hx)
   obtain ⟨h2,rd2,d2,u2,b1,b2,b3,b5,b4⟩:=handLs_ok S a1 (vs:=cs.toList) (by simpa using q3) (fun j v x hj hx=>q4 j v x (by simpa using hj) hx)
   refine ⟨h2,rd2,d1++d2,u1++u2,b1,a2.trans b2,by simp only[List.length_append,VS.size];omega,fun I' μ hp0 i1 i2 ρ m hρ hag rest=> ?_⟩
   obtain ⟨k1,k2⟩:=(a4.later b2) I' μ hp0 i1 i2 ρ m hρ hag (d2++rest)
   obtain ⟨k3,k4⟩:=b4.more I' μ hp0 i1 i2 ρ m hρ hag rest
   simp only[makeV]
   rw[show (d1++d2++rest).drop (lsSize a)=d2++rest by rw[List.append_assoc];exact drop_app a3,List.append_assoc]
   exact .fn (by rw[k1];exact q1) (fun j v y hj hy=>k2 j v y (by simpa using hj) hy) (by rw[k3];exact q3) (fun j v y hj hy=>k4 j v y (by simpa using hj) hy)
theorem handVs_ok (S:Sim P w I β hp B M w0) {α:Type}: ∀{ls:List VS} {xs:List V} {h:Hand} {k:Hand→Rd α} {r:α} {rd:List Nat} {vs:List Value},(handVs P ls xs h k).run C hp=some (r,rd)→vs.length=xs.length→
  (∀(j:Nat) v x,vs[j]? =some v→xs[j]? =some x→VRel P w I β hp v x)→
  ∃h' rd' d u,(k h').run C hp=some (r,rd')∧Ext P w I β hp h h' d u∧d.length=vsSize ls∧ls.length=xs.length∧
   Then P w I β hp h' u fun I' μ hp0=> ∀rest,(makeVs ls (d++rest)).length=xs.length∧∀(j:Nat) v y,vs[j]? =some v→(makeVs ls (d++rest))[j]? =some y→VRel P w I' μ hp0 v y
 | [],[],h,k,r,rd,vs,hr,hl,hv=>⟨h,rd,[],[],hr,Ext.refl h,rfl,rfl,fun I' μ hp0 _ _ _ _ _ _ rest=>⟨rfl,fun j v y _ hy=>by simp[makeVs] at hy⟩⟩
 | [],_::_,h,k,r,rd,vs,hr,hl,hv=>by cases hr
 | _::_,[],h,k,r,rd,vs,hr,hl,hv=>by cases hr
 | l::ls,x::xs,h,k,r,rd,vs,hr,hl,hv=>by
  cases vs with
  | nil=>simp at hl
  | cons v vs=>
   simp only[handVs] at hr
   obtain ⟨h1,rd1,d1,u1,a1,a2,a3,a4⟩:=handV_ok S hr (hv 0 v x rfl rfl)
   obtain ⟨h2,rd2,d2,u2,b1,b2,b3,b5,b4⟩:=handVs_ok S a1 (by simpa using hl) (vs:=vs) (fun j v x hj hx=>hv (j+1) v x (by simpa using hj) (by simpa using hx))
   refine ⟨h2,rd2,d1++d2,u1++u2,b1,a2.trans b2,by simp only[List.length_append,vsSize];omega,by simp[b5],fun I' μ hp0 i1 i2 ρ m hρ hag rest=> ?_⟩
   have k1:=(a4.later b2) I' μ hp0 i1 i2 ρ m hρ hag (d2++rest)
   obtain ⟨k2,k3⟩:=b4.more I' μ hp0 i1 i2 ρ m hρ hag rest
   simp only[makeVs]
   rw[show (d1++d2++rest).drop l.size=d2++rest by rw[List.append_assoc];exact drop_app a3,List.append_assoc]
   refine ⟨by simp[k2],fun j v' y hj hy=> ?_⟩
   cases j with
   | zero=>simp at hj hy;subst hj;subst hy;exact k1
   | succ j=>exact k3 j v' y (by simpa using hj) (by simpa using hy)
def bsSize:List BS→Nat
 | []=>0
 | b::l=>b.size+bsSize l
theorem at_of_row: ∀{b:Nat} {e e':TypeId} {es:List V} {v:V},(∀q b' e' m,At P w b e es q b' e' m→RowOk P w I b' e' m)→∀(path:Path),rowTy P e path=some e'→rowV P e es path=some v→0<v.toList.length→
  ∃b1,At P w b e es path b1 e' v.toList
 | b,e,e',es,v,hrow,[],ht,hv,hl=>by
  simp only[rowTy,Option.some.injEq] at ht
  simp only[rowV,Option.some.injEq] at hv
  subst ht;subst hv
  exact ⟨b,.here⟩
 | b,e,e',es,v,hrow,(i,c)::q,ht,hv,hl=>by
  simp only[rowTy] at ht
  simp only[rowV] at hv
  obtain ⟨x,hx,hv⟩:=bind_some hv
  cases htc:(rowTy.etysOf P e)[c]? with
  | none=>rw[htc] at ht;cases ht
  | some t=>
   rw[htc] at ht
   simp only at ht
   have htc':(etys P e)[c]? =some t:=htc
   cases hu:P.underlying t with
   | none=>rw[hu] at ht;cases ht
   | some d=>
    rw[hu] at ht
    cases d<;>simp only at ht<;>first|(cases ht;done)|skip
    rename_i e1
    rw[parts_at htc'] at hv
    have hR:=hrow _ _ _ _ .here
    obtain ⟨Ca,c1,c2,c3⟩:=hR.cells
    have hclt:c<P.cellsOf e:=by rw[←okTy_etys hR.ok];exact (List.getElem?_eq_some_iff.1 htc').1
    obtain ⟨u,d1,d2⟩:=c3 i c x t hx htc' hclt
    rw[d2.retype1_eq] at hv
    generalize hy:epart P e x c=y at d2 hv
    cases d2 with
    | scal a p=>unfold scalarT at a;rw[hu] at a;cases a
    | @emp e2 a cap hu2 ha=>
     rw[hu] at hu2;cases hu2
     simp only at hv
     cases q with
     | nil=>simp only[rowV,Option.some.injEq] at hv;subst hv;simp[V.toList] at hl
     | cons a q=>simp[rowV] at hv
    | @row e2 es2 b2 cap hu2 hl0 hsz hcap hmx=>
     rw[hu] at hu2;cases hu2
     simp only at hv
     have hstep: ∀{q b' e' es'},At P w b2 e1 es2 q b' e' es'→At P w b e es ((i,c)::q) b' e' es':=fun h=> .step c1 hx htc' hu hy hl0 d1 h
     obtain ⟨b1,hb1⟩:=at_of_row (fun q b' e' m h=>hrow _ _ _ _ (hstep h)) q ht hv hl
     exact ⟨b1,hstep hb1⟩
theorem handBlks_ok (S:Sim P w I β hp B M w0) {α:Type}: ∀{bs:List BS} {j:Nat} {h:Hand} {k:Hand→Rd α} {r:α} {rd:List Nat},(handBlks P bs j h k).run C hp=some (r,rd)→
  ∃h' rd' d u,(k h').run C hp=some (r,rd')∧Ext P w I β hp h h' d u∧d.length=bsSize bs∧
   ∀rest,(makeBlks bs (d++rest)).length=bs.length∧∃o:Nat→Option Nat,
    (∀(i:Nat) blk,(makeBlks bs (d++rest))[i]? =some blk→∃p,nthP h'.pl (j+i)=some p∧Lent P w β hp p (o i) blk)∧
    Then P w I β hp h' u fun I' μ hp0=> ∀(i:Nat) blk,(makeBlks bs (d++rest))[i]? =some blk→(∀b,Owns P w (o i) blk b→¬I' b)→BlkRel P w I' μ hp0 (o i) blk
 | [],j,h,k,r,rd,hr=>⟨h,rd,[],[],hr,Ext.refl h,rfl,fun rest=>⟨rfl,fun _=>none,fun i blk hb=>by simp[makeBlks] at hb,fun I' μ hp0 _ _ _ _ _ _ i blk hb=>by simp[makeBlks] at hb⟩⟩
 | b::bs,j,h,k,r,rd,hr=>by
  simp only[handBlks] at hr
  have fin: ∀{h1:Hand} {rd1:List Nat} {d1:List V} {u1:List (Nat × Blk)} {o1:Option Nat} {p:Place},(handBlks P bs (j+1) h1 k).run C hp=some (r,rd1)→Ext P w I β hp h h1 d1 u1→d1.length=b.size→nthP h.pl j=some p→
    (∀rest,Lent P w β hp p o1 (makeB b (d1++rest)))→(∀rest,Then P w I β hp h1 u1 fun I' μ hp0=>(∀bb,Owns P w o1 (makeB b (d1++rest)) bb→¬I' bb)→BlkRel P w I' μ hp0 o1 (makeB b (d1++rest)))→
    ∃h' rd' d u,(k h').run C hp=some (r,rd')∧Ext P w I β hp h h' d u∧d.length=bsSize (b::bs)∧
     ∀rest,(makeBlks (b::bs) (d++rest)).length=(b::bs).length∧∃o:Nat→Option Nat,
      (∀(i:Nat) blk,(makeBlks (b::bs) (d++rest))[i]? =some blk→∃p,nthP h'.pl (j+i)=some p∧Lent P w β hp p (o i) blk)∧
      Then P w I β hp h' u fun I' μ hp0=> ∀(i:Nat) blk,(makeBlks (b::bs) (d++rest))[i]? =some blk→(∀b,Owns P w (o i) blk b→¬I' b)→BlkRel P w I' μ hp0 (o i) blk:=by
   intro h1 rd1 d1 u1 o1 p hk he hd hp1 hl ht
   obtain ⟨h2,rd2,d2,u2,b1,b2,b3,b4⟩:=handBlks_ok S hk
   refine ⟨h2,rd2,d1++d2,u1++u2,b1,he.trans b2,by simp only[List.length_append,bsSize];omega,fun rest=> ?_⟩
   obtain ⟨c1,o,c2,c3⟩:=b4 rest
   simp only[makeBlks]
   rw[show (d1++d2++rest).drop b.size=d2++rest by rw[List.append_assoc];exact drop_app hd,List.append_assoc]
   refine ⟨by simp[c1],fun i=>match i with|0=>o1|i+1=>o i,fun i blk hb=> ?_,fun I' μ hp0 i1 i2 ρ m hρ hag i blk hb hnI=> ?_⟩
   ·cases i with
    | zero=>
     simp at hb
     subst hb
     exact ⟨p,b2.look (he.look hp1),hl _⟩
    | succ i=>
     obtain ⟨q,e1,e2⟩:=c2 i blk (by simpa using hb)
     exact ⟨q,by rw[show j+(i+1)=j+1+i by omega];exact e1,e2⟩
   ·cases i with
    | zero=>
     simp at hb
     subst hb
     exact ((ht _).later b2) I' μ hp0 i1 i2 ρ m hρ hag hnI
    | succ i=>exact c3.more I' μ hp0 i1 i2 ρ m hρ hag i blk (by simpa using hb) hnI
  cases hp1:nthP h.pl j with
  | none=>rw[hp1] at hr;cases hr
  | some p=>
   rw[hp1] at hr
   cases p with
   | blk id=>
    obtain ⟨l1,hr⟩:=run_get hr
    cases hid:hp id with
    | none=>rw[hid] at hr;cases hr
    | some blk=>
     rw[hid] at hr
     cases blk with
     | dead=>cases hr
     | var T0 cs=>
      cases b<;>simp only at hr<;>first|(cases hr;done)|skip
      rename_i T1 ss
      obtain ⟨hT,hr1⟩:=run_chk hr
      clear hr
      rw[Nat.beq_eq] at hT
      subst hT
      have hrel:=S.h.rel id _ hid
      generalize ho:β id=o at hrel
      cases hrel with
      | @var _ bb Ca T hb hh hs hI hx hself=>
       obtain ⟨h1,rd1,d1,u1,a1,a2,a3,a5,a4⟩:=handVs_ok S hr1 (vs:=Ca.toList) (by simpa using hs) (fun j v x hj hx'=>hx j v x (by simpa using hj) hx')
       refine fin (o1:=β id) a1 a2 a3 hp1 (fun rest=> .var hid) fun rest I' μ hp0 i1 i2 ρ m hρ hag hnI=> ?_
       obtain ⟨k1,k2⟩:=a4 I' μ hp0 i1 i2 ρ m hρ hag rest
       exact .var (ho.trans hb) hh (by rw[k1];exact hs) (hnI _ (.root (by simp[makeB]) (ho.trans hb))) (fun i v y hi hy=>k2 i v y (by simpa using hi) hy) hself
     | arr e' es fz=>
      cases fz with
      | true=>cases hr
      | false=>
       cases b with
       | arr e fz=>
        cases fz with
        | true=>cases hr
        | false=>
         obtain ⟨hc,hr2⟩:=run_chk hr
         clear hr
         rw[Nat.beq_eq] at hc
         subst hc
         refine fin (d1:=[.list e es]) (o1:=β id) hr2 (Ext.leaf h _) rfl hp1 (fun rest=>Lent.arr hid) fun rest I' μ hp0 i1 i2 ρ m hρ hag hnI=> ?_
         change BlkRel P w I' μ hp0 (β id) (.arr e es false)
         have hrel:=S.h.rel id _ hid
         generalize ho:β id=o at hrel hnI⊢
         cases hrel with
         | arrNil hb=>exact .arrNil hb
         | arr a1 a2 a3 a4 a5 a6 a7=>
          refine .arr a1 a2 a3 a4 (fun h=>by cases h) (fun _=>hnI _ (.root (by simp[makeB]) a2)) fun i j x t' y1 y2 y3=> ?_
          obtain ⟨v,z1,z2⟩:=a7 i j x t' y1 y2 y3
          exact ⟨v,z1,z2.mono i1 fun _ _=>rfl⟩
       | _=>cases hr
     | nest e' es vers=>
      cases b with
      | nest e=>
       obtain ⟨hc,hr2⟩:=run_chk hr
       clear hr
       rw[Nat.beq_eq] at hc
       subst hc
       refine fin (d1:=[.list e es]) (o1:=β id) hr2 (Ext.leaf h _) rfl hp1 (fun rest=>Lent.nest hid) fun rest I' μ hp0 i1 i2 ρ m hρ hag hnI=> ?_
       have hnI': ∀bb,Owns P w (β id) (.nest e es [0,0,0]) bb→¬I' bb:=hnI
       change BlkRel P w I' μ hp0 (β id) (.nest e es [0,0,0])
       have hrel:=S.h.rel id _ hid
       generalize ho:β id=o at hrel hnI'⊢
       cases hrel with
       | nest hb hrow huq=>
        refine .nest hb (fun q b' e1 m1 hq=> ?_) huq
        obtain ⟨ok,⟨Ca,c1,c2,c3⟩,nI⟩:=hrow q b' e1 m1 hq
        refine ⟨ok,⟨Ca,c1,c2,fun i j x t' y1 y2 y3=> ?_⟩,hnI' _ (.row hb hq)⟩
        obtain ⟨v,z1,z2⟩:=c3 i j x t' y1 y2 y3
        exact ⟨v,z1,z2.mono i1 (fun _ _=>rfl) fun _ _ _ _ _=>rfl⟩
      | _=>cases hr
     | map t' es=>
      cases b with
      | map t=>
       obtain ⟨hc,hr2⟩:=run_chk hr
       clear hr
       rw[Nat.beq_eq] at hc
       subst hc
       refine fin (d1:=[.list t es]) (o1:=β id) hr2 (Ext.leaf h _) rfl hp1 (fun rest=>Lent.map hid) fun rest I' μ hp0 i1 i2 ρ m hρ hag hnI=> ?_
       change BlkRel P w I' μ hp0 (β id) (.map t es)
       have hrel:=S.h.rel id _ hid
       generalize ho:β id=o at hrel hnI⊢
       cases hrel with
       | map a1 a2 a3 a4 a5 a6 a7=>exact .map a1 a2 a3 a4 (hnI _ (.root (by simp[makeB]) a2)) a6 a7
      | _=>cases hr
   | row id ver path=>
    obtain ⟨e0,es,vers,l1,k1,k2,k3,k4,k5⟩:=rowAt_run hr
    obtain ⟨e',vv,m1,m2,m3⟩:=rowRd_run k5
    cases b with
    | arr e fz=>
     cases fz with
     | true=>cases m3
     | false=>
      obtain ⟨hc,m4⟩:=run_chk m3
      clear m3
      simp only[Bool.and_eq_true,Nat.beq_eq,Nat.blt_eq] at hc
      obtain ⟨rfl,hfs,hl0⟩:=hc
      have hrel:=S.h.rel id _ k1
      cases hb:β id with
      | none=>
       rw[hb] at hrel
       cases hrel with
       | nest hb' _ _=>cases hb'
      | some b0=>
       rw[hb] at hrel
       cases hrel with
       | nest hb' hrow huq=>
        cases hb'
        obtain ⟨b1,hat⟩:=at_of_row hrow path m1 m2 hl0
        refine fin (d1:=[.list e vv.toList]) (o1:=some b1) m4 (Ext.leaf h _) rfl hp1 (fun rest=>Lent.row k1 hb hat hfs k2 k3 k4 hl0) fun rest I' μ hp0 i1 i2 ρ m hρ hag hnI=> ?_
        change BlkRel P w I' μ hp0 (some b1) (.arr e vv.toList false)
        obtain ⟨ok,⟨Ca,c1,c2,c3⟩,nI⟩:=hrow _ _ _ _ hat
        refine .arr ok rfl c1 c2 (fun h=>by cases h) (fun _=>hnI _ (.root (by simp[makeB]) rfl)) fun i j x t' y1 y2 y3=> ?_
        obtain ⟨v,z1,z2⟩:=c3 i j x t' y1 y2 y3
        refine ⟨v,z1,?_⟩
        generalize epart P e x j=y at z2⊢
        cases z2 with
        | scal _ p=>exact p.mono i1 fun _ _=>rfl
        | emp hu _=>exact absurd hu (flatScalar_not hfs y2 _)
        | row hu _ _ _ _=>exact absurd hu (flatScalar_not hfs y2 _)
    | _=>cases m3
where
 flatScalar_not {e t:TypeId} {j:Nat} (h:flatScalar P e=true) (ht:(etys P e)[j]? =some t) (e':TypeId):P.underlying t≠some (.slice e'):=by
  intro hu
  have h2:=List.all_eq_true.1 h t (List.mem_of_getElem? ht)
  rw[hu] at h2
  cases h2
end
end Go.AM
