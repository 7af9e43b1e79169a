/-
  Functions of the program, lifted to plain data.
-/
import Derived.Laws.BytesString
import Derived.Lib.Builder
import Derived.Lib.UnsafeStr
import Derived.Laws.Runes
import Derived.Lib.LazyBuf
import Derived.Conc.MuLone
import Derived.Defers
import Derived.Test.YtpfiomngchimkaaGreatDoorP2
noncomputable section
set_option linter.unusedVariables false
set_option linter.unusedSimpArgs false
set_option linter.unusedSectionVars false
set_option maxRecDepth 100000
namespace Go.AM
open Go.Proofs
section
variable {P:Program}{w w':World}{I I':Nat->Nat->Prop}{β β':Nat->Option Nat}{hp hp':Nat->Option ah}{C:ab}{B:Nat}{M:Nat->Prop}{w0:Start}
theorem agG:∀(ns:List Int) (s:ByteArray),(ns.foldl (fun r n=>r.push (UInt8.ofNat n.toNat)) s).data.toList=s.data.toList++ns.map fun n=>UInt8.ofNat n.toNat
 |[],s=>zS
 |n::ns,s=>by
  simp only[List.foldl_cons,agG ns,iB];simp_all
theorem asI{e:TypeId}{u:Value}{x:V}(he:P.underlying e=some (.int .u8))(hp:Pure P w I e u x):u=.int .u8 x.toInt:=by
 cases hp with
 |int hp'=>rw[he]at hp';cases hp';rfl
 |bool hp'=>grind
 |str hp'=>grind
 |nil hp'=>grind
 |emp hp'=>grind
 |list _ hp'=>grind
theorem asJ(S:aK P w I β hp B M w0){src dst e:TypeId}{v:Value}{x:V}{r:R}{rd:LN}(hs:P.underlying src=some (.slice e))(he:P.underlying e=some (.int .u8))(hd:P.underlying dst=some .string)
  (hv:ak P w I β hp v x) (h:(Rd.aQ (dU P e) (Ap e x fun es=>.ret ⟨.str (oX es),[]⟩)).run C hp=some (r,rd)):eP P ((convert src dst v).run P w) w I β hp B M w0 r:=by
 obtain⟨av,h⟩:=aX h;obtain⟨xs,hx,l,h⟩:=Qr S.h.rel av hv h;obtain rfl:=bG h;have vp:cP P e=false:=by simp[cP,he]
 have h1:P.cellsOf e=1:=by rw[<-(qy av).1,PW vp];rfl
 rcases hx with⟨⟨a,rfl⟩,rfl⟩|⟨a,c,news,hr⟩
 .refine .same S (v:=.string .empty) ?_ (.str (by simp[oX]));rw[run_convert_bytes_string w src dst e a 0 0 hs he hd];cases a<;>simp[Conv.bytesToString,loadCells,loadCellsFrom]
 .have wR:news=(xs.map V.toInt).map (Value.int .u8):=by
   apply wi;intro j;by_cases hj:j<xs.length
   .obtain⟨u,hu,hp⟩:=hr.el j 0 xs[j] e (cA hj) (by simp[bA,vp]) zO;rw[h1]at hu;simp only[cT,vp,cond_false]at hp;have lS:news[j]?=some u:=zG;rw[lS];have:=asI he hp;grind
   .have hl:news.length=xs.length:=by rw[hr.len,h1];simp
    grind
  have Xl:=run_loadCells_list (P:=P) w a news hr.cell;have hl:news.length=xs.length:=zG;rw[hl]at Xl;rw[wR]at Xl;refine .same S (v:=.string ((xs.map V.toInt).foldl (fun r n=>r.push (UInt8.ofNat n.toNat)) ByteArray.empty)) ?_ (.str ?_)
  .rw[hr.val,run_convert_bytes_string w src dst e _ _ _ hs he hd];exact run_bytesToString w a xs.length c (xs.map V.toInt) Xl
  .rw[agG];simp[oX]
theorem asK{n:Int}(h:(decide (0<=n)&&decide (n<128))=true):(Utf8.encode n).data.toList=[UInt8.ofNat n.toNat]:=by
 simp only[aZ,fp]at h;have h1:Utf8.valid n=true:=by rw[validRune_eq];exact bQ zO
 unfold Utf8.encode;simp[h1,show n.toNat<128 by omega]
theorem ak.agH{v:Value}{e:TypeId}(h:ak P w I β hp v (.nilS e)):v=.slice none 0 0:=by cases h;rfl
theorem asL{e:TypeId}(hb:isByte P e=true):P.underlying e=some (.int .u8):=by
 unfold isByte at hb;grind
def Xm:Op->Bool
 |.call {callee:=.value (.func _),..}=>true
 |.call {callee:=.value (.tmp _),..}=>true
 |.defer _=>true
 |_=>false
theorem wG.val{o:Oper}{a:Act}{s:Sem Value}{r:R}(he:execOp a.eval o=(do Pure.pure (Next.value (<-s))))(h:eP P (s.run P w) w I β hp B M w0 r):wG P ((execOp a.eval o).run P w) w I β hp B M w0 r:=by
 rw[he];exact h.op
theorem asM{A:eh}(S:aK P w I β hp B M w0)(hg:lP P A.bf w I){a:Act}{sl:Nat->V}(hs:qw P w I β hp a sl){ix nb:Nat}{o:Oper}(hnc:Xm o.op=false){r:R}{rd:LN}
  (h:(mG P A sl ix nb o).run C hp=some (r,rd)):wG P ((execOp a.eval o).run P w) w I β hp B M w0 r:=by
 obtain⟨dst,op,ty,pos,after,guard⟩:=o;cases op<;>simp only[mG]at h<;>first|(cases h;done)|skip
 case move x=>
  obtain rfl:=bG h;exact⟨_,w,I,β,.inl (by simp[execOp]),Le.refl w I β hp,S,hs.ev hg ty x⟩
 case assign x=>
  obtain rfl:=bG h;exact⟨_,w,I,β,.inl (by simp[execOp]),Le.refl w I β hp,S,hs.ev hg ty x⟩
 case pick c x y=>
  have hc:=hs.ev hg ty c;cases CG:bO P A.bf ty sl c<;>rw[CG]at h hc<;>simp only at h<;>first|(cases h;done)|skip
  rename_i t;have asN:=hc.o5;have hx:=hs.ev hg ty x;have hy:=hs.ev hg ty y;have fin:∀z:V,ak P w I β hp (if t then a.eval x else a.eval y) z->wG P ((execOp a.eval ⟨dst,.pick c x y,ty,pos,after,guard⟩).run P w) w I β hp B M w0 ⟨z,[]⟩:=by
   intro z hz;exact⟨_,w,I,β,.inl (by simp[execOp,asN,asBool]),Le.refl w I β hp,S,hz⟩
  cases QD:gone (bO P A.bf ty sl x)with
  |true=>
   rw[QD]at h;obtain⟨h1,h⟩:=aX h;obtain rfl:=bG h;grind
  |false=>
   rw[QD]at h;simp only[cond_false]at h;cases hg2:gone (bO P A.bf ty sl y)with
   |true=>
    rw[hg2]at h;obtain⟨h1,h⟩:=aX h;obtain rfl:=bG h;grind
   |false=>
    rw[hg2]at h;obtain rfl:=bG h;exact fin _ (afA hx hy)
 case makeFunc fn x y=>
  cases fn<;>simp only[mG]at h<;>first|(cases h;done)|skip
  rename_i f;obtain rfl:=bG h;refine⟨.func (.func f) (x.map a.eval) (y.map a.eval),w,I,β,.inl (by simp[execOp,Instr.makeFunc]),Le.refl w I β hp,S,.fn zS (fun j v z hj hz=>?_) zS (fun j v z hj hz=>?_)⟩
  .rw[Array.getElem?_map]at hj;rw[j5,tJ]at hz;cases hx:x[j]?with
   |none=>grind
   |some o1=>
    rw[hx]at hj hz;cases hj;cases hz;exact hs.ev hg ty o1
  .rw[Array.getElem?_map]at hj;rw[j5,tJ]at hz;cases hx:y[j]?with
   |none=>grind
   |some o1=>
    rw[hx]at hj hz;cases hj;cases hz;exact hs.ev hg ty o1
 case makeMap t res=>
  cases res with
  |some x=>cases h
  |none=>exact .val rfl (asw S h)
 case lookup t m k ok=>
  cases ht:rp P t with
  |none=>rw[ht]at h;cases h
  |some q=>
   obtain⟨kt,vt⟩:=q;rw[ht]at h;exact .val (s:=Instr.lookup t (a.eval m) (a.eval k) ok) rfl (asv S ht (hs.ev hg t m) (hs.ev hg kt k) h)
 case mapUpdate t m k x=>
  cases ht:rp P t with
  |none=>rw[ht]at h;cases h
  |some q=>
   obtain⟨kt,vt⟩:=q;rw[ht]at h;have:=agD S ht (hs.ev hg t m) (hs.ev hg kt k) (hs.ev hg vt x) h;exact this.op
 case insert t m k x=>
  cases ht:rp P t with
  |none=>rw[ht]at h;cases h
  |some q=>
   obtain⟨kt,vt⟩:=q;rw[ht]at h;have:=agD S ht (hs.ev hg t m) (hs.ev hg kt k) (hs.ev hg vt x) h;exact this.op
 case alloc e=>
  cases dst with
  |none=>exact .val rfl (af2 S h)
  |some d=>
   simp only at h;cases wY:kL A.u0 d with
   |true=>rw[wY]at h;exact .val rfl (arW S h)
   |false=>rw[wY]at h;exact .val rfl (af2 S h)
 case box e x=>
  exact .val rfl (arR S (hs.ev hg e x) h)
 case build t ps=>exact .val rfl (arT S hs hg h)
 case buildSlice t len ps=>
  cases hu:P.underlying t with
  |none=>rw[hu]at h;cases h
  |some d=>
   rw[hu]at h;cases d<;>simp only at h<;>first|(cases h;done)|skip
   cases dst with
   |none=>exact .val rfl (agi S hs hg hu h)
   |some d=>
    simp only at h;cases wY:kL A.u0 d with
    |true=>rw[wY]at h;exact .val rfl (asb S hs hg hu h)
    |false=>rw[wY]at h;exact .val rfl (agi S hs hg hu h)
 case load t x=>exact .val rfl (ary S (hs.ev hg ty x) h)
 case store t x y=>
  have:=arQ S (hs.ev hg ty x) (hs.ev hg t y) h;exact this.op
 case nilCheck x=>
  have hx:=hs.ev hg ty x;cases pU:bO P A.bf ty sl x<;>rw[pU]at h hx<;>simp only at h<;>first|(cases h;done)|skip
  .obtain⟨⟨blk,ae,hd⟩,l,h⟩:=afC h;obtain rfl:=bG h;have eo:=hx;obtain⟨b,hb,he⟩:=hx.ov ae hd;rw[he]at eo;exact⟨_,w,I,β,.inl (by simp only[execOp,he];rfl),Le.refl w I β hp,S,eo⟩
  .obtain rfl:=bG h;have eo:=hx;obtain⟨b,o,he,_⟩:=hx.IL;rw[he]at eo;exact⟨_,w,I,β,.inl (by simp only[execOp,he];rfl),Le.refl w I β hp,S,eo⟩
  .obtain⟨e0,es,vers,l,ae,h1,h2,h3,h⟩:=tT h;obtain rfl:=bG h;have eo:=hx;obtain⟨b,o,he,_⟩:=hx.afw ae h1 h2 h3;rw[he]at eo;exact⟨_,w,I,β,.inl (by simp only[execOp,he];rfl),Le.refl w I β hp,S,eo⟩
 case binOp op t x y yt=>
  have hx:=hs.ev hg t x;have hy:=hs.ev hg t y;refine .val (s:=do eqGuard op t x y (a.eval x) (a.eval y);binOp op t (a.eval x) (a.eval y)) rfl ?_;cases pU:bO P A.bf t sl x<;>cases AT:bO P A.bf t sl y<;>rw[pU,AT]at h<;>rw[pU]at hx<;>rw[AT]at hy<;>first|(simp only[sG]at h;cases h;done)|skip
  .rw[hx.jo,hy.jo];have:=aro S h;simpa[ark]using this
  .rw[hx.o5,hy.o5];have:=arq S h;simpa[arl]using this
  .obtain⟨s1,e1,l1⟩:=hx.rD;obtain⟨s2,e2,l2⟩:=hy.rD;rw[e1,e2];rw[<-l1,<-l2]at h;have:=ars (t:=t) S h;simpa[arn]using this
  .simp only[sG]at h;rw[hx.agH,hy.agH];cases hu:P.underlying t with
   |none=>rw[hu]at h;cases h
   |some d=>
    rw[hu]at h;cases d<;>(try (cases h;done))
    cases op<;>simp only at h<;>first|(cases h;done)|skip
    .obtain rfl:=bG h;exact .same S (by simpa[eqGuard]using run_eql_slice_nil w _ _ none 0 0 hu) .bool
    .obtain rfl:=bG h;exact .same S (by simpa[eqGuard]using run_neq_slice_nil w _ _ none 0 0 hu) .bool
  .obtain⟨cs,e1,h1,h2⟩:=hx.o6;obtain⟨ds,e2,h3,h4⟩:=hy.o6;rw[e1,e2];exact art S h1 h3 h2 h4 h
  .
   simp only[sG]at h;obtain⟨l,h⟩:=run_get h;split at h
   .rename_i t2 es ae;obtain⟨b,hb⟩:=hx.asA ae;rw[hy.Xj,hb];exact agE (a:=some b) S x y h
   .cases h
  .simp only[sG]at h;rw[hx.Xj,hy.Xj];exact agE (a:=none) S x y h
 case unOp op t x=>exact .val rfl (aru S (hs.ev hg ty x) h)
 case convert src dst x=>
  have hx:=hs.ev hg ty x;refine .val (s:=convert src dst (a.eval x)) rfl ?_;cases nq:P.underlying src with
  |none=>rw[nq]at h;cases h
  |some d1=>
   cases mR:P.underlying dst with
   |none=>rw[nq,mR]at h;cases d1<;>cases h
   |some d2=>
    rw[nq,mR]at h;cases d1<;>(try (cases d2<;>cases h;done))
    .cases d2<;>(try (cases h;done))<;>cases pU:bO P A.bf ty sl x<;>rw[pU]at h hx<;>simp only at h<;>first|(cases h;done)|skip
     .obtain rfl:=bG h;rw[hx.jo];exact .same S (by simp[convert,run_underlying nq,run_underlying mR,Conv.intToInt]) .int
     .obtain⟨hc,h⟩:=aX h;obtain rfl:=bG h;rw[hx.jo];exact .same S (run_convert_int_string w src dst _ _ (by simp[nq]) mR) (.str (asK hc))
    .rename_i e;cases d2<;>(try (cases h;done))
     simp only at h;cases he:P.underlying e with
     |none=>rw[he]at h;cases h
     |some d3=>
      rw[he]at h;cases d3<;>(try (cases h;done))
      rename_i k;cases k<;>(try (cases h;done))
      exact asJ S nq he mR hx h
 case fieldAddr s x f=>exact .val rfl (arv S (hs.ev hg ty x) h)
 case field s x f=>exact .val rfl (asc S (hs.ev hg ty x) h)
 case indexAddr t x y=>exact .val rfl (asi S (hs.ev hg ty x) (hs.ev hg 0 y) h)
 case index t x y=>
  have hx:=hs.ev hg ty x;have hy:=hs.ev hg 0 y;refine .val (s:=Instr.index t (a.eval x) (a.eval y)) rfl ?_;cases hu:P.underlying t with
  |none=>rw[hu]at h;cases h
  |some d=>
   rw[hu]at h;cases d<;>(try (cases h;done))
   .cases pU:bO P A.bf ty sl x<;>rw[pU]at h hx<;>(try (cases h;done))
    cases AT:bO P A.bf 0 sl y<;>rw[AT]at h hy<;>(try (cases h;done))
    obtain⟨s,e1,l1⟩:=hx.rD;rw[e1,hy.jo];exact ase S hu l1 h
   .cases pU:bO P A.bf ty sl x<;>rw[pU]at h hx<;>(try (cases h;done))
    cases AT:bO P A.bf 0 sl y<;>rw[AT]at h hy<;>(try (cases h;done))
    rw[hy.jo];exact asf S hu hx h
 case slice t x lo hi mx=>
  cases mx with
  |some m=>
   cases h
  |none=>
   simp only at h;have plain:(PD P t (bO P A.bf ty sl x) (lo.map (bO P A.bf 0 sl)) (hi.map (bO P A.bf 0 sl))).run C hp=some (r,rd)->wG P ((execOp a.eval ⟨dst,.slice t x lo hi none,ty,pos,after,guard⟩).run P w) w I β hp B M w0 r:=by
    intro h;refine .val (s:=Instr.sliceAt t (a.eval x) (lo.map a.eval) (hi.map a.eval) none) (by simp[execOp]) (ash S (hs.ev hg ty x) (fun y hy=>?_) (fun y hy=>?_) (fun hy=>?_) (fun hy=>?_) h)
    .cases lo with
     |none=>cases hy
     |some l=>cases hy;exact⟨_,rfl,hs.ev hg 0 l⟩
    .cases hi with
     |none=>cases hy
     |some l=>cases hy;exact⟨_,rfl,hs.ev hg 0 l⟩
    all_goals simp_all
   have tr:(PE P nb t (bO P A.bf ty sl x) (lo.map (bO P A.bf 0 sl)) (hi.map (bO P A.bf 0 sl))).run C hp=some (r,rd)->wG P ((execOp a.eval ⟨dst,.slice t x lo hi none,ty,pos,after,guard⟩).run P w) w I β hp B M w0 r:=by
    intro h;refine .val (s:=Instr.sliceAt t (a.eval x) (lo.map a.eval) (hi.map a.eval) none) (by simp[execOp]) (asm S (hs.ev hg ty x) (fun y hy=>?_) (fun hy=>?_) h)
    .cases hi with
     |none=>cases hy
     |some l=>cases hy;exact⟨_,rfl,hs.ev hg 0 l⟩
    simp_all
   grind
 case extract x i=>
  have hx:=hs.ev hg ty x;cases pU:bO P A.bf ty sl x<;>rw[pU]at h hx<;>simp only at h<;>first|(cases h;done)|skip
  exact .val (s:=Instr.extract (a.eval x) i) rfl (asd S hx h)
 case makeSlice t l c=>
  have hl:=hs.ev hg 0 l;have hc:=hs.ev hg 0 c;refine .val (s:=Instr.makeSlice t (a.eval l) (a.eval c)) rfl ?_;cases hu:P.underlying t with
  |none=>rw[hu]at h;cases h
  |some d=>
   rw[hu]at h;cases d<;>(try (cases h;done))
   cases Xn:bO P A.bf 0 sl l<;>rw[Xn]at h hl<;>(try (cases h;done))
   cases CG:bO P A.bf 0 sl c<;>rw[CG]at h hc<;>(try (cases h;done))
   rw[hl.jo,hc.jo];cases dst with
   |none=>exact agj S hu h
   |some d=>
    simp only at h;cases hg:kL A.u0 d with
    |true=>rw[hg]at h;exact arY S hu h
    |false=>rw[hg]at h;exact agj S hu h
 case call c=>
  obtain⟨callee,args,argTypes⟩:=c;cases callee with
  |invoke r m=>cases h
  |value f=>
   cases f with
   |func f=>cases hnc
   |tmp f=>cases hnc
   |_=>cases h
  |builtin b=>
   have one:∀{x:Operand},args.toList=[x]->args= #[x]:=fun h=>zG;have Fw:∀(s:Array TypeId->TypeId->Array Value->Sem Value),builtin b argTypes ty (args.map fun|.const _=>true|_=>false) (args.map a.eval)=(do Pure.pure (Next.value (<-s argTypes ty (args.map a.eval))))->
     execOp a.eval ⟨dst,.call ⟨.builtin b,args,argTypes⟩,ty,pos,after,guard⟩=(do Pure.pure (Next.value (<-s argTypes ty (args.map a.eval)))):=by
    intro s hb;simp only[execOp,resolve,pure_bind,invoke];exact hb
   cases b<;>(try (cases h;done))
   case append=>
    simp only at h;cases ha:args.toList with
    |nil=>rw[ha]at h;cases h
    |cons x l=>
     cases l with
     |nil=>rw[ha]at h;cases h
     |cons y l2=>
      cases l2 with
      |cons _ _=>rw[ha]at h;cases h
      |nil=>
       cases kR:argTypes.toList with
       |nil=>rw[ha,kR]at h;cases h
       |cons t l3=>
        cases l3 with
        |nil=>rw[ha,kR]at h;cases h
        |cons u l4=>
         cases l4 with
         |cons _ _=>rw[ha,kR]at h;cases h
         |nil=>
          rw[ha,kR]at h;simp only at h;have e1:args= #[x,y]:=zG;have e2:argTypes= #[t,u]:=zG;cases hu:P.underlying t with
          |none=>rw[hu]at h;cases h
          |some d=>
           rw[hu]at h;cases d<;>(try (cases h;done))
           cases hc:Nat.beq t u with
           |true=>
            rw[hc]at h;rw[bK]at hc;subst hc;simp only[cond_true]at h;refine .val (Fw Builtin.append_ rfl) ?_;rw[e1,e2];cases dst with
            |none=>
             have:=agp (ty:=ty) S hu (hs.ev hg t x) (hs.ev hg t y) h;grind
            |some d=>
             simp only at h;cases wY:kL A.u0 d with
             |true=>
              rw[wY]at h;have:=ar5 (ty:=ty) S hu (hs.ev hg t x) (hs.ev hg t y) h;grind
             |false=>
              rw[wY]at h;have:=agp (ty:=ty) S hu (hs.ev hg t x) (hs.ev hg t y) h;grind
           |false=>
            rw[hc]at h;simp only[cond_false]at h;have hy:=hs.ev hg u y;cases vw:P.underlying u with
            |none=>rw[vw]at h;cases h
            |some du=>
             rw[vw]at h;cases du<;>(try (cases h;done))
             cases AT:bO P A.bf u sl y<;>rw[AT]at h hy<;>(try (cases h;done))
             simp only at h;obtain⟨hb,h⟩:=aX h;obtain⟨s1,q1,q2⟩:=hy.rD;subst q2;have:=asG (ty:=ty) S hu vw (asL hb) (hs.ev hg t x) h;refine .val (Fw Builtin.append_ rfl) ?_;grind
   case len=>
    simp only at h;cases ha:args.toList with
    |nil=>rw[ha]at h;cases h
    |cons x l=>
     cases l with
     |cons _ _=>rw[ha]at h;cases h
     |nil=>
      cases kR:argTypes.toList with
      |nil=>rw[ha,kR]at h;cases h
      |cons t l3=>
       cases l3 with
       |cons _ _=>rw[ha,kR]at h;cases h
       |nil=>
        rw[ha,kR]at h;simp only at h;have e1:args= #[x]:=zG;have e2:argTypes= #[t]:=zG;have hx:=hs.ev hg ty x;refine .val (Fw Builtin.len_ rfl) ?_;rw[e1,e2];cases hu:P.underlying t with
        |none=>rw[hu]at h;cases h
        |some d=>
         rw[hu]at h;cases d<;>(try (cases h;done))
         .cases pU:bO P A.bf ty sl x<;>rw[pU]at h hx<;>(try (cases h;done))
          have:=afB (t:=t) (ty:=ty) S hx (fun l hl=>hu) (fun hn=>absurd rfl (hn _)) h;grind
         .have h2:(∀l,bO P A.bf ty sl x≠.str l)∧(Px P (bO P A.bf ty sl x)).run C hp=some (r,rd):=by
           cases pU:bO P A.bf ty sl x<;>rw[pU]at h<;>first|(cases h;done)|exact⟨fun l=>zS,h⟩
          have:=afB (t:=t) (ty:=ty) S hx (fun l hl=>absurd hl (h2.1 l)) (fun _=>⟨_,hu⟩) h2.2;grind
         .have h2:(PC (bO P A.bf ty sl x)).run C hp=some (r,rd):=by
           omega
          have:=asz (t:=t) (ty:=ty) S hu hx h2;grind
   case clear=>
    simp only at h;cases ha:args.toList with
    |nil=>rw[ha]at h;cases h
    |cons x l=>
     cases l with
     |cons _ _=>rw[ha]at h;cases h
     |nil=>
      cases kR:argTypes.toList with
      |nil=>rw[ha,kR]at h;cases h
      |cons t l3=>
       cases l3 with
       |cons _ _=>rw[ha,kR]at h;cases h
       |nil=>
        rw[ha,kR]at h;simp only at h;have e1:args= #[x]:=zG;have e2:argTypes= #[t]:=zG;cases hu:P.underlying t with
        |none=>rw[hu]at h;cases h
        |some d=>
         rw[hu]at h;cases d<;>(try (cases h;done))
         have:=ar3 (ty:=ty) S hu (hs.ev hg t x) h;refine .val (Fw Builtin.clear_ rfl) ?_;grind
   case max=>
    simp only at h;cases ha:args.toList with
    |nil=>rw[ha]at h;cases h
    |cons x l=>
     rw[ha]at h;simp only at h;have:=W6 S true (vs:=l.map a.eval) (xs:=l.map (bO P A.bf ty sl)) (hs.ev hg ty x) zS (fun j u y hu hy=>by
      simp only[j5]at hu hy;cases hl:l[j]?with
      |none=>grind
      |some z=>rw[hl]at hu hy;cases hu;cases hy;exact hs.ev hg ty z) h
     refine .val (Fw Builtin.max_ rfl) ?_;simpa[Builtin.max_,ha]using this
   case min=>
    simp only at h;cases ha:args.toList with
    |nil=>rw[ha]at h;cases h
    |cons x l=>
     rw[ha]at h;simp only at h;have:=W6 S false (vs:=l.map a.eval) (xs:=l.map (bO P A.bf ty sl)) (hs.ev hg ty x) zS (fun j u y hu hy=>by
      simp only[j5]at hu hy;cases hl:l[j]?with
      |none=>grind
      |some z=>rw[hl]at hu hy;cases hu;cases hy;exact hs.ev hg ty z) h
     refine .val (Fw Builtin.min_ rfl) ?_;simpa[Builtin.min_,ha]using this
end
section
variable {P:Program}{A:eh}{w w':World}{I I' I2:Nat->Nat->Prop}{μ β β':Nat->Option Nat}{hp hp':Nat->Option ah}{C:ab}{B:Nat}{M:Nat->Prop}{w0:Start}
theorem CN:∀{l m:LN},iF.tQ l m=true->l=m
 |[],[],_=>rfl
 |[],_::_,h=>by cases h
 |_::_,[],h=>by cases h
 |a::l,b::m,h=>by
  simp only[iF.tQ,aZ,bK]at h;rw[h.1,CN h.2]
@[simp] theorem agI (n:Nat):qu (fw n)=n:=by simp[qu,fw,V.toInt]
theorem QE:∀(path:List (Nat×Nat)) (rest:LV),Ip (path.map (·.2)) ((path.map fun p=>fw p.1)++rest)=path
 |[],_=>rfl
 |p::l,rest=>by
  simp only[iB,List.cons_append,Ip,V.nth,agI,iR,gK,QE l rest]
theorem QF{l:LS}{x:V}{ds:LV}(h:iF l x=some ds):ds.length=l.size∧(l=.Al∨∀rest,mF l (ds++rest)=x):=by
 cases l with
 |Al=>simp only[iF,gi]at h;subst h;exact⟨rfl,.inl rfl⟩
 |int k=>
  cases x<;>simp only[iF]at h<;>first|(cases h;done)|skip
  rename_i k' n;by_cases hk:k=k'
  .subst hk;simp only[uU,cond_true,gi]at h;subst h;exact⟨rfl,.inr fun _=>rfl⟩
  grind
 |bool=>
  cases x<;>simp only[iF]at h<;>first|(cases h;done)|skip
  cases h;exact⟨rfl,.inr fun _=>rfl⟩
 |str=>
  cases x<;>simp only[iF]at h<;>first|(cases h;done)|skip
  cases h;exact⟨rfl,.inr fun _=>rfl⟩
 |list e=>
  cases x<;>simp only[iF]at h<;>first|(cases h;done)|skip
  rename_i e' es;cases hb:Nat.beq e e' with
  |false=>grind
  |true=>
   rw[hb]at h;rw[bK]at hb;subst hb;cases h;exact⟨rfl,.inr fun _=>rfl⟩
 |whole e j=>
  cases x<;>simp only[iF]at h<;>first|(cases h;done)|skip
  rename_i e' id;cases hb:(Nat.beq e e'&&Nat.beq j id)with
  |false=>grind
  |true=>
   rw[hb]at h;simp only[aZ,bK]at hb;obtain⟨rfl,rfl⟩:=hb;cases h;exact⟨rfl,.inr fun _=>rfl⟩
 |sub e j=>
  cases x<;>simp only[iF]at h<;>first|(cases h;done)|skip
  rename_i e' id o n;cases hb:(Nat.beq e e'&&Nat.beq j id)with
  |false=>grind
  |true=>
   rw[hb]at h;simp only[aZ,bK]at hb;obtain⟨rfl,rfl⟩:=hb;cases h;exact⟨rfl,.inr fun _=>by simp[mF,V.nth]⟩
 |ptr j=>
  cases x<;>simp only[iF]at h<;>first|(cases h;done)|skip
  rename_i id i c;cases hb:(Nat.beq j id)with
  |false=>grind
  |true=>
   rw[hb]at h;rw[bK]at hb;subst hb;cases h;exact⟨rfl,.inr fun _=>by simp[mF,V.nth]⟩
 |ba j i c=>
  cases x<;>simp only[iF]at h<;>first|(cases h;done)|skip
  rename_i id i' c';cases hb:(Nat.beq j id&&(Nat.beq i i'&&Nat.beq c c'))with
  |false=>grind
  |true=>
   rw[hb]at h;simp only[aZ,bK]at hb;obtain⟨rfl,rfl,rfl⟩:=hb;cases h;exact⟨rfl,.inr fun _=>rfl⟩
 |nilS e=>
  cases x<;>simp only[iF]at h<;>first|(cases h;done)|skip
  rename_i e';cases hb:Nat.beq e e' with
  |false=>grind
  |true=>
   rw[hb]at h;rw[bK]at hb;subst hb;cases h;exact⟨rfl,.inr fun _=>rfl⟩
 |im=>
  cases x<;>simp only[iF]at h<;>first|(cases h;done)|skip
  cases h;exact⟨rfl,.inr fun _=>rfl⟩
 |cX e j=>
  cases x<;>simp only[iF]at h<;>first|(cases h;done)|skip
  rename_i e' id;cases hb:(Nat.beq e e'&&Nat.beq j id)with
  |false=>grind
  |true=>
   rw[hb]at h;simp only[aZ,bK]at hb;obtain⟨rfl,rfl⟩:=hb;cases h;exact⟨rfl,.inr fun _=>rfl⟩
 |fQ e=>
  cases x<;>simp only[iF]at h<;>first|(cases h;done)|skip
  rename_i e';cases hb:Nat.beq e e' with
  |false=>grind
  |true=>
   rw[hb]at h;rw[bK]at hb;subst hb;cases h;exact⟨rfl,.inr fun _=>rfl⟩
 |EX k n=>
  cases x<;>simp only[iF]at h<;>first|(cases h;done)|skip
  rename_i k' m;cases hb:(decide (k=k')&&decide (m=n))with
  |false=>grind
  |true=>
   rw[hb]at h;simp only[aZ,fp]at hb;obtain⟨rfl,rfl⟩:=hb;cases h;exact⟨rfl,.inr fun _=>rfl⟩
 |Po b=>
  cases x<;>simp only[iF]at h<;>first|(cases h;done)|skip
  rename_i c;cases hb:decide (b=c)with
  |false=>grind
  |true=>
   rw[hb]at h;obtain rfl:=tH hb;cases h;exact⟨rfl,.inr fun _=>rfl⟩
 |row e j cs=>
  cases x<;>simp only[iF]at h<;>first|(cases h;done)|skip
  rename_i e' id ver path;cases hb:(Nat.beq e e'&&(Nat.beq j id&&(Nat.beq ver 0&&iF.tQ cs (path.map (·.2)))))with
  |false=>grind
  |true=>
   rw[hb]at h;simp only[aZ,bK]at hb;obtain⟨rfl,rfl,rfl,vk⟩:=hb;have:=CN vk;subst this;cases h;exact⟨by simp[LS.size],.inr fun rest=>by simp only[mF,QE]⟩
 |eJ j cs c=>
  cases x<;>simp only[iF]at h<;>first|(cases h;done)|skip
  rename_i id ver path i c';cases hb:(Nat.beq j id&&(Nat.beq ver 0&&(Nat.beq c c'&&iF.tQ cs (path.map (·.2)))))with
  |false=>grind
  |true=>
   rw[hb]at h;simp only[aZ,bK]at hb;obtain⟨rfl,rfl,rfl,vk⟩:=hb;have:=CN vk;subst this;cases h;exact⟨by simp[LS.size],.inr fun rest=>by simp only[mF,List.cons_append,V.nth,agI,iR,gK,QE]⟩
def LS.below(n:Nat)(x:V):Prop:=∀id∈gN x,id<n
def agJ:V->Prop
 |.agg _=>False
 |.ct _=>False
 |.fn .. =>False
 |.pref .. =>False
 |_=>True
theorem CO{c:Bool}{a d:LV}(h:(bif c then some a else none)=some d):c=true:=by
 grind
theorem asO{l:LS}{x:V}{ds:LV}{n:Nat}(h:iF l x=some ds)(hl:l≠.Al)(av:l.ok n=true):agJ x∧LS.below n x:=by
 cases l<;>cases x<;>simp only[iF]at h<;>first|(cases h;done)|(exact absurd rfl hl)|skip
 all_goals refine⟨trivial,fun id ae=>?_⟩
 all_goals simp only[gN,oc,List.not_mem_nil]at ae
 all_goals subst ae
 all_goals simp only[LS.ok,rb]at av
 all_goals
  have hb:=CO h;simp_all
theorem ak.asP{v:Value}{x:V}(h:ak P w I β hp v x)(hx:agJ x)(hs:∀id∈gN x,hp' id=hp id∧β' id=β id):ak P w I β' hp' v x:=by
 have one:∀{id},id∈gN x->hp' id=hp id∧β' id=β id:=fun h=>hs _ h;cases h with
 |undef=>exact .undef
 |int=>exact .int
 |bool=>exact .bool
 |str h=>exact .str h
 |list h=>exact .list h
 |nilS=>exact .nilS
 |agg=>exact hx.elim
 |ct=>exact hx.elim
 |im=>exact .im
 |fn=>exact hx.elim
 |pref=>exact hx.elim
 |fM h=>exact .fM ((one (by simp[gN])).1.trans h)
 |lN h=>exact .lN ((one (by simp[gN])).1.trans h)
 |oh h=>exact .oh ((one (by simp[gN])).1.trans h)
 |fF h hb=>exact .fF ((one (by simp[gN])).1.trans h) ((one (by simp[gN])).2.trans hb)
 |whole h hb a b c=>exact .whole ((one (by simp[gN])).1.trans h) ((one (by simp[gN])).2.trans hb) a b c
 |fq h hb a b c=>exact .fq ((one (by simp[gN])).1.trans h) ((one (by simp[gN])).2.trans hb) a b c
 |fS h hb=>exact .fS ((one (by simp[gN])).1.trans h) ((one (by simp[gN])).2.trans hb)
 |iJ h hb a b c=>exact .iJ ((one (by simp[gN])).1.trans h) ((one (by simp[gN])).2.trans hb) a b c
 |lO h hb=>exact .lO ((one (by simp[gN])).1.trans h) ((one (by simp[gN])).2.trans hb)
 |sub h hb a b c=>exact .sub ((one (by simp[gN])).1.trans h) ((one (by simp[gN])).2.trans hb) a b c
 |ptr h hd hb=>exact .ptr ((one (by simp[gN])).1.trans h) hd ((one (by simp[gN])).2.trans hb)
 |oj h yW=>exact .oj ((one (by simp[gN])).1.trans h) yW
 |om h yW=>exact .om ((one (by simp[gN])).1.trans h) yW
 |row h hb a b c d=>exact .row ((one (by simp[gN])).1.trans h) ((one (by simp[gN])).2.trans hb) a b c d
 |eJ h hb a b c d e=>exact .eJ ((one (by simp[gN])).1.trans h) ((one (by simp[gN])).2.trans hb) a b c d e
 |fQ=>exact .fQ
 |mK h=>exact .mK ((one (by simp[gN])).1.trans h)
 |cX h hb=>exact .cX ((one (by simp[gN])).1.trans h) ((one (by simp[gN])).2.trans hb)
theorem QG{a b:LV}{n:Nat}(h:a.length=n):(a++b).drop n=b:=by subst h;simp
def Jk(n:Nat)(β:Nat->Option Nat)(hp:Nat->Option ah)(β':Nat->Option Nat)(hp':Nat->Option ah):Prop:=∀id,id<n->hp' id=hp id∧β' id=β id
theorem agK{l:LS}{x:V}{ds:LV}{n:Nat}{v:Value}(h:iF l x=some ds)(av:l.ok n=true)(lR:Jk n β hp β' hp')(hv:ak P w I β hp v x)(rest:LV):
  ak P w I β' hp' v (mF l (ds++rest)):=by
 rcases(QF h).2 with e|e
 .subst e;exact .undef
 .rw[e rest];by_cases hu:l=.Al
  .subst hu;have:x=.undef:=(e rest).symm;subst this;exact .undef
  .obtain⟨h1,h2⟩:=asO h hu av;exact hv.asP h1 fun id ae=>lR id (h2 id ae)
theorem Jl{n:Nat}(lR:Jk n β hp β' hp'):∀{ls:List LS}{xs:LV}{ds:LV},wu ls xs=some ds->ls.all (LS.ok n)=true->
  ds.length=oY ls∧(∀rest,(jQ ls (ds++rest)).length=xs.length)∧
  ∀(rest:LV) (j:Nat) (v:Value) (y:V),(∀x,xs[j]?=some x->ak P w I β hp v x)->(jQ ls (ds++rest))[j]?=some y->ak P w I β' hp' v y
 |[],[],ds,h,_=>by cases h;exact⟨rfl,fun _=>rfl,fun rest j v y _ hy=>by simp[jQ]at hy⟩
 |[],_::_,ds,h,_=>by cases h
 |_::_,[],ds,h,_=>by cases h
 |l::ls,x::xs,ds,h,av=>by
  simp only[wu]at h;obtain⟨a,h1,h⟩:=bind_some h;obtain⟨b,h2,h⟩:=bind_some h;cases h;simp only[List.all_cons,aZ]at av;obtain⟨i1,i2,i3⟩:=Jl lR h2 av.2;have fx:=(QF h1).1;have hd:∀rest,(a++b++rest).drop l.size=b++rest:=fun rest=>zG;refine⟨by simp only[dQ,oY];omega,fun rest=>by simp only[jQ,List.length_cons,hd,i2],fun rest j v y hv hy=>?_⟩;simp only[jQ,hd]at hy;cases j with
  |zero=>
   simp at hy;subst hy;exact agK h1 av.1 lR (hv x rfl) _
  |succ j=>grind
theorem Xo:∀{ls:List LS}{xs:LV}{ds:LV},wu ls xs=some ds->ls.all LS.plain=true->ds.length=oY ls∧∀rest,jQ ls (ds++rest)=xs
 |[],[],ds,h,_=>by cases h;exact⟨rfl,fun _=>rfl⟩
 |[],_::_,ds,h,_=>by cases h
 |_::_,[],ds,h,_=>by cases h
 |l::ls,x::xs,ds,h,av=>by
  simp only[wu]at h;obtain⟨a,h1,h⟩:=bind_some h;obtain⟨b,h2,h⟩:=bind_some h;cases h;simp only[List.all_cons,aZ]at av;obtain⟨i1,i2⟩:=Xo h2 av.2;obtain⟨fx,hm⟩:=QF h1;refine⟨by simp only[dQ,oY];omega,fun rest=>?_⟩;simp only[jQ];rw[show(a++b++rest).drop l.size=b++rest by grind,i2,iC];rcases hm with e|e
  .subst e;cases av.1
  .rw[e]
theorem Xp{n:Nat}(lR:Jk n β hp β' hp'){s:VS}{x:V}{ds:LV}(h:wv s x=some ds)(av:s.ok n=true):
  ds.length=s.size∧∀(rest:LV) (v:Value),ak P w I β hp v x->ak P w I β' hp' v (oZ s (ds++rest)):=by
 cases s with
 |one l=>exact⟨(QF h).1,fun rest v hv=>agK h av lR hv rest⟩
 |agg ls=>
  cases x<;>simp only[wv]at h<;>first|(cases h;done)|skip
  rename_i xs;obtain⟨i1,i2,i3⟩:=Jl (P:=P) (w:=w) (I:=I) lR h av;refine⟨i1,fun rest v hv=>?_⟩;obtain⟨cs,rfl,e1,e2⟩:=hv.o6;exact .agg zG fun j v y hj hy=>i3 rest j v y (fun x hx=>e2 j v x hj hx) hy
 |ct ls=>
  cases x<;>simp only[wv]at h<;>first|(cases h;done)|skip
  rename_i xs;obtain⟨i1,i2,i3⟩:=Jl (P:=P) (w:=w) (I:=I) lR h av;refine⟨i1,fun rest v hv=>?_⟩;obtain⟨cs,rfl,e1,e2⟩:=hv.Cw;exact .ct zG fun j v y hj hy=>i3 rest j v y (fun x hx=>e2 j v x hj hx) hy
 |fn f a b=>
  cases x<;>simp only[wv]at h<;>first|(cases h;done)|skip
  rename_i f' xs ys;cases hb:Nat.beq f f' with
  |false=>grind
  |true=>
   rw[hb]at h;rw[bK]at hb;subst hb;simp only[cond_true]at h;obtain⟨p,h1,h⟩:=bind_some h;obtain⟨q,h2,h⟩:=bind_some h;cases h;simp only[VS.ok,aZ]at av;obtain⟨i1,i2,i3⟩:=Jl (P:=P) (w:=w) (I:=I) lR h1 av.1;obtain⟨j1,j2,j3⟩:=Jl (P:=P) (w:=w) (I:=I) lR h2 av.2;refine⟨by simp only[dQ,VS.size];omega,fun rest v hv=>?_⟩;cases hv with
   |fn a1 a2 b1 b2=>
    simp only[oZ];rw[show(p++q++rest).drop (oY a)=q++rest by grind,iC];exact .fn zG (fun j v y hj hy=>i3 _ j v y (fun x hx=>a2 j v x hj hx) hy) zG (fun j v y hj hy=>j3 _ j v y (fun x hx=>b2 j v x hj hx) hy)
 |pref ts ls=>
  cases x<;>simp only[wv]at h<;>first|(cases h;done)|skip
  rename_i wx xs;cases hb:iF.tQ ts wx with
  |false=>grind
  |true=>
   rw[hb]at h;have:=CN hb;subst this;simp only[cond_true]at h;refine⟨?_,fun rest v hv=>?_⟩
   .exact(Xo h av).1
   .simp only[oZ];rw[(Xo h av).2];cases hv with
    |pref hl hI hc=>exact .pref hl hI hc
theorem Jm{n:Nat}(lR:Jk n β hp β' hp'):∀{ls:List VS}{xs:LV}{ds:LV},yk ls xs=some ds->ls.all (VS.ok n)=true->
  ds.length=Ar ls∧(∀rest,(kN ls (ds++rest)).length=xs.length)∧
  ∀(rest:LV) (j:Nat) (v:Value) (y:V),(∀x,xs[j]?=some x->ak P w I β hp v x)->(kN ls (ds++rest))[j]?=some y->ak P w I β' hp' v y
 |[],[],ds,h,_=>by cases h;exact⟨rfl,fun _=>rfl,fun rest j v y _ hy=>by simp[kN]at hy⟩
 |[],_::_,ds,h,_=>by cases h
 |_::_,[],ds,h,_=>by cases h
 |l::ls,x::xs,ds,h,av=>by
  simp only[yk]at h;obtain⟨a,h1,h⟩:=bind_some h;obtain⟨b,h2,h⟩:=bind_some h;cases h;simp only[List.all_cons,aZ]at av;obtain⟨i1,i2,i3⟩:=Jm lR h2 av.2;obtain⟨fx,Jb⟩:=Xp (P:=P) (w:=w) (I:=I) lR h1 av.1;have hd:∀rest,(a++b++rest).drop l.size=b++rest:=fun rest=>zG;refine⟨by simp only[dQ,Ar];omega,fun rest=>by simp only[kN,List.length_cons,hd,i2],fun rest j v y hv hy=>?_⟩;simp only[kN,hd]at hy;grind
end
section
variable {P:Program}{A:eh}{w w':World}{I I' I2:Nat->Nat->Prop}{μ β β':Nat->Option Nat}{hp hp' hp0:Nat->Option ah}{C:ab}{B:Nat}{M:Nat->Prop}{w0:Start}
theorem mo:∀{l:List ah}{j:Nat},o0 l j=l[j]?
 |[],j=>by simp[o0]
 |b::l,0=>rfl
 |b::l,j+1=>by simp only[o0,mo,List.getElem?_cons_succ]
theorem Xq{sl:Nat->V}{k:Nat}{y:V}:∀{l:List (Nat×VS)}{ds:LV},Im sl l=some ds->(∀p∈l,∀d,wv p.2 (sl p.1)=some d->d.length=p.2.size)->
  ds.length=u9 l∧∀rest,gM (j7 l (ds++rest)) k=some y->∃s d lr,(k,s)∈l∧wv s (sl k)=some d∧y=oZ s (d++lr)
 |[],ds,h,_=>by cases h;exact⟨rfl,fun rest h=>by cases h⟩
 |(q,s)::l,ds,h,hz=>by
  simp only[Im]at h;obtain⟨a,h1,h⟩:=bind_some h;obtain⟨b,h2,h⟩:=bind_some h;cases h;obtain⟨i1,i2⟩:=Xq (k:=k) (y:=y) h2 fun p hp=>hz p (sB _ hp);have fx:=hz (q,s) (B0 ..) a h1;refine⟨by simp only[dQ,u9];simp only at fx;omega,fun rest hl=>?_⟩;simp only[j7,gM]at hl;rw[show(a++b++rest).drop s.size=b++rest by rw[iC];exact QG fx]at hl;cases hb:Nat.beq k q with
  |true=>
   rw[hb]at hl;rw[bK]at hb;subst hb;cases hl;exact⟨s,a,b++rest,B0 ..,h1,by rw[iC]⟩
  |false=>
   rw[hb]at hl;obtain⟨s',d,lr,m1,m2,m3⟩:=i2 rest hl;exact⟨s',d,lr,sB _ m1,m2,m3⟩
theorem Xr{α:Type}{c:Bool}{x:Option α}{a:α}(h:(bif c then x else none)=some a):c=true∧x=some a:=by
 cases c with
 |true=>exact⟨rfl,h⟩
 |false=>cases h
theorem asQ{n:Nat}{b:BS}{o:Option ah}{ds:LV}(h:qv b o=some ds)(av:b.ok n=true):ds.length=b.size:=by
 cases b with
 |dead=>cases o<;>(cases h;rfl)
 |var T0 ls=>
  cases o with
  |none=>cases h
  |some blk=>
   cases blk<;>simp only[qv]at h<;>first|(cases h;done)|skip
   exact(Jm (P:=default) (w:=default) (I:=fun _ _=>False) (β:=fun _=>none) (hp:=fun _=>none) (fun _ _=>⟨rfl,rfl⟩) (Xr h).2 av).1
 |arr e fz=>
  cases o with
  |none=>cases h
  |some blk=>
   cases blk<;>simp only[qv]at h<;>first|(cases h;done)|skip
   rw[CO h]at h;cases h;rfl
 |nest e=>
  cases o with
  |none=>cases h
  |some blk=>
   cases blk<;>simp only[qv]at h<;>first|(cases h;done)|skip
   rw[CO h]at h;cases h;rfl
 |map t=>
  cases o with
  |none=>cases h
  |some blk=>
   cases blk<;>simp only[qv]at h<;>first|(cases h;done)|skip
   rw[CO h]at h;cases h;rfl
theorem agL{n:Nat}:∀{l:List BS}{j:Nat}{ds:LV},Io hp j l=some ds->l.all (BS.ok n)=true->
  (∀rest,(jl l (ds++rest)).length=l.length)∧∀(rest:LV) (i:Nat) (blk:ah),(jl l (ds++rest))[i]?=some blk->∃b d lr,l[i]?=some b∧b.ok n=true∧qv b (hp (j+i))=some d∧blk=jR b (d++lr)
 |[],j,ds,h,_=>by cases h;exact⟨fun _=>rfl,fun rest i blk hb=>by simp[jl]at hb⟩
 |b::l,j,ds,h,av=>by
  simp only[Io]at h;obtain⟨a,h1,h⟩:=bind_some h;obtain⟨c,h2,h⟩:=bind_some h;cases h;simp only[List.all_cons,aZ]at av;obtain⟨i1,i2⟩:=agL h2 av.2;have fx:=asQ h1 av.1;have hd:∀rest,(a++c++rest).drop b.size=c++rest:=fun rest=>by rw[iC];exact QG fx
  refine⟨fun rest=>by simp only[jl,List.length_cons,hd,i1],fun rest i blk hb=>?_⟩;simp only[jl,hd]at hb;cases i with
  |zero=>
   simp at hb;exact⟨b,a,c++rest,rfl,av.1,h1,by rw[<-hb]⟩
  |succ i=>
   obtain⟨b',d,lr,m1,m2,m3,m4⟩:=i2 rest i blk (by simpa using hb);exact⟨b',d,lr,by simpa using m1,m2,by rw[show j+(i+1)=j+1+i by omega];exact m3,m4⟩
theorem asR{n:Nat}{b:BS}{blk:ah}{ds rest:LV}(h:qv b (some blk)=some ds)(av:b.ok n=true):
  blk.le (jR b (ds++rest))∧(jR b (ds++rest)=.dead∨jR b (ds++rest)=blk∨∃T ls cs,b=.var T ls∧blk=.var T cs∧yk ls cs=some ds∧jR b (ds++rest)=.var T (kN ls (ds++rest))):=by
 cases b with
 |dead=>exact⟨by cases blk<;>trivial,.inl rfl⟩
 |var T0 ls=>
  cases blk<;>simp only[qv]at h<;>first|(cases h;done)|skip
  obtain⟨hT,h0⟩:=Xr h;clear h;rw[bK]at hT;subst hT;exact⟨rfl,.inr (.inr ⟨_,_,_,rfl,rfl,h0,rfl⟩)⟩
 |arr e fz=>
  cases blk<;>simp only[qv]at h<;>first|(cases h;done)|skip
  rename_i e' es u7;have hb:=CO h;simp only[aZ,bK,EO]at hb;obtain⟨rfl,rfl⟩:=hb;simp only[oT,beq_self_eq_true,H4,cond_true,gi]at h;subst h;exact⟨⟨rfl,rfl⟩,.inr (.inl rfl)⟩
 |nest e=>
  cases blk<;>simp only[qv]at h<;>first|(cases h;done)|skip
  rename_i e' es vers;have hb:=CO h;simp only[aZ,bK]at hb;obtain⟨rfl,hv⟩:=hb;have:=CN hv;subst this;simp only[oT,uX]at h;cases h;exact⟨⟨rfl,rfl,rfl,fun _=>aC _⟩,.inr (.inl rfl)⟩
 |map t=>
  cases blk<;>simp only[qv]at h<;>first|(cases h;done)|skip
  rename_i t' es;have hb:=CO h;rw[bK]at hb;subst hb;simp only[oT,cond_true,gi]at h;subst h;exact⟨rfl,.inr (.inl rfl)⟩
theorem agM{m:Nat}{S:Shape}{st:St}{ds:LV}(h:nj m S st=some ds):
  S.ok=true∧m<=S.dN.length∧∃a b,Im st.sl S.cW=some a∧Io st.hp 0 S.dN=some b∧ds=a++b:=by
 unfold nj at h;cases hc:(S.ok&&Nat.ble m S.dN.length)with
 |false=>rw[hc]at h;cases h
 |true=>
  rw[hc]at h;simp only[cond_true]at h;simp only[aZ,gg]at hc;obtain⟨a,h1,h⟩:=bind_some h;obtain⟨b,h2,h⟩:=bind_some h;cases h;exact⟨hc.1,hc.2,a,b,h1,h2,rfl⟩
theorem reshape{m:Nat}{S:Shape}{st:St}{ds:LV}(h:nj m S st=some ds)(hS:aK P w I β st.hp B M w0):
  aK P w I β (cD S ds).hp B M w0∧(∀(k:Nat) (v:Value),ak P w I β st.hp v (st.sl k)->ak P w I β (cD S ds).hp v ((cD S ds).sl k))∧
  (∀(μ:Nat->Option Nat) (hp0:Nat->Option ah),(∀id blk,hp0 id=some blk->id<m)->Le P w0.w w0.I μ hp0 w I β st.hp->Le P w0.w w0.I μ hp0 w I β (cD S ds).hp)∧
  ∀j blk',(cD S ds).hp j=some blk'->blk'≠.dead->∃blk,st.hp j=some blk∧blk.le blk'∧∀o b,bW P w o blk' b->bW P w o blk b:=by
 obtain⟨av,hm,a,b,h1,h2,rfl⟩:=agM h;unfold Shape.ok at av;rw[aZ]at av;obtain⟨qD,agt⟩:=av;have bR:∀p∈S.cW,∀d,wv p.2 (st.sl p.1)=some d->d.length=p.2.size:=fun p hp d hd=>
  (Xp (P:=P) (w:=w) (I:=I) (β:=β) (hp:=st.hp) (fun _ _=>⟨rfl,rfl⟩) hd (il.1 qD p hp)).1
 have fx:a.length=u9 S.cW:=(Xq (k:=0) (y:=.undef) h1 bR).1;have Qw:(cD S (a++b)).hp=o0 (jl S.dN (b++[])):=by
  simp only[cD,mk,jO];rw[QG fx]
 obtain⟨bl,bg⟩:=agL h2 agt;have get:∀j blk',(cD S (a++b)).hp j=some blk'->j<S.dN.length∧∃bs d lr,bs.ok S.dN.length=true∧qv bs (st.hp j)=some d∧blk'=jR bs (d++lr):=by
  intro j blk' hj;rw[Qw,mo]at hj;obtain⟨bs,d,lr,m1,m2,m3,m4⟩:=bg [] j blk' hj;rw[dT]at m3;exact⟨(dw.1 m1).1,bs,d,lr,m2,m3,m4⟩
 have have':∀j,j<S.dN.length->∃blk',(cD S (a++b)).hp j=some blk':=by
  intro j hj;rw[Qw,mo];exact⟨_,cA (by rw[bl];exact hj)⟩
 generalize gO:(cD S (a++b)).hp=CP at*
 let cC:Nat->Option ah:=fun id=>if id<S.dN.length then CP id else st.hp id
 have back:∀j blk',CP j=some blk'->blk'≠.dead->∃blk,st.hp j=some blk∧blk.le blk'∧(blk'=blk∨∃T ls cs d lr,ls.all (VS.ok S.dN.length)=true∧blk=.var T cs∧yk ls cs=some d∧blk'=.var T (kN ls (d++lr))):=by
  intro j blk' hj hd;obtain⟨eX,bs,d,lr,m1,m2,m3⟩:=get j blk' hj;cases cv:st.hp j with
  |none=>
   rw[cv]at m2;cases bs<;>simp only[qv]at m2<;>first|(cases m2;done)|skip
   exact absurd m3 hd
  |some blk=>
   rw[cv]at m2;obtain⟨n1,n2⟩:=asR (rest:=lr) m2 m1;rw[<-m3]at n1 n2;refine⟨blk,rfl,n1,?_⟩;rcases n2 with e|e|⟨T,ls,cs,e1,e2,e3,e4⟩
   .exact absurd e hd
   .exact .inl e
   .subst e1;exact .inr ⟨T,ls,cs,d,lr,m1,e2,e3,e4⟩
 have le1:∀j blk,st.hp j=some blk->j<S.dN.length->∃blk',CP j=some blk'∧blk.le blk':=by
  intro j blk hj eX;obtain⟨blk',aI⟩:=have' j eX;refine⟨blk',aI,?_⟩;by_cases hd:blk'=.dead
  .subst hd;cases blk<;>trivial
  .obtain⟨dq,e1,e2,_⟩:=back j blk' aI hd;rw[hj]at e1;cases e1;exact e2
 have asS:∀j e es vers e' bm vers',st.hp j=some (.nest e es vers)->CP j=some (.nest e' bm vers')->e'=e∧bm=es∧vers'=vers:=by
  intro j e es vers e' bm vers' hj kz;obtain⟨blk,e1,_,e3⟩:=back j _ kz zS;rw[hj]at e1;cases e1;rcases e3 with e3|⟨_,_,_,_,_,_,e3,_⟩
  .cases e3;exact⟨rfl,rfl,rfl⟩
  .cases e3
 have hle:Le P w I β st.hp w I β cC:=by
  refine⟨fun _ _ h=>h,fun _ _ _=>rfl,fun id blk ae=>?_,fun _ _ _ _ _ _ _ _=>rfl,Le.yM (fun _ _ _ _ _ _=>rfl) fun id e es vers e' bm vers' ae cI=>?_⟩
  .by_cases hl:id<S.dN.length
   .obtain⟨blk',e1,e2⟩:=le1 id blk ae hl;exact⟨blk',by simp only[cC,ai hl];exact e1,e2,fun _=>rfl⟩
   .exact⟨blk,by simp only[cC,af hl];exact ae,ah.le_refl _,fun _=>rfl⟩
  .by_cases hl:id<S.dN.length
   .simp only[cC,ai hl]at cI;exact asS _ _ _ _ _ _ _ ae cI
   .simp only[cC,af hl]at cI;rw[ae]at cI;cases cI;exact⟨rfl,rfl,rfl⟩
 have lR:Jk S.dN.length β cC β CP:=fun id ae=>⟨by simp only[cC,ai ae],rfl⟩
 have wF:∀j blk' blk o b,CP j=some blk'->st.hp j=some blk->bW P w o blk' b->bW P w o blk b:=by
  intro j blk' blk o b kz hj ho;obtain⟨dq,e1,_,e3⟩:=back j blk' kz ho.alive;rw[hj]at e1;cases e1;rcases e3 with e3|⟨T,ls,cs,d,lr,_,e3,_,e5⟩
  .subst e3;exact ho
  .subst e3;subst e5;exact .root zS (ho.flat zS)
 refine⟨⟨⟨fun j blk' hj=>?_,fun j1 j2 b1 b2 b' e1 e2 o1 o2=>?_,fun j blk b' hj ho=>?_,hS.h.ln⟩,hS.dH,hS.size,hS.new,hS.io⟩,fun k v hv=>?_,fun μ hp0 bt hE=>?_,fun j blk' hj hd=>?_⟩
 .by_cases hd:blk'=.dead
  .subst hd;exact .dead
  .obtain⟨blk,e1,_,e3⟩:=back j blk' hj hd;have hr:=hS.h.rel j blk e1;generalize β j=o at hr;rcases e3 with e3|⟨T0,ls,cs,d,lr,q1,e3,e4,e5⟩
   .subst e3;cases hr with
    |@var xs b' Ca T hb hh hs ep hx nn=>
     obtain⟨eX,bs,d,lr,m1,m2,m3⟩:=get j _ hj;rw[e1]at m2;cases bs<;>simp only[qv]at m2<;>first|(cases m2;done)|skip
     .rename_i T0 ls;simp only[jR]at m3;obtain⟨hT,m2⟩:=Xr m2;obtain⟨i1,i2,i3⟩:=Jm (P:=P) (w:=w) (I:=I) lR m2 m1;injection m3 with m4 m3;rw[m3];exact .var hb hh (by rw[i2];exact hs) ep (fun i v y hi hy=>i3 lr i v y (fun x eo=>(hx i v x hi eo).mono hle) hy) nn
     .simp only[jR]at m3;cases m3
    |gk hb=>exact .gk hb
    |arr a0 a1 a2 a3 a4 a5 a6 a7=>exact .arr a0 a1 a2 a3 a4 a5 a6 a7
    |dead=>exact absurd rfl hd
    |nest a1 a2 a3=>exact .nest a1 a2 a3
    |j8 a1=>exact .j8 a1
    |out a1 a2 a3 a4 a5 a6 a7 a8 a9 a10=>exact .out a1 a2 a3 a4 a5 a6 a7 a8 a9 a10
    |map a1 a2 a3 a4 a5 a6 a7=>exact .map a1 a2 a3 a4 a5 a6 a7
   .subst e3;subst e5;cases hr with
    |@var xs b' Ca T hb hh hs ep hx nn=>
     obtain⟨i1,i2,i3⟩:=Jm (P:=P) (w:=w) (I:=I) lR e4 q1;exact .var hb hh (by rw[i2];exact hs) ep (fun i v y hi hy=>i3 lr i v y (fun x eo=>(hx i v x hi eo).mono hle) hy) nn
 .obtain⟨c1,x1,_,_⟩:=back j1 b1 e1 o1.alive;obtain⟨c2,x2,_,_⟩:=back j2 b2 e2 o2.alive;exact hS.h.inj j1 j2 c1 c2 b' x1 x2 (wF _ _ _ _ _ e1 x1 o1) (wF _ _ _ _ _ e2 x2 o2)
 .obtain⟨c1,x1,_,_⟩:=back j blk hj ho.alive;exact hS.h.own j c1 b' x1 (wF _ _ _ _ _ hj x1 ho)
 .change ak P w I β CP v (og (j7 S.cW (a++b)) k);unfold og;cases Xs:gM (j7 S.cW (a++b)) k with
  |none=>exact .undef
  |some y=>
   obtain⟨s,d,lr,n1,n2,n3⟩:=(Xq h1 bR).2 b Xs;simp only[Option.getD_some,n3];exact(Xp (P:=P) (w:=w) (I:=I) lR n2 (il.1 qD _ n1)).2 lr v (hv.mono hle)
 .have h3:=hE.trans hle;refine⟨h3.fT,h3.dH,fun id blk ae=>?_,fun id blk blk' b' ae cI hd hb=>?_,fun id e es vers e' bm vers' b2 q i c t v e1 l ae cI=>?_⟩
  .have hl:=bt id blk ae;obtain⟨blk',k1,k2,k3⟩:=h3.blk id blk ae;simp only[cC,ai (show id<S.dN.length by omega)]at k1;exact⟨blk',k1,k2,k3⟩
  .have hl:=bt id blk ae;exact h3.size id blk blk' b' ae (by simp only[cC,ai (show id<S.dN.length by omega)];exact cI) hd hb
  .have hl:=bt id _ ae;exact h3.row id e es vers e' bm vers' b2 q i c t v e1 l ae (by simp only[cC,ai (show id<S.dN.length by omega)];exact cI)
 .obtain⟨blk,e1,e2,_⟩:=back j blk' hj hd;exact⟨blk,e1,e2,fun o b' ho=>wF _ _ _ _ _ hj e1 ho⟩
end
section
variable {P:Program}{A:eh}{w w':World}{I I' I2:Nat->Nat->Prop}{μ β β':Nat->Option Nat}{hp hp' hp0:Nat->Option ah}{C:ab}{B:Nat}{M:Nat->Prop}{w0:Start}
inductive iu(P:Program)(w:World)(β:Nat->Option Nat)(hp:Nat->Option ah):Place->Option Nat->ah->Prop
 |var {id:Nat}{T:TypeId}{cs Xu:LV}:hp id=some (.var T cs)->iu P w β hp (.blk id) (β id) (.var T Xu)
 |arr {id:Nat}{e:TypeId}{es:LV}{fz:Bool}:hp id=some (.arr e es fz)->iu P w β hp (.blk id) (β id) (.arr e es fz)
 |nest {id:Nat}{e:TypeId}{es:LV}{vers:LN}:hp id=some (.nest e es vers)->iu P w β hp (.blk id) (β id) (.nest e es [0,0,0])
 |row {id ver b b':Nat}{path:Path}{e0 e':TypeId}{es l:LV}{vers:LN}:hp id=some (.nest e0 es vers)->β id=some b->At P w b e0 es path b' e' l->Il P e'=true->
   0<path.length->path.length<=vers.length->cq vers (path.length-1)=ver->0<l.length->iu P w β hp (.row id ver path) (some b') (.arr e' l false)
 |map {id:Nat}{t:TypeId}{es:LV}:hp id=some (.map t es)->iu P w β hp (.blk id) (β id) (.map t es)
def Jn(P:Program)(w:World)(β:Nat->Option Nat)(hp:Nat->Option ah)(ρ:List Place)(μ:Nat->Option Nat)(hp0:Nat->Option ah):Prop:=
 ∀j p,iG ρ j=some p->∃blk,hp0 j=some blk∧iu P w β hp p (μ j) blk
theorem vy:∀{l m:List Place}{j:Nat}{p:Place},iG l j=some p->iG (l++m) j=some p
 |[],m,j,p,h=>by cases h
 |a::l,m,0,p,h=>h
 |a::l,m,j+1,p,h=>vy (l:=l) h
theorem rH:∀{l:List Place}{j:Nat},iG l j=l[j]?
 |[],j=>by simp[iG]
 |a::l,0=>rfl
 |a::l,j+1=>by simp only[iG,rH,List.getElem?_cons_succ]
def asT(hp:Nat->Option ah)(q:Nat×ah):Prop:=E8 hp q∨∃T cs,q.2=.var T cs∧hp q.1=some (.var T cs)
structure Ext(P:Program)(w:World)(I:Nat->Nat->Prop)(β:Nat->Option Nat)(hp:Nat->Option ah)(h h':Hand)(d:LV)(u:List (Nat×ah)):Prop where
 ds:h'.ds=h.ds++d
 upd:h'.upd=h.upd++u
 Jo:∀q∈u,asT hp q
 pl:∃m,h'.pl=h.pl++m
 nodup:(h.pl.map Place.id).Nodup->(h'.pl.map Place.id).Nodup
theorem Ext.refl(h:Hand):Ext P w I β hp h h [] []:=⟨zS,zS,zS,⟨[],zS⟩,id⟩
theorem Ext.trans{h1 h2 h3:Hand}{d1 d2:LV}{u1 u2:List (Nat×ah)}(a:Ext P w I β hp h1 h2 d1 u1)(b:Ext P w I β hp h2 h3 d2 u2):Ext P w I β hp h1 h3 (d1++d2) (u1++u2):=by
 obtain⟨m1,e1⟩:=a.pl;obtain⟨m2,e2⟩:=b.pl;exact⟨by rw[b.ds,a.ds,iC],by rw[b.upd,a.upd,iC],fun q hq=>(gh.1 hq).elim (a.Jo q) (b.Jo q),⟨m1++m2,zG⟩,fun h=>b.nodup (a.nodup h)⟩
theorem Ext.look{h h':Hand}{d:LV}{u:List (Nat×ah)}(a:Ext P w I β hp h h' d u){j:Nat}{p:Place}(hj:iG h.pl j=some p):iG h'.pl j=some p:=by
 obtain⟨m,e⟩:=a.pl;rw[e];exact vy hj
theorem Ext.leaf(h:Hand)(x:V):Ext P w I β hp h {h with ds:=h.ds++[x]} [x] []:=⟨rfl,zS,zS,⟨[],zS⟩,id⟩
theorem asU{α:Type}{ρ:List Place}{j:Nat}{p:Place}{k:List Place->Rd α}{r:α}{rd:LN}(h:(unify ρ j p k).run C hp=some (r,rd))(hb:∃id,p=.blk id∨∃ver path,p=.row id ver path):
  ∃ph,(k ph).run C hp=some (r,rd)∧(∃m,ph=ρ++m)∧iG ph j=some p∧((ρ.map Place.id).Nodup->(ph.map Place.id).Nodup):=by
 unfold unify at h;cases hc:Nat.blt j ρ.length with
 |true=>
  rw[hc]at h;obtain⟨h1,h2⟩:=aX h;refine⟨ρ,h2,⟨[],zS⟩,?_,id⟩;unfold afn at h1;split at h1
  all_goals simp_all
 |false=>
  rw[hc]at h;obtain⟨h1,h2⟩:=aX h;simp only[aZ,bK,ng]at h1;obtain⟨rfl,h3⟩:=h1;refine⟨ρ++[p],h2,⟨[p],rfl⟩,?_,fun hn=>?_⟩
  .rw[rH];simp
  .rw[sC,List.nodup_append];refine⟨hn,zS,fun a ha b hb=>?_⟩;simp only[iB,yr,oc]at hb;subst hb;intro e;subst e;rw[Fg ha]at h3;cases h3
theorem CQ{α:Type}{h:Hand}{j:Nat}{p:Place}{k:List Place->Rd α}{r:α}{rd:LN}(hr:(unify h.pl j p k).run C hp=some (r,rd))(ds:LV):
  ∃ph,(k ph).run C hp=some (r,rd)∧iG ph j=some p∧Ext P w I β hp h {h with pl:=ph,ds:=h.ds++ds} ds []:=by
 obtain⟨ph,a,b,c,d⟩:=asU hr (by cases p with|blk id=>grind|row id ver path=>grind);exact⟨ph,a,c,⟨rfl,zS,zS,b,d⟩⟩
theorem asV{o:Option Nat}{blk:ah}{e:TypeId}{id j:Nat}{v:Value}(hv:ak P w I β hp v (.whole e id))(hl:iu P w β hp (.blk id) o blk)(hj:hp0 j=some blk)(oA:μ j=o):ak P w I' μ hp0 v (.whole e j):=by
 cases hl with
 |var h=>
  cases hv with
  |fM h2=>grind
  |fF h2=>grind
  |whole h2=>grind
  |fq h2=>grind
  |fS h2=>grind
  |iJ h2=>grind
 |arr h=>
  cases hv with
  |fM h2=>grind
  |fF h2 hb=>rw[h]at h2;cases h2;exact .fF hj (oA.trans hb)
  |whole h2 hb a b c=>rw[h]at h2;cases h2;exact .whole hj (oA.trans hb) a b c
  |fq h2=>grind
  |fS h2=>grind
  |iJ h2=>grind
 |nest h=>
  cases hv with
  |fM h2=>grind
  |fF h2=>grind
  |whole h2=>grind
  |fq h2 hb a b c=>rw[h]at h2;cases h2;exact .fq hj (oA.trans hb) a b c
  |fS h2 hb=>rw[h]at h2;cases h2;exact .fS hj (oA.trans hb)
  |iJ h2=>grind
 |map h=>
  cases hv with
  |fM h2=>grind
  |fF h2=>grind
  |whole h2=>grind
  |fq h2=>grind
  |fS h2=>grind
  |iJ h2=>grind
theorem asW{o:Option Nat}{blk:ah}{t:TypeId}{id j:Nat}{v:Value}(hv:ak P w I β hp v (.cX t id))(hl:iu P w β hp (.blk id) o blk)(hj:hp0 j=some blk)(oA:μ j=o):ak P w I' μ hp0 v (.cX t j):=by
 cases hv with
 |mK h2=>cases hl<;>(grind)
 |cX h2 hb=>
  cases hl<;>(rename_i h;rw[h]at h2;cases h2)
  exact .cX hj (oA.trans hb)
theorem asX{o:Option Nat}{blk:ah}{e:TypeId}{id off n j:Nat}{v:Value}(hv:ak P w I β hp v (.sub e id off n))(hl:iu P w β hp (.blk id) o blk)(hj:hp0 j=some blk)(oA:μ j=o):ak P w I' μ hp0 v (.sub e j off n):=by
 cases hl with
 |var h=>
  cases hv with
  |lN h2=>grind
  |lO h2=>grind
  |sub h2=>grind
 |arr h=>
  cases hv with
  |lN h2=>grind
  |lO h2 hb=>rw[h]at h2;cases h2;exact .lO hj (oA.trans hb)
  |sub h2 hb a b c=>rw[h]at h2;cases h2;exact .sub hj (oA.trans hb) a b c
 |nest h=>
  cases hv with
  |lN h2=>grind
  |lO h2=>grind
  |sub h2=>grind
 |map h=>
  cases hv with
  |lN h2=>grind
  |lO h2=>grind
  |sub h2=>grind
theorem agN{o:Option Nat}{blk:ah}{id i c j:Nat}{v:Value}(hv:ak P w I β hp v (.ptr id i c))(hl:iu P w β hp (.blk id) o blk)(hj:hp0 j=some blk)(oA:μ j=o):ak P w I' μ hp0 v (.ptr j i c):=by
 cases hl with
 |@var _ T0 cs Xu h=>
  obtain⟨b,hb,rfl⟩:=hv.ov h zS;exact ak.ptr (blk:=.var T0 Xu) hj zS (oA.trans hb)
 |@arr _ e es fz h=>
  obtain⟨b,hb,rfl⟩:=hv.ov h zS;exact ak.ptr (blk:=.arr e es fz) hj zS (oA.trans hb)
 |@nest _ e es vers h=>
  obtain⟨b,hb,rfl⟩:=hv.ov h zS;exact ak.ptr (blk:=.nest e es [0,0,0]) hj zS (oA.trans hb)
 |@map _ t es h=>
  obtain⟨b,hb,rfl⟩:=hv.ov h zS;exact ak.ptr (blk:=.map t es) hj zS (oA.trans hb)
theorem asY(dF:∀id blk,hp id=some blk->gj P w I β hp (β id) blk){id b i c:Nat}{e0 t:TypeId}{es l:LV}{vers:LN}{q:Path}{e:TypeId}{v:Value}(ae:hp id=some (.nest e0 es vers))(hb:β id=some b)
  (ht:P.underlying t=some (.slice e)) (hc:sI P w b e0 es q i c t v (.list e l)) (hl:0<l.length):∃b1 cap,v=.slice (some ⟨b1,0,none⟩) l.length cap∧cap*P.cellsOf e=bsize w b1∧l.length<=cap∧cap<=maxLen∧At P w b e0 es (q++[(i,c)]) b1 e l:=by
 obtain⟨b2,e1,m,Ca,T,f,x,n1,n2,n3,n4,n5,n6⟩:=hc;have hr:=dF _ _ ae;cases hr with
 |j8 aI=>grind
 |nest aI hr hn=>
  rw[hb]at aI;cases aI;have hR:=hr _ _ _ _ n1;obtain⟨Cu,_,c1,_,c2,c3⟩:=hR.cells;rw[n2]at c1;cases c1;have Cv:c<P.cellsOf e1:=by rw[<-gE hR.ok];grind
  obtain⟨v',d1,d2⟩:=c3 i c x t n3 n4 Cv;rw[n6]at d1;cases d1;rw[n5]at d2;generalize hy:V.list e l=y at d2;cases d2 with
  |iI a p=>unfold fh at a;grind
  |emp hu=>grind
  |row hu oq bR cQ wD=>
   cases hy;exact⟨_,_,rfl,bR,cQ,wD,n1.snoc n2 n3 n4 ht n5 oq n6⟩
theorem asZ(S:aK P w I β hp B M w0){o:Option Nat}{blk:ah}{e:TypeId}{id ver j:Nat}{path:Path}{v:Value}(hv:ak P w I β hp v (.row e id ver path))(hl:iu P w β hp (.row id ver path) o blk)(hj:hp0 j=some blk)(oA:μ j=o):ak P w I' μ hp0 v (.whole e j):=by
 cases hl with
 |row h hb ha hf h1 h2 h3 h4=>
  obtain⟨b2,q,i,c,t,l2,rfl,fN,ht,hc⟩:=hv.Wj h h1 h2 h3;rw[hb]at fN;cases fN;obtain⟨p1,p2⟩:=Wk ha;have jn:=hc;obtain⟨b3,e3,m3,Ca,T,f,x,n1,n2,n3,n4,n5,n6⟩:=jn;obtain⟨q1,q2⟩:=PZ n1 n3 n4 ht n5;rw[p1]at q1;rw[p2]at q2;cases q1;cases q2;obtain⟨b1,cap,rfl,m1,m2,m4,m5⟩:=asY S.h.rel h hb ht hc h4;have:=as0 ha m5;subst this;exact .whole hj oA m1 m2 m4
where
 as0 {b b1 b2:Nat}{e e1 e2:TypeId}{es l l2:LV}{q:Path}(h:At P w b e es q b1 e1 l) (h2:At P w b e es q b2 e2 l2):b2=b1:=(h.fun h2).1
theorem agO(S:aK P w I β hp B M w0){α:Type}{l:LS}{x:V}{h:Hand}{k:Hand->Rd α}{r:α}{rd:LN}{v:Value}(hr:(PH P l x h k).run C hp=some (r,rd))(hv:ak P w I β hp v x):
  ∃h' jb d u,(k h').run C hp=some (r,jb)∧Ext P w I β hp h h' d u∧d.length=l.size∧
   ∀(I':Nat->Nat->Prop) (μ:Nat->Option Nat) (hp0:Nat->Option ah),(∀b j,I b j->I' b j)->(∀q∈u,∀b j,AB P w β hp q.1 b j->I' b j)->∀ρ m,ρ=h'.pl++m->Jn P w β hp ρ μ hp0->∀rest,ak P w I' μ hp0 v (mF l (d++rest)):=by
 have plain:∀{x':V}{ka:LN},(k {h with ds:=h.ds++[x']}).run C hp=some (r,ka)->l.size=1->(∀I' μ hp0 rest,ak P w I' μ hp0 v (mF l ([x']++rest)))->∃h' jb d u,(k h').run C hp=some (r,jb)∧Ext P w I β hp h h' d u∧d.length=l.size∧
   ∀(I':Nat->Nat->Prop) (μ:Nat->Option Nat) (hp0:Nat->Option ah),(∀b j,I b j->I' b j)->(∀q∈u,∀b j,AB P w β hp q.1 b j->I' b j)->∀ρ m,ρ=h'.pl++m->Jn P w β hp ρ μ hp0->∀rest,ak P w I' μ hp0 v (mF l (d++rest)):=
  fun hk hs hx=>⟨_,_,_,_,hk,Ext.leaf h _,hs.symm,fun I' μ hp0 _ _ _ _ _ _ rest=>hx I' μ hp0 rest⟩
 have CJ:∀{ka:LN},(k h).run C hp=some (r,ka)->l.size=0->(∀I' μ hp0 rest,ak P w I' μ hp0 v (mF l rest))->∃h' jb d u,(k h').run C hp=some (r,jb)∧Ext P w I β hp h h' d u∧d.length=l.size∧
   ∀(I':Nat->Nat->Prop) (μ:Nat->Option Nat) (hp0:Nat->Option ah),(∀b j,I b j->I' b j)->(∀q∈u,∀b j,AB P w β hp q.1 b j->I' b j)->∀ρ m,ρ=h'.pl++m->Jn P w β hp ρ μ hp0->∀rest,ak P w I' μ hp0 v (mF l (d++rest)):=
  fun hk hs hx=>⟨_,_,_,_,hk,Ext.refl h,by simp[hs],fun I' μ hp0 _ _ _ _ _ _ rest=>hx I' μ hp0 rest⟩
 unfold PH at hr;cases l with
 |Al=>exact CJ hr rfl fun _ _ _ _=>.undef
 |int kd=>
  cases x<;>simp only at hr<;>first|(cases hr;done)|skip
  obtain⟨h1,h2⟩:=aX hr;simp only[fp]at h1;subst h1;obtain rfl:=hv.jo;exact plain h2 rfl fun _ _ _ _=>.int
 |bool=>
  cases x<;>simp only at hr<;>first|(cases hr;done)|skip
  obtain rfl:=hv.o5;exact plain hr rfl fun _ _ _ _=>.bool
 |str=>
  cases x<;>simp only at hr<;>first|(cases hr;done)|skip
  obtain⟨s,rfl,hl⟩:=hv.rD;exact plain hr rfl fun _ _ _ _=>.str hl
 |nilS e=>
  cases x<;>simp only at hr<;>first|(cases hr;done)|skip
  obtain⟨h1,h2⟩:=aX hr;cases hv with
  |nilS=>exact CJ h2 rfl fun _ _ _ _=>.nilS
 |im=>
  cases x<;>simp only at hr<;>first|(cases hr;done)|skip
  cases hv with
  |im=>exact CJ hr rfl fun _ _ _ _=>.im
 |row e j cs=>
  cases x<;>simp only at hr<;>first|(cases hr;done)|skip
  rename_i e' id ver path;obtain⟨e0,es,vers,l0,ae,p1,p2,p3,hr⟩:=tT hr;obtain⟨h1,h2⟩:=aX hr;simp only[aZ,bK,gg]at h1;obtain⟨rfl,vk,hp3⟩:=h1;have:=CN vk;subst this;obtain⟨ph,a,b,c⟩:=CQ (P:=P) (w:=w) (I:=I) (β:=β) h2 (path.map fun p=>fw p.1);refine⟨_,_,path.map fun p=>fw p.1,[],a,c,by simp[LS.size],fun I' μ hp0 i1 i2 ρ m fo dx rest=>?_⟩;obtain⟨blk,k1,k2⟩:=dx j _ (by rw[fo];exact vy b);obtain⟨bb,q,i,cc,t,l,rfl,hb,ht,hc⟩:=hv.Wj ae p1 p2 p3;have sM:blk=.nest e0 es [0,0,0]∧μ j=β id:=by
   generalize μ j=o at k2;cases k2 with
   |var h=>grind
   |arr h=>grind
   |map h=>grind
   |nest h=>grind
  obtain⟨rfl,oA⟩:=sM;simp only[mF,QE];have hq:q.length<3:=zG;refine .row k1 (oA.trans hb) zO ?_ ht hc
  match q.length,hq with
  |0,_=>rfl
  |1,_=>rfl
  |2,_=>rfl
 |eJ j cs c=>cases hr
 |EX k n=>cases hr
 |Po b=>cases hr
 |fQ t=>
  cases x<;>simp only at hr<;>first|(cases hr;done)|skip
  obtain⟨h1,h2⟩:=aX hr;cases hv with
  |fQ=>exact CJ h2 rfl fun _ _ _ _=>.fQ
 |cX t j=>
  cases x<;>simp only at hr<;>first|(cases hr;done)|skip
  rename_i t' id;obtain⟨h1,h2⟩:=aX hr;rw[bK]at h1;subst h1;obtain⟨ph,a,b,c⟩:=CQ (P:=P) (w:=w) (I:=I) (β:=β) h2 [];refine⟨_,_,[],[],a,zG,rfl,fun I' μ hp0 i1 i2 ρ m fo dx rest=>?_⟩;obtain⟨blk,k1,k2⟩:=dx j _ (by rw[fo];exact vy b);exact asW hv k2 k1 rfl
 |list e=>
  obtain⟨⟨y,u⟩,l1,l2,h1,h2⟩:=qx hr;cases y<;>simp only at h2<;>first|(cases h2;done)|skip
  rename_i e' es;obtain⟨h3,h4⟩:=aX h2;rw[bK]at h3;subst h3;obtain⟨p1,p2⟩:=P0 S.h.rel h1 hv;exact⟨_,_,[.list e es],u,h4,⟨rfl,rfl,fun q hq=>.inl (p1 q hq),⟨[],zS⟩,id⟩,rfl,fun I' μ hp0 i1 i2 _ _ _ _ rest=>.list (p2 I' i1 i2)⟩
 |whole e j=>
  cases x<;>simp only at hr<;>first|(cases hr;done)|skip
  .rename_i e' id;obtain⟨h1,h2⟩:=aX hr;rw[bK]at h1;subst h1;obtain⟨ph,a,b,c⟩:=CQ (P:=P) (w:=w) (I:=I) (β:=β) h2 [];refine⟨_,_,[],[],a,zG,rfl,fun I' μ hp0 i1 i2 ρ m fo dx rest=>?_⟩;obtain⟨blk,k1,k2⟩:=dx j _ (by rw[fo];exact vy b);exact asV hv k2 k1 rfl
  .rename_i e' id ver path;obtain⟨h1,h2⟩:=aX hr;rw[bK]at h1;subst h1;obtain⟨ph,a,b,c⟩:=CQ (P:=P) (w:=w) (I:=I) (β:=β) h2 [];refine⟨_,_,[],[],a,zG,rfl,fun I' μ hp0 i1 i2 ρ m fo dx rest=>?_⟩;obtain⟨blk,k1,k2⟩:=dx j _ (by rw[fo];exact vy b);exact asZ S hv k2 k1 rfl
 |sub e j=>
  cases x<;>simp only at hr<;>first|(cases hr;done)|skip
  rename_i e' id o n;obtain⟨h1,h2⟩:=aX hr;rw[bK]at h1;subst h1;obtain⟨ph,a,b,c⟩:=CQ (P:=P) (w:=w) (I:=I) (β:=β) h2 [fw o,fw n];refine⟨_,_,[fw o,fw n],[],a,c,rfl,fun I' μ hp0 i1 i2 ρ m fo dx rest=>?_⟩;obtain⟨blk,k1,k2⟩:=dx j _ (by rw[fo];exact vy b);simpa[mF,V.nth]using asX (I':=I') hv k2 k1 rfl
 |ptr j=>
  cases x<;>simp only at hr<;>first|(cases hr;done)|skip
  rename_i id i c;obtain⟨ph,a,b,c'⟩:=CQ (P:=P) (w:=w) (I:=I) (β:=β) hr [fw i,fw c];refine⟨_,_,[fw i,fw c],[],a,c',rfl,fun I' μ hp0 i1 i2 ρ m fo dx rest=>?_⟩;obtain⟨blk,k1,k2⟩:=dx j _ (by rw[fo];exact vy b);simpa[mF,V.nth]using agN (I':=I') hv k2 k1 rfl
 |ba j i c=>
  cases x<;>simp only at hr<;>first|(cases hr;done)|skip
  rename_i id i' c';obtain⟨h1,h2⟩:=aX hr;simp only[aZ,bK]at h1;obtain⟨rfl,rfl⟩:=h1;obtain⟨ph,a,b,c'⟩:=CQ (P:=P) (w:=w) (I:=I) (β:=β) h2 [];refine⟨_,_,[],[],a,zG,rfl,fun I' μ hp0 i1 i2 ρ m fo dx rest=>?_⟩;obtain⟨blk,k1,k2⟩:=dx j _ (by rw[fo];exact vy b);exact agN hv k2 k1 rfl
end
section
variable {P:Program}{A:eh}{w w':World}{I I' I2:Nat->Nat->Prop}{μ β β':Nat->Option Nat}{hp hp' hp0:Nat->Option ah}{C:ab}{B:Nat}{M:Nat->Prop}{w0:Start}
def rI(P:Program)(w:World)(I:Nat->Nat->Prop)(β:Nat->Option Nat)(hp:Nat->Option ah)(h':Hand)(u:List (Nat×ah))(K:(Nat->Nat->Prop)->(Nat->Option Nat)->(Nat->Option ah)->Prop):Prop:=
 ∀(I':Nat->Nat->Prop) (μ:Nat->Option Nat) (hp0:Nat->Option ah),(∀b j,I b j->I' b j)->(∀q∈u,∀b j,AB P w β hp q.1 b j->I' b j)->∀ρ m,ρ=h'.pl++m->Jn P w β hp ρ μ hp0->K I' μ hp0
theorem rI.later{h h':Hand}{d:LV}{u u':List (Nat×ah)}{K:(Nat->Nat->Prop)->(Nat->Option Nat)->(Nat->Option ah)->Prop}(t:rI P w I β hp h u K)(e:Ext P w I β hp h h' d u'):rI P w I β hp h' (u++u') K:=by
 obtain⟨m1,e1⟩:=e.pl;exact fun I' μ hp0 i1 i2 ρ m fo dx=>t I' μ hp0 i1 (fun q hq=>i2 q (gh.2 (.inl hq))) ρ (m1++m) zG dx
theorem rI.more{h:Hand}{u u':List (Nat×ah)}{K:(Nat->Nat->Prop)->(Nat->Option Nat)->(Nat->Option ah)->Prop}(t:rI P w I β hp h u K):rI P w I β hp h (u'++u) K:=
 fun I' μ hp0 i1 i2 ρ m fo dx=>t I' μ hp0 i1 (fun q hq=>i2 q (gh.2 (.inr hq))) ρ m fo dx
theorem Jp(S:aK P w I β hp B M w0){α:Type}:∀{ls:List LS}{xs:LV}{h:Hand}{k:Hand->Rd α}{r:α}{rd:LN}{vs:List Value},(wy P ls xs h k).run C hp=some (r,rd)->vs.length=xs.length->
  (∀(j:Nat) v x,vs[j]?=some v->xs[j]?=some x->ak P w I β hp v x)->
  ∃h' jb d u,(k h').run C hp=some (r,jb)∧Ext P w I β hp h h' d u∧d.length=oY ls∧ls.length=xs.length∧
   rI P w I β hp h' u fun I' μ hp0=>∀rest,(jQ ls (d++rest)).length=xs.length∧∀(j:Nat) v y,vs[j]?=some v->(jQ ls (d++rest))[j]?=some y->ak P w I' μ hp0 v y
 |[],[],h,k,r,rd,vs,hr,hl,hv=>⟨h,rd,[],[],hr,Ext.refl h,rfl,rfl,fun I' μ hp0 _ _ _ _ _ _ rest=>⟨rfl,fun j v y _ hy=>zG⟩⟩
 |[],_::_,h,k,r,rd,vs,hr,hl,hv=>by cases hr
 |_::_,[],h,k,r,rd,vs,hr,hl,hv=>by cases hr
 |l::ls,x::xs,h,k,r,rd,vs,hr,hl,hv=>by
  cases vs with
  |nil=>simp at hl
  |cons v vs=>
   simp only[wy]at hr;obtain⟨h1,ka,d1,u1,a1,a2,a3,a4⟩:=agO S hr (hv 0 v x rfl rfl);obtain⟨h2,AU,d2,u2,b1,b2,b3,b5,b4⟩:=Jp S a1 zG (vs:=vs) (fun j v x hj hx=>hv (j+1) v x zG zG);have a4':rI P w I β hp h1 u1 fun I' μ hp0=>∀rest,ak P w I' μ hp0 v (mF l (d1++rest)):=a4;refine⟨h2,AU,d1++d2,u1++u2,b1,a2.trans b2,by simp only[dQ,oY];omega,by simp[b5],fun I' μ hp0 i1 i2 ρ m fo dx rest=>?_⟩;have k1:=(a4'.later b2) I' μ hp0 i1 i2 ρ m fo dx (d2++rest);obtain⟨k2,k3⟩:=b4.more I' μ hp0 i1 i2 ρ m fo dx rest;simp only[jQ];grind
theorem as1{t:TypeId}{v:Value}{y:V}(hv:ak P w I β hp v y)(h:fR P t y=true):Plain P w I v y:=by
 cases y with
 |int k n=>exact hv.jo
 |bool b=>exact hv.o5
 |str s=>obtain⟨s',rfl,hs⟩:=hv.rD;exact⟨s',rfl,hs⟩
 |list e es=>cases hv with
  |list hp'=>exact hp'
 |_=>unfold fR at h;grind
theorem agP:∀{ts:List TypeId}{ls:List LS},Cf P ts ls=true->ts.length=ls.length∧∀(ds:LV) (j:Nat) t y,ts[j]?=some t->(jQ ls ds)[j]?=some y->fR P t y=true
 |[],[],_=>⟨rfl,fun ds j t y h=>by simp at h⟩
 |[],_::_,h=>by cases h
 |_::_,[],h=>by cases h
 |t::ts,l::ls,h=>by
  simp only[Cf,aZ]at h;obtain⟨h1,h2⟩:=agP h.2;refine⟨by simp[h1],fun ds j t' y ht hy=>?_⟩;cases j with
  |succ j=>exact h2 _ j t' y zG (by simpa[jQ]using hy)
  |zero=>
   simp[jQ]at ht hy;subst ht;subst hy;have h:=h.1;unfold fR;split at h<;>simp_all [mF]
theorem as2(S:aK P w I β hp B M w0){α:Type}{s:VS}{x:V}{h:Hand}{k:Hand->Rd α}{r:α}{rd:LN}{v:Value}(hr:(E3 P s x h k).run C hp=some (r,rd))(hv:ak P w I β hp v x):
  ∃h' jb d u,(k h').run C hp=some (r,jb)∧Ext P w I β hp h h' d u∧d.length=s.size∧
   rI P w I β hp h' u fun I' μ hp0=>∀rest,ak P w I' μ hp0 v (oZ s (d++rest)):=by
 cases s with
 |one l=>
  simp only[E3]at hr;obtain⟨h1,ka,d1,u1,a1,a2,a3,a4⟩:=agO S hr hv;exact⟨h1,ka,d1,u1,a1,a2,a3,a4⟩
 |agg ls=>
  cases x<;>simp only[E3]at hr<;>first|(cases hr;done)|skip
  rename_i xs;obtain⟨cs,rfl,e1,e2⟩:=hv.o6;obtain⟨h1,ka,d1,u1,a1,a2,a3,a5,a4⟩:=Jp S hr (vs:=cs.toList) zO (fun j v x hj hx=>e2 j v x zG hx);refine⟨h1,ka,d1,u1,a1,a2,a3,fun I' μ hp0 i1 i2 ρ m fo dx rest=>?_⟩;obtain⟨k1,k2⟩:=a4 I' μ hp0 i1 i2 ρ m fo dx rest;exact .agg zO fun j v y hj hy=>k2 j v y zG hy
 |ct ls=>cases x<;>cases hr
 |pref ts ls=>
  have cells:∀{xs:LV}{vs:List Value}{h0:Hand}{rd0:LN},(wy P ls xs h0 k).run C hp=some (r,rd0)->vs.length=xs.length->Cf P ts ls=true->(∀(j:Nat) v x,vs[j]?=some v->xs[j]?=some x->ak P w I β hp v x)->
    ∃h' jb d u,(k h').run C hp=some (r,jb)∧Ext P w I β hp h0 h' d u∧d.length=oY ls∧ls.length=xs.length∧rI P w I β hp h' u fun I' μ hp0=>∀rest,(jQ ls (d++rest)).length=xs.length∧ts.length=xs.length∧
     ∀(j:Nat) t v y,vs[j]?=some v->ts[j]?=some t->(jQ ls (d++rest))[j]?=some y->Pure P w I' t v y:=by
   intro xs vs h0 rd0 hr0 hl fk hv0;obtain⟨h1,ka,d1,u1,a1,a2,a3,a5,a4⟩:=Jp S hr0 hl hv0;obtain⟨t1,t2⟩:=agP fk;refine⟨h1,ka,d1,u1,a1,a2,a3,a5,fun I' μ hp0 i1 i2 ρ m fo dx rest=>?_⟩;obtain⟨k1,k2⟩:=a4 I' μ hp0 i1 i2 ρ m fo dx rest;exact⟨k1,t1.trans a5,fun j t v y hj ht hy=>(as1 (k2 j v y hj hy) (t2 _ j t y ht hy)).pure (t2 _ j t y ht hy)⟩
  cases x<;>simp only[E3]at hr<;>first|(cases hr;done)|skip
  .rename_i id i c;obtain⟨l0,vz⟩:=run_get hr;clear hr;cases ae:hp id with
   |none=>rw[ae]at vz;cases vz
   |some blk=>
    rw[ae]at vz;cases blk<;>simp only at vz<;>first|(cases vz;done)|skip
    .rename_i T cs;obtain⟨hc,pj⟩:=aX vz;clear vz;simp only[aZ,bK,gg]at hc;obtain⟨rfl,fk,hle⟩:=hc;obtain⟨b,hb,rfl⟩:=hv.ov ae zS;have dF:=S.h.rel id _ ae;rw[hb]at dF;cases dF with
     |@var _ _ Ca _ aI hh hs hI hx _=>
     cases aI;obtain⟨h1,ka,d1,u1,a1,a2,a3,a5,a4⟩:=cells pj (vs:=(Ca.toList.drop c).take ls.length) (by simp;omega) fk (fun j v x hj eo=>by
      grind)
     refine⟨h1,ka,d1,(id,.var T cs)::u1,a1,⟨a2.ds,by rw[a2.upd];simp,fun q hq=>?_,a2.pl,a2.nodup⟩,a3,fun I' μ hp0 i1 i2 ρ m fo dx rest=>?_⟩
     .rcases j4.1 hq with rfl|hq
      .exact .inr ⟨T,cs,rfl,ae⟩
      .exact a2.Jo q hq
     .obtain⟨k1,k2,k3⟩:=a4 I' μ hp0 i1 (fun q hq=>i2 q (sB _ hq)) ρ m fo dx rest;have hn:(jQ ls (d1++rest)).length=ls.length:=k1.trans a5.symm;simp only[oZ,ah.sz,Nat.zero_mul,dT];refine .pref (k2.trans k1.symm) (fun j hj=>i2 _ (B0 ..) b (c+j) ⟨_,ae,.var hb zO⟩) (fun j t y ht hy=>?_);have hj:=(dw.1 hy).1;have vk:c+j<Ca.size:=zO;refine⟨Ca[c+j],by rw[cell?_cells hh];grind,k3 j t _ y ?_ ht hy⟩;grind
    .rename_i e es fz;obtain⟨hc,pj⟩:=aX vz;obtain⟨x0,ow,pj⟩:=ot pj;clear vz;simp only[aZ,gg]at hc;obtain⟨av,fk,hle⟩:=hc;obtain⟨b,hb,rfl⟩:=hv.ov ae zS;have dF:=S.h.rel id _ ae;rw[hb]at dF;cases dF with
     |gk aI=>cases aI
     |@arr _ _ _ _ _ Ca hL _ aI hh hs hf iS hx=>
     cases aI;have gl:(parts P e x0).length=P.cellsOf e:=by rw[AH];exact gE av
     have o9:i<es.length:=(dw.1 ow).1;have hbound:i*P.cellsOf e+P.cellsOf e<=Ca.size:=by
      have:(i+1)*P.cellsOf e<=es.length*P.cellsOf e:=fE _ o9;grind
     have iZ:∀(j:Nat) y,(parts P e x0)[j]?=some y->∃v t',Ca[i*P.cellsOf e+j]?=some v∧Pure P w I t' v y:=fun j y hy=>by
      obtain⟨v,t',_,q1,q2⟩:=IN hx av ow hy;exact⟨v,t',q1,q2⟩
     obtain⟨h1,ka,d1,u1,a1,a2,a3,a5,a4⟩:=cells pj (vs:=(Ca.toList.drop (i*P.cellsOf e+c)).take ls.length) (by simp;omega) fk (fun j v x hj eo=>by
      have eX:j<ls.length:=zG;rw[mf eX,uW]at hj eo;obtain⟨v',t',q1,q2⟩:=iZ _ _ eo;have:v'=v:=zG;exact this▸ak.vf q2)
     refine⟨h1,ka,d1,(id,.arr e es true)::u1,a1,⟨a2.ds,by rw[a2.upd];simp,fun q hq=>?_,a2.pl,a2.nodup⟩,a3,fun I' μ hp0 i1 i2 ρ m fo dx rest=>?_⟩
     .rcases j4.1 hq with rfl|hq
      .exact .inl ⟨e,es,rfl,.inl ⟨fz,ae⟩⟩
      .exact a2.Jo q hq
     .obtain⟨k1,k2,k3⟩:=a4 I' μ hp0 i1 (fun q hq=>i2 q (sB _ hq)) ρ m fo dx rest;have hn:(jQ ls (d1++rest)).length=ls.length:=k1.trans a5.symm;simp only[oZ,ah.sz];refine .pref (k2.trans k1.symm) (fun j hj=>i2 _ (B0 ..) b (i*P.cellsOf e+c+j) ⟨_,ae,.arr hb (by
       have:i*P.cellsOf e+P.cellsOf e<=es.length*P.cellsOf e:=by rw[<-Ac];exact fE _ o9
       omega)⟩) (fun j t y ht hy=>?_)
      have hj:=(dw.1 hy).1;have vk:i*P.cellsOf e+c+j<Ca.size:=zO;refine⟨Ca[i*P.cellsOf e+c+j],by rw[cell?_cells hh];grind,k3 j t _ y ?_ ht hy⟩;grind
  .rename_i wx cs;obtain⟨hc,pj⟩:=aX hr;clear hr;simp only[aZ,gg]at hc;obtain⟨hts,fk,hle⟩:=hc;have hts:=CN hts;obtain⟨b,o,rfl,q1,q2,q3⟩:=hv.IL;have hg:∀j,j<cs.length->∃v,w.cell? ⟨b,o+j,none⟩=some v∧∃t,wx[j]?=some t∧∀x,cs[j]?=some x->Pure P w I t v x:=fun j hj=>by
    simp_all
   let vs:List Value:=(List.range ls.length).map fun j=>(w.cell? ⟨b,o+j,none⟩).getD undef
   have Qc:∀(j:Nat),j<ls.length->vs[j]?=some ((w.cell? ⟨b,o+j,none⟩).getD undef):=fun j hj=>zG;obtain⟨h1,ka,d1,u1,a1,a2,a3,a5,a4⟩:=cells pj (vs:=vs) zG fk (fun j v x hj eo=>by
    have eX:j<ls.length:=zG;rw[mf eX]at eo;obtain⟨v',v1,t,_,v2⟩:=hg j zO;rw[Qc j eX,v1]at hj;cases hj;exact .vf (v2 x eo))
   refine⟨h1,ka,d1,u1,a1,a2,a3,fun I' μ hp0 i1 i2 ρ m fo dx rest=>?_⟩;obtain⟨k1,k2,k3⟩:=a4 I' μ hp0 i1 i2 ρ m fo dx rest;have hn:(jQ ls (d1++rest)).length=ls.length:=k1.trans a5.symm;refine .pref (k2.trans k1.symm) (fun j hj=>i1 _ _ (q2 j zO)) (fun j t y ht hy=>?_);grind
 |fn f a b=>
  cases x<;>simp only[E3]at hr<;>first|(cases hr;done)|skip
  rename_i f' xs ys;obtain⟨hc,pj⟩:=aX hr;clear hr;rw[bK]at hc;subst hc;cases hv with
  |@fn _ fs cs _ _ q1 q2 q3 q4=>
   obtain⟨h1,ka,d1,u1,a1,a2,a3,a5,a4⟩:=Jp S pj (vs:=fs.toList) zO (fun j v x hj hx=>q2 j v x zG hx);obtain⟨h2,AU,d2,u2,b1,b2,b3,b5,b4⟩:=Jp S a1 (vs:=cs.toList) zO (fun j v x hj hx=>q4 j v x zG hx);refine⟨h2,AU,d1++d2,u1++u2,b1,a2.trans b2,by simp only[dQ,VS.size];omega,fun I' μ hp0 i1 i2 ρ m fo dx rest=>?_⟩;obtain⟨k1,k2⟩:=(a4.later b2) I' μ hp0 i1 i2 ρ m fo dx (d2++rest);obtain⟨k3,k4⟩:=b4.more I' μ hp0 i1 i2 ρ m fo dx rest;simp only[oZ];rw[show(d1++d2++rest).drop (oY a)=d2++rest by grind,iC];exact .fn zO (fun j v y hj hy=>k2 j v y zG hy) zO (fun j v y hj hy=>k4 j v y zG hy)
theorem Xv(S:aK P w I β hp B M w0){α:Type}:∀{ls:List VS}{xs:LV}{h:Hand}{k:Hand->Rd α}{r:α}{rd:LN}{vs:List Value},(Iq P ls xs h k).run C hp=some (r,rd)->vs.length=xs.length->
  (∀(j:Nat) v x,vs[j]?=some v->xs[j]?=some x->ak P w I β hp v x)->
  ∃h' jb d u,(k h').run C hp=some (r,jb)∧Ext P w I β hp h h' d u∧d.length=Ar ls∧ls.length=xs.length∧
   rI P w I β hp h' u fun I' μ hp0=>∀rest,(kN ls (d++rest)).length=xs.length∧∀(j:Nat) v y,vs[j]?=some v->(kN ls (d++rest))[j]?=some y->ak P w I' μ hp0 v y
 |[],[],h,k,r,rd,vs,hr,hl,hv=>⟨h,rd,[],[],hr,Ext.refl h,rfl,rfl,fun I' μ hp0 _ _ _ _ _ _ rest=>⟨rfl,fun j v y _ hy=>zG⟩⟩
 |[],_::_,h,k,r,rd,vs,hr,hl,hv=>by cases hr
 |_::_,[],h,k,r,rd,vs,hr,hl,hv=>by cases hr
 |l::ls,x::xs,h,k,r,rd,vs,hr,hl,hv=>by
  cases vs with
  |nil=>simp at hl
  |cons v vs=>
   simp only[Iq]at hr;obtain⟨h1,ka,d1,u1,a1,a2,a3,a4⟩:=as2 S hr (hv 0 v x rfl rfl);obtain⟨h2,AU,d2,u2,b1,b2,b3,b5,b4⟩:=Xv S a1 zG (vs:=vs) (fun j v x hj hx=>hv (j+1) v x zG zG);refine⟨h2,AU,d1++d2,u1++u2,b1,a2.trans b2,by simp only[dQ,Ar];omega,by simp[b5],fun I' μ hp0 i1 i2 ρ m fo dx rest=>?_⟩;have k1:=(a4.later b2) I' μ hp0 i1 i2 ρ m fo dx (d2++rest);obtain⟨k2,k3⟩:=b4.more I' μ hp0 i1 i2 ρ m fo dx rest;simp only[kN];grind
def QH:List BS->Nat
 |[]=>0
 |b::l=>b.size+QH l
theorem agQ:∀{b:Nat}{e e':TypeId}{es:LV}{v:V},(∀q b' e' m,At P w b e es q b' e' m->jS P w I b' e' m)->∀(path:Path),pO P e path=some e'->ej P e es path=some v->0<v.toList.length->
  ∃b1,At P w b e es path b1 e' v.toList
 |b,e,e',es,v,eC,[],ht,hv,hl=>by
  simp only[pO,gi]at ht;simp only[ej,gi]at hv;subst ht;subst hv;exact⟨b,.here⟩
 |b,e,e',es,v,eC,(i,c)::q,ht,hv,hl=>by
  simp only[pO]at ht;simp only[ej]at hv;obtain⟨x,hx,hv⟩:=bind_some hv;cases Ql:(pO.Ih P e)[c]?with
  |none=>grind
  |some t=>
   rw[Ql]at ht;simp only at ht;have Xw:(bA P e)[c]?=some t:=Ql;cases hu:P.underlying t with
   |none=>grind
   |some d=>
    rw[hu]at ht;cases d<;>simp only at ht<;>first|(cases ht;done)|skip
    rename_i e1;rw[tU Xw]at hv;have hR:=eC _ _ _ _ .here;obtain⟨Ca,_,c1,_,c2,c3⟩:=hR.cells;have Cv:c<P.cellsOf e:=by rw[<-gE hR.ok];grind
    obtain⟨u,d1,d2⟩:=c3 i c x t hx Xw Cv;rw[d2.AG]at hv;generalize hy:cT P e x c=y at d2 hv;cases d2 with
    |iI a p=>unfold fh at a;grind
    |@emp e2 a w7=>
     rw[hu]at w7;cases w7;simp only at hv;cases q with
     |nil=>simp only[ej,gi]at hv;subst hv;simp[V.toList]at hl
     |cons a q=>simp[ej]at hv
    |@row e2 cF b2 cap w7 oq bR cQ wD=>
     rw[hu]at w7;cases w7;simp only at hv;have iL:∀{q b' e' bm},At P w b2 e1 cF q b' e' bm->At P w b e es ((i,c)::q) b' e' bm:=fun h=>.step c1 hx Xw hu hy oq d1 h;obtain⟨b1,mO⟩:=agQ (fun q b' e' m h=>eC _ _ _ _ (iL h)) q ht hv hl;grind
def yZ(P:Program)(I:Nat->Nat->Prop)(blk:ah)(b:Nat):Prop:=∀j,I b j->∃e es,blk=.arr e es true∧j<es.length*P.cellsOf e
theorem yZ.no{blk:ah}{b:Nat}(h:yZ P I blk b)(hn:∀e es,blk≠.arr e es true)(j:Nat):¬I b j:=fun hi=>by
 obtain⟨e,es,h1,_⟩:=h j hi;exact hn e es h1
theorem agR(S:aK P w I β hp B M w0){α:Type}:∀{bs:List BS}{j:Nat}{h:Hand}{k:Hand->Rd α}{r:α}{rd:LN},(yC P bs j h k).run C hp=some (r,rd)->
  ∃h' jb d u,(k h').run C hp=some (r,jb)∧Ext P w I β hp h h' d u∧d.length=QH bs∧
   ∀rest,(jl bs (d++rest)).length=bs.length∧∃o:Nat->Option Nat,
    (∀(i:Nat) blk,(jl bs (d++rest))[i]?=some blk->∃p,iG h'.pl (j+i)=some p∧iu P w β hp p (o i) blk)∧
    rI P w I β hp h' u fun I' μ hp0=>∀(i:Nat) blk,(jl bs (d++rest))[i]?=some blk->(∀b,bW P w (o i) blk b->yZ P I' blk b)->gj P w I' μ hp0 (o i) blk
 |[],j,h,k,r,rd,hr=>⟨h,rd,[],[],hr,Ext.refl h,rfl,fun rest=>⟨rfl,fun _=>none,fun i blk hb=>by simp[jl]at hb,fun I' μ hp0 _ _ _ _ _ _ i blk hb=>by simp[jl]at hb⟩⟩
 |b::bs,j,h,k,r,rd,hr=>by
  simp only[yC]at hr;have fin:∀{h1:Hand}{ka:LN}{d1:LV}{u1:List (Nat×ah)}{o1:Option Nat}{p:Place},(yC P bs (j+1) h1 k).run C hp=some (r,ka)->Ext P w I β hp h h1 d1 u1->d1.length=b.size->iG h.pl j=some p->
    (∀rest,iu P w β hp p o1 (jR b (d1++rest)))->(∀rest,rI P w I β hp h1 u1 fun I' μ hp0=>(∀bb,bW P w o1 (jR b (d1++rest)) bb->yZ P I' (jR b (d1++rest)) bb)->gj P w I' μ hp0 o1 (jR b (d1++rest)))->
    ∃h' jb d u,(k h').run C hp=some (r,jb)∧Ext P w I β hp h h' d u∧d.length=QH (b::bs)∧
     ∀rest,(jl (b::bs) (d++rest)).length=(b::bs).length∧∃o:Nat->Option Nat,
      (∀(i:Nat) blk,(jl (b::bs) (d++rest))[i]?=some blk->∃p,iG h'.pl (j+i)=some p∧iu P w β hp p (o i) blk)∧
      rI P w I β hp h' u fun I' μ hp0=>∀(i:Nat) blk,(jl (b::bs) (d++rest))[i]?=some blk->(∀b,bW P w (o i) blk b->yZ P I' blk b)->gj P w I' μ hp0 (o i) blk:=by
   intro h1 ka d1 u1 o1 p hk he hd cC hl ht;obtain⟨h2,AU,d2,u2,b1,b2,b3,b4⟩:=agR S hk;refine⟨h2,AU,d1++d2,u1++u2,b1,he.trans b2,by simp only[dQ,QH];omega,fun rest=>?_⟩;obtain⟨c1,o,c2,c3⟩:=b4 rest;simp only[jl];rw[show(d1++d2++rest).drop b.size=d2++rest by grind,iC];refine⟨by simp[c1],fun i=>match i with|0=>o1|i+1=>o i,fun i blk hb=>?_,fun I' μ hp0 i1 i2 ρ m fo dx i blk hb ep=>?_⟩
   .cases i with
    |zero=>
     simp at hb;subst hb;exact⟨p,b2.look (he.look cC),hl _⟩
    |succ i=>
     grind
   .cases i with
    |zero=>
     simp at hb;subst hb;exact((ht _).later b2) I' μ hp0 i1 i2 ρ m fo dx ep
    |succ i=>exact c3.more I' μ hp0 i1 i2 ρ m fo dx i blk zG ep
  cases cC:iG h.pl j with
  |none=>rw[cC]at hr;cases hr
  |some p=>
   rw[cC]at hr;cases p with
   |blk id=>
    obtain⟨l1,hr⟩:=run_get hr;cases ae:hp id with
    |none=>rw[ae]at hr;cases hr
    |some blk=>
     rw[ae]at hr;cases blk with
     |dead=>cases hr
     |out _ _ _ _=>cases hr
     |var T0 cs=>
      cases b<;>simp only at hr<;>first|(cases hr;done)|skip
      rename_i T1 ss;obtain⟨hT,vz⟩:=aX hr;clear hr;rw[bK]at hT;subst hT;have dF:=S.h.rel id _ ae;generalize ho:β id=o at dF;cases dF with
      |@var _ bb Ca T hb hh hs hI hx nn=>
       obtain⟨h1,ka,d1,u1,a1,a2,a3,a5,a4⟩:=Xv S vz (vs:=Ca.toList) zO (fun j v x hj eo=>hx j v x zG eo);refine fin (o1:=β id) a1 a2 a3 cC (fun rest=>.var ae) fun rest I' μ hp0 i1 i2 ρ m fo dx ep=>?_;obtain⟨k1,k2⟩:=a4 I' μ hp0 i1 i2 ρ m fo dx rest;exact .var (ho.trans hb) hh zO ((ep _ (.root (by simp[jR]) (ho.trans hb))).no (by simp[jR])) (fun i v y hi hy=>k2 i v y zG hy) nn
     |arr e' es fz=>
      cases b with
      |arr e rz=>
       obtain⟨hc,pj⟩:=aX hr;clear hr;simp only[aZ,bK]at hc;obtain⟨rfl,jn⟩:=hc;obtain rfl:rz=fz:=by cases fz<;>cases rz<;>first|rfl|cases jn
       refine fin (d1:=[.list e es]) (o1:=β id) pj (Ext.leaf h _) rfl cC (fun rest=>iu.arr ae) fun rest I' μ hp0 i1 i2 ρ m fo dx ep=>?_;replace ep:∀bb,bW P w (β id) (.arr e es rz) bb->yZ P I' (.arr e es rz) bb:=ep;change gj P w I' μ hp0 (β id) (.arr e es rz);have dF:=S.h.rel id _ ae;generalize ho:β id=o at dF ep⊢;cases dF with
       |gk hb=>exact .gk hb
       |arr a0 a1 a2 a3 a4 a5 a6 a7=>
        have hn:=ep _ (.root zS a2);refine .arr a0 a1 a2 a3 a4 (fun _ j hi=>?_) (fun hz=>hn.no (by simp[hz])) fun i j x t' y1 y2 y3=>?_
        .obtain⟨e',bm,h1,h2⟩:=hn j hi;cases h1;exact h2
        .obtain⟨v,z1,z2⟩:=a7 i j x t' y1 y2 y3;exact⟨v,z1,z2.mono i1 fun _ _ _=>rfl⟩
      |_=>cases hr
     |nest e' es vers=>
      cases b with
      |nest e=>
       obtain⟨hc,pj⟩:=aX hr;clear hr;rw[bK]at hc;subst hc;refine fin (d1:=[.list e es]) (o1:=β id) pj (Ext.leaf h _) rfl cC (fun rest=>iu.nest ae) fun rest I' μ hp0 i1 i2 ρ m fo dx ep=>?_;have agS:∀bb,bW P w (β id) (.nest e es [0,0,0]) bb->∀j,¬I' bb j:=fun bb h=>yZ.no (blk:=.nest e es [0,0,0]) (ep bb h) zS;change gj P w I' μ hp0 (β id) (.nest e es [0,0,0]);have dF:=S.h.rel id _ ae;generalize ho:β id=o at dF agS⊢;cases dF with
       |j8 hb=>exact .j8 hb
       |nest hb eC np=>
        refine .nest hb (fun q b' e1 m1 hq=>?_) np;obtain⟨ok,⟨Ca,Tc,c1,c0,c2,c3⟩,nI⟩:=eC q b' e1 m1 hq;refine⟨ok,⟨Ca,Tc,c1,c0,c2,fun i j x t' y1 y2 y3=>?_⟩,agS _ (.row hb hq)⟩;obtain⟨v,z1,z2⟩:=c3 i j x t' y1 y2 y3;exact⟨v,z1,z2.mono i1 (fun _ _ _=>rfl) fun _ _ _ _ _=>rfl⟩
      |_=>cases hr
     |map t' es=>
      cases b with
      |map t=>
       obtain⟨hc,pj⟩:=aX hr;clear hr;rw[bK]at hc;subst hc;refine fin (d1:=[.list t es]) (o1:=β id) pj (Ext.leaf h _) rfl cC (fun rest=>iu.map ae) fun rest I' μ hp0 i1 i2 ρ m fo dx ep=>?_;change gj P w I' μ hp0 (β id) (.map t es);have dF:=S.h.rel id _ ae;generalize ho:β id=o at dF ep⊢;cases dF with
       |map a1 a2 a3 a4 a5 a6 a7=>exact .map a1 a2 a3 a4 ((ep _ (.root (by simp[jR]) a2)).no (by simp[jR])) a6 a7
      |_=>cases hr
   |row id ver path=>
    obtain⟨e0,es,vers,l1,k1,k2,k3,k4,k5⟩:=tT hr;obtain⟨e',vv,m1,m2,m3⟩:=Fa k5;cases b with
    |arr e fz=>
     cases fz with
     |true=>cases m3
     |false=>
      obtain⟨hc,m4⟩:=aX m3;clear m3;simp only[aZ,bK,rb]at hc;obtain⟨rfl,Jq,oq⟩:=hc;have dF:=S.h.rel id _ k1;cases hb:β id with
      |none=>
       rw[hb]at dF;cases dF with
       |nest aI _ _=>cases aI
       |j8 _=>
        cases path with
        |nil=>grind
        |cons p q=>obtain⟨i,c⟩:=p;simp[ej]at m2
      |some b0=>
       rw[hb]at dF;cases dF with
       |j8 aI=>cases aI
       |nest aI eC np=>
        cases aI;obtain⟨b1,kR⟩:=agQ eC path m1 m2 oq;refine fin (d1:=[.list e vv.toList]) (o1:=some b1) m4 (Ext.leaf h _) rfl cC (fun rest=>iu.row k1 hb kR Jq k2 k3 k4 oq) fun rest I' μ hp0 i1 i2 ρ m fo dx ep=>?_;change gj P w I' μ hp0 (some b1) (.arr e vv.toList false);obtain⟨ok,⟨Ca,Tc,c1,c0,c2,c3⟩,nI⟩:=eC _ _ _ _ kR;refine .arr c0 ok rfl c1 c2 (fun h=>by cases h) (fun _=>(ep _ (.root (by simp[jR]) rfl)).no (by simp[jR])) fun i j x t' y1 y2 y3=>?_;obtain⟨v,z1,z2⟩:=c3 i j x t' y1 y2 y3;refine⟨v,z1,?_⟩;generalize cT P e x j=y at z2⊢;cases z2 with
        |iI _ p=>exact p.mono i1 fun _ _ _=>rfl
        |emp hu=>exact absurd hu (agT Jq y2 _)
        |row hu _ _ _ _=>exact absurd hu (agT Jq y2 _)
    |_=>cases m3
where
 agT {e t:TypeId}{j:Nat}(h:Il P e=true) (ht:(bA P e)[j]?=some t) (e':TypeId):P.underlying t≠some (.slice e'):=by
  intro hu;have h2:=il.1 h t (oa ht);grind
end
section
variable {P:Program}{A:eh}{w w':World}{I I' I2:Nat->Nat->Prop}{μ β β' dC:Nat->Option Nat}{hp hp' hp0 cC:Nat->Option ah}{C:ab}{B:Nat}{M:Nat->Prop}{w0:Start}
structure qI(w:World)(I:Nat->Nat->Prop)(β:Nat->Option Nat)(hp:Nat->Option ah)(w':World)(I':Nat->Nat->Prop)(β':Nat->Option Nat)(hp':Nat->Option ah):Prop where
 fT:∀b j,I b j->I' b j
 dH:∀b j,I b j->w'.cell? ⟨b,j,none⟩=w.cell? ⟨b,j,none⟩
 blk:∀id blk,hp id=some blk->∃blk',hp' id=some blk'∧blk.le blk'∧(blk'≠.dead->β' id=β id)
 size:∀id blk blk' b,hp id=some blk->hp' id=some blk'->blk'≠.dead->β id=some b->bsize w' b=bsize w b
theorem Le.Fx(h:Le P w I β hp w' I' β' hp'):qI w I β hp w' I' β' hp':=⟨h.fT,h.dH,h.blk,h.size⟩
theorem qI.trans{IA:World}{IB:Nat->Nat->Prop}{IC:Nat->Option Nat}{ID:Nat->Option ah}(h1:qI w I β hp w' I' β' hp')(h2:qI w' I' β' hp' IA IB IC ID):qI w I β hp IA IB IC ID:=by
 refine⟨fun b j h=>h2.fT b j (h1.fT b j h),fun b j h=>(h2.dH b j (h1.fT b j h)).trans (h1.dH b j h),fun id blk h=>?_,fun id blk Cn b h PV hd hb=>?_⟩
 .obtain⟨blk',e',l',b'⟩:=h1.blk id blk h;obtain⟨Cn,gD,IE,b''⟩:=h2.blk id blk' e';refine⟨Cn,gD,ah.le_trans l' IE,fun hd=>?_⟩;have jm:blk'≠.dead:=fun e=>hd (ah.wB (e▸IE));grind
 .obtain⟨blk',e',l',b'⟩:=h1.blk id blk h;obtain⟨ml,e3,l3,b3⟩:=h2.blk id blk' e';obtain rfl:ml=Cn:=zG;have jm:blk'≠.dead:=fun e=>hd (ah.wB (e▸l3));rw[h2.size id blk' ml b e' e3 hd ((b' jm).trans hb),h1.size id blk blk' b h e' jm hb]
def vA(P:Program)(w:World)(μ:Nat->Option Nat)(hp0:Nat->Option ah)(b:Nat):Prop:= ∃j blk,hp0 j=some blk∧bW P w (μ j) blk b
structure as3(P:Program)(A:eh)(key:Nat)(w:World)(I:Nat->Nat->Prop)(μ:Nat->Option Nat)(ds es:LV)(w':World)(v:Value)(I2:Nat->Nat->Prop)(dC:Nat->Option Nat):Prop where
 Fy:aK P w' I2 dC (cD (A.so key es) (A.lv key es)).hp w.heap.size (vA P w μ (cD (A.sin key) ds).hp) ⟨w,I⟩
 le:qI w I μ (cD (A.sin key) ds).hp w' I2 dC (cD (A.so key es) (A.lv key es)).hp
 res:ak P w' I2 dC (cD (A.so key es) (A.lv key es)).hp v (wz (j7 (A.so key es).cW (A.lv key es)))
def qJ(P:Program)(A:eh)(C:ab):Prop:=
 ∀key ds es,C key ds=some es->∃fn c,P.funcs[A.ll key]?=some fn∧fn.body=some c∧
  ∀(w:World) (I:Nat->Nat->Prop) (μ:Nat->Option Nat) (vals:List Value),
   Cl P w I μ (cD (A.sin key) ds).hp w.heap.size (vA P w μ (cD (A.sin key) ds).hp)->lP P A.bf w I->
   vals.length=(A.sin key).cW.length->(∀(j:Nat) v x,vals[j]?=some v->(kN ((A.sin key).cW.map (·.2)) ds)[j]?=some x->ak P w I μ (cD (A.sin key) ds).hp v x)->
   Calls P (A.ll key) vals.toArray w fun e w'=>∃v I2 dC,e=.returned v∧as3 P A key w I μ ds es w' v I2 dC
theorem iu.CR{p:Place}{o:Option Nat}{blk:ah}{b:Nat}(h:iu P w β hp p o blk)(ho:bW P w o blk b):
  ∃xb,hp p.id=some xb∧bW P w (β p.id) xb b∧∀e es,xb=.arr e es true->blk=.arr e es true∧o=β p.id:=by
 cases h with
 |var h=>exact⟨_,h,.root zS (ho.flat zS),zS⟩
 |arr h=>exact⟨_,h,.root zS (ho.flat zS),fun _ _ h=>⟨h,rfl⟩⟩
 |map h=>exact⟨_,h,.root zS (ho.flat zS),zS⟩
 |nest h=>
  refine⟨_,h,?_,zS⟩;cases ho with
  |root _ hb=>exact .root zS hb
  |row hb ha=>exact .row hb ha
 |row h hb ha _ _ _ _ _=>
  have:=ho.flat zS;cases this;exact⟨_,h,.row hb ha,zS⟩
theorem aK.as4(S:aK P w I β hp B M w0){id b:Nat}{blk:ah}(ae:hp id=some blk)(ho:bW P w (β id) blk b)(hf:∀e es,blk≠.arr e es true):∀j,¬I b j:=by
 have hr:=S.h.rel id blk ae;generalize β id=o at hr ho;cases hr with
 |var hb _ _ hI _ _=>have:=ho.flat zS;grind
 |gk hb=>have:=ho.flat zS;grind
 |@arr e _ es fz _ _ _ _ hb _ _ _ iS _=>
  have:=ho.flat zS;simp_all
 |dead=>exact absurd rfl ho.alive
 |map _ hb _ _ hI _ _=>have:=ho.flat zS;grind
 |out hb _ _ hh _ _ hI hc hr _=>
  cases ho with
  |root _ aI=>grind
  |sJ aI Cs hj hx h0 hv=>
   rw[hb]at aI;cases aI;rw[hh]at Cs;cases Cs;obtain⟨_,_,m1,_⟩:=hc _ _ hj hx;cases m1;exact(hr _ _ _ _ hj hx h0 hv).2.nI
 |j8 hb=>cases ho<;>simp_all
 |nest hb hr _=>
  cases ho with
  |root _ aI=>rw[hb]at aI;cases aI;exact(hr _ _ _ _ .here).nI
  |row aI ha=>rw[hb]at aI;cases aI;exact(hr _ _ _ _ ha).nI
theorem QI{a b:LN}(h:EY a b=false){x:Nat}(ha:x∈a):x∉b:=by
 intro hb;unfold EY at h;rw[List.any_eq_false]at h;exact h x ha (Fg hb)
theorem as5(S:aK P w I β hp B M w0){pl:List Place}{upd:List (Nat×ah)}{o:Nat->Option Nat}(pW:(pl.map Place.id).Nodup)(rJ:EY (upd.map (·.1)) (pl.map Place.id)=false)
  (hl:∀j blk,hp0 j=some blk->∃p,iG pl j=some p∧iu P w β hp p (o j) blk)
  (dF:(∀j blk,hp0 j=some blk->∀b,bW P w (o j) blk b->yZ P (nr P w I β hp upd) blk b)->∀j blk,hp0 j=some blk->gj P w (nr P w I β hp upd) o hp0 (o j) blk) (bt:∀b j,nr P w I β hp upd b j->b<w.heap.size):
  Cl P w (nr P w I β hp upd) o hp0 w.heap.size (vA P w o hp0):=by
 have ep:∀j blk,hp0 j=some blk->∀b,bW P w (o j) blk b->yZ P (nr P w I β hp upd) blk b:=by
  intro j blk hj b ho jj hI;obtain⟨p,cC,gO⟩:=hl j blk hj;obtain⟨xb,k1,k2,k3⟩:=gO.CR ho;rcases hI with hI|⟨q,hq,dq,q1,q2⟩
  .by_cases hz:∃e es,xb=.arr e es true
   .obtain⟨e,es,rfl⟩:=hz;obtain⟨rfl,h4⟩:=k3 e es rfl;refine⟨e,es,rfl,?_⟩;have hr:=S.h.rel _ _ k1;have hb:=k2.flat zS;generalize β p.id=o' at hr hb;cases hr with
    |gk h=>rw[hb]at h;cases h
    |arr _ _ a2 _ _ a5 _ _=>rw[hb]at a2;cases a2;exact a5 rfl jj hI
   .exact absurd hI (S.as4 k1 k2 (fun e es h=>hz ⟨e,es,h⟩) jj)
  .exfalso;have:=S.h.inj _ _ _ _ b q1 k1 q2.own k2;refine QI rJ (lh.2 ⟨q,hq,rfl⟩) ?_;rw[this];rw[rH]at cC;grind
 refine⟨dF ep,fun j1 j2 b1 b2 b h1 h2 o1 o2=>?_,fun j blk b h1 o1=>.inl ⟨j,blk,h1,o1⟩,bt⟩;obtain⟨p1,q1,q2⟩:=hl j1 b1 h1;obtain⟨p2,r1,r2⟩:=hl j2 b2 h2;obtain⟨c1,x1,x2,_⟩:=q2.CR o1;obtain⟨c2,y1,y2,_⟩:=r2.CR o2;have ae:=S.h.inj _ _ _ _ b x1 y1 x2 y2;rw[rH]at q1 r1;have m1:(pl.map Place.id)[j1]?=some p1.id:=zG;have m2:(pl.map Place.id)[j2]?=some p2.id:=zG;rw[<-ae]at m2;obtain⟨z1,z2⟩:=dw.1 m1;obtain⟨z3,z4⟩:=dw.1 m2;exact(List.getElem_inj pW).1 (z2.trans z4.symm)
def agU:V->Prop
 |.list .. =>False
 |.pref .. =>False
 |.agg _=>False
 |.ct _=>False
 |.fn .. =>False
 |_=>True
theorem ak.free{v:Value}{x:V}(h:ak P w I β hp v x)(hx:agU x):ak P w I' β hp v x:=by
 cases h with
 |undef=>exact .undef
 |int=>exact .int
 |bool=>exact .bool
 |str h=>exact .str h
 |list h=>exact hx.elim
 |nilS=>exact .nilS
 |agg=>exact hx.elim
 |ct=>exact hx.elim
 |im=>exact .im
 |fn=>exact hx.elim
 |pref=>exact hx.elim
 |fM h=>exact .fM h
 |lN h=>exact .lN h
 |oh h=>exact .oh h
 |fF h hb=>exact .fF h hb
 |whole h hb a b c=>exact .whole h hb a b c
 |fq h hb a b c=>exact .fq h hb a b c
 |fS h hb=>exact .fS h hb
 |iJ h hb a b c=>exact .iJ h hb a b c
 |lO h hb=>exact .lO h hb
 |sub h hb a b c=>exact .sub h hb a b c
 |ptr h hd hb=>exact .ptr h hd hb
 |oj h yW=>exact .oj h yW
 |om h yW=>exact .om h yW
 |row h hb a b c d=>exact .row h hb a b c d
 |eJ h hb a b c d e=>exact .eJ h hb a b c d e
 |fQ=>exact .fQ
 |mK h=>exact .mK h
 |cX h hb=>exact .cX h hb
theorem Jr{l:LS}{ds:LV}(hs:l.safe=true):agU (mF l ds):=by
 cases l<;>simp only[LS.safe]at hs<;>first|(cases hs;done)|trivial
theorem Js:∀{ls:List LS}{ds:LV}{j:Nat}{y:V},(jQ ls ds)[j]?=some y->∃l lT,l∈ls∧y=mF l lT
 |[],ds,j,y,h=>by simp[jQ]at h
 |l::ls,ds,j,y,h=>by
  simp only[jQ]at h;cases j with
  |zero=>grind
  |succ j=>
   obtain⟨l',lT,h1,h2⟩:=Js (j:=j) (by simpa using h);grind
theorem agV:∀{ls:List VS}{ds:LV}{j:Nat}{y:V},(kN ls ds)[j]?=some y->∃l lT,l∈ls∧y=oZ l lT
 |[],ds,j,y,h=>by simp[kN]at h
 |l::ls,ds,j,y,h=>by
  simp only[kN]at h;cases j with
  |zero=>grind
  |succ j=>
   obtain⟨l',lT,h1,h2⟩:=agV (j:=j) (by simpa using h);grind
theorem agW{s:VS}{ds:LV}{v:Value}(h:ak P w I β hp v (oZ s ds))(hs:s.safe=true):ak P w I' β hp v (oZ s ds):=by
 cases s with
 |one l=>exact h.free (Jr hs)
 |agg ls=>
  simp only[oZ]at h⊢;obtain⟨cs,rfl,e1,e2⟩:=h.o6;refine .agg e1 fun j v x hj hx=>?_;obtain⟨l,lT,k1,rfl⟩:=Js hx;exact(e2 j v _ hj hx).free (Jr (il.1 hs l k1))
 |ct ls=>
  simp only[oZ]at h⊢;obtain⟨cs,rfl,e1,e2⟩:=h.Cw;refine .ct e1 fun j v x hj hx=>?_;obtain⟨l,lT,k1,rfl⟩:=Js hx;exact(e2 j v _ hj hx).free (Jr (il.1 hs l k1))
 |fn f a b=>
  simp only[VS.safe,aZ]at hs;simp only[oZ]at h⊢;cases h with
  |fn a1 a2 b1 b2=>
   refine .fn a1 (fun j v x hj hx=>?_) b1 (fun j v x hj hx=>?_)
   .obtain⟨l,lT,k1,rfl⟩:=Js hx;exact(a2 j v _ hj hx).free (Jr (il.1 hs.1 l k1))
   .obtain⟨l,lT,k1,rfl⟩:=Js hx;exact(b2 j v _ hj hx).free (Jr (il.1 hs.2 l k1))
 |pref ts ls=>cases hs
theorem Pure.scalar{t:TypeId}{v:Value}{x:V}(h:Pure P w I t v x)(hn:∀e,P.underlying t≠some (.slice e)):Pure P w I' t v x:=by
 cases h with
 |int h=>exact .int h
 |bool h=>exact .bool h
 |str h hl=>exact .str h hl
 |nil h=>grind
 |emp h=>grind
 |list g h=>grind
theorem as6{e t:TypeId}{j:Nat}(h:Il P e=true)(ht:(bA P e)[j]?=some t)(e':TypeId):P.underlying t≠some (.slice e'):=by
 intro hu;have h2:=il.1 h t (oa ht);grind
theorem as7{o:Option Nat}{b:BS}{ds:LV}(h:gj P w I2 β hp o (jR b ds))(hs:b.safe P=true)(hi:∀b j,I b j->I2 b j):gj P w I β hp o (jR b ds):=by
 cases b with
 |dead=>exact .dead
 |var T0 ls=>
  simp only[jR]at h⊢;cases h with
  |var hb hh bR hI hx nn=>
   refine .var hb hh bR (fun j h=>hI j (hi _ j h)) (fun j v x hj eo=>?_) nn;obtain⟨l,lT,k1,rfl⟩:=agV eo;exact agW (hx j v _ hj eo) (il.1 hs l k1)
 |arr e fz=>
  simp only[BS.safe,aZ,ng]at hs;obtain⟨rfl,Jq⟩:=hs;simp only[jR]at h⊢;generalize (V.nth ds 0).toList=es at h⊢;cases h with
  |gk hb=>exact .gk hb
  |arr a0 a1 a2 a3 a4 a5 a6 a7=>
   refine .arr a0 a1 a2 a3 a4 (fun h=>by cases h) (fun _ j h=>a6 rfl j (hi _ j h)) fun i j x t' y1 y2 y3=>?_;obtain⟨v,z1,z2⟩:=a7 i j x t' y1 y2 y3;exact⟨v,z1,z2.scalar (as6 Jq y2)⟩
 |nest e=>
  simp only[jR]at h⊢;generalize (V.nth ds 0).toList=es at h⊢;cases h with
  |j8 hb=>exact .j8 hb
  |nest hb eC np=>
   refine .nest hb (fun q b' e1 m1 hq=>?_) np;obtain⟨ok,⟨Ca,Tc,c1,c0,c2,c3⟩,nI⟩:=eC q b' e1 m1 hq;refine⟨ok,⟨Ca,Tc,c1,c0,c2,fun i j x t' y1 y2 y3=>?_⟩,fun j h=>nI j (hi _ j h)⟩;obtain⟨v,z1,z2⟩:=c3 i j x t' y1 y2 y3;refine⟨v,z1,?_⟩;generalize cT P e1 x j=y at z2⊢;cases z2 with
   |iI a p=>
    refine .iI a (p.scalar fun e hu=>?_);unfold fh at a;grind
   |emp a=>exact .emp a
   |row a b c d e=>exact .row a b c d e
 |map t=>
  simp only[jR]at h⊢;cases h with
  |map a1 a2 a3 a4 a5 a6 a7=>exact .map a1 a2 a3 a4 (fun j h=>a5 j (hi _ j h)) a6 a7
theorem QJ:∀{l:List BS}{ds:LV}{j:Nat}{y:ah},(jl l ds)[j]?=some y->∃b lT,l[j]?=some b∧y=jR b lT
 |[],ds,j,y,h=>by simp[jl]at h
 |b::l,ds,j,y,h=>by
  simp only[jl]at h;cases j with
  |zero=>grind
  |succ j=>
   obtain⟨b',lT,h1,h2⟩:=QJ (j:=j) (by simpa using h);grind
theorem agX:∀{l:List (Nat×VS)}{ds:LV}{q:Nat×V},q∈j7 l ds->∃s lT,(q.1,s)∈l∧q.2=oZ s lT
 |[],ds,q,h=>by simp[j7]at h
 |(k,s)::l,ds,q,h=>by
  simp only[j7,j4]at h;rcases h with h|h
  .grind
  .obtain⟨s',lT,h1,h2⟩:=agX h;grind
theorem as8{S:Shape}{es:LV}(hs:S.safe P=true)(hi:∀b j,I b j->I2 b j){N:Nat->Prop}{st:Start}(h:aK P w' I2 dC (cD S es).hp B N st)(h0:∀b j,I b j->st.I b j):
  aK P w' I dC (cD S es).hp B N st∧∀v,ak P w' I2 dC (cD S es).hp v (wz (j7 S.cW es))->ak P w' I dC (cD S es).hp v (wz (j7 S.cW es)):=by
 unfold Shape.safe at hs;simp only[aZ]at hs;obtain⟨nq,mR⟩:=hs;have one:∀q∈j7 S.cW es,∀v,ak P w' I2 dC (cD S es).hp v q.2->ak P w' I dC (cD S es).hp v q.2:=by
  intro q hq v hv;obtain⟨s,lT,k1,k2⟩:=agX hq;rw[k2]at hv⊢;exact agW hv (il.1 nq _ k1)
 refine⟨⟨⟨fun j blk hj=>?_,h.h.inj,h.h.own,fun b j hb=>h.h.ln b j (hi b j hb)⟩,h.dH,h.size,fun b j hb=>.inl (h0 b j hb),h.io⟩,fun v hv=>?_⟩
 .have hr:=h.h.rel j blk hj;have kz:=hj;simp only[cD,mk,mo]at kz;obtain⟨b,lT,k1,rfl⟩:=QJ kz;exact as7 hr (il.1 mR _ (oa k1)) hi
 .generalize j7 S.cW es=l at one hv⊢
  match l,one,hv with
  |[],_,hv=>
   simp only[wz,yr]at hv⊢;obtain⟨cs,rfl,e1,e2⟩:=hv.Cw;exact .ct e1 fun j v x _ hx=>by simp at hx
  |[q],one,hv=>exact one q (oc.2 rfl) v hv
  |q::q2::l,one,hv=>
   simp only[wz]at hv⊢;obtain⟨cs,rfl,e1,e2⟩:=hv.Cw;refine .ct e1 fun j v x hj hx=>?_;grind
end
section
variable {P:Program}{A:eh}{w w':World}{I I' I2:Nat->Nat->Prop}{μ β β' dC:Nat->Option Nat}{hp hp' hp0 cC:Nat->Option ah}{C:ab}{B:Nat}{M:Nat->Prop}{w0:Start}
inductive kW(σ:List Place):ah->ah->Prop
 |dead:kW σ .dead .dead
 |var {T:TypeId}{cs:LV}:kW σ (.var T cs) (.var T (cs.map (PJ σ)))
 |arr {e:TypeId}{es:LV}{fz:Bool}:kW σ (.arr e es fz) (.arr e es fz)
 |nest {e:TypeId}{es:LV}{v1 v2:LN}:kW σ (.nest e es v1) (.nest e es v2)
 |map {t:TypeId}{es:LV}:kW σ (.map t es) (.map t es)
 |out {e:TypeId}{es:LV}{vs:LN}{i:Nat}:kW σ (.out e es vs i) .dead
theorem kW.of(σ:List Place)(b:ah):kW σ b (Cg σ b):=by
 cases b with
 |dead=>exact .dead
 |var T cs=>exact .var
 |arr e es fz=>exact .arr
 |nest e es v=>exact .nest
 |map t es=>exact .map
 |out e es vs i=>exact .out
theorem agY{σ:List Place}:∀{pl:List Place}{bs:List ah}{acc:List (Nat×ah)}{k:List (Nat×ah)->Rd R}{r:R}{rd:LN},(yD σ pl bs acc k).run C hp=some (r,rd)->
  pl.length<=bs.length∧∃bk jb,(k bk).run C hp=some (r,jb)∧(∀q∈bk,q∈acc∨∃(j:Nat) (b:ah),pl[j]?=some (.blk q.1)∧bs[j]?=some b∧kW σ b q.2∧((∃e es v2,q.2=.nest e es v2)->∃e es vers e' bm,hp q.1=some (.nest e es vers)∧q.2=.nest e' bm (vers.map (·+1))))∧
   (∀q∈acc,q∈bk)∧∀(j:Nat) p,pl[j]?=some p->∃id b,p=.blk id∧(id,b)∈bk
 |[],bs,acc,k,r,rd,h=>⟨od _,acc,rd,by simpa only[yD]using h,fun q hq=>.inl hq,fun q hq=>hq,fun j p hp=>by simp at hp⟩
 |.row _ _ _::pl,bs,acc,k,r,rd,h=>by
  cases bs<;>(simp only[yD]at h;cases h)
 |.blk id::pl,[],acc,k,r,rd,h=>by simp only[yD]at h;cases h
 |.blk id::pl,b::bs,acc,k,r,rd,h=>by
  have fin:∀{b2:ah}{ka:LN},(yD σ pl bs ((id,b2)::acc) k).run C hp=some (r,ka)->kW σ b b2->((∃e es v2,b2=.nest e es v2)->∃e es vers e' bm,hp id=some (.nest e es vers)∧b2=.nest e' bm (vers.map (·+1)))->
    (Place.blk id::pl).length<=(b::bs).length∧∃bk jb,(k bk).run C hp=some (r,jb)∧(∀q∈bk,q∈acc∨∃(j:Nat) (b':ah),(Place.blk id::pl)[j]?=some (.blk q.1)∧(b::bs)[j]?=some b'∧kW σ b' q.2∧((∃e es v2,q.2=.nest e es v2)->∃e es vers e' bm,hp q.1=some (.nest e es vers)∧q.2=.nest e' bm (vers.map (·+1))))∧
     (∀q∈acc,q∈bk)∧∀(j:Nat) p,(Place.blk id::pl)[j]?=some p->∃id b,p=.blk id∧(id,b)∈bk:=by
   intro b2 ka h1 hb hn;obtain⟨a0,bk,jb,a1,a2,a3,a4⟩:=agY h1;refine⟨by simp only[List.length_cons];omega,bk,jb,a1,fun q hq=>?_,fun q hq=>a3 q (sB _ hq),fun j p hj=>?_⟩
   .rcases a2 q hq with h|⟨j,b',k1,k2,k3,k4⟩
    .rcases j4.1 h with e|h
     .subst e;exact .inr ⟨0,b,rfl,rfl,hb,hn⟩
     .exact .inl h
    .exact .inr ⟨j+1,b',by simpa using k1,by simpa using k2,k3,k4⟩
   .cases j with
    |zero=>simp at hj;subst hj;exact⟨id,b2,rfl,a3 _ (B0 ..)⟩
    |succ j=>exact a4 j p (by simpa using hj)
  cases b with
  |nest e es v=>
   simp only[yD]at h;obtain⟨l,h⟩:=run_get h;cases ae:hp id with
   |none=>rw[ae]at h;cases h
   |some blk=>
    rw[ae]at h;cases blk with
    |nest e0 Xx vers=>exact fin h .nest fun _=>⟨e0,Xx,vers,e,es,ae,rfl⟩
    |_=>cases h
  |dead=>exact fin h (.of σ _) fun⟨_,_,_,h⟩=>by cases h
  |var T cs=>exact fin h (.of σ _) fun⟨_,_,_,h⟩=>by cases h
  |arr e es fz=>exact fin h (.of σ _) fun⟨_,_,_,h⟩=>by cases h
  |map t es=>exact fin h (.of σ _) fun⟨_,_,_,h⟩=>by cases h
  |out e es vs i=>exact fin h (.of σ _) fun⟨_,_,_,h⟩=>by cases h
theorem agZ{σ:List Place}:∀{bs:List ah}{n:Nat}{q:Nat×ah},q∈yE σ n bs->∃i b,bs[i]?=some b∧q=(n+i,Cg σ b)
 |[],n,q,h=>by simp[yE]at h
 |b::bs,n,q,h=>by
  simp only[yE,j4]at h;rcases h with h|h
  .exact⟨0,b,rfl,h⟩
  .obtain⟨i,b',h1,h2⟩:=agZ h;exact⟨i+1,b',by simpa using h1,by rw[h2];congr 1;omega⟩
theorem ag0{σ:List Place}:∀{bs:List ah}{n i:Nat}{b:ah},bs[i]?=some b->(n+i,Cg σ b)∈yE σ n bs
 |[],n,i,b,h=>by simp at h
 |b0::bs,n,i,b,h=>by
  simp only[yE,j4];cases i with
  |zero=>simp at h;subst h;exact .inl rfl
  |succ i=>exact .inr (by rw[show n+(i+1)=n+1+i by omega];exact ag0 (by simpa using h))
theorem QK:∀{k n i:Nat},i<k->(As n k)[i]?=some (.blk (n+i))
 |0,n,i,h=>zO
 |k+1,n,0,h=>rfl
 |k+1,n,i+1,h=>by
  simp only[As,List.getElem?_cons_succ];rw[QK zO];congr 2;omega
theorem Xy:∀{k n:Nat},(As n k).length=k
 |0,_=>rfl
 |k+1,n=>by simp[As,Xy]
theorem ag1:∀{bs:List (Nat×ah)}{k:Rd R}{r:R}{rd:LN},(PK bs k).run C hp=some (r,rd)->(∀q∈bs,hp q.1=none)∧∃jb,k.run C hp=some (r,jb)
 |[],k,r,rd,h=>⟨zS,rd,h⟩
 |(id,b)::l,k,r,rd,h=>by
  simp only[PK]at h;obtain⟨l1,h⟩:=run_get h;cases ae:hp id with
  |some blk=>rw[ae]at h;cases h
  |none=>
   rw[ae]at h;obtain⟨h1,h2⟩:=ag1 h;refine⟨fun q hq=>?_,h2⟩;rcases j4.1 hq with e|hq
   .subst e;exact ae
   .exact h1 q hq
structure xc(σ:List Place)(dC:Nat->Option Nat)(cC:Nat->Option ah)(β':Nat->Option Nat)(hp':Nat->Option ah):Prop where
 blk:∀j b,cC j=some b->∃id b',iG σ j=some (.blk id)∧hp' id=some b'∧kW σ b b'∧(b≠.dead->β' id=dC j)
 none:∀j,cC j=none->iG σ j=none
 aJL:∀j id ver path,iG σ j≠some (.row id ver path)
theorem xc.leaf{σ:List Place}(T:xc σ dC cC β' hp'){v:Value}{x:V}(h:ak P w I dC cC v x):ak P w I β' hp' v (oe σ x):=by
 have look:∀{j b},cC j=some b->∃id b',iG σ j=some (.blk id)∧hp' id=some b'∧kW σ b b'∧(b≠.dead->β' id=dC j):=fun h=>T.blk _ _ h;cases h with
 |undef=>exact .undef
 |int=>exact .int
 |bool=>exact .bool
 |str h=>exact .str h
 |list h=>exact .list h
 |nilS=>exact .nilS
 |agg=>exact .undef
 |ct=>exact .undef
 |im=>exact .im
 |fn=>exact .undef
 |pref a b c=>exact .pref a b c
 |@fM _ e j h=>
  obtain⟨id,b',k1,k2,k3,k4⟩:=look h;simp only[oe,k1];cases k3;exact .fM k2
 |@lN _ e j _ _ h=>
  obtain⟨id,b',k1,k2,k3,k4⟩:=look h;simp only[oe,k1];cases k3;exact .lN k2
 |@oh _ j _ _ h=>
  obtain⟨id,b',k1,k2,k3,k4⟩:=look h;simp only[oe,k1];cases k3;exact .oh k2
 |@fF e j fz _ h hb=>
  obtain⟨id,b',k1,k2,k3,k4⟩:=look h;simp only[oe,k1];cases k3;exact .fF k2 ((k4 zS).trans hb)
 |@whole e j es fz b cap h hb a1 a2 a3=>
  obtain⟨id,b',k1,k2,k3,k4⟩:=look h;simp only[oe,k1];cases k3;exact .whole k2 ((k4 zS).trans hb) a1 a2 a3
 |@fq e j es vers b cap h hb a1 a2 a3=>
  obtain⟨id,b',k1,k2,k3,k4⟩:=look h;simp only[oe,k1];cases k3;exact .fq k2 ((k4 zS).trans hb) a1 a2 a3
 |@iJ e j i es vers b cap h hb a1 a2 a3=>
  obtain⟨id,b',k1,k2,k3,k4⟩:=look h;simp only[oe,k1];cases k3;exact .fM k2
 |@fS e j vers _ h hb=>
  obtain⟨id,b',k1,k2,k3,k4⟩:=look h;simp only[oe,k1];cases k3;exact .fS k2 ((k4 zS).trans hb)
 |@lO e j fz _ h hb=>
  obtain⟨id,b',k1,k2,k3,k4⟩:=look h;simp only[oe,k1];cases k3;exact .lO k2 ((k4 zS).trans hb)
 |@sub e j off len es fz b o cap h hb a1 a2 a3=>
  obtain⟨id,b',k1,k2,k3,k4⟩:=look h;simp only[oe,k1];cases k3;exact .sub k2 ((k4 zS).trans hb) a1 a2 a3
 |@ptr j i c b blk h hd hb=>
  obtain⟨id,b',k1,k2,k3,k4⟩:=look h;simp only[oe,k1];by_cases jm:b'=.dead
  .subst jm;exact .oh k2
  have hs:blk.sz P=b'.sz P:=by cases k3<;>first|rfl|exact absurd rfl jm
  rw[hs];exact .ptr k2 jm ((k4 hd).trans hb)
 |oj=>exact .undef
 |om=>exact .undef
 |row=>exact .undef
 |eJ=>exact .undef
 |fQ=>exact .fQ
 |@mK _ t j h=>
  obtain⟨id,b',k1,k2,k3,k4⟩:=look h;simp only[oe,k1];cases k3;exact .mK k2
 |@cX t j b es h hb=>
  obtain⟨id,b',k1,k2,k3,k4⟩:=look h;simp only[oe,k1];cases k3;exact .cX k2 ((k4 zS).trans hb)
theorem xc.one{σ:List Place}(T:xc σ dC cC β' hp'){v:Value}{x:V}(h:ak P w I dC cC v x):ak P w I β' hp' v (V7 σ x):=by
 cases x with
 |agg xs=>
  obtain⟨cs,rfl,e1,e2⟩:=h.o6;exact .agg (by simpa using e1) fun j v y hj hy=>by
   rw[j5]at hy;cases hx:xs[j]?with
   |none=>rw[hx]at hy;cases hy
   |some x=>rw[hx]at hy;cases hy;exact T.leaf (e2 j v x hj hx)
 |fn f a b=>
  cases h with
  |fn a1 a2 b1 b2=>
   refine .fn (by simpa using a1) (fun j v y hj hy=>?_) (by simpa using b1) (fun j v y hj hy=>?_)
   .rw[j5]at hy;cases hx:a[j]?with
    |none=>rw[hx]at hy;cases hy
    |some x=>rw[hx]at hy;cases hy;exact T.leaf (a2 j v x hj hx)
   .rw[j5]at hy;cases hx:b[j]?with
    |none=>rw[hx]at hy;cases hy
    |some x=>rw[hx]at hy;cases hy;exact T.leaf (b2 j v x hj hx)
 |_=>exact T.leaf h
theorem xc.val{σ:List Place}(T:xc σ dC cC β' hp'){v:Value}{x:V}(h:ak P w I dC cC v x):ak P w I β' hp' v (PJ σ x):=by
 cases x with
 |ct xs=>
  obtain⟨cs,rfl,e1,e2⟩:=h.Cw;exact .ct (by simpa using e1) fun j v y hj hy=>by
   rw[j5]at hy;cases hx:xs[j]?with
   |none=>rw[hx]at hy;cases hy
   |some x=>rw[hx]at hy;cases hy;exact T.one (e2 j v x hj hx)
 |_=>exact T.one h
theorem xc.ag2{σ:List Place}(T:xc σ dC cC β' hp'){o:Option Nat}{b b':ah}(h:gj P w I dC cC o b)(hb:kW σ b b'):gj P w I β' hp' o b':=by
 cases hb with
 |dead=>exact .dead
 |var=>
  cases h with
  |var a1 a2 a3 a4 a5 a6=>
   refine .var a1 a2 (by simpa using a3) a4 (fun j v y hj hy=>?_) a6;rw[j5]at hy;cases hx:(_:LV)[j]?with
   |none=>rw[hx]at hy;cases hy
   |some x=>rw[hx]at hy;cases hy;exact T.val (a5 j v x hj hx)
 |arr=>
  cases h with
  |gk hb=>exact .gk hb
  |arr a0 a1 a2 a3 a4 a5 a6 a7=>exact .arr a0 a1 a2 a3 a4 a5 a6 a7
 |nest=>
  cases h with
  |nest a1 a2 a3=>exact .nest a1 a2 a3
  |j8 a1=>exact .j8 a1
 |map=>
  cases h with
  |map a1 a2 a3 a4 a5 a6 a7=>exact .map a1 a2 a3 a4 a5 a6 a7
 |out=>exact .dead
theorem kW.CR{σ:List Place}{o:Option Nat}{b b':ah}(h:kW σ b b'){m:Nat}(ho:bW P w o b' m):bW P w o b m:=by
 cases h with
 |dead=>exact absurd rfl ho.alive
 |var=>exact .root zS (ho.flat zS)
 |arr=>exact .root zS (ho.flat zS)
 |map=>exact .root zS (ho.flat zS)
 |out=>exact absurd rfl ho.alive
 |nest=>
  cases ho with
  |root _ hb=>exact .root zS hb
  |row hb ha=>exact .row hb ha
theorem kW.ag3{σ:List Place}{b b':ah}(h:kW σ b b'):b'≠.dead->b≠.dead:=by
 intro h1 h2;subst h2;cases h;exact h1 rfl
end
section
variable {P:Program}{A:eh}{w w':World}{I I' I2:Nat->Nat->Prop}{μ β β' dC:Nat->Option Nat}{hp hp' hp0 cC:Nat->Option ah}{C:ab}{B:Nat}{M:Nat->Prop}{w0:Start}
theorem ag4:∀{vs:LN}{k:Nat},k<vs.length->cq (vs.map (·+1)) k=cq vs k+1
 |[],k,h=>by simp at h
 |v::vs,0,h=>rfl
 |v::vs,k+1,h=>by simp only[iB,cq];exact ag4 zG
theorem ag5:∀{vs:LN}{k:Nat},cq vs k<=cq (vs.map (·+1)) k
 |[],k=>zG
 |v::vs,0=>by simp[cq]
 |v::vs,k+1=>by simp only[iB,cq];exact ag5
def Jt(hp:Nat->Option ah)(q:Nat×ah):Prop:=(∃e es v2,q.2=.nest e es v2)->∃e es vers e' bm,hp q.1=some (.nest e es vers)∧q.2=.nest e' bm (vers.map (·+1))
theorem iu.Xz{id:Nat}{o:Option Nat}{blk:ah}(h:iu P w β hp (.blk id) o blk):o=β id∧∃b0,hp id=some b0∧b0≠.dead:=by
 cases h with
 |var h=>grind
 |arr h=>grind
 |nest h=>grind
 |map h=>grind
theorem iu.as9{id:Nat}{o:Option Nat}{c b b' b0:ah}{σ:List Place}(h:iu P w β hp (.blk id) o c)(h0:hp id=some b0)(hle:c.le b)(hb:kW σ b b')(hn:Jt hp (id,b')):b0.le b':=by
 cases h with
 |var h=>
  rw[h]at h0;cases h0;cases hb with
  |dead=>trivial
  |out=>trivial
  |var=>trivial
  |arr=>exact hle.elim
  |nest=>exact hle.elim
  |map=>exact hle.elim
 |arr h=>
  rw[h]at h0;cases h0;cases hb with
  |dead=>trivial
  |out=>trivial
  |var=>exact hle.elim
  |arr=>exact hle
  |nest=>exact hle.elim
  |map=>omega
 |map h=>
  rw[h]at h0;cases h0;cases hb with
  |dead=>trivial
  |out=>trivial
  |map=>exact hle
  |_=>exact hle.elim
 |nest h=>
  rw[h]at h0;cases h0;cases hb with
  |dead=>trivial
  |out=>trivial
  |var=>exact hle.elim
  |arr=>exact hle
  |map=>exact hle.elim
  |@nest e es v1 v2=>
   obtain⟨e1,dX,AD,e2,cF,k1,k2⟩:=hn ⟨_,_,_,rfl⟩;cases k2;change hp id=_ at k1;rw[h]at k1;cases k1;exact⟨hle.1,hle.2.1,zS,fun k=>ag5⟩
theorem iu.other{p:Place}{o:Option Nat}{blk:ah}(h:iu P w β hp p o blk)(he:hp' p.id=hp p.id):iu P w β hp' p o blk:=by
 cases h with
 |var h=>exact .var (he.trans h)
 |arr h=>exact .arr (he.trans h)
 |nest h=>exact .nest (he.trans h)
 |map h=>exact .map (he.trans h)
 |row h a b c d e f g=>exact .row (he.trans h) a b c d e f g
open Classical in
theorem ag6(S:aK P w I β hp B M w0){pl:List Place}{o:Nat→Option Nat}{bs:List ah}{nb:Nat}{bk fr:List (Nat×ah)}{σ:List Place}(y4:σ=pl++As nb (bs.length-pl.length))(Ju:fr=yE σ nb (bs.drop pl.length))
  (pW:(pl.map Place.id).Nodup) (sM:pl.length≤bs.length)
  (AP:∀(j:Nat) p,pl[j]? =some p→∃id b,p= .blk id∧(id,b)∈bk) (QL:∀q∈bk,∃(j:Nat) (b:ah),pl[j]? =some (.blk q.1)∧bs[j]? =some b∧kW σ b q.2∧Jt hp q)
  (hl:∀j blk,hp0 j=some blk→∃p,iG pl j=some p∧iu P w β hp p (o j) blk) (hd:∀j,j<pl.length→∃blk,hp0 j=some blk)
  (Sc:aK P w' I2 dC (o0 bs) w.heap.size (vA P w o hp0) ⟨w,I⟩) (Fz:qI w I o hp0 w' I2 dC (o0 bs)) (FA:∀q∈fr,hp q.1=none):
  ∃β',Le P w I β hp w' I2 β' (cY hp (fr++bk))∧aK P w' I2 β' (cY hp (fr++bk)) B M w0∧xc σ dC (o0 bs) β' (cY hp (fr++bk)):=by
 generalize XA:cY hp (fr++bk)=gO
 let β':Nat→Option Nat:=fun n=>if∃q∈fr,q.1=n then dC (pl.length+(n-nb))else β n
 have ag7:∀(j:Nat) id,pl[j]? =some (.blk id)→∃c,hp0 j=some c∧iu P w β hp (.blk id) (o j) c:=by
  intro j id hj;obtain⟨c,hc⟩:=hd j (dw.1 hj).1;obtain⟨p,h1,h2⟩:=hl j c hc;rw[rH,hj]at h1;cases h1;exact⟨c,hc,h2⟩
 have uniq:∀(j1 j2:Nat) id,pl[j1]? =some (.blk id)→pl[j2]? =some (.blk id)→j1=j2:=by
  intro j1 j2 id h1 h2;have m1:(pl.map Place.id)[j1]? =some id:=by rw[j5,h1];rfl
  have m2:(pl.map Place.id)[j2]? =some id:=by rw[j5,h2];rfl
  obtain⟨z1,z2⟩:=dw.1 m1;obtain⟨z3,z4⟩:=dw.1 m2;exact(List.getElem_inj pW).1 (z2.trans z4.symm)
 have cls:∀id,(∃i b,id=nb+i∧bs[pl.length+i]? =some b∧gO id=some (Cg σ b)∧hp id=none∧β' id=dC (pl.length+i))∨
   (∃(j:Nat) (b b' c b0:ah),pl[j]? =some (.blk id)∧bs[j]? =some b∧hp0 j=some c∧iu P w β hp (.blk id) (o j) c∧hp id=some b0∧b0.le b'∧gO id=some b'∧kW σ b b'∧Jt hp (id,b')∧β' id=β id∧c.le b∧(b≠ .dead→dC j=β id))∨
   (gO id=hp id∧(∀j:Nat,pl[j]? ≠some (.blk id))∧β' id=β id):=by
  intro id;by_cases hm:∃b,(id,b)∈fr++bk
  ·obtain⟨b,hm⟩:=hm;obtain⟨b',wE,he⟩:=PX (hp:=hp) hm;rw[XA]at he;rcases gh.1 wE with h|h
   ·have h0:=FA _ h;have vB:β' id=dC (pl.length+(id-nb)):=ai ⟨_,h,rfl⟩;rw[Ju]at h;obtain⟨i,b1,k1,k2⟩:=agZ h;rw[uW]at k1;cases k2;exact .inl ⟨i,b1,rfl,k1,he,h0,by rw[vB];congr 2;omega⟩
   ·obtain⟨j,b1,q1,q2,q3,q4⟩:=QL _ h;obtain⟨c,c1,c2⟩:=ag7 j id q1;obtain⟨c3,b0,c4,c5⟩:=c2.Xz;obtain⟨b2,d1,d2,d3⟩:=Fz.blk j c c1;rw[mo,q2]at d1;cases d1;refine .inr (.inl ⟨j,b1,b',c,b0,q1,q2,c1,c2,c4,c2.as9 c4 d2 q3 q4,he,q3,q4,af ?_,d2,fun h=>(d3 h).trans c3⟩);rintro⟨q,hq,hqe⟩;rw[←hqe,FA q hq]at c4;cases c4
  ·refine .inr (.inr ⟨?_,fun j hj=> ?_,af ?_⟩)
   ·rcases Cr (hp:=hp) (l:=fr++bk) (id:=id)with h|⟨b,hb,_⟩
    ·rw[XA]at h;exact h
    ·exact absurd ⟨b,hb⟩ hm
   ·obtain⟨ax,b,e,hb⟩:=AP j _ hj;cases e;exact hm ⟨b,gh.2 (.inr hb)⟩
   ·rintro⟨q,hq,rfl⟩;exact hm ⟨q.2,gh.2 (.inl hq)⟩
 have ag8:∀b,vA P w o hp0 b→∃(j id:Nat) (b1:ah),pl[j]? =some (.blk id)∧hp id=some b1∧bW P w (β id) b1 b:=by
  rintro b ⟨j,c,hc,ho⟩;obtain⟨p,h1,h2⟩:=hl j c hc;rw[rH]at h1;obtain⟨id,b2,rfl,_⟩:=AP j p h1;obtain⟨b1,k1,k2,_⟩:=h2.CR ho;exact⟨j,id,b1,h1,k1,k2⟩
 have other:∀id blk b,hp id=some blk→bW P w (β id) blk b→(∀j:Nat,pl[j]? ≠some (.blk id))→¬vA P w o hp0 b∧w'.heap[b]? =w.heap[b]? ∧(∀j,I2 b j→I b j):=by
  intro id blk b e1 e3 e4;have xd:¬vA P w o hp0 b:=by
   intro hx;obtain⟨j,ax,b1,i1,i2,i3⟩:=ag8 b hx;have:=S.h.inj id ax _ _ b e1 i2 e3 i3;subst this;exact e4 j i1
  have bt:=S.h.lt e1 e3;refine⟨xd,Sc.dH b bt xd,fun j h=> ?_⟩;rcases Sc.new b j h with h|h|h
  ·exact h
  ·exact absurd h xd
  ·omega
 have AJ:xc σ dC (o0 bs) β' gO:=by
  refine⟨fun j b hj=> ?_,fun j hj=> ?_,fun j id ver path hj=> ?_⟩
  ·rw[mo]at hj;by_cases eX:j<pl.length
   ·obtain⟨id,b1,e,mO⟩:=AP j _ (cA eX);have QM:pl[j]? =some (.blk id):=by rw[cA eX,e]
    have XB:iG σ j=some (.blk id):=by rw[y4];exact vy (by rw[rH];exact QM)
    rcases cls id with⟨i,b2,c1,c2,c3,c4,c5⟩|⟨j',b2,b',c,b0,q1,q2,q3,q4,q5,q6,q7,q8,q9,xe,FB,y5⟩|⟨c1,c2,c3⟩
    ·obtain⟨c,d1,d2⟩:=ag7 j id QM;obtain⟨_,b0,d3,_⟩:=d2.Xz;rw[d3]at c4;cases c4
    ·obtain rfl:=uniq _ _ _ q1 QM;rw[hj]at q2;cases q2;exact⟨id,b',XB,q7,q8,fun h=>xe.trans (y5 h).symm⟩
    ·exact absurd QM (c2 j)
   ·have hjb:=(dw.1 hj).1;have XB:iG σ j=some (.blk (nb+(j-pl.length))):=by
     rw[y4,rH,tL zO];exact QK zO
    have hm:(nb+(j-pl.length),Cg σ b)∈fr:=by
     rw[Ju];refine ag0 ?_;rw[uW,show pl.length+(j-pl.length)=j by omega];exact hj
    rcases cls (nb+(j-pl.length))with⟨i,b2,c1,c2,c3,c4,c5⟩|⟨j',b2,b',c,b0,q1,q2,q3,q4,q5,q6,q7,q8,q9,xe,FB,y5⟩|⟨c1,c2,c3⟩
    ·have hi:i=j-pl.length:=zO;subst hi;rw[show pl.length+(j-pl.length)=j by omega]at c2 c5;rw[hj]at c2;cases c2;exact⟨_,_,XB,c3,.of σ _,fun _=>c5⟩
    ·rw[FA _ hm]at q5;cases q5
    ·obtain⟨b',wE,he⟩:=PX (hp:=hp) (l:=fr++bk) (gh.2 (.inl hm));rw[XA,c1,FA _ hm]at he;cases he
  ·rw[mo]at hj;have:=List.getElem?_eq_none_iff.1 hj;rw[y4,rH,List.getElem?_eq_none_iff,dQ,Xy];omega
  ·rw[y4,rH]at hj;by_cases eX:j<pl.length
   ·rw[tK eX]at hj;obtain⟨ax,b1,e,_⟩:=AP j _ hj;cases e
   ·have hjb:j-pl.length<bs.length-pl.length:=by
     have:=(dw.1 hj).1;rw[dQ,Xy]at this;omega
    rw[tL zO,QK hjb]at hj;cases hj
 have hle:Le P w I β hp w' I2 β' gO:=by
  refine⟨Fz.fT,Fz.dH,fun id blk ae=> ?_,fun id blk blk' b ae cI y6 hb=> ?_,fun id e es vers e' bm vers' b q i c t v e1 l ae cI hb bt hv ht hc=> ?_⟩
  ·rcases cls id with⟨i,b2,c1,c2,c3,c4,c5⟩|⟨j',b2,b',c,b0,q1,q2,q3,q4,q5,q6,q7,q8,q9,xe,FB,y5⟩|⟨c1,c2,c3⟩
   ·rw[ae]at c4;cases c4
   ·rw[ae]at q5;cases q5;exact⟨b',q7,q6,fun _=>xe⟩
   ·exact⟨blk,c1.trans ae,ah.le_refl _,fun _=>c3⟩
  ·rcases cls id with⟨i,b2,c1,c2,c3,c4,c5⟩|⟨j',b2,b',c,b0,q1,q2,q3,q4,q5,q6,q7,q8,q9,xe,FB,y5⟩|⟨c1,c2,c3⟩
   ·rw[ae]at c4;cases c4
   ·rw[q7]at cI;cases cI;exact Fz.size j' c b2 b q3 (by rw[mo];exact q2) (q8.ag3 y6) (q4.Xz.1.trans hb)
   ·rw[c1,ae]at cI;cases cI;simp only[bsize,(other id blk b ae (.root y6 hb) c2).2.1]
  ·rcases cls id with⟨i2,b2,c1,c2,c3,c4,c5⟩|⟨j',b2,b',c',b0,q1,q2,q3,q4,q5,q6,q7,q8,q9,xe,FB,y5⟩|⟨c1,c2,c3⟩
   ·rw[ae]at c4;cases c4
   ·rw[q7]at cI;cases cI;obtain⟨_,_,AD,_,_,k1,k2⟩:=q9 ⟨_,_,_,rfl⟩;change hp id=_ at k1;rw[ae]at k1;cases k1;cases k2;rw[ag4 bt]at hv;omega
   ·rw[c1,ae]at cI;cases cI;exact⟨l,rfl,hc.mono fun _ _ _ _ h=>(other id _ _ ae (.row hb h) c2).2.1⟩
 have place:∀id blk b,gO id=some blk→bW P w' (β' id) blk b→(∃j c,o0 bs j=some c∧bW P w' (dC j) c b∧iG σ j=some (.blk id))∨(b<w.heap.size∧¬vA P w o hp0 b∧hp id=some blk∧bW P w (β id) blk b):=by
  intro id blk b e1 e3;rcases cls id with⟨i,b2,c1,c2,c3,c4,c5⟩|⟨j',b2,b',c,b0,q1,q2,q3,q4,q5,q6,q7,q8,q9,xe,FB,y5⟩|⟨c1,c2,c3⟩
  ·rw[c3]at e1;cases e1;rw[c5]at e3;refine .inl ⟨pl.length+i,b2,by rw[mo];exact c2,(kW.of σ b2).CR e3,?_⟩;have:=(dw.1 c2).1;rw[y4,rH,tL zO,QK zO,c1];congr 3;omega
  ·rw[q7]at e1;cases e1;have y6:b2≠ .dead:=q8.ag3 e3.alive;rw[xe,←y5 y6]at e3;exact .inl ⟨j',b2,by rw[mo];exact q2,q8.CR e3,by rw[y4];exact vy (by rw[rH];exact q1)⟩
  ·rw[c1]at e1;rw[c3]at e3;have:=e3.mono (w:=w) fun b hb=>(other id blk b e1 hb c2).2.1;exact .inr ⟨S.h.lt e1 this,(other id blk b e1 this c2).1,e1,this⟩
 have AA:∀b,vA P w o hp0 b∨w.heap.size≤b→M b∨B≤b:=by
  rintro b (h|h)
  ·obtain⟨j,id,b1,i1,i2,i3⟩:=ag8 b h;exact S.h.own id b1 b i2 i3
  ·exact .inr (mD S.size h)
 have XC:∀j c b,o0 bs j=some c→bW P w' (dC j) c b→vA P w o hp0 b∨w.heap.size≤b:=fun j c b h1 h2=>Sc.h.own j c b h1 h2;refine⟨β',hle,⟨⟨fun id blk ae=> ?_,fun i1 i2 b1 b2 b e1 e2 f1 f2=> ?_,fun id blk b ae hb=> ?_,Sc.h.ln⟩,fun b hb hM=> ?_,mD S.size Sc.size,fun b j hb=> ?_,⟨Sc.io.1.trans S.io.1,Sc.io.2.trans S.io.2⟩⟩,AJ⟩
 ·rcases cls id with⟨i,b2,c1,c2,c3,c4,c5⟩|⟨j',b2,b',c,b0,q1,q2,q3,q4,q5,q6,q7,q8,q9,xe,FB,y5⟩|⟨c1,c2,c3⟩
  ·rw[c3]at ae;cases ae;rw[c5];exact AJ.ag2 (Sc.h.rel _ b2 (by rw[mo];exact c2)) (.of σ b2)
  ·rw[q7]at ae;cases ae;have:=AJ.ag2 (Sc.h.rel j' b2 (by rw[mo];exact q2)) q8;by_cases y6:b2= .dead
   ·subst y6;cases q8;exact .dead
   ·rw[xe,←y5 y6];exact this
  ·rw[c1]at ae;rw[c3];exact(S.h.rel id blk ae).mono hle fun b hb=>(other id blk b ae hb c2).2
 ·rcases place i1 b1 b e1 f1 with⟨j1,c1,g1,g2,g3⟩|⟨g1,g2,g3,g4⟩<;>rcases place i2 b2 b e2 f2 with⟨j2,c2,k1,k2,k3⟩|⟨k1,k2,k3,k4⟩
  ·have:=Sc.h.inj j1 j2 c1 c2 b g1 k1 g2 k2;subst this;rw[g3]at k3;cases k3;rfl
  ·rcases XC j1 c1 b g1 g2 with h|h
   ·exact absurd h k2
   ·omega
  ·rcases XC j2 c2 b k1 k2 with h|h
   ·exact absurd h g2
   ·omega
  ·exact S.h.inj i1 i2 _ _ b g3 k3 g4 k4
 ·rcases place id blk b ae hb with⟨j1,c1,g1,g2,g3⟩|⟨g1,g2,g3,g4⟩
  ·exact AA b (XC j1 c1 b g1 g2)
  ·exact S.h.own id blk b g3 g4
 ·refine(Sc.dH b (gU hb S.size) fun hx=> ?_).trans (S.dH b hb hM)
  rcases AA b (.inl hx)with h|h
  ·exact hM h
  ·omega
 ·rcases Sc.new b j hb with h|h|h
  ·exact S.new b j h
  ·exact .inr (AA b (.inl h))
  ·exact .inr (AA b (.inr h))
end
section
variable {P:Program}{A:eh}{w w':World}{I I' I2:Nat->Nat->Prop}{μ β β' dC:Nat->Option Nat}{hp hp' hp0 cC:Nat->Option ah}{C:ab}{B:Nat}{M:Nat->Prop}{w0:Start}
theorem ag9(hp:Nat->Option ah):∀(a b:List (Nat×ah)),cY hp (a++b)=cY (cY hp b) a
 |[],b=>rfl
 |(i,x)::a,b=>by simp only[List.cons_append,cY,ag9 hp a b]
theorem FC{hp:Nat->Option ah}{l:List (Nat×ah)}{id:Nat}(h:∀q∈l,q.1≠id):cY hp l id=hp id:=by
 rcases Cr (hp:=hp) (l:=l) (id:=id)with h1|⟨b,hb,_⟩
 all_goals grind
def FD (P :Program) :Prop :=∀ (f :Nat) fn, P.funcs[f]?=some fn -> (fn.name== "runtime.NumGoroutine") =false
def QN(P:Program)(f:FuncId)(e:TypeId):Prop:=
 (∀args w,(callFunc f args).run P w=.ok (.enter f args) w)∧∃t,P.underlying t=some (.slice e)∧
  ∀(s:Value) (w:World) (Q:Ending->World->Prop),(s=.slice none 0 0->Q (.returned (.slice none 0 0)) w)->
   (∀a n c,s=.slice (some a) n c->∃v w',(Builtin.append_ #[t,t] t #[.slice (some ⟨w.heap.size,0,none⟩) 0 0,s]).run P (w.alloc (.cells #[] e))=.ok v w'∧Q (.returned v) w')->
   (s=.slice none 0 0∨∃a n c,s=.slice (some a) n c)->Calls P f #[s] w Q
structure oB(P:Program)(A:eh):Prop where
 count:FD P
 idle:∀f,A.idle f=true->(∀args w,(callFunc f args).run P w=.ok (.enter f args) w)∧
  ∀args w,CallsD P f args .returning w fun e u' w'=>(∃v,e=.returned v)∧u'=.returning∧w'=w
 u5:∀f e,A.u5 f=some e->QN P f e
theorem oB.here{P:Program}{A:eh}(h:oB P A)(f id:Nat):oB P (A.here f id):=⟨h.count,h.idle,h.u5⟩
def Jv(E:FuncId->Bool)(d:Deferred):Prop:= ∃f cap,d.target=.fn (.func f) cap∧E f=true
theorem XD{P:Program}{A:eh}(hP:oB P A){fn:Func}{tmps:Array Value}{R:Ending->World->Prop}{w:World}{v:Value}(hv:(results fn tmps).run P w=.ok v w)(hR:R (.returned v) w):
  ∀ds:List Deferred,(∀d∈ds,Jv A.idle d)->Leaves P fn tmps R ds .returning w
 |[],_=>⟨v,hv,hR⟩
 |d::ds,h=>by
  obtain⟨f,cap,ht,hf⟩:=h d zS;obtain⟨k1,k2⟩:=hP.idle f hf;obtain⟨t,das⟩:=d;simp only at ht;subst ht;refine leaves_cons (f:=f) (args:=das++cap) zS ?_ ?_
  .simp only[invoke];grind
  .refine(k2 (das++cap) w).mono fun e u' w' hr=>?_;obtain⟨⟨v',rfl⟩,rfl,rfl⟩:=hr;exact XD hP hv hR ds fun d hd=>h d (sB _ hd)
def QO(P:Program)(A:eh)(o:Oper)(a:Act)(w:World)(I:Nat->Nat->Prop)(β:Nat->Option Nat)(hp:Nat->Option ah)(B:Nat)(M:Nat->Prop)(w0:Start)(r:R):Prop:=
 ∀(next:Act->World->Prop) (Q:Exit->Act->World->Prop),
  (∀v w' I' β' ds,Le P w I β hp w' I' β' (cY hp r.upd)->aK P w' I' β' (cY hp r.upd) B M w0->ak P w' I' β' (cY hp r.upd) v r.v->(∀d∈ds,d∈a.defers∨Jv A.idle d)->next ({a with defers:=ds}.put o.dst v) w')->o.wp P a w next Q
theorem wG.step{o:Oper}{a:Act}{r:R}(h:wG P ((execOp a.eval o).run P w) w I β hp B M w0 r):QO P A o a w I β hp B M w0 r:=by
 obtain⟨v,w',I',β',h1,h2,h3,h4⟩:=h;intro next Q hn
 unfold Oper.wp;rcases h1 with h1|⟨h1,rfl⟩
 .rw[h1];exact hn v w' I' β' a.defers h2 h3 h4 fun d hd=>.inl hd
 .rw[h1];exact hn _ w' I' β' a.defers h2 h3 h4 fun d hd=>.inl hd
theorem aha:∀(l:List (Nat×VS)),u9 l=Ar (l.map (·.2))
 |[]=>rfl
 |(_,s)::l=>by simp only[u9,iB,Ar,aha l]
theorem ata(hC:qJ P A C)(S:aK P w I β hp B M w0)(hg:lP P A.bf w I){vals:List Value}{args:LV}{nb key:Nat}{f:FuncId}{r:R}{rd:LN}(hlen:vals.length=args.length)
  (dF:∀(j:Nat) v x,vals[j]?=some v->args[j]?=some x->ak P w I β hp v x) (h:(Is P A nb key f args).run C hp=some (r,rd)):
  ∃fn c,P.funcs[f]?=some fn∧fn.body=some c∧Calls P f vals.toArray w fun e w'=>∃v I' β',e=.returned v∧Le P w I β hp w' I' β' (cY hp r.upd)∧aK P w' I' β' (cY hp r.upd) B M w0∧ak P w' I' β' (cY hp r.upd) v r.v:=by
 unfold Is at h;obtain⟨CS,h0⟩:=aX h;clear h;rw[bK]at CS;subst CS;obtain⟨h1,ka,d1,u1,a1,a2,a3,a5,a4⟩:=Xv S h0 hlen dF;obtain⟨h2,AU,d2,u2,b1,b2,b3,b4⟩:=agR S a1;clear h0 a1;obtain⟨hc,h3⟩:=aX b1;clear b1;simp only[aZ,bK,ng]at hc;obtain⟨gl,rJ⟩:=hc;have CT:=a2.trans b2;have ra:h2.ds=d1++d2:=by have:=CT.ds;grind
 have yY:h2.upd=u1++u2:=by have:=CT.upd;grind
 have pW:(h2.pl.map Place.id).Nodup:=CT.nodup zS;obtain⟨c1,o,c2,c3⟩:=b4 [];simp only[jO]at c1 c2 c3;cases Jw:C key h2.ds with
 |none=>
  simp only[Rd.run,Jw]at h3;cases h3
 |some es=>
  have vi:∃jb,(Ir P (A.so key es) nb h2 (A.lv key es)).run C hp=some (r,jb):=by
   obtain⟨x,hx,e⟩:=bind_some h3;rw[Jw]at hx;cases hx;unfold eh.so eh.lv;cases fx:A.alt key with
   |none=>grind
   |some S2=>
    rw[fx]at e;simp only[Rd.run]at e;grind
  clear h3;obtain⟨jb,h3⟩:=vi;unfold Ir at h3;simp only at h3;generalize jT:jl (A.so key es).dN ((A.lv key es).drop (u9 (A.so key es).cW))=bs at h3;generalize y4:h2.pl++As nb (bs.length-h2.pl.length)=σ at h3;generalize Ju:yE σ nb (bs.drop h2.pl.length)=fr at h3;obtain⟨p0,bk,rd4,p1,p2,_,p3⟩:=agY h3;obtain⟨FA,rd5,p4⟩:=ag1 p1;obtain⟨CU,p4⟩:=aX p4;obtain rfl:=bG p4;have sM:h2.pl.length<=bs.length:=zG;have QL:∀q∈bk,∃(j:Nat) (b:ah),h2.pl[j]?=some (.blk q.1)∧bs[j]?=some b∧kW σ b q.2∧Jt hp q:=by
   intro q hq;rcases p2 q hq with hx|⟨j,b,k1,k2,k3,k4⟩
   .simp at hx
   .have hj:=(dw.1 k1).1;rw[mf hj]at k2;exact⟨j,b,k1,k2,k3,k4⟩
  obtain⟨fn,c,hf,hb,XE⟩:=hC key h2.ds es Jw;refine⟨fn,c,hf,hb,?_⟩;have xf:jl (A.sin key).dN (h2.ds.drop (u9 (A.sin key).cW))=jl (A.sin key).dN d2:=by
   rw[ra,aha,QG a3]
  have XF:(cD (A.sin key) h2.ds).hp=o0 (jl (A.sin key).dN d2):=by
   simp only[cD,mk,xf]
  have hl:∀j blk,(cD (A.sin key) h2.ds).hp j=some blk->∃p,iG h2.pl j=some p∧iu P w β hp p (o j) blk:=by
   intro j blk hj;rw[XF,mo]at hj;grind
  have hd:∀j,j<h2.pl.length->∃blk,(cD (A.sin key) h2.ds).hp j=some blk:=by
   intro j hj;rw[XF,mo];simp_all
  have ahb:Jn P w β hp h2.pl o (cD (A.sin key) h2.ds).hp:=by
   intro j p hj;obtain⟨blk,k1⟩:=hd j (by rw[rH]at hj;grind);grind
  have i1:∀b j,I b j->nr P w I β hp h2.upd b j:=fun b j h=>.inl h;have entry:=as5 (hp0:=(cD (A.sin key) h2.ds).hp) S pW rJ hl (fun ep j blk hj=>by
   have kz:=hj;rw[XF,mo]at kz;exact c3 (nr P w I β hp h2.upd) o _ i1 (fun q hq b j hb=>.inr ⟨q,zG,hb⟩) h2.pl [] zS ahb j blk kz (ep j blk hj)) (fun b j h=>h.elim (S.h.ln b j) fun⟨p,_,blk,g1,g2⟩=>S.h.lt g1 g2.own)
  have atb:vals.length=(A.sin key).cW.length:=zG;have ha:=XE w (nr P w I β hp h2.upd) o vals entry (hg.mono i1 fun _ _ _=>rfl) atb fun j v x hj hx=>by
   rw[ra]at hx;exact(((a4.later b2) (nr P w I β hp h2.upd) o _ i1 (fun q hq b j hb=>.inr ⟨q,zG,hb⟩) h2.pl [] zS ahb) d2).2 j v x hj hx
  refine ha.mono fun e w' XG=>?_;obtain⟨v,I2,dC,rfl,ha⟩:=XG;have QP:(cD (A.so key es) (A.lv key es)).hp=o0 bs:=by simp only[cD,mk,jT]
  cases ahc:(A.so key es).safe P with
  |true=>
   simp only[cond_true,jO];have mP:∀b j,I b j->I2 b j:=fun b j h=>ha.le.fT b j (i1 b j h);obtain⟨s1,s2⟩:=as8 ahc mP ha.Fy i1;have Fz:qI w I o (cD (A.sin key) h2.ds).hp w' I dC (o0 bs):=by
    rw[<-QP];exact⟨fun _ _ h=>h,fun b j h=>ha.le.dH b j (i1 b j h),ha.le.blk,ha.le.size⟩
   obtain⟨β',k1,k2,k3⟩:=ag6 S y4.symm Ju.symm pW sM p3 QL hl hd (by rw[<-QP];exact⟨s1.h,s1.dH,s1.size,fun b j h=>.inl h,s1.io⟩) Fz FA;exact⟨v,I,β',rfl,k1,k2,k3.val (by have:=s2 v ha.res;grind)⟩
  |false=>
   simp only[cond_false];rw[ahc,EM,il]at CU;have Jx:∀q∈h2.upd,E8 hp q:=fun q hq=>by
    have wM:=CU q hq;rcases CT.Jo q (yY▸hq)with h|⟨T,cs,h,_⟩
    all_goals grind
   obtain⟨wK,S1⟩:=IJ S Jx;rw[<-iC,ag9];have xd:∀p∈h2.pl,cY hp h2.upd p.id=hp p.id:=fun p hp=>FC fun q hq e=>
    QI rJ (lh.2 ⟨q,hq,rfl⟩) (e▸lh.2 ⟨p,hp,rfl⟩)
   have atc:∀q∈bk,∃(j:Nat) (b:ah),h2.pl[j]?=some (.blk q.1)∧bs[j]?=some b∧kW σ b q.2∧Jt (cY hp h2.upd) q:=by
    intro q hq;obtain⟨j,b,k1,k2,k3,k4⟩:=QL q hq;refine⟨j,b,k1,k2,k3,fun hn=>?_⟩;have:=xd _ (oa k1);simp only[Place.id]at this;grind
   have IF:∀j blk,(cD (A.sin key) h2.ds).hp j=some blk->∃p,iG h2.pl j=some p∧iu P w β (cY hp h2.upd) p (o j) blk:=by
    intro j blk hj;obtain⟨p,k1,k2⟩:=hl j blk hj;exact⟨p,k1,k2.other (xd p (by rw[rH]at k1;grind))⟩
   have atd:∀q∈fr,cY hp h2.upd q.1=none:=by
    intro q hq;rw[FC fun q' eD e=>?_]
    .grind
    .obtain⟨e1,dX,_,h5⟩:=Jx q' eD;grind
   obtain⟨β',k1,k2,k3⟩:=ag6 S1 y4.symm Ju.symm pW sM p3 atc IF hd (by rw[<-QP];exact ha.Fy) (by rw[<-QP];exact ha.le) atd;exact⟨v,I2,β',rfl,wK.trans k1,k2,k3.val (by have:=ha.res;grind)⟩
theorem ahd(hC:qJ P A C)(hP:oB P A)(S:aK P w I β hp B M w0)(hg:lP P A.bf w I){a:Act}{nb key:Nat}{o:Oper}{f:FuncId}{vals:List Value}{args:LV}(hlen:vals.length=args.length)
  (dF:∀(j:Nat) v x,vals[j]?=some v->args[j]?=some x->ak P w I β hp v x){r:R}{rd:LN}(h:(Is P A nb key f args).run C hp=some (r,rd))
  (hex:(execOp a.eval o).run P w=(callFunc f vals.toArray).run P w):QO P A o a w I β hp B M w0 r:=by
 intro next Q hn
 obtain⟨fn,c,hf,hb,XE⟩:=ata hC S hg hlen dF h;unfold Oper.wp;rw[hex,MuLone.run_callFunc_enter hf (hP.count f _ hf) hb,Oper.upon_enter];refine XE.mono fun e w' XG=>?_;obtain⟨v,I2,dC,rfl,k1,k2,k3⟩:=XG;exact hn v w' I2 dC a.defers k1 k2 k3 fun d hd=>.inl hd
theorem qw.args{a:Act}{sl:Nat->V}(hs:qw P w I β hp a sl)(hg:lP P A.bf w I){args:Array Operand}{ts:Array TypeId}(bR:args.size=ts.size):
  (args.map a.eval).toList.length=((args.toList.zip ts.toList).map fun p=>bO P A.bf p.2 sl p.1).length∧
  ∀(j:Nat) v x,(args.map a.eval).toList[j]?=some v->((args.toList.zip ts.toList).map fun p=>bO P A.bf p.2 sl p.1)[j]?=some x->ak P w I β hp v x:=by
 refine⟨by simp;omega,fun j v x hv hx=>?_⟩;simp only[Array.toList_map,j5,List.getElem?_zip_eq_some,Option.map_eq_some_iff]at hv hx;obtain⟨x1,w4,rfl⟩:=hv;obtain⟨⟨y1,t1⟩,⟨QQ,_⟩,rfl⟩:=hx;rw[w4]at QQ;cases QQ;exact hs.ev hg t1 _
theorem ate(hP:oB P A)(S:aK P w I β hp B M w0)(hg:lP P A.bf w I){a:Act}{sl:Nat->V}(hs:qw P w I β hp a sl){dst:Option Tmp}{ty e:TypeId}{pos:String}{after:Array Edge}{guard:Option (Nat×Bool)}{f:FuncId}
  {args:Array Operand}{argTypes:Array TypeId}{nb:Nat}{r:R}{rd:LN}(rF:A.u5 f=some e)
  (h:((match args.toList with
    |[x]=>.aQ (dU P e) (Ap e (bO P A.bf ty sl x) fun xs=>.aQ (Nat.ble (xs.length*P.bytesOf e) br) (kM nb (.arr e xs false) (.whole e nb) []))
    |_=>.fail):Rd R).run C hp=some (r,rd)):QO P A (Oper.mk dst (.call (Go.Call.mk (.value (.func f)) args argTypes)) ty pos after guard) a w I β hp B M w0 r:=by
 cases ha:args.toList with
 |nil=>rw[ha]at h;cases h
 |cons x l=>
  rw[ha]at h;cases l with
  |cons _ _=>cases h
  |nil=>
   simp only at h;have e1:args= #[x]:=zG;subst e1;have hx:=hs.ev hg ty x;obtain⟨av,h⟩:=aX h;have fin:∀{w1:World}{wL:Nat->Option Nat},(∀id blk,hp id=some blk->gj P w1 I wL hp (wL id) blk)->ak P w1 I wL hp (a.eval x) (bO P A.bf ty sl x)->∃xs,(((∃a',a.eval x=.slice a' 0 0)∧xs=[])∨∃a' c news,Row P w1 I e (a.eval x) xs a' c news)∧
     xs.length*P.bytesOf e<=br∧hp nb=none∧r=⟨.whole e nb,[(nb,.arr e xs false)]⟩:=by
    intro w1 wL h1 h2;obtain⟨xs,rG,l,h⟩:=Qr h1 av h2 h;obtain⟨fl,h⟩:=aX h;rw[gg]at fl;obtain⟨hn,rfl⟩:=oy h;grind
   obtain⟨c1,t,hu,c2⟩:=hP.u5 f e rF;intro next Q wZ
   unfold Oper.wp;have e2:(execOp a.eval ⟨dst,.call ⟨.value (.func f),#[x],argTypes⟩,ty,pos,after,guard⟩).run P w=.ok (.enter f #[a.eval x]) w:=by
    have kX:a.eval (.func f)=.func (.func f) #[] #[]:=rfl;simpa[execOp,resolve,kX,Deferred.ofValue,invoke]using c1 #[a.eval x] w
   rw[e2,Oper.upon_enter];refine c2 _ w _ (fun Jy=>?_) (fun b n c Fj=>?_) ?_
   .obtain⟨xs,rG,fl,hn,rfl⟩:=fin S.h.rel hx;have mQ:xs=[]:=by
     rcases rG with⟨_,h⟩|⟨a,c,news,hr⟩
     .exact h
     .have:=hr.val.symm.trans Jy;cases this
    subst mQ;obtain⟨a1,a2⟩:=IK S e hn;exact wZ _ w I _ a.defers a1 a2 (.fF (cB _ _ _) (cB _ _ _)) fun d hd=>.inl hd
   .obtain⟨m1,m2⟩:=arj (w':=w.alloc (.cells #[] e)) S (fun b hb=>heap_alloc_old w _ b hb) zS ⟨rfl,rfl⟩;obtain⟨xs,rG,fl,hn,rfl⟩:=fin m2.h.rel (hx.mono m1);obtain⟨v,w',β',a1,a2,a3,a4⟩:=WX (ty:=t) (a0:=some ⟨w.heap.size,0,none⟩) m2 hu av hn fl rG;exact⟨v,w',a1,wZ v w' I β' a.defers (m1.trans a2) a3 a4 fun d hd=>.inl hd⟩
   .obtain⟨xs,rG,fl,hn,rfl⟩:=fin S.h.rel hx;rcases rG with⟨⟨b,h⟩,_⟩|⟨b,c,news,hr⟩
    .rw[h];cases b with
     |none=>grind
     |some b=>grind
    .exact .inr ⟨_,_,_,hr.val⟩
theorem atf(hC:qJ P A C)(hP:oB P A)(S:aK P w I β hp B M w0)(hg:lP P A.bf w I){a:Act}{sl:Nat->V}(hs:qw P w I β hp a sl){ix nb:Nat}{o:Oper}{r:R}{rd:LN}
  (h:(mG P A sl ix nb o).run C hp=some (r,rd)):QO P A o a w I β hp B M w0 r:=by
 cases hc:Xm o.op with
 |false=>exact(asM S hg hs hc h).step
 |true=>
  obtain⟨dst,op,ty,pos,after,guard⟩:=o;cases op<;>simp only[Xm]at hc<;>first|(cases hc;done)|skip
  case defer c=>simp only[mG]at h;cases h
  rename_i c;obtain⟨callee,args,argTypes⟩:=c;cases callee with
  |invoke r m=>cases hc
  |builtin b=>cases hc
  |value f=>
   cases f with
   |func f=>
    simp only[mG]at h;cases rF:A.u5 f with
    |some e0=>
     rw[rF]at h;simp only at h;exact ate hP S hg hs rF h
    |none=>
    rw[rF]at h;simp only at h;obtain⟨h1,h2⟩:=aX h;rw[bK]at h1;obtain⟨k1,k2⟩:=hs.args hg h1;refine ahd hC hP S hg k1 k2 h2 ?_;have e1:(args.map a.eval).toList.toArray=args.map a.eval:=Array.toArray_toList;rw[e1];simp[execOp,resolve,Act.eval,Deferred.ofValue,invoke]
   |tmp t=>
    simp only[mG]at h;cases cv:sl t<;>rw[cv]at h<;>simp only at h<;>first|(cases h;done)|skip
    rename_i f xs ys;obtain⟨h1,h2⟩:=aX h;rw[bK]at h1;obtain⟨k1,k2⟩:=hs.args hg h1;have hv:=hs t;rw[cv]at hv;generalize Jh:a.tmps.getD t undef=vt at hv;cases hv with
    |@fn _ fs cs _ _ q1 q2 q3 q4=>
     have l1:fs.toList.length=xs.length:=zO;have l3:cs.toList.length=ys.length:=zO;have r1:∀(j:Nat) v x,fs.toList[j]?=some v->xs[j]?=some x->ak P w I β hp v x:=fun j v x hj hx=>q2 j v x zG hx;have r3:∀(j:Nat) v x,cs.toList[j]?=some v->ys[j]?=some x->ak P w I β hp v x:=fun j v x hj hx=>q4 j v x zG hx;refine ahd hC hP S hg (vals:=fs.toList++(args.map a.eval).toList++cs.toList) (args:=xs++((args.toList.zip argTypes.toList).map fun p=>bO P A.bf p.2 sl p.1)++ys) zG ?_ h2 ?_
     .grind
     .have e1:(fs.toList++(args.map a.eval).toList++cs.toList).toArray=fs++args.map a.eval++cs:=by
       grind
      rw[e1];have kX:a.eval (.tmp t)=.func (.func f) fs cs:=Jh;simp[execOp,resolve,kX,Deferred.ofValue,invoke]
   |_=>cases hc
end
section
variable {P:Program}{A:eh}{w w':World}{I I' I2:Nat->Nat->Prop}{μ β β':Nat->Option Nat}{hp hp':Nat->Option ah}{C:ab}{B:Nat}{M:Nat->Prop}{w0:Start}
structure jU(P:Program)(E:FuncId->Bool)(G:Nat->V)(w:World)(I:Nat->Nat->Prop)(β:Nat->Option Nat)(n:Nat)(a:Act)(st:St):Prop where
 sl:qw P w I β st.hp a st.sl
 size:a.tmps.size=n
 defers:∀d∈a.defers,Jv E d
 bf:lP P G w I
theorem XH{E:FuncId->Bool}{G:Nat->V}{n:Nat}{a:Act}{st:St}{o:Oper}{v:Value}{x:V}{hp':Nat->Option ah}{ds:List Deferred}(h:jU P E G w I β n a st)(hle:Le P w I β st.hp w' I' β' hp')(hd:Aw o n=true)
  (hv:ak P w' I' β' hp' v x) (ra:∀d∈ds,d∈a.defers∨Jv E d):jU P E G w' I' β' n ({a with defers:=ds}.put o.dst v) ⟨mH st.sl o.dst x,hp',st.nb⟩:=by
 have hdf:∀d∈ds,Jv E d:=fun d hd=>(ra d hd).elim (h.defers d) id;cases atg:o.dst with
 |none=>exact⟨fun k=>(h.sl k).mono hle,h.size,hdf,h.bf.mono hle.fT hle.dH⟩
 |some d=>
  have bt:d<a.tmps.size:=by
   unfold Aw at hd;rw[atg]at hd;rw[h.size];simpa using hd
  refine⟨fun k=>?_,by simp[Act.put,h.size],hdf,h.bf.mono hle.fT hle.dH⟩;simp only[Act.put,mH,aw];cases hb:Nat.beq k d with
  |true=>
   rw[bK]at hb;subst hb;simpa[bt]using hv
  |false=>
   have cw:d≠k:=fun e=>by rw[e,oT]at hb;cases hb
   have:=(h.sl k).mono hle;simpa[Array.getElem?_setIfInBounds_ne cw]using this
theorem ahe{E:FuncId->Bool}{G:Nat->V}{n:Nat}{a:Act}{st:St}{d:Nat}{b:Bool}(h:jU P E G w I β n a st)(hd:st.sl d=.bool b):a.tmps[d]?=some (.bool b):=by
 have:=h.sl d;rw[hd]at this;have:=this.o5;cases ht:a.tmps[d]?with
 |none=>simp[ht]at this;cases this
 |some v=>simp[ht]at this;rw[this]
theorem ath{x:V}{b:Bool}(h:rl x=some (some b)):x=.bool b:=by
 cases x with
 |bool c=>simp only[rl]at h;injection h with h;injection h with h;rw[h]
 |ct vs=>cases vs<;>simp[rl]at h
 |_=>simp[rl]at h
theorem ati{x:V}(h:rl x=some none):x=.ct []:=by
 cases x with
 |ct vs=>cases vs with
  |nil=>rfl
  |cons _ _=>simp[rl]at h
 |bool c=>simp[rl]at h
 |_=>simp[rl]at h
theorem ak.atj{v:Value}(h:ak P w I β hp v (.ct [])):v=.tuple #[]:=by
 cases h with
 |@ct cs _ hs _=>
  have:cs= #[]:=by
   apply Array.eq_empty_of_size_eq_zero;simpa using hs
  rw[this]
theorem ak.ahf:ak P w I β hp Go.undef (.ct []):=.ct (by rfl) (fun j v x _ hx=>by simp at hx)
theorem ahg(hC:qJ P A C)(hP:oB P A){ops:Array Oper}{n i nb:Nat}{o:Oper}(ho:ops[i]?=some o){a:Act}{st st':St}{R W:LN}(S:aK P w I β st.hp B M w0)(hA:jU P A.idle A.bf w I β n a st)
  (h:mh P A C n ops i o nb st=some (st',R,W)){K:Act->World->Prop}{Q:Exit->Act->World->Prop}
  (hK:∀a' w' I' β',Le P w I β st.hp w' I' β' st'.hp->aK P w' I' β' st'.hp B M w0->jU P A.idle A.bf w' I' β' n a' st'->K a' w'):wpOp P ops Q i K a w:=by
 unfold mh at h;cases hd:Aw o n with
 |false=>rw[hd]at h;cases h
 |true=>
  rw[hd]at h;simp only[cond_true]at h;have go:∀{XI:St}{R W:LN},(((mG P A st.sl i (nb+64*i) o).run C st.hp).bind fun r=>some ((⟨mH st.sl o.dst r.1.v,cY st.hp r.1.upd,st.nb⟩:St),yH r.2 r.1.upd,kO st.hp r.1.upd))=some (XI,R,W)->XI=st'->
    o.wp P a w K Q:=by
   intro XI R W h e;obtain⟨⟨r,rd⟩,h1,h2⟩:=bind_some h;cases h2;subst e;exact atf hC hP S hA.bf hA.sl h1 K Q fun v w' I' β' ds k1 k2 k3 k4=>hK _ w' I' β' k1 k2 (XH hA k1 hd k3 k4)
  unfold wpOp;rw[ho];simp only;cases hg:o.guard with
  |none=>
   rw[hg]at h;simp only[Region.wanted,hg,jZ];exact .inl (go h rfl)
  |some gw=>
   obtain⟨g,want⟩:=gw;rw[hg]at h;simp only at h;cases rK:(ops[g]?).bind (·.dst)with
   |none=>rw[rK]at h;cases h
   |some d=>
    rw[rK]at h;simp only at h;cases sV:rl (st.sl d)with
    |none=>rw[sV]at h;cases h
    |some ob=>
    rw[sV]at h;cases ob with
    |none=>
     have Fj:=ati sV;have hy:yielded ops a.tmps g=none:=by
      unfold yielded;rw[rK];have:=hA.sl d;rw[Fj]at this;have hu:=ak.atj this;simp only[Option.bind_some];cases ht:a.tmps[d]?with
      |none=>rfl
      |some v=>simp[ht]at hu;subst hu;rfl
     simp only[Region.wanted,hg,hy];injection h with h;injection h with h3 h4;subst h3;have h2:((none:Option Bool)==some want)=false:=rfl;simp only[h2,H5,mE];exact hK _ w I β (Le.refl w I β st.hp) S (XH (ds:=a.defers) hA (Le.refl w I β st.hp) hd ak.ahf fun d h=>.inl h)
    |some b=>
    simp only at h;have Fj:=ath sV;have hy:yielded ops a.tmps g=some b:=by
     unfold yielded;rw[rK];simp only[Option.bind_some,ahe hA Fj]
    simp only[Region.wanted,hg,hy];by_cases hb:b=want
    .subst hb;simp only[beq_self_eq_true,cond_true]at h;simp only[beq_self_eq_true,jZ];exact .inl (go h rfl)
    .have h1:(b==want)=false:=by simp[hb]
     have h2:(some b==some want)=false:=by simp[hb]
     rw[h1]at h;simp only[cond_false]at h;injection h with h;injection h with h3 h4;subst h3;simp only[h2,H5,mE];exact hK _ w I β (Le.refl w I β st.hp) S (XH (ds:=a.defers) hA (Le.refl w I β st.hp) hd ak.ahf fun d h=>.inl h)
def CV(hp hp':Nat->Option ah)(c:Nat):Prop:=hp' c=hp c∧(KB<=c->lk (hp' (c-KB))=lk (hp (c-KB)))
theorem CV.symm{c:Nat}(h:CV hp hp' c):CV hp' hp c:=⟨h.1.symm,fun hc=>(h.2 hc).symm⟩
theorem AV{α:Type}:∀{p:Rd α}{r:α}{rd:LN},p.run C hp=some (r,rd)->(∀id∈rd,CV hp hp' id)->p.run C hp'=some (r,rd)
 |.ret a,r,rd,h,_=>h
 |.fail,r,rd,h,_=>by cases h
 |.get id k,r,rd,h,he=>by
  obtain⟨x,h1,h2⟩:=bind_some h;cases h2;have e1:hp' id=hp id:=(he id zS).1;have:=AV (p:=k (hp id)) (r:=x.1) (rd:=x.2) h1 (fun i hi=>he i (by simp[hi]));simp only[Rd.run,e1,this,Option.bind_some]
 |.live id ok k,r,rd,h,he=>by
  simp only[Rd.run]at h⊢;cases hk:ok (lk (hp id))with
  |false=>rw[hk]at h;cases h
  |true=>
   rw[hk]at h;obtain⟨x,h1,h2⟩:=bind_some h;cases h2;have e1:lk (hp' id)=lk (hp id):=by
    have:=(he (id+KB) zS).2 (Nat.le_add_left _ _);rwa [Af]at this
   have:=AV (p:=k) (r:=x.1) (rd:=x.2) h1 (fun i hi=>he i (by simp[hi]));rw[e1,hk,this];rfl
 |.opt o k,r,rd,h,he=>by
  obtain⟨x,h1,h2⟩:=bind_some h;simp only[Rd.run,h1,Option.bind_some];exact AV h2 he
 |.aQ b k,r,rd,h,he=>by
  obtain⟨h1,h2⟩:=aX h;simp only[Rd.run,h1,cond_true];exact AV h2 he
 |.call key ds k,r,rd,h,he=>by
  obtain⟨x,h1,h2⟩:=bind_some h;simp only[Rd.run,h1,Option.bind_some];exact AV h2 he
 |.alt true x y,r,rd,h,he=>AV (p:=x) h he
 |.alt false x y,r,rd,h,he=>AV (p:=y) h he
theorem atk{G:Nat->V}{sl sl':Nat->V}{t:TypeId}{x:Operand}(h:∀k,x=.tmp k->sl k=sl' k):bO P G t sl x=bO P G t sl' x:=by
 cases x with
 |tmp k=>exact h k rfl
 |_=>rfl
theorem atl{sl sl':Nat->V}{ix nb:Nat}{o:Oper}(h:∀x∈o.op.operands,∀k,x=.tmp k->sl k=sl' k):mG P A sl ix nb o=mG P A sl' ix nb o:=by
 have kX:∀t x,x∈o.op.operands->bO P A.bf t sl x=bO P A.bf t sl' x:=fun t x hx=>atk (h x hx);obtain⟨dst,op,ty,pos,after,guard⟩:=o;have ahh:∀(t:TypeId) (ps:Array (Nat×Operand)),(∀x∈ps.map (·.2),bO P A.bf t sl x=bO P A.bf t sl' x)->
   (ps.toList.map fun p=>(p.1,bO P A.bf t sl p.2))=ps.toList.map fun p=>(p.1,bO P A.bf t sl' p.2):=fun t ps hp=>
  rf fun p hm=>by rw[hp p.2 (Array.mem_map.2 ⟨p,wk.1 hm,rfl⟩)]
 have atm:∀(t:TypeId) (ps:Array (Nat×Operand)),(∀x∈ps.map (·.2),bO P A.bf t sl x=bO P A.bf t sl' x)->
   (ps.toList.map fun p=>(bO P A.bf t sl p.2).cells)=ps.toList.map fun p=>(bO P A.bf t sl' p.2).cells:=fun t ps hp=>
  rf fun p hm=>by rw[hp p.2 (Array.mem_map.2 ⟨p,wk.1 hm,rfl⟩)]
 cases op<;>simp only[Op.operands]at kX<;>simp only[mG]
 case pick c x y=>rw[kX ty c zS,kX ty x zS,kX ty y zS]
 case build t ps=>rw[ahh ty ps fun x hx=>kX ty x (by simpa using hx),atm ty ps fun x hx=>kX ty x (by simpa using hx)]
 case buildSlice t len ps=>
  split
  .rename_i e _;rw[ahh e ps fun x hx=>kX e x (by simpa using hx)]
  .rfl
 case slice t x lo hi mx=>
  cases mx with
  |some m=>
   have e1:lo.map (bO P A.bf 0 sl)=lo.map (bO P A.bf 0 sl'):=by
    cases lo with
    |none=>rfl
    |some l=>simp only[Option.map_some,kX 0 l zS]
   have e2:hi.map (bO P A.bf 0 sl)=hi.map (bO P A.bf 0 sl'):=by
    cases hi with
    |none=>rfl
    |some l=>simp only[Option.map_some,kX 0 l zS]
   have e3:=kX 0 m zS;simp only[kX ty x zS,e1,e2,e3]
  |none=>
   have e1:lo.map (bO P A.bf 0 sl)=lo.map (bO P A.bf 0 sl'):=by
    cases lo with
    |none=>rfl
    |some l=>simp only[Option.map_some,kX 0 l zS]
   have e2:hi.map (bO P A.bf 0 sl)=hi.map (bO P A.bf 0 sl'):=by
    cases hi with
    |none=>rfl
    |some l=>simp only[Option.map_some,kX 0 l zS]
   simp only[kX ty x zS,e1,e2]
 case call c=>
  obtain⟨callee,args,argTypes⟩:=c;have CW:∀t x,x∈args->bO P A.bf t sl x=bO P A.bf t sl' x:=fun t x hx=>kX t x (by simp[Call.operands,hx]);have hl:∀t (l:List Operand),(∀x∈l,x∈args)->l.map (bO P A.bf t sl)=l.map (bO P A.bf t sl'):=fun t l hl=>rf fun x hx=>CW t x (hl x hx);have hz:((args.toList.zip argTypes.toList).map fun p=>bO P A.bf p.2 sl p.1)=(args.toList.zip argTypes.toList).map fun p=>bO P A.bf p.2 sl' p.1:=
   rf fun p hp=>CW p.2 p.1 (wk.1 (List.of_mem_zip hp).1)
  cases callee with
  |invoke r m=>rfl
  |builtin b=>
   have fx:∀x∈args.toList,∀t,bO P A.bf t sl x=bO P A.bf t sl' x:=fun x hx t=>CW t x (wk.1 hx);have QR:∀t (l:List Operand),(∀x∈l,∀t,bO P A.bf t sl x=bO P A.bf t sl' x)->l.map (bO P A.bf t sl)=l.map (bO P A.bf t sl'):=fun t l h=>rf fun x hx=>h x hx t;cases b<;>first|rfl|skip
   case append=>
    dsimp only;generalize args.toList=al at fx
    match al,fx,argTypes.toList with
    |[s,x],fx,[t,u]=>simp only[fx s zS,fx x zS]
    |[],_,_=>rfl
    |[_],_,_=>rfl
    |_::_::_::_,_,_=>rfl
    |[_,_],_,[]=>rfl
    |[_,_],_,[_]=>rfl
    |[_,_],_,_::_::_::_=>rfl
   case len=>
    dsimp only;generalize args.toList=al at fx
    match al,fx,argTypes.toList with
    |[x],fx,[t]=>simp only[fx x zS]
    |[],_,_=>rfl
    |_::_::_,_,_=>rfl
    |[_],_,[]=>rfl
    |[_],_,_::_::_=>rfl
   case clear=>
    dsimp only;generalize args.toList=al at fx
    match al,fx,argTypes.toList with
    |[x],fx,[t]=>simp only[fx x zS]
    |[],_,_=>rfl
    |_::_::_,_,_=>rfl
    |[_],_,[]=>rfl
    |[_],_,_::_::_=>rfl
   case max=>
    dsimp only;generalize args.toList=al at fx
    match al,fx with
    |[],_=>rfl
    |x::l,fx=>simp only[fx x zS,QR ty l (fun y hy=>fx y (by simp[hy]))]
   case min=>
    dsimp only;generalize args.toList=al at fx
    match al,fx with
    |[],_=>rfl
    |x::l,fx=>simp only[fx x zS,QR ty l (fun y hy=>fx y (by simp[hy]))]
  |value f=>
   cases f<;>first|rfl|skip
   .rename_i t;have ht:sl t=sl' t:=h (.tmp t) (by simp[Op.operands,Call.operands]) t rfl;simp only[hz,ht]
   .simp only[hz];cases hx:args.toList with
    |nil=>rfl
    |cons x l=>
     cases l with
     |cons _ _=>rfl
     |nil=>simp only[CW ty x (wk.1 (by rw[hx];simp))]
 case makeFunc fn a b=>
  cases fn<;>first|rfl|skip
  have e1:a.toList.map (bO P A.bf ty sl)=a.toList.map (bO P A.bf ty sl'):=rf fun x hx=>kX ty x (by simp[wk.1 hx]);have e2:b.toList.map (bO P A.bf ty sl)=b.toList.map (bO P A.bf ty sl'):=rf fun x hx=>kX ty x (by simp[wk.1 hx]);dsimp only;rw[e1,e2]
 case makeMap t r=>cases r<;>rfl
 all_goals first
  |rfl
  |(simp[kX];done)
end
section
variable {P:Program}{A:eh}{w w':World}{I I' I2:Nat->Nat->Prop}{μ β β':Nat->Option Nat}{hp hp':Nat->Option ah}{C:ab}{B:Nat}{M:Nat->Prop}{w0:Start}
theorem XJ{q:Nat×ah}{upd:List (Nat×ah)}(h:q∈upd):q.1∈kO hp upd:=by
 unfold kO;rw[List.mem_flatMap];refine⟨q,h,?_⟩;cases Nat.beq (lk (hp q.1)) (lk (some q.2))<;>simp
theorem atn{upd:List (Nat×ah)}(h:∀q∈upd,lk (hp' q.1)=lk (hp q.1)):kO hp' upd=kO hp upd:=by
 unfold kO
 induction upd with
 |nil=>rfl
 |cons q l ih=>
  rw[ER,ER,ih fun x hx=>h x (sB _ hx),h q zS]
theorem ahi{c:Nat}:∀{upd:List (Nat×ah)},c∉kO hp upd->CV hp (cY hp upd) c:=fun {upd}h=>by
 refine⟨FC fun q hq e=>h (e▸XJ hq),fun hc=>?_⟩
 induction upd with
 |nil=>rfl
 |cons q l ih=>
  have hl:c∉kO hp l:=fun hx=>h (by unfold kO at*;rw[ER];exact List.mem_append_right _ hx);have hq:lk (hp q.1)=lk (some q.2)∨c≠q.1+KB:=by
   cases hb:Nat.beq (lk (hp q.1)) (lk (some q.2))with
   |true=>exact .inl (HW hb)
   |false=>
    refine .inr fun e=>h ?_;unfold kO;rw[ER,hb,e];simp
  show lk (aw (cY hp l) q.1 (some q.2) (c-KB))=_;simp only[aw];cases hb:Nat.beq (c-KB) q.1 with
  |false=>exact ih hl
  |true=>
   have e:=HW hb;rcases hq with hq|hq
   .rw[cond_true,e];exact hq.symm
   .exact absurd zO hq
theorem ahj{n i nb:Nat}{ops:Array Oper}{o:Oper}{st st':St}{R W:LN}(h:mh P A C n ops i o nb st=some (st',R,W)):
  ∃x upd,st'=⟨mH st.sl o.dst x,cY st.hp upd,st.nb⟩∧W=kO st.hp upd∧∀iv:St,(∀d∈o.looksAt ops,iv.sl d=st.sl d)->(∀id∈R,CV st.hp iv.hp id)->
   mh P A C n ops i o nb iv=some (⟨mH iv.sl o.dst x,cY iv.hp upd,iv.nb⟩,R,W)∧W=kO iv.hp upd:=by
 unfold mh at h;cases hd:Aw o n with
 |false=>rw[hd]at h;cases h
 |true=>
  rw[hd]at h;simp only[cond_true]at h;have go:(((mG P A st.sl i (nb+64*i) o).run C st.hp).bind fun r=>some ((⟨mH st.sl o.dst r.1.v,cY st.hp r.1.upd,st.nb⟩:St),yH r.2 r.1.upd,kO st.hp r.1.upd))=some (st',R,W)->
    ∃x upd,st'=⟨mH st.sl o.dst x,cY st.hp upd,st.nb⟩∧W=kO st.hp upd∧∀iv:St,(∀d∈o.looksAt ops,iv.sl d=st.sl d)->(∀id∈R,CV st.hp iv.hp id)->
     (((mG P A iv.sl i (nb+64*i) o).run C iv.hp).bind fun r=>some ((⟨mH iv.sl o.dst r.1.v,cY iv.hp r.1.upd,iv.nb⟩:St),yH r.2 r.1.upd,kO iv.hp r.1.upd))=some (⟨mH iv.sl o.dst x,cY iv.hp upd,iv.nb⟩,R,W)∧W=kO iv.hp upd:=by
   intro h;obtain⟨⟨r,rd⟩,h1,h2⟩:=bind_some h;cases h2;refine⟨r.v,r.upd,rfl,rfl,fun iv hs hh=>?_⟩;have hw:kO iv.hp r.upd=kO st.hp r.upd:=atn fun q hq=>by
    have:=(hh (q.1+KB) (List.mem_append_right _ (lh.2 ⟨q,hq,rfl⟩))).2 (Nat.le_add_left _ _);rwa [Af]at this
   rw[atl (sl':=st.sl) fun x hx k hk=>?_,AV h1 fun c hc=>hh c (Pe _ hc)]
   .refine⟨?_,hw.symm⟩;rw[Option.bind_some,hw]
   .subst hk;exact hs k (Pe _ (List.mem_filterMap.2 ⟨.tmp k,by simpa using hx,rfl⟩))
  cases hg:o.guard with
  |none=>
   rw[hg]at h;obtain⟨x,upd,e1,e2,e3⟩:=go h;refine⟨x,upd,e1,e2,fun iv hs hh=>?_⟩;unfold mh;simp only[hd,cond_true,hg];exact e3 iv hs hh
  |some gw=>
   obtain⟨g,want⟩:=gw;rw[hg]at h;simp only at h;cases rK:(ops[g]?).bind (·.dst)with
   |none=>rw[rK]at h;cases h
   |some d=>
    rw[rK]at h;simp only at h;have XK:d∈o.looksAt ops:=List.mem_append_right _ (by rw[hg];simp[rK]);cases sV:rl (st.sl d)with
    |none=>rw[sV]at h;cases h
    |some ob=>
    rw[sV]at h;cases ob with
    |none=>
     injection h with h;injection h with h3 h4;injection h4 with h5 h6;subst h5;subst h6;refine⟨.ct [],[],h3.symm,rfl,fun iv hs hh=>?_⟩;unfold mh;simp only[hd,cond_true,hg,rK,hs d XK,sV];exact⟨rfl,rfl⟩
    |some b=>
    simp only at h;cases hb:b==want with
    |true=>
     rw[hb]at h;obtain⟨x,upd,e1,e2,e3⟩:=go h;refine⟨x,upd,e1,e2,fun iv hs hh=>?_⟩;unfold mh;simp only[hd,cond_true,hg,rK,hs d XK,sV,hb];exact e3 iv hs hh
    |false=>
     rw[hb]at h;simp only[cond_false]at h;injection h with h;injection h with h3 h4;injection h4 with h5 h6;subst h5;subst h6;refine⟨.ct [],[],h3.symm,rfl,fun iv hs hh=>?_⟩;unfold mh;simp only[hd,cond_true,hg,rK,hs d XK,sV,hb,cond_false];exact⟨rfl,rfl⟩
theorem ahk{sl:Nat->V}{d:Option Nat}{x:V}{k:Nat}(h:d≠some k):mH sl d x k=sl k:=by
 cases d with
 |none=>rfl
 |some d=>exact dj _ _ fun e=>h (by rw[e])
theorem ato{hp:Nat->Option ah}{a b:List (Nat×ah)}(h:∀q∈a,∀q'∈b,q.1≠q'.1):cY (cY hp a) b=cY (cY hp b) a:=by
 funext id;by_cases ha:∃q∈a,q.1=id
 .have hb:∀q∈b,q.1≠id:=by
   obtain⟨q,hq,rfl⟩:=ha;exact fun q' eD e=>h q hq q' eD e.symm
  rw[FC hb];obtain⟨q,hq,rfl⟩:=ha;have same:∀(cC gO:Nat->Option ah) (l:List (Nat×ah)) (q:Nat×ah),q∈l->cY cC l q.1=cY gO l q.1:=by
   intro cC gO l
   induction l with
   |nil=>intro q hq;simp at hq
   |cons p l ih=>
    intro q hq;simp only[cY,aw];cases hb:Nat.beq q.1 p.1 with
    |true=>rfl
    |false=>
     simp only[cond_false];refine ih q ((j4.1 hq).resolve_left fun e=>?_);rw[e,oT]at hb;cases hb
  exact same _ _ a q hq
 .rw[FC (hp:=cY hp b) (l:=a) fun q hq e=>ha ⟨q,hq,e⟩];have same:∀(cC gO:Nat->Option ah) (l:List (Nat×ah)),cC id=gO id->cY cC l id=cY gO l id:=by
   intro cC gO l he
   induction l with
   |nil=>exact he
   |cons p l ih=>
    simp only[cY,aw];cases hb:Nat.beq id p.1 with
    |true=>rfl
    |false=>exact ih
  exact same _ _ b (FC fun q hq e=>ha ⟨q,hq,e⟩)
structure ahl(ops:Array Oper)(o1 o2:Oper)(R1 W1 R2 W2:LN):Prop where
 apart:Oper.apart ops o1 o2=true
 w:∀id∈W1,id∉R2∧id∉W2
 r:∀id∈R1,id∉W2
theorem atp{n i j nb:Nat}{ops:Array Oper}{o1 o2:Oper}{st nt iv:St}{R1 W1 R2 W2:LN}(h1:mh P A C n ops i o1 nb st=some (nt,R1,W1))(h2:mh P A C n ops j o2 nb nt=some (iv,R2,W2))
  (hi:ahl ops o1 o2 R1 W1 R2 W2):∃QS,mh P A C n ops j o2 nb st=some (QS,R2,W2)∧mh P A C n ops i o1 nb QS=some (iv,R1,W1):=by
 obtain⟨x1,u1,e1,f1,g1⟩:=ahj h1;obtain⟨x2,u2,e2,f2,g2⟩:=ahj h2;obtain⟨a1,a2,a3⟩:=Oper.apart_spec hi.apart;subst e1;have k2:=g2 st (fun d hd=>by simp only;rw[ahk fun e=>a1 d e hd]) fun c hc=>(ahi fun hw=>(hi.w c (by rw[f1];exact hw)).1 hc).symm;refine⟨_,k2.1,?_⟩;rw[(g1 _ (fun d hd=>?_) (fun c hd=>?_)).1,e2]
 .congr 3
  .funext k;cases QT:o1.dst with
   |none=>rfl
   |some d1=>
    cases tX:o2.dst with
    |none=>rfl
    |some d2=>
     have cw:d2≠d1:=fun e=>a2 d1 QT (by rw[tX,e]);simp only[mH,aw];cases yU:Nat.beq k d1<;>cases xg:Nat.beq k d2<;>simp only[cond_true,cond_false];rw[bK]at yU xg;exact absurd (xg.symm.trans yU) cw
  .exact(ato fun q hq q' eD e=>(hi.w q.1 (by rw[f1];exact XJ hq)).2 (by rw[f2,e];exact XJ eD)).symm
 .simp only;rw[ahk fun e=>a3 d e hd]
 .exact ahi fun hw=>hi.r c hd (by rw[k2.2];exact hw)
def FE(P:Program)(A:eh)(C:ab)(n:Nat)(ops:Array Oper)(nb:Nat):List (Nat×Oper×LN×LN)->St->St->Prop
 |[],st,st'=>st=st'
 |(i,o,R,W)::l,st,st'=>∃nt,mh P A C n ops i o nb st=some (nt,R,W)∧FE P A C n ops nb l nt st'
def CX(x:Nat×Oper×LN×LN):Nat×LN×LN:=(x.1,x.2.2.1,x.2.2.2)
theorem ahm{n nb:Nat}{ops:Array Oper}:∀{l:List (Nat×Oper)}{st st':St}{log QU:Log},wA P A C n ops nb l st log=some (st',QU)->
  ∃g,g.map (fun x=>(x.1,x.2.1))=l∧QU=log++g.map CX∧FE P A C n ops nb g st st'
 |[],st,st',log,QU,h=>by
  cases h;exact⟨[],rfl,zS,rfl⟩
 |(i,o)::l,st,st',log,QU,h=>by
  obtain⟨⟨nt,R,W⟩,h1,h2⟩:=bind_some h;obtain⟨g,a,b,c⟩:=ahm h2;exact⟨(i,o,R,W)::g,by simp[a],by simp[b,CX],nt,h1,c⟩
def ahn(ops:Array Oper)(x y:Nat×Oper×LN×LN):Prop:=ahl ops x.2.1 y.2.1 x.2.2.1 x.2.2.2 y.2.2.1 y.2.2.2
theorem aho{n nb:Nat}{ops:Array Oper}{y:Nat×Oper×LN×LN}{g2:List (Nat×Oper×LN×LN)}:∀{g1:List (Nat×Oper×LN×LN)}{st st':St},
  FE P A C n ops nb (g1++y::g2) st st'->(∀x∈g1,ahn ops x y)->∃nt,mh P A C n ops y.1 y.2.1 nb st=some (nt,y.2.2.1,y.2.2.2)∧FE P A C n ops nb (g1++g2) nt st'
 |[],st,st',h,_=>h
 |x::g1,st,st',h,hi=>by
  obtain⟨nt,h1,h2⟩:=h;obtain⟨iv,h3,h4⟩:=aho h2 fun z hz=>hi z (sB _ hz);obtain⟨QS,h5,h6⟩:=atp h1 h3 (hi x zS);exact⟨QS,h5,iv,h6,h4⟩
theorem ahp(hC:qJ P A C)(hP:oB P A){n nb:Nat}{ops:Array Oper}{Q:Exit->Act->World->Prop}:∀{g:List (Nat×Oper×LN×LN)}{st st':St}{a:Act}{w:World}{I:Nat->Nat->Prop}{β:Nat->Option Nat},
  FE P A C n ops nb g st st'->(∀x∈g,ops[x.1]?=some x.2.1)->aK P w I β st.hp B M w0->jU P A.idle A.bf w I β n a st->
  (∀a' w' I' β',Le P w I β st.hp w' I' β' st'.hp->aK P w' I' β' st'.hp B M w0->jU P A.idle A.bf w' I' β' n a' st'->Q .normal a' w')->wpOps P ops Q (g.map (·.1)) a w
 |[],st,st',a,w,I,β,h,_,S,hA,hQ=>by
  cases h;exact hQ a w I β (Le.refl w I β _) S hA
 |x::g,st,st',a,w,I,β,h,ho,S,hA,hQ=>by
  obtain⟨nt,h1,h2⟩:=h;rw[iB,wpOps_cons];refine ahg hC hP (ho x zS) S hA h1 fun a' w' I' β' k1 k2 k3=>?_;exact ahp hC hP h2 (fun y hy=>ho y (sB _ hy)) k2 k3 fun a2 w2 I2 dC m1 m2 m3=>hQ a2 w2 I2 dC (k1.trans m1) m2 m3
end
section
variable {P:Program}{A:eh}{w w':World}{I I' I2:Nat->Nat->Prop}{μ β β':Nat->Option Nat}{hp hp':Nat->Option ah}{C:ab}{B:Nat}{M:Nat->Prop}{w0:Start}
inductive CY(ops:Array Oper):Nat->Nat->Prop
 |ahq {i x:Nat}{o:Oper}{e:Edge}:ops[i]?=some o->e∈o.after->Region.binds .any e=true->e.on=x->CY ops i x
 |trans {i x:Nat}{o:Oper}{e:Edge}:ops[i]?=some o->e∈o.after->Region.binds .any e=true->CY ops e.on x->CY ops i x
theorem ahr{acc:Array Nat}{x:Nat}:∀{l:List Edge}{s:Nat},(l.foldl (fun s e=>if Region.binds .any e then s|||2^e.on|||acc.getD e.on 0 else s) s).testBit x=true->
  s.testBit x=true∨∃e∈l,Region.binds .any e=true∧(e.on=x∨(acc.getD e.on 0).testBit x=true)
 |[],s,h=>.inl h
 |e::l,s,h=>by
  simp only[List.foldl_cons]at h;rcases ahr h with h1|⟨e',a,b⟩
  .by_cases hb:Region.binds .any e=true
   .rw[ai hb,rh,rh,ri,ri]at h1;rcases h1 with(h1|h1)|h1
    .exact .inl h1
    .rw[wm]at h1;exact .inr ⟨e,zS,hb,.inl (by simpa using h1)⟩
    .exact .inr ⟨e,zS,hb,.inr h1⟩
   .rw[af hb]at h1;exact .inl h1
  .exact .inr ⟨e',sB _ a,b⟩
theorem ahs{ops:Array Oper}{x:Nat}:∀{l:List Oper}{acc:Array Nat},(∀j o,l[j]?=some o->ops[acc.size+j]?=some o)->(∀j,(acc.getD j 0).testBit x=true->CY ops j x)->
  ∀j,((l.foldl (fun acc o=>acc.push (o.after.foldl (fun s e=>if Region.binds .any e then s|||2^e.on|||acc.getD e.on 0 else s) 0)) acc).getD j 0).testBit x=true->CY ops j x
 |[],acc,_,CZ,j,h=>CZ j h
 |o::l,acc,hl,CZ,j,h=>by
  simp only[List.foldl_cons]at h;refine ahs (l:=l) ?_ ?_ j h
  .intro j o' hj;have:=hl (j+1) o' (by simpa using hj);rw[Array.size_push];rwa [show acc.size+1+j=acc.size+(j+1) by omega]
  .intro k hk;simp only[EK,Array.getElem?_push]at hk;by_cases jc:k=acc.size
   .rw[ai jc]at hk;simp only[Option.getD_some]at hk;rw[<-O9]at hk;have ho:=hl 0 o rfl;rw[Nat.add_zero]at ho;rw[jc];have xg:(o.after.toList.foldl (fun s e=>if Region.binds .any e then s|||2^e.on|||acc.getD e.on 0 else s) 0).testBit x=true:=by simpa[EK]using hk
    rcases ahr xg with h0|⟨e,he,hb,h1⟩
    .simp at h0
    .rcases h1 with h1|h1
     .exact .ahq ho (wk.1 he) hb h1
     .exact .trans ho (wk.1 he) hb (CZ _ h1)
   .rw[af jc]at hk;exact CZ k (by simpa[EK]using hk)
theorem atq{ops:Array Oper}{i x:Nat}(h:((Region.before ops).getD i 0).testBit x=true):CY ops i x:=by
 unfold Region.before at h;rw[<-O9]at h;refine ahs (l:=ops.toList) (acc:= #[]) (fun j o hj=>by simpa using hj) (fun j hj=>by simp at hj) i h
def aht(ops:Array Oper)(listed:Array Bool):Prop:=∀i o,ops[i]?=some o->listed.getD i false=true->∀e∈o.after,Region.binds .any e=true->listed.getD e.on false=true
theorem atr{ops:Array Oper}{listed:Array Bool}(hc:aht ops listed){i x:Nat}(h:CY ops i x)(hi:∀o,ops[i]?=some o->∀e∈o.after,Region.binds .any e=true->listed.getD e.on false=true):listed.getD x false=true:=by
 induction h with
 |ahq ho he hb hx=>rw[<-hx];exact hi _ ho _ he hb
 |trans ho he hb _ ih=>exact ih fun o' wC e' Qq aI=>hc _ o' wC (hi _ ho _ he hb) e' Qq aI
theorem ahu:∀{l:List Oper}{k j:Nat}{o:Oper},Iu k l=true->l[j]?=some o->∀e∈o.after,Region.binds .any e=true->e.on<k+j
 |[],k,j,o,_,h=>by simp at h
 |o'::l,k,j,o,hk,h=>by
  simp only[Iu,aZ]at hk;cases j with
  |zero=>
   simp at h;subst h;intro e he hb;have:=il.1 hk.1 e (wk.2 he);simp[hb]at this;omega
  |succ j=>
   intro e he hb;have:=ahu hk.2 (j:=j) (by simpa using h) e he hb;omega
theorem ahv{ops:Array Oper}{Ci:Array Nat}:∀{l:Log},PN ops Ci l=true->l.Pairwise fun x y=>It ops Ci x y=true
 |[],_=>.nil
 |x::l,h=>by
  simp only[PN,aZ]at h;exact .cons (fun y hy=>il.1 h.1 y hy) (ahv h.2)
theorem ahw{listed:Array Bool}{i:Nat}(h:listed.getD i true=false):i<listed.size∧listed.getD i false=false:=by
 rcases iQ i listed.size with h'|h'
 .refine⟨h',?_⟩;simpa[h']using h
 .simp[Array.getElem?_eq_none h']at h
theorem ahx(hC:qJ P A C)(hP:oB P A){n nb:Nat}{ops:Array Oper}{Q:Exit->Act->World->Prop}(QV:Iu 0 ops.toList=true):
  ∀(fuel:Nat){g:List (Nat×Oper×LN×LN)}{listed:Array Bool}{st st':St}{a:Act}{w:World}{I:Nat->Nat->Prop}{β:Nat->Option Nat},
  g.length=fuel->FE P A C n ops nb g st st'->(∀x∈g,ops[x.1]?=some x.2.1)->(g.map (·.1)).Pairwise (· < ·)->(g.map CX).Pairwise (fun x y=>It ops (Region.before ops) x y=true)->
  listed.size=ops.size->(∀i,i<ops.size->(listed.getD i false=false↔i∈g.map (·.1)))->aht ops listed->
  aK P w I β st.hp B M w0->jU P A.idle A.bf w I β n a st->
  (∀a' w' I' β',Le P w I β st.hp w' I' β' st'.hp->aK P w' I' β' st'.hp B M w0->jU P A.idle A.bf w' I' β' n a' st'->Q .normal a' w')->wpAny P .any ops Q fuel listed a w
 |0,g,listed,st,st',a,w,I,β,hf,hr,ho,bt,AW,bR,C3,rF,S,hA,hQ=>by
  obtain rfl:g=[]:=sA hf;cases hr;refine⟨?_,hQ a w I β (Le.refl w I β _) S hA⟩;rw[List.eq_nil_iff_forall_not_mem];intro i hi;obtain⟨h0,_⟩:=mem_ready.1 hi;obtain⟨h1,h2⟩:=ahw h0;have:=(C3 i zO).1 h2;simp at this
 |fuel+1,g,listed,st,st',a,w,I,β,hf,hr,ho,bt,AW,bR,C3,rF,S,hA,hQ=>by
  refine⟨fun Jy=>?_,fun i hi=>?_⟩
  .exfalso;cases g with
   |nil=>simp at hf
   |cons x g=>
    have hx:=ho x zS;have mQ:x.1<ops.size:=(B4.1 hx).1;have gZ:x.1∈Region.ready .any ops listed:=by
     rw[mem_ready];have h0:=(C3 x.1 mQ).2 zS;refine⟨?_,x.2.1,hx,fun e he hb=>?_⟩
     .have hl:x.1<listed.size:=zO;simpa[hl]using h0
     .have W5:=ahu QV (j:=x.1) (by simpa using hx) e he hb;rw[dT]at W5;cases hle:listed.getD e.on false with
      |true=>rfl
      |false=>
       have hm:=(C3 e.on zO).1 hle;simp only[iB,j4]at hm;rw[iB,ES]at bt;rcases hm with hm|hm
       .omega
       .have:=bt.1 _ hm;omega
    rw[Jy]at gZ;cases gZ
  .obtain⟨h0,oi,Jz,hed⟩:=mem_ready.1 hi;obtain⟨h1,h2⟩:=ahw h0;have hig:=(C3 i zO).1 h2;obtain⟨y,hy,hyi⟩:=lh.1 hig;obtain⟨g1,g2,rfl⟩:=List.append_of_mem hy;subst hyi;have hyo:=ho y hy;rw[Jz]at hyo;have ahy:oi=y.2.1:=ee hyo;have pW:((g1++y::g2).map (·.1)).Nodup:=bt.imp fun h=>H3 h;have ats:∀x∈g1,ahn ops x y:=by
    intro x hx;have hp:It ops (Region.before ops) (CX x) (CX y)=true:=by
     rw[sC,iB,List.pairwise_append]at AW;exact AW.2.2 _ (lh.2 ⟨x,hx,rfl⟩) _ zS
    have hxo:=ho x (gh.2 (.inl hx));unfold It at hp;rw[ri]at hp;rcases hp with hp|hp
    .have hl:=atr rF (atq hp) fun o wC e he hb=>by
      have:o=oi:=by
       have h3:ops[y.1]?=some o:=wC;rw[Jz]at h3;exact(ee h3).symm
      subst this;exact hed e he hb
     have mQ:x.1<ops.size:=(B4.1 hxo).1;have:=(C3 x.1 mQ).2 (lh.2 ⟨x,gh.2 (.inl hx),rfl⟩);rw[show(CX x).1=x.1 from rfl,this]at hl;cases hl
    .simp only[CX,EK,hxo,Jz,Option.getD_some,aZ,ng]at hp;obtain⟨q1,q2,q3⟩:=hp;refine⟨ahy▸q1,fun id ae=>?_,fun id ae=>QI q3 ae⟩;have:=QI q2 ae;rw[gh]at this;exact⟨fun h=>this (.inl h),fun h=>this (.inr h)⟩
   obtain⟨nt,nq,mR⟩:=aho hr ats;rw[<-ahy]at nq;refine ahg hC hP Jz S hA nq fun a' w' I' β' k1 k2 k3=>?_;have mN:List.Sublist (g1++g2) (g1++y::g2):=List.Sublist.append_left (List.sublist_cons_self y g2) g1;have vd:∀j,j≠y.1->(listed.setIfInBounds y.1 true).getD j false=listed.getD j false:=fun j hj=>getD_set_ne false (Ne.symm hj);refine ahx hC hP QV fuel (g:=g1++g2) (st':=st') ?_ mR (fun x hx=>ho x (mN.subset hx)) (bt.sublist (mN.map _)) (AW.sublist (mN.map _)) (by simp[bR]) (fun j hj=>?_) (fun j o XL eX e he hb=>?_) k2 k3 fun a2 w2 I2 dC m1 m2 m3=>hQ a2 w2 I2 dC (k1.trans m1) m2 m3
   .simp at hf⊢;omega
   .by_cases wP:j=y.1
    .subst wP;have hl:y.1<listed.size:=zO;simp only[EK,Array.getElem?_setIfInBounds_self_of_lt hl,Option.getD_some];refine⟨fun h=>(by cases h),fun h=>?_⟩;exfalso;rw[sC,iB,List.nodup_append,List.nodup_cons]at pW;rw[sC,gh]at h;rcases h with h|h
     .exact pW.2.2 _ h _ zS rfl
     .exact pW.2.1.1 h
    .rw[vd j wP,C3 j hj];simp only[sC,iB,gh,j4];constructor
     .rintro(h|h|h)
      .exact .inl h
      .exact absurd h wP
      .exact .inr h
     .rintro(h|h)
      .exact .inl h
      .exact .inr (.inr h)
   .by_cases wP:j=y.1
    .subst wP;rw[Jz]at XL;cases XL;exact getD_set_true (hed e he hb)
    .rw[vd j wP]at eX;exact getD_set_true (rF j o XL eX e he hb)
end
section
variable {P:Program}{A:eh}{w w':World}{I I' I2:Nat->Nat->Prop}{μ β β':Nat->Option Nat}{hp hp':Nat->Option ah}{C:ab}{B:Nat}{M:Nat->Prop}{w0:Start}
theorem ahz:∀{l:List Oper}{k j:Nat},(vb k l)[j]?=(l[j]?).map fun o=>(k+j,o)
 |[],k,j=>by simp[vb]
 |o::l,k,0=>by simp[vb]
 |o::l,k,j+1=>by
  simp only[vb,List.getElem?_cons_succ,ahz];congr 1;funext o;rw[show k+1+j=k+(j+1) by omega]
theorem ahA:∀{l:List Oper}{k:Nat},(vb k l).map (·.1)=List.range' k l.length
 |[],k=>rfl
 |o::l,k=>by simp[vb,ahA,List.range'_succ]
theorem att(hC:qJ P A C)(hP:oB P A)(hm:P.follows .mixedOrders=true){n id:Nat}{ops:Array Oper}{draw:Bool}{st st':St}{a:Act}{Q:Exit->Act->World->Prop}
  (h:E6 P A C n ops draw st=some st') (S:aK P w I β st.hp B M w0) (hA:jU P A.idle A.bf w I β n a st)
  (hQ:∀a' w' I' β',Le P w I β st.hp w' I' β' st'.hp->aK P w' I' β' st'.hp B M w0->jU P A.idle A.bf w' I' β' n a' st'->Q .normal a' w'):(Code.region id ops draw).wp P Q a w:=by
 obtain⟨⟨nt,log⟩,h1,h2⟩:=bind_some h;obtain⟨g,g1,g2,g3⟩:=ahm h1;have QW:g.map (·.1)=List.range ops.size:=by
  have:g.map (·.1)=(g.map fun x=>(x.1,x.2.1)).map (·.1):=zS;rw[this,g1,ahA,List.range_eq_range'];simp
 have JA:∀x∈g,ops[x.1]?=some x.2.1:=by
  intro x hx;have:(x.1,x.2.1)∈vb 0 ops.toList:=by rw[<-g1];exact lh.2 ⟨x,hx,rfl⟩
  obtain⟨j,hj⟩:=List.mem_iff_getElem?.1 this;rw[ahz]at hj;cases ho:ops.toList[j]?with
  |none=>rw[ho]at hj;cases hj
  |some o=>
   rw[ho]at hj;simp only[Option.map_some,dT,gi,oW]at hj;rw[<-hj.1,<-hj.2];simpa using ho
 cases draw with
 |false=>
  simp only[Bool.not_false,Bool.true_or,cond_true]at h2;cases h2;refine wp_region ?_;rw[<-QW];exact ahp hC hP g3 JA S hA hQ
 |true=>
  simp only[BX,EM]at h2;cases hc:(Region.noSelect ops&&Iv ops log)with
  |false=>rw[hc]at h2;cases h2
  |true=>
   rw[hc]at h2;cases h2;simp only[aZ,Iv]at hc;obtain⟨hns,QV,atu⟩:=hc;simp only[List.nil_append]at g2;refine wp_region_any hm ?_;have hlen:g.length=ops.size:=by
    have:=congrArg List.length QW;simpa using this
   refine ahx hC hP QV ops.size (g:=g) (st':=st') hlen g3 JA (by rw[QW];exact List.pairwise_lt_range) (by rw[<-g2];exact ahv atu) zS (fun i hi=>?_) (fun i o ho hl=>?_)
    (w:=w.drew) S.drew ⟨fun k=>(hA.sl k).mono (Le.drew w I β _),hA.size,hA.defers,hA.bf.mono (Le.drew (P:=P) w I β st.hp).fT (Le.drew (P:=P) w I β st.hp).dH⟩ fun a' w' I' β' k1 k2 k3=>hQ a' w' I' β' ((Le.drew w I β _).trans k1) k2 k3
   .rw[QW];simp[hi]
   .have hi:=(B4.1 ho).1;simp[hi]at hl
end
section
variable {P:Program}{A:eh}{E:FuncId->Bool}{G:Nat->V}{w w':World}{I I' I2:Nat->Nat->Prop}{μ β β':Nat->Option Nat}{hp hp':Nat->Option ah}{C:ab}{B:Nat}{M:Nat->Prop}{w0:Start}
theorem AX:∀{l:LN}{hp:Nat->Option ah}{I:Nat->Nat->Prop},aK P w I β hp B M w0->∃I',Le P w I β hp w I' β (Au hp l)∧aK P w I' β (Au hp l) B M w0
 |[],hp,I,S=>⟨I,Le.refl w I β hp,S⟩
 |id::l,hp,I,S=>by
  simp only[Au];cases ae:hp id with
  |none=>exact AX S
  |some blk=>
   cases blk with
   |dead=>exact AX S
   |out _ _ _ _=>exact AX S
   |var _=>exact AX S
   |map _ _=>exact AX S
   |arr e es fz=>
    obtain⟨h1,h2⟩:=IJ S (upd:=[(id,.arr e es true)]) (fun p hp=>by
     simp only[oc]at hp;subst hp;exact⟨e,es,rfl,.inl ⟨fz,ae⟩⟩)
    obtain⟨I',h3,h4⟩:=AX (l:=l) h2;exact⟨I',h1.trans h3,h4⟩
   |nest e es vers=>
    obtain⟨h1,h2⟩:=IJ S (upd:=[(id,.arr e es true)]) (fun p hp=>by
     simp only[oc]at hp;subst hp;exact⟨e,es,rfl,.inr ⟨vers,ae⟩⟩)
    obtain⟨I',h3,h4⟩:=AX (l:=l) h2;exact⟨I',h1.trans h3,h4⟩
theorem ahB{n:Nat}{a:Act}{st:St}(S:aK P w I β st.hp B M w0)(hA:jU P E G w I β n a st):
  ∃I',Le P w I β st.hp w I' β st.hp∧aK P w I' β st.hp B M w0∧jU P E G w I' β n a st∧yN P I' β st.hp:=by
 obtain⟨I',h1,h2,h3⟩:=afx S;exact⟨I',h1,h2,⟨fun k=>(hA.sl k).mono h1,hA.size,hA.defers,hA.bf.mono h1.fT h1.dH⟩,h3⟩
theorem atv{n:Nat}{a:Act}{st:St}(S:aK P w I β st.hp B M w0)(hA:jU P E G w I β n a st)(p:Nat):
  ∃β',Le P w I β st.hp w I β' (Av st p).hp∧aK P w I β' (Av st p).hp B M w0∧jU P E G w I β' n a (Av st p):=by
 have same:∃β',Le P w I β st.hp w I β' st.hp∧aK P w I β' st.hp B M w0∧jU P E G w I β' n a st:=⟨β,Le.refl ..,S,hA⟩
 unfold Av;cases Nat.ble (2*KB) p with
 |false=>exact same
 |true=>
  simp only[cond_true];split
  .rename_i e hn hx;obtain⟨h1,h2⟩:=Wm S (vers:=[0,0,0]) e hn;refine⟨_,h1,h2,⟨fun k=>?_,hA.size,hA.defers,hA.bf⟩⟩;show ak P w I (aw β st.nb none) (aw st.hp st.nb (some (.nest e [] [0,0,0]))) _ (aw st.sl (p%KB) (V.whole e st.nb) k);by_cases hk:k=p%KB
   .subst hk;have hv:=hA.sl (p%KB);rw[hx]at hv;rw[cB];generalize a.tmps.getD (p%KB) _=v at hv⊢;cases hv;exact .fS (cB _ _ _) (cB _ _ _)
   .rw[dj _ _ hk];exact(hA.sl k).mono h1
  .rename_i cs hn hx;split
   .rename_i e hc;obtain⟨h1,h2⟩:=Wm S (vers:=[0,0,0]) e hn;refine⟨_,h1,h2,⟨fun k=>?_,hA.size,hA.defers,hA.bf⟩⟩;show ak P w I (aw β st.nb none) (aw st.hp st.nb (some (.nest e [] [0,0,0]))) _ (aw st.sl (p%KB) (V.agg (cs.set (p/KB-2) (.whole e st.nb))) k);by_cases hk:k=p%KB
    .subst hk;have hv:=hA.sl (p%KB);rw[hx]at hv;rw[cB];generalize a.tmps.getD (p%KB) _=v at hv⊢;obtain⟨vs,rfl,nq,mR⟩:=hv.o6;refine .agg zG fun j v x hv qA=>?_;by_cases hj:p/KB-2=j
     .subst hj;have bt:=(dw.1 hc).1;rw[BU bt]at qA;cases qA;have CL:=mR _ v _ hv hc;cases CL;exact .fS (vers:=[0,0,0]) (cB _ _ _) (cB _ _ _)
     .rw[BV hj]at qA;exact(mR j v x hv qA).mono h1
    .rw[dj _ _ hk];exact(hA.sl k).mono h1
   omega
  .rename_i id hn hx;split
   .rename_i T cs ae;split
    .rename_i e hc;obtain⟨h1,h2⟩:=Wm S (vers:=[0,0,0]) e hn;have cw:id≠st.nb:=fun h=>zG;have vn:aw st.hp st.nb (some (.nest e [] [0,0,0])) id=some (.var T cs):=by rw[dj _ _ cw];exact ae
     have hr:=h2.h.rel id _ vn;generalize ho:aw β st.nb none id=o at hr;cases hr with
     |@var _ b Ca _ hb hh hs hI qB nn=>
     subst hb;obtain⟨h3,h4⟩:=Wo (w':=w) h2 (blk':=.var T (cs.set (p/KB-2) (.whole e st.nb))) vn zS rfl ho hI zS (fun _ _=>rfl) rfl (aC _) ⟨rfl,rfl⟩
      (fun hle=>.var rfl hh zG hI (fun j v x hv qA=>by
       by_cases hj:p/KB-2=j
       .subst hj;have bt:=(dw.1 hc).1;rw[BU bt]at qA;cases qA;have CL:=qB _ v _ hv hc;cases CL;exact .fS (vers:=[0,0,0]) (by rw[dj _ _ (Ne.symm cw)];exact cB _ _ _) (cB _ _ _)
       .rw[BV hj]at qA;exact(qB j v x hv qA).mono hle) nn)
     exact⟨_,h1.trans h3,h4,⟨fun k=>(hA.sl k).mono (h1.trans h3),hA.size,hA.defers,hA.bf⟩⟩
    omega
   omega
  omega
theorem ahC{n:Nat}{a:Act}:∀(l:LN){st:St}{β:Nat->Option Nat},aK P w I β st.hp B M w0->jU P E G w I β n a st->
  ∃β',Le P w I β st.hp w I β' (l.foldl Av st).hp∧aK P w I β' (l.foldl Av st).hp B M w0∧jU P E G w I β' n a (l.foldl Av st)
 |[],st,β,S,hA=>⟨β,Le.refl ..,S,hA⟩
 |p::l,st,β,S,hA=>by
  obtain⟨wL,h1,h2,h3⟩:=atv S hA p;obtain⟨dC,h4,h5,h6⟩:=ahC l h2 h3;exact⟨dC,h1.trans h4,h5,h6⟩
theorem ahD{n m:Nat}{pur:LN}{a:Act}{st:St}(S:aK P w I β st.hp B M w0)(hA:jU P E G w I β n a st):
  ∃I' β',Le P w I β st.hp w I' β' (freeze m pur st).hp∧aK P w I' β' (freeze m pur st).hp B M w0∧jU P E G w I' β' n a (freeze m pur st):=by
 obtain⟨I1,h1,h2⟩:=AX (l:=(Wb st pur).filter fun id=>Nat.ble m id) S;obtain⟨I',h3,h4,h5⟩:=afx h2;have h1:=h1.trans h3;have hA2:jU P E G w I' β n a ⟨st.sl,Au st.hp ((Wb st pur).filter fun id=>Nat.ble m id),st.nb⟩:=⟨fun k=>(hA.sl k).mono h1,hA.size,hA.defers,hA.bf.mono h1.fT h1.dH⟩
 obtain⟨β',k1,k2,k3⟩:=ahC pur h4 hA2;exact⟨I',β',h1.trans k1,k2,k3⟩
structure FF(hp:Nat->Option ah)(β:Nat->Option Nat)(ord:LN)(hp':Nat->Option ah)(β':Nat->Option Nat):Prop where
 arr:∀(j:Nat) id e es fz,ord[j]?=some id->hp id=some (.arr e es fz)->hp' j=some (.arr e es fz)
 var:∀(j:Nat) id T cs,ord[j]?=some id->hp id=some (.var T cs)->∃mM,hp' j=some (.var T mM)
 dead:∀(j:Nat) id,ord[j]?=some id->hp id=some .dead->hp' j=some .dead
 out:∀(j:Nat) id e es vs i,ord[j]?=some id->hp id=some (.out e es vs i)->hp' j=some .dead
 place:∀(j:Nat) id,ord[j]?=some id->β' j=β id
 nest:∀(j:Nat) id e es vers,ord[j]?=some id->hp id=some (.nest e es vers)->hp' j=some (.nest e es (vers.map fun _=>0))
 map:∀(j:Nat) id t es,ord[j]?=some id->hp id=some (.map t es)->hp' j=some (.map t es)
theorem pX:∀{l:LN}{n i j:Nat},lK l n i=some j->∃k,j=i+k∧l[k]?=some n
 |[],n,i,j,h=>by cases h
 |a::l,n,i,j,h=>by
  simp only[lK]at h;cases hb:Nat.beq n a with
  |true=>
   simp_all
  |false=>
   rw[hb]at h;obtain⟨k,h1,h2⟩:=pX h;exact⟨k+1,zO,zG⟩
def qK(hp':Nat->Option ah)(β':Nat->Option Nat)(n:Nat)(bs:List ah):Prop:=
 ∀(k:Nat) b,bs[k]?=some b->hp' (n+k)=some b∧β' (n+k)=none
theorem XM:∀(vers:LN) (k:Nat),cq (vers.map fun _=>0) k=0
 |[],_=>rfl
 |_::_,0=>rfl
 |_::vs,k+1=>XM vs k
theorem ahE{e:TypeId}{es:LV}{vers:LN}{path:Path}{ver:Nat}(hc:(Nat.blt 0 path.length&&(Nat.ble path.length vers.length&&Nat.beq (cq vers (path.length-1)) ver))=true)
  (h:(ah.nest e es vers).yJ path ver):False:=by
 simp only[aZ,rb,gg,bK]at hc;obtain⟨h1,h2,h3⟩:=hc;rcases h with h|h|h
 all_goals grind
theorem ahF(S:aK P w I β hp B M w0)(hT:yN P I β hp){ord:LN}(hR:FF hp β ord hp' β'){v:Value}{x:V}(hv:ak P w I β hp v x):ak P w I β' hp' v (lM hp ord x):=by
 cases hv with
 |undef=>exact .undef
 |int=>exact .int
 |bool=>exact .bool
 |str h=>exact .str h
 |list h=>exact .list h
 |nilS=>exact .nilS
 |agg=>exact .undef
 |ct=>exact .undef
 |im=>exact .im
 |fn=>exact .undef
 |pref a b c=>exact .pref a b c
 |@fM _ e id ae=>
  simp only[lM];cases cC:lK ord id 0 with
  |none=>simp only[ae];exact .undef
  |some j=>
   obtain⟨k,rfl,hk⟩:=pX cC;exact .fM (hR.dead _ id zG ae)
 |@lN _ e id off len ae=>
  simp only[lM];cases cC:lK ord id 0 with
  |none=>simp only[ae];exact .undef
  |some j=>
   obtain⟨k,rfl,hk⟩:=pX cC;exact .lN (hR.dead _ id zG ae)
 |@oh _ id i c ae=>
  simp only[lM];cases cC:lK ord id 0 with
  |none=>exact .undef
  |some j=>
   obtain⟨k,rfl,hk⟩:=pX cC;exact .oh (hR.dead _ id zG ae)
 |@fF e id fz _ ae hb=>
  simp only[lM];cases cC:lK ord id 0 with
  |none=>
   simp only[ae];cases fz with
   |false=>exact .undef
   |true=>simp only[oT,cond_true];exact .list (.any fun _=>rfl)
  |some j=>
   obtain⟨k,rfl,hk⟩:=pX cC;have fG:ord[0+k]?=some id:=zG;exact .fF (hR.arr _ id _ _ _ fG ae) ((hR.place _ id fG).trans hb)
 |@whole e id es fz b cap ae hb bR cQ hm=>
  simp only[lM];cases cC:lK ord id 0 with
  |none=>
   simp only[ae];cases fz with
   |false=>exact .undef
   |true=>
    simp only[oT,cond_true];have hr:=S.h.rel id _ ae;cases hr with
    |gk aI=>grind
    |arr hL av aI hh hs hf iS hx=>
     rw[hb]at aI;cases aI;have:=Cp (I':=I) (off:=0) (len:=es.length) (o:=0) hh hx (gE av) zO cQ (fun _=>zS) (fun _ _ h=>h) (hT _ _ _ _ ae hb);exact .list zG
  |some j=>
   obtain⟨k,rfl,hk⟩:=pX cC;have fG:ord[0+k]?=some id:=zG;exact .whole (hR.arr _ id _ _ _ fG ae) ((hR.place _ id fG).trans hb) bR cQ hm
 |@lO e id fz _ ae hb=>
  simp only[lM];cases cC:lK ord id 0 with
  |none=>
   simp only[ae];cases fz with
   |false=>exact .undef
   |true=>simp only[oT,cond_true];exact .list (by simpa using(nk.any (P:=P) fun _=>rfl))
  |some j=>
   obtain⟨k,rfl,hk⟩:=pX cC;have fG:ord[0+k]?=some id:=zG;exact .lO (hR.arr _ id _ _ _ fG ae) ((hR.place _ id fG).trans hb)
 |@sub e id off len es fz b o cap ae hb oo cQ ho=>
  simp only[lM];cases cC:lK ord id 0 with
  |none=>
   simp only[ae];cases fz with
   |false=>exact .undef
   |true=>
    simp only[oT,cond_true];have hr:=S.h.rel id _ ae;cases hr with
    |gk aI=>grind
    |arr hL av aI hh hs hf iS hx=>
     rw[hb]at aI;cases aI;exact .list (Cp (I':=I) hh hx (gE av) oo cQ ho (fun _ _ h=>h) (hT _ _ _ _ ae hb))
  |some j=>
   obtain⟨k,rfl,hk⟩:=pX cC;have fG:ord[0+k]?=some id:=zG;exact .sub (hR.arr _ id _ _ _ fG ae) ((hR.place _ id fG).trans hb) oo cQ ho
 |@ptr id i c b blk ae hd hb=>
  simp only[lM];cases cC:lK ord id 0 with
  |none=>exact .undef
  |some j=>
   obtain⟨k,rfl,hk⟩:=pX cC;have fG:ord[0+k]?=some id:=zG;cases blk with
   |dead=>grind
   |var T0 cs=>
    obtain⟨mM,h'⟩:=hR.var _ id T0 cs fG ae;exact .ptr (blk:=.var T0 mM) h' zS ((hR.place _ id fG).trans hb)
   |arr e es fz=>exact .ptr (blk:=.arr e es fz) (hR.arr _ id _ _ _ fG ae) zS ((hR.place _ id fG).trans hb)
   |nest e es vers=>exact .ptr (blk:=.nest e es (vers.map fun _=>0)) (hR.nest _ id _ _ _ fG ae) zS ((hR.place _ id fG).trans hb)
   |map t es=>exact .ptr (blk:=.map t es) (hR.map _ id _ _ fG ae) zS ((hR.place _ id fG).trans hb)
   |out e es vs i=>exact .oh (hR.out _ id _ _ _ _ fG ae)
 |fQ=>exact .fQ
 |@mK _ t id ae=>
  simp only[lM];cases cC:lK ord id 0 with
  |none=>exact .undef
  |some j=>
   obtain⟨k,rfl,hk⟩:=pX cC;exact .mK (hR.dead _ id zG ae)
 |@cX t id b es ae hb=>
  simp only[lM];cases cC:lK ord id 0 with
  |none=>exact .undef
  |some j=>
   obtain⟨k,rfl,hk⟩:=pX cC;have fG:ord[0+k]?=some id:=zG;exact .cX (hR.map _ id _ _ fG ae) ((hR.place _ id fG).trans hb)
 |@iJ e id i es vers b cap ae hb bR cQ hm=>
  simp only[lM];cases cC:lK ord id 0 with
  |none=>simp only[ae];exact .undef
  |some j=>
   obtain⟨k,rfl,hk⟩:=pX cC;exact .fM (hR.out _ id _ _ _ _ zG ae)
 |@fS e id vers _ ae hb=>
  simp only[lM];cases cC:lK ord id 0 with
  |none=>simp only[ae];exact .undef
  |some j=>
   obtain⟨k,rfl,hk⟩:=pX cC;have fG:ord[0+k]?=some id:=zG;exact .fS (hR.nest _ id _ _ _ fG ae) ((hR.place _ id fG).trans hb)
 |@fq e id es vers b cap ae hb bR cQ hm=>
  simp only[lM];cases cC:lK ord id 0 with
  |none=>simp only[ae];exact .undef
  |some j=>
   obtain⟨k,rfl,hk⟩:=pX cC;have fG:ord[0+k]?=some id:=zG;exact .fq (hR.nest _ id _ _ _ fG ae) ((hR.place _ id fG).trans hb) bR cQ hm
 |@oj v e id ver path blk ae II=>
  simp only[lM];split
  .rename_i j e1 dX vers h1 h2;rw[ae]at h2;cases h2;cases hc:(Nat.blt 0 path.length&&(Nat.ble path.length vers.length&&Nat.beq (cq vers (path.length-1)) ver))with
   |false=>exact .undef
   |true=>exact(ahE hc II).elim
  .exact .undef
 |@om v id ver i c path blk ae II=>
  simp only[lM];split
  .rename_i j e1 dX vers h1 h2;rw[ae]at h2;cases h2;cases hc:(Nat.blt 0 path.length&&(Nat.ble path.length vers.length&&Nat.beq (cq vers (path.length-1)) ver))with
   |false=>exact .undef
   |true=>exact(ahE hc II).elim
  .exact .undef
 |@row v e e0 t id ver b i c q es l vers ae hb hq hv ht hc=>
  simp only[lM];split
  .rename_i j e1 dX AD h1 h2;obtain⟨k,rfl,hk⟩:=pX h1;have fG:ord[0+k]?=some id:=zG;cases hx:(Nat.blt 0 (q++[(i,c)]).length&&(Nat.ble (q++[(i,c)]).length AD.length&&Nat.beq (cq AD ((q++[(i,c)]).length-1)) ver))with
   |false=>exact .undef
   |true=>exact .row (hR.nest _ id _ _ _ fG ae) ((hR.place _ id fG).trans hb) zG (XM _ _) ht hc
  .exact .undef
 |@eJ e e0 t id ver b b1 len cap i0 c0 i c q es l vers ae hb hq hv ht oq hc=>
  simp only[lM];split
  .rename_i j e1 dX AD h1 h2;obtain⟨k,rfl,hk⟩:=pX h1;have fG:ord[0+k]?=some id:=zG;cases hx:(Nat.blt 0 (q++[(i0,c0)]).length&&(Nat.ble (q++[(i0,c0)]).length AD.length&&Nat.beq (cq AD ((q++[(i0,c0)]).length-1)) ver))with
   |false=>exact .undef
   |true=>exact .eJ (hR.nest _ id _ _ _ fG ae) ((hR.place _ id fG).trans hb) zG (XM _ _) ht oq hc
  .exact .undef
theorem ahG(S:aK P w I β hp B M w0)(hT:yN P I β hp){ord:LN}(hR:FF hp β ord hp' β'){vs:Array Value}{xs:LV}(h:∀(j:Nat) v x,vs[j]?=some v->xs[j]?=some x->ak P w I β hp v x)(j:Nat)(v:Value)(y:V)
  (hv:vs[j]?=some v) (hy:(xs.map (lM hp ord))[j]?=some y):ak P w I β' hp' v y:=by
 rw[j5]at hy;cases hx:xs[j]?with
 |none=>grind
 |some x=>rw[hx]at hy;cases hy;exact ahF S hT hR (h j v x hv hx)
theorem ahH(S:aK P w I β hp B M w0)(hT:yN P I β hp){ord:LN}(hR:FF hp β ord hp' β'){kn:Bool}{n:Nat}{v:Value}{x:V}(hv:ak P w I β hp v x)(hF:qK hp' β' n (E4 hp ord kn n x).2):
  ak P w I β' hp' v (E4 hp ord kn n x).1:=by
 cases x with
 |nilS e=>
  cases hv with
  |nilS=>
   cases kn with
   |true=>exact .nilS
   |false=>
    obtain⟨h1,h2⟩:=hF 0 _ rfl;exact .fF h1 h2
 |fn f a b=>
  cases hv with
  |fn q1 q2 q3 q4=>exact .fn zG (ahG S hT hR q2) zG (ahG S hT hR q4)
 |_=>exact ahF S hT hR hv
end
section
variable {P:Program}{A:eh}{w w':World}{I I' I2:Nat->Nat->Prop}{μ β β':Nat->Option Nat}{hp hp':Nat->Option ah}{C:ab}{B:Nat}{M:Nat->Prop}{w0:Start}
theorem qK.left{n:Nat}{a b:List ah}(h:qK hp' β' n (a++b)):qK hp' β' n a:=fun k x hx=>
 h k x (by rw[tK (dw.1 hx).1];exact hx)
theorem qK.right{n:Nat}{a b:List ah}(h:qK hp' β' n (a++b)):qK hp' β' (n+a.length) b:=fun k x hx=>by
 have:=h (a.length+k) x (by rw[tL zO,Pd];exact hx);rwa [<-EL]at this
def sW(bs:List ah):Prop:=∀b∈bs,∃e,b=.arr e [] false
theorem sW.app{a b:List ah}(h1:sW a)(h2:sW b):sW (a++b):=fun x hx=>(gh.1 hx).elim (h1 x) (h2 x)
theorem sW.nil:sW []:=fun x hx=>by simp at hx
theorem ahI{ord:LN}{kn:Bool}{n:Nat}{x:V}:sW (E4 hp ord kn n x).2:=by
 cases x<;>simp only[E4]<;>first|exact .nil|skip
 cases kn<;>first|exact .nil|skip
 intro b hb;simp only[cond_false,oc]at hb;exact⟨_,hb⟩
theorem XN{ord:LN}{kn:Bool}:∀{xs:LV}{n:Nat},sW (tR hp ord kn n xs).2
 |[],n=>.nil
 |x::xs,n=>by
  simp only[tR];exact ahI.app XN
theorem QX{ord:LN}{kn:Bool}:∀{xs:LV}{n:Nat},(tR hp ord kn n xs).1.length=xs.length
 |[],n=>rfl
 |x::xs,n=>by simp only[tR,List.length_cons,QX]
theorem QY(S:aK P w I β hp B M w0)(hT:yN P I β hp){ord:LN}(hR:FF hp β ord hp' β'){kn:Bool}:∀{xs:LV}{vs:List Value}{n:Nat},(∀(j:Nat) v x,vs[j]?=some v->xs[j]?=some x->ak P w I β hp v x)->
  qK hp' β' n (tR hp ord kn n xs).2->∀(j:Nat) v y,vs[j]?=some v->(tR hp ord kn n xs).1[j]?=some y->ak P w I β' hp' v y
 |[],vs,n,h,hF,j,v,y,hv,hy=>by simp[tR]at hy
 |x::xs,vs,n,h,hF,j,v,y,hv,hy=>by
  simp only[tR]at hF hy;cases j with
  |zero=>
   simp at hy;subst hy;exact ahH S hT hR (h 0 v x hv rfl) hF.left
  |succ j=>
   cases vs with
   |nil=>simp at hv
   |cons v0 vs=>exact QY S hT hR (vs:=vs) (fun j v x hj hx=>h (j+1) v x (by simpa using hj) (by simpa using hx)) hF.right j v y (by simpa using hv) (by simpa using hy)
theorem atw{ord:LN}{n:Nat}{x:V}:sW (yG hp ord n x).2:=by
 cases x<;>simp only[yG]<;>first|exact ahI|exact XN
theorem atx(S:aK P w I β hp B M w0)(hT:yN P I β hp){ord:LN}(hR:FF hp β ord hp' β'){n:Nat}{v:Value}{x:V}(hv:ak P w I β hp v x)(hF:qK hp' β' n (yG hp ord n x).2):
  ak P w I β' hp' v (yG hp ord n x).1:=by
 cases x with
 |agg cs=>
  obtain⟨ds,rfl,h1,h2⟩:=hv.o6;simp only[yG]at hF⊢;exact .agg (by rw[QX];exact h1) fun j v y hj hy=>QY S hT hR (vs:=ds.toList) (fun j v x hj hx=>h2 j v x (by simpa using hj) hx) hF j v y (by simpa using hj) hy
 |ct cs=>
  obtain⟨ds,rfl,h1,h2⟩:=hv.Cw;simp only[yG]at hF⊢;exact .ct (by rw[QX];exact h1) fun j v y hj hy=>QY S hT hR (vs:=ds.toList) (fun j v x hj hx=>h2 j v x (by simpa using hj) hx) hF j v y (by simpa using hj) hy
 |_=>exact ahH S hT hR hv hF
theorem ahJ{ord:LN}{sl:Nat->V}:∀{l:LN}{n:Nat},sW (rq hp ord sl n l).2
 |[],n=>.nil
 |s::l,n=>by
  simp only[rq];exact atw.app ahJ
theorem ahK{ord:LN}{sl:Nat->V}{k:Nat}{y:V}:∀{l:LN}{n:Nat},qK hp' β' n (rq hp ord sl n l).2->gM (rq hp ord sl n l).1 k=some y->
  ∃n',qK hp' β' n' (yG hp ord n' (sl k)).2∧y=(yG hp ord n' (sl k)).1
 |[],n,_,h=>by cases h
 |s::l,n,hF,h=>by
  simp only[rq]at hF h;simp only[gM]at h;cases hb:Nat.beq k s with
  |true=>
   rw[hb]at h;rw[bK]at hb;subst hb;cases h;exact⟨n,hF.left,rfl⟩
  |false=>
   rw[hb]at h;exact ahK hF.right h
theorem aty{ord kp:LN}{n id:Nat}:sW (iH hp ord kp n id).2:=by
 unfold iH;split
 .exact XN
 .exact .nil
 .exact .nil
 .exact .nil
 .exact .nil
theorem ahL{ord kp:LN}:∀{l:LN}{n:Nat},sW (ko hp ord kp n l).2
 |[],n=>.nil
 |s::l,n=>by
  simp only[ko];exact aty.app ahL
theorem ahM{ord kp:LN}:∀{l:LN}{n:Nat},(ko hp ord kp n l).1.length=l.length
 |[],n=>rfl
 |x::xs,n=>by simp only[ko,List.length_cons,ahM]
theorem ahN{ord kp:LN}:∀{l:LN}{n j:Nat}{id:Nat},l[j]?=some id->∃n',(qK hp' β' n (ko hp ord kp n l).2->qK hp' β' n' (iH hp ord kp n' id).2)∧(ko hp ord kp n l).1[j]?=some (iH hp ord kp n' id).1
 |[],n,j,id,h=>by simp at h
 |s::l,n,j,id,h=>by
  simp only[ko];cases j with
  |zero=>
   simp at h;subst h;exact⟨n,fun hF=>hF.left,rfl⟩
  |succ j=>
   obtain⟨n',h1,h2⟩:=ahN (n:=n+(iH hp ord kp n s).2.length) (j:=j) (by simpa using h);exact⟨n',fun hF=>h1 hF.right,by simpa using h2⟩
theorem QZ:∀{l acc:LN},∃t,Ch hp acc l=acc++t∧(acc.Nodup->(acc++t).Nodup)
 |[],acc=>⟨[],by simp[Ch],zS⟩
 |id::l,acc=>by
  simp only[Ch];cases hb:(kL acc id|| !(V8 hp id))with
  |true=>exact QZ
  |false=>
   obtain⟨t,h1,h2⟩:=QZ (l:=l) (acc:=acc++[id]);refine⟨id::t,by simp only[cond_false,h1,iC,List.singleton_append],fun hn=>?_⟩;have:acc++id::t=(acc++[id])++t:=zS;rw[this];refine h2 ?_;rw[List.nodup_append];refine⟨hn,zS,fun a ha b aI=>?_⟩;simp only[oc]at aI;subst aI;intro e;subst e;rw[Fg ha]at hb;cases hb
theorem ahO:∀{n:Nat}{l:LN},∃t,grow hp n l=l++t∧(l.Nodup->(l++t).Nodup)
 |0,l=>⟨[],by simp[grow],zS⟩
 |n+1,l=>by
  simp only[grow];obtain⟨t,h1,h2⟩:=QZ (hp:=hp) (acc:=l) (l:=l.flatMap (V9 hp));rw[h1];obtain⟨t',h3,h4⟩:=ahO (n:=n) (l:=l++t);exact⟨t++t',by rw[h3,iC],fun hn=>by rw[<-iC];exact h4 (h2 hn)⟩
theorem atz{m:Nat}{live:LN}{st:St}:∃t,Wa m live st=List.range m++t∧(List.range m++t).Nodup:=by
 unfold Wa;obtain⟨t,h1,h2⟩:=QZ (hp:=st.hp) (acc:=List.range m) (l:=live.flatMap fun s=>PM (st.sl s));rw[h1];obtain⟨t',h3,h4⟩:=ahO (hp:=st.hp) (n:=3) (l:=List.range m++t);rw[h3];exact⟨t++t',by simp only[iC],by simpa only[iC]using h4 (h2 List.nodup_range)⟩
end
section
variable {P:Program}{A:eh}{E:FuncId->Bool}{G:Nat->V}{w w':World}{I I' I2:Nat->Nat->Prop}{μ β β':Nat->Option Nat}{hp hp' hp0:Nat->Option ah}{C:ab}{B:Nat}{M:Nat->Prop}{w0:Start}
def C4(hp0:Nat->Option ah):Prop:=∀id e es vers,(hp0 id=some (.nest e es vers)∨∃i,hp0 id=some (.out e es vers i))->∀k,cq vers k=0
theorem ahP{n m:Nat}{ord kp live:LN}{a:Act}{st:St}(sL:ord.Nodup)(JB:∀id,id<m->ord[id]?=some id∨∃p,ord[id]?=some p∧st.hp p=none)(S:aK P w I β st.hp B M w0)(hT:yN P I β st.hp)(hA:jU P E G w I β n a st)(hE:qI w0.w w0.I μ hp0 w I β st.hp)(hm:∀id blk,hp0 id=some blk->id<m)(nu:C4 hp0):
  ∃β',aK P w I β' (E5 ord kp live st).hp B M w0∧jU P E G w I β' n a (E5 ord kp live st)∧qI w0.w w0.I μ hp0 w I β' (E5 ord kp live st).hp:=by
 have atA:E5 ord kp live st=mk (rq st.hp ord st.sl (ord.length+(ko st.hp ord kp ord.length ord).2.length) live).1
   ((ko st.hp ord kp ord.length ord).1++((ko st.hp ord kp ord.length ord).2++(rq st.hp ord st.sl (ord.length+(ko st.hp ord kp ord.length ord).2.length) live).2)):=by
  rfl
 rw[atA]
 let hp':=o0 ((ko st.hp ord kp ord.length ord).1++((ko st.hp ord kp ord.length ord).2++(rq st.hp ord st.sl (ord.length+(ko st.hp ord kp ord.length ord).2.length) live).2))
 let β':Nat->Option Nat:=fun j=>if j<ord.length then(ord[j]?).bind β else none
 have hlen:(ko st.hp ord kp ord.length ord).1.length=ord.length:=ahM;have qH:∀j,j<ord.length->hp' j=(ko st.hp ord kp ord.length ord).1[j]?:=by
  intro j hj;simp only[hp',mo];rw[tK zO]
 have pg:∀k,hp' (ord.length+k)=((ko st.hp ord kp ord.length ord).2++(rq st.hp ord st.sl (ord.length+(ko st.hp ord kp ord.length ord).2.length) live).2)[k]?:=by
  intro k;simp only[hp',mo];rw[tL zO,hlen,Pd]
 have hF:qK hp' β' ord.length ((ko st.hp ord kp ord.length ord).2++(rq st.hp ord st.sl (ord.length+(ko st.hp ord kp ord.length ord).2.length) live).2):=by
  intro k b hb;refine⟨(pg k).trans hb,?_⟩;simp only[β'];rw[cl]
 have Jy:sW ((ko st.hp ord kp ord.length ord).2++(rq st.hp ord st.sl (ord.length+(ko st.hp ord kp ord.length ord).2.length) live).2):=ahL.app ahJ;have vB:∀(j:Nat) id,ord[j]?=some id->β' j=β id:=by
  intro j id hj;simp only[β'];rw[ai (dw.1 hj).1,hj];rfl
 have xh:∀(j:Nat) id,ord[j]?=some id->∃n',qK hp' β' n' (iH st.hp ord kp n' id).2∧hp' j=some (iH st.hp ord kp n' id).1:=by
  intro j id hj;obtain⟨n',h1,h2⟩:=ahN (hp:=st.hp) (hp':=hp') (β':=β') (ord:=ord) (kp:=kp) (n:=ord.length) hj;exact⟨n',h1 hF.left,(qH j (dw.1 hj).1).trans h2⟩
 have hR:FF st.hp β ord hp' β':=by
  refine⟨fun j id e es fz hj ae=>?_,fun j id T cs hj ae=>?_,fun j id hj ae=>?_,fun j id e es vs i hj ae=>?_,vB,fun j id e es vers hj ae=>?_,fun j id t es hj ae=>?_⟩
  .obtain⟨n',_,h2⟩:=xh j id hj;rw[h2];simp only[iH,ae]
  .obtain⟨n',_,h2⟩:=xh j id hj;rw[h2];simp only[iH,ae];exact⟨_,rfl⟩
  .obtain⟨n',_,h2⟩:=xh j id hj;rw[h2];simp only[iH,ae]
  .obtain⟨n',_,h2⟩:=xh j id hj;rw[h2];simp only[iH,ae]
  .obtain⟨n',_,h2⟩:=xh j id hj;rw[h2];simp only[iH,ae]
  .obtain⟨n',_,h2⟩:=xh j id hj;rw[h2];simp only[iH,ae]
 have cls:∀j blk',hp' j=some blk'->(∃id,ord[j]?=some id∧((blk'=.dead)∨∃blk,st.hp id=some blk∧blk≠.dead∧∀o b,bW P w o blk' b->bW P w o blk b))∨(∃e,blk'=.arr e [] false∧β' j=none):=by
  intro j blk' hj;rcases iQ j ord.length with h|h
  .have kz:=cA h;obtain⟨n',_,h2⟩:=xh j _ kz;rw[hj]at h2;refine .inl ⟨_,kz,?_⟩;cases ae:st.hp ord[j]with
   |none=>left;simp only[iH,ae]at h2;exact ee h2
   |some blk=>
    cases blk with
    |dead=>left;simp only[iH,ae]at h2;exact ee h2
    |out _ _ _ _=>left;simp only[iH,ae]at h2;exact ee h2
    |var T0 cs=>exact .inr ⟨_,rfl,zS,fun o b h=>by simp only[iH,ae]at h2;rw[ee h2]at h;exact .root zS (h.flat zS)⟩
    |arr e es fz=>exact .inr ⟨_,rfl,zS,fun o b h=>by simp only[iH,ae]at h2;rw[ee h2]at h;exact .root zS (h.flat zS)⟩
    |map t es=>exact .inr ⟨_,rfl,zS,fun o b h=>by simp only[iH,ae]at h2;rw[ee h2]at h;exact .root zS (h.flat zS)⟩
    |nest e es vers=>
     refine .inr ⟨_,rfl,zS,fun o b h=>?_⟩;simp only[iH,ae]at h2;rw[ee h2]at h;cases h with
     |root _ h=>exact .root zS h
     |row h1 h2=>exact .row h1 h2
  .obtain⟨k,rfl⟩:∃k,j=ord.length+k:=⟨j-ord.length,zO⟩
   rw[pg]at hj;obtain⟨e,he⟩:=Jy _ (oa hj);exact .inr ⟨e,he,(hF k _ hj).2⟩
 refine⟨β',⟨⟨fun j blk' hj=>?_,fun j1 j2 b1 b2 b e1 e2 f1 f2=>?_,fun j blk b e1 f1=>?_,S.h.ln⟩,S.dH,S.size,S.new,S.io⟩,⟨fun k=>?_,hA.size,hA.defers,hA.bf⟩,⟨hE.fT,hE.dH,fun id blk ae=>?_,fun id blk blk' b ae cI hd hb=>?_⟩⟩
 .change hp' j=some blk' at hj;rcases iQ j ord.length with h|h
  .have kz:=cA h;obtain⟨n',hF',h2⟩:=xh j _ kz;rw[hj]at h2;rw[vB j _ kz];cases ae:st.hp ord[j]with
   |none=>simp only[iH,ae]at h2;rw[ee h2];exact .dead
   |some blk=>
    have hr:=S.h.rel _ _ ae;generalize β ord[j]=o at hr;cases hr with
    |dead=>simp only[iH,ae]at h2;rw[ee h2];exact .dead
    |out=>simp only[iH,ae]at h2;rw[ee h2];exact .dead
    |gk hb=>simp only[iH,ae]at h2;rw[ee h2];exact .gk hb
    |arr a0 a1 a2 a3 a4 a5 a6 a7=>simp only[iH,ae]at h2;rw[ee h2];exact .arr a0 a1 a2 a3 a4 a5 a6 a7
    |nest a1 a2 a3=>simp only[iH,ae]at h2;rw[ee h2];exact .nest a1 a2 a3
    |j8 a1=>simp only[iH,ae]at h2;rw[ee h2];exact .j8 a1
    |map a1 a2 a3 a4 a5 a6 a7=>simp only[iH,ae]at h2;rw[ee h2];exact .map a1 a2 a3 a4 a5 a6 a7
    |@var xs b Ca T hb hh hs ep hx nn=>
     simp only[iH,ae]at h2 hF';rw[ee h2];exact .var hb hh (by rw[QX];exact hs) ep (fun i v y hi hy=>QY S hT hR (vs:=Ca.toList) (fun i v x hi eo=>hx i v x (by simpa using hi) eo) hF' i v y (by simpa using hi) hy) nn
  .rcases cls j blk' hj with⟨id,ae,_⟩|⟨e,he,hb⟩
   .have:=(dw.1 ae).1;omega
   .rw[he];exact .gk hb
 .rcases cls j1 b1 e1 with⟨XO,o1,x1⟩|⟨e,_,hb⟩
  .rcases cls j2 b2 e2 with⟨ca,o2,x2⟩|⟨e,_,hb⟩
   .obtain⟨c1,y1,z1,g1⟩:=x1.resolve_left f1.alive;obtain⟨c2,y2,z2,g2⟩:=x2.resolve_left f2.alive;rw[vB _ _ o1]at f1;rw[vB _ _ o2]at f2;have:=S.h.inj XO ca c1 c2 b y1 y2 (g1 _ _ f1) (g2 _ _ f2);subst this;obtain⟨q1,q2⟩:=dw.1 o1;obtain⟨q3,q4⟩:=dw.1 o2;exact(List.getElem_inj sL).1 (q2.trans q4.symm)
   .subst ‹b2=_›;have:=f2.flat zS;rw[hb]at this;cases this
  .subst ‹b1=_›;have:=f1.flat zS;rw[hb]at this;cases this
 .rcases cls j blk e1 with⟨XO,o1,x1⟩|⟨e,_,hb⟩
  .obtain⟨c1,y1,z1,g1⟩:=x1.resolve_left f1.alive;rw[vB _ _ o1]at f1;exact S.h.own XO c1 b y1 (g1 _ _ f1)
  .subst ‹blk=_›;have:=f1.flat zS;rw[hb]at this;cases this
 .change ak P w I β' hp' (a.tmps.getD k undef) (og _ k);unfold og;cases Xs:gM (rq st.hp ord st.sl (ord.length+(ko st.hp ord kp ord.length ord).2.length) live).1 k with
  |none=>exact .undef
  |some y=>
   obtain⟨n',h1,h2⟩:=ahK hF.right Xs;simp only[Option.getD_some,h2];exact atx S hT hR (hA.sl k) h1
 .obtain⟨xb,k1,k2,k3⟩:=hE.blk id blk ae;rcases JB id (hm id blk ae)with ho|⟨p,ho,cC⟩
  .cases xb with
   |dead=>exact⟨.dead,hR.dead id id ho k1,k2,fun h=>absurd rfl h⟩
   |out e es vs i=>exact⟨.dead,hR.out id id _ _ _ _ ho k1,by cases blk<;>trivial,fun h=>absurd rfl h⟩
   |var T0 cs=>
    obtain⟨mM,h'⟩:=hR.var id id T0 cs ho k1;refine⟨_,h',?_,fun _=>(vB id id ho).trans (k3 zS)⟩;cases blk<;>simp_all [ah.le]
   |arr e es fz=>exact⟨_,hR.arr id id e es fz ho k1,k2,fun _=>(vB id id ho).trans (k3 zS)⟩
   |map t es=>exact⟨_,hR.map id id t es ho k1,k2,fun _=>(vB id id ho).trans (k3 zS)⟩
   |nest e es vers=>
    refine⟨_,hR.nest id id e es vers ho k1,?_,fun _=>(vB id id ho).trans (k3 zS)⟩;rcases ah.afs k2 with⟨Xx,atB,rfl,l1,l2,_⟩|⟨Xx,atB,i0,rfl,l1,l2,_⟩
    .exact⟨rfl,l1,by simpa using l2,fun k=>by rw[nu id _ _ _ (.inl ae) k];exact od _⟩
    .exact⟨rfl,l1,by simpa using l2,fun k=>by rw[nu id _ _ _ (.inr ⟨_,ae⟩) k];exact od _⟩
  .obtain⟨n',_,h2⟩:=xh id p ho;simp only[iH,cC]at h2;exact⟨.dead,h2,by cases blk<;>trivial,fun h=>absurd rfl h⟩
 .obtain⟨xb,k1,k2,k3⟩:=hE.blk id blk ae;rcases JB id (hm id blk ae)with ho|⟨p,ho,cC⟩
  .refine hE.size id blk xb b ae k1 (fun y6=>?_) hb;subst y6;have:=hR.dead id id ho k1;change hp' id=some blk' at cI;rw[this]at cI;exact hd (ee cI).symm
  .obtain⟨n',_,h2⟩:=xh id p ho;simp only[iH,cC]at h2;change hp' id=some blk' at cI;rw[h2]at cI;exact absurd (ee cI).symm hd
theorem atC{n m:Nat}{live:LN}{a:Act}{st:St}(S:aK P w I β st.hp B M w0)(hT:yN P I β st.hp)(hA:jU P E G w I β n a st)(hE:qI w0.w w0.I μ hp0 w I β st.hp)(hm:∀id blk,hp0 id=some blk->id<m)(nu:C4 hp0):
  ∃β',aK P w I β' (canon m live st).hp B M w0∧jU P E G w I β' n a (canon m live st)∧qI w0.w w0.I μ hp0 w I β' (canon m live st).hp:=by
 obtain⟨t,JB,sL⟩:=atz (m:=m) (live:=live) (st:=st);refine ahP (by rw[JB];exact sL) (fun id bt=>.inl ?_) S hT hA hE hm nu;rw[JB,tK (by simpa using bt)];simp[bt]
theorem ahQ:∀{l:LN},va l=true->l.Nodup
 |[],_=>.nil
 |a::l,h=>by
  simp only[va,aZ,ng]at h;rw[List.nodup_cons];exact⟨fun hm=>Bool.noConfusion ((Fg hm).symm.trans h.1),ahQ h.2⟩
theorem atD{m:Nat}{mv:LN}{id:Nat}(h:id<m):(sH m mv)[id]?=some id∨(sH m mv)[id]?=some (m+id):=by
 unfold sH;rw[tK (by simpa using h),j5];simp only[H6 h,Option.map_some];cases kL mv id with
 |true=>exact .inr rfl
 |false=>exact .inl rfl
end
section
variable {P:Program}{A:eh}{w w':World}{I I' I2:Nat->Nat->Prop}{μ β β':Nat->Option Nat}{hp hp' hp0:Nat->Option ah}{C:ab}{B:Nat}{M:Nat->Prop}{w0:Start}
theorem Q0(p:Nat->Prop)(h:∃n,p n):∃n,p n∧∀m,p m->n<=m:=by
 obtain⟨n,hn⟩:=h
 induction n using Nat.strongRecOn with
 |_ n ih=>
  by_cases hx:∃m,m<n∧p m
  .obtain⟨m,hm,hp⟩:=hx;exact ih m hm hp
  .exact⟨n,hn,fun m hm=>H7 fun bt=>hx ⟨m,bt,hm⟩⟩
open Classical in
theorem atE{c:Code}{Q:Exit→Act→World→Prop}(J:Nat→Act→World→Prop)(h0:∀a w,¬J 0 a w)(round:∀n a w,J (n+1) a w→c.wp P (Exit.then (J n) Q) a w){n:Nat}{a:Act}{w:World}(h:J n a w):
  (Code.loop c).wp P Q a w:=by
 refine wp_loop (fun a w=> ∃n,J n a w) (fun a w=>if h:∃n,J n a w then(Q0 _ h).choose else 0) ⟨n,h⟩ fun a w hJ=> ?_;obtain⟨h1,h2⟩:=(Q0 _ hJ).choose_spec;generalize hk:(Q0 _ hJ).choose=k at h1 h2;cases k with
 |zero=>exact absurd h1 (h0 a w)
 |succ k=>
  refine wp_mono (round k a w h1) fun e a' w' he=> ?_;cases e with
  |normal=>
   have hex:∃n,J n a' w':=⟨k,he⟩
   refine⟨hex,?_⟩;have h3:=(Q0 _ hex).choose_spec.2 k he;rw[Ab hex,Ab hJ,hk];omega
  |_=>exact he
def FG:Out->Exit
 |.norm=>.normal
 |.exit id=>.exit id
 |.ret=>.ret
def Inv(P:Program)(E:FuncId->Bool)(G:Nat->V)(B:Nat)(M:Nat->Prop)(w0:Start)(μ:Nat->Option Nat)(hp0:Nat->Option ah)(n:Nat)(a:Act)(w:World)(st:St):Prop:=
 ∃I β,aK P w I β st.hp B M w0∧jU P E G w I β n a st∧qI w0.w w0.I μ hp0 w I β st.hp
theorem Inv.canon{E:FuncId->Bool}{G:Nat->V}{n m:Nat}{a:Act}{st:St}{live:LN}(h:Inv P E G B M w0 μ hp0 n a w st)(hm:∀id blk,hp0 id=some blk->id<m)(nu:C4 hp0):Inv P E G B M w0 μ hp0 n a w (canon m live st):=by
 obtain⟨I0,β,S,hA,hE⟩:=h;obtain⟨I,h1,S,hA,hT⟩:=ahB S hA;obtain⟨β',a,b,c⟩:=atC (live:=live) S hT hA (hE.trans h1.Fx) hm nu;exact⟨I,β',a,b,c⟩
theorem Q1:∀{l:List BS}{ds:LV},(jl l ds).length=l.length
 |[],_=>rfl
 |b::l,ds=>by simp only[jl,List.length_cons,Q1]
theorem Inv.enter{A:eh}{E:FuncId->Bool}{G:Nat->V}{n f:Nat}{ds:LV}{a:Act}(pW:va (sH (A.sin f).dN.length (A.mv f))=true)(h:Inv P E G B M w0 μ hp0 n a w (cD (A.sin f) ds))(hm:∀id blk,hp0 id=some blk->id<(A.sin f).dN.length)
  (nu:C4 hp0) (ahR:∀p,(A.sin f).dN.length<=p->(cD (A.sin f) ds).hp p=none):Inv P E G B M w0 μ hp0 n a w (Iw A f ds):=by
 unfold Iw;split
 .exact h
 .obtain⟨I0,β,S,hA,hE⟩:=h;obtain⟨I,h1,S,hA,hT⟩:=ahB S hA;obtain⟨β',x,y,z⟩:=ahP (kp:=[]) (m:=(A.sin f).dN.length) (ord:=sH (A.sin f).dN.length (A.mv f)) (live:=(A.sin f).cW.map (·.1)) (ahQ pW) (fun id ae=>(atD ae).imp (fun h=>h) fun h=>⟨_,h,ahR _ zO⟩) S hT hA (hE.trans h1.Fx) hm nu;exact⟨I,β',x,y,z⟩
theorem Inv.reshape{E:FuncId->Bool}{G:Nat->V}{n m:Nat}{a:Act}{st:St}{S:Shape}{ds:LV}(h:Inv P E G B M w0 μ hp0 n a w st)(hs:nj m S st=some ds)(hm:∀id blk,hp0 id=some blk->id<m):Inv P E G B M w0 μ hp0 n a w (cD S ds):=by
 obtain⟨I,β,S1,hA,hE⟩:=h;obtain⟨r1,r2,_,r4⟩:=AM.reshape hs S1;refine⟨I,β,r1,⟨fun k=>r2 k _ (hA.sl k),hA.size,hA.defers,hA.bf⟩,⟨hE.fT,hE.dH,fun id blk ae=>?_,fun id blk blk' b ae cI hd hb=>?_⟩⟩
 .obtain⟨xb,k1,k2,k3⟩:=hE.blk id blk ae;obtain⟨_,hle,_⟩:=agM hs;have hl:=hm id blk ae;obtain⟨dq,h2⟩:∃dq,(cD S ds).hp id=some dq:=by
   simp only[cD,mk,mo];exact⟨_,cA (by rw[Q1];omega)⟩
  by_cases hd:dq=.dead
  .subst hd;exact⟨_,h2,by cases blk<;>trivial,fun h=>absurd rfl h⟩
  .obtain⟨ml,e1,e2,_⟩:=r4 id dq h2 hd;rw[k1]at e1;cases e1;exact⟨_,h2,ah.le_trans k2 e2,fun _=>k3 (fun e=>hd (ah.wB (e▸e2)))⟩
 .obtain⟨ml,e1,e2,_⟩:=r4 id blk' cI hd;exact hE.size id blk ml b ae e1 (fun e=>hd (ah.wB (e▸e2))) hb
theorem qJ.here(h:qJ P A C)(f:Nat)(id:Nat):qJ P (A.here f id) C:=by
 intro key ds es hh;obtain⟨fn,c,h1,h2,h3⟩:=h key ds es hh;refine⟨fn,c,h1,h2,fun w I μ vals a g b d=>(h3 w I μ vals a g b d).mono fun e w' hx=>?_⟩;obtain⟨v,I2,dC,q1,q2⟩:=hx;exact⟨v,I2,dC,q1,⟨q2.Fy,q2.le,q2.res⟩⟩
theorem atF{a b:Out}(h:PO a b=true):a=b:=by
 cases a<;>cases b<;>simp[PO]at h<;>first|rfl|(subst h;rfl)
theorem ahS{m:Nat}{r:Out×St}:∀{l:List (Out×Shape)}{j:Nat}{e:Nat×LV},ways m j l r=some e->j<=e.1
 |[],j,e,h=>by cases h
 |(o,S)::l,j,e,h=>by
  simp only[ways]at h;split at h
  .cases h;exact aC _
  .have:=ahS h;omega
theorem XP{m:Nat}{o:Out}{s:St}{out:Out}{st':St}:∀{l:List (Out×Shape)}{k:Nat}{e:Nat×LV},ways m k l (o,s)=some e->pQ k l e.1 e.2 (fun o st=>some (o,st))=some (out,st')->
  out=o∧∃S,nj m S s=some e.2∧st'=cD S e.2
 |[],k,e,h,_=>by cases h
 |(o',S)::l,k,e,h,h2=>by
  simp only[ways]at h;split at h
  .rename_i ds hx;cases h;cases ho:PO o' o with
   |false=>rw[ho]at hx;cases hx
   |true=>
    rw[ho]at hx;have:=atF ho;subst this;cases l with
    |nil=>
     simp only[pQ,gi,oW]at h2;exact⟨h2.1.symm,S,hx,h2.2.symm⟩
    |cons p l=>
     simp only[pQ,oT,cond_true,gi,oW]at h2;exact⟨h2.1.symm,S,hx,h2.2.symm⟩
  .have ub:=ahS h;cases l with
   |nil=>cases h
   |cons p l=>
    have cw:Nat.beq e.1 k=false:=by
     cases hb:Nat.beq e.1 k with
     |false=>rfl
     |true=>rw[bK]at hb;omega
    simp only[pQ,cw,cond_false]at h2;exact XP h h2
theorem atG(hC:qJ P A C)(hP:oB P A)(uc:P.follows .mixedOrders=true){f n m:Nat}(hm:∀id blk,hp0 id=some blk->id<m)(nu:C4 hp0):
  ∀(c:Code){st st':St}{out:Out}{Q:Exit->Act->World->Prop}{a:Act}{w:World},exec P A C f n m c st=some (out,st')->Inv P A.idle A.bf B M w0 μ hp0 n a w st->
   (∀a' w',Inv P A.idle A.bf B M w0 μ hp0 n a' w' st'->Q (FG out) a' w')->c.wp P Q a w:=by
 intro c
 induction c with
 |skip=>
  intro st st' out Q a w h hI hQ;simp only[exec,gi,oW]at h;obtain⟨rfl,rfl⟩:=h;exact wp_skip (hQ a w hI)
 |exit id=>
  intro st st' out Q a w h hI hQ;simp only[exec,gi,oW]at h;obtain⟨rfl,rfl⟩:=h;exact wp_exit (hQ a w hI)
 |ret=>
  intro st st' out Q a w h hI hQ;simp only[exec,gi,oW]at h;obtain⟨rfl,rfl⟩:=h;exact wp_ret (hQ a w hI)
 |region id ops draw=>
  intro st st' out Q a w h hI hQ;simp only[exec]at h;obtain⟨nt,h1,h2⟩:=bind_some h;simp only[gi,oW]at h2;obtain⟨rfl,rfl⟩:=h2;obtain⟨I,β,S,hA,hE⟩:=hI;refine att (hC.here f id) (hP.here f id) uc h1 S hA fun a' w' I' β' k1 k2 k3=>?_;obtain⟨I2,dC,l1,l2,l3⟩:=ahD (m:=m) (pur:=A.pur f id) k2 k3;have hE2:=(hE.trans k1.Fx).trans l1.Fx;exact hQ a' w' (Inv.canon ⟨I2,dC,l2,l3,hE2⟩ hm nu)
 |seq x y kP kQ=>
  intro st st' out Q a w h hI hQ;simp only[exec]at h;obtain⟨⟨o1,nt⟩,h1,h2⟩:=bind_some h;refine wp_seq (kP h1 hI fun a' w' nv=>?_);cases o1 with
  |norm=>exact kQ h2 nv hQ
  |exit id=>
   simp only[gi,oW]at h2;obtain⟨rfl,rfl⟩:=h2;exact hQ a' w' nv
  |ret=>
   simp only[gi,oW]at h2;obtain⟨rfl,rfl⟩:=h2;exact hQ a' w' nv
 |cond c x y kP kQ=>
  intro st st' out Q a w h hI hQ;cases c with
  |tmp t=>
   have go:∀{st st':St}{out:Out}{Q:Exit->Act->World->Prop}{a:Act}{w:World},(match st.sl t with
     |.bool b=>(bif b then exec P A C f n m x st else exec P A C f n m y st).bind fun r=>
      match r.1 with
      |.norm=>some (.norm,AM.canon m (A.join f t) r.2)
      |_=>some r
     |_=>none)=some (out,st')->Inv P A.idle A.bf B M w0 μ hp0 n a w st->(∀a' w',Inv P A.idle A.bf B M w0 μ hp0 n a' w' st'->Q (FG out) a' w')->(Code.cond (.tmp t) x y).wp P Q a w:=by
    intro st st' out Q a w h hI hQ;cases hs:st.sl t<;>rw[hs]at h<;>simp only at h<;>first|(cases h;done)|skip
    rename_i b;obtain⟨⟨o1,nt⟩,h1,h2⟩:=bind_some h;obtain⟨I,β,S,hA,hE⟩:=hI;have kX:a.eval (.tmp t)=.bool b:=by
     have:=ahe hA hs;simp[Act.eval,this]
    have fin:∀a' w',Inv P A.idle A.bf B M w0 μ hp0 n a' w' nt->Q (FG o1) a' w':=by
     intro a' w' nv;cases o1 with
     |norm=>
      simp only[gi,oW]at h2;obtain⟨rfl,rfl⟩:=h2;exact hQ a' w' (nv.canon hm nu)
     |exit id=>
      simp only[gi,oW]at h2;obtain⟨rfl,rfl⟩:=h2;exact hQ a' w' nv
     |ret=>
      simp only[gi,oW]at h2;obtain⟨rfl,rfl⟩:=h2;exact hQ a' w' nv
    refine wp_cond kX ?_;cases b with
    |true=>exact kP h1 ⟨I,β,S,hA,hE⟩ fin
    |false=>exact kQ h1 ⟨I,β,S,hA,hE⟩ fin
   simp only[exec]at h;split at h
   .exact go h hI hQ
   .obtain⟨ds,h1,h2⟩:=bind_some h;obtain⟨e,h3,h4⟩:=bind_some h2;obtain⟨⟨o1,s1⟩,h5,h6⟩:=bind_some h3;obtain⟨rfl,S',k1,rfl⟩:=XP h6 h4;exact go h5 (hI.reshape h1 hm) fun a' w' nv=>hQ a' w' (nv.reshape k1 hm)
  |const v=>
   cases v with
   |bool b=>
    simp only[exec]at h;refine wp_cond (t:=b) rfl ?_;cases b with
    |true=>exact kP h hI hQ
    |false=>exact kQ h hI hQ
   |_=>simp only[exec]at h;cases h
  |_=>simp only[exec]at h;cases h
 |block id c ih=>
  intro st st' out Q a w h hI hQ;simp only[exec]at h;obtain⟨⟨o1,nt⟩,h1,h2⟩:=bind_some h;refine wp_block (ih h1 hI fun a' w' nv=>?_);cases o1 with
  |norm=>
   simp only[gi,oW]at h2;obtain⟨rfl,rfl⟩:=h2;exact hQ a' w' (nv.canon hm nu)
  |exit ax=>
   simp only at h2;cases hb:Nat.beq ax id with
   |true=>
    rw[hb]at h2;simp only[cond_true,gi,oW]at h2;obtain⟨rfl,rfl⟩:=h2;rw[bK]at hb;simp only[FG,Exit.inBlock,hb,jZ];exact hQ a' w' (nv.canon hm nu)
   |false=>
    rw[hb]at h2;simp only[cond_false,gi,oW]at h2;obtain⟨rfl,rfl⟩:=h2;have cw:ax≠id:=fun e=>by rw[e,oT]at hb;cases hb
    simp only[FG,Exit.inBlock,cw,mE];exact hQ a' w' nv
  |ret=>
   simp only[gi,oW]at h2;obtain⟨rfl,rfl⟩:=h2;exact hQ a' w' nv
 |loop c ih=>
  intro st st' out Q a w h hI hQ;simp only[exec]at h;split at h
  .cases h
  .rename_i S hS;obtain⟨ds,h1,h2⟩:=bind_some h;obtain⟨e,h3,h4⟩:=bind_some h2;obtain⟨k,hk⟩:=EW h3;refine atE (J:=fun k a w=>∃ds,Inv P A.idle A.bf B M w0 μ hp0 n a w (cD S.1 ds)∧jk (fun ds=>rr m S.1 S.2 (exec P A C f n m c (cD S.1 ds))) k ds=some e) (fun a w ⟨s,_,h⟩=>by cases h) (fun k a w ⟨ds,hs,hk⟩=>?_) ⟨ds,hI.reshape h1 hm,hk⟩;simp only[jk]at hk;obtain⟨y,h5,h6⟩:=bind_some hk;unfold rr at h5;obtain⟨⟨o1,s1⟩,h7,h8⟩:=bind_some h5;refine ih h7 hs fun a' w' nv=>?_;have ahT:∀{e':Nat×LV},ways m 0 S.2 (o1,s1)=some e'->e'=e->Q (FG o1) a' w':=by
    intro e' q1 q2;subst q2;obtain⟨rfl,S',k1,rfl⟩:=XP q1 h4;exact hQ a' w' (nv.reshape k1 hm)
   cases o1 with
   |norm=>
    obtain⟨ds2,q1,q2⟩:=bind_some h8;cases q2;exact⟨ds2,nv.reshape q1 hm,h6⟩
   |exit id=>
    obtain⟨e',q1,q2⟩:=bind_some h8;cases q2;cases h6;exact ahT q1 rfl
   |ret=>
    obtain⟨e',q1,q2⟩:=bind_some h8;cases q2;cases h6;exact ahT q1 rfl
 |_=>intro st st' out Q a w h;simp only[exec]at h;cases h
end
section
variable {P:Program}{A:eh}{w w':World}{I I' I2:Nat->Nat->Prop}{μ β β' dC:Nat->Option Nat}{hp hp' hp0:Nat->Option ah}{C:ab}{B:Nat}{M:Nat->Prop}{w0:Start}
theorem Q2(S:aK P w I β hp B M w0){a:Act}{st:St}(hs:qw P w I β hp a st.sl):∀{l:List ResultVar}{xs:LV}{rd:LN},(Cj P st l).run C hp=some (xs,rd)->
  ∃vs:List Value,(l.mapM fun|.tmp t=>Pure.pure (a.tmps.getD t undef)|.cell x t=>do loadVar t (<-asAddr (a.tmps.getD x undef)):Sem (List Value)).run P w=.ok vs w∧vs.length=xs.length∧l.length=xs.length∧
   ∀(j:Nat) v x,vs[j]?=some v->xs[j]?=some x->ak P w I β hp v x
 |[],xs,rd,h=>by
  cases h;simp_all
 |.tmp t::l,xs,rd,h=>by
  simp only[Cj]at h;obtain⟨ys,l1,l2,h1,h2⟩:=qx h;have h3:=Wh h2;subst h3;obtain⟨vs,a1,a2,a3,a4⟩:=Q2 S hs h1;refine⟨a.tmps.getD t undef::vs,by simp_all,by simp[a2],by simp[a3],fun j v x hj hx=>?_⟩;cases j with
  |zero=>simp at hj hx;subst hj;subst hx;have:=hs t;simp_all
  |succ j=>grind
 |.cell y t::l,xs,rd,h=>by
  simp only[Cj]at h;obtain⟨r,l1,l2,h1,h2⟩:=qx h;obtain⟨ys,l3,l4,h3,h4⟩:=qx h2;have h5:=Wh h4;subst h5;obtain⟨v0,b1,b2,b3,ad,b4⟩:=afJ S (hs y) h1;obtain⟨vs,a1,a2,a3,a4⟩:=Q2 S hs h3;refine⟨v0::vs,?_,by simp[a2],by simp[a3],fun j v x hj hx=>?_⟩
  .have e1:(do loadVar t (<-asAddr (a.tmps.getD y undef)):Sem Value).run P w=.ok v0 w:=by
    rw[b4]at b1⊢;simpa[Instr.loadAt,Instr.sureAddr,asAddr]using b1
   simp only[List.mapM_cons,Sem.run_bind,e1,Result.andThen_ok,a1,Sem.run_pure]
  grind
def C6:List Value->Value
 |[v]=>v
 |l=>.tuple l.toArray
theorem atH{vs:List Value}(h:vs.length≠1):C6 vs=.tuple vs.toArray:=by
 match vs,h with
 |[],_=>rfl
 |[v],h=>simp at h
 |v::v2::l,_=>rfl
theorem atI{fn:Func}{a:Act}{st:St}(S:aK P w I β st.hp B M w0)(hs:qw P w I β st.hp a st.sl){xs:LV}{rd:LN}(h:(Cj P st fn.results.toList).run C st.hp=some (xs,rd)):
  ∃vs:List Value,(results fn a.tmps).run P w=.ok (C6 vs) w∧vs.length=xs.length∧
   ∀(j:Nat) v x,vs[j]?=some v->xs[j]?=some x->ak P w I β st.hp v x:=by
 obtain⟨vs,a1,a2,_,a4⟩:=Q2 S hs h;refine⟨vs,?_,a2,a4⟩;unfold results;rw[Array.mapM_eq_mapM_toList];simp only[map_eq_pure_bind,bind_assoc,pure_bind,Sem.run_bind];refine(congrArg (fun r:Result (List Value)=>r.andThen _) a1).trans ?_;simp only[Result.andThen_ok,Sem.run_pure]
 match vs with
 |[]=>simp[C6]
 |[v]=>simp[C6]
 |v::v2::l=>simp[C6]
theorem ahU:∀{args:LV}{i k:Nat},gM (tS i args) k=if i<=k then args[k-i]?else none
 |[],i,k=>by simp[tS,gM]
 |v::vs,i,k=>by
  simp only[tS,gM];cases hb:Nat.beq k i with
  |true=>
   simp_all
  |false=>
   have cw:k≠i:=fun e=>by simp_all
   simp only[cond_false,ahU];grind
theorem XQ:∀{l:List (Nat×VS)}{ds:LV}{i k:Nat},mI i l=true->gM (j7 l ds) k=if i<=k then(kN (l.map (·.2)) ds)[k-i]?else none
 |[],ds,i,k,_=>by simp[j7,kN,gM]
 |(q,s)::l,ds,i,k,h=>by
  simp only[mI,aZ,bK]at h;obtain⟨rfl,h⟩:=h;simp only[j7,gM,iB,kN];cases hb:Nat.beq k q with
  |true=>
   simp_all
  |false=>
   have cw:k≠q:=fun e=>by simp_all
   simp only[cond_false];rw[XQ h];grind
theorem ahV:∀{l:List (Nat×VS)}{ds:LV},(j7 l ds).map (·.2)=kN (l.map (·.2)) ds
 |[],_=>rfl
 |(q,s)::l,ds=>by simp only[j7,iB,kN,ahV]
theorem XR:∀{l:List VS}{ds:LV},(kN l ds).length=l.length
 |[],_=>rfl
 |s::l,ds=>by simp only[kN,List.length_cons,XR]
theorem ahW:∀{l:List (Nat×VS)}{ds:LV},(j7 l ds).length=l.length
 |[],_=>rfl
 |(q,s)::l,ds=>by simp only[j7,List.length_cons,ahW]
theorem atJ{vals:List Value}{l:List (Nat×V)}(hl:vals.length=l.length)(h:∀(j:Nat) v y,vals[j]?=some v->(l.map (·.2))[j]?=some y->ak P w I β hp v y):ak P w I β hp (C6 vals) (wz l):=by
 match l,hl,h with
 |[],hl,h=>
  obtain rfl:vals=[]:=sA hl;exact .ct rfl fun j v x _ hx=>by simp at hx
 |[(k,y)],hl,h=>
  match vals,hl,h with
  |[v],_,h=>exact h 0 v y rfl rfl
 |a::b::l,hl,h=>
  have cw:vals.length≠1:=zG;rw[atH cw];simp only[wz];exact .ct (by simp[hl]) fun j v y hj hy=>h j v y zG hy
theorem atK{l:List BS}{ds:LV}{j:Nat}{e:TypeId}{es:LV}{vers:LN}(h:(jl l ds)[j]?=some (.nest e es vers))(k:Nat):cq vers k=0:=by
 obtain⟨b,lT,_,h2⟩:=QJ h;cases b<;>simp only[jR]at h2<;>cases h2
 match k with
 |0=>rfl
 |1=>rfl
 |2=>rfl
 |_+3=>rfl
theorem atL{f n m:Nat}{fn:Func}{a:Act}{st:St}{es:LV}{rd:LN}(hm:∀id blk,hp0 id=some blk->id<m)(nu:C4 hp0)
  (hI:Inv P A.idle A.bf B M w0 μ hp0 n a w st) (xd:mI 0 (A.j6 f).cW=true) (bR:(A.j6 f).cW.length=fn.results.size) (h:(Ck P A f fn m st).run C st.hp=some (es,rd)):
  ∃v I2 dC,(results fn a.tmps).run P w=.ok v w∧aK P w I2 dC (cD (A.so f es) (A.lv f es)).hp B M w0∧qI w0.w w0.I μ hp0 w I2 dC (cD (A.so f es) (A.lv f es)).hp∧ak P w I2 dC (cD (A.so f es) (A.lv f es)).hp v (wz (j7 (A.so f es).cW (A.lv f es))):=by
 unfold Ck at h;obtain⟨xs,l1,l2,h1,h2⟩:=qx h;obtain⟨I,β,S,hA,hE⟩:=hI;obtain⟨vals,e1,e2,e3⟩:=atI S hA.sl h1;have e4:fn.results.size=xs.length:=by
  obtain⟨_,_,_,q,_⟩:=Q2 S hA.sl h1;omega
 have fin:∀(Sx:Shape) (es:LV),mI 0 Sx.cW=true->Sx.cW.length=fn.results.size->nj m Sx (canon m (List.range xs.length++A.live f 9999) (freeze m (A.Cc f) ⟨og (tS 0 xs),st.hp,st.nb⟩))=some es->
   ∃v I2 dC,(results fn a.tmps).run P w=.ok v w∧aK P w I2 dC (cD Sx es).hp B M w0∧qI w0.w w0.I μ hp0 w I2 dC (cD Sx es).hp∧ak P w I2 dC (cD Sx es).hp v (wz (j7 Sx.cW es)):=by
  intro Sx es xd bR FH;have hA0:jU P A.idle A.bf w I β vals.length ⟨vals.toArray,[]⟩ ⟨og (tS 0 xs),st.hp,st.nb⟩:=by
   refine⟨fun k=>?_,zS,zS,hA.bf⟩;change ak P w I β st.hp _ (og (tS 0 xs) k);unfold og;rw[ahU];simp only[od,jZ,Nat.sub_zero];cases hk:xs[k]?with
   |none=>exact .undef
   |some x=>
    have sT:k<vals.length:=zG;have:=e3 k vals[k] x (cA sT) hk;have e5:(vals.toArray).getD k undef=vals[k]:=by simp[sT]
    grind
  obtain⟨I2,dC,k1,k2,k3⟩:=ahD (st:=⟨og (tS 0 xs),st.hp,st.nb⟩) (m:=m) (pur:=A.Cc f) S hA0;have hI2:Inv P A.idle A.bf B M w0 μ hp0 vals.length ⟨vals.toArray,[]⟩ w (freeze m (A.Cc f) ⟨og (tS 0 xs),st.hp,st.nb⟩):=⟨I2,dC,k2,k3,hE.trans k1.Fx⟩
  obtain⟨I3,β3,q1,q2,q3⟩:=(hI2.canon (live:=List.range xs.length++A.live f 9999) hm nu).reshape FH hm;refine⟨C6 vals,I3,β3,e1,q1,q3,atJ (by rw[ahW,bR,e4,e2]) fun j v y hj hy=>?_⟩;have hv:=q2.sl j;have eX:=(dw.1 hj).1;have e5:(vals.toArray).getD j undef=v:=by
   simp_all
  change ak P w I3 β3 _ ((vals.toArray).getD j undef) (og (j7 Sx.cW _) j)at hv;rw[e5]at hv;unfold og at hv;rw[XQ xd]at hv;simp only[od,jZ,Nat.sub_zero]at hv;rw[ahV]at hy;grind
 unfold eh.so eh.lv;cases fx:A.alt f with
 |none=>
  rw[fx]at h2;simp only at h2⊢;split at h2
  .rename_i lT FH;have:=bG h2;grind
  .cases h2
 |some S2=>
  rw[fx]at h2;simp only at h2⊢;split at h2
  .rename_i lT FH;have:=bG h2;subst this;exact fin _ _ xd bR FH
  .split at h2
   .rename_i lT FH;obtain⟨hc,h3⟩:=aX h2;simp only[aZ,bK]at hc;have:=bG h3;subst this;exact fin _ _ hc.1 hc.2 FH
   .cases h2
theorem atM(hC:qJ P A C)(hP:oB P A)(uc:P.follows .mixedOrders=true):qJ P A (vc P A C):=by
 intro f ds es h;unfold vc at h;cases hf:P.funcs[A.ll f]?with
 |none=>grind
 |some fn=>
  rw[hf]at h;simp only at h;cases hb:fn.body with
  |none=>grind
  |some c=>
   rw[hb]at h;simp only at h;cases hc:(mI 0 (A.sin f).cW&&(Nat.ble (A.sin f).cW.length fn.ntmps&&((A.sin f).ok&&(mI 0 (A.j6 f).cW&&(Nat.beq (A.j6 f).cW.length fn.results.size&&va (sH (A.sin f).dN.length (A.mv f)))))))with
   |false=>grind
   |true=>
    rw[hc]at h;simp only[cond_true]at h;simp only[aZ,bK,gg]at hc;obtain⟨ky,hnt,_,wZ,bR,pW⟩:=hc;obtain⟨⟨out,st'⟩,h1,h2⟩:=bind_some h;refine⟨fn,c,rfl,hb,fun w I μ vals hH hgl hl hv=>?_⟩;have atN:(∀id,out≠.exit id)∧∃rd,(Ck P A f fn (A.sin f).dN.length st').run C st'.hp=some (es,rd):=by
     cases out with
     |exit id=>cases h2
     |norm=>
      simp_all
     |ret=>
      simp_all
    obtain⟨cw,rd,Xn⟩:=atN;refine calls_of_wp_defers hf hb ?_;have hm:∀id blk,(cD (A.sin f) ds).hp id=some blk->id<(A.sin f).dN.length:=by
     intro id blk ae;simp only[cD,mk,mo]at ae;have:=(dw.1 ae).1;rwa [Q1]at this
    have nu:C4 (cD (A.sin f) ds).hp:=by
     intro id e es vers ae k;simp only[cD,mk,mo]at ae;rcases ae with ae|⟨i,ae⟩
     .exact atK ae k
     .obtain⟨b,_,_,h⟩:=QJ ae;cases b<;>cases h
    refine atG (w0:=⟨w,I⟩) (μ:=μ) (hp0:=(cD (A.sin f) ds).hp) (B:=w.heap.size) (M:=vA P w μ (cD (A.sin f) ds).hp) hC hP uc hm nu c h1 ?_ ?_
    .refine Inv.enter pW ?_ hm nu fun p hp=>by
      simp only[cD,mk,mo];rw[List.getElem?_eq_none_iff,Q1];exact hp
     refine⟨I,μ,⟨hH,fun _ _ _=>rfl,aC _,fun b j h=>.inl h,⟨rfl,rfl⟩⟩,⟨fun k=>?_,?_,zS,hgl⟩,(Le.refl (P:=P) w I μ _).Fx⟩
     .change ak P w I μ _ _ (og (j7 (A.sin f).cW ds) k);unfold og;rw[XQ ky];simp only[od,jZ,Nat.sub_zero];cases hk:(kN ((A.sin f).cW.map (·.2)) ds)[k]?with
      |none=>exact .undef
      |some x=>
       have sT:k<vals.length:=by
        have:=(dw.1 hk).1;rw[XR,cu]at this;omega
       have:=hv k vals[k] x (cA sT) hk;have e1:(vals.toArray++Array.replicate (fn.ntmps-vals.toArray.size) undef).getD k undef=vals[k]:=by
        simp[Array.getElem?_append,sT]
       grind
     grind
    .intro a' w' hI;obtain⟨v,I2,dC,q1,q2,q3,q4⟩:=atL hm nu hI wZ bR Xn;obtain⟨_,_,_,hA,_⟩:=hI;cases out with
     |exit id=>grind
     |norm=>exact XD hP q1 ⟨v,I2,dC,rfl,q2,q3,q4⟩ _ hA.defers
     |ret=>exact XD hP q1 ⟨v,I2,dC,rfl,q2,q3,q4⟩ _ hA.defers
theorem ahX(hP:oB P A)(uc:P.follows .mixedOrders=true):∀n,qJ P A (pR P A n)
 |0=>fun _ _ _ h=>by cases h
 |n+1=>atM (ahX hP uc n) hP uc
theorem atO(hP:oB P A)(uc:P.follows .mixedOrders=true):qJ P A (Call P A):=by
 intro f ds es h;have hn:∃n,pR P A n f ds=some es:=by
  unfold Call at h;split at h
  all_goals grind
 obtain⟨n,hn⟩:=hn;exact ahX hP uc n f ds es hn
end
section
variable {P:Program}{A:eh}{C:ab}{D:Nat->ab}
def JC(C:ab)(D:Nat->ab):Prop:=∀f a r,C f a=some r->∃n,∀k,n<=k->D k f a=some r
theorem xi{α:Type}(h:JC C D){hp:Nat->Option ah}:∀{p:Rd α}{r:α×LN},p.run C hp=some r->∃n,∀k,n<=k->p.run (D k) hp=some r
 |.ret a,r,e=>⟨0,fun _ _=>e⟩
 |.fail,r,e=>by cases e
 |.get id q,r,e=>by
  obtain⟨x,h1,h2⟩:=bind_some e;obtain⟨n,hn⟩:=xi h h1;exact⟨n,fun k hk=>by simp only[Rd.run,hn k hk,Option.bind_some];exact h2⟩
 |.opt o q,r,e=>by
  obtain⟨x,h1,h2⟩:=bind_some e;obtain⟨n,hn⟩:=xi h h2;exact⟨n,fun k hk=>by simp only[Rd.run,h1,Option.bind_some];exact hn k hk⟩
 |.live id ok q,r,e=>by
  simp only[Rd.run]at e;cases hk:ok (lk (hp id))with
  |false=>rw[hk]at e;cases e
  |true=>
   rw[hk]at e;obtain⟨x,h1,h2⟩:=bind_some e;obtain⟨n,hn⟩:=xi h h1;exact⟨n,fun k xg=>by simp only[Rd.run,hk,cond_true,hn k xg,Option.bind_some];exact h2⟩
 |.aQ b q,r,e=>by
  obtain⟨h1,h2⟩:=aX e;obtain⟨n,hn⟩:=xi h h2;exact⟨n,fun k hk=>by simp only[Rd.run,h1,cond_true];exact hn k hk⟩
 |.call f a q,r,e=>by
  obtain⟨x,h1,h2⟩:=bind_some e;obtain⟨n1,ky⟩:=h f a x h1;obtain⟨n2,wZ⟩:=xi h h2;exact⟨max n1 n2,fun k hk=>by simp only[Rd.run,ky k zO,Option.bind_some];exact wZ k zO⟩
 |.alt true x y,r,e=>xi (p:=x) h e
 |.alt false x y,r,e=>xi (p:=y) h e
theorem atP(h:JC C D){n i nb:Nat}{ops:Array Oper}{o:Oper}{st:St}{r:St×LN×LN}(e:mh P A C n ops i o nb st=some r):∃N,∀k,N<=k->mh P A (D k) n ops i o nb st=some r:=by
 unfold mh at e;have go:(((mG P A st.sl i (nb+64*i) o).run C st.hp).bind fun r=>some ((⟨mH st.sl o.dst r.1.v,cY st.hp r.1.upd,st.nb⟩:St),yH r.2 r.1.upd,kO st.hp r.1.upd))=some r->
   ∃N,∀k,N<=k->(((mG P A st.sl i (nb+64*i) o).run (D k) st.hp).bind fun r=>some ((⟨mH st.sl o.dst r.1.v,cY st.hp r.1.upd,st.nb⟩:St),yH r.2 r.1.upd,kO st.hp r.1.upd))=some r:=by
  intro e;obtain⟨x,h1,h2⟩:=bind_some e;obtain⟨N,hN⟩:=xi h h1;exact⟨N,fun k hk=>by rw[hN k hk];exact h2⟩
 unfold mh;cases hd:Aw o n with
 |false=>rw[hd]at e;cases e
 |true=>
  rw[hd]at e;simp only[cond_true]at e⊢;cases hg:o.guard with
  |none=>rw[hg]at e;exact go e
  |some gw=>
   obtain⟨g,want⟩:=gw;rw[hg]at e;simp only at e⊢;cases rK:(ops[g]?).bind (·.dst)with
   |none=>rw[rK]at e;cases e
   |some d=>
    rw[rK]at e;simp only at e⊢;cases sV:rl (st.sl d)with
    |none=>rw[sV]at e;cases e
    |some ob=>
    rw[sV]at e;cases ob with
    |none=>exact⟨0,fun _ _=>e⟩
    |some b=>
    simp only at e⊢;cases hb:b==want with
    |true=>rw[hb]at e;exact go e
    |false=>rw[hb]at e;exact⟨0,fun _ _=>e⟩
theorem ahY(h:JC C D){n nb:Nat}{ops:Array Oper}:∀{l:List (Nat×Oper)}{st:St}{log:Log}{r:St×Log},wA P A C n ops nb l st log=some r->∃N,∀k,N<=k->wA P A (D k) n ops nb l st log=some r
 |[],st,log,r,e=>⟨0,fun _ _=>e⟩
 |(i,o)::l,st,log,r,e=>by
  obtain⟨x,h1,h2⟩:=bind_some e;obtain⟨N1,vC⟩:=atP h h1;obtain⟨N2,y7⟩:=ahY h h2;exact⟨max N1 N2,fun k hk=>by simp only[wA,vC k zO,Option.bind_some];exact y7 k zO⟩
theorem ahZ{X R:Type}{step:X->Option (X⊕R)}{stepD:Nat->X->Option (X⊕R)}(hs:∀x y,step x=some y->∃N,∀k,N<=k->stepD k x=some y):∀(n:Nat) (x:X) (r:R),jk step n x=some r->∃N,∀k,N<=k->jk (stepD k) n x=some r
 |0,x,r,e=>by cases e
 |n+1,x,r,e=>by
  simp only[jk]at e⊢;obtain⟨y,h1,h2⟩:=bind_some e;obtain⟨N1,vC⟩:=hs x y h1;cases y with
  |inl z=>
   obtain⟨N2,y7⟩:=ahZ hs n z r h2;exact⟨max N1 N2,fun k hk=>by rw[vC k zO];exact y7 k zO⟩
  |inr q=>exact⟨N1,fun k hk=>by rw[vC k hk];exact h2⟩
theorem atQ(h:JC C D){f n m:Nat}:∀(c:Code){st:St}{r:Out×St},exec P A C f n m c st=some r->∃N,∀k,N<=k->exec P A (D k) f n m c st=some r:=by
 intro c
 induction c with
 |skip=>exact fun e=>⟨0,fun _ _=>e⟩
 |exit id=>exact fun e=>⟨0,fun _ _=>e⟩
 |ret=>exact fun e=>⟨0,fun _ _=>e⟩
 |region id ops draw=>
  intro st r e;simp only[exec]at e⊢;obtain⟨x,h1,h2⟩:=bind_some e;obtain⟨y,h3,h4⟩:=bind_some h1;obtain⟨N,hN⟩:=ahY h h3;refine⟨N,fun k hk=>?_⟩;have:E6 P (A.here f id) (D k) n ops draw st=some x:=by
   unfold E6;rw[hN k hk];exact h4
  rw[this];exact h2
 |seq x y kP kQ=>
  intro st r e;simp only[exec]at e⊢;obtain⟨⟨o,s1⟩,h1,h2⟩:=bind_some e;obtain⟨N1,vC⟩:=kP h1;cases o with
  |norm=>
   obtain⟨N2,y7⟩:=kQ h2;exact⟨max N1 N2,fun k hk=>by rw[vC k zO];exact y7 k zO⟩
  |exit id=>exact⟨N1,fun k hk=>by rw[vC k hk];exact h2⟩
  |ret=>exact⟨N1,fun k hk=>by rw[vC k hk];exact h2⟩
 |cond c x y kP kQ=>
  intro st r e;cases c with
  |tmp t=>
   have go:∀{st:St}{r:Out×St},(match st.sl t with
     |.bool b=>(bif b then exec P A C f n m x st else exec P A C f n m y st).bind fun r=>
      match r.1 with
      |.norm=>some (.norm,canon m (A.join f t) r.2)
      |_=>some r
     |_=>none)=some r->∃N,∀k,N<=k->(match st.sl t with
     |.bool b=>(bif b then exec P A (D k) f n m x st else exec P A (D k) f n m y st).bind fun r=>
      match r.1 with
      |.norm=>some (.norm,canon m (A.join f t) r.2)
      |_=>some r
     |_=>none)=some r:=by
    intro st r e;cases hs:st.sl t<;>rw[hs]at e<;>simp only at e⊢ <;>first|(cases e;done)|skip
    rename_i b;obtain⟨x1,h1,h2⟩:=bind_some e;cases b with
    |true=>
     obtain⟨N,hN⟩:=kP h1;exact⟨N,fun k hk=>by simp only[cond_true,hN k hk,Option.bind_some];exact h2⟩
    |false=>
     obtain⟨N,hN⟩:=kQ h1;exact⟨N,fun k hk=>by simp only[cond_false,hN k hk,Option.bind_some];exact h2⟩
   simp only[exec]at e⊢;split at e
   .rename_i hS;obtain⟨N,hN⟩:=go e;exact⟨N,fun k hk=>hN k hk⟩
   .rename_i S hS;obtain⟨ds,h1,h2⟩:=bind_some e;obtain⟨e',h3,h4⟩:=bind_some h2;obtain⟨r1,h5,h6⟩:=bind_some h3;obtain⟨N,hN⟩:=go h5;refine⟨N,fun k hk=>?_⟩
    try rw[hS]
    simp only[h1,Option.bind_some];exact(congrArg (fun z:Option (Out×St)=>(z.bind fun r=>ways m 0 S.2 r).bind fun e=>pQ 0 S.2 e.1 e.2 fun o st=>some (o,st)) (hN k hk)).trans (by simp only[Option.bind_some,h6];exact h4)
  |const v=>
   cases v with
   |bool b=>
    simp only[exec]at e⊢;cases b with
    |true=>exact kP e
    |false=>exact kQ e
   |_=>simp only[exec]at e;cases e
  |_=>simp only[exec]at e;cases e
 |block id c ih=>
  intro st r e;simp only[exec]at e⊢;obtain⟨x1,h1,h2⟩:=bind_some e;obtain⟨N,hN⟩:=ih h1;exact⟨N,fun k hk=>by rw[hN k hk];exact h2⟩
 |loop c ih=>
  intro st r e;simp only[exec]at e⊢;split at e
  .cases e
  .rename_i S hS;obtain⟨ds,h1,h2⟩:=bind_some e;obtain⟨e',h3,h4⟩:=bind_some h2;obtain⟨q,hq⟩:=EW h3;obtain⟨N,hN⟩:=ahZ (stepD:=fun k ds=>rr m S.1 S.2 (exec P A (D k) f n m c (cD S.1 ds))) (fun x y JD=>by
    unfold rr at JD⊢;obtain⟨z,h5,h6⟩:=bind_some JD;obtain⟨N,hN⟩:=ih h5;exact⟨N,fun k hk=>by rw[hN k hk];exact h6⟩) q ds e' hq
   refine⟨N,fun k hk=>?_⟩
   try rw[hS]
   simp only[h1,Option.bind_some];rw[EV (hN k hk)];exact h4
 |_=>intro st r e;simp only[exec]at e;cases e
theorem Q3(h:JC C D){f:Nat}{ds es:LV}(e:vc P A C f ds=some es):∃N,∀k,N<=k->vc P A (D k) f ds=some es:=by
 unfold vc at e⊢;cases hf:P.funcs[A.ll f]?with
 |none=>rw[hf]at e;cases e
 |some fn=>
  rw[hf]at e;simp only at e⊢;cases hb:fn.body with
  |none=>rw[hb]at e;cases e
  |some c=>
   rw[hb]at e;simp only at e⊢;cases hc:(mI 0 (A.sin f).cW&&(Nat.ble (A.sin f).cW.length fn.ntmps&&((A.sin f).ok&&(mI 0 (A.j6 f).cW&&(Nat.beq (A.j6 f).cW.length fn.results.size&&va (sH (A.sin f).dN.length (A.mv f)))))))with
   |false=>rw[hc]at e;cases e
   |true=>
    rw[hc]at e;simp only[cond_true]at e⊢;obtain⟨⟨o,s1⟩,h1,h2⟩:=bind_some e;obtain⟨N1,vC⟩:=atQ h c h1;cases o with
    |exit id=>cases h2
    |norm=>
     simp only[Option.map_eq_some_iff]at h2;obtain⟨x,e1,e2⟩:=h2;obtain⟨N2,y7⟩:=xi h e1;exact⟨max N1 N2,fun k hk=>by rw[vC k zO];simp only[Option.bind_some,y7 k zO,Option.map_some,e2]⟩
    |ret=>
     simp only[Option.map_eq_some_iff]at h2;obtain⟨x,e1,e2⟩:=h2;obtain⟨N2,y7⟩:=xi h e1;exact⟨max N1 N2,fun k hk=>by rw[vC k zO];simp only[Option.bind_some,y7 k zO,Option.map_some,e2]⟩
theorem ah0:∀n f a r,pR P A n f a=some r->pR P A (n+1) f a=some r
 |0,f,a,r,h=>by cases h
 |n+1,f,a,r,h=>by
  obtain⟨N,hN⟩:=Q3 (C:=pR P A n) (D:=fun _=>pR P A (n+1)) (fun f a r h=>⟨0,fun _ _=>ah0 n f a r h⟩) h;exact hN N (aC _)
theorem XS{n k:Nat}(hk:n<=k){f:Nat}{a r:LV}(h:pR P A n f a=some r):pR P A k f a=some r:=by
 induction hk with
 |refl=>exact h
 |step _ ih=>exact ah0 _ _ _ _ ih
theorem JE{f:Nat}{a r:LV}:Call P A f a=some r↔∃n,pR P A n f a=some r:=by
 constructor
 .intro h;unfold Call at h;split at h
  .rename_i hex;have:=hex.choose_spec.choose_spec;rw[ee h]at this;exact⟨_,this⟩
  .cases h
 .rintro⟨n,hn⟩;have hex:∃n r,pR P A n f a=some r:=⟨n,r,hn⟩
  unfold Call;rw[Ab hex];have h2:=hex.choose_spec.choose_spec;have h3:=XS (Nat.le_max_left n hex.choose) hn;have h4:=XS (Nat.le_max_right n hex.choose) h2;rw[h3]at h4;exact h4.symm
theorem atS(f:Nat)(a:LV):Call P A f a=vc P A (Call P A) f a:=by
 apply Option.ext;intro r;constructor
 .intro h;obtain⟨n,hn⟩:=JE.1 h;cases n with
  |zero=>cases hn
  |succ n=>
   obtain⟨N,hN⟩:=Q3 (C:=pR P A n) (D:=fun _=>Call P A) (fun f a r h=>⟨0,fun _ _=>JE.2 ⟨n,h⟩⟩) hn;exact hN N (aC _)
 .intro h;obtain⟨N,hN⟩:=Q3 (C:=Call P A) (D:=pR P A) (fun f a r h=>by
   obtain⟨n,hn⟩:=JE.1 h;exact⟨n,fun k hk=>XS hk hn⟩) h
  exact JE.2 ⟨N+1,hN N (aC _)⟩
end
end Go.AM
