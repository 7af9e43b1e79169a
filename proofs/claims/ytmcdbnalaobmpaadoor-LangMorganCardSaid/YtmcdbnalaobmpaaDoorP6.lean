/-
  Functions of the program, lifted to plain data.
-/
import Derived.Test.YtmcdbnalaobmpaaDoorP5
set_option linter.unusedVariables false
set_option linter.unusedSimpArgs false
set_option maxRecDepth 100000
set_option linter.unusedSimpArgs false
namespace Go.AM
open Go.Proofs
def mkE (p x q:Nat):Ed:=⟨(p:Int),(x:Int),(q:Int)⟩
def aN (L S:Nat) (st fin:Nat) (l:List Ed):List V:=[.int .i64 (L:Int),.int .i64 (S:Int),.int .u64 (st:Int),.int .u64 (fin:Int),.list T_api_Edge (l.map Ed.enc)]
def fm (n:Nat) (g:Nat→List Ed):List Ed:=(List.range n).flatMap g
theorem fm_zero {g:Nat→List Ed}:fm 0 g=[]:=rfl
theorem fm_succ {n:Nat} {g:Nat→List Ed}:fm (n+1) g=fm n g++g n:=by simp[fm,List.range_succ]
theorem fm_mem {n:Nat} {g:Nat→List Ed} {e:Ed}:e∈fm n g↔∃i,i<n∧e∈g i:=by simp[fm]
theorem fm_len {n k:Nat} {g:Nat→List Ed} (h: ∀i,i<n→(g i).length≤k):(fm n g).length≤n*k:=by
 induction n with
 | zero=>simp[fm]
 | succ n ih=>
  rw[fm_succ,List.length_append,Nat.succ_mul]
  have:=ih fun i hi=>h i (by omega)
  have:=h n (by omega)
  omega
theorem Loop_sq {X R:Type} {step:X→Option (X ⊕ R)} (n:Nat) (s:Nat→X) (r:R) {x:X} (hx:x=s 0) (h: ∀i,i<n→step (s i)=some (.inl (s (i+1)))) (he:step (s n)=some (.inr r)):Loop step x=some r:=by rw[hx];exact Loop_st n s r h he
theorem wrA {a b:Nat} (h:a+b≤1000000000):IntKind.wrap .i64 ((a:Int)+(b:Int))=((a+b:Nat):Int):=by rw[wrap64 (by omega) (by omega)];omega
theorem mapE {l:List Ed} {p x q:Nat}:l.map Ed.enc++[V.agg [.int .i64 (p:Int),.int .i64 (x:Int),.int .i64 (q:Int)]]=(l++[mkE p x q]).map Ed.enc:=by simp[mkE,Ed.enc]
section
variable {L S st fin:Nat} {l:List Ed}
theorem edge_spec {p x q:Nat} (h:l.length≤1000000):CC F_lang_automaton_edge [.int .i64 (p:Int),.int .i64 (x:Int),.int .i64 (q:Int),.int .i64 (L:Int),.int .i64 (S:Int),.int .u64 (st:Int),.int .u64 (fin:Int),.list T_api_Edge (l.map Ed.enc)]=some (aN L S st fin (l++[mkE p x q])):=by
 refine f_lang_automaton_edge_of ?_
 unfold f_lang_automaton_edge
 refine bT (cap (by simp;omega) (by omega)) ?_
 rw[mapE];rfl
theorem start_spec {q:Nat} (hq:q<64) (hs:st<2^64):CC F_lang_automaton_start [.int .i64 (q:Int),.int .i64 (L:Int),.int .i64 (S:Int),.int .u64 (st:Int),.int .u64 (fin:Int),.list T_api_Edge (l.map Ed.enc)]=some (aN L S (st|||2^q) fin l):=by
 refine f_lang_automaton_start_of ?_
 unfold f_lang_automaton_start
 refine bT (decide_eq_true (by omega)) ?_
 rw[Int.toNat_natCast,u64_bit hq,u64_or hs (Nat.pow_lt_pow_right (by omega) hq)];rfl
theorem final_spec {q:Nat} (hq:q<64) (hs:fin<2^64):CC F_lang_automaton_final [.int .i64 (q:Int),.int .i64 (L:Int),.int .i64 (S:Int),.int .u64 (st:Int),.int .u64 (fin:Int),.list T_api_Edge (l.map Ed.enc)]=some (aN L S st (fin|||2^q) l):=by
 refine f_lang_automaton_final_of ?_
 unfold f_lang_automaton_final
 refine bT (decide_eq_true (by omega)) ?_
 rw[Int.toNat_natCast,u64_bit hq,u64_or hs (Nat.pow_lt_pow_right (by omega) hq)];rfl
theorem begin_ok (h:S≤64):CC F_lang_begin [.int .i64 (L:Int),.int .i64 (S:Int)]=some (.bool false::aN L S 0 0 []):=by
 refine f_lang_begin_of ?_
 unfold f_lang_begin
 exact bF (decide_eq_false (by omega)) rfl
def orN (fin:Nat) (f:Nat→Bool) (off:Nat):Nat→Nat
 | 0=>fin
 | i+1=>if f i=true then orN fin f off i|||2^(i+off) else orN fin f off i
theorem orN_lt {f:Nat→Bool} {off k:Nat} (hf:fin<2^k): ∀{n:Nat},n+off≤k→orN fin f off n<2^k
 | 0,_=>hf
 | n+1,h=>by
  unfold orN
  have ih:=orN_lt (f:=f) (off:=off) hf (n:=n) (by omega)
  split
  ·exact Nat.or_lt_two_pow ih (Nat.pow_lt_pow_right (by omega) (by omega))
  ·exact ih
theorem finals_spec {n off:Nat} {f:Nat→Bool} (ho:n+off≤64) (hs:fin<2^64):CC F_lang_automaton_finals [.list T_bool (bV n f),.int .i64 (off:Int),.int .i64 (L:Int),.int .i64 (S:Int),.int .u64 (st:Int),.int .u64 (fin:Int),.list T_api_Edge (l.map Ed.enc)]=some (aN L S st (orN fin f off n) l):=by
 refine f_lang_automaton_finals_of ?_
 unfold f_lang_automaton_finals
 rw[show (bV n f).length=n from tab_len]
 refine bs (Loop_st n (fun i=>((i:Int),(L:Int),(S:Int),(st:Int),(orN fin f off i:Int),l.map Ed.enc)) ((n:Int),false,(L:Int),(S:Int),(st:Int),(orN fin f off n:Int),l.map Ed.enc) (fun i hi=> ?_) ?_) ?_
 ·simp only[s_lang_automaton_finals_1L,s_lang_automaton_finals_1,un]
  refine bT (lt_t hi) ?_
  refine bs (idx_tab hi) ?_
  have hlt:=orN_lt (f:=f) (off:=off) hs (n:=i) (by omega)
  cases hf:f i with
  | true=>
   refine bT rfl ?_
   rw[wrA (by omega)]
   refine bs (final_spec (by omega) hlt) ?_
   rw[wr1 (by omega),show orN fin f off (i+1)=orN fin f off i|||2^(i+off) from if_pos hf]
   rfl
  | false=>
   refine bF rfl ?_
   rw[wr1 (by omega),show orN fin f off (i+1)=orN fin f off i from if_neg (by rw[hf];simp)]
 ·simp only[s_lang_automaton_finals_1L,s_lang_automaton_finals_1,un]
  refine bF (lt_f (Nat.le_refl _)) ?_
  rw[lt_f (Nat.le_refl _)]
 ·rfl
def rowE (a:Da) (off p:Nat):List Ed:=tab a.L fun x=>mkE (p+off) x (a.nx p x+off)
def cpE (a:Da) (off:Nat):List Ed:=fm a.n (rowE a off)
theorem cpE_mem {a:Da} {off:Nat} {e:Ed}:e∈cpE a off↔∃p x,p<a.n∧x<a.L∧e=mkE (p+off) x (a.nx p x+off):=by
 unfold cpE rowE
 rw[fm_mem]
 constructor
 ·rintro ⟨p,hp,he⟩
  obtain ⟨x,hx,rfl⟩:=tab_mem.1 he
  exact ⟨p,x,hp,hx,rfl⟩
 ·rintro ⟨p,x,hp,hx,rfl⟩
  exact ⟨p,hp,tab_mem.2 ⟨x,hx,rfl⟩⟩
theorem cpE_len {a:Da} (h:a.Ok) {off:Nat} {n:Nat}:(fm n (rowE a off)).length≤n*6:=fm_len fun p _=>by unfold rowE;rw[tab_len];exact h.l6
theorem copy_spec {a:Da} (h:a.Ok) {off:Nat} (ho:off≤1000) (hl:l.length≤100000):CC F_lang_automaton_copy (daA a [.int .i64 (off:Int),.int .i64 (L:Int),.int .i64 (S:Int),.int .u64 (st:Int),.int .u64 (fin:Int),.list T_api_Edge (l.map Ed.enc)])=some (aN L S st fin (l++cpE a off)):=by
 have hn:=h.most
 have h6:=h.l6
 refine f_lang_automaton_copy_of ?_
 unfold f_lang_automaton_copy
 rw[show a.nxV.length=a.n from tab_len]
 refine bs (Loop_sq a.n (fun i=>((i:Int),(L:Int),(S:Int),(st:Int),(fin:Int),(l++fm i (rowE a off)).map Ed.enc)) ((a.n:Int),false,(L:Int),(S:Int),(st:Int),(fin:Int),(l++cpE a off).map Ed.enc) (by rw[fm_zero,List.append_nil];rfl) (fun p hp=> ?_) ?_) ?_
 ·have hlen:=cpE_len h (off:=off) (n:=p)
  simp only[s_lang_automaton_copy_2L,s_lang_automaton_copy_2,un]
  refine bT (lt_t hp) ?_
  refine bs (idx_tab hp) ?_
  rw[show (rowF a.L (a.nx p)).toList=tab a.L fun x=>nV (a.nx p x) from rfl,tab_len]
  refine bs (Loop_sq a.L (fun i=>((i:Int),(L:Int),(S:Int),(st:Int),(fin:Int),((l++fm p (rowE a off))++tab i fun x=>mkE (p+off) x (a.nx p x+off)).map Ed.enc)) ((a.L:Int),false,(L:Int),(S:Int),(st:Int),(fin:Int),((l++fm p (rowE a off))++rowE a off p).map Ed.enc) (by rw[tab_zero,List.append_nil];rfl) (fun x hx=> ?_) ?_) ?_
  ·have hq:=h.nx_lt hp hx
   simp only[s_lang_automaton_copy_1L,s_lang_automaton_copy_1,un]
   refine bT (lt_t hx) ?_
   refine bs (idx_tab hx) ?_
   rw[show (nV (a.nx p x)).toInt=((a.nx p x:Nat):Int) from rfl,wrA (by omega),wrA (by omega)]
   refine bs (edge_spec (by rw[List.length_append,List.length_append,tab_len];omega)) ?_
   rw[wr1 (by omega),tab_succ,←List.append_assoc]
   rfl
  ·simp only[s_lang_automaton_copy_1L,s_lang_automaton_copy_1,un]
   refine bF (lt_f (Nat.le_refl _)) ?_
   rw[lt_f (Nat.le_refl _)]
   rfl
  ·simp only[un]
   rw[wr1 (by omega),fm_succ,←List.append_assoc]
 ·simp only[s_lang_automaton_copy_2L,s_lang_automaton_copy_2,un]
  refine bF (lt_f (Nat.le_refl _)) ?_
  rw[lt_f (Nat.le_refl _)]
  rfl
 ·rfl
end
end Go.AM
set_option maxRecDepth 100000
namespace Go.AM
open Go.Proofs
noncomputable abbrev B_lang_Superwords:Code:=bodyOf Tryd.prog (ann.fid 51)
noncomputable def s_lang_Superwords_1 (C:CallF) (q t36 t37 t41 ds_0 ds_1:Int) (ds_2 ds_3:List V) (t2s_0 t2s_1 ms_0 ms_1:Int) (b4_ b5_ b6_ b7_:List V) (t42 ns_0 ns_1 ns_2 ns_3:Int) (b8_:List V) {β:Type} (kn:(Int × Int × Int × Int × Int × (List V))→Option β) (kr:(Int × Bool × Int × Int × Int × Int × (List V))→Option β):Option β:=
 bif decide ((t42:Int)<t41) then
  (C F_lang_automaton_edge [.int .i64 q,.int .i64 t42,.int .i64 q,.int .i64 ns_0,.int .i64 ns_1,.int .u64 ns_2,.int .u64 ns_3,.list T_api_Edge b8_]).bind fun r4=>
  kn (IntKind.wrap .i64 (t42+1),(V.nth r4 0).toInt,(V.nth (r4.drop 1) 0).toInt,(V.nth ((r4.drop 1).drop 1) 0).toInt,(V.nth (((r4.drop 1).drop 1).drop 1) 0).toInt,(V.nth (r4.drop 4) 0).toList)
 else
  kr (t42,decide ((t42:Int)<t41),ns_0,ns_1,ns_2,ns_3,b8_)
noncomputable def s_lang_Superwords_1L (C:CallF) (q t36 t37 t41 ds_0 ds_1:Int) (ds_2 ds_3:List V) (t2s_0 t2s_1 ms_0 ms_1:Int) (b4_ b5_ b6_ b7_:List V):(Int × Int × Int × Int × Int × (List V))→Option ((Int × Int × Int × Int × Int × (List V)) ⊕ (Int × Bool × Int × Int × Int × Int × (List V))):=un fun t42=>un fun ns_0=>un fun ns_1=>un fun ns_2=>un fun ns_3 b8_=>s_lang_Superwords_1 C q t36 t37 t41 ds_0 ds_1 ds_2 ds_3 t2s_0 t2s_1 ms_0 ms_1 b4_ b5_ b6_ b7_ t42 ns_0 ns_1 ns_2 ns_3 b8_ (fun y=>some (.inl y)) (fun r=>some (.inr r))
noncomputable def s_lang_Superwords_2 (C:CallF) (t36 ds_0 ds_1:Int) (ds_2 ds_3:List V) (t2s_0 t2s_1 ms_0 ms_1:Int) (b4_ b5_ b6_ b7_:List V) (t37 ns_0 ns_1 ns_2 ns_3:Int) (b8_:List V) {β:Type} (kn:(Int × Int × Int × Int × Int × (List V))→Option β) (kr:(Int × Bool × Int × Int × Int × Int × (List V))→Option β):Option β:=
 bif decide ((t37:Int)<t36) then
  (Loop (s_lang_Superwords_1L C t37 t36 t37 ds_0 ds_0 ds_1 ds_2 ds_3 t2s_0 t2s_1 ms_0 ms_1 b4_ b5_ b6_ b7_) (0,ns_0,ns_1,ns_2,ns_3,b8_)).bind (un fun (t_5:Int)=>un fun (t_6:Bool)=>un fun (ns_7:Int)=>un fun (ns_8:Int)=>un fun (ns_9:Int)=>un fun (ns_10:Int) (b_11:List V)=>
   kn (IntKind.wrap .i64 (t37+1),ns_7,ns_8,ns_9,ns_10,b_11))
 else
  kr (t37,decide ((t37:Int)<t36),ns_0,ns_1,ns_2,ns_3,b8_)
noncomputable def s_lang_Superwords_2L (C:CallF) (t36 ds_0 ds_1:Int) (ds_2 ds_3:List V) (t2s_0 t2s_1 ms_0 ms_1:Int) (b4_ b5_ b6_ b7_:List V):(Int × Int × Int × Int × Int × (List V))→Option ((Int × Int × Int × Int × Int × (List V)) ⊕ (Int × Bool × Int × Int × Int × Int × (List V))):=un fun t37=>un fun ns_0=>un fun ns_1=>un fun ns_2=>un fun ns_3 b8_=>s_lang_Superwords_2 C t36 ds_0 ds_1 ds_2 ds_3 t2s_0 t2s_1 ms_0 ms_1 b4_ b5_ b6_ b7_ t37 ns_0 ns_1 ns_2 ns_3 b8_ (fun y=>some (.inl y)) (fun r=>some (.inr r))
noncomputable def LT_lang_Superwords (C:CallF):LTab:=fun β n ds k=>
 bif Nat.beq n 193 then loopS S51_193 [false,false,false,false,true,false,false,false,false,false,false,false,false,true,true,true,true,false,false,false,false,true] [[1,2,3,4,0,0,6,7,8,9,10,11,12,13,0,0,0,0,18,19,20,21,0]] (@s_lang_Superwords_1 C) ds k else
 bif Nat.beq n 145 then loopS S51_145 [false,true,false,false,false,false,false,false,false,false,true,true,true,true,false,false,false,false,true] [[1,0,0,3,4,5,6,7,8,9,10,0,0,0,0,15,16,17,18,0]] (@s_lang_Superwords_2 C) ds k else
 none
abbrev TS_lang_Superwords (C:CallF) (b:Bar):Prop:=Tells Tryd.prog ann C (LT_lang_Superwords C) 51 (ntmpsOf Tryd.prog (ann.fid 51)) (ann.sin 51).blks.length b
theorem t_lang_Superwords_1 (C:CallF):TS_lang_Superwords C (.loop (codeAt [1,1,1,1,1,1,0,1,0,0,1,1,0,0,1,1,0,0] B_lang_Superwords)):=
 tl3 S51_193 [false,false,false,false,true,false,false,false,false,false,false,false,false,true,true,true,true,false,false,false,false,true] [[1,2,3,4,0,0,6,7,8,9,10,11,12,13,0,0,0,0,18,19,20,21,0]] (@s_lang_Superwords_1 C) (by kernel_rfl) (ltok_of (bs:=[]) (by kernel_rfl) tells_nil) (fun ds=>by kernel_rfl) (fun i x=>by kernel_rfl) (fun i x β k=>by kernel_rfl) (fun β ds k=>by kernel_rfl)
theorem t_lang_Superwords_2 (C:CallF):TS_lang_Superwords C (.loop (codeAt [1,1,1,1,1,1,0,1,0,0] B_lang_Superwords)):=
 tl3 S51_145 [false,true,false,false,false,false,false,false,false,false,true,true,true,true,false,false,false,false,true] [[1,0,0,3,4,5,6,7,8,9,10,0,0,0,0,15,16,17,18,0]] (@s_lang_Superwords_2 C) (by kernel_rfl) (ltok_of (bs:=[.loop (codeAt [1,1,1,1,1,1,0,1,0,0,1,1,0,0,1,1,0,0] B_lang_Superwords)]) (by kernel_rfl) (tells_cons (t_lang_Superwords_1 C) tells_nil)) (fun ds=>by kernel_rfl) (fun i x=>by kernel_rfl) (fun i x β k=>by kernel_rfl) (fun β ds k=>by kernel_rfl)
noncomputable def f_lang_Superwords (C:CallF) (d_0 d_1:Int) (d_2 d_3:List V):Option (List V):=
 (C F_lang_minimal [.int .i64 d_0,.int .i64 d_1,.list T_bool d_2,.list T_l_int d_3]).bind fun r1=>
 bif (((V.nth (r1.drop 2) 0).toInt):Int) != 0 then
  some [.int .i64 0,.int .i64 0,.int .i64 ((V.nth (r1.drop 2) 0).toInt),.list T_bool ([]:List V),.list T_l_int ([]:List V)]
 else
  (C F_lang_begin [.int .i64 d_0,.int .i64 (((V.nth (r1.drop 3) 0).toList).length:Int)]).bind fun r2=>
  bif (V.nth r2 0).toBool then
  some [.int .i64 0,.int .i64 0,.int .i64 3,.list T_bool ([]:List V),.list T_l_int ([]:List V)]
  else
  (C F_lang_automaton_copy [.int .i64 ((V.nth r1 0).toInt),.int .i64 ((V.nth (r1.drop 1) 0).toInt),.list T_bool ((V.nth (r1.drop 3) 0).toList),.list T_l_int ((V.nth ((r1.drop 3).drop 1) 0).toList),.int .i64 0,.int .i64 ((V.nth (r2.drop 1) 0).toInt),.int .i64 ((V.nth ((r2.drop 1).drop 1) 0).toInt),.int .u64 ((V.nth (((r2.drop 1).drop 1).drop 1) 0).toInt),.int .u64 ((V.nth ((((r2.drop 1).drop 1).drop 1).drop 1) 0).toInt),.list T_api_Edge ((V.nth ((r2.drop 1).drop 4) 0).toList)]).bind fun r3=>
  (Loop (s_lang_Superwords_2L C (((V.nth (r1.drop 3) 0).toList).length:Int) d_0 d_1 d_2 d_3 0 0 ((V.nth r1 0).toInt) ((V.nth (r1.drop 1) 0).toInt) ([]:List V) ([]:List V) ((V.nth (r1.drop 3) 0).toList) ((V.nth ((r1.drop 3).drop 1) 0).toList)) (0,(V.nth r3 0).toInt,(V.nth (r3.drop 1) 0).toInt,(V.nth ((r3.drop 1).drop 1) 0).toInt,(V.nth (((r3.drop 1).drop 1).drop 1) 0).toInt,(V.nth (r3.drop 4) 0).toList)).bind (un fun (t_12:Int)=>un fun (t_13:Bool)=>un fun (ns_14:Int)=>un fun (ns_15:Int)=>un fun (ns_16:Int)=>un fun (ns_17:Int) (b_18:List V)=>
   (C F_lang_automaton_start [.int .i64 ((V.nth (r1.drop 1) 0).toInt),.int .i64 ns_14,.int .i64 ns_15,.int .u64 ns_16,.int .u64 ns_17,.list T_api_Edge b_18]).bind fun r19=>
   (C F_lang_automaton_finals [.list T_bool ((V.nth (r1.drop 3) 0).toList),.int .i64 0,.int .i64 ((V.nth r19 0).toInt),.int .i64 ((V.nth (r19.drop 1) 0).toInt),.int .u64 ((V.nth ((r19.drop 1).drop 1) 0).toInt),.int .u64 ((V.nth (((r19.drop 1).drop 1).drop 1) 0).toInt),.list T_api_Edge ((V.nth (r19.drop 4) 0).toList)]).bind fun r20=>
   (C F_lang_automaton_language [.int .i64 ((V.nth r20 0).toInt),.int .i64 ((V.nth (r20.drop 1) 0).toInt),.int .u64 ((V.nth ((r20.drop 1).drop 1) 0).toInt),.int .u64 ((V.nth (((r20.drop 1).drop 1).drop 1) 0).toInt),.list T_api_Edge ((V.nth (r20.drop 4) 0).toList)]).bind fun r21=>
   some [.int .i64 ((V.nth r21 0).toInt),.int .i64 ((V.nth (r21.drop 1) 0).toInt),.int .i64 ((V.nth (r21.drop 2) 0).toInt),.list T_bool ((V.nth ((r21.drop 3).drop 5) 0).toList),.list T_l_int ((V.nth (((r21.drop 3).drop 5).drop 1) 0).toList)])
theorem f_lang_Superwords_of {d_0 d_1:Int} {d_2 d_3:List V} {r:Option (List V)} (h:f_lang_Superwords CC d_0 d_1 d_2 d_3=r):CC F_lang_Superwords [.int .i64 d_0,.int .i64 d_1,.list T_bool d_2,.list T_l_int d_3]=r:=
 func_of (key:=51) (L:=LT_lang_Superwords CC) (bs:=[.loop (codeAt [1,1,1,1,1,1,0,1,0,0] B_lang_Superwords)]) (by kernel_rfl) (tells_cons (t_lang_Superwords_2 CC) tells_nil) (Eq.trans (by kernel_rfl) h)
end Go.AM
set_option maxRecDepth 100000
set_option linter.unusedSimpArgs false
namespace Go.AM
open Go.Proofs
theorem mkE_in {p x q L S:Nat} (hp:p<S) (hx:x<L) (hq:q<S):(mkE p x q).In (L:Int) (S:Int):=by unfold Ed.In mkE;simp only;omega
theorem cpE_in {a:Da} (h:a.Ok) {off S:Nat} (hs:a.n+off≤S) {e:Ed} (he:e∈cpE a off):e.In (a.L:Int) (S:Int):=by
 obtain ⟨p,x,hp,hx,rfl⟩:=cpE_mem.1 he
 have:=h.nx_lt hp hx
 exact mkE_in (by omega) hx (by omega)
def stE (L n:Nat):List Ed:=fm n fun q=>tab L fun x=>mkE q x q
theorem stE_mem {L n:Nat} {e:Ed}:e∈stE L n↔∃q x,q<n∧x<L∧e=mkE q x q:=by
 unfold stE
 rw[fm_mem]
 constructor
 ·rintro ⟨p,hp,he⟩
  obtain ⟨x,hx,rfl⟩:=tab_mem.1 he
  exact ⟨p,x,hp,hx,rfl⟩
 ·rintro ⟨p,x,hp,hx,rfl⟩
  exact ⟨p,hp,tab_mem.2 ⟨x,hx,rfl⟩⟩
def supN (m:Da):Nf:=nfOf m.L m.n (2^m.st) (orN 0 m.fin 0 m.n) (cpE m 0++stE m.L m.n)
theorem sup_raw {m:Da} (h:m.Ok) (hs:m.n≤64):RawOk m.L m.n (2^m.st) (orN 0 m.fin 0 m.n) (cpE m 0++stE m.L m.n) where
 l1:=h.l1
 l6:=h.l6
 s64:=hs
 st:=Nat.pow_lt_pow_right (by omega) h.s
 fin:=orN_lt (Nat.two_pow_pos _) (by omega)
 E:=fun e he=>by
  rcases List.mem_append.1 he with he|he
  ·exact cpE_in h (by omega) he
  ·obtain ⟨p,x,hp,hx,rfl⟩:=stE_mem.1 he
   exact mkE_in (by omega) hx (by omega)
 len:=by
  have h1:=cpE_len h (off:=0) (n:=m.n)
  have h2:(stE m.L m.n).length≤m.n*6:=fm_len fun p _=>by rw[tab_len];exact h.l6
  rw[List.length_append]
  unfold cpE
  omega
section
variable {a:Da} (h:a.Ok)
include h
theorem Superwords_pre (hs:(minD a).n≤64) {X:Da} {e:Int} {n:Nf} (hr:CC F_lang_automaton_language (aN (minD a).L (minD a).n (2^(minD a).st) (orN 0 (minD a).fin 0 (minD a).n) (cpE (minD a) 0++stE (minD a).L (minD a).n))=some (autR X e n)):CC F_lang_Superwords (daR a)=some (outR X e):=by
 have hm:=minD_ok h
 have h6:=hm.l6
 have hL:=minD_L h
 have hst:=hm.s
 refine f_lang_Superwords_of ?_
 unfold f_lang_Superwords
 refine bs (lmin_ok h) (bF rfl ?_)
 have e0:(V.nth ((outR (minD a) 0).drop 3) 0).toList=(minD a).finV:=rfl
 rw[e0,Da.finV_len]
 refine bs (begin_ok hs) (bF rfl ?_)
 refine bs (copy_spec (l:=[]) hm (off:=0) (by omega) (by simp)) ?_
 rw[List.nil_append]
 have hlen:=cpE_len hm (off:=0) (n:=(minD a).n)
 refine bs (Loop_sq (minD a).n (fun i=>((i:Int),(a.L:Int),((minD a).n:Int),((0:Nat):Int),((0:Nat):Int),(cpE (minD a) 0++stE (minD a).L i).map Ed.enc)) (((minD a).n:Int),false,(a.L:Int),((minD a).n:Int),((0:Nat):Int),((0:Nat):Int),(cpE (minD a) 0++stE (minD a).L (minD a).n).map Ed.enc) (by rw[show stE (minD a).L 0=[] from rfl,List.append_nil];rfl) (fun q hq=> ?_) ?_) ?_
 ·have hl2:(stE (minD a).L q).length≤q*6:=fm_len fun p _=>by rw[tab_len];exact h6
  simp only[s_lang_Superwords_2L,s_lang_Superwords_2,un]
  refine bT (lt_t hq) ?_
  refine bs (Loop_sq a.L (fun i=>((i:Int),(a.L:Int),((minD a).n:Int),((0:Nat):Int),((0:Nat):Int),((cpE (minD a) 0++stE (minD a).L q)++tab i fun x=>mkE q x q).map Ed.enc)) ((a.L:Int),false,(a.L:Int),((minD a).n:Int),((0:Nat):Int),((0:Nat):Int),((cpE (minD a) 0++stE (minD a).L q)++tab (minD a).L fun x=>mkE q x q).map Ed.enc) (by rw[tab_zero,List.append_nil];rfl) (fun x hx=> ?_) ?_) ?_
  ·simp only[s_lang_Superwords_1L,s_lang_Superwords_1,un]
   refine bT (lt_t hx) ?_
   refine bs (edge_spec (by rw[List.length_append,List.length_append,tab_len];unfold cpE;omega)) ?_
   rw[wr1 (by omega),tab_succ,←List.append_assoc]
   rfl
  ·simp only[s_lang_Superwords_1L,s_lang_Superwords_1,un]
   refine bF (lt_f (Nat.le_refl _)) ?_
   rw[lt_f (Nat.le_refl _),hL]
  ·simp only[un]
   rw[wr1 (by omega),show stE (minD a).L (q+1)=stE (minD a).L q++tab (minD a).L fun x=>mkE q x q from fm_succ,←List.append_assoc]
 ·simp only[s_lang_Superwords_2L,s_lang_Superwords_2,un]
  refine bF (lt_f (Nat.le_refl _)) ?_
  rw[lt_f (Nat.le_refl _)]
 ·simp only[un]
  refine bs (start_spec (q:=(minD a).st) (by omega) (by omega)) ?_
  refine bs (finals_spec (n:=(minD a).n) (f:=(minD a).fin) (off:=0) (by omega) (by omega)) ?_
  rw[Nat.zero_or]
  rw[hL] at hr
  rw[hL]
  refine bs hr ?_
  rfl
end
end Go.AM
set_option maxRecDepth 100000
set_option linter.unusedSimpArgs false
namespace Go.AM
open Go.Proofs
def oddD:Da:=⟨2,0,[false,true],[[1,0],[0,1]]⟩
def hasD:Da:=⟨2,0,[false,true],[[1,0],[1,1]]⟩
theorem odd_ok:oddD.Ok:=⟨by decide,by decide,by decide,by decide,by decide,by decide⟩
theorem has_ok:hasD.Ok:=⟨by decide,by decide,by decide,by decide,by decide,by decide⟩
theorem odd_canon:oddD.Canon oddD.L (oddD.acc oddD.st) where
 ok:=odd_ok
 hL:=rfl
 st:=rfl
 num:=⟨by decide,by decide,by decide⟩
 red:=fun p q hp hq h=>by
  have h0:=h [] WL.nil
  have hp':p<2:=hp
  have hq':q<2:=hq
  have: ∀p,p<2→∀q,q<2→oddD.acc p []=oddD.acc q []→p=q:=by decide
  exact this p hp' q hq' h0
 lang:=fun _ _=>rfl
theorem has_canon:hasD.Canon hasD.L (hasD.acc hasD.st) where
 ok:=has_ok
 hL:=rfl
 st:=rfl
 num:=⟨by decide,by decide,by decide⟩
 red:=fun p q hp hq h=>by
  have h0:=h [] WL.nil
  have hp':p<2:=hp
  have hq':q<2:=hq
  have: ∀p,p<2→∀q,q<2→hasD.acc p []=hasD.acc q []→p=q:=by decide
  exact this p hp' q hq' h0
 lang:=fun _ _=>rfl
theorem odd_min:minD oddD=oddD:=(minD_of odd_ok odd_canon).symm
theorem sup_odd:subD (supN oddD) 2 2=hasD:=by kernel_rfl
theorem sup_over: ¬subOver (supN oddD) 2 2:=by
 have:=subU_done (sorted_nfCode (sup_raw odd_ok (by decide))) (2^2)
 exact fun h=>absurd (Nat.lt_of_lt_of_le h this) (by decide)
theorem lang_odd:langM (supN oddD) 2 2=hasD:=by
 unfold langM
 rw[if_neg sup_over,sup_odd]
 exact (minD_of has_ok has_canon).symm
end Go.AM
set_option maxRecDepth 100000
namespace Go.AM
open Go.Proofs
noncomputable def f_semigrouplaw10_awake (C:CallF):Option (List V):=
 (C F_semigrouplaw10_odd []).bind fun r1=>
 (C F_lang_Superwords [.int .i64 ((V.nth r1 0).toInt),.int .i64 ((V.nth (r1.drop 1) 0).toInt),.list T_bool ((V.nth (r1.drop 2) 0).toList),.list T_l_int ((V.nth ((r1.drop 2).drop 1) 0).toList)]).bind fun r2=>
 bif (((V.nth (r2.drop 2) 0).toInt):Int)==0 then
  bif ((((V.nth (r2.drop 3) 0).toList).length:Int):Int)==2 then
  (C F_dfa_Accepts [.int .i64 ((V.nth r2 0).toInt),.int .i64 ((V.nth (r2.drop 1) 0).toInt),.list T_bool ((V.nth (r2.drop 3) 0).toList),.list T_l_int ((V.nth ((r2.drop 3).drop 1) 0).toList),.str [98,97,97]]).bind fun r3=>
  bif (V.nth r3 0).toBool then
   (C F_dfa_Accepts [.int .i64 ((V.nth r2 0).toInt),.int .i64 ((V.nth (r2.drop 1) 0).toInt),.list T_bool ((V.nth (r2.drop 3) 0).toList),.list T_l_int ((V.nth ((r2.drop 3).drop 1) 0).toList),.str [98,98]]).bind fun r4=>
   some [.bool (!((V.nth r4 0).toBool))]
  else
   some [.bool false]
  else
  some [.bool false]
 else
  some [.bool false]
theorem f_semigrouplaw10_awake_of {r:Option (List V)} (h:f_semigrouplaw10_awake CC=r):CC F_semigrouplaw10_awake []=r:=
 func_of (key:=19) (L:=LT0) (bs:=[]) (by kernel_rfl) tells_nil (Eq.trans (by kernel_rfl) h)
end Go.AM
set_option maxRecDepth 100000
namespace Go.AM
open Go.Proofs
noncomputable def f_semigrouplaw10_odd (C:CallF):Option (List V):=
 some [.int .i64 2,.int .i64 0,.list T_bool ([.bool false,.bool true]:List V),.list T_l_int ([.list T_int ([.int .i64 1,.int .i64 0]:List V),.list T_int ([.int .i64 0,.int .i64 1]:List V)]:List V)]
theorem f_semigrouplaw10_odd_of {r:Option (List V)} (h:f_semigrouplaw10_odd CC=r):CC F_semigrouplaw10_odd []=r:=
 func_of (key:=59) (L:=LT0) (bs:=[]) (by kernel_rfl) tells_nil (Eq.trans (by kernel_rfl) h)
end Go.AM
set_option maxRecDepth 100000
set_option linter.unusedSimpArgs false
namespace Go.AM
open Go.Proofs
def oddE:List Ed:=[⟨0,0,1⟩,⟨0,1,0⟩,⟨1,0,0⟩,⟨1,1,1⟩,⟨0,0,0⟩,⟨0,1,0⟩,⟨1,0,1⟩,⟨1,1,1⟩]
def oddR:List Ed:=[⟨0,0,0⟩,⟨0,0,1⟩,⟨0,1,0⟩,⟨0,1,0⟩,⟨1,0,0⟩,⟨1,0,1⟩,⟨1,1,1⟩,⟨1,1,1⟩]
def oddS:List Ed:=[⟨0,0,0⟩,⟨0,0,1⟩,⟨0,1,0⟩,⟨1,0,0⟩,⟨1,0,1⟩,⟨1,1,1⟩]
theorem odd_edges:cpE oddD 0++stE 2 2=oddE:=by decide
theorem odd_sort:CC F_slices_SortFunc___api_Edge_api_Edge_ [.list T_api_Edge (oddE.map Ed.enc)]=some [.list T_api_Edge (oddR.map Ed.enc)]:=Call_of_run (N:=40) (n:=40) (by kernel_rfl)
theorem odd_nf:supN oddD=⟨2,2,1,2,oddS⟩:=by kernel_rfl
theorem odd_lang:CC F_lang_automaton_language (aN 2 2 (2^oddD.st) (orN 0 oddD.fin 0 2) (cpE oddD 0++stE 2 2))=some (autR hasD 0 ⟨2,2,1,2,oddS⟩):=by
 obtain ⟨b,e2⟩:=compactE_spec (l:=oddR) (by decide)
 have hc:cpe oddR=oddS:=by decide
 rw[hc] at e2
 have e3:=language_spec (sorted_nfCode (sup_raw odd_ok (by decide)))
 rw[show nfOf oddD.L oddD.n (2^oddD.st) (orN 0 oddD.fin 0 oddD.n) (cpE oddD 0++stE oddD.L oddD.n)=supN oddD from rfl,show oddD.L=2 from rfl,show oddD.n=2 from rfl,lang_odd,show langE (supN oddD) 2 2=0 from if_neg sup_over,odd_nf] at e3
 rw[odd_edges]
 refine f_lang_automaton_language_of ?_
 unfold f_lang_automaton_language
 refine bs odd_sort ?_
 refine bs e2 ?_
 cases b
 ·refine bF rfl ?_
  refine bs e3 ?_
  rfl
 ·refine bT rfl ?_
  refine bs e3 ?_
  rfl
theorem awake10:CC F_semigrouplaw10_awake []=some [.bool true]:=by
 have h1:CC F_semigrouplaw10_odd []=some (daR oddD):=f_semigrouplaw10_odd_of rfl
 have h2:=Superwords_pre odd_ok (X:=hasD) (e:=0) (n:=⟨2,2,1,2,oddS⟩) (by rw[odd_min];decide) (by rw[odd_min];exact odd_lang)
 refine f_semigrouplaw10_awake_of ?_
 unfold f_semigrouplaw10_awake
 refine bs h1 ?_
 refine bs h2 ?_
 refine bT rfl (bT (by decide) ?_)
 refine bs (Accepts_spec has_ok (w:=[98,97,97]) (by decide)) ?_
 refine bT (by decide) ?_
 refine bs (Accepts_spec has_ok (w:=[98,98]) (by decide)) ?_
 rw[show hasD.acc hasD.st (lets [98,98])=false by decide]
 rfl
end Go.AM
set_option maxRecDepth 100000
namespace Go.AM
open Go.Proofs
noncomputable def f_semigrouplaw10_LangMorgan (C:CallF) (a_0 a_1:Int) (a_2 a_3:List V) (b'_0 b'_1:Int) (b'_2 b'_3:List V) (c_0 c_1:Int) (c_2 c_3:List V):Option (List V):=
 (C F_semigrouplaw10_both [.int .i64 a_0,.int .i64 a_1,.list T_bool a_2,.list T_l_int a_3,.int .i64 b'_0,.int .i64 b'_1,.list T_bool b'_2,.list T_l_int b'_3,.int .i64 4]).bind fun r1=>
 bif !((V.nth r1 0).toBool) then
  (C F_semigrouplaw10_awake []).bind fun r2=>
  some [.bool ((V.nth r2 0).toBool)]
 else
  (C F_semigrouplaw10_both [.int .i64 b'_0,.int .i64 b'_1,.list T_bool b'_2,.list T_l_int b'_3,.int .i64 c_0,.int .i64 c_1,.list T_bool c_2,.list T_l_int c_3,.int .i64 4]).bind fun r3=>
  bif !((V.nth r3 0).toBool) then
  (C F_semigrouplaw10_awake []).bind fun r4=>
  some [.bool ((V.nth r4 0).toBool)]
  else
  (C F_lang_Combine [.int .i64 a_0,.int .i64 a_1,.list T_bool a_2,.list T_l_int a_3,.int .i64 b'_0,.int .i64 b'_1,.list T_bool b'_2,.list T_l_int b'_3,.int .i64 1]).bind fun r5=>
  (C F_dfa_Complement [.int .i64 a_0,.int .i64 a_1,.list T_bool a_2,.list T_l_int a_3]).bind fun r6=>
  (C F_dfa_Complement [.int .i64 b'_0,.int .i64 b'_1,.list T_bool b'_2,.list T_l_int b'_3]).bind fun r7=>
  (C F_lang_Combine [.int .i64 ((V.nth r6 0).toInt),.int .i64 ((V.nth (r6.drop 1) 0).toInt),.list T_bool ((V.nth (r6.drop 2) 0).toList),.list T_l_int ((V.nth ((r6.drop 2).drop 1) 0).toList),.int .i64 ((V.nth r7 0).toInt),.int .i64 ((V.nth (r7.drop 1) 0).toInt),.list T_bool ((V.nth (r7.drop 2) 0).toList),.list T_l_int ((V.nth ((r7.drop 2).drop 1) 0).toList),.int .i64 8]).bind fun r8=>
  (C F_lang_Combine [.int .i64 b'_0,.int .i64 b'_1,.list T_bool b'_2,.list T_l_int b'_3,.int .i64 c_0,.int .i64 c_1,.list T_bool c_2,.list T_l_int c_3,.int .i64 14]).bind fun r9=>
  (C F_lang_Combine [.int .i64 a_0,.int .i64 a_1,.list T_bool a_2,.list T_l_int a_3,.int .i64 b'_0,.int .i64 b'_1,.list T_bool b'_2,.list T_l_int b'_3,.int .i64 8]).bind fun r10=>
  (C F_lang_Combine [.int .i64 a_0,.int .i64 a_1,.list T_bool a_2,.list T_l_int a_3,.int .i64 c_0,.int .i64 c_1,.list T_bool c_2,.list T_l_int c_3,.int .i64 8]).bind fun r11=>
  bif (((V.nth (r5.drop 2) 0).toInt):Int) != 0 then
   some [.bool false]
  else
   bif (((V.nth (r8.drop 2) 0).toInt):Int) != 0 then
   some [.bool false]
   else
   bif (((V.nth (r9.drop 2) 0).toInt):Int) != 0 then
    some [.bool false]
   else
    bif (((V.nth (r10.drop 2) 0).toInt):Int) != 0 then
    some [.bool false]
    else
    bif (((V.nth (r11.drop 2) 0).toInt):Int) != 0 then
     some [.bool false]
    else
     (C F_dfa_Validate [.int .i64 ((V.nth r5 0).toInt),.int .i64 ((V.nth (r5.drop 1) 0).toInt),.list T_bool ((V.nth (r5.drop 3) 0).toList),.list T_l_int ((V.nth ((r5.drop 3).drop 1) 0).toList)]).bind fun r12=>
     bif (((V.nth r12 0).toInt):Int) != 0 then
     some [.bool false]
     else
     (C F_semigroupref07_Same [.int .i64 ((V.nth r5 0).toInt),.int .i64 ((V.nth (r5.drop 1) 0).toInt),.list T_bool ((V.nth (r5.drop 3) 0).toList),.list T_l_int ((V.nth ((r5.drop 3).drop 1) 0).toList),.int .i64 ((V.nth r8 0).toInt),.int .i64 ((V.nth (r8.drop 1) 0).toInt),.list T_bool ((V.nth (r8.drop 3) 0).toList),.list T_l_int ((V.nth ((r8.drop 3).drop 1) 0).toList)]).bind fun r13=>
     bif !((V.nth r13 0).toBool) then
      some [.bool false]
     else
      (C F_lang_Combine [.int .i64 a_0,.int .i64 a_1,.list T_bool a_2,.list T_l_int a_3,.int .i64 ((V.nth r9 0).toInt),.int .i64 ((V.nth (r9.drop 1) 0).toInt),.list T_bool ((V.nth (r9.drop 3) 0).toList),.list T_l_int ((V.nth ((r9.drop 3).drop 1) 0).toList),.int .i64 8]).bind fun r14=>
      (C F_lang_Combine [.int .i64 ((V.nth r10 0).toInt),.int .i64 ((V.nth (r10.drop 1) 0).toInt),.list T_bool ((V.nth (r10.drop 3) 0).toList),.list T_l_int ((V.nth ((r10.drop 3).drop 1) 0).toList),.int .i64 ((V.nth r11 0).toInt),.int .i64 ((V.nth (r11.drop 1) 0).toInt),.list T_bool ((V.nth (r11.drop 3) 0).toList),.list T_l_int ((V.nth ((r11.drop 3).drop 1) 0).toList),.int .i64 14]).bind fun r15=>
      bif (((V.nth (r14.drop 2) 0).toInt):Int)==0 then
      bif (((V.nth (r15.drop 2) 0).toInt):Int)==0 then
       (C F_dfa_Validate [.int .i64 ((V.nth r14 0).toInt),.int .i64 ((V.nth (r14.drop 1) 0).toInt),.list T_bool ((V.nth (r14.drop 3) 0).toList),.list T_l_int ((V.nth ((r14.drop 3).drop 1) 0).toList)]).bind fun r16=>
       bif (((V.nth r16 0).toInt):Int)==0 then
       (C F_semigroupref07_Same [.int .i64 ((V.nth r14 0).toInt),.int .i64 ((V.nth (r14.drop 1) 0).toInt),.list T_bool ((V.nth (r14.drop 3) 0).toList),.list T_l_int ((V.nth ((r14.drop 3).drop 1) 0).toList),.int .i64 ((V.nth r15 0).toInt),.int .i64 ((V.nth (r15.drop 1) 0).toInt),.list T_bool ((V.nth (r15.drop 3) 0).toList),.list T_l_int ((V.nth ((r15.drop 3).drop 1) 0).toList)]).bind fun r17=>
       bif (V.nth r17 0).toBool then
        (C F_semigrouplaw10_awake []).bind fun r18=>
        some [.bool ((V.nth r18 0).toBool)]
       else
        some [.bool false]
       else
       some [.bool false]
      else
       some [.bool false]
      else
      some [.bool false]
theorem f_semigrouplaw10_LangMorgan_of {a_0 a_1:Int} {a_2 a_3:List V} {b'_0 b'_1:Int} {b'_2 b'_3:List V} {c_0 c_1:Int} {c_2 c_3:List V} {r:Option (List V)} (h:f_semigrouplaw10_LangMorgan CC a_0 a_1 a_2 a_3 b'_0 b'_1 b'_2 b'_3 c_0 c_1 c_2 c_3=r):CC F_semigrouplaw10_LangMorgan [.int .i64 a_0,.int .i64 a_1,.list T_bool a_2,.list T_l_int a_3,.int .i64 b'_0,.int .i64 b'_1,.list T_bool b'_2,.list T_l_int b'_3,.int .i64 c_0,.int .i64 c_1,.list T_bool c_2,.list T_l_int c_3]=r:=
 func_of (key:=9) (L:=LT0) (bs:=[]) (by kernel_rfl) tells_nil (Eq.trans (by kernel_rfl) h)
end Go.AM
set_option maxRecDepth 100000
set_option linter.unusedSimpArgs false
namespace Go.AM
open Go.Proofs
section
variable {a b:Da} (ha:a.Ok) (hb:b.Ok) (hL:a.L=b.L)
include ha hb hL
theorem combD_le {op:Nat} (hn: ¬prodOver (minD a) (minD b)):(combD a b op).n≤a.n*b.n:=by
 have h1:=minD_le (prodD_ok (op:=op) (minD_ok ha) (minD_ok hb) (min_L2 ha hb hL) hn)
 have h2:=prodU_done (minD_ok ha) (minD_ok hb) (min_L2 ha hb hL) ((minD a).n*(minD b).n)
 have h3:(prodD (minD a) (minD b) op).n=(prodU (minD a) (minD b)).length:=by simp[prodD,daOf,Da.n]
 have h4:(minD a).n*(minD b).n≤a.n*b.n:=Nat.mul_le_mul (minD_le ha) (minD_le hb)
 unfold combD
 unfold prodU at h3
 omega
theorem comb_congr {c d:Da} {o1 o2:Nat} (hn: ¬prodOver (minD a) (minD b)) (hc:c.Ok) (hd:d.Ok) (hL2:c.L=d.L) (hL3:a.L=c.L) (hn2: ¬prodOver (minD c) (minD d)) (h: ∀w,WL a.L w→byOp o1 (a.acc a.st w) (b.acc b.st w)=byOp o2 (c.acc c.st w) (d.acc d.st w)):combD a b o1=combD c d o2:=by
 have k1:=prodD_ok (op:=o1) (minD_ok ha) (minD_ok hb) (min_L2 ha hb hL) hn
 have k2:=prodD_ok (op:=o2) (minD_ok hc) (minD_ok hd) (min_L2 hc hd hL2) hn2
 have l1:(prodD (minD a) (minD b) o1).L=a.L:=minD_L ha
 have l2:(prodD (minD c) (minD d) o2).L=c.L:=minD_L hc
 refine minD_congr k1 k2 (by rw[l1,l2,hL3]) fun w hw=> ?_
 rw[l1] at hw
 have e1:=combD_acc ha hb hL (op:=o1) hn hw
 have e2:=combD_acc hc hd hL2 (op:=o2) hn2 (hL3▸hw)
 unfold combD at e1 e2
 rw[minD_acc k1 (by rw[l1];exact hw)] at e1
 rw[minD_acc k2 (by rw[l2,←hL3];exact hw)] at e2
 rw[e1,e2,h w hw]
end
theorem langMorgan (d:Df) (hd:d.Ok) (e:Df) (he:e.Ok) (f:Df) (hf:f.Ok):CC F_semigrouplaw10_LangMorgan (dfaA d (dfaA e (dfaA f [])))=some [.bool true]:=by
 have hB1:=lboth10 hd he 4
 have hB2:=lboth10 he hf 4
 by_cases h1:(d.F.length:Int)≤4∧(e.F.length:Int)≤4∧pairVal d e=0
 case neg=>
  rw[decide_eq_false h1] at hB1
  refine f_semigrouplaw10_LangMorgan_of ?_
  unfold f_semigrouplaw10_LangMorgan
  exact bs hB1 (bT rfl (bs awake10 rfl))
 rw[decide_eq_true h1] at hB1
 by_cases h2:(e.F.length:Int)≤4∧(f.F.length:Int)≤4∧pairVal e f=0
 case neg=>
  rw[decide_eq_false h2] at hB2
  refine f_semigrouplaw10_LangMorgan_of ?_
  unfold f_semigrouplaw10_LangMorgan
  refine bs hB1 (bF rfl ?_)
  exact bs hB2 (bT rfl (bs awake10 rfl))
 rw[decide_eq_true h2] at hB2
 obtain ⟨a,b,ha,hb,hL,rfl,rfl⟩:=pair_of h1.2.2
 obtain ⟨b',c,_,hc,hL2,hbb,rfl⟩:=pair_of h2.2.2
 have n1:(a.n:Int)≤4:=h1.1
 have n2:(b.n:Int)≤4:=h1.2.1
 have n3:(c.n:Int)≤4:=h2.2.1
 have hL2:b.L=c.L:=by
  have:(b.df.L:Int)=b'.df.L:=by rw[hbb]
  have e1:(b.L:Int)=(b'.L:Int):=this
  omega
 have la:=ha.leaves
 have lb:=hb.leaves
 have lc:=hc.leaves
 have hca:=ha.setF (f:=fun q=> !(a.fin q))
 have hcb:=hb.setF (f:=fun q=> !(b.fin q))
 have o1:=small_not_over ha hb hL (m:=4) (by omega) (by omega) (by omega)
 have o2:=small_not_over hca hcb hL (m:=4) (by rw[Da.setF_n];omega) (by rw[Da.setF_n];omega) (by omega)
 have o3:=small_not_over hb hc hL2 (m:=4) (by omega) (by omega) (by omega)
 have o4:=small_not_over ha hc (hL.trans hL2) (m:=4) (by omega) (by omega) (by omega)
 have k1:=combD_ok ha hb hL (op:=1) o1
 have k3:=combD_ok hb hc hL2 (op:=14) o3
 have k4:=combD_ok ha hb hL (op:=8) o1
 have k5:=combD_ok ha hc (hL.trans hL2) (op:=8) o4
 have L3:=combD_L hb hc hL2 (op:=14) o3
 have L4:=combD_L ha hb hL (op:=8) o1
 have L5:=combD_L ha hc (hL.trans hL2) (op:=8) o4
 have s3:(combD b c 14).n≤16:=Nat.le_trans (combD_le hb hc hL2 o3) (Nat.mul_le_mul (show b.n≤4 by omega) (show c.n≤4 by omega))
 have s4:(combD a b 8).n≤16:=Nat.le_trans (combD_le ha hb hL o1) (Nat.mul_le_mul (show a.n≤4 by omega) (show b.n≤4 by omega))
 have s5:(combD a c 8).n≤16:=Nat.le_trans (combD_le ha hc (hL.trans hL2) o4) (Nat.mul_le_mul (show a.n≤4 by omega) (show c.n≤4 by omega))
 have L6:a.L=(combD b c 14).L:=by rw[L3,hL]
 have L7:(combD a b 8).L=(combD a c 8).L:=by rw[L4,L5]
 have o6:=small_not_over ha k3 L6 (m:=16) (by omega) (by omega) (by omega)
 have o7:=small_not_over k4 k5 L7 (m:=16) (by omega) (by omega) (by omega)
 have k6:=combD_ok ha k3 L6 (op:=8) o6
 have q1:combD (a.setF fun q=> !(a.fin q)) (b.setF fun q=> !(b.fin q)) 8=combD a b 1:=by
  refine comb_congr hca hcb hL o2 ha hb hL rfl o1 fun w hw=> ?_
  have hwb:WL b.L w:=hL▸hw
  have x1:(a.setF fun q=> !(a.fin q)).acc (a.setF fun q=> !(a.fin q)).st w= !(a.acc a.st w):=Da.setF_acc ha ha.s hw
  have x2:(b.setF fun q=> !(b.fin q)).acc (b.setF fun q=> !(b.fin q)).st w= !(b.acc b.st w):=Da.setF_acc hb hb.s hwb
  rw[x1,x2]
  cases a.acc a.st w<;>cases b.acc b.st w<;>decide
 have q2:combD (combD a b 8) (combD a c 8) 14=combD a (combD b c 14) 8:=by
  refine comb_congr k4 k5 L7 o7 ha k3 L6 L4 o6 fun w hw=> ?_
  rw[L4] at hw
  rw[combD_acc ha hb hL o1 hw,combD_acc ha hc (hL.trans hL2) o4 hw,combD_acc hb hc hL2 o3 (hL▸hw)]
  cases a.acc a.st w<;>cases b.acc b.st w<;>cases c.acc c.st w<;>decide
 have r1:=Combine_ok ha hb hL (op:=1) (by omega) o1
 have r2:=Combine_ok hca hcb hL (op:=8) (by omega) o2
 have r3:=Combine_ok hb hc hL2 (op:=14) (by omega) o3
 have r4:=Combine_ok ha hb hL (op:=8) (by omega) o1
 have r5:=Combine_ok ha hc (hL.trans hL2) (op:=8) (by omega) o4
 have r6:=Combine_ok ha k3 L6 (op:=8) (by omega) o6
 have r7:=Combine_ok k4 k5 L7 (op:=14) (by omega) o7
 have c1:=Complement_spec ha
 have c2:=Complement_spec hb
 have v1:=dfaValidate_spec k1.df_ok
 have v6:=dfaValidate_spec k6.df_ok
 rw[k1.val,k1.leaves] at v1
 rw[k6.val,k6.leaves] at v6
 rw[q1] at r2
 rw[q2] at r7
 rw[la,lb,lc]
 rw[la,lb] at hB1
 rw[lb,lc] at hB2
 refine f_semigrouplaw10_LangMorgan_of ?_
 unfold f_semigrouplaw10_LangMorgan
 refine bs hB1 (bF rfl ?_)
 refine bs hB2 (bF rfl ?_)
 refine bs r1 ?_
 refine bs c1 ?_
 refine bs c2 ?_
 refine bs r2 ?_
 refine bs r3 ?_
 refine bs r4 ?_
 refine bs r5 ?_
 refine bF rfl (bF rfl (bF rfl (bF rfl (bF rfl ?_))))
 refine bs v1 (bF rfl ?_)
 refine bs k1.same (bF rfl ?_)
 refine bs r6 ?_
 refine bs r7 ?_
 refine bT rfl (bT rfl ?_)
 refine bs v6 (bT rfl ?_)
 refine bs k6.same (bT rfl ?_)
 exact bs awake10 rfl
end Go.AM
