/-
  Functions of the program, lifted to plain data.
-/
import Derived.Test.YtmcdbnalaobmpaaDoorP5
set_option linter.unusedVariables false
set_option linter.unusedSimpArgs false
set_option maxRecDepth 100000
namespace Go.AM
open Go.Proofs
noncomputable abbrev B_slices_pdqsortCmpFunc_api_Edge__k169:Code:=bodyOf Tryd.prog (ann.fid 169)
noncomputable def s_slices_pdqsortCmpFunc_api_Edge__k169_1 (C:CallF) (a b' limit:Int) (wasBalanced wasPartitioned:Bool) (length:Int) (t39:Bool) (datas:List V) {β:Type} (kr:(Int × (List V))→Option β):Option β:=
 bif t39 then
  (C K_slices_breakPatternsCmpFunc_api_Edge__k172 [.int .i64 a,.int .i64 b',.list T_api_Edge datas]).bind fun r3=>
  kr (IntKind.wrap .i64 (limit-1),(V.nth r3 0).toList)
 else
  kr (limit,datas)
noncomputable def s_slices_pdqsortCmpFunc_api_Edge__k169_2 (C:CallF) (a b' limit:Int) (wasBalanced wasPartitioned:Bool) (length pivot hint:Int) (t56:Bool) (datas:List V) {β:Type} (kr:(Int × Int × (List V))→Option β):Option β:=
 bif t56 then
  (C K_slices_reverseRangeCmpFunc_api_Edge__k179 [.int .i64 a,.int .i64 b',.list T_api_Edge datas]).bind fun r7=>
  kr (IntKind.wrap .i64 ((IntKind.wrap .i64 (b'-1))-(IntKind.wrap .i64 (pivot-a))),1,(V.nth r7 0).toList)
 else
  kr (pivot,hint,datas)
noncomputable def s_slices_pdqsortCmpFunc_api_Edge__k169_3 (C:CallF) (a b' limit:Int) (wasBalanced wasPartitioned:Bool) (length pivot:Int) (t75:Bool) (datas:List V) {β:Type} (kr:((Bool × (List V)) ⊕ (List V))→Option β):Option β:=
 bif t75 then
  (C K_slices_partialInsertionSortCmpFunc_api_Edge__k180 [.int .i64 a,.int .i64 b',.list T_api_Edge datas]).bind fun r11=>
  bif (V.nth r11 0).toBool then
  kr (.inl ((V.nth r11 0).toBool,(V.nth (r11.drop 1) 0).toList))
  else
  kr (.inr ((V.nth (r11.drop 1) 0).toList))
 else
  kr (.inr datas)
noncomputable def s_slices_pdqsortCmpFunc_api_Edge__k169_4 (C:CallF) (a b' limit:Int) (wasBalanced wasPartitioned:Bool) (datas:List V) {β:Type} (kn:(Int × Int × Int × Bool × Bool × (List V))→Option β) (kr:(List V)→Option β):Option β:=
 bif decide (((IntKind.wrap .i64 (b'-a)):Int)≤12) then
  (C K_slices_insertionSortCmpFunc_api_Edge__k170 [.int .i64 a,.int .i64 b',.list T_api_Edge datas]).bind fun r1=>
  kr ((V.nth r1 0).toList)
 else
  bif (limit:Int)==0 then
  (C K_slices_heapSortCmpFunc_api_Edge__k171 [.int .i64 a,.int .i64 b',.list T_api_Edge datas]).bind fun r2=>
  kr ((V.nth r2 0).toList)
  else
  s_slices_pdqsortCmpFunc_api_Edge__k169_1 C a b' limit wasBalanced wasPartitioned (IntKind.wrap .i64 (b'-a)) (!wasBalanced) datas (un fun (limit_4:Int) (datas_5:List V)=>
   (C K_slices_choosePivotCmpFunc_api_Edge__k173 [.list T_api_Edge datas_5,.int .i64 a,.int .i64 b']).bind fun r6=>
   s_slices_pdqsortCmpFunc_api_Edge__k169_2 C a b' limit_4 wasBalanced wasPartitioned (IntKind.wrap .i64 (b'-a)) ((V.nth r6 0).toInt) ((V.nth (r6.drop 1) 0).toInt) ((((V.nth (r6.drop 1) 0).toInt):Int)==2) datas_5 (un fun (pivot_8:Int)=>un fun (hint_9:Int) (datas_10:List V)=>
    bif wasBalanced then
     bif wasPartitioned then
     s_slices_pdqsortCmpFunc_api_Edge__k169_3 C a b' limit_4 wasBalanced wasPartitioned (IntKind.wrap .i64 (b'-a)) pivot_8 ((hint_9:Int)==1) datas_10 (way2 (un fun (t_12:Bool) (datas_13:List V)=>
      kr datas_13) (fun (datas_14:List V)=>
      bif decide ((a:Int)>0) then
       bif (decide (0≤(IntKind.wrap .i64 (a-1))))&&(decide ((IntKind.wrap .i64 (a-1))<(datas_14.length:Int))) then
       (datas_14[(IntKind.wrap .i64 (a-1):Int).toNat]?).bind fun x15=>
       bif (decide (0≤pivot_8))&&(decide (pivot_8<(datas_14.length:Int))) then
        (datas_14[(pivot_8:Int).toNat]?).bind fun x16=>
        (C F_lang_automaton_language_1 [.int .i64 ((x15.cell 0).toInt),.int .i64 ((x15.cell 1).toInt),.int .i64 ((x15.cell 2).toInt),.int .i64 ((x16.cell 0).toInt),.int .i64 ((x16.cell 1).toInt),.int .i64 ((x16.cell 2).toInt)]).bind fun r17=>
        bif !(decide ((((V.nth r17 0).toInt):Int)<0)) then
        (C K_slices_partitionEqualCmpFunc_api_Edge__k182 [.int .i64 a,.int .i64 b',.int .i64 pivot_8,.list T_api_Edge datas_14]).bind fun r18=>
        kn ((V.nth r18 0).toInt,b',limit_4,wasBalanced,wasPartitioned,(V.nth (r18.drop 1) 0).toList)
        else
        (C K_slices_partitionCmpFunc_api_Edge__k181 [.int .i64 a,.int .i64 b',.int .i64 pivot_8,.list T_api_Edge datas_14]).bind fun r19=>
        bif decide (((IntKind.wrap .i64 (((V.nth r19 0).toInt)-a)):Int)<(IntKind.wrap .i64 (b'-((V.nth r19 0).toInt)))) then
         (C K_slices_pdqsortCmpFunc_api_Edge__k169 [.int .i64 a,.int .i64 ((V.nth r19 0).toInt),.int .i64 limit_4,.list T_api_Edge ((V.nth (r19.drop 2) 0).toList)]).bind fun r20=>
         kn (IntKind.wrap .i64 (((V.nth r19 0).toInt)+1),b',limit_4,decide (((IntKind.wrap .i64 (((V.nth r19 0).toInt)-a)):Int)≥(IntKind.wrap .i64 (Int.tdiv (IntKind.wrap .i64 (b'-a)) 8))),(V.nth (r19.drop 1) 0).toBool,(V.nth r20 0).toList)
        else
         (C K_slices_pdqsortCmpFunc_api_Edge__k169 [.int .i64 (IntKind.wrap .i64 (((V.nth r19 0).toInt)+1)),.int .i64 b',.int .i64 limit_4,.list T_api_Edge ((V.nth (r19.drop 2) 0).toList)]).bind fun r21=>
         kn (a,(V.nth r19 0).toInt,limit_4,decide (((IntKind.wrap .i64 (b'-((V.nth r19 0).toInt))):Int)≥(IntKind.wrap .i64 (Int.tdiv (IntKind.wrap .i64 (b'-a)) 8))),(V.nth (r19.drop 1) 0).toBool,(V.nth r21 0).toList)
       else none
       else none
      else
       (C K_slices_partitionCmpFunc_api_Edge__k181 [.int .i64 a,.int .i64 b',.int .i64 pivot_8,.list T_api_Edge datas_14]).bind fun r22=>
       bif decide (((IntKind.wrap .i64 (((V.nth r22 0).toInt)-a)):Int)<(IntKind.wrap .i64 (b'-((V.nth r22 0).toInt)))) then
       (C K_slices_pdqsortCmpFunc_api_Edge__k169 [.int .i64 a,.int .i64 ((V.nth r22 0).toInt),.int .i64 limit_4,.list T_api_Edge ((V.nth (r22.drop 2) 0).toList)]).bind fun r23=>
       kn (IntKind.wrap .i64 (((V.nth r22 0).toInt)+1),b',limit_4,decide (((IntKind.wrap .i64 (((V.nth r22 0).toInt)-a)):Int)≥(IntKind.wrap .i64 (Int.tdiv (IntKind.wrap .i64 (b'-a)) 8))),(V.nth (r22.drop 1) 0).toBool,(V.nth r23 0).toList)
       else
       (C K_slices_pdqsortCmpFunc_api_Edge__k169 [.int .i64 (IntKind.wrap .i64 (((V.nth r22 0).toInt)+1)),.int .i64 b',.int .i64 limit_4,.list T_api_Edge ((V.nth (r22.drop 2) 0).toList)]).bind fun r24=>
       kn (a,(V.nth r22 0).toInt,limit_4,decide (((IntKind.wrap .i64 (b'-((V.nth r22 0).toInt))):Int)≥(IntKind.wrap .i64 (Int.tdiv (IntKind.wrap .i64 (b'-a)) 8))),(V.nth (r22.drop 1) 0).toBool,(V.nth r24 0).toList)))
     else
     s_slices_pdqsortCmpFunc_api_Edge__k169_3 C a b' limit_4 wasBalanced wasPartitioned (IntKind.wrap .i64 (b'-a)) pivot_8 false datas_10 (way2 (un fun (t_25:Bool) (datas_26:List V)=>
      kr datas_26) (fun (datas_27:List V)=>
      bif decide ((a:Int)>0) then
       bif (decide (0≤(IntKind.wrap .i64 (a-1))))&&(decide ((IntKind.wrap .i64 (a-1))<(datas_27.length:Int))) then
       (datas_27[(IntKind.wrap .i64 (a-1):Int).toNat]?).bind fun x28=>
       bif (decide (0≤pivot_8))&&(decide (pivot_8<(datas_27.length:Int))) then
        (datas_27[(pivot_8:Int).toNat]?).bind fun x29=>
        (C F_lang_automaton_language_1 [.int .i64 ((x28.cell 0).toInt),.int .i64 ((x28.cell 1).toInt),.int .i64 ((x28.cell 2).toInt),.int .i64 ((x29.cell 0).toInt),.int .i64 ((x29.cell 1).toInt),.int .i64 ((x29.cell 2).toInt)]).bind fun r30=>
        bif !(decide ((((V.nth r30 0).toInt):Int)<0)) then
        (C K_slices_partitionEqualCmpFunc_api_Edge__k182 [.int .i64 a,.int .i64 b',.int .i64 pivot_8,.list T_api_Edge datas_27]).bind fun r31=>
        kn ((V.nth r31 0).toInt,b',limit_4,wasBalanced,wasPartitioned,(V.nth (r31.drop 1) 0).toList)
        else
        (C K_slices_partitionCmpFunc_api_Edge__k181 [.int .i64 a,.int .i64 b',.int .i64 pivot_8,.list T_api_Edge datas_27]).bind fun r32=>
        bif decide (((IntKind.wrap .i64 (((V.nth r32 0).toInt)-a)):Int)<(IntKind.wrap .i64 (b'-((V.nth r32 0).toInt)))) then
         (C K_slices_pdqsortCmpFunc_api_Edge__k169 [.int .i64 a,.int .i64 ((V.nth r32 0).toInt),.int .i64 limit_4,.list T_api_Edge ((V.nth (r32.drop 2) 0).toList)]).bind fun r33=>
         kn (IntKind.wrap .i64 (((V.nth r32 0).toInt)+1),b',limit_4,decide (((IntKind.wrap .i64 (((V.nth r32 0).toInt)-a)):Int)≥(IntKind.wrap .i64 (Int.tdiv (IntKind.wrap .i64 (b'-a)) 8))),(V.nth (r32.drop 1) 0).toBool,(V.nth r33 0).toList)
        else
         (C K_slices_pdqsortCmpFunc_api_Edge__k169 [.int .i64 (IntKind.wrap .i64 (((V.nth r32 0).toInt)+1)),.int .i64 b',.int .i64 limit_4,.list T_api_Edge ((V.nth (r32.drop 2) 0).toList)]).bind fun r34=>
         kn (a,(V.nth r32 0).toInt,limit_4,decide (((IntKind.wrap .i64 (b'-((V.nth r32 0).toInt))):Int)≥(IntKind.wrap .i64 (Int.tdiv (IntKind.wrap .i64 (b'-a)) 8))),(V.nth (r32.drop 1) 0).toBool,(V.nth r34 0).toList)
       else none
       else none
      else
       (C K_slices_partitionCmpFunc_api_Edge__k181 [.int .i64 a,.int .i64 b',.int .i64 pivot_8,.list T_api_Edge datas_27]).bind fun r35=>
       bif decide (((IntKind.wrap .i64 (((V.nth r35 0).toInt)-a)):Int)<(IntKind.wrap .i64 (b'-((V.nth r35 0).toInt)))) then
       (C K_slices_pdqsortCmpFunc_api_Edge__k169 [.int .i64 a,.int .i64 ((V.nth r35 0).toInt),.int .i64 limit_4,.list T_api_Edge ((V.nth (r35.drop 2) 0).toList)]).bind fun r36=>
       kn (IntKind.wrap .i64 (((V.nth r35 0).toInt)+1),b',limit_4,decide (((IntKind.wrap .i64 (((V.nth r35 0).toInt)-a)):Int)≥(IntKind.wrap .i64 (Int.tdiv (IntKind.wrap .i64 (b'-a)) 8))),(V.nth (r35.drop 1) 0).toBool,(V.nth r36 0).toList)
       else
       (C K_slices_pdqsortCmpFunc_api_Edge__k169 [.int .i64 (IntKind.wrap .i64 (((V.nth r35 0).toInt)+1)),.int .i64 b',.int .i64 limit_4,.list T_api_Edge ((V.nth (r35.drop 2) 0).toList)]).bind fun r37=>
       kn (a,(V.nth r35 0).toInt,limit_4,decide (((IntKind.wrap .i64 (b'-((V.nth r35 0).toInt))):Int)≥(IntKind.wrap .i64 (Int.tdiv (IntKind.wrap .i64 (b'-a)) 8))),(V.nth (r35.drop 1) 0).toBool,(V.nth r37 0).toList)))
    else
     s_slices_pdqsortCmpFunc_api_Edge__k169_3 C a b' limit_4 wasBalanced wasPartitioned (IntKind.wrap .i64 (b'-a)) pivot_8 false datas_10 (way2 (un fun (t_38:Bool) (datas_39:List V)=>
      kr datas_39) (fun (datas_40:List V)=>
      bif decide ((a:Int)>0) then
      bif (decide (0≤(IntKind.wrap .i64 (a-1))))&&(decide ((IntKind.wrap .i64 (a-1))<(datas_40.length:Int))) then
       (datas_40[(IntKind.wrap .i64 (a-1):Int).toNat]?).bind fun x41=>
       bif (decide (0≤pivot_8))&&(decide (pivot_8<(datas_40.length:Int))) then
       (datas_40[(pivot_8:Int).toNat]?).bind fun x42=>
       (C F_lang_automaton_language_1 [.int .i64 ((x41.cell 0).toInt),.int .i64 ((x41.cell 1).toInt),.int .i64 ((x41.cell 2).toInt),.int .i64 ((x42.cell 0).toInt),.int .i64 ((x42.cell 1).toInt),.int .i64 ((x42.cell 2).toInt)]).bind fun r43=>
       bif !(decide ((((V.nth r43 0).toInt):Int)<0)) then
        (C K_slices_partitionEqualCmpFunc_api_Edge__k182 [.int .i64 a,.int .i64 b',.int .i64 pivot_8,.list T_api_Edge datas_40]).bind fun r44=>
        kn ((V.nth r44 0).toInt,b',limit_4,wasBalanced,wasPartitioned,(V.nth (r44.drop 1) 0).toList)
       else
        (C K_slices_partitionCmpFunc_api_Edge__k181 [.int .i64 a,.int .i64 b',.int .i64 pivot_8,.list T_api_Edge datas_40]).bind fun r45=>
        bif decide (((IntKind.wrap .i64 (((V.nth r45 0).toInt)-a)):Int)<(IntKind.wrap .i64 (b'-((V.nth r45 0).toInt)))) then
        (C K_slices_pdqsortCmpFunc_api_Edge__k169 [.int .i64 a,.int .i64 ((V.nth r45 0).toInt),.int .i64 limit_4,.list T_api_Edge ((V.nth (r45.drop 2) 0).toList)]).bind fun r46=>
        kn (IntKind.wrap .i64 (((V.nth r45 0).toInt)+1),b',limit_4,decide (((IntKind.wrap .i64 (((V.nth r45 0).toInt)-a)):Int)≥(IntKind.wrap .i64 (Int.tdiv (IntKind.wrap .i64 (b'-a)) 8))),(V.nth (r45.drop 1) 0).toBool,(V.nth r46 0).toList)
        else
        (C K_slices_pdqsortCmpFunc_api_Edge__k169 [.int .i64 (IntKind.wrap .i64 (((V.nth r45 0).toInt)+1)),.int .i64 b',.int .i64 limit_4,.list T_api_Edge ((V.nth (r45.drop 2) 0).toList)]).bind fun r47=>
        kn (a,(V.nth r45 0).toInt,limit_4,decide (((IntKind.wrap .i64 (b'-((V.nth r45 0).toInt))):Int)≥(IntKind.wrap .i64 (Int.tdiv (IntKind.wrap .i64 (b'-a)) 8))),(V.nth (r45.drop 1) 0).toBool,(V.nth r47 0).toList)
       else none
      else none
      else
      (C K_slices_partitionCmpFunc_api_Edge__k181 [.int .i64 a,.int .i64 b',.int .i64 pivot_8,.list T_api_Edge datas_40]).bind fun r48=>
      bif decide (((IntKind.wrap .i64 (((V.nth r48 0).toInt)-a)):Int)<(IntKind.wrap .i64 (b'-((V.nth r48 0).toInt)))) then
       (C K_slices_pdqsortCmpFunc_api_Edge__k169 [.int .i64 a,.int .i64 ((V.nth r48 0).toInt),.int .i64 limit_4,.list T_api_Edge ((V.nth (r48.drop 2) 0).toList)]).bind fun r49=>
       kn (IntKind.wrap .i64 (((V.nth r48 0).toInt)+1),b',limit_4,decide (((IntKind.wrap .i64 (((V.nth r48 0).toInt)-a)):Int)≥(IntKind.wrap .i64 (Int.tdiv (IntKind.wrap .i64 (b'-a)) 8))),(V.nth (r48.drop 1) 0).toBool,(V.nth r49 0).toList)
      else
       (C K_slices_pdqsortCmpFunc_api_Edge__k169 [.int .i64 (IntKind.wrap .i64 (((V.nth r48 0).toInt)+1)),.int .i64 b',.int .i64 limit_4,.list T_api_Edge ((V.nth (r48.drop 2) 0).toList)]).bind fun r50=>
       kn (a,(V.nth r48 0).toInt,limit_4,decide (((IntKind.wrap .i64 (b'-((V.nth r48 0).toInt))):Int)≥(IntKind.wrap .i64 (Int.tdiv (IntKind.wrap .i64 (b'-a)) 8))),(V.nth (r48.drop 1) 0).toBool,(V.nth r50 0).toList)))))
noncomputable def s_slices_pdqsortCmpFunc_api_Edge__k169_4L (C:CallF):(Int × Int × Int × Bool × Bool × (List V))→Option ((Int × Int × Int × Bool × Bool × (List V)) ⊕ (List V)):=un fun a=>un fun b'=>un fun limit=>un fun wasBalanced=>un fun wasPartitioned datas=>s_slices_pdqsortCmpFunc_api_Edge__k169_4 C a b' limit wasBalanced wasPartitioned datas (fun y=>some (.inl y)) (fun r=>some (.inr r))
noncomputable def LT_slices_pdqsortCmpFunc_api_Edge__k169 (C:CallF):LTab:=fun β n ds k=>
 bif Nat.beq n 639 then condS S169_639 [[1,2,0,4,5,6,0]] (@s_slices_pdqsortCmpFunc_api_Edge__k169_1 C) ds k else
 bif Nat.beq n 911 then condS S169_911 [[1,2,3,4,5,6,0,0,0]] (@s_slices_pdqsortCmpFunc_api_Edge__k169_2 C) ds k else
 bif Nat.beq n 1215 then condS S169_1215 [[1,2,3,4,5,6,7,0,0],[1,2,3,4,5,6,7,0]] (@s_slices_pdqsortCmpFunc_api_Edge__k169_3 C) ds k else
 bif Nat.beq n 33 then loopS S169_33 [true,true,true,true,true,true] [[0]] (@s_slices_pdqsortCmpFunc_api_Edge__k169_4 C) ds k else
 none
abbrev TS_slices_pdqsortCmpFunc_api_Edge__k169 (C:CallF) (b:Bar):Prop:=Tells Tryd.prog ann C (LT_slices_pdqsortCmpFunc_api_Edge__k169 C) 169 (ntmpsOf Tryd.prog (ann.fid 169)) (ann.sin 169).blks.length b
theorem t_slices_pdqsortCmpFunc_api_Edge__k169_1 (C:CallF):TS_slices_pdqsortCmpFunc_api_Edge__k169 C (.cond 39 (codeAt [1,1,0,0,0,1,1,1,0,1,0] B_slices_pdqsortCmpFunc_api_Edge__k169) (codeAt [1,1,0,0,0,1,1,1,0,1,1] B_slices_pdqsortCmpFunc_api_Edge__k169)):=
 tc3 S169_639 [[1,2,0,4,5,6,0]] (@s_slices_pdqsortCmpFunc_api_Edge__k169_1 C) (by kernel_rfl) (ltok_of (bs:=[]) (by kernel_rfl) tells_nil) (ltok_of (bs:=[]) (by kernel_rfl) tells_nil) (fun ds=>by kernel_rfl) (fun i β k=>by kernel_rfl) (fun β ds k=>by kernel_rfl)
theorem t_slices_pdqsortCmpFunc_api_Edge__k169_2 (C:CallF):TS_slices_pdqsortCmpFunc_api_Edge__k169 C (.cond 56 (codeAt [1,1,0,0,0,1,1,1,1,1,0,1,0] B_slices_pdqsortCmpFunc_api_Edge__k169) (codeAt [1,1,0,0,0,1,1,1,1,1,0,1,1] B_slices_pdqsortCmpFunc_api_Edge__k169)):=
 tc3 S169_911 [[1,2,3,4,5,6,0,0,0]] (@s_slices_pdqsortCmpFunc_api_Edge__k169_2 C) (by kernel_rfl) (ltok_of (bs:=[]) (by kernel_rfl) tells_nil) (ltok_of (bs:=[]) (by kernel_rfl) tells_nil) (fun ds=>by kernel_rfl) (fun i β k=>by kernel_rfl) (fun β ds k=>by kernel_rfl)
theorem t_slices_pdqsortCmpFunc_api_Edge__k169_3 (C:CallF):TS_slices_pdqsortCmpFunc_api_Edge__k169 C (.cond 75 (codeAt [1,1,0,0,0,1,1,1,1,1,1,0,1,0] B_slices_pdqsortCmpFunc_api_Edge__k169) (codeAt [1,1,0,0,0,1,1,1,1,1,1,0,1,1] B_slices_pdqsortCmpFunc_api_Edge__k169)):=
 tc3 S169_1215 [[1,2,3,4,5,6,7,0,0],[1,2,3,4,5,6,7,0]] (@s_slices_pdqsortCmpFunc_api_Edge__k169_3 C) (by kernel_rfl) (ltok_of (bs:=[]) (by kernel_rfl) tells_nil) (ltok_of (bs:=[]) (by kernel_rfl) tells_nil) (fun ds=>by kernel_rfl) (fun i β k=>by kernel_rfl) (fun β ds k=>by kernel_rfl)
theorem t_slices_pdqsortCmpFunc_api_Edge__k169_4 (C:CallF):TS_slices_pdqsortCmpFunc_api_Edge__k169 C (.loop (codeAt [1,1,0,0] B_slices_pdqsortCmpFunc_api_Edge__k169)):=
 tl3 S169_33 [true,true,true,true,true,true] [[0]] (@s_slices_pdqsortCmpFunc_api_Edge__k169_4 C) (by kernel_rfl) (ltok_of (bs:=[.cond 39 (codeAt [1,1,0,0,0,1,1,1,0,1,0] B_slices_pdqsortCmpFunc_api_Edge__k169) (codeAt [1,1,0,0,0,1,1,1,0,1,1] B_slices_pdqsortCmpFunc_api_Edge__k169),.cond 56 (codeAt [1,1,0,0,0,1,1,1,1,1,0,1,0] B_slices_pdqsortCmpFunc_api_Edge__k169) (codeAt [1,1,0,0,0,1,1,1,1,1,0,1,1] B_slices_pdqsortCmpFunc_api_Edge__k169),.cond 75 (codeAt [1,1,0,0,0,1,1,1,1,1,1,0,1,0] B_slices_pdqsortCmpFunc_api_Edge__k169) (codeAt [1,1,0,0,0,1,1,1,1,1,1,0,1,1] B_slices_pdqsortCmpFunc_api_Edge__k169)]) (by kernel_rfl) (tells_cons (t_slices_pdqsortCmpFunc_api_Edge__k169_1 C) (tells_cons (t_slices_pdqsortCmpFunc_api_Edge__k169_2 C) (tells_cons (t_slices_pdqsortCmpFunc_api_Edge__k169_3 C) tells_nil)))) (fun ds=>by kernel_rfl) (fun i x=>by kernel_rfl) (fun i x β k=>by kernel_rfl) (fun β ds k=>by kernel_rfl)
noncomputable def f_slices_pdqsortCmpFunc_api_Edge__k169 (C:CallF) (a b' limit:Int) (datas:List V):Option (List V):=
 (Loop (s_slices_pdqsortCmpFunc_api_Edge__k169_4L C) (a,b',limit,true,true,datas)).bind (fun (b_51:List V)=>
  some [.list T_api_Edge b_51])
theorem f_slices_pdqsortCmpFunc_api_Edge__k169_of {a b' limit:Int} {datas:List V} {r:Option (List V)} (h:f_slices_pdqsortCmpFunc_api_Edge__k169 CC a b' limit datas=r):CC K_slices_pdqsortCmpFunc_api_Edge__k169 [.int .i64 a,.int .i64 b',.int .i64 limit,.list T_api_Edge datas]=r:=
 func_of (key:=169) (L:=LT_slices_pdqsortCmpFunc_api_Edge__k169 CC) (bs:=[.loop (codeAt [1,1,0,0] B_slices_pdqsortCmpFunc_api_Edge__k169)]) (by kernel_rfl) (tells_cons (t_slices_pdqsortCmpFunc_api_Edge__k169_4 CC) tells_nil) (Eq.trans (by kernel_rfl) h)
end Go.AM
set_option maxRecDepth 100000
set_option linter.unusedSimpArgs false
set_option maxHeartbeats 4000000
namespace Go.AM.SL
open Go.AM Go.Proofs Go.Sort
def Sorts (a b:Nat) (d:Array Ed):Prop:= ∀(lim:Int) (wb wp:Bool),∃R,Loop (s_slices_pdqsortCmpFunc_api_Edge__k169_4L CC) ((a:Int),(b:Int),lim,wb,wp,eA d)=some (eA R)∧PermIn a b d R∧SortedIn ltE a b R
theorem Sorts.call {a b:Nat} {d:Array Ed} (h:Sorts a b d) (lim:Int): ∃R,CC K_slices_pdqsortCmpFunc_api_Edge__k169 [.int .i64 (a:Int),.int .i64 (b:Int),.int .i64 lim,.list T_api_Edge (eA d)]=some [.list T_api_Edge (eA R)]∧PermIn a b d R∧SortedIn ltE a b R:=by
 obtain ⟨R,e,h1,h2⟩:=h lim true true
 refine ⟨R,f_slices_pdqsortCmpFunc_api_Edge__k169_of ?_,h1,h2⟩
 unfold f_slices_pdqsortCmpFunc_api_Edge__k169
 rw[e]
 rfl
end Go.AM.SL
set_option maxRecDepth 100000
namespace Go.AM
open Go.Proofs
noncomputable def f_lang_language (C:CallF) (n_0 n_1 n_2 n_3:Int) (n_4:List V):Option (List V):=
 (C F_dfa_Subset [.int .i64 n_0,.int .i64 n_1,.int .u64 n_2,.int .u64 n_3,.list T_api_Edge n_4]).bind fun r1=>
 bif (((V.nth (r1.drop 2) 0).toInt):Int) != 0 then
  some [.int .i64 0,.int .i64 0,.int .i64 ((V.nth (r1.drop 2) 0).toInt),.list T_bool ([]:List V),.list T_l_int ([]:List V)]
 else
  (C F_minimize_Minimal [.int .i64 ((V.nth r1 0).toInt),.int .i64 ((V.nth (r1.drop 1) 0).toInt),.list T_bool ((V.nth (r1.drop 3) 0).toList),.list T_l_int ((V.nth ((r1.drop 3).drop 1) 0).toList)]).bind fun r2=>
  some [.int .i64 ((V.nth r2 0).toInt),.int .i64 ((V.nth (r2.drop 1) 0).toInt),.int .i64 0,.list T_bool ((V.nth (r2.drop 2) 0).toList),.list T_l_int ((V.nth ((r2.drop 2).drop 1) 0).toList)]
theorem f_lang_language_of {n_0 n_1 n_2 n_3:Int} {n_4:List V} {r:Option (List V)} (h:f_lang_language CC n_0 n_1 n_2 n_3 n_4=r):CC F_lang_language [.int .i64 n_0,.int .i64 n_1,.int .u64 n_2,.int .u64 n_3,.list T_api_Edge n_4]=r:=
 func_of (key:=79) (L:=LT0) (bs:=[]) (by kernel_rfl) tells_nil (Eq.trans (by kernel_rfl) h)
end Go.AM
set_option maxRecDepth 100000
namespace Go.AM
open Go.Proofs
noncomputable def f_lang_automaton_language (C:CallF) (ns_0 ns_1 ns_2 ns_3:Int) (b1_:List V):Option (List V):=
 (C F_slices_SortFunc___api_Edge_api_Edge_ [.list T_api_Edge b1_]).bind fun r1=>
 (C F_slices_Compact___api_Edge_api_Edge_ [.list T_api_Edge ((V.nth r1 0).toList)]).bind fun r2=>
 bif (V.nth r2 0).toBool then
  (C F_lang_language [.int .i64 ns_0,.int .i64 ns_1,.int .u64 ns_2,.int .u64 ns_3,.list T_api_Edge ((V.nth (r2.drop 1) 0).toList)]).bind fun r3=>
  some [.int .i64 ((V.nth r3 0).toInt),.int .i64 ((V.nth (r3.drop 1) 0).toInt),.int .i64 ((V.nth (r3.drop 2) 0).toInt),.int .i64 ns_0,.int .i64 ns_1,.int .u64 ns_2,.int .u64 ns_3,.list T_api_Edge ((V.nth (r2.drop 1) 0).toList),.list T_bool ((V.nth (r3.drop 3) 0).toList),.list T_l_int ((V.nth ((r3.drop 3).drop 1) 0).toList)]
 else
  (C F_lang_language [.int .i64 ns_0,.int .i64 ns_1,.int .u64 ns_2,.int .u64 ns_3,.list T_api_Edge ((V.nth (r2.drop 1) 0).toList)]).bind fun r4=>
  some [.int .i64 ((V.nth r4 0).toInt),.int .i64 ((V.nth (r4.drop 1) 0).toInt),.int .i64 ((V.nth (r4.drop 2) 0).toInt),.int .i64 ns_0,.int .i64 ns_1,.int .u64 ns_2,.int .u64 ns_3,.list T_api_Edge ((V.nth (r2.drop 1) 0).toList),.list T_bool ((V.nth (r4.drop 3) 0).toList),.list T_l_int ((V.nth ((r4.drop 3).drop 1) 0).toList)]
theorem f_lang_automaton_language_of {ns_0 ns_1 ns_2 ns_3:Int} {b1_:List V} {r:Option (List V)} (h:f_lang_automaton_language CC ns_0 ns_1 ns_2 ns_3 b1_=r):CC F_lang_automaton_language [.int .i64 ns_0,.int .i64 ns_1,.int .u64 ns_2,.int .u64 ns_3,.list T_api_Edge b1_]=r:=
 func_of (key:=65) (L:=LT0) (bs:=[]) (by kernel_rfl) tells_nil (Eq.trans (by kernel_rfl) h)
end Go.AM
set_option maxRecDepth 100000
set_option linter.unusedSimpArgs false
namespace Go.AM
open Go.Proofs
section
variable {n:Nf} {L S:Nat} (h:Nat6 n L S)
include h
end
instance (n:Nf) (L S:Nat):Decidable (subOver n L S):=by unfold subOver;infer_instance
noncomputable def langM (n:Nf) (L S:Nat):Da:=if subOver n L S then zD else minD (subD n L S)
def langE (n:Nf) (L S:Nat):Int:=if subOver n L S then 3 else 0
section
variable {n:Nf} {L S:Nat} (h:Nat6 n L S)
include h
theorem language_spec:CC F_lang_language (nfA n [])=some (outR (langM n L S) (langE n L S)):=by
 refine f_lang_language_of ?_
 unfold f_lang_language langM langE
 by_cases ho:subOver n L S
 ·obtain ⟨X,hX⟩:=Subset_over h ho
  rw[if_pos ho,if_pos ho]
  refine bs hX (bT rfl ?_)
  rfl
 ·obtain ⟨X,hX⟩:=Subset_ok h ho
  rw[if_neg ho,if_neg ho]
  refine bs hX (bF rfl ?_)
  refine bs (Minimal_spec (subD_ok h ho)) ?_
  rfl
end
def nfOf (L S st fin:Nat) (l:List Ed):Nf:=⟨L,S,st,fin,sortedN l⟩
structure RawOk (L S st fin:Nat) (l:List Ed):Prop where
 l1:1≤L
 l6:L≤6
 s64:S≤64
 st:st<2^S
 fin:fin<2^S
 E: ∀e∈l,e.In L S
 len:l.length≤1000000
theorem sorted_nfCode {L S st fin:Nat} {l:List Ed} (h:RawOk L S st fin l):Nat6 (nfOf L S st fin l) L S where
 hL:=rfl
 hS:=rfl
 ok:=by
  have hl1:=h.l1
  have hl6:=h.l6
  have hs:=h.s64
  have hst:=h.st
  have hfin:=h.fin
  have hp:2^S≤2^64:=Nat.pow_le_pow_right (by omega) hs
  have hin: ∀e∈sortedN l,e.In L S:=fun e he=>h.E e (sortedN_mem.1 he)
  have hlen:=srt_len (L:=L) (S:=S) (by omega) (by omega) (sortedN_srt l) hin
  refine ⟨by simp only[nfOf];omega,by simp only[nfOf];omega,by simp only[nfOf];omega,by simp only[nfOf];omega,by simp only[nfOf];omega,by simp only[nfOf];omega,by simp only[nfOf];unfold maxLen;omega,fun e he=> ?_⟩
  have:=hin e he
  unfold Ed.In at this
  unfold Ed.Ok
  omega
 code:=by
  have hl1:=h.l1
  have hl6:=h.l6
  have hs:=h.s64
  unfold Nf.code
  rw[if_neg (by simp only[nfOf];omega),if_neg (by simp only[nfOf,Int.toNat_natCast];have:=h.st;have:=h.fin;omega),if_pos]
  intro i hi
  have hin: ∀e∈sortedN l,e.In L S:=fun e he=>h.E e (sortedN_mem.1 he)
  unfold Nf.edgeAt
  simp only[nfOf] at*
  refine ⟨by rw[getD_at hi];exact hin _ (List.getElem_mem hi),fun h0=> ?_⟩
  rw[getD_at hi,getD_at (show i-1<_ by omega)]
  exact List.pairwise_iff_getElem.1 (sortedN_srt l) (i-1) i (by omega) hi (by omega)
def autR (m:Da) (e:Int) (n:Nf):List V:=[.int .i64 (m.L:Int),.int .i64 (m.st:Int),.int .i64 e,.int .i64 n.L,.int .i64 n.S,.int .u64 (n.st:Int),.int .u64 (n.fin:Int),.list T_api_Edge (n.E.map Ed.enc),.list T_bool m.finV,.list T_l_int m.nxV]
section
variable {L S st fin:Nat} {l:List Ed} (h:RawOk L S st fin l)
include h
end
end Go.AM
set_option maxRecDepth 100000
namespace Go.AM
open Go.Proofs
noncomputable def f_lang_begin (C:CallF) (letters states:Int):Option (List V):=
 bif decide ((states:Int)>64) then
  some [V.bool true]
 else
  some [V.bool false,.int .i64 letters,.int .i64 states,.int .u64 0,.int .u64 0,.list T_api_Edge ([]:List V)]
theorem f_lang_begin_of {letters states:Int} {r:Option (List V)} (h:f_lang_begin CC letters states=r):CC F_lang_begin [.int .i64 letters,.int .i64 states]=r:=
 func_of (key:=61) (L:=LT0) (bs:=[]) (by kernel_rfl) tells_nil (Eq.trans (by kernel_rfl) h)
end Go.AM
set_option maxRecDepth 100000
namespace Go.AM
open Go.Proofs
noncomputable def f_lang_automaton_edge (C:CallF) (from' letter to ns_0 ns_1 ns_2 ns_3:Int) (b1_:List V):Option (List V):=
 bif Nat.ble ((b1_.length+([.agg [.int .i64 from',.int .i64 letter,.int .i64 to]]:List V).length)*24) maxBytes then
  some [.int .i64 ns_0,.int .i64 ns_1,.int .u64 ns_2,.int .u64 ns_3,.list T_api_Edge (b1_++([.agg [.int .i64 from',.int .i64 letter,.int .i64 to]]:List V))]
 else none
theorem f_lang_automaton_edge_of {from' letter to ns_0 ns_1 ns_2 ns_3:Int} {b1_:List V} {r:Option (List V)} (h:f_lang_automaton_edge CC from' letter to ns_0 ns_1 ns_2 ns_3 b1_=r):CC F_lang_automaton_edge [.int .i64 from',.int .i64 letter,.int .i64 to,.int .i64 ns_0,.int .i64 ns_1,.int .u64 ns_2,.int .u64 ns_3,.list T_api_Edge b1_]=r:=
 func_of (key:=62) (L:=LT0) (bs:=[]) (by kernel_rfl) tells_nil (Eq.trans (by kernel_rfl) h)
end Go.AM
set_option maxRecDepth 100000
namespace Go.AM
open Go.Proofs
noncomputable def f_lang_automaton_start (C:CallF) (q ns_0 ns_1 ns_2 ns_3:Int) (b1_:List V):Option (List V):=
 bif decide (0≤q) then
  some [.int .i64 ns_0,.int .i64 ns_1,.int .u64 (IntKind.wrap .u64 ((BitVec.ofInt (IntKind.bits .u64) ns_2|||BitVec.ofInt (IntKind.bits .u64) (IntKind.wrap .u64 (1*2^(min q.toNat (IntKind.bits .u64))))).toNat)),.int .u64 ns_3,.list T_api_Edge b1_]
 else none
theorem f_lang_automaton_start_of {q ns_0 ns_1 ns_2 ns_3:Int} {b1_:List V} {r:Option (List V)} (h:f_lang_automaton_start CC q ns_0 ns_1 ns_2 ns_3 b1_=r):CC F_lang_automaton_start [.int .i64 q,.int .i64 ns_0,.int .i64 ns_1,.int .u64 ns_2,.int .u64 ns_3,.list T_api_Edge b1_]=r:=
 func_of (key:=63) (L:=LT0) (bs:=[]) (by kernel_rfl) tells_nil (Eq.trans (by kernel_rfl) h)
end Go.AM
set_option maxRecDepth 100000
namespace Go.AM
open Go.Proofs
noncomputable def f_lang_automaton_final (C:CallF) (q ns_0 ns_1 ns_2 ns_3:Int) (b1_:List V):Option (List V):=
 bif decide (0≤q) then
  some [.int .i64 ns_0,.int .i64 ns_1,.int .u64 ns_2,.int .u64 (IntKind.wrap .u64 ((BitVec.ofInt (IntKind.bits .u64) ns_3|||BitVec.ofInt (IntKind.bits .u64) (IntKind.wrap .u64 (1*2^(min q.toNat (IntKind.bits .u64))))).toNat)),.list T_api_Edge b1_]
 else none
theorem f_lang_automaton_final_of {q ns_0 ns_1 ns_2 ns_3:Int} {b1_:List V} {r:Option (List V)} (h:f_lang_automaton_final CC q ns_0 ns_1 ns_2 ns_3 b1_=r):CC F_lang_automaton_final [.int .i64 q,.int .i64 ns_0,.int .i64 ns_1,.int .u64 ns_2,.int .u64 ns_3,.list T_api_Edge b1_]=r:=
 func_of (key:=69) (L:=LT0) (bs:=[]) (by kernel_rfl) tells_nil (Eq.trans (by kernel_rfl) h)
end Go.AM
set_option maxRecDepth 100000
namespace Go.AM
open Go.Proofs
noncomputable abbrev B_lang_automaton_finals:Code:=bodyOf Tryd.prog (ann.fid 64)
noncomputable def s_lang_automaton_finals_1 (C:CallF) (offset:Int) (t8:List V) (t9 t10 ns_0 ns_1 ns_2 ns_3:Int) (b2_:List V) {β:Type} (kn:(Int × Int × Int × Int × Int × (List V))→Option β) (kr:(Int × Bool × Int × Int × Int × Int × (List V))→Option β):Option β:=
 bif decide ((t10:Int)<t9) then
  (idx t8 t10).bind fun x1=>
  bif x1.toBool then
  (C F_lang_automaton_final [.int .i64 (IntKind.wrap .i64 (t10+offset)),.int .i64 ns_0,.int .i64 ns_1,.int .u64 ns_2,.int .u64 ns_3,.list T_api_Edge b2_]).bind fun r2=>
  kn (IntKind.wrap .i64 (t10+1),(V.nth r2 0).toInt,(V.nth (r2.drop 1) 0).toInt,(V.nth ((r2.drop 1).drop 1) 0).toInt,(V.nth (((r2.drop 1).drop 1).drop 1) 0).toInt,(V.nth (r2.drop 4) 0).toList)
  else
  kn (IntKind.wrap .i64 (t10+1),ns_0,ns_1,ns_2,ns_3,b2_)
 else
  kr (t10,decide ((t10:Int)<t9),ns_0,ns_1,ns_2,ns_3,b2_)
noncomputable def s_lang_automaton_finals_1L (C:CallF) (offset:Int) (t8:List V) (t9:Int):(Int × Int × Int × Int × Int × (List V))→Option ((Int × Int × Int × Int × Int × (List V)) ⊕ (Int × Bool × Int × Int × Int × Int × (List V))):=un fun t10=>un fun ns_0=>un fun ns_1=>un fun ns_2=>un fun ns_3 b2_=>s_lang_automaton_finals_1 C offset t8 t9 t10 ns_0 ns_1 ns_2 ns_3 b2_ (fun y=>some (.inl y)) (fun r=>some (.inr r))
noncomputable def LT_lang_automaton_finals (C:CallF):LTab:=fun β n ds k=>
 bif Nat.beq n 17 then loopS S64_17 [false,false,false,true,true,true,true,true,true] [[1,2,3,0,0,0,0,0,0,0]] (@s_lang_automaton_finals_1 C) ds k else
 none
abbrev TS_lang_automaton_finals (C:CallF) (b:Bar):Prop:=Tells Tryd.prog ann C (LT_lang_automaton_finals C) 64 (ntmpsOf Tryd.prog (ann.fid 64)) (ann.sin 64).blks.length b
theorem t_lang_automaton_finals_1 (C:CallF):TS_lang_automaton_finals C (.loop (codeAt [1,0,0] B_lang_automaton_finals)):=
 tl3 S64_17 [false,false,false,true,true,true,true,true,true] [[1,2,3,0,0,0,0,0,0,0]] (@s_lang_automaton_finals_1 C) (by kernel_rfl) (ltok_of (bs:=[]) (by kernel_rfl) tells_nil) (fun ds=>by kernel_rfl) (fun i x=>by kernel_rfl) (fun i x β k=>by kernel_rfl) (fun β ds k=>by kernel_rfl)
noncomputable def f_lang_automaton_finals (C:CallF) (final:List V) (offset ns_0 ns_1 ns_2 ns_3:Int) (b1_:List V):Option (List V):=
 (Loop (s_lang_automaton_finals_1L C offset final (final.length:Int)) (0,ns_0,ns_1,ns_2,ns_3,b1_)).bind (un fun (t_3:Int)=>un fun (t_4:Bool)=>un fun (ns_5:Int)=>un fun (ns_6:Int)=>un fun (ns_7:Int)=>un fun (ns_8:Int) (b_9:List V)=>
  some [.int .i64 ns_5,.int .i64 ns_6,.int .u64 ns_7,.int .u64 ns_8,.list T_api_Edge b_9])
theorem f_lang_automaton_finals_of {final:List V} {offset ns_0 ns_1 ns_2 ns_3:Int} {b1_:List V} {r:Option (List V)} (h:f_lang_automaton_finals CC final offset ns_0 ns_1 ns_2 ns_3 b1_=r):CC F_lang_automaton_finals [.list T_bool final,.int .i64 offset,.int .i64 ns_0,.int .i64 ns_1,.int .u64 ns_2,.int .u64 ns_3,.list T_api_Edge b1_]=r:=
 func_of (key:=64) (L:=LT_lang_automaton_finals CC) (bs:=[.loop (codeAt [1,0,0] B_lang_automaton_finals)]) (by kernel_rfl) (tells_cons (t_lang_automaton_finals_1 CC) tells_nil) (Eq.trans (by kernel_rfl) h)
end Go.AM
set_option maxRecDepth 100000
namespace Go.AM
open Go.Proofs
noncomputable abbrev B_lang_automaton_copy:Code:=bodyOf Tryd.prog (ann.fid 73)
noncomputable def s_lang_automaton_copy_1 (C:CallF) (offset p:Int) (t11:List V) (t12 t13:Int) (t18:List V) (t19 t20 ns_0 ns_1 ns_2 ns_3:Int) (b2_:List V) {β:Type} (kn:(Int × Int × Int × Int × Int × (List V))→Option β) (kr:(Int × Bool × Int × Int × Int × Int × (List V))→Option β):Option β:=
 bif decide ((t20:Int)<t19) then
  (idx t18 t20).bind fun x2=>
  (C F_lang_automaton_edge [.int .i64 (IntKind.wrap .i64 (p+offset)),.int .i64 t20,.int .i64 (IntKind.wrap .i64 (x2.toInt+offset)),.int .i64 ns_0,.int .i64 ns_1,.int .u64 ns_2,.int .u64 ns_3,.list T_api_Edge b2_]).bind fun r3=>
  kn (IntKind.wrap .i64 (t20+1),(V.nth r3 0).toInt,(V.nth (r3.drop 1) 0).toInt,(V.nth ((r3.drop 1).drop 1) 0).toInt,(V.nth (((r3.drop 1).drop 1).drop 1) 0).toInt,(V.nth (r3.drop 4) 0).toList)
 else
  kr (t20,decide ((t20:Int)<t19),ns_0,ns_1,ns_2,ns_3,b2_)
noncomputable def s_lang_automaton_copy_1L (C:CallF) (offset p:Int) (t11:List V) (t12 t13:Int) (t18:List V) (t19:Int):(Int × Int × Int × Int × Int × (List V))→Option ((Int × Int × Int × Int × Int × (List V)) ⊕ (Int × Bool × Int × Int × Int × Int × (List V))):=un fun t20=>un fun ns_0=>un fun ns_1=>un fun ns_2=>un fun ns_3 b2_=>s_lang_automaton_copy_1 C offset p t11 t12 t13 t18 t19 t20 ns_0 ns_1 ns_2 ns_3 b2_ (fun y=>some (.inl y)) (fun r=>some (.inr r))
noncomputable def s_lang_automaton_copy_2 (C:CallF) (offset:Int) (t11:List V) (t12 t13 ns_0 ns_1 ns_2 ns_3:Int) (b2_:List V) {β:Type} (kn:(Int × Int × Int × Int × Int × (List V))→Option β) (kr:(Int × Bool × Int × Int × Int × Int × (List V))→Option β):Option β:=
 bif decide ((t13:Int)<t12) then
  (idx t11 t13).bind fun x1=>
  (Loop (s_lang_automaton_copy_1L C offset t13 t11 t12 t13 x1.toList (x1.toList.length:Int)) (0,ns_0,ns_1,ns_2,ns_3,b2_)).bind (un fun (t_4:Int)=>un fun (t_5:Bool)=>un fun (ns_6:Int)=>un fun (ns_7:Int)=>un fun (ns_8:Int)=>un fun (ns_9:Int) (b_10:List V)=>
   kn (IntKind.wrap .i64 (t13+1),ns_6,ns_7,ns_8,ns_9,b_10))
 else
  kr (t13,decide ((t13:Int)<t12),ns_0,ns_1,ns_2,ns_3,b2_)
noncomputable def s_lang_automaton_copy_2L (C:CallF) (offset:Int) (t11:List V) (t12:Int):(Int × Int × Int × Int × Int × (List V))→Option ((Int × Int × Int × Int × Int × (List V)) ⊕ (Int × Bool × Int × Int × Int × Int × (List V))):=un fun t13=>un fun ns_0=>un fun ns_1=>un fun ns_2=>un fun ns_3 b2_=>s_lang_automaton_copy_2 C offset t11 t12 t13 ns_0 ns_1 ns_2 ns_3 b2_ (fun y=>some (.inl y)) (fun r=>some (.inr r))
noncomputable def LT_lang_automaton_copy (C:CallF):LTab:=fun β n ds k=>
 bif Nat.beq n 81 then loopS S73_81 [false,false,false,false,false,false,false,true,true,true,true,true,true] [[1,2,3,4,5,6,7,0,0,0,0,0,0,0]] (@s_lang_automaton_copy_1 C) ds k else
 bif Nat.beq n 33 then loopS S73_33 [false,false,false,true,true,true,true,true,true] [[1,2,3,0,0,0,0,0,0,0]] (@s_lang_automaton_copy_2 C) ds k else
 none
abbrev TS_lang_automaton_copy (C:CallF) (b:Bar):Prop:=Tells Tryd.prog ann C (LT_lang_automaton_copy C) 73 (ntmpsOf Tryd.prog (ann.fid 73)) (ann.sin 73).blks.length b
theorem t_lang_automaton_copy_1 (C:CallF):TS_lang_automaton_copy C (.loop (codeAt [1,1,0,0,1,1,0,0,1,1,0,0] B_lang_automaton_copy)):=
 tl3 S73_81 [false,false,false,false,false,false,false,true,true,true,true,true,true] [[1,2,3,4,5,6,7,0,0,0,0,0,0,0]] (@s_lang_automaton_copy_1 C) (by kernel_rfl) (ltok_of (bs:=[]) (by kernel_rfl) tells_nil) (fun ds=>by kernel_rfl) (fun i x=>by kernel_rfl) (fun i x β k=>by kernel_rfl) (fun β ds k=>by kernel_rfl)
theorem t_lang_automaton_copy_2 (C:CallF):TS_lang_automaton_copy C (.loop (codeAt [1,1,0,0] B_lang_automaton_copy)):=
 tl3 S73_33 [false,false,false,true,true,true,true,true,true] [[1,2,3,0,0,0,0,0,0,0]] (@s_lang_automaton_copy_2 C) (by kernel_rfl) (ltok_of (bs:=[.loop (codeAt [1,1,0,0,1,1,0,0,1,1,0,0] B_lang_automaton_copy)]) (by kernel_rfl) (tells_cons (t_lang_automaton_copy_1 C) tells_nil)) (fun ds=>by kernel_rfl) (fun i x=>by kernel_rfl) (fun i x β k=>by kernel_rfl) (fun β ds k=>by kernel_rfl)
noncomputable def f_lang_automaton_copy (C:CallF) (d_0 d_1:Int) (d_2 d_3:List V) (offset ns_0 ns_1 ns_2 ns_3:Int) (b1_:List V):Option (List V):=
 (Loop (s_lang_automaton_copy_2L C offset d_3 (d_3.length:Int)) (0,ns_0,ns_1,ns_2,ns_3,b1_)).bind (un fun (t_11:Int)=>un fun (t_12:Bool)=>un fun (ns_13:Int)=>un fun (ns_14:Int)=>un fun (ns_15:Int)=>un fun (ns_16:Int) (b_17:List V)=>
  some [.int .i64 ns_13,.int .i64 ns_14,.int .u64 ns_15,.int .u64 ns_16,.list T_api_Edge b_17])
theorem f_lang_automaton_copy_of {d_0 d_1:Int} {d_2 d_3:List V} {offset ns_0 ns_1 ns_2 ns_3:Int} {b1_:List V} {r:Option (List V)} (h:f_lang_automaton_copy CC d_0 d_1 d_2 d_3 offset ns_0 ns_1 ns_2 ns_3 b1_=r):CC F_lang_automaton_copy [.int .i64 d_0,.int .i64 d_1,.list T_bool d_2,.list T_l_int d_3,.int .i64 offset,.int .i64 ns_0,.int .i64 ns_1,.int .u64 ns_2,.int .u64 ns_3,.list T_api_Edge b1_]=r:=
 func_of (key:=73) (L:=LT_lang_automaton_copy CC) (bs:=[.loop (codeAt [1,1,0,0] B_lang_automaton_copy)]) (by kernel_rfl) (tells_cons (t_lang_automaton_copy_2 CC) tells_nil) (Eq.trans (by kernel_rfl) h)
end Go.AM
set_option maxRecDepth 100000
set_option linter.unusedSimpArgs false
namespace Go.AM
open Go.Proofs
def mkE (p x q:Nat):Ed:=⟨(p:Int),(x:Int),(q:Int)⟩
def aN (L S:Nat) (st fin:Nat) (l:List Ed):List V:=[.int .i64 (L:Int),.int .i64 (S:Int),.int .u64 (st:Int),.int .u64 (fin:Int),.list T_api_Edge (l.map Ed.enc)]
def fm (n:Nat) (g:Nat→List Ed):List Ed:=(List.range n).flatMap g
theorem fm_zero {g:Nat→List Ed}:fm 0 g=[]:=rfl
theorem fm_succ {n:Nat} {g:Nat→List Ed}:fm (n+1) g=fm n g++g n:=by simp[fm,List.range_succ]
theorem fm_mem {n:Nat} {g:Nat→List Ed} {e:Ed}:e∈fm n g↔∃i,i<n∧e∈g i:=by simp[fm]
theorem fm_len {n k:Nat} {g:Nat→List Ed} (h: ∀i,i<n→(g i).length≤k):(fm n g).length≤n*k:=by
 induction n with
 | zero=>simp[fm]
 | succ n ih=>
  rw[fm_succ,List.length_append,Nat.succ_mul]
  have:=ih fun i hi=>h i (by omega)
  have:=h n (by omega)
  omega
theorem Loop_sq {X R:Type} {step:X→Option (X ⊕ R)} (n:Nat) (s:Nat→X) (r:R) {x:X} (hx:x=s 0) (h: ∀i,i<n→step (s i)=some (.inl (s (i+1)))) (he:step (s n)=some (.inr r)):Loop step x=some r:=by rw[hx];exact Loop_st n s r h he
theorem wrA {a b:Nat} (h:a+b≤1000000000):IntKind.wrap .i64 ((a:Int)+(b:Int))=((a+b:Nat):Int):=by rw[wrap64 (by omega) (by omega)];omega
theorem mapE {l:List Ed} {p x q:Nat}:l.map Ed.enc++[V.agg [.int .i64 (p:Int),.int .i64 (x:Int),.int .i64 (q:Int)]]=(l++[mkE p x q]).map Ed.enc:=by simp[mkE,Ed.enc]
section
variable {L S st fin:Nat} {l:List Ed}
theorem edge_spec {p x q:Nat} (h:l.length≤1000000):CC F_lang_automaton_edge [.int .i64 (p:Int),.int .i64 (x:Int),.int .i64 (q:Int),.int .i64 (L:Int),.int .i64 (S:Int),.int .u64 (st:Int),.int .u64 (fin:Int),.list T_api_Edge (l.map Ed.enc)]=some (aN L S st fin (l++[mkE p x q])):=by
 refine f_lang_automaton_edge_of ?_
 unfold f_lang_automaton_edge
 refine bT (cap (by simp;omega) (by omega)) ?_
 rw[mapE];rfl
theorem start_spec {q:Nat} (hq:q<64) (hs:st<2^64):CC F_lang_automaton_start [.int .i64 (q:Int),.int .i64 (L:Int),.int .i64 (S:Int),.int .u64 (st:Int),.int .u64 (fin:Int),.list T_api_Edge (l.map Ed.enc)]=some (aN L S (st|||2^q) fin l):=by
 refine f_lang_automaton_start_of ?_
 unfold f_lang_automaton_start
 refine bT (decide_eq_true (by omega)) ?_
 rw[Int.toNat_natCast,u64_bit hq,u64_or hs (Nat.pow_lt_pow_right (by omega) hq)];rfl
theorem final_spec {q:Nat} (hq:q<64) (hs:fin<2^64):CC F_lang_automaton_final [.int .i64 (q:Int),.int .i64 (L:Int),.int .i64 (S:Int),.int .u64 (st:Int),.int .u64 (fin:Int),.list T_api_Edge (l.map Ed.enc)]=some (aN L S st (fin|||2^q) l):=by
 refine f_lang_automaton_final_of ?_
 unfold f_lang_automaton_final
 refine bT (decide_eq_true (by omega)) ?_
 rw[Int.toNat_natCast,u64_bit hq,u64_or hs (Nat.pow_lt_pow_right (by omega) hq)];rfl
theorem begin_ok (h:S≤64):CC F_lang_begin [.int .i64 (L:Int),.int .i64 (S:Int)]=some (.bool false::aN L S 0 0 []):=by
 refine f_lang_begin_of ?_
 unfold f_lang_begin
 exact bF (decide_eq_false (by omega)) rfl
def orN (fin:Nat) (f:Nat→Bool) (off:Nat):Nat→Nat
 | 0=>fin
 | i+1=>if f i=true then orN fin f off i|||2^(i+off) else orN fin f off i
theorem orN_lt {f:Nat→Bool} {off k:Nat} (hf:fin<2^k): ∀{n:Nat},n+off≤k→orN fin f off n<2^k
 | 0,_=>hf
 | n+1,h=>by
  unfold orN
  have ih:=orN_lt (f:=f) (off:=off) hf (n:=n) (by omega)
  split
  ·exact Nat.or_lt_two_pow ih (Nat.pow_lt_pow_right (by omega) (by omega))
  ·exact ih
theorem finals_spec {n off:Nat} {f:Nat→Bool} (ho:n+off≤64) (hs:fin<2^64):CC F_lang_automaton_finals [.list T_bool (bV n f),.int .i64 (off:Int),.int .i64 (L:Int),.int .i64 (S:Int),.int .u64 (st:Int),.int .u64 (fin:Int),.list T_api_Edge (l.map Ed.enc)]=some (aN L S st (orN fin f off n) l):=by
 refine f_lang_automaton_finals_of ?_
 unfold f_lang_automaton_finals
 rw[show (bV n f).length=n from tab_len]
 refine bs (Loop_st n (fun i=>((i:Int),(L:Int),(S:Int),(st:Int),(orN fin f off i:Int),l.map Ed.enc)) ((n:Int),false,(L:Int),(S:Int),(st:Int),(orN fin f off n:Int),l.map Ed.enc) (fun i hi=> ?_) ?_) ?_
 ·simp only[s_lang_automaton_finals_1L,s_lang_automaton_finals_1,un]
  refine bT (lt_t hi) ?_
  refine bs (idx_tab hi) ?_
  have hlt:=orN_lt (f:=f) (off:=off) hs (n:=i) (by omega)
  cases hf:f i with
  | true=>
   refine bT rfl ?_
   rw[wrA (by omega)]
   refine bs (final_spec (by omega) hlt) ?_
   rw[wr1 (by omega),show orN fin f off (i+1)=orN fin f off i|||2^(i+off) from if_pos hf]
   rfl
  | false=>
   refine bF rfl ?_
   rw[wr1 (by omega),show orN fin f off (i+1)=orN fin f off i from if_neg (by rw[hf];simp)]
 ·simp only[s_lang_automaton_finals_1L,s_lang_automaton_finals_1,un]
  refine bF (lt_f (Nat.le_refl _)) ?_
  rw[lt_f (Nat.le_refl _)]
 ·rfl
def rowE (a:Da) (off p:Nat):List Ed:=tab a.L fun x=>mkE (p+off) x (a.nx p x+off)
def cpE (a:Da) (off:Nat):List Ed:=fm a.n (rowE a off)
theorem cpE_mem {a:Da} {off:Nat} {e:Ed}:e∈cpE a off↔∃p x,p<a.n∧x<a.L∧e=mkE (p+off) x (a.nx p x+off):=by
 unfold cpE rowE
 rw[fm_mem]
 constructor
 ·rintro ⟨p,hp,he⟩
  obtain ⟨x,hx,rfl⟩:=tab_mem.1 he
  exact ⟨p,x,hp,hx,rfl⟩
 ·rintro ⟨p,x,hp,hx,rfl⟩
  exact ⟨p,hp,tab_mem.2 ⟨x,hx,rfl⟩⟩
theorem cpE_len {a:Da} (h:a.Ok) {off:Nat} {n:Nat}:(fm n (rowE a off)).length≤n*6:=fm_len fun p _=>by unfold rowE;rw[tab_len];exact h.l6
theorem copy_spec {a:Da} (h:a.Ok) {off:Nat} (ho:off≤1000) (hl:l.length≤100000):CC F_lang_automaton_copy (daA a [.int .i64 (off:Int),.int .i64 (L:Int),.int .i64 (S:Int),.int .u64 (st:Int),.int .u64 (fin:Int),.list T_api_Edge (l.map Ed.enc)])=some (aN L S st fin (l++cpE a off)):=by
 have hn:=h.most
 have h6:=h.l6
 refine f_lang_automaton_copy_of ?_
 unfold f_lang_automaton_copy
 rw[show a.nxV.length=a.n from tab_len]
 refine bs (Loop_sq a.n (fun i=>((i:Int),(L:Int),(S:Int),(st:Int),(fin:Int),(l++fm i (rowE a off)).map Ed.enc)) ((a.n:Int),false,(L:Int),(S:Int),(st:Int),(fin:Int),(l++cpE a off).map Ed.enc) (by rw[fm_zero,List.append_nil];rfl) (fun p hp=> ?_) ?_) ?_
 ·have hlen:=cpE_len h (off:=off) (n:=p)
  simp only[s_lang_automaton_copy_2L,s_lang_automaton_copy_2,un]
  refine bT (lt_t hp) ?_
  refine bs (idx_tab hp) ?_
  rw[show (rowF a.L (a.nx p)).toList=tab a.L fun x=>nV (a.nx p x) from rfl,tab_len]
  refine bs (Loop_sq a.L (fun i=>((i:Int),(L:Int),(S:Int),(st:Int),(fin:Int),((l++fm p (rowE a off))++tab i fun x=>mkE (p+off) x (a.nx p x+off)).map Ed.enc)) ((a.L:Int),false,(L:Int),(S:Int),(st:Int),(fin:Int),((l++fm p (rowE a off))++rowE a off p).map Ed.enc) (by rw[tab_zero,List.append_nil];rfl) (fun x hx=> ?_) ?_) ?_
  ·have hq:=h.nx_lt hp hx
   simp only[s_lang_automaton_copy_1L,s_lang_automaton_copy_1,un]
   refine bT (lt_t hx) ?_
   refine bs (idx_tab hx) ?_
   rw[show (nV (a.nx p x)).toInt=((a.nx p x:Nat):Int) from rfl,wrA (by omega),wrA (by omega)]
   refine bs (edge_spec (by rw[List.length_append,List.length_append,tab_len];omega)) ?_
   rw[wr1 (by omega),tab_succ,←List.append_assoc]
   rfl
  ·simp only[s_lang_automaton_copy_1L,s_lang_automaton_copy_1,un]
   refine bF (lt_f (Nat.le_refl _)) ?_
   rw[lt_f (Nat.le_refl _)]
   rfl
  ·simp only[un]
   rw[wr1 (by omega),fm_succ,←List.append_assoc]
 ·simp only[s_lang_automaton_copy_2L,s_lang_automaton_copy_2,un]
  refine bF (lt_f (Nat.le_refl _)) ?_
  rw[lt_f (Nat.le_refl _)]
  rfl
 ·rfl
end
end Go.AM
set_option maxRecDepth 100000
namespace Go.AM
open Go.Proofs
noncomputable abbrev B_lang_Superwords:Code:=bodyOf Tryd.prog (ann.fid 51)
noncomputable def s_lang_Superwords_1 (C:CallF) (q t36 t37 t41 ds_0 ds_1:Int) (ds_2 ds_3:List V) (t2s_0 t2s_1 ms_0 ms_1:Int) (b4_ b5_ b6_ b7_:List V) (t42 ns_0 ns_1 ns_2 ns_3:Int) (b8_:List V) {β:Type} (kn:(Int × Int × Int × Int × Int × (List V))→Option β) (kr:(Int × Bool × Int × Int × Int × Int × (List V))→Option β):Option β:=
 bif decide ((t42:Int)<t41) then
  (C F_lang_automaton_edge [.int .i64 q,.int .i64 t42,.int .i64 q,.int .i64 ns_0,.int .i64 ns_1,.int .u64 ns_2,.int .u64 ns_3,.list T_api_Edge b8_]).bind fun r4=>
  kn (IntKind.wrap .i64 (t42+1),(V.nth r4 0).toInt,(V.nth (r4.drop 1) 0).toInt,(V.nth ((r4.drop 1).drop 1) 0).toInt,(V.nth (((r4.drop 1).drop 1).drop 1) 0).toInt,(V.nth (r4.drop 4) 0).toList)
 else
  kr (t42,decide ((t42:Int)<t41),ns_0,ns_1,ns_2,ns_3,b8_)
noncomputable def s_lang_Superwords_1L (C:CallF) (q t36 t37 t41 ds_0 ds_1:Int) (ds_2 ds_3:List V) (t2s_0 t2s_1 ms_0 ms_1:Int) (b4_ b5_ b6_ b7_:List V):(Int × Int × Int × Int × Int × (List V))→Option ((Int × Int × Int × Int × Int × (List V)) ⊕ (Int × Bool × Int × Int × Int × Int × (List V))):=un fun t42=>un fun ns_0=>un fun ns_1=>un fun ns_2=>un fun ns_3 b8_=>s_lang_Superwords_1 C q t36 t37 t41 ds_0 ds_1 ds_2 ds_3 t2s_0 t2s_1 ms_0 ms_1 b4_ b5_ b6_ b7_ t42 ns_0 ns_1 ns_2 ns_3 b8_ (fun y=>some (.inl y)) (fun r=>some (.inr r))
noncomputable def s_lang_Superwords_2 (C:CallF) (t36 ds_0 ds_1:Int) (ds_2 ds_3:List V) (t2s_0 t2s_1 ms_0 ms_1:Int) (b4_ b5_ b6_ b7_:List V) (t37 ns_0 ns_1 ns_2 ns_3:Int) (b8_:List V) {β:Type} (kn:(Int × Int × Int × Int × Int × (List V))→Option β) (kr:(Int × Bool × Int × Int × Int × Int × (List V))→Option β):Option β:=
 bif decide ((t37:Int)<t36) then
  (Loop (s_lang_Superwords_1L C t37 t36 t37 ds_0 ds_0 ds_1 ds_2 ds_3 t2s_0 t2s_1 ms_0 ms_1 b4_ b5_ b6_ b7_) (0,ns_0,ns_1,ns_2,ns_3,b8_)).bind (un fun (t_5:Int)=>un fun (t_6:Bool)=>un fun (ns_7:Int)=>un fun (ns_8:Int)=>un fun (ns_9:Int)=>un fun (ns_10:Int) (b_11:List V)=>
   kn (IntKind.wrap .i64 (t37+1),ns_7,ns_8,ns_9,ns_10,b_11))
 else
  kr (t37,decide ((t37:Int)<t36),ns_0,ns_1,ns_2,ns_3,b8_)
noncomputable def s_lang_Superwords_2L (C:CallF) (t36 ds_0 ds_1:Int) (ds_2 ds_3:List V) (t2s_0 t2s_1 ms_0 ms_1:Int) (b4_ b5_ b6_ b7_:List V):(Int × Int × Int × Int × Int × (List V))→Option ((Int × Int × Int × Int × Int × (List V)) ⊕ (Int × Bool × Int × Int × Int × Int × (List V))):=un fun t37=>un fun ns_0=>un fun ns_1=>un fun ns_2=>un fun ns_3 b8_=>s_lang_Superwords_2 C t36 ds_0 ds_1 ds_2 ds_3 t2s_0 t2s_1 ms_0 ms_1 b4_ b5_ b6_ b7_ t37 ns_0 ns_1 ns_2 ns_3 b8_ (fun y=>some (.inl y)) (fun r=>some (.inr r))
noncomputable def LT_lang_Superwords (C:CallF):LTab:=fun β n ds k=>
 bif Nat.beq n 193 then loopS S51_193 [false,false,false,false,true,false,false,false,false,false,false,false,false,true,true,true,true,false,false,false,false,true] [[1,2,3,4,0,0,6,7,8,9,10,11,12,13,0,0,0,0,18,19,20,21,0]] (@s_lang_Superwords_1 C) ds k else
 bif Nat.beq n 145 then loopS S51_145 [false,true,false,false,false,false,false,false,false,false,true,true,true,true,false,false,false,false,true] [[1,0,0,3,4,5,6,7,8,9,10,0,0,0,0,15,16,17,18,0]] (@s_lang_Superwords_2 C) ds k else
 none
abbrev TS_lang_Superwords (C:CallF) (b:Bar):Prop:=Tells Tryd.prog ann C (LT_lang_Superwords C) 51 (ntmpsOf Tryd.prog (ann.fid 51)) (ann.sin 51).blks.length b
theorem t_lang_Superwords_1 (C:CallF):TS_lang_Superwords C (.loop (codeAt [1,1,1,1,1,1,0,1,0,0,1,1,0,0,1,1,0,0] B_lang_Superwords)):=
 tl3 S51_193 [false,false,false,false,true,false,false,false,false,false,false,false,false,true,true,true,true,false,false,false,false,true] [[1,2,3,4,0,0,6,7,8,9,10,11,12,13,0,0,0,0,18,19,20,21,0]] (@s_lang_Superwords_1 C) (by kernel_rfl) (ltok_of (bs:=[]) (by kernel_rfl) tells_nil) (fun ds=>by kernel_rfl) (fun i x=>by kernel_rfl) (fun i x β k=>by kernel_rfl) (fun β ds k=>by kernel_rfl)
theorem t_lang_Superwords_2 (C:CallF):TS_lang_Superwords C (.loop (codeAt [1,1,1,1,1,1,0,1,0,0] B_lang_Superwords)):=
 tl3 S51_145 [false,true,false,false,false,false,false,false,false,false,true,true,true,true,false,false,false,false,true] [[1,0,0,3,4,5,6,7,8,9,10,0,0,0,0,15,16,17,18,0]] (@s_lang_Superwords_2 C) (by kernel_rfl) (ltok_of (bs:=[.loop (codeAt [1,1,1,1,1,1,0,1,0,0,1,1,0,0,1,1,0,0] B_lang_Superwords)]) (by kernel_rfl) (tells_cons (t_lang_Superwords_1 C) tells_nil)) (fun ds=>by kernel_rfl) (fun i x=>by kernel_rfl) (fun i x β k=>by kernel_rfl) (fun β ds k=>by kernel_rfl)
noncomputable def f_lang_Superwords (C:CallF) (d_0 d_1:Int) (d_2 d_3:List V):Option (List V):=
 (C F_lang_minimal [.int .i64 d_0,.int .i64 d_1,.list T_bool d_2,.list T_l_int d_3]).bind fun r1=>
 bif (((V.nth (r1.drop 2) 0).toInt):Int) != 0 then
  some [.int .i64 0,.int .i64 0,.int .i64 ((V.nth (r1.drop 2) 0).toInt),.list T_bool ([]:List V),.list T_l_int ([]:List V)]
 else
  (C F_lang_begin [.int .i64 d_0,.int .i64 (((V.nth (r1.drop 3) 0).toList).length:Int)]).bind fun r2=>
  bif (V.nth r2 0).toBool then
  some [.int .i64 0,.int .i64 0,.int .i64 3,.list T_bool ([]:List V),.list T_l_int ([]:List V)]
  else
  (C F_lang_automaton_copy [.int .i64 ((V.nth r1 0).toInt),.int .i64 ((V.nth (r1.drop 1) 0).toInt),.list T_bool ((V.nth (r1.drop 3) 0).toList),.list T_l_int ((V.nth ((r1.drop 3).drop 1) 0).toList),.int .i64 0,.int .i64 ((V.nth (r2.drop 1) 0).toInt),.int .i64 ((V.nth ((r2.drop 1).drop 1) 0).toInt),.int .u64 ((V.nth (((r2.drop 1).drop 1).drop 1) 0).toInt),.int .u64 ((V.nth ((((r2.drop 1).drop 1).drop 1).drop 1) 0).toInt),.list T_api_Edge ((V.nth ((r2.drop 1).drop 4) 0).toList)]).bind fun r3=>
  (Loop (s_lang_Superwords_2L C (((V.nth (r1.drop 3) 0).toList).length:Int) d_0 d_1 d_2 d_3 0 0 ((V.nth r1 0).toInt) ((V.nth (r1.drop 1) 0).toInt) ([]:List V) ([]:List V) ((V.nth (r1.drop 3) 0).toList) ((V.nth ((r1.drop 3).drop 1) 0).toList)) (0,(V.nth r3 0).toInt,(V.nth (r3.drop 1) 0).toInt,(V.nth ((r3.drop 1).drop 1) 0).toInt,(V.nth (((r3.drop 1).drop 1).drop 1) 0).toInt,(V.nth (r3.drop 4) 0).toList)).bind (un fun (t_12:Int)=>un fun (t_13:Bool)=>un fun (ns_14:Int)=>un fun (ns_15:Int)=>un fun (ns_16:Int)=>un fun (ns_17:Int) (b_18:List V)=>
   (C F_lang_automaton_start [.int .i64 ((V.nth (r1.drop 1) 0).toInt),.int .i64 ns_14,.int .i64 ns_15,.int .u64 ns_16,.int .u64 ns_17,.list T_api_Edge b_18]).bind fun r19=>
   (C F_lang_automaton_finals [.list T_bool ((V.nth (r1.drop 3) 0).toList),.int .i64 0,.int .i64 ((V.nth r19 0).toInt),.int .i64 ((V.nth (r19.drop 1) 0).toInt),.int .u64 ((V.nth ((r19.drop 1).drop 1) 0).toInt),.int .u64 ((V.nth (((r19.drop 1).drop 1).drop 1) 0).toInt),.list T_api_Edge ((V.nth (r19.drop 4) 0).toList)]).bind fun r20=>
   (C F_lang_automaton_language [.int .i64 ((V.nth r20 0).toInt),.int .i64 ((V.nth (r20.drop 1) 0).toInt),.int .u64 ((V.nth ((r20.drop 1).drop 1) 0).toInt),.int .u64 ((V.nth (((r20.drop 1).drop 1).drop 1) 0).toInt),.list T_api_Edge ((V.nth (r20.drop 4) 0).toList)]).bind fun r21=>
   some [.int .i64 ((V.nth r21 0).toInt),.int .i64 ((V.nth (r21.drop 1) 0).toInt),.int .i64 ((V.nth (r21.drop 2) 0).toInt),.list T_bool ((V.nth ((r21.drop 3).drop 5) 0).toList),.list T_l_int ((V.nth (((r21.drop 3).drop 5).drop 1) 0).toList)])
theorem f_lang_Superwords_of {d_0 d_1:Int} {d_2 d_3:List V} {r:Option (List V)} (h:f_lang_Superwords CC d_0 d_1 d_2 d_3=r):CC F_lang_Superwords [.int .i64 d_0,.int .i64 d_1,.list T_bool d_2,.list T_l_int d_3]=r:=
 func_of (key:=51) (L:=LT_lang_Superwords CC) (bs:=[.loop (codeAt [1,1,1,1,1,1,0,1,0,0] B_lang_Superwords)]) (by kernel_rfl) (tells_cons (t_lang_Superwords_2 CC) tells_nil) (Eq.trans (by kernel_rfl) h)
end Go.AM
set_option maxRecDepth 100000
set_option linter.unusedSimpArgs false
namespace Go.AM
open Go.Proofs
theorem mkE_in {p x q L S:Nat} (hp:p<S) (hx:x<L) (hq:q<S):(mkE p x q).In (L:Int) (S:Int):=by unfold Ed.In mkE;simp only;omega
theorem cpE_in {a:Da} (h:a.Ok) {off S:Nat} (hs:a.n+off≤S) {e:Ed} (he:e∈cpE a off):e.In (a.L:Int) (S:Int):=by
 obtain ⟨p,x,hp,hx,rfl⟩:=cpE_mem.1 he
 have:=h.nx_lt hp hx
 exact mkE_in (by omega) hx (by omega)
def stE (L n:Nat):List Ed:=fm n fun q=>tab L fun x=>mkE q x q
theorem stE_mem {L n:Nat} {e:Ed}:e∈stE L n↔∃q x,q<n∧x<L∧e=mkE q x q:=by
 unfold stE
 rw[fm_mem]
 constructor
 ·rintro ⟨p,hp,he⟩
  obtain ⟨x,hx,rfl⟩:=tab_mem.1 he
  exact ⟨p,x,hp,hx,rfl⟩
 ·rintro ⟨p,x,hp,hx,rfl⟩
  exact ⟨p,hp,tab_mem.2 ⟨x,hx,rfl⟩⟩
def supN (m:Da):Nf:=nfOf m.L m.n (2^m.st) (orN 0 m.fin 0 m.n) (cpE m 0++stE m.L m.n)
theorem sup_raw {m:Da} (h:m.Ok) (hs:m.n≤64):RawOk m.L m.n (2^m.st) (orN 0 m.fin 0 m.n) (cpE m 0++stE m.L m.n) where
 l1:=h.l1
 l6:=h.l6
 s64:=hs
 st:=Nat.pow_lt_pow_right (by omega) h.s
 fin:=orN_lt (Nat.two_pow_pos _) (by omega)
 E:=fun e he=>by
  rcases List.mem_append.1 he with he|he
  ·exact cpE_in h (by omega) he
  ·obtain ⟨p,x,hp,hx,rfl⟩:=stE_mem.1 he
   exact mkE_in (by omega) hx (by omega)
 len:=by
  have h1:=cpE_len h (off:=0) (n:=m.n)
  have h2:(stE m.L m.n).length≤m.n*6:=fm_len fun p _=>by rw[tab_len];exact h.l6
  rw[List.length_append]
  unfold cpE
  omega
section
variable {a:Da} (h:a.Ok)
include h
theorem Superwords_pre (hs:(minD a).n≤64) {X:Da} {e:Int} {n:Nf} (hr:CC F_lang_automaton_language (aN (minD a).L (minD a).n (2^(minD a).st) (orN 0 (minD a).fin 0 (minD a).n) (cpE (minD a) 0++stE (minD a).L (minD a).n))=some (autR X e n)):CC F_lang_Superwords (daR a)=some (outR X e):=by
 have hm:=minD_ok h
 have h6:=hm.l6
 have hL:=minD_L h
 have hst:=hm.s
 refine f_lang_Superwords_of ?_
 unfold f_lang_Superwords
 refine bs (lmin_ok h) (bF rfl ?_)
 have e0:(V.nth ((outR (minD a) 0).drop 3) 0).toList=(minD a).finV:=rfl
 rw[e0,Da.finV_len]
 refine bs (begin_ok hs) (bF rfl ?_)
 refine bs (copy_spec (l:=[]) hm (off:=0) (by omega) (by simp)) ?_
 rw[List.nil_append]
 have hlen:=cpE_len hm (off:=0) (n:=(minD a).n)
 refine bs (Loop_sq (minD a).n (fun i=>((i:Int),(a.L:Int),((minD a).n:Int),((0:Nat):Int),((0:Nat):Int),(cpE (minD a) 0++stE (minD a).L i).map Ed.enc)) (((minD a).n:Int),false,(a.L:Int),((minD a).n:Int),((0:Nat):Int),((0:Nat):Int),(cpE (minD a) 0++stE (minD a).L (minD a).n).map Ed.enc) (by rw[show stE (minD a).L 0=[] from rfl,List.append_nil];rfl) (fun q hq=> ?_) ?_) ?_
 ·have hl2:(stE (minD a).L q).length≤q*6:=fm_len fun p _=>by rw[tab_len];exact h6
  simp only[s_lang_Superwords_2L,s_lang_Superwords_2,un]
  refine bT (lt_t hq) ?_
  refine bs (Loop_sq a.L (fun i=>((i:Int),(a.L:Int),((minD a).n:Int),((0:Nat):Int),((0:Nat):Int),((cpE (minD a) 0++stE (minD a).L q)++tab i fun x=>mkE q x q).map Ed.enc)) ((a.L:Int),false,(a.L:Int),((minD a).n:Int),((0:Nat):Int),((0:Nat):Int),((cpE (minD a) 0++stE (minD a).L q)++tab (minD a).L fun x=>mkE q x q).map Ed.enc) (by rw[tab_zero,List.append_nil];rfl) (fun x hx=> ?_) ?_) ?_
  ·simp only[s_lang_Superwords_1L,s_lang_Superwords_1,un]
   refine bT (lt_t hx) ?_
   refine bs (edge_spec (by rw[List.length_append,List.length_append,tab_len];unfold cpE;omega)) ?_
   rw[wr1 (by omega),tab_succ,←List.append_assoc]
   rfl
  ·simp only[s_lang_Superwords_1L,s_lang_Superwords_1,un]
   refine bF (lt_f (Nat.le_refl _)) ?_
   rw[lt_f (Nat.le_refl _),hL]
  ·simp only[un]
   rw[wr1 (by omega),show stE (minD a).L (q+1)=stE (minD a).L q++tab (minD a).L fun x=>mkE q x q from fm_succ,←List.append_assoc]
 ·simp only[s_lang_Superwords_2L,s_lang_Superwords_2,un]
  refine bF (lt_f (Nat.le_refl _)) ?_
  rw[lt_f (Nat.le_refl _)]
 ·simp only[un]
  refine bs (start_spec (q:=(minD a).st) (by omega) (by omega)) ?_
  refine bs (finals_spec (n:=(minD a).n) (f:=(minD a).fin) (off:=0) (by omega) (by omega)) ?_
  rw[Nat.zero_or]
  rw[hL] at hr
  rw[hL]
  refine bs hr ?_
  rfl
end
end Go.AM
set_option maxRecDepth 100000
set_option linter.unusedSimpArgs false
namespace Go.AM
open Go.Proofs
def oddD:Da:=⟨2,0,[false,true],[[1,0],[0,1]]⟩
def hasD:Da:=⟨2,0,[false,true],[[1,0],[1,1]]⟩
theorem odd_ok:oddD.Ok:=⟨by decide,by decide,by decide,by decide,by decide,by decide⟩
theorem has_ok:hasD.Ok:=⟨by decide,by decide,by decide,by decide,by decide,by decide⟩
theorem odd_canon:oddD.Canon oddD.L (oddD.acc oddD.st) where
 ok:=odd_ok
 hL:=rfl
 st:=rfl
 num:=⟨by decide,by decide,by decide⟩
 red:=fun p q hp hq h=>by
  have h0:=h [] WL.nil
  have hp':p<2:=hp
  have hq':q<2:=hq
  have: ∀p,p<2→∀q,q<2→oddD.acc p []=oddD.acc q []→p=q:=by decide
  exact this p hp' q hq' h0
 lang:=fun _ _=>rfl
theorem has_canon:hasD.Canon hasD.L (hasD.acc hasD.st) where
 ok:=has_ok
 hL:=rfl
 st:=rfl
 num:=⟨by decide,by decide,by decide⟩
 red:=fun p q hp hq h=>by
  have h0:=h [] WL.nil
  have hp':p<2:=hp
  have hq':q<2:=hq
  have: ∀p,p<2→∀q,q<2→hasD.acc p []=hasD.acc q []→p=q:=by decide
  exact this p hp' q hq' h0
 lang:=fun _ _=>rfl
theorem odd_min:minD oddD=oddD:=(minD_of odd_ok odd_canon).symm
theorem sup_odd:subD (supN oddD) 2 2=hasD:=by kernel_rfl
theorem sup_over: ¬subOver (supN oddD) 2 2:=by
 have:=subU_done (sorted_nfCode (sup_raw odd_ok (by decide))) (2^2)
 exact fun h=>absurd (Nat.lt_of_lt_of_le h this) (by decide)
theorem lang_odd:langM (supN oddD) 2 2=hasD:=by
 unfold langM
 rw[if_neg sup_over,sup_odd]
 exact (minD_of has_ok has_canon).symm
end Go.AM
set_option maxRecDepth 100000
namespace Go.AM
open Go.Proofs
noncomputable def f_semigrouplaw10_awake (C:CallF):Option (List V):=
 (C F_semigrouplaw10_odd []).bind fun r1=>
 (C F_lang_Superwords [.int .i64 ((V.nth r1 0).toInt),.int .i64 ((V.nth (r1.drop 1) 0).toInt),.list T_bool ((V.nth (r1.drop 2) 0).toList),.list T_l_int ((V.nth ((r1.drop 2).drop 1) 0).toList)]).bind fun r2=>
 bif (((V.nth (r2.drop 2) 0).toInt):Int)==0 then
  bif ((((V.nth (r2.drop 3) 0).toList).length:Int):Int)==2 then
  (C F_dfa_Accepts [.int .i64 ((V.nth r2 0).toInt),.int .i64 ((V.nth (r2.drop 1) 0).toInt),.list T_bool ((V.nth (r2.drop 3) 0).toList),.list T_l_int ((V.nth ((r2.drop 3).drop 1) 0).toList),.str [98,97,97]]).bind fun r3=>
  bif (V.nth r3 0).toBool then
   (C F_dfa_Accepts [.int .i64 ((V.nth r2 0).toInt),.int .i64 ((V.nth (r2.drop 1) 0).toInt),.list T_bool ((V.nth (r2.drop 3) 0).toList),.list T_l_int ((V.nth ((r2.drop 3).drop 1) 0).toList),.str [98,98]]).bind fun r4=>
   some [.bool (!((V.nth r4 0).toBool))]
  else
   some [.bool false]
  else
  some [.bool false]
 else
  some [.bool false]
theorem f_semigrouplaw10_awake_of {r:Option (List V)} (h:f_semigrouplaw10_awake CC=r):CC F_semigrouplaw10_awake []=r:=
 func_of (key:=19) (L:=LT0) (bs:=[]) (by kernel_rfl) tells_nil (Eq.trans (by kernel_rfl) h)
end Go.AM
set_option maxRecDepth 100000
namespace Go.AM
open Go.Proofs
noncomputable def f_semigrouplaw10_odd (C:CallF):Option (List V):=
 some [.int .i64 2,.int .i64 0,.list T_bool ([.bool false,.bool true]:List V),.list T_l_int ([.list T_int ([.int .i64 1,.int .i64 0]:List V),.list T_int ([.int .i64 0,.int .i64 1]:List V)]:List V)]
theorem f_semigrouplaw10_odd_of {r:Option (List V)} (h:f_semigrouplaw10_odd CC=r):CC F_semigrouplaw10_odd []=r:=
 func_of (key:=59) (L:=LT0) (bs:=[]) (by kernel_rfl) tells_nil (Eq.trans (by kernel_rfl) h)
end Go.AM
set_option maxRecDepth 100000
set_option linter.unusedSimpArgs false
namespace Go.AM
open Go.Proofs
def oddE:List Ed:=[⟨0,0,1⟩,⟨0,1,0⟩,⟨1,0,0⟩,⟨1,1,1⟩,⟨0,0,0⟩,⟨0,1,0⟩,⟨1,0,1⟩,⟨1,1,1⟩]
def oddR:List Ed:=[⟨0,0,0⟩,⟨0,0,1⟩,⟨0,1,0⟩,⟨0,1,0⟩,⟨1,0,0⟩,⟨1,0,1⟩,⟨1,1,1⟩,⟨1,1,1⟩]
def oddS:List Ed:=[⟨0,0,0⟩,⟨0,0,1⟩,⟨0,1,0⟩,⟨1,0,0⟩,⟨1,0,1⟩,⟨1,1,1⟩]
theorem odd_edges:cpE oddD 0++stE 2 2=oddE:=by decide
theorem odd_sort:CC F_slices_SortFunc___api_Edge_api_Edge_ [.list T_api_Edge (oddE.map Ed.enc)]=some [.list T_api_Edge (oddR.map Ed.enc)]:=Call_of_run (N:=40) (n:=40) (by kernel_rfl)
theorem odd_nf:supN oddD=⟨2,2,1,2,oddS⟩:=by kernel_rfl
theorem odd_lang:CC F_lang_automaton_language (aN 2 2 (2^oddD.st) (orN 0 oddD.fin 0 2) (cpE oddD 0++stE 2 2))=some (autR hasD 0 ⟨2,2,1,2,oddS⟩):=by
 obtain ⟨b,e2⟩:=compactE_spec (l:=oddR) (by decide)
 have hc:cpe oddR=oddS:=by decide
 rw[hc] at e2
 have e3:=language_spec (sorted_nfCode (sup_raw odd_ok (by decide)))
 rw[show nfOf oddD.L oddD.n (2^oddD.st) (orN 0 oddD.fin 0 oddD.n) (cpE oddD 0++stE oddD.L oddD.n)=supN oddD from rfl,show oddD.L=2 from rfl,show oddD.n=2 from rfl,lang_odd,show langE (supN oddD) 2 2=0 from if_neg sup_over,odd_nf] at e3
 rw[odd_edges]
 refine f_lang_automaton_language_of ?_
 unfold f_lang_automaton_language
 refine bs odd_sort ?_
 refine bs e2 ?_
 cases b
 ·refine bF rfl ?_
  refine bs e3 ?_
  rfl
 ·refine bT rfl ?_
  refine bs e3 ?_
  rfl
theorem awake10:CC F_semigrouplaw10_awake []=some [.bool true]:=by
 have h1:CC F_semigrouplaw10_odd []=some (daR oddD):=f_semigrouplaw10_odd_of rfl
 have h2:=Superwords_pre odd_ok (X:=hasD) (e:=0) (n:=⟨2,2,1,2,oddS⟩) (by rw[odd_min];decide) (by rw[odd_min];exact odd_lang)
 refine f_semigrouplaw10_awake_of ?_
 unfold f_semigrouplaw10_awake
 refine bs h1 ?_
 refine bs h2 ?_
 refine bT rfl (bT (by decide) ?_)
 refine bs (Accepts_spec has_ok (w:=[98,97,97]) (by decide)) ?_
 refine bT (by decide) ?_
 refine bs (Accepts_spec has_ok (w:=[98,98]) (by decide)) ?_
 rw[show hasD.acc hasD.st (lets [98,98])=false by decide]
 rfl
end Go.AM
set_option maxRecDepth 100000
namespace Go.AM
open Go.Proofs
noncomputable def f_semigrouplaw10_LangPreimages (C:CallF) (d_0 d_1:Int) (d_2 d_3 images:List V):Option (List V):=
 (C F_semigroupref07_Validate [.int .i64 d_0,.int .i64 d_1,.list T_bool d_2,.list T_l_int d_3]).bind fun r1=>
 (C F_lang_Preimage [.int .i64 d_0,.int .i64 d_1,.list T_bool d_2,.list T_l_int d_3,.list T_string images]).bind fun r2=>
 bif (((V.nth r1 0).toInt):Int) != 0 then
  (C F_semigrouplaw10_same [.int .i64 ((V.nth r2 0).toInt),.int .i64 ((V.nth (r2.drop 1) 0).toInt),.list T_bool ((V.nth (r2.drop 3) 0).toList),.list T_l_int ((V.nth ((r2.drop 3).drop 1) 0).toList),.int .i64 ((V.nth (r2.drop 2) 0).toInt),.int .i64 0,.int .i64 0,.list T_bool ([]:List V),.list T_l_int ([]:List V),.int .i64 ((V.nth r1 0).toInt)]).bind fun r3=>
  bif (V.nth r3 0).toBool then
  (C F_semigrouplaw10_awake []).bind fun r4=>
  some [.bool ((V.nth r4 0).toBool)]
  else
  some [.bool false]
 else
  (C F_semigroupref10_MayImages [.list T_string images,.int .i64 (images.length:Int),.int .i64 d_0,.bool true]).bind fun r5=>
  bif !((V.nth r5 0).toBool) then
  (C F_semigrouplaw10_same [.int .i64 ((V.nth r2 0).toInt),.int .i64 ((V.nth (r2.drop 1) 0).toInt),.list T_bool ((V.nth (r2.drop 3) 0).toList),.list T_l_int ((V.nth ((r2.drop 3).drop 1) 0).toList),.int .i64 ((V.nth (r2.drop 2) 0).toInt),.int .i64 0,.int .i64 0,.list T_bool ([]:List V),.list T_l_int ([]:List V),.int .i64 1]).bind fun r6=>
  bif (V.nth r6 0).toBool then
   (C F_semigrouplaw10_awake []).bind fun r7=>
   some [.bool ((V.nth r7 0).toBool)]
  else
   some [.bool false]
  else
  bif decide (((d_2.length:Int):Int)>20) then
   (C F_semigrouplaw10_awake []).bind fun r8=>
   some [.bool ((V.nth r8 0).toBool)]
  else
   (C F_semigroupref10_Preimage [.int .i64 d_0,.int .i64 d_1,.list T_bool d_2,.list T_l_int d_3,.list T_string images]).bind fun r9=>
   (C F_semigrouplaw10_same [.int .i64 ((V.nth r2 0).toInt),.int .i64 ((V.nth (r2.drop 1) 0).toInt),.list T_bool ((V.nth (r2.drop 3) 0).toList),.list T_l_int ((V.nth ((r2.drop 3).drop 1) 0).toList),.int .i64 ((V.nth (r2.drop 2) 0).toInt),.int .i64 ((V.nth r9 0).toInt),.int .i64 ((V.nth (r9.drop 1) 0).toInt),.list T_bool ((V.nth (r9.drop 2) 0).toList),.list T_l_int ((V.nth ((r9.drop 2).drop 1) 0).toList),.int .i64 0]).bind fun r10=>
   bif (V.nth r10 0).toBool then
   (C F_semigrouplaw10_awake []).bind fun r11=>
   some [.bool ((V.nth r11 0).toBool)]
   else
   some [.bool false]
theorem f_semigrouplaw10_LangPreimages_of {d_0 d_1:Int} {d_2 d_3 images:List V} {r:Option (List V)} (h:f_semigrouplaw10_LangPreimages CC d_0 d_1 d_2 d_3 images=r):CC F_semigrouplaw10_LangPreimages [.int .i64 d_0,.int .i64 d_1,.list T_bool d_2,.list T_l_int d_3,.list T_string images]=r:=
 func_of (key:=3) (L:=LT0) (bs:=[]) (by kernel_rfl) tells_nil (Eq.trans (by kernel_rfl) h)
end Go.AM
set_option maxRecDepth 100000
set_option linter.unusedSimpArgs false
namespace Go.AM
open Go.Proofs
theorem langPreimages (d:Df) (hd:d.Ok) (l:List (List UInt8)) (hl:l.length≤maxLen):CC F_semigrouplaw10_LangPreimages (dfaA d [strsV l])=some [.bool true]:=by
 by_cases hv:d.val=0
 case neg=>
  refine f_semigrouplaw10_LangPreimages_of ?_
  unfold f_semigrouplaw10_LangPreimages
  refine bs (refValidate7_spec hd) ?_
  refine bs (Preimage_bad hd hv l) ?_
  refine bT (by simpa using hv) ?_
  refine bs (lsame zD_same d.val) (bT rfl ?_)
  exact bs awake10 rfl
 obtain ⟨a,ha,rfl⟩:=df_of_val hv
 have hV:=refValidate7_spec ha.df_ok
 rw[hv] at hV
 rw[ha.leaves] at*
 have hm:=minD_ok ha
 have h1:=ha.l1
 have h6:=ha.l6
 have e1:a.finV.length=a.n:=Da.finV_len
 have hM:=MayImages_spec hl (L:=(a.L:Int))
 refine f_semigrouplaw10_LangPreimages_of ?_
 unfold f_semigrouplaw10_LangPreimages
 refine bs hV ?_
 by_cases hw:1≤l.length∧l.length≤6∧allOk l (a.L:Int)
 ·rw[decide_eq_true ⟨by omega,by omega,hw⟩] at hM
  refine bs (Preimage_ok ha hw.1 hw.2.1 hw.2.2) ?_
  refine bF rfl ?_
  rw[List.length_map]
  refine bs hM (bF rfl ?_)
  by_cases hn:a.n≤20
  ·refine bF (decide_eq_false (by omega)) ?_
   refine bs (rPreimage_ok ha hw.1 hw.2.1 hw.2.2) ?_
   refine bs (lsame (minD_ok (hm.pre hw.1 hw.2.1 fun x hx=>by rw[minD_L ha];exact (hw.2.2 x hx).WL)).same 0) (bT rfl ?_)
   exact bs awake10 rfl
  ·refine bT (decide_eq_true (by omega)) ?_
   exact bs awake10 rfl
 ·rw[decide_eq_false fun h=>hw h.2.2] at hM
  refine bs (Preimage_w ha hw) ?_
  refine bF rfl ?_
  rw[List.length_map]
  refine bs hM (bT rfl ?_)
  refine bs (lsame zD_same 1) (bT rfl ?_)
  exact bs awake10 rfl
end Go.AM
