/- Part 3 of the proof: what the program's functions do, shown of them one by one, over memory by names. -/
import Derived.Test.YtpllomffpohefaaGreatPB
set_option linter.unusedVariables false
set_option linter.unusedSimpArgs false
namespace Go.Ab
open Go
abbrev r0_0 (F:Nums):List Ins:=[.i 0 4 (.mov (.c (.bool false)))]
abbrev r0_1 (F:Nums):List Ins:=[.i 0 14 (.call (.c (.fn F.law18_head [])) []),.nt 1 15 14]
abbrev r0_2 (F:Nums):List Ins:=[.i 0 4 (.mov (.c (.bool false)))]
abbrev r0_3 (F:Nums):List Ins:=[.mv 0 16 0,.i 1 17 (.bin .and (.s 16) (.c (.int .i64 15))),.mv 2 0 17]
abbrev r0_4 (F:Nums):List Ins:=[.mv 0 18 1,.i 1 19 (.bin .and (.s 18) (.c (.int .i64 7))),.mv 2 1 19]
abbrev r0_5 (F:Nums):List Ins:=[.i 0 20 (.call (.c (.fn F.core_New [])) []),.mv 1 5 20]
abbrev r0_6 (F:Nums):List Ins:=[.mv 0 21 5,.i 1 22 (.bld [.int .i64 0,.int .i64 0,.int .i64 0,.int .i64 0,.int .i64 0,.int .i64 0,.int .i64 0,.int .i64 0,.int .i64 0,.int .i64 0] [(0,1,.c (.int .i64 1)),(2,1,.c (.int .i64 5)),(3,1,.c (.int .i64 5))]),
 .i 2 23 (.call (.c (.fn F.core_Do [])) [.s 21,.s 22])]
abbrev r0_7 (F:Nums):List Ins:=[.mv 0 24 5,.i 1 25 (.bld [.int .i64 0,.int .i64 0,.int .i64 0,.int .i64 0,.int .i64 0,.int .i64 0,.int .i64 0,.int .i64 0,.int .i64 0,.int .i64 0] [(0,1,.c (.int .i64 2)),(6,1,.c (.int .i64 1)),(7,1,.c (.int .i64 1))]),
 .i 2 26 (.call (.c (.fn F.core_Do [])) [.s 24,.s 25])]
abbrev r0_8 (F:Nums):List Ins:=[.mv 0 27 5,.i 1 28 (.bld [.int .i64 0,.int .i64 0,.int .i64 0,.int .i64 0,.int .i64 0,.int .i64 0,.int .i64 0,.int .i64 0,.int .i64 0,.int .i64 0] [(0,1,.c (.int .i64 3)),(3,1,.c (.int .i64 9))]),
 .i 2 29 (.call (.c (.fn F.core_Do [])) [.s 27,.s 28])]
abbrev r0_9 (F:Nums):List Ins:=[.mv 0 31 5,.i 1 32 (.bld [.int .i64 0,.int .i64 0,.int .i64 0,.int .i64 0,.int .i64 0,.int .i64 0,.int .i64 0,.int .i64 0,.int .i64 0,.int .i64 0] [(0,1,.c (.int .i64 6))]),
 .i 2 33 (.call (.c (.fn F.core_Do [])) [.s 31,.s 32]),.mv 3 30 33,.e 4 34 30 0,.e 5 35 30 1,.i 6 6 (.alc 0 [.int .i64 0,.int .i64 0,.int .i64 0,.int .i64 0]),
 .j 7 (.stn (.s 6) (.s 34) 4),.mv 8 7 35]
abbrev r0_10 (F:Nums):List Ins:=[.i 0 36 (.ldn (.s 6) 4),.i 1 37 (.bld [.int .i64 0,.int .i64 0,.int .i64 0,.int .i64 0] [(0,1,.c (.int .i64 3)),(1,1,.c (.int .i64 1))]),
 .i 2 38 (.eq true (.a [false,false,false,false]) (.s 36) (.s 37))]
abbrev r0_11 (F:Nums):List Ins:=[.i 0 4 (.mov (.c (.bool false)))]
abbrev r0_12 (F:Nums):List Ins:=[.i 0 8 (.mov (.c (.int .i64 0)))]
abbrev r0_13 (F:Nums):List Ins:=[.mv 0 39 8,.mv 1 40 0,.b .lss 2 41 39 40]
abbrev r0_15 (F:Nums):List Ins:=[.mv 0 44 5,.i 1 45 (.bld [.int .i64 0,.int .i64 0,.int .i64 0,.int .i64 0,.int .i64 0,.int .i64 0,.int .i64 0,.int .i64 0,.int .i64 0,.int .i64 0] []),
 .i 2 46 (.call (.c (.fn F.core_Do [])) [.s 44,.s 45])]
abbrev r0_14 (F:Nums):List Ins:=[.mv 0 42 8,.i 1 43 (.bin .add (.s 42) (.c (.int .i64 1))),.mv 2 8 43]
abbrev r0_16 (F:Nums):List Ins:=[.mv 0 47 5,.i 1 48 (.bld [.int .i64 0,.int .i64 0,.int .i64 0,.int .i64 0,.int .i64 0,.int .i64 0,.int .i64 0,.int .i64 0,.int .i64 0,.int .i64 0] [(0,1,.c (.int .i64 7)),(1,1,.c (.int .i64 1))]),
 .i 2 49 (.call (.c (.fn F.core_Do [])) [.s 47,.s 48])]
abbrev r0_17 (F:Nums):List Ins:=[.mv 0 50 5,.i 1 51 (.bld [.int .i64 0,.int .i64 0,.int .i64 0,.int .i64 0,.int .i64 0,.int .i64 0,.int .i64 0,.int .i64 0,.int .i64 0,.int .i64 0] [(0,1,.c (.int .i64 9)),(1,1,.c (.int .i64 1))]),
 .i 2 52 (.call (.c (.fn F.core_Do [])) [.s 50,.s 51])]
abbrev r0_18 (F:Nums):List Ins:=[.mv 0 54 5,.i 1 55 (.call (.c (.fn F.core_Ends [])) [.s 54,.c (.int .i64 1)]),.mv 2 53 55,.e 3 56 53 0,.e 4 57 53 1,.mv 5 9 56,.mv 6 10 57]
abbrev r0_19 (F:Nums):List Ins:=[.mv 0 58 10,.nt 1 59 58,.mv 2 60 59,⟨3,(some 61),(some (60,false)),[],.mov (.s 9),0⟩,⟨4,(some 62),(some (60,false)),[],.mov (.s 0),0⟩,
 ⟨5,(some 63),(some (60,false)),[],.bin .add (.s 62) (.c (.int .i64 10)),0⟩,⟨6,(some 64),(some (60,false)),[],.bin .neq (.s 61) (.s 63),0⟩,
 .i 7 65 (.pick (.s 60) (.c (.bool true)) (.s 64))]
abbrev r0_20 (F:Nums):List Ins:=[.i 0 4 (.mov (.c (.bool false)))]
abbrev r0_21 (F:Nums):List Ins:=[.i 0 11 (.mov (.c (.int .i64 1)))]
abbrev r0_22 (F:Nums):List Ins:=[.mv 0 66 11,.mv 1 67 1,.i 2 68 (.bin .add (.c (.int .i64 10)) (.s 67)),.b .leq 3 69 66 68]
abbrev r0_24 (F:Nums):List Ins:=[.mv 0 73 5,.i 1 74 (.bld [.int .i64 0,.int .i64 0,.int .i64 0,.int .i64 0,.int .i64 0,.int .i64 0,.int .i64 0,.int .i64 0,.int .i64 0,.int .i64 0] []),
 .i 2 75 (.call (.c (.fn F.core_Do [])) [.s 73,.s 74]),.mv 3 72 75,.e 4 76 72 0,.e 5 77 72 1,.i 6 12 (.alc 0 [.int .i64 0,.int .i64 0,.int .i64 0,.int .i64 0]),
 .j 7 (.stn (.s 12) (.s 76) 4),.mv 8 13 77]
abbrev r0_25 (F:Nums):List Ins:=[.mv 0 78 13,.i 1 79 (.len (.s 78)),.i 2 80 (.bin .eql (.s 79) (.c (.int .i64 1))),.mv 3 81 11,.i 4 82 (.bin .eql (.s 81) (.c (.int .i64 10))),
 .i 5 83 (.eq true .b (.s 80) (.s 82)),.mv 6 84 83,⟨7,(some 85),(some (84,false)),[],.mov (.s 13),0⟩,⟨8,(some 86),(some (84,false)),[],.len (.s 85),0⟩,
 ⟨9,(some 87),(some (84,false)),[],.bin .gtr (.s 86) (.c (.int .i64 1)),0⟩,.i 10 88 (.pick (.s 84) (.c (.bool true)) (.s 87)),.mv 11 89 88,
 ⟨12,(some 90),(some (89,false)),[],.mov (.s 5),0⟩,⟨13,(some 91),(some (89,false)),[],.call (.c (.fn F.core_Boxes [])) [.s 90],0⟩,
 ⟨14,(some 92),(some (89,false)),[],.len (.s 91),0⟩,⟨15,(some 93),(some (89,false)),[],.bin .eql (.s 92) (.c (.int .i64 1)),0⟩,⟨16,(some 94),(some (89,false)),[],.mov (.s 11),0⟩,
 ⟨17,(some 95),(some (89,false)),[],.bin .lss (.s 94) (.c (.int .i64 10)),0⟩,⟨18,(some 96),(some (89,false)),[],.eq true .b (.s 93) (.s 95),0⟩,
 .i 19 97 (.pick (.s 89) (.c (.bool true)) (.s 96))]
abbrev r0_26 (F:Nums):List Ins:=[.i 0 4 (.mov (.c (.bool false)))]
abbrev r0_27 (F:Nums):List Ins:=[.mv 0 98 11,.i 1 99 (.bin .eql (.s 98) (.c (.int .i64 10))),.mv 2 100 99,⟨3,(some 101),(some (100,true)),[],.mov (.s 13),0⟩,⟨4,(some 102),(some (100,true)),[],.ix (.s 101) (.c (.int .i64 0)) 4,0⟩,
 ⟨5,(some 103),(some (100,true)),[],.ldn (.s 102) 4,0⟩,⟨6,(some 104),(some (100,true)),[],.bld [.bool false,.int .i64 0,.int .i64 0,.int .i64 0] [(1,1,.c (.int .i64 1))],0⟩,
 ⟨7,(some 105),(some (100,true)),[],.eq true (.a [true,false,false,false]) (.s 103) (.s 104),0⟩,.i 8 106 (.pick (.s 100) (.s 105) (.c (.bool false)))]
abbrev r0_28 (F:Nums):List Ins:=[.i 0 4 (.mov (.c (.bool false)))]
abbrev r0_23 (F:Nums):List Ins:=[.mv 0 70 11,.i 1 71 (.bin .add (.s 70) (.c (.int .i64 1))),.mv 2 11 71]
abbrev r0_29 (F:Nums):List Ins:=[.i 0 4 (.mov (.c (.bool true)))]
abbrev c_law18_CoreEnds (F:Nums):Fn:=⟨2,[.tmp 4],(.seq (.reg [0,1] 0 (r0_0 F))
 (.seq (.seq (.reg [0,1,15] 0 (r0_1 F))
  (.cond (.s 15)
  (.seq (.reg [4] 0 (r0_2 F))
   .ret)
  .skip))
 (.seq (.reg [0,1] 0 (r0_3 F))
 (.seq (.reg [0,1] 0 (r0_4 F))
 (.seq (.reg [0,1,5] 0 (r0_5 F))
 (.seq (.reg [0,1,5] 0 (r0_6 F))
 (.seq (.reg [0,1,5] 0 (r0_7 F))
 (.seq (.reg [0,1,5] 0 (r0_8 F))
 (.seq (.reg [0,1,5,6] 1 (r0_9 F))
 (.seq (.seq (.reg [0,1,5,38] 0 (r0_10 F))
  (.cond (.s 38)
  (.seq (.reg [4] 0 (r0_11 F))
   .ret)
  .skip))
 (.seq (.seq (.reg [0,1,5,8] 0 (r0_12 F))
  (.blk 0
  (.loop
   (.seq (.seq (.reg [0,1,5,8,41] 0 (r0_13 F))
     (.cond (.s 41)
     .skip
     (.exit 0)))
    (.seq (.blk 1
     (.reg [0,1,5,8] 0 (r0_15 F)))
    (.reg [0,1,5,8] 0 (r0_14 F)))))))
 (.seq (.reg [0,1,5] 0 (r0_16 F))
 (.seq (.reg [0,1,5] 0 (r0_17 F))
 (.seq (.reg [0,1,5,9,10] 0 (r0_18 F))
 (.seq (.seq (.reg [1,5,65] 0 (r0_19 F))
  (.cond (.s 65)
  (.seq (.reg [4] 0 (r0_20 F))
   .ret)
  .skip))
 (.seq (.seq (.reg [1,5,11] 0 (r0_21 F))
  (.blk 2
  (.loop
   (.seq (.seq (.reg [1,5,11,69] 0 (r0_22 F))
     (.cond (.s 69)
     .skip
     (.exit 2)))
    (.seq (.blk 3
     (.seq (.reg [1,5,11,13] 1 (r0_24 F))
      (.seq (.seq (.reg [1,5,11,13,97] 0 (r0_25 F))
       (.cond (.s 97)
       (.seq (.reg [4] 0 (r0_26 F))
        .ret)
       .skip))
      (.seq (.reg [1,5,11,106] 0 (r0_27 F))
      (.cond (.s 106)
      (.seq (.reg [4] 0 (r0_28 F))
       .ret)
      .skip)))))
    (.reg [1,5,11] 0 (r0_23 F)))))))
 (.seq (.reg [4] 0 (r0_29 F))
 .ret)))))))))))))))))⟩
abbrev r1_0 (F:Nums):List Ins:=[.i 0 0 (.mov (.c (.bool false)))]
abbrev r1_1 (F:Nums):List Ins:=[.i 0 6 (.call (.c (.fn F.core_New [])) []),.mv 1 1 6]
abbrev r1_2 (F:Nums):List Ins:=[.mv 0 7 1,.i 1 8 (.eq false .p (.s 7) (.c (.nilp)))]
abbrev r1_3 (F:Nums):List Ins:=[.i 0 0 (.mov (.c (.bool false)))]
abbrev r1_4 (F:Nums):List Ins:=[.mv 0 9 1,.i 1 10 (.bld [.int .i64 0,.int .i64 0,.int .i64 0,.int .i64 0,.int .i64 0,.int .i64 0,.int .i64 0,.int .i64 0,.int .i64 0,.int .i64 0] [(0,1,.c (.int .i64 1)),(2,1,.c (.int .i64 1)),(3,1,.c (.int .i64 1))]),
 .i 2 11 (.call (.c (.fn F.core_Do [])) [.s 9,.s 10])]
abbrev r1_5 (F:Nums):List Ins:=[.mv 0 12 1,.i 1 13 (.bld [.int .i64 0,.int .i64 0,.int .i64 0,.int .i64 0,.int .i64 0,.int .i64 0,.int .i64 0,.int .i64 0,.int .i64 0,.int .i64 0] [(0,1,.c (.int .i64 2)),(6,1,.c (.int .i64 2)),(7,1,.c (.int .i64 1))]),
 .i 2 14 (.call (.c (.fn F.core_Do [])) [.s 12,.s 13])]
abbrev r1_6 (F:Nums):List Ins:=[.mv 0 15 1,.i 1 16 (.bld [.int .i64 0,.int .i64 0,.int .i64 0,.int .i64 0,.int .i64 0,.int .i64 0,.int .i64 0,.int .i64 0,.int .i64 0,.int .i64 0] [(0,1,.c (.int .i64 3)),(3,1,.c (.int .i64 2))]),
 .i 2 17 (.call (.c (.fn F.core_Do [])) [.s 15,.s 16])]
abbrev r1_7 (F:Nums):List Ins:=[.mv 0 19 1,.i 1 20 (.bld [.int .i64 0,.int .i64 0,.int .i64 0,.int .i64 0,.int .i64 0,.int .i64 0,.int .i64 0,.int .i64 0,.int .i64 0,.int .i64 0] [(0,1,.c (.int .i64 6))]),
 .i 2 21 (.call (.c (.fn F.core_Do [])) [.s 19,.s 20]),.mv 3 18 21,.e 4 22 18 0,.e 5 23 18 1,.i 6 2 (.alc 0 [.int .i64 0,.int .i64 0,.int .i64 0,.int .i64 0]),
 .j 7 (.stn (.s 2) (.s 22) 4),.mv 8 3 23]
abbrev r1_8 (F:Nums):List Ins:=[.mv 0 25 1,.i 1 26 (.bld [.int .i64 0,.int .i64 0,.int .i64 0,.int .i64 0,.int .i64 0,.int .i64 0,.int .i64 0,.int .i64 0,.int .i64 0,.int .i64 0] [(0,1,.c (.int .i64 6))]),
 .i 2 27 (.call (.c (.fn F.core_Do [])) [.s 25,.s 26]),.mv 3 24 27,.e 4 28 24 0,.e 5 29 24 1,.i 6 4 (.alc 0 [.int .i64 0,.int .i64 0,.int .i64 0,.int .i64 0]),
 .j 7 (.stn (.s 4) (.s 28) 4),.mv 8 5 29]
abbrev r1_9 (F:Nums):List Ins:=[.i 0 30 (.ldn (.s 2) 4),.i 1 31 (.bld [.int .i64 0,.int .i64 0,.int .i64 0,.int .i64 0] [(0,1,.c (.int .i64 3)),(1,1,.c (.int .i64 1))]),
 .i 2 32 (.eq false (.a [false,false,false,false]) (.s 30) (.s 31)),.mv 3 33 32,⟨4,(some 34),(some (33,true)),[],.mov (.s 3),0⟩,⟨5,(some 35),(some (33,true)),[],.len (.s 34),0⟩,
 ⟨6,(some 36),(some (33,true)),[],.bin .eql (.s 35) (.c (.int .i64 1)),0⟩,.i 7 37 (.pick (.s 33) (.s 36) (.c (.bool false))),.mv 8 38 37,
 ⟨9,(some 39),(some (38,true)),[],.mov (.s 3),0⟩,⟨10,(some 40),(some (38,true)),[],.ix (.s 39) (.c (.int .i64 0)) 4,0⟩,⟨11,(some 41),(some (38,true)),[],.ldn (.s 40) 4,0⟩,
 ⟨12,(some 42),(some (38,true)),[],.bld [.bool false,.int .i64 0,.int .i64 0,.int .i64 0] [(0,1,.c (.bool true)),(1,1,.c (.int .i64 1))],0⟩,
 ⟨13,(some 43),(some (38,true)),[],.eq false (.a [true,false,false,false]) (.s 41) (.s 42),0⟩,.i 14 44 (.pick (.s 38) (.s 43) (.c (.bool false))),
 .mv 15 45 44,⟨16,(some 46),(some (45,true)),[],.ldn (.s 4) 4,0⟩,⟨17,(some 47),(some (45,true)),[],.bld [.int .i64 0,.int .i64 0,.int .i64 0,.int .i64 0] [(0,1,.c (.int .i64 4)),(2,1,.c (.int .i64 2))],0⟩,
 ⟨18,(some 48),(some (45,true)),[],.eq false (.a [false,false,false,false]) (.s 46) (.s 47),0⟩,.i 19 49 (.pick (.s 45) (.s 48) (.c (.bool false))),
 .mv 20 0 49]
abbrev c_law18_head (F:Nums):Fn:=⟨0,[.tmp 0],(.seq (.reg [] 0 (r1_0 F))
 (.seq (.reg [1] 0 (r1_1 F))
 (.seq (.seq (.reg [1,8] 0 (r1_2 F))
  (.cond (.s 8)
  (.seq (.reg [0] 0 (r1_3 F))
   .ret)
  .skip))
 (.seq (.reg [1] 0 (r1_4 F))
 (.seq (.reg [1] 0 (r1_5 F))
 (.seq (.reg [1] 0 (r1_6 F))
 (.seq (.reg [1,2,3] 1 (r1_7 F))
 (.seq (.reg [2,3,4] 1 (r1_8 F))
 (.seq (.reg [0] 0 (r1_9 F))
 .ret)))))))))⟩
abbrev r2_0 (F:Nums):List Ins:=[.i 0 2 (.mov (.c (.nils)))]
abbrev r2_1 (F:Nums):List Ins:=[.i 0 3 (.mov (.c (.nils)))]
abbrev r2_2 (F:Nums):List Ins:=[.mv 0 6 0,.i 1 7 (.call (.c (.fn F.core_ids [])) [.s 6]),.i 2 8 (.len (.s 7)),.i 3 9 (.mov (.c (.int .i64 0)))]
abbrev r2_3 (F:Nums):List Ins:=[.b .lss 0 10 9 8]
abbrev r2_4 (F:Nums):List Ins:=[.x 0 11 7 9 1,.l 1 12 11,.mv 2 5 12]
abbrev r2_5 (F:Nums):List Ins:=[.mv 0 13 3,.mv 1 14 0,.ck 2 15 14,.f 3 16 15 7,.l 4 17 16,.mv 5 18 5,.i 6 19 (.look 1 (.s 17) (.s 18) (.nilp) false),.ck 7 20 19,.i 8 21 (.ldn (.s 20) 8),
 .i 9 22 (.bsl 0 [.int .i64 0,.int .i64 0,.int .i64 0,.int .i64 0,.int .i64 0,.bool false,.bool false,.int .i64 0] [(0,8,.s 21)] 1 8),
 .i 10 23 (.app 1 (.s 13) (.s 22) 8),.mv 11 3 23]
abbrev r2_6 (F:Nums):List Ins:=[.i 0 24 (.bin .add (.s 9) (.c (.int .i64 1))),.mv 1 9 24]
abbrev r2_7 (F:Nums):List Ins:=[.mv 0 25 3,.mv 1 2 25]
abbrev c_core_Boxes (F:Nums):Fn:=⟨1,[.tmp 2],(.seq (.reg [0] 0 (r2_0 F))
 (.seq (.reg [0,3] 0 (r2_1 F))
 (.seq (.seq (.reg [0,3,7,8,9] 0 (r2_2 F))
  (.blk 0
  (.loop
   (.seq (.reg [0,3,7,8,9,10] 0 (r2_3 F))
    (.seq (.cond (.s 10)
     .skip
     (.exit 0))
    (.seq (.blk 1
     (.seq (.reg [0,3,5,7,8,9] 0 (r2_4 F))
      (.reg [0,3,7,8,9] 2 (r2_5 F))))
    (.reg [0,3,7,8,9] 0 (r2_6 F))))))))
 (.seq (.reg [2] 0 (r2_7 F))
 .ret))))⟩
abbrev r3_0 (F:Nums):List Ins:=[.i 0 3 (.box 0 (.s 1)),.i 1 4 (.alc 1 [.int .i64 0,.int .i64 0,.int .i64 0,.int .i64 0]),.i 2 5 (.mov (.c (.nils)))]
abbrev r3_1 (F:Nums):List Ins:=[.i 0 7 (.ldn (.s 3) 10),.i 1 8 (.call (.c (.fn F.event_Event_Right [])) [.s 7]),.nt 2 9 8]
abbrev r3_2 (F:Nums):List Ins:=[.i 0 10 (.bld [.int .i64 0,.int .i64 0,.int .i64 0,.int .i64 0] [(0,1,.c (.int .i64 1)),(3,1,.c (.int .i64 1))]),.j 1 (.stn (.s 4) (.s 10) 4),
 .i 2 5 (.mov (.c (.nils)))]
abbrev r3_3 (F:Nums):List Ins:=[.mv 0 11 0,.ck 1 12 11,.f 2 13 12 10,.j 3 (.st (.s 13) (.c (.nils)))]
abbrev r3_4 (F:Nums):List Ins:=[.mv 0 14 0,.i 1 15 (.ldn (.s 3) 10),.i 2 16 (.call (.c (.fn F.core_act [])) [.s 14,.s 15]),.i 3 6 (.alc 0 [.int .i64 0,.int .i64 0,.int .i64 0,.int .i64 0]),
 .j 4 (.stn (.s 6) (.s 16) 4)]
abbrev r3_5 (F:Nums):List Ins:=[.mv 0 17 0,.f 1 18 6 0,.l 2 19 18,.ck 3 20 17,.f 4 21 20 11,.i 5 22 (.ixa (.s 21) (.s 19) 5 1),.i 6 23 (.call (.c (.fn F.tally_Add [])) [.s 22,.c (.int .i64 1)])]
abbrev r3_6 (F:Nums):List Ins:=[.i 0 24 (.ldn (.s 6) 4),.mv 1 25 0,.ck 2 26 25,.f 3 27 26 10,.l 4 28 27,⟨5,none,none,[(none,28,.ld (.s 27))],.stn (.s 4) (.s 24) 4,0⟩,
 .mv 6 5 28]
abbrev c_core_Do (F:Nums):Fn:=⟨2,[.cells 4 4,.tmp 5],(.seq (.reg [0,3,4] 2 (r3_0 F))
 (.seq (.seq (.reg [0,3,4,9] 0 (r3_1 F))
  (.cond (.s 9)
  (.seq (.reg [4,5] 0 (r3_2 F))
   .ret)
  .skip))
 (.seq (.reg [0,3,4] 0 (r3_3 F))
 (.seq (.reg [0,4,6] 1 (r3_4 F))
 (.seq (.reg [0,4,6] 0 (r3_5 F))
 (.seq (.reg [4,5] 0 (r3_6 F))
 .ret))))))⟩
abbrev r4_0 (F:Nums):List Ins:=[.i 0 4 (.mov (.c (.int .i64 0)))]
abbrev r4_1 (F:Nums):List Ins:=[.mv 0 5 0,.ck 1 6 5,.f 2 7 6 2,.l 3 8 7,.mv 4 9 1,.i 5 10 (.call (.c (.fn F.quota_Busy [])) [.s 8,.s 9]),.mv 6 4 10]
abbrev c_core_Busy (F:Nums):Fn:=⟨2,[.tmp 4],(.seq (.reg [0,1] 0 (r4_0 F))
 (.seq (.reg [4] 0 (r4_1 F))
 .ret))⟩
abbrev r5_0 (F:Nums):List Ins:=[.i 0 0 (.mov (.c (.nilp)))]
abbrev r5_1 (F:Nums):List Ins:=[.i 0 1 (.call (.c (.fn F.quota_New [])) []),.i 1 2 (.mkm 0 1),.i 2 3 (.mkm 1 1),⟨3,(some 4),none,[],.call (.c (.fn F.host_New [])) [],2⟩,
 .i 4 5 (.mkm 0 1),.i 5 6 (.mkm 1 1),.i 6 7 (.mkm 2 1),⟨7,(some 8),none,[],.call (.c (.fn F.timer_New [])) [],3⟩,.i 8 9 (.bld [.int .i64 0,.int .i64 0,.nilp,.nilm,.nilm,.nilp,.nilm,.nilm,.nilm,.nilp,.nils,.int .i64 0,.int .i64 0,.int .i64 0,.int .i64 0,.int .i64 0] [(1,1,.c (.int .i64 1)),(2,1,.s 1),(3,1,.s 2),(4,1,.s 3),(5,1,.s 4),(6,1,.s 5),(7,1,.s 6),(8,1,.s 7),(9,1,.s 8)]),
 .i 9 10 (.box 0 (.s 9)),.mv 10 0 10]
abbrev c_core_New (F:Nums):Fn:=⟨0,[.tmp 0],(.seq (.reg [] 0 (r5_0 F))
 (.seq (.reg [0] 1 (r5_1 F))
 .ret))⟩
abbrev r6_0 (F:Nums):List Ins:=[.i 0 4 (.mov (.c (.int .i64 0)))]
abbrev r6_1 (F:Nums):List Ins:=[.mv 0 5 0,.ck 1 6 5,.f 2 7 6 5,.l 3 8 7,.mv 4 9 1,.i 5 10 (.call (.c (.fn F.host_Free [])) [.s 8,.s 9]),.mv 6 4 10]
abbrev c_core_Free (F:Nums):Fn:=⟨2,[.tmp 4],(.seq (.reg [0,1] 0 (r6_0 F))
 (.seq (.reg [4] 0 (r6_1 F))
 .ret))⟩
abbrev r7_0 (F:Nums):List Ins:=[.i 0 4 (.mov (.c (.int .i64 0))),.i 1 5 (.mov (.c (.bool false)))]
abbrev r7_1 (F:Nums):List Ins:=[.mv 0 6 0,.ck 1 7 6,.f 2 8 7 9,.l 3 9 8,.mv 4 10 1,.i 5 11 (.bld [.int .i64 0,.int .i64 0] [(0,1,.c (.int .i64 0)),(1,1,.s 10)]),
 .i 6 12 (.call (.c (.fn F.timer_At [])) [.s 9,.s 11]),.e 7 13 12 0,.e 8 14 12 1,.mv 9 4 13,.mv 10 5 14]
abbrev c_core_Ends (F:Nums):Fn:=⟨2,[.tmp 4,.tmp 5],(.seq (.reg [0,1] 0 (r7_0 F))
 (.seq (.reg [4,5] 0 (r7_1 F))
 .ret))⟩
abbrev r8_0 (F:Nums):List Ins:=[.i 0 2 (.mov (.c (.int .i64 0)))]
abbrev r8_1 (F:Nums):List Ins:=[.mv 0 3 0,.ck 1 4 3,.f 2 5 4 0,.l 3 6 5,.mv 4 2 6]
abbrev c_core_Now (F:Nums):Fn:=⟨1,[.tmp 2],(.seq (.reg [0] 0 (r8_0 F))
 (.seq (.reg [2] 0 (r8_1 F))
 .ret))⟩
abbrev r9_0 (F:Nums):List Ins:=[.i 0 2 (.mov (.c (.nils)))]
abbrev r9_1 (F:Nums):List Ins:=[.mv 0 3 0,.ck 1 4 3,.f 2 5 4 7,.l 3 6 5,.i 4 7 (.call (.c (.fn F.Keys_box [])) [.s 6]),.i 5 8 (.call (.c (.fn F.slices_Sorted [])) [.s 7]),
 .mv 6 2 8]
abbrev c_core_ids (F:Nums):Fn:=⟨1,[.tmp 2],(.seq (.reg [0] 0 (r9_0 F))
 (.seq (.reg [2] 0 (r9_1 F))
 .ret))⟩
abbrev r10_0 (F:Nums):List Ins:=[.i 0 1 (.box 0 (.s 0)),.i 1 2 (.mov (.c (.bool false)))]
abbrev r10_1 (F:Nums):List Ins:=[.i 0 8 (.call (.c (.fn F.event_Event_parts [])) [.s 1]),.mv 1 3 8]
abbrev r10_2 (F:Nums):List Ins:=[.f 0 9 1 0,.l 1 10 9,.i 2 11 (.bld [.int .i64 0,.int .i64 0,.int .i64 0,.int .i64 0,.int .i64 0,.int .i64 0,.int .i64 0,.int .i64 0,.int .i64 0,.int .i64 0] [(0,1,.s 10)]),
 .i 3 4 (.alc 0 [.int .i64 0,.int .i64 0,.int .i64 0,.int .i64 0,.int .i64 0,.int .i64 0,.int .i64 0,.int .i64 0,.int .i64 0,.int .i64 0]),
 .j 4 (.stn (.s 4) (.s 11) 10)]
abbrev r10_3 (F:Nums):List Ins:=[.i 0 12 (.call (.c (.fn F.event_Event_parts [])) [.s 4]),.mv 1 5 12]
abbrev r10_4 (F:Nums):List Ins:=[.mv 0 13 3,.i 1 14 (.len (.s 13)),.i 2 15 (.mov (.c (.int .i64 0)))]
abbrev r10_5 (F:Nums):List Ins:=[.b .lss 0 16 15 14]
abbrev r10_6 (F:Nums):List Ins:=[.mv 0 17 15,.x 1 18 13 15 1,.l 2 19 18,.mv 3 6 17,.mv 4 7 19]
abbrev r10_7 (F:Nums):List Ins:=[.mv 0 20 7,.ck 1 21 20,.l 2 22 21,.i 3 23 (.bin .lss (.s 22) (.c (.int .i64 0))),.mv 4 24 23,⟨5,(some 25),(some (24,false)),[],.mov (.s 7),0⟩,
 ⟨6,(some 26),(some (24,false)),[],.chk (.s 25),0⟩,⟨7,(some 27),(some (24,false)),[],.ld (.s 26),0⟩,⟨8,(some 28),(some (24,false)),[],.bin .gtr (.s 27) (.c (.int .i64 2147483647)),0⟩,
 .i 9 29 (.pick (.s 24) (.c (.bool true)) (.s 28))]
abbrev r10_8 (F:Nums):List Ins:=[.i 0 2 (.mov (.c (.bool false)))]
abbrev r10_9 (F:Nums):List Ins:=[.mv 0 30 5,.mv 1 31 6,.x 2 32 30 31 1,.l 3 33 32,.mv 4 34 7,.ck 5 35 34,.l 6 36 35,.ck 7 37 33,.st 8 37 36]
abbrev r10_10 (F:Nums):List Ins:=[.i 0 38 (.bin .add (.s 15) (.c (.int .i64 1))),.mv 1 15 38]
abbrev r10_11 (F:Nums):List Ins:=[.mv 0 39 3,.i 1 40 (.eq true .s (.s 39) (.c (.nils))),.mv 2 41 40,⟨3,(some 42),(some (41,true)),[],.ldn (.s 4) 10,0⟩,⟨4,(some 43),(some (41,true)),[],.ldn (.s 1) 10,0⟩,
 ⟨5,(some 44),(some (41,true)),[],.eq false (.a [false,false,false,false,false,false,false,false,false,false]) (.s 42) (.s 43),0⟩,
 .i 6 45 (.pick (.s 41) (.s 44) (.c (.bool false))),.mv 7 2 45]
abbrev c_event_Event_Right (F:Nums):Fn:=⟨1,[.tmp 2],(.seq (.reg [1] 1 (r10_0 F))
 (.seq (.reg [1,3] 0 (r10_1 F))
 (.seq (.reg [1,3,4] 1 (r10_2 F))
 (.seq (.reg [1,3,4,5] 0 (r10_3 F))
 (.seq (.seq (.reg [1,3,4,5,13,14,15] 0 (r10_4 F))
  (.blk 0
  (.loop
   (.seq (.reg [1,3,4,5,13,14,15,16] 0 (r10_5 F))
    (.seq (.cond (.s 16)
     .skip
     (.exit 0))
    (.seq (.blk 1
     (.seq (.reg [1,3,4,5,6,7,13,14,15] 0 (r10_6 F))
      (.seq (.seq (.reg [1,3,4,5,6,7,13,14,15,29] 0 (r10_7 F))
       (.cond (.s 29)
       (.seq (.reg [2] 0 (r10_8 F))
        .ret)
       .skip))
      (.reg [1,3,4,5,13,14,15] 0 (r10_9 F)))))
    (.reg [1,3,4,5,13,14,15] 0 (r10_10 F))))))))
 (.seq (.reg [2] 0 (r10_11 F))
 .ret))))))⟩
abbrev r11_0 (F:Nums):List Ins:=[.i 0 3 (.box 0 (.s 1)),.i 1 4 (.alc 1 [.int .i64 0,.int .i64 0,.int .i64 0,.int .i64 0])]
abbrev r11_1 (F:Nums):List Ins:=[.i 0 5 (.mov (.c (.int .i64 0)))]
abbrev r11_2 (F:Nums):List Ins:=[.f 0 6 3 0,.l 1 7 6]
abbrev r11_4 (F:Nums):List Ins:=[.i 0 13 (.bin .eql (.s 7) (.c (.int .i64 0))),.mv 1 12 13]
abbrev r11_5 (F:Nums):List Ins:=[.mv 0 14 0,.i 1 15 (.call (.c (.fn F.core_tick [])) [.s 14])]
abbrev r11_6 (F:Nums):List Ins:=[.i 0 17 (.bin .eql (.s 7) (.c (.int .i64 1))),.mv 1 16 17]
abbrev r11_7 (F:Nums):List Ins:=[.mv 0 18 0,.i 1 19 (.ldn (.s 3) 10),.i 2 20 (.call (.c (.fn F.core_account [])) [.s 18,.s 19]),.mv 3 5 20]
abbrev r11_8 (F:Nums):List Ins:=[.i 0 22 (.bin .eql (.s 7) (.c (.int .i64 2))),.mv 1 21 22]
abbrev r11_9 (F:Nums):List Ins:=[.mv 0 23 0,.i 1 24 (.ldn (.s 3) 10),.i 2 25 (.call (.c (.fn F.core_function [])) [.s 23,.s 24]),.mv 3 5 25]
abbrev r11_10 (F:Nums):List Ins:=[.i 0 27 (.bin .eql (.s 7) (.c (.int .i64 3))),.mv 1 26 27]
abbrev r11_11 (F:Nums):List Ins:=[.mv 0 28 0,.ck 1 29 28,.f 2 30 29 5,.l 3 31 30,.f 4 32 3 1,.l 5 33 32,.f 6 34 3 3,.l 7 35 34,.i 8 36 (.call (.c (.fn F.host_Add [])) [.s 31,.s 33,.s 35]),
 .mv 9 5 36]
abbrev r11_12 (F:Nums):List Ins:=[.mv 0 37 5,.i 1 38 (.bin .eql (.s 37) (.c (.int .i64 0)))]
abbrev r11_13 (F:Nums):List Ins:=[.mv 0 39 0,.ck 1 40 39,.f 2 41 40 6,.l 3 42 41,.f 4 43 3 1,.l 5 44 43,.j 6 (.mupd 1 (.s 42) (.s 44) (.c (.nilp)))]
abbrev r11_14 (F:Nums):List Ins:=[.mv 0 45 0,.i 1 46 (.call (.c (.fn F.core_keepAll [])) [.s 45])]
abbrev r11_15 (F:Nums):List Ins:=[.i 0 48 (.bin .eql (.s 7) (.c (.int .i64 4))),.mv 1 47 48]
abbrev r11_16 (F:Nums):List Ins:=[.mv 0 49 0,.f 1 50 3 1,.l 2 51 50,.i 3 52 (.call (.c (.fn F.core_drain [])) [.s 49,.s 51]),.mv 4 5 52]
abbrev r11_17 (F:Nums):List Ins:=[.i 0 54 (.bin .eql (.s 7) (.c (.int .i64 5))),.mv 1 53 54]
abbrev r11_18 (F:Nums):List Ins:=[.mv 0 55 0,.f 1 56 3 1,.l 2 57 56,.i 3 58 (.call (.c (.fn F.core_fail [])) [.s 55,.s 57]),.mv 4 5 58]
abbrev r11_19 (F:Nums):List Ins:=[.i 0 60 (.bin .eql (.s 7) (.c (.int .i64 6))),.mv 1 59 60]
abbrev r11_20 (F:Nums):List Ins:=[.mv 0 61 0,.f 1 62 3 1,.l 2 63 62,.i 3 64 (.call (.c (.fn F.core_call [])) [.s 61,.s 63]),.j 4 (.stn (.s 4) (.s 64) 4)]
abbrev r11_21 (F:Nums):List Ins:=[.i 0 66 (.bin .eql (.s 7) (.c (.int .i64 7))),.mv 1 65 66]
abbrev r11_22 (F:Nums):List Ins:=[.mv 0 67 0,.f 1 68 3 1,.l 2 69 68,.i 3 70 (.call (.c (.fn F.core_booted [])) [.s 67,.s 69]),.mv 4 5 70]
abbrev r11_23 (F:Nums):List Ins:=[.i 0 72 (.bin .eql (.s 7) (.c (.int .i64 8))),.mv 1 71 72]
abbrev r11_24 (F:Nums):List Ins:=[.mv 0 73 0,.f 1 74 3 1,.l 2 75 74,.i 3 76 (.call (.c (.fn F.core_broke [])) [.s 73,.s 75]),.mv 4 5 76]
abbrev r11_3 (F:Nums):List Ins:=[.mv 0 8 0,.f 1 9 3 1,.l 2 10 9,.i 3 11 (.call (.c (.fn F.core_done [])) [.s 8,.s 10]),.mv 4 5 11]
abbrev r11_25 (F:Nums):List Ins:=[.mv 0 77 5,.i 1 78 (.bin .neq (.s 77) (.c (.int .i64 0)))]
abbrev r11_26 (F:Nums):List Ins:=[.mv 0 79 5,.i 1 80 (.bld [.int .i64 0,.int .i64 0,.int .i64 0,.int .i64 0] [(0,1,.c (.int .i64 1)),(3,1,.s 79)]),.j 2 (.stn (.s 4) (.s 80) 4)]
abbrev r11_27 (F:Nums):List Ins:=[.i 0 81 (.bld [.int .i64 0,.int .i64 0,.int .i64 0,.int .i64 0] []),.j 1 (.stn (.s 4) (.s 81) 4)]
abbrev c_core_act (F:Nums):Fn:=⟨2,[.cells 4 4],(.seq (.reg [0,3,4] 2 (r11_0 F))
 (.seq (.reg [0,3,4,5] 0 (r11_1 F))
 (.seq (.seq (.reg [0,3,4,5,7] 0 (r11_2 F))
  (.blk 0
  (.seq (.reg [0,3,4,5,7,12] 0 (r11_4 F))
   (.cond (.s 12)
   (.reg [4,5] 0 (r11_5 F))
   (.seq (.reg [0,3,4,7,16] 0 (r11_6 F))
    (.cond (.s 16)
    (.reg [4,5] 0 (r11_7 F))
    (.seq (.reg [0,3,4,7,21] 0 (r11_8 F))
     (.cond (.s 21)
     (.reg [4,5] 0 (r11_9 F))
     (.seq (.reg [0,3,4,7,26] 0 (r11_10 F))
      (.cond (.s 26)
      (.seq (.reg [0,3,4,5] 0 (r11_11 F))
       (.seq (.reg [0,3,4,5,38] 0 (r11_12 F))
       (.cond (.s 38)
       (.seq (.reg [0,4,5] 0 (r11_13 F))
        (.reg [4,5] 0 (r11_14 F)))
       .skip)))
      (.seq (.reg [0,3,4,7,47] 0 (r11_15 F))
       (.cond (.s 47)
       (.reg [4,5] 0 (r11_16 F))
       (.seq (.reg [0,3,4,7,53] 0 (r11_17 F))
        (.cond (.s 53)
        (.reg [4,5] 0 (r11_18 F))
        (.seq (.reg [0,3,4,7,59] 0 (r11_19 F))
         (.cond (.s 59)
         (.seq (.reg [4] 0 (r11_20 F))
          .ret)
         (.seq (.reg [0,3,4,7,65] 0 (r11_21 F))
          (.cond (.s 65)
          (.reg [4,5] 0 (r11_22 F))
          (.seq (.reg [0,3,4,71] 0 (r11_23 F))
           (.cond (.s 71)
           (.reg [4,5] 0 (r11_24 F))
           (.reg [4,5] 0 (r11_3 F))))))))))))))))))))))
 (.seq (.seq (.reg [4,5,78] 0 (r11_25 F))
  (.cond (.s 78)
  (.seq (.reg [4] 0 (r11_26 F))
   .ret)
  .skip))
 (.seq (.reg [4] 0 (r11_27 F))
 .ret)))))⟩
abbrev r12_0 (F:Nums):List Ins:=[.i 0 4 (.mov (.c (.int .i64 0)))]
abbrev r12_1 (F:Nums):List Ins:=[.mv 0 7 0,.ck 1 8 7,.f 2 9 8 0,.i 3 10 (.call (.c (.fn F.sync_atomic_Int64_Load [])) [.s 9]),.mv 4 5 10]
abbrev r12_2 (F:Nums):List Ins:=[.mv 0 11 5,.mv 1 12 1,.i 2 13 (.call (.c (.fn F.num_Add [])) [.s 11,.s 12]),.mv 3 6 13]
abbrev r12_3 (F:Nums):List Ins:=[.mv 0 14 0,.ck 1 15 14,.f 2 16 15 0,.mv 3 17 5,.mv 4 18 6,.i 5 19 (.call (.c (.fn F.sync_atomic_Int64_CompareAndSwap [])) [.s 16,.s 17,.s 18])]
abbrev r12_4 (F:Nums):List Ins:=[.mv 0 20 6,.mv 1 4 20]
abbrev c_tally_Add (F:Nums):Fn:=⟨2,[.tmp 4],(.seq (.reg [0,1] 0 (r12_0 F))
 (.blk 0
 (.loop
  (.blk 1
   (.seq (.reg [0,1,5] 0 (r12_1 F))
    (.seq (.reg [0,1,5,6] 0 (r12_2 F))
    (.seq (.reg [0,1,6,19] 0 (r12_3 F))
    (.cond (.s 19)
    (.seq (.reg [4] 0 (r12_4 F))
     .ret)
    .skip))))))))⟩
abbrev r13_0 (F:Nums):List Ins:=[.i 0 4 (.mov (.c (.int .i64 0)))]
abbrev r13_1 (F:Nums):List Ins:=[.mv 0 5 0,.mv 1 6 1,.i 2 7 (.call (.c (.fn F.quota_known [])) [.s 5,.s 6]),.nt 3 8 7]
abbrev r13_2 (F:Nums):List Ins:=[.i 0 4 (.mov (.c (.int .i64 0)))]
abbrev r13_3 (F:Nums):List Ins:=[.mv 0 9 0,.mv 1 10 1,.ck 2 11 9,.f 3 12 11 32,.i 4 13 (.ixa (.s 12) (.s 10) 64 4),.f 5 14 13 3,.l 6 15 14,.mv 7 4 15]
abbrev c_quota_Busy (F:Nums):Fn:=⟨2,[.tmp 4],(.seq (.reg [0,1] 0 (r13_0 F))
 (.seq (.seq (.reg [0,1,8] 0 (r13_1 F))
  (.cond (.s 8)
  (.seq (.reg [4] 0 (r13_2 F))
   .ret)
  .skip))
 (.seq (.reg [4] 0 (r13_3 F))
 .ret)))⟩
abbrev r14_0 (F:Nums):List Ins:=[.i 0 0 (.mov (.c (.nilp)))]
abbrev r14_1 (F:Nums):List Ins:=[.i 0 1 (.bld ((List.replicate 17 [.bool false,.int .i64 0]).flatten++(List.replicate 63 [.int .i64 0,.int .i64 0,.bool false,.int .i64 0]).flatten++[.int .i64 0,.int .i64 0]) []),
 .i 1 2 (.box 0 (.s 1)),.mv 2 0 2]
abbrev c_quota_New (F:Nums):Fn:=⟨0,[.tmp 0],(.seq (.reg [] 0 (r14_0 F))
 (.seq (.reg [0] 1 (r14_1 F))
 .ret))⟩
abbrev r15_0 (F:Nums):List Ins:=[.i 0 0 (.mov (.c (.nilp)))]
abbrev r15_1 (F:Nums):List Ins:=[.i 0 1 (.bld ((List.replicate 32 [.bool false,.bool false,.int .i64 0,.int .i64 0]).flatten) []),.i 1 2 (.box 0 (.s 1)),.mv 2 0 2]
abbrev c_host_New (F:Nums):Fn:=⟨0,[.tmp 0],(.seq (.reg [] 0 (r15_0 F))
 (.seq (.reg [0] 1 (r15_1 F))
 .ret))⟩
abbrev r16_0 (F:Nums):List Ins:=[.i 0 0 (.mov (.c (.nilp)))]
abbrev r16_1 (F:Nums):List Ins:=[.i 0 1 (.call (.c (.fn F.theap_New [])) [.c (.fn F.timer_less [])]),.i 1 2 (.bld [.nilp] [(0,1,.s 1)]),.i 2 3 (.box 0 (.s 2)),.mv 3 0 3]
abbrev c_timer_New (F:Nums):Fn:=⟨0,[.tmp 0],(.seq (.reg [] 0 (r16_0 F))
 (.seq (.reg [0] 1 (r16_1 F))
 .ret))⟩
abbrev r17_0 (F:Nums):List Ins:=[.i 0 4 (.mov (.c (.int .i64 0)))]
abbrev r17_1 (F:Nums):List Ins:=[.mv 0 5 0,.mv 1 6 1,.i 2 7 (.call (.c (.fn F.host_there [])) [.s 5,.s 6]),.nt 3 8 7]
abbrev r17_2 (F:Nums):List Ins:=[.i 0 4 (.mov (.c (.int .i64 0)))]
abbrev r17_3 (F:Nums):List Ins:=[.mv 0 9 0,.mv 1 10 1,.ck 2 11 9,.f 3 12 11 0,.i 4 13 (.ixa (.s 12) (.s 10) 32 4),.f 5 14 13 2,.l 6 15 14,.mv 7 16 0,.mv 8 17 1,.ck 9 18 16,
 .f 10 19 18 0,.i 11 20 (.ixa (.s 19) (.s 17) 32 4),.f 12 21 20 3,.l 13 22 21,.b .sub 14 23 15 22,.mv 15 4 23]
abbrev c_host_Free (F:Nums):Fn:=⟨2,[.tmp 4],(.seq (.reg [0,1] 0 (r17_0 F))
 (.seq (.seq (.reg [0,1,8] 0 (r17_1 F))
  (.cond (.s 8)
  (.seq (.reg [4] 0 (r17_2 F))
   .ret)
  .skip))
 (.seq (.reg [4] 0 (r17_3 F))
 .ret)))⟩
abbrev r18_0 (F:Nums):List Ins:=[.i 0 3 (.box 0 (.s 1)),.i 1 4 (.mov (.c (.int .i64 0))),.i 2 5 (.mov (.c (.bool false)))]
abbrev r18_1 (F:Nums):List Ins:=[.mv 0 9 0,.ck 1 10 9,.f 2 11 10 0,.l 3 12 11,.i 4 13 (.ldn (.s 3) 2),.i 9 6 (.alc 0 [.int .i64 0,.int .i64 0,.int .i64 0]),⟨5,(some 14),none,[],.call (.c (.fn F.theap_Get [])) [.s 12,.s 13],1⟩,
 .mv 6 8 14,.e 7 15 8 0,.e 8 16 8 1,.j 10 (.stn (.s 6) (.s 15) 3),.mv 11 7 16]
abbrev r18_2 (F:Nums):List Ins:=[.f 0 17 6 0,.l 1 18 17,.mv 2 19 7,.mv 3 4 18,.mv 4 5 19]
abbrev c_timer_At (F:Nums):Fn:=⟨2,[.tmp 4,.tmp 5],(.seq (.reg [0,3] 1 (r18_0 F))
 (.seq (.reg2 [6,7] 1 9 5 (r18_1 F))
 (.seq (.reg [4,5] 0 (r18_2 F))
 .ret)))⟩
abbrev r19_0 (F:Nums):List Ins:=[.i 0 2 (.mov (.c (.nils)))]
abbrev r19_1 (F:Nums):List Ins:=[.mv 0 4 0,.i 1 5 (.call (.c (.fn F.slices_Collect [])) [.s 4]),.mv 2 3 5]
abbrev r19_2 (F:Nums):List Ins:=[.mv 0 6 3,.i 1 7 (.call (.c (.fn F.slices_Sort [])) [.s 6])]
abbrev r19_3 (F:Nums):List Ins:=[.mv 0 8 3,.mv 1 2 8]
abbrev c_slices_Sorted (F:Nums):Fn:=⟨1,[.tmp 2],(.seq (.reg [0] 0 (r19_0 F))
 (.seq (.reg [3] 0 (r19_1 F))
 (.seq (.reg [3] 0 (r19_2 F))
 (.seq (.reg [2] 0 (r19_3 F))
 .ret))))⟩
abbrev r20_0 (F:Nums):List Ins:=[.i 0 1 (.box 0 (.s 0)),.i 1 2 (.mov (.c (.nilf)))]
abbrev r20_1 (F:Nums):List Ins:=[.i 0 3 (.mkf F.Keys_box_1 [.s 1]),.mv 1 2 3]
abbrev c_Keys_box (F:Nums):Fn:=⟨1,[.tmp 2],(.seq (.reg [1] 1 (r20_0 F))
 (.seq (.reg [2] 0 (r20_1 F))
 .ret))⟩
abbrev r21_0 (F:Nums):List Ins:=[.i 0 2 (.mov (.c (.nils)))]
abbrev r21_1 (F:Nums):List Ins:=[.mv 0 3 0,.ck 1 4 3,.f 2 5 4 0,.l 3 6 5]
abbrev r21_2 (F:Nums):List Ins:=[.i 0 8 (.bin .eql (.s 6) (.c (.int .i64 0))),.mv 1 7 8]
abbrev r21_3 (F:Nums):List Ins:=[.i 0 9 (.bsl 0 [] [] 0 1),.mv 1 2 9]
abbrev r21_4 (F:Nums):List Ins:=[.i 0 11 (.bin .eql (.s 6) (.c (.int .i64 1))),.mv 1 10 11]
abbrev r21_5 (F:Nums):List Ins:=[.mv 0 12 0,.ck 1 13 12,.f 2 14 13 1,.mv 3 15 0,.ck 4 16 15,.f 5 17 16 2,.mv 6 18 0,.ck 7 19 18,.f 8 20 19 3,.mv 9 21 0,.ck 10 22 21,
 .f 11 23 22 4,.i 12 24 (.bsl 0 [.nilp,.nilp,.nilp,.nilp] [(0,1,.s 14),(1,1,.s 17),(2,1,.s 20),(3,1,.s 23)] 4 1),.mv 13 2 24]
abbrev r21_6 (F:Nums):List Ins:=[.i 0 26 (.bin .eql (.s 6) (.c (.int .i64 2))),.mv 1 25 26]
abbrev r21_7 (F:Nums):List Ins:=[.mv 0 27 0,.ck 1 28 27,.f 2 29 28 1,.mv 3 30 0,.ck 4 31 30,.f 5 32 31 5,.mv 6 33 0,.ck 7 34 33,.f 8 35 34 6,.mv 9 36 0,.ck 10 37 36,
 .f 11 38 37 7,.mv 12 39 0,.ck 13 40 39,.f 14 41 40 8,.mv 15 42 0,.ck 16 43 42,.f 17 44 43 9,.i 18 45 (.bsl 0 [.nilp,.nilp,.nilp,.nilp,.nilp,.nilp] [(0,1,.s 29),(1,1,.s 32),(2,1,.s 35),(3,1,.s 38),(4,1,.s 41),(5,1,.s 44)] 6 1),
 .mv 19 2 45]
abbrev r21_8 (F:Nums):List Ins:=[.i 0 47 (.bin .eql (.s 6) (.c (.int .i64 3))),.mv 1 46 47]
abbrev r21_9 (F:Nums):List Ins:=[.mv 0 48 0,.ck 1 49 48,.f 2 50 49 1,.mv 3 51 0,.ck 4 52 51,.f 5 53 52 3,.i 6 54 (.bsl 0 [.nilp,.nilp] [(0,1,.s 50),(1,1,.s 53)] 2 1),
 .mv 7 2 54]
abbrev r21_10 (F:Nums):List Ins:=[.i 0 56 (.bin .eql (.s 6) (.c (.int .i64 4))),.mv 1 55 56]
abbrev r21_11 (F:Nums):List Ins:=[.i 0 57 (.bin .eql (.s 6) (.c (.int .i64 5))),.mv 1 55 57]
abbrev r21_12 (F:Nums):List Ins:=[.i 0 58 (.bin .eql (.s 6) (.c (.int .i64 6))),.mv 1 55 58]
abbrev r21_13 (F:Nums):List Ins:=[.i 0 59 (.bin .eql (.s 6) (.c (.int .i64 7))),.mv 1 55 59]
abbrev r21_14 (F:Nums):List Ins:=[.i 0 60 (.bin .eql (.s 6) (.c (.int .i64 8))),.mv 1 55 60]
abbrev r21_15 (F:Nums):List Ins:=[.i 0 61 (.bin .eql (.s 6) (.c (.int .i64 9))),.mv 1 55 61]
abbrev r21_16 (F:Nums):List Ins:=[.mv 0 62 0,.ck 1 63 62,.f 2 64 63 1,.i 3 65 (.bsl 0 [.nilp] [(0,1,.s 64)] 1 1),.mv 4 2 65]
abbrev r21_17 (F:Nums):List Ins:=[.i 0 2 (.mov (.c (.nils)))]
abbrev c_event_Event_parts (F:Nums):Fn:=⟨1,[.tmp 2],(.seq (.reg [0] 0 (r21_0 F))
 (.seq (.seq (.reg [0,6] 0 (r21_1 F))
  (.blk 0
  (.seq (.reg [0,6,7] 0 (r21_2 F))
   (.cond (.s 7)
   (.seq (.reg [2] 1 (r21_3 F))
    .ret)
   (.seq (.reg [0,6,10] 0 (r21_4 F))
    (.cond (.s 10)
    (.seq (.reg [2] 1 (r21_5 F))
     .ret)
    (.seq (.reg [0,6,25] 0 (r21_6 F))
     (.cond (.s 25)
     (.seq (.reg [2] 1 (r21_7 F))
      .ret)
     (.seq (.reg [0,6,46] 0 (r21_8 F))
      (.cond (.s 46)
      (.seq (.reg [2] 1 (r21_9 F))
       .ret)
      (.seq (.seq (.reg [0,6,55] 0 (r21_10 F))
        (.cond (.s 55)
        .skip
        (.seq (.reg [0,6,55] 0 (r21_11 F))
         (.cond (.s 55)
         .skip
         (.seq (.reg [0,6,55] 0 (r21_12 F))
          (.cond (.s 55)
          .skip
          (.seq (.reg [0,6,55] 0 (r21_13 F))
           (.cond (.s 55)
           .skip
           (.seq (.reg [0,6,55] 0 (r21_14 F))
            (.cond (.s 55)
            .skip
            (.reg [0,55] 0 (r21_15 F))))))))))))
       (.cond (.s 55)
       (.seq (.reg [2] 1 (r21_16 F))
        .ret)
       .skip))))))))))))
 (.seq (.reg [2] 0 (r21_17 F))
 .ret)))⟩
abbrev r22_0 (F:Nums):List Ins:=[.mv 0 6 0,.ck 1 7 6,.f 2 8 7 0,.l 3 9 8,.i 4 10 (.bin .eql (.s 9) (.c (.int .i64 1099511627776)))]
abbrev r22_1 (F:Nums):List Ins:=[.mv 0 11 0,.ck 1 12 11,.f 2 13 12 0,.l 3 14 13,.i 4 15 (.bin .add (.s 14) (.c (.int .i64 1))),.ck 5 16 11,.f 6 17 16 0,.st 7 17 15]
abbrev r22_2 (F:Nums):List Ins:=[.mv 0 18 0,.ck 1 19 18,.f 2 20 19 3,.l 3 21 20,.i 4 22 (.rng 0 (.s 21))]
abbrev r22_3 (F:Nums):List Ins:=[.i 0 23 (.nxt (.s 22)),.e 1 24 23 0]
abbrev r22_4 (F:Nums):List Ins:=[.i 0 25 (.ent (.s 22)),.e 1 26 25 1,.mv 2 3 26]
abbrev r22_5 (F:Nums):List Ins:=[.mv 0 27 3,.i 1 28 (.call (.c (.fn F.bucket_Tick [])) [.s 27])]
abbrev r22_6 (F:Nums):List Ins:=[.mv 0 30 0,.ck 1 31 30,.f 2 32 31 9,.l 3 33 32,.mv 4 34 0,.ck 5 35 34,.f 6 36 35 0,.l 7 37 36,.i 12 4 (.alc 0 [.int .i64 0,.int .i64 0]),
 ⟨8,(some 38),none,[],.call (.c (.fn F.timer_Next [])) [.s 33,.s 37],1⟩,.mv 9 29 38,.e 10 39 29 0,.e 11 40 29 1,.j 13 (.stn (.s 4) (.s 39) 2),
 .mv 14 5 40]
abbrev r22_7 (F:Nums):List Ins:=[.mv 0 41 5,.nt 1 42 41]
abbrev r22_8 (F:Nums):List Ins:=[.f 0 43 4 0,.l 1 44 43,.i 2 45 (.bin .eql (.s 44) (.c (.int .i64 0)))]
abbrev r22_9 (F:Nums):List Ins:=[.mv 0 46 0,.mv 1 47 0,.ck 2 48 47,.f 3 49 48 7,.l 4 50 49,.f 5 51 4 1,.l 6 52 51,.i 7 53 (.look 1 (.s 50) (.s 52) (.nilp) false),.i 8 54 (.call (.c (.fn F.core_kill [])) [.s 46,.s 53])]
abbrev r22_10 (F:Nums):List Ins:=[.mv 0 55 0,.f 1 56 4 1,.l 2 57 56,.i 3 58 (.call (.c (.fn F.core_ahead [])) [.s 55,.s 57])]
abbrev r22_11 (F:Nums):List Ins:=[.mv 0 59 0,.i 1 60 (.call (.c (.fn F.core_keepAll [])) [.s 59])]
abbrev c_core_tick (F:Nums):Fn:=⟨1,[],(.seq (.seq (.reg [0,10] 0 (r22_0 F))
  (.cond (.s 10)
  .ret
  .skip))
 (.seq (.reg [0] 0 (r22_1 F))
 (.seq (.seq (.reg [0,22] 1 (r22_2 F))
  (.blk 0
  (.loop
   (.seq (.reg [0,22,24] 0 (r22_3 F))
    (.seq (.cond (.s 24)
     .skip
     (.exit 0))
    (.blk 1
    (.seq (.reg [0,3,22] 0 (r22_4 F))
     (.reg [0,22] 0 (r22_5 F)))))))))
 (.seq (.blk 2
  (.loop
   (.blk 3
    (.seq (.reg2 [0,4,5] 1 12 8 (r22_6 F))
     (.seq (.seq (.reg [0,4,42] 0 (r22_7 F))
      (.cond (.s 42)
      (.exit 2)
      .skip))
     (.seq (.reg [0,4,45] 0 (r22_8 F))
     (.cond (.s 45)
     (.reg [0] 0 (r22_9 F))
     (.reg [0] 0 (r22_10 F)))))))))
 (.reg [] 0 (r22_11 F))))))⟩
abbrev r23_0 (F:Nums):List Ins:=[.i 0 3 (.box 0 (.s 1)),.i 1 4 (.mov (.c (.int .i64 0)))]
abbrev r23_1 (F:Nums):List Ins:=[.f 0 7 3 3,.l 1 8 7,.i 2 9 (.bin .gtr (.s 8) (.c (.int .i64 1000))),.mv 3 10 9,⟨4,(some 11),(some (10,false)),[],.fa (.s 3) 4,0⟩,⟨5,(some 12),(some (10,false)),[],.ld (.s 11),0⟩,
 ⟨6,(some 13),(some (10,false)),[],.bin .gtr (.s 12) (.c (.int .i64 1000)),0⟩,.i 7 14 (.pick (.s 10) (.c (.bool true)) (.s 13))]
abbrev r23_2 (F:Nums):List Ins:=[.i 0 4 (.mov (.c (.int .i64 1)))]
abbrev r23_3 (F:Nums):List Ins:=[.mv 0 15 0,.ck 1 16 15,.f 2 17 16 2,.l 3 18 17,.f 4 19 3 1,.l 5 20 19,.f 6 21 3 2,.l 7 22 21,.i 8 23 (.call (.c (.fn F.quota_SetAccount [])) [.s 18,.s 20,.s 22]),
 .mv 9 5 23]
abbrev r23_4 (F:Nums):List Ins:=[.mv 0 24 5,.i 1 25 (.bin .neq (.s 24) (.c (.int .i64 0)))]
abbrev r23_5 (F:Nums):List Ins:=[.mv 0 26 5,.mv 1 4 26]
abbrev r23_6 (F:Nums):List Ins:=[.mv 0 27 0,.ck 1 28 27,.f 2 29 28 3,.l 3 30 29,.f 4 31 3 1,.l 5 32 31,.i 6 33 (.look 1 (.s 30) (.s 32) (.nilp) false),.mv 7 6 33]
abbrev r23_7 (F:Nums):List Ins:=[.mv 0 34 6,.i 1 35 (.eq true .p (.s 34) (.c (.nilp)))]
abbrev r23_8 (F:Nums):List Ins:=[.mv 0 36 6,.f 1 37 3 3,.l 2 38 37,.f 3 39 3 4,.l 4 40 39,.i 5 41 (.call (.c (.fn F.bucket_Set [])) [.s 36,.s 38,.s 40])]
abbrev r23_9 (F:Nums):List Ins:=[.mv 0 42 0,.ck 1 43 42,.f 2 44 43 3,.l 3 45 44,.f 4 46 3 1,.l 5 47 46,.f 6 48 3 3,.l 7 49 48,.f 8 50 3 4,.l 9 51 50,⟨10,(some 52),none,[(none,45,.ld (.s 44)),(none,47,.ld (.s 46))],.call (.c (.fn F.bucket_New [])) [.s 49,.s 51],0⟩,
 .j 11 (.mupd 1 (.s 45) (.s 47) (.s 52))]
abbrev r23_10 (F:Nums):List Ins:=[.i 0 4 (.mov (.c (.int .i64 0)))]
abbrev c_core_account (F:Nums):Fn:=⟨2,[.tmp 4],(.seq (.reg [0,3] 1 (r23_0 F))
 (.seq (.seq (.reg [0,3,14] 0 (r23_1 F))
  (.cond (.s 14)
  (.seq (.reg [4] 0 (r23_2 F))
   .ret)
  .skip))
 (.seq (.seq (.reg [0,3,5] 0 (r23_3 F))
  (.seq (.reg [0,3,5,25] 0 (r23_4 F))
  (.cond (.s 25)
  (.seq (.reg [4] 0 (r23_5 F))
   .ret)
  .skip)))
 (.seq (.seq (.reg [0,3,6] 0 (r23_6 F))
  (.seq (.reg [0,3,6,35] 0 (r23_7 F))
  (.cond (.s 35)
  (.reg [] 0 (r23_8 F))
  (.reg [] 0 (r23_9 F)))))
 (.seq (.reg [4] 0 (r23_10 F))
 .ret)))))⟩
abbrev r24_0 (F:Nums):List Ins:=[.i 0 3 (.box 0 (.s 1)),.i 1 4 (.mov (.c (.int .i64 0)))]
abbrev r24_1 (F:Nums):List Ins:=[.mv 0 7 0,.ck 1 8 7,.f 2 9 8 4,.l 3 10 9,.f 4 11 3 1,.l 5 12 11,.i 6 13 (.look 1 (.s 10) (.s 12) (.nilp) false),.mv 7 5 13]
abbrev r24_2 (F:Nums):List Ins:=[.f 0 15 3 1,.l 1 16 15,.i 2 17 (.bin .geq (.s 16) (.c (.int .i64 64))),.mv 3 18 17,⟨4,(some 19),(some (18,false)),[],.fa (.s 3) 5,0⟩,
 ⟨5,(some 20),(some (18,false)),[],.ld (.s 19),0⟩,⟨6,(some 21),(some (18,false)),[],.bin .geq (.s 20) (.c (.int .i64 16)),0⟩,.i 7 22 (.pick (.s 18) (.c (.bool true)) (.s 21)),
 .mv 8 23 22,⟨9,(some 24),(some (23,false)),[],.fa (.s 3) 8,0⟩,⟨10,(some 25),(some (23,false)),[],.ld (.s 24),0⟩,⟨11,(some 26),(some (23,false)),[],.bin .gtr (.s 25) (.c (.int .i64 1000)),0⟩,
 .i 12 27 (.pick (.s 23) (.c (.bool true)) (.s 26)),.mv 13 28 27,⟨14,(some 29),(some (28,false)),[],.fa (.s 3) 9,0⟩,⟨15,(some 30),(some (28,false)),[],.ld (.s 29),0⟩,
 ⟨16,(some 31),(some (28,false)),[],.bin .gtr (.s 30) (.c (.int .i64 1000)),0⟩,.i 17 32 (.pick (.s 28) (.c (.bool true)) (.s 31)),.mv 18 33 32,
 ⟨19,(some 34),(some (33,false)),[],.fa (.s 3) 6,0⟩,⟨20,(some 35),(some (33,false)),[],.ld (.s 34),0⟩,⟨21,(some 36),(some (33,false)),[],.bin .lss (.s 35) (.c (.int .i64 1)),0⟩,
 .i 22 37 (.pick (.s 33) (.c (.bool true)) (.s 36)),.mv 23 38 37,⟨24,(some 39),(some (38,false)),[],.fa (.s 3) 6,0⟩,⟨25,(some 40),(some (38,false)),[],.ld (.s 39),0⟩,
 ⟨26,(some 41),(some (38,false)),[],.bin .gtr (.s 40) (.c (.int .i64 4096)),0⟩,.i 27 42 (.pick (.s 38) (.c (.bool true)) (.s 41)),.mv 28 43 42,
 ⟨29,(some 44),(some (43,false)),[],.fa (.s 3) 7,0⟩,⟨30,(some 45),(some (43,false)),[],.ld (.s 44),0⟩,⟨31,(some 46),(some (43,false)),[],.bin .lss (.s 45) (.c (.int .i64 1)),0⟩,
 .i 32 47 (.pick (.s 43) (.c (.bool true)) (.s 46)),.mv 33 48 47,⟨34,(some 49),(some (48,false)),[],.fa (.s 3) 7,0⟩,⟨35,(some 50),(some (48,false)),[],.ld (.s 49),0⟩,
 ⟨36,(some 51),(some (48,false)),[],.bin .gtr (.s 50) (.c (.int .i64 1000)),0⟩,.i 37 52 (.pick (.s 48) (.c (.bool true)) (.s 51)),.mv 38 14 52]
abbrev r24_3 (F:Nums):List Ins:=[.i 0 4 (.mov (.c (.int .i64 1)))]
abbrev r24_4 (F:Nums):List Ins:=[.mv 0 54 0,.ck 1 55 54,.f 2 56 55 3,.l 3 57 56,.f 4 58 3 5,.l 5 59 58,.i 6 60 (.look 1 (.s 57) (.s 59) (.nilp) false),.i 7 61 (.eq false .p (.s 60) (.c (.nilp))),
 .mv 8 53 61]
abbrev r24_5 (F:Nums):List Ins:=[.i 0 4 (.mov (.c (.int .i64 2)))]
abbrev r24_6 (F:Nums):List Ins:=[.mv 0 63 5,.i 1 64 (.eq true .p (.s 63) (.c (.nilp))),.mv 2 65 64,⟨3,(some 66),(some (65,true)),[],.mov (.s 5),0⟩,⟨4,(some 67),(some (65,true)),[],.chk (.s 66),0⟩,
 ⟨5,(some 68),(some (65,true)),[],.fa (.s 67) 0,0⟩,⟨6,(some 69),(some (65,true)),[],.ld (.s 68),0⟩,⟨7,(some 70),(some (65,true)),[],.fa (.s 3) 5,0⟩,
 ⟨8,(some 71),(some (65,true)),[],.ld (.s 70),0⟩,⟨9,(some 72),(some (65,true)),[],.bin .neq (.s 69) (.s 71),0⟩,⟨10,(some 73),(some (65,true)),[],.mov (.s 72),0⟩,
 ⟨11,(some 74),(some (73,false)),[],.mov (.s 5),0⟩,⟨12,(some 75),(some (73,false)),[],.chk (.s 74),0⟩,⟨13,(some 76),(some (73,false)),[],.fa (.s 75) 1,0⟩,
 ⟨14,(some 77),(some (73,false)),[],.ld (.s 76),0⟩,⟨15,(some 78),(some (73,false)),[],.fa (.s 3) 6,0⟩,⟨16,(some 79),(some (73,false)),[],.ld (.s 78),0⟩,
 ⟨17,(some 80),(some (73,false)),[],.bin .neq (.s 77) (.s 79),0⟩,⟨18,(some 81),(some (65,true)),[],.pick (.s 73) (.c (.bool true)) (.s 80),0⟩,
 .i 19 82 (.pick (.s 65) (.s 81) (.c (.bool false))),.mv 20 62 82]
abbrev r24_7 (F:Nums):List Ins:=[.i 0 4 (.mov (.c (.int .i64 3)))]
abbrev r24_8 (F:Nums):List Ins:=[.f 0 84 3 8,.l 1 85 84,.i 2 86 (.bin .gtr (.s 85) (.c (.int .i64 0))),.mv 3 87 86,⟨4,(some 88),(some (87,true)),[],.fa (.s 3) 9,0⟩,
 ⟨5,(some 89),(some (87,true)),[],.ld (.s 88),0⟩,⟨6,(some 90),(some (87,true)),[],.fa (.s 3) 8,0⟩,⟨7,(some 91),(some (87,true)),[],.ld (.s 90),0⟩,
 ⟨8,(some 92),(some (87,true)),[],.bin .gtr (.s 89) (.s 91),0⟩,.i 9 93 (.pick (.s 87) (.s 92) (.c (.bool false))),.mv 10 83 93]
abbrev r24_9 (F:Nums):List Ins:=[.i 0 4 (.mov (.c (.int .i64 4)))]
abbrev r24_10 (F:Nums):List Ins:=[.mv 0 94 0,.ck 1 95 94,.f 2 96 95 2,.l 3 97 96,.f 4 98 3 1,.l 5 99 98,.f 6 100 3 5,.l 7 101 100,.f 8 102 3 8,.l 9 103 102,.i 10 104 (.call (.c (.fn F.quota_SetFunc [])) [.s 97,.s 99,.s 101,.s 103]),
 .mv 11 6 104]
abbrev r24_11 (F:Nums):List Ins:=[.mv 0 105 6,.i 1 106 (.bin .neq (.s 105) (.c (.int .i64 0)))]
abbrev r24_12 (F:Nums):List Ins:=[.mv 0 107 6,.mv 1 4 107]
abbrev r24_13 (F:Nums):List Ins:=[.mv 0 108 5,.i 1 109 (.eq false .p (.s 108) (.c (.nilp)))]
abbrev r24_14 (F:Nums):List Ins:=[.f 0 110 3 5,.l 1 111 110,.f 2 112 3 6,.l 3 113 112,⟨4,(some 114),none,[(none,111,.ld (.s 110)),(none,113,.ld (.s 112))],.call (.c (.fn F.histo_New [])) [],0⟩,
 ⟨5,(some 115),none,[(none,111,.ld (.s 110)),(none,113,.ld (.s 112))],.call (.c (.fn F.ring_New [])) [],0⟩,.i 6 116 (.bld [.int .i64 0,.int .i64 0,.int .i64 0,.int .i64 0,.int .i64 0,.int .i64 0,.int .i64 0,.nilp,.nilp] [(0,1,.s 111),(1,1,.s 113),(5,1,.c (.int .i64 (-1))),(7,1,.s 114),(8,1,.s 115)]),
 .i 7 117 (.box 0 (.s 116)),.mv 8 5 117]
abbrev r24_15 (F:Nums):List Ins:=[.mv 0 118 0,.ck 1 119 118,.f 2 120 119 4,.l 3 121 120,.f 4 122 3 1,.l 5 123 122,.mv 6 124 5,.j 7 (.mupd 1 (.s 121) (.s 123) (.s 124))]
abbrev r24_16 (F:Nums):List Ins:=[.mv 0 125 5,.mv 1 126 5,.f 2 127 3 7,.l 3 128 127,.f 4 129 3 9,.l 5 130 129,.ck 6 131 125,.f 7 132 131 2,⟨8,none,none,[(none,130,.ld (.s 129))],.st (.s 132) (.s 128),0⟩,
 .ck 9 133 126,.f 10 134 133 3,.st 11 134 130]
abbrev r24_17 (F:Nums):List Ins:=[.mv 0 135 0,.f 1 136 3 1,.l 2 137 136,.i 3 138 (.call (.c (.fn F.core_keep [])) [.s 135,.s 137])]
abbrev r24_18 (F:Nums):List Ins:=[.i 0 4 (.mov (.c (.int .i64 0)))]
abbrev c_core_function (F:Nums):Fn:=⟨2,[.tmp 4],(.seq (.reg [0,3] 1 (r24_0 F))
 (.seq (.reg [0,3,5] 0 (r24_1 F))
 (.seq (.blk 0
  (.seq (.reg [0,3,5,14] 0 (r24_2 F))
   (.cond (.s 14)
   (.seq (.reg [4] 0 (r24_3 F))
    .ret)
   (.seq (.reg [0,3,5,53] 0 (r24_4 F))
    (.cond (.s 53)
    (.seq (.reg [4] 0 (r24_5 F))
     .ret)
    (.seq (.reg [0,3,5,62] 0 (r24_6 F))
     (.cond (.s 62)
     (.seq (.reg [4] 0 (r24_7 F))
      .ret)
     (.seq (.reg [0,3,5,83] 0 (r24_8 F))
      (.cond (.s 83)
      (.seq (.reg [4] 0 (r24_9 F))
       .ret)
      .skip)))))))))
 (.seq (.seq (.reg [0,3,5,6] 0 (r24_10 F))
  (.seq (.reg [0,3,5,6,106] 0 (r24_11 F))
  (.cond (.s 106)
  (.seq (.reg [4] 0 (r24_12 F))
   .ret)
  .skip)))
 (.seq (.seq (.reg [0,3,5,109] 0 (r24_13 F))
  (.cond (.s 109)
  (.seq (.reg [0,3,5] 1 (r24_14 F))
   (.reg [0,3,5] 0 (r24_15 F)))
  .skip))
 (.seq (.reg [0,3] 0 (r24_16 F))
 (.seq (.reg [] 0 (r24_17 F))
 (.seq (.reg [4] 0 (r24_18 F))
 .ret))))))))⟩
abbrev r25_0 (F:Nums):List Ins:=[.i 0 6 (.mov (.c (.int .i64 0)))]
abbrev r25_1 (F:Nums):List Ins:=[.mv 0 8 1,.i 1 9 (.bin .lss (.s 8) (.c (.int .i64 0))),.mv 2 10 9,⟨3,(some 11),(some (10,false)),[],.mov (.s 1),0⟩,⟨4,(some 12),(some (10,false)),[],.bin .geq (.s 11) (.c (.int .i64 32)),0⟩,
 .i 5 13 (.pick (.s 10) (.c (.bool true)) (.s 12)),.mv 6 14 13,⟨7,(some 15),(some (14,false)),[],.mov (.s 2),0⟩,⟨8,(some 16),(some (14,false)),[],.bin .lss (.s 15) (.c (.int .i64 1)),0⟩,
 .i 9 17 (.pick (.s 14) (.c (.bool true)) (.s 16)),.mv 10 18 17,⟨11,(some 19),(some (18,false)),[],.mov (.s 2),0⟩,⟨12,(some 20),(some (18,false)),[],.bin .gtr (.s 19) (.c (.int .i64 4096)),0⟩,
 .i 13 21 (.pick (.s 18) (.c (.bool true)) (.s 20)),.mv 14 7 21]
abbrev r25_2 (F:Nums):List Ins:=[.i 0 6 (.mov (.c (.int .i64 1)))]
abbrev r25_3 (F:Nums):List Ins:=[.mv 0 23 0,.mv 1 24 1,.ck 2 25 23,.f 3 26 25 0,.i 4 27 (.ixa (.s 26) (.s 24) 32 4),.f 5 28 27 0,.l 6 29 28,.mv 7 22 29]
abbrev r25_4 (F:Nums):List Ins:=[.i 0 6 (.mov (.c (.int .i64 3)))]
abbrev r25_5 (F:Nums):List Ins:=[.mv 0 30 0,.mv 1 31 1,.mv 2 32 2,.i 3 33 (.bld [.bool false,.bool false,.int .i64 0,.int .i64 0] [(0,1,.c (.bool true)),(2,1,.s 32)]),
 .ck 4 34 30,.f 5 35 34 0,.i 6 36 (.ixa (.s 35) (.s 31) 32 4),.j 7 (.stn (.s 36) (.s 33) 4)]
abbrev r25_6 (F:Nums):List Ins:=[.i 0 6 (.mov (.c (.int .i64 0)))]
abbrev c_host_Add (F:Nums):Fn:=⟨3,[.tmp 6],(.seq (.reg [0,1,2] 0 (r25_0 F))
 (.seq (.blk 0
  (.seq (.reg [0,1,2,7] 0 (r25_1 F))
   (.cond (.s 7)
   (.seq (.reg [6] 0 (r25_2 F))
    .ret)
   (.seq (.reg [0,1,2,22] 0 (r25_3 F))
    (.cond (.s 22)
    (.seq (.reg [6] 0 (r25_4 F))
     .ret)
    .skip)))))
 (.seq (.reg [] 0 (r25_5 F))
 (.seq (.reg [6] 0 (r25_6 F))
 .ret))))⟩
abbrev r26_0 (F:Nums):List Ins:=[.mv 0 4 0,.ck 1 5 4,.f 2 6 5 4,.l 3 7 6,.i 4 8 (.call (.c (.fn F.Keys_fn [])) [.s 7]),.i 5 9 (.call (.c (.fn F.slices_Sorted [])) [.s 8]),
 .i 6 10 (.len (.s 9)),.i 7 11 (.mov (.c (.int .i64 0)))]
abbrev r26_1 (F:Nums):List Ins:=[.b .lss 0 12 11 10]
abbrev r26_2 (F:Nums):List Ins:=[.x 0 13 9 11 1,.l 1 14 13,.mv 2 3 14]
abbrev r26_3 (F:Nums):List Ins:=[.mv 0 15 0,.mv 1 16 3,.i 2 17 (.call (.c (.fn F.core_keep [])) [.s 15,.s 16])]
abbrev r26_4 (F:Nums):List Ins:=[.i 0 18 (.bin .add (.s 11) (.c (.int .i64 1))),.mv 1 11 18]
abbrev c_core_keepAll (F:Nums):Fn:=⟨1,[],(.seq (.reg [0,9,10,11] 0 (r26_0 F))
 (.blk 0
 (.loop
  (.seq (.reg [0,9,10,11,12] 0 (r26_1 F))
   (.seq (.cond (.s 12)
    .skip
    (.exit 0))
   (.seq (.blk 1
    (.seq (.reg [0,3,9,10,11] 0 (r26_2 F))
     (.reg [0,9,10,11] 0 (r26_3 F))))
   (.reg [0,9,10,11] 0 (r26_4 F))))))))⟩
abbrev r27_0 (F:Nums):List Ins:=[.i 0 3 (.box 0 (.s 1)),.i 1 4 (.mov (.c (.int .i64 0)))]
abbrev r27_1 (F:Nums):List Ins:=[.mv 0 9 0,.ck 1 10 9,.f 2 11 10 5,.l 3 12 11,.l 4 13 3,.i 5 14 (.call (.c (.fn F.host_Drain [])) [.s 12,.s 13]),.mv 6 5 14]
abbrev r27_2 (F:Nums):List Ins:=[.mv 0 15 5,.i 1 16 (.bin .neq (.s 15) (.c (.int .i64 0)))]
abbrev r27_3 (F:Nums):List Ins:=[.mv 0 17 5,.mv 1 4 17]
abbrev r27_4 (F:Nums):List Ins:=[.mv 0 18 0,.i 1 19 (.mkf F.core_drain_1 [.s 3]),.i 2 20 (.call (.c (.fn F.core_where [])) [.s 18,.s 19]),.i 3 21 (.len (.s 20)),.i 4 22 (.mov (.c (.int .i64 0)))]
abbrev r27_5 (F:Nums):List Ins:=[.b .lss 0 23 22 21]
abbrev r27_6 (F:Nums):List Ins:=[.x 0 24 20 22 1,.l 1 25 24,.mv 2 7 25]
abbrev r27_7 (F:Nums):List Ins:=[.mv 0 26 0,.ck 1 27 26,.f 2 28 27 7,.l 3 29 28,.mv 4 30 7,.i 5 31 (.look 1 (.s 29) (.s 30) (.nilp) false),.mv 6 8 31]
abbrev r27_8 (F:Nums):List Ins:=[.mv 0 32 8,.i 1 33 (.call (.c (.fn F.box_Runs [])) [.s 32])]
abbrev r27_9 (F:Nums):List Ins:=[.mv 0 34 8,.ck 1 35 34,.f 2 36 35 6,.j 3 (.st (.s 36) (.c (.bool false)))]
abbrev r27_10 (F:Nums):List Ins:=[.mv 0 37 0,.mv 1 38 8,.i 2 39 (.call (.c (.fn F.core_kill [])) [.s 37,.s 38])]
abbrev r27_11 (F:Nums):List Ins:=[.i 0 40 (.bin .add (.s 22) (.c (.int .i64 1))),.mv 1 22 40]
abbrev r27_12 (F:Nums):List Ins:=[.mv 0 41 0,.i 1 42 (.call (.c (.fn F.core_keepAll [])) [.s 41])]
abbrev r27_13 (F:Nums):List Ins:=[.i 0 4 (.mov (.c (.int .i64 0)))]
abbrev c_core_drain (F:Nums):Fn:=⟨2,[.tmp 4],(.seq (.reg [0,3] 1 (r27_0 F))
 (.seq (.seq (.reg [0,3,5] 0 (r27_1 F))
  (.seq (.reg [0,3,5,16] 0 (r27_2 F))
  (.cond (.s 16)
  (.seq (.reg [4] 0 (r27_3 F))
   .ret)
  .skip)))
 (.seq (.seq (.reg [0,20,21,22] 0 (r27_4 F))
  (.blk 0
  (.loop
   (.seq (.reg [0,20,21,22,23] 0 (r27_5 F))
    (.seq (.cond (.s 23)
     .skip
     (.exit 0))
    (.seq (.blk 1
     (.seq (.reg [0,7,20,21,22] 0 (r27_6 F))
      (.seq (.reg [0,8,20,21,22] 0 (r27_7 F))
      (.seq (.reg [0,8,20,21,22,33] 0 (r27_8 F))
      (.cond (.s 33)
      (.reg [0,20,21,22] 0 (r27_9 F))
      (.reg [0,20,21,22] 0 (r27_10 F)))))))
    (.reg [0,20,21,22] 0 (r27_11 F))))))))
 (.seq (.reg [] 0 (r27_12 F))
 (.seq (.reg [4] 0 (r27_13 F))
 .ret)))))⟩
abbrev r28_0 (F:Nums):List Ins:=[.i 0 3 (.box 0 (.s 1)),.i 1 4 (.mov (.c (.int .i64 0)))]
abbrev r28_1 (F:Nums):List Ins:=[.mv 0 7 0,.ck 1 8 7,.f 2 9 8 5,.l 3 10 9,.l 4 11 3,.i 5 12 (.call (.c (.fn F.host_There [])) [.s 10,.s 11]),.nt 6 13 12]
abbrev r28_2 (F:Nums):List Ins:=[.i 0 4 (.mov (.c (.int .i64 2)))]
abbrev r28_3 (F:Nums):List Ins:=[.mv 0 14 0,.i 1 15 (.mkf F.core_fail_1 [.s 3]),.i 2 16 (.call (.c (.fn F.core_where [])) [.s 14,.s 15]),.i 3 17 (.len (.s 16)),.i 4 18 (.mov (.c (.int .i64 0)))]
abbrev r28_4 (F:Nums):List Ins:=[.b .lss 0 19 18 17]
abbrev r28_5 (F:Nums):List Ins:=[.x 0 20 16 18 1,.l 1 21 20,.mv 2 6 21]
abbrev r28_6 (F:Nums):List Ins:=[.mv 0 22 0,.mv 1 23 0,.ck 2 24 23,.f 3 25 24 7,.l 4 26 25,.mv 5 27 6,.i 6 28 (.look 1 (.s 26) (.s 27) (.nilp) false),.i 7 29 (.call (.c (.fn F.core_gone [])) [.s 22,.s 28])]
abbrev r28_7 (F:Nums):List Ins:=[.i 0 30 (.bin .add (.s 18) (.c (.int .i64 1))),.mv 1 18 30]
abbrev r28_8 (F:Nums):List Ins:=[.mv 0 31 0,.ck 1 32 31,.f 2 33 32 5,.l 3 34 33,.l 4 35 3,.i 5 36 (.call (.c (.fn F.host_Fail [])) [.s 34,.s 35])]
abbrev r28_9 (F:Nums):List Ins:=[.mv 0 37 0,.i 1 38 (.call (.c (.fn F.core_keepAll [])) [.s 37])]
abbrev r28_10 (F:Nums):List Ins:=[.i 0 4 (.mov (.c (.int .i64 0)))]
abbrev c_core_fail (F:Nums):Fn:=⟨2,[.tmp 4],(.seq (.reg [0,3] 1 (r28_0 F))
 (.seq (.seq (.reg [0,3,13] 0 (r28_1 F))
  (.cond (.s 13)
  (.seq (.reg [4] 0 (r28_2 F))
   .ret)
  .skip))
 (.seq (.seq (.reg [0,3,16,17,18] 0 (r28_3 F))
  (.blk 0
  (.loop
   (.seq (.reg [0,3,16,17,18,19] 0 (r28_4 F))
    (.seq (.cond (.s 19)
     .skip
     (.exit 0))
    (.seq (.blk 1
     (.seq (.reg [0,3,6,16,17,18] 0 (r28_5 F))
      (.reg [0,3,16,17,18] 0 (r28_6 F))))
    (.reg [0,3,16,17,18] 0 (r28_7 F))))))))
 (.seq (.reg [0] 0 (r28_8 F))
 (.seq (.reg [] 0 (r28_9 F))
 (.seq (.reg [4] 0 (r28_10 F))
 .ret))))))⟩
abbrev r29_0 (F:Nums):List Ins:=[.i 0 4 (.alc 0 [.int .i64 0,.int .i64 0,.int .i64 0,.int .i64 0])]
abbrev r29_1 (F:Nums):List Ins:=[.mv 0 13 0,.ck 1 14 13,.f 2 15 14 2,.l 3 16 15,.mv 4 17 1,.i 5 18 (.call (.c (.fn F.quota_Ask [])) [.s 16,.s 17]),.mv 6 12 18,.e 7 19 12 0,
 .e 8 20 12 1,.mv 9 5 19,.mv 10 6 20]
abbrev r29_2 (F:Nums):List Ins:=[.mv 0 22 6,.nt 1 23 22,.mv 2 21 23]
abbrev r29_3 (F:Nums):List Ins:=[.i 0 24 (.bld [.int .i64 0,.int .i64 0,.int .i64 0,.int .i64 0] [(0,1,.c (.int .i64 1)),(3,1,.c (.int .i64 2))]),.j 1 (.stn (.s 4) (.s 24) 4)]
abbrev r29_4 (F:Nums):List Ins:=[.mv 0 26 5,.i 1 27 (.bin .eql (.s 26) (.c (.int .i64 1))),.mv 2 25 27]
abbrev r29_5 (F:Nums):List Ins:=[.i 0 28 (.bld [.int .i64 0,.int .i64 0,.int .i64 0,.int .i64 0] [(0,1,.c (.int .i64 4)),(2,1,.c (.int .i64 1))]),.j 1 (.stn (.s 4) (.s 28) 4)]
abbrev r29_6 (F:Nums):List Ins:=[.mv 0 30 5,.i 1 31 (.bin .eql (.s 30) (.c (.int .i64 2))),.mv 2 29 31]
abbrev r29_7 (F:Nums):List Ins:=[.i 0 32 (.bld [.int .i64 0,.int .i64 0,.int .i64 0,.int .i64 0] [(0,1,.c (.int .i64 4)),(2,1,.c (.int .i64 2))]),.j 1 (.stn (.s 4) (.s 32) 4)]
abbrev r29_8 (F:Nums):List Ins:=[.mv 0 33 0,.ck 1 34 33,.f 2 35 34 4,.l 3 36 35,.mv 4 37 1,.i 5 38 (.look 1 (.s 36) (.s 37) (.nilp) false),.mv 6 7 38]
abbrev r29_9 (F:Nums):List Ins:=[.mv 0 39 0,.mv 1 40 1,.i 2 41 (.call (.c (.fn F.core_free [])) [.s 39,.s 40]),.mv 3 8 41]
abbrev r29_10 (F:Nums):List Ins:=[.mv 0 42 8,.i 1 43 (.eq true .p (.s 42) (.c (.nilp)))]
abbrev r29_11 (F:Nums):List Ins:=[.mv 0 44 0,.mv 1 45 1,.mv 2 46 8,.i 3 47 (.call (.c (.fn F.core_begin [])) [.s 44,.s 45,.s 46])]
abbrev r29_12 (F:Nums):List Ins:=[.mv 0 48 8,.ck 1 49 48,.f 2 50 49 0,.l 3 51 50,.i 4 52 (.bld [.int .i64 0,.int .i64 0,.int .i64 0,.int .i64 0] [(0,1,.c (.int .i64 2)),(1,1,.s 51)]),
 .j 5 (.stn (.s 4) (.s 52) 4)]
abbrev r29_13 (F:Nums):List Ins:=[.mv 0 53 0,.ck 1 54 53,.f 2 55 54 3,.l 3 56 55,.mv 4 57 7,.ck 5 58 57,.f 6 59 58 0,.l 7 60 59,.i 8 61 (.look 1 (.s 56) (.s 60) (.nilp) false),
 .mv 9 9 61]
abbrev r29_14 (F:Nums):List Ins:=[.mv 0 62 9,.i 1 63 (.call (.c (.fn F.bucket_Tokens [])) [.s 62]),.i 2 64 (.bin .eql (.s 63) (.c (.int .i64 0)))]
abbrev r29_15 (F:Nums):List Ins:=[.i 0 65 (.bld [.int .i64 0,.int .i64 0,.int .i64 0,.int .i64 0] [(0,1,.c (.int .i64 4)),(2,1,.c (.int .i64 3))]),.j 1 (.stn (.s 4) (.s 65) 4)]
abbrev r29_16 (F:Nums):List Ins:=[.mv 0 67 0,.mv 1 68 7,.ck 2 69 68,.f 3 70 69 1,.l 4 71 70,.i 5 72 (.call (.c (.fn F.core_room [])) [.s 67,.s 71]),.mv 6 66 72,.e 7 73 66 0,
 .e 8 74 66 1,.mv 9 10 73,.mv 10 6 74]
abbrev r29_17 (F:Nums):List Ins:=[.mv 0 75 6,.nt 1 76 75]
abbrev r29_18 (F:Nums):List Ins:=[.i 0 77 (.bld [.int .i64 0,.int .i64 0,.int .i64 0,.int .i64 0] [(0,1,.c (.int .i64 4)),(2,1,.c (.int .i64 4))]),.j 1 (.stn (.s 4) (.s 77) 4)]
abbrev r29_19 (F:Nums):List Ins:=[.mv 0 78 9,.i 1 79 (.call (.c (.fn F.bucket_Take [])) [.s 78])]
abbrev r29_20 (F:Nums):List Ins:=[.mv 0 80 0,.mv 1 81 1,.mv 2 82 10,.i 3 83 (.call (.c (.fn F.core_start [])) [.s 80,.s 81,.s 82]),.mv 4 11 83]
abbrev r29_21 (F:Nums):List Ins:=[.mv 0 84 0,.mv 1 85 1,.mv 2 86 11,.i 3 87 (.call (.c (.fn F.core_begin [])) [.s 84,.s 85,.s 86])]
abbrev r29_22 (F:Nums):List Ins:=[.mv 0 88 11,.ck 1 89 88,.f 2 90 89 0,.l 3 91 90,.i 4 92 (.bld [.int .i64 0,.int .i64 0,.int .i64 0,.int .i64 0] [(0,1,.c (.int .i64 3)),(1,1,.s 91)]),
 .j 5 (.stn (.s 4) (.s 92) 4)]
abbrev c_core_call (F:Nums):Fn:=⟨2,[.cells 4 4],(.seq (.reg [0,1,4] 1 (r29_0 F))
 (.seq (.reg [0,1,4,5,6] 0 (r29_1 F))
 (.seq (.blk 0
  (.seq (.reg [0,1,4,5,21] 0 (r29_2 F))
   (.cond (.s 21)
   (.seq (.reg [4] 0 (r29_3 F))
    .ret)
   (.seq (.reg [0,1,4,5,25] 0 (r29_4 F))
    (.cond (.s 25)
    (.seq (.reg [4] 0 (r29_5 F))
     .ret)
    (.seq (.reg [0,1,4,29] 0 (r29_6 F))
     (.cond (.s 29)
     (.seq (.reg [4] 0 (r29_7 F))
      .ret)
     .skip)))))))
 (.seq (.reg [0,1,4,7] 0 (r29_8 F))
 (.seq (.seq (.reg [0,1,4,7,8] 0 (r29_9 F))
  (.seq (.reg [0,1,4,7,8,43] 0 (r29_10 F))
  (.cond (.s 43)
  (.seq (.reg [4,8] 0 (r29_11 F))
   (.seq (.reg [4] 0 (r29_12 F))
   .ret))
  .skip)))
 (.seq (.reg [0,1,4,7,9] 0 (r29_13 F))
 (.seq (.seq (.reg [0,1,4,7,9,64] 0 (r29_14 F))
  (.cond (.s 64)
  (.seq (.reg [4] 0 (r29_15 F))
   .ret)
  .skip))
 (.seq (.reg [0,1,4,6,9,10] 0 (r29_16 F))
 (.seq (.seq (.reg [0,1,4,9,10,76] 0 (r29_17 F))
  (.cond (.s 76)
  (.seq (.reg [4] 0 (r29_18 F))
   .ret)
  .skip))
 (.seq (.reg [0,1,4,10] 0 (r29_19 F))
 (.seq (.reg [0,1,4,11] 0 (r29_20 F))
 (.seq (.reg [4,11] 0 (r29_21 F))
 (.seq (.reg [4] 0 (r29_22 F))
 .ret)))))))))))))⟩
abbrev r30_0 (F:Nums):List Ins:=[.i 0 4 (.mov (.c (.int .i64 0)))]
abbrev r30_1 (F:Nums):List Ins:=[.mv 0 8 0,.ck 1 9 8,.f 2 10 9 7,.l 3 11 10,.mv 4 12 1,.i 5 13 (.look 1 (.s 11) (.s 12) (.nilp) false),.mv 6 5 13]
abbrev r30_2 (F:Nums):List Ins:=[.mv 0 14 5,.i 1 15 (.eq false .p (.s 14) (.c (.nilp)))]
abbrev r30_3 (F:Nums):List Ins:=[.i 0 4 (.mov (.c (.int .i64 2)))]
abbrev r30_4 (F:Nums):List Ins:=[.mv 0 16 5,.mv 1 17 0,.ck 2 18 17,.f 3 19 18 0,.l 4 20 19,.i 5 21 (.call (.c (.fn F.box_Booted [])) [.s 16,.s 20]),.nt 6 22 21]
abbrev r30_5 (F:Nums):List Ins:=[.i 0 4 (.mov (.c (.int .i64 3)))]
abbrev r30_6 (F:Nums):List Ins:=[.mv 0 24 0,.ck 1 25 24,.f 2 26 25 8,.l 3 27 26,.mv 4 28 1,.i 5 29 (.look 1 (.s 27) (.s 28) (.int .i64 0) true),.mv 6 23 29,.e 7 30 23 0,
 .e 8 31 23 1,.mv 9 6 30,.mv 10 7 31]
abbrev r30_7 (F:Nums):List Ins:=[.mv 0 32 0,.ck 1 33 32,.f 2 34 33 8,.l 3 35 34,.mv 4 36 1,.j 5 (.del 1 (.s 35) (.s 36))]
abbrev r30_8 (F:Nums):List Ins:=[.mv 0 37 7,.nt 1 38 37]
abbrev r30_9 (F:Nums):List Ins:=[.mv 0 39 0,.ck 1 40 39,.f 2 41 40 0,.l 3 42 41,.mv 4 43 0,.mv 5 44 5,.ck 6 45 44,.f 7 46 45 1,.l 8 47 46,⟨9,(some 48),none,[(none,42,.ld (.s 41))],.call (.c (.fn F.core_window [])) [.s 43,.s 47],0⟩,
 .i 10 49 (.fld (.s 48) 2),.b .add 11 50 42 49,.mv 12 6 50]
abbrev r30_10 (F:Nums):List Ins:=[.mv 0 51 5,.i 1 52 (.call (.c (.fn F.box_Idle [])) [.s 51]),.mv 2 53 52,⟨3,(some 54),(some (53,true)),[],.mov (.s 5),0⟩,⟨4,(some 55),(some (53,true)),[],.chk (.s 54),0⟩,
 ⟨5,(some 56),(some (53,true)),[],.fa (.s 55) 6,0⟩,⟨6,(some 57),(some (53,true)),[],.ld (.s 56),0⟩,⟨7,(some 58),(some (53,true)),[],.not (.s 57),0⟩,
 .i 8 59 (.pick (.s 53) (.s 58) (.c (.bool false)))]
abbrev r30_11 (F:Nums):List Ins:=[.mv 0 60 0,.mv 1 61 5,.mv 2 62 6,.i 3 63 (.call (.c (.fn F.core_idle [])) [.s 60,.s 61,.s 62])]
abbrev r30_12 (F:Nums):List Ins:=[.i 0 4 (.mov (.c (.int .i64 0)))]
abbrev c_core_booted (F:Nums):Fn:=⟨2,[.tmp 4],(.seq (.reg [0,1] 0 (r30_0 F))
 (.seq (.reg [0,1,5] 0 (r30_1 F))
 (.seq (.seq (.reg [0,1,5,15] 0 (r30_2 F))
  (.cond (.s 15)
  (.seq (.reg [4] 0 (r30_3 F))
   .ret)
  .skip))
 (.seq (.seq (.reg [0,1,5,22] 0 (r30_4 F))
  (.cond (.s 22)
  (.seq (.reg [4] 0 (r30_5 F))
   .ret)
  .skip))
 (.seq (.reg [0,1,5,6,7] 0 (r30_6 F))
 (.seq (.reg [0,5,6,7] 0 (r30_7 F))
 (.seq (.seq (.reg [0,5,6,38] 0 (r30_8 F))
  (.cond (.s 38)
  (.reg [0,5,6] 0 (r30_9 F))
  .skip))
 (.seq (.seq (.reg [0,5,6,59] 0 (r30_10 F))
  (.cond (.s 59)
  (.reg [] 0 (r30_11 F))
  .skip))
 (.seq (.reg [4] 0 (r30_12 F))
 .ret)))))))))⟩
abbrev r31_0 (F:Nums):List Ins:=[.i 0 4 (.mov (.c (.int .i64 0)))]
abbrev r31_1 (F:Nums):List Ins:=[.mv 0 6 0,.ck 1 7 6,.f 2 8 7 7,.l 3 9 8,.mv 4 10 1,.i 5 11 (.look 1 (.s 9) (.s 10) (.nilp) false),.mv 6 5 11]
abbrev r31_2 (F:Nums):List Ins:=[.mv 0 12 5,.i 1 13 (.eq false .p (.s 12) (.c (.nilp)))]
abbrev r31_3 (F:Nums):List Ins:=[.i 0 4 (.mov (.c (.int .i64 2)))]
abbrev r31_4 (F:Nums):List Ins:=[.mv 0 14 0,.mv 1 15 5,.i 2 16 (.call (.c (.fn F.core_gone [])) [.s 14,.s 15])]
abbrev r31_5 (F:Nums):List Ins:=[.mv 0 17 0,.mv 1 18 5,.ck 2 19 18,.f 3 20 19 1,.l 4 21 20,.i 5 22 (.call (.c (.fn F.core_keep [])) [.s 17,.s 21])]
abbrev r31_6 (F:Nums):List Ins:=[.i 0 4 (.mov (.c (.int .i64 0)))]
abbrev c_core_broke (F:Nums):Fn:=⟨2,[.tmp 4],(.seq (.reg [0,1] 0 (r31_0 F))
 (.seq (.reg [0,5] 0 (r31_1 F))
 (.seq (.seq (.reg [0,5,13] 0 (r31_2 F))
  (.cond (.s 13)
  (.seq (.reg [4] 0 (r31_3 F))
   .ret)
  .skip))
 (.seq (.reg [0,5] 0 (r31_4 F))
 (.seq (.reg [] 0 (r31_5 F))
 (.seq (.reg [4] 0 (r31_6 F))
 .ret))))))⟩
abbrev r32_0 (F:Nums):List Ins:=[.i 0 4 (.mov (.c (.int .i64 0)))]
abbrev r32_1 (F:Nums):List Ins:=[.mv 0 8 0,.ck 1 9 8,.f 2 10 9 7,.l 3 11 10,.mv 4 12 1,.i 5 13 (.look 1 (.s 11) (.s 12) (.nilp) false),.mv 6 5 13]
abbrev r32_2 (F:Nums):List Ins:=[.mv 0 14 5,.i 1 15 (.eq false .p (.s 14) (.c (.nilp)))]
abbrev r32_3 (F:Nums):List Ins:=[.i 0 4 (.mov (.c (.int .i64 2)))]
abbrev r32_4 (F:Nums):List Ins:=[.mv 0 16 5,.mv 1 17 0,.ck 2 18 17,.f 3 19 18 0,.l 4 20 19,.i 5 21 (.call (.c (.fn F.box_Done [])) [.s 16,.s 20]),.nt 6 22 21]
abbrev r32_5 (F:Nums):List Ins:=[.i 0 4 (.mov (.c (.int .i64 3)))]
abbrev r32_6 (F:Nums):List Ins:=[.mv 0 23 0,.ck 1 24 23,.f 2 25 24 2,.l 3 26 25,.mv 4 27 5,.ck 5 28 27,.f 6 29 28 1,.l 7 30 29,.i 8 31 (.call (.c (.fn F.quota_End [])) [.s 26,.s 30])]
abbrev r32_7 (F:Nums):List Ins:=[.mv 0 32 0,.ck 1 33 32,.f 2 34 33 4,.l 3 35 34,.mv 4 36 5,.ck 5 37 36,.f 6 38 37 1,.l 7 39 38,.i 8 40 (.look 1 (.s 35) (.s 39) (.nilp) false),
 .mv 9 6 40]
abbrev r32_8 (F:Nums):List Ins:=[.mv 0 41 6,.mv 1 42 0,.ck 2 43 42,.f 3 44 43 0,.l 4 45 44,.ck 5 46 41,.f 6 47 46 5,.st 7 47 45]
abbrev r32_9 (F:Nums):List Ins:=[.mv 0 48 0,.mv 1 49 5,.ck 2 50 49,.f 3 51 50 1,.l 4 52 51,.i 5 53 (.call (.c (.fn F.core_window [])) [.s 48,.s 52]),.i 6 7 (.alc 0 [.int .i64 0,.int .i64 0,.int .i64 0]),
 .j 7 (.stn (.s 7) (.s 53) 3)]
abbrev r32_11 (F:Nums):List Ins:=[.mv 0 65 0,.ck 1 66 65,.f 2 67 66 5,.l 3 68 67,.mv 4 69 5,.ck 5 70 69,.f 6 71 70 2,.l 7 72 71,.i 8 73 (.call (.c (.fn F.host_Up [])) [.s 68,.s 72]),
 .nt 9 74 73,.mv 10 64 74]
abbrev r32_12 (F:Nums):List Ins:=[.mv 0 75 0,.mv 1 76 5,.i 2 77 (.call (.c (.fn F.core_kill [])) [.s 75,.s 76])]
abbrev r32_13 (F:Nums):List Ins:=[.mv 0 79 5,.ck 1 80 79,.f 2 81 80 6,.l 3 82 81,.mv 4 78 82]
abbrev r32_14 (F:Nums):List Ins:=[.f 0 84 7 1,.l 1 85 84,.i 2 86 (.bin .gtr (.s 85) (.c (.int .i64 0))),.mv 3 83 86]
abbrev r32_15 (F:Nums):List Ins:=[.mv 0 87 6,.mv 1 88 0,.ck 2 89 88,.f 3 90 89 0,.l 4 91 90,.f 5 92 7 2,.l 6 93 92,.b .add 7 94 91 93,.ck 8 95 87,.f 9 96 95 6,.st 10 96 94]
abbrev r32_16 (F:Nums):List Ins:=[.mv 0 97 0,.ck 1 98 97,.f 2 99 98 9,.l 3 100 99,.mv 4 101 5,.ck 5 102 101,.f 6 103 102 1,.l 7 104 103,.i 8 105 (.bld [.int .i64 0,.int .i64 0] [(0,1,.c (.int .i64 1)),(1,1,.s 104)]),
 .mv 9 106 0,.ck 10 107 106,.f 11 108 107 0,.l 12 109 108,.f 13 110 7 1,.l 14 111 110,.b .add 15 112 109 111,.i 16 113 (.call (.c (.fn F.timer_Set [])) [.s 100,.s 105,.s 112])]
abbrev r32_17 (F:Nums):List Ins:=[.mv 0 114 0,.mv 1 115 5,.i 2 116 (.call (.c (.fn F.core_kill [])) [.s 114,.s 115])]
abbrev r32_10 (F:Nums):List Ins:=[.mv 0 54 0,.mv 1 55 5,.mv 2 56 0,.ck 3 57 56,.f 4 58 57 0,.l 5 59 58,.f 6 60 7 2,.l 7 61 60,.b .add 8 62 59 61,.i 9 63 (.call (.c (.fn F.core_idle [])) [.s 54,.s 55,.s 62])]
abbrev r32_18 (F:Nums):List Ins:=[.i 0 4 (.mov (.c (.int .i64 0)))]
abbrev c_core_done (F:Nums):Fn:=⟨2,[.tmp 4],(.seq (.reg [0,1] 0 (r32_0 F))
 (.seq (.reg [0,5] 0 (r32_1 F))
 (.seq (.seq (.reg [0,5,15] 0 (r32_2 F))
  (.cond (.s 15)
  (.seq (.reg [4] 0 (r32_3 F))
   .ret)
  .skip))
 (.seq (.seq (.reg [0,5,22] 0 (r32_4 F))
  (.cond (.s 22)
  (.seq (.reg [4] 0 (r32_5 F))
   .ret)
  .skip))
 (.seq (.reg [0,5] 0 (r32_6 F))
 (.seq (.reg [0,5,6] 0 (r32_7 F))
 (.seq (.reg [0,5,6] 0 (r32_8 F))
 (.seq (.reg [0,5,6,7] 1 (r32_9 F))
 (.seq (.blk 0
  (.seq (.reg [0,5,6,7,64] 0 (r32_11 F))
   (.cond (.s 64)
   (.reg [] 0 (r32_12 F))
   (.seq (.reg [0,5,6,7,78] 0 (r32_13 F))
    (.cond (.s 78)
    .skip
    (.seq (.reg [0,5,6,7,83] 0 (r32_14 F))
     (.cond (.s 83)
     (.seq (.reg [0,5,7] 0 (r32_15 F))
      (.seq (.reg [0,5] 0 (r32_16 F))
      (.reg [] 0 (r32_17 F))))
     (.reg [] 0 (r32_10 F)))))))))
 (.seq (.reg [4] 0 (r32_18 F))
 .ret))))))))))⟩
abbrev r33_0 (F:Nums):List Ins:=[.i 0 2 (.mov (.c (.int .i64 0)))]
abbrev r33_1 (F:Nums):List Ins:=[.mv 0 3 0,.ck 1 4 3,.f 2 5 4 0,.i 3 6 (.aload (.s 5)),.mv 4 2 6]
abbrev c_sync_atomic_Int64_Load (F:Nums):Fn:=⟨1,[.tmp 2],(.seq (.reg [0] 0 (r33_0 F))
 (.seq (.reg [2] 0 (r33_1 F))
 .ret))⟩
abbrev r34_0 (F:Nums):List Ins:=[.i 0 4 (.mov (.c (.int .i64 0)))]
abbrev r34_1 (F:Nums):List Ins:=[.mv 0 6 0,.mv 1 7 1,.b .add 2 8 6 7,.mv 3 5 8]
abbrev r34_2 (F:Nums):List Ins:=[.mv 0 10 0,.i 1 11 (.bin .gtr (.s 10) (.c (.int .i64 0))),.mv 2 12 11,⟨3,(some 13),(some (12,true)),[],.mov (.s 1),0⟩,⟨4,(some 14),(some (12,true)),[],.bin .gtr (.s 13) (.c (.int .i64 0)),0⟩,
 .i 5 15 (.pick (.s 12) (.s 14) (.c (.bool false))),.mv 6 16 15,⟨7,(some 17),(some (16,true)),[],.mov (.s 5),0⟩,⟨8,(some 18),(some (16,true)),[],.bin .leq (.s 17) (.c (.int .i64 0)),0⟩,
 .i 9 19 (.pick (.s 16) (.s 18) (.c (.bool false))),.mv 10 9 19]
abbrev r34_3 (F:Nums):List Ins:=[.i 0 4 (.mov (.c (.int .i64 9223372036854775807)))]
abbrev r34_4 (F:Nums):List Ins:=[.mv 0 21 0,.i 1 22 (.bin .lss (.s 21) (.c (.int .i64 0))),.mv 2 23 22,⟨3,(some 24),(some (23,true)),[],.mov (.s 1),0⟩,⟨4,(some 25),(some (23,true)),[],.bin .lss (.s 24) (.c (.int .i64 0)),0⟩,
 .i 5 26 (.pick (.s 23) (.s 25) (.c (.bool false))),.mv 6 27 26,⟨7,(some 28),(some (27,true)),[],.mov (.s 5),0⟩,⟨8,(some 29),(some (27,true)),[],.bin .geq (.s 28) (.c (.int .i64 0)),0⟩,
 .i 9 30 (.pick (.s 27) (.s 29) (.c (.bool false))),.mv 10 20 30]
abbrev r34_5 (F:Nums):List Ins:=[.i 0 4 (.mov (.c (.int .i64 (-9223372036854775808))))]
abbrev r34_6 (F:Nums):List Ins:=[.mv 0 31 5,.mv 1 4 31]
abbrev c_num_Add (F:Nums):Fn:=⟨2,[.tmp 4],(.seq (.reg [0,1] 0 (r34_0 F))
 (.seq (.reg [0,1,5] 0 (r34_1 F))
 (.seq (.blk 0
  (.seq (.reg [0,1,5,9] 0 (r34_2 F))
   (.cond (.s 9)
   (.seq (.reg [4] 0 (r34_3 F))
    .ret)
   (.seq (.reg [5,20] 0 (r34_4 F))
    (.cond (.s 20)
    (.seq (.reg [4] 0 (r34_5 F))
     .ret)
    .skip)))))
 (.seq (.reg [4] 0 (r34_6 F))
 .ret))))⟩
abbrev r35_0 (F:Nums):List Ins:=[.i 0 6 (.mov (.c (.bool false)))]
abbrev r35_1 (F:Nums):List Ins:=[.mv 0 7 0,.ck 1 8 7,.f 2 9 8 0,.mv 3 10 1,.mv 4 11 2,.i 5 12 (.acas (.s 9) (.s 10) (.s 11)),.mv 6 6 12]
abbrev c_sync_atomic_Int64_CompareAndSwap (F:Nums):Fn:=⟨3,[.tmp 6],(.seq (.reg [0,1,2] 0 (r35_0 F))
 (.seq (.reg [6] 0 (r35_1 F))
 .ret))⟩
abbrev r36_0 (F:Nums):List Ins:=[.i 0 4 (.mov (.c (.bool false)))]
abbrev r36_1 (F:Nums):List Ins:=[.mv 0 5 1,.i 1 6 (.bin .geq (.s 5) (.c (.int .i64 0))),.mv 2 7 6,⟨3,(some 8),(some (7,true)),[],.mov (.s 1),0⟩,⟨4,(some 9),(some (7,true)),[],.bin .lss (.s 8) (.c (.int .i64 64)),0⟩,
 .i 5 10 (.pick (.s 7) (.s 9) (.c (.bool false))),.mv 6 11 10,⟨7,(some 12),(some (11,true)),[],.mov (.s 0),0⟩,⟨8,(some 13),(some (11,true)),[],.mov (.s 1),0⟩,
 ⟨9,(some 14),(some (11,true)),[],.chk (.s 12),0⟩,⟨10,(some 15),(some (11,true)),[],.fa (.s 14) 32,0⟩,⟨11,(some 16),(some (11,true)),[],.ixa (.s 15) (.s 13) 64 4,0⟩,
 ⟨12,(some 17),(some (11,true)),[],.fa (.s 16) 0,0⟩,⟨13,(some 18),(some (11,true)),[],.ld (.s 17),0⟩,.i 14 19 (.pick (.s 11) (.s 18) (.c (.bool false))),
 .mv 15 4 19]
abbrev c_quota_known (F:Nums):Fn:=⟨2,[.tmp 4],(.seq (.reg [0,1] 0 (r36_0 F))
 (.seq (.reg [4] 0 (r36_1 F))
 .ret))⟩
abbrev r37_0 (F:Nums):List Ins:=[.i 0 2 (.mov (.c (.nilp)))]
abbrev r37_1 (F:Nums):List Ins:=[.mv 0 3 0,.i 1 4 (.mkm 0 2),.i 2 5 (.bld [.nilf,.nils,.nilm] [(0,1,.s 3),(2,1,.s 4)]),.i 3 6 (.box 1 (.s 5)),.mv 4 2 6]
abbrev c_theap_New (F:Nums):Fn:=⟨1,[.tmp 2],(.seq (.reg [0] 0 (r37_0 F))
 (.seq (.reg [2] 2 (r37_1 F))
 .ret))⟩
abbrev r38_0 (F:Nums):List Ins:=[.i 0 2 (.box 0 (.s 0)),.i 1 3 (.box 1 (.s 1)),.i 2 4 (.mov (.c (.bool false)))]
abbrev r38_1 (F:Nums):List Ins:=[.f 0 5 2 0,.l 1 6 5,.f 2 7 3 0,.l 3 8 7,.f 5 10 2 1,.f 6 11 10 0,.l 7 12 11,.f 8 13 3 1,.f 9 14 13 0,.l 10 15 14,.f 12 17 2 1,.f 13 18 17 1,
 .l 14 19 18,.f 15 20 3 1,.f 16 21 20 1,.l 17 22 21,⟨4,(some 9),none,[(none,12,.ld (.s 11)),(none,15,.ld (.s 14)),(none,19,.ld (.s 18)),(none,22,.ld (.s 21))],.call (.c (.fn F.cmp_Compare_int64 [])) [.s 6,.s 8],0⟩,
 ⟨11,(some 16),none,[(none,19,.ld (.s 18)),(none,22,.ld (.s 21))],.call (.c (.fn F.cmp_Compare [])) [.s 12,.s 15],0⟩,.i 18 23 (.call (.c (.fn F.cmp_Compare [])) [.s 19,.s 22]),
 .i 19 24 (.bsl 0 [.int .i64 0,.int .i64 0,.int .i64 0] [(0,1,.s 9),(1,1,.s 16),(2,1,.s 23)] 3 1),⟨20,(some 25),none,[],.call (.c (.fn F.cmp_Or [])) [.s 24],1⟩,
 .i 21 26 (.bin .lss (.s 25) (.c (.int .i64 0))),.mv 22 4 26]
abbrev c_timer_less (F:Nums):Fn:=⟨2,[.tmp 4],(.seq (.reg [2,3] 2 (r38_0 F))
 (.seq (.reg [4] 0 (r38_1 F))
 .ret))⟩
abbrev r39_0 (F:Nums):List Ins:=[.i 0 4 (.mov (.c (.bool false)))]
abbrev r39_1 (F:Nums):List Ins:=[.mv 0 5 1,.i 1 6 (.bin .geq (.s 5) (.c (.int .i64 0))),.mv 2 7 6,⟨3,(some 8),(some (7,true)),[],.mov (.s 1),0⟩,⟨4,(some 9),(some (7,true)),[],.bin .lss (.s 8) (.c (.int .i64 32)),0⟩,
 .i 5 10 (.pick (.s 7) (.s 9) (.c (.bool false))),.mv 6 11 10,⟨7,(some 12),(some (11,true)),[],.mov (.s 0),0⟩,⟨8,(some 13),(some (11,true)),[],.mov (.s 1),0⟩,
 ⟨9,(some 14),(some (11,true)),[],.chk (.s 12),0⟩,⟨10,(some 15),(some (11,true)),[],.fa (.s 14) 0,0⟩,⟨11,(some 16),(some (11,true)),[],.ixa (.s 15) (.s 13) 32 4,0⟩,
 ⟨12,(some 17),(some (11,true)),[],.fa (.s 16) 0,0⟩,⟨13,(some 18),(some (11,true)),[],.ld (.s 17),0⟩,.i 14 19 (.pick (.s 11) (.s 18) (.c (.bool false))),
 .mv 15 4 19]
abbrev c_host_there (F:Nums):Fn:=⟨2,[.tmp 4],(.seq (.reg [0,1] 0 (r39_0 F))
 (.seq (.reg [4] 0 (r39_1 F))
 .ret))⟩
abbrev r40_0 (F:Nums):List Ins:=[.i 0 3 (.box 0 (.s 1)),.i 1 4 (.alc 1 [.int .i64 0,.int .i64 0,.int .i64 0]),.i 2 5 (.mov (.c (.bool false)))]
abbrev r40_1 (F:Nums):List Ins:=[.mv 0 10 0,.ck 1 11 10,.f 2 12 11 2,.l 3 13 12,.i 4 14 (.ldn (.s 3) 2),.i 5 15 (.look 2 (.s 13) (.s 14) (.int .i64 0) true),.mv 6 9 15,
 .e 7 16 9 0,.e 8 17 9 1,.mv 9 6 16,.mv 10 7 17]
abbrev r40_2 (F:Nums):List Ins:=[.mv 0 18 7,.nt 1 19 18]
abbrev r40_3 (F:Nums):List Ins:=[.i 0 8 (.alc 0 [.int .i64 0,.int .i64 0,.int .i64 0])]
abbrev r40_4 (F:Nums):List Ins:=[.i 0 20 (.ldn (.s 8) 3),.j 1 (.stn (.s 4) (.s 20) 3),.i 2 5 (.mov (.c (.bool false)))]
abbrev r40_5 (F:Nums):List Ins:=[.mv 0 21 0,.ck 1 22 21,.f 2 23 22 1,.l 3 24 23,.mv 4 25 6,.x 5 26 24 25 5,.f 6 27 26 2,.i 7 28 (.ldn (.s 27) 3),.j 8 (.stn (.s 4) (.s 28) 3),
 .i 9 5 (.mov (.c (.bool true)))]
abbrev c_theap_Get (F:Nums):Fn:=⟨2,[.cells 4 3,.tmp 5],(.seq (.reg [0,3,4] 2 (r40_0 F))
 (.seq (.reg [0,4,6,7] 0 (r40_1 F))
 (.seq (.seq (.reg [0,4,6,19] 0 (r40_2 F))
  (.cond (.s 19)
  (.seq (.reg [4,8] 1 (r40_3 F))
   (.seq (.reg [4,5] 0 (r40_4 F))
   .ret))
  .skip))
 (.seq (.reg [4,5] 0 (r40_5 F))
 .ret))))⟩
abbrev r41_0 (F:Nums):List Ins:=[.i 0 4 (.alc 0 [.int .i64 0,.int .i64 0,.int .i64 0])]
abbrev r41_1 (F:Nums):List Ins:=[.mv 0 5 0,.ck 1 6 5,.f 2 7 6 4,.l 3 8 7,.mv 4 9 1,.i 5 10 (.look 1 (.s 8) (.s 9) (.nilp) false),.ck 6 11 10,.f 7 12 11 7,.l 8 13 12,
 .mv 9 14 0,.ck 10 15 14,.f 11 16 15 4,.l 12 17 16,.mv 13 18 1,.i 14 19 (.look 1 (.s 17) (.s 18) (.nilp) false),.ck 15 20 19,.f 16 21 20 8,
 .l 17 22 21,.i 18 23 (.call (.c (.fn F.policy_Of [])) [.s 13,.s 22]),.j 19 (.stn (.s 4) (.s 23) 3)]
abbrev c_core_window (F:Nums):Fn:=⟨2,[.cells 4 3],(.seq (.reg [0,1,4] 1 (r41_0 F))
 (.seq (.reg [4] 0 (r41_1 F))
 .ret))⟩
abbrev r42_0 (F:Nums):List Ins:=[.i 0 2 (.mov (.c (.int .i64 0)))]
abbrev r42_1 (F:Nums):List Ins:=[.mv 0 3 0,.ck 1 4 3,.f 2 5 4 2,.l 3 6 5,.mv 4 2 6]
abbrev c_bucket_Tokens (F:Nums):Fn:=⟨1,[.tmp 2],(.seq (.reg [0] 0 (r42_0 F))
 (.seq (.reg [2] 0 (r42_1 F))
 .ret))⟩
abbrev r43_0 (F:Nums):List Ins:=[.i 0 2 (.mov (.c (.int .i64 0)))]
abbrev r43_1 (F:Nums):List Ins:=[.mv 0 3 0,.ck 1 4 3,.f 2 5 4 0,.i 3 6 (.call (.c (.fn F.sync_atomic_Int64_Load [])) [.s 5]),.mv 4 2 6]
abbrev c_tally_Load (F:Nums):Fn:=⟨1,[.tmp 2],(.seq (.reg [0] 0 (r43_0 F))
 (.seq (.reg [2] 0 (r43_1 F))
 .ret))⟩
abbrev r44_0 (F:Nums):List Ins:=[.i 0 2 (.mov (.c (.nils)))]
abbrev r44_1 (F:Nums):List Ins:=[.mv 0 3 0,.i 1 4 (.call (.c (.fn F.slices_AppendSeq [])) [.c (.nils),.s 3]),.mv 2 2 4]
abbrev c_slices_Collect (F:Nums):Fn:=⟨1,[.tmp 2],(.seq (.reg [0] 0 (r44_0 F))
 (.seq (.reg [2] 0 (r44_1 F))
 .ret))⟩
abbrev r45_0 (F:Nums):List Ins:=[.mv 0 3 0,.i 1 4 (.len (.s 3)),.mv 2 2 4]
abbrev r45_1 (F:Nums):List Ins:=[.mv 0 5 0,.mv 1 6 2,.mv 2 7 2,.i 3 8 (.conv .u64 (.s 7)),.i 4 9 (.call (.c (.fn F.math_bits_Len [])) [.s 8]),.i 5 10 (.call (.c (.fn F.slices_pdqsortOrdered [])) [.s 5,.c (.int .i64 0),.s 6,.s 9])]
abbrev c_slices_Sort (F:Nums):Fn:=⟨1,[],(.seq (.reg [0,2] 0 (r45_0 F))
 (.reg [] 0 (r45_1 F)))⟩
abbrev r46_0 (F:Nums):List Ins:=[.l 0 4 1,.i 1 5 (.rng 0 (.s 4))]
abbrev r46_1 (F:Nums):List Ins:=[.i 0 6 (.nxt (.s 5)),.e 1 7 6 0]
abbrev r46_2 (F:Nums):List Ins:=[.i 0 8 (.ent (.s 5)),.e 1 9 8 0,.mv 2 3 9]
abbrev r46_3 (F:Nums):List Ins:=[.mv 0 10 0,.mv 1 11 3,.i 2 12 (.call (.s 10) [.s 11]),.nt 3 13 12]
abbrev c_Keys_box_1 (F:Nums):Fn:=⟨2,[],(.seq (.reg [0,5] 1 (r46_0 F))
 (.blk 0
 (.loop
  (.seq (.reg [0,5,7] 0 (r46_1 F))
   (.seq (.cond (.s 7)
    .skip
    (.exit 0))
   (.blk 1
   (.seq (.reg [0,3,5] 0 (r46_2 F))
    (.seq (.reg [0,5,13] 0 (r46_3 F))
    (.cond (.s 13)
    .ret
    .skip)))))))))⟩
abbrev r47_0 (F:Nums):List Ins:=[.mv 0 2 0,.mv 1 3 0,.ck 2 4 3,.f 3 5 4 2,.l 4 6 5,.mv 5 7 0,.ck 6 8 7,.f 7 9 8 1,.l 8 10 9,.b .add 9 11 6 10,.mv 10 12 0,.ck 11 13 12,
 .f 12 14 13 0,.l 13 15 14,.i 14 16 (.mn [.s 11,.s 15]),.ck 15 17 2,.f 16 18 17 2,.st 17 18 16]
abbrev c_bucket_Tick (F:Nums):Fn:=⟨1,[],(.reg [] 0 (r47_0 F))⟩
abbrev r48_0 (F:Nums):List Ins:=[.i 0 4 (.alc 0 [.int .i64 0,.int .i64 0]),.i 1 5 (.mov (.c (.bool false)))]
abbrev r48_1 (F:Nums):List Ins:=[.mv 0 10 0,.ck 1 11 10,.f 2 12 11 0,.l 3 13 12,.i 4 14 (.call (.c (.fn F.theap_Min [])) [.s 13]),.mv 5 9 14,.e 6 15 9 0,.e 7 16 9 1,.e 8 17 9 2,
 .i 9 6 (.alc 0 [.int .i64 0,.int .i64 0]),.i 10 7 (.alc 1 [.int .i64 0,.int .i64 0,.int .i64 0]),.j 11 (.stn (.s 6) (.s 15) 2),.j 12 (.stn (.s 7) (.s 16) 3),
 .mv 13 8 17]
abbrev r48_2 (F:Nums):List Ins:=[.mv 0 18 8,.nt 1 19 18,.mv 2 20 19,⟨3,(some 21),(some (20,false)),[],.fa (.s 7) 0,0⟩,⟨4,(some 22),(some (20,false)),[],.ld (.s 21),0⟩,
 ⟨5,(some 23),(some (20,false)),[],.mov (.s 1),0⟩,⟨6,(some 24),(some (20,false)),[],.bin .gtr (.s 22) (.s 23),0⟩,.i 7 25 (.pick (.s 20) (.c (.bool true)) (.s 24))]
abbrev r48_3 (F:Nums):List Ins:=[.i 0 26 (.bld [.int .i64 0,.int .i64 0] []),.j 1 (.stn (.s 4) (.s 26) 2),.i 2 5 (.mov (.c (.bool false)))]
abbrev r48_4 (F:Nums):List Ins:=[.mv 0 27 0,.ck 1 28 27,.f 2 29 28 0,.l 3 30 29,.i 4 31 (.ldn (.s 6) 2),.i 5 32 (.call (.c (.fn F.theap_Drop [])) [.s 30,.s 31])]
abbrev r48_5 (F:Nums):List Ins:=[.i 0 33 (.ldn (.s 6) 2),.j 1 (.stn (.s 4) (.s 33) 2),.i 2 5 (.mov (.c (.bool true)))]
abbrev c_timer_Next (F:Nums):Fn:=⟨2,[.cells 4 2,.tmp 5],(.seq (.reg [0,1,4] 1 (r48_0 F))
 (.seq (.reg [0,1,4,6,7,8] 2 (r48_1 F))
 (.seq (.seq (.reg [0,4,6,25] 0 (r48_2 F))
  (.cond (.s 25)
  (.seq (.reg [4,5] 0 (r48_3 F))
   .ret)
  .skip))
 (.seq (.reg [4,6] 0 (r48_4 F))
 (.seq (.reg [4,5] 0 (r48_5 F))
 .ret)))))⟩
abbrev r49_0 (F:Nums):List Ins:=[.mv 0 4 0,.mv 1 5 1,.i 2 6 (.call (.c (.fn F.core_gone [])) [.s 4,.s 5])]
abbrev r49_1 (F:Nums):List Ins:=[.mv 0 7 0,.mv 1 8 0,.ck 2 9 8,.f 3 10 9 10,.l 4 11 10,.mv 5 12 1,.ck 6 13 12,.f 7 14 13 0,.l 8 15 14,.mv 9 16 1,.ck 10 17 16,.f 11 18 17 1,
 .l 12 19 18,.mv 13 20 1,.ck 14 21 20,.f 15 22 21 2,.l 16 23 22,.i 17 24 (.bld [.bool false,.int .i64 0,.int .i64 0,.int .i64 0] [(1,1,.s 15),(2,1,.s 19),(3,1,.s 23)]),
 .i 18 25 (.bsl 0 [.bool false,.int .i64 0,.int .i64 0,.int .i64 0] [(0,4,.s 24)] 1 4),.i 19 26 (.app 1 (.s 11) (.s 25) 4),.ck 20 27 7,
 .f 21 28 27 10,.st 22 28 26]
abbrev c_core_kill (F:Nums):Fn:=⟨2,[],(.seq (.reg [0,1] 0 (r49_0 F))
 (.reg [] 2 (r49_1 F)))⟩
abbrev r50_0 (F:Nums):List Ins:=[.i 0 3 (.box 0 (.s 1))]
abbrev r50_1 (F:Nums):List Ins:=[.mv 0 7 0,.i 1 8 (.mkf F.core_ahead_1 [.s 3]),.i 2 9 (.call (.c (.fn F.core_where [])) [.s 7,.s 8]),.mv 3 4 9]
abbrev r50_2 (F:Nums):List Ins:=[.mv 0 11 0,.ck 1 12 11,.f 2 13 12 5,.l 3 14 13,.mv 4 15 0,.ck 5 16 15,.f 6 17 16 4,.l 7 18 17,.l 8 19 3,.i 9 20 (.look 1 (.s 18) (.s 19) (.nilp) false),
 .ck 10 21 20,.f 11 22 21 1,.l 12 23 22,.i 13 24 (.call (.c (.fn F.host_Fit [])) [.s 14,.s 23]),.mv 14 10 24,.e 15 25 10 0,.e 16 26 10 1,
 .mv 17 5 25,.mv 18 6 26]
abbrev r50_3 (F:Nums):List Ins:=[.mv 0 27 4,.i 1 28 (.len (.s 27)),.i 2 29 (.bin .gtr (.s 28) (.c (.int .i64 0))),.mv 3 30 29,⟨4,(some 31),(some (30,false)),[],.mov (.s 6),0⟩,
 ⟨5,(some 32),(some (30,false)),[],.not (.s 31),0⟩,.i 6 33 (.pick (.s 30) (.c (.bool true)) (.s 32))]
abbrev r50_4 (F:Nums):List Ins:=[.mv 0 34 0,.ck 1 35 34,.f 2 36 35 8,.l 3 37 36,.mv 4 38 0,.l 5 39 3,.mv 6 40 5,.mv 11 45 0,.ck 12 46 45,.f 13 47 46 4,.l 14 48 47,
 .l 15 49 3,.i 16 50 (.look 1 (.s 48) (.s 49) (.nilp) false),.ck 17 51 50,.f 18 52 51 6,.l 19 53 52,⟨7,(some 41),none,[(none,37,.ld (.s 36)),(none,48,.ld (.s 47)),(none,49,.ld (.s 3)),(none,50,.look 1 (.s 48) (.s 49) (.nilp) false),(none,53,.ld (.s 52))],.call (.c (.fn F.core_start [])) [.s 38,.s 39,.s 40],0⟩,
 .ck 8 42 41,.f 9 43 42 0,.l 10 44 43,.j 20 (.mupd 1 (.s 37) (.s 44) (.s 53))]
abbrev c_core_ahead (F:Nums):Fn:=⟨2,[],(.seq (.reg [0,3] 1 (r50_0 F))
 (.seq (.reg [0,3,4] 0 (r50_1 F))
 (.seq (.reg [0,3,4,5,6] 0 (r50_2 F))
 (.seq (.seq (.reg [0,3,5,33] 0 (r50_3 F))
  (.cond (.s 33)
  .ret
  .skip))
 (.reg [] 0 (r50_4 F))))))⟩
abbrev r51_0 (F:Nums):List Ins:=[.i 0 6 (.mov (.c (.int .i64 0)))]
abbrev r51_1 (F:Nums):List Ins:=[.mv 0 10 1,.i 1 11 (.bin .lss (.s 10) (.c (.int .i64 0))),.mv 2 12 11,⟨3,(some 13),(some (12,false)),[],.mov (.s 1),0⟩,⟨4,(some 14),(some (12,false)),[],.bin .geq (.s 13) (.c (.int .i64 16)),0⟩,
 .i 5 15 (.pick (.s 12) (.c (.bool true)) (.s 14)),.mv 6 16 15,⟨7,(some 17),(some (16,false)),[],.mov (.s 2),0⟩,⟨8,(some 18),(some (16,false)),[],.bin .lss (.s 17) (.c (.int .i64 0)),0⟩,
 .i 9 19 (.pick (.s 16) (.c (.bool true)) (.s 18)),.mv 10 20 19,⟨11,(some 21),(some (20,false)),[],.mov (.s 2),0⟩,⟨12,(some 22),(some (20,false)),[],.bin .gtr (.s 21) (.c (.int .i64 1000)),0⟩,
 .i 13 23 (.pick (.s 20) (.c (.bool true)) (.s 22))]
abbrev r51_2 (F:Nums):List Ins:=[.i 0 6 (.mov (.c (.int .i64 1)))]
abbrev r51_3 (F:Nums):List Ins:=[.mv 0 25 0,.mv 1 26 1,.i 2 27 (.call (.c (.fn F.quota_sums [])) [.s 25,.s 26]),.mv 3 24 27,.e 4 28 24 0,.e 5 29 24 1,.e 6 30 24 2,.mv 7 7 28,
 .mv 8 8 29,.mv 9 9 30]
abbrev r51_4 (F:Nums):List Ins:=[.mv 0 31 2,.mv 1 32 7,.b .lss 2 33 31 32]
abbrev r51_5 (F:Nums):List Ins:=[.i 0 6 (.mov (.c (.int .i64 4)))]
abbrev r51_6 (F:Nums):List Ins:=[.mv 0 34 0,.mv 1 35 1,.mv 2 36 2,.i 3 37 (.bld [.bool false,.int .i64 0] [(0,1,.c (.bool true)),(1,1,.s 36)]),.ck 4 38 34,.f 5 39 38 0,
 .i 6 40 (.ixa (.s 39) (.s 35) 16 2),.j 7 (.stn (.s 40) (.s 37) 2)]
abbrev r51_7 (F:Nums):List Ins:=[.i 0 6 (.mov (.c (.int .i64 0)))]
abbrev c_quota_SetAccount (F:Nums):Fn:=⟨3,[.tmp 6],(.seq (.reg [0,1,2] 0 (r51_0 F))
 (.seq (.seq (.reg [0,1,2,23] 0 (r51_1 F))
  (.cond (.s 23)
  (.seq (.reg [6] 0 (r51_2 F))
   .ret)
  .skip))
 (.seq (.seq (.reg [0,1,2,7] 0 (r51_3 F))
  (.seq (.reg [0,1,2,33] 0 (r51_4 F))
  (.cond (.s 33)
  (.seq (.reg [6] 0 (r51_5 F))
   .ret)
  .skip)))
 (.seq (.reg [] 0 (r51_6 F))
 (.seq (.reg [6] 0 (r51_7 F))
 .ret)))))⟩
abbrev r52_0 (F:Nums):List Ins:=[.mv 0 6 0,.mv 1 7 0,.mv 2 8 1,.i 3 9 (.call (.c (.fn F.bucket_bound [])) [.s 8]),.mv 4 10 2,.i 5 11 (.call (.c (.fn F.bucket_bound [])) [.s 10]),
 .ck 6 12 6,.f 7 13 12 0,.st 8 13 9,.ck 9 14 7,.f 10 15 14 1,.st 11 15 11]
abbrev r52_1 (F:Nums):List Ins:=[.mv 0 16 0,.mv 1 17 0,.ck 2 18 17,.f 3 19 18 2,.l 4 20 19,.mv 5 21 0,.ck 6 22 21,.f 7 23 22 0,.l 8 24 23,.i 9 25 (.mn [.s 20,.s 24]),
 .ck 10 26 16,.f 11 27 26 2,.st 12 27 25]
abbrev c_bucket_Set (F:Nums):Fn:=⟨3,[],(.seq (.reg [0] 0 (r52_0 F))
 (.reg [] 0 (r52_1 F)))⟩
abbrev r53_0 (F:Nums):List Ins:=[.i 0 4 (.mov (.c (.nilp)))]
abbrev r53_1 (F:Nums):List Ins:=[.mv 0 5 0,.i 1 6 (.call (.c (.fn F.bucket_bound [])) [.s 5]),.mv 2 7 1,.i 3 8 (.call (.c (.fn F.bucket_bound [])) [.s 7]),.mv 4 9 0,.i 5 10 (.call (.c (.fn F.bucket_bound [])) [.s 9]),
 .i 6 11 (.bld [.int .i64 0,.int .i64 0,.int .i64 0] [(0,1,.s 6),(1,1,.s 8),(2,1,.s 10)]),.i 7 12 (.box 0 (.s 11)),.mv 8 4 12]
abbrev c_bucket_New (F:Nums):Fn:=⟨2,[.tmp 4],(.seq (.reg [0,1] 0 (r53_0 F))
 (.seq (.reg [4] 1 (r53_1 F))
 .ret))⟩
abbrev r54_0 (F:Nums):List Ins:=[.i 0 8 (.mov (.c (.int .i64 0)))]
abbrev r54_1 (F:Nums):List Ins:=[.mv 0 13 1,.i 1 14 (.bin .lss (.s 13) (.c (.int .i64 0))),.mv 2 15 14,⟨3,(some 16),(some (15,false)),[],.mov (.s 1),0⟩,⟨4,(some 17),(some (15,false)),[],.bin .geq (.s 16) (.c (.int .i64 64)),0⟩,
 .i 5 18 (.pick (.s 15) (.c (.bool true)) (.s 17)),.mv 6 19 18,⟨7,(some 20),(some (19,false)),[],.mov (.s 2),0⟩,⟨8,(some 21),(some (19,false)),[],.bin .lss (.s 20) (.c (.int .i64 0)),0⟩,
 .i 9 22 (.pick (.s 19) (.c (.bool true)) (.s 21)),.mv 10 23 22,⟨11,(some 24),(some (23,false)),[],.mov (.s 2),0⟩,⟨12,(some 25),(some (23,false)),[],.bin .geq (.s 24) (.c (.int .i64 16)),0⟩,
 .i 13 26 (.pick (.s 23) (.c (.bool true)) (.s 25)),.mv 14 27 26,⟨15,(some 28),(some (27,false)),[],.mov (.s 3),0⟩,⟨16,(some 29),(some (27,false)),[],.bin .lss (.s 28) (.c (.int .i64 0)),0⟩,
 .i 17 30 (.pick (.s 27) (.c (.bool true)) (.s 29)),.mv 18 31 30,⟨19,(some 32),(some (31,false)),[],.mov (.s 3),0⟩,⟨20,(some 33),(some (31,false)),[],.bin .gtr (.s 32) (.c (.int .i64 1000)),0⟩,
 .i 21 34 (.pick (.s 31) (.c (.bool true)) (.s 33)),.mv 22 12 34]
abbrev r54_2 (F:Nums):List Ins:=[.i 0 8 (.mov (.c (.int .i64 1)))]
abbrev r54_3 (F:Nums):List Ins:=[.mv 0 36 0,.mv 1 37 2,.ck 2 38 36,.f 3 39 38 0,.i 4 40 (.ixa (.s 39) (.s 37) 16 2),.f 5 41 40 0,.l 6 42 41,.nt 7 43 42,.mv 8 35 43]
abbrev r54_4 (F:Nums):List Ins:=[.i 0 8 (.mov (.c (.int .i64 2)))]
abbrev r54_5 (F:Nums):List Ins:=[.mv 0 45 0,.mv 1 46 1,.ck 2 47 45,.f 3 48 47 32,.i 4 49 (.ixa (.s 48) (.s 46) 64 4),.f 5 50 49 0,.l 6 51 50,.mv 7 52 51,⟨8,(some 53),(some (52,true)),[],.mov (.s 0),0⟩,
 ⟨9,(some 54),(some (52,true)),[],.mov (.s 1),0⟩,⟨10,(some 55),(some (52,true)),[],.chk (.s 53),0⟩,⟨11,(some 56),(some (52,true)),[],.fa (.s 55) 32,0⟩,
 ⟨12,(some 57),(some (52,true)),[],.ixa (.s 56) (.s 54) 64 4,0⟩,⟨13,(some 58),(some (52,true)),[],.fa (.s 57) 1,0⟩,⟨14,(some 59),(some (52,true)),[],.ld (.s 58),0⟩,
 ⟨15,(some 60),(some (52,true)),[],.mov (.s 2),0⟩,⟨16,(some 61),(some (52,true)),[],.bin .neq (.s 59) (.s 60),0⟩,.i 17 62 (.pick (.s 52) (.s 61) (.c (.bool false))),
 .mv 18 44 62]
abbrev r54_6 (F:Nums):List Ins:=[.i 0 8 (.mov (.c (.int .i64 3)))]
abbrev r54_7 (F:Nums):List Ins:=[.mv 0 64 0,.mv 1 65 2,.i 2 66 (.call (.c (.fn F.quota_sums [])) [.s 64,.s 65]),.mv 3 63 66,.e 4 67 63 0,.e 5 68 63 1,.e 6 69 63 2,.mv 7 9 67,
 .mv 8 10 68,.mv 9 11 69]
abbrev r54_8 (F:Nums):List Ins:=[.mv 0 70 9,.mv 1 71 0,.mv 2 72 1,.ck 3 73 71,.f 4 74 73 32,.i 5 75 (.ixa (.s 74) (.s 72) 64 4),.f 6 76 75 2,.l 7 77 76,.b .sub 8 78 70 77,
 .mv 9 79 3,.b .add 10 80 78 79,.mv 11 81 0,.mv 12 82 2,.ck 13 83 81,.f 14 84 83 0,.i 15 85 (.ixa (.s 84) (.s 82) 16 2),.f 16 86 85 1,
 .l 17 87 86,.b .gtr 18 88 80 87]
abbrev r54_9 (F:Nums):List Ins:=[.i 0 8 (.mov (.c (.int .i64 4)))]
abbrev r54_10 (F:Nums):List Ins:=[.mv 0 89 0,.mv 1 90 1,.mv 2 91 0,.mv 3 92 1,.mv 4 93 0,.mv 5 94 1,.mv 6 95 2,.mv 7 96 3,.ck 8 97 89,.f 9 98 97 32,.i 10 99 (.ixa (.s 98) (.s 90) 64 4),
 .f 11 100 99 0,.ck 13 101 91,.f 14 102 101 32,.ck 18 105 93,.f 19 106 105 32,.j 12 (.st (.s 100) (.c (.bool true))),.i 15 103 (.ixa (.s 102) (.s 92) 64 4),
 .f 16 104 103 1,.st 17 104 95,.i 20 107 (.ixa (.s 106) (.s 94) 64 4),.f 21 108 107 2,.st 22 108 96]
abbrev r54_11 (F:Nums):List Ins:=[.i 0 8 (.mov (.c (.int .i64 0)))]
abbrev c_quota_SetFunc (F:Nums):Fn:=⟨4,[.tmp 8],(.seq (.reg [0,1,2,3] 0 (r54_0 F))
 (.seq (.blk 0
  (.seq (.reg [0,1,2,3,12] 0 (r54_1 F))
   (.cond (.s 12)
   (.seq (.reg [8] 0 (r54_2 F))
    .ret)
   (.seq (.reg [0,1,2,3,35] 0 (r54_3 F))
    (.cond (.s 35)
    (.seq (.reg [8] 0 (r54_4 F))
     .ret)
    (.seq (.reg [0,1,2,3,44] 0 (r54_5 F))
     (.cond (.s 44)
     (.seq (.reg [8] 0 (r54_6 F))
      .ret)
     .skip)))))))
 (.seq (.reg [0,1,2,3,9] 0 (r54_7 F))
 (.seq (.seq (.reg [0,1,2,3,88] 0 (r54_8 F))
  (.cond (.s 88)
  (.seq (.reg [8] 0 (r54_9 F))
   .ret)
  .skip))
 (.seq (.reg [] 0 (r54_10 F))
 (.seq (.reg [8] 0 (r54_11 F))
 .ret))))))⟩
abbrev r55_0 (F:Nums):List Ins:=[.i 0 0 (.mov (.c (.nilp)))]
abbrev r55_1 (F:Nums):List Ins:=[.i 0 1 (.bld (List.replicate 242 (.int .i64 0)) []),.i 1 2 (.box 0 (.s 1)),.mv 2 0 2]
abbrev c_histo_New (F:Nums):Fn:=⟨0,[.tmp 0],(.seq (.reg [] 0 (r55_0 F))
 (.seq (.reg [0] 1 (r55_1 F))
 .ret))⟩
abbrev r56_0 (F:Nums):List Ins:=[.i 0 0 (.mov (.c (.nilp)))]
abbrev r56_1 (F:Nums):List Ins:=[.i 0 1 (.bld [.int .i64 0,.int .i64 0,.int .i64 0,.int .i64 0,.int .i64 0,.int .i64 0,.int .i64 0,.int .i64 0,.int .i64 0] []),.i 1 2 (.box 0 (.s 1)),
 .mv 2 0 2]
abbrev c_ring_New (F:Nums):Fn:=⟨0,[.tmp 0],(.seq (.reg [] 0 (r56_0 F))
 (.seq (.reg [0] 1 (r56_1 F))
 .ret))⟩
abbrev r57_0 (F:Nums):List Ins:=[.i 0 2 (.box 0 (.s 0)),.i 1 3 (.box 1 (.s 1))]
abbrev r57_1 (F:Nums):List Ins:=[.l 0 12 2,.ck 1 13 12,.f 2 14 13 4,.l 3 15 14,.l 4 16 3,.i 5 17 (.look 1 (.s 15) (.s 16) (.nilp) false),.ck 6 18 17,.f 7 19 18 3,.l 8 20 19,
 .i 9 4 (.alc 0 [.int .i64 0]),.st 10 4 20]
abbrev r57_2 (F:Nums):List Ins:=[.l 0 21 2,.l 1 22 3,.i 2 23 (.call (.c (.fn F.core_pinned [])) [.s 21,.s 22]),.i 3 24 (.call (.c (.fn F.slices_Backward [])) [.s 23])]
abbrev r57_3 (F:Nums):List Ins:=[.mv 0 5 25]
abbrev r57_4 (F:Nums):List Ins:=[.mv 0 6 26]
abbrev r57_5 (F:Nums):List Ins:=[.mv 0 27 5,.l 1 28 4,.b .lss 2 29 27 28]
abbrev r57_6 (F:Nums):List Ins:=[.l 0 30 2,.ck 1 31 30,.f 2 32 31 7,.l 3 33 32,.mv 4 34 6,.i 5 35 (.look 1 (.s 33) (.s 34) (.nilp) false),.mv 6 7 35]
abbrev r57_7 (F:Nums):List Ins:=[.mv 0 36 7,.ck 1 37 36,.f 2 38 37 6,.j 3 (.st (.s 38) (.c (.bool false)))]
abbrev r57_8 (F:Nums):List Ins:=[.mv 0 39 7,.i 1 40 (.call (.c (.fn F.box_Idle [])) [.s 39])]
abbrev r57_9 (F:Nums):List Ins:=[.l 0 41 2,.mv 1 42 7,.l 2 43 2,.ck 3 44 43,.f 4 45 44 0,.l 5 46 45,.l 6 47 2,.l 7 48 3,⟨8,(some 49),none,[(none,41,.ld (.s 2)),(none,43,.ld (.s 2)),(none,46,.ld (.s 45))],.call (.c (.fn F.core_window [])) [.s 47,.s 48],0⟩,
 .i 9 50 (.fld (.s 49) 2),.b .add 10 51 46 50,.i 11 52 (.call (.c (.fn F.core_idle [])) [.s 41,.s 42,.s 51])]
abbrev r57_10 (F:Nums):List Ins:=[.l 0 53 2,.l 1 54 3,.i 2 55 (.call (.c (.fn F.core_pinned [])) [.s 53,.s 54]),.i 3 56 (.len (.s 55)),.mv 4 8 56]
abbrev r57_11 (F:Nums):List Ins:=[.mv 0 57 8,.l 1 58 4,.b .lss 2 59 57 58]
abbrev r57_13 (F:Nums):List Ins:=[.l 0 62 2,.l 1 63 3,.i 2 64 (.call (.c (.fn F.core_spare [])) [.s 62,.s 63]),.mv 3 9 64]
abbrev r57_14 (F:Nums):List Ins:=[.mv 0 65 9,.i 1 66 (.eq false .p (.s 65) (.c (.nilp)))]
abbrev r57_15 (F:Nums):List Ins:=[.l 0 68 2,.l 1 69 2,.ck 2 70 69,.f 3 71 70 4,.l 4 72 71,.l 5 73 3,.i 6 74 (.look 1 (.s 72) (.s 73) (.nilp) false),.ck 7 75 74,.f 8 76 75 1,
 .l 9 77 76,.i 10 78 (.call (.c (.fn F.core_room [])) [.s 68,.s 77]),.mv 11 67 78,.e 12 79 67 0,.e 13 80 67 1,.mv 14 10 79,.mv 15 11 80]
abbrev r57_16 (F:Nums):List Ins:=[.mv 0 81 11,.nt 1 82 81]
abbrev r57_17 (F:Nums):List Ins:=[.l 0 83 2,.l 1 84 3,.mv 2 85 10,.i 3 86 (.call (.c (.fn F.core_start [])) [.s 83,.s 84,.s 85]),.mv 4 9 86]
abbrev r57_18 (F:Nums):List Ins:=[.l 0 87 2,.mv 1 88 9,.i 2 89 (.call (.c (.fn F.core_take [])) [.s 87,.s 88])]
abbrev r57_19 (F:Nums):List Ins:=[.mv 0 90 9,.ck 1 91 90,.f 2 92 91 6,.j 3 (.st (.s 92) (.c (.bool true)))]
abbrev r57_12 (F:Nums):List Ins:=[.mv 0 60 8,.i 1 61 (.bin .add (.s 60) (.c (.int .i64 1))),.mv 2 8 61]
abbrev c_core_keep (F:Nums):Fn:=⟨2,[],(.seq (.reg [2,3] 2 (r57_0 F))
 (.seq (.reg [2,3,4] 1 (r57_1 F))
 (.seq (.seq (.reg [2,3,4,24] 0 (r57_2 F))
  (.blk 0
  (.rf (.s 24) 25 26
   (.seq (.reg [2,3,4,5,26] 0 (r57_3 F))
    (.reg [2,3,4,5,6] 0 (r57_4 F)))
   (.blk 1
    (.seq (.seq (.reg [2,3,6,29] 0 (r57_5 F))
      (.cond (.s 29)
      (.exit 0)
      .skip))
     (.seq (.reg [2,3,7] 0 (r57_6 F))
     (.seq (.reg [2,3,7] 0 (r57_7 F))
     (.seq (.reg [2,3,7,40] 0 (r57_8 F))
     (.cond (.s 40)
     (.reg [] 0 (r57_9 F))
     .skip)))))))))
 (.seq (.reg [2,3,4,8] 0 (r57_10 F))
 (.blk 2
 (.loop
  (.seq (.seq (.reg [2,3,4,8,59] 0 (r57_11 F))
    (.cond (.s 59)
    .skip
    (.exit 2)))
   (.seq (.blk 3
    (.seq (.reg [2,3,4,8,9] 0 (r57_13 F))
     (.seq (.seq (.reg [2,3,4,8,9,66] 0 (r57_14 F))
      (.cond (.s 66)
      (.seq (.reg [2,3,4,8,10,11] 0 (r57_15 F))
       (.seq (.seq (.reg [2,3,4,8,10,82] 0 (r57_16 F))
        (.cond (.s 82)
        .ret
        .skip))
       (.reg [2,3,4,8,9] 0 (r57_17 F))))
      .skip))
     (.seq (.reg [2,3,4,8,9] 0 (r57_18 F))
     (.reg [2,3,4,8] 0 (r57_19 F))))))
   (.reg [2,3,4,8] 0 (r57_12 F))))))))))⟩
abbrev r58_0 (F:Nums):List Ins:=[.i 0 1 (.box 0 (.s 0)),.i 1 2 (.mov (.c (.nilf)))]
abbrev r58_1 (F:Nums):List Ins:=[.i 0 3 (.mkf F.Keys_fn_1 [.s 1]),.mv 1 2 3]
abbrev c_Keys_fn (F:Nums):Fn:=⟨1,[.tmp 2],(.seq (.reg [1] 1 (r58_0 F))
 (.seq (.reg [2] 0 (r58_1 F))
 .ret))⟩
abbrev r59_0 (F:Nums):List Ins:=[.i 0 4 (.mov (.c (.int .i64 0)))]
abbrev r59_1 (F:Nums):List Ins:=[.mv 0 6 0,.mv 1 7 1,.i 2 8 (.call (.c (.fn F.host_there [])) [.s 6,.s 7]),.nt 3 9 8,.mv 4 5 9]
abbrev r59_2 (F:Nums):List Ins:=[.i 0 4 (.mov (.c (.int .i64 2)))]
abbrev r59_3 (F:Nums):List Ins:=[.mv 0 11 0,.mv 1 12 1,.ck 2 13 11,.f 3 14 13 0,.i 4 15 (.ixa (.s 14) (.s 12) 32 4),.f 5 16 15 1,.l 6 17 16,.mv 7 10 17]
abbrev r59_4 (F:Nums):List Ins:=[.i 0 4 (.mov (.c (.int .i64 3)))]
abbrev r59_5 (F:Nums):List Ins:=[.mv 0 18 0,.mv 1 19 1,.ck 2 20 18,.f 3 21 20 0,.i 4 22 (.ixa (.s 21) (.s 19) 32 4),.f 5 23 22 1,.j 6 (.st (.s 23) (.c (.bool true)))]
abbrev r59_6 (F:Nums):List Ins:=[.mv 0 24 0,.mv 1 25 1,.i 2 26 (.call (.c (.fn F.host_sweep [])) [.s 24,.s 25])]
abbrev r59_7 (F:Nums):List Ins:=[.i 0 4 (.mov (.c (.int .i64 0)))]
abbrev c_host_Drain (F:Nums):Fn:=⟨2,[.tmp 4],(.seq (.reg [0,1] 0 (r59_0 F))
 (.seq (.blk 0
  (.seq (.reg [0,1,5] 0 (r59_1 F))
   (.cond (.s 5)
   (.seq (.reg [4] 0 (r59_2 F))
    .ret)
   (.seq (.reg [0,1,10] 0 (r59_3 F))
    (.cond (.s 10)
    (.seq (.reg [4] 0 (r59_4 F))
     .ret)
    .skip)))))
 (.seq (.reg [0,1] 0 (r59_5 F))
 (.seq (.reg [] 0 (r59_6 F))
 (.seq (.reg [4] 0 (r59_7 F))
 .ret)))))⟩
abbrev r60_0 (F:Nums):List Ins:=[.i 0 2 (.box 0 (.s 0)),.i 1 3 (.box 1 (.s 1)),.i 2 4 (.mov (.c (.nils)))]
abbrev r60_1 (F:Nums):List Ins:=[.l 0 5 2,.i 1 6 (.call (.c (.fn F.core_ids [])) [.s 5]),.i 2 7 (.mkf F.core_where_1 [.s 3,.s 2]),.i 3 8 (.call (.c (.fn F.slices_DeleteFunc [])) [.s 6,.s 7]),
 .mv 4 4 8]
abbrev c_core_where (F:Nums):Fn:=⟨2,[.tmp 4],(.seq (.reg [2,3] 2 (r60_0 F))
 (.seq (.reg [4] 0 (r60_1 F))
 .ret))⟩
abbrev r61_0 (F:Nums):List Ins:=[.i 0 3 (.mov (.c (.bool false)))]
abbrev r61_1 (F:Nums):List Ins:=[.mv 0 4 0,.ck 1 5 4,.f 2 6 5 2,.l 3 7 6,.l 4 8 1,.b .eql 5 9 7 8,.mv 6 3 9]
abbrev c_core_drain_1 (F:Nums):Fn:=⟨2,[.tmp 3],(.seq (.reg [0,1] 0 (r61_0 F))
 (.seq (.reg [3] 0 (r61_1 F))
 .ret))⟩
abbrev r62_0 (F:Nums):List Ins:=[.i 0 2 (.mov (.c (.bool false)))]
abbrev r62_1 (F:Nums):List Ins:=[.mv 0 3 0,.ck 1 4 3,.f 2 5 4 4,.l 3 6 5,.i 4 7 (.bin .eql (.s 6) (.c (.int .i64 2))),.mv 5 8 7,⟨6,(some 9),(some (8,false)),[],.mov (.s 0),0⟩,
 ⟨7,(some 10),(some (8,false)),[],.chk (.s 9),0⟩,⟨8,(some 11),(some (8,false)),[],.fa (.s 10) 4,0⟩,⟨9,(some 12),(some (8,false)),[],.ld (.s 11),0⟩,
 ⟨10,(some 13),(some (8,false)),[],.bin .eql (.s 12) (.c (.int .i64 0)),0⟩,⟨11,(some 14),(some (8,false)),[],.mov (.s 13),0⟩,⟨12,(some 15),(some (14,true)),[],.mov (.s 0),0⟩,
 ⟨13,(some 16),(some (14,true)),[],.chk (.s 15),0⟩,⟨14,(some 17),(some (14,true)),[],.fa (.s 16) 5,0⟩,⟨15,(some 18),(some (14,true)),[],.ld (.s 17),0⟩,
 ⟨16,(some 19),(some (8,false)),[],.pick (.s 14) (.s 18) (.c (.bool false)),0⟩,.i 17 20 (.pick (.s 8) (.c (.bool true)) (.s 19)),.mv 18 2 20]
abbrev c_box_Runs (F:Nums):Fn:=⟨1,[.tmp 2],(.seq (.reg [0] 0 (r62_0 F))
 (.seq (.reg [2] 0 (r62_1 F))
 .ret))⟩
abbrev r63_0 (F:Nums):List Ins:=[.i 0 4 (.mov (.c (.bool false)))]
abbrev r63_1 (F:Nums):List Ins:=[.mv 0 5 0,.mv 1 6 1,.i 2 7 (.call (.c (.fn F.host_there [])) [.s 5,.s 6]),.mv 3 4 7]
abbrev c_host_There (F:Nums):Fn:=⟨2,[.tmp 4],(.seq (.reg [0,1] 0 (r63_0 F))
 (.seq (.reg [4] 0 (r63_1 F))
 .ret))⟩
abbrev r64_0 (F:Nums):List Ins:=[.i 0 3 (.mov (.c (.bool false)))]
abbrev r64_1 (F:Nums):List Ins:=[.mv 0 4 0,.ck 1 5 4,.f 2 6 5 2,.l 3 7 6,.l 4 8 1,.b .eql 5 9 7 8,.mv 6 3 9]
abbrev c_core_fail_1 (F:Nums):Fn:=⟨2,[.tmp 3],(.seq (.reg [0,1] 0 (r64_0 F))
 (.seq (.reg [3] 0 (r64_1 F))
 .ret))⟩
abbrev r65_0 (F:Nums):List Ins:=[.mv 0 4 0,.mv 1 5 1,.i 2 6 (.call (.c (.fn F.core_take [])) [.s 4,.s 5])]
abbrev r65_1 (F:Nums):List Ins:=[.mv 0 7 1,.i 1 8 (.call (.c (.fn F.box_Runs [])) [.s 7])]
abbrev r65_2 (F:Nums):List Ins:=[.mv 0 9 0,.ck 1 10 9,.f 2 11 10 2,.l 3 12 11,.mv 4 13 1,.ck 5 14 13,.f 6 15 14 1,.l 7 16 15,.i 8 17 (.call (.c (.fn F.quota_End [])) [.s 12,.s 16])]
abbrev r65_3 (F:Nums):List Ins:=[.mv 0 18 0,.ck 1 19 18,.f 2 20 19 4,.l 3 21 20,.mv 4 22 1,.ck 5 23 22,.f 6 24 23 1,.l 7 25 24,.i 8 26 (.look 1 (.s 21) (.s 25) (.nilp) false),
 .mv 9 27 0,.ck 10 28 27,.f 11 29 28 0,.l 12 30 29,.ck 13 31 26,.f 14 32 31 5,.st 15 32 30]
abbrev r65_4 (F:Nums):List Ins:=[.mv 0 33 1,.mv 1 34 0,.ck 2 35 34,.f 3 36 35 0,.l 4 37 36,.i 5 38 (.call (.c (.fn F.box_Kill [])) [.s 33,.s 37])]
abbrev r65_5 (F:Nums):List Ins:=[.mv 0 39 0,.ck 1 40 39,.f 2 41 40 5,.l 3 42 41,.mv 4 43 1,.ck 5 44 43,.f 6 45 44 2,.l 7 46 45,.mv 8 47 1,.ck 9 48 47,.f 10 49 48 3,
 .l 11 50 49,.i 12 51 (.call (.c (.fn F.host_Give [])) [.s 42,.s 46,.s 50])]
abbrev r65_6 (F:Nums):List Ins:=[.mv 0 52 0,.ck 1 53 52,.f 2 54 53 7,.l 3 55 54,.mv 4 56 1,.ck 5 57 56,.f 6 58 57 0,.l 7 59 58,.j 8 (.del 1 (.s 55) (.s 59))]
abbrev r65_7 (F:Nums):List Ins:=[.mv 0 60 0,.ck 1 61 60,.f 2 62 61 8,.l 3 63 62,.mv 4 64 1,.ck 5 65 64,.f 6 66 65 0,.l 7 67 66,.j 8 (.del 1 (.s 63) (.s 67))]
abbrev c_core_gone (F:Nums):Fn:=⟨2,[],(.seq (.reg [0,1] 0 (r65_0 F))
 (.seq (.seq (.reg [0,1,8] 0 (r65_1 F))
  (.cond (.s 8)
  (.seq (.reg [0,1] 0 (r65_2 F))
   (.reg [0,1] 0 (r65_3 F)))
  .skip))
 (.seq (.reg [0,1] 0 (r65_4 F))
 (.seq (.reg [0,1] 0 (r65_5 F))
 (.seq (.reg [0,1] 0 (r65_6 F))
 (.reg [] 0 (r65_7 F)))))))⟩
abbrev r66_0 (F:Nums):List Ins:=[.i 0 4 (.mov (.c (.int .i64 0)))]
abbrev r66_1 (F:Nums):List Ins:=[.mv 0 5 0,.mv 1 6 1,.i 2 7 (.call (.c (.fn F.host_there [])) [.s 5,.s 6]),.nt 3 8 7]
abbrev r66_2 (F:Nums):List Ins:=[.i 0 4 (.mov (.c (.int .i64 2)))]
abbrev r66_3 (F:Nums):List Ins:=[.mv 0 9 0,.mv 1 10 1,.i 2 11 (.bld [.bool false,.bool false,.int .i64 0,.int .i64 0] []),.ck 3 12 9,.f 4 13 12 0,.i 5 14 (.ixa (.s 13) (.s 10) 32 4),
 .j 6 (.stn (.s 14) (.s 11) 4)]
abbrev r66_4 (F:Nums):List Ins:=[.i 0 4 (.mov (.c (.int .i64 0)))]
abbrev c_host_Fail (F:Nums):Fn:=⟨2,[.tmp 4],(.seq (.reg [0,1] 0 (r66_0 F))
 (.seq (.seq (.reg [0,1,8] 0 (r66_1 F))
  (.cond (.s 8)
  (.seq (.reg [4] 0 (r66_2 F))
   .ret)
  .skip))
 (.seq (.reg [] 0 (r66_3 F))
 (.seq (.reg [4] 0 (r66_4 F))
 .ret))))⟩
abbrev r67_0 (F:Nums):List Ins:=[.i 0 4 (.mov (.c (.int .i64 0))),.i 1 5 (.mov (.c (.bool false)))]
abbrev r67_1 (F:Nums):List Ins:=[.mv 0 11 0,.mv 1 12 1,.i 2 13 (.call (.c (.fn F.quota_known [])) [.s 11,.s 12]),.nt 3 14 13]
abbrev r67_2 (F:Nums):List Ins:=[.i 0 4 (.mov (.c (.int .i64 0))),.i 1 5 (.mov (.c (.bool false)))]
abbrev r67_3 (F:Nums):List Ins:=[.mv 0 15 0,.mv 1 16 1,.ck 2 17 15,.f 3 18 17 32,.i 4 19 (.ixa (.s 18) (.s 16) 64 4),.i 5 20 (.ldn (.s 19) 4),.i 6 6 (.alc 0 [.bool false,.int .i64 0,.int .i64 0,.int .i64 0]),
 .j 7 (.stn (.s 6) (.s 20) 4)]
abbrev r67_4 (F:Nums):List Ins:=[.mv 0 21 0,.f 1 22 6 1,.l 2 23 22,.ck 3 24 21,.f 4 25 24 0,.i 5 26 (.ixa (.s 25) (.s 23) 16 2),.f 6 27 26 1,.l 7 28 27,.mv 8 7 28]
abbrev r67_5 (F:Nums):List Ins:=[.mv 0 30 0,.f 1 31 6 1,.l 2 32 31,.i 3 33 (.call (.c (.fn F.quota_sums [])) [.s 30,.s 32]),.mv 4 29 33,.e 5 34 29 0,.e 6 35 29 1,.e 7 36 29 2,
 .mv 8 8 34,.mv 9 9 35,.mv 10 10 36]
abbrev r67_6 (F:Nums):List Ins:=[.f 0 38 6 2,.l 1 39 38,.i 2 40 (.bin .gtr (.s 39) (.c (.int .i64 0))),.mv 3 41 40,⟨4,(some 42),(some (41,true)),[],.fa (.s 6) 3,0⟩,
 ⟨5,(some 43),(some (41,true)),[],.ld (.s 42),0⟩,⟨6,(some 44),(some (41,true)),[],.fa (.s 6) 2,0⟩,⟨7,(some 45),(some (41,true)),[],.ld (.s 44),0⟩,
 ⟨8,(some 46),(some (41,true)),[],.bin .geq (.s 43) (.s 45),0⟩,.i 9 47 (.pick (.s 41) (.s 46) (.c (.bool false))),.mv 10 37 47]
abbrev r67_7 (F:Nums):List Ins:=[.i 0 4 (.mov (.c (.int .i64 1))),.i 1 5 (.mov (.c (.bool true)))]
abbrev r67_8 (F:Nums):List Ins:=[.mv 0 49 9,.mv 1 50 7,.b .geq 2 51 49 50,.mv 3 48 51]
abbrev r67_9 (F:Nums):List Ins:=[.f 0 52 6 2,.l 1 53 52,.i 2 54 (.bin .eql (.s 53) (.c (.int .i64 0))),.mv 3 55 54,⟨4,(some 56),(some (55,true)),[],.mov (.s 10),0⟩,
 ⟨5,(some 57),(some (55,true)),[],.mov (.s 7),0⟩,⟨6,(some 58),(some (55,true)),[],.mov (.s 8),0⟩,⟨7,(some 59),(some (55,true)),[],.bin .sub (.s 57) (.s 58),0⟩,
 ⟨8,(some 60),(some (55,true)),[],.bin .geq (.s 56) (.s 59),0⟩,.i 9 61 (.pick (.s 55) (.s 60) (.c (.bool false))),.mv 10 48 61]
abbrev r67_10 (F:Nums):List Ins:=[.i 0 4 (.mov (.c (.int .i64 2))),.i 1 5 (.mov (.c (.bool true)))]
abbrev r67_11 (F:Nums):List Ins:=[.i 0 4 (.mov (.c (.int .i64 0))),.i 1 5 (.mov (.c (.bool true)))]
abbrev c_quota_Ask (F:Nums):Fn:=⟨2,[.tmp 4,.tmp 5],(.seq (.reg [0,1] 0 (r67_0 F))
 (.seq (.seq (.reg [0,1,14] 0 (r67_1 F))
  (.cond (.s 14)
  (.seq (.reg [4,5] 0 (r67_2 F))
   .ret)
  .skip))
 (.seq (.reg [0,6] 1 (r67_3 F))
 (.seq (.reg [0,6,7] 0 (r67_4 F))
 (.seq (.reg [6,7,8,9,10] 0 (r67_5 F))
 (.seq (.blk 0
  (.seq (.reg [6,7,8,9,10,37] 0 (r67_6 F))
   (.cond (.s 37)
   (.seq (.reg [4,5] 0 (r67_7 F))
    .ret)
   (.seq (.seq (.reg [6,7,8,10,48] 0 (r67_8 F))
     (.cond (.s 48)
     .skip
     (.reg [48] 0 (r67_9 F))))
    (.cond (.s 48)
    (.seq (.reg [4,5] 0 (r67_10 F))
     .ret)
    .skip)))))
 (.seq (.reg [4,5] 0 (r67_11 F))
 .ret)))))))⟩
abbrev r68_0 (F:Nums):List Ins:=[.i 0 3 (.box 0 (.s 1)),.i 1 4 (.mov (.c (.nilp)))]
abbrev r68_1 (F:Nums):List Ins:=[.i 0 5 (.mov (.c (.nilp)))]
abbrev r68_2 (F:Nums):List Ins:=[.mv 0 9 0,.i 1 10 (.mkf F.core_free_1 [.s 3]),.i 2 11 (.call (.c (.fn F.core_where [])) [.s 9,.s 10]),.i 3 12 (.len (.s 11)),.i 4 13 (.mov (.c (.int .i64 0)))]
abbrev r68_3 (F:Nums):List Ins:=[.b .lss 0 14 13 12]
abbrev r68_4 (F:Nums):List Ins:=[.x 0 15 11 13 1,.l 1 16 15,.mv 2 7 16]
abbrev r68_5 (F:Nums):List Ins:=[.mv 0 17 0,.ck 1 18 17,.f 2 19 18 7,.l 3 20 19,.mv 4 21 7,.i 5 22 (.look 1 (.s 20) (.s 21) (.nilp) false),.mv 6 8 22]
abbrev r68_6 (F:Nums):List Ins:=[.mv 0 23 5,.i 1 24 (.eq false .p (.s 23) (.c (.nilp))),.mv 2 25 24,⟨3,(some 26),(some (25,false)),[],.mov (.s 8),0⟩,⟨4,(some 27),(some (25,false)),[],.chk (.s 26),0⟩,
 ⟨5,(some 28),(some (25,false)),[],.fa (.s 27) 7,0⟩,⟨6,(some 29),(some (25,false)),[],.ld (.s 28),0⟩,⟨7,(some 30),(some (25,false)),[],.mov (.s 5),0⟩,
 ⟨8,(some 31),(some (25,false)),[],.chk (.s 30),0⟩,⟨9,(some 32),(some (25,false)),[],.fa (.s 31) 7,0⟩,⟨10,(some 33),(some (25,false)),[],.ld (.s 32),0⟩,
 ⟨11,(some 34),(some (25,false)),[],.bin .gtr (.s 29) (.s 33),0⟩,.i 12 35 (.pick (.s 25) (.c (.bool true)) (.s 34))]
abbrev r68_7 (F:Nums):List Ins:=[.mv 0 36 8,.mv 1 5 36]
abbrev r68_8 (F:Nums):List Ins:=[.i 0 37 (.bin .add (.s 13) (.c (.int .i64 1))),.mv 1 13 37]
abbrev r68_9 (F:Nums):List Ins:=[.mv 0 38 5,.mv 1 4 38]
abbrev c_core_free (F:Nums):Fn:=⟨2,[.tmp 4],(.seq (.reg [0,3] 1 (r68_0 F))
 (.seq (.reg [0,3,5] 0 (r68_1 F))
 (.seq (.seq (.reg [0,5,11,12,13] 0 (r68_2 F))
  (.blk 0
  (.loop
   (.seq (.reg [0,5,11,12,13,14] 0 (r68_3 F))
    (.seq (.cond (.s 14)
     .skip
     (.exit 0))
    (.seq (.blk 1
     (.seq (.reg [0,5,7,11,12,13] 0 (r68_4 F))
      (.seq (.reg [0,5,8,11,12,13] 0 (r68_5 F))
      (.seq (.reg [0,5,8,11,12,13,35] 0 (r68_6 F))
      (.cond (.s 35)
      (.reg [0,5,11,12,13] 0 (r68_7 F))
      .skip)))))
    (.reg [0,5,11,12,13] 0 (r68_8 F))))))))
 (.seq (.reg [4] 0 (r68_9 F))
 .ret))))⟩
abbrev r69_0 (F:Nums):List Ins:=[.mv 0 7 0,.ck 1 8 7,.f 2 9 8 4,.l 3 10 9,.mv 4 11 1,.i 5 12 (.look 1 (.s 10) (.s 11) (.nilp) false),.mv 6 6 12]
abbrev r69_1 (F:Nums):List Ins:=[.mv 0 13 0,.ck 1 14 13,.f 2 15 14 2,.l 3 16 15,.mv 4 17 1,.i 5 18 (.call (.c (.fn F.quota_Busy [])) [.s 16,.s 17]),.i 6 19 (.bin .eql (.s 18) (.c (.int .i64 0))),
 .mv 7 20 19,⟨8,(some 21),(some (20,true)),[],.mov (.s 6),0⟩,⟨9,(some 22),(some (20,true)),[],.chk (.s 21),0⟩,⟨10,(some 23),(some (20,true)),[],.fa (.s 22) 5,0⟩,
 ⟨11,(some 24),(some (20,true)),[],.ld (.s 23),0⟩,⟨12,(some 25),(some (20,true)),[],.bin .geq (.s 24) (.c (.int .i64 0)),0⟩,.i 13 26 (.pick (.s 20) (.s 25) (.c (.bool false)))]
abbrev r69_2 (F:Nums):List Ins:=[.mv 0 27 6,.ck 1 28 27,.f 2 29 28 7,.l 3 30 29,.mv 4 31 0,.ck 5 32 31,.f 6 33 32 0,.l 7 34 33,.mv 8 35 6,.ck 9 36 35,.f 10 37 36 5,
 .l 11 38 37,.b .sub 12 39 34 38,.i 13 40 (.call (.c (.fn F.histo_Add [])) [.s 30,.s 39])]
abbrev r69_3 (F:Nums):List Ins:=[.mv 0 41 6,.ck 1 42 41,.f 2 43 42 8,.l 3 44 43,.mv 4 45 0,.ck 5 46 45,.f 6 47 46 0,.l 7 48 47,.mv 8 49 6,.ck 9 50 49,.f 10 51 50 5,
 .l 11 52 51,.b .sub 12 53 48 52,.i 13 54 (.call (.c (.fn F.ring_Push [])) [.s 44,.s 53])]
abbrev r69_4 (F:Nums):List Ins:=[.mv 0 55 6,.mv 1 56 6,.ck 2 57 56,.f 3 58 57 4,.l 4 59 58,.i 5 60 (.bin .add (.s 59) (.c (.int .i64 1))),.i 6 61 (.mn [.s 60,.c (.int .i64 1000)]),
 .ck 7 62 55,.f 8 63 62 4,.st 9 63 61]
abbrev r69_5 (F:Nums):List Ins:=[.mv 0 64 0,.ck 1 65 64,.f 2 66 65 9,.l 3 67 66,.mv 4 68 1,.i 5 69 (.bld [.int .i64 0,.int .i64 0] [(0,1,.c (.int .i64 1)),(1,1,.s 68)]),
 .i 6 70 (.call (.c (.fn F.timer_Drop [])) [.s 67,.s 69])]
abbrev r69_6 (F:Nums):List Ins:=[.mv 0 71 0,.ck 1 72 71,.f 2 73 72 2,.l 3 74 73,.mv 4 75 1,.i 5 76 (.call (.c (.fn F.quota_Begin [])) [.s 74,.s 75])]
abbrev r69_7 (F:Nums):List Ins:=[.mv 0 77 0,.mv 1 78 2,.i 2 79 (.call (.c (.fn F.core_take [])) [.s 77,.s 78])]
abbrev r69_8 (F:Nums):List Ins:=[.mv 0 80 2,.mv 1 81 0,.ck 2 82 81,.f 3 83 82 0,.l 4 84 83,.i 5 85 (.call (.c (.fn F.box_Call [])) [.s 80,.s 84])]
abbrev c_core_begin (F:Nums):Fn:=⟨3,[],(.seq (.reg [0,1,2,6] 0 (r69_0 F))
 (.seq (.seq (.reg [0,1,2,6,26] 0 (r69_1 F))
  (.cond (.s 26)
  (.seq (.reg [0,1,2,6] 0 (r69_2 F))
   (.reg [0,1,2,6] 0 (r69_3 F)))
  .skip))
 (.seq (.reg [0,1,2] 0 (r69_4 F))
 (.seq (.reg [0,1,2] 0 (r69_5 F))
 (.seq (.reg [0,2] 0 (r69_6 F))
 (.seq (.reg [0,2] 0 (r69_7 F))
 (.reg [] 0 (r69_8 F))))))))⟩
abbrev r70_0 (F:Nums):List Ins:=[.i 0 4 (.mov (.c (.int .i64 0))),.i 1 5 (.mov (.c (.bool false)))]
abbrev r70_1 (F:Nums):List Ins:=[.mv 0 15 0,.ck 1 16 15,.f 2 17 16 5,.l 3 18 17,.mv 4 19 1,.i 5 20 (.call (.c (.fn F.host_Fit [])) [.s 18,.s 19]),.mv 6 14 20,.e 7 21 14 0,
 .e 8 22 14 1,.mv 9 6 21,.mv 10 7 22]
abbrev r70_2 (F:Nums):List Ins:=[.mv 0 23 7]
abbrev r70_3 (F:Nums):List Ins:=[.mv 0 24 6,.mv 1 4 24,.i 2 5 (.mov (.c (.bool true)))]
abbrev r70_4 (F:Nums):List Ins:=[.i 0 25 (.mov (.c (.int .i64 0)))]
abbrev r70_5 (F:Nums):List Ins:=[.i 0 26 (.bin .lss (.s 25) (.c (.int .i64 32)))]
abbrev r70_6 (F:Nums):List Ins:=[.mv 0 27 25,.i 1 8 (.alc 0 [.int .i64 0]),.st 2 8 27]
abbrev r70_7 (F:Nums):List Ins:=[.mv 0 28 0,.ck 1 29 28,.f 2 30 29 5,.l 3 31 30,.l 4 32 8,.i 5 33 (.call (.c (.fn F.host_Up [])) [.s 31,.s 32]),.nt 6 34 33]
abbrev r70_8 (F:Nums):List Ins:=[.mv 0 35 0,.ck 1 36 35,.f 2 37 36 5,.l 3 38 37,.l 4 39 8,.i 5 40 (.call (.c (.fn F.host_Free [])) [.s 38,.s 39]),.mv 6 9 40]
abbrev r70_9 (F:Nums):List Ins:=[.mv 0 41 0,.i 1 42 (.mkf F.core_room_1 [.s 8]),.i 2 43 (.call (.c (.fn F.core_where [])) [.s 41,.s 42]),.i 3 44 (.len (.s 43)),.i 4 45 (.mov (.c (.int .i64 0)))]
abbrev r70_10 (F:Nums):List Ins:=[.b .lss 0 46 45 44]
abbrev r70_11 (F:Nums):List Ins:=[.x 0 47 43 45 1,.l 1 48 47,.mv 2 11 48]
abbrev r70_12 (F:Nums):List Ins:=[.mv 0 49 9,.mv 1 50 0,.ck 2 51 50,.f 3 52 51 7,.l 4 53 52,.mv 5 54 11,.i 6 55 (.look 1 (.s 53) (.s 54) (.nilp) false),.ck 7 56 55,.f 8 57 56 3,
 .l 9 58 57,.b .add 10 59 49 58,.mv 11 9 59]
abbrev r70_13 (F:Nums):List Ins:=[.i 0 60 (.bin .add (.s 45) (.c (.int .i64 1))),.mv 1 45 60]
abbrev r70_14 (F:Nums):List Ins:=[.mv 0 61 9,.mv 1 62 1,.b .lss 2 63 61 62]
abbrev r70_15 (F:Nums):List Ins:=[.mv 0 64 0,.ck 1 65 64,.f 2 66 65 5,.l 3 67 66,.l 4 68 8,.mv 6 70 1,.i 5 69 (.call (.c (.fn F.host_Free [])) [.s 67,.s 68]),.b .lss 7 71 69 70]
abbrev r70_16 (F:Nums):List Ins:=[.mv 0 73 0,.l 1 74 8,.i 2 75 (.call (.c (.fn F.core_cache [])) [.s 73,.s 74]),.i 3 76 (.call (.c (.fn F.warm_Evict [])) [.s 75]),.mv 4 72 76,
 .e 5 77 72 0,.e 6 78 72 1,.mv 7 12 77,.mv 8 13 78]
abbrev r70_17 (F:Nums):List Ins:=[.mv 0 79 0,.mv 1 80 0,.ck 2 81 80,.f 3 82 81 7,.l 4 83 82,.mv 5 84 12,.i 6 85 (.look 1 (.s 83) (.s 84) (.nilp) false),.i 7 86 (.call (.c (.fn F.core_kill [])) [.s 79,.s 85])]
abbrev r70_18 (F:Nums):List Ins:=[.l 0 87 8,.mv 1 4 87,.i 2 5 (.mov (.c (.bool true)))]
abbrev r70_19 (F:Nums):List Ins:=[.i 0 88 (.bin .add (.s 25) (.c (.int .i64 1))),.mv 1 25 88]
abbrev r70_20 (F:Nums):List Ins:=[.i 0 4 (.mov (.c (.int .i64 0))),.i 1 5 (.mov (.c (.bool false)))]
abbrev c_core_room (F:Nums):Fn:=⟨2,[.tmp 4,.tmp 5],(.seq (.reg [0,1] 0 (r70_0 F))
 (.seq (.seq (.reg [0,1,6,7] 0 (r70_1 F))
  (.seq (.reg [0,1,6,23] 0 (r70_2 F))
  (.cond (.s 23)
  (.seq (.reg [4,5] 0 (r70_3 F))
   .ret)
  .skip)))
 (.seq (.seq (.reg [0,1,25] 0 (r70_4 F))
  (.blk 0
  (.loop
   (.seq (.reg [0,1,25,26] 0 (r70_5 F))
    (.seq (.cond (.s 26)
     .skip
     (.exit 0))
    (.seq (.blk 1
     (.seq (.reg [0,1,8,25] 1 (r70_6 F))
      (.seq (.seq (.reg [0,1,8,25,34] 0 (r70_7 F))
       (.cond (.s 34)
       (.exit 1)
       .skip))
      (.seq (.reg [0,1,8,9,25] 0 (r70_8 F))
      (.seq (.seq (.reg [0,1,8,9,25,43,44,45] 0 (r70_9 F))
       (.blk 2
       (.loop
        (.seq (.reg [0,1,8,9,25,43,44,45,46] 0 (r70_10 F))
         (.seq (.cond (.s 46)
          .skip
          (.exit 2))
         (.seq (.blk 3
          (.seq (.reg [0,1,8,9,11,25,43,44,45] 0 (r70_11 F))
           (.reg [0,1,8,9,25,43,44,45] 0 (r70_12 F))))
         (.reg [0,1,8,9,25,43,44,45] 0 (r70_13 F))))))))
      (.seq (.seq (.reg [0,1,8,25,63] 0 (r70_14 F))
       (.cond (.s 63)
       (.exit 1)
       .skip))
      (.seq (.blk 4
       (.loop
        (.seq (.seq (.reg [0,1,8,71] 0 (r70_15 F))
          (.cond (.s 71)
          .skip
          (.exit 4)))
         (.blk 5
         (.seq (.reg [0,1,8,12] 0 (r70_16 F))
          (.reg [0,1,8] 0 (r70_17 F)))))))
      (.seq (.reg [4,5] 0 (r70_18 F))
      .ret))))))))
    (.reg [0,1,25] 0 (r70_19 F))))))))
 (.seq (.reg [4,5] 0 (r70_20 F))
 .ret))))⟩
abbrev r71_0 (F:Nums):List Ins:=[.i 0 2 (.mov (.c (.bool false)))]
abbrev r71_1 (F:Nums):List Ins:=[.mv 0 3 0,.ck 1 4 3,.f 2 5 4 2,.l 3 6 5,.i 4 7 (.bin .eql (.s 6) (.c (.int .i64 0)))]
abbrev r71_2 (F:Nums):List Ins:=[.i 0 2 (.mov (.c (.bool false)))]
abbrev r71_3 (F:Nums):List Ins:=[.mv 0 8 0,.ck 1 9 8,.f 2 10 9 2,.l 3 11 10,.i 4 12 (.bin .sub (.s 11) (.c (.int .i64 1))),.ck 5 13 8,.f 6 14 13 2,.st 7 14 12]
abbrev r71_4 (F:Nums):List Ins:=[.i 0 2 (.mov (.c (.bool true)))]
abbrev c_bucket_Take (F:Nums):Fn:=⟨1,[.tmp 2],(.seq (.reg [0] 0 (r71_0 F))
 (.seq (.seq (.reg [0,7] 0 (r71_1 F))
  (.cond (.s 7)
  (.seq (.reg [2] 0 (r71_2 F))
   .ret)
  .skip))
 (.seq (.reg [] 0 (r71_3 F))
 (.seq (.reg [2] 0 (r71_4 F))
 .ret))))⟩
abbrev r72_0 (F:Nums):List Ins:=[.i 0 6 (.mov (.c (.nilp)))]
abbrev r72_1 (F:Nums):List Ins:=[.mv 0 9 0,.ck 1 10 9,.f 2 11 10 4,.l 3 12 11,.mv 4 13 1,.i 5 14 (.look 1 (.s 12) (.s 13) (.nilp) false),.mv 6 7 14]
abbrev r72_2 (F:Nums):List Ins:=[.mv 0 15 0,.ck 1 16 15,.f 2 17 16 5,.l 3 18 17,.mv 4 19 2,.mv 5 20 7,.ck 6 21 20,.f 7 22 21 1,.l 8 23 22,.i 9 24 (.call (.c (.fn F.host_Take [])) [.s 18,.s 19,.s 23])]
abbrev r72_3 (F:Nums):List Ins:=[.mv 0 25 0,.ck 1 26 25,.f 2 27 26 1,.l 3 28 27,.mv 4 29 1,.mv 5 30 2,.mv 6 31 7,.ck 7 32 31,.f 8 33 32 1,.l 9 34 33,.mv 10 35 0,.ck 11 36 35,
 .f 12 37 36 0,.l 13 38 37,.i 14 39 (.call (.c (.fn F.box_New [])) [.s 28,.s 29,.s 30,.s 34,.s 38]),.mv 15 8 39]
abbrev r72_4 (F:Nums):List Ins:=[.mv 0 40 0,.ck 1 41 40,.f 2 42 41 1,.l 3 43 42,.i 4 44 (.bin .add (.s 43) (.c (.int .i64 1))),.ck 5 45 40,.f 6 46 45 1,.st 7 46 44]
abbrev r72_5 (F:Nums):List Ins:=[.mv 0 47 0,.ck 1 48 47,.f 2 49 48 7,.l 3 50 49,.mv 4 51 8,.ck 5 52 51,.f 6 53 52 0,.l 7 54 53,.mv 8 55 8,.j 9 (.mupd 1 (.s 50) (.s 54) (.s 55))]
abbrev r72_6 (F:Nums):List Ins:=[.mv 0 56 0,.mv 1 57 0,.ck 2 58 57,.f 3 59 58 10,.l 4 60 59,.mv 5 61 8,.ck 6 62 61,.f 7 63 62 0,.l 8 64 63,.mv 9 65 1,.mv 10 66 2,.i 11 67 (.bld [.bool false,.int .i64 0,.int .i64 0,.int .i64 0] [(0,1,.c (.bool true)),(1,1,.s 64),(2,1,.s 65),(3,1,.s 66)]),
 .i 12 68 (.bsl 0 [.bool false,.int .i64 0,.int .i64 0,.int .i64 0] [(0,4,.s 67)] 1 4),.i 13 69 (.app 1 (.s 60) (.s 68) 4),.ck 14 70 56,
 .f 15 71 70 10,.st 16 71 69]
abbrev r72_7 (F:Nums):List Ins:=[.mv 0 72 8,.mv 1 6 72]
abbrev c_core_start (F:Nums):Fn:=⟨3,[.tmp 6],(.seq (.reg [0,1,2] 0 (r72_0 F))
 (.seq (.reg [0,1,2,7] 0 (r72_1 F))
 (.seq (.reg [0,1,2,7] 0 (r72_2 F))
 (.seq (.reg [0,1,2,8] 0 (r72_3 F))
 (.seq (.reg [0,1,2,8] 0 (r72_4 F))
 (.seq (.reg [0,1,2,8] 0 (r72_5 F))
 (.seq (.reg [8] 2 (r72_6 F))
 (.seq (.reg [6] 0 (r72_7 F))
 .ret))))))))⟩
abbrev r73_0 (F:Nums):List Ins:=[.i 0 4 (.mov (.c (.bool false)))]
abbrev r73_1 (F:Nums):List Ins:=[.mv 0 5 0,.ck 1 6 5,.f 2 7 6 4,.l 3 8 7,.i 4 9 (.bin .neq (.s 8) (.c (.int .i64 0)))]
abbrev r73_2 (F:Nums):List Ins:=[.i 0 4 (.mov (.c (.bool false)))]
abbrev r73_3 (F:Nums):List Ins:=[.mv 0 10 0,.mv 1 11 0,.mv 2 12 1,.ck 3 13 10,.f 4 14 13 4,.j 5 (.st (.s 14) (.c (.int .i64 1))),.ck 6 15 11,.f 7 16 15 7,.st 8 16 12]
abbrev r73_4 (F:Nums):List Ins:=[.mv 0 17 0,.ck 1 18 17,.f 2 19 18 5,.l 3 20 19]
abbrev r73_5 (F:Nums):List Ins:=[.mv 0 21 0,.mv 1 22 0,.ck 2 23 21,.f 3 24 23 4,.j 4 (.st (.s 24) (.c (.int .i64 2))),.ck 5 25 22,.f 6 26 25 5,.j 7 (.st (.s 26) (.c (.bool false)))]
abbrev r73_6 (F:Nums):List Ins:=[.i 0 4 (.mov (.c (.bool true)))]
abbrev c_box_Booted (F:Nums):Fn:=⟨2,[.tmp 4],(.seq (.reg [0,1] 0 (r73_0 F))
 (.seq (.seq (.reg [0,1,9] 0 (r73_1 F))
  (.cond (.s 9)
  (.seq (.reg [4] 0 (r73_2 F))
   .ret)
  .skip))
 (.seq (.reg [0] 0 (r73_3 F))
 (.seq (.seq (.reg [0,20] 0 (r73_4 F))
  (.cond (.s 20)
  (.reg [] 0 (r73_5 F))
  .skip))
 (.seq (.reg [4] 0 (r73_6 F))
 .ret)))))⟩
abbrev r74_0 (F:Nums):List Ins:=[.i 0 2 (.mov (.c (.bool false)))]
abbrev r74_1 (F:Nums):List Ins:=[.mv 0 3 0,.ck 1 4 3,.f 2 5 4 4,.l 3 6 5,.i 4 7 (.bin .eql (.s 6) (.c (.int .i64 1))),.mv 5 2 7]
abbrev c_box_Idle (F:Nums):Fn:=⟨1,[.tmp 2],(.seq (.reg [0] 0 (r74_0 F))
 (.seq (.reg [2] 0 (r74_1 F))
 .ret))⟩
abbrev r75_0 (F:Nums):List Ins:=[.mv 0 7 2,.mv 1 8 0,.ck 2 9 8,.f 3 10 9 0,.l 4 11 10,.b .leq 5 12 7 11]
abbrev r75_1 (F:Nums):List Ins:=[.mv 0 13 0,.mv 1 14 1,.i 2 15 (.call (.c (.fn F.core_kill [])) [.s 13,.s 14])]
abbrev r75_2 (F:Nums):List Ins:=[.mv 0 16 0,.ck 1 17 16,.f 2 18 17 4,.l 3 19 18,.mv 4 20 1,.ck 5 21 20,.f 6 22 21 1,.l 7 23 22,.i 8 24 (.look 1 (.s 19) (.s 23) (.nilp) false),
 .mv 9 6 24]
abbrev r75_3 (F:Nums):List Ins:=[.mv 0 25 0,.mv 1 26 1,.ck 2 27 26,.f 3 28 27 2,.l 4 29 28,.mv 6 31 1,.ck 7 32 31,.f 8 33 32 0,.l 9 34 33,.mv 10 35 6,.ck 11 36 35,
 .f 12 37 36 4,.l 13 38 37,.i 14 39 (.conv .u64 (.s 38)),.mv 15 40 6,.ck 16 41 40,.f 17 42 41 2,.l 18 43 42,.i 19 44 (.conv .u64 (.s 43)),
 .mv 20 45 6,.ck 21 46 45,.f 22 47 46 1,.l 23 48 47,.i 24 49 (.conv .u64 (.s 48)),⟨5,(some 30),none,[(none,34,.ld (.s 33)),(none,38,.ld (.s 37)),(none,43,.ld (.s 42)),(none,48,.ld (.s 47))],.call (.c (.fn F.core_cache [])) [.s 25,.s 29],0⟩,
 .i 25 50 (.call (.c (.fn F.warm_Set [])) [.s 30,.s 34,.s 39,.s 44,.s 49])]
abbrev r75_4 (F:Nums):List Ins:=[.mv 0 51 0,.ck 1 52 51,.f 2 53 52 9,.l 3 54 53,.mv 4 55 1,.ck 5 56 55,.f 6 57 56 0,.l 7 58 57,.i 8 59 (.bld [.int .i64 0,.int .i64 0] [(0,1,.c (.int .i64 0)),(1,1,.s 58)]),
 .mv 9 60 2,.i 10 61 (.call (.c (.fn F.timer_Set [])) [.s 54,.s 59,.s 60])]
abbrev c_core_idle (F:Nums):Fn:=⟨3,[],(.seq (.seq (.reg [0,1,2,12] 0 (r75_0 F))
  (.cond (.s 12)
  (.seq (.reg [] 0 (r75_1 F))
   .ret)
  .skip))
 (.seq (.reg [0,1,2,6] 0 (r75_2 F))
 (.seq (.reg [0,1,2] 0 (r75_3 F))
 (.reg [] 0 (r75_4 F)))))⟩
abbrev r76_0 (F:Nums):List Ins:=[.i 0 4 (.mov (.c (.bool false)))]
abbrev r76_1 (F:Nums):List Ins:=[.mv 0 5 0,.ck 1 6 5,.f 2 7 6 4,.l 3 8 7,.i 4 9 (.bin .neq (.s 8) (.c (.int .i64 2)))]
abbrev r76_2 (F:Nums):List Ins:=[.i 0 4 (.mov (.c (.bool false)))]
abbrev r76_3 (F:Nums):List Ins:=[.mv 0 10 0,.mv 1 11 0,.mv 2 12 1,.ck 3 13 10,.f 4 14 13 4,.j 5 (.st (.s 14) (.c (.int .i64 1))),.ck 6 15 11,.f 7 16 15 7,.st 8 16 12]
abbrev r76_4 (F:Nums):List Ins:=[.i 0 4 (.mov (.c (.bool true)))]
abbrev c_box_Done (F:Nums):Fn:=⟨2,[.tmp 4],(.seq (.reg [0,1] 0 (r76_0 F))
 (.seq (.seq (.reg [0,1,9] 0 (r76_1 F))
  (.cond (.s 9)
  (.seq (.reg [4] 0 (r76_2 F))
   .ret)
  .skip))
 (.seq (.reg [] 0 (r76_3 F))
 (.seq (.reg [4] 0 (r76_4 F))
 .ret))))⟩
abbrev r77_0 (F:Nums):List Ins:=[.i 0 4 (.mov (.c (.bool false)))]
abbrev r77_1 (F:Nums):List Ins:=[.mv 0 5 0,.mv 1 6 1,.i 2 7 (.call (.c (.fn F.quota_known [])) [.s 5,.s 6]),.nt 3 8 7,.mv 4 9 8,⟨5,(some 10),(some (9,false)),[],.mov (.s 0),0⟩,
 ⟨6,(some 11),(some (9,false)),[],.mov (.s 1),0⟩,⟨7,(some 12),(some (9,false)),[],.chk (.s 10),0⟩,⟨8,(some 13),(some (9,false)),[],.fa (.s 12) 32,0⟩,
 ⟨9,(some 14),(some (9,false)),[],.ixa (.s 13) (.s 11) 64 4,0⟩,⟨10,(some 15),(some (9,false)),[],.fa (.s 14) 3,0⟩,⟨11,(some 16),(some (9,false)),[],.ld (.s 15),0⟩,
 ⟨12,(some 17),(some (9,false)),[],.bin .eql (.s 16) (.c (.int .i64 0)),0⟩,.i 13 18 (.pick (.s 9) (.c (.bool true)) (.s 17))]
abbrev r77_2 (F:Nums):List Ins:=[.i 0 4 (.mov (.c (.bool false)))]
abbrev r77_3 (F:Nums):List Ins:=[.mv 0 19 0,.mv 1 20 1,.ck 2 21 19,.f 3 22 21 32,.i 4 23 (.ixa (.s 22) (.s 20) 64 4),.f 5 24 23 3,.l 6 25 24,.i 7 26 (.bin .sub (.s 25) (.c (.int .i64 1))),
 .ck 8 27 19,.f 9 28 27 32,.i 10 29 (.ixa (.s 28) (.s 20) 64 4),.f 11 30 29 3,.st 12 30 26]
abbrev r77_4 (F:Nums):List Ins:=[.i 0 4 (.mov (.c (.bool true)))]
abbrev c_quota_End (F:Nums):Fn:=⟨2,[.tmp 4],(.seq (.reg [0,1] 0 (r77_0 F))
 (.seq (.seq (.reg [0,1,18] 0 (r77_1 F))
  (.cond (.s 18)
  (.seq (.reg [4] 0 (r77_2 F))
   .ret)
  .skip))
 (.seq (.reg [] 0 (r77_3 F))
 (.seq (.reg [4] 0 (r77_4 F))
 .ret))))⟩
abbrev r78_0 (F:Nums):List Ins:=[.i 0 4 (.mov (.c (.bool false)))]
abbrev r78_1 (F:Nums):List Ins:=[.mv 0 5 0,.mv 1 6 1,.i 2 7 (.call (.c (.fn F.host_there [])) [.s 5,.s 6]),.mv 3 8 7,⟨4,(some 9),(some (8,true)),[],.mov (.s 0),0⟩,
 ⟨5,(some 10),(some (8,true)),[],.mov (.s 1),0⟩,⟨6,(some 11),(some (8,true)),[],.chk (.s 9),0⟩,⟨7,(some 12),(some (8,true)),[],.fa (.s 11) 0,0⟩,
 ⟨8,(some 13),(some (8,true)),[],.ixa (.s 12) (.s 10) 32 4,0⟩,⟨9,(some 14),(some (8,true)),[],.fa (.s 13) 1,0⟩,⟨10,(some 15),(some (8,true)),[],.ld (.s 14),0⟩,
 ⟨11,(some 16),(some (8,true)),[],.not (.s 15),0⟩,.i 12 17 (.pick (.s 8) (.s 16) (.c (.bool false))),.mv 13 4 17]
abbrev c_host_Up (F:Nums):Fn:=⟨2,[.tmp 4],(.seq (.reg [0,1] 0 (r78_0 F))
 (.seq (.reg [4] 0 (r78_1 F))
 .ret))⟩
abbrev r79_0 (F:Nums):List Ins:=[.i 0 4 (.box 0 (.s 1))]
abbrev r79_1 (F:Nums):List Ins:=[.mv 0 6 0,.ck 1 7 6,.f 2 8 7 0,.l 3 9 8,.i 4 10 (.ldn (.s 4) 2),.mv 5 11 2,.i 6 12 (.ldn (.s 4) 2),.i 7 13 (.bld [.int .i64 0,.int .i64 0,.int .i64 0] [(0,1,.s 11),(1,2,.s 12)]),
 .i 8 14 (.call (.c (.fn F.theap_Set [])) [.s 9,.s 10,.s 13])]
abbrev c_timer_Set (F:Nums):Fn:=⟨3,[],(.seq (.reg [0,2,4] 1 (r79_0 F))
 (.reg [] 0 (r79_1 F)))⟩
abbrev r80_0 (F:Nums):List Ins:=[.i 0 2 (.mov (.c (.int .i64 0)))]
abbrev r80_1 (F:Nums):List Ins:=[.i 0 3 (.mov (.c (.int .i64 0)))]
abbrev r80_2 (F:Nums):List Ins:=[.mv 0 6 0,.i 1 7 (.len (.s 6)),.i 2 8 (.mov (.c (.int .i64 0)))]
abbrev r80_3 (F:Nums):List Ins:=[.b .lss 0 9 8 7]
abbrev r80_4 (F:Nums):List Ins:=[.x 0 10 6 8 1,.l 1 11 10,.mv 2 5 11]
abbrev r80_5 (F:Nums):List Ins:=[.mv 0 12 5,.mv 1 13 3,.b .neq 2 14 12 13]
abbrev r80_6 (F:Nums):List Ins:=[.mv 0 15 5,.mv 1 2 15]
abbrev r80_7 (F:Nums):List Ins:=[.i 0 16 (.bin .add (.s 8) (.c (.int .i64 1))),.mv 1 8 16]
abbrev r80_8 (F:Nums):List Ins:=[.mv 0 17 3,.mv 1 2 17]
abbrev c_cmp_Or (F:Nums):Fn:=⟨1,[.tmp 2],(.seq (.reg [0] 0 (r80_0 F))
 (.seq (.reg [0,3] 0 (r80_1 F))
 (.seq (.seq (.reg [3,6,7,8] 0 (r80_2 F))
  (.blk 0
  (.loop
   (.seq (.reg [3,6,7,8,9] 0 (r80_3 F))
    (.seq (.cond (.s 9)
     .skip
     (.exit 0))
    (.seq (.blk 1
     (.seq (.reg [3,5,6,7,8] 0 (r80_4 F))
      (.seq (.reg [3,5,6,7,8,14] 0 (r80_5 F))
      (.cond (.s 14)
      (.seq (.reg [2] 0 (r80_6 F))
       .ret)
      .skip))))
    (.reg [3,6,7,8] 0 (r80_7 F))))))))
 (.seq (.reg [2] 0 (r80_8 F))
 .ret))))⟩
abbrev r81_0 (F:Nums):List Ins:=[.i 0 4 (.mov (.c (.int .i64 0)))]
abbrev r81_1 (F:Nums):List Ins:=[.mv 0 7 0,.i 1 8 (.call (.c (.fn F.cmp_isNaN_int64 [])) [.s 7]),.mv 2 5 8]
abbrev r81_2 (F:Nums):List Ins:=[.mv 0 9 1,.i 1 10 (.call (.c (.fn F.cmp_isNaN_int64 [])) [.s 9]),.mv 2 6 10]
abbrev r81_3 (F:Nums):List Ins:=[.mv 0 11 5]
abbrev r81_4 (F:Nums):List Ins:=[.mv 0 12 6]
abbrev r81_5 (F:Nums):List Ins:=[.i 0 4 (.mov (.c (.int .i64 0)))]
abbrev r81_6 (F:Nums):List Ins:=[.i 0 4 (.mov (.c (.int .i64 (-1))))]
abbrev r81_7 (F:Nums):List Ins:=[.mv 0 13 6]
abbrev r81_8 (F:Nums):List Ins:=[.i 0 4 (.mov (.c (.int .i64 1)))]
abbrev r81_9 (F:Nums):List Ins:=[.mv 0 14 0,.mv 1 15 1,.b .lss 2 16 14 15]
abbrev r81_10 (F:Nums):List Ins:=[.i 0 4 (.mov (.c (.int .i64 (-1))))]
abbrev r81_11 (F:Nums):List Ins:=[.mv 0 17 0,.mv 1 18 1,.b .gtr 2 19 17 18]
abbrev r81_12 (F:Nums):List Ins:=[.i 0 4 (.mov (.c (.int .i64 1)))]
abbrev r81_13 (F:Nums):List Ins:=[.i 0 4 (.mov (.c (.int .i64 0)))]
abbrev c_cmp_Compare_int64 (F:Nums):Fn:=⟨2,[.tmp 4],(.seq (.reg [0,1] 0 (r81_0 F))
 (.seq (.reg [0,1,5] 0 (r81_1 F))
 (.seq (.reg [0,1,5,6] 0 (r81_2 F))
 (.seq (.seq (.reg [0,1,6,11] 0 (r81_3 F))
  (.cond (.s 11)
  (.seq (.seq (.reg [12] 0 (r81_4 F))
    (.cond (.s 12)
    (.seq (.reg [4] 0 (r81_5 F))
     .ret)
    .skip))
   (.seq (.reg [4] 0 (r81_6 F))
   .ret))
  .skip))
 (.seq (.seq (.reg [0,1,13] 0 (r81_7 F))
  (.cond (.s 13)
  (.seq (.reg [4] 0 (r81_8 F))
   .ret)
  .skip))
 (.seq (.seq (.reg [0,1,16] 0 (r81_9 F))
  (.cond (.s 16)
  (.seq (.reg [4] 0 (r81_10 F))
   .ret)
  .skip))
 (.seq (.seq (.reg [19] 0 (r81_11 F))
  (.cond (.s 19)
  (.seq (.reg [4] 0 (r81_12 F))
   .ret)
  .skip))
 (.seq (.reg [4] 0 (r81_13 F))
 .ret))))))))⟩
abbrev r82_0 (F:Nums):List Ins:=[.i 0 4 (.mov (.c (.int .i64 0)))]
abbrev r82_1 (F:Nums):List Ins:=[.mv 0 7 0,.i 1 8 (.call (.c (.fn F.cmp_isNaN [])) [.s 7]),.mv 2 5 8]
abbrev r82_2 (F:Nums):List Ins:=[.mv 0 9 1,.i 1 10 (.call (.c (.fn F.cmp_isNaN [])) [.s 9]),.mv 2 6 10]
abbrev r82_3 (F:Nums):List Ins:=[.mv 0 11 5]
abbrev r82_4 (F:Nums):List Ins:=[.mv 0 12 6]
abbrev r82_5 (F:Nums):List Ins:=[.i 0 4 (.mov (.c (.int .i64 0)))]
abbrev r82_6 (F:Nums):List Ins:=[.i 0 4 (.mov (.c (.int .i64 (-1))))]
abbrev r82_7 (F:Nums):List Ins:=[.mv 0 13 6]
abbrev r82_8 (F:Nums):List Ins:=[.i 0 4 (.mov (.c (.int .i64 1)))]
abbrev r82_9 (F:Nums):List Ins:=[.mv 0 14 0,.mv 1 15 1,.b .lss 2 16 14 15]
abbrev r82_10 (F:Nums):List Ins:=[.i 0 4 (.mov (.c (.int .i64 (-1))))]
abbrev r82_11 (F:Nums):List Ins:=[.mv 0 17 0,.mv 1 18 1,.b .gtr 2 19 17 18]
abbrev r82_12 (F:Nums):List Ins:=[.i 0 4 (.mov (.c (.int .i64 1)))]
abbrev r82_13 (F:Nums):List Ins:=[.i 0 4 (.mov (.c (.int .i64 0)))]
abbrev c_cmp_Compare (F:Nums):Fn:=⟨2,[.tmp 4],(.seq (.reg [0,1] 0 (r82_0 F))
 (.seq (.reg [0,1,5] 0 (r82_1 F))
 (.seq (.reg [0,1,5,6] 0 (r82_2 F))
 (.seq (.seq (.reg [0,1,6,11] 0 (r82_3 F))
  (.cond (.s 11)
  (.seq (.seq (.reg [12] 0 (r82_4 F))
    (.cond (.s 12)
    (.seq (.reg [4] 0 (r82_5 F))
     .ret)
    .skip))
   (.seq (.reg [4] 0 (r82_6 F))
   .ret))
  .skip))
 (.seq (.seq (.reg [0,1,13] 0 (r82_7 F))
  (.cond (.s 13)
  (.seq (.reg [4] 0 (r82_8 F))
   .ret)
  .skip))
 (.seq (.seq (.reg [0,1,16] 0 (r82_9 F))
  (.cond (.s 16)
  (.seq (.reg [4] 0 (r82_10 F))
   .ret)
  .skip))
 (.seq (.seq (.reg [19] 0 (r82_11 F))
  (.cond (.s 19)
  (.seq (.reg [4] 0 (r82_12 F))
   .ret)
  .skip))
 (.seq (.reg [4] 0 (r82_13 F))
 .ret))))))))⟩
abbrev r83_0 (F:Nums):List Ins:=[.i 0 4 (.alc 0 [.int .i64 0,.int .i64 0,.int .i64 0])]
abbrev r83_1 (F:Nums):List Ins:=[.mv 0 10 0,.i 1 11 (.call (.c (.fn F.histo_In [])) [.s 10]),.mv 2 12 0,.i 3 13 (.call (.c (.fn F.histo_Over [])) [.s 12]),.b .add 4 14 11 13,
 .mv 5 5 14]
abbrev r83_2 (F:Nums):List Ins:=[.mv 0 16 5,.i 1 17 (.bin .lss (.s 16) (.c (.int .i64 4))),.mv 2 15 17]
abbrev r83_3 (F:Nums):List Ins:=[.i 0 18 (.call (.c (.fn F.policy_fixed [])) []),.j 1 (.stn (.s 4) (.s 18) 3)]
abbrev r83_4 (F:Nums):List Ins:=[.mv 0 20 0,.i 1 21 (.call (.c (.fn F.histo_Over [])) [.s 20]),.i 2 22 (.bin .mul (.c (.int .i64 2)) (.s 21)),.mv 3 23 5,.b .gtr 4 24 22 23,
 .mv 5 19 24]
abbrev r83_5 (F:Nums):List Ins:=[.mv 0 25 1,.i 1 26 (.call (.c (.fn F.ring_List [])) [.s 25]),.i 2 27 (.call (.c (.fn F.cast_Next [])) [.s 26]),.i 3 28 (.call (.c (.fn F.policy_ahead [])) [.s 27]),
 .j 4 (.stn (.s 4) (.s 28) 3)]
abbrev r83_6 (F:Nums):List Ins:=[.mv 0 30 0,.i 1 31 (.call (.c (.fn F.histo_Spread [])) [.s 30]),.nt 2 32 31,.mv 3 29 32]
abbrev r83_7 (F:Nums):List Ins:=[.i 0 33 (.call (.c (.fn F.policy_fixed [])) []),.j 1 (.stn (.s 4) (.s 33) 3)]
abbrev r83_8 (F:Nums):List Ins:=[.mv 0 35 0,.i 1 36 (.call (.c (.fn F.histo_Cut [])) [.s 35,.c (.int .i64 5)]),.mv 2 34 36,.e 3 37 34 0,.e 4 38 34 1,.mv 5 6 37,.mv 6 7 38]
abbrev r83_9 (F:Nums):List Ins:=[.mv 0 40 0,.i 1 41 (.call (.c (.fn F.histo_Cut [])) [.s 40,.c (.int .i64 99)]),.mv 2 39 41,.e 3 42 39 0,.e 4 43 39 1,.mv 5 8 42,.mv 6 9 43]
abbrev r83_10 (F:Nums):List Ins:=[.mv 0 44 6,.i 1 45 (.call (.c (.fn F.num_Frac [])) [.s 44,.c (.int .i64 9),.c (.int .i64 10)]),.mv 2 46 8,.i 3 47 (.bin .add (.s 46) (.c (.int .i64 1))),
 .i 4 48 (.call (.c (.fn F.num_FracUp [])) [.s 47,.c (.int .i64 11),.c (.int .i64 10)]),.i 5 49 (.bld [.int .i64 0,.int .i64 0,.int .i64 0] [(0,1,.c (.int .i64 1)),(1,1,.s 45),(2,1,.s 48)]),
 .j 6 (.stn (.s 4) (.s 49) 3)]
abbrev c_policy_Of (F:Nums):Fn:=⟨2,[.cells 4 3],(.seq (.reg [0,1,4] 1 (r83_0 F))
 (.seq (.reg [0,1,4,5] 0 (r83_1 F))
 (.seq (.blk 0
  (.seq (.reg [0,1,4,5,15] 0 (r83_2 F))
   (.cond (.s 15)
   (.seq (.reg [4] 0 (r83_3 F))
    .ret)
   (.seq (.reg [0,1,4,19] 0 (r83_4 F))
    (.cond (.s 19)
    (.seq (.reg [4] 0 (r83_5 F))
     .ret)
    (.seq (.reg [0,4,29] 0 (r83_6 F))
     (.cond (.s 29)
     (.seq (.reg [4] 0 (r83_7 F))
      .ret)
     .skip)))))))
 (.seq (.reg [0,4,6] 0 (r83_8 F))
 (.seq (.reg [4,6,8] 0 (r83_9 F))
 (.seq (.reg [4] 0 (r83_10 F))
 .ret))))))⟩
abbrev r84_0 (F:Nums):List Ins:=[.i 0 8 (.mov (.c (.bool true)))]
abbrev r84_1 (F:Nums):List Ins:=[.i 0 9 (.mov (.c (.bool true)))]
abbrev r84_2 (F:Nums):List Ins:=[.mv 0 19 2,.mv 1 20 1,.b .sub 2 21 19 20,.mv 3 10 21]
abbrev r84_3 (F:Nums):List Ins:=[.mv 0 22 10,.i 1 23 (.bin .leq (.s 22) (.c (.int .i64 12)))]
abbrev r84_4 (F:Nums):List Ins:=[.mv 0 24 0,.mv 1 25 1,.mv 2 26 2,.i 3 27 (.call (.c (.fn F.slices_insertionSortOrdered [])) [.s 24,.s 25,.s 26])]
abbrev r84_5 (F:Nums):List Ins:=[.mv 0 28 3,.i 1 29 (.bin .eql (.s 28) (.c (.int .i64 0)))]
abbrev r84_6 (F:Nums):List Ins:=[.mv 0 30 0,.mv 1 31 1,.mv 2 32 2,.i 3 33 (.call (.c (.fn F.slices_heapSortOrdered [])) [.s 30,.s 31,.s 32])]
abbrev r84_7 (F:Nums):List Ins:=[.mv 0 34 8,.nt 1 35 34]
abbrev r84_8 (F:Nums):List Ins:=[.mv 0 36 0,.mv 1 37 1,.mv 2 38 2,.i 3 39 (.call (.c (.fn F.slices_breakPatternsOrdered [])) [.s 36,.s 37,.s 38])]
abbrev r84_9 (F:Nums):List Ins:=[.mv 0 40 3,.i 1 41 (.bin .sub (.s 40) (.c (.int .i64 1))),.mv 2 3 41]
abbrev r84_10 (F:Nums):List Ins:=[.mv 0 43 0,.mv 1 44 1,.mv 2 45 2,.i 3 46 (.call (.c (.fn F.slices_choosePivotOrdered [])) [.s 43,.s 44,.s 45]),.mv 4 42 46,.e 5 47 42 0,
 .e 6 48 42 1,.mv 7 11 47,.mv 8 12 48]
abbrev r84_11 (F:Nums):List Ins:=[.mv 0 49 12,.i 1 50 (.bin .eql (.s 49) (.c (.int .i64 2)))]
abbrev r84_12 (F:Nums):List Ins:=[.mv 0 51 0,.mv 1 52 1,.mv 2 53 2,.i 3 54 (.call (.c (.fn F.slices_reverseRangeOrdered [])) [.s 51,.s 52,.s 53])]
abbrev r84_13 (F:Nums):List Ins:=[.mv 0 55 2,.i 1 56 (.bin .sub (.s 55) (.c (.int .i64 1))),.mv 2 57 11,.mv 3 58 1,.b .sub 4 59 57 58,.b .sub 5 60 56 59,.mv 6 11 60]
abbrev r84_14 (F:Nums):List Ins:=[.i 0 12 (.mov (.c (.int .i64 1)))]
abbrev r84_15 (F:Nums):List Ins:=[.mv 0 61 8,.mv 1 62 61,⟨2,(some 63),(some (62,true)),[],.mov (.s 9),0⟩,.i 3 64 (.pick (.s 62) (.s 63) (.c (.bool false))),.mv 4 65 64,
 ⟨5,(some 66),(some (65,true)),[],.mov (.s 12),0⟩,⟨6,(some 67),(some (65,true)),[],.bin .eql (.s 66) (.c (.int .i64 1)),0⟩,.i 7 68 (.pick (.s 65) (.s 67) (.c (.bool false)))]
abbrev r84_16 (F:Nums):List Ins:=[.mv 0 69 0,.mv 1 70 1,.mv 2 71 2,.i 3 72 (.call (.c (.fn F.slices_partialInsertionSortOrdered [])) [.s 69,.s 70,.s 71])]
abbrev r84_17 (F:Nums):List Ins:=[.mv 0 73 1,.i 1 74 (.bin .gtr (.s 73) (.c (.int .i64 0))),.mv 2 75 74,⟨3,(some 76),(some (75,true)),[],.mov (.s 0),0⟩,⟨4,(some 77),(some (75,true)),[],.mov (.s 1),0⟩,
 ⟨5,(some 78),(some (75,true)),[],.bin .sub (.s 77) (.c (.int .i64 1)),0⟩,⟨6,(some 79),(some (75,true)),[],.ix (.s 76) (.s 78) 1,0⟩,
 ⟨7,(some 80),(some (75,true)),[],.ld (.s 79),0⟩,⟨8,(some 81),(some (75,true)),[],.mov (.s 0),0⟩,⟨9,(some 82),(some (75,true)),[],.mov (.s 11),0⟩,
 ⟨10,(some 83),(some (75,true)),[],.ix (.s 81) (.s 82) 1,0⟩,⟨11,(some 84),(some (75,true)),[],.ld (.s 83),0⟩,⟨12,(some 85),(some (75,true)),[],.call (.c (.fn F.cmp_Less [])) [.s 80,.s 84],0⟩,
 ⟨13,(some 86),(some (75,true)),[],.not (.s 85),0⟩,.i 14 87 (.pick (.s 75) (.s 86) (.c (.bool false)))]
abbrev r84_18 (F:Nums):List Ins:=[.mv 0 88 0,.mv 1 89 1,.mv 2 90 2,.mv 3 91 11,.i 4 92 (.call (.c (.fn F.slices_partitionEqualOrdered [])) [.s 88,.s 89,.s 90,.s 91]),.mv 5 13 92]
abbrev r84_19 (F:Nums):List Ins:=[.mv 0 93 13,.mv 1 1 93]
abbrev r84_20 (F:Nums):List Ins:=[.mv 0 95 0,.mv 1 96 1,.mv 2 97 2,.mv 3 98 11,.i 4 99 (.call (.c (.fn F.slices_partitionOrdered [])) [.s 95,.s 96,.s 97,.s 98]),.mv 5 94 99,
 .e 6 100 94 0,.e 7 101 94 1,.mv 8 14 100,.mv 9 15 101]
abbrev r84_21 (F:Nums):List Ins:=[.mv 0 102 15,.mv 1 9 102]
abbrev r84_22 (F:Nums):List Ins:=[.mv 0 103 14,.mv 1 104 1,.b .sub 2 105 103 104,.mv 3 106 2,.mv 4 107 14,.b .sub 5 108 106 107,.mv 6 16 105,.mv 7 17 108]
abbrev r84_23 (F:Nums):List Ins:=[.mv 0 109 10,.i 1 110 (.bin .quo (.s 109) (.c (.int .i64 8))),.mv 2 18 110]
abbrev r84_24 (F:Nums):List Ins:=[.mv 0 111 16,.mv 1 112 17,.b .lss 2 113 111 112]
abbrev r84_25 (F:Nums):List Ins:=[.mv 0 114 16,.mv 1 115 18,.b .geq 2 116 114 115,.mv 3 8 116]
abbrev r84_26 (F:Nums):List Ins:=[.mv 0 117 0,.mv 1 118 1,.mv 2 119 14,.mv 3 120 3,.i 4 121 (.call (.c (.fn F.slices_pdqsortOrdered [])) [.s 117,.s 118,.s 119,.s 120])]
abbrev r84_27 (F:Nums):List Ins:=[.mv 0 122 14,.i 1 123 (.bin .add (.s 122) (.c (.int .i64 1))),.mv 2 1 123]
abbrev r84_28 (F:Nums):List Ins:=[.mv 0 124 17,.mv 1 125 18,.b .geq 2 126 124 125,.mv 3 8 126]
abbrev r84_29 (F:Nums):List Ins:=[.mv 0 127 0,.mv 1 128 14,.i 2 129 (.bin .add (.s 128) (.c (.int .i64 1))),.mv 3 130 2,.mv 4 131 3,.i 5 132 (.call (.c (.fn F.slices_pdqsortOrdered [])) [.s 127,.s 129,.s 130,.s 131])]
abbrev r84_30 (F:Nums):List Ins:=[.mv 0 133 14,.mv 1 2 133]
abbrev c_slices_pdqsortOrdered (F:Nums):Fn:=⟨4,[],(.seq (.reg [0,1,2,3,8] 0 (r84_0 F))
 (.seq (.reg [0,1,2,3,8,9] 0 (r84_1 F))
 (.blk 0
 (.loop
  (.blk 1
   (.seq (.reg [0,1,2,3,8,9,10] 0 (r84_2 F))
    (.seq (.seq (.reg [0,1,2,3,8,9,10,23] 0 (r84_3 F))
     (.cond (.s 23)
     (.seq (.reg [] 0 (r84_4 F))
      .ret)
     .skip))
    (.seq (.seq (.reg [0,1,2,3,8,9,10,29] 0 (r84_5 F))
     (.cond (.s 29)
     (.seq (.reg [] 0 (r84_6 F))
      .ret)
     .skip))
    (.seq (.seq (.reg [0,1,2,3,8,9,10,35] 0 (r84_7 F))
     (.cond (.s 35)
     (.seq (.reg [0,1,2,3,8,9,10] 0 (r84_8 F))
      (.reg [0,1,2,3,8,9,10] 0 (r84_9 F)))
     .skip))
    (.seq (.reg [0,1,2,3,8,9,10,11,12] 0 (r84_10 F))
    (.seq (.seq (.reg [0,1,2,3,8,9,10,11,12,50] 0 (r84_11 F))
     (.cond (.s 50)
     (.seq (.reg [0,1,2,3,8,9,10,11] 0 (r84_12 F))
      (.seq (.reg [0,1,2,3,8,9,10,11] 0 (r84_13 F))
      (.reg [0,1,2,3,8,9,10,11,12] 0 (r84_14 F))))
     .skip))
    (.seq (.seq (.reg [0,1,2,3,8,9,10,11,68] 0 (r84_15 F))
     (.cond (.s 68)
     (.seq (.reg [0,1,2,3,8,9,10,11,72] 0 (r84_16 F))
      (.cond (.s 72)
      .ret
      .skip))
     .skip))
    (.seq (.seq (.reg [0,1,2,3,8,9,10,11,87] 0 (r84_17 F))
     (.cond (.s 87)
     (.seq (.reg [0,2,3,8,9,13] 0 (r84_18 F))
      (.seq (.reg [0,1,2,3,8,9] 0 (r84_19 F))
      (.exit 1)))
     .skip))
    (.seq (.reg [0,1,2,3,10,14,15] 0 (r84_20 F))
    (.seq (.reg [0,1,2,3,9,10,14] 0 (r84_21 F))
    (.seq (.reg [0,1,2,3,9,10,14,16,17] 0 (r84_22 F))
    (.seq (.reg [0,1,2,3,9,14,16,17,18] 0 (r84_23 F))
    (.seq (.reg [0,1,2,3,9,14,16,17,18,113] 0 (r84_24 F))
    (.cond (.s 113)
    (.seq (.reg [0,1,2,3,8,9,14] 0 (r84_25 F))
     (.seq (.reg [0,2,3,8,9,14] 0 (r84_26 F))
     (.reg [0,1,2,3,8,9] 0 (r84_27 F))))
    (.seq (.reg [0,1,2,3,8,9,14] 0 (r84_28 F))
     (.seq (.reg [0,1,3,8,9,14] 0 (r84_29 F))
     (.reg [0,1,2,3,8,9] 0 (r84_30 F)))))))))))))))))))))))⟩
abbrev r85_0 (F:Nums):List Ins:=[.i 0 2 (.mov (.c (.int .i64 0)))]
abbrev r85_1 (F:Nums):List Ins:=[.mv 0 3 0,.i 1 4 (.conv .u32 (.s 3)),.i 2 5 (.call (.c (.fn F.math_bits_Len32 [])) [.s 4]),.mv 3 2 5]
abbrev r85_2 (F:Nums):List Ins:=[.mv 0 6 0,.i 1 7 (.call (.c (.fn F.math_bits_Len64 [])) [.s 6]),.mv 2 2 7]
abbrev c_math_bits_Len (F:Nums):Fn:=⟨1,[.tmp 2],(.seq (.reg [0] 0 (r85_0 F))
 (.seq (.cond (.c (.bool false))
  (.seq (.reg [2] 0 (r85_1 F))
   .ret)
  .skip)
 (.seq (.reg [2] 0 (r85_2 F))
 .ret)))⟩
abbrev r86_0 (F:Nums):List Ins:=[.i 0 2 (.alc 0 [.int .i64 0,.int .i64 0]),.i 1 3 (.alc 1 [.int .i64 0,.int .i64 0,.int .i64 0]),.i 2 4 (.mov (.c (.bool false)))]
abbrev r86_1 (F:Nums):List Ins:=[.mv 0 6 0,.ck 1 7 6,.f 2 8 7 1,.l 3 9 8,.i 4 10 (.len (.s 9)),.i 5 11 (.bin .eql (.s 10) (.c (.int .i64 0)))]
abbrev r86_2 (F:Nums):List Ins:=[.i 0 5 (.alc 0 [.int .i64 0,.int .i64 0,.int .i64 0,.int .i64 0,.int .i64 0])]
abbrev r86_3 (F:Nums):List Ins:=[.f 0 12 5 0,.i 1 13 (.ldn (.s 12) 2),.f 2 14 5 2,.i 3 15 (.ldn (.s 14) 3),⟨4,none,none,[(none,15,.ldn (.s 14) 3)],.stn (.s 2) (.s 13) 2,0⟩,
 .j 5 (.stn (.s 3) (.s 15) 3),.i 6 4 (.mov (.c (.bool false)))]
abbrev r86_4 (F:Nums):List Ins:=[.mv 0 16 0,.ck 1 17 16,.f 2 18 17 1,.l 3 19 18,.i 4 20 (.ix (.s 19) (.c (.int .i64 0)) 5),.f 5 21 20 0,.i 6 22 (.ldn (.s 21) 2),.mv 7 23 0,
 .ck 8 24 23,.f 9 25 24 1,.l 10 26 25,.i 11 27 (.ix (.s 26) (.c (.int .i64 0)) 5),.f 12 28 27 2,.i 13 29 (.ldn (.s 28) 3),⟨14,none,none,[(none,26,.ld (.s 25)),(none,29,.ldn (.s 28) 3)],.stn (.s 2) (.s 22) 2,0⟩,
 .j 15 (.stn (.s 3) (.s 29) 3),.i 16 4 (.mov (.c (.bool true)))]
abbrev c_theap_Min (F:Nums):Fn:=⟨1,[.cells 2 2,.cells 3 3,.tmp 4],(.seq (.reg [0,2,3] 2 (r86_0 F))
 (.seq (.seq (.reg [0,2,3,11] 0 (r86_1 F))
  (.cond (.s 11)
  (.seq (.reg [2,3,5] 1 (r86_2 F))
   (.seq (.reg [2,3,4] 0 (r86_3 F))
   .ret))
  .skip))
 (.seq (.reg [2,3,4] 0 (r86_4 F))
 .ret)))⟩
abbrev r87_0 (F:Nums):List Ins:=[.i 0 3 (.box 0 (.s 1)),.i 1 4 (.mov (.c (.bool false)))]
abbrev r87_1 (F:Nums):List Ins:=[.mv 0 9 0,.ck 1 10 9,.f 2 11 10 2,.l 3 12 11,.i 4 13 (.ldn (.s 3) 2),.i 5 14 (.look 2 (.s 12) (.s 13) (.int .i64 0) true),.mv 6 8 14,.e 7 15 8 0,
 .e 8 16 8 1,.mv 9 5 15,.mv 10 6 16]
abbrev r87_2 (F:Nums):List Ins:=[.mv 0 17 6,.nt 1 18 17]
abbrev r87_3 (F:Nums):List Ins:=[.i 0 4 (.mov (.c (.bool false)))]
abbrev r87_4 (F:Nums):List Ins:=[.mv 0 19 0,.ck 1 20 19,.f 2 21 20 1,.l 3 22 21,.i 4 23 (.len (.s 22)),.i 5 24 (.bin .sub (.s 23) (.c (.int .i64 1))),.mv 6 7 24]
abbrev r87_5 (F:Nums):List Ins:=[.mv 0 25 0,.mv 1 26 5,.mv 2 27 7,.i 3 28 (.call (.c (.fn F.theap_swap [])) [.s 25,.s 26,.s 27])]
abbrev r87_6 (F:Nums):List Ins:=[.mv 0 29 0,.mv 1 30 0,.ck 2 31 30,.f 3 32 31 1,.l 4 33 32,.mv 5 34 7,.i 6 35 (.slc (.s 33) none (some (.s 34)) 5),.ck 7 36 29,.f 8 37 36 1,
 .st 9 37 35]
abbrev r87_7 (F:Nums):List Ins:=[.mv 0 38 0,.ck 1 39 38,.f 2 40 39 2,.l 3 41 40,.i 4 42 (.ldn (.s 3) 2),.j 5 (.del 2 (.s 41) (.s 42))]
abbrev r87_8 (F:Nums):List Ins:=[.mv 0 43 5,.mv 1 44 7,.b .lss 2 45 43 44]
abbrev r87_9 (F:Nums):List Ins:=[.mv 0 46 0,.mv 1 47 5,.i 2 48 (.call (.c (.fn F.theap_fix [])) [.s 46,.s 47])]
abbrev r87_10 (F:Nums):List Ins:=[.i 0 4 (.mov (.c (.bool true)))]
abbrev c_theap_Drop (F:Nums):Fn:=⟨2,[.tmp 4],(.seq (.reg [0,3] 1 (r87_0 F))
 (.seq (.reg [0,3,5,6] 0 (r87_1 F))
 (.seq (.seq (.reg [0,3,5,18] 0 (r87_2 F))
  (.cond (.s 18)
  (.seq (.reg [4] 0 (r87_3 F))
   .ret)
  .skip))
 (.seq (.reg [0,3,5,7] 0 (r87_4 F))
 (.seq (.reg [0,3,5,7] 0 (r87_5 F))
 (.seq (.reg [0,3,5,7] 0 (r87_6 F))
 (.seq (.reg [0,5,7] 0 (r87_7 F))
 (.seq (.seq (.reg [0,5,45] 0 (r87_8 F))
  (.cond (.s 45)
  (.reg [] 0 (r87_9 F))
  .skip))
 (.seq (.reg [4] 0 (r87_10 F))
 .ret)))))))))⟩
abbrev r88_0 (F:Nums):List Ins:=[.i 0 3 (.mov (.c (.bool false)))]
abbrev r88_1 (F:Nums):List Ins:=[.mv 0 4 0,.ck 1 5 4,.f 2 6 5 1,.l 3 7 6,.l 4 8 1,.b .eql 5 9 7 8,.mv 6 3 9]
abbrev c_core_ahead_1 (F:Nums):Fn:=⟨2,[.tmp 3],(.seq (.reg [0,1] 0 (r88_0 F))
 (.seq (.reg [3] 0 (r88_1 F))
 .ret))⟩
abbrev r89_0 (F:Nums):List Ins:=[.i 0 4 (.mov (.c (.int .i64 0))),.i 1 5 (.mov (.c (.bool false)))]
abbrev r89_1 (F:Nums):List Ins:=[.i 0 6 (.mov (.c (.int .i64 (-1))))]
abbrev r89_2 (F:Nums):List Ins:=[.i 0 8 (.mov (.c (.int .i64 0)))]
abbrev r89_3 (F:Nums):List Ins:=[.i 0 9 (.bin .lss (.s 8) (.c (.int .i64 32)))]
abbrev r89_4 (F:Nums):List Ins:=[.mv 0 10 8,.mv 1 7 10]
abbrev r89_5 (F:Nums):List Ins:=[.mv 0 11 0,.mv 1 12 7,.i 2 13 (.call (.c (.fn F.host_Up [])) [.s 11,.s 12]),.mv 3 14 13,⟨4,(some 15),(some (14,true)),[],.mov (.s 1),0⟩,
 ⟨5,(some 16),(some (14,true)),[],.bin .geq (.s 15) (.c (.int .i64 0)),0⟩,.i 6 17 (.pick (.s 14) (.s 16) (.c (.bool false))),.mv 7 18 17,
 ⟨8,(some 19),(some (18,true)),[],.mov (.s 0),0⟩,⟨9,(some 20),(some (18,true)),[],.mov (.s 7),0⟩,⟨10,(some 21),(some (18,true)),[],.call (.c (.fn F.host_Free [])) [.s 19,.s 20],0⟩,
 ⟨11,(some 22),(some (18,true)),[],.mov (.s 1),0⟩,⟨12,(some 23),(some (18,true)),[],.bin .geq (.s 21) (.s 22),0⟩,.i 13 24 (.pick (.s 18) (.s 23) (.c (.bool false))),
 .mv 14 25 24,⟨15,(some 26),(some (25,true)),[],.mov (.s 6),0⟩,⟨16,(some 27),(some (25,true)),[],.bin .lss (.s 26) (.c (.int .i64 0)),0⟩,
 ⟨17,(some 28),(some (25,true)),[],.mov (.s 27),0⟩,⟨18,(some 29),(some (28,false)),[],.mov (.s 0),0⟩,⟨19,(some 30),(some (28,false)),[],.mov (.s 7),0⟩,
 ⟨20,(some 31),(some (28,false)),[],.call (.c (.fn F.host_Free [])) [.s 29,.s 30],0⟩,⟨21,(some 32),(some (28,false)),[],.mov (.s 0),0⟩,
 ⟨22,(some 33),(some (28,false)),[],.mov (.s 6),0⟩,⟨23,(some 34),(some (28,false)),[],.call (.c (.fn F.host_Free [])) [.s 32,.s 33],0⟩,
 ⟨24,(some 35),(some (28,false)),[],.bin .lss (.s 31) (.s 34),0⟩,⟨25,(some 36),(some (25,true)),[],.pick (.s 28) (.c (.bool true)) (.s 35),0⟩,
 .i 26 37 (.pick (.s 25) (.s 36) (.c (.bool false)))]
abbrev r89_6 (F:Nums):List Ins:=[.mv 0 38 7,.mv 1 6 38]
abbrev r89_7 (F:Nums):List Ins:=[.i 0 39 (.bin .add (.s 8) (.c (.int .i64 1))),.mv 1 8 39]
abbrev r89_8 (F:Nums):List Ins:=[.mv 0 40 6,.i 1 41 (.mx [.s 40,.c (.int .i64 0)]),.mv 2 42 6,.i 3 43 (.bin .geq (.s 42) (.c (.int .i64 0))),.mv 4 4 41,.mv 5 5 43]
abbrev c_host_Fit (F:Nums):Fn:=⟨2,[.tmp 4,.tmp 5],(.seq (.reg [0,1] 0 (r89_0 F))
 (.seq (.reg [0,1,6] 0 (r89_1 F))
 (.seq (.seq (.reg [0,1,6,8] 0 (r89_2 F))
  (.blk 0
  (.loop
   (.seq (.reg [0,1,6,8,9] 0 (r89_3 F))
    (.seq (.cond (.s 9)
     .skip
     (.exit 0))
    (.seq (.blk 1
     (.seq (.reg [0,1,6,7,8] 0 (r89_4 F))
      (.seq (.reg [0,1,6,7,8,37] 0 (r89_5 F))
      (.cond (.s 37)
      (.reg [0,1,6,8] 0 (r89_6 F))
      .skip))))
    (.reg [0,1,6,8] 0 (r89_7 F))))))))
 (.seq (.reg [4,5] 0 (r89_8 F))
 .ret))))⟩
abbrev r90_0 (F:Nums):List Ins:=[.i 0 4 (.mov (.c (.int .i64 0))),.i 1 5 (.mov (.c (.int .i64 0))),.i 2 6 (.mov (.c (.int .i64 0)))]
abbrev r90_1 (F:Nums):List Ins:=[.i 0 7 (.mov (.c (.int .i64 0))),.i 1 8 (.mov (.c (.int .i64 0))),.i 2 9 (.mov (.c (.int .i64 0)))]
abbrev r90_2 (F:Nums):List Ins:=[.mv 0 12 0,.ck 1 13 12,.f 2 14 13 32,.i 3 15 (.ldn (.s 14) 256),.i 4 16 (.mov (.c (.int .i64 0)))]
abbrev r90_3 (F:Nums):List Ins:=[.i 0 17 (.bin .lss (.s 16) (.c (.int .i64 64)))]
abbrev r90_4 (F:Nums):List Ins:=[.i 0 18 (.idxn (.s 15) (.s 16) 64 4),.i 1 11 (.alc 0 [.bool false,.int .i64 0,.int .i64 0,.int .i64 0]),.j 2 (.stn (.s 11) (.s 18) 4)]
abbrev r90_5 (F:Nums):List Ins:=[.f 0 19 11 0,.l 1 20 19,.nt 2 21 20,.mv 3 22 21,⟨4,(some 23),(some (22,false)),[],.fa (.s 11) 1,0⟩,⟨5,(some 24),(some (22,false)),[],.ld (.s 23),0⟩,
 ⟨6,(some 25),(some (22,false)),[],.mov (.s 1),0⟩,⟨7,(some 26),(some (22,false)),[],.bin .neq (.s 24) (.s 25),0⟩,.i 8 27 (.pick (.s 22) (.c (.bool true)) (.s 26))]
abbrev r90_6 (F:Nums):List Ins:=[.mv 0 28 7,.f 1 29 11 2,.l 2 30 29,.b .add 3 31 28 30,.mv 4 7 31]
abbrev r90_7 (F:Nums):List Ins:=[.mv 0 32 8,.f 1 33 11 3,.l 2 34 33,.b .add 3 35 32 34,.mv 4 8 35]
abbrev r90_8 (F:Nums):List Ins:=[.f 0 36 11 2,.l 1 37 36,.i 2 38 (.bin .eql (.s 37) (.c (.int .i64 0)))]
abbrev r90_9 (F:Nums):List Ins:=[.mv 0 39 9,.f 1 40 11 3,.l 2 41 40,.b .add 3 42 39 41,.mv 4 9 42]
abbrev r90_10 (F:Nums):List Ins:=[.i 0 43 (.bin .add (.s 16) (.c (.int .i64 1))),.mv 1 16 43]
abbrev r90_11 (F:Nums):List Ins:=[.mv 0 44 7,.mv 1 45 8,.mv 2 46 9,.mv 3 4 44,.mv 4 5 45,.mv 5 6 46]
abbrev c_quota_sums (F:Nums):Fn:=⟨2,[.tmp 4,.tmp 5,.tmp 6],(.seq (.reg [0,1] 0 (r90_0 F))
 (.seq (.reg [0,1,7,8,9] 0 (r90_1 F))
 (.seq (.seq (.reg [1,7,8,9,15,16] 0 (r90_2 F))
  (.blk 0
  (.loop
   (.seq (.reg [1,7,8,9,15,16,17] 0 (r90_3 F))
    (.seq (.cond (.s 17)
     .skip
     (.exit 0))
    (.seq (.blk 1
     (.seq (.reg [1,7,8,9,11,15,16] 1 (r90_4 F))
      (.seq (.seq (.reg [1,7,8,9,11,15,16,27] 0 (r90_5 F))
       (.cond (.s 27)
       (.exit 1)
       .skip))
      (.seq (.reg [1,7,8,9,11,15,16] 0 (r90_6 F))
      (.seq (.reg [1,7,8,9,11,15,16] 0 (r90_7 F))
      (.seq (.reg [1,7,8,9,11,15,16,38] 0 (r90_8 F))
      (.cond (.s 38)
      (.reg [1,7,8,9,15,16] 0 (r90_9 F))
      .skip)))))))
    (.reg [1,7,8,9,15,16] 0 (r90_10 F))))))))
 (.seq (.reg [4,5,6] 0 (r90_11 F))
 .ret))))⟩
abbrev r91_0 (F:Nums):List Ins:=[.i 0 2 (.mov (.c (.int .i64 0)))]
abbrev r91_1 (F:Nums):List Ins:=[.mv 0 3 0,.i 1 4 (.mn [.s 3,.c (.int .i64 1000)]),.i 2 5 (.mx [.c (.int .i64 0),.s 4]),.mv 3 2 5]
abbrev c_bucket_bound (F:Nums):Fn:=⟨1,[.tmp 2],(.seq (.reg [0] 0 (r91_0 F))
 (.seq (.reg [2] 0 (r91_1 F))
 .ret))⟩
abbrev r92_0 (F:Nums):List Ins:=[.i 0 1 (.box 0 (.s 0)),.i 1 2 (.mov (.c (.nilf)))]
abbrev r92_1 (F:Nums):List Ins:=[.i 0 3 (.mkf F.slices_Backward_1 [.s 1]),.mv 1 2 3]
abbrev c_slices_Backward (F:Nums):Fn:=⟨1,[.tmp 2],(.seq (.reg [1] 1 (r92_0 F))
 (.seq (.reg [2] 0 (r92_1 F))
 .ret))⟩
abbrev r93_0 (F:Nums):List Ins:=[.i 0 3 (.box 0 (.s 1)),.i 1 4 (.mov (.c (.nils)))]
abbrev r93_1 (F:Nums):List Ins:=[.mv 0 5 0,.i 1 6 (.mkf F.core_pinned_1 [.s 3]),.i 2 7 (.call (.c (.fn F.core_where [])) [.s 5,.s 6]),.mv 3 4 7]
abbrev c_core_pinned (F:Nums):Fn:=⟨2,[.tmp 4],(.seq (.reg [0,3] 1 (r93_0 F))
 (.seq (.reg [4] 0 (r93_1 F))
 .ret))⟩
abbrev r94_0 (F:Nums):List Ins:=[.i 0 2 (.box 0 (.s 0)),.i 1 3 (.box 1 (.s 1)),.i 2 4 (.mov (.c (.nilp)))]
abbrev r94_1 (F:Nums):List Ins:=[.i 0 8 (.bsl 0 [.int .i64 0,.int .i64 0,.int .i64 0] [(0,1,.c (.int .i64 1)),(1,1,.c (.int .i64 0)),(2,1,.c (.int .i64 2))] 3 1),.i 1 9 (.len (.s 8)),
 .i 2 10 (.mov (.c (.int .i64 0)))]
abbrev r94_2 (F:Nums):List Ins:=[.b .lss 0 11 10 9]
abbrev r94_3 (F:Nums):List Ins:=[.x 0 12 8 10 1,.l 1 13 12,.i 2 6 (.alc 0 [.int .i64 0]),.st 3 6 13]
abbrev r94_4 (F:Nums):List Ins:=[.l 0 14 2,.i 1 15 (.mkf F.core_spare_1 [.s 3,.s 6,.s 2]),.i 2 16 (.call (.c (.fn F.core_where [])) [.s 14,.s 15]),.mv 3 7 16]
abbrev r94_5 (F:Nums):List Ins:=[.mv 0 17 7,.i 1 18 (.len (.s 17)),.i 2 19 (.bin .gtr (.s 18) (.c (.int .i64 0)))]
abbrev r94_6 (F:Nums):List Ins:=[.l 0 20 2,.ck 1 21 20,.f 2 22 21 7,.l 3 23 22,.mv 4 24 7,.i 5 25 (.ix (.s 24) (.c (.int .i64 0)) 1),.l 6 26 25,.i 7 27 (.look 1 (.s 23) (.s 26) (.nilp) false),
 .mv 8 4 27]
abbrev r94_7 (F:Nums):List Ins:=[.i 0 28 (.bin .add (.s 10) (.c (.int .i64 1))),.mv 1 10 28]
abbrev r94_8 (F:Nums):List Ins:=[.i 0 4 (.mov (.c (.nilp)))]
abbrev c_core_spare (F:Nums):Fn:=⟨2,[.tmp 4],(.seq (.reg [2,3] 2 (r94_0 F))
 (.seq (.seq (.reg [2,3,8,9,10] 1 (r94_1 F))
  (.blk 0
  (.loop
   (.seq (.reg [2,3,8,9,10,11] 0 (r94_2 F))
    (.seq (.cond (.s 11)
     .skip
     (.exit 0))
    (.seq (.blk 1
     (.seq (.reg [2,3,6,8,9,10] 1 (r94_3 F))
      (.seq (.reg [2,3,7,8,9,10] 0 (r94_4 F))
      (.seq (.reg [2,3,7,8,9,10,19] 0 (r94_5 F))
      (.cond (.s 19)
      (.seq (.reg [4] 0 (r94_6 F))
       .ret)
      .skip)))))
    (.reg [2,3,8,9,10] 0 (r94_7 F))))))))
 (.seq (.reg [4] 0 (r94_8 F))
 .ret)))⟩
abbrev r95_0 (F:Nums):List Ins:=[.mv 0 4 0,.mv 1 5 1,.ck 2 6 5,.f 3 7 6 2,.l 4 8 7,.mv 6 10 1,.ck 7 11 10,.f 8 12 11 0,.l 9 13 12,⟨5,(some 9),none,[(none,13,.ld (.s 12))],.call (.c (.fn F.core_cache [])) [.s 4,.s 8],0⟩,
 .i 10 14 (.call (.c (.fn F.warm_Drop [])) [.s 9,.s 13])]
abbrev r95_1 (F:Nums):List Ins:=[.mv 0 15 0,.ck 1 16 15,.f 2 17 16 9,.l 3 18 17,.mv 4 19 1,.ck 5 20 19,.f 6 21 20 0,.l 7 22 21,.i 8 23 (.bld [.int .i64 0,.int .i64 0] [(0,1,.c (.int .i64 0)),(1,1,.s 22)]),
 .i 9 24 (.call (.c (.fn F.timer_Drop [])) [.s 18,.s 23])]
abbrev c_core_take (F:Nums):Fn:=⟨2,[],(.seq (.reg [0,1] 0 (r95_0 F))
 (.reg [] 0 (r95_1 F)))⟩
abbrev r96_0 (F:Nums):List Ins:=[.l 0 4 1,.i 1 5 (.rng 0 (.s 4))]
abbrev r96_1 (F:Nums):List Ins:=[.i 0 6 (.nxt (.s 5)),.e 1 7 6 0]
abbrev r96_2 (F:Nums):List Ins:=[.i 0 8 (.ent (.s 5)),.e 1 9 8 0,.mv 2 3 9]
abbrev r96_3 (F:Nums):List Ins:=[.mv 0 10 0,.mv 1 11 3,.i 2 12 (.call (.s 10) [.s 11]),.nt 3 13 12]
abbrev c_Keys_fn_1 (F:Nums):Fn:=⟨2,[],(.seq (.reg [0,5] 1 (r96_0 F))
 (.blk 0
 (.loop
  (.seq (.reg [0,5,7] 0 (r96_1 F))
   (.seq (.cond (.s 7)
    .skip
    (.exit 0))
   (.blk 1
   (.seq (.reg [0,3,5] 0 (r96_2 F))
    (.seq (.reg [0,5,13] 0 (r96_3 F))
    (.cond (.s 13)
    .ret
    .skip)))))))))⟩
abbrev r97_0 (F:Nums):List Ins:=[.mv 0 5 0,.mv 1 6 1,.ck 2 7 5,.f 3 8 7 0,.i 4 9 (.ixa (.s 8) (.s 6) 32 4),.i 5 10 (.ldn (.s 9) 4),.i 6 4 (.alc 0 [.bool false,.bool false,.int .i64 0,.int .i64 0]),
 .j 7 (.stn (.s 4) (.s 10) 4)]
abbrev r97_1 (F:Nums):List Ins:=[.f 0 11 4 1,.l 1 12 11,.mv 2 13 12,⟨3,(some 14),(some (13,true)),[],.fa (.s 4) 3,0⟩,⟨4,(some 15),(some (13,true)),[],.ld (.s 14),0⟩,
 ⟨5,(some 16),(some (13,true)),[],.bin .eql (.s 15) (.c (.int .i64 0)),0⟩,.i 6 17 (.pick (.s 13) (.s 16) (.c (.bool false)))]
abbrev r97_2 (F:Nums):List Ins:=[.mv 0 18 0,.mv 1 19 1,.i 2 20 (.bld [.bool false,.bool false,.int .i64 0,.int .i64 0] []),.ck 3 21 18,.f 4 22 21 0,.i 5 23 (.ixa (.s 22) (.s 19) 32 4),
 .j 6 (.stn (.s 23) (.s 20) 4)]
abbrev c_host_sweep (F:Nums):Fn:=⟨2,[],(.seq (.reg [0,1,4] 1 (r97_0 F))
 (.seq (.reg [0,1,17] 0 (r97_1 F))
 (.cond (.s 17)
 (.reg [] 0 (r97_2 F))
 .skip)))⟩
abbrev r98_0 (F:Nums):List Ins:=[.i 0 4 (.mov (.c (.nils)))]
abbrev r98_1 (F:Nums):List Ins:=[.mv 0 8 0,.mv 1 9 1,.i 2 10 (.call (.c (.fn F.slices_IndexFunc [])) [.s 8,.s 9]),.mv 3 5 10]
abbrev r98_2 (F:Nums):List Ins:=[.mv 0 11 5,.i 1 12 (.bin .eql (.s 11) (.c (.int .i64 (-1))))]
abbrev r98_3 (F:Nums):List Ins:=[.mv 0 13 0,.mv 1 4 13]
abbrev r98_4 (F:Nums):List Ins:=[.mv 0 14 5,.i 1 15 (.bin .add (.s 14) (.c (.int .i64 1))),.mv 2 6 15]
abbrev r98_5 (F:Nums):List Ins:=[.mv 0 16 6,.mv 1 17 0,.i 2 18 (.len (.s 17)),.b .lss 3 19 16 18]
abbrev r98_7 (F:Nums):List Ins:=[.mv 0 22 0,.mv 1 23 6,.x 2 24 22 23 1,.l 3 25 24,.mv 4 7 25]
abbrev r98_8 (F:Nums):List Ins:=[.mv 0 26 1,.mv 1 27 7,.i 2 28 (.call (.s 26) [.s 27]),.nt 3 29 28]
abbrev r98_9 (F:Nums):List Ins:=[.mv 0 30 0,.mv 1 31 5,.mv 2 32 7,.x 3 33 30 31 1,.st 4 33 32]
abbrev r98_10 (F:Nums):List Ins:=[.mv 0 34 5,.i 1 35 (.bin .add (.s 34) (.c (.int .i64 1))),.mv 2 5 35]
abbrev r98_6 (F:Nums):List Ins:=[.mv 0 20 6,.i 1 21 (.bin .add (.s 20) (.c (.int .i64 1))),.mv 2 6 21]
abbrev r98_11 (F:Nums):List Ins:=[.mv 0 36 0,.mv 1 37 5,.i 2 38 (.slc (.s 36) (some (.s 37)) none 1),.j 3 (.clr (.s 38))]
abbrev r98_12 (F:Nums):List Ins:=[.mv 0 39 0,.mv 1 40 5,.i 2 41 (.slc (.s 39) none (some (.s 40)) 1),.mv 3 4 41]
abbrev c_slices_DeleteFunc (F:Nums):Fn:=⟨2,[.tmp 4],(.seq (.reg [0,1] 0 (r98_0 F))
 (.seq (.reg [0,1,5] 0 (r98_1 F))
 (.seq (.seq (.reg [0,1,5,12] 0 (r98_2 F))
  (.cond (.s 12)
  (.seq (.reg [4] 0 (r98_3 F))
   .ret)
  .skip))
 (.seq (.seq (.reg [0,1,5,6] 0 (r98_4 F))
  (.blk 0
  (.loop
   (.seq (.seq (.reg [0,1,5,6,19] 0 (r98_5 F))
     (.cond (.s 19)
     .skip
     (.exit 0)))
    (.seq (.blk 1
     (.seq (.reg [0,1,5,6,7] 0 (r98_7 F))
      (.seq (.reg [0,1,5,6,7,29] 0 (r98_8 F))
      (.cond (.s 29)
      (.seq (.reg [0,1,5,6] 0 (r98_9 F))
       (.reg [0,1,5,6] 0 (r98_10 F)))
      .skip))))
    (.reg [0,1,5,6] 0 (r98_6 F)))))))
 (.seq (.reg [0,5] 0 (r98_11 F))
 (.seq (.reg [4] 0 (r98_12 F))
 .ret))))))⟩
abbrev r99_0 (F:Nums):List Ins:=[.i 0 4 (.mov (.c (.bool false)))]
abbrev r99_1 (F:Nums):List Ins:=[.l 0 5 1,.l 1 6 2,.ck 2 7 6,.f 3 8 7 7,.l 4 9 8,.mv 5 10 0,.i 6 11 (.look 1 (.s 9) (.s 10) (.nilp) false),.i 7 12 (.call (.s 5) [.s 11]),
 .nt 8 13 12,.mv 9 4 13]
abbrev c_core_where_1 (F:Nums):Fn:=⟨3,[.tmp 4],(.seq (.reg [0,1,2] 0 (r99_0 F))
 (.seq (.reg [4] 0 (r99_1 F))
 .ret))⟩
abbrev r100_0 (F:Nums):List Ins:=[.i 0 4 (.mov (.c (.bool false)))]
abbrev r100_1 (F:Nums):List Ins:=[.mv 0 5 0,.ck 1 6 5,.f 2 7 6 4,.l 3 8 7,.i 4 9 (.bin .eql (.s 8) (.c (.int .i64 3)))]
abbrev r100_2 (F:Nums):List Ins:=[.i 0 4 (.mov (.c (.bool false)))]
abbrev r100_3 (F:Nums):List Ins:=[.mv 0 10 0,.mv 1 11 0,.mv 2 12 0,.mv 3 13 0,.mv 4 14 1,.ck 5 15 10,.f 6 16 15 4,.j 7 (.st (.s 16) (.c (.int .i64 3))),.ck 8 17 11,.f 9 18 17 5,
 .j 10 (.st (.s 18) (.c (.bool false))),.ck 11 19 12,.f 12 20 19 6,.j 13 (.st (.s 20) (.c (.bool false))),.ck 14 21 13,.f 15 22 21 7,.st 16 22 14]
abbrev r100_4 (F:Nums):List Ins:=[.i 0 4 (.mov (.c (.bool true)))]
abbrev c_box_Kill (F:Nums):Fn:=⟨2,[.tmp 4],(.seq (.reg [0,1] 0 (r100_0 F))
 (.seq (.seq (.reg [0,1,9] 0 (r100_1 F))
  (.cond (.s 9)
  (.seq (.reg [4] 0 (r100_2 F))
   .ret)
  .skip))
 (.seq (.reg [] 0 (r100_3 F))
 (.seq (.reg [4] 0 (r100_4 F))
 .ret))))⟩
abbrev r101_0 (F:Nums):List Ins:=[.i 0 6 (.mov (.c (.bool false)))]
abbrev r101_1 (F:Nums):List Ins:=[.mv 0 7 0,.mv 1 8 1,.i 2 9 (.call (.c (.fn F.host_there [])) [.s 7,.s 8]),.nt 3 10 9,.mv 4 11 10,⟨5,(some 12),(some (11,false)),[],.mov (.s 2),0⟩,
 ⟨6,(some 13),(some (11,false)),[],.bin .lss (.s 12) (.c (.int .i64 0)),0⟩,.i 7 14 (.pick (.s 11) (.c (.bool true)) (.s 13)),.mv 8 15 14,
 ⟨9,(some 16),(some (15,false)),[],.mov (.s 2),0⟩,⟨10,(some 17),(some (15,false)),[],.mov (.s 0),0⟩,⟨11,(some 18),(some (15,false)),[],.mov (.s 1),0⟩,
 ⟨12,(some 19),(some (15,false)),[],.chk (.s 17),0⟩,⟨13,(some 20),(some (15,false)),[],.fa (.s 19) 0,0⟩,⟨14,(some 21),(some (15,false)),[],.ixa (.s 20) (.s 18) 32 4,0⟩,
 ⟨15,(some 22),(some (15,false)),[],.fa (.s 21) 3,0⟩,⟨16,(some 23),(some (15,false)),[],.ld (.s 22),0⟩,⟨17,(some 24),(some (15,false)),[],.bin .gtr (.s 16) (.s 23),0⟩,
 .i 18 25 (.pick (.s 15) (.c (.bool true)) (.s 24))]
abbrev r101_2 (F:Nums):List Ins:=[.i 0 6 (.mov (.c (.bool false)))]
abbrev r101_3 (F:Nums):List Ins:=[.mv 0 26 0,.mv 1 27 1,.ck 2 28 26,.f 3 29 28 0,.i 4 30 (.ixa (.s 29) (.s 27) 32 4),.f 5 31 30 3,.l 6 32 31,.mv 7 33 2,.b .sub 8 34 32 33,
 .ck 9 35 26,.f 10 36 35 0,.i 11 37 (.ixa (.s 36) (.s 27) 32 4),.f 12 38 37 3,.st 13 38 34]
abbrev r101_4 (F:Nums):List Ins:=[.mv 0 39 0,.mv 1 40 1,.i 2 41 (.call (.c (.fn F.host_sweep [])) [.s 39,.s 40])]
abbrev r101_5 (F:Nums):List Ins:=[.i 0 6 (.mov (.c (.bool true)))]
abbrev c_host_Give (F:Nums):Fn:=⟨3,[.tmp 6],(.seq (.reg [0,1,2] 0 (r101_0 F))
 (.seq (.seq (.reg [0,1,2,25] 0 (r101_1 F))
  (.cond (.s 25)
  (.seq (.reg [6] 0 (r101_2 F))
   .ret)
  .skip))
 (.seq (.reg [0,1] 0 (r101_3 F))
 (.seq (.reg [] 0 (r101_4 F))
 (.seq (.reg [6] 0 (r101_5 F))
 .ret)))))⟩
abbrev r102_0 (F:Nums):List Ins:=[.i 0 3 (.mov (.c (.bool false)))]
abbrev r102_1 (F:Nums):List Ins:=[.mv 0 4 0,.ck 1 5 4,.f 2 6 5 1,.l 3 7 6,.l 4 8 1,.b .eql 5 9 7 8,.mv 6 10 9,⟨7,(some 11),(some (10,true)),[],.mov (.s 0),0⟩,⟨8,(some 12),(some (10,true)),[],.call (.c (.fn F.box_Idle [])) [.s 11],0⟩,
 .i 9 13 (.pick (.s 10) (.s 12) (.c (.bool false))),.mv 10 3 13]
abbrev c_core_free_1 (F:Nums):Fn:=⟨2,[.tmp 3],(.seq (.reg [0,1] 0 (r102_0 F))
 (.seq (.reg [3] 0 (r102_1 F))
 .ret))⟩
abbrev r103_1 (F:Nums):List Ins:=[.mv 0 12 1,.i 1 13 (.bin .lss (.s 12) (.c (.int .i64 0))),.mv 2 11 13]
abbrev r103_2 (F:Nums):List Ins:=[.mv 0 15 1,.i 1 16 (.bin .lss (.s 15) (.c (.int .i64 240))),.mv 2 14 16]
abbrev r103_3 (F:Nums):List Ins:=[.mv 0 17 0,.mv 1 18 1,.ck 2 19 17,.f 3 20 19 0,.i 4 21 (.ixa (.s 20) (.s 18) 240 1),.l 5 22 21,.i 6 23 (.bin .add (.s 22) (.c (.int .i64 1))),
 .ck 7 24 17,.f 8 25 24 0,.i 9 26 (.ixa (.s 25) (.s 18) 240 1),.st 10 26 23]
abbrev r103_4 (F:Nums):List Ins:=[.mv 0 27 0,.ck 1 28 27,.f 2 29 28 240,.l 3 30 29,.i 4 31 (.bin .add (.s 30) (.c (.int .i64 1))),.ck 5 32 27,.f 6 33 32 240,.st 7 33 31]
abbrev r103_0 (F:Nums):List Ins:=[.mv 0 4 0,.ck 1 5 4,.f 2 6 5 241,.l 3 7 6,.i 4 8 (.bin .add (.s 7) (.c (.int .i64 1))),.ck 5 9 4,.f 6 10 9 241,.st 7 10 8]
abbrev r103_5 (F:Nums):List Ins:=[.mv 0 34 0,.ck 1 35 34,.f 2 36 35 240,.l 3 37 36,.mv 4 38 0,.ck 5 39 38,.f 6 40 39 241,.l 7 41 40,.b .add 8 42 37 41,.i 9 43 (.bin .geq (.s 42) (.c (.int .i64 4096)))]
abbrev r103_6 (F:Nums):List Ins:=[.mv 0 44 0,.i 1 45 (.call (.c (.fn F.histo_halve [])) [.s 44])]
abbrev c_histo_Add (F:Nums):Fn:=⟨2,[],(.seq (.blk 0
  (.seq (.reg [0,1,11] 0 (r103_1 F))
   (.cond (.s 11)
   .ret
   (.seq (.reg [0,1,14] 0 (r103_2 F))
    (.cond (.s 14)
    (.seq (.reg [0] 0 (r103_3 F))
     (.reg [0] 0 (r103_4 F)))
    (.reg [0] 0 (r103_0 F)))))))
 (.seq (.reg [0,43] 0 (r103_5 F))
 (.cond (.s 43)
 (.reg [] 0 (r103_6 F))
 .skip)))⟩
abbrev r104_0 (F:Nums):List Ins:=[.mv 0 4 0,.mv 1 5 0,.ck 2 6 5,.f 3 7 6 8,.l 4 8 7,.i 5 9 (.bin .rem (.s 8) (.c (.int .i64 8))),.mv 6 10 1,.ck 7 11 4,.f 8 12 11 0,.i 9 13 (.ixa (.s 12) (.s 9) 8 1),
 .st 10 13 10]
abbrev r104_1 (F:Nums):List Ins:=[.mv 0 14 0,.ck 1 15 14,.f 2 16 15 8,.l 3 17 16,.i 4 18 (.bin .add (.s 17) (.c (.int .i64 1))),.ck 5 19 14,.f 6 20 19 8,.st 7 20 18]
abbrev r104_2 (F:Nums):List Ins:=[.mv 0 21 0,.ck 1 22 21,.f 2 23 22 8,.l 3 24 23,.i 4 25 (.bin .eql (.s 24) (.c (.int .i64 16)))]
abbrev r104_3 (F:Nums):List Ins:=[.mv 0 26 0,.ck 1 27 26,.f 2 28 27 8,.j 3 (.st (.s 28) (.c (.int .i64 8)))]
abbrev c_ring_Push (F:Nums):Fn:=⟨2,[],(.seq (.reg [0] 0 (r104_0 F))
 (.seq (.reg [0] 0 (r104_1 F))
 (.seq (.reg [0,25] 0 (r104_2 F))
 (.cond (.s 25)
 (.reg [] 0 (r104_3 F))
 .skip))))⟩
abbrev r105_0 (F:Nums):List Ins:=[.i 0 3 (.box 0 (.s 1)),.i 1 4 (.mov (.c (.bool false)))]
abbrev r105_1 (F:Nums):List Ins:=[.mv 0 5 0,.ck 1 6 5,.f 2 7 6 0,.l 3 8 7,.i 4 9 (.ldn (.s 3) 2),.i 5 10 (.call (.c (.fn F.theap_Drop [])) [.s 8,.s 9]),.mv 6 4 10]
abbrev c_timer_Drop (F:Nums):Fn:=⟨2,[.tmp 4],(.seq (.reg [0,3] 1 (r105_0 F))
 (.seq (.reg [4] 0 (r105_1 F))
 .ret))⟩
abbrev r106_0 (F:Nums):List Ins:=[.i 0 4 (.mov (.c (.bool false)))]
abbrev r106_1 (F:Nums):List Ins:=[.mv 0 8 0,.mv 1 9 1,.i 2 10 (.call (.c (.fn F.quota_Ask [])) [.s 8,.s 9]),.mv 3 7 10,.e 4 11 7 0,.e 5 12 7 1,.mv 6 5 11,.mv 7 6 12]
abbrev r106_2 (F:Nums):List Ins:=[.mv 0 13 6,.nt 1 14 13,.mv 2 15 14,⟨3,(some 16),(some (15,false)),[],.mov (.s 5),0⟩,⟨4,(some 17),(some (15,false)),[],.bin .neq (.s 16) (.c (.int .i64 0)),0⟩,
 .i 5 18 (.pick (.s 15) (.c (.bool true)) (.s 17))]
abbrev r106_3 (F:Nums):List Ins:=[.i 0 4 (.mov (.c (.bool false)))]
abbrev r106_4 (F:Nums):List Ins:=[.mv 0 19 0,.mv 1 20 1,.ck 2 21 19,.f 3 22 21 32,.i 4 23 (.ixa (.s 22) (.s 20) 64 4),.f 5 24 23 3,.l 6 25 24,.i 7 26 (.bin .add (.s 25) (.c (.int .i64 1))),
 .ck 8 27 19,.f 9 28 27 32,.i 10 29 (.ixa (.s 28) (.s 20) 64 4),.f 11 30 29 3,.st 12 30 26]
abbrev r106_5 (F:Nums):List Ins:=[.i 0 4 (.mov (.c (.bool true)))]
abbrev c_quota_Begin (F:Nums):Fn:=⟨2,[.tmp 4],(.seq (.reg [0,1] 0 (r106_0 F))
 (.seq (.seq (.reg [0,1,5,6] 0 (r106_1 F))
  (.seq (.reg [0,1,18] 0 (r106_2 F))
  (.cond (.s 18)
  (.seq (.reg [4] 0 (r106_3 F))
   .ret)
  .skip)))
 (.seq (.reg [] 0 (r106_4 F))
 (.seq (.reg [4] 0 (r106_5 F))
 .ret))))⟩
abbrev r107_0 (F:Nums):List Ins:=[.i 0 4 (.mov (.c (.bool false)))]
abbrev r107_2 (F:Nums):List Ins:=[.mv 0 6 0,.ck 1 7 6,.f 2 8 7 4,.l 3 9 8,.i 4 10 (.bin .eql (.s 9) (.c (.int .i64 1))),.mv 5 5 10]
abbrev r107_3 (F:Nums):List Ins:=[.mv 0 11 0,.mv 1 12 0,.mv 2 13 1,.ck 3 14 11,.f 4 15 14 4,.j 5 (.st (.s 15) (.c (.int .i64 2))),.ck 6 16 12,.f 7 17 16 7,.st 8 17 13]
abbrev r107_4 (F:Nums):List Ins:=[.mv 0 19 0,.ck 1 20 19,.f 2 21 20 4,.l 3 22 21,.i 4 23 (.bin .eql (.s 22) (.c (.int .i64 0))),.mv 5 24 23,⟨6,(some 25),(some (24,true)),[],.mov (.s 0),0⟩,
 ⟨7,(some 26),(some (24,true)),[],.chk (.s 25),0⟩,⟨8,(some 27),(some (24,true)),[],.fa (.s 26) 5,0⟩,⟨9,(some 28),(some (24,true)),[],.ld (.s 27),0⟩,
 ⟨10,(some 29),(some (24,true)),[],.not (.s 28),0⟩,.i 11 30 (.pick (.s 24) (.s 29) (.c (.bool false))),.mv 12 18 30]
abbrev r107_5 (F:Nums):List Ins:=[.mv 0 31 0,.ck 1 32 31,.f 2 33 32 5,.j 3 (.st (.s 33) (.c (.bool true)))]
abbrev r107_1 (F:Nums):List Ins:=[.i 0 4 (.mov (.c (.bool false)))]
abbrev r107_6 (F:Nums):List Ins:=[.i 0 4 (.mov (.c (.bool true)))]
abbrev c_box_Call (F:Nums):Fn:=⟨2,[.tmp 4],(.seq (.reg [0,1] 0 (r107_0 F))
 (.seq (.blk 0
  (.seq (.reg [0,1,5] 0 (r107_2 F))
   (.cond (.s 5)
   (.reg [] 0 (r107_3 F))
   (.seq (.reg [0,18] 0 (r107_4 F))
    (.cond (.s 18)
    (.reg [] 0 (r107_5 F))
    (.seq (.reg [4] 0 (r107_1 F))
     .ret))))))
 (.seq (.reg [4] 0 (r107_6 F))
 .ret)))⟩
abbrev r108_0 (F:Nums):List Ins:=[.i 0 3 (.mov (.c (.bool false)))]
abbrev r108_1 (F:Nums):List Ins:=[.mv 0 4 0,.ck 1 5 4,.f 2 6 5 2,.l 3 7 6,.l 4 8 1,.b .eql 5 9 7 8,.mv 6 10 9,⟨7,(some 11),(some (10,true)),[],.mov (.s 0),0⟩,⟨8,(some 12),(some (10,true)),[],.call (.c (.fn F.box_Idle [])) [.s 11],0⟩,
 .i 9 13 (.pick (.s 10) (.s 12) (.c (.bool false))),.mv 10 14 13,⟨11,(some 15),(some (14,true)),[],.mov (.s 0),0⟩,⟨12,(some 16),(some (14,true)),[],.chk (.s 15),0⟩,
 ⟨13,(some 17),(some (14,true)),[],.fa (.s 16) 6,0⟩,⟨14,(some 18),(some (14,true)),[],.ld (.s 17),0⟩,⟨15,(some 19),(some (14,true)),[],.not (.s 18),0⟩,
 .i 16 20 (.pick (.s 14) (.s 19) (.c (.bool false))),.mv 17 3 20]
abbrev c_core_room_1 (F:Nums):Fn:=⟨2,[.tmp 3],(.seq (.reg [0,1] 0 (r108_0 F))
 (.seq (.reg [3] 0 (r108_1 F))
 .ret))⟩
abbrev r109_0 (F:Nums):List Ins:=[.i 0 4 (.mov (.c (.nilp)))]
abbrev r109_1 (F:Nums):List Ins:=[.mv 0 5 0,.ck 1 6 5,.f 2 7 6 6,.l 3 8 7,.mv 4 9 1,.i 5 10 (.look 1 (.s 8) (.s 9) (.nilp) false),.i 6 11 (.eq false .p (.s 10) (.c (.nilp)))]
abbrev r109_2 (F:Nums):List Ins:=[.mv 0 12 0,.ck 1 13 12,.f 2 14 13 6,.l 3 15 14,.mv 4 16 1,⟨5,(some 17),none,[(none,15,.ld (.s 14))],.call (.c (.fn F.warm_New [])) [],0⟩,
 .j 6 (.mupd 1 (.s 15) (.s 16) (.s 17))]
abbrev r109_3 (F:Nums):List Ins:=[.mv 0 18 0,.ck 1 19 18,.f 2 20 19 6,.l 3 21 20,.mv 4 22 1,.i 5 23 (.look 1 (.s 21) (.s 22) (.nilp) false),.mv 6 4 23]
abbrev c_core_cache (F:Nums):Fn:=⟨2,[.tmp 4],(.seq (.reg [0,1] 0 (r109_0 F))
 (.seq (.seq (.reg [0,1,11] 0 (r109_1 F))
  (.cond (.s 11)
  (.reg [0,1] 0 (r109_2 F))
  .skip))
 (.seq (.reg [4] 0 (r109_3 F))
 .ret)))⟩
abbrev r110_0 (F:Nums):List Ins:=[.i 0 2 (.mov (.c (.int .i64 0))),.i 1 3 (.mov (.c (.bool false)))]
abbrev r110_1 (F:Nums):List Ins:=[.mv 0 8 0,.ck 1 9 8,.f 2 10 9 0,.l 3 11 10,.i 4 12 (.call (.c (.fn F.wheap_Min [])) [.s 11]),.mv 5 7 12,.e 6 13 7 0,.e 7 14 7 1,.e 8 15 7 2,
 .i 9 5 (.alc 0 [.int .u64 0,.int .u64 0,.int .i64 0]),.mv 10 4 13,.j 11 (.stn (.s 5) (.s 14) 3),.mv 12 6 15]
abbrev r110_2 (F:Nums):List Ins:=[.mv 0 16 6,.nt 1 17 16]
abbrev r110_3 (F:Nums):List Ins:=[.i 0 2 (.mov (.c (.int .i64 0))),.i 1 3 (.mov (.c (.bool false)))]
abbrev r110_4 (F:Nums):List Ins:=[.mv 0 18 0,.ck 1 19 18,.f 2 20 19 0,.l 3 21 20,.mv 4 22 4,.i 5 23 (.call (.c (.fn F.wheap_Drop [])) [.s 21,.s 22])]
abbrev r110_5 (F:Nums):List Ins:=[.mv 0 24 0,.mv 1 25 0,.ck 2 26 25,.f 3 27 26 1,.l 4 28 27,.f 5 29 5 0,.i 6 30 (.ldn (.s 29) 2),⟨7,(some 31),none,[(none,28,.ld (.s 27))],.call (.c (.fn F.ratio_Ratio_Floor [])) [.s 30],0⟩,
 .i 8 32 (.mx [.s 28,.s 31]),.ck 9 33 24,.f 10 34 33 1,.st 11 34 32]
abbrev r110_6 (F:Nums):List Ins:=[.mv 0 35 4,.mv 1 2 35,.i 2 3 (.mov (.c (.bool true)))]
abbrev c_warm_Evict (F:Nums):Fn:=⟨1,[.tmp 2,.tmp 3],(.seq (.reg [0] 0 (r110_0 F))
 (.seq (.reg [0,4,5,6] 1 (r110_1 F))
 (.seq (.seq (.reg [0,4,5,17] 0 (r110_2 F))
  (.cond (.s 17)
  (.seq (.reg [2,3] 0 (r110_3 F))
   .ret)
  .skip))
 (.seq (.reg [0,4,5] 0 (r110_4 F))
 (.seq (.reg [4] 0 (r110_5 F))
 (.seq (.reg [2,3] 0 (r110_6 F))
 .ret))))))⟩
abbrev r111_0 (F:Nums):List Ins:=[.i 0 6 (.mov (.c (.bool false)))]
abbrev r111_1 (F:Nums):List Ins:=[.mv 0 7 0,.mv 1 8 1,.i 2 9 (.call (.c (.fn F.host_Up [])) [.s 7,.s 8]),.nt 3 10 9,.mv 4 11 10,⟨5,(some 12),(some (11,false)),[],.mov (.s 2),0⟩,
 ⟨6,(some 13),(some (11,false)),[],.bin .lss (.s 12) (.c (.int .i64 0)),0⟩,.i 7 14 (.pick (.s 11) (.c (.bool true)) (.s 13)),.mv 8 15 14,
 ⟨9,(some 16),(some (15,false)),[],.mov (.s 2),0⟩,⟨10,(some 17),(some (15,false)),[],.mov (.s 0),0⟩,⟨11,(some 18),(some (15,false)),[],.mov (.s 1),0⟩,
 ⟨12,(some 19),(some (15,false)),[],.call (.c (.fn F.host_Free [])) [.s 17,.s 18],0⟩,⟨13,(some 20),(some (15,false)),[],.bin .gtr (.s 16) (.s 19),0⟩,
 .i 14 21 (.pick (.s 15) (.c (.bool true)) (.s 20))]
abbrev r111_2 (F:Nums):List Ins:=[.i 0 6 (.mov (.c (.bool false)))]
abbrev r111_3 (F:Nums):List Ins:=[.mv 0 22 0,.mv 1 23 1,.ck 2 24 22,.f 3 25 24 0,.i 4 26 (.ixa (.s 25) (.s 23) 32 4),.f 5 27 26 3,.l 6 28 27,.mv 7 29 2,.b .add 8 30 28 29,
 .ck 9 31 22,.f 10 32 31 0,.i 11 33 (.ixa (.s 32) (.s 23) 32 4),.f 12 34 33 3,.st 13 34 30]
abbrev r111_4 (F:Nums):List Ins:=[.i 0 6 (.mov (.c (.bool true)))]
abbrev c_host_Take (F:Nums):Fn:=⟨3,[.tmp 6],(.seq (.reg [0,1,2] 0 (r111_0 F))
 (.seq (.seq (.reg [0,1,2,21] 0 (r111_1 F))
  (.cond (.s 21)
  (.seq (.reg [6] 0 (r111_2 F))
   .ret)
  .skip))
 (.seq (.reg [] 0 (r111_3 F))
 (.seq (.reg [6] 0 (r111_4 F))
 .ret))))⟩
abbrev r112_0 (F:Nums):List Ins:=[.i 0 10 (.mov (.c (.nilp)))]
abbrev r112_1 (F:Nums):List Ins:=[.mv 0 11 0,.mv 1 12 1,.mv 2 13 2,.mv 3 14 3,.mv 4 15 4,.i 5 16 (.bld [.int .i64 0,.int .i64 0,.int .i64 0,.int .i64 0,.int .i64 0,.bool false,.bool false,.int .i64 0] [(0,1,.s 11),(1,1,.s 12),(2,1,.s 13),(3,1,.s 14),(7,1,.s 15)]),
 .i 6 17 (.box 0 (.s 16)),.mv 7 10 17]
abbrev c_box_New (F:Nums):Fn:=⟨5,[.tmp 10],(.seq (.reg [0,1,2,3,4] 0 (r112_0 F))
 (.seq (.reg [10] 1 (r112_1 F))
 .ret))⟩
abbrev r113_0 (F:Nums):List Ins:=[.i 0 10 (.mov (.c (.bool false)))]
abbrev r113_1 (F:Nums):List Ins:=[.mv 0 14 0,.ck 1 15 14,.f 2 16 15 1,.l 3 17 16,.mv 4 18 2,.mv 5 19 3,.b .mul 6 20 18 19,.mv 7 21 4,.i 8 22 (.call (.c (.fn F.ratio_Above [])) [.s 17,.s 20,.s 21]),
 .mv 9 13 22,.e 10 23 13 0,.e 11 24 13 1,.i 12 11 (.alc 0 [.int .u64 0,.int .u64 0]),.j 13 (.stn (.s 11) (.s 23) 2),.mv 14 12 24]
abbrev r113_2 (F:Nums):List Ins:=[.mv 0 25 12]
abbrev r113_3 (F:Nums):List Ins:=[.mv 0 26 0,.ck 1 27 26,.f 2 28 27 0,.l 3 29 28,.mv 4 30 1,.i 5 31 (.ldn (.s 11) 2),.mv 6 32 1,.i 7 33 (.bld [.int .u64 0,.int .u64 0,.int .i64 0] [(0,2,.s 31),(2,1,.s 32)]),
 .i 8 34 (.call (.c (.fn F.wheap_Set [])) [.s 29,.s 30,.s 33])]
abbrev r113_4 (F:Nums):List Ins:=[.mv 0 35 12,.mv 1 10 35]
abbrev c_warm_Set (F:Nums):Fn:=⟨5,[.tmp 10],(.seq (.reg [0,1,2,3,4] 0 (r113_0 F))
 (.seq (.reg [0,1,11,12] 1 (r113_1 F))
 (.seq (.seq (.reg [0,1,11,12,25] 0 (r113_2 F))
  (.cond (.s 25)
  (.reg [12] 0 (r113_3 F))
  .skip))
 (.seq (.reg [10] 0 (r113_4 F))
 .ret))))⟩
abbrev r114_0 (F:Nums):List Ins:=[.i 0 4 (.box 0 (.s 1)),.i 1 5 (.box 1 (.s 2))]
abbrev r114_1 (F:Nums):List Ins:=[.mv 0 9 0,.ck 1 10 9,.f 2 11 10 2,.l 3 12 11,.i 4 13 (.ldn (.s 4) 2),.i 5 14 (.look 2 (.s 12) (.s 13) (.int .i64 0) true),.mv 6 8 14,.e 7 15 8 0,
 .e 8 16 8 1,.mv 9 6 15,.mv 10 7 16]
abbrev r114_2 (F:Nums):List Ins:=[.mv 0 17 7,.nt 1 18 17]
abbrev r114_3 (F:Nums):List Ins:=[.mv 0 19 0,.ck 1 20 19,.f 2 21 20 1,.l 3 22 21,.i 4 23 (.len (.s 22)),.mv 5 6 23]
abbrev r114_4 (F:Nums):List Ins:=[.mv 0 24 0,.mv 1 25 0,.ck 2 26 25,.f 3 27 26 1,.l 4 28 27,.i 5 29 (.ldn (.s 4) 2),.i 6 30 (.bld [.int .i64 0,.int .i64 0,.int .i64 0,.int .i64 0,.int .i64 0] [(0,2,.s 29)]),
 .i 7 31 (.bsl 0 [.int .i64 0,.int .i64 0,.int .i64 0,.int .i64 0,.int .i64 0] [(0,5,.s 30)] 1 5),.i 8 32 (.app 1 (.s 28) (.s 31) 5),.ck 9 33 24,
 .f 10 34 33 1,.st 11 34 32]
abbrev r114_5 (F:Nums):List Ins:=[.mv 0 35 0,.ck 1 36 35,.f 2 37 36 2,.l 3 38 37,.i 4 39 (.ldn (.s 4) 2),.mv 5 40 6,.j 6 (.mupd 2 (.s 38) (.s 39) (.s 40))]
abbrev r114_6 (F:Nums):List Ins:=[.mv 0 41 0,.ck 1 42 41,.f 2 43 42 1,.l 3 44 43,.mv 4 45 6,.i 5 46 (.ldn (.s 5) 3),.x 6 47 44 45 5,.f 7 48 47 2,.j 8 (.stn (.s 48) (.s 46) 3)]
abbrev r114_7 (F:Nums):List Ins:=[.mv 0 49 0,.mv 1 50 6,.i 2 51 (.call (.c (.fn F.theap_fix [])) [.s 49,.s 50])]
abbrev c_theap_Set (F:Nums):Fn:=⟨3,[],(.seq (.reg [0,4,5] 2 (r114_0 F))
 (.seq (.reg [0,4,5,6,7] 0 (r114_1 F))
 (.seq (.seq (.reg [0,4,5,6,18] 0 (r114_2 F))
  (.cond (.s 18)
  (.seq (.reg [0,4,5,6] 0 (r114_3 F))
   (.seq (.reg [0,4,5,6] 2 (r114_4 F))
   (.reg [0,5,6] 0 (r114_5 F))))
  .skip))
 (.seq (.reg [0,6] 0 (r114_6 F))
 (.reg [] 0 (r114_7 F))))))⟩
abbrev r115_0 (F:Nums):List Ins:=[.i 0 2 (.mov (.c (.bool false)))]
abbrev r115_1 (F:Nums):List Ins:=[.mv 0 3 0,.mv 1 4 0,.b .neq 2 5 3 4,.mv 3 2 5]
abbrev c_cmp_isNaN_int64 (F:Nums):Fn:=⟨1,[.tmp 2],(.seq (.reg [0] 0 (r115_0 F))
 (.seq (.reg [2] 0 (r115_1 F))
 .ret))⟩
abbrev r116_0 (F:Nums):List Ins:=[.i 0 2 (.mov (.c (.bool false)))]
abbrev r116_1 (F:Nums):List Ins:=[.mv 0 3 0,.mv 1 4 0,.b .neq 2 5 3 4,.mv 3 2 5]
abbrev c_cmp_isNaN (F:Nums):Fn:=⟨1,[.tmp 2],(.seq (.reg [0] 0 (r116_0 F))
 (.seq (.reg [2] 0 (r116_1 F))
 .ret))⟩
abbrev r117_0 (F:Nums):List Ins:=[.i 0 2 (.mov (.c (.int .i64 0)))]
abbrev r117_1 (F:Nums):List Ins:=[.mv 0 3 0,.ck 1 4 3,.f 2 5 4 240,.l 3 6 5,.mv 4 2 6]
abbrev c_histo_In (F:Nums):Fn:=⟨1,[.tmp 2],(.seq (.reg [0] 0 (r117_0 F))
 (.seq (.reg [2] 0 (r117_1 F))
 .ret))⟩
abbrev r118_0 (F:Nums):List Ins:=[.i 0 2 (.mov (.c (.int .i64 0)))]
abbrev r118_1 (F:Nums):List Ins:=[.mv 0 3 0,.ck 1 4 3,.f 2 5 4 241,.l 3 6 5,.mv 4 2 6]
abbrev c_histo_Over (F:Nums):Fn:=⟨1,[.tmp 2],(.seq (.reg [0] 0 (r118_0 F))
 (.seq (.reg [2] 0 (r118_1 F))
 .ret))⟩
abbrev r119_0 (F:Nums):List Ins:=[.i 0 0 (.alc 0 [.int .i64 0,.int .i64 0,.int .i64 0])]
abbrev r119_1 (F:Nums):List Ins:=[.i 0 1 (.bld [.int .i64 0,.int .i64 0,.int .i64 0] [(0,1,.c (.int .i64 0)),(1,1,.c (.int .i64 0)),(2,1,.c (.int .i64 10))]),.j 1 (.stn (.s 0) (.s 1) 3)]
abbrev c_policy_fixed (F:Nums):Fn:=⟨0,[.cells 0 3],(.seq (.reg [0] 1 (r119_0 F))
 (.seq (.reg [0] 0 (r119_1 F))
 .ret))⟩
abbrev r120_0 (F:Nums):List Ins:=[.i 0 2 (.alc 0 [.int .i64 0,.int .i64 0,.int .i64 0])]
abbrev r120_1 (F:Nums):List Ins:=[.mv 0 4 0,.i 1 5 (.call (.c (.fn F.num_Frac [])) [.s 4,.c (.int .i64 85),.c (.int .i64 100)]),.mv 2 3 5]
abbrev r120_2 (F:Nums):List Ins:=[.mv 0 6 3,.mv 1 7 0,.i 2 8 (.call (.c (.fn F.num_FracUp [])) [.s 7,.c (.int .i64 115),.c (.int .i64 100)]),.mv 3 9 3,.i 4 10 (.bin .add (.s 9) (.c (.int .i64 1))),
 .i 5 11 (.mx [.s 8,.s 10]),.i 6 12 (.bld [.int .i64 0,.int .i64 0,.int .i64 0] [(0,1,.c (.int .i64 2)),(1,1,.s 6),(2,1,.s 11)]),
 .j 7 (.stn (.s 2) (.s 12) 3)]
abbrev c_policy_ahead (F:Nums):Fn:=⟨1,[.cells 2 3],(.seq (.reg [0,2] 1 (r120_0 F))
 (.seq (.reg [0,2,3] 0 (r120_1 F))
 (.seq (.reg [2] 0 (r120_2 F))
 .ret)))⟩
abbrev r121_0 (F:Nums):List Ins:=[.i 0 2 (.mov (.c (.int .i64 0)))]
abbrev r121_1 (F:Nums):List Ins:=[.mv 0 14 0,.i 1 15 (.len (.s 14)),.i 2 16 (.bin .gtr (.s 15) (.c (.int .i64 8)))]
abbrev r121_2 (F:Nums):List Ins:=[.mv 0 17 0,.mv 1 18 0,.i 2 19 (.len (.s 18)),.i 3 20 (.bin .sub (.s 19) (.c (.int .i64 8))),.i 4 21 (.slc (.s 17) (some (.s 20)) none 1),
 .mv 5 0 21]
abbrev r121_3 (F:Nums):List Ins:=[.mv 0 22 0,.i 1 23 (.len (.s 22)),.mv 2 3 23]
abbrev r121_4 (F:Nums):List Ins:=[.i 0 4 (.mov (.c (.int .i64 0))),.i 1 5 (.mov (.c (.int .i64 0))),.i 2 6 (.mov (.c (.int .i64 0))),.i 3 7 (.mov (.c (.int .i64 0)))]
abbrev r121_5 (F:Nums):List Ins:=[.mv 0 24 0,.i 1 25 (.len (.s 24)),.i 2 26 (.mov (.c (.int .i64 0)))]
abbrev r121_6 (F:Nums):List Ins:=[.b .lss 0 27 26 25]
abbrev r121_7 (F:Nums):List Ins:=[.mv 0 28 26,.x 1 29 24 26 1,.l 2 30 29,.mv 3 8 28,.mv 4 9 30]
abbrev r121_8 (F:Nums):List Ins:=[.mv 0 31 8,.mv 1 10 31]
abbrev r121_9 (F:Nums):List Ins:=[.mv 0 32 9,.i 1 33 (.call (.c (.fn F.num_Clamp [])) [.s 32,.c (.int .i64 0),.c (.int .i64 1099511627776)]),.mv 2 9 33]
abbrev r121_10 (F:Nums):List Ins:=[.mv 0 34 4,.mv 1 35 10,.b .add 2 36 34 35,.mv 3 37 5,.mv 4 38 9,.b .add 5 39 37 38,.mv 6 40 6,.mv 7 41 10,.mv 8 42 10,.b .mul 9 43 41 42,
 .b .add 10 44 40 43,.mv 11 45 7,.mv 12 46 10,.mv 13 47 9,.b .mul 14 48 46 47,.b .add 15 49 45 48,.mv 16 4 36,.mv 17 5 39,.mv 18 6 44,
 .mv 19 7 49]
abbrev r121_11 (F:Nums):List Ins:=[.i 0 50 (.bin .add (.s 26) (.c (.int .i64 1))),.mv 1 26 50]
abbrev r121_12 (F:Nums):List Ins:=[.mv 0 51 3]
abbrev r121_13 (F:Nums):List Ins:=[.i 0 53 (.bin .eql (.s 51) (.c (.int .i64 0))),.mv 1 52 53]
abbrev r121_14 (F:Nums):List Ins:=[.i 0 2 (.mov (.c (.int .i64 0)))]
abbrev r121_15 (F:Nums):List Ins:=[.i 0 55 (.bin .eql (.s 51) (.c (.int .i64 1))),.mv 1 54 55]
abbrev r121_16 (F:Nums):List Ins:=[.mv 0 56 5,.mv 1 2 56]
abbrev r121_17 (F:Nums):List Ins:=[.mv 0 57 3,.mv 1 58 6,.b .mul 2 59 57 58,.mv 3 60 4,.mv 4 61 4,.b .mul 5 62 60 61,.b .sub 6 63 59 62,.mv 7 11 63]
abbrev r121_18 (F:Nums):List Ins:=[.mv 0 64 5,.mv 1 65 11,.b .mul 2 66 64 65,.mv 3 67 3,.mv 4 68 7,.b .mul 5 69 67 68,.mv 6 70 4,.mv 7 71 5,.b .mul 8 72 70 71,.b .sub 9 73 69 72,
 .mv 10 74 3,.mv 11 75 3,.b .mul 12 76 74 75,.mv 13 77 4,.b .sub 14 78 76 77,.b .mul 15 79 73 78,.b .add 16 80 66 79,.mv 17 81 3,.mv 18 82 11,
 .b .mul 19 83 81 82,.mv 20 12 80,.mv 21 13 83]
abbrev r121_19 (F:Nums):List Ins:=[.mv 0 84 12,.i 1 85 (.bin .lss (.s 84) (.c (.int .i64 0)))]
abbrev r121_20 (F:Nums):List Ins:=[.i 0 2 (.mov (.c (.int .i64 0)))]
abbrev r121_21 (F:Nums):List Ins:=[.mv 0 86 12,.mv 1 87 13,.b .quo 2 88 86 87,.i 3 89 (.call (.c (.fn F.num_Clamp [])) [.s 88,.c (.int .i64 0),.c (.int .i64 1099511627776)]),
 .mv 4 2 89]
abbrev c_cast_Next (F:Nums):Fn:=⟨1,[.tmp 2],(.seq (.reg [0] 0 (r121_0 F))
 (.seq (.seq (.reg [0,16] 0 (r121_1 F))
  (.cond (.s 16)
  (.reg [0] 0 (r121_2 F))
  .skip))
 (.seq (.reg [0,3] 0 (r121_3 F))
 (.seq (.reg [0,3,4,5,6,7] 0 (r121_4 F))
 (.seq (.seq (.reg [3,4,5,6,7,24,25,26] 0 (r121_5 F))
  (.blk 0
  (.loop
   (.seq (.reg [3,4,5,6,7,24,25,26,27] 0 (r121_6 F))
    (.seq (.cond (.s 27)
     .skip
     (.exit 0))
    (.seq (.blk 1
     (.seq (.reg [3,4,5,6,7,8,9,24,25,26] 0 (r121_7 F))
      (.seq (.reg [3,4,5,6,7,9,10,24,25,26] 0 (r121_8 F))
      (.seq (.reg [3,4,5,6,7,9,10,24,25,26] 0 (r121_9 F))
      (.reg [3,4,5,6,7,24,25,26] 0 (r121_10 F))))))
    (.reg [3,4,5,6,7,24,25,26] 0 (r121_11 F))))))))
 (.seq (.seq (.reg [3,4,5,6,7,51] 0 (r121_12 F))
  (.blk 2
  (.seq (.reg [3,4,5,6,7,51,52] 0 (r121_13 F))
   (.cond (.s 52)
   (.seq (.reg [2] 0 (r121_14 F))
    .ret)
   (.seq (.reg [3,4,5,6,7,54] 0 (r121_15 F))
    (.cond (.s 54)
    (.seq (.reg [2] 0 (r121_16 F))
     .ret)
    .skip))))))
 (.seq (.reg [3,4,5,7,11] 0 (r121_17 F))
 (.seq (.reg [12,13] 0 (r121_18 F))
 (.seq (.seq (.reg [12,13,85] 0 (r121_19 F))
  (.cond (.s 85)
  (.seq (.reg [2] 0 (r121_20 F))
   .ret)
  .skip))
 (.seq (.reg [2] 0 (r121_21 F))
 .ret))))))))))⟩
abbrev r122_0 (F:Nums):List Ins:=[.i 0 2 (.mov (.c (.nils)))]
abbrev r122_1 (F:Nums):List Ins:=[.i 0 3 (.mov (.c (.nils)))]
abbrev r122_2 (F:Nums):List Ins:=[.mv 0 5 0,.ck 1 6 5,.f 2 7 6 8,.l 3 8 7,.mv 4 9 0,⟨5,(some 10),none,[(none,8,.ld (.s 7))],.call (.c (.fn F.ring_Len [])) [.s 9],0⟩,
 .b .sub 6 11 8 10,.mv 7 4 11]
abbrev r122_3 (F:Nums):List Ins:=[.mv 0 12 4,.mv 1 13 0,.ck 2 14 13,.f 3 15 14 8,.l 4 16 15,.b .lss 5 17 12 16]
abbrev r122_5 (F:Nums):List Ins:=[.mv 0 20 3,.mv 1 21 0,.mv 2 22 4,.i 3 23 (.bin .rem (.s 22) (.c (.int .i64 8))),.ck 4 24 21,.f 5 25 24 0,.i 6 26 (.ixa (.s 25) (.s 23) 8 1),
 .l 7 27 26,.i 8 28 (.bsl 0 [.int .i64 0] [(0,1,.s 27)] 1 1),.i 9 29 (.app 1 (.s 20) (.s 28) 1),.mv 10 3 29]
abbrev r122_4 (F:Nums):List Ins:=[.mv 0 18 4,.i 1 19 (.bin .add (.s 18) (.c (.int .i64 1))),.mv 2 4 19]
abbrev r122_6 (F:Nums):List Ins:=[.mv 0 30 3,.mv 1 2 30]
abbrev c_ring_List (F:Nums):Fn:=⟨1,[.tmp 2],(.seq (.reg [0] 0 (r122_0 F))
 (.seq (.reg [0,3] 0 (r122_1 F))
 (.seq (.seq (.reg [0,3,4] 0 (r122_2 F))
  (.blk 0
  (.loop
   (.seq (.seq (.reg [0,3,4,17] 0 (r122_3 F))
     (.cond (.s 17)
     .skip
     (.exit 0)))
    (.seq (.blk 1
     (.reg [0,3,4] 2 (r122_5 F)))
    (.reg [0,3,4] 0 (r122_4 F)))))))
 (.seq (.reg [2] 0 (r122_6 F))
 .ret))))⟩
abbrev r123_0 (F:Nums):List Ins:=[.i 0 2 (.mov (.c (.bool false)))]
abbrev r123_1 (F:Nums):List Ins:=[.i 0 3 (.mov (.c (.int .i64 0)))]
abbrev r123_2 (F:Nums):List Ins:=[.mv 0 6 0,.ck 1 7 6,.f 2 8 7 0,.i 3 9 (.ldn (.s 8) 240),.i 4 10 (.mov (.c (.int .i64 0)))]
abbrev r123_3 (F:Nums):List Ins:=[.i 0 11 (.bin .lss (.s 10) (.c (.int .i64 240)))]
abbrev r123_4 (F:Nums):List Ins:=[.i 0 12 (.idx (.s 9) (.s 10) 240),.mv 1 5 12]
abbrev r123_5 (F:Nums):List Ins:=[.mv 0 13 3,.mv 1 14 5,.mv 2 15 5,.b .mul 3 16 14 15,.b .add 4 17 13 16,.mv 5 3 17]
abbrev r123_6 (F:Nums):List Ins:=[.i 0 18 (.bin .add (.s 10) (.c (.int .i64 1))),.mv 1 10 18]
abbrev r123_7 (F:Nums):List Ins:=[.mv 0 19 0,.ck 1 20 19,.f 2 21 20 240,.l 3 22 21,.i 4 23 (.bin .gtr (.s 22) (.c (.int .i64 0))),.mv 5 24 23,⟨6,(some 25),(some (24,true)),[],.mov (.s 3),0⟩,
 ⟨7,(some 26),(some (24,true)),[],.bin .mul (.c (.int .i64 240)) (.s 25),0⟩,⟨8,(some 27),(some (24,true)),[],.mov (.s 0),0⟩,⟨9,(some 28),(some (24,true)),[],.chk (.s 27),0⟩,
 ⟨10,(some 29),(some (24,true)),[],.fa (.s 28) 240,0⟩,⟨11,(some 30),(some (24,true)),[],.ld (.s 29),0⟩,⟨12,(some 31),(some (24,true)),[],.bin .mul (.c (.int .i64 5)) (.s 30),0⟩,
 ⟨13,(some 32),(some (24,true)),[],.mov (.s 0),0⟩,⟨14,(some 33),(some (24,true)),[],.chk (.s 32),0⟩,⟨15,(some 34),(some (24,true)),[],.fa (.s 33) 240,0⟩,
 ⟨16,(some 35),(some (24,true)),[],.ld (.s 34),0⟩,⟨17,(some 36),(some (24,true)),[],.bin .mul (.s 31) (.s 35),0⟩,⟨18,(some 37),(some (24,true)),[],.bin .geq (.s 26) (.s 36),0⟩,
 .i 19 38 (.pick (.s 24) (.s 37) (.c (.bool false))),.mv 20 2 38]
abbrev c_histo_Spread (F:Nums):Fn:=⟨1,[.tmp 2],(.seq (.reg [0] 0 (r123_0 F))
 (.seq (.reg [0,3] 0 (r123_1 F))
 (.seq (.seq (.reg [0,3,9,10] 0 (r123_2 F))
  (.blk 0
  (.loop
   (.seq (.reg [0,3,9,10,11] 0 (r123_3 F))
    (.seq (.cond (.s 11)
     .skip
     (.exit 0))
    (.seq (.blk 1
     (.seq (.reg [0,3,5,9,10] 0 (r123_4 F))
      (.reg [0,3,9,10] 0 (r123_5 F))))
    (.reg [0,3,9,10] 0 (r123_6 F))))))))
 (.seq (.reg [2] 0 (r123_7 F))
 .ret))))⟩
abbrev r124_0 (F:Nums):List Ins:=[.i 0 4 (.mov (.c (.int .i64 0))),.i 1 5 (.mov (.c (.bool false)))]
abbrev r124_1 (F:Nums):List Ins:=[.mv 0 9 0,.ck 1 10 9,.f 2 11 10 240,.l 3 12 11,.i 4 13 (.bin .eql (.s 12) (.c (.int .i64 0)))]
abbrev r124_2 (F:Nums):List Ins:=[.i 0 4 (.mov (.c (.int .i64 0))),.i 1 5 (.mov (.c (.bool false)))]
abbrev r124_3 (F:Nums):List Ins:=[.mv 0 14 1,.i 1 15 (.mn [.s 14,.c (.int .i64 100)]),.i 2 16 (.mx [.c (.int .i64 0),.s 15]),.mv 3 1 16]
abbrev r124_4 (F:Nums):List Ins:=[.i 0 6 (.mov (.c (.int .i64 0)))]
abbrev r124_5 (F:Nums):List Ins:=[.mv 0 17 0,.ck 1 18 17,.f 2 19 18 0,.i 3 20 (.ldn (.s 19) 240),.i 4 21 (.mov (.c (.int .i64 0)))]
abbrev r124_6 (F:Nums):List Ins:=[.i 0 22 (.bin .lss (.s 21) (.c (.int .i64 240)))]
abbrev r124_7 (F:Nums):List Ins:=[.mv 0 23 21,.i 1 24 (.idx (.s 20) (.s 21) 240),.mv 2 7 23,.mv 3 8 24]
abbrev r124_8 (F:Nums):List Ins:=[.mv 0 25 6,.mv 1 26 8,.b .add 2 27 25 26,.mv 3 6 27]
abbrev r124_9 (F:Nums):List Ins:=[.mv 0 28 6,.i 1 29 (.bin .gtr (.s 28) (.c (.int .i64 0))),.mv 2 30 29,⟨3,(some 31),(some (30,true)),[],.mov (.s 6),0⟩,⟨4,(some 32),(some (30,true)),[],.bin .mul (.s 31) (.c (.int .i64 100)),0⟩,
 ⟨5,(some 33),(some (30,true)),[],.mov (.s 1),0⟩,⟨6,(some 34),(some (30,true)),[],.mov (.s 0),0⟩,⟨7,(some 35),(some (30,true)),[],.chk (.s 34),0⟩,
 ⟨8,(some 36),(some (30,true)),[],.fa (.s 35) 240,0⟩,⟨9,(some 37),(some (30,true)),[],.ld (.s 36),0⟩,⟨10,(some 38),(some (30,true)),[],.bin .mul (.s 33) (.s 37),0⟩,
 ⟨11,(some 39),(some (30,true)),[],.bin .geq (.s 32) (.s 38),0⟩,.i 12 40 (.pick (.s 30) (.s 39) (.c (.bool false)))]
abbrev r124_10 (F:Nums):List Ins:=[.mv 0 41 7,.mv 1 4 41,.i 2 5 (.mov (.c (.bool true)))]
abbrev r124_11 (F:Nums):List Ins:=[.i 0 42 (.bin .add (.s 21) (.c (.int .i64 1))),.mv 1 21 42]
abbrev r124_12 (F:Nums):List Ins:=[.i 0 4 (.mov (.c (.int .i64 239))),.i 1 5 (.mov (.c (.bool true)))]
abbrev c_histo_Cut (F:Nums):Fn:=⟨2,[.tmp 4,.tmp 5],(.seq (.reg [0,1] 0 (r124_0 F))
 (.seq (.seq (.reg [0,1,13] 0 (r124_1 F))
  (.cond (.s 13)
  (.seq (.reg [4,5] 0 (r124_2 F))
   .ret)
  .skip))
 (.seq (.reg [0,1] 0 (r124_3 F))
 (.seq (.reg [0,1,6] 0 (r124_4 F))
 (.seq (.seq (.reg [0,1,6,20,21] 0 (r124_5 F))
  (.blk 0
  (.loop
   (.seq (.reg [0,1,6,20,21,22] 0 (r124_6 F))
    (.seq (.cond (.s 22)
     .skip
     (.exit 0))
    (.seq (.blk 1
     (.seq (.reg [0,1,6,7,8,20,21] 0 (r124_7 F))
      (.seq (.reg [0,1,6,7,20,21] 0 (r124_8 F))
      (.seq (.reg [0,1,6,7,20,21,40] 0 (r124_9 F))
      (.cond (.s 40)
      (.seq (.reg [4,5] 0 (r124_10 F))
       .ret)
      .skip)))))
    (.reg [0,1,6,20,21] 0 (r124_11 F))))))))
 (.seq (.reg [4,5] 0 (r124_12 F))
 .ret))))))⟩
abbrev r125_0 (F:Nums):List Ins:=[.i 0 6 (.mov (.c (.int .i64 0)))]
abbrev r125_1 (F:Nums):List Ins:=[.mv 0 10 0,.mv 1 11 1,.mv 2 12 2,.i 3 13 (.call (.c (.fn F.num_part [])) [.s 10,.s 11,.s 12]),.mv 4 9 13,.e 5 14 9 0,.e 6 15 9 1,.mv 7 7 14,
 .mv 8 8 15]
abbrev r125_2 (F:Nums):List Ins:=[.mv 0 16 7,.mv 1 6 16]
abbrev c_num_Frac (F:Nums):Fn:=⟨3,[.tmp 6],(.seq (.reg [0,1,2] 0 (r125_0 F))
 (.seq (.reg [7] 0 (r125_1 F))
 (.seq (.reg [6] 0 (r125_2 F))
 .ret)))⟩
abbrev r126_0 (F:Nums):List Ins:=[.i 0 6 (.mov (.c (.int .i64 0)))]
abbrev r126_1 (F:Nums):List Ins:=[.mv 0 10 0,.mv 1 11 1,.mv 2 12 2,.i 3 13 (.call (.c (.fn F.num_part [])) [.s 10,.s 11,.s 12]),.mv 4 9 13,.e 5 14 9 0,.e 6 15 9 1,.mv 7 7 14,
 .mv 8 8 15]
abbrev r126_2 (F:Nums):List Ins:=[.mv 0 16 8,.i 1 17 (.bin .gtr (.s 16) (.c (.int .u64 0)))]
abbrev r126_3 (F:Nums):List Ins:=[.mv 0 18 7,.i 1 19 (.call (.c (.fn F.num_Add [])) [.s 18,.c (.int .i64 1)]),.mv 2 6 19]
abbrev r126_4 (F:Nums):List Ins:=[.mv 0 20 7,.mv 1 6 20]
abbrev c_num_FracUp (F:Nums):Fn:=⟨3,[.tmp 6],(.seq (.reg [0,1,2] 0 (r126_0 F))
 (.seq (.reg [7,8] 0 (r126_1 F))
 (.seq (.seq (.reg [7,17] 0 (r126_2 F))
  (.cond (.s 17)
  (.seq (.reg [6] 0 (r126_3 F))
   .ret)
  .skip))
 (.seq (.reg [6] 0 (r126_4 F))
 .ret))))⟩
abbrev r127_0 (F:Nums):List Ins:=[.mv 0 8 1,.i 1 9 (.bin .add (.s 8) (.c (.int .i64 1))),.mv 2 6 9]
abbrev r127_1 (F:Nums):List Ins:=[.mv 0 10 6,.mv 1 11 2,.b .lss 2 12 10 11]
abbrev r127_3 (F:Nums):List Ins:=[.mv 0 15 6,.mv 1 7 15]
abbrev r127_4 (F:Nums):List Ins:=[.mv 0 16 7,.mv 1 17 1,.b .gtr 2 18 16 17,.mv 3 19 18,⟨4,(some 20),(some (19,true)),[],.mov (.s 0),0⟩,⟨5,(some 21),(some (19,true)),[],.mov (.s 7),0⟩,
 ⟨6,(some 22),(some (19,true)),[],.ix (.s 20) (.s 21) 1,0⟩,⟨7,(some 23),(some (19,true)),[],.ld (.s 22),0⟩,⟨8,(some 24),(some (19,true)),[],.mov (.s 0),0⟩,
 ⟨9,(some 25),(some (19,true)),[],.mov (.s 7),0⟩,⟨10,(some 26),(some (19,true)),[],.bin .sub (.s 25) (.c (.int .i64 1)),0⟩,⟨11,(some 27),(some (19,true)),[],.ix (.s 24) (.s 26) 1,0⟩,
 ⟨12,(some 28),(some (19,true)),[],.ld (.s 27),0⟩,⟨13,(some 29),(some (19,true)),[],.call (.c (.fn F.cmp_Less [])) [.s 23,.s 28],0⟩,
 .i 14 30 (.pick (.s 19) (.s 29) (.c (.bool false)))]
abbrev r127_6 (F:Nums):List Ins:=[.mv 0 33 0,.mv 1 34 7,.mv 2 35 0,.mv 3 36 7,.i 4 37 (.bin .sub (.s 36) (.c (.int .i64 1))),.mv 5 38 0,.mv 6 39 7,.i 7 40 (.bin .sub (.s 39) (.c (.int .i64 1))),
 .x 8 41 38 40 1,.l 9 42 41,.mv 10 43 0,.mv 11 44 7,.x 12 45 43 44 1,.l 13 46 45,.x 14 47 33 34 1,.st 15 47 42,.x 16 48 35 37 1,.st 17 48 46]
abbrev r127_5 (F:Nums):List Ins:=[.mv 0 31 7,.i 1 32 (.bin .sub (.s 31) (.c (.int .i64 1))),.mv 2 7 32]
abbrev r127_2 (F:Nums):List Ins:=[.mv 0 13 6,.i 1 14 (.bin .add (.s 13) (.c (.int .i64 1))),.mv 2 6 14]
abbrev c_slices_insertionSortOrdered (F:Nums):Fn:=⟨3,[],(.seq (.reg [0,1,2,6] 0 (r127_0 F))
 (.blk 0
 (.loop
  (.seq (.seq (.reg [0,1,2,6,12] 0 (r127_1 F))
    (.cond (.s 12)
    .skip
    (.exit 0)))
   (.seq (.blk 1
    (.seq (.reg [0,1,2,6,7] 0 (r127_3 F))
     (.blk 2
     (.loop
      (.seq (.seq (.reg [0,1,2,6,7,30] 0 (r127_4 F))
        (.cond (.s 30)
        .skip
        (.exit 2)))
       (.seq (.blk 3
        (.reg [0,1,2,6,7] 0 (r127_6 F)))
       (.reg [0,1,2,6,7] 0 (r127_5 F))))))))
   (.reg [0,1,2,6] 0 (r127_2 F)))))))⟩
abbrev r128_0 (F:Nums):List Ins:=[.mv 0 11 1,.mv 1 6 11]
abbrev r128_1 (F:Nums):List Ins:=[.i 0 7 (.mov (.c (.int .i64 0)))]
abbrev r128_2 (F:Nums):List Ins:=[.mv 0 12 2,.mv 1 13 1,.b .sub 2 14 12 13,.mv 3 8 14]
abbrev r128_3 (F:Nums):List Ins:=[.mv 0 15 8,.i 1 16 (.bin .sub (.s 15) (.c (.int .i64 1))),.i 2 17 (.bin .quo (.s 16) (.c (.int .i64 2))),.mv 3 9 17]
abbrev r128_4 (F:Nums):List Ins:=[.mv 0 18 9,.i 1 19 (.bin .geq (.s 18) (.c (.int .i64 0)))]
abbrev r128_6 (F:Nums):List Ins:=[.mv 0 22 0,.mv 1 23 9,.mv 2 24 8,.mv 3 25 6,.i 4 26 (.call (.c (.fn F.slices_siftDownOrdered [])) [.s 22,.s 23,.s 24,.s 25])]
abbrev r128_5 (F:Nums):List Ins:=[.mv 0 20 9,.i 1 21 (.bin .sub (.s 20) (.c (.int .i64 1))),.mv 2 9 21]
abbrev r128_7 (F:Nums):List Ins:=[.mv 0 27 8,.i 1 28 (.bin .sub (.s 27) (.c (.int .i64 1))),.mv 2 10 28]
abbrev r128_8 (F:Nums):List Ins:=[.mv 0 29 10,.i 1 30 (.bin .geq (.s 29) (.c (.int .i64 0)))]
abbrev r128_10 (F:Nums):List Ins:=[.mv 0 33 0,.mv 1 34 6,.mv 2 35 0,.mv 3 36 6,.mv 4 37 10,.b .add 5 38 36 37,.mv 6 39 0,.mv 7 40 6,.mv 8 41 10,.b .add 9 42 40 41,.x 10 43 39 42 1,
 .l 11 44 43,.mv 12 45 0,.mv 13 46 6,.x 14 47 45 46 1,.l 15 48 47,.x 16 49 33 34 1,.st 17 49 44,.x 18 50 35 38 1,.st 19 50 48]
abbrev r128_11 (F:Nums):List Ins:=[.mv 0 51 0,.mv 1 52 7,.mv 2 53 10,.mv 3 54 6,.i 4 55 (.call (.c (.fn F.slices_siftDownOrdered [])) [.s 51,.s 52,.s 53,.s 54])]
abbrev r128_9 (F:Nums):List Ins:=[.mv 0 31 10,.i 1 32 (.bin .sub (.s 31) (.c (.int .i64 1))),.mv 2 10 32]
abbrev c_slices_heapSortOrdered (F:Nums):Fn:=⟨3,[],(.seq (.reg [0,1,2,6] 0 (r128_0 F))
 (.seq (.reg [0,1,2,6,7] 0 (r128_1 F))
 (.seq (.reg [0,6,7,8] 0 (r128_2 F))
 (.seq (.seq (.reg [0,6,7,8,9] 0 (r128_3 F))
  (.blk 0
  (.loop
   (.seq (.seq (.reg [0,6,7,8,9,19] 0 (r128_4 F))
     (.cond (.s 19)
     .skip
     (.exit 0)))
    (.seq (.blk 1
     (.reg [0,6,7,8,9] 0 (r128_6 F)))
    (.reg [0,6,7,8,9] 0 (r128_5 F)))))))
 (.seq (.reg [0,6,7,10] 0 (r128_7 F))
 (.blk 2
 (.loop
  (.seq (.seq (.reg [0,6,7,10,30] 0 (r128_8 F))
    (.cond (.s 30)
    .skip
    (.exit 2)))
   (.seq (.blk 3
    (.seq (.reg [0,6,7,10] 0 (r128_10 F))
     (.reg [0,6,7,10] 0 (r128_11 F))))
   (.reg [0,6,7,10] 0 (r128_9 F)))))))))))⟩
abbrev r129_0 (F:Nums):List Ins:=[.mv 0 11 2,.mv 1 12 1,.b .sub 2 13 11 12,.mv 3 6 13]
abbrev r129_1 (F:Nums):List Ins:=[.mv 0 14 6,.i 1 15 (.bin .geq (.s 14) (.c (.int .i64 8)))]
abbrev r129_2 (F:Nums):List Ins:=[.mv 0 16 6,.i 1 17 (.conv .u64 (.s 16)),.i 2 7 (.alc 0 [.int .u64 0]),.st 3 7 17]
abbrev r129_3 (F:Nums):List Ins:=[.mv 0 18 6,.i 1 19 (.call (.c (.fn F.slices_nextPowerOfTwo [])) [.s 18]),.mv 2 8 19]
abbrev r129_4 (F:Nums):List Ins:=[.mv 0 20 1,.mv 1 21 6,.i 2 22 (.bin .quo (.s 21) (.c (.int .i64 4))),.i 3 23 (.bin .mul (.s 22) (.c (.int .i64 2))),.b .add 4 24 20 23,.i 5 25 (.bin .sub (.s 24) (.c (.int .i64 1))),
 .mv 6 9 25]
abbrev r129_5 (F:Nums):List Ins:=[.mv 0 26 9,.mv 1 27 1,.mv 2 28 6,.i 3 29 (.bin .quo (.s 28) (.c (.int .i64 4))),.i 4 30 (.bin .mul (.s 29) (.c (.int .i64 2))),.b .add 5 31 27 30,
 .i 6 32 (.bin .add (.s 31) (.c (.int .i64 1))),.b .leq 7 33 26 32]
abbrev r129_7 (F:Nums):List Ins:=[.i 0 36 (.call (.c (.fn F.slices_xorshift_Next [])) [.s 7]),.mv 1 37 8,.i 2 38 (.bin .sub (.s 37) (.c (.int .u64 1))),.b .and 3 39 36 38,
 .i 4 40 (.conv .i64 (.s 39)),.mv 5 10 40]
abbrev r129_8 (F:Nums):List Ins:=[.mv 0 41 10,.mv 1 42 6,.b .geq 2 43 41 42]
abbrev r129_9 (F:Nums):List Ins:=[.mv 0 44 10,.mv 1 45 6,.b .sub 2 46 44 45,.mv 3 10 46]
abbrev r129_10 (F:Nums):List Ins:=[.mv 0 47 0,.mv 1 48 9,.mv 2 49 0,.mv 3 50 1,.mv 4 51 10,.b .add 5 52 50 51,.mv 6 53 0,.mv 7 54 1,.mv 8 55 10,.b .add 9 56 54 55,.x 10 57 53 56 1,
 .l 11 58 57,.mv 12 59 0,.mv 13 60 9,.x 14 61 59 60 1,.l 15 62 61,.x 16 63 47 48 1,.st 17 63 58,.x 18 64 49 52 1,.st 19 64 62]
abbrev r129_6 (F:Nums):List Ins:=[.mv 0 34 9,.i 1 35 (.bin .add (.s 34) (.c (.int .i64 1))),.mv 2 9 35]
abbrev c_slices_breakPatternsOrdered (F:Nums):Fn:=⟨3,[],(.seq (.reg [0,1,6] 0 (r129_0 F))
 (.seq (.reg [0,1,6,15] 0 (r129_1 F))
 (.cond (.s 15)
 (.seq (.reg [0,1,6,7] 1 (r129_2 F))
  (.seq (.reg [0,1,6,7,8] 0 (r129_3 F))
  (.seq (.reg [0,1,6,7,8,9] 0 (r129_4 F))
  (.blk 0
  (.loop
   (.seq (.seq (.reg [0,1,6,7,8,9,33] 0 (r129_5 F))
     (.cond (.s 33)
     .skip
     (.exit 0)))
    (.seq (.blk 1
     (.seq (.reg [0,1,6,7,8,9,10] 0 (r129_7 F))
      (.seq (.seq (.reg [0,1,6,7,8,9,10,43] 0 (r129_8 F))
       (.cond (.s 43)
       (.reg [0,1,6,7,8,9,10] 0 (r129_9 F))
       .skip))
      (.reg [0,1,6,7,8,9] 0 (r129_10 F)))))
    (.reg [0,1,6,7,8,9] 0 (r129_6 F)))))))))
 .skip)))⟩
abbrev r130_0 (F:Nums):List Ins:=[.i 0 6 (.mov (.c (.int .i64 0))),.i 1 7 (.mov (.c (.int .i64 0)))]
abbrev r130_1 (F:Nums):List Ins:=[.mv 0 13 2,.mv 1 14 1,.b .sub 2 15 13 14,.mv 3 8 15]
abbrev r130_2 (F:Nums):List Ins:=[.i 0 9 (.alc 0 [.int .i64 0])]
abbrev r130_3 (F:Nums):List Ins:=[.mv 0 16 1,.mv 1 17 8,.i 2 18 (.bin .quo (.s 17) (.c (.int .i64 4))),.i 3 19 (.bin .mul (.s 18) (.c (.int .i64 1))),.b .add 4 20 16 19,.mv 5 10 20]
abbrev r130_4 (F:Nums):List Ins:=[.mv 0 21 1,.mv 1 22 8,.i 2 23 (.bin .quo (.s 22) (.c (.int .i64 4))),.i 3 24 (.bin .mul (.s 23) (.c (.int .i64 2))),.b .add 4 25 21 24,.mv 5 11 25]
abbrev r130_5 (F:Nums):List Ins:=[.mv 0 26 1,.mv 1 27 8,.i 2 28 (.bin .quo (.s 27) (.c (.int .i64 4))),.i 3 29 (.bin .mul (.s 28) (.c (.int .i64 3))),.b .add 4 30 26 29,.mv 5 12 30]
abbrev r130_6 (F:Nums):List Ins:=[.mv 0 31 8,.i 1 32 (.bin .geq (.s 31) (.c (.int .i64 8)))]
abbrev r130_7 (F:Nums):List Ins:=[.mv 0 33 8,.i 1 34 (.bin .geq (.s 33) (.c (.int .i64 50)))]
abbrev r130_8 (F:Nums):List Ins:=[.mv 0 35 0,.mv 1 36 10,.i 2 37 (.call (.c (.fn F.slices_medianAdjacentOrdered [])) [.s 35,.s 36,.s 9]),.mv 3 10 37]
abbrev r130_9 (F:Nums):List Ins:=[.mv 0 38 0,.mv 1 39 11,.i 2 40 (.call (.c (.fn F.slices_medianAdjacentOrdered [])) [.s 38,.s 39,.s 9]),.mv 3 11 40]
abbrev r130_10 (F:Nums):List Ins:=[.mv 0 41 0,.mv 1 42 12,.i 2 43 (.call (.c (.fn F.slices_medianAdjacentOrdered [])) [.s 41,.s 42,.s 9]),.mv 3 12 43]
abbrev r130_11 (F:Nums):List Ins:=[.mv 0 44 0,.mv 1 45 10,.mv 2 46 11,.mv 3 47 12,.i 4 48 (.call (.c (.fn F.slices_medianOrdered [])) [.s 44,.s 45,.s 46,.s 47,.s 9]),.mv 5 11 48]
abbrev r130_12 (F:Nums):List Ins:=[.l 0 49 9]
abbrev r130_14 (F:Nums):List Ins:=[.i 0 52 (.bin .eql (.s 49) (.c (.int .i64 0))),.mv 1 51 52]
abbrev r130_15 (F:Nums):List Ins:=[.mv 0 53 11,.mv 1 6 53,.i 2 7 (.mov (.c (.int .i64 1)))]
abbrev r130_16 (F:Nums):List Ins:=[.i 0 55 (.bin .eql (.s 49) (.c (.int .i64 12))),.mv 1 54 55]
abbrev r130_17 (F:Nums):List Ins:=[.mv 0 56 11,.mv 1 6 56,.i 2 7 (.mov (.c (.int .i64 2)))]
abbrev r130_13 (F:Nums):List Ins:=[.mv 0 50 11,.mv 1 6 50,.i 2 7 (.mov (.c (.int .i64 0)))]
abbrev c_slices_choosePivotOrdered (F:Nums):Fn:=⟨3,[.tmp 6,.tmp 7],(.seq (.reg [0,1,2] 0 (r130_0 F))
 (.seq (.reg [0,1,8] 0 (r130_1 F))
 (.seq (.reg [0,1,8,9] 1 (r130_2 F))
 (.seq (.reg [0,1,8,9,10] 0 (r130_3 F))
 (.seq (.reg [0,1,8,9,10,11] 0 (r130_4 F))
 (.seq (.reg [0,8,9,10,11,12] 0 (r130_5 F))
 (.seq (.seq (.reg [0,8,9,10,11,12,32] 0 (r130_6 F))
  (.cond (.s 32)
  (.seq (.seq (.reg [0,9,10,11,12,34] 0 (r130_7 F))
    (.cond (.s 34)
    (.seq (.reg [0,9,10,11,12] 0 (r130_8 F))
     (.seq (.reg [0,9,10,11,12] 0 (r130_9 F))
     (.reg [0,9,10,11,12] 0 (r130_10 F))))
    .skip))
   (.reg [9,11] 0 (r130_11 F)))
  .skip))
 (.seq (.reg [11,49] 0 (r130_12 F))
 (.blk 0
 (.seq (.reg [11,49,51] 0 (r130_14 F))
  (.cond (.s 51)
  (.seq (.reg [6,7] 0 (r130_15 F))
   .ret)
  (.seq (.reg [11,54] 0 (r130_16 F))
   (.cond (.s 54)
   (.seq (.reg [6,7] 0 (r130_17 F))
    .ret)
   (.seq (.reg [6,7] 0 (r130_13 F))
    .ret))))))))))))))⟩
abbrev r131_0 (F:Nums):List Ins:=[.mv 0 8 1,.mv 1 6 8]
abbrev r131_1 (F:Nums):List Ins:=[.mv 0 9 2,.i 1 10 (.bin .sub (.s 9) (.c (.int .i64 1))),.mv 2 7 10]
abbrev r131_2 (F:Nums):List Ins:=[.mv 0 11 6,.mv 1 12 7,.b .lss 2 13 11 12]
abbrev r131_3 (F:Nums):List Ins:=[.mv 0 14 0,.mv 1 15 6,.mv 2 16 0,.mv 3 17 7,.mv 4 18 0,.mv 5 19 7,.x 6 20 18 19 1,.l 7 21 20,.mv 8 22 0,.mv 9 23 6,.x 10 24 22 23 1,
 .l 11 25 24,.x 12 26 14 15 1,.st 13 26 21,.x 14 27 16 17 1,.st 15 27 25]
abbrev r131_4 (F:Nums):List Ins:=[.mv 0 28 6,.i 1 29 (.bin .add (.s 28) (.c (.int .i64 1))),.mv 2 6 29]
abbrev r131_5 (F:Nums):List Ins:=[.mv 0 30 7,.i 1 31 (.bin .sub (.s 30) (.c (.int .i64 1))),.mv 2 7 31]
abbrev c_slices_reverseRangeOrdered (F:Nums):Fn:=⟨3,[],(.seq (.reg [0,2,6] 0 (r131_0 F))
 (.seq (.reg [0,6,7] 0 (r131_1 F))
 (.blk 0
 (.loop
  (.seq (.seq (.reg [0,6,7,13] 0 (r131_2 F))
    (.cond (.s 13)
    .skip
    (.exit 0)))
   (.blk 1
   (.seq (.reg [0,6,7] 0 (r131_3 F))
    (.seq (.reg [0,6,7] 0 (r131_4 F))
    (.reg [0,6,7] 0 (r131_5 F))))))))))⟩
abbrev r132_0 (F:Nums):List Ins:=[.i 0 6 (.mov (.c (.bool false)))]
abbrev r132_1 (F:Nums):List Ins:=[.mv 0 11 1,.i 1 12 (.bin .add (.s 11) (.c (.int .i64 1))),.mv 2 7 12]
abbrev r132_2 (F:Nums):List Ins:=[.i 0 8 (.mov (.c (.int .i64 0)))]
abbrev r132_3 (F:Nums):List Ins:=[.mv 0 13 8,.i 1 14 (.bin .lss (.s 13) (.c (.int .i64 5)))]
abbrev r132_5 (F:Nums):List Ins:=[.mv 0 17 7,.mv 1 18 2,.b .lss 2 19 17 18,.mv 3 20 19,⟨4,(some 21),(some (20,true)),[],.mov (.s 0),0⟩,⟨5,(some 22),(some (20,true)),[],.mov (.s 7),0⟩,
 ⟨6,(some 23),(some (20,true)),[],.ix (.s 21) (.s 22) 1,0⟩,⟨7,(some 24),(some (20,true)),[],.ld (.s 23),0⟩,⟨8,(some 25),(some (20,true)),[],.mov (.s 0),0⟩,
 ⟨9,(some 26),(some (20,true)),[],.mov (.s 7),0⟩,⟨10,(some 27),(some (20,true)),[],.bin .sub (.s 26) (.c (.int .i64 1)),0⟩,⟨11,(some 28),(some (20,true)),[],.ix (.s 25) (.s 27) 1,0⟩,
 ⟨12,(some 29),(some (20,true)),[],.ld (.s 28),0⟩,⟨13,(some 30),(some (20,true)),[],.call (.c (.fn F.cmp_Less [])) [.s 24,.s 29],0⟩,
 ⟨14,(some 31),(some (20,true)),[],.not (.s 30),0⟩,.i 15 32 (.pick (.s 20) (.s 31) (.c (.bool false)))]
abbrev r132_6 (F:Nums):List Ins:=[.mv 0 33 7,.i 1 34 (.bin .add (.s 33) (.c (.int .i64 1))),.mv 2 7 34]
abbrev r132_7 (F:Nums):List Ins:=[.mv 0 35 7,.mv 1 36 2,.b .eql 2 37 35 36]
abbrev r132_8 (F:Nums):List Ins:=[.i 0 6 (.mov (.c (.bool true)))]
abbrev r132_9 (F:Nums):List Ins:=[.mv 0 38 2,.mv 1 39 1,.b .sub 2 40 38 39,.i 3 41 (.bin .lss (.s 40) (.c (.int .i64 50)))]
abbrev r132_10 (F:Nums):List Ins:=[.i 0 6 (.mov (.c (.bool false)))]
abbrev r132_11 (F:Nums):List Ins:=[.mv 0 42 0,.mv 1 43 7,.mv 2 44 0,.mv 3 45 7,.i 4 46 (.bin .sub (.s 45) (.c (.int .i64 1))),.mv 5 47 0,.mv 6 48 7,.i 7 49 (.bin .sub (.s 48) (.c (.int .i64 1))),
 .x 8 50 47 49 1,.l 9 51 50,.mv 10 52 0,.mv 11 53 7,.x 12 54 52 53 1,.l 13 55 54,.x 14 56 42 43 1,.st 15 56 51,.x 16 57 44 46 1,.st 17 57 55]
abbrev r132_12 (F:Nums):List Ins:=[.mv 0 58 7,.mv 1 59 1,.b .sub 2 60 58 59,.i 3 61 (.bin .geq (.s 60) (.c (.int .i64 2)))]
abbrev r132_13 (F:Nums):List Ins:=[.mv 0 62 7,.i 1 63 (.bin .sub (.s 62) (.c (.int .i64 1))),.mv 2 9 63]
abbrev r132_14 (F:Nums):List Ins:=[.mv 0 64 9,.i 1 65 (.bin .geq (.s 64) (.c (.int .i64 1)))]
abbrev r132_16 (F:Nums):List Ins:=[.mv 0 68 0,.mv 1 69 9,.x 2 70 68 69 1,.l 3 71 70,.mv 4 72 0,.mv 5 73 9,.i 6 74 (.bin .sub (.s 73) (.c (.int .i64 1))),.x 7 75 72 74 1,
 .l 8 76 75,.i 9 77 (.call (.c (.fn F.cmp_Less [])) [.s 71,.s 76]),.nt 10 78 77]
abbrev r132_17 (F:Nums):List Ins:=[.mv 0 79 0,.mv 1 80 9,.mv 2 81 0,.mv 3 82 9,.i 4 83 (.bin .sub (.s 82) (.c (.int .i64 1))),.mv 5 84 0,.mv 6 85 9,.i 7 86 (.bin .sub (.s 85) (.c (.int .i64 1))),
 .x 8 87 84 86 1,.l 9 88 87,.mv 10 89 0,.mv 11 90 9,.x 12 91 89 90 1,.l 13 92 91,.x 14 93 79 80 1,.st 15 93 88,.x 16 94 81 83 1,.st 17 94 92]
abbrev r132_15 (F:Nums):List Ins:=[.mv 0 66 9,.i 1 67 (.bin .sub (.s 66) (.c (.int .i64 1))),.mv 2 9 67]
abbrev r132_18 (F:Nums):List Ins:=[.mv 0 95 2,.mv 1 96 7,.b .sub 2 97 95 96,.i 3 98 (.bin .geq (.s 97) (.c (.int .i64 2)))]
abbrev r132_19 (F:Nums):List Ins:=[.mv 0 99 7,.i 1 100 (.bin .add (.s 99) (.c (.int .i64 1))),.mv 2 10 100]
abbrev r132_20 (F:Nums):List Ins:=[.mv 0 101 10,.mv 1 102 2,.b .lss 2 103 101 102]
abbrev r132_22 (F:Nums):List Ins:=[.mv 0 106 0,.mv 1 107 10,.x 2 108 106 107 1,.l 3 109 108,.mv 4 110 0,.mv 5 111 10,.i 6 112 (.bin .sub (.s 111) (.c (.int .i64 1))),.x 7 113 110 112 1,
 .l 8 114 113,.i 9 115 (.call (.c (.fn F.cmp_Less [])) [.s 109,.s 114]),.nt 10 116 115]
abbrev r132_23 (F:Nums):List Ins:=[.mv 0 117 0,.mv 1 118 10,.mv 2 119 0,.mv 3 120 10,.i 4 121 (.bin .sub (.s 120) (.c (.int .i64 1))),.mv 5 122 0,.mv 6 123 10,.i 7 124 (.bin .sub (.s 123) (.c (.int .i64 1))),
 .x 8 125 122 124 1,.l 9 126 125,.mv 10 127 0,.mv 11 128 10,.x 12 129 127 128 1,.l 13 130 129,.x 14 131 117 118 1,.st 15 131 126,.x 16 132 119 121 1,
 .st 17 132 130]
abbrev r132_21 (F:Nums):List Ins:=[.mv 0 104 10,.i 1 105 (.bin .add (.s 104) (.c (.int .i64 1))),.mv 2 10 105]
abbrev r132_4 (F:Nums):List Ins:=[.mv 0 15 8,.i 1 16 (.bin .add (.s 15) (.c (.int .i64 1))),.mv 2 8 16]
abbrev r132_24 (F:Nums):List Ins:=[.i 0 6 (.mov (.c (.bool false)))]
abbrev c_slices_partialInsertionSortOrdered (F:Nums):Fn:=⟨3,[.tmp 6],(.seq (.reg [0,1,2] 0 (r132_0 F))
 (.seq (.reg [0,1,2,7] 0 (r132_1 F))
 (.seq (.seq (.reg [0,1,2,7,8] 0 (r132_2 F))
  (.blk 0
  (.loop
   (.seq (.seq (.reg [0,1,2,7,8,14] 0 (r132_3 F))
     (.cond (.s 14)
     .skip
     (.exit 0)))
    (.seq (.blk 1
     (.seq (.blk 2
       (.loop
        (.seq (.seq (.reg [0,1,2,7,8,32] 0 (r132_5 F))
          (.cond (.s 32)
          .skip
          (.exit 2)))
         (.blk 3
         (.reg [0,1,2,7,8] 0 (r132_6 F))))))
      (.seq (.seq (.reg [0,1,2,7,8,37] 0 (r132_7 F))
       (.cond (.s 37)
       (.seq (.reg [6] 0 (r132_8 F))
        .ret)
       .skip))
      (.seq (.seq (.reg [0,1,2,7,8,41] 0 (r132_9 F))
       (.cond (.s 41)
       (.seq (.reg [6] 0 (r132_10 F))
        .ret)
       .skip))
      (.seq (.reg [0,1,2,7,8] 0 (r132_11 F))
      (.seq (.seq (.reg [0,1,2,7,8,61] 0 (r132_12 F))
       (.cond (.s 61)
       (.seq (.reg [0,1,2,7,8,9] 0 (r132_13 F))
        (.blk 4
        (.loop
         (.seq (.seq (.reg [0,1,2,7,8,9,65] 0 (r132_14 F))
           (.cond (.s 65)
           .skip
           (.exit 4)))
          (.seq (.blk 5
           (.seq (.seq (.reg [0,1,2,7,8,9,78] 0 (r132_16 F))
             (.cond (.s 78)
             (.exit 4)
             .skip))
            (.reg [0,1,2,7,8,9] 0 (r132_17 F))))
          (.reg [0,1,2,7,8,9] 0 (r132_15 F)))))))
       .skip))
      (.seq (.reg [0,1,2,7,8,98] 0 (r132_18 F))
      (.cond (.s 98)
      (.seq (.reg [0,1,2,7,8,10] 0 (r132_19 F))
       (.blk 6
       (.loop
        (.seq (.seq (.reg [0,1,2,7,8,10,103] 0 (r132_20 F))
          (.cond (.s 103)
          .skip
          (.exit 6)))
         (.seq (.blk 7
          (.seq (.seq (.reg [0,1,2,7,8,10,116] 0 (r132_22 F))
            (.cond (.s 116)
            (.exit 6)
            .skip))
           (.reg [0,1,2,7,8,10] 0 (r132_23 F))))
         (.reg [0,1,2,7,8,10] 0 (r132_21 F)))))))
      .skip))))))))
    (.reg [0,1,2,7,8] 0 (r132_4 F)))))))
 (.seq (.reg [6] 0 (r132_24 F))
 .ret))))⟩
abbrev r133_0 (F:Nums):List Ins:=[.i 0 4 (.mov (.c (.bool false)))]
abbrev r133_1 (F:Nums):List Ins:=[.mv 0 5 0,.i 1 6 (.call (.c (.fn F.cmp_isNaN [])) [.s 5]),.mv 2 7 6,⟨3,(some 8),(some (7,true)),[],.mov (.s 1),0⟩,⟨4,(some 9),(some (7,true)),[],.call (.c (.fn F.cmp_isNaN [])) [.s 8],0⟩,
 ⟨5,(some 10),(some (7,true)),[],.not (.s 9),0⟩,.i 6 11 (.pick (.s 7) (.s 10) (.c (.bool false))),.mv 7 12 11,⟨8,(some 13),(some (12,false)),[],.mov (.s 0),0⟩,
 ⟨9,(some 14),(some (12,false)),[],.mov (.s 1),0⟩,⟨10,(some 15),(some (12,false)),[],.bin .lss (.s 13) (.s 14),0⟩,.i 11 16 (.pick (.s 12) (.c (.bool true)) (.s 15)),
 .mv 12 4 16]
abbrev c_cmp_Less (F:Nums):Fn:=⟨2,[.tmp 4],(.seq (.reg [0,1] 0 (r133_0 F))
 (.seq (.reg [4] 0 (r133_1 F))
 .ret))⟩
abbrev r134_0 (F:Nums):List Ins:=[.i 0 8 (.mov (.c (.int .i64 0)))]
abbrev r134_1 (F:Nums):List Ins:=[.mv 0 11 0,.mv 1 12 1,.mv 2 13 0,.mv 3 14 3,.mv 4 15 0,.mv 5 16 3,.x 6 17 15 16 1,.l 7 18 17,.mv 8 19 0,.mv 9 20 1,.x 10 21 19 20 1,
 .l 11 22 21,.x 12 23 11 12 1,.st 13 23 18,.x 14 24 13 14 1,.st 15 24 22]
abbrev r134_2 (F:Nums):List Ins:=[.mv 0 25 1,.i 1 26 (.bin .add (.s 25) (.c (.int .i64 1))),.mv 2 27 2,.i 3 28 (.bin .sub (.s 27) (.c (.int .i64 1))),.mv 4 9 26,.mv 5 10 28]
abbrev r134_3 (F:Nums):List Ins:=[.mv 0 29 9,.mv 1 30 10,.b .leq 2 31 29 30,.mv 3 32 31,⟨4,(some 33),(some (32,true)),[],.mov (.s 0),0⟩,⟨5,(some 34),(some (32,true)),[],.mov (.s 1),0⟩,
 ⟨6,(some 35),(some (32,true)),[],.ix (.s 33) (.s 34) 1,0⟩,⟨7,(some 36),(some (32,true)),[],.ld (.s 35),0⟩,⟨8,(some 37),(some (32,true)),[],.mov (.s 0),0⟩,
 ⟨9,(some 38),(some (32,true)),[],.mov (.s 9),0⟩,⟨10,(some 39),(some (32,true)),[],.ix (.s 37) (.s 38) 1,0⟩,⟨11,(some 40),(some (32,true)),[],.ld (.s 39),0⟩,
 ⟨12,(some 41),(some (32,true)),[],.call (.c (.fn F.cmp_Less [])) [.s 36,.s 40],0⟩,⟨13,(some 42),(some (32,true)),[],.not (.s 41),0⟩,
 .i 14 43 (.pick (.s 32) (.s 42) (.c (.bool false)))]
abbrev r134_4 (F:Nums):List Ins:=[.mv 0 44 9,.i 1 45 (.bin .add (.s 44) (.c (.int .i64 1))),.mv 2 9 45]
abbrev r134_5 (F:Nums):List Ins:=[.mv 0 46 9,.mv 1 47 10,.b .leq 2 48 46 47,.mv 3 49 48,⟨4,(some 50),(some (49,true)),[],.mov (.s 0),0⟩,⟨5,(some 51),(some (49,true)),[],.mov (.s 1),0⟩,
 ⟨6,(some 52),(some (49,true)),[],.ix (.s 50) (.s 51) 1,0⟩,⟨7,(some 53),(some (49,true)),[],.ld (.s 52),0⟩,⟨8,(some 54),(some (49,true)),[],.mov (.s 0),0⟩,
 ⟨9,(some 55),(some (49,true)),[],.mov (.s 10),0⟩,⟨10,(some 56),(some (49,true)),[],.ix (.s 54) (.s 55) 1,0⟩,⟨11,(some 57),(some (49,true)),[],.ld (.s 56),0⟩,
 ⟨12,(some 58),(some (49,true)),[],.call (.c (.fn F.cmp_Less [])) [.s 53,.s 57],0⟩,.i 13 59 (.pick (.s 49) (.s 58) (.c (.bool false)))]
abbrev r134_6 (F:Nums):List Ins:=[.mv 0 60 10,.i 1 61 (.bin .sub (.s 60) (.c (.int .i64 1))),.mv 2 10 61]
abbrev r134_7 (F:Nums):List Ins:=[.mv 0 62 9,.mv 1 63 10,.b .gtr 2 64 62 63]
abbrev r134_8 (F:Nums):List Ins:=[.mv 0 65 0,.mv 1 66 9,.mv 2 67 0,.mv 3 68 10,.mv 4 69 0,.mv 5 70 10,.x 6 71 69 70 1,.l 7 72 71,.mv 8 73 0,.mv 9 74 9,.x 10 75 73 74 1,
 .l 11 76 75,.x 12 77 65 66 1,.st 13 77 72,.x 14 78 67 68 1,.st 15 78 76]
abbrev r134_9 (F:Nums):List Ins:=[.mv 0 79 9,.i 1 80 (.bin .add (.s 79) (.c (.int .i64 1))),.mv 2 9 80]
abbrev r134_10 (F:Nums):List Ins:=[.mv 0 81 10,.i 1 82 (.bin .sub (.s 81) (.c (.int .i64 1))),.mv 2 10 82]
abbrev r134_11 (F:Nums):List Ins:=[.mv 0 83 9,.mv 1 8 83]
abbrev c_slices_partitionEqualOrdered (F:Nums):Fn:=⟨4,[.tmp 8],(.seq (.reg [0,1,2,3] 0 (r134_0 F))
 (.seq (.reg [0,1,2] 0 (r134_1 F))
 (.seq (.reg [0,1,9,10] 0 (r134_2 F))
 (.seq (.blk 0
  (.loop
   (.blk 1
    (.seq (.blk 2
      (.loop
       (.seq (.seq (.reg [0,1,9,10,43] 0 (r134_3 F))
         (.cond (.s 43)
         .skip
         (.exit 2)))
        (.blk 3
        (.reg [0,1,9,10] 0 (r134_4 F))))))
     (.seq (.blk 4
      (.loop
       (.seq (.seq (.reg [0,1,9,10,59] 0 (r134_5 F))
         (.cond (.s 59)
         .skip
         (.exit 4)))
        (.blk 5
        (.reg [0,1,9,10] 0 (r134_6 F))))))
     (.seq (.seq (.reg [0,1,9,10,64] 0 (r134_7 F))
      (.cond (.s 64)
      (.exit 0)
      .skip))
     (.seq (.reg [0,1,9,10] 0 (r134_8 F))
     (.seq (.reg [0,1,9,10] 0 (r134_9 F))
     (.reg [0,1,9,10] 0 (r134_10 F))))))))))
 (.seq (.reg [8] 0 (r134_11 F))
 .ret)))))⟩
abbrev r135_0 (F:Nums):List Ins:=[.i 0 8 (.mov (.c (.int .i64 0))),.i 1 9 (.mov (.c (.bool false)))]
abbrev r135_1 (F:Nums):List Ins:=[.mv 0 12 0,.mv 1 13 1,.mv 2 14 0,.mv 3 15 3,.mv 4 16 0,.mv 5 17 3,.x 6 18 16 17 1,.l 7 19 18,.mv 8 20 0,.mv 9 21 1,.x 10 22 20 21 1,
 .l 11 23 22,.x 12 24 12 13 1,.st 13 24 19,.x 14 25 14 15 1,.st 15 25 23]
abbrev r135_2 (F:Nums):List Ins:=[.mv 0 26 1,.i 1 27 (.bin .add (.s 26) (.c (.int .i64 1))),.mv 2 28 2,.i 3 29 (.bin .sub (.s 28) (.c (.int .i64 1))),.mv 4 10 27,.mv 5 11 29]
abbrev r135_3 (F:Nums):List Ins:=[.mv 0 30 10,.mv 1 31 11,.b .leq 2 32 30 31,.mv 3 33 32,⟨4,(some 34),(some (33,true)),[],.mov (.s 0),0⟩,⟨5,(some 35),(some (33,true)),[],.mov (.s 10),0⟩,
 ⟨6,(some 36),(some (33,true)),[],.ix (.s 34) (.s 35) 1,0⟩,⟨7,(some 37),(some (33,true)),[],.ld (.s 36),0⟩,⟨8,(some 38),(some (33,true)),[],.mov (.s 0),0⟩,
 ⟨9,(some 39),(some (33,true)),[],.mov (.s 1),0⟩,⟨10,(some 40),(some (33,true)),[],.ix (.s 38) (.s 39) 1,0⟩,⟨11,(some 41),(some (33,true)),[],.ld (.s 40),0⟩,
 ⟨12,(some 42),(some (33,true)),[],.call (.c (.fn F.cmp_Less [])) [.s 37,.s 41],0⟩,.i 13 43 (.pick (.s 33) (.s 42) (.c (.bool false)))]
abbrev r135_4 (F:Nums):List Ins:=[.mv 0 44 10,.i 1 45 (.bin .add (.s 44) (.c (.int .i64 1))),.mv 2 10 45]
abbrev r135_5 (F:Nums):List Ins:=[.mv 0 46 10,.mv 1 47 11,.b .leq 2 48 46 47,.mv 3 49 48,⟨4,(some 50),(some (49,true)),[],.mov (.s 0),0⟩,⟨5,(some 51),(some (49,true)),[],.mov (.s 11),0⟩,
 ⟨6,(some 52),(some (49,true)),[],.ix (.s 50) (.s 51) 1,0⟩,⟨7,(some 53),(some (49,true)),[],.ld (.s 52),0⟩,⟨8,(some 54),(some (49,true)),[],.mov (.s 0),0⟩,
 ⟨9,(some 55),(some (49,true)),[],.mov (.s 1),0⟩,⟨10,(some 56),(some (49,true)),[],.ix (.s 54) (.s 55) 1,0⟩,⟨11,(some 57),(some (49,true)),[],.ld (.s 56),0⟩,
 ⟨12,(some 58),(some (49,true)),[],.call (.c (.fn F.cmp_Less [])) [.s 53,.s 57],0⟩,⟨13,(some 59),(some (49,true)),[],.not (.s 58),0⟩,
 .i 14 60 (.pick (.s 49) (.s 59) (.c (.bool false)))]
abbrev r135_6 (F:Nums):List Ins:=[.mv 0 61 11,.i 1 62 (.bin .sub (.s 61) (.c (.int .i64 1))),.mv 2 11 62]
abbrev r135_7 (F:Nums):List Ins:=[.mv 0 63 10,.mv 1 64 11,.b .gtr 2 65 63 64]
abbrev r135_8 (F:Nums):List Ins:=[.mv 0 66 0,.mv 1 67 11,.mv 2 68 0,.mv 3 69 1,.mv 4 70 0,.mv 5 71 1,.x 6 72 70 71 1,.l 7 73 72,.mv 8 74 0,.mv 9 75 11,.x 10 76 74 75 1,
 .l 11 77 76,.x 12 78 66 67 1,.st 13 78 73,.x 14 79 68 69 1,.st 15 79 77]
abbrev r135_9 (F:Nums):List Ins:=[.mv 0 80 11,.mv 1 8 80,.i 2 9 (.mov (.c (.bool true)))]
abbrev r135_10 (F:Nums):List Ins:=[.mv 0 81 0,.mv 1 82 10,.mv 2 83 0,.mv 3 84 11,.mv 4 85 0,.mv 5 86 11,.x 6 87 85 86 1,.l 7 88 87,.mv 8 89 0,.mv 9 90 10,.x 10 91 89 90 1,
 .l 11 92 91,.x 12 93 81 82 1,.st 13 93 88,.x 14 94 83 84 1,.st 15 94 92]
abbrev r135_11 (F:Nums):List Ins:=[.mv 0 95 10,.i 1 96 (.bin .add (.s 95) (.c (.int .i64 1))),.mv 2 10 96]
abbrev r135_12 (F:Nums):List Ins:=[.mv 0 97 11,.i 1 98 (.bin .sub (.s 97) (.c (.int .i64 1))),.mv 2 11 98]
abbrev r135_13 (F:Nums):List Ins:=[.mv 0 99 10,.mv 1 100 11,.b .leq 2 101 99 100,.mv 3 102 101,⟨4,(some 103),(some (102,true)),[],.mov (.s 0),0⟩,⟨5,(some 104),(some (102,true)),[],.mov (.s 10),0⟩,
 ⟨6,(some 105),(some (102,true)),[],.ix (.s 103) (.s 104) 1,0⟩,⟨7,(some 106),(some (102,true)),[],.ld (.s 105),0⟩,⟨8,(some 107),(some (102,true)),[],.mov (.s 0),0⟩,
 ⟨9,(some 108),(some (102,true)),[],.mov (.s 1),0⟩,⟨10,(some 109),(some (102,true)),[],.ix (.s 107) (.s 108) 1,0⟩,⟨11,(some 110),(some (102,true)),[],.ld (.s 109),0⟩,
 ⟨12,(some 111),(some (102,true)),[],.call (.c (.fn F.cmp_Less [])) [.s 106,.s 110],0⟩,.i 13 112 (.pick (.s 102) (.s 111) (.c (.bool false)))]
abbrev r135_14 (F:Nums):List Ins:=[.mv 0 113 10,.i 1 114 (.bin .add (.s 113) (.c (.int .i64 1))),.mv 2 10 114]
abbrev r135_15 (F:Nums):List Ins:=[.mv 0 115 10,.mv 1 116 11,.b .leq 2 117 115 116,.mv 3 118 117,⟨4,(some 119),(some (118,true)),[],.mov (.s 0),0⟩,⟨5,(some 120),(some (118,true)),[],.mov (.s 11),0⟩,
 ⟨6,(some 121),(some (118,true)),[],.ix (.s 119) (.s 120) 1,0⟩,⟨7,(some 122),(some (118,true)),[],.ld (.s 121),0⟩,⟨8,(some 123),(some (118,true)),[],.mov (.s 0),0⟩,
 ⟨9,(some 124),(some (118,true)),[],.mov (.s 1),0⟩,⟨10,(some 125),(some (118,true)),[],.ix (.s 123) (.s 124) 1,0⟩,⟨11,(some 126),(some (118,true)),[],.ld (.s 125),0⟩,
 ⟨12,(some 127),(some (118,true)),[],.call (.c (.fn F.cmp_Less [])) [.s 122,.s 126],0⟩,⟨13,(some 128),(some (118,true)),[],.not (.s 127),0⟩,
 .i 14 129 (.pick (.s 118) (.s 128) (.c (.bool false)))]
abbrev r135_16 (F:Nums):List Ins:=[.mv 0 130 11,.i 1 131 (.bin .sub (.s 130) (.c (.int .i64 1))),.mv 2 11 131]
abbrev r135_17 (F:Nums):List Ins:=[.mv 0 132 10,.mv 1 133 11,.b .gtr 2 134 132 133]
abbrev r135_18 (F:Nums):List Ins:=[.mv 0 135 0,.mv 1 136 10,.mv 2 137 0,.mv 3 138 11,.mv 4 139 0,.mv 5 140 11,.x 6 141 139 140 1,.l 7 142 141,.mv 8 143 0,.mv 9 144 10,
 .x 10 145 143 144 1,.l 11 146 145,.x 12 147 135 136 1,.st 13 147 142,.x 14 148 137 138 1,.st 15 148 146]
abbrev r135_19 (F:Nums):List Ins:=[.mv 0 149 10,.i 1 150 (.bin .add (.s 149) (.c (.int .i64 1))),.mv 2 10 150]
abbrev r135_20 (F:Nums):List Ins:=[.mv 0 151 11,.i 1 152 (.bin .sub (.s 151) (.c (.int .i64 1))),.mv 2 11 152]
abbrev r135_21 (F:Nums):List Ins:=[.mv 0 153 0,.mv 1 154 11,.mv 2 155 0,.mv 3 156 1,.mv 4 157 0,.mv 5 158 1,.x 6 159 157 158 1,.l 7 160 159,.mv 8 161 0,.mv 9 162 11,.x 10 163 161 162 1,
 .l 11 164 163,.x 12 165 153 154 1,.st 13 165 160,.x 14 166 155 156 1,.st 15 166 164]
abbrev r135_22 (F:Nums):List Ins:=[.mv 0 167 11,.mv 1 8 167,.i 2 9 (.mov (.c (.bool false)))]
abbrev c_slices_partitionOrdered (F:Nums):Fn:=⟨4,[.tmp 8,.tmp 9],(.seq (.reg [0,1,2,3] 0 (r135_0 F))
 (.seq (.reg [0,1,2] 0 (r135_1 F))
 (.seq (.reg [0,1,10,11] 0 (r135_2 F))
 (.seq (.blk 0
  (.loop
   (.seq (.seq (.reg [0,1,10,11,43] 0 (r135_3 F))
     (.cond (.s 43)
     .skip
     (.exit 0)))
    (.blk 1
    (.reg [0,1,10,11] 0 (r135_4 F))))))
 (.seq (.blk 2
  (.loop
   (.seq (.seq (.reg [0,1,10,11,60] 0 (r135_5 F))
     (.cond (.s 60)
     .skip
     (.exit 2)))
    (.blk 3
    (.reg [0,1,10,11] 0 (r135_6 F))))))
 (.seq (.seq (.reg [0,1,10,11,65] 0 (r135_7 F))
  (.cond (.s 65)
  (.seq (.reg [11] 0 (r135_8 F))
   (.seq (.reg [8,9] 0 (r135_9 F))
   .ret))
  .skip))
 (.seq (.reg [0,1,10,11] 0 (r135_10 F))
 (.seq (.reg [0,1,10,11] 0 (r135_11 F))
 (.seq (.reg [0,1,10,11] 0 (r135_12 F))
 (.seq (.blk 4
  (.loop
   (.blk 5
    (.seq (.blk 6
      (.loop
       (.seq (.seq (.reg [0,1,10,11,112] 0 (r135_13 F))
         (.cond (.s 112)
         .skip
         (.exit 6)))
        (.blk 7
        (.reg [0,1,10,11] 0 (r135_14 F))))))
     (.seq (.blk 8
      (.loop
       (.seq (.seq (.reg [0,1,10,11,129] 0 (r135_15 F))
         (.cond (.s 129)
         .skip
         (.exit 8)))
        (.blk 9
        (.reg [0,1,10,11] 0 (r135_16 F))))))
     (.seq (.seq (.reg [0,1,10,11,134] 0 (r135_17 F))
      (.cond (.s 134)
      (.exit 4)
      .skip))
     (.seq (.reg [0,1,10,11] 0 (r135_18 F))
     (.seq (.reg [0,1,10,11] 0 (r135_19 F))
     (.reg [0,1,10,11] 0 (r135_20 F))))))))))
 (.seq (.reg [11] 0 (r135_21 F))
 (.seq (.reg [8,9] 0 (r135_22 F))
 .ret))))))))))))⟩
abbrev r136_0 (F:Nums):List Ins:=[.i 0 2 (.mov (.c (.int .i64 0)))]
abbrev r136_1 (F:Nums):List Ins:=[.mv 0 3 0,.i 1 4 (.bin .geq (.s 3) (.c (.int .u32 65536)))]
abbrev r136_2 (F:Nums):List Ins:=[.mv 0 5 0,.i 1 6 (.bin .shr (.s 5) (.c (.int .u64 16))),.mv 2 0 6]
abbrev r136_3 (F:Nums):List Ins:=[.i 0 2 (.mov (.c (.int .i64 16)))]
abbrev r136_4 (F:Nums):List Ins:=[.mv 0 7 0,.i 1 8 (.bin .geq (.s 7) (.c (.int .u32 256)))]
abbrev r136_5 (F:Nums):List Ins:=[.mv 0 9 0,.i 1 10 (.bin .shr (.s 9) (.c (.int .u64 8))),.mv 2 0 10]
abbrev r136_6 (F:Nums):List Ins:=[.mv 0 11 2,.i 1 12 (.bin .add (.s 11) (.c (.int .i64 8))),.mv 2 2 12]
abbrev r136_7 (F:Nums):List Ins:=[.mv 0 13 2,.mv 1 14 0,.i 2 15 (.conv .u8 (.s 14)),.i 3 16 (.strix (.c (.str ⟨#[0,1,2,2,3,3,3,3,4,4,4,4,4,4,4,4,5,5,5,5,5,5,5,5,5,5,5,5,5,5,5,5,6,6,6,6,6,6,6,6,6,6,6,6,6,6,6,6,6,6,6,6,6,6,6,6,6,6,6,6,6,6,6,6,7,7,7,7,7,7,7,7,7,7,7,7,7,7,7,7,7,7,7,7,7,7,7,7,7,7,7,7,7,7,7,7,7,7,7,7,7,7,7,7,7,7,7,7,7,7,7,7,7,7,7,7,7,7,7,7,7,7,7,7,7,7,7,7,8,8,8,8,8,8,8,8,8,8,8,8,8,8,8,8,8,8,8,8,8,8,8,8,8,8,8,8,8,8,8,8,8,8,8,8,8,8,8,8,8,8,8,8,8,8,8,8,8,8,8,8,8,8,8,8,8,8,8,8,8,8,8,8,8,8,8,8,8,8,8,8,8,8,8,8,8,8,8,8,8,8,8,8,8,8,8,8,8,8,8,8,8,8,8,8,8,8,8,8,8,8,8,8,8,8,8,8,8,8,8,8,8,8,8,8,8,8,8,8,8,8,8,8,8,8,8,8]⟩)) (.s 15)),
 .i 4 17 (.conv .i64 (.s 16)),.b .add 5 18 13 17,.mv 6 2 18]
abbrev c_math_bits_Len32 (F:Nums):Fn:=⟨1,[.tmp 2],(.seq (.reg [0,2] 0 (r136_0 F))
 (.seq (.seq (.reg [0,2,4] 0 (r136_1 F))
  (.cond (.s 4)
  (.seq (.reg [0] 0 (r136_2 F))
   (.reg [0,2] 0 (r136_3 F)))
  .skip))
 (.seq (.seq (.reg [0,2,8] 0 (r136_4 F))
  (.cond (.s 8)
  (.seq (.reg [0,2] 0 (r136_5 F))
   (.reg [0,2] 0 (r136_6 F)))
  .skip))
 (.seq (.reg [2] 0 (r136_7 F))
 .ret))))⟩
abbrev r137_0 (F:Nums):List Ins:=[.i 0 2 (.mov (.c (.int .i64 0)))]
abbrev r137_1 (F:Nums):List Ins:=[.mv 0 3 0,.i 1 4 (.bin .geq (.s 3) (.c (.int .u64 4294967296)))]
abbrev r137_2 (F:Nums):List Ins:=[.mv 0 5 0,.i 1 6 (.bin .shr (.s 5) (.c (.int .u64 32))),.mv 2 0 6]
abbrev r137_3 (F:Nums):List Ins:=[.i 0 2 (.mov (.c (.int .i64 32)))]
abbrev r137_4 (F:Nums):List Ins:=[.mv 0 7 0,.i 1 8 (.bin .geq (.s 7) (.c (.int .u64 65536)))]
abbrev r137_5 (F:Nums):List Ins:=[.mv 0 9 0,.i 1 10 (.bin .shr (.s 9) (.c (.int .u64 16))),.mv 2 0 10]
abbrev r137_6 (F:Nums):List Ins:=[.mv 0 11 2,.i 1 12 (.bin .add (.s 11) (.c (.int .i64 16))),.mv 2 2 12]
abbrev r137_7 (F:Nums):List Ins:=[.mv 0 13 0,.i 1 14 (.bin .geq (.s 13) (.c (.int .u64 256)))]
abbrev r137_8 (F:Nums):List Ins:=[.mv 0 15 0,.i 1 16 (.bin .shr (.s 15) (.c (.int .u64 8))),.mv 2 0 16]
abbrev r137_9 (F:Nums):List Ins:=[.mv 0 17 2,.i 1 18 (.bin .add (.s 17) (.c (.int .i64 8))),.mv 2 2 18]
abbrev r137_10 (F:Nums):List Ins:=[.mv 0 19 2,.mv 1 20 0,.i 2 21 (.conv .u8 (.s 20)),.i 3 22 (.strix (.c (.str ⟨#[0,1,2,2,3,3,3,3,4,4,4,4,4,4,4,4,5,5,5,5,5,5,5,5,5,5,5,5,5,5,5,5,6,6,6,6,6,6,6,6,6,6,6,6,6,6,6,6,6,6,6,6,6,6,6,6,6,6,6,6,6,6,6,6,7,7,7,7,7,7,7,7,7,7,7,7,7,7,7,7,7,7,7,7,7,7,7,7,7,7,7,7,7,7,7,7,7,7,7,7,7,7,7,7,7,7,7,7,7,7,7,7,7,7,7,7,7,7,7,7,7,7,7,7,7,7,7,7,8,8,8,8,8,8,8,8,8,8,8,8,8,8,8,8,8,8,8,8,8,8,8,8,8,8,8,8,8,8,8,8,8,8,8,8,8,8,8,8,8,8,8,8,8,8,8,8,8,8,8,8,8,8,8,8,8,8,8,8,8,8,8,8,8,8,8,8,8,8,8,8,8,8,8,8,8,8,8,8,8,8,8,8,8,8,8,8,8,8,8,8,8,8,8,8,8,8,8,8,8,8,8,8,8,8,8,8,8,8,8,8,8,8,8,8,8,8,8,8,8,8,8,8,8,8,8,8]⟩)) (.s 21)),
 .i 4 23 (.conv .i64 (.s 22)),.b .add 5 24 19 23,.mv 6 2 24]
abbrev c_math_bits_Len64 (F:Nums):Fn:=⟨1,[.tmp 2],(.seq (.reg [0,2] 0 (r137_0 F))
 (.seq (.seq (.reg [0,2,4] 0 (r137_1 F))
  (.cond (.s 4)
  (.seq (.reg [0] 0 (r137_2 F))
   (.reg [0,2] 0 (r137_3 F)))
  .skip))
 (.seq (.seq (.reg [0,2,8] 0 (r137_4 F))
  (.cond (.s 8)
  (.seq (.reg [0,2] 0 (r137_5 F))
   (.reg [0,2] 0 (r137_6 F)))
  .skip))
 (.seq (.seq (.reg [0,2,14] 0 (r137_7 F))
  (.cond (.s 14)
  (.seq (.reg [0,2] 0 (r137_8 F))
   (.reg [0,2] 0 (r137_9 F)))
  .skip))
 (.seq (.reg [2] 0 (r137_10 F))
 .ret)))))⟩
abbrev r138_0 (F:Nums):List Ins:=[.mv 0 6 0,.ck 1 7 6,.f 2 8 7 1,.l 3 9 8,.mv 4 10 1,.mv 5 11 0,.ck 6 12 11,.f 7 13 12 1,.l 8 14 13,.mv 9 15 2,.mv 10 16 0,.ck 11 17 16,
 .f 12 18 17 1,.l 13 19 18,.mv 14 20 2,.x 15 21 19 20 5,.i 16 22 (.ldn (.s 21) 5),.mv 17 23 0,.ck 18 24 23,.f 19 25 24 1,.l 20 26 25,
 .mv 21 27 1,.x 22 28 26 27 5,.i 23 29 (.ldn (.s 28) 5),.x 24 30 9 10 5,.j 25 (.stn (.s 30) (.s 22) 5),.x 26 31 14 15 5,.j 27 (.stn (.s 31) (.s 29) 5)]
abbrev r138_1 (F:Nums):List Ins:=[.mv 0 32 0,.ck 1 33 32,.f 2 34 33 2,.l 3 35 34,.mv 4 36 0,.ck 5 37 36,.f 6 38 37 1,.l 7 39 38,.mv 8 40 1,.x 9 41 39 40 5,.f 10 42 41 0,
 .i 11 43 (.ldn (.s 42) 2),.mv 12 44 0,.ck 13 45 44,.f 14 46 45 2,.l 15 47 46,.mv 16 48 0,.ck 17 49 48,.f 18 50 49 1,.l 19 51 50,.mv 20 52 2,
 .x 21 53 51 52 5,.f 22 54 53 0,.i 23 55 (.ldn (.s 54) 2),.mv 24 56 1,.mv 25 57 2,.i 26 58 (.ment 2 (.s 35) (.s 43) (.int .i64 0)),.e 27 59 58 1,
 .j 28 (.est (.s 35) (.s 59) (.s 56)),.i 29 60 (.ment 2 (.s 47) (.s 55) (.int .i64 0)),.e 30 61 60 1,.j 31 (.est (.s 47) (.s 61) (.s 57))]
abbrev c_theap_swap (F:Nums):Fn:=⟨3,[],(.seq (.reg [0,1,2] 0 (r138_0 F))
 (.reg [] 0 (r138_1 F)))⟩
abbrev r139_0 (F:Nums):List Ins:=[.mv 0 4 0,.mv 1 5 1,.i 2 6 (.call (.c (.fn F.theap_up [])) [.s 4,.s 5]),.nt 3 7 6]
abbrev r139_1 (F:Nums):List Ins:=[.mv 0 8 0,.mv 1 9 1,.i 2 10 (.call (.c (.fn F.theap_down [])) [.s 8,.s 9])]
abbrev c_theap_fix (F:Nums):Fn:=⟨2,[],(.seq (.reg [0,1,7] 0 (r139_0 F))
 (.cond (.s 7)
 (.reg [] 0 (r139_1 F))
 .skip))⟩
abbrev r140_0 (F:Nums):List Ins:=[.l 0 4 1,.i 1 5 (.len (.s 4)),.i 2 6 (.bin .sub (.s 5) (.c (.int .i64 1))),.mv 3 3 6]
abbrev r140_1 (F:Nums):List Ins:=[.mv 0 7 3,.i 1 8 (.bin .geq (.s 7) (.c (.int .i64 0)))]
abbrev r140_3 (F:Nums):List Ins:=[.mv 0 11 0,.mv 1 12 3,.l 2 13 1,.mv 3 14 3,.x 4 15 13 14 1,.l 5 16 15,.i 6 17 (.call (.s 11) [.s 12,.s 16]),.nt 7 18 17]
abbrev r140_2 (F:Nums):List Ins:=[.mv 0 9 3,.i 1 10 (.bin .sub (.s 9) (.c (.int .i64 1))),.mv 2 3 10]
abbrev c_slices_Backward_1 (F:Nums):Fn:=⟨2,[],(.seq (.reg [0,1,3] 0 (r140_0 F))
 (.blk 0
 (.loop
  (.seq (.seq (.reg [0,1,3,8] 0 (r140_1 F))
    (.cond (.s 8)
    .skip
    (.exit 0)))
   (.seq (.blk 1
    (.seq (.reg [0,1,3,18] 0 (r140_3 F))
     (.cond (.s 18)
     .ret
     .skip)))
   (.reg [0,1,3] 0 (r140_2 F)))))))⟩
abbrev r141_0 (F:Nums):List Ins:=[.i 0 3 (.mov (.c (.bool false)))]
abbrev r141_1 (F:Nums):List Ins:=[.mv 0 4 0,.ck 1 5 4,.f 2 6 5 1,.l 3 7 6,.l 4 8 1,.b .eql 5 9 7 8,.mv 6 10 9,⟨7,(some 11),(some (10,true)),[],.mov (.s 0),0⟩,⟨8,(some 12),(some (10,true)),[],.chk (.s 11),0⟩,
 ⟨9,(some 13),(some (10,true)),[],.fa (.s 12) 6,0⟩,⟨10,(some 14),(some (10,true)),[],.ld (.s 13),0⟩,.i 11 15 (.pick (.s 10) (.s 14) (.c (.bool false))),
 .mv 12 3 15]
abbrev c_core_pinned_1 (F:Nums):Fn:=⟨2,[.tmp 3],(.seq (.reg [0,1] 0 (r141_0 F))
 (.seq (.reg [3] 0 (r141_1 F))
 .ret))⟩
abbrev r142_0 (F:Nums):List Ins:=[.i 0 5 (.mov (.c (.bool false)))]
abbrev r142_1 (F:Nums):List Ins:=[.mv 0 6 0,.ck 1 7 6,.f 2 8 7 1,.l 3 9 8,.l 4 10 1,.b .eql 5 11 9 10,.mv 6 12 11,⟨7,(some 13),(some (12,true)),[],.mov (.s 0),0⟩,
 ⟨8,(some 14),(some (12,true)),[],.chk (.s 13),0⟩,⟨9,(some 15),(some (12,true)),[],.fa (.s 14) 6,0⟩,⟨10,(some 16),(some (12,true)),[],.ld (.s 15),0⟩,
 ⟨11,(some 17),(some (12,true)),[],.not (.s 16),0⟩,.i 12 18 (.pick (.s 12) (.s 17) (.c (.bool false))),.mv 13 19 18,⟨14,(some 20),(some (19,true)),[],.mov (.s 0),0⟩,
 ⟨15,(some 21),(some (19,true)),[],.chk (.s 20),0⟩,⟨16,(some 22),(some (19,true)),[],.fa (.s 21) 4,0⟩,⟨17,(some 23),(some (19,true)),[],.ld (.s 22),0⟩,
 ⟨18,(some 24),(some (19,true)),[],.ld (.s 2),0⟩,⟨19,(some 25),(some (19,true)),[],.bin .eql (.s 23) (.s 24),0⟩,.i 20 26 (.pick (.s 19) (.s 25) (.c (.bool false))),
 .mv 21 27 26,⟨22,(some 28),(some (27,true)),[],.ld (.s 3),0⟩,⟨23,(some 29),(some (27,true)),[],.chk (.s 28),0⟩,⟨24,(some 30),(some (27,true)),[],.fa (.s 29) 5,0⟩,
 ⟨25,(some 31),(some (27,true)),[],.ld (.s 30),0⟩,⟨26,(some 32),(some (27,true)),[],.mov (.s 0),0⟩,⟨27,(some 33),(some (27,true)),[],.chk (.s 32),0⟩,
 ⟨28,(some 34),(some (27,true)),[],.fa (.s 33) 2,0⟩,⟨29,(some 35),(some (27,true)),[],.ld (.s 34),0⟩,⟨30,(some 36),(some (27,true)),[],.call (.c (.fn F.host_Up [])) [.s 31,.s 35],0⟩,
 .i 31 37 (.pick (.s 27) (.s 36) (.c (.bool false))),.mv 32 5 37]
abbrev c_core_spare_1 (F:Nums):Fn:=⟨4,[.tmp 5],(.seq (.reg [0,1,2,3] 0 (r142_0 F))
 (.seq (.reg [5] 0 (r142_1 F))
 .ret))⟩
abbrev r143_0 (F:Nums):List Ins:=[.i 0 4 (.mov (.c (.bool false)))]
abbrev r143_1 (F:Nums):List Ins:=[.mv 0 5 0,.ck 1 6 5,.f 2 7 6 0,.l 3 8 7,.mv 4 9 1,.i 5 10 (.call (.c (.fn F.wheap_Drop [])) [.s 8,.s 9]),.mv 6 4 10]
abbrev c_warm_Drop (F:Nums):Fn:=⟨2,[.tmp 4],(.seq (.reg [0,1] 0 (r143_0 F))
 (.seq (.reg [4] 0 (r143_1 F))
 .ret))⟩
abbrev r144_0 (F:Nums):List Ins:=[.i 0 4 (.mov (.c (.int .i64 0)))]
abbrev r144_1 (F:Nums):List Ins:=[.mv 0 6 0,.i 1 7 (.len (.s 6)),.i 2 8 (.mov (.c (.int .i64 0)))]
abbrev r144_2 (F:Nums):List Ins:=[.b .lss 0 9 8 7]
abbrev r144_3 (F:Nums):List Ins:=[.mv 0 10 8,.mv 1 5 10]
abbrev r144_4 (F:Nums):List Ins:=[.mv 0 11 1,.mv 1 12 0,.mv 2 13 5,.x 3 14 12 13 1,.l 4 15 14,.i 5 16 (.call (.s 11) [.s 15])]
abbrev r144_5 (F:Nums):List Ins:=[.mv 0 17 5,.mv 1 4 17]
abbrev r144_6 (F:Nums):List Ins:=[.i 0 18 (.bin .add (.s 8) (.c (.int .i64 1))),.mv 1 8 18]
abbrev r144_7 (F:Nums):List Ins:=[.i 0 4 (.mov (.c (.int .i64 (-1))))]
abbrev c_slices_IndexFunc (F:Nums):Fn:=⟨2,[.tmp 4],(.seq (.reg [0,1] 0 (r144_0 F))
 (.seq (.seq (.reg [0,1,7,8] 0 (r144_1 F))
  (.blk 0
  (.loop
   (.seq (.reg [0,1,7,8,9] 0 (r144_2 F))
    (.seq (.cond (.s 9)
     .skip
     (.exit 0))
    (.seq (.blk 1
     (.seq (.reg [0,1,5,7,8] 0 (r144_3 F))
      (.seq (.reg [0,1,5,7,8,16] 0 (r144_4 F))
      (.cond (.s 16)
      (.seq (.reg [4] 0 (r144_5 F))
       .ret)
      .skip))))
    (.reg [0,1,7,8] 0 (r144_6 F))))))))
 (.seq (.reg [4] 0 (r144_7 F))
 .ret)))⟩
abbrev r145_0 (F:Nums):List Ins:=[.mv 0 3 0,.ck 1 4 3,.f 2 5 4 240,.j 3 (.st (.s 5) (.c (.int .i64 0)))]
abbrev r145_1 (F:Nums):List Ins:=[.i 0 6 (.mov (.c (.int .i64 0)))]
abbrev r145_2 (F:Nums):List Ins:=[.i 0 7 (.bin .lss (.s 6) (.c (.int .i64 240)))]
abbrev r145_3 (F:Nums):List Ins:=[.mv 0 8 6,.mv 1 2 8]
abbrev r145_4 (F:Nums):List Ins:=[.mv 0 9 0,.mv 1 10 2,.ck 2 11 9,.f 3 12 11 0,.i 4 13 (.ixa (.s 12) (.s 10) 240 1),.l 5 14 13,.i 6 15 (.bin .quo (.s 14) (.c (.int .i64 2))),
 .ck 7 16 9,.f 8 17 16 0,.i 9 18 (.ixa (.s 17) (.s 10) 240 1),.st 10 18 15]
abbrev r145_5 (F:Nums):List Ins:=[.mv 0 19 0,.ck 1 20 19,.f 2 21 20 240,.l 3 22 21,.mv 4 23 0,.mv 5 24 2,.ck 6 25 23,.f 7 26 25 0,.i 8 27 (.ixa (.s 26) (.s 24) 240 1),
 .l 9 28 27,.b .add 10 29 22 28,.ck 11 30 19,.f 12 31 30 240,.st 13 31 29]
abbrev r145_6 (F:Nums):List Ins:=[.i 0 32 (.bin .add (.s 6) (.c (.int .i64 1))),.mv 1 6 32]
abbrev r145_7 (F:Nums):List Ins:=[.mv 0 33 0,.ck 1 34 33,.f 2 35 34 241,.l 3 36 35,.i 4 37 (.bin .quo (.s 36) (.c (.int .i64 2))),.ck 5 38 33,.f 6 39 38 241,.st 7 39 37]
abbrev c_histo_halve (F:Nums):Fn:=⟨1,[],(.seq (.reg [0] 0 (r145_0 F))
 (.seq (.seq (.reg [0,6] 0 (r145_1 F))
  (.blk 0
  (.loop
   (.seq (.reg [0,6,7] 0 (r145_2 F))
    (.seq (.cond (.s 7)
     .skip
     (.exit 0))
    (.seq (.blk 1
     (.seq (.reg [0,2,6] 0 (r145_3 F))
      (.seq (.reg [0,2,6] 0 (r145_4 F))
      (.reg [0,6] 0 (r145_5 F)))))
    (.reg [0,6] 0 (r145_6 F))))))))
 (.reg [] 0 (r145_7 F))))⟩
abbrev r146_0 (F:Nums):List Ins:=[.i 0 0 (.mov (.c (.nilp)))]
abbrev r146_1 (F:Nums):List Ins:=[.i 0 1 (.call (.c (.fn F.wheap_New [])) [.c (.fn F.warm_less [])]),.i 1 2 (.bld [.nilp,.int .u64 0] [(0,1,.s 1)]),.i 2 3 (.box 0 (.s 2)),
 .mv 3 0 3]
abbrev c_warm_New (F:Nums):Fn:=⟨0,[.tmp 0],(.seq (.reg [] 0 (r146_0 F))
 (.seq (.reg [0] 1 (r146_1 F))
 .ret))⟩
abbrev r147_0 (F:Nums):List Ins:=[.i 0 2 (.mov (.c (.int .i64 0))),.i 1 3 (.alc 0 [.int .u64 0,.int .u64 0,.int .i64 0]),.i 2 4 (.mov (.c (.bool false)))]
abbrev r147_1 (F:Nums):List Ins:=[.mv 0 6 0,.ck 1 7 6,.f 2 8 7 1,.l 3 9 8,.i 4 10 (.len (.s 9)),.i 5 11 (.bin .eql (.s 10) (.c (.int .i64 0)))]
abbrev r147_2 (F:Nums):List Ins:=[.i 0 5 (.alc 0 [.int .i64 0,.int .u64 0,.int .u64 0,.int .i64 0])]
abbrev r147_3 (F:Nums):List Ins:=[.f 0 12 5 0,.l 1 13 12,.f 2 14 5 1,.i 3 15 (.ldn (.s 14) 3),.mv 4 2 13,.j 5 (.stn (.s 3) (.s 15) 3),.i 6 4 (.mov (.c (.bool false)))]
abbrev r147_4 (F:Nums):List Ins:=[.mv 0 16 0,.ck 1 17 16,.f 2 18 17 1,.l 3 19 18,.i 4 20 (.ix (.s 19) (.c (.int .i64 0)) 4),.f 5 21 20 0,.l 6 22 21,.mv 7 23 0,.ck 8 24 23,
 .f 9 25 24 1,.l 10 26 25,.i 11 27 (.ix (.s 26) (.c (.int .i64 0)) 4),.f 12 28 27 1,.i 13 29 (.ldn (.s 28) 3),.mv 14 2 22,.j 15 (.stn (.s 3) (.s 29) 3),
 .i 16 4 (.mov (.c (.bool true)))]
abbrev c_wheap_Min (F:Nums):Fn:=⟨1,[.tmp 2,.cells 3 3,.tmp 4],(.seq (.reg [0,3] 1 (r147_0 F))
 (.seq (.seq (.reg [0,3,11] 0 (r147_1 F))
  (.cond (.s 11)
  (.seq (.reg [3,5] 1 (r147_2 F))
   (.seq (.reg [2,3,4] 0 (r147_3 F))
   .ret))
  .skip))
 (.seq (.reg [2,3,4] 0 (r147_4 F))
 .ret)))⟩
abbrev r148_0 (F:Nums):List Ins:=[.i 0 4 (.mov (.c (.bool false)))]
abbrev r148_1 (F:Nums):List Ins:=[.mv 0 9 0,.ck 1 10 9,.f 2 11 10 2,.l 3 12 11,.mv 4 13 1,.i 5 14 (.look 1 (.s 12) (.s 13) (.int .i64 0) true),.mv 6 8 14,.e 7 15 8 0,.e 8 16 8 1,
 .mv 9 5 15,.mv 10 6 16]
abbrev r148_2 (F:Nums):List Ins:=[.mv 0 17 6,.nt 1 18 17]
abbrev r148_3 (F:Nums):List Ins:=[.i 0 4 (.mov (.c (.bool false)))]
abbrev r148_4 (F:Nums):List Ins:=[.mv 0 19 0,.ck 1 20 19,.f 2 21 20 1,.l 3 22 21,.i 4 23 (.len (.s 22)),.i 5 24 (.bin .sub (.s 23) (.c (.int .i64 1))),.mv 6 7 24]
abbrev r148_5 (F:Nums):List Ins:=[.mv 0 25 0,.mv 1 26 5,.mv 2 27 7,.i 3 28 (.call (.c (.fn F.wheap_swap [])) [.s 25,.s 26,.s 27])]
abbrev r148_6 (F:Nums):List Ins:=[.mv 0 29 0,.mv 1 30 0,.ck 2 31 30,.f 3 32 31 1,.l 4 33 32,.mv 5 34 7,.i 6 35 (.slc (.s 33) none (some (.s 34)) 4),.ck 7 36 29,.f 8 37 36 1,
 .st 9 37 35]
abbrev r148_7 (F:Nums):List Ins:=[.mv 0 38 0,.ck 1 39 38,.f 2 40 39 2,.l 3 41 40,.mv 4 42 1,.j 5 (.del 1 (.s 41) (.s 42))]
abbrev r148_8 (F:Nums):List Ins:=[.mv 0 43 5,.mv 1 44 7,.b .lss 2 45 43 44]
abbrev r148_9 (F:Nums):List Ins:=[.mv 0 46 0,.mv 1 47 5,.i 2 48 (.call (.c (.fn F.wheap_fix [])) [.s 46,.s 47])]
abbrev r148_10 (F:Nums):List Ins:=[.i 0 4 (.mov (.c (.bool true)))]
abbrev c_wheap_Drop (F:Nums):Fn:=⟨2,[.tmp 4],(.seq (.reg [0,1] 0 (r148_0 F))
 (.seq (.reg [0,1,5,6] 0 (r148_1 F))
 (.seq (.seq (.reg [0,1,5,18] 0 (r148_2 F))
  (.cond (.s 18)
  (.seq (.reg [4] 0 (r148_3 F))
   .ret)
  .skip))
 (.seq (.reg [0,1,5,7] 0 (r148_4 F))
 (.seq (.reg [0,1,5,7] 0 (r148_5 F))
 (.seq (.reg [0,1,5,7] 0 (r148_6 F))
 (.seq (.reg [0,5,7] 0 (r148_7 F))
 (.seq (.seq (.reg [0,5,45] 0 (r148_8 F))
  (.cond (.s 45)
  (.reg [] 0 (r148_9 F))
  .skip))
 (.seq (.reg [4] 0 (r148_10 F))
 .ret)))))))))⟩
abbrev r149_0 (F:Nums):List Ins:=[.i 0 1 (.box 0 (.s 0)),.i 1 2 (.mov (.c (.int .u64 0)))]
abbrev r149_1 (F:Nums):List Ins:=[.f 0 3 1 1,.l 1 4 3,.i 2 5 (.bin .eql (.s 4) (.c (.int .u64 0)))]
abbrev r149_2 (F:Nums):List Ins:=[.i 0 2 (.mov (.c (.int .u64 0)))]
abbrev r149_3 (F:Nums):List Ins:=[.f 0 6 1 0,.l 1 7 6,.f 2 8 1 1,.l 3 9 8,.b .quo 4 10 7 9,.mv 5 2 10]
abbrev c_ratio_Ratio_Floor (F:Nums):Fn:=⟨1,[.tmp 2],(.seq (.reg [1] 1 (r149_0 F))
 (.seq (.seq (.reg [1,5] 0 (r149_1 F))
  (.cond (.s 5)
  (.seq (.reg [2] 0 (r149_2 F))
   .ret)
  .skip))
 (.seq (.reg [2] 0 (r149_3 F))
 .ret)))⟩
abbrev r150_0 (F:Nums):List Ins:=[.i 0 6 (.alc 0 [.int .u64 0,.int .u64 0]),.i 1 7 (.mov (.c (.bool false)))]
abbrev r150_1 (F:Nums):List Ins:=[.mv 0 13 0,.mv 1 14 2,.i 2 15 (.call (.c (.fn F.math_bits_Mul64 [])) [.s 13,.s 14]),.mv 3 12 15,.e 4 16 12 0,.e 5 17 12 1,.mv 6 8 16,
 .mv 7 9 17]
abbrev r150_2 (F:Nums):List Ins:=[.mv 0 19 9,.mv 1 20 1,.i 2 21 (.add64 (.s 19) (.s 20) (.c (.int .u64 0))),.mv 3 18 21,.e 4 22 18 0,.e 5 23 18 1,.mv 6 10 22,.mv 7 11 23]
abbrev r150_3 (F:Nums):List Ins:=[.mv 0 24 8,.i 1 25 (.bin .gtr (.s 24) (.c (.int .u64 0))),.mv 2 26 25,⟨3,(some 27),(some (26,false)),[],.mov (.s 11),0⟩,⟨4,(some 28),(some (26,false)),[],.bin .gtr (.s 27) (.c (.int .u64 0)),0⟩,
 .i 5 29 (.pick (.s 26) (.c (.bool true)) (.s 28)),.mv 6 30 29,⟨7,(some 31),(some (30,false)),[],.mov (.s 2),0⟩,⟨8,(some 32),(some (30,false)),[],.bin .eql (.s 31) (.c (.int .u64 0)),0⟩,
 .i 9 33 (.pick (.s 30) (.c (.bool true)) (.s 32))]
abbrev r150_4 (F:Nums):List Ins:=[.i 0 34 (.bld [.int .u64 0,.int .u64 0] []),.j 1 (.stn (.s 6) (.s 34) 2),.i 2 7 (.mov (.c (.bool false)))]
abbrev r150_5 (F:Nums):List Ins:=[.mv 0 35 10,.mv 1 36 2,.i 2 37 (.bld [.int .u64 0,.int .u64 0] [(0,1,.s 35),(1,1,.s 36)]),.j 3 (.stn (.s 6) (.s 37) 2),.i 4 7 (.mov (.c (.bool true)))]
abbrev c_ratio_Above (F:Nums):Fn:=⟨3,[.cells 6 2,.tmp 7],(.seq (.reg [0,1,2,6] 1 (r150_0 F))
 (.seq (.reg [1,2,6,8,9] 0 (r150_1 F))
 (.seq (.reg [2,6,8,10,11] 0 (r150_2 F))
 (.seq (.seq (.reg [2,6,10,33] 0 (r150_3 F))
  (.cond (.s 33)
  (.seq (.reg [6,7] 0 (r150_4 F))
   .ret)
  .skip))
 (.seq (.reg [6,7] 0 (r150_5 F))
 .ret)))))⟩
abbrev r151_0 (F:Nums):List Ins:=[.i 0 5 (.box 0 (.s 2))]
abbrev r151_1 (F:Nums):List Ins:=[.mv 0 9 0,.ck 1 10 9,.f 2 11 10 2,.l 3 12 11,.mv 4 13 1,.i 5 14 (.look 1 (.s 12) (.s 13) (.int .i64 0) true),.mv 6 8 14,.e 7 15 8 0,.e 8 16 8 1,
 .mv 9 6 15,.mv 10 7 16]
abbrev r151_2 (F:Nums):List Ins:=[.mv 0 17 7,.nt 1 18 17]
abbrev r151_3 (F:Nums):List Ins:=[.mv 0 19 0,.ck 1 20 19,.f 2 21 20 1,.l 3 22 21,.i 4 23 (.len (.s 22)),.mv 5 6 23]
abbrev r151_4 (F:Nums):List Ins:=[.mv 0 24 0,.mv 1 25 0,.ck 2 26 25,.f 3 27 26 1,.l 4 28 27,.mv 5 29 1,.i 6 30 (.bld [.int .i64 0,.int .u64 0,.int .u64 0,.int .i64 0] [(0,1,.s 29)]),
 .i 7 31 (.bsl 0 [.int .i64 0,.int .u64 0,.int .u64 0,.int .i64 0] [(0,4,.s 30)] 1 4),.i 8 32 (.app 1 (.s 28) (.s 31) 4),.ck 9 33 24,.f 10 34 33 1,
 .st 11 34 32]
abbrev r151_5 (F:Nums):List Ins:=[.mv 0 35 0,.ck 1 36 35,.f 2 37 36 2,.l 3 38 37,.mv 4 39 1,.mv 5 40 6,.j 6 (.mupd 1 (.s 38) (.s 39) (.s 40))]
abbrev r151_6 (F:Nums):List Ins:=[.mv 0 41 0,.ck 1 42 41,.f 2 43 42 1,.l 3 44 43,.mv 4 45 6,.i 5 46 (.ldn (.s 5) 3),.x 6 47 44 45 4,.f 7 48 47 1,.j 8 (.stn (.s 48) (.s 46) 3)]
abbrev r151_7 (F:Nums):List Ins:=[.mv 0 49 0,.mv 1 50 6,.i 2 51 (.call (.c (.fn F.wheap_fix [])) [.s 49,.s 50])]
abbrev c_wheap_Set (F:Nums):Fn:=⟨3,[],(.seq (.reg [0,1,5] 1 (r151_0 F))
 (.seq (.reg [0,1,5,6,7] 0 (r151_1 F))
 (.seq (.seq (.reg [0,1,5,6,18] 0 (r151_2 F))
  (.cond (.s 18)
  (.seq (.reg [0,1,5,6] 0 (r151_3 F))
   (.seq (.reg [0,1,5,6] 2 (r151_4 F))
   (.reg [0,5,6] 0 (r151_5 F))))
  .skip))
 (.seq (.reg [0,6] 0 (r151_6 F))
 (.reg [] 0 (r151_7 F))))))⟩
abbrev r152_0 (F:Nums):List Ins:=[.i 0 6 (.mov (.c (.int .i64 0)))]
abbrev r152_1 (F:Nums):List Ins:=[.mv 0 7 1,.mv 1 8 0,.mv 2 9 2,.i 3 10 (.mn [.s 8,.s 9]),.i 4 11 (.mx [.s 7,.s 10]),.mv 5 6 11]
abbrev c_num_Clamp (F:Nums):Fn:=⟨3,[.tmp 6],(.seq (.reg [0,1,2] 0 (r152_0 F))
 (.seq (.reg [6] 0 (r152_1 F))
 .ret))⟩
abbrev r153_0 (F:Nums):List Ins:=[.i 0 2 (.mov (.c (.int .i64 0)))]
abbrev r153_1 (F:Nums):List Ins:=[.mv 0 3 0,.ck 1 4 3,.f 2 5 4 8,.l 3 6 5,.i 4 7 (.mn [.s 6,.c (.int .i64 8)]),.mv 5 2 7]
abbrev c_ring_Len (F:Nums):Fn:=⟨1,[.tmp 2],(.seq (.reg [0] 0 (r153_0 F))
 (.seq (.reg [2] 0 (r153_1 F))
 .ret))⟩
abbrev r154_0 (F:Nums):List Ins:=[.i 0 6 (.mov (.c (.int .i64 0))),.i 1 7 (.mov (.c (.int .u64 0)))]
abbrev r154_1 (F:Nums):List Ins:=[.mv 0 12 0,.i 1 13 (.bin .lss (.s 12) (.c (.int .i64 0))),.mv 2 14 13,⟨3,(some 15),(some (14,false)),[],.mov (.s 1),0⟩,⟨4,(some 16),(some (14,false)),[],.bin .lss (.s 15) (.c (.int .i64 0)),0⟩,
 .i 5 17 (.pick (.s 14) (.c (.bool true)) (.s 16)),.mv 6 18 17,⟨7,(some 19),(some (18,false)),[],.mov (.s 2),0⟩,⟨8,(some 20),(some (18,false)),[],.bin .leq (.s 19) (.c (.int .i64 0)),0⟩,
 .i 9 21 (.pick (.s 18) (.c (.bool true)) (.s 20))]
abbrev r154_2 (F:Nums):List Ins:=[.i 0 6 (.mov (.c (.int .i64 0))),.i 1 7 (.mov (.c (.int .u64 0)))]
abbrev r154_3 (F:Nums):List Ins:=[.mv 0 23 0,.i 1 24 (.conv .u64 (.s 23)),.mv 2 25 1,.i 3 26 (.conv .u64 (.s 25)),.i 4 27 (.call (.c (.fn F.math_bits_Mul64 [])) [.s 24,.s 26]),
 .mv 5 22 27,.e 6 28 22 0,.e 7 29 22 1,.mv 8 8 28,.mv 9 9 29]
abbrev r154_4 (F:Nums):List Ins:=[.mv 0 30 8,.mv 1 31 2,.i 2 32 (.conv .u64 (.s 31)),.b .geq 3 33 30 32]
abbrev r154_5 (F:Nums):List Ins:=[.i 0 6 (.mov (.c (.int .i64 9223372036854775807))),.i 1 7 (.mov (.c (.int .u64 0)))]
abbrev r154_6 (F:Nums):List Ins:=[.mv 0 35 8,.mv 1 36 9,.mv 2 37 2,.i 3 38 (.conv .u64 (.s 37)),.i 4 39 (.call (.c (.fn F.math_bits_Div64 [])) [.s 35,.s 36,.s 38]),.mv 5 34 39,
 .e 6 40 34 0,.e 7 41 34 1,.mv 8 10 40,.mv 9 11 41]
abbrev r154_7 (F:Nums):List Ins:=[.mv 0 42 10,.i 1 43 (.call (.c (.fn F.num_signed [])) [.c (.int .u64 0),.s 42,.c (.bool false)]),.mv 2 44 11,.mv 3 6 43,.mv 4 7 44]
abbrev c_num_part (F:Nums):Fn:=⟨3,[.tmp 6,.tmp 7],(.seq (.reg [0,1,2] 0 (r154_0 F))
 (.seq (.seq (.reg [0,1,2,21] 0 (r154_1 F))
  (.cond (.s 21)
  (.seq (.reg [6,7] 0 (r154_2 F))
   .ret)
  .skip))
 (.seq (.reg [2,8,9] 0 (r154_3 F))
 (.seq (.seq (.reg [2,8,9,33] 0 (r154_4 F))
  (.cond (.s 33)
  (.seq (.reg [6,7] 0 (r154_5 F))
   .ret)
  .skip))
 (.seq (.reg [10,11] 0 (r154_6 F))
 (.seq (.reg [6,7] 0 (r154_7 F))
 .ret))))))⟩
abbrev r155_0 (F:Nums):List Ins:=[.mv 0 10 1,.mv 1 8 10]
abbrev r155_1 (F:Nums):List Ins:=[.mv 0 11 8,.i 1 12 (.bin .mul (.c (.int .i64 2)) (.s 11)),.i 2 13 (.bin .add (.s 12) (.c (.int .i64 1))),.mv 3 9 13]
abbrev r155_2 (F:Nums):List Ins:=[.mv 0 14 9,.mv 1 15 2,.b .geq 2 16 14 15]
abbrev r155_3 (F:Nums):List Ins:=[.mv 0 17 9,.i 1 18 (.bin .add (.s 17) (.c (.int .i64 1))),.mv 2 19 2,.b .lss 3 20 18 19,.mv 4 21 20,⟨5,(some 22),(some (21,true)),[],.mov (.s 0),0⟩,
 ⟨6,(some 23),(some (21,true)),[],.mov (.s 3),0⟩,⟨7,(some 24),(some (21,true)),[],.mov (.s 9),0⟩,⟨8,(some 25),(some (21,true)),[],.bin .add (.s 23) (.s 24),0⟩,
 ⟨9,(some 26),(some (21,true)),[],.ix (.s 22) (.s 25) 1,0⟩,⟨10,(some 27),(some (21,true)),[],.ld (.s 26),0⟩,⟨11,(some 28),(some (21,true)),[],.mov (.s 0),0⟩,
 ⟨12,(some 29),(some (21,true)),[],.mov (.s 3),0⟩,⟨13,(some 30),(some (21,true)),[],.mov (.s 9),0⟩,⟨14,(some 31),(some (21,true)),[],.bin .add (.s 29) (.s 30),0⟩,
 ⟨15,(some 32),(some (21,true)),[],.bin .add (.s 31) (.c (.int .i64 1)),0⟩,⟨16,(some 33),(some (21,true)),[],.ix (.s 28) (.s 32) 1,0⟩,
 ⟨17,(some 34),(some (21,true)),[],.ld (.s 33),0⟩,⟨18,(some 35),(some (21,true)),[],.call (.c (.fn F.cmp_Less [])) [.s 27,.s 34],0⟩,
 .i 19 36 (.pick (.s 21) (.s 35) (.c (.bool false)))]
abbrev r155_4 (F:Nums):List Ins:=[.mv 0 37 9,.i 1 38 (.bin .add (.s 37) (.c (.int .i64 1))),.mv 2 9 38]
abbrev r155_5 (F:Nums):List Ins:=[.mv 0 39 0,.mv 1 40 3,.mv 2 41 8,.b .add 3 42 40 41,.x 4 43 39 42 1,.l 5 44 43,.mv 6 45 0,.mv 7 46 3,.mv 8 47 9,.b .add 9 48 46 47,
 .x 10 49 45 48 1,.l 11 50 49,.i 12 51 (.call (.c (.fn F.cmp_Less [])) [.s 44,.s 50]),.nt 13 52 51]
abbrev r155_6 (F:Nums):List Ins:=[.mv 0 53 0,.mv 1 54 3,.mv 2 55 8,.b .add 3 56 54 55,.mv 4 57 0,.mv 5 58 3,.mv 6 59 9,.b .add 7 60 58 59,.mv 8 61 0,.mv 9 62 3,.mv 10 63 9,
 .b .add 11 64 62 63,.x 12 65 61 64 1,.l 13 66 65,.mv 14 67 0,.mv 15 68 3,.mv 16 69 8,.b .add 17 70 68 69,.x 18 71 67 70 1,.l 19 72 71,
 .x 20 73 53 56 1,.st 21 73 66,.x 22 74 57 60 1,.st 23 74 72]
abbrev r155_7 (F:Nums):List Ins:=[.mv 0 75 9,.mv 1 8 75]
abbrev c_slices_siftDownOrdered (F:Nums):Fn:=⟨4,[],(.seq (.reg [0,2,3,8] 0 (r155_0 F))
 (.blk 0
 (.loop
  (.blk 1
   (.seq (.reg [0,2,3,8,9] 0 (r155_1 F))
    (.seq (.seq (.reg [0,2,3,8,9,16] 0 (r155_2 F))
     (.cond (.s 16)
     (.exit 0)
     .skip))
    (.seq (.seq (.reg [0,2,3,8,9,36] 0 (r155_3 F))
     (.cond (.s 36)
     (.reg [0,2,3,8,9] 0 (r155_4 F))
     .skip))
    (.seq (.seq (.reg [0,2,3,8,9,52] 0 (r155_5 F))
     (.cond (.s 52)
     .ret
     .skip))
    (.seq (.reg [0,2,3,9] 0 (r155_6 F))
    (.reg [0,2,3,8] 0 (r155_7 F)))))))))))⟩
abbrev r156_0 (F:Nums):List Ins:=[.i 0 2 (.mov (.c (.int .u64 0)))]
abbrev r156_1 (F:Nums):List Ins:=[.mv 0 3 0,.i 1 4 (.conv .u64 (.s 3)),.i 2 5 (.call (.c (.fn F.math_bits_Len [])) [.s 4]),.i 3 6 (.bin .shl (.c (.int .u64 1)) (.s 5)),.mv 4 2 6]
abbrev c_slices_nextPowerOfTwo (F:Nums):Fn:=⟨1,[.tmp 2],(.seq (.reg [0] 0 (r156_0 F))
 (.seq (.reg [2] 0 (r156_1 F))
 .ret))⟩
abbrev r157_0 (F:Nums):List Ins:=[.i 0 2 (.mov (.c (.int .u64 0)))]
abbrev r157_1 (F:Nums):List Ins:=[.mv 0 3 0,.ck 1 4 3,.l 2 5 4,.mv 3 6 0,.ck 4 7 6,.l 5 8 7,.i 6 9 (.bin .shl (.s 8) (.c (.int .u64 13))),.b .xor 7 10 5 9,.ck 8 11 3,
 .st 9 11 10]
abbrev r157_2 (F:Nums):List Ins:=[.mv 0 12 0,.ck 1 13 12,.l 2 14 13,.mv 3 15 0,.ck 4 16 15,.l 5 17 16,.i 6 18 (.bin .shr (.s 17) (.c (.int .u64 7))),.b .xor 7 19 14 18,
 .ck 8 20 12,.st 9 20 19]
abbrev r157_3 (F:Nums):List Ins:=[.mv 0 21 0,.ck 1 22 21,.l 2 23 22,.mv 3 24 0,.ck 4 25 24,.l 5 26 25,.i 6 27 (.bin .shl (.s 26) (.c (.int .u64 17))),.b .xor 7 28 23 27,
 .ck 8 29 21,.st 9 29 28]
abbrev r157_4 (F:Nums):List Ins:=[.mv 0 30 0,.ck 1 31 30,.l 2 32 31,.mv 3 2 32]
abbrev c_slices_xorshift_Next (F:Nums):Fn:=⟨1,[.tmp 2],(.seq (.reg [0] 0 (r157_0 F))
 (.seq (.reg [0] 0 (r157_1 F))
 (.seq (.reg [0] 0 (r157_2 F))
 (.seq (.reg [0] 0 (r157_3 F))
 (.seq (.reg [2] 0 (r157_4 F))
 .ret)))))⟩
abbrev r158_0 (F:Nums):List Ins:=[.i 0 6 (.mov (.c (.int .i64 0)))]
abbrev r158_1 (F:Nums):List Ins:=[.mv 0 7 0,.mv 1 8 1,.i 2 9 (.bin .sub (.s 8) (.c (.int .i64 1))),.mv 3 10 1,.mv 4 11 1,.i 5 12 (.bin .add (.s 11) (.c (.int .i64 1))),.mv 6 13 2,
 .i 7 14 (.call (.c (.fn F.slices_medianOrdered [])) [.s 7,.s 9,.s 10,.s 12,.s 13]),.mv 8 6 14]
abbrev c_slices_medianAdjacentOrdered (F:Nums):Fn:=⟨3,[.tmp 6],(.seq (.reg [0,1,2] 0 (r158_0 F))
 (.seq (.reg [6] 0 (r158_1 F))
 .ret))⟩
abbrev r159_0 (F:Nums):List Ins:=[.i 0 10 (.mov (.c (.int .i64 0)))]
abbrev r159_1 (F:Nums):List Ins:=[.mv 0 12 0,.mv 1 13 1,.mv 2 14 2,.mv 3 15 4,.i 4 16 (.call (.c (.fn F.slices_order2Ordered [])) [.s 12,.s 13,.s 14,.s 15]),.mv 5 11 16,
 .e 6 17 11 0,.e 7 18 11 1,.mv 8 1 17,.mv 9 2 18]
abbrev r159_2 (F:Nums):List Ins:=[.mv 0 20 0,.mv 1 21 2,.mv 2 22 3,.mv 3 23 4,.i 4 24 (.call (.c (.fn F.slices_order2Ordered [])) [.s 20,.s 21,.s 22,.s 23]),.mv 5 19 24,
 .e 6 25 19 0,.e 7 26 19 1,.mv 8 2 25,.mv 9 3 26]
abbrev r159_3 (F:Nums):List Ins:=[.mv 0 28 0,.mv 1 29 1,.mv 2 30 2,.mv 3 31 4,.i 4 32 (.call (.c (.fn F.slices_order2Ordered [])) [.s 28,.s 29,.s 30,.s 31]),.mv 5 27 32,
 .e 6 33 27 0,.e 7 34 27 1,.mv 8 1 33,.mv 9 2 34]
abbrev r159_4 (F:Nums):List Ins:=[.mv 0 35 2,.mv 1 10 35]
abbrev c_slices_medianOrdered (F:Nums):Fn:=⟨5,[.tmp 10],(.seq (.reg [0,1,2,3,4] 0 (r159_0 F))
 (.seq (.reg [0,1,2,3,4] 0 (r159_1 F))
 (.seq (.reg [0,1,2,4] 0 (r159_2 F))
 (.seq (.reg [2] 0 (r159_3 F))
 (.seq (.reg [10] 0 (r159_4 F))
 .ret)))))⟩
abbrev r160_0 (F:Nums):List Ins:=[.i 0 4 (.mov (.c (.bool false)))]
abbrev r160_1 (F:Nums):List Ins:=[.mv 0 6 1,.mv 1 5 6]
abbrev r160_2 (F:Nums):List Ins:=[.mv 0 7 1,.i 1 8 (.bin .gtr (.s 7) (.c (.int .i64 0))),.mv 2 9 8,⟨3,(some 10),(some (9,true)),[],.mov (.s 0),0⟩,⟨4,(some 11),(some (9,true)),[],.chk (.s 10),0⟩,
 ⟨5,(some 12),(some (9,true)),[],.fa (.s 11) 0,0⟩,⟨6,(some 13),(some (9,true)),[],.ld (.s 12),0⟩,⟨7,(some 14),(some (9,true)),[],.mov (.s 0),0⟩,
 ⟨8,(some 15),(some (9,true)),[],.chk (.s 14),0⟩,⟨9,(some 16),(some (9,true)),[],.fa (.s 15) 1,0⟩,⟨10,(some 17),(some (9,true)),[],.ld (.s 16),0⟩,
 ⟨11,(some 18),(some (9,true)),[],.mov (.s 1),0⟩,⟨12,(some 19),(some (9,true)),[],.ix (.s 17) (.s 18) 5,0⟩,⟨13,(some 20),(some (9,true)),[],.fa (.s 19) 2,0⟩,
 ⟨14,(some 21),(some (9,true)),[],.ldn (.s 20) 3,0⟩,⟨15,(some 22),(some (9,true)),[],.mov (.s 0),0⟩,⟨16,(some 23),(some (9,true)),[],.chk (.s 22),0⟩,
 ⟨17,(some 24),(some (9,true)),[],.fa (.s 23) 1,0⟩,⟨18,(some 25),(some (9,true)),[],.ld (.s 24),0⟩,⟨19,(some 26),(some (9,true)),[],.mov (.s 1),0⟩,
 ⟨20,(some 27),(some (9,true)),[],.bin .sub (.s 26) (.c (.int .i64 1)),0⟩,⟨21,(some 28),(some (9,true)),[],.bin .quo (.s 27) (.c (.int .i64 2)),0⟩,
 ⟨22,(some 29),(some (9,true)),[],.ix (.s 25) (.s 28) 5,0⟩,⟨23,(some 30),(some (9,true)),[],.fa (.s 29) 2,0⟩,⟨24,(some 31),(some (9,true)),[],.ldn (.s 30) 3,0⟩,
 ⟨25,(some 32),(some (9,true)),[],.call (.s 13) [.s 21,.s 31],0⟩,.i 26 33 (.pick (.s 9) (.s 32) (.c (.bool false)))]
abbrev r160_3 (F:Nums):List Ins:=[.mv 0 34 0,.mv 1 35 1,.mv 2 36 1,.i 3 37 (.bin .sub (.s 36) (.c (.int .i64 1))),.i 4 38 (.bin .quo (.s 37) (.c (.int .i64 2))),.i 5 39 (.call (.c (.fn F.theap_swap [])) [.s 34,.s 35,.s 38])]
abbrev r160_4 (F:Nums):List Ins:=[.mv 0 40 1,.i 1 41 (.bin .sub (.s 40) (.c (.int .i64 1))),.i 2 42 (.bin .quo (.s 41) (.c (.int .i64 2))),.mv 3 1 42]
abbrev r160_5 (F:Nums):List Ins:=[.mv 0 43 1,.mv 1 44 5,.b .neq 2 45 43 44,.mv 3 4 45]
abbrev c_theap_up (F:Nums):Fn:=⟨2,[.tmp 4],(.seq (.reg [0,1] 0 (r160_0 F))
 (.seq (.reg [0,1,5] 0 (r160_1 F))
 (.seq (.blk 0
  (.loop
   (.seq (.seq (.reg [0,1,5,33] 0 (r160_2 F))
     (.cond (.s 33)
     .skip
     (.exit 0)))
    (.blk 1
    (.seq (.reg [0,1,5] 0 (r160_3 F))
     (.reg [0,1,5] 0 (r160_4 F)))))))
 (.seq (.reg [4] 0 (r160_5 F))
 .ret))))⟩
abbrev r161_0 (F:Nums):List Ins:=[.mv 0 6 1,.mv 1 4 6]
abbrev r161_1 (F:Nums):List Ins:=[.mv 0 7 1,.i 1 8 (.bin .mul (.c (.int .i64 2)) (.s 7)),.i 2 9 (.bin .add (.s 8) (.c (.int .i64 1))),.mv 3 5 9]
abbrev r161_2 (F:Nums):List Ins:=[.mv 0 10 5,.mv 1 11 1,.i 2 12 (.bin .mul (.c (.int .i64 2)) (.s 11)),.i 3 13 (.bin .add (.s 12) (.c (.int .i64 2))),.b .leq 4 14 10 13,.mv 5 15 14,
 ⟨6,(some 16),(some (15,true)),[],.mov (.s 5),0⟩,⟨7,(some 17),(some (15,true)),[],.mov (.s 0),0⟩,⟨8,(some 18),(some (15,true)),[],.chk (.s 17),0⟩,
 ⟨9,(some 19),(some (15,true)),[],.fa (.s 18) 1,0⟩,⟨10,(some 20),(some (15,true)),[],.ld (.s 19),0⟩,⟨11,(some 21),(some (15,true)),[],.len (.s 20),0⟩,
 ⟨12,(some 22),(some (15,true)),[],.bin .lss (.s 16) (.s 21),0⟩,.i 13 23 (.pick (.s 15) (.s 22) (.c (.bool false)))]
abbrev r161_4 (F:Nums):List Ins:=[.mv 0 26 0,.ck 1 27 26,.f 2 28 27 0,.l 3 29 28,.mv 4 30 0,.ck 5 31 30,.f 6 32 31 1,.l 7 33 32,.mv 8 34 5,.x 9 35 33 34 5,.f 10 36 35 2,
 .i 11 37 (.ldn (.s 36) 3),.mv 12 38 0,.ck 13 39 38,.f 14 40 39 1,.l 15 41 40,.mv 16 42 4,.x 17 43 41 42 5,.f 18 44 43 2,.i 19 45 (.ldn (.s 44) 3),
 .i 20 46 (.call (.s 29) [.s 37,.s 45])]
abbrev r161_5 (F:Nums):List Ins:=[.mv 0 47 5,.mv 1 4 47]
abbrev r161_3 (F:Nums):List Ins:=[.mv 0 24 5,.i 1 25 (.bin .add (.s 24) (.c (.int .i64 1))),.mv 2 5 25]
abbrev r161_6 (F:Nums):List Ins:=[.mv 0 48 4,.mv 1 49 1,.b .eql 2 50 48 49]
abbrev r161_7 (F:Nums):List Ins:=[.mv 0 51 0,.mv 1 52 1,.mv 2 53 4,.i 3 54 (.call (.c (.fn F.theap_swap [])) [.s 51,.s 52,.s 53])]
abbrev r161_8 (F:Nums):List Ins:=[.mv 0 55 4,.mv 1 1 55]
abbrev c_theap_down (F:Nums):Fn:=⟨2,[],(.blk 0
 (.loop
  (.blk 1
   (.seq (.reg [0,1,4] 0 (r161_0 F))
    (.seq (.seq (.reg [0,1,4,5] 0 (r161_1 F))
     (.blk 2
     (.loop
      (.seq (.seq (.reg [0,1,4,5,23] 0 (r161_2 F))
        (.cond (.s 23)
        .skip
        (.exit 2)))
       (.seq (.blk 3
        (.seq (.reg [0,1,4,5,46] 0 (r161_4 F))
         (.cond (.s 46)
         (.reg [0,1,4,5] 0 (r161_5 F))
         .skip)))
       (.reg [0,1,4,5] 0 (r161_3 F)))))))
    (.seq (.seq (.reg [0,1,4,50] 0 (r161_6 F))
     (.cond (.s 50)
     .ret
     .skip))
    (.seq (.reg [0,4] 0 (r161_7 F))
    (.reg [0,1] 0 (r161_8 F)))))))))⟩
abbrev r162_0 (F:Nums):List Ins:=[.i 0 2 (.mov (.c (.nilp)))]
abbrev r162_1 (F:Nums):List Ins:=[.mv 0 3 0,.i 1 4 (.mkm 0 1),.i 2 5 (.bld [.nilf,.nils,.nilm] [(0,1,.s 3),(2,1,.s 4)]),.i 3 6 (.box 1 (.s 5)),.mv 4 2 6]
abbrev c_wheap_New (F:Nums):Fn:=⟨1,[.tmp 2],(.seq (.reg [0] 0 (r162_0 F))
 (.seq (.reg [2] 2 (r162_1 F))
 .ret))⟩
abbrev r163_0 (F:Nums):List Ins:=[.i 0 2 (.box 0 (.s 0)),.i 1 3 (.box 1 (.s 1)),.i 2 4 (.mov (.c (.bool false)))]
abbrev r163_1 (F:Nums):List Ins:=[.f 0 5 2 0,.i 1 6 (.ldn (.s 5) 2),.f 2 7 3 0,.i 3 8 (.ldn (.s 7) 2),.f 5 10 2 2,.l 6 11 10,.f 7 12 3 2,.l 8 13 12,⟨4,(some 9),none,[(none,11,.ld (.s 10)),(none,13,.ld (.s 12))],.call (.c (.fn F.ratio_Ratio_Compare [])) [.s 6,.s 8],0⟩,
 .i 9 14 (.call (.c (.fn F.cmp_Compare [])) [.s 11,.s 13]),.i 10 15 (.bsl 0 [.int .i64 0,.int .i64 0] [(0,1,.s 9),(1,1,.s 14)] 2 1),⟨11,(some 16),none,[],.call (.c (.fn F.cmp_Or [])) [.s 15],1⟩,
 .i 12 17 (.bin .lss (.s 16) (.c (.int .i64 0))),.mv 13 4 17]
abbrev c_warm_less (F:Nums):Fn:=⟨2,[.tmp 4],(.seq (.reg [2,3] 2 (r163_0 F))
 (.seq (.reg [4] 0 (r163_1 F))
 .ret))⟩
abbrev r164_0 (F:Nums):List Ins:=[.mv 0 6 0,.ck 1 7 6,.f 2 8 7 1,.l 3 9 8,.mv 4 10 1,.mv 5 11 0,.ck 6 12 11,.f 7 13 12 1,.l 8 14 13,.mv 9 15 2,.mv 10 16 0,.ck 11 17 16,
 .f 12 18 17 1,.l 13 19 18,.mv 14 20 2,.x 15 21 19 20 4,.i 16 22 (.ldn (.s 21) 4),.mv 17 23 0,.ck 18 24 23,.f 19 25 24 1,.l 20 26 25,
 .mv 21 27 1,.x 22 28 26 27 4,.i 23 29 (.ldn (.s 28) 4),.x 24 30 9 10 4,.j 25 (.stn (.s 30) (.s 22) 4),.x 26 31 14 15 4,.j 27 (.stn (.s 31) (.s 29) 4)]
abbrev r164_1 (F:Nums):List Ins:=[.mv 0 32 0,.ck 1 33 32,.f 2 34 33 2,.l 3 35 34,.mv 4 36 0,.ck 5 37 36,.f 6 38 37 1,.l 7 39 38,.mv 8 40 1,.x 9 41 39 40 4,.f 10 42 41 0,
 .l 11 43 42,.mv 12 44 0,.ck 13 45 44,.f 14 46 45 2,.l 15 47 46,.mv 16 48 0,.ck 17 49 48,.f 18 50 49 1,.l 19 51 50,.mv 20 52 2,.x 21 53 51 52 4,
 .f 22 54 53 0,.l 23 55 54,.mv 24 56 1,.mv 25 57 2,.i 26 58 (.ment 1 (.s 35) (.s 43) (.int .i64 0)),.e 27 59 58 1,.j 28 (.est (.s 35) (.s 59) (.s 56)),
 .i 29 60 (.ment 1 (.s 47) (.s 55) (.int .i64 0)),.e 30 61 60 1,.j 31 (.est (.s 47) (.s 61) (.s 57))]
abbrev c_wheap_swap (F:Nums):Fn:=⟨3,[],(.seq (.reg [0,1,2] 0 (r164_0 F))
 (.reg [] 0 (r164_1 F)))⟩
abbrev r165_0 (F:Nums):List Ins:=[.mv 0 4 0,.mv 1 5 1,.i 2 6 (.call (.c (.fn F.wheap_up [])) [.s 4,.s 5]),.nt 3 7 6]
abbrev r165_1 (F:Nums):List Ins:=[.mv 0 8 0,.mv 1 9 1,.i 2 10 (.call (.c (.fn F.wheap_down [])) [.s 8,.s 9])]
abbrev c_wheap_fix (F:Nums):Fn:=⟨2,[],(.seq (.reg [0,1,7] 0 (r165_0 F))
 (.cond (.s 7)
 (.reg [] 0 (r165_1 F))
 .skip))⟩
abbrev r166_0 (F:Nums):List Ins:=[.i 0 4 (.mov (.c (.int .u64 0))),.i 1 5 (.mov (.c (.int .u64 0)))]
abbrev r166_1 (F:Nums):List Ins:=[.mv 0 14 0,.i 1 15 (.bin .and (.s 14) (.c (.int .u64 4294967295))),.mv 2 6 15]
abbrev r166_2 (F:Nums):List Ins:=[.mv 0 16 0,.i 1 17 (.bin .shr (.s 16) (.c (.int .u64 32))),.mv 2 7 17]
abbrev r166_3 (F:Nums):List Ins:=[.mv 0 18 1,.i 1 19 (.bin .and (.s 18) (.c (.int .u64 4294967295))),.mv 2 8 19]
abbrev r166_4 (F:Nums):List Ins:=[.mv 0 20 1,.i 1 21 (.bin .shr (.s 20) (.c (.int .u64 32))),.mv 2 9 21]
abbrev r166_5 (F:Nums):List Ins:=[.mv 0 22 6,.mv 1 23 8,.b .mul 2 24 22 23,.mv 3 10 24]
abbrev r166_6 (F:Nums):List Ins:=[.mv 0 25 7,.mv 1 26 8,.b .mul 2 27 25 26,.mv 3 28 10,.i 4 29 (.bin .shr (.s 28) (.c (.int .u64 32))),.b .add 5 30 27 29,.mv 6 11 30]
abbrev r166_7 (F:Nums):List Ins:=[.mv 0 31 11,.i 1 32 (.bin .and (.s 31) (.c (.int .u64 4294967295))),.mv 2 12 32]
abbrev r166_8 (F:Nums):List Ins:=[.mv 0 33 11,.i 1 34 (.bin .shr (.s 33) (.c (.int .u64 32))),.mv 2 13 34]
abbrev r166_9 (F:Nums):List Ins:=[.mv 0 35 12,.mv 1 36 6,.mv 2 37 9,.b .mul 3 38 36 37,.b .add 4 39 35 38,.mv 5 12 39]
abbrev r166_10 (F:Nums):List Ins:=[.mv 0 40 7,.mv 1 41 9,.b .mul 2 42 40 41,.mv 3 43 13,.b .add 4 44 42 43,.mv 5 45 12,.i 6 46 (.bin .shr (.s 45) (.c (.int .u64 32))),.b .add 7 47 44 46,
 .mv 8 4 47]
abbrev r166_11 (F:Nums):List Ins:=[.mv 0 48 0,.mv 1 49 1,.b .mul 2 50 48 49,.mv 3 5 50]
abbrev c_math_bits_Mul64 (F:Nums):Fn:=⟨2,[.tmp 4,.tmp 5],(.seq (.reg [0,1] 0 (r166_0 F))
 (.seq (.reg [0,1,6] 0 (r166_1 F))
 (.seq (.reg [0,1,6,7] 0 (r166_2 F))
 (.seq (.reg [0,1,6,7,8] 0 (r166_3 F))
 (.seq (.reg [0,1,6,7,8,9] 0 (r166_4 F))
 (.seq (.reg [0,1,6,7,8,9,10] 0 (r166_5 F))
 (.seq (.reg [0,1,6,7,9,11] 0 (r166_6 F))
 (.seq (.reg [0,1,6,7,9,11,12] 0 (r166_7 F))
 (.seq (.reg [0,1,6,7,9,12,13] 0 (r166_8 F))
 (.seq (.reg [0,1,7,9,12,13] 0 (r166_9 F))
 (.seq (.reg [0,1,4] 0 (r166_10 F))
 (.seq (.reg [4,5] 0 (r166_11 F))
 .ret))))))))))))⟩
abbrev r167_0 (F:Nums):List Ins:=[.i 0 6 (.mov (.c (.int .u64 0))),.i 1 7 (.mov (.c (.int .u64 0)))]
abbrev r167_1 (F:Nums):List Ins:=[.mv 0 19 2,.i 1 20 (.bin .eql (.s 19) (.c (.int .u64 0)))]
abbrev r167_2 (F:Nums):List Ins:=[.i 0 21 (.pan),.j 1 (.pan)]
abbrev r167_3 (F:Nums):List Ins:=[.mv 0 22 2,.mv 1 23 0,.b .leq 2 24 22 23]
abbrev r167_4 (F:Nums):List Ins:=[.i 0 25 (.pan),.j 1 (.pan)]
abbrev r167_5 (F:Nums):List Ins:=[.mv 0 26 0,.i 1 27 (.bin .eql (.s 26) (.c (.int .u64 0)))]
abbrev r167_6 (F:Nums):List Ins:=[.mv 0 28 1,.mv 1 29 2,.b .quo 2 30 28 29,.mv 3 31 1,.mv 4 32 2,.b .rem 5 33 31 32,.mv 6 6 30,.mv 7 7 33]
abbrev r167_7 (F:Nums):List Ins:=[.mv 0 34 2,.i 1 35 (.call (.c (.fn F.math_bits_LeadingZeros64 [])) [.s 34]),.i 2 36 (.conv .u64 (.s 35)),.mv 3 8 36]
abbrev r167_8 (F:Nums):List Ins:=[.mv 0 37 2,.mv 1 38 8,.b .shl 2 39 37 38,.mv 3 2 39]
abbrev r167_9 (F:Nums):List Ins:=[.mv 0 40 2,.i 1 41 (.bin .shr (.s 40) (.c (.int .u64 32))),.mv 2 9 41]
abbrev r167_10 (F:Nums):List Ins:=[.mv 0 42 2,.i 1 43 (.bin .and (.s 42) (.c (.int .u64 4294967295))),.mv 2 10 43]
abbrev r167_11 (F:Nums):List Ins:=[.mv 0 44 0,.mv 1 45 8,.b .shl 2 46 44 45,.mv 3 47 1,.mv 4 48 8,.i 5 49 (.bin .sub (.c (.int .u64 64)) (.s 48)),.b .shr 6 50 47 49,.b .or 7 51 46 50,
 .mv 8 11 51]
abbrev r167_12 (F:Nums):List Ins:=[.mv 0 52 1,.mv 1 53 8,.b .shl 2 54 52 53,.mv 3 12 54]
abbrev r167_13 (F:Nums):List Ins:=[.mv 0 55 12,.i 1 56 (.bin .shr (.s 55) (.c (.int .u64 32))),.mv 2 13 56]
abbrev r167_14 (F:Nums):List Ins:=[.mv 0 57 12,.i 1 58 (.bin .and (.s 57) (.c (.int .u64 4294967295))),.mv 2 14 58]
abbrev r167_15 (F:Nums):List Ins:=[.mv 0 59 11,.mv 1 60 9,.b .quo 2 61 59 60,.mv 3 15 61]
abbrev r167_16 (F:Nums):List Ins:=[.mv 0 62 11,.mv 1 63 15,.mv 2 64 9,.b .mul 3 65 63 64,.b .sub 4 66 62 65,.mv 5 16 66]
abbrev r167_17 (F:Nums):List Ins:=[.mv 0 67 15,.i 1 68 (.bin .geq (.s 67) (.c (.int .u64 4294967296))),.mv 2 69 68,⟨3,(some 70),(some (69,false)),[],.mov (.s 15),0⟩,⟨4,(some 71),(some (69,false)),[],.mov (.s 10),0⟩,
 ⟨5,(some 72),(some (69,false)),[],.bin .mul (.s 70) (.s 71),0⟩,⟨6,(some 73),(some (69,false)),[],.mov (.s 16),0⟩,⟨7,(some 74),(some (69,false)),[],.bin .mul (.c (.int .u64 4294967296)) (.s 73),0⟩,
 ⟨8,(some 75),(some (69,false)),[],.mov (.s 13),0⟩,⟨9,(some 76),(some (69,false)),[],.bin .add (.s 74) (.s 75),0⟩,⟨10,(some 77),(some (69,false)),[],.bin .gtr (.s 72) (.s 76),0⟩,
 .i 11 78 (.pick (.s 69) (.c (.bool true)) (.s 77))]
abbrev r167_18 (F:Nums):List Ins:=[.mv 0 79 15,.i 1 80 (.bin .sub (.s 79) (.c (.int .u64 1))),.mv 2 15 80]
abbrev r167_19 (F:Nums):List Ins:=[.mv 0 81 16,.mv 1 82 9,.b .add 2 83 81 82,.mv 3 16 83]
abbrev r167_20 (F:Nums):List Ins:=[.mv 0 84 16,.i 1 85 (.bin .geq (.s 84) (.c (.int .u64 4294967296)))]
abbrev r167_21 (F:Nums):List Ins:=[.mv 0 86 11,.i 1 87 (.bin .mul (.s 86) (.c (.int .u64 4294967296))),.mv 2 88 13,.b .add 3 89 87 88,.mv 4 90 15,.mv 5 91 2,.b .mul 6 92 90 91,
 .b .sub 7 93 89 92,.mv 8 17 93]
abbrev r167_22 (F:Nums):List Ins:=[.mv 0 94 17,.mv 1 95 9,.b .quo 2 96 94 95,.mv 3 18 96]
abbrev r167_23 (F:Nums):List Ins:=[.mv 0 97 17,.mv 1 98 18,.mv 2 99 9,.b .mul 3 100 98 99,.b .sub 4 101 97 100,.mv 5 16 101]
abbrev r167_24 (F:Nums):List Ins:=[.mv 0 102 18,.i 1 103 (.bin .geq (.s 102) (.c (.int .u64 4294967296))),.mv 2 104 103,⟨3,(some 105),(some (104,false)),[],.mov (.s 18),0⟩,
 ⟨4,(some 106),(some (104,false)),[],.mov (.s 10),0⟩,⟨5,(some 107),(some (104,false)),[],.bin .mul (.s 105) (.s 106),0⟩,⟨6,(some 108),(some (104,false)),[],.mov (.s 16),0⟩,
 ⟨7,(some 109),(some (104,false)),[],.bin .mul (.c (.int .u64 4294967296)) (.s 108),0⟩,⟨8,(some 110),(some (104,false)),[],.mov (.s 14),0⟩,
 ⟨9,(some 111),(some (104,false)),[],.bin .add (.s 109) (.s 110),0⟩,⟨10,(some 112),(some (104,false)),[],.bin .gtr (.s 107) (.s 111),0⟩,
 .i 11 113 (.pick (.s 104) (.c (.bool true)) (.s 112))]
abbrev r167_25 (F:Nums):List Ins:=[.mv 0 114 18,.i 1 115 (.bin .sub (.s 114) (.c (.int .u64 1))),.mv 2 18 115]
abbrev r167_26 (F:Nums):List Ins:=[.mv 0 116 16,.mv 1 117 9,.b .add 2 118 116 117,.mv 3 16 118]
abbrev r167_27 (F:Nums):List Ins:=[.mv 0 119 16,.i 1 120 (.bin .geq (.s 119) (.c (.int .u64 4294967296)))]
abbrev r167_28 (F:Nums):List Ins:=[.mv 0 121 15,.i 1 122 (.bin .mul (.s 121) (.c (.int .u64 4294967296))),.mv 2 123 18,.b .add 3 124 122 123,.mv 4 125 17,.i 5 126 (.bin .mul (.s 125) (.c (.int .u64 4294967296))),
 .mv 6 127 14,.b .add 7 128 126 127,.mv 8 129 18,.mv 9 130 2,.b .mul 10 131 129 130,.b .sub 11 132 128 131,.mv 12 133 8,.b .shr 13 134 132 133,
 .mv 14 6 124,.mv 15 7 134]
abbrev c_math_bits_Div64 (F:Nums):Fn:=⟨3,[.tmp 6,.tmp 7],(.seq (.reg [0,1,2] 0 (r167_0 F))
 (.seq (.seq (.reg [0,1,2,20] 0 (r167_1 F))
  (.cond (.s 20)
  (.reg [0,1,2] 0 (r167_2 F))
  .skip))
 (.seq (.seq (.reg [0,1,2,24] 0 (r167_3 F))
  (.cond (.s 24)
  (.reg [0,1,2] 0 (r167_4 F))
  .skip))
 (.seq (.seq (.reg [0,1,2,27] 0 (r167_5 F))
  (.cond (.s 27)
  (.seq (.reg [6,7] 0 (r167_6 F))
   .ret)
  .skip))
 (.seq (.reg [0,1,2,8] 0 (r167_7 F))
 (.seq (.reg [0,1,2,8] 0 (r167_8 F))
 (.seq (.reg [0,1,2,8,9] 0 (r167_9 F))
 (.seq (.reg [0,1,2,8,9,10] 0 (r167_10 F))
 (.seq (.reg [1,2,8,9,10,11] 0 (r167_11 F))
 (.seq (.reg [2,8,9,10,11,12] 0 (r167_12 F))
 (.seq (.reg [2,8,9,10,11,12,13] 0 (r167_13 F))
 (.seq (.reg [2,8,9,10,11,13,14] 0 (r167_14 F))
 (.seq (.reg [2,8,9,10,11,13,14,15] 0 (r167_15 F))
 (.seq (.reg [2,8,9,10,11,13,14,15,16] 0 (r167_16 F))
 (.seq (.blk 0
  (.loop
   (.seq (.seq (.reg [2,8,9,10,11,13,14,15,16,78] 0 (r167_17 F))
     (.cond (.s 78)
     .skip
     (.exit 0)))
    (.blk 1
    (.seq (.reg [2,8,9,10,11,13,14,15,16] 0 (r167_18 F))
     (.seq (.reg [2,8,9,10,11,13,14,15,16] 0 (r167_19 F))
     (.seq (.reg [2,8,9,10,11,13,14,15,16,85] 0 (r167_20 F))
     (.cond (.s 85)
     (.exit 0)
     .skip))))))))
 (.seq (.reg [2,8,9,10,14,15,17] 0 (r167_21 F))
 (.seq (.reg [2,8,9,10,14,15,17,18] 0 (r167_22 F))
 (.seq (.reg [2,8,9,10,14,15,16,17,18] 0 (r167_23 F))
 (.seq (.blk 2
  (.loop
   (.seq (.seq (.reg [2,8,9,10,14,15,16,17,18,113] 0 (r167_24 F))
     (.cond (.s 113)
     .skip
     (.exit 2)))
    (.blk 3
    (.seq (.reg [2,8,9,10,14,15,16,17,18] 0 (r167_25 F))
     (.seq (.reg [2,8,9,10,14,15,16,17,18] 0 (r167_26 F))
     (.seq (.reg [2,8,9,10,14,15,16,17,18,120] 0 (r167_27 F))
     (.cond (.s 120)
     (.exit 2)
     .skip))))))))
 (.seq (.reg [6,7] 0 (r167_28 F))
 .ret))))))))))))))))))))⟩
abbrev r168_0 (F:Nums):List Ins:=[.i 0 6 (.mov (.c (.int .i64 0)))]
abbrev r168_1 (F:Nums):List Ins:=[.mv 0 8 2,.mv 1 9 8,⟨2,(some 10),(some (9,true)),[],.mov (.s 0),0⟩,⟨3,(some 11),(some (9,true)),[],.bin .gtr (.s 10) (.c (.int .u64 0)),0⟩,
 ⟨4,(some 12),(some (9,true)),[],.mov (.s 11),0⟩,⟨5,(some 13),(some (12,false)),[],.mov (.s 1),0⟩,⟨6,(some 14),(some (12,false)),[],.bin .gtr (.s 13) (.c (.int .u64 9223372036854775808)),0⟩,
 ⟨7,(some 15),(some (9,true)),[],.pick (.s 12) (.c (.bool true)) (.s 14),0⟩,.i 8 16 (.pick (.s 9) (.s 15) (.c (.bool false))),.mv 9 7 16]
abbrev r168_2 (F:Nums):List Ins:=[.i 0 6 (.mov (.c (.int .i64 (-9223372036854775808))))]
abbrev r168_3 (F:Nums):List Ins:=[.mv 0 18 2,.nt 1 19 18,.mv 2 20 19,⟨3,(some 21),(some (20,true)),[],.mov (.s 0),0⟩,⟨4,(some 22),(some (20,true)),[],.bin .gtr (.s 21) (.c (.int .u64 0)),0⟩,
 ⟨5,(some 23),(some (20,true)),[],.mov (.s 22),0⟩,⟨6,(some 24),(some (23,false)),[],.mov (.s 1),0⟩,⟨7,(some 25),(some (23,false)),[],.bin .gtr (.s 24) (.c (.int .u64 9223372036854775807)),0⟩,
 ⟨8,(some 26),(some (20,true)),[],.pick (.s 23) (.c (.bool true)) (.s 25),0⟩,.i 9 27 (.pick (.s 20) (.s 26) (.c (.bool false))),.mv 10 17 27]
abbrev r168_4 (F:Nums):List Ins:=[.i 0 6 (.mov (.c (.int .i64 9223372036854775807)))]
abbrev r168_5 (F:Nums):List Ins:=[.mv 0 29 2,.mv 1 28 29]
abbrev r168_6 (F:Nums):List Ins:=[.mv 0 30 1,.i 1 31 (.neg (.s 30)),.i 2 32 (.conv .i64 (.s 31)),.mv 3 6 32]
abbrev r168_7 (F:Nums):List Ins:=[.mv 0 33 1,.i 1 34 (.conv .i64 (.s 33)),.mv 2 6 34]
abbrev c_num_signed (F:Nums):Fn:=⟨3,[.tmp 6],(.seq (.reg [0,1,2] 0 (r168_0 F))
 (.seq (.blk 0
  (.seq (.reg [0,1,2,7] 0 (r168_1 F))
   (.cond (.s 7)
   (.seq (.reg [6] 0 (r168_2 F))
    .ret)
   (.seq (.reg [1,2,17] 0 (r168_3 F))
    (.cond (.s 17)
    (.seq (.reg [6] 0 (r168_4 F))
     .ret)
    (.seq (.reg [1,28] 0 (r168_5 F))
     (.cond (.s 28)
     (.seq (.reg [6] 0 (r168_6 F))
      .ret)
     .skip)))))))
 (.seq (.reg [6] 0 (r168_7 F))
 .ret)))⟩
abbrev r169_0 (F:Nums):List Ins:=[.i 0 8 (.mov (.c (.int .i64 0))),.i 1 9 (.mov (.c (.int .i64 0)))]
abbrev r169_1 (F:Nums):List Ins:=[.mv 0 10 0,.mv 1 11 2,.x 2 12 10 11 1,.l 3 13 12,.mv 4 14 0,.mv 5 15 1,.x 6 16 14 15 1,.l 7 17 16,.i 8 18 (.call (.c (.fn F.cmp_Less [])) [.s 13,.s 17])]
abbrev r169_2 (F:Nums):List Ins:=[.mv 0 19 3,.ck 1 20 19,.l 2 21 20,.i 3 22 (.bin .add (.s 21) (.c (.int .i64 1))),.ck 4 23 19,.st 5 23 22]
abbrev r169_3 (F:Nums):List Ins:=[.mv 0 24 2,.mv 1 25 1,.mv 2 8 24,.mv 3 9 25]
abbrev r169_4 (F:Nums):List Ins:=[.mv 0 26 1,.mv 1 27 2,.mv 2 8 26,.mv 3 9 27]
abbrev c_slices_order2Ordered (F:Nums):Fn:=⟨4,[.tmp 8,.tmp 9],(.seq (.reg [0,1,2,3] 0 (r169_0 F))
 (.seq (.seq (.reg [1,2,3,18] 0 (r169_1 F))
  (.cond (.s 18)
  (.seq (.reg [1,2] 0 (r169_2 F))
   (.seq (.reg [8,9] 0 (r169_3 F))
   .ret))
  .skip))
 (.seq (.reg [8,9] 0 (r169_4 F))
 .ret)))⟩
abbrev r170_0 (F:Nums):List Ins:=[.i 0 2 (.box 0 (.s 0)),.i 1 3 (.box 1 (.s 1)),.i 2 4 (.mov (.c (.int .i64 0)))]
abbrev r170_1 (F:Nums):List Ins:=[.f 0 10 2 0,.l 1 11 10,.f 2 12 3 1,.l 3 13 12,.i 4 14 (.call (.c (.fn F.math_bits_Mul64 [])) [.s 11,.s 13]),.mv 5 9 14,.e 6 15 9 0,.e 7 16 9 1,
 .mv 8 5 15,.mv 9 6 16]
abbrev r170_2 (F:Nums):List Ins:=[.f 0 18 3 0,.l 1 19 18,.f 2 20 2 1,.l 3 21 20,.i 4 22 (.call (.c (.fn F.math_bits_Mul64 [])) [.s 19,.s 21]),.mv 5 17 22,.e 6 23 17 0,
 .e 7 24 17 1,.mv 8 7 23,.mv 9 8 24]
abbrev r170_3 (F:Nums):List Ins:=[.mv 0 25 5,.mv 1 26 7,.i 2 27 (.call (.c (.fn F.cmp_Compare_uint64 [])) [.s 25,.s 26]),.mv 3 28 6,.mv 4 29 8,.i 5 30 (.call (.c (.fn F.cmp_Compare_uint64 [])) [.s 28,.s 29]),
 .i 6 31 (.bsl 0 [.int .i64 0,.int .i64 0] [(0,1,.s 27),(1,1,.s 30)] 2 1),⟨7,(some 32),none,[],.call (.c (.fn F.cmp_Or [])) [.s 31],1⟩,
 .mv 8 4 32]
abbrev c_ratio_Ratio_Compare (F:Nums):Fn:=⟨2,[.tmp 4],(.seq (.reg [2,3] 2 (r170_0 F))
 (.seq (.reg [2,3,5,6] 0 (r170_1 F))
 (.seq (.reg [5,6,7,8] 0 (r170_2 F))
 (.seq (.reg [4] 0 (r170_3 F))
 .ret))))⟩
abbrev r171_0 (F:Nums):List Ins:=[.i 0 4 (.mov (.c (.bool false)))]
abbrev r171_1 (F:Nums):List Ins:=[.mv 0 6 1,.mv 1 5 6]
abbrev r171_2 (F:Nums):List Ins:=[.mv 0 7 1,.i 1 8 (.bin .gtr (.s 7) (.c (.int .i64 0))),.mv 2 9 8,⟨3,(some 10),(some (9,true)),[],.mov (.s 0),0⟩,⟨4,(some 11),(some (9,true)),[],.chk (.s 10),0⟩,
 ⟨5,(some 12),(some (9,true)),[],.fa (.s 11) 0,0⟩,⟨6,(some 13),(some (9,true)),[],.ld (.s 12),0⟩,⟨7,(some 14),(some (9,true)),[],.mov (.s 0),0⟩,
 ⟨8,(some 15),(some (9,true)),[],.chk (.s 14),0⟩,⟨9,(some 16),(some (9,true)),[],.fa (.s 15) 1,0⟩,⟨10,(some 17),(some (9,true)),[],.ld (.s 16),0⟩,
 ⟨11,(some 18),(some (9,true)),[],.mov (.s 1),0⟩,⟨12,(some 19),(some (9,true)),[],.ix (.s 17) (.s 18) 4,0⟩,⟨13,(some 20),(some (9,true)),[],.fa (.s 19) 1,0⟩,
 ⟨14,(some 21),(some (9,true)),[],.ldn (.s 20) 3,0⟩,⟨15,(some 22),(some (9,true)),[],.mov (.s 0),0⟩,⟨16,(some 23),(some (9,true)),[],.chk (.s 22),0⟩,
 ⟨17,(some 24),(some (9,true)),[],.fa (.s 23) 1,0⟩,⟨18,(some 25),(some (9,true)),[],.ld (.s 24),0⟩,⟨19,(some 26),(some (9,true)),[],.mov (.s 1),0⟩,
 ⟨20,(some 27),(some (9,true)),[],.bin .sub (.s 26) (.c (.int .i64 1)),0⟩,⟨21,(some 28),(some (9,true)),[],.bin .quo (.s 27) (.c (.int .i64 2)),0⟩,
 ⟨22,(some 29),(some (9,true)),[],.ix (.s 25) (.s 28) 4,0⟩,⟨23,(some 30),(some (9,true)),[],.fa (.s 29) 1,0⟩,⟨24,(some 31),(some (9,true)),[],.ldn (.s 30) 3,0⟩,
 ⟨25,(some 32),(some (9,true)),[],.call (.s 13) [.s 21,.s 31],0⟩,.i 26 33 (.pick (.s 9) (.s 32) (.c (.bool false)))]
abbrev r171_3 (F:Nums):List Ins:=[.mv 0 34 0,.mv 1 35 1,.mv 2 36 1,.i 3 37 (.bin .sub (.s 36) (.c (.int .i64 1))),.i 4 38 (.bin .quo (.s 37) (.c (.int .i64 2))),.i 5 39 (.call (.c (.fn F.wheap_swap [])) [.s 34,.s 35,.s 38])]
abbrev r171_4 (F:Nums):List Ins:=[.mv 0 40 1,.i 1 41 (.bin .sub (.s 40) (.c (.int .i64 1))),.i 2 42 (.bin .quo (.s 41) (.c (.int .i64 2))),.mv 3 1 42]
abbrev r171_5 (F:Nums):List Ins:=[.mv 0 43 1,.mv 1 44 5,.b .neq 2 45 43 44,.mv 3 4 45]
abbrev c_wheap_up (F:Nums):Fn:=⟨2,[.tmp 4],(.seq (.reg [0,1] 0 (r171_0 F))
 (.seq (.reg [0,1,5] 0 (r171_1 F))
 (.seq (.blk 0
  (.loop
   (.seq (.seq (.reg [0,1,5,33] 0 (r171_2 F))
     (.cond (.s 33)
     .skip
     (.exit 0)))
    (.blk 1
    (.seq (.reg [0,1,5] 0 (r171_3 F))
     (.reg [0,1,5] 0 (r171_4 F)))))))
 (.seq (.reg [4] 0 (r171_5 F))
 .ret))))⟩
abbrev r172_0 (F:Nums):List Ins:=[.mv 0 6 1,.mv 1 4 6]
abbrev r172_1 (F:Nums):List Ins:=[.mv 0 7 1,.i 1 8 (.bin .mul (.c (.int .i64 2)) (.s 7)),.i 2 9 (.bin .add (.s 8) (.c (.int .i64 1))),.mv 3 5 9]
abbrev r172_2 (F:Nums):List Ins:=[.mv 0 10 5,.mv 1 11 1,.i 2 12 (.bin .mul (.c (.int .i64 2)) (.s 11)),.i 3 13 (.bin .add (.s 12) (.c (.int .i64 2))),.b .leq 4 14 10 13,.mv 5 15 14,
 ⟨6,(some 16),(some (15,true)),[],.mov (.s 5),0⟩,⟨7,(some 17),(some (15,true)),[],.mov (.s 0),0⟩,⟨8,(some 18),(some (15,true)),[],.chk (.s 17),0⟩,
 ⟨9,(some 19),(some (15,true)),[],.fa (.s 18) 1,0⟩,⟨10,(some 20),(some (15,true)),[],.ld (.s 19),0⟩,⟨11,(some 21),(some (15,true)),[],.len (.s 20),0⟩,
 ⟨12,(some 22),(some (15,true)),[],.bin .lss (.s 16) (.s 21),0⟩,.i 13 23 (.pick (.s 15) (.s 22) (.c (.bool false)))]
abbrev r172_4 (F:Nums):List Ins:=[.mv 0 26 0,.ck 1 27 26,.f 2 28 27 0,.l 3 29 28,.mv 4 30 0,.ck 5 31 30,.f 6 32 31 1,.l 7 33 32,.mv 8 34 5,.x 9 35 33 34 4,.f 10 36 35 1,
 .i 11 37 (.ldn (.s 36) 3),.mv 12 38 0,.ck 13 39 38,.f 14 40 39 1,.l 15 41 40,.mv 16 42 4,.x 17 43 41 42 4,.f 18 44 43 1,.i 19 45 (.ldn (.s 44) 3),
 .i 20 46 (.call (.s 29) [.s 37,.s 45])]
abbrev r172_5 (F:Nums):List Ins:=[.mv 0 47 5,.mv 1 4 47]
abbrev r172_3 (F:Nums):List Ins:=[.mv 0 24 5,.i 1 25 (.bin .add (.s 24) (.c (.int .i64 1))),.mv 2 5 25]
abbrev r172_6 (F:Nums):List Ins:=[.mv 0 48 4,.mv 1 49 1,.b .eql 2 50 48 49]
abbrev r172_7 (F:Nums):List Ins:=[.mv 0 51 0,.mv 1 52 1,.mv 2 53 4,.i 3 54 (.call (.c (.fn F.wheap_swap [])) [.s 51,.s 52,.s 53])]
abbrev r172_8 (F:Nums):List Ins:=[.mv 0 55 4,.mv 1 1 55]
abbrev c_wheap_down (F:Nums):Fn:=⟨2,[],(.blk 0
 (.loop
  (.blk 1
   (.seq (.reg [0,1,4] 0 (r172_0 F))
    (.seq (.seq (.reg [0,1,4,5] 0 (r172_1 F))
     (.blk 2
     (.loop
      (.seq (.seq (.reg [0,1,4,5,23] 0 (r172_2 F))
        (.cond (.s 23)
        .skip
        (.exit 2)))
       (.seq (.blk 3
        (.seq (.reg [0,1,4,5,46] 0 (r172_4 F))
         (.cond (.s 46)
         (.reg [0,1,4,5] 0 (r172_5 F))
         .skip)))
       (.reg [0,1,4,5] 0 (r172_3 F)))))))
    (.seq (.seq (.reg [0,1,4,50] 0 (r172_6 F))
     (.cond (.s 50)
     .ret
     .skip))
    (.seq (.reg [0,4] 0 (r172_7 F))
    (.reg [0,1] 0 (r172_8 F)))))))))⟩
abbrev r173_0 (F:Nums):List Ins:=[.i 0 2 (.mov (.c (.int .i64 0)))]
abbrev r173_1 (F:Nums):List Ins:=[.mv 0 3 0,.i 1 4 (.call (.c (.fn F.math_bits_Len64 [])) [.s 3]),.i 2 5 (.bin .sub (.c (.int .i64 64)) (.s 4)),.mv 3 2 5]
abbrev c_math_bits_LeadingZeros64 (F:Nums):Fn:=⟨1,[.tmp 2],(.seq (.reg [0] 0 (r173_0 F))
 (.seq (.reg [2] 0 (r173_1 F))
 .ret))⟩
abbrev r174_0 (F:Nums):List Ins:=[.i 0 4 (.mov (.c (.int .i64 0)))]
abbrev r174_1 (F:Nums):List Ins:=[.mv 0 7 0,.i 1 8 (.call (.c (.fn F.cmp_isNaN_uint64 [])) [.s 7]),.mv 2 5 8]
abbrev r174_2 (F:Nums):List Ins:=[.mv 0 9 1,.i 1 10 (.call (.c (.fn F.cmp_isNaN_uint64 [])) [.s 9]),.mv 2 6 10]
abbrev r174_3 (F:Nums):List Ins:=[.mv 0 11 5]
abbrev r174_4 (F:Nums):List Ins:=[.mv 0 12 6]
abbrev r174_5 (F:Nums):List Ins:=[.i 0 4 (.mov (.c (.int .i64 0)))]
abbrev r174_6 (F:Nums):List Ins:=[.i 0 4 (.mov (.c (.int .i64 (-1))))]
abbrev r174_7 (F:Nums):List Ins:=[.mv 0 13 6]
abbrev r174_8 (F:Nums):List Ins:=[.i 0 4 (.mov (.c (.int .i64 1)))]
abbrev r174_9 (F:Nums):List Ins:=[.mv 0 14 0,.mv 1 15 1,.b .lss 2 16 14 15]
abbrev r174_10 (F:Nums):List Ins:=[.i 0 4 (.mov (.c (.int .i64 (-1))))]
abbrev r174_11 (F:Nums):List Ins:=[.mv 0 17 0,.mv 1 18 1,.b .gtr 2 19 17 18]
abbrev r174_12 (F:Nums):List Ins:=[.i 0 4 (.mov (.c (.int .i64 1)))]
abbrev r174_13 (F:Nums):List Ins:=[.i 0 4 (.mov (.c (.int .i64 0)))]
abbrev c_cmp_Compare_uint64 (F:Nums):Fn:=⟨2,[.tmp 4],(.seq (.reg [0,1] 0 (r174_0 F))
 (.seq (.reg [0,1,5] 0 (r174_1 F))
 (.seq (.reg [0,1,5,6] 0 (r174_2 F))
 (.seq (.seq (.reg [0,1,6,11] 0 (r174_3 F))
  (.cond (.s 11)
  (.seq (.seq (.reg [12] 0 (r174_4 F))
    (.cond (.s 12)
    (.seq (.reg [4] 0 (r174_5 F))
     .ret)
    .skip))
   (.seq (.reg [4] 0 (r174_6 F))
   .ret))
  .skip))
 (.seq (.seq (.reg [0,1,13] 0 (r174_7 F))
  (.cond (.s 13)
  (.seq (.reg [4] 0 (r174_8 F))
   .ret)
  .skip))
 (.seq (.seq (.reg [0,1,16] 0 (r174_9 F))
  (.cond (.s 16)
  (.seq (.reg [4] 0 (r174_10 F))
   .ret)
  .skip))
 (.seq (.seq (.reg [19] 0 (r174_11 F))
  (.cond (.s 19)
  (.seq (.reg [4] 0 (r174_12 F))
   .ret)
  .skip))
 (.seq (.reg [4] 0 (r174_13 F))
 .ret))))))))⟩
abbrev r175_0 (F:Nums):List Ins:=[.i 0 2 (.mov (.c (.bool false)))]
abbrev r175_1 (F:Nums):List Ins:=[.mv 0 3 0,.mv 1 4 0,.b .neq 2 5 3 4,.mv 3 2 5]
abbrev c_cmp_isNaN_uint64 (F:Nums):Fn:=⟨1,[.tmp 2],(.seq (.reg [0] 0 (r175_0 F))
 (.seq (.reg [2] 0 (r175_1 F))
 .ret))⟩
end Go.Ab

namespace Go.Ab
open Go
structure Good (P:Program) (F:Nums):Prop where
 mixed:P.follows .mixedOrders=true
 law18_CoreEnds:chkFn P F.law18_CoreEnds (c_law18_CoreEnds F)=true
 law18_head:chkFn P F.law18_head (c_law18_head F)=true
 core_Boxes:chkFn P F.core_Boxes (c_core_Boxes F)=true
 core_Do:chkFn P F.core_Do (c_core_Do F)=true
 core_Busy:chkFn P F.core_Busy (c_core_Busy F)=true
 core_New:chkFn P F.core_New (c_core_New F)=true
 core_Free:chkFn P F.core_Free (c_core_Free F)=true
 core_Ends:chkFn P F.core_Ends (c_core_Ends F)=true
 core_Now:chkFn P F.core_Now (c_core_Now F)=true
 core_ids:chkFn P F.core_ids (c_core_ids F)=true
 event_Event_Right:chkFn P F.event_Event_Right (c_event_Event_Right F)=true
 core_act:chkFn P F.core_act (c_core_act F)=true
 tally_Add:chkFn P F.tally_Add (c_tally_Add F)=true
 quota_Busy:chkFn P F.quota_Busy (c_quota_Busy F)=true
 quota_New:chkFn P F.quota_New (c_quota_New F)=true
 host_New:chkFn P F.host_New (c_host_New F)=true
 timer_New:chkFn P F.timer_New (c_timer_New F)=true
 host_Free:chkFn P F.host_Free (c_host_Free F)=true
 timer_At:chkFn P F.timer_At (c_timer_At F)=true
 slices_Sorted:chkFn P F.slices_Sorted (c_slices_Sorted F)=true
 Keys_box:chkFn P F.Keys_box (c_Keys_box F)=true
 event_Event_parts:chkFn P F.event_Event_parts (c_event_Event_parts F)=true
 core_tick:chkFn P F.core_tick (c_core_tick F)=true
 core_account:chkFn P F.core_account (c_core_account F)=true
 core_function:chkFn P F.core_function (c_core_function F)=true
 host_Add:chkFn P F.host_Add (c_host_Add F)=true
 core_keepAll:chkFn P F.core_keepAll (c_core_keepAll F)=true
 core_drain:chkFn P F.core_drain (c_core_drain F)=true
 core_fail:chkFn P F.core_fail (c_core_fail F)=true
 core_call:chkFn P F.core_call (c_core_call F)=true
 core_booted:chkFn P F.core_booted (c_core_booted F)=true
 core_broke:chkFn P F.core_broke (c_core_broke F)=true
 core_done:chkFn P F.core_done (c_core_done F)=true
 sync_atomic_Int64_Load:chkFn P F.sync_atomic_Int64_Load (c_sync_atomic_Int64_Load F)=true
 num_Add:chkFn P F.num_Add (c_num_Add F)=true
 sync_atomic_Int64_CompareAndSwap:chkFn P F.sync_atomic_Int64_CompareAndSwap (c_sync_atomic_Int64_CompareAndSwap F)=true
 quota_known:chkFn P F.quota_known (c_quota_known F)=true
 theap_New:chkFn P F.theap_New (c_theap_New F)=true
 timer_less:chkFn P F.timer_less (c_timer_less F)=true
 host_there:chkFn P F.host_there (c_host_there F)=true
 theap_Get:chkFn P F.theap_Get (c_theap_Get F)=true
 core_window:chkFn P F.core_window (c_core_window F)=true
 bucket_Tokens:chkFn P F.bucket_Tokens (c_bucket_Tokens F)=true
 tally_Load:chkFn P F.tally_Load (c_tally_Load F)=true
 slices_Collect:chkFn P F.slices_Collect (c_slices_Collect F)=true
 slices_Sort:chkFn P F.slices_Sort (c_slices_Sort F)=true
 Keys_box_1:chkFn P F.Keys_box_1 (c_Keys_box_1 F)=true
 bucket_Tick:chkFn P F.bucket_Tick (c_bucket_Tick F)=true
 timer_Next:chkFn P F.timer_Next (c_timer_Next F)=true
 core_kill:chkFn P F.core_kill (c_core_kill F)=true
 core_ahead:chkFn P F.core_ahead (c_core_ahead F)=true
 quota_SetAccount:chkFn P F.quota_SetAccount (c_quota_SetAccount F)=true
 bucket_Set:chkFn P F.bucket_Set (c_bucket_Set F)=true
 bucket_New:chkFn P F.bucket_New (c_bucket_New F)=true
 quota_SetFunc:chkFn P F.quota_SetFunc (c_quota_SetFunc F)=true
 histo_New:chkFn P F.histo_New (c_histo_New F)=true
 ring_New:chkFn P F.ring_New (c_ring_New F)=true
 core_keep:chkFn P F.core_keep (c_core_keep F)=true
 Keys_fn:chkFn P F.Keys_fn (c_Keys_fn F)=true
 host_Drain:chkFn P F.host_Drain (c_host_Drain F)=true
 core_where:chkFn P F.core_where (c_core_where F)=true
 core_drain_1:chkFn P F.core_drain_1 (c_core_drain_1 F)=true
 box_Runs:chkFn P F.box_Runs (c_box_Runs F)=true
 host_There:chkFn P F.host_There (c_host_There F)=true
 core_fail_1:chkFn P F.core_fail_1 (c_core_fail_1 F)=true
 core_gone:chkFn P F.core_gone (c_core_gone F)=true
 host_Fail:chkFn P F.host_Fail (c_host_Fail F)=true
 quota_Ask:chkFn P F.quota_Ask (c_quota_Ask F)=true
 core_free:chkFn P F.core_free (c_core_free F)=true
 core_begin:chkFn P F.core_begin (c_core_begin F)=true
 core_room:chkFn P F.core_room (c_core_room F)=true
 bucket_Take:chkFn P F.bucket_Take (c_bucket_Take F)=true
 core_start:chkFn P F.core_start (c_core_start F)=true
 box_Booted:chkFn P F.box_Booted (c_box_Booted F)=true
 box_Idle:chkFn P F.box_Idle (c_box_Idle F)=true
 core_idle:chkFn P F.core_idle (c_core_idle F)=true
 box_Done:chkFn P F.box_Done (c_box_Done F)=true
 quota_End:chkFn P F.quota_End (c_quota_End F)=true
 host_Up:chkFn P F.host_Up (c_host_Up F)=true
 timer_Set:chkFn P F.timer_Set (c_timer_Set F)=true
 cmp_Or:chkFn P F.cmp_Or (c_cmp_Or F)=true
 cmp_Compare_int64:chkFn P F.cmp_Compare_int64 (c_cmp_Compare_int64 F)=true
 cmp_Compare:chkFn P F.cmp_Compare (c_cmp_Compare F)=true
 policy_Of:chkFn P F.policy_Of (c_policy_Of F)=true
 slices_pdqsortOrdered:chkFn P F.slices_pdqsortOrdered (c_slices_pdqsortOrdered F)=true
 math_bits_Len:chkFn P F.math_bits_Len (c_math_bits_Len F)=true
 theap_Min:chkFn P F.theap_Min (c_theap_Min F)=true
 theap_Drop:chkFn P F.theap_Drop (c_theap_Drop F)=true
 core_ahead_1:chkFn P F.core_ahead_1 (c_core_ahead_1 F)=true
 host_Fit:chkFn P F.host_Fit (c_host_Fit F)=true
 quota_sums:chkFn P F.quota_sums (c_quota_sums F)=true
 bucket_bound:chkFn P F.bucket_bound (c_bucket_bound F)=true
 slices_Backward:chkFn P F.slices_Backward (c_slices_Backward F)=true
 core_pinned:chkFn P F.core_pinned (c_core_pinned F)=true
 core_spare:chkFn P F.core_spare (c_core_spare F)=true
 core_take:chkFn P F.core_take (c_core_take F)=true
 Keys_fn_1:chkFn P F.Keys_fn_1 (c_Keys_fn_1 F)=true
 host_sweep:chkFn P F.host_sweep (c_host_sweep F)=true
 slices_DeleteFunc:chkFn P F.slices_DeleteFunc (c_slices_DeleteFunc F)=true
 core_where_1:chkFn P F.core_where_1 (c_core_where_1 F)=true
 box_Kill:chkFn P F.box_Kill (c_box_Kill F)=true
 host_Give:chkFn P F.host_Give (c_host_Give F)=true
 core_free_1:chkFn P F.core_free_1 (c_core_free_1 F)=true
 histo_Add:chkFn P F.histo_Add (c_histo_Add F)=true
 ring_Push:chkFn P F.ring_Push (c_ring_Push F)=true
 timer_Drop:chkFn P F.timer_Drop (c_timer_Drop F)=true
 quota_Begin:chkFn P F.quota_Begin (c_quota_Begin F)=true
 box_Call:chkFn P F.box_Call (c_box_Call F)=true
 core_room_1:chkFn P F.core_room_1 (c_core_room_1 F)=true
 core_cache:chkFn P F.core_cache (c_core_cache F)=true
 warm_Evict:chkFn P F.warm_Evict (c_warm_Evict F)=true
 host_Take:chkFn P F.host_Take (c_host_Take F)=true
 box_New:chkFn P F.box_New (c_box_New F)=true
 warm_Set:chkFn P F.warm_Set (c_warm_Set F)=true
 theap_Set:chkFn P F.theap_Set (c_theap_Set F)=true
 cmp_isNaN_int64:chkFn P F.cmp_isNaN_int64 (c_cmp_isNaN_int64 F)=true
 cmp_isNaN:chkFn P F.cmp_isNaN (c_cmp_isNaN F)=true
 histo_In:chkFn P F.histo_In (c_histo_In F)=true
 histo_Over:chkFn P F.histo_Over (c_histo_Over F)=true
 policy_fixed:chkFn P F.policy_fixed (c_policy_fixed F)=true
 policy_ahead:chkFn P F.policy_ahead (c_policy_ahead F)=true
 cast_Next:chkFn P F.cast_Next (c_cast_Next F)=true
 ring_List:chkFn P F.ring_List (c_ring_List F)=true
 histo_Spread:chkFn P F.histo_Spread (c_histo_Spread F)=true
 histo_Cut:chkFn P F.histo_Cut (c_histo_Cut F)=true
 num_Frac:chkFn P F.num_Frac (c_num_Frac F)=true
 num_FracUp:chkFn P F.num_FracUp (c_num_FracUp F)=true
 slices_insertionSortOrdered:chkFn P F.slices_insertionSortOrdered (c_slices_insertionSortOrdered F)=true
 slices_heapSortOrdered:chkFn P F.slices_heapSortOrdered (c_slices_heapSortOrdered F)=true
 slices_breakPatternsOrdered:chkFn P F.slices_breakPatternsOrdered (c_slices_breakPatternsOrdered F)=true
 slices_choosePivotOrdered:chkFn P F.slices_choosePivotOrdered (c_slices_choosePivotOrdered F)=true
 slices_reverseRangeOrdered:chkFn P F.slices_reverseRangeOrdered (c_slices_reverseRangeOrdered F)=true
 slices_partialInsertionSortOrdered:chkFn P F.slices_partialInsertionSortOrdered (c_slices_partialInsertionSortOrdered F)=true
 cmp_Less:chkFn P F.cmp_Less (c_cmp_Less F)=true
 slices_partitionEqualOrdered:chkFn P F.slices_partitionEqualOrdered (c_slices_partitionEqualOrdered F)=true
 slices_partitionOrdered:chkFn P F.slices_partitionOrdered (c_slices_partitionOrdered F)=true
 math_bits_Len32:chkFn P F.math_bits_Len32 (c_math_bits_Len32 F)=true
 math_bits_Len64:chkFn P F.math_bits_Len64 (c_math_bits_Len64 F)=true
 theap_swap:chkFn P F.theap_swap (c_theap_swap F)=true
 theap_fix:chkFn P F.theap_fix (c_theap_fix F)=true
 slices_Backward_1:chkFn P F.slices_Backward_1 (c_slices_Backward_1 F)=true
 core_pinned_1:chkFn P F.core_pinned_1 (c_core_pinned_1 F)=true
 core_spare_1:chkFn P F.core_spare_1 (c_core_spare_1 F)=true
 warm_Drop:chkFn P F.warm_Drop (c_warm_Drop F)=true
 slices_IndexFunc:chkFn P F.slices_IndexFunc (c_slices_IndexFunc F)=true
 histo_halve:chkFn P F.histo_halve (c_histo_halve F)=true
 warm_New:chkFn P F.warm_New (c_warm_New F)=true
 wheap_Min:chkFn P F.wheap_Min (c_wheap_Min F)=true
 wheap_Drop:chkFn P F.wheap_Drop (c_wheap_Drop F)=true
 ratio_Ratio_Floor:chkFn P F.ratio_Ratio_Floor (c_ratio_Ratio_Floor F)=true
 ratio_Above:chkFn P F.ratio_Above (c_ratio_Above F)=true
 wheap_Set:chkFn P F.wheap_Set (c_wheap_Set F)=true
 num_Clamp:chkFn P F.num_Clamp (c_num_Clamp F)=true
 ring_Len:chkFn P F.ring_Len (c_ring_Len F)=true
 num_part:chkFn P F.num_part (c_num_part F)=true
 slices_siftDownOrdered:chkFn P F.slices_siftDownOrdered (c_slices_siftDownOrdered F)=true
 slices_nextPowerOfTwo:chkFn P F.slices_nextPowerOfTwo (c_slices_nextPowerOfTwo F)=true
 slices_xorshift_Next:chkFn P F.slices_xorshift_Next (c_slices_xorshift_Next F)=true
 slices_medianAdjacentOrdered:chkFn P F.slices_medianAdjacentOrdered (c_slices_medianAdjacentOrdered F)=true
 slices_medianOrdered:chkFn P F.slices_medianOrdered (c_slices_medianOrdered F)=true
 theap_up:chkFn P F.theap_up (c_theap_up F)=true
 theap_down:chkFn P F.theap_down (c_theap_down F)=true
 wheap_New:chkFn P F.wheap_New (c_wheap_New F)=true
 warm_less:chkFn P F.warm_less (c_warm_less F)=true
 wheap_swap:chkFn P F.wheap_swap (c_wheap_swap F)=true
 wheap_fix:chkFn P F.wheap_fix (c_wheap_fix F)=true
 math_bits_Mul64:chkFn P F.math_bits_Mul64 (c_math_bits_Mul64 F)=true
 math_bits_Div64:chkFn P F.math_bits_Div64 (c_math_bits_Div64 F)=true
 num_signed:chkFn P F.num_signed (c_num_signed F)=true
 slices_order2Ordered:chkFn P F.slices_order2Ordered (c_slices_order2Ordered F)=true
 ratio_Ratio_Compare:chkFn P F.ratio_Ratio_Compare (c_ratio_Ratio_Compare F)=true
 wheap_up:chkFn P F.wheap_up (c_wheap_up F)=true
 wheap_down:chkFn P F.wheap_down (c_wheap_down F)=true
 math_bits_LeadingZeros64:chkFn P F.math_bits_LeadingZeros64 (c_math_bits_LeadingZeros64 F)=true
 cmp_Compare_uint64:chkFn P F.cmp_Compare_uint64 (c_cmp_Compare_uint64 F)=true
 cmp_isNaN_uint64:chkFn P F.cmp_isNaN_uint64 (c_cmp_isNaN_uint64 F)=true
end Go.Ab

namespace Go.Ab
open Go
def wkO:AO→AO→Prop
 | .row c g,.row c' g'=>c'≤c ∧ ∀ i,i<c'→g' i=g i
 | .fix c g _,.row c' g'=>False∧c'≤c ∧ ∀ i,i<c'→g' i=g i
 | _,_=>False
structure Wk (H H':AH):Prop where
 k:H'.k=H.k
 at_ : ∀ n,H'.f n=H.f n ∨ ∃ o o',H.f n=some o∧H'.f n=some o'∧wkO o o'
theorem Wk.refl (H:AH):Wk H H:=⟨rfl,fun _=>.inl rfl⟩
theorem wkO_row {o o':AO} (h:wkO o o') : ∃ c g c' g',o=.row c g∧o'=.row c' g'∧c'≤c ∧ ∀ i,i<c'→g' i=g i:=by
 cases o <;> cases o' <;> simp only [wkO,false_and] at h
 exact ⟨_,_,_,_,rfl,rfl,h⟩
theorem Wk.none {H H':AH} (h:Wk H H') {n:Nm}:H'.f n=none↔H.f n=none:=by
 rcases h.at_ n with h | ⟨o,o',h1,h2,_⟩
 ·rw [h]
 ·simp [h1,h2]
theorem Wk.D {H H':AH} (h:Wk H H'):H'.D=H.D:=by
 funext n
 apply propext
 unfold AH.D
 rw [h.k]
 exact or_congr (not_congr h.none) Iff.rfl
theorem Wk.back {H H':AH} (h:Wk H H') {n:Nm} {o':AO} (ho:H'.f n=some o') : ∃ o,H.f n=some o∧(o=o'∨wkO o o'):=by
 rcases h.at_ n with h1 | ⟨o,o2,h1,h2,h3⟩
 ·exact ⟨o',by rw [← h1,ho],.inl rfl⟩
 ·rw [ho] at h2; cases h2
  exact ⟨o,h1,.inr h3⟩
theorem wk_live {o o':AO} (h:o=o'∨wkO o o'):o'.live=o.live:=by
 rcases h with rfl | h
 ·rfl
 ·obtain ⟨_,_,_,_,rfl,rfl,_⟩:=wkO_row h; rfl
theorem Wk.hrel {ρ:Nm→Loc} {H H':AH} {w:World} (h:Wk H H') (hw:HRel ρ H w):HRel ρ H' w where
 obj n o' ho:=by
  obtain ⟨o,h1,h2⟩:=h.back ho
  have h3:=hw.obj n o h1
  rcases h2 with rfl | h2
  ·cases o <;> simp only [objAt,h.D] at h3 ⊢ <;> try exact h3
   obtain ⟨es,clock,sb,e1,e2,e3,e4⟩:=h3
   refine ⟨es,clock,sb,e1,e2,?_,e4⟩
   rename_i r m it seen c
   rcases h.at_ it with h5 | ⟨o,o',h5,h6,h7⟩
   ·rw [h5]; exact e3
   ·rw [h5] at e3; cases e3; cases o' <;> simp [wkO] at h7
  ·obtain ⟨c,g,c',g',rfl,rfl,h4,h5⟩:=wkO_row h2
   simp only [objAt,h.D] at h3 ⊢
   obtain ⟨cells,T,e1,e2,e3,e4⟩:=h3
   refine ⟨cells,T,e1,e2,Nat.le_trans h4 e3,fun i hi=>?_⟩
   rw [h5 i hi]; exact e4 i (Nat.lt_of_lt_of_le hi h4)
 lt n o' ho hl:=by
  obtain ⟨o,h1,h2⟩:=h.back ho
  exact hw.lt n o h1 (by rw [← wk_live h2]; exact hl)
 inj n m o o' ho ho' hl hl' he:=by
  obtain ⟨o1,h1,h2⟩:=h.back ho
  obtain ⟨o2,h3,h4⟩:=h.back ho'
  exact hw.inj n m o1 o2 h1 h3 (by rw [← wk_live h2]; exact hl) (by rw [← wk_live h4]; exact hl') he
 tmp n h1 h2:=h.none.2 (hw.tmp n h1 (by rw [← h.k]; exact h2))
 io n k ho:=by
  obtain ⟨o,h1,h2⟩:=h.back ho
  rw [h.D]
  rcases h2 with rfl | h2
  ·exact hw.io n k h1
  ·cases o <;> simp [wkO] at h2
theorem Wk.clean {H H':AH} (h:Wk H H') (hc:Clean H):Clean H':=fun j=>h.none.2 (by rw [h.k]; exact hc j)
theorem Wk.ext {ρ:Nm→Loc} {H H':AH} {w:World} (h:Wk H H'):Ext ρ ρ H H' w w where
 dom n hn:=⟨by rw [h.D]; exact hn,rfl⟩
 size:=Nat.le_refl _
 frame _ _ _:=rfl
 back n o ho hl _:=by
  obtain ⟨o1,h1,h2⟩:=h.back ho
  exact ⟨n,o1,h1,by rw [← wk_live h2]; exact hl,rfl⟩
 k:=by rw [h.k]; exact Int.le_refl _
 os:=⟨rfl,rfl⟩
theorem ACalls.pre {P:Program} {f:FuncId} {args:List AV} {H H':AH} {K:AV→AH→Prop} (hk:Wk H H') (h:ACalls P f args H' K):ACalls P f args H K :=
 ⟨h.1,fun ρ w vs hw hcl hv=>(h.2 ρ w vs (hk.hrel hw) (hk.clean hcl) (by rw [hk.D]; exact hv)).mono fun _ _ ⟨v,v',ρ',H2,e1,e2,e3,e4,e5,e6⟩=>⟨v,v',ρ',H2,e1,e2,e3,e4,e5,hk.ext.trans e6⟩⟩
theorem ACalls.post {P:Program} {f:FuncId} {args:List AV} {H:AH} {K K':AV→AH→Prop} (h:ACalls P f args H K') (hk : ∀ v H',K' v H'→H.k≤H'.k→Clean H' → ∃ H2,Wk H' H2∧K v H2):ACalls P f args H K :=
 ⟨h.1,fun ρ w vs hw hcl hv=>(h.2 ρ w vs hw hcl hv).mono fun _ _ ⟨v,v',ρ',H',e1,e2,e3,e4,e5,e6⟩=>by
  obtain ⟨H2,h1,h2⟩:=hk v H' e2 e6.k e4
  exact ⟨v,v',ρ',H2,e1,h2,h1.hrel e3,h1.clean e4,by rw [h1.D]; exact e5,e6.trans h1.ext⟩⟩
theorem Wk.row {H:AH} {n:Nm} {c c':Nat} {g g':Nat→AV} (h:H.f n=some (.row c g)) (hc:c'≤c) (hg : ∀ i,i<c'→g' i=g i):Wk H (H.set n (.row c' g')) :=
 ⟨rfl,fun m=>by
  by_cases he:m=n
  ·subst he
   exact .inr ⟨.row c g,.row c' g',h,by simp [AH.set],hc,hg⟩
  ·exact .inl (by simp [AH.set,he])⟩
def rowOf {α:Type} (e:Nat) (cells:α→List AV) (g:Nat→α):Nat→AV:=fun k=>(cells (g (k / e))).getD (k % e) .any
theorem rowOf_at {α:Type} {e:Nat} {cells:α→List AV} {g:Nat→α} {i j:Nat} (hj:j<e):rowOf e cells g (i*e+j)=(cells (g i)).getD j .any:=by
 have h0:0<e:=by omega
 unfold rowOf
 rw [Nat.mul_comm i e,Nat.mul_add_div h0,Nat.mul_add_mod,Nat.div_eq_of_lt hj,Nat.mod_eq_of_lt hj,Nat.add_zero]
theorem rowOf_upd {α:Type} {e:Nat} {cells:α→List AV} {g:Nat→α} {i j:Nat} {x:α} {v:AV} (hj:j<e) (hx : ∀ k,k<e→(cells x).getD k .any=if k=j then v else (cells (g i)).getD k .any) :
  upd (rowOf e cells g) (i*e+j) v=rowOf e cells (fun k=>if k=i then x else g k):=by
 have h0:0<e:=by omega
 funext k
 unfold upd
 by_cases hk:k / e=i
 ·have e1:k=i*e+k % e:=by rw [← hk,Nat.mul_comm]; exact (Nat.div_add_mod k e).symm
  have hm:=Nat.mod_lt k h0
  have h2:=hx (k % e) hm
  unfold rowOf
  simp only [hk,if_true]
  rw [h2]
  by_cases hkj:k % e=j
  ·have:k=i*e+j:=by omega
   have hb:(k==i*e+j)=true:=by simpa using this
   rw [if_pos hkj,hb]; rfl
  ·have:k≠i*e+j:=by intro h; apply hkj; rw [h,Nat.mul_comm i e,Nat.mul_add_mod,Nat.mod_eq_of_lt hj]
   have hb:(k==i*e+j)=false:=by simpa using this
   rw [if_neg hkj,hb]
   simp [hk]
 ·have:k≠i*e+j:=by
   intro h; apply hk; rw [h,Nat.mul_comm i e,Nat.mul_add_div h0,Nat.div_eq_of_lt hj,Nat.add_zero]
  have hb:(k==i*e+j)=false:=by simpa using this
  unfold rowOf
  simp [hk,hb]
theorem updN_at (l:List AV) : ∀ (g:Nat→AV) (off k:Nat),updN g off l k=if off≤k∧k<off+l.length then l.getD (k-off) .any else g k:=by
 induction l with
 | nil=>intro g off k; simp [updN]; intro h1 h2; omega
 | cons v r ih =>
  intro g off k
  simp only [updN,ih,List.length_cons]
  by_cases h:off=k
  ·subst h
   have : ¬ (off+1≤off∧off<off+1+r.length):=by omega
   simp [upd,this]
  ·have hb:(k==off)=false:=by simpa using (Ne.symm h)
   by_cases h1:off+1≤k∧k<off+1+r.length
   ·have h2:off≤k∧k<off+(r.length+1):=by omega
    rw [if_pos h1,if_pos h2]
    have:k-off=(k-(off+1))+1:=by omega
    rw [this]; simp
   ·have h2 : ¬ (off≤k∧k<off+(r.length+1)):=by omega
    rw [if_neg h1,if_neg h2]
    simp [upd,hb]
theorem rowOf_updN {α:Type} {e:Nat} {cells:α→List AV} {g:Nat→α} {i j:Nat} {x:α} {l:List AV} (hj:j+l.length≤e) (h0:0<e)
  (hx : ∀ k,k<e→(cells x).getD k .any=if j≤k∧k<j+l.length then l.getD (k-j) .any else (cells (g i)).getD k .any) :
  updN (rowOf e cells g) (i*e+j) l=rowOf e cells (fun k=>if k=i then x else g k):=by
 funext k
 rw [updN_at]
 have hdm:=Nat.div_add_mod k e
 have hm:=Nat.mod_lt k h0
 by_cases hk:k / e=i
 ·have e1:k=i*e+k % e:=by rw [← hk,Nat.mul_comm]; exact hdm.symm
  have h2:=hx (k % e) hm
  unfold rowOf
  simp only [hk,if_true]
  rw [h2]
  by_cases hc:j≤k % e∧k % e<j+l.length
  ·rw [if_pos hc,if_pos (by omega)]
   congr 1; omega
  ·rw [if_neg hc,if_neg (by omega)]
 ·have : ¬ (i*e+j≤k∧k<i*e+j+l.length):=by
   rintro ⟨h1,h2⟩
   apply hk
   have h3:k<(i+1)*e:=by rw [Nat.add_mul,Nat.one_mul]; omega
   have h4:i*e≤k:=by omega
   exact Nat.div_eq_of_lt_le h4 h3
  rw [if_neg this]
  unfold rowOf
  simp [hk]
def old (H:AH) (n:Nm):Prop:=n.t=0→n.i<H.k
structure Same (H H':AH):Prop where
 k:H.k≤H'.k
 at_ : ∀ n,old H n→H'.f n=H.f n
theorem Same.refl (H:AH):Same H H:=⟨Int.le_refl _,fun _ _=>rfl⟩
theorem old.mono {H H':AH} {n:Nm} (h:old H n) (hk:H.k≤H'.k):old H' n:=fun h0=>by have:=h h0; omega
theorem Same.trans {A B C:AH} (h:Same A B) (h':Same B C):Same A C :=
 ⟨Int.le_trans h.k h'.k,fun n hn=>by rw [h'.at_ n (hn.mono h.k),h.at_ n hn]⟩
theorem old_of {n:Nm} {H:AH} (h:n.t≠0):old H n:=fun h0=>absurd h0 h
theorem Same.some {H H':AH} (h:Same H H') {n:Nm} {o:AO} (hn:old H n) (ho:H.f n=some o):H'.f n=some o:=by rw [h.at_ n hn,ho]
end Go.Ab

