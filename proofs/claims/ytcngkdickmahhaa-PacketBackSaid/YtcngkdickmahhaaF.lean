/- The functions, compiled. -/
import Derived.Test.YtcngkdickmahhaaL4
import Derived.Test.YtcngkdickmahhaaRows
namespace Go.Proofs.Ytcngkdickmahhaa
-- 2 gosem.cut.init calls [1]
def pf2 : PFn :=
  ⟨1, 0, [],
  .reg [⟨some 0, .call 1 [], none⟩] none []⟩
theorem pf2_ok : cFn Try.prog [] [[]] Try.f2 = some pf2 := by kernel_rfl

-- 3 passkey/passkeylaw21.PacketCounts calls [14, 15, 16, 17, 18]
def pf3 : PFn :=
  ⟨23, 1, [.tmp 2],
  .seq (.reg [⟨some 2, .asg (.con (.bool false)), none⟩] none [0]) <|
  .seq (.seq (.reg [⟨some 5, .mv (.tmp 0), none⟩,
   ⟨some 6, .mv (.tmp 0), none⟩,
   ⟨some 7, .call 14 [(false, (.tmp 6)), (false, (.con (.int .i64 4099)))], none⟩,
   ⟨some 8, .mv (.tmp 0), none⟩,
   ⟨some 9, .call 15 [(false, (.tmp 8))], none⟩,
   ⟨some 10, .bsl 1 [(.int .i64 0)] 3 [(0, (.tmp 5)), (1, (.tmp 7)), (2, (.tmp 9))], none⟩,
   ⟨some 11, .len (.tmp 10), none⟩,
   ⟨some 12, .mv (.con (.int .i64 0)), none⟩] none [10, 11, 12]) <|
  .block 0 <|
  .loop [10, 11, 12] <|
  .seq (.reg [⟨some 13, .bin .lss (.tmp 12) (.tmp 11), none⟩] none [10, 11, 12, 13]) <|
  .seq (.cond (.tmp 13) (.skip) <|
   .exit 0) <|
  .seq (.block 1 <|
  .seq (.reg [⟨some 14, .iaddrS 1 (.tmp 10) (.tmp 12), none⟩,
   ⟨some 15, .load false none (.tmp 14), none⟩,
   ⟨some 4, .asg (.tmp 15), none⟩] none [4, 10, 11, 12]) <|
  .seq (.reg [⟨some 16, .mv (.tmp 4), none⟩,
   ⟨some 17, .call 16 [(false, (.tmp 16))], none⟩,
   ⟨some 18, .mv (.tmp 4), none⟩,
   ⟨some 19, .call 17 [(false, (.tmp 18))], none⟩,
   ⟨some 20, .bin .neq (.tmp 17) (.tmp 19), none⟩] none [10, 11, 12, 20]) <|
  .cond (.tmp 20) (.seq (.reg [⟨some 2, .asg (.con (.bool false)), none⟩] none [2]) <|
   .ret) <|
   .skip) <|
  .reg [⟨some 21, .bin .add (.tmp 12) (.con (.int .i64 1)), none⟩,
   ⟨some 12, .mv (.tmp 21), none⟩] none [10, 11, 12]) <|
  .seq (.reg [⟨some 22, .call 18 [], none⟩,
   ⟨some 2, .asg (.tmp 22), none⟩] none [2]) <|
  .ret⟩
theorem pf3_ok : cFn Try.prog [] [[0], [10, 11, 12], [10, 11, 12], [10, 11, 12, 13], [4, 10, 11, 12], [10, 11, 12, 20], [2], [10, 11, 12], [2]] Try.f3 = some pf3 := by kernel_rfl

-- 4 passkey/passkeylaw21.PacketSplits calls [18, 14, 15, 19, 20, 21, 22, 16]
def pf4 : PFn :=
  ⟨83, 5, [.tmp 10],
  .seq (.reg [⟨some 10, .asg (.con (.bool false)), none⟩] none [0, 1, 2, 3, 4]) <|
  .seq (.seq (.reg [⟨some 19, .mv (.tmp 4), none⟩,
   ⟨some 20, .len (.tmp 19), none⟩,
   ⟨some 21, .bin .gtr (.tmp 20) (.con (.int .i64 5000)), none⟩] none [0, 1, 2, 3, 4, 21]) <|
  .cond (.tmp 21) (.seq (.reg [⟨some 22, .call 18 [], none⟩,
    ⟨some 10, .asg (.tmp 22), none⟩] none [10]) <|
   .ret) <|
   .skip) <|
  .seq (.seq (.reg [⟨some 23, .mv (.tmp 4), none⟩,
   ⟨some 24, .mv (.tmp 2), none⟩,
   ⟨some 25, .call 14 [(false, (.tmp 24)), (false, (.con (.int .i64 99)))], none⟩,
   ⟨some 26, .mv (.tmp 3), none⟩,
   ⟨some 27, .call 15 [(false, (.tmp 26))], none⟩,
   ⟨some 28, .call 19 [(false, (.tmp 25)), (false, (.tmp 27))], none⟩,
   ⟨some 29, .bsl 1 [.nils] 2 [(0, (.tmp 23)), (1, (.tmp 28))], none⟩,
   ⟨some 30, .len (.tmp 29), none⟩,
   ⟨some 31, .mv (.con (.int .i64 0)), none⟩] none [0, 1, 29, 30, 31]) <|
  .block 0 <|
  .loop [0, 1, 29, 30, 31] <|
  .seq (.reg [⟨some 32, .bin .lss (.tmp 31) (.tmp 30), none⟩] none [0, 1, 29, 30, 31, 32]) <|
  .seq (.cond (.tmp 32) (.skip) <|
   .exit 0) <|
  .seq (.block 1 <|
  .seq (.reg [⟨some 33, .iaddrS 1 (.tmp 29) (.tmp 31), none⟩,
   ⟨some 34, .load false none (.tmp 33), none⟩,
   ⟨some 12, .asg (.tmp 34), none⟩] none [0, 1, 12, 29, 30, 31]) <|
  .seq (.reg [⟨some 35, .mv (.tmp 1), none⟩,
   ⟨some 36, .mv (.tmp 1), none⟩,
   ⟨some 37, .call 14 [(false, (.tmp 36)), (false, (.con (.int .i64 128)))], none⟩,
   ⟨some 38, .bin .add (.con (.int .i64 1)) (.tmp 37), none⟩,
   ⟨some 39, .bsl 1 [(.int .i64 0)] 2 [(0, (.tmp 35)), (1, (.tmp 38))], none⟩,
   ⟨some 40, .len (.tmp 39), none⟩,
   ⟨some 41, .mv (.con (.int .i64 0)), none⟩] none [0, 1, 12, 29, 30, 31, 39, 40, 41]) <|
  .block 2 <|
  .loop [0, 1, 12, 29, 30, 31, 39, 40, 41] <|
  .seq (.reg [⟨some 42, .bin .lss (.tmp 41) (.tmp 40), none⟩] none [0, 1, 12, 29, 30, 31, 39, 40, 41, 42]) <|
  .seq (.cond (.tmp 42) (.skip) <|
   .exit 2) <|
  .seq (.block 3 <|
  .seq (.reg [⟨some 43, .iaddrS 1 (.tmp 39) (.tmp 41), none⟩,
   ⟨some 44, .load false none (.tmp 43), none⟩,
   ⟨some 14, .asg (.tmp 44), none⟩] none [0, 1, 12, 14, 29, 30, 31, 39, 40, 41]) <|
  .seq (.reg [⟨some 46, .mv (.tmp 0), none⟩,
   ⟨some 47, .mv (.tmp 14), none⟩,
   ⟨some 48, .mv (.tmp 12), none⟩,
   ⟨some 49, .call 20 [(false, (.tmp 46)), (false, (.tmp 47)), (false, (.tmp 48))], none⟩,
   ⟨some 45, .mv (.tmp 49), none⟩,
   ⟨some 50, .extract (.tmp 45) 0, none⟩,
   ⟨some 51, .extract (.tmp 45) 1, none⟩,
   ⟨some 15, .asg (.tmp 50), none⟩,
   ⟨some 16, .asg (.tmp 51), none⟩] none [0, 1, 12, 14, 15, 16, 29, 30, 31, 39, 40, 41]) <|
  .seq (.reg [⟨some 53, .mv (.tmp 0), none⟩,
   ⟨some 54, .mv (.tmp 14), none⟩,
   ⟨some 55, .mv (.tmp 12), none⟩,
   ⟨some 56, .call 21 [(false, (.tmp 53)), (false, (.tmp 54)), (false, (.tmp 55))], none⟩,
   ⟨some 52, .mv (.tmp 56), none⟩,
   ⟨some 57, .extract (.tmp 52) 0, none⟩,
   ⟨some 58, .extract (.tmp 52) 1, none⟩,
   ⟨some 17, .asg (.tmp 57), none⟩,
   ⟨some 18, .asg (.tmp 58), none⟩] none [0, 1, 12, 15, 16, 17, 18, 29, 30, 31, 39, 40, 41]) <|
  .seq (.reg [⟨some 59, .mv (.tmp 15), none⟩,
   ⟨some 60, .mv (.tmp 17), none⟩,
   ⟨some 61, .call 22 [(false, (.tmp 59)), (false, (.tmp 60))], none⟩,
   ⟨some 62, .un .not (.tmp 61), none⟩,
   ⟨some 63, .mv (.tmp 62), none⟩,
   ⟨some 64, .mv (.tmp 16), some (63, false)⟩,
   ⟨some 65, .mv (.tmp 18), some (63, false)⟩,
   ⟨some 66, .bin .neq (.tmp 64) (.tmp 65), some (63, false)⟩,
   ⟨some 67, .pick (.tmp 63) (.con (.bool true)) (.tmp 66), none⟩,
   ⟨some 68, .mv (.tmp 67), none⟩,
   ⟨some 69, .mv (.tmp 16), some (68, false)⟩,
   ⟨some 70, .bin .eql (.tmp 69) (.con (.int .i64 0)), some (68, false)⟩,
   ⟨some 71, .mv (.tmp 70), some (68, false)⟩,
   ⟨some 72, .mv (.tmp 15), some (71, true)⟩,
   ⟨some 73, .len (.tmp 72), some (71, true)⟩,
   ⟨some 74, .mv (.tmp 12), some (71, true)⟩,
   ⟨some 75, .len (.tmp 74), some (71, true)⟩,
   ⟨some 76, .call 16 [(false, (.tmp 75))], some (71, true)⟩,
   ⟨some 77, .bin .neq (.tmp 73) (.tmp 76), some (71, true)⟩,
   ⟨some 78, .pick (.tmp 71) (.tmp 77) (.con (.bool false)), some (68, false)⟩,
   ⟨some 79, .pick (.tmp 68) (.con (.bool true)) (.tmp 78), none⟩] none [0, 1, 12, 29, 30, 31, 39, 40, 41, 79]) <|
  .cond (.tmp 79) (.seq (.reg [⟨some 10, .asg (.con (.bool false)), none⟩] none [10]) <|
   .ret) <|
   .skip) <|
  .reg [⟨some 80, .bin .add (.tmp 41) (.con (.int .i64 1)), none⟩,
   ⟨some 41, .mv (.tmp 80), none⟩] none [0, 1, 12, 29, 30, 31, 39, 40, 41]) <|
  .reg [⟨some 81, .bin .add (.tmp 31) (.con (.int .i64 1)), none⟩,
   ⟨some 31, .mv (.tmp 81), none⟩] none [0, 1, 29, 30, 31]) <|
  .seq (.reg [⟨some 82, .call 18 [], none⟩,
   ⟨some 10, .asg (.tmp 82), none⟩] none [10]) <|
  .ret⟩
theorem pf4_ok : cFn Try.prog [] [[0, 1, 2, 3, 4], [0, 1, 2, 3, 4, 21], [10], [0, 1, 29, 30, 31], [0, 1, 29, 30, 31], [0, 1, 29, 30, 31, 32], [0, 1, 12, 29, 30, 31], [0, 1, 12, 29, 30, 31, 39, 40, 41], [0, 1, 12, 29, 30, 31, 39, 40, 41], [0, 1, 12, 29, 30, 31, 39, 40, 41, 42], [0, 1, 12, 14, 29, 30, 31, 39, 40, 41], [0, 1, 12, 14, 15, 16, 29, 30, 31, 39, 40, 41], [0, 1, 12, 15, 16, 17, 18, 29, 30, 31, 39, 40, 41], [0, 1, 12, 29, 30, 31, 39, 40, 41, 79], [10], [0, 1, 12, 29, 30, 31, 39, 40, 41], [0, 1, 29, 30, 31], [10]] Try.f4 = some pf4 := by kernel_rfl

-- 5 passkey/passkeylaw21.PacketDecodes calls [18, 23, 25, 24, 26, 27, 28]
def pf5 : PFn :=
  ⟨70, 2, [.tmp 4],
  .seq (.reg [⟨some 4, .asg (.con (.bool false)), none⟩] none [0, 1]) <|
  .seq (.seq (.reg [⟨some 13, .mv (.tmp 0), none⟩,
   ⟨some 14, .len (.tmp 13), none⟩,
   ⟨some 15, .bin .gtr (.tmp 14) (.con (.int .i64 300)), none⟩] none [0, 1, 15]) <|
  .cond (.tmp 15) (.seq (.reg [⟨some 16, .call 18 [], none⟩,
    ⟨some 4, .asg (.tmp 16), none⟩] none [4]) <|
   .ret) <|
   .skip) <|
  .seq (.reg [⟨some 17, .mv (.tmp 1), none⟩,
   ⟨some 18, .call 23 [(false, (.tmp 17))], none⟩,
   ⟨some 5, .asg (.tmp 18), none⟩] none [0, 5]) <|
  .seq (.reg [⟨some 19, .mv (.tmp 5), none⟩,
   ⟨some 20, .call 25 [(false, (.tmp 19)), (false, (.con (.int .i64 99)))], none⟩,
   ⟨some 21, .bsl 1 [(.int .i64 0)] 5 [(0, (.con (.int .i64 0))), (1, (.con (.int .i64 0))), (2, (.con (.int .i64 0))), (3, (.con (.int .i64 1))), (4, (.con (.int .i64 (-1))))], none⟩,
   ⟨some 22, .mv (.tmp 5), none⟩,
   ⟨some 23, .call 25 [(false, (.tmp 22)), (false, (.con (.int .i64 5)))], none⟩,
   ⟨some 24, .iaddrS 1 (.tmp 21) (.tmp 23), none⟩,
   ⟨some 25, .load false none (.tmp 24), none⟩,
   ⟨some 26, .bin .add (.con (.int .i64 64)) (.tmp 25), none⟩,
   ⟨some 27, .call 24 [(false, (.tmp 20)), (false, (.tmp 26))], none⟩,
   ⟨some 6, .asg (.tmp 27), none⟩] none [0, 5, 6]) <|
  .seq (.seq (.reg [⟨some 28, .mv (.tmp 6), none⟩,
   ⟨some 29, .len (.tmp 28), none⟩,
   ⟨some 30, .bin .gtr (.tmp 29) (.con (.int .i64 4)), none⟩] none [0, 5, 6, 30]) <|
  .cond (.tmp 30) (.reg [⟨some 31, .mv (.tmp 6), none⟩,
    ⟨some 32, .mv (.tmp 6), none⟩,
    ⟨some 33, .iaddrS 1 (.tmp 32) (.con (.int .i64 4)), none⟩,
    ⟨some 34, .load false none (.tmp 33), none⟩,
    ⟨some 35, .bsl 1 [(.int .u8 0)] 6 [(0, (.tmp 34)), (1, (.con (.int .u8 128))), (2, (.con (.int .u8 129))), (3, (.con (.int .u8 255))), (4, (.con (.int .u8 0))), (5, (.con (.int .u8 127)))], none⟩,
    ⟨some 36, .mv (.tmp 5), none⟩,
    ⟨some 37, .call 25 [(false, (.tmp 36)), (false, (.con (.int .i64 6)))], none⟩,
    ⟨some 38, .iaddrS 1 (.tmp 35) (.tmp 37), none⟩,
    ⟨some 39, .load false none (.tmp 38), none⟩,
    ⟨some 40, .iaddrS 1 (.tmp 31) (.con (.int .i64 4)), none⟩,
    ⟨none, .store 1 (.tmp 40) (.tmp 39), none⟩] (some [0, 0, 2, 6, 14, 0, 32, 126, 254, 511, 1023]) [0, 6]) <|
   .skip) <|
  .seq (.seq (.reg [⟨some 41, .mv (.tmp 0), none⟩,
   ⟨some 42, .mv (.tmp 6), none⟩,
   ⟨some 43, .bsl 1 [.nils] 2 [(0, (.tmp 41)), (1, (.tmp 42))], none⟩,
   ⟨some 44, .len (.tmp 43), none⟩,
   ⟨some 45, .mv (.con (.int .i64 0)), none⟩] none [43, 44, 45]) <|
  .block 0 <|
  .loop [43, 44, 45] <|
  .seq (.reg [⟨some 46, .bin .lss (.tmp 45) (.tmp 44), none⟩] none [43, 44, 45, 46]) <|
  .seq (.cond (.tmp 46) (.skip) <|
   .exit 0) <|
  .seq (.block 1 <|
  .seq (.reg [⟨some 47, .iaddrS 1 (.tmp 43) (.tmp 45), none⟩,
   ⟨some 48, .load false none (.tmp 47), none⟩,
   ⟨some 8, .asg (.tmp 48), none⟩] none [8, 43, 44, 45]) <|
  .seq (.reg [⟨some 50, .mv (.tmp 8), none⟩,
   ⟨some 51, .call 26 [(false, (.tmp 50))], none⟩,
   ⟨some 49, .mv (.tmp 51), none⟩,
   ⟨some 52, .extract (.tmp 49) 0, none⟩,
   ⟨some 53, .extract (.tmp 49) 1, none⟩,
   ⟨some 9, .alloc [(.int .u32 0), (.bool false), (.int .i64 0), (.int .i64 0), (.int .i64 0), .nils], none⟩,
   ⟨none, .store 6 (.tmp 9) (.tmp 52), none⟩,
   ⟨some 10, .asg (.tmp 53), none⟩] none [8, 9, 10, 43, 44, 45]) <|
  .seq (.reg [⟨some 55, .mv (.tmp 8), none⟩,
   ⟨some 56, .call 27 [(false, (.tmp 55))], none⟩,
   ⟨some 54, .mv (.tmp 56), none⟩,
   ⟨some 57, .extract (.tmp 54) 0, none⟩,
   ⟨some 58, .extract (.tmp 54) 1, none⟩,
   ⟨some 11, .alloc [(.int .u32 0), (.bool false), (.int .i64 0), (.int .i64 0), (.int .i64 0), .nils], none⟩,
   ⟨none, .store 6 (.tmp 11) (.tmp 57), none⟩,
   ⟨some 12, .asg (.tmp 58), none⟩] none [9, 10, 11, 12, 43, 44, 45]) <|
  .seq (.reg [⟨some 59, .load true (some 6) (.tmp 9), none⟩,
   ⟨some 60, .load true (some 6) (.tmp 11), none⟩,
   ⟨some 61, .call 28 [(false, (.tmp 59)), (false, (.tmp 60))], none⟩,
   ⟨some 62, .un .not (.tmp 61), none⟩,
   ⟨some 63, .mv (.tmp 62), none⟩,
   ⟨some 64, .mv (.tmp 10), some (63, false)⟩,
   ⟨some 65, .mv (.tmp 12), some (63, false)⟩,
   ⟨some 66, .bin .neq (.tmp 64) (.tmp 65), some (63, false)⟩,
   ⟨some 67, .pick (.tmp 63) (.con (.bool true)) (.tmp 66), none⟩] none [43, 44, 45, 67]) <|
  .cond (.tmp 67) (.seq (.reg [⟨some 4, .asg (.con (.bool false)), none⟩] none [4]) <|
   .ret) <|
   .skip) <|
  .reg [⟨some 68, .bin .add (.tmp 45) (.con (.int .i64 1)), none⟩,
   ⟨some 45, .mv (.tmp 68), none⟩] none [43, 44, 45]) <|
  .seq (.reg [⟨some 69, .call 18 [], none⟩,
   ⟨some 4, .asg (.tmp 69), none⟩] none [4]) <|
  .ret⟩
theorem pf5_ok : cFn Try.prog [(59, [true]), (60, [true])] [[0, 1], [0, 1, 15], [4], [0, 5], [0, 5, 6], [0, 5, 6, 30], [0, 6], [43, 44, 45], [43, 44, 45], [43, 44, 45, 46], [8, 43, 44, 45], [8, 9, 10, 43, 44, 45], [9, 10, 11, 12, 43, 44, 45], [43, 44, 45, 67], [4], [43, 44, 45], [4]] Try.f5 = some pf5 := by kernel_rfl

-- 6 passkey/passkeylaw21.PacketEncodes calls [18, 29, 23, 30]
def pf6 : PFn :=
  ⟨21, 2, [.tmp 4],
  .seq (.reg [⟨some 2, .box (.tmp 0), none⟩,
   ⟨some 4, .asg (.con (.bool false)), none⟩] none [1, 2]) <|
  .seq (.seq (.reg [⟨some 5, .faddr 5 (.tmp 2), none⟩,
   ⟨some 6, .load false none (.tmp 5), none⟩,
   ⟨some 7, .len (.tmp 6), none⟩,
   ⟨some 8, .bin .gtr (.tmp 7) (.con (.int .i64 200)), none⟩] none [1, 2, 8]) <|
  .cond (.tmp 8) (.seq (.reg [⟨some 9, .call 18 [], none⟩,
    ⟨some 4, .asg (.tmp 9), none⟩] none [4]) <|
   .ret) <|
   .skip) <|
  .seq (.reg [⟨some 10, .load true (some 6) (.tmp 2), none⟩,
   ⟨some 11, .call 29 [(false, (.tmp 10))], none⟩,
   ⟨some 12, .mv (.tmp 11), none⟩,
   ⟨some 13, .mv (.tmp 1), some (12, true)⟩,
   ⟨some 14, .call 23 [(false, (.tmp 13))], some (12, true)⟩,
   ⟨some 15, .call 30 [(false, (.tmp 14))], some (12, true)⟩,
   ⟨some 16, .call 29 [(false, (.tmp 15))], some (12, true)⟩,
   ⟨some 17, .pick (.tmp 12) (.tmp 16) (.con (.bool false)), none⟩,
   ⟨some 18, .mv (.tmp 17), none⟩,
   ⟨some 19, .call 18 [], some (18, true)⟩,
   ⟨some 20, .pick (.tmp 18) (.tmp 19) (.con (.bool false)), none⟩,
   ⟨some 4, .asg (.tmp 20), none⟩] none [4]) <|
  .ret⟩
theorem pf6_ok : cFn Try.prog [(10, [true])] [[1, 2], [1, 2, 8], [4], [4]] Try.f6 = some pf6 := by kernel_rfl

-- 7 passkey/passkeylaw21.PacketBack calls [23, 30, 31, 18, 26, 14, 24]
def pf7 : PFn :=
  ⟨154, 2, [.tmp 4],
  .seq (.reg [⟨some 4, .asg (.con (.bool false)), none⟩] none [0, 1]) <|
  .seq (.reg [⟨some 18, .mv (.tmp 0), none⟩,
   ⟨some 19, .call 23 [(false, (.tmp 18))], none⟩,
   ⟨some 20, .call 30 [(false, (.tmp 19))], none⟩,
   ⟨some 5, .alloc [(.int .u32 0), (.bool false), (.int .i64 0), (.int .i64 0), (.int .i64 0), .nils], none⟩,
   ⟨none, .store 6 (.tmp 5) (.tmp 20), none⟩] none [1, 5]) <|
  .seq (.reg [⟨some 22, .load false (some 6) (.tmp 5), none⟩,
   ⟨some 23, .call 31 [(false, (.tmp 22))], none⟩,
   ⟨some 21, .mv (.tmp 23), none⟩,
   ⟨some 24, .extract (.tmp 21) 0, none⟩,
   ⟨some 25, .extract (.tmp 21) 1, none⟩,
   ⟨some 6, .asg (.tmp 24), none⟩,
   ⟨some 7, .asg (.tmp 25), none⟩] none [1, 5, 6, 7]) <|
  .seq (.seq (.reg [⟨some 26, .mv (.tmp 7), none⟩,
   ⟨some 27, .bin .neq (.tmp 26) (.con (.int .i64 0)), none⟩] none [1, 5, 6, 27]) <|
  .cond (.tmp 27) (.seq (.reg [⟨some 28, .call 18 [], none⟩,
    ⟨some 4, .asg (.tmp 28), none⟩] none [4]) <|
   .ret) <|
   .skip) <|
  .seq (.reg [⟨some 30, .mv (.tmp 6), none⟩,
   ⟨some 31, .call 26 [(false, (.tmp 30))], none⟩,
   ⟨some 29, .mv (.tmp 31), none⟩,
   ⟨some 32, .extract (.tmp 29) 0, none⟩,
   ⟨some 33, .extract (.tmp 29) 1, none⟩,
   ⟨some 8, .alloc [(.int .u32 0), (.bool false), (.int .i64 0), (.int .i64 0), (.int .i64 0), .nils], none⟩,
   ⟨none, .store 6 (.tmp 8) (.tmp 32), none⟩,
   ⟨some 9, .asg (.tmp 33), none⟩] none [1, 5, 6, 8, 9]) <|
  .seq (.reg [⟨some 35, .load false (some 6) (.tmp 8), none⟩,
   ⟨some 36, .call 31 [(false, (.tmp 35))], none⟩,
   ⟨some 34, .mv (.tmp 36), none⟩,
   ⟨some 37, .extract (.tmp 34) 0, none⟩,
   ⟨some 38, .extract (.tmp 34) 1, none⟩,
   ⟨some 10, .asg (.tmp 37), none⟩,
   ⟨some 11, .asg (.tmp 38), none⟩] none [1, 5, 6, 8, 9, 10, 11]) <|
  .seq (.reg [⟨some 39, .mv (.tmp 1), none⟩,
   ⟨some 40, .call 14 [(false, (.tmp 39)), (false, (.con (.int .i64 9999)))], none⟩,
   ⟨some 41, .call 24 [(false, (.tmp 40)), (false, (.con (.int .i64 64)))], none⟩,
   ⟨some 12, .asg (.tmp 41), none⟩] none [5, 6, 8, 9, 10, 11, 12]) <|
  .seq (.reg [⟨some 43, .mv (.tmp 12), none⟩,
   ⟨some 44, .call 26 [(false, (.tmp 43))], none⟩,
   ⟨some 42, .mv (.tmp 44), none⟩,
   ⟨some 45, .extract (.tmp 42) 0, none⟩,
   ⟨some 46, .extract (.tmp 42) 1, none⟩,
   ⟨some 13, .alloc [(.int .u32 0), (.bool false), (.int .i64 0), (.int .i64 0), (.int .i64 0), .nils], none⟩,
   ⟨none, .store 6 (.tmp 13) (.tmp 45), none⟩,
   ⟨some 14, .asg (.tmp 46), none⟩] none [5, 6, 8, 9, 10, 11, 12, 13, 14]) <|
  .seq (.reg [⟨some 48, .load true (some 6) (.tmp 13), none⟩,
   ⟨some 49, .call 31 [(false, (.tmp 48))], none⟩,
   ⟨some 47, .mv (.tmp 49), none⟩,
   ⟨some 50, .extract (.tmp 47) 0, none⟩,
   ⟨some 51, .extract (.tmp 47) 1, none⟩,
   ⟨some 15, .asg (.tmp 50), none⟩,
   ⟨some 16, .asg (.tmp 51), none⟩] none [5, 6, 8, 9, 10, 11, 12, 14, 15, 16]) <|
  .seq (.seq (.reg [⟨some 52, .mv (.tmp 14), none⟩,
   ⟨some 53, .bin .eql (.tmp 52) (.con (.int .i64 0)), none⟩,
   ⟨some 54, .mv (.tmp 53), none⟩,
   ⟨some 55, .mv (.tmp 16), some (54, true)⟩,
   ⟨some 56, .bin .neq (.tmp 55) (.con (.int .i64 0)), some (54, true)⟩,
   ⟨some 57, .mv (.tmp 56), some (54, true)⟩,
   ⟨some 58, .mv (.tmp 15), some (57, false)⟩,
   ⟨some 59, .cvText (.tmp 58), some (57, false)⟩,
   ⟨some 60, .mv (.tmp 12), some (57, false)⟩,
   ⟨some 61, .cvText (.tmp 60), some (57, false)⟩,
   ⟨some 62, .bin .neq (.tmp 59) (.tmp 61), some (57, false)⟩,
   ⟨some 63, .pick (.tmp 57) (.con (.bool true)) (.tmp 62), some (54, true)⟩,
   ⟨some 64, .pick (.tmp 54) (.tmp 63) (.con (.bool false)), none⟩,
   ⟨some 65, .mv (.tmp 64), none⟩,
   ⟨some 66, .mv (.tmp 9), some (65, false)⟩,
   ⟨some 67, .bin .neq (.tmp 66) (.con (.int .i64 0)), some (65, false)⟩,
   ⟨some 68, .pick (.tmp 65) (.con (.bool true)) (.tmp 67), none⟩,
   ⟨some 69, .mv (.tmp 68), none⟩,
   ⟨some 70, .mv (.tmp 11), some (69, false)⟩,
   ⟨some 71, .bin .neq (.tmp 70) (.con (.int .i64 0)), some (69, false)⟩,
   ⟨some 72, .pick (.tmp 69) (.con (.bool true)) (.tmp 71), none⟩,
   ⟨some 73, .mv (.tmp 72), none⟩,
   ⟨some 74, .faddr 5 (.tmp 8), some (73, false)⟩,
   ⟨some 75, .load false none (.tmp 74), some (73, false)⟩,
   ⟨some 76, .len (.tmp 75), some (73, false)⟩,
   ⟨some 77, .faddr 5 (.tmp 5), some (73, false)⟩,
   ⟨some 78, .load false none (.tmp 77), some (73, false)⟩,
   ⟨some 79, .len (.tmp 78), some (73, false)⟩,
   ⟨some 80, .bin .lss (.tmp 76) (.tmp 79), some (73, false)⟩,
   ⟨some 81, .pick (.tmp 73) (.con (.bool true)) (.tmp 80), none⟩] none [5, 6, 8, 10, 81]) <|
  .cond (.tmp 81) (.seq (.reg [⟨some 4, .asg (.con (.bool false)), none⟩] none [4]) <|
   .ret) <|
   .skip) <|
  .seq (.seq (.reg [⟨some 82, .faddr 5 (.tmp 5), none⟩,
   ⟨some 83, .load false none (.tmp 82), none⟩,
   ⟨some 84, .len (.tmp 83), none⟩,
   ⟨some 17, .asg (.tmp 84), none⟩] none [5, 6, 8, 10, 17]) <|
  .block 0 <|
  .loop [5, 6, 8, 10, 17] <|
  .seq (.seq (.reg [⟨some 85, .mv (.tmp 17), none⟩,
   ⟨some 86, .faddr 5 (.tmp 8), none⟩,
   ⟨some 87, .load false none (.tmp 86), none⟩,
   ⟨some 88, .len (.tmp 87), none⟩,
   ⟨some 89, .bin .lss (.tmp 85) (.tmp 88), none⟩] none [5, 6, 8, 10, 17, 89]) <|
  .cond (.tmp 89) (.skip) <|
   .exit 0) <|
  .seq (.block 1 <|
  .seq (.reg [⟨some 92, .faddr 5 (.tmp 8), none⟩,
   ⟨some 93, .load false none (.tmp 92), none⟩,
   ⟨some 94, .mv (.tmp 17), none⟩,
   ⟨some 95, .iaddrS 1 (.tmp 93) (.tmp 94), none⟩,
   ⟨some 96, .load false none (.tmp 95), none⟩,
   ⟨some 97, .bin .neq (.tmp 96) (.con (.int .u8 0)), none⟩] none [5, 6, 8, 10, 17, 97]) <|
  .cond (.tmp 97) (.seq (.reg [⟨some 4, .asg (.con (.bool false)), none⟩] none [4]) <|
   .ret) <|
   .skip) <|
  .reg [⟨some 90, .mv (.tmp 17), none⟩,
   ⟨some 91, .bin .add (.tmp 90) (.con (.int .i64 1)), none⟩,
   ⟨some 17, .asg (.tmp 91), none⟩] none [5, 6, 8, 10, 17]) <|
  .seq (.reg [⟨some 98, .mv (.tmp 6), none⟩,
   ⟨some 99, .cvText (.tmp 98), none⟩,
   ⟨some 100, .mv (.tmp 10), none⟩,
   ⟨some 101, .cvText (.tmp 100), none⟩,
   ⟨some 102, .bin .eql (.tmp 99) (.tmp 101), none⟩,
   ⟨some 103, .mv (.tmp 102), none⟩,
   ⟨some 104, .faddr 5 (.tmp 8), some (103, true)⟩,
   ⟨some 105, .load false none (.tmp 104), some (103, true)⟩,
   ⟨some 106, .faddr 5 (.tmp 5), some (103, true)⟩,
   ⟨some 107, .load false none (.tmp 106), some (103, true)⟩,
   ⟨some 108, .len (.tmp 107), some (103, true)⟩,
   ⟨some 109, .slice 1 (.tmp 105) none (some (.tmp 108)), some (103, true)⟩,
   ⟨some 110, .cvText (.tmp 109), some (103, true)⟩,
   ⟨some 111, .faddr 5 (.tmp 5), some (103, true)⟩,
   ⟨some 112, .load false none (.tmp 111), some (103, true)⟩,
   ⟨some 113, .cvText (.tmp 112), some (103, true)⟩,
   ⟨some 114, .bin .eql (.tmp 110) (.tmp 113), some (103, true)⟩,
   ⟨some 115, .pick (.tmp 103) (.tmp 114) (.con (.bool false)), none⟩,
   ⟨some 116, .mv (.tmp 115), none⟩,
   ⟨some 117, .faddr 0 (.tmp 8), some (116, true)⟩,
   ⟨some 118, .load false none (.tmp 117), some (116, true)⟩,
   ⟨some 119, .faddr 0 (.tmp 5), some (116, true)⟩,
   ⟨some 120, .load false none (.tmp 119), some (116, true)⟩,
   ⟨some 121, .bin .eql (.tmp 118) (.tmp 120), some (116, true)⟩,
   ⟨some 122, .pick (.tmp 116) (.tmp 121) (.con (.bool false)), none⟩,
   ⟨some 123, .mv (.tmp 122), none⟩,
   ⟨some 124, .faddr 1 (.tmp 8), some (123, true)⟩,
   ⟨some 125, .load false none (.tmp 124), some (123, true)⟩,
   ⟨some 126, .faddr 1 (.tmp 5), some (123, true)⟩,
   ⟨some 127, .load false none (.tmp 126), some (123, true)⟩,
   ⟨some 128, .eqB false (.tmp 125) (.tmp 127), some (123, true)⟩,
   ⟨some 129, .pick (.tmp 123) (.tmp 128) (.con (.bool false)), none⟩,
   ⟨some 130, .mv (.tmp 129), none⟩,
   ⟨some 131, .faddr 2 (.tmp 8), some (130, true)⟩,
   ⟨some 132, .load false none (.tmp 131), some (130, true)⟩,
   ⟨some 133, .faddr 2 (.tmp 5), some (130, true)⟩,
   ⟨some 134, .load false none (.tmp 133), some (130, true)⟩,
   ⟨some 135, .bin .eql (.tmp 132) (.tmp 134), some (130, true)⟩,
   ⟨some 136, .pick (.tmp 130) (.tmp 135) (.con (.bool false)), none⟩,
   ⟨some 137, .mv (.tmp 136), none⟩,
   ⟨some 138, .faddr 3 (.tmp 8), some (137, true)⟩,
   ⟨some 139, .load false none (.tmp 138), some (137, true)⟩,
   ⟨some 140, .faddr 3 (.tmp 5), some (137, true)⟩,
   ⟨some 141, .load false none (.tmp 140), some (137, true)⟩,
   ⟨some 142, .bin .eql (.tmp 139) (.tmp 141), some (137, true)⟩,
   ⟨some 143, .pick (.tmp 137) (.tmp 142) (.con (.bool false)), none⟩,
   ⟨some 144, .mv (.tmp 143), none⟩,
   ⟨some 145, .faddr 4 (.tmp 8), some (144, true)⟩,
   ⟨some 146, .load false none (.tmp 145), some (144, true)⟩,
   ⟨some 147, .faddr 4 (.tmp 5), some (144, true)⟩,
   ⟨some 148, .load false none (.tmp 147), some (144, true)⟩,
   ⟨some 149, .bin .eql (.tmp 146) (.tmp 148), some (144, true)⟩,
   ⟨some 150, .pick (.tmp 144) (.tmp 149) (.con (.bool false)), none⟩,
   ⟨some 151, .mv (.tmp 150), none⟩,
   ⟨some 152, .call 18 [], some (151, true)⟩,
   ⟨some 153, .pick (.tmp 151) (.tmp 152) (.con (.bool false)), none⟩,
   ⟨some 4, .asg (.tmp 153), none⟩] (some [0, 1, 0, 4, 15, 31, 63, 127, 63, 319, 831, 2047, 4095, 63, 8255, 24639, 65535, 131071, 262143, 524287, 1048575, 524287, 2621439, 8388607, 16777215, 33554431, 67108863, 134217727, 67108863, 335544319, 1073741823, 2147483647, 4294967295, 8589934591, 17179869183, 8589934591, 42949672959, 137438953471, 274877906943, 549755813887, 1099511627775, 2199023255551, 1099511627775, 5497558138879, 17592186044415, 35184372088831, 70368744177663, 140737488355327, 281474976710655, 140737488355327, 703687441776639, 2251799813685247, 4503599627370495, 9007199254740991, 18014398509481983, 36028797018963967, 72057594037927935]) [4]) <|
  .ret⟩
theorem pf7_ok : cFn Try.prog [(48, [true])] [[0, 1], [1, 5], [1, 5, 6, 7], [1, 5, 6, 27], [4], [1, 5, 6, 8, 9], [1, 5, 6, 8, 9, 10, 11], [5, 6, 8, 9, 10, 11, 12], [5, 6, 8, 9, 10, 11, 12, 13, 14], [5, 6, 8, 9, 10, 11, 12, 14, 15, 16], [5, 6, 8, 10, 81], [4], [5, 6, 8, 10, 17], [5, 6, 8, 10, 17], [5, 6, 8, 10, 17, 89], [5, 6, 8, 10, 17, 97], [4], [5, 6, 8, 10, 17], [4]] Try.f7 = some pf7 := by kernel_rfl

-- 8 passkey/passkeylaw21.PacketTravels calls [14, 15, 19, 20, 23, 31, 25, 24, 26, 32, 18]
def pf8 : PFn :=
  ⟨152, 5, [.tmp 10],
  .seq (.reg [⟨some 10, .asg (.con (.bool false)), none⟩] none [0, 1, 2, 3, 4]) <|
  .seq (.reg [⟨some 30, .mv (.tmp 2), none⟩,
   ⟨some 31, .call 14 [(false, (.tmp 30)), (false, (.con (.int .i64 99)))], none⟩,
   ⟨some 32, .mv (.tmp 3), none⟩,
   ⟨some 33, .call 15 [(false, (.tmp 32))], none⟩,
   ⟨some 34, .minmax false (.tmp 33) [(.con (.int .i64 4096))], none⟩,
   ⟨some 35, .call 19 [(false, (.tmp 31)), (false, (.tmp 34))], none⟩,
   ⟨some 11, .asg (.tmp 35), none⟩] none [0, 1, 4, 11]) <|
  .seq (.reg [⟨some 36, .mv (.tmp 1), none⟩,
   ⟨some 37, .call 14 [(false, (.tmp 36)), (false, (.con (.int .i64 127)))], none⟩,
   ⟨some 38, .bin .add (.con (.int .i64 1)) (.tmp 37), none⟩,
   ⟨some 12, .asg (.tmp 38), none⟩] none [0, 4, 11, 12]) <|
  .seq (.reg [⟨some 40, .mv (.tmp 0), none⟩,
   ⟨some 41, .mv (.tmp 12), none⟩,
   ⟨some 42, .mv (.tmp 11), none⟩,
   ⟨some 43, .call 20 [(false, (.tmp 40)), (false, (.tmp 41)), (false, (.tmp 42))], none⟩,
   ⟨some 39, .mv (.tmp 43), none⟩,
   ⟨some 44, .extract (.tmp 39) 0, none⟩,
   ⟨some 45, .extract (.tmp 39) 1, none⟩,
   ⟨some 13, .asg (.tmp 44), none⟩,
   ⟨some 14, .asg (.tmp 45), none⟩] none [0, 4, 11, 12, 13, 14]) <|
  .seq (.seq (.reg [⟨some 46, .mv (.tmp 14), none⟩,
   ⟨some 47, .bin .neq (.tmp 46) (.con (.int .i64 0)), none⟩] none [0, 4, 11, 12, 13, 47]) <|
  .cond (.tmp 47) (.seq (.reg [⟨some 10, .asg (.con (.bool false)), none⟩] none [10]) <|
   .ret) <|
   .skip) <|
  .seq (.reg [⟨some 48, .mv (.tmp 4), none⟩,
   ⟨some 49, .call 23 [(false, (.tmp 48))], none⟩,
   ⟨some 15, .asg (.tmp 49), none⟩] none [0, 11, 12, 13, 15]) <|
  .seq (.reg [⟨some 16, .asg (.con .nils), none⟩] none [0, 11, 12, 13, 15, 16]) <|
  .seq (.seq (.reg [⟨some 17, .asg (.con (.int .i64 0)), none⟩] none [0, 11, 12, 13, 15, 16, 17]) <|
  .block 0 <|
  .loop [0, 11, 12, 13, 15, 16, 17] <|
  .seq (.seq (.reg [⟨some 50, .mv (.tmp 17), none⟩,
   ⟨some 51, .mv (.tmp 13), none⟩,
   ⟨some 52, .len (.tmp 51), none⟩,
   ⟨some 53, .bin .lss (.tmp 50) (.tmp 52), none⟩] none [0, 11, 12, 13, 15, 16, 17, 53]) <|
  .cond (.tmp 53) (.skip) <|
   .exit 0) <|
  .seq (.block 1 <|
  .seq (.reg [⟨some 57, .mv (.tmp 13), none⟩,
   ⟨some 58, .mv (.tmp 17), none⟩,
   ⟨some 59, .iaddrS 6 (.tmp 57) (.tmp 58), none⟩,
   ⟨some 60, .load false (some 6) (.tmp 59), none⟩,
   ⟨some 61, .call 31 [(false, (.tmp 60))], none⟩,
   ⟨some 56, .mv (.tmp 61), none⟩,
   ⟨some 62, .extract (.tmp 56) 0, none⟩,
   ⟨some 63, .extract (.tmp 56) 1, none⟩,
   ⟨some 18, .asg (.tmp 62), none⟩,
   ⟨some 19, .asg (.tmp 63), none⟩] none [0, 11, 12, 13, 15, 16, 17, 18, 19]) <|
  .seq (.reg [⟨some 65, .mv (.tmp 0), none⟩,
   ⟨some 66, .bin .add (.tmp 65) (.con (.int .u32 1)), none⟩,
   ⟨some 67, .mv (.tmp 15), none⟩,
   ⟨some 68, .call 25 [(false, (.tmp 67)), (false, (.con (.int .i64 128)))], none⟩,
   ⟨some 69, .mv (.tmp 17), none⟩,
   ⟨some 70, .mv (.tmp 15), none⟩,
   ⟨some 71, .call 25 [(false, (.tmp 70)), (false, (.con (.int .i64 60)))], none⟩,
   ⟨some 72, .call 24 [(false, (.tmp 69)), (false, (.tmp 71))], none⟩,
   ⟨some 73, .build [(.int .u32 0), (.bool false), (.int .i64 0), (.int .i64 0), (.int .i64 0), .nils] [(0, 1, (.tmp 66)), (4, 1, (.tmp 68)), (5, 1, (.tmp 72))], none⟩,
   ⟨some 74, .call 31 [(false, (.tmp 73))], none⟩,
   ⟨some 64, .mv (.tmp 74), none⟩,
   ⟨some 75, .extract (.tmp 64) 0, none⟩,
   ⟨some 76, .extract (.tmp 64) 1, none⟩,
   ⟨some 20, .asg (.tmp 75), none⟩,
   ⟨some 21, .asg (.tmp 76), none⟩] none [0, 11, 12, 13, 15, 16, 17, 18, 19, 20, 21]) <|
  .seq (.seq (.reg [⟨some 77, .mv (.tmp 19), none⟩,
   ⟨some 78, .bin .neq (.tmp 77) (.con (.int .i64 0)), none⟩,
   ⟨some 79, .mv (.tmp 78), none⟩,
   ⟨some 80, .mv (.tmp 21), some (79, false)⟩,
   ⟨some 81, .bin .neq (.tmp 80) (.con (.int .i64 0)), some (79, false)⟩,
   ⟨some 82, .pick (.tmp 79) (.con (.bool true)) (.tmp 81), none⟩] none [0, 11, 12, 13, 15, 16, 17, 18, 20, 82]) <|
  .cond (.tmp 82) (.seq (.reg [⟨some 10, .asg (.con (.bool false)), none⟩] none [10]) <|
   .ret) <|
   .skip) <|
  .seq (.seq (.reg [⟨some 83, .mv (.tmp 15), none⟩,
   ⟨some 84, .call 25 [(false, (.tmp 83)), (false, (.con (.int .i64 2)))], none⟩,
   ⟨some 85, .bin .eql (.tmp 84) (.con (.int .i64 1)), none⟩] none [0, 11, 12, 13, 15, 16, 17, 18, 20, 85]) <|
  .cond (.tmp 85) (.reg [⟨some 86, .mv (.tmp 16), none⟩,
    ⟨some 87, .mv (.tmp 20), none⟩,
    ⟨some 88, .bsl 1 [.nils] 1 [(0, (.tmp 87))], none⟩,
    ⟨some 89, .append false 1 24 (.tmp 86) (.tmp 88), none⟩,
    ⟨some 16, .asg (.tmp 89), none⟩] none [0, 11, 12, 13, 15, 16, 17, 18]) <|
   .skip) <|
  .reg [⟨some 90, .mv (.tmp 16), none⟩,
   ⟨some 91, .mv (.tmp 18), none⟩,
   ⟨some 92, .bsl 1 [.nils] 1 [(0, (.tmp 91))], none⟩,
   ⟨some 93, .append false 1 24 (.tmp 90) (.tmp 92), none⟩,
   ⟨some 16, .asg (.tmp 93), none⟩] none [0, 11, 12, 13, 15, 16, 17]) <|
  .reg [⟨some 54, .mv (.tmp 17), none⟩,
   ⟨some 55, .bin .add (.tmp 54) (.con (.int .i64 1)), none⟩,
   ⟨some 17, .asg (.tmp 55), none⟩] none [0, 11, 12, 13, 15, 16, 17]) <|
  .seq (.reg [⟨some 22, .asg (.con .nils), none⟩] none [0, 11, 12, 13, 16, 22]) <|
  .seq (.seq (.reg [⟨some 23, .asg (.con (.int .i64 0)), none⟩] none [0, 11, 12, 13, 16, 22, 23]) <|
  .block 2 <|
  .loop [0, 11, 12, 13, 16, 22, 23] <|
  .seq (.seq (.reg [⟨some 94, .mv (.tmp 23), none⟩,
   ⟨some 95, .mv (.tmp 16), none⟩,
   ⟨some 96, .len (.tmp 95), none⟩,
   ⟨some 97, .bin .lss (.tmp 94) (.tmp 96), none⟩] none [0, 11, 12, 13, 16, 22, 23, 97]) <|
  .cond (.tmp 97) (.skip) <|
   .exit 2) <|
  .seq (.block 3 <|
  .seq (.reg [⟨some 101, .mv (.tmp 16), none⟩,
   ⟨some 102, .mv (.tmp 23), none⟩,
   ⟨some 103, .iaddrS 1 (.tmp 101) (.tmp 102), none⟩,
   ⟨some 104, .load false none (.tmp 103), none⟩,
   ⟨some 105, .call 26 [(false, (.tmp 104))], none⟩,
   ⟨some 100, .mv (.tmp 105), none⟩,
   ⟨some 106, .extract (.tmp 100) 0, none⟩,
   ⟨some 107, .extract (.tmp 100) 1, none⟩,
   ⟨some 24, .alloc [(.int .u32 0), (.bool false), (.int .i64 0), (.int .i64 0), (.int .i64 0), .nils], none⟩,
   ⟨none, .store 6 (.tmp 24) (.tmp 106), none⟩,
   ⟨some 25, .asg (.tmp 107), none⟩] none [0, 11, 12, 13, 16, 22, 23, 24, 25]) <|
  .seq (.seq (.reg [⟨some 108, .mv (.tmp 25), none⟩,
   ⟨some 109, .bin .neq (.tmp 108) (.con (.int .i64 0)), none⟩] none [0, 11, 12, 13, 16, 22, 23, 24, 109]) <|
  .cond (.tmp 109) (.seq (.reg [⟨some 10, .asg (.con (.bool false)), none⟩] none [10]) <|
   .ret) <|
   .skip) <|
  .seq (.reg [⟨some 110, .faddr 0 (.tmp 24), none⟩,
   ⟨some 111, .load false none (.tmp 110), none⟩,
   ⟨some 112, .mv (.tmp 0), none⟩,
   ⟨some 113, .bin .eql (.tmp 111) (.tmp 112), none⟩] none [0, 11, 12, 13, 16, 22, 23, 24, 113]) <|
  .cond (.tmp 113) (.reg [⟨some 114, .mv (.tmp 22), none⟩,
    ⟨some 115, .load true (some 6) (.tmp 24), none⟩,
    ⟨some 116, .bsl 6 [(.int .u32 0), (.bool false), (.int .i64 0), (.int .i64 0), (.int .i64 0), .nils] 1 [(0, (.tmp 115))], none⟩,
    ⟨some 117, .append false 6 56 (.tmp 114) (.tmp 116), none⟩,
    ⟨some 22, .asg (.tmp 117), none⟩] none [0, 11, 12, 13, 16, 22, 23]) <|
   .skip) <|
  .reg [⟨some 98, .mv (.tmp 23), none⟩,
   ⟨some 99, .bin .add (.tmp 98) (.con (.int .i64 1)), none⟩,
   ⟨some 23, .asg (.tmp 99), none⟩] none [0, 11, 12, 13, 16, 22, 23]) <|
  .seq (.reg [⟨some 118, .mv (.tmp 22), none⟩,
   ⟨some 119, .build [(.int .u32 0), (.bool false), (.int .i64 0), (.int .i64 0), (.int .i64 0), .nils] [(4, 1, (.con (.int .i64 5)))], none⟩,
   ⟨some 120, .bsl 6 [(.int .u32 0), (.bool false), (.int .i64 0), (.int .i64 0), (.int .i64 0), .nils] 1 [(0, (.tmp 119))], none⟩,
   ⟨some 121, .append false 6 56 (.tmp 118) (.tmp 120), none⟩,
   ⟨some 22, .asg (.tmp 121), none⟩] none [11, 12, 13, 22]) <|
  .seq (.reg [⟨some 123, .mv (.tmp 22), none⟩,
   ⟨some 124, .call 32 [(false, (.tmp 123))], none⟩,
   ⟨some 122, .mv (.tmp 124), none⟩,
   ⟨some 125, .extract (.tmp 122) 0, none⟩,
   ⟨some 126, .extract (.tmp 122) 1, none⟩,
   ⟨some 127, .extract (.tmp 122) 2, none⟩,
   ⟨some 128, .extract (.tmp 122) 3, none⟩,
   ⟨some 26, .asg (.tmp 125), none⟩,
   ⟨some 27, .asg (.tmp 126), none⟩,
   ⟨some 28, .asg (.tmp 127), none⟩,
   ⟨some 29, .asg (.tmp 128), none⟩] none [11, 12, 13, 26, 27, 28, 29]) <|
  .seq (.reg [⟨some 129, .mv (.tmp 29), none⟩,
   ⟨some 130, .bin .eql (.tmp 129) (.con (.int .i64 0)), none⟩,
   ⟨some 131, .mv (.tmp 130), none⟩,
   ⟨some 132, .mv (.tmp 26), some (131, true)⟩,
   ⟨some 133, .mv (.tmp 12), some (131, true)⟩,
   ⟨some 134, .bin .eql (.tmp 132) (.tmp 133), some (131, true)⟩,
   ⟨some 135, .pick (.tmp 131) (.tmp 134) (.con (.bool false)), none⟩,
   ⟨some 136, .mv (.tmp 135), none⟩,
   ⟨some 137, .mv (.tmp 27), some (136, true)⟩,
   ⟨some 138, .cvText (.tmp 137), some (136, true)⟩,
   ⟨some 139, .mv (.tmp 11), some (136, true)⟩,
   ⟨some 140, .cvText (.tmp 139), some (136, true)⟩,
   ⟨some 141, .bin .eql (.tmp 138) (.tmp 140), some (136, true)⟩,
   ⟨some 142, .pick (.tmp 136) (.tmp 141) (.con (.bool false)), none⟩,
   ⟨some 143, .mv (.tmp 142), none⟩,
   ⟨some 144, .mv (.tmp 28), some (143, true)⟩,
   ⟨some 145, .mv (.tmp 13), some (143, true)⟩,
   ⟨some 146, .len (.tmp 145), some (143, true)⟩,
   ⟨some 147, .bin .eql (.tmp 144) (.tmp 146), some (143, true)⟩,
   ⟨some 148, .pick (.tmp 143) (.tmp 147) (.con (.bool false)), none⟩,
   ⟨some 149, .mv (.tmp 148), none⟩,
   ⟨some 150, .call 18 [], some (149, true)⟩,
   ⟨some 151, .pick (.tmp 149) (.tmp 150) (.con (.bool false)), none⟩,
   ⟨some 10, .asg (.tmp 151), none⟩] none [10]) <|
  .ret⟩
theorem pf8_ok : cFn Try.prog [(115, [true])] [[0, 1, 2, 3, 4], [0, 1, 4, 11], [0, 4, 11, 12], [0, 4, 11, 12, 13, 14], [0, 4, 11, 12, 13, 47], [10], [0, 11, 12, 13, 15], [0, 11, 12, 13, 15, 16], [0, 11, 12, 13, 15, 16, 17], [0, 11, 12, 13, 15, 16, 17], [0, 11, 12, 13, 15, 16, 17, 53], [0, 11, 12, 13, 15, 16, 17, 18, 19], [0, 11, 12, 13, 15, 16, 17, 18, 19, 20, 21], [0, 11, 12, 13, 15, 16, 17, 18, 20, 82], [10], [0, 11, 12, 13, 15, 16, 17, 18, 20, 85], [0, 11, 12, 13, 15, 16, 17, 18], [0, 11, 12, 13, 15, 16, 17], [0, 11, 12, 13, 15, 16, 17], [0, 11, 12, 13, 16, 22], [0, 11, 12, 13, 16, 22, 23], [0, 11, 12, 13, 16, 22, 23], [0, 11, 12, 13, 16, 22, 23, 97], [0, 11, 12, 13, 16, 22, 23, 24, 25], [0, 11, 12, 13, 16, 22, 23, 24, 109], [10], [0, 11, 12, 13, 16, 22, 23, 24, 113], [0, 11, 12, 13, 16, 22, 23], [0, 11, 12, 13, 16, 22, 23], [11, 12, 13, 22], [11, 12, 13, 26, 27, 28, 29], [10]] Try.f8 = some pf8 := by kernel_rfl

-- 9 passkey/passkeylaw22.LinkDelivers calls [33, 14, 15, 19, 21, 23, 34, 25, 24, 35]
def pf9 : PFn :=
  ⟨170, 3, [.tmp 6],
  .seq (.reg [⟨some 6, .asg (.con (.bool false)), none⟩] none [0, 1, 2]) <|
  .seq (.reg [⟨some 19, .call 33 [(false, (.con (.int .i64 2)))], none⟩,
   ⟨some 18, .mv (.tmp 19), none⟩,
   ⟨some 20, .extract (.tmp 18) 0, none⟩,
   ⟨some 21, .extract (.tmp 18) 1, none⟩,
   ⟨some 7, .alloc [(.int .i64 0), (.int .i64 0), (.int .u32 0), (.int .i64 0), (.int .i64 0), .nils, (.int .i64 0), (.int .i64 0)], none⟩,
   ⟨none, .store 8 (.tmp 7) (.tmp 20), none⟩,
   ⟨some 8, .asg (.tmp 21), none⟩] none [0, 1, 2, 7, 8]) <|
  .seq (.reg [⟨some 22, .mv (.tmp 0), none⟩,
   ⟨some 23, .call 14 [(false, (.tmp 22)), (false, (.con (.int .i64 99)))], none⟩,
   ⟨some 24, .mv (.tmp 1), none⟩,
   ⟨some 25, .call 15 [(false, (.tmp 24))], none⟩,
   ⟨some 26, .minmax false (.tmp 25) [(.con (.int .i64 4096))], none⟩,
   ⟨some 27, .call 19 [(false, (.tmp 23)), (false, (.tmp 26))], none⟩,
   ⟨some 9, .asg (.tmp 27), none⟩] none [2, 7, 8, 9]) <|
  .seq (.reg [⟨some 29, .mv (.tmp 9), none⟩,
   ⟨some 30, .call 21 [(false, (.con (.int .u32 1))), (false, (.con (.int .i64 3))), (false, (.tmp 29))], none⟩,
   ⟨some 28, .mv (.tmp 30), none⟩,
   ⟨some 31, .extract (.tmp 28) 0, none⟩,
   ⟨some 32, .extract (.tmp 28) 1, none⟩,
   ⟨some 10, .asg (.tmp 31), none⟩,
   ⟨some 11, .asg (.tmp 32), none⟩] none [2, 7, 8, 9, 10]) <|
  .seq (.seq (.reg [⟨some 33, .mv (.tmp 8), none⟩,
   ⟨some 34, .un .not (.tmp 33), none⟩] none [2, 7, 9, 10, 34]) <|
  .cond (.tmp 34) (.seq (.reg [⟨some 6, .asg (.con (.bool false)), none⟩] none [6]) <|
   .ret) <|
   .skip) <|
  .seq (.reg [⟨some 35, .mv (.tmp 2), none⟩,
   ⟨some 36, .call 23 [(false, (.tmp 35))], none⟩,
   ⟨some 12, .asg (.tmp 36), none⟩] none [7, 9, 10, 12]) <|
  .seq (.reg [⟨some 13, .asg (.con (.int .i64 0)), none⟩] none [7, 9, 10, 12, 13]) <|
  .seq (.seq (.reg [⟨some 14, .asg (.con (.int .i64 0)), none⟩] none [7, 9, 10, 12, 13, 14]) <|
  .block 0 <|
  .loop [7, 9, 10, 12, 13, 14] <|
  .seq (.seq (.reg [⟨some 37, .mv (.tmp 14), none⟩,
   ⟨some 38, .mv (.tmp 10), none⟩,
   ⟨some 39, .len (.tmp 38), none⟩,
   ⟨some 40, .bin .lss (.tmp 37) (.tmp 39), none⟩] none [7, 9, 10, 12, 13, 14, 40]) <|
  .cond (.tmp 40) (.skip) <|
   .exit 0) <|
  .seq (.block 1 <|
  .seq (.reg [⟨some 44, .load true (some 8) (.tmp 7), none⟩,
   ⟨some 45, .mv (.tmp 13), none⟩,
   ⟨some 46, .mv (.tmp 10), none⟩,
   ⟨some 47, .mv (.tmp 14), none⟩,
   ⟨some 48, .iaddrS 6 (.tmp 46) (.tmp 47), none⟩,
   ⟨some 49, .load false (some 6) (.tmp 48), none⟩,
   ⟨some 50, .call 34 [(false, (.tmp 44)), (false, (.tmp 45)), (false, (.tmp 49))], none⟩,
   ⟨some 43, .mv (.tmp 50), none⟩,
   ⟨some 51, .extract (.tmp 43) 0, none⟩,
   ⟨some 52, .extract (.tmp 43) 1, none⟩,
   ⟨some 15, .alloc [(.int .i64 0), (.int .i64 0), (.int .u32 0), (.int .i64 0), (.int .i64 0), .nils, (.int .i64 0), (.int .i64 0)], none⟩,
   ⟨some 16, .alloc [.nils, (.bool false), .nils, (.bool false)], none⟩,
   ⟨none, .store 8 (.tmp 15) (.tmp 51), none⟩,
   ⟨none, .store 4 (.tmp 16) (.tmp 52), none⟩] (some [0, 0, 0, 0, 12, 28, 63, 127, 255, 255, 0, 0, 3583, 8191]) [7, 9, 10, 12, 13, 14, 15, 16]) <|
  .seq (.reg [⟨some 53, .mv (.tmp 14), none⟩,
   ⟨some 54, .mv (.tmp 10), none⟩,
   ⟨some 55, .len (.tmp 54), none⟩,
   ⟨some 56, .bin .sub (.tmp 55) (.con (.int .i64 1)), none⟩,
   ⟨some 57, .bin .eql (.tmp 53) (.tmp 56), none⟩,
   ⟨some 17, .asg (.tmp 57), none⟩] none [7, 9, 10, 12, 13, 14, 15, 16, 17]) <|
  .seq (.seq (.reg [⟨some 58, .faddr 1 (.tmp 16), none⟩,
   ⟨some 59, .load false none (.tmp 58), none⟩,
   ⟨some 60, .mv (.tmp 17), none⟩,
   ⟨some 61, .eqB true (.tmp 59) (.tmp 60), none⟩,
   ⟨some 62, .mv (.tmp 61), none⟩,
   ⟨some 63, .mv (.tmp 17), some (62, false)⟩,
   ⟨some 64, .mv (.tmp 63), some (62, false)⟩,
   ⟨some 65, .faddr 2 (.tmp 16), some (64, true)⟩,
   ⟨some 66, .load false none (.tmp 65), some (64, true)⟩,
   ⟨some 67, .cvText (.tmp 66), some (64, true)⟩,
   ⟨some 68, .mv (.tmp 9), some (64, true)⟩,
   ⟨some 69, .cvText (.tmp 68), some (64, true)⟩,
   ⟨some 70, .bin .neq (.tmp 67) (.tmp 69), some (64, true)⟩,
   ⟨some 71, .pick (.tmp 64) (.tmp 70) (.con (.bool false)), some (62, false)⟩,
   ⟨some 72, .pick (.tmp 62) (.con (.bool true)) (.tmp 71), none⟩,
   ⟨some 73, .mv (.tmp 72), none⟩,
   ⟨some 74, .faddr 3 (.tmp 16), some (73, false)⟩,
   ⟨some 75, .load false none (.tmp 74), some (73, false)⟩,
   ⟨some 76, .pick (.tmp 73) (.con (.bool true)) (.tmp 75), none⟩,
   ⟨some 77, .mv (.tmp 76), none⟩,
   ⟨some 78, .faddr 0 (.tmp 16), some (77, false)⟩,
   ⟨some 79, .load false none (.tmp 78), some (77, false)⟩,
   ⟨some 80, .len (.tmp 79), some (77, false)⟩,
   ⟨some 81, .bin .gtr (.tmp 80) (.con (.int .i64 0)), some (77, false)⟩,
   ⟨some 82, .pick (.tmp 77) (.con (.bool true)) (.tmp 81), none⟩] none [7, 9, 10, 12, 13, 14, 15, 16, 17, 82]) <|
  .cond (.tmp 82) (.seq (.reg [⟨some 6, .asg (.con (.bool false)), none⟩] none [6]) <|
   .ret) <|
   .skip) <|
  .seq (.reg [⟨some 83, .load true (some 8) (.tmp 15), none⟩,
   ⟨none, .store 8 (.tmp 7) (.tmp 83), none⟩] none [7, 9, 10, 12, 13, 14, 15, 16, 17]) <|
  .seq (.seq (.reg [⟨some 84, .mv (.tmp 17), none⟩,
   ⟨some 85, .un .not (.tmp 84), none⟩,
   ⟨some 86, .mv (.tmp 85), none⟩,
   ⟨some 87, .mv (.tmp 12), some (86, true)⟩,
   ⟨some 88, .call 25 [(false, (.tmp 87)), (false, (.con (.int .i64 2)))], some (86, true)⟩,
   ⟨some 89, .bin .eql (.tmp 88) (.con (.int .i64 1)), some (86, true)⟩,
   ⟨some 90, .pick (.tmp 86) (.tmp 89) (.con (.bool false)), none⟩] none [7, 9, 10, 12, 13, 14, 15, 16, 90]) <|
  .cond (.tmp 90) (.seq (.reg [⟨some 92, .load true (some 8) (.tmp 7), none⟩,
    ⟨some 93, .mv (.tmp 13), none⟩,
    ⟨some 94, .mv (.tmp 14), none⟩,
    ⟨some 95, .call 24 [(false, (.tmp 94)), (false, (.con (.int .i64 3)))], none⟩,
    ⟨some 96, .build [(.int .u32 0), (.bool false), (.int .i64 0), (.int .i64 0), (.int .i64 0), .nils] [(0, 1, (.con (.int .u32 2))), (1, 1, (.con (.bool true))), (2, 1, (.con (.int .i64 3))), (3, 1, (.con (.int .i64 3))), (5, 1, (.tmp 95))], none⟩,
    ⟨some 97, .call 34 [(false, (.tmp 92)), (false, (.tmp 93)), (false, (.tmp 96))], none⟩,
    ⟨some 91, .mv (.tmp 97), none⟩,
    ⟨some 98, .extract (.tmp 91) 0, none⟩,
    ⟨some 99, .extract (.tmp 91) 1, none⟩,
    ⟨none, .store 8 (.tmp 15) (.tmp 98), none⟩,
    ⟨none, .store 4 (.tmp 16) (.tmp 99), none⟩] (some [0, 0, 0, 4, 12, 31, 63, 127, 127, 255, 1023]) [7, 9, 10, 12, 13, 14, 15, 16]) <|
   .seq (.seq (.reg [⟨some 100, .faddr 1 (.tmp 16), none⟩,
    ⟨some 101, .load false none (.tmp 100), none⟩,
    ⟨some 102, .mv (.tmp 101), none⟩,
    ⟨some 103, .faddr 0 (.tmp 16), some (102, false)⟩,
    ⟨some 104, .load false none (.tmp 103), some (102, false)⟩,
    ⟨some 105, .len (.tmp 104), some (102, false)⟩,
    ⟨some 106, .bin .neq (.tmp 105) (.con (.int .i64 1)), some (102, false)⟩,
    ⟨some 107, .pick (.tmp 102) (.con (.bool true)) (.tmp 106), none⟩,
    ⟨some 108, .mv (.tmp 107), none⟩,
    ⟨some 109, .faddr 0 (.tmp 16), some (108, false)⟩,
    ⟨some 110, .load false none (.tmp 109), some (108, false)⟩,
    ⟨some 111, .iaddrS 6 (.tmp 110) (.con (.int .i64 0)), some (108, false)⟩,
    ⟨some 112, .faddr 0 (.tmp 111), some (108, false)⟩,
    ⟨some 113, .load false none (.tmp 112), some (108, false)⟩,
    ⟨some 114, .bin .neq (.tmp 113) (.con (.int .u32 2)), some (108, false)⟩,
    ⟨some 115, .pick (.tmp 108) (.con (.bool true)) (.tmp 114), none⟩,
    ⟨some 116, .mv (.tmp 115), none⟩,
    ⟨some 117, .faddr 0 (.tmp 16), some (116, false)⟩,
    ⟨some 118, .load false none (.tmp 117), some (116, false)⟩,
    ⟨some 119, .iaddrS 6 (.tmp 118) (.con (.int .i64 0)), some (116, false)⟩,
    ⟨some 120, .faddr 2 (.tmp 119), some (116, false)⟩,
    ⟨some 121, .load false none (.tmp 120), some (116, false)⟩,
    ⟨some 122, .bin .neq (.tmp 121) (.con (.int .i64 63)), some (116, false)⟩,
    ⟨some 123, .pick (.tmp 116) (.con (.bool true)) (.tmp 122), none⟩,
    ⟨some 124, .mv (.tmp 123), none⟩,
    ⟨some 125, .faddr 0 (.tmp 16), some (124, false)⟩,
    ⟨some 126, .load false none (.tmp 125), some (124, false)⟩,
    ⟨some 127, .iaddrS 6 (.tmp 126) (.con (.int .i64 0)), some (124, false)⟩,
    ⟨some 128, .faddr 5 (.tmp 127), some (124, false)⟩,
    ⟨some 129, .load false none (.tmp 128), some (124, false)⟩,
    ⟨some 130, .cvText (.tmp 129), some (124, false)⟩,
    ⟨some 131, .bsl 1 [(.int .u8 0)] 1 [(0, (.con (.int .u8 32)))], some (124, false)⟩,
    ⟨some 132, .cvText (.tmp 131), some (124, false)⟩,
    ⟨some 133, .bin .neq (.tmp 130) (.tmp 132), some (124, false)⟩,
    ⟨some 134, .pick (.tmp 124) (.con (.bool true)) (.tmp 133), none⟩] (some [0, 1, 3, 7, 15, 31, 63, 127, 255, 511, 1023, 2047, 4095, 8191, 16383, 32767, 65535, 131071, 262143, 524287, 1048575, 2097151, 4194303, 8388607, 16777215, 33554431, 67108863, 134217727, 268435455, 536870911, 1073741823, 33554431, 2181038079, 8589934591, 17179869183]) [7, 9, 10, 12, 13, 14, 15, 16, 134]) <|
   .cond (.tmp 134) (.seq (.reg [⟨some 6, .asg (.con (.bool false)), none⟩] none [6]) <|
    .ret) <|
    .skip) <|
   .seq (.reg [⟨some 136, .load true (some 8) (.tmp 15), none⟩,
    ⟨some 137, .mv (.tmp 13), none⟩,
    ⟨some 138, .mv (.tmp 12), none⟩,
    ⟨some 139, .call 25 [(false, (.tmp 138)), (false, (.con (.int .i64 9)))], none⟩,
    ⟨some 140, .mv (.tmp 14), none⟩,
    ⟨some 141, .call 24 [(false, (.tmp 140)), (false, (.con (.int .i64 59)))], none⟩,
    ⟨some 142, .build [(.int .u32 0), (.bool false), (.int .i64 0), (.int .i64 0), (.int .i64 0), .nils] [(0, 1, (.con (.int .u32 2))), (4, 1, (.tmp 139)), (5, 1, (.tmp 141))], none⟩,
    ⟨some 143, .call 34 [(false, (.tmp 136)), (false, (.tmp 137)), (false, (.tmp 142))], none⟩,
    ⟨some 135, .mv (.tmp 143), none⟩,
    ⟨some 144, .extract (.tmp 135) 0, none⟩,
    ⟨some 145, .extract (.tmp 135) 1, none⟩,
    ⟨none, .store 8 (.tmp 15) (.tmp 144), none⟩,
    ⟨none, .store 4 (.tmp 16) (.tmp 145), none⟩] (some [0, 0, 0, 4, 0, 28, 60, 127, 255, 511, 511, 1023, 4095]) [7, 9, 10, 12, 13, 14, 15, 16]) <|
   .seq (.seq (.reg [⟨some 146, .faddr 1 (.tmp 16), none⟩,
    ⟨some 147, .load false none (.tmp 146), none⟩,
    ⟨some 148, .mv (.tmp 147), none⟩,
    ⟨some 149, .faddr 0 (.tmp 16), some (148, false)⟩,
    ⟨some 150, .load false none (.tmp 149), some (148, false)⟩,
    ⟨some 151, .len (.tmp 150), some (148, false)⟩,
    ⟨some 152, .bin .gtr (.tmp 151) (.con (.int .i64 0)), some (148, false)⟩,
    ⟨some 153, .pick (.tmp 148) (.con (.bool true)) (.tmp 152), none⟩] none [7, 9, 10, 12, 13, 14, 15, 153]) <|
   .cond (.tmp 153) (.seq (.reg [⟨some 6, .asg (.con (.bool false)), none⟩] none [6]) <|
    .ret) <|
    .skip) <|
   .reg [⟨some 154, .load true (some 8) (.tmp 15), none⟩,
    ⟨none, .store 8 (.tmp 7) (.tmp 154), none⟩] none [7, 9, 10, 12, 13, 14]) <|
   .skip) <|
  .reg [⟨some 155, .mv (.tmp 13), none⟩,
   ⟨some 156, .mv (.tmp 12), none⟩,
   ⟨some 157, .call 25 [(false, (.tmp 156)), (false, (.con (.int .i64 21)))], none⟩,
   ⟨some 158, .bin .add (.tmp 155) (.tmp 157), none⟩,
   ⟨some 13, .asg (.tmp 158), none⟩] none [7, 9, 10, 12, 13, 14]) <|
  .reg [⟨some 41, .mv (.tmp 14), none⟩,
   ⟨some 42, .bin .add (.tmp 41) (.con (.int .i64 1)), none⟩,
   ⟨some 14, .asg (.tmp 42), none⟩] none [7, 9, 10, 12, 13, 14]) <|
  .seq (.reg [⟨some 159, .faddr 1 (.tmp 7), none⟩,
   ⟨some 160, .load false none (.tmp 159), none⟩,
   ⟨some 161, .bin .eql (.tmp 160) (.con (.int .i64 2)), none⟩,
   ⟨some 162, .mv (.tmp 161), none⟩,
   ⟨some 163, .faddr 2 (.tmp 7), some (162, true)⟩,
   ⟨some 164, .load false none (.tmp 163), some (162, true)⟩,
   ⟨some 165, .bin .eql (.tmp 164) (.con (.int .u32 1)), some (162, true)⟩,
   ⟨some 166, .pick (.tmp 162) (.tmp 165) (.con (.bool false)), none⟩,
   ⟨some 167, .mv (.tmp 166), none⟩,
   ⟨some 168, .call 35 [], some (167, true)⟩,
   ⟨some 169, .pick (.tmp 167) (.tmp 168) (.con (.bool false)), none⟩,
   ⟨some 6, .asg (.tmp 169), none⟩] none [6]) <|
  .ret⟩
theorem pf9_ok : cFn Try.prog [(44, [true]), (83, [true]), (92, [true]), (136, [true]), (154, [true])] [[0, 1, 2], [0, 1, 2, 7, 8], [2, 7, 8, 9], [2, 7, 8, 9, 10], [2, 7, 9, 10, 34], [6], [7, 9, 10, 12], [7, 9, 10, 12, 13], [7, 9, 10, 12, 13, 14], [7, 9, 10, 12, 13, 14], [7, 9, 10, 12, 13, 14, 40], [7, 9, 10, 12, 13, 14, 15, 16], [7, 9, 10, 12, 13, 14, 15, 16, 17], [7, 9, 10, 12, 13, 14, 15, 16, 17, 82], [6], [7, 9, 10, 12, 13, 14, 15, 16, 17], [7, 9, 10, 12, 13, 14, 15, 16, 90], [7, 9, 10, 12, 13, 14, 15, 16], [7, 9, 10, 12, 13, 14, 15, 16, 134], [6], [7, 9, 10, 12, 13, 14, 15, 16], [7, 9, 10, 12, 13, 14, 15, 153], [6], [7, 9, 10, 12, 13, 14], [7, 9, 10, 12, 13, 14], [7, 9, 10, 12, 13, 14], [6]] Try.f9 = some pf9 := by kernel_rfl

-- 10 passkey/passkeylaw22.LinkOnce calls [33, 23, 36, 25, 37, 30, 34, 35]
def pf10 : PFn :=
  ⟨99, 1, [.tmp 2],
  .seq (.reg [⟨some 2, .asg (.con (.bool false)), none⟩] none [0]) <|
  .seq (.reg [⟨some 16, .call 33 [(false, (.con (.int .i64 3)))], none⟩,
   ⟨some 15, .mv (.tmp 16), none⟩,
   ⟨some 17, .extract (.tmp 15) 0, none⟩,
   ⟨some 18, .extract (.tmp 15) 1, none⟩,
   ⟨some 3, .alloc [(.int .i64 0), (.int .i64 0), (.int .u32 0), (.int .i64 0), (.int .i64 0), .nils, (.int .i64 0), (.int .i64 0)], none⟩,
   ⟨none, .store 8 (.tmp 3) (.tmp 17), none⟩,
   ⟨some 4, .asg (.tmp 18), none⟩] none [0, 3, 4]) <|
  .seq (.seq (.reg [⟨some 19, .mv (.tmp 4), none⟩,
   ⟨some 20, .un .not (.tmp 19), none⟩] none [0, 3, 20]) <|
  .cond (.tmp 20) (.seq (.reg [⟨some 2, .asg (.con (.bool false)), none⟩] none [2]) <|
   .ret) <|
   .skip) <|
  .seq (.reg [⟨some 21, .mv (.tmp 0), none⟩,
   ⟨some 22, .call 23 [(false, (.tmp 21))], none⟩,
   ⟨some 5, .asg (.tmp 22), none⟩] none [3, 5]) <|
  .seq (.reg [⟨some 6, .asg (.con (.bool false)), none⟩,
   ⟨some 7, .asg (.con (.int .u32 0)), none⟩] none [3, 5, 6, 7]) <|
  .seq (.seq (.reg [⟨some 8, .asg (.con (.int .i64 0)), none⟩] none [3, 5, 6, 7, 8]) <|
  .block 0 <|
  .loop [3, 5, 6, 7, 8] <|
  .seq (.seq (.reg [⟨some 23, .mv (.tmp 8), none⟩,
   ⟨some 24, .bin .lss (.tmp 23) (.con (.int .i64 50)), none⟩,
   ⟨some 25, .mv (.tmp 24), none⟩,
   ⟨some 26, .mv (.tmp 5), some (25, true)⟩,
   ⟨some 27, .call 36 [(false, (.tmp 26))], some (25, true)⟩,
   ⟨some 28, .pick (.tmp 25) (.tmp 27) (.con (.bool false)), none⟩] none [3, 5, 6, 7, 8, 28]) <|
  .cond (.tmp 28) (.skip) <|
   .exit 0) <|
  .seq (.block 1 <|
  .seq (.seq (.reg [⟨some 31, .mv (.tmp 6), none⟩,
   ⟨some 32, .mv (.tmp 31), none⟩,
   ⟨some 33, .mv (.tmp 5), some (32, true)⟩,
   ⟨some 34, .call 25 [(false, (.tmp 33)), (false, (.con (.int .i64 4)))], some (32, true)⟩,
   ⟨some 35, .bin .eql (.tmp 34) (.con (.int .i64 0)), some (32, true)⟩,
   ⟨some 36, .pick (.tmp 32) (.tmp 35) (.con (.bool false)), none⟩] none [3, 5, 6, 7, 8, 36]) <|
  .cond (.tmp 36) (.seq (.reg [⟨some 38, .load true (some 8) (.tmp 3), none⟩,
    ⟨some 39, .mv (.tmp 8), none⟩,
    ⟨some 40, .cvInt .u8 (.tmp 39), none⟩,
    ⟨some 41, .bsl 1 [(.int .u8 0)] 1 [(0, (.tmp 40))], none⟩,
    ⟨some 42, .call 37 [(false, (.tmp 38)), (false, (.tmp 41))], none⟩,
    ⟨some 37, .mv (.tmp 42), none⟩,
    ⟨some 43, .extract (.tmp 37) 0, none⟩,
    ⟨some 44, .extract (.tmp 37) 1, none⟩,
    ⟨some 45, .extract (.tmp 37) 2, none⟩,
    ⟨some 9, .alloc [(.int .i64 0), (.int .i64 0), (.int .u32 0), (.int .i64 0), (.int .i64 0), .nils, (.int .i64 0), (.int .i64 0)], none⟩,
    ⟨none, .store 8 (.tmp 9) (.tmp 43), none⟩,
    ⟨some 10, .asg (.tmp 44), none⟩,
    ⟨some 11, .asg (.tmp 45), none⟩] none [3, 5, 7, 8, 9, 10, 11]) <|
   .seq (.seq (.reg [⟨some 46, .mv (.tmp 11), none⟩,
    ⟨some 47, .bin .neq (.tmp 46) (.con (.int .i64 0)), none⟩,
    ⟨some 48, .mv (.tmp 47), none⟩,
    ⟨some 49, .mv (.tmp 10), some (48, false)⟩,
    ⟨some 50, .len (.tmp 49), some (48, false)⟩,
    ⟨some 51, .bin .neq (.tmp 50) (.con (.int .i64 1)), some (48, false)⟩,
    ⟨some 52, .pick (.tmp 48) (.con (.bool true)) (.tmp 51), none⟩,
    ⟨some 53, .mv (.tmp 52), none⟩,
    ⟨some 54, .mv (.tmp 10), some (53, false)⟩,
    ⟨some 55, .iaddrS 6 (.tmp 54) (.con (.int .i64 0)), some (53, false)⟩,
    ⟨some 56, .faddr 0 (.tmp 55), some (53, false)⟩,
    ⟨some 57, .load false none (.tmp 56), some (53, false)⟩,
    ⟨some 58, .mv (.tmp 7), some (53, false)⟩,
    ⟨some 59, .bin .neq (.tmp 57) (.tmp 58), some (53, false)⟩,
    ⟨some 60, .pick (.tmp 53) (.con (.bool true)) (.tmp 59), none⟩] none [3, 5, 7, 8, 9, 60]) <|
   .cond (.tmp 60) (.seq (.reg [⟨some 2, .asg (.con (.bool false)), none⟩] none [2]) <|
    .ret) <|
    .skip) <|
   .seq (.reg [⟨some 61, .load true (some 8) (.tmp 9), none⟩,
    ⟨none, .store 8 (.tmp 3) (.tmp 61), none⟩,
    ⟨some 6, .asg (.con (.bool false)), none⟩] none [3, 5, 6, 7, 8]) <|
   .exit 1) <|
   .skip) <|
  .seq (.reg [⟨some 62, .mv (.tmp 5), none⟩,
   ⟨some 63, .call 30 [(false, (.tmp 62))], none⟩,
   ⟨some 12, .alloc [(.int .u32 0), (.bool false), (.int .i64 0), (.int .i64 0), (.int .i64 0), .nils], none⟩,
   ⟨none, .store 6 (.tmp 12) (.tmp 63), none⟩] none [3, 5, 6, 7, 8, 12]) <|
  .seq (.reg [⟨some 65, .load true (some 8) (.tmp 3), none⟩,
   ⟨some 66, .mv (.tmp 8), none⟩,
   ⟨some 67, .load false (some 6) (.tmp 12), none⟩,
   ⟨some 68, .call 34 [(false, (.tmp 65)), (false, (.tmp 66)), (false, (.tmp 67))], none⟩,
   ⟨some 64, .mv (.tmp 68), none⟩,
   ⟨some 69, .extract (.tmp 64) 0, none⟩,
   ⟨some 70, .extract (.tmp 64) 1, none⟩,
   ⟨some 13, .alloc [(.int .i64 0), (.int .i64 0), (.int .u32 0), (.int .i64 0), (.int .i64 0), .nils, (.int .i64 0), (.int .i64 0)], none⟩,
   ⟨some 14, .alloc [.nils, (.bool false), .nils, (.bool false)], none⟩,
   ⟨none, .store 8 (.tmp 13) (.tmp 69), none⟩,
   ⟨none, .store 4 (.tmp 14) (.tmp 70), none⟩] none [3, 5, 6, 7, 8, 12, 13, 14]) <|
  .seq (.seq (.reg [⟨some 71, .faddr 1 (.tmp 14), none⟩,
   ⟨some 72, .load false none (.tmp 71), none⟩,
   ⟨some 73, .mv (.tmp 72), none⟩,
   ⟨some 74, .mv (.tmp 6), some (73, true)⟩,
   ⟨some 75, .pick (.tmp 73) (.tmp 74) (.con (.bool false)), none⟩,
   ⟨some 76, .mv (.tmp 75), none⟩,
   ⟨some 77, .faddr 3 (.tmp 14), some (76, true)⟩,
   ⟨some 78, .load false none (.tmp 77), some (76, true)⟩,
   ⟨some 79, .un .not (.tmp 78), some (76, true)⟩,
   ⟨some 80, .pick (.tmp 76) (.tmp 79) (.con (.bool false)), none⟩] none [3, 5, 6, 7, 8, 12, 13, 14, 80]) <|
  .cond (.tmp 80) (.seq (.reg [⟨some 2, .asg (.con (.bool false)), none⟩] none [2]) <|
   .ret) <|
   .skip) <|
  .seq (.seq (.reg [⟨some 81, .faddr 1 (.tmp 14), none⟩,
   ⟨some 82, .load false none (.tmp 81), none⟩] none [3, 5, 6, 7, 8, 12, 13, 14, 81, 82]) <|
  .cond (.tmp 82) (.reg [⟨some 83, .faddr 0 (.tmp 12), none⟩,
    ⟨some 84, .load false none (.tmp 83), none⟩,
    ⟨some 6, .asg (.con (.bool true)), none⟩,
    ⟨some 7, .asg (.tmp 84), none⟩] (some [0, 1, 0, 7]) [3, 5, 6, 7, 8, 13]) <|
   .seq (.reg [⟨some 85, .faddr 3 (.tmp 14), none⟩,
    ⟨some 86, .load false none (.tmp 85), none⟩,
    ⟨some 87, .mv (.tmp 86), none⟩,
    ⟨some 88, .faddr 1 (.tmp 13), some (87, true)⟩,
    ⟨some 89, .load false none (.tmp 88), some (87, true)⟩,
    ⟨some 90, .bin .eql (.tmp 89) (.con (.int .i64 0)), some (87, true)⟩,
    ⟨some 91, .pick (.tmp 87) (.tmp 90) (.con (.bool false)), none⟩] none [3, 5, 6, 7, 8, 13, 91]) <|
   .cond (.tmp 91) (.reg [⟨some 6, .asg (.con (.bool false)), none⟩] none [3, 5, 6, 7, 8, 13]) <|
    .skip) <|
  .seq (.seq (.reg [⟨some 92, .faddr 1 (.tmp 13), none⟩,
   ⟨some 93, .load false none (.tmp 92), none⟩,
   ⟨some 94, .bin .eql (.tmp 93) (.con (.int .i64 2)), none⟩,
   ⟨some 95, .mv (.tmp 6), none⟩,
   ⟨some 96, .eqB true (.tmp 94) (.tmp 95), none⟩] none [3, 5, 6, 7, 8, 13, 96]) <|
  .cond (.tmp 96) (.seq (.reg [⟨some 2, .asg (.con (.bool false)), none⟩] none [2]) <|
   .ret) <|
   .skip) <|
  .reg [⟨some 97, .load true (some 8) (.tmp 13), none⟩,
   ⟨none, .store 8 (.tmp 3) (.tmp 97), none⟩] none [3, 5, 6, 7, 8]) <|
  .reg [⟨some 29, .mv (.tmp 8), none⟩,
   ⟨some 30, .bin .add (.tmp 29) (.con (.int .i64 1)), none⟩,
   ⟨some 8, .asg (.tmp 30), none⟩] none [3, 5, 6, 7, 8]) <|
  .seq (.reg [⟨some 98, .call 35 [], none⟩,
   ⟨some 2, .asg (.tmp 98), none⟩] none [2]) <|
  .ret⟩
theorem pf10_ok : cFn Try.prog [(38, [true]), (61, [true]), (65, [true]), (97, [true])] [[0], [0, 3, 4], [0, 3, 20], [2], [3, 5], [3, 5, 6, 7], [3, 5, 6, 7, 8], [3, 5, 6, 7, 8], [3, 5, 6, 7, 8, 28], [3, 5, 6, 7, 8, 36], [3, 5, 7, 8, 9, 10, 11], [3, 5, 7, 8, 9, 60], [2], [3, 5, 6, 7, 8], [3, 5, 6, 7, 8, 12], [3, 5, 6, 7, 8, 12, 13, 14], [3, 5, 6, 7, 8, 12, 13, 14, 80], [2], [3, 5, 6, 7, 8, 12, 13, 14, 81, 82], [3, 5, 6, 7, 8, 13], [3, 5, 6, 7, 8, 13, 91], [3, 5, 6, 7, 8, 13], [3, 5, 6, 7, 8, 13, 96], [2], [3, 5, 6, 7, 8], [3, 5, 6, 7, 8], [2]] Try.f10 = some pf10 := by kernel_rfl

-- 11 passkey/passkeylaw22.LinkForgets calls [33, 14, 34, 38, 39, 35]
def pf11 : PFn :=
  ⟨132, 3, [.tmp 6],
  .seq (.reg [⟨some 6, .asg (.con (.bool false)), none⟩] none [0, 1, 2]) <|
  .seq (.reg [⟨some 15, .call 33 [(false, (.con (.int .i64 1)))], none⟩,
   ⟨some 14, .mv (.tmp 15), none⟩,
   ⟨some 16, .extract (.tmp 14) 0, none⟩,
   ⟨some 17, .extract (.tmp 14) 1, none⟩,
   ⟨some 7, .alloc [(.int .i64 0), (.int .i64 0), (.int .u32 0), (.int .i64 0), (.int .i64 0), .nils, (.int .i64 0), (.int .i64 0)], none⟩,
   ⟨none, .store 8 (.tmp 7) (.tmp 16), none⟩,
   ⟨some 8, .asg (.tmp 17), none⟩] none [0, 1, 2, 7, 8]) <|
  .seq (.seq (.reg [⟨some 18, .mv (.tmp 8), none⟩,
   ⟨some 19, .un .not (.tmp 18), none⟩] none [0, 1, 2, 7, 19]) <|
  .cond (.tmp 19) (.seq (.reg [⟨some 6, .asg (.con (.bool false)), none⟩] none [6]) <|
   .ret) <|
   .skip) <|
  .seq (.reg [⟨some 20, .mv (.tmp 2), none⟩,
   ⟨some 21, .call 14 [(false, (.tmp 20)), (false, (.con (.int .i64 1048576)))], none⟩,
   ⟨some 9, .asg (.tmp 21), none⟩] none [0, 1, 7, 9]) <|
  .seq (.reg [⟨some 23, .load true (some 8) (.tmp 7), none⟩,
   ⟨some 24, .mv (.tmp 9), none⟩,
   ⟨some 25, .mv (.tmp 1), none⟩,
   ⟨some 26, .cvInt .i64 (.tmp 25), none⟩,
   ⟨some 27, .bin .add (.con (.int .i64 58)) (.tmp 26), none⟩,
   ⟨some 28, .build [(.int .u32 0), (.bool false), (.int .i64 0), (.int .i64 0), (.int .i64 0), .nils] [(0, 1, (.con (.int .u32 1))), (1, 1, (.con (.bool true))), (2, 1, (.con (.int .i64 1))), (3, 1, (.tmp 27))], none⟩,
   ⟨some 29, .call 34 [(false, (.tmp 23)), (false, (.tmp 24)), (false, (.tmp 28))], none⟩,
   ⟨some 22, .mv (.tmp 29), none⟩,
   ⟨some 30, .extract (.tmp 22) 0, none⟩,
   ⟨some 31, .extract (.tmp 22) 1, none⟩,
   ⟨none, .store 8 (.tmp 7) (.tmp 30), none⟩] none [0, 1, 7, 9]) <|
  .seq (.reg [⟨some 32, .mv (.tmp 0), none⟩,
   ⟨some 33, .call 14 [(false, (.tmp 32)), (false, (.con (.int .i64 60)))], none⟩,
   ⟨some 10, .asg (.tmp 33), none⟩] none [1, 7, 9, 10]) <|
  .seq (.reg [⟨some 35, .load false (some 8) (.tmp 7), none⟩,
   ⟨some 36, .mv (.tmp 9), none⟩,
   ⟨some 37, .mv (.tmp 10), none⟩,
   ⟨some 38, .bin .add (.tmp 36) (.tmp 37), none⟩,
   ⟨some 39, .call 38 [(false, (.tmp 35)), (false, (.tmp 38))], none⟩,
   ⟨some 34, .mv (.tmp 39), none⟩,
   ⟨some 40, .extract (.tmp 34) 0, none⟩,
   ⟨some 41, .extract (.tmp 34) 1, none⟩,
   ⟨some 11, .alloc [(.int .i64 0), (.int .i64 0), (.int .u32 0), (.int .i64 0), (.int .i64 0), .nils, (.int .i64 0), (.int .i64 0)], none⟩,
   ⟨some 12, .alloc [.nils, (.bool false), .nils, (.bool false)], none⟩,
   ⟨none, .store 8 (.tmp 11) (.tmp 40), none⟩,
   ⟨none, .store 4 (.tmp 12) (.tmp 41), none⟩] none [1, 7, 9, 10, 11, 12]) <|
  .seq (.seq (.reg [⟨some 42, .mv (.tmp 10), none⟩,
   ⟨some 43, .bin .leq (.tmp 42) (.con (.int .i64 20)), none⟩] none [1, 7, 9, 10, 11, 12, 43]) <|
  .cond (.tmp 43) (.seq (.reg [⟨some 44, .faddr 0 (.tmp 12), none⟩,
    ⟨some 45, .load false none (.tmp 44), none⟩,
    ⟨some 46, .len (.tmp 45), none⟩,
    ⟨some 47, .bin .eql (.tmp 46) (.con (.int .i64 0)), none⟩,
    ⟨some 48, .mv (.tmp 47), none⟩,
    ⟨some 49, .faddr 1 (.tmp 11), some (48, true)⟩,
    ⟨some 50, .load false none (.tmp 49), some (48, true)⟩,
    ⟨some 51, .bin .eql (.tmp 50) (.con (.int .i64 1)), some (48, true)⟩,
    ⟨some 52, .pick (.tmp 48) (.tmp 51) (.con (.bool false)), none⟩,
    ⟨some 53, .mv (.tmp 52), none⟩,
    ⟨some 54, .load true (some 8) (.tmp 7), some (53, true)⟩,
    ⟨some 55, .load true (some 8) (.tmp 11), some (53, true)⟩,
    ⟨some 56, .call 39 [(false, (.tmp 54)), (false, (.tmp 55))], some (53, true)⟩,
    ⟨some 57, .pick (.tmp 53) (.tmp 56) (.con (.bool false)), none⟩,
    ⟨some 58, .mv (.tmp 57), none⟩,
    ⟨some 59, .call 35 [], some (58, true)⟩,
    ⟨some 60, .pick (.tmp 58) (.tmp 59) (.con (.bool false)), none⟩,
    ⟨some 6, .asg (.tmp 60), none⟩] none [6]) <|
   .ret) <|
   .skip) <|
  .seq (.seq (.reg [⟨some 61, .faddr 0 (.tmp 12), none⟩,
   ⟨some 62, .load false none (.tmp 61), none⟩,
   ⟨some 63, .len (.tmp 62), none⟩,
   ⟨some 64, .bin .neq (.tmp 63) (.con (.int .i64 1)), none⟩,
   ⟨some 65, .mv (.tmp 64), none⟩,
   ⟨some 66, .faddr 0 (.tmp 12), some (65, false)⟩,
   ⟨some 67, .load false none (.tmp 66), some (65, false)⟩,
   ⟨some 68, .iaddrS 6 (.tmp 67) (.con (.int .i64 0)), some (65, false)⟩,
   ⟨some 69, .faddr 0 (.tmp 68), some (65, false)⟩,
   ⟨some 70, .load false none (.tmp 69), some (65, false)⟩,
   ⟨some 71, .bin .neq (.tmp 70) (.con (.int .u32 1)), some (65, false)⟩,
   ⟨some 72, .pick (.tmp 65) (.con (.bool true)) (.tmp 71), none⟩,
   ⟨some 73, .mv (.tmp 72), none⟩,
   ⟨some 74, .faddr 0 (.tmp 12), some (73, false)⟩,
   ⟨some 75, .load false none (.tmp 74), some (73, false)⟩,
   ⟨some 76, .iaddrS 6 (.tmp 75) (.con (.int .i64 0)), some (73, false)⟩,
   ⟨some 77, .faddr 5 (.tmp 76), some (73, false)⟩,
   ⟨some 78, .load false none (.tmp 77), some (73, false)⟩,
   ⟨some 79, .cvText (.tmp 78), some (73, false)⟩,
   ⟨some 80, .bsl 1 [(.int .u8 0)] 1 [(0, (.con (.int .u8 19)))], some (73, false)⟩,
   ⟨some 81, .cvText (.tmp 80), some (73, false)⟩,
   ⟨some 82, .bin .neq (.tmp 79) (.tmp 81), some (73, false)⟩,
   ⟨some 83, .pick (.tmp 73) (.con (.bool true)) (.tmp 82), none⟩,
   ⟨some 84, .mv (.tmp 83), none⟩,
   ⟨some 85, .faddr 1 (.tmp 11), some (84, false)⟩,
   ⟨some 86, .load false none (.tmp 85), some (84, false)⟩,
   ⟨some 87, .bin .neq (.tmp 86) (.con (.int .i64 0)), some (84, false)⟩,
   ⟨some 88, .pick (.tmp 84) (.con (.bool true)) (.tmp 87), none⟩] (some [0, 1, 3, 7, 15, 31, 63, 127, 255, 511, 1023, 2047, 4095, 8191, 16383, 32767, 65535, 131071, 262143, 8191, 532479, 2097151, 4194303, 8388607, 16777215, 33554431, 67108863, 134217727]) [1, 9, 10, 11, 12, 88]) <|
  .cond (.tmp 88) (.seq (.reg [⟨some 6, .asg (.con (.bool false)), none⟩] none [6]) <|
   .ret) <|
   .skip) <|
  .seq (.reg [⟨some 90, .load true (some 8) (.tmp 11), none⟩,
   ⟨some 91, .mv (.tmp 9), none⟩,
   ⟨some 92, .mv (.tmp 10), none⟩,
   ⟨some 93, .bin .add (.tmp 91) (.tmp 92), none⟩,
   ⟨some 94, .mv (.tmp 1), none⟩,
   ⟨some 95, .bsl 1 [(.int .u8 0)] 1 [(0, (.tmp 94))], none⟩,
   ⟨some 96, .build [(.int .u32 0), (.bool false), (.int .i64 0), (.int .i64 0), (.int .i64 0), .nils] [(0, 1, (.con (.int .u32 1))), (1, 1, (.con (.bool true))), (2, 1, (.con (.int .i64 1))), (3, 1, (.con (.int .i64 1))), (5, 1, (.tmp 95))], none⟩,
   ⟨some 97, .call 34 [(false, (.tmp 90)), (false, (.tmp 93)), (false, (.tmp 96))], none⟩,
   ⟨some 89, .mv (.tmp 97), none⟩,
   ⟨some 98, .extract (.tmp 89) 0, none⟩,
   ⟨some 99, .extract (.tmp 89) 1, none⟩,
   ⟨some 13, .alloc [(.int .i64 0), (.int .i64 0), (.int .u32 0), (.int .i64 0), (.int .i64 0), .nils, (.int .i64 0), (.int .i64 0)], none⟩,
   ⟨none, .store 8 (.tmp 13) (.tmp 98), none⟩,
   ⟨none, .store 4 (.tmp 12) (.tmp 99), none⟩] none [1, 12, 13]) <|
  .seq (.reg [⟨some 100, .faddr 1 (.tmp 13), none⟩,
   ⟨some 101, .load false none (.tmp 100), none⟩,
   ⟨some 102, .bin .eql (.tmp 101) (.con (.int .i64 0)), none⟩,
   ⟨some 103, .mv (.tmp 102), none⟩,
   ⟨some 104, .faddr 0 (.tmp 12), some (103, true)⟩,
   ⟨some 105, .load false none (.tmp 104), some (103, true)⟩,
   ⟨some 106, .len (.tmp 105), some (103, true)⟩,
   ⟨some 107, .bin .eql (.tmp 106) (.con (.int .i64 1)), some (103, true)⟩,
   ⟨some 108, .pick (.tmp 103) (.tmp 107) (.con (.bool false)), none⟩,
   ⟨some 109, .mv (.tmp 108), none⟩,
   ⟨some 110, .faddr 0 (.tmp 12), some (109, true)⟩,
   ⟨some 111, .load false none (.tmp 110), some (109, true)⟩,
   ⟨some 112, .iaddrS 6 (.tmp 111) (.con (.int .i64 0)), some (109, true)⟩,
   ⟨some 113, .faddr 2 (.tmp 112), some (109, true)⟩,
   ⟨some 114, .load false none (.tmp 113), some (109, true)⟩,
   ⟨some 115, .bin .eql (.tmp 114) (.con (.int .i64 1)), some (109, true)⟩,
   ⟨some 116, .pick (.tmp 109) (.tmp 115) (.con (.bool false)), none⟩,
   ⟨some 117, .mv (.tmp 116), none⟩,
   ⟨some 118, .faddr 0 (.tmp 12), some (117, true)⟩,
   ⟨some 119, .load false none (.tmp 118), some (117, true)⟩,
   ⟨some 120, .iaddrS 6 (.tmp 119) (.con (.int .i64 0)), some (117, true)⟩,
   ⟨some 121, .faddr 5 (.tmp 120), some (117, true)⟩,
   ⟨some 122, .load false none (.tmp 121), some (117, true)⟩,
   ⟨some 123, .cvText (.tmp 122), some (117, true)⟩,
   ⟨some 124, .mv (.tmp 1), some (117, true)⟩,
   ⟨some 125, .bsl 1 [(.int .u8 0)] 1 [(0, (.tmp 124))], some (117, true)⟩,
   ⟨some 126, .cvText (.tmp 125), some (117, true)⟩,
   ⟨some 127, .bin .eql (.tmp 123) (.tmp 126), some (117, true)⟩,
   ⟨some 128, .pick (.tmp 117) (.tmp 127) (.con (.bool false)), none⟩,
   ⟨some 129, .mv (.tmp 128), none⟩,
   ⟨some 130, .call 35 [], some (129, true)⟩,
   ⟨some 131, .pick (.tmp 129) (.tmp 130) (.con (.bool false)), none⟩,
   ⟨some 6, .asg (.tmp 131), none⟩] (some [0, 1, 3, 7, 15, 31, 63, 127, 255, 511, 1023, 2047, 4095, 8191, 16383, 32767, 65535, 131071, 262143, 524287, 1048575, 2097151, 4194303, 8388607, 262143, 17039359, 50593791, 134217727, 268435455, 536870911, 1073741823, 2147483647, 4294967295]) [6]) <|
  .ret⟩
theorem pf11_ok : cFn Try.prog [(23, [true]), (54, [true]), (55, [true]), (90, [true])] [[0, 1, 2], [0, 1, 2, 7, 8], [0, 1, 2, 7, 19], [6], [0, 1, 7, 9], [0, 1, 7, 9], [1, 7, 9, 10], [1, 7, 9, 10, 11, 12], [1, 7, 9, 10, 11, 12, 43], [6], [1, 9, 10, 11, 12, 88], [6], [1, 12, 13], [6]] Try.f11 = some pf11 := by kernel_rfl

-- 12 passkey/passkeylaw22.LinkAccepts calls [35, 23, 40, 41, 30, 25, 24, 42, 43, 44, 36]
def pf12 : PFn :=
  ⟨113, 3, [.tmp 6],
  .seq (.reg [⟨some 6, .asg (.con (.bool false)), none⟩] none [0, 1, 2]) <|
  .seq (.seq (.reg [⟨some 20, .mv (.tmp 2), none⟩,
   ⟨some 21, .len (.tmp 20), none⟩,
   ⟨some 22, .bin .gtr (.tmp 21) (.con (.int .i64 20)), none⟩] none [0, 1, 2, 22]) <|
  .cond (.tmp 22) (.seq (.reg [⟨some 23, .call 35 [], none⟩,
    ⟨some 6, .asg (.tmp 23), none⟩] none [6]) <|
   .ret) <|
   .skip) <|
  .seq (.reg [⟨some 24, .mv (.tmp 1), none⟩,
   ⟨some 25, .call 23 [(false, (.tmp 24))], none⟩,
   ⟨some 7, .asg (.tmp 25), none⟩] none [0, 2, 7]) <|
  .seq (.reg [⟨some 26, .mv (.tmp 0), none⟩,
   ⟨some 27, .call 40 [(false, (.tmp 26))], none⟩,
   ⟨some 28, .mv (.tmp 0), none⟩,
   ⟨some 29, .call 41 [(false, (.tmp 28))], none⟩,
   ⟨some 8, .alloc [(.int .u32 0), (.int .i64 0), (.int .i64 0), .nils, (.int .i64 0)], none⟩,
   ⟨some 9, .alloc [(.int .u32 0), (.int .i64 0), (.int .i64 0), .nils, (.int .i64 0)], none⟩,
   ⟨none, .store 5 (.tmp 8) (.tmp 27), none⟩,
   ⟨none, .store 5 (.tmp 9) (.tmp 29), none⟩] none [0, 2, 7, 8, 9]) <|
  .seq (.seq (.reg [⟨some 10, .asg (.con (.int .i64 0)), none⟩] none [0, 2, 7, 8, 9, 10]) <|
  .block 0 <|
  .loop [0, 2, 7, 8, 9, 10] <|
  .seq (.seq (.reg [⟨some 30, .mv (.tmp 10), none⟩,
   ⟨some 31, .bin .lss (.tmp 30) (.con (.int .i64 60)), none⟩] none [0, 2, 7, 8, 9, 10, 31]) <|
  .cond (.tmp 31) (.skip) <|
   .exit 0) <|
  .seq (.block 1 <|
  .seq (.reg [⟨some 34, .mv (.tmp 7), none⟩,
   ⟨some 35, .call 30 [(false, (.tmp 34))], none⟩,
   ⟨some 11, .alloc [(.int .u32 0), (.bool false), (.int .i64 0), (.int .i64 0), (.int .i64 0), .nils], none⟩,
   ⟨none, .store 6 (.tmp 11) (.tmp 35), none⟩] none [0, 2, 7, 8, 9, 10, 11]) <|
  .seq (.seq (.reg [⟨some 36, .mv (.tmp 10), none⟩,
   ⟨some 37, .mv (.tmp 2), none⟩,
   ⟨some 38, .len (.tmp 37), none⟩,
   ⟨some 39, .bin .lss (.tmp 36) (.tmp 38), none⟩] none [0, 2, 7, 8, 9, 10, 11, 39]) <|
  .cond (.tmp 39) (.seq (.reg [⟨some 40, .mv (.tmp 2), none⟩,
    ⟨some 41, .mv (.tmp 10), none⟩,
    ⟨some 42, .iaddrS 6 (.tmp 40) (.tmp 41), none⟩,
    ⟨some 43, .load false (some 6) (.tmp 42), none⟩,
    ⟨none, .store 6 (.tmp 11) (.tmp 43), none⟩] none [0, 2, 7, 8, 9, 10, 11]) <|
   .seq (.reg [⟨some 44, .faddr 5 (.tmp 11), none⟩,
    ⟨some 45, .load false none (.tmp 44), none⟩,
    ⟨some 46, .len (.tmp 45), none⟩,
    ⟨some 47, .bin .gtr (.tmp 46) (.con (.int .i64 100)), none⟩] none [0, 2, 7, 8, 9, 10, 11, 47]) <|
   .cond (.tmp 47) (.seq (.reg [⟨some 48, .call 35 [], none⟩,
     ⟨some 6, .asg (.tmp 48), none⟩] none [6]) <|
    .ret) <|
    .skip) <|
   .skip) <|
  .seq (.seq (.reg [⟨some 49, .mv (.tmp 7), none⟩,
   ⟨some 50, .call 25 [(false, (.tmp 49)), (false, (.con (.int .i64 4)))], none⟩,
   ⟨some 51, .bin .gtr (.tmp 50) (.con (.int .i64 0)), none⟩] none [0, 2, 7, 8, 9, 10, 11, 51]) <|
  .cond (.tmp 51) (.reg [⟨some 52, .mv (.tmp 0), none⟩,
    ⟨some 53, .faddr 0 (.tmp 11), none⟩,
    ⟨none, .store 1 (.tmp 53) (.tmp 52), none⟩] none [0, 2, 7, 8, 9, 10, 11]) <|
   .skip) <|
  .seq (.seq (.reg [⟨some 54, .mv (.tmp 7), none⟩,
   ⟨some 55, .call 25 [(false, (.tmp 54)), (false, (.con (.int .i64 3)))], none⟩,
   ⟨some 56, .bin .eql (.tmp 55) (.con (.int .i64 2)), none⟩] none [0, 2, 7, 8, 9, 10, 11, 56]) <|
  .cond (.tmp 56) (.reg [⟨some 57, .mv (.tmp 0), none⟩,
    ⟨some 58, .faddr 4 (.tmp 9), none⟩,
    ⟨some 59, .load false none (.tmp 58), none⟩,
    ⟨some 60, .mv (.tmp 7), none⟩,
    ⟨some 61, .call 25 [(false, (.tmp 60)), (false, (.con (.int .i64 9)))], none⟩,
    ⟨some 62, .call 24 [(false, (.tmp 61)), (false, (.con (.int .i64 59)))], none⟩,
    ⟨some 63, .build [(.int .u32 0), (.bool false), (.int .i64 0), (.int .i64 0), (.int .i64 0), .nils] [(0, 1, (.tmp 57)), (4, 1, (.tmp 59)), (5, 1, (.tmp 62))], none⟩,
    ⟨none, .store 6 (.tmp 11) (.tmp 63), none⟩] (some [0, 0, 2, 0, 8, 24, 63, 127]) [0, 2, 7, 8, 9, 10, 11]) <|
   .skip) <|
  .seq (.reg [⟨some 65, .load true (some 5) (.tmp 8), none⟩,
   ⟨some 66, .load false (some 6) (.tmp 11), none⟩,
   ⟨some 67, .call 42 [(false, (.tmp 65)), (false, (.tmp 66))], none⟩,
   ⟨some 64, .mv (.tmp 67), none⟩,
   ⟨some 68, .extract (.tmp 64) 0, none⟩,
   ⟨some 69, .extract (.tmp 64) 1, none⟩,
   ⟨some 70, .extract (.tmp 64) 2, none⟩,
   ⟨some 71, .extract (.tmp 64) 3, none⟩,
   ⟨some 12, .alloc [(.int .u32 0), (.int .i64 0), (.int .i64 0), .nils, (.int .i64 0)], none⟩,
   ⟨none, .store 5 (.tmp 12) (.tmp 68), none⟩,
   ⟨some 13, .asg (.tmp 69), none⟩,
   ⟨some 14, .asg (.tmp 70), none⟩,
   ⟨some 15, .asg (.tmp 71), none⟩] none [0, 2, 7, 8, 9, 10, 11, 12, 13, 14, 15]) <|
  .seq (.reg [⟨some 73, .load true (some 5) (.tmp 9), none⟩,
   ⟨some 74, .load true (some 6) (.tmp 11), none⟩,
   ⟨some 75, .call 43 [(false, (.tmp 73)), (false, (.tmp 74))], none⟩,
   ⟨some 72, .mv (.tmp 75), none⟩,
   ⟨some 76, .extract (.tmp 72) 0, none⟩,
   ⟨some 77, .extract (.tmp 72) 1, none⟩,
   ⟨some 78, .extract (.tmp 72) 2, none⟩,
   ⟨some 79, .extract (.tmp 72) 3, none⟩,
   ⟨some 16, .alloc [(.int .u32 0), (.int .i64 0), (.int .i64 0), .nils, (.int .i64 0)], none⟩,
   ⟨none, .store 5 (.tmp 16) (.tmp 76), none⟩,
   ⟨some 17, .asg (.tmp 77), none⟩,
   ⟨some 18, .asg (.tmp 78), none⟩,
   ⟨some 19, .asg (.tmp 79), none⟩] none [0, 2, 7, 8, 9, 10, 12, 13, 14, 15, 16, 17, 18, 19]) <|
  .seq (.seq (.reg [⟨some 80, .load false (some 5) (.tmp 12), none⟩,
   ⟨some 81, .load false (some 5) (.tmp 16), none⟩,
   ⟨some 82, .call 44 [(false, (.tmp 80)), (false, (.tmp 81))], none⟩,
   ⟨some 83, .un .not (.tmp 82), none⟩,
   ⟨some 84, .mv (.tmp 83), none⟩,
   ⟨some 85, .mv (.tmp 13), some (84, false)⟩,
   ⟨some 86, .mv (.tmp 17), some (84, false)⟩,
   ⟨some 87, .bin .neq (.tmp 85) (.tmp 86), some (84, false)⟩,
   ⟨some 88, .pick (.tmp 84) (.con (.bool true)) (.tmp 87), none⟩,
   ⟨some 89, .mv (.tmp 88), none⟩,
   ⟨some 90, .mv (.tmp 14), some (89, false)⟩,
   ⟨some 91, .cvText (.tmp 90), some (89, false)⟩,
   ⟨some 92, .mv (.tmp 18), some (89, false)⟩,
   ⟨some 93, .cvText (.tmp 92), some (89, false)⟩,
   ⟨some 94, .bin .neq (.tmp 91) (.tmp 93), some (89, false)⟩,
   ⟨some 95, .pick (.tmp 89) (.con (.bool true)) (.tmp 94), none⟩,
   ⟨some 96, .mv (.tmp 95), none⟩,
   ⟨some 97, .mv (.tmp 15), some (96, false)⟩,
   ⟨some 98, .mv (.tmp 19), some (96, false)⟩,
   ⟨some 99, .eqB true (.tmp 97) (.tmp 98), some (96, false)⟩,
   ⟨some 100, .pick (.tmp 96) (.con (.bool true)) (.tmp 99), none⟩] none [0, 2, 7, 8, 9, 10, 12, 16, 100]) <|
  .cond (.tmp 100) (.seq (.reg [⟨some 6, .asg (.con (.bool false)), none⟩] none [6]) <|
   .ret) <|
   .skip) <|
  .seq (.reg [⟨some 101, .load true (some 5) (.tmp 12), none⟩,
   ⟨some 102, .load true (some 5) (.tmp 16), none⟩,
   ⟨none, .store 5 (.tmp 8) (.tmp 101), none⟩,
   ⟨none, .store 5 (.tmp 9) (.tmp 102), none⟩] (some [0, 0, 1, 7]) [0, 2, 7, 8, 9, 10]) <|
  .seq (.reg [⟨some 103, .mv (.tmp 7), none⟩,
   ⟨some 104, .call 36 [(false, (.tmp 103))], none⟩,
   ⟨some 105, .un .not (.tmp 104), none⟩,
   ⟨some 106, .mv (.tmp 105), none⟩,
   ⟨some 107, .mv (.tmp 10), some (106, true)⟩,
   ⟨some 108, .mv (.tmp 2), some (106, true)⟩,
   ⟨some 109, .len (.tmp 108), some (106, true)⟩,
   ⟨some 110, .bin .geq (.tmp 107) (.tmp 109), some (106, true)⟩,
   ⟨some 111, .pick (.tmp 106) (.tmp 110) (.con (.bool false)), none⟩] none [0, 2, 7, 8, 9, 10, 111]) <|
  .cond (.tmp 111) (.exit 0) <|
   .skip) <|
  .reg [⟨some 32, .mv (.tmp 10), none⟩,
   ⟨some 33, .bin .add (.tmp 32) (.con (.int .i64 1)), none⟩,
   ⟨some 10, .asg (.tmp 33), none⟩] none [0, 2, 7, 8, 9, 10]) <|
  .seq (.reg [⟨some 112, .call 35 [], none⟩,
   ⟨some 6, .asg (.tmp 112), none⟩] none [6]) <|
  .ret⟩
theorem pf12_ok : cFn Try.prog [(65, [true]), (73, [true]), (74, [true]), (101, [true]), (102, [true])] [[0, 1, 2], [0, 1, 2, 22], [6], [0, 2, 7], [0, 2, 7, 8, 9], [0, 2, 7, 8, 9, 10], [0, 2, 7, 8, 9, 10], [0, 2, 7, 8, 9, 10, 31], [0, 2, 7, 8, 9, 10, 11], [0, 2, 7, 8, 9, 10, 11, 39], [0, 2, 7, 8, 9, 10, 11], [0, 2, 7, 8, 9, 10, 11, 47], [6], [0, 2, 7, 8, 9, 10, 11, 51], [0, 2, 7, 8, 9, 10, 11], [0, 2, 7, 8, 9, 10, 11, 56], [0, 2, 7, 8, 9, 10, 11], [0, 2, 7, 8, 9, 10, 11, 12, 13, 14, 15], [0, 2, 7, 8, 9, 10, 12, 13, 14, 15, 16, 17, 18, 19], [0, 2, 7, 8, 9, 10, 12, 16, 100], [6], [0, 2, 7, 8, 9, 10], [0, 2, 7, 8, 9, 10, 111], [0, 2, 7, 8, 9, 10], [6]] Try.f12 = some pf12 := by kernel_rfl

-- 13 passkey/passkeylaw22.LinkAnswers calls [33, 34, 14, 15, 19, 37, 23, 40, 25, 24, 42, 35]
def pf13 : PFn :=
  ⟨139, 3, [.tmp 6],
  .seq (.reg [⟨some 6, .asg (.con (.bool false)), none⟩] none [0, 1, 2]) <|
  .seq (.reg [⟨some 21, .call 33 [(false, (.con (.int .i64 2)))], none⟩,
   ⟨some 20, .mv (.tmp 21), none⟩,
   ⟨some 22, .extract (.tmp 20) 0, none⟩,
   ⟨some 23, .extract (.tmp 20) 1, none⟩,
   ⟨some 7, .alloc [(.int .i64 0), (.int .i64 0), (.int .u32 0), (.int .i64 0), (.int .i64 0), .nils, (.int .i64 0), (.int .i64 0)], none⟩,
   ⟨none, .store 8 (.tmp 7) (.tmp 22), none⟩,
   ⟨some 8, .asg (.tmp 23), none⟩] none [0, 1, 2, 7, 8]) <|
  .seq (.seq (.reg [⟨some 24, .mv (.tmp 8), none⟩,
   ⟨some 25, .un .not (.tmp 24), none⟩] none [0, 1, 2, 7, 25]) <|
  .cond (.tmp 25) (.seq (.reg [⟨some 6, .asg (.con (.bool false)), none⟩] none [6]) <|
   .ret) <|
   .skip) <|
  .seq (.reg [⟨some 27, .load true (some 8) (.tmp 7), none⟩,
   ⟨some 28, .bsl 1 [(.int .u8 0)] 1 [(0, (.con (.int .u8 1)))], none⟩,
   ⟨some 29, .build [(.int .u32 0), (.bool false), (.int .i64 0), (.int .i64 0), (.int .i64 0), .nils] [(0, 1, (.con (.int .u32 2))), (1, 1, (.con (.bool true))), (2, 1, (.con (.int .i64 3))), (3, 1, (.con (.int .i64 1))), (5, 1, (.tmp 28))], none⟩,
   ⟨some 30, .call 34 [(false, (.tmp 27)), (false, (.con (.int .i64 0))), (false, (.tmp 29))], none⟩,
   ⟨some 26, .mv (.tmp 30), none⟩,
   ⟨some 31, .extract (.tmp 26) 0, none⟩,
   ⟨some 32, .extract (.tmp 26) 1, none⟩,
   ⟨some 9, .alloc [.nils, (.bool false), .nils, (.bool false)], none⟩,
   ⟨none, .store 8 (.tmp 7) (.tmp 31), none⟩,
   ⟨none, .store 4 (.tmp 9) (.tmp 32), none⟩] none [0, 1, 2, 7, 9]) <|
  .seq (.reg [⟨some 33, .mv (.tmp 0), none⟩,
   ⟨some 34, .call 14 [(false, (.tmp 33)), (false, (.con (.int .i64 99)))], none⟩,
   ⟨some 35, .mv (.tmp 1), none⟩,
   ⟨some 36, .call 15 [(false, (.tmp 35))], none⟩,
   ⟨some 37, .minmax false (.tmp 36) [(.con (.int .i64 4096))], none⟩,
   ⟨some 38, .call 19 [(false, (.tmp 34)), (false, (.tmp 37))], none⟩,
   ⟨some 10, .asg (.tmp 38), none⟩] none [2, 7, 9, 10]) <|
  .seq (.reg [⟨some 40, .load true (some 8) (.tmp 7), none⟩,
   ⟨some 41, .mv (.tmp 10), none⟩,
   ⟨some 42, .call 37 [(false, (.tmp 40)), (false, (.tmp 41))], none⟩,
   ⟨some 39, .mv (.tmp 42), none⟩,
   ⟨some 43, .extract (.tmp 39) 0, none⟩,
   ⟨some 44, .extract (.tmp 39) 1, none⟩,
   ⟨some 45, .extract (.tmp 39) 2, none⟩,
   ⟨some 11, .alloc [(.int .i64 0), (.int .i64 0), (.int .u32 0), (.int .i64 0), (.int .i64 0), .nils, (.int .i64 0), (.int .i64 0)], none⟩,
   ⟨none, .store 8 (.tmp 11) (.tmp 43), none⟩,
   ⟨some 12, .asg (.tmp 44), none⟩,
   ⟨some 13, .asg (.tmp 45), none⟩] none [2, 9, 10, 11, 12, 13]) <|
  .seq (.seq (.reg [⟨some 46, .faddr 1 (.tmp 9), none⟩,
   ⟨some 47, .load false none (.tmp 46), none⟩,
   ⟨some 48, .un .not (.tmp 47), none⟩,
   ⟨some 49, .mv (.tmp 48), none⟩,
   ⟨some 50, .mv (.tmp 13), some (49, false)⟩,
   ⟨some 51, .bin .neq (.tmp 50) (.con (.int .i64 0)), some (49, false)⟩,
   ⟨some 52, .pick (.tmp 49) (.con (.bool true)) (.tmp 51), none⟩,
   ⟨some 53, .mv (.tmp 52), none⟩,
   ⟨some 54, .faddr 1 (.tmp 11), some (53, false)⟩,
   ⟨some 55, .load false none (.tmp 54), some (53, false)⟩,
   ⟨some 56, .bin .neq (.tmp 55) (.con (.int .i64 0)), some (53, false)⟩,
   ⟨some 57, .pick (.tmp 53) (.con (.bool true)) (.tmp 56), none⟩] none [2, 10, 12, 57]) <|
  .cond (.tmp 57) (.seq (.reg [⟨some 6, .asg (.con (.bool false)), none⟩] none [6]) <|
   .ret) <|
   .skip) <|
  .seq (.reg [⟨some 58, .mv (.tmp 2), none⟩,
   ⟨some 59, .call 23 [(false, (.tmp 58))], none⟩,
   ⟨some 14, .asg (.tmp 59), none⟩] none [10, 12, 14]) <|
  .seq (.reg [⟨some 60, .call 40 [(false, (.con (.int .u32 2)))], none⟩,
   ⟨some 61, .call 40 [(false, (.con (.int .u32 1)))], none⟩,
   ⟨some 15, .alloc [(.int .u32 0), (.int .i64 0), (.int .i64 0), .nils, (.int .i64 0)], none⟩,
   ⟨some 16, .alloc [(.int .u32 0), (.int .i64 0), (.int .i64 0), .nils, (.int .i64 0)], none⟩,
   ⟨none, .store 5 (.tmp 15) (.tmp 60), none⟩,
   ⟨none, .store 5 (.tmp 16) (.tmp 61), none⟩] none [10, 12, 14, 15, 16]) <|
  .seq (.seq (.reg [⟨some 17, .asg (.con (.int .i64 0)), none⟩] none [10, 12, 14, 15, 16, 17]) <|
  .block 0 <|
  .loop [10, 12, 14, 15, 16, 17] <|
  .seq (.seq (.reg [⟨some 62, .mv (.tmp 17), none⟩,
   ⟨some 63, .mv (.tmp 12), none⟩,
   ⟨some 64, .len (.tmp 63), none⟩,
   ⟨some 65, .bin .lss (.tmp 62) (.tmp 64), none⟩] none [10, 12, 14, 15, 16, 17, 65]) <|
  .cond (.tmp 65) (.skip) <|
   .exit 0) <|
  .seq (.block 1 <|
  .seq (.seq (.reg [⟨some 68, .mv (.tmp 14), none⟩,
   ⟨some 69, .call 25 [(false, (.tmp 68)), (false, (.con (.int .i64 2)))], none⟩,
   ⟨some 70, .bin .eql (.tmp 69) (.con (.int .i64 1)), none⟩] none [10, 12, 14, 15, 16, 17, 70]) <|
  .cond (.tmp 70) (.seq (.reg [⟨some 72, .load true (some 5) (.tmp 15), none⟩,
    ⟨some 73, .mv (.tmp 14), none⟩,
    ⟨some 74, .call 25 [(false, (.tmp 73)), (false, (.con (.int .i64 9)))], none⟩,
    ⟨some 75, .mv (.tmp 17), none⟩,
    ⟨some 76, .call 24 [(false, (.tmp 75)), (false, (.con (.int .i64 59)))], none⟩,
    ⟨some 77, .build [(.int .u32 0), (.bool false), (.int .i64 0), (.int .i64 0), (.int .i64 0), .nils] [(0, 1, (.con (.int .u32 1))), (4, 1, (.tmp 74)), (5, 1, (.tmp 76))], none⟩,
    ⟨some 78, .call 42 [(false, (.tmp 72)), (false, (.tmp 77))], none⟩,
    ⟨some 71, .mv (.tmp 78), none⟩,
    ⟨some 79, .extract (.tmp 71) 0, none⟩,
    ⟨some 80, .extract (.tmp 71) 1, none⟩,
    ⟨some 81, .extract (.tmp 71) 2, none⟩,
    ⟨some 82, .extract (.tmp 71) 3, none⟩,
    ⟨none, .store 5 (.tmp 15) (.tmp 79), none⟩,
    ⟨some 8, .asg (.tmp 82), none⟩] (some [0, 0, 2, 0, 14, 30, 63, 127, 255, 255, 255, 255, 511, 8191]) [8, 10, 12, 14, 15, 16, 17]) <|
   .seq (.reg [⟨some 83, .mv (.tmp 8), none⟩] none [8, 10, 12, 14, 15, 16, 17, 83]) <|
   .cond (.tmp 83) (.seq (.reg [⟨some 6, .asg (.con (.bool false)), none⟩] none [6]) <|
    .ret) <|
    .skip) <|
   .skip) <|
  .seq (.reg [⟨some 18, .asg (.con (.int .i64 0)), none⟩] none [10, 12, 14, 15, 16, 17]) <|
  .seq (.reg [⟨some 19, .asg (.con .nils), none⟩] none [10, 12, 14, 15, 16, 17]) <|
  .seq (.reg [⟨some 85, .load true (some 5) (.tmp 15), none⟩,
   ⟨some 86, .mv (.tmp 12), none⟩,
   ⟨some 87, .mv (.tmp 17), none⟩,
   ⟨some 88, .iaddrS 6 (.tmp 86) (.tmp 87), none⟩,
   ⟨some 89, .load false (some 6) (.tmp 88), none⟩,
   ⟨some 90, .call 42 [(false, (.tmp 85)), (false, (.tmp 89))], none⟩,
   ⟨some 84, .mv (.tmp 90), none⟩,
   ⟨some 91, .extract (.tmp 84) 0, none⟩,
   ⟨some 92, .extract (.tmp 84) 1, none⟩,
   ⟨some 93, .extract (.tmp 84) 2, none⟩,
   ⟨some 94, .extract (.tmp 84) 3, none⟩,
   ⟨none, .store 5 (.tmp 15) (.tmp 91), none⟩,
   ⟨some 18, .asg (.tmp 92), none⟩,
   ⟨some 19, .asg (.tmp 93), none⟩,
   ⟨some 8, .asg (.tmp 94), none⟩] (some [0, 0, 0, 6, 14, 31, 63, 127, 127, 127, 127, 255, 2559, 7167, 16383]) [8, 10, 12, 14, 15, 16, 17, 18, 19]) <|
  .seq (.seq (.reg [⟨some 95, .mv (.tmp 8), none⟩,
   ⟨some 96, .mv (.tmp 17), none⟩,
   ⟨some 97, .mv (.tmp 12), none⟩,
   ⟨some 98, .len (.tmp 97), none⟩,
   ⟨some 99, .bin .sub (.tmp 98) (.con (.int .i64 1)), none⟩,
   ⟨some 100, .bin .eql (.tmp 96) (.tmp 99), none⟩,
   ⟨some 101, .eqB true (.tmp 95) (.tmp 100), none⟩,
   ⟨some 102, .mv (.tmp 101), none⟩,
   ⟨some 103, .mv (.tmp 8), some (102, false)⟩,
   ⟨some 104, .mv (.tmp 103), some (102, false)⟩,
   ⟨some 105, .mv (.tmp 18), some (104, true)⟩,
   ⟨some 106, .bin .neq (.tmp 105) (.con (.int .i64 3)), some (104, true)⟩,
   ⟨some 107, .mv (.tmp 106), some (104, true)⟩,
   ⟨some 108, .mv (.tmp 19), some (107, false)⟩,
   ⟨some 109, .cvText (.tmp 108), some (107, false)⟩,
   ⟨some 110, .mv (.tmp 10), some (107, false)⟩,
   ⟨some 111, .cvText (.tmp 110), some (107, false)⟩,
   ⟨some 112, .bin .neq (.tmp 109) (.tmp 111), some (107, false)⟩,
   ⟨some 113, .pick (.tmp 107) (.con (.bool true)) (.tmp 112), some (104, true)⟩,
   ⟨some 114, .pick (.tmp 104) (.tmp 113) (.con (.bool false)), some (102, false)⟩,
   ⟨some 115, .pick (.tmp 102) (.con (.bool true)) (.tmp 114), none⟩] none [10, 12, 14, 15, 16, 17, 115]) <|
  .cond (.tmp 115) (.seq (.reg [⟨some 6, .asg (.con (.bool false)), none⟩] none [6]) <|
   .ret) <|
   .skip) <|
  .seq (.reg [⟨some 117, .load true (some 5) (.tmp 16), none⟩,
   ⟨some 118, .mv (.tmp 12), none⟩,
   ⟨some 119, .mv (.tmp 17), none⟩,
   ⟨some 120, .iaddrS 6 (.tmp 118) (.tmp 119), none⟩,
   ⟨some 121, .load false (some 6) (.tmp 120), none⟩,
   ⟨some 122, .call 42 [(false, (.tmp 117)), (false, (.tmp 121))], none⟩,
   ⟨some 116, .mv (.tmp 122), none⟩,
   ⟨some 123, .extract (.tmp 116) 0, none⟩,
   ⟨some 124, .extract (.tmp 116) 1, none⟩,
   ⟨some 125, .extract (.tmp 116) 2, none⟩,
   ⟨some 126, .extract (.tmp 116) 3, none⟩,
   ⟨none, .store 5 (.tmp 16) (.tmp 123), none⟩,
   ⟨some 8, .asg (.tmp 126), none⟩] (some [0, 0, 0, 6, 14, 31, 63, 127, 127, 127, 127, 255, 4095]) [8, 10, 12, 14, 15, 16, 17]) <|
  .seq (.reg [⟨some 127, .mv (.tmp 8), none⟩,
   ⟨some 128, .mv (.tmp 127), none⟩,
   ⟨some 129, .faddr 2 (.tmp 16), some (128, false)⟩,
   ⟨some 130, .load false none (.tmp 129), some (128, false)⟩,
   ⟨some 131, .bin .geq (.tmp 130) (.con (.int .i64 0)), some (128, false)⟩,
   ⟨some 132, .pick (.tmp 128) (.con (.bool true)) (.tmp 131), none⟩] none [10, 12, 14, 15, 16, 17, 132]) <|
  .cond (.tmp 132) (.seq (.reg [⟨some 6, .asg (.con (.bool false)), none⟩] none [6]) <|
   .ret) <|
   .skip) <|
  .reg [⟨some 66, .mv (.tmp 17), none⟩,
   ⟨some 67, .bin .add (.tmp 66) (.con (.int .i64 1)), none⟩,
   ⟨some 17, .asg (.tmp 67), none⟩] none [10, 12, 14, 15, 16, 17]) <|
  .seq (.reg [⟨some 133, .faddr 2 (.tmp 15), none⟩,
   ⟨some 134, .load false none (.tmp 133), none⟩,
   ⟨some 135, .bin .eql (.tmp 134) (.con (.int .i64 (-1))), none⟩,
   ⟨some 136, .mv (.tmp 135), none⟩,
   ⟨some 137, .call 35 [], some (136, true)⟩,
   ⟨some 138, .pick (.tmp 136) (.tmp 137) (.con (.bool false)), none⟩,
   ⟨some 6, .asg (.tmp 138), none⟩] none [6]) <|
  .ret⟩
theorem pf13_ok : cFn Try.prog [(27, [true]), (40, [true]), (72, [true]), (85, [true]), (117, [true])] [[0, 1, 2], [0, 1, 2, 7, 8], [0, 1, 2, 7, 25], [6], [0, 1, 2, 7, 9], [2, 7, 9, 10], [2, 9, 10, 11, 12, 13], [2, 10, 12, 57], [6], [10, 12, 14], [10, 12, 14, 15, 16], [10, 12, 14, 15, 16, 17], [10, 12, 14, 15, 16, 17], [10, 12, 14, 15, 16, 17, 65], [10, 12, 14, 15, 16, 17, 70], [8, 10, 12, 14, 15, 16, 17], [8, 10, 12, 14, 15, 16, 17, 83], [6], [10, 12, 14, 15, 16, 17], [10, 12, 14, 15, 16, 17], [8, 10, 12, 14, 15, 16, 17, 18, 19], [10, 12, 14, 15, 16, 17, 115], [6], [8, 10, 12, 14, 15, 16, 17], [10, 12, 14, 15, 16, 17, 132], [6], [10, 12, 14, 15, 16, 17], [6]] Try.f13 = some pf13 := by kernel_rfl

-- 14 passkey/passkeycast.Mod calls []
def pf14 : PFn :=
  ⟨11, 2, [.tmp 4],
  .seq (.reg [⟨some 4, .asg (.con (.int .i64 0)), none⟩] none [0, 1]) <|
  .seq (.reg [⟨some 5, .mv (.tmp 0), none⟩,
   ⟨some 6, .cvInt .u64 (.tmp 5), none⟩,
   ⟨some 7, .mv (.tmp 1), none⟩,
   ⟨some 8, .cvInt .u64 (.tmp 7), none⟩,
   ⟨some 9, .bin .rem (.tmp 6) (.tmp 8), none⟩,
   ⟨some 10, .cvInt .i64 (.tmp 9), none⟩,
   ⟨some 4, .asg (.tmp 10), none⟩] none [4]) <|
  .ret⟩
theorem pf14_ok : cFn Try.prog [] [[0, 1], [4]] Try.f14 = some pf14 := by kernel_rfl

-- 15 passkey/passkeycast.Size calls [14]
def pf15 : PFn :=
  ⟨12, 1, [.tmp 2],
  .seq (.reg [⟨some 2, .asg (.con (.int .i64 0)), none⟩] none [0]) <|
  .seq (.reg [⟨some 4, .bsl 1 [(.int .i64 0)] 16 [(0, (.con (.int .i64 0))), (1, (.con (.int .i64 1))), (2, (.con (.int .i64 8))), (3, (.con (.int .i64 56))), (4, (.con (.int .i64 57))), (5, (.con (.int .i64 58))), (6, (.con (.int .i64 115))), (7, (.con (.int .i64 116))), (8, (.con (.int .i64 117))), (9, (.con (.int .i64 175))), (10, (.con (.int .i64 176))), (11, (.con (.int .i64 300))), (12, (.con (.int .i64 4095))), (13, (.con (.int .i64 4096))), (14, (.con (.int .i64 4097))), (15, (.con (.int .i64 60)))], none⟩,
   ⟨some 3, .asg (.tmp 4), none⟩] none [0, 3]) <|
  .seq (.reg [⟨some 5, .mv (.tmp 3), none⟩,
   ⟨some 6, .mv (.tmp 0), none⟩,
   ⟨some 7, .mv (.tmp 3), none⟩,
   ⟨some 8, .len (.tmp 7), none⟩,
   ⟨some 9, .call 14 [(false, (.tmp 6)), (false, (.tmp 8))], none⟩,
   ⟨some 10, .iaddrS 1 (.tmp 5) (.tmp 9), none⟩,
   ⟨some 11, .load false none (.tmp 10), none⟩,
   ⟨some 2, .asg (.tmp 11), none⟩] none [2]) <|
  .ret⟩
theorem pf15_ok : cFn Try.prog [] [[0], [0, 3], [2]] Try.f15 = some pf15 := by kernel_rfl

-- 16 passkey/packet.Count calls []
def pf16 : PFn :=
  ⟨19, 0, [.tmp 2],
  .seq (.reg [⟨some 2, .asg (.con (.int .i64 0)), none⟩] none [0]) <|
  .seq (.seq (.reg [⟨some 4, .mv (.tmp 0), none⟩,
   ⟨some 5, .bin .lss (.tmp 4) (.con (.int .i64 0)), none⟩,
   ⟨some 6, .mv (.tmp 5), none⟩,
   ⟨some 7, .mv (.tmp 0), some (6, false)⟩,
   ⟨some 8, .bin .gtr (.tmp 7) (.con (.int .i64 4096)), some (6, false)⟩,
   ⟨some 9, .pick (.tmp 6) (.con (.bool true)) (.tmp 8), none⟩] none [0, 9]) <|
  .cond (.tmp 9) (.seq (.reg [⟨some 2, .asg (.con (.int .i64 (-1))), none⟩] none [2]) <|
   .ret) <|
   .skip) <|
  .seq (.reg [⟨some 3, .asg (.con (.int .i64 1)), none⟩] none [0, 3]) <|
  .seq (.seq (.reg [⟨some 10, .mv (.tmp 0), none⟩,
   ⟨some 11, .bin .sub (.tmp 10) (.con (.int .i64 57)), none⟩,
   ⟨some 0, .asg (.tmp 11), none⟩] none [0, 3]) <|
  .block 0 <|
  .loop [0, 3] <|
  .seq (.seq (.reg [⟨some 12, .mv (.tmp 0), none⟩,
   ⟨some 13, .bin .gtr (.tmp 12) (.con (.int .i64 0)), none⟩] none [0, 3, 13]) <|
  .cond (.tmp 13) (.skip) <|
   .exit 0) <|
  .seq (.block 1 <|
  .reg [⟨some 16, .mv (.tmp 3), none⟩,
   ⟨some 17, .bin .add (.tmp 16) (.con (.int .i64 1)), none⟩,
   ⟨some 3, .asg (.tmp 17), none⟩] none [0, 3]) <|
  .reg [⟨some 14, .mv (.tmp 0), none⟩,
   ⟨some 15, .bin .sub (.tmp 14) (.con (.int .i64 59)), none⟩,
   ⟨some 0, .asg (.tmp 15), none⟩] none [0, 3]) <|
  .seq (.reg [⟨some 18, .mv (.tmp 3), none⟩,
   ⟨some 2, .asg (.tmp 18), none⟩] none [2]) <|
  .ret⟩
theorem pf16_ok : cFn Try.prog [] [[0], [0, 9], [2], [0, 3], [0, 3], [0, 3], [0, 3, 13], [0, 3], [0, 3], [2]] Try.f16 = some pf16 := by kernel_rfl

-- 17 passkey/passkeyref21.Count calls []
def pf17 : PFn :=
  ⟨20, 1, [.tmp 2],
  .seq (.reg [⟨some 2, .asg (.con (.int .i64 0)), none⟩] none [0]) <|
  .seq (.seq (.reg [⟨some 5, .mv (.tmp 0), none⟩,
   ⟨some 6, .bin .lss (.tmp 5) (.con (.int .i64 0)), none⟩,
   ⟨some 7, .mv (.tmp 6), none⟩,
   ⟨some 8, .mv (.tmp 0), some (7, false)⟩,
   ⟨some 9, .bin .gtr (.tmp 8) (.con (.int .i64 4096)), some (7, false)⟩,
   ⟨some 10, .pick (.tmp 7) (.con (.bool true)) (.tmp 9), none⟩] none [0, 10]) <|
  .cond (.tmp 10) (.seq (.reg [⟨some 2, .asg (.con (.int .i64 (-1))), none⟩] none [2]) <|
   .ret) <|
   .skip) <|
  .seq (.reg [⟨some 3, .asg (.con (.int .i64 1)), none⟩] none [0, 3]) <|
  .seq (.seq (.reg [⟨some 11, .mv (.tmp 0), none⟩,
   ⟨some 12, .bin .sub (.tmp 11) (.con (.int .i64 57)), none⟩,
   ⟨some 4, .asg (.tmp 12), none⟩] none [3, 4]) <|
  .block 0 <|
  .loop [3, 4] <|
  .seq (.seq (.reg [⟨some 13, .mv (.tmp 4), none⟩,
   ⟨some 14, .bin .gtr (.tmp 13) (.con (.int .i64 0)), none⟩] none [3, 4, 14]) <|
  .cond (.tmp 14) (.skip) <|
   .exit 0) <|
  .seq (.block 1 <|
  .reg [⟨some 17, .mv (.tmp 3), none⟩,
   ⟨some 18, .bin .add (.tmp 17) (.con (.int .i64 1)), none⟩,
   ⟨some 3, .asg (.tmp 18), none⟩] none [3, 4]) <|
  .reg [⟨some 15, .mv (.tmp 4), none⟩,
   ⟨some 16, .bin .sub (.tmp 15) (.con (.int .i64 59)), none⟩,
   ⟨some 4, .asg (.tmp 16), none⟩] none [3, 4]) <|
  .seq (.reg [⟨some 19, .mv (.tmp 3), none⟩,
   ⟨some 2, .asg (.tmp 19), none⟩] none [2]) <|
  .ret⟩
theorem pf17_ok : cFn Try.prog [] [[0], [0, 10], [2], [0, 3], [3, 4], [3, 4], [3, 4, 14], [3, 4], [3, 4], [2]] Try.f17 = some pf17 := by kernel_rfl

-- 18 passkey/passkeylaw21.awake calls [20, 32, 16]
def pf18 : PFn :=
  ⟨56, 0, [.tmp 0],
  .seq (.reg [⟨some 0, .asg (.con (.bool false)), none⟩] none []) <|
  .seq (.reg [⟨some 8, .bsl 1 [(.int .u8 0)] 61 [(0, (.con (.int .u8 48))), (1, (.con (.int .u8 49))), (2, (.con (.int .u8 50))), (3, (.con (.int .u8 51))), (4, (.con (.int .u8 52))), (5, (.con (.int .u8 53))), (6, (.con (.int .u8 54))), (7, (.con (.int .u8 55))), (8, (.con (.int .u8 56))), (9, (.con (.int .u8 57))), (10, (.con (.int .u8 48))), (11, (.con (.int .u8 49))), (12, (.con (.int .u8 50))), (13, (.con (.int .u8 51))), (14, (.con (.int .u8 52))), (15, (.con (.int .u8 53))), (16, (.con (.int .u8 54))), (17, (.con (.int .u8 55))), (18, (.con (.int .u8 56))), (19, (.con (.int .u8 57))), (20, (.con (.int .u8 48))), (21, (.con (.int .u8 49))), (22, (.con (.int .u8 50))), (23, (.con (.int .u8 51))), (24, (.con (.int .u8 52))), (25, (.con (.int .u8 53))), (26, (.con (.int .u8 54))), (27, (.con (.int .u8 55))), (28, (.con (.int .u8 56))), (29, (.con (.int .u8 57))), (30, (.con (.int .u8 48))), (31, (.con (.int .u8 49))), (32, (.con (.int .u8 50))), (33, (.con (.int .u8 51))), (34, (.con (.int .u8 52))), (35, (.con (.int .u8 53))), (36, (.con (.int .u8 54))), (37, (.con (.int .u8 55))), (38, (.con (.int .u8 56))), (39, (.con (.int .u8 57))), (40, (.con (.int .u8 48))), (41, (.con (.int .u8 49))), (42, (.con (.int .u8 50))), (43, (.con (.int .u8 51))), (44, (.con (.int .u8 52))), (45, (.con (.int .u8 53))), (46, (.con (.int .u8 54))), (47, (.con (.int .u8 55))), (48, (.con (.int .u8 56))), (49, (.con (.int .u8 57))), (50, (.con (.int .u8 48))), (51, (.con (.int .u8 49))), (52, (.con (.int .u8 50))), (53, (.con (.int .u8 51))), (54, (.con (.int .u8 52))), (55, (.con (.int .u8 53))), (56, (.con (.int .u8 54))), (57, (.con (.int .u8 55))), (58, (.con (.int .u8 56))), (59, (.con (.int .u8 57))), (60, (.con (.int .u8 48)))], none⟩,
   ⟨some 9, .cvSame (.tmp 8), none⟩,
   ⟨some 1, .asg (.tmp 9), none⟩] none [1]) <|
  .seq (.reg [⟨some 11, .mv (.tmp 1), none⟩,
   ⟨some 12, .call 20 [(false, (.con (.int .u32 7))), (false, (.con (.int .i64 1))), (false, (.tmp 11))], none⟩,
   ⟨some 10, .mv (.tmp 12), none⟩,
   ⟨some 13, .extract (.tmp 10) 0, none⟩,
   ⟨some 14, .extract (.tmp 10) 1, none⟩,
   ⟨some 2, .asg (.tmp 13), none⟩,
   ⟨some 3, .asg (.tmp 14), none⟩] none [1, 2, 3]) <|
  .seq (.reg [⟨some 16, .mv (.tmp 2), none⟩,
   ⟨some 17, .call 32 [(false, (.tmp 16))], none⟩,
   ⟨some 15, .mv (.tmp 17), none⟩,
   ⟨some 18, .extract (.tmp 15) 0, none⟩,
   ⟨some 19, .extract (.tmp 15) 1, none⟩,
   ⟨some 20, .extract (.tmp 15) 2, none⟩,
   ⟨some 21, .extract (.tmp 15) 3, none⟩,
   ⟨some 4, .asg (.tmp 18), none⟩,
   ⟨some 5, .asg (.tmp 19), none⟩,
   ⟨some 6, .asg (.tmp 20), none⟩,
   ⟨some 7, .asg (.tmp 21), none⟩] none [1, 2, 3, 4, 5, 6, 7]) <|
  .seq (.reg [⟨some 22, .mv (.tmp 3), none⟩,
   ⟨some 23, .bin .eql (.tmp 22) (.con (.int .i64 0)), none⟩,
   ⟨some 24, .mv (.tmp 23), none⟩,
   ⟨some 25, .mv (.tmp 7), some (24, true)⟩,
   ⟨some 26, .bin .eql (.tmp 25) (.con (.int .i64 0)), some (24, true)⟩,
   ⟨some 27, .pick (.tmp 24) (.tmp 26) (.con (.bool false)), none⟩,
   ⟨some 28, .mv (.tmp 27), none⟩,
   ⟨some 29, .mv (.tmp 2), some (28, true)⟩,
   ⟨some 30, .len (.tmp 29), some (28, true)⟩,
   ⟨some 31, .bin .eql (.tmp 30) (.con (.int .i64 2)), some (28, true)⟩,
   ⟨some 32, .pick (.tmp 28) (.tmp 31) (.con (.bool false)), none⟩,
   ⟨some 33, .mv (.tmp 32), none⟩,
   ⟨some 34, .mv (.tmp 4), some (33, true)⟩,
   ⟨some 35, .bin .eql (.tmp 34) (.con (.int .i64 1)), some (33, true)⟩,
   ⟨some 36, .pick (.tmp 33) (.tmp 35) (.con (.bool false)), none⟩,
   ⟨some 37, .mv (.tmp 36), none⟩,
   ⟨some 38, .mv (.tmp 5), some (37, true)⟩,
   ⟨some 39, .cvText (.tmp 38), some (37, true)⟩,
   ⟨some 40, .mv (.tmp 1), some (37, true)⟩,
   ⟨some 41, .cvText (.tmp 40), some (37, true)⟩,
   ⟨some 42, .bin .eql (.tmp 39) (.tmp 41), some (37, true)⟩,
   ⟨some 43, .pick (.tmp 37) (.tmp 42) (.con (.bool false)), none⟩,
   ⟨some 44, .mv (.tmp 43), none⟩,
   ⟨some 45, .mv (.tmp 6), some (44, true)⟩,
   ⟨some 46, .bin .eql (.tmp 45) (.con (.int .i64 2)), some (44, true)⟩,
   ⟨some 47, .pick (.tmp 44) (.tmp 46) (.con (.bool false)), none⟩,
   ⟨some 48, .mv (.tmp 47), none⟩,
   ⟨some 49, .call 16 [(false, (.con (.int .i64 116)))], some (48, true)⟩,
   ⟨some 50, .bin .eql (.tmp 49) (.con (.int .i64 2)), some (48, true)⟩,
   ⟨some 51, .pick (.tmp 48) (.tmp 50) (.con (.bool false)), none⟩,
   ⟨some 52, .mv (.tmp 51), none⟩,
   ⟨some 53, .call 16 [(false, (.con (.int .i64 117)))], some (52, true)⟩,
   ⟨some 54, .bin .eql (.tmp 53) (.con (.int .i64 3)), some (52, true)⟩,
   ⟨some 55, .pick (.tmp 52) (.tmp 54) (.con (.bool false)), none⟩,
   ⟨some 0, .asg (.tmp 55), none⟩] none [0]) <|
  .ret⟩
theorem pf18_ok : cFn Try.prog [] [[], [1], [1, 2, 3], [1, 2, 3, 4, 5, 6, 7], [0]] Try.f18 = some pf18 := by kernel_rfl

-- 19 passkey/passkeycast.Long calls [24]
def pf19 : PFn :=
  ⟨25, 2, [.tmp 4],
  .seq (.reg [⟨some 4, .asg (.con .nils), none⟩] none [0, 1]) <|
  .seq (.reg [⟨some 5, .asg (.con .nils), none⟩] none [0, 1, 5]) <|
  .seq (.seq (.reg [⟨some 6, .asg (.con (.int .i64 0)), none⟩] none [0, 1, 5, 6]) <|
  .block 0 <|
  .loop [0, 1, 5, 6] <|
  .seq (.seq (.reg [⟨some 7, .mv (.tmp 5), none⟩,
   ⟨some 8, .len (.tmp 7), none⟩,
   ⟨some 9, .mv (.tmp 1), none⟩,
   ⟨some 10, .bin .lss (.tmp 8) (.tmp 9), none⟩] none [0, 1, 5, 6, 10]) <|
  .cond (.tmp 10) (.skip) <|
   .exit 0) <|
  .seq (.block 1 <|
  .reg [⟨some 13, .mv (.tmp 5), none⟩,
   ⟨some 14, .mv (.tmp 0), none⟩,
   ⟨some 15, .mv (.tmp 6), none⟩,
   ⟨some 16, .bin .add (.tmp 14) (.tmp 15), none⟩,
   ⟨some 17, .mv (.tmp 1), none⟩,
   ⟨some 18, .mv (.tmp 5), none⟩,
   ⟨some 19, .len (.tmp 18), none⟩,
   ⟨some 20, .bin .sub (.tmp 17) (.tmp 19), none⟩,
   ⟨some 21, .minmax false (.tmp 20) [(.con (.int .i64 1024))], none⟩,
   ⟨some 22, .call 24 [(false, (.tmp 16)), (false, (.tmp 21))], none⟩,
   ⟨some 23, .append false 1 1 (.tmp 13) (.tmp 22), none⟩,
   ⟨some 5, .asg (.tmp 23), none⟩] none [0, 1, 5, 6]) <|
  .reg [⟨some 11, .mv (.tmp 6), none⟩,
   ⟨some 12, .bin .add (.tmp 11) (.con (.int .i64 1)), none⟩,
   ⟨some 6, .asg (.tmp 12), none⟩] none [0, 1, 5, 6]) <|
  .seq (.reg [⟨some 24, .mv (.tmp 5), none⟩,
   ⟨some 4, .asg (.tmp 24), none⟩] none [4]) <|
  .ret⟩
theorem pf19_ok : cFn Try.prog [] [[0, 1], [0, 1, 5], [0, 1, 5, 6], [0, 1, 5, 6], [0, 1, 5, 6, 10], [0, 1, 5, 6], [0, 1, 5, 6], [4]] Try.f19 = some pf19 := by kernel_rfl

-- 20 passkey/packet.Split calls []
def pf20 : PFn :=
  ⟨58, 3, [.tmp 6, .tmp 7],
  .seq (.reg [⟨some 6, .asg (.con .nils), none⟩,
   ⟨some 7, .asg (.con (.int .i64 0)), none⟩] none [0, 1, 2]) <|
  .seq (.seq (.reg [⟨some 12, .mv (.tmp 1), none⟩,
   ⟨some 13, .bin .lss (.tmp 12) (.con (.int .i64 1)), none⟩,
   ⟨some 14, .mv (.tmp 13), none⟩,
   ⟨some 15, .mv (.tmp 1), some (14, false)⟩,
   ⟨some 16, .bin .gtr (.tmp 15) (.con (.int .i64 127)), some (14, false)⟩,
   ⟨some 17, .pick (.tmp 14) (.con (.bool true)) (.tmp 16), none⟩] none [0, 1, 2, 17]) <|
  .cond (.tmp 17) (.seq (.reg [⟨some 6, .asg (.con .nils), none⟩,
    ⟨some 7, .asg (.con (.int .i64 9)), none⟩] none [6, 7]) <|
   .ret) <|
   .skip) <|
  .seq (.seq (.reg [⟨some 18, .mv (.tmp 2), none⟩,
   ⟨some 19, .len (.tmp 18), none⟩,
   ⟨some 20, .bin .gtr (.tmp 19) (.con (.int .i64 4096)), none⟩] none [0, 1, 2, 20]) <|
  .cond (.tmp 20) (.seq (.reg [⟨some 6, .asg (.con .nils), none⟩,
    ⟨some 7, .asg (.con (.int .i64 8)), none⟩] none [6, 7]) <|
   .ret) <|
   .skip) <|
  .seq (.reg [⟨some 21, .mv (.tmp 2), none⟩,
   ⟨some 22, .len (.tmp 21), none⟩,
   ⟨some 23, .minmax false (.tmp 22) [(.con (.int .i64 57))], none⟩,
   ⟨some 8, .asg (.tmp 23), none⟩] none [0, 1, 2, 8]) <|
  .seq (.reg [⟨some 24, .mv (.tmp 0), none⟩,
   ⟨some 25, .mv (.tmp 1), none⟩,
   ⟨some 26, .mv (.tmp 2), none⟩,
   ⟨some 27, .len (.tmp 26), none⟩,
   ⟨some 28, .mv (.tmp 2), none⟩,
   ⟨some 29, .mv (.tmp 8), none⟩,
   ⟨some 30, .slice 1 (.tmp 28) none (some (.tmp 29)), none⟩,
   ⟨some 31, .append false 1 1 (.con .nils) (.tmp 30), none⟩,
   ⟨some 32, .build [(.int .u32 0), (.bool false), (.int .i64 0), (.int .i64 0), (.int .i64 0), .nils] [(0, 1, (.tmp 24)), (1, 1, (.con (.bool true))), (2, 1, (.tmp 25)), (3, 1, (.tmp 27)), (5, 1, (.tmp 31))], none⟩,
   ⟨some 33, .bsl 6 [(.int .u32 0), (.bool false), (.int .i64 0), (.int .i64 0), (.int .i64 0), .nils] 1 [(0, (.tmp 32))], none⟩,
   ⟨some 9, .asg (.tmp 33), none⟩] none [0, 2, 8, 9]) <|
  .seq (.seq (.reg [⟨some 10, .asg (.con (.int .i64 0)), none⟩] none [0, 2, 8, 9, 10]) <|
  .block 0 <|
  .loop [0, 2, 8, 9, 10] <|
  .seq (.seq (.reg [⟨some 34, .mv (.tmp 8), none⟩,
   ⟨some 35, .mv (.tmp 2), none⟩,
   ⟨some 36, .len (.tmp 35), none⟩,
   ⟨some 37, .bin .lss (.tmp 34) (.tmp 36), none⟩] none [0, 2, 8, 9, 10, 37]) <|
  .cond (.tmp 37) (.skip) <|
   .exit 0) <|
  .seq (.block 1 <|
  .seq (.reg [⟨some 40, .mv (.tmp 8), none⟩,
   ⟨some 41, .bin .add (.tmp 40) (.con (.int .i64 59)), none⟩,
   ⟨some 42, .mv (.tmp 2), none⟩,
   ⟨some 43, .len (.tmp 42), none⟩,
   ⟨some 44, .minmax false (.tmp 41) [(.tmp 43)], none⟩,
   ⟨some 11, .asg (.tmp 44), none⟩] none [0, 2, 8, 9, 10, 11]) <|
  .seq (.reg [⟨some 45, .mv (.tmp 9), none⟩,
   ⟨some 46, .mv (.tmp 0), none⟩,
   ⟨some 47, .mv (.tmp 10), none⟩,
   ⟨some 48, .mv (.tmp 2), none⟩,
   ⟨some 49, .mv (.tmp 8), none⟩,
   ⟨some 50, .mv (.tmp 11), none⟩,
   ⟨some 51, .slice 1 (.tmp 48) (some (.tmp 49)) (some (.tmp 50)), none⟩,
   ⟨some 52, .append false 1 1 (.con .nils) (.tmp 51), none⟩,
   ⟨some 53, .build [(.int .u32 0), (.bool false), (.int .i64 0), (.int .i64 0), (.int .i64 0), .nils] [(0, 1, (.tmp 46)), (4, 1, (.tmp 47)), (5, 1, (.tmp 52))], none⟩,
   ⟨some 54, .bsl 6 [(.int .u32 0), (.bool false), (.int .i64 0), (.int .i64 0), (.int .i64 0), .nils] 1 [(0, (.tmp 53))], none⟩,
   ⟨some 55, .append false 6 56 (.tmp 45) (.tmp 54), none⟩,
   ⟨some 9, .asg (.tmp 55), none⟩] none [0, 2, 9, 10, 11]) <|
  .reg [⟨some 56, .mv (.tmp 11), none⟩,
   ⟨some 8, .asg (.tmp 56), none⟩] none [0, 2, 8, 9, 10]) <|
  .reg [⟨some 38, .mv (.tmp 10), none⟩,
   ⟨some 39, .bin .add (.tmp 38) (.con (.int .i64 1)), none⟩,
   ⟨some 10, .asg (.tmp 39), none⟩] none [0, 2, 8, 9, 10]) <|
  .seq (.reg [⟨some 57, .mv (.tmp 9), none⟩,
   ⟨some 6, .asg (.tmp 57), none⟩,
   ⟨some 7, .asg (.con (.int .i64 0)), none⟩] none [6, 7]) <|
  .ret⟩
theorem pf20_ok : cFn Try.prog [] [[0, 1, 2], [0, 1, 2, 17], [6, 7], [0, 1, 2, 20], [6, 7], [0, 1, 2, 8], [0, 2, 8, 9], [0, 2, 8, 9, 10], [0, 2, 8, 9, 10], [0, 2, 8, 9, 10, 37], [0, 2, 8, 9, 10, 11], [0, 2, 9, 10, 11], [0, 2, 8, 9, 10], [0, 2, 8, 9, 10], [6, 7]] Try.f20 = some pf20 := by kernel_rfl

-- 21 passkey/passkeyref21.Split calls []
def pf21 : PFn :=
  ⟨62, 3, [.tmp 6, .tmp 7],
  .seq (.reg [⟨some 6, .asg (.con .nils), none⟩,
   ⟨some 7, .asg (.con (.int .i64 0)), none⟩] none [0, 1, 2]) <|
  .seq (.seq (.reg [⟨some 12, .mv (.tmp 1), none⟩,
   ⟨some 13, .bin .lss (.tmp 12) (.con (.int .i64 1)), none⟩,
   ⟨some 14, .mv (.tmp 13), none⟩,
   ⟨some 15, .mv (.tmp 1), some (14, false)⟩,
   ⟨some 16, .bin .gtr (.tmp 15) (.con (.int .i64 127)), some (14, false)⟩,
   ⟨some 17, .pick (.tmp 14) (.con (.bool true)) (.tmp 16), none⟩] none [0, 1, 2, 17]) <|
  .cond (.tmp 17) (.seq (.reg [⟨some 6, .asg (.con .nils), none⟩,
    ⟨some 7, .asg (.con (.int .i64 9)), none⟩] none [6, 7]) <|
   .ret) <|
   .skip) <|
  .seq (.seq (.reg [⟨some 18, .mv (.tmp 2), none⟩,
   ⟨some 19, .len (.tmp 18), none⟩,
   ⟨some 20, .bin .gtr (.tmp 19) (.con (.int .i64 4096)), none⟩] none [0, 1, 2, 20]) <|
  .cond (.tmp 20) (.seq (.reg [⟨some 6, .asg (.con .nils), none⟩,
    ⟨some 7, .asg (.con (.int .i64 8)), none⟩] none [6, 7]) <|
   .ret) <|
   .skip) <|
  .seq (.reg [⟨some 21, .mv (.tmp 2), none⟩,
   ⟨some 22, .len (.tmp 21), none⟩,
   ⟨some 23, .minmax false (.tmp 22) [(.con (.int .i64 57))], none⟩,
   ⟨some 8, .asg (.tmp 23), none⟩] none [0, 1, 2, 8]) <|
  .seq (.reg [⟨some 24, .mv (.tmp 0), none⟩,
   ⟨some 25, .mv (.tmp 1), none⟩,
   ⟨some 26, .mv (.tmp 2), none⟩,
   ⟨some 27, .len (.tmp 26), none⟩,
   ⟨some 28, .mv (.tmp 2), none⟩,
   ⟨some 29, .mv (.tmp 8), none⟩,
   ⟨some 30, .slice 1 (.tmp 28) none (some (.tmp 29)), none⟩,
   ⟨some 31, .append false 1 1 (.con .nils) (.tmp 30), none⟩,
   ⟨some 32, .build [(.int .u32 0), (.bool false), (.int .i64 0), (.int .i64 0), (.int .i64 0), .nils] [(0, 1, (.tmp 24)), (1, 1, (.con (.bool true))), (2, 1, (.tmp 25)), (3, 1, (.tmp 27)), (5, 1, (.tmp 31))], none⟩,
   ⟨some 33, .bsl 6 [(.int .u32 0), (.bool false), (.int .i64 0), (.int .i64 0), (.int .i64 0), .nils] 1 [(0, (.tmp 32))], none⟩,
   ⟨some 9, .asg (.tmp 33), none⟩] none [0, 2, 8, 9]) <|
  .seq (.seq (.reg [⟨some 10, .asg (.con (.int .i64 0)), none⟩] none [0, 2, 8, 9, 10]) <|
  .block 0 <|
  .loop [0, 2, 8, 9, 10] <|
  .seq (.seq (.reg [⟨some 34, .mv (.tmp 8), none⟩,
   ⟨some 35, .mv (.tmp 2), none⟩,
   ⟨some 36, .len (.tmp 35), none⟩,
   ⟨some 37, .bin .lss (.tmp 34) (.tmp 36), none⟩] none [0, 2, 8, 9, 10, 37]) <|
  .cond (.tmp 37) (.skip) <|
   .exit 0) <|
  .seq (.block 1 <|
  .seq (.reg [⟨some 40, .mv (.tmp 2), none⟩,
   ⟨some 41, .len (.tmp 40), none⟩,
   ⟨some 42, .mv (.tmp 8), none⟩,
   ⟨some 43, .bin .sub (.tmp 41) (.tmp 42), none⟩,
   ⟨some 44, .minmax false (.tmp 43) [(.con (.int .i64 59))], none⟩,
   ⟨some 11, .asg (.tmp 44), none⟩] none [0, 2, 8, 9, 10, 11]) <|
  .seq (.reg [⟨some 45, .mv (.tmp 9), none⟩,
   ⟨some 46, .mv (.tmp 0), none⟩,
   ⟨some 47, .mv (.tmp 10), none⟩,
   ⟨some 48, .mv (.tmp 2), none⟩,
   ⟨some 49, .mv (.tmp 8), none⟩,
   ⟨some 50, .mv (.tmp 8), none⟩,
   ⟨some 51, .mv (.tmp 11), none⟩,
   ⟨some 52, .bin .add (.tmp 50) (.tmp 51), none⟩,
   ⟨some 53, .slice 1 (.tmp 48) (some (.tmp 49)) (some (.tmp 52)), none⟩,
   ⟨some 54, .append false 1 1 (.con .nils) (.tmp 53), none⟩,
   ⟨some 55, .build [(.int .u32 0), (.bool false), (.int .i64 0), (.int .i64 0), (.int .i64 0), .nils] [(0, 1, (.tmp 46)), (4, 1, (.tmp 47)), (5, 1, (.tmp 54))], none⟩,
   ⟨some 56, .bsl 6 [(.int .u32 0), (.bool false), (.int .i64 0), (.int .i64 0), (.int .i64 0), .nils] 1 [(0, (.tmp 55))], none⟩,
   ⟨some 57, .append false 6 56 (.tmp 45) (.tmp 56), none⟩,
   ⟨some 9, .asg (.tmp 57), none⟩] none [0, 2, 8, 9, 10, 11]) <|
  .reg [⟨some 58, .mv (.tmp 8), none⟩,
   ⟨some 59, .mv (.tmp 11), none⟩,
   ⟨some 60, .bin .add (.tmp 58) (.tmp 59), none⟩,
   ⟨some 8, .asg (.tmp 60), none⟩] none [0, 2, 8, 9, 10]) <|
  .reg [⟨some 38, .mv (.tmp 10), none⟩,
   ⟨some 39, .bin .add (.tmp 38) (.con (.int .i64 1)), none⟩,
   ⟨some 10, .asg (.tmp 39), none⟩] none [0, 2, 8, 9, 10]) <|
  .seq (.reg [⟨some 61, .mv (.tmp 9), none⟩,
   ⟨some 6, .asg (.tmp 61), none⟩,
   ⟨some 7, .asg (.con (.int .i64 0)), none⟩] none [6, 7]) <|
  .ret⟩
theorem pf21_ok : cFn Try.prog [] [[0, 1, 2], [0, 1, 2, 17], [6, 7], [0, 1, 2, 20], [6, 7], [0, 1, 2, 8], [0, 2, 8, 9], [0, 2, 8, 9, 10], [0, 2, 8, 9, 10], [0, 2, 8, 9, 10, 37], [0, 2, 8, 9, 10, 11], [0, 2, 8, 9, 10, 11], [0, 2, 8, 9, 10], [0, 2, 8, 9, 10], [6, 7]] Try.f21 = some pf21 := by kernel_rfl

-- 22 passkey/passkeyref21.SamePackets calls [28]
def pf22 : PFn :=
  ⟨27, 2, [.tmp 4],
  .seq (.reg [⟨some 4, .asg (.con (.bool false)), none⟩] none [0, 1]) <|
  .seq (.seq (.reg [⟨some 6, .mv (.tmp 0), none⟩,
   ⟨some 7, .len (.tmp 6), none⟩,
   ⟨some 8, .mv (.tmp 1), none⟩,
   ⟨some 9, .len (.tmp 8), none⟩,
   ⟨some 10, .bin .neq (.tmp 7) (.tmp 9), none⟩] none [0, 1, 10]) <|
  .cond (.tmp 10) (.seq (.reg [⟨some 4, .asg (.con (.bool false)), none⟩] none [4]) <|
   .ret) <|
   .skip) <|
  .seq (.seq (.reg [⟨some 5, .asg (.con (.int .i64 0)), none⟩] none [0, 1, 5]) <|
  .block 0 <|
  .loop [0, 1, 5] <|
  .seq (.seq (.reg [⟨some 11, .mv (.tmp 5), none⟩,
   ⟨some 12, .mv (.tmp 0), none⟩,
   ⟨some 13, .len (.tmp 12), none⟩,
   ⟨some 14, .bin .lss (.tmp 11) (.tmp 13), none⟩] none [0, 1, 5, 14]) <|
  .cond (.tmp 14) (.skip) <|
   .exit 0) <|
  .seq (.block 1 <|
  .seq (.reg [⟨some 17, .mv (.tmp 0), none⟩,
   ⟨some 18, .mv (.tmp 5), none⟩,
   ⟨some 19, .iaddrS 6 (.tmp 17) (.tmp 18), none⟩,
   ⟨some 20, .load false (some 6) (.tmp 19), none⟩,
   ⟨some 21, .mv (.tmp 1), none⟩,
   ⟨some 22, .mv (.tmp 5), none⟩,
   ⟨some 23, .iaddrS 6 (.tmp 21) (.tmp 22), none⟩,
   ⟨some 24, .load false (some 6) (.tmp 23), none⟩,
   ⟨some 25, .call 28 [(false, (.tmp 20)), (false, (.tmp 24))], none⟩,
   ⟨some 26, .un .not (.tmp 25), none⟩] (some [0, 0, 3, 7, 0, 0, 48, 112, 255, 511]) [0, 1, 5, 26]) <|
  .cond (.tmp 26) (.seq (.reg [⟨some 4, .asg (.con (.bool false)), none⟩] none [4]) <|
   .ret) <|
   .skip) <|
  .reg [⟨some 15, .mv (.tmp 5), none⟩,
   ⟨some 16, .bin .add (.tmp 15) (.con (.int .i64 1)), none⟩,
   ⟨some 5, .asg (.tmp 16), none⟩] none [0, 1, 5]) <|
  .seq (.reg [⟨some 4, .asg (.con (.bool true)), none⟩] none [4]) <|
  .ret⟩
theorem pf22_ok : cFn Try.prog [] [[0, 1], [0, 1, 10], [4], [0, 1, 5], [0, 1, 5], [0, 1, 5, 14], [0, 1, 5, 26], [4], [0, 1, 5], [4]] Try.f22 = some pf22 := by kernel_rfl

-- 23 passkey/passkeycast.New calls []
def pf23 : PFn :=
  ⟨6, 1, [.tmp 2],
  .seq (.reg [⟨some 2, .asg (.con .nilp), none⟩] none [0]) <|
  .seq (.reg [⟨some 3, .mv (.tmp 0), none⟩,
   ⟨some 4, .build [.nils, (.int .i64 0)] [(0, 1, (.tmp 3))], none⟩,
   ⟨some 5, .box (.tmp 4), none⟩,
   ⟨some 2, .asg (.tmp 5), none⟩] none [2]) <|
  .ret⟩
theorem pf23_ok : cFn Try.prog [] [[0], [2]] Try.f23 = some pf23 := by kernel_rfl

-- 24 passkey/passkeycast.Bytes calls [45]
def pf24 : PFn :=
  ⟨12, 2, [.tmp 4],
  .seq (.reg [⟨some 4, .asg (.con .nils), none⟩] none [0, 1]) <|
  .seq (.reg [⟨some 5, .mv (.tmp 0), none⟩,
   ⟨some 6, .cvInt .u64 (.tmp 5), none⟩,
   ⟨some 7, .bin .add (.tmp 6) (.con (.int .u64 1)), none⟩,
   ⟨some 8, .mv (.tmp 1), none⟩,
   ⟨some 9, .minmax false (.tmp 8) [(.con (.int .i64 1024))], none⟩,
   ⟨some 10, .minmax true (.tmp 9) [(.con (.int .i64 0))], none⟩,
   ⟨some 11, .call 45 [(false, (.tmp 7)), (false, (.con (.int .u64 7))), (false, (.tmp 10))], none⟩,
   ⟨some 4, .asg (.tmp 11), none⟩] none [4]) <|
  .ret⟩
theorem pf24_ok : cFn Try.prog [] [[0, 1], [4]] Try.f24 = some pf24 := by kernel_rfl

-- 25 (*passkey/passkeycast.Deck).Next calls [14]
def pf25 : PFn :=
  ⟨35, 2, [.tmp 4],
  .seq (.reg [⟨some 4, .asg (.con (.int .i64 0)), none⟩] none [0, 1]) <|
  .seq (.seq (.reg [⟨some 5, .mv (.tmp 0), none⟩,
   ⟨some 6, .nilck (.tmp 5), none⟩,
   ⟨some 7, .faddr 1 (.tmp 6), none⟩,
   ⟨some 8, .load false none (.tmp 7), none⟩,
   ⟨some 9, .mv (.tmp 0), none⟩,
   ⟨some 10, .nilck (.tmp 9), none⟩,
   ⟨some 11, .faddr 0 (.tmp 10), none⟩,
   ⟨some 12, .load false none (.tmp 11), none⟩,
   ⟨some 13, .len (.tmp 12), none⟩,
   ⟨some 14, .bin .geq (.tmp 8) (.tmp 13), none⟩] (some [0, 1, 3, 7, 0, 16, 48, 112, 240, 511]) [0, 1, 14]) <|
  .cond (.tmp 14) (.seq (.reg [⟨some 4, .asg (.con (.int .i64 0)), none⟩] none [0, 4]) <|
   .ret) <|
   .skip) <|
  .seq (.reg [⟨some 15, .mv (.tmp 0), none⟩,
   ⟨some 16, .nilck (.tmp 15), none⟩,
   ⟨some 17, .faddr 1 (.tmp 16), none⟩,
   ⟨some 18, .load false none (.tmp 17), none⟩,
   ⟨some 19, .bin .add (.tmp 18) (.con (.int .i64 1)), none⟩,
   ⟨some 20, .nilck (.tmp 15), none⟩,
   ⟨some 21, .faddr 1 (.tmp 20), none⟩,
   ⟨none, .store 1 (.tmp 21) (.tmp 19), none⟩] none [0, 1]) <|
  .seq (.reg [⟨some 22, .mv (.tmp 0), none⟩,
   ⟨some 23, .nilck (.tmp 22), none⟩,
   ⟨some 24, .faddr 0 (.tmp 23), none⟩,
   ⟨some 25, .load false none (.tmp 24), none⟩,
   ⟨some 26, .mv (.tmp 0), none⟩,
   ⟨some 27, .nilck (.tmp 26), none⟩,
   ⟨some 28, .faddr 1 (.tmp 27), none⟩,
   ⟨some 29, .load false none (.tmp 28), none⟩,
   ⟨some 30, .bin .sub (.tmp 29) (.con (.int .i64 1)), none⟩,
   ⟨some 31, .iaddrS 1 (.tmp 25) (.tmp 30), none⟩,
   ⟨some 32, .load false none (.tmp 31), none⟩,
   ⟨some 33, .mv (.tmp 1), none⟩,
   ⟨some 34, .call 14 [(false, (.tmp 32)), (false, (.tmp 33))], none⟩,
   ⟨some 4, .asg (.tmp 34), none⟩] (some [0, 1, 3, 7, 0, 16, 48, 112, 240, 511, 1023, 0, 4095, 8191]) [0, 4]) <|
  .ret⟩
theorem pf25_ok : cFn Try.prog [] [[0, 1], [0, 1, 14], [0, 4], [0, 1], [0, 4]] Try.f25 = some pf25 := by kernel_rfl

-- 26 passkey/packet.Decode calls []
def pf26 : PFn :=
  ⟨74, 1, [.cell 2 (some 6), .tmp 3],
  .seq (.reg [⟨some 2, .alloc [(.int .u32 0), (.bool false), (.int .i64 0), (.int .i64 0), (.int .i64 0), .nils], none⟩,
   ⟨some 3, .asg (.con (.int .i64 0)), none⟩] none [0, 2]) <|
  .seq (.seq (.reg [⟨some 6, .mv (.tmp 0), none⟩,
   ⟨some 7, .len (.tmp 6), none⟩,
   ⟨some 8, .bin .lss (.tmp 7) (.con (.int .i64 64)), none⟩] none [0, 2, 8]) <|
  .cond (.tmp 8) (.seq (.reg [⟨some 9, .build [(.int .u32 0), (.bool false), (.int .i64 0), (.int .i64 0), (.int .i64 0), .nils] [], none⟩,
    ⟨none, .store 6 (.tmp 2) (.tmp 9), none⟩,
    ⟨some 3, .asg (.con (.int .i64 1)), none⟩] none [2, 3]) <|
   .ret) <|
   .skip) <|
  .seq (.seq (.reg [⟨some 10, .mv (.tmp 0), none⟩,
   ⟨some 11, .len (.tmp 10), none⟩,
   ⟨some 12, .bin .gtr (.tmp 11) (.con (.int .i64 64)), none⟩] none [0, 2, 12]) <|
  .cond (.tmp 12) (.seq (.reg [⟨some 13, .build [(.int .u32 0), (.bool false), (.int .i64 0), (.int .i64 0), (.int .i64 0), .nils] [], none⟩,
    ⟨none, .store 6 (.tmp 2) (.tmp 13), none⟩,
    ⟨some 3, .asg (.con (.int .i64 8)), none⟩] none [2, 3]) <|
   .ret) <|
   .skip) <|
  .seq (.reg [⟨some 14, .mv (.tmp 0), none⟩,
   ⟨some 15, .iaddrS 1 (.tmp 14) (.con (.int .i64 0)), none⟩,
   ⟨some 16, .load false none (.tmp 15), none⟩,
   ⟨some 17, .cvInt .u32 (.tmp 16), none⟩,
   ⟨some 18, .bin .shl (.tmp 17) (.con (.int .u64 24)), none⟩,
   ⟨some 19, .mv (.tmp 0), none⟩,
   ⟨some 20, .iaddrS 1 (.tmp 19) (.con (.int .i64 1)), none⟩,
   ⟨some 21, .load false none (.tmp 20), none⟩,
   ⟨some 22, .cvInt .u32 (.tmp 21), none⟩,
   ⟨some 23, .bin .shl (.tmp 22) (.con (.int .u64 16)), none⟩,
   ⟨some 24, .bin .or (.tmp 18) (.tmp 23), none⟩,
   ⟨some 25, .mv (.tmp 0), none⟩,
   ⟨some 26, .iaddrS 1 (.tmp 25) (.con (.int .i64 2)), none⟩,
   ⟨some 27, .load false none (.tmp 26), none⟩,
   ⟨some 28, .cvInt .u32 (.tmp 27), none⟩,
   ⟨some 29, .bin .shl (.tmp 28) (.con (.int .u64 8)), none⟩,
   ⟨some 30, .bin .or (.tmp 24) (.tmp 29), none⟩,
   ⟨some 31, .mv (.tmp 0), none⟩,
   ⟨some 32, .iaddrS 1 (.tmp 31) (.con (.int .i64 3)), none⟩,
   ⟨some 33, .load false none (.tmp 32), none⟩,
   ⟨some 34, .cvInt .u32 (.tmp 33), none⟩,
   ⟨some 35, .bin .or (.tmp 30) (.tmp 34), none⟩,
   ⟨some 36, .build [(.int .u32 0), (.bool false), (.int .i64 0), (.int .i64 0), (.int .i64 0), .nils] [(0, 1, (.tmp 35))], none⟩,
   ⟨some 4, .alloc [(.int .u32 0), (.bool false), (.int .i64 0), (.int .i64 0), (.int .i64 0), .nils], none⟩,
   ⟨none, .store 6 (.tmp 4) (.tmp 36), none⟩] (some [0, 1, 3, 7, 15, 0, 32, 96, 224, 480, 1023, 0, 2048, 6144, 14336, 30720, 65535, 0, 131072, 393216, 917504, 2097151, 4194303, 0, 16777215]) [0, 2, 4]) <|
  .seq (.reg [⟨some 5, .asg (.con (.int .i64 5)), none⟩] none [0, 2, 4, 5]) <|
  .seq (.seq (.reg [⟨some 37, .mv (.tmp 0), none⟩,
   ⟨some 38, .iaddrS 1 (.tmp 37) (.con (.int .i64 4)), none⟩,
   ⟨some 39, .load false none (.tmp 38), none⟩,
   ⟨some 40, .bin .geq (.tmp 39) (.con (.int .u8 128)), none⟩] none [0, 2, 4, 5, 40]) <|
  .cond (.tmp 40) (.seq (.reg [⟨some 5, .asg (.con (.int .i64 7)), none⟩] none [0, 2, 4, 5]) <|
   .seq (.reg [⟨some 41, .mv (.tmp 0), none⟩,
    ⟨some 42, .iaddrS 1 (.tmp 41) (.con (.int .i64 4)), none⟩,
    ⟨some 43, .load false none (.tmp 42), none⟩,
    ⟨some 44, .cvInt .i64 (.tmp 43), none⟩,
    ⟨some 45, .bin .sub (.tmp 44) (.con (.int .i64 128)), none⟩,
    ⟨some 46, .mv (.tmp 0), none⟩,
    ⟨some 47, .iaddrS 1 (.tmp 46) (.con (.int .i64 5)), none⟩,
    ⟨some 48, .load false none (.tmp 47), none⟩,
    ⟨some 49, .cvInt .i64 (.tmp 48), none⟩,
    ⟨some 50, .bin .shl (.tmp 49) (.con (.int .u64 8)), none⟩,
    ⟨some 51, .mv (.tmp 0), none⟩,
    ⟨some 52, .iaddrS 1 (.tmp 51) (.con (.int .i64 6)), none⟩,
    ⟨some 53, .load false none (.tmp 52), none⟩,
    ⟨some 54, .cvInt .i64 (.tmp 53), none⟩,
    ⟨some 55, .bin .or (.tmp 50) (.tmp 54), none⟩,
    ⟨some 56, .faddr 1 (.tmp 4), none⟩,
    ⟨none, .store 1 (.tmp 56) (.con (.bool true)), none⟩,
    ⟨some 57, .faddr 2 (.tmp 4), none⟩,
    ⟨none, .store 1 (.tmp 57) (.tmp 45), none⟩,
    ⟨some 58, .faddr 3 (.tmp 4), none⟩,
    ⟨none, .store 1 (.tmp 58) (.tmp 55), none⟩] (some [0, 1, 3, 7, 15, 0, 32, 96, 224, 480, 0, 1024, 3072, 7168, 16352, 0, 32768, 98335, 229407, 524287, 1048575]) [0, 2, 4, 5]) <|
   .seq (.reg [⟨some 59, .faddr 2 (.tmp 4), none⟩,
    ⟨some 60, .load false none (.tmp 59), none⟩,
    ⟨some 61, .bin .eql (.tmp 60) (.con (.int .i64 0)), none⟩] none [0, 2, 4, 5, 61]) <|
   .cond (.tmp 61) (.seq (.reg [⟨some 62, .build [(.int .u32 0), (.bool false), (.int .i64 0), (.int .i64 0), (.int .i64 0), .nils] [], none⟩,
     ⟨none, .store 6 (.tmp 2) (.tmp 62), none⟩,
     ⟨some 3, .asg (.con (.int .i64 9)), none⟩] none [2, 3]) <|
    .ret) <|
    .skip) <|
   .reg [⟨some 63, .mv (.tmp 0), none⟩,
    ⟨some 64, .iaddrS 1 (.tmp 63) (.con (.int .i64 4)), none⟩,
    ⟨some 65, .load false none (.tmp 64), none⟩,
    ⟨some 66, .cvInt .i64 (.tmp 65), none⟩,
    ⟨some 67, .faddr 4 (.tmp 4), none⟩,
    ⟨none, .store 1 (.tmp 67) (.tmp 66), none⟩] none [0, 2, 4, 5]) <|
  .seq (.reg [⟨some 68, .mv (.tmp 0), none⟩,
   ⟨some 69, .mv (.tmp 5), none⟩,
   ⟨some 70, .slice 1 (.tmp 68) (some (.tmp 69)) none, none⟩,
   ⟨some 71, .append false 1 1 (.con .nils) (.tmp 70), none⟩,
   ⟨some 72, .faddr 5 (.tmp 4), none⟩,
   ⟨none, .store 1 (.tmp 72) (.tmp 71), none⟩] none [2, 4]) <|
  .seq (.reg [⟨some 73, .load true (some 6) (.tmp 4), none⟩,
   ⟨none, .store 6 (.tmp 2) (.tmp 73), none⟩,
   ⟨some 3, .asg (.con (.int .i64 0)), none⟩] none [2, 3]) <|
  .ret⟩
theorem pf26_ok : cFn Try.prog [(73, [true])] [[0, 2], [0, 2, 8], [2, 3], [0, 2, 12], [2, 3], [0, 2, 4], [0, 2, 4, 5], [0, 2, 4, 5, 40], [0, 2, 4, 5], [0, 2, 4, 5], [0, 2, 4, 5, 61], [2, 3], [0, 2, 4, 5], [2, 4], [2, 3]] Try.f26 = some pf26 := by kernel_rfl

-- 27 passkey/passkeyref21.Decode calls []
def pf27 : PFn :=
  ⟨81, 1, [.cell 2 (some 6), .tmp 3],
  .seq (.reg [⟨some 2, .alloc [(.int .u32 0), (.bool false), (.int .i64 0), (.int .i64 0), (.int .i64 0), .nils], none⟩,
   ⟨some 3, .asg (.con (.int .i64 0)), none⟩] none [0, 2]) <|
  .seq (.block 0 <|
  .seq (.reg [⟨some 6, .mv (.tmp 0), none⟩,
   ⟨some 7, .len (.tmp 6), none⟩,
   ⟨some 8, .bin .lss (.tmp 7) (.con (.int .i64 64)), none⟩,
   ⟨some 5, .asg (.tmp 8), none⟩] none [0, 2, 5]) <|
  .cond (.tmp 5) (.seq (.reg [⟨some 9, .build [(.int .u32 0), (.bool false), (.int .i64 0), (.int .i64 0), (.int .i64 0), .nils] [], none⟩,
    ⟨none, .store 6 (.tmp 2) (.tmp 9), none⟩,
    ⟨some 3, .asg (.con (.int .i64 1)), none⟩] none [2, 3]) <|
   .ret) <|
   .seq (.reg [⟨some 11, .mv (.tmp 0), none⟩,
    ⟨some 12, .len (.tmp 11), none⟩,
    ⟨some 13, .bin .gtr (.tmp 12) (.con (.int .i64 64)), none⟩,
    ⟨some 10, .asg (.tmp 13), none⟩] none [0, 2, 10]) <|
   .cond (.tmp 10) (.seq (.reg [⟨some 14, .build [(.int .u32 0), (.bool false), (.int .i64 0), (.int .i64 0), (.int .i64 0), .nils] [], none⟩,
     ⟨none, .store 6 (.tmp 2) (.tmp 14), none⟩,
     ⟨some 3, .asg (.con (.int .i64 8)), none⟩] none [2, 3]) <|
    .ret) <|
    .seq (.reg [⟨some 16, .mv (.tmp 0), none⟩,
     ⟨some 17, .iaddrS 1 (.tmp 16) (.con (.int .i64 4)), none⟩,
     ⟨some 18, .load false none (.tmp 17), none⟩,
     ⟨some 19, .bin .eql (.tmp 18) (.con (.int .u8 128)), none⟩,
     ⟨some 15, .asg (.tmp 19), none⟩] none [0, 2, 15]) <|
    .cond (.tmp 15) (.seq (.reg [⟨some 20, .build [(.int .u32 0), (.bool false), (.int .i64 0), (.int .i64 0), (.int .i64 0), .nils] [], none⟩,
      ⟨none, .store 6 (.tmp 2) (.tmp 20), none⟩,
      ⟨some 3, .asg (.con (.int .i64 9)), none⟩] none [2, 3]) <|
     .ret) <|
     .skip) <|
  .seq (.reg [⟨some 21, .mv (.tmp 0), none⟩,
   ⟨some 22, .iaddrS 1 (.tmp 21) (.con (.int .i64 0)), none⟩,
   ⟨some 23, .load false none (.tmp 22), none⟩,
   ⟨some 24, .cvInt .u32 (.tmp 23), none⟩,
   ⟨some 25, .bin .shl (.tmp 24) (.con (.int .u64 24)), none⟩,
   ⟨some 26, .mv (.tmp 0), none⟩,
   ⟨some 27, .iaddrS 1 (.tmp 26) (.con (.int .i64 1)), none⟩,
   ⟨some 28, .load false none (.tmp 27), none⟩,
   ⟨some 29, .cvInt .u32 (.tmp 28), none⟩,
   ⟨some 30, .bin .shl (.tmp 29) (.con (.int .u64 16)), none⟩,
   ⟨some 31, .bin .or (.tmp 25) (.tmp 30), none⟩,
   ⟨some 32, .mv (.tmp 0), none⟩,
   ⟨some 33, .iaddrS 1 (.tmp 32) (.con (.int .i64 2)), none⟩,
   ⟨some 34, .load false none (.tmp 33), none⟩,
   ⟨some 35, .cvInt .u32 (.tmp 34), none⟩,
   ⟨some 36, .bin .shl (.tmp 35) (.con (.int .u64 8)), none⟩,
   ⟨some 37, .bin .or (.tmp 31) (.tmp 36), none⟩,
   ⟨some 38, .mv (.tmp 0), none⟩,
   ⟨some 39, .iaddrS 1 (.tmp 38) (.con (.int .i64 3)), none⟩,
   ⟨some 40, .load false none (.tmp 39), none⟩,
   ⟨some 41, .cvInt .u32 (.tmp 40), none⟩,
   ⟨some 42, .bin .or (.tmp 37) (.tmp 41), none⟩,
   ⟨some 43, .build [(.int .u32 0), (.bool false), (.int .i64 0), (.int .i64 0), (.int .i64 0), .nils] [(0, 1, (.tmp 42))], none⟩,
   ⟨some 4, .alloc [(.int .u32 0), (.bool false), (.int .i64 0), (.int .i64 0), (.int .i64 0), .nils], none⟩,
   ⟨none, .store 6 (.tmp 4) (.tmp 43), none⟩] (some [0, 1, 3, 7, 15, 0, 32, 96, 224, 480, 1023, 0, 2048, 6144, 14336, 30720, 65535, 0, 131072, 393216, 917504, 2097151, 4194303, 0, 16777215]) [0, 2, 4]) <|
  .seq (.seq (.reg [⟨some 44, .mv (.tmp 0), none⟩,
   ⟨some 45, .iaddrS 1 (.tmp 44) (.con (.int .i64 4)), none⟩,
   ⟨some 46, .load false none (.tmp 45), none⟩,
   ⟨some 47, .bin .lss (.tmp 46) (.con (.int .u8 128)), none⟩] none [0, 2, 4, 47]) <|
  .cond (.tmp 47) (.seq (.reg [⟨some 48, .mv (.tmp 0), none⟩,
    ⟨some 49, .iaddrS 1 (.tmp 48) (.con (.int .i64 4)), none⟩,
    ⟨some 50, .load false none (.tmp 49), none⟩,
    ⟨some 51, .cvInt .i64 (.tmp 50), none⟩,
    ⟨some 52, .faddr 4 (.tmp 4), none⟩,
    ⟨none, .store 1 (.tmp 52) (.tmp 51), none⟩] none [0, 2, 4]) <|
   .seq (.reg [⟨some 53, .mv (.tmp 0), none⟩,
    ⟨some 54, .slice 1 (.tmp 53) (some (.con (.int .i64 5))) none, none⟩,
    ⟨some 55, .append false 1 1 (.con .nils) (.tmp 54), none⟩,
    ⟨some 56, .faddr 5 (.tmp 4), none⟩,
    ⟨none, .store 1 (.tmp 56) (.tmp 55), none⟩] none [2, 4]) <|
   .seq (.reg [⟨some 57, .load true (some 6) (.tmp 4), none⟩,
    ⟨none, .store 6 (.tmp 2) (.tmp 57), none⟩,
    ⟨some 3, .asg (.con (.int .i64 0)), none⟩] none [2, 3]) <|
   .ret) <|
   .skip) <|
  .seq (.reg [⟨some 58, .mv (.tmp 0), none⟩,
   ⟨some 59, .iaddrS 1 (.tmp 58) (.con (.int .i64 4)), none⟩,
   ⟨some 60, .load false none (.tmp 59), none⟩,
   ⟨some 61, .cvInt .i64 (.tmp 60), none⟩,
   ⟨some 62, .bin .sub (.tmp 61) (.con (.int .i64 128)), none⟩,
   ⟨some 63, .mv (.tmp 0), none⟩,
   ⟨some 64, .iaddrS 1 (.tmp 63) (.con (.int .i64 5)), none⟩,
   ⟨some 65, .load false none (.tmp 64), none⟩,
   ⟨some 66, .cvInt .i64 (.tmp 65), none⟩,
   ⟨some 67, .bin .shl (.tmp 66) (.con (.int .u64 8)), none⟩,
   ⟨some 68, .mv (.tmp 0), none⟩,
   ⟨some 69, .iaddrS 1 (.tmp 68) (.con (.int .i64 6)), none⟩,
   ⟨some 70, .load false none (.tmp 69), none⟩,
   ⟨some 71, .cvInt .i64 (.tmp 70), none⟩,
   ⟨some 72, .bin .or (.tmp 67) (.tmp 71), none⟩,
   ⟨some 73, .faddr 1 (.tmp 4), none⟩,
   ⟨none, .store 1 (.tmp 73) (.con (.bool true)), none⟩,
   ⟨some 74, .faddr 2 (.tmp 4), none⟩,
   ⟨none, .store 1 (.tmp 74) (.tmp 62), none⟩,
   ⟨some 75, .faddr 3 (.tmp 4), none⟩,
   ⟨none, .store 1 (.tmp 75) (.tmp 72), none⟩] (some [0, 1, 3, 7, 15, 0, 32, 96, 224, 480, 0, 1024, 3072, 7168, 16352, 0, 32768, 98335, 229407, 524287, 1048575]) [0, 2, 4]) <|
  .seq (.reg [⟨some 76, .mv (.tmp 0), none⟩,
   ⟨some 77, .slice 1 (.tmp 76) (some (.con (.int .i64 7))) none, none⟩,
   ⟨some 78, .append false 1 1 (.con .nils) (.tmp 77), none⟩,
   ⟨some 79, .faddr 5 (.tmp 4), none⟩,
   ⟨none, .store 1 (.tmp 79) (.tmp 78), none⟩] none [2, 4]) <|
  .seq (.reg [⟨some 80, .load true (some 6) (.tmp 4), none⟩,
   ⟨none, .store 6 (.tmp 2) (.tmp 80), none⟩,
   ⟨some 3, .asg (.con (.int .i64 0)), none⟩] none [2, 3]) <|
  .ret⟩
theorem pf27_ok : cFn Try.prog [(57, [true]), (80, [true])] [[0, 2], [0, 2, 5], [2, 3], [0, 2, 10], [2, 3], [0, 2, 15], [2, 3], [0, 2, 4], [0, 2, 4, 47], [0, 2, 4], [2, 4], [2, 3], [0, 2, 4], [2, 4], [2, 3]] Try.f27 = some pf27 := by kernel_rfl

-- 28 passkey/passkeyref21.SamePacket calls []
def pf28 : PFn :=
  ⟨47, 2, [.tmp 4],
  .seq (.reg [⟨some 2, .box (.tmp 0), none⟩,
   ⟨some 3, .box (.tmp 1), none⟩,
   ⟨some 4, .asg (.con (.bool false)), none⟩] none [2, 3]) <|
  .seq (.reg [⟨some 5, .faddr 0 (.tmp 2), none⟩,
   ⟨some 6, .load false none (.tmp 5), none⟩,
   ⟨some 7, .faddr 0 (.tmp 3), none⟩,
   ⟨some 8, .load false none (.tmp 7), none⟩,
   ⟨some 9, .bin .eql (.tmp 6) (.tmp 8), none⟩,
   ⟨some 10, .mv (.tmp 9), none⟩,
   ⟨some 11, .faddr 1 (.tmp 2), some (10, true)⟩,
   ⟨some 12, .load false none (.tmp 11), some (10, true)⟩,
   ⟨some 13, .faddr 1 (.tmp 3), some (10, true)⟩,
   ⟨some 14, .load false none (.tmp 13), some (10, true)⟩,
   ⟨some 15, .eqB false (.tmp 12) (.tmp 14), some (10, true)⟩,
   ⟨some 16, .pick (.tmp 10) (.tmp 15) (.con (.bool false)), none⟩,
   ⟨some 17, .mv (.tmp 16), none⟩,
   ⟨some 18, .faddr 2 (.tmp 2), some (17, true)⟩,
   ⟨some 19, .load false none (.tmp 18), some (17, true)⟩,
   ⟨some 20, .faddr 2 (.tmp 3), some (17, true)⟩,
   ⟨some 21, .load false none (.tmp 20), some (17, true)⟩,
   ⟨some 22, .bin .eql (.tmp 19) (.tmp 21), some (17, true)⟩,
   ⟨some 23, .pick (.tmp 17) (.tmp 22) (.con (.bool false)), none⟩,
   ⟨some 24, .mv (.tmp 23), none⟩,
   ⟨some 25, .faddr 3 (.tmp 2), some (24, true)⟩,
   ⟨some 26, .load false none (.tmp 25), some (24, true)⟩,
   ⟨some 27, .faddr 3 (.tmp 3), some (24, true)⟩,
   ⟨some 28, .load false none (.tmp 27), some (24, true)⟩,
   ⟨some 29, .bin .eql (.tmp 26) (.tmp 28), some (24, true)⟩,
   ⟨some 30, .pick (.tmp 24) (.tmp 29) (.con (.bool false)), none⟩,
   ⟨some 31, .mv (.tmp 30), none⟩,
   ⟨some 32, .faddr 4 (.tmp 2), some (31, true)⟩,
   ⟨some 33, .load false none (.tmp 32), some (31, true)⟩,
   ⟨some 34, .faddr 4 (.tmp 3), some (31, true)⟩,
   ⟨some 35, .load false none (.tmp 34), some (31, true)⟩,
   ⟨some 36, .bin .eql (.tmp 33) (.tmp 35), some (31, true)⟩,
   ⟨some 37, .pick (.tmp 31) (.tmp 36) (.con (.bool false)), none⟩,
   ⟨some 38, .mv (.tmp 37), none⟩,
   ⟨some 39, .faddr 5 (.tmp 2), some (38, true)⟩,
   ⟨some 40, .load false none (.tmp 39), some (38, true)⟩,
   ⟨some 41, .cvText (.tmp 40), some (38, true)⟩,
   ⟨some 42, .faddr 5 (.tmp 3), some (38, true)⟩,
   ⟨some 43, .load false none (.tmp 42), some (38, true)⟩,
   ⟨some 44, .cvText (.tmp 43), some (38, true)⟩,
   ⟨some 45, .bin .eql (.tmp 41) (.tmp 44), some (38, true)⟩,
   ⟨some 46, .pick (.tmp 38) (.tmp 45) (.con (.bool false)), none⟩,
   ⟨some 4, .asg (.tmp 46), none⟩] none [4]) <|
  .ret⟩
theorem pf28_ok : cFn Try.prog [] [[2, 3], [4]] Try.f28 = some pf28 := by kernel_rfl

-- 29 passkey/passkeylaw21.encodes calls [31, 46]
def pf29 : PFn :=
  ⟨27, 1, [.tmp 2],
  .seq (.reg [⟨some 1, .box (.tmp 0), none⟩,
   ⟨some 2, .asg (.con (.bool false)), none⟩] none [1]) <|
  .seq (.reg [⟨some 8, .load false (some 6) (.tmp 1), none⟩,
   ⟨some 9, .call 31 [(false, (.tmp 8))], none⟩,
   ⟨some 7, .mv (.tmp 9), none⟩,
   ⟨some 10, .extract (.tmp 7) 0, none⟩,
   ⟨some 11, .extract (.tmp 7) 1, none⟩,
   ⟨some 3, .asg (.tmp 10), none⟩,
   ⟨some 4, .asg (.tmp 11), none⟩] none [1, 3, 4]) <|
  .seq (.reg [⟨some 13, .load true (some 6) (.tmp 1), none⟩,
   ⟨some 14, .call 46 [(false, (.tmp 13))], none⟩,
   ⟨some 12, .mv (.tmp 14), none⟩,
   ⟨some 15, .extract (.tmp 12) 0, none⟩,
   ⟨some 16, .extract (.tmp 12) 1, none⟩,
   ⟨some 5, .asg (.tmp 15), none⟩,
   ⟨some 6, .asg (.tmp 16), none⟩] none [3, 4, 5, 6]) <|
  .seq (.reg [⟨some 17, .mv (.tmp 3), none⟩,
   ⟨some 18, .cvText (.tmp 17), none⟩,
   ⟨some 19, .mv (.tmp 5), none⟩,
   ⟨some 20, .cvText (.tmp 19), none⟩,
   ⟨some 21, .bin .eql (.tmp 18) (.tmp 20), none⟩,
   ⟨some 22, .mv (.tmp 21), none⟩,
   ⟨some 23, .mv (.tmp 4), some (22, true)⟩,
   ⟨some 24, .mv (.tmp 6), some (22, true)⟩,
   ⟨some 25, .bin .eql (.tmp 23) (.tmp 24), some (22, true)⟩,
   ⟨some 26, .pick (.tmp 22) (.tmp 25) (.con (.bool false)), none⟩,
   ⟨some 2, .asg (.tmp 26), none⟩] none [2]) <|
  .ret⟩
theorem pf29_ok : cFn Try.prog [(13, [true])] [[1], [1, 3, 4], [3, 4, 5, 6], [2]] Try.f29 = some pf29 := by kernel_rfl

-- 30 (*passkey/passkeycast.Deck).Packet calls [25, 24]
def pf30 : PFn :=
  ⟨53, 1, [.cell 2 (some 6)],
  .seq (.reg [⟨some 2, .alloc [(.int .u32 0), (.bool false), (.int .i64 0), (.int .i64 0), (.int .i64 0), .nils], none⟩] none [0, 2]) <|
  .seq (.reg [⟨some 4, .bsl 1 [(.int .u32 0)] 8 [(0, (.con (.int .u32 1))), (1, (.con (.int .u32 2))), (2, (.con (.int .u32 1))), (3, (.con (.int .u32 3))), (4, (.con (.int .u32 0))), (5, (.con (.int .u32 4294967295))), (6, (.con (.int .u32 33))), (7, (.con (.int .u32 1)))], none⟩,
   ⟨some 5, .mv (.tmp 0), none⟩,
   ⟨some 6, .call 25 [(false, (.tmp 5)), (false, (.con (.int .i64 8)))], none⟩,
   ⟨some 7, .iaddrS 1 (.tmp 4) (.tmp 6), none⟩,
   ⟨some 8, .load false none (.tmp 7), none⟩,
   ⟨some 9, .mv (.tmp 0), none⟩,
   ⟨some 10, .call 25 [(false, (.tmp 9)), (false, (.con (.int .i64 2)))], none⟩,
   ⟨some 11, .bin .eql (.tmp 10) (.con (.int .i64 1)), none⟩,
   ⟨some 12, .build [(.int .u32 0), (.bool false), (.int .i64 0), (.int .i64 0), (.int .i64 0), .nils] [(0, 1, (.tmp 8)), (1, 1, (.tmp 11))], none⟩,
   ⟨some 3, .alloc [(.int .u32 0), (.bool false), (.int .i64 0), (.int .i64 0), (.int .i64 0), .nils], none⟩,
   ⟨none, .store 6 (.tmp 3) (.tmp 12), none⟩] (some [0, 0, 2, 7, 15, 0, 38, 102, 255, 0, 1023]) [0, 2, 3]) <|
  .seq (.seq (.reg [⟨some 13, .faddr 1 (.tmp 3), none⟩,
   ⟨some 14, .load false none (.tmp 13), none⟩] none [0, 2, 3, 13, 14]) <|
  .cond (.tmp 14) (.seq (.reg [⟨some 15, .bsl 1 [(.int .i64 0)] 10 [(0, (.con (.int .i64 3))), (1, (.con (.int .i64 1))), (2, (.con (.int .i64 6))), (3, (.con (.int .i64 17))), (4, (.con (.int .i64 63))), (5, (.con (.int .i64 1))), (6, (.con (.int .i64 0))), (7, (.con (.int .i64 127))), (8, (.con (.int .i64 128))), (9, (.con (.int .i64 (-1))))], none⟩,
    ⟨some 16, .mv (.tmp 0), none⟩,
    ⟨some 17, .call 25 [(false, (.tmp 16)), (false, (.con (.int .i64 10)))], none⟩,
    ⟨some 18, .iaddrS 1 (.tmp 15) (.tmp 17), none⟩,
    ⟨some 19, .load false none (.tmp 18), none⟩,
    ⟨some 20, .faddr 2 (.tmp 3), none⟩,
    ⟨none, .store 1 (.tmp 20) (.tmp 19), none⟩] none [0, 2, 3]) <|
   .seq (.reg [⟨some 21, .bsl 1 [(.int .i64 0)] 10 [(0, (.con (.int .i64 0))), (1, (.con (.int .i64 8))), (2, (.con (.int .i64 57))), (3, (.con (.int .i64 58))), (4, (.con (.int .i64 4096))), (5, (.con (.int .i64 4097))), (6, (.con (.int .i64 65535))), (7, (.con (.int .i64 65536))), (8, (.con (.int .i64 (-1)))), (9, (.con (.int .i64 117)))], none⟩,
    ⟨some 22, .mv (.tmp 0), none⟩,
    ⟨some 23, .call 25 [(false, (.tmp 22)), (false, (.con (.int .i64 10)))], none⟩,
    ⟨some 24, .iaddrS 1 (.tmp 21) (.tmp 23), none⟩,
    ⟨some 25, .load false none (.tmp 24), none⟩,
    ⟨some 26, .faddr 3 (.tmp 3), none⟩,
    ⟨none, .store 1 (.tmp 26) (.tmp 25), none⟩] none [0, 2, 3]) <|
   .seq (.reg [⟨some 27, .mv (.tmp 0), none⟩,
    ⟨some 28, .call 25 [(false, (.tmp 27)), (false, (.con (.int .i64 9)))], none⟩,
    ⟨some 29, .bsl 1 [(.int .i64 0)] 5 [(0, (.con (.int .i64 57))), (1, (.con (.int .i64 57))), (2, (.con (.int .i64 8))), (3, (.con (.int .i64 0))), (4, (.con (.int .i64 58)))], none⟩,
    ⟨some 30, .mv (.tmp 0), none⟩,
    ⟨some 31, .call 25 [(false, (.tmp 30)), (false, (.con (.int .i64 5)))], none⟩,
    ⟨some 32, .iaddrS 1 (.tmp 29) (.tmp 31), none⟩,
    ⟨some 33, .load false none (.tmp 32), none⟩,
    ⟨some 34, .call 24 [(false, (.tmp 28)), (false, (.tmp 33))], none⟩,
    ⟨some 35, .faddr 5 (.tmp 3), none⟩,
    ⟨none, .store 1 (.tmp 35) (.tmp 34), none⟩] none [0, 2, 3]) <|
   .seq (.reg [⟨some 36, .load true (some 6) (.tmp 3), none⟩,
    ⟨none, .store 6 (.tmp 2) (.tmp 36), none⟩] none [0, 2]) <|
   .ret) <|
   .skip) <|
  .seq (.reg [⟨some 37, .bsl 1 [(.int .i64 0)] 7 [(0, (.con (.int .i64 0))), (1, (.con (.int .i64 1))), (2, (.con (.int .i64 0))), (3, (.con (.int .i64 2))), (4, (.con (.int .i64 127))), (5, (.con (.int .i64 128))), (6, (.con (.int .i64 (-1))))], none⟩,
   ⟨some 38, .mv (.tmp 0), none⟩,
   ⟨some 39, .call 25 [(false, (.tmp 38)), (false, (.con (.int .i64 7)))], none⟩,
   ⟨some 40, .iaddrS 1 (.tmp 37) (.tmp 39), none⟩,
   ⟨some 41, .load false none (.tmp 40), none⟩,
   ⟨some 42, .faddr 4 (.tmp 3), none⟩,
   ⟨none, .store 1 (.tmp 42) (.tmp 41), none⟩] none [0, 2, 3]) <|
  .seq (.reg [⟨some 43, .mv (.tmp 0), none⟩,
   ⟨some 44, .call 25 [(false, (.tmp 43)), (false, (.con (.int .i64 9)))], none⟩,
   ⟨some 45, .bsl 1 [(.int .i64 0)] 5 [(0, (.con (.int .i64 59))), (1, (.con (.int .i64 59))), (2, (.con (.int .i64 1))), (3, (.con (.int .i64 0))), (4, (.con (.int .i64 60)))], none⟩,
   ⟨some 46, .mv (.tmp 0), none⟩,
   ⟨some 47, .call 25 [(false, (.tmp 46)), (false, (.con (.int .i64 5)))], none⟩,
   ⟨some 48, .iaddrS 1 (.tmp 45) (.tmp 47), none⟩,
   ⟨some 49, .load false none (.tmp 48), none⟩,
   ⟨some 50, .call 24 [(false, (.tmp 44)), (false, (.tmp 49))], none⟩,
   ⟨some 51, .faddr 5 (.tmp 3), none⟩,
   ⟨none, .store 1 (.tmp 51) (.tmp 50), none⟩] none [0, 2, 3]) <|
  .seq (.reg [⟨some 52, .load true (some 6) (.tmp 3), none⟩,
   ⟨none, .store 6 (.tmp 2) (.tmp 52), none⟩] none [0, 2]) <|
  .ret⟩
theorem pf30_ok : cFn Try.prog [(36, [true]), (52, [true])] [[0, 2], [0, 2, 3], [0, 2, 3, 13, 14], [0, 2, 3], [0, 2, 3], [0, 2, 3], [0, 2], [0, 2, 3], [0, 2, 3], [0, 2]] Try.f30 = some pf30 := by kernel_rfl

-- 31 passkey/packet.Encode calls [47]
def pf31 : PFn :=
  ⟨58, 1, [.tmp 2, .tmp 3],
  .seq (.reg [⟨some 1, .box (.tmp 0), none⟩,
   ⟨some 2, .asg (.con .nils), none⟩,
   ⟨some 3, .asg (.con (.int .i64 0)), none⟩] none [1]) <|
  .seq (.seq (.reg [⟨some 6, .load false (some 6) (.tmp 1), none⟩,
   ⟨some 7, .call 47 [(false, (.tmp 6))], none⟩,
   ⟨some 4, .asg (.tmp 7), none⟩] none [1, 4]) <|
  .seq (.reg [⟨some 8, .mv (.tmp 4), none⟩,
   ⟨some 9, .bin .neq (.tmp 8) (.con (.int .i64 0)), none⟩] none [1, 4, 9]) <|
  .cond (.tmp 9) (.seq (.reg [⟨some 10, .mv (.tmp 4), none⟩,
    ⟨some 2, .asg (.con .nils), none⟩,
    ⟨some 3, .asg (.tmp 10), none⟩] none [2, 3]) <|
   .ret) <|
   .skip) <|
  .seq (.reg [⟨some 11, .mkslice 1 1 [(.int .u8 0)] (.con (.int .i64 0)) (.con (.int .i64 64)), none⟩,
   ⟨some 5, .asg (.tmp 11), none⟩] none [1, 5]) <|
  .seq (.reg [⟨some 12, .mv (.tmp 5), none⟩,
   ⟨some 13, .faddr 0 (.tmp 1), none⟩,
   ⟨some 14, .load false none (.tmp 13), none⟩,
   ⟨some 15, .bin .shr (.tmp 14) (.con (.int .u64 24)), none⟩,
   ⟨some 16, .cvInt .u8 (.tmp 15), none⟩,
   ⟨some 17, .faddr 0 (.tmp 1), none⟩,
   ⟨some 18, .load false none (.tmp 17), none⟩,
   ⟨some 19, .bin .shr (.tmp 18) (.con (.int .u64 16)), none⟩,
   ⟨some 20, .cvInt .u8 (.tmp 19), none⟩,
   ⟨some 21, .faddr 0 (.tmp 1), none⟩,
   ⟨some 22, .load false none (.tmp 21), none⟩,
   ⟨some 23, .bin .shr (.tmp 22) (.con (.int .u64 8)), none⟩,
   ⟨some 24, .cvInt .u8 (.tmp 23), none⟩,
   ⟨some 25, .faddr 0 (.tmp 1), none⟩,
   ⟨some 26, .load false none (.tmp 25), none⟩,
   ⟨some 27, .cvInt .u8 (.tmp 26), none⟩,
   ⟨some 28, .bsl 1 [(.int .u8 0)] 4 [(0, (.tmp 16)), (1, (.tmp 20)), (2, (.tmp 24)), (3, (.tmp 27))], none⟩,
   ⟨some 29, .append false 1 1 (.tmp 12) (.tmp 28), none⟩,
   ⟨some 5, .asg (.tmp 29), none⟩] none [1, 5]) <|
  .seq (.seq (.reg [⟨some 30, .faddr 1 (.tmp 1), none⟩,
   ⟨some 31, .load false none (.tmp 30), none⟩] none [1, 5, 30, 31]) <|
  .cond (.tmp 31) (.reg [⟨some 32, .mv (.tmp 5), none⟩,
    ⟨some 33, .faddr 2 (.tmp 1), none⟩,
    ⟨some 34, .load false none (.tmp 33), none⟩,
    ⟨some 35, .bin .add (.con (.int .i64 128)) (.tmp 34), none⟩,
    ⟨some 36, .cvInt .u8 (.tmp 35), none⟩,
    ⟨some 37, .faddr 3 (.tmp 1), none⟩,
    ⟨some 38, .load false none (.tmp 37), none⟩,
    ⟨some 39, .bin .shr (.tmp 38) (.con (.int .u64 8)), none⟩,
    ⟨some 40, .cvInt .u8 (.tmp 39), none⟩,
    ⟨some 41, .faddr 3 (.tmp 1), none⟩,
    ⟨some 42, .load false none (.tmp 41), none⟩,
    ⟨some 43, .cvInt .u8 (.tmp 42), none⟩,
    ⟨some 44, .bsl 1 [(.int .u8 0)] 3 [(0, (.tmp 36)), (1, (.tmp 40)), (2, (.tmp 43))], none⟩,
    ⟨some 45, .append false 1 1 (.tmp 32) (.tmp 44), none⟩,
    ⟨some 5, .asg (.tmp 45), none⟩] none [1, 5]) <|
   .reg [⟨some 46, .mv (.tmp 5), none⟩,
    ⟨some 47, .faddr 4 (.tmp 1), none⟩,
    ⟨some 48, .load false none (.tmp 47), none⟩,
    ⟨some 49, .cvInt .u8 (.tmp 48), none⟩,
    ⟨some 50, .bsl 1 [(.int .u8 0)] 1 [(0, (.tmp 49))], none⟩,
    ⟨some 51, .append false 1 1 (.tmp 46) (.tmp 50), none⟩,
    ⟨some 5, .asg (.tmp 51), none⟩] none [1, 5]) <|
  .seq (.reg [⟨some 52, .mv (.tmp 5), none⟩,
   ⟨some 53, .faddr 5 (.tmp 1), none⟩,
   ⟨some 54, .load false none (.tmp 53), none⟩,
   ⟨some 55, .append false 1 1 (.tmp 52) (.tmp 54), none⟩,
   ⟨some 5, .asg (.tmp 55), none⟩] none [5]) <|
  .seq (.reg [⟨some 56, .mv (.tmp 5), none⟩,
   ⟨some 57, .slice 1 (.tmp 56) none (some (.con (.int .i64 64))), none⟩,
   ⟨some 2, .asg (.tmp 57), none⟩,
   ⟨some 3, .asg (.con (.int .i64 0)), none⟩] none [2, 3]) <|
  .ret⟩
theorem pf31_ok : cFn Try.prog [] [[1], [1, 4], [1, 4, 9], [2, 3], [1, 5], [1, 5], [1, 5, 30, 31], [1, 5], [1, 5], [5], [2, 3]] Try.f31 = some pf31 := by kernel_rfl

-- 32 passkey/packet.Join calls []
def pf32 : PFn :=
  ⟨83, 1, [.tmp 2, .tmp 3, .tmp 4, .tmp 5],
  .seq (.reg [⟨some 2, .asg (.con (.int .i64 0)), none⟩,
   ⟨some 3, .asg (.con .nils), none⟩,
   ⟨some 4, .asg (.con (.int .i64 0)), none⟩,
   ⟨some 5, .asg (.con (.int .i64 0)), none⟩] none [0, 3, 4]) <|
  .seq (.seq (.reg [⟨some 9, .mv (.tmp 0), none⟩,
   ⟨some 10, .len (.tmp 9), none⟩,
   ⟨some 11, .bin .eql (.tmp 10) (.con (.int .i64 0)), none⟩] none [0, 3, 4, 11]) <|
  .cond (.tmp 11) (.seq (.reg [⟨some 2, .asg (.con (.int .i64 0)), none⟩,
    ⟨some 3, .asg (.con .nils), none⟩,
    ⟨some 4, .asg (.con (.int .i64 0)), none⟩,
    ⟨some 5, .asg (.con (.int .i64 1)), none⟩] none [2, 3, 4, 5]) <|
   .ret) <|
   .skip) <|
  .seq (.reg [⟨some 12, .mv (.tmp 0), none⟩,
   ⟨some 13, .iaddrS 6 (.tmp 12) (.con (.int .i64 0)), none⟩,
   ⟨some 14, .load false (some 6) (.tmp 13), none⟩,
   ⟨some 6, .alloc [(.int .u32 0), (.bool false), (.int .i64 0), (.int .i64 0), (.int .i64 0), .nils], none⟩,
   ⟨none, .store 6 (.tmp 6) (.tmp 14), none⟩] none [0, 3, 4, 6]) <|
  .seq (.seq (.reg [⟨some 15, .faddr 1 (.tmp 6), none⟩,
   ⟨some 16, .load false none (.tmp 15), none⟩,
   ⟨some 17, .un .not (.tmp 16), none⟩] none [0, 3, 4, 6, 17]) <|
  .cond (.tmp 17) (.seq (.reg [⟨some 2, .asg (.con (.int .i64 0)), none⟩,
    ⟨some 3, .asg (.con .nils), none⟩,
    ⟨some 4, .asg (.con (.int .i64 0)), none⟩,
    ⟨some 5, .asg (.con (.int .i64 3)), none⟩] none [2, 3, 4, 5]) <|
   .ret) <|
   .skip) <|
  .seq (.seq (.reg [⟨some 18, .faddr 3 (.tmp 6), none⟩,
   ⟨some 19, .load false none (.tmp 18), none⟩,
   ⟨some 20, .bin .lss (.tmp 19) (.con (.int .i64 0)), none⟩,
   ⟨some 21, .mv (.tmp 20), none⟩,
   ⟨some 22, .faddr 3 (.tmp 6), some (21, false)⟩,
   ⟨some 23, .load false none (.tmp 22), some (21, false)⟩,
   ⟨some 24, .bin .gtr (.tmp 23) (.con (.int .i64 4096)), some (21, false)⟩,
   ⟨some 25, .pick (.tmp 21) (.con (.bool true)) (.tmp 24), none⟩] none [0, 3, 4, 6, 25]) <|
  .cond (.tmp 25) (.seq (.reg [⟨some 2, .asg (.con (.int .i64 0)), none⟩,
    ⟨some 3, .asg (.con .nils), none⟩,
    ⟨some 4, .asg (.con (.int .i64 0)), none⟩,
    ⟨some 5, .asg (.con (.int .i64 8)), none⟩] none [2, 3, 4, 5]) <|
   .ret) <|
   .skip) <|
  .seq (.reg [⟨some 26, .faddr 3 (.tmp 6), none⟩,
   ⟨some 27, .load false none (.tmp 26), none⟩,
   ⟨some 28, .minmax false (.tmp 27) [(.con (.int .i64 57))], none⟩,
   ⟨some 7, .asg (.tmp 28), none⟩] none [0, 3, 4, 6, 7]) <|
  .block 0 <|
  .loop [0, 3, 4, 6, 7] <|
  .block 1 <|
  .seq (.seq (.reg [⟨some 29, .mv (.tmp 4), none⟩,
   ⟨some 30, .mv (.tmp 0), none⟩,
   ⟨some 31, .len (.tmp 30), none⟩,
   ⟨some 32, .bin .eql (.tmp 29) (.tmp 31), none⟩] none [0, 3, 4, 6, 7, 32]) <|
  .cond (.tmp 32) (.seq (.reg [⟨some 2, .asg (.con (.int .i64 0)), none⟩,
    ⟨some 3, .asg (.con .nils), none⟩,
    ⟨some 4, .asg (.con (.int .i64 0)), none⟩,
    ⟨some 5, .asg (.con (.int .i64 1)), none⟩] none [2, 3, 4, 5]) <|
   .ret) <|
   .skip) <|
  .seq (.reg [⟨some 33, .mv (.tmp 0), none⟩,
   ⟨some 34, .mv (.tmp 4), none⟩,
   ⟨some 35, .iaddrS 6 (.tmp 33) (.tmp 34), none⟩,
   ⟨some 36, .load false (some 6) (.tmp 35), none⟩,
   ⟨some 8, .alloc [(.int .u32 0), (.bool false), (.int .i64 0), (.int .i64 0), (.int .i64 0), .nils], none⟩,
   ⟨none, .store 6 (.tmp 8) (.tmp 36), none⟩] none [0, 3, 4, 6, 7, 8]) <|
  .seq (.seq (.reg [⟨some 37, .mv (.tmp 4), none⟩,
   ⟨some 38, .bin .gtr (.tmp 37) (.con (.int .i64 0)), none⟩] none [0, 3, 4, 6, 7, 8, 38]) <|
  .cond (.tmp 38) (.seq (.seq (.reg [⟨some 39, .faddr 1 (.tmp 8), none⟩,
    ⟨some 40, .load false none (.tmp 39), none⟩,
    ⟨some 41, .mv (.tmp 40), none⟩,
    ⟨some 42, .faddr 0 (.tmp 8), some (41, false)⟩,
    ⟨some 43, .load false none (.tmp 42), some (41, false)⟩,
    ⟨some 44, .faddr 0 (.tmp 6), some (41, false)⟩,
    ⟨some 45, .load false none (.tmp 44), some (41, false)⟩,
    ⟨some 46, .bin .neq (.tmp 43) (.tmp 45), some (41, false)⟩,
    ⟨some 47, .pick (.tmp 41) (.con (.bool true)) (.tmp 46), none⟩,
    ⟨some 48, .mv (.tmp 47), none⟩,
    ⟨some 49, .faddr 4 (.tmp 8), some (48, false)⟩,
    ⟨some 50, .load false none (.tmp 49), some (48, false)⟩,
    ⟨some 51, .mv (.tmp 4), some (48, false)⟩,
    ⟨some 52, .bin .sub (.tmp 51) (.con (.int .i64 1)), some (48, false)⟩,
    ⟨some 53, .bin .neq (.tmp 50) (.tmp 52), some (48, false)⟩,
    ⟨some 54, .pick (.tmp 48) (.con (.bool true)) (.tmp 53), none⟩] none [0, 3, 4, 6, 8, 54]) <|
   .cond (.tmp 54) (.seq (.reg [⟨some 2, .asg (.con (.int .i64 0)), none⟩,
     ⟨some 3, .asg (.con .nils), none⟩,
     ⟨some 4, .asg (.con (.int .i64 0)), none⟩,
     ⟨some 5, .asg (.con (.int .i64 33)), none⟩] none [2, 3, 4, 5]) <|
    .ret) <|
    .skip) <|
   .reg [⟨some 55, .faddr 3 (.tmp 6), none⟩,
    ⟨some 56, .load false none (.tmp 55), none⟩,
    ⟨some 57, .mv (.tmp 3), none⟩,
    ⟨some 58, .len (.tmp 57), none⟩,
    ⟨some 59, .bin .sub (.tmp 56) (.tmp 58), none⟩,
    ⟨some 60, .minmax false (.tmp 59) [(.con (.int .i64 59))], none⟩,
    ⟨some 7, .asg (.tmp 60), none⟩] none [0, 3, 4, 6, 7, 8]) <|
   .skip) <|
  .seq (.seq (.reg [⟨some 61, .faddr 5 (.tmp 8), none⟩,
   ⟨some 62, .load false none (.tmp 61), none⟩,
   ⟨some 63, .len (.tmp 62), none⟩,
   ⟨some 64, .mv (.tmp 7), none⟩,
   ⟨some 65, .bin .lss (.tmp 63) (.tmp 64), none⟩] none [0, 3, 4, 6, 7, 8, 65]) <|
  .cond (.tmp 65) (.seq (.reg [⟨some 2, .asg (.con (.int .i64 0)), none⟩,
    ⟨some 3, .asg (.con .nils), none⟩,
    ⟨some 4, .asg (.con (.int .i64 0)), none⟩,
    ⟨some 5, .asg (.con (.int .i64 2)), none⟩] none [2, 3, 4, 5]) <|
   .ret) <|
   .skip) <|
  .seq (.reg [⟨some 66, .mv (.tmp 3), none⟩,
   ⟨some 67, .faddr 5 (.tmp 8), none⟩,
   ⟨some 68, .load false none (.tmp 67), none⟩,
   ⟨some 69, .mv (.tmp 7), none⟩,
   ⟨some 70, .slice 1 (.tmp 68) none (some (.tmp 69)), none⟩,
   ⟨some 71, .append false 1 1 (.tmp 66) (.tmp 70), none⟩,
   ⟨some 3, .asg (.tmp 71), none⟩] none [0, 3, 4, 6, 7]) <|
  .seq (.reg [⟨some 72, .mv (.tmp 4), none⟩,
   ⟨some 73, .bin .add (.tmp 72) (.con (.int .i64 1)), none⟩,
   ⟨some 4, .asg (.tmp 73), none⟩] none [0, 3, 4, 6, 7]) <|
  .seq (.reg [⟨some 74, .mv (.tmp 3), none⟩,
   ⟨some 75, .len (.tmp 74), none⟩,
   ⟨some 76, .faddr 3 (.tmp 6), none⟩,
   ⟨some 77, .load false none (.tmp 76), none⟩,
   ⟨some 78, .bin .eql (.tmp 75) (.tmp 77), none⟩] none [0, 3, 4, 6, 7, 78]) <|
  .cond (.tmp 78) (.seq (.reg [⟨some 79, .faddr 2 (.tmp 6), none⟩,
    ⟨some 80, .load false none (.tmp 79), none⟩,
    ⟨some 81, .mv (.tmp 3), none⟩,
    ⟨some 82, .mv (.tmp 4), none⟩,
    ⟨some 2, .asg (.tmp 80), none⟩,
    ⟨some 3, .asg (.tmp 81), none⟩,
    ⟨some 4, .asg (.tmp 82), none⟩,
    ⟨some 5, .asg (.con (.int .i64 0)), none⟩] none [2, 3, 4, 5]) <|
   .ret) <|
   .skip⟩
theorem pf32_ok : cFn Try.prog [] [[0, 3, 4], [0, 3, 4, 11], [2, 3, 4, 5], [0, 3, 4, 6], [0, 3, 4, 6, 17], [2, 3, 4, 5], [0, 3, 4, 6, 25], [2, 3, 4, 5], [0, 3, 4, 6, 7], [0, 3, 4, 6, 7], [0, 3, 4, 6, 7, 32], [2, 3, 4, 5], [0, 3, 4, 6, 7, 8], [0, 3, 4, 6, 7, 8, 38], [0, 3, 4, 6, 8, 54], [2, 3, 4, 5], [0, 3, 4, 6, 7, 8], [0, 3, 4, 6, 7, 8, 65], [2, 3, 4, 5], [0, 3, 4, 6, 7], [0, 3, 4, 6, 7], [0, 3, 4, 6, 7, 78], [2, 3, 4, 5]] Try.f32 = some pf32 := by kernel_rfl

-- 33 passkey/passkeylaw22.initialize calls [34]
def pf33 : PFn :=
  ⟨50, 1, [.cell 2 (some 8), .tmp 3],
  .seq (.reg [⟨some 2, .alloc [(.int .i64 0), (.int .i64 0), (.int .u32 0), (.int .i64 0), (.int .i64 0), .nils, (.int .i64 0), (.int .i64 0)], none⟩,
   ⟨some 3, .asg (.con (.bool false)), none⟩] none [0, 2]) <|
  .seq (.reg [⟨some 4, .alloc [(.int .i64 0), (.int .i64 0), (.int .u32 0), (.int .i64 0), (.int .i64 0), .nils, (.int .i64 0), (.int .i64 0)], none⟩] none [0, 2, 4]) <|
  .seq (.seq (.reg [⟨some 5, .asg (.con (.int .i64 1)), none⟩] none [0, 2, 4, 5]) <|
  .block 0 <|
  .loop [0, 2, 4, 5] <|
  .seq (.seq (.reg [⟨some 8, .mv (.tmp 5), none⟩,
   ⟨some 9, .mv (.tmp 0), none⟩,
   ⟨some 10, .bin .leq (.tmp 8) (.tmp 9), none⟩] none [0, 2, 4, 5, 10]) <|
  .cond (.tmp 10) (.skip) <|
   .exit 0) <|
  .seq (.block 1 <|
  .seq (.reg [⟨some 14, .load false (some 8) (.tmp 4), none⟩,
   ⟨some 15, .mv (.tmp 5), none⟩,
   ⟨some 16, .cvInt .u8 (.tmp 15), none⟩,
   ⟨some 17, .bsl 1 [(.int .u8 0)] 8 [(0, (.con (.int .u8 1))), (1, (.con (.int .u8 2))), (2, (.con (.int .u8 3))), (3, (.con (.int .u8 4))), (4, (.con (.int .u8 5))), (5, (.con (.int .u8 6))), (6, (.con (.int .u8 7))), (7, (.tmp 16))], none⟩,
   ⟨some 18, .build [(.int .u32 0), (.bool false), (.int .i64 0), (.int .i64 0), (.int .i64 0), .nils] [(0, 1, (.con (.int .u32 4294967295))), (1, 1, (.con (.bool true))), (2, 1, (.con (.int .i64 6))), (3, 1, (.con (.int .i64 8))), (5, 1, (.tmp 17))], none⟩,
   ⟨some 19, .call 34 [(false, (.tmp 14)), (false, (.con (.int .i64 0))), (false, (.tmp 18))], none⟩,
   ⟨some 13, .mv (.tmp 19), none⟩,
   ⟨some 20, .extract (.tmp 13) 0, none⟩,
   ⟨some 21, .extract (.tmp 13) 1, none⟩,
   ⟨some 6, .alloc [(.int .i64 0), (.int .i64 0), (.int .u32 0), (.int .i64 0), (.int .i64 0), .nils, (.int .i64 0), (.int .i64 0)], none⟩,
   ⟨some 7, .alloc [.nils, (.bool false), .nils, (.bool false)], none⟩,
   ⟨none, .store 8 (.tmp 6) (.tmp 20), none⟩,
   ⟨none, .store 4 (.tmp 7) (.tmp 21), none⟩] none [0, 2, 4, 5, 6, 7]) <|
  .seq (.seq (.reg [⟨some 22, .faddr 0 (.tmp 7), none⟩,
   ⟨some 23, .load false none (.tmp 22), none⟩,
   ⟨some 24, .len (.tmp 23), none⟩,
   ⟨some 25, .bin .neq (.tmp 24) (.con (.int .i64 1)), none⟩,
   ⟨some 26, .mv (.tmp 25), none⟩,
   ⟨some 27, .faddr 0 (.tmp 7), some (26, false)⟩,
   ⟨some 28, .load false none (.tmp 27), some (26, false)⟩,
   ⟨some 29, .iaddrS 6 (.tmp 28) (.con (.int .i64 0)), some (26, false)⟩,
   ⟨some 30, .faddr 5 (.tmp 29), some (26, false)⟩,
   ⟨some 31, .load false none (.tmp 30), some (26, false)⟩,
   ⟨some 32, .cvText (.tmp 31), some (26, false)⟩,
   ⟨some 33, .mv (.tmp 5), some (26, false)⟩,
   ⟨some 34, .cvInt .u8 (.tmp 33), some (26, false)⟩,
   ⟨some 35, .mv (.tmp 5), some (26, false)⟩,
   ⟨some 36, .cvInt .u8 (.tmp 35), some (26, false)⟩,
   ⟨some 37, .bsl 1 [(.int .u8 0)] 12 [(0, (.con (.int .u8 1))), (1, (.con (.int .u8 2))), (2, (.con (.int .u8 3))), (3, (.con (.int .u8 4))), (4, (.con (.int .u8 5))), (5, (.con (.int .u8 6))), (6, (.con (.int .u8 7))), (7, (.tmp 34)), (8, (.con (.int .u8 0))), (9, (.con (.int .u8 0))), (10, (.con (.int .u8 0))), (11, (.tmp 36))], some (26, false)⟩,
   ⟨some 38, .cvText (.tmp 37), some (26, false)⟩,
   ⟨some 39, .bin .neq (.tmp 32) (.tmp 38), some (26, false)⟩,
   ⟨some 40, .pick (.tmp 26) (.con (.bool true)) (.tmp 39), none⟩,
   ⟨some 41, .mv (.tmp 40), none⟩,
   ⟨some 42, .faddr 0 (.tmp 6), some (41, false)⟩,
   ⟨some 43, .load false none (.tmp 42), some (41, false)⟩,
   ⟨some 44, .mv (.tmp 5), some (41, false)⟩,
   ⟨some 45, .bin .neq (.tmp 43) (.tmp 44), some (41, false)⟩,
   ⟨some 46, .pick (.tmp 41) (.con (.bool true)) (.tmp 45), none⟩] (some [0, 1, 3, 7, 15, 31, 63, 127, 255, 511, 1023, 31, 2079, 31, 8223, 30751, 63519, 131071, 262143, 524287, 1048575, 2097151, 1048575, 8388607, 16777215]) [0, 2, 4, 5, 6, 46]) <|
  .cond (.tmp 46) (.seq (.reg [⟨some 47, .load true (some 8) (.tmp 4), none⟩,
    ⟨none, .store 8 (.tmp 2) (.tmp 47), none⟩,
    ⟨some 3, .asg (.con (.bool false)), none⟩] none [2, 3]) <|
   .ret) <|
   .skip) <|
  .reg [⟨some 48, .load true (some 8) (.tmp 6), none⟩,
   ⟨none, .store 8 (.tmp 4) (.tmp 48), none⟩] none [0, 2, 4, 5]) <|
  .reg [⟨some 11, .mv (.tmp 5), none⟩,
   ⟨some 12, .bin .add (.tmp 11) (.con (.int .i64 1)), none⟩,
   ⟨some 5, .asg (.tmp 12), none⟩] none [0, 2, 4, 5]) <|
  .seq (.reg [⟨some 49, .load true (some 8) (.tmp 4), none⟩,
   ⟨none, .store 8 (.tmp 2) (.tmp 49), none⟩,
   ⟨some 3, .asg (.con (.bool true)), none⟩] none [2, 3]) <|
  .ret⟩
theorem pf33_ok : cFn Try.prog [(47, [true]), (48, [true]), (49, [true])] [[0, 2], [0, 2, 4], [0, 2, 4, 5], [0, 2, 4, 5], [0, 2, 4, 5, 10], [0, 2, 4, 5, 6, 7], [0, 2, 4, 5, 6, 46], [2, 3], [0, 2, 4, 5], [0, 2, 4, 5], [2, 3]] Try.f33 = some pf33 := by kernel_rfl

-- 34 passkey/link.Receive calls [38, 31, 48, 49, 50, 51, 52, 54, 53, 55]
def pf34 : PFn :=
  ⟨178, 3, [.cell 6 (some 8), .cell 7 (some 4)],
  .seq (.reg [⟨some 3, .box (.tmp 0), none⟩,
   ⟨some 5, .box (.tmp 2), none⟩,
   ⟨some 6, .alloc [(.int .i64 0), (.int .i64 0), (.int .u32 0), (.int .i64 0), (.int .i64 0), .nils, (.int .i64 0), (.int .i64 0)], none⟩,
   ⟨some 7, .alloc [.nils, (.bool false), .nils, (.bool false)], none⟩] none [1, 3, 5, 6, 7]) <|
  .seq (.seq (.reg [⟨some 13, .mv (.tmp 1), none⟩,
   ⟨some 14, .bin .lss (.tmp 13) (.con (.int .i64 0)), none⟩,
   ⟨some 15, .mv (.tmp 14), none⟩,
   ⟨some 16, .mv (.tmp 1), some (15, false)⟩,
   ⟨some 17, .bin .gtr (.tmp 16) (.con (.int .i64 1099511627776)), some (15, false)⟩,
   ⟨some 18, .pick (.tmp 15) (.con (.bool true)) (.tmp 17), none⟩] none [1, 3, 5, 6, 7, 18]) <|
  .cond (.tmp 18) (.seq (.reg [⟨some 19, .load true (some 8) (.tmp 3), none⟩,
    ⟨some 20, .build [.nils, (.bool false), .nils, (.bool false)] [], none⟩,
    ⟨none, .store 8 (.tmp 6) (.tmp 19), none⟩,
    ⟨none, .store 4 (.tmp 7) (.tmp 20), none⟩] none [6, 7]) <|
   .ret) <|
   .skip) <|
  .seq (.reg [⟨some 22, .load false (some 8) (.tmp 3), none⟩,
   ⟨some 23, .mv (.tmp 1), none⟩,
   ⟨some 24, .call 38 [(false, (.tmp 22)), (false, (.tmp 23))], none⟩,
   ⟨some 21, .mv (.tmp 24), none⟩,
   ⟨some 25, .extract (.tmp 21) 0, none⟩,
   ⟨some 26, .extract (.tmp 21) 1, none⟩,
   ⟨some 8, .alloc [.nils, (.bool false), .nils, (.bool false)], none⟩,
   ⟨none, .store 8 (.tmp 3) (.tmp 25), none⟩,
   ⟨none, .store 4 (.tmp 8) (.tmp 26), none⟩] none [1, 3, 5, 6, 7, 8]) <|
  .seq (.seq (.reg [⟨some 28, .load false (some 6) (.tmp 5), none⟩,
   ⟨some 29, .call 31 [(false, (.tmp 28))], none⟩,
   ⟨some 27, .mv (.tmp 29), none⟩,
   ⟨some 30, .extract (.tmp 27) 0, none⟩,
   ⟨some 31, .extract (.tmp 27) 1, none⟩,
   ⟨some 9, .asg (.tmp 30), none⟩,
   ⟨some 10, .asg (.tmp 31), none⟩] none [1, 3, 5, 6, 7, 8, 10]) <|
  .seq (.reg [⟨some 32, .mv (.tmp 10), none⟩,
   ⟨some 33, .bin .neq (.tmp 32) (.con (.int .i64 0)), none⟩] none [1, 3, 5, 6, 7, 8, 33]) <|
  .cond (.tmp 33) (.seq (.reg [⟨some 34, .load true (some 8) (.tmp 3), none⟩,
    ⟨some 35, .load true (some 4) (.tmp 8), none⟩,
    ⟨none, .store 8 (.tmp 6) (.tmp 34), none⟩,
    ⟨none, .store 4 (.tmp 7) (.tmp 35), none⟩] (some [0, 0, 1, 7]) [6, 7]) <|
   .ret) <|
   .skip) <|
  .seq (.seq (.reg [⟨some 36, .faddr 1 (.tmp 5), none⟩,
   ⟨some 37, .load false none (.tmp 36), none⟩,
   ⟨some 38, .un .not (.tmp 37), none⟩] none [1, 3, 5, 6, 7, 8, 38]) <|
  .cond (.tmp 38) (.seq (.reg [⟨some 39, .load true (some 8) (.tmp 3), none⟩,
    ⟨some 40, .load true (some 4) (.tmp 8), none⟩,
    ⟨some 41, .mv (.tmp 1), none⟩,
    ⟨some 42, .load true (some 6) (.tmp 5), none⟩,
    ⟨some 43, .call 48 [(false, (.tmp 39)), (true, (.tmp 40)), (false, (.tmp 41)), (false, (.tmp 42))], none⟩,
    ⟨some 44, .extract (.tmp 43) 0, none⟩,
    ⟨some 45, .extract (.tmp 43) 1, none⟩,
    ⟨none, .store 8 (.tmp 6) (.tmp 44), none⟩,
    ⟨none, .store 4 (.tmp 7) (.tmp 45), none⟩] none [6, 7]) <|
   .ret) <|
   .skip) <|
  .seq (.reg [⟨some 46, .load false (some 6) (.tmp 5), none⟩,
   ⟨some 47, .call 49 [(false, (.tmp 46))], none⟩,
   ⟨some 11, .asg (.tmp 47), none⟩] none [1, 3, 5, 6, 7, 8, 11]) <|
  .seq (.seq (.reg [⟨some 48, .faddr 0 (.tmp 5), none⟩,
   ⟨some 49, .load false none (.tmp 48), none⟩,
   ⟨some 50, .bin .eql (.tmp 49) (.con (.int .u32 4294967295)), none⟩] none [1, 3, 5, 6, 7, 8, 11, 50]) <|
  .cond (.tmp 50) (.seq (.reg [⟨some 51, .load true (some 8) (.tmp 3), none⟩,
    ⟨some 52, .load true (some 4) (.tmp 8), none⟩,
    ⟨some 53, .load true (some 6) (.tmp 5), none⟩,
    ⟨some 54, .mv (.tmp 11), none⟩,
    ⟨some 55, .call 50 [(false, (.tmp 51)), (true, (.tmp 52)), (false, (.tmp 53)), (true, (.tmp 54))], none⟩,
    ⟨some 56, .extract (.tmp 55) 0, none⟩,
    ⟨some 57, .extract (.tmp 55) 1, none⟩,
    ⟨none, .store 8 (.tmp 6) (.tmp 56), none⟩,
    ⟨none, .store 4 (.tmp 7) (.tmp 57), none⟩] none [6, 7]) <|
   .ret) <|
   .skip) <|
  .seq (.seq (.reg [⟨some 58, .faddr 0 (.tmp 5), none⟩,
   ⟨some 59, .load false none (.tmp 58), none⟩,
   ⟨some 60, .bin .lss (.tmp 59) (.con (.int .u32 1)), none⟩,
   ⟨some 61, .mv (.tmp 60), none⟩,
   ⟨some 62, .faddr 0 (.tmp 5), some (61, false)⟩,
   ⟨some 63, .load false none (.tmp 62), some (61, false)⟩,
   ⟨some 64, .cvInt .u64 (.tmp 63), some (61, false)⟩,
   ⟨some 65, .faddr 0 (.tmp 3), some (61, false)⟩,
   ⟨some 66, .load false none (.tmp 65), some (61, false)⟩,
   ⟨some 67, .minmax true (.tmp 66) [(.con (.int .i64 0))], some (61, false)⟩,
   ⟨some 68, .cvInt .u64 (.tmp 67), some (61, false)⟩,
   ⟨some 69, .bin .gtr (.tmp 64) (.tmp 68), some (61, false)⟩,
   ⟨some 70, .pick (.tmp 61) (.con (.bool true)) (.tmp 69), none⟩] none [1, 3, 5, 6, 7, 8, 11, 70]) <|
  .cond (.tmp 70) (.seq (.reg [⟨some 71, .faddr 0 (.tmp 8), none⟩,
    ⟨some 72, .load false none (.tmp 71), none⟩,
    ⟨some 73, .faddr 0 (.tmp 5), none⟩,
    ⟨some 74, .load false none (.tmp 73), none⟩,
    ⟨some 75, .call 51 [(false, (.tmp 74)), (false, (.con (.int .i64 11)))], none⟩,
    ⟨some 76, .append false 6 56 (.tmp 72) (.tmp 75), none⟩,
    ⟨some 77, .faddr 0 (.tmp 8), none⟩,
    ⟨none, .store 1 (.tmp 77) (.tmp 76), none⟩] (some [0, 1, 0, 4, 12, 31, 63, 127]) [3, 6, 7, 8]) <|
   .seq (.reg [⟨some 78, .load true (some 8) (.tmp 3), none⟩,
    ⟨some 79, .load true (some 4) (.tmp 8), none⟩,
    ⟨none, .store 8 (.tmp 6) (.tmp 78), none⟩,
    ⟨none, .store 4 (.tmp 7) (.tmp 79), none⟩] (some [0, 0, 1, 7]) [6, 7]) <|
   .ret) <|
   .skip) <|
  .seq (.reg [⟨some 80, .faddr 1 (.tmp 3), none⟩,
   ⟨some 81, .load false none (.tmp 80), none⟩,
   ⟨some 82, .bin .neq (.tmp 81) (.con (.int .i64 0)), none⟩,
   ⟨some 83, .mv (.tmp 82), none⟩,
   ⟨some 84, .faddr 2 (.tmp 3), some (83, true)⟩,
   ⟨some 85, .load false none (.tmp 84), some (83, true)⟩,
   ⟨some 86, .faddr 0 (.tmp 5), some (83, true)⟩,
   ⟨some 87, .load false none (.tmp 86), some (83, true)⟩,
   ⟨some 88, .bin .eql (.tmp 85) (.tmp 87), some (83, true)⟩,
   ⟨some 89, .pick (.tmp 83) (.tmp 88) (.con (.bool false)), none⟩,
   ⟨some 12, .asg (.tmp 89), none⟩] none [1, 3, 5, 6, 7, 8, 11, 12]) <|
  .seq (.seq (.reg [⟨some 90, .faddr 2 (.tmp 5), none⟩,
   ⟨some 91, .load false none (.tmp 90), none⟩,
   ⟨some 92, .bin .eql (.tmp 91) (.con (.int .i64 6)), none⟩] none [1, 3, 5, 6, 7, 8, 11, 12, 92]) <|
  .cond (.tmp 92) (.seq (.seq (.reg [⟨some 93, .faddr 3 (.tmp 5), none⟩,
    ⟨some 94, .load false none (.tmp 93), none⟩,
    ⟨some 95, .bin .neq (.tmp 94) (.con (.int .i64 8)), none⟩] none [3, 5, 6, 7, 8, 11, 12, 95]) <|
   .cond (.tmp 95) (.seq (.reg [⟨some 96, .faddr 0 (.tmp 8), none⟩,
     ⟨some 97, .load false none (.tmp 96), none⟩,
     ⟨some 98, .faddr 0 (.tmp 5), none⟩,
     ⟨some 99, .load false none (.tmp 98), none⟩,
     ⟨some 100, .call 51 [(false, (.tmp 99)), (false, (.con (.int .i64 2)))], none⟩,
     ⟨some 101, .append false 6 56 (.tmp 97) (.tmp 100), none⟩,
     ⟨some 102, .faddr 0 (.tmp 8), none⟩,
     ⟨none, .store 1 (.tmp 102) (.tmp 101), none⟩] (some [0, 1, 0, 4, 12, 31, 63, 127]) [3, 6, 7, 8]) <|
    .seq (.reg [⟨some 103, .load true (some 8) (.tmp 3), none⟩,
     ⟨some 104, .load true (some 4) (.tmp 8), none⟩,
     ⟨none, .store 8 (.tmp 6) (.tmp 103), none⟩,
     ⟨none, .store 4 (.tmp 7) (.tmp 104), none⟩] (some [0, 0, 1, 7]) [6, 7]) <|
    .ret) <|
    .skip) <|
   .seq (.seq (.reg [⟨some 105, .mv (.tmp 12), none⟩] none [3, 5, 6, 7, 8, 11, 12, 105]) <|
   .cond (.tmp 105) (.seq (.reg [⟨some 106, .faddr 1 (.tmp 3), none⟩,
     ⟨some 107, .load false none (.tmp 106), none⟩,
     ⟨some 108, .bin .eql (.tmp 107) (.con (.int .i64 2)), none⟩,
     ⟨some 109, .faddr 3 (.tmp 8), none⟩,
     ⟨none, .store 1 (.tmp 109) (.tmp 108), none⟩] none [3, 5, 6, 7, 8, 11]) <|
    .reg [⟨some 110, .load false (some 8) (.tmp 3), none⟩,
     ⟨some 111, .call 52 [(false, (.tmp 110))], none⟩,
     ⟨none, .store 8 (.tmp 3) (.tmp 111), none⟩] none [3, 5, 6, 7, 8, 11]) <|
    .skip) <|
   .seq (.reg [⟨some 112, .faddr 0 (.tmp 8), none⟩,
    ⟨some 113, .load false none (.tmp 112), none⟩,
    ⟨some 114, .faddr 0 (.tmp 5), none⟩,
    ⟨some 115, .load false none (.tmp 114), none⟩,
    ⟨some 116, .mv (.tmp 11), none⟩,
    ⟨some 117, .slice 1 (.tmp 116) none (some (.con (.int .i64 8))), none⟩,
    ⟨some 118, .faddr 0 (.tmp 5), none⟩,
    ⟨some 119, .load false none (.tmp 118), none⟩,
    ⟨some 120, .call 54 [(false, (.tmp 119))], none⟩,
    ⟨some 121, .append false 1 1 (.tmp 117) (.tmp 120), none⟩,
    ⟨some 122, .call 53 [(false, (.tmp 115)), (false, (.con (.int .i64 6))), (false, (.tmp 121))], none⟩,
    ⟨some 123, .append false 6 56 (.tmp 113) (.tmp 122), none⟩,
    ⟨some 124, .faddr 0 (.tmp 8), none⟩,
    ⟨none, .store 1 (.tmp 124) (.tmp 123), none⟩] (some [0, 1, 0, 4, 0, 16, 0, 64, 192, 496, 1020, 2047, 4095, 8191]) [3, 6, 7, 8]) <|
   .seq (.reg [⟨some 125, .load true (some 8) (.tmp 3), none⟩,
    ⟨some 126, .load true (some 4) (.tmp 8), none⟩,
    ⟨none, .store 8 (.tmp 6) (.tmp 125), none⟩,
    ⟨none, .store 4 (.tmp 7) (.tmp 126), none⟩] (some [0, 0, 1, 7]) [6, 7]) <|
   .ret) <|
   .skip) <|
  .seq (.seq (.reg [⟨some 127, .faddr 2 (.tmp 5), none⟩,
   ⟨some 128, .load false none (.tmp 127), none⟩,
   ⟨some 129, .bin .eql (.tmp 128) (.con (.int .i64 17)), none⟩] none [1, 3, 5, 6, 7, 8, 11, 12, 129]) <|
  .cond (.tmp 129) (.seq (.seq (.reg [⟨some 130, .mv (.tmp 12), none⟩,
    ⟨some 131, .mv (.tmp 130), none⟩,
    ⟨some 132, .faddr 1 (.tmp 3), some (131, true)⟩,
    ⟨some 133, .load false none (.tmp 132), some (131, true)⟩,
    ⟨some 134, .bin .eql (.tmp 133) (.con (.int .i64 1)), some (131, true)⟩,
    ⟨some 135, .pick (.tmp 131) (.tmp 134) (.con (.bool false)), none⟩] none [3, 6, 7, 8, 12, 135]) <|
   .cond (.tmp 135) (.reg [⟨some 136, .load false (some 8) (.tmp 3), none⟩,
     ⟨some 137, .call 52 [(false, (.tmp 136))], none⟩,
     ⟨none, .store 8 (.tmp 3) (.tmp 137), none⟩] none [3, 6, 7, 8]) <|
    .seq (.reg [⟨some 138, .mv (.tmp 12), none⟩] none [3, 6, 7, 8, 12, 138]) <|
    .cond (.tmp 138) (.reg [⟨some 139, .faddr 3 (.tmp 8), none⟩,
      ⟨none, .store 1 (.tmp 139) (.con (.bool true)), none⟩] none [3, 6, 7, 8]) <|
     .skip) <|
   .seq (.reg [⟨some 140, .load true (some 8) (.tmp 3), none⟩,
    ⟨some 141, .load true (some 4) (.tmp 8), none⟩,
    ⟨none, .store 8 (.tmp 6) (.tmp 140), none⟩,
    ⟨none, .store 4 (.tmp 7) (.tmp 141), none⟩] (some [0, 0, 1, 7]) [6, 7]) <|
   .ret) <|
   .skip) <|
  .seq (.seq (.reg [⟨some 142, .faddr 1 (.tmp 3), none⟩,
   ⟨some 143, .load false none (.tmp 142), none⟩,
   ⟨some 144, .bin .neq (.tmp 143) (.con (.int .i64 0)), none⟩] none [1, 3, 5, 6, 7, 8, 11, 12, 144]) <|
  .cond (.tmp 144) (.seq (.seq (.reg [⟨some 145, .mv (.tmp 12), none⟩,
    ⟨some 146, .mv (.tmp 145), none⟩,
    ⟨some 147, .faddr 1 (.tmp 3), some (146, true)⟩,
    ⟨some 148, .load false none (.tmp 147), some (146, true)⟩,
    ⟨some 149, .bin .eql (.tmp 148) (.con (.int .i64 1)), some (146, true)⟩,
    ⟨some 150, .pick (.tmp 146) (.tmp 149) (.con (.bool false)), none⟩] none [3, 5, 6, 7, 8, 150]) <|
   .cond (.tmp 150) (.seq (.reg [⟨some 151, .faddr 0 (.tmp 8), none⟩,
     ⟨some 152, .load false none (.tmp 151), none⟩,
     ⟨some 153, .faddr 0 (.tmp 5), none⟩,
     ⟨some 154, .load false none (.tmp 153), none⟩,
     ⟨some 155, .call 51 [(false, (.tmp 154)), (false, (.con (.int .i64 33)))], none⟩,
     ⟨some 156, .append false 6 56 (.tmp 152) (.tmp 155), none⟩,
     ⟨some 157, .faddr 0 (.tmp 8), none⟩,
     ⟨none, .store 1 (.tmp 157) (.tmp 156), none⟩] (some [0, 1, 0, 4, 12, 31, 63, 127]) [3, 6, 7, 8]) <|
    .seq (.reg [⟨some 158, .load true (some 8) (.tmp 3), none⟩,
     ⟨some 159, .call 52 [(false, (.tmp 158))], none⟩,
     ⟨some 160, .load true (some 4) (.tmp 8), none⟩,
     ⟨none, .store 8 (.tmp 6) (.tmp 159), none⟩,
     ⟨none, .store 4 (.tmp 7) (.tmp 160), none⟩] (some [0, 1, 0, 3, 15]) [6, 7]) <|
    .ret) <|
    .skip) <|
   .seq (.reg [⟨some 161, .faddr 0 (.tmp 8), none⟩,
    ⟨some 162, .load false none (.tmp 161), none⟩,
    ⟨some 163, .faddr 0 (.tmp 5), none⟩,
    ⟨some 164, .load false none (.tmp 163), none⟩,
    ⟨some 165, .call 51 [(false, (.tmp 164)), (false, (.con (.int .i64 32)))], none⟩,
    ⟨some 166, .append false 6 56 (.tmp 162) (.tmp 165), none⟩,
    ⟨some 167, .faddr 0 (.tmp 8), none⟩,
    ⟨none, .store 1 (.tmp 167) (.tmp 166), none⟩] (some [0, 1, 0, 4, 12, 31, 63, 127]) [3, 6, 7, 8]) <|
   .seq (.reg [⟨some 168, .load true (some 8) (.tmp 3), none⟩,
    ⟨some 169, .load true (some 4) (.tmp 8), none⟩,
    ⟨none, .store 8 (.tmp 6) (.tmp 168), none⟩,
    ⟨none, .store 4 (.tmp 7) (.tmp 169), none⟩] (some [0, 0, 1, 7]) [6, 7]) <|
   .ret) <|
   .skip) <|
  .seq (.reg [⟨some 170, .load true (some 8) (.tmp 3), none⟩,
   ⟨some 171, .load true (some 4) (.tmp 8), none⟩,
   ⟨some 172, .mv (.tmp 1), none⟩,
   ⟨some 173, .load true (some 6) (.tmp 5), none⟩,
   ⟨some 174, .mv (.tmp 11), none⟩,
   ⟨some 175, .call 55 [(false, (.tmp 170)), (true, (.tmp 171)), (false, (.tmp 172)), (false, (.tmp 173)), (false, (.tmp 174))], none⟩,
   ⟨some 176, .extract (.tmp 175) 0, none⟩,
   ⟨some 177, .extract (.tmp 175) 1, none⟩,
   ⟨none, .store 8 (.tmp 6) (.tmp 176), none⟩,
   ⟨none, .store 4 (.tmp 7) (.tmp 177), none⟩] none [6, 7]) <|
  .ret⟩
theorem pf34_ok : cFn Try.prog [(19, [true]), (34, [true]), (35, [true]), (39, [true]), (40, [true]), (42, [true]), (43, [false, true, false, false]), (51, [true]), (52, [true]), (53, [true]), (55, [false, true, false, true]), (78, [true]), (79, [true]), (103, [true]), (104, [true]), (125, [true]), (126, [true]), (140, [true]), (141, [true]), (158, [true]), (160, [true]), (168, [true]), (169, [true]), (170, [true]), (171, [true]), (173, [true]), (175, [false, true, false, false, false])] [[1, 3, 5, 6, 7], [1, 3, 5, 6, 7, 18], [6, 7], [1, 3, 5, 6, 7, 8], [1, 3, 5, 6, 7, 8, 10], [1, 3, 5, 6, 7, 8, 33], [6, 7], [1, 3, 5, 6, 7, 8, 38], [6, 7], [1, 3, 5, 6, 7, 8, 11], [1, 3, 5, 6, 7, 8, 11, 50], [6, 7], [1, 3, 5, 6, 7, 8, 11, 70], [3, 6, 7, 8], [6, 7], [1, 3, 5, 6, 7, 8, 11, 12], [1, 3, 5, 6, 7, 8, 11, 12, 92], [3, 5, 6, 7, 8, 11, 12, 95], [3, 6, 7, 8], [6, 7], [3, 5, 6, 7, 8, 11, 12, 105], [3, 5, 6, 7, 8, 11], [3, 5, 6, 7, 8, 11], [3, 6, 7, 8], [6, 7], [1, 3, 5, 6, 7, 8, 11, 12, 129], [3, 6, 7, 8, 12, 135], [3, 6, 7, 8], [3, 6, 7, 8, 12, 138], [3, 6, 7, 8], [6, 7], [1, 3, 5, 6, 7, 8, 11, 12, 144], [3, 5, 6, 7, 8, 150], [3, 6, 7, 8], [6, 7], [3, 6, 7, 8], [6, 7], [6, 7]] Try.f34 = some pf34 := by kernel_rfl

-- 35 passkey/passkeylaw22.awake calls [33, 34, 37]
def pf35 : PFn :=
  ⟨65, 0, [.tmp 0],
  .seq (.reg [⟨some 0, .asg (.con (.bool false)), none⟩] none []) <|
  .seq (.reg [⟨some 9, .call 33 [(false, (.con (.int .i64 1)))], none⟩,
   ⟨some 8, .mv (.tmp 9), none⟩,
   ⟨some 10, .extract (.tmp 8) 0, none⟩,
   ⟨some 11, .extract (.tmp 8) 1, none⟩,
   ⟨some 1, .alloc [(.int .i64 0), (.int .i64 0), (.int .u32 0), (.int .i64 0), (.int .i64 0), .nils, (.int .i64 0), (.int .i64 0)], none⟩,
   ⟨none, .store 8 (.tmp 1) (.tmp 10), none⟩,
   ⟨some 2, .asg (.tmp 11), none⟩] none [1, 2]) <|
  .seq (.seq (.reg [⟨some 12, .mv (.tmp 2), none⟩,
   ⟨some 13, .un .not (.tmp 12), none⟩] none [1, 13]) <|
  .cond (.tmp 13) (.seq (.reg [⟨some 0, .asg (.con (.bool false)), none⟩] none [0]) <|
   .ret) <|
   .skip) <|
  .seq (.reg [⟨some 15, .load true (some 8) (.tmp 1), none⟩,
   ⟨some 16, .bsl 1 [(.int .u8 0)] 2 [(0, (.con (.int .u8 104))), (1, (.con (.int .u8 105)))], none⟩,
   ⟨some 17, .cvSame (.tmp 16), none⟩,
   ⟨some 18, .build [(.int .u32 0), (.bool false), (.int .i64 0), (.int .i64 0), (.int .i64 0), .nils] [(0, 1, (.con (.int .u32 1))), (1, 1, (.con (.bool true))), (2, 1, (.con (.int .i64 3))), (3, 1, (.con (.int .i64 2))), (5, 1, (.tmp 17))], none⟩,
   ⟨some 19, .call 34 [(false, (.tmp 15)), (false, (.con (.int .i64 5))), (false, (.tmp 18))], none⟩,
   ⟨some 14, .mv (.tmp 19), none⟩,
   ⟨some 20, .extract (.tmp 14) 0, none⟩,
   ⟨some 21, .extract (.tmp 14) 1, none⟩,
   ⟨some 3, .alloc [(.int .i64 0), (.int .i64 0), (.int .u32 0), (.int .i64 0), (.int .i64 0), .nils, (.int .i64 0), (.int .i64 0)], none⟩,
   ⟨some 4, .alloc [.nils, (.bool false), .nils, (.bool false)], none⟩,
   ⟨none, .store 8 (.tmp 3) (.tmp 20), none⟩,
   ⟨none, .store 4 (.tmp 4) (.tmp 21), none⟩] none [3, 4]) <|
  .seq (.reg [⟨some 23, .load false (some 8) (.tmp 3), none⟩,
   ⟨some 24, .bsl 1 [(.int .u8 0)] 3 [(0, (.con (.int .u8 121))), (1, (.con (.int .u8 101))), (2, (.con (.int .u8 115)))], none⟩,
   ⟨some 25, .cvSame (.tmp 24), none⟩,
   ⟨some 26, .call 37 [(false, (.tmp 23)), (false, (.tmp 25))], none⟩,
   ⟨some 22, .mv (.tmp 26), none⟩,
   ⟨some 27, .extract (.tmp 22) 0, none⟩,
   ⟨some 28, .extract (.tmp 22) 1, none⟩,
   ⟨some 29, .extract (.tmp 22) 2, none⟩,
   ⟨some 5, .alloc [(.int .i64 0), (.int .i64 0), (.int .u32 0), (.int .i64 0), (.int .i64 0), .nils, (.int .i64 0), (.int .i64 0)], none⟩,
   ⟨none, .store 8 (.tmp 5) (.tmp 27), none⟩,
   ⟨some 6, .asg (.tmp 28), none⟩,
   ⟨some 7, .asg (.tmp 29), none⟩] none [3, 4, 5, 6, 7]) <|
  .seq (.reg [⟨some 30, .faddr 1 (.tmp 4), none⟩,
   ⟨some 31, .load false none (.tmp 30), none⟩,
   ⟨some 32, .mv (.tmp 31), none⟩,
   ⟨some 33, .faddr 2 (.tmp 4), some (32, true)⟩,
   ⟨some 34, .load false none (.tmp 33), some (32, true)⟩,
   ⟨some 35, .cvText (.tmp 34), some (32, true)⟩,
   ⟨some 36, .bin .eql (.tmp 35) (.con (.str ⟨#[104, 105]⟩)), some (32, true)⟩,
   ⟨some 37, .pick (.tmp 32) (.tmp 36) (.con (.bool false)), none⟩,
   ⟨some 38, .mv (.tmp 37), none⟩,
   ⟨some 39, .faddr 1 (.tmp 3), some (38, true)⟩,
   ⟨some 40, .load false none (.tmp 39), some (38, true)⟩,
   ⟨some 41, .bin .eql (.tmp 40) (.con (.int .i64 2)), some (38, true)⟩,
   ⟨some 42, .pick (.tmp 38) (.tmp 41) (.con (.bool false)), none⟩,
   ⟨some 43, .mv (.tmp 42), none⟩,
   ⟨some 44, .mv (.tmp 7), some (43, true)⟩,
   ⟨some 45, .bin .eql (.tmp 44) (.con (.int .i64 0)), some (43, true)⟩,
   ⟨some 46, .pick (.tmp 43) (.tmp 45) (.con (.bool false)), none⟩,
   ⟨some 47, .mv (.tmp 46), none⟩,
   ⟨some 48, .faddr 1 (.tmp 5), some (47, true)⟩,
   ⟨some 49, .load false none (.tmp 48), some (47, true)⟩,
   ⟨some 50, .bin .eql (.tmp 49) (.con (.int .i64 0)), some (47, true)⟩,
   ⟨some 51, .pick (.tmp 47) (.tmp 50) (.con (.bool false)), none⟩,
   ⟨some 52, .mv (.tmp 51), none⟩,
   ⟨some 53, .mv (.tmp 6), some (52, true)⟩,
   ⟨some 54, .len (.tmp 53), some (52, true)⟩,
   ⟨some 55, .bin .eql (.tmp 54) (.con (.int .i64 1)), some (52, true)⟩,
   ⟨some 56, .pick (.tmp 52) (.tmp 55) (.con (.bool false)), none⟩,
   ⟨some 57, .mv (.tmp 56), none⟩,
   ⟨some 58, .mv (.tmp 6), some (57, true)⟩,
   ⟨some 59, .iaddrS 6 (.tmp 58) (.con (.int .i64 0)), some (57, true)⟩,
   ⟨some 60, .faddr 5 (.tmp 59), some (57, true)⟩,
   ⟨some 61, .load false none (.tmp 60), some (57, true)⟩,
   ⟨some 62, .cvText (.tmp 61), some (57, true)⟩,
   ⟨some 63, .bin .eql (.tmp 62) (.con (.str ⟨#[121, 101, 115]⟩)), some (57, true)⟩,
   ⟨some 64, .pick (.tmp 57) (.tmp 63) (.con (.bool false)), none⟩,
   ⟨some 0, .asg (.tmp 64), none⟩] none [0]) <|
  .ret⟩
theorem pf35_ok : cFn Try.prog [(15, [true])] [[], [1, 2], [1, 13], [0], [3, 4], [3, 4, 5, 6, 7], [0]] Try.f35 = some pf35 := by kernel_rfl

-- 36 (*passkey/passkeycast.Deck).Left calls []
def pf36 : PFn :=
  ⟨13, 1, [.tmp 2],
  .seq (.reg [⟨some 2, .asg (.con (.bool false)), none⟩] none [0]) <|
  .seq (.reg [⟨some 3, .mv (.tmp 0), none⟩,
   ⟨some 4, .nilck (.tmp 3), none⟩,
   ⟨some 5, .faddr 1 (.tmp 4), none⟩,
   ⟨some 6, .load false none (.tmp 5), none⟩,
   ⟨some 7, .mv (.tmp 0), none⟩,
   ⟨some 8, .nilck (.tmp 7), none⟩,
   ⟨some 9, .faddr 0 (.tmp 8), none⟩,
   ⟨some 10, .load false none (.tmp 9), none⟩,
   ⟨some 11, .len (.tmp 10), none⟩,
   ⟨some 12, .bin .lss (.tmp 6) (.tmp 11), none⟩,
   ⟨some 2, .asg (.tmp 12), none⟩] (some [0, 1, 3, 7, 0, 16, 48, 112, 240, 511, 1023]) [0, 2]) <|
  .ret⟩
theorem pf36_ok : cFn Try.prog [] [[0], [0, 2]] Try.f36 = some pf36 := by kernel_rfl

-- 37 passkey/link.Answer calls [52, 53]
def pf37 : PFn :=
  ⟨21, 2, [.cell 4 (some 8), .tmp 5, .tmp 6],
  .seq (.reg [⟨some 2, .box (.tmp 0), none⟩,
   ⟨some 4, .alloc [(.int .i64 0), (.int .i64 0), (.int .u32 0), (.int .i64 0), (.int .i64 0), .nils, (.int .i64 0), (.int .i64 0)], none⟩,
   ⟨some 5, .asg (.con .nils), none⟩,
   ⟨some 6, .asg (.con (.int .i64 0)), none⟩] none [1, 2, 4]) <|
  .seq (.seq (.reg [⟨some 7, .faddr 1 (.tmp 2), none⟩,
   ⟨some 8, .load false none (.tmp 7), none⟩,
   ⟨some 9, .bin .neq (.tmp 8) (.con (.int .i64 2)), none⟩] none [1, 2, 4, 9]) <|
  .cond (.tmp 9) (.seq (.reg [⟨some 10, .load true (some 8) (.tmp 2), none⟩,
    ⟨none, .store 8 (.tmp 4) (.tmp 10), none⟩,
    ⟨some 5, .asg (.con .nils), none⟩,
    ⟨some 6, .asg (.con (.int .i64 18)), none⟩] none [4, 5, 6]) <|
   .ret) <|
   .skip) <|
  .seq (.seq (.reg [⟨some 11, .mv (.tmp 1), none⟩,
   ⟨some 12, .len (.tmp 11), none⟩,
   ⟨some 13, .bin .gtr (.tmp 12) (.con (.int .i64 4096)), none⟩] none [1, 2, 4, 13]) <|
  .cond (.tmp 13) (.seq (.reg [⟨some 14, .load true (some 8) (.tmp 2), none⟩,
    ⟨none, .store 8 (.tmp 4) (.tmp 14), none⟩,
    ⟨some 5, .asg (.con .nils), none⟩,
    ⟨some 6, .asg (.con (.int .i64 8)), none⟩] none [4, 5, 6]) <|
   .ret) <|
   .skip) <|
  .seq (.reg [⟨some 15, .load false (some 8) (.tmp 2), none⟩,
   ⟨some 16, .call 52 [(false, (.tmp 15))], none⟩,
   ⟨some 17, .faddr 2 (.tmp 2), none⟩,
   ⟨some 18, .load false none (.tmp 17), none⟩,
   ⟨some 19, .mv (.tmp 1), none⟩,
   ⟨some 20, .call 53 [(false, (.tmp 18)), (false, (.con (.int .i64 3))), (false, (.tmp 19))], none⟩,
   ⟨none, .store 8 (.tmp 4) (.tmp 16), none⟩,
   ⟨some 5, .asg (.tmp 20), none⟩,
   ⟨some 6, .asg (.con (.int .i64 0)), none⟩] (some [0, 1, 0, 4, 0, 31, 63, 127, 255]) [4, 5, 6]) <|
  .ret⟩
theorem pf37_ok : cFn Try.prog [(10, [true]), (14, [true])] [[1, 2, 4], [1, 2, 4, 9], [4, 5, 6], [1, 2, 4, 13], [4, 5, 6], [4, 5, 6]] Try.f37 = some pf37 := by kernel_rfl

-- 38 passkey/link.Tick calls [52, 51]
def pf38 : PFn :=
  ⟨32, 2, [.cell 4 (some 8), .cell 5 (some 4)],
  .seq (.reg [⟨some 2, .box (.tmp 0), none⟩,
   ⟨some 4, .alloc [(.int .i64 0), (.int .i64 0), (.int .u32 0), (.int .i64 0), (.int .i64 0), .nils, (.int .i64 0), (.int .i64 0)], none⟩,
   ⟨some 5, .alloc [.nils, (.bool false), .nils, (.bool false)], none⟩] none [1, 2, 4, 5]) <|
  .seq (.seq (.reg [⟨some 6, .mv (.tmp 1), none⟩,
   ⟨some 7, .bin .lss (.tmp 6) (.con (.int .i64 0)), none⟩,
   ⟨some 8, .mv (.tmp 7), none⟩,
   ⟨some 9, .mv (.tmp 1), some (8, false)⟩,
   ⟨some 10, .bin .gtr (.tmp 9) (.con (.int .i64 1099511627776)), some (8, false)⟩,
   ⟨some 11, .pick (.tmp 8) (.con (.bool true)) (.tmp 10), none⟩,
   ⟨some 12, .mv (.tmp 11), none⟩,
   ⟨some 13, .faddr 1 (.tmp 2), some (12, false)⟩,
   ⟨some 14, .load false none (.tmp 13), some (12, false)⟩,
   ⟨some 15, .bin .neq (.tmp 14) (.con (.int .i64 1)), some (12, false)⟩,
   ⟨some 16, .pick (.tmp 12) (.con (.bool true)) (.tmp 15), none⟩,
   ⟨some 17, .mv (.tmp 16), none⟩,
   ⟨some 18, .mv (.tmp 1), some (17, false)⟩,
   ⟨some 19, .bin .sub (.tmp 18) (.con (.int .i64 20)), some (17, false)⟩,
   ⟨some 20, .faddr 7 (.tmp 2), some (17, false)⟩,
   ⟨some 21, .load false none (.tmp 20), some (17, false)⟩,
   ⟨some 22, .bin .leq (.tmp 19) (.tmp 21), some (17, false)⟩,
   ⟨some 23, .pick (.tmp 17) (.con (.bool true)) (.tmp 22), none⟩] none [2, 4, 5, 23]) <|
  .cond (.tmp 23) (.seq (.reg [⟨some 24, .load true (some 8) (.tmp 2), none⟩,
    ⟨some 25, .build [.nils, (.bool false), .nils, (.bool false)] [], none⟩,
    ⟨none, .store 8 (.tmp 4) (.tmp 24), none⟩,
    ⟨none, .store 4 (.tmp 5) (.tmp 25), none⟩] none [4, 5]) <|
   .ret) <|
   .skip) <|
  .seq (.reg [⟨some 26, .load false (some 8) (.tmp 2), none⟩,
   ⟨some 27, .call 52 [(false, (.tmp 26))], none⟩,
   ⟨some 28, .faddr 2 (.tmp 2), none⟩,
   ⟨some 29, .load false none (.tmp 28), none⟩,
   ⟨some 30, .call 51 [(false, (.tmp 29)), (false, (.con (.int .i64 19)))], none⟩,
   ⟨some 31, .build [.nils, (.bool false), .nils, (.bool false)] [(0, 1, (.tmp 30))], none⟩,
   ⟨none, .store 8 (.tmp 4) (.tmp 27), none⟩,
   ⟨none, .store 4 (.tmp 5) (.tmp 31), none⟩] (some [0, 1, 0, 4, 15, 31, 31, 127]) [4, 5]) <|
  .ret⟩
theorem pf38_ok : cFn Try.prog [(24, [true])] [[1, 2, 4, 5], [2, 4, 5, 23], [4, 5], [4, 5]] Try.f38 = some pf38 := by kernel_rfl

-- 39 passkey/passkeyref21.SameLink calls []
def pf39 : PFn :=
  ⟨61, 2, [.tmp 4],
  .seq (.reg [⟨some 2, .box (.tmp 0), none⟩,
   ⟨some 3, .box (.tmp 1), none⟩,
   ⟨some 4, .asg (.con (.bool false)), none⟩] none [2, 3]) <|
  .seq (.reg [⟨some 5, .faddr 0 (.tmp 2), none⟩,
   ⟨some 6, .load false none (.tmp 5), none⟩,
   ⟨some 7, .faddr 0 (.tmp 3), none⟩,
   ⟨some 8, .load false none (.tmp 7), none⟩,
   ⟨some 9, .bin .eql (.tmp 6) (.tmp 8), none⟩,
   ⟨some 10, .mv (.tmp 9), none⟩,
   ⟨some 11, .faddr 1 (.tmp 2), some (10, true)⟩,
   ⟨some 12, .load false none (.tmp 11), some (10, true)⟩,
   ⟨some 13, .faddr 1 (.tmp 3), some (10, true)⟩,
   ⟨some 14, .load false none (.tmp 13), some (10, true)⟩,
   ⟨some 15, .bin .eql (.tmp 12) (.tmp 14), some (10, true)⟩,
   ⟨some 16, .pick (.tmp 10) (.tmp 15) (.con (.bool false)), none⟩,
   ⟨some 17, .mv (.tmp 16), none⟩,
   ⟨some 18, .faddr 2 (.tmp 2), some (17, true)⟩,
   ⟨some 19, .load false none (.tmp 18), some (17, true)⟩,
   ⟨some 20, .faddr 2 (.tmp 3), some (17, true)⟩,
   ⟨some 21, .load false none (.tmp 20), some (17, true)⟩,
   ⟨some 22, .bin .eql (.tmp 19) (.tmp 21), some (17, true)⟩,
   ⟨some 23, .pick (.tmp 17) (.tmp 22) (.con (.bool false)), none⟩,
   ⟨some 24, .mv (.tmp 23), none⟩,
   ⟨some 25, .faddr 3 (.tmp 2), some (24, true)⟩,
   ⟨some 26, .load false none (.tmp 25), some (24, true)⟩,
   ⟨some 27, .faddr 3 (.tmp 3), some (24, true)⟩,
   ⟨some 28, .load false none (.tmp 27), some (24, true)⟩,
   ⟨some 29, .bin .eql (.tmp 26) (.tmp 28), some (24, true)⟩,
   ⟨some 30, .pick (.tmp 24) (.tmp 29) (.con (.bool false)), none⟩,
   ⟨some 31, .mv (.tmp 30), none⟩,
   ⟨some 32, .faddr 4 (.tmp 2), some (31, true)⟩,
   ⟨some 33, .load false none (.tmp 32), some (31, true)⟩,
   ⟨some 34, .faddr 4 (.tmp 3), some (31, true)⟩,
   ⟨some 35, .load false none (.tmp 34), some (31, true)⟩,
   ⟨some 36, .bin .eql (.tmp 33) (.tmp 35), some (31, true)⟩,
   ⟨some 37, .pick (.tmp 31) (.tmp 36) (.con (.bool false)), none⟩,
   ⟨some 38, .mv (.tmp 37), none⟩,
   ⟨some 39, .faddr 5 (.tmp 2), some (38, true)⟩,
   ⟨some 40, .load false none (.tmp 39), some (38, true)⟩,
   ⟨some 41, .cvText (.tmp 40), some (38, true)⟩,
   ⟨some 42, .faddr 5 (.tmp 3), some (38, true)⟩,
   ⟨some 43, .load false none (.tmp 42), some (38, true)⟩,
   ⟨some 44, .cvText (.tmp 43), some (38, true)⟩,
   ⟨some 45, .bin .eql (.tmp 41) (.tmp 44), some (38, true)⟩,
   ⟨some 46, .pick (.tmp 38) (.tmp 45) (.con (.bool false)), none⟩,
   ⟨some 47, .mv (.tmp 46), none⟩,
   ⟨some 48, .faddr 6 (.tmp 2), some (47, true)⟩,
   ⟨some 49, .load false none (.tmp 48), some (47, true)⟩,
   ⟨some 50, .faddr 6 (.tmp 3), some (47, true)⟩,
   ⟨some 51, .load false none (.tmp 50), some (47, true)⟩,
   ⟨some 52, .bin .eql (.tmp 49) (.tmp 51), some (47, true)⟩,
   ⟨some 53, .pick (.tmp 47) (.tmp 52) (.con (.bool false)), none⟩,
   ⟨some 54, .mv (.tmp 53), none⟩,
   ⟨some 55, .faddr 7 (.tmp 2), some (54, true)⟩,
   ⟨some 56, .load false none (.tmp 55), some (54, true)⟩,
   ⟨some 57, .faddr 7 (.tmp 3), some (54, true)⟩,
   ⟨some 58, .load false none (.tmp 57), some (54, true)⟩,
   ⟨some 59, .bin .eql (.tmp 56) (.tmp 58), some (54, true)⟩,
   ⟨some 60, .pick (.tmp 54) (.tmp 59) (.con (.bool false)), none⟩,
   ⟨some 4, .asg (.tmp 60), none⟩] none [4]) <|
  .ret⟩
theorem pf39_ok : cFn Try.prog [] [[2, 3], [4]] Try.f39 = some pf39 := by kernel_rfl

-- 40 passkey/link.Await calls []
def pf40 : PFn :=
  ⟨5, 1, [.cell 2 (some 5)],
  .seq (.reg [⟨some 2, .alloc [(.int .u32 0), (.int .i64 0), (.int .i64 0), .nils, (.int .i64 0)], none⟩] none [0, 2]) <|
  .seq (.reg [⟨some 3, .mv (.tmp 0), none⟩,
   ⟨some 4, .build [(.int .u32 0), (.int .i64 0), (.int .i64 0), .nils, (.int .i64 0)] [(0, 1, (.tmp 3)), (2, 1, (.con (.int .i64 (-1))))], none⟩,
   ⟨none, .store 5 (.tmp 2) (.tmp 4), none⟩] none [2]) <|
  .ret⟩
theorem pf40_ok : cFn Try.prog [] [[0, 2], [2]] Try.f40 = some pf40 := by kernel_rfl

-- 41 passkey/passkeyref21.Await calls []
def pf41 : PFn :=
  ⟨5, 1, [.cell 2 (some 5)],
  .seq (.reg [⟨some 2, .alloc [(.int .u32 0), (.int .i64 0), (.int .i64 0), .nils, (.int .i64 0)], none⟩] none [0, 2]) <|
  .seq (.reg [⟨some 3, .mv (.tmp 0), none⟩,
   ⟨some 4, .build [(.int .u32 0), (.int .i64 0), (.int .i64 0), .nils, (.int .i64 0)] [(0, 1, (.tmp 3)), (2, 1, (.con (.int .i64 (-1))))], none⟩,
   ⟨none, .store 5 (.tmp 2) (.tmp 4), none⟩] none [2]) <|
  .ret⟩
theorem pf41_ok : cFn Try.prog [] [[0, 2], [2]] Try.f41 = some pf41 := by kernel_rfl

-- 42 passkey/link.Accept calls [31, 49, 40]
def pf42 : PFn :=
  ⟨103, 2, [.cell 4 (some 5), .tmp 5, .tmp 6, .tmp 7],
  .seq (.reg [⟨some 2, .box (.tmp 0), none⟩,
   ⟨some 3, .box (.tmp 1), none⟩,
   ⟨some 4, .alloc [(.int .u32 0), (.int .i64 0), (.int .i64 0), .nils, (.int .i64 0)], none⟩,
   ⟨some 5, .asg (.con (.int .i64 0)), none⟩,
   ⟨some 6, .asg (.con .nils), none⟩,
   ⟨some 7, .asg (.con (.bool false)), none⟩] none [2, 3, 4]) <|
  .seq (.seq (.reg [⟨some 12, .load false (some 6) (.tmp 3), none⟩,
   ⟨some 13, .call 31 [(false, (.tmp 12))], none⟩,
   ⟨some 11, .mv (.tmp 13), none⟩,
   ⟨some 14, .extract (.tmp 11) 0, none⟩,
   ⟨some 15, .extract (.tmp 11) 1, none⟩,
   ⟨some 8, .asg (.tmp 14), none⟩,
   ⟨some 9, .asg (.tmp 15), none⟩] none [2, 3, 4, 9]) <|
  .seq (.reg [⟨some 16, .mv (.tmp 9), none⟩,
   ⟨some 17, .bin .neq (.tmp 16) (.con (.int .i64 0)), none⟩,
   ⟨some 18, .mv (.tmp 17), none⟩,
   ⟨some 19, .faddr 0 (.tmp 3), some (18, false)⟩,
   ⟨some 20, .load false none (.tmp 19), some (18, false)⟩,
   ⟨some 21, .faddr 0 (.tmp 2), some (18, false)⟩,
   ⟨some 22, .load false none (.tmp 21), some (18, false)⟩,
   ⟨some 23, .bin .neq (.tmp 20) (.tmp 22), some (18, false)⟩,
   ⟨some 24, .pick (.tmp 18) (.con (.bool true)) (.tmp 23), none⟩] none [2, 3, 4, 24]) <|
  .cond (.tmp 24) (.seq (.reg [⟨some 25, .load true (some 5) (.tmp 2), none⟩,
    ⟨none, .store 5 (.tmp 4) (.tmp 25), none⟩,
    ⟨some 5, .asg (.con (.int .i64 0)), none⟩,
    ⟨some 6, .asg (.con .nils), none⟩,
    ⟨some 7, .asg (.con (.bool false)), none⟩] none [4, 5, 6, 7]) <|
   .ret) <|
   .skip) <|
  .seq (.block 0 <|
  .seq (.seq (.reg [⟨some 48, .faddr 1 (.tmp 3), none⟩,
   ⟨some 49, .load false none (.tmp 48), none⟩,
   ⟨some 50, .mv (.tmp 49), none⟩,
   ⟨some 51, .faddr 3 (.tmp 3), some (50, true)⟩,
   ⟨some 52, .load false none (.tmp 51), some (50, true)⟩,
   ⟨some 53, .bin .gtr (.tmp 52) (.con (.int .i64 4096)), some (50, true)⟩,
   ⟨some 54, .pick (.tmp 50) (.tmp 53) (.con (.bool false)), none⟩,
   ⟨some 47, .asg (.tmp 54), none⟩] none [2, 3, 4, 47]) <|
  .cond (.tmp 47) (.skip) <|
   .reg [⟨some 55, .faddr 1 (.tmp 3), none⟩,
    ⟨some 56, .load false none (.tmp 55), none⟩,
    ⟨some 57, .un .not (.tmp 56), none⟩,
    ⟨some 58, .mv (.tmp 57), none⟩,
    ⟨some 59, .faddr 2 (.tmp 2), some (58, true)⟩,
    ⟨some 60, .load false none (.tmp 59), some (58, true)⟩,
    ⟨some 61, .bin .lss (.tmp 60) (.con (.int .i64 0)), some (58, true)⟩,
    ⟨some 62, .pick (.tmp 58) (.tmp 61) (.con (.bool false)), none⟩,
    ⟨some 47, .asg (.tmp 62), none⟩] none [2, 3, 4, 47]) <|
  .cond (.tmp 47) (.seq (.reg [⟨some 63, .load true (some 5) (.tmp 2), none⟩,
    ⟨none, .store 5 (.tmp 4) (.tmp 63), none⟩,
    ⟨some 5, .asg (.con (.int .i64 0)), none⟩,
    ⟨some 6, .asg (.con .nils), none⟩,
    ⟨some 7, .asg (.con (.bool false)), none⟩] none [4, 5, 6, 7]) <|
   .ret) <|
   .seq (.reg [⟨some 65, .faddr 1 (.tmp 3), none⟩,
    ⟨some 66, .load false none (.tmp 65), none⟩,
    ⟨some 64, .asg (.tmp 66), none⟩] none [2, 3, 4, 64]) <|
   .cond (.tmp 64) (.reg [⟨some 67, .faddr 0 (.tmp 2), none⟩,
     ⟨some 68, .load false none (.tmp 67), none⟩,
     ⟨some 69, .faddr 2 (.tmp 3), none⟩,
     ⟨some 70, .load false none (.tmp 69), none⟩,
     ⟨some 71, .faddr 3 (.tmp 3), none⟩,
     ⟨some 72, .load false none (.tmp 71), none⟩,
     ⟨some 73, .load false (some 6) (.tmp 3), none⟩,
     ⟨some 74, .call 49 [(false, (.tmp 73))], none⟩,
     ⟨some 75, .faddr 3 (.tmp 3), none⟩,
     ⟨some 76, .load false none (.tmp 75), none⟩,
     ⟨some 77, .minmax false (.tmp 76) [(.con (.int .i64 57))], none⟩,
     ⟨some 78, .slice 1 (.tmp 74) none (some (.tmp 77)), none⟩,
     ⟨some 79, .build [(.int .u32 0), (.int .i64 0), (.int .i64 0), .nils, (.int .i64 0)] [(0, 1, (.tmp 68)), (1, 1, (.tmp 70)), (2, 1, (.tmp 72)), (3, 1, (.tmp 78))], none⟩,
     ⟨none, .store 5 (.tmp 2) (.tmp 79), none⟩] (some [0, 1, 0, 4, 0, 16, 0, 64, 0, 256, 768, 1984, 4095, 8191]) [2, 4]) <|
    .seq (.reg [⟨some 81, .faddr 4 (.tmp 3), none⟩,
     ⟨some 82, .load false none (.tmp 81), none⟩,
     ⟨some 83, .faddr 4 (.tmp 2), none⟩,
     ⟨some 84, .load false none (.tmp 83), none⟩,
     ⟨some 85, .bin .neq (.tmp 82) (.tmp 84), none⟩,
     ⟨some 80, .asg (.tmp 85), none⟩] none [2, 3, 4, 80]) <|
    .cond (.tmp 80) (.seq (.reg [⟨some 86, .faddr 0 (.tmp 2), none⟩,
      ⟨some 87, .load false none (.tmp 86), none⟩,
      ⟨some 88, .call 40 [(false, (.tmp 87))], none⟩,
      ⟨none, .store 5 (.tmp 4) (.tmp 88), none⟩,
      ⟨some 5, .asg (.con (.int .i64 0)), none⟩,
      ⟨some 6, .asg (.con .nils), none⟩,
      ⟨some 7, .asg (.con (.bool false)), none⟩] none [4, 5, 6, 7]) <|
     .ret) <|
     .seq (.reg [⟨some 26, .faddr 2 (.tmp 2), none⟩,
      ⟨some 27, .load false none (.tmp 26), none⟩,
      ⟨some 28, .faddr 3 (.tmp 2), none⟩,
      ⟨some 29, .load false none (.tmp 28), none⟩,
      ⟨some 30, .len (.tmp 29), none⟩,
      ⟨some 31, .bin .sub (.tmp 27) (.tmp 30), none⟩,
      ⟨some 32, .minmax true (.tmp 31) [(.con (.int .i64 0))], none⟩,
      ⟨some 33, .minmax false (.tmp 32) [(.con (.int .i64 59))], none⟩,
      ⟨some 10, .asg (.tmp 33), none⟩] none [2, 3, 4, 10]) <|
     .seq (.reg [⟨some 34, .faddr 3 (.tmp 2), none⟩,
      ⟨some 35, .load false none (.tmp 34), none⟩,
      ⟨some 36, .append false 1 1 (.con .nils) (.tmp 35), none⟩,
      ⟨some 37, .load true (some 6) (.tmp 3), none⟩,
      ⟨some 38, .call 49 [(false, (.tmp 37))], none⟩,
      ⟨some 39, .mv (.tmp 10), none⟩,
      ⟨some 40, .slice 1 (.tmp 38) none (some (.tmp 39)), none⟩,
      ⟨some 41, .append false 1 1 (.tmp 36) (.tmp 40), none⟩,
      ⟨some 42, .faddr 3 (.tmp 2), none⟩,
      ⟨none, .store 1 (.tmp 42) (.tmp 41), none⟩] (some [0, 1, 3, 0, 15, 0, 63, 127, 255, 511]) [2, 4]) <|
     .reg [⟨some 43, .faddr 4 (.tmp 2), none⟩,
      ⟨some 44, .load false none (.tmp 43), none⟩,
      ⟨some 45, .bin .add (.tmp 44) (.con (.int .i64 1)), none⟩,
      ⟨some 46, .faddr 4 (.tmp 2), none⟩,
      ⟨none, .store 1 (.tmp 46) (.tmp 45), none⟩] none [2, 4]) <|
  .seq (.seq (.reg [⟨some 89, .faddr 3 (.tmp 2), none⟩,
   ⟨some 90, .load false none (.tmp 89), none⟩,
   ⟨some 91, .len (.tmp 90), none⟩,
   ⟨some 92, .faddr 2 (.tmp 2), none⟩,
   ⟨some 93, .load false none (.tmp 92), none⟩,
   ⟨some 94, .bin .lss (.tmp 91) (.tmp 93), none⟩] none [2, 4, 94]) <|
  .cond (.tmp 94) (.seq (.reg [⟨some 95, .load true (some 5) (.tmp 2), none⟩,
    ⟨none, .store 5 (.tmp 4) (.tmp 95), none⟩,
    ⟨some 5, .asg (.con (.int .i64 0)), none⟩,
    ⟨some 6, .asg (.con .nils), none⟩,
    ⟨some 7, .asg (.con (.bool false)), none⟩] none [4, 5, 6, 7]) <|
   .ret) <|
   .skip) <|
  .seq (.reg [⟨some 96, .faddr 0 (.tmp 2), none⟩,
   ⟨some 97, .load false none (.tmp 96), none⟩,
   ⟨some 98, .call 40 [(false, (.tmp 97))], none⟩,
   ⟨some 99, .faddr 1 (.tmp 2), none⟩,
   ⟨some 100, .load false none (.tmp 99), none⟩,
   ⟨some 101, .faddr 3 (.tmp 2), none⟩,
   ⟨some 102, .load false none (.tmp 101), none⟩,
   ⟨none, .store 5 (.tmp 4) (.tmp 98), none⟩,
   ⟨some 5, .asg (.tmp 100), none⟩,
   ⟨some 6, .asg (.tmp 102), none⟩,
   ⟨some 7, .asg (.con (.bool true)), none⟩] (some [0, 1, 3, 0, 8, 0, 32, 7, 159, 511, 1023]) [4, 5, 6, 7]) <|
  .ret⟩
theorem pf42_ok : cFn Try.prog [(25, [true]), (63, [true]), (37, [true]), (95, [true])] [[2, 3, 4], [2, 3, 4, 9], [2, 3, 4, 24], [4, 5, 6, 7], [2, 3, 4, 47], [2, 3, 4, 47], [4, 5, 6, 7], [2, 3, 4, 64], [2, 4], [2, 3, 4, 80], [4, 5, 6, 7], [2, 3, 4, 10], [2, 4], [2, 4], [2, 4, 94], [4, 5, 6, 7], [4, 5, 6, 7]] Try.f42 = some pf42 := by kernel_rfl

-- 43 passkey/passkeyref21.Accept calls [46, 56, 41]
def pf43 : PFn :=
  ⟨104, 2, [.cell 4 (some 5), .tmp 5, .tmp 6, .tmp 7],
  .seq (.reg [⟨some 2, .box (.tmp 0), none⟩,
   ⟨some 3, .box (.tmp 1), none⟩,
   ⟨some 4, .alloc [(.int .u32 0), (.int .i64 0), (.int .i64 0), .nils, (.int .i64 0)], none⟩,
   ⟨some 5, .asg (.con (.int .i64 0)), none⟩,
   ⟨some 6, .asg (.con .nils), none⟩,
   ⟨some 7, .asg (.con (.bool false)), none⟩] none [2, 3, 4]) <|
  .seq (.seq (.reg [⟨some 13, .load false (some 6) (.tmp 3), none⟩,
   ⟨some 14, .call 46 [(false, (.tmp 13))], none⟩,
   ⟨some 12, .mv (.tmp 14), none⟩,
   ⟨some 15, .extract (.tmp 12) 0, none⟩,
   ⟨some 16, .extract (.tmp 12) 1, none⟩,
   ⟨some 8, .asg (.tmp 15), none⟩,
   ⟨some 9, .asg (.tmp 16), none⟩] none [2, 3, 4, 9]) <|
  .seq (.reg [⟨some 17, .mv (.tmp 9), none⟩,
   ⟨some 18, .bin .neq (.tmp 17) (.con (.int .i64 0)), none⟩,
   ⟨some 19, .mv (.tmp 18), none⟩,
   ⟨some 20, .faddr 0 (.tmp 3), some (19, false)⟩,
   ⟨some 21, .load false none (.tmp 20), some (19, false)⟩,
   ⟨some 22, .faddr 0 (.tmp 2), some (19, false)⟩,
   ⟨some 23, .load false none (.tmp 22), some (19, false)⟩,
   ⟨some 24, .bin .neq (.tmp 21) (.tmp 23), some (19, false)⟩,
   ⟨some 25, .pick (.tmp 19) (.con (.bool true)) (.tmp 24), none⟩,
   ⟨some 26, .mv (.tmp 25), none⟩,
   ⟨some 27, .faddr 1 (.tmp 3), some (26, false)⟩,
   ⟨some 28, .load false none (.tmp 27), some (26, false)⟩,
   ⟨some 29, .mv (.tmp 28), some (26, false)⟩,
   ⟨some 30, .faddr 3 (.tmp 3), some (29, true)⟩,
   ⟨some 31, .load false none (.tmp 30), some (29, true)⟩,
   ⟨some 32, .bin .gtr (.tmp 31) (.con (.int .i64 4096)), some (29, true)⟩,
   ⟨some 33, .pick (.tmp 29) (.tmp 32) (.con (.bool false)), some (26, false)⟩,
   ⟨some 34, .pick (.tmp 26) (.con (.bool true)) (.tmp 33), none⟩,
   ⟨some 35, .mv (.tmp 34), none⟩,
   ⟨some 36, .faddr 1 (.tmp 3), some (35, false)⟩,
   ⟨some 37, .load false none (.tmp 36), some (35, false)⟩,
   ⟨some 38, .un .not (.tmp 37), some (35, false)⟩,
   ⟨some 39, .mv (.tmp 38), some (35, false)⟩,
   ⟨some 40, .faddr 2 (.tmp 2), some (39, true)⟩,
   ⟨some 41, .load false none (.tmp 40), some (39, true)⟩,
   ⟨some 42, .bin .lss (.tmp 41) (.con (.int .i64 0)), some (39, true)⟩,
   ⟨some 43, .pick (.tmp 39) (.tmp 42) (.con (.bool false)), some (35, false)⟩,
   ⟨some 44, .pick (.tmp 35) (.con (.bool true)) (.tmp 43), none⟩] none [2, 3, 4, 44]) <|
  .cond (.tmp 44) (.seq (.reg [⟨some 45, .load true (some 5) (.tmp 2), none⟩,
    ⟨none, .store 5 (.tmp 4) (.tmp 45), none⟩,
    ⟨some 5, .asg (.con (.int .i64 0)), none⟩,
    ⟨some 6, .asg (.con .nils), none⟩,
    ⟨some 7, .asg (.con (.bool false)), none⟩] none [4, 5, 6, 7]) <|
   .ret) <|
   .skip) <|
  .seq (.reg [⟨some 46, .load false (some 6) (.tmp 3), none⟩,
   ⟨some 47, .call 56 [(false, (.tmp 46))], none⟩,
   ⟨some 10, .asg (.tmp 47), none⟩] none [2, 3, 4, 10]) <|
  .seq (.seq (.reg [⟨some 48, .faddr 1 (.tmp 3), none⟩,
   ⟨some 49, .load false none (.tmp 48), none⟩] none [2, 3, 4, 10, 48, 49]) <|
  .cond (.tmp 49) (.reg [⟨some 50, .faddr 0 (.tmp 2), none⟩,
    ⟨some 51, .load false none (.tmp 50), none⟩,
    ⟨some 52, .faddr 2 (.tmp 3), none⟩,
    ⟨some 53, .load false none (.tmp 52), none⟩,
    ⟨some 54, .faddr 3 (.tmp 3), none⟩,
    ⟨some 55, .load false none (.tmp 54), none⟩,
    ⟨some 56, .mv (.tmp 10), none⟩,
    ⟨some 57, .faddr 3 (.tmp 3), none⟩,
    ⟨some 58, .load false none (.tmp 57), none⟩,
    ⟨some 59, .minmax false (.tmp 58) [(.con (.int .i64 57))], none⟩,
    ⟨some 60, .slice 1 (.tmp 56) none (some (.tmp 59)), none⟩,
    ⟨some 61, .build [(.int .u32 0), (.int .i64 0), (.int .i64 0), .nils, (.int .i64 0)] [(0, 1, (.tmp 51)), (1, 1, (.tmp 53)), (2, 1, (.tmp 55)), (3, 1, (.tmp 60))], none⟩,
    ⟨none, .store 5 (.tmp 2) (.tmp 61), none⟩] (some [0, 1, 0, 4, 0, 16, 0, 0, 128, 384, 960, 2047, 4095]) [2, 4]) <|
   .seq (.seq (.reg [⟨some 62, .faddr 4 (.tmp 3), none⟩,
    ⟨some 63, .load false none (.tmp 62), none⟩,
    ⟨some 64, .faddr 4 (.tmp 2), none⟩,
    ⟨some 65, .load false none (.tmp 64), none⟩,
    ⟨some 66, .bin .neq (.tmp 63) (.tmp 65), none⟩] none [2, 4, 10, 66]) <|
   .cond (.tmp 66) (.seq (.reg [⟨some 67, .faddr 0 (.tmp 2), none⟩,
     ⟨some 68, .load false none (.tmp 67), none⟩,
     ⟨some 69, .call 41 [(false, (.tmp 68))], none⟩,
     ⟨none, .store 5 (.tmp 4) (.tmp 69), none⟩,
     ⟨some 5, .asg (.con (.int .i64 0)), none⟩,
     ⟨some 6, .asg (.con .nils), none⟩,
     ⟨some 7, .asg (.con (.bool false)), none⟩] none [4, 5, 6, 7]) <|
    .ret) <|
    .skip) <|
   .seq (.reg [⟨some 70, .faddr 2 (.tmp 2), none⟩,
    ⟨some 71, .load false none (.tmp 70), none⟩,
    ⟨some 72, .faddr 3 (.tmp 2), none⟩,
    ⟨some 73, .load false none (.tmp 72), none⟩,
    ⟨some 74, .len (.tmp 73), none⟩,
    ⟨some 75, .bin .sub (.tmp 71) (.tmp 74), none⟩,
    ⟨some 76, .minmax true (.tmp 75) [(.con (.int .i64 0))], none⟩,
    ⟨some 77, .minmax false (.tmp 76) [(.con (.int .i64 59))], none⟩,
    ⟨some 11, .asg (.tmp 77), none⟩] none [2, 4, 10, 11]) <|
   .seq (.reg [⟨some 78, .faddr 3 (.tmp 2), none⟩,
    ⟨some 79, .load false none (.tmp 78), none⟩,
    ⟨some 80, .append false 1 1 (.con .nils) (.tmp 79), none⟩,
    ⟨some 81, .mv (.tmp 10), none⟩,
    ⟨some 82, .mv (.tmp 11), none⟩,
    ⟨some 83, .slice 1 (.tmp 81) none (some (.tmp 82)), none⟩,
    ⟨some 84, .append false 1 1 (.tmp 80) (.tmp 83), none⟩,
    ⟨some 85, .faddr 3 (.tmp 2), none⟩,
    ⟨none, .store 1 (.tmp 85) (.tmp 84), none⟩] (some [0, 1, 3, 0, 0, 24, 63, 127, 255]) [2, 4]) <|
   .reg [⟨some 86, .faddr 4 (.tmp 2), none⟩,
    ⟨some 87, .load false none (.tmp 86), none⟩,
    ⟨some 88, .bin .add (.tmp 87) (.con (.int .i64 1)), none⟩,
    ⟨some 89, .faddr 4 (.tmp 2), none⟩,
    ⟨none, .store 1 (.tmp 89) (.tmp 88), none⟩] none [2, 4]) <|
  .seq (.seq (.reg [⟨some 90, .faddr 3 (.tmp 2), none⟩,
   ⟨some 91, .load false none (.tmp 90), none⟩,
   ⟨some 92, .len (.tmp 91), none⟩,
   ⟨some 93, .faddr 2 (.tmp 2), none⟩,
   ⟨some 94, .load false none (.tmp 93), none⟩,
   ⟨some 95, .bin .lss (.tmp 92) (.tmp 94), none⟩] none [2, 4, 95]) <|
  .cond (.tmp 95) (.seq (.reg [⟨some 96, .load true (some 5) (.tmp 2), none⟩,
    ⟨none, .store 5 (.tmp 4) (.tmp 96), none⟩,
    ⟨some 5, .asg (.con (.int .i64 0)), none⟩,
    ⟨some 6, .asg (.con .nils), none⟩,
    ⟨some 7, .asg (.con (.bool false)), none⟩] none [4, 5, 6, 7]) <|
   .ret) <|
   .skip) <|
  .seq (.reg [⟨some 97, .faddr 0 (.tmp 2), none⟩,
   ⟨some 98, .load false none (.tmp 97), none⟩,
   ⟨some 99, .call 41 [(false, (.tmp 98))], none⟩,
   ⟨some 100, .faddr 1 (.tmp 2), none⟩,
   ⟨some 101, .load false none (.tmp 100), none⟩,
   ⟨some 102, .faddr 3 (.tmp 2), none⟩,
   ⟨some 103, .load false none (.tmp 102), none⟩,
   ⟨none, .store 5 (.tmp 4) (.tmp 99), none⟩,
   ⟨some 5, .asg (.tmp 101), none⟩,
   ⟨some 6, .asg (.tmp 103), none⟩,
   ⟨some 7, .asg (.con (.bool true)), none⟩] (some [0, 1, 3, 0, 8, 0, 32, 7, 159, 511, 1023]) [4, 5, 6, 7]) <|
  .ret⟩
theorem pf43_ok : cFn Try.prog [(45, [true]), (96, [true])] [[2, 3, 4], [2, 3, 4, 9], [2, 3, 4, 44], [4, 5, 6, 7], [2, 3, 4, 10], [2, 3, 4, 10, 48, 49], [2, 4], [2, 4, 10, 66], [4, 5, 6, 7], [2, 4, 10, 11], [2, 4], [2, 4], [2, 4, 95], [4, 5, 6, 7], [4, 5, 6, 7]] Try.f43 = some pf43 := by kernel_rfl

-- 44 passkey/passkeyref21.SamePort calls []
def pf44 : PFn :=
  ⟨40, 2, [.tmp 4],
  .seq (.reg [⟨some 2, .box (.tmp 0), none⟩,
   ⟨some 3, .box (.tmp 1), none⟩,
   ⟨some 4, .asg (.con (.bool false)), none⟩] none [2, 3]) <|
  .seq (.reg [⟨some 5, .faddr 0 (.tmp 2), none⟩,
   ⟨some 6, .load false none (.tmp 5), none⟩,
   ⟨some 7, .faddr 0 (.tmp 3), none⟩,
   ⟨some 8, .load false none (.tmp 7), none⟩,
   ⟨some 9, .bin .eql (.tmp 6) (.tmp 8), none⟩,
   ⟨some 10, .mv (.tmp 9), none⟩,
   ⟨some 11, .faddr 1 (.tmp 2), some (10, true)⟩,
   ⟨some 12, .load false none (.tmp 11), some (10, true)⟩,
   ⟨some 13, .faddr 1 (.tmp 3), some (10, true)⟩,
   ⟨some 14, .load false none (.tmp 13), some (10, true)⟩,
   ⟨some 15, .bin .eql (.tmp 12) (.tmp 14), some (10, true)⟩,
   ⟨some 16, .pick (.tmp 10) (.tmp 15) (.con (.bool false)), none⟩,
   ⟨some 17, .mv (.tmp 16), none⟩,
   ⟨some 18, .faddr 2 (.tmp 2), some (17, true)⟩,
   ⟨some 19, .load false none (.tmp 18), some (17, true)⟩,
   ⟨some 20, .faddr 2 (.tmp 3), some (17, true)⟩,
   ⟨some 21, .load false none (.tmp 20), some (17, true)⟩,
   ⟨some 22, .bin .eql (.tmp 19) (.tmp 21), some (17, true)⟩,
   ⟨some 23, .pick (.tmp 17) (.tmp 22) (.con (.bool false)), none⟩,
   ⟨some 24, .mv (.tmp 23), none⟩,
   ⟨some 25, .faddr 3 (.tmp 2), some (24, true)⟩,
   ⟨some 26, .load false none (.tmp 25), some (24, true)⟩,
   ⟨some 27, .cvText (.tmp 26), some (24, true)⟩,
   ⟨some 28, .faddr 3 (.tmp 3), some (24, true)⟩,
   ⟨some 29, .load false none (.tmp 28), some (24, true)⟩,
   ⟨some 30, .cvText (.tmp 29), some (24, true)⟩,
   ⟨some 31, .bin .eql (.tmp 27) (.tmp 30), some (24, true)⟩,
   ⟨some 32, .pick (.tmp 24) (.tmp 31) (.con (.bool false)), none⟩,
   ⟨some 33, .mv (.tmp 32), none⟩,
   ⟨some 34, .faddr 4 (.tmp 2), some (33, true)⟩,
   ⟨some 35, .load false none (.tmp 34), some (33, true)⟩,
   ⟨some 36, .faddr 4 (.tmp 3), some (33, true)⟩,
   ⟨some 37, .load false none (.tmp 36), some (33, true)⟩,
   ⟨some 38, .bin .eql (.tmp 35) (.tmp 37), some (33, true)⟩,
   ⟨some 39, .pick (.tmp 33) (.tmp 38) (.con (.bool false)), none⟩,
   ⟨some 4, .asg (.tmp 39), none⟩] none [4]) <|
  .ret⟩
theorem pf44_ok : cFn Try.prog [] [[2, 3], [4]] Try.f44 = some pf44 := by kernel_rfl

-- 45 passkey/passkeyref3.Stream calls [57, 58]
def pf45 : PFn :=
  ⟨32, 0, [.tmp 6],
  .seq (.reg [⟨some 6, .asg (.con .nils), none⟩] none [0, 1, 2]) <|
  .seq (.reg [⟨some 9, .mv (.tmp 2), none⟩,
   ⟨some 10, .minmax true (.tmp 9) [(.con (.int .i64 0))], none⟩,
   ⟨some 11, .minmax false (.tmp 10) [(.con (.int .i64 1024))], none⟩,
   ⟨some 2, .asg (.tmp 11), none⟩] none [0, 1, 2]) <|
  .seq (.reg [⟨some 7, .asg (.con .nils), none⟩] none [0, 1, 2, 7]) <|
  .seq (.seq (.reg [⟨some 8, .asg (.con (.int .i64 0)), none⟩] none [0, 1, 2, 7, 8]) <|
  .block 0 <|
  .loop [0, 1, 2, 7, 8] <|
  .seq (.seq (.reg [⟨some 12, .mv (.tmp 7), none⟩,
   ⟨some 13, .len (.tmp 12), none⟩,
   ⟨some 14, .mv (.tmp 2), none⟩,
   ⟨some 15, .bin .lss (.tmp 13) (.tmp 14), none⟩] none [0, 1, 2, 7, 8, 15]) <|
  .cond (.tmp 15) (.skip) <|
   .exit 0) <|
  .seq (.block 1 <|
  .reg [⟨some 18, .mv (.tmp 7), none⟩,
   ⟨some 19, .mv (.tmp 0), none⟩,
   ⟨some 20, .mv (.tmp 1), none⟩,
   ⟨some 21, .mv (.tmp 8), none⟩,
   ⟨some 22, .cvInt .u64 (.tmp 21), none⟩,
   ⟨some 23, .bsl 1 [(.int .u64 0)] 2 [(0, (.tmp 20)), (1, (.tmp 22))], none⟩,
   ⟨some 24, .call 57 [(false, (.tmp 23))], none⟩,
   ⟨some 25, .call 58 [(false, (.tmp 19)), (false, (.con (.int .i64 5))), (false, (.tmp 24))], none⟩,
   ⟨some 26, .bsl 1 [(.int .u64 0)] 1 [(0, (.tmp 25))], none⟩,
   ⟨some 27, .call 57 [(false, (.tmp 26))], none⟩,
   ⟨some 28, .append false 1 1 (.tmp 18) (.tmp 27), none⟩,
   ⟨some 7, .asg (.tmp 28), none⟩] none [0, 1, 2, 7, 8]) <|
  .reg [⟨some 16, .mv (.tmp 8), none⟩,
   ⟨some 17, .bin .add (.tmp 16) (.con (.int .i64 1)), none⟩,
   ⟨some 8, .asg (.tmp 17), none⟩] none [0, 1, 2, 7, 8]) <|
  .seq (.reg [⟨some 29, .mv (.tmp 7), none⟩,
   ⟨some 30, .mv (.tmp 2), none⟩,
   ⟨some 31, .slice 1 (.tmp 29) none (some (.tmp 30)), none⟩,
   ⟨some 6, .asg (.tmp 31), none⟩] none [6]) <|
  .ret⟩
theorem pf45_ok : cFn Try.prog [] [[0, 1, 2], [0, 1, 2], [0, 1, 2, 7], [0, 1, 2, 7, 8], [0, 1, 2, 7, 8], [0, 1, 2, 7, 8, 15], [0, 1, 2, 7, 8], [0, 1, 2, 7, 8], [6]] Try.f45 = some pf45 := by kernel_rfl

-- 46 passkey/passkeyref21.Encode calls []
def pf46 : PFn :=
  ⟨148, 1, [.tmp 2, .tmp 3],
  .seq (.reg [⟨some 1, .box (.tmp 0), none⟩,
   ⟨some 2, .asg (.con .nils), none⟩,
   ⟨some 3, .asg (.con (.int .i64 0)), none⟩] none [1]) <|
  .seq (.block 0 <|
  .seq (.seq (.reg [⟨some 8, .faddr 1 (.tmp 1), none⟩,
   ⟨some 9, .load false none (.tmp 8), none⟩,
   ⟨some 10, .mv (.tmp 9), none⟩,
   ⟨some 11, .faddr 2 (.tmp 1), some (10, true)⟩,
   ⟨some 12, .load false none (.tmp 11), some (10, true)⟩,
   ⟨some 13, .bin .lss (.tmp 12) (.con (.int .i64 1)), some (10, true)⟩,
   ⟨some 14, .mv (.tmp 13), some (10, true)⟩,
   ⟨some 15, .faddr 2 (.tmp 1), some (14, false)⟩,
   ⟨some 16, .load false none (.tmp 15), some (14, false)⟩,
   ⟨some 17, .bin .gtr (.tmp 16) (.con (.int .i64 127)), some (14, false)⟩,
   ⟨some 18, .pick (.tmp 14) (.con (.bool true)) (.tmp 17), some (10, true)⟩,
   ⟨some 19, .mv (.tmp 18), some (10, true)⟩,
   ⟨some 20, .faddr 3 (.tmp 1), some (19, false)⟩,
   ⟨some 21, .load false none (.tmp 20), some (19, false)⟩,
   ⟨some 22, .bin .lss (.tmp 21) (.con (.int .i64 0)), some (19, false)⟩,
   ⟨some 23, .pick (.tmp 19) (.con (.bool true)) (.tmp 22), some (10, true)⟩,
   ⟨some 24, .mv (.tmp 23), some (10, true)⟩,
   ⟨some 25, .faddr 3 (.tmp 1), some (24, false)⟩,
   ⟨some 26, .load false none (.tmp 25), some (24, false)⟩,
   ⟨some 27, .bin .gtr (.tmp 26) (.con (.int .i64 65535)), some (24, false)⟩,
   ⟨some 28, .pick (.tmp 24) (.con (.bool true)) (.tmp 27), some (10, true)⟩,
   ⟨some 29, .pick (.tmp 10) (.tmp 28) (.con (.bool false)), none⟩,
   ⟨some 7, .asg (.tmp 29), none⟩] none [1, 7]) <|
  .cond (.tmp 7) (.skip) <|
   .reg [⟨some 30, .faddr 1 (.tmp 1), none⟩,
    ⟨some 31, .load false none (.tmp 30), none⟩,
    ⟨some 32, .un .not (.tmp 31), none⟩,
    ⟨some 33, .mv (.tmp 32), none⟩,
    ⟨some 34, .faddr 4 (.tmp 1), some (33, true)⟩,
    ⟨some 35, .load false none (.tmp 34), some (33, true)⟩,
    ⟨some 36, .bin .lss (.tmp 35) (.con (.int .i64 0)), some (33, true)⟩,
    ⟨some 37, .mv (.tmp 36), some (33, true)⟩,
    ⟨some 38, .faddr 4 (.tmp 1), some (37, false)⟩,
    ⟨some 39, .load false none (.tmp 38), some (37, false)⟩,
    ⟨some 40, .bin .gtr (.tmp 39) (.con (.int .i64 127)), some (37, false)⟩,
    ⟨some 41, .pick (.tmp 37) (.con (.bool true)) (.tmp 40), some (33, true)⟩,
    ⟨some 42, .pick (.tmp 33) (.tmp 41) (.con (.bool false)), none⟩,
    ⟨some 7, .asg (.tmp 42), none⟩] none [1, 7]) <|
  .cond (.tmp 7) (.seq (.reg [⟨some 2, .asg (.con .nils), none⟩,
    ⟨some 3, .asg (.con (.int .i64 9)), none⟩] none [2, 3]) <|
   .ret) <|
   .seq (.seq (.reg [⟨some 44, .faddr 1 (.tmp 1), none⟩,
    ⟨some 45, .load false none (.tmp 44), none⟩,
    ⟨some 46, .mv (.tmp 45), none⟩,
    ⟨some 47, .faddr 4 (.tmp 1), some (46, true)⟩,
    ⟨some 48, .load false none (.tmp 47), some (46, true)⟩,
    ⟨some 49, .bin .neq (.tmp 48) (.con (.int .i64 0)), some (46, true)⟩,
    ⟨some 50, .pick (.tmp 46) (.tmp 49) (.con (.bool false)), none⟩,
    ⟨some 43, .asg (.tmp 50), none⟩] none [1, 43]) <|
   .cond (.tmp 43) (.skip) <|
    .reg [⟨some 51, .faddr 1 (.tmp 1), none⟩,
     ⟨some 52, .load false none (.tmp 51), none⟩,
     ⟨some 53, .un .not (.tmp 52), none⟩,
     ⟨some 54, .mv (.tmp 53), none⟩,
     ⟨some 55, .faddr 2 (.tmp 1), some (54, true)⟩,
     ⟨some 56, .load false none (.tmp 55), some (54, true)⟩,
     ⟨some 57, .bin .neq (.tmp 56) (.con (.int .i64 0)), some (54, true)⟩,
     ⟨some 58, .mv (.tmp 57), some (54, true)⟩,
     ⟨some 59, .faddr 3 (.tmp 1), some (58, false)⟩,
     ⟨some 60, .load false none (.tmp 59), some (58, false)⟩,
     ⟨some 61, .bin .neq (.tmp 60) (.con (.int .i64 0)), some (58, false)⟩,
     ⟨some 62, .pick (.tmp 58) (.con (.bool true)) (.tmp 61), some (54, true)⟩,
     ⟨some 63, .pick (.tmp 54) (.tmp 62) (.con (.bool false)), none⟩,
     ⟨some 43, .asg (.tmp 63), none⟩] none [1, 43]) <|
   .cond (.tmp 43) (.seq (.reg [⟨some 2, .asg (.con .nils), none⟩,
     ⟨some 3, .asg (.con (.int .i64 4)), none⟩] none [2, 3]) <|
    .ret) <|
    .seq (.seq (.reg [⟨some 65, .faddr 1 (.tmp 1), none⟩,
     ⟨some 66, .load false none (.tmp 65), none⟩,
     ⟨some 67, .mv (.tmp 66), none⟩,
     ⟨some 68, .faddr 5 (.tmp 1), some (67, true)⟩,
     ⟨some 69, .load false none (.tmp 68), some (67, true)⟩,
     ⟨some 70, .len (.tmp 69), some (67, true)⟩,
     ⟨some 71, .bin .gtr (.tmp 70) (.con (.int .i64 57)), some (67, true)⟩,
     ⟨some 72, .pick (.tmp 67) (.tmp 71) (.con (.bool false)), none⟩,
     ⟨some 64, .asg (.tmp 72), none⟩] none [1, 64]) <|
    .cond (.tmp 64) (.skip) <|
     .reg [⟨some 73, .faddr 1 (.tmp 1), none⟩,
      ⟨some 74, .load false none (.tmp 73), none⟩,
      ⟨some 75, .un .not (.tmp 74), none⟩,
      ⟨some 76, .mv (.tmp 75), none⟩,
      ⟨some 77, .faddr 5 (.tmp 1), some (76, true)⟩,
      ⟨some 78, .load false none (.tmp 77), some (76, true)⟩,
      ⟨some 79, .len (.tmp 78), some (76, true)⟩,
      ⟨some 80, .bin .gtr (.tmp 79) (.con (.int .i64 59)), some (76, true)⟩,
      ⟨some 81, .pick (.tmp 76) (.tmp 80) (.con (.bool false)), none⟩,
      ⟨some 64, .asg (.tmp 81), none⟩] none [1, 64]) <|
    .cond (.tmp 64) (.seq (.reg [⟨some 2, .asg (.con .nils), none⟩,
      ⟨some 3, .asg (.con (.int .i64 8)), none⟩] none [2, 3]) <|
     .ret) <|
     .skip) <|
  .seq (.reg [⟨some 82, .mkslice 1 1 [(.int .u8 0)] (.con (.int .i64 64)) (.con (.int .i64 64)), none⟩,
   ⟨some 4, .asg (.tmp 82), none⟩] none [1, 4]) <|
  .seq (.reg [⟨some 83, .mv (.tmp 4), none⟩,
   ⟨some 84, .mv (.tmp 4), none⟩,
   ⟨some 85, .mv (.tmp 4), none⟩,
   ⟨some 86, .mv (.tmp 4), none⟩,
   ⟨some 87, .faddr 0 (.tmp 1), none⟩,
   ⟨some 88, .load false none (.tmp 87), none⟩,
   ⟨some 89, .bin .shr (.tmp 88) (.con (.int .u64 24)), none⟩,
   ⟨some 90, .cvInt .u8 (.tmp 89), none⟩,
   ⟨some 91, .faddr 0 (.tmp 1), none⟩,
   ⟨some 92, .load false none (.tmp 91), none⟩,
   ⟨some 93, .bin .shr (.tmp 92) (.con (.int .u64 16)), none⟩,
   ⟨some 94, .cvInt .u8 (.tmp 93), none⟩,
   ⟨some 95, .faddr 0 (.tmp 1), none⟩,
   ⟨some 96, .load false none (.tmp 95), none⟩,
   ⟨some 97, .bin .shr (.tmp 96) (.con (.int .u64 8)), none⟩,
   ⟨some 98, .cvInt .u8 (.tmp 97), none⟩,
   ⟨some 99, .faddr 0 (.tmp 1), none⟩,
   ⟨some 100, .load false none (.tmp 99), none⟩,
   ⟨some 101, .cvInt .u8 (.tmp 100), none⟩,
   ⟨some 102, .iaddrS 1 (.tmp 83) (.con (.int .i64 0)), none⟩,
   ⟨none, .store 1 (.tmp 102) (.tmp 90), none⟩,
   ⟨some 103, .iaddrS 1 (.tmp 84) (.con (.int .i64 1)), none⟩,
   ⟨none, .store 1 (.tmp 103) (.tmp 94), none⟩,
   ⟨some 104, .iaddrS 1 (.tmp 85) (.con (.int .i64 2)), none⟩,
   ⟨none, .store 1 (.tmp 104) (.tmp 98), none⟩,
   ⟨some 105, .iaddrS 1 (.tmp 86) (.con (.int .i64 3)), none⟩,
   ⟨none, .store 1 (.tmp 105) (.tmp 101), none⟩] (some [0, 0, 0, 0, 0, 16, 48, 112, 0, 256, 768, 1792, 0, 4096, 12288, 28672, 0, 65536, 196608, 241, 524529, 1576947, 3674099, 7929847, 16318455, 33554431, 67108863]) [1, 4]) <|
  .seq (.reg [⟨some 5, .asg (.con (.int .i64 5)), none⟩] none [1, 4, 5]) <|
  .seq (.seq (.reg [⟨some 106, .faddr 1 (.tmp 1), none⟩,
   ⟨some 107, .load false none (.tmp 106), none⟩] none [1, 4, 5, 106, 107]) <|
  .cond (.tmp 107) (.seq (.reg [⟨some 108, .mv (.tmp 4), none⟩,
    ⟨some 109, .mv (.tmp 4), none⟩,
    ⟨some 110, .mv (.tmp 4), none⟩,
    ⟨some 111, .faddr 2 (.tmp 1), none⟩,
    ⟨some 112, .load false none (.tmp 111), none⟩,
    ⟨some 113, .bin .add (.con (.int .i64 128)) (.tmp 112), none⟩,
    ⟨some 114, .cvInt .u8 (.tmp 113), none⟩,
    ⟨some 115, .faddr 3 (.tmp 1), none⟩,
    ⟨some 116, .load false none (.tmp 115), none⟩,
    ⟨some 117, .bin .shr (.tmp 116) (.con (.int .u64 8)), none⟩,
    ⟨some 118, .cvInt .u8 (.tmp 117), none⟩,
    ⟨some 119, .faddr 3 (.tmp 1), none⟩,
    ⟨some 120, .load false none (.tmp 119), none⟩,
    ⟨some 121, .cvInt .u8 (.tmp 120), none⟩,
    ⟨some 122, .iaddrS 1 (.tmp 108) (.con (.int .i64 4)), none⟩,
    ⟨none, .store 1 (.tmp 122) (.tmp 114), none⟩,
    ⟨some 123, .iaddrS 1 (.tmp 109) (.con (.int .i64 5)), none⟩,
    ⟨none, .store 1 (.tmp 123) (.tmp 118), none⟩,
    ⟨some 124, .iaddrS 1 (.tmp 110) (.con (.int .i64 6)), none⟩,
    ⟨none, .store 1 (.tmp 124) (.tmp 121), none⟩] (some [0, 0, 0, 0, 8, 24, 56, 0, 128, 384, 896, 0, 2048, 6144, 121, 16505, 51195, 116731, 262143, 524287]) [1, 4]) <|
   .reg [⟨some 5, .asg (.con (.int .i64 7)), none⟩] none [1, 4, 5]) <|
   .reg [⟨some 125, .mv (.tmp 4), none⟩,
    ⟨some 126, .faddr 4 (.tmp 1), none⟩,
    ⟨some 127, .load false none (.tmp 126), none⟩,
    ⟨some 128, .cvInt .u8 (.tmp 127), none⟩,
    ⟨some 129, .iaddrS 1 (.tmp 125) (.con (.int .i64 4)), none⟩,
    ⟨none, .store 1 (.tmp 129) (.tmp 128), none⟩] none [1, 4, 5]) <|
  .seq (.seq (.reg [⟨some 6, .asg (.con (.int .i64 0)), none⟩] none [1, 4, 5, 6]) <|
  .block 1 <|
  .loop [1, 4, 5, 6] <|
  .seq (.seq (.reg [⟨some 130, .mv (.tmp 6), none⟩,
   ⟨some 131, .faddr 5 (.tmp 1), none⟩,
   ⟨some 132, .load false none (.tmp 131), none⟩,
   ⟨some 133, .len (.tmp 132), none⟩,
   ⟨some 134, .bin .lss (.tmp 130) (.tmp 133), none⟩] none [1, 4, 5, 6, 134]) <|
  .cond (.tmp 134) (.skip) <|
   .exit 1) <|
  .seq (.block 2 <|
  .reg [⟨some 137, .mv (.tmp 4), none⟩,
   ⟨some 138, .mv (.tmp 5), none⟩,
   ⟨some 139, .mv (.tmp 6), none⟩,
   ⟨some 140, .bin .add (.tmp 138) (.tmp 139), none⟩,
   ⟨some 141, .faddr 5 (.tmp 1), none⟩,
   ⟨some 142, .load false none (.tmp 141), none⟩,
   ⟨some 143, .mv (.tmp 6), none⟩,
   ⟨some 144, .iaddrS 1 (.tmp 142) (.tmp 143), none⟩,
   ⟨some 145, .load false none (.tmp 144), none⟩,
   ⟨some 146, .iaddrS 1 (.tmp 137) (.tmp 140), none⟩,
   ⟨none, .store 1 (.tmp 146) (.tmp 145), none⟩] none [1, 4, 5, 6]) <|
  .reg [⟨some 135, .mv (.tmp 6), none⟩,
   ⟨some 136, .bin .add (.tmp 135) (.con (.int .i64 1)), none⟩,
   ⟨some 6, .asg (.tmp 136), none⟩] none [1, 4, 5, 6]) <|
  .seq (.reg [⟨some 147, .mv (.tmp 4), none⟩,
   ⟨some 2, .asg (.tmp 147), none⟩,
   ⟨some 3, .asg (.con (.int .i64 0)), none⟩] none [2, 3]) <|
  .ret⟩
theorem pf46_ok : cFn Try.prog [] [[1], [1, 7], [1, 7], [2, 3], [1, 43], [1, 43], [2, 3], [1, 64], [1, 64], [2, 3], [1, 4], [1, 4], [1, 4, 5], [1, 4, 5, 106, 107], [1, 4], [1, 4, 5], [1, 4, 5], [1, 4, 5, 6], [1, 4, 5, 6], [1, 4, 5, 6, 134], [1, 4, 5, 6], [1, 4, 5, 6], [2, 3]] Try.f46 = some pf46 := by kernel_rfl

-- 47 passkey/packet.valid calls []
def pf47 : PFn :=
  ⟨48, 1, [.tmp 2],
  .seq (.reg [⟨some 1, .box (.tmp 0), none⟩,
   ⟨some 2, .asg (.con (.int .i64 0)), none⟩] none [1]) <|
  .seq (.reg [⟨some 3, .asg (.con (.int .i64 59)), none⟩] none [1, 3]) <|
  .seq (.seq (.reg [⟨some 4, .faddr 1 (.tmp 1), none⟩,
   ⟨some 5, .load false none (.tmp 4), none⟩] none [1, 3, 4, 5]) <|
  .cond (.tmp 5) (.seq (.reg [⟨some 3, .asg (.con (.int .i64 57)), none⟩] none [1, 3]) <|
   .seq (.seq (.reg [⟨some 6, .faddr 2 (.tmp 1), none⟩,
    ⟨some 7, .load false none (.tmp 6), none⟩,
    ⟨some 8, .bin .lss (.tmp 7) (.con (.int .i64 1)), none⟩,
    ⟨some 9, .mv (.tmp 8), none⟩,
    ⟨some 10, .faddr 2 (.tmp 1), some (9, false)⟩,
    ⟨some 11, .load false none (.tmp 10), some (9, false)⟩,
    ⟨some 12, .bin .gtr (.tmp 11) (.con (.int .i64 127)), some (9, false)⟩,
    ⟨some 13, .pick (.tmp 9) (.con (.bool true)) (.tmp 12), none⟩,
    ⟨some 14, .mv (.tmp 13), none⟩,
    ⟨some 15, .faddr 3 (.tmp 1), some (14, false)⟩,
    ⟨some 16, .load false none (.tmp 15), some (14, false)⟩,
    ⟨some 17, .bin .lss (.tmp 16) (.con (.int .i64 0)), some (14, false)⟩,
    ⟨some 18, .pick (.tmp 14) (.con (.bool true)) (.tmp 17), none⟩,
    ⟨some 19, .mv (.tmp 18), none⟩,
    ⟨some 20, .faddr 3 (.tmp 1), some (19, false)⟩,
    ⟨some 21, .load false none (.tmp 20), some (19, false)⟩,
    ⟨some 22, .bin .gtr (.tmp 21) (.con (.int .i64 65535)), some (19, false)⟩,
    ⟨some 23, .pick (.tmp 19) (.con (.bool true)) (.tmp 22), none⟩] none [1, 3, 23]) <|
   .cond (.tmp 23) (.seq (.reg [⟨some 2, .asg (.con (.int .i64 9)), none⟩] none [2]) <|
    .ret) <|
    .skip) <|
   .seq (.reg [⟨some 24, .faddr 4 (.tmp 1), none⟩,
    ⟨some 25, .load false none (.tmp 24), none⟩,
    ⟨some 26, .bin .neq (.tmp 25) (.con (.int .i64 0)), none⟩] none [1, 3, 26]) <|
   .cond (.tmp 26) (.seq (.reg [⟨some 2, .asg (.con (.int .i64 4)), none⟩] none [2]) <|
    .ret) <|
    .skip) <|
   .seq (.seq (.reg [⟨some 27, .faddr 4 (.tmp 1), none⟩,
    ⟨some 28, .load false none (.tmp 27), none⟩,
    ⟨some 29, .bin .lss (.tmp 28) (.con (.int .i64 0)), none⟩,
    ⟨some 30, .mv (.tmp 29), none⟩,
    ⟨some 31, .faddr 4 (.tmp 1), some (30, false)⟩,
    ⟨some 32, .load false none (.tmp 31), some (30, false)⟩,
    ⟨some 33, .bin .gtr (.tmp 32) (.con (.int .i64 127)), some (30, false)⟩,
    ⟨some 34, .pick (.tmp 30) (.con (.bool true)) (.tmp 33), none⟩] none [1, 3, 34]) <|
   .cond (.tmp 34) (.seq (.reg [⟨some 2, .asg (.con (.int .i64 9)), none⟩] none [2]) <|
    .ret) <|
    .skip) <|
   .seq (.reg [⟨some 35, .faddr 2 (.tmp 1), none⟩,
    ⟨some 36, .load false none (.tmp 35), none⟩,
    ⟨some 37, .bin .neq (.tmp 36) (.con (.int .i64 0)), none⟩,
    ⟨some 38, .mv (.tmp 37), none⟩,
    ⟨some 39, .faddr 3 (.tmp 1), some (38, false)⟩,
    ⟨some 40, .load false none (.tmp 39), some (38, false)⟩,
    ⟨some 41, .bin .neq (.tmp 40) (.con (.int .i64 0)), some (38, false)⟩,
    ⟨some 42, .pick (.tmp 38) (.con (.bool true)) (.tmp 41), none⟩] none [1, 3, 42]) <|
   .cond (.tmp 42) (.seq (.reg [⟨some 2, .asg (.con (.int .i64 4)), none⟩] none [2]) <|
    .ret) <|
    .skip) <|
  .seq (.seq (.reg [⟨some 43, .faddr 5 (.tmp 1), none⟩,
   ⟨some 44, .load false none (.tmp 43), none⟩,
   ⟨some 45, .len (.tmp 44), none⟩,
   ⟨some 46, .mv (.tmp 3), none⟩,
   ⟨some 47, .bin .gtr (.tmp 45) (.tmp 46), none⟩] none [47]) <|
  .cond (.tmp 47) (.seq (.reg [⟨some 2, .asg (.con (.int .i64 8)), none⟩] none [2]) <|
   .ret) <|
   .skip) <|
  .seq (.reg [⟨some 2, .asg (.con (.int .i64 0)), none⟩] none [2]) <|
  .ret⟩
theorem pf47_ok : cFn Try.prog [] [[1], [1, 3], [1, 3, 4, 5], [1, 3], [1, 3, 23], [2], [1, 3, 26], [2], [1, 3, 34], [2], [1, 3, 42], [2], [47], [2], [2]] Try.f47 = some pf47 := by kernel_rfl

-- 48 passkey/link.continued calls [51, 52, 49, 59]
def pf48 : PFn :=
  ⟨67, 4, [.cell 8 (some 8), .cell 9 (some 4)],
  .seq (.reg [⟨some 4, .box (.tmp 0), none⟩,
   ⟨some 5, .box (.tmp 1), none⟩,
   ⟨some 7, .box (.tmp 3), none⟩,
   ⟨some 8, .alloc [(.int .i64 0), (.int .i64 0), (.int .u32 0), (.int .i64 0), (.int .i64 0), .nils, (.int .i64 0), (.int .i64 0)], none⟩,
   ⟨some 9, .alloc [.nils, (.bool false), .nils, (.bool false)], none⟩] none [2, 4, 5, 7, 8, 9]) <|
  .seq (.seq (.reg [⟨some 11, .faddr 1 (.tmp 4), none⟩,
   ⟨some 12, .load false none (.tmp 11), none⟩,
   ⟨some 13, .bin .neq (.tmp 12) (.con (.int .i64 1)), none⟩,
   ⟨some 14, .mv (.tmp 13), none⟩,
   ⟨some 15, .faddr 2 (.tmp 4), some (14, false)⟩,
   ⟨some 16, .load false none (.tmp 15), some (14, false)⟩,
   ⟨some 17, .faddr 0 (.tmp 7), some (14, false)⟩,
   ⟨some 18, .load false none (.tmp 17), some (14, false)⟩,
   ⟨some 19, .bin .neq (.tmp 16) (.tmp 18), some (14, false)⟩,
   ⟨some 20, .pick (.tmp 14) (.con (.bool true)) (.tmp 19), none⟩] none [2, 4, 5, 7, 8, 9, 20]) <|
  .cond (.tmp 20) (.seq (.reg [⟨some 21, .load true (some 8) (.tmp 4), none⟩,
    ⟨some 22, .load true (some 4) (.tmp 5), none⟩,
    ⟨none, .store 8 (.tmp 8) (.tmp 21), none⟩,
    ⟨none, .store 4 (.tmp 9) (.tmp 22), none⟩] (some [0, 0, 1, 7]) [8, 9]) <|
   .ret) <|
   .skip) <|
  .seq (.seq (.reg [⟨some 23, .faddr 4 (.tmp 7), none⟩,
   ⟨some 24, .load false none (.tmp 23), none⟩,
   ⟨some 25, .faddr 6 (.tmp 4), none⟩,
   ⟨some 26, .load false none (.tmp 25), none⟩,
   ⟨some 27, .bin .neq (.tmp 24) (.tmp 26), none⟩] none [2, 4, 5, 7, 8, 9, 27]) <|
  .cond (.tmp 27) (.seq (.reg [⟨some 28, .faddr 0 (.tmp 5), none⟩,
    ⟨some 29, .load false none (.tmp 28), none⟩,
    ⟨some 30, .faddr 2 (.tmp 4), none⟩,
    ⟨some 31, .load false none (.tmp 30), none⟩,
    ⟨some 32, .call 51 [(false, (.tmp 31)), (false, (.con (.int .i64 33)))], none⟩,
    ⟨some 33, .append false 6 56 (.tmp 29) (.tmp 32), none⟩,
    ⟨some 34, .faddr 0 (.tmp 5), none⟩,
    ⟨none, .store 1 (.tmp 34) (.tmp 33), none⟩] (some [0, 1, 0, 4, 12, 31, 63, 127]) [4, 5, 8, 9]) <|
   .seq (.reg [⟨some 35, .load true (some 8) (.tmp 4), none⟩,
    ⟨some 36, .call 52 [(false, (.tmp 35))], none⟩,
    ⟨some 37, .load true (some 4) (.tmp 5), none⟩,
    ⟨none, .store 8 (.tmp 8) (.tmp 36), none⟩,
    ⟨none, .store 4 (.tmp 9) (.tmp 37), none⟩] (some [0, 1, 0, 3, 15]) [8, 9]) <|
   .ret) <|
   .skip) <|
  .seq (.reg [⟨some 38, .faddr 4 (.tmp 4), none⟩,
   ⟨some 39, .load false none (.tmp 38), none⟩,
   ⟨some 40, .faddr 5 (.tmp 4), none⟩,
   ⟨some 41, .load false none (.tmp 40), none⟩,
   ⟨some 42, .len (.tmp 41), none⟩,
   ⟨some 43, .bin .sub (.tmp 39) (.tmp 42), none⟩,
   ⟨some 44, .minmax true (.tmp 43) [(.con (.int .i64 0))], none⟩,
   ⟨some 45, .minmax false (.tmp 44) [(.con (.int .i64 59))], none⟩,
   ⟨some 10, .asg (.tmp 45), none⟩] none [2, 4, 5, 7, 8, 9, 10]) <|
  .seq (.reg [⟨some 46, .faddr 5 (.tmp 4), none⟩,
   ⟨some 47, .load false none (.tmp 46), none⟩,
   ⟨some 48, .append false 1 1 (.con .nils) (.tmp 47), none⟩,
   ⟨some 49, .load true (some 6) (.tmp 7), none⟩,
   ⟨some 50, .call 49 [(false, (.tmp 49))], none⟩,
   ⟨some 51, .mv (.tmp 10), none⟩,
   ⟨some 52, .slice 1 (.tmp 50) none (some (.tmp 51)), none⟩,
   ⟨some 53, .append false 1 1 (.tmp 48) (.tmp 52), none⟩,
   ⟨some 54, .faddr 5 (.tmp 4), none⟩,
   ⟨none, .store 1 (.tmp 54) (.tmp 53), none⟩] (some [0, 1, 3, 0, 15, 0, 63, 127, 255, 511]) [2, 4, 5, 8, 9]) <|
  .seq (.reg [⟨some 55, .faddr 6 (.tmp 4), none⟩,
   ⟨some 56, .load false none (.tmp 55), none⟩,
   ⟨some 57, .bin .add (.tmp 56) (.con (.int .i64 1)), none⟩,
   ⟨some 58, .faddr 6 (.tmp 4), none⟩,
   ⟨none, .store 1 (.tmp 58) (.tmp 57), none⟩] none [2, 4, 5, 8, 9]) <|
  .seq (.reg [⟨some 59, .mv (.tmp 2), none⟩,
   ⟨some 60, .faddr 7 (.tmp 4), none⟩,
   ⟨none, .store 1 (.tmp 60) (.tmp 59), none⟩] none [2, 4, 5, 8, 9]) <|
  .seq (.reg [⟨some 61, .load true (some 8) (.tmp 4), none⟩,
   ⟨some 62, .load true (some 4) (.tmp 5), none⟩,
   ⟨some 63, .mv (.tmp 2), none⟩,
   ⟨some 64, .call 59 [(false, (.tmp 61)), (true, (.tmp 62)), (false, (.tmp 63))], none⟩,
   ⟨some 65, .extract (.tmp 64) 0, none⟩,
   ⟨some 66, .extract (.tmp 64) 1, none⟩,
   ⟨none, .store 8 (.tmp 8) (.tmp 65), none⟩,
   ⟨none, .store 4 (.tmp 9) (.tmp 66), none⟩] none [8, 9]) <|
  .ret⟩
theorem pf48_ok : cFn Try.prog [(21, [true]), (22, [true]), (35, [true]), (37, [true]), (49, [true]), (61, [true]), (62, [true]), (64, [false, true, false])] [[2, 4, 5, 7, 8, 9], [2, 4, 5, 7, 8, 9, 20], [8, 9], [2, 4, 5, 7, 8, 9, 27], [4, 5, 8, 9], [8, 9], [2, 4, 5, 7, 8, 9, 10], [2, 4, 5, 8, 9], [2, 4, 5, 8, 9], [2, 4, 5, 8, 9], [8, 9]] Try.f48 = some pf48 := by kernel_rfl

-- 49 passkey/link.padded calls []
def pf49 : PFn :=
  ⟨17, 1, [.tmp 2],
  .seq (.reg [⟨some 1, .box (.tmp 0), none⟩,
   ⟨some 2, .asg (.con .nils), none⟩] none [1]) <|
  .seq (.reg [⟨some 3, .asg (.con (.int .i64 59)), none⟩] none [1, 3]) <|
  .seq (.seq (.reg [⟨some 4, .faddr 1 (.tmp 1), none⟩,
   ⟨some 5, .load false none (.tmp 4), none⟩] none [1, 3, 4, 5]) <|
  .cond (.tmp 5) (.reg [⟨some 3, .asg (.con (.int .i64 57)), none⟩] none [1, 3]) <|
   .skip) <|
  .seq (.reg [⟨some 6, .mv (.tmp 3), none⟩,
   ⟨some 7, .mkslice 1 1 [(.int .u8 0)] (.con (.int .i64 0)) (.tmp 6), none⟩,
   ⟨some 8, .faddr 5 (.tmp 1), none⟩,
   ⟨some 9, .load false none (.tmp 8), none⟩,
   ⟨some 10, .append false 1 1 (.tmp 7) (.tmp 9), none⟩,
   ⟨some 11, .mv (.tmp 3), none⟩,
   ⟨some 12, .faddr 5 (.tmp 1), none⟩,
   ⟨some 13, .load false none (.tmp 12), none⟩,
   ⟨some 14, .len (.tmp 13), none⟩,
   ⟨some 15, .bin .sub (.tmp 11) (.tmp 14), none⟩,
   ⟨some 16, .appendZ 1 1 [(.int .u8 0)] (.tmp 10) (.tmp 15), none⟩,
   ⟨some 2, .asg (.tmp 16), none⟩] (some [0, 1, 0, 4, 15, 0, 0, 64, 192, 480, 1023, 2047]) [2]) <|
  .ret⟩
theorem pf49_ok : cFn Try.prog [] [[1], [1, 3], [1, 3, 4, 5], [1, 3], [2]] Try.f49 = some pf49 := by kernel_rfl

-- 50 passkey/link.allocate calls [51, 54, 53]
def pf50 : PFn :=
  ⟨51, 4, [.cell 8 (some 8), .cell 9 (some 4)],
  .seq (.reg [⟨some 4, .box (.tmp 0), none⟩,
   ⟨some 5, .box (.tmp 1), none⟩,
   ⟨some 6, .box (.tmp 2), none⟩,
   ⟨some 8, .alloc [(.int .i64 0), (.int .i64 0), (.int .u32 0), (.int .i64 0), (.int .i64 0), .nils, (.int .i64 0), (.int .i64 0)], none⟩,
   ⟨some 9, .alloc [.nils, (.bool false), .nils, (.bool false)], none⟩] none [3, 4, 5, 6, 8, 9]) <|
  .seq (.reg [⟨some 10, .asg (.con (.int .i64 0)), none⟩] none [3, 4, 5, 6, 8, 9, 10]) <|
  .seq (.block 0 <|
  .seq (.reg [⟨some 12, .faddr 2 (.tmp 6), none⟩,
   ⟨some 13, .load false none (.tmp 12), none⟩,
   ⟨some 14, .bin .neq (.tmp 13) (.con (.int .i64 6)), none⟩,
   ⟨some 11, .asg (.tmp 14), none⟩] none [3, 4, 5, 6, 8, 9, 10, 11]) <|
  .cond (.tmp 11) (.reg [⟨some 10, .asg (.con (.int .i64 3)), none⟩] none [3, 4, 5, 8, 9, 10]) <|
   .seq (.reg [⟨some 16, .faddr 3 (.tmp 6), none⟩,
    ⟨some 17, .load false none (.tmp 16), none⟩,
    ⟨some 18, .bin .neq (.tmp 17) (.con (.int .i64 8)), none⟩,
    ⟨some 15, .asg (.tmp 18), none⟩] none [3, 4, 5, 8, 9, 10, 15]) <|
   .cond (.tmp 15) (.reg [⟨some 10, .asg (.con (.int .i64 2)), none⟩] none [3, 4, 5, 8, 9, 10]) <|
    .seq (.reg [⟨some 20, .faddr 0 (.tmp 4), none⟩,
     ⟨some 21, .load false none (.tmp 20), none⟩,
     ⟨some 22, .bin .geq (.tmp 21) (.con (.int .i64 32)), none⟩,
     ⟨some 19, .asg (.tmp 22), none⟩] none [3, 4, 5, 8, 9, 10, 19]) <|
    .cond (.tmp 19) (.reg [⟨some 10, .asg (.con (.int .i64 12)), none⟩] none [3, 4, 5, 8, 9, 10]) <|
     .skip) <|
  .seq (.seq (.reg [⟨some 23, .mv (.tmp 10), none⟩,
   ⟨some 24, .bin .neq (.tmp 23) (.con (.int .i64 0)), none⟩] none [3, 4, 5, 8, 9, 10, 24]) <|
  .cond (.tmp 24) (.seq (.reg [⟨some 25, .faddr 0 (.tmp 5), none⟩,
    ⟨some 26, .load false none (.tmp 25), none⟩,
    ⟨some 27, .mv (.tmp 10), none⟩,
    ⟨some 28, .call 51 [(false, (.con (.int .u32 4294967295))), (false, (.tmp 27))], none⟩,
    ⟨some 29, .append false 6 56 (.tmp 26) (.tmp 28), none⟩,
    ⟨some 30, .faddr 0 (.tmp 5), none⟩,
    ⟨none, .store 1 (.tmp 30) (.tmp 29), none⟩] (some [0, 1, 0, 4, 15, 31, 63]) [4, 5, 8, 9]) <|
   .seq (.reg [⟨some 31, .load true (some 8) (.tmp 4), none⟩,
    ⟨some 32, .load true (some 4) (.tmp 5), none⟩,
    ⟨none, .store 8 (.tmp 8) (.tmp 31), none⟩,
    ⟨none, .store 4 (.tmp 9) (.tmp 32), none⟩] (some [0, 0, 1, 7]) [8, 9]) <|
   .ret) <|
   .skip) <|
  .seq (.reg [⟨some 33, .faddr 0 (.tmp 4), none⟩,
   ⟨some 34, .load false none (.tmp 33), none⟩,
   ⟨some 35, .bin .add (.tmp 34) (.con (.int .i64 1)), none⟩,
   ⟨some 36, .faddr 0 (.tmp 4), none⟩,
   ⟨none, .store 1 (.tmp 36) (.tmp 35), none⟩] none [3, 4, 5, 8, 9]) <|
  .seq (.reg [⟨some 37, .faddr 0 (.tmp 5), none⟩,
   ⟨some 38, .load false none (.tmp 37), none⟩,
   ⟨some 39, .mv (.tmp 3), none⟩,
   ⟨some 40, .slice 1 (.tmp 39) none (some (.con (.int .i64 8))), none⟩,
   ⟨some 41, .faddr 0 (.tmp 4), none⟩,
   ⟨some 42, .load false none (.tmp 41), none⟩,
   ⟨some 43, .cvInt .u32 (.tmp 42), none⟩,
   ⟨some 44, .call 54 [(false, (.tmp 43))], none⟩,
   ⟨some 45, .append false 1 1 (.tmp 40) (.tmp 44), none⟩,
   ⟨some 46, .call 53 [(false, (.con (.int .u32 4294967295))), (false, (.con (.int .i64 6))), (false, (.tmp 45))], none⟩,
   ⟨some 47, .append false 6 56 (.tmp 38) (.tmp 46), none⟩,
   ⟨some 48, .faddr 0 (.tmp 5), none⟩,
   ⟨none, .store 1 (.tmp 48) (.tmp 47), none⟩] (some [0, 1, 0, 4, 0, 16, 48, 112, 252, 508, 1023, 2047, 4095]) [4, 5, 8, 9]) <|
  .seq (.reg [⟨some 49, .load true (some 8) (.tmp 4), none⟩,
   ⟨some 50, .load true (some 4) (.tmp 5), none⟩,
   ⟨none, .store 8 (.tmp 8) (.tmp 49), none⟩,
   ⟨none, .store 4 (.tmp 9) (.tmp 50), none⟩] (some [0, 0, 1, 7]) [8, 9]) <|
  .ret⟩
theorem pf50_ok : cFn Try.prog [(31, [true]), (32, [true]), (49, [true]), (50, [true])] [[3, 4, 5, 6, 8, 9], [3, 4, 5, 6, 8, 9, 10], [3, 4, 5, 6, 8, 9, 10, 11], [3, 4, 5, 8, 9, 10], [3, 4, 5, 8, 9, 10, 15], [3, 4, 5, 8, 9, 10], [3, 4, 5, 8, 9, 10, 19], [3, 4, 5, 8, 9, 10], [3, 4, 5, 8, 9, 10, 24], [4, 5, 8, 9], [8, 9], [3, 4, 5, 8, 9], [4, 5, 8, 9], [8, 9]] Try.f50 = some pf50 := by kernel_rfl

-- 51 passkey/link.refuse calls [53]
def pf51 : PFn :=
  ⟨10, 2, [.tmp 4],
  .seq (.reg [⟨some 4, .asg (.con .nils), none⟩] none [0, 1]) <|
  .seq (.reg [⟨some 5, .mv (.tmp 0), none⟩,
   ⟨some 6, .mv (.tmp 1), none⟩,
   ⟨some 7, .cvInt .u8 (.tmp 6), none⟩,
   ⟨some 8, .bsl 1 [(.int .u8 0)] 1 [(0, (.tmp 7))], none⟩,
   ⟨some 9, .call 53 [(false, (.tmp 5)), (false, (.con (.int .i64 63))), (false, (.tmp 8))], none⟩,
   ⟨some 4, .asg (.tmp 9), none⟩] none [4]) <|
  .ret⟩
theorem pf51_ok : cFn Try.prog [] [[0, 1], [4]] Try.f51 = some pf51 := by kernel_rfl

-- 52 passkey/link.idle calls []
def pf52 : PFn :=
  ⟨6, 1, [.cell 2 (some 8)],
  .seq (.reg [⟨some 1, .box (.tmp 0), none⟩,
   ⟨some 2, .alloc [(.int .i64 0), (.int .i64 0), (.int .u32 0), (.int .i64 0), (.int .i64 0), .nils, (.int .i64 0), (.int .i64 0)], none⟩] none [1, 2]) <|
  .seq (.reg [⟨some 3, .faddr 0 (.tmp 1), none⟩,
   ⟨some 4, .load false none (.tmp 3), none⟩,
   ⟨some 5, .build [(.int .i64 0), (.int .i64 0), (.int .u32 0), (.int .i64 0), (.int .i64 0), .nils, (.int .i64 0), (.int .i64 0)] [(0, 1, (.tmp 4))], none⟩,
   ⟨none, .store 8 (.tmp 2) (.tmp 5), none⟩] none [2]) <|
  .ret⟩
theorem pf52_ok : cFn Try.prog [] [[1, 2], [2]] Try.f52 = some pf52 := by kernel_rfl

-- 53 passkey/link.reply calls [20]
def pf53 : PFn :=
  ⟨17, 3, [.tmp 6],
  .seq (.reg [⟨some 6, .asg (.con .nils), none⟩] none [0, 1, 2]) <|
  .seq (.reg [⟨some 10, .mv (.tmp 0), none⟩,
   ⟨some 11, .mv (.tmp 1), none⟩,
   ⟨some 12, .mv (.tmp 2), none⟩,
   ⟨some 13, .call 20 [(false, (.tmp 10)), (false, (.tmp 11)), (false, (.tmp 12))], none⟩,
   ⟨some 9, .mv (.tmp 13), none⟩,
   ⟨some 14, .extract (.tmp 9) 0, none⟩,
   ⟨some 15, .extract (.tmp 9) 1, none⟩,
   ⟨some 7, .asg (.tmp 14), none⟩,
   ⟨some 8, .asg (.tmp 15), none⟩] none [7]) <|
  .seq (.reg [⟨some 16, .mv (.tmp 7), none⟩,
   ⟨some 6, .asg (.tmp 16), none⟩] none [6]) <|
  .ret⟩
theorem pf53_ok : cFn Try.prog [] [[0, 1, 2], [7], [6]] Try.f53 = some pf53 := by kernel_rfl

-- 54 passkey/link.number calls []
def pf54 : PFn :=
  ⟨15, 1, [.tmp 2],
  .seq (.reg [⟨some 2, .asg (.con .nils), none⟩] none [0]) <|
  .seq (.reg [⟨some 3, .mv (.tmp 0), none⟩,
   ⟨some 4, .bin .shr (.tmp 3) (.con (.int .u64 24)), none⟩,
   ⟨some 5, .cvInt .u8 (.tmp 4), none⟩,
   ⟨some 6, .mv (.tmp 0), none⟩,
   ⟨some 7, .bin .shr (.tmp 6) (.con (.int .u64 16)), none⟩,
   ⟨some 8, .cvInt .u8 (.tmp 7), none⟩,
   ⟨some 9, .mv (.tmp 0), none⟩,
   ⟨some 10, .bin .shr (.tmp 9) (.con (.int .u64 8)), none⟩,
   ⟨some 11, .cvInt .u8 (.tmp 10), none⟩,
   ⟨some 12, .mv (.tmp 0), none⟩,
   ⟨some 13, .cvInt .u8 (.tmp 12), none⟩,
   ⟨some 14, .bsl 1 [(.int .u8 0)] 4 [(0, (.tmp 5)), (1, (.tmp 8)), (2, (.tmp 11)), (3, (.tmp 13))], none⟩,
   ⟨some 2, .asg (.tmp 14), none⟩] none [2]) <|
  .ret⟩
theorem pf54_ok : cFn Try.prog [] [[0], [2]] Try.f54 = some pf54 := by kernel_rfl

-- 55 passkey/link.begin calls [51, 59]
def pf55 : PFn :=
  ⟨62, 5, [.cell 10 (some 8), .cell 11 (some 4)],
  .seq (.reg [⟨some 5, .box (.tmp 0), none⟩,
   ⟨some 6, .box (.tmp 1), none⟩,
   ⟨some 8, .box (.tmp 3), none⟩,
   ⟨some 10, .alloc [(.int .i64 0), (.int .i64 0), (.int .u32 0), (.int .i64 0), (.int .i64 0), .nils, (.int .i64 0), (.int .i64 0)], none⟩,
   ⟨some 11, .alloc [.nils, (.bool false), .nils, (.bool false)], none⟩] none [2, 4, 5, 6, 8, 10, 11]) <|
  .seq (.seq (.reg [⟨some 12, .faddr 2 (.tmp 8), none⟩,
   ⟨some 13, .load false none (.tmp 12), none⟩,
   ⟨some 14, .bin .neq (.tmp 13) (.con (.int .i64 1)), none⟩,
   ⟨some 15, .mv (.tmp 14), none⟩,
   ⟨some 16, .faddr 2 (.tmp 8), some (15, true)⟩,
   ⟨some 17, .load false none (.tmp 16), some (15, true)⟩,
   ⟨some 18, .bin .neq (.tmp 17) (.con (.int .i64 3)), some (15, true)⟩,
   ⟨some 19, .pick (.tmp 15) (.tmp 18) (.con (.bool false)), none⟩] none [2, 4, 5, 6, 8, 10, 11, 19]) <|
  .cond (.tmp 19) (.seq (.reg [⟨some 20, .faddr 0 (.tmp 6), none⟩,
    ⟨some 21, .load false none (.tmp 20), none⟩,
    ⟨some 22, .faddr 0 (.tmp 8), none⟩,
    ⟨some 23, .load false none (.tmp 22), none⟩,
    ⟨some 24, .call 51 [(false, (.tmp 23)), (false, (.con (.int .i64 3)))], none⟩,
    ⟨some 25, .append false 6 56 (.tmp 21) (.tmp 24), none⟩,
    ⟨some 26, .faddr 0 (.tmp 6), none⟩,
    ⟨none, .store 1 (.tmp 26) (.tmp 25), none⟩] (some [0, 1, 0, 4, 12, 31, 63, 127]) [5, 6, 10, 11]) <|
   .seq (.reg [⟨some 27, .load true (some 8) (.tmp 5), none⟩,
    ⟨some 28, .load true (some 4) (.tmp 6), none⟩,
    ⟨none, .store 8 (.tmp 10) (.tmp 27), none⟩,
    ⟨none, .store 4 (.tmp 11) (.tmp 28), none⟩] (some [0, 0, 1, 7]) [10, 11]) <|
   .ret) <|
   .skip) <|
  .seq (.seq (.reg [⟨some 29, .faddr 3 (.tmp 8), none⟩,
   ⟨some 30, .load false none (.tmp 29), none⟩,
   ⟨some 31, .bin .gtr (.tmp 30) (.con (.int .i64 4096)), none⟩] none [2, 4, 5, 6, 8, 10, 11, 31]) <|
  .cond (.tmp 31) (.seq (.reg [⟨some 32, .faddr 0 (.tmp 6), none⟩,
    ⟨some 33, .load false none (.tmp 32), none⟩,
    ⟨some 34, .faddr 0 (.tmp 8), none⟩,
    ⟨some 35, .load false none (.tmp 34), none⟩,
    ⟨some 36, .call 51 [(false, (.tmp 35)), (false, (.con (.int .i64 8)))], none⟩,
    ⟨some 37, .append false 6 56 (.tmp 33) (.tmp 36), none⟩,
    ⟨some 38, .faddr 0 (.tmp 6), none⟩,
    ⟨none, .store 1 (.tmp 38) (.tmp 37), none⟩] (some [0, 1, 0, 4, 12, 31, 63, 127]) [5, 6, 10, 11]) <|
   .seq (.reg [⟨some 39, .load true (some 8) (.tmp 5), none⟩,
    ⟨some 40, .load true (some 4) (.tmp 6), none⟩,
    ⟨none, .store 8 (.tmp 10) (.tmp 39), none⟩,
    ⟨none, .store 4 (.tmp 11) (.tmp 40), none⟩] (some [0, 0, 1, 7]) [10, 11]) <|
   .ret) <|
   .skip) <|
  .seq (.reg [⟨some 41, .faddr 0 (.tmp 5), none⟩,
   ⟨some 42, .load false none (.tmp 41), none⟩,
   ⟨some 43, .faddr 0 (.tmp 8), none⟩,
   ⟨some 44, .load false none (.tmp 43), none⟩,
   ⟨some 45, .faddr 2 (.tmp 8), none⟩,
   ⟨some 46, .load false none (.tmp 45), none⟩,
   ⟨some 47, .faddr 3 (.tmp 8), none⟩,
   ⟨some 48, .load false none (.tmp 47), none⟩,
   ⟨some 49, .mv (.tmp 4), none⟩,
   ⟨some 50, .faddr 3 (.tmp 8), none⟩,
   ⟨some 51, .load false none (.tmp 50), none⟩,
   ⟨some 52, .minmax false (.tmp 51) [(.con (.int .i64 57))], none⟩,
   ⟨some 53, .slice 1 (.tmp 49) none (some (.tmp 52)), none⟩,
   ⟨some 54, .mv (.tmp 2), none⟩,
   ⟨some 55, .build [(.int .i64 0), (.int .i64 0), (.int .u32 0), (.int .i64 0), (.int .i64 0), .nils, (.int .i64 0), (.int .i64 0)] [(0, 1, (.tmp 42)), (1, 1, (.con (.int .i64 1))), (2, 1, (.tmp 44)), (3, 1, (.tmp 46)), (4, 1, (.tmp 48)), (5, 1, (.tmp 53)), (7, 1, (.tmp 54))], none⟩,
   ⟨none, .store 8 (.tmp 5) (.tmp 55), none⟩] (some [0, 1, 0, 4, 0, 16, 0, 64, 0, 0, 512, 1536, 3840, 0, 16383, 32767]) [2, 5, 6, 10, 11]) <|
  .seq (.reg [⟨some 56, .load true (some 8) (.tmp 5), none⟩,
   ⟨some 57, .load true (some 4) (.tmp 6), none⟩,
   ⟨some 58, .mv (.tmp 2), none⟩,
   ⟨some 59, .call 59 [(false, (.tmp 56)), (true, (.tmp 57)), (false, (.tmp 58))], none⟩,
   ⟨some 60, .extract (.tmp 59) 0, none⟩,
   ⟨some 61, .extract (.tmp 59) 1, none⟩,
   ⟨none, .store 8 (.tmp 10) (.tmp 60), none⟩,
   ⟨none, .store 4 (.tmp 11) (.tmp 61), none⟩] none [10, 11]) <|
  .ret⟩
theorem pf55_ok : cFn Try.prog [(27, [true]), (28, [true]), (39, [true]), (40, [true]), (56, [true]), (57, [true]), (59, [false, true, false])] [[2, 4, 5, 6, 8, 10, 11], [2, 4, 5, 6, 8, 10, 11, 19], [5, 6, 10, 11], [10, 11], [2, 4, 5, 6, 8, 10, 11, 31], [5, 6, 10, 11], [10, 11], [2, 5, 6, 10, 11], [10, 11]] Try.f55 = some pf55 := by kernel_rfl

-- 56 passkey/passkeyref21.padded calls []
def pf56 : PFn :=
  ⟨18, 1, [.tmp 2],
  .seq (.reg [⟨some 1, .box (.tmp 0), none⟩,
   ⟨some 2, .asg (.con .nils), none⟩] none [1]) <|
  .seq (.reg [⟨some 3, .asg (.con (.int .i64 59)), none⟩] none [1, 3]) <|
  .seq (.seq (.reg [⟨some 5, .faddr 1 (.tmp 1), none⟩,
   ⟨some 6, .load false none (.tmp 5), none⟩] none [1, 3, 5, 6]) <|
  .cond (.tmp 6) (.reg [⟨some 3, .asg (.con (.int .i64 57)), none⟩] none [1, 3]) <|
   .skip) <|
  .seq (.reg [⟨some 7, .faddr 5 (.tmp 1), none⟩,
   ⟨some 8, .load false none (.tmp 7), none⟩,
   ⟨some 9, .append false 1 1 (.con .nils) (.tmp 8), none⟩,
   ⟨some 4, .asg (.tmp 9), none⟩] none [3, 4]) <|
  .seq (.block 0 <|
  .loop [3, 4] <|
  .seq (.seq (.reg [⟨some 10, .mv (.tmp 4), none⟩,
   ⟨some 11, .len (.tmp 10), none⟩,
   ⟨some 12, .mv (.tmp 3), none⟩,
   ⟨some 13, .bin .lss (.tmp 11) (.tmp 12), none⟩] none [3, 4, 13]) <|
  .cond (.tmp 13) (.skip) <|
   .exit 0) <|
  .block 1 <|
  .reg [⟨some 14, .mv (.tmp 4), none⟩,
   ⟨some 15, .bsl 1 [(.int .u8 0)] 1 [(0, (.con (.int .u8 0)))], none⟩,
   ⟨some 16, .append false 1 1 (.tmp 14) (.tmp 15), none⟩,
   ⟨some 4, .asg (.tmp 16), none⟩] none [3, 4]) <|
  .seq (.reg [⟨some 17, .mv (.tmp 4), none⟩,
   ⟨some 2, .asg (.tmp 17), none⟩] none [2]) <|
  .ret⟩
theorem pf56_ok : cFn Try.prog [] [[1], [1, 3], [1, 3, 5, 6], [1, 3], [3, 4], [3, 4], [3, 4, 13], [3, 4], [2]] Try.f56 = some pf56 := by kernel_rfl

-- 57 passkey/passkeyref1.Words calls []
def pf57 : PFn :=
  ⟨29, 1, [.tmp 2],
  .seq (.reg [⟨some 2, .asg (.con .nils), none⟩] none [0]) <|
  .seq (.reg [⟨some 3, .asg (.con .nils), none⟩] none [0, 3]) <|
  .seq (.seq (.reg [⟨some 4, .asg (.con (.int .i64 0)), none⟩] none [0, 3, 4]) <|
  .block 0 <|
  .loop [0, 3, 4] <|
  .seq (.seq (.reg [⟨some 6, .mv (.tmp 4), none⟩,
   ⟨some 7, .mv (.tmp 0), none⟩,
   ⟨some 8, .len (.tmp 7), none⟩,
   ⟨some 9, .bin .lss (.tmp 6) (.tmp 8), none⟩] none [0, 3, 4, 9]) <|
  .cond (.tmp 9) (.skip) <|
   .exit 0) <|
  .seq (.block 1 <|
  .seq (.reg [⟨some 5, .asg (.con (.int .i64 7)), none⟩] none [0, 3, 4, 5]) <|
  .block 2 <|
  .loop [0, 3, 4, 5] <|
  .seq (.seq (.reg [⟨some 12, .mv (.tmp 5), none⟩,
   ⟨some 13, .bin .geq (.tmp 12) (.con (.int .i64 0)), none⟩] none [0, 3, 4, 5, 13]) <|
  .cond (.tmp 13) (.skip) <|
   .exit 2) <|
  .seq (.block 3 <|
  .reg [⟨some 16, .mv (.tmp 3), none⟩,
   ⟨some 17, .mv (.tmp 0), none⟩,
   ⟨some 18, .mv (.tmp 4), none⟩,
   ⟨some 19, .iaddrS 1 (.tmp 17) (.tmp 18), none⟩,
   ⟨some 20, .load false none (.tmp 19), none⟩,
   ⟨some 21, .mv (.tmp 5), none⟩,
   ⟨some 22, .bin .mul (.con (.int .i64 8)) (.tmp 21), none⟩,
   ⟨some 23, .cvInt .u64 (.tmp 22), none⟩,
   ⟨some 24, .bin .shr (.tmp 20) (.tmp 23), none⟩,
   ⟨some 25, .cvInt .u8 (.tmp 24), none⟩,
   ⟨some 26, .bsl 1 [(.int .u8 0)] 1 [(0, (.tmp 25))], none⟩,
   ⟨some 27, .append false 1 1 (.tmp 16) (.tmp 26), none⟩,
   ⟨some 3, .asg (.tmp 27), none⟩] none [0, 3, 4, 5]) <|
  .reg [⟨some 14, .mv (.tmp 5), none⟩,
   ⟨some 15, .bin .sub (.tmp 14) (.con (.int .i64 1)), none⟩,
   ⟨some 5, .asg (.tmp 15), none⟩] none [0, 3, 4, 5]) <|
  .reg [⟨some 10, .mv (.tmp 4), none⟩,
   ⟨some 11, .bin .add (.tmp 10) (.con (.int .i64 1)), none⟩,
   ⟨some 4, .asg (.tmp 11), none⟩] none [0, 3, 4]) <|
  .seq (.reg [⟨some 28, .mv (.tmp 3), none⟩,
   ⟨some 2, .asg (.tmp 28), none⟩] none [2]) <|
  .ret⟩
theorem pf57_ok : cFn Try.prog [] [[0], [0, 3], [0, 3, 4], [0, 3, 4], [0, 3, 4, 9], [0, 3, 4, 5], [0, 3, 4, 5], [0, 3, 4, 5, 13], [0, 3, 4, 5], [0, 3, 4, 5], [0, 3, 4], [2]] Try.f57 = some pf57 := by kernel_rfl

-- 58 passkey/passkeyref1.Mac calls [60]
def pf58 : PFn :=
  ⟨13, 3, [.tmp 6],
  .seq (.reg [⟨some 6, .asg (.con (.int .u64 0)), none⟩] none [0, 1, 2]) <|
  .seq (.reg [⟨some 7, .mv (.tmp 0), none⟩,
   ⟨some 8, .mv (.tmp 1), none⟩,
   ⟨some 9, .cvInt .u64 (.tmp 8), none⟩,
   ⟨some 10, .bin .add (.con (.int .u64 1)) (.tmp 9), none⟩,
   ⟨some 11, .mv (.tmp 2), none⟩,
   ⟨some 12, .call 60 [(false, (.tmp 7)), (false, (.tmp 10)), (false, (.tmp 11))], none⟩,
   ⟨some 6, .asg (.tmp 12), none⟩] none [6]) <|
  .ret⟩
theorem pf58_ok : cFn Try.prog [] [[0, 1, 2], [6]] Try.f58 = some pf58 := by kernel_rfl

-- 59 passkey/link.handle calls [53, 52]
def pf59 : PFn :=
  ⟨44, 3, [.cell 6 (some 8), .cell 7 (some 4)],
  .seq (.reg [⟨some 3, .box (.tmp 0), none⟩,
   ⟨some 4, .box (.tmp 1), none⟩,
   ⟨some 6, .alloc [(.int .i64 0), (.int .i64 0), (.int .u32 0), (.int .i64 0), (.int .i64 0), .nils, (.int .i64 0), (.int .i64 0)], none⟩,
   ⟨some 7, .alloc [.nils, (.bool false), .nils, (.bool false)], none⟩] none [2, 3, 4, 6, 7]) <|
  .seq (.seq (.reg [⟨some 8, .faddr 5 (.tmp 3), none⟩,
   ⟨some 9, .load false none (.tmp 8), none⟩,
   ⟨some 10, .len (.tmp 9), none⟩,
   ⟨some 11, .faddr 4 (.tmp 3), none⟩,
   ⟨some 12, .load false none (.tmp 11), none⟩,
   ⟨some 13, .bin .lss (.tmp 10) (.tmp 12), none⟩] none [2, 3, 4, 6, 7, 13]) <|
  .cond (.tmp 13) (.seq (.reg [⟨some 14, .load true (some 8) (.tmp 3), none⟩,
    ⟨some 15, .load true (some 4) (.tmp 4), none⟩,
    ⟨none, .store 8 (.tmp 6) (.tmp 14), none⟩,
    ⟨none, .store 4 (.tmp 7) (.tmp 15), none⟩] (some [0, 0, 1, 7]) [6, 7]) <|
   .ret) <|
   .skip) <|
  .seq (.seq (.reg [⟨some 16, .faddr 3 (.tmp 3), none⟩,
   ⟨some 17, .load false none (.tmp 16), none⟩,
   ⟨some 18, .bin .eql (.tmp 17) (.con (.int .i64 1)), none⟩] none [2, 3, 4, 6, 7, 18]) <|
  .cond (.tmp 18) (.seq (.reg [⟨some 19, .faddr 0 (.tmp 4), none⟩,
    ⟨some 20, .load false none (.tmp 19), none⟩,
    ⟨some 21, .faddr 2 (.tmp 3), none⟩,
    ⟨some 22, .load false none (.tmp 21), none⟩,
    ⟨some 23, .faddr 5 (.tmp 3), none⟩,
    ⟨some 24, .load false none (.tmp 23), none⟩,
    ⟨some 25, .call 53 [(false, (.tmp 22)), (false, (.con (.int .i64 1))), (false, (.tmp 24))], none⟩,
    ⟨some 26, .append false 6 56 (.tmp 20) (.tmp 25), none⟩,
    ⟨some 27, .faddr 0 (.tmp 4), none⟩,
    ⟨none, .store 1 (.tmp 27) (.tmp 26), none⟩] (some [0, 1, 0, 4, 0, 16, 60, 127, 255, 511]) [3, 4, 6, 7]) <|
   .seq (.reg [⟨some 28, .load true (some 8) (.tmp 3), none⟩,
    ⟨some 29, .call 52 [(false, (.tmp 28))], none⟩,
    ⟨some 30, .load true (some 4) (.tmp 4), none⟩,
    ⟨none, .store 8 (.tmp 6) (.tmp 29), none⟩,
    ⟨none, .store 4 (.tmp 7) (.tmp 30), none⟩] (some [0, 1, 0, 3, 15]) [6, 7]) <|
   .ret) <|
   .skip) <|
  .seq (.reg [⟨some 31, .faddr 5 (.tmp 3), none⟩,
   ⟨some 32, .load false none (.tmp 31), none⟩,
   ⟨some 33, .faddr 1 (.tmp 4), none⟩,
   ⟨none, .store 1 (.tmp 33) (.con (.bool true)), none⟩,
   ⟨some 34, .faddr 2 (.tmp 4), none⟩,
   ⟨none, .store 1 (.tmp 34) (.tmp 32), none⟩] (some [0, 1, 0, 4, 15, 31]) [2, 3, 4, 6, 7]) <|
  .seq (.reg [⟨some 35, .faddr 0 (.tmp 3), none⟩,
   ⟨some 36, .load false none (.tmp 35), none⟩,
   ⟨some 37, .faddr 2 (.tmp 3), none⟩,
   ⟨some 38, .load false none (.tmp 37), none⟩,
   ⟨some 39, .faddr 3 (.tmp 3), none⟩,
   ⟨some 40, .load false none (.tmp 39), none⟩,
   ⟨some 41, .mv (.tmp 2), none⟩,
   ⟨some 42, .build [(.int .i64 0), (.int .i64 0), (.int .u32 0), (.int .i64 0), (.int .i64 0), .nils, (.int .i64 0), (.int .i64 0)] [(0, 1, (.tmp 36)), (1, 1, (.con (.int .i64 2))), (2, 1, (.tmp 38)), (3, 1, (.tmp 40)), (7, 1, (.tmp 41))], none⟩,
   ⟨some 43, .load true (some 4) (.tmp 4), none⟩,
   ⟨none, .store 8 (.tmp 6) (.tmp 42), none⟩,
   ⟨none, .store 4 (.tmp 7) (.tmp 43), none⟩] (some [0, 1, 0, 4, 0, 16, 0, 127, 0, 255, 1023]) [6, 7]) <|
  .ret⟩
theorem pf59_ok : cFn Try.prog [(14, [true]), (15, [true]), (28, [true]), (30, [true]), (43, [true])] [[2, 3, 4, 6, 7], [2, 3, 4, 6, 7, 13], [6, 7], [2, 3, 4, 6, 7, 18], [3, 4, 6, 7], [6, 7], [2, 3, 4, 6, 7], [6, 7]] Try.f59 = some pf59 := by kernel_rfl

-- 60 passkey/passkeyref1.Sum calls [61]
def pf60 : PFn :=
  ⟨86, 3, [.tmp 6],
  .seq (.reg [⟨some 6, .asg (.con (.int .u64 0)), none⟩] none [0, 1, 2]) <|
  .seq (.reg [⟨some 12, .mv (.tmp 0), none⟩,
   ⟨some 13, .bin .xor (.tmp 12) (.con (.int .u64 8317987319222330741)), none⟩,
   ⟨some 14, .mv (.tmp 1), none⟩,
   ⟨some 15, .bin .xor (.tmp 14) (.con (.int .u64 7237128888997146477)), none⟩,
   ⟨some 16, .mv (.tmp 0), none⟩,
   ⟨some 17, .bin .xor (.tmp 16) (.con (.int .u64 7816392313619706465)), none⟩,
   ⟨some 18, .mv (.tmp 1), none⟩,
   ⟨some 19, .bin .xor (.tmp 18) (.con (.int .u64 8387220255154660723)), none⟩,
   ⟨some 20, .build [(.int .u64 0), (.int .u64 0), (.int .u64 0), (.int .u64 0)] [(0, 1, (.tmp 13)), (1, 1, (.tmp 15)), (2, 1, (.tmp 17)), (3, 1, (.tmp 19))], none⟩,
   ⟨some 7, .alloc [(.int .u64 0), (.int .u64 0), (.int .u64 0), (.int .u64 0)], none⟩,
   ⟨none, .store 4 (.tmp 7) (.tmp 20), none⟩] none [2, 7]) <|
  .seq (.seq (.reg [⟨some 8, .asg (.con (.int .i64 0)), none⟩] none [2, 7, 8]) <|
  .block 0 <|
  .loop [2, 7, 8] <|
  .seq (.seq (.reg [⟨some 21, .mv (.tmp 8), none⟩,
   ⟨some 22, .mv (.tmp 2), none⟩,
   ⟨some 23, .len (.tmp 22), none⟩,
   ⟨some 24, .bin .leq (.tmp 21) (.tmp 23), none⟩] none [2, 7, 8, 24]) <|
  .cond (.tmp 24) (.skip) <|
   .exit 0) <|
  .seq (.block 1 <|
  .seq (.reg [⟨some 9, .asg (.con (.int .u64 0)), none⟩] none [2, 7, 8, 9]) <|
  .seq (.seq (.reg [⟨some 10, .asg (.con (.int .i64 7)), none⟩] none [2, 7, 8, 9, 10]) <|
  .block 2 <|
  .loop [2, 7, 8, 9, 10] <|
  .seq (.seq (.reg [⟨some 27, .mv (.tmp 10), none⟩,
   ⟨some 28, .bin .geq (.tmp 27) (.con (.int .i64 0)), none⟩] none [2, 7, 8, 9, 10, 28]) <|
  .cond (.tmp 28) (.skip) <|
   .exit 2) <|
  .seq (.block 3 <|
  .seq (.reg [⟨some 11, .asg (.con (.int .u8 0)), none⟩] none [2, 7, 8, 9, 10, 11]) <|
  .seq (.seq (.reg [⟨some 31, .mv (.tmp 8), none⟩,
   ⟨some 32, .mv (.tmp 10), none⟩,
   ⟨some 33, .bin .add (.tmp 31) (.tmp 32), none⟩,
   ⟨some 34, .mv (.tmp 2), none⟩,
   ⟨some 35, .len (.tmp 34), none⟩,
   ⟨some 36, .bin .lss (.tmp 33) (.tmp 35), none⟩] none [2, 7, 8, 9, 10, 11, 36]) <|
  .cond (.tmp 36) (.reg [⟨some 37, .mv (.tmp 2), none⟩,
    ⟨some 38, .mv (.tmp 8), none⟩,
    ⟨some 39, .mv (.tmp 10), none⟩,
    ⟨some 40, .bin .add (.tmp 38) (.tmp 39), none⟩,
    ⟨some 41, .iaddrS 1 (.tmp 37) (.tmp 40), none⟩,
    ⟨some 42, .load false none (.tmp 41), none⟩,
    ⟨some 11, .asg (.tmp 42), none⟩] none [2, 7, 8, 9, 10, 11]) <|
   .seq (.reg [⟨some 43, .mv (.tmp 10), none⟩,
    ⟨some 44, .bin .eql (.tmp 43) (.con (.int .i64 7)), none⟩] none [2, 7, 8, 9, 10, 11, 44]) <|
   .cond (.tmp 44) (.reg [⟨some 45, .mv (.tmp 2), none⟩,
     ⟨some 46, .len (.tmp 45), none⟩,
     ⟨some 47, .cvInt .u8 (.tmp 46), none⟩,
     ⟨some 11, .asg (.tmp 47), none⟩] none [2, 7, 8, 9, 10, 11]) <|
    .skip) <|
  .reg [⟨some 48, .mv (.tmp 9), none⟩,
   ⟨some 49, .bin .shl (.tmp 48) (.con (.int .u64 8)), none⟩,
   ⟨some 50, .mv (.tmp 11), none⟩,
   ⟨some 51, .cvInt .u64 (.tmp 50), none⟩,
   ⟨some 52, .bin .or (.tmp 49) (.tmp 51), none⟩,
   ⟨some 9, .asg (.tmp 52), none⟩] none [2, 7, 8, 9, 10]) <|
  .reg [⟨some 29, .mv (.tmp 10), none⟩,
   ⟨some 30, .bin .sub (.tmp 29) (.con (.int .i64 1)), none⟩,
   ⟨some 10, .asg (.tmp 30), none⟩] none [2, 7, 8, 9, 10]) <|
  .seq (.reg [⟨some 53, .iaddrA 4 1 (.tmp 7) (.con (.int .i64 3)), none⟩,
   ⟨some 54, .load false none (.tmp 53), none⟩,
   ⟨some 55, .mv (.tmp 9), none⟩,
   ⟨some 56, .bin .xor (.tmp 54) (.tmp 55), none⟩,
   ⟨some 57, .iaddrA 4 1 (.tmp 7) (.con (.int .i64 3)), none⟩,
   ⟨none, .store 1 (.tmp 57) (.tmp 56), none⟩] none [2, 7, 8, 9]) <|
  .seq (.reg [⟨some 58, .load true (some 4) (.tmp 7), none⟩,
   ⟨some 59, .call 61 [(false, (.tmp 58))], none⟩,
   ⟨some 60, .call 61 [(false, (.tmp 59))], none⟩,
   ⟨none, .store 4 (.tmp 7) (.tmp 60), none⟩] none [2, 7, 8, 9]) <|
  .reg [⟨some 61, .iaddrA 4 1 (.tmp 7) (.con (.int .i64 0)), none⟩,
   ⟨some 62, .load false none (.tmp 61), none⟩,
   ⟨some 63, .mv (.tmp 9), none⟩,
   ⟨some 64, .bin .xor (.tmp 62) (.tmp 63), none⟩,
   ⟨some 65, .iaddrA 4 1 (.tmp 7) (.con (.int .i64 0)), none⟩,
   ⟨none, .store 1 (.tmp 65) (.tmp 64), none⟩] none [2, 7, 8]) <|
  .reg [⟨some 25, .mv (.tmp 8), none⟩,
   ⟨some 26, .bin .add (.tmp 25) (.con (.int .i64 8)), none⟩,
   ⟨some 8, .asg (.tmp 26), none⟩] none [2, 7, 8]) <|
  .seq (.reg [⟨some 66, .iaddrA 4 1 (.tmp 7) (.con (.int .i64 2)), none⟩,
   ⟨some 67, .load false none (.tmp 66), none⟩,
   ⟨some 68, .bin .xor (.tmp 67) (.con (.int .u64 255)), none⟩,
   ⟨some 69, .iaddrA 4 1 (.tmp 7) (.con (.int .i64 2)), none⟩,
   ⟨none, .store 1 (.tmp 69) (.tmp 68), none⟩] none [7]) <|
  .seq (.reg [⟨some 70, .load true (some 4) (.tmp 7), none⟩,
   ⟨some 71, .call 61 [(false, (.tmp 70))], none⟩,
   ⟨some 72, .call 61 [(false, (.tmp 71))], none⟩,
   ⟨some 73, .call 61 [(false, (.tmp 72))], none⟩,
   ⟨some 74, .call 61 [(false, (.tmp 73))], none⟩,
   ⟨none, .store 4 (.tmp 7) (.tmp 74), none⟩] none [7]) <|
  .seq (.reg [⟨some 75, .iaddrA 4 1 (.tmp 7) (.con (.int .i64 0)), none⟩,
   ⟨some 76, .load false none (.tmp 75), none⟩,
   ⟨some 77, .iaddrA 4 1 (.tmp 7) (.con (.int .i64 1)), none⟩,
   ⟨some 78, .load false none (.tmp 77), none⟩,
   ⟨some 79, .bin .xor (.tmp 76) (.tmp 78), none⟩,
   ⟨some 80, .iaddrA 4 1 (.tmp 7) (.con (.int .i64 2)), none⟩,
   ⟨some 81, .load false none (.tmp 80), none⟩,
   ⟨some 82, .bin .xor (.tmp 79) (.tmp 81), none⟩,
   ⟨some 83, .iaddrA 4 1 (.tmp 7) (.con (.int .i64 3)), none⟩,
   ⟨some 84, .load false none (.tmp 83), none⟩,
   ⟨some 85, .bin .xor (.tmp 82) (.tmp 84), none⟩,
   ⟨some 6, .asg (.tmp 85), none⟩] none [6]) <|
  .ret⟩
theorem pf60_ok : cFn Try.prog [(58, [true]), (70, [true])] [[0, 1, 2], [2, 7], [2, 7, 8], [2, 7, 8], [2, 7, 8, 24], [2, 7, 8, 9], [2, 7, 8, 9, 10], [2, 7, 8, 9, 10], [2, 7, 8, 9, 10, 28], [2, 7, 8, 9, 10, 11], [2, 7, 8, 9, 10, 11, 36], [2, 7, 8, 9, 10, 11], [2, 7, 8, 9, 10, 11, 44], [2, 7, 8, 9, 10, 11], [2, 7, 8, 9, 10], [2, 7, 8, 9, 10], [2, 7, 8, 9], [2, 7, 8, 9], [2, 7, 8], [2, 7, 8], [7], [7], [6]] Try.f60 = some pf60 := by kernel_rfl

-- 61 passkey/passkeyref1.round calls [62]
def pf61 : PFn :=
  ⟨64, 1, [.cell 2 (some 4)],
  .seq (.reg [⟨some 1, .box (.tmp 0), none⟩,
   ⟨some 2, .alloc [(.int .u64 0), (.int .u64 0), (.int .u64 0), (.int .u64 0)], none⟩] none [1, 2]) <|
  .seq (.reg [⟨some 3, .iaddrA 4 1 (.tmp 1) (.con (.int .i64 0)), none⟩,
   ⟨some 4, .load false none (.tmp 3), none⟩,
   ⟨some 5, .iaddrA 4 1 (.tmp 1) (.con (.int .i64 1)), none⟩,
   ⟨some 6, .load false none (.tmp 5), none⟩,
   ⟨some 7, .bin .add (.tmp 4) (.tmp 6), none⟩,
   ⟨some 8, .iaddrA 4 1 (.tmp 1) (.con (.int .i64 0)), none⟩,
   ⟨none, .store 1 (.tmp 8) (.tmp 7), none⟩] none [1, 2]) <|
  .seq (.reg [⟨some 9, .iaddrA 4 1 (.tmp 1) (.con (.int .i64 1)), none⟩,
   ⟨some 10, .load false none (.tmp 9), none⟩,
   ⟨some 11, .call 62 [(false, (.tmp 10)), (false, (.con (.int .u64 13)))], none⟩,
   ⟨some 12, .iaddrA 4 1 (.tmp 1) (.con (.int .i64 0)), none⟩,
   ⟨some 13, .load false none (.tmp 12), none⟩,
   ⟨some 14, .bin .xor (.tmp 11) (.tmp 13), none⟩,
   ⟨some 15, .iaddrA 4 1 (.tmp 1) (.con (.int .i64 1)), none⟩,
   ⟨none, .store 1 (.tmp 15) (.tmp 14), none⟩] (some [0, 1, 3, 0, 8, 31, 63, 127]) [1, 2]) <|
  .seq (.reg [⟨some 16, .iaddrA 4 1 (.tmp 1) (.con (.int .i64 0)), none⟩,
   ⟨some 17, .load false none (.tmp 16), none⟩,
   ⟨some 18, .call 62 [(false, (.tmp 17)), (false, (.con (.int .u64 32)))], none⟩,
   ⟨some 19, .iaddrA 4 1 (.tmp 1) (.con (.int .i64 0)), none⟩,
   ⟨none, .store 1 (.tmp 19) (.tmp 18), none⟩] none [1, 2]) <|
  .seq (.reg [⟨some 20, .iaddrA 4 1 (.tmp 1) (.con (.int .i64 2)), none⟩,
   ⟨some 21, .load false none (.tmp 20), none⟩,
   ⟨some 22, .iaddrA 4 1 (.tmp 1) (.con (.int .i64 3)), none⟩,
   ⟨some 23, .load false none (.tmp 22), none⟩,
   ⟨some 24, .bin .add (.tmp 21) (.tmp 23), none⟩,
   ⟨some 25, .iaddrA 4 1 (.tmp 1) (.con (.int .i64 2)), none⟩,
   ⟨none, .store 1 (.tmp 25) (.tmp 24), none⟩] none [1, 2]) <|
  .seq (.reg [⟨some 26, .iaddrA 4 1 (.tmp 1) (.con (.int .i64 3)), none⟩,
   ⟨some 27, .load false none (.tmp 26), none⟩,
   ⟨some 28, .call 62 [(false, (.tmp 27)), (false, (.con (.int .u64 16)))], none⟩,
   ⟨some 29, .iaddrA 4 1 (.tmp 1) (.con (.int .i64 2)), none⟩,
   ⟨some 30, .load false none (.tmp 29), none⟩,
   ⟨some 31, .bin .xor (.tmp 28) (.tmp 30), none⟩,
   ⟨some 32, .iaddrA 4 1 (.tmp 1) (.con (.int .i64 3)), none⟩,
   ⟨none, .store 1 (.tmp 32) (.tmp 31), none⟩] (some [0, 1, 3, 0, 8, 31, 63, 127]) [1, 2]) <|
  .seq (.reg [⟨some 33, .iaddrA 4 1 (.tmp 1) (.con (.int .i64 0)), none⟩,
   ⟨some 34, .load false none (.tmp 33), none⟩,
   ⟨some 35, .iaddrA 4 1 (.tmp 1) (.con (.int .i64 3)), none⟩,
   ⟨some 36, .load false none (.tmp 35), none⟩,
   ⟨some 37, .bin .add (.tmp 34) (.tmp 36), none⟩,
   ⟨some 38, .iaddrA 4 1 (.tmp 1) (.con (.int .i64 0)), none⟩,
   ⟨none, .store 1 (.tmp 38) (.tmp 37), none⟩] none [1, 2]) <|
  .seq (.reg [⟨some 39, .iaddrA 4 1 (.tmp 1) (.con (.int .i64 3)), none⟩,
   ⟨some 40, .load false none (.tmp 39), none⟩,
   ⟨some 41, .call 62 [(false, (.tmp 40)), (false, (.con (.int .u64 21)))], none⟩,
   ⟨some 42, .iaddrA 4 1 (.tmp 1) (.con (.int .i64 0)), none⟩,
   ⟨some 43, .load false none (.tmp 42), none⟩,
   ⟨some 44, .bin .xor (.tmp 41) (.tmp 43), none⟩,
   ⟨some 45, .iaddrA 4 1 (.tmp 1) (.con (.int .i64 3)), none⟩,
   ⟨none, .store 1 (.tmp 45) (.tmp 44), none⟩] (some [0, 1, 3, 0, 8, 31, 63, 127]) [1, 2]) <|
  .seq (.reg [⟨some 46, .iaddrA 4 1 (.tmp 1) (.con (.int .i64 2)), none⟩,
   ⟨some 47, .load false none (.tmp 46), none⟩,
   ⟨some 48, .iaddrA 4 1 (.tmp 1) (.con (.int .i64 1)), none⟩,
   ⟨some 49, .load false none (.tmp 48), none⟩,
   ⟨some 50, .bin .add (.tmp 47) (.tmp 49), none⟩,
   ⟨some 51, .iaddrA 4 1 (.tmp 1) (.con (.int .i64 2)), none⟩,
   ⟨none, .store 1 (.tmp 51) (.tmp 50), none⟩] none [1, 2]) <|
  .seq (.reg [⟨some 52, .iaddrA 4 1 (.tmp 1) (.con (.int .i64 1)), none⟩,
   ⟨some 53, .load false none (.tmp 52), none⟩,
   ⟨some 54, .call 62 [(false, (.tmp 53)), (false, (.con (.int .u64 17)))], none⟩,
   ⟨some 55, .iaddrA 4 1 (.tmp 1) (.con (.int .i64 2)), none⟩,
   ⟨some 56, .load false none (.tmp 55), none⟩,
   ⟨some 57, .bin .xor (.tmp 54) (.tmp 56), none⟩,
   ⟨some 58, .iaddrA 4 1 (.tmp 1) (.con (.int .i64 1)), none⟩,
   ⟨none, .store 1 (.tmp 58) (.tmp 57), none⟩] (some [0, 1, 3, 0, 8, 31, 63, 127]) [1, 2]) <|
  .seq (.reg [⟨some 59, .iaddrA 4 1 (.tmp 1) (.con (.int .i64 2)), none⟩,
   ⟨some 60, .load false none (.tmp 59), none⟩,
   ⟨some 61, .call 62 [(false, (.tmp 60)), (false, (.con (.int .u64 32)))], none⟩,
   ⟨some 62, .iaddrA 4 1 (.tmp 1) (.con (.int .i64 2)), none⟩,
   ⟨none, .store 1 (.tmp 62) (.tmp 61), none⟩] none [1, 2]) <|
  .seq (.reg [⟨some 63, .load true (some 4) (.tmp 1), none⟩,
   ⟨none, .store 4 (.tmp 2) (.tmp 63), none⟩] none [2]) <|
  .ret⟩
theorem pf61_ok : cFn Try.prog [(63, [true])] [[1, 2], [1, 2], [1, 2], [1, 2], [1, 2], [1, 2], [1, 2], [1, 2], [1, 2], [1, 2], [1, 2], [2]] Try.f61 = some pf61 := by kernel_rfl

-- 62 passkey/passkeyref1.rotl calls []
def pf62 : PFn :=
  ⟨13, 2, [.tmp 4],
  .seq (.reg [⟨some 4, .asg (.con (.int .u64 0)), none⟩] none [0, 1]) <|
  .seq (.reg [⟨some 5, .mv (.tmp 0), none⟩,
   ⟨some 6, .mv (.tmp 1), none⟩,
   ⟨some 7, .bin .shl (.tmp 5) (.tmp 6), none⟩,
   ⟨some 8, .mv (.tmp 0), none⟩,
   ⟨some 9, .mv (.tmp 1), none⟩,
   ⟨some 10, .bin .sub (.con (.int .u64 64)) (.tmp 9), none⟩,
   ⟨some 11, .bin .shr (.tmp 8) (.tmp 10), none⟩,
   ⟨some 12, .bin .or (.tmp 7) (.tmp 11), none⟩,
   ⟨some 4, .asg (.tmp 12), none⟩] none [4]) <|
  .ret⟩
theorem pf62_ok : cFn Try.prog [] [[0, 1], [4]] Try.f62 = some pf62 := by kernel_rfl

end Go.Proofs.Ytcngkdickmahhaa
