/- Parts of the proof of the statement: EvCdB, FClone, FRun, SHas, EvCdC, STab2, FHand, FHand2, EvRound, FRound. -/
import Derived.Test.YtohphljemhmocaaGreatPart00
import Derived.Test.YtohphljemhmocaaGreatPart01
import Derived.Test.YtohphljemhmocaaGreatPart02
import Derived.Test.YtohphljemhmocaaGreatChecked
import Derived.RangeFuncIn
import Derived.RangeFuncCalls
import Derived.LoopNIn
import Derived.OrdersIn
set_option linter.unusedVariables false
set_option linter.unusedSimpArgs false
/- Code of functions, printed from the translation by a program of mine. -/
set_option maxRecDepth 100000
namespace Go.Ev
/- eliminant/eliminantref01.trim -/
def l_ref01_trim_0 : C :=
 .seq (.seq (.reg [⟨none, .mv 6 (.t 3)⟩,
    ⟨none, .bin 7 .gtr (.t 6) (.c (.i .i64 0))⟩,
    ⟨none, .mv 8 (.t 7)⟩,
    ⟨some (8, true, 9), .mv 9 (.t 0)⟩,
    ⟨some (8, true, 10), .mv 10 (.t 3)⟩,
    ⟨some (8, true, 11), .bin 11 .sub (.t 10) (.c (.i .i64 1))⟩,
    ⟨some (8, true, 12), .iaddrS 12 1 (.t 9) (.t 11)⟩,
    ⟨some (8, true, 13), .load 13 1 false (.t 12)⟩,
    ⟨some (8, true, 14), .bin 14 .eql (.t 13) (.c (.i .u32 0))⟩,
    ⟨none, .pick 15 (.t 8) (.t 14) (.c (.b false))⟩])
  (.cond (.t 15) (.skip)
   (.exit 0)))
 (.block 1 (.reg [⟨none, .mv 16 (.t 3)⟩,
    ⟨none, .bin 17 .sub (.t 16) (.c (.i .i64 1))⟩,
    ⟨none, .mv 3 (.t 17)⟩]))
def c_ref01_trim : Fun := ⟨1, [.t 2],
 .seq (.reg [⟨none, .mv 2 (.c (.nil))⟩])
 (.seq (.reg [⟨none, .mv 4 (.t 0)⟩,
    ⟨none, .len 5 (.t 4)⟩,
    ⟨none, .mv 3 (.t 5)⟩])
  (.seq (.block 0 (.loop l_ref01_trim_0))
   (.seq (.reg [⟨none, .mv 18 (.t 0)⟩,
      ⟨none, .mv 19 (.t 3)⟩,
      ⟨none, .slice 20 1 (.t 18) none (some (.t 19)) none⟩,
      ⟨none, .mv 2 (.t 20)⟩])
    (.ret))))⟩
/- eliminant/eliminantref01.made -/
def c_ref01_made : Fun := ⟨2, [.c 4 2 true],
 .seq (.reg [⟨none, .alloc 4 [.b false, .nil]⟩])
 (.seq (.reg [⟨none, .mv 6 (.t 1)⟩,
    ⟨none, .call (some 7) n_ref01_trim [.t 6]⟩,
    ⟨none, .mv 5 (.t 7)⟩])
  (.seq (.reg [⟨none, .mv 8 (.t 0)⟩,
     ⟨none, .mv 9 (.t 8)⟩,
     ⟨some (9, true, 10), .mv 10 (.t 5)⟩,
     ⟨some (9, true, 11), .len 11 (.t 10)⟩,
     ⟨some (9, true, 12), .bin 12 .gtr (.t 11) (.c (.i .i64 0))⟩,
     ⟨none, .pick 13 (.t 9) (.t 12) (.c (.b false))⟩,
     ⟨none, .mv 14 (.t 5)⟩,
     ⟨none, .build 15 [.b false, .nil] [(0, 1, .t 13), (1, 1, .t 14)]⟩,
     ⟨none, .store 2 (.t 4) (.t 15)⟩])
   (.ret)))⟩
/- eliminant/eliminantref01.words -/
def c_ref01_words : Fun := ⟨1, [.t 2],
 .seq (.reg [⟨none, .mv 2 (.c (.nil))⟩])
 (.seq (.reg [⟨none, .mv 3 (.t 0)⟩,
    ⟨none, .bin 4 .rem (.t 3) (.c (.i .u64 4294967296))⟩,
    ⟨none, .conv 5 .u32 (.t 4)⟩,
    ⟨none, .mv 6 (.t 0)⟩,
    ⟨none, .bin 7 .quo (.t 6) (.c (.i .u64 4294967296))⟩,
    ⟨none, .conv 8 .u32 (.t 7)⟩,
    ⟨none, .bslice 9 2 1 [.i .u32 0] [(0, 1, .t 5), (1, 1, .t 8)]⟩,
    ⟨none, .call (some 10) n_ref01_trim [.t 9]⟩,
    ⟨none, .mv 2 (.t 10)⟩])
  (.ret))⟩
/- eliminant/eliminantref01.word -/
def c_ref01_word : Fun := ⟨2, [.t 4],
 .seq (.reg [⟨none, .mv 4 (.c (.i .u64 0))⟩])
 (.seq (.seq (.reg [⟨none, .mv 5 (.t 1)⟩,
     ⟨none, .mv 6 (.t 0)⟩,
     ⟨none, .len 7 (.t 6)⟩,
     ⟨none, .bin 8 .lss (.t 5) (.t 7)⟩])
   (.cond (.t 8) (.seq (.reg [⟨none, .mv 9 (.t 0)⟩,
       ⟨none, .mv 10 (.t 1)⟩,
       ⟨none, .iaddrS 11 1 (.t 9) (.t 10)⟩,
       ⟨none, .load 12 1 false (.t 11)⟩,
       ⟨none, .conv 13 .u64 (.t 12)⟩,
       ⟨none, .mv 4 (.t 13)⟩])
     (.ret))
    (.skip)))
  (.seq (.reg [⟨none, .mv 4 (.c (.i .u64 0))⟩])
   (.ret)))⟩
/- eliminant/eliminantref01.number -/
def c_ref01_number : Fun := ⟨1, [.t 2],
 .seq (.reg [⟨none, .mv 2 (.c (.i .u64 0))⟩])
 (.seq (.reg [⟨none, .mv 3 (.t 0)⟩,
    ⟨none, .call (some 4) n_ref01_word [.t 3, .c (.i .i64 1)]⟩,
    ⟨none, .bin 5 .mul (.t 4) (.c (.i .u64 4294967296))⟩,
    ⟨none, .mv 6 (.t 0)⟩,
    ⟨none, .call (some 7) n_ref01_word [.t 6, .c (.i .i64 0)]⟩,
    ⟨none, .bin 8 .add (.t 5) (.t 7)⟩,
    ⟨none, .mv 2 (.t 8)⟩])
  (.ret))⟩
/- eliminant/eliminantref01.compared -/
def l_ref01_compared_0 : C :=
 .seq (.seq (.reg [⟨none, .mv 19 (.t 5)⟩,
    ⟨none, .bin 20 .geq (.t 19) (.c (.i .i64 0))⟩])
  (.cond (.t 20) (.skip)
   (.exit 0)))
 (.seq (.block 1 (.seq (.seq (.reg [⟨none, .mv 23 (.t 0)⟩,
       ⟨none, .mv 24 (.t 5)⟩,
       ⟨none, .iaddrS 25 1 (.t 23) (.t 24)⟩,
       ⟨none, .load 26 1 false (.t 25)⟩,
       ⟨none, .mv 27 (.t 1)⟩,
       ⟨none, .mv 28 (.t 5)⟩,
       ⟨none, .iaddrS 29 1 (.t 27) (.t 28)⟩,
       ⟨none, .load 30 1 false (.t 29)⟩,
       ⟨none, .bin 31 .lss (.t 26) (.t 30)⟩])
     (.cond (.t 31) (.seq (.reg [⟨none, .mv 4 (.c (.i .i64 (-1)))⟩])
       (.ret))
      (.skip)))
    (.seq (.reg [⟨none, .mv 32 (.t 0)⟩,
       ⟨none, .mv 33 (.t 5)⟩,
       ⟨none, .iaddrS 34 1 (.t 32) (.t 33)⟩,
       ⟨none, .load 35 1 false (.t 34)⟩,
       ⟨none, .mv 36 (.t 1)⟩,
       ⟨none, .mv 37 (.t 5)⟩,
       ⟨none, .iaddrS 38 1 (.t 36) (.t 37)⟩,
       ⟨none, .load 39 1 false (.t 38)⟩,
       ⟨none, .bin 40 .gtr (.t 35) (.t 39)⟩])
     (.cond (.t 40) (.seq (.reg [⟨none, .mv 4 (.c (.i .i64 1))⟩])
       (.ret))
      (.skip)))))
  (.reg [⟨none, .mv 21 (.t 5)⟩,
    ⟨none, .bin 22 .sub (.t 21) (.c (.i .i64 1))⟩,
    ⟨none, .mv 5 (.t 22)⟩]))
def c_ref01_compared : Fun := ⟨2, [.t 4],
 .seq (.reg [⟨none, .mv 4 (.c (.i .i64 0))⟩])
 (.seq (.seq (.reg [⟨none, .mv 6 (.t 0)⟩,
     ⟨none, .len 7 (.t 6)⟩,
     ⟨none, .mv 8 (.t 1)⟩,
     ⟨none, .len 9 (.t 8)⟩,
     ⟨none, .bin 10 .lss (.t 7) (.t 9)⟩])
   (.cond (.t 10) (.seq (.reg [⟨none, .mv 4 (.c (.i .i64 (-1)))⟩])
     (.ret))
    (.skip)))
  (.seq (.seq (.reg [⟨none, .mv 11 (.t 0)⟩,
      ⟨none, .len 12 (.t 11)⟩,
      ⟨none, .mv 13 (.t 1)⟩,
      ⟨none, .len 14 (.t 13)⟩,
      ⟨none, .bin 15 .gtr (.t 12) (.t 14)⟩])
    (.cond (.t 15) (.seq (.reg [⟨none, .mv 4 (.c (.i .i64 1))⟩])
      (.ret))
     (.skip)))
   (.seq (.seq (.reg [⟨none, .mv 16 (.t 0)⟩,
       ⟨none, .len 17 (.t 16)⟩,
       ⟨none, .bin 18 .sub (.t 17) (.c (.i .i64 1))⟩,
       ⟨none, .mv 5 (.t 18)⟩])
     (.block 0 (.loop l_ref01_compared_0)))
    (.seq (.reg [⟨none, .mv 4 (.c (.i .i64 0))⟩])
     (.ret)))))⟩
/- eliminant/eliminantref01.added -/
def l_ref01_added_0 : C :=
 .seq (.seq (.reg [⟨none, .mv 18 (.t 8)⟩,
    ⟨none, .mv 19 (.t 5)⟩,
    ⟨none, .bin 20 .lss (.t 18) (.t 19)⟩])
  (.cond (.t 20) (.skip)
   (.exit 0)))
 (.seq (.block 1 (.seq (.reg [⟨none, .mv 23 (.t 0)⟩,
      ⟨none, .mv 24 (.t 8)⟩,
      ⟨none, .call (some 25) n_ref01_word [.t 23, .t 24]⟩,
      ⟨none, .mv 26 (.t 1)⟩,
      ⟨none, .mv 27 (.t 8)⟩,
      ⟨none, .call (some 28) n_ref01_word [.t 26, .t 27]⟩,
      ⟨none, .bin 29 .add (.t 25) (.t 28)⟩,
      ⟨none, .mv 30 (.t 7)⟩,
      ⟨none, .bin 31 .add (.t 29) (.t 30)⟩,
      ⟨none, .mv 9 (.t 31)⟩])
    (.seq (.reg [⟨none, .mv 32 (.t 6)⟩,
       ⟨none, .mv 33 (.t 8)⟩,
       ⟨none, .mv 34 (.t 9)⟩,
       ⟨none, .bin 35 .rem (.t 34) (.c (.i .u64 4294967296))⟩,
       ⟨none, .conv 36 .u32 (.t 35)⟩,
       ⟨none, .iaddrS 37 1 (.t 32) (.t 33)⟩,
       ⟨none, .store 1 (.t 37) (.t 36)⟩])
     (.reg [⟨none, .mv 38 (.t 9)⟩,
       ⟨none, .bin 39 .quo (.t 38) (.c (.i .u64 4294967296))⟩,
       ⟨none, .mv 7 (.t 39)⟩]))))
  (.reg [⟨none, .mv 21 (.t 8)⟩,
    ⟨none, .bin 22 .add (.t 21) (.c (.i .i64 1))⟩,
    ⟨none, .mv 8 (.t 22)⟩]))
def c_ref01_added : Fun := ⟨2, [.t 4],
 .seq (.reg [⟨none, .mv 4 (.c (.nil))⟩])
 (.seq (.reg [⟨none, .mv 10 (.t 0)⟩,
    ⟨none, .len 11 (.t 10)⟩,
    ⟨none, .mv 12 (.t 1)⟩,
    ⟨none, .len 13 (.t 12)⟩,
    ⟨none, .mnx 14 true (.t 11) (.t 13)⟩,
    ⟨none, .bin 15 .add (.t 14) (.c (.i .i64 1))⟩,
    ⟨none, .mv 5 (.t 15)⟩])
  (.seq (.reg [⟨none, .mv 16 (.t 5)⟩,
     ⟨none, .mkslice 17 1 [.i .u32 0] (.t 16) (.t 16)⟩,
     ⟨none, .mv 6 (.t 17)⟩])
   (.seq (.reg [⟨none, .mv 7 (.c (.i .u64 0))⟩])
    (.seq (.seq (.reg [⟨none, .mv 8 (.c (.i .i64 0))⟩])
      (.block 0 (.loop l_ref01_added_0)))
     (.seq (.reg [⟨none, .mv 40 (.t 6)⟩,
        ⟨none, .call (some 41) n_ref01_trim [.t 40]⟩,
        ⟨none, .mv 4 (.t 41)⟩])
      (.ret))))))⟩
/- eliminant/eliminantref01.taken -/
def l_ref01_taken_0 : C :=
 .seq (.seq (.reg [⟨none, .mv 12 (.t 7)⟩,
    ⟨none, .mv 13 (.t 0)⟩,
    ⟨none, .len 14 (.t 13)⟩,
    ⟨none, .bin 15 .lss (.t 12) (.t 14)⟩])
  (.cond (.t 15) (.skip)
   (.exit 0)))
 (.seq (.block 1 (.seq (.reg [⟨none, .mv 18 (.t 0)⟩,
      ⟨none, .mv 19 (.t 7)⟩,
      ⟨none, .iaddrS 20 1 (.t 18) (.t 19)⟩,
      ⟨none, .load 21 1 false (.t 20)⟩,
      ⟨none, .conv 22 .u64 (.t 21)⟩,
      ⟨none, .bin 23 .add (.c (.i .u64 4294967296)) (.t 22)⟩,
      ⟨none, .mv 24 (.t 1)⟩,
      ⟨none, .mv 25 (.t 7)⟩,
      ⟨none, .call (some 26) n_ref01_word [.t 24, .t 25]⟩,
      ⟨none, .bin 27 .sub (.t 23) (.t 26)⟩,
      ⟨none, .mv 28 (.t 6)⟩,
      ⟨none, .bin 29 .sub (.t 27) (.t 28)⟩,
      ⟨none, .mv 8 (.t 29)⟩])
    (.seq (.reg [⟨none, .mv 30 (.t 5)⟩,
       ⟨none, .mv 31 (.t 7)⟩,
       ⟨none, .mv 32 (.t 8)⟩,
       ⟨none, .bin 33 .rem (.t 32) (.c (.i .u64 4294967296))⟩,
       ⟨none, .conv 34 .u32 (.t 33)⟩,
       ⟨none, .iaddrS 35 1 (.t 30) (.t 31)⟩,
       ⟨none, .store 1 (.t 35) (.t 34)⟩])
     (.reg [⟨none, .mv 36 (.t 8)⟩,
       ⟨none, .bin 37 .quo (.t 36) (.c (.i .u64 4294967296))⟩,
       ⟨none, .bin 38 .sub (.c (.i .u64 1)) (.t 37)⟩,
       ⟨none, .mv 6 (.t 38)⟩]))))
  (.reg [⟨none, .mv 16 (.t 7)⟩,
    ⟨none, .bin 17 .add (.t 16) (.c (.i .i64 1))⟩,
    ⟨none, .mv 7 (.t 17)⟩]))
def c_ref01_taken : Fun := ⟨2, [.t 4],
 .seq (.reg [⟨none, .mv 4 (.c (.nil))⟩])
 (.seq (.reg [⟨none, .mv 9 (.t 0)⟩,
    ⟨none, .len 10 (.t 9)⟩,
    ⟨none, .mkslice 11 1 [.i .u32 0] (.t 10) (.t 10)⟩,
    ⟨none, .mv 5 (.t 11)⟩])
  (.seq (.reg [⟨none, .mv 6 (.c (.i .u64 0))⟩])
   (.seq (.seq (.reg [⟨none, .mv 7 (.c (.i .i64 0))⟩])
     (.block 0 (.loop l_ref01_taken_0)))
    (.seq (.reg [⟨none, .mv 39 (.t 5)⟩,
       ⟨none, .call (some 40) n_ref01_trim [.t 39]⟩,
       ⟨none, .mv 4 (.t 40)⟩])
     (.ret)))))⟩
/- eliminant/eliminantref01.times -/
def l_ref01_times_0 : C :=
 .seq (.seq (.reg [⟨none, .mv 22 (.t 8)⟩,
    ⟨none, .mv 23 (.t 1)⟩,
    ⟨none, .len 24 (.t 23)⟩,
    ⟨none, .bin 25 .lss (.t 22) (.t 24)⟩])
  (.cond (.t 25) (.skip)
   (.exit 2)))
 (.seq (.block 3 (.seq (.reg [⟨none, .mv 28 (.t 0)⟩,
      ⟨none, .mv 29 (.t 6)⟩,
      ⟨none, .iaddrS 30 1 (.t 28) (.t 29)⟩,
      ⟨none, .load 31 1 false (.t 30)⟩,
      ⟨none, .conv 32 .u64 (.t 31)⟩,
      ⟨none, .mv 33 (.t 1)⟩,
      ⟨none, .mv 34 (.t 8)⟩,
      ⟨none, .iaddrS 35 1 (.t 33) (.t 34)⟩,
      ⟨none, .load 36 1 false (.t 35)⟩,
      ⟨none, .conv 37 .u64 (.t 36)⟩,
      ⟨none, .bin 38 .mul (.t 32) (.t 37)⟩,
      ⟨none, .mv 39 (.t 5)⟩,
      ⟨none, .mv 40 (.t 6)⟩,
      ⟨none, .mv 41 (.t 8)⟩,
      ⟨none, .bin 42 .add (.t 40) (.t 41)⟩,
      ⟨none, .iaddrS 43 1 (.t 39) (.t 42)⟩,
      ⟨none, .load 44 1 false (.t 43)⟩,
      ⟨none, .conv 45 .u64 (.t 44)⟩,
      ⟨none, .bin 46 .add (.t 38) (.t 45)⟩,
      ⟨none, .mv 47 (.t 7)⟩,
      ⟨none, .bin 48 .add (.t 46) (.t 47)⟩,
      ⟨none, .mv 9 (.t 48)⟩])
    (.seq (.reg [⟨none, .mv 49 (.t 5)⟩,
       ⟨none, .mv 50 (.t 6)⟩,
       ⟨none, .mv 51 (.t 8)⟩,
       ⟨none, .bin 52 .add (.t 50) (.t 51)⟩,
       ⟨none, .mv 53 (.t 9)⟩,
       ⟨none, .bin 54 .rem (.t 53) (.c (.i .u64 4294967296))⟩,
       ⟨none, .conv 55 .u32 (.t 54)⟩,
       ⟨none, .iaddrS 56 1 (.t 49) (.t 52)⟩,
       ⟨none, .store 1 (.t 56) (.t 55)⟩])
     (.reg [⟨none, .mv 57 (.t 9)⟩,
       ⟨none, .bin 58 .quo (.t 57) (.c (.i .u64 4294967296))⟩,
       ⟨none, .mv 7 (.t 58)⟩]))))
  (.reg [⟨none, .mv 26 (.t 8)⟩,
    ⟨none, .bin 27 .add (.t 26) (.c (.i .i64 1))⟩,
    ⟨none, .mv 8 (.t 27)⟩]))
def l_ref01_times_1 : C :=
 .seq (.seq (.reg [⟨none, .mv 16 (.t 6)⟩,
    ⟨none, .mv 17 (.t 0)⟩,
    ⟨none, .len 18 (.t 17)⟩,
    ⟨none, .bin 19 .lss (.t 16) (.t 18)⟩])
  (.cond (.t 19) (.skip)
   (.exit 0)))
 (.seq (.block 1 (.seq (.reg [⟨none, .mv 7 (.c (.i .u64 0))⟩])
    (.seq (.seq (.reg [⟨none, .mv 8 (.c (.i .i64 0))⟩])
      (.block 2 (.loop l_ref01_times_0)))
     (.reg [⟨none, .mv 59 (.t 5)⟩,
       ⟨none, .mv 60 (.t 6)⟩,
       ⟨none, .mv 61 (.t 1)⟩,
       ⟨none, .len 62 (.t 61)⟩,
       ⟨none, .bin 63 .add (.t 60) (.t 62)⟩,
       ⟨none, .mv 64 (.t 7)⟩,
       ⟨none, .conv 65 .u32 (.t 64)⟩,
       ⟨none, .iaddrS 66 1 (.t 59) (.t 63)⟩,
       ⟨none, .store 1 (.t 66) (.t 65)⟩]))))
  (.reg [⟨none, .mv 20 (.t 6)⟩,
    ⟨none, .bin 21 .add (.t 20) (.c (.i .i64 1))⟩,
    ⟨none, .mv 6 (.t 21)⟩]))
def c_ref01_times : Fun := ⟨2, [.t 4],
 .seq (.reg [⟨none, .mv 4 (.c (.nil))⟩])
 (.seq (.reg [⟨none, .mv 10 (.t 0)⟩,
    ⟨none, .len 11 (.t 10)⟩,
    ⟨none, .mv 12 (.t 1)⟩,
    ⟨none, .len 13 (.t 12)⟩,
    ⟨none, .bin 14 .add (.t 11) (.t 13)⟩,
    ⟨none, .mkslice 15 1 [.i .u32 0] (.t 14) (.t 14)⟩,
    ⟨none, .mv 5 (.t 15)⟩])
  (.seq (.seq (.reg [⟨none, .mv 6 (.c (.i .i64 0))⟩])
    (.block 0 (.loop l_ref01_times_1)))
   (.seq (.reg [⟨none, .mv 67 (.t 5)⟩,
      ⟨none, .call (some 68) n_ref01_trim [.t 67]⟩,
      ⟨none, .mv 4 (.t 68)⟩])
    (.ret))))⟩
/- eliminant/eliminantref01.shortly -/
def l_ref01_shortly_0 : C :=
 .seq (.seq (.reg [⟨none, .mv 16 (.t 8)⟩,
    ⟨none, .bin 17 .geq (.t 16) (.c (.i .i64 0))⟩])
  (.cond (.t 17) (.skip)
   (.exit 0)))
 (.seq (.block 1 (.seq (.reg [⟨none, .mv 20 (.t 7)⟩,
      ⟨none, .bin 21 .mul (.t 20) (.c (.i .u64 4294967296))⟩,
      ⟨none, .mv 22 (.t 0)⟩,
      ⟨none, .mv 23 (.t 8)⟩,
      ⟨none, .iaddrS 24 1 (.t 22) (.t 23)⟩,
      ⟨none, .load 25 1 false (.t 24)⟩,
      ⟨none, .conv 26 .u64 (.t 25)⟩,
      ⟨none, .bin 27 .add (.t 21) (.t 26)⟩,
      ⟨none, .mv 9 (.t 27)⟩])
    (.seq (.reg [⟨none, .mv 28 (.t 6)⟩,
       ⟨none, .mv 29 (.t 8)⟩,
       ⟨none, .mv 30 (.t 9)⟩,
       ⟨none, .mv 31 (.t 1)⟩,
       ⟨none, .bin 32 .quo (.t 30) (.t 31)⟩,
       ⟨none, .conv 33 .u32 (.t 32)⟩,
       ⟨none, .iaddrS 34 1 (.t 28) (.t 29)⟩,
       ⟨none, .store 1 (.t 34) (.t 33)⟩])
     (.reg [⟨none, .mv 35 (.t 9)⟩,
       ⟨none, .mv 36 (.t 1)⟩,
       ⟨none, .bin 37 .rem (.t 35) (.t 36)⟩,
       ⟨none, .mv 7 (.t 37)⟩]))))
  (.reg [⟨none, .mv 18 (.t 8)⟩,
    ⟨none, .bin 19 .sub (.t 18) (.c (.i .i64 1))⟩,
    ⟨none, .mv 8 (.t 19)⟩]))
def c_ref01_shortly : Fun := ⟨2, [.t 4, .t 5],
 .seq (.reg [⟨none, .mv 4 (.c (.nil))⟩,
   ⟨none, .mv 5 (.c (.i .u64 0))⟩])
 (.seq (.reg [⟨none, .mv 10 (.t 0)⟩,
    ⟨none, .len 11 (.t 10)⟩,
    ⟨none, .mkslice 12 1 [.i .u32 0] (.t 11) (.t 11)⟩,
    ⟨none, .mv 6 (.t 12)⟩])
  (.seq (.reg [⟨none, .mv 7 (.c (.i .u64 0))⟩])
   (.seq (.seq (.reg [⟨none, .mv 13 (.t 0)⟩,
       ⟨none, .len 14 (.t 13)⟩,
       ⟨none, .bin 15 .sub (.t 14) (.c (.i .i64 1))⟩,
       ⟨none, .mv 8 (.t 15)⟩])
     (.block 0 (.loop l_ref01_shortly_0)))
    (.seq (.reg [⟨none, .mv 38 (.t 6)⟩,
       ⟨none, .call (some 39) n_ref01_trim [.t 38]⟩,
       ⟨none, .mv 40 (.t 7)⟩,
       ⟨none, .mv 4 (.t 39)⟩,
       ⟨none, .mv 5 (.t 40)⟩])
     (.ret)))))⟩
/- eliminant/eliminantref01.guess -/
def l_ref01_guess_0 : C :=
 .seq (.seq (.reg [⟨none, .mv 40 (.t 7)⟩,
    ⟨none, .bin 41 .geq (.t 40) (.c (.i .u64 4294967296))⟩,
    ⟨none, .mv 42 (.t 41)⟩,
    ⟨some (42, false, 43), .mv 43 (.t 7)⟩,
    ⟨some (42, false, 44), .mv 44 (.t 1)⟩,
    ⟨some (42, false, 45), .mv 45 (.t 5)⟩,
    ⟨some (42, false, 46), .bin 46 .sub (.t 45) (.c (.i .i64 2))⟩,
    ⟨some (42, false, 47), .iaddrS 47 1 (.t 44) (.t 46)⟩,
    ⟨some (42, false, 48), .load 48 1 false (.t 47)⟩,
    ⟨some (42, false, 49), .conv 49 .u64 (.t 48)⟩,
    ⟨some (42, false, 50), .bin 50 .mul (.t 43) (.t 49)⟩,
    ⟨some (42, false, 51), .mv 51 (.t 8)⟩,
    ⟨some (42, false, 52), .bin 52 .mul (.t 51) (.c (.i .u64 4294967296))⟩,
    ⟨some (42, false, 53), .mv 53 (.t 0)⟩,
    ⟨some (42, false, 54), .mv 54 (.t 5)⟩,
    ⟨some (42, false, 55), .bin 55 .sub (.t 54) (.c (.i .i64 2))⟩,
    ⟨some (42, false, 56), .iaddrS 56 1 (.t 53) (.t 55)⟩,
    ⟨some (42, false, 57), .load 57 1 false (.t 56)⟩,
    ⟨some (42, false, 58), .conv 58 .u64 (.t 57)⟩,
    ⟨some (42, false, 59), .bin 59 .add (.t 52) (.t 58)⟩,
    ⟨some (42, false, 60), .bin 60 .gtr (.t 50) (.t 59)⟩,
    ⟨none, .pick 61 (.t 42) (.c (.b true)) (.t 60)⟩])
  (.cond (.t 61) (.skip)
   (.exit 0)))
 (.block 1 (.seq (.reg [⟨none, .mv 62 (.t 7)⟩,
     ⟨none, .bin 63 .sub (.t 62) (.c (.i .u64 1))⟩,
     ⟨none, .mv 7 (.t 63)⟩])
   (.seq (.reg [⟨none, .mv 64 (.t 8)⟩,
      ⟨none, .mv 65 (.t 1)⟩,
      ⟨none, .mv 66 (.t 5)⟩,
      ⟨none, .bin 67 .sub (.t 66) (.c (.i .i64 1))⟩,
      ⟨none, .iaddrS 68 1 (.t 65) (.t 67)⟩,
      ⟨none, .load 69 1 false (.t 68)⟩,
      ⟨none, .conv 70 .u64 (.t 69)⟩,
      ⟨none, .bin 71 .add (.t 64) (.t 70)⟩,
      ⟨none, .mv 8 (.t 71)⟩])
    (.seq (.reg [⟨none, .mv 72 (.t 8)⟩,
       ⟨none, .bin 73 .geq (.t 72) (.c (.i .u64 4294967296))⟩])
     (.cond (.t 73) (.exit 0)
      (.skip))))))
def c_ref01_guess : Fun := ⟨2, [.t 4],
 .seq (.reg [⟨none, .mv 4 (.c (.i .u64 0))⟩])
 (.seq (.reg [⟨none, .mv 9 (.t 1)⟩,
    ⟨none, .len 10 (.t 9)⟩,
    ⟨none, .mv 5 (.t 10)⟩])
  (.seq (.reg [⟨none, .mv 11 (.t 0)⟩,
     ⟨none, .mv 12 (.t 5)⟩,
     ⟨none, .iaddrS 13 1 (.t 11) (.t 12)⟩,
     ⟨none, .load 14 1 false (.t 13)⟩,
     ⟨none, .conv 15 .u64 (.t 14)⟩,
     ⟨none, .bin 16 .mul (.t 15) (.c (.i .u64 4294967296))⟩,
     ⟨none, .mv 17 (.t 0)⟩,
     ⟨none, .mv 18 (.t 5)⟩,
     ⟨none, .bin 19 .sub (.t 18) (.c (.i .i64 1))⟩,
     ⟨none, .iaddrS 20 1 (.t 17) (.t 19)⟩,
     ⟨none, .load 21 1 false (.t 20)⟩,
     ⟨none, .conv 22 .u64 (.t 21)⟩,
     ⟨none, .bin 23 .add (.t 16) (.t 22)⟩,
     ⟨none, .mv 6 (.t 23)⟩])
   (.seq (.reg [⟨none, .mv 24 (.t 6)⟩,
      ⟨none, .mv 25 (.t 1)⟩,
      ⟨none, .mv 26 (.t 5)⟩,
      ⟨none, .bin 27 .sub (.t 26) (.c (.i .i64 1))⟩,
      ⟨none, .iaddrS 28 1 (.t 25) (.t 27)⟩,
      ⟨none, .load 29 1 false (.t 28)⟩,
      ⟨none, .conv 30 .u64 (.t 29)⟩,
      ⟨none, .bin 31 .quo (.t 24) (.t 30)⟩,
      ⟨none, .mv 7 (.t 31)⟩])
    (.seq (.reg [⟨none, .mv 32 (.t 6)⟩,
       ⟨none, .mv 33 (.t 1)⟩,
       ⟨none, .mv 34 (.t 5)⟩,
       ⟨none, .bin 35 .sub (.t 34) (.c (.i .i64 1))⟩,
       ⟨none, .iaddrS 36 1 (.t 33) (.t 35)⟩,
       ⟨none, .load 37 1 false (.t 36)⟩,
       ⟨none, .conv 38 .u64 (.t 37)⟩,
       ⟨none, .bin 39 .rem (.t 32) (.t 38)⟩,
       ⟨none, .mv 8 (.t 39)⟩])
     (.seq (.block 0 (.loop l_ref01_guess_0))
      (.seq (.reg [⟨none, .mv 74 (.t 7)⟩,
         ⟨none, .mv 4 (.t 74)⟩])
       (.ret)))))))⟩
/- eliminant/eliminantref01.lessen -/
def l_ref01_lessen_0 : C :=
 .seq (.seq (.reg [⟨none, .mv 12 (.t 9)⟩,
    ⟨none, .mv 13 (.t 0)⟩,
    ⟨none, .len 14 (.t 13)⟩,
    ⟨none, .bin 15 .lss (.t 12) (.t 14)⟩])
  (.cond (.t 15) (.skip)
   (.exit 0)))
 (.seq (.block 1 (.seq (.reg [⟨none, .mv 18 (.t 2)⟩,
      ⟨none, .mv 19 (.t 1)⟩,
      ⟨none, .mv 20 (.t 9)⟩,
      ⟨none, .call (some 21) n_ref01_word [.t 19, .t 20]⟩,
      ⟨none, .bin 22 .mul (.t 18) (.t 21)⟩,
      ⟨none, .mv 23 (.t 7)⟩,
      ⟨none, .bin 24 .add (.t 22) (.t 23)⟩,
      ⟨none, .mv 10 (.t 24)⟩])
    (.seq (.reg [⟨none, .mv 25 (.t 10)⟩,
       ⟨none, .bin 26 .quo (.t 25) (.c (.i .u64 4294967296))⟩,
       ⟨none, .mv 7 (.t 26)⟩])
     (.seq (.reg [⟨none, .mv 27 (.t 0)⟩,
        ⟨none, .mv 28 (.t 9)⟩,
        ⟨none, .iaddrS 29 1 (.t 27) (.t 28)⟩,
        ⟨none, .load 30 1 false (.t 29)⟩,
        ⟨none, .conv 31 .u64 (.t 30)⟩,
        ⟨none, .bin 32 .add (.c (.i .u64 4294967296)) (.t 31)⟩,
        ⟨none, .mv 33 (.t 10)⟩,
        ⟨none, .bin 34 .rem (.t 33) (.c (.i .u64 4294967296))⟩,
        ⟨none, .bin 35 .sub (.t 32) (.t 34)⟩,
        ⟨none, .mv 36 (.t 8)⟩,
        ⟨none, .bin 37 .sub (.t 35) (.t 36)⟩,
        ⟨none, .mv 11 (.t 37)⟩])
      (.seq (.reg [⟨none, .mv 38 (.t 0)⟩,
         ⟨none, .mv 39 (.t 9)⟩,
         ⟨none, .mv 40 (.t 11)⟩,
         ⟨none, .bin 41 .rem (.t 40) (.c (.i .u64 4294967296))⟩,
         ⟨none, .conv 42 .u32 (.t 41)⟩,
         ⟨none, .iaddrS 43 1 (.t 38) (.t 39)⟩,
         ⟨none, .store 1 (.t 43) (.t 42)⟩])
       (.reg [⟨none, .mv 44 (.t 11)⟩,
         ⟨none, .bin 45 .quo (.t 44) (.c (.i .u64 4294967296))⟩,
         ⟨none, .bin 46 .sub (.c (.i .u64 1)) (.t 45)⟩,
         ⟨none, .mv 8 (.t 46)⟩]))))))
  (.reg [⟨none, .mv 16 (.t 9)⟩,
    ⟨none, .bin 17 .add (.t 16) (.c (.i .i64 1))⟩,
    ⟨none, .mv 9 (.t 17)⟩]))
def c_ref01_lessen : Fun := ⟨3, [.t 6],
 .seq (.reg [⟨none, .mv 6 (.c (.b false))⟩])
 (.seq (.reg [⟨none, .mv 7 (.c (.i .u64 0))⟩])
  (.seq (.reg [⟨none, .mv 8 (.c (.i .u64 0))⟩])
   (.seq (.seq (.reg [⟨none, .mv 9 (.c (.i .i64 0))⟩])
     (.block 0 (.loop l_ref01_lessen_0)))
    (.seq (.reg [⟨none, .mv 47 (.t 8)⟩,
       ⟨none, .bin 48 .eql (.t 47) (.c (.i .u64 1))⟩,
       ⟨none, .mv 6 (.t 48)⟩])
     (.ret)))))⟩
/- eliminant/eliminantref01.restore -/
def l_ref01_restore_0 : C :=
 .seq (.seq (.reg [⟨none, .mv 7 (.t 5)⟩,
    ⟨none, .mv 8 (.t 0)⟩,
    ⟨none, .len 9 (.t 8)⟩,
    ⟨none, .bin 10 .lss (.t 7) (.t 9)⟩])
  (.cond (.t 10) (.skip)
   (.exit 0)))
 (.seq (.block 1 (.seq (.reg [⟨none, .mv 13 (.t 0)⟩,
      ⟨none, .mv 14 (.t 5)⟩,
      ⟨none, .iaddrS 15 1 (.t 13) (.t 14)⟩,
      ⟨none, .load 16 1 false (.t 15)⟩,
      ⟨none, .conv 17 .u64 (.t 16)⟩,
      ⟨none, .mv 18 (.t 1)⟩,
      ⟨none, .mv 19 (.t 5)⟩,
      ⟨none, .call (some 20) n_ref01_word [.t 18, .t 19]⟩,
      ⟨none, .bin 21 .add (.t 17) (.t 20)⟩,
      ⟨none, .mv 22 (.t 4)⟩,
      ⟨none, .bin 23 .add (.t 21) (.t 22)⟩,
      ⟨none, .mv 6 (.t 23)⟩])
    (.seq (.reg [⟨none, .mv 24 (.t 0)⟩,
       ⟨none, .mv 25 (.t 5)⟩,
       ⟨none, .mv 26 (.t 6)⟩,
       ⟨none, .bin 27 .rem (.t 26) (.c (.i .u64 4294967296))⟩,
       ⟨none, .conv 28 .u32 (.t 27)⟩,
       ⟨none, .iaddrS 29 1 (.t 24) (.t 25)⟩,
       ⟨none, .store 1 (.t 29) (.t 28)⟩])
     (.reg [⟨none, .mv 30 (.t 6)⟩,
       ⟨none, .bin 31 .quo (.t 30) (.c (.i .u64 4294967296))⟩,
       ⟨none, .mv 4 (.t 31)⟩]))))
  (.reg [⟨none, .mv 11 (.t 5)⟩,
    ⟨none, .bin 12 .add (.t 11) (.c (.i .i64 1))⟩,
    ⟨none, .mv 5 (.t 12)⟩]))
def c_ref01_restore : Fun := ⟨2, [],
 .seq (.reg [⟨none, .mv 4 (.c (.i .u64 0))⟩])
 (.seq (.reg [⟨none, .mv 5 (.c (.i .i64 0))⟩])
  (.block 0 (.loop l_ref01_restore_0)))⟩
/- eliminant/eliminantref01.divided -/
def l_ref01_divided_0 : C :=
 .seq (.seq (.reg [⟨none, .mv 72 (.t 13)⟩,
    ⟨none, .bin 73 .geq (.t 72) (.c (.i .i64 0))⟩])
  (.cond (.t 73) (.skip)
   (.exit 0)))
 (.seq (.block 1 (.seq (.reg [⟨none, .mv 76 (.t 11)⟩,
      ⟨none, .mv 77 (.t 13)⟩,
      ⟨none, .mv 78 (.t 13)⟩,
      ⟨none, .mv 79 (.t 8)⟩,
      ⟨none, .bin 80 .add (.t 78) (.t 79)⟩,
      ⟨none, .bin 81 .add (.t 80) (.c (.i .i64 1))⟩,
      ⟨none, .slice 82 1 (.t 76) (some (.t 77)) (some (.t 81)) none⟩,
      ⟨none, .mv 14 (.t 82)⟩])
    (.seq (.reg [⟨none, .mv 83 (.t 14)⟩,
       ⟨none, .mv 84 (.t 10)⟩,
       ⟨none, .call (some 85) n_ref01_guess [.t 83, .t 84]⟩,
       ⟨none, .mv 15 (.t 85)⟩])
     (.seq (.seq (.reg [⟨none, .mv 86 (.t 14)⟩,
         ⟨none, .mv 87 (.t 10)⟩,
         ⟨none, .mv 88 (.t 15)⟩,
         ⟨none, .call (some 89) n_ref01_lessen [.t 86, .t 87, .t 88]⟩])
       (.cond (.t 89) (.seq (.reg [⟨none, .mv 90 (.t 15)⟩,
           ⟨none, .bin 91 .sub (.t 90) (.c (.i .u64 1))⟩,
           ⟨none, .mv 15 (.t 91)⟩])
         (.reg [⟨none, .mv 92 (.t 14)⟩,
           ⟨none, .mv 93 (.t 10)⟩,
           ⟨none, .call (some 94) n_ref01_restore [.t 92, .t 93]⟩]))
        (.skip)))
      (.reg [⟨none, .mv 95 (.t 12)⟩,
        ⟨none, .mv 96 (.t 13)⟩,
        ⟨none, .mv 97 (.t 15)⟩,
        ⟨none, .conv 98 .u32 (.t 97)⟩,
        ⟨none, .iaddrS 99 1 (.t 95) (.t 96)⟩,
        ⟨none, .store 1 (.t 99) (.t 98)⟩])))))
  (.reg [⟨none, .mv 74 (.t 13)⟩,
    ⟨none, .bin 75 .sub (.t 74) (.c (.i .i64 1))⟩,
    ⟨none, .mv 13 (.t 75)⟩]))
def c_ref01_divided : Fun := ⟨2, [.t 4, .t 5],
 .seq (.reg [⟨none, .mv 4 (.c (.nil))⟩,
   ⟨none, .mv 5 (.c (.nil))⟩])
 (.seq (.seq (.reg [⟨none, .mv 18 (.t 0)⟩,
     ⟨none, .mv 19 (.t 1)⟩,
     ⟨none, .call (some 20) n_ref01_compared [.t 18, .t 19]⟩,
     ⟨none, .bin 21 .lss (.t 20) (.c (.i .i64 0))⟩])
   (.cond (.t 21) (.seq (.reg [⟨none, .mv 22 (.t 0)⟩,
       ⟨none, .mv 4 (.c (.nil))⟩,
       ⟨none, .mv 5 (.t 22)⟩])
     (.ret))
    (.skip)))
  (.seq (.seq (.reg [⟨none, .mv 23 (.t 1)⟩,
      ⟨none, .len 24 (.t 23)⟩,
      ⟨none, .bin 25 .eql (.t 24) (.c (.i .i64 1))⟩])
    (.cond (.t 25) (.seq (.reg [⟨none, .mv 27 (.t 0)⟩,
        ⟨none, .mv 28 (.t 1)⟩,
        ⟨none, .iaddrS 29 1 (.t 28) (.c (.i .i64 0))⟩,
        ⟨none, .load 30 1 false (.t 29)⟩,
        ⟨none, .conv 31 .u64 (.t 30)⟩,
        ⟨none, .call (some 32) n_ref01_shortly [.t 27, .t 31]⟩,
        ⟨none, .mv 26 (.t 32)⟩,
        ⟨none, .ext 33 0 (.t 26)⟩,
        ⟨none, .ext 34 1 (.t 26)⟩,
        ⟨none, .mv 6 (.t 33)⟩,
        ⟨none, .mv 7 (.t 34)⟩])
      (.seq (.reg [⟨none, .mv 35 (.t 6)⟩,
         ⟨none, .mv 36 (.t 7)⟩,
         ⟨none, .call (some 37) n_ref01_words [.t 36]⟩,
         ⟨none, .mv 4 (.t 35)⟩,
         ⟨none, .mv 5 (.t 37)⟩])
       (.ret)))
     (.skip)))
   (.seq (.reg [⟨none, .mv 38 (.t 1)⟩,
      ⟨none, .len 39 (.t 38)⟩,
      ⟨none, .mv 8 (.t 39)⟩])
    (.seq (.reg [⟨none, .mv 40 (.t 1)⟩,
       ⟨none, .mv 41 (.t 8)⟩,
       ⟨none, .bin 42 .sub (.t 41) (.c (.i .i64 1))⟩,
       ⟨none, .iaddrS 43 1 (.t 40) (.t 42)⟩,
       ⟨none, .load 44 1 false (.t 43)⟩,
       ⟨none, .conv 45 .u64 (.t 44)⟩,
       ⟨none, .bin 46 .add (.t 45) (.c (.i .u64 1))⟩,
       ⟨none, .bin 47 .quo (.c (.i .u64 4294967296)) (.t 46)⟩,
       ⟨none, .mv 9 (.t 47)⟩])
     (.seq (.reg [⟨none, .mv 48 (.t 1)⟩,
        ⟨none, .mv 49 (.t 9)⟩,
        ⟨none, .call (some 50) n_ref01_words [.t 49]⟩,
        ⟨none, .call (some 51) n_ref01_times [.t 48, .t 50]⟩,
        ⟨none, .mv 10 (.t 51)⟩])
      (.seq (.reg [⟨none, .mv 52 (.t 0)⟩,
         ⟨none, .len 53 (.t 52)⟩,
         ⟨none, .bin 54 .add (.t 53) (.c (.i .i64 1))⟩,
         ⟨none, .mkslice 55 1 [.i .u32 0] (.t 54) (.t 54)⟩,
         ⟨none, .mv 11 (.t 55)⟩])
       (.seq (.reg [⟨none, .mv 56 (.t 11)⟩,
          ⟨none, .mv 57 (.t 0)⟩,
          ⟨none, .mv 58 (.t 9)⟩,
          ⟨none, .call (some 59) n_ref01_words [.t 58]⟩,
          ⟨none, .call (some 60) n_ref01_times [.t 57, .t 59]⟩,
          ⟨none, .fail (some 61)⟩])
        (.seq (.reg [⟨none, .mv 62 (.t 0)⟩,
           ⟨none, .len 63 (.t 62)⟩,
           ⟨none, .mv 64 (.t 8)⟩,
           ⟨none, .bin 65 .sub (.t 63) (.t 64)⟩,
           ⟨none, .bin 66 .add (.t 65) (.c (.i .i64 1))⟩,
           ⟨none, .mkslice 67 1 [.i .u32 0] (.t 66) (.t 66)⟩,
           ⟨none, .mv 12 (.t 67)⟩])
         (.seq (.seq (.reg [⟨none, .mv 68 (.t 0)⟩,
             ⟨none, .len 69 (.t 68)⟩,
             ⟨none, .mv 70 (.t 8)⟩,
             ⟨none, .bin 71 .sub (.t 69) (.t 70)⟩,
             ⟨none, .mv 13 (.t 71)⟩])
           (.block 0 (.loop l_ref01_divided_0)))
          (.seq (.reg [⟨none, .mv 101 (.t 11)⟩,
             ⟨none, .call (some 102) n_ref01_trim [.t 101]⟩,
             ⟨none, .mv 103 (.t 9)⟩,
             ⟨none, .call (some 104) n_ref01_shortly [.t 102, .t 103]⟩,
             ⟨none, .mv 100 (.t 104)⟩,
             ⟨none, .ext 105 0 (.t 100)⟩,
             ⟨none, .ext 106 1 (.t 100)⟩,
             ⟨none, .mv 16 (.t 105)⟩,
             ⟨none, .mv 17 (.t 106)⟩])
           (.seq (.reg [⟨none, .mv 107 (.t 12)⟩,
              ⟨none, .call (some 108) n_ref01_trim [.t 107]⟩,
              ⟨none, .mv 109 (.t 16)⟩,
              ⟨none, .mv 4 (.t 108)⟩,
              ⟨none, .mv 5 (.t 109)⟩])
            (.ret))))))))))))⟩
/- eliminant/eliminantref01.common -/
def l_ref01_common_0 : C :=
 .seq (.seq (.reg [⟨none, .mv 7 (.t 1)⟩,
    ⟨none, .len 8 (.t 7)⟩,
    ⟨none, .bin 9 .gtr (.t 8) (.c (.i .i64 0))⟩])
  (.cond (.t 9) (.skip)
   (.exit 0)))
 (.block 1 (.seq (.seq (.reg [⟨none, .mv 10 (.t 0)⟩,
      ⟨none, .len 11 (.t 10)⟩,
      ⟨none, .bin 12 .leq (.t 11) (.c (.i .i64 2))⟩,
      ⟨none, .mv 13 (.t 12)⟩,
      ⟨some (13, true, 14), .mv 14 (.t 1)⟩,
      ⟨some (13, true, 15), .len 15 (.t 14)⟩,
      ⟨some (13, true, 16), .bin 16 .leq (.t 15) (.c (.i .i64 2))⟩,
      ⟨none, .pick 17 (.t 13) (.t 16) (.c (.b false))⟩])
    (.cond (.t 17) (.seq (.reg [⟨none, .mv 18 (.t 0)⟩,
        ⟨none, .call (some 19) n_ref01_number [.t 18]⟩,
        ⟨none, .mv 20 (.t 1)⟩,
        ⟨none, .call (some 21) n_ref01_number [.t 20]⟩,
        ⟨none, .call (some 22) n_ref01_euclid [.t 19, .t 21]⟩,
        ⟨none, .call (some 23) n_ref01_words [.t 22]⟩,
        ⟨none, .mv 4 (.t 23)⟩])
      (.ret))
     (.skip)))
   (.seq (.reg [⟨none, .mv 25 (.t 0)⟩,
      ⟨none, .mv 26 (.t 1)⟩,
      ⟨none, .call (some 27) n_ref01_divided [.t 25, .t 26]⟩,
      ⟨none, .mv 24 (.t 27)⟩,
      ⟨none, .ext 28 0 (.t 24)⟩,
      ⟨none, .ext 29 1 (.t 24)⟩,
      ⟨none, .mv 5 (.t 28)⟩,
      ⟨none, .mv 6 (.t 29)⟩])
    (.seq (.reg [⟨none, .mv 30 (.t 1)⟩,
       ⟨none, .mv 0 (.t 30)⟩])
     (.reg [⟨none, .mv 31 (.t 6)⟩,
       ⟨none, .mv 1 (.t 31)⟩])))))
def c_ref01_common : Fun := ⟨2, [.t 4],
 .seq (.reg [⟨none, .mv 4 (.c (.nil))⟩])
 (.seq (.block 0 (.loop l_ref01_common_0))
  (.seq (.reg [⟨none, .mv 32 (.t 0)⟩,
     ⟨none, .mv 4 (.t 32)⟩])
   (.ret)))⟩
/- eliminant/eliminantref01.euclid -/
def l_ref01_euclid_0 : C :=
 .seq (.seq (.reg [⟨none, .mv 6 (.t 1)⟩,
    ⟨none, .bin 7 .gtr (.t 6) (.c (.i .u64 0))⟩])
  (.cond (.t 7) (.skip)
   (.exit 0)))
 (.block 1 (.seq (.reg [⟨none, .mv 8 (.t 0)⟩,
     ⟨none, .mv 9 (.t 1)⟩,
     ⟨none, .bin 10 .rem (.t 8) (.t 9)⟩,
     ⟨none, .mv 5 (.t 10)⟩])
   (.seq (.reg [⟨none, .mv 11 (.t 1)⟩,
      ⟨none, .mv 0 (.t 11)⟩])
    (.reg [⟨none, .mv 12 (.t 5)⟩,
      ⟨none, .mv 1 (.t 12)⟩]))))
def c_ref01_euclid : Fun := ⟨2, [.t 4],
 .seq (.reg [⟨none, .mv 4 (.c (.i .u64 0))⟩])
 (.seq (.block 0 (.loop l_ref01_euclid_0))
  (.seq (.reg [⟨none, .mv 13 (.t 0)⟩,
     ⟨none, .mv 4 (.t 13)⟩])
   (.ret)))⟩
/- eliminant/eliminantref01.Of -/
def c_ref01_Of : Fun := ⟨1, [.c 2 2 true],
 .seq (.reg [⟨none, .alloc 2 [.b false, .nil]⟩])
 (.seq (.seq (.reg [⟨none, .mv 3 (.t 0)⟩,
     ⟨none, .bin 4 .lss (.t 3) (.c (.i .i64 0))⟩])
   (.cond (.t 4) (.seq (.reg [⟨none, .mv 5 (.t 0)⟩,
       ⟨none, .bin 6 .add (.t 5) (.c (.i .i64 1))⟩,
       ⟨none, .un 7 .neg (.t 6)⟩,
       ⟨none, .conv 8 .u64 (.t 7)⟩,
       ⟨none, .bin 9 .add (.t 8) (.c (.i .u64 1))⟩,
       ⟨none, .call (some 10) n_ref01_words [.t 9]⟩,
       ⟨none, .call (some 11) n_ref01_made [.c (.b true), .t 10]⟩,
       ⟨none, .store 2 (.t 2) (.t 11)⟩])
     (.ret))
    (.skip)))
  (.seq (.reg [⟨none, .mv 12 (.t 0)⟩,
     ⟨none, .conv 13 .u64 (.t 12)⟩,
     ⟨none, .call (some 14) n_ref01_words [.t 13]⟩,
     ⟨none, .call (some 15) n_ref01_made [.c (.b false), .t 14]⟩,
     ⟨none, .store 2 (.t 2) (.t 15)⟩])
   (.ret)))⟩
/- eliminant/eliminantref01.Cmp -/
def c_ref01_Cmp : Fun := ⟨2, [.t 4],
 .seq (.reg [⟨none, .box 2 2 (.t 0)⟩,
   ⟨none, .box 3 2 (.t 1)⟩,
   ⟨none, .mv 4 (.c (.i .i64 0))⟩])
 (.seq (.seq (.reg [⟨none, .faddr 5 0 (.t 2)⟩,
     ⟨none, .load 6 1 false (.t 5)⟩,
     ⟨none, .mv 7 (.t 6)⟩,
     ⟨some (7, true, 8), .faddr 8 0 (.t 3)⟩,
     ⟨some (7, true, 9), .load 9 1 false (.t 8)⟩,
     ⟨some (7, true, 10), .un 10 .not (.t 9)⟩,
     ⟨none, .pick 11 (.t 7) (.t 10) (.c (.b false))⟩])
   (.cond (.t 11) (.seq (.reg [⟨none, .mv 4 (.c (.i .i64 (-1)))⟩])
     (.ret))
    (.skip)))
  (.seq (.seq (.reg [⟨none, .faddr 12 0 (.t 2)⟩,
      ⟨none, .load 13 1 false (.t 12)⟩,
      ⟨none, .un 14 .not (.t 13)⟩,
      ⟨none, .mv 15 (.t 14)⟩,
      ⟨some (15, true, 16), .faddr 16 0 (.t 3)⟩,
      ⟨some (15, true, 17), .load 17 1 false (.t 16)⟩,
      ⟨none, .pick 18 (.t 15) (.t 17) (.c (.b false))⟩])
    (.cond (.t 18) (.seq (.reg [⟨none, .mv 4 (.c (.i .i64 1))⟩])
      (.ret))
     (.skip)))
   (.seq (.seq (.reg [⟨none, .faddr 19 0 (.t 2)⟩,
       ⟨none, .load 20 1 false (.t 19)⟩])
     (.cond (.t 20) (.seq (.reg [⟨none, .faddr 21 1 (.t 3)⟩,
         ⟨none, .load 22 1 false (.t 21)⟩,
         ⟨none, .faddr 23 1 (.t 2)⟩,
         ⟨none, .load 24 1 false (.t 23)⟩,
         ⟨none, .call (some 25) n_ref01_compared [.t 22, .t 24]⟩,
         ⟨none, .mv 4 (.t 25)⟩])
       (.ret))
      (.skip)))
    (.seq (.reg [⟨none, .faddr 26 1 (.t 2)⟩,
       ⟨none, .load 27 1 false (.t 26)⟩,
       ⟨none, .faddr 28 1 (.t 3)⟩,
       ⟨none, .load 29 1 false (.t 28)⟩,
       ⟨none, .call (some 30) n_ref01_compared [.t 27, .t 29]⟩,
       ⟨none, .mv 4 (.t 30)⟩])
     (.ret)))))⟩
/- eliminant/eliminantref01.Neg -/
def c_ref01_Neg : Fun := ⟨1, [.c 2 2 true],
 .seq (.reg [⟨none, .box 1 2 (.t 0)⟩,
   ⟨none, .alloc 2 [.b false, .nil]⟩])
 (.seq (.reg [⟨none, .faddr 3 0 (.t 1)⟩,
    ⟨none, .load 4 1 false (.t 3)⟩,
    ⟨none, .un 5 .not (.t 4)⟩,
    ⟨none, .faddr 6 1 (.t 1)⟩,
    ⟨none, .load 7 1 false (.t 6)⟩,
    ⟨none, .call (some 8) n_ref01_made [.t 5, .t 7]⟩,
    ⟨none, .store 2 (.t 2) (.t 8)⟩])
  (.ret))⟩
/- eliminant/eliminantref01.Add -/
def c_ref01_Add : Fun := ⟨2, [.c 4 2 true],
 .seq (.reg [⟨none, .box 2 2 (.t 0)⟩,
   ⟨none, .box 3 2 (.t 1)⟩,
   ⟨none, .alloc 4 [.b false, .nil]⟩])
 (.seq (.seq (.reg [⟨none, .faddr 5 0 (.t 2)⟩,
     ⟨none, .load 6 1 false (.t 5)⟩,
     ⟨none, .faddr 7 0 (.t 3)⟩,
     ⟨none, .load 8 1 false (.t 7)⟩,
     ⟨none, .beq 9 false (.t 6) (.t 8)⟩])
   (.cond (.t 9) (.seq (.reg [⟨none, .faddr 10 0 (.t 2)⟩,
       ⟨none, .load 11 1 false (.t 10)⟩,
       ⟨none, .faddr 12 1 (.t 2)⟩,
       ⟨none, .load 13 1 false (.t 12)⟩,
       ⟨none, .faddr 14 1 (.t 3)⟩,
       ⟨none, .load 15 1 false (.t 14)⟩,
       ⟨none, .call (some 16) n_ref01_added [.t 13, .t 15]⟩,
       ⟨none, .call (some 17) n_ref01_made [.t 11, .t 16]⟩,
       ⟨none, .store 2 (.t 4) (.t 17)⟩])
     (.ret))
    (.skip)))
  (.seq (.seq (.reg [⟨none, .faddr 18 1 (.t 2)⟩,
      ⟨none, .load 19 1 false (.t 18)⟩,
      ⟨none, .faddr 20 1 (.t 3)⟩,
      ⟨none, .load 21 1 false (.t 20)⟩,
      ⟨none, .call (some 22) n_ref01_compared [.t 19, .t 21]⟩,
      ⟨none, .bin 23 .lss (.t 22) (.c (.i .i64 0))⟩])
    (.cond (.t 23) (.seq (.reg [⟨none, .faddr 24 0 (.t 3)⟩,
        ⟨none, .load 25 1 false (.t 24)⟩,
        ⟨none, .faddr 26 1 (.t 3)⟩,
        ⟨none, .load 27 1 false (.t 26)⟩,
        ⟨none, .faddr 28 1 (.t 2)⟩,
        ⟨none, .load 29 1 false (.t 28)⟩,
        ⟨none, .call (some 30) n_ref01_taken [.t 27, .t 29]⟩,
        ⟨none, .call (some 31) n_ref01_made [.t 25, .t 30]⟩,
        ⟨none, .store 2 (.t 4) (.t 31)⟩])
      (.ret))
     (.skip)))
   (.seq (.reg [⟨none, .faddr 32 0 (.t 2)⟩,
      ⟨none, .load 33 1 false (.t 32)⟩,
      ⟨none, .faddr 34 1 (.t 2)⟩,
      ⟨none, .load 35 1 false (.t 34)⟩,
      ⟨none, .faddr 36 1 (.t 3)⟩,
      ⟨none, .load 37 1 false (.t 36)⟩,
      ⟨none, .call (some 38) n_ref01_taken [.t 35, .t 37]⟩,
      ⟨none, .call (some 39) n_ref01_made [.t 33, .t 38]⟩,
      ⟨none, .store 2 (.t 4) (.t 39)⟩])
    (.ret))))⟩
/- eliminant/eliminantref01.Mul -/
def c_ref01_Mul : Fun := ⟨2, [.c 4 2 true],
 .seq (.reg [⟨none, .box 2 2 (.t 0)⟩,
   ⟨none, .box 3 2 (.t 1)⟩,
   ⟨none, .alloc 4 [.b false, .nil]⟩])
 (.seq (.reg [⟨none, .faddr 5 0 (.t 2)⟩,
    ⟨none, .load 6 1 false (.t 5)⟩,
    ⟨none, .faddr 7 0 (.t 3)⟩,
    ⟨none, .load 8 1 false (.t 7)⟩,
    ⟨none, .beq 9 true (.t 6) (.t 8)⟩,
    ⟨none, .faddr 10 1 (.t 2)⟩,
    ⟨none, .load 11 1 false (.t 10)⟩,
    ⟨none, .faddr 12 1 (.t 3)⟩,
    ⟨none, .load 13 1 false (.t 12)⟩,
    ⟨none, .call (some 14) n_ref01_times [.t 11, .t 13]⟩,
    ⟨none, .call (some 15) n_ref01_made [.t 9, .t 14]⟩,
    ⟨none, .store 2 (.t 4) (.t 15)⟩])
  (.ret))⟩
/- eliminant/eliminantref01.DivMod -/
def c_ref01_DivMod : Fun := ⟨2, [.c 4 2 true, .c 5 2 true, .t 6],
 .seq (.reg [⟨none, .box 2 2 (.t 0)⟩,
   ⟨none, .box 3 2 (.t 1)⟩,
   ⟨none, .alloc 4 [.b false, .nil]⟩,
   ⟨none, .alloc 5 [.b false, .nil]⟩,
   ⟨none, .mv 6 (.c (.i .i64 0))⟩])
 (.seq (.seq (.reg [⟨none, .faddr 9 1 (.t 3)⟩,
     ⟨none, .load 10 1 false (.t 9)⟩,
     ⟨none, .len 11 (.t 10)⟩,
     ⟨none, .bin 12 .eql (.t 11) (.c (.i .i64 0))⟩])
   (.cond (.t 12) (.seq (.reg [⟨none, .build 13 [.b false, .nil] []⟩,
       ⟨none, .build 14 [.b false, .nil] []⟩,
       ⟨none, .store 2 (.t 4) (.t 13)⟩,
       ⟨none, .store 2 (.t 5) (.t 14)⟩,
       ⟨none, .mv 6 (.c (.i .i64 10))⟩])
     (.ret))
    (.skip)))
  (.seq (.reg [⟨none, .faddr 16 1 (.t 2)⟩,
     ⟨none, .load 17 1 false (.t 16)⟩,
     ⟨none, .faddr 18 1 (.t 3)⟩,
     ⟨none, .load 19 1 false (.t 18)⟩,
     ⟨none, .call (some 20) n_ref01_divided [.t 17, .t 19]⟩,
     ⟨none, .mv 15 (.t 20)⟩,
     ⟨none, .ext 21 0 (.t 15)⟩,
     ⟨none, .ext 22 1 (.t 15)⟩,
     ⟨none, .mv 7 (.t 21)⟩,
     ⟨none, .mv 8 (.t 22)⟩])
   (.seq (.seq (.reg [⟨none, .faddr 23 0 (.t 2)⟩,
       ⟨none, .load 24 1 false (.t 23)⟩,
       ⟨none, .mv 25 (.t 24)⟩,
       ⟨some (25, true, 26), .mv 26 (.t 8)⟩,
       ⟨some (25, true, 27), .len 27 (.t 26)⟩,
       ⟨some (25, true, 28), .bin 28 .gtr (.t 27) (.c (.i .i64 0))⟩,
       ⟨none, .pick 29 (.t 25) (.t 28) (.c (.b false))⟩])
     (.cond (.t 29) (.seq (.reg [⟨none, .mv 30 (.t 7)⟩,
         ⟨none, .bslice 31 1 1 [.i .u32 0] [(0, 1, .c (.i .u32 1))]⟩,
         ⟨none, .call (some 32) n_ref01_added [.t 30, .t 31]⟩,
         ⟨none, .mv 7 (.t 32)⟩])
       (.reg [⟨none, .faddr 33 1 (.t 3)⟩,
         ⟨none, .load 34 1 false (.t 33)⟩,
         ⟨none, .mv 35 (.t 8)⟩,
         ⟨none, .call (some 36) n_ref01_taken [.t 34, .t 35]⟩,
         ⟨none, .mv 8 (.t 36)⟩]))
      (.skip)))
    (.seq (.reg [⟨none, .faddr 37 0 (.t 2)⟩,
       ⟨none, .load 38 1 false (.t 37)⟩,
       ⟨none, .faddr 39 0 (.t 3)⟩,
       ⟨none, .load 40 1 false (.t 39)⟩,
       ⟨none, .beq 41 true (.t 38) (.t 40)⟩,
       ⟨none, .mv 42 (.t 7)⟩,
       ⟨none, .call (some 43) n_ref01_made [.t 41, .t 42]⟩,
       ⟨none, .mv 44 (.t 8)⟩,
       ⟨none, .call (some 45) n_ref01_made [.c (.b false), .t 44]⟩,
       ⟨none, .store 2 (.t 4) (.t 43)⟩,
       ⟨none, .store 2 (.t 5) (.t 45)⟩,
       ⟨none, .mv 6 (.c (.i .i64 0))⟩])
     (.ret)))))⟩
/- eliminant/eliminantref01.Gcd -/
def c_ref01_Gcd : Fun := ⟨2, [.c 4 2 true],
 .seq (.reg [⟨none, .box 2 2 (.t 0)⟩,
   ⟨none, .box 3 2 (.t 1)⟩,
   ⟨none, .alloc 4 [.b false, .nil]⟩])
 (.seq (.reg [⟨none, .faddr 5 1 (.t 2)⟩,
    ⟨none, .load 6 1 false (.t 5)⟩,
    ⟨none, .faddr 7 1 (.t 3)⟩,
    ⟨none, .load 8 1 false (.t 7)⟩,
    ⟨none, .call (some 9) n_ref01_common [.t 6, .t 8]⟩,
    ⟨none, .call (some 10) n_ref01_made [.c (.b false), .t 9]⟩,
    ⟨none, .store 2 (.t 4) (.t 10)⟩])
  (.ret))⟩
/- eliminant/eliminantref01.Valid -/
def c_ref01_Valid : Fun := ⟨1, [.t 2],
 .seq (.reg [⟨none, .box 1 2 (.t 0)⟩,
   ⟨none, .mv 2 (.c (.b false))⟩])
 (.seq (.reg [⟨none, .faddr 4 1 (.t 1)⟩,
    ⟨none, .load 5 1 false (.t 4)⟩,
    ⟨none, .len 6 (.t 5)⟩,
    ⟨none, .mv 3 (.t 6)⟩])
  (.seq (.seq (.reg [⟨none, .mv 7 (.t 3)⟩,
      ⟨none, .bin 8 .eql (.t 7) (.c (.i .i64 0))⟩])
    (.cond (.t 8) (.seq (.reg [⟨none, .faddr 9 0 (.t 1)⟩,
        ⟨none, .load 10 1 false (.t 9)⟩,
        ⟨none, .un 11 .not (.t 10)⟩,
        ⟨none, .mv 2 (.t 11)⟩])
      (.ret))
     (.skip)))
   (.seq (.reg [⟨none, .faddr 12 1 (.t 1)⟩,
      ⟨none, .load 13 1 false (.t 12)⟩,
      ⟨none, .mv 14 (.t 3)⟩,
      ⟨none, .bin 15 .sub (.t 14) (.c (.i .i64 1))⟩,
      ⟨none, .iaddrS 16 1 (.t 13) (.t 15)⟩,
      ⟨none, .load 17 1 false (.t 16)⟩,
      ⟨none, .bin 18 .neq (.t 17) (.c (.i .u32 0))⟩,
      ⟨none, .mv 2 (.t 18)⟩])
    (.ret))))⟩
/- eliminant/eliminantref02.Add -/
def c_ref02_Add : Fun := ⟨2, [.c 4 4 true],
 .seq (.reg [⟨none, .box 2 4 (.t 0)⟩,
   ⟨none, .box 3 4 (.t 1)⟩,
   ⟨none, .alloc 4 [.b false, .nil, .b false, .nil]⟩])
 (.seq (.reg [⟨none, .faddr 5 0 (.t 2)⟩,
    ⟨none, .load 6 2 true (.t 5)⟩,
    ⟨none, .faddr 7 2 (.t 3)⟩,
    ⟨none, .load 8 2 true (.t 7)⟩,
    ⟨none, .call (some 9) n_ref01_Mul [.t 6, .t 8]⟩,
    ⟨none, .faddr 10 0 (.t 3)⟩,
    ⟨none, .load 11 2 true (.t 10)⟩,
    ⟨none, .faddr 12 2 (.t 2)⟩,
    ⟨none, .load 13 2 true (.t 12)⟩,
    ⟨none, .call (some 14) n_ref01_Mul [.t 11, .t 13]⟩,
    ⟨none, .call (some 15) n_ref01_Add [.t 9, .t 14]⟩,
    ⟨none, .faddr 16 2 (.t 2)⟩,
    ⟨none, .load 17 2 true (.t 16)⟩,
    ⟨none, .faddr 18 2 (.t 3)⟩,
    ⟨none, .load 19 2 true (.t 18)⟩,
    ⟨none, .call (some 20) n_ref01_Mul [.t 17, .t 19]⟩,
    ⟨none, .call (some 21) n_ref02_lowest [.t 15, .t 20]⟩,
    ⟨none, .store 4 (.t 4) (.t 21)⟩])
  (.ret))⟩
/- eliminant/eliminantref02.Neg -/
def c_ref02_Neg : Fun := ⟨1, [.c 2 4 true],
 .seq (.reg [⟨none, .box 1 4 (.t 0)⟩,
   ⟨none, .alloc 2 [.b false, .nil, .b false, .nil]⟩])
 (.seq (.reg [⟨none, .faddr 3 0 (.t 1)⟩,
    ⟨none, .load 4 2 true (.t 3)⟩,
    ⟨none, .call (some 5) n_ref01_Neg [.t 4]⟩,
    ⟨none, .faddr 6 2 (.t 1)⟩,
    ⟨none, .load 7 2 true (.t 6)⟩,
    ⟨none, .build 8 [.b false, .nil, .b false, .nil] [(0, 2, .t 5), (2, 2, .t 7)]⟩,
    ⟨none, .store 4 (.t 2) (.t 8)⟩])
  (.ret))⟩
/- eliminant/eliminantref02.Mul -/
def c_ref02_Mul : Fun := ⟨2, [.c 4 4 true],
 .seq (.reg [⟨none, .box 2 4 (.t 0)⟩,
   ⟨none, .box 3 4 (.t 1)⟩,
   ⟨none, .alloc 4 [.b false, .nil, .b false, .nil]⟩])
 (.seq (.reg [⟨none, .faddr 5 0 (.t 2)⟩,
    ⟨none, .load 6 2 true (.t 5)⟩,
    ⟨none, .faddr 7 0 (.t 3)⟩,
    ⟨none, .load 8 2 true (.t 7)⟩,
    ⟨none, .call (some 9) n_ref01_Mul [.t 6, .t 8]⟩,
    ⟨none, .faddr 10 2 (.t 2)⟩,
    ⟨none, .load 11 2 true (.t 10)⟩,
    ⟨none, .faddr 12 2 (.t 3)⟩,
    ⟨none, .load 13 2 true (.t 12)⟩,
    ⟨none, .call (some 14) n_ref01_Mul [.t 11, .t 13]⟩,
    ⟨none, .call (some 15) n_ref02_lowest [.t 9, .t 14]⟩,
    ⟨none, .store 4 (.t 4) (.t 15)⟩])
  (.ret))⟩
/- eliminant/eliminantref02.lowest -/
def c_ref02_lowest : Fun := ⟨2, [.c 4 4 true],
 .seq (.reg [⟨none, .box 2 2 (.t 0)⟩,
   ⟨none, .box 3 2 (.t 1)⟩,
   ⟨none, .alloc 4 [.b false, .nil, .b false, .nil]⟩])
 (.seq (.reg [⟨none, .load 6 2 true (.t 2)⟩,
    ⟨none, .load 7 2 true (.t 3)⟩,
    ⟨none, .call (some 8) n_ref01_Gcd [.t 6, .t 7]⟩,
    ⟨none, .alloc 5 [.b false, .nil]⟩,
    ⟨none, .store 2 (.t 5) (.t 8)⟩])
  (.seq (.seq (.reg [⟨none, .load 9 2 true (.t 3)⟩,
      ⟨none, .call (some 10) n_ref01_Sign [.t 9]⟩,
      ⟨none, .bin 11 .lss (.t 10) (.c (.i .i64 0))⟩])
    (.cond (.t 11) (.reg [⟨none, .load 12 2 true (.t 5)⟩,
       ⟨none, .call (some 13) n_ref01_Neg [.t 12]⟩,
       ⟨none, .store 2 (.t 5) (.t 13)⟩])
     (.skip)))
   (.seq (.reg [⟨none, .load 14 2 true (.t 2)⟩,
      ⟨none, .load 15 2 true (.t 5)⟩,
      ⟨none, .call (some 16) n_ref02_exact [.t 14, .t 15]⟩,
      ⟨none, .load 17 2 true (.t 3)⟩,
      ⟨none, .load 18 2 true (.t 5)⟩,
      ⟨none, .call (some 19) n_ref02_exact [.t 17, .t 18]⟩,
      ⟨none, .build 20 [.b false, .nil, .b false, .nil] [(0, 2, .t 16), (2, 2, .t 19)]⟩,
      ⟨none, .store 4 (.t 4) (.t 20)⟩])
    (.ret))))⟩
/- eliminant/eliminantref02.exact -/
def c_ref02_exact : Fun := ⟨2, [.c 4 2 true],
 .seq (.reg [⟨none, .box 2 2 (.t 0)⟩,
   ⟨none, .box 3 2 (.t 1)⟩,
   ⟨none, .alloc 4 [.b false, .nil]⟩])
 (.seq (.reg [⟨none, .load 9 2 true (.t 2)⟩,
    ⟨none, .load 10 2 true (.t 3)⟩,
    ⟨none, .call (some 11) n_ref01_DivMod [.t 9, .t 10]⟩,
    ⟨none, .mv 8 (.t 11)⟩,
    ⟨none, .ext 12 0 (.t 8)⟩,
    ⟨none, .ext 13 1 (.t 8)⟩,
    ⟨none, .ext 14 2 (.t 8)⟩,
    ⟨none, .alloc 5 [.b false, .nil]⟩,
    ⟨none, .alloc 6 [.b false, .nil]⟩,
    ⟨none, .store 2 (.t 5) (.t 12)⟩,
    ⟨none, .store 2 (.t 6) (.t 13)⟩,
    ⟨none, .mv 7 (.t 14)⟩])
  (.seq (.reg [⟨none, .load 15 2 true (.t 5)⟩,
     ⟨none, .store 2 (.t 4) (.t 15)⟩])
   (.ret)))⟩
/- eliminant/eliminantref02.New -/
def c_ref02_New : Fun := ⟨2, [.c 4 4 true, .t 5],
 .seq (.reg [⟨none, .box 2 2 (.t 0)⟩,
   ⟨none, .box 3 2 (.t 1)⟩,
   ⟨none, .alloc 4 [.b false, .nil, .b false, .nil]⟩,
   ⟨none, .mv 5 (.c (.i .i64 0))⟩])
 (.seq (.seq (.reg [⟨none, .load 6 2 true (.t 3)⟩,
     ⟨none, .call (some 7) n_ref01_Sign [.t 6]⟩,
     ⟨none, .bin 8 .eql (.t 7) (.c (.i .i64 0))⟩])
   (.cond (.t 8) (.seq (.reg [⟨none, .build 9 [.b false, .nil, .b false, .nil] []⟩,
       ⟨none, .store 4 (.t 4) (.t 9)⟩,
       ⟨none, .mv 5 (.c (.i .i64 10))⟩])
     (.ret))
    (.skip)))
  (.seq (.reg [⟨none, .load 10 2 true (.t 2)⟩,
     ⟨none, .load 11 2 true (.t 3)⟩,
     ⟨none, .call (some 12) n_ref02_lowest [.t 10, .t 11]⟩,
     ⟨none, .store 4 (.t 4) (.t 12)⟩,
     ⟨none, .mv 5 (.c (.i .i64 0))⟩])
   (.ret)))⟩
/- eliminant/eliminantref02.Inv -/
def c_ref02_Inv : Fun := ⟨1, [.c 2 4 true, .t 3],
 .seq (.reg [⟨none, .box 1 4 (.t 0)⟩,
   ⟨none, .alloc 2 [.b false, .nil, .b false, .nil]⟩,
   ⟨none, .mv 3 (.c (.i .i64 0))⟩])
 (.seq (.reg [⟨none, .faddr 4 2 (.t 1)⟩,
    ⟨none, .load 5 2 true (.t 4)⟩,
    ⟨none, .faddr 6 0 (.t 1)⟩,
    ⟨none, .load 7 2 true (.t 6)⟩,
    ⟨none, .call (some 8) n_ref02_New [.t 5, .t 7]⟩,
    ⟨none, .ext 9 0 (.t 8)⟩,
    ⟨none, .ext 10 1 (.t 8)⟩,
    ⟨none, .store 4 (.t 2) (.t 9)⟩,
    ⟨none, .mv 3 (.t 10)⟩])
  (.ret))⟩
/- eliminant/eliminantref02.Div -/
def c_ref02_Div : Fun := ⟨2, [.c 4 4 true, .t 5],
 .seq (.reg [⟨none, .box 2 4 (.t 0)⟩,
   ⟨none, .box 3 4 (.t 1)⟩,
   ⟨none, .alloc 4 [.b false, .nil, .b false, .nil]⟩,
   ⟨none, .mv 5 (.c (.i .i64 0))⟩])
 (.seq (.reg [⟨none, .faddr 6 0 (.t 2)⟩,
    ⟨none, .load 7 2 true (.t 6)⟩,
    ⟨none, .faddr 8 2 (.t 3)⟩,
    ⟨none, .load 9 2 true (.t 8)⟩,
    ⟨none, .call (some 10) n_ref01_Mul [.t 7, .t 9]⟩,
    ⟨none, .faddr 11 2 (.t 2)⟩,
    ⟨none, .load 12 2 true (.t 11)⟩,
    ⟨none, .faddr 13 0 (.t 3)⟩,
    ⟨none, .load 14 2 true (.t 13)⟩,
    ⟨none, .call (some 15) n_ref01_Mul [.t 12, .t 14]⟩,
    ⟨none, .call (some 16) n_ref02_New [.t 10, .t 15]⟩,
    ⟨none, .ext 17 0 (.t 16)⟩,
    ⟨none, .ext 18 1 (.t 16)⟩,
    ⟨none, .store 4 (.t 4) (.t 17)⟩,
    ⟨none, .mv 5 (.t 18)⟩])
  (.ret))⟩
/- eliminant/eliminantref02.Valid -/
def c_ref02_Valid : Fun := ⟨1, [.t 2],
 .seq (.reg [⟨none, .box 1 4 (.t 0)⟩,
   ⟨none, .mv 2 (.c (.b false))⟩])
 (.seq (.seq (.reg [⟨none, .faddr 3 0 (.t 1)⟩,
     ⟨none, .load 4 2 true (.t 3)⟩,
     ⟨none, .call (some 5) n_ref01_Valid [.t 4]⟩,
     ⟨none, .un 6 .not (.t 5)⟩,
     ⟨none, .mv 7 (.t 6)⟩,
     ⟨some (7, false, 8), .faddr 8 2 (.t 1)⟩,
     ⟨some (7, false, 9), .load 9 2 true (.t 8)⟩,
     ⟨some (7, false, 10), .call (some 10) n_ref01_Valid [.t 9]⟩,
     ⟨some (7, false, 11), .un 11 .not (.t 10)⟩,
     ⟨none, .pick 12 (.t 7) (.c (.b true)) (.t 11)⟩,
     ⟨none, .mv 13 (.t 12)⟩,
     ⟨some (13, false, 14), .faddr 14 2 (.t 1)⟩,
     ⟨some (13, false, 15), .load 15 2 true (.t 14)⟩,
     ⟨some (13, false, 16), .call (some 16) n_ref01_Sign [.t 15]⟩,
     ⟨some (13, false, 17), .bin 17 .lss (.t 16) (.c (.i .i64 1))⟩,
     ⟨none, .pick 18 (.t 13) (.c (.b true)) (.t 17)⟩])
   (.cond (.t 18) (.seq (.reg [⟨none, .mv 2 (.c (.b false))⟩])
     (.ret))
    (.skip)))
  (.seq (.reg [⟨none, .faddr 19 0 (.t 1)⟩,
     ⟨none, .load 20 2 true (.t 19)⟩,
     ⟨none, .faddr 21 2 (.t 1)⟩,
     ⟨none, .load 22 2 true (.t 21)⟩,
     ⟨none, .call (some 23) n_ref01_Gcd [.t 20, .t 22]⟩,
     ⟨none, .call (some 24) n_ref01_Of [.c (.i .i64 1)]⟩,
     ⟨none, .call (some 25) n_ref01_Cmp [.t 23, .t 24]⟩,
     ⟨none, .bin 26 .eql (.t 25) (.c (.i .i64 0))⟩,
     ⟨none, .mv 2 (.t 26)⟩])
   (.ret)))⟩
/- eliminant/integer.natural -/
def c_integer_natural : Fun := ⟨1, [.t 2],
 .seq (.reg [⟨none, .mv 2 (.c (.nil))⟩])
 (.seq (.reg [⟨none, .mv 3 (.t 0)⟩,
    ⟨none, .conv 4 .u32 (.t 3)⟩,
    ⟨none, .mv 5 (.t 0)⟩,
    ⟨none, .bin 6 .shr (.t 5) (.c (.i .u64 32))⟩,
    ⟨none, .conv 7 .u32 (.t 6)⟩,
    ⟨none, .bslice 8 2 1 [.i .u32 0] [(0, 1, .t 4), (1, 1, .t 7)]⟩,
    ⟨none, .call (some 9) n_integer_nat_norm [.t 8]⟩,
    ⟨none, .mv 2 (.t 9)⟩])
  (.ret))⟩
/- (eliminant/integer.nat).norm -/
def l_integer_nat_norm_0 : C :=
 .seq (.seq (.reg [⟨none, .mv 6 (.t 3)⟩,
    ⟨none, .bin 7 .gtr (.t 6) (.c (.i .i64 0))⟩,
    ⟨none, .mv 8 (.t 7)⟩,
    ⟨some (8, true, 9), .mv 9 (.t 0)⟩,
    ⟨some (8, true, 10), .mv 10 (.t 3)⟩,
    ⟨some (8, true, 11), .bin 11 .sub (.t 10) (.c (.i .i64 1))⟩,
    ⟨some (8, true, 12), .iaddrS 12 1 (.t 9) (.t 11)⟩,
    ⟨some (8, true, 13), .load 13 1 false (.t 12)⟩,
    ⟨some (8, true, 14), .bin 14 .eql (.t 13) (.c (.i .u32 0))⟩,
    ⟨none, .pick 15 (.t 8) (.t 14) (.c (.b false))⟩])
  (.cond (.t 15) (.skip)
   (.exit 0)))
 (.block 1 (.reg [⟨none, .mv 16 (.t 3)⟩,
    ⟨none, .bin 17 .sub (.t 16) (.c (.i .i64 1))⟩,
    ⟨none, .mv 3 (.t 17)⟩]))
def c_integer_nat_norm : Fun := ⟨1, [.t 2],
 .seq (.reg [⟨none, .mv 2 (.c (.nil))⟩])
 (.seq (.reg [⟨none, .mv 4 (.t 0)⟩,
    ⟨none, .len 5 (.t 4)⟩,
    ⟨none, .mv 3 (.t 5)⟩])
  (.seq (.block 0 (.loop l_integer_nat_norm_0))
   (.seq (.reg [⟨none, .mv 18 (.t 0)⟩,
      ⟨none, .mv 19 (.t 3)⟩,
      ⟨none, .mv 20 (.t 3)⟩,
      ⟨none, .slice 21 1 (.t 18) none (some (.t 19)) (some (.t 20))⟩,
      ⟨none, .mv 2 (.t 21)⟩])
    (.ret))))⟩
/- (eliminant/integer.nat).signed -/
def c_integer_nat_signed : Fun := ⟨2, [.c 4 2 true],
 .seq (.reg [⟨none, .alloc 4 [.b false, .nil]⟩])
 (.seq (.reg [⟨none, .mv 5 (.t 0)⟩,
    ⟨none, .call (some 6) n_integer_nat_norm [.t 5]⟩,
    ⟨none, .mv 0 (.t 6)⟩])
  (.seq (.reg [⟨none, .mv 7 (.t 1)⟩,
     ⟨none, .mv 8 (.t 7)⟩,
     ⟨some (8, true, 9), .mv 9 (.t 0)⟩,
     ⟨some (8, true, 10), .len 10 (.t 9)⟩,
     ⟨some (8, true, 11), .bin 11 .gtr (.t 10) (.c (.i .i64 0))⟩,
     ⟨none, .pick 12 (.t 8) (.t 11) (.c (.b false))⟩,
     ⟨none, .mv 13 (.t 0)⟩,
     ⟨none, .call (some 14) n_slices_Clone_integer_nat_uint32 [.t 13]⟩,
     ⟨none, .build 15 [.b false, .nil] [(0, 1, .t 12), (1, 1, .t 14)]⟩,
     ⟨none, .store 2 (.t 4) (.t 15)⟩])
   (.ret)))⟩
/- (eliminant/integer.nat).at -/
def c_integer_nat_at : Fun := ⟨2, [.t 4],
 .seq (.reg [⟨none, .mv 4 (.c (.i .u32 0))⟩])
 (.seq (.seq (.reg [⟨none, .mv 5 (.t 1)⟩,
     ⟨none, .mv 6 (.t 0)⟩,
     ⟨none, .len 7 (.t 6)⟩,
     ⟨none, .bin 8 .lss (.t 5) (.t 7)⟩])
   (.cond (.t 8) (.seq (.reg [⟨none, .mv 9 (.t 0)⟩,
       ⟨none, .mv 10 (.t 1)⟩,
       ⟨none, .iaddrS 11 1 (.t 9) (.t 10)⟩,
       ⟨none, .load 12 1 false (.t 11)⟩,
       ⟨none, .mv 4 (.t 12)⟩])
     (.ret))
    (.skip)))
  (.seq (.reg [⟨none, .mv 4 (.c (.i .u32 0))⟩])
   (.ret)))⟩
/- (eliminant/integer.nat).cmp -/
def l_integer_nat_cmp_0 : C :=
 .seq (.reg [⟨none, .bin 20 .lss (.t 19) (.t 18)⟩])
 (.seq (.cond (.t 20) (.skip)
   (.exit 0))
  (.seq (.block 1 (.seq (.reg [⟨none, .mv 21 (.t 19)⟩,
       ⟨none, .mv 5 (.t 21)⟩])
     (.seq (.reg [⟨none, .mv 22 (.t 0)⟩,
        ⟨none, .len 23 (.t 22)⟩,
        ⟨none, .bin 24 .sub (.t 23) (.c (.i .i64 1))⟩,
        ⟨none, .mv 25 (.t 5)⟩,
        ⟨none, .bin 26 .sub (.t 24) (.t 25)⟩,
        ⟨none, .mv 6 (.t 26)⟩])
      (.seq (.reg [⟨none, .mv 27 (.t 0)⟩,
         ⟨none, .mv 28 (.t 6)⟩,
         ⟨none, .iaddrS 29 1 (.t 27) (.t 28)⟩,
         ⟨none, .load 30 1 false (.t 29)⟩,
         ⟨none, .mv 31 (.t 1)⟩,
         ⟨none, .mv 32 (.t 6)⟩,
         ⟨none, .iaddrS 33 1 (.t 31) (.t 32)⟩,
         ⟨none, .load 34 1 false (.t 33)⟩,
         ⟨none, .bin 35 .neq (.t 30) (.t 34)⟩])
       (.cond (.t 35) (.seq (.reg [⟨none, .mv 36 (.t 0)⟩,
           ⟨none, .mv 37 (.t 6)⟩,
           ⟨none, .iaddrS 38 1 (.t 36) (.t 37)⟩,
           ⟨none, .load 39 1 false (.t 38)⟩,
           ⟨none, .mv 40 (.t 1)⟩,
           ⟨none, .mv 41 (.t 6)⟩,
           ⟨none, .iaddrS 42 1 (.t 40) (.t 41)⟩,
           ⟨none, .load 43 1 false (.t 42)⟩,
           ⟨none, .call (some 44) n_cmp_Compare_uint32 [.t 39, .t 43]⟩,
           ⟨none, .mv 4 (.t 44)⟩])
         (.ret))
        (.skip))))))
   (.reg [⟨none, .bin 45 .add (.t 19) (.c (.i .i64 1))⟩,
     ⟨none, .mv 19 (.t 45)⟩])))
def c_integer_nat_cmp : Fun := ⟨2, [.t 4],
 .seq (.reg [⟨none, .mv 4 (.c (.i .i64 0))⟩])
 (.seq (.seq (.reg [⟨none, .mv 7 (.t 0)⟩,
     ⟨none, .len 8 (.t 7)⟩,
     ⟨none, .mv 9 (.t 1)⟩,
     ⟨none, .len 10 (.t 9)⟩,
     ⟨none, .bin 11 .neq (.t 8) (.t 10)⟩])
   (.cond (.t 11) (.seq (.reg [⟨none, .mv 12 (.t 0)⟩,
       ⟨none, .len 13 (.t 12)⟩,
       ⟨none, .mv 14 (.t 1)⟩,
       ⟨none, .len 15 (.t 14)⟩,
       ⟨none, .call (some 16) n_cmp_Compare_int [.t 13, .t 15]⟩,
       ⟨none, .mv 4 (.t 16)⟩])
     (.ret))
    (.skip)))
  (.seq (.seq (.reg [⟨none, .mv 17 (.t 0)⟩,
      ⟨none, .len 18 (.t 17)⟩,
      ⟨none, .mv 19 (.c (.i .i64 0))⟩])
    (.block 0 (.loop l_integer_nat_cmp_0)))
   (.seq (.reg [⟨none, .mv 4 (.c (.i .i64 0))⟩])
    (.ret))))⟩
/- (eliminant/integer.nat).add -/
def l_integer_nat_add_0 : C :=
 .seq (.reg [⟨none, .bin 19 .lss (.t 18) (.t 17)⟩])
 (.seq (.cond (.t 19) (.skip)
   (.exit 0))
  (.seq (.block 1 (.seq (.reg [⟨none, .mv 20 (.t 18)⟩,
       ⟨none, .mv 8 (.t 20)⟩])
     (.reg [⟨none, .mv 22 (.t 6)⟩,
       ⟨none, .mv 23 (.t 8)⟩,
       ⟨none, .mv 24 (.t 0)⟩,
       ⟨none, .mv 25 (.t 8)⟩,
       ⟨none, .call (some 26) n_integer_nat_at [.t 24, .t 25]⟩,
       ⟨none, .mv 27 (.t 1)⟩,
       ⟨none, .mv 28 (.t 8)⟩,
       ⟨none, .call (some 29) n_integer_nat_at [.t 27, .t 28]⟩,
       ⟨none, .mv 30 (.t 7)⟩,
       ⟨none, .call (some 31) n_math_bits_Add32 [.t 26, .t 29, .t 30]⟩,
       ⟨none, .mv 21 (.t 31)⟩,
       ⟨none, .ext 32 0 (.t 21)⟩,
       ⟨none, .ext 33 1 (.t 21)⟩,
       ⟨none, .iaddrS 34 1 (.t 22) (.t 23)⟩,
       ⟨none, .store 1 (.t 34) (.t 32)⟩,
       ⟨none, .mv 7 (.t 33)⟩])))
   (.reg [⟨none, .bin 35 .add (.t 18) (.c (.i .i64 1))⟩,
     ⟨none, .mv 18 (.t 35)⟩])))
def c_integer_nat_add : Fun := ⟨2, [.t 4],
 .seq (.reg [⟨none, .mv 4 (.c (.nil))⟩])
 (.seq (.reg [⟨none, .mv 9 (.t 0)⟩,
    ⟨none, .len 10 (.t 9)⟩,
    ⟨none, .mv 11 (.t 1)⟩,
    ⟨none, .len 12 (.t 11)⟩,
    ⟨none, .mnx 13 true (.t 10) (.t 12)⟩,
    ⟨none, .mv 5 (.t 13)⟩])
  (.seq (.reg [⟨none, .mv 14 (.t 5)⟩,
     ⟨none, .bin 15 .add (.t 14) (.c (.i .i64 1))⟩,
     ⟨none, .mkslice 16 1 [.i .u32 0] (.t 15) (.t 15)⟩,
     ⟨none, .mv 6 (.t 16)⟩])
   (.seq (.reg [⟨none, .mv 7 (.c (.i .u32 0))⟩])
    (.seq (.seq (.reg [⟨none, .mv 17 (.t 5)⟩,
        ⟨none, .mv 18 (.c (.i .i64 0))⟩])
      (.block 0 (.loop l_integer_nat_add_0)))
     (.seq (.reg [⟨none, .mv 36 (.t 6)⟩,
        ⟨none, .mv 37 (.t 5)⟩,
        ⟨none, .mv 38 (.t 7)⟩,
        ⟨none, .iaddrS 39 1 (.t 36) (.t 37)⟩,
        ⟨none, .store 1 (.t 39) (.t 38)⟩])
      (.seq (.reg [⟨none, .mv 40 (.t 6)⟩,
         ⟨none, .call (some 41) n_integer_nat_norm [.t 40]⟩,
         ⟨none, .mv 4 (.t 41)⟩])
       (.ret)))))))⟩
/- (eliminant/integer.nat).sub -/
def l_integer_nat_sub_0 : C :=
 .seq (.reg [⟨none, .bin 14 .lss (.t 13) (.t 12)⟩])
 (.seq (.cond (.t 14) (.skip)
   (.exit 0))
  (.seq (.block 1 (.seq (.reg [⟨none, .mv 15 (.t 13)⟩,
       ⟨none, .mv 7 (.t 15)⟩])
     (.reg [⟨none, .mv 17 (.t 5)⟩,
       ⟨none, .mv 18 (.t 7)⟩,
       ⟨none, .mv 19 (.t 0)⟩,
       ⟨none, .mv 20 (.t 7)⟩,
       ⟨none, .iaddrS 21 1 (.t 19) (.t 20)⟩,
       ⟨none, .load 22 1 false (.t 21)⟩,
       ⟨none, .mv 23 (.t 1)⟩,
       ⟨none, .mv 24 (.t 7)⟩,
       ⟨none, .call (some 25) n_integer_nat_at [.t 23, .t 24]⟩,
       ⟨none, .mv 26 (.t 6)⟩,
       ⟨none, .call (some 27) n_math_bits_Sub32 [.t 22, .t 25, .t 26]⟩,
       ⟨none, .mv 16 (.t 27)⟩,
       ⟨none, .ext 28 0 (.t 16)⟩,
       ⟨none, .ext 29 1 (.t 16)⟩,
       ⟨none, .iaddrS 30 1 (.t 17) (.t 18)⟩,
       ⟨none, .store 1 (.t 30) (.t 28)⟩,
       ⟨none, .mv 6 (.t 29)⟩])))
   (.reg [⟨none, .bin 31 .add (.t 13) (.c (.i .i64 1))⟩,
     ⟨none, .mv 13 (.t 31)⟩])))
def c_integer_nat_sub : Fun := ⟨2, [.t 4],
 .seq (.reg [⟨none, .mv 4 (.c (.nil))⟩])
 (.seq (.reg [⟨none, .mv 8 (.t 0)⟩,
    ⟨none, .len 9 (.t 8)⟩,
    ⟨none, .mkslice 10 1 [.i .u32 0] (.t 9) (.t 9)⟩,
    ⟨none, .mv 5 (.t 10)⟩])
  (.seq (.reg [⟨none, .mv 6 (.c (.i .u32 0))⟩])
   (.seq (.seq (.reg [⟨none, .mv 11 (.t 5)⟩,
       ⟨none, .len 12 (.t 11)⟩,
       ⟨none, .mv 13 (.c (.i .i64 0))⟩])
     (.block 0 (.loop l_integer_nat_sub_0)))
    (.seq (.reg [⟨none, .mv 32 (.t 5)⟩,
       ⟨none, .call (some 33) n_integer_nat_norm [.t 32]⟩,
       ⟨none, .mv 4 (.t 33)⟩])
     (.ret)))))⟩
/- (eliminant/integer.nat).mul -/
def l_integer_nat_mul_0 : C :=
 .seq (.reg [⟨none, .bin 27 .lss (.t 26) (.t 25)⟩])
 (.seq (.cond (.t 27) (.skip)
   (.exit 2))
  (.seq (.block 3 (.seq (.reg [⟨none, .mv 28 (.t 26)⟩,
       ⟨none, .iaddrS 29 1 (.t 24) (.t 26)⟩,
       ⟨none, .load 30 1 false (.t 29)⟩,
       ⟨none, .mv 9 (.t 28)⟩,
       ⟨none, .mv 10 (.t 30)⟩])
     (.seq (.reg [⟨none, .mv 31 (.t 8)⟩,
        ⟨none, .mv 32 (.t 7)⟩,
        ⟨none, .conv 33 .u64 (.t 32)⟩,
        ⟨none, .mv 34 (.t 10)⟩,
        ⟨none, .conv 35 .u64 (.t 34)⟩,
        ⟨none, .bin 36 .mul (.t 33) (.t 35)⟩,
        ⟨none, .mv 37 (.t 5)⟩,
        ⟨none, .mv 38 (.t 6)⟩,
        ⟨none, .mv 39 (.t 9)⟩,
        ⟨none, .bin 40 .add (.t 38) (.t 39)⟩,
        ⟨none, .iaddrS 41 1 (.t 37) (.t 40)⟩,
        ⟨none, .load 42 1 false (.t 41)⟩,
        ⟨none, .conv 43 .u64 (.t 42)⟩,
        ⟨none, .bin 44 .add (.t 36) (.t 43)⟩,
        ⟨none, .bin 45 .add (.t 31) (.t 44)⟩,
        ⟨none, .mv 8 (.t 45)⟩])
      (.seq (.reg [⟨none, .mv 46 (.t 5)⟩,
         ⟨none, .mv 47 (.t 6)⟩,
         ⟨none, .mv 48 (.t 9)⟩,
         ⟨none, .bin 49 .add (.t 47) (.t 48)⟩,
         ⟨none, .mv 50 (.t 8)⟩,
         ⟨none, .conv 51 .u32 (.t 50)⟩,
         ⟨none, .iaddrS 52 1 (.t 46) (.t 49)⟩,
         ⟨none, .store 1 (.t 52) (.t 51)⟩])
       (.reg [⟨none, .mv 53 (.t 8)⟩,
         ⟨none, .bin 54 .shr (.t 53) (.c (.i .u64 32))⟩,
         ⟨none, .mv 8 (.t 54)⟩])))))
   (.reg [⟨none, .bin 55 .add (.t 26) (.c (.i .i64 1))⟩,
     ⟨none, .mv 26 (.t 55)⟩])))
def l_integer_nat_mul_1 : C :=
 .seq (.reg [⟨none, .bin 20 .lss (.t 19) (.t 18)⟩])
 (.seq (.cond (.t 20) (.skip)
   (.exit 0))
  (.seq (.block 1 (.seq (.reg [⟨none, .mv 21 (.t 19)⟩,
       ⟨none, .iaddrS 22 1 (.t 17) (.t 19)⟩,
       ⟨none, .load 23 1 false (.t 22)⟩,
       ⟨none, .mv 6 (.t 21)⟩,
       ⟨none, .mv 7 (.t 23)⟩])
     (.seq (.reg [⟨none, .mv 8 (.c (.i .u64 0))⟩])
      (.seq (.seq (.reg [⟨none, .mv 24 (.t 1)⟩,
          ⟨none, .len 25 (.t 24)⟩,
          ⟨none, .mv 26 (.c (.i .i64 0))⟩])
        (.block 2 (.loop l_integer_nat_mul_0)))
       (.reg [⟨none, .mv 56 (.t 5)⟩,
         ⟨none, .mv 57 (.t 6)⟩,
         ⟨none, .mv 58 (.t 1)⟩,
         ⟨none, .len 59 (.t 58)⟩,
         ⟨none, .bin 60 .add (.t 57) (.t 59)⟩,
         ⟨none, .mv 61 (.t 8)⟩,
         ⟨none, .conv 62 .u32 (.t 61)⟩,
         ⟨none, .iaddrS 63 1 (.t 56) (.t 60)⟩,
         ⟨none, .store 1 (.t 63) (.t 62)⟩])))))
   (.reg [⟨none, .bin 64 .add (.t 19) (.c (.i .i64 1))⟩,
     ⟨none, .mv 19 (.t 64)⟩])))
def c_integer_nat_mul : Fun := ⟨2, [.t 4],
 .seq (.reg [⟨none, .mv 4 (.c (.nil))⟩])
 (.seq (.reg [⟨none, .mv 11 (.t 0)⟩,
    ⟨none, .len 12 (.t 11)⟩,
    ⟨none, .mv 13 (.t 1)⟩,
    ⟨none, .len 14 (.t 13)⟩,
    ⟨none, .bin 15 .add (.t 12) (.t 14)⟩,
    ⟨none, .mkslice 16 1 [.i .u32 0] (.t 15) (.t 15)⟩,
    ⟨none, .mv 5 (.t 16)⟩])
  (.seq (.seq (.reg [⟨none, .mv 17 (.t 0)⟩,
      ⟨none, .len 18 (.t 17)⟩,
      ⟨none, .mv 19 (.c (.i .i64 0))⟩])
    (.block 0 (.loop l_integer_nat_mul_1)))
   (.seq (.reg [⟨none, .mv 65 (.t 5)⟩,
      ⟨none, .call (some 66) n_integer_nat_norm [.t 65]⟩,
      ⟨none, .mv 4 (.t 66)⟩])
    (.ret))))⟩
/- (eliminant/integer.nat).word -/
def l_integer_nat_word_0 : C :=
 .seq (.reg [⟨none, .bin 16 .lss (.t 15) (.t 14)⟩])
 (.seq (.cond (.t 16) (.skip)
   (.exit 0))
  (.seq (.block 1 (.seq (.reg [⟨none, .mv 17 (.t 15)⟩,
       ⟨none, .mv 8 (.t 17)⟩])
     (.seq (.reg [⟨none, .mv 18 (.t 0)⟩,
        ⟨none, .len 19 (.t 18)⟩,
        ⟨none, .bin 20 .sub (.t 19) (.c (.i .i64 1))⟩,
        ⟨none, .mv 21 (.t 8)⟩,
        ⟨none, .bin 22 .sub (.t 20) (.t 21)⟩,
        ⟨none, .mv 9 (.t 22)⟩])
      (.reg [⟨none, .mv 24 (.t 6)⟩,
        ⟨none, .mv 25 (.t 9)⟩,
        ⟨none, .mv 26 (.t 7)⟩,
        ⟨none, .mv 27 (.t 0)⟩,
        ⟨none, .mv 28 (.t 9)⟩,
        ⟨none, .iaddrS 29 1 (.t 27) (.t 28)⟩,
        ⟨none, .load 30 1 false (.t 29)⟩,
        ⟨none, .mv 31 (.t 1)⟩,
        ⟨none, .call (some 32) n_math_bits_Div32 [.t 26, .t 30, .t 31]⟩,
        ⟨none, .mv 23 (.t 32)⟩,
        ⟨none, .ext 33 0 (.t 23)⟩,
        ⟨none, .ext 34 1 (.t 23)⟩,
        ⟨none, .iaddrS 35 1 (.t 24) (.t 25)⟩,
        ⟨none, .store 1 (.t 35) (.t 33)⟩,
        ⟨none, .mv 7 (.t 34)⟩]))))
   (.reg [⟨none, .bin 36 .add (.t 15) (.c (.i .i64 1))⟩,
     ⟨none, .mv 15 (.t 36)⟩])))
def c_integer_nat_word : Fun := ⟨2, [.t 4, .t 5],
 .seq (.reg [⟨none, .mv 4 (.c (.nil))⟩,
   ⟨none, .mv 5 (.c (.i .u32 0))⟩])
 (.seq (.reg [⟨none, .mv 10 (.t 0)⟩,
    ⟨none, .len 11 (.t 10)⟩,
    ⟨none, .mkslice 12 1 [.i .u32 0] (.t 11) (.t 11)⟩,
    ⟨none, .mv 6 (.t 12)⟩])
  (.seq (.reg [⟨none, .mv 7 (.c (.i .u32 0))⟩])
   (.seq (.seq (.reg [⟨none, .mv 13 (.t 0)⟩,
       ⟨none, .len 14 (.t 13)⟩,
       ⟨none, .mv 15 (.c (.i .i64 0))⟩])
     (.block 0 (.loop l_integer_nat_word_0)))
    (.seq (.reg [⟨none, .mv 37 (.t 6)⟩,
       ⟨none, .call (some 38) n_integer_nat_norm [.t 37]⟩,
       ⟨none, .mv 39 (.t 7)⟩,
       ⟨none, .mv 4 (.t 38)⟩,
       ⟨none, .mv 5 (.t 39)⟩])
     (.ret)))))⟩
/- (eliminant/integer.nat).shl -/
def l_integer_nat_shl_0 : C :=
 .seq (.reg [⟨none, .bin 16 .lss (.t 15) (.t 14)⟩])
 (.seq (.cond (.t 16) (.skip)
   (.exit 0))
  (.seq (.block 1 (.seq (.reg [⟨none, .mv 17 (.t 15)⟩,
       ⟨none, .iaddrS 18 1 (.t 13) (.t 15)⟩,
       ⟨none, .load 19 1 false (.t 18)⟩,
       ⟨none, .mv 6 (.t 17)⟩,
       ⟨none, .mv 7 (.t 19)⟩])
     (.seq (.reg [⟨none, .mv 20 (.t 7)⟩,
        ⟨none, .conv 21 .u64 (.t 20)⟩,
        ⟨none, .mv 22 (.t 1)⟩,
        ⟨none, .bin 23 .shl (.t 21) (.t 22)⟩,
        ⟨none, .mv 8 (.t 23)⟩])
      (.seq (.reg [⟨none, .mv 24 (.t 5)⟩,
         ⟨none, .mv 25 (.t 6)⟩,
         ⟨none, .iaddrS 26 1 (.t 24) (.t 25)⟩,
         ⟨none, .load 27 1 false (.t 26)⟩,
         ⟨none, .mv 28 (.t 8)⟩,
         ⟨none, .conv 29 .u32 (.t 28)⟩,
         ⟨none, .bin 30 .or (.t 27) (.t 29)⟩,
         ⟨none, .iaddrS 31 1 (.t 24) (.t 25)⟩,
         ⟨none, .store 1 (.t 31) (.t 30)⟩])
       (.reg [⟨none, .mv 32 (.t 5)⟩,
         ⟨none, .mv 33 (.t 6)⟩,
         ⟨none, .bin 34 .add (.t 33) (.c (.i .i64 1))⟩,
         ⟨none, .mv 35 (.t 8)⟩,
         ⟨none, .bin 36 .shr (.t 35) (.c (.i .u64 32))⟩,
         ⟨none, .conv 37 .u32 (.t 36)⟩,
         ⟨none, .iaddrS 38 1 (.t 32) (.t 34)⟩,
         ⟨none, .store 1 (.t 38) (.t 37)⟩])))))
   (.reg [⟨none, .bin 39 .add (.t 15) (.c (.i .i64 1))⟩,
     ⟨none, .mv 15 (.t 39)⟩])))
def c_integer_nat_shl : Fun := ⟨2, [.t 4],
 .seq (.reg [⟨none, .mv 4 (.c (.nil))⟩])
 (.seq (.reg [⟨none, .mv 9 (.t 0)⟩,
    ⟨none, .len 10 (.t 9)⟩,
    ⟨none, .bin 11 .add (.t 10) (.c (.i .i64 1))⟩,
    ⟨none, .mkslice 12 1 [.i .u32 0] (.t 11) (.t 11)⟩,
    ⟨none, .mv 5 (.t 12)⟩])
  (.seq (.seq (.reg [⟨none, .mv 13 (.t 0)⟩,
      ⟨none, .len 14 (.t 13)⟩,
      ⟨none, .mv 15 (.c (.i .i64 0))⟩])
    (.block 0 (.loop l_integer_nat_shl_0)))
   (.seq (.reg [⟨none, .mv 40 (.t 5)⟩,
      ⟨none, .mv 4 (.t 40)⟩])
    (.ret))))⟩
/- (eliminant/integer.nat).shr -/
def l_integer_nat_shr_0 : C :=
 .seq (.reg [⟨none, .bin 13 .lss (.t 12) (.t 11)⟩])
 (.seq (.cond (.t 13) (.skip)
   (.exit 0))
  (.seq (.block 1 (.seq (.reg [⟨none, .mv 14 (.t 12)⟩,
       ⟨none, .mv 6 (.t 14)⟩])
     (.reg [⟨none, .mv 15 (.t 5)⟩,
       ⟨none, .mv 16 (.t 6)⟩,
       ⟨none, .mv 17 (.t 0)⟩,
       ⟨none, .mv 18 (.t 6)⟩,
       ⟨none, .bin 19 .add (.t 18) (.c (.i .i64 1))⟩,
       ⟨none, .call (some 20) n_integer_nat_at [.t 17, .t 19]⟩,
       ⟨none, .conv 21 .u64 (.t 20)⟩,
       ⟨none, .bin 22 .shl (.t 21) (.c (.i .u64 32))⟩,
       ⟨none, .mv 23 (.t 0)⟩,
       ⟨none, .mv 24 (.t 6)⟩,
       ⟨none, .iaddrS 25 1 (.t 23) (.t 24)⟩,
       ⟨none, .load 26 1 false (.t 25)⟩,
       ⟨none, .conv 27 .u64 (.t 26)⟩,
       ⟨none, .bin 28 .or (.t 22) (.t 27)⟩,
       ⟨none, .mv 29 (.t 1)⟩,
       ⟨none, .bin 30 .shr (.t 28) (.t 29)⟩,
       ⟨none, .conv 31 .u32 (.t 30)⟩,
       ⟨none, .iaddrS 32 1 (.t 15) (.t 16)⟩,
       ⟨none, .store 1 (.t 32) (.t 31)⟩])))
   (.reg [⟨none, .bin 33 .add (.t 12) (.c (.i .i64 1))⟩,
     ⟨none, .mv 12 (.t 33)⟩])))
def c_integer_nat_shr : Fun := ⟨2, [.t 4],
 .seq (.reg [⟨none, .mv 4 (.c (.nil))⟩])
 (.seq (.reg [⟨none, .mv 7 (.t 0)⟩,
    ⟨none, .len 8 (.t 7)⟩,
    ⟨none, .mkslice 9 1 [.i .u32 0] (.t 8) (.t 8)⟩,
    ⟨none, .mv 5 (.t 9)⟩])
  (.seq (.seq (.reg [⟨none, .mv 10 (.t 0)⟩,
      ⟨none, .len 11 (.t 10)⟩,
      ⟨none, .mv 12 (.c (.i .i64 0))⟩])
    (.block 0 (.loop l_integer_nat_shr_0)))
   (.seq (.reg [⟨none, .mv 34 (.t 5)⟩,
      ⟨none, .call (some 35) n_integer_nat_norm [.t 34]⟩,
      ⟨none, .mv 4 (.t 35)⟩])
    (.ret))))⟩
/- (eliminant/integer.nat).div -/
def l_integer_nat_div_0 : C :=
 .seq (.reg [⟨none, .bin 57 .lss (.t 56) (.t 55)⟩])
 (.seq (.cond (.t 57) (.skip)
   (.exit 0))
  (.seq (.block 1 (.seq (.reg [⟨none, .mv 58 (.t 56)⟩,
       ⟨none, .mv 12 (.t 58)⟩])
     (.seq (.reg [⟨none, .mv 59 (.t 11)⟩,
        ⟨none, .len 60 (.t 59)⟩,
        ⟨none, .bin 61 .sub (.t 60) (.c (.i .i64 1))⟩,
        ⟨none, .mv 62 (.t 12)⟩,
        ⟨none, .bin 63 .sub (.t 61) (.t 62)⟩,
        ⟨none, .mv 13 (.t 63)⟩])
      (.reg [⟨none, .mv 64 (.t 11)⟩,
        ⟨none, .mv 65 (.t 13)⟩,
        ⟨none, .mv 66 (.t 9)⟩,
        ⟨none, .mv 67 (.t 13)⟩,
        ⟨none, .mv 68 (.t 13)⟩,
        ⟨none, .mv 69 (.t 10)⟩,
        ⟨none, .len 70 (.t 69)⟩,
        ⟨none, .bin 71 .add (.t 68) (.t 70)⟩,
        ⟨none, .bin 72 .add (.t 71) (.c (.i .i64 1))⟩,
        ⟨none, .slice 73 1 (.t 66) (some (.t 67)) (some (.t 72)) none⟩,
        ⟨none, .mv 74 (.t 10)⟩,
        ⟨none, .call (some 75) n_integer_nat_reduce [.t 73, .t 74]⟩,
        ⟨none, .iaddrS 76 1 (.t 64) (.t 65)⟩,
        ⟨none, .store 1 (.t 76) (.t 75)⟩]))))
   (.reg [⟨none, .bin 77 .add (.t 56) (.c (.i .i64 1))⟩,
     ⟨none, .mv 56 (.t 77)⟩])))
def c_integer_nat_div : Fun := ⟨2, [.t 4, .t 5],
 .seq (.reg [⟨none, .mv 4 (.c (.nil))⟩,
   ⟨none, .mv 5 (.c (.nil))⟩])
 (.seq (.seq (.reg [⟨none, .mv 14 (.t 0)⟩,
     ⟨none, .mv 15 (.t 1)⟩,
     ⟨none, .call (some 16) n_integer_nat_cmp [.t 14, .t 15]⟩,
     ⟨none, .bin 17 .lss (.t 16) (.c (.i .i64 0))⟩])
   (.cond (.t 17) (.seq (.reg [⟨none, .mv 18 (.t 0)⟩,
       ⟨none, .mv 4 (.c (.nil))⟩,
       ⟨none, .mv 5 (.t 18)⟩])
     (.ret))
    (.skip)))
  (.seq (.seq (.reg [⟨none, .mv 19 (.t 1)⟩,
      ⟨none, .len 20 (.t 19)⟩,
      ⟨none, .bin 21 .eql (.t 20) (.c (.i .i64 1))⟩])
    (.cond (.t 21) (.seq (.reg [⟨none, .mv 23 (.t 0)⟩,
        ⟨none, .mv 24 (.t 1)⟩,
        ⟨none, .iaddrS 25 1 (.t 24) (.c (.i .i64 0))⟩,
        ⟨none, .load 26 1 false (.t 25)⟩,
        ⟨none, .call (some 27) n_integer_nat_word [.t 23, .t 26]⟩,
        ⟨none, .mv 22 (.t 27)⟩,
        ⟨none, .ext 28 0 (.t 22)⟩,
        ⟨none, .ext 29 1 (.t 22)⟩,
        ⟨none, .mv 6 (.t 28)⟩,
        ⟨none, .mv 7 (.t 29)⟩])
      (.seq (.reg [⟨none, .mv 30 (.t 6)⟩,
         ⟨none, .mv 31 (.t 7)⟩,
         ⟨none, .bslice 32 1 1 [.i .u32 0] [(0, 1, .t 31)]⟩,
         ⟨none, .call (some 33) n_integer_nat_norm [.t 32]⟩,
         ⟨none, .mv 4 (.t 30)⟩,
         ⟨none, .mv 5 (.t 33)⟩])
       (.ret)))
     (.skip)))
   (.seq (.reg [⟨none, .mv 34 (.t 1)⟩,
      ⟨none, .mv 35 (.t 1)⟩,
      ⟨none, .len 36 (.t 35)⟩,
      ⟨none, .bin 37 .sub (.t 36) (.c (.i .i64 1))⟩,
      ⟨none, .iaddrS 38 1 (.t 34) (.t 37)⟩,
      ⟨none, .load 39 1 false (.t 38)⟩,
      ⟨none, .call (some 40) n_math_bits_LeadingZeros32 [.t 39]⟩,
      ⟨none, .mv 8 (.t 40)⟩])
    (.seq (.reg [⟨none, .mv 41 (.t 0)⟩,
       ⟨none, .mv 42 (.t 8)⟩,
       ⟨none, .call (some 43) n_integer_nat_shl [.t 41, .t 42]⟩,
       ⟨none, .mv 44 (.t 1)⟩,
       ⟨none, .mv 45 (.t 8)⟩,
       ⟨none, .call (some 46) n_integer_nat_shl [.t 44, .t 45]⟩,
       ⟨none, .call (some 47) n_integer_nat_norm [.t 46]⟩,
       ⟨none, .mv 9 (.t 43)⟩,
       ⟨none, .mv 10 (.t 47)⟩])
     (.seq (.reg [⟨none, .mv 48 (.t 9)⟩,
        ⟨none, .len 49 (.t 48)⟩,
        ⟨none, .mv 50 (.t 10)⟩,
        ⟨none, .len 51 (.t 50)⟩,
        ⟨none, .bin 52 .sub (.t 49) (.t 51)⟩,
        ⟨none, .mkslice 53 1 [.i .u32 0] (.t 52) (.t 52)⟩,
        ⟨none, .mv 11 (.t 53)⟩])
      (.seq (.seq (.reg [⟨none, .mv 54 (.t 11)⟩,
          ⟨none, .len 55 (.t 54)⟩,
          ⟨none, .mv 56 (.c (.i .i64 0))⟩])
        (.block 0 (.loop l_integer_nat_div_0)))
       (.seq (.reg [⟨none, .mv 78 (.t 11)⟩,
          ⟨none, .call (some 79) n_integer_nat_norm [.t 78]⟩,
          ⟨none, .mv 80 (.t 9)⟩,
          ⟨none, .call (some 81) n_integer_nat_norm [.t 80]⟩,
          ⟨none, .mv 82 (.t 8)⟩,
          ⟨none, .call (some 83) n_integer_nat_shr [.t 81, .t 82]⟩,
          ⟨none, .mv 4 (.t 79)⟩,
          ⟨none, .mv 5 (.t 83)⟩])
        (.ret))))))))⟩
/- (eliminant/integer.nat).reduce -/
def l_integer_nat_reduce_0 : C :=
 .seq (.seq (.reg [⟨none, .mv 49 (.t 9)⟩,
    ⟨none, .bin 50 .leq (.t 49) (.c (.i .u64 4294967295))⟩,
    ⟨none, .mv 51 (.t 50)⟩,
    ⟨some (51, true, 52), .mv 52 (.t 6)⟩,
    ⟨some (51, true, 53), .mv 53 (.t 1)⟩,
    ⟨some (51, true, 54), .mv 54 (.t 5)⟩,
    ⟨some (51, true, 55), .bin 55 .sub (.t 54) (.c (.i .i64 2))⟩,
    ⟨some (51, true, 56), .iaddrS 56 1 (.t 53) (.t 55)⟩,
    ⟨some (51, true, 57), .load 57 1 false (.t 56)⟩,
    ⟨some (51, true, 58), .conv 58 .u64 (.t 57)⟩,
    ⟨some (51, true, 59), .bin 59 .mul (.t 52) (.t 58)⟩,
    ⟨some (51, true, 60), .mv 60 (.t 9)⟩,
    ⟨some (51, true, 61), .bin 61 .shl (.t 60) (.c (.i .u64 32))⟩,
    ⟨some (51, true, 62), .mv 62 (.t 0)⟩,
    ⟨some (51, true, 63), .mv 63 (.t 5)⟩,
    ⟨some (51, true, 64), .bin 64 .sub (.t 63) (.c (.i .i64 2))⟩,
    ⟨some (51, true, 65), .iaddrS 65 1 (.t 62) (.t 64)⟩,
    ⟨some (51, true, 66), .load 66 1 false (.t 65)⟩,
    ⟨some (51, true, 67), .conv 67 .u64 (.t 66)⟩,
    ⟨some (51, true, 68), .bin 68 .or (.t 61) (.t 67)⟩,
    ⟨some (51, true, 69), .bin 69 .gtr (.t 59) (.t 68)⟩,
    ⟨none, .pick 70 (.t 51) (.t 69) (.c (.b false))⟩])
  (.cond (.t 70) (.skip)
   (.exit 0)))
 (.seq (.block 1 (.reg [⟨none, .mv 79 (.t 6)⟩,
     ⟨none, .bin 80 .sub (.t 79) (.c (.i .u64 1))⟩,
     ⟨none, .mv 6 (.t 80)⟩]))
  (.reg [⟨none, .mv 71 (.t 9)⟩,
    ⟨none, .mv 72 (.t 1)⟩,
    ⟨none, .mv 73 (.t 5)⟩,
    ⟨none, .bin 74 .sub (.t 73) (.c (.i .i64 1))⟩,
    ⟨none, .iaddrS 75 1 (.t 72) (.t 74)⟩,
    ⟨none, .load 76 1 false (.t 75)⟩,
    ⟨none, .conv 77 .u64 (.t 76)⟩,
    ⟨none, .bin 78 .add (.t 71) (.t 77)⟩,
    ⟨none, .mv 9 (.t 78)⟩]))
def l_integer_nat_reduce_1 : C :=
 .seq (.reg [⟨none, .bin 84 .lss (.t 83) (.t 82)⟩])
 (.seq (.cond (.t 84) (.skip)
   (.exit 2))
  (.seq (.block 3 (.seq (.reg [⟨none, .mv 85 (.t 83)⟩,
       ⟨none, .mv 12 (.t 85)⟩])
     (.seq (.reg [⟨none, .mv 86 (.t 10)⟩,
        ⟨none, .mv 87 (.t 6)⟩,
        ⟨none, .mv 88 (.t 1)⟩,
        ⟨none, .mv 89 (.t 12)⟩,
        ⟨none, .call (some 90) n_integer_nat_at [.t 88, .t 89]⟩,
        ⟨none, .conv 91 .u64 (.t 90)⟩,
        ⟨none, .bin 92 .mul (.t 87) (.t 91)⟩,
        ⟨none, .bin 93 .add (.t 86) (.t 92)⟩,
        ⟨none, .mv 10 (.t 93)⟩])
      (.seq (.reg [⟨none, .mv 95 (.t 0)⟩,
         ⟨none, .mv 96 (.t 12)⟩,
         ⟨none, .mv 97 (.t 0)⟩,
         ⟨none, .mv 98 (.t 12)⟩,
         ⟨none, .iaddrS 99 1 (.t 97) (.t 98)⟩,
         ⟨none, .load 100 1 false (.t 99)⟩,
         ⟨none, .mv 101 (.t 10)⟩,
         ⟨none, .conv 102 .u32 (.t 101)⟩,
         ⟨none, .mv 103 (.t 11)⟩,
         ⟨none, .call (some 104) n_math_bits_Sub32 [.t 100, .t 102, .t 103]⟩,
         ⟨none, .mv 94 (.t 104)⟩,
         ⟨none, .ext 105 0 (.t 94)⟩,
         ⟨none, .ext 106 1 (.t 94)⟩,
         ⟨none, .iaddrS 107 1 (.t 95) (.t 96)⟩,
         ⟨none, .store 1 (.t 107) (.t 105)⟩,
         ⟨none, .mv 11 (.t 106)⟩])
       (.reg [⟨none, .mv 108 (.t 10)⟩,
         ⟨none, .bin 109 .shr (.t 108) (.c (.i .u64 32))⟩,
         ⟨none, .mv 10 (.t 109)⟩])))))
   (.reg [⟨none, .bin 110 .add (.t 83) (.c (.i .i64 1))⟩,
     ⟨none, .mv 83 (.t 110)⟩])))
def l_integer_nat_reduce_2 : C :=
 .seq (.reg [⟨none, .bin 118 .lss (.t 117) (.t 116)⟩])
 (.seq (.cond (.t 118) (.skip)
   (.exit 6))
  (.seq (.block 7 (.seq (.reg [⟨none, .mv 119 (.t 117)⟩,
       ⟨none, .mv 14 (.t 119)⟩])
     (.reg [⟨none, .mv 121 (.t 0)⟩,
       ⟨none, .mv 122 (.t 14)⟩,
       ⟨none, .mv 123 (.t 0)⟩,
       ⟨none, .mv 124 (.t 14)⟩,
       ⟨none, .iaddrS 125 1 (.t 123) (.t 124)⟩,
       ⟨none, .load 126 1 false (.t 125)⟩,
       ⟨none, .mv 127 (.t 1)⟩,
       ⟨none, .mv 128 (.t 14)⟩,
       ⟨none, .call (some 129) n_integer_nat_at [.t 127, .t 128]⟩,
       ⟨none, .mv 130 (.t 13)⟩,
       ⟨none, .call (some 131) n_math_bits_Add32 [.t 126, .t 129, .t 130]⟩,
       ⟨none, .mv 120 (.t 131)⟩,
       ⟨none, .ext 132 0 (.t 120)⟩,
       ⟨none, .ext 133 1 (.t 120)⟩,
       ⟨none, .iaddrS 134 1 (.t 121) (.t 122)⟩,
       ⟨none, .store 1 (.t 134) (.t 132)⟩,
       ⟨none, .mv 13 (.t 133)⟩])))
   (.reg [⟨none, .bin 135 .add (.t 117) (.c (.i .i64 1))⟩,
     ⟨none, .mv 117 (.t 135)⟩])))
def l_integer_nat_reduce_3 : C :=
 .seq (.seq (.reg [⟨none, .mv 111 (.t 11)⟩,
    ⟨none, .bin 112 .gtr (.t 111) (.c (.i .u32 0))⟩])
  (.cond (.t 112) (.skip)
   (.exit 4)))
 (.block 5 (.seq (.reg [⟨none, .mv 113 (.t 6)⟩,
     ⟨none, .bin 114 .sub (.t 113) (.c (.i .u64 1))⟩,
     ⟨none, .mv 6 (.t 114)⟩])
   (.seq (.reg [⟨none, .mv 13 (.c (.i .u32 0))⟩])
    (.seq (.seq (.reg [⟨none, .mv 115 (.t 0)⟩,
        ⟨none, .len 116 (.t 115)⟩,
        ⟨none, .mv 117 (.c (.i .i64 0))⟩])
      (.block 6 (.loop l_integer_nat_reduce_2)))
     (.reg [⟨none, .mv 136 (.t 11)⟩,
       ⟨none, .mv 137 (.t 13)⟩,
       ⟨none, .bin 138 .sub (.t 136) (.t 137)⟩,
       ⟨none, .mv 11 (.t 138)⟩])))))
def c_integer_nat_reduce : Fun := ⟨2, [.t 4],
 .seq (.reg [⟨none, .mv 4 (.c (.i .u32 0))⟩])
 (.seq (.reg [⟨none, .mv 15 (.t 1)⟩,
    ⟨none, .len 16 (.t 15)⟩,
    ⟨none, .mv 5 (.t 16)⟩])
  (.seq (.reg [⟨none, .mv 6 (.c (.i .u64 4294967295))⟩])
   (.seq (.seq (.reg [⟨none, .mv 17 (.t 0)⟩,
       ⟨none, .mv 18 (.t 5)⟩,
       ⟨none, .iaddrS 19 1 (.t 17) (.t 18)⟩,
       ⟨none, .load 20 1 false (.t 19)⟩,
       ⟨none, .mv 21 (.t 1)⟩,
       ⟨none, .mv 22 (.t 5)⟩,
       ⟨none, .bin 23 .sub (.t 22) (.c (.i .i64 1))⟩,
       ⟨none, .iaddrS 24 1 (.t 21) (.t 23)⟩,
       ⟨none, .load 25 1 false (.t 24)⟩,
       ⟨none, .bin 26 .lss (.t 20) (.t 25)⟩])
     (.cond (.t 26) (.seq (.reg [⟨none, .mv 28 (.t 0)⟩,
         ⟨none, .mv 29 (.t 5)⟩,
         ⟨none, .iaddrS 30 1 (.t 28) (.t 29)⟩,
         ⟨none, .load 31 1 false (.t 30)⟩,
         ⟨none, .mv 32 (.t 0)⟩,
         ⟨none, .mv 33 (.t 5)⟩,
         ⟨none, .bin 34 .sub (.t 33) (.c (.i .i64 1))⟩,
         ⟨none, .iaddrS 35 1 (.t 32) (.t 34)⟩,
         ⟨none, .load 36 1 false (.t 35)⟩,
         ⟨none, .mv 37 (.t 1)⟩,
         ⟨none, .mv 38 (.t 5)⟩,
         ⟨none, .bin 39 .sub (.t 38) (.c (.i .i64 1))⟩,
         ⟨none, .iaddrS 40 1 (.t 37) (.t 39)⟩,
         ⟨none, .load 41 1 false (.t 40)⟩,
         ⟨none, .call (some 42) n_math_bits_Div32 [.t 31, .t 36, .t 41]⟩,
         ⟨none, .mv 27 (.t 42)⟩,
         ⟨none, .ext 43 0 (.t 27)⟩,
         ⟨none, .ext 44 1 (.t 27)⟩,
         ⟨none, .mv 7 (.t 43)⟩,
         ⟨none, .mv 8 (.t 44)⟩])
       (.seq (.reg [⟨none, .mv 45 (.t 8)⟩,
          ⟨none, .conv 46 .u64 (.t 45)⟩,
          ⟨none, .mv 9 (.t 46)⟩])
        (.seq (.reg [⟨none, .mv 47 (.t 7)⟩,
           ⟨none, .conv 48 .u64 (.t 47)⟩,
           ⟨none, .mv 6 (.t 48)⟩])
         (.block 0 (.loop l_integer_nat_reduce_0)))))
      (.skip)))
    (.seq (.reg [⟨none, .mv 10 (.c (.i .u64 0))⟩])
     (.seq (.reg [⟨none, .mv 11 (.c (.i .u32 0))⟩])
      (.seq (.seq (.reg [⟨none, .mv 81 (.t 0)⟩,
          ⟨none, .len 82 (.t 81)⟩,
          ⟨none, .mv 83 (.c (.i .i64 0))⟩])
        (.block 2 (.loop l_integer_nat_reduce_1)))
       (.seq (.block 4 (.loop l_integer_nat_reduce_3))
        (.seq (.reg [⟨none, .mv 139 (.t 6)⟩,
           ⟨none, .conv 140 .u32 (.t 139)⟩,
           ⟨none, .mv 4 (.t 140)⟩])
         (.ret)))))))))⟩
/- eliminant/integer.Of -/
def c_integer_Of : Fun := ⟨1, [.c 2 2 true],
 .seq (.reg [⟨none, .alloc 2 [.b false, .nil]⟩])
 (.seq (.seq (.reg [⟨none, .mv 3 (.t 0)⟩,
     ⟨none, .bin 4 .lss (.t 3) (.c (.i .i64 0))⟩])
   (.cond (.t 4) (.seq (.reg [⟨none, .mv 5 (.t 0)⟩,
       ⟨none, .conv 6 .u64 (.t 5)⟩,
       ⟨none, .un 7 .neg (.t 6)⟩,
       ⟨none, .call (some 8) n_integer_natural [.t 7]⟩,
       ⟨none, .call (some 9) n_integer_nat_signed [.t 8, .c (.b true)]⟩,
       ⟨none, .store 2 (.t 2) (.t 9)⟩])
     (.ret))
    (.skip)))
  (.seq (.reg [⟨none, .mv 10 (.t 0)⟩,
     ⟨none, .conv 11 .u64 (.t 10)⟩,
     ⟨none, .call (some 12) n_integer_natural [.t 11]⟩,
     ⟨none, .call (some 13) n_integer_nat_signed [.t 12, .c (.b false)]⟩,
     ⟨none, .store 2 (.t 2) (.t 13)⟩])
   (.ret)))⟩
/- eliminant/integer.Cmp -/
def c_integer_Cmp : Fun := ⟨2, [.t 4],
 .seq (.reg [⟨none, .box 2 2 (.t 0)⟩,
   ⟨none, .box 3 2 (.t 1)⟩,
   ⟨none, .mv 4 (.c (.i .i64 0))⟩])
 (.seq (.seq (.reg [⟨none, .faddr 5 0 (.t 2)⟩,
     ⟨none, .load 6 1 false (.t 5)⟩,
     ⟨none, .faddr 7 0 (.t 3)⟩,
     ⟨none, .load 8 1 false (.t 7)⟩,
     ⟨none, .beq 9 true (.t 6) (.t 8)⟩])
   (.cond (.t 9) (.seq (.reg [⟨none, .load 10 2 true (.t 2)⟩,
       ⟨none, .call (some 11) n_integer_Sign [.t 10]⟩,
       ⟨none, .load 12 2 true (.t 3)⟩,
       ⟨none, .call (some 13) n_integer_Sign [.t 12]⟩,
       ⟨none, .call (some 14) n_cmp_Compare_int [.t 11, .t 13]⟩,
       ⟨none, .mv 4 (.t 14)⟩])
     (.ret))
    (.skip)))
  (.seq (.seq (.reg [⟨none, .faddr 15 0 (.t 2)⟩,
      ⟨none, .load 16 1 false (.t 15)⟩])
    (.cond (.t 16) (.reg [⟨none, .load 17 2 true (.t 3)⟩,
       ⟨none, .load 18 2 true (.t 2)⟩,
       ⟨none, .store 2 (.t 2) (.t 17)⟩,
       ⟨none, .store 2 (.t 3) (.t 18)⟩])
     (.skip)))
   (.seq (.reg [⟨none, .faddr 19 1 (.t 2)⟩,
      ⟨none, .load 20 1 false (.t 19)⟩,
      ⟨none, .faddr 21 1 (.t 3)⟩,
      ⟨none, .load 22 1 false (.t 21)⟩,
      ⟨none, .call (some 23) n_integer_nat_cmp [.t 20, .t 22]⟩,
      ⟨none, .mv 4 (.t 23)⟩])
    (.ret))))⟩
/- eliminant/integer.Neg -/
def c_integer_Neg : Fun := ⟨1, [.c 2 2 true],
 .seq (.reg [⟨none, .box 1 2 (.t 0)⟩,
   ⟨none, .alloc 2 [.b false, .nil]⟩])
 (.seq (.reg [⟨none, .faddr 3 1 (.t 1)⟩,
    ⟨none, .load 4 1 false (.t 3)⟩,
    ⟨none, .faddr 5 0 (.t 1)⟩,
    ⟨none, .load 6 1 false (.t 5)⟩,
    ⟨none, .un 7 .not (.t 6)⟩,
    ⟨none, .call (some 8) n_integer_nat_signed [.t 4, .t 7]⟩,
    ⟨none, .store 2 (.t 2) (.t 8)⟩])
  (.ret))⟩
/- eliminant/integer.Add -/
def c_integer_Add : Fun := ⟨2, [.c 4 2 true],
 .seq (.reg [⟨none, .box 2 2 (.t 0)⟩,
   ⟨none, .box 3 2 (.t 1)⟩,
   ⟨none, .alloc 4 [.b false, .nil]⟩])
 (.seq (.reg [⟨none, .faddr 7 1 (.t 2)⟩,
    ⟨none, .load 8 1 false (.t 7)⟩,
    ⟨none, .faddr 9 1 (.t 3)⟩,
    ⟨none, .load 10 1 false (.t 9)⟩,
    ⟨none, .mv 5 (.t 8)⟩,
    ⟨none, .mv 6 (.t 10)⟩])
  (.seq (.block 0 (.seq (.reg [⟨none, .faddr 12 0 (.t 2)⟩,
       ⟨none, .load 13 1 false (.t 12)⟩,
       ⟨none, .faddr 14 0 (.t 3)⟩,
       ⟨none, .load 15 1 false (.t 14)⟩,
       ⟨none, .beq 16 false (.t 13) (.t 15)⟩,
       ⟨none, .mv 11 (.t 16)⟩])
     (.cond (.t 11) (.seq (.reg [⟨none, .mv 17 (.t 5)⟩,
         ⟨none, .mv 18 (.t 6)⟩,
         ⟨none, .call (some 19) n_integer_nat_add [.t 17, .t 18]⟩,
         ⟨none, .faddr 20 0 (.t 2)⟩,
         ⟨none, .load 21 1 false (.t 20)⟩,
         ⟨none, .call (some 22) n_integer_nat_signed [.t 19, .t 21]⟩,
         ⟨none, .store 2 (.t 4) (.t 22)⟩])
       (.ret))
      (.seq (.reg [⟨none, .mv 24 (.t 5)⟩,
         ⟨none, .mv 25 (.t 6)⟩,
         ⟨none, .call (some 26) n_integer_nat_cmp [.t 24, .t 25]⟩,
         ⟨none, .bin 27 .lss (.t 26) (.c (.i .i64 0))⟩,
         ⟨none, .mv 23 (.t 27)⟩])
       (.cond (.t 23) (.seq (.reg [⟨none, .mv 28 (.t 6)⟩,
           ⟨none, .mv 29 (.t 5)⟩,
           ⟨none, .call (some 30) n_integer_nat_sub [.t 28, .t 29]⟩,
           ⟨none, .faddr 31 0 (.t 3)⟩,
           ⟨none, .load 32 1 false (.t 31)⟩,
           ⟨none, .call (some 33) n_integer_nat_signed [.t 30, .t 32]⟩,
           ⟨none, .store 2 (.t 4) (.t 33)⟩])
         (.ret))
        (.skip))))))
   (.seq (.reg [⟨none, .mv 34 (.t 5)⟩,
      ⟨none, .mv 35 (.t 6)⟩,
      ⟨none, .call (some 36) n_integer_nat_sub [.t 34, .t 35]⟩,
      ⟨none, .faddr 37 0 (.t 2)⟩,
      ⟨none, .load 38 1 false (.t 37)⟩,
      ⟨none, .call (some 39) n_integer_nat_signed [.t 36, .t 38]⟩,
      ⟨none, .store 2 (.t 4) (.t 39)⟩])
    (.ret))))⟩
/- eliminant/integer.Sub -/
def c_integer_Sub : Fun := ⟨2, [.c 4 2 true],
 .seq (.reg [⟨none, .box 2 2 (.t 0)⟩,
   ⟨none, .box 3 2 (.t 1)⟩,
   ⟨none, .alloc 4 [.b false, .nil]⟩])
 (.seq (.reg [⟨none, .load 5 2 true (.t 2)⟩,
    ⟨none, .load 6 2 true (.t 3)⟩,
    ⟨none, .call (some 7) n_integer_Neg [.t 6]⟩,
    ⟨none, .call (some 8) n_integer_Add [.t 5, .t 7]⟩,
    ⟨none, .store 2 (.t 4) (.t 8)⟩])
  (.ret))⟩
/- eliminant/integer.Mul -/
def c_integer_Mul : Fun := ⟨2, [.c 4 2 true],
 .seq (.reg [⟨none, .box 2 2 (.t 0)⟩,
   ⟨none, .box 3 2 (.t 1)⟩,
   ⟨none, .alloc 4 [.b false, .nil]⟩])
 (.seq (.reg [⟨none, .faddr 5 1 (.t 2)⟩,
    ⟨none, .load 6 1 false (.t 5)⟩,
    ⟨none, .faddr 7 1 (.t 3)⟩,
    ⟨none, .load 8 1 false (.t 7)⟩,
    ⟨none, .call (some 9) n_integer_nat_mul [.t 6, .t 8]⟩,
    ⟨none, .faddr 10 0 (.t 2)⟩,
    ⟨none, .load 11 1 false (.t 10)⟩,
    ⟨none, .faddr 12 0 (.t 3)⟩,
    ⟨none, .load 13 1 false (.t 12)⟩,
    ⟨none, .beq 14 true (.t 11) (.t 13)⟩,
    ⟨none, .call (some 15) n_integer_nat_signed [.t 9, .t 14]⟩,
    ⟨none, .store 2 (.t 4) (.t 15)⟩])
  (.ret))⟩
/- eliminant/integer.DivMod -/
def c_integer_DivMod : Fun := ⟨2, [.c 4 2 true, .c 5 2 true, .t 6],
 .seq (.reg [⟨none, .box 2 2 (.t 0)⟩,
   ⟨none, .box 3 2 (.t 1)⟩,
   ⟨none, .alloc 4 [.b false, .nil]⟩,
   ⟨none, .alloc 5 [.b false, .nil]⟩,
   ⟨none, .mv 6 (.c (.i .i64 0))⟩])
 (.seq (.reg [⟨none, .faddr 10 1 (.t 3)⟩,
    ⟨none, .load 11 1 false (.t 10)⟩,
    ⟨none, .mv 7 (.t 11)⟩])
  (.seq (.seq (.reg [⟨none, .mv 12 (.t 7)⟩,
      ⟨none, .len 13 (.t 12)⟩,
      ⟨none, .bin 14 .eql (.t 13) (.c (.i .i64 0))⟩])
    (.cond (.t 14) (.seq (.reg [⟨none, .build 15 [.b false, .nil] []⟩,
        ⟨none, .build 16 [.b false, .nil] []⟩,
        ⟨none, .store 2 (.t 4) (.t 15)⟩,
        ⟨none, .store 2 (.t 5) (.t 16)⟩,
        ⟨none, .mv 6 (.c (.i .i64 10))⟩])
      (.ret))
     (.skip)))
   (.seq (.reg [⟨none, .faddr 18 1 (.t 2)⟩,
      ⟨none, .load 19 1 false (.t 18)⟩,
      ⟨none, .mv 20 (.t 7)⟩,
      ⟨none, .call (some 21) n_integer_nat_div [.t 19, .t 20]⟩,
      ⟨none, .mv 17 (.t 21)⟩,
      ⟨none, .ext 22 0 (.t 17)⟩,
      ⟨none, .ext 23 1 (.t 17)⟩,
      ⟨none, .mv 8 (.t 22)⟩,
      ⟨none, .mv 9 (.t 23)⟩])
    (.seq (.seq (.reg [⟨none, .faddr 24 0 (.t 2)⟩,
        ⟨none, .load 25 1 false (.t 24)⟩,
        ⟨none, .mv 26 (.t 25)⟩,
        ⟨some (26, true, 27), .mv 27 (.t 9)⟩,
        ⟨some (26, true, 28), .len 28 (.t 27)⟩,
        ⟨some (26, true, 29), .bin 29 .gtr (.t 28) (.c (.i .i64 0))⟩,
        ⟨none, .pick 30 (.t 26) (.t 29) (.c (.b false))⟩])
      (.cond (.t 30) (.reg [⟨none, .mv 31 (.t 8)⟩,
         ⟨none, .call (some 32) n_integer_natural [.c (.i .u64 1)]⟩,
         ⟨none, .call (some 33) n_integer_nat_add [.t 31, .t 32]⟩,
         ⟨none, .mv 34 (.t 7)⟩,
         ⟨none, .mv 35 (.t 9)⟩,
         ⟨none, .call (some 36) n_integer_nat_sub [.t 34, .t 35]⟩,
         ⟨none, .mv 8 (.t 33)⟩,
         ⟨none, .mv 9 (.t 36)⟩])
       (.skip)))
     (.seq (.reg [⟨none, .mv 37 (.t 8)⟩,
        ⟨none, .faddr 38 0 (.t 2)⟩,
        ⟨none, .load 39 1 false (.t 38)⟩,
        ⟨none, .faddr 40 0 (.t 3)⟩,
        ⟨none, .load 41 1 false (.t 40)⟩,
        ⟨none, .beq 42 true (.t 39) (.t 41)⟩,
        ⟨none, .call (some 43) n_integer_nat_signed [.t 37, .t 42]⟩,
        ⟨none, .mv 44 (.t 9)⟩,
        ⟨none, .call (some 45) n_integer_nat_signed [.t 44, .c (.b false)]⟩,
        ⟨none, .store 2 (.t 4) (.t 43)⟩,
        ⟨none, .store 2 (.t 5) (.t 45)⟩,
        ⟨none, .mv 6 (.c (.i .i64 0))⟩])
      (.ret))))))⟩
/- eliminant/integer.Gcd -/
def l_integer_Gcd_0 : C :=
 .seq (.seq (.reg [⟨none, .mv 13 (.t 6)⟩,
    ⟨none, .len 14 (.t 13)⟩,
    ⟨none, .bin 15 .gtr (.t 14) (.c (.i .i64 0))⟩])
  (.cond (.t 15) (.skip)
   (.exit 0)))
 (.block 1 (.seq (.reg [⟨none, .mv 17 (.t 5)⟩,
     ⟨none, .mv 18 (.t 6)⟩,
     ⟨none, .call (some 19) n_integer_nat_div [.t 17, .t 18]⟩,
     ⟨none, .mv 16 (.t 19)⟩,
     ⟨none, .ext 20 0 (.t 16)⟩,
     ⟨none, .ext 21 1 (.t 16)⟩,
     ⟨none, .mv 7 (.t 20)⟩,
     ⟨none, .mv 8 (.t 21)⟩])
   (.reg [⟨none, .mv 22 (.t 6)⟩,
     ⟨none, .mv 23 (.t 8)⟩,
     ⟨none, .mv 5 (.t 22)⟩,
     ⟨none, .mv 6 (.t 23)⟩])))
def c_integer_Gcd : Fun := ⟨2, [.c 4 2 true],
 .seq (.reg [⟨none, .box 2 2 (.t 0)⟩,
   ⟨none, .box 3 2 (.t 1)⟩,
   ⟨none, .alloc 4 [.b false, .nil]⟩])
 (.seq (.reg [⟨none, .faddr 9 1 (.t 2)⟩,
    ⟨none, .load 10 1 false (.t 9)⟩,
    ⟨none, .faddr 11 1 (.t 3)⟩,
    ⟨none, .load 12 1 false (.t 11)⟩,
    ⟨none, .mv 5 (.t 10)⟩,
    ⟨none, .mv 6 (.t 12)⟩])
  (.seq (.block 0 (.loop l_integer_Gcd_0))
   (.seq (.reg [⟨none, .mv 24 (.t 5)⟩,
      ⟨none, .call (some 25) n_integer_nat_signed [.t 24, .c (.b false)]⟩,
      ⟨none, .store 2 (.t 4) (.t 25)⟩])
    (.ret))))⟩
/- eliminant/rational.product -/
def l_rational_product_0 : C :=
 .seq (.reg [⟨none, .bin 10 .lss (.t 9) (.t 8)⟩])
 (.seq (.cond (.t 10) (.skip)
   (.exit 0))
  (.seq (.block 1 (.seq (.reg [⟨none, .iaddrS 11 2 (.t 7) (.t 9)⟩,
       ⟨none, .load 12 2 true (.t 11)⟩,
       ⟨none, .alloc 5 [.b false, .nil]⟩,
       ⟨none, .store 2 (.t 5) (.t 12)⟩])
     (.reg [⟨none, .load 13 2 true (.t 3)⟩,
       ⟨none, .load 14 2 true (.t 5)⟩,
       ⟨none, .call (some 15) n_integer_Mul [.t 13, .t 14]⟩,
       ⟨none, .store 2 (.t 3) (.t 15)⟩])))
   (.reg [⟨none, .bin 16 .add (.t 9) (.c (.i .i64 1))⟩,
     ⟨none, .mv 9 (.t 16)⟩])))
def c_rational_product : Fun := ⟨1, [.c 2 2 true],
 .seq (.reg [⟨none, .alloc 2 [.b false, .nil]⟩])
 (.seq (.reg [⟨none, .call (some 6) n_integer_Of [.c (.i .i64 1)]⟩,
    ⟨none, .alloc 3 [.b false, .nil]⟩,
    ⟨none, .store 2 (.t 3) (.t 6)⟩])
  (.seq (.seq (.reg [⟨none, .mv 7 (.t 0)⟩,
      ⟨none, .len 8 (.t 7)⟩,
      ⟨none, .mv 9 (.c (.i .i64 0))⟩])
    (.block 0 (.loop l_rational_product_0)))
   (.seq (.reg [⟨none, .load 17 2 true (.t 3)⟩,
      ⟨none, .store 2 (.t 2) (.t 17)⟩])
    (.ret))))⟩
/- eliminant/rational.lowest -/
def c_rational_lowest : Fun := ⟨2, [.c 4 4 true],
 .seq (.reg [⟨none, .box 2 2 (.t 0)⟩,
   ⟨none, .box 3 2 (.t 1)⟩,
   ⟨none, .alloc 4 [.b false, .nil, .b false, .nil]⟩])
 (.seq (.reg [⟨none, .load 6 2 true (.t 2)⟩,
    ⟨none, .load 7 2 true (.t 3)⟩,
    ⟨none, .call (some 8) n_integer_Gcd [.t 6, .t 7]⟩,
    ⟨none, .alloc 5 [.b false, .nil]⟩,
    ⟨none, .store 2 (.t 5) (.t 8)⟩])
  (.seq (.seq (.reg [⟨none, .load 9 2 true (.t 3)⟩,
      ⟨none, .call (some 10) n_integer_Sign [.t 9]⟩,
      ⟨none, .bin 11 .lss (.t 10) (.c (.i .i64 0))⟩])
    (.cond (.t 11) (.reg [⟨none, .load 12 2 true (.t 5)⟩,
       ⟨none, .call (some 13) n_integer_Neg [.t 12]⟩,
       ⟨none, .store 2 (.t 5) (.t 13)⟩])
     (.skip)))
   (.seq (.reg [⟨none, .load 15 2 true (.t 2)⟩,
      ⟨none, .load 16 2 true (.t 5)⟩,
      ⟨none, .call (some 17) n_integer_DivMod [.t 15, .t 16]⟩,
      ⟨none, .mv 14 (.t 17)⟩,
      ⟨none, .ext 18 0 (.t 14)⟩,
      ⟨none, .ext 19 1 (.t 14)⟩,
      ⟨none, .ext 20 2 (.t 14)⟩,
      ⟨none, .store 2 (.t 2) (.t 18)⟩])
    (.seq (.reg [⟨none, .load 22 2 true (.t 3)⟩,
       ⟨none, .load 23 2 true (.t 5)⟩,
       ⟨none, .call (some 24) n_integer_DivMod [.t 22, .t 23]⟩,
       ⟨none, .mv 21 (.t 24)⟩,
       ⟨none, .ext 25 0 (.t 21)⟩,
       ⟨none, .ext 26 1 (.t 21)⟩,
       ⟨none, .ext 27 2 (.t 21)⟩,
       ⟨none, .store 2 (.t 3) (.t 25)⟩])
     (.seq (.reg [⟨none, .load 28 2 true (.t 2)⟩,
        ⟨none, .load 29 2 true (.t 3)⟩,
        ⟨none, .build 30 [.b false, .nil, .b false, .nil] [(0, 2, .t 28), (2, 2, .t 29)]⟩,
        ⟨none, .store 4 (.t 4) (.t 30)⟩])
      (.ret))))))⟩
/- eliminant/rational.New -/
def c_rational_New : Fun := ⟨2, [.c 4 4 true, .t 5],
 .seq (.reg [⟨none, .box 2 2 (.t 0)⟩,
   ⟨none, .box 3 2 (.t 1)⟩,
   ⟨none, .alloc 4 [.b false, .nil, .b false, .nil]⟩,
   ⟨none, .mv 5 (.c (.i .i64 0))⟩])
 (.seq (.seq (.reg [⟨none, .load 6 2 true (.t 3)⟩,
     ⟨none, .call (some 7) n_integer_Sign [.t 6]⟩,
     ⟨none, .bin 8 .eql (.t 7) (.c (.i .i64 0))⟩])
   (.cond (.t 8) (.seq (.reg [⟨none, .build 9 [.b false, .nil, .b false, .nil] []⟩,
       ⟨none, .store 4 (.t 4) (.t 9)⟩,
       ⟨none, .mv 5 (.c (.i .i64 10))⟩])
     (.ret))
    (.skip)))
  (.seq (.reg [⟨none, .load 10 2 true (.t 2)⟩,
     ⟨none, .load 11 2 true (.t 3)⟩,
     ⟨none, .call (some 12) n_rational_lowest [.t 10, .t 11]⟩,
     ⟨none, .store 4 (.t 4) (.t 12)⟩,
     ⟨none, .mv 5 (.c (.i .i64 0))⟩])
   (.ret)))⟩
/- eliminant/rational.Whole -/
def c_rational_Whole : Fun := ⟨1, [.c 2 4 true],
 .seq (.reg [⟨none, .alloc 2 [.b false, .nil, .b false, .nil]⟩])
 (.seq (.reg [⟨none, .mv 3 (.t 0)⟩,
    ⟨none, .call (some 4) n_integer_Of [.t 3]⟩,
    ⟨none, .call (some 5) n_rational_of [.t 4]⟩,
    ⟨none, .store 4 (.t 2) (.t 5)⟩])
  (.ret))⟩
/- eliminant/rational.of -/
def c_rational_of : Fun := ⟨1, [.c 2 4 true],
 .seq (.reg [⟨none, .box 1 2 (.t 0)⟩,
   ⟨none, .alloc 2 [.b false, .nil, .b false, .nil]⟩])
 (.seq (.reg [⟨none, .load 3 2 true (.t 1)⟩,
    ⟨none, .call (some 4) n_integer_Of [.c (.i .i64 1)]⟩,
    ⟨none, .build 5 [.b false, .nil, .b false, .nil] [(0, 2, .t 3), (2, 2, .t 4)]⟩,
    ⟨none, .store 4 (.t 2) (.t 5)⟩])
  (.ret))⟩
/- eliminant/rational.Add -/
def c_rational_Add : Fun := ⟨2, [.c 4 4 true],
 .seq (.reg [⟨none, .box 2 4 (.t 0)⟩,
   ⟨none, .box 3 4 (.t 1)⟩,
   ⟨none, .alloc 4 [.b false, .nil, .b false, .nil]⟩])
 (.seq (.reg [⟨none, .faddr 5 0 (.t 2)⟩,
    ⟨none, .load 6 2 true (.t 5)⟩,
    ⟨none, .faddr 7 2 (.t 3)⟩,
    ⟨none, .load 8 2 true (.t 7)⟩,
    ⟨none, .bslice 9 2 2 [.b false, .sl 0 []] [(0, 2, .t 6), (2, 2, .t 8)]⟩,
    ⟨none, .call (some 10) n_rational_product [.t 9]⟩,
    ⟨none, .faddr 11 0 (.t 3)⟩,
    ⟨none, .load 12 2 true (.t 11)⟩,
    ⟨none, .faddr 13 2 (.t 2)⟩,
    ⟨none, .load 14 2 true (.t 13)⟩,
    ⟨none, .bslice 15 2 2 [.b false, .sl 0 []] [(0, 2, .t 12), (2, 2, .t 14)]⟩,
    ⟨none, .call (some 16) n_rational_product [.t 15]⟩,
    ⟨none, .call (some 17) n_integer_Add [.t 10, .t 16]⟩,
    ⟨none, .faddr 18 2 (.t 2)⟩,
    ⟨none, .load 19 2 true (.t 18)⟩,
    ⟨none, .faddr 20 2 (.t 3)⟩,
    ⟨none, .load 21 2 true (.t 20)⟩,
    ⟨none, .bslice 22 2 2 [.b false, .sl 0 []] [(0, 2, .t 19), (2, 2, .t 21)]⟩,
    ⟨none, .call (some 23) n_rational_product [.t 22]⟩,
    ⟨none, .call (some 24) n_rational_lowest [.t 17, .t 23]⟩,
    ⟨none, .store 4 (.t 4) (.t 24)⟩])
  (.ret))⟩
/- eliminant/rational.Sub -/
def c_rational_Sub : Fun := ⟨2, [.c 4 4 true],
 .seq (.reg [⟨none, .box 2 4 (.t 0)⟩,
   ⟨none, .box 3 4 (.t 1)⟩,
   ⟨none, .alloc 4 [.b false, .nil, .b false, .nil]⟩])
 (.seq (.reg [⟨none, .faddr 5 0 (.t 2)⟩,
    ⟨none, .load 6 2 true (.t 5)⟩,
    ⟨none, .faddr 7 2 (.t 3)⟩,
    ⟨none, .load 8 2 true (.t 7)⟩,
    ⟨none, .bslice 9 2 2 [.b false, .sl 0 []] [(0, 2, .t 6), (2, 2, .t 8)]⟩,
    ⟨none, .call (some 10) n_rational_product [.t 9]⟩,
    ⟨none, .faddr 11 0 (.t 3)⟩,
    ⟨none, .load 12 2 true (.t 11)⟩,
    ⟨none, .faddr 13 2 (.t 2)⟩,
    ⟨none, .load 14 2 true (.t 13)⟩,
    ⟨none, .bslice 15 2 2 [.b false, .sl 0 []] [(0, 2, .t 12), (2, 2, .t 14)]⟩,
    ⟨none, .call (some 16) n_rational_product [.t 15]⟩,
    ⟨none, .call (some 17) n_integer_Sub [.t 10, .t 16]⟩,
    ⟨none, .faddr 18 2 (.t 2)⟩,
    ⟨none, .load 19 2 true (.t 18)⟩,
    ⟨none, .faddr 20 2 (.t 3)⟩,
    ⟨none, .load 21 2 true (.t 20)⟩,
    ⟨none, .bslice 22 2 2 [.b false, .sl 0 []] [(0, 2, .t 19), (2, 2, .t 21)]⟩,
    ⟨none, .call (some 23) n_rational_product [.t 22]⟩,
    ⟨none, .call (some 24) n_rational_lowest [.t 17, .t 23]⟩,
    ⟨none, .store 4 (.t 4) (.t 24)⟩])
  (.ret))⟩
/- eliminant/rational.Mul -/
def c_rational_Mul : Fun := ⟨2, [.c 4 4 true],
 .seq (.reg [⟨none, .box 2 4 (.t 0)⟩,
   ⟨none, .box 3 4 (.t 1)⟩,
   ⟨none, .alloc 4 [.b false, .nil, .b false, .nil]⟩])
 (.seq (.reg [⟨none, .faddr 5 0 (.t 2)⟩,
    ⟨none, .load 6 2 true (.t 5)⟩,
    ⟨none, .faddr 7 0 (.t 3)⟩,
    ⟨none, .load 8 2 true (.t 7)⟩,
    ⟨none, .bslice 9 2 2 [.b false, .sl 0 []] [(0, 2, .t 6), (2, 2, .t 8)]⟩,
    ⟨none, .call (some 10) n_rational_product [.t 9]⟩,
    ⟨none, .faddr 11 2 (.t 2)⟩,
    ⟨none, .load 12 2 true (.t 11)⟩,
    ⟨none, .faddr 13 2 (.t 3)⟩,
    ⟨none, .load 14 2 true (.t 13)⟩,
    ⟨none, .bslice 15 2 2 [.b false, .sl 0 []] [(0, 2, .t 12), (2, 2, .t 14)]⟩,
    ⟨none, .call (some 16) n_rational_product [.t 15]⟩,
    ⟨none, .call (some 17) n_rational_lowest [.t 10, .t 16]⟩,
    ⟨none, .store 4 (.t 4) (.t 17)⟩])
  (.ret))⟩
/- eliminant/rational.Neg -/
def c_rational_Neg : Fun := ⟨1, [.c 2 4 true],
 .seq (.reg [⟨none, .box 1 4 (.t 0)⟩,
   ⟨none, .alloc 2 [.b false, .nil, .b false, .nil]⟩])
 (.seq (.reg [⟨none, .faddr 3 0 (.t 1)⟩,
    ⟨none, .load 4 2 true (.t 3)⟩,
    ⟨none, .call (some 5) n_integer_Neg [.t 4]⟩,
    ⟨none, .faddr 6 2 (.t 1)⟩,
    ⟨none, .load 7 2 true (.t 6)⟩,
    ⟨none, .bslice 8 1 2 [.b false, .sl 0 []] [(0, 2, .t 7)]⟩,
    ⟨none, .call (some 9) n_rational_product [.t 8]⟩,
    ⟨none, .build 10 [.b false, .nil, .b false, .nil] [(0, 2, .t 5), (2, 2, .t 9)]⟩,
    ⟨none, .store 4 (.t 2) (.t 10)⟩])
  (.ret))⟩
/- eliminant/rational.Inv -/
def c_rational_Inv : Fun := ⟨1, [.c 2 4 true, .t 3],
 .seq (.reg [⟨none, .box 1 4 (.t 0)⟩,
   ⟨none, .alloc 2 [.b false, .nil, .b false, .nil]⟩,
   ⟨none, .mv 3 (.c (.i .i64 0))⟩])
 (.seq (.reg [⟨none, .faddr 4 2 (.t 1)⟩,
    ⟨none, .load 5 2 true (.t 4)⟩,
    ⟨none, .faddr 6 0 (.t 1)⟩,
    ⟨none, .load 7 2 true (.t 6)⟩,
    ⟨none, .call (some 8) n_rational_New [.t 5, .t 7]⟩,
    ⟨none, .ext 9 0 (.t 8)⟩,
    ⟨none, .ext 10 1 (.t 8)⟩,
    ⟨none, .store 4 (.t 2) (.t 9)⟩,
    ⟨none, .mv 3 (.t 10)⟩])
  (.ret))⟩
/- eliminant/rational.Div -/
def c_rational_Div : Fun := ⟨2, [.c 4 4 true, .t 5],
 .seq (.reg [⟨none, .box 2 4 (.t 0)⟩,
   ⟨none, .box 3 4 (.t 1)⟩,
   ⟨none, .alloc 4 [.b false, .nil, .b false, .nil]⟩,
   ⟨none, .mv 5 (.c (.i .i64 0))⟩])
 (.seq (.reg [⟨none, .faddr 6 0 (.t 2)⟩,
    ⟨none, .load 7 2 true (.t 6)⟩,
    ⟨none, .faddr 8 2 (.t 3)⟩,
    ⟨none, .load 9 2 true (.t 8)⟩,
    ⟨none, .bslice 10 2 2 [.b false, .sl 0 []] [(0, 2, .t 7), (2, 2, .t 9)]⟩,
    ⟨none, .call (some 11) n_rational_product [.t 10]⟩,
    ⟨none, .faddr 12 2 (.t 2)⟩,
    ⟨none, .load 13 2 true (.t 12)⟩,
    ⟨none, .faddr 14 0 (.t 3)⟩,
    ⟨none, .load 15 2 true (.t 14)⟩,
    ⟨none, .bslice 16 2 2 [.b false, .sl 0 []] [(0, 2, .t 13), (2, 2, .t 15)]⟩,
    ⟨none, .call (some 17) n_rational_product [.t 16]⟩,
    ⟨none, .call (some 18) n_rational_New [.t 11, .t 17]⟩,
    ⟨none, .ext 19 0 (.t 18)⟩,
    ⟨none, .ext 20 1 (.t 18)⟩,
    ⟨none, .store 4 (.t 4) (.t 19)⟩,
    ⟨none, .mv 5 (.t 20)⟩])
  (.ret))⟩
/- eliminant/rational.Cmp -/
def c_rational_Cmp : Fun := ⟨2, [.t 4],
 .seq (.reg [⟨none, .box 2 4 (.t 0)⟩,
   ⟨none, .box 3 4 (.t 1)⟩,
   ⟨none, .mv 4 (.c (.i .i64 0))⟩])
 (.seq (.reg [⟨none, .faddr 5 0 (.t 2)⟩,
    ⟨none, .load 6 2 true (.t 5)⟩,
    ⟨none, .faddr 7 2 (.t 3)⟩,
    ⟨none, .load 8 2 true (.t 7)⟩,
    ⟨none, .bslice 9 2 2 [.b false, .sl 0 []] [(0, 2, .t 6), (2, 2, .t 8)]⟩,
    ⟨none, .call (some 10) n_rational_product [.t 9]⟩,
    ⟨none, .faddr 11 0 (.t 3)⟩,
    ⟨none, .load 12 2 true (.t 11)⟩,
    ⟨none, .faddr 13 2 (.t 2)⟩,
    ⟨none, .load 14 2 true (.t 13)⟩,
    ⟨none, .bslice 15 2 2 [.b false, .sl 0 []] [(0, 2, .t 12), (2, 2, .t 14)]⟩,
    ⟨none, .call (some 16) n_rational_product [.t 15]⟩,
    ⟨none, .call (some 17) n_integer_Cmp [.t 10, .t 16]⟩,
    ⟨none, .mv 4 (.t 17)⟩])
  (.ret))⟩
/- math/bits.Add32 -/
def c_math_bits_Add32 : Fun := ⟨3, [.t 6, .t 7],
 .seq (.reg [⟨none, .mv 6 (.c (.i .u32 0))⟩,
   ⟨none, .mv 7 (.c (.i .u32 0))⟩])
 (.seq (.reg [⟨none, .mv 9 (.t 0)⟩,
    ⟨none, .conv 10 .u64 (.t 9)⟩,
    ⟨none, .mv 11 (.t 1)⟩,
    ⟨none, .conv 12 .u64 (.t 11)⟩,
    ⟨none, .bin 13 .add (.t 10) (.t 12)⟩,
    ⟨none, .mv 14 (.t 2)⟩,
    ⟨none, .conv 15 .u64 (.t 14)⟩,
    ⟨none, .bin 16 .add (.t 13) (.t 15)⟩,
    ⟨none, .mv 8 (.t 16)⟩])
  (.seq (.reg [⟨none, .mv 17 (.t 8)⟩,
     ⟨none, .conv 18 .u32 (.t 17)⟩,
     ⟨none, .mv 6 (.t 18)⟩])
   (.seq (.reg [⟨none, .mv 19 (.t 8)⟩,
      ⟨none, .bin 20 .shr (.t 19) (.c (.i .u64 32))⟩,
      ⟨none, .conv 21 .u32 (.t 20)⟩,
      ⟨none, .mv 7 (.t 21)⟩])
    (.ret))))⟩
/- math/bits.Sub32 -/
def c_math_bits_Sub32 : Fun := ⟨3, [.t 6, .t 7],
 .seq (.reg [⟨none, .mv 6 (.c (.i .u32 0))⟩,
   ⟨none, .mv 7 (.c (.i .u32 0))⟩])
 (.seq (.reg [⟨none, .mv 8 (.t 0)⟩,
    ⟨none, .mv 9 (.t 1)⟩,
    ⟨none, .bin 10 .sub (.t 8) (.t 9)⟩,
    ⟨none, .mv 11 (.t 2)⟩,
    ⟨none, .bin 12 .sub (.t 10) (.t 11)⟩,
    ⟨none, .mv 6 (.t 12)⟩])
  (.seq (.reg [⟨none, .mv 13 (.t 0)⟩,
     ⟨none, .un 14 .xor (.t 13)⟩,
     ⟨none, .mv 15 (.t 1)⟩,
     ⟨none, .bin 16 .and (.t 14) (.t 15)⟩,
     ⟨none, .mv 17 (.t 0)⟩,
     ⟨none, .mv 18 (.t 1)⟩,
     ⟨none, .bin 19 .xor (.t 17) (.t 18)⟩,
     ⟨none, .un 20 .xor (.t 19)⟩,
     ⟨none, .mv 21 (.t 6)⟩,
     ⟨none, .bin 22 .and (.t 20) (.t 21)⟩,
     ⟨none, .bin 23 .or (.t 16) (.t 22)⟩,
     ⟨none, .bin 24 .shr (.t 23) (.c (.i .u64 31))⟩,
     ⟨none, .mv 7 (.t 24)⟩])
   (.ret)))⟩
/- math/bits.Div32 -/
def c_math_bits_Div32 : Fun := ⟨3, [.t 6, .t 7],
 .seq (.reg [⟨none, .mv 6 (.c (.i .u32 0))⟩,
   ⟨none, .mv 7 (.c (.i .u32 0))⟩])
 (.seq (.seq (.reg [⟨none, .mv 9 (.t 2)⟩,
     ⟨none, .bin 10 .neq (.t 9) (.c (.i .u32 0))⟩,
     ⟨none, .mv 11 (.t 10)⟩,
     ⟨some (11, true, 12), .mv 12 (.t 2)⟩,
     ⟨some (11, true, 13), .mv 13 (.t 0)⟩,
     ⟨some (11, true, 14), .bin 14 .leq (.t 12) (.t 13)⟩,
     ⟨none, .pick 15 (.t 11) (.t 14) (.c (.b false))⟩])
   (.cond (.t 15) (.reg [⟨none, .fail (some 16)⟩,
      ⟨none, .fail none⟩])
    (.skip)))
  (.seq (.reg [⟨none, .mv 17 (.t 0)⟩,
     ⟨none, .conv 18 .u64 (.t 17)⟩,
     ⟨none, .bin 19 .shl (.t 18) (.c (.i .u64 32))⟩,
     ⟨none, .mv 20 (.t 1)⟩,
     ⟨none, .conv 21 .u64 (.t 20)⟩,
     ⟨none, .bin 22 .or (.t 19) (.t 21)⟩,
     ⟨none, .mv 8 (.t 22)⟩])
   (.seq (.reg [⟨none, .mv 23 (.t 8)⟩,
      ⟨none, .mv 24 (.t 2)⟩,
      ⟨none, .conv 25 .u64 (.t 24)⟩,
      ⟨none, .bin 26 .quo (.t 23) (.t 25)⟩,
      ⟨none, .conv 27 .u32 (.t 26)⟩,
      ⟨none, .mv 28 (.t 8)⟩,
      ⟨none, .mv 29 (.t 2)⟩,
      ⟨none, .conv 30 .u64 (.t 29)⟩,
      ⟨none, .bin 31 .rem (.t 28) (.t 30)⟩,
      ⟨none, .conv 32 .u32 (.t 31)⟩,
      ⟨none, .mv 6 (.t 27)⟩,
      ⟨none, .mv 7 (.t 32)⟩])
    (.ret))))⟩
/- math/bits.LeadingZeros32 -/
def c_math_bits_LeadingZeros32 : Fun := ⟨1, [.t 2],
 .seq (.reg [⟨none, .mv 2 (.c (.i .i64 0))⟩])
 (.seq (.reg [⟨none, .mv 3 (.t 0)⟩,
    ⟨none, .call (some 4) n_math_bits_Len32 [.t 3]⟩,
    ⟨none, .bin 5 .sub (.c (.i .i64 32)) (.t 4)⟩,
    ⟨none, .mv 2 (.t 5)⟩])
  (.ret))⟩
/- math/bits.Len32 -/
def c_math_bits_Len32 : Fun := ⟨1, [.t 2],
 .seq (.reg [⟨none, .mv 2 (.c (.i .i64 0))⟩])
 (.seq (.seq (.reg [⟨none, .mv 3 (.t 0)⟩,
     ⟨none, .bin 4 .geq (.t 3) (.c (.i .u32 65536))⟩])
   (.cond (.t 4) (.seq (.reg [⟨none, .mv 5 (.t 0)⟩,
       ⟨none, .bin 6 .shr (.t 5) (.c (.i .u64 16))⟩,
       ⟨none, .mv 0 (.t 6)⟩])
     (.reg [⟨none, .mv 2 (.c (.i .i64 16))⟩]))
    (.skip)))
  (.seq (.seq (.reg [⟨none, .mv 7 (.t 0)⟩,
      ⟨none, .bin 8 .geq (.t 7) (.c (.i .u32 256))⟩])
    (.cond (.t 8) (.seq (.reg [⟨none, .mv 9 (.t 0)⟩,
        ⟨none, .bin 10 .shr (.t 9) (.c (.i .u64 8))⟩,
        ⟨none, .mv 0 (.t 10)⟩])
      (.reg [⟨none, .mv 11 (.t 2)⟩,
        ⟨none, .bin 12 .add (.t 11) (.c (.i .i64 8))⟩,
        ⟨none, .mv 2 (.t 12)⟩]))
     (.skip)))
   (.seq (.reg [⟨none, .mv 13 (.t 2)⟩,
      ⟨none, .mv 14 (.t 0)⟩,
      ⟨none, .conv 15 .u8 (.t 14)⟩,
      ⟨none, .idxc 16 [0, 1, 2, 2, 3, 3, 3, 3, 4, 4, 4, 4, 4, 4, 4, 4, 5, 5, 5, 5, 5, 5, 5, 5, 5, 5, 5, 5, 5, 5, 5, 5, 6, 6, 6, 6, 6, 6, 6, 6, 6, 6, 6, 6, 6, 6, 6, 6, 6, 6, 6, 6, 6, 6, 6, 6, 6, 6, 6, 6, 6, 6, 6, 6, 7, 7, 7, 7, 7, 7, 7, 7, 7, 7, 7, 7, 7, 7, 7, 7, 7, 7, 7, 7, 7, 7, 7, 7, 7, 7, 7, 7, 7, 7, 7, 7, 7, 7, 7, 7, 7, 7, 7, 7, 7, 7, 7, 7, 7, 7, 7, 7, 7, 7, 7, 7, 7, 7, 7, 7, 7, 7, 7, 7, 7, 7, 7, 7, 8, 8, 8, 8, 8, 8, 8, 8, 8, 8, 8, 8, 8, 8, 8, 8, 8, 8, 8, 8, 8, 8, 8, 8, 8, 8, 8, 8, 8, 8, 8, 8, 8, 8, 8, 8, 8, 8, 8, 8, 8, 8, 8, 8, 8, 8, 8, 8, 8, 8, 8, 8, 8, 8, 8, 8, 8, 8, 8, 8, 8, 8, 8, 8, 8, 8, 8, 8, 8, 8, 8, 8, 8, 8, 8, 8, 8, 8, 8, 8, 8, 8, 8, 8, 8, 8, 8, 8, 8, 8, 8, 8, 8, 8, 8, 8, 8, 8, 8, 8, 8, 8, 8, 8, 8, 8, 8, 8, 8, 8, 8, 8, 8, 8, 8, 8, 8, 8, 8, 8, 8, 8, 8, 8, 8, 8, 8, 8] (.t 15)⟩,
      ⟨none, .conv 17 .i64 (.t 16)⟩,
      ⟨none, .bin 18 .add (.t 13) (.t 17)⟩,
      ⟨none, .mv 2 (.t 18)⟩])
    (.ret))))⟩
/- cmp.Compare[uint32] -/
def c_cmp_Compare_uint32 : Fun := ⟨2, [.t 4],
 .seq (.reg [⟨none, .mv 4 (.c (.i .i64 0))⟩])
 (.seq (.reg [⟨none, .mv 7 (.t 0)⟩,
    ⟨none, .call (some 8) n_cmp_isNaN_uint32 [.t 7]⟩,
    ⟨none, .mv 5 (.t 8)⟩])
  (.seq (.reg [⟨none, .mv 9 (.t 1)⟩,
     ⟨none, .call (some 10) n_cmp_isNaN_uint32 [.t 9]⟩,
     ⟨none, .mv 6 (.t 10)⟩])
   (.seq (.seq (.reg [⟨none, .mv 11 (.t 5)⟩])
     (.cond (.t 11) (.seq (.seq (.reg [⟨none, .mv 12 (.t 6)⟩])
        (.cond (.t 12) (.seq (.reg [⟨none, .mv 4 (.c (.i .i64 0))⟩])
          (.ret))
         (.skip)))
       (.seq (.reg [⟨none, .mv 4 (.c (.i .i64 (-1)))⟩])
        (.ret)))
      (.skip)))
    (.seq (.seq (.reg [⟨none, .mv 13 (.t 6)⟩])
      (.cond (.t 13) (.seq (.reg [⟨none, .mv 4 (.c (.i .i64 1))⟩])
        (.ret))
       (.skip)))
     (.seq (.seq (.reg [⟨none, .mv 14 (.t 0)⟩,
         ⟨none, .mv 15 (.t 1)⟩,
         ⟨none, .bin 16 .lss (.t 14) (.t 15)⟩])
       (.cond (.t 16) (.seq (.reg [⟨none, .mv 4 (.c (.i .i64 (-1)))⟩])
         (.ret))
        (.skip)))
      (.seq (.seq (.reg [⟨none, .mv 17 (.t 0)⟩,
          ⟨none, .mv 18 (.t 1)⟩,
          ⟨none, .bin 19 .gtr (.t 17) (.t 18)⟩])
        (.cond (.t 19) (.seq (.reg [⟨none, .mv 4 (.c (.i .i64 1))⟩])
          (.ret))
         (.skip)))
       (.seq (.reg [⟨none, .mv 4 (.c (.i .i64 0))⟩])
        (.ret))))))))⟩
/- cmp.isNaN[uint32] -/
def c_cmp_isNaN_uint32 : Fun := ⟨1, [.t 2],
 .seq (.reg [⟨none, .mv 2 (.c (.b false))⟩])
 (.seq (.reg [⟨none, .mv 3 (.t 0)⟩,
    ⟨none, .mv 4 (.t 0)⟩,
    ⟨none, .bin 5 .neq (.t 3) (.t 4)⟩,
    ⟨none, .mv 2 (.t 5)⟩])
  (.ret))⟩
/- slices.Clone[eliminant/integer.nat,uint32] -/
def c_slices_Clone_integer_nat_uint32 : Fun := ⟨1, [.t 2],
 .seq (.reg [⟨none, .mv 2 (.c (.nil))⟩])
 (.seq (.seq (.reg [⟨none, .mv 3 (.t 0)⟩,
     ⟨none, .isnil 4 false (.t 3)⟩])
   (.cond (.t 4) (.seq (.reg [⟨none, .mv 2 (.c (.nil))⟩])
     (.ret))
    (.skip)))
  (.seq (.reg [⟨none, .bslice 5 0 1 [.i .u32 0] []⟩,
     ⟨none, .mv 6 (.t 0)⟩,
     ⟨none, .append 7 1 4 (.t 5) (.t 6)⟩,
     ⟨none, .mv 2 (.t 7)⟩])
   (.ret)))⟩
/- slices.Clone[eliminant/syzygy.vector,eliminant/api.Poly] -/
def c_slices_Clone_syzygy_vector_api_Poly : Fun := ⟨1, [.t 2],
 .seq (.reg [⟨none, .mv 2 (.c (.nil))⟩])
 (.seq (.seq (.reg [⟨none, .mv 3 (.t 0)⟩,
     ⟨none, .isnil 4 false (.t 3)⟩])
   (.cond (.t 4) (.seq (.reg [⟨none, .mv 2 (.c (.nil))⟩])
     (.ret))
    (.skip)))
  (.seq (.reg [⟨none, .bslice 5 0 1 [.sl 0 []] []⟩,
     ⟨none, .mv 6 (.t 0)⟩,
     ⟨none, .append 7 1 24 (.t 5) (.t 6)⟩,
     ⟨none, .mv 2 (.t 7)⟩])
   (.ret)))⟩
end Go.Ev

/- slices.Clone, and the signs of numbers. -/
namespace Go.Ev
open Go.Pm

theorem FnAt.of_own {P : Program} (hm : P.follows .mixedOrders = true) {K : Cfg} {cs : Sem} (hcs : SemOK P cs) {f : FuncId} {fn : Func} {fu : Fun} (h1 : P.funcs[f]? = some fn) (h2 : fn.name ≠ "runtime.NumGoroutine") (h3 : toFun P K fn = some fu) {own : Bool}
    {ds : List DV} {r : DV} {outs : List (List DV)} (h : Rets K cs own fu ds r outs) : FnAt P f ds r outs := by
  obtain ⟨k, hk⟩ := h
  exact body_ok hm hcs k _ h1 h2 h3 ds r outs hk

/-- An empty slice is nil or it is not. -/
theorem FnAt.empty {P : Program} {f : FuncId} {r : DV} (h1 : FnAt P f [.non] r []) (h2 : FnAt P f [.emp] r []) : FnAt P f [.sl 0 []] r [] := by
  refine ⟨h1.1, fun w S vs lent wf args lok => ?_⟩
  obtain ⟨v, t, l1, l2, rfl, rfl, h3, rfl, rfl⟩ := args
  rcases h3 with ⟨rfl, _, hv⟩ | ⟨k, sz, cs, off, n, b, h, _⟩
  · simp only [V] at hv
    obtain ⟨a, cap, rfl, h4, h5, h6, h7⟩ := hv
    cases a with
    | none =>
      have : cap = 0 := h6.1 rfl
      subst this
      exact h1.2 w S _ _ wf ⟨_, [], [], [], rfl, rfl, .inl ⟨rfl, rfl, rfl⟩, rfl, rfl⟩ lok
    | some a => exact h2.2 w S _ _ wf ⟨_, [], [], [], rfl, rfl, .inl ⟨rfl, rfl, ⟨a, cap, rfl, fun hc => (h7 a rfl hc).1⟩⟩, rfl, rfl⟩ lok
  · cases h

def g_clone (own : Bool) : G
  | [.sl 0 []] => some (.sl 0 [], [])
  | [.sl (n + 1) cs] => if areDeep cs = true ∧ cs.length = n + 1 ∧ cs.all isCell = true ∧ n + 1 ≤ 1000000 then some (if own then .own 0 1 cs 0 (n + 1) else .sl (n + 1) cs, []) else none
  | _ => none

attribute [simp] isNil

section
variable {P : Program}

theorem clone_nat_non (cs : Sem) : Rets KK cs false c_slices_Clone_integer_nat_uint32 [.non] (.sl 0 []) [] := by
  refine Rets.of rfl ?_
  unfold c_slices_Clone_integer_nat_uint32
  simp [deepen]
theorem clone_nat_emp (cs : Sem) : Rets KK cs false c_slices_Clone_integer_nat_uint32 [.emp] (.sl 0 []) [] := by
  refine Rets.of rfl ?_
  unfold c_slices_Clone_integer_nat_uint32
  simp [deepen]
theorem clone_nat_cons (cs : Sem) (n : Nat) (l : List DV) (h : areDeep l = true ∧ l.length = n + 1 ∧ l.all isCell = true ∧ n + 1 ≤ 1000000) : Rets KK cs false c_slices_Clone_integer_nat_uint32 [.sl (n + 1) l] (.sl (n + 1) l) [] := by
  have h1 : ¬ l.length < n + 1 := by omega
  have h2 : ¬ 274877906943 < n := by omega
  have h3 : l.take (n + 1) = l := by rw [List.take_of_length_le (by omega)]
  refine Rets.of rfl ?_
  unfold c_slices_Clone_integer_nat_uint32
  simp [h.1, h1, h2, h3, h.2.2.1, nth, -List.all_eq_true]

theorem clone_vec_non (cs : Sem) : Rets KK cs false c_slices_Clone_syzygy_vector_api_Poly [.non] (.sl 0 []) [] := by
  refine Rets.of rfl ?_
  unfold c_slices_Clone_syzygy_vector_api_Poly
  simp [deepen]
theorem clone_vec_emp (cs : Sem) : Rets KK cs false c_slices_Clone_syzygy_vector_api_Poly [.emp] (.sl 0 []) [] := by
  refine Rets.of rfl ?_
  unfold c_slices_Clone_syzygy_vector_api_Poly
  simp [deepen]
theorem clone_vec_cons (cs : Sem) (n : Nat) (l : List DV) (h : areDeep l = true ∧ l.length = n + 1 ∧ l.all isCell = true ∧ n + 1 ≤ 1000000) : Rets KK cs true c_slices_Clone_syzygy_vector_api_Poly [.sl (n + 1) l] (.own 0 1 l 0 (n + 1)) [] := by
  have h1 : ¬ l.length < n + 1 := by omega
  have h2 : ¬ 274877906943 < n := by omega
  have h3 : l.take (n + 1) = l := by rw [List.take_of_length_le (by omega)]
  refine Rets.of rfl ?_
  unfold c_slices_Clone_syzygy_vector_api_Poly
  simp [h.1, h1, h2, h3, h.2.1, h.2.2.1, nth, -List.all_eq_true]

theorem ok_clone_nat (hm : P.follows .mixedOrders = true) (hh : Has P n_slices_Clone_integer_nat_uint32 c_slices_Clone_integer_nat_uint32) : FnOK P n_slices_Clone_integer_nat_uint32 (g_clone false) := by
  obtain ⟨fn, h1, h2, h3⟩ := hh
  have hcs : SemOK P (sem []) := sem_ok (by simp)
  intro ds r outs h
  unfold g_clone at h
  split at h
  · cases h
    exact FnAt.empty (FnAt.of_own hm hcs h1 h2 h3 (clone_nat_non _)) (FnAt.of_own hm hcs h1 h2 h3 (clone_nat_emp _))
  · split at h
    · rename_i hc
      cases h
      exact FnAt.of_own hm hcs h1 h2 h3 (clone_nat_cons _ _ _ hc)
    · cases h
  · cases h

theorem ok_clone_vec (hm : P.follows .mixedOrders = true) (hh : Has P n_slices_Clone_syzygy_vector_api_Poly c_slices_Clone_syzygy_vector_api_Poly) : FnOK P n_slices_Clone_syzygy_vector_api_Poly (g_clone true) := by
  obtain ⟨fn, h1, h2, h3⟩ := hh
  have hcs : SemOK P (sem []) := sem_ok (by simp)
  intro ds r outs h
  unfold g_clone at h
  split at h
  · cases h
    exact FnAt.empty (FnAt.of_own hm hcs h1 h2 h3 (clone_vec_non _)) (FnAt.of_own hm hcs h1 h2 h3 (clone_vec_emp _))
  · split at h
    · rename_i hc
      cases h
      exact FnAt.of_own hm hcs h1 h2 h3 (clone_vec_cons _ _ _ hc)
    · cases h
  · cases h

/-! ### Signs -/

theorem wd_len {n : Nat} : (wd n).length = 0 ↔ n = 0 := by
  unfold wd
  split
  · rename_i h; simp [h]
  · rename_i h; simp [h]

theorem num_neg' {q : Rat} : q.num < 0 ↔ q < 0 := by rw [← Int.not_le, Rat.num_nonneg, Rat.not_le]

theorem sgn_pos {a : Rat} (h : ¬ a.num < 0) : sgn a = min ((wd a.num.natAbs).length : Int) 1 := by
  have h0 : ¬ a < 0 := fun c => h (num_neg'.2 c)
  unfold sgn
  rw [if_neg h0]
  by_cases e : a = 0
  · subst e; simp [wd_zero]; rfl
  · have e1 : a.num ≠ 0 := fun c => e (Rat.num_eq_zero.1 c)
    have e2 : (wd a.num.natAbs).length ≠ 0 := fun c => e1 (by have := wd_len.1 c; omega)
    rw [if_neg e]; omega

theorem int_Sign_rets (cs : Sem) (a : Rat) : Rets KK cs false c_integer_Sign [.agg [.b (decide (a.num < 0)), dNat a.num.natAbs]] (.i .i64 (sgn a)) [] := by
  refine Rets.of rfl ?_
  unfold c_integer_Sign
  by_cases h : a.num < 0
  · have : sgn a = -1 := by unfold sgn; rw [if_pos (num_neg'.1 h)]
    simp [h, part, this, dNat]
  · rw [sgn_pos h]
    by_cases c : (1 : Int) < ((wd a.num.natAbs).length : Int)
    · have e : min ((wd a.num.natAbs).length : Int) 1 = 1 := by omega
      simp [h, part, dNat, e]
      omega
    · have e : min ((wd a.num.natAbs).length : Int) 1 = ((wd a.num.natAbs).length : Int) := by omega
      simp [h, part, dNat, e]
      omega

theorem ref01_Sign_rets (cs : Sem) (a : Rat) : Rets KK cs false c_ref01_Sign [.agg [.b (decide (a.num < 0)), dNat a.num.natAbs]] (.i .i64 (sgn a)) [] := by
  refine Rets.of rfl ?_
  unfold c_ref01_Sign
  by_cases h : a.num < 0
  · have : sgn a = -1 := by unfold sgn; rw [if_pos (num_neg'.1 h)]
    simp [h, part, this, dNat]
  · rw [sgn_pos h]
    by_cases c : (1 : Int) < ((wd a.num.natAbs).length : Int)
    · have e : min ((wd a.num.natAbs).length : Int) 1 = 1 := by omega
      simp [h, part, dNat, e]
      omega
    · have e : min ((wd a.num.natAbs).length : Int) 1 = ((wd a.num.natAbs).length : Int) := by omega
      simp [h, part, dNat, e]
      omega

theorem dNat_isDeep (n : Nat) : areDeep [dNat n] = true := by simp [areDeep_cons, areDeep_nil, dNat_deep]

theorem rational_Sign_rets (cs : Sem) (a : Rat) (h : cs n_integer_Sign [.agg [.b (decide (a.num < 0)), dNat a.num.natAbs]] = some (.i .i64 (sgn a), [])) : Rets KK cs false c_rational_Sign [dRat a] (.i .i64 (sgn a)) [] := by
  refine Rets.of rfl ?_
  have p2 : part (rcells a) 0 2 true = some (.agg [.b (decide (a.num < 0)), dNat a.num.natAbs]) := rfl
  unfold c_rational_Sign
  simp [p2, h, dNat_deep]
theorem ref02_Sign_rets (cs : Sem) (a : Rat) (h : cs n_ref01_Sign [.agg [.b (decide (a.num < 0)), dNat a.num.natAbs]] = some (.i .i64 (sgn a), [])) : Rets KK cs false c_ref02_Sign [dRat a] (.i .i64 (sgn a)) [] := by
  refine Rets.of rfl ?_
  have p2 : part (rcells a) 0 2 true = some (.agg [.b (decide (a.num < 0)), dNat a.num.natAbs]) := rfl
  unfold c_ref02_Sign
  simp [p2, h, dNat_deep]

def encI (a : Rat) : List DV := [.agg [.b (decide (a.num < 0)), dNat a.num.natAbs]]
theorem encI_out {a b : Rat} (h : encI a = encI b) : sgn a = sgn b := by
  simp only [encI, List.cons.injEq, DV.agg.injEq, DV.b.injEq, decide_eq_decide, and_true] at h
  have h2 := dNat_inj h.2
  have e : a.num = b.num := by
    by_cases c : a.num < 0
    · have := h.1.1 c; omega
    · have : ¬ b.num < 0 := fun x => c (h.1.2 x); omega
  unfold sgn
  simp only [← num_neg', ← Rat.num_eq_zero, e]

open Classical in
noncomputable def g_isign : G := fun ds => if h : ∃ a, encI a = ds then some (.i .i64 (sgn h.choose), []) else none
theorem e_isign (a : Rat) : g_isign (encI a) = some (.i .i64 (sgn a), []) := by
  have hx : ∃ b, encI b = encI a := ⟨a, rfl⟩
  unfold g_isign
  rw [dif_pos hx, encI_out hx.choose_spec]

theorem ok_sign_prog (hm : P.follows .mixedOrders = true) (h1 : Has P n_rational_Sign c_rational_Sign) (h2 : Has P n_integer_Sign c_integer_Sign) : FnOK P n_rational_Sign g_sign := by
  have k : FnOK P n_integer_Sign g_isign := by
    obtain ⟨fn, q1, q2, q3⟩ := h2
    intro ds r outs h
    unfold g_isign at h
    split at h
    · rename_i hx
      cases h
      have := FnAt.of_own hm (sem_ok (P := P) (l := []) (by simp)) q1 q2 q3 (int_Sign_rets _ hx.choose)
      rw [show [DV.agg [.b (decide (hx.choose.num < 0)), dNat hx.choose.num.natAbs]] = encI hx.choose from rfl, hx.choose_spec] at this
      exact this
    · cases h
  exact ok_of hm (l := [(n_integer_Sign, g_isign)]) (by simpa using k) h1 rfl fun a _ => rational_Sign_rets _ a (e_isign a)

theorem ok_sign_ref (hm : P.follows .mixedOrders = true) (h1 : Has P n_ref02_Sign c_ref02_Sign) (h2 : Has P n_ref01_Sign c_ref01_Sign) : FnOK P n_ref02_Sign g_sign := by
  have k : FnOK P n_ref01_Sign g_isign := by
    obtain ⟨fn, q1, q2, q3⟩ := h2
    intro ds r outs h
    unfold g_isign at h
    split at h
    · rename_i hx
      cases h
      have := FnAt.of_own hm (sem_ok (P := P) (l := []) (by simp)) q1 q2 q3 (ref01_Sign_rets _ hx.choose)
      rw [show [DV.agg [.b (decide (hx.choose.num < 0)), dNat hx.choose.num.natAbs]] = encI hx.choose from rfl, hx.choose_spec] at this
      exact this
    · cases h
  exact ok_of hm (l := [(n_ref01_Sign, g_isign)]) (by simpa using k) h1 rfl fun a _ => ref02_Sign_rets _ a (e_isign a)
end
end Go.Ev

/- Runs by a table of code. -/
namespace Go.Ev
open Go.Pm

def HasK (K : Cfg) (P : Program) (f : Nat) (c : Fun) : Prop := ∃ fn, P.funcs[f]? = some fn ∧ fn.name ≠ "runtime.NumGoroutine" ∧ toFun P K fn = some c

theorem run_ok {P : Program} (hm : P.follows .mixedOrders = true) {L : List (Nat × Fun)} {fc : Nat → FC} (hL : ∀ x ∈ L, HasK ⟨fc, fun f => (L.find? (·.1 == f)).map (·.2)⟩ P x.1 x.2)
    {ov : Nat → Option G} (hov : ∀ f g, ov f = some g → FnOK P f g) (k : Nat) : SemOK P (evFn ⟨fc, fun f => (L.find? (·.1 == f)).map (·.2)⟩ (fun f => (ov f).map fun g _ => g) k) := by
  refine evFn_ok hm (fun f fu h => ?_) (fun f g h cs _ => ?_) k
  · simp only [Option.map_eq_some_iff] at h
    obtain ⟨x, h1, rfl⟩ := h
    have h2 := List.find?_some h1
    simp only [beq_iff_eq] at h2
    subst h2
    exact hL x (List.mem_of_find?_eq_some h1)
  · simp only [Option.map_eq_some_iff] at h
    obtain ⟨g0, h1, rfl⟩ := h
    exact hov f g0 h1

theorem whole_dRat {x : Int} (h : x.natAbs < 4294967296) : whole x = dRat (x : Rat) := by
  have h1 : wd 1 = [1] := wd_small (by omega) (by omega)
  have e1 : dNat 1 = .sl 1 [.i .u32 1] := by simp [dNat, h1]
  by_cases c0 : x = 0
  · subst c0
    simp [whole, rcells, e1]
    simp [dNat, wd_zero]
  · have h2 : wd x.natAbs = [x.natAbs] := wd_small (by omega) h
    have e2 : dNat x.natAbs = .sl 1 [.i .u32 (x.natAbs : Int)] := by simp [dNat, h2]
    have e3 : (if x < 0 then -x else x) = (x.natAbs : Int) := by split <;> omega
    simp [whole, rcells, e1, e2, c0, e3]
    congr

/-- Sums and products of small whole numbers, out of the cases. -/
theorem small_of {P : Program} {f : Nat} {g : G} (hg : FnOK P f g) {l : List Case} (o : Int → Int → Int) (op : Pl → Pl → Pl) (ho : ∀ r p q, Pl.eval r (op p q) = o (p.eval r) (q.eval r))
    (hs : l.all (fun c => signed (lin c.1.1 c.1.2.1 c.1.2.2) && signed (lin c.2.1 c.2.2.1 c.2.2.2) && signed (op (lin c.1.1 c.1.2.1 c.1.2.2) (lin c.2.1 c.2.2.1 c.2.2.2))) = true)
    (hr : l.map (fun c => g [wholeX (lin c.1.1 c.1.2.1 c.1.2.2), wholeX (lin c.2.1 c.2.2.1 c.2.2.2)]) = l.map (fun c => some (wholeX (op (lin c.1.1 c.1.2.1 c.1.2.2) (lin c.2.1 c.2.2.1 c.2.2.2)), [])))
    {x y : Int} (hc : Covers l x y) (bx : x.natAbs < 4294967296) (b2 : y.natAbs < 4294967296) (b3 : (o x y).natAbs < 4294967296) : FnAt P f [dRat (x : Rat), dRat (y : Rat)] (dRat ((o x y : Int) : Rat)) [] := by
  have h := at_whole hg o op ho hs (fun c hm => List.map_inj_left.1 hr c hm) hc
  rw [whole_dRat bx, whole_dRat b2, whole_dRat b3] at h
  exact h

theorem ok_add_of {P : Program} {f : Nat} {g : G} (hg : FnOK P f g)
    (hr : casesAdd.map (fun c => g [wholeX (lin c.1.1 c.1.2.1 c.1.2.2), wholeX (lin c.2.1 c.2.2.1 c.2.2.2)]) = casesAdd.map (fun c => some (wholeX (Pl.add (lin c.1.1 c.1.2.1 c.1.2.2) (lin c.2.1 c.2.2.1 c.2.2.2)), []))) :
    FnOK P f g_add := by
  refine spec_ok fun ⟨a, b⟩ h => ?_
  obtain ⟨⟨ha, na⟩, ⟨hb, nb⟩⟩ := h
  simp only at ha na hb nb
  unfold nm at na nb
  have k := small_of hg (fun x y => x + y) Pl.add (fun r p q => Pl.eval_add p q) (by decide +kernel) hr (x := a.num) (y := b.num) (casesAdd_cover (by omega) (by omega)) (by omega) (by omega) (by omega)
  have e : ((a.num + b.num : Int) : Rat) = a + b := by rw [Rat.intCast_add, ← whole_eq ha, ← whole_eq hb]
  rw [e, ← whole_eq ha, ← whole_eq hb] at k
  exact k

theorem mul_bound {a b : Int} (ha : a.natAbs ≤ 16000) (hb : b.natAbs ≤ 16000) : (a * b).natAbs < 4294967296 := by
  rw [Int.natAbs_mul]
  have := Nat.mul_le_mul ha hb
  omega

theorem ok_mul_of {P : Program} {f : Nat} {g : G} (hg : FnOK P f g)
    (hr : casesMul.map (fun c => g [wholeX (lin c.1.1 c.1.2.1 c.1.2.2), wholeX (lin c.2.1 c.2.2.1 c.2.2.2)]) = casesMul.map (fun c => some (wholeX (Pl.mul (lin c.1.1 c.1.2.1 c.1.2.2) (lin c.2.1 c.2.2.1 c.2.2.2)), []))) :
    FnOK P f g_mul := by
  refine spec_ok fun ⟨a, b⟩ h => ?_
  obtain ⟨⟨ha, na⟩, ⟨hb, nb⟩⟩ := h
  simp only at ha na hb nb
  unfold nm at na nb
  have k := small_of hg (fun x y => x * y) Pl.mul (fun r p q => Pl.eval_mul p q) (by decide +kernel) hr (x := a.num) (y := b.num) (casesMul_cover (by omega) (by omega)) (by omega) (by omega) (mul_bound na nb)
  have e : ((a.num * b.num : Int) : Rat) = a * b := by rw [Rat.intCast_mul, ← whole_eq ha, ← whole_eq hb]
  rw [e, ← whole_eq ha, ← whole_eq hb] at k
  exact k

/-- Runs at some cases. -/
def Runs (g : G) (op : Pl → Pl → Pl) (l : List Case) : Prop :=
  l.map (fun c => g [wholeX (lin c.1.1 c.1.2.1 c.1.2.2), wholeX (lin c.2.1 c.2.2.1 c.2.2.2)]) = l.map (fun c => some (wholeX (op (lin c.1.1 c.1.2.1 c.1.2.2) (lin c.2.1 c.2.2.1 c.2.2.2)), []))
def chunk (l : List Case) (i : Nat) : List Case := (l.drop (5 * i)).take 5
theorem runs_of {g : G} {op : Pl → Pl → Pl} {l : List Case} {n : Nat} (hn : l.length ≤ 5 * n) (h : ∀ i, i < n → Runs g op (chunk l i)) : Runs g op l := by
  refine List.map_inj_left.2 fun c hc => ?_
  obtain ⟨j, hj, rfl⟩ := List.getElem_of_mem hc
  have hi : j / 5 < n := by omega
  refine List.map_inj_left.1 (h (j / 5) hi) _ ?_
  have : (chunk l (j / 5))[j % 5]? = some l[j] := by
    unfold chunk
    rw [List.getElem?_take_of_lt (by omega), List.getElem?_drop, List.getElem?_eq_getElem (by omega)]
    congr 2; omega
  exact List.mem_of_getElem? this

def range201 : List Int := (List.range 201).map fun n : Nat => (n : Int) - 100

theorem ok_whole_of {P : Program} {f : Nat} {g : G} (hg : FnOK P f g) (hr : range201.map (fun n => g [.i .i64 n]) = range201.map (fun n => some (whole n, []))) : FnOK P f g_whole := by
  refine spec_ok fun n h => ?_
  have hm : n ∈ range201 := List.mem_map.2 ⟨(n + 100).toNat, List.mem_range.2 (by omega), by omega⟩
  have k := hg.at (List.map_inj_left.1 hr n hm)
  rw [whole_dRat (by omega)] at k
  exact k
end Go.Ev

/- The program has these functions with this code. Printed by a program of mine. -/
namespace Go.Ev
open Go Go.Pm Go.Proofs
set_option maxRecDepth 100000
theorem ne_of_beq {a b : String} (h : (a == b) = false) : a ≠ b := by simpa using h
theorem hm_prog : Tryz.prog.follows .mixedOrders = true := by kernel_rfl
theorem has_ref06_Add : Has Tryz.prog n_ref06_Add c_ref06_Add := ⟨_, Tryz.func21, ne_of_beq (by kernel_rfl), by kernel_rfl⟩
theorem has_ref06_Times : Has Tryz.prog n_ref06_Times c_ref06_Times := ⟨_, Tryz.func85, ne_of_beq (by kernel_rfl), by kernel_rfl⟩
theorem has_ref06_Scale : Has Tryz.prog n_ref06_Scale c_ref06_Scale := ⟨_, Tryz.func28, ne_of_beq (by kernel_rfl), by kernel_rfl⟩
theorem has_ref06_Sub : Has Tryz.prog n_ref06_Sub c_ref06_Sub := ⟨_, Tryz.func23, ne_of_beq (by kernel_rfl), by kernel_rfl⟩
theorem has_ref06_Mul : Has Tryz.prog n_ref06_Mul c_ref06_Mul := ⟨_, Tryz.func76, ne_of_beq (by kernel_rfl), by kernel_rfl⟩
theorem has_ref06_By : Has Tryz.prog n_ref06_By c_ref06_By := ⟨_, Tryz.func22, ne_of_beq (by kernel_rfl), by kernel_rfl⟩
theorem has_ref06_Made : Has Tryz.prog n_ref06_Made c_ref06_Made := ⟨_, Tryz.func46, ne_of_beq (by kernel_rfl), by kernel_rfl⟩
theorem has_ref06_List : Has Tryz.prog n_ref06_List c_ref06_List := ⟨_, Tryz.func65, ne_of_beq (by kernel_rfl), by kernel_rfl⟩
theorem has_ref06_abs : Has Tryz.prog n_ref06_abs c_ref06_abs := ⟨_, Tryz.func124, ne_of_beq (by kernel_rfl), by kernel_rfl⟩
theorem has_ref13_Polys : Has Tryz.prog n_ref13_Polys c_ref13_Polys := ⟨_, Tryz.func19, ne_of_beq (by kernel_rfl), by kernel_rfl⟩
theorem has_ref04_Cmp : Has Tryz.prog n_ref04_Cmp c_ref04_Cmp := ⟨_, Tryz.func74, ne_of_beq (by kernel_rfl), by kernel_rfl⟩
theorem has_ref04_Mul : Has Tryz.prog n_ref04_Mul c_ref04_Mul := ⟨_, Tryz.func161, ne_of_beq (by kernel_rfl), by kernel_rfl⟩
theorem has_ref04_Valid : Has Tryz.prog n_ref04_Valid c_ref04_Valid := ⟨_, Tryz.func201, ne_of_beq (by kernel_rfl), by kernel_rfl⟩
theorem has_ref06_Same : Has Tryz.prog n_ref06_Same c_ref06_Same := ⟨_, Tryz.func52, ne_of_beq (by kernel_rfl), by kernel_rfl⟩
theorem has_ref12_Sum : Has Tryz.prog n_ref12_Sum c_ref12_Sum := ⟨_, Tryz.func151, ne_of_beq (by kernel_rfl), by kernel_rfl⟩
theorem has_ref12_Is : Has Tryz.prog n_ref12_Is c_ref12_Is := ⟨_, Tryz.func78, ne_of_beq (by kernel_rfl), by kernel_rfl⟩
theorem has_ref19_Is : Has Tryz.prog n_ref19_Is c_ref19_Is := ⟨_, Tryz.func25, ne_of_beq (by kernel_rfl), by kernel_rfl⟩
theorem has_polynomial_Add : Has Tryz.prog n_polynomial_Add c_polynomial_Add := ⟨_, Tryz.func97, ne_of_beq (by kernel_rfl), by kernel_rfl⟩
theorem has_polynomial_merge : Has Tryz.prog n_polynomial_merge c_polynomial_merge := ⟨_, Tryz.func175, ne_of_beq (by kernel_rfl), by kernel_rfl⟩
theorem has_polynomial_Add_1 : Has Tryz.prog n_polynomial_Add_1 c_polynomial_Add_1 := ⟨_, Tryz.func177, ne_of_beq (by kernel_rfl), by kernel_rfl⟩
theorem has_polynomial_Mul : Has Tryz.prog n_polynomial_Mul c_polynomial_Mul := ⟨_, Tryz.func109, ne_of_beq (by kernel_rfl), by kernel_rfl⟩
theorem has_polynomial_sum_add : Has Tryz.prog n_polynomial_sum_add c_polynomial_sum_add := ⟨_, Tryz.func196, ne_of_beq (by kernel_rfl), by kernel_rfl⟩
theorem has_division_Sum : Has Tryz.prog n_division_Sum c_division_Sum := ⟨_, Tryz.func77, ne_of_beq (by kernel_rfl), by kernel_rfl⟩
theorem has_syzygy_Is : Has Tryz.prog n_syzygy_Is c_syzygy_Is := ⟨_, Tryz.func24, ne_of_beq (by kernel_rfl), by kernel_rfl⟩
theorem has_monomial_Mul : Has Tryz.prog n_monomial_Mul c_monomial_Mul := ⟨_, Tryz.func104, ne_of_beq (by kernel_rfl), by kernel_rfl⟩
theorem has_monomial_Mul_1 : Has Tryz.prog n_monomial_Mul_1 c_monomial_Mul_1 := ⟨_, Tryz.func188, ne_of_beq (by kernel_rfl), by kernel_rfl⟩
theorem has_monomial_each : Has Tryz.prog n_monomial_each c_monomial_each := ⟨_, Tryz.func171, ne_of_beq (by kernel_rfl), by kernel_rfl⟩
theorem has_monomial_Valid : Has Tryz.prog n_monomial_Valid c_monomial_Valid := ⟨_, Tryz.func189, ne_of_beq (by kernel_rfl), by kernel_rfl⟩
theorem has_monomial_Cmp : Has Tryz.prog n_monomial_Cmp c_monomial_Cmp := ⟨_, Tryz.func190, ne_of_beq (by kernel_rfl), by kernel_rfl⟩
theorem has_slices_Compare_int_int : Has Tryz.prog n_slices_Compare_int_int c_slices_Compare_int_int := ⟨_, Tryz.func251, ne_of_beq (by kernel_rfl), by kernel_rfl⟩
theorem has_cmp_Compare_int : Has Tryz.prog n_cmp_Compare_int c_cmp_Compare_int := ⟨_, Tryz.func261, ne_of_beq (by kernel_rfl), by kernel_rfl⟩
theorem has_cmp_isNaN_int : Has Tryz.prog n_cmp_isNaN_int c_cmp_isNaN_int := ⟨_, Tryz.func288, ne_of_beq (by kernel_rfl), by kernel_rfl⟩
theorem has_law19_poly : Has Tryz.prog n_law19_poly c_law19_poly := ⟨_, Tryz.func20, ne_of_beq (by kernel_rfl), by kernel_rfl⟩
theorem has_law19_SyzygyIs : Has Tryz.prog n_law19_SyzygyIs c_law19_SyzygyIs := ⟨_, Tryz.func3, ne_of_beq (by kernel_rfl), by kernel_rfl⟩
theorem has_rational_Sign : Has Tryz.prog n_rational_Sign c_rational_Sign := ⟨_, Tryz.func202, ne_of_beq (by kernel_rfl), by kernel_rfl⟩
theorem has_ref02_Sign : Has Tryz.prog n_ref02_Sign c_ref02_Sign := ⟨_, Tryz.func57, ne_of_beq (by kernel_rfl), by kernel_rfl⟩
theorem has_integer_Sign : Has Tryz.prog n_integer_Sign c_integer_Sign := ⟨_, Tryz.func252, ne_of_beq (by kernel_rfl), by kernel_rfl⟩
theorem has_ref01_Sign : Has Tryz.prog n_ref01_Sign c_ref01_Sign := ⟨_, Tryz.func133, ne_of_beq (by kernel_rfl), by kernel_rfl⟩
theorem has_slices_Clone_integer_nat_uint32 : Has Tryz.prog n_slices_Clone_integer_nat_uint32 c_slices_Clone_integer_nat_uint32 := ⟨_, Tryz.func285, ne_of_beq (by kernel_rfl), by kernel_rfl⟩
theorem has_slices_Clone_syzygy_vector_api_Poly : Has Tryz.prog n_slices_Clone_syzygy_vector_api_Poly c_slices_Clone_syzygy_vector_api_Poly := ⟨_, Tryz.func199, ne_of_beq (by kernel_rfl), by kernel_rfl⟩
end Go.Ev

/- Code of functions, printed from the translation by a program of mine. -/
set_option maxRecDepth 100000
namespace Go.Ev
/- eliminant/eliminantref05.Lex -/
def c_ref05_Lex : Fun := ⟨0, [.t 0],
 .seq (.reg [⟨none, .mv 0 (.c (.nil))⟩])
 (.seq (.reg [⟨none, .bslice 1 0 8 [.i .i64 0, .i .i64 0, .i .i64 0, .i .i64 0, .i .i64 0, .i .i64 0, .i .i64 0, .i .i64 0] []⟩,
    ⟨none, .mv 0 (.t 1)⟩])
  (.ret))⟩
/- eliminant/eliminantref06.Int -/
def c_ref06_Int : Fun := ⟨1, [.t 2],
 .seq (.reg [⟨none, .mv 2 (.c (.nil))⟩])
 (.seq (.reg [⟨none, .mv 3 (.t 0)⟩,
    ⟨none, .call (some 4) n_ref02_Whole [.t 3]⟩,
    ⟨none, .call (some 5) n_ref06_Constant [.t 4]⟩,
    ⟨none, .mv 2 (.t 5)⟩])
  (.ret))⟩
/- eliminant/eliminantref06.SameList -/
def l_ref06_SameList_0 : C :=
 .seq (.seq (.reg [⟨none, .mv 11 (.t 5)⟩,
    ⟨none, .mv 12 (.t 0)⟩,
    ⟨none, .len 13 (.t 12)⟩,
    ⟨none, .bin 14 .lss (.t 11) (.t 13)⟩])
  (.cond (.t 14) (.skip)
   (.exit 0)))
 (.seq (.block 1 (.seq (.reg [⟨none, .mv 17 (.t 0)⟩,
      ⟨none, .mv 18 (.t 5)⟩,
      ⟨none, .iaddrS 19 1 (.t 17) (.t 18)⟩,
      ⟨none, .load 20 1 false (.t 19)⟩,
      ⟨none, .mv 21 (.t 1)⟩,
      ⟨none, .mv 22 (.t 5)⟩,
      ⟨none, .iaddrS 23 1 (.t 21) (.t 22)⟩,
      ⟨none, .load 24 1 false (.t 23)⟩,
      ⟨none, .call (some 25) n_ref06_Same [.t 20, .t 24]⟩,
      ⟨none, .un 26 .not (.t 25)⟩])
    (.cond (.t 26) (.seq (.reg [⟨none, .mv 4 (.c (.b false))⟩])
      (.ret))
     (.skip))))
  (.reg [⟨none, .mv 15 (.t 5)⟩,
    ⟨none, .bin 16 .add (.t 15) (.c (.i .i64 1))⟩,
    ⟨none, .mv 5 (.t 16)⟩]))
def c_ref06_SameList : Fun := ⟨2, [.t 4],
 .seq (.reg [⟨none, .mv 4 (.c (.b false))⟩])
 (.seq (.seq (.reg [⟨none, .mv 6 (.t 0)⟩,
     ⟨none, .len 7 (.t 6)⟩,
     ⟨none, .mv 8 (.t 1)⟩,
     ⟨none, .len 9 (.t 8)⟩,
     ⟨none, .bin 10 .neq (.t 7) (.t 9)⟩])
   (.cond (.t 10) (.seq (.reg [⟨none, .mv 4 (.c (.b false))⟩])
     (.ret))
    (.skip)))
  (.seq (.seq (.reg [⟨none, .mv 5 (.c (.i .i64 0))⟩])
    (.block 0 (.loop l_ref06_SameList_0)))
   (.seq (.reg [⟨none, .mv 4 (.c (.b true))⟩])
    (.ret))))⟩
/- eliminant/eliminantref06.X -/
def c_ref06_X : Fun := ⟨1, [.t 2],
 .seq (.reg [⟨none, .mv 2 (.c (.nil))⟩])
 (.seq (.reg [⟨none, .mv 6 (.t 0)⟩,
    ⟨none, .call (some 7) n_ref06_Var [.t 6]⟩,
    ⟨none, .mv 5 (.t 7)⟩,
    ⟨none, .ext 8 0 (.t 5)⟩,
    ⟨none, .ext 9 1 (.t 5)⟩,
    ⟨none, .mv 3 (.t 8)⟩,
    ⟨none, .mv 4 (.t 9)⟩])
  (.seq (.reg [⟨none, .mv 10 (.t 3)⟩,
     ⟨none, .mv 2 (.t 10)⟩])
   (.ret)))⟩
/- eliminant/syzygy.Express -/
def l_syzygy_Express_0 : C :=
 .seq (.reg [⟨none, .bin 58 .lss (.t 57) (.t 56)⟩])
 (.seq (.cond (.t 58) (.skip)
   (.exit 2))
  (.seq (.block 3 (.seq (.reg [⟨none, .mv 59 (.t 57)⟩,
       ⟨none, .mv 16 (.t 59)⟩])
     (.seq (.reg [⟨none, .mv 61 (.t 12)⟩,
        ⟨none, .mv 62 (.t 16)⟩,
        ⟨none, .iaddrS 63 1 (.t 61) (.t 62)⟩,
        ⟨none, .load 64 1 false (.t 63)⟩,
        ⟨none, .mv 65 (.t 2)⟩,
        ⟨none, .call (some 66) n_polynomial_Lead [.t 64, .t 65]⟩,
        ⟨none, .mv 60 (.t 66)⟩,
        ⟨none, .ext 67 0 (.t 60)⟩,
        ⟨none, .ext 68 1 (.t 60)⟩,
        ⟨none, .alloc 17 [.b false, .nil, .b false, .nil, .i .i64 0, .i .i64 0, .i .i64 0, .i .i64 0, .i .i64 0, .i .i64 0, .i .i64 0, .i .i64 0]⟩,
        ⟨none, .store 12 (.t 17) (.t 67)⟩,
        ⟨none, .mv 18 (.t 68)⟩])
      (.seq (.seq (.reg [⟨none, .mv 69 (.t 18)⟩,
          ⟨none, .un 70 .not (.t 69)⟩])
        (.cond (.t 70) (.exit 3)
         (.skip)))
       (.seq (.reg [⟨none, .faddr 72 4 (.t 17)⟩,
          ⟨none, .load 73 8 true (.t 72)⟩,
          ⟨none, .mv 74 (.t 10)⟩,
          ⟨none, .mv 75 (.t 16)⟩,
          ⟨none, .iaddrS 76 12 (.t 74) (.t 75)⟩,
          ⟨none, .faddr 77 4 (.t 76)⟩,
          ⟨none, .load 78 8 true (.t 77)⟩,
          ⟨none, .call (some 79) n_monomial_Mul [.t 73, .t 78]⟩,
          ⟨none, .mv 71 (.t 79)⟩,
          ⟨none, .ext 80 0 (.t 71)⟩,
          ⟨none, .ext 81 1 (.t 71)⟩,
          ⟨none, .alloc 19 [.i .i64 0, .i .i64 0, .i .i64 0, .i .i64 0, .i .i64 0, .i .i64 0, .i .i64 0, .i .i64 0]⟩,
          ⟨none, .store 8 (.t 19) (.t 80)⟩,
          ⟨none, .mv 20 (.t 81)⟩])
        (.seq (.reg [⟨none, .mv 82 (.t 2)⟩,
           ⟨none, .load 83 8 true (.t 19)⟩,
           ⟨none, .load 84 8 true (.t 15)⟩,
           ⟨none, .call (some 85) n_order_Cmp [.t 82, .t 83, .t 84]⟩,
           ⟨none, .mv 21 (.t 85)⟩])
         (.block 4 (.seq (.reg [⟨none, .mv 87 (.t 14)⟩,
             ⟨none, .bin 88 .lss (.t 87) (.c (.i .i64 0))⟩,
             ⟨none, .mv 89 (.t 88)⟩,
             ⟨some (89, false, 90), .mv 90 (.t 21)⟩,
             ⟨some (89, false, 91), .bin 91 .gtr (.t 90) (.c (.i .i64 0))⟩,
             ⟨none, .pick 92 (.t 89) (.c (.b true)) (.t 91)⟩,
             ⟨none, .mv 86 (.t 92)⟩])
           (.cond (.t 86) (.reg [⟨none, .mv 93 (.t 16)⟩,
              ⟨none, .load 94 8 true (.t 19)⟩,
              ⟨none, .mv 13 (.c (.i .i64 (-1)))⟩,
              ⟨none, .mv 14 (.t 93)⟩,
              ⟨none, .store 8 (.t 15) (.t 94)⟩])
            (.seq (.reg [⟨none, .mv 96 (.t 21)⟩,
               ⟨none, .bin 97 .eql (.t 96) (.c (.i .i64 0))⟩,
               ⟨none, .mv 95 (.t 97)⟩])
             (.cond (.t 95) (.reg [⟨none, .mv 98 (.t 14)⟩,
                ⟨none, .mv 99 (.t 16)⟩,
                ⟨none, .mv 13 (.t 98)⟩,
                ⟨none, .mv 14 (.t 99)⟩])
              (.skip))))))))))))
   (.reg [⟨none, .bin 100 .add (.t 57) (.c (.i .i64 1))⟩,
     ⟨none, .mv 57 (.t 100)⟩])))
def l_syzygy_Express_1 : C :=
 .seq (.reg [⟨none, .bin 106 .lss (.t 105) (.t 104)⟩])
 (.seq (.cond (.t 106) (.skip)
   (.exit 5))
  (.seq (.block 6 (.seq (.reg [⟨none, .mv 107 (.t 105)⟩,
       ⟨none, .mv 23 (.t 107)⟩])
     (.reg [⟨none, .mv 108 (.t 22)⟩,
       ⟨none, .mv 109 (.t 1)⟩,
       ⟨none, .len 110 (.t 109)⟩,
       ⟨none, .bin 111 .sub (.t 110) (.c (.i .i64 1))⟩,
       ⟨none, .mv 112 (.t 23)⟩,
       ⟨none, .bin 113 .sub (.t 111) (.t 112)⟩,
       ⟨none, .bin 114 .add (.t 108) (.t 113)⟩,
       ⟨none, .mv 22 (.t 114)⟩])))
   (.reg [⟨none, .bin 115 .add (.t 105) (.c (.i .i64 1))⟩,
     ⟨none, .mv 105 (.t 115)⟩])))
def l_syzygy_Express_2 : C :=
 .block 1 (.seq (.reg [⟨none, .build 54 [.i .i64 0, .i .i64 0, .i .i64 0, .i .i64 0, .i .i64 0, .i .i64 0, .i .i64 0, .i .i64 0] []⟩,
    ⟨none, .alloc 15 [.i .i64 0, .i .i64 0, .i .i64 0, .i .i64 0, .i .i64 0, .i .i64 0, .i .i64 0, .i .i64 0]⟩,
    ⟨none, .mv 13 (.c (.i .i64 (-1)))⟩,
    ⟨none, .mv 14 (.c (.i .i64 (-1)))⟩,
    ⟨none, .store 8 (.t 15) (.t 54)⟩])
  (.seq (.seq (.reg [⟨none, .mv 55 (.t 12)⟩,
      ⟨none, .len 56 (.t 55)⟩,
      ⟨none, .mv 57 (.c (.i .i64 0))⟩])
    (.block 2 (.loop l_syzygy_Express_0)))
   (.seq (.seq (.reg [⟨none, .mv 101 (.t 13)⟩,
       ⟨none, .bin 102 .lss (.t 101) (.c (.i .i64 0))⟩])
     (.cond (.t 102) (.seq (.reg [⟨none, .mv 103 (.t 11)⟩,
         ⟨none, .mv 6 (.t 103)⟩,
         ⟨none, .mv 7 (.c (.i .i64 0))⟩])
       (.ret))
      (.skip)))
    (.seq (.reg [⟨none, .mv 22 (.c (.i .i64 0))⟩])
     (.seq (.seq (.reg [⟨none, .mv 104 (.t 13)⟩,
         ⟨none, .mv 105 (.c (.i .i64 0))⟩])
       (.block 5 (.loop l_syzygy_Express_1)))
      (.seq (.reg [⟨none, .mv 116 (.t 22)⟩,
         ⟨none, .mv 117 (.t 14)⟩,
         ⟨none, .mv 118 (.t 13)⟩,
         ⟨none, .bin 119 .sub (.t 117) (.t 118)⟩,
         ⟨none, .bin 120 .sub (.t 119) (.c (.i .i64 1))⟩,
         ⟨none, .bin 121 .add (.t 116) (.t 120)⟩,
         ⟨none, .mv 22 (.t 121)⟩])
       (.seq (.reg [⟨none, .mv 123 (.t 12)⟩,
          ⟨none, .mv 124 (.t 14)⟩,
          ⟨none, .iaddrS 125 1 (.t 123) (.t 124)⟩,
          ⟨none, .load 126 1 false (.t 125)⟩,
          ⟨none, .mv 127 (.t 2)⟩,
          ⟨none, .call (some 128) n_polynomial_Lead [.t 126, .t 127]⟩,
          ⟨none, .mv 122 (.t 128)⟩,
          ⟨none, .ext 129 0 (.t 122)⟩,
          ⟨none, .ext 130 1 (.t 122)⟩,
          ⟨none, .alloc 24 [.b false, .nil, .b false, .nil, .i .i64 0, .i .i64 0, .i .i64 0, .i .i64 0, .i .i64 0, .i .i64 0, .i .i64 0, .i .i64 0]⟩,
          ⟨none, .store 12 (.t 24) (.t 129)⟩,
          ⟨none, .mv 25 (.t 130)⟩])
        (.seq (.reg [⟨none, .mv 131 (.t 10)⟩,
           ⟨none, .mv 132 (.t 13)⟩,
           ⟨none, .iaddrS 133 12 (.t 131) (.t 132)⟩,
           ⟨none, .faddr 134 4 (.t 133)⟩,
           ⟨none, .load 135 8 true (.t 134)⟩,
           ⟨none, .mv 136 (.t 10)⟩,
           ⟨none, .mv 137 (.t 14)⟩,
           ⟨none, .iaddrS 138 12 (.t 136) (.t 137)⟩,
           ⟨none, .faddr 139 4 (.t 138)⟩,
           ⟨none, .load 140 8 true (.t 139)⟩,
           ⟨none, .call (some 141) n_monomial_Lcm [.t 135, .t 140]⟩,
           ⟨none, .mv 142 (.t 10)⟩,
           ⟨none, .mv 143 (.t 14)⟩,
           ⟨none, .iaddrS 144 12 (.t 142) (.t 143)⟩,
           ⟨none, .load 145 12 true (.t 144)⟩,
           ⟨none, .call (some 146) n_syzygy_quotient [.t 141, .t 145]⟩,
           ⟨none, .iaddrS 147 12 (.t 146) (.c (.i .i64 0))⟩,
           ⟨none, .load 148 12 true (.t 147)⟩,
           ⟨none, .alloc 26 [.b false, .nil, .b false, .nil, .i .i64 0, .i .i64 0, .i .i64 0, .i .i64 0, .i .i64 0, .i .i64 0, .i .i64 0, .i .i64 0]⟩,
           ⟨none, .store 12 (.t 26) (.t 148)⟩])
         (.seq (.reg [⟨none, .faddr 150 0 (.t 24)⟩,
            ⟨none, .load 151 4 true (.t 150)⟩,
            ⟨none, .faddr 152 0 (.t 26)⟩,
            ⟨none, .load 153 4 true (.t 152)⟩,
            ⟨none, .call (some 154) n_rational_Div [.t 151, .t 153]⟩,
            ⟨none, .mv 149 (.t 154)⟩,
            ⟨none, .ext 155 0 (.t 149)⟩,
            ⟨none, .ext 156 1 (.t 149)⟩,
            ⟨none, .alloc 27 [.b false, .nil, .b false, .nil]⟩,
            ⟨none, .store 4 (.t 27) (.t 155)⟩,
            ⟨none, .mv 28 (.t 156)⟩])
          (.seq (.reg [⟨none, .faddr 158 4 (.t 24)⟩,
             ⟨none, .load 159 8 true (.t 158)⟩,
             ⟨none, .faddr 160 4 (.t 26)⟩,
             ⟨none, .load 161 8 true (.t 160)⟩,
             ⟨none, .call (some 162) n_monomial_Quo [.t 159, .t 161]⟩,
             ⟨none, .mv 157 (.t 162)⟩,
             ⟨none, .ext 163 0 (.t 157)⟩,
             ⟨none, .ext 164 1 (.t 157)⟩,
             ⟨none, .alloc 29 [.i .i64 0, .i .i64 0, .i .i64 0, .i .i64 0, .i .i64 0, .i .i64 0, .i .i64 0, .i .i64 0]⟩,
             ⟨none, .store 8 (.t 29) (.t 163)⟩,
             ⟨none, .mv 30 (.t 164)⟩])
           (.seq (.reg [⟨none, .load 165 4 true (.t 27)⟩,
              ⟨none, .call (some 166) n_rational_Neg [.t 165]⟩,
              ⟨none, .load 167 8 true (.t 29)⟩,
              ⟨none, .build 168 [.b false, .nil, .b false, .nil, .i .i64 0, .i .i64 0, .i .i64 0, .i .i64 0, .i .i64 0, .i .i64 0, .i .i64 0, .i .i64 0] [(0, 4, .t 166), (4, 8, .t 167)]⟩,
              ⟨none, .bslice 169 1 12 [.b false, .sl 0 [], .b false, .sl 0 [], .i .i64 0, .i .i64 0, .i .i64 0, .i .i64 0, .i .i64 0, .i .i64 0, .i .i64 0, .i .i64 0] [(0, 12, .t 168)]⟩,
              ⟨none, .mv 31 (.t 169)⟩])
            (.seq (.reg [⟨none, .mv 170 (.t 11)⟩,
               ⟨none, .mv 171 (.t 22)⟩,
               ⟨none, .mv 172 (.t 11)⟩,
               ⟨none, .mv 173 (.t 22)⟩,
               ⟨none, .iaddrS 174 1 (.t 172) (.t 173)⟩,
               ⟨none, .load 175 1 false (.t 174)⟩,
               ⟨none, .mv 176 (.t 31)⟩,
               ⟨none, .call (some 177) n_polynomial_Add [.t 175, .t 176]⟩,
               ⟨none, .iaddrS 178 1 (.t 170) (.t 171)⟩,
               ⟨none, .store 1 (.t 178) (.t 177)⟩])
             (.seq (.reg [⟨none, .call (some 180) n_syzygy_constant [.c (.i .i64 (-1))]⟩,
                ⟨none, .mv 181 (.t 31)⟩,
                ⟨none, .call (some 182) n_polynomial_Mul [.t 180, .t 181]⟩,
                ⟨none, .mv 179 (.t 182)⟩,
                ⟨none, .ext 183 0 (.t 179)⟩,
                ⟨none, .ext 184 1 (.t 179)⟩,
                ⟨none, .mv 32 (.t 183)⟩,
                ⟨none, .mv 33 (.t 184)⟩])
              (.reg [⟨none, .mv 185 (.t 12)⟩,
                ⟨none, .mv 186 (.t 8)⟩,
                ⟨none, .mv 187 (.t 22)⟩,
                ⟨none, .iaddrS 188 1 (.t 186) (.t 187)⟩,
                ⟨none, .load 189 1 false (.t 188)⟩,
                ⟨none, .mv 190 (.t 32)⟩,
                ⟨none, .call (some 191) n_syzygy_vector_scaled [.t 189, .t 190]⟩,
                ⟨none, .bslice 192 1 1 [.sl 0 []] [(0, 1, .t 191)]⟩,
                ⟨none, .call (some 193) n_syzygy_vector_plus [.t 185, .t 192]⟩,
                ⟨none, .mv 12 (.t 193)⟩]))))))))))))))
def c_syzygy_Express : Fun := ⟨3, [.t 6, .t 7],
 .seq (.reg [⟨none, .mv 6 (.c (.nil))⟩,
   ⟨none, .mv 7 (.c (.i .i64 0))⟩])
 (.seq (.reg [⟨none, .mv 35 (.t 1)⟩,
    ⟨none, .mv 36 (.t 2)⟩,
    ⟨none, .call (some 37) n_syzygy_Schreyer [.t 35, .t 36]⟩,
    ⟨none, .mv 34 (.t 37)⟩,
    ⟨none, .ext 38 0 (.t 34)⟩,
    ⟨none, .ext 39 1 (.t 34)⟩,
    ⟨none, .mv 8 (.t 38)⟩,
    ⟨none, .mv 9 (.t 39)⟩])
  (.seq (.seq (.reg [⟨none, .mv 40 (.t 9)⟩,
      ⟨none, .bin 41 .neq (.t 40) (.c (.i .i64 0))⟩])
    (.cond (.t 41) (.seq (.reg [⟨none, .mv 42 (.t 9)⟩,
        ⟨none, .mv 6 (.c (.nil))⟩,
        ⟨none, .mv 7 (.t 42)⟩])
      (.ret))
     (.skip)))
   (.seq (.seq (.reg [⟨none, .mv 43 (.t 0)⟩,
       ⟨none, .mv 44 (.t 1)⟩,
       ⟨none, .call (some 45) n_syzygy_Is [.t 43, .t 44]⟩,
       ⟨none, .un 46 .not (.t 45)⟩])
     (.cond (.t 46) (.seq (.reg [⟨none, .mv 6 (.c (.nil))⟩,
         ⟨none, .mv 7 (.c (.i .i64 1))⟩])
       (.ret))
      (.skip)))
    (.seq (.reg [⟨none, .mv 47 (.t 1)⟩,
       ⟨none, .mv 48 (.t 2)⟩,
       ⟨none, .call (some 49) n_syzygy_leads [.t 47, .t 48]⟩,
       ⟨none, .mv 10 (.t 49)⟩])
     (.seq (.reg [⟨none, .mv 50 (.t 8)⟩,
        ⟨none, .len 51 (.t 50)⟩,
        ⟨none, .mkslice 52 1 [.sl 0 []] (.t 51) (.t 51)⟩,
        ⟨none, .mv 11 (.t 52)⟩])
      (.seq (.reg [⟨none, .mv 53 (.t 0)⟩,
         ⟨none, .mv 12 (.t 53)⟩])
       (.block 0 (.loop l_syzygy_Express_2))))))))⟩
/- eliminant/syzygy.Schreyer -/
def l_syzygy_Schreyer_0 : C :=
 .seq (.seq (.reg [⟨none, .mv 38 (.t 9)⟩,
    ⟨none, .mv 39 (.t 0)⟩,
    ⟨none, .len 40 (.t 39)⟩,
    ⟨none, .bin 41 .lss (.t 38) (.t 40)⟩])
  (.cond (.t 41) (.skip)
   (.exit 2)))
 (.seq (.block 3 (.seq (.reg [⟨none, .mv 44 (.t 7)⟩,
      ⟨none, .mv 45 (.t 8)⟩,
      ⟨none, .iaddrS 46 12 (.t 44) (.t 45)⟩,
      ⟨none, .faddr 47 4 (.t 46)⟩,
      ⟨none, .load 48 8 true (.t 47)⟩,
      ⟨none, .mv 49 (.t 7)⟩,
      ⟨none, .mv 50 (.t 9)⟩,
      ⟨none, .iaddrS 51 12 (.t 49) (.t 50)⟩,
      ⟨none, .faddr 52 4 (.t 51)⟩,
      ⟨none, .load 53 8 true (.t 52)⟩,
      ⟨none, .call (some 54) n_monomial_Lcm [.t 48, .t 53]⟩,
      ⟨none, .alloc 10 [.i .i64 0, .i .i64 0, .i .i64 0, .i .i64 0, .i .i64 0, .i .i64 0, .i .i64 0, .i .i64 0]⟩,
      ⟨none, .store 8 (.t 10) (.t 54)⟩])
    (.seq (.reg [⟨none, .mv 56 (.t 0)⟩,
       ⟨none, .mv 57 (.t 8)⟩,
       ⟨none, .iaddrS 58 1 (.t 56) (.t 57)⟩,
       ⟨none, .load 59 1 false (.t 58)⟩,
       ⟨none, .mv 60 (.t 0)⟩,
       ⟨none, .mv 61 (.t 9)⟩,
       ⟨none, .iaddrS 62 1 (.t 60) (.t 61)⟩,
       ⟨none, .load 63 1 false (.t 62)⟩,
       ⟨none, .mv 64 (.t 1)⟩,
       ⟨none, .call (some 65) n_division_Spair [.t 59, .t 63, .t 64]⟩,
       ⟨none, .mv 55 (.t 65)⟩,
       ⟨none, .ext 66 0 (.t 55)⟩,
       ⟨none, .ext 67 1 (.t 55)⟩,
       ⟨none, .mv 11 (.t 66)⟩,
       ⟨none, .mv 12 (.t 67)⟩])
     (.seq (.reg [⟨none, .mv 69 (.t 11)⟩,
        ⟨none, .mv 70 (.t 0)⟩,
        ⟨none, .mv 71 (.t 1)⟩,
        ⟨none, .call (some 72) n_division_Divide [.t 69, .t 70, .t 71]⟩,
        ⟨none, .mv 68 (.t 72)⟩,
        ⟨none, .ext 73 0 (.t 68)⟩,
        ⟨none, .ext 74 1 (.t 68)⟩,
        ⟨none, .ext 75 2 (.t 68)⟩,
        ⟨none, .mv 13 (.t 73)⟩,
        ⟨none, .mv 14 (.t 74)⟩,
        ⟨none, .mv 15 (.t 75)⟩])
      (.seq (.reg [⟨none, .mv 76 (.t 13)⟩,
         ⟨none, .call (some 77) n_syzygy_constant [.c (.i .i64 (-1))]⟩,
         ⟨none, .call (some 78) n_syzygy_vector_scaled [.t 76, .t 77]⟩,
         ⟨none, .mv 16 (.t 78)⟩])
       (.seq (.reg [⟨none, .mv 79 (.t 16)⟩,
          ⟨none, .mv 80 (.t 8)⟩,
          ⟨none, .mv 81 (.t 16)⟩,
          ⟨none, .mv 82 (.t 8)⟩,
          ⟨none, .iaddrS 83 1 (.t 81) (.t 82)⟩,
          ⟨none, .load 84 1 false (.t 83)⟩,
          ⟨none, .load 85 8 true (.t 10)⟩,
          ⟨none, .mv 86 (.t 7)⟩,
          ⟨none, .mv 87 (.t 8)⟩,
          ⟨none, .iaddrS 88 12 (.t 86) (.t 87)⟩,
          ⟨none, .load 89 12 true (.t 88)⟩,
          ⟨none, .call (some 90) n_syzygy_quotient [.t 85, .t 89]⟩,
          ⟨none, .call (some 91) n_polynomial_Add [.t 84, .t 90]⟩,
          ⟨none, .iaddrS 92 1 (.t 79) (.t 80)⟩,
          ⟨none, .store 1 (.t 92) (.t 91)⟩])
        (.seq (.reg [⟨none, .mv 93 (.t 16)⟩,
           ⟨none, .mv 94 (.t 9)⟩,
           ⟨none, .mv 95 (.t 16)⟩,
           ⟨none, .mv 96 (.t 9)⟩,
           ⟨none, .iaddrS 97 1 (.t 95) (.t 96)⟩,
           ⟨none, .load 98 1 false (.t 97)⟩,
           ⟨none, .load 99 8 true (.t 10)⟩,
           ⟨none, .mv 100 (.t 7)⟩,
           ⟨none, .mv 101 (.t 9)⟩,
           ⟨none, .iaddrS 102 12 (.t 100) (.t 101)⟩,
           ⟨none, .load 103 12 true (.t 102)⟩,
           ⟨none, .call (some 104) n_syzygy_quotient [.t 99, .t 103]⟩,
           ⟨none, .call (some 105) n_polynomial_Sub [.t 98, .t 104]⟩,
           ⟨none, .iaddrS 106 1 (.t 93) (.t 94)⟩,
           ⟨none, .store 1 (.t 106) (.t 105)⟩])
         (.reg [⟨none, .mv 107 (.t 6)⟩,
           ⟨none, .mv 108 (.t 16)⟩,
           ⟨none, .bslice 109 1 1 [.sl 0 []] [(0, 1, .t 108)]⟩,
           ⟨none, .append 110 1 24 (.t 107) (.t 109)⟩,
           ⟨none, .mv 6 (.t 110)⟩]))))))))
  (.reg [⟨none, .mv 42 (.t 9)⟩,
    ⟨none, .bin 43 .add (.t 42) (.c (.i .i64 1))⟩,
    ⟨none, .mv 9 (.t 43)⟩]))
def l_syzygy_Schreyer_1 : C :=
 .seq (.reg [⟨none, .bin 34 .lss (.t 33) (.t 32)⟩])
 (.seq (.cond (.t 34) (.skip)
   (.exit 0))
  (.seq (.block 1 (.seq (.reg [⟨none, .mv 35 (.t 33)⟩,
       ⟨none, .mv 8 (.t 35)⟩])
     (.seq (.reg [⟨none, .mv 36 (.t 8)⟩,
        ⟨none, .bin 37 .add (.t 36) (.c (.i .i64 1))⟩,
        ⟨none, .mv 9 (.t 37)⟩])
      (.block 2 (.loop l_syzygy_Schreyer_0)))))
   (.reg [⟨none, .bin 111 .add (.t 33) (.c (.i .i64 1))⟩,
     ⟨none, .mv 33 (.t 111)⟩])))
def c_syzygy_Schreyer : Fun := ⟨2, [.t 4, .t 5],
 .seq (.reg [⟨none, .mv 4 (.c (.nil))⟩,
   ⟨none, .mv 5 (.c (.i .i64 0))⟩])
 (.seq (.seq (.reg [⟨none, .mv 17 (.t 1)⟩,
     ⟨none, .call (some 18) n_order_Valid [.t 17]⟩,
     ⟨none, .un 19 .not (.t 18)⟩])
   (.cond (.t 19) (.seq (.reg [⟨none, .mv 4 (.c (.nil))⟩,
       ⟨none, .mv 5 (.c (.i .i64 50))⟩])
     (.ret))
    (.skip)))
  (.seq (.seq (.reg [⟨none, .mv 20 (.t 0)⟩,
      ⟨none, .call (some 21) n_slices_ContainsFunc_api_Poly_api_Poly [.t 20, .c (.fn n_syzygy_Schreyer_1 [])]⟩,
      ⟨none, .mv 22 (.t 21)⟩,
      ⟨some (22, false, 23), .mv 23 (.t 0)⟩,
      ⟨some (22, false, 24), .mv 24 (.t 1)⟩,
      ⟨some (22, false, 25), .call (some 25) n_division_IsBasis [.t 23, .t 24]⟩,
      ⟨some (22, false, 26), .un 26 .not (.t 25)⟩,
      ⟨none, .pick 27 (.t 22) (.c (.b true)) (.t 26)⟩])
    (.cond (.t 27) (.seq (.reg [⟨none, .mv 4 (.c (.nil))⟩,
        ⟨none, .mv 5 (.c (.i .i64 120))⟩])
      (.ret))
     (.skip)))
   (.seq (.reg [⟨none, .mv 6 (.c (.nil))⟩])
    (.seq (.reg [⟨none, .mv 28 (.t 0)⟩,
       ⟨none, .mv 29 (.t 1)⟩,
       ⟨none, .call (some 30) n_syzygy_leads [.t 28, .t 29]⟩,
       ⟨none, .mv 7 (.t 30)⟩])
     (.seq (.seq (.reg [⟨none, .mv 31 (.t 0)⟩,
         ⟨none, .len 32 (.t 31)⟩,
         ⟨none, .mv 33 (.c (.i .i64 0))⟩])
       (.block 0 (.loop l_syzygy_Schreyer_1)))
      (.seq (.reg [⟨none, .mv 112 (.t 6)⟩,
         ⟨none, .mv 4 (.t 112)⟩,
         ⟨none, .mv 5 (.c (.i .i64 0))⟩])
       (.ret)))))))⟩
/- eliminant/eliminantref06.Constant -/
def c_ref06_Constant : Fun := ⟨1, [.t 2],
 .seq (.reg [⟨none, .box 1 4 (.t 0)⟩,
   ⟨none, .mv 2 (.c (.nil))⟩])
 (.seq (.seq (.reg [⟨none, .load 3 4 true (.t 1)⟩,
     ⟨none, .call (some 4) n_ref02_Sign [.t 3]⟩,
     ⟨none, .bin 5 .eql (.t 4) (.c (.i .i64 0))⟩])
   (.cond (.t 5) (.seq (.reg [⟨none, .mv 2 (.c (.nil))⟩])
     (.ret))
    (.skip)))
  (.seq (.reg [⟨none, .load 6 4 true (.t 1)⟩,
     ⟨none, .build 7 [.b false, .nil, .b false, .nil, .i .i64 0, .i .i64 0, .i .i64 0, .i .i64 0, .i .i64 0, .i .i64 0, .i .i64 0, .i .i64 0] [(0, 4, .t 6)]⟩,
     ⟨none, .bslice 8 1 12 [.b false, .sl 0 [], .b false, .sl 0 [], .i .i64 0, .i .i64 0, .i .i64 0, .i .i64 0, .i .i64 0, .i .i64 0, .i .i64 0, .i .i64 0] [(0, 12, .t 7)]⟩,
     ⟨none, .mv 2 (.t 8)⟩])
   (.ret)))⟩
/- eliminant/eliminantref06.Var -/
def c_ref06_Var : Fun := ⟨1, [.t 2, .t 3],
 .seq (.reg [⟨none, .mv 2 (.c (.nil))⟩,
   ⟨none, .mv 3 (.c (.i .i64 0))⟩])
 (.seq (.seq (.reg [⟨none, .mv 5 (.t 0)⟩,
     ⟨none, .bin 6 .lss (.t 5) (.c (.i .i64 0))⟩,
     ⟨none, .mv 7 (.t 6)⟩,
     ⟨some (7, false, 8), .mv 8 (.t 0)⟩,
     ⟨some (7, false, 9), .bin 9 .geq (.t 8) (.c (.i .i64 8))⟩,
     ⟨none, .pick 10 (.t 7) (.c (.b true)) (.t 9)⟩])
   (.cond (.t 10) (.seq (.reg [⟨none, .mv 2 (.c (.nil))⟩,
       ⟨none, .mv 3 (.c (.i .i64 1))⟩])
     (.ret))
    (.skip)))
  (.seq (.reg [⟨none, .build 11 [.i .i64 0, .i .i64 0, .i .i64 0, .i .i64 0, .i .i64 0, .i .i64 0, .i .i64 0, .i .i64 0] []⟩,
     ⟨none, .alloc 4 [.i .i64 0, .i .i64 0, .i .i64 0, .i .i64 0, .i .i64 0, .i .i64 0, .i .i64 0, .i .i64 0]⟩,
     ⟨none, .store 8 (.t 4) (.t 11)⟩])
   (.seq (.reg [⟨none, .mv 12 (.t 0)⟩,
      ⟨none, .iaddrA 13 8 1 (.t 4) (.t 12)⟩,
      ⟨none, .store 1 (.t 13) (.c (.i .i64 1))⟩])
    (.seq (.reg [⟨none, .call (some 14) n_ref02_Whole [.c (.i .i64 1)]⟩,
       ⟨none, .load 15 8 true (.t 4)⟩,
       ⟨none, .build 16 [.b false, .nil, .b false, .nil, .i .i64 0, .i .i64 0, .i .i64 0, .i .i64 0, .i .i64 0, .i .i64 0, .i .i64 0, .i .i64 0] [(0, 4, .t 14), (4, 8, .t 15)]⟩,
       ⟨none, .bslice 17 1 12 [.b false, .sl 0 [], .b false, .sl 0 [], .i .i64 0, .i .i64 0, .i .i64 0, .i .i64 0, .i .i64 0, .i .i64 0, .i .i64 0, .i .i64 0] [(0, 12, .t 16)]⟩,
       ⟨none, .mv 2 (.t 17)⟩,
       ⟨none, .mv 3 (.c (.i .i64 0))⟩])
     (.ret)))))⟩
/- eliminant/monomial.Lcm -/
def c_monomial_Lcm : Fun := ⟨2, [.c 4 8 true],
 .seq (.reg [⟨none, .box 2 8 (.t 0)⟩,
   ⟨none, .box 3 8 (.t 1)⟩,
   ⟨none, .alloc 4 [.i .i64 0, .i .i64 0, .i .i64 0, .i .i64 0, .i .i64 0, .i .i64 0, .i .i64 0, .i .i64 0]⟩])
 (.seq (.reg [⟨none, .load 5 8 true (.t 2)⟩,
    ⟨none, .load 6 8 true (.t 3)⟩,
    ⟨none, .call (some 7) n_monomial_each [.t 5, .t 6, .c (.fn n_monomial_Lcm_1 [])]⟩,
    ⟨none, .store 8 (.t 4) (.t 7)⟩])
  (.ret))⟩
/- eliminant/monomial.Quo -/
def c_monomial_Quo : Fun := ⟨2, [.c 4 8 true, .t 5],
 .seq (.reg [⟨none, .box 2 8 (.t 0)⟩,
   ⟨none, .box 3 8 (.t 1)⟩,
   ⟨none, .alloc 4 [.i .i64 0, .i .i64 0, .i .i64 0, .i .i64 0, .i .i64 0, .i .i64 0, .i .i64 0, .i .i64 0]⟩,
   ⟨none, .mv 5 (.c (.b false))⟩])
 (.seq (.seq (.reg [⟨none, .load 6 8 true (.t 3)⟩,
     ⟨none, .load 7 8 true (.t 2)⟩,
     ⟨none, .call (some 8) n_monomial_Divides [.t 6, .t 7]⟩,
     ⟨none, .un 9 .not (.t 8)⟩])
   (.cond (.t 9) (.seq (.reg [⟨none, .build 10 [.i .i64 0, .i .i64 0, .i .i64 0, .i .i64 0, .i .i64 0, .i .i64 0, .i .i64 0, .i .i64 0] []⟩,
       ⟨none, .store 8 (.t 4) (.t 10)⟩,
       ⟨none, .mv 5 (.c (.b false))⟩])
     (.ret))
    (.skip)))
  (.seq (.reg [⟨none, .load 11 8 true (.t 2)⟩,
     ⟨none, .load 12 8 true (.t 3)⟩,
     ⟨none, .call (some 13) n_monomial_each [.t 11, .t 12, .c (.fn n_monomial_Quo_1 [])]⟩,
     ⟨none, .store 8 (.t 4) (.t 13)⟩,
     ⟨none, .mv 5 (.c (.b true))⟩])
   (.ret)))⟩
/- eliminant/order.Cmp -/
def l_order_Cmp_0 : C :=
 .seq (.reg [⟨none, .bin 23 .lss (.t 22) (.c (.i .i64 8))⟩])
 (.seq (.cond (.t 23) (.skip)
   (.exit 2))
  (.seq (.block 3 (.seq (.reg [⟨none, .mv 24 (.t 22)⟩,
       ⟨none, .idx 25 8 1 false (.t 21) (.t 22)⟩,
       ⟨none, .mv 10 (.t 24)⟩,
       ⟨none, .mv 11 (.t 25)⟩])
     (.reg [⟨none, .mv 26 (.t 9)⟩,
       ⟨none, .mv 27 (.t 11)⟩,
       ⟨none, .mv 28 (.t 10)⟩,
       ⟨none, .iaddrA 29 8 1 (.t 4) (.t 28)⟩,
       ⟨none, .load 30 1 false (.t 29)⟩,
       ⟨none, .mv 31 (.t 10)⟩,
       ⟨none, .iaddrA 32 8 1 (.t 5) (.t 31)⟩,
       ⟨none, .load 33 1 false (.t 32)⟩,
       ⟨none, .bin 34 .sub (.t 30) (.t 33)⟩,
       ⟨none, .bin 35 .mul (.t 27) (.t 34)⟩,
       ⟨none, .bin 36 .add (.t 26) (.t 35)⟩,
       ⟨none, .mv 9 (.t 36)⟩])))
   (.reg [⟨none, .bin 37 .add (.t 22) (.c (.i .i64 1))⟩,
     ⟨none, .mv 22 (.t 37)⟩])))
def l_order_Cmp_1 : C :=
 .seq (.reg [⟨none, .bin 18 .lss (.t 17) (.t 16)⟩])
 (.seq (.cond (.t 18) (.skip)
   (.exit 0))
  (.seq (.block 1 (.seq (.reg [⟨none, .iaddrS 19 8 (.t 15) (.t 17)⟩,
       ⟨none, .load 20 8 true (.t 19)⟩,
       ⟨none, .alloc 8 [.i .i64 0, .i .i64 0, .i .i64 0, .i .i64 0, .i .i64 0, .i .i64 0, .i .i64 0, .i .i64 0]⟩,
       ⟨none, .store 8 (.t 8) (.t 20)⟩])
     (.seq (.reg [⟨none, .mv 9 (.c (.i .i64 0))⟩])
      (.seq (.seq (.reg [⟨none, .load 21 8 true (.t 8)⟩,
          ⟨none, .mv 22 (.c (.i .i64 0))⟩])
        (.block 2 (.loop l_order_Cmp_0)))
       (.block 4 (.seq (.reg [⟨none, .mv 39 (.t 9)⟩,
           ⟨none, .bin 40 .lss (.t 39) (.c (.i .i64 0))⟩,
           ⟨none, .mv 38 (.t 40)⟩])
         (.cond (.t 38) (.seq (.reg [⟨none, .mv 6 (.c (.i .i64 (-1)))⟩])
           (.ret))
          (.seq (.reg [⟨none, .mv 42 (.t 9)⟩,
             ⟨none, .bin 43 .gtr (.t 42) (.c (.i .i64 0))⟩,
             ⟨none, .mv 41 (.t 43)⟩])
           (.cond (.t 41) (.seq (.reg [⟨none, .mv 6 (.c (.i .i64 1))⟩])
             (.ret))
            (.skip))))))))))
   (.reg [⟨none, .bin 44 .add (.t 17) (.c (.i .i64 1))⟩,
     ⟨none, .mv 17 (.t 44)⟩])))
def c_order_Cmp : Fun := ⟨3, [.t 6],
 .seq (.reg [⟨none, .box 4 8 (.t 1)⟩,
   ⟨none, .box 5 8 (.t 2)⟩,
   ⟨none, .mv 6 (.c (.i .i64 0))⟩])
 (.seq (.seq (.reg [⟨none, .load 12 8 true (.t 4)⟩,
     ⟨none, .load 13 8 true (.t 5)⟩,
     ⟨none, .eqa 14 8 false (.t 12) (.t 13)⟩])
   (.cond (.t 14) (.seq (.reg [⟨none, .mv 6 (.c (.i .i64 0))⟩])
     (.ret))
    (.skip)))
  (.seq (.seq (.reg [⟨none, .mv 15 (.t 0)⟩,
      ⟨none, .len 16 (.t 15)⟩,
      ⟨none, .mv 17 (.c (.i .i64 0))⟩])
    (.block 0 (.loop l_order_Cmp_1)))
   (.seq (.reg [⟨none, .load 45 8 true (.t 4)⟩,
      ⟨none, .load 46 8 true (.t 5)⟩,
      ⟨none, .call (some 47) n_monomial_Cmp [.t 45, .t 46]⟩,
      ⟨none, .mv 6 (.t 47)⟩])
    (.ret))))⟩
/- eliminant/polynomial.Lead -/
def c_polynomial_Lead : Fun := ⟨2, [.c 4 12 true, .t 5],
 .seq (.reg [⟨none, .box 3 1 (.t 1)⟩,
   ⟨none, .alloc 4 [.b false, .nil, .b false, .nil, .i .i64 0, .i .i64 0, .i .i64 0, .i .i64 0, .i .i64 0, .i .i64 0, .i .i64 0, .i .i64 0]⟩,
   ⟨none, .mv 5 (.c (.b false))⟩])
 (.seq (.seq (.reg [⟨none, .mv 6 (.t 0)⟩,
     ⟨none, .len 7 (.t 6)⟩,
     ⟨none, .bin 8 .eql (.t 7) (.c (.i .i64 0))⟩])
   (.cond (.t 8) (.seq (.reg [⟨none, .build 9 [.b false, .nil, .b false, .nil, .i .i64 0, .i .i64 0, .i .i64 0, .i .i64 0, .i .i64 0, .i .i64 0, .i .i64 0, .i .i64 0] []⟩,
       ⟨none, .store 12 (.t 4) (.t 9)⟩,
       ⟨none, .mv 5 (.c (.b false))⟩])
     (.ret))
    (.skip)))
  (.seq (.reg [⟨none, .mv 10 (.t 0)⟩,
     ⟨none, .mkfn 11 n_polynomial_Lead_1 [.t 3]⟩,
     ⟨none, .call (some 12) n_slices_MaxFunc_api_Poly_api_Term [.t 10, .t 11]⟩,
     ⟨none, .store 12 (.t 4) (.t 12)⟩,
     ⟨none, .mv 5 (.c (.b true))⟩])
   (.ret)))⟩
/- eliminant/syzygy.constant -/
def c_syzygy_constant : Fun := ⟨1, [.t 2],
 .seq (.reg [⟨none, .mv 2 (.c (.nil))⟩])
 (.seq (.reg [⟨none, .mv 3 (.t 0)⟩,
    ⟨none, .call (some 4) n_rational_Whole [.t 3]⟩,
    ⟨none, .call (some 5) n_polynomial_Constant [.t 4]⟩,
    ⟨none, .mv 2 (.t 5)⟩])
  (.ret))⟩
/- eliminant/syzygy.leads -/
def l_syzygy_leads_0 : C :=
 .seq (.reg [⟨none, .bin 14 .lss (.t 13) (.t 12)⟩])
 (.seq (.cond (.t 14) (.skip)
   (.exit 0))
  (.seq (.block 1 (.seq (.reg [⟨none, .mv 15 (.t 13)⟩,
       ⟨none, .iaddrS 16 1 (.t 11) (.t 13)⟩,
       ⟨none, .load 17 1 false (.t 16)⟩,
       ⟨none, .mv 6 (.t 15)⟩,
       ⟨none, .mv 7 (.t 17)⟩])
     (.reg [⟨none, .mv 19 (.t 5)⟩,
       ⟨none, .mv 20 (.t 6)⟩,
       ⟨none, .mv 21 (.t 7)⟩,
       ⟨none, .mv 22 (.t 1)⟩,
       ⟨none, .call (some 23) n_polynomial_Lead [.t 21, .t 22]⟩,
       ⟨none, .mv 18 (.t 23)⟩,
       ⟨none, .ext 24 0 (.t 18)⟩,
       ⟨none, .ext 25 1 (.t 18)⟩,
       ⟨none, .iaddrS 26 12 (.t 19) (.t 20)⟩,
       ⟨none, .store 12 (.t 26) (.t 24)⟩])))
   (.reg [⟨none, .bin 27 .add (.t 13) (.c (.i .i64 1))⟩,
     ⟨none, .mv 13 (.t 27)⟩])))
def c_syzygy_leads : Fun := ⟨2, [.t 4],
 .seq (.reg [⟨none, .mv 4 (.c (.nil))⟩])
 (.seq (.reg [⟨none, .mv 8 (.t 0)⟩,
    ⟨none, .len 9 (.t 8)⟩,
    ⟨none, .mkslice 10 12 [.b false, .sl 0 [], .b false, .sl 0 [], .i .i64 0, .i .i64 0, .i .i64 0, .i .i64 0, .i .i64 0, .i .i64 0, .i .i64 0, .i .i64 0] (.t 9) (.t 9)⟩,
    ⟨none, .mv 5 (.t 10)⟩])
  (.seq (.seq (.reg [⟨none, .mv 11 (.t 0)⟩,
      ⟨none, .len 12 (.t 11)⟩,
      ⟨none, .mv 13 (.c (.i .i64 0))⟩])
    (.block 0 (.loop l_syzygy_leads_0)))
   (.seq (.reg [⟨none, .mv 28 (.t 5)⟩,
      ⟨none, .mv 4 (.t 28)⟩])
    (.ret))))⟩
/- eliminant/syzygy.quotient -/
def c_syzygy_quotient : Fun := ⟨2, [.t 4],
 .seq (.reg [⟨none, .box 2 8 (.t 0)⟩,
   ⟨none, .box 3 12 (.t 1)⟩,
   ⟨none, .mv 4 (.c (.nil))⟩])
 (.seq (.reg [⟨none, .faddr 10 0 (.t 3)⟩,
    ⟨none, .load 11 4 true (.t 10)⟩,
    ⟨none, .call (some 12) n_rational_Inv [.t 11]⟩,
    ⟨none, .mv 9 (.t 12)⟩,
    ⟨none, .ext 13 0 (.t 9)⟩,
    ⟨none, .ext 14 1 (.t 9)⟩,
    ⟨none, .alloc 5 [.b false, .nil, .b false, .nil]⟩,
    ⟨none, .store 4 (.t 5) (.t 13)⟩,
    ⟨none, .mv 6 (.t 14)⟩])
  (.seq (.reg [⟨none, .load 16 8 true (.t 2)⟩,
     ⟨none, .faddr 17 4 (.t 3)⟩,
     ⟨none, .load 18 8 true (.t 17)⟩,
     ⟨none, .call (some 19) n_monomial_Quo [.t 16, .t 18]⟩,
     ⟨none, .mv 15 (.t 19)⟩,
     ⟨none, .ext 20 0 (.t 15)⟩,
     ⟨none, .ext 21 1 (.t 15)⟩,
     ⟨none, .alloc 7 [.i .i64 0, .i .i64 0, .i .i64 0, .i .i64 0, .i .i64 0, .i .i64 0, .i .i64 0, .i .i64 0]⟩,
     ⟨none, .store 8 (.t 7) (.t 20)⟩,
     ⟨none, .mv 8 (.t 21)⟩])
   (.seq (.reg [⟨none, .load 22 4 true (.t 5)⟩,
      ⟨none, .load 23 8 true (.t 7)⟩,
      ⟨none, .build 24 [.b false, .nil, .b false, .nil, .i .i64 0, .i .i64 0, .i .i64 0, .i .i64 0, .i .i64 0, .i .i64 0, .i .i64 0, .i .i64 0] [(0, 4, .t 22), (4, 8, .t 23)]⟩,
      ⟨none, .bslice 25 1 12 [.b false, .sl 0 [], .b false, .sl 0 [], .i .i64 0, .i .i64 0, .i .i64 0, .i .i64 0, .i .i64 0, .i .i64 0, .i .i64 0, .i .i64 0] [(0, 12, .t 24)]⟩,
      ⟨none, .mv 4 (.t 25)⟩])
    (.ret))))⟩
/- (eliminant/syzygy.vector).plus -/
def l_syzygy_vector_plus_0 : C :=
 .seq (.reg [⟨none, .bin 20 .lss (.t 19) (.t 18)⟩])
 (.seq (.cond (.t 20) (.skip)
   (.exit 2))
  (.seq (.block 3 (.seq (.reg [⟨none, .mv 21 (.t 19)⟩,
       ⟨none, .mv 8 (.t 21)⟩])
     (.reg [⟨none, .mv 22 (.t 5)⟩,
       ⟨none, .mv 23 (.t 8)⟩,
       ⟨none, .mv 24 (.t 5)⟩,
       ⟨none, .mv 25 (.t 8)⟩,
       ⟨none, .iaddrS 26 1 (.t 24) (.t 25)⟩,
       ⟨none, .load 27 1 false (.t 26)⟩,
       ⟨none, .mv 28 (.t 7)⟩,
       ⟨none, .mv 29 (.t 8)⟩,
       ⟨none, .iaddrS 30 1 (.t 28) (.t 29)⟩,
       ⟨none, .load 31 1 false (.t 30)⟩,
       ⟨none, .call (some 32) n_polynomial_Add [.t 27, .t 31]⟩,
       ⟨none, .iaddrS 33 1 (.t 22) (.t 23)⟩,
       ⟨none, .store 1 (.t 33) (.t 32)⟩])))
   (.reg [⟨none, .bin 34 .add (.t 19) (.c (.i .i64 1))⟩,
     ⟨none, .mv 19 (.t 34)⟩])))
def l_syzygy_vector_plus_1 : C :=
 .seq (.reg [⟨none, .bin 14 .lss (.t 13) (.t 12)⟩])
 (.seq (.cond (.t 14) (.skip)
   (.exit 0))
  (.seq (.block 1 (.seq (.reg [⟨none, .iaddrS 15 1 (.t 11) (.t 13)⟩,
       ⟨none, .load 16 1 false (.t 15)⟩,
       ⟨none, .mv 7 (.t 16)⟩])
     (.seq (.reg [⟨none, .mv 17 (.t 5)⟩,
        ⟨none, .len 18 (.t 17)⟩,
        ⟨none, .mv 19 (.c (.i .i64 0))⟩])
      (.block 2 (.loop l_syzygy_vector_plus_0)))))
   (.reg [⟨none, .bin 35 .add (.t 13) (.c (.i .i64 1))⟩,
     ⟨none, .mv 13 (.t 35)⟩])))
def c_syzygy_vector_plus : Fun := ⟨2, [.t 4],
 .seq (.reg [⟨none, .mv 4 (.c (.nil))⟩])
 (.seq (.reg [⟨none, .mv 9 (.t 0)⟩,
    ⟨none, .call (some 10) n_slices_Clone_syzygy_vector_api_Poly [.t 9]⟩,
    ⟨none, .mv 5 (.t 10)⟩])
  (.seq (.seq (.reg [⟨none, .mv 11 (.t 1)⟩,
      ⟨none, .len 12 (.t 11)⟩,
      ⟨none, .mv 13 (.c (.i .i64 0))⟩])
    (.block 0 (.loop l_syzygy_vector_plus_1)))
   (.seq (.reg [⟨none, .mv 36 (.t 5)⟩,
      ⟨none, .mv 4 (.t 36)⟩])
    (.ret))))⟩
/- (eliminant/syzygy.vector).scaled -/
def l_syzygy_vector_scaled_0 : C :=
 .seq (.reg [⟨none, .bin 13 .lss (.t 12) (.t 11)⟩])
 (.seq (.cond (.t 13) (.skip)
   (.exit 0))
  (.seq (.block 1 (.seq (.reg [⟨none, .mv 14 (.t 12)⟩,
       ⟨none, .mv 6 (.t 14)⟩])
     (.reg [⟨none, .mv 16 (.t 5)⟩,
       ⟨none, .mv 17 (.t 6)⟩,
       ⟨none, .mv 18 (.t 1)⟩,
       ⟨none, .mv 19 (.t 0)⟩,
       ⟨none, .mv 20 (.t 6)⟩,
       ⟨none, .iaddrS 21 1 (.t 19) (.t 20)⟩,
       ⟨none, .load 22 1 false (.t 21)⟩,
       ⟨none, .call (some 23) n_polynomial_Mul [.t 18, .t 22]⟩,
       ⟨none, .mv 15 (.t 23)⟩,
       ⟨none, .ext 24 0 (.t 15)⟩,
       ⟨none, .ext 25 1 (.t 15)⟩,
       ⟨none, .iaddrS 26 1 (.t 16) (.t 17)⟩,
       ⟨none, .store 1 (.t 26) (.t 24)⟩])))
   (.reg [⟨none, .bin 27 .add (.t 12) (.c (.i .i64 1))⟩,
     ⟨none, .mv 12 (.t 27)⟩])))
def c_syzygy_vector_scaled : Fun := ⟨2, [.t 4],
 .seq (.reg [⟨none, .mv 4 (.c (.nil))⟩])
 (.seq (.reg [⟨none, .mv 7 (.t 0)⟩,
    ⟨none, .len 8 (.t 7)⟩,
    ⟨none, .mkslice 9 1 [.sl 0 []] (.t 8) (.t 8)⟩,
    ⟨none, .mv 5 (.t 9)⟩])
  (.seq (.seq (.reg [⟨none, .mv 10 (.t 0)⟩,
      ⟨none, .len 11 (.t 10)⟩,
      ⟨none, .mv 12 (.c (.i .i64 0))⟩])
    (.block 0 (.loop l_syzygy_vector_scaled_0)))
   (.seq (.reg [⟨none, .mv 28 (.t 5)⟩,
      ⟨none, .mv 4 (.t 28)⟩])
    (.ret))))⟩
/- eliminant/division.Divide -/
def c_division_Divide : Fun := ⟨3, [.t 6, .t 7, .t 8],
 .seq (.reg [⟨none, .mv 6 (.c (.nil))⟩,
   ⟨none, .mv 7 (.c (.nil))⟩,
   ⟨none, .mv 8 (.c (.i .i64 0))⟩])
 (.seq (.seq (.reg [⟨none, .mv 9 (.t 2)⟩,
     ⟨none, .call (some 10) n_order_Valid [.t 9]⟩,
     ⟨none, .un 11 .not (.t 10)⟩])
   (.cond (.t 11) (.seq (.reg [⟨none, .mv 6 (.c (.nil))⟩,
       ⟨none, .mv 7 (.c (.nil))⟩,
       ⟨none, .mv 8 (.c (.i .i64 50))⟩])
     (.ret))
    (.skip)))
  (.seq (.reg [⟨none, .mv 12 (.t 0)⟩,
     ⟨none, .mv 13 (.t 1)⟩,
     ⟨none, .mv 14 (.t 1)⟩,
     ⟨none, .mv 15 (.t 2)⟩,
     ⟨none, .call (some 16) n_division_leadsOf [.t 14, .t 15]⟩,
     ⟨none, .mv 17 (.t 2)⟩,
     ⟨none, .call (some 18) n_division_divide [.t 12, .t 13, .t 16, .t 17]⟩,
     ⟨none, .ext 19 0 (.t 18)⟩,
     ⟨none, .ext 20 1 (.t 18)⟩,
     ⟨none, .ext 21 2 (.t 18)⟩,
     ⟨none, .mv 6 (.t 19)⟩,
     ⟨none, .mv 7 (.t 20)⟩,
     ⟨none, .mv 8 (.t 21)⟩])
   (.ret)))⟩
/- eliminant/division.IsBasis -/
def c_division_IsBasis : Fun := ⟨2, [.c 4 1 false],
 .seq (.reg [⟨none, .box 2 1 (.t 0)⟩,
   ⟨none, .box 3 1 (.t 1)⟩,
   ⟨none, .alloc 4 [.b false]⟩])
 (.seq (.seq (.reg [⟨none, .load 15 1 false (.t 3)⟩,
     ⟨none, .call (some 16) n_order_Valid [.t 15]⟩,
     ⟨none, .un 17 .not (.t 16)⟩])
   (.cond (.t 17) (.seq (.reg [⟨none, .store 1 (.t 4) (.c (.b false))⟩])
     (.ret))
    (.skip)))
  (.seq (.reg [⟨none, .load 18 1 false (.t 2)⟩,
     ⟨none, .load 19 1 false (.t 3)⟩,
     ⟨none, .call (some 20) n_division_leadsOf [.t 18, .t 19]⟩,
     ⟨none, .alloc 5 [.nil]⟩,
     ⟨none, .store 1 (.t 5) (.t 20)⟩])
   (.seq (.seq (.reg [⟨none, .load 21 1 false (.t 2)⟩,
       ⟨none, .call (some 22) n_division_pairs [.t 21]⟩])
     (.block 0 (.fail)))
    (.seq (.reg [⟨none, .store 1 (.t 4) (.c (.b true))⟩])
     (.ret)))))⟩
/- eliminant/division.Spair -/
def c_division_Spair : Fun := ⟨3, [.t 6, .t 7],
 .seq (.reg [⟨none, .mv 6 (.c (.nil))⟩,
   ⟨none, .mv 7 (.c (.i .i64 0))⟩])
 (.seq (.seq (.reg [⟨none, .mv 17 (.t 2)⟩,
     ⟨none, .call (some 18) n_order_Valid [.t 17]⟩,
     ⟨none, .un 19 .not (.t 18)⟩])
   (.cond (.t 19) (.seq (.reg [⟨none, .mv 6 (.c (.nil))⟩,
       ⟨none, .mv 7 (.c (.i .i64 50))⟩])
     (.ret))
    (.skip)))
  (.seq (.reg [⟨none, .mv 20 (.t 0)⟩,
     ⟨none, .mv 21 (.t 2)⟩,
     ⟨none, .call (some 22) n_division_leadOf [.t 20, .t 21]⟩,
     ⟨none, .mv 23 (.t 1)⟩,
     ⟨none, .mv 24 (.t 2)⟩,
     ⟨none, .call (some 25) n_division_leadOf [.t 23, .t 24]⟩,
     ⟨none, .alloc 8 [.b false, .nil, .b false, .nil, .i .i64 0, .i .i64 0, .i .i64 0, .i .i64 0, .i .i64 0, .i .i64 0, .i .i64 0, .i .i64 0, .b false]⟩,
     ⟨none, .alloc 9 [.b false, .nil, .b false, .nil, .i .i64 0, .i .i64 0, .i .i64 0, .i .i64 0, .i .i64 0, .i .i64 0, .i .i64 0, .i .i64 0, .b false]⟩,
     ⟨none, .store 13 (.t 8) (.t 22)⟩,
     ⟨none, .store 13 (.t 9) (.t 25)⟩])
   (.seq (.seq (.reg [⟨none, .faddr 26 12 (.t 8)⟩,
       ⟨none, .load 27 1 false (.t 26)⟩,
       ⟨none, .un 28 .not (.t 27)⟩,
       ⟨none, .mv 29 (.t 28)⟩,
       ⟨some (29, false, 30), .faddr 30 12 (.t 9)⟩,
       ⟨some (29, false, 31), .load 31 1 false (.t 30)⟩,
       ⟨some (29, false, 32), .un 32 .not (.t 31)⟩,
       ⟨none, .pick 33 (.t 29) (.c (.b true)) (.t 32)⟩])
     (.cond (.t 33) (.seq (.reg [⟨none, .mv 6 (.c (.nil))⟩,
         ⟨none, .mv 7 (.c (.i .i64 10))⟩])
       (.ret))
      (.skip)))
    (.seq (.reg [⟨none, .call (some 34) n_rational_Whole [.c (.i .i64 1)]⟩,
       ⟨none, .faddr 35 0 (.t 8)⟩,
       ⟨none, .faddr 36 4 (.t 35)⟩,
       ⟨none, .load 37 8 true (.t 36)⟩,
       ⟨none, .faddr 38 0 (.t 9)⟩,
       ⟨none, .faddr 39 4 (.t 38)⟩,
       ⟨none, .load 40 8 true (.t 39)⟩,
       ⟨none, .call (some 41) n_monomial_Lcm [.t 37, .t 40]⟩,
       ⟨none, .build 42 [.b false, .nil, .b false, .nil, .i .i64 0, .i .i64 0, .i .i64 0, .i .i64 0, .i .i64 0, .i .i64 0, .i .i64 0, .i .i64 0] [(0, 4, .t 34), (4, 8, .t 41)]⟩,
       ⟨none, .alloc 10 [.b false, .nil, .b false, .nil, .i .i64 0, .i .i64 0, .i .i64 0, .i .i64 0, .i .i64 0, .i .i64 0, .i .i64 0, .i .i64 0]⟩,
       ⟨none, .store 12 (.t 10) (.t 42)⟩])
     (.seq (.reg [⟨none, .load 43 13 true (.t 8)⟩,
        ⟨none, .load 44 12 true (.t 10)⟩,
        ⟨none, .call (some 45) n_division_lead_under [.t 43, .t 44]⟩,
        ⟨none, .load 46 13 true (.t 9)⟩,
        ⟨none, .load 47 12 true (.t 10)⟩,
        ⟨none, .call (some 48) n_division_lead_under [.t 46, .t 47]⟩,
        ⟨none, .alloc 11 [.b false, .nil, .b false, .nil, .i .i64 0, .i .i64 0, .i .i64 0, .i .i64 0, .i .i64 0, .i .i64 0, .i .i64 0, .i .i64 0]⟩,
        ⟨none, .alloc 12 [.b false, .nil, .b false, .nil, .i .i64 0, .i .i64 0, .i .i64 0, .i .i64 0, .i .i64 0, .i .i64 0, .i .i64 0, .i .i64 0]⟩,
        ⟨none, .store 12 (.t 11) (.t 45)⟩,
        ⟨none, .store 12 (.t 12) (.t 48)⟩])
      (.seq (.reg [⟨none, .faddr 50 0 (.t 11)⟩,
         ⟨none, .load 51 4 true (.t 50)⟩,
         ⟨none, .faddr 52 4 (.t 11)⟩,
         ⟨none, .load 53 8 true (.t 52)⟩,
         ⟨none, .mv 54 (.t 0)⟩,
         ⟨none, .call (some 55) n_polynomial_Times [.t 51, .t 53, .t 54]⟩,
         ⟨none, .mv 49 (.t 55)⟩,
         ⟨none, .ext 56 0 (.t 49)⟩,
         ⟨none, .ext 57 1 (.t 49)⟩,
         ⟨none, .mv 13 (.t 56)⟩,
         ⟨none, .mv 14 (.t 57)⟩])
       (.seq (.reg [⟨none, .faddr 59 0 (.t 12)⟩,
          ⟨none, .load 60 4 true (.t 59)⟩,
          ⟨none, .faddr 61 4 (.t 12)⟩,
          ⟨none, .load 62 8 true (.t 61)⟩,
          ⟨none, .mv 63 (.t 1)⟩,
          ⟨none, .call (some 64) n_polynomial_Times [.t 60, .t 62, .t 63]⟩,
          ⟨none, .mv 58 (.t 64)⟩,
          ⟨none, .ext 65 0 (.t 58)⟩,
          ⟨none, .ext 66 1 (.t 58)⟩,
          ⟨none, .mv 15 (.t 65)⟩,
          ⟨none, .mv 16 (.t 66)⟩])
        (.seq (.seq (.reg [⟨none, .mv 67 (.t 14)⟩,
            ⟨none, .bin 68 .neq (.t 67) (.c (.i .i64 0))⟩,
            ⟨none, .mv 69 (.t 68)⟩,
            ⟨some (69, false, 70), .mv 70 (.t 16)⟩,
            ⟨some (69, false, 71), .bin 71 .neq (.t 70) (.c (.i .i64 0))⟩,
            ⟨none, .pick 72 (.t 69) (.c (.b true)) (.t 71)⟩])
          (.cond (.t 72) (.seq (.reg [⟨none, .mv 6 (.c (.nil))⟩,
              ⟨none, .mv 7 (.c (.i .i64 2))⟩])
            (.ret))
           (.skip)))
         (.seq (.reg [⟨none, .mv 73 (.t 13)⟩,
            ⟨none, .mv 74 (.t 15)⟩,
            ⟨none, .call (some 75) n_polynomial_Sub [.t 73, .t 74]⟩,
            ⟨none, .mv 6 (.t 75)⟩,
            ⟨none, .mv 7 (.c (.i .i64 0))⟩])
          (.ret))))))))))⟩
/- eliminant/order.Valid -/
def l_order_Valid_0 : C :=
 .seq (.reg [⟨none, .bin 19 .lss (.t 18) (.c (.i .i64 8))⟩])
 (.seq (.cond (.t 19) (.skip)
   (.exit 2))
  (.seq (.block 3 (.seq (.reg [⟨none, .mv 20 (.t 18)⟩,
       ⟨none, .idx 21 8 1 false (.t 17) (.t 18)⟩,
       ⟨none, .mv 6 (.t 20)⟩,
       ⟨none, .mv 7 (.t 21)⟩])
     (.seq (.seq (.reg [⟨none, .mv 22 (.t 7)⟩,
         ⟨none, .bin 23 .lss (.t 22) (.c (.i .i64 (-1000)))⟩,
         ⟨none, .mv 24 (.t 23)⟩,
         ⟨some (24, false, 25), .mv 25 (.t 7)⟩,
         ⟨some (24, false, 26), .bin 26 .gtr (.t 25) (.c (.i .i64 1000))⟩,
         ⟨none, .pick 27 (.t 24) (.c (.b true)) (.t 26)⟩,
         ⟨none, .mv 28 (.t 27)⟩,
         ⟨some (28, false, 29), .mv 29 (.t 7)⟩,
         ⟨some (28, false, 30), .bin 30 .lss (.t 29) (.c (.i .i64 0))⟩,
         ⟨some (28, false, 31), .mv 31 (.t 30)⟩,
         ⟨some (31, true, 32), .mv 32 (.t 6)⟩,
         ⟨some (31, true, 33), .iaddrA 33 8 1 (.t 3) (.t 32)⟩,
         ⟨some (31, true, 34), .load 34 1 false (.t 33)⟩,
         ⟨some (31, true, 35), .un 35 .not (.t 34)⟩,
         ⟨some (28, false, 36), .pick 36 (.t 31) (.t 35) (.c (.b false))⟩,
         ⟨none, .pick 37 (.t 28) (.c (.b true)) (.t 36)⟩])
       (.cond (.t 37) (.seq (.reg [⟨none, .mv 2 (.c (.b false))⟩])
         (.ret))
        (.skip)))
      (.reg [⟨none, .mv 38 (.t 6)⟩,
        ⟨none, .mv 39 (.t 6)⟩,
        ⟨none, .iaddrA 40 8 1 (.t 3) (.t 39)⟩,
        ⟨none, .load 41 1 false (.t 40)⟩,
        ⟨none, .mv 42 (.t 41)⟩,
        ⟨some (42, false, 43), .mv 43 (.t 7)⟩,
        ⟨some (42, false, 44), .bin 44 .gtr (.t 43) (.c (.i .i64 0))⟩,
        ⟨none, .pick 45 (.t 42) (.c (.b true)) (.t 44)⟩,
        ⟨none, .iaddrA 46 8 1 (.t 3) (.t 38)⟩,
        ⟨none, .store 1 (.t 46) (.t 45)⟩]))))
   (.reg [⟨none, .bin 47 .add (.t 18) (.c (.i .i64 1))⟩,
     ⟨none, .mv 18 (.t 47)⟩])))
def l_order_Valid_1 : C :=
 .seq (.reg [⟨none, .bin 14 .lss (.t 13) (.t 12)⟩])
 (.seq (.cond (.t 14) (.skip)
   (.exit 0))
  (.seq (.block 1 (.seq (.reg [⟨none, .iaddrS 15 8 (.t 11) (.t 13)⟩,
       ⟨none, .load 16 8 true (.t 15)⟩,
       ⟨none, .alloc 5 [.i .i64 0, .i .i64 0, .i .i64 0, .i .i64 0, .i .i64 0, .i .i64 0, .i .i64 0, .i .i64 0]⟩,
       ⟨none, .store 8 (.t 5) (.t 16)⟩])
     (.seq (.reg [⟨none, .load 17 8 true (.t 5)⟩,
        ⟨none, .mv 18 (.c (.i .i64 0))⟩])
      (.block 2 (.loop l_order_Valid_0)))))
   (.reg [⟨none, .bin 48 .add (.t 13) (.c (.i .i64 1))⟩,
     ⟨none, .mv 13 (.t 48)⟩])))
def c_order_Valid : Fun := ⟨1, [.t 2],
 .seq (.reg [⟨none, .mv 2 (.c (.b false))⟩])
 (.seq (.seq (.reg [⟨none, .mv 8 (.t 0)⟩,
     ⟨none, .len 9 (.t 8)⟩,
     ⟨none, .bin 10 .gtr (.t 9) (.c (.i .i64 24))⟩])
   (.cond (.t 10) (.seq (.reg [⟨none, .mv 2 (.c (.b false))⟩])
     (.ret))
    (.skip)))
  (.seq (.reg [⟨none, .alloc 3 [.b false, .b false, .b false, .b false, .b false, .b false, .b false, .b false]⟩])
   (.seq (.seq (.reg [⟨none, .mv 11 (.t 0)⟩,
       ⟨none, .len 12 (.t 11)⟩,
       ⟨none, .mv 13 (.c (.i .i64 0))⟩])
     (.block 0 (.loop l_order_Valid_1)))
    (.seq (.reg [⟨none, .mv 2 (.c (.b true))⟩])
     (.ret)))))⟩
/- eliminant/polynomial.Sub -/
def c_polynomial_Sub : Fun := ⟨2, [.t 4],
 .seq (.reg [⟨none, .mv 4 (.c (.nil))⟩])
 (.seq (.reg [⟨none, .mv 5 (.t 0)⟩,
    ⟨none, .mv 6 (.t 1)⟩,
    ⟨none, .call (some 7) n_polynomial_merge [.t 5, .t 6, .c (.fn n_rational_Sub []), .c (.fn n_rational_Neg [])]⟩,
    ⟨none, .mv 4 (.t 7)⟩])
  (.ret))⟩
/- slices.ContainsFunc[[]eliminant/api.Poly,eliminant/api.Poly] -/
def c_slices_ContainsFunc_api_Poly_api_Poly : Fun := ⟨2, [.t 4],
 .seq (.reg [⟨none, .mv 4 (.c (.b false))⟩])
 (.seq (.reg [⟨none, .mv 5 (.t 0)⟩,
    ⟨none, .mv 6 (.t 1)⟩,
    ⟨none, .call (some 7) n_slices_IndexFunc_api_Poly_api_Poly [.t 5, .t 6]⟩,
    ⟨none, .bin 8 .geq (.t 7) (.c (.i .i64 0))⟩,
    ⟨none, .mv 4 (.t 8)⟩])
  (.ret))⟩
/- eliminant/syzygy.Schreyer$1 -/
def c_syzygy_Schreyer_1 : Fun := ⟨1, [.t 2],
 .seq (.reg [⟨none, .mv 2 (.c (.b false))⟩])
 (.seq (.reg [⟨none, .mv 3 (.t 0)⟩,
    ⟨none, .len 4 (.t 3)⟩,
    ⟨none, .bin 5 .eql (.t 4) (.c (.i .i64 0))⟩,
    ⟨none, .mv 2 (.t 5)⟩])
  (.ret))⟩
/- eliminant/monomial.Lcm$1 -/
def c_monomial_Lcm_1 : Fun := ⟨2, [.t 4],
 .seq (.reg [⟨none, .mv 4 (.c (.i .i64 0))⟩])
 (.seq (.reg [⟨none, .mv 5 (.t 0)⟩,
    ⟨none, .mv 6 (.t 1)⟩,
    ⟨none, .mnx 7 true (.t 5) (.t 6)⟩,
    ⟨none, .mv 4 (.t 7)⟩])
  (.ret))⟩
/- eliminant/monomial.Divides -/
def c_monomial_Divides : Fun := ⟨2, [.t 4],
 .seq (.reg [⟨none, .box 2 8 (.t 0)⟩,
   ⟨none, .box 3 8 (.t 1)⟩,
   ⟨none, .mv 4 (.c (.b false))⟩])
 (.seq (.reg [⟨none, .load 5 8 true (.t 2)⟩,
    ⟨none, .load 6 8 true (.t 3)⟩,
    ⟨none, .call (some 7) n_monomial_Gcd [.t 5, .t 6]⟩,
    ⟨none, .load 8 8 true (.t 2)⟩,
    ⟨none, .eqa 9 8 false (.t 7) (.t 8)⟩,
    ⟨none, .mv 4 (.t 9)⟩])
  (.ret))⟩
/- eliminant/monomial.Quo$1 -/
def c_monomial_Quo_1 : Fun := ⟨2, [.t 4],
 .seq (.reg [⟨none, .mv 4 (.c (.i .i64 0))⟩])
 (.seq (.reg [⟨none, .mv 5 (.t 0)⟩,
    ⟨none, .mv 6 (.t 1)⟩,
    ⟨none, .bin 7 .sub (.t 5) (.t 6)⟩,
    ⟨none, .mv 4 (.t 7)⟩])
  (.ret))⟩
/- eliminant/polynomial.Lead$1 -/
def c_polynomial_Lead_1 : Fun := ⟨3, [.t 5],
 .seq (.reg [⟨none, .box 3 12 (.t 0)⟩,
   ⟨none, .box 4 12 (.t 1)⟩,
   ⟨none, .mv 5 (.c (.i .i64 0))⟩])
 (.seq (.reg [⟨none, .load 6 1 false (.t 2)⟩,
    ⟨none, .faddr 7 4 (.t 3)⟩,
    ⟨none, .load 8 8 true (.t 7)⟩,
    ⟨none, .faddr 9 4 (.t 4)⟩,
    ⟨none, .load 10 8 true (.t 9)⟩,
    ⟨none, .call (some 11) n_order_Cmp [.t 6, .t 8, .t 10]⟩,
    ⟨none, .mv 5 (.t 11)⟩])
  (.ret))⟩
/- slices.MaxFunc[eliminant/api.Poly,eliminant/api.Term] -/
def l_slices_MaxFunc_api_Poly_api_Term_0 : C :=
 .seq (.seq (.reg [⟨none, .mv 14 (.t 6)⟩,
    ⟨none, .mv 15 (.t 0)⟩,
    ⟨none, .len 16 (.t 15)⟩,
    ⟨none, .bin 17 .lss (.t 14) (.t 16)⟩])
  (.cond (.t 17) (.skip)
   (.exit 0)))
 (.seq (.block 1 (.seq (.reg [⟨none, .mv 20 (.t 1)⟩,
      ⟨none, .mv 21 (.t 0)⟩,
      ⟨none, .mv 22 (.t 6)⟩,
      ⟨none, .iaddrS 23 12 (.t 21) (.t 22)⟩,
      ⟨none, .load 24 12 true (.t 23)⟩,
      ⟨none, .load 25 12 true (.t 5)⟩,
      ⟨none, .callv (some 26) (.t 20) [.t 24, .t 25]⟩,
      ⟨none, .bin 27 .gtr (.t 26) (.c (.i .i64 0))⟩])
    (.cond (.t 27) (.reg [⟨none, .mv 28 (.t 0)⟩,
       ⟨none, .mv 29 (.t 6)⟩,
       ⟨none, .iaddrS 30 12 (.t 28) (.t 29)⟩,
       ⟨none, .load 31 12 true (.t 30)⟩,
       ⟨none, .store 12 (.t 5) (.t 31)⟩])
     (.skip))))
  (.reg [⟨none, .mv 18 (.t 6)⟩,
    ⟨none, .bin 19 .add (.t 18) (.c (.i .i64 1))⟩,
    ⟨none, .mv 6 (.t 19)⟩]))
def c_slices_MaxFunc_api_Poly_api_Term : Fun := ⟨2, [.c 4 12 true],
 .seq (.reg [⟨none, .alloc 4 [.b false, .nil, .b false, .nil, .i .i64 0, .i .i64 0, .i .i64 0, .i .i64 0, .i .i64 0, .i .i64 0, .i .i64 0, .i .i64 0]⟩])
 (.seq (.seq (.reg [⟨none, .mv 7 (.t 0)⟩,
     ⟨none, .len 8 (.t 7)⟩,
     ⟨none, .bin 9 .lss (.t 8) (.c (.i .i64 1))⟩])
   (.cond (.t 9) (.reg [⟨none, .fail (some 10)⟩,
      ⟨none, .fail none⟩])
    (.skip)))
  (.seq (.reg [⟨none, .mv 11 (.t 0)⟩,
     ⟨none, .iaddrS 12 12 (.t 11) (.c (.i .i64 0))⟩,
     ⟨none, .load 13 12 true (.t 12)⟩,
     ⟨none, .alloc 5 [.b false, .nil, .b false, .nil, .i .i64 0, .i .i64 0, .i .i64 0, .i .i64 0, .i .i64 0, .i .i64 0, .i .i64 0, .i .i64 0]⟩,
     ⟨none, .store 12 (.t 5) (.t 13)⟩])
   (.seq (.seq (.reg [⟨none, .mv 6 (.c (.i .i64 1))⟩])
     (.block 0 (.loop l_slices_MaxFunc_api_Poly_api_Term_0)))
    (.seq (.reg [⟨none, .load 32 12 true (.t 5)⟩,
       ⟨none, .store 12 (.t 4) (.t 32)⟩])
     (.ret)))))⟩
/- eliminant/polynomial.Constant -/
def c_polynomial_Constant : Fun := ⟨1, [.t 2],
 .seq (.reg [⟨none, .box 1 4 (.t 0)⟩,
   ⟨none, .mv 2 (.c (.nil))⟩])
 (.seq (.seq (.reg [⟨none, .load 3 4 true (.t 1)⟩,
     ⟨none, .call (some 4) n_rational_Sign [.t 3]⟩,
     ⟨none, .bin 5 .eql (.t 4) (.c (.i .i64 0))⟩])
   (.cond (.t 5) (.seq (.reg [⟨none, .mv 2 (.c (.nil))⟩])
     (.ret))
    (.skip)))
  (.seq (.reg [⟨none, .load 6 4 true (.t 1)⟩,
     ⟨none, .build 7 [.b false, .nil, .b false, .nil, .i .i64 0, .i .i64 0, .i .i64 0, .i .i64 0, .i .i64 0, .i .i64 0, .i .i64 0, .i .i64 0] [(0, 4, .t 6)]⟩,
     ⟨none, .bslice 8 1 12 [.b false, .sl 0 [], .b false, .sl 0 [], .i .i64 0, .i .i64 0, .i .i64 0, .i .i64 0, .i .i64 0, .i .i64 0, .i .i64 0, .i .i64 0] [(0, 12, .t 7)]⟩,
     ⟨none, .mv 2 (.t 8)⟩])
   (.ret)))⟩
/- eliminant/division.divide -/
def l_division_divide_0 : C :=
 .seq (.reg [⟨none, .bin 32 .lss (.t 31) (.t 30)⟩])
 (.seq (.cond (.t 32) (.skip)
   (.exit 2))
  (.seq (.block 3 (.seq (.reg [⟨none, .mv 33 (.t 31)⟩,
       ⟨none, .iaddrS 34 13 (.t 29) (.t 31)⟩,
       ⟨none, .load 35 13 true (.t 34)⟩,
       ⟨none, .alloc 15 [.b false, .nil, .b false, .nil, .i .i64 0, .i .i64 0, .i .i64 0, .i .i64 0, .i .i64 0, .i .i64 0, .i .i64 0, .i .i64 0, .b false]⟩,
       ⟨none, .mv 14 (.t 33)⟩,
       ⟨none, .store 13 (.t 15) (.t 35)⟩])
     (.seq (.reg [⟨none, .faddr 36 12 (.t 15)⟩,
        ⟨none, .load 37 1 false (.t 36)⟩,
        ⟨none, .mv 38 (.t 37)⟩,
        ⟨some (38, true, 39), .faddr 39 0 (.t 15)⟩,
        ⟨some (38, true, 40), .faddr 40 4 (.t 39)⟩,
        ⟨some (38, true, 41), .load 41 8 true (.t 40)⟩,
        ⟨some (38, true, 42), .faddr 42 4 (.t 13)⟩,
        ⟨some (38, true, 43), .load 43 8 true (.t 42)⟩,
        ⟨some (38, true, 44), .call (some 44) n_monomial_Divides [.t 41, .t 43]⟩,
        ⟨none, .pick 45 (.t 38) (.t 44) (.c (.b false))⟩])
      (.cond (.t 45) (.seq (.reg [⟨none, .load 46 13 true (.t 15)⟩,
          ⟨none, .load 47 12 true (.t 13)⟩,
          ⟨none, .call (some 48) n_division_lead_under [.t 46, .t 47]⟩,
          ⟨none, .alloc 16 [.b false, .nil, .b false, .nil, .i .i64 0, .i .i64 0, .i .i64 0, .i .i64 0, .i .i64 0, .i .i64 0, .i .i64 0, .i .i64 0]⟩,
          ⟨none, .store 12 (.t 16) (.t 48)⟩])
        (.seq (.reg [⟨none, .faddr 50 0 (.t 16)⟩,
           ⟨none, .load 51 4 true (.t 50)⟩,
           ⟨none, .faddr 52 4 (.t 16)⟩,
           ⟨none, .load 53 8 true (.t 52)⟩,
           ⟨none, .mv 54 (.t 1)⟩,
           ⟨none, .mv 55 (.t 14)⟩,
           ⟨none, .iaddrS 56 1 (.t 54) (.t 55)⟩,
           ⟨none, .load 57 1 false (.t 56)⟩,
           ⟨none, .call (some 58) n_polynomial_Times [.t 51, .t 53, .t 57]⟩,
           ⟨none, .mv 49 (.t 58)⟩,
           ⟨none, .ext 59 0 (.t 49)⟩,
           ⟨none, .ext 60 1 (.t 49)⟩,
           ⟨none, .mv 17 (.t 59)⟩,
           ⟨none, .mv 18 (.t 60)⟩])
         (.seq (.seq (.reg [⟨none, .mv 61 (.t 18)⟩,
             ⟨none, .bin 62 .neq (.t 61) (.c (.i .i64 0))⟩])
           (.cond (.t 62) (.seq (.reg [⟨none, .mv 8 (.c (.nil))⟩,
               ⟨none, .mv 9 (.c (.nil))⟩,
               ⟨none, .mv 10 (.c (.i .i64 2))⟩])
             (.ret))
            (.skip)))
          (.seq (.reg [⟨none, .mv 63 (.t 11)⟩,
             ⟨none, .mv 64 (.t 14)⟩,
             ⟨none, .mv 65 (.t 11)⟩,
             ⟨none, .mv 66 (.t 14)⟩,
             ⟨none, .iaddrS 67 1 (.t 65) (.t 66)⟩,
             ⟨none, .load 68 1 false (.t 67)⟩,
             ⟨none, .load 69 12 true (.t 16)⟩,
             ⟨none, .bslice 70 1 12 [.b false, .sl 0 [], .b false, .sl 0 [], .i .i64 0, .i .i64 0, .i .i64 0, .i .i64 0, .i .i64 0, .i .i64 0, .i .i64 0, .i .i64 0] [(0, 12, .t 69)]⟩,
             ⟨none, .call (some 71) n_polynomial_Add [.t 68, .t 70]⟩,
             ⟨none, .mv 72 (.t 0)⟩,
             ⟨none, .mv 73 (.t 17)⟩,
             ⟨none, .call (some 74) n_polynomial_Sub [.t 72, .t 73]⟩,
             ⟨none, .iaddrS 75 1 (.t 63) (.t 64)⟩,
             ⟨none, .store 1 (.t 75) (.t 71)⟩,
             ⟨none, .mv 0 (.t 74)⟩])
           (.exit 1)))))
       (.skip)))))
   (.reg [⟨none, .bin 76 .add (.t 31) (.c (.i .i64 1))⟩,
     ⟨none, .mv 31 (.t 76)⟩])))
def l_division_divide_1 : C :=
 .seq (.seq (.reg [⟨none, .mv 22 (.t 0)⟩,
    ⟨none, .len 23 (.t 22)⟩,
    ⟨none, .bin 24 .gtr (.t 23) (.c (.i .i64 0))⟩])
  (.cond (.t 24) (.skip)
   (.exit 0)))
 (.block 1 (.seq (.reg [⟨none, .mv 25 (.t 0)⟩,
     ⟨none, .mv 26 (.t 3)⟩,
     ⟨none, .call (some 27) n_division_leadOf [.t 25, .t 26]⟩,
     ⟨none, .fld 28 0 12 true (.t 27)⟩,
     ⟨none, .alloc 13 [.b false, .nil, .b false, .nil, .i .i64 0, .i .i64 0, .i .i64 0, .i .i64 0, .i .i64 0, .i .i64 0, .i .i64 0, .i .i64 0]⟩,
     ⟨none, .store 12 (.t 13) (.t 28)⟩])
   (.seq (.seq (.reg [⟨none, .mv 29 (.t 2)⟩,
       ⟨none, .len 30 (.t 29)⟩,
       ⟨none, .mv 31 (.c (.i .i64 0))⟩])
     (.block 2 (.loop l_division_divide_0)))
    (.reg [⟨none, .mv 77 (.t 12)⟩,
      ⟨none, .load 78 12 true (.t 13)⟩,
      ⟨none, .bslice 79 1 12 [.b false, .sl 0 [], .b false, .sl 0 [], .i .i64 0, .i .i64 0, .i .i64 0, .i .i64 0, .i .i64 0, .i .i64 0, .i .i64 0, .i .i64 0] [(0, 12, .t 78)]⟩,
      ⟨none, .call (some 80) n_polynomial_Add [.t 77, .t 79]⟩,
      ⟨none, .mv 81 (.t 0)⟩,
      ⟨none, .load 82 12 true (.t 13)⟩,
      ⟨none, .bslice 83 1 12 [.b false, .sl 0 [], .b false, .sl 0 [], .i .i64 0, .i .i64 0, .i .i64 0, .i .i64 0, .i .i64 0, .i .i64 0, .i .i64 0, .i .i64 0] [(0, 12, .t 82)]⟩,
      ⟨none, .call (some 84) n_polynomial_Sub [.t 81, .t 83]⟩,
      ⟨none, .mv 12 (.t 80)⟩,
      ⟨none, .mv 0 (.t 84)⟩]))))
def c_division_divide : Fun := ⟨4, [.t 8, .t 9, .t 10],
 .seq (.reg [⟨none, .mv 8 (.c (.nil))⟩,
   ⟨none, .mv 9 (.c (.nil))⟩,
   ⟨none, .mv 10 (.c (.i .i64 0))⟩])
 (.scope (.seq (.reg [⟨none, .mv 19 (.t 1)⟩,
     ⟨none, .len 20 (.t 19)⟩,
     ⟨none, .mkslice 21 1 [.sl 0 []] (.t 20) (.t 20)⟩,
     ⟨none, .mv 11 (.t 21)⟩])
   (.seq (.reg [⟨none, .mv 12 (.c (.nil))⟩])
    (.seq (.skip)
     (.seq (.block 0 (.loop l_division_divide_1))
      (.seq (.reg [⟨none, .mv 85 (.t 11)⟩,
         ⟨none, .mv 86 (.t 12)⟩,
         ⟨none, .mv 8 (.t 85)⟩,
         ⟨none, .mv 9 (.t 86)⟩,
         ⟨none, .mv 10 (.c (.i .i64 0))⟩])
       (.ret)))))))⟩
/- eliminant/division.leadsOf -/
def l_division_leadsOf_0 : C :=
 .seq (.reg [⟨none, .bin 14 .lss (.t 13) (.t 12)⟩])
 (.seq (.cond (.t 14) (.skip)
   (.exit 0))
  (.seq (.block 1 (.seq (.reg [⟨none, .mv 15 (.t 13)⟩,
       ⟨none, .iaddrS 16 1 (.t 11) (.t 13)⟩,
       ⟨none, .load 17 1 false (.t 16)⟩,
       ⟨none, .mv 6 (.t 15)⟩,
       ⟨none, .mv 7 (.t 17)⟩])
     (.reg [⟨none, .mv 18 (.t 5)⟩,
       ⟨none, .mv 19 (.t 6)⟩,
       ⟨none, .mv 20 (.t 7)⟩,
       ⟨none, .mv 21 (.t 1)⟩,
       ⟨none, .call (some 22) n_division_leadOf [.t 20, .t 21]⟩,
       ⟨none, .iaddrS 23 13 (.t 18) (.t 19)⟩,
       ⟨none, .store 13 (.t 23) (.t 22)⟩])))
   (.reg [⟨none, .bin 24 .add (.t 13) (.c (.i .i64 1))⟩,
     ⟨none, .mv 13 (.t 24)⟩])))
def c_division_leadsOf : Fun := ⟨2, [.t 4],
 .seq (.reg [⟨none, .mv 4 (.c (.nil))⟩])
 (.seq (.reg [⟨none, .mv 8 (.t 0)⟩,
    ⟨none, .len 9 (.t 8)⟩,
    ⟨none, .mkslice 10 13 [.b false, .sl 0 [], .b false, .sl 0 [], .i .i64 0, .i .i64 0, .i .i64 0, .i .i64 0, .i .i64 0, .i .i64 0, .i .i64 0, .i .i64 0, .b false] (.t 9) (.t 9)⟩,
    ⟨none, .mv 5 (.t 10)⟩])
  (.seq (.seq (.reg [⟨none, .mv 11 (.t 0)⟩,
      ⟨none, .len 12 (.t 11)⟩,
      ⟨none, .mv 13 (.c (.i .i64 0))⟩])
    (.block 0 (.loop l_division_leadsOf_0)))
   (.seq (.reg [⟨none, .mv 25 (.t 5)⟩,
      ⟨none, .mv 4 (.t 25)⟩])
    (.ret))))⟩
/- eliminant/division.leadOf -/
def c_division_leadOf : Fun := ⟨2, [.c 4 13 true],
 .seq (.reg [⟨none, .alloc 4 [.b false, .nil, .b false, .nil, .i .i64 0, .i .i64 0, .i .i64 0, .i .i64 0, .i .i64 0, .i .i64 0, .i .i64 0, .i .i64 0, .b false]⟩])
 (.seq (.reg [⟨none, .mv 8 (.t 0)⟩,
    ⟨none, .mv 9 (.t 1)⟩,
    ⟨none, .call (some 10) n_polynomial_Lead [.t 8, .t 9]⟩,
    ⟨none, .mv 7 (.t 10)⟩,
    ⟨none, .ext 11 0 (.t 7)⟩,
    ⟨none, .ext 12 1 (.t 7)⟩,
    ⟨none, .alloc 5 [.b false, .nil, .b false, .nil, .i .i64 0, .i .i64 0, .i .i64 0, .i .i64 0, .i .i64 0, .i .i64 0, .i .i64 0, .i .i64 0]⟩,
    ⟨none, .store 12 (.t 5) (.t 11)⟩,
    ⟨none, .mv 6 (.t 12)⟩])
  (.seq (.reg [⟨none, .load 13 12 true (.t 5)⟩,
     ⟨none, .mv 14 (.t 6)⟩,
     ⟨none, .build 15 [.b false, .nil, .b false, .nil, .i .i64 0, .i .i64 0, .i .i64 0, .i .i64 0, .i .i64 0, .i .i64 0, .i .i64 0, .i .i64 0, .b false] [(0, 12, .t 13), (12, 1, .t 14)]⟩,
     ⟨none, .store 13 (.t 4) (.t 15)⟩])
   (.ret)))⟩
/- (eliminant/division.lead).under -/
def c_division_lead_under : Fun := ⟨2, [.c 4 12 true],
 .seq (.reg [⟨none, .box 2 13 (.t 0)⟩,
   ⟨none, .box 3 12 (.t 1)⟩,
   ⟨none, .alloc 4 [.b false, .nil, .b false, .nil, .i .i64 0, .i .i64 0, .i .i64 0, .i .i64 0, .i .i64 0, .i .i64 0, .i .i64 0, .i .i64 0]⟩])
 (.seq (.reg [⟨none, .faddr 10 0 (.t 3)⟩,
    ⟨none, .load 11 4 true (.t 10)⟩,
    ⟨none, .faddr 12 0 (.t 2)⟩,
    ⟨none, .faddr 13 0 (.t 12)⟩,
    ⟨none, .load 14 4 true (.t 13)⟩,
    ⟨none, .call (some 15) n_rational_Div [.t 11, .t 14]⟩,
    ⟨none, .mv 9 (.t 15)⟩,
    ⟨none, .ext 16 0 (.t 9)⟩,
    ⟨none, .ext 17 1 (.t 9)⟩,
    ⟨none, .alloc 5 [.b false, .nil, .b false, .nil]⟩,
    ⟨none, .store 4 (.t 5) (.t 16)⟩,
    ⟨none, .mv 6 (.t 17)⟩])
  (.seq (.reg [⟨none, .faddr 19 4 (.t 3)⟩,
     ⟨none, .load 20 8 true (.t 19)⟩,
     ⟨none, .faddr 21 0 (.t 2)⟩,
     ⟨none, .faddr 22 4 (.t 21)⟩,
     ⟨none, .load 23 8 true (.t 22)⟩,
     ⟨none, .call (some 24) n_monomial_Quo [.t 20, .t 23]⟩,
     ⟨none, .mv 18 (.t 24)⟩,
     ⟨none, .ext 25 0 (.t 18)⟩,
     ⟨none, .ext 26 1 (.t 18)⟩,
     ⟨none, .alloc 7 [.i .i64 0, .i .i64 0, .i .i64 0, .i .i64 0, .i .i64 0, .i .i64 0, .i .i64 0, .i .i64 0]⟩,
     ⟨none, .store 8 (.t 7) (.t 25)⟩,
     ⟨none, .mv 8 (.t 26)⟩])
   (.seq (.reg [⟨none, .load 27 4 true (.t 5)⟩,
      ⟨none, .load 28 8 true (.t 7)⟩,
      ⟨none, .build 29 [.b false, .nil, .b false, .nil, .i .i64 0, .i .i64 0, .i .i64 0, .i .i64 0, .i .i64 0, .i .i64 0, .i .i64 0, .i .i64 0] [(0, 4, .t 27), (4, 8, .t 28)]⟩,
      ⟨none, .store 12 (.t 4) (.t 29)⟩])
    (.ret))))⟩
/- eliminant/polynomial.Times -/
def l_polynomial_Times_0 : C :=
 .seq (.reg [⟨none, .bin 22 .lss (.t 21) (.t 20)⟩])
 (.seq (.cond (.t 22) (.skip)
   (.exit 0))
  (.seq (.block 1 (.seq (.reg [⟨none, .mv 23 (.t 21)⟩,
       ⟨none, .iaddrS 24 12 (.t 19) (.t 21)⟩,
       ⟨none, .load 25 12 true (.t 24)⟩,
       ⟨none, .alloc 10 [.b false, .nil, .b false, .nil, .i .i64 0, .i .i64 0, .i .i64 0, .i .i64 0, .i .i64 0, .i .i64 0, .i .i64 0, .i .i64 0]⟩,
       ⟨none, .mv 9 (.t 23)⟩,
       ⟨none, .store 12 (.t 10) (.t 25)⟩])
     (.seq (.reg [⟨none, .load 27 8 true (.t 4)⟩,
        ⟨none, .faddr 28 4 (.t 10)⟩,
        ⟨none, .load 29 8 true (.t 28)⟩,
        ⟨none, .call (some 30) n_monomial_Mul [.t 27, .t 29]⟩,
        ⟨none, .mv 26 (.t 30)⟩,
        ⟨none, .ext 31 0 (.t 26)⟩,
        ⟨none, .ext 32 1 (.t 26)⟩,
        ⟨none, .alloc 11 [.i .i64 0, .i .i64 0, .i .i64 0, .i .i64 0, .i .i64 0, .i .i64 0, .i .i64 0, .i .i64 0]⟩,
        ⟨none, .store 8 (.t 11) (.t 31)⟩,
        ⟨none, .mv 12 (.t 32)⟩])
      (.seq (.seq (.reg [⟨none, .mv 33 (.t 12)⟩,
          ⟨none, .bin 34 .neq (.t 33) (.c (.i .i64 0))⟩])
        (.cond (.t 34) (.seq (.reg [⟨none, .mv 6 (.c (.nil))⟩,
            ⟨none, .mv 7 (.c (.i .i64 2))⟩])
          (.ret))
         (.skip)))
       (.reg [⟨none, .mv 35 (.t 8)⟩,
         ⟨none, .mv 36 (.t 9)⟩,
         ⟨none, .load 37 4 true (.t 3)⟩,
         ⟨none, .faddr 38 0 (.t 10)⟩,
         ⟨none, .load 39 4 true (.t 38)⟩,
         ⟨none, .call (some 40) n_rational_Mul [.t 37, .t 39]⟩,
         ⟨none, .load 41 8 true (.t 11)⟩,
         ⟨none, .build 42 [.b false, .nil, .b false, .nil, .i .i64 0, .i .i64 0, .i .i64 0, .i .i64 0, .i .i64 0, .i .i64 0, .i .i64 0, .i .i64 0] [(0, 4, .t 40), (4, 8, .t 41)]⟩,
         ⟨none, .iaddrS 43 12 (.t 35) (.t 36)⟩,
         ⟨none, .store 12 (.t 43) (.t 42)⟩])))))
   (.reg [⟨none, .bin 44 .add (.t 21) (.c (.i .i64 1))⟩,
     ⟨none, .mv 21 (.t 44)⟩])))
def c_polynomial_Times : Fun := ⟨3, [.t 6, .t 7],
 .seq (.reg [⟨none, .box 3 4 (.t 0)⟩,
   ⟨none, .box 4 8 (.t 1)⟩,
   ⟨none, .mv 6 (.c (.nil))⟩,
   ⟨none, .mv 7 (.c (.i .i64 0))⟩])
 (.seq (.seq (.reg [⟨none, .load 13 4 true (.t 3)⟩,
     ⟨none, .call (some 14) n_rational_Sign [.t 13]⟩,
     ⟨none, .bin 15 .eql (.t 14) (.c (.i .i64 0))⟩])
   (.cond (.t 15) (.seq (.reg [⟨none, .mv 6 (.c (.nil))⟩,
       ⟨none, .mv 7 (.c (.i .i64 0))⟩])
     (.ret))
    (.skip)))
  (.seq (.reg [⟨none, .mv 16 (.t 2)⟩,
     ⟨none, .len 17 (.t 16)⟩,
     ⟨none, .mkslice 18 12 [.b false, .sl 0 [], .b false, .sl 0 [], .i .i64 0, .i .i64 0, .i .i64 0, .i .i64 0, .i .i64 0, .i .i64 0, .i .i64 0, .i .i64 0] (.t 17) (.t 17)⟩,
     ⟨none, .mv 8 (.t 18)⟩])
   (.seq (.seq (.reg [⟨none, .mv 19 (.t 2)⟩,
       ⟨none, .len 20 (.t 19)⟩,
       ⟨none, .mv 21 (.c (.i .i64 0))⟩])
     (.block 0 (.loop l_polynomial_Times_0)))
    (.seq (.reg [⟨none, .mv 45 (.t 8)⟩,
       ⟨none, .mv 6 (.t 45)⟩,
       ⟨none, .mv 7 (.c (.i .i64 0))⟩])
     (.ret)))))⟩
/- slices.IndexFunc[[]eliminant/api.Poly,eliminant/api.Poly] -/
def l_slices_IndexFunc_api_Poly_api_Poly_0 : C :=
 .seq (.reg [⟨none, .bin 9 .lss (.t 8) (.t 7)⟩])
 (.seq (.cond (.t 9) (.skip)
   (.exit 0))
  (.seq (.block 1 (.seq (.reg [⟨none, .mv 10 (.t 8)⟩,
       ⟨none, .mv 5 (.t 10)⟩])
     (.seq (.reg [⟨none, .mv 11 (.t 1)⟩,
        ⟨none, .mv 12 (.t 0)⟩,
        ⟨none, .mv 13 (.t 5)⟩,
        ⟨none, .iaddrS 14 1 (.t 12) (.t 13)⟩,
        ⟨none, .load 15 1 false (.t 14)⟩,
        ⟨none, .callv (some 16) (.t 11) [.t 15]⟩])
      (.cond (.t 16) (.seq (.reg [⟨none, .mv 17 (.t 5)⟩,
          ⟨none, .mv 4 (.t 17)⟩])
        (.ret))
       (.skip)))))
   (.reg [⟨none, .bin 18 .add (.t 8) (.c (.i .i64 1))⟩,
     ⟨none, .mv 8 (.t 18)⟩])))
def c_slices_IndexFunc_api_Poly_api_Poly : Fun := ⟨2, [.t 4],
 .seq (.reg [⟨none, .mv 4 (.c (.i .i64 0))⟩])
 (.seq (.seq (.reg [⟨none, .mv 6 (.t 0)⟩,
     ⟨none, .len 7 (.t 6)⟩,
     ⟨none, .mv 8 (.c (.i .i64 0))⟩])
   (.block 0 (.loop l_slices_IndexFunc_api_Poly_api_Poly_0)))
  (.seq (.reg [⟨none, .mv 4 (.c (.i .i64 (-1)))⟩])
   (.ret)))⟩
/- eliminant/monomial.Gcd -/
def c_monomial_Gcd : Fun := ⟨2, [.c 4 8 true],
 .seq (.reg [⟨none, .box 2 8 (.t 0)⟩,
   ⟨none, .box 3 8 (.t 1)⟩,
   ⟨none, .alloc 4 [.i .i64 0, .i .i64 0, .i .i64 0, .i .i64 0, .i .i64 0, .i .i64 0, .i .i64 0, .i .i64 0]⟩])
 (.seq (.reg [⟨none, .load 5 8 true (.t 2)⟩,
    ⟨none, .load 6 8 true (.t 3)⟩,
    ⟨none, .call (some 7) n_monomial_each [.t 5, .t 6, .c (.fn n_monomial_Gcd_1 [])]⟩,
    ⟨none, .store 8 (.t 4) (.t 7)⟩])
  (.ret))⟩
/- eliminant/monomial.Gcd$1 -/
def c_monomial_Gcd_1 : Fun := ⟨2, [.t 4],
 .seq (.reg [⟨none, .mv 4 (.c (.i .i64 0))⟩])
 (.seq (.reg [⟨none, .mv 5 (.t 0)⟩,
    ⟨none, .mv 6 (.t 1)⟩,
    ⟨none, .mnx 7 false (.t 5) (.t 6)⟩,
    ⟨none, .mv 4 (.t 7)⟩])
  (.ret))⟩
/- eliminant/monomial.Degree -/
def l_monomial_Degree_0 : C :=
 .seq (.reg [⟨none, .bin 8 .lss (.t 7) (.c (.i .i64 8))⟩])
 (.seq (.cond (.t 8) (.skip)
   (.exit 0))
  (.seq (.block 1 (.seq (.reg [⟨none, .idx 9 8 1 false (.t 6) (.t 7)⟩,
       ⟨none, .mv 5 (.t 9)⟩])
     (.reg [⟨none, .mv 10 (.t 3)⟩,
       ⟨none, .mv 11 (.t 5)⟩,
       ⟨none, .bin 12 .add (.t 10) (.t 11)⟩,
       ⟨none, .mv 3 (.t 12)⟩])))
   (.reg [⟨none, .bin 13 .add (.t 7) (.c (.i .i64 1))⟩,
     ⟨none, .mv 7 (.t 13)⟩])))
def c_monomial_Degree : Fun := ⟨1, [.t 2],
 .seq (.reg [⟨none, .box 1 8 (.t 0)⟩,
   ⟨none, .mv 2 (.c (.i .i64 0))⟩])
 (.seq (.reg [⟨none, .mv 3 (.c (.i .i64 0))⟩])
  (.seq (.seq (.reg [⟨none, .load 6 8 true (.t 1)⟩,
      ⟨none, .mv 7 (.c (.i .i64 0))⟩])
    (.block 0 (.loop l_monomial_Degree_0)))
   (.seq (.reg [⟨none, .mv 14 (.t 3)⟩,
      ⟨none, .mv 2 (.t 14)⟩])
    (.ret))))⟩
/- eliminant/division.pairs -/
def c_division_pairs : Fun := ⟨1, [.t 2],
 .seq (.reg [⟨none, .box 1 1 (.t 0)⟩,
   ⟨none, .mv 2 (.c (.nilfn))⟩])
 (.seq (.reg [⟨none, .mkfn 3 n_division_pairs_1 [.t 1]⟩,
    ⟨none, .mv 2 (.t 3)⟩])
  (.ret))⟩
/- eliminant/division.pairs$1 -/
def l_division_pairs_1_0 : C :=
 .seq (.reg [⟨none, .bin 19 .lss (.t 18) (.t 17)⟩])
 (.seq (.cond (.t 19) (.skip)
   (.exit 2))
  (.seq (.block 3 (.seq (.reg [⟨none, .iaddrS 20 1 (.t 16) (.t 18)⟩,
       ⟨none, .load 21 1 false (.t 20)⟩,
       ⟨none, .mv 6 (.t 21)⟩])
     (.seq (.reg [⟨none, .mv 22 (.t 4)⟩,
        ⟨none, .len 23 (.t 22)⟩,
        ⟨none, .bin 24 .gtr (.t 23) (.c (.i .i64 0))⟩,
        ⟨none, .mv 25 (.t 24)⟩,
        ⟨some (25, true, 26), .mv 26 (.t 6)⟩,
        ⟨some (25, true, 27), .len 27 (.t 26)⟩,
        ⟨some (25, true, 28), .bin 28 .gtr (.t 27) (.c (.i .i64 0))⟩,
        ⟨none, .pick 29 (.t 25) (.t 28) (.c (.b false))⟩,
        ⟨none, .mv 30 (.t 29)⟩,
        ⟨some (30, true, 31), .mv 31 (.t 0)⟩,
        ⟨some (30, true, 32), .mv 32 (.t 4)⟩,
        ⟨some (30, true, 33), .mv 33 (.t 6)⟩,
        ⟨some (30, true, 34), .callv (some 34) (.t 31) [.t 32, .t 33]⟩,
        ⟨some (30, true, 35), .un 35 .not (.t 34)⟩,
        ⟨none, .pick 36 (.t 30) (.t 35) (.c (.b false))⟩])
      (.cond (.t 36) (.ret)
       (.skip)))))
   (.reg [⟨none, .bin 37 .add (.t 18) (.c (.i .i64 1))⟩,
     ⟨none, .mv 18 (.t 37)⟩])))
def l_division_pairs_1_1 : C :=
 .seq (.reg [⟨none, .bin 10 .lss (.t 9) (.t 8)⟩])
 (.seq (.cond (.t 10) (.skip)
   (.exit 0))
  (.seq (.block 1 (.seq (.reg [⟨none, .mv 11 (.t 9)⟩,
       ⟨none, .iaddrS 12 1 (.t 7) (.t 9)⟩,
       ⟨none, .load 13 1 false (.t 12)⟩,
       ⟨none, .mv 3 (.t 11)⟩,
       ⟨none, .mv 4 (.t 13)⟩])
     (.seq (.reg [⟨none, .load 14 1 false (.t 1)⟩,
        ⟨none, .mv 15 (.t 3)⟩,
        ⟨none, .slice 16 1 (.t 14) none (some (.t 15)) none⟩,
        ⟨none, .len 17 (.t 16)⟩,
        ⟨none, .mv 18 (.c (.i .i64 0))⟩])
      (.block 2 (.loop l_division_pairs_1_0)))))
   (.reg [⟨none, .bin 38 .add (.t 9) (.c (.i .i64 1))⟩,
     ⟨none, .mv 9 (.t 38)⟩])))
def c_division_pairs_1 : Fun := ⟨2, [],
 .seq (.reg [⟨none, .load 7 1 false (.t 1)⟩,
   ⟨none, .len 8 (.t 7)⟩,
   ⟨none, .mv 9 (.c (.i .i64 0))⟩])
 (.block 0 (.loop l_division_pairs_1_1))⟩
/- slices.SortFunc[eliminant/api.Poly,eliminant/api.Term] -/
def c_slices_SortFunc_api_Poly_api_Term : Fun := ⟨2, [],
 .seq (.reg [⟨none, .mv 5 (.t 0)⟩,
   ⟨none, .len 6 (.t 5)⟩,
   ⟨none, .mv 4 (.t 6)⟩])
 (.reg [⟨none, .mv 7 (.t 0)⟩,
   ⟨none, .mv 8 (.t 4)⟩,
   ⟨none, .mv 9 (.t 4)⟩,
   ⟨none, .conv 10 .u64 (.t 9)⟩,
   ⟨none, .call (some 11) n_math_bits_Len [.t 10]⟩,
   ⟨none, .mv 12 (.t 1)⟩,
   ⟨none, .call (some 13) n_slices_pdqsortCmpFunc_api_Term [.t 7, .c (.i .i64 0), .t 8, .t 11, .t 12]⟩])⟩
/- slices.pdqsortCmpFunc[eliminant/api.Term] -/
def l_slices_pdqsortCmpFunc_api_Term_0 : C :=
 .block 1 (.seq (.reg [⟨none, .mv 21 (.t 2)⟩,
    ⟨none, .mv 22 (.t 1)⟩,
    ⟨none, .bin 23 .sub (.t 21) (.t 22)⟩,
    ⟨none, .mv 12 (.t 23)⟩])
  (.seq (.seq (.reg [⟨none, .mv 24 (.t 12)⟩,
      ⟨none, .bin 25 .leq (.t 24) (.c (.i .i64 12))⟩])
    (.cond (.t 25) (.seq (.reg [⟨none, .mv 26 (.t 0)⟩,
        ⟨none, .mv 27 (.t 1)⟩,
        ⟨none, .mv 28 (.t 2)⟩,
        ⟨none, .mv 29 (.t 4)⟩,
        ⟨none, .call (some 30) n_slices_insertionSortCmpFunc_api_Term [.t 26, .t 27, .t 28, .t 29]⟩])
      (.ret))
     (.skip)))
   (.seq (.seq (.reg [⟨none, .mv 31 (.t 3)⟩,
       ⟨none, .bin 32 .eql (.t 31) (.c (.i .i64 0))⟩])
     (.cond (.t 32) (.seq (.reg [⟨none, .mv 33 (.t 0)⟩,
         ⟨none, .mv 34 (.t 1)⟩,
         ⟨none, .mv 35 (.t 2)⟩,
         ⟨none, .mv 36 (.t 4)⟩,
         ⟨none, .call (some 37) n_slices_heapSortCmpFunc_api_Term [.t 33, .t 34, .t 35, .t 36]⟩])
       (.ret))
      (.skip)))
    (.seq (.seq (.reg [⟨none, .mv 38 (.t 10)⟩,
        ⟨none, .un 39 .not (.t 38)⟩])
      (.cond (.t 39) (.seq (.reg [⟨none, .mv 40 (.t 0)⟩,
          ⟨none, .mv 41 (.t 1)⟩,
          ⟨none, .mv 42 (.t 2)⟩,
          ⟨none, .mv 43 (.t 4)⟩,
          ⟨none, .call (some 44) n_slices_breakPatternsCmpFunc_api_Term [.t 40, .t 41, .t 42, .t 43]⟩])
        (.reg [⟨none, .mv 45 (.t 3)⟩,
          ⟨none, .bin 46 .sub (.t 45) (.c (.i .i64 1))⟩,
          ⟨none, .mv 3 (.t 46)⟩]))
       (.skip)))
     (.seq (.reg [⟨none, .mv 48 (.t 0)⟩,
        ⟨none, .mv 49 (.t 1)⟩,
        ⟨none, .mv 50 (.t 2)⟩,
        ⟨none, .mv 51 (.t 4)⟩,
        ⟨none, .call (some 52) n_slices_choosePivotCmpFunc_api_Term [.t 48, .t 49, .t 50, .t 51]⟩,
        ⟨none, .mv 47 (.t 52)⟩,
        ⟨none, .ext 53 0 (.t 47)⟩,
        ⟨none, .ext 54 1 (.t 47)⟩,
        ⟨none, .mv 13 (.t 53)⟩,
        ⟨none, .mv 14 (.t 54)⟩])
      (.seq (.seq (.reg [⟨none, .mv 55 (.t 14)⟩,
          ⟨none, .bin 56 .eql (.t 55) (.c (.i .i64 2))⟩])
        (.cond (.t 56) (.seq (.reg [⟨none, .mv 57 (.t 0)⟩,
            ⟨none, .mv 58 (.t 1)⟩,
            ⟨none, .mv 59 (.t 2)⟩,
            ⟨none, .mv 60 (.t 4)⟩,
            ⟨none, .call (some 61) n_slices_reverseRangeCmpFunc_api_Term [.t 57, .t 58, .t 59, .t 60]⟩])
          (.seq (.reg [⟨none, .mv 62 (.t 2)⟩,
             ⟨none, .bin 63 .sub (.t 62) (.c (.i .i64 1))⟩,
             ⟨none, .mv 64 (.t 13)⟩,
             ⟨none, .mv 65 (.t 1)⟩,
             ⟨none, .bin 66 .sub (.t 64) (.t 65)⟩,
             ⟨none, .bin 67 .sub (.t 63) (.t 66)⟩,
             ⟨none, .mv 13 (.t 67)⟩])
           (.reg [⟨none, .mv 14 (.c (.i .i64 1))⟩])))
         (.skip)))
       (.seq (.seq (.reg [⟨none, .mv 68 (.t 10)⟩,
           ⟨none, .mv 69 (.t 68)⟩,
           ⟨some (69, true, 70), .mv 70 (.t 11)⟩,
           ⟨none, .pick 71 (.t 69) (.t 70) (.c (.b false))⟩,
           ⟨none, .mv 72 (.t 71)⟩,
           ⟨some (72, true, 73), .mv 73 (.t 14)⟩,
           ⟨some (72, true, 74), .bin 74 .eql (.t 73) (.c (.i .i64 1))⟩,
           ⟨none, .pick 75 (.t 72) (.t 74) (.c (.b false))⟩])
         (.cond (.t 75) (.seq (.reg [⟨none, .mv 76 (.t 0)⟩,
             ⟨none, .mv 77 (.t 1)⟩,
             ⟨none, .mv 78 (.t 2)⟩,
             ⟨none, .mv 79 (.t 4)⟩,
             ⟨none, .call (some 80) n_slices_partialInsertionSortCmpFunc_api_Term [.t 76, .t 77, .t 78, .t 79]⟩])
           (.cond (.t 80) (.ret)
            (.skip)))
          (.skip)))
        (.seq (.seq (.reg [⟨none, .mv 81 (.t 1)⟩,
            ⟨none, .bin 82 .gtr (.t 81) (.c (.i .i64 0))⟩,
            ⟨none, .mv 83 (.t 82)⟩,
            ⟨some (83, true, 84), .mv 84 (.t 4)⟩,
            ⟨some (83, true, 85), .mv 85 (.t 0)⟩,
            ⟨some (83, true, 86), .mv 86 (.t 1)⟩,
            ⟨some (83, true, 87), .bin 87 .sub (.t 86) (.c (.i .i64 1))⟩,
            ⟨some (83, true, 88), .iaddrS 88 12 (.t 85) (.t 87)⟩,
            ⟨some (83, true, 89), .load 89 12 true (.t 88)⟩,
            ⟨some (83, true, 90), .mv 90 (.t 0)⟩,
            ⟨some (83, true, 91), .mv 91 (.t 13)⟩,
            ⟨some (83, true, 92), .iaddrS 92 12 (.t 90) (.t 91)⟩,
            ⟨some (83, true, 93), .load 93 12 true (.t 92)⟩,
            ⟨some (83, true, 94), .callv (some 94) (.t 84) [.t 89, .t 93]⟩,
            ⟨some (83, true, 95), .bin 95 .lss (.t 94) (.c (.i .i64 0))⟩,
            ⟨some (83, true, 96), .un 96 .not (.t 95)⟩,
            ⟨none, .pick 97 (.t 83) (.t 96) (.c (.b false))⟩])
          (.cond (.t 97) (.seq (.reg [⟨none, .mv 98 (.t 0)⟩,
              ⟨none, .mv 99 (.t 1)⟩,
              ⟨none, .mv 100 (.t 2)⟩,
              ⟨none, .mv 101 (.t 13)⟩,
              ⟨none, .mv 102 (.t 4)⟩,
              ⟨none, .call (some 103) n_slices_partitionEqualCmpFunc_api_Term [.t 98, .t 99, .t 100, .t 101, .t 102]⟩,
              ⟨none, .mv 15 (.t 103)⟩])
            (.seq (.reg [⟨none, .mv 104 (.t 15)⟩,
               ⟨none, .mv 1 (.t 104)⟩])
             (.exit 1)))
           (.skip)))
         (.seq (.reg [⟨none, .mv 106 (.t 0)⟩,
            ⟨none, .mv 107 (.t 1)⟩,
            ⟨none, .mv 108 (.t 2)⟩,
            ⟨none, .mv 109 (.t 13)⟩,
            ⟨none, .mv 110 (.t 4)⟩,
            ⟨none, .call (some 111) n_slices_partitionCmpFunc_api_Term [.t 106, .t 107, .t 108, .t 109, .t 110]⟩,
            ⟨none, .mv 105 (.t 111)⟩,
            ⟨none, .ext 112 0 (.t 105)⟩,
            ⟨none, .ext 113 1 (.t 105)⟩,
            ⟨none, .mv 16 (.t 112)⟩,
            ⟨none, .mv 17 (.t 113)⟩])
          (.seq (.reg [⟨none, .mv 114 (.t 17)⟩,
             ⟨none, .mv 11 (.t 114)⟩])
           (.seq (.reg [⟨none, .mv 115 (.t 16)⟩,
              ⟨none, .mv 116 (.t 1)⟩,
              ⟨none, .bin 117 .sub (.t 115) (.t 116)⟩,
              ⟨none, .mv 118 (.t 2)⟩,
              ⟨none, .mv 119 (.t 16)⟩,
              ⟨none, .bin 120 .sub (.t 118) (.t 119)⟩,
              ⟨none, .mv 18 (.t 117)⟩,
              ⟨none, .mv 19 (.t 120)⟩])
            (.seq (.reg [⟨none, .mv 121 (.t 12)⟩,
               ⟨none, .bin 122 .quo (.t 121) (.c (.i .i64 8))⟩,
               ⟨none, .mv 20 (.t 122)⟩])
             (.seq (.reg [⟨none, .mv 123 (.t 18)⟩,
                ⟨none, .mv 124 (.t 19)⟩,
                ⟨none, .bin 125 .lss (.t 123) (.t 124)⟩])
              (.cond (.t 125) (.seq (.reg [⟨none, .mv 126 (.t 18)⟩,
                  ⟨none, .mv 127 (.t 20)⟩,
                  ⟨none, .bin 128 .geq (.t 126) (.t 127)⟩,
                  ⟨none, .mv 10 (.t 128)⟩])
                (.seq (.reg [⟨none, .mv 129 (.t 0)⟩,
                   ⟨none, .mv 130 (.t 1)⟩,
                   ⟨none, .mv 131 (.t 16)⟩,
                   ⟨none, .mv 132 (.t 3)⟩,
                   ⟨none, .mv 133 (.t 4)⟩,
                   ⟨none, .call (some 134) n_slices_pdqsortCmpFunc_api_Term [.t 129, .t 130, .t 131, .t 132, .t 133]⟩])
                 (.reg [⟨none, .mv 135 (.t 16)⟩,
                   ⟨none, .bin 136 .add (.t 135) (.c (.i .i64 1))⟩,
                   ⟨none, .mv 1 (.t 136)⟩])))
               (.seq (.reg [⟨none, .mv 137 (.t 19)⟩,
                  ⟨none, .mv 138 (.t 20)⟩,
                  ⟨none, .bin 139 .geq (.t 137) (.t 138)⟩,
                  ⟨none, .mv 10 (.t 139)⟩])
                (.seq (.reg [⟨none, .mv 140 (.t 0)⟩,
                   ⟨none, .mv 141 (.t 16)⟩,
                   ⟨none, .bin 142 .add (.t 141) (.c (.i .i64 1))⟩,
                   ⟨none, .mv 143 (.t 2)⟩,
                   ⟨none, .mv 144 (.t 3)⟩,
                   ⟨none, .mv 145 (.t 4)⟩,
                   ⟨none, .call (some 146) n_slices_pdqsortCmpFunc_api_Term [.t 140, .t 142, .t 143, .t 144, .t 145]⟩])
                 (.reg [⟨none, .mv 147 (.t 16)⟩,
                   ⟨none, .mv 2 (.t 147)⟩])))))))))))))))))
def c_slices_pdqsortCmpFunc_api_Term : Fun := ⟨5, [],
 .seq (.reg [⟨none, .mv 10 (.c (.b true))⟩])
 (.seq (.reg [⟨none, .mv 11 (.c (.b true))⟩])
  (.block 0 (.loop l_slices_pdqsortCmpFunc_api_Term_0)))⟩
/- slices.insertionSortCmpFunc[eliminant/api.Term] -/
def l_slices_insertionSortCmpFunc_api_Term_0 : C :=
 .seq (.seq (.reg [⟨none, .mv 18 (.t 9)⟩,
    ⟨none, .mv 19 (.t 1)⟩,
    ⟨none, .bin 20 .gtr (.t 18) (.t 19)⟩,
    ⟨none, .mv 21 (.t 20)⟩,
    ⟨some (21, true, 22), .mv 22 (.t 3)⟩,
    ⟨some (21, true, 23), .mv 23 (.t 0)⟩,
    ⟨some (21, true, 24), .mv 24 (.t 9)⟩,
    ⟨some (21, true, 25), .iaddrS 25 12 (.t 23) (.t 24)⟩,
    ⟨some (21, true, 26), .load 26 12 true (.t 25)⟩,
    ⟨some (21, true, 27), .mv 27 (.t 0)⟩,
    ⟨some (21, true, 28), .mv 28 (.t 9)⟩,
    ⟨some (21, true, 29), .bin 29 .sub (.t 28) (.c (.i .i64 1))⟩,
    ⟨some (21, true, 30), .iaddrS 30 12 (.t 27) (.t 29)⟩,
    ⟨some (21, true, 31), .load 31 12 true (.t 30)⟩,
    ⟨some (21, true, 32), .callv (some 32) (.t 22) [.t 26, .t 31]⟩,
    ⟨some (21, true, 33), .bin 33 .lss (.t 32) (.c (.i .i64 0))⟩,
    ⟨none, .pick 34 (.t 21) (.t 33) (.c (.b false))⟩])
  (.cond (.t 34) (.skip)
   (.exit 2)))
 (.seq (.block 3 (.reg [⟨none, .mv 37 (.t 0)⟩,
     ⟨none, .mv 38 (.t 9)⟩,
     ⟨none, .mv 39 (.t 0)⟩,
     ⟨none, .mv 40 (.t 9)⟩,
     ⟨none, .bin 41 .sub (.t 40) (.c (.i .i64 1))⟩,
     ⟨none, .mv 42 (.t 0)⟩,
     ⟨none, .mv 43 (.t 9)⟩,
     ⟨none, .bin 44 .sub (.t 43) (.c (.i .i64 1))⟩,
     ⟨none, .iaddrS 45 12 (.t 42) (.t 44)⟩,
     ⟨none, .load 46 12 true (.t 45)⟩,
     ⟨none, .mv 47 (.t 0)⟩,
     ⟨none, .mv 48 (.t 9)⟩,
     ⟨none, .iaddrS 49 12 (.t 47) (.t 48)⟩,
     ⟨none, .load 50 12 true (.t 49)⟩,
     ⟨none, .iaddrS 51 12 (.t 37) (.t 38)⟩,
     ⟨none, .store 12 (.t 51) (.t 46)⟩,
     ⟨none, .iaddrS 52 12 (.t 39) (.t 41)⟩,
     ⟨none, .store 12 (.t 52) (.t 50)⟩]))
  (.reg [⟨none, .mv 35 (.t 9)⟩,
    ⟨none, .bin 36 .sub (.t 35) (.c (.i .i64 1))⟩,
    ⟨none, .mv 9 (.t 36)⟩]))
def l_slices_insertionSortCmpFunc_api_Term_1 : C :=
 .seq (.seq (.reg [⟨none, .mv 12 (.t 8)⟩,
    ⟨none, .mv 13 (.t 2)⟩,
    ⟨none, .bin 14 .lss (.t 12) (.t 13)⟩])
  (.cond (.t 14) (.skip)
   (.exit 0)))
 (.seq (.block 1 (.seq (.reg [⟨none, .mv 17 (.t 8)⟩,
      ⟨none, .mv 9 (.t 17)⟩])
    (.block 2 (.loop l_slices_insertionSortCmpFunc_api_Term_0))))
  (.reg [⟨none, .mv 15 (.t 8)⟩,
    ⟨none, .bin 16 .add (.t 15) (.c (.i .i64 1))⟩,
    ⟨none, .mv 8 (.t 16)⟩]))
def c_slices_insertionSortCmpFunc_api_Term : Fun := ⟨4, [],
 .seq (.reg [⟨none, .mv 10 (.t 1)⟩,
   ⟨none, .bin 11 .add (.t 10) (.c (.i .i64 1))⟩,
   ⟨none, .mv 8 (.t 11)⟩])
 (.block 0 (.loop l_slices_insertionSortCmpFunc_api_Term_1))⟩
/- math/bits.Len -/
def c_math_bits_Len : Fun := ⟨1, [.t 2],
 .seq (.reg [⟨none, .mv 2 (.c (.i .i64 0))⟩])
 (.seq (.cond (.c (.b false)) (.seq (.reg [⟨none, .mv 3 (.t 0)⟩,
      ⟨none, .conv 4 .u32 (.t 3)⟩,
      ⟨none, .call (some 5) n_math_bits_Len32 [.t 4]⟩,
      ⟨none, .mv 2 (.t 5)⟩])
    (.ret))
   (.skip))
  (.seq (.reg [⟨none, .mv 6 (.t 0)⟩,
     ⟨none, .call (some 7) n_math_bits_Len64 [.t 6]⟩,
     ⟨none, .mv 2 (.t 7)⟩])
   (.ret)))⟩
/- math/bits.Len64 -/
def c_math_bits_Len64 : Fun := ⟨1, [.t 2],
 .seq (.reg [⟨none, .mv 2 (.c (.i .i64 0))⟩])
 (.seq (.seq (.reg [⟨none, .mv 3 (.t 0)⟩,
     ⟨none, .bin 4 .geq (.t 3) (.c (.i .u64 4294967296))⟩])
   (.cond (.t 4) (.seq (.reg [⟨none, .mv 5 (.t 0)⟩,
       ⟨none, .bin 6 .shr (.t 5) (.c (.i .u64 32))⟩,
       ⟨none, .mv 0 (.t 6)⟩])
     (.reg [⟨none, .mv 2 (.c (.i .i64 32))⟩]))
    (.skip)))
  (.seq (.seq (.reg [⟨none, .mv 7 (.t 0)⟩,
      ⟨none, .bin 8 .geq (.t 7) (.c (.i .u64 65536))⟩])
    (.cond (.t 8) (.seq (.reg [⟨none, .mv 9 (.t 0)⟩,
        ⟨none, .bin 10 .shr (.t 9) (.c (.i .u64 16))⟩,
        ⟨none, .mv 0 (.t 10)⟩])
      (.reg [⟨none, .mv 11 (.t 2)⟩,
        ⟨none, .bin 12 .add (.t 11) (.c (.i .i64 16))⟩,
        ⟨none, .mv 2 (.t 12)⟩]))
     (.skip)))
   (.seq (.seq (.reg [⟨none, .mv 13 (.t 0)⟩,
       ⟨none, .bin 14 .geq (.t 13) (.c (.i .u64 256))⟩])
     (.cond (.t 14) (.seq (.reg [⟨none, .mv 15 (.t 0)⟩,
         ⟨none, .bin 16 .shr (.t 15) (.c (.i .u64 8))⟩,
         ⟨none, .mv 0 (.t 16)⟩])
       (.reg [⟨none, .mv 17 (.t 2)⟩,
         ⟨none, .bin 18 .add (.t 17) (.c (.i .i64 8))⟩,
         ⟨none, .mv 2 (.t 18)⟩]))
      (.skip)))
    (.seq (.reg [⟨none, .mv 19 (.t 2)⟩,
       ⟨none, .mv 20 (.t 0)⟩,
       ⟨none, .conv 21 .u8 (.t 20)⟩,
       ⟨none, .idxc 22 [0, 1, 2, 2, 3, 3, 3, 3, 4, 4, 4, 4, 4, 4, 4, 4, 5, 5, 5, 5, 5, 5, 5, 5, 5, 5, 5, 5, 5, 5, 5, 5, 6, 6, 6, 6, 6, 6, 6, 6, 6, 6, 6, 6, 6, 6, 6, 6, 6, 6, 6, 6, 6, 6, 6, 6, 6, 6, 6, 6, 6, 6, 6, 6, 7, 7, 7, 7, 7, 7, 7, 7, 7, 7, 7, 7, 7, 7, 7, 7, 7, 7, 7, 7, 7, 7, 7, 7, 7, 7, 7, 7, 7, 7, 7, 7, 7, 7, 7, 7, 7, 7, 7, 7, 7, 7, 7, 7, 7, 7, 7, 7, 7, 7, 7, 7, 7, 7, 7, 7, 7, 7, 7, 7, 7, 7, 7, 7, 8, 8, 8, 8, 8, 8, 8, 8, 8, 8, 8, 8, 8, 8, 8, 8, 8, 8, 8, 8, 8, 8, 8, 8, 8, 8, 8, 8, 8, 8, 8, 8, 8, 8, 8, 8, 8, 8, 8, 8, 8, 8, 8, 8, 8, 8, 8, 8, 8, 8, 8, 8, 8, 8, 8, 8, 8, 8, 8, 8, 8, 8, 8, 8, 8, 8, 8, 8, 8, 8, 8, 8, 8, 8, 8, 8, 8, 8, 8, 8, 8, 8, 8, 8, 8, 8, 8, 8, 8, 8, 8, 8, 8, 8, 8, 8, 8, 8, 8, 8, 8, 8, 8, 8, 8, 8, 8, 8, 8, 8, 8, 8, 8, 8, 8, 8, 8, 8, 8, 8, 8, 8, 8, 8, 8, 8, 8, 8] (.t 21)⟩,
       ⟨none, .conv 23 .i64 (.t 22)⟩,
       ⟨none, .bin 24 .add (.t 19) (.t 23)⟩,
       ⟨none, .mv 2 (.t 24)⟩])
     (.ret)))))⟩
end Go.Ev

/- A table of code for runs, and that the program has it. Printed by a program of mine. -/
namespace Go.Ev
open Go Go.Pm Go.Proofs
set_option maxRecDepth 100000
def KTL : List (Nat × Fun) := [(n_cmp_Compare_int, c_cmp_Compare_int), (n_cmp_Compare_uint32, c_cmp_Compare_uint32), (n_cmp_isNaN_int, c_cmp_isNaN_int), (n_cmp_isNaN_uint32, c_cmp_isNaN_uint32), (n_division_Divide, c_division_Divide), (n_division_Spair, c_division_Spair), (n_division_Sum, c_division_Sum), (n_division_divide, c_division_divide), (n_division_leadOf, c_division_leadOf), (n_division_lead_under, c_division_lead_under), (n_division_leadsOf, c_division_leadsOf), (n_division_pairs, c_division_pairs), (n_integer_Add, c_integer_Add), (n_integer_DivMod, c_integer_DivMod), (n_integer_Gcd, c_integer_Gcd), (n_integer_Mul, c_integer_Mul), (n_integer_Neg, c_integer_Neg), (n_integer_Of, c_integer_Of), (n_integer_Sign, c_integer_Sign), (n_integer_Sub, c_integer_Sub), (n_integer_nat_add, c_integer_nat_add), (n_integer_nat_at, c_integer_nat_at), (n_integer_nat_cmp, c_integer_nat_cmp), (n_integer_nat_div, c_integer_nat_div), (n_integer_nat_mul, c_integer_nat_mul), (n_integer_nat_norm, c_integer_nat_norm), (n_integer_nat_reduce, c_integer_nat_reduce), (n_integer_nat_shl, c_integer_nat_shl), (n_integer_nat_shr, c_integer_nat_shr), (n_integer_nat_signed, c_integer_nat_signed), (n_integer_nat_sub, c_integer_nat_sub), (n_integer_nat_word, c_integer_nat_word), (n_integer_natural, c_integer_natural), (n_law19_sanity, c_law19_sanity), (n_math_bits_Add32, c_math_bits_Add32), (n_math_bits_Div32, c_math_bits_Div32), (n_math_bits_LeadingZeros32, c_math_bits_LeadingZeros32), (n_math_bits_Len32, c_math_bits_Len32), (n_math_bits_Sub32, c_math_bits_Sub32), (n_monomial_Cmp, c_monomial_Cmp), (n_monomial_Degree, c_monomial_Degree), (n_monomial_Divides, c_monomial_Divides), (n_monomial_Gcd, c_monomial_Gcd), (n_monomial_Gcd_1, c_monomial_Gcd_1), (n_monomial_Lcm, c_monomial_Lcm), (n_monomial_Lcm_1, c_monomial_Lcm_1), (n_monomial_Mul, c_monomial_Mul), (n_monomial_Mul_1, c_monomial_Mul_1), (n_monomial_Quo, c_monomial_Quo), (n_monomial_Quo_1, c_monomial_Quo_1), (n_monomial_Valid, c_monomial_Valid), (n_monomial_each, c_monomial_each), (n_order_Cmp, c_order_Cmp), (n_order_Valid, c_order_Valid), (n_polynomial_Add, c_polynomial_Add), (n_polynomial_Add_1, c_polynomial_Add_1), (n_polynomial_Constant, c_polynomial_Constant), (n_polynomial_Lead, c_polynomial_Lead), (n_polynomial_Lead_1, c_polynomial_Lead_1), (n_polynomial_Mul, c_polynomial_Mul), (n_polynomial_Sub, c_polynomial_Sub), (n_polynomial_Times, c_polynomial_Times), (n_polynomial_merge, c_polynomial_merge), (n_polynomial_sum_add, c_polynomial_sum_add), (n_rational_Add, c_rational_Add), (n_rational_Div, c_rational_Div), (n_rational_Inv, c_rational_Inv), (n_rational_Mul, c_rational_Mul), (n_rational_Neg, c_rational_Neg), (n_rational_New, c_rational_New), (n_rational_Sign, c_rational_Sign), (n_rational_Sub, c_rational_Sub), (n_rational_Whole, c_rational_Whole), (n_rational_lowest, c_rational_lowest), (n_rational_of, c_rational_of), (n_rational_product, c_rational_product), (n_ref01_Add, c_ref01_Add), (n_ref01_DivMod, c_ref01_DivMod), (n_ref01_Gcd, c_ref01_Gcd), (n_ref01_Mul, c_ref01_Mul), (n_ref01_Neg, c_ref01_Neg), (n_ref01_Of, c_ref01_Of), (n_ref01_Sign, c_ref01_Sign), (n_ref01_added, c_ref01_added), (n_ref01_common, c_ref01_common), (n_ref01_compared, c_ref01_compared), (n_ref01_divided, c_ref01_divided), (n_ref01_euclid, c_ref01_euclid), (n_ref01_guess, c_ref01_guess), (n_ref01_lessen, c_ref01_lessen), (n_ref01_made, c_ref01_made), (n_ref01_number, c_ref01_number), (n_ref01_restore, c_ref01_restore), (n_ref01_shortly, c_ref01_shortly), (n_ref01_taken, c_ref01_taken), (n_ref01_times, c_ref01_times), (n_ref01_trim, c_ref01_trim), (n_ref01_word, c_ref01_word), (n_ref01_words, c_ref01_words), (n_ref02_Add, c_ref02_Add), (n_ref02_Mul, c_ref02_Mul), (n_ref02_Same, c_ref02_Same), (n_ref02_Sign, c_ref02_Sign), (n_ref02_Whole, c_ref02_Whole), (n_ref02_exact, c_ref02_exact), (n_ref02_lowest, c_ref02_lowest), (n_ref02_same, c_ref02_same), (n_ref04_Cmp, c_ref04_Cmp), (n_ref04_Mul, c_ref04_Mul), (n_ref04_Valid, c_ref04_Valid), (n_ref05_Lex, c_ref05_Lex), (n_ref06_Add, c_ref06_Add), (n_ref06_By, c_ref06_By), (n_ref06_Constant, c_ref06_Constant), (n_ref06_Int, c_ref06_Int), (n_ref06_Mul, c_ref06_Mul), (n_ref06_Same, c_ref06_Same), (n_ref06_SameList, c_ref06_SameList), (n_ref06_SameTerm, c_ref06_SameTerm), (n_ref06_Scale, c_ref06_Scale), (n_ref06_Sub, c_ref06_Sub), (n_ref06_Times, c_ref06_Times), (n_ref06_Var, c_ref06_Var), (n_ref06_X, c_ref06_X), (n_slices_Compare_int_int, c_slices_Compare_int_int), (n_slices_ContainsFunc_api_Poly_api_Poly, c_slices_ContainsFunc_api_Poly_api_Poly), (n_slices_IndexFunc_api_Poly_api_Poly, c_slices_IndexFunc_api_Poly_api_Poly), (n_slices_MaxFunc_api_Poly_api_Term, c_slices_MaxFunc_api_Poly_api_Term), (n_syzygy_Express, c_syzygy_Express), (n_syzygy_Is, c_syzygy_Is), (n_syzygy_Schreyer, c_syzygy_Schreyer), (n_syzygy_Schreyer_1, c_syzygy_Schreyer_1), (n_syzygy_constant, c_syzygy_constant), (n_syzygy_leads, c_syzygy_leads), (n_syzygy_quotient, c_syzygy_quotient), (n_syzygy_vector_plus, c_syzygy_vector_plus), (n_syzygy_vector_scaled, c_syzygy_vector_scaled)]
def KT : Cfg := ⟨fcOf, fun f => (KTL.find? (·.1 == f)).map (·.2)⟩
theorem KT_cmp_Compare_int : HasK KT Tryz.prog n_cmp_Compare_int c_cmp_Compare_int := ⟨_, Tryz.func261, ne_of_beq (by kernel_rfl), by kernel_rfl⟩
theorem KT_cmp_Compare_uint32 : HasK KT Tryz.prog n_cmp_Compare_uint32 c_cmp_Compare_uint32 := ⟨_, Tryz.func300, ne_of_beq (by kernel_rfl), by kernel_rfl⟩
theorem KT_cmp_isNaN_int : HasK KT Tryz.prog n_cmp_isNaN_int c_cmp_isNaN_int := ⟨_, Tryz.func288, ne_of_beq (by kernel_rfl), by kernel_rfl⟩
theorem KT_cmp_isNaN_uint32 : HasK KT Tryz.prog n_cmp_isNaN_uint32 c_cmp_isNaN_uint32 := ⟨_, Tryz.func322, ne_of_beq (by kernel_rfl), by kernel_rfl⟩
theorem KT_division_Divide : HasK KT Tryz.prog n_division_Divide c_division_Divide := ⟨_, Tryz.func94, ne_of_beq (by kernel_rfl), by kernel_rfl⟩
theorem KT_division_Spair : HasK KT Tryz.prog n_division_Spair c_division_Spair := ⟨_, Tryz.func93, ne_of_beq (by kernel_rfl), by kernel_rfl⟩
theorem KT_division_Sum : HasK KT Tryz.prog n_division_Sum c_division_Sum := ⟨_, Tryz.func77, ne_of_beq (by kernel_rfl), by kernel_rfl⟩
theorem KT_division_divide : HasK KT Tryz.prog n_division_divide c_division_divide := ⟨_, Tryz.func170, ne_of_beq (by kernel_rfl), by kernel_rfl⟩
theorem KT_division_leadOf : HasK KT Tryz.prog n_division_leadOf c_division_leadOf := ⟨_, Tryz.func167, ne_of_beq (by kernel_rfl), by kernel_rfl⟩
theorem KT_division_lead_under : HasK KT Tryz.prog n_division_lead_under c_division_lead_under := ⟨_, Tryz.func173, ne_of_beq (by kernel_rfl), by kernel_rfl⟩
theorem KT_division_leadsOf : HasK KT Tryz.prog n_division_leadsOf c_division_leadsOf := ⟨_, Tryz.func165, ne_of_beq (by kernel_rfl), by kernel_rfl⟩
theorem KT_division_pairs : HasK KT Tryz.prog n_division_pairs c_division_pairs := ⟨_, Tryz.func166, ne_of_beq (by kernel_rfl), by kernel_rfl⟩
theorem KT_integer_Add : HasK KT Tryz.prog n_integer_Add c_integer_Add := ⟨_, Tryz.func249, ne_of_beq (by kernel_rfl), by kernel_rfl⟩
theorem KT_integer_DivMod : HasK KT Tryz.prog n_integer_DivMod c_integer_DivMod := ⟨_, Tryz.func279, ne_of_beq (by kernel_rfl), by kernel_rfl⟩
theorem KT_integer_Gcd : HasK KT Tryz.prog n_integer_Gcd c_integer_Gcd := ⟨_, Tryz.func278, ne_of_beq (by kernel_rfl), by kernel_rfl⟩
theorem KT_integer_Mul : HasK KT Tryz.prog n_integer_Mul c_integer_Mul := ⟨_, Tryz.func253, ne_of_beq (by kernel_rfl), by kernel_rfl⟩
theorem KT_integer_Neg : HasK KT Tryz.prog n_integer_Neg c_integer_Neg := ⟨_, Tryz.func195, ne_of_beq (by kernel_rfl), by kernel_rfl⟩
theorem KT_integer_Of : HasK KT Tryz.prog n_integer_Of c_integer_Of := ⟨_, Tryz.func204, ne_of_beq (by kernel_rfl), by kernel_rfl⟩
theorem KT_integer_Sign : HasK KT Tryz.prog n_integer_Sign c_integer_Sign := ⟨_, Tryz.func252, ne_of_beq (by kernel_rfl), by kernel_rfl⟩
theorem KT_integer_Sub : HasK KT Tryz.prog n_integer_Sub c_integer_Sub := ⟨_, Tryz.func250, ne_of_beq (by kernel_rfl), by kernel_rfl⟩
theorem KT_integer_nat_add : HasK KT Tryz.prog n_integer_nat_add c_integer_nat_add := ⟨_, Tryz.func280, ne_of_beq (by kernel_rfl), by kernel_rfl⟩
theorem KT_integer_nat_at : HasK KT Tryz.prog n_integer_nat_at c_integer_nat_at := ⟨_, Tryz.func299, ne_of_beq (by kernel_rfl), by kernel_rfl⟩
theorem KT_integer_nat_cmp : HasK KT Tryz.prog n_integer_nat_cmp c_integer_nat_cmp := ⟨_, Tryz.func281, ne_of_beq (by kernel_rfl), by kernel_rfl⟩
theorem KT_integer_nat_div : HasK KT Tryz.prog n_integer_nat_div c_integer_nat_div := ⟨_, Tryz.func297, ne_of_beq (by kernel_rfl), by kernel_rfl⟩
theorem KT_integer_nat_mul : HasK KT Tryz.prog n_integer_nat_mul c_integer_nat_mul := ⟨_, Tryz.func283, ne_of_beq (by kernel_rfl), by kernel_rfl⟩
theorem KT_integer_nat_norm : HasK KT Tryz.prog n_integer_nat_norm c_integer_nat_norm := ⟨_, Tryz.func284, ne_of_beq (by kernel_rfl), by kernel_rfl⟩
theorem KT_integer_nat_reduce : HasK KT Tryz.prog n_integer_nat_reduce c_integer_nat_reduce := ⟨_, Tryz.func320, ne_of_beq (by kernel_rfl), by kernel_rfl⟩
theorem KT_integer_nat_shl : HasK KT Tryz.prog n_integer_nat_shl c_integer_nat_shl := ⟨_, Tryz.func319, ne_of_beq (by kernel_rfl), by kernel_rfl⟩
theorem KT_integer_nat_shr : HasK KT Tryz.prog n_integer_nat_shr c_integer_nat_shr := ⟨_, Tryz.func321, ne_of_beq (by kernel_rfl), by kernel_rfl⟩
theorem KT_integer_nat_signed : HasK KT Tryz.prog n_integer_nat_signed c_integer_nat_signed := ⟨_, Tryz.func254, ne_of_beq (by kernel_rfl), by kernel_rfl⟩
theorem KT_integer_nat_sub : HasK KT Tryz.prog n_integer_nat_sub c_integer_nat_sub := ⟨_, Tryz.func282, ne_of_beq (by kernel_rfl), by kernel_rfl⟩
theorem KT_integer_nat_word : HasK KT Tryz.prog n_integer_nat_word c_integer_nat_word := ⟨_, Tryz.func317, ne_of_beq (by kernel_rfl), by kernel_rfl⟩
theorem KT_integer_natural : HasK KT Tryz.prog n_integer_natural c_integer_natural := ⟨_, Tryz.func259, ne_of_beq (by kernel_rfl), by kernel_rfl⟩
theorem KT_law19_sanity : HasK KT Tryz.prog n_law19_sanity c_law19_sanity := ⟨_, Tryz.func18, ne_of_beq (by kernel_rfl), by kernel_rfl⟩
theorem KT_math_bits_Add32 : HasK KT Tryz.prog n_math_bits_Add32 c_math_bits_Add32 := ⟨_, Tryz.func298, ne_of_beq (by kernel_rfl), by kernel_rfl⟩
theorem KT_math_bits_Div32 : HasK KT Tryz.prog n_math_bits_Div32 c_math_bits_Div32 := ⟨_, Tryz.func329, ne_of_beq (by kernel_rfl), by kernel_rfl⟩
theorem KT_math_bits_LeadingZeros32 : HasK KT Tryz.prog n_math_bits_LeadingZeros32 c_math_bits_LeadingZeros32 := ⟨_, Tryz.func318, ne_of_beq (by kernel_rfl), by kernel_rfl⟩
theorem KT_math_bits_Len32 : HasK KT Tryz.prog n_math_bits_Len32 c_math_bits_Len32 := ⟨_, Tryz.func310, ne_of_beq (by kernel_rfl), by kernel_rfl⟩
theorem KT_math_bits_Sub32 : HasK KT Tryz.prog n_math_bits_Sub32 c_math_bits_Sub32 := ⟨_, Tryz.func301, ne_of_beq (by kernel_rfl), by kernel_rfl⟩
theorem KT_monomial_Cmp : HasK KT Tryz.prog n_monomial_Cmp c_monomial_Cmp := ⟨_, Tryz.func190, ne_of_beq (by kernel_rfl), by kernel_rfl⟩
theorem KT_monomial_Degree : HasK KT Tryz.prog n_monomial_Degree c_monomial_Degree := ⟨_, Tryz.func168, ne_of_beq (by kernel_rfl), by kernel_rfl⟩
theorem KT_monomial_Divides : HasK KT Tryz.prog n_monomial_Divides c_monomial_Divides := ⟨_, Tryz.func193, ne_of_beq (by kernel_rfl), by kernel_rfl⟩
theorem KT_monomial_Gcd : HasK KT Tryz.prog n_monomial_Gcd c_monomial_Gcd := ⟨_, Tryz.func169, ne_of_beq (by kernel_rfl), by kernel_rfl⟩
theorem KT_monomial_Gcd_1 : HasK KT Tryz.prog n_monomial_Gcd_1 c_monomial_Gcd_1 := ⟨_, Tryz.func247, ne_of_beq (by kernel_rfl), by kernel_rfl⟩
theorem KT_monomial_Lcm : HasK KT Tryz.prog n_monomial_Lcm c_monomial_Lcm := ⟨_, Tryz.func92, ne_of_beq (by kernel_rfl), by kernel_rfl⟩
theorem KT_monomial_Lcm_1 : HasK KT Tryz.prog n_monomial_Lcm_1 c_monomial_Lcm_1 := ⟨_, Tryz.func172, ne_of_beq (by kernel_rfl), by kernel_rfl⟩
theorem KT_monomial_Mul : HasK KT Tryz.prog n_monomial_Mul c_monomial_Mul := ⟨_, Tryz.func104, ne_of_beq (by kernel_rfl), by kernel_rfl⟩
theorem KT_monomial_Mul_1 : HasK KT Tryz.prog n_monomial_Mul_1 c_monomial_Mul_1 := ⟨_, Tryz.func188, ne_of_beq (by kernel_rfl), by kernel_rfl⟩
theorem KT_monomial_Quo : HasK KT Tryz.prog n_monomial_Quo c_monomial_Quo := ⟨_, Tryz.func107, ne_of_beq (by kernel_rfl), by kernel_rfl⟩
theorem KT_monomial_Quo_1 : HasK KT Tryz.prog n_monomial_Quo_1 c_monomial_Quo_1 := ⟨_, Tryz.func194, ne_of_beq (by kernel_rfl), by kernel_rfl⟩
theorem KT_monomial_Valid : HasK KT Tryz.prog n_monomial_Valid c_monomial_Valid := ⟨_, Tryz.func189, ne_of_beq (by kernel_rfl), by kernel_rfl⟩
theorem KT_monomial_each : HasK KT Tryz.prog n_monomial_each c_monomial_each := ⟨_, Tryz.func171, ne_of_beq (by kernel_rfl), by kernel_rfl⟩
theorem KT_order_Cmp : HasK KT Tryz.prog n_order_Cmp c_order_Cmp := ⟨_, Tryz.func105, ne_of_beq (by kernel_rfl), by kernel_rfl⟩
theorem KT_order_Valid : HasK KT Tryz.prog n_order_Valid c_order_Valid := ⟨_, Tryz.func87, ne_of_beq (by kernel_rfl), by kernel_rfl⟩
theorem KT_polynomial_Add : HasK KT Tryz.prog n_polynomial_Add c_polynomial_Add := ⟨_, Tryz.func97, ne_of_beq (by kernel_rfl), by kernel_rfl⟩
theorem KT_polynomial_Add_1 : HasK KT Tryz.prog n_polynomial_Add_1 c_polynomial_Add_1 := ⟨_, Tryz.func177, ne_of_beq (by kernel_rfl), by kernel_rfl⟩
theorem KT_polynomial_Constant : HasK KT Tryz.prog n_polynomial_Constant c_polynomial_Constant := ⟨_, Tryz.func112, ne_of_beq (by kernel_rfl), by kernel_rfl⟩
theorem KT_polynomial_Lead : HasK KT Tryz.prog n_polynomial_Lead c_polynomial_Lead := ⟨_, Tryz.func103, ne_of_beq (by kernel_rfl), by kernel_rfl⟩
theorem KT_polynomial_Lead_1 : HasK KT Tryz.prog n_polynomial_Lead_1 c_polynomial_Lead_1 := ⟨_, Tryz.func187, ne_of_beq (by kernel_rfl), by kernel_rfl⟩
theorem KT_polynomial_Mul : HasK KT Tryz.prog n_polynomial_Mul c_polynomial_Mul := ⟨_, Tryz.func109, ne_of_beq (by kernel_rfl), by kernel_rfl⟩
theorem KT_polynomial_Sub : HasK KT Tryz.prog n_polynomial_Sub c_polynomial_Sub := ⟨_, Tryz.func99, ne_of_beq (by kernel_rfl), by kernel_rfl⟩
theorem KT_polynomial_Times : HasK KT Tryz.prog n_polynomial_Times c_polynomial_Times := ⟨_, Tryz.func174, ne_of_beq (by kernel_rfl), by kernel_rfl⟩
theorem KT_polynomial_merge : HasK KT Tryz.prog n_polynomial_merge c_polynomial_merge := ⟨_, Tryz.func175, ne_of_beq (by kernel_rfl), by kernel_rfl⟩
theorem KT_polynomial_sum_add : HasK KT Tryz.prog n_polynomial_sum_add c_polynomial_sum_add := ⟨_, Tryz.func196, ne_of_beq (by kernel_rfl), by kernel_rfl⟩
theorem KT_rational_Add : HasK KT Tryz.prog n_rational_Add c_rational_Add := ⟨_, Tryz.func176, ne_of_beq (by kernel_rfl), by kernel_rfl⟩
theorem KT_rational_Div : HasK KT Tryz.prog n_rational_Div c_rational_Div := ⟨_, Tryz.func106, ne_of_beq (by kernel_rfl), by kernel_rfl⟩
theorem KT_rational_Inv : HasK KT Tryz.prog n_rational_Inv c_rational_Inv := ⟨_, Tryz.func178, ne_of_beq (by kernel_rfl), by kernel_rfl⟩
theorem KT_rational_Mul : HasK KT Tryz.prog n_rational_Mul c_rational_Mul := ⟨_, Tryz.func197, ne_of_beq (by kernel_rfl), by kernel_rfl⟩
theorem KT_rational_Neg : HasK KT Tryz.prog n_rational_Neg c_rational_Neg := ⟨_, Tryz.func108, ne_of_beq (by kernel_rfl), by kernel_rfl⟩
theorem KT_rational_New : HasK KT Tryz.prog n_rational_New c_rational_New := ⟨_, Tryz.func191, ne_of_beq (by kernel_rfl), by kernel_rfl⟩
theorem KT_rational_Sign : HasK KT Tryz.prog n_rational_Sign c_rational_Sign := ⟨_, Tryz.func202, ne_of_beq (by kernel_rfl), by kernel_rfl⟩
theorem KT_rational_Sub : HasK KT Tryz.prog n_rational_Sub c_rational_Sub := ⟨_, Tryz.func179, ne_of_beq (by kernel_rfl), by kernel_rfl⟩
theorem KT_rational_Whole : HasK KT Tryz.prog n_rational_Whole c_rational_Whole := ⟨_, Tryz.func113, ne_of_beq (by kernel_rfl), by kernel_rfl⟩
theorem KT_rational_lowest : HasK KT Tryz.prog n_rational_lowest c_rational_lowest := ⟨_, Tryz.func248, ne_of_beq (by kernel_rfl), by kernel_rfl⟩
theorem KT_rational_of : HasK KT Tryz.prog n_rational_of c_rational_of := ⟨_, Tryz.func203, ne_of_beq (by kernel_rfl), by kernel_rfl⟩
theorem KT_rational_product : HasK KT Tryz.prog n_rational_product c_rational_product := ⟨_, Tryz.func192, ne_of_beq (by kernel_rfl), by kernel_rfl⟩
theorem KT_ref01_Add : HasK KT Tryz.prog n_ref01_Add c_ref01_Add := ⟨_, Tryz.func128, ne_of_beq (by kernel_rfl), by kernel_rfl⟩
theorem KT_ref01_DivMod : HasK KT Tryz.prog n_ref01_DivMod c_ref01_DivMod := ⟨_, Tryz.func273, ne_of_beq (by kernel_rfl), by kernel_rfl⟩
theorem KT_ref01_Gcd : HasK KT Tryz.prog n_ref01_Gcd c_ref01_Gcd := ⟨_, Tryz.func227, ne_of_beq (by kernel_rfl), by kernel_rfl⟩
theorem KT_ref01_Mul : HasK KT Tryz.prog n_ref01_Mul c_ref01_Mul := ⟨_, Tryz.func129, ne_of_beq (by kernel_rfl), by kernel_rfl⟩
theorem KT_ref01_Neg : HasK KT Tryz.prog n_ref01_Neg c_ref01_Neg := ⟨_, Tryz.func228, ne_of_beq (by kernel_rfl), by kernel_rfl⟩
theorem KT_ref01_Of : HasK KT Tryz.prog n_ref01_Of c_ref01_Of := ⟨_, Tryz.func86, ne_of_beq (by kernel_rfl), by kernel_rfl⟩
theorem KT_ref01_Sign : HasK KT Tryz.prog n_ref01_Sign c_ref01_Sign := ⟨_, Tryz.func133, ne_of_beq (by kernel_rfl), by kernel_rfl⟩
theorem KT_ref01_added : HasK KT Tryz.prog n_ref01_added c_ref01_added := ⟨_, Tryz.func223, ne_of_beq (by kernel_rfl), by kernel_rfl⟩
theorem KT_ref01_common : HasK KT Tryz.prog n_ref01_common c_ref01_common := ⟨_, Tryz.func272, ne_of_beq (by kernel_rfl), by kernel_rfl⟩
theorem KT_ref01_compared : HasK KT Tryz.prog n_ref01_compared c_ref01_compared := ⟨_, Tryz.func224, ne_of_beq (by kernel_rfl), by kernel_rfl⟩
theorem KT_ref01_divided : HasK KT Tryz.prog n_ref01_divided c_ref01_divided := ⟨_, Tryz.func296, ne_of_beq (by kernel_rfl), by kernel_rfl⟩
theorem KT_ref01_euclid : HasK KT Tryz.prog n_ref01_euclid c_ref01_euclid := ⟨_, Tryz.func294, ne_of_beq (by kernel_rfl), by kernel_rfl⟩
theorem KT_ref01_guess : HasK KT Tryz.prog n_ref01_guess c_ref01_guess := ⟨_, Tryz.func314, ne_of_beq (by kernel_rfl), by kernel_rfl⟩
theorem KT_ref01_lessen : HasK KT Tryz.prog n_ref01_lessen c_ref01_lessen := ⟨_, Tryz.func315, ne_of_beq (by kernel_rfl), by kernel_rfl⟩
theorem KT_ref01_made : HasK KT Tryz.prog n_ref01_made c_ref01_made := ⟨_, Tryz.func162, ne_of_beq (by kernel_rfl), by kernel_rfl⟩
theorem KT_ref01_number : HasK KT Tryz.prog n_ref01_number c_ref01_number := ⟨_, Tryz.func295, ne_of_beq (by kernel_rfl), by kernel_rfl⟩
theorem KT_ref01_restore : HasK KT Tryz.prog n_ref01_restore c_ref01_restore := ⟨_, Tryz.func316, ne_of_beq (by kernel_rfl), by kernel_rfl⟩
theorem KT_ref01_shortly : HasK KT Tryz.prog n_ref01_shortly c_ref01_shortly := ⟨_, Tryz.func313, ne_of_beq (by kernel_rfl), by kernel_rfl⟩
theorem KT_ref01_taken : HasK KT Tryz.prog n_ref01_taken c_ref01_taken := ⟨_, Tryz.func225, ne_of_beq (by kernel_rfl), by kernel_rfl⟩
theorem KT_ref01_times : HasK KT Tryz.prog n_ref01_times c_ref01_times := ⟨_, Tryz.func226, ne_of_beq (by kernel_rfl), by kernel_rfl⟩
theorem KT_ref01_trim : HasK KT Tryz.prog n_ref01_trim c_ref01_trim := ⟨_, Tryz.func245, ne_of_beq (by kernel_rfl), by kernel_rfl⟩
theorem KT_ref01_word : HasK KT Tryz.prog n_ref01_word c_ref01_word := ⟨_, Tryz.func271, ne_of_beq (by kernel_rfl), by kernel_rfl⟩
theorem KT_ref01_words : HasK KT Tryz.prog n_ref01_words c_ref01_words := ⟨_, Tryz.func163, ne_of_beq (by kernel_rfl), by kernel_rfl⟩
theorem KT_ref02_Add : HasK KT Tryz.prog n_ref02_Add c_ref02_Add := ⟨_, Tryz.func75, ne_of_beq (by kernel_rfl), by kernel_rfl⟩
theorem KT_ref02_Mul : HasK KT Tryz.prog n_ref02_Mul c_ref02_Mul := ⟨_, Tryz.func131, ne_of_beq (by kernel_rfl), by kernel_rfl⟩
theorem KT_ref02_Same : HasK KT Tryz.prog n_ref02_Same c_ref02_Same := ⟨_, Tryz.func220, ne_of_beq (by kernel_rfl), by kernel_rfl⟩
theorem KT_ref02_Sign : HasK KT Tryz.prog n_ref02_Sign c_ref02_Sign := ⟨_, Tryz.func57, ne_of_beq (by kernel_rfl), by kernel_rfl⟩
theorem KT_ref02_Whole : HasK KT Tryz.prog n_ref02_Whole c_ref02_Whole := ⟨_, Tryz.func29, ne_of_beq (by kernel_rfl), by kernel_rfl⟩
theorem KT_ref02_exact : HasK KT Tryz.prog n_ref02_exact c_ref02_exact := ⟨_, Tryz.func229, ne_of_beq (by kernel_rfl), by kernel_rfl⟩
theorem KT_ref02_lowest : HasK KT Tryz.prog n_ref02_lowest c_ref02_lowest := ⟨_, Tryz.func130, ne_of_beq (by kernel_rfl), by kernel_rfl⟩
theorem KT_ref02_same : HasK KT Tryz.prog n_ref02_same c_ref02_same := ⟨_, Tryz.func270, ne_of_beq (by kernel_rfl), by kernel_rfl⟩
theorem KT_ref04_Cmp : HasK KT Tryz.prog n_ref04_Cmp c_ref04_Cmp := ⟨_, Tryz.func74, ne_of_beq (by kernel_rfl), by kernel_rfl⟩
theorem KT_ref04_Mul : HasK KT Tryz.prog n_ref04_Mul c_ref04_Mul := ⟨_, Tryz.func161, ne_of_beq (by kernel_rfl), by kernel_rfl⟩
theorem KT_ref04_Valid : HasK KT Tryz.prog n_ref04_Valid c_ref04_Valid := ⟨_, Tryz.func201, ne_of_beq (by kernel_rfl), by kernel_rfl⟩
theorem KT_ref05_Lex : HasK KT Tryz.prog n_ref05_Lex c_ref05_Lex := ⟨_, Tryz.func63, ne_of_beq (by kernel_rfl), by kernel_rfl⟩
theorem KT_ref06_Add : HasK KT Tryz.prog n_ref06_Add c_ref06_Add := ⟨_, Tryz.func21, ne_of_beq (by kernel_rfl), by kernel_rfl⟩
theorem KT_ref06_By : HasK KT Tryz.prog n_ref06_By c_ref06_By := ⟨_, Tryz.func22, ne_of_beq (by kernel_rfl), by kernel_rfl⟩
theorem KT_ref06_Constant : HasK KT Tryz.prog n_ref06_Constant c_ref06_Constant := ⟨_, Tryz.func55, ne_of_beq (by kernel_rfl), by kernel_rfl⟩
theorem KT_ref06_Int : HasK KT Tryz.prog n_ref06_Int c_ref06_Int := ⟨_, Tryz.func62, ne_of_beq (by kernel_rfl), by kernel_rfl⟩
theorem KT_ref06_Mul : HasK KT Tryz.prog n_ref06_Mul c_ref06_Mul := ⟨_, Tryz.func76, ne_of_beq (by kernel_rfl), by kernel_rfl⟩
theorem KT_ref06_Same : HasK KT Tryz.prog n_ref06_Same c_ref06_Same := ⟨_, Tryz.func52, ne_of_beq (by kernel_rfl), by kernel_rfl⟩
theorem KT_ref06_SameList : HasK KT Tryz.prog n_ref06_SameList c_ref06_SameList := ⟨_, Tryz.func32, ne_of_beq (by kernel_rfl), by kernel_rfl⟩
theorem KT_ref06_SameTerm : HasK KT Tryz.prog n_ref06_SameTerm c_ref06_SameTerm := ⟨_, Tryz.func127, ne_of_beq (by kernel_rfl), by kernel_rfl⟩
theorem KT_ref06_Scale : HasK KT Tryz.prog n_ref06_Scale c_ref06_Scale := ⟨_, Tryz.func28, ne_of_beq (by kernel_rfl), by kernel_rfl⟩
theorem KT_ref06_Sub : HasK KT Tryz.prog n_ref06_Sub c_ref06_Sub := ⟨_, Tryz.func23, ne_of_beq (by kernel_rfl), by kernel_rfl⟩
theorem KT_ref06_Times : HasK KT Tryz.prog n_ref06_Times c_ref06_Times := ⟨_, Tryz.func85, ne_of_beq (by kernel_rfl), by kernel_rfl⟩
theorem KT_ref06_Var : HasK KT Tryz.prog n_ref06_Var c_ref06_Var := ⟨_, Tryz.func139, ne_of_beq (by kernel_rfl), by kernel_rfl⟩
theorem KT_ref06_X : HasK KT Tryz.prog n_ref06_X c_ref06_X := ⟨_, Tryz.func60, ne_of_beq (by kernel_rfl), by kernel_rfl⟩
theorem KT_slices_Compare_int_int : HasK KT Tryz.prog n_slices_Compare_int_int c_slices_Compare_int_int := ⟨_, Tryz.func251, ne_of_beq (by kernel_rfl), by kernel_rfl⟩
theorem KT_slices_ContainsFunc_api_Poly_api_Poly : HasK KT Tryz.prog n_slices_ContainsFunc_api_Poly_api_Poly c_slices_ContainsFunc_api_Poly_api_Poly := ⟨_, Tryz.func88, ne_of_beq (by kernel_rfl), by kernel_rfl⟩
theorem KT_slices_IndexFunc_api_Poly_api_Poly : HasK KT Tryz.prog n_slices_IndexFunc_api_Poly_api_Poly c_slices_IndexFunc_api_Poly_api_Poly := ⟨_, Tryz.func164, ne_of_beq (by kernel_rfl), by kernel_rfl⟩
theorem KT_slices_MaxFunc_api_Poly_api_Term : HasK KT Tryz.prog n_slices_MaxFunc_api_Poly_api_Term c_slices_MaxFunc_api_Poly_api_Term := ⟨_, Tryz.func186, ne_of_beq (by kernel_rfl), by kernel_rfl⟩
theorem KT_syzygy_Express : HasK KT Tryz.prog n_syzygy_Express c_syzygy_Express := ⟨_, Tryz.func36, ne_of_beq (by kernel_rfl), by kernel_rfl⟩
theorem KT_syzygy_Is : HasK KT Tryz.prog n_syzygy_Is c_syzygy_Is := ⟨_, Tryz.func24, ne_of_beq (by kernel_rfl), by kernel_rfl⟩
theorem KT_syzygy_Schreyer : HasK KT Tryz.prog n_syzygy_Schreyer c_syzygy_Schreyer := ⟨_, Tryz.func30, ne_of_beq (by kernel_rfl), by kernel_rfl⟩
theorem KT_syzygy_Schreyer_1 : HasK KT Tryz.prog n_syzygy_Schreyer_1 c_syzygy_Schreyer_1 := ⟨_, Tryz.func89, ne_of_beq (by kernel_rfl), by kernel_rfl⟩
theorem KT_syzygy_constant : HasK KT Tryz.prog n_syzygy_constant c_syzygy_constant := ⟨_, Tryz.func96, ne_of_beq (by kernel_rfl), by kernel_rfl⟩
theorem KT_syzygy_leads : HasK KT Tryz.prog n_syzygy_leads c_syzygy_leads := ⟨_, Tryz.func91, ne_of_beq (by kernel_rfl), by kernel_rfl⟩
theorem KT_syzygy_quotient : HasK KT Tryz.prog n_syzygy_quotient c_syzygy_quotient := ⟨_, Tryz.func98, ne_of_beq (by kernel_rfl), by kernel_rfl⟩
theorem KT_syzygy_vector_plus : HasK KT Tryz.prog n_syzygy_vector_plus c_syzygy_vector_plus := ⟨_, Tryz.func110, ne_of_beq (by kernel_rfl), by kernel_rfl⟩
theorem KT_syzygy_vector_scaled : HasK KT Tryz.prog n_syzygy_vector_scaled c_syzygy_vector_scaled := ⟨_, Tryz.func95, ne_of_beq (by kernel_rfl), by kernel_rfl⟩
theorem KT_all : ∀ x ∈ KTL, HasK KT Tryz.prog x.1 x.2 := by
  simp only [KTL, List.forall_mem_cons, List.not_mem_nil, false_implies, implies_true, and_true]
  exact ⟨KT_cmp_Compare_int, KT_cmp_Compare_uint32, KT_cmp_isNaN_int, KT_cmp_isNaN_uint32, KT_division_Divide, KT_division_Spair, KT_division_Sum, KT_division_divide, KT_division_leadOf, KT_division_lead_under, KT_division_leadsOf, KT_division_pairs, KT_integer_Add, KT_integer_DivMod, KT_integer_Gcd, KT_integer_Mul, KT_integer_Neg, KT_integer_Of, KT_integer_Sign, KT_integer_Sub, KT_integer_nat_add, KT_integer_nat_at, KT_integer_nat_cmp, KT_integer_nat_div, KT_integer_nat_mul, KT_integer_nat_norm, KT_integer_nat_reduce, KT_integer_nat_shl, KT_integer_nat_shr, KT_integer_nat_signed, KT_integer_nat_sub, KT_integer_nat_word, KT_integer_natural, KT_law19_sanity, KT_math_bits_Add32, KT_math_bits_Div32, KT_math_bits_LeadingZeros32, KT_math_bits_Len32, KT_math_bits_Sub32, KT_monomial_Cmp, KT_monomial_Degree, KT_monomial_Divides, KT_monomial_Gcd, KT_monomial_Gcd_1, KT_monomial_Lcm, KT_monomial_Lcm_1, KT_monomial_Mul, KT_monomial_Mul_1, KT_monomial_Quo, KT_monomial_Quo_1, KT_monomial_Valid, KT_monomial_each, KT_order_Cmp, KT_order_Valid, KT_polynomial_Add, KT_polynomial_Add_1, KT_polynomial_Constant, KT_polynomial_Lead, KT_polynomial_Lead_1, KT_polynomial_Mul, KT_polynomial_Sub, KT_polynomial_Times, KT_polynomial_merge, KT_polynomial_sum_add, KT_rational_Add, KT_rational_Div, KT_rational_Inv, KT_rational_Mul, KT_rational_Neg, KT_rational_New, KT_rational_Sign, KT_rational_Sub, KT_rational_Whole, KT_rational_lowest, KT_rational_of, KT_rational_product, KT_ref01_Add, KT_ref01_DivMod, KT_ref01_Gcd, KT_ref01_Mul, KT_ref01_Neg, KT_ref01_Of, KT_ref01_Sign, KT_ref01_added, KT_ref01_common, KT_ref01_compared, KT_ref01_divided, KT_ref01_euclid, KT_ref01_guess, KT_ref01_lessen, KT_ref01_made, KT_ref01_number, KT_ref01_restore, KT_ref01_shortly, KT_ref01_taken, KT_ref01_times, KT_ref01_trim, KT_ref01_word, KT_ref01_words, KT_ref02_Add, KT_ref02_Mul, KT_ref02_Same, KT_ref02_Sign, KT_ref02_Whole, KT_ref02_exact, KT_ref02_lowest, KT_ref02_same, KT_ref04_Cmp, KT_ref04_Mul, KT_ref04_Valid, KT_ref05_Lex, KT_ref06_Add, KT_ref06_By, KT_ref06_Constant, KT_ref06_Int, KT_ref06_Mul, KT_ref06_Same, KT_ref06_SameList, KT_ref06_SameTerm, KT_ref06_Scale, KT_ref06_Sub, KT_ref06_Times, KT_ref06_Var, KT_ref06_X, KT_slices_Compare_int_int, KT_slices_ContainsFunc_api_Poly_api_Poly, KT_slices_IndexFunc_api_Poly_api_Poly, KT_slices_MaxFunc_api_Poly_api_Term, KT_syzygy_Express, KT_syzygy_Is, KT_syzygy_Schreyer, KT_syzygy_Schreyer_1, KT_syzygy_constant, KT_syzygy_leads, KT_syzygy_quotient, KT_syzygy_vector_plus, KT_syzygy_vector_scaled⟩
end Go.Ev

/- Steps by hand beside the interpreter: slots that are not written stay; a frame is begun anew with one row. -/
namespace Go.Ev
open Go.Pm

/-! ### Slots that are not written -/

theorem upon_put {P : Program} {o : Oper} {a : Act} {K K' : Act → World → Prop} {Q Q' : Exit → Act → World → Prop} (hK : ∀ (a1 : Act) v w', a1.tmps = a.tmps → K (a1.put o.dst v) w' → K' (a1.put o.dst v) w')
    (hp : ∀ c a w, Q (.panic c) a w → Q' (.panic c) a w) (ho : ∀ a w, Q .outgrown a w → Q' .outgrown a w) {r : Result Next} (h : o.upon P a K Q r) : o.upon P a K' Q' r := by
  cases r with
  | ok n w' =>
    cases n with
    | value v => exact hK a v w' rfl h
    | skip => exact hK a undef w' rfl h
    | defer d => exact hK { a with defers := d :: a.defers } undef w' rfl h
    | enter f args =>
      rw [Oper.upon_enter] at h ⊢
      refine Calls.mono h fun e w2 he => ?_
      cases e with
      | returned v => exact hK a v w2 rfl he
      | panicked c => exact hp _ _ _ he
      | outgrown => obtain ⟨a, w, he⟩ := he; exact ⟨a, w, ho _ _ he⟩
    | row r args =>
      rw [Oper.upon_row] at h ⊢
      exact Rows.mono h fun v w2 he => hK a v w2 rfl he
    | _ => exact h.elim
  | halt x w' =>
    cases x with
    | panic v => exact hp _ _ _ h
    | _ => exact h.elim

theorem getD_put {a : Act} {d : Option Tmp} {v : Value} {t : Nat} (h : d ≠ some t) : (a.put d v).tmps.getD t undef = a.tmps.getD t undef := by
  cases d with
  | none => rfl
  | some d =>
    simp only [Act.put, Array.getD_eq_getD_getElem?]
    rw [Array.getElem?_setIfInBounds_ne (by intro e; exact h (by rw [e]))]

theorem wpOps_slots {P : Program} {ops : Array Oper} {Q Q' : Exit → Act → World → Prop} (ts : List Nat) (a0 : Act) (hn : ∀ a w, Q .normal a w → (∀ t ∈ ts, a.tmps.getD t undef = a0.tmps.getD t undef) → Q' .normal a w)
    (hp : ∀ c a w, Q (.panic c) a w → Q' (.panic c) a w) (ho : ∀ a w, Q .outgrown a w → Q' .outgrown a w) : ∀ (idx : List Nat) (a : Act) (w : World), (∀ i ∈ idx, ∀ o, ops[i]? = some o → ∀ t ∈ ts, o.dst ≠ some t) →
    (∀ t ∈ ts, a.tmps.getD t undef = a0.tmps.getD t undef) → wpOps P ops Q idx a w → wpOps P ops Q' idx a w
  | [], a, w, _, ha, h => hn _ _ h ha
  | i :: r, a, w, hi, ha, h => by
    have hr : ∀ i ∈ r, ∀ o, ops[i]? = some o → ∀ t ∈ ts, o.dst ≠ some t := fun j hj => hi j (List.mem_cons_of_mem _ hj)
    simp only [wpOps] at h ⊢
    cases ho' : ops[i]? with
    | none => rw [ho'] at h; exact wpOps_slots ts a0 hn hp ho r a w hr ha h
    | some o =>
      rw [ho'] at h
      have hd := hi i (List.mem_cons_self ..) o ho'
      have next : ∀ (a1 : Act) v w', a1.tmps = a.tmps → wpOps P ops Q r (a1.put o.dst v) w' → wpOps P ops Q' r (a1.put o.dst v) w' := fun a1 v w' h1 h2 =>
        wpOps_slots ts a0 hn hp ho r _ w' hr (fun t ht => by rw [getD_put (hd t ht), h1]; exact ha t ht) h2
      simp only at h ⊢
      split
      · rename_i hw
        rw [if_pos hw] at h
        rcases h with h | h
        · left
          unfold Oper.wp at h ⊢
          exact upon_put next hp ho h
        · exact .inr ⟨h.1, let ⟨a, w, h⟩ := h.2; ⟨a, w, ho _ _ h⟩⟩
      · rename_i hw
        rw [if_neg hw] at h
        exact next a undef w rfl h

section
variable {P : Program} {K : Cfg} {cs : Sem} {n : Nat} {base : Nat} {L : Len}

/-- A region in its own order, run by the interpreter from some operation on; some slots stay. -/
theorem ops_ev {ops : Array Oper} {l : List Ins} (ts : List Nat) (k : Nat) (hl : toInsL P n ops ops.toList = some l) (hn : n ≤ 1000000) (hsem : SemOK P cs) (hts : (ops.toList.all fun o => ts.all fun t => o.dst != some t) = true)
    {Q : Exit → Act → World → Prop} {S : Pub} {N : Nm} {s sf : St} {a : Act} {w : World} (f : Fr base L S N s a.tmps w.heap) (hb : base ≤ w.heap.size) (ht : n ≤ a.tmps.size) (h : evL K cs s (l.drop k) = some sf)
    (hQ : ∀ a' w', Out base L S sf a w a' w' → (∀ t ∈ ts, a'.tmps.getD t undef = a.tmps.getD t undef) → Q .normal a' w') : wpOps P ops Q ((List.range ops.size).drop k) a w := by
  have hlen := (toInsL_ok hl).1
  simp at hlen
  have e : ((List.range ops.size).drop k).filterMap (l[·]?) = l.drop k := by
    have h0 := range_get l
    have : ∀ (m : Nat) (l2 : List Ins), m + l2.length = l.length → l.drop m = l2 → (List.range' m l2.length).filterMap (l[·]?) = l2 := by
      intro m l2
      induction l2 generalizing m with
      | nil => intros; simp
      | cons x r ih =>
        intro h1 h2
        rw [List.length_cons, List.range'_succ, List.filterMap_cons]
        have e1 : l[m]? = some x := by
          have := congrArg (·[0]?) h2
          simpa using this
        rw [e1]
        simp only
        rw [ih (m + 1) (by simp at h1; omega) (by rw [← List.drop_drop, h2]; rfl)]
    rw [List.range_eq_range', List.drop_range']
    by_cases hk : k ≤ l.length
    · have := this (0 + 1 * k) (l.drop k) (by simp; omega) (by simp)
      rw [List.length_drop, hlen] at this
      simpa using this
    · have e1 : ops.size - k = 0 := by omega
      rw [e1, List.drop_of_length_le (by omega)]; simp
  have h1 : wpOps P ops (fun e a' w' => e = .normal ∧ Out base L S sf a w a' w') ((List.range ops.size).drop k) a w :=
    wpOps_ev (K := K) hl hn hsem _ S N s sf a w (fun i hi => List.mem_range.1 (List.mem_of_mem_drop hi)) f hb ht (by rw [e]; exact h) fun a' w' ho => ⟨rfl, ho⟩
  refine wpOps_slots ts a (fun a' w' h hs => hQ a' w' h.2 hs) (fun c a w h => by cases h.1) (fun a w h => by cases h.1) _ a w (fun i hi o ho t htt => ?_) (fun _ _ => rfl) h1
  have hm : o ∈ ops.toList := by
    have := Array.mem_of_getElem? ho
    simpa using this
  have := List.all_eq_true.1 hts o hm
  have := List.all_eq_true.1 this t htt
  simpa using this
end
end Go.Ev

/- A frame begun anew with one row; the body of a function walked by hand. -/
namespace Go.Ev
open Go.Pm

section
variable {base : Nat} {L : Len} {S : Pub} {N : Nm} {vals : Nat → Option DV} {ol : Nat → List Ob} {Z : Nat × Nat → Prop} {a : Array Value} {hp : Hp}

theorem nth_single {ob ob' : Ob} {e : Nat} (h : nth [ob] e = some ob') : e = 0 ∧ ob' = ob := by
  have hl := nth_lt h
  simp at hl
  subst hl
  unfold nth at h
  simp at h
  exact ⟨rfl, h.2.symm⟩

/-- A frame in which one row is known, and some deep values. -/
theorem FR.restart (f : FR base L S N vals ol Z a hp) {base' : Nat} {L' : Len} (hnm : ∀ p, L'.nm p = none) {t h e m : Nat} {ob : Ob} {b : Nat} (hs : V hp S N (.ref h e 0 m) (a.getD t undef)) (ho : nth (ol h) e = some ob)
    (hN : N h e = some (some (b, ob.sz))) (hk : ob.k = 0) (hz : ¬ Z (h, e)) (hb : base' ≤ b ∨ L' b) (oldc : ∀ b o, S.c b o → L'.s.c b o ∨ base' ≤ b ∨ L' b) (oldm : ∀ b, S.m b → L'.s.m b ∨ base' ≤ b ∨ L' b)
    (vals' : Nat → Option DV) (hv : ∀ i d, vals' i = some d → i ≠ t → isDeep d = true ∧ V hp S N d (a.getD i undef)) (ht : vals' t = some (.ref t 0 0 m)) (ol' : Nat → List Ob) (hol : ∀ p, ol' p = if p = t then [ob] else []) (Z' : Nat × Nat → Prop) (hz' : ∀ p, ¬ Z' p) :
    FR base' L' S (fun p q => if p = t ∧ q = 0 then some (some (b, ob.sz)) else none) vals' ol' Z' a hp := by
  have hob : ∀ {h1 e1 ob1}, nth (ol' h1) e1 = some ob1 → h1 = t ∧ e1 = 0 ∧ ob1 = ob := by
    intro h1 e1 ob1 hn
    rw [hol] at hn
    split at hn
    · rename_i hh
      obtain ⟨g1, g2⟩ := nth_single hn
      exact ⟨hh, g1, g2⟩
    · simp [nth] at hn
  have hown : nth (ol' t) 0 = some ob := by
    rw [hol, if_pos rfl]
    unfold nth
    simp [hk]
  have hnN : ∀ {h1 e1 r}, (fun p q => if p = t ∧ q = 0 then some (some (b, ob.sz)) else none : Nm) h1 e1 = some r → h1 = t ∧ e1 = 0 ∧ r = some (b, ob.sz) := by
    intro h1 e1 r hr
    simp only at hr
    split at hr
    · rename_i hh; cases hr; exact ⟨hh.1, hh.2, rfl⟩
    · cases hr
  refine ⟨fun i d hd => ?_, fun h1 e1 ob1 hn => ?_, fun h1 e1 => ?_, fun h1 e1 p hp => ?_, fun h1 e1 h2 e2 b1 sz sz' g1 g2 => ?_, fun h1 e1 hz1 => absurd hz1 (hz' _), f.pub, f.pubm, oldc, oldm, fun p b1 hp => by rw [hnm] at hp; cases hp⟩
  · by_cases hi : i = t
    · subst hi
      rw [ht] at hd; cases hd
      simp only [V] at hs ⊢
      obtain ⟨ad, cap, r, g1, g2, g3, g4, g5⟩ := hs
      rw [hN] at g4; cases g4
      exact ⟨ad, cap, _, g1, g2, g3, by simp, g5⟩
    · obtain ⟨h1, h2⟩ := hv i d hd hi
      exact V.deep _ _ h1 h2
  · obtain ⟨rfl, rfl, rfl⟩ := hob hn
    obtain ⟨b', q1, q2, q3⟩ := f.obs _ _ _ ho
    rw [hN] at q1; simp at q1; subst q1
    have hd : areDeep ob1.cs = true := by
      rcases q2 with ⟨k1, _⟩ | ⟨_, _, _, _, _, _, _, _, _, k6⟩
      · omega
      · exact k6 hk
    exact ⟨b, by simp, (OB.unnamed hd (fun z => absurd z hz) q2).names, hb⟩
  · constructor
    · rintro ⟨r, hr⟩
      obtain ⟨rfl, rfl, _⟩ := hnN hr
      rw [hol, if_pos rfl]; simp
    · intro hl
      rw [hol] at hl
      split at hl
      · rename_i hh
        simp at hl
        exact ⟨_, if_pos ⟨hh, hl⟩⟩
      · simp at hl
  · obtain ⟨rfl, rfl, _⟩ := hnN hp
    exact ⟨ob, hown⟩
  · obtain ⟨rfl, rfl, _⟩ := hnN g1
    obtain ⟨rfl, rfl, _⟩ := hnN g2
    exact ⟨rfl, rfl⟩

/-- A slot of which nothing is said. -/
theorem FR.junk (f : FR base L S N vals ol Z a hp) {d : Nat} {v : Value} (hd : vals d = none) : FR base L S N vals ol Z (a.setIfInBounds d v) hp := by
  refine ⟨fun i y hy => ?_, f.obs, f.known, f.alive, f.inj, f.zk, f.pub, f.pubm, f.oldc, f.oldm, f.lentn⟩
  have hi : i ≠ d := by rintro rfl; rw [hd] at hy; cases hy
  have : (a.setIfInBounds d v).getD i undef = a.getD i undef := by
    simp only [Array.getD_eq_getD_getElem?]
    rw [Array.getElem?_setIfInBounds_ne (Ne.symm hi)]
  rw [this]
  exact f.slots i y hy

/-- A block of which nothing is said is changed. -/
theorem FR.block_free (f : FR base L S N vals ol Z a hp) {r : Nat} {o : Obj} (hc : ∀ x, ¬ S.c r x) (hm : ¬ S.m r) (hn : ∀ h e sz, N h e ≠ some (some (r, sz))) : FR base L S N vals ol Z a (hp.setIfInBounds r o) := by
  have hoth : ∀ b, b ≠ r → (hp.setIfInBounds r o)[b]? = hp[b]? := fun b hb => Array.getElem?_setIfInBounds_ne (Ne.symm hb)
  refine f.heap ⟨fun b x h => cellAt_of_eq (hoth b (by rintro rfl; exact hc x h)), fun b h => hoth b (by rintro rfl; exact hm h)⟩ fun h e b sz hN => hoth b (by rintro rfl; exact hn h e sz hN)
end

/-! ### A body walked by hand -/

/-- A function at one deep argument, walked by hand. -/
theorem FnAt.hand {P : Program} {f : FuncId} {fn : Func} {c : Code} (hf : P.funcs[f]? = some fn) (hname : fn.name ≠ "runtime.NumGoroutine") (hbody : fn.body = some c) {d r : DV} (hd : isDeep d = true) (hr : isDeep r = true) {t : Nat} (hres : fn.results = #[.tmp t])
    (hwalk : ∀ (w : World) (S : Pub) (v : Value) (a : Act), WF S w.heap → V w.heap S N0 d v → a.tmps = (#[v] ++ Array.replicate (fn.ntmps - 1) undef) → a.defers = [] →
      c.wp P (fun e a' w' => e = .ret ∧ a'.defers = [] ∧ ∃ S', Sub S S' ∧ WF S' w'.heap ∧ w.heap.size ≤ w'.heap.size ∧ (∀ b, b < w.heap.size → w'.heap[b]? = w.heap[b]?) ∧ (∀ b, rowSize w.heap b ≤ rowSize w'.heap b) ∧
        (∀ b o, S'.c b o → S.c b o ∨ w.heap.size ≤ b) ∧ (∀ b, S'.m b → S.m b ∨ w.heap.size ≤ b) ∧ V w'.heap S' N0 r (a'.tmps.getD t undef) ∧ Tw w w') a w) :
    FnAt P f [d] r [] := by
  refine ⟨⟨fn, hf, hname, by rw [hbody]; simp⟩, fun w S vs lent wf args lok => ?_⟩
  obtain ⟨rfl, hv⟩ := ArgsR_deep (by simp [areDeep, hd]) args
  simp only [VL] at hv
  obtain ⟨v, u, rfl, hv, rfl⟩ := hv
  refine calls_of_wp hf hbody ?_
  refine wp_mono (hwalk w S v _ wf hv rfl rfl) fun e a' w' h => ?_
  obtain ⟨rfl, h1, S', h2, h3, h4, h5, h6, h7, h8, h9, h10⟩ := h
  refine ⟨h1, a'.tmps.getD t undef, ?_, _, S', rfl, ⟨h2, h3, h4, fun b hb _ => h5 b hb, h6, h7, h8, ?_, rfl, h10⟩⟩
  · unfold results
    simp [hres]
  · refine ⟨[], by rw [adoptR_deep hr]; rfl, by simp, by simp, fun h c N _ => ?_⟩
    rw [adoptR_deep hr]
    exact V.deep _ _ hr h9
end Go.Ev

/- Code in the round of a range over a function, run by the interpreter. -/
namespace Go.Ev

/-- The fence of a round. -/
abbrev rnd (l : Nat) : Fence := Fence.wide.inRound l

theorem callsIn_rnd {P : Program} {l n : Nat} {f : FuncId} {args : Array Value} {w : World} {R : Ending → World → Prop} (h : Calls P f args w R) : CallsIn (rnd l) n P f args w R :=
  CallsIn.inRound l (callsIn_wide.2 h)

theorem rowsIn_rnd {P : Program} {l n : Nat} {row : String} {args : Array Value} {w : World} {R : Value → World → Prop} (h : Rows P row args w R) : RowsIn (rnd l) n P row args w R := by
  intro c cs _
  obtain ⟨v, w', r, s⟩ := h c cs
  exact ⟨v, w', r, stepsIn_wide.2 s⟩

def plainOp (o : Oper) : Bool := match o.op with | .defer _ => false | _ => true

theorem wp_in {P : Program} {l n : Nat} {o : Oper} {a : Act} {w : World} {K : Act → World → Prop} {Q : Exit → Act → World → Prop} (hd : plainOp o = true) (h : o.wp P a w K Q) : o.wpIn (rnd l) n P a w K Q := by
  refine ⟨fun _ _ => trivial, ?_⟩
  rw [Oper.semAt_eq _ _ _ (fun c e => by simp [plainOp, e] at hd)]
  unfold Oper.wp at h
  generalize (execOp a.eval o).run P w = r at h
  cases r with
  | ok x w' =>
    cases x with
    | value v => exact h
    | skip => exact h
    | defer d => exact h
    | enter f args => exact ⟨(fun h => by cases h), callsIn_rnd h⟩
    | row r args => exact ⟨(fun h => by cases h), rowsIn_rnd h⟩
    | _ => exact h.elim
  | halt x w' =>
    cases x with
    | panic v => exact h
    | _ => exact h.elim

section
variable {P : Program} {l n : Nat} {ops : Array Oper} {Q : Exit → Act → World → Prop}

/-- No way out but the usual one: then an operation that is out of room does not count. -/
def Calm (Q : Exit → Act → World → Prop) : Prop := ∀ a w, ¬ Q .outgrown a w

theorem wpOp_in (hq : Calm Q) (hd : ∀ o ∈ ops.toList, plainOp o = true) {i : Nat} {K K' : Act → World → Prop} {a : Act} {w : World} (hK : ∀ a w, K a w → K' a w) (h : wpOp P ops Q i K a w) : wpOpIn (rnd l) n P ops Q i K' a w := by
  unfold wpOp at h
  unfold wpOpIn
  cases ho : ops[i]? with
  | none => rw [ho] at h; exact hK _ _ h
  | some o =>
    rw [ho] at h
    simp only at h ⊢
    have hm : plainOp o = true := hd o (by have := Array.mem_of_getElem? ho; simpa using this)
    split
    · rename_i hw
      rw [if_pos hw] at h
      rcases h with h | ⟨_, a, w, h⟩
      · exact Oper.wpIn_mono hK (wp_in hm h)
      · exact absurd h (hq a w)
    · rename_i hw
      rw [if_neg hw] at h
      exact ⟨fun _ _ => trivial, hK _ _ h⟩

theorem wpOps_in (hq : Calm Q) (hd : ∀ o ∈ ops.toList, plainOp o = true) : ∀ (idx : List Nat) (a : Act) (w : World), wpOps P ops Q idx a w → wpOpsIn (rnd l) n P ops Q idx a w
  | [], a, w, h => h
  | i :: r, a, w, h => by
    rw [wpOps_cons] at h
    rw [wpOpsIn_cons]
    exact wpOp_in hq hd (wpOps_in hq hd r) h

theorem wpAny_in (hq : Calm Q) (hd : ∀ o ∈ ops.toList, plainOp o = true) : ∀ (fuel : Nat) (listed : Array Bool) (a : Act) (w : World), wpAny P .any ops Q fuel listed a w → wpAnyIn (rnd l) n P .any ops Q fuel listed a w
  | 0, listed, a, w, h => h
  | fuel + 1, listed, a, w, h => ⟨h.1, fun i hi => wpOp_in hq hd (wpAny_in hq hd fuel _) (h.2 i hi)⟩
end

/-- Code without a deferred call. -/
def plainC : Code → Bool
  | .region _ ops _ => ops.toList.all plainOp
  | .seq a b => plainC a && plainC b
  | .cond _ a b => plainC a && plainC b
  | .block _ c => plainC c
  | .loop c => plainC c
  | .scope _ => false
  | _ => true

section
variable {base : Nat} {L : Len} {P : Program} {K : Cfg} {cs : Sem} {n : Nat}

theorem region_in {l m : Nat} (hm : P.follows .mixedOrders = true) (hn : n ≤ 1000000) (hsem : SemOK P cs) {id : Nat} {ops : Array Oper} {draw : Bool} {li : List Ins} (hp : ops.toList.all plainOp = true) (hl : toInsL P n ops ops.toList = some li) (hd : ¬ (draw && !freeOrder K ops li) = true)
    {S : Pub} {N : Nm} {s sf : St} {a : Act} {w : World} (f : Fr base L S N s a.tmps w.heap) (hb : base ≤ w.heap.size) (ht : n ≤ a.tmps.size) (h : evL K cs s li = some sf) {Q : Exit → Act → World → Prop}
    (hQ : ∀ a' w', Out base L S sf a w a' w' → Q .normal a' w') : (Code.region id ops draw).wpIn (rnd l) m P Q a w := by
  have hlen := (toInsL_ok hl).1
  simp at hlen
  have hpo : ∀ o ∈ ops.toList, plainOp o = true := List.all_eq_true.1 hp
  have calm : Calm (fun e a' w' => e = .normal ∧ Out base L S sf a w a' w') := fun a w h => by cases h.1
  refine wpIn_mono (Q := fun e a' w' => e = .normal ∧ Out base L S sf a w a' w') ?_ fun e a' w' h => by obtain ⟨rfl, h⟩ := h; exact hQ a' w' h
  cases draw with
  | false =>
    refine wpIn_region (wpOps_in calm hpo _ _ _ ?_)
    refine wpOps_ev (K := K) hl hn hsem _ S N s sf a w (fun i hi => List.mem_range.1 hi) f hb ht ?_ fun a' w' ho => ⟨rfl, ho⟩
    rw [← hlen, range_get]; exact h
  | true =>
    have hfo : freeOrder K ops li = true := by
      cases q : freeOrder K ops li
      · rw [q] at hd; simp at hd
      · rfl
    unfold freeOrder at hfo
    split at hfo
    · cases hfo
    · rename_i b hbf
      refine wpIn_region_any hm (wpAny_in calm hpo _ _ _ _ ?_)
      have hrest : rest ops.size (Array.replicate ops.size false) = List.range ops.size := by
        unfold rest
        refine List.filter_eq_self.2 fun i hi => ?_
        have := List.mem_range.1 hi
        simp [Array.getD_eq_getD_getElem?, this]
      refine wpAny_ev hl hn hbf hfo hsem ops.size _ S N s a { w with drawn := w.drawn + 1 } sf (by simp) (fun i o hi h2 => ?_) ?_ f hb ht ?_ ?_
      · simp [Array.getD_eq_getD_getElem?, hi] at h2
      · rw [hrest]; simp
      · rw [hrest, ← hlen, range_get]; exact h
      · intro sf' a' w' q ho
        obtain ⟨S', N', o1, o2, o3, o4, o5, o6⟩ := ho
        exact ⟨rfl, Out.congr q ⟨S', N', o1, o2, o3, o4, o5, Tw.trans (b := { w with drawn := w.drawn + 1 }) ⟨rfl, rfl, rfl, Nat.le_succ _⟩ o6⟩⟩

theorem code_in {l m : Nat} (hm : P.follows .mixedOrders = true) (hn : n ≤ 1000000) (hsem : SemOK P cs) (fuel : Nat) : ∀ (c : Code) {cc : C} {S : Pub} {N : Nm} {s sf : St} {ex : Ex} {a : Act} {w : World} {Q : Exit → Act → World → Prop}, plainC c = true →
    toC P K n c = some cc → Fr base L S N s a.tmps w.heap → base ≤ w.heap.size → n ≤ a.tmps.size → evC K cs fuel cc s = some (ex, sf) → (∀ a' w', Out base L S sf a w a' w' → Q (exOf ex) a' w') → c.wpIn (rnd l) m P Q a w := by
  have refl : ∀ {S : Pub} {N : Nm} {s : St} {a : Act} {w : World}, Fr base L S N s a.tmps w.heap → Out base L S s a w a w := fun f => ⟨_, _, Sub.refl _, f, rfl, rfl, Keep.refl _ _ _, Tw.refl _⟩
  intro c
  induction c with
  | skip =>
    intro cc S N s sf ex a w Q _ hc f hb ht h hQ
    simp [toC] at hc; subst hc
    simp [evC] at h; obtain ⟨rfl, rfl⟩ := h
    exact wpIn_skip (hQ a w (refl f))
  | label l =>
    intro cc S N s sf ex a w Q _ hc f hb ht h hQ
    simp [toC] at hc; subst hc
    simp [evC] at h; obtain ⟨rfl, rfl⟩ := h
    exact wpIn_label (hQ a w (refl f))
  | exit id =>
    intro cc S N s sf ex a w Q _ hc f hb ht h hQ
    simp [toC] at hc; subst hc
    simp [evC] at h; obtain ⟨rfl, rfl⟩ := h
    exact wpIn_exit (hQ a w (refl f))
  | ret =>
    intro cc S N s sf ex a w Q _ hc f hb ht h hQ
    simp [toC] at hc; subst hc
    simp [evC] at h; obtain ⟨rfl, rfl⟩ := h
    exact wpIn_ret (hQ a w (refl f))
  | region id ops draw =>
    intro cc S N s sf ex a w Q hp hc f hb ht h hQ
    simp only [toC] at hc
    split at hc
    · rename_i li hl
      split at hc
      · cases hc
      · rename_i hd
        cases hc
        simp only [evC, Option.map_eq_some_iff] at h
        obtain ⟨s1, h1, h2⟩ := h
        cases h2
        exact region_in hm hn hsem hp hl hd f hb ht h1 hQ
    · cases hc
  | seq x y ihx ihy =>
    intro cc S N s sf ex a w Q hp hc f hb ht h hQ
    simp only [plainC, Bool.and_eq_true] at hp
    simp only [toC] at hc
    split at hc
    · rename_i cx cy hx hy
      cases hc
      simp only [evC] at h
      refine wpIn_seq ?_
      cases h1 : evC K cs fuel cx s with
      | none => rw [h1] at h; cases h
      | some p =>
        obtain ⟨e1, s1⟩ := p
        rw [h1] at h
        refine ihx hp.1 hx f hb ht h1 fun a' w' ho => ?_
        cases e1 with
        | nrm =>
          obtain ⟨S', N', o1, o2, o3, o4, o5, o6⟩ := ho
          exact ihy hp.2 hy o2 (Nat.le_trans hb o5.1) (by omega) h fun a2 w2 h2 => hQ a2 w2 (h2.trans o1 o3 o4 o5 o6)
        | exit id => simp at h; obtain ⟨rfl, rfl⟩ := h; exact hQ a' w' ho
        | ret => simp at h; obtain ⟨rfl, rfl⟩ := h; exact hQ a' w' ho
    · cases hc
  | cond c x y ihx ihy =>
    intro cc S N s sf ex a w Q hp hc f hb ht h hQ
    simp only [plainC, Bool.and_eq_true] at hp
    simp only [toC] at hc
    split at hc
    · rename_i c' cx cy hc' hx hy
      cases hc
      simp only [evC] at h
      split at h
      · rename_i hv
        have := opv_ok f hc' hv
        simp only [V] at this
        exact wpIn_cond_true this (ihx hp.1 hx f hb ht h hQ)
      · rename_i hv
        have := opv_ok f hc' hv
        simp only [V] at this
        exact wpIn_cond_false this (ihy hp.2 hy f hb ht h hQ)
      · cases h
    · cases hc
  | block id x ih =>
    intro cc S N s sf ex a w Q hp hc f hb ht h hQ
    simp only [plainC] at hp
    simp only [toC, Option.map_eq_some_iff] at hc
    obtain ⟨cx, hx, rfl⟩ := hc
    simp only [evC] at h
    refine wpIn_block ?_
    cases h1 : evC K cs fuel cx s with
    | none => rw [h1] at h; cases h
    | some p =>
      obtain ⟨e1, s1⟩ := p
      rw [h1] at h
      refine ih hp hx f hb ht h1 fun a' w' ho => ?_
      cases e1 with
      | nrm => simp at h; obtain ⟨rfl, rfl⟩ := h; exact hQ a' w' ho
      | exit j =>
        simp only at h
        split at h
        · rename_i hj
          cases h; subst hj
          simp only [exOf, Exit.inBlock, if_true]; exact hQ a' w' ho
        · rename_i hj
          cases h
          simp only [exOf, Exit.inBlock, hj, if_false]; exact hQ a' w' ho
      | ret => simp at h; obtain ⟨rfl, rfl⟩ := h; exact hQ a' w' ho
  | loop x ih =>
    intro cc S N s sf ex a w Q hp hc f hb ht h hQ
    simp only [plainC] at hp
    simp only [toC, Option.map_eq_some_iff] at hc
    obtain ⟨cx, hx, rfl⟩ := hc
    simp only [evC] at h
    have key : ∀ (k : Nat) {S : Pub} {N : Nm} {s : St} {a : Act} {w : World}, Fr base L S N s a.tmps w.heap → base ≤ w.heap.size → n ≤ a.tmps.size → loopN (fun s => evC K cs fuel cx s) k s = some (ex, sf) →
        (∀ a' w', Out base L S sf a w a' w' → Q (exOf ex) a' w') → Code.roundsIn (rnd l) m P x Q k a w := by
      intro k
      induction k with
      | zero => intro S N s a w _ _ _ h _; simp [loopN] at h
      | succ k ihk =>
        intro S N s a w f hb ht h hQ
        rw [roundsIn_succ]
        simp only [loopN] at h
        cases h1 : evC K cs fuel cx s with
        | none => rw [h1] at h; cases h
        | some p =>
          obtain ⟨e1, s1⟩ := p
          rw [h1] at h
          refine ih hp hx f hb ht h1 fun a' w' ho => ?_
          cases e1 with
          | nrm =>
            obtain ⟨S', N', o1, o2, o3, o4, o5, o6⟩ := ho
            exact ihk o2 (Nat.le_trans hb o5.1) (by omega) h fun a2 w2 h2 => hQ a2 w2 (h2.trans o1 o3 o4 o5 o6)
          | exit id => simp at h; obtain ⟨rfl, rfl⟩ := h; exact hQ a' w' ho
          | ret => simp at h; obtain ⟨rfl, rfl⟩ := h; exact hQ a' w' ho
    exact wpIn_loop_rounds fuel (key fuel f hb ht h hQ)
  | scope x ih =>
    intro cc S N s sf ex a w Q hp
    cases hp
  | _ =>
    intro cc S N s sf ex a w Q _ hc f hb ht h hQ
    simp [toC] at hc
    subst hc
    simp [evC] at h
end
end Go.Ev

/- One round of a range over a function, its assignments and its body run by the interpreter. -/
namespace Go.Ev
open Go.Pm

section
variable {base : Nat} {L : Len} {S : Pub} {N : Nm} {vals : Nat → Option DV} {ol : Nat → List Ob} {Z : Nat × Nat → Prop} {a : Array Value} {hp : Hp}

/-- The blocks that have a name. -/
def named (N : Nm) : Nat → Prop := fun b => ∃ h e sz, N h e = some (some (b, sz))

theorem FR.rebase (f : FR base L S N vals ol Z a hp) (base' : Nat) {nm : Nat → Option Nat} (hnm : ∀ p b, nm p = some b → ∃ r, N p 0 = some r ∧ (r = none ∨ ∃ sz, r = some (b, sz))) : FR base' ⟨named N, S, nm⟩ S N vals ol Z a hp :=
  ⟨f.slots, fun h e ob ho => let ⟨b, h1, h2, _⟩ := f.obs h e ob ho; ⟨b, h1, h2, .inr ⟨h, e, ob.sz, h1⟩⟩, f.known, f.alive, f.inj, f.zk, f.pub, f.pubm, fun _ _ h => .inl h, fun _ h => .inl h, hnm⟩

/-- A block that holds neither cells nor a map has no name, and is not published. -/
theorem FR.walkless (f : FR base L S N vals ol Z a hp) {r : Nat} {o : Obj} (hr : hp[r]? = some o) (h1 : ∀ c e z, o ≠ .cells c e z) (h2 : ∀ m c, o ≠ .map m c) : (∀ x, ¬ S.c r x) ∧ ¬ S.m r ∧ ∀ h e sz, N h e ≠ some (some (r, sz)) := by
  refine ⟨fun x hc => ?_, fun hc => ?_, fun h e sz hN => ?_⟩
  · obtain ⟨v, hv⟩ := f.pub _ _ hc
    unfold cellAt at hv
    rw [hr] at hv
    cases o <;> simp at hv
    exact h1 _ _ _ rfl
  · obtain ⟨x, y, hv⟩ := f.pubm _ hc
    rw [hr] at hv; cases hv
    exact h2 _ _ rfl
  · obtain ⟨ob, ho⟩ := f.alive _ _ _ hN
    obtain ⟨b', g1, g2, _⟩ := f.obs _ _ _ ho
    rw [hN] at g1; simp at g1
    obtain ⟨rfl, _⟩ := g1
    rcases g2 with ⟨_, x, y, hv, _⟩ | ⟨_, x, y, _, _, hv, _⟩ <;> (rw [hr] at hv; cases hv)
    · exact h2 _ _ rfl
    · exact h1 _ _ _ rfl

theorem FR.putObj {base : Nat} {L : Len} {S : Pub} {N : Nm} {vals : Nat → Option DV} {ol : Nat → List Ob} {Z : Nat × Nat → Prop} {a : Array Value} {w : World} (f : FR base L S N vals ol Z a w.heap) {l : Nat} {o : Obj} (hr : w.heap[l]? = some o) (h1 : ∀ c e z, o ≠ .cells c e z) (h2 : ∀ m c, o ≠ .map m c) (o' : Obj) :
    FR base L S N vals ol Z a (w.putObj l o').heap := by
  obtain ⟨g1, g2, g3⟩ := f.walkless hr h1 h2
  exact f.block_free g1 g2 g3
end

/-- What a round has left behind. -/
structure RoundDone (w : World) (S : Pub) (N : Nm) (nm : Nat → Option Nat) (l D : Nat) (rec : Loop) (ex : Ex) (s4 : St) (W : World) : Prop where
  fr : ∃ S4 N4 tm, Sub S S4 ∧ Fr w.heap.size ⟨named N, S, nm⟩ S4 N4 s4 tm W.heap
  loop : W.heap[l]? = some (.loop { rec with state := if ex = .nrm then .ready else .done, pending := if ex = .nrm then none else some .ret })
  deferred : W.heap[D]? = some (.deferred (some []))
  size : w.heap.size ≤ W.heap.size
  old : ∀ b, b < w.heap.size → b ≠ l → ¬ named N b → W.heap[b]? = w.heap[b]?
  rows : ∀ b, rowSize w.heap b ≤ rowSize W.heap b
  tw : Tw w W

theorem rows_putObj {w : World} {l : Nat} {o o' : Obj} (hl : w.heap[l]? = some o) (h : ∀ c e z, o ≠ .cells c e z) (b : Nat) : rowSize w.heap b ≤ rowSize (w.putObj l o').heap b := by
  by_cases hb : b = l
  · subst hb
    unfold rowSize
    rw [hl]
    cases o <;> first | exact Nat.zero_le _ | exact absurd rfl (h _ _ _)
  · exact rowSize_of_eq (World.putObj_heap_other hb)

theorem round_ev {P : Program} {K : Cfg} {cs : Sem} {n m fuel : Nat} (hm : P.follows .mixedOrders = true) (hn : n ≤ 1000000) (hsem : SemOK P cs) {base : Nat} {L : Len} {S : Pub} {N : Nm} {s s3 s4 : St} {ex : Ex} {tm : Array Value} {w : World} (f : Fr base L S N s tm w.heap) (ht : n ≤ tm.size)
    {nm : Nat → Option Nat} (hnm : ∀ p b, nm p = some b → ∃ r, N p 0 = some r ∧ (r = none ∨ ∃ sz, r = some (b, sz))) {l D : Nat} {rec : Loop} (hl : w.heap[l]? = some (.loop rec)) (hr : rec.state = .ready) (hD : w.heap[D]? = some (.deferred (some []))) (hDl : D ≠ l)
    {assign body : Code} {ca cb : C} (pa : plainC assign = true) (pb : plainC body = true) (ta : toC P K n assign = some ca) (tb : toC P K n body = some cb) (ea : evC K cs fuel ca s = some (.nrm, s3)) (eb : evC K cs fuel cb s3 = some (ex, s4)) (hex : ex = .nrm ∨ ex = .ret) {fn : FuncId} :
    RoundIn Fence.wide m P l fn tm assign body w fun e W => (∃ b, e = .returned (.bool b)) ∧ RoundDone w S N nm l D rec ex s4 W := by
  have f2 := FR.rebase f w.heap.size hnm
  have nl : ∀ c e z, Obj.loop rec ≠ .cells c e z := fun _ _ _ h => by cases h
  have nl2 : ∀ m c, Obj.loop rec ≠ .map m c := fun _ _ h => by cases h
  have hln : ¬ named N l := fun ⟨h, e, sz, hN⟩ => (FR.walkless f hl nl nl2).2.2 h e sz hN
  have hDn : ¬ named N D := fun ⟨h, e, sz, hN⟩ => (FR.walkless f hD (fun _ _ _ h => by cases h) (fun _ _ h => by cases h)).2.2 h e sz hN
  have hlt := lt_of_get hl
  have hDt := lt_of_get hD
  refine roundIn_of_wpIn (F := Fence.wide) trivial ?_
  refine code_in (a := { tmps := tm, defers := [] }) hm hn hsem fuel assign pa ta f2 (Nat.le_refl _) ht ea fun a3 w3 out3 => ?_
  obtain ⟨S3, N3, u1, f3, u3, u4, u5, u6⟩ := out3
  have hl3 : w3.heap[l]? = some (.loop rec) := (u5.2.1 l hlt hln).trans hl
  have hD3 : w3.heap[D]? = some (.deferred (some [])) := (u5.2.1 D hDt hDn).trans hD
  have hlt3 := lt_of_get hl3
  refine ⟨_, run_beginRound hl3 hr, ?_⟩
  have f3' := FR.putObj f3 hl3 nl nl2 (.loop { rec with state := .busy })
  have hsz3 : w.heap.size ≤ (w3.putObj l (.loop { rec with state := .busy })).heap.size := by rw [World.putObj_size]; exact u5.1
  refine code_in (a := a3) hm hn hsem fuel body pb tb f3' hsz3 (by simp at u3; omega) eb fun a4 w4 out4 => ?_
  obtain ⟨S4, N4, v1, f4, v3, v4, v5, v6⟩ := out4
  have hl4 : w4.heap[l]? = some (.loop { rec with state := .busy }) := (v5.2.1 l hlt hln).trans (World.putObj_heap_same hlt3)
  have hD4 : w4.heap[D]? = some (.deferred (some [])) := (v5.2.1 D hDt hDn).trans ((World.putObj_heap_other hDl).trans hD3)
  have key : ∀ jump : Option Code, jump = (if ex = .nrm then none else some .ret) → RoundDone w S N nm l D rec ex s4 (w4.putObj l (.loop { rec with state := if jump.isNone then .ready else .done, pending := jump })) := by
    intro jump hj
    have f5 := FR.putObj f4 hl4 (fun _ _ _ h => by cases h) (fun _ _ h => by cases h) (.loop { rec with state := if jump.isNone then .ready else .done, pending := jump })
    refine ⟨⟨S4, N4, _, u1.trans v1, f5⟩, ?_, (World.putObj_heap_other hDl).trans hD4, ?_, fun b b1 b2 b3 => ?_, fun b => ?_, ?_⟩
    · rw [World.putObj_heap_same (lt_of_get hl4), hj]
      rcases hex with rfl | rfl <;> rfl
    · rw [World.putObj_size]; exact Nat.le_trans hsz3 v5.1
    · rw [World.putObj_heap_other b2, v5.2.1 b b1 b3, World.putObj_heap_other b2]; exact u5.2.1 b b1 b3
    · exact Nat.le_trans (u5.2.2 b) (Nat.le_trans (rows_putObj hl3 nl b) (Nat.le_trans (v5.2.2 b) (rows_putObj hl4 (fun _ _ _ h => by cases h) b)))
    · exact u6.trans (Tw.trans (b := w3.putObj l (.loop { rec with state := .busy })) ⟨rfl, rfl, rfl, Nat.le_refl _⟩ (v6.trans ⟨rfl, rfl, rfl, Nat.le_refl _⟩))
  rcases hex with rfl | rfl
  · exact ⟨_, _, run_endRound none hl4, ⟨_, rfl⟩, key none rfl⟩
  · exact ⟨_, _, run_endRound (some .ret) hl4, ⟨_, rfl⟩, key (some .ret) rfl⟩
end Go.Ev
