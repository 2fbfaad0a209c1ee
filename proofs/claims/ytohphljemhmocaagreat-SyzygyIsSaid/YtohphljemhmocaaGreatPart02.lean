/- Parts of the proof of the statement: EvCdA, FMono, FPoly, FSum, FRaw, FList, FMerge, FProg, FAlg, FNorm, FLaw, FSpec, FSpec2, FSpec3, FSpec4. -/
import Derived.Test.YtohphljemhmocaaGreatPart00
import Derived.Test.YtohphljemhmocaaGreatPart01
set_option linter.unusedVariables false
set_option linter.unusedSimpArgs false
/- Code of functions, printed from the translation by a program of mine. -/
set_option maxRecDepth 100000
namespace Go.Ev
/- eliminant/eliminantref06.Add -/
def l_ref06_Add_0 : C :=
 .seq (.seq (.reg [⟨none, .mv 10 (.t 6)⟩,
    ⟨none, .mv 11 (.t 0)⟩,
    ⟨none, .len 12 (.t 11)⟩,
    ⟨none, .bin 13 .lss (.t 10) (.t 12)⟩,
    ⟨none, .mv 14 (.t 13)⟩,
    ⟨some (14, false, 15), .mv 15 (.t 7)⟩,
    ⟨some (14, false, 16), .mv 16 (.t 1)⟩,
    ⟨some (14, false, 17), .len 17 (.t 16)⟩,
    ⟨some (14, false, 18), .bin 18 .lss (.t 15) (.t 17)⟩,
    ⟨none, .pick 19 (.t 14) (.c (.b true)) (.t 18)⟩])
  (.cond (.t 19) (.skip)
   (.exit 0)))
 (.block 1 (.seq (.seq (.reg [⟨none, .mv 20 (.t 7)⟩,
      ⟨none, .mv 21 (.t 1)⟩,
      ⟨none, .len 22 (.t 21)⟩,
      ⟨none, .bin 23 .eql (.t 20) (.t 22)⟩,
      ⟨none, .mv 24 (.t 23)⟩,
      ⟨some (24, false, 25), .mv 25 (.t 6)⟩,
      ⟨some (24, false, 26), .mv 26 (.t 0)⟩,
      ⟨some (24, false, 27), .len 27 (.t 26)⟩,
      ⟨some (24, false, 28), .bin 28 .lss (.t 25) (.t 27)⟩,
      ⟨some (24, false, 29), .mv 29 (.t 28)⟩,
      ⟨some (29, true, 30), .mv 30 (.t 0)⟩,
      ⟨some (29, true, 31), .mv 31 (.t 6)⟩,
      ⟨some (29, true, 32), .iaddrS 32 12 (.t 30) (.t 31)⟩,
      ⟨some (29, true, 33), .faddr 33 4 (.t 32)⟩,
      ⟨some (29, true, 34), .load 34 8 true (.t 33)⟩,
      ⟨some (29, true, 35), .mv 35 (.t 1)⟩,
      ⟨some (29, true, 36), .mv 36 (.t 7)⟩,
      ⟨some (29, true, 37), .iaddrS 37 12 (.t 35) (.t 36)⟩,
      ⟨some (29, true, 38), .faddr 38 4 (.t 37)⟩,
      ⟨some (29, true, 39), .load 39 8 true (.t 38)⟩,
      ⟨some (29, true, 40), .call (some 40) n_ref04_Cmp [.t 34, .t 39]⟩,
      ⟨some (29, true, 41), .bin 41 .gtr (.t 40) (.c (.i .i64 0))⟩,
      ⟨some (24, false, 42), .pick 42 (.t 29) (.t 41) (.c (.b false))⟩,
      ⟨none, .pick 43 (.t 24) (.c (.b true)) (.t 42)⟩])
    (.cond (.t 43) (.seq (.reg [⟨none, .mv 44 (.t 5)⟩,
        ⟨none, .mv 45 (.t 0)⟩,
        ⟨none, .mv 46 (.t 6)⟩,
        ⟨none, .iaddrS 47 12 (.t 45) (.t 46)⟩,
        ⟨none, .load 48 12 true (.t 47)⟩,
        ⟨none, .bslice 49 1 12 [.b false, .sl 0 [], .b false, .sl 0 [], .i .i64 0, .i .i64 0, .i .i64 0, .i .i64 0, .i .i64 0, .i .i64 0, .i .i64 0, .i .i64 0] [(0, 12, .t 48)]⟩,
        ⟨none, .append 50 12 128 (.t 44) (.t 49)⟩,
        ⟨none, .mv 5 (.t 50)⟩])
      (.seq (.reg [⟨none, .mv 51 (.t 6)⟩,
         ⟨none, .bin 52 .add (.t 51) (.c (.i .i64 1))⟩,
         ⟨none, .mv 6 (.t 52)⟩])
       (.exit 1)))
     (.skip)))
   (.seq (.seq (.reg [⟨none, .mv 53 (.t 6)⟩,
       ⟨none, .mv 54 (.t 0)⟩,
       ⟨none, .len 55 (.t 54)⟩,
       ⟨none, .bin 56 .eql (.t 53) (.t 55)⟩,
       ⟨none, .mv 57 (.t 56)⟩,
       ⟨some (57, false, 58), .mv 58 (.t 0)⟩,
       ⟨some (57, false, 59), .mv 59 (.t 6)⟩,
       ⟨some (57, false, 60), .iaddrS 60 12 (.t 58) (.t 59)⟩,
       ⟨some (57, false, 61), .faddr 61 4 (.t 60)⟩,
       ⟨some (57, false, 62), .load 62 8 true (.t 61)⟩,
       ⟨some (57, false, 63), .mv 63 (.t 1)⟩,
       ⟨some (57, false, 64), .mv 64 (.t 7)⟩,
       ⟨some (57, false, 65), .iaddrS 65 12 (.t 63) (.t 64)⟩,
       ⟨some (57, false, 66), .faddr 66 4 (.t 65)⟩,
       ⟨some (57, false, 67), .load 67 8 true (.t 66)⟩,
       ⟨some (57, false, 68), .call (some 68) n_ref04_Cmp [.t 62, .t 67]⟩,
       ⟨some (57, false, 69), .bin 69 .lss (.t 68) (.c (.i .i64 0))⟩,
       ⟨none, .pick 70 (.t 57) (.c (.b true)) (.t 69)⟩])
     (.cond (.t 70) (.seq (.reg [⟨none, .mv 71 (.t 5)⟩,
         ⟨none, .mv 72 (.t 1)⟩,
         ⟨none, .mv 73 (.t 7)⟩,
         ⟨none, .iaddrS 74 12 (.t 72) (.t 73)⟩,
         ⟨none, .load 75 12 true (.t 74)⟩,
         ⟨none, .bslice 76 1 12 [.b false, .sl 0 [], .b false, .sl 0 [], .i .i64 0, .i .i64 0, .i .i64 0, .i .i64 0, .i .i64 0, .i .i64 0, .i .i64 0, .i .i64 0] [(0, 12, .t 75)]⟩,
         ⟨none, .append 77 12 128 (.t 71) (.t 76)⟩,
         ⟨none, .mv 5 (.t 77)⟩])
       (.seq (.reg [⟨none, .mv 78 (.t 7)⟩,
          ⟨none, .bin 79 .add (.t 78) (.c (.i .i64 1))⟩,
          ⟨none, .mv 7 (.t 79)⟩])
        (.exit 1)))
      (.skip)))
    (.seq (.reg [⟨none, .mv 80 (.t 0)⟩,
       ⟨none, .mv 81 (.t 6)⟩,
       ⟨none, .iaddrS 82 12 (.t 80) (.t 81)⟩,
       ⟨none, .faddr 83 0 (.t 82)⟩,
       ⟨none, .load 84 4 true (.t 83)⟩,
       ⟨none, .mv 85 (.t 1)⟩,
       ⟨none, .mv 86 (.t 7)⟩,
       ⟨none, .iaddrS 87 12 (.t 85) (.t 86)⟩,
       ⟨none, .faddr 88 0 (.t 87)⟩,
       ⟨none, .load 89 4 true (.t 88)⟩,
       ⟨none, .call (some 90) n_ref02_Add [.t 84, .t 89]⟩,
       ⟨none, .alloc 8 [.b false, .nil, .b false, .nil]⟩,
       ⟨none, .store 4 (.t 8) (.t 90)⟩])
     (.seq (.seq (.reg [⟨none, .load 91 4 true (.t 8)⟩,
         ⟨none, .call (some 92) n_ref02_Sign [.t 91]⟩,
         ⟨none, .bin 93 .neq (.t 92) (.c (.i .i64 0))⟩])
       (.cond (.t 93) (.reg [⟨none, .mv 94 (.t 5)⟩,
          ⟨none, .load 95 4 true (.t 8)⟩,
          ⟨none, .mv 96 (.t 0)⟩,
          ⟨none, .mv 97 (.t 6)⟩,
          ⟨none, .iaddrS 98 12 (.t 96) (.t 97)⟩,
          ⟨none, .faddr 99 4 (.t 98)⟩,
          ⟨none, .load 100 8 true (.t 99)⟩,
          ⟨none, .build 101 [.b false, .nil, .b false, .nil, .i .i64 0, .i .i64 0, .i .i64 0, .i .i64 0, .i .i64 0, .i .i64 0, .i .i64 0, .i .i64 0] [(0, 4, .t 95), (4, 8, .t 100)]⟩,
          ⟨none, .bslice 102 1 12 [.b false, .sl 0 [], .b false, .sl 0 [], .i .i64 0, .i .i64 0, .i .i64 0, .i .i64 0, .i .i64 0, .i .i64 0, .i .i64 0, .i .i64 0] [(0, 12, .t 101)]⟩,
          ⟨none, .append 103 12 128 (.t 94) (.t 102)⟩,
          ⟨none, .mv 5 (.t 103)⟩])
        (.skip)))
      (.seq (.reg [⟨none, .mv 104 (.t 6)⟩,
         ⟨none, .bin 105 .add (.t 104) (.c (.i .i64 1))⟩,
         ⟨none, .mv 6 (.t 105)⟩])
       (.reg [⟨none, .mv 106 (.t 7)⟩,
         ⟨none, .bin 107 .add (.t 106) (.c (.i .i64 1))⟩,
         ⟨none, .mv 7 (.t 107)⟩])))))))
def c_ref06_Add : Fun := ⟨2, [.t 4],
 .seq (.reg [⟨none, .mv 4 (.c (.nil))⟩])
 (.seq (.reg [⟨none, .bslice 9 0 12 [.b false, .sl 0 [], .b false, .sl 0 [], .i .i64 0, .i .i64 0, .i .i64 0, .i .i64 0, .i .i64 0, .i .i64 0, .i .i64 0, .i .i64 0] []⟩,
    ⟨none, .mv 5 (.t 9)⟩])
  (.seq (.reg [⟨none, .mv 6 (.c (.i .i64 0))⟩,
     ⟨none, .mv 7 (.c (.i .i64 0))⟩])
   (.seq (.block 0 (.loop l_ref06_Add_0))
    (.seq (.reg [⟨none, .mv 108 (.t 5)⟩,
       ⟨none, .mv 4 (.t 108)⟩])
     (.ret)))))⟩
/- eliminant/eliminantref06.Times -/
def l_ref06_Times_0 : C :=
 .seq (.seq (.reg [⟨none, .mv 16 (.t 9)⟩,
    ⟨none, .mv 17 (.t 2)⟩,
    ⟨none, .len 18 (.t 17)⟩,
    ⟨none, .bin 19 .lss (.t 16) (.t 18)⟩])
  (.cond (.t 19) (.skip)
   (.exit 0)))
 (.seq (.block 1 (.seq (.reg [⟨none, .load 23 8 true (.t 4)⟩,
      ⟨none, .mv 24 (.t 2)⟩,
      ⟨none, .mv 25 (.t 9)⟩,
      ⟨none, .iaddrS 26 12 (.t 24) (.t 25)⟩,
      ⟨none, .faddr 27 4 (.t 26)⟩,
      ⟨none, .load 28 8 true (.t 27)⟩,
      ⟨none, .call (some 29) n_ref04_Mul [.t 23, .t 28]⟩,
      ⟨none, .mv 22 (.t 29)⟩,
      ⟨none, .ext 30 0 (.t 22)⟩,
      ⟨none, .ext 31 1 (.t 22)⟩,
      ⟨none, .alloc 10 [.i .i64 0, .i .i64 0, .i .i64 0, .i .i64 0, .i .i64 0, .i .i64 0, .i .i64 0, .i .i64 0]⟩,
      ⟨none, .store 8 (.t 10) (.t 30)⟩,
      ⟨none, .mv 11 (.t 31)⟩])
    (.seq (.seq (.reg [⟨none, .mv 32 (.t 11)⟩,
        ⟨none, .bin 33 .neq (.t 32) (.c (.i .i64 0))⟩])
      (.cond (.t 33) (.seq (.reg [⟨none, .mv 6 (.c (.nil))⟩,
          ⟨none, .mv 7 (.c (.i .i64 2))⟩])
        (.ret))
       (.skip)))
     (.reg [⟨none, .mv 34 (.t 8)⟩,
       ⟨none, .load 35 4 true (.t 3)⟩,
       ⟨none, .mv 36 (.t 2)⟩,
       ⟨none, .mv 37 (.t 9)⟩,
       ⟨none, .iaddrS 38 12 (.t 36) (.t 37)⟩,
       ⟨none, .faddr 39 0 (.t 38)⟩,
       ⟨none, .load 40 4 true (.t 39)⟩,
       ⟨none, .call (some 41) n_ref02_Mul [.t 35, .t 40]⟩,
       ⟨none, .load 42 8 true (.t 10)⟩,
       ⟨none, .build 43 [.b false, .nil, .b false, .nil, .i .i64 0, .i .i64 0, .i .i64 0, .i .i64 0, .i .i64 0, .i .i64 0, .i .i64 0, .i .i64 0] [(0, 4, .t 41), (4, 8, .t 42)]⟩,
       ⟨none, .bslice 44 1 12 [.b false, .sl 0 [], .b false, .sl 0 [], .i .i64 0, .i .i64 0, .i .i64 0, .i .i64 0, .i .i64 0, .i .i64 0, .i .i64 0, .i .i64 0] [(0, 12, .t 43)]⟩,
       ⟨none, .append 45 12 128 (.t 34) (.t 44)⟩,
       ⟨none, .mv 8 (.t 45)⟩]))))
  (.reg [⟨none, .mv 20 (.t 9)⟩,
    ⟨none, .bin 21 .add (.t 20) (.c (.i .i64 1))⟩,
    ⟨none, .mv 9 (.t 21)⟩]))
def c_ref06_Times : Fun := ⟨3, [.t 6, .t 7],
 .seq (.reg [⟨none, .box 3 4 (.t 0)⟩,
   ⟨none, .box 4 8 (.t 1)⟩,
   ⟨none, .mv 6 (.c (.nil))⟩,
   ⟨none, .mv 7 (.c (.i .i64 0))⟩])
 (.seq (.reg [⟨none, .bslice 12 0 12 [.b false, .sl 0 [], .b false, .sl 0 [], .i .i64 0, .i .i64 0, .i .i64 0, .i .i64 0, .i .i64 0, .i .i64 0, .i .i64 0, .i .i64 0] []⟩,
    ⟨none, .mv 8 (.t 12)⟩])
  (.seq (.seq (.reg [⟨none, .load 13 4 true (.t 3)⟩,
      ⟨none, .call (some 14) n_ref02_Sign [.t 13]⟩,
      ⟨none, .bin 15 .eql (.t 14) (.c (.i .i64 0))⟩])
    (.cond (.t 15) (.seq (.reg [⟨none, .mv 6 (.c (.nil))⟩,
        ⟨none, .mv 7 (.c (.i .i64 0))⟩])
      (.ret))
     (.skip)))
   (.seq (.seq (.reg [⟨none, .mv 9 (.c (.i .i64 0))⟩])
     (.block 0 (.loop l_ref06_Times_0)))
    (.seq (.reg [⟨none, .mv 46 (.t 8)⟩,
       ⟨none, .mv 6 (.t 46)⟩,
       ⟨none, .mv 7 (.c (.i .i64 0))⟩])
     (.ret)))))⟩
/- eliminant/eliminantref06.Scale -/
def c_ref06_Scale : Fun := ⟨2, [.t 4],
 .seq (.reg [⟨none, .box 2 4 (.t 0)⟩,
   ⟨none, .mv 4 (.c (.nil))⟩])
 (.seq (.reg [⟨none, .load 8 4 true (.t 2)⟩,
    ⟨none, .build 9 [.i .i64 0, .i .i64 0, .i .i64 0, .i .i64 0, .i .i64 0, .i .i64 0, .i .i64 0, .i .i64 0] []⟩,
    ⟨none, .mv 10 (.t 1)⟩,
    ⟨none, .call (some 11) n_ref06_Times [.t 8, .t 9, .t 10]⟩,
    ⟨none, .mv 7 (.t 11)⟩,
    ⟨none, .ext 12 0 (.t 7)⟩,
    ⟨none, .ext 13 1 (.t 7)⟩,
    ⟨none, .mv 5 (.t 12)⟩,
    ⟨none, .mv 6 (.t 13)⟩])
  (.seq (.reg [⟨none, .mv 14 (.t 5)⟩,
     ⟨none, .mv 4 (.t 14)⟩])
   (.ret)))⟩
/- eliminant/eliminantref06.Sub -/
def c_ref06_Sub : Fun := ⟨2, [.t 4],
 .seq (.reg [⟨none, .mv 4 (.c (.nil))⟩])
 (.seq (.reg [⟨none, .mv 5 (.t 0)⟩,
    ⟨none, .call (some 6) n_ref02_Whole [.c (.i .i64 (-1))]⟩,
    ⟨none, .mv 7 (.t 1)⟩,
    ⟨none, .call (some 8) n_ref06_Scale [.t 6, .t 7]⟩,
    ⟨none, .call (some 9) n_ref06_Add [.t 5, .t 8]⟩,
    ⟨none, .mv 4 (.t 9)⟩])
  (.ret))⟩
/- eliminant/eliminantref06.Mul -/
def l_ref06_Mul_0 : C :=
 .seq (.seq (.reg [⟨none, .mv 11 (.t 7)⟩,
    ⟨none, .mv 12 (.t 0)⟩,
    ⟨none, .len 13 (.t 12)⟩,
    ⟨none, .bin 14 .lss (.t 11) (.t 13)⟩])
  (.cond (.t 14) (.skip)
   (.exit 0)))
 (.seq (.block 1 (.seq (.reg [⟨none, .mv 18 (.t 0)⟩,
      ⟨none, .mv 19 (.t 7)⟩,
      ⟨none, .iaddrS 20 12 (.t 18) (.t 19)⟩,
      ⟨none, .faddr 21 0 (.t 20)⟩,
      ⟨none, .load 22 4 true (.t 21)⟩,
      ⟨none, .mv 23 (.t 0)⟩,
      ⟨none, .mv 24 (.t 7)⟩,
      ⟨none, .iaddrS 25 12 (.t 23) (.t 24)⟩,
      ⟨none, .faddr 26 4 (.t 25)⟩,
      ⟨none, .load 27 8 true (.t 26)⟩,
      ⟨none, .mv 28 (.t 1)⟩,
      ⟨none, .call (some 29) n_ref06_Times [.t 22, .t 27, .t 28]⟩,
      ⟨none, .mv 17 (.t 29)⟩,
      ⟨none, .ext 30 0 (.t 17)⟩,
      ⟨none, .ext 31 1 (.t 17)⟩,
      ⟨none, .mv 8 (.t 30)⟩,
      ⟨none, .mv 9 (.t 31)⟩])
    (.seq (.seq (.reg [⟨none, .mv 32 (.t 9)⟩,
        ⟨none, .bin 33 .neq (.t 32) (.c (.i .i64 0))⟩])
      (.cond (.t 33) (.seq (.reg [⟨none, .mv 34 (.t 9)⟩,
          ⟨none, .mv 4 (.c (.nil))⟩,
          ⟨none, .mv 5 (.t 34)⟩])
        (.ret))
       (.skip)))
     (.reg [⟨none, .mv 35 (.t 6)⟩,
       ⟨none, .mv 36 (.t 8)⟩,
       ⟨none, .call (some 37) n_ref06_Add [.t 35, .t 36]⟩,
       ⟨none, .mv 6 (.t 37)⟩]))))
  (.reg [⟨none, .mv 15 (.t 7)⟩,
    ⟨none, .bin 16 .add (.t 15) (.c (.i .i64 1))⟩,
    ⟨none, .mv 7 (.t 16)⟩]))
def c_ref06_Mul : Fun := ⟨2, [.t 4, .t 5],
 .seq (.reg [⟨none, .mv 4 (.c (.nil))⟩,
   ⟨none, .mv 5 (.c (.i .i64 0))⟩])
 (.seq (.reg [⟨none, .bslice 10 0 12 [.b false, .sl 0 [], .b false, .sl 0 [], .i .i64 0, .i .i64 0, .i .i64 0, .i .i64 0, .i .i64 0, .i .i64 0, .i .i64 0, .i .i64 0] []⟩,
    ⟨none, .mv 6 (.t 10)⟩])
  (.seq (.seq (.reg [⟨none, .mv 7 (.c (.i .i64 0))⟩])
    (.block 0 (.loop l_ref06_Mul_0)))
   (.seq (.reg [⟨none, .mv 38 (.t 6)⟩,
      ⟨none, .mv 4 (.t 38)⟩,
      ⟨none, .mv 5 (.c (.i .i64 0))⟩])
    (.ret))))⟩
/- eliminant/eliminantref06.By -/
def c_ref06_By : Fun := ⟨2, [.t 4],
 .seq (.reg [⟨none, .mv 4 (.c (.nil))⟩])
 (.seq (.reg [⟨none, .mv 8 (.t 0)⟩,
    ⟨none, .mv 9 (.t 1)⟩,
    ⟨none, .call (some 10) n_ref06_Mul [.t 8, .t 9]⟩,
    ⟨none, .mv 7 (.t 10)⟩,
    ⟨none, .ext 11 0 (.t 7)⟩,
    ⟨none, .ext 12 1 (.t 7)⟩,
    ⟨none, .mv 5 (.t 11)⟩,
    ⟨none, .mv 6 (.t 12)⟩])
  (.seq (.reg [⟨none, .mv 13 (.t 5)⟩,
     ⟨none, .mv 4 (.t 13)⟩])
   (.ret)))⟩
/- eliminant/eliminantref06.Made -/
def l_ref06_Made_0 : C :=
 .seq (.seq (.reg [⟨none, .mv 29 (.t 13)⟩,
    ⟨none, .mv 30 (.t 1)⟩,
    ⟨none, .bin 31 .lss (.t 29) (.t 30)⟩,
    ⟨none, .mv 32 (.t 31)⟩,
    ⟨some (32, true, 33), .mv 33 (.t 13)⟩,
    ⟨some (32, true, 34), .bin 34 .lss (.t 33) (.c (.i .i64 4))⟩,
    ⟨none, .pick 35 (.t 32) (.t 34) (.c (.b false))⟩])
  (.cond (.t 35) (.skip)
   (.exit 2)))
 (.seq (.block 3 (.seq (.reg [⟨none, .mv 38 (.t 13)⟩,
      ⟨none, .faddr 39 0 (.t 4)⟩,
      ⟨none, .load 40 1 false (.t 39)⟩,
      ⟨none, .mv 41 (.t 10)⟩,
      ⟨none, .mv 42 (.t 13)⟩,
      ⟨none, .bin 43 .add (.c (.i .i64 1)) (.t 42)⟩,
      ⟨none, .iaddrS 44 5 (.t 40) (.t 41)⟩,
      ⟨none, .iaddrA 45 5 1 (.t 44) (.t 43)⟩,
      ⟨none, .load 46 1 false (.t 45)⟩,
      ⟨none, .call (some 47) n_ref06_abs [.t 46]⟩,
      ⟨none, .mv 48 (.t 12)⟩,
      ⟨none, .bin 49 .add (.t 48) (.c (.i .i64 1))⟩,
      ⟨none, .bin 50 .rem (.t 47) (.t 49)⟩,
      ⟨none, .iaddrA 51 8 1 (.t 11) (.t 38)⟩,
      ⟨none, .store 1 (.t 51) (.t 50)⟩])
    (.reg [⟨none, .mv 52 (.t 12)⟩,
      ⟨none, .mv 53 (.t 13)⟩,
      ⟨none, .iaddrA 54 8 1 (.t 11) (.t 53)⟩,
      ⟨none, .load 55 1 false (.t 54)⟩,
      ⟨none, .bin 56 .sub (.t 52) (.t 55)⟩,
      ⟨none, .mv 12 (.t 56)⟩])))
  (.reg [⟨none, .mv 36 (.t 13)⟩,
    ⟨none, .bin 37 .add (.t 36) (.c (.i .i64 1))⟩,
    ⟨none, .mv 13 (.t 37)⟩]))
def l_ref06_Made_1 : C :=
 .seq (.seq (.reg [⟨none, .mv 15 (.t 10)⟩,
    ⟨none, .faddr 16 0 (.t 4)⟩,
    ⟨none, .load 17 1 false (.t 16)⟩,
    ⟨none, .len 18 (.t 17)⟩,
    ⟨none, .bin 19 .lss (.t 15) (.t 18)⟩,
    ⟨none, .mv 20 (.t 19)⟩,
    ⟨some (20, true, 21), .mv 21 (.t 10)⟩,
    ⟨some (20, true, 22), .mv 22 (.t 3)⟩,
    ⟨some (20, true, 23), .bin 23 .lss (.t 21) (.t 22)⟩,
    ⟨none, .pick 24 (.t 20) (.t 23) (.c (.b false))⟩])
  (.cond (.t 24) (.skip)
   (.exit 0)))
 (.seq (.block 1 (.seq (.reg [⟨none, .build 27 [.i .i64 0, .i .i64 0, .i .i64 0, .i .i64 0, .i .i64 0, .i .i64 0, .i .i64 0, .i .i64 0] []⟩,
      ⟨none, .alloc 11 [.i .i64 0, .i .i64 0, .i .i64 0, .i .i64 0, .i .i64 0, .i .i64 0, .i .i64 0, .i .i64 0]⟩,
      ⟨none, .store 8 (.t 11) (.t 27)⟩])
    (.seq (.reg [⟨none, .mv 28 (.t 2)⟩,
       ⟨none, .mv 12 (.t 28)⟩])
     (.seq (.seq (.reg [⟨none, .mv 13 (.c (.i .i64 0))⟩])
       (.block 2 (.loop l_ref06_Made_0)))
      (.reg [⟨none, .mv 57 (.t 9)⟩,
        ⟨none, .faddr 58 0 (.t 4)⟩,
        ⟨none, .load 59 1 false (.t 58)⟩,
        ⟨none, .mv 60 (.t 10)⟩,
        ⟨none, .iaddrS 61 5 (.t 59) (.t 60)⟩,
        ⟨none, .iaddrA 62 5 1 (.t 61) (.c (.i .i64 0))⟩,
        ⟨none, .load 63 1 false (.t 62)⟩,
        ⟨none, .bin 64 .rem (.t 63) (.c (.i .i8 4))⟩,
        ⟨none, .conv 65 .i64 (.t 64)⟩,
        ⟨none, .call (some 66) n_ref02_Whole [.t 65]⟩,
        ⟨none, .call (some 67) n_ref02_Whole [.c (.i .i64 1)]⟩,
        ⟨none, .load 68 8 true (.t 11)⟩,
        ⟨none, .build 69 [.b false, .nil, .b false, .nil, .i .i64 0, .i .i64 0, .i .i64 0, .i .i64 0, .i .i64 0, .i .i64 0, .i .i64 0, .i .i64 0] [(0, 4, .t 67), (4, 8, .t 68)]⟩,
        ⟨none, .bslice 70 1 12 [.b false, .sl 0 [], .b false, .sl 0 [], .i .i64 0, .i .i64 0, .i .i64 0, .i .i64 0, .i .i64 0, .i .i64 0, .i .i64 0, .i .i64 0] [(0, 12, .t 69)]⟩,
        ⟨none, .call (some 71) n_ref06_Scale [.t 66, .t 70]⟩,
        ⟨none, .call (some 72) n_ref06_Add [.t 57, .t 71]⟩,
        ⟨none, .mv 9 (.t 72)⟩])))))
  (.reg [⟨none, .mv 25 (.t 10)⟩,
    ⟨none, .bin 26 .add (.t 25) (.c (.i .i64 1))⟩,
    ⟨none, .mv 10 (.t 26)⟩]))
def c_ref06_Made : Fun := ⟨4, [.t 8],
 .seq (.reg [⟨none, .box 4 1 (.t 0)⟩,
   ⟨none, .mv 8 (.c (.nil))⟩])
 (.seq (.reg [⟨none, .bslice 14 0 12 [.b false, .sl 0 [], .b false, .sl 0 [], .i .i64 0, .i .i64 0, .i .i64 0, .i .i64 0, .i .i64 0, .i .i64 0, .i .i64 0, .i .i64 0] []⟩,
    ⟨none, .mv 9 (.t 14)⟩])
  (.seq (.seq (.reg [⟨none, .mv 10 (.c (.i .i64 0))⟩])
    (.block 0 (.loop l_ref06_Made_1)))
   (.seq (.reg [⟨none, .mv 73 (.t 9)⟩,
      ⟨none, .mv 8 (.t 73)⟩])
    (.ret))))⟩
/- eliminant/eliminantref06.List -/
def l_ref06_List_0 : C :=
 .seq (.seq (.reg [⟨none, .mv 14 (.t 12)⟩,
    ⟨none, .mv 15 (.t 0)⟩,
    ⟨none, .len 16 (.t 15)⟩,
    ⟨none, .bin 17 .lss (.t 14) (.t 16)⟩,
    ⟨none, .mv 18 (.t 17)⟩,
    ⟨some (18, true, 19), .mv 19 (.t 12)⟩,
    ⟨some (18, true, 20), .mv 20 (.t 4)⟩,
    ⟨some (18, true, 21), .bin 21 .lss (.t 19) (.t 20)⟩,
    ⟨none, .pick 22 (.t 18) (.t 21) (.c (.b false))⟩])
  (.cond (.t 22) (.skip)
   (.exit 0)))
 (.seq (.block 1 (.reg [⟨none, .mv 25 (.t 11)⟩,
     ⟨none, .mv 26 (.t 0)⟩,
     ⟨none, .mv 27 (.t 12)⟩,
     ⟨none, .iaddrS 28 1 (.t 26) (.t 27)⟩,
     ⟨none, .load 29 1 true (.t 28)⟩,
     ⟨none, .mv 30 (.t 1)⟩,
     ⟨none, .mv 31 (.t 2)⟩,
     ⟨none, .mv 32 (.t 3)⟩,
     ⟨none, .call (some 33) n_ref06_Made [.t 29, .t 30, .t 31, .t 32]⟩,
     ⟨none, .bslice 34 1 1 [.sl 0 []] [(0, 1, .t 33)]⟩,
     ⟨none, .append 35 1 24 (.t 25) (.t 34)⟩,
     ⟨none, .mv 11 (.t 35)⟩]))
  (.reg [⟨none, .mv 23 (.t 12)⟩,
    ⟨none, .bin 24 .add (.t 23) (.c (.i .i64 1))⟩,
    ⟨none, .mv 12 (.t 24)⟩]))
def c_ref06_List : Fun := ⟨5, [.t 10],
 .seq (.reg [⟨none, .mv 10 (.c (.nil))⟩])
 (.seq (.reg [⟨none, .bslice 13 0 1 [.sl 0 []] []⟩,
    ⟨none, .mv 11 (.t 13)⟩])
  (.seq (.seq (.reg [⟨none, .mv 12 (.c (.i .i64 0))⟩])
    (.block 0 (.loop l_ref06_List_0)))
   (.seq (.reg [⟨none, .mv 36 (.t 11)⟩,
      ⟨none, .mv 10 (.t 36)⟩])
    (.ret))))⟩
/- eliminant/eliminantref06.abs -/
def c_ref06_abs : Fun := ⟨1, [.t 2],
 .seq (.reg [⟨none, .mv 2 (.c (.i .i64 0))⟩])
 (.seq (.seq (.reg [⟨none, .mv 3 (.t 0)⟩,
     ⟨none, .bin 4 .lss (.t 3) (.c (.i .i8 0))⟩])
   (.cond (.t 4) (.seq (.reg [⟨none, .mv 5 (.t 0)⟩,
       ⟨none, .conv 6 .i64 (.t 5)⟩,
       ⟨none, .un 7 .neg (.t 6)⟩,
       ⟨none, .mv 2 (.t 7)⟩])
     (.ret))
    (.skip)))
  (.seq (.reg [⟨none, .mv 8 (.t 0)⟩,
     ⟨none, .conv 9 .i64 (.t 8)⟩,
     ⟨none, .mv 2 (.t 9)⟩])
   (.ret)))⟩
/- eliminant/eliminantref13.Polys -/
def c_ref13_Polys : Fun := ⟨1, [.t 2],
 .seq (.reg [⟨none, .box 1 2 (.t 0)⟩,
   ⟨none, .mv 2 (.c (.nil))⟩])
 (.seq (.reg [⟨none, .faddr 3 0 (.t 1)⟩,
    ⟨none, .load 4 1 false (.t 3)⟩,
    ⟨none, .call (some 5) n_ref06_List [.t 4, .c (.i .i64 2), .c (.i .i64 2), .c (.i .i64 3), .c (.i .i64 3)]⟩,
    ⟨none, .mv 2 (.t 5)⟩])
  (.ret))⟩
/- eliminant/eliminantref04.Cmp -/
def l_ref04_Cmp_0 : C :=
 .seq (.seq (.reg [⟨none, .mv 6 (.t 5)⟩,
    ⟨none, .bin 7 .lss (.t 6) (.c (.i .i64 8))⟩])
  (.cond (.t 7) (.skip)
   (.exit 0)))
 (.seq (.block 1 (.seq (.seq (.reg [⟨none, .mv 10 (.t 5)⟩,
       ⟨none, .iaddrA 11 8 1 (.t 2) (.t 10)⟩,
       ⟨none, .load 12 1 false (.t 11)⟩,
       ⟨none, .mv 13 (.t 5)⟩,
       ⟨none, .iaddrA 14 8 1 (.t 3) (.t 13)⟩,
       ⟨none, .load 15 1 false (.t 14)⟩,
       ⟨none, .bin 16 .lss (.t 12) (.t 15)⟩])
     (.cond (.t 16) (.seq (.reg [⟨none, .mv 4 (.c (.i .i64 (-1)))⟩])
       (.ret))
      (.skip)))
    (.seq (.reg [⟨none, .mv 17 (.t 5)⟩,
       ⟨none, .iaddrA 18 8 1 (.t 2) (.t 17)⟩,
       ⟨none, .load 19 1 false (.t 18)⟩,
       ⟨none, .mv 20 (.t 5)⟩,
       ⟨none, .iaddrA 21 8 1 (.t 3) (.t 20)⟩,
       ⟨none, .load 22 1 false (.t 21)⟩,
       ⟨none, .bin 23 .gtr (.t 19) (.t 22)⟩])
     (.cond (.t 23) (.seq (.reg [⟨none, .mv 4 (.c (.i .i64 1))⟩])
       (.ret))
      (.skip)))))
  (.reg [⟨none, .mv 8 (.t 5)⟩,
    ⟨none, .bin 9 .add (.t 8) (.c (.i .i64 1))⟩,
    ⟨none, .mv 5 (.t 9)⟩]))
def c_ref04_Cmp : Fun := ⟨2, [.t 4],
 .seq (.reg [⟨none, .box 2 8 (.t 0)⟩,
   ⟨none, .box 3 8 (.t 1)⟩,
   ⟨none, .mv 4 (.c (.i .i64 0))⟩])
 (.seq (.seq (.reg [⟨none, .mv 5 (.c (.i .i64 0))⟩])
   (.block 0 (.loop l_ref04_Cmp_0)))
  (.seq (.reg [⟨none, .mv 4 (.c (.i .i64 0))⟩])
   (.ret)))⟩
/- eliminant/eliminantref04.Mul -/
def l_ref04_Mul_0 : C :=
 .seq (.seq (.reg [⟨none, .mv 7 (.t 6)⟩,
    ⟨none, .bin 8 .lss (.t 7) (.c (.i .i64 8))⟩])
  (.cond (.t 8) (.skip)
   (.exit 0)))
 (.seq (.block 1 (.reg [⟨none, .mv 11 (.t 6)⟩,
     ⟨none, .iaddrA 12 8 1 (.t 2) (.t 11)⟩,
     ⟨none, .load 13 1 false (.t 12)⟩,
     ⟨none, .mv 14 (.t 6)⟩,
     ⟨none, .iaddrA 15 8 1 (.t 3) (.t 14)⟩,
     ⟨none, .load 16 1 false (.t 15)⟩,
     ⟨none, .bin 17 .add (.t 13) (.t 16)⟩,
     ⟨none, .iaddrA 18 8 1 (.t 2) (.t 11)⟩,
     ⟨none, .store 1 (.t 18) (.t 17)⟩]))
  (.reg [⟨none, .mv 9 (.t 6)⟩,
    ⟨none, .bin 10 .add (.t 9) (.c (.i .i64 1))⟩,
    ⟨none, .mv 6 (.t 10)⟩]))
def c_ref04_Mul : Fun := ⟨2, [.c 4 8 true, .t 5],
 .seq (.reg [⟨none, .box 2 8 (.t 0)⟩,
   ⟨none, .box 3 8 (.t 1)⟩,
   ⟨none, .alloc 4 [.i .i64 0, .i .i64 0, .i .i64 0, .i .i64 0, .i .i64 0, .i .i64 0, .i .i64 0, .i .i64 0]⟩,
   ⟨none, .mv 5 (.c (.i .i64 0))⟩])
 (.seq (.seq (.reg [⟨none, .mv 6 (.c (.i .i64 0))⟩])
   (.block 0 (.loop l_ref04_Mul_0)))
  (.seq (.seq (.reg [⟨none, .load 19 8 true (.t 2)⟩,
      ⟨none, .call (some 20) n_ref04_Valid [.t 19]⟩,
      ⟨none, .un 21 .not (.t 20)⟩])
    (.cond (.t 21) (.seq (.reg [⟨none, .build 22 [.i .i64 0, .i .i64 0, .i .i64 0, .i .i64 0, .i .i64 0, .i .i64 0, .i .i64 0, .i .i64 0] []⟩,
        ⟨none, .store 8 (.t 4) (.t 22)⟩,
        ⟨none, .mv 5 (.c (.i .i64 2))⟩])
      (.ret))
     (.skip)))
   (.seq (.reg [⟨none, .load 23 8 true (.t 2)⟩,
      ⟨none, .store 8 (.t 4) (.t 23)⟩,
      ⟨none, .mv 5 (.c (.i .i64 0))⟩])
    (.ret))))⟩
/- eliminant/eliminantref06.Same -/
def l_ref06_Same_0 : C :=
 .seq (.seq (.reg [⟨none, .mv 11 (.t 5)⟩,
    ⟨none, .mv 12 (.t 0)⟩,
    ⟨none, .len 13 (.t 12)⟩,
    ⟨none, .bin 14 .lss (.t 11) (.t 13)⟩])
  (.cond (.t 14) (.skip)
   (.exit 0)))
 (.seq (.block 1 (.seq (.reg [⟨none, .mv 17 (.t 0)⟩,
      ⟨none, .mv 18 (.t 5)⟩,
      ⟨none, .iaddrS 19 12 (.t 17) (.t 18)⟩,
      ⟨none, .load 20 12 true (.t 19)⟩,
      ⟨none, .mv 21 (.t 1)⟩,
      ⟨none, .mv 22 (.t 5)⟩,
      ⟨none, .iaddrS 23 12 (.t 21) (.t 22)⟩,
      ⟨none, .load 24 12 true (.t 23)⟩,
      ⟨none, .call (some 25) n_ref06_SameTerm [.t 20, .t 24]⟩,
      ⟨none, .un 26 .not (.t 25)⟩])
    (.cond (.t 26) (.seq (.reg [⟨none, .mv 4 (.c (.b false))⟩])
      (.ret))
     (.skip))))
  (.reg [⟨none, .mv 15 (.t 5)⟩,
    ⟨none, .bin 16 .add (.t 15) (.c (.i .i64 1))⟩,
    ⟨none, .mv 5 (.t 16)⟩]))
def c_ref06_Same : Fun := ⟨2, [.t 4],
 .seq (.reg [⟨none, .mv 4 (.c (.b false))⟩])
 (.seq (.seq (.reg [⟨none, .mv 6 (.t 0)⟩,
     ⟨none, .len 7 (.t 6)⟩,
     ⟨none, .mv 8 (.t 1)⟩,
     ⟨none, .len 9 (.t 8)⟩,
     ⟨none, .bin 10 .neq (.t 7) (.t 9)⟩])
   (.cond (.t 10) (.seq (.reg [⟨none, .mv 4 (.c (.b false))⟩])
     (.ret))
    (.skip)))
  (.seq (.seq (.reg [⟨none, .mv 5 (.c (.i .i64 0))⟩])
    (.block 0 (.loop l_ref06_Same_0)))
   (.seq (.reg [⟨none, .mv 4 (.c (.b true))⟩])
    (.ret))))⟩
/- eliminant/eliminantref06.SameTerm -/
def c_ref06_SameTerm : Fun := ⟨2, [.t 4],
 .seq (.reg [⟨none, .box 2 12 (.t 0)⟩,
   ⟨none, .box 3 12 (.t 1)⟩,
   ⟨none, .mv 4 (.c (.b false))⟩])
 (.seq (.reg [⟨none, .faddr 5 4 (.t 2)⟩,
    ⟨none, .load 6 8 true (.t 5)⟩,
    ⟨none, .faddr 7 4 (.t 3)⟩,
    ⟨none, .load 8 8 true (.t 7)⟩,
    ⟨none, .eqa 9 8 false (.t 6) (.t 8)⟩,
    ⟨none, .mv 10 (.t 9)⟩,
    ⟨some (10, true, 11), .faddr 11 0 (.t 2)⟩,
    ⟨some (10, true, 12), .load 12 4 true (.t 11)⟩,
    ⟨some (10, true, 13), .faddr 13 0 (.t 3)⟩,
    ⟨some (10, true, 14), .load 14 4 true (.t 13)⟩,
    ⟨some (10, true, 15), .call (some 15) n_ref02_Same [.t 12, .t 14]⟩,
    ⟨none, .pick 16 (.t 10) (.t 15) (.c (.b false))⟩,
    ⟨none, .mv 4 (.t 16)⟩])
  (.ret))⟩
/- eliminant/eliminantref12.Sum -/
def l_ref12_Sum_0 : C :=
 .seq (.seq (.reg [⟨none, .mv 16 (.t 7)⟩,
    ⟨none, .mv 17 (.t 1)⟩,
    ⟨none, .len 18 (.t 17)⟩,
    ⟨none, .bin 19 .lss (.t 16) (.t 18)⟩])
  (.cond (.t 19) (.skip)
   (.exit 0)))
 (.seq (.block 1 (.seq (.reg [⟨none, .mv 23 (.t 0)⟩,
      ⟨none, .mv 24 (.t 7)⟩,
      ⟨none, .iaddrS 25 1 (.t 23) (.t 24)⟩,
      ⟨none, .load 26 1 false (.t 25)⟩,
      ⟨none, .mv 27 (.t 1)⟩,
      ⟨none, .mv 28 (.t 7)⟩,
      ⟨none, .iaddrS 29 1 (.t 27) (.t 28)⟩,
      ⟨none, .load 30 1 false (.t 29)⟩,
      ⟨none, .call (some 31) n_ref06_Mul [.t 26, .t 30]⟩,
      ⟨none, .mv 22 (.t 31)⟩,
      ⟨none, .ext 32 0 (.t 22)⟩,
      ⟨none, .ext 33 1 (.t 22)⟩,
      ⟨none, .mv 8 (.t 32)⟩,
      ⟨none, .mv 9 (.t 33)⟩])
    (.seq (.seq (.reg [⟨none, .mv 34 (.t 9)⟩,
        ⟨none, .bin 35 .neq (.t 34) (.c (.i .i64 0))⟩])
      (.cond (.t 35) (.seq (.reg [⟨none, .mv 36 (.t 9)⟩,
          ⟨none, .mv 4 (.c (.nil))⟩,
          ⟨none, .mv 5 (.t 36)⟩])
        (.ret))
       (.skip)))
     (.reg [⟨none, .mv 37 (.t 6)⟩,
       ⟨none, .mv 38 (.t 8)⟩,
       ⟨none, .call (some 39) n_ref06_Add [.t 37, .t 38]⟩,
       ⟨none, .mv 6 (.t 39)⟩]))))
  (.reg [⟨none, .mv 20 (.t 7)⟩,
    ⟨none, .bin 21 .add (.t 20) (.c (.i .i64 1))⟩,
    ⟨none, .mv 7 (.t 21)⟩]))
def c_ref12_Sum : Fun := ⟨2, [.t 4, .t 5],
 .seq (.reg [⟨none, .mv 4 (.c (.nil))⟩,
   ⟨none, .mv 5 (.c (.i .i64 0))⟩])
 (.seq (.seq (.reg [⟨none, .mv 10 (.t 0)⟩,
     ⟨none, .len 11 (.t 10)⟩,
     ⟨none, .mv 12 (.t 1)⟩,
     ⟨none, .len 13 (.t 12)⟩,
     ⟨none, .bin 14 .neq (.t 11) (.t 13)⟩])
   (.cond (.t 14) (.seq (.reg [⟨none, .mv 4 (.c (.nil))⟩,
       ⟨none, .mv 5 (.c (.i .i64 1))⟩])
     (.ret))
    (.skip)))
  (.seq (.reg [⟨none, .bslice 15 0 12 [.b false, .sl 0 [], .b false, .sl 0 [], .i .i64 0, .i .i64 0, .i .i64 0, .i .i64 0, .i .i64 0, .i .i64 0, .i .i64 0, .i .i64 0] []⟩,
     ⟨none, .mv 6 (.t 15)⟩])
   (.seq (.seq (.reg [⟨none, .mv 7 (.c (.i .i64 0))⟩])
     (.block 0 (.loop l_ref12_Sum_0)))
    (.seq (.reg [⟨none, .mv 40 (.t 6)⟩,
       ⟨none, .mv 4 (.t 40)⟩,
       ⟨none, .mv 5 (.c (.i .i64 0))⟩])
     (.ret)))))⟩
/- eliminant/eliminantref12.Is -/
def c_ref12_Is : Fun := ⟨3, [.t 6],
 .seq (.reg [⟨none, .mv 6 (.c (.b false))⟩])
 (.seq (.reg [⟨none, .mv 10 (.t 1)⟩,
    ⟨none, .mv 11 (.t 2)⟩,
    ⟨none, .call (some 12) n_ref12_Sum [.t 10, .t 11]⟩,
    ⟨none, .mv 9 (.t 12)⟩,
    ⟨none, .ext 13 0 (.t 9)⟩,
    ⟨none, .ext 14 1 (.t 9)⟩,
    ⟨none, .mv 7 (.t 13)⟩,
    ⟨none, .mv 8 (.t 14)⟩])
  (.seq (.reg [⟨none, .mv 15 (.t 8)⟩,
     ⟨none, .bin 16 .eql (.t 15) (.c (.i .i64 0))⟩,
     ⟨none, .mv 17 (.t 16)⟩,
     ⟨some (17, true, 18), .mv 18 (.t 7)⟩,
     ⟨some (17, true, 19), .mv 19 (.t 0)⟩,
     ⟨some (17, true, 20), .call (some 20) n_ref06_Same [.t 18, .t 19]⟩,
     ⟨none, .pick 21 (.t 17) (.t 20) (.c (.b false))⟩,
     ⟨none, .mv 6 (.t 21)⟩])
   (.ret)))⟩
/- eliminant/eliminantref19.Is -/
def c_ref19_Is : Fun := ⟨2, [.t 4],
 .seq (.reg [⟨none, .mv 4 (.c (.b false))⟩])
 (.seq (.reg [⟨none, .mv 5 (.t 0)⟩,
    ⟨none, .len 6 (.t 5)⟩,
    ⟨none, .mv 7 (.t 1)⟩,
    ⟨none, .len 8 (.t 7)⟩,
    ⟨none, .bin 9 .eql (.t 6) (.t 8)⟩,
    ⟨none, .mv 10 (.t 9)⟩,
    ⟨some (10, true, 11), .mv 11 (.t 0)⟩,
    ⟨some (10, true, 12), .mv 12 (.t 1)⟩,
    ⟨some (10, true, 13), .call (some 13) n_ref12_Is [.c (.nil), .t 11, .t 12]⟩,
    ⟨none, .pick 14 (.t 10) (.t 13) (.c (.b false))⟩,
    ⟨none, .mv 4 (.t 14)⟩])
  (.ret))⟩
/- eliminant/polynomial.Add -/
def c_polynomial_Add : Fun := ⟨2, [.t 4],
 .seq (.reg [⟨none, .mv 4 (.c (.nil))⟩])
 (.seq (.reg [⟨none, .mv 5 (.t 0)⟩,
    ⟨none, .mv 6 (.t 1)⟩,
    ⟨none, .call (some 7) n_polynomial_merge [.t 5, .t 6, .c (.fn n_rational_Add []), .c (.fn n_polynomial_Add_1 [])]⟩,
    ⟨none, .mv 4 (.t 7)⟩])
  (.ret))⟩
/- eliminant/polynomial.merge -/
def l_polynomial_merge_0 : C :=
 .seq (.seq (.reg [⟨none, .mv 20 (.t 0)⟩,
    ⟨none, .len 21 (.t 20)⟩,
    ⟨none, .bin 22 .gtr (.t 21) (.c (.i .i64 0))⟩,
    ⟨none, .mv 23 (.t 22)⟩,
    ⟨some (23, true, 24), .mv 24 (.t 1)⟩,
    ⟨some (23, true, 25), .len 25 (.t 24)⟩,
    ⟨some (23, true, 26), .bin 26 .gtr (.t 25) (.c (.i .i64 0))⟩,
    ⟨none, .pick 27 (.t 23) (.t 26) (.c (.b false))⟩])
  (.cond (.t 27) (.skip)
   (.exit 0)))
 (.block 1 (.seq (.reg [⟨none, .mv 28 (.t 0)⟩,
     ⟨none, .iaddrS 29 12 (.t 28) (.c (.i .i64 0))⟩,
     ⟨none, .faddr 30 4 (.t 29)⟩,
     ⟨none, .load 31 8 true (.t 30)⟩,
     ⟨none, .mv 32 (.t 1)⟩,
     ⟨none, .iaddrS 33 12 (.t 32) (.c (.i .i64 0))⟩,
     ⟨none, .faddr 34 4 (.t 33)⟩,
     ⟨none, .load 35 8 true (.t 34)⟩,
     ⟨none, .call (some 36) n_monomial_Cmp [.t 31, .t 35]⟩,
     ⟨none, .mv 10 (.t 36)⟩])
   (.block 2 (.seq (.reg [⟨none, .mv 64 (.t 10)⟩,
       ⟨none, .bin 65 .gtr (.t 64) (.c (.i .i64 0))⟩,
       ⟨none, .mv 63 (.t 65)⟩])
     (.cond (.t 63) (.reg [⟨none, .mv 66 (.t 9)⟩,
        ⟨none, .mv 67 (.t 0)⟩,
        ⟨none, .iaddrS 68 12 (.t 67) (.c (.i .i64 0))⟩,
        ⟨none, .load 69 12 true (.t 68)⟩,
        ⟨none, .bslice 70 1 12 [.b false, .sl 0 [], .b false, .sl 0 [], .i .i64 0, .i .i64 0, .i .i64 0, .i .i64 0, .i .i64 0, .i .i64 0, .i .i64 0, .i .i64 0] [(0, 12, .t 69)]⟩,
        ⟨none, .append 71 12 128 (.t 66) (.t 70)⟩,
        ⟨none, .mv 72 (.t 0)⟩,
        ⟨none, .slice 73 12 (.t 72) (some (.c (.i .i64 1))) none none⟩,
        ⟨none, .mv 9 (.t 71)⟩,
        ⟨none, .mv 0 (.t 73)⟩])
      (.seq (.reg [⟨none, .mv 75 (.t 10)⟩,
         ⟨none, .bin 76 .lss (.t 75) (.c (.i .i64 0))⟩,
         ⟨none, .mv 74 (.t 76)⟩])
       (.cond (.t 74) (.reg [⟨none, .mv 77 (.t 9)⟩,
          ⟨none, .mv 78 (.t 3)⟩,
          ⟨none, .mv 79 (.t 1)⟩,
          ⟨none, .iaddrS 80 12 (.t 79) (.c (.i .i64 0))⟩,
          ⟨none, .faddr 81 0 (.t 80)⟩,
          ⟨none, .load 82 4 true (.t 81)⟩,
          ⟨none, .callv (some 83) (.t 78) [.t 82]⟩,
          ⟨none, .mv 84 (.t 1)⟩,
          ⟨none, .iaddrS 85 12 (.t 84) (.c (.i .i64 0))⟩,
          ⟨none, .faddr 86 4 (.t 85)⟩,
          ⟨none, .load 87 8 true (.t 86)⟩,
          ⟨none, .build 88 [.b false, .nil, .b false, .nil, .i .i64 0, .i .i64 0, .i .i64 0, .i .i64 0, .i .i64 0, .i .i64 0, .i .i64 0, .i .i64 0] [(0, 4, .t 83), (4, 8, .t 87)]⟩,
          ⟨none, .bslice 89 1 12 [.b false, .sl 0 [], .b false, .sl 0 [], .i .i64 0, .i .i64 0, .i .i64 0, .i .i64 0, .i .i64 0, .i .i64 0, .i .i64 0, .i .i64 0] [(0, 12, .t 88)]⟩,
          ⟨none, .append 90 12 128 (.t 77) (.t 89)⟩,
          ⟨none, .mv 91 (.t 1)⟩,
          ⟨none, .slice 92 12 (.t 91) (some (.c (.i .i64 1))) none none⟩,
          ⟨none, .mv 9 (.t 90)⟩,
          ⟨none, .mv 1 (.t 92)⟩])
        (.seq (.seq (.reg [⟨none, .mv 37 (.t 2)⟩,
            ⟨none, .mv 38 (.t 0)⟩,
            ⟨none, .iaddrS 39 12 (.t 38) (.c (.i .i64 0))⟩,
            ⟨none, .faddr 40 0 (.t 39)⟩,
            ⟨none, .load 41 4 true (.t 40)⟩,
            ⟨none, .mv 42 (.t 1)⟩,
            ⟨none, .iaddrS 43 12 (.t 42) (.c (.i .i64 0))⟩,
            ⟨none, .faddr 44 0 (.t 43)⟩,
            ⟨none, .load 45 4 true (.t 44)⟩,
            ⟨none, .callv (some 46) (.t 37) [.t 41, .t 45]⟩,
            ⟨none, .alloc 11 [.b false, .nil, .b false, .nil]⟩,
            ⟨none, .store 4 (.t 11) (.t 46)⟩])
          (.seq (.reg [⟨none, .load 47 4 true (.t 11)⟩,
             ⟨none, .call (some 48) n_rational_Sign [.t 47]⟩,
             ⟨none, .bin 49 .neq (.t 48) (.c (.i .i64 0))⟩])
           (.cond (.t 49) (.reg [⟨none, .mv 50 (.t 9)⟩,
              ⟨none, .load 51 4 true (.t 11)⟩,
              ⟨none, .mv 52 (.t 0)⟩,
              ⟨none, .iaddrS 53 12 (.t 52) (.c (.i .i64 0))⟩,
              ⟨none, .faddr 54 4 (.t 53)⟩,
              ⟨none, .load 55 8 true (.t 54)⟩,
              ⟨none, .build 56 [.b false, .nil, .b false, .nil, .i .i64 0, .i .i64 0, .i .i64 0, .i .i64 0, .i .i64 0, .i .i64 0, .i .i64 0, .i .i64 0] [(0, 4, .t 51), (4, 8, .t 55)]⟩,
              ⟨none, .bslice 57 1 12 [.b false, .sl 0 [], .b false, .sl 0 [], .i .i64 0, .i .i64 0, .i .i64 0, .i .i64 0, .i .i64 0, .i .i64 0, .i .i64 0, .i .i64 0] [(0, 12, .t 56)]⟩,
              ⟨none, .append 58 12 128 (.t 50) (.t 57)⟩,
              ⟨none, .mv 9 (.t 58)⟩])
            (.skip))))
         (.reg [⟨none, .mv 59 (.t 0)⟩,
           ⟨none, .slice 60 12 (.t 59) (some (.c (.i .i64 1))) none none⟩,
           ⟨none, .mv 61 (.t 1)⟩,
           ⟨none, .slice 62 12 (.t 61) (some (.c (.i .i64 1))) none none⟩,
           ⟨none, .mv 0 (.t 60)⟩,
           ⟨none, .mv 1 (.t 62)⟩])))))))))
def l_polynomial_merge_1 : C :=
 .seq (.reg [⟨none, .bin 99 .lss (.t 98) (.t 97)⟩])
 (.seq (.cond (.t 99) (.skip)
   (.exit 3))
  (.seq (.block 4 (.seq (.reg [⟨none, .iaddrS 100 12 (.t 96) (.t 98)⟩,
       ⟨none, .load 101 12 true (.t 100)⟩,
       ⟨none, .alloc 13 [.b false, .nil, .b false, .nil, .i .i64 0, .i .i64 0, .i .i64 0, .i .i64 0, .i .i64 0, .i .i64 0, .i .i64 0, .i .i64 0]⟩,
       ⟨none, .store 12 (.t 13) (.t 101)⟩])
     (.reg [⟨none, .mv 102 (.t 9)⟩,
       ⟨none, .mv 103 (.t 3)⟩,
       ⟨none, .faddr 104 0 (.t 13)⟩,
       ⟨none, .load 105 4 true (.t 104)⟩,
       ⟨none, .callv (some 106) (.t 103) [.t 105]⟩,
       ⟨none, .faddr 107 4 (.t 13)⟩,
       ⟨none, .load 108 8 true (.t 107)⟩,
       ⟨none, .build 109 [.b false, .nil, .b false, .nil, .i .i64 0, .i .i64 0, .i .i64 0, .i .i64 0, .i .i64 0, .i .i64 0, .i .i64 0, .i .i64 0] [(0, 4, .t 106), (4, 8, .t 108)]⟩,
       ⟨none, .bslice 110 1 12 [.b false, .sl 0 [], .b false, .sl 0 [], .i .i64 0, .i .i64 0, .i .i64 0, .i .i64 0, .i .i64 0, .i .i64 0, .i .i64 0, .i .i64 0] [(0, 12, .t 109)]⟩,
       ⟨none, .append 111 12 128 (.t 102) (.t 110)⟩,
       ⟨none, .mv 9 (.t 111)⟩])))
   (.reg [⟨none, .bin 112 .add (.t 98) (.c (.i .i64 1))⟩,
     ⟨none, .mv 98 (.t 112)⟩])))
def c_polynomial_merge : Fun := ⟨4, [.t 8],
 .seq (.reg [⟨none, .mv 8 (.c (.nil))⟩])
 (.seq (.reg [⟨none, .mv 14 (.t 0)⟩,
    ⟨none, .len 15 (.t 14)⟩,
    ⟨none, .mv 16 (.t 1)⟩,
    ⟨none, .len 17 (.t 16)⟩,
    ⟨none, .bin 18 .add (.t 15) (.t 17)⟩,
    ⟨none, .mkslice 19 12 [.b false, .sl 0 [], .b false, .sl 0 [], .i .i64 0, .i .i64 0, .i .i64 0, .i .i64 0, .i .i64 0, .i .i64 0, .i .i64 0, .i .i64 0] (.c (.i .i64 0)) (.t 18)⟩,
    ⟨none, .mv 9 (.t 19)⟩])
  (.seq (.block 0 (.loop l_polynomial_merge_0))
   (.seq (.reg [⟨none, .mv 93 (.t 9)⟩,
      ⟨none, .mv 94 (.t 0)⟩,
      ⟨none, .append 95 12 128 (.t 93) (.t 94)⟩,
      ⟨none, .mv 9 (.t 95)⟩])
    (.seq (.seq (.reg [⟨none, .mv 96 (.t 1)⟩,
        ⟨none, .len 97 (.t 96)⟩,
        ⟨none, .mv 98 (.c (.i .i64 0))⟩])
      (.block 3 (.loop l_polynomial_merge_1)))
     (.seq (.reg [⟨none, .mv 113 (.t 9)⟩,
        ⟨none, .mv 8 (.t 113)⟩])
      (.ret))))))⟩
/- eliminant/polynomial.Add$1 -/
def c_polynomial_Add_1 : Fun := ⟨1, [.c 2 4 true],
 .seq (.reg [⟨none, .box 1 4 (.t 0)⟩,
   ⟨none, .alloc 2 [.b false, .nil, .b false, .nil]⟩])
 (.seq (.reg [⟨none, .load 3 4 true (.t 1)⟩,
    ⟨none, .store 4 (.t 2) (.t 3)⟩])
  (.ret))⟩
/- eliminant/polynomial.Mul -/
def l_polynomial_Mul_0 : C :=
 .seq (.reg [⟨none, .bin 23 .lss (.t 22) (.t 21)⟩])
 (.seq (.cond (.t 23) (.skip)
   (.exit 2))
  (.seq (.block 3 (.seq (.reg [⟨none, .iaddrS 24 12 (.t 20) (.t 22)⟩,
       ⟨none, .load 25 12 true (.t 24)⟩,
       ⟨none, .alloc 10 [.b false, .nil, .b false, .nil, .i .i64 0, .i .i64 0, .i .i64 0, .i .i64 0, .i .i64 0, .i .i64 0, .i .i64 0, .i .i64 0]⟩,
       ⟨none, .store 12 (.t 10) (.t 25)⟩])
     (.seq (.reg [⟨none, .faddr 27 4 (.t 8)⟩,
        ⟨none, .load 28 8 true (.t 27)⟩,
        ⟨none, .faddr 29 4 (.t 10)⟩,
        ⟨none, .load 30 8 true (.t 29)⟩,
        ⟨none, .call (some 31) n_monomial_Mul [.t 28, .t 30]⟩,
        ⟨none, .mv 26 (.t 31)⟩,
        ⟨none, .ext 32 0 (.t 26)⟩,
        ⟨none, .ext 33 1 (.t 26)⟩,
        ⟨none, .alloc 11 [.i .i64 0, .i .i64 0, .i .i64 0, .i .i64 0, .i .i64 0, .i .i64 0, .i .i64 0, .i .i64 0]⟩,
        ⟨none, .store 8 (.t 11) (.t 32)⟩,
        ⟨none, .mv 12 (.t 33)⟩])
      (.seq (.seq (.reg [⟨none, .mv 34 (.t 12)⟩,
          ⟨none, .bin 35 .neq (.t 34) (.c (.i .i64 0))⟩])
        (.cond (.t 35) (.seq (.reg [⟨none, .mv 4 (.c (.nil))⟩,
            ⟨none, .mv 5 (.c (.i .i64 2))⟩])
          (.ret))
         (.skip)))
       (.reg [⟨none, .mv 36 (.t 6)⟩,
         ⟨none, .faddr 37 0 (.t 8)⟩,
         ⟨none, .load 38 4 true (.t 37)⟩,
         ⟨none, .faddr 39 0 (.t 10)⟩,
         ⟨none, .load 40 4 true (.t 39)⟩,
         ⟨none, .call (some 41) n_rational_Mul [.t 38, .t 40]⟩,
         ⟨none, .load 42 8 true (.t 11)⟩,
         ⟨none, .call (some 43) n_polynomial_sum_add [.t 36, .t 41, .t 42]⟩])))))
   (.reg [⟨none, .bin 44 .add (.t 22) (.c (.i .i64 1))⟩,
     ⟨none, .mv 22 (.t 44)⟩])))
def l_polynomial_Mul_1 : C :=
 .seq (.reg [⟨none, .bin 17 .lss (.t 16) (.t 15)⟩])
 (.seq (.cond (.t 17) (.skip)
   (.exit 0))
  (.seq (.block 1 (.seq (.reg [⟨none, .iaddrS 18 12 (.t 14) (.t 16)⟩,
       ⟨none, .load 19 12 true (.t 18)⟩,
       ⟨none, .alloc 8 [.b false, .nil, .b false, .nil, .i .i64 0, .i .i64 0, .i .i64 0, .i .i64 0, .i .i64 0, .i .i64 0, .i .i64 0, .i .i64 0]⟩,
       ⟨none, .store 12 (.t 8) (.t 19)⟩])
     (.seq (.reg [⟨none, .mv 20 (.t 1)⟩,
        ⟨none, .len 21 (.t 20)⟩,
        ⟨none, .mv 22 (.c (.i .i64 0))⟩])
      (.block 2 (.loop l_polynomial_Mul_0)))))
   (.reg [⟨none, .bin 45 .add (.t 16) (.c (.i .i64 1))⟩,
     ⟨none, .mv 16 (.t 45)⟩])))
def c_polynomial_Mul : Fun := ⟨2, [.t 4, .t 5],
 .seq (.reg [⟨none, .mv 4 (.c (.nil))⟩,
   ⟨none, .mv 5 (.c (.i .i64 0))⟩])
 (.seq (.reg [⟨none, .mkmap 13⟩,
    ⟨none, .mv 6 (.t 13)⟩])
  (.seq (.seq (.reg [⟨none, .mv 14 (.t 0)⟩,
      ⟨none, .len 15 (.t 14)⟩,
      ⟨none, .mv 16 (.c (.i .i64 0))⟩])
    (.block 0 (.loop l_polynomial_Mul_1)))
   (.seq (.reg [⟨none, .mv 46 (.t 6)⟩,
      ⟨none, .call (some 47) n_polynomial_sum_poly [.t 46]⟩,
      ⟨none, .mv 4 (.t 47)⟩,
      ⟨none, .mv 5 (.c (.i .i64 0))⟩])
    (.ret))))⟩
/- (eliminant/polynomial.sum).add -/
def c_polynomial_sum_add : Fun := ⟨3, [],
 .seq (.reg [⟨none, .box 4 4 (.t 1)⟩,
   ⟨none, .box 5 8 (.t 2)⟩])
 (.seq (.seq (.reg [⟨none, .mv 9 (.t 0)⟩,
     ⟨none, .load 10 8 true (.t 5)⟩,
     ⟨none, .lookup 11 8 (.agg [.b false, .nil, .b false, .nil]) (.t 9) (.t 10) true⟩,
     ⟨none, .mv 8 (.t 11)⟩,
     ⟨none, .ext 12 0 (.t 8)⟩,
     ⟨none, .ext 13 1 (.t 8)⟩,
     ⟨none, .alloc 6 [.b false, .nil, .b false, .nil]⟩,
     ⟨none, .store 4 (.t 6) (.t 12)⟩,
     ⟨none, .mv 7 (.t 13)⟩])
   (.seq (.reg [⟨none, .mv 14 (.t 7)⟩])
    (.cond (.t 14) (.reg [⟨none, .load 15 4 true (.t 6)⟩,
       ⟨none, .load 16 4 true (.t 4)⟩,
       ⟨none, .call (some 17) n_rational_Add [.t 15, .t 16]⟩,
       ⟨none, .store 4 (.t 4) (.t 17)⟩])
     (.skip))))
  (.reg [⟨none, .mv 18 (.t 0)⟩,
    ⟨none, .load 19 8 true (.t 5)⟩,
    ⟨none, .load 20 4 true (.t 4)⟩,
    ⟨none, .mupd 8 (.t 18) (.t 19) (.t 20)⟩]))⟩
/- (eliminant/polynomial.sum).poly -/
def l_polynomial_sum_poly_0 : C :=
 .seq (.reg [⟨none, .fail (some 9)⟩,
   ⟨none, .ext 10 0 (.t 9)⟩])
 (.seq (.cond (.t 10) (.skip)
   (.exit 0))
  (.block 1 (.seq (.reg [⟨none, .fail (some 11)⟩,
      ⟨none, .ext 12 0 (.t 11)⟩,
      ⟨none, .ext 13 1 (.t 11)⟩,
      ⟨none, .alloc 4 [.i .i64 0, .i .i64 0, .i .i64 0, .i .i64 0, .i .i64 0, .i .i64 0, .i .i64 0, .i .i64 0]⟩,
      ⟨none, .alloc 5 [.b false, .nil, .b false, .nil]⟩,
      ⟨none, .store 8 (.t 4) (.t 12)⟩,
      ⟨none, .store 4 (.t 5) (.t 13)⟩])
    (.seq (.reg [⟨none, .load 14 4 true (.t 5)⟩,
       ⟨none, .call (some 15) n_rational_Sign [.t 14]⟩,
       ⟨none, .bin 16 .neq (.t 15) (.c (.i .i64 0))⟩])
     (.cond (.t 16) (.reg [⟨none, .mv 17 (.t 3)⟩,
        ⟨none, .load 18 4 true (.t 5)⟩,
        ⟨none, .load 19 8 true (.t 4)⟩,
        ⟨none, .build 20 [.b false, .nil, .b false, .nil, .i .i64 0, .i .i64 0, .i .i64 0, .i .i64 0, .i .i64 0, .i .i64 0, .i .i64 0, .i .i64 0] [(0, 4, .t 18), (4, 8, .t 19)]⟩,
        ⟨none, .bslice 21 1 12 [.b false, .sl 0 [], .b false, .sl 0 [], .i .i64 0, .i .i64 0, .i .i64 0, .i .i64 0, .i .i64 0, .i .i64 0, .i .i64 0, .i .i64 0] [(0, 12, .t 20)]⟩,
        ⟨none, .append 22 12 128 (.t 17) (.t 21)⟩,
        ⟨none, .mv 3 (.t 22)⟩])
      (.skip))))))
def c_polynomial_sum_poly : Fun := ⟨1, [.t 2],
 .seq (.reg [⟨none, .mv 2 (.c (.nil))⟩])
 (.seq (.reg [⟨none, .bslice 6 0 12 [.b false, .sl 0 [], .b false, .sl 0 [], .i .i64 0, .i .i64 0, .i .i64 0, .i .i64 0, .i .i64 0, .i .i64 0, .i .i64 0, .i .i64 0] []⟩,
    ⟨none, .mv 3 (.t 6)⟩])
  (.seq (.seq (.reg [⟨none, .mv 7 (.t 0)⟩,
      ⟨none, .fail (some 8)⟩])
    (.block 0 (.loop l_polynomial_sum_poly_0)))
   (.seq (.reg [⟨none, .mv 23 (.t 3)⟩,
      ⟨none, .call (some 24) n_slices_SortFunc_api_Poly_api_Term [.t 23, .c (.fn n_polynomial_sum_poly_1 [])]⟩])
    (.seq (.reg [⟨none, .mv 25 (.t 3)⟩,
       ⟨none, .mv 2 (.t 25)⟩])
     (.ret)))))⟩
/- (eliminant/polynomial.sum).poly$1 -/
def c_polynomial_sum_poly_1 : Fun := ⟨2, [.t 4],
 .seq (.reg [⟨none, .box 2 12 (.t 0)⟩,
   ⟨none, .box 3 12 (.t 1)⟩,
   ⟨none, .mv 4 (.c (.i .i64 0))⟩])
 (.seq (.reg [⟨none, .faddr 5 4 (.t 3)⟩,
    ⟨none, .load 6 8 true (.t 5)⟩,
    ⟨none, .faddr 7 4 (.t 2)⟩,
    ⟨none, .load 8 8 true (.t 7)⟩,
    ⟨none, .call (some 9) n_monomial_Cmp [.t 6, .t 8]⟩,
    ⟨none, .mv 4 (.t 9)⟩])
  (.ret))⟩
/- eliminant/division.Sum -/
def l_division_Sum_0 : C :=
 .seq (.reg [⟨none, .bin 19 .lss (.t 18) (.t 17)⟩])
 (.seq (.cond (.t 19) (.skip)
   (.exit 0))
  (.seq (.block 1 (.seq (.reg [⟨none, .mv 20 (.t 18)⟩,
       ⟨none, .iaddrS 21 1 (.t 16) (.t 18)⟩,
       ⟨none, .load 22 1 false (.t 21)⟩,
       ⟨none, .mv 7 (.t 20)⟩,
       ⟨none, .mv 8 (.t 22)⟩])
     (.seq (.reg [⟨none, .mv 24 (.t 0)⟩,
        ⟨none, .mv 25 (.t 7)⟩,
        ⟨none, .iaddrS 26 1 (.t 24) (.t 25)⟩,
        ⟨none, .load 27 1 false (.t 26)⟩,
        ⟨none, .mv 28 (.t 8)⟩,
        ⟨none, .call (some 29) n_polynomial_Mul [.t 27, .t 28]⟩,
        ⟨none, .mv 23 (.t 29)⟩,
        ⟨none, .ext 30 0 (.t 23)⟩,
        ⟨none, .ext 31 1 (.t 23)⟩,
        ⟨none, .mv 9 (.t 30)⟩,
        ⟨none, .mv 10 (.t 31)⟩])
      (.seq (.seq (.reg [⟨none, .mv 32 (.t 10)⟩,
          ⟨none, .bin 33 .neq (.t 32) (.c (.i .i64 0))⟩])
        (.cond (.t 33) (.seq (.reg [⟨none, .mv 34 (.t 10)⟩,
            ⟨none, .mv 4 (.c (.nil))⟩,
            ⟨none, .mv 5 (.t 34)⟩])
          (.ret))
         (.skip)))
       (.reg [⟨none, .mv 35 (.t 6)⟩,
         ⟨none, .mv 36 (.t 9)⟩,
         ⟨none, .call (some 37) n_polynomial_Add [.t 35, .t 36]⟩,
         ⟨none, .mv 6 (.t 37)⟩])))))
   (.reg [⟨none, .bin 38 .add (.t 18) (.c (.i .i64 1))⟩,
     ⟨none, .mv 18 (.t 38)⟩])))
def c_division_Sum : Fun := ⟨2, [.t 4, .t 5],
 .seq (.reg [⟨none, .mv 4 (.c (.nil))⟩,
   ⟨none, .mv 5 (.c (.i .i64 0))⟩])
 (.seq (.seq (.reg [⟨none, .mv 11 (.t 0)⟩,
     ⟨none, .len 12 (.t 11)⟩,
     ⟨none, .mv 13 (.t 1)⟩,
     ⟨none, .len 14 (.t 13)⟩,
     ⟨none, .bin 15 .neq (.t 12) (.t 14)⟩])
   (.cond (.t 15) (.seq (.reg [⟨none, .mv 4 (.c (.nil))⟩,
       ⟨none, .mv 5 (.c (.i .i64 1))⟩])
     (.ret))
    (.skip)))
  (.seq (.reg [⟨none, .mv 6 (.c (.nil))⟩])
   (.seq (.seq (.reg [⟨none, .mv 16 (.t 1)⟩,
       ⟨none, .len 17 (.t 16)⟩,
       ⟨none, .mv 18 (.c (.i .i64 0))⟩])
     (.block 0 (.loop l_division_Sum_0)))
    (.seq (.reg [⟨none, .mv 39 (.t 6)⟩,
       ⟨none, .mv 4 (.t 39)⟩,
       ⟨none, .mv 5 (.c (.i .i64 0))⟩])
     (.ret)))))⟩
/- eliminant/syzygy.Is -/
def c_syzygy_Is : Fun := ⟨2, [.t 4],
 .seq (.reg [⟨none, .mv 4 (.c (.b false))⟩])
 (.seq (.reg [⟨none, .mv 8 (.t 0)⟩,
    ⟨none, .mv 9 (.t 1)⟩,
    ⟨none, .call (some 10) n_division_Sum [.t 8, .t 9]⟩,
    ⟨none, .mv 7 (.t 10)⟩,
    ⟨none, .ext 11 0 (.t 7)⟩,
    ⟨none, .ext 12 1 (.t 7)⟩,
    ⟨none, .mv 5 (.t 11)⟩,
    ⟨none, .mv 6 (.t 12)⟩])
  (.seq (.reg [⟨none, .mv 13 (.t 6)⟩,
     ⟨none, .bin 14 .eql (.t 13) (.c (.i .i64 0))⟩,
     ⟨none, .mv 15 (.t 14)⟩,
     ⟨some (15, true, 16), .mv 16 (.t 5)⟩,
     ⟨some (15, true, 17), .len 17 (.t 16)⟩,
     ⟨some (15, true, 18), .bin 18 .eql (.t 17) (.c (.i .i64 0))⟩,
     ⟨none, .pick 19 (.t 15) (.t 18) (.c (.b false))⟩,
     ⟨none, .mv 4 (.t 19)⟩])
   (.ret)))⟩
/- eliminant/monomial.Mul -/
def c_monomial_Mul : Fun := ⟨2, [.c 4 8 true, .t 5],
 .seq (.reg [⟨none, .box 2 8 (.t 0)⟩,
   ⟨none, .box 3 8 (.t 1)⟩,
   ⟨none, .alloc 4 [.i .i64 0, .i .i64 0, .i .i64 0, .i .i64 0, .i .i64 0, .i .i64 0, .i .i64 0, .i .i64 0]⟩,
   ⟨none, .mv 5 (.c (.i .i64 0))⟩])
 (.seq (.reg [⟨none, .load 7 8 true (.t 2)⟩,
    ⟨none, .load 8 8 true (.t 3)⟩,
    ⟨none, .call (some 9) n_monomial_each [.t 7, .t 8, .c (.fn n_monomial_Mul_1 [])]⟩,
    ⟨none, .alloc 6 [.i .i64 0, .i .i64 0, .i .i64 0, .i .i64 0, .i .i64 0, .i .i64 0, .i .i64 0, .i .i64 0]⟩,
    ⟨none, .store 8 (.t 6) (.t 9)⟩])
  (.seq (.seq (.reg [⟨none, .load 10 8 true (.t 6)⟩,
      ⟨none, .call (some 11) n_monomial_Valid [.t 10]⟩,
      ⟨none, .un 12 .not (.t 11)⟩])
    (.cond (.t 12) (.seq (.reg [⟨none, .build 13 [.i .i64 0, .i .i64 0, .i .i64 0, .i .i64 0, .i .i64 0, .i .i64 0, .i .i64 0, .i .i64 0] []⟩,
        ⟨none, .store 8 (.t 4) (.t 13)⟩,
        ⟨none, .mv 5 (.c (.i .i64 2))⟩])
      (.ret))
     (.skip)))
   (.seq (.reg [⟨none, .load 14 8 true (.t 6)⟩,
      ⟨none, .store 8 (.t 4) (.t 14)⟩,
      ⟨none, .mv 5 (.c (.i .i64 0))⟩])
    (.ret))))⟩
/- eliminant/monomial.Mul$1 -/
def c_monomial_Mul_1 : Fun := ⟨2, [.t 4],
 .seq (.reg [⟨none, .mv 4 (.c (.i .i64 0))⟩])
 (.seq (.reg [⟨none, .mv 5 (.t 0)⟩,
    ⟨none, .mv 6 (.t 1)⟩,
    ⟨none, .bin 7 .add (.t 5) (.t 6)⟩,
    ⟨none, .mv 4 (.t 7)⟩])
  (.ret))⟩
/- eliminant/monomial.each -/
def l_monomial_each_0 : C :=
 .seq (.reg [⟨none, .bin 9 .lss (.t 8) (.c (.i .i64 8))⟩])
 (.seq (.cond (.t 9) (.skip)
   (.exit 0))
  (.seq (.block 1 (.seq (.reg [⟨none, .mv 10 (.t 8)⟩,
       ⟨none, .mv 7 (.t 10)⟩])
     (.reg [⟨none, .mv 11 (.t 7)⟩,
       ⟨none, .mv 12 (.t 2)⟩,
       ⟨none, .mv 13 (.t 7)⟩,
       ⟨none, .iaddrA 14 8 1 (.t 3) (.t 13)⟩,
       ⟨none, .load 15 1 false (.t 14)⟩,
       ⟨none, .mv 16 (.t 7)⟩,
       ⟨none, .iaddrA 17 8 1 (.t 4) (.t 16)⟩,
       ⟨none, .load 18 1 false (.t 17)⟩,
       ⟨none, .callv (some 19) (.t 12) [.t 15, .t 18]⟩,
       ⟨none, .iaddrA 20 8 1 (.t 3) (.t 11)⟩,
       ⟨none, .store 1 (.t 20) (.t 19)⟩])))
   (.reg [⟨none, .bin 21 .add (.t 8) (.c (.i .i64 1))⟩,
     ⟨none, .mv 8 (.t 21)⟩])))
def c_monomial_each : Fun := ⟨3, [.c 6 8 true],
 .seq (.reg [⟨none, .box 3 8 (.t 0)⟩,
   ⟨none, .box 4 8 (.t 1)⟩,
   ⟨none, .alloc 6 [.i .i64 0, .i .i64 0, .i .i64 0, .i .i64 0, .i .i64 0, .i .i64 0, .i .i64 0, .i .i64 0]⟩])
 (.seq (.seq (.reg [⟨none, .mv 8 (.c (.i .i64 0))⟩])
   (.block 0 (.loop l_monomial_each_0)))
  (.seq (.reg [⟨none, .load 22 8 true (.t 3)⟩,
     ⟨none, .store 8 (.t 6) (.t 22)⟩])
   (.ret)))⟩
/- eliminant/monomial.Valid -/
def l_monomial_Valid_0 : C :=
 .seq (.reg [⟨none, .bin 7 .lss (.t 6) (.c (.i .i64 8))⟩])
 (.seq (.cond (.t 7) (.skip)
   (.exit 0))
  (.seq (.block 1 (.seq (.reg [⟨none, .idx 8 8 1 false (.t 5) (.t 6)⟩,
       ⟨none, .mv 4 (.t 8)⟩])
     (.seq (.reg [⟨none, .mv 9 (.t 4)⟩,
        ⟨none, .bin 10 .lss (.t 9) (.c (.i .i64 0))⟩,
        ⟨none, .mv 11 (.t 10)⟩,
        ⟨some (11, false, 12), .mv 12 (.t 4)⟩,
        ⟨some (11, false, 13), .bin 13 .gtr (.t 12) (.c (.i .i64 65535))⟩,
        ⟨none, .pick 14 (.t 11) (.c (.b true)) (.t 13)⟩])
      (.cond (.t 14) (.seq (.reg [⟨none, .mv 2 (.c (.b false))⟩])
        (.ret))
       (.skip)))))
   (.reg [⟨none, .bin 15 .add (.t 6) (.c (.i .i64 1))⟩,
     ⟨none, .mv 6 (.t 15)⟩])))
def c_monomial_Valid : Fun := ⟨1, [.t 2],
 .seq (.reg [⟨none, .box 1 8 (.t 0)⟩,
   ⟨none, .mv 2 (.c (.b false))⟩])
 (.seq (.seq (.reg [⟨none, .load 5 8 true (.t 1)⟩,
     ⟨none, .mv 6 (.c (.i .i64 0))⟩])
   (.block 0 (.loop l_monomial_Valid_0)))
  (.seq (.reg [⟨none, .mv 2 (.c (.b true))⟩])
   (.ret)))⟩
/- eliminant/monomial.Cmp -/
def c_monomial_Cmp : Fun := ⟨2, [.t 4],
 .seq (.reg [⟨none, .box 2 8 (.t 0)⟩,
   ⟨none, .box 3 8 (.t 1)⟩,
   ⟨none, .mv 4 (.c (.i .i64 0))⟩])
 (.seq (.reg [⟨none, .sliceA 5 8 (.t 2)⟩,
    ⟨none, .sliceA 6 8 (.t 3)⟩,
    ⟨none, .call (some 7) n_slices_Compare_int_int [.t 5, .t 6]⟩,
    ⟨none, .mv 4 (.t 7)⟩])
  (.ret))⟩
/- slices.Compare[[]int,int] -/
def l_slices_Compare_int_int_0 : C :=
 .seq (.reg [⟨none, .bin 12 .lss (.t 11) (.t 10)⟩])
 (.seq (.cond (.t 12) (.skip)
   (.exit 0))
  (.seq (.block 1 (.seq (.reg [⟨none, .mv 13 (.t 11)⟩,
       ⟨none, .iaddrS 14 1 (.t 9) (.t 11)⟩,
       ⟨none, .load 15 1 false (.t 14)⟩,
       ⟨none, .mv 5 (.t 13)⟩,
       ⟨none, .mv 6 (.t 15)⟩])
     (.seq (.seq (.reg [⟨none, .mv 16 (.t 5)⟩,
         ⟨none, .mv 17 (.t 1)⟩,
         ⟨none, .len 18 (.t 17)⟩,
         ⟨none, .bin 19 .geq (.t 16) (.t 18)⟩])
       (.cond (.t 19) (.seq (.reg [⟨none, .mv 4 (.c (.i .i64 1))⟩])
         (.ret))
        (.skip)))
      (.seq (.reg [⟨none, .mv 20 (.t 1)⟩,
         ⟨none, .mv 21 (.t 5)⟩,
         ⟨none, .iaddrS 22 1 (.t 20) (.t 21)⟩,
         ⟨none, .load 23 1 false (.t 22)⟩,
         ⟨none, .mv 7 (.t 23)⟩])
       (.seq (.reg [⟨none, .mv 24 (.t 6)⟩,
          ⟨none, .mv 25 (.t 7)⟩,
          ⟨none, .call (some 26) n_cmp_Compare_int [.t 24, .t 25]⟩,
          ⟨none, .mv 8 (.t 26)⟩])
        (.seq (.reg [⟨none, .mv 27 (.t 8)⟩,
           ⟨none, .bin 28 .neq (.t 27) (.c (.i .i64 0))⟩])
         (.cond (.t 28) (.seq (.reg [⟨none, .mv 29 (.t 8)⟩,
             ⟨none, .mv 4 (.t 29)⟩])
           (.ret))
          (.skip))))))))
   (.reg [⟨none, .bin 30 .add (.t 11) (.c (.i .i64 1))⟩,
     ⟨none, .mv 11 (.t 30)⟩])))
def c_slices_Compare_int_int : Fun := ⟨2, [.t 4],
 .seq (.reg [⟨none, .mv 4 (.c (.i .i64 0))⟩])
 (.seq (.seq (.reg [⟨none, .mv 9 (.t 0)⟩,
     ⟨none, .len 10 (.t 9)⟩,
     ⟨none, .mv 11 (.c (.i .i64 0))⟩])
   (.block 0 (.loop l_slices_Compare_int_int_0)))
  (.seq (.seq (.reg [⟨none, .mv 31 (.t 0)⟩,
      ⟨none, .len 32 (.t 31)⟩,
      ⟨none, .mv 33 (.t 1)⟩,
      ⟨none, .len 34 (.t 33)⟩,
      ⟨none, .bin 35 .lss (.t 32) (.t 34)⟩])
    (.cond (.t 35) (.seq (.reg [⟨none, .mv 4 (.c (.i .i64 (-1)))⟩])
      (.ret))
     (.skip)))
   (.seq (.reg [⟨none, .mv 4 (.c (.i .i64 0))⟩])
    (.ret))))⟩
/- cmp.Compare[int] -/
def c_cmp_Compare_int : Fun := ⟨2, [.t 4],
 .seq (.reg [⟨none, .mv 4 (.c (.i .i64 0))⟩])
 (.seq (.reg [⟨none, .mv 7 (.t 0)⟩,
    ⟨none, .call (some 8) n_cmp_isNaN_int [.t 7]⟩,
    ⟨none, .mv 5 (.t 8)⟩])
  (.seq (.reg [⟨none, .mv 9 (.t 1)⟩,
     ⟨none, .call (some 10) n_cmp_isNaN_int [.t 9]⟩,
     ⟨none, .mv 6 (.t 10)⟩])
   (.seq (.seq (.reg [⟨none, .mv 11 (.t 5)⟩])
     (.cond (.t 11) (.seq (.seq (.reg [⟨none, .mv 12 (.t 6)⟩])
        (.cond (.t 12) (.seq (.reg [⟨none, .mv 4 (.c (.i .i64 0))⟩])
          (.ret))
         (.skip)))
       (.seq (.reg [⟨none, .mv 4 (.c (.i .i64 (-1)))⟩])
        (.ret)))
      (.skip)))
    (.seq (.seq (.reg [⟨none, .mv 13 (.t 6)⟩])
      (.cond (.t 13) (.seq (.reg [⟨none, .mv 4 (.c (.i .i64 1))⟩])
        (.ret))
       (.skip)))
     (.seq (.seq (.reg [⟨none, .mv 14 (.t 0)⟩,
         ⟨none, .mv 15 (.t 1)⟩,
         ⟨none, .bin 16 .lss (.t 14) (.t 15)⟩])
       (.cond (.t 16) (.seq (.reg [⟨none, .mv 4 (.c (.i .i64 (-1)))⟩])
         (.ret))
        (.skip)))
      (.seq (.seq (.reg [⟨none, .mv 17 (.t 0)⟩,
          ⟨none, .mv 18 (.t 1)⟩,
          ⟨none, .bin 19 .gtr (.t 17) (.t 18)⟩])
        (.cond (.t 19) (.seq (.reg [⟨none, .mv 4 (.c (.i .i64 1))⟩])
          (.ret))
         (.skip)))
       (.seq (.reg [⟨none, .mv 4 (.c (.i .i64 0))⟩])
        (.ret))))))))⟩
/- eliminant/eliminantlaw19.poly -/
def c_law19_poly : Fun := ⟨1, [.t 2],
 .seq (.reg [⟨none, .box 1 1 (.t 0)⟩,
   ⟨none, .mv 2 (.c (.nil))⟩])
 (.seq (.reg [⟨none, .load 3 1 true (.t 1)⟩,
    ⟨none, .call (some 4) n_ref06_Made [.t 3, .c (.i .i64 2), .c (.i .i64 1), .c (.i .i64 2)]⟩,
    ⟨none, .mv 2 (.t 4)⟩])
  (.ret))⟩
/- eliminant/eliminantlaw19.SyzygyIs -/
def l_law19_SyzygyIs_0 : C :=
 .seq (.seq (.reg [⟨none, .mv 26 (.t 11)⟩,
    ⟨none, .mv 27 (.t 9)⟩,
    ⟨none, .bin 28 .lss (.t 26) (.t 27)⟩])
  (.cond (.t 28) (.skip)
   (.exit 0)))
 (.seq (.block 1 (.seq (.reg [⟨none, .mv 31 (.t 11)⟩,
      ⟨none, .bin 32 .add (.t 31) (.c (.i .i64 1))⟩,
      ⟨none, .mv 33 (.t 9)⟩,
      ⟨none, .bin 34 .rem (.t 32) (.t 33)⟩,
      ⟨none, .mv 12 (.t 34)⟩])
    (.seq (.reg [⟨none, .mv 35 (.t 12)⟩,
       ⟨none, .mv 36 (.t 11)⟩,
       ⟨none, .bin 37 .neq (.t 35) (.t 36)⟩])
     (.cond (.t 37) (.seq (.reg [⟨none, .mv 38 (.t 11)⟩,
         ⟨none, .iaddrA 39 3 1 (.t 4) (.t 38)⟩,
         ⟨none, .load 40 1 true (.t 39)⟩,
         ⟨none, .call (some 41) n_law19_poly [.t 40]⟩,
         ⟨none, .mv 13 (.t 41)⟩])
       (.seq (.reg [⟨none, .mv 42 (.t 10)⟩,
          ⟨none, .mv 43 (.t 11)⟩,
          ⟨none, .mv 44 (.t 10)⟩,
          ⟨none, .mv 45 (.t 11)⟩,
          ⟨none, .iaddrS 46 1 (.t 44) (.t 45)⟩,
          ⟨none, .load 47 1 false (.t 46)⟩,
          ⟨none, .mv 48 (.t 13)⟩,
          ⟨none, .mv 49 (.t 8)⟩,
          ⟨none, .mv 50 (.t 12)⟩,
          ⟨none, .iaddrS 51 1 (.t 49) (.t 50)⟩,
          ⟨none, .load 52 1 false (.t 51)⟩,
          ⟨none, .call (some 53) n_ref06_By [.t 48, .t 52]⟩,
          ⟨none, .call (some 54) n_ref06_Add [.t 47, .t 53]⟩,
          ⟨none, .iaddrS 55 1 (.t 42) (.t 43)⟩,
          ⟨none, .store 1 (.t 55) (.t 54)⟩])
        (.reg [⟨none, .mv 56 (.t 10)⟩,
          ⟨none, .mv 57 (.t 12)⟩,
          ⟨none, .mv 58 (.t 10)⟩,
          ⟨none, .mv 59 (.t 12)⟩,
          ⟨none, .iaddrS 60 1 (.t 58) (.t 59)⟩,
          ⟨none, .load 61 1 false (.t 60)⟩,
          ⟨none, .mv 62 (.t 13)⟩,
          ⟨none, .mv 63 (.t 8)⟩,
          ⟨none, .mv 64 (.t 11)⟩,
          ⟨none, .iaddrS 65 1 (.t 63) (.t 64)⟩,
          ⟨none, .load 66 1 false (.t 65)⟩,
          ⟨none, .call (some 67) n_ref06_By [.t 62, .t 66]⟩,
          ⟨none, .call (some 68) n_ref06_Sub [.t 61, .t 67]⟩,
          ⟨none, .iaddrS 69 1 (.t 56) (.t 57)⟩,
          ⟨none, .store 1 (.t 69) (.t 68)⟩])))
      (.skip)))))
  (.reg [⟨none, .mv 29 (.t 11)⟩,
    ⟨none, .bin 30 .add (.t 29) (.c (.i .i64 1))⟩,
    ⟨none, .mv 11 (.t 30)⟩]))
def c_law19_SyzygyIs : Fun := ⟨3, [.t 6],
 .seq (.reg [⟨none, .box 3 2 (.t 0)⟩,
   ⟨none, .box 4 3 (.t 1)⟩,
   ⟨none, .mv 6 (.c (.b false))⟩])
 (.seq (.reg [⟨none, .call (some 17) n_law19_sanity []⟩,
    ⟨none, .mv 7 (.t 17)⟩])
  (.seq (.seq (.reg [⟨none, .mv 18 (.t 7)⟩,
      ⟨none, .un 19 .not (.t 18)⟩])
    (.cond (.t 19) (.seq (.reg [⟨none, .mv 6 (.c (.b false))⟩])
      (.ret))
     (.skip)))
   (.seq (.reg [⟨none, .load 20 2 true (.t 3)⟩,
      ⟨none, .call (some 21) n_ref13_Polys [.t 20]⟩,
      ⟨none, .mv 8 (.t 21)⟩])
    (.seq (.reg [⟨none, .mv 22 (.t 8)⟩,
       ⟨none, .len 23 (.t 22)⟩,
       ⟨none, .mv 9 (.t 23)⟩])
     (.seq (.reg [⟨none, .mv 24 (.t 9)⟩,
        ⟨none, .mkslice 25 1 [.sl 0 []] (.t 24) (.t 24)⟩,
        ⟨none, .mv 10 (.t 25)⟩])
      (.seq (.seq (.reg [⟨none, .mv 11 (.c (.i .i64 0))⟩])
        (.block 0 (.loop l_law19_SyzygyIs_0)))
       (.seq (.seq (.reg [⟨none, .mv 70 (.t 10)⟩,
           ⟨none, .mv 71 (.t 8)⟩,
           ⟨none, .call (some 72) n_syzygy_Is [.t 70, .t 71]⟩,
           ⟨none, .un 73 .not (.t 72)⟩])
         (.cond (.t 73) (.seq (.reg [⟨none, .mv 6 (.c (.b false))⟩])
           (.ret))
          (.skip)))
        (.seq (.reg [⟨none, .bslice 74 0 1 [.sl 0 []] []⟩,
           ⟨none, .mv 75 (.t 10)⟩,
           ⟨none, .append 76 1 24 (.t 74) (.t 75)⟩,
           ⟨none, .mv 14 (.t 76)⟩])
         (.seq (.seq (.reg [⟨none, .mv 77 (.t 9)⟩,
             ⟨none, .bin 78 .gtr (.t 77) (.c (.i .i64 0))⟩])
           (.cond (.t 78) (.seq (.reg [⟨none, .mv 79 (.t 2)⟩,
               ⟨none, .conv 80 .i64 (.t 79)⟩,
               ⟨none, .mv 81 (.t 9)⟩,
               ⟨none, .bin 82 .rem (.t 80) (.t 81)⟩,
               ⟨none, .mv 15 (.t 82)⟩])
             (.reg [⟨none, .mv 83 (.t 14)⟩,
               ⟨none, .mv 84 (.t 15)⟩,
               ⟨none, .mv 85 (.t 14)⟩,
               ⟨none, .mv 86 (.t 15)⟩,
               ⟨none, .iaddrS 87 1 (.t 85) (.t 86)⟩,
               ⟨none, .load 88 1 false (.t 87)⟩,
               ⟨none, .iaddrA 89 3 1 (.t 4) (.c (.i .i64 0))⟩,
               ⟨none, .load 90 1 true (.t 89)⟩,
               ⟨none, .call (some 91) n_law19_poly [.t 90]⟩,
               ⟨none, .call (some 92) n_ref06_Add [.t 88, .t 91]⟩,
               ⟨none, .iaddrS 93 1 (.t 83) (.t 84)⟩,
               ⟨none, .store 1 (.t 93) (.t 92)⟩]))
            (.skip)))
          (.seq (.reg [⟨none, .bslice 94 0 1 [.sl 0 []] []⟩,
             ⟨none, .mv 95 (.t 10)⟩,
             ⟨none, .append 96 1 24 (.t 94) (.t 95)⟩,
             ⟨none, .bslice 97 1 1 [.sl 0 []] [(0, 1, .c (.nil))]⟩,
             ⟨none, .append 98 1 24 (.t 96) (.t 97)⟩,
             ⟨none, .mv 16 (.t 98)⟩])
           (.seq (.reg [⟨none, .mv 99 (.t 7)⟩,
              ⟨none, .mv 100 (.t 99)⟩,
              ⟨some (100, true, 101), .mv 101 (.t 14)⟩,
              ⟨some (100, true, 102), .mv 102 (.t 8)⟩,
              ⟨some (100, true, 103), .call (some 103) n_syzygy_Is [.t 101, .t 102]⟩,
              ⟨some (100, true, 104), .mv 104 (.t 14)⟩,
              ⟨some (100, true, 105), .mv 105 (.t 8)⟩,
              ⟨some (100, true, 106), .call (some 106) n_ref19_Is [.t 104, .t 105]⟩,
              ⟨some (100, true, 107), .beq 107 false (.t 103) (.t 106)⟩,
              ⟨none, .pick 108 (.t 100) (.t 107) (.c (.b false))⟩,
              ⟨none, .mv 109 (.t 108)⟩,
              ⟨some (109, true, 110), .mv 110 (.t 16)⟩,
              ⟨some (109, true, 111), .mv 111 (.t 8)⟩,
              ⟨some (109, true, 112), .call (some 112) n_syzygy_Is [.t 110, .t 111]⟩,
              ⟨some (109, true, 113), .un 113 .not (.t 112)⟩,
              ⟨none, .pick 114 (.t 109) (.t 113) (.c (.b false))⟩,
              ⟨none, .mv 115 (.t 114)⟩,
              ⟨some (115, true, 116), .mv 116 (.t 9)⟩,
              ⟨some (115, true, 117), .bin 117 .eql (.t 116) (.c (.i .i64 0))⟩,
              ⟨some (115, true, 118), .mv 118 (.t 117)⟩,
              ⟨some (118, false, 119), .mv 119 (.t 10)⟩,
              ⟨some (118, false, 120), .mv 120 (.t 9)⟩,
              ⟨some (118, false, 121), .bin 121 .sub (.t 120) (.c (.i .i64 1))⟩,
              ⟨some (118, false, 122), .slice 122 1 (.t 119) none (some (.t 121)) none⟩,
              ⟨some (118, false, 123), .mv 123 (.t 8)⟩,
              ⟨some (118, false, 124), .call (some 124) n_syzygy_Is [.t 122, .t 123]⟩,
              ⟨some (118, false, 125), .un 125 .not (.t 124)⟩,
              ⟨some (115, true, 126), .pick 126 (.t 118) (.c (.b true)) (.t 125)⟩,
              ⟨none, .pick 127 (.t 115) (.t 126) (.c (.b false))⟩,
              ⟨none, .mv 128 (.t 127)⟩,
              ⟨some (128, true, 129), .mv 129 (.t 9)⟩,
              ⟨some (128, true, 130), .mkslice 130 1 [.sl 0 []] (.t 129) (.t 129)⟩,
              ⟨some (128, true, 131), .mv 131 (.t 8)⟩,
              ⟨some (128, true, 132), .call (some 132) n_syzygy_Is [.t 130, .t 131]⟩,
              ⟨none, .pick 133 (.t 128) (.t 132) (.c (.b false))⟩,
              ⟨none, .mv 6 (.t 133)⟩])
            (.ret))))))))))))⟩
/- eliminant/eliminantlaw19.sanity -/
def c_law19_sanity : Fun := ⟨0, [.t 0],
 .seq (.reg [⟨none, .mv 0 (.c (.b false))⟩])
 (.seq (.reg [⟨none, .call (some 21) n_ref06_X [.c (.i .i64 0)]⟩,
    ⟨none, .mv 1 (.t 21)⟩])
  (.seq (.reg [⟨none, .call (some 22) n_ref06_X [.c (.i .i64 1)]⟩,
     ⟨none, .mv 2 (.t 22)⟩])
   (.seq (.reg [⟨none, .call (some 23) n_ref06_Int [.c (.i .i64 1)]⟩,
      ⟨none, .mv 3 (.t 23)⟩])
    (.seq (.reg [⟨none, .call (some 24) n_ref02_Whole [.c (.i .i64 (-1))]⟩,
       ⟨none, .mv 25 (.t 1)⟩,
       ⟨none, .call (some 26) n_ref06_Scale [.t 24, .t 25]⟩,
       ⟨none, .mv 4 (.t 26)⟩])
     (.seq (.reg [⟨none, .mv 27 (.t 2)⟩,
        ⟨none, .mv 28 (.t 2)⟩,
        ⟨none, .call (some 29) n_ref06_By [.t 27, .t 28]⟩,
        ⟨none, .mv 30 (.t 3)⟩,
        ⟨none, .call (some 31) n_ref06_Sub [.t 29, .t 30]⟩,
        ⟨none, .mv 5 (.t 31)⟩])
      (.seq (.reg [⟨none, .mv 33 (.t 2)⟩,
         ⟨none, .mv 34 (.t 1)⟩,
         ⟨none, .bslice 35 2 1 [.sl 0 []] [(0, 1, .t 33), (1, 1, .t 34)]⟩,
         ⟨none, .call (some 36) n_ref05_Lex []⟩,
         ⟨none, .call (some 37) n_syzygy_Schreyer [.t 35, .t 36]⟩,
         ⟨none, .mv 32 (.t 37)⟩,
         ⟨none, .ext 38 0 (.t 32)⟩,
         ⟨none, .ext 39 1 (.t 32)⟩,
         ⟨none, .mv 6 (.t 38)⟩,
         ⟨none, .mv 7 (.t 39)⟩])
       (.seq (.reg [⟨none, .mv 41 (.t 5)⟩,
          ⟨none, .mv 42 (.t 1)⟩,
          ⟨none, .mv 43 (.t 2)⟩,
          ⟨none, .call (some 44) n_ref06_Sub [.t 42, .t 43]⟩,
          ⟨none, .bslice 45 2 1 [.sl 0 []] [(0, 1, .t 41), (1, 1, .t 44)]⟩,
          ⟨none, .call (some 46) n_ref05_Lex []⟩,
          ⟨none, .call (some 47) n_syzygy_Schreyer [.t 45, .t 46]⟩,
          ⟨none, .mv 40 (.t 47)⟩,
          ⟨none, .ext 48 0 (.t 40)⟩,
          ⟨none, .ext 49 1 (.t 40)⟩,
          ⟨none, .mv 8 (.t 48)⟩,
          ⟨none, .mv 9 (.t 49)⟩])
        (.seq (.reg [⟨none, .mv 51 (.t 1)⟩,
           ⟨none, .mv 52 (.t 2)⟩,
           ⟨none, .call (some 53) n_ref06_By [.t 51, .t 52]⟩,
           ⟨none, .mv 54 (.t 3)⟩,
           ⟨none, .call (some 55) n_ref06_Add [.t 53, .t 54]⟩,
           ⟨none, .mv 56 (.t 5)⟩,
           ⟨none, .bslice 57 2 1 [.sl 0 []] [(0, 1, .t 55), (1, 1, .t 56)]⟩,
           ⟨none, .call (some 58) n_ref05_Lex []⟩,
           ⟨none, .call (some 59) n_syzygy_Schreyer [.t 57, .t 58]⟩,
           ⟨none, .mv 50 (.t 59)⟩,
           ⟨none, .ext 60 0 (.t 50)⟩,
           ⟨none, .ext 61 1 (.t 50)⟩,
           ⟨none, .mv 10 (.t 60)⟩,
           ⟨none, .mv 11 (.t 61)⟩])
         (.seq (.reg [⟨none, .mv 63 (.t 1)⟩,
            ⟨none, .bslice 64 2 1 [.sl 0 []] [(0, 1, .t 63), (1, 1, .c (.nil))]⟩,
            ⟨none, .call (some 65) n_ref05_Lex []⟩,
            ⟨none, .call (some 66) n_syzygy_Schreyer [.t 64, .t 65]⟩,
            ⟨none, .mv 62 (.t 66)⟩,
            ⟨none, .ext 67 0 (.t 62)⟩,
            ⟨none, .ext 68 1 (.t 62)⟩,
            ⟨none, .mv 12 (.t 67)⟩,
            ⟨none, .mv 13 (.t 68)⟩])
          (.seq (.reg [⟨none, .build 70 [.i .i64 0, .i .i64 0, .i .i64 0, .i .i64 0, .i .i64 0, .i .i64 0, .i .i64 0, .i .i64 0] [(0, 1, .c (.i .i64 (-1)))]⟩,
             ⟨none, .bslice 71 1 8 [.i .i64 0, .i .i64 0, .i .i64 0, .i .i64 0, .i .i64 0, .i .i64 0, .i .i64 0, .i .i64 0] [(0, 8, .t 70)]⟩,
             ⟨none, .call (some 72) n_syzygy_Schreyer [.c (.nil), .t 71]⟩,
             ⟨none, .mv 69 (.t 72)⟩,
             ⟨none, .ext 73 0 (.t 69)⟩,
             ⟨none, .ext 74 1 (.t 69)⟩,
             ⟨none, .mv 14 (.t 73)⟩,
             ⟨none, .mv 15 (.t 74)⟩])
           (.seq (.reg [⟨none, .mv 76 (.t 1)⟩,
              ⟨none, .mv 77 (.t 2)⟩,
              ⟨none, .call (some 78) n_ref06_By [.t 76, .t 77]⟩,
              ⟨none, .call (some 79) n_ref02_Whole [.c (.i .i64 (-1))]⟩,
              ⟨none, .mv 80 (.t 2)⟩,
              ⟨none, .mv 81 (.t 2)⟩,
              ⟨none, .call (some 82) n_ref06_By [.t 80, .t 81]⟩,
              ⟨none, .call (some 83) n_ref06_Scale [.t 79, .t 82]⟩,
              ⟨none, .bslice 84 2 1 [.sl 0 []] [(0, 1, .t 78), (1, 1, .t 83)]⟩,
              ⟨none, .mv 85 (.t 2)⟩,
              ⟨none, .mv 86 (.t 1)⟩,
              ⟨none, .bslice 87 2 1 [.sl 0 []] [(0, 1, .t 85), (1, 1, .t 86)]⟩,
              ⟨none, .call (some 88) n_ref05_Lex []⟩,
              ⟨none, .call (some 89) n_syzygy_Express [.t 84, .t 87, .t 88]⟩,
              ⟨none, .mv 75 (.t 89)⟩,
              ⟨none, .ext 90 0 (.t 75)⟩,
              ⟨none, .ext 91 1 (.t 75)⟩,
              ⟨none, .mv 16 (.t 90)⟩,
              ⟨none, .mv 17 (.t 91)⟩])
            (.seq (.reg [⟨none, .mv 93 (.t 1)⟩,
               ⟨none, .mv 94 (.t 2)⟩,
               ⟨none, .bslice 95 2 1 [.sl 0 []] [(0, 1, .t 93), (1, 1, .t 94)]⟩,
               ⟨none, .mv 96 (.t 2)⟩,
               ⟨none, .mv 97 (.t 1)⟩,
               ⟨none, .bslice 98 2 1 [.sl 0 []] [(0, 1, .t 96), (1, 1, .t 97)]⟩,
               ⟨none, .call (some 99) n_ref05_Lex []⟩,
               ⟨none, .call (some 100) n_syzygy_Express [.t 95, .t 98, .t 99]⟩,
               ⟨none, .mv 92 (.t 100)⟩,
               ⟨none, .ext 101 0 (.t 92)⟩,
               ⟨none, .ext 102 1 (.t 92)⟩,
               ⟨none, .mv 18 (.t 101)⟩,
               ⟨none, .mv 19 (.t 102)⟩])
             (.seq (.seq (.reg [⟨none, .mv 103 (.t 7)⟩,
                 ⟨none, .bin 104 .neq (.t 103) (.c (.i .i64 0))⟩,
                 ⟨none, .mv 105 (.t 104)⟩,
                 ⟨some (105, false, 106), .mv 106 (.t 9)⟩,
                 ⟨some (105, false, 107), .bin 107 .neq (.t 106) (.c (.i .i64 0))⟩,
                 ⟨none, .pick 108 (.t 105) (.c (.b true)) (.t 107)⟩,
                 ⟨none, .mv 109 (.t 108)⟩,
                 ⟨some (109, false, 110), .mv 110 (.t 11)⟩,
                 ⟨some (109, false, 111), .bin 111 .neq (.t 110) (.c (.i .i64 120))⟩,
                 ⟨none, .pick 112 (.t 109) (.c (.b true)) (.t 111)⟩,
                 ⟨none, .mv 113 (.t 112)⟩,
                 ⟨some (113, false, 114), .mv 114 (.t 13)⟩,
                 ⟨some (113, false, 115), .bin 115 .neq (.t 114) (.c (.i .i64 120))⟩,
                 ⟨none, .pick 116 (.t 113) (.c (.b true)) (.t 115)⟩,
                 ⟨none, .mv 117 (.t 116)⟩,
                 ⟨some (117, false, 118), .mv 118 (.t 15)⟩,
                 ⟨some (117, false, 119), .bin 119 .neq (.t 118) (.c (.i .i64 50))⟩,
                 ⟨none, .pick 120 (.t 117) (.c (.b true)) (.t 119)⟩,
                 ⟨none, .mv 121 (.t 120)⟩,
                 ⟨some (121, false, 122), .mv 122 (.t 17)⟩,
                 ⟨some (121, false, 123), .bin 123 .neq (.t 122) (.c (.i .i64 0))⟩,
                 ⟨none, .pick 124 (.t 121) (.c (.b true)) (.t 123)⟩,
                 ⟨none, .mv 125 (.t 124)⟩,
                 ⟨some (125, false, 126), .mv 126 (.t 19)⟩,
                 ⟨some (125, false, 127), .bin 127 .neq (.t 126) (.c (.i .i64 1))⟩,
                 ⟨none, .pick 128 (.t 125) (.c (.b true)) (.t 127)⟩,
                 ⟨none, .mv 129 (.t 128)⟩,
                 ⟨some (129, false, 130), .mv 130 (.t 6)⟩,
                 ⟨some (129, false, 131), .len 131 (.t 130)⟩,
                 ⟨some (129, false, 132), .bin 132 .neq (.t 131) (.c (.i .i64 1))⟩,
                 ⟨none, .pick 133 (.t 129) (.c (.b true)) (.t 132)⟩,
                 ⟨none, .mv 134 (.t 133)⟩,
                 ⟨some (134, false, 135), .mv 135 (.t 8)⟩,
                 ⟨some (134, false, 136), .len 136 (.t 135)⟩,
                 ⟨some (134, false, 137), .bin 137 .neq (.t 136) (.c (.i .i64 1))⟩,
                 ⟨none, .pick 138 (.t 134) (.c (.b true)) (.t 137)⟩])
               (.cond (.t 138) (.seq (.reg [⟨none, .mv 0 (.c (.b false))⟩])
                 (.ret))
                (.skip)))
              (.seq (.reg [⟨none, .mv 139 (.t 2)⟩,
                 ⟨none, .mv 140 (.t 4)⟩,
                 ⟨none, .bslice 141 2 1 [.sl 0 []] [(0, 1, .t 139), (1, 1, .t 140)]⟩,
                 ⟨none, .mv 142 (.t 1)⟩,
                 ⟨none, .mv 143 (.t 2)⟩,
                 ⟨none, .bslice 144 2 1 [.sl 0 []] [(0, 1, .t 142), (1, 1, .t 143)]⟩,
                 ⟨none, .call (some 145) n_syzygy_Is [.t 141, .t 144]⟩,
                 ⟨none, .mv 146 (.t 145)⟩,
                 ⟨some (146, true, 147), .mv 147 (.t 1)⟩,
                 ⟨some (146, true, 148), .bslice 148 1 1 [.sl 0 []] [(0, 1, .t 147)]⟩,
                 ⟨some (146, true, 149), .mv 149 (.t 1)⟩,
                 ⟨some (146, true, 150), .mv 150 (.t 2)⟩,
                 ⟨some (146, true, 151), .bslice 151 2 1 [.sl 0 []] [(0, 1, .t 149), (1, 1, .t 150)]⟩,
                 ⟨some (146, true, 152), .call (some 152) n_syzygy_Is [.t 148, .t 151]⟩,
                 ⟨some (146, true, 153), .un 153 .not (.t 152)⟩,
                 ⟨none, .pick 154 (.t 146) (.t 153) (.c (.b false))⟩,
                 ⟨none, .mv 20 (.t 154)⟩])
               (.seq (.reg [⟨none, .mv 155 (.t 20)⟩,
                  ⟨none, .mv 156 (.t 155)⟩,
                  ⟨some (156, true, 157), .mv 157 (.t 6)⟩,
                  ⟨some (156, true, 158), .iaddrS 158 1 (.t 157) (.c (.i .i64 0))⟩,
                  ⟨some (156, true, 159), .load 159 1 false (.t 158)⟩,
                  ⟨some (156, true, 160), .mv 160 (.t 1)⟩,
                  ⟨some (156, true, 161), .call (some 161) n_ref02_Whole [.c (.i .i64 (-1))]⟩,
                  ⟨some (156, true, 162), .mv 162 (.t 2)⟩,
                  ⟨some (156, true, 163), .call (some 163) n_ref06_Scale [.t 161, .t 162]⟩,
                  ⟨some (156, true, 164), .bslice 164 2 1 [.sl 0 []] [(0, 1, .t 160), (1, 1, .t 163)]⟩,
                  ⟨some (156, true, 165), .call (some 165) n_ref06_SameList [.t 159, .t 164]⟩,
                  ⟨none, .pick 166 (.t 156) (.t 165) (.c (.b false))⟩,
                  ⟨none, .mv 167 (.t 166)⟩,
                  ⟨some (167, true, 168), .mv 168 (.t 8)⟩,
                  ⟨some (167, true, 169), .iaddrS 169 1 (.t 168) (.c (.i .i64 0))⟩,
                  ⟨some (167, true, 170), .load 170 1 false (.t 169)⟩,
                  ⟨some (167, true, 171), .mv 171 (.t 1)⟩,
                  ⟨some (167, true, 172), .mv 172 (.t 2)⟩,
                  ⟨some (167, true, 173), .call (some 173) n_ref06_Sub [.t 171, .t 172]⟩,
                  ⟨some (167, true, 174), .call (some 174) n_ref02_Whole [.c (.i .i64 (-1))]⟩,
                  ⟨some (167, true, 175), .mv 175 (.t 5)⟩,
                  ⟨some (167, true, 176), .call (some 176) n_ref06_Scale [.t 174, .t 175]⟩,
                  ⟨some (167, true, 177), .bslice 177 2 1 [.sl 0 []] [(0, 1, .t 173), (1, 1, .t 176)]⟩,
                  ⟨some (167, true, 178), .call (some 178) n_ref06_SameList [.t 170, .t 177]⟩,
                  ⟨none, .pick 179 (.t 167) (.t 178) (.c (.b false))⟩,
                  ⟨none, .mv 180 (.t 179)⟩,
                  ⟨some (180, true, 181), .mv 181 (.t 16)⟩,
                  ⟨some (180, true, 182), .mv 182 (.t 2)⟩,
                  ⟨some (180, true, 183), .bslice 183 1 1 [.sl 0 []] [(0, 1, .t 182)]⟩,
                  ⟨some (180, true, 184), .call (some 184) n_ref06_SameList [.t 181, .t 183]⟩,
                  ⟨none, .pick 185 (.t 180) (.t 184) (.c (.b false))⟩,
                  ⟨none, .mv 0 (.t 185)⟩])
                (.ret))))))))))))))))⟩
/- eliminant/rational.Sign -/
def c_rational_Sign : Fun := ⟨1, [.t 2],
 .seq (.reg [⟨none, .box 1 4 (.t 0)⟩,
   ⟨none, .mv 2 (.c (.i .i64 0))⟩])
 (.seq (.reg [⟨none, .faddr 3 0 (.t 1)⟩,
    ⟨none, .load 4 2 true (.t 3)⟩,
    ⟨none, .call (some 5) n_integer_Sign [.t 4]⟩,
    ⟨none, .mv 2 (.t 5)⟩])
  (.ret))⟩
/- eliminant/eliminantref02.Sign -/
def c_ref02_Sign : Fun := ⟨1, [.t 2],
 .seq (.reg [⟨none, .box 1 4 (.t 0)⟩,
   ⟨none, .mv 2 (.c (.i .i64 0))⟩])
 (.seq (.reg [⟨none, .faddr 3 0 (.t 1)⟩,
    ⟨none, .load 4 2 true (.t 3)⟩,
    ⟨none, .call (some 5) n_ref01_Sign [.t 4]⟩,
    ⟨none, .mv 2 (.t 5)⟩])
  (.ret))⟩
/- eliminant/integer.Sign -/
def c_integer_Sign : Fun := ⟨1, [.t 2],
 .seq (.reg [⟨none, .box 1 2 (.t 0)⟩,
   ⟨none, .mv 2 (.c (.i .i64 0))⟩])
 (.seq (.seq (.reg [⟨none, .faddr 3 0 (.t 1)⟩,
     ⟨none, .load 4 1 false (.t 3)⟩])
   (.cond (.t 4) (.seq (.reg [⟨none, .mv 2 (.c (.i .i64 (-1)))⟩])
     (.ret))
    (.skip)))
  (.seq (.reg [⟨none, .faddr 5 1 (.t 1)⟩,
     ⟨none, .load 6 1 false (.t 5)⟩,
     ⟨none, .len 7 (.t 6)⟩,
     ⟨none, .mnx 8 false (.t 7) (.c (.i .i64 1))⟩,
     ⟨none, .mv 2 (.t 8)⟩])
   (.ret)))⟩
/- eliminant/eliminantref01.Sign -/
def c_ref01_Sign : Fun := ⟨1, [.t 2],
 .seq (.reg [⟨none, .box 1 2 (.t 0)⟩,
   ⟨none, .mv 2 (.c (.i .i64 0))⟩])
 (.seq (.seq (.reg [⟨none, .faddr 3 0 (.t 1)⟩,
     ⟨none, .load 4 1 false (.t 3)⟩])
   (.cond (.t 4) (.seq (.reg [⟨none, .mv 2 (.c (.i .i64 (-1)))⟩])
     (.ret))
    (.skip)))
  (.seq (.reg [⟨none, .faddr 5 1 (.t 1)⟩,
     ⟨none, .load 6 1 false (.t 5)⟩,
     ⟨none, .len 7 (.t 6)⟩,
     ⟨none, .mnx 8 false (.t 7) (.c (.i .i64 1))⟩,
     ⟨none, .mv 2 (.t 8)⟩])
   (.ret)))⟩
/- eliminant/eliminantref02.Whole -/
def c_ref02_Whole : Fun := ⟨1, [.c 2 4 true],
 .seq (.reg [⟨none, .alloc 2 [.b false, .nil, .b false, .nil]⟩])
 (.seq (.reg [⟨none, .mv 3 (.t 0)⟩,
    ⟨none, .call (some 4) n_ref01_Of [.t 3]⟩,
    ⟨none, .call (some 5) n_ref01_Of [.c (.i .i64 1)]⟩,
    ⟨none, .build 6 [.b false, .nil, .b false, .nil] [(0, 2, .t 4), (2, 2, .t 5)]⟩,
    ⟨none, .store 4 (.t 2) (.t 6)⟩])
  (.ret))⟩
/- cmp.isNaN[int] -/
def c_cmp_isNaN_int : Fun := ⟨1, [.t 2],
 .seq (.reg [⟨none, .mv 2 (.c (.b false))⟩])
 (.seq (.reg [⟨none, .mv 3 (.t 0)⟩,
    ⟨none, .mv 4 (.t 0)⟩,
    ⟨none, .bin 5 .neq (.t 3) (.t 4)⟩,
    ⟨none, .mv 2 (.t 5)⟩])
  (.ret))⟩
/- eliminant/eliminantref04.Valid -/
def l_ref04_Valid_0 : C :=
 .seq (.seq (.reg [⟨none, .mv 4 (.t 3)⟩,
    ⟨none, .bin 5 .lss (.t 4) (.c (.i .i64 8))⟩])
  (.cond (.t 5) (.skip)
   (.exit 0)))
 (.seq (.block 1 (.seq (.reg [⟨none, .mv 8 (.t 3)⟩,
      ⟨none, .iaddrA 9 8 1 (.t 1) (.t 8)⟩,
      ⟨none, .load 10 1 false (.t 9)⟩,
      ⟨none, .bin 11 .lss (.t 10) (.c (.i .i64 0))⟩,
      ⟨none, .mv 12 (.t 11)⟩,
      ⟨some (12, false, 13), .mv 13 (.t 3)⟩,
      ⟨some (12, false, 14), .iaddrA 14 8 1 (.t 1) (.t 13)⟩,
      ⟨some (12, false, 15), .load 15 1 false (.t 14)⟩,
      ⟨some (12, false, 16), .bin 16 .gtr (.t 15) (.c (.i .i64 65535))⟩,
      ⟨none, .pick 17 (.t 12) (.c (.b true)) (.t 16)⟩])
    (.cond (.t 17) (.seq (.reg [⟨none, .mv 2 (.c (.b false))⟩])
      (.ret))
     (.skip))))
  (.reg [⟨none, .mv 6 (.t 3)⟩,
    ⟨none, .bin 7 .add (.t 6) (.c (.i .i64 1))⟩,
    ⟨none, .mv 3 (.t 7)⟩]))
def c_ref04_Valid : Fun := ⟨1, [.t 2],
 .seq (.reg [⟨none, .box 1 8 (.t 0)⟩,
   ⟨none, .mv 2 (.c (.b false))⟩])
 (.seq (.seq (.reg [⟨none, .mv 3 (.c (.i .i64 0))⟩])
   (.block 0 (.loop l_ref04_Valid_0)))
  (.seq (.reg [⟨none, .mv 2 (.c (.b true))⟩])
   (.ret)))⟩
/- eliminant/eliminantref04.Divides -/
def l_ref04_Divides_0 : C :=
 .seq (.seq (.reg [⟨none, .mv 6 (.t 5)⟩,
    ⟨none, .bin 7 .lss (.t 6) (.c (.i .i64 8))⟩])
  (.cond (.t 7) (.skip)
   (.exit 0)))
 (.seq (.block 1 (.seq (.reg [⟨none, .mv 10 (.t 5)⟩,
      ⟨none, .iaddrA 11 8 1 (.t 2) (.t 10)⟩,
      ⟨none, .load 12 1 false (.t 11)⟩,
      ⟨none, .mv 13 (.t 5)⟩,
      ⟨none, .iaddrA 14 8 1 (.t 3) (.t 13)⟩,
      ⟨none, .load 15 1 false (.t 14)⟩,
      ⟨none, .bin 16 .gtr (.t 12) (.t 15)⟩])
    (.cond (.t 16) (.seq (.reg [⟨none, .mv 4 (.c (.b false))⟩])
      (.ret))
     (.skip))))
  (.reg [⟨none, .mv 8 (.t 5)⟩,
    ⟨none, .bin 9 .add (.t 8) (.c (.i .i64 1))⟩,
    ⟨none, .mv 5 (.t 9)⟩]))
def c_ref04_Divides : Fun := ⟨2, [.t 4],
 .seq (.reg [⟨none, .box 2 8 (.t 0)⟩,
   ⟨none, .box 3 8 (.t 1)⟩,
   ⟨none, .mv 4 (.c (.b false))⟩])
 (.seq (.seq (.reg [⟨none, .mv 5 (.c (.i .i64 0))⟩])
   (.block 0 (.loop l_ref04_Divides_0)))
  (.seq (.reg [⟨none, .mv 4 (.c (.b true))⟩])
   (.ret)))⟩
/- eliminant/eliminantref04.Quo -/
def l_ref04_Quo_0 : C :=
 .seq (.seq (.reg [⟨none, .mv 12 (.t 6)⟩,
    ⟨none, .bin 13 .lss (.t 12) (.c (.i .i64 8))⟩])
  (.cond (.t 13) (.skip)
   (.exit 0)))
 (.seq (.block 1 (.reg [⟨none, .mv 16 (.t 6)⟩,
     ⟨none, .iaddrA 17 8 1 (.t 2) (.t 16)⟩,
     ⟨none, .load 18 1 false (.t 17)⟩,
     ⟨none, .mv 19 (.t 6)⟩,
     ⟨none, .iaddrA 20 8 1 (.t 3) (.t 19)⟩,
     ⟨none, .load 21 1 false (.t 20)⟩,
     ⟨none, .bin 22 .sub (.t 18) (.t 21)⟩,
     ⟨none, .iaddrA 23 8 1 (.t 2) (.t 16)⟩,
     ⟨none, .store 1 (.t 23) (.t 22)⟩]))
  (.reg [⟨none, .mv 14 (.t 6)⟩,
    ⟨none, .bin 15 .add (.t 14) (.c (.i .i64 1))⟩,
    ⟨none, .mv 6 (.t 15)⟩]))
def c_ref04_Quo : Fun := ⟨2, [.c 4 8 true, .t 5],
 .seq (.reg [⟨none, .box 2 8 (.t 0)⟩,
   ⟨none, .box 3 8 (.t 1)⟩,
   ⟨none, .alloc 4 [.i .i64 0, .i .i64 0, .i .i64 0, .i .i64 0, .i .i64 0, .i .i64 0, .i .i64 0, .i .i64 0]⟩,
   ⟨none, .mv 5 (.c (.b false))⟩])
 (.seq (.seq (.reg [⟨none, .load 7 8 true (.t 3)⟩,
     ⟨none, .load 8 8 true (.t 2)⟩,
     ⟨none, .call (some 9) n_ref04_Divides [.t 7, .t 8]⟩,
     ⟨none, .un 10 .not (.t 9)⟩])
   (.cond (.t 10) (.seq (.reg [⟨none, .build 11 [.i .i64 0, .i .i64 0, .i .i64 0, .i .i64 0, .i .i64 0, .i .i64 0, .i .i64 0, .i .i64 0] []⟩,
       ⟨none, .store 8 (.t 4) (.t 11)⟩,
       ⟨none, .mv 5 (.c (.b false))⟩])
     (.ret))
    (.skip)))
  (.seq (.seq (.reg [⟨none, .mv 6 (.c (.i .i64 0))⟩])
    (.block 0 (.loop l_ref04_Quo_0)))
   (.seq (.reg [⟨none, .load 24 8 true (.t 2)⟩,
      ⟨none, .store 8 (.t 4) (.t 24)⟩,
      ⟨none, .mv 5 (.c (.b true))⟩])
    (.ret))))⟩
/- eliminant/eliminantref04.Lcm -/
def l_ref04_Lcm_0 : C :=
 .seq (.seq (.reg [⟨none, .mv 6 (.t 5)⟩,
    ⟨none, .bin 7 .lss (.t 6) (.c (.i .i64 8))⟩])
  (.cond (.t 7) (.skip)
   (.exit 0)))
 (.seq (.block 1 (.reg [⟨none, .mv 10 (.t 5)⟩,
     ⟨none, .mv 11 (.t 5)⟩,
     ⟨none, .iaddrA 12 8 1 (.t 2) (.t 11)⟩,
     ⟨none, .load 13 1 false (.t 12)⟩,
     ⟨none, .mv 14 (.t 5)⟩,
     ⟨none, .iaddrA 15 8 1 (.t 3) (.t 14)⟩,
     ⟨none, .load 16 1 false (.t 15)⟩,
     ⟨none, .mnx 17 true (.t 13) (.t 16)⟩,
     ⟨none, .iaddrA 18 8 1 (.t 2) (.t 10)⟩,
     ⟨none, .store 1 (.t 18) (.t 17)⟩]))
  (.reg [⟨none, .mv 8 (.t 5)⟩,
    ⟨none, .bin 9 .add (.t 8) (.c (.i .i64 1))⟩,
    ⟨none, .mv 5 (.t 9)⟩]))
def c_ref04_Lcm : Fun := ⟨2, [.c 4 8 true],
 .seq (.reg [⟨none, .box 2 8 (.t 0)⟩,
   ⟨none, .box 3 8 (.t 1)⟩,
   ⟨none, .alloc 4 [.i .i64 0, .i .i64 0, .i .i64 0, .i .i64 0, .i .i64 0, .i .i64 0, .i .i64 0, .i .i64 0]⟩])
 (.seq (.seq (.reg [⟨none, .mv 5 (.c (.i .i64 0))⟩])
   (.block 0 (.loop l_ref04_Lcm_0)))
  (.seq (.reg [⟨none, .load 19 8 true (.t 2)⟩,
     ⟨none, .store 8 (.t 4) (.t 19)⟩])
   (.ret)))⟩
/- eliminant/eliminantref04.Gcd -/
def l_ref04_Gcd_0 : C :=
 .seq (.seq (.reg [⟨none, .mv 6 (.t 5)⟩,
    ⟨none, .bin 7 .lss (.t 6) (.c (.i .i64 8))⟩])
  (.cond (.t 7) (.skip)
   (.exit 0)))
 (.seq (.block 1 (.reg [⟨none, .mv 10 (.t 5)⟩,
     ⟨none, .mv 11 (.t 5)⟩,
     ⟨none, .iaddrA 12 8 1 (.t 2) (.t 11)⟩,
     ⟨none, .load 13 1 false (.t 12)⟩,
     ⟨none, .mv 14 (.t 5)⟩,
     ⟨none, .iaddrA 15 8 1 (.t 3) (.t 14)⟩,
     ⟨none, .load 16 1 false (.t 15)⟩,
     ⟨none, .mnx 17 false (.t 13) (.t 16)⟩,
     ⟨none, .iaddrA 18 8 1 (.t 2) (.t 10)⟩,
     ⟨none, .store 1 (.t 18) (.t 17)⟩]))
  (.reg [⟨none, .mv 8 (.t 5)⟩,
    ⟨none, .bin 9 .add (.t 8) (.c (.i .i64 1))⟩,
    ⟨none, .mv 5 (.t 9)⟩]))
def c_ref04_Gcd : Fun := ⟨2, [.c 4 8 true],
 .seq (.reg [⟨none, .box 2 8 (.t 0)⟩,
   ⟨none, .box 3 8 (.t 1)⟩,
   ⟨none, .alloc 4 [.i .i64 0, .i .i64 0, .i .i64 0, .i .i64 0, .i .i64 0, .i .i64 0, .i .i64 0, .i .i64 0]⟩])
 (.seq (.seq (.reg [⟨none, .mv 5 (.c (.i .i64 0))⟩])
   (.block 0 (.loop l_ref04_Gcd_0)))
  (.seq (.reg [⟨none, .load 19 8 true (.t 2)⟩,
     ⟨none, .store 8 (.t 4) (.t 19)⟩])
   (.ret)))⟩
/- eliminant/eliminantref04.Degree -/
def l_ref04_Degree_0 : C :=
 .seq (.seq (.reg [⟨none, .mv 5 (.t 4)⟩,
    ⟨none, .bin 6 .lss (.t 5) (.c (.i .i64 8))⟩])
  (.cond (.t 6) (.skip)
   (.exit 0)))
 (.seq (.block 1 (.reg [⟨none, .mv 9 (.t 3)⟩,
     ⟨none, .mv 10 (.t 4)⟩,
     ⟨none, .iaddrA 11 8 1 (.t 1) (.t 10)⟩,
     ⟨none, .load 12 1 false (.t 11)⟩,
     ⟨none, .bin 13 .add (.t 9) (.t 12)⟩,
     ⟨none, .mv 3 (.t 13)⟩]))
  (.reg [⟨none, .mv 7 (.t 4)⟩,
    ⟨none, .bin 8 .add (.t 7) (.c (.i .i64 1))⟩,
    ⟨none, .mv 4 (.t 8)⟩]))
def c_ref04_Degree : Fun := ⟨1, [.t 2],
 .seq (.reg [⟨none, .box 1 8 (.t 0)⟩,
   ⟨none, .mv 2 (.c (.i .i64 0))⟩])
 (.seq (.reg [⟨none, .mv 3 (.c (.i .i64 0))⟩])
  (.seq (.seq (.reg [⟨none, .mv 4 (.c (.i .i64 0))⟩])
    (.block 0 (.loop l_ref04_Degree_0)))
   (.seq (.reg [⟨none, .mv 14 (.t 3)⟩,
      ⟨none, .mv 2 (.t 14)⟩])
    (.ret))))⟩
/- eliminant/eliminantref04.Support -/
def l_ref04_Support_0 : C :=
 .seq (.seq (.reg [⟨none, .mv 5 (.t 4)⟩,
    ⟨none, .bin 6 .lss (.t 5) (.c (.i .i64 8))⟩])
  (.cond (.t 6) (.skip)
   (.exit 0)))
 (.seq (.block 1 (.seq (.reg [⟨none, .mv 9 (.t 4)⟩,
      ⟨none, .iaddrA 10 8 1 (.t 1) (.t 9)⟩,
      ⟨none, .load 11 1 false (.t 10)⟩,
      ⟨none, .bin 12 .gtr (.t 11) (.c (.i .i64 0))⟩])
    (.cond (.t 12) (.reg [⟨none, .mv 13 (.t 3)⟩,
       ⟨none, .mv 14 (.t 4)⟩,
       ⟨none, .call (some 15) n_ref04_Bit [.t 14]⟩,
       ⟨none, .bin 16 .add (.t 13) (.t 15)⟩,
       ⟨none, .mv 3 (.t 16)⟩])
     (.skip))))
  (.reg [⟨none, .mv 7 (.t 4)⟩,
    ⟨none, .bin 8 .add (.t 7) (.c (.i .i64 1))⟩,
    ⟨none, .mv 4 (.t 8)⟩]))
def c_ref04_Support : Fun := ⟨1, [.t 2],
 .seq (.reg [⟨none, .box 1 8 (.t 0)⟩,
   ⟨none, .mv 2 (.c (.i .u8 0))⟩])
 (.seq (.reg [⟨none, .mv 3 (.c (.i .u8 0))⟩])
  (.seq (.seq (.reg [⟨none, .mv 4 (.c (.i .i64 0))⟩])
    (.block 0 (.loop l_ref04_Support_0)))
   (.seq (.reg [⟨none, .mv 17 (.t 3)⟩,
      ⟨none, .mv 2 (.t 17)⟩])
    (.ret))))⟩
/- eliminant/eliminantref02.Same -/
def c_ref02_Same : Fun := ⟨2, [.t 4],
 .seq (.reg [⟨none, .box 2 4 (.t 0)⟩,
   ⟨none, .box 3 4 (.t 1)⟩,
   ⟨none, .mv 4 (.c (.b false))⟩])
 (.seq (.reg [⟨none, .faddr 5 0 (.t 2)⟩,
    ⟨none, .load 6 2 true (.t 5)⟩,
    ⟨none, .faddr 7 0 (.t 3)⟩,
    ⟨none, .load 8 2 true (.t 7)⟩,
    ⟨none, .call (some 9) n_ref02_same [.t 6, .t 8]⟩,
    ⟨none, .mv 10 (.t 9)⟩,
    ⟨some (10, true, 11), .faddr 11 2 (.t 2)⟩,
    ⟨some (10, true, 12), .load 12 2 true (.t 11)⟩,
    ⟨some (10, true, 13), .faddr 13 2 (.t 3)⟩,
    ⟨some (10, true, 14), .load 14 2 true (.t 13)⟩,
    ⟨some (10, true, 15), .call (some 15) n_ref02_same [.t 12, .t 14]⟩,
    ⟨none, .pick 16 (.t 10) (.t 15) (.c (.b false))⟩,
    ⟨none, .mv 4 (.t 16)⟩])
  (.ret))⟩
/- eliminant/eliminantref02.same -/
def l_ref02_same_0 : C :=
 .seq (.seq (.reg [⟨none, .mv 20 (.t 5)⟩,
    ⟨none, .faddr 21 1 (.t 2)⟩,
    ⟨none, .load 22 1 false (.t 21)⟩,
    ⟨none, .len 23 (.t 22)⟩,
    ⟨none, .bin 24 .lss (.t 20) (.t 23)⟩])
  (.cond (.t 24) (.skip)
   (.exit 0)))
 (.seq (.block 1 (.seq (.reg [⟨none, .faddr 27 1 (.t 2)⟩,
      ⟨none, .load 28 1 false (.t 27)⟩,
      ⟨none, .mv 29 (.t 5)⟩,
      ⟨none, .iaddrS 30 1 (.t 28) (.t 29)⟩,
      ⟨none, .load 31 1 false (.t 30)⟩,
      ⟨none, .faddr 32 1 (.t 3)⟩,
      ⟨none, .load 33 1 false (.t 32)⟩,
      ⟨none, .mv 34 (.t 5)⟩,
      ⟨none, .iaddrS 35 1 (.t 33) (.t 34)⟩,
      ⟨none, .load 36 1 false (.t 35)⟩,
      ⟨none, .bin 37 .neq (.t 31) (.t 36)⟩])
    (.cond (.t 37) (.seq (.reg [⟨none, .mv 4 (.c (.b false))⟩])
      (.ret))
     (.skip))))
  (.reg [⟨none, .mv 25 (.t 5)⟩,
    ⟨none, .bin 26 .add (.t 25) (.c (.i .i64 1))⟩,
    ⟨none, .mv 5 (.t 26)⟩]))
def c_ref02_same : Fun := ⟨2, [.t 4],
 .seq (.reg [⟨none, .box 2 2 (.t 0)⟩,
   ⟨none, .box 3 2 (.t 1)⟩,
   ⟨none, .mv 4 (.c (.b false))⟩])
 (.seq (.seq (.reg [⟨none, .faddr 6 0 (.t 2)⟩,
     ⟨none, .load 7 1 false (.t 6)⟩,
     ⟨none, .faddr 8 0 (.t 3)⟩,
     ⟨none, .load 9 1 false (.t 8)⟩,
     ⟨none, .beq 10 true (.t 7) (.t 9)⟩,
     ⟨none, .mv 11 (.t 10)⟩,
     ⟨some (11, false, 12), .faddr 12 1 (.t 2)⟩,
     ⟨some (11, false, 13), .load 13 1 false (.t 12)⟩,
     ⟨some (11, false, 14), .len 14 (.t 13)⟩,
     ⟨some (11, false, 15), .faddr 15 1 (.t 3)⟩,
     ⟨some (11, false, 16), .load 16 1 false (.t 15)⟩,
     ⟨some (11, false, 17), .len 17 (.t 16)⟩,
     ⟨some (11, false, 18), .bin 18 .neq (.t 14) (.t 17)⟩,
     ⟨none, .pick 19 (.t 11) (.c (.b true)) (.t 18)⟩])
   (.cond (.t 19) (.seq (.reg [⟨none, .mv 4 (.c (.b false))⟩])
     (.ret))
    (.skip)))
  (.seq (.seq (.reg [⟨none, .mv 5 (.c (.i .i64 0))⟩])
    (.block 0 (.loop l_ref02_same_0)))
   (.seq (.reg [⟨none, .mv 4 (.c (.b true))⟩])
    (.ret))))⟩
end Go.Ev

/- Monomials: what the functions of both implementations give. -/
namespace Go.Ev
open Go.Pm

namespace Mo
def zip (f : Int → Int → Int) (a b : Mono) : Mono := ⟨f a.e0 b.e0, f a.e1 b.e1, f a.e2 b.e2, f a.e3 b.e3, f a.e4 b.e4, f a.e5 b.e5, f a.e6 b.e6, f a.e7 b.e7⟩
theorem zip_l (f : Int → Int → Int) (a b : Mono) : (zip f a b).l = List.zipWith f a.l b.l := rfl
theorem zip_add (a b : Mono) : zip (fun x y => x + y) a b = a.add b := rfl
theorem zip_sub (a b : Mono) : zip (fun x y => x - y) a b = a.sub b := rfl
/-- All exponents lie between 0 and a bound. -/
def bd (d : Int) (m : Mono) : Prop := ∀ e ∈ m.l, 0 ≤ e ∧ e ≤ d
instance (d : Int) (m : Mono) : Decidable (bd d m) := inferInstanceAs (Decidable (∀ e ∈ m.l, 0 ≤ e ∧ e ≤ d))
theorem bd_mono {d d' : Int} {m : Mono} (h : bd d m) (hd : d ≤ d') : bd d' m := fun e he => ⟨(h e he).1, Int.le_trans (h e he).2 hd⟩
theorem bd_iff {d : Int} {m : Mono} : bd d m ↔ (0 ≤ m.e0 ∧ m.e0 ≤ d) ∧ (0 ≤ m.e1 ∧ m.e1 ≤ d) ∧ (0 ≤ m.e2 ∧ m.e2 ≤ d) ∧ (0 ≤ m.e3 ∧ m.e3 ≤ d) ∧ (0 ≤ m.e4 ∧ m.e4 ≤ d) ∧ (0 ≤ m.e5 ∧ m.e5 ≤ d) ∧ (0 ≤ m.e6 ∧ m.e6 ≤ d) ∧ (0 ≤ m.e7 ∧ m.e7 ≤ d) := by
  simp [bd, Mono.l]
theorem bd_add {d d' : Int} {a b : Mono} (h : bd d a) (g : bd d' b) : bd (d + d') (a.add b) := by
  rw [bd_iff] at *
  simp only [Mono.add]; omega
theorem bd_zero {d : Int} (h : 0 ≤ d) : bd d Mono.zero := by rw [bd_iff]; simp [Mono.zero, h]
end Mo

theorem mcells_eq (m : Mono) : mcells m = [.i .i64 m.e0, .i .i64 m.e1, .i .i64 m.e2, .i .i64 m.e3, .i .i64 m.e4, .i .i64 m.e5, .i .i64 m.e6, .i .i64 m.e7] := rfl
theorem mcells_zero : mcells Mono.zero = [.i .i64 0, .i .i64 0, .i .i64 0, .i .i64 0, .i .i64 0, .i .i64 0, .i .i64 0, .i .i64 0] := rfl
theorem l_length (m : Mono) : m.l.length = 8 := (rfl)

theorem part_ints {k : IntKind} {l : List Int} {i : Nat} {x : Int} {r : List Int} (h : l.drop i = x :: r) : part (l.map (DV.i k ·)) i 1 false = some (.i k x) := by
  have : l[i]? = some x := by rw [← List.head?_drop, h]; rfl
  simp [part, this]

theorem fill_ints {k : IntKind} {l : List Int} {i : Nat} {x v : Int} {r : List Int} (h : l.drop i = x :: r) : fillL (l.map (DV.i k ·)) [(i, 1, .i k v)] = some ((l.take i ++ v :: r).map (DV.i k ·)) := by
  have h1 : i < l.length := by
    have := congrArg List.length h
    rw [List.length_drop, List.length_cons] at this
    omega
  have h2 : l.drop (i + 1) = r := by rw [← List.drop_drop, h]; rfl
  simp [fillL, cells, isCell, List.map_take, List.map_drop, ← h2]
  omega

theorem mono_drop (a : Mono) {i : Nat} (h : i < 8) : ∃ x r, a.l.drop i = x :: r ∧ a.l.drop (i + 1) = r ∧ part (mcells a) i 1 false = some (.i .i64 x) := by
  obtain ⟨x, r, h1, h2⟩ := drop_cons (p := a.l) (i := i) (by simpa [Mono.l] using h)
  exact ⟨x, r, h1, h2, part_ints h1⟩

theorem nth_one {ob : Ob} : nth [ob] 0 = if ob.k = 3 then none else some ob := nth_top
theorem setAt_one {ob ob' : Ob} : setAt [ob] 0 ob' = [ob'] := setAt_top
attribute [simp] nth_one setAt_one un un0 conv l_length

def ICmp (a b : Mono) (n : Nat) (s : St) : Prop := ∃ i, n = 8 - i ∧ i ≤ 8 ∧ lexc (a.l.drop i) (b.l.drop i) = Mono.cmp a b ∧ gt s 5 = some (.i .i64 (i : Nat)) ∧ gt s 2 = some (.ptr 2 0 0) ∧ gt s 3 = some (.ptr 3 0 0) ∧
  lst s 2 = [⟨2, 0, mcells a⟩] ∧ lst s 3 = [⟨2, 0, mcells b⟩] ∧ s.z = []

set_option maxHeartbeats 2000000 in
theorem ref04_Cmp_rets (cs : Sem) (a b : Mono) : Rets KK cs false c_ref04_Cmp [dMono a, dMono b] (.i .i64 (Mono.cmp a b)) [] := by
  refine Rets.of rfl ?_
  unfold c_ref04_Cmp
  simp
  apply W_loop (ICmp a b) 8
  · exact ⟨0, by simp [Mono.cmp]⟩
  rintro n s ⟨i, hn, hi, hc, h5, h2, h3, g2, g3, hz⟩
  by_cases hi' : i < 8
  · obtain ⟨x, xs, hx, hx1, px⟩ := mono_drop a hi'
    obtain ⟨y, ys, hy, hy1, py⟩ := mono_drop b hi'
    have c0 : (i : Int) < 8 := by omega
    have w1 : IntKind.i64.wrap ((i : Int) + 1) = (i : Int) + 1 := wrap_i64 (by omega) (by omega)
    rw [hx, hy] at hc
    unfold lexc at hc
    have hc := hc.symm
    by_cases c1 : x < y
    · rw [if_pos c1] at hc
      simp [l_ref04_Cmp_0, h5, h2, h3, g2, g3, c0, px, py, c1, hc]
    · rw [if_neg c1] at hc
      by_cases c2 : y < x
      · rw [if_pos c2] at hc
        simp [l_ref04_Cmp_0, h5, h2, h3, g2, g3, c0, px, py, c1, c2, hc]
      · rw [if_neg c2] at hc
        simp [l_ref04_Cmp_0, h5, h2, h3, g2, g3, c0, px, py, c1, c2, w1]
        exact ⟨8 - (i + 1), by omega, i + 1, rfl, by omega, by rw [hx1, hy1]; exact hc.symm, by simp [h5, h2, h3, g2, g3, hz]⟩
  · have e : i = 8 := by omega
    subst e
    have : Mono.cmp a b = 0 := by rw [← hc]; simp [Mono.l, lexc]
    simp [l_ref04_Cmp_0, h5, h2, h3, this]

theorem bd_split {d : Int} {a : Mono} {i : Nat} {x : Int} {xs : List Int} (hx : a.l.drop i = x :: xs) (h : ∀ e ∈ a.l.take i, 0 ≤ e ∧ e ≤ d) : (0 ≤ x ∧ x ≤ d) → ∀ e ∈ a.l.take (i + 1), 0 ≤ e ∧ e ≤ d := by
  intro hd e he
  have e1 : a.l.take (i + 1) = a.l.take i ++ [x] := by rw [List.take_add, hx]; rfl
  rw [e1, List.mem_append] at he
  rcases he with he | he
  · exact h e he
  · simp at he; subst he; exact hd

theorem bd_not {d : Int} {a : Mono} {i : Nat} {x : Int} {xs : List Int} (hx : a.l.drop i = x :: xs) (hd : ¬ (0 ≤ x ∧ x ≤ d)) : ¬ Mo.bd d a := fun h => hd (h x (List.mem_of_mem_drop (by rw [hx]; exact List.mem_cons_self ..)))

def IVal (a : Mono) (sl : Nat) (n : Nat) (s : St) : Prop := ∃ i, n = 8 - i ∧ i ≤ 8 ∧ (∀ e ∈ a.l.take i, 0 ≤ e ∧ e ≤ 65535) ∧ gt s sl = some (.i .i64 (i : Nat)) ∧ gt s 1 = some (.ptr 1 0 0) ∧ lst s 1 = [⟨2, 0, mcells a⟩] ∧ s.z = []

set_option maxHeartbeats 2000000 in
theorem ref04_Valid_rets (cs : Sem) (a : Mono) : Rets KK cs false c_ref04_Valid [dMono a] (.b (decide (Mo.bd 65535 a))) [] := by
  refine Rets.of rfl ?_
  unfold c_ref04_Valid
  simp
  apply W_loop (IVal a 3) 8
  · exact ⟨0, by simp⟩
  rintro n s ⟨i, hn, hi, hc, h5, h2, g2, hz⟩
  by_cases hi' : i < 8
  · obtain ⟨x, xs, hx, hx1, px⟩ := mono_drop a hi'
    have c0 : (i : Int) < 8 := by omega
    have w1 : IntKind.i64.wrap ((i : Int) + 1) = (i : Int) + 1 := wrap_i64 (by omega) (by omega)
    by_cases c1 : x < 0
    · have := bd_not (d := 65535) hx (by omega)
      simp [l_ref04_Valid_0, h5, h2, g2, c0, px, c1, this]
    · by_cases c2 : 65535 < x
      · have := bd_not (d := 65535) hx (by omega)
        simp [l_ref04_Valid_0, h5, h2, g2, c0, px, c1, c2, this]
      · simp [l_ref04_Valid_0, h5, h2, g2, c0, px, c1, c2, w1]
        exact ⟨8 - (i + 1), by omega, i + 1, rfl, by omega, bd_split hx hc (by omega), by simp [h5, h2, g2, hz]⟩
  · have e : i = 8 := by omega
    subst e
    have : Mo.bd 65535 a := fun e he => hc e (by rw [List.take_of_length_le (by simp)]; exact he)
    simp [l_ref04_Valid_0, h5, h2, this]

def IVal2 (a : Mono) (n : Nat) (s : St) : Prop := ∃ i, n = 8 - i ∧ i ≤ 8 ∧ (∀ e ∈ a.l.take i, 0 ≤ e ∧ e ≤ 65535) ∧ gt s 6 = some (.i .i64 (i : Nat)) ∧ gt s 5 = some (dMono a) ∧ s.z = []

set_option maxHeartbeats 2000000 in
theorem monomial_Valid_rets (cs : Sem) (a : Mono) : Rets KK cs false c_monomial_Valid [dMono a] (.b (decide (Mo.bd 65535 a))) [] := by
  refine Rets.of rfl ?_
  unfold c_monomial_Valid
  simp
  apply W_loop (IVal2 a) 8
  · exact ⟨0, by simp⟩
  rintro n s ⟨i, hn, hi, hc, h5, h2, hz⟩
  by_cases hi' : i < 8
  · obtain ⟨x, xs, hx, hx1, px⟩ := mono_drop a hi'
    have c0 : (i : Int) < 8 := by omega
    have w1 : IntKind.i64.wrap ((i : Int) + 1) = (i : Int) + 1 := wrap_i64 (by omega) (by omega)
    by_cases c1 : x < 0
    · have := bd_not (d := 65535) hx (by omega)
      simp [l_monomial_Valid_0, h5, h2, c0, px, c1, this]
    · by_cases c2 : 65535 < x
      · have := bd_not (d := 65535) hx (by omega)
        simp [l_monomial_Valid_0, h5, h2, c0, px, c1, c2, this]
      · simp [l_monomial_Valid_0, h5, h2, c0, px, c1, c2, w1]
        exact ⟨8 - (i + 1), by omega, i + 1, rfl, by omega, bd_split hx hc (by omega), by simp [h5, h2, hz]⟩
  · have e : i = 8 := by omega
    subst e
    have : Mo.bd 65535 a := fun e he => hc e (by rw [List.take_of_length_le (by simp)]; exact he)
    simp [l_monomial_Valid_0, h5, h2, this]

/-- A row of integers in the making: the first i are done. -/
structure Zp (f : Int → Int → Int) (a b : List Int) (i : Nat) (Z : List Int) : Prop where
  done : ∃ d, d.length = i ∧ Z = d ++ a.drop i ∧ d ++ List.zipWith f (a.drop i) (b.drop i) = List.zipWith f a b

theorem Zp.start (f : Int → Int → Int) (a b : List Int) : Zp f a b 0 a := ⟨⟨[], rfl, by simp, by simp⟩⟩
theorem Zp.drop {f : Int → Int → Int} {a b Z : List Int} {i : Nat} (h : Zp f a b i Z) : Z.drop i = a.drop i := by
  obtain ⟨d, h1, h2, _⟩ := h.done
  rw [h2, ← h1, List.drop_left]
theorem Zp.step {f : Int → Int → Int} {a b Z : List Int} {i : Nat} {x y : Int} {xs ys : List Int} (h : Zp f a b i Z) (hx : a.drop i = x :: xs) (hy : b.drop i = y :: ys) : Zp f a b (i + 1) (Z.take i ++ f x y :: xs) := by
  obtain ⟨d, h1, h2, h3⟩ := h.done
  have e1 : a.drop (i + 1) = xs := by rw [← List.drop_drop, hx]; rfl
  have e2 : b.drop (i + 1) = ys := by rw [← List.drop_drop, hy]; rfl
  refine ⟨⟨d ++ [f x y], by simp [h1], ?_, ?_⟩⟩
  · rw [h2, ← h1, List.take_left, h1, e1]; simp
  · rw [e1, e2, ← h3, hx, hy]; simp
theorem Zp.fin {f : Int → Int → Int} {a b Z : List Int} {i : Nat} (h : Zp f a b i Z) (hi : a.length ≤ i) : Z = List.zipWith f a b := by
  obtain ⟨d, h1, h2, h3⟩ := h.done
  rw [← h3, h2, List.drop_eq_nil_of_le hi]; simp

theorem z_mcells {Z : List Int} {m : Mono} (h : Z = m.l) : Z.map (DV.i .i64 ·) = mcells m := by rw [h]; rfl

def IMul (a b : Mono) (n : Nat) (s : St) : Prop := ∃ i Z, n = 8 - i ∧ i ≤ 8 ∧ Zp (fun x y => x + y) a.l b.l i Z ∧ gt s 6 = some (.i .i64 (i : Nat)) ∧ gt s 2 = some (.ptr 2 0 0) ∧ gt s 3 = some (.ptr 3 0 0) ∧ gt s 4 = some (.ptr 4 0 0) ∧
  lst s 2 = [⟨2, 0, Z.map (DV.i .i64 ·)⟩] ∧ lst s 3 = [⟨2, 0, mcells b⟩] ∧ lst s 4 = [⟨2, 0, mcells Mono.zero⟩] ∧ s.z = []

set_option maxHeartbeats 2000000 in
theorem ref04_Mul_rets (cs : Sem) (hval : ∀ a, cs n_ref04_Valid [dMono a] = some (.b (decide (Mo.bd 65535 a)), [])) (a b : Mono) (ha : Mo.bd 65535 a) (hb : Mo.bd 65535 b) :
    Rets KK cs false c_ref04_Mul [dMono a, dMono b] (.tup [dMono (if Mo.bd 65535 (a.add b) then a.add b else Mono.zero), .i .i64 (if Mo.bd 65535 (a.add b) then 0 else 2)]) [] := by
  refine Rets.of rfl ?_
  unfold c_ref04_Mul
  simp
  apply W_loop (IMul a b) 8
  · exact ⟨0, a.l, by simp [mcells, Mono.zero, Mono.l, Zp.start]⟩
  rintro n s ⟨i, Z, hn, hi, hZ, h6, h2, h3, h4, g2, g3, g4, hz⟩
  by_cases hi' : i < 8
  · obtain ⟨x, xs, hx, hx1, px⟩ := mono_drop a hi'
    obtain ⟨y, ys, hy, hy1, py⟩ := mono_drop b hi'
    have c0 : (i : Int) < 8 := by omega
    have w1 : IntKind.i64.wrap ((i : Int) + 1) = (i : Int) + 1 := wrap_i64 (by omega) (by omega)
    have bx := ha x (List.mem_of_mem_drop (by rw [hx]; exact List.mem_cons_self ..))
    have bY := hb y (List.mem_of_mem_drop (by rw [hy]; exact List.mem_cons_self ..))
    have w2 : IntKind.i64.wrap (x + y) = x + y := wrap_i64 (by omega) (by omega)
    have pz := part_ints (k := .i64) (hZ.drop.trans hx)
    have fz := fill_ints (k := .i64) (v := x + y) (hZ.drop.trans hx)
    simp [l_ref04_Mul_0, h6, h2, h3, h4, g2, g3, g4, hz, c0, pz, py, fz, w1, w2, -List.map_append, -List.map_cons, -List.map_take]
    exact ⟨8 - (i + 1), by omega, i + 1, _, rfl, by omega, hZ.step hx hy, by simp [h2, h3, h4, g2, g3, g4, hz, -List.map_append, -List.map_cons, -List.map_take]⟩
  · have e : i = 8 := by omega
    subst e
    have hZ' : Z = (a.add b).l := hZ.fin (by simp)
    rw [z_mcells hZ'] at g2
    by_cases hv : Mo.bd 65535 (a.add b)
    · simp [l_ref04_Mul_0, h6, h2, h3, h4, g2, g3, g4, hz, hval, hv]
    · simp [l_ref04_Mul_0, h6, h2, h3, h4, g2, g3, g4, hz, hval, hv, ← mcells_zero]

/-! ### The program's functions -/

set_option maxHeartbeats 2000000 in
theorem monomial_Mul_1_rets (cs : Sem) (x y : Int) (h : -9223372036854775808 ≤ x + y ∧ x + y ≤ 9223372036854775807) : Rets KK cs false c_monomial_Mul_1 [.i .i64 x, .i .i64 y] (.i .i64 (x + y)) [] := by
  refine Rets.of rfl ?_
  unfold c_monomial_Mul_1
  simp [wrap_i64 h.1 h.2]

def IEach (f : Int → Int → Int) (g : Nat) (a b : Mono) (n : Nat) (s : St) : Prop := ∃ i Z, n = 8 - i ∧ i ≤ 8 ∧ Zp f a.l b.l i Z ∧ gt s 8 = some (.i .i64 (i : Nat)) ∧ gt s 3 = some (.ptr 3 0 0) ∧ gt s 4 = some (.ptr 4 0 0) ∧ gt s 6 = some (.ptr 6 0 0) ∧ gt s 2 = some (.fn g []) ∧
  lst s 3 = [⟨2, 0, Z.map (DV.i .i64 ·)⟩] ∧ lst s 4 = [⟨2, 0, mcells b⟩] ∧ lst s 6 = [⟨2, 0, mcells Mono.zero⟩] ∧ s.z = []

set_option maxHeartbeats 2000000 in
theorem monomial_each_rets (cs : Sem) (f : Int → Int → Int) (g : Nat) (hg : KK.fc g = ⟨[], false⟩) (a b : Mono) (hf : ∀ x ∈ a.l, ∀ y ∈ b.l, cs g [.i .i64 x, .i .i64 y] = some (.i .i64 (f x y), [])) :
    Rets KK cs false c_monomial_each [dMono a, dMono b, .fn g []] (dMono (Mo.zip f a b)) [] := by
  refine Rets.of rfl ?_
  unfold c_monomial_each
  simp
  apply W_loop (IEach f g a b) 8
  · exact ⟨0, a.l, by simp [mcells, Mono.zero, Mono.l, Zp.start]⟩
  rintro n s ⟨i, Z, hn, hi, hZ, h8, h3, h4, h6, h2, g3, g4, g6, hz⟩
  by_cases hi' : i < 8
  · obtain ⟨x, xs, hx, hx1, px⟩ := mono_drop a hi'
    obtain ⟨y, ys, hy, hy1, py⟩ := mono_drop b hi'
    have c0 : (i : Int) < 8 := by omega
    have w1 : IntKind.i64.wrap ((i : Int) + 1) = (i : Int) + 1 := wrap_i64 (by omega) (by omega)
    have hc := hf x (List.mem_of_mem_drop (by rw [hx]; exact List.mem_cons_self ..)) y (List.mem_of_mem_drop (by rw [hy]; exact List.mem_cons_self ..))
    have pz := part_ints (k := .i64) (hZ.drop.trans hx)
    have fz := fill_ints (k := .i64) (v := f x y) (hZ.drop.trans hx)
    simp [l_monomial_each_0, h8, h2, h3, h4, h6, g3, g4, g6, hz, hg, hc, c0, pz, py, fz, w1, -List.map_append, -List.map_cons, -List.map_take]
    exact ⟨8 - (i + 1), by omega, i + 1, _, rfl, by omega, hZ.step hx hy, by simp [h2, h3, h4, h6, g3, g4, g6, hz, -List.map_append, -List.map_cons, -List.map_take]⟩
  · have e : i = 8 := by omega
    subst e
    have hZ' : Z = (Mo.zip f a b).l := hZ.fin (by simp)
    rw [z_mcells hZ'] at g3
    simp [l_monomial_each_0, h8, h2, h3, h4, h6, g3, g4, g6, hz]

set_option maxHeartbeats 2000000 in
theorem monomial_Mul_rets (cs : Sem) (hval : ∀ a, cs n_monomial_Valid [dMono a] = some (.b (decide (Mo.bd 65535 a)), [])) (a b : Mono)
    (heach : cs n_monomial_each [dMono a, dMono b, .fn n_monomial_Mul_1 []] = some (dMono (a.add b), [])) :
    Rets KK cs false c_monomial_Mul [dMono a, dMono b] (.tup [dMono (if Mo.bd 65535 (a.add b) then a.add b else Mono.zero), .i .i64 (if Mo.bd 65535 (a.add b) then 0 else 2)]) [] := by
  refine Rets.of rfl ?_
  unfold c_monomial_Mul
  by_cases hv : Mo.bd 65535 (a.add b)
  · simp [heach, hval, hv]
  · simp [heach, hval, hv, ← mcells_zero]

theorem cmp_isNaN_int_rets (cs : Sem) (x : Int) : Rets KK cs false c_cmp_isNaN_int [.i .i64 x] (.b false) [] := by
  refine Rets.of rfl ?_
  unfold c_cmp_isNaN_int
  simp

set_option maxHeartbeats 2000000 in
theorem cmp_Compare_int_rets (cs : Sem) (hnan : ∀ x, cs n_cmp_isNaN_int [.i .i64 x] = some (.b false, [])) (x y : Int) : Rets KK cs false c_cmp_Compare_int [.i .i64 x, .i .i64 y] (.i .i64 (if x < y then -1 else if y < x then 1 else 0)) [] := by
  refine Rets.of rfl ?_
  unfold c_cmp_Compare_int
  by_cases c1 : x < y
  · simp [hnan, c1]
  · by_cases c2 : y < x
    · simp [hnan, c1, c2]
    · simp [hnan, c1, c2]

def ISCmp (a b : Mono) (n : Nat) (s : St) : Prop := ∃ i, n = 8 - i ∧ i ≤ 8 ∧ lexc (a.l.drop i) (b.l.drop i) = Mono.cmp a b ∧ gt s 11 = some (.i .i64 (i : Nat)) ∧ gt s 9 = some (.sl 8 (mcells a)) ∧ gt s 10 = some (.i .i64 8) ∧ gt s 0 = some (.sl 8 (mcells a)) ∧ gt s 1 = some (.sl 8 (mcells b)) ∧ s.z = []

theorem part_mdrop {a : Mono} {i : Nat} {x : Int} {r : List Int} (h : a.l.drop i = x :: r) : part ((mcells a).drop i) 0 1 false = some (.i .i64 x) := by
  have : (mcells a).drop i = (x :: r).map (DV.i .i64 ·) := by rw [← h, List.map_drop]; rfl
  rw [this]; rfl

set_option maxHeartbeats 2000000 in
theorem slices_Compare_rets (cs : Sem) (hcmp : ∀ x y, cs n_cmp_Compare_int [.i .i64 x, .i .i64 y] = some (.i .i64 (if x < y then -1 else if y < x then 1 else 0), [])) (a b : Mono) :
    Rets KK cs false c_slices_Compare_int_int [.sl 8 (mcells a), .sl 8 (mcells b)] (.i .i64 (Mono.cmp a b)) [] := by
  refine Rets.of rfl ?_
  unfold c_slices_Compare_int_int
  simp
  apply W_loop (ISCmp a b) 8
  · exact ⟨0, by simp [Mono.cmp]⟩
  rintro n s ⟨i, hn, hi, hc, h11, h9, h10, h0, h1, hz⟩
  by_cases hi' : i < 8
  · obtain ⟨x, xs, hx, hx1, px⟩ := mono_drop a hi'
    obtain ⟨y, ys, hy, hy1, py⟩ := mono_drop b hi'
    have c0 : (i : Int) < 8 := by omega
    have c00 : ¬ (8 : Int) ≤ i := by omega
    have w1 : IntKind.i64.wrap ((i : Int) + 1) = (i : Int) + 1 := wrap_i64 (by omega) (by omega)
    have qx := part_mdrop hx
    have qy := part_mdrop hy
    rw [hx, hy] at hc
    unfold lexc at hc
    have hc := hc.symm
    by_cases c1 : x < y
    · rw [if_pos c1] at hc
      simp [l_slices_Compare_int_int_0, h11, h9, h10, h0, h1, c0, c00, qx, qy, hcmp, c1, hc]
    · rw [if_neg c1] at hc
      by_cases c2 : y < x
      · rw [if_pos c2] at hc
        simp [l_slices_Compare_int_int_0, h11, h9, h10, h0, h1, c0, c00, qx, qy, hcmp, c1, c2, hc]
      · rw [if_neg c2] at hc
        simp [l_slices_Compare_int_int_0, h11, h9, h10, h0, h1, c0, c00, qx, qy, hcmp, c1, c2, w1]
        exact ⟨8 - (i + 1), by omega, i + 1, rfl, by omega, by rw [hx1, hy1]; exact hc.symm, by simp [h9, h10, h0, h1, hz]⟩
  · have e : i = 8 := by omega
    subst e
    have : Mono.cmp a b = 0 := by rw [← hc]; simp [Mono.l, lexc]
    simp [l_slices_Compare_int_int_0, h11, h9, h10, h0, h1, this]

theorem monomial_Cmp_rets (cs : Sem) (a b : Mono) (h : cs n_slices_Compare_int_int [.sl 8 (mcells a), .sl 8 (mcells b)] = some (.i .i64 (Mono.cmp a b), [])) :
    Rets KK cs false c_monomial_Cmp [dMono a, dMono b] (.i .i64 (Mono.cmp a b)) [] := by
  refine Rets.of rfl ?_
  unfold c_monomial_Cmp
  simp [h]
end Go.Ev

/- Polynomials: what the functions of the reference give. -/
namespace Go.Ev
open Go.Pm

def sgn (a : Rat) : Int := if a < 0 then -1 else if a = 0 then 0 else 1

theorem sgn_zero {a : Rat} : sgn a = 0 ↔ a = 0 := by
  unfold sgn
  constructor
  · intro h
    split at h
    · omega
    · split at h
      · assumption
      · omega
  · intro h; subst h; rfl

theorem sgn_beq {a : Rat} (h : a ≠ 0) : (sgn a == 0) = false := by simpa [sgn_zero] using h

/-- All monomials of a polynomial lie between bounds. -/
def Bd (d : Int) (p : Poly) : Prop := ∀ t ∈ p, Mo.bd d t.m

theorem Bd.mono {d d' : Int} {p : Poly} (h : Bd d p) (hd : d ≤ d') : Bd d' p := fun t ht => Mo.bd_mono (h t ht) hd
theorem Bd.nil (d : Int) : Bd d [] := by simp [Bd]
theorem Bd.padd {d : Int} {p q : Poly} (hp : Bd d p) (hq : Bd d q) : Bd d (padd p q) := by
  intro t ht
  rcases mem_padd ht with ⟨u, hu, e⟩ | ⟨u, hu, e⟩
  · rw [← e]; exact hp u hu
  · rw [← e]; exact hq u hu
theorem Bd.ptimes {d d' : Int} {c : Rat} {m : Mono} {p : Poly} (hm : Mo.bd d m) (hp : Bd d' p) : Bd (d + d') (ptimes c m p) := by
  intro t ht
  simp only [Pm.ptimes, List.mem_map] at ht
  obtain ⟨u, hu, rfl⟩ := ht
  exact Mo.bd_add hm (hp u hu)
theorem Bd.pmul {d d' : Int} {q : Poly} (hq : Bd d' q) : ∀ {p out : Poly}, Bd d p → Bd (d + d') out → Bd (d + d') (pmul out p q)
  | [], _, _, h => h
  | t :: p, out, hp, h => show Bd _ (Pm.pmul (Pm.padd out (Pm.ptimes t.c t.m q)) p q) from
    Bd.pmul hq (fun u hu => hp u (List.mem_cons_of_mem _ hu)) (Bd.padd h (Bd.ptimes (hp t (List.mem_cons_self ..)) hq))

theorem padd_length : ∀ (p q : Poly), (padd p q).length ≤ p.length + q.length
  | [], q => by simp [padd]
  | s :: p, [] => by simp [padd]
  | s :: p, t :: q => by
    unfold padd
    split
    · have := padd_length p (t :: q); simp at this ⊢; omega
    · split
      · have := padd_length (s :: p) q; simp at this ⊢; omega
      · have := padd_length p q
        split
        · simp; omega
        · simp; omega
termination_by p q => p.length + q.length

theorem ptimes_length (c : Rat) (m : Mono) (p : Poly) : (ptimes c m p).length = p.length := by simp [ptimes]

theorem pmul_length (q : Poly) : ∀ (p out : Poly), (pmul out p q).length ≤ out.length + p.length * q.length
  | [], out => by simp [pmul]
  | t :: p, out => by
    have h1 := pmul_length q p (padd out (ptimes t.c t.m q))
    have h2 := padd_length out (ptimes t.c t.m q)
    rw [ptimes_length] at h2
    simp only [pmul, List.length_cons, Nat.add_mul, Nat.one_mul]
    omega

/-- What is used of numbers and monomials. -/
structure RefArith (cs : Sem) : Prop where
  cmp : ∀ a b, cs n_ref04_Cmp [dMono a, dMono b] = some (.i .i64 (Mono.cmp a b), [])
  mmul : ∀ a b, Mo.bd 65535 a → Mo.bd 65535 b → cs n_ref04_Mul [dMono a, dMono b] = some (.tup [dMono (if Mo.bd 65535 (a.add b) then a.add b else Mono.zero), .i .i64 (if Mo.bd 65535 (a.add b) then 0 else 2)], [])
  sign : ∀ a, cs n_ref02_Sign [dRat a] = some (.i .i64 (sgn a), [])
  whole : ∀ n : Int, -100 ≤ n → n ≤ 100 → cs n_ref02_Whole [.i .i64 n] = some (dRat (n : Rat), [])

def IAdd (p q : Poly) (n : Nat) (s : St) : Prop :=
  ∃ i k out dead e, n = (p.length - i) + (q.length - k) ∧ i ≤ p.length ∧ k ≤ q.length ∧ out ++ padd (p.drop i) (q.drop k) = padd p q ∧ out.length ≤ i + k ∧ e = dead.length ∧ gt s 0 = some (.sl p.length (pcells p)) ∧ gt s 1 = some (.sl q.length (pcells q)) ∧
    gt s 6 = some (.i .i64 (i : Nat)) ∧ gt s 7 = some (.i .i64 (k : Nat)) ∧ gt s 5 = some (.ref 9 e 0 (List.length out)) ∧ lst s 9 = ⟨0, 12, pcells out⟩ :: dead ∧ s.z = []

set_option maxHeartbeats 1000000 in
theorem ref06_Add_rets (cs : Sem) (A : RefArith cs) (p q : Poly) (hlen : p.length + q.length ≤ 1000000)
    (hadd : ∀ s ∈ p, ∀ t ∈ q, cs n_ref02_Add [dRat s.c, dRat t.c] = some (dRat (s.c + t.c), [])) : Rets KK cs false c_ref06_Add [dPoly p, dPoly q] (dPoly (padd p q)) [] := by
  have hcmp := A.cmp
  have hsign := A.sign
  refine Rets.of rfl ?_
  unfold c_ref06_Add
  simp
  apply W_loop (IAdd p q) (p.length + q.length)
  · exact ⟨0, 0, [], [], 0, by simp⟩
  rintro n s ⟨i, k, out, dead, e, hn, hi, hk, hout, hol, he, h0, h1, h6, h7, h5, h9, hz⟩
  have w1 : IntKind.i64.wrap ((i : Int) + 1) = (i : Int) + 1 := wrap_i64 (by omega) (by omega)
  have w2 : IntKind.i64.wrap ((k : Int) + 1) = (k : Int) + 1 := wrap_i64 (by omega) (by omega)
  have hb : ¬ 274877906943 < out.length := by omega
  by_cases hi' : i < p.length
  · obtain ⟨t, p', hp, hp1⟩ := drop_cons hi'
    have b2 : ((i : Int) == (p.length : Int)) = false := by simp; omega
    by_cases hk' : k < q.length
    · obtain ⟨u, q', hq, hq1⟩ := drop_cons hk'
      have b1 : ((k : Int) == (q.length : Int)) = false := by simp; omega
      have hadd := hadd t (List.mem_of_mem_drop (by rw [hp]; exact List.mem_cons_self ..)) u (List.mem_of_mem_drop (by rw [hq]; exact List.mem_cons_self ..))
      rw [hp, hq] at hout
      by_cases c1 : 0 < Mono.cmp t.m u.m
      · rw [padd_gt c1] at hout
        simp [l_ref06_Add_0, h0, h1, h5, h6, h7, h9, hz, hi', hk', hp, hq, b1, b2, hcmp, c1, nth_at he, setAt_at he, w1, he, hb]
        refine ⟨(p.length - (i + 1)) + (q.length - k), by omega, i + 1, k, out ++ [t], ⟨3, 12, pcells out⟩ :: dead, dead.length + 1, rfl, by omega, by omega, ?_, by simp; omega, ?_⟩
        · rw [hp1, hq]; simpa using hout
        · simp [hz, h0, h1, h7]
      · by_cases c2 : Mono.cmp t.m u.m < 0
        · rw [padd_lt c2] at hout
          simp [l_ref06_Add_0, h0, h1, h5, h6, h7, h9, hz, hi', hk', hp, hq, b1, b2, hcmp, c1, c2, nth_at he, setAt_at he, w2, he, hb]
          refine ⟨(p.length - i) + (q.length - (k + 1)), by omega, i, k + 1, out ++ [u], ⟨3, 12, pcells out⟩ :: dead, dead.length + 1, rfl, by omega, by omega, ?_, by simp; omega, ?_⟩
          · rw [hq1, hp]; simpa using hout
          · simp [hz, h0, h1, h6]
        · rw [padd_eq (by omega)] at hout
          by_cases c3 : t.c + u.c = 0
          · rw [if_pos c3] at hout
            simp [l_ref06_Add_0, h0, h1, h5, h6, h7, h9, hz, hi', hk', hp, hq, b1, b2, hcmp, hadd, hsign, sgn_zero, c1, c2, c3, nth_at he, setAt_at he, w1, w2, he, hb]
            refine ⟨(p.length - (i + 1)) + (q.length - (k + 1)), by omega, i + 1, k + 1, out, dead, e, rfl, by omega, by omega, ?_, by omega, ?_⟩
            · rw [hp1, hq1]; exact hout
            · simp [hz, h0, h1, h5, h9, he]
          · rw [if_neg c3] at hout
            have c4 := sgn_beq c3
            simp [l_ref06_Add_0, h0, h1, h5, h6, h7, h9, hz, hi', hk', hp, hq, b1, b2, hcmp, hadd, hsign, sgn_zero, c1, c2, c3, c4, nth_at he, setAt_at he, w1, w2, he, hb]
            refine ⟨(p.length - (i + 1)) + (q.length - (k + 1)), by omega, i + 1, k + 1, out ++ [⟨t.c + u.c, t.m⟩], ⟨3, 12, pcells out⟩ :: dead, dead.length + 1, rfl, by omega, by omega, ?_, by simp; omega, ?_⟩
            · rw [hp1, hq1]; simpa using hout
            · simp [hz, h0, h1]
    · have e1 : k = q.length := by omega
      have b1 : ((k : Int) == (q.length : Int)) = true := by simp [e1]
      rw [hp, e1, List.drop_length, padd_nil_right] at hout
      simp [l_ref06_Add_0, h0, h1, h5, h6, h7, h9, hz, hi', hk', hp, b1, b2, nth_at he, setAt_at he, w1, he, hb]
      refine ⟨(p.length - (i + 1)) + (q.length - k), by omega, i + 1, k, out ++ [t], ⟨3, 12, pcells out⟩ :: dead, dead.length + 1, rfl, by omega, by omega, ?_, by simp; omega, ?_⟩
      · rw [hp1, e1, List.drop_length, padd_nil_right]; simpa using hout
      · simp [hz, h0, h1, h7]
  · have e2 : i = p.length := by omega
    have b2 : ((i : Int) == (p.length : Int)) = true := by simp [e2]
    by_cases hk' : k < q.length
    · obtain ⟨u, q', hq, hq1⟩ := drop_cons hk'
      have b1 : ((k : Int) == (q.length : Int)) = false := by simp; omega
      rw [hq, e2, List.drop_length, padd_nil] at hout
      simp [l_ref06_Add_0, h0, h1, h5, h6, h7, h9, hz, hi', hk', hq, b1, b2, nth_at he, setAt_at he, w2, he, hb]
      refine ⟨(p.length - i) + (q.length - (k + 1)), by omega, i, k + 1, out ++ [u], ⟨3, 12, pcells out⟩ :: dead, dead.length + 1, rfl, by omega, by omega, ?_, by simp; omega, ?_⟩
      · rw [hq1, e2, List.drop_length, padd_nil]; simpa using hout
      · simp [hz, h0, h1, h6]
    · have e1 : k = q.length := by omega
      rw [e1, e2, List.drop_length, List.drop_length, padd_nil, List.append_nil] at hout
      simp [l_ref06_Add_0, h0, h1, h5, h6, h7, h9, hz, hi', hk', nth_at he, he, hb, hout]

def ITimes (c : Rat) (m : Mono) (p : Poly) (n : Nat) (s : St) : Prop :=
  ∃ i dead e, n = p.length - i ∧ i ≤ p.length ∧ e = dead.length ∧ gt s 2 = some (.sl p.length (pcells p)) ∧ gt s 9 = some (.i .i64 (i : Nat)) ∧ gt s 8 = some (.ref 12 e 0 i) ∧ gt s 3 = some (.ptr 3 0 0) ∧ gt s 4 = some (.ptr 4 0 0) ∧
    lst s 12 = ⟨0, 12, pcells (ptimes c m (p.take i))⟩ :: dead ∧ lst s 3 = [⟨2, 0, rcells c⟩] ∧ lst s 4 = [⟨2, 0, mcells m⟩] ∧ s.z = []

theorem ptimes_take {c : Rat} {m : Mono} {p : Poly} {i : Nat} {t : Tm} {p' : Poly} (h : p.drop i = t :: p') : ptimes c m (p.take (i + 1)) = ptimes c m (p.take i) ++ [⟨c * t.c, m.add t.m⟩] := by
  have : p.take (i + 1) = p.take i ++ [t] := by rw [List.take_add, h]; rfl
  rw [this]; simp [ptimes]

/-- A product by a term; the number may be 0. -/
def ptimes0 (c : Rat) (m : Mono) (p : Poly) : Poly := if c = 0 then [] else ptimes c m p

set_option maxHeartbeats 1000000 in
theorem ref06_Times_rets (cs : Sem) (A : RefArith cs) (c : Rat) (m : Mono) (p : Poly) (hlen : p.length ≤ 1000000) (d d' : Int) (hm : Mo.bd d m) (hp : Bd d' p) (hd0 : 0 ≤ d) (hd0' : 0 ≤ d') (hd : d + d' ≤ 65535)
    (hmul : ∀ t ∈ p, cs n_ref02_Mul [dRat c, dRat t.c] = some (dRat (c * t.c), [])) :
    Rets KK cs false c_ref06_Times [dRat c, dMono m, dPoly p] (.tup [dPoly (ptimes0 c m p), .i .i64 0]) [] := by
  have hmm := A.mmul
  have hsign := A.sign
  refine Rets.of rfl ?_
  unfold c_ref06_Times
  by_cases c0 : c = 0
  · simp [c0, hsign, sgn_zero, ptimes0]
  · have s0 := sgn_beq c0
    simp [hsign, s0]
    apply W_loop (ITimes c m p) p.length
    · exact ⟨0, [], 0, by simp [ptimes]⟩
    rintro n s ⟨i, dead, e, hn, hi, he, h2, h9, h8, h3, h4, g12, g3, g4, hz⟩
    have w1 : IntKind.i64.wrap ((i : Int) + 1) = (i : Int) + 1 := wrap_i64 (by omega) (by omega)
    have hb : ¬ 274877906943 < i := by omega
    by_cases hi' : i < p.length
    · obtain ⟨t, p', hq, hq1⟩ := drop_cons hi'
      have hlen2 : (ptimes c m (p.take i)).length = i := by rw [ptimes_length, List.length_take]; omega
      have ht : t ∈ p := List.mem_of_mem_drop (by rw [hq]; exact List.mem_cons_self ..)
      have b1 : Mo.bd 65535 m := Mo.bd_mono hm (by omega)
      have b2 : Mo.bd 65535 t.m := Mo.bd_mono (hp t ht) (by omega)
      have b3 : Mo.bd 65535 (m.add t.m) := Mo.bd_mono (Mo.bd_add hm (hp t ht)) (by omega)
      have hmul := hmul t ht
      have k1 := hmm m t.m b1 b2
      simp only [b3, if_true] at k1
      simp [l_ref06_Times_0, h2, h3, h4, h8, h9, g12, g3, g4, hz, hi', hq, k1, hmul, nth_at he, setAt_at he, w1, he, hb, hlen2]
      refine ⟨p.length - (i + 1), by omega, i + 1, ⟨3, 12, pcells (ptimes c m (p.take i))⟩ :: dead, dead.length + 1, rfl, by omega, rfl, ?_⟩
      rw [ptimes_take hq]
      simp [h2, h3, h4, g3, g4, hz]
    · have e1 : i = p.length := by omega
      have e2 : p.take i = p := by rw [e1, List.take_length]
      have e3 : (ptimes c m p).length = p.length := ptimes_length ..
      rw [e2] at g12
      have e4 : (pcells (ptimes c m p)).take (i * 12) = pcells (ptimes c m p) := by rw [e1, ← e3]; exact take_pcells _
      simp [l_ref06_Times_0, h2, h3, h4, h8, h9, g12, g3, g4, hz, hi', nth_at he, he, ptimes0, c0, e3, e4, e1]
      rw [← e3]; exact take_pcells _

theorem Bd.ptimes0 {d d' : Int} {c : Rat} {m : Mono} {p : Poly} (hm : Mo.bd d m) (hp : Bd d' p) : Bd (d + d') (ptimes0 c m p) := by
  unfold Ev.ptimes0; split
  · exact Bd.nil _
  · exact Bd.ptimes hm hp
theorem ptimes0_length (c : Rat) (m : Mono) (p : Poly) : (ptimes0 c m p).length ≤ p.length := by
  unfold ptimes0; split
  · simp
  · rw [ptimes_length]; omega

def pscale (c : Rat) (p : Poly) : Poly := ptimes0 c Mono.zero p

theorem ref06_Scale_rets (cs : Sem) (c : Rat) (p : Poly) (h : cs n_ref06_Times [dRat c, dMono Mono.zero, dPoly p] = some (.tup [dPoly (pscale c p), .i .i64 0], [])) :
    Rets KK cs false c_ref06_Scale [dRat c, dPoly p] (dPoly (pscale c p)) [] := by
  refine Rets.of rfl ?_
  unfold c_ref06_Scale
  simp [h, ← mcells_zero]

def psub (p q : Poly) : Poly := padd p (pscale (-1) q)

theorem ref06_Sub_rets (cs : Sem) (A : RefArith cs) (p q : Poly) (h1 : cs n_ref06_Scale [dRat (-1), dPoly q] = some (dPoly (pscale (-1) q), [])) (h2 : cs n_ref06_Add [dPoly p, dPoly (pscale (-1) q)] = some (dPoly (psub p q), [])) :
    Rets KK cs false c_ref06_Sub [dPoly p, dPoly q] (dPoly (psub p q)) [] := by
  have hw := A.whole (-1) (by decide) (by decide)
  have e : (((-1 : Int) : Int) : Rat) = -1 := by simp
  rw [e] at hw
  refine Rets.of rfl ?_
  unfold c_ref06_Sub
  simp [hw, h1, h2]

/-! ### Products -/

/-- The product, also where a coefficient is 0. -/
def pmul0 : Poly → Poly → Poly → Poly
  | out, [], _ => out
  | out, t :: p, q => pmul0 (padd out (ptimes0 t.c t.m q)) p q

theorem pmul0_append (q : Poly) : ∀ (a b out : Poly), pmul0 out (a ++ b) q = pmul0 (pmul0 out a q) b q
  | [], _, _ => rfl
  | t :: a, b, out => by simp only [List.cons_append, pmul0]; exact pmul0_append q a b _

theorem pmul0_eq {q : Poly} : ∀ {p out : Poly}, Canon p → pmul0 out p q = pmul out p q
  | [], _, _ => rfl
  | t :: p, out, h => by
    show pmul0 (padd out (ptimes0 t.c t.m q)) p q = pmul (padd out (ptimes t.c t.m q)) p q
    rw [pmul0_eq h.2.2, ptimes0, if_neg h.1]
theorem pmul0_length (q : Poly) : ∀ (p out : Poly), (pmul0 out p q).length ≤ out.length + p.length * q.length
  | [], out => by simp [pmul0]
  | t :: p, out => by
    have h1 := pmul0_length q p (padd out (ptimes0 t.c t.m q))
    have h2 := padd_length out (ptimes0 t.c t.m q)
    have h3 := ptimes0_length t.c t.m q
    simp only [pmul0, List.length_cons, Nat.add_mul, Nat.one_mul]
    omega

/-- A slot holds a polynomial: a value, or the empty row that was made at a slot. -/
def Holds0 (s : St) (sl home : Nat) (out : Poly) : Prop :=
  gt s sl = some (dPoly out) ∨ (out = [] ∧ gt s sl = some (.ref home 0 0 0) ∧ lst s home = [⟨0, 12, []⟩])

def IPMul (p q : Poly) (n : Nat) (s : St) : Prop :=
  ∃ i out, n = p.length - i ∧ i ≤ p.length ∧ out = pmul0 [] (p.take i) q ∧ gt s 0 = some (.sl p.length (pcells p)) ∧ gt s 1 = some (.sl q.length (pcells q)) ∧ gt s 7 = some (.i .i64 (i : Nat)) ∧ Holds0 s 6 10 out

set_option maxHeartbeats 1000000 in
theorem ref06_Mul_rets (cs : Sem) (p q : Poly) (hlen : p.length * q.length + q.length ≤ 1000000)
    (htimes : ∀ t ∈ p, cs n_ref06_Times [dRat t.c, dMono t.m, dPoly q] = some (.tup [dPoly (ptimes0 t.c t.m q), .i .i64 0], []))
    (hadd : ∀ a t b, p = a ++ t :: b → cs n_ref06_Add [dPoly (pmul0 [] a q), dPoly (ptimes0 t.c t.m q)] = some (dPoly (padd (pmul0 [] a q) (ptimes0 t.c t.m q)), [])) (hp1 : p.length ≤ 1000000) :
    Rets KK cs false c_ref06_Mul [dPoly p, dPoly q] (.tup [dPoly (pmul0 [] p q), .i .i64 0]) [] := by
  refine Rets.of rfl ?_
  unfold c_ref06_Mul
  simp
  apply W_loop (IPMul p q) p.length
  · exact ⟨0, [], by simp [Holds0, pmul0]⟩
  rintro n s ⟨i, out, hn, hi, hout, h0, h1, h7, h6⟩
  have w1 : IntKind.i64.wrap ((i : Int) + 1) = (i : Int) + 1 := wrap_i64 (by omega) (by omega)
  by_cases hi' : i < p.length
  · obtain ⟨t, p', hq, hq1⟩ := drop_cons hi'
    have ht : t ∈ p := List.mem_of_mem_drop (by rw [hq]; exact List.mem_cons_self ..)
    have k1 := htimes t ht
    have k2 := hadd (p.take i) t p' (by rw [← hq, List.take_append_drop])
    rw [← hout] at k2
    have htk : p.take (i + 1) = p.take i ++ [t] := by rw [List.take_add, hq]; rfl
    have hnew : padd out (ptimes0 t.c t.m q) = pmul0 [] (p.take (i + 1)) q := by rw [htk, pmul0_append, ← hout]; rfl
    rcases h6 with h6 | ⟨rfl, h6, g10⟩
    · simp [l_ref06_Mul_0, h0, h1, h6, h7, hi', hq, k1, k2, w1]
      exact ⟨p.length - (i + 1), by omega, i + 1, padd out (ptimes0 t.c t.m q), rfl, by omega, hnew, by simp [h0, h1, Holds0]⟩
    · simp [dPoly] at k2
      simp [l_ref06_Mul_0, h0, h1, h6, h7, g10, hi', hq, k1, k2, w1]
      exact ⟨p.length - (i + 1), by omega, i + 1, padd [] (ptimes0 t.c t.m q), rfl, by omega, hnew, by simp [h0, h1, Holds0]⟩
  · have e1 : i = p.length := by omega
    rw [e1, List.take_length] at hout
    rcases h6 with h6 | ⟨rfl, h6, g10⟩
    · simp [l_ref06_Mul_0, h0, h6, h7, hi', hout]
    · simp [l_ref06_Mul_0, h0, h6, h7, g10, hi', ← hout]

theorem ref06_By_rets (cs : Sem) (p q : Poly) (h : cs n_ref06_Mul [dPoly p, dPoly q] = some (.tup [dPoly (pmul0 [] p q), .i .i64 0], [])) :
    Rets KK cs false c_ref06_By [dPoly p, dPoly q] (dPoly (pmul0 [] p q)) [] := by
  refine Rets.of rfl ?_
  unfold c_ref06_By
  simp [h]
end Go.Ev

/- Sums of products, equality, and the polynomials that raw numbers describe. -/
namespace Go.Ev
open Go.Pm

theorem part_polys {l : List Poly} {i : Nat} {x : Poly} {r : List Poly} (h : l.drop i = x :: r) : part ((l.map dPoly).drop i) 0 1 false = some (dPoly x) := by
  have : (l.map dPoly).drop i = (x :: r).map dPoly := by rw [← h, List.map_drop]
  rw [this]; rfl

def psum : Poly → List Poly → List Poly → Poly
  | out, q :: qs, l :: ls => psum (padd out (pmul0 [] q l)) qs ls
  | out, _, _ => out

theorem psum_length {B : Nat} : ∀ {qs ls : List Poly} {out : Poly}, (∀ q ∈ qs, ∀ l ∈ ls, (pmul0 [] q l).length ≤ B) → (psum out qs ls).length ≤ out.length + ls.length * B
  | [], ls, out, _ => by simp [psum]
  | q :: qs, [], out, _ => by simp [psum]
  | q :: qs, l :: ls, out, h => by
    have h1 := h q (List.mem_cons_self ..) l (List.mem_cons_self ..)
    have h2 := padd_length out (pmul0 [] q l)
    have h3 := psum_length (qs := qs) (ls := ls) (out := padd out (pmul0 [] q l)) fun a ha b hb => h a (List.mem_cons_of_mem _ ha) b (List.mem_cons_of_mem _ hb)
    simp only [psum, List.length_cons, Nat.add_mul, Nat.one_mul]
    omega

theorem psum_append : ∀ (qa la qb lb : List Poly) (out : Poly), qa.length = la.length → psum out (qa ++ qb) (la ++ lb) = psum (psum out qa la) qb lb
  | [], [], _, _, _, _ => rfl
  | q :: qa, l :: la, qb, lb, out, h => by simp only [List.cons_append, psum]; exact psum_append qa la qb lb _ (by simpa using h)
  | [], _ :: _, _, _, _, h => by simp at h
  | _ :: _, [], _, _, _, h => by simp at h

def ISum (q l : List Poly) (n : Nat) (s : St) : Prop :=
  ∃ i out, n = l.length - i ∧ i ≤ l.length ∧ out = psum [] (q.take i) (l.take i) ∧ gt s 0 = some (.sl q.length (q.map dPoly)) ∧ gt s 1 = some (.sl l.length (l.map dPoly)) ∧ gt s 7 = some (.i .i64 (i : Nat)) ∧ Holds0 s 6 15 out

set_option maxHeartbeats 1000000 in
theorem ref12_Sum_rets (cs : Sem) (q l : List Poly) (hll : l.length ≤ 1000000) (hql : q.length ≤ 1000000)
    (hmul : q.length = l.length → ∀ a ∈ q, ∀ b ∈ l, cs n_ref06_Mul [dPoly a, dPoly b] = some (.tup [dPoly (pmul0 [] a b), .i .i64 0], []))
    (hadd : q.length = l.length → ∀ qa a qb la b lb, q = qa ++ a :: qb → l = la ++ b :: lb → qa.length = la.length → cs n_ref06_Add [dPoly (psum [] qa la), dPoly (pmul0 [] a b)] = some (dPoly (padd (psum [] qa la) (pmul0 [] a b)), [])) :
    Rets KK cs false c_ref12_Sum [dPolys q, dPolys l] (if q.length = l.length then .tup [dPoly (psum [] q l), .i .i64 0] else .tup [dPoly [], .i .i64 1]) [] := by
  refine Rets.of rfl ?_
  unfold c_ref12_Sum
  by_cases hq : q.length = l.length
  · have hmul := hmul hq
    have hadd := hadd hq
    simp [hq]
    apply W_loop (ISum q l) l.length
    · exact ⟨0, [], by simp [Holds0, hq, psum]⟩
    rintro n s ⟨i, out, hn, hi, hout, h0, h1, h7, h6⟩
    have w1 : IntKind.i64.wrap ((i : Int) + 1) = (i : Int) + 1 := wrap_i64 (by omega) (by omega)
    by_cases hi' : i < l.length
    · have hi2 : i < q.length := by omega
      obtain ⟨b, l', hb, hb1⟩ := drop_cons hi'
      obtain ⟨a, q', ha, ha1⟩ := drop_cons hi2
      have k1 := hmul a (List.mem_of_mem_drop (by rw [ha]; exact List.mem_cons_self ..)) b (List.mem_of_mem_drop (by rw [hb]; exact List.mem_cons_self ..))
      have k2 := hadd (q.take i) a q' (l.take i) b l' (by rw [← ha, List.take_append_drop]) (by rw [← hb, List.take_append_drop]) (by rw [List.length_take, List.length_take]; omega)
      rw [← hout] at k2
      have tq : q.take (i + 1) = q.take i ++ [a] := by rw [List.take_add, ha]; rfl
      have tl : l.take (i + 1) = l.take i ++ [b] := by rw [List.take_add, hb]; rfl
      have hnew : padd out (pmul0 [] a b) = psum [] (q.take (i + 1)) (l.take (i + 1)) := by
        rw [tq, tl, psum_append _ _ _ _ _ (by rw [List.length_take, List.length_take]; omega), ← hout]; rfl
      have pa := part_polys ha
      have pb := part_polys hb
      rcases h6 with h6 | ⟨rfl, h6, g10⟩
      · simp [l_ref12_Sum_0, h0, h1, h6, h7, hi', hi2, pa, pb, k1, k2, w1, -List.map_drop]
        exact ⟨l.length - (i + 1), by omega, i + 1, padd out (pmul0 [] a b), rfl, by omega, hnew, by simp [h0, h1, Holds0]⟩
      · simp [dPoly] at k2
        simp [l_ref12_Sum_0, h0, h1, h6, h7, g10, hi', hi2, pa, pb, k1, k2, w1, -List.map_drop]
        exact ⟨l.length - (i + 1), by omega, i + 1, padd [] (pmul0 [] a b), rfl, by omega, hnew, by simp [h0, h1, Holds0]⟩
    · have e1 : i = l.length := by omega
      have hout : out = psum [] q l := by
        rw [hout, e1, List.take_length, ← hq, List.take_length]
      rcases h6 with h6 | ⟨rfl, h6, g10⟩
      · simp [l_ref12_Sum_0, h1, h6, h7, hi', hout]
      · simp [l_ref12_Sum_0, h1, h6, h7, g10, hi', ← hout]
  · have h1 : ((q.length : Int) == (l.length : Int)) = false := by simp; omega
    have h2 : ¬ (q.length : Int) = (l.length : Int) := by omega
    simp [h1, h2, hq, dPoly]

set_option maxHeartbeats 1000000 in
theorem ref12_Is_rets (cs : Sem) (p : Poly) (q l : List Poly) (hs : cs n_ref12_Sum [dPolys q, dPolys l] = some (if q.length = l.length then .tup [dPoly (psum [] q l), .i .i64 0] else .tup [dPoly [], .i .i64 1], []))
    (same : cs n_ref06_Same [dPoly (psum [] q l), dPoly p] = some (.b (decide (psum [] q l = p)), [])) :
    Rets KK cs false c_ref12_Is [dPoly p, dPolys q, dPolys l] (.b (decide (q.length = l.length ∧ psum [] q l = p))) [] := by
  refine Rets.of rfl ?_
  unfold c_ref12_Is
  by_cases hq : q.length = l.length
  · rw [if_pos hq] at hs
    have e : decide (q.length = l.length ∧ psum [] q l = p) = decide (psum [] q l = p) := by simp [hq]
    rw [e]
    simp [hs, same]
  · rw [if_neg hq] at hs
    have e : decide (q.length = l.length ∧ psum [] q l = p) = false := by simp [hq]
    rw [e]
    simp [hs]

set_option maxHeartbeats 1000000 in
theorem ref19_Is_rets (cs : Sem) (q l : List Poly) (his : q.length = l.length → cs n_ref12_Is [dPoly [], dPolys q, dPolys l] = some (.b (decide (q.length = l.length ∧ psum [] q l = [])), [])) :
    Rets KK cs false c_ref19_Is [dPolys q, dPolys l] (.b (decide (q.length = l.length ∧ psum [] q l = []))) [] := by
  refine Rets.of rfl ?_
  unfold c_ref19_Is
  by_cases hq : q.length = l.length
  · have his := his hq
    have h1 : ((q.length : Int) == (l.length : Int)) = true := by simp [hq]
    have h2 : (q.length : Int) = (l.length : Int) := by omega
    rw [show dPoly [] = .sl 0 [] from rfl] at his
    generalize decide (q.length = l.length ∧ psum [] q l = []) = v at *
    simp [h1, his]
  · have h1 : ((q.length : Int) == (l.length : Int)) = false := by simp; omega
    have h2 : ¬ (q.length : Int) = (l.length : Int) := by omega
    simp [h1, h2, hq]
end Go.Ev

/- Polynomials that raw numbers describe. -/
namespace Go.Ev
open Go.Pm

/-- A raw term: the coefficient and four exponents. -/
structure RawT where
  c : Int
  es : List Int
  hl : es.length = 4
  hc : -128 ≤ c ∧ c ≤ 127
  he : ∀ e ∈ es, -128 ≤ e ∧ e ≤ 127

abbrev Raw := List RawT
def rawCells (t : RawT) : List DV := (t.c :: t.es).map (DV.i .i8 ·)
def rawsCells (x : Raw) : List DV := x.flatMap rawCells
abbrev dRaw (x : Raw) : DV := .agg [.sl x.length (rawsCells x)]

theorem rawCells_length (t : RawT) : (rawCells t).length = 5 := by simp [rawCells, t.hl]
theorem rawsCells_drop : ∀ (x : Raw) (i : Nat), (rawsCells x).drop (i * 5) = rawsCells (x.drop i)
  | x, 0 => by simp
  | [], i + 1 => by simp [rawsCells]
  | t :: x, i + 1 => by
    have : rawsCells (t :: x) = rawCells t ++ rawsCells x := rfl
    rw [this, List.drop_succ_cons, ← rawsCells_drop x i, show (i + 1) * 5 = 5 + i * 5 by omega, ← List.drop_drop]
    congr 1
    have := rawCells_length t
    rw [List.drop_append_of_le_length (by omega), List.drop_of_length_le (by omega), List.nil_append]
theorem rawsCells_deep (x : Raw) : areDeep (rawsCells x) = true := by
  induction x with
  | nil => rfl
  | cons t x ih => exact areDeep_append (areDeep_ints _ _) ih

def iabs (e : Int) : Int := if e < 0 then -e else e

def rawExps : List Int → Int → List Int
  | [], _ => []
  | e :: r, left => (iabs e % (left + 1)) :: rawExps r (left - iabs e % (left + 1))

theorem rawExps_length : ∀ (es : List Int) (left : Int), (rawExps es left).length = es.length
  | [], _ => rfl
  | e :: r, left => by simp [rawExps, rawExps_length r]

def ofL (l : List Int) : Mono := ⟨l.getD 0 0, l.getD 1 0, l.getD 2 0, l.getD 3 0, l.getD 4 0, l.getD 5 0, l.getD 6 0, l.getD 7 0⟩
theorem ofL_l {l : List Int} (h : l.length = 8) : (ofL l).l = l := by
  match l, h with
  | [a, b, c, d, e, f, g, i], _ => rfl

def rawMono (n : Nat) (deg : Int) (es : List Int) : Mono := ofL (rawExps (es.take n) deg ++ List.replicate (8 - n) 0)

def madeT (n : Nat) (deg : Int) (t : RawT) : Poly := pscale ((t.c.tmod 4 : Int) : Rat) [⟨1, rawMono n deg t.es⟩]
def made (n : Nat) (deg : Int) : Poly → Raw → Poly
  | out, [] => out
  | out, t :: x => made n deg (padd out (madeT n deg t)) x

theorem made_append (n : Nat) (deg : Int) : ∀ (a b : Raw) (out : Poly), made n deg out (a ++ b) = made n deg (made n deg out a) b
  | [], _, _ => rfl
  | t :: a, b, out => by simp only [List.cons_append, made]; exact made_append n deg a b _

theorem ref06_abs_rets (cs : Sem) (e : Int) (h : -128 ≤ e ∧ e ≤ 127) : Rets KK cs false c_ref06_abs [.i .i8 e] (.i .i64 (iabs e)) [] := by
  have w1 : IntKind.i64.wrap e = e := wrap_i64 (by omega) (by omega)
  have w2 : IntKind.i64.wrap (0 - e) = -e := by rw [wrap_i64 (by omega) (by omega)]; omega
  have w3 : IntKind.i64.wrap (-e) = -e := by rw [wrap_i64 (by omega) (by omega)]
  refine Rets.of rfl ?_
  unfold c_ref06_abs iabs
  by_cases c : e < 0
  · simp [c, w1, w2, w3]
  · simp [c, w1]

/-- What the rounds over the terms keep. -/
def KMade (x : Raw) (N : Nat) (deg : Int) (terms k : Nat) (out : Poly) (s : St) : Prop :=
  gt s 1 = some (.i .i64 (N : Nat)) ∧ gt s 2 = some (.i .i64 deg) ∧ gt s 3 = some (.i .i64 (terms : Nat)) ∧ gt s 4 = some (.ptr 4 0 0) ∧ lst s 4 = [⟨2, 0, [.sl x.length (rawsCells x)]⟩] ∧
  gt s 10 = some (.i .i64 (k : Nat)) ∧ Holds0 s 9 14 out ∧ (∀ e, ¬ (11, e) ∈ s.z)

/-- The rounds over the variables. -/
def IVar (x : Raw) (N : Nat) (deg : Int) (terms k : Nat) (out : Poly) (t : RawT) (n : Nat) (s : St) : Prop :=
  ∃ i d left Ls, n = N - i ∧ i ≤ N ∧ List.length d = i ∧ d ++ rawExps ((t.es.take N).drop i) left = rawExps (t.es.take N) deg ∧ 0 ≤ left ∧ left ≤ deg ∧ gt s 13 = some (.i .i64 (i : Nat)) ∧ gt s 12 = some (.i .i64 left) ∧
    gt s 11 = some (.ptr 11 (List.length Ls) 0) ∧ lst s 11 = ⟨2, 0, (d ++ List.replicate (8 - i) 0).map (DV.i .i64 ·)⟩ :: Ls ∧ KMade x N deg terms k out s

def IMade (x : Raw) (N : Nat) (deg : Int) (terms : Nat) (n : Nat) (s : St) : Prop :=
  ∃ k out, n = x.length - k ∧ k ≤ x.length ∧ k ≤ terms ∧ out = made N deg [] ((x.take terms).take k) ∧ KMade x N deg terms k out s

theorem zeros8 : (List.replicate 8 (0 : Int)).map (DV.i .i64 ·) = [DV.i .i64 0, DV.i .i64 0, DV.i .i64 0, DV.i .i64 0, DV.i .i64 0, DV.i .i64 0, DV.i .i64 0, DV.i .i64 0] := rfl

theorem pscale_length (c : Rat) (p : Poly) : (pscale c p).length ≤ p.length := ptimes0_length ..

set_option maxHeartbeats 2000000 in
theorem ref06_Made_rets (cs : Sem) (x : Raw) (N : Nat) (deg : Int) (terms : Nat) (hN : N ≤ 4) (hd : 0 ≤ deg ∧ deg ≤ 1000) (ht : terms ≤ 1000)
    (habs : ∀ e : Int, -128 ≤ e ∧ e ≤ 127 → cs n_ref06_abs [.i .i8 e] = some (.i .i64 (iabs e), []))
    (hwhole : ∀ n : Int, -100 ≤ n → n ≤ 100 → cs n_ref02_Whole [.i .i64 n] = some (dRat (n : Rat), []))
    (hscale : ∀ (t : RawT), cs n_ref06_Scale [dRat ((t.c.tmod 4 : Int) : Rat), dPoly [⟨1, rawMono N deg t.es⟩]] = some (dPoly (madeT N deg t), []))
    (hadd : ∀ a t b, x.take terms = a ++ t :: b → cs n_ref06_Add [dPoly (made N deg [] a), dPoly (madeT N deg t)] = some (dPoly (padd (made N deg [] a) (madeT N deg t)), [])) :
    Rets KK cs false c_ref06_Made [dRaw x, .i .i64 N, .i .i64 deg, .i .i64 terms] (dPoly (made N deg [] (x.take terms))) [] := by
  refine Rets.of rfl ?_
  unfold c_ref06_Made
  simp
  apply W_loop (IMade x N deg terms) x.length
  · exact ⟨0, [], by simp [KMade, Holds0, made]⟩
  rintro n s ⟨k, out, hn, hk, hkt, hout, h1, h2, h3, h4, g4, h10, h9, hz⟩
  have w1 : IntKind.i64.wrap ((k : Int) + 1) = (k : Int) + 1 := wrap_i64 (by omega) (by omega)
  by_cases hk' : k < x.length
  · by_cases hk2 : k < terms
    · obtain ⟨t, x', hx, hx1⟩ := drop_cons hk'
      simp [l_ref06_Made_1, h1, h2, h3, h4, g4, h10, hk', hk2, hz]
      apply W_loop (IVar x N deg terms k out t) N
      · refine ⟨0, [], deg, lst s 11, ?_⟩
        simp [h1, h2, h3, h4, g4, h10, hz, KMade, hd.1, zeros8, Holds0]
        exact h9
      rintro n2 s2 ⟨i, d, left, Ls, hn2, hi, hdl, hex, hl0, hl1, h13, h12, h11, g11, h1, h2, h3, h4, g4, h10, h9, hz⟩
      by_cases hi' : i < N
      · have c4 : (i : Int) < 4 := by omega
        obtain ⟨e, es', he, he1⟩ := drop_cons (p := t.es.take N) (i := i) (by rw [List.length_take, t.hl]; omega)
        have he4 : e ∈ t.es := List.mem_of_mem_take (List.mem_of_mem_drop (by rw [he]; exact List.mem_cons_self ..))
        have ev := t.he e he4
        have a0 : 0 ≤ iabs e := by unfold iabs; split <;> omega
        have v0 : 0 ≤ iabs e % (left + 1) := Int.emod_nonneg _ (by omega)
        have v1 : iabs e % (left + 1) < left + 1 := Int.emod_lt_of_pos _ (by omega)
        have w2 : IntKind.i64.wrap (1 + (i : Int)) = 1 + (i : Int) := wrap_i64 (by omega) (by omega)
        have w3 : IntKind.i64.wrap ((i : Int) + 1) = (i : Int) + 1 := wrap_i64 (by omega) (by omega)
        have w4 : IntKind.i64.wrap (left + 1) = left + 1 := wrap_i64 (by omega) (by omega)
        have w5 : (iabs e).tmod (left + 1) = iabs e % (left + 1) := Int.tmod_eq_emod_of_nonneg a0
        have w6 : IntKind.i64.wrap (left - iabs e % (left + 1)) = left - iabs e % (left + 1) := wrap_i64 (by omega) (by omega)
        have nz : ¬ left + 1 = 0 := by omega
        have tn : (1 + (i : Int)).toNat = 1 + i := by omega
        have c5 : (0 : Int) ≤ 1 + i := by omega
        have c6 : (1 : Int) + i < 5 := by omega
        have c8 : (i : Int) < 8 := by omega
        have pr : part (List.drop (1 + i) (rawsCells (t :: x'))) 0 1 false = some (.i .i8 e) := by
          have e1 : t.es[i]? = some e := by
            have := congrArg List.head? he
            rw [List.head?_drop, List.getElem?_take] at this
            simpa [hi'] using this
          have e2 : rawsCells (t :: x') = .i .i8 t.c :: (t.es.map (DV.i .i8 ·) ++ rawsCells x') := rfl
          have e3 : i < t.es.length := by rw [t.hl]; omega
          rw [e2, show 1 + i = i + 1 by omega, List.drop_succ_cons, List.drop_append_of_le_length (by simp; omega)]
          rw [← List.map_drop, List.drop_eq_getElem_cons e3]
          rw [List.getElem?_eq_getElem e3] at e1
          simp only [Option.some.injEq] at e1
          rw [List.map_cons, e1]; rfl
        have hk1 := habs e ev
        have hrep : List.replicate (8 - i) (0 : Int) = 0 :: List.replicate (7 - i) 0 := by
          rw [show 8 - i = (7 - i) + 1 by omega]; rfl
        have hdr : (d ++ List.replicate (8 - i) (0 : Int)).drop i = 0 :: List.replicate (7 - i) 0 := by
          rw [← hdl, List.drop_left, hdl, hrep]
        have fz := fill_ints (k := .i64) (v := iabs e % (left + 1)) hdr
        have htk : (d ++ List.replicate (8 - i) (0 : Int)).take i = d := by rw [← hdl, List.take_left]
        rw [htk] at fz
        have pz : part ((d ++ iabs e % (left + 1) :: List.replicate (7 - i) (0 : Int)).map (DV.i .i64 ·)) i 1 false = some (.i .i64 (iabs e % (left + 1))) :=
          part_ints (r := List.replicate (7 - i) 0) (by rw [← hdl, List.drop_left])
        simp [l_ref06_Made_0, h1, h2, h3, h4, g4, h10, h11, h12, h13, g11, hi', c4, hk', w2, w3, w4, w5, w6, nz, tn, c5, c6, c8, rawsCells_drop, hx, pr, hk1, fz, pz, hz, -List.drop_drop, -List.map_append, -List.map_cons]
        refine ⟨N - (i + 1), by omega, i + 1, d ++ [iabs e % (left + 1)], left - iabs e % (left + 1), Ls, rfl, by omega, by simp [hdl], ?_, by omega, by omega, ?_⟩
        · rw [he1, ← hex, he]; simp [rawExps]
        · simp [h1, h2, h3, h4, g4, h10, h11, hz, KMade, Holds0]
          exact h9
      · have e1 : i = N := by omega
        have c4 : ¬ (i : Int) < N := by omega
        have hm : d = rawExps (t.es.take N) deg := by
          rw [← hex, e1, List.drop_of_length_le (by rw [List.length_take]; omega)]; simp [rawExps]
        have g11' : lst s2 11 = ⟨2, 0, mcells (rawMono N deg t.es)⟩ :: Ls := by
          rw [g11]
          congr 2
          refine z_mcells ?_
          unfold rawMono
          rw [ofL_l, hm, e1]
          rw [List.length_append, rawExps_length, List.length_take, List.length_replicate, t.hl]; omega
        have cr : -3 ≤ t.c.tmod 4 ∧ t.c.tmod 4 ≤ 3 := by
          have := Int.tmod_lt_of_pos t.c (b := 4) (by omega)
          have := Int.lt_tmod_of_pos t.c (b := 4) (by omega)
          omega
        have w2 : IntKind.i64.wrap (t.c.tmod 4) = t.c.tmod 4 := wrap_i64 (by omega) (by omega)
        have hw1 := hwhole (t.c.tmod 4) (by omega) (by omega)
        have hw2 := hwhole 1 (by decide) (by decide)
        rw [show (((1 : Int) : Int) : Rat) = 1 from rfl] at hw2
        have hs := hscale t
        have hsplit : (x.take terms).drop k = t :: (x.take terms).drop (k + 1) := by
          rw [List.drop_take, hx, List.drop_take, hx1, show terms - k = (terms - (k + 1)) + 1 by omega, List.take_succ_cons]
        have ha := hadd ((x.take terms).take k) t ((x.take terms).drop (k + 1)) (by rw [← hsplit, List.take_append_drop])
        rw [← hout] at ha
        have pr : part (rawsCells (t :: x')) 0 1 false = some (.i .i8 t.c) := rfl
        have hstep : padd out (madeT N deg t) = made N deg [] ((x.take terms).take (k + 1)) := by
          have : (x.take terms).take (k + 1) = (x.take terms).take k ++ [t] := by rw [List.take_add, hsplit]; rfl
          rw [this, made_append, ← hout]; rfl
        rw [show dPoly [⟨1, rawMono N deg t.es⟩] = .sl 1 (tcells ⟨1, rawMono N deg t.es⟩) from rfl] at hs
        rcases h9 with h9 | ⟨rfl, h9, g14⟩
        · simp [l_ref06_Made_0, h1, h2, h3, h4, g4, h10, h11, h12, h13, g11', h9, hk', hi', c4, w1, w2, rawsCells_drop, hx, pr, hw1, hw2, hs] at ha ⊢
          simp [ha, w1, h10]
          refine ⟨x.length - (k + 1), by omega, k + 1, _, rfl, by omega, by omega, hstep, ?_⟩
          simp [h1, h2, h3, h4, g4, hz, KMade, Holds0]
        · simp [dPoly] at ha
          simp [l_ref06_Made_0, h1, h2, h3, h4, g4, h10, h11, h12, h13, g11', h9, g14, hk', hi', c4, w1, w2, rawsCells_drop, hx, pr, hw1, hw2, hs] at ha ⊢
          simp [ha, w1, h10]
          refine ⟨x.length - (k + 1), by omega, k + 1, _, rfl, by omega, by omega, hstep, ?_⟩
          simp [h1, h2, h3, h4, g4, hz, KMade, Holds0]
    · have e1 : x.take terms = (x.take terms).take k := by rw [List.take_take]; congr 1; omega
      have hout : out = made N deg [] (x.take terms) := by
        rw [hout, ← e1]
      rcases h9 with h9 | ⟨rfl, h9, g14⟩
      · simp [l_ref06_Made_1, h1, h2, h3, h4, g4, h10, h9, hk', hk2, hout]
      · simp [l_ref06_Made_1, h1, h2, h3, h4, g4, h10, h9, g14, hk', hk2, ← hout]
  · have hout : out = made N deg [] (x.take terms) := by
      rw [hout, List.take_of_length_le (l := x.take terms) (by rw [List.length_take]; omega)]
    rcases h9 with h9 | ⟨rfl, h9, g14⟩
    · simp [l_ref06_Made_1, h1, h2, h3, h4, g4, h10, h9, hk', hout]
    · simp [l_ref06_Made_1, h1, h2, h3, h4, g4, h10, h9, g14, hk', ← hout]
end Go.Ev

/- Lists of polynomials that raw numbers describe; equality. -/
namespace Go.Ev
open Go.Pm

def rawSl (x : Raw) : DV := .sl x.length (rawsCells x)
abbrev dRaws (l : List Raw) : DV := .sl l.length (l.map rawSl)

theorem part_raws {l : List Raw} {i : Nat} {x : Raw} {r : List Raw} (h : l.drop i = x :: r) : part ((l.map rawSl).drop i) 0 1 true = some (dRaw x) := by
  have : (l.map rawSl).drop i = (x :: r).map rawSl := by rw [← h, List.map_drop]
  rw [this]; rfl

theorem rawSl_deep (l : List Raw) : areDeep (l.map rawSl) = true := by
  induction l with
  | nil => rfl
  | cons x l ih => simp only [List.map_cons, areDeep, ih, Bool.and_true]; simp only [rawSl, isDeep]; exact rawsCells_deep x

theorem polys_all_cell (l : List Poly) : (l.map dPoly).all isCell = true := by
  induction l with
  | nil => rfl
  | cons p l ih => rw [List.map_cons, List.all_cons, ih]; rfl

def IList (l : List Raw) (N terms most : Nat) (deg : Int) (n : Nat) (s : St) : Prop :=
  ∃ i dead, n = l.length - i ∧ i ≤ l.length ∧ i ≤ most ∧ gt s 0 = some (dRaws l) ∧ gt s 1 = some (.i .i64 (N : Nat)) ∧ gt s 2 = some (.i .i64 deg) ∧ gt s 3 = some (.i .i64 (terms : Nat)) ∧ gt s 4 = some (.i .i64 (most : Nat)) ∧ gt s 12 = some (.i .i64 (i : Nat)) ∧
    gt s 11 = some (.ref 13 (List.length dead) 0 i) ∧ lst s 13 = ⟨0, 1, ((l.take i).map fun x => made N deg [] (x.take terms)).map dPoly⟩ :: dead

set_option maxHeartbeats 2000000 in
theorem ref06_List_rets (cs : Sem) (l : List Raw) (N : Nat) (deg : Int) (terms most : Nat) (hl : most ≤ 1000)
    (hmade : ∀ x, cs n_ref06_Made [dRaw x, .i .i64 N, .i .i64 deg, .i .i64 terms] = some (dPoly (made N deg [] (x.take terms)), [])) :
    Rets KK cs false c_ref06_List [dRaws l, .i .i64 N, .i .i64 deg, .i .i64 terms, .i .i64 most] (dPolys ((l.take most).map fun x => made N deg [] (x.take terms))) [] := by
  refine Rets.of rfl ?_
  unfold c_ref06_List
  simp
  apply W_loop (IList l N terms most deg) l.length
  · exact ⟨0, [], by simp⟩
  rintro n s ⟨i, dead, hn, hi, him, h0, h1, h2, h3, h4, h12, h11, g13⟩
  have w1 : IntKind.i64.wrap ((i : Int) + 1) = (i : Int) + 1 := wrap_i64 (by omega) (by omega)
  have hb : ¬ 274877906943 < i := by omega
  by_cases hi' : i < l.length
  · have hll : min i l.length = i := by omega
    have hll2 : min (i + 1) l.length = i + 1 := by omega
    by_cases hi2 : i < most
    · obtain ⟨x, l', hx, hx1⟩ := drop_cons hi'
      have px := part_raws hx
      have k := hmade x
      have htk : l.take (i + 1) = l.take i ++ [x] := by rw [List.take_add, hx]; rfl
      simp [l_ref06_List_0, rawsCells_deep, h0, h1, h2, h3, h4, h12, h11, g13, hi', hi2, hll, px, k, w1, hb, -List.map_take, -List.map_drop]
      refine ⟨l.length - (i + 1), by omega, i + 1, ⟨3, 1, ((l.take i).map fun x => made N deg [] (x.take terms)).map dPoly⟩ :: dead, rfl, by omega, by omega, ?_⟩
      rw [htk]
      simp [h0, h1, h2, h3, h4, -List.map_take, -List.map_drop]
    · have e : i = most := by omega
      simp [l_ref06_List_0, rawsCells_deep, h0, h4, h12, h11, g13, hi', hi2, hll, -List.map_take, -List.map_drop]
      rw [e, Nat.min_eq_left (by omega)]
      simp
      rw [List.take_of_length_le (by simp; omega)]
  · have e : i = l.length := by omega
    have e2 : l.take i = l := by rw [e, List.take_length]
    have e3 : l.take most = l := by rw [List.take_of_length_le (by omega)]
    rw [e2] at g13
    simp [l_ref06_List_0, rawsCells_deep, h0, h4, h12, h11, g13, hi', e3, -List.map_take, -List.map_drop]
    rw [e]
    simp
    omega

theorem ref13_Polys_rets (cs : Sem) (l : List Raw) (o : Int) (h : cs n_ref06_List [dRaws l, .i .i64 2, .i .i64 2, .i .i64 3, .i .i64 3] = some (dPolys ((l.take 3).map fun x => made 2 2 [] (x.take 3)), [])) :
    Rets KK cs false c_ref13_Polys [.agg [dRaws l, .i .u8 o]] (dPolys ((l.take 3).map fun x => made 2 2 [] (x.take 3))) [] := by
  refine Rets.of rfl ?_
  unfold c_ref13_Polys
  simp [h, -List.map_take]

theorem law19_poly_rets (cs : Sem) (x : Raw) (h : cs n_ref06_Made [dRaw x, .i .i64 2, .i .i64 1, .i .i64 2] = some (dPoly (made 2 1 [] (x.take 2)), [])) :
    Rets KK cs false c_law19_poly [dRaw x] (dPoly (made 2 1 [] (x.take 2))) [] := by
  refine Rets.of rfl ?_
  unfold c_law19_poly
  simp [h, rawsCells_deep]

/-! ### Equality -/

theorem eqCells_ints (k : IntKind) : ∀ (x y : List Int), x.length = y.length → eqCells (x.map (DV.i k ·)) (y.map (DV.i k ·)) = some (decide (x = y))
  | [], [], _ => by simp [eqCells]
  | a :: x, b :: y, h => by
    simp only [List.map_cons, eqCells, if_true, eqCells_ints k x y (by simpa using h)]
    by_cases c : a = b
    · subst c; simp
    · simp [c]
  | [], _ :: _, h => by simp at h
  | _ :: _, [], h => by simp at h

theorem eqCells_mono (a b : Mono) : eqCells (mcells a) (mcells b) = some (decide (a = b)) := by
  unfold mcells
  rw [eqCells_ints .i64 a.l b.l rfl]
  congr 1
  by_cases h : a = b
  · simp [h]
  · have : ¬ a.l = b.l := fun e => h (Mono.ext_l e)
    simp [h, this]

theorem tm_eq_iff (s t : Tm) : s = t ↔ s.m = t.m ∧ s.c = t.c := by cases s; cases t; simp [and_comm]

theorem part_tcells_m (t : Tm) : part (tcells t) 4 8 true = some (dMono t.m) := (rfl)

set_option maxHeartbeats 2000000 in
theorem ref06_SameTerm_rets (cs : Sem) (hsame : ∀ a b, cs n_ref02_Same [dRat a, dRat b] = some (.b (decide (a = b)), [])) (s t : Tm) :
    Rets KK cs false c_ref06_SameTerm [dTm s, dTm t] (.b (decide (s = t))) [] := by
  refine Rets.of rfl ?_
  unfold c_ref06_SameTerm
  have pc : ∀ t : Tm, part (tcells t) 0 4 true = some (dRat t.c) := fun t => rfl
  have e : decide (s = t) = (decide (s.m = t.m) && decide (s.c = t.c)) := by
    rw [← Bool.decide_and]; exact decide_eq_decide.2 (tm_eq_iff s t)
  rw [e]
  by_cases h : s.m = t.m
  · simp [hsame, eqCells_mono, pc, h]
  · simp [hsame, eqCells_mono, pc, h]

def ISame (p q : Poly) (n : Nat) (s : St) : Prop :=
  ∃ i, n = p.length - i ∧ i ≤ p.length ∧ (p.drop i = q.drop i ↔ p = q) ∧ gt s 0 = some (dPoly p) ∧ gt s 1 = some (dPoly q) ∧ gt s 5 = some (.i .i64 (i : Nat))

set_option maxHeartbeats 2000000 in
theorem ref06_Same_rets (cs : Sem) (hsame : ∀ a b, cs n_ref06_SameTerm [dTm a, dTm b] = some (.b (decide (a = b)), [])) (p q : Poly) (hlen : p.length ≤ 1000000) :
    Rets KK cs false c_ref06_Same [dPoly p, dPoly q] (.b (decide (p = q))) [] := by
  refine Rets.of rfl ?_
  unfold c_ref06_Same
  by_cases hl : p.length = q.length
  · have b1 : ((p.length : Int) == (q.length : Int)) = true := by simp [hl]
    have b2 : (p.length : Int) = (q.length : Int) := by omega
    simp [b1, b2]
    apply W_loop (ISame p q) p.length
    · exact ⟨0, by simp⟩
    rintro n s ⟨i, hn, hi, hpq, h0, h1, h5⟩
    have w1 : IntKind.i64.wrap ((i : Int) + 1) = (i : Int) + 1 := wrap_i64 (by omega) (by omega)
    by_cases hi' : i < p.length
    · have hi2 : i < q.length := by omega
      obtain ⟨a, p', ha, ha1⟩ := drop_cons hi'
      obtain ⟨b, q', hb, hb1⟩ := drop_cons hi2
      by_cases c : a = b
      · subst c
        simp [l_ref06_Same_0, h0, h1, h5, hi', hi2, ha, hb, hsame, w1]
        refine ⟨p.length - (i + 1), by omega, i + 1, rfl, by omega, ?_, by simp [h0, h1]⟩
        rw [← hpq, ha, hb, ha1, hb1]; simp
      · have hne : ¬ p = q := fun e => by
          have := hpq.2 e
          rw [ha, hb] at this; simp at this; exact c this.1
        simp [l_ref06_Same_0, h0, h1, h5, hi', hi2, ha, hb, hsame, c, hne]
    · have e : i = p.length := by omega
      have : p = q := hpq.1 (by rw [e, List.drop_length, hl, List.drop_length])
      subst this
      simp [l_ref06_Same_0, h0, h5, hi']
  · have b1 : ((p.length : Int) == (q.length : Int)) = false := by simp; omega
    have b2 : ¬ (p.length : Int) = (q.length : Int) := by omega
    have hne : ¬ p = q := fun e => hl (by rw [e])
    simp [b1, b2, hne]
end Go.Ev

/- Sums and differences of the program. -/
namespace Go.Ev
open Go.Pm

def gmap (g : Rat → Rat) (q : Poly) : Poly := q.map fun t => ⟨g t.c, t.m⟩

def pmerge (f : Rat → Rat → Rat) (g : Rat → Rat) : Poly → Poly → Poly
  | [], q => gmap g q
  | p, [] => p
  | s :: p, t :: q =>
    if 0 < Mono.cmp s.m t.m then s :: pmerge f g p (t :: q)
    else if Mono.cmp s.m t.m < 0 then ⟨g t.c, t.m⟩ :: pmerge f g (s :: p) q
    else if f s.c t.c = 0 then pmerge f g p q else ⟨f s.c t.c, s.m⟩ :: pmerge f g p q
termination_by p q => p.length + q.length

section
variable {f : Rat → Rat → Rat} {g : Rat → Rat}
theorem pmerge_gt {s t : Tm} {p q : Poly} (h : 0 < Mono.cmp s.m t.m) : pmerge f g (s :: p) (t :: q) = s :: pmerge f g p (t :: q) := by rw [pmerge, if_pos h]
theorem pmerge_lt {s t : Tm} {p q : Poly} (h : Mono.cmp s.m t.m < 0) : pmerge f g (s :: p) (t :: q) = ⟨g t.c, t.m⟩ :: pmerge f g (s :: p) q := by rw [pmerge, if_neg (by omega), if_pos h]
theorem pmerge_eq {s t : Tm} {p q : Poly} (h : Mono.cmp s.m t.m = 0) : pmerge f g (s :: p) (t :: q) = if f s.c t.c = 0 then pmerge f g p q else ⟨f s.c t.c, s.m⟩ :: pmerge f g p q := by rw [pmerge, if_neg (by omega), if_neg (by omega)]
theorem pmerge_nil (q : Poly) : pmerge f g [] q = gmap g q := by rw [pmerge]
theorem pmerge_nil_right (p : Poly) : pmerge f g p [] = p := by cases p <;> simp [pmerge, gmap]

theorem pmerge_padd (hf : ∀ a b, f a b = a + g b) : ∀ (p q : Poly), pmerge f g p q = padd p (gmap g q)
  | [], q => by rw [pmerge_nil, padd_nil]
  | s :: p, [] => by rw [pmerge_nil_right]; simp [gmap, padd_nil_right]
  | s :: p, t :: q => by
    have e : gmap g (t :: q) = ⟨g t.c, t.m⟩ :: gmap g q := rfl
    by_cases c1 : 0 < Mono.cmp s.m t.m
    · rw [pmerge_gt c1, e, padd_gt (by exact c1), pmerge_padd hf p (t :: q), e]
    · by_cases c2 : Mono.cmp s.m t.m < 0
      · rw [pmerge_lt c2, e, padd_lt (by exact c2), pmerge_padd hf (s :: p) q]
      · rw [pmerge_eq (by omega), e, padd_eq (by show Mono.cmp s.m t.m = 0; omega), pmerge_padd hf p q, hf]
termination_by p q => p.length + q.length
end

theorem gmap_id (q : Poly) : gmap (fun b => b) q = q := by
  unfold gmap
  exact List.map_id'' (fun t => rfl) q

theorem one_le (n : Nat) : (1 : Int) ≤ (n : Int) + 1 := by omega
attribute [simp] one_le

theorem drop_tcells (t : Tm) (r : List DV) : List.drop 12 (tcells t ++ r) = r := by
  rw [List.drop_append_of_le_length (by simp), List.drop_of_length_le (by simp), List.nil_append]

/-- A row of terms that grows. -/
def RowAt (s : St) (sl home : Nat) (out : Poly) (dead : List Ob) : Prop := gt s sl = some (.ref home (List.length dead) 0 out.length) ∧ lst s home = ⟨0, 12, pcells out⟩ :: dead

def IMerge (f : Rat → Rat → Rat) (g : Rat → Rat) (nb no : Nat) (p0 q0 : Poly) (n : Nat) (s : St) : Prop :=
  ∃ p q out dead, n = List.length p + List.length q ∧ out ++ pmerge f g p q = pmerge f g p0 q0 ∧ List.length out + List.length p + List.length q ≤ p0.length + q0.length ∧ (∀ x ∈ p, x ∈ p0) ∧ (∀ x ∈ q, x ∈ q0) ∧ gt s 0 = some (dPoly p) ∧ gt s 1 = some (dPoly q) ∧
    gt s 2 = some (.fn nb []) ∧ gt s 3 = some (.fn no []) ∧ RowAt s 9 19 out dead ∧ s.z = []

def IMerge2 (g : Rat → Rat) (no : Nat) (q : Poly) (res : Poly) (m : Nat) (n : Nat) (s : St) : Prop :=
  ∃ i out dead, n = q.length - i ∧ i ≤ q.length ∧ out ++ gmap g (q.drop i) = res ∧ List.length out + (q.length - i) ≤ m ∧ gt s 96 = some (dPoly q) ∧ gt s 97 = some (.i .i64 (q.length : Nat)) ∧ gt s 98 = some (.i .i64 (i : Nat)) ∧
    gt s 3 = some (.fn no []) ∧ RowAt s 9 19 out dead ∧ s.z = []

theorem deepen_fn (s : St) (f : Nat) : deepen s (.fn f []) = some (.fn f [], []) := deepen_fn0 f

set_option maxHeartbeats 4000000 in
theorem polynomial_merge_rets (cs : Sem) (f : Rat → Rat → Rat) (g : Rat → Rat) (nb no : Nat) (hKb : KK.fc nb = ⟨[], false⟩) (hKo : KK.fc no = ⟨[], false⟩)
    (hcmp : ∀ a b, cs n_monomial_Cmp [dMono a, dMono b] = some (.i .i64 (Mono.cmp a b), [])) (hsign : ∀ a, cs n_rational_Sign [dRat a] = some (.i .i64 (sgn a), []))
    (p0 q0 : Poly) (hb : ∀ s ∈ p0, ∀ t ∈ q0, cs nb [dRat s.c, dRat t.c] = some (dRat (f s.c t.c), [])) (ho : ∀ t ∈ q0, cs no [dRat t.c] = some (dRat (g t.c), [])) (hlen : p0.length + q0.length ≤ 1000000) :
    Rets KK cs false c_polynomial_merge [dPoly p0, dPoly q0, .fn nb [], .fn no []] (dPoly (pmerge f g p0 q0)) [] := by
  refine Rets.of rfl ?_
  unfold c_polynomial_merge
  have w0 : IntKind.i64.wrap ((p0.length : Int) + (q0.length : Int)) = (p0.length : Int) + (q0.length : Int) := wrap_i64 (by omega) (by omega)
  have c0 : (0 : Int) ≤ (p0.length : Int) + (q0.length : Int) := by omega
  have c1 : ((p0.length : Int) + (q0.length : Int)).toNat ≤ 274877906944 := by omega
  simp [w0, c0, c1]
  apply W_loop (IMerge f g nb no p0 q0) (p0.length + q0.length)
  · exact ⟨p0, q0, [], [], by simp [RowAt]⟩
  rintro n s ⟨p, q, out, dead, hn, hout, hol, sp, sq, h0, h1, h2, h3, ⟨h9, g9⟩, hz⟩
  have hbd : ¬ 274877906943 < out.length := by omega
  have hbd4 : ¬ 274877906944 < out.length := by omega
  cases p with
  | nil =>
    rw [pmerge_nil] at hout
    simp [l_polynomial_merge_0, h0, h1, h9, g9, dPoly, hbd4]
    apply W_loop (IMerge2 g no q (pmerge f g p0 q0) (p0.length + q0.length)) q.length
    · refine ⟨0, out, dead, by simp, by simp, by simpa using hout, by simp at hol; omega, ?_⟩
      simp [h3, hz, RowAt, h9, g9]
    rintro n s ⟨i, out, dead, hn, hi, hout, hol, h96, h97, h98, h3, ⟨h9, g9⟩, hz⟩
    have hbd : ¬ 274877906943 < out.length := by omega
    have w1 : IntKind.i64.wrap ((i : Int) + 1) = (i : Int) + 1 := wrap_i64 (by omega) (by omega)
    by_cases hi' : i < q.length
    · obtain ⟨t, q', hq, hq1⟩ := drop_cons hi'
      have ho := ho t (sq t (List.mem_of_mem_drop (by rw [hq]; exact List.mem_cons_self ..)))
      simp [l_polynomial_merge_1, h96, h97, h98, h3, h9, g9, hz, hi', hq, hKo, ho, hbd, w1]
      refine ⟨q.length - (i + 1), by omega, i + 1, out ++ [⟨g t.c, t.m⟩], ⟨3, 12, pcells out⟩ :: dead, rfl, by omega, ?_, by simp; omega, ?_⟩
      · rw [hq1, ← hout, hq]; simp [gmap]
      · simp [h96, h97, h3, hz, RowAt]
    · have e : i = q.length := by omega
      rw [e, List.drop_length] at hout
      simp [gmap] at hout
      simp [l_polynomial_merge_1, h96, h97, h98, h9, g9, hi', hout]
  | cons t p =>
    cases q with
    | nil =>
      rw [pmerge_nil_right] at hout
      have hbd2 : ¬ 274877906944 < out.length + (p.length + 1) := by simp at hol; omega
      have hlp : ¬ 12 + p.length * 12 < (p.length + 1) * 12 := by omega
      have htk : List.take ((p.length + 1) * 12) (tcells t ++ pcells p) = tcells t ++ pcells p := by
        rw [List.take_of_length_le]; rw [List.length_append, pcells_length, tcells_length]; omega
      have hlt : (pcells out).length + (12 + p.length * 12) = (out.length + (p.length + 1)) * 12 := by rw [pcells_length]; omega
      have res : (pcells (pmerge f g p0 q0)) = pcells out ++ (tcells t ++ pcells p) := by rw [← hout]; simp
      have res2 : (pmerge f g p0 q0).length = out.length + (p.length + 1) := by rw [← hout]; simp
      have htk2 : List.take ((out.length + (p.length + 1)) * 12) (pcells out ++ (tcells t ++ pcells p)) = pcells out ++ (tcells t ++ pcells p) := by
        rw [← res, ← res2]; exact take_pcells _
      simp [l_polynomial_merge_0, h0, h1, h9, g9, dPoly, hbd, hbd2, hlp, htk]
      rw [W_unroll]
      simp [l_polynomial_merge_1, res, res2, htk2]
    | cons u q =>
      have hb := hb t (sp t (List.mem_cons_self ..)) u (sq u (List.mem_cons_self ..))
      have ho := ho u (sq u (List.mem_cons_self ..))
      have sp' : ∀ x ∈ p, x ∈ p0 := fun x hx => sp x (List.mem_cons_of_mem _ hx)
      have sq' : ∀ x ∈ q, x ∈ q0 := fun x hx => sq x (List.mem_cons_of_mem _ hx)
      by_cases d1 : 0 < Mono.cmp t.m u.m
      · rw [pmerge_gt d1] at hout
        simp [l_polynomial_merge_0, h0, h1, h2, h3, h9, g9, hcmp, d1, dPoly, hbd, drop_tcells]
        refine ⟨p.length + (u :: q).length, by simp at hn ⊢; omega, p, u :: q, out ++ [t], ⟨3, 12, pcells out⟩ :: dead, rfl, by simpa using hout, by simp at hol ⊢; omega, sp', sq, ?_⟩
        simp [h1, h2, h3, hz, RowAt, dPoly]
      · by_cases d2 : Mono.cmp t.m u.m < 0
        · rw [pmerge_lt d2] at hout
          simp [l_polynomial_merge_0, h0, h1, h2, h3, h9, g9, hcmp, hKo, ho, d1, d2, dPoly, hbd, drop_tcells]
          refine ⟨(t :: p).length + q.length, by simp at hn ⊢; omega, t :: p, q, out ++ [⟨g u.c, u.m⟩], ⟨3, 12, pcells out⟩ :: dead, rfl, by simpa using hout, by simp at hol ⊢; omega, sp, sq', ?_⟩
          simp [h0, h2, h3, hz, RowAt, dPoly]
        · rw [pmerge_eq (by omega)] at hout
          by_cases d3 : f t.c u.c = 0
          · rw [if_pos d3] at hout
            simp [l_polynomial_merge_0, h0, h1, h2, h3, h9, g9, hz, hcmp, hKb, hb, hsign, sgn_zero, d1, d2, d3, dPoly, hbd, drop_tcells]
            refine ⟨p.length + q.length, by simp at hn ⊢; omega, p, q, out, dead, rfl, hout, by simp at hol ⊢; omega, sp', sq', ?_⟩
            simp [h2, h3, h9, g9, hz, RowAt, dPoly]
          · rw [if_neg d3] at hout
            have d4 := sgn_beq d3
            simp [l_polynomial_merge_0, h0, h1, h2, h3, h9, g9, hz, hcmp, hKb, hb, hsign, sgn_zero, d1, d2, d3, d4, dPoly, hbd, drop_tcells]
            refine ⟨p.length + q.length, by simp at hn ⊢; omega, p, q, out ++ [⟨f t.c u.c, t.m⟩], ⟨3, 12, pcells out⟩ :: dead, rfl, by simpa using hout, by simp at hol ⊢; omega, sp', sq', ?_⟩
            simp [h2, h3, hz, RowAt, dPoly]
end Go.Ev

/- Sums, products and sums of products of the program. -/
namespace Go.Ev
open Go.Pm

theorem polynomial_Add_1_rets (cs : Sem) (c : Rat) : Rets KK cs false c_polynomial_Add_1 [dRat c] (dRat c) [] := by
  refine Rets.of rfl ?_
  unfold c_polynomial_Add_1
  simp

theorem padd_merge (p q : Poly) : pmerge (fun a b => a + b) (fun b => b) p q = padd p q := by
  rw [pmerge_padd (fun a b => rfl), gmap_id]

theorem polynomial_Add_rets (cs : Sem) (p q : Poly) (h : cs n_polynomial_merge [dPoly p, dPoly q, .fn n_rational_Add [], .fn n_polynomial_Add_1 []] = some (dPoly (padd p q), [])) :
    Rets KK cs false c_polynomial_Add [dPoly p, dPoly q] (dPoly (padd p q)) [] := by
  refine Rets.of rfl ?_
  unfold c_polynomial_Add
  simp [h]

/-! ### The map of a product -/

abbrev Ent := List (Mono × Rat)
def dEnt (e : Mono × Rat) : DV := .tup [dMono e.1, dRat e.2]

def madd : Ent → Mono → Rat → Ent
  | [], m, c => [(m, c)]
  | (k, v) :: r, m, c => if k = m then (k, v + c) :: r else (k, v) :: madd r m c

theorem ent_deep (es : Ent) : areDeep (es.map dEnt) = true := by
  induction es with
  | nil => rfl
  | cons e es ih => simp [dEnt, areDeep_cons, ih]

theorem mapFind_cases (m : Mono) : ∀ (es : Ent) (i : Nat),
    (mapFind (mcells m) (es.map dEnt) i = some none ∧ ∀ c, madd es m c = es ++ [(m, c)]) ∨
    ∃ a v b, es = a ++ (m, v) :: b ∧ mapFind (mcells m) (es.map dEnt) i = some (some (i + a.length, dRat v)) ∧ ∀ c, madd es m c = a ++ (m, v + c) :: b
  | [], i => .inl ⟨rfl, fun c => rfl⟩
  | (k, v) :: r, i => by
    have e : mapFind (mcells m) (((k, v) :: r).map dEnt) i = if k = m then some (some (i, dRat v)) else mapFind (mcells m) (r.map dEnt) (i + 1) := by
      simp only [List.map_cons, dEnt, mapFind, eqCells_mono]
      by_cases h : k = m
      · simp [h]
      · have h' : ¬ m = k := fun x => h x.symm
        simp [h, h']
    rw [e]
    by_cases h : k = m
    · subst h
      exact .inr ⟨[], v, r, rfl, by simp, fun c => by simp [madd]⟩
    · rw [if_neg h]
      rcases mapFind_cases m r (i + 1) with ⟨h1, h2⟩ | ⟨a, w, b, h1, h2, h3⟩
      · exact .inl ⟨h1, fun c => by simp [madd, h, h2]⟩
      · refine .inr ⟨(k, v) :: a, w, b, by simp [h1], ?_, fun c => by simp [madd, h, h3]⟩
        rw [h2]; simp; omega

theorem eqCells_self (m : Mono) : eqCells (mcells m) (mcells m) = some true := by rw [eqCells_mono]; simp

set_option maxHeartbeats 2000000 in
theorem polynomial_sum_add_rets (cs : Sem) (es : Ent) (c : Rat) (m : Mono) (hadd : ∀ v, (m, v) ∈ es → cs n_rational_Add [dRat v, dRat c] = some (dRat (v + c), [])) :
    Rets KK cs false c_polynomial_sum_add [.own 1 0 (es.map dEnt) 0 0, dRat c, dMono m] (.tup []) [(madd es m c).map dEnt] := by
  refine Rets.of rfl ?_
  unfold c_polynomial_sum_add
  rcases mapFind_cases m es 0 with ⟨h1, h2⟩ | ⟨a, v, b, h0, h1, h2⟩
  · simp [h1, eqCells_self, newOb, app_some]
    rw [h2]; simp [dEnt]
  · have hset : (es.map dEnt).set a.length (.tup [dMono m, dRat (v + c)]) = (madd es m c).map dEnt := by
      rw [h2, h0]; simp [dEnt]
    rw [Nat.zero_add] at h1
    have hadd := hadd v (by rw [h0]; simp)
    simp [h1, eqCells_self, newOb, app_some, hadd, hset]

/-! ### Products -/

def maddp (t : Tm) : Ent → Poly → Ent
  | es, [] => es
  | es, u :: q => maddp t (madd es (t.m.add u.m) (t.c * u.c)) q

def mall : Ent → Poly → Poly → Ent
  | es, [], _ => es
  | es, t :: p, q => mall (maddp t es q) p q

theorem maddp_append (t : Tm) : ∀ (a b : Poly) (es : Ent), maddp t es (a ++ b) = maddp t (maddp t es a) b
  | [], _, _ => rfl
  | u :: a, b, es => by simp only [List.cons_append, maddp]; exact maddp_append t a b _
theorem mall_append (q : Poly) : ∀ (a b : Poly) (es : Ent), mall es (a ++ b) q = mall (mall es a q) b q
  | [], _, _ => rfl
  | t :: a, b, es => by simp only [List.cons_append, mall]; exact mall_append q a b _

def IMul2 (q : Poly) (t : Tm) (es0 : Ent) (p : Poly) (i n : Nat) (s : St) : Prop :=
  ∃ k es d8, n = q.length - k ∧ k ≤ q.length ∧ es = maddp t es0 (q.take k) ∧ gt s 20 = some (dPoly q) ∧ gt s 21 = some (.i .i64 (q.length : Nat)) ∧ gt s 22 = some (.i .i64 (k : Nat)) ∧
    gt s 14 = some (dPoly p) ∧ gt s 15 = some (.i .i64 (p.length : Nat)) ∧ gt s 16 = some (.i .i64 (i : Nat)) ∧ gt s 1 = some (dPoly q) ∧ gt s 6 = some (.mref 13 0) ∧ lst s 13 = [⟨1, 0, es.map dEnt⟩] ∧
    gt s 8 = some (.ptr 8 (List.length d8) 0) ∧ lst s 8 = ⟨2, 0, tcells t⟩ :: d8 ∧ s.z = []

def IMul1 (p q : Poly) (n : Nat) (s : St) : Prop :=
  ∃ i es, n = p.length - i ∧ i ≤ p.length ∧ es = mall [] (p.take i) q ∧ gt s 14 = some (dPoly p) ∧ gt s 15 = some (.i .i64 (p.length : Nat)) ∧ gt s 16 = some (.i .i64 (i : Nat)) ∧ gt s 1 = some (dPoly q) ∧
    gt s 6 = some (.mref 13 0) ∧ lst s 13 = [⟨1, 0, es.map dEnt⟩] ∧ s.z = []

theorem part_tcells (t : Tm) : part (tcells t) 0 12 true = some (dTm t) := (rfl)
theorem argsIn_t (s : St) (d : DV) (l : List DV) : argsIn s [true, false, false] (d :: l) = (match argsIn s [false, false] l with
    | none => none
    | some (l, z, q) => match d, q with
        | .ref h e off n, none => match look s h e with
          | some ob => if ob.k = 0 then some (.own 0 ob.sz ob.cs off n :: l, z, some (h, e)) else none
          | none => none
        | .ptr h e off, none => match look s h e with
          | some ob => if ob.k = 2 ∧ areDeep ob.cs then some (.own 2 ob.sz ob.cs off 0 :: l, z, some (h, e)) else none
          | none => none
        | .mref h e, none => match look s h e with
          | some ob => if ob.k = 1 then some (.own 1 ob.sz ob.cs 0 0 :: l, z, some (h, e)) else none
          | none => none
        | _, _ => none) := by
  rw [argsIn]; rfl
theorem argsIn_f (s : St) (b : List Bool) (d : DV) (l : List DV) : argsIn s (false :: b) (d :: l) = (match argsIn s b l with
    | none => none
    | some (l, z, q) => match deepen s d with
        | some (x, y) => some (x :: l, y ++ z, q)
        | none => none) := by
  rw [argsIn]; rfl

set_option maxHeartbeats 4000000 in
theorem polynomial_Mul_rets (cs : Sem) (p q : Poly) (hp1 : p.length ≤ 1000000) (hq1 : q.length ≤ 1000000)
    (hmm : ∀ t ∈ p, ∀ u ∈ q, cs n_monomial_Mul [dMono t.m, dMono u.m] = some (.tup [dMono (t.m.add u.m), .i .i64 0], []))
    (hmul : ∀ t ∈ p, ∀ u ∈ q, cs n_rational_Mul [dRat t.c, dRat u.c] = some (dRat (t.c * u.c), []))
    (hsum : ∀ pa t pb qa u qb, p = pa ++ t :: pb → q = qa ++ u :: qb → cs n_polynomial_sum_add [.own 1 0 (List.map dEnt (maddp t (mall [] pa q) qa)) 0 0, dRat (t.c * u.c), dMono (t.m.add u.m)] = some (.tup [], [(madd (maddp t (mall [] pa q) qa) (t.m.add u.m) (t.c * u.c)).map dEnt]))
    (r : Poly) (hpoly : cs n_polynomial_sum_poly [.msl ((mall [] p q).map dEnt)] = some (dPoly r, [])) :
    Rets KK cs false c_polynomial_Mul [dPoly p, dPoly q] (.tup [dPoly r, .i .i64 0]) [] := by
  refine Rets.of rfl ?_
  unfold c_polynomial_Mul
  simp
  apply W_loop (IMul1 p q) p.length
  · exact ⟨0, [], by simp [mall]⟩
  rintro n s ⟨i, es0, hn, hi, hes, h14, h15, h16, h1, h6, g13, hz⟩
  have w1 : IntKind.i64.wrap ((i : Int) + 1) = (i : Int) + 1 := wrap_i64 (by omega) (by omega)
  by_cases hi' : i < p.length
  · obtain ⟨t, p', hp, hpd⟩ := drop_cons hi'
    have ht : t ∈ p := List.mem_of_mem_drop (by rw [hp]; exact List.mem_cons_self ..)
    simp [l_polynomial_Mul_1, h14, h15, h16, h1, hi', hp, hz]
    apply W_loop (IMul2 q t es0 p i) q.length
    · refine ⟨0, es0, lst s 8, by simp [h14, h15, h16, h1, h6, g13, hz, maddp]⟩
    rintro n2 s2 ⟨k, es, d8, hn2, hk, hes2, h20, h21, h22, h14, h15, h16, h1, h6, g13, h8, g8, hz⟩
    have w2 : IntKind.i64.wrap ((k : Int) + 1) = (k : Int) + 1 := wrap_i64 (by omega) (by omega)
    by_cases hk' : k < q.length
    · obtain ⟨u, q', hq, hqd⟩ := drop_cons hk'
      have hu : u ∈ q := List.mem_of_mem_drop (by rw [hq]; exact List.mem_cons_self ..)
      have k1 := hmm t ht u hu
      have hmul := hmul t ht u hu
      have hsum := hsum (p.take i) t p' (q.take k) u q' (by rw [← hp, List.take_append_drop]) (by rw [← hq, List.take_append_drop])
      rw [← hes, ← hes2] at hsum
      have htk : q.take (k + 1) = q.take k ++ [u] := by rw [List.take_add, hq]; rfl
      simp [l_polynomial_Mul_0, h20, h21, h22, h14, h15, h16, h1, h6, g13, h8, g8, hz, hk', hq, k1, hmul, hsum, w2, part_tm_m, argsIn_t, argsIn_f, ent_deep]
      refine ⟨q.length - (k + 1), by omega, k + 1, madd es (t.m.add u.m) (t.c * u.c), d8, rfl, by omega, ?_, ?_⟩
      · rw [htk, maddp_append, ← hes2]; rfl
      · simp [h20, h21, h14, h15, h16, h1, h6, h8, g8, hz]
    · have e1 : k = q.length := by omega
      rw [e1, List.take_length] at hes2
      have htk : p.take (i + 1) = p.take i ++ [t] := by rw [List.take_add, hp]; rfl
      simp [l_polynomial_Mul_0, h20, h21, h22, h14, h15, h16, h1, h6, g13, hz, hk', w1]
      refine ⟨p.length - (i + 1), by omega, i + 1, es, rfl, by omega, ?_, ?_⟩
      · rw [htk, mall_append, ← hes, hes2]; rfl
      · simp [h14, h15, h1, h6, g13, hz]
  · have e1 : i = p.length := by omega
    rw [e1, List.take_length] at hes
    rw [← hes] at hpoly
    simp [l_polynomial_Mul_1, h14, h15, h16, h6, g13, hi', hpoly, deepen]

/-! ### Sums of products -/

/-- A slot holds a polynomial: a value, or nil. -/
def HoldsN (s : St) (sl : Nat) (out : Poly) : Prop := gt s sl = some (dPoly out) ∨ (out = [] ∧ gt s sl = some .nil)

def psumg (mul : Poly → Poly → Poly) : Poly → List Poly → List Poly → Poly
  | out, q :: qs, l :: ls => psumg mul (padd out (mul q l)) qs ls
  | out, _, _ => out

theorem psumg_append (mul : Poly → Poly → Poly) : ∀ (qa la qb lb : List Poly) (out : Poly), qa.length = la.length → psumg mul out (qa ++ qb) (la ++ lb) = psumg mul (psumg mul out qa la) qb lb
  | [], [], _, _, _, _ => rfl
  | q :: qa, l :: la, qb, lb, out, h => by simp only [List.cons_append, psumg]; exact psumg_append mul qa la qb lb _ (by simpa using h)
  | [], _ :: _, _, _, _, h => by simp at h
  | _ :: _, [], _, _, _, h => by simp at h

def IDSum (mul : Poly → Poly → Poly) (q l : List Poly) (n : Nat) (s : St) : Prop :=
  ∃ i out, n = l.length - i ∧ i ≤ l.length ∧ out = psumg mul [] (q.take i) (l.take i) ∧ gt s 0 = some (dPolys q) ∧ gt s 16 = some (dPolys l) ∧ gt s 17 = some (.i .i64 (l.length : Nat)) ∧ gt s 18 = some (.i .i64 (i : Nat)) ∧ HoldsN s 6 out

set_option maxHeartbeats 1000000 in
theorem division_Sum_rets (cs : Sem) (mul : Poly → Poly → Poly) (q l : List Poly) (hll : l.length ≤ 1000000) (hql : q.length ≤ 1000000)
    (hmul : q.length = l.length → ∀ a ∈ q, ∀ b ∈ l, cs n_polynomial_Mul [dPoly a, dPoly b] = some (.tup [dPoly (mul a b), .i .i64 0], []))
    (hadd : q.length = l.length → ∀ qa a qb la b lb, q = qa ++ a :: qb → l = la ++ b :: lb → qa.length = la.length → cs n_polynomial_Add [dPoly (psumg mul [] qa la), dPoly (mul a b)] = some (dPoly (padd (psumg mul [] qa la) (mul a b)), [])) :
    Rets KK cs false c_division_Sum [dPolys q, dPolys l] (if q.length = l.length then .tup [dPoly (psumg mul [] q l), .i .i64 0] else .tup [dPoly [], .i .i64 1]) [] := by
  refine Rets.of rfl ?_
  unfold c_division_Sum
  by_cases hq : q.length = l.length
  · have hmul := hmul hq
    have hadd := hadd hq
    have b1 : ((q.length : Int) != (l.length : Int)) = false := by simp [hq]
    rw [if_pos hq]
    simp [b1]
    apply W_loop (IDSum mul q l) l.length
    · exact ⟨0, [], by simp [HoldsN, psumg]⟩
    rintro n s ⟨i, out, hn, hi, hout, h0, h16, h17, h18, h6⟩
    have w1 : IntKind.i64.wrap ((i : Int) + 1) = (i : Int) + 1 := wrap_i64 (by omega) (by omega)
    by_cases hi' : i < l.length
    · have hi2 : i < q.length := by omega
      obtain ⟨b, l', hb, hb1⟩ := drop_cons hi'
      obtain ⟨a, q', ha, ha1⟩ := drop_cons hi2
      have k1 := hmul a (List.mem_of_mem_drop (by rw [ha]; exact List.mem_cons_self ..)) b (List.mem_of_mem_drop (by rw [hb]; exact List.mem_cons_self ..))
      have k2 := hadd (q.take i) a q' (l.take i) b l' (by rw [← ha, List.take_append_drop]) (by rw [← hb, List.take_append_drop]) (by rw [List.length_take, List.length_take]; omega)
      rw [← hout] at k2
      have tq : q.take (i + 1) = q.take i ++ [a] := by rw [List.take_add, ha]; rfl
      have tl : l.take (i + 1) = l.take i ++ [b] := by rw [List.take_add, hb]; rfl
      have hnew : padd out (mul a b) = psumg mul [] (q.take (i + 1)) (l.take (i + 1)) := by
        rw [tq, tl, psumg_append _ _ _ _ _ _ (by rw [List.length_take, List.length_take]; omega), ← hout]; rfl
      have pa := part_polys ha
      have pb := part_polys hb
      rcases h6 with h6 | ⟨rfl, h6⟩
      · simp [l_division_Sum_0, h0, h16, h17, h18, h6, hi', hi2, pa, pb, k1, k2, w1, -List.map_drop]
        exact ⟨l.length - (i + 1), by omega, i + 1, padd out (mul a b), rfl, by omega, hnew, by simp [h0, h16, h17, HoldsN]⟩
      · simp [dPoly] at k2
        simp [l_division_Sum_0, h0, h16, h17, h18, h6, hi', hi2, pa, pb, k1, k2, w1, -List.map_drop]
        exact ⟨l.length - (i + 1), by omega, i + 1, padd [] (mul a b), rfl, by omega, hnew, by simp [h0, h16, h17, HoldsN]⟩
    · have e1 : i = l.length := by omega
      have hout : out = psumg mul [] q l := by
        rw [hout, e1, List.take_length, ← hq, List.take_length]
      rcases h6 with h6 | ⟨rfl, h6⟩
      · simp [l_division_Sum_0, h17, h18, h6, hi', hout]
      · simp [l_division_Sum_0, h17, h18, h6, hi', ← hout]
  · have h1 : ((q.length : Int) == (l.length : Int)) = false := by simp; omega
    have h2 : ¬ (q.length : Int) = (l.length : Int) := by omega
    simp [h1, h2, hq, dPoly]

set_option maxHeartbeats 1000000 in
theorem syzygy_Is_rets (cs : Sem) (mul : Poly → Poly → Poly) (q l : List Poly) (h : cs n_division_Sum [dPolys q, dPolys l] = some (if q.length = l.length then .tup [dPoly (psumg mul [] q l), .i .i64 0] else .tup [dPoly [], .i .i64 1], [])) :
    Rets KK cs false c_syzygy_Is [dPolys q, dPolys l] (.b (decide (q.length = l.length ∧ psumg mul [] q l = []))) [] := by
  refine Rets.of rfl ?_
  unfold c_syzygy_Is
  by_cases hq : q.length = l.length
  · rw [if_pos hq] at h
    by_cases he : psumg mul [] q l = []
    · have e : decide (q.length = l.length ∧ psumg mul [] q l = []) = true := by simp [hq, he]
      rw [e]
      simp [h, he]
    · have e : decide (q.length = l.length ∧ psumg mul [] q l = []) = false := by simp [he]
      have h2 : ((List.length (psumg mul [] q l) : Int) == 0) = false := by simp; exact he
      rw [e]
      simp [h, h2]
  · rw [if_neg hq] at h
    have e : decide (q.length = l.length ∧ psumg mul [] q l = []) = false := by simp [hq]
    rw [e]
    simp [h]
end Go.Ev

/- The algebra of syzygies: which sums of products are 0. -/
namespace Go.Ev
open Go.Pm

theorem coef_ptimes0 (c : Rat) (m k : Mono) (p : Poly) : coef (ptimes0 c m p) k = c * coef p (k.sub m) := by
  unfold ptimes0
  split
  · rename_i h; subst h; simp only [coef]; grind
  · exact coef_ptimes c m k p

theorem coef_pscale (c : Rat) (p : Poly) (k : Mono) : coef (pscale c p) k = c * coef p k := by
  unfold pscale; rw [coef_ptimes0, Mono.sub_zero]

theorem coef_psub (p q : Poly) (k : Mono) : coef (psub p q) k = coef p k - coef q k := by
  unfold psub; rw [coef_padd, coef_pscale]; grind

theorem coef_pmul0 (q : Poly) (k : Mono) : ∀ (p out : Poly), coef (pmul0 out p q) k = coef out k + Pm.conv p (coef q) k
  | [], out => by simp only [pmul0, Pm.conv]; grind
  | t :: p, out => by
    simp only [pmul0, Pm.conv]
    rw [coef_pmul0 q k p, coef_padd, coef_ptimes0]; grind

theorem Canon.ptimes0 {c : Rat} {m : Mono} {p : Poly} (h : Canon p) : Canon (ptimes0 c m p) := by
  unfold Ev.ptimes0
  split
  · exact trivial
  · rename_i hc; exact Canon.ptimes hc m h

theorem Canon.pmul0 {q : Poly} (hq : Canon q) : ∀ {p out : Poly}, Canon out → Canon (pmul0 out p q)
  | [], _, h => h
  | t :: p, out, h => show Canon (Ev.pmul0 (padd out (Ev.ptimes0 t.c t.m q)) p q) from Canon.pmul0 hq (Canon.padd h (Canon.ptimes0 hq))

theorem Canon.psub {p q : Poly} (hp : Canon p) (hq : Canon q) : Canon (psub p q) := Canon.padd hp (Canon.ptimes0 hq)

theorem Bd.psub {d : Int} {p q : Poly} (hp : Bd d p) (hq : Bd d q) : Bd d (psub p q) := by
  refine Bd.padd hp ?_
  have := Bd.ptimes0 (c := -1) (Mo.bd_zero (d := 0) (by omega)) hq
  simpa [pscale] using this

theorem Bd.pmul0 {d d' : Int} {q : Poly} (hq : Bd d' q) : ∀ {p out : Poly}, Bd d p → Bd (d + d') out → Bd (d + d') (pmul0 out p q)
  | [], _, _, h => h
  | t :: p, out, hp, h => show Bd _ (Ev.pmul0 (Pm.padd out (Ev.ptimes0 t.c t.m q)) p q) from
    Bd.pmul0 hq (fun u hu => hp u (List.mem_cons_of_mem _ hu)) (Bd.padd h (Bd.ptimes0 (hp t (List.mem_cons_self ..)) hq))

theorem psub_length (p q : Poly) : (psub p q).length ≤ p.length + q.length := by
  have h1 := padd_length p (pscale (-1) q)
  have h2 := pscale_length (-1) q
  unfold psub; omega

/-- A sum of products. -/
def sumc : List Poly → List Poly → Mono → Rat
  | q :: qs, l :: ls, k => Pm.conv q (coef l) k + sumc qs ls k
  | _, _, _ => 0

def ZS (q l : List Poly) : Prop := ∀ k, sumc q l k = 0

theorem coef_psumg {mul : Poly → Poly → Poly} (k : Mono) : ∀ (qs ls : List Poly) (out : Poly), (∀ q ∈ qs, ∀ l ∈ ls, ∀ k, coef (mul q l) k = Pm.conv q (coef l) k) → coef (psumg mul out qs ls) k = coef out k + sumc qs ls k
  | [], ls, out, _ => by simp only [psumg, sumc]; grind
  | q :: qs, [], out, _ => by simp only [psumg, sumc]; grind
  | q :: qs, l :: ls, out, h => by
    simp only [psumg, sumc]
    rw [coef_psumg k qs ls _ fun a ha b hb => h a (List.mem_cons_of_mem _ ha) b (List.mem_cons_of_mem _ hb), coef_padd, h q (List.mem_cons_self ..) l (List.mem_cons_self ..)]
    grind

theorem Canon.psumg {mul : Poly → Poly → Poly} : ∀ (qs ls : List Poly) (out : Poly), Canon out → (∀ q ∈ qs, ∀ l ∈ ls, Canon (mul q l)) → Canon (psumg mul out qs ls)
  | [], ls, out, h, _ => h
  | q :: qs, [], out, h, _ => h
  | q :: qs, l :: ls, out, h, hm => show Canon (Ev.psumg mul (padd out (mul q l)) qs ls) from
    Canon.psumg qs ls _ (Canon.padd h (hm q (List.mem_cons_self ..) l (List.mem_cons_self ..))) fun a ha b hb => hm a (List.mem_cons_of_mem _ ha) b (List.mem_cons_of_mem _ hb)

theorem psum_psumg (qs ls : List Poly) : ∀ out, psum out qs ls = psumg (fun q l => pmul0 [] q l) out qs ls := by
  induction qs generalizing ls with
  | nil => intro out; rfl
  | cons q qs ih =>
    intro out
    cases ls with
    | nil => rfl
    | cons l ls => simp only [psum, psumg]; exact ih ls _

theorem psumg_zero {mul : Poly → Poly → Poly} {qs ls : List Poly} (hc : ∀ q ∈ qs, ∀ l ∈ ls, Canon (mul q l)) (hm : ∀ q ∈ qs, ∀ l ∈ ls, ∀ k, coef (mul q l) k = Pm.conv q (coef l) k) : psumg mul [] qs ls = [] ↔ ZS qs ls := by
  rw [Canon.eq_nil (Canon.psumg qs ls [] trivial hc)]
  unfold ZS
  refine forall_congr' fun k => ?_
  rw [coef_psumg k qs ls [] hm]
  simp only [coef]
  have : (0 : Rat) + sumc qs ls k = sumc qs ls k := by grind
  rw [this]

/-! ### Exchanging two elements -/

/-- A triple product, symmetric in its outer parts. -/
theorem conv_sym (x p y : Poly) (k : Mono) : Pm.conv x (Pm.conv p (coef y)) k = Pm.conv y (Pm.conv p (coef x)) k := by
  rw [conv_swap x p, conv_swap y p]
  exact conv_congr p (fun j => conv_comm x y j) k

theorem conv_sub (p : Poly) (f g : Pm.Fn) (k : Mono) : Pm.conv p (fun j => f j - g j) k = Pm.conv p f k - Pm.conv p g k := by
  induction p with
  | nil => simp only [Pm.conv]; grind
  | cons t p ih => simp only [Pm.conv, ih]; grind

theorem conv_of {s : Poly} {f g : Pm.Fn} (l : Poly) (h : ∀ j, coef s j = f j - g j) (k : Mono) : Pm.conv s (coef l) k = Pm.conv l f k - Pm.conv l g k := by
  rw [conv_comm, conv_congr l h, conv_sub]

theorem ZS_two {a b p q s0 s1 : Poly} (h0 : ∀ j, coef s0 j = Pm.conv p (coef b) j - Pm.conv q (coef b) j) (h1 : ∀ j, coef s1 j = Pm.conv q (coef a) j - Pm.conv p (coef a) j) : ZS [s0, s1] [a, b] := by
  intro k
  simp only [sumc]
  rw [conv_of a h0, conv_of b h1, conv_sym a p b, conv_sym a q b]
  grind

theorem ZS_three {a b c p q r s0 s1 s2 : Poly} (h0 : ∀ j, coef s0 j = Pm.conv p (coef b) j - Pm.conv r (coef c) j) (h1 : ∀ j, coef s1 j = Pm.conv q (coef c) j - Pm.conv p (coef a) j) (h2 : ∀ j, coef s2 j = Pm.conv r (coef a) j - Pm.conv q (coef b) j) :
    ZS [s0, s1, s2] [a, b, c] := by
  intro k
  simp only [sumc]
  rw [conv_of a h0, conv_of b h1, conv_of c h2, conv_sym a p b, conv_sym b q c, conv_sym c r a]
  grind

theorem conv_nil (f : Pm.Fn) (k : Mono) : Pm.conv [] f k = 0 := rfl

theorem ZS_zero : ∀ (l : List Poly), ZS (List.replicate l.length []) l
  | [] => fun k => rfl
  | p :: l => fun k => by
    simp only [List.length_cons, List.replicate_succ, sumc, Pm.conv]
    rw [ZS_zero l k]; grind

/-! ### Polynomials made of raw numbers -/

theorem mono_bd_ofL {d : Int} (hd : 0 ≤ d) : ∀ {l : List Int}, l.length = 8 → (∀ e ∈ l, 0 ≤ e ∧ e ≤ d) → Mo.bd d (ofL l) := by
  intro l hl h e he
  rw [ofL_l hl] at he
  exact h e he

theorem rawExps_bd : ∀ (es : List Int) (left : Int), 0 ≤ left → ∀ e ∈ rawExps es left, 0 ≤ e ∧ e ≤ left
  | [], _, _, e, h => by simp [rawExps] at h
  | x :: es, left, h0, e, h => by
    have a0 : 0 ≤ iabs x := by unfold iabs; split <;> omega
    have v0 : 0 ≤ iabs x % (left + 1) := Int.emod_nonneg _ (by omega)
    have v1 : iabs x % (left + 1) < left + 1 := Int.emod_lt_of_pos _ (by omega)
    simp only [rawExps, List.mem_cons] at h
    rcases h with rfl | h
    · omega
    · have := rawExps_bd es _ (by omega) e h
      omega

theorem rawMono_bd {N : Nat} (hN : N ≤ 4) {deg : Int} (hd : 0 ≤ deg) (t : RawT) : Mo.bd deg (rawMono N deg t.es) := by
  refine mono_bd_ofL hd ?_ fun e he => ?_
  · rw [List.length_append, rawExps_length, List.length_take, List.length_replicate, t.hl]; omega
  · rw [List.mem_append] at he
    rcases he with he | he
    · exact rawExps_bd _ _ hd e he
    · rw [List.mem_replicate] at he; omega

theorem madeT_good {N : Nat} (hN : N ≤ 4) {deg : Int} (hd : 0 ≤ deg) (t : RawT) : Canon (madeT N deg t) ∧ Bd deg (madeT N deg t) := by
  have c1 : Canon [⟨1, rawMono N deg t.es⟩] := ⟨show (1 : Rat) ≠ 0 by simp, Below.nil _, trivial⟩
  have b1 : Bd deg [⟨1, rawMono N deg t.es⟩] := by
    intro u hu
    simp only [List.mem_singleton] at hu
    subst hu
    exact rawMono_bd hN hd t
  refine ⟨Canon.ptimes0 c1, ?_⟩
  have := Bd.ptimes0 (c := ((t.c.tmod 4 : Int) : Rat)) (Mo.bd_zero (d := 0) (by omega)) b1
  simpa [madeT, pscale] using this

theorem made_good {N : Nat} (hN : N ≤ 4) {deg : Int} (hd : 0 ≤ deg) : ∀ (x : Raw) (out : Poly), Canon out → Bd deg out → Canon (made N deg out x) ∧ Bd deg (made N deg out x) ∧ (made N deg out x).length ≤ out.length + x.length
  | [], out, h1, h2 => ⟨h1, h2, by simp [made]⟩
  | t :: x, out, h1, h2 => by
    have g := madeT_good hN hd t
    have h := made_good hN hd x (padd out (madeT N deg t)) (Canon.padd h1 g.1) (Bd.padd h2 g.2)
    have l1 : (madeT N deg t).length ≤ 1 := pscale_length ..
    have l2 := padd_length out (madeT N deg t)
    refine ⟨h.1, h.2.1, ?_⟩
    have := h.2.2
    simp only [made, List.length_cons] at this ⊢
    omega
end Go.Ev

/- Whole coefficients, and the sum of their absolute values. -/
namespace Go.Ev
open Go.Pm

def nm (a : Rat) : Nat := a.num.natAbs

theorem whole_eq {a : Rat} (h : a.den = 1) : a = (a.num : Rat) := Rat.ext (by simp) (by simpa using h)
theorem whole_int (n : Int) : ((n : Int) : Rat).den = 1 := by simp
theorem num_int (n : Int) : ((n : Int) : Rat).num = n := by simp

theorem whole_add {a b : Rat} (ha : a.den = 1) (hb : b.den = 1) : (a + b).den = 1 ∧ (a + b).num = a.num + b.num := by
  have e : a + b = ((a.num + b.num : Int) : Rat) := by rw [whole_eq ha, whole_eq hb]; simp [Rat.intCast_add]
  rw [e]; exact ⟨whole_int _, num_int _⟩
theorem whole_mul {a b : Rat} (ha : a.den = 1) (hb : b.den = 1) : (a * b).den = 1 ∧ (a * b).num = a.num * b.num := by
  have e : a * b = ((a.num * b.num : Int) : Rat) := by rw [whole_eq ha, whole_eq hb]; simp [Rat.intCast_mul]
  rw [e]; exact ⟨whole_int _, num_int _⟩

theorem nm_add {a b : Rat} (ha : a.den = 1) (hb : b.den = 1) : nm (a + b) ≤ nm a + nm b := by
  unfold nm; rw [(whole_add ha hb).2]; omega
theorem nm_mul {a b : Rat} (ha : a.den = 1) (hb : b.den = 1) : nm (a * b) = nm a * nm b := by
  unfold nm; rw [(whole_mul ha hb).2, Int.natAbs_mul]

def N1 : Poly → Nat
  | [] => 0
  | t :: p => nm t.c + N1 p

/-- Whole coefficients, of a bounded sum. -/
structure Sz (n : Nat) (p : Poly) : Prop where
  wh : ∀ t ∈ p, t.c.den = 1
  le : N1 p ≤ n

theorem Sz.mono {n m : Nat} {p : Poly} (h : Sz n p) (hm : n ≤ m) : Sz m p := ⟨h.wh, by have := h.le; omega⟩
theorem Sz.nil (n : Nat) : Sz n [] := ⟨by simp, by simp [N1]⟩
theorem Sz.tail {n : Nat} {t : Tm} {p : Poly} (h : Sz n (t :: p)) : Sz (n - nm t.c) p := ⟨fun u hu => h.wh u (List.mem_cons_of_mem _ hu), by have := h.le; simp only [N1] at this; omega⟩
theorem N1_mem {t : Tm} : ∀ {p : Poly}, t ∈ p → nm t.c ≤ N1 p
  | u :: p, h => by
    simp only [N1]
    rcases List.mem_cons.1 h with rfl | h
    · omega
    · have := N1_mem h; omega
theorem Sz.mem {n : Nat} {t : Tm} {p : Poly} (h : Sz n p) (ht : t ∈ p) : t.c.den = 1 ∧ nm t.c ≤ n := ⟨h.wh t ht, by have := N1_mem ht; have := h.le; omega⟩
theorem N1_append : ∀ (a b : Poly), N1 (a ++ b) = N1 a + N1 b
  | [], b => by simp [N1]
  | t :: a, b => by simp only [List.cons_append, N1, N1_append a b]; omega

theorem wh_padd : ∀ {p q : Poly}, (∀ t ∈ p, t.c.den = 1) → (∀ t ∈ q, t.c.den = 1) → (∀ t ∈ padd p q, t.c.den = 1) ∧ N1 (padd p q) ≤ N1 p + N1 q
  | [], q, _, hq => by rw [padd_nil]; exact ⟨hq, by simp [N1]⟩
  | s :: p, [], hp, _ => by rw [padd_nil_right]; exact ⟨hp, by simp [N1]⟩
  | s :: p, t :: q, hp, hq => by
    have hs := hp s (List.mem_cons_self ..)
    have ht := hq t (List.mem_cons_self ..)
    have hp' : ∀ u ∈ p, u.c.den = 1 := fun u hu => hp u (List.mem_cons_of_mem _ hu)
    have hq' : ∀ u ∈ q, u.c.den = 1 := fun u hu => hq u (List.mem_cons_of_mem _ hu)
    by_cases c1 : 0 < Mono.cmp s.m t.m
    · rw [padd_gt c1]
      have ih := wh_padd hp' hq
      refine ⟨fun u hu => ?_, ?_⟩
      · rcases List.mem_cons.1 hu with rfl | hu
        · exact hs
        · exact ih.1 u hu
      · have := ih.2; simp only [N1] at this ⊢; omega
    · by_cases c2 : Mono.cmp s.m t.m < 0
      · rw [padd_lt c2]
        have ih := wh_padd hp hq'
        refine ⟨fun u hu => ?_, ?_⟩
        · rcases List.mem_cons.1 hu with rfl | hu
          · exact ht
          · exact ih.1 u hu
        · have := ih.2; simp only [N1] at this ⊢; omega
      · rw [padd_eq (by omega)]
        have ih := wh_padd hp' hq'
        split
        · refine ⟨ih.1, ?_⟩
          have := ih.2; simp only [N1]; omega
        · refine ⟨fun u hu => ?_, ?_⟩
          · rcases List.mem_cons.1 hu with rfl | hu
            · exact (whole_add hs ht).1
            · exact ih.1 u hu
          · have := ih.2; have := nm_add hs ht; simp only [N1]; omega
termination_by p q => p.length + q.length

theorem Sz.padd {n m : Nat} {p q : Poly} (hp : Sz n p) (hq : Sz m q) : Sz (n + m) (padd p q) := by
  have h := wh_padd hp.wh hq.wh
  exact ⟨h.1, by have := h.2; have := hp.le; have := hq.le; omega⟩

theorem N1_ptimes {c : Rat} (hc : c.den = 1) (m : Mono) : ∀ {p : Poly}, (∀ t ∈ p, t.c.den = 1) → (∀ t ∈ ptimes c m p, t.c.den = 1) ∧ N1 (ptimes c m p) = nm c * N1 p
  | [], _ => ⟨by simp [ptimes], by simp [ptimes, N1]⟩
  | t :: p, h => by
    have ih := N1_ptimes hc m (p := p) fun u hu => h u (List.mem_cons_of_mem _ hu)
    have ht := h t (List.mem_cons_self ..)
    have e : ptimes c m (t :: p) = ⟨c * t.c, m.add t.m⟩ :: ptimes c m p := rfl
    rw [e]
    refine ⟨fun u hu => ?_, ?_⟩
    · rcases List.mem_cons.1 hu with rfl | hu
      · exact (whole_mul hc ht).1
      · exact ih.1 u hu
    · simp only [N1, ih.2, nm_mul hc ht]; rw [Nat.mul_add]

theorem Sz.ptimes0 {n : Nat} {c : Rat} (hc : c.den = 1) (m : Mono) {p : Poly} (hp : Sz n p) : Sz (nm c * n) (ptimes0 c m p) := by
  unfold Ev.ptimes0
  split
  · exact Sz.nil _
  · have h := N1_ptimes hc m hp.wh
    exact ⟨h.1, by rw [h.2]; exact Nat.mul_le_mul_left _ hp.le⟩

theorem Sz.pscale {n : Nat} {c : Rat} (hc : c.den = 1) {p : Poly} (hp : Sz n p) : Sz (nm c * n) (pscale c p) := Sz.ptimes0 hc _ hp

theorem Sz.psub {n m : Nat} {p q : Poly} (hp : Sz n p) (hq : Sz m q) : Sz (n + m) (psub p q) := by
  have h1 : ((-1 : Rat)).den = 1 := by decide
  have h2 : nm (-1 : Rat) = 1 := by decide
  have := Sz.pscale h1 hq
  rw [h2, Nat.one_mul] at this
  exact Sz.padd hp this

theorem Sz.pmul0 {m : Nat} {q : Poly} (hq : Sz m q) : ∀ {p out : Poly} {k : Nat}, (∀ t ∈ p, t.c.den = 1) → Sz k out → Sz (k + N1 p * m) (pmul0 out p q)
  | [], out, k, _, h => by simpa [Ev.pmul0, N1] using h
  | t :: p, out, k, hp, h => by
    have ht := hp t (List.mem_cons_self ..)
    have h1 := Sz.padd h (Sz.ptimes0 ht t.m hq)
    have h2 := Sz.pmul0 hq (p := p) (fun u hu => hp u (List.mem_cons_of_mem _ hu)) h1
    have e : k + N1 (t :: p) * m = k + nm t.c * m + N1 p * m := by simp only [N1]; rw [Nat.add_mul]; omega
    rw [e]; exact h2

theorem Sz.mul {n m : Nat} {p q : Poly} (hp : Sz n p) (hq : Sz m q) : Sz (n * m) (Ev.pmul0 [] p q) := by
  have h := Sz.pmul0 hq hp.wh (Sz.nil 0)
  rw [Nat.zero_add] at h
  exact h.mono (Nat.mul_le_mul_right _ hp.le)

theorem Sz.madeT (N : Nat) (deg : Int) (t : RawT) : Sz 3 (madeT N deg t) := by
  have h := Sz.pscale (c := ((t.c.tmod 4 : Int) : Rat)) (whole_int _) (n := 1) (p := [⟨1, rawMono N deg t.es⟩]) ⟨by simp, by simp [N1]; decide⟩
  refine h.mono ?_
  unfold nm
  rw [num_int]
  have := Int.tmod_lt_of_pos t.c (b := 4) (by omega)
  have := Int.lt_tmod_of_pos t.c (b := 4) (by omega)
  omega

theorem Sz.made (N : Nat) (deg : Int) : ∀ (x : Raw) {out : Poly} {k : Nat}, Sz k out → Sz (k + 3 * x.length) (made N deg out x)
  | [], out, k, h => by simpa [Ev.made] using h
  | t :: x, out, k, h => by
    have h1 := Sz.made N deg x (Sz.padd h (Sz.madeT N deg t))
    refine h1.mono ?_
    simp only [List.length_cons]; omega

/-! ### The map of a product -/

def N1e : Ent → Nat
  | [] => 0
  | e :: r => nm e.2 + N1e r

structure Sze (n : Nat) (es : Ent) : Prop where
  wh : ∀ e ∈ es, e.2.den = 1
  le : N1e es ≤ n

theorem N1e_mem {e : Mono × Rat} : ∀ {es : Ent}, e ∈ es → nm e.2 ≤ N1e es
  | u :: p, h => by
    simp only [N1e]
    rcases List.mem_cons.1 h with rfl | h
    · omega
    · have := N1e_mem h; omega

theorem Sze.madd {c : Rat} (hc : c.den = 1) (m : Mono) : ∀ {es : Ent} {n : Nat}, Sze n es → Sze (n + nm c) (madd es m c)
  | [], n, h => ⟨by simp [Ev.madd, hc], by simp [Ev.madd, N1e]⟩
  | (k, v) :: r, n, h => by
    have hv := h.wh (k, v) (List.mem_cons_self ..)
    have hl := h.le
    simp only [N1e] at hl
    simp only [Ev.madd]
    split
    · refine ⟨fun e he => ?_, ?_⟩
      · rcases List.mem_cons.1 he with rfl | he
        · exact (whole_add hv hc).1
        · exact h.wh e (List.mem_cons_of_mem _ he)
      · have := nm_add hv hc; simp only [N1e]; simp only at *; omega
    · have ih := Sze.madd hc m (es := r) (n := N1e r) ⟨fun e he => h.wh e (List.mem_cons_of_mem _ he), Nat.le_refl _⟩
      refine ⟨fun e he => ?_, ?_⟩
      · rcases List.mem_cons.1 he with rfl | he
        · exact hv
        · exact ih.wh e he
      · have := ih.le; simp only [N1e]; simp only at *; omega

theorem Sze.maddp {t : Tm} (ht : t.c.den = 1) : ∀ {q : Poly} {es : Ent} {n : Nat}, (∀ u ∈ q, u.c.den = 1) → Sze n es → Sze (n + nm t.c * N1 q) (maddp t es q)
  | [], es, n, _, h => by simpa [Ev.maddp, N1] using h
  | u :: q, es, n, hq, h => by
    have hu := hq u (List.mem_cons_self ..)
    have h1 := Sze.madd (whole_mul ht hu).1 (t.m.add u.m) h
    rw [nm_mul ht hu] at h1
    have h2 := Sze.maddp ht (q := q) (fun v hv => hq v (List.mem_cons_of_mem _ hv)) h1
    have e : n + nm t.c * N1 (u :: q) = n + nm t.c * nm u.c + nm t.c * N1 q := by simp only [N1]; rw [Nat.mul_add]; omega
    rw [e]; exact h2

theorem Sze.mall {q : Poly} (hq : ∀ u ∈ q, u.c.den = 1) : ∀ {p : Poly} {es : Ent} {n : Nat}, (∀ u ∈ p, u.c.den = 1) → Sze n es → Sze (n + N1 p * N1 q) (mall es p q)
  | [], es, n, _, h => by simpa [Ev.mall, N1] using h
  | t :: p, es, n, hp, h => by
    have ht := hp t (List.mem_cons_self ..)
    have h1 := Sze.maddp ht hq h
    have h2 := Sze.mall hq (p := p) (fun v hv => hp v (List.mem_cons_of_mem _ hv)) h1
    have e : n + N1 (t :: p) * N1 q = n + nm t.c * N1 q + N1 p * N1 q := by simp only [N1]; rw [Nat.add_mul]; omega
    rw [e]; exact h2
end Go.Ev

/- The law SyzygyIs. -/
namespace Go.Ev
open Go.Pm

structure Fine (p : Poly) : Prop where
  canon : Canon p
  bd : Bd 10 p
  len : p.length ≤ 100
  sz : Sz 120 p

structure FineL (p : Poly) : Prop where
  fine : Fine p
  sz : Sz 9 p

def lawP (x : Raw) : Poly := made 2 1 [] (x.take 2)

open Classical in
/-- What the law is proved from. -/
structure LawUses (cs : Sem) : Prop where
  sanity : cs n_law19_sanity [] = some (.b true, [])
  poly : ∀ x, cs n_law19_poly [dRaw x] = some (dPoly (lawP x), [])
  polys : ∀ (l : List Raw) (o : Int), cs n_ref13_Polys [.agg [dRaws l, .i .u8 o]] = some (dPolys ((l.take 3).map fun x => made 2 2 [] (x.take 3)), [])
  add : ∀ p q, Fine p → Fine q → cs n_ref06_Add [dPoly p, dPoly q] = some (dPoly (padd p q), [])
  sub : ∀ p q, Fine p → Fine q → cs n_ref06_Sub [dPoly p, dPoly q] = some (dPoly (psub p q), [])
  by_ : ∀ p q, Fine p → FineL q → cs n_ref06_By [dPoly p, dPoly q] = some (dPoly (pmul0 [] p q), [])
  is : ∀ q l, q.length ≤ 4 → l.length ≤ 4 → (∀ p ∈ q, Fine p) → (∀ p ∈ l, FineL p) → cs n_syzygy_Is [dPolys q, dPolys l] = some (.b (decide (q.length = l.length ∧ ZS q l)), [])
  ris : ∀ q l, q.length ≤ 4 → l.length ≤ 4 → (∀ p ∈ q, Fine p) → (∀ p ∈ l, FineL p) → cs n_ref19_Is [dPolys q, dPolys l] = some (.b (decide (q.length = l.length ∧ ZS q l)), [])

/-- Bounds of a polynomial: canonical, of a degree, of so many terms, with so small coefficients. -/
structure PB (d : Int) (n N : Nat) (p : Poly) : Prop where
  canon : Canon p
  bd : Bd d p
  len : p.length ≤ n
  sz : Sz N p

section
variable {d : Int} {n N : Nat} {p : Poly}
theorem PB.fine (h : PB d n N p) (hd : d ≤ 10) (hn : n ≤ 100) (hN : N ≤ 120) : Fine p := ⟨h.canon, h.bd.mono hd, by have := h.len; omega, h.sz.mono hN⟩
theorem PB.fineL (h : PB d n N p) (hd : d ≤ 10) (hn : n ≤ 100) (hN : N ≤ 9) : FineL p := ⟨h.fine hd hn (by omega), h.sz.mono hN⟩
theorem PB.mono {d' : Int} {n' : Nat} (h : PB d n N p) (hd : d ≤ d') (hn : n ≤ n') : PB d' n' N p := ⟨h.canon, h.bd.mono hd, by have := h.len; omega, h.sz⟩
theorem PB.nil (d : Int) : PB d 0 0 [] := ⟨trivial, Bd.nil _, by simp, Sz.nil _⟩
theorem PB.add {m M : Nat} {q : Poly} (h : PB d n N p) (g : PB d m M q) : PB d (n + m) (N + M) (padd p q) := ⟨Canon.padd h.canon g.canon, Bd.padd h.bd g.bd, by have := padd_length p q; have := h.len; have := g.len; omega, Sz.padd h.sz g.sz⟩
theorem PB.sub {m M : Nat} {q : Poly} (h : PB d n N p) (g : PB d m M q) : PB d (n + m) (N + M) (psub p q) := ⟨Canon.psub h.canon g.canon, Bd.psub h.bd g.bd, by have := psub_length p q; have := h.len; have := g.len; omega, Sz.psub h.sz g.sz⟩
theorem PB.mul {e : Int} {m M : Nat} {q : Poly} (h : PB d n N p) (g : PB e m M q) : PB (d + e) (n * m) (N * M) (pmul0 [] p q) :=
  ⟨Canon.pmul0 g.canon trivial, Bd.pmul0 g.bd h.bd (Bd.nil _), by have := pmul0_length q p []; have := Nat.mul_le_mul h.len g.len; simp at *; omega, Sz.mul h.sz g.sz⟩
end

theorem made_pb (N : Nat) (hN : N ≤ 4) (deg : Int) (hd : 0 ≤ deg) (n : Nat) (x : Raw) : PB deg n (3 * n) (made N deg [] (x.take n)) := by
  have h := made_good hN hd (x.take n) [] trivial (Bd.nil _)
  have hl : (x.take n).length ≤ n := by rw [List.length_take]; omega
  refine ⟨h.1, h.2.1, ?_, (Sz.made N deg (x.take n) (Sz.nil 0)).mono (by omega)⟩
  have := h.2.2
  simp only [List.length_nil] at this
  omega

theorem nil_fine : Fine [] := (PB.nil 0).fine (by omega) (by omega) (by omega)

theorem lawP_pb (x : Raw) : PB 1 2 6 (lawP x) := made_pb 2 (by omega) 1 (by omega) 2 x

open Classical in
set_option maxRecDepth 10000 in
set_option maxHeartbeats 4000000 in
theorem law_n0 {cs : Sem} (U : LawUses cs) (q0 q1 q2 : Raw) (at_ : Int) (hat : 0 ≤ at_ ∧ at_ ≤ 255) (o : Int) (x : List Raw) (h : cs n_ref13_Polys [.agg [dRaws x, .i .u8 o]] = some (dPolys [], [])) :
    Rets KK cs false c_law19_SyzygyIs [.agg [dRaws x, .i .u8 o], .agg [rawSl q0, rawSl q1, rawSl q2], .i .u8 at_] (.b true) [] := by
  have hs := U.sanity
  have i1 := U.is [] [] (by simp) (by simp) (by simp) (by simp)
  have z1 : ZS [] [] := fun k => rfl
  have i2 := U.ris [] [] (by simp) (by simp) (by simp) (by simp)
  have i3 := U.is [[]] [] (by simp) (by simp) (by simp [nil_fine]) (by simp)
  simp [z1, dPolys, dPoly] at i1 i2 i3 h
  refine Rets.of rfl ?_
  unfold c_law19_SyzygyIs
  simp [hs, h, i1, i2, i3, rawSl_deep, part]
  rw [W_unroll]
  simp [hs, h, l_law19_SyzygyIs_0, i1, i2, i3, rawSl_deep, part, nth, setAt]

open Classical in
set_option maxRecDepth 10000 in
set_option maxHeartbeats 4000000 in
theorem law_n1 {cs : Sem} (U : LawUses cs) (q0 q1 q2 : Raw) (at_ : Int) (hat : 0 ≤ at_ ∧ at_ ≤ 255) (o : Int) (x : List Raw) (a : Poly) (ga : PB 2 3 9 a) (h : cs n_ref13_Polys [.agg [dRaws x, .i .u8 o]] = some (dPolys [a], [])) :
    Rets KK cs false c_law19_SyzygyIs [.agg [dRaws x, .i .u8 o], .agg [rawSl q0, rawSl q1, rawSl q2], .i .u8 at_] (.b true) [] := by
  have hs := U.sanity
  have fa := ga.fineL (by omega) (by omega) (by omega)
  have gp := lawP_pb q0
  have fp := gp.fine (by omega) (by omega) (by omega)
  have gt0 := (PB.nil 3).add (gp.mono (d' := 3) (n' := 2) (by omega) (by omega))
  have ft := gt0.fine (by omega) (by omega) (by omega)
  have kp := U.poly q0
  have ka := U.add [] (lawP q0) nil_fine fp
  have i1 := U.is [[]] [a] (by simp) (by simp) (by simp [nil_fine]) (by simp [fa])
  have z1 : ZS [[]] [a] := ZS_zero [a]
  have i2 := U.is [padd [] (lawP q0)] [a] (by simp) (by simp) (by simp [ft]) (by simp [fa])
  have i3 := U.ris [padd [] (lawP q0)] [a] (by simp) (by simp) (by simp [ft]) (by simp [fa])
  have i4 := U.is [[], []] [a] (by simp) (by simp) (by simp [nil_fine]) (by simp [fa])
  have i5 := U.is [] [a] (by simp) (by simp) (by simp) (by simp [fa])
  have wa : IntKind.i64.wrap at_ = at_ := wrap_i64 (by omega) (by omega)
  have ma : at_.tmod 1 = 0 := Int.tmod_one _
  have w1 : IntKind.i64.wrap 1 = 1 := by decide
  have w0 : IntKind.i64.wrap 0 = 0 := by decide
  generalize hv : decide ([padd [] (lawP q0)].length = [a].length ∧ ZS [padd [] (lawP q0)] [a]) = v at i2 i3
  generalize ht : padd [] (lawP q0) = t at *
  generalize hp : lawP q0 = pp at *
  simp [z1, dPolys, dPoly, rawSl] at i1 i2 i3 i4 i5 h ka kp
  refine Rets.of rfl ?_
  unfold c_law19_SyzygyIs
  simp [hs, h, rawSl_deep, rawsCells_deep, part]
  rw [W_unroll]
  simp [l_law19_SyzygyIs_0, w1]
  rw [W_unroll]
  simp [l_law19_SyzygyIs_0, w0, w1, wa, ma, i1, i2, i3, i4, i5, kp, ka, rawSl, rawsCells_deep, part, nth, setAt, fillL]

set_option maxRecDepth 10000 in
set_option maxHeartbeats 8000000 in
theorem law_run2 {cs : Sem} (q0 q1 q2 : Raw) (at_ : Int) (hat : 0 ≤ at_ ∧ at_ ≤ 255) (o : Int) (x : List Raw) {a b p0 p1 m0 m1 m2 m3 u0 u1 s0 s1 t : Poly} {v : Bool}
    (hs : cs n_law19_sanity [] = some (.b true, [])) (h : cs n_ref13_Polys [.agg [dRaws x, .i .u8 o]] = some (dPolys [a, b], []))
    (k0 : cs n_law19_poly [dRaw q0] = some (dPoly p0, [])) (k1 : cs n_law19_poly [dRaw q1] = some (dPoly p1, []))
    (b0 : cs n_ref06_By [dPoly p0, dPoly b] = some (dPoly m0, [])) (a0 : cs n_ref06_Add [dPoly [], dPoly m0] = some (dPoly u0, []))
    (b1 : cs n_ref06_By [dPoly p0, dPoly a] = some (dPoly m1, [])) (a1 : cs n_ref06_Sub [dPoly [], dPoly m1] = some (dPoly u1, []))
    (b2 : cs n_ref06_By [dPoly p1, dPoly a] = some (dPoly m2, [])) (a2 : cs n_ref06_Add [dPoly u1, dPoly m2] = some (dPoly s1, []))
    (b3 : cs n_ref06_By [dPoly p1, dPoly b] = some (dPoly m3, [])) (a3 : cs n_ref06_Sub [dPoly u0, dPoly m3] = some (dPoly s0, []))
    (i1 : cs n_syzygy_Is [dPolys [s0, s1], dPolys [a, b]] = some (.b true, []))
    (hr : (at_.tmod 2 = 0 ∧ cs n_ref06_Add [dPoly s0, dPoly p0] = some (dPoly t, []) ∧ cs n_syzygy_Is [dPolys [t, s1], dPolys [a, b]] = some (.b v, []) ∧ cs n_ref19_Is [dPolys [t, s1], dPolys [a, b]] = some (.b v, [])) ∨
      (at_.tmod 2 = 1 ∧ cs n_ref06_Add [dPoly s1, dPoly p0] = some (dPoly t, []) ∧ cs n_syzygy_Is [dPolys [s0, t], dPolys [a, b]] = some (.b v, []) ∧ cs n_ref19_Is [dPolys [s0, t], dPolys [a, b]] = some (.b v, [])))
    (i4 : cs n_syzygy_Is [dPolys [s0, s1, []], dPolys [a, b]] = some (.b false, [])) (i5 : cs n_syzygy_Is [dPolys [s0], dPolys [a, b]] = some (.b false, [])) (i6 : cs n_syzygy_Is [dPolys [[], []], dPolys [a, b]] = some (.b true, [])) :
    Rets KK cs false c_law19_SyzygyIs [.agg [dRaws x, .i .u8 o], .agg [rawSl q0, rawSl q1, rawSl q2], .i .u8 at_] (.b true) [] := by
  have wa : IntKind.i64.wrap at_ = at_ := wrap_i64 (by omega) (by omega)
  have w1 : IntKind.i64.wrap 1 = 1 := by decide
  have w2 : IntKind.i64.wrap 2 = 2 := by decide
  have w0 : IntKind.i64.wrap 0 = 0 := by decide
  have m12 : (1 : Int).tmod 2 = 1 := by decide
  have m22 : (2 : Int).tmod 2 = 0 := by decide
  simp only [dPolys, List.length_cons, List.length_nil, List.map_cons, List.map_nil, Nat.zero_add, Nat.reduceAdd] at h i1 i4 i5 i6 hr
  rw [show dPoly [] = .sl 0 [] from rfl] at *
  refine Rets.of rfl ?_
  unfold c_law19_SyzygyIs
  simp [hs, h, rawSl_deep, rawsCells_deep, part]
  rw [W_unroll]
  simp [l_law19_SyzygyIs_0, w1, w2, m12, m22, k0, b0, a0, b1, a1, rawSl, rawsCells_deep, part, nth, setAt, fillL]
  rw [W_unroll]
  simp [l_law19_SyzygyIs_0, w1, w2, m12, m22, k1, b2, a2, b3, a3, rawSl, rawsCells_deep, part, nth, setAt, fillL]
  rw [W_unroll]
  rcases hr with ⟨hm, c1, c2, c3⟩ | ⟨hm, c1, c2, c3⟩
  · simp [l_law19_SyzygyIs_0, w0, w1, w2, wa, hm, i1, c1, c2, c3, i4, i5, i6, k0, rawSl, rawsCells_deep, part, nth, setAt, fillL]
  · simp [l_law19_SyzygyIs_0, w0, w1, w2, wa, hm, i1, c1, c2, c3, i4, i5, i6, k0, rawSl, rawsCells_deep, part, nth, setAt, fillL]

set_option maxRecDepth 10000 in
set_option maxHeartbeats 8000000 in
theorem law_run3 {cs : Sem} (q0 q1 q2 : Raw) (at_ : Int) (hat : 0 ≤ at_ ∧ at_ ≤ 255) (o : Int) (x : List Raw) {a b c p0 p1 p2 m0 m1 m2 m3 m4 m5 u0 u1 u2 s0 s1 s2 t : Poly} {v : Bool}
    (hs : cs n_law19_sanity [] = some (.b true, [])) (h : cs n_ref13_Polys [.agg [dRaws x, .i .u8 o]] = some (dPolys [a, b, c], []))
    (k0 : cs n_law19_poly [dRaw q0] = some (dPoly p0, [])) (k1 : cs n_law19_poly [dRaw q1] = some (dPoly p1, [])) (k2 : cs n_law19_poly [dRaw q2] = some (dPoly p2, []))
    (b0 : cs n_ref06_By [dPoly p0, dPoly b] = some (dPoly m0, [])) (a0 : cs n_ref06_Add [dPoly [], dPoly m0] = some (dPoly u0, []))
    (b1 : cs n_ref06_By [dPoly p0, dPoly a] = some (dPoly m1, [])) (a1 : cs n_ref06_Sub [dPoly [], dPoly m1] = some (dPoly u1, []))
    (b2 : cs n_ref06_By [dPoly p1, dPoly c] = some (dPoly m2, [])) (a2 : cs n_ref06_Add [dPoly u1, dPoly m2] = some (dPoly s1, []))
    (b3 : cs n_ref06_By [dPoly p1, dPoly b] = some (dPoly m3, [])) (a3 : cs n_ref06_Sub [dPoly [], dPoly m3] = some (dPoly u2, []))
    (b4 : cs n_ref06_By [dPoly p2, dPoly a] = some (dPoly m4, [])) (a4 : cs n_ref06_Add [dPoly u2, dPoly m4] = some (dPoly s2, []))
    (b5 : cs n_ref06_By [dPoly p2, dPoly c] = some (dPoly m5, [])) (a5 : cs n_ref06_Sub [dPoly u0, dPoly m5] = some (dPoly s0, []))
    (i1 : cs n_syzygy_Is [dPolys [s0, s1, s2], dPolys [a, b, c]] = some (.b true, []))
    (hr : (at_.tmod 3 = 0 ∧ cs n_ref06_Add [dPoly s0, dPoly p0] = some (dPoly t, []) ∧ cs n_syzygy_Is [dPolys [t, s1, s2], dPolys [a, b, c]] = some (.b v, []) ∧ cs n_ref19_Is [dPolys [t, s1, s2], dPolys [a, b, c]] = some (.b v, [])) ∨
      (at_.tmod 3 = 1 ∧ cs n_ref06_Add [dPoly s1, dPoly p0] = some (dPoly t, []) ∧ cs n_syzygy_Is [dPolys [s0, t, s2], dPolys [a, b, c]] = some (.b v, []) ∧ cs n_ref19_Is [dPolys [s0, t, s2], dPolys [a, b, c]] = some (.b v, [])) ∨
      (at_.tmod 3 = 2 ∧ cs n_ref06_Add [dPoly s2, dPoly p0] = some (dPoly t, []) ∧ cs n_syzygy_Is [dPolys [s0, s1, t], dPolys [a, b, c]] = some (.b v, []) ∧ cs n_ref19_Is [dPolys [s0, s1, t], dPolys [a, b, c]] = some (.b v, [])))
    (i4 : cs n_syzygy_Is [dPolys [s0, s1, s2, []], dPolys [a, b, c]] = some (.b false, [])) (i5 : cs n_syzygy_Is [dPolys [s0, s1], dPolys [a, b, c]] = some (.b false, [])) (i6 : cs n_syzygy_Is [dPolys [[], [], []], dPolys [a, b, c]] = some (.b true, [])) :
    Rets KK cs false c_law19_SyzygyIs [.agg [dRaws x, .i .u8 o], .agg [rawSl q0, rawSl q1, rawSl q2], .i .u8 at_] (.b true) [] := by
  have wa : IntKind.i64.wrap at_ = at_ := wrap_i64 (by omega) (by omega)
  have w1 : IntKind.i64.wrap 1 = 1 := by decide
  have w2 : IntKind.i64.wrap 2 = 2 := by decide
  have w3 : IntKind.i64.wrap 3 = 3 := by decide
  have w0 : IntKind.i64.wrap 0 = 0 := by decide
  have m12 : (1 : Int).tmod 3 = 1 := by decide
  have m22 : (2 : Int).tmod 3 = 2 := by decide
  have m32 : (3 : Int).tmod 3 = 0 := by decide
  simp only [dPolys, List.length_cons, List.length_nil, List.map_cons, List.map_nil, Nat.zero_add, Nat.reduceAdd] at h i1 i4 i5 i6 hr
  rw [show dPoly [] = .sl 0 [] from rfl] at *
  refine Rets.of rfl ?_
  unfold c_law19_SyzygyIs
  simp [hs, h, rawSl_deep, rawsCells_deep, part]
  rw [W_unroll]
  simp [l_law19_SyzygyIs_0, w1, w2, w3, m12, m22, m32, k0, b0, a0, b1, a1, rawSl, rawsCells_deep, part, nth, setAt, fillL]
  rw [W_unroll]
  simp [l_law19_SyzygyIs_0, w1, w2, w3, m12, m22, m32, k1, b2, a2, b3, a3, rawSl, rawsCells_deep, part, nth, setAt, fillL]
  rw [W_unroll]
  simp [l_law19_SyzygyIs_0, w1, w2, w3, m12, m22, m32, k2, b4, a4, b5, a5, rawSl, rawsCells_deep, part, nth, setAt, fillL]
  rw [W_unroll]
  rcases hr with ⟨hm, c1, c2, c3⟩ | ⟨hm, c1, c2, c3⟩ | ⟨hm, c1, c2, c3⟩
  · simp [l_law19_SyzygyIs_0, w0, w1, w2, w3, wa, hm, i1, c1, c2, c3, i4, i5, i6, k0, rawSl, rawsCells_deep, part, nth, setAt, fillL]
  · simp [l_law19_SyzygyIs_0, w0, w1, w2, w3, wa, hm, i1, c1, c2, c3, i4, i5, i6, k0, rawSl, rawsCells_deep, part, nth, setAt, fillL]
  · simp [l_law19_SyzygyIs_0, w0, w1, w2, w3, wa, hm, i1, c1, c2, c3, i4, i5, i6, k0, rawSl, rawsCells_deep, part, nth, setAt, fillL]

theorem coef_add_nil (p : Poly) (k : Mono) : coef (padd [] p) k = coef p k := by rw [padd_nil]

open Classical in
set_option maxHeartbeats 4000000 in
theorem law_n2 {cs : Sem} (U : LawUses cs) (q0 q1 q2 : Raw) (at_ : Int) (hat : 0 ≤ at_ ∧ at_ ≤ 255) (o : Int) (x : List Raw) (a b : Poly) (ga : PB 2 3 9 a) (gb : PB 2 3 9 b) (h : cs n_ref13_Polys [.agg [dRaws x, .i .u8 o]] = some (dPolys [a, b], [])) :
    Rets KK cs false c_law19_SyzygyIs [.agg [dRaws x, .i .u8 o], .agg [rawSl q0, rawSl q1, rawSl q2], .i .u8 at_] (.b true) [] := by
  have g0 := lawP_pb q0
  have g1 := lawP_pb q1
  have gm0 := g0.mul gb
  have gm1 := g0.mul ga
  have gm2 := g1.mul ga
  have gm3 := g1.mul gb
  have gu0 := (PB.nil (1 + 2)).add gm0
  have gu1 := (PB.nil (1 + 2)).sub gm1
  have gs1 := gu1.add gm2
  have gs0 := gu0.sub gm3
  have g0' := g0.mono (d' := 1 + 2) (n' := 2) (by omega) (by omega)
  have fa := ga.fineL (by omega) (by omega) (by omega)
  have fb := gb.fineL (by omega) (by omega) (by omega)
  have f0 := g0.fine (by omega) (by omega) (by omega)
  have f1 := g1.fine (by omega) (by omega) (by omega)
  have fs0 := gs0.fine (by omega) (by omega) (by omega)
  have fs1 := gs1.fine (by omega) (by omega) (by omega)
  have ft0 := (gs0.add g0').fine (by omega) (by omega) (by omega)
  have ft1 := (gs1.add g0').fine (by omega) (by omega) (by omega)
  have z1 : ZS [psub (padd [] (pmul0 [] (lawP q0) b)) (pmul0 [] (lawP q1) b), padd (psub [] (pmul0 [] (lawP q0) a)) (pmul0 [] (lawP q1) a)] [a, b] := by
    refine ZS_two (p := lawP q0) (q := lawP q1) (fun j => ?_) (fun j => ?_)
    · rw [coef_psub, coef_add_nil, coef_pmul0, coef_pmul0]; simp only [coef]; grind
    · rw [coef_padd, coef_psub, coef_pmul0, coef_pmul0]; simp only [coef]; grind
  have hl : ∀ p ∈ [a, b], FineL p := by simp [fa, fb]
  have hr : at_.tmod 2 = 0 ∨ at_.tmod 2 = 1 := by
    have := Int.tmod_eq_emod_of_nonneg (b := 2) hat.1; omega
  have e0 := U.add _ _ nil_fine (gm0.fine (by omega) (by omega) (by omega))
  have e1 := U.sub _ _ nil_fine (gm1.fine (by omega) (by omega) (by omega))
  have e2 := U.add _ _ (gu1.fine (by omega) (by omega) (by omega)) (gm2.fine (by omega) (by omega) (by omega))
  have e3 := U.sub _ _ (gu0.fine (by omega) (by omega) (by omega)) (gm3.fine (by omega) (by omega) (by omega))
  generalize psub (padd [] (pmul0 [] (lawP q0) b)) (pmul0 [] (lawP q1) b) = S0 at *
  generalize padd (psub [] (pmul0 [] (lawP q0) a)) (pmul0 [] (lawP q1) a) = S1 at *
  have i1 := U.is [S0, S1] [a, b] (by simp) (by simp) (by simp [fs0, fs1]) hl
  rw [decide_eq_true ⟨rfl, z1⟩] at i1
  have i4 := U.is [S0, S1, []] [a, b] (by simp) (by simp) (by simp [fs0, fs1, nil_fine]) hl
  rw [decide_eq_false (by simp)] at i4
  have i5 := U.is [S0] [a, b] (by simp) (by simp) (by simp [fs0]) hl
  rw [decide_eq_false (by simp)] at i5
  have i6 := U.is [[], []] [a, b] (by simp) (by simp) (by simp [nil_fine]) hl
  rw [decide_eq_true ⟨rfl, ZS_zero [a, b]⟩] at i6
  rcases hr with hr | hr
  · exact law_run2 q0 q1 q2 at_ hat o x U.sanity h (U.poly q0) (U.poly q1) (U.by_ _ _ f0 fb) e0 (U.by_ _ _ f0 fa) e1 (U.by_ _ _ f1 fa) e2 (U.by_ _ _ f1 fb) e3 i1
      (.inl ⟨hr, U.add _ _ fs0 f0, U.is [_, _] [a, b] (by simp) (by simp) (by simp [ft0, fs1]) hl, U.ris [_, _] [a, b] (by simp) (by simp) (by simp [ft0, fs1]) hl⟩) i4 i5 i6
  · exact law_run2 q0 q1 q2 at_ hat o x U.sanity h (U.poly q0) (U.poly q1) (U.by_ _ _ f0 fb) e0 (U.by_ _ _ f0 fa) e1 (U.by_ _ _ f1 fa) e2 (U.by_ _ _ f1 fb) e3 i1
      (.inr ⟨hr, U.add _ _ fs1 f0, U.is [_, _] [a, b] (by simp) (by simp) (by simp [ft1, fs0]) hl, U.ris [_, _] [a, b] (by simp) (by simp) (by simp [ft1, fs0]) hl⟩) i4 i5 i6

open Classical in
set_option maxHeartbeats 4000000 in
theorem law_n3 {cs : Sem} (U : LawUses cs) (q0 q1 q2 : Raw) (at_ : Int) (hat : 0 ≤ at_ ∧ at_ ≤ 255) (o : Int) (x : List Raw) (a b c : Poly) (ga : PB 2 3 9 a) (gb : PB 2 3 9 b) (gc : PB 2 3 9 c) (h : cs n_ref13_Polys [.agg [dRaws x, .i .u8 o]] = some (dPolys [a, b, c], [])) :
    Rets KK cs false c_law19_SyzygyIs [.agg [dRaws x, .i .u8 o], .agg [rawSl q0, rawSl q1, rawSl q2], .i .u8 at_] (.b true) [] := by
  have g0 := lawP_pb q0
  have g1 := lawP_pb q1
  have g2 := lawP_pb q2
  have gm0 := g0.mul gb
  have gm1 := g0.mul ga
  have gm2 := g1.mul gc
  have gm3 := g1.mul gb
  have gm4 := g2.mul ga
  have gm5 := g2.mul gc
  have gu0 := (PB.nil (1 + 2)).add gm0
  have gu1 := (PB.nil (1 + 2)).sub gm1
  have gu2 := (PB.nil (1 + 2)).sub gm3
  have gs1 := gu1.add gm2
  have gs2 := gu2.add gm4
  have gs0 := gu0.sub gm5
  have g0' := g0.mono (d' := 1 + 2) (n' := 2) (by omega) (by omega)
  have fa := ga.fineL (by omega) (by omega) (by omega)
  have fb := gb.fineL (by omega) (by omega) (by omega)
  have fc := gc.fineL (by omega) (by omega) (by omega)
  have f0 := g0.fine (by omega) (by omega) (by omega)
  have f1 := g1.fine (by omega) (by omega) (by omega)
  have f2 := g2.fine (by omega) (by omega) (by omega)
  have fs0 := gs0.fine (by omega) (by omega) (by omega)
  have fs1 := gs1.fine (by omega) (by omega) (by omega)
  have fs2 := gs2.fine (by omega) (by omega) (by omega)
  have ft0 := (gs0.add g0').fine (by omega) (by omega) (by omega)
  have ft1 := (gs1.add g0').fine (by omega) (by omega) (by omega)
  have ft2 := (gs2.add g0').fine (by omega) (by omega) (by omega)
  have z1 : ZS [psub (padd [] (pmul0 [] (lawP q0) b)) (pmul0 [] (lawP q2) c), padd (psub [] (pmul0 [] (lawP q0) a)) (pmul0 [] (lawP q1) c), padd (psub [] (pmul0 [] (lawP q1) b)) (pmul0 [] (lawP q2) a)] [a, b, c] := by
    refine ZS_three (p := lawP q0) (q := lawP q1) (r := lawP q2) (fun j => ?_) (fun j => ?_) (fun j => ?_)
    · rw [coef_psub, coef_add_nil, coef_pmul0, coef_pmul0]; simp only [coef]; grind
    · rw [coef_padd, coef_psub, coef_pmul0, coef_pmul0]; simp only [coef]; grind
    · rw [coef_padd, coef_psub, coef_pmul0, coef_pmul0]; simp only [coef]; grind
  have hl : ∀ p ∈ [a, b, c], FineL p := by simp [fa, fb, fc]
  have hr : at_.tmod 3 = 0 ∨ at_.tmod 3 = 1 ∨ at_.tmod 3 = 2 := by
    have := Int.tmod_eq_emod_of_nonneg (b := 3) hat.1; omega
  have e0 := U.add _ _ nil_fine (gm0.fine (by omega) (by omega) (by omega))
  have e1 := U.sub _ _ nil_fine (gm1.fine (by omega) (by omega) (by omega))
  have e2 := U.add _ _ (gu1.fine (by omega) (by omega) (by omega)) (gm2.fine (by omega) (by omega) (by omega))
  have e3 := U.sub _ _ nil_fine (gm3.fine (by omega) (by omega) (by omega))
  have e4 := U.add _ _ (gu2.fine (by omega) (by omega) (by omega)) (gm4.fine (by omega) (by omega) (by omega))
  have e5 := U.sub _ _ (gu0.fine (by omega) (by omega) (by omega)) (gm5.fine (by omega) (by omega) (by omega))
  generalize psub (padd [] (pmul0 [] (lawP q0) b)) (pmul0 [] (lawP q2) c) = S0 at *
  generalize padd (psub [] (pmul0 [] (lawP q0) a)) (pmul0 [] (lawP q1) c) = S1 at *
  generalize padd (psub [] (pmul0 [] (lawP q1) b)) (pmul0 [] (lawP q2) a) = S2 at *
  have i1 := U.is [S0, S1, S2] [a, b, c] (by simp) (by simp) (by simp [fs0, fs1, fs2]) hl
  rw [decide_eq_true ⟨rfl, z1⟩] at i1
  have i4 := U.is [S0, S1, S2, []] [a, b, c] (by simp) (by simp) (by simp [fs0, fs1, fs2, nil_fine]) hl
  rw [decide_eq_false (by simp)] at i4
  have i5 := U.is [S0, S1] [a, b, c] (by simp) (by simp) (by simp [fs0, fs1]) hl
  rw [decide_eq_false (by simp)] at i5
  have i6 := U.is [[], [], []] [a, b, c] (by simp) (by simp) (by simp [nil_fine]) hl
  rw [decide_eq_true ⟨rfl, ZS_zero [a, b, c]⟩] at i6
  rcases hr with hr | hr | hr
  · exact law_run3 q0 q1 q2 at_ hat o x U.sanity h (U.poly q0) (U.poly q1) (U.poly q2) (U.by_ _ _ f0 fb) e0 (U.by_ _ _ f0 fa) e1 (U.by_ _ _ f1 fc) e2 (U.by_ _ _ f1 fb) e3 (U.by_ _ _ f2 fa) e4 (U.by_ _ _ f2 fc) e5 i1
      (.inl ⟨hr, U.add _ _ fs0 f0, U.is [_, _, _] [a, b, c] (by simp) (by simp) (by simp [ft0, fs1, fs2]) hl, U.ris [_, _, _] [a, b, c] (by simp) (by simp) (by simp [ft0, fs1, fs2]) hl⟩) i4 i5 i6
  · exact law_run3 q0 q1 q2 at_ hat o x U.sanity h (U.poly q0) (U.poly q1) (U.poly q2) (U.by_ _ _ f0 fb) e0 (U.by_ _ _ f0 fa) e1 (U.by_ _ _ f1 fc) e2 (U.by_ _ _ f1 fb) e3 (U.by_ _ _ f2 fa) e4 (U.by_ _ _ f2 fc) e5 i1
      (.inr (.inl ⟨hr, U.add _ _ fs1 f0, U.is [_, _, _] [a, b, c] (by simp) (by simp) (by simp [ft1, fs0, fs2]) hl, U.ris [_, _, _] [a, b, c] (by simp) (by simp) (by simp [ft1, fs0, fs2]) hl⟩)) i4 i5 i6
  · exact law_run3 q0 q1 q2 at_ hat o x U.sanity h (U.poly q0) (U.poly q1) (U.poly q2) (U.by_ _ _ f0 fb) e0 (U.by_ _ _ f0 fa) e1 (U.by_ _ _ f1 fc) e2 (U.by_ _ _ f1 fb) e3 (U.by_ _ _ f2 fa) e4 (U.by_ _ _ f2 fc) e5 i1
      (.inr (.inr ⟨hr, U.add _ _ fs2 f0, U.is [_, _, _] [a, b, c] (by simp) (by simp) (by simp [ft2, fs0, fs1]) hl, U.ris [_, _, _] [a, b, c] (by simp) (by simp) (by simp [ft2, fs0, fs1]) hl⟩)) i4 i5 i6

theorem law19_SyzygyIs_rets {cs : Sem} (U : LawUses cs) (q0 q1 q2 : Raw) (at_ : Int) (hat : 0 ≤ at_ ∧ at_ ≤ 255) (o : Int) (x : List Raw) :
    Rets KK cs false c_law19_SyzygyIs [.agg [dRaws x, .i .u8 o], .agg [rawSl q0, rawSl q1, rawSl q2], .i .u8 at_] (.b true) [] := by
  have h := U.polys x o
  have g : ∀ y : Raw, PB 2 3 9 (made 2 2 [] (y.take 3)) := fun y => made_pb 2 (by omega) 2 (by omega) 3 y
  match x with
  | [] => exact law_n0 U q0 q1 q2 at_ hat o _ h
  | [y] => exact law_n1 U q0 q1 q2 at_ hat o _ _ (g y) h
  | [y, z] => exact law_n2 U q0 q1 q2 at_ hat o _ _ _ (g y) (g z) h
  | y :: z :: w :: r => exact law_n3 U q0 q1 q2 at_ hat o _ _ _ _ (g y) (g z) (g w) h
end Go.Ev

/- The contracts as functions, and how they follow from the contracts of their callees. -/
namespace Go.Ev
open Go.Pm

/-- A function of the program has this code. -/
def Has (P : Program) (f : Nat) (c : Fun) : Prop := ∃ fn, P.funcs[f]? = some fn ∧ fn.name ≠ "runtime.NumGoroutine" ∧ toFun P KK fn = some c

abbrev G := List DV → Option (DV × List (List DV))

theorem ok_of {P : Program} (hm : P.follows .mixedOrders = true) {l : List (Nat × G)} (hl : ∀ x ∈ l, FnOK P x.1 x.2) {f : Nat} {c : Fun} (hh : Has P f c) {own : Bool} (ho : (KK.fc f).own = own)
    {α : Type} {enc : α → List DV} {cond : α → Prop} {out : α → DV × List (List DV)} (h : ∀ a, cond a → Rets KK (sem l) own c (enc a) (out a).1 (out a).2) : FnOK P f (spec enc cond out) := by
  obtain ⟨fn, h1, h2, h3⟩ := hh
  exact spec_ok fun a ha => FnAt.of hm (sem_ok hl) h1 h2 h3 (by rw [ho]; exact h a ha)

/-! ### Families of arguments -/
section
theorem inj_m : ∀ a b : Mono, [dMono a] = [dMono b] → a = b := fun a b h => dMono_inj (by simpa using h)
theorem inj_r : ∀ a b : Rat, [dRat a] = [dRat b] → a = b := fun a b h => dRat_inj (by simpa using h)
theorem inj_mm : ∀ a b : Mono × Mono, [dMono a.1, dMono a.2] = [dMono b.1, dMono b.2] → a = b := by
  intro a b h
  simp only [List.cons.injEq, and_true] at h
  exact Prod.ext (dMono_inj h.1) (dMono_inj h.2)
theorem inj_rr : ∀ a b : Rat × Rat, [dRat a.1, dRat a.2] = [dRat b.1, dRat b.2] → a = b := by
  intro a b h
  simp only [List.cons.injEq, and_true] at h
  exact Prod.ext (dRat_inj h.1) (dRat_inj h.2)
theorem inj_pp : ∀ a b : Poly × Poly, [dPoly a.1, dPoly a.2] = [dPoly b.1, dPoly b.2] → a = b := by
  intro a b h
  simp only [List.cons.injEq, and_true] at h
  exact Prod.ext (dPoly_inj h.1) (dPoly_inj h.2)
theorem inj_rp : ∀ a b : Rat × Poly, [dRat a.1, dPoly a.2] = [dRat b.1, dPoly b.2] → a = b := by
  intro a b h
  simp only [List.cons.injEq, and_true] at h
  exact Prod.ext (dRat_inj h.1) (dPoly_inj h.2)
theorem inj_rmp : ∀ a b : Rat × Mono × Poly, [dRat a.1, dMono a.2.1, dPoly a.2.2] = [dRat b.1, dMono b.2.1, dPoly b.2.2] → a = b := by
  intro a b h
  simp only [List.cons.injEq, and_true] at h
  exact Prod.ext (dRat_inj h.1) (Prod.ext (dMono_inj h.2.1) (dPoly_inj h.2.2))
theorem inj_ll : ∀ a b : List Poly × List Poly, [dPolys a.1, dPolys a.2] = [dPolys b.1, dPolys b.2] → a = b := by
  intro a b h
  simp only [List.cons.injEq, and_true] at h
  exact Prod.ext (dPolys_inj h.1) (dPolys_inj h.2)
theorem inj_i (k : IntKind) : ∀ a b : Int, [DV.i k a] = [DV.i k b] → a = b := fun a b h => by simpa using h
theorem inj_ii (k : IntKind) : ∀ a b : Int × Int, [DV.i k a.1, DV.i k a.2] = [DV.i k b.1, DV.i k b.2] → a = b := by
  intro a b h
  simp at h
  exact Prod.ext h.1 h.2
theorem dEnt_inj {a b : Mono × Rat} (h : dEnt a = dEnt b) : a = b := by
  simp only [dEnt, DV.tup.injEq, List.cons.injEq, and_true] at h
  exact Prod.ext (dMono_inj h.1) (dRat_inj h.2)
theorem rawCells_inj {s t : RawT} (h : rawCells s = rawCells t) : s = t := by
  have := map_inj (f := (DV.i .i8 ·)) (fun a b e => by simpa using e) h
  cases s; cases t; simp_all
theorem rawsCells_inj : ∀ {x y : Raw}, rawsCells x = rawsCells y → x = y
  | [], [], _ => rfl
  | [], t :: y, h => by have := congrArg List.length h; simp [rawsCells, rawCells_length] at this; have h2 := rawCells_length t; omega
  | t :: x, [], h => by have := congrArg List.length h; simp [rawsCells, rawCells_length] at this
  | s :: x, t :: y, h => by
    have e : ∀ (t : RawT) (x : Raw), rawsCells (t :: x) = rawCells t ++ rawsCells x := fun _ _ => rfl
    rw [e, e] at h
    have := List.append_inj h (by rw [rawCells_length, rawCells_length])
    rw [rawCells_inj this.1, rawsCells_inj this.2]
theorem dRaw_inj {x y : Raw} (h : dRaw x = dRaw y) : x = y := by
  simp only [DV.agg.injEq, List.cons.injEq, DV.sl.injEq, and_true] at h
  exact rawsCells_inj h.2
theorem rawSl_inj {x y : Raw} (h : rawSl x = rawSl y) : x = y := by
  simp only [rawSl, DV.sl.injEq] at h
  exact rawsCells_inj h.2
theorem dRaws_inj {x y : List Raw} (h : dRaws x = dRaws y) : x = y := by
  simp only [DV.sl.injEq] at h
  exact map_inj (fun a b e => rawSl_inj e) h.2
end

/-! ### Monomials -/
section
variable {P : Program}

noncomputable def g_ref04_Cmp : G := spec (fun a : Mono × Mono => [dMono a.1, dMono a.2]) (fun _ => True) (fun a => (.i .i64 (Mono.cmp a.1 a.2), []))
theorem e_ref04_Cmp (a b : Mono) : g_ref04_Cmp [dMono a, dMono b] = some (.i .i64 (Mono.cmp a b), []) := spec_eq (a := (a, b)) inj_mm trivial
theorem ok_ref04_Cmp (hm : P.follows .mixedOrders = true) (hh : Has P n_ref04_Cmp c_ref04_Cmp) : FnOK P n_ref04_Cmp g_ref04_Cmp := ok_of hm (l := []) (by simp) hh rfl fun a _ => ref04_Cmp_rets _ a.1 a.2

noncomputable def g_ref04_Valid : G := spec (fun a : Mono => [dMono a]) (fun _ => True) (fun a => (.b (decide (Mo.bd 65535 a)), []))
theorem e_ref04_Valid (a : Mono) : g_ref04_Valid [dMono a] = some (.b (decide (Mo.bd 65535 a)), []) := spec_eq inj_m trivial
theorem ok_ref04_Valid (hm : P.follows .mixedOrders = true) (hh : Has P n_ref04_Valid c_ref04_Valid) : FnOK P n_ref04_Valid g_ref04_Valid := ok_of hm (l := []) (by simp) hh rfl fun a _ => ref04_Valid_rets _ a

noncomputable def g_ref04_Mul : G := spec (fun a : Mono × Mono => [dMono a.1, dMono a.2]) (fun a => Mo.bd 65535 a.1 ∧ Mo.bd 65535 a.2) (fun a => (.tup [dMono (if Mo.bd 65535 (a.1.add a.2) then a.1.add a.2 else Mono.zero), .i .i64 (if Mo.bd 65535 (a.1.add a.2) then 0 else 2)], []))
theorem e_ref04_Mul (a b : Mono) (ha : Mo.bd 65535 a) (hb : Mo.bd 65535 b) : g_ref04_Mul [dMono a, dMono b] = some (.tup [dMono (if Mo.bd 65535 (a.add b) then a.add b else Mono.zero), .i .i64 (if Mo.bd 65535 (a.add b) then 0 else 2)], []) := spec_eq (a := (a, b)) inj_mm ⟨ha, hb⟩
theorem ok_ref04_Mul (hm : P.follows .mixedOrders = true) (hh : Has P n_ref04_Mul c_ref04_Mul) (h1 : FnOK P n_ref04_Valid g_ref04_Valid) : FnOK P n_ref04_Mul g_ref04_Mul :=
  ok_of hm (l := [(n_ref04_Valid, g_ref04_Valid)]) (by simpa using h1) hh rfl fun a ha => ref04_Mul_rets _ (fun b => e_ref04_Valid b) a.1 a.2 ha.1 ha.2

noncomputable def g_monomial_Valid : G := spec (fun a : Mono => [dMono a]) (fun _ => True) (fun a => (.b (decide (Mo.bd 65535 a)), []))
theorem e_monomial_Valid (a : Mono) : g_monomial_Valid [dMono a] = some (.b (decide (Mo.bd 65535 a)), []) := spec_eq inj_m trivial
theorem ok_monomial_Valid (hm : P.follows .mixedOrders = true) (hh : Has P n_monomial_Valid c_monomial_Valid) : FnOK P n_monomial_Valid g_monomial_Valid := ok_of hm (l := []) (by simp) hh rfl fun a _ => monomial_Valid_rets _ a

noncomputable def g_monomial_Mul_1 : G := spec (fun a : Int × Int => [.i .i64 a.1, .i .i64 a.2]) (fun a => -9223372036854775808 ≤ a.1 + a.2 ∧ a.1 + a.2 ≤ 9223372036854775807) (fun a => (.i .i64 (a.1 + a.2), []))
theorem e_monomial_Mul_1 (x y : Int) (h : -9223372036854775808 ≤ x + y ∧ x + y ≤ 9223372036854775807) : g_monomial_Mul_1 [.i .i64 x, .i .i64 y] = some (.i .i64 (x + y), []) := spec_eq (a := (x, y)) (inj_ii .i64) h
theorem ok_monomial_Mul_1 (hm : P.follows .mixedOrders = true) (hh : Has P n_monomial_Mul_1 c_monomial_Mul_1) : FnOK P n_monomial_Mul_1 g_monomial_Mul_1 := ok_of hm (l := []) (by simp) hh rfl fun a h => monomial_Mul_1_rets _ a.1 a.2 h

theorem inj_mmf (f : Nat) : ∀ a b : Mono × Mono, [dMono a.1, dMono a.2, DV.fn f []] = [dMono b.1, dMono b.2, DV.fn f []] → a = b := by
  intro a b h
  simp only [List.cons.injEq, and_true] at h
  exact Prod.ext (dMono_inj h.1) (dMono_inj h.2)
noncomputable def g_monomial_each : G := spec (fun a : Mono × Mono => [dMono a.1, dMono a.2, .fn n_monomial_Mul_1 []]) (fun a => Mo.bd 65535 a.1 ∧ Mo.bd 65535 a.2) (fun a => (dMono (a.1.add a.2), []))
theorem e_monomial_each (a b : Mono) (ha : Mo.bd 65535 a) (hb : Mo.bd 65535 b) : g_monomial_each [dMono a, dMono b, .fn n_monomial_Mul_1 []] = some (dMono (a.add b), []) := spec_eq (a := (a, b)) (inj_mmf _) ⟨ha, hb⟩
theorem ok_monomial_each (hm : P.follows .mixedOrders = true) (hh : Has P n_monomial_each c_monomial_each) (h1 : FnOK P n_monomial_Mul_1 g_monomial_Mul_1) : FnOK P n_monomial_each g_monomial_each :=
  ok_of hm (l := [(n_monomial_Mul_1, g_monomial_Mul_1)]) (by simpa using h1) hh rfl fun a ha => monomial_each_rets _ (fun x y => x + y) n_monomial_Mul_1 rfl a.1 a.2 fun x hx y hy =>
    e_monomial_Mul_1 x y (by have := ha.1 x hx; have := ha.2 y hy; omega)

noncomputable def g_monomial_Mul : G := spec (fun a : Mono × Mono => [dMono a.1, dMono a.2]) (fun a => Mo.bd 65535 a.1 ∧ Mo.bd 65535 a.2) (fun a => (.tup [dMono (if Mo.bd 65535 (a.1.add a.2) then a.1.add a.2 else Mono.zero), .i .i64 (if Mo.bd 65535 (a.1.add a.2) then 0 else 2)], []))
theorem e_monomial_Mul (a b : Mono) (ha : Mo.bd 65535 a) (hb : Mo.bd 65535 b) : g_monomial_Mul [dMono a, dMono b] = some (.tup [dMono (if Mo.bd 65535 (a.add b) then a.add b else Mono.zero), .i .i64 (if Mo.bd 65535 (a.add b) then 0 else 2)], []) := spec_eq (a := (a, b)) inj_mm ⟨ha, hb⟩
theorem ok_monomial_Mul (hm : P.follows .mixedOrders = true) (hh : Has P n_monomial_Mul c_monomial_Mul) (h1 : FnOK P n_monomial_Valid g_monomial_Valid) (h2 : FnOK P n_monomial_each g_monomial_each) : FnOK P n_monomial_Mul g_monomial_Mul :=
  ok_of hm (l := [(n_monomial_Valid, g_monomial_Valid), (n_monomial_each, g_monomial_each)]) (by simpa using ⟨h1, h2⟩) hh rfl fun a ha => monomial_Mul_rets _ (fun b => e_monomial_Valid b) a.1 a.2 (e_monomial_each _ _ ha.1 ha.2)

noncomputable def g_isNaN : G := spec (fun a : Int => [.i .i64 a]) (fun _ => True) (fun _ => (.b false, []))
theorem e_isNaN (x : Int) : g_isNaN [.i .i64 x] = some (.b false, []) := spec_eq (inj_i .i64) trivial
theorem ok_isNaN (hm : P.follows .mixedOrders = true) (hh : Has P n_cmp_isNaN_int c_cmp_isNaN_int) : FnOK P n_cmp_isNaN_int g_isNaN := ok_of hm (l := []) (by simp) hh rfl fun a _ => cmp_isNaN_int_rets _ a

noncomputable def g_cmp_int : G := spec (fun a : Int × Int => [.i .i64 a.1, .i .i64 a.2]) (fun _ => True) (fun a => (.i .i64 (if a.1 < a.2 then -1 else if a.2 < a.1 then 1 else 0), []))
theorem e_cmp_int (x y : Int) : g_cmp_int [.i .i64 x, .i .i64 y] = some (.i .i64 (if x < y then -1 else if y < x then 1 else 0), []) := spec_eq (a := (x, y)) (inj_ii .i64) trivial
theorem ok_cmp_int (hm : P.follows .mixedOrders = true) (hh : Has P n_cmp_Compare_int c_cmp_Compare_int) (h1 : FnOK P n_cmp_isNaN_int g_isNaN) : FnOK P n_cmp_Compare_int g_cmp_int :=
  ok_of hm (l := [(n_cmp_isNaN_int, g_isNaN)]) (by simpa using h1) hh rfl fun a _ => cmp_Compare_int_rets _ (fun x => e_isNaN x) a.1 a.2

theorem inj_ss : ∀ a b : Mono × Mono, [DV.sl 8 (mcells a.1), DV.sl 8 (mcells a.2)] = [DV.sl 8 (mcells b.1), DV.sl 8 (mcells b.2)] → a = b := by
  intro a b h
  simp only [List.cons.injEq, DV.sl.injEq, true_and, and_true] at h
  exact Prod.ext (mcells_inj h.1) (mcells_inj h.2)
noncomputable def g_slices_Compare : G := spec (fun a : Mono × Mono => [.sl 8 (mcells a.1), .sl 8 (mcells a.2)]) (fun _ => True) (fun a => (.i .i64 (Mono.cmp a.1 a.2), []))
theorem e_slices_Compare (a b : Mono) : g_slices_Compare [.sl 8 (mcells a), .sl 8 (mcells b)] = some (.i .i64 (Mono.cmp a b), []) := spec_eq (a := (a, b)) inj_ss trivial
theorem ok_slices_Compare (hm : P.follows .mixedOrders = true) (hh : Has P n_slices_Compare_int_int c_slices_Compare_int_int) (h1 : FnOK P n_cmp_Compare_int g_cmp_int) : FnOK P n_slices_Compare_int_int g_slices_Compare :=
  ok_of hm (l := [(n_cmp_Compare_int, g_cmp_int)]) (by simpa using h1) hh rfl fun a _ => slices_Compare_rets _ (fun x y => e_cmp_int x y) a.1 a.2

noncomputable def g_monomial_Cmp : G := spec (fun a : Mono × Mono => [dMono a.1, dMono a.2]) (fun _ => True) (fun a => (.i .i64 (Mono.cmp a.1 a.2), []))
theorem e_monomial_Cmp (a b : Mono) : g_monomial_Cmp [dMono a, dMono b] = some (.i .i64 (Mono.cmp a b), []) := spec_eq (a := (a, b)) inj_mm trivial
theorem ok_monomial_Cmp (hm : P.follows .mixedOrders = true) (hh : Has P n_monomial_Cmp c_monomial_Cmp) (h1 : FnOK P n_slices_Compare_int_int g_slices_Compare) : FnOK P n_monomial_Cmp g_monomial_Cmp :=
  ok_of hm (l := [(n_slices_Compare_int_int, g_slices_Compare)]) (by simpa using h1) hh rfl fun a _ => monomial_Cmp_rets _ a.1 a.2 (e_slices_Compare _ _)
end
end Go.Ev

/- Contracts of the functions on polynomials, from the contracts of numbers. -/
namespace Go.Ev
open Go.Pm

/-- What is known of numbers: signs of all, sums and products of small whole ones. -/
def Sm (B : Nat) (a : Rat) : Prop := a.den = 1 ∧ nm a ≤ B

structure NumG where
  n : Nat
  g : G

section
variable {P : Program}

noncomputable def g_sign : G := spec (fun a : Rat => [dRat a]) (fun _ => True) (fun a => (.i .i64 (sgn a), []))
theorem e_sign (a : Rat) : g_sign [dRat a] = some (.i .i64 (sgn a), []) := spec_eq inj_r trivial
noncomputable def g_add : G := spec (fun a : Rat × Rat => [dRat a.1, dRat a.2]) (fun a => Sm 16000 a.1 ∧ Sm 16000 a.2) (fun a => (dRat (a.1 + a.2), []))
theorem e_add (a b : Rat) (ha : Sm 16000 a) (hb : Sm 16000 b) : g_add [dRat a, dRat b] = some (dRat (a + b), []) := spec_eq (a := (a, b)) inj_rr ⟨ha, hb⟩
noncomputable def g_mul : G := spec (fun a : Rat × Rat => [dRat a.1, dRat a.2]) (fun a => Sm 16000 a.1 ∧ Sm 16000 a.2) (fun a => (dRat (a.1 * a.2), []))
theorem e_mul (a b : Rat) (ha : Sm 16000 a) (hb : Sm 16000 b) : g_mul [dRat a, dRat b] = some (dRat (a * b), []) := spec_eq (a := (a, b)) inj_rr ⟨ha, hb⟩
noncomputable def g_whole : G := spec (fun a : Int => [.i .i64 a]) (fun a => -100 ≤ a ∧ a ≤ 100) (fun a => (dRat (a : Rat), []))
theorem e_whole (a : Int) (h1 : -100 ≤ a) (h2 : a ≤ 100) : g_whole [.i .i64 a] = some (dRat (a : Rat), []) := spec_eq (inj_i .i64) ⟨h1, h2⟩

/-- What the contracts of the reference rest on. -/
structure RefNums (P : Program) : Prop where
  hm : P.follows .mixedOrders = true
  sign : FnOK P n_ref02_Sign g_sign
  add : FnOK P n_ref02_Add g_add
  mul : FnOK P n_ref02_Mul g_mul
  whole : FnOK P n_ref02_Whole g_whole
  cmp : FnOK P n_ref04_Cmp g_ref04_Cmp
  mmul : FnOK P n_ref04_Mul g_ref04_Mul

noncomputable def refL : List (Nat × G) := [(n_ref02_Sign, g_sign), (n_ref02_Add, g_add), (n_ref02_Mul, g_mul), (n_ref02_Whole, g_whole), (n_ref04_Cmp, g_ref04_Cmp), (n_ref04_Mul, g_ref04_Mul)]

theorem RefNums.ok (R : RefNums P) : ∀ x ∈ refL, FnOK P x.1 x.2 := by
  simp only [refL, List.mem_cons, List.not_mem_nil, or_false, forall_eq_or_imp, forall_eq]
  exact ⟨R.sign, R.add, R.mul, R.whole, R.cmp, R.mmul⟩

theorem refArith (l : List (Nat × G)) : RefArith (sem (refL ++ l)) where
  cmp a b := e_ref04_Cmp a b
  mmul a b ha hb := e_ref04_Mul a b ha hb
  sign a := e_sign a
  whole n h1 h2 := e_whole n h1 h2

theorem sem_add (l : List (Nat × G)) (a b : Rat) (ha : Sm 16000 a) (hb : Sm 16000 b) : sem (refL ++ l) n_ref02_Add [dRat a, dRat b] = some (dRat (a + b), []) := e_add a b ha hb
theorem sem_mul (l : List (Nat × G)) (a b : Rat) (ha : Sm 16000 a) (hb : Sm 16000 b) : sem (refL ++ l) n_ref02_Mul [dRat a, dRat b] = some (dRat (a * b), []) := e_mul a b ha hb

/-- The terms of a polynomial are small. -/
def SmP (B : Nat) (p : Poly) : Prop := ∀ t ∈ p, Sm B t.c
theorem Sz.sm {n B : Nat} {p : Poly} (h : Sz n p) (hB : n ≤ B) : SmP B p := fun t ht => ⟨(h.mem ht).1, by have := (h.mem ht).2; omega⟩

noncomputable def g_ref06_Add : G := spec (fun a : Poly × Poly => [dPoly a.1, dPoly a.2]) (fun a => a.1.length + a.2.length ≤ 1000000 ∧ SmP 16000 a.1 ∧ SmP 16000 a.2) (fun a => (dPoly (padd a.1 a.2), []))
theorem e_ref06_Add (p q : Poly) (h : p.length + q.length ≤ 1000000) (hp : SmP 16000 p) (hq : SmP 16000 q) : g_ref06_Add [dPoly p, dPoly q] = some (dPoly (padd p q), []) := spec_eq (a := (p, q)) inj_pp ⟨h, hp, hq⟩
theorem ok_ref06_Add (R : RefNums P) (hh : Has P n_ref06_Add c_ref06_Add) : FnOK P n_ref06_Add g_ref06_Add :=
  ok_of R.hm (l := refL ++ []) (by simpa using R.ok) hh rfl fun a h => ref06_Add_rets _ (refArith []) a.1 a.2 h.1 fun s hs t ht => sem_add [] _ _ (h.2.1 s hs) (h.2.2 t ht)

noncomputable def g_ref06_Times : G := spec (fun a : Rat × Mono × Poly => [dRat a.1, dMono a.2.1, dPoly a.2.2]) (fun a => a.2.2.length ≤ 1000000 ∧ Mo.bd 30000 a.2.1 ∧ Bd 30000 a.2.2 ∧ Sm 16000 a.1 ∧ SmP 16000 a.2.2) (fun a => (.tup [dPoly (ptimes0 a.1 a.2.1 a.2.2), .i .i64 0], []))
theorem e_ref06_Times (c : Rat) (m : Mono) (p : Poly) (h : p.length ≤ 1000000 ∧ Mo.bd 30000 m ∧ Bd 30000 p ∧ Sm 16000 c ∧ SmP 16000 p) : g_ref06_Times [dRat c, dMono m, dPoly p] = some (.tup [dPoly (ptimes0 c m p), .i .i64 0], []) := spec_eq (a := (c, m, p)) inj_rmp h
theorem ok_ref06_Times (R : RefNums P) (hh : Has P n_ref06_Times c_ref06_Times) : FnOK P n_ref06_Times g_ref06_Times :=
  ok_of R.hm (l := refL ++ []) (by simpa using R.ok) hh rfl fun a h => ref06_Times_rets _ (refArith []) a.1 a.2.1 a.2.2 h.1 30000 30000 h.2.1 h.2.2.1 (by omega) (by omega) (by omega) fun t ht => sem_mul [] _ _ h.2.2.2.1 (h.2.2.2.2 t ht)

noncomputable def g_ref06_Scale : G := spec (fun a : Rat × Poly => [dRat a.1, dPoly a.2]) (fun a => a.2.length ≤ 1000000 ∧ Bd 30000 a.2 ∧ Sm 16000 a.1 ∧ SmP 16000 a.2) (fun a => (dPoly (pscale a.1 a.2), []))
theorem e_ref06_Scale (c : Rat) (p : Poly) (h : p.length ≤ 1000000 ∧ Bd 30000 p ∧ Sm 16000 c ∧ SmP 16000 p) : g_ref06_Scale [dRat c, dPoly p] = some (dPoly (pscale c p), []) := spec_eq (a := (c, p)) inj_rp h
theorem ok_ref06_Scale (hm : P.follows .mixedOrders = true) (hh : Has P n_ref06_Scale c_ref06_Scale) (h1 : FnOK P n_ref06_Times g_ref06_Times) : FnOK P n_ref06_Scale g_ref06_Scale :=
  ok_of hm (l := [(n_ref06_Times, g_ref06_Times)]) (by simpa using h1) hh rfl fun a h => ref06_Scale_rets _ a.1 a.2 (e_ref06_Times _ _ _ ⟨h.1, Mo.bd_zero (by omega), h.2⟩)

noncomputable def g_ref06_Sub : G := spec (fun a : Poly × Poly => [dPoly a.1, dPoly a.2]) (fun a => a.1.length + a.2.length ≤ 1000000 ∧ Bd 30000 a.2 ∧ SmP 16000 a.1 ∧ Sz 16000 a.2) (fun a => (dPoly (psub a.1 a.2), []))
theorem e_ref06_Sub (p q : Poly) (h : p.length + q.length ≤ 1000000 ∧ Bd 30000 q ∧ SmP 16000 p ∧ Sz 16000 q) : g_ref06_Sub [dPoly p, dPoly q] = some (dPoly (psub p q), []) := spec_eq (a := (p, q)) inj_pp h
theorem ok_ref06_Sub (R : RefNums P) (hh : Has P n_ref06_Sub c_ref06_Sub) (h1 : FnOK P n_ref06_Scale g_ref06_Scale) (h2 : FnOK P n_ref06_Add g_ref06_Add) : FnOK P n_ref06_Sub g_ref06_Sub :=
  ok_of R.hm (l := refL ++ [(n_ref06_Scale, g_ref06_Scale), (n_ref06_Add, g_ref06_Add)]) (by
    intro x hx
    rcases List.mem_append.1 hx with hx | hx
    · exact R.ok x hx
    · simp only [List.mem_cons, List.not_mem_nil, or_false] at hx
      rcases hx with rfl | rfl
      · exact h1
      · exact h2) hh rfl fun a h => by
    have s1 : Sm 16000 (-1 : Rat) := ⟨by decide, by decide⟩
    have hl := pscale_length (-1) a.2
    have hz := Sz.pscale (c := (-1 : Rat)) s1.1 h.2.2.2
    rw [show nm (-1 : Rat) = 1 from by decide, Nat.one_mul] at hz
    exact ref06_Sub_rets _ (refArith _) a.1 a.2 (e_ref06_Scale _ _ ⟨by have := h.1; omega, h.2.1, s1, h.2.2.2.sm (Nat.le_refl _)⟩) (e_ref06_Add _ _ (by have := h.1; omega) h.2.2.1 (hz.sm (Nat.le_refl _)))

/-- A pair of polynomials whose product is small. -/
structure MulOk (p q : Poly) : Prop where
  len : p.length * q.length + q.length + p.length ≤ 100000
  bp : Bd 10000 p
  bq : Bd 10000 q
  wp : ∀ t ∈ p, t.c.den = 1
  wq : ∀ t ∈ q, t.c.den = 1
  sp : N1 p ≤ 16000
  sq : N1 q ≤ 16000
  small : N1 p * N1 q ≤ 16000

theorem N1_le_append {a b : Poly} : N1 a ≤ N1 (a ++ b) := by rw [N1_append]; omega

noncomputable def g_ref06_Mul : G := spec (fun a : Poly × Poly => [dPoly a.1, dPoly a.2]) (fun a => MulOk a.1 a.2) (fun a => (.tup [dPoly (pmul0 [] a.1 a.2), .i .i64 0], []))
theorem e_ref06_Mul (p q : Poly) (h : MulOk p q) : g_ref06_Mul [dPoly p, dPoly q] = some (.tup [dPoly (pmul0 [] p q), .i .i64 0], []) := spec_eq (a := (p, q)) inj_pp h
theorem ok_ref06_Mul (hm : P.follows .mixedOrders = true) (hh : Has P n_ref06_Mul c_ref06_Mul) (h1 : FnOK P n_ref06_Times g_ref06_Times) (h2 : FnOK P n_ref06_Add g_ref06_Add) : FnOK P n_ref06_Mul g_ref06_Mul :=
  ok_of hm (l := [(n_ref06_Times, g_ref06_Times), (n_ref06_Add, g_ref06_Add)]) (by simpa using ⟨h1, h2⟩) hh rfl fun ⟨p, q⟩ h => by
    have h : MulOk p q := h
    have hlen := h.len
    refine ref06_Mul_rets _ p q (by simp only at *; omega) (fun t ht => e_ref06_Times _ _ _ ⟨by simp only at *; omega, Mo.bd_mono (h.bp t ht) (by omega), h.bq.mono (by omega), ⟨h.wp t ht, by have := N1_mem ht; have := h.sp; omega⟩, fun u hu => ⟨h.wq u hu, by have := N1_mem hu; have := h.sq; omega⟩⟩) ?_ (by simp only at *; omega)
    intro a t b hp
    have wa : ∀ u ∈ a, u.c.den = 1 := fun u hu => h.wp u (by rw [hp]; simp [hu])
    have wt : t.c.den = 1 := h.wp t (by rw [hp]; simp)
    have hn : N1 p = N1 a + (nm t.c + N1 b) := by rw [hp, N1_append]; rfl
    have s1 := Sz.mul (n := N1 a) (m := N1 q) ⟨wa, Nat.le_refl _⟩ ⟨h.wq, Nat.le_refl _⟩
    have s2 := Sz.ptimes0 (n := N1 q) wt t.m (p := q) ⟨h.wq, Nat.le_refl _⟩
    have hs := h.small
    rw [hn, Nat.add_mul, Nat.add_mul] at hs
    have la : a.length ≤ p.length := by rw [hp]; simp
    have l1 := pmul0_length q a []
    have l2 := ptimes0_length t.c t.m q
    have l3 : a.length * q.length ≤ p.length * q.length := Nat.mul_le_mul_right _ la
    simp only [List.length_nil] at l1
    exact e_ref06_Add _ _ (by simp only at *; omega) (s1.sm (by simp only at *; omega)) (s2.sm (by simp only at *; omega))

noncomputable def g_ref06_By : G := spec (fun a : Poly × Poly => [dPoly a.1, dPoly a.2]) (fun a => MulOk a.1 a.2) (fun a => (dPoly (pmul0 [] a.1 a.2), []))
theorem e_ref06_By (p q : Poly) (h : MulOk p q) : g_ref06_By [dPoly p, dPoly q] = some (dPoly (pmul0 [] p q), []) := spec_eq (a := (p, q)) inj_pp h
theorem ok_ref06_By (hm : P.follows .mixedOrders = true) (hh : Has P n_ref06_By c_ref06_By) (h1 : FnOK P n_ref06_Mul g_ref06_Mul) : FnOK P n_ref06_By g_ref06_By :=
  ok_of hm (l := [(n_ref06_Mul, g_ref06_Mul)]) (by simpa using h1) hh rfl fun a h => ref06_By_rets _ a.1 a.2 (e_ref06_Mul _ _ h)
end
end Go.Ev

/- Contracts of sums, equality and raw polynomials of the reference. -/
namespace Go.Ev
open Go.Pm
section
variable {P : Program}

noncomputable def g_abs : G := spec (fun a : Int => [.i .i8 a]) (fun a => -128 ≤ a ∧ a ≤ 127) (fun a => (.i .i64 (iabs a), []))
theorem e_abs (a : Int) (h : -128 ≤ a ∧ a ≤ 127) : g_abs [.i .i8 a] = some (.i .i64 (iabs a), []) := spec_eq (inj_i .i8) h
theorem ok_abs (hm : P.follows .mixedOrders = true) (hh : Has P n_ref06_abs c_ref06_abs) : FnOK P n_ref06_abs g_abs := ok_of hm (l := []) (by simp) hh rfl fun a h => ref06_abs_rets _ a h

theorem inj_made : ∀ a b : Raw × Nat × Int × Nat, [dRaw a.1, DV.i .i64 (a.2.1 : Int), DV.i .i64 a.2.2.1, DV.i .i64 (a.2.2.2 : Int)] = [dRaw b.1, DV.i .i64 (b.2.1 : Int), DV.i .i64 b.2.2.1, DV.i .i64 (b.2.2.2 : Int)] → a = b := by
  intro a b h
  simp only [List.cons.injEq, DV.i.injEq, true_and, and_true] at h
  obtain ⟨h1, h2, h3, h4⟩ := h
  have e1 : dRaw a.1 = dRaw b.1 := by first | exact h1 | simpa using h1
  exact Prod.ext (dRaw_inj e1) (Prod.ext (by omega) (Prod.ext h3 (by omega)))
noncomputable def g_made : G := spec (fun a : Raw × Nat × Int × Nat => [dRaw a.1, .i .i64 (a.2.1 : Int), .i .i64 a.2.2.1, .i .i64 (a.2.2.2 : Int)]) (fun a => a.2.1 ≤ 4 ∧ (0 ≤ a.2.2.1 ∧ a.2.2.1 ≤ 100) ∧ a.2.2.2 ≤ 100) (fun a => (dPoly (made a.2.1 a.2.2.1 [] (a.1.take a.2.2.2)), []))
theorem e_made (x : Raw) (N : Nat) (deg : Int) (n : Nat) (h : N ≤ 4 ∧ (0 ≤ deg ∧ deg ≤ 100) ∧ n ≤ 100) : g_made [dRaw x, .i .i64 (N : Int), .i .i64 deg, .i .i64 (n : Int)] = some (dPoly (made N deg [] (x.take n)), []) := spec_eq (a := (x, N, deg, n)) inj_made h
theorem ok_made (R : RefNums P) (hh : Has P n_ref06_Made c_ref06_Made) (h1 : FnOK P n_ref06_abs g_abs) (h2 : FnOK P n_ref06_Scale g_ref06_Scale) (h3 : FnOK P n_ref06_Add g_ref06_Add) : FnOK P n_ref06_Made g_made :=
  ok_of R.hm (l := [(n_ref06_abs, g_abs), (n_ref02_Whole, g_whole), (n_ref06_Scale, g_ref06_Scale), (n_ref06_Add, g_ref06_Add)]) (by simpa using ⟨h1, R.whole, h2, h3⟩) hh rfl fun ⟨x, N, deg, n⟩ h => by
    have h : N ≤ 4 ∧ (0 ≤ deg ∧ deg ≤ 100) ∧ n ≤ 100 := h
    refine ref06_Made_rets _ x N deg n h.1 ⟨h.2.1.1, by omega⟩ (by omega) (fun e he => e_abs e he) (fun k h1 h2 => e_whole k h1 h2) (fun t => ?_) (fun a t b hx => ?_)
    · have b1 := rawMono_bd h.1 h.2.1.1 t
      have c1 : Sm 16000 ((t.c.tmod 4 : Int) : Rat) := by
        refine ⟨whole_int _, ?_⟩
        unfold nm; rw [num_int]
        have := Int.tmod_lt_of_pos t.c (b := 4) (by omega)
        have := Int.lt_tmod_of_pos t.c (b := 4) (by omega)
        omega
      exact e_ref06_Scale _ _ ⟨by simp, fun u hu => by simp only [List.mem_singleton] at hu; subst hu; exact Mo.bd_mono b1 (by omega), c1, fun u hu => by simp only [List.mem_singleton] at hu; subst hu; exact ⟨by simp, by show nm (1 : Rat) ≤ 16000; decide⟩⟩
    · have ha : a.length ≤ 100 := by
        have := congrArg List.length hx
        simp only [List.length_append, List.length_cons, List.length_take] at this
        omega
      have g1 := made_good h.1 h.2.1.1 a [] trivial (Bd.nil _)
      have s1 := Sz.made N deg a (Sz.nil 0)
      have l1 : (madeT N deg t).length ≤ 1 := pscale_length ..
      have l2 := g1.2.2
      simp only [List.length_nil] at l2
      exact e_ref06_Add _ _ (by omega) (s1.sm (by omega)) ((Sz.madeT N deg t).sm (by omega))

theorem inj_list : ∀ a b : List Raw × Nat × Int × Nat × Nat, [dRaws a.1, DV.i .i64 (a.2.1 : Int), DV.i .i64 a.2.2.1, DV.i .i64 (a.2.2.2.1 : Int), DV.i .i64 (a.2.2.2.2 : Int)] = [dRaws b.1, DV.i .i64 (b.2.1 : Int), DV.i .i64 b.2.2.1, DV.i .i64 (b.2.2.2.1 : Int), DV.i .i64 (b.2.2.2.2 : Int)] → a = b := by
  intro a b h
  simp only [List.cons.injEq, DV.i.injEq, true_and, and_true] at h
  obtain ⟨h1, h2, h3, h4, h5⟩ := h
  exact Prod.ext (dRaws_inj h1) (Prod.ext (by omega) (Prod.ext h3 (Prod.ext (by omega) (by omega))))
noncomputable def g_list : G := spec (fun a : List Raw × Nat × Int × Nat × Nat => [dRaws a.1, .i .i64 (a.2.1 : Int), .i .i64 a.2.2.1, .i .i64 (a.2.2.2.1 : Int), .i .i64 (a.2.2.2.2 : Int)]) (fun a => (a.2.1 ≤ 4 ∧ (0 ≤ a.2.2.1 ∧ a.2.2.1 ≤ 100) ∧ a.2.2.2.1 ≤ 100) ∧ a.2.2.2.2 ≤ 100)
  (fun a => (dPolys ((a.1.take a.2.2.2.2).map fun x => made a.2.1 a.2.2.1 [] (x.take a.2.2.2.1)), []))
theorem e_list (l : List Raw) (N : Nat) (deg : Int) (n m : Nat) (h : (N ≤ 4 ∧ (0 ≤ deg ∧ deg ≤ 100) ∧ n ≤ 100) ∧ m ≤ 100) : g_list [dRaws l, .i .i64 (N : Int), .i .i64 deg, .i .i64 (n : Int), .i .i64 (m : Int)] = some (dPolys ((l.take m).map fun x => made N deg [] (x.take n)), []) := spec_eq (a := (l, N, deg, n, m)) inj_list h
theorem ok_list (hm : P.follows .mixedOrders = true) (hh : Has P n_ref06_List c_ref06_List) (h1 : FnOK P n_ref06_Made g_made) : FnOK P n_ref06_List g_list :=
  ok_of hm (l := [(n_ref06_Made, g_made)]) (by simpa using h1) hh rfl fun ⟨l, N, deg, n, m⟩ h => ref06_List_rets _ l N deg n m (by have : m ≤ 100 := h.2; omega) fun x => e_made x N deg n h.1

theorem inj_polys : ∀ a b : List Raw × Int, [DV.agg [dRaws a.1, .i .u8 a.2]] = [DV.agg [dRaws b.1, .i .u8 b.2]] → a = b := by
  intro a b h
  simp only [List.cons.injEq, DV.agg.injEq, DV.i.injEq, true_and, and_true] at h
  exact Prod.ext (dRaws_inj h.1) h.2
noncomputable def g_polys : G := spec (fun a : List Raw × Int => [.agg [dRaws a.1, .i .u8 a.2]]) (fun _ => True) (fun a => (dPolys ((a.1.take 3).map fun x => made 2 2 [] (x.take 3)), []))
theorem e_polys (l : List Raw) (o : Int) : g_polys [.agg [dRaws l, .i .u8 o]] = some (dPolys ((l.take 3).map fun x => made 2 2 [] (x.take 3)), []) := spec_eq (a := (l, o)) inj_polys trivial
theorem ok_polys (hm : P.follows .mixedOrders = true) (hh : Has P n_ref13_Polys c_ref13_Polys) (h1 : FnOK P n_ref06_List g_list) : FnOK P n_ref13_Polys g_polys :=
  ok_of hm (l := [(n_ref06_List, g_list)]) (by simpa using h1) hh rfl fun ⟨l, o⟩ _ => ref13_Polys_rets _ l o (e_list l 2 2 3 3 (by omega))

theorem inj_raw : ∀ a b : Raw, [dRaw a] = [dRaw b] → a = b := fun a b h => dRaw_inj (by simpa using h)
noncomputable def g_poly : G := spec (fun a : Raw => [dRaw a]) (fun _ => True) (fun a => (dPoly (lawP a), []))
theorem e_poly (x : Raw) : g_poly [dRaw x] = some (dPoly (lawP x), []) := spec_eq inj_raw trivial
theorem ok_poly (hm : P.follows .mixedOrders = true) (hh : Has P n_law19_poly c_law19_poly) (h1 : FnOK P n_ref06_Made g_made) : FnOK P n_law19_poly g_poly :=
  ok_of hm (l := [(n_ref06_Made, g_made)]) (by simpa using h1) hh rfl fun x _ => law19_poly_rets _ x (e_made x 2 1 2 (by omega))

/-! ### Sums of products -/

/-- Lists whose sum of products is small. -/
structure SumOk (q l : List Poly) : Prop where
  lq : q.length ≤ 4
  ll : l.length ≤ 4
  fq : ∀ p ∈ q, Fine p
  fl : ∀ p ∈ l, FineL p

theorem SumOk.mulOk {q l : List Poly} (h : SumOk q l) {a b : Poly} (ha : a ∈ q) (hb : b ∈ l) : MulOk a b := by
  have fa := h.fq a ha
  have fb := h.fl b hb
  have l1 : a.length * b.length ≤ 100 * 100 := Nat.mul_le_mul fa.len fb.fine.len
  have l2 := fa.len
  have l3 := fb.fine.len
  have s1 : N1 a * N1 b ≤ 120 * 9 := Nat.mul_le_mul fa.sz.le fb.sz.le
  exact ⟨by omega, fa.bd.mono (by omega), fb.fine.bd.mono (by omega), fa.sz.wh, fb.sz.wh, by have := fa.sz.le; omega, by have := fb.sz.le; omega, by omega⟩

theorem psumg_ok {mul : Poly → Poly → Poly} {q l : List Poly} (hs : ∀ a ∈ q, ∀ b ∈ l, Sz 1080 (mul a b) ∧ (mul a b).length ≤ 10000) : ∀ (qa la : List Poly) {out : Poly} {n m : Nat}, (∀ a ∈ qa, a ∈ q) → (∀ b ∈ la, b ∈ l) → Sz n out → out.length ≤ m →
    Sz (n + la.length * 1080) (psumg mul out qa la) ∧ (psumg mul out qa la).length ≤ m + la.length * 10000
  | [], la, out, n, m, _, _, h1, h2 => ⟨h1.mono (by omega), by simp only [psumg]; omega⟩
  | a :: qa, [], out, n, m, _, _, h1, h2 => ⟨h1.mono (by omega), by simp only [psumg]; omega⟩
  | a :: qa, b :: la, out, n, m, hq, hl, h1, h2 => by
    have hab := hs a (hq a (List.mem_cons_self ..)) b (hl b (List.mem_cons_self ..))
    have g1 := Sz.padd h1 hab.1
    have g2 := padd_length out (mul a b)
    have ih := psumg_ok hs qa la (out := padd out (mul a b)) (n := n + 1080) (m := m + 10000) (fun x hx => hq x (List.mem_cons_of_mem _ hx)) (fun x hx => hl x (List.mem_cons_of_mem _ hx)) g1 (by have := hab.2; omega)
    refine ⟨?_, ?_⟩
    · show Sz _ (psumg mul (padd out (mul a b)) qa la)
      exact ih.1.mono (by simp only [List.length_cons]; omega)
    · show (psumg mul (padd out (mul a b)) qa la).length ≤ _
      have := ih.2
      simp only [List.length_cons]; omega

theorem mem_split3 {α : Type} {a : List α} {x : α} {b : List α} {q : List α} (h : q = a ++ x :: b) : (∀ y ∈ a, y ∈ q) ∧ x ∈ q ∧ a.length < q.length := by
  subst h; refine ⟨fun y hy => by simp [hy], by simp, by simp⟩

noncomputable def g_ref12_Sum : G := spec (fun a : List Poly × List Poly => [dPolys a.1, dPolys a.2]) (fun a => SumOk a.1 a.2) (fun a => (if a.1.length = a.2.length then .tup [dPoly (psum [] a.1 a.2), .i .i64 0] else .tup [dPoly [], .i .i64 1], []))
theorem e_ref12_Sum (q l : List Poly) (h : SumOk q l) : g_ref12_Sum [dPolys q, dPolys l] = some (if q.length = l.length then .tup [dPoly (psum [] q l), .i .i64 0] else .tup [dPoly [], .i .i64 1], []) := spec_eq (a := (q, l)) inj_ll h
theorem ok_ref12_Sum (hm : P.follows .mixedOrders = true) (hh : Has P n_ref12_Sum c_ref12_Sum) (h1 : FnOK P n_ref06_Mul g_ref06_Mul) (h2 : FnOK P n_ref06_Add g_ref06_Add) : FnOK P n_ref12_Sum g_ref12_Sum :=
  ok_of hm (l := [(n_ref06_Mul, g_ref06_Mul), (n_ref06_Add, g_ref06_Add)]) (by simpa using ⟨h1, h2⟩) hh rfl fun ⟨q, l⟩ h => by
    have h : SumOk q l := h
    have hs : ∀ a ∈ q, ∀ b ∈ l, Sz 1080 (pmul0 [] a b) ∧ (pmul0 [] a b).length ≤ 10000 := fun a ha b hb => by
      have fa := h.fq a ha
      have fb := h.fl b hb
      have l1 : a.length * b.length ≤ 100 * 100 := Nat.mul_le_mul fa.len fb.fine.len
      have l2 := pmul0_length b a []
      simp only [List.length_nil] at l2
      exact ⟨(Sz.mul fa.sz fb.sz).mono (by omega), by omega⟩
    refine ref12_Sum_rets _ q l (by have := h.ll; omega) (by have := h.lq; omega) (fun _ a ha b hb => e_ref06_Mul a b (h.mulOk ha hb)) fun _ qa a qb la b lb hq hl hab => ?_
    obtain ⟨m1, m2, m3⟩ := mem_split3 hq
    obtain ⟨k1, k2, k3⟩ := mem_split3 hl
    have g1 := psumg_ok (mul := fun q l => pmul0 [] q l) hs qa la m1 k1 (Sz.nil 0) (m := 0) (by simp)
    have g2 := hs a m2 b k2
    have := h.ll
    rw [psum_psumg]
    exact e_ref06_Add _ _ (by omega) (g1.1.sm (by omega)) (g2.1.sm (by omega))

theorem ref06_Same_nil (cs : Sem) (p : Poly) : Rets KK cs false c_ref06_Same [dPoly p, dPoly []] (.b (decide (p = []))) [] := by
  refine Rets.of rfl ?_
  unfold c_ref06_Same
  cases p with
  | nil =>
    simp [dPoly]
    rw [W_unroll]
    simp [l_ref06_Same_0]
  | cons t p =>
    have h2 : ¬ ((p.length : Int) + 1 = 0) := by omega
    have h3 : (((p.length : Int) + 1) == 0) = false := by simp; omega
    simp [dPoly, h2, h3]

theorem inj_p : ∀ a b : Poly, [dPoly a, dPoly []] = [dPoly b, dPoly []] → a = b := by
  intro a b h
  simp only [List.cons.injEq, and_true] at h
  exact dPoly_inj h
noncomputable def g_same0 : G := spec (fun a : Poly => [dPoly a, dPoly []]) (fun _ => True) (fun a => (.b (decide (a = [])), []))
theorem e_same0 (a : Poly) : g_same0 [dPoly a, dPoly []] = some (.b (decide (a = [])), []) := spec_eq inj_p trivial
theorem ok_same0 (hm : P.follows .mixedOrders = true) (hh : Has P n_ref06_Same c_ref06_Same) : FnOK P n_ref06_Same g_same0 := ok_of hm (l := []) (by simp) hh rfl fun a _ => ref06_Same_nil _ a

theorem inj_nll : ∀ a b : List Poly × List Poly, [dPoly [], dPolys a.1, dPolys a.2] = [dPoly [], dPolys b.1, dPolys b.2] → a = b := by
  intro a b h
  simp only [List.cons.injEq, and_true, true_and] at h
  exact Prod.ext (dPolys_inj h.1) (dPolys_inj h.2)
noncomputable def g_ref12_Is : G := spec (fun a : List Poly × List Poly => [dPoly [], dPolys a.1, dPolys a.2]) (fun a => SumOk a.1 a.2) (fun a => (.b (decide (a.1.length = a.2.length ∧ psum [] a.1 a.2 = [])), []))
theorem e_ref12_Is (q l : List Poly) (h : SumOk q l) : g_ref12_Is [dPoly [], dPolys q, dPolys l] = some (.b (decide (q.length = l.length ∧ psum [] q l = [])), []) := spec_eq (a := (q, l)) inj_nll h
theorem ok_ref12_Is (hm : P.follows .mixedOrders = true) (hh : Has P n_ref12_Is c_ref12_Is) (h1 : FnOK P n_ref12_Sum g_ref12_Sum) (h2 : FnOK P n_ref06_Same g_same0) : FnOK P n_ref12_Is g_ref12_Is :=
  ok_of hm (l := [(n_ref12_Sum, g_ref12_Sum), (n_ref06_Same, g_same0)]) (by simpa using ⟨h1, h2⟩) hh rfl fun ⟨q, l⟩ h => ref12_Is_rets _ [] q l (e_ref12_Sum q l h) (e_same0 _)

open Classical in
noncomputable def g_ref19_Is : G := spec (fun a : List Poly × List Poly => [dPolys a.1, dPolys a.2]) (fun a => SumOk a.1 a.2) (fun a => (.b (decide (a.1.length = a.2.length ∧ ZS a.1 a.2)), []))
open Classical in
theorem e_ref19_Is (q l : List Poly) (h : SumOk q l) : g_ref19_Is [dPolys q, dPolys l] = some (.b (decide (q.length = l.length ∧ ZS q l)), []) := spec_eq (a := (q, l)) inj_ll h
open Classical in
theorem ok_ref19_Is (hm : P.follows .mixedOrders = true) (hh : Has P n_ref19_Is c_ref19_Is) (h1 : FnOK P n_ref12_Is g_ref12_Is) : FnOK P n_ref19_Is g_ref19_Is :=
  ok_of hm (l := [(n_ref12_Is, g_ref12_Is)]) (by simpa using h1) hh rfl fun ⟨q, l⟩ h => by
    have h : SumOk q l := h
    have r := ref19_Is_rets (sem [(n_ref12_Is, g_ref12_Is)]) q l fun _ => e_ref12_Is q l h
    have e : (q.length = l.length ∧ psum [] q l = []) ↔ (q.length = l.length ∧ ZS q l) := by
      rw [psum_psumg, psumg_zero (fun a ha b hb => Canon.pmul0 (p := a) (out := []) (h.fl b hb).fine.canon trivial) (fun a ha b hb k => by rw [coef_pmul0]; simp only [coef]; grind)]
    have key : decide (q.length = l.length ∧ psum [] q l = []) = decide (q.length = l.length ∧ ZS q l) := decide_eq_decide.2 e
    rw [key] at r
    exact r
end
end Go.Ev

/- Contracts of the program's functions on polynomials; the law. -/
namespace Go.Ev
open Go.Pm

/-! ### The polynomial of a map -/

def insT (t : Tm) : Poly → Poly
  | [] => [t]
  | u :: p => if 0 < Mono.cmp t.m u.m then t :: u :: p else u :: insT t p

def polyOf : Ent → Poly
  | [] => []
  | (m, c) :: r => if c = 0 then polyOf r else insT ⟨c, m⟩ (polyOf r)

def coefE : Ent → Mono → Rat
  | [], _ => 0
  | (m, c) :: r, k => (if m = k then c else 0) + coefE r k

def KeysOk (es : Ent) : Prop := (es.map (·.1)).Nodup

theorem mem_insT {t u : Tm} : ∀ {p : Poly}, u ∈ insT t p ↔ u = t ∨ u ∈ p
  | [] => by simp [insT]
  | v :: p => by
    unfold insT
    split
    · simp
    · rw [List.mem_cons, mem_insT (p := p)]; simp only [List.mem_cons]
      constructor
      · rintro (h | h | h) <;> simp [h]
      · rintro (h | h | h) <;> simp [h]

theorem coef_insT (t : Tm) (k : Mono) : ∀ p, coef (insT t p) k = (if t.m = k then t.c else 0) + coef p k
  | [] => rfl
  | u :: p => by
    unfold insT
    split
    · rfl
    · simp only [coef, coef_insT t k p]; grind

theorem Canon.insT {t : Tm} (ht : t.c ≠ 0) : ∀ {p : Poly}, (∀ u ∈ p, u.m ≠ t.m) → Canon p → Canon (insT t p)
  | [], _, _ => ⟨ht, Below.nil _, trivial⟩
  | u :: p, hn, h => by
    unfold Ev.insT
    split
    · rename_i c
      exact ⟨ht, Below.cons.2 ⟨c, h.2.1.trans c⟩, h⟩
    · rename_i c
      have c' : 0 < Mono.cmp u.m t.m := by
        have hne := hn u (List.mem_cons_self ..)
        have h0 : Mono.cmp t.m u.m ≠ 0 := fun e => hne (Mono.cmp_zero.1 e).symm
        rw [Mono.cmp_neg]; omega
      refine ⟨h.1, fun v hv => ?_, Canon.insT ht (fun v hv => hn v (List.mem_cons_of_mem _ hv)) h.2.2⟩
      rcases mem_insT.1 hv with rfl | hv
      · exact c'
      · exact h.2.1 v hv

theorem mem_polyOf {u : Tm} : ∀ {es : Ent}, u ∈ polyOf es → (u.m, u.c) ∈ es ∧ u.c ≠ 0
  | [], h => by simp [polyOf] at h
  | (m, c) :: r, h => by
    unfold polyOf at h
    split at h
    · have := mem_polyOf h; exact ⟨List.mem_cons_of_mem _ this.1, this.2⟩
    · rename_i hc
      rcases mem_insT.1 h with rfl | h
      · exact ⟨List.mem_cons_self .., hc⟩
      · have := mem_polyOf h; exact ⟨List.mem_cons_of_mem _ this.1, this.2⟩

theorem Canon.polyOf : ∀ {es : Ent}, KeysOk es → Canon (polyOf es)
  | [], _ => trivial
  | (m, c) :: r, h => by
    simp only [KeysOk, List.map_cons, List.nodup_cons] at h
    have ih := Canon.polyOf (es := r) h.2
    unfold Ev.polyOf
    split
    · exact ih
    · rename_i hc
      refine Canon.insT hc (fun u hu e => h.1 ?_) ih
      have := (mem_polyOf hu).1
      have e' : u.m = m := e
      rw [← e']; exact List.mem_map_of_mem (f := (·.1)) this

theorem coef_polyOf (k : Mono) : ∀ es, coef (polyOf es) k = coefE es k
  | [] => rfl
  | (m, c) :: r => by
    unfold polyOf
    split
    · rename_i h; subst h; simp only [coefE, coef_polyOf k r]; split <;> grind
    · rw [coef_insT, coef_polyOf k r]; rfl

theorem insT_length (t : Tm) : ∀ p, (insT t p).length = p.length + 1
  | [] => rfl
  | u :: p => by unfold insT; split <;> simp [insT_length t p]
theorem N1_insT (t : Tm) : ∀ p, N1 (insT t p) = nm t.c + N1 p
  | [] => rfl
  | u :: p => by unfold insT; split <;> simp only [N1, N1_insT t p]; omega
theorem polyOf_length : ∀ es, (polyOf es).length ≤ es.length
  | [] => by simp [polyOf]
  | (m, c) :: r => by
    have := polyOf_length r
    unfold polyOf; split
    · simp only [List.length_cons]; omega
    · rw [insT_length]; simp only [List.length_cons]; omega
theorem Sze.polyOf : ∀ {es : Ent} {n : Nat}, Sze n es → Sz n (polyOf es)
  | [], n, _ => Sz.nil n
  | (m, c) :: r, n, h => by
    have hl := h.le
    simp only [N1e] at hl
    have ih := Sze.polyOf (es := r) (n := N1e r) ⟨fun e he => h.wh e (List.mem_cons_of_mem _ he), Nat.le_refl _⟩
    unfold Ev.polyOf
    split
    · exact ih.mono (by omega)
    · refine ⟨fun u hu => ?_, ?_⟩
      · rcases mem_insT.1 hu with rfl | hu
        · exact h.wh (m, c) (List.mem_cons_self ..)
        · exact ih.wh u hu
      · rw [N1_insT]; have := ih.le; simp only; omega

/-! ### The map of a product -/

theorem mem_madd {e : Mono × Rat} {m : Mono} {c : Rat} : ∀ {es : Ent}, e ∈ madd es m c → e.1 = m ∨ ∃ f ∈ es, f.1 = e.1
  | [], h => by simp [madd] at h; subst h; exact .inl rfl
  | (k, v) :: r, h => by
    unfold madd at h
    split at h
    · rename_i hk
      rcases List.mem_cons.1 h with rfl | h
      · exact .inl hk
      · exact .inr ⟨e, List.mem_cons_of_mem _ h, rfl⟩
    · rcases List.mem_cons.1 h with rfl | h
      · exact .inr ⟨_, List.mem_cons_self .., rfl⟩
      · rcases mem_madd h with h | ⟨f, hf, he⟩
        · exact .inl h
        · exact .inr ⟨f, List.mem_cons_of_mem _ hf, he⟩

theorem KeysOk.madd {m : Mono} {c : Rat} : ∀ {es : Ent}, KeysOk es → KeysOk (madd es m c)
  | [], _ => by simp [Ev.madd, KeysOk]
  | (k, v) :: r, h => by
    simp only [KeysOk, List.map_cons, List.nodup_cons] at h
    unfold Ev.madd
    split
    · simp only [KeysOk, List.map_cons, List.nodup_cons]; exact h
    · rename_i hk
      simp only [KeysOk, List.map_cons, List.nodup_cons]
      refine ⟨fun hm => ?_, KeysOk.madd (es := r) h.2⟩
      obtain ⟨e, he, hek⟩ := List.mem_map.1 hm
      rcases mem_madd he with h1 | ⟨f, hf, hfe⟩
      · exact hk (hek.symm.trans h1)
      · exact h.1 (List.mem_map.2 ⟨f, hf, hfe.trans hek⟩)

theorem KeysOk.maddp {t : Tm} : ∀ {q : Poly} {es : Ent}, KeysOk es → KeysOk (maddp t es q)
  | [], _, h => h
  | u :: q, es, h => show KeysOk (Ev.maddp t (Ev.madd es (t.m.add u.m) (t.c * u.c)) q) from KeysOk.maddp (KeysOk.madd h)
theorem KeysOk.mall {q : Poly} : ∀ {p : Poly} {es : Ent}, KeysOk es → KeysOk (mall es p q)
  | [], _, h => h
  | t :: p, es, h => show KeysOk (Ev.mall (Ev.maddp t es q) p q) from KeysOk.mall (KeysOk.maddp h)

theorem coefE_madd (m : Mono) (c : Rat) (k : Mono) : ∀ es, coefE (madd es m c) k = coefE es k + (if m = k then c else 0)
  | [] => by simp only [madd, coefE]; grind
  | (j, v) :: r => by
    unfold madd
    split
    · rename_i h; subst h; simp only [coefE]; split <;> grind
    · simp only [coefE, coefE_madd m c k r]; grind

theorem coefE_maddp (t : Tm) (k : Mono) : ∀ (q : Poly) (es : Ent), coefE (maddp t es q) k = coefE es k + t.c * coef q (k.sub t.m)
  | [], es => by simp only [maddp, coef]; grind
  | u :: q, es => by
    simp only [maddp, coef]
    rw [coefE_maddp t k q, coefE_madd]
    simp only [Mono.add_eq_iff]
    split <;> grind

theorem coefE_mall (q : Poly) (k : Mono) : ∀ (p : Poly) (es : Ent), coefE (mall es p q) k = coefE es k + Pm.conv p (coef q) k
  | [], es => by simp only [mall, Pm.conv]; grind
  | t :: p, es => by
    simp only [mall, Pm.conv]
    rw [coefE_mall q k p, coefE_maddp]; grind

def mulP (p q : Poly) : Poly := polyOf (mall [] p q)

theorem Canon.mulP (p q : Poly) : Canon (mulP p q) := Canon.polyOf (KeysOk.mall (by simp [KeysOk]))
theorem coef_mulP (p q : Poly) (k : Mono) : coef (mulP p q) k = Pm.conv p (coef q) k := by
  unfold mulP; rw [coef_polyOf, coefE_mall]; simp only [coefE]; grind
theorem Sz.mulP {n m : Nat} {p q : Poly} (hp : Sz n p) (hq : Sz m q) : Sz (n * m) (mulP p q) := by
  have h := Sze.mall hq.wh hp.wh (es := []) (n := 0) ⟨by simp, by simp [N1e]⟩
  rw [Nat.zero_add] at h
  exact h.polyOf.mono (Nat.mul_le_mul hp.le hq.le)

theorem madd_length (m : Mono) (c : Rat) : ∀ es, (madd es m c).length ≤ es.length + 1
  | [] => by simp [madd]
  | (k, v) :: r => by
    have := madd_length m c r
    unfold madd; split <;> simp <;> omega
theorem maddp_length (t : Tm) : ∀ (q : Poly) (es : Ent), (maddp t es q).length ≤ es.length + q.length
  | [], es => by simp [maddp]
  | u :: q, es => by
    have h1 := maddp_length t q (madd es (t.m.add u.m) (t.c * u.c))
    have h2 := madd_length (t.m.add u.m) (t.c * u.c) es
    simp only [maddp, List.length_cons]; omega
theorem mall_length (q : Poly) : ∀ (p : Poly) (es : Ent), (mall es p q).length ≤ es.length + p.length * q.length
  | [], es => by simp [mall]
  | t :: p, es => by
    have h1 := mall_length q p (maddp t es q)
    have h2 := maddp_length t q es
    simp only [mall, List.length_cons, Nat.add_mul, Nat.one_mul]; omega
theorem mulP_length (p q : Poly) : (mulP p q).length ≤ p.length * q.length := by
  have h1 := polyOf_length (mall [] p q)
  have h2 := mall_length q p []
  simp only [List.length_nil] at h2
  unfold mulP; omega

/-! ### The contracts -/
section
variable {P : Program}

structure ProgNums (P : Program) : Prop where
  hm : P.follows .mixedOrders = true
  sign : FnOK P n_rational_Sign g_sign
  add : FnOK P n_rational_Add g_add
  mul : FnOK P n_rational_Mul g_mul
  cmp : FnOK P n_monomial_Cmp g_monomial_Cmp
  mmul : FnOK P n_monomial_Mul g_monomial_Mul

noncomputable def g_Add_1 : G := spec (fun a : Rat => [dRat a]) (fun _ => True) (fun a => (dRat a, []))
theorem e_Add_1 (a : Rat) : g_Add_1 [dRat a] = some (dRat a, []) := spec_eq inj_r trivial
theorem ok_Add_1 (hm : P.follows .mixedOrders = true) (hh : Has P n_polynomial_Add_1 c_polynomial_Add_1) : FnOK P n_polynomial_Add_1 g_Add_1 := ok_of hm (l := []) (by simp) hh rfl fun a _ => polynomial_Add_1_rets _ a

theorem inj_merge : ∀ a b : Poly × Poly, [dPoly a.1, dPoly a.2, DV.fn n_rational_Add [], DV.fn n_polynomial_Add_1 []] = [dPoly b.1, dPoly b.2, DV.fn n_rational_Add [], DV.fn n_polynomial_Add_1 []] → a = b := by
  intro a b h
  simp only [List.cons.injEq, and_true] at h
  exact Prod.ext (dPoly_inj h.1) (dPoly_inj h.2)
noncomputable def g_merge : G := spec (fun a : Poly × Poly => [dPoly a.1, dPoly a.2, .fn n_rational_Add [], .fn n_polynomial_Add_1 []]) (fun a => a.1.length + a.2.length ≤ 1000000 ∧ SmP 16000 a.1 ∧ SmP 16000 a.2) (fun a => (dPoly (padd a.1 a.2), []))
theorem e_merge (p q : Poly) (h : p.length + q.length ≤ 1000000 ∧ SmP 16000 p ∧ SmP 16000 q) : g_merge [dPoly p, dPoly q, .fn n_rational_Add [], .fn n_polynomial_Add_1 []] = some (dPoly (padd p q), []) := spec_eq (a := (p, q)) inj_merge h
theorem ok_merge (R : ProgNums P) (hh : Has P n_polynomial_merge c_polynomial_merge) (h1 : FnOK P n_polynomial_Add_1 g_Add_1) : FnOK P n_polynomial_merge g_merge :=
  ok_of R.hm (l := [(n_monomial_Cmp, g_monomial_Cmp), (n_rational_Sign, g_sign), (n_rational_Add, g_add), (n_polynomial_Add_1, g_Add_1)]) (by simpa using ⟨R.cmp, R.sign, R.add, h1⟩) hh rfl fun ⟨p, q⟩ h => by
    have h : p.length + q.length ≤ 1000000 ∧ SmP 16000 p ∧ SmP 16000 q := h
    have r := polynomial_merge_rets (sem [(n_monomial_Cmp, g_monomial_Cmp), (n_rational_Sign, g_sign), (n_rational_Add, g_add), (n_polynomial_Add_1, g_Add_1)]) (fun a b => a + b) (fun b => b) n_rational_Add n_polynomial_Add_1 rfl rfl
      (fun a b => e_monomial_Cmp a b) (fun a => e_sign a) p q (fun s hs t ht => e_add _ _ (h.2.1 s hs) (h.2.2 t ht)) (fun t _ => e_Add_1 _) h.1
    rw [padd_merge] at r
    exact r

noncomputable def g_pAdd : G := spec (fun a : Poly × Poly => [dPoly a.1, dPoly a.2]) (fun a => a.1.length + a.2.length ≤ 1000000 ∧ SmP 16000 a.1 ∧ SmP 16000 a.2) (fun a => (dPoly (padd a.1 a.2), []))
theorem e_pAdd (p q : Poly) (h : p.length + q.length ≤ 1000000 ∧ SmP 16000 p ∧ SmP 16000 q) : g_pAdd [dPoly p, dPoly q] = some (dPoly (padd p q), []) := spec_eq (a := (p, q)) inj_pp h
theorem ok_pAdd (hm : P.follows .mixedOrders = true) (hh : Has P n_polynomial_Add c_polynomial_Add) (h1 : FnOK P n_polynomial_merge g_merge) : FnOK P n_polynomial_Add g_pAdd :=
  ok_of hm (l := [(n_polynomial_merge, g_merge)]) (by simpa using h1) hh rfl fun a h => polynomial_Add_rets _ a.1 a.2 (e_merge _ _ h)

theorem inj_sum : ∀ a b : Ent × Rat × Mono, [DV.own 1 0 (a.1.map dEnt) 0 0, dRat a.2.1, dMono a.2.2] = [DV.own 1 0 (b.1.map dEnt) 0 0, dRat b.2.1, dMono b.2.2] → a = b := by
  intro a b h
  simp only [List.cons.injEq, DV.own.injEq, true_and, and_true] at h
  exact Prod.ext (map_inj (fun x y e => dEnt_inj e) h.1) (Prod.ext (dRat_inj h.2.1) (dMono_inj h.2.2))
noncomputable def g_sumadd : G := spec (fun a : Ent × Rat × Mono => [.own 1 0 (a.1.map dEnt) 0 0, dRat a.2.1, dMono a.2.2]) (fun a => Sze 16000 a.1 ∧ Sm 16000 a.2.1) (fun a => (.tup [], [(madd a.1 a.2.2 a.2.1).map dEnt]))
theorem e_sumadd (es : Ent) (c : Rat) (m : Mono) (h : Sze 16000 es ∧ Sm 16000 c) : g_sumadd [.own 1 0 (es.map dEnt) 0 0, dRat c, dMono m] = some (.tup [], [(madd es m c).map dEnt]) := spec_eq (a := (es, c, m)) inj_sum h
theorem ok_sumadd (R : ProgNums P) (hh : Has P n_polynomial_sum_add c_polynomial_sum_add) : FnOK P n_polynomial_sum_add g_sumadd :=
  ok_of R.hm (l := [(n_rational_Add, g_add)]) (by simpa using R.add) hh rfl fun ⟨es, c, m⟩ h => polynomial_sum_add_rets _ es c m fun v hv =>
    e_add _ _ ⟨h.1.wh _ hv, by have := N1e_mem hv; have := h.1.le; simp only at *; omega⟩ h.2

theorem inj_ent : ∀ a b : Ent, [DV.msl (a.map dEnt)] = [DV.msl (b.map dEnt)] → a = b := by
  intro a b h
  simp only [List.cons.injEq, DV.msl.injEq, and_true] at h
  exact map_inj (fun x y e => dEnt_inj e) h
noncomputable def g_sumpoly : G := spec (fun a : Ent => [.msl (a.map dEnt)]) (fun a => KeysOk a ∧ a.length ≤ 1000000) (fun a => (dPoly (polyOf a), []))
theorem e_sumpoly (es : Ent) (h : KeysOk es ∧ es.length ≤ 1000000) : g_sumpoly [.msl (es.map dEnt)] = some (dPoly (polyOf es), []) := spec_eq inj_ent h

noncomputable def g_pMul : G := spec (fun a : Poly × Poly => [dPoly a.1, dPoly a.2]) (fun a => MulOk a.1 a.2) (fun a => (.tup [dPoly (mulP a.1 a.2), .i .i64 0], []))
theorem e_pMul (p q : Poly) (h : MulOk p q) : g_pMul [dPoly p, dPoly q] = some (.tup [dPoly (mulP p q), .i .i64 0], []) := spec_eq (a := (p, q)) inj_pp h
theorem ok_pMul (R : ProgNums P) (hh : Has P n_polynomial_Mul c_polynomial_Mul) (h1 : FnOK P n_polynomial_sum_add g_sumadd) (h2 : FnOK P n_polynomial_sum_poly g_sumpoly) : FnOK P n_polynomial_Mul g_pMul :=
  ok_of R.hm (l := [(n_monomial_Mul, g_monomial_Mul), (n_rational_Mul, g_mul), (n_polynomial_sum_add, g_sumadd), (n_polynomial_sum_poly, g_sumpoly)]) (by simpa using ⟨R.mmul, R.mul, h1, h2⟩) hh rfl fun ⟨p, q⟩ h => by
    have h : MulOk p q := h
    have hlen := h.len
    refine polynomial_Mul_rets _ p q (by omega) (by omega) (fun t ht u hu => ?_) (fun t ht u hu => e_mul _ _ ⟨h.wp t ht, by have := N1_mem ht; have := h.sp; omega⟩ ⟨h.wq u hu, by have := N1_mem hu; have := h.sq; omega⟩) (fun pa t pb qa u qb hp hq => ?_) _ (e_sumpoly _ ⟨KeysOk.mall (by simp [KeysOk]), by have := mall_length q p []; simp only [List.length_nil] at this; omega⟩)
    · have b1 : Mo.bd 65535 (t.m.add u.m) := Mo.bd_mono (Mo.bd_add (h.bp t ht) (h.bq u hu)) (by omega)
      have e := e_monomial_Mul t.m u.m (Mo.bd_mono (h.bp t ht) (by omega)) (Mo.bd_mono (h.bq u hu) (by omega))
      rw [if_pos b1, if_pos b1] at e
      exact e
    · have ht : t ∈ p := by rw [hp]; simp
      have hu : u ∈ q := by rw [hq]; simp
      have wpa : ∀ v ∈ pa, v.c.den = 1 := fun v hv => h.wp v (by rw [hp]; simp [hv])
      have wqa : ∀ v ∈ qa, v.c.den = 1 := fun v hv => h.wq v (by rw [hq]; simp [hv])
      have s1 := Sze.maddp (h.wp t ht) wqa (Sze.mall h.wq wpa (es := []) (n := 0) ⟨by simp, by simp [N1e]⟩)
      have np : N1 p = N1 pa + (nm t.c + N1 pb) := by rw [hp, N1_append]; rfl
      have nq : N1 q = N1 qa + (nm u.c + N1 qb) := by rw [hq, N1_append]; rfl
      have hs := h.small
      have k1 : N1 p * N1 q = N1 pa * N1 q + nm t.c * N1 q + N1 pb * N1 q := by rw [np]; rw [Nat.add_mul, Nat.add_mul]; omega
      have k2 : nm t.c * N1 q = nm t.c * N1 qa + nm t.c * nm u.c + nm t.c * N1 qb := by rw [nq]; rw [Nat.mul_add, Nat.mul_add]; omega
      refine e_sumadd _ _ _ ⟨⟨s1.wh, by have := s1.le; omega⟩, (whole_mul (h.wp t ht) (h.wq u hu)).1, ?_⟩
      rw [nm_mul (h.wp t ht) (h.wq u hu)]; omega

noncomputable def g_dSum : G := spec (fun a : List Poly × List Poly => [dPolys a.1, dPolys a.2]) (fun a => SumOk a.1 a.2) (fun a => (if a.1.length = a.2.length then .tup [dPoly (psumg mulP [] a.1 a.2), .i .i64 0] else .tup [dPoly [], .i .i64 1], []))
theorem e_dSum (q l : List Poly) (h : SumOk q l) : g_dSum [dPolys q, dPolys l] = some (if q.length = l.length then .tup [dPoly (psumg mulP [] q l), .i .i64 0] else .tup [dPoly [], .i .i64 1], []) := spec_eq (a := (q, l)) inj_ll h
theorem ok_dSum (hm : P.follows .mixedOrders = true) (hh : Has P n_division_Sum c_division_Sum) (h1 : FnOK P n_polynomial_Mul g_pMul) (h2 : FnOK P n_polynomial_Add g_pAdd) : FnOK P n_division_Sum g_dSum :=
  ok_of hm (l := [(n_polynomial_Mul, g_pMul), (n_polynomial_Add, g_pAdd)]) (by simpa using ⟨h1, h2⟩) hh rfl fun ⟨q, l⟩ h => by
    have h : SumOk q l := h
    have hs : ∀ a ∈ q, ∀ b ∈ l, Sz 1080 (mulP a b) ∧ (mulP a b).length ≤ 10000 := fun a ha b hb => by
      have fa := h.fq a ha
      have fb := h.fl b hb
      have l1 : a.length * b.length ≤ 100 * 100 := Nat.mul_le_mul fa.len fb.fine.len
      have l2 := mulP_length a b
      exact ⟨(Sz.mulP fa.sz fb.sz).mono (by omega), by omega⟩
    refine division_Sum_rets _ mulP q l (by have := h.ll; omega) (by have := h.lq; omega) (fun _ a ha b hb => e_pMul a b (h.mulOk ha hb)) fun _ qa a qb la b lb hq hl hab => ?_
    obtain ⟨m1, m2, m3⟩ := mem_split3 hq
    obtain ⟨k1, k2, k3⟩ := mem_split3 hl
    have g1 := psumg_ok hs qa la m1 k1 (Sz.nil 0) (m := 0) (by simp)
    have g2 := hs a m2 b k2
    have := h.ll
    exact e_pAdd _ _ ⟨by omega, g1.1.sm (by omega), g2.1.sm (by omega)⟩

open Classical in
noncomputable def g_sIs : G := spec (fun a : List Poly × List Poly => [dPolys a.1, dPolys a.2]) (fun a => SumOk a.1 a.2) (fun a => (.b (decide (a.1.length = a.2.length ∧ ZS a.1 a.2)), []))
open Classical in
theorem e_sIs (q l : List Poly) (h : SumOk q l) : g_sIs [dPolys q, dPolys l] = some (.b (decide (q.length = l.length ∧ ZS q l)), []) := spec_eq (a := (q, l)) inj_ll h
open Classical in
theorem ok_sIs (hm : P.follows .mixedOrders = true) (hh : Has P n_syzygy_Is c_syzygy_Is) (h1 : FnOK P n_division_Sum g_dSum) : FnOK P n_syzygy_Is g_sIs :=
  ok_of hm (l := [(n_division_Sum, g_dSum)]) (by simpa using h1) hh rfl fun ⟨q, l⟩ h => by
    have h : SumOk q l := h
    have r := syzygy_Is_rets (sem [(n_division_Sum, g_dSum)]) mulP q l (e_dSum q l h)
    have e : (q.length = l.length ∧ psumg mulP [] q l = []) ↔ (q.length = l.length ∧ ZS q l) := by
      rw [psumg_zero (fun a ha b hb => Canon.mulP a b) (fun a ha b hb k => coef_mulP a b k)]
    have key : decide (q.length = l.length ∧ psumg mulP [] q l = []) = decide (q.length = l.length ∧ ZS q l) := decide_eq_decide.2 e
    rw [key] at r
    exact r

def g_true : G := fun ds => if ds.isEmpty then some (.b true, []) else none

theorem lawUses : LawUses (sem [(n_law19_sanity, g_true), (n_law19_poly, g_poly), (n_ref13_Polys, g_polys), (n_ref06_Add, g_ref06_Add), (n_ref06_Sub, g_ref06_Sub), (n_ref06_By, g_ref06_By), (n_syzygy_Is, g_sIs), (n_ref19_Is, g_ref19_Is)]) where
  sanity := rfl
  poly x := e_poly x
  polys l o := e_polys l o
  add p q hp hq := e_ref06_Add p q (by have := hp.len; have := hq.len; omega) (hp.sz.sm (by omega)) (hq.sz.sm (by omega))
  sub p q hp hq := e_ref06_Sub p q ⟨by have := hp.len; have := hq.len; omega, hq.bd.mono (by omega), hp.sz.sm (by omega), hq.sz.mono (by omega)⟩
  by_ p q hp hq := e_ref06_By p q (SumOk.mulOk (q := [p]) (l := [q]) ⟨by simp, by simp, by simpa using hp, by simpa using hq⟩ (by simp) (by simp))
  is q l h1 h2 h3 h4 := e_sIs q l ⟨h1, h2, h3, h4⟩
  ris q l h1 h2 h3 h4 := e_ref19_Is q l ⟨h1, h2, h3, h4⟩
end
end Go.Ev
