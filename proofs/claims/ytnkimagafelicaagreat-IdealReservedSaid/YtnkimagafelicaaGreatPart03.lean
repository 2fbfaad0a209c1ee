/- Parts of the proof of the statement: EvCdB, FClone, FRun, EvCdC, EvCdD, SHas, STab2, FHand, FHand2, FWalk. -/
import Derived.Test.YtnkimagafelicaaGreatPart00
import Derived.Test.YtnkimagafelicaaGreatPart02
import Derived.Test.YtnkimagafelicaaGreatChecked
import Derived.Maps.RangeRun
set_option linter.unusedVariables false
set_option linter.unusedSimpArgs false
/- Code of functions, printed from the translation by a program of mine. -/
set_option maxRecDepth 100000
namespace Go.Ev
/- eliminant/eliminantref01.trim -/
def l_ref01_trim_0 : C :=
 .seq (.seq (.reg [⟨none, .mv 6 (.t 3)⟩,
 ⟨none, .bin 7 .gtr (.t 6) (.c (.i .i64 0))⟩,
 ⟨none, .mv 8 (.t 7)⟩,
 ⟨some (8, true, 9), .mv 9 (.t 0)⟩,
 ⟨some (8, true, 10), .mv 10 (.t 3)⟩,
 ⟨some (8, true, 11), .bin 11 .sub (.t 10) (.c (.i .i64 1))⟩,
 ⟨some (8, true, 12), .iaddrS 12 1 (.t 9) (.t 11)⟩,
 ⟨some (8, true, 13), .load 13 1 false (.t 12)⟩,
 ⟨some (8, true, 14), .bin 14 .eql (.t 13) (.c (.i .u32 0))⟩,
 ⟨none, .pick 15 (.t 8) (.t 14) (.c (.b false))⟩])
 (.cond (.t 15) (.skip)
 (.exit 0)))
 (.block 1 (.reg [⟨none, .mv 16 (.t 3)⟩,
 ⟨none, .bin 17 .sub (.t 16) (.c (.i .i64 1))⟩,
 ⟨none, .mv 3 (.t 17)⟩]))
def c_ref01_trim : Fun := ⟨1, [.t 2],
 .seq (.reg [⟨none, .mv 2 (.c (.nil))⟩])
 (.seq (.reg [⟨none, .mv 4 (.t 0)⟩,
 ⟨none, .len 5 (.t 4)⟩,
 ⟨none, .mv 3 (.t 5)⟩])
 (.seq (.block 0 (.loop l_ref01_trim_0))
 (.seq (.reg [⟨none, .mv 18 (.t 0)⟩,
 ⟨none, .mv 19 (.t 3)⟩,
 ⟨none, .slice 20 1 (.t 18) none (some (.t 19)) none⟩,
 ⟨none, .mv 2 (.t 20)⟩])
 (.ret))))⟩
/- eliminant/eliminantref01.made -/
def c_ref01_made : Fun := ⟨2, [.c 4 2 true],
 .seq (.reg [⟨none, .alloc 4 [.b false, .nil]⟩])
 (.seq (.reg [⟨none, .mv 6 (.t 1)⟩,
 ⟨none, .call (some 7) n_ref01_trim [.t 6]⟩,
 ⟨none, .mv 5 (.t 7)⟩])
 (.seq (.reg [⟨none, .mv 8 (.t 0)⟩,
 ⟨none, .mv 9 (.t 8)⟩,
 ⟨some (9, true, 10), .mv 10 (.t 5)⟩,
 ⟨some (9, true, 11), .len 11 (.t 10)⟩,
 ⟨some (9, true, 12), .bin 12 .gtr (.t 11) (.c (.i .i64 0))⟩,
 ⟨none, .pick 13 (.t 9) (.t 12) (.c (.b false))⟩,
 ⟨none, .mv 14 (.t 5)⟩,
 ⟨none, .build 15 [.b false, .nil] [(0, 1, .t 13), (1, 1, .t 14)]⟩,
 ⟨none, .store 2 (.t 4) (.t 15)⟩])
 (.ret)))⟩
/- eliminant/eliminantref01.words -/
def c_ref01_words : Fun := ⟨1, [.t 2],
 .seq (.reg [⟨none, .mv 2 (.c (.nil))⟩])
 (.seq (.reg [⟨none, .mv 3 (.t 0)⟩,
 ⟨none, .bin 4 .rem (.t 3) (.c (.i .u64 4294967296))⟩,
 ⟨none, .conv 5 .u32 (.t 4)⟩,
 ⟨none, .mv 6 (.t 0)⟩,
 ⟨none, .bin 7 .quo (.t 6) (.c (.i .u64 4294967296))⟩,
 ⟨none, .conv 8 .u32 (.t 7)⟩,
 ⟨none, .bslice 9 2 1 [.i .u32 0] [(0, 1, .t 5), (1, 1, .t 8)]⟩,
 ⟨none, .call (some 10) n_ref01_trim [.t 9]⟩,
 ⟨none, .mv 2 (.t 10)⟩])
 (.ret))⟩
/- eliminant/eliminantref01.word -/
def c_ref01_word : Fun := ⟨2, [.t 4],
 .seq (.reg [⟨none, .mv 4 (.c (.i .u64 0))⟩])
 (.seq (.seq (.reg [⟨none, .mv 5 (.t 1)⟩,
 ⟨none, .mv 6 (.t 0)⟩,
 ⟨none, .len 7 (.t 6)⟩,
 ⟨none, .bin 8 .lss (.t 5) (.t 7)⟩])
 (.cond (.t 8) (.seq (.reg [⟨none, .mv 9 (.t 0)⟩,
 ⟨none, .mv 10 (.t 1)⟩,
 ⟨none, .iaddrS 11 1 (.t 9) (.t 10)⟩,
 ⟨none, .load 12 1 false (.t 11)⟩,
 ⟨none, .conv 13 .u64 (.t 12)⟩,
 ⟨none, .mv 4 (.t 13)⟩])
 (.ret))
 (.skip)))
 (.seq (.reg [⟨none, .mv 4 (.c (.i .u64 0))⟩])
 (.ret)))⟩
/- eliminant/eliminantref01.number -/
def c_ref01_number : Fun := ⟨1, [.t 2],
 .seq (.reg [⟨none, .mv 2 (.c (.i .u64 0))⟩])
 (.seq (.reg [⟨none, .mv 3 (.t 0)⟩,
 ⟨none, .call (some 4) n_ref01_word [.t 3, .c (.i .i64 1)]⟩,
 ⟨none, .bin 5 .mul (.t 4) (.c (.i .u64 4294967296))⟩,
 ⟨none, .mv 6 (.t 0)⟩,
 ⟨none, .call (some 7) n_ref01_word [.t 6, .c (.i .i64 0)]⟩,
 ⟨none, .bin 8 .add (.t 5) (.t 7)⟩,
 ⟨none, .mv 2 (.t 8)⟩])
 (.ret))⟩
/- eliminant/eliminantref01.compared -/
def l_ref01_compared_0 : C :=
 .seq (.seq (.reg [⟨none, .mv 19 (.t 5)⟩,
 ⟨none, .bin 20 .geq (.t 19) (.c (.i .i64 0))⟩])
 (.cond (.t 20) (.skip)
 (.exit 0)))
 (.seq (.block 1 (.seq (.seq (.reg [⟨none, .mv 23 (.t 0)⟩,
 ⟨none, .mv 24 (.t 5)⟩,
 ⟨none, .iaddrS 25 1 (.t 23) (.t 24)⟩,
 ⟨none, .load 26 1 false (.t 25)⟩,
 ⟨none, .mv 27 (.t 1)⟩,
 ⟨none, .mv 28 (.t 5)⟩,
 ⟨none, .iaddrS 29 1 (.t 27) (.t 28)⟩,
 ⟨none, .load 30 1 false (.t 29)⟩,
 ⟨none, .bin 31 .lss (.t 26) (.t 30)⟩])
 (.cond (.t 31) (.seq (.reg [⟨none, .mv 4 (.c (.i .i64 (-1)))⟩])
 (.ret))
 (.skip)))
 (.seq (.reg [⟨none, .mv 32 (.t 0)⟩,
 ⟨none, .mv 33 (.t 5)⟩,
 ⟨none, .iaddrS 34 1 (.t 32) (.t 33)⟩,
 ⟨none, .load 35 1 false (.t 34)⟩,
 ⟨none, .mv 36 (.t 1)⟩,
 ⟨none, .mv 37 (.t 5)⟩,
 ⟨none, .iaddrS 38 1 (.t 36) (.t 37)⟩,
 ⟨none, .load 39 1 false (.t 38)⟩,
 ⟨none, .bin 40 .gtr (.t 35) (.t 39)⟩])
 (.cond (.t 40) (.seq (.reg [⟨none, .mv 4 (.c (.i .i64 1))⟩])
 (.ret))
 (.skip)))))
 (.reg [⟨none, .mv 21 (.t 5)⟩,
 ⟨none, .bin 22 .sub (.t 21) (.c (.i .i64 1))⟩,
 ⟨none, .mv 5 (.t 22)⟩]))
def c_ref01_compared : Fun := ⟨2, [.t 4],
 .seq (.reg [⟨none, .mv 4 (.c (.i .i64 0))⟩])
 (.seq (.seq (.reg [⟨none, .mv 6 (.t 0)⟩,
 ⟨none, .len 7 (.t 6)⟩,
 ⟨none, .mv 8 (.t 1)⟩,
 ⟨none, .len 9 (.t 8)⟩,
 ⟨none, .bin 10 .lss (.t 7) (.t 9)⟩])
 (.cond (.t 10) (.seq (.reg [⟨none, .mv 4 (.c (.i .i64 (-1)))⟩])
 (.ret))
 (.skip)))
 (.seq (.seq (.reg [⟨none, .mv 11 (.t 0)⟩,
 ⟨none, .len 12 (.t 11)⟩,
 ⟨none, .mv 13 (.t 1)⟩,
 ⟨none, .len 14 (.t 13)⟩,
 ⟨none, .bin 15 .gtr (.t 12) (.t 14)⟩])
 (.cond (.t 15) (.seq (.reg [⟨none, .mv 4 (.c (.i .i64 1))⟩])
 (.ret))
 (.skip)))
 (.seq (.seq (.reg [⟨none, .mv 16 (.t 0)⟩,
 ⟨none, .len 17 (.t 16)⟩,
 ⟨none, .bin 18 .sub (.t 17) (.c (.i .i64 1))⟩,
 ⟨none, .mv 5 (.t 18)⟩])
 (.block 0 (.loop l_ref01_compared_0)))
 (.seq (.reg [⟨none, .mv 4 (.c (.i .i64 0))⟩])
 (.ret)))))⟩
/- eliminant/eliminantref01.added -/
def l_ref01_added_0 : C :=
 .seq (.seq (.reg [⟨none, .mv 18 (.t 8)⟩,
 ⟨none, .mv 19 (.t 5)⟩,
 ⟨none, .bin 20 .lss (.t 18) (.t 19)⟩])
 (.cond (.t 20) (.skip)
 (.exit 0)))
 (.seq (.block 1 (.seq (.reg [⟨none, .mv 23 (.t 0)⟩,
 ⟨none, .mv 24 (.t 8)⟩,
 ⟨none, .call (some 25) n_ref01_word [.t 23, .t 24]⟩,
 ⟨none, .mv 26 (.t 1)⟩,
 ⟨none, .mv 27 (.t 8)⟩,
 ⟨none, .call (some 28) n_ref01_word [.t 26, .t 27]⟩,
 ⟨none, .bin 29 .add (.t 25) (.t 28)⟩,
 ⟨none, .mv 30 (.t 7)⟩,
 ⟨none, .bin 31 .add (.t 29) (.t 30)⟩,
 ⟨none, .mv 9 (.t 31)⟩])
 (.seq (.reg [⟨none, .mv 32 (.t 6)⟩,
 ⟨none, .mv 33 (.t 8)⟩,
 ⟨none, .mv 34 (.t 9)⟩,
 ⟨none, .bin 35 .rem (.t 34) (.c (.i .u64 4294967296))⟩,
 ⟨none, .conv 36 .u32 (.t 35)⟩,
 ⟨none, .iaddrS 37 1 (.t 32) (.t 33)⟩,
 ⟨none, .store 1 (.t 37) (.t 36)⟩])
 (.reg [⟨none, .mv 38 (.t 9)⟩,
 ⟨none, .bin 39 .quo (.t 38) (.c (.i .u64 4294967296))⟩,
 ⟨none, .mv 7 (.t 39)⟩]))))
 (.reg [⟨none, .mv 21 (.t 8)⟩,
 ⟨none, .bin 22 .add (.t 21) (.c (.i .i64 1))⟩,
 ⟨none, .mv 8 (.t 22)⟩]))
def c_ref01_added : Fun := ⟨2, [.t 4],
 .seq (.reg [⟨none, .mv 4 (.c (.nil))⟩])
 (.seq (.reg [⟨none, .mv 10 (.t 0)⟩,
 ⟨none, .len 11 (.t 10)⟩,
 ⟨none, .mv 12 (.t 1)⟩,
 ⟨none, .len 13 (.t 12)⟩,
 ⟨none, .mnx 14 true (.t 11) (.t 13)⟩,
 ⟨none, .bin 15 .add (.t 14) (.c (.i .i64 1))⟩,
 ⟨none, .mv 5 (.t 15)⟩])
 (.seq (.reg [⟨none, .mv 16 (.t 5)⟩,
 ⟨none, .mkslice 17 1 [.i .u32 0] (.t 16) (.t 16)⟩,
 ⟨none, .mv 6 (.t 17)⟩])
 (.seq (.reg [⟨none, .mv 7 (.c (.i .u64 0))⟩])
 (.seq (.seq (.reg [⟨none, .mv 8 (.c (.i .i64 0))⟩])
 (.block 0 (.loop l_ref01_added_0)))
 (.seq (.reg [⟨none, .mv 40 (.t 6)⟩,
 ⟨none, .call (some 41) n_ref01_trim [.t 40]⟩,
 ⟨none, .mv 4 (.t 41)⟩])
 (.ret))))))⟩
/- eliminant/eliminantref01.taken -/
def l_ref01_taken_0 : C :=
 .seq (.seq (.reg [⟨none, .mv 12 (.t 7)⟩,
 ⟨none, .mv 13 (.t 0)⟩,
 ⟨none, .len 14 (.t 13)⟩,
 ⟨none, .bin 15 .lss (.t 12) (.t 14)⟩])
 (.cond (.t 15) (.skip)
 (.exit 0)))
 (.seq (.block 1 (.seq (.reg [⟨none, .mv 18 (.t 0)⟩,
 ⟨none, .mv 19 (.t 7)⟩,
 ⟨none, .iaddrS 20 1 (.t 18) (.t 19)⟩,
 ⟨none, .load 21 1 false (.t 20)⟩,
 ⟨none, .conv 22 .u64 (.t 21)⟩,
 ⟨none, .bin 23 .add (.c (.i .u64 4294967296)) (.t 22)⟩,
 ⟨none, .mv 24 (.t 1)⟩,
 ⟨none, .mv 25 (.t 7)⟩,
 ⟨none, .call (some 26) n_ref01_word [.t 24, .t 25]⟩,
 ⟨none, .bin 27 .sub (.t 23) (.t 26)⟩,
 ⟨none, .mv 28 (.t 6)⟩,
 ⟨none, .bin 29 .sub (.t 27) (.t 28)⟩,
 ⟨none, .mv 8 (.t 29)⟩])
 (.seq (.reg [⟨none, .mv 30 (.t 5)⟩,
 ⟨none, .mv 31 (.t 7)⟩,
 ⟨none, .mv 32 (.t 8)⟩,
 ⟨none, .bin 33 .rem (.t 32) (.c (.i .u64 4294967296))⟩,
 ⟨none, .conv 34 .u32 (.t 33)⟩,
 ⟨none, .iaddrS 35 1 (.t 30) (.t 31)⟩,
 ⟨none, .store 1 (.t 35) (.t 34)⟩])
 (.reg [⟨none, .mv 36 (.t 8)⟩,
 ⟨none, .bin 37 .quo (.t 36) (.c (.i .u64 4294967296))⟩,
 ⟨none, .bin 38 .sub (.c (.i .u64 1)) (.t 37)⟩,
 ⟨none, .mv 6 (.t 38)⟩]))))
 (.reg [⟨none, .mv 16 (.t 7)⟩,
 ⟨none, .bin 17 .add (.t 16) (.c (.i .i64 1))⟩,
 ⟨none, .mv 7 (.t 17)⟩]))
def c_ref01_taken : Fun := ⟨2, [.t 4],
 .seq (.reg [⟨none, .mv 4 (.c (.nil))⟩])
 (.seq (.reg [⟨none, .mv 9 (.t 0)⟩,
 ⟨none, .len 10 (.t 9)⟩,
 ⟨none, .mkslice 11 1 [.i .u32 0] (.t 10) (.t 10)⟩,
 ⟨none, .mv 5 (.t 11)⟩])
 (.seq (.reg [⟨none, .mv 6 (.c (.i .u64 0))⟩])
 (.seq (.seq (.reg [⟨none, .mv 7 (.c (.i .i64 0))⟩])
 (.block 0 (.loop l_ref01_taken_0)))
 (.seq (.reg [⟨none, .mv 39 (.t 5)⟩,
 ⟨none, .call (some 40) n_ref01_trim [.t 39]⟩,
 ⟨none, .mv 4 (.t 40)⟩])
 (.ret)))))⟩
/- eliminant/eliminantref01.times -/
def l_ref01_times_0 : C :=
 .seq (.seq (.reg [⟨none, .mv 22 (.t 8)⟩,
 ⟨none, .mv 23 (.t 1)⟩,
 ⟨none, .len 24 (.t 23)⟩,
 ⟨none, .bin 25 .lss (.t 22) (.t 24)⟩])
 (.cond (.t 25) (.skip)
 (.exit 2)))
 (.seq (.block 3 (.seq (.reg [⟨none, .mv 28 (.t 0)⟩,
 ⟨none, .mv 29 (.t 6)⟩,
 ⟨none, .iaddrS 30 1 (.t 28) (.t 29)⟩,
 ⟨none, .load 31 1 false (.t 30)⟩,
 ⟨none, .conv 32 .u64 (.t 31)⟩,
 ⟨none, .mv 33 (.t 1)⟩,
 ⟨none, .mv 34 (.t 8)⟩,
 ⟨none, .iaddrS 35 1 (.t 33) (.t 34)⟩,
 ⟨none, .load 36 1 false (.t 35)⟩,
 ⟨none, .conv 37 .u64 (.t 36)⟩,
 ⟨none, .bin 38 .mul (.t 32) (.t 37)⟩,
 ⟨none, .mv 39 (.t 5)⟩,
 ⟨none, .mv 40 (.t 6)⟩,
 ⟨none, .mv 41 (.t 8)⟩,
 ⟨none, .bin 42 .add (.t 40) (.t 41)⟩,
 ⟨none, .iaddrS 43 1 (.t 39) (.t 42)⟩,
 ⟨none, .load 44 1 false (.t 43)⟩,
 ⟨none, .conv 45 .u64 (.t 44)⟩,
 ⟨none, .bin 46 .add (.t 38) (.t 45)⟩,
 ⟨none, .mv 47 (.t 7)⟩,
 ⟨none, .bin 48 .add (.t 46) (.t 47)⟩,
 ⟨none, .mv 9 (.t 48)⟩])
 (.seq (.reg [⟨none, .mv 49 (.t 5)⟩,
 ⟨none, .mv 50 (.t 6)⟩,
 ⟨none, .mv 51 (.t 8)⟩,
 ⟨none, .bin 52 .add (.t 50) (.t 51)⟩,
 ⟨none, .mv 53 (.t 9)⟩,
 ⟨none, .bin 54 .rem (.t 53) (.c (.i .u64 4294967296))⟩,
 ⟨none, .conv 55 .u32 (.t 54)⟩,
 ⟨none, .iaddrS 56 1 (.t 49) (.t 52)⟩,
 ⟨none, .store 1 (.t 56) (.t 55)⟩])
 (.reg [⟨none, .mv 57 (.t 9)⟩,
 ⟨none, .bin 58 .quo (.t 57) (.c (.i .u64 4294967296))⟩,
 ⟨none, .mv 7 (.t 58)⟩]))))
 (.reg [⟨none, .mv 26 (.t 8)⟩,
 ⟨none, .bin 27 .add (.t 26) (.c (.i .i64 1))⟩,
 ⟨none, .mv 8 (.t 27)⟩]))
def l_ref01_times_1 : C :=
 .seq (.seq (.reg [⟨none, .mv 16 (.t 6)⟩,
 ⟨none, .mv 17 (.t 0)⟩,
 ⟨none, .len 18 (.t 17)⟩,
 ⟨none, .bin 19 .lss (.t 16) (.t 18)⟩])
 (.cond (.t 19) (.skip)
 (.exit 0)))
 (.seq (.block 1 (.seq (.reg [⟨none, .mv 7 (.c (.i .u64 0))⟩])
 (.seq (.seq (.reg [⟨none, .mv 8 (.c (.i .i64 0))⟩])
 (.block 2 (.loop l_ref01_times_0)))
 (.reg [⟨none, .mv 59 (.t 5)⟩,
 ⟨none, .mv 60 (.t 6)⟩,
 ⟨none, .mv 61 (.t 1)⟩,
 ⟨none, .len 62 (.t 61)⟩,
 ⟨none, .bin 63 .add (.t 60) (.t 62)⟩,
 ⟨none, .mv 64 (.t 7)⟩,
 ⟨none, .conv 65 .u32 (.t 64)⟩,
 ⟨none, .iaddrS 66 1 (.t 59) (.t 63)⟩,
 ⟨none, .store 1 (.t 66) (.t 65)⟩]))))
 (.reg [⟨none, .mv 20 (.t 6)⟩,
 ⟨none, .bin 21 .add (.t 20) (.c (.i .i64 1))⟩,
 ⟨none, .mv 6 (.t 21)⟩]))
def c_ref01_times : Fun := ⟨2, [.t 4],
 .seq (.reg [⟨none, .mv 4 (.c (.nil))⟩])
 (.seq (.reg [⟨none, .mv 10 (.t 0)⟩,
 ⟨none, .len 11 (.t 10)⟩,
 ⟨none, .mv 12 (.t 1)⟩,
 ⟨none, .len 13 (.t 12)⟩,
 ⟨none, .bin 14 .add (.t 11) (.t 13)⟩,
 ⟨none, .mkslice 15 1 [.i .u32 0] (.t 14) (.t 14)⟩,
 ⟨none, .mv 5 (.t 15)⟩])
 (.seq (.seq (.reg [⟨none, .mv 6 (.c (.i .i64 0))⟩])
 (.block 0 (.loop l_ref01_times_1)))
 (.seq (.reg [⟨none, .mv 67 (.t 5)⟩,
 ⟨none, .call (some 68) n_ref01_trim [.t 67]⟩,
 ⟨none, .mv 4 (.t 68)⟩])
 (.ret))))⟩
/- eliminant/eliminantref01.shortly -/
def l_ref01_shortly_0 : C :=
 .seq (.seq (.reg [⟨none, .mv 16 (.t 8)⟩,
 ⟨none, .bin 17 .geq (.t 16) (.c (.i .i64 0))⟩])
 (.cond (.t 17) (.skip)
 (.exit 0)))
 (.seq (.block 1 (.seq (.reg [⟨none, .mv 20 (.t 7)⟩,
 ⟨none, .bin 21 .mul (.t 20) (.c (.i .u64 4294967296))⟩,
 ⟨none, .mv 22 (.t 0)⟩,
 ⟨none, .mv 23 (.t 8)⟩,
 ⟨none, .iaddrS 24 1 (.t 22) (.t 23)⟩,
 ⟨none, .load 25 1 false (.t 24)⟩,
 ⟨none, .conv 26 .u64 (.t 25)⟩,
 ⟨none, .bin 27 .add (.t 21) (.t 26)⟩,
 ⟨none, .mv 9 (.t 27)⟩])
 (.seq (.reg [⟨none, .mv 28 (.t 6)⟩,
 ⟨none, .mv 29 (.t 8)⟩,
 ⟨none, .mv 30 (.t 9)⟩,
 ⟨none, .mv 31 (.t 1)⟩,
 ⟨none, .bin 32 .quo (.t 30) (.t 31)⟩,
 ⟨none, .conv 33 .u32 (.t 32)⟩,
 ⟨none, .iaddrS 34 1 (.t 28) (.t 29)⟩,
 ⟨none, .store 1 (.t 34) (.t 33)⟩])
 (.reg [⟨none, .mv 35 (.t 9)⟩,
 ⟨none, .mv 36 (.t 1)⟩,
 ⟨none, .bin 37 .rem (.t 35) (.t 36)⟩,
 ⟨none, .mv 7 (.t 37)⟩]))))
 (.reg [⟨none, .mv 18 (.t 8)⟩,
 ⟨none, .bin 19 .sub (.t 18) (.c (.i .i64 1))⟩,
 ⟨none, .mv 8 (.t 19)⟩]))
def c_ref01_shortly : Fun := ⟨2, [.t 4, .t 5],
 .seq (.reg [⟨none, .mv 4 (.c (.nil))⟩,
 ⟨none, .mv 5 (.c (.i .u64 0))⟩])
 (.seq (.reg [⟨none, .mv 10 (.t 0)⟩,
 ⟨none, .len 11 (.t 10)⟩,
 ⟨none, .mkslice 12 1 [.i .u32 0] (.t 11) (.t 11)⟩,
 ⟨none, .mv 6 (.t 12)⟩])
 (.seq (.reg [⟨none, .mv 7 (.c (.i .u64 0))⟩])
 (.seq (.seq (.reg [⟨none, .mv 13 (.t 0)⟩,
 ⟨none, .len 14 (.t 13)⟩,
 ⟨none, .bin 15 .sub (.t 14) (.c (.i .i64 1))⟩,
 ⟨none, .mv 8 (.t 15)⟩])
 (.block 0 (.loop l_ref01_shortly_0)))
 (.seq (.reg [⟨none, .mv 38 (.t 6)⟩,
 ⟨none, .call (some 39) n_ref01_trim [.t 38]⟩,
 ⟨none, .mv 40 (.t 7)⟩,
 ⟨none, .mv 4 (.t 39)⟩,
 ⟨none, .mv 5 (.t 40)⟩])
 (.ret)))))⟩
/- eliminant/eliminantref01.guess -/
/- eliminant/eliminantref01.lessen -/
/- eliminant/eliminantref01.restore -/
/- eliminant/eliminantref01.divided -/
def l_ref01_divided_0 : C :=
 .seq (.seq (.reg [⟨none, .mv 72 (.t 13)⟩,
 ⟨none, .bin 73 .geq (.t 72) (.c (.i .i64 0))⟩])
 (.cond (.t 73) (.skip)
 (.exit 0)))
 (.seq (.block 1 (.seq (.reg [⟨none, .mv 76 (.t 11)⟩,
 ⟨none, .mv 77 (.t 13)⟩,
 ⟨none, .mv 78 (.t 13)⟩,
 ⟨none, .mv 79 (.t 8)⟩,
 ⟨none, .bin 80 .add (.t 78) (.t 79)⟩,
 ⟨none, .bin 81 .add (.t 80) (.c (.i .i64 1))⟩,
 ⟨none, .slice 82 1 (.t 76) (some (.t 77)) (some (.t 81)) none⟩,
 ⟨none, .mv 14 (.t 82)⟩])
 (.seq (.reg [⟨none, .mv 83 (.t 14)⟩,
 ⟨none, .mv 84 (.t 10)⟩,
 ⟨none, .call (some 85) n_ref01_guess [.t 83, .t 84]⟩,
 ⟨none, .mv 15 (.t 85)⟩])
 (.seq (.seq (.reg [⟨none, .mv 86 (.t 14)⟩,
 ⟨none, .mv 87 (.t 10)⟩,
 ⟨none, .mv 88 (.t 15)⟩,
 ⟨none, .call (some 89) n_ref01_lessen [.t 86, .t 87, .t 88]⟩])
 (.cond (.t 89) (.seq (.reg [⟨none, .mv 90 (.t 15)⟩,
 ⟨none, .bin 91 .sub (.t 90) (.c (.i .u64 1))⟩,
 ⟨none, .mv 15 (.t 91)⟩])
 (.reg [⟨none, .mv 92 (.t 14)⟩,
 ⟨none, .mv 93 (.t 10)⟩,
 ⟨none, .call (some 94) n_ref01_restore [.t 92, .t 93]⟩]))
 (.skip)))
 (.reg [⟨none, .mv 95 (.t 12)⟩,
 ⟨none, .mv 96 (.t 13)⟩,
 ⟨none, .mv 97 (.t 15)⟩,
 ⟨none, .conv 98 .u32 (.t 97)⟩,
 ⟨none, .iaddrS 99 1 (.t 95) (.t 96)⟩,
 ⟨none, .store 1 (.t 99) (.t 98)⟩])))))
 (.reg [⟨none, .mv 74 (.t 13)⟩,
 ⟨none, .bin 75 .sub (.t 74) (.c (.i .i64 1))⟩,
 ⟨none, .mv 13 (.t 75)⟩]))
def c_ref01_divided : Fun := ⟨2, [.t 4, .t 5],
 .seq (.reg [⟨none, .mv 4 (.c (.nil))⟩,
 ⟨none, .mv 5 (.c (.nil))⟩])
 (.seq (.seq (.reg [⟨none, .mv 18 (.t 0)⟩,
 ⟨none, .mv 19 (.t 1)⟩,
 ⟨none, .call (some 20) n_ref01_compared [.t 18, .t 19]⟩,
 ⟨none, .bin 21 .lss (.t 20) (.c (.i .i64 0))⟩])
 (.cond (.t 21) (.seq (.reg [⟨none, .mv 22 (.t 0)⟩,
 ⟨none, .mv 4 (.c (.nil))⟩,
 ⟨none, .mv 5 (.t 22)⟩])
 (.ret))
 (.skip)))
 (.seq (.seq (.reg [⟨none, .mv 23 (.t 1)⟩,
 ⟨none, .len 24 (.t 23)⟩,
 ⟨none, .bin 25 .eql (.t 24) (.c (.i .i64 1))⟩])
 (.cond (.t 25) (.seq (.reg [⟨none, .mv 27 (.t 0)⟩,
 ⟨none, .mv 28 (.t 1)⟩,
 ⟨none, .iaddrS 29 1 (.t 28) (.c (.i .i64 0))⟩,
 ⟨none, .load 30 1 false (.t 29)⟩,
 ⟨none, .conv 31 .u64 (.t 30)⟩,
 ⟨none, .call (some 32) n_ref01_shortly [.t 27, .t 31]⟩,
 ⟨none, .mv 26 (.t 32)⟩,
 ⟨none, .ext 33 0 (.t 26)⟩,
 ⟨none, .ext 34 1 (.t 26)⟩,
 ⟨none, .mv 6 (.t 33)⟩,
 ⟨none, .mv 7 (.t 34)⟩])
 (.seq (.reg [⟨none, .mv 35 (.t 6)⟩,
 ⟨none, .mv 36 (.t 7)⟩,
 ⟨none, .call (some 37) n_ref01_words [.t 36]⟩,
 ⟨none, .mv 4 (.t 35)⟩,
 ⟨none, .mv 5 (.t 37)⟩])
 (.ret)))
 (.skip)))
 (.seq (.reg [⟨none, .mv 38 (.t 1)⟩,
 ⟨none, .len 39 (.t 38)⟩,
 ⟨none, .mv 8 (.t 39)⟩])
 (.seq (.reg [⟨none, .mv 40 (.t 1)⟩,
 ⟨none, .mv 41 (.t 8)⟩,
 ⟨none, .bin 42 .sub (.t 41) (.c (.i .i64 1))⟩,
 ⟨none, .iaddrS 43 1 (.t 40) (.t 42)⟩,
 ⟨none, .load 44 1 false (.t 43)⟩,
 ⟨none, .conv 45 .u64 (.t 44)⟩,
 ⟨none, .bin 46 .add (.t 45) (.c (.i .u64 1))⟩,
 ⟨none, .bin 47 .quo (.c (.i .u64 4294967296)) (.t 46)⟩,
 ⟨none, .mv 9 (.t 47)⟩])
 (.seq (.reg [⟨none, .mv 48 (.t 1)⟩,
 ⟨none, .mv 49 (.t 9)⟩,
 ⟨none, .call (some 50) n_ref01_words [.t 49]⟩,
 ⟨none, .call (some 51) n_ref01_times [.t 48, .t 50]⟩,
 ⟨none, .mv 10 (.t 51)⟩])
 (.seq (.reg [⟨none, .mv 52 (.t 0)⟩,
 ⟨none, .len 53 (.t 52)⟩,
 ⟨none, .bin 54 .add (.t 53) (.c (.i .i64 1))⟩,
 ⟨none, .mkslice 55 1 [.i .u32 0] (.t 54) (.t 54)⟩,
 ⟨none, .mv 11 (.t 55)⟩])
 (.seq (.reg [⟨none, .mv 56 (.t 11)⟩,
 ⟨none, .mv 57 (.t 0)⟩,
 ⟨none, .mv 58 (.t 9)⟩,
 ⟨none, .call (some 59) n_ref01_words [.t 58]⟩,
 ⟨none, .call (some 60) n_ref01_times [.t 57, .t 59]⟩,
 ⟨none, .fail (some 61)⟩])
 (.seq (.reg [⟨none, .mv 62 (.t 0)⟩,
 ⟨none, .len 63 (.t 62)⟩,
 ⟨none, .mv 64 (.t 8)⟩,
 ⟨none, .bin 65 .sub (.t 63) (.t 64)⟩,
 ⟨none, .bin 66 .add (.t 65) (.c (.i .i64 1))⟩,
 ⟨none, .mkslice 67 1 [.i .u32 0] (.t 66) (.t 66)⟩,
 ⟨none, .mv 12 (.t 67)⟩])
 (.seq (.seq (.reg [⟨none, .mv 68 (.t 0)⟩,
 ⟨none, .len 69 (.t 68)⟩,
 ⟨none, .mv 70 (.t 8)⟩,
 ⟨none, .bin 71 .sub (.t 69) (.t 70)⟩,
 ⟨none, .mv 13 (.t 71)⟩])
 (.block 0 (.loop l_ref01_divided_0)))
 (.seq (.reg [⟨none, .mv 101 (.t 11)⟩,
 ⟨none, .call (some 102) n_ref01_trim [.t 101]⟩,
 ⟨none, .mv 103 (.t 9)⟩,
 ⟨none, .call (some 104) n_ref01_shortly [.t 102, .t 103]⟩,
 ⟨none, .mv 100 (.t 104)⟩,
 ⟨none, .ext 105 0 (.t 100)⟩,
 ⟨none, .ext 106 1 (.t 100)⟩,
 ⟨none, .mv 16 (.t 105)⟩,
 ⟨none, .mv 17 (.t 106)⟩])
 (.seq (.reg [⟨none, .mv 107 (.t 12)⟩,
 ⟨none, .call (some 108) n_ref01_trim [.t 107]⟩,
 ⟨none, .mv 109 (.t 16)⟩,
 ⟨none, .mv 4 (.t 108)⟩,
 ⟨none, .mv 5 (.t 109)⟩])
 (.ret))))))))))))⟩
/- eliminant/eliminantref01.common -/
def l_ref01_common_0 : C :=
 .seq (.seq (.reg [⟨none, .mv 7 (.t 1)⟩,
 ⟨none, .len 8 (.t 7)⟩,
 ⟨none, .bin 9 .gtr (.t 8) (.c (.i .i64 0))⟩])
 (.cond (.t 9) (.skip)
 (.exit 0)))
 (.block 1 (.seq (.seq (.reg [⟨none, .mv 10 (.t 0)⟩,
 ⟨none, .len 11 (.t 10)⟩,
 ⟨none, .bin 12 .leq (.t 11) (.c (.i .i64 2))⟩,
 ⟨none, .mv 13 (.t 12)⟩,
 ⟨some (13, true, 14), .mv 14 (.t 1)⟩,
 ⟨some (13, true, 15), .len 15 (.t 14)⟩,
 ⟨some (13, true, 16), .bin 16 .leq (.t 15) (.c (.i .i64 2))⟩,
 ⟨none, .pick 17 (.t 13) (.t 16) (.c (.b false))⟩])
 (.cond (.t 17) (.seq (.reg [⟨none, .mv 18 (.t 0)⟩,
 ⟨none, .call (some 19) n_ref01_number [.t 18]⟩,
 ⟨none, .mv 20 (.t 1)⟩,
 ⟨none, .call (some 21) n_ref01_number [.t 20]⟩,
 ⟨none, .call (some 22) n_ref01_euclid [.t 19, .t 21]⟩,
 ⟨none, .call (some 23) n_ref01_words [.t 22]⟩,
 ⟨none, .mv 4 (.t 23)⟩])
 (.ret))
 (.skip)))
 (.seq (.reg [⟨none, .mv 25 (.t 0)⟩,
 ⟨none, .mv 26 (.t 1)⟩,
 ⟨none, .call (some 27) n_ref01_divided [.t 25, .t 26]⟩,
 ⟨none, .mv 24 (.t 27)⟩,
 ⟨none, .ext 28 0 (.t 24)⟩,
 ⟨none, .ext 29 1 (.t 24)⟩,
 ⟨none, .mv 5 (.t 28)⟩,
 ⟨none, .mv 6 (.t 29)⟩])
 (.seq (.reg [⟨none, .mv 30 (.t 1)⟩,
 ⟨none, .mv 0 (.t 30)⟩])
 (.reg [⟨none, .mv 31 (.t 6)⟩,
 ⟨none, .mv 1 (.t 31)⟩])))))
def c_ref01_common : Fun := ⟨2, [.t 4],
 .seq (.reg [⟨none, .mv 4 (.c (.nil))⟩])
 (.seq (.block 0 (.loop l_ref01_common_0))
 (.seq (.reg [⟨none, .mv 32 (.t 0)⟩,
 ⟨none, .mv 4 (.t 32)⟩])
 (.ret)))⟩
/- eliminant/eliminantref01.euclid -/
def l_ref01_euclid_0 : C :=
 .seq (.seq (.reg [⟨none, .mv 6 (.t 1)⟩,
 ⟨none, .bin 7 .gtr (.t 6) (.c (.i .u64 0))⟩])
 (.cond (.t 7) (.skip)
 (.exit 0)))
 (.block 1 (.seq (.reg [⟨none, .mv 8 (.t 0)⟩,
 ⟨none, .mv 9 (.t 1)⟩,
 ⟨none, .bin 10 .rem (.t 8) (.t 9)⟩,
 ⟨none, .mv 5 (.t 10)⟩])
 (.seq (.reg [⟨none, .mv 11 (.t 1)⟩,
 ⟨none, .mv 0 (.t 11)⟩])
 (.reg [⟨none, .mv 12 (.t 5)⟩,
 ⟨none, .mv 1 (.t 12)⟩]))))
def c_ref01_euclid : Fun := ⟨2, [.t 4],
 .seq (.reg [⟨none, .mv 4 (.c (.i .u64 0))⟩])
 (.seq (.block 0 (.loop l_ref01_euclid_0))
 (.seq (.reg [⟨none, .mv 13 (.t 0)⟩,
 ⟨none, .mv 4 (.t 13)⟩])
 (.ret)))⟩
/- eliminant/eliminantref01.Of -/
def c_ref01_Of : Fun := ⟨1, [.c 2 2 true],
 .seq (.reg [⟨none, .alloc 2 [.b false, .nil]⟩])
 (.seq (.seq (.reg [⟨none, .mv 3 (.t 0)⟩,
 ⟨none, .bin 4 .lss (.t 3) (.c (.i .i64 0))⟩])
 (.cond (.t 4) (.seq (.reg [⟨none, .mv 5 (.t 0)⟩,
 ⟨none, .bin 6 .add (.t 5) (.c (.i .i64 1))⟩,
 ⟨none, .un 7 .neg (.t 6)⟩,
 ⟨none, .conv 8 .u64 (.t 7)⟩,
 ⟨none, .bin 9 .add (.t 8) (.c (.i .u64 1))⟩,
 ⟨none, .call (some 10) n_ref01_words [.t 9]⟩,
 ⟨none, .call (some 11) n_ref01_made [.c (.b true), .t 10]⟩,
 ⟨none, .store 2 (.t 2) (.t 11)⟩])
 (.ret))
 (.skip)))
 (.seq (.reg [⟨none, .mv 12 (.t 0)⟩,
 ⟨none, .conv 13 .u64 (.t 12)⟩,
 ⟨none, .call (some 14) n_ref01_words [.t 13]⟩,
 ⟨none, .call (some 15) n_ref01_made [.c (.b false), .t 14]⟩,
 ⟨none, .store 2 (.t 2) (.t 15)⟩])
 (.ret)))⟩
/- eliminant/eliminantref01.Cmp -/
/- eliminant/eliminantref01.Neg -/
def c_ref01_Neg : Fun := ⟨1, [.c 2 2 true],
 .seq (.reg [⟨none, .box 1 2 (.t 0)⟩,
 ⟨none, .alloc 2 [.b false, .nil]⟩])
 (.seq (.reg [⟨none, .faddr 3 0 (.t 1)⟩,
 ⟨none, .load 4 1 false (.t 3)⟩,
 ⟨none, .un 5 .not (.t 4)⟩,
 ⟨none, .faddr 6 1 (.t 1)⟩,
 ⟨none, .load 7 1 false (.t 6)⟩,
 ⟨none, .call (some 8) n_ref01_made [.t 5, .t 7]⟩,
 ⟨none, .store 2 (.t 2) (.t 8)⟩])
 (.ret))⟩
/- eliminant/eliminantref01.Add -/
def c_ref01_Add : Fun := ⟨2, [.c 4 2 true],
 .seq (.reg [⟨none, .box 2 2 (.t 0)⟩,
 ⟨none, .box 3 2 (.t 1)⟩,
 ⟨none, .alloc 4 [.b false, .nil]⟩])
 (.seq (.seq (.reg [⟨none, .faddr 5 0 (.t 2)⟩,
 ⟨none, .load 6 1 false (.t 5)⟩,
 ⟨none, .faddr 7 0 (.t 3)⟩,
 ⟨none, .load 8 1 false (.t 7)⟩,
 ⟨none, .beq 9 false (.t 6) (.t 8)⟩])
 (.cond (.t 9) (.seq (.reg [⟨none, .faddr 10 0 (.t 2)⟩,
 ⟨none, .load 11 1 false (.t 10)⟩,
 ⟨none, .faddr 12 1 (.t 2)⟩,
 ⟨none, .load 13 1 false (.t 12)⟩,
 ⟨none, .faddr 14 1 (.t 3)⟩,
 ⟨none, .load 15 1 false (.t 14)⟩,
 ⟨none, .call (some 16) n_ref01_added [.t 13, .t 15]⟩,
 ⟨none, .call (some 17) n_ref01_made [.t 11, .t 16]⟩,
 ⟨none, .store 2 (.t 4) (.t 17)⟩])
 (.ret))
 (.skip)))
 (.seq (.seq (.reg [⟨none, .faddr 18 1 (.t 2)⟩,
 ⟨none, .load 19 1 false (.t 18)⟩,
 ⟨none, .faddr 20 1 (.t 3)⟩,
 ⟨none, .load 21 1 false (.t 20)⟩,
 ⟨none, .call (some 22) n_ref01_compared [.t 19, .t 21]⟩,
 ⟨none, .bin 23 .lss (.t 22) (.c (.i .i64 0))⟩])
 (.cond (.t 23) (.seq (.reg [⟨none, .faddr 24 0 (.t 3)⟩,
 ⟨none, .load 25 1 false (.t 24)⟩,
 ⟨none, .faddr 26 1 (.t 3)⟩,
 ⟨none, .load 27 1 false (.t 26)⟩,
 ⟨none, .faddr 28 1 (.t 2)⟩,
 ⟨none, .load 29 1 false (.t 28)⟩,
 ⟨none, .call (some 30) n_ref01_taken [.t 27, .t 29]⟩,
 ⟨none, .call (some 31) n_ref01_made [.t 25, .t 30]⟩,
 ⟨none, .store 2 (.t 4) (.t 31)⟩])
 (.ret))
 (.skip)))
 (.seq (.reg [⟨none, .faddr 32 0 (.t 2)⟩,
 ⟨none, .load 33 1 false (.t 32)⟩,
 ⟨none, .faddr 34 1 (.t 2)⟩,
 ⟨none, .load 35 1 false (.t 34)⟩,
 ⟨none, .faddr 36 1 (.t 3)⟩,
 ⟨none, .load 37 1 false (.t 36)⟩,
 ⟨none, .call (some 38) n_ref01_taken [.t 35, .t 37]⟩,
 ⟨none, .call (some 39) n_ref01_made [.t 33, .t 38]⟩,
 ⟨none, .store 2 (.t 4) (.t 39)⟩])
 (.ret))))⟩
/- eliminant/eliminantref01.Mul -/
def c_ref01_Mul : Fun := ⟨2, [.c 4 2 true],
 .seq (.reg [⟨none, .box 2 2 (.t 0)⟩,
 ⟨none, .box 3 2 (.t 1)⟩,
 ⟨none, .alloc 4 [.b false, .nil]⟩])
 (.seq (.reg [⟨none, .faddr 5 0 (.t 2)⟩,
 ⟨none, .load 6 1 false (.t 5)⟩,
 ⟨none, .faddr 7 0 (.t 3)⟩,
 ⟨none, .load 8 1 false (.t 7)⟩,
 ⟨none, .beq 9 true (.t 6) (.t 8)⟩,
 ⟨none, .faddr 10 1 (.t 2)⟩,
 ⟨none, .load 11 1 false (.t 10)⟩,
 ⟨none, .faddr 12 1 (.t 3)⟩,
 ⟨none, .load 13 1 false (.t 12)⟩,
 ⟨none, .call (some 14) n_ref01_times [.t 11, .t 13]⟩,
 ⟨none, .call (some 15) n_ref01_made [.t 9, .t 14]⟩,
 ⟨none, .store 2 (.t 4) (.t 15)⟩])
 (.ret))⟩
/- eliminant/eliminantref01.DivMod -/
def c_ref01_DivMod : Fun := ⟨2, [.c 4 2 true, .c 5 2 true, .t 6],
 .seq (.reg [⟨none, .box 2 2 (.t 0)⟩,
 ⟨none, .box 3 2 (.t 1)⟩,
 ⟨none, .alloc 4 [.b false, .nil]⟩,
 ⟨none, .alloc 5 [.b false, .nil]⟩,
 ⟨none, .mv 6 (.c (.i .i64 0))⟩])
 (.seq (.seq (.reg [⟨none, .faddr 9 1 (.t 3)⟩,
 ⟨none, .load 10 1 false (.t 9)⟩,
 ⟨none, .len 11 (.t 10)⟩,
 ⟨none, .bin 12 .eql (.t 11) (.c (.i .i64 0))⟩])
 (.cond (.t 12) (.seq (.reg [⟨none, .build 13 [.b false, .nil] []⟩,
 ⟨none, .build 14 [.b false, .nil] []⟩,
 ⟨none, .store 2 (.t 4) (.t 13)⟩,
 ⟨none, .store 2 (.t 5) (.t 14)⟩,
 ⟨none, .mv 6 (.c (.i .i64 10))⟩])
 (.ret))
 (.skip)))
 (.seq (.reg [⟨none, .faddr 16 1 (.t 2)⟩,
 ⟨none, .load 17 1 false (.t 16)⟩,
 ⟨none, .faddr 18 1 (.t 3)⟩,
 ⟨none, .load 19 1 false (.t 18)⟩,
 ⟨none, .call (some 20) n_ref01_divided [.t 17, .t 19]⟩,
 ⟨none, .mv 15 (.t 20)⟩,
 ⟨none, .ext 21 0 (.t 15)⟩,
 ⟨none, .ext 22 1 (.t 15)⟩,
 ⟨none, .mv 7 (.t 21)⟩,
 ⟨none, .mv 8 (.t 22)⟩])
 (.seq (.seq (.reg [⟨none, .faddr 23 0 (.t 2)⟩,
 ⟨none, .load 24 1 false (.t 23)⟩,
 ⟨none, .mv 25 (.t 24)⟩,
 ⟨some (25, true, 26), .mv 26 (.t 8)⟩,
 ⟨some (25, true, 27), .len 27 (.t 26)⟩,
 ⟨some (25, true, 28), .bin 28 .gtr (.t 27) (.c (.i .i64 0))⟩,
 ⟨none, .pick 29 (.t 25) (.t 28) (.c (.b false))⟩])
 (.cond (.t 29) (.seq (.reg [⟨none, .mv 30 (.t 7)⟩,
 ⟨none, .bslice 31 1 1 [.i .u32 0] [(0, 1, .c (.i .u32 1))]⟩,
 ⟨none, .call (some 32) n_ref01_added [.t 30, .t 31]⟩,
 ⟨none, .mv 7 (.t 32)⟩])
 (.reg [⟨none, .faddr 33 1 (.t 3)⟩,
 ⟨none, .load 34 1 false (.t 33)⟩,
 ⟨none, .mv 35 (.t 8)⟩,
 ⟨none, .call (some 36) n_ref01_taken [.t 34, .t 35]⟩,
 ⟨none, .mv 8 (.t 36)⟩]))
 (.skip)))
 (.seq (.reg [⟨none, .faddr 37 0 (.t 2)⟩,
 ⟨none, .load 38 1 false (.t 37)⟩,
 ⟨none, .faddr 39 0 (.t 3)⟩,
 ⟨none, .load 40 1 false (.t 39)⟩,
 ⟨none, .beq 41 true (.t 38) (.t 40)⟩,
 ⟨none, .mv 42 (.t 7)⟩,
 ⟨none, .call (some 43) n_ref01_made [.t 41, .t 42]⟩,
 ⟨none, .mv 44 (.t 8)⟩,
 ⟨none, .call (some 45) n_ref01_made [.c (.b false), .t 44]⟩,
 ⟨none, .store 2 (.t 4) (.t 43)⟩,
 ⟨none, .store 2 (.t 5) (.t 45)⟩,
 ⟨none, .mv 6 (.c (.i .i64 0))⟩])
 (.ret)))))⟩
/- eliminant/eliminantref01.Gcd -/
def c_ref01_Gcd : Fun := ⟨2, [.c 4 2 true],
 .seq (.reg [⟨none, .box 2 2 (.t 0)⟩,
 ⟨none, .box 3 2 (.t 1)⟩,
 ⟨none, .alloc 4 [.b false, .nil]⟩])
 (.seq (.reg [⟨none, .faddr 5 1 (.t 2)⟩,
 ⟨none, .load 6 1 false (.t 5)⟩,
 ⟨none, .faddr 7 1 (.t 3)⟩,
 ⟨none, .load 8 1 false (.t 7)⟩,
 ⟨none, .call (some 9) n_ref01_common [.t 6, .t 8]⟩,
 ⟨none, .call (some 10) n_ref01_made [.c (.b false), .t 9]⟩,
 ⟨none, .store 2 (.t 4) (.t 10)⟩])
 (.ret))⟩
/- eliminant/eliminantref01.Valid -/
/- eliminant/eliminantref02.Add -/
def c_ref02_Add : Fun := ⟨2, [.c 4 4 true],
 .seq (.reg [⟨none, .box 2 4 (.t 0)⟩,
 ⟨none, .box 3 4 (.t 1)⟩,
 ⟨none, .alloc 4 [.b false, .nil, .b false, .nil]⟩])
 (.seq (.reg [⟨none, .faddr 5 0 (.t 2)⟩,
 ⟨none, .load 6 2 true (.t 5)⟩,
 ⟨none, .faddr 7 2 (.t 3)⟩,
 ⟨none, .load 8 2 true (.t 7)⟩,
 ⟨none, .call (some 9) n_ref01_Mul [.t 6, .t 8]⟩,
 ⟨none, .faddr 10 0 (.t 3)⟩,
 ⟨none, .load 11 2 true (.t 10)⟩,
 ⟨none, .faddr 12 2 (.t 2)⟩,
 ⟨none, .load 13 2 true (.t 12)⟩,
 ⟨none, .call (some 14) n_ref01_Mul [.t 11, .t 13]⟩,
 ⟨none, .call (some 15) n_ref01_Add [.t 9, .t 14]⟩,
 ⟨none, .faddr 16 2 (.t 2)⟩,
 ⟨none, .load 17 2 true (.t 16)⟩,
 ⟨none, .faddr 18 2 (.t 3)⟩,
 ⟨none, .load 19 2 true (.t 18)⟩,
 ⟨none, .call (some 20) n_ref01_Mul [.t 17, .t 19]⟩,
 ⟨none, .call (some 21) n_ref02_lowest [.t 15, .t 20]⟩,
 ⟨none, .store 4 (.t 4) (.t 21)⟩])
 (.ret))⟩
/- eliminant/eliminantref02.Neg -/
/- eliminant/eliminantref02.Mul -/
def c_ref02_Mul : Fun := ⟨2, [.c 4 4 true],
 .seq (.reg [⟨none, .box 2 4 (.t 0)⟩,
 ⟨none, .box 3 4 (.t 1)⟩,
 ⟨none, .alloc 4 [.b false, .nil, .b false, .nil]⟩])
 (.seq (.reg [⟨none, .faddr 5 0 (.t 2)⟩,
 ⟨none, .load 6 2 true (.t 5)⟩,
 ⟨none, .faddr 7 0 (.t 3)⟩,
 ⟨none, .load 8 2 true (.t 7)⟩,
 ⟨none, .call (some 9) n_ref01_Mul [.t 6, .t 8]⟩,
 ⟨none, .faddr 10 2 (.t 2)⟩,
 ⟨none, .load 11 2 true (.t 10)⟩,
 ⟨none, .faddr 12 2 (.t 3)⟩,
 ⟨none, .load 13 2 true (.t 12)⟩,
 ⟨none, .call (some 14) n_ref01_Mul [.t 11, .t 13]⟩,
 ⟨none, .call (some 15) n_ref02_lowest [.t 9, .t 14]⟩,
 ⟨none, .store 4 (.t 4) (.t 15)⟩])
 (.ret))⟩
/- eliminant/eliminantref02.lowest -/
def c_ref02_lowest : Fun := ⟨2, [.c 4 4 true],
 .seq (.reg [⟨none, .box 2 2 (.t 0)⟩,
 ⟨none, .box 3 2 (.t 1)⟩,
 ⟨none, .alloc 4 [.b false, .nil, .b false, .nil]⟩])
 (.seq (.reg [⟨none, .load 6 2 true (.t 2)⟩,
 ⟨none, .load 7 2 true (.t 3)⟩,
 ⟨none, .call (some 8) n_ref01_Gcd [.t 6, .t 7]⟩,
 ⟨none, .alloc 5 [.b false, .nil]⟩,
 ⟨none, .store 2 (.t 5) (.t 8)⟩])
 (.seq (.seq (.reg [⟨none, .load 9 2 true (.t 3)⟩,
 ⟨none, .call (some 10) n_ref01_Sign [.t 9]⟩,
 ⟨none, .bin 11 .lss (.t 10) (.c (.i .i64 0))⟩])
 (.cond (.t 11) (.reg [⟨none, .load 12 2 true (.t 5)⟩,
 ⟨none, .call (some 13) n_ref01_Neg [.t 12]⟩,
 ⟨none, .store 2 (.t 5) (.t 13)⟩])
 (.skip)))
 (.seq (.reg [⟨none, .load 14 2 true (.t 2)⟩,
 ⟨none, .load 15 2 true (.t 5)⟩,
 ⟨none, .call (some 16) n_ref02_exact [.t 14, .t 15]⟩,
 ⟨none, .load 17 2 true (.t 3)⟩,
 ⟨none, .load 18 2 true (.t 5)⟩,
 ⟨none, .call (some 19) n_ref02_exact [.t 17, .t 18]⟩,
 ⟨none, .build 20 [.b false, .nil, .b false, .nil] [(0, 2, .t 16), (2, 2, .t 19)]⟩,
 ⟨none, .store 4 (.t 4) (.t 20)⟩])
 (.ret))))⟩
/- eliminant/eliminantref02.exact -/
def c_ref02_exact : Fun := ⟨2, [.c 4 2 true],
 .seq (.reg [⟨none, .box 2 2 (.t 0)⟩,
 ⟨none, .box 3 2 (.t 1)⟩,
 ⟨none, .alloc 4 [.b false, .nil]⟩])
 (.seq (.reg [⟨none, .load 9 2 true (.t 2)⟩,
 ⟨none, .load 10 2 true (.t 3)⟩,
 ⟨none, .call (some 11) n_ref01_DivMod [.t 9, .t 10]⟩,
 ⟨none, .mv 8 (.t 11)⟩,
 ⟨none, .ext 12 0 (.t 8)⟩,
 ⟨none, .ext 13 1 (.t 8)⟩,
 ⟨none, .ext 14 2 (.t 8)⟩,
 ⟨none, .alloc 5 [.b false, .nil]⟩,
 ⟨none, .alloc 6 [.b false, .nil]⟩,
 ⟨none, .store 2 (.t 5) (.t 12)⟩,
 ⟨none, .store 2 (.t 6) (.t 13)⟩,
 ⟨none, .mv 7 (.t 14)⟩])
 (.seq (.reg [⟨none, .load 15 2 true (.t 5)⟩,
 ⟨none, .store 2 (.t 4) (.t 15)⟩])
 (.ret)))⟩
/- eliminant/eliminantref02.New -/
/- eliminant/eliminantref02.Inv -/
/- eliminant/eliminantref02.Div -/
/- eliminant/eliminantref02.Valid -/
/- eliminant/integer.natural -/
def c_integer_natural : Fun := ⟨1, [.t 2],
 .seq (.reg [⟨none, .mv 2 (.c (.nil))⟩])
 (.seq (.reg [⟨none, .mv 3 (.t 0)⟩,
 ⟨none, .conv 4 .u32 (.t 3)⟩,
 ⟨none, .mv 5 (.t 0)⟩,
 ⟨none, .bin 6 .shr (.t 5) (.c (.i .u64 32))⟩,
 ⟨none, .conv 7 .u32 (.t 6)⟩,
 ⟨none, .bslice 8 2 1 [.i .u32 0] [(0, 1, .t 4), (1, 1, .t 7)]⟩,
 ⟨none, .call (some 9) n_integer_nat_norm [.t 8]⟩,
 ⟨none, .mv 2 (.t 9)⟩])
 (.ret))⟩
/- (eliminant/integer.nat).norm -/
def l_integer_nat_norm_0 : C :=
 .seq (.seq (.reg [⟨none, .mv 6 (.t 3)⟩,
 ⟨none, .bin 7 .gtr (.t 6) (.c (.i .i64 0))⟩,
 ⟨none, .mv 8 (.t 7)⟩,
 ⟨some (8, true, 9), .mv 9 (.t 0)⟩,
 ⟨some (8, true, 10), .mv 10 (.t 3)⟩,
 ⟨some (8, true, 11), .bin 11 .sub (.t 10) (.c (.i .i64 1))⟩,
 ⟨some (8, true, 12), .iaddrS 12 1 (.t 9) (.t 11)⟩,
 ⟨some (8, true, 13), .load 13 1 false (.t 12)⟩,
 ⟨some (8, true, 14), .bin 14 .eql (.t 13) (.c (.i .u32 0))⟩,
 ⟨none, .pick 15 (.t 8) (.t 14) (.c (.b false))⟩])
 (.cond (.t 15) (.skip)
 (.exit 0)))
 (.block 1 (.reg [⟨none, .mv 16 (.t 3)⟩,
 ⟨none, .bin 17 .sub (.t 16) (.c (.i .i64 1))⟩,
 ⟨none, .mv 3 (.t 17)⟩]))
def c_integer_nat_norm : Fun := ⟨1, [.t 2],
 .seq (.reg [⟨none, .mv 2 (.c (.nil))⟩])
 (.seq (.reg [⟨none, .mv 4 (.t 0)⟩,
 ⟨none, .len 5 (.t 4)⟩,
 ⟨none, .mv 3 (.t 5)⟩])
 (.seq (.block 0 (.loop l_integer_nat_norm_0))
 (.seq (.reg [⟨none, .mv 18 (.t 0)⟩,
 ⟨none, .mv 19 (.t 3)⟩,
 ⟨none, .mv 20 (.t 3)⟩,
 ⟨none, .slice 21 1 (.t 18) none (some (.t 19)) (some (.t 20))⟩,
 ⟨none, .mv 2 (.t 21)⟩])
 (.ret))))⟩
/- (eliminant/integer.nat).signed -/
def c_integer_nat_signed : Fun := ⟨2, [.c 4 2 true],
 .seq (.reg [⟨none, .alloc 4 [.b false, .nil]⟩])
 (.seq (.reg [⟨none, .mv 5 (.t 0)⟩,
 ⟨none, .call (some 6) n_integer_nat_norm [.t 5]⟩,
 ⟨none, .mv 0 (.t 6)⟩])
 (.seq (.reg [⟨none, .mv 7 (.t 1)⟩,
 ⟨none, .mv 8 (.t 7)⟩,
 ⟨some (8, true, 9), .mv 9 (.t 0)⟩,
 ⟨some (8, true, 10), .len 10 (.t 9)⟩,
 ⟨some (8, true, 11), .bin 11 .gtr (.t 10) (.c (.i .i64 0))⟩,
 ⟨none, .pick 12 (.t 8) (.t 11) (.c (.b false))⟩,
 ⟨none, .mv 13 (.t 0)⟩,
 ⟨none, .call (some 14) n_slices_Clone_integer_nat_uint32 [.t 13]⟩,
 ⟨none, .build 15 [.b false, .nil] [(0, 1, .t 12), (1, 1, .t 14)]⟩,
 ⟨none, .store 2 (.t 4) (.t 15)⟩])
 (.ret)))⟩
/- (eliminant/integer.nat).at -/
def c_integer_nat_at : Fun := ⟨2, [.t 4],
 .seq (.reg [⟨none, .mv 4 (.c (.i .u32 0))⟩])
 (.seq (.seq (.reg [⟨none, .mv 5 (.t 1)⟩,
 ⟨none, .mv 6 (.t 0)⟩,
 ⟨none, .len 7 (.t 6)⟩,
 ⟨none, .bin 8 .lss (.t 5) (.t 7)⟩])
 (.cond (.t 8) (.seq (.reg [⟨none, .mv 9 (.t 0)⟩,
 ⟨none, .mv 10 (.t 1)⟩,
 ⟨none, .iaddrS 11 1 (.t 9) (.t 10)⟩,
 ⟨none, .load 12 1 false (.t 11)⟩,
 ⟨none, .mv 4 (.t 12)⟩])
 (.ret))
 (.skip)))
 (.seq (.reg [⟨none, .mv 4 (.c (.i .u32 0))⟩])
 (.ret)))⟩
/- (eliminant/integer.nat).cmp -/
def l_integer_nat_cmp_0 : C :=
 .seq (.reg [⟨none, .bin 20 .lss (.t 19) (.t 18)⟩])
 (.seq (.cond (.t 20) (.skip)
 (.exit 0))
 (.seq (.block 1 (.seq (.reg [⟨none, .mv 21 (.t 19)⟩,
 ⟨none, .mv 5 (.t 21)⟩])
 (.seq (.reg [⟨none, .mv 22 (.t 0)⟩,
 ⟨none, .len 23 (.t 22)⟩,
 ⟨none, .bin 24 .sub (.t 23) (.c (.i .i64 1))⟩,
 ⟨none, .mv 25 (.t 5)⟩,
 ⟨none, .bin 26 .sub (.t 24) (.t 25)⟩,
 ⟨none, .mv 6 (.t 26)⟩])
 (.seq (.reg [⟨none, .mv 27 (.t 0)⟩,
 ⟨none, .mv 28 (.t 6)⟩,
 ⟨none, .iaddrS 29 1 (.t 27) (.t 28)⟩,
 ⟨none, .load 30 1 false (.t 29)⟩,
 ⟨none, .mv 31 (.t 1)⟩,
 ⟨none, .mv 32 (.t 6)⟩,
 ⟨none, .iaddrS 33 1 (.t 31) (.t 32)⟩,
 ⟨none, .load 34 1 false (.t 33)⟩,
 ⟨none, .bin 35 .neq (.t 30) (.t 34)⟩])
 (.cond (.t 35) (.seq (.reg [⟨none, .mv 36 (.t 0)⟩,
 ⟨none, .mv 37 (.t 6)⟩,
 ⟨none, .iaddrS 38 1 (.t 36) (.t 37)⟩,
 ⟨none, .load 39 1 false (.t 38)⟩,
 ⟨none, .mv 40 (.t 1)⟩,
 ⟨none, .mv 41 (.t 6)⟩,
 ⟨none, .iaddrS 42 1 (.t 40) (.t 41)⟩,
 ⟨none, .load 43 1 false (.t 42)⟩,
 ⟨none, .call (some 44) n_cmp_Compare_uint32 [.t 39, .t 43]⟩,
 ⟨none, .mv 4 (.t 44)⟩])
 (.ret))
 (.skip))))))
 (.reg [⟨none, .bin 45 .add (.t 19) (.c (.i .i64 1))⟩,
 ⟨none, .mv 19 (.t 45)⟩])))
def c_integer_nat_cmp : Fun := ⟨2, [.t 4],
 .seq (.reg [⟨none, .mv 4 (.c (.i .i64 0))⟩])
 (.seq (.seq (.reg [⟨none, .mv 7 (.t 0)⟩,
 ⟨none, .len 8 (.t 7)⟩,
 ⟨none, .mv 9 (.t 1)⟩,
 ⟨none, .len 10 (.t 9)⟩,
 ⟨none, .bin 11 .neq (.t 8) (.t 10)⟩])
 (.cond (.t 11) (.seq (.reg [⟨none, .mv 12 (.t 0)⟩,
 ⟨none, .len 13 (.t 12)⟩,
 ⟨none, .mv 14 (.t 1)⟩,
 ⟨none, .len 15 (.t 14)⟩,
 ⟨none, .call (some 16) n_cmp_Compare_int [.t 13, .t 15]⟩,
 ⟨none, .mv 4 (.t 16)⟩])
 (.ret))
 (.skip)))
 (.seq (.seq (.reg [⟨none, .mv 17 (.t 0)⟩,
 ⟨none, .len 18 (.t 17)⟩,
 ⟨none, .mv 19 (.c (.i .i64 0))⟩])
 (.block 0 (.loop l_integer_nat_cmp_0)))
 (.seq (.reg [⟨none, .mv 4 (.c (.i .i64 0))⟩])
 (.ret))))⟩
/- (eliminant/integer.nat).add -/
def l_integer_nat_add_0 : C :=
 .seq (.reg [⟨none, .bin 19 .lss (.t 18) (.t 17)⟩])
 (.seq (.cond (.t 19) (.skip)
 (.exit 0))
 (.seq (.block 1 (.seq (.reg [⟨none, .mv 20 (.t 18)⟩,
 ⟨none, .mv 8 (.t 20)⟩])
 (.reg [⟨none, .mv 22 (.t 6)⟩,
 ⟨none, .mv 23 (.t 8)⟩,
 ⟨none, .mv 24 (.t 0)⟩,
 ⟨none, .mv 25 (.t 8)⟩,
 ⟨none, .call (some 26) n_integer_nat_at [.t 24, .t 25]⟩,
 ⟨none, .mv 27 (.t 1)⟩,
 ⟨none, .mv 28 (.t 8)⟩,
 ⟨none, .call (some 29) n_integer_nat_at [.t 27, .t 28]⟩,
 ⟨none, .mv 30 (.t 7)⟩,
 ⟨none, .call (some 31) n_math_bits_Add32 [.t 26, .t 29, .t 30]⟩,
 ⟨none, .mv 21 (.t 31)⟩,
 ⟨none, .ext 32 0 (.t 21)⟩,
 ⟨none, .ext 33 1 (.t 21)⟩,
 ⟨none, .iaddrS 34 1 (.t 22) (.t 23)⟩,
 ⟨none, .store 1 (.t 34) (.t 32)⟩,
 ⟨none, .mv 7 (.t 33)⟩])))
 (.reg [⟨none, .bin 35 .add (.t 18) (.c (.i .i64 1))⟩,
 ⟨none, .mv 18 (.t 35)⟩])))
def c_integer_nat_add : Fun := ⟨2, [.t 4],
 .seq (.reg [⟨none, .mv 4 (.c (.nil))⟩])
 (.seq (.reg [⟨none, .mv 9 (.t 0)⟩,
 ⟨none, .len 10 (.t 9)⟩,
 ⟨none, .mv 11 (.t 1)⟩,
 ⟨none, .len 12 (.t 11)⟩,
 ⟨none, .mnx 13 true (.t 10) (.t 12)⟩,
 ⟨none, .mv 5 (.t 13)⟩])
 (.seq (.reg [⟨none, .mv 14 (.t 5)⟩,
 ⟨none, .bin 15 .add (.t 14) (.c (.i .i64 1))⟩,
 ⟨none, .mkslice 16 1 [.i .u32 0] (.t 15) (.t 15)⟩,
 ⟨none, .mv 6 (.t 16)⟩])
 (.seq (.reg [⟨none, .mv 7 (.c (.i .u32 0))⟩])
 (.seq (.seq (.reg [⟨none, .mv 17 (.t 5)⟩,
 ⟨none, .mv 18 (.c (.i .i64 0))⟩])
 (.block 0 (.loop l_integer_nat_add_0)))
 (.seq (.reg [⟨none, .mv 36 (.t 6)⟩,
 ⟨none, .mv 37 (.t 5)⟩,
 ⟨none, .mv 38 (.t 7)⟩,
 ⟨none, .iaddrS 39 1 (.t 36) (.t 37)⟩,
 ⟨none, .store 1 (.t 39) (.t 38)⟩])
 (.seq (.reg [⟨none, .mv 40 (.t 6)⟩,
 ⟨none, .call (some 41) n_integer_nat_norm [.t 40]⟩,
 ⟨none, .mv 4 (.t 41)⟩])
 (.ret)))))))⟩
/- (eliminant/integer.nat).sub -/
def l_integer_nat_sub_0 : C :=
 .seq (.reg [⟨none, .bin 14 .lss (.t 13) (.t 12)⟩])
 (.seq (.cond (.t 14) (.skip)
 (.exit 0))
 (.seq (.block 1 (.seq (.reg [⟨none, .mv 15 (.t 13)⟩,
 ⟨none, .mv 7 (.t 15)⟩])
 (.reg [⟨none, .mv 17 (.t 5)⟩,
 ⟨none, .mv 18 (.t 7)⟩,
 ⟨none, .mv 19 (.t 0)⟩,
 ⟨none, .mv 20 (.t 7)⟩,
 ⟨none, .iaddrS 21 1 (.t 19) (.t 20)⟩,
 ⟨none, .load 22 1 false (.t 21)⟩,
 ⟨none, .mv 23 (.t 1)⟩,
 ⟨none, .mv 24 (.t 7)⟩,
 ⟨none, .call (some 25) n_integer_nat_at [.t 23, .t 24]⟩,
 ⟨none, .mv 26 (.t 6)⟩,
 ⟨none, .call (some 27) n_math_bits_Sub32 [.t 22, .t 25, .t 26]⟩,
 ⟨none, .mv 16 (.t 27)⟩,
 ⟨none, .ext 28 0 (.t 16)⟩,
 ⟨none, .ext 29 1 (.t 16)⟩,
 ⟨none, .iaddrS 30 1 (.t 17) (.t 18)⟩,
 ⟨none, .store 1 (.t 30) (.t 28)⟩,
 ⟨none, .mv 6 (.t 29)⟩])))
 (.reg [⟨none, .bin 31 .add (.t 13) (.c (.i .i64 1))⟩,
 ⟨none, .mv 13 (.t 31)⟩])))
def c_integer_nat_sub : Fun := ⟨2, [.t 4],
 .seq (.reg [⟨none, .mv 4 (.c (.nil))⟩])
 (.seq (.reg [⟨none, .mv 8 (.t 0)⟩,
 ⟨none, .len 9 (.t 8)⟩,
 ⟨none, .mkslice 10 1 [.i .u32 0] (.t 9) (.t 9)⟩,
 ⟨none, .mv 5 (.t 10)⟩])
 (.seq (.reg [⟨none, .mv 6 (.c (.i .u32 0))⟩])
 (.seq (.seq (.reg [⟨none, .mv 11 (.t 5)⟩,
 ⟨none, .len 12 (.t 11)⟩,
 ⟨none, .mv 13 (.c (.i .i64 0))⟩])
 (.block 0 (.loop l_integer_nat_sub_0)))
 (.seq (.reg [⟨none, .mv 32 (.t 5)⟩,
 ⟨none, .call (some 33) n_integer_nat_norm [.t 32]⟩,
 ⟨none, .mv 4 (.t 33)⟩])
 (.ret)))))⟩
/- (eliminant/integer.nat).mul -/
def l_integer_nat_mul_0 : C :=
 .seq (.reg [⟨none, .bin 27 .lss (.t 26) (.t 25)⟩])
 (.seq (.cond (.t 27) (.skip)
 (.exit 2))
 (.seq (.block 3 (.seq (.reg [⟨none, .mv 28 (.t 26)⟩,
 ⟨none, .iaddrS 29 1 (.t 24) (.t 26)⟩,
 ⟨none, .load 30 1 false (.t 29)⟩,
 ⟨none, .mv 9 (.t 28)⟩,
 ⟨none, .mv 10 (.t 30)⟩])
 (.seq (.reg [⟨none, .mv 31 (.t 8)⟩,
 ⟨none, .mv 32 (.t 7)⟩,
 ⟨none, .conv 33 .u64 (.t 32)⟩,
 ⟨none, .mv 34 (.t 10)⟩,
 ⟨none, .conv 35 .u64 (.t 34)⟩,
 ⟨none, .bin 36 .mul (.t 33) (.t 35)⟩,
 ⟨none, .mv 37 (.t 5)⟩,
 ⟨none, .mv 38 (.t 6)⟩,
 ⟨none, .mv 39 (.t 9)⟩,
 ⟨none, .bin 40 .add (.t 38) (.t 39)⟩,
 ⟨none, .iaddrS 41 1 (.t 37) (.t 40)⟩,
 ⟨none, .load 42 1 false (.t 41)⟩,
 ⟨none, .conv 43 .u64 (.t 42)⟩,
 ⟨none, .bin 44 .add (.t 36) (.t 43)⟩,
 ⟨none, .bin 45 .add (.t 31) (.t 44)⟩,
 ⟨none, .mv 8 (.t 45)⟩])
 (.seq (.reg [⟨none, .mv 46 (.t 5)⟩,
 ⟨none, .mv 47 (.t 6)⟩,
 ⟨none, .mv 48 (.t 9)⟩,
 ⟨none, .bin 49 .add (.t 47) (.t 48)⟩,
 ⟨none, .mv 50 (.t 8)⟩,
 ⟨none, .conv 51 .u32 (.t 50)⟩,
 ⟨none, .iaddrS 52 1 (.t 46) (.t 49)⟩,
 ⟨none, .store 1 (.t 52) (.t 51)⟩])
 (.reg [⟨none, .mv 53 (.t 8)⟩,
 ⟨none, .bin 54 .shr (.t 53) (.c (.i .u64 32))⟩,
 ⟨none, .mv 8 (.t 54)⟩])))))
 (.reg [⟨none, .bin 55 .add (.t 26) (.c (.i .i64 1))⟩,
 ⟨none, .mv 26 (.t 55)⟩])))
def l_integer_nat_mul_1 : C :=
 .seq (.reg [⟨none, .bin 20 .lss (.t 19) (.t 18)⟩])
 (.seq (.cond (.t 20) (.skip)
 (.exit 0))
 (.seq (.block 1 (.seq (.reg [⟨none, .mv 21 (.t 19)⟩,
 ⟨none, .iaddrS 22 1 (.t 17) (.t 19)⟩,
 ⟨none, .load 23 1 false (.t 22)⟩,
 ⟨none, .mv 6 (.t 21)⟩,
 ⟨none, .mv 7 (.t 23)⟩])
 (.seq (.reg [⟨none, .mv 8 (.c (.i .u64 0))⟩])
 (.seq (.seq (.reg [⟨none, .mv 24 (.t 1)⟩,
 ⟨none, .len 25 (.t 24)⟩,
 ⟨none, .mv 26 (.c (.i .i64 0))⟩])
 (.block 2 (.loop l_integer_nat_mul_0)))
 (.reg [⟨none, .mv 56 (.t 5)⟩,
 ⟨none, .mv 57 (.t 6)⟩,
 ⟨none, .mv 58 (.t 1)⟩,
 ⟨none, .len 59 (.t 58)⟩,
 ⟨none, .bin 60 .add (.t 57) (.t 59)⟩,
 ⟨none, .mv 61 (.t 8)⟩,
 ⟨none, .conv 62 .u32 (.t 61)⟩,
 ⟨none, .iaddrS 63 1 (.t 56) (.t 60)⟩,
 ⟨none, .store 1 (.t 63) (.t 62)⟩])))))
 (.reg [⟨none, .bin 64 .add (.t 19) (.c (.i .i64 1))⟩,
 ⟨none, .mv 19 (.t 64)⟩])))
def c_integer_nat_mul : Fun := ⟨2, [.t 4],
 .seq (.reg [⟨none, .mv 4 (.c (.nil))⟩])
 (.seq (.reg [⟨none, .mv 11 (.t 0)⟩,
 ⟨none, .len 12 (.t 11)⟩,
 ⟨none, .mv 13 (.t 1)⟩,
 ⟨none, .len 14 (.t 13)⟩,
 ⟨none, .bin 15 .add (.t 12) (.t 14)⟩,
 ⟨none, .mkslice 16 1 [.i .u32 0] (.t 15) (.t 15)⟩,
 ⟨none, .mv 5 (.t 16)⟩])
 (.seq (.seq (.reg [⟨none, .mv 17 (.t 0)⟩,
 ⟨none, .len 18 (.t 17)⟩,
 ⟨none, .mv 19 (.c (.i .i64 0))⟩])
 (.block 0 (.loop l_integer_nat_mul_1)))
 (.seq (.reg [⟨none, .mv 65 (.t 5)⟩,
 ⟨none, .call (some 66) n_integer_nat_norm [.t 65]⟩,
 ⟨none, .mv 4 (.t 66)⟩])
 (.ret))))⟩
/- (eliminant/integer.nat).word -/
def l_integer_nat_word_0 : C :=
 .seq (.reg [⟨none, .bin 16 .lss (.t 15) (.t 14)⟩])
 (.seq (.cond (.t 16) (.skip)
 (.exit 0))
 (.seq (.block 1 (.seq (.reg [⟨none, .mv 17 (.t 15)⟩,
 ⟨none, .mv 8 (.t 17)⟩])
 (.seq (.reg [⟨none, .mv 18 (.t 0)⟩,
 ⟨none, .len 19 (.t 18)⟩,
 ⟨none, .bin 20 .sub (.t 19) (.c (.i .i64 1))⟩,
 ⟨none, .mv 21 (.t 8)⟩,
 ⟨none, .bin 22 .sub (.t 20) (.t 21)⟩,
 ⟨none, .mv 9 (.t 22)⟩])
 (.reg [⟨none, .mv 24 (.t 6)⟩,
 ⟨none, .mv 25 (.t 9)⟩,
 ⟨none, .mv 26 (.t 7)⟩,
 ⟨none, .mv 27 (.t 0)⟩,
 ⟨none, .mv 28 (.t 9)⟩,
 ⟨none, .iaddrS 29 1 (.t 27) (.t 28)⟩,
 ⟨none, .load 30 1 false (.t 29)⟩,
 ⟨none, .mv 31 (.t 1)⟩,
 ⟨none, .call (some 32) n_math_bits_Div32 [.t 26, .t 30, .t 31]⟩,
 ⟨none, .mv 23 (.t 32)⟩,
 ⟨none, .ext 33 0 (.t 23)⟩,
 ⟨none, .ext 34 1 (.t 23)⟩,
 ⟨none, .iaddrS 35 1 (.t 24) (.t 25)⟩,
 ⟨none, .store 1 (.t 35) (.t 33)⟩,
 ⟨none, .mv 7 (.t 34)⟩]))))
 (.reg [⟨none, .bin 36 .add (.t 15) (.c (.i .i64 1))⟩,
 ⟨none, .mv 15 (.t 36)⟩])))
def c_integer_nat_word : Fun := ⟨2, [.t 4, .t 5],
 .seq (.reg [⟨none, .mv 4 (.c (.nil))⟩,
 ⟨none, .mv 5 (.c (.i .u32 0))⟩])
 (.seq (.reg [⟨none, .mv 10 (.t 0)⟩,
 ⟨none, .len 11 (.t 10)⟩,
 ⟨none, .mkslice 12 1 [.i .u32 0] (.t 11) (.t 11)⟩,
 ⟨none, .mv 6 (.t 12)⟩])
 (.seq (.reg [⟨none, .mv 7 (.c (.i .u32 0))⟩])
 (.seq (.seq (.reg [⟨none, .mv 13 (.t 0)⟩,
 ⟨none, .len 14 (.t 13)⟩,
 ⟨none, .mv 15 (.c (.i .i64 0))⟩])
 (.block 0 (.loop l_integer_nat_word_0)))
 (.seq (.reg [⟨none, .mv 37 (.t 6)⟩,
 ⟨none, .call (some 38) n_integer_nat_norm [.t 37]⟩,
 ⟨none, .mv 39 (.t 7)⟩,
 ⟨none, .mv 4 (.t 38)⟩,
 ⟨none, .mv 5 (.t 39)⟩])
 (.ret)))))⟩
/- (eliminant/integer.nat).shl -/
/- (eliminant/integer.nat).shr -/
/- (eliminant/integer.nat).div -/
def l_integer_nat_div_0 : C :=
 .seq (.reg [⟨none, .bin 57 .lss (.t 56) (.t 55)⟩])
 (.seq (.cond (.t 57) (.skip)
 (.exit 0))
 (.seq (.block 1 (.seq (.reg [⟨none, .mv 58 (.t 56)⟩,
 ⟨none, .mv 12 (.t 58)⟩])
 (.seq (.reg [⟨none, .mv 59 (.t 11)⟩,
 ⟨none, .len 60 (.t 59)⟩,
 ⟨none, .bin 61 .sub (.t 60) (.c (.i .i64 1))⟩,
 ⟨none, .mv 62 (.t 12)⟩,
 ⟨none, .bin 63 .sub (.t 61) (.t 62)⟩,
 ⟨none, .mv 13 (.t 63)⟩])
 (.reg [⟨none, .mv 64 (.t 11)⟩,
 ⟨none, .mv 65 (.t 13)⟩,
 ⟨none, .mv 66 (.t 9)⟩,
 ⟨none, .mv 67 (.t 13)⟩,
 ⟨none, .mv 68 (.t 13)⟩,
 ⟨none, .mv 69 (.t 10)⟩,
 ⟨none, .len 70 (.t 69)⟩,
 ⟨none, .bin 71 .add (.t 68) (.t 70)⟩,
 ⟨none, .bin 72 .add (.t 71) (.c (.i .i64 1))⟩,
 ⟨none, .slice 73 1 (.t 66) (some (.t 67)) (some (.t 72)) none⟩,
 ⟨none, .mv 74 (.t 10)⟩,
 ⟨none, .call (some 75) n_integer_nat_reduce [.t 73, .t 74]⟩,
 ⟨none, .iaddrS 76 1 (.t 64) (.t 65)⟩,
 ⟨none, .store 1 (.t 76) (.t 75)⟩]))))
 (.reg [⟨none, .bin 77 .add (.t 56) (.c (.i .i64 1))⟩,
 ⟨none, .mv 56 (.t 77)⟩])))
def c_integer_nat_div : Fun := ⟨2, [.t 4, .t 5],
 .seq (.reg [⟨none, .mv 4 (.c (.nil))⟩,
 ⟨none, .mv 5 (.c (.nil))⟩])
 (.seq (.seq (.reg [⟨none, .mv 14 (.t 0)⟩,
 ⟨none, .mv 15 (.t 1)⟩,
 ⟨none, .call (some 16) n_integer_nat_cmp [.t 14, .t 15]⟩,
 ⟨none, .bin 17 .lss (.t 16) (.c (.i .i64 0))⟩])
 (.cond (.t 17) (.seq (.reg [⟨none, .mv 18 (.t 0)⟩,
 ⟨none, .mv 4 (.c (.nil))⟩,
 ⟨none, .mv 5 (.t 18)⟩])
 (.ret))
 (.skip)))
 (.seq (.seq (.reg [⟨none, .mv 19 (.t 1)⟩,
 ⟨none, .len 20 (.t 19)⟩,
 ⟨none, .bin 21 .eql (.t 20) (.c (.i .i64 1))⟩])
 (.cond (.t 21) (.seq (.reg [⟨none, .mv 23 (.t 0)⟩,
 ⟨none, .mv 24 (.t 1)⟩,
 ⟨none, .iaddrS 25 1 (.t 24) (.c (.i .i64 0))⟩,
 ⟨none, .load 26 1 false (.t 25)⟩,
 ⟨none, .call (some 27) n_integer_nat_word [.t 23, .t 26]⟩,
 ⟨none, .mv 22 (.t 27)⟩,
 ⟨none, .ext 28 0 (.t 22)⟩,
 ⟨none, .ext 29 1 (.t 22)⟩,
 ⟨none, .mv 6 (.t 28)⟩,
 ⟨none, .mv 7 (.t 29)⟩])
 (.seq (.reg [⟨none, .mv 30 (.t 6)⟩,
 ⟨none, .mv 31 (.t 7)⟩,
 ⟨none, .bslice 32 1 1 [.i .u32 0] [(0, 1, .t 31)]⟩,
 ⟨none, .call (some 33) n_integer_nat_norm [.t 32]⟩,
 ⟨none, .mv 4 (.t 30)⟩,
 ⟨none, .mv 5 (.t 33)⟩])
 (.ret)))
 (.skip)))
 (.seq (.reg [⟨none, .mv 34 (.t 1)⟩,
 ⟨none, .mv 35 (.t 1)⟩,
 ⟨none, .len 36 (.t 35)⟩,
 ⟨none, .bin 37 .sub (.t 36) (.c (.i .i64 1))⟩,
 ⟨none, .iaddrS 38 1 (.t 34) (.t 37)⟩,
 ⟨none, .load 39 1 false (.t 38)⟩,
 ⟨none, .call (some 40) n_math_bits_LeadingZeros32 [.t 39]⟩,
 ⟨none, .mv 8 (.t 40)⟩])
 (.seq (.reg [⟨none, .mv 41 (.t 0)⟩,
 ⟨none, .mv 42 (.t 8)⟩,
 ⟨none, .call (some 43) n_integer_nat_shl [.t 41, .t 42]⟩,
 ⟨none, .mv 44 (.t 1)⟩,
 ⟨none, .mv 45 (.t 8)⟩,
 ⟨none, .call (some 46) n_integer_nat_shl [.t 44, .t 45]⟩,
 ⟨none, .call (some 47) n_integer_nat_norm [.t 46]⟩,
 ⟨none, .mv 9 (.t 43)⟩,
 ⟨none, .mv 10 (.t 47)⟩])
 (.seq (.reg [⟨none, .mv 48 (.t 9)⟩,
 ⟨none, .len 49 (.t 48)⟩,
 ⟨none, .mv 50 (.t 10)⟩,
 ⟨none, .len 51 (.t 50)⟩,
 ⟨none, .bin 52 .sub (.t 49) (.t 51)⟩,
 ⟨none, .mkslice 53 1 [.i .u32 0] (.t 52) (.t 52)⟩,
 ⟨none, .mv 11 (.t 53)⟩])
 (.seq (.seq (.reg [⟨none, .mv 54 (.t 11)⟩,
 ⟨none, .len 55 (.t 54)⟩,
 ⟨none, .mv 56 (.c (.i .i64 0))⟩])
 (.block 0 (.loop l_integer_nat_div_0)))
 (.seq (.reg [⟨none, .mv 78 (.t 11)⟩,
 ⟨none, .call (some 79) n_integer_nat_norm [.t 78]⟩,
 ⟨none, .mv 80 (.t 9)⟩,
 ⟨none, .call (some 81) n_integer_nat_norm [.t 80]⟩,
 ⟨none, .mv 82 (.t 8)⟩,
 ⟨none, .call (some 83) n_integer_nat_shr [.t 81, .t 82]⟩,
 ⟨none, .mv 4 (.t 79)⟩,
 ⟨none, .mv 5 (.t 83)⟩])
 (.ret))))))))⟩
/- (eliminant/integer.nat).reduce -/
/- eliminant/integer.Of -/
def c_integer_Of : Fun := ⟨1, [.c 2 2 true],
 .seq (.reg [⟨none, .alloc 2 [.b false, .nil]⟩])
 (.seq (.seq (.reg [⟨none, .mv 3 (.t 0)⟩,
 ⟨none, .bin 4 .lss (.t 3) (.c (.i .i64 0))⟩])
 (.cond (.t 4) (.seq (.reg [⟨none, .mv 5 (.t 0)⟩,
 ⟨none, .conv 6 .u64 (.t 5)⟩,
 ⟨none, .un 7 .neg (.t 6)⟩,
 ⟨none, .call (some 8) n_integer_natural [.t 7]⟩,
 ⟨none, .call (some 9) n_integer_nat_signed [.t 8, .c (.b true)]⟩,
 ⟨none, .store 2 (.t 2) (.t 9)⟩])
 (.ret))
 (.skip)))
 (.seq (.reg [⟨none, .mv 10 (.t 0)⟩,
 ⟨none, .conv 11 .u64 (.t 10)⟩,
 ⟨none, .call (some 12) n_integer_natural [.t 11]⟩,
 ⟨none, .call (some 13) n_integer_nat_signed [.t 12, .c (.b false)]⟩,
 ⟨none, .store 2 (.t 2) (.t 13)⟩])
 (.ret)))⟩
/- eliminant/integer.Cmp -/
def c_integer_Cmp : Fun := ⟨2, [.t 4],
 .seq (.reg [⟨none, .box 2 2 (.t 0)⟩,
 ⟨none, .box 3 2 (.t 1)⟩,
 ⟨none, .mv 4 (.c (.i .i64 0))⟩])
 (.seq (.seq (.reg [⟨none, .faddr 5 0 (.t 2)⟩,
 ⟨none, .load 6 1 false (.t 5)⟩,
 ⟨none, .faddr 7 0 (.t 3)⟩,
 ⟨none, .load 8 1 false (.t 7)⟩,
 ⟨none, .beq 9 true (.t 6) (.t 8)⟩])
 (.cond (.t 9) (.seq (.reg [⟨none, .load 10 2 true (.t 2)⟩,
 ⟨none, .call (some 11) n_integer_Sign [.t 10]⟩,
 ⟨none, .load 12 2 true (.t 3)⟩,
 ⟨none, .call (some 13) n_integer_Sign [.t 12]⟩,
 ⟨none, .call (some 14) n_cmp_Compare_int [.t 11, .t 13]⟩,
 ⟨none, .mv 4 (.t 14)⟩])
 (.ret))
 (.skip)))
 (.seq (.seq (.reg [⟨none, .faddr 15 0 (.t 2)⟩,
 ⟨none, .load 16 1 false (.t 15)⟩])
 (.cond (.t 16) (.reg [⟨none, .load 17 2 true (.t 3)⟩,
 ⟨none, .load 18 2 true (.t 2)⟩,
 ⟨none, .store 2 (.t 2) (.t 17)⟩,
 ⟨none, .store 2 (.t 3) (.t 18)⟩])
 (.skip)))
 (.seq (.reg [⟨none, .faddr 19 1 (.t 2)⟩,
 ⟨none, .load 20 1 false (.t 19)⟩,
 ⟨none, .faddr 21 1 (.t 3)⟩,
 ⟨none, .load 22 1 false (.t 21)⟩,
 ⟨none, .call (some 23) n_integer_nat_cmp [.t 20, .t 22]⟩,
 ⟨none, .mv 4 (.t 23)⟩])
 (.ret))))⟩
/- eliminant/integer.Neg -/
def c_integer_Neg : Fun := ⟨1, [.c 2 2 true],
 .seq (.reg [⟨none, .box 1 2 (.t 0)⟩,
 ⟨none, .alloc 2 [.b false, .nil]⟩])
 (.seq (.reg [⟨none, .faddr 3 1 (.t 1)⟩,
 ⟨none, .load 4 1 false (.t 3)⟩,
 ⟨none, .faddr 5 0 (.t 1)⟩,
 ⟨none, .load 6 1 false (.t 5)⟩,
 ⟨none, .un 7 .not (.t 6)⟩,
 ⟨none, .call (some 8) n_integer_nat_signed [.t 4, .t 7]⟩,
 ⟨none, .store 2 (.t 2) (.t 8)⟩])
 (.ret))⟩
/- eliminant/integer.Add -/
def c_integer_Add : Fun := ⟨2, [.c 4 2 true],
 .seq (.reg [⟨none, .box 2 2 (.t 0)⟩,
 ⟨none, .box 3 2 (.t 1)⟩,
 ⟨none, .alloc 4 [.b false, .nil]⟩])
 (.seq (.reg [⟨none, .faddr 7 1 (.t 2)⟩,
 ⟨none, .load 8 1 false (.t 7)⟩,
 ⟨none, .faddr 9 1 (.t 3)⟩,
 ⟨none, .load 10 1 false (.t 9)⟩,
 ⟨none, .mv 5 (.t 8)⟩,
 ⟨none, .mv 6 (.t 10)⟩])
 (.seq (.block 0 (.seq (.reg [⟨none, .faddr 12 0 (.t 2)⟩,
 ⟨none, .load 13 1 false (.t 12)⟩,
 ⟨none, .faddr 14 0 (.t 3)⟩,
 ⟨none, .load 15 1 false (.t 14)⟩,
 ⟨none, .beq 16 false (.t 13) (.t 15)⟩,
 ⟨none, .mv 11 (.t 16)⟩])
 (.cond (.t 11) (.seq (.reg [⟨none, .mv 17 (.t 5)⟩,
 ⟨none, .mv 18 (.t 6)⟩,
 ⟨none, .call (some 19) n_integer_nat_add [.t 17, .t 18]⟩,
 ⟨none, .faddr 20 0 (.t 2)⟩,
 ⟨none, .load 21 1 false (.t 20)⟩,
 ⟨none, .call (some 22) n_integer_nat_signed [.t 19, .t 21]⟩,
 ⟨none, .store 2 (.t 4) (.t 22)⟩])
 (.ret))
 (.seq (.reg [⟨none, .mv 24 (.t 5)⟩,
 ⟨none, .mv 25 (.t 6)⟩,
 ⟨none, .call (some 26) n_integer_nat_cmp [.t 24, .t 25]⟩,
 ⟨none, .bin 27 .lss (.t 26) (.c (.i .i64 0))⟩,
 ⟨none, .mv 23 (.t 27)⟩])
 (.cond (.t 23) (.seq (.reg [⟨none, .mv 28 (.t 6)⟩,
 ⟨none, .mv 29 (.t 5)⟩,
 ⟨none, .call (some 30) n_integer_nat_sub [.t 28, .t 29]⟩,
 ⟨none, .faddr 31 0 (.t 3)⟩,
 ⟨none, .load 32 1 false (.t 31)⟩,
 ⟨none, .call (some 33) n_integer_nat_signed [.t 30, .t 32]⟩,
 ⟨none, .store 2 (.t 4) (.t 33)⟩])
 (.ret))
 (.skip))))))
 (.seq (.reg [⟨none, .mv 34 (.t 5)⟩,
 ⟨none, .mv 35 (.t 6)⟩,
 ⟨none, .call (some 36) n_integer_nat_sub [.t 34, .t 35]⟩,
 ⟨none, .faddr 37 0 (.t 2)⟩,
 ⟨none, .load 38 1 false (.t 37)⟩,
 ⟨none, .call (some 39) n_integer_nat_signed [.t 36, .t 38]⟩,
 ⟨none, .store 2 (.t 4) (.t 39)⟩])
 (.ret))))⟩
/- eliminant/integer.Sub -/
def c_integer_Sub : Fun := ⟨2, [.c 4 2 true],
 .seq (.reg [⟨none, .box 2 2 (.t 0)⟩,
 ⟨none, .box 3 2 (.t 1)⟩,
 ⟨none, .alloc 4 [.b false, .nil]⟩])
 (.seq (.reg [⟨none, .load 5 2 true (.t 2)⟩,
 ⟨none, .load 6 2 true (.t 3)⟩,
 ⟨none, .call (some 7) n_integer_Neg [.t 6]⟩,
 ⟨none, .call (some 8) n_integer_Add [.t 5, .t 7]⟩,
 ⟨none, .store 2 (.t 4) (.t 8)⟩])
 (.ret))⟩
/- eliminant/integer.Mul -/
def c_integer_Mul : Fun := ⟨2, [.c 4 2 true],
 .seq (.reg [⟨none, .box 2 2 (.t 0)⟩,
 ⟨none, .box 3 2 (.t 1)⟩,
 ⟨none, .alloc 4 [.b false, .nil]⟩])
 (.seq (.reg [⟨none, .faddr 5 1 (.t 2)⟩,
 ⟨none, .load 6 1 false (.t 5)⟩,
 ⟨none, .faddr 7 1 (.t 3)⟩,
 ⟨none, .load 8 1 false (.t 7)⟩,
 ⟨none, .call (some 9) n_integer_nat_mul [.t 6, .t 8]⟩,
 ⟨none, .faddr 10 0 (.t 2)⟩,
 ⟨none, .load 11 1 false (.t 10)⟩,
 ⟨none, .faddr 12 0 (.t 3)⟩,
 ⟨none, .load 13 1 false (.t 12)⟩,
 ⟨none, .beq 14 true (.t 11) (.t 13)⟩,
 ⟨none, .call (some 15) n_integer_nat_signed [.t 9, .t 14]⟩,
 ⟨none, .store 2 (.t 4) (.t 15)⟩])
 (.ret))⟩
/- eliminant/integer.DivMod -/
def c_integer_DivMod : Fun := ⟨2, [.c 4 2 true, .c 5 2 true, .t 6],
 .seq (.reg [⟨none, .box 2 2 (.t 0)⟩,
 ⟨none, .box 3 2 (.t 1)⟩,
 ⟨none, .alloc 4 [.b false, .nil]⟩,
 ⟨none, .alloc 5 [.b false, .nil]⟩,
 ⟨none, .mv 6 (.c (.i .i64 0))⟩])
 (.seq (.reg [⟨none, .faddr 10 1 (.t 3)⟩,
 ⟨none, .load 11 1 false (.t 10)⟩,
 ⟨none, .mv 7 (.t 11)⟩])
 (.seq (.seq (.reg [⟨none, .mv 12 (.t 7)⟩,
 ⟨none, .len 13 (.t 12)⟩,
 ⟨none, .bin 14 .eql (.t 13) (.c (.i .i64 0))⟩])
 (.cond (.t 14) (.seq (.reg [⟨none, .build 15 [.b false, .nil] []⟩,
 ⟨none, .build 16 [.b false, .nil] []⟩,
 ⟨none, .store 2 (.t 4) (.t 15)⟩,
 ⟨none, .store 2 (.t 5) (.t 16)⟩,
 ⟨none, .mv 6 (.c (.i .i64 10))⟩])
 (.ret))
 (.skip)))
 (.seq (.reg [⟨none, .faddr 18 1 (.t 2)⟩,
 ⟨none, .load 19 1 false (.t 18)⟩,
 ⟨none, .mv 20 (.t 7)⟩,
 ⟨none, .call (some 21) n_integer_nat_div [.t 19, .t 20]⟩,
 ⟨none, .mv 17 (.t 21)⟩,
 ⟨none, .ext 22 0 (.t 17)⟩,
 ⟨none, .ext 23 1 (.t 17)⟩,
 ⟨none, .mv 8 (.t 22)⟩,
 ⟨none, .mv 9 (.t 23)⟩])
 (.seq (.seq (.reg [⟨none, .faddr 24 0 (.t 2)⟩,
 ⟨none, .load 25 1 false (.t 24)⟩,
 ⟨none, .mv 26 (.t 25)⟩,
 ⟨some (26, true, 27), .mv 27 (.t 9)⟩,
 ⟨some (26, true, 28), .len 28 (.t 27)⟩,
 ⟨some (26, true, 29), .bin 29 .gtr (.t 28) (.c (.i .i64 0))⟩,
 ⟨none, .pick 30 (.t 26) (.t 29) (.c (.b false))⟩])
 (.cond (.t 30) (.reg [⟨none, .mv 31 (.t 8)⟩,
 ⟨none, .call (some 32) n_integer_natural [.c (.i .u64 1)]⟩,
 ⟨none, .call (some 33) n_integer_nat_add [.t 31, .t 32]⟩,
 ⟨none, .mv 34 (.t 7)⟩,
 ⟨none, .mv 35 (.t 9)⟩,
 ⟨none, .call (some 36) n_integer_nat_sub [.t 34, .t 35]⟩,
 ⟨none, .mv 8 (.t 33)⟩,
 ⟨none, .mv 9 (.t 36)⟩])
 (.skip)))
 (.seq (.reg [⟨none, .mv 37 (.t 8)⟩,
 ⟨none, .faddr 38 0 (.t 2)⟩,
 ⟨none, .load 39 1 false (.t 38)⟩,
 ⟨none, .faddr 40 0 (.t 3)⟩,
 ⟨none, .load 41 1 false (.t 40)⟩,
 ⟨none, .beq 42 true (.t 39) (.t 41)⟩,
 ⟨none, .call (some 43) n_integer_nat_signed [.t 37, .t 42]⟩,
 ⟨none, .mv 44 (.t 9)⟩,
 ⟨none, .call (some 45) n_integer_nat_signed [.t 44, .c (.b false)]⟩,
 ⟨none, .store 2 (.t 4) (.t 43)⟩,
 ⟨none, .store 2 (.t 5) (.t 45)⟩,
 ⟨none, .mv 6 (.c (.i .i64 0))⟩])
 (.ret))))))⟩
/- eliminant/integer.Gcd -/
def l_integer_Gcd_0 : C :=
 .seq (.seq (.reg [⟨none, .mv 13 (.t 6)⟩,
 ⟨none, .len 14 (.t 13)⟩,
 ⟨none, .bin 15 .gtr (.t 14) (.c (.i .i64 0))⟩])
 (.cond (.t 15) (.skip)
 (.exit 0)))
 (.block 1 (.seq (.reg [⟨none, .mv 17 (.t 5)⟩,
 ⟨none, .mv 18 (.t 6)⟩,
 ⟨none, .call (some 19) n_integer_nat_div [.t 17, .t 18]⟩,
 ⟨none, .mv 16 (.t 19)⟩,
 ⟨none, .ext 20 0 (.t 16)⟩,
 ⟨none, .ext 21 1 (.t 16)⟩,
 ⟨none, .mv 7 (.t 20)⟩,
 ⟨none, .mv 8 (.t 21)⟩])
 (.reg [⟨none, .mv 22 (.t 6)⟩,
 ⟨none, .mv 23 (.t 8)⟩,
 ⟨none, .mv 5 (.t 22)⟩,
 ⟨none, .mv 6 (.t 23)⟩])))
def c_integer_Gcd : Fun := ⟨2, [.c 4 2 true],
 .seq (.reg [⟨none, .box 2 2 (.t 0)⟩,
 ⟨none, .box 3 2 (.t 1)⟩,
 ⟨none, .alloc 4 [.b false, .nil]⟩])
 (.seq (.reg [⟨none, .faddr 9 1 (.t 2)⟩,
 ⟨none, .load 10 1 false (.t 9)⟩,
 ⟨none, .faddr 11 1 (.t 3)⟩,
 ⟨none, .load 12 1 false (.t 11)⟩,
 ⟨none, .mv 5 (.t 10)⟩,
 ⟨none, .mv 6 (.t 12)⟩])
 (.seq (.block 0 (.loop l_integer_Gcd_0))
 (.seq (.reg [⟨none, .mv 24 (.t 5)⟩,
 ⟨none, .call (some 25) n_integer_nat_signed [.t 24, .c (.b false)]⟩,
 ⟨none, .store 2 (.t 4) (.t 25)⟩])
 (.ret))))⟩
/- eliminant/rational.product -/
def l_rational_product_0 : C :=
 .seq (.reg [⟨none, .bin 10 .lss (.t 9) (.t 8)⟩])
 (.seq (.cond (.t 10) (.skip)
 (.exit 0))
 (.seq (.block 1 (.seq (.reg [⟨none, .iaddrS 11 2 (.t 7) (.t 9)⟩,
 ⟨none, .load 12 2 true (.t 11)⟩,
 ⟨none, .alloc 5 [.b false, .nil]⟩,
 ⟨none, .store 2 (.t 5) (.t 12)⟩])
 (.reg [⟨none, .load 13 2 true (.t 3)⟩,
 ⟨none, .load 14 2 true (.t 5)⟩,
 ⟨none, .call (some 15) n_integer_Mul [.t 13, .t 14]⟩,
 ⟨none, .store 2 (.t 3) (.t 15)⟩])))
 (.reg [⟨none, .bin 16 .add (.t 9) (.c (.i .i64 1))⟩,
 ⟨none, .mv 9 (.t 16)⟩])))
def c_rational_product : Fun := ⟨1, [.c 2 2 true],
 .seq (.reg [⟨none, .alloc 2 [.b false, .nil]⟩])
 (.seq (.reg [⟨none, .call (some 6) n_integer_Of [.c (.i .i64 1)]⟩,
 ⟨none, .alloc 3 [.b false, .nil]⟩,
 ⟨none, .store 2 (.t 3) (.t 6)⟩])
 (.seq (.seq (.reg [⟨none, .mv 7 (.t 0)⟩,
 ⟨none, .len 8 (.t 7)⟩,
 ⟨none, .mv 9 (.c (.i .i64 0))⟩])
 (.block 0 (.loop l_rational_product_0)))
 (.seq (.reg [⟨none, .load 17 2 true (.t 3)⟩,
 ⟨none, .store 2 (.t 2) (.t 17)⟩])
 (.ret))))⟩
/- eliminant/rational.lowest -/
def c_rational_lowest : Fun := ⟨2, [.c 4 4 true],
 .seq (.reg [⟨none, .box 2 2 (.t 0)⟩,
 ⟨none, .box 3 2 (.t 1)⟩,
 ⟨none, .alloc 4 [.b false, .nil, .b false, .nil]⟩])
 (.seq (.reg [⟨none, .load 6 2 true (.t 2)⟩,
 ⟨none, .load 7 2 true (.t 3)⟩,
 ⟨none, .call (some 8) n_integer_Gcd [.t 6, .t 7]⟩,
 ⟨none, .alloc 5 [.b false, .nil]⟩,
 ⟨none, .store 2 (.t 5) (.t 8)⟩])
 (.seq (.seq (.reg [⟨none, .load 9 2 true (.t 3)⟩,
 ⟨none, .call (some 10) n_integer_Sign [.t 9]⟩,
 ⟨none, .bin 11 .lss (.t 10) (.c (.i .i64 0))⟩])
 (.cond (.t 11) (.reg [⟨none, .load 12 2 true (.t 5)⟩,
 ⟨none, .call (some 13) n_integer_Neg [.t 12]⟩,
 ⟨none, .store 2 (.t 5) (.t 13)⟩])
 (.skip)))
 (.seq (.reg [⟨none, .load 15 2 true (.t 2)⟩,
 ⟨none, .load 16 2 true (.t 5)⟩,
 ⟨none, .call (some 17) n_integer_DivMod [.t 15, .t 16]⟩,
 ⟨none, .mv 14 (.t 17)⟩,
 ⟨none, .ext 18 0 (.t 14)⟩,
 ⟨none, .ext 19 1 (.t 14)⟩,
 ⟨none, .ext 20 2 (.t 14)⟩,
 ⟨none, .store 2 (.t 2) (.t 18)⟩])
 (.seq (.reg [⟨none, .load 22 2 true (.t 3)⟩,
 ⟨none, .load 23 2 true (.t 5)⟩,
 ⟨none, .call (some 24) n_integer_DivMod [.t 22, .t 23]⟩,
 ⟨none, .mv 21 (.t 24)⟩,
 ⟨none, .ext 25 0 (.t 21)⟩,
 ⟨none, .ext 26 1 (.t 21)⟩,
 ⟨none, .ext 27 2 (.t 21)⟩,
 ⟨none, .store 2 (.t 3) (.t 25)⟩])
 (.seq (.reg [⟨none, .load 28 2 true (.t 2)⟩,
 ⟨none, .load 29 2 true (.t 3)⟩,
 ⟨none, .build 30 [.b false, .nil, .b false, .nil] [(0, 2, .t 28), (2, 2, .t 29)]⟩,
 ⟨none, .store 4 (.t 4) (.t 30)⟩])
 (.ret))))))⟩
/- eliminant/rational.New -/
def c_rational_New : Fun := ⟨2, [.c 4 4 true, .t 5],
 .seq (.reg [⟨none, .box 2 2 (.t 0)⟩,
 ⟨none, .box 3 2 (.t 1)⟩,
 ⟨none, .alloc 4 [.b false, .nil, .b false, .nil]⟩,
 ⟨none, .mv 5 (.c (.i .i64 0))⟩])
 (.seq (.seq (.reg [⟨none, .load 6 2 true (.t 3)⟩,
 ⟨none, .call (some 7) n_integer_Sign [.t 6]⟩,
 ⟨none, .bin 8 .eql (.t 7) (.c (.i .i64 0))⟩])
 (.cond (.t 8) (.seq (.reg [⟨none, .build 9 [.b false, .nil, .b false, .nil] []⟩,
 ⟨none, .store 4 (.t 4) (.t 9)⟩,
 ⟨none, .mv 5 (.c (.i .i64 10))⟩])
 (.ret))
 (.skip)))
 (.seq (.reg [⟨none, .load 10 2 true (.t 2)⟩,
 ⟨none, .load 11 2 true (.t 3)⟩,
 ⟨none, .call (some 12) n_rational_lowest [.t 10, .t 11]⟩,
 ⟨none, .store 4 (.t 4) (.t 12)⟩,
 ⟨none, .mv 5 (.c (.i .i64 0))⟩])
 (.ret)))⟩
/- eliminant/rational.Whole -/
def c_rational_Whole : Fun := ⟨1, [.c 2 4 true],
 .seq (.reg [⟨none, .alloc 2 [.b false, .nil, .b false, .nil]⟩])
 (.seq (.reg [⟨none, .mv 3 (.t 0)⟩,
 ⟨none, .call (some 4) n_integer_Of [.t 3]⟩,
 ⟨none, .call (some 5) n_rational_of [.t 4]⟩,
 ⟨none, .store 4 (.t 2) (.t 5)⟩])
 (.ret))⟩
/- eliminant/rational.of -/
def c_rational_of : Fun := ⟨1, [.c 2 4 true],
 .seq (.reg [⟨none, .box 1 2 (.t 0)⟩,
 ⟨none, .alloc 2 [.b false, .nil, .b false, .nil]⟩])
 (.seq (.reg [⟨none, .load 3 2 true (.t 1)⟩,
 ⟨none, .call (some 4) n_integer_Of [.c (.i .i64 1)]⟩,
 ⟨none, .build 5 [.b false, .nil, .b false, .nil] [(0, 2, .t 3), (2, 2, .t 4)]⟩,
 ⟨none, .store 4 (.t 2) (.t 5)⟩])
 (.ret))⟩
/- eliminant/rational.Add -/
def c_rational_Add : Fun := ⟨2, [.c 4 4 true],
 .seq (.reg [⟨none, .box 2 4 (.t 0)⟩,
 ⟨none, .box 3 4 (.t 1)⟩,
 ⟨none, .alloc 4 [.b false, .nil, .b false, .nil]⟩])
 (.seq (.reg [⟨none, .faddr 5 0 (.t 2)⟩,
 ⟨none, .load 6 2 true (.t 5)⟩,
 ⟨none, .faddr 7 2 (.t 3)⟩,
 ⟨none, .load 8 2 true (.t 7)⟩,
 ⟨none, .bslice 9 2 2 [.b false, .sl 0 []] [(0, 2, .t 6), (2, 2, .t 8)]⟩,
 ⟨none, .call (some 10) n_rational_product [.t 9]⟩,
 ⟨none, .faddr 11 0 (.t 3)⟩,
 ⟨none, .load 12 2 true (.t 11)⟩,
 ⟨none, .faddr 13 2 (.t 2)⟩,
 ⟨none, .load 14 2 true (.t 13)⟩,
 ⟨none, .bslice 15 2 2 [.b false, .sl 0 []] [(0, 2, .t 12), (2, 2, .t 14)]⟩,
 ⟨none, .call (some 16) n_rational_product [.t 15]⟩,
 ⟨none, .call (some 17) n_integer_Add [.t 10, .t 16]⟩,
 ⟨none, .faddr 18 2 (.t 2)⟩,
 ⟨none, .load 19 2 true (.t 18)⟩,
 ⟨none, .faddr 20 2 (.t 3)⟩,
 ⟨none, .load 21 2 true (.t 20)⟩,
 ⟨none, .bslice 22 2 2 [.b false, .sl 0 []] [(0, 2, .t 19), (2, 2, .t 21)]⟩,
 ⟨none, .call (some 23) n_rational_product [.t 22]⟩,
 ⟨none, .call (some 24) n_rational_lowest [.t 17, .t 23]⟩,
 ⟨none, .store 4 (.t 4) (.t 24)⟩])
 (.ret))⟩
/- eliminant/rational.Sub -/
def c_rational_Sub : Fun := ⟨2, [.c 4 4 true],
 .seq (.reg [⟨none, .box 2 4 (.t 0)⟩,
 ⟨none, .box 3 4 (.t 1)⟩,
 ⟨none, .alloc 4 [.b false, .nil, .b false, .nil]⟩])
 (.seq (.reg [⟨none, .faddr 5 0 (.t 2)⟩,
 ⟨none, .load 6 2 true (.t 5)⟩,
 ⟨none, .faddr 7 2 (.t 3)⟩,
 ⟨none, .load 8 2 true (.t 7)⟩,
 ⟨none, .bslice 9 2 2 [.b false, .sl 0 []] [(0, 2, .t 6), (2, 2, .t 8)]⟩,
 ⟨none, .call (some 10) n_rational_product [.t 9]⟩,
 ⟨none, .faddr 11 0 (.t 3)⟩,
 ⟨none, .load 12 2 true (.t 11)⟩,
 ⟨none, .faddr 13 2 (.t 2)⟩,
 ⟨none, .load 14 2 true (.t 13)⟩,
 ⟨none, .bslice 15 2 2 [.b false, .sl 0 []] [(0, 2, .t 12), (2, 2, .t 14)]⟩,
 ⟨none, .call (some 16) n_rational_product [.t 15]⟩,
 ⟨none, .call (some 17) n_integer_Sub [.t 10, .t 16]⟩,
 ⟨none, .faddr 18 2 (.t 2)⟩,
 ⟨none, .load 19 2 true (.t 18)⟩,
 ⟨none, .faddr 20 2 (.t 3)⟩,
 ⟨none, .load 21 2 true (.t 20)⟩,
 ⟨none, .bslice 22 2 2 [.b false, .sl 0 []] [(0, 2, .t 19), (2, 2, .t 21)]⟩,
 ⟨none, .call (some 23) n_rational_product [.t 22]⟩,
 ⟨none, .call (some 24) n_rational_lowest [.t 17, .t 23]⟩,
 ⟨none, .store 4 (.t 4) (.t 24)⟩])
 (.ret))⟩
/- eliminant/rational.Mul -/
def c_rational_Mul : Fun := ⟨2, [.c 4 4 true],
 .seq (.reg [⟨none, .box 2 4 (.t 0)⟩,
 ⟨none, .box 3 4 (.t 1)⟩,
 ⟨none, .alloc 4 [.b false, .nil, .b false, .nil]⟩])
 (.seq (.reg [⟨none, .faddr 5 0 (.t 2)⟩,
 ⟨none, .load 6 2 true (.t 5)⟩,
 ⟨none, .faddr 7 0 (.t 3)⟩,
 ⟨none, .load 8 2 true (.t 7)⟩,
 ⟨none, .bslice 9 2 2 [.b false, .sl 0 []] [(0, 2, .t 6), (2, 2, .t 8)]⟩,
 ⟨none, .call (some 10) n_rational_product [.t 9]⟩,
 ⟨none, .faddr 11 2 (.t 2)⟩,
 ⟨none, .load 12 2 true (.t 11)⟩,
 ⟨none, .faddr 13 2 (.t 3)⟩,
 ⟨none, .load 14 2 true (.t 13)⟩,
 ⟨none, .bslice 15 2 2 [.b false, .sl 0 []] [(0, 2, .t 12), (2, 2, .t 14)]⟩,
 ⟨none, .call (some 16) n_rational_product [.t 15]⟩,
 ⟨none, .call (some 17) n_rational_lowest [.t 10, .t 16]⟩,
 ⟨none, .store 4 (.t 4) (.t 17)⟩])
 (.ret))⟩
/- eliminant/rational.Neg -/
def c_rational_Neg : Fun := ⟨1, [.c 2 4 true],
 .seq (.reg [⟨none, .box 1 4 (.t 0)⟩,
 ⟨none, .alloc 2 [.b false, .nil, .b false, .nil]⟩])
 (.seq (.reg [⟨none, .faddr 3 0 (.t 1)⟩,
 ⟨none, .load 4 2 true (.t 3)⟩,
 ⟨none, .call (some 5) n_integer_Neg [.t 4]⟩,
 ⟨none, .faddr 6 2 (.t 1)⟩,
 ⟨none, .load 7 2 true (.t 6)⟩,
 ⟨none, .bslice 8 1 2 [.b false, .sl 0 []] [(0, 2, .t 7)]⟩,
 ⟨none, .call (some 9) n_rational_product [.t 8]⟩,
 ⟨none, .build 10 [.b false, .nil, .b false, .nil] [(0, 2, .t 5), (2, 2, .t 9)]⟩,
 ⟨none, .store 4 (.t 2) (.t 10)⟩])
 (.ret))⟩
/- eliminant/rational.Inv -/
def c_rational_Inv : Fun := ⟨1, [.c 2 4 true, .t 3],
 .seq (.reg [⟨none, .box 1 4 (.t 0)⟩,
 ⟨none, .alloc 2 [.b false, .nil, .b false, .nil]⟩,
 ⟨none, .mv 3 (.c (.i .i64 0))⟩])
 (.seq (.reg [⟨none, .faddr 4 2 (.t 1)⟩,
 ⟨none, .load 5 2 true (.t 4)⟩,
 ⟨none, .faddr 6 0 (.t 1)⟩,
 ⟨none, .load 7 2 true (.t 6)⟩,
 ⟨none, .call (some 8) n_rational_New [.t 5, .t 7]⟩,
 ⟨none, .ext 9 0 (.t 8)⟩,
 ⟨none, .ext 10 1 (.t 8)⟩,
 ⟨none, .store 4 (.t 2) (.t 9)⟩,
 ⟨none, .mv 3 (.t 10)⟩])
 (.ret))⟩
/- eliminant/rational.Div -/
def c_rational_Div : Fun := ⟨2, [.c 4 4 true, .t 5],
 .seq (.reg [⟨none, .box 2 4 (.t 0)⟩,
 ⟨none, .box 3 4 (.t 1)⟩,
 ⟨none, .alloc 4 [.b false, .nil, .b false, .nil]⟩,
 ⟨none, .mv 5 (.c (.i .i64 0))⟩])
 (.seq (.reg [⟨none, .faddr 6 0 (.t 2)⟩,
 ⟨none, .load 7 2 true (.t 6)⟩,
 ⟨none, .faddr 8 2 (.t 3)⟩,
 ⟨none, .load 9 2 true (.t 8)⟩,
 ⟨none, .bslice 10 2 2 [.b false, .sl 0 []] [(0, 2, .t 7), (2, 2, .t 9)]⟩,
 ⟨none, .call (some 11) n_rational_product [.t 10]⟩,
 ⟨none, .faddr 12 2 (.t 2)⟩,
 ⟨none, .load 13 2 true (.t 12)⟩,
 ⟨none, .faddr 14 0 (.t 3)⟩,
 ⟨none, .load 15 2 true (.t 14)⟩,
 ⟨none, .bslice 16 2 2 [.b false, .sl 0 []] [(0, 2, .t 13), (2, 2, .t 15)]⟩,
 ⟨none, .call (some 17) n_rational_product [.t 16]⟩,
 ⟨none, .call (some 18) n_rational_New [.t 11, .t 17]⟩,
 ⟨none, .ext 19 0 (.t 18)⟩,
 ⟨none, .ext 20 1 (.t 18)⟩,
 ⟨none, .store 4 (.t 4) (.t 19)⟩,
 ⟨none, .mv 5 (.t 20)⟩])
 (.ret))⟩
/- eliminant/rational.Cmp -/
def c_rational_Cmp : Fun := ⟨2, [.t 4],
 .seq (.reg [⟨none, .box 2 4 (.t 0)⟩,
 ⟨none, .box 3 4 (.t 1)⟩,
 ⟨none, .mv 4 (.c (.i .i64 0))⟩])
 (.seq (.reg [⟨none, .faddr 5 0 (.t 2)⟩,
 ⟨none, .load 6 2 true (.t 5)⟩,
 ⟨none, .faddr 7 2 (.t 3)⟩,
 ⟨none, .load 8 2 true (.t 7)⟩,
 ⟨none, .bslice 9 2 2 [.b false, .sl 0 []] [(0, 2, .t 6), (2, 2, .t 8)]⟩,
 ⟨none, .call (some 10) n_rational_product [.t 9]⟩,
 ⟨none, .faddr 11 0 (.t 3)⟩,
 ⟨none, .load 12 2 true (.t 11)⟩,
 ⟨none, .faddr 13 2 (.t 2)⟩,
 ⟨none, .load 14 2 true (.t 13)⟩,
 ⟨none, .bslice 15 2 2 [.b false, .sl 0 []] [(0, 2, .t 12), (2, 2, .t 14)]⟩,
 ⟨none, .call (some 16) n_rational_product [.t 15]⟩,
 ⟨none, .call (some 17) n_integer_Cmp [.t 10, .t 16]⟩,
 ⟨none, .mv 4 (.t 17)⟩])
 (.ret))⟩
/- math/bits.Add32 -/
def c_math_bits_Add32 : Fun := ⟨3, [.t 6, .t 7],
 .seq (.reg [⟨none, .mv 6 (.c (.i .u32 0))⟩,
 ⟨none, .mv 7 (.c (.i .u32 0))⟩])
 (.seq (.reg [⟨none, .mv 9 (.t 0)⟩,
 ⟨none, .conv 10 .u64 (.t 9)⟩,
 ⟨none, .mv 11 (.t 1)⟩,
 ⟨none, .conv 12 .u64 (.t 11)⟩,
 ⟨none, .bin 13 .add (.t 10) (.t 12)⟩,
 ⟨none, .mv 14 (.t 2)⟩,
 ⟨none, .conv 15 .u64 (.t 14)⟩,
 ⟨none, .bin 16 .add (.t 13) (.t 15)⟩,
 ⟨none, .mv 8 (.t 16)⟩])
 (.seq (.reg [⟨none, .mv 17 (.t 8)⟩,
 ⟨none, .conv 18 .u32 (.t 17)⟩,
 ⟨none, .mv 6 (.t 18)⟩])
 (.seq (.reg [⟨none, .mv 19 (.t 8)⟩,
 ⟨none, .bin 20 .shr (.t 19) (.c (.i .u64 32))⟩,
 ⟨none, .conv 21 .u32 (.t 20)⟩,
 ⟨none, .mv 7 (.t 21)⟩])
 (.ret))))⟩
/- math/bits.Sub32 -/
def c_math_bits_Sub32 : Fun := ⟨3, [.t 6, .t 7],
 .seq (.reg [⟨none, .mv 6 (.c (.i .u32 0))⟩,
 ⟨none, .mv 7 (.c (.i .u32 0))⟩])
 (.seq (.reg [⟨none, .mv 8 (.t 0)⟩,
 ⟨none, .mv 9 (.t 1)⟩,
 ⟨none, .bin 10 .sub (.t 8) (.t 9)⟩,
 ⟨none, .mv 11 (.t 2)⟩,
 ⟨none, .bin 12 .sub (.t 10) (.t 11)⟩,
 ⟨none, .mv 6 (.t 12)⟩])
 (.seq (.reg [⟨none, .mv 13 (.t 0)⟩,
 ⟨none, .un 14 .xor (.t 13)⟩,
 ⟨none, .mv 15 (.t 1)⟩,
 ⟨none, .bin 16 .and (.t 14) (.t 15)⟩,
 ⟨none, .mv 17 (.t 0)⟩,
 ⟨none, .mv 18 (.t 1)⟩,
 ⟨none, .bin 19 .xor (.t 17) (.t 18)⟩,
 ⟨none, .un 20 .xor (.t 19)⟩,
 ⟨none, .mv 21 (.t 6)⟩,
 ⟨none, .bin 22 .and (.t 20) (.t 21)⟩,
 ⟨none, .bin 23 .or (.t 16) (.t 22)⟩,
 ⟨none, .bin 24 .shr (.t 23) (.c (.i .u64 31))⟩,
 ⟨none, .mv 7 (.t 24)⟩])
 (.ret)))⟩
/- math/bits.Div32 -/
def c_math_bits_Div32 : Fun := ⟨3, [.t 6, .t 7],
 .seq (.reg [⟨none, .mv 6 (.c (.i .u32 0))⟩,
 ⟨none, .mv 7 (.c (.i .u32 0))⟩])
 (.seq (.seq (.reg [⟨none, .mv 9 (.t 2)⟩,
 ⟨none, .bin 10 .neq (.t 9) (.c (.i .u32 0))⟩,
 ⟨none, .mv 11 (.t 10)⟩,
 ⟨some (11, true, 12), .mv 12 (.t 2)⟩,
 ⟨some (11, true, 13), .mv 13 (.t 0)⟩,
 ⟨some (11, true, 14), .bin 14 .leq (.t 12) (.t 13)⟩,
 ⟨none, .pick 15 (.t 11) (.t 14) (.c (.b false))⟩])
 (.cond (.t 15) (.reg [⟨none, .fail (some 16)⟩,
 ⟨none, .fail none⟩])
 (.skip)))
 (.seq (.reg [⟨none, .mv 17 (.t 0)⟩,
 ⟨none, .conv 18 .u64 (.t 17)⟩,
 ⟨none, .bin 19 .shl (.t 18) (.c (.i .u64 32))⟩,
 ⟨none, .mv 20 (.t 1)⟩,
 ⟨none, .conv 21 .u64 (.t 20)⟩,
 ⟨none, .bin 22 .or (.t 19) (.t 21)⟩,
 ⟨none, .mv 8 (.t 22)⟩])
 (.seq (.reg [⟨none, .mv 23 (.t 8)⟩,
 ⟨none, .mv 24 (.t 2)⟩,
 ⟨none, .conv 25 .u64 (.t 24)⟩,
 ⟨none, .bin 26 .quo (.t 23) (.t 25)⟩,
 ⟨none, .conv 27 .u32 (.t 26)⟩,
 ⟨none, .mv 28 (.t 8)⟩,
 ⟨none, .mv 29 (.t 2)⟩,
 ⟨none, .conv 30 .u64 (.t 29)⟩,
 ⟨none, .bin 31 .rem (.t 28) (.t 30)⟩,
 ⟨none, .conv 32 .u32 (.t 31)⟩,
 ⟨none, .mv 6 (.t 27)⟩,
 ⟨none, .mv 7 (.t 32)⟩])
 (.ret))))⟩
/- math/bits.LeadingZeros32 -/
/- math/bits.Len32 -/
/- cmp.Compare[uint32] -/
def c_cmp_Compare_uint32 : Fun := ⟨2, [.t 4],
 .seq (.reg [⟨none, .mv 4 (.c (.i .i64 0))⟩])
 (.seq (.reg [⟨none, .mv 7 (.t 0)⟩,
 ⟨none, .call (some 8) n_cmp_isNaN_uint32 [.t 7]⟩,
 ⟨none, .mv 5 (.t 8)⟩])
 (.seq (.reg [⟨none, .mv 9 (.t 1)⟩,
 ⟨none, .call (some 10) n_cmp_isNaN_uint32 [.t 9]⟩,
 ⟨none, .mv 6 (.t 10)⟩])
 (.seq (.seq (.reg [⟨none, .mv 11 (.t 5)⟩])
 (.cond (.t 11) (.seq (.seq (.reg [⟨none, .mv 12 (.t 6)⟩])
 (.cond (.t 12) (.seq (.reg [⟨none, .mv 4 (.c (.i .i64 0))⟩])
 (.ret))
 (.skip)))
 (.seq (.reg [⟨none, .mv 4 (.c (.i .i64 (-1)))⟩])
 (.ret)))
 (.skip)))
 (.seq (.seq (.reg [⟨none, .mv 13 (.t 6)⟩])
 (.cond (.t 13) (.seq (.reg [⟨none, .mv 4 (.c (.i .i64 1))⟩])
 (.ret))
 (.skip)))
 (.seq (.seq (.reg [⟨none, .mv 14 (.t 0)⟩,
 ⟨none, .mv 15 (.t 1)⟩,
 ⟨none, .bin 16 .lss (.t 14) (.t 15)⟩])
 (.cond (.t 16) (.seq (.reg [⟨none, .mv 4 (.c (.i .i64 (-1)))⟩])
 (.ret))
 (.skip)))
 (.seq (.seq (.reg [⟨none, .mv 17 (.t 0)⟩,
 ⟨none, .mv 18 (.t 1)⟩,
 ⟨none, .bin 19 .gtr (.t 17) (.t 18)⟩])
 (.cond (.t 19) (.seq (.reg [⟨none, .mv 4 (.c (.i .i64 1))⟩])
 (.ret))
 (.skip)))
 (.seq (.reg [⟨none, .mv 4 (.c (.i .i64 0))⟩])
 (.ret))))))))⟩
/- cmp.isNaN[uint32] -/
def c_cmp_isNaN_uint32 : Fun := ⟨1, [.t 2],
 .seq (.reg [⟨none, .mv 2 (.c (.b false))⟩])
 (.seq (.reg [⟨none, .mv 3 (.t 0)⟩,
 ⟨none, .mv 4 (.t 0)⟩,
 ⟨none, .bin 5 .neq (.t 3) (.t 4)⟩,
 ⟨none, .mv 2 (.t 5)⟩])
 (.ret))⟩
/- slices.Clone[eliminant/integer.nat,uint32] -/
def c_slices_Clone_integer_nat_uint32 : Fun := ⟨1, [.t 2],
 .seq (.reg [⟨none, .mv 2 (.c (.nil))⟩])
 (.seq (.seq (.reg [⟨none, .mv 3 (.t 0)⟩,
 ⟨none, .isnil 4 false (.t 3)⟩])
 (.cond (.t 4) (.seq (.reg [⟨none, .mv 2 (.c (.nil))⟩])
 (.ret))
 (.skip)))
 (.seq (.reg [⟨none, .bslice 5 0 1 [.i .u32 0] []⟩,
 ⟨none, .mv 6 (.t 0)⟩,
 ⟨none, .append 7 1 4 (.t 5) (.t 6)⟩,
 ⟨none, .mv 2 (.t 7)⟩])
 (.ret)))⟩
/- slices.Clone[eliminant/syzygy.vector,eliminant/api.Poly] -/
end Go.Ev

/- slices.Clone, and the signs of numbers. -/
namespace Go.Ev
open Go.Pm

theorem FnAt.of_own {P : Program} (hm : P.follows .mixedOrders = true) {K : Cfg} [ShOK P K] [ShC K] {cs : Sem} (hcs : SemOK P cs) {f : FuncId} {fn : Func} {fu : Fun} (h1 : P.funcs[f]? = some fn) (h2 : fn.name ≠ "runtime.NumGoroutine") (h3 : toFun P K fn = some fu) {own : Bool}
    {ds : List DV} {r : DV} {outs : List (List DV)} (h : Rets K cs own fu ds r outs) : FnAt P f ds r outs := by
  obtain ⟨k, hk⟩ := h
  exact body_ok hm hcs k _ h1 h2 h3 ds r outs hk

/-- An empty slice is nil or it is not. -/
theorem FnAt.empty {P : Program} {f : FuncId} {r : DV} (h1 : FnAt P f [.non] r []) (h2 : FnAt P f [.emp] r []) : FnAt P f [.sl 0 []] r [] := by
  refine ⟨h1.1, fun w S vs lent wf args lok => ?_⟩
  obtain ⟨v, t, l1, l2, rfl, rfl, h3, rfl, rfl⟩ := args
  rcases h3 with ⟨rfl, _, hv⟩ | ⟨k, sz, cs, off, n, b, h, _⟩
  · simp only [V] at hv
    obtain ⟨a, cap, rfl, h4, h5, h6, h7⟩ := hv
    cases a with
    | none =>
      have : cap = 0 := h6.1 rfl
      subst this
      exact h1.2 w S _ _ wf ⟨_, [], [], [], rfl, rfl, .inl ⟨rfl, rfl, rfl⟩, rfl, rfl⟩ lok
    | some a => exact h2.2 w S _ _ wf ⟨_, [], [], [], rfl, rfl, .inl ⟨rfl, rfl, ⟨a, cap, rfl, fun hc => (h7 a rfl hc).1⟩⟩, rfl, rfl⟩ lok
  · cases h

def g_clone (own : Bool) : G
  | [.sl 0 []] => some (.sl 0 [], [])
  | [.sl (n + 1) cs] => if areDeep cs = true ∧ cs.length = n + 1 ∧ cs.all isCell = true ∧ n + 1 ≤ 1000000 then some (if own then .own 0 1 cs 0 (n + 1) else .sl (n + 1) cs, []) else none
  | _ => none

attribute [simp] isNil

section
variable {P : Program}

theorem clone_nat_non (cs : Sem) : Rets KK cs false c_slices_Clone_integer_nat_uint32 [.non] (.sl 0 []) [] := by
  refine Rets.of rfl ?_
  unfold c_slices_Clone_integer_nat_uint32
  simp [deepen]
theorem clone_nat_emp (cs : Sem) : Rets KK cs false c_slices_Clone_integer_nat_uint32 [.emp] (.sl 0 []) [] := by
  refine Rets.of rfl ?_
  unfold c_slices_Clone_integer_nat_uint32
  simp [deepen]
theorem clone_nat_cons (cs : Sem) (n : Nat) (l : List DV) (h : areDeep l = true ∧ l.length = n + 1 ∧ l.all isCell = true ∧ n + 1 ≤ 1000000) : Rets KK cs false c_slices_Clone_integer_nat_uint32 [.sl (n + 1) l] (.sl (n + 1) l) [] := by
  have h1 : ¬ l.length < n + 1 := by omega
  have h2 : ¬ 274877906943 < n := by omega
  have h3 : l.take (n + 1) = l := by rw [List.take_of_length_le (by omega)]
  refine Rets.of rfl ?_
  unfold c_slices_Clone_integer_nat_uint32
  simp [h.1, h1, h2, h3, h.2.2.1, nth, -List.all_eq_true]

theorem ok_clone_nat (hm : P.follows .mixedOrders = true) (hh : Has P n_slices_Clone_integer_nat_uint32 c_slices_Clone_integer_nat_uint32) : FnOK P n_slices_Clone_integer_nat_uint32 (g_clone false) := by
  obtain ⟨fn, h1, h2, h3⟩ := hh
  have hcs : SemOK P (sem []) := sem_ok (by simp)
  intro ds r outs h
  unfold g_clone at h
  split at h
  · cases h
    exact FnAt.empty (FnAt.of_own hm hcs h1 h2 h3 (clone_nat_non _)) (FnAt.of_own hm hcs h1 h2 h3 (clone_nat_emp _))
  · split at h
    · rename_i hc
      cases h
      exact FnAt.of_own hm hcs h1 h2 h3 (clone_nat_cons _ _ _ hc)
    · cases h
  · cases h

/-! ### Signs -/

theorem wd_len {n : Nat} : (wd n).length = 0 ↔ n = 0 := by
  unfold wd
  split
  · rename_i h; simp [h]
  · rename_i h; simp [h]

theorem num_neg' {q : Rat} : q.num < 0 ↔ q < 0 := by rw [← Int.not_le, Rat.num_nonneg, Rat.not_le]

theorem sgn_pos {a : Rat} (h : ¬ a.num < 0) : sgn a = min ((wd a.num.natAbs).length : Int) 1 := by
  have h0 : ¬ a < 0 := fun c => h (num_neg'.2 c)
  unfold sgn
  rw [if_neg h0]
  by_cases e : a = 0
  · subst e; simp [wd_zero]; rfl
  · have e1 : a.num ≠ 0 := fun c => e (Rat.num_eq_zero.1 c)
    have e2 : (wd a.num.natAbs).length ≠ 0 := fun c => e1 (by have := wd_len.1 c; omega)
    rw [if_neg e]; omega

theorem int_Sign_rets (cs : Sem) (a : Rat) : Rets KK cs false c_integer_Sign [.agg [.b (decide (a.num < 0)), dNat a.num.natAbs]] (.i .i64 (sgn a)) [] := by
  refine Rets.of rfl ?_
  unfold c_integer_Sign
  by_cases h : a.num < 0
  · have : sgn a = -1 := by unfold sgn; rw [if_pos (num_neg'.1 h)]
    simp [h, part, this, dNat]
  · rw [sgn_pos h]
    by_cases c : (1 : Int) < ((wd a.num.natAbs).length : Int)
    · have e : min ((wd a.num.natAbs).length : Int) 1 = 1 := by omega
      simp [h, part, dNat, e]
      omega
    · have e : min ((wd a.num.natAbs).length : Int) 1 = ((wd a.num.natAbs).length : Int) := by omega
      simp [h, part, dNat, e]
      omega

theorem ref01_Sign_rets (cs : Sem) (a : Rat) : Rets KK cs false c_ref01_Sign [.agg [.b (decide (a.num < 0)), dNat a.num.natAbs]] (.i .i64 (sgn a)) [] := by
  refine Rets.of rfl ?_
  unfold c_ref01_Sign
  by_cases h : a.num < 0
  · have : sgn a = -1 := by unfold sgn; rw [if_pos (num_neg'.1 h)]
    simp [h, part, this, dNat]
  · rw [sgn_pos h]
    by_cases c : (1 : Int) < ((wd a.num.natAbs).length : Int)
    · have e : min ((wd a.num.natAbs).length : Int) 1 = 1 := by omega
      simp [h, part, dNat, e]
      omega
    · have e : min ((wd a.num.natAbs).length : Int) 1 = ((wd a.num.natAbs).length : Int) := by omega
      simp [h, part, dNat, e]
      omega

theorem rational_Sign_rets (cs : Sem) (a : Rat) (h : cs n_integer_Sign [.agg [.b (decide (a.num < 0)), dNat a.num.natAbs]] = some (.i .i64 (sgn a), [])) : Rets KK cs false c_rational_Sign [dRat a] (.i .i64 (sgn a)) [] := by
  refine Rets.of rfl ?_
  have p2 : part (rcells a) 0 2 true = some (.agg [.b (decide (a.num < 0)), dNat a.num.natAbs]) := rfl
  unfold c_rational_Sign
  simp [p2, h, dNat_deep]
theorem ref02_Sign_rets (cs : Sem) (a : Rat) (h : cs n_ref01_Sign [.agg [.b (decide (a.num < 0)), dNat a.num.natAbs]] = some (.i .i64 (sgn a), [])) : Rets KK cs false c_ref02_Sign [dRat a] (.i .i64 (sgn a)) [] := by
  refine Rets.of rfl ?_
  have p2 : part (rcells a) 0 2 true = some (.agg [.b (decide (a.num < 0)), dNat a.num.natAbs]) := rfl
  unfold c_ref02_Sign
  simp [p2, h, dNat_deep]

def encI (a : Rat) : List DV := [.agg [.b (decide (a.num < 0)), dNat a.num.natAbs]]
theorem encI_out {a b : Rat} (h : encI a = encI b) : sgn a = sgn b := by
  simp only [encI, List.cons.injEq, DV.agg.injEq, DV.b.injEq, decide_eq_decide, and_true] at h
  have h2 := dNat_inj h.2
  have e : a.num = b.num := by
    by_cases c : a.num < 0
    · have := h.1.1 c; omega
    · have : ¬ b.num < 0 := fun x => c (h.1.2 x); omega
  unfold sgn
  simp only [← num_neg', ← Rat.num_eq_zero, e]

open Classical in
noncomputable def g_isign : G := fun ds => if h : ∃ a, encI a = ds then some (.i .i64 (sgn h.choose), []) else none
theorem e_isign (a : Rat) : g_isign (encI a) = some (.i .i64 (sgn a), []) := by
  have hx : ∃ b, encI b = encI a := ⟨a, rfl⟩
  unfold g_isign
  rw [dif_pos hx, encI_out hx.choose_spec]

theorem ok_sign_prog (hm : P.follows .mixedOrders = true) (h1 : Has P n_rational_Sign c_rational_Sign) (h2 : Has P n_integer_Sign c_integer_Sign) : FnOK P n_rational_Sign g_sign := by
  have k : FnOK P n_integer_Sign g_isign := by
    obtain ⟨fn, q1, q2, q3⟩ := h2
    intro ds r outs h
    unfold g_isign at h
    split at h
    · rename_i hx
      cases h
      have := FnAt.of_own hm (sem_ok (P := P) (l := []) (by simp)) q1 q2 q3 (int_Sign_rets _ hx.choose)
      rw [show [DV.agg [.b (decide (hx.choose.num < 0)), dNat hx.choose.num.natAbs]] = encI hx.choose from rfl, hx.choose_spec] at this
      exact this
    · cases h
  exact ok_of hm (l := [(n_integer_Sign, g_isign)]) (by simpa using k) h1 rfl fun a _ => rational_Sign_rets _ a (e_isign a)

theorem ok_sign_ref (hm : P.follows .mixedOrders = true) (h1 : Has P n_ref02_Sign c_ref02_Sign) (h2 : Has P n_ref01_Sign c_ref01_Sign) : FnOK P n_ref02_Sign g_sign := by
  have k : FnOK P n_ref01_Sign g_isign := by
    obtain ⟨fn, q1, q2, q3⟩ := h2
    intro ds r outs h
    unfold g_isign at h
    split at h
    · rename_i hx
      cases h
      have := FnAt.of_own hm (sem_ok (P := P) (l := []) (by simp)) q1 q2 q3 (ref01_Sign_rets _ hx.choose)
      rw [show [DV.agg [.b (decide (hx.choose.num < 0)), dNat hx.choose.num.natAbs]] = encI hx.choose from rfl, hx.choose_spec] at this
      exact this
    · cases h
  exact ok_of hm (l := [(n_ref01_Sign, g_isign)]) (by simpa using k) h1 rfl fun a _ => ref02_Sign_rets _ a (e_isign a)
end
end Go.Ev

/- Runs by a table of code. -/
namespace Go.Ev
open Go.Pm

def HasK (K : Cfg) (P : Program) (f : Nat) (c : Fun) : Prop := ∃ fn, P.funcs[f]? = some fn ∧ fn.name ≠ "runtime.NumGoroutine" ∧ toFun P K fn = some c

theorem run_ok {P : Program} (hm : P.follows .mixedOrders = true) {L : List (Nat × Fun)} {fc : Nat → FC} (hL : ∀ x ∈ L, HasK { fc := fc, fn := fun f => (L.find? (·.1 == f)).map (·.2) } P x.1 x.2)
    {ov : Nat → Option G} (hov : ∀ f g, ov f = some g → FnOK P f g) (k : Nat) : SemOK P (evFn { fc := fc, fn := fun f => (L.find? (·.1 == f)).map (·.2) } (fun f => (ov f).map fun g _ => g) k) := by
  refine evFn_ok hm (fun f fu h => ?_) (fun f g h cs _ => ?_) k
  · simp only [Option.map_eq_some_iff] at h
    obtain ⟨x, h1, rfl⟩ := h
    have h2 := List.find?_some h1
    simp only [beq_iff_eq] at h2
    subst h2
    exact hL x (List.mem_of_find?_eq_some h1)
  · simp only [Option.map_eq_some_iff] at h
    obtain ⟨g0, h1, rfl⟩ := h
    exact hov f g0 h1

theorem whole_dRat {x : Int} (h : x.natAbs < 4294967296) : whole x = dRat (x : Rat) := by
  have h1 : wd 1 = [1] := wd_small (by omega) (by omega)
  have e1 : dNat 1 = .sl 1 [.i .u32 1] := by simp [dNat, h1]
  by_cases c0 : x = 0
  · subst c0
    simp [whole, rcells, e1]
    simp [dNat, wd_zero]
  · have h2 : wd x.natAbs = [x.natAbs] := wd_small (by omega) h
    have e2 : dNat x.natAbs = .sl 1 [.i .u32 (x.natAbs : Int)] := by simp [dNat, h2]
    have e3 : (if x < 0 then -x else x) = (x.natAbs : Int) := by split <;> omega
    simp [whole, rcells, e1, e2, c0, e3]
    congr

/-- Sums and products of small whole numbers, out of the cases. -/
theorem small_of {P : Program} {f : Nat} {g : G} (hg : FnOK P f g) {l : List Case} (o : Int → Int → Int) (op : Pl → Pl → Pl) (ho : ∀ r p q, Pl.eval r (op p q) = o (p.eval r) (q.eval r))
    (hs : l.all (fun c => signed (lin c.1.1 c.1.2.1 c.1.2.2) && signed (lin c.2.1 c.2.2.1 c.2.2.2) && signed (op (lin c.1.1 c.1.2.1 c.1.2.2) (lin c.2.1 c.2.2.1 c.2.2.2))) = true)
    (hr : l.map (fun c => g [wholeX (lin c.1.1 c.1.2.1 c.1.2.2), wholeX (lin c.2.1 c.2.2.1 c.2.2.2)]) = l.map (fun c => some (wholeX (op (lin c.1.1 c.1.2.1 c.1.2.2) (lin c.2.1 c.2.2.1 c.2.2.2)), [])))
    {x y : Int} (hc : Covers l x y) (bx : x.natAbs < 4294967296) (b2 : y.natAbs < 4294967296) (b3 : (o x y).natAbs < 4294967296) : FnAt P f [dRat (x : Rat), dRat (y : Rat)] (dRat ((o x y : Int) : Rat)) [] := by
  have h := at_whole hg o op ho hs (fun c hm => List.map_inj_left.1 hr c hm) hc
  rw [whole_dRat bx, whole_dRat b2, whole_dRat b3] at h
  exact h

theorem ok_add_of {P : Program} {f : Nat} {g : G} (hg : FnOK P f g)
    (hr : casesAdd.map (fun c => g [wholeX (lin c.1.1 c.1.2.1 c.1.2.2), wholeX (lin c.2.1 c.2.2.1 c.2.2.2)]) = casesAdd.map (fun c => some (wholeX (Pl.add (lin c.1.1 c.1.2.1 c.1.2.2) (lin c.2.1 c.2.2.1 c.2.2.2)), []))) :
    FnOK P f g_add := by
  refine spec_ok fun ⟨a, b⟩ h => ?_
  obtain ⟨⟨ha, na⟩, ⟨hb, nb⟩⟩ := h
  simp only at ha na hb nb
  unfold nm at na nb
  have k := small_of hg (fun x y => x + y) Pl.add (fun r p q => Pl.eval_add p q) (by decide +kernel) hr (x := a.num) (y := b.num) (casesAdd_cover (by omega) (by omega)) (by omega) (by omega) (by omega)
  have e : ((a.num + b.num : Int) : Rat) = a + b := by rw [Rat.intCast_add, ← whole_eq ha, ← whole_eq hb]
  rw [e, ← whole_eq ha, ← whole_eq hb] at k
  exact k

theorem mul_bound {a b : Int} (ha : a.natAbs ≤ 16000) (hb : b.natAbs ≤ 16000) : (a * b).natAbs < 4294967296 := by
  rw [Int.natAbs_mul]
  have := Nat.mul_le_mul ha hb
  omega

theorem ok_mul_of {P : Program} {f : Nat} {g : G} (hg : FnOK P f g)
    (hr : casesMul.map (fun c => g [wholeX (lin c.1.1 c.1.2.1 c.1.2.2), wholeX (lin c.2.1 c.2.2.1 c.2.2.2)]) = casesMul.map (fun c => some (wholeX (Pl.mul (lin c.1.1 c.1.2.1 c.1.2.2) (lin c.2.1 c.2.2.1 c.2.2.2)), []))) :
    FnOK P f g_mul := by
  refine spec_ok fun ⟨a, b⟩ h => ?_
  obtain ⟨⟨ha, na⟩, ⟨hb, nb⟩⟩ := h
  simp only at ha na hb nb
  unfold nm at na nb
  have k := small_of hg (fun x y => x * y) Pl.mul (fun r p q => Pl.eval_mul p q) (by decide +kernel) hr (x := a.num) (y := b.num) (casesMul_cover (by omega) (by omega)) (by omega) (by omega) (mul_bound na nb)
  have e : ((a.num * b.num : Int) : Rat) = a * b := by rw [Rat.intCast_mul, ← whole_eq ha, ← whole_eq hb]
  rw [e, ← whole_eq ha, ← whole_eq hb] at k
  exact k

/-- Runs at some cases. -/
def Runs (g : G) (op : Pl → Pl → Pl) (l : List Case) : Prop :=
  l.map (fun c => g [wholeX (lin c.1.1 c.1.2.1 c.1.2.2), wholeX (lin c.2.1 c.2.2.1 c.2.2.2)]) = l.map (fun c => some (wholeX (op (lin c.1.1 c.1.2.1 c.1.2.2) (lin c.2.1 c.2.2.1 c.2.2.2)), []))
def chunk (l : List Case) (i : Nat) : List Case := (l.drop (5 * i)).take 5
theorem runs_of {g : G} {op : Pl → Pl → Pl} {l : List Case} {n : Nat} (hn : l.length ≤ 5 * n) (h : ∀ i, i < n → Runs g op (chunk l i)) : Runs g op l := by
  refine List.map_inj_left.2 fun c hc => ?_
  obtain ⟨j, hj, rfl⟩ := List.getElem_of_mem hc
  have hi : j / 5 < n := by omega
  refine List.map_inj_left.1 (h (j / 5) hi) _ ?_
  have : (chunk l (j / 5))[j % 5]? = some l[j] := by
    unfold chunk
    rw [List.getElem?_take_of_lt (by omega), List.getElem?_drop, List.getElem?_eq_getElem (by omega)]
    congr 2; omega
  exact List.mem_of_getElem? this

def range201 : List Int := (List.range 201).map fun n : Nat => (n : Int) - 100

theorem ok_whole_of {P : Program} {f : Nat} {g : G} (hg : FnOK P f g) (hr : range201.map (fun n => g [.i .i64 n]) = range201.map (fun n => some (whole n, []))) : FnOK P f g_whole := by
  refine spec_ok fun n h => ?_
  have hm : n ∈ range201 := List.mem_map.2 ⟨(n + 100).toNat, List.mem_range.2 (by omega), by omega⟩
  have k := hg.at (List.map_inj_left.1 hr n hm)
  rw [whole_dRat (by omega)] at k
  exact k
end Go.Ev

/- Code of functions, printed from the translation by a program of mine. -/
set_option maxRecDepth 100000
namespace Go.Ev
/- eliminant/eliminantref05.Lex -/
/- eliminant/eliminantref06.Int -/
/- eliminant/eliminantref06.SameList -/
/- eliminant/eliminantref06.X -/
/- eliminant/syzygy.Express -/
/- eliminant/syzygy.Schreyer -/
/- eliminant/eliminantref06.Constant -/
def c_ref06_Constant : Fun := ⟨1, [.t 2],
 .seq (.reg [⟨none, .box 1 4 (.t 0)⟩,
 ⟨none, .mv 2 (.c (.nil))⟩])
 (.seq (.seq (.reg [⟨none, .load 3 4 true (.t 1)⟩,
 ⟨none, .call (some 4) n_ref02_Sign [.t 3]⟩,
 ⟨none, .bin 5 .eql (.t 4) (.c (.i .i64 0))⟩])
 (.cond (.t 5) (.seq (.reg [⟨none, .mv 2 (.c (.nil))⟩])
 (.ret))
 (.skip)))
 (.seq (.reg [⟨none, .load 6 4 true (.t 1)⟩,
 ⟨none, .build 7 [.b false, .nil, .b false, .nil, .i .i64 0, .i .i64 0, .i .i64 0, .i .i64 0, .i .i64 0, .i .i64 0, .i .i64 0, .i .i64 0] [(0, 4, .t 6)]⟩,
 ⟨none, .bslice 8 1 12 [.b false, .sl 0 [], .b false, .sl 0 [], .i .i64 0, .i .i64 0, .i .i64 0, .i .i64 0, .i .i64 0, .i .i64 0, .i .i64 0, .i .i64 0] [(0, 12, .t 7)]⟩,
 ⟨none, .mv 2 (.t 8)⟩])
 (.ret)))⟩
/- eliminant/eliminantref06.Var -/
def c_ref06_Var : Fun := ⟨1, [.t 2, .t 3],
 .seq (.reg [⟨none, .mv 2 (.c (.nil))⟩,
 ⟨none, .mv 3 (.c (.i .i64 0))⟩])
 (.seq (.seq (.reg [⟨none, .mv 5 (.t 0)⟩,
 ⟨none, .bin 6 .lss (.t 5) (.c (.i .i64 0))⟩,
 ⟨none, .mv 7 (.t 6)⟩,
 ⟨some (7, false, 8), .mv 8 (.t 0)⟩,
 ⟨some (7, false, 9), .bin 9 .geq (.t 8) (.c (.i .i64 8))⟩,
 ⟨none, .pick 10 (.t 7) (.c (.b true)) (.t 9)⟩])
 (.cond (.t 10) (.seq (.reg [⟨none, .mv 2 (.c (.nil))⟩,
 ⟨none, .mv 3 (.c (.i .i64 1))⟩])
 (.ret))
 (.skip)))
 (.seq (.reg [⟨none, .build 11 [.i .i64 0, .i .i64 0, .i .i64 0, .i .i64 0, .i .i64 0, .i .i64 0, .i .i64 0, .i .i64 0] []⟩,
 ⟨none, .alloc 4 [.i .i64 0, .i .i64 0, .i .i64 0, .i .i64 0, .i .i64 0, .i .i64 0, .i .i64 0, .i .i64 0]⟩,
 ⟨none, .store 8 (.t 4) (.t 11)⟩])
 (.seq (.reg [⟨none, .mv 12 (.t 0)⟩,
 ⟨none, .iaddrA 13 8 1 (.t 4) (.t 12)⟩,
 ⟨none, .store 1 (.t 13) (.c (.i .i64 1))⟩])
 (.seq (.reg [⟨none, .call (some 14) n_ref02_Whole [.c (.i .i64 1)]⟩,
 ⟨none, .load 15 8 true (.t 4)⟩,
 ⟨none, .build 16 [.b false, .nil, .b false, .nil, .i .i64 0, .i .i64 0, .i .i64 0, .i .i64 0, .i .i64 0, .i .i64 0, .i .i64 0, .i .i64 0] [(0, 4, .t 14), (4, 8, .t 15)]⟩,
 ⟨none, .bslice 17 1 12 [.b false, .sl 0 [], .b false, .sl 0 [], .i .i64 0, .i .i64 0, .i .i64 0, .i .i64 0, .i .i64 0, .i .i64 0, .i .i64 0, .i .i64 0] [(0, 12, .t 16)]⟩,
 ⟨none, .mv 2 (.t 17)⟩,
 ⟨none, .mv 3 (.c (.i .i64 0))⟩])
 (.ret)))))⟩
/- eliminant/monomial.Lcm -/
def c_monomial_Lcm : Fun := ⟨2, [.c 4 8 true],
 .seq (.reg [⟨none, .box 2 8 (.t 0)⟩,
 ⟨none, .box 3 8 (.t 1)⟩,
 ⟨none, .alloc 4 [.i .i64 0, .i .i64 0, .i .i64 0, .i .i64 0, .i .i64 0, .i .i64 0, .i .i64 0, .i .i64 0]⟩])
 (.seq (.reg [⟨none, .load 5 8 true (.t 2)⟩,
 ⟨none, .load 6 8 true (.t 3)⟩,
 ⟨none, .call (some 7) n_monomial_each [.t 5, .t 6, .c (.fn n_monomial_Lcm_1 [])]⟩,
 ⟨none, .store 8 (.t 4) (.t 7)⟩])
 (.ret))⟩
/- eliminant/monomial.Quo -/
def c_monomial_Quo : Fun := ⟨2, [.c 4 8 true, .t 5],
 .seq (.reg [⟨none, .box 2 8 (.t 0)⟩,
 ⟨none, .box 3 8 (.t 1)⟩,
 ⟨none, .alloc 4 [.i .i64 0, .i .i64 0, .i .i64 0, .i .i64 0, .i .i64 0, .i .i64 0, .i .i64 0, .i .i64 0]⟩,
 ⟨none, .mv 5 (.c (.b false))⟩])
 (.seq (.seq (.reg [⟨none, .load 6 8 true (.t 3)⟩,
 ⟨none, .load 7 8 true (.t 2)⟩,
 ⟨none, .call (some 8) n_monomial_Divides [.t 6, .t 7]⟩,
 ⟨none, .un 9 .not (.t 8)⟩])
 (.cond (.t 9) (.seq (.reg [⟨none, .build 10 [.i .i64 0, .i .i64 0, .i .i64 0, .i .i64 0, .i .i64 0, .i .i64 0, .i .i64 0, .i .i64 0] []⟩,
 ⟨none, .store 8 (.t 4) (.t 10)⟩,
 ⟨none, .mv 5 (.c (.b false))⟩])
 (.ret))
 (.skip)))
 (.seq (.reg [⟨none, .load 11 8 true (.t 2)⟩,
 ⟨none, .load 12 8 true (.t 3)⟩,
 ⟨none, .call (some 13) n_monomial_each [.t 11, .t 12, .c (.fn n_monomial_Quo_1 [])]⟩,
 ⟨none, .store 8 (.t 4) (.t 13)⟩,
 ⟨none, .mv 5 (.c (.b true))⟩])
 (.ret)))⟩
/- eliminant/order.Cmp -/
def l_order_Cmp_0 : C :=
 .seq (.reg [⟨none, .bin 23 .lss (.t 22) (.c (.i .i64 8))⟩])
 (.seq (.cond (.t 23) (.skip)
 (.exit 2))
 (.seq (.block 3 (.seq (.reg [⟨none, .mv 24 (.t 22)⟩,
 ⟨none, .idx 25 8 1 false (.t 21) (.t 22)⟩,
 ⟨none, .mv 10 (.t 24)⟩,
 ⟨none, .mv 11 (.t 25)⟩])
 (.reg [⟨none, .mv 26 (.t 9)⟩,
 ⟨none, .mv 27 (.t 11)⟩,
 ⟨none, .mv 28 (.t 10)⟩,
 ⟨none, .iaddrA 29 8 1 (.t 4) (.t 28)⟩,
 ⟨none, .load 30 1 false (.t 29)⟩,
 ⟨none, .mv 31 (.t 10)⟩,
 ⟨none, .iaddrA 32 8 1 (.t 5) (.t 31)⟩,
 ⟨none, .load 33 1 false (.t 32)⟩,
 ⟨none, .bin 34 .sub (.t 30) (.t 33)⟩,
 ⟨none, .bin 35 .mul (.t 27) (.t 34)⟩,
 ⟨none, .bin 36 .add (.t 26) (.t 35)⟩,
 ⟨none, .mv 9 (.t 36)⟩])))
 (.reg [⟨none, .bin 37 .add (.t 22) (.c (.i .i64 1))⟩,
 ⟨none, .mv 22 (.t 37)⟩])))
def l_order_Cmp_1 : C :=
 .seq (.reg [⟨none, .bin 18 .lss (.t 17) (.t 16)⟩])
 (.seq (.cond (.t 18) (.skip)
 (.exit 0))
 (.seq (.block 1 (.seq (.reg [⟨none, .iaddrS 19 8 (.t 15) (.t 17)⟩,
 ⟨none, .load 20 8 true (.t 19)⟩,
 ⟨none, .alloc 8 [.i .i64 0, .i .i64 0, .i .i64 0, .i .i64 0, .i .i64 0, .i .i64 0, .i .i64 0, .i .i64 0]⟩,
 ⟨none, .store 8 (.t 8) (.t 20)⟩])
 (.seq (.reg [⟨none, .mv 9 (.c (.i .i64 0))⟩])
 (.seq (.seq (.reg [⟨none, .load 21 8 true (.t 8)⟩,
 ⟨none, .mv 22 (.c (.i .i64 0))⟩])
 (.block 2 (.loop l_order_Cmp_0)))
 (.block 4 (.seq (.reg [⟨none, .mv 39 (.t 9)⟩,
 ⟨none, .bin 40 .lss (.t 39) (.c (.i .i64 0))⟩,
 ⟨none, .mv 38 (.t 40)⟩])
 (.cond (.t 38) (.seq (.reg [⟨none, .mv 6 (.c (.i .i64 (-1)))⟩])
 (.ret))
 (.seq (.reg [⟨none, .mv 42 (.t 9)⟩,
 ⟨none, .bin 43 .gtr (.t 42) (.c (.i .i64 0))⟩,
 ⟨none, .mv 41 (.t 43)⟩])
 (.cond (.t 41) (.seq (.reg [⟨none, .mv 6 (.c (.i .i64 1))⟩])
 (.ret))
 (.skip))))))))))
 (.reg [⟨none, .bin 44 .add (.t 17) (.c (.i .i64 1))⟩,
 ⟨none, .mv 17 (.t 44)⟩])))
def c_order_Cmp : Fun := ⟨3, [.t 6],
 .seq (.reg [⟨none, .box 4 8 (.t 1)⟩,
 ⟨none, .box 5 8 (.t 2)⟩,
 ⟨none, .mv 6 (.c (.i .i64 0))⟩])
 (.seq (.seq (.reg [⟨none, .load 12 8 true (.t 4)⟩,
 ⟨none, .load 13 8 true (.t 5)⟩,
 ⟨none, .eqa 14 8 false (.t 12) (.t 13)⟩])
 (.cond (.t 14) (.seq (.reg [⟨none, .mv 6 (.c (.i .i64 0))⟩])
 (.ret))
 (.skip)))
 (.seq (.seq (.reg [⟨none, .mv 15 (.t 0)⟩,
 ⟨none, .len 16 (.t 15)⟩,
 ⟨none, .mv 17 (.c (.i .i64 0))⟩])
 (.block 0 (.loop l_order_Cmp_1)))
 (.seq (.reg [⟨none, .load 45 8 true (.t 4)⟩,
 ⟨none, .load 46 8 true (.t 5)⟩,
 ⟨none, .call (some 47) n_monomial_Cmp [.t 45, .t 46]⟩,
 ⟨none, .mv 6 (.t 47)⟩])
 (.ret))))⟩
/- eliminant/polynomial.Lead -/
def c_polynomial_Lead : Fun := ⟨2, [.c 4 12 true, .t 5],
 .seq (.reg [⟨none, .box 3 1 (.t 1)⟩,
 ⟨none, .alloc 4 [.b false, .nil, .b false, .nil, .i .i64 0, .i .i64 0, .i .i64 0, .i .i64 0, .i .i64 0, .i .i64 0, .i .i64 0, .i .i64 0]⟩,
 ⟨none, .mv 5 (.c (.b false))⟩])
 (.seq (.seq (.reg [⟨none, .mv 6 (.t 0)⟩,
 ⟨none, .len 7 (.t 6)⟩,
 ⟨none, .bin 8 .eql (.t 7) (.c (.i .i64 0))⟩])
 (.cond (.t 8) (.seq (.reg [⟨none, .build 9 [.b false, .nil, .b false, .nil, .i .i64 0, .i .i64 0, .i .i64 0, .i .i64 0, .i .i64 0, .i .i64 0, .i .i64 0, .i .i64 0] []⟩,
 ⟨none, .store 12 (.t 4) (.t 9)⟩,
 ⟨none, .mv 5 (.c (.b false))⟩])
 (.ret))
 (.skip)))
 (.seq (.reg [⟨none, .mv 10 (.t 0)⟩,
 ⟨none, .mkfn 11 n_polynomial_Lead_1 [.t 3]⟩,
 ⟨none, .call (some 12) n_slices_MaxFunc_api_Poly_api_Term [.t 10, .t 11]⟩,
 ⟨none, .store 12 (.t 4) (.t 12)⟩,
 ⟨none, .mv 5 (.c (.b true))⟩])
 (.ret)))⟩
/- eliminant/syzygy.constant -/
/- eliminant/syzygy.leads -/
/- eliminant/syzygy.quotient -/
/- (eliminant/syzygy.vector).plus -/
/- (eliminant/syzygy.vector).scaled -/
/- eliminant/division.Divide -/
def c_division_Divide : Fun := ⟨3, [.t 6, .t 7, .t 8],
 .seq (.reg [⟨none, .mv 6 (.c (.nil))⟩,
 ⟨none, .mv 7 (.c (.nil))⟩,
 ⟨none, .mv 8 (.c (.i .i64 0))⟩])
 (.seq (.seq (.reg [⟨none, .mv 9 (.t 2)⟩,
 ⟨none, .call (some 10) n_order_Valid [.t 9]⟩,
 ⟨none, .un 11 .not (.t 10)⟩])
 (.cond (.t 11) (.seq (.reg [⟨none, .mv 6 (.c (.nil))⟩,
 ⟨none, .mv 7 (.c (.nil))⟩,
 ⟨none, .mv 8 (.c (.i .i64 50))⟩])
 (.ret))
 (.skip)))
 (.seq (.reg [⟨none, .mv 12 (.t 0)⟩,
 ⟨none, .mv 13 (.t 1)⟩,
 ⟨none, .mv 14 (.t 1)⟩,
 ⟨none, .mv 15 (.t 2)⟩,
 ⟨none, .call (some 16) n_division_leadsOf [.t 14, .t 15]⟩,
 ⟨none, .mv 17 (.t 2)⟩,
 ⟨none, .call (some 18) n_division_divide [.t 12, .t 13, .t 16, .t 17]⟩,
 ⟨none, .ext 19 0 (.t 18)⟩,
 ⟨none, .ext 20 1 (.t 18)⟩,
 ⟨none, .ext 21 2 (.t 18)⟩,
 ⟨none, .mv 6 (.t 19)⟩,
 ⟨none, .mv 7 (.t 20)⟩,
 ⟨none, .mv 8 (.t 21)⟩])
 (.ret)))⟩
/- eliminant/division.IsBasis -/
/- eliminant/division.Spair -/
/- eliminant/order.Valid -/
def l_order_Valid_0 : C :=
 .seq (.reg [⟨none, .bin 19 .lss (.t 18) (.c (.i .i64 8))⟩])
 (.seq (.cond (.t 19) (.skip)
 (.exit 2))
 (.seq (.block 3 (.seq (.reg [⟨none, .mv 20 (.t 18)⟩,
 ⟨none, .idx 21 8 1 false (.t 17) (.t 18)⟩,
 ⟨none, .mv 6 (.t 20)⟩,
 ⟨none, .mv 7 (.t 21)⟩])
 (.seq (.seq (.reg [⟨none, .mv 22 (.t 7)⟩,
 ⟨none, .bin 23 .lss (.t 22) (.c (.i .i64 (-1000)))⟩,
 ⟨none, .mv 24 (.t 23)⟩,
 ⟨some (24, false, 25), .mv 25 (.t 7)⟩,
 ⟨some (24, false, 26), .bin 26 .gtr (.t 25) (.c (.i .i64 1000))⟩,
 ⟨none, .pick 27 (.t 24) (.c (.b true)) (.t 26)⟩,
 ⟨none, .mv 28 (.t 27)⟩,
 ⟨some (28, false, 29), .mv 29 (.t 7)⟩,
 ⟨some (28, false, 30), .bin 30 .lss (.t 29) (.c (.i .i64 0))⟩,
 ⟨some (28, false, 31), .mv 31 (.t 30)⟩,
 ⟨some (31, true, 32), .mv 32 (.t 6)⟩,
 ⟨some (31, true, 33), .iaddrA 33 8 1 (.t 3) (.t 32)⟩,
 ⟨some (31, true, 34), .load 34 1 false (.t 33)⟩,
 ⟨some (31, true, 35), .un 35 .not (.t 34)⟩,
 ⟨some (28, false, 36), .pick 36 (.t 31) (.t 35) (.c (.b false))⟩,
 ⟨none, .pick 37 (.t 28) (.c (.b true)) (.t 36)⟩])
 (.cond (.t 37) (.seq (.reg [⟨none, .mv 2 (.c (.b false))⟩])
 (.ret))
 (.skip)))
 (.reg [⟨none, .mv 38 (.t 6)⟩,
 ⟨none, .mv 39 (.t 6)⟩,
 ⟨none, .iaddrA 40 8 1 (.t 3) (.t 39)⟩,
 ⟨none, .load 41 1 false (.t 40)⟩,
 ⟨none, .mv 42 (.t 41)⟩,
 ⟨some (42, false, 43), .mv 43 (.t 7)⟩,
 ⟨some (42, false, 44), .bin 44 .gtr (.t 43) (.c (.i .i64 0))⟩,
 ⟨none, .pick 45 (.t 42) (.c (.b true)) (.t 44)⟩,
 ⟨none, .iaddrA 46 8 1 (.t 3) (.t 38)⟩,
 ⟨none, .store 1 (.t 46) (.t 45)⟩]))))
 (.reg [⟨none, .bin 47 .add (.t 18) (.c (.i .i64 1))⟩,
 ⟨none, .mv 18 (.t 47)⟩])))
def l_order_Valid_1 : C :=
 .seq (.reg [⟨none, .bin 14 .lss (.t 13) (.t 12)⟩])
 (.seq (.cond (.t 14) (.skip)
 (.exit 0))
 (.seq (.block 1 (.seq (.reg [⟨none, .iaddrS 15 8 (.t 11) (.t 13)⟩,
 ⟨none, .load 16 8 true (.t 15)⟩,
 ⟨none, .alloc 5 [.i .i64 0, .i .i64 0, .i .i64 0, .i .i64 0, .i .i64 0, .i .i64 0, .i .i64 0, .i .i64 0]⟩,
 ⟨none, .store 8 (.t 5) (.t 16)⟩])
 (.seq (.reg [⟨none, .load 17 8 true (.t 5)⟩,
 ⟨none, .mv 18 (.c (.i .i64 0))⟩])
 (.block 2 (.loop l_order_Valid_0)))))
 (.reg [⟨none, .bin 48 .add (.t 13) (.c (.i .i64 1))⟩,
 ⟨none, .mv 13 (.t 48)⟩])))
def c_order_Valid : Fun := ⟨1, [.t 2],
 .seq (.reg [⟨none, .mv 2 (.c (.b false))⟩])
 (.seq (.seq (.reg [⟨none, .mv 8 (.t 0)⟩,
 ⟨none, .len 9 (.t 8)⟩,
 ⟨none, .bin 10 .gtr (.t 9) (.c (.i .i64 24))⟩])
 (.cond (.t 10) (.seq (.reg [⟨none, .mv 2 (.c (.b false))⟩])
 (.ret))
 (.skip)))
 (.seq (.reg [⟨none, .alloc 3 [.b false, .b false, .b false, .b false, .b false, .b false, .b false, .b false]⟩])
 (.seq (.seq (.reg [⟨none, .mv 11 (.t 0)⟩,
 ⟨none, .len 12 (.t 11)⟩,
 ⟨none, .mv 13 (.c (.i .i64 0))⟩])
 (.block 0 (.loop l_order_Valid_1)))
 (.seq (.reg [⟨none, .mv 2 (.c (.b true))⟩])
 (.ret)))))⟩
/- eliminant/polynomial.Sub -/
def c_polynomial_Sub : Fun := ⟨2, [.t 4],
 .seq (.reg [⟨none, .mv 4 (.c (.nil))⟩])
 (.seq (.reg [⟨none, .mv 5 (.t 0)⟩,
 ⟨none, .mv 6 (.t 1)⟩,
 ⟨none, .call (some 7) n_polynomial_merge [.t 5, .t 6, .c (.fn n_rational_Sub []), .c (.fn n_rational_Neg [])]⟩,
 ⟨none, .mv 4 (.t 7)⟩])
 (.ret))⟩
/- slices.ContainsFunc[[]eliminant/api.Poly,eliminant/api.Poly] -/
def c_slices_ContainsFunc_api_Poly_api_Poly : Fun := ⟨2, [.t 4],
 .seq (.reg [⟨none, .mv 4 (.c (.b false))⟩])
 (.seq (.reg [⟨none, .mv 5 (.t 0)⟩,
 ⟨none, .mv 6 (.t 1)⟩,
 ⟨none, .call (some 7) n_slices_IndexFunc_api_Poly_api_Poly [.t 5, .t 6]⟩,
 ⟨none, .bin 8 .geq (.t 7) (.c (.i .i64 0))⟩,
 ⟨none, .mv 4 (.t 8)⟩])
 (.ret))⟩
/- eliminant/syzygy.Schreyer$1 -/
/- eliminant/monomial.Lcm$1 -/
def c_monomial_Lcm_1 : Fun := ⟨2, [.t 4],
 .seq (.reg [⟨none, .mv 4 (.c (.i .i64 0))⟩])
 (.seq (.reg [⟨none, .mv 5 (.t 0)⟩,
 ⟨none, .mv 6 (.t 1)⟩,
 ⟨none, .mnx 7 true (.t 5) (.t 6)⟩,
 ⟨none, .mv 4 (.t 7)⟩])
 (.ret))⟩
/- eliminant/monomial.Divides -/
def c_monomial_Divides : Fun := ⟨2, [.t 4],
 .seq (.reg [⟨none, .box 2 8 (.t 0)⟩,
 ⟨none, .box 3 8 (.t 1)⟩,
 ⟨none, .mv 4 (.c (.b false))⟩])
 (.seq (.reg [⟨none, .load 5 8 true (.t 2)⟩,
 ⟨none, .load 6 8 true (.t 3)⟩,
 ⟨none, .call (some 7) n_monomial_Gcd [.t 5, .t 6]⟩,
 ⟨none, .load 8 8 true (.t 2)⟩,
 ⟨none, .eqa 9 8 false (.t 7) (.t 8)⟩,
 ⟨none, .mv 4 (.t 9)⟩])
 (.ret))⟩
/- eliminant/monomial.Quo$1 -/
def c_monomial_Quo_1 : Fun := ⟨2, [.t 4],
 .seq (.reg [⟨none, .mv 4 (.c (.i .i64 0))⟩])
 (.seq (.reg [⟨none, .mv 5 (.t 0)⟩,
 ⟨none, .mv 6 (.t 1)⟩,
 ⟨none, .bin 7 .sub (.t 5) (.t 6)⟩,
 ⟨none, .mv 4 (.t 7)⟩])
 (.ret))⟩
/- eliminant/polynomial.Lead$1 -/
def c_polynomial_Lead_1 : Fun := ⟨3, [.t 5],
 .seq (.reg [⟨none, .box 3 12 (.t 0)⟩,
 ⟨none, .box 4 12 (.t 1)⟩,
 ⟨none, .mv 5 (.c (.i .i64 0))⟩])
 (.seq (.reg [⟨none, .load 6 1 false (.t 2)⟩,
 ⟨none, .faddr 7 4 (.t 3)⟩,
 ⟨none, .load 8 8 true (.t 7)⟩,
 ⟨none, .faddr 9 4 (.t 4)⟩,
 ⟨none, .load 10 8 true (.t 9)⟩,
 ⟨none, .call (some 11) n_order_Cmp [.t 6, .t 8, .t 10]⟩,
 ⟨none, .mv 5 (.t 11)⟩])
 (.ret))⟩
/- slices.MaxFunc[eliminant/api.Poly,eliminant/api.Term] -/
def l_slices_MaxFunc_api_Poly_api_Term_0 : C :=
 .seq (.seq (.reg [⟨none, .mv 14 (.t 6)⟩,
 ⟨none, .mv 15 (.t 0)⟩,
 ⟨none, .len 16 (.t 15)⟩,
 ⟨none, .bin 17 .lss (.t 14) (.t 16)⟩])
 (.cond (.t 17) (.skip)
 (.exit 0)))
 (.seq (.block 1 (.seq (.reg [⟨none, .mv 20 (.t 1)⟩,
 ⟨none, .mv 21 (.t 0)⟩,
 ⟨none, .mv 22 (.t 6)⟩,
 ⟨none, .iaddrS 23 12 (.t 21) (.t 22)⟩,
 ⟨none, .load 24 12 true (.t 23)⟩,
 ⟨none, .load 25 12 true (.t 5)⟩,
 ⟨none, .callv (some 26) (.t 20) [.t 24, .t 25]⟩,
 ⟨none, .bin 27 .gtr (.t 26) (.c (.i .i64 0))⟩])
 (.cond (.t 27) (.reg [⟨none, .mv 28 (.t 0)⟩,
 ⟨none, .mv 29 (.t 6)⟩,
 ⟨none, .iaddrS 30 12 (.t 28) (.t 29)⟩,
 ⟨none, .load 31 12 true (.t 30)⟩,
 ⟨none, .store 12 (.t 5) (.t 31)⟩])
 (.skip))))
 (.reg [⟨none, .mv 18 (.t 6)⟩,
 ⟨none, .bin 19 .add (.t 18) (.c (.i .i64 1))⟩,
 ⟨none, .mv 6 (.t 19)⟩]))
def c_slices_MaxFunc_api_Poly_api_Term : Fun := ⟨2, [.c 4 12 true],
 .seq (.reg [⟨none, .alloc 4 [.b false, .nil, .b false, .nil, .i .i64 0, .i .i64 0, .i .i64 0, .i .i64 0, .i .i64 0, .i .i64 0, .i .i64 0, .i .i64 0]⟩])
 (.seq (.seq (.reg [⟨none, .mv 7 (.t 0)⟩,
 ⟨none, .len 8 (.t 7)⟩,
 ⟨none, .bin 9 .lss (.t 8) (.c (.i .i64 1))⟩])
 (.cond (.t 9) (.reg [⟨none, .fail (some 10)⟩,
 ⟨none, .fail none⟩])
 (.skip)))
 (.seq (.reg [⟨none, .mv 11 (.t 0)⟩,
 ⟨none, .iaddrS 12 12 (.t 11) (.c (.i .i64 0))⟩,
 ⟨none, .load 13 12 true (.t 12)⟩,
 ⟨none, .alloc 5 [.b false, .nil, .b false, .nil, .i .i64 0, .i .i64 0, .i .i64 0, .i .i64 0, .i .i64 0, .i .i64 0, .i .i64 0, .i .i64 0]⟩,
 ⟨none, .store 12 (.t 5) (.t 13)⟩])
 (.seq (.seq (.reg [⟨none, .mv 6 (.c (.i .i64 1))⟩])
 (.block 0 (.loop l_slices_MaxFunc_api_Poly_api_Term_0)))
 (.seq (.reg [⟨none, .load 32 12 true (.t 5)⟩,
 ⟨none, .store 12 (.t 4) (.t 32)⟩])
 (.ret)))))⟩
/- eliminant/polynomial.Constant -/
def c_polynomial_Constant : Fun := ⟨1, [.t 2],
 .seq (.reg [⟨none, .box 1 4 (.t 0)⟩,
 ⟨none, .mv 2 (.c (.nil))⟩])
 (.seq (.seq (.reg [⟨none, .load 3 4 true (.t 1)⟩,
 ⟨none, .call (some 4) n_rational_Sign [.t 3]⟩,
 ⟨none, .bin 5 .eql (.t 4) (.c (.i .i64 0))⟩])
 (.cond (.t 5) (.seq (.reg [⟨none, .mv 2 (.c (.nil))⟩])
 (.ret))
 (.skip)))
 (.seq (.reg [⟨none, .load 6 4 true (.t 1)⟩,
 ⟨none, .build 7 [.b false, .nil, .b false, .nil, .i .i64 0, .i .i64 0, .i .i64 0, .i .i64 0, .i .i64 0, .i .i64 0, .i .i64 0, .i .i64 0] [(0, 4, .t 6)]⟩,
 ⟨none, .bslice 8 1 12 [.b false, .sl 0 [], .b false, .sl 0 [], .i .i64 0, .i .i64 0, .i .i64 0, .i .i64 0, .i .i64 0, .i .i64 0, .i .i64 0, .i .i64 0] [(0, 12, .t 7)]⟩,
 ⟨none, .mv 2 (.t 8)⟩])
 (.ret)))⟩
/- eliminant/division.divide -/
def l_division_divide_0 : C :=
 .seq (.reg [⟨none, .bin 32 .lss (.t 31) (.t 30)⟩])
 (.seq (.cond (.t 32) (.skip)
 (.exit 2))
 (.seq (.block 3 (.seq (.reg [⟨none, .mv 33 (.t 31)⟩,
 ⟨none, .iaddrS 34 13 (.t 29) (.t 31)⟩,
 ⟨none, .load 35 13 true (.t 34)⟩,
 ⟨none, .alloc 15 [.b false, .nil, .b false, .nil, .i .i64 0, .i .i64 0, .i .i64 0, .i .i64 0, .i .i64 0, .i .i64 0, .i .i64 0, .i .i64 0, .b false]⟩,
 ⟨none, .mv 14 (.t 33)⟩,
 ⟨none, .store 13 (.t 15) (.t 35)⟩])
 (.seq (.reg [⟨none, .faddr 36 12 (.t 15)⟩,
 ⟨none, .load 37 1 false (.t 36)⟩,
 ⟨none, .mv 38 (.t 37)⟩,
 ⟨some (38, true, 39), .faddr 39 0 (.t 15)⟩,
 ⟨some (38, true, 40), .faddr 40 4 (.t 39)⟩,
 ⟨some (38, true, 41), .load 41 8 true (.t 40)⟩,
 ⟨some (38, true, 42), .faddr 42 4 (.t 13)⟩,
 ⟨some (38, true, 43), .load 43 8 true (.t 42)⟩,
 ⟨some (38, true, 44), .call (some 44) n_monomial_Divides [.t 41, .t 43]⟩,
 ⟨none, .pick 45 (.t 38) (.t 44) (.c (.b false))⟩])
 (.cond (.t 45) (.seq (.reg [⟨none, .load 46 13 true (.t 15)⟩,
 ⟨none, .load 47 12 true (.t 13)⟩,
 ⟨none, .call (some 48) n_division_lead_under [.t 46, .t 47]⟩,
 ⟨none, .alloc 16 [.b false, .nil, .b false, .nil, .i .i64 0, .i .i64 0, .i .i64 0, .i .i64 0, .i .i64 0, .i .i64 0, .i .i64 0, .i .i64 0]⟩,
 ⟨none, .store 12 (.t 16) (.t 48)⟩])
 (.seq (.reg [⟨none, .faddr 50 0 (.t 16)⟩,
 ⟨none, .load 51 4 true (.t 50)⟩,
 ⟨none, .faddr 52 4 (.t 16)⟩,
 ⟨none, .load 53 8 true (.t 52)⟩,
 ⟨none, .mv 54 (.t 1)⟩,
 ⟨none, .mv 55 (.t 14)⟩,
 ⟨none, .iaddrS 56 1 (.t 54) (.t 55)⟩,
 ⟨none, .load 57 1 false (.t 56)⟩,
 ⟨none, .call (some 58) n_polynomial_Times [.t 51, .t 53, .t 57]⟩,
 ⟨none, .mv 49 (.t 58)⟩,
 ⟨none, .ext 59 0 (.t 49)⟩,
 ⟨none, .ext 60 1 (.t 49)⟩,
 ⟨none, .mv 17 (.t 59)⟩,
 ⟨none, .mv 18 (.t 60)⟩])
 (.seq (.seq (.reg [⟨none, .mv 61 (.t 18)⟩,
 ⟨none, .bin 62 .neq (.t 61) (.c (.i .i64 0))⟩])
 (.cond (.t 62) (.seq (.reg [⟨none, .mv 8 (.c (.nil))⟩,
 ⟨none, .mv 9 (.c (.nil))⟩,
 ⟨none, .mv 10 (.c (.i .i64 2))⟩])
 (.ret))
 (.skip)))
 (.seq (.reg [⟨none, .mv 63 (.t 11)⟩,
 ⟨none, .mv 64 (.t 14)⟩,
 ⟨none, .mv 65 (.t 11)⟩,
 ⟨none, .mv 66 (.t 14)⟩,
 ⟨none, .iaddrS 67 1 (.t 65) (.t 66)⟩,
 ⟨none, .load 68 1 false (.t 67)⟩,
 ⟨none, .load 69 12 true (.t 16)⟩,
 ⟨none, .bslice 70 1 12 [.b false, .sl 0 [], .b false, .sl 0 [], .i .i64 0, .i .i64 0, .i .i64 0, .i .i64 0, .i .i64 0, .i .i64 0, .i .i64 0, .i .i64 0] [(0, 12, .t 69)]⟩,
 ⟨none, .call (some 71) n_polynomial_Add [.t 68, .t 70]⟩,
 ⟨none, .mv 72 (.t 0)⟩,
 ⟨none, .mv 73 (.t 17)⟩,
 ⟨none, .call (some 74) n_polynomial_Sub [.t 72, .t 73]⟩,
 ⟨none, .iaddrS 75 1 (.t 63) (.t 64)⟩,
 ⟨none, .store 1 (.t 75) (.t 71)⟩,
 ⟨none, .mv 0 (.t 74)⟩])
 (.exit 1)))))
 (.skip)))))
 (.reg [⟨none, .bin 76 .add (.t 31) (.c (.i .i64 1))⟩,
 ⟨none, .mv 31 (.t 76)⟩])))
def l_division_divide_1 : C :=
 .seq (.seq (.reg [⟨none, .mv 22 (.t 0)⟩,
 ⟨none, .len 23 (.t 22)⟩,
 ⟨none, .bin 24 .gtr (.t 23) (.c (.i .i64 0))⟩])
 (.cond (.t 24) (.skip)
 (.exit 0)))
 (.block 1 (.seq (.reg [⟨none, .mv 25 (.t 0)⟩,
 ⟨none, .mv 26 (.t 3)⟩,
 ⟨none, .call (some 27) n_division_leadOf [.t 25, .t 26]⟩,
 ⟨none, .fld 28 0 12 true (.t 27)⟩,
 ⟨none, .alloc 13 [.b false, .nil, .b false, .nil, .i .i64 0, .i .i64 0, .i .i64 0, .i .i64 0, .i .i64 0, .i .i64 0, .i .i64 0, .i .i64 0]⟩,
 ⟨none, .store 12 (.t 13) (.t 28)⟩])
 (.seq (.seq (.reg [⟨none, .mv 29 (.t 2)⟩,
 ⟨none, .len 30 (.t 29)⟩,
 ⟨none, .mv 31 (.c (.i .i64 0))⟩])
 (.block 2 (.loop l_division_divide_0)))
 (.reg [⟨none, .mv 77 (.t 12)⟩,
 ⟨none, .load 78 12 true (.t 13)⟩,
 ⟨none, .bslice 79 1 12 [.b false, .sl 0 [], .b false, .sl 0 [], .i .i64 0, .i .i64 0, .i .i64 0, .i .i64 0, .i .i64 0, .i .i64 0, .i .i64 0, .i .i64 0] [(0, 12, .t 78)]⟩,
 ⟨none, .call (some 80) n_polynomial_Add [.t 77, .t 79]⟩,
 ⟨none, .mv 81 (.t 0)⟩,
 ⟨none, .load 82 12 true (.t 13)⟩,
 ⟨none, .bslice 83 1 12 [.b false, .sl 0 [], .b false, .sl 0 [], .i .i64 0, .i .i64 0, .i .i64 0, .i .i64 0, .i .i64 0, .i .i64 0, .i .i64 0, .i .i64 0] [(0, 12, .t 82)]⟩,
 ⟨none, .call (some 84) n_polynomial_Sub [.t 81, .t 83]⟩,
 ⟨none, .mv 12 (.t 80)⟩,
 ⟨none, .mv 0 (.t 84)⟩]))))
def c_division_divide : Fun := ⟨4, [.t 8, .t 9, .t 10],
 .seq (.reg [⟨none, .mv 8 (.c (.nil))⟩,
 ⟨none, .mv 9 (.c (.nil))⟩,
 ⟨none, .mv 10 (.c (.i .i64 0))⟩])
 (.scope (.seq (.reg [⟨none, .mv 19 (.t 1)⟩,
 ⟨none, .len 20 (.t 19)⟩,
 ⟨none, .mkslice 21 1 [.sl 0 []] (.t 20) (.t 20)⟩,
 ⟨none, .mv 11 (.t 21)⟩])
 (.seq (.reg [⟨none, .mv 12 (.c (.nil))⟩])
 (.seq (.skip)
 (.seq (.block 0 (.loop l_division_divide_1))
 (.seq (.reg [⟨none, .mv 85 (.t 11)⟩,
 ⟨none, .mv 86 (.t 12)⟩,
 ⟨none, .mv 8 (.t 85)⟩,
 ⟨none, .mv 9 (.t 86)⟩,
 ⟨none, .mv 10 (.c (.i .i64 0))⟩])
 (.ret)))))))⟩
/- eliminant/division.leadsOf -/
def l_division_leadsOf_0 : C :=
 .seq (.reg [⟨none, .bin 14 .lss (.t 13) (.t 12)⟩])
 (.seq (.cond (.t 14) (.skip)
 (.exit 0))
 (.seq (.block 1 (.seq (.reg [⟨none, .mv 15 (.t 13)⟩,
 ⟨none, .iaddrS 16 1 (.t 11) (.t 13)⟩,
 ⟨none, .load 17 1 false (.t 16)⟩,
 ⟨none, .mv 6 (.t 15)⟩,
 ⟨none, .mv 7 (.t 17)⟩])
 (.reg [⟨none, .mv 18 (.t 5)⟩,
 ⟨none, .mv 19 (.t 6)⟩,
 ⟨none, .mv 20 (.t 7)⟩,
 ⟨none, .mv 21 (.t 1)⟩,
 ⟨none, .call (some 22) n_division_leadOf [.t 20, .t 21]⟩,
 ⟨none, .iaddrS 23 13 (.t 18) (.t 19)⟩,
 ⟨none, .store 13 (.t 23) (.t 22)⟩])))
 (.reg [⟨none, .bin 24 .add (.t 13) (.c (.i .i64 1))⟩,
 ⟨none, .mv 13 (.t 24)⟩])))
def c_division_leadsOf : Fun := ⟨2, [.t 4],
 .seq (.reg [⟨none, .mv 4 (.c (.nil))⟩])
 (.seq (.reg [⟨none, .mv 8 (.t 0)⟩,
 ⟨none, .len 9 (.t 8)⟩,
 ⟨none, .mkslice 10 13 [.b false, .sl 0 [], .b false, .sl 0 [], .i .i64 0, .i .i64 0, .i .i64 0, .i .i64 0, .i .i64 0, .i .i64 0, .i .i64 0, .i .i64 0, .b false] (.t 9) (.t 9)⟩,
 ⟨none, .mv 5 (.t 10)⟩])
 (.seq (.seq (.reg [⟨none, .mv 11 (.t 0)⟩,
 ⟨none, .len 12 (.t 11)⟩,
 ⟨none, .mv 13 (.c (.i .i64 0))⟩])
 (.block 0 (.loop l_division_leadsOf_0)))
 (.seq (.reg [⟨none, .mv 25 (.t 5)⟩,
 ⟨none, .mv 4 (.t 25)⟩])
 (.ret))))⟩
/- eliminant/division.leadOf -/
def c_division_leadOf : Fun := ⟨2, [.c 4 13 true],
 .seq (.reg [⟨none, .alloc 4 [.b false, .nil, .b false, .nil, .i .i64 0, .i .i64 0, .i .i64 0, .i .i64 0, .i .i64 0, .i .i64 0, .i .i64 0, .i .i64 0, .b false]⟩])
 (.seq (.reg [⟨none, .mv 8 (.t 0)⟩,
 ⟨none, .mv 9 (.t 1)⟩,
 ⟨none, .call (some 10) n_polynomial_Lead [.t 8, .t 9]⟩,
 ⟨none, .mv 7 (.t 10)⟩,
 ⟨none, .ext 11 0 (.t 7)⟩,
 ⟨none, .ext 12 1 (.t 7)⟩,
 ⟨none, .alloc 5 [.b false, .nil, .b false, .nil, .i .i64 0, .i .i64 0, .i .i64 0, .i .i64 0, .i .i64 0, .i .i64 0, .i .i64 0, .i .i64 0]⟩,
 ⟨none, .store 12 (.t 5) (.t 11)⟩,
 ⟨none, .mv 6 (.t 12)⟩])
 (.seq (.reg [⟨none, .load 13 12 true (.t 5)⟩,
 ⟨none, .mv 14 (.t 6)⟩,
 ⟨none, .build 15 [.b false, .nil, .b false, .nil, .i .i64 0, .i .i64 0, .i .i64 0, .i .i64 0, .i .i64 0, .i .i64 0, .i .i64 0, .i .i64 0, .b false] [(0, 12, .t 13), (12, 1, .t 14)]⟩,
 ⟨none, .store 13 (.t 4) (.t 15)⟩])
 (.ret)))⟩
/- (eliminant/division.lead).under -/
def c_division_lead_under : Fun := ⟨2, [.c 4 12 true],
 .seq (.reg [⟨none, .box 2 13 (.t 0)⟩,
 ⟨none, .box 3 12 (.t 1)⟩,
 ⟨none, .alloc 4 [.b false, .nil, .b false, .nil, .i .i64 0, .i .i64 0, .i .i64 0, .i .i64 0, .i .i64 0, .i .i64 0, .i .i64 0, .i .i64 0]⟩])
 (.seq (.reg [⟨none, .faddr 10 0 (.t 3)⟩,
 ⟨none, .load 11 4 true (.t 10)⟩,
 ⟨none, .faddr 12 0 (.t 2)⟩,
 ⟨none, .faddr 13 0 (.t 12)⟩,
 ⟨none, .load 14 4 true (.t 13)⟩,
 ⟨none, .call (some 15) n_rational_Div [.t 11, .t 14]⟩,
 ⟨none, .mv 9 (.t 15)⟩,
 ⟨none, .ext 16 0 (.t 9)⟩,
 ⟨none, .ext 17 1 (.t 9)⟩,
 ⟨none, .alloc 5 [.b false, .nil, .b false, .nil]⟩,
 ⟨none, .store 4 (.t 5) (.t 16)⟩,
 ⟨none, .mv 6 (.t 17)⟩])
 (.seq (.reg [⟨none, .faddr 19 4 (.t 3)⟩,
 ⟨none, .load 20 8 true (.t 19)⟩,
 ⟨none, .faddr 21 0 (.t 2)⟩,
 ⟨none, .faddr 22 4 (.t 21)⟩,
 ⟨none, .load 23 8 true (.t 22)⟩,
 ⟨none, .call (some 24) n_monomial_Quo [.t 20, .t 23]⟩,
 ⟨none, .mv 18 (.t 24)⟩,
 ⟨none, .ext 25 0 (.t 18)⟩,
 ⟨none, .ext 26 1 (.t 18)⟩,
 ⟨none, .alloc 7 [.i .i64 0, .i .i64 0, .i .i64 0, .i .i64 0, .i .i64 0, .i .i64 0, .i .i64 0, .i .i64 0]⟩,
 ⟨none, .store 8 (.t 7) (.t 25)⟩,
 ⟨none, .mv 8 (.t 26)⟩])
 (.seq (.reg [⟨none, .load 27 4 true (.t 5)⟩,
 ⟨none, .load 28 8 true (.t 7)⟩,
 ⟨none, .build 29 [.b false, .nil, .b false, .nil, .i .i64 0, .i .i64 0, .i .i64 0, .i .i64 0, .i .i64 0, .i .i64 0, .i .i64 0, .i .i64 0] [(0, 4, .t 27), (4, 8, .t 28)]⟩,
 ⟨none, .store 12 (.t 4) (.t 29)⟩])
 (.ret))))⟩
/- eliminant/polynomial.Times -/
def l_polynomial_Times_0 : C :=
 .seq (.reg [⟨none, .bin 22 .lss (.t 21) (.t 20)⟩])
 (.seq (.cond (.t 22) (.skip)
 (.exit 0))
 (.seq (.block 1 (.seq (.reg [⟨none, .mv 23 (.t 21)⟩,
 ⟨none, .iaddrS 24 12 (.t 19) (.t 21)⟩,
 ⟨none, .load 25 12 true (.t 24)⟩,
 ⟨none, .alloc 10 [.b false, .nil, .b false, .nil, .i .i64 0, .i .i64 0, .i .i64 0, .i .i64 0, .i .i64 0, .i .i64 0, .i .i64 0, .i .i64 0]⟩,
 ⟨none, .mv 9 (.t 23)⟩,
 ⟨none, .store 12 (.t 10) (.t 25)⟩])
 (.seq (.reg [⟨none, .load 27 8 true (.t 4)⟩,
 ⟨none, .faddr 28 4 (.t 10)⟩,
 ⟨none, .load 29 8 true (.t 28)⟩,
 ⟨none, .call (some 30) n_monomial_Mul [.t 27, .t 29]⟩,
 ⟨none, .mv 26 (.t 30)⟩,
 ⟨none, .ext 31 0 (.t 26)⟩,
 ⟨none, .ext 32 1 (.t 26)⟩,
 ⟨none, .alloc 11 [.i .i64 0, .i .i64 0, .i .i64 0, .i .i64 0, .i .i64 0, .i .i64 0, .i .i64 0, .i .i64 0]⟩,
 ⟨none, .store 8 (.t 11) (.t 31)⟩,
 ⟨none, .mv 12 (.t 32)⟩])
 (.seq (.seq (.reg [⟨none, .mv 33 (.t 12)⟩,
 ⟨none, .bin 34 .neq (.t 33) (.c (.i .i64 0))⟩])
 (.cond (.t 34) (.seq (.reg [⟨none, .mv 6 (.c (.nil))⟩,
 ⟨none, .mv 7 (.c (.i .i64 2))⟩])
 (.ret))
 (.skip)))
 (.reg [⟨none, .mv 35 (.t 8)⟩,
 ⟨none, .mv 36 (.t 9)⟩,
 ⟨none, .load 37 4 true (.t 3)⟩,
 ⟨none, .faddr 38 0 (.t 10)⟩,
 ⟨none, .load 39 4 true (.t 38)⟩,
 ⟨none, .call (some 40) n_rational_Mul [.t 37, .t 39]⟩,
 ⟨none, .load 41 8 true (.t 11)⟩,
 ⟨none, .build 42 [.b false, .nil, .b false, .nil, .i .i64 0, .i .i64 0, .i .i64 0, .i .i64 0, .i .i64 0, .i .i64 0, .i .i64 0, .i .i64 0] [(0, 4, .t 40), (4, 8, .t 41)]⟩,
 ⟨none, .iaddrS 43 12 (.t 35) (.t 36)⟩,
 ⟨none, .store 12 (.t 43) (.t 42)⟩])))))
 (.reg [⟨none, .bin 44 .add (.t 21) (.c (.i .i64 1))⟩,
 ⟨none, .mv 21 (.t 44)⟩])))
def c_polynomial_Times : Fun := ⟨3, [.t 6, .t 7],
 .seq (.reg [⟨none, .box 3 4 (.t 0)⟩,
 ⟨none, .box 4 8 (.t 1)⟩,
 ⟨none, .mv 6 (.c (.nil))⟩,
 ⟨none, .mv 7 (.c (.i .i64 0))⟩])
 (.seq (.seq (.reg [⟨none, .load 13 4 true (.t 3)⟩,
 ⟨none, .call (some 14) n_rational_Sign [.t 13]⟩,
 ⟨none, .bin 15 .eql (.t 14) (.c (.i .i64 0))⟩])
 (.cond (.t 15) (.seq (.reg [⟨none, .mv 6 (.c (.nil))⟩,
 ⟨none, .mv 7 (.c (.i .i64 0))⟩])
 (.ret))
 (.skip)))
 (.seq (.reg [⟨none, .mv 16 (.t 2)⟩,
 ⟨none, .len 17 (.t 16)⟩,
 ⟨none, .mkslice 18 12 [.b false, .sl 0 [], .b false, .sl 0 [], .i .i64 0, .i .i64 0, .i .i64 0, .i .i64 0, .i .i64 0, .i .i64 0, .i .i64 0, .i .i64 0] (.t 17) (.t 17)⟩,
 ⟨none, .mv 8 (.t 18)⟩])
 (.seq (.seq (.reg [⟨none, .mv 19 (.t 2)⟩,
 ⟨none, .len 20 (.t 19)⟩,
 ⟨none, .mv 21 (.c (.i .i64 0))⟩])
 (.block 0 (.loop l_polynomial_Times_0)))
 (.seq (.reg [⟨none, .mv 45 (.t 8)⟩,
 ⟨none, .mv 6 (.t 45)⟩,
 ⟨none, .mv 7 (.c (.i .i64 0))⟩])
 (.ret)))))⟩
/- slices.IndexFunc[[]eliminant/api.Poly,eliminant/api.Poly] -/
def l_slices_IndexFunc_api_Poly_api_Poly_0 : C :=
 .seq (.reg [⟨none, .bin 9 .lss (.t 8) (.t 7)⟩])
 (.seq (.cond (.t 9) (.skip)
 (.exit 0))
 (.seq (.block 1 (.seq (.reg [⟨none, .mv 10 (.t 8)⟩,
 ⟨none, .mv 5 (.t 10)⟩])
 (.seq (.reg [⟨none, .mv 11 (.t 1)⟩,
 ⟨none, .mv 12 (.t 0)⟩,
 ⟨none, .mv 13 (.t 5)⟩,
 ⟨none, .iaddrS 14 1 (.t 12) (.t 13)⟩,
 ⟨none, .load 15 1 false (.t 14)⟩,
 ⟨none, .callv (some 16) (.t 11) [.t 15]⟩])
 (.cond (.t 16) (.seq (.reg [⟨none, .mv 17 (.t 5)⟩,
 ⟨none, .mv 4 (.t 17)⟩])
 (.ret))
 (.skip)))))
 (.reg [⟨none, .bin 18 .add (.t 8) (.c (.i .i64 1))⟩,
 ⟨none, .mv 8 (.t 18)⟩])))
def c_slices_IndexFunc_api_Poly_api_Poly : Fun := ⟨2, [.t 4],
 .seq (.reg [⟨none, .mv 4 (.c (.i .i64 0))⟩])
 (.seq (.seq (.reg [⟨none, .mv 6 (.t 0)⟩,
 ⟨none, .len 7 (.t 6)⟩,
 ⟨none, .mv 8 (.c (.i .i64 0))⟩])
 (.block 0 (.loop l_slices_IndexFunc_api_Poly_api_Poly_0)))
 (.seq (.reg [⟨none, .mv 4 (.c (.i .i64 (-1)))⟩])
 (.ret)))⟩
/- eliminant/monomial.Gcd -/
def c_monomial_Gcd : Fun := ⟨2, [.c 4 8 true],
 .seq (.reg [⟨none, .box 2 8 (.t 0)⟩,
 ⟨none, .box 3 8 (.t 1)⟩,
 ⟨none, .alloc 4 [.i .i64 0, .i .i64 0, .i .i64 0, .i .i64 0, .i .i64 0, .i .i64 0, .i .i64 0, .i .i64 0]⟩])
 (.seq (.reg [⟨none, .load 5 8 true (.t 2)⟩,
 ⟨none, .load 6 8 true (.t 3)⟩,
 ⟨none, .call (some 7) n_monomial_each [.t 5, .t 6, .c (.fn n_monomial_Gcd_1 [])]⟩,
 ⟨none, .store 8 (.t 4) (.t 7)⟩])
 (.ret))⟩
/- eliminant/monomial.Gcd$1 -/
def c_monomial_Gcd_1 : Fun := ⟨2, [.t 4],
 .seq (.reg [⟨none, .mv 4 (.c (.i .i64 0))⟩])
 (.seq (.reg [⟨none, .mv 5 (.t 0)⟩,
 ⟨none, .mv 6 (.t 1)⟩,
 ⟨none, .mnx 7 false (.t 5) (.t 6)⟩,
 ⟨none, .mv 4 (.t 7)⟩])
 (.ret))⟩
/- eliminant/monomial.Degree -/
/- eliminant/division.pairs -/
/- eliminant/division.pairs$1 -/
/- slices.SortFunc[eliminant/api.Poly,eliminant/api.Term] -/
def c_slices_SortFunc_api_Poly_api_Term : Fun := ⟨2, [],
 .seq (.reg [⟨none, .mv 5 (.t 0)⟩,
 ⟨none, .len 6 (.t 5)⟩,
 ⟨none, .mv 4 (.t 6)⟩])
 (.reg [⟨none, .mv 7 (.t 0)⟩,
 ⟨none, .mv 8 (.t 4)⟩,
 ⟨none, .mv 9 (.t 4)⟩,
 ⟨none, .conv 10 .u64 (.t 9)⟩,
 ⟨none, .call (some 11) n_math_bits_Len [.t 10]⟩,
 ⟨none, .mv 12 (.t 1)⟩,
 ⟨none, .call (some 13) n_slices_pdqsortCmpFunc_api_Term [.t 7, .c (.i .i64 0), .t 8, .t 11, .t 12]⟩])⟩
/- slices.pdqsortCmpFunc[eliminant/api.Term] -/
def l_slices_pdqsortCmpFunc_api_Term_0 : C :=
 .block 1 (.seq (.reg [⟨none, .mv 21 (.t 2)⟩,
 ⟨none, .mv 22 (.t 1)⟩,
 ⟨none, .bin 23 .sub (.t 21) (.t 22)⟩,
 ⟨none, .mv 12 (.t 23)⟩])
 (.seq (.seq (.reg [⟨none, .mv 24 (.t 12)⟩,
 ⟨none, .bin 25 .leq (.t 24) (.c (.i .i64 12))⟩])
 (.cond (.t 25) (.seq (.reg [⟨none, .mv 26 (.t 0)⟩,
 ⟨none, .mv 27 (.t 1)⟩,
 ⟨none, .mv 28 (.t 2)⟩,
 ⟨none, .mv 29 (.t 4)⟩,
 ⟨none, .call (some 30) n_slices_insertionSortCmpFunc_api_Term [.t 26, .t 27, .t 28, .t 29]⟩])
 (.ret))
 (.skip)))
 (.seq (.seq (.reg [⟨none, .mv 31 (.t 3)⟩,
 ⟨none, .bin 32 .eql (.t 31) (.c (.i .i64 0))⟩])
 (.cond (.t 32) (.seq (.reg [⟨none, .mv 33 (.t 0)⟩,
 ⟨none, .mv 34 (.t 1)⟩,
 ⟨none, .mv 35 (.t 2)⟩,
 ⟨none, .mv 36 (.t 4)⟩,
 ⟨none, .call (some 37) n_slices_heapSortCmpFunc_api_Term [.t 33, .t 34, .t 35, .t 36]⟩])
 (.ret))
 (.skip)))
 (.seq (.seq (.reg [⟨none, .mv 38 (.t 10)⟩,
 ⟨none, .un 39 .not (.t 38)⟩])
 (.cond (.t 39) (.seq (.reg [⟨none, .mv 40 (.t 0)⟩,
 ⟨none, .mv 41 (.t 1)⟩,
 ⟨none, .mv 42 (.t 2)⟩,
 ⟨none, .mv 43 (.t 4)⟩,
 ⟨none, .call (some 44) n_slices_breakPatternsCmpFunc_api_Term [.t 40, .t 41, .t 42, .t 43]⟩])
 (.reg [⟨none, .mv 45 (.t 3)⟩,
 ⟨none, .bin 46 .sub (.t 45) (.c (.i .i64 1))⟩,
 ⟨none, .mv 3 (.t 46)⟩]))
 (.skip)))
 (.seq (.reg [⟨none, .mv 48 (.t 0)⟩,
 ⟨none, .mv 49 (.t 1)⟩,
 ⟨none, .mv 50 (.t 2)⟩,
 ⟨none, .mv 51 (.t 4)⟩,
 ⟨none, .call (some 52) n_slices_choosePivotCmpFunc_api_Term [.t 48, .t 49, .t 50, .t 51]⟩,
 ⟨none, .mv 47 (.t 52)⟩,
 ⟨none, .ext 53 0 (.t 47)⟩,
 ⟨none, .ext 54 1 (.t 47)⟩,
 ⟨none, .mv 13 (.t 53)⟩,
 ⟨none, .mv 14 (.t 54)⟩])
 (.seq (.seq (.reg [⟨none, .mv 55 (.t 14)⟩,
 ⟨none, .bin 56 .eql (.t 55) (.c (.i .i64 2))⟩])
 (.cond (.t 56) (.seq (.reg [⟨none, .mv 57 (.t 0)⟩,
 ⟨none, .mv 58 (.t 1)⟩,
 ⟨none, .mv 59 (.t 2)⟩,
 ⟨none, .mv 60 (.t 4)⟩,
 ⟨none, .call (some 61) n_slices_reverseRangeCmpFunc_api_Term [.t 57, .t 58, .t 59, .t 60]⟩])
 (.seq (.reg [⟨none, .mv 62 (.t 2)⟩,
 ⟨none, .bin 63 .sub (.t 62) (.c (.i .i64 1))⟩,
 ⟨none, .mv 64 (.t 13)⟩,
 ⟨none, .mv 65 (.t 1)⟩,
 ⟨none, .bin 66 .sub (.t 64) (.t 65)⟩,
 ⟨none, .bin 67 .sub (.t 63) (.t 66)⟩,
 ⟨none, .mv 13 (.t 67)⟩])
 (.reg [⟨none, .mv 14 (.c (.i .i64 1))⟩])))
 (.skip)))
 (.seq (.seq (.reg [⟨none, .mv 68 (.t 10)⟩,
 ⟨none, .mv 69 (.t 68)⟩,
 ⟨some (69, true, 70), .mv 70 (.t 11)⟩,
 ⟨none, .pick 71 (.t 69) (.t 70) (.c (.b false))⟩,
 ⟨none, .mv 72 (.t 71)⟩,
 ⟨some (72, true, 73), .mv 73 (.t 14)⟩,
 ⟨some (72, true, 74), .bin 74 .eql (.t 73) (.c (.i .i64 1))⟩,
 ⟨none, .pick 75 (.t 72) (.t 74) (.c (.b false))⟩])
 (.cond (.t 75) (.seq (.reg [⟨none, .mv 76 (.t 0)⟩,
 ⟨none, .mv 77 (.t 1)⟩,
 ⟨none, .mv 78 (.t 2)⟩,
 ⟨none, .mv 79 (.t 4)⟩,
 ⟨none, .call (some 80) n_slices_partialInsertionSortCmpFunc_api_Term [.t 76, .t 77, .t 78, .t 79]⟩])
 (.cond (.t 80) (.ret)
 (.skip)))
 (.skip)))
 (.seq (.seq (.reg [⟨none, .mv 81 (.t 1)⟩,
 ⟨none, .bin 82 .gtr (.t 81) (.c (.i .i64 0))⟩,
 ⟨none, .mv 83 (.t 82)⟩,
 ⟨some (83, true, 84), .mv 84 (.t 4)⟩,
 ⟨some (83, true, 85), .mv 85 (.t 0)⟩,
 ⟨some (83, true, 86), .mv 86 (.t 1)⟩,
 ⟨some (83, true, 87), .bin 87 .sub (.t 86) (.c (.i .i64 1))⟩,
 ⟨some (83, true, 88), .iaddrS 88 12 (.t 85) (.t 87)⟩,
 ⟨some (83, true, 89), .load 89 12 true (.t 88)⟩,
 ⟨some (83, true, 90), .mv 90 (.t 0)⟩,
 ⟨some (83, true, 91), .mv 91 (.t 13)⟩,
 ⟨some (83, true, 92), .iaddrS 92 12 (.t 90) (.t 91)⟩,
 ⟨some (83, true, 93), .load 93 12 true (.t 92)⟩,
 ⟨some (83, true, 94), .callv (some 94) (.t 84) [.t 89, .t 93]⟩,
 ⟨some (83, true, 95), .bin 95 .lss (.t 94) (.c (.i .i64 0))⟩,
 ⟨some (83, true, 96), .un 96 .not (.t 95)⟩,
 ⟨none, .pick 97 (.t 83) (.t 96) (.c (.b false))⟩])
 (.cond (.t 97) (.seq (.reg [⟨none, .mv 98 (.t 0)⟩,
 ⟨none, .mv 99 (.t 1)⟩,
 ⟨none, .mv 100 (.t 2)⟩,
 ⟨none, .mv 101 (.t 13)⟩,
 ⟨none, .mv 102 (.t 4)⟩,
 ⟨none, .call (some 103) n_slices_partitionEqualCmpFunc_api_Term [.t 98, .t 99, .t 100, .t 101, .t 102]⟩,
 ⟨none, .mv 15 (.t 103)⟩])
 (.seq (.reg [⟨none, .mv 104 (.t 15)⟩,
 ⟨none, .mv 1 (.t 104)⟩])
 (.exit 1)))
 (.skip)))
 (.seq (.reg [⟨none, .mv 106 (.t 0)⟩,
 ⟨none, .mv 107 (.t 1)⟩,
 ⟨none, .mv 108 (.t 2)⟩,
 ⟨none, .mv 109 (.t 13)⟩,
 ⟨none, .mv 110 (.t 4)⟩,
 ⟨none, .call (some 111) n_slices_partitionCmpFunc_api_Term [.t 106, .t 107, .t 108, .t 109, .t 110]⟩,
 ⟨none, .mv 105 (.t 111)⟩,
 ⟨none, .ext 112 0 (.t 105)⟩,
 ⟨none, .ext 113 1 (.t 105)⟩,
 ⟨none, .mv 16 (.t 112)⟩,
 ⟨none, .mv 17 (.t 113)⟩])
 (.seq (.reg [⟨none, .mv 114 (.t 17)⟩,
 ⟨none, .mv 11 (.t 114)⟩])
 (.seq (.reg [⟨none, .mv 115 (.t 16)⟩,
 ⟨none, .mv 116 (.t 1)⟩,
 ⟨none, .bin 117 .sub (.t 115) (.t 116)⟩,
 ⟨none, .mv 118 (.t 2)⟩,
 ⟨none, .mv 119 (.t 16)⟩,
 ⟨none, .bin 120 .sub (.t 118) (.t 119)⟩,
 ⟨none, .mv 18 (.t 117)⟩,
 ⟨none, .mv 19 (.t 120)⟩])
 (.seq (.reg [⟨none, .mv 121 (.t 12)⟩,
 ⟨none, .bin 122 .quo (.t 121) (.c (.i .i64 8))⟩,
 ⟨none, .mv 20 (.t 122)⟩])
 (.seq (.reg [⟨none, .mv 123 (.t 18)⟩,
 ⟨none, .mv 124 (.t 19)⟩,
 ⟨none, .bin 125 .lss (.t 123) (.t 124)⟩])
 (.cond (.t 125) (.seq (.reg [⟨none, .mv 126 (.t 18)⟩,
 ⟨none, .mv 127 (.t 20)⟩,
 ⟨none, .bin 128 .geq (.t 126) (.t 127)⟩,
 ⟨none, .mv 10 (.t 128)⟩])
 (.seq (.reg [⟨none, .mv 129 (.t 0)⟩,
 ⟨none, .mv 130 (.t 1)⟩,
 ⟨none, .mv 131 (.t 16)⟩,
 ⟨none, .mv 132 (.t 3)⟩,
 ⟨none, .mv 133 (.t 4)⟩,
 ⟨none, .call (some 134) n_slices_pdqsortCmpFunc_api_Term [.t 129, .t 130, .t 131, .t 132, .t 133]⟩])
 (.reg [⟨none, .mv 135 (.t 16)⟩,
 ⟨none, .bin 136 .add (.t 135) (.c (.i .i64 1))⟩,
 ⟨none, .mv 1 (.t 136)⟩])))
 (.seq (.reg [⟨none, .mv 137 (.t 19)⟩,
 ⟨none, .mv 138 (.t 20)⟩,
 ⟨none, .bin 139 .geq (.t 137) (.t 138)⟩,
 ⟨none, .mv 10 (.t 139)⟩])
 (.seq (.reg [⟨none, .mv 140 (.t 0)⟩,
 ⟨none, .mv 141 (.t 16)⟩,
 ⟨none, .bin 142 .add (.t 141) (.c (.i .i64 1))⟩,
 ⟨none, .mv 143 (.t 2)⟩,
 ⟨none, .mv 144 (.t 3)⟩,
 ⟨none, .mv 145 (.t 4)⟩,
 ⟨none, .call (some 146) n_slices_pdqsortCmpFunc_api_Term [.t 140, .t 142, .t 143, .t 144, .t 145]⟩])
 (.reg [⟨none, .mv 147 (.t 16)⟩,
 ⟨none, .mv 2 (.t 147)⟩])))))))))))))))))
def c_slices_pdqsortCmpFunc_api_Term : Fun := ⟨5, [],
 .seq (.reg [⟨none, .mv 10 (.c (.b true))⟩])
 (.seq (.reg [⟨none, .mv 11 (.c (.b true))⟩])
 (.block 0 (.loop l_slices_pdqsortCmpFunc_api_Term_0)))⟩
/- slices.insertionSortCmpFunc[eliminant/api.Term] -/
def l_slices_insertionSortCmpFunc_api_Term_0 : C :=
 .seq (.seq (.reg [⟨none, .mv 18 (.t 9)⟩,
 ⟨none, .mv 19 (.t 1)⟩,
 ⟨none, .bin 20 .gtr (.t 18) (.t 19)⟩,
 ⟨none, .mv 21 (.t 20)⟩,
 ⟨some (21, true, 22), .mv 22 (.t 3)⟩,
 ⟨some (21, true, 23), .mv 23 (.t 0)⟩,
 ⟨some (21, true, 24), .mv 24 (.t 9)⟩,
 ⟨some (21, true, 25), .iaddrS 25 12 (.t 23) (.t 24)⟩,
 ⟨some (21, true, 26), .load 26 12 true (.t 25)⟩,
 ⟨some (21, true, 27), .mv 27 (.t 0)⟩,
 ⟨some (21, true, 28), .mv 28 (.t 9)⟩,
 ⟨some (21, true, 29), .bin 29 .sub (.t 28) (.c (.i .i64 1))⟩,
 ⟨some (21, true, 30), .iaddrS 30 12 (.t 27) (.t 29)⟩,
 ⟨some (21, true, 31), .load 31 12 true (.t 30)⟩,
 ⟨some (21, true, 32), .callv (some 32) (.t 22) [.t 26, .t 31]⟩,
 ⟨some (21, true, 33), .bin 33 .lss (.t 32) (.c (.i .i64 0))⟩,
 ⟨none, .pick 34 (.t 21) (.t 33) (.c (.b false))⟩])
 (.cond (.t 34) (.skip)
 (.exit 2)))
 (.seq (.block 3 (.reg [⟨none, .mv 37 (.t 0)⟩,
 ⟨none, .mv 38 (.t 9)⟩,
 ⟨none, .mv 39 (.t 0)⟩,
 ⟨none, .mv 40 (.t 9)⟩,
 ⟨none, .bin 41 .sub (.t 40) (.c (.i .i64 1))⟩,
 ⟨none, .mv 42 (.t 0)⟩,
 ⟨none, .mv 43 (.t 9)⟩,
 ⟨none, .bin 44 .sub (.t 43) (.c (.i .i64 1))⟩,
 ⟨none, .iaddrS 45 12 (.t 42) (.t 44)⟩,
 ⟨none, .load 46 12 true (.t 45)⟩,
 ⟨none, .mv 47 (.t 0)⟩,
 ⟨none, .mv 48 (.t 9)⟩,
 ⟨none, .iaddrS 49 12 (.t 47) (.t 48)⟩,
 ⟨none, .load 50 12 true (.t 49)⟩,
 ⟨none, .iaddrS 51 12 (.t 37) (.t 38)⟩,
 ⟨none, .store 12 (.t 51) (.t 46)⟩,
 ⟨none, .iaddrS 52 12 (.t 39) (.t 41)⟩,
 ⟨none, .store 12 (.t 52) (.t 50)⟩]))
 (.reg [⟨none, .mv 35 (.t 9)⟩,
 ⟨none, .bin 36 .sub (.t 35) (.c (.i .i64 1))⟩,
 ⟨none, .mv 9 (.t 36)⟩]))
def l_slices_insertionSortCmpFunc_api_Term_1 : C :=
 .seq (.seq (.reg [⟨none, .mv 12 (.t 8)⟩,
 ⟨none, .mv 13 (.t 2)⟩,
 ⟨none, .bin 14 .lss (.t 12) (.t 13)⟩])
 (.cond (.t 14) (.skip)
 (.exit 0)))
 (.seq (.block 1 (.seq (.reg [⟨none, .mv 17 (.t 8)⟩,
 ⟨none, .mv 9 (.t 17)⟩])
 (.block 2 (.loop l_slices_insertionSortCmpFunc_api_Term_0))))
 (.reg [⟨none, .mv 15 (.t 8)⟩,
 ⟨none, .bin 16 .add (.t 15) (.c (.i .i64 1))⟩,
 ⟨none, .mv 8 (.t 16)⟩]))
def c_slices_insertionSortCmpFunc_api_Term : Fun := ⟨4, [],
 .seq (.reg [⟨none, .mv 10 (.t 1)⟩,
 ⟨none, .bin 11 .add (.t 10) (.c (.i .i64 1))⟩,
 ⟨none, .mv 8 (.t 11)⟩])
 (.block 0 (.loop l_slices_insertionSortCmpFunc_api_Term_1))⟩
/- math/bits.Len -/
def c_math_bits_Len : Fun := ⟨1, [.t 2],
 .seq (.reg [⟨none, .mv 2 (.c (.i .i64 0))⟩])
 (.seq (.cond (.c (.b false)) (.seq (.reg [⟨none, .mv 3 (.t 0)⟩,
 ⟨none, .conv 4 .u32 (.t 3)⟩,
 ⟨none, .call (some 5) n_math_bits_Len32 [.t 4]⟩,
 ⟨none, .mv 2 (.t 5)⟩])
 (.ret))
 (.skip))
 (.seq (.reg [⟨none, .mv 6 (.t 0)⟩,
 ⟨none, .call (some 7) n_math_bits_Len64 [.t 6]⟩,
 ⟨none, .mv 2 (.t 7)⟩])
 (.ret)))⟩
/- math/bits.Len64 -/
def c_math_bits_Len64 : Fun := ⟨1, [.t 2],
 .seq (.reg [⟨none, .mv 2 (.c (.i .i64 0))⟩])
 (.seq (.seq (.reg [⟨none, .mv 3 (.t 0)⟩,
 ⟨none, .bin 4 .geq (.t 3) (.c (.i .u64 4294967296))⟩])
 (.cond (.t 4) (.seq (.reg [⟨none, .mv 5 (.t 0)⟩,
 ⟨none, .bin 6 .shr (.t 5) (.c (.i .u64 32))⟩,
 ⟨none, .mv 0 (.t 6)⟩])
 (.reg [⟨none, .mv 2 (.c (.i .i64 32))⟩]))
 (.skip)))
 (.seq (.seq (.reg [⟨none, .mv 7 (.t 0)⟩,
 ⟨none, .bin 8 .geq (.t 7) (.c (.i .u64 65536))⟩])
 (.cond (.t 8) (.seq (.reg [⟨none, .mv 9 (.t 0)⟩,
 ⟨none, .bin 10 .shr (.t 9) (.c (.i .u64 16))⟩,
 ⟨none, .mv 0 (.t 10)⟩])
 (.reg [⟨none, .mv 11 (.t 2)⟩,
 ⟨none, .bin 12 .add (.t 11) (.c (.i .i64 16))⟩,
 ⟨none, .mv 2 (.t 12)⟩]))
 (.skip)))
 (.seq (.seq (.reg [⟨none, .mv 13 (.t 0)⟩,
 ⟨none, .bin 14 .geq (.t 13) (.c (.i .u64 256))⟩])
 (.cond (.t 14) (.seq (.reg [⟨none, .mv 15 (.t 0)⟩,
 ⟨none, .bin 16 .shr (.t 15) (.c (.i .u64 8))⟩,
 ⟨none, .mv 0 (.t 16)⟩])
 (.reg [⟨none, .mv 17 (.t 2)⟩,
 ⟨none, .bin 18 .add (.t 17) (.c (.i .i64 8))⟩,
 ⟨none, .mv 2 (.t 18)⟩]))
 (.skip)))
 (.seq (.reg [⟨none, .mv 19 (.t 2)⟩,
 ⟨none, .mv 20 (.t 0)⟩,
 ⟨none, .conv 21 .u8 (.t 20)⟩,
 ⟨none, .idxc 22 [0, 1, 2, 2, 3, 3, 3, 3, 4, 4, 4, 4, 4, 4, 4, 4, 5, 5, 5, 5, 5, 5, 5, 5, 5, 5, 5, 5, 5, 5, 5, 5, 6, 6, 6, 6, 6, 6, 6, 6, 6, 6, 6, 6, 6, 6, 6, 6, 6, 6, 6, 6, 6, 6, 6, 6, 6, 6, 6, 6, 6, 6, 6, 6, 7, 7, 7, 7, 7, 7, 7, 7, 7, 7, 7, 7, 7, 7, 7, 7, 7, 7, 7, 7, 7, 7, 7, 7, 7, 7, 7, 7, 7, 7, 7, 7, 7, 7, 7, 7, 7, 7, 7, 7, 7, 7, 7, 7, 7, 7, 7, 7, 7, 7, 7, 7, 7, 7, 7, 7, 7, 7, 7, 7, 7, 7, 7, 7, 8, 8, 8, 8, 8, 8, 8, 8, 8, 8, 8, 8, 8, 8, 8, 8, 8, 8, 8, 8, 8, 8, 8, 8, 8, 8, 8, 8, 8, 8, 8, 8, 8, 8, 8, 8, 8, 8, 8, 8, 8, 8, 8, 8, 8, 8, 8, 8, 8, 8, 8, 8, 8, 8, 8, 8, 8, 8, 8, 8, 8, 8, 8, 8, 8, 8, 8, 8, 8, 8, 8, 8, 8, 8, 8, 8, 8, 8, 8, 8, 8, 8, 8, 8, 8, 8, 8, 8, 8, 8, 8, 8, 8, 8, 8, 8, 8, 8, 8, 8, 8, 8, 8, 8, 8, 8, 8, 8, 8, 8, 8, 8, 8, 8, 8, 8, 8, 8, 8, 8, 8, 8, 8, 8, 8, 8, 8, 8] (.t 21)⟩,
 ⟨none, .conv 23 .i64 (.t 22)⟩,
 ⟨none, .bin 24 .add (.t 19) (.t 23)⟩,
 ⟨none, .mv 2 (.t 24)⟩])
 (.ret)))))⟩
end Go.Ev

/- Code of functions, printed from the translation by a program of mine. -/
set_option maxRecDepth 100000
namespace Go.Ev
/- eliminant/eliminantlaw17.examples -/
def c_law17_examples : Fun := ⟨0, [.t 0],
 .seq (.reg [⟨none, .mv 0 (.c (.b false))⟩])
 (.seq (.reg [⟨none, .call (some 26) n_law17_term [.c (.i .i64 1), .c (.i .i64 1), .c (.i .i64 0)]⟩,
 ⟨none, .call (some 27) n_law17_term [.c (.i .i64 1), .c (.i .i64 0), .c (.i .i64 1)]⟩,
 ⟨none, .call (some 28) n_law17_term [.c (.i .i64 1), .c (.i .i64 0), .c (.i .i64 0)]⟩,
 ⟨none, .mv 1 (.t 26)⟩,
 ⟨none, .mv 2 (.t 27)⟩,
 ⟨none, .mv 3 (.t 28)⟩])
 (.seq (.reg [⟨none, .mv 29 (.t 1)⟩,
 ⟨none, .mv 30 (.t 2)⟩,
 ⟨none, .call (some 31) n_ref06_Add [.t 29, .t 30]⟩,
 ⟨none, .call (some 32) n_law17_term [.c (.i .i64 1), .c (.i .i64 1), .c (.i .i64 1)]⟩,
 ⟨none, .mv 4 (.t 31)⟩,
 ⟨none, .mv 5 (.t 32)⟩])
 (.seq (.reg [⟨none, .call (some 34) n_law17_term [.c (.i .i64 1), .c (.i .i64 2), .c (.i .i64 0)]⟩,
 ⟨none, .call (some 35) n_law17_term [.c (.i .i64 1), .c (.i .i64 0), .c (.i .i64 2)]⟩,
 ⟨none, .call (some 36) n_ref06_Add [.t 34, .t 35]⟩,
 ⟨none, .mv 37 (.t 4)⟩,
 ⟨none, .mv 38 (.t 5)⟩,
 ⟨none, .bslice 39 2 1 [.sl 0 []] [(0, 1, .t 37), (1, 1, .t 38)]⟩,
 ⟨none, .call (some 40) n_ideal_Member [.t 36, .t 39]⟩,
 ⟨none, .mv 33 (.t 40)⟩,
 ⟨none, .ext 41 0 (.t 33)⟩,
 ⟨none, .ext 42 1 (.t 33)⟩,
 ⟨none, .mv 6 (.t 41)⟩,
 ⟨none, .mv 7 (.t 42)⟩])
 (.seq (.reg [⟨none, .mv 44 (.t 1)⟩,
 ⟨none, .mv 45 (.t 4)⟩,
 ⟨none, .mv 46 (.t 5)⟩,
 ⟨none, .bslice 47 2 1 [.sl 0 []] [(0, 1, .t 45), (1, 1, .t 46)]⟩,
 ⟨none, .call (some 48) n_ideal_Member [.t 44, .t 47]⟩,
 ⟨none, .mv 43 (.t 48)⟩,
 ⟨none, .ext 49 0 (.t 43)⟩,
 ⟨none, .ext 50 1 (.t 43)⟩,
 ⟨none, .mv 8 (.t 49)⟩,
 ⟨none, .mv 9 (.t 50)⟩])
 (.seq (.reg [⟨none, .mv 52 (.t 1)⟩,
 ⟨none, .bslice 53 1 1 [.sl 0 []] [(0, 1, .t 52)]⟩,
 ⟨none, .mv 54 (.t 2)⟩,
 ⟨none, .bslice 55 1 1 [.sl 0 []] [(0, 1, .t 54)]⟩,
 ⟨none, .call (some 56) n_ideal_Meet [.t 53, .t 55]⟩,
 ⟨none, .mv 51 (.t 56)⟩,
 ⟨none, .ext 57 0 (.t 51)⟩,
 ⟨none, .ext 58 1 (.t 51)⟩,
 ⟨none, .mv 10 (.t 57)⟩,
 ⟨none, .mv 11 (.t 58)⟩])
 (.seq (.reg [⟨none, .mv 60 (.t 5)⟩,
 ⟨none, .bslice 61 1 1 [.sl 0 []] [(0, 1, .t 60)]⟩,
 ⟨none, .mv 62 (.t 1)⟩,
 ⟨none, .call (some 63) n_ideal_Quotient [.t 61, .t 62]⟩,
 ⟨none, .mv 59 (.t 63)⟩,
 ⟨none, .ext 64 0 (.t 59)⟩,
 ⟨none, .ext 65 1 (.t 59)⟩,
 ⟨none, .mv 12 (.t 64)⟩,
 ⟨none, .mv 13 (.t 65)⟩])
 (.seq (.reg [⟨none, .call (some 67) n_law17_term [.c (.i .i64 1), .c (.i .i64 2), .c (.i .i64 1)]⟩,
 ⟨none, .bslice 68 1 1 [.sl 0 []] [(0, 1, .t 67)]⟩,
 ⟨none, .mv 69 (.t 1)⟩,
 ⟨none, .call (some 70) n_ideal_Saturate [.t 68, .t 69]⟩,
 ⟨none, .mv 66 (.t 70)⟩,
 ⟨none, .ext 71 0 (.t 66)⟩,
 ⟨none, .ext 72 1 (.t 66)⟩,
 ⟨none, .ext 73 2 (.t 66)⟩,
 ⟨none, .mv 14 (.t 71)⟩,
 ⟨none, .mv 15 (.t 72)⟩,
 ⟨none, .mv 16 (.t 73)⟩])
 (.seq (.reg [⟨none, .mv 75 (.t 1)⟩,
 ⟨none, .bslice 76 1 1 [.sl 0 []] [(0, 1, .t 75)]⟩,
 ⟨none, .bslice 77 0 12 [.b false, .sl 0 [], .b false, .sl 0 [], .i .i64 0, .i .i64 0, .i .i64 0, .i .i64 0, .i .i64 0, .i .i64 0, .i .i64 0, .i .i64 0] []⟩,
 ⟨none, .call (some 78) n_ideal_Saturate [.t 76, .t 77]⟩,
 ⟨none, .mv 74 (.t 78)⟩,
 ⟨none, .ext 79 0 (.t 74)⟩,
 ⟨none, .ext 80 1 (.t 74)⟩,
 ⟨none, .ext 81 2 (.t 74)⟩,
 ⟨none, .mv 17 (.t 79)⟩,
 ⟨none, .mv 18 (.t 80)⟩,
 ⟨none, .mv 19 (.t 81)⟩])
 (.seq (.reg [⟨none, .mv 83 (.t 1)⟩,
 ⟨none, .call (some 84) n_law17_term [.c (.i .i64 1), .c (.i .i64 0), .c (.i .i64 2)]⟩,
 ⟨none, .call (some 85) n_ref06_Sub [.t 83, .t 84]⟩,
 ⟨none, .mv 86 (.t 4)⟩,
 ⟨none, .bslice 87 2 1 [.sl 0 []] [(0, 1, .t 85), (1, 1, .t 86)]⟩,
 ⟨none, .call (some 88) n_ideal_Eliminate [.t 87, .c (.i .u8 1)]⟩,
 ⟨none, .mv 82 (.t 88)⟩,
 ⟨none, .ext 89 0 (.t 82)⟩,
 ⟨none, .ext 90 1 (.t 82)⟩,
 ⟨none, .mv 20 (.t 89)⟩,
 ⟨none, .mv 21 (.t 90)⟩])
 (.seq (.reg [⟨none, .mv 92 (.t 1)⟩,
 ⟨none, .call (some 93) n_law17_term [.c (.i .i64 1), .c (.i .i64 3), .c (.i .i64 0)]⟩,
 ⟨none, .mv 94 (.t 2)⟩,
 ⟨none, .bslice 95 2 1 [.sl 0 []] [(0, 1, .t 93), (1, 1, .t 94)]⟩,
 ⟨none, .call (some 96) n_ideal_Power [.t 92, .t 95]⟩,
 ⟨none, .mv 91 (.t 96)⟩,
 ⟨none, .ext 97 0 (.t 91)⟩,
 ⟨none, .ext 98 1 (.t 91)⟩,
 ⟨none, .mv 22 (.t 97)⟩,
 ⟨none, .mv 23 (.t 98)⟩])
 (.seq (.reg [⟨none, .mv 100 (.t 1)⟩,
 ⟨none, .mv 101 (.t 3)⟩,
 ⟨none, .call (some 102) n_ref06_Add [.t 100, .t 101]⟩,
 ⟨none, .call (some 103) n_law17_term [.c (.i .i64 1), .c (.i .i64 3), .c (.i .i64 0)]⟩,
 ⟨none, .mv 104 (.t 2)⟩,
 ⟨none, .bslice 105 2 1 [.sl 0 []] [(0, 1, .t 103), (1, 1, .t 104)]⟩,
 ⟨none, .call (some 106) n_ideal_Power [.t 102, .t 105]⟩,
 ⟨none, .mv 99 (.t 106)⟩,
 ⟨none, .ext 107 0 (.t 99)⟩,
 ⟨none, .ext 108 1 (.t 99)⟩,
 ⟨none, .mv 24 (.t 107)⟩,
 ⟨none, .mv 25 (.t 108)⟩])
 (.seq (.seq (.reg [⟨none, .mv 109 (.t 7)⟩,
 ⟨none, .un 110 .not (.t 109)⟩,
 ⟨none, .mv 111 (.t 110)⟩,
 ⟨some (111, false, 112), .mv 112 (.t 9)⟩,
 ⟨none, .pick 113 (.t 111) (.c (.b true)) (.t 112)⟩,
 ⟨none, .mv 114 (.t 113)⟩,
 ⟨some (114, false, 115), .mv 115 (.t 6)⟩,
 ⟨some (114, false, 116), .len 116 (.t 115)⟩,
 ⟨some (114, false, 117), .bin 117 .neq (.t 116) (.c (.i .i64 2))⟩,
 ⟨none, .pick 118 (.t 114) (.c (.b true)) (.t 117)⟩,
 ⟨none, .mv 119 (.t 118)⟩,
 ⟨some (119, false, 120), .mv 120 (.t 6)⟩,
 ⟨some (119, false, 121), .mv 121 (.t 4)⟩,
 ⟨some (119, false, 122), .mv 122 (.t 5)⟩,
 ⟨some (119, false, 123), .bslice 123 2 1 [.sl 0 []] [(0, 1, .t 121), (1, 1, .t 122)]⟩,
 ⟨some (119, false, 124), .call (some 124) n_ref14_Sum [.t 120, .t 123]⟩,
 ⟨some (119, false, 125), .call (some 125) n_law17_term [.c (.i .i64 1), .c (.i .i64 2), .c (.i .i64 0)]⟩,
 ⟨some (119, false, 126), .call (some 126) n_law17_term [.c (.i .i64 1), .c (.i .i64 0), .c (.i .i64 2)]⟩,
 ⟨some (119, false, 127), .call (some 127) n_ref06_Add [.t 125, .t 126]⟩,
 ⟨some (119, false, 128), .call (some 128) n_ref06_Same [.t 124, .t 127]⟩,
 ⟨some (119, false, 129), .un 129 .not (.t 128)⟩,
 ⟨none, .pick 130 (.t 119) (.c (.b true)) (.t 129)⟩,
 ⟨none, .mv 131 (.t 130)⟩,
 ⟨some (131, false, 132), .mv 132 (.t 1)⟩,
 ⟨some (131, false, 133), .mv 133 (.t 2)⟩,
 ⟨some (131, false, 134), .bslice 134 2 1 [.sl 0 []] [(0, 1, .t 132), (1, 1, .t 133)]⟩,
 ⟨some (131, false, 135), .mv 135 (.t 4)⟩,
 ⟨some (131, false, 136), .mv 136 (.t 2)⟩,
 ⟨some (131, false, 137), .bslice 137 2 1 [.sl 0 []] [(0, 1, .t 135), (1, 1, .t 136)]⟩,
 ⟨some (131, false, 138), .call (some 138) n_ideal_Equal [.t 134, .t 137]⟩,
 ⟨some (131, false, 139), .un 139 .not (.t 138)⟩,
 ⟨none, .pick 140 (.t 131) (.c (.b true)) (.t 139)⟩])
 (.cond (.t 140) (.seq (.reg [⟨none, .mv 0 (.c (.b false))⟩])
 (.ret))
 (.skip)))
 (.seq (.seq (.reg [⟨none, .mv 141 (.t 10)⟩,
 ⟨none, .mv 142 (.t 11)⟩,
 ⟨none, .mv 143 (.t 5)⟩,
 ⟨none, .call (some 144) n_law17_is [.t 141, .t 142, .t 143]⟩,
 ⟨none, .un 145 .not (.t 144)⟩,
 ⟨none, .mv 146 (.t 145)⟩,
 ⟨some (146, false, 147), .mv 147 (.t 12)⟩,
 ⟨some (146, false, 148), .mv 148 (.t 13)⟩,
 ⟨some (146, false, 149), .mv 149 (.t 2)⟩,
 ⟨some (146, false, 150), .call (some 150) n_law17_is [.t 147, .t 148, .t 149]⟩,
 ⟨some (146, false, 151), .un 151 .not (.t 150)⟩,
 ⟨none, .pick 152 (.t 146) (.c (.b true)) (.t 151)⟩,
 ⟨none, .mv 153 (.t 152)⟩,
 ⟨some (153, false, 154), .mv 154 (.t 14)⟩,
 ⟨some (153, false, 155), .mv 155 (.t 16)⟩,
 ⟨some (153, false, 156), .mv 156 (.t 2)⟩,
 ⟨some (153, false, 157), .call (some 157) n_law17_is [.t 154, .t 155, .t 156]⟩,
 ⟨some (153, false, 158), .un 158 .not (.t 157)⟩,
 ⟨none, .pick 159 (.t 153) (.c (.b true)) (.t 158)⟩,
 ⟨none, .mv 160 (.t 159)⟩,
 ⟨some (160, false, 161), .mv 161 (.t 15)⟩,
 ⟨some (160, false, 162), .bin 162 .neq (.t 161) (.c (.i .i64 2))⟩,
 ⟨none, .pick 163 (.t 160) (.c (.b true)) (.t 162)⟩,
 ⟨none, .mv 164 (.t 163)⟩,
 ⟨some (164, false, 165), .mv 165 (.t 17)⟩,
 ⟨some (164, false, 166), .mv 166 (.t 19)⟩,
 ⟨some (164, false, 167), .mv 167 (.t 3)⟩,
 ⟨some (164, false, 168), .call (some 168) n_law17_is [.t 165, .t 166, .t 167]⟩,
 ⟨some (164, false, 169), .un 169 .not (.t 168)⟩,
 ⟨none, .pick 170 (.t 164) (.c (.b true)) (.t 169)⟩,
 ⟨none, .mv 171 (.t 170)⟩,
 ⟨some (171, false, 172), .mv 172 (.t 18)⟩,
 ⟨some (171, false, 173), .bin 173 .neq (.t 172) (.c (.i .i64 1))⟩,
 ⟨none, .pick 174 (.t 171) (.c (.b true)) (.t 173)⟩])
 (.cond (.t 174) (.seq (.reg [⟨none, .mv 0 (.c (.b false))⟩])
 (.ret))
 (.skip)))
 (.seq (.reg [⟨none, .mv 175 (.t 20)⟩,
 ⟨none, .mv 176 (.t 21)⟩,
 ⟨none, .call (some 177) n_law17_term [.c (.i .i64 1), .c (.i .i64 0), .c (.i .i64 2)]⟩,
 ⟨none, .mv 178 (.t 2)⟩,
 ⟨none, .call (some 179) n_ref06_Add [.t 177, .t 178]⟩,
 ⟨none, .call (some 180) n_law17_is [.t 175, .t 176, .t 179]⟩,
 ⟨none, .mv 181 (.t 180)⟩,
 ⟨some (181, true, 182), .mv 182 (.t 22)⟩,
 ⟨some (181, true, 183), .bin 183 .eql (.t 182) (.c (.i .i64 3))⟩,
 ⟨none, .pick 184 (.t 181) (.t 183) (.c (.b false))⟩,
 ⟨none, .mv 185 (.t 184)⟩,
 ⟨some (185, true, 186), .mv 186 (.t 23)⟩,
 ⟨some (185, true, 187), .bin 187 .eql (.t 186) (.c (.i .i64 0))⟩,
 ⟨none, .pick 188 (.t 185) (.t 187) (.c (.b false))⟩,
 ⟨none, .mv 189 (.t 188)⟩,
 ⟨some (189, true, 190), .mv 190 (.t 24)⟩,
 ⟨some (189, true, 191), .bin 191 .eql (.t 190) (.c (.i .i64 0))⟩,
 ⟨none, .pick 192 (.t 189) (.t 191) (.c (.b false))⟩,
 ⟨none, .mv 193 (.t 192)⟩,
 ⟨some (193, true, 194), .mv 194 (.t 25)⟩,
 ⟨some (193, true, 195), .bin 195 .eql (.t 194) (.c (.i .i64 0))⟩,
 ⟨none, .pick 196 (.t 193) (.t 195) (.c (.b false))⟩,
 ⟨none, .mv 0 (.t 196)⟩])
 (.ret)))))))))))))))⟩
/- eliminant/ideal.Eliminate -/
def c_ideal_Eliminate : Fun := ⟨2, [.t 4, .t 5],
 .seq (.reg [⟨none, .mv 4 (.c (.nil))⟩,
 ⟨none, .mv 5 (.c (.i .i64 0))⟩])
 (.seq (.seq (.reg [⟨none, .mv 6 (.t 0)⟩,
 ⟨none, .call (some 7) n_ideal_reserved [.t 6]⟩])
 (.cond (.t 7) (.seq (.reg [⟨none, .mv 4 (.c (.nil))⟩,
 ⟨none, .mv 5 (.c (.i .i64 1))⟩])
 (.ret))
 (.skip)))
 (.seq (.reg [⟨none, .mv 8 (.t 0)⟩,
 ⟨none, .mv 9 (.t 1)⟩,
 ⟨none, .call (some 10) n_ideal_eliminate [.t 8, .t 9]⟩,
 ⟨none, .mv 4 (.t 10)⟩,
 ⟨none, .mv 5 (.c (.i .i64 0))⟩])
 (.ret)))⟩
/- eliminant/ideal.Equal -/
/- eliminant/ideal.Meet -/
def c_ideal_Meet : Fun := ⟨2, [.t 4, .t 5],
 .seq (.reg [⟨none, .mv 4 (.c (.nil))⟩,
 ⟨none, .mv 5 (.c (.i .i64 0))⟩])
 (.seq (.seq (.reg [⟨none, .mv 6 (.t 0)⟩,
 ⟨none, .call (some 7) n_ideal_reserved [.t 6]⟩,
 ⟨none, .mv 8 (.t 7)⟩,
 ⟨some (8, false, 9), .mv 9 (.t 1)⟩,
 ⟨some (8, false, 10), .call (some 10) n_ideal_reserved [.t 9]⟩,
 ⟨none, .pick 11 (.t 8) (.c (.b true)) (.t 10)⟩])
 (.cond (.t 11) (.seq (.reg [⟨none, .mv 4 (.c (.nil))⟩,
 ⟨none, .mv 5 (.c (.i .i64 1))⟩])
 (.ret))
 (.skip)))
 (.seq (.reg [⟨none, .mv 12 (.t 0)⟩,
 ⟨none, .mv 13 (.t 1)⟩,
 ⟨none, .call (some 14) n_ideal_meet [.t 12, .t 13]⟩,
 ⟨none, .mv 4 (.t 14)⟩,
 ⟨none, .mv 5 (.c (.i .i64 0))⟩])
 (.ret)))⟩
/- eliminant/ideal.Member -/
/- eliminant/ideal.Power -/
def l_ideal_Power_0 : C :=
 .block 1 (.block 2 (.seq (.reg [⟨none, .mv 33 (.t 7)⟩,
 ⟨none, .mv 34 (.t 6)⟩,
 ⟨none, .call (some 35) n_ideal_in [.t 33, .t 34]⟩,
 ⟨none, .mv 32 (.t 35)⟩])
 (.cond (.t 32) (.exit 0)
 (.reg [⟨none, .mv 27 (.t 7)⟩,
 ⟨none, .mv 28 (.t 0)⟩,
 ⟨none, .call (some 29) n_ideal_times [.t 27, .t 28]⟩,
 ⟨none, .mv 30 (.t 8)⟩,
 ⟨none, .bin 31 .add (.t 30) (.c (.i .i64 1))⟩,
 ⟨none, .mv 7 (.t 29)⟩,
 ⟨none, .mv 8 (.t 31)⟩]))))
def c_ideal_Power : Fun := ⟨2, [.t 4, .t 5],
 .seq (.reg [⟨none, .mv 4 (.c (.i .i64 0))⟩,
 ⟨none, .mv 5 (.c (.i .i64 0))⟩])
 (.scope (.seq (.seq (.reg [⟨none, .mv 9 (.t 1)⟩,
 ⟨none, .call (some 10) n_ideal_reserved [.t 9]⟩,
 ⟨none, .mv 11 (.t 10)⟩,
 ⟨some (11, false, 12), .mv 12 (.t 0)⟩,
 ⟨some (11, false, 13), .bslice 13 1 1 [.sl 0 []] [(0, 1, .t 12)]⟩,
 ⟨some (11, false, 14), .call (some 14) n_ideal_reserved [.t 13]⟩,
 ⟨none, .pick 15 (.t 11) (.c (.b true)) (.t 14)⟩])
 (.cond (.t 15) (.seq (.reg [⟨none, .mv 4 (.c (.i .i64 0))⟩,
 ⟨none, .mv 5 (.c (.i .i64 1))⟩])
 (.ret))
 (.skip)))
 (.seq (.seq (.reg [⟨none, .call (some 16) n_rational_Whole [.c (.i .i64 1)]⟩,
 ⟨none, .call (some 17) n_polynomial_Constant [.t 16]⟩,
 ⟨none, .mv 18 (.t 1)⟩,
 ⟨none, .mv 19 (.t 0)⟩,
 ⟨none, .call (some 20) n_ideal_inverted [.t 18, .t 19]⟩,
 ⟨none, .call (some 21) n_ideal_reduced [.t 20]⟩,
 ⟨none, .call (some 22) n_ideal_in [.t 17, .t 21]⟩,
 ⟨none, .un 23 .not (.t 22)⟩])
 (.cond (.t 23) (.seq (.reg [⟨none, .mv 4 (.c (.i .i64 0))⟩,
 ⟨none, .mv 5 (.c (.i .i64 0))⟩])
 (.ret))
 (.skip)))
 (.seq (.reg [⟨none, .mv 24 (.t 1)⟩,
 ⟨none, .call (some 25) n_ideal_reduced [.t 24]⟩,
 ⟨none, .mv 26 (.t 0)⟩,
 ⟨none, .mv 6 (.t 25)⟩,
 ⟨none, .mv 7 (.t 26)⟩,
 ⟨none, .mv 8 (.c (.i .i64 1))⟩])
 (.seq (.skip)
 (.seq (.block 0 (.loop l_ideal_Power_0))
 (.seq (.reg [⟨none, .mv 36 (.t 8)⟩,
 ⟨none, .mv 4 (.t 36)⟩,
 ⟨none, .mv 5 (.c (.i .i64 0))⟩])
 (.ret))))))))⟩
/- eliminant/ideal.Quotient -/
def l_ideal_Quotient_0 : C :=
 .seq (.reg [⟨none, .bin 30 .lss (.t 29) (.t 28)⟩])
 (.seq (.cond (.t 30) (.skip)
 (.exit 1))
 (.seq (.block 2 (.seq (.reg [⟨none, .mv 31 (.t 29)⟩,
 ⟨none, .mv 7 (.t 31)⟩])
 (.reg [⟨none, .mv 33 (.t 6)⟩,
 ⟨none, .mv 34 (.t 7)⟩,
 ⟨none, .mv 35 (.t 6)⟩,
 ⟨none, .mv 36 (.t 7)⟩,
 ⟨none, .iaddrS 37 1 (.t 35) (.t 36)⟩,
 ⟨none, .load 38 1 false (.t 37)⟩,
 ⟨none, .mv 39 (.t 1)⟩,
 ⟨none, .call (some 40) n_mgcd_Divide [.t 38, .t 39]⟩,
 ⟨none, .mv 32 (.t 40)⟩,
 ⟨none, .ext 41 0 (.t 32)⟩,
 ⟨none, .ext 42 1 (.t 32)⟩,
 ⟨none, .iaddrS 43 1 (.t 33) (.t 34)⟩,
 ⟨none, .store 1 (.t 43) (.t 41)⟩])))
 (.reg [⟨none, .bin 44 .add (.t 29) (.c (.i .i64 1))⟩,
 ⟨none, .mv 29 (.t 44)⟩])))
def c_ideal_Quotient : Fun := ⟨2, [.t 4, .t 5],
 .seq (.reg [⟨none, .mv 4 (.c (.nil))⟩,
 ⟨none, .mv 5 (.c (.i .i64 0))⟩])
 (.seq (.block 0 (.seq (.reg [⟨none, .mv 9 (.t 0)⟩,
 ⟨none, .call (some 10) n_ideal_reserved [.t 9]⟩,
 ⟨none, .mv 11 (.t 10)⟩,
 ⟨some (11, false, 12), .mv 12 (.t 1)⟩,
 ⟨some (11, false, 13), .bslice 13 1 1 [.sl 0 []] [(0, 1, .t 12)]⟩,
 ⟨some (11, false, 14), .call (some 14) n_ideal_reserved [.t 13]⟩,
 ⟨none, .pick 15 (.t 11) (.c (.b true)) (.t 14)⟩,
 ⟨none, .mv 8 (.t 15)⟩])
 (.cond (.t 8) (.seq (.reg [⟨none, .mv 4 (.c (.nil))⟩,
 ⟨none, .mv 5 (.c (.i .i64 1))⟩])
 (.ret))
 (.seq (.reg [⟨none, .mv 17 (.t 1)⟩,
 ⟨none, .len 18 (.t 17)⟩,
 ⟨none, .bin 19 .eql (.t 18) (.c (.i .i64 0))⟩,
 ⟨none, .mv 16 (.t 19)⟩])
 (.cond (.t 16) (.seq (.reg [⟨none, .call (some 20) n_rational_Whole [.c (.i .i64 1)]⟩,
 ⟨none, .call (some 21) n_polynomial_Constant [.t 20]⟩,
 ⟨none, .bslice 22 1 1 [.sl 0 []] [(0, 1, .t 21)]⟩,
 ⟨none, .mv 4 (.t 22)⟩,
 ⟨none, .mv 5 (.c (.i .i64 0))⟩])
 (.ret))
 (.skip))))))
 (.seq (.reg [⟨none, .mv 23 (.t 0)⟩,
 ⟨none, .mv 24 (.t 1)⟩,
 ⟨none, .bslice 25 1 1 [.sl 0 []] [(0, 1, .t 24)]⟩,
 ⟨none, .call (some 26) n_ideal_meet [.t 23, .t 25]⟩,
 ⟨none, .mv 6 (.t 26)⟩])
 (.seq (.seq (.reg [⟨none, .mv 27 (.t 6)⟩,
 ⟨none, .len 28 (.t 27)⟩,
 ⟨none, .mv 29 (.c (.i .i64 0))⟩])
 (.block 1 (.loop l_ideal_Quotient_0)))
 (.seq (.reg [⟨none, .mv 45 (.t 6)⟩,
 ⟨none, .call (some 46) n_ideal_reduced [.t 45]⟩,
 ⟨none, .mv 4 (.t 46)⟩,
 ⟨none, .mv 5 (.c (.i .i64 0))⟩])
 (.ret)))))⟩
/- eliminant/ideal.Saturate -/
def l_ideal_Saturate_0 : C :=
 .seq (.reg [⟨none, .bin 35 .lss (.t 34) (.t 33)⟩])
 (.seq (.cond (.t 35) (.skip)
 (.exit 2))
 (.seq (.block 3 (.seq (.reg [⟨none, .mv 36 (.t 34)⟩,
 ⟨none, .mv 11 (.t 36)⟩])
 (.reg [⟨none, .mv 37 (.t 9)⟩,
 ⟨none, .mv 38 (.t 11)⟩,
 ⟨none, .mv 39 (.t 9)⟩,
 ⟨none, .mv 40 (.t 11)⟩,
 ⟨none, .iaddrS 41 1 (.t 39) (.t 40)⟩,
 ⟨none, .load 42 1 false (.t 41)⟩,
 ⟨none, .mv 43 (.t 1)⟩,
 ⟨none, .call (some 44) n_ideal_times [.t 42, .t 43]⟩,
 ⟨none, .iaddrS 45 1 (.t 37) (.t 38)⟩,
 ⟨none, .store 1 (.t 45) (.t 44)⟩])))
 (.reg [⟨none, .bin 46 .add (.t 34) (.c (.i .i64 1))⟩,
 ⟨none, .mv 34 (.t 46)⟩])))
def l_ideal_Saturate_1 : C :=
 .seq (.seq (.reg [⟨none, .mv 27 (.t 9)⟩,
 ⟨none, .mkfn 28 n_ideal_Saturate_1 [.t 8]⟩,
 ⟨none, .call (some 29) n_slices_ContainsFunc_api_Poly_api_Poly [.t 27, .t 28]⟩])
 (.cond (.t 29) (.skip)
 (.exit 0)))
 (.seq (.block 1 (.seq (.reg [⟨none, .mv 32 (.t 9)⟩,
 ⟨none, .len 33 (.t 32)⟩,
 ⟨none, .mv 34 (.c (.i .i64 0))⟩])
 (.block 2 (.loop l_ideal_Saturate_0))))
 (.reg [⟨none, .mv 30 (.t 10)⟩,
 ⟨none, .bin 31 .add (.t 30) (.c (.i .i64 1))⟩,
 ⟨none, .mv 10 (.t 31)⟩]))
def c_ideal_Saturate : Fun := ⟨2, [.t 4, .t 5, .t 6],
 .seq (.reg [⟨none, .mv 4 (.c (.nil))⟩,
 ⟨none, .mv 5 (.c (.i .i64 0))⟩,
 ⟨none, .mv 6 (.c (.i .i64 0))⟩])
 (.seq (.seq (.reg [⟨none, .mv 12 (.t 0)⟩,
 ⟨none, .call (some 13) n_ideal_reserved [.t 12]⟩,
 ⟨none, .mv 14 (.t 13)⟩,
 ⟨some (14, false, 15), .mv 15 (.t 1)⟩,
 ⟨some (14, false, 16), .bslice 16 1 1 [.sl 0 []] [(0, 1, .t 15)]⟩,
 ⟨some (14, false, 17), .call (some 17) n_ideal_reserved [.t 16]⟩,
 ⟨none, .pick 18 (.t 14) (.c (.b true)) (.t 17)⟩])
 (.cond (.t 18) (.seq (.reg [⟨none, .mv 4 (.c (.nil))⟩,
 ⟨none, .mv 5 (.c (.i .i64 0))⟩,
 ⟨none, .mv 6 (.c (.i .i64 1))⟩])
 (.ret))
 (.skip)))
 (.seq (.reg [⟨none, .mv 19 (.t 0)⟩,
 ⟨none, .mv 20 (.t 1)⟩,
 ⟨none, .call (some 21) n_ideal_inverted [.t 19, .t 20]⟩,
 ⟨none, .call (some 22) n_ideal_eliminate [.t 21, .c (.i .u8 128)]⟩,
 ⟨none, .mv 23 (.t 0)⟩,
 ⟨none, .call (some 24) n_ideal_reduced [.t 23]⟩,
 ⟨none, .alloc 8 [.nil]⟩,
 ⟨none, .mv 7 (.t 22)⟩,
 ⟨none, .store 1 (.t 8) (.t 24)⟩])
 (.seq (.reg [⟨none, .mv 25 (.t 7)⟩,
 ⟨none, .call (some 26) n_slices_Clone_api_Poly_api_Poly [.t 25]⟩,
 ⟨none, .mv 9 (.t 26)⟩,
 ⟨none, .mv 10 (.c (.i .i64 0))⟩])
 (.seq (.block 0 (.loop l_ideal_Saturate_1))
 (.seq (.reg [⟨none, .mv 47 (.t 7)⟩,
 ⟨none, .mv 48 (.t 10)⟩,
 ⟨none, .mv 4 (.t 47)⟩,
 ⟨none, .mv 5 (.t 48)⟩,
 ⟨none, .mv 6 (.c (.i .i64 0))⟩])
 (.ret))))))⟩
/- eliminant/eliminantlaw17.is -/
def c_law17_is : Fun := ⟨3, [.t 6],
 .seq (.reg [⟨none, .mv 6 (.c (.b false))⟩])
 (.seq (.reg [⟨none, .mv 7 (.t 1)⟩,
 ⟨none, .bin 8 .eql (.t 7) (.c (.i .i64 0))⟩,
 ⟨none, .mv 9 (.t 8)⟩,
 ⟨some (9, true, 10), .mv 10 (.t 0)⟩,
 ⟨some (9, true, 11), .len 11 (.t 10)⟩,
 ⟨some (9, true, 12), .bin 12 .eql (.t 11) (.c (.i .i64 1))⟩,
 ⟨none, .pick 13 (.t 9) (.t 12) (.c (.b false))⟩,
 ⟨none, .mv 14 (.t 13)⟩,
 ⟨some (14, true, 15), .mv 15 (.t 0)⟩,
 ⟨some (14, true, 16), .iaddrS 16 1 (.t 15) (.c (.i .i64 0))⟩,
 ⟨some (14, true, 17), .load 17 1 false (.t 16)⟩,
 ⟨some (14, true, 18), .mv 18 (.t 2)⟩,
 ⟨some (14, true, 19), .call (some 19) n_ref06_Same [.t 17, .t 18]⟩,
 ⟨none, .pick 20 (.t 14) (.t 19) (.c (.b false))⟩,
 ⟨none, .mv 6 (.t 20)⟩])
 (.ret))⟩
/- eliminant/eliminantlaw17.term -/
def c_law17_term : Fun := ⟨3, [.t 6],
 .seq (.reg [⟨none, .mv 6 (.c (.nil))⟩])
 (.seq (.reg [⟨none, .mv 10 (.t 0)⟩,
 ⟨none, .call (some 11) n_ref02_Whole [.t 10]⟩,
 ⟨none, .mv 12 (.t 1)⟩,
 ⟨none, .mv 13 (.t 2)⟩,
 ⟨none, .build 14 [.i .i64 0, .i .i64 0, .i .i64 0, .i .i64 0, .i .i64 0, .i .i64 0, .i .i64 0, .i .i64 0] [(0, 1, .t 12), (1, 1, .t 13)]⟩,
 ⟨none, .call (some 15) n_ref02_Whole [.c (.i .i64 1)]⟩,
 ⟨none, .call (some 16) n_ref06_Constant [.t 15]⟩,
 ⟨none, .call (some 17) n_ref06_Times [.t 11, .t 14, .t 16]⟩,
 ⟨none, .mv 9 (.t 17)⟩,
 ⟨none, .ext 18 0 (.t 9)⟩,
 ⟨none, .ext 19 1 (.t 9)⟩,
 ⟨none, .mv 7 (.t 18)⟩,
 ⟨none, .mv 8 (.t 19)⟩])
 (.seq (.reg [⟨none, .mv 20 (.t 7)⟩,
 ⟨none, .mv 6 (.t 20)⟩])
 (.ret)))⟩
/- eliminant/eliminantref14.Sum -/
def l_ref14_Sum_0 : C :=
 .seq (.seq (.reg [⟨none, .mv 10 (.t 6)⟩,
 ⟨none, .mv 11 (.t 1)⟩,
 ⟨none, .len 12 (.t 11)⟩,
 ⟨none, .bin 13 .lss (.t 10) (.t 12)⟩,
 ⟨none, .mv 14 (.t 13)⟩,
 ⟨some (14, true, 15), .mv 15 (.t 6)⟩,
 ⟨some (14, true, 16), .mv 16 (.t 0)⟩,
 ⟨some (14, true, 17), .len 17 (.t 16)⟩,
 ⟨some (14, true, 18), .bin 18 .lss (.t 15) (.t 17)⟩,
 ⟨none, .pick 19 (.t 14) (.t 18) (.c (.b false))⟩])
 (.cond (.t 19) (.skip)
 (.exit 0)))
 (.seq (.block 1 (.seq (.reg [⟨none, .mv 23 (.t 0)⟩,
 ⟨none, .mv 24 (.t 6)⟩,
 ⟨none, .iaddrS 25 1 (.t 23) (.t 24)⟩,
 ⟨none, .load 26 1 false (.t 25)⟩,
 ⟨none, .mv 27 (.t 1)⟩,
 ⟨none, .mv 28 (.t 6)⟩,
 ⟨none, .iaddrS 29 1 (.t 27) (.t 28)⟩,
 ⟨none, .load 30 1 false (.t 29)⟩,
 ⟨none, .call (some 31) n_ref06_Mul [.t 26, .t 30]⟩,
 ⟨none, .mv 22 (.t 31)⟩,
 ⟨none, .ext 32 0 (.t 22)⟩,
 ⟨none, .ext 33 1 (.t 22)⟩,
 ⟨none, .mv 7 (.t 32)⟩,
 ⟨none, .mv 8 (.t 33)⟩])
 (.reg [⟨none, .mv 34 (.t 5)⟩,
 ⟨none, .mv 35 (.t 7)⟩,
 ⟨none, .call (some 36) n_ref06_Add [.t 34, .t 35]⟩,
 ⟨none, .mv 5 (.t 36)⟩])))
 (.reg [⟨none, .mv 20 (.t 6)⟩,
 ⟨none, .bin 21 .add (.t 20) (.c (.i .i64 1))⟩,
 ⟨none, .mv 6 (.t 21)⟩]))
def c_ref14_Sum : Fun := ⟨2, [.t 4],
 .seq (.reg [⟨none, .mv 4 (.c (.nil))⟩])
 (.seq (.reg [⟨none, .bslice 9 0 12 [.b false, .sl 0 [], .b false, .sl 0 [], .i .i64 0, .i .i64 0, .i .i64 0, .i .i64 0, .i .i64 0, .i .i64 0, .i .i64 0, .i .i64 0] []⟩,
 ⟨none, .mv 5 (.t 9)⟩])
 (.seq (.seq (.reg [⟨none, .mv 6 (.c (.i .i64 0))⟩])
 (.block 0 (.loop l_ref14_Sum_0)))
 (.seq (.reg [⟨none, .mv 37 (.t 5)⟩,
 ⟨none, .mv 4 (.t 37)⟩])
 (.ret))))⟩
/- eliminant/ideal.eliminate -/
/- eliminant/ideal.reserved -/
def c_ideal_reserved : Fun := ⟨1, [.t 2],
 .seq (.reg [⟨none, .mv 2 (.c (.b false))⟩])
 (.seq (.reg [⟨none, .mv 3 (.t 0)⟩,
 ⟨none, .call (some 4) n_slices_ContainsFunc_api_Poly_api_Poly [.t 3, .c (.fn n_ideal_reserved_1 [])]⟩,
 ⟨none, .mv 2 (.t 4)⟩])
 (.ret))⟩
/- eliminant/ideal.reduced -/
/- eliminant/polynomial.Same -/
def c_polynomial_Same : Fun := ⟨2, [.t 4],
 .seq (.reg [⟨none, .mv 4 (.c (.b false))⟩])
 (.seq (.reg [⟨none, .mv 5 (.t 0)⟩,
 ⟨none, .mv 6 (.t 1)⟩,
 ⟨none, .call (some 7) n_polynomial_Cmp [.t 5, .t 6]⟩,
 ⟨none, .bin 8 .eql (.t 7) (.c (.i .i64 0))⟩,
 ⟨none, .mv 4 (.t 8)⟩])
 (.ret))⟩
/- slices.EqualFunc[[]eliminant/api.Poly,[]eliminant/api.Poly,eliminant/api.Poly,eliminant/api.Poly] -/
def l_slices_EqualFunc_api_Poly_api_Poly_api_Poly_api_Poly_0 : C :=
 .seq (.reg [⟨none, .bin 18 .lss (.t 17) (.t 16)⟩])
 (.seq (.cond (.t 18) (.skip)
 (.exit 0))
 (.seq (.block 1 (.seq (.reg [⟨none, .mv 19 (.t 17)⟩,
 ⟨none, .iaddrS 20 1 (.t 15) (.t 17)⟩,
 ⟨none, .load 21 1 false (.t 20)⟩,
 ⟨none, .mv 7 (.t 19)⟩,
 ⟨none, .mv 8 (.t 21)⟩])
 (.seq (.reg [⟨none, .mv 22 (.t 1)⟩,
 ⟨none, .mv 23 (.t 7)⟩,
 ⟨none, .iaddrS 24 1 (.t 22) (.t 23)⟩,
 ⟨none, .load 25 1 false (.t 24)⟩,
 ⟨none, .mv 9 (.t 25)⟩])
 (.seq (.reg [⟨none, .mv 26 (.t 2)⟩,
 ⟨none, .mv 27 (.t 8)⟩,
 ⟨none, .mv 28 (.t 9)⟩,
 ⟨none, .callv (some 29) (.t 26) [.t 27, .t 28]⟩,
 ⟨none, .un 30 .not (.t 29)⟩])
 (.cond (.t 30) (.seq (.reg [⟨none, .mv 6 (.c (.b false))⟩])
 (.ret))
 (.skip))))))
 (.reg [⟨none, .bin 31 .add (.t 17) (.c (.i .i64 1))⟩,
 ⟨none, .mv 17 (.t 31)⟩])))
def c_slices_EqualFunc_api_Poly_api_Poly_api_Poly_api_Poly : Fun := ⟨3, [.t 6],
 .seq (.reg [⟨none, .mv 6 (.c (.b false))⟩])
 (.seq (.seq (.reg [⟨none, .mv 10 (.t 0)⟩,
 ⟨none, .len 11 (.t 10)⟩,
 ⟨none, .mv 12 (.t 1)⟩,
 ⟨none, .len 13 (.t 12)⟩,
 ⟨none, .bin 14 .neq (.t 11) (.t 13)⟩])
 (.cond (.t 14) (.seq (.reg [⟨none, .mv 6 (.c (.b false))⟩])
 (.ret))
 (.skip)))
 (.seq (.seq (.reg [⟨none, .mv 15 (.t 0)⟩,
 ⟨none, .len 16 (.t 15)⟩,
 ⟨none, .mv 17 (.c (.i .i64 0))⟩])
 (.block 0 (.loop l_slices_EqualFunc_api_Poly_api_Poly_api_Poly_api_Poly_0)))
 (.seq (.reg [⟨none, .mv 6 (.c (.b true))⟩])
 (.ret))))⟩
/- eliminant/ideal.meet -/
/- eliminant/groebner.Basis -/
/- eliminant/ideal.times -/
def c_ideal_times : Fun := ⟨2, [.t 4],
 .seq (.reg [⟨none, .mv 4 (.c (.nil))⟩])
 (.seq (.reg [⟨none, .mv 8 (.t 0)⟩,
 ⟨none, .mv 9 (.t 1)⟩,
 ⟨none, .call (some 10) n_polynomial_Mul [.t 8, .t 9]⟩,
 ⟨none, .mv 7 (.t 10)⟩,
 ⟨none, .ext 11 0 (.t 7)⟩,
 ⟨none, .ext 12 1 (.t 7)⟩,
 ⟨none, .mv 5 (.t 11)⟩,
 ⟨none, .mv 6 (.t 12)⟩])
 (.seq (.reg [⟨none, .mv 13 (.t 5)⟩,
 ⟨none, .mv 4 (.t 13)⟩])
 (.ret)))⟩
/- eliminant/order.Reverse -/
def l_order_Reverse_0 : C :=
 .seq (.seq (.reg [⟨none, .mv 4 (.t 2)⟩,
 ⟨none, .bin 5 .gtr (.t 4) (.c (.i .i64 0))⟩])
 (.cond (.t 5) (.skip)
 (.exit 0)))
 (.seq (.block 1 (.reg [⟨none, .mv 8 (.t 1)⟩,
 ⟨none, .mv 9 (.t 2)⟩,
 ⟨none, .call (some 10) n_order_unit [.t 9, .c (.i .i64 (-1))]⟩,
 ⟨none, .bslice 11 1 8 [.i .i64 0, .i .i64 0, .i .i64 0, .i .i64 0, .i .i64 0, .i .i64 0, .i .i64 0, .i .i64 0] [(0, 8, .t 10)]⟩,
 ⟨none, .append 12 8 64 (.t 8) (.t 11)⟩,
 ⟨none, .mv 1 (.t 12)⟩]))
 (.reg [⟨none, .mv 6 (.t 2)⟩,
 ⟨none, .bin 7 .sub (.t 6) (.c (.i .i64 1))⟩,
 ⟨none, .mv 2 (.t 7)⟩]))
def c_order_Reverse : Fun := ⟨0, [.t 0],
 .seq (.reg [⟨none, .mv 0 (.c (.nil))⟩])
 (.seq (.reg [⟨none, .call (some 3) n_order_Graded []⟩,
 ⟨none, .mv 1 (.t 3)⟩])
 (.seq (.seq (.reg [⟨none, .mv 2 (.c (.i .i64 7))⟩])
 (.block 0 (.loop l_order_Reverse_0)))
 (.seq (.reg [⟨none, .mv 13 (.t 1)⟩,
 ⟨none, .mv 0 (.t 13)⟩])
 (.ret))))⟩
/- eliminant/ideal.in -/
def c_ideal_in : Fun := ⟨2, [.t 4],
 .seq (.reg [⟨none, .mv 4 (.c (.b false))⟩])
 (.seq (.reg [⟨none, .mv 9 (.t 0)⟩,
 ⟨none, .mv 10 (.t 1)⟩,
 ⟨none, .call (some 11) n_order_Reverse []⟩,
 ⟨none, .call (some 12) n_division_Divide [.t 9, .t 10, .t 11]⟩,
 ⟨none, .mv 8 (.t 12)⟩,
 ⟨none, .ext 13 0 (.t 8)⟩,
 ⟨none, .ext 14 1 (.t 8)⟩,
 ⟨none, .ext 15 2 (.t 8)⟩,
 ⟨none, .mv 5 (.t 13)⟩,
 ⟨none, .mv 6 (.t 14)⟩,
 ⟨none, .mv 7 (.t 15)⟩])
 (.seq (.reg [⟨none, .mv 16 (.t 6)⟩,
 ⟨none, .len 17 (.t 16)⟩,
 ⟨none, .bin 18 .eql (.t 17) (.c (.i .i64 0))⟩,
 ⟨none, .mv 4 (.t 18)⟩])
 (.ret)))⟩
/- eliminant/ideal.inverted -/
/- eliminant/mgcd.Divide -/
def l_mgcd_Divide_0 : C :=
 .seq (.seq (.reg [⟨none, .mv 16 (.t 0)⟩,
 ⟨none, .len 17 (.t 16)⟩,
 ⟨none, .bin 18 .gtr (.t 17) (.c (.i .i64 0))⟩])
 (.cond (.t 18) (.skip)
 (.exit 0)))
 (.block 1 (.seq (.reg [⟨none, .mv 20 (.t 0)⟩,
 ⟨none, .iaddrS 21 12 (.t 20) (.c (.i .i64 0))⟩,
 ⟨none, .faddr 22 4 (.t 21)⟩,
 ⟨none, .load 23 8 true (.t 22)⟩,
 ⟨none, .mv 24 (.t 1)⟩,
 ⟨none, .iaddrS 25 12 (.t 24) (.c (.i .i64 0))⟩,
 ⟨none, .faddr 26 4 (.t 25)⟩,
 ⟨none, .load 27 8 true (.t 26)⟩,
 ⟨none, .call (some 28) n_monomial_Quo [.t 23, .t 27]⟩,
 ⟨none, .mv 19 (.t 28)⟩,
 ⟨none, .ext 29 0 (.t 19)⟩,
 ⟨none, .ext 30 1 (.t 19)⟩,
 ⟨none, .alloc 7 [.i .i64 0, .i .i64 0, .i .i64 0, .i .i64 0, .i .i64 0, .i .i64 0, .i .i64 0, .i .i64 0]⟩,
 ⟨none, .store 8 (.t 7) (.t 29)⟩,
 ⟨none, .mv 8 (.t 30)⟩])
 (.seq (.seq (.reg [⟨none, .mv 31 (.t 8)⟩,
 ⟨none, .un 32 .not (.t 31)⟩])
 (.cond (.t 32) (.seq (.reg [⟨none, .mv 4 (.c (.nil))⟩,
 ⟨none, .mv 5 (.c (.b false))⟩])
 (.ret))
 (.skip)))
 (.seq (.reg [⟨none, .mv 34 (.t 0)⟩,
 ⟨none, .iaddrS 35 12 (.t 34) (.c (.i .i64 0))⟩,
 ⟨none, .faddr 36 0 (.t 35)⟩,
 ⟨none, .load 37 4 true (.t 36)⟩,
 ⟨none, .mv 38 (.t 1)⟩,
 ⟨none, .iaddrS 39 12 (.t 38) (.c (.i .i64 0))⟩,
 ⟨none, .faddr 40 0 (.t 39)⟩,
 ⟨none, .load 41 4 true (.t 40)⟩,
 ⟨none, .call (some 42) n_rational_Div [.t 37, .t 41]⟩,
 ⟨none, .mv 33 (.t 42)⟩,
 ⟨none, .ext 43 0 (.t 33)⟩,
 ⟨none, .ext 44 1 (.t 33)⟩,
 ⟨none, .alloc 9 [.b false, .nil, .b false, .nil]⟩,
 ⟨none, .store 4 (.t 9) (.t 43)⟩,
 ⟨none, .mv 10 (.t 44)⟩])
 (.seq (.reg [⟨none, .mv 45 (.t 6)⟩,
 ⟨none, .load 46 4 true (.t 9)⟩,
 ⟨none, .load 47 8 true (.t 7)⟩,
 ⟨none, .build 48 [.b false, .nil, .b false, .nil, .i .i64 0, .i .i64 0, .i .i64 0, .i .i64 0, .i .i64 0, .i .i64 0, .i .i64 0, .i .i64 0] [(0, 4, .t 46), (4, 8, .t 47)]⟩,
 ⟨none, .bslice 49 1 12 [.b false, .sl 0 [], .b false, .sl 0 [], .i .i64 0, .i .i64 0, .i .i64 0, .i .i64 0, .i .i64 0, .i .i64 0, .i .i64 0, .i .i64 0] [(0, 12, .t 48)]⟩,
 ⟨none, .append 50 12 128 (.t 45) (.t 49)⟩,
 ⟨none, .mv 6 (.t 50)⟩])
 (.seq (.reg [⟨none, .load 52 4 true (.t 9)⟩,
 ⟨none, .load 53 8 true (.t 7)⟩,
 ⟨none, .mv 54 (.t 1)⟩,
 ⟨none, .call (some 55) n_polynomial_Times [.t 52, .t 53, .t 54]⟩,
 ⟨none, .mv 51 (.t 55)⟩,
 ⟨none, .ext 56 0 (.t 51)⟩,
 ⟨none, .ext 57 1 (.t 51)⟩,
 ⟨none, .mv 11 (.t 56)⟩,
 ⟨none, .mv 12 (.t 57)⟩])
 (.reg [⟨none, .mv 58 (.t 0)⟩,
 ⟨none, .mv 59 (.t 11)⟩,
 ⟨none, .call (some 60) n_polynomial_Sub [.t 58, .t 59]⟩,
 ⟨none, .mv 0 (.t 60)⟩])))))))
def c_mgcd_Divide : Fun := ⟨2, [.t 4, .t 5],
 .seq (.reg [⟨none, .mv 4 (.c (.nil))⟩,
 ⟨none, .mv 5 (.c (.b false))⟩])
 (.seq (.seq (.reg [⟨none, .mv 13 (.t 1)⟩,
 ⟨none, .len 14 (.t 13)⟩,
 ⟨none, .bin 15 .eql (.t 14) (.c (.i .i64 0))⟩])
 (.cond (.t 15) (.seq (.reg [⟨none, .mv 4 (.c (.nil))⟩,
 ⟨none, .mv 5 (.c (.b false))⟩])
 (.ret))
 (.skip)))
 (.seq (.reg [⟨none, .mv 6 (.c (.nil))⟩])
 (.seq (.block 0 (.loop l_mgcd_Divide_0))
 (.seq (.reg [⟨none, .mv 61 (.t 6)⟩,
 ⟨none, .mv 4 (.t 61)⟩,
 ⟨none, .mv 5 (.c (.b true))⟩])
 (.ret)))))⟩
/- eliminant/ideal.Saturate$1 -/
/- slices.Clone[[]eliminant/api.Poly,eliminant/api.Poly] -/
/- eliminant/ideal.basis -/
/- eliminant/ideal.eliminate$1 -/
/- eliminant/order.Eliminating -/
def c_order_Eliminating : Fun := ⟨1, [.t 2],
 .seq (.reg [⟨none, .mv 2 (.c (.nil))⟩])
 (.seq (.reg [⟨none, .mv 3 (.t 0)⟩,
 ⟨none, .call (some 4) n_order_ones [.t 3]⟩,
 ⟨none, .bslice 5 1 8 [.i .i64 0, .i .i64 0, .i .i64 0, .i .i64 0, .i .i64 0, .i .i64 0, .i .i64 0, .i .i64 0] [(0, 8, .t 4)]⟩,
 ⟨none, .call (some 6) n_order_Reverse []⟩,
 ⟨none, .append 7 8 64 (.t 5) (.t 6)⟩,
 ⟨none, .mv 2 (.t 7)⟩])
 (.ret))⟩
/- slices.DeleteFunc[[]eliminant/api.Poly,eliminant/api.Poly] -/
/- eliminant/ideal.reserved$1 -/
def c_ideal_reserved_1 : Fun := ⟨1, [.t 2],
 .seq (.reg [⟨none, .mv 2 (.c (.b false))⟩])
 (.seq (.reg [⟨none, .mv 3 (.t 0)⟩,
 ⟨none, .call (some 4) n_polynomial_Uses [.t 3]⟩,
 ⟨none, .bin 5 .shr (.t 4) (.c (.i .u64 7))⟩,
 ⟨none, .bin 6 .and (.t 5) (.c (.i .u8 1))⟩,
 ⟨none, .bin 7 .eql (.t 6) (.c (.i .u8 1))⟩,
 ⟨none, .mv 2 (.t 7)⟩])
 (.ret))⟩
/- eliminant/polynomial.Cmp -/
def c_polynomial_Cmp : Fun := ⟨2, [.t 4],
 .seq (.reg [⟨none, .mv 4 (.c (.i .i64 0))⟩])
 (.seq (.reg [⟨none, .mv 5 (.t 0)⟩,
 ⟨none, .mv 6 (.t 1)⟩,
 ⟨none, .call (some 7) n_slices_CompareFunc_api_Poly_api_Poly_api_Term_api_Term [.t 5, .t 6, .c (.fn n_polynomial_Cmp_1 [])]⟩,
 ⟨none, .mv 4 (.t 7)⟩])
 (.ret))⟩
/- eliminant/polynomial.Var -/
def c_polynomial_Var : Fun := ⟨1, [.t 2, .t 3],
 .seq (.reg [⟨none, .mv 2 (.c (.nil))⟩,
 ⟨none, .mv 3 (.c (.i .i64 0))⟩])
 (.seq (.seq (.reg [⟨none, .mv 5 (.t 0)⟩,
 ⟨none, .bin 6 .lss (.t 5) (.c (.i .i64 0))⟩,
 ⟨none, .mv 7 (.t 6)⟩,
 ⟨some (7, false, 8), .mv 8 (.t 0)⟩,
 ⟨some (7, false, 9), .bin 9 .geq (.t 8) (.c (.i .i64 8))⟩,
 ⟨none, .pick 10 (.t 7) (.c (.b true)) (.t 9)⟩])
 (.cond (.t 10) (.seq (.reg [⟨none, .mv 2 (.c (.nil))⟩,
 ⟨none, .mv 3 (.c (.i .i64 1))⟩])
 (.ret))
 (.skip)))
 (.seq (.reg [⟨none, .alloc 4 [.i .i64 0, .i .i64 0, .i .i64 0, .i .i64 0, .i .i64 0, .i .i64 0, .i .i64 0, .i .i64 0]⟩])
 (.seq (.reg [⟨none, .mv 11 (.t 0)⟩,
 ⟨none, .iaddrA 12 8 1 (.t 4) (.t 11)⟩,
 ⟨none, .store 1 (.t 12) (.c (.i .i64 1))⟩])
 (.seq (.reg [⟨none, .call (some 13) n_rational_Whole [.c (.i .i64 1)]⟩,
 ⟨none, .load 14 8 true (.t 4)⟩,
 ⟨none, .build 15 [.b false, .nil, .b false, .nil, .i .i64 0, .i .i64 0, .i .i64 0, .i .i64 0, .i .i64 0, .i .i64 0, .i .i64 0, .i .i64 0] [(0, 4, .t 13), (4, 8, .t 14)]⟩,
 ⟨none, .bslice 16 1 12 [.b false, .sl 0 [], .b false, .sl 0 [], .i .i64 0, .i .i64 0, .i .i64 0, .i .i64 0, .i .i64 0, .i .i64 0, .i .i64 0, .i .i64 0] [(0, 12, .t 15)]⟩,
 ⟨none, .mv 2 (.t 16)⟩,
 ⟨none, .mv 3 (.c (.i .i64 0))⟩])
 (.ret)))))⟩
/- (*eliminant/groebner.builder).add -/
/- (*eliminant/groebner.builder).complete -/
/- (eliminant/groebner.ordering).element -/
def l_groebner_ordering_element_0 : C :=
 .seq (.reg [⟨none, .bin 31 .lss (.t 30) (.t 29)⟩])
 (.seq (.cond (.t 31) (.skip)
 (.exit 0))
 (.seq (.block 1 (.seq (.reg [⟨none, .mv 32 (.t 30)⟩,
 ⟨none, .mv 12 (.t 32)⟩])
 (.reg [⟨none, .mv 34 (.t 11)⟩,
 ⟨none, .mv 35 (.t 12)⟩,
 ⟨none, .load 36 4 true (.t 9)⟩,
 ⟨none, .build 37 [.i .i64 0, .i .i64 0, .i .i64 0, .i .i64 0, .i .i64 0, .i .i64 0, .i .i64 0, .i .i64 0] []⟩,
 ⟨none, .mv 38 (.t 2)⟩,
 ⟨none, .mv 39 (.t 12)⟩,
 ⟨none, .iaddrS 40 1 (.t 38) (.t 39)⟩,
 ⟨none, .load 41 1 false (.t 40)⟩,
 ⟨none, .call (some 42) n_polynomial_Times [.t 36, .t 37, .t 41]⟩,
 ⟨none, .mv 33 (.t 42)⟩,
 ⟨none, .ext 43 0 (.t 33)⟩,
 ⟨none, .ext 44 1 (.t 33)⟩,
 ⟨none, .iaddrS 45 1 (.t 34) (.t 35)⟩,
 ⟨none, .store 1 (.t 45) (.t 43)⟩])))
 (.reg [⟨none, .bin 46 .add (.t 30) (.c (.i .i64 1))⟩,
 ⟨none, .mv 30 (.t 46)⟩])))
def c_groebner_ordering_element : Fun := ⟨3, [.c 6 14 true],
 .seq (.reg [⟨none, .alloc 6 [.nil, .nil, .b false, .nil, .b false, .nil, .i .i64 0, .i .i64 0, .i .i64 0, .i .i64 0, .i .i64 0, .i .i64 0, .i .i64 0, .i .i64 0]⟩])
 (.seq (.reg [⟨none, .mv 14 (.t 1)⟩,
 ⟨none, .mv 15 (.t 0)⟩,
 ⟨none, .call (some 16) n_polynomial_Lead [.t 14, .t 15]⟩,
 ⟨none, .mv 13 (.t 16)⟩,
 ⟨none, .ext 17 0 (.t 13)⟩,
 ⟨none, .ext 18 1 (.t 13)⟩,
 ⟨none, .alloc 7 [.b false, .nil, .b false, .nil, .i .i64 0, .i .i64 0, .i .i64 0, .i .i64 0, .i .i64 0, .i .i64 0, .i .i64 0, .i .i64 0]⟩,
 ⟨none, .store 12 (.t 7) (.t 17)⟩,
 ⟨none, .mv 8 (.t 18)⟩])
 (.seq (.reg [⟨none, .faddr 20 0 (.t 7)⟩,
 ⟨none, .load 21 4 true (.t 20)⟩,
 ⟨none, .call (some 22) n_rational_Inv [.t 21]⟩,
 ⟨none, .mv 19 (.t 22)⟩,
 ⟨none, .ext 23 0 (.t 19)⟩,
 ⟨none, .ext 24 1 (.t 19)⟩,
 ⟨none, .alloc 9 [.b false, .nil, .b false, .nil]⟩,
 ⟨none, .store 4 (.t 9) (.t 23)⟩,
 ⟨none, .mv 10 (.t 24)⟩])
 (.seq (.reg [⟨none, .mv 25 (.t 2)⟩,
 ⟨none, .len 26 (.t 25)⟩,
 ⟨none, .mkslice 27 1 [.sl 0 []] (.t 26) (.t 26)⟩,
 ⟨none, .mv 11 (.t 27)⟩])
 (.seq (.seq (.reg [⟨none, .mv 28 (.t 2)⟩,
 ⟨none, .len 29 (.t 28)⟩,
 ⟨none, .mv 30 (.c (.i .i64 0))⟩])
 (.block 0 (.loop l_groebner_ordering_element_0)))
 (.seq (.reg [⟨none, .load 48 4 true (.t 9)⟩,
 ⟨none, .build 49 [.i .i64 0, .i .i64 0, .i .i64 0, .i .i64 0, .i .i64 0, .i .i64 0, .i .i64 0, .i .i64 0] []⟩,
 ⟨none, .mv 50 (.t 1)⟩,
 ⟨none, .call (some 51) n_polynomial_Times [.t 48, .t 49, .t 50]⟩,
 ⟨none, .mv 47 (.t 51)⟩,
 ⟨none, .ext 52 0 (.t 47)⟩,
 ⟨none, .ext 53 1 (.t 47)⟩,
 ⟨none, .mv 1 (.t 52)⟩])
 (.seq (.reg [⟨none, .call (some 54) n_rational_Whole [.c (.i .i64 1)]⟩,
 ⟨none, .faddr 55 0 (.t 7)⟩,
 ⟨none, .store 4 (.t 55) (.t 54)⟩])
 (.seq (.reg [⟨none, .mv 56 (.t 1)⟩,
 ⟨none, .mv 57 (.t 11)⟩,
 ⟨none, .load 58 12 true (.t 7)⟩,
 ⟨none, .build 59 [.nil, .nil, .b false, .nil, .b false, .nil, .i .i64 0, .i .i64 0, .i .i64 0, .i .i64 0, .i .i64 0, .i .i64 0, .i .i64 0, .i .i64 0] [(0, 1, .t 56), (1, 1, .t 57), (2, 12, .t 58)]⟩,
 ⟨none, .store 14 (.t 6) (.t 59)⟩])
 (.ret))))))))⟩
/- (eliminant/groebner.ordering).finish -/
/- slices.Clone[eliminant/api.Order,[8]int] -/
def c_slices_Clone_api_Order_8_int : Fun := ⟨1, [.t 2],
 .seq (.reg [⟨none, .mv 2 (.c (.nil))⟩])
 (.seq (.seq (.reg [⟨none, .mv 3 (.t 0)⟩,
 ⟨none, .isnil 4 false (.t 3)⟩])
 (.cond (.t 4) (.seq (.reg [⟨none, .mv 2 (.c (.nil))⟩])
 (.ret))
 (.skip)))
 (.seq (.reg [⟨none, .bslice 5 0 8 [.i .i64 0, .i .i64 0, .i .i64 0, .i .i64 0, .i .i64 0, .i .i64 0, .i .i64 0, .i .i64 0] []⟩,
 ⟨none, .mv 6 (.t 0)⟩,
 ⟨none, .append 7 8 64 (.t 5) (.t 6)⟩,
 ⟨none, .mv 2 (.t 7)⟩])
 (.ret)))⟩
/- eliminant/order.Graded -/
def c_order_Graded : Fun := ⟨0, [.t 0],
 .seq (.reg [⟨none, .mv 0 (.c (.nil))⟩])
 (.seq (.reg [⟨none, .call (some 1) n_order_ones [.c (.i .u8 255)]⟩,
 ⟨none, .bslice 2 1 8 [.i .i64 0, .i .i64 0, .i .i64 0, .i .i64 0, .i .i64 0, .i .i64 0, .i .i64 0, .i .i64 0] [(0, 8, .t 1)]⟩,
 ⟨none, .mv 0 (.t 2)⟩])
 (.ret))⟩
/- eliminant/order.unit -/
def c_order_unit : Fun := ⟨2, [.c 4 8 true],
 .seq (.reg [⟨none, .alloc 4 [.i .i64 0, .i .i64 0, .i .i64 0, .i .i64 0, .i .i64 0, .i .i64 0, .i .i64 0, .i .i64 0]⟩])
 (.seq (.reg [⟨none, .alloc 5 [.i .i64 0, .i .i64 0, .i .i64 0, .i .i64 0, .i .i64 0, .i .i64 0, .i .i64 0, .i .i64 0]⟩])
 (.seq (.reg [⟨none, .mv 6 (.t 0)⟩,
 ⟨none, .mv 7 (.t 1)⟩,
 ⟨none, .iaddrA 8 8 1 (.t 5) (.t 6)⟩,
 ⟨none, .store 1 (.t 8) (.t 7)⟩])
 (.seq (.reg [⟨none, .load 9 8 true (.t 5)⟩,
 ⟨none, .store 8 (.t 4) (.t 9)⟩])
 (.ret))))⟩
/- eliminant/polynomial.Uses -/
def l_polynomial_Uses_0 : C :=
 .seq (.reg [⟨none, .bin 9 .lss (.t 8) (.t 7)⟩])
 (.seq (.cond (.t 9) (.skip)
 (.exit 0))
 (.seq (.block 1 (.seq (.reg [⟨none, .iaddrS 10 12 (.t 6) (.t 8)⟩,
 ⟨none, .load 11 12 true (.t 10)⟩,
 ⟨none, .alloc 5 [.b false, .nil, .b false, .nil, .i .i64 0, .i .i64 0, .i .i64 0, .i .i64 0, .i .i64 0, .i .i64 0, .i .i64 0, .i .i64 0]⟩,
 ⟨none, .store 12 (.t 5) (.t 11)⟩])
 (.reg [⟨none, .mv 12 (.t 3)⟩,
 ⟨none, .faddr 13 4 (.t 5)⟩,
 ⟨none, .load 14 8 true (.t 13)⟩,
 ⟨none, .call (some 15) n_monomial_Support [.t 14]⟩,
 ⟨none, .bin 16 .or (.t 12) (.t 15)⟩,
 ⟨none, .mv 3 (.t 16)⟩])))
 (.reg [⟨none, .bin 17 .add (.t 8) (.c (.i .i64 1))⟩,
 ⟨none, .mv 8 (.t 17)⟩])))
def c_polynomial_Uses : Fun := ⟨1, [.t 2],
 .seq (.reg [⟨none, .mv 2 (.c (.i .u8 0))⟩])
 (.seq (.reg [⟨none, .mv 3 (.c (.i .u8 0))⟩])
 (.seq (.seq (.reg [⟨none, .mv 6 (.t 0)⟩,
 ⟨none, .len 7 (.t 6)⟩,
 ⟨none, .mv 8 (.c (.i .i64 0))⟩])
 (.block 0 (.loop l_polynomial_Uses_0)))
 (.seq (.reg [⟨none, .mv 18 (.t 3)⟩,
 ⟨none, .mv 2 (.t 18)⟩])
 (.ret))))⟩
/- eliminant/order.ones -/
def l_order_ones_0 : C :=
 .seq (.reg [⟨none, .bin 6 .lss (.t 5) (.c (.i .i64 8))⟩])
 (.seq (.cond (.t 6) (.skip)
 (.exit 0))
 (.seq (.block 1 (.seq (.reg [⟨none, .mv 7 (.t 5)⟩,
 ⟨none, .mv 4 (.t 7)⟩])
 (.reg [⟨none, .mv 8 (.t 4)⟩,
 ⟨none, .mv 9 (.t 0)⟩,
 ⟨none, .mv 10 (.t 4)⟩,
 ⟨none, .bin 11 .shr (.t 9) (.t 10)⟩,
 ⟨none, .bin 12 .and (.t 11) (.c (.i .u8 1))⟩,
 ⟨none, .conv 13 .i64 (.t 12)⟩,
 ⟨none, .iaddrA 14 8 1 (.t 3) (.t 8)⟩,
 ⟨none, .store 1 (.t 14) (.t 13)⟩])))
 (.reg [⟨none, .bin 15 .add (.t 5) (.c (.i .i64 1))⟩,
 ⟨none, .mv 5 (.t 15)⟩])))
def c_order_ones : Fun := ⟨1, [.c 2 8 true],
 .seq (.reg [⟨none, .alloc 2 [.i .i64 0, .i .i64 0, .i .i64 0, .i .i64 0, .i .i64 0, .i .i64 0, .i .i64 0, .i .i64 0]⟩])
 (.seq (.reg [⟨none, .alloc 3 [.i .i64 0, .i .i64 0, .i .i64 0, .i .i64 0, .i .i64 0, .i .i64 0, .i .i64 0, .i .i64 0]⟩])
 (.seq (.seq (.reg [⟨none, .mv 5 (.c (.i .i64 0))⟩])
 (.block 0 (.loop l_order_ones_0)))
 (.seq (.reg [⟨none, .load 16 8 true (.t 3)⟩,
 ⟨none, .store 8 (.t 2) (.t 16)⟩])
 (.ret))))⟩
/- eliminant/polynomial.Cmp$1 -/
def c_polynomial_Cmp_1 : Fun := ⟨2, [.t 4],
 .seq (.reg [⟨none, .box 2 12 (.t 0)⟩,
 ⟨none, .box 3 12 (.t 1)⟩,
 ⟨none, .mv 4 (.c (.i .i64 0))⟩])
 (.seq (.seq (.reg [⟨none, .faddr 6 4 (.t 2)⟩,
 ⟨none, .load 7 8 true (.t 6)⟩,
 ⟨none, .faddr 8 4 (.t 3)⟩,
 ⟨none, .load 9 8 true (.t 8)⟩,
 ⟨none, .call (some 10) n_monomial_Cmp [.t 7, .t 9]⟩,
 ⟨none, .mv 5 (.t 10)⟩])
 (.seq (.reg [⟨none, .mv 11 (.t 5)⟩,
 ⟨none, .bin 12 .neq (.t 11) (.c (.i .i64 0))⟩])
 (.cond (.t 12) (.seq (.reg [⟨none, .mv 13 (.t 5)⟩,
 ⟨none, .mv 4 (.t 13)⟩])
 (.ret))
 (.skip))))
 (.seq (.reg [⟨none, .faddr 14 0 (.t 2)⟩,
 ⟨none, .load 15 4 true (.t 14)⟩,
 ⟨none, .faddr 16 0 (.t 3)⟩,
 ⟨none, .load 17 4 true (.t 16)⟩,
 ⟨none, .call (some 18) n_rational_Cmp [.t 15, .t 17]⟩,
 ⟨none, .mv 4 (.t 18)⟩])
 (.ret)))⟩
/- slices.CompareFunc[eliminant/api.Poly,eliminant/api.Poly,eliminant/api.Term,eliminant/api.Term] -/
def l_slices_CompareFunc_api_Poly_api_Poly_api_Term_api_Term_0 : C :=
 .seq (.reg [⟨none, .bin 14 .lss (.t 13) (.t 12)⟩])
 (.seq (.cond (.t 14) (.skip)
 (.exit 0))
 (.seq (.block 1 (.seq (.reg [⟨none, .mv 15 (.t 13)⟩,
 ⟨none, .iaddrS 16 12 (.t 11) (.t 13)⟩,
 ⟨none, .load 17 12 true (.t 16)⟩,
 ⟨none, .alloc 8 [.b false, .nil, .b false, .nil, .i .i64 0, .i .i64 0, .i .i64 0, .i .i64 0, .i .i64 0, .i .i64 0, .i .i64 0, .i .i64 0]⟩,
 ⟨none, .mv 7 (.t 15)⟩,
 ⟨none, .store 12 (.t 8) (.t 17)⟩])
 (.seq (.seq (.reg [⟨none, .mv 18 (.t 7)⟩,
 ⟨none, .mv 19 (.t 1)⟩,
 ⟨none, .len 20 (.t 19)⟩,
 ⟨none, .bin 21 .geq (.t 18) (.t 20)⟩])
 (.cond (.t 21) (.seq (.reg [⟨none, .mv 6 (.c (.i .i64 1))⟩])
 (.ret))
 (.skip)))
 (.seq (.reg [⟨none, .mv 22 (.t 1)⟩,
 ⟨none, .mv 23 (.t 7)⟩,
 ⟨none, .iaddrS 24 12 (.t 22) (.t 23)⟩,
 ⟨none, .load 25 12 true (.t 24)⟩,
 ⟨none, .alloc 9 [.b false, .nil, .b false, .nil, .i .i64 0, .i .i64 0, .i .i64 0, .i .i64 0, .i .i64 0, .i .i64 0, .i .i64 0, .i .i64 0]⟩,
 ⟨none, .store 12 (.t 9) (.t 25)⟩])
 (.seq (.reg [⟨none, .mv 26 (.t 2)⟩,
 ⟨none, .load 27 12 true (.t 8)⟩,
 ⟨none, .load 28 12 true (.t 9)⟩,
 ⟨none, .callv (some 29) (.t 26) [.t 27, .t 28]⟩,
 ⟨none, .mv 10 (.t 29)⟩])
 (.seq (.reg [⟨none, .mv 30 (.t 10)⟩,
 ⟨none, .bin 31 .neq (.t 30) (.c (.i .i64 0))⟩])
 (.cond (.t 31) (.seq (.reg [⟨none, .mv 32 (.t 10)⟩,
 ⟨none, .mv 6 (.t 32)⟩])
 (.ret))
 (.skip))))))))
 (.reg [⟨none, .bin 33 .add (.t 13) (.c (.i .i64 1))⟩,
 ⟨none, .mv 13 (.t 33)⟩])))
def c_slices_CompareFunc_api_Poly_api_Poly_api_Term_api_Term : Fun := ⟨3, [.t 6],
 .seq (.reg [⟨none, .mv 6 (.c (.i .i64 0))⟩])
 (.seq (.seq (.reg [⟨none, .mv 11 (.t 0)⟩,
 ⟨none, .len 12 (.t 11)⟩,
 ⟨none, .mv 13 (.c (.i .i64 0))⟩])
 (.block 0 (.loop l_slices_CompareFunc_api_Poly_api_Poly_api_Term_api_Term_0)))
 (.seq (.seq (.reg [⟨none, .mv 34 (.t 0)⟩,
 ⟨none, .len 35 (.t 34)⟩,
 ⟨none, .mv 36 (.t 1)⟩,
 ⟨none, .len 37 (.t 36)⟩,
 ⟨none, .bin 38 .lss (.t 35) (.t 37)⟩])
 (.cond (.t 38) (.seq (.reg [⟨none, .mv 6 (.c (.i .i64 (-1)))⟩])
 (.ret))
 (.skip)))
 (.seq (.reg [⟨none, .mv 6 (.c (.i .i64 0))⟩])
 (.ret))))⟩
/- (*eliminant/groebner.builder).complete$1 -/
/- (*eliminant/groebner.builder).needless -/
/- eliminant/groebner.combine -/
def l_groebner_combine_0 : C :=
 .seq (.reg [⟨none, .bin 28 .lss (.t 27) (.t 26)⟩])
 (.seq (.cond (.t 28) (.skip)
 (.exit 0))
 (.seq (.block 1 (.seq (.reg [⟨none, .mv 29 (.t 27)⟩,
 ⟨none, .mv 11 (.t 29)⟩])
 (.reg [⟨none, .faddr 30 1 (.t 10)⟩,
 ⟨none, .load 31 1 false (.t 30)⟩,
 ⟨none, .mv 32 (.t 11)⟩,
 ⟨none, .mv 33 (.t 9)⟩,
 ⟨none, .faddr 34 1 (.t 4)⟩,
 ⟨none, .load 35 1 false (.t 34)⟩,
 ⟨none, .mv 36 (.t 11)⟩,
 ⟨none, .iaddrS 37 1 (.t 35) (.t 36)⟩,
 ⟨none, .load 38 1 false (.t 37)⟩,
 ⟨none, .faddr 39 1 (.t 6)⟩,
 ⟨none, .load 40 1 false (.t 39)⟩,
 ⟨none, .mv 41 (.t 11)⟩,
 ⟨none, .iaddrS 42 1 (.t 40) (.t 41)⟩,
 ⟨none, .load 43 1 false (.t 42)⟩,
 ⟨none, .callv (some 44) (.t 33) [.t 38, .t 43]⟩,
 ⟨none, .iaddrS 45 1 (.t 31) (.t 32)⟩,
 ⟨none, .store 1 (.t 45) (.t 44)⟩])))
 (.reg [⟨none, .bin 46 .add (.t 27) (.c (.i .i64 1))⟩,
 ⟨none, .mv 27 (.t 46)⟩])))
def c_groebner_combine : Fun := ⟨4, [.c 8 14 true],
 .seq (.reg [⟨none, .box 4 14 (.t 0)⟩,
 ⟨none, .box 5 1 (.t 1)⟩,
 ⟨none, .box 6 14 (.t 2)⟩,
 ⟨none, .box 7 1 (.t 3)⟩,
 ⟨none, .alloc 8 [.nil, .nil, .b false, .nil, .b false, .nil, .i .i64 0, .i .i64 0, .i .i64 0, .i .i64 0, .i .i64 0, .i .i64 0, .i .i64 0, .i .i64 0]⟩])
 (.seq (.reg [⟨none, .mkfn 12 n_groebner_combine_1 [.t 5, .t 7]⟩,
 ⟨none, .mv 9 (.t 12)⟩])
 (.seq (.reg [⟨none, .mv 13 (.t 9)⟩,
 ⟨none, .faddr 14 0 (.t 4)⟩,
 ⟨none, .load 15 1 false (.t 14)⟩,
 ⟨none, .faddr 16 0 (.t 6)⟩,
 ⟨none, .load 17 1 false (.t 16)⟩,
 ⟨none, .callv (some 18) (.t 13) [.t 15, .t 17]⟩,
 ⟨none, .faddr 19 1 (.t 4)⟩,
 ⟨none, .load 20 1 false (.t 19)⟩,
 ⟨none, .len 21 (.t 20)⟩,
 ⟨none, .mkslice 22 1 [.sl 0 []] (.t 21) (.t 21)⟩,
 ⟨none, .build 23 [.nil, .nil, .b false, .nil, .b false, .nil, .i .i64 0, .i .i64 0, .i .i64 0, .i .i64 0, .i .i64 0, .i .i64 0, .i .i64 0, .i .i64 0] [(0, 1, .t 18), (1, 1, .t 22)]⟩,
 ⟨none, .alloc 10 [.nil, .nil, .b false, .nil, .b false, .nil, .i .i64 0, .i .i64 0, .i .i64 0, .i .i64 0, .i .i64 0, .i .i64 0, .i .i64 0, .i .i64 0]⟩,
 ⟨none, .store 14 (.t 10) (.t 23)⟩])
 (.seq (.seq (.reg [⟨none, .faddr 24 1 (.t 10)⟩,
 ⟨none, .load 25 1 false (.t 24)⟩,
 ⟨none, .len 26 (.t 25)⟩,
 ⟨none, .mv 27 (.c (.i .i64 0))⟩])
 (.block 0 (.loop l_groebner_combine_0)))
 (.seq (.reg [⟨none, .load 47 14 true (.t 10)⟩,
 ⟨none, .store 14 (.t 8) (.t 47)⟩])
 (.ret)))))⟩
/- (eliminant/groebner.ordering).reduce -/
def l_groebner_ordering_reduce_0 : C :=
 .seq (.reg [⟨none, .bin 22 .lss (.t 21) (.t 20)⟩])
 (.seq (.cond (.t 22) (.skip)
 (.exit 0))
 (.seq (.block 1 (.seq (.reg [⟨none, .mv 23 (.t 21)⟩,
 ⟨none, .mv 9 (.t 23)⟩])
 (.reg [⟨none, .mv 24 (.t 8)⟩,
 ⟨none, .mv 25 (.t 9)⟩,
 ⟨none, .mv 26 (.t 2)⟩,
 ⟨none, .mv 27 (.t 9)⟩,
 ⟨none, .iaddrS 28 14 (.t 26) (.t 27)⟩,
 ⟨none, .faddr 29 0 (.t 28)⟩,
 ⟨none, .load 30 1 false (.t 29)⟩,
 ⟨none, .iaddrS 31 1 (.t 24) (.t 25)⟩,
 ⟨none, .store 1 (.t 31) (.t 30)⟩])))
 (.reg [⟨none, .bin 32 .add (.t 21) (.c (.i .i64 1))⟩,
 ⟨none, .mv 21 (.t 32)⟩])))
def l_groebner_ordering_reduce_1 : C :=
 .seq (.reg [⟨none, .bin 47 .lss (.t 46) (.t 45)⟩])
 (.seq (.cond (.t 47) (.skip)
 (.exit 2))
 (.seq (.block 3 (.seq (.reg [⟨none, .mv 48 (.t 46)⟩,
 ⟨none, .iaddrS 49 1 (.t 44) (.t 46)⟩,
 ⟨none, .load 50 1 false (.t 49)⟩,
 ⟨none, .mv 14 (.t 48)⟩,
 ⟨none, .mv 15 (.t 50)⟩])
 (.seq (.reg [⟨none, .mv 51 (.t 15)⟩,
 ⟨none, .len 52 (.t 51)⟩,
 ⟨none, .bin 53 .gtr (.t 52) (.c (.i .i64 0))⟩])
 (.cond (.t 53) (.reg [⟨none, .load 54 14 true (.t 4)⟩,
 ⟨none, .mv 55 (.t 13)⟩,
 ⟨none, .mv 56 (.t 2)⟩,
 ⟨none, .mv 57 (.t 14)⟩,
 ⟨none, .iaddrS 58 14 (.t 56) (.t 57)⟩,
 ⟨none, .load 59 14 true (.t 58)⟩,
 ⟨none, .mv 60 (.t 15)⟩,
 ⟨none, .call (some 61) n_groebner_combine [.t 54, .t 55, .t 59, .t 60]⟩,
 ⟨none, .store 14 (.t 4) (.t 61)⟩])
 (.skip)))))
 (.reg [⟨none, .bin 62 .add (.t 46) (.c (.i .i64 1))⟩,
 ⟨none, .mv 46 (.t 62)⟩])))
def c_groebner_ordering_reduce : Fun := ⟨3, [.c 6 14 true, .t 7],
 .seq (.reg [⟨none, .box 4 14 (.t 1)⟩,
 ⟨none, .alloc 6 [.nil, .nil, .b false, .nil, .b false, .nil, .i .i64 0, .i .i64 0, .i .i64 0, .i .i64 0, .i .i64 0, .i .i64 0, .i .i64 0, .i .i64 0]⟩,
 ⟨none, .mv 7 (.c (.b false))⟩])
 (.seq (.reg [⟨none, .mv 16 (.t 2)⟩,
 ⟨none, .len 17 (.t 16)⟩,
 ⟨none, .mkslice 18 1 [.sl 0 []] (.t 17) (.t 17)⟩,
 ⟨none, .mv 8 (.t 18)⟩])
 (.seq (.seq (.reg [⟨none, .mv 19 (.t 2)⟩,
 ⟨none, .len 20 (.t 19)⟩,
 ⟨none, .mv 21 (.c (.i .i64 0))⟩])
 (.block 0 (.loop l_groebner_ordering_reduce_0)))
 (.seq (.reg [⟨none, .faddr 34 0 (.t 4)⟩,
 ⟨none, .load 35 1 false (.t 34)⟩,
 ⟨none, .mv 36 (.t 8)⟩,
 ⟨none, .mv 37 (.t 0)⟩,
 ⟨none, .call (some 38) n_division_Divide [.t 35, .t 36, .t 37]⟩,
 ⟨none, .mv 33 (.t 38)⟩,
 ⟨none, .ext 39 0 (.t 33)⟩,
 ⟨none, .ext 40 1 (.t 33)⟩,
 ⟨none, .ext 41 2 (.t 33)⟩,
 ⟨none, .mv 10 (.t 39)⟩,
 ⟨none, .mv 11 (.t 40)⟩,
 ⟨none, .mv 12 (.t 41)⟩])
 (.seq (.reg [⟨none, .call (some 42) n_rational_Whole [.c (.i .i64 1)]⟩,
 ⟨none, .call (some 43) n_polynomial_Constant [.t 42]⟩,
 ⟨none, .mv 13 (.t 43)⟩])
 (.seq (.seq (.reg [⟨none, .mv 44 (.t 10)⟩,
 ⟨none, .len 45 (.t 44)⟩,
 ⟨none, .mv 46 (.c (.i .i64 0))⟩])
 (.block 2 (.loop l_groebner_ordering_reduce_1)))
 (.seq (.seq (.reg [⟨none, .faddr 63 0 (.t 4)⟩,
 ⟨none, .load 64 1 false (.t 63)⟩,
 ⟨none, .len 65 (.t 64)⟩,
 ⟨none, .bin 66 .eql (.t 65) (.c (.i .i64 0))⟩])
 (.cond (.t 66) (.seq (.reg [⟨none, .build 67 [.nil, .nil, .b false, .nil, .b false, .nil, .i .i64 0, .i .i64 0, .i .i64 0, .i .i64 0, .i .i64 0, .i .i64 0, .i .i64 0, .i .i64 0] []⟩,
 ⟨none, .store 14 (.t 6) (.t 67)⟩,
 ⟨none, .mv 7 (.c (.b false))⟩])
 (.ret))
 (.skip)))
 (.seq (.reg [⟨none, .mv 68 (.t 0)⟩,
 ⟨none, .faddr 69 0 (.t 4)⟩,
 ⟨none, .load 70 1 false (.t 69)⟩,
 ⟨none, .faddr 71 1 (.t 4)⟩,
 ⟨none, .load 72 1 false (.t 71)⟩,
 ⟨none, .call (some 73) n_groebner_ordering_element [.t 68, .t 70, .t 72]⟩,
 ⟨none, .store 14 (.t 6) (.t 73)⟩,
 ⟨none, .mv 7 (.c (.b true))⟩])
 (.ret))))))))⟩
/- slices.DeleteFunc[[]eliminant/groebner.pair,eliminant/groebner.pair] -/
/- slices.MinFunc[[]eliminant/groebner.pair,eliminant/groebner.pair] -/
/- (eliminant/groebner.ordering).finish$1 -/
/- (eliminant/groebner.ordering).finish$2 -/
/- slices.Clone[[]eliminant/groebner.element,eliminant/groebner.element] -/
/- slices.ContainsFunc[[]eliminant/groebner.element,eliminant/groebner.element] -/
/- slices.Delete[[]eliminant/groebner.element,eliminant/groebner.element] -/
/- slices.SortStableFunc[[]eliminant/groebner.element,eliminant/groebner.element] -/
/- eliminant/monomial.Support -/
def l_monomial_Support_0 : C :=
 .seq (.reg [⟨none, .bin 8 .lss (.t 7) (.c (.i .i64 8))⟩])
 (.seq (.cond (.t 8) (.skip)
 (.exit 0))
 (.seq (.block 1 (.seq (.reg [⟨none, .mv 9 (.t 7)⟩,
 ⟨none, .idx 10 8 1 false (.t 6) (.t 7)⟩,
 ⟨none, .mv 4 (.t 9)⟩,
 ⟨none, .mv 5 (.t 10)⟩])
 (.seq (.reg [⟨none, .mv 11 (.t 5)⟩,
 ⟨none, .bin 12 .gtr (.t 11) (.c (.i .i64 0))⟩])
 (.cond (.t 12) (.reg [⟨none, .mv 13 (.t 3)⟩,
 ⟨none, .mv 14 (.t 4)⟩,
 ⟨none, .bin 15 .shl (.c (.i .u8 1)) (.t 14)⟩,
 ⟨none, .bin 16 .or (.t 13) (.t 15)⟩,
 ⟨none, .mv 3 (.t 16)⟩])
 (.skip)))))
 (.reg [⟨none, .bin 17 .add (.t 7) (.c (.i .i64 1))⟩,
 ⟨none, .mv 7 (.t 17)⟩])))
def c_monomial_Support : Fun := ⟨1, [.t 2],
 .seq (.reg [⟨none, .box 1 8 (.t 0)⟩,
 ⟨none, .mv 2 (.c (.i .u8 0))⟩])
 (.seq (.reg [⟨none, .mv 3 (.c (.i .u8 0))⟩])
 (.seq (.seq (.reg [⟨none, .load 6 8 true (.t 1)⟩,
 ⟨none, .mv 7 (.c (.i .i64 0))⟩])
 (.block 0 (.loop l_monomial_Support_0)))
 (.seq (.reg [⟨none, .mv 18 (.t 3)⟩,
 ⟨none, .mv 2 (.t 18)⟩])
 (.ret))))⟩
/- (*eliminant/groebner.builder).open -/
/- eliminant/groebner.combine$1 -/
def c_groebner_combine_1 : Fun := ⟨4, [.t 6],
 .seq (.reg [⟨none, .mv 6 (.c (.nil))⟩])
 (.seq (.reg [⟨none, .load 12 1 false (.t 2)⟩,
 ⟨none, .mv 13 (.t 0)⟩,
 ⟨none, .call (some 14) n_polynomial_Mul [.t 12, .t 13]⟩,
 ⟨none, .mv 11 (.t 14)⟩,
 ⟨none, .ext 15 0 (.t 11)⟩,
 ⟨none, .ext 16 1 (.t 11)⟩,
 ⟨none, .mv 7 (.t 15)⟩,
 ⟨none, .mv 8 (.t 16)⟩])
 (.seq (.reg [⟨none, .load 18 1 false (.t 3)⟩,
 ⟨none, .mv 19 (.t 1)⟩,
 ⟨none, .call (some 20) n_polynomial_Mul [.t 18, .t 19]⟩,
 ⟨none, .mv 17 (.t 20)⟩,
 ⟨none, .ext 21 0 (.t 17)⟩,
 ⟨none, .ext 22 1 (.t 17)⟩,
 ⟨none, .mv 9 (.t 21)⟩,
 ⟨none, .mv 10 (.t 22)⟩])
 (.seq (.reg [⟨none, .mv 23 (.t 7)⟩,
 ⟨none, .mv 24 (.t 9)⟩,
 ⟨none, .call (some 25) n_polynomial_Sub [.t 23, .t 24]⟩,
 ⟨none, .mv 6 (.t 25)⟩])
 (.ret))))⟩
/- slices.IndexFunc[[]eliminant/groebner.pair,eliminant/groebner.pair] -/
/- (eliminant/groebner.ordering).compare -/
def c_groebner_ordering_compare : Fun := ⟨3, [.t 6],
 .seq (.reg [⟨none, .box 4 8 (.t 1)⟩,
 ⟨none, .box 5 8 (.t 2)⟩,
 ⟨none, .mv 6 (.c (.i .i64 0))⟩])
 (.seq (.reg [⟨none, .mv 7 (.t 0)⟩,
 ⟨none, .load 8 8 true (.t 4)⟩,
 ⟨none, .load 9 8 true (.t 5)⟩,
 ⟨none, .call (some 10) n_order_Cmp [.t 7, .t 8, .t 9]⟩,
 ⟨none, .mv 6 (.t 10)⟩])
 (.ret))⟩
/- slices.IndexFunc[[]eliminant/groebner.element,eliminant/groebner.element] -/
/- slices.stableCmpFunc[eliminant/groebner.element] -/
/- (*eliminant/groebner.builder).open$1 -/
/- slices.ContainsFunc[[]eliminant/groebner.pair,eliminant/groebner.pair] -/
/- slices.insertionSortCmpFunc[eliminant/groebner.element] -/
/- slices.symMergeCmpFunc[eliminant/groebner.element] -/
/- slices.rotateCmpFunc[eliminant/groebner.element] -/
/- slices.breakPatternsCmpFunc[eliminant/api.Term] -/
/- slices.choosePivotCmpFunc[eliminant/api.Term] -/
/- slices.heapSortCmpFunc[eliminant/api.Term] -/
/- slices.partialInsertionSortCmpFunc[eliminant/api.Term] -/
/- slices.partitionCmpFunc[eliminant/api.Term] -/
/- slices.partitionEqualCmpFunc[eliminant/api.Term] -/
/- slices.reverseRangeCmpFunc[eliminant/api.Term] -/
/- slices.swapRangeCmpFunc[eliminant/groebner.element] -/
/- slices.nextPowerOfTwo -/
/- (*slices.xorshift).Next -/
/- slices.medianAdjacentCmpFunc[eliminant/api.Term] -/
/- slices.medianCmpFunc[eliminant/api.Term] -/
/- slices.siftDownCmpFunc[eliminant/api.Term] -/
/- slices.order2CmpFunc[eliminant/api.Term] -/
/- eliminant/eliminantlaw17.IdealReserved -/
def c_law17_IdealReserved : Fun := ⟨3, [.t 6],
 .seq (.reg [⟨none, .box 4 1 (.t 1)⟩,
 ⟨none, .mv 6 (.c (.b false))⟩])
 (.seq (.reg [⟨none, .call (some 33) n_law17_examples []⟩,
 ⟨none, .mv 7 (.t 33)⟩])
 (.seq (.seq (.reg [⟨none, .mv 34 (.t 7)⟩,
 ⟨none, .un 35 .not (.t 34)⟩])
 (.cond (.t 35) (.seq (.reg [⟨none, .mv 6 (.c (.b false))⟩])
 (.ret))
 (.skip)))
 (.seq (.reg [⟨none, .mv 36 (.t 0)⟩,
 ⟨none, .call (some 37) n_law17_list [.t 36]⟩,
 ⟨none, .load 38 1 true (.t 4)⟩,
 ⟨none, .call (some 39) n_law17_small [.t 38]⟩,
 ⟨none, .mv 8 (.t 37)⟩,
 ⟨none, .mv 9 (.t 39)⟩])
 (.seq (.reg [⟨none, .call (some 41) n_ref06_Var [.c (.i .i64 7)]⟩,
 ⟨none, .mv 40 (.t 41)⟩,
 ⟨none, .ext 42 0 (.t 40)⟩,
 ⟨none, .ext 43 1 (.t 40)⟩,
 ⟨none, .mv 10 (.t 42)⟩,
 ⟨none, .mv 11 (.t 43)⟩])
 (.seq (.reg [⟨none, .bslice 44 0 1 [.sl 0 []] []⟩,
 ⟨none, .mv 45 (.t 8)⟩,
 ⟨none, .append 46 1 24 (.t 44) (.t 45)⟩,
 ⟨none, .mv 47 (.t 10)⟩,
 ⟨none, .mv 48 (.t 9)⟩,
 ⟨none, .call (some 49) n_ref06_Add [.t 47, .t 48]⟩,
 ⟨none, .bslice 50 1 1 [.sl 0 []] [(0, 1, .t 49)]⟩,
 ⟨none, .append 51 1 24 (.t 46) (.t 50)⟩,
 ⟨none, .mv 12 (.t 51)⟩])
 (.seq (.seq (.reg [⟨none, .mv 52 (.t 2)⟩,
 ⟨none, .bin 53 .rem (.t 52) (.c (.i .u8 2))⟩,
 ⟨none, .bin 54 .eql (.t 53) (.c (.i .u8 1))⟩])
 (.cond (.t 54) (.reg [⟨none, .mv 55 (.t 10)⟩,
 ⟨none, .mv 56 (.t 9)⟩,
 ⟨none, .call (some 57) n_ref06_Add [.t 55, .t 56]⟩,
 ⟨none, .bslice 58 1 1 [.sl 0 []] [(0, 1, .t 57)]⟩,
 ⟨none, .mv 59 (.t 8)⟩,
 ⟨none, .append 60 1 24 (.t 58) (.t 59)⟩,
 ⟨none, .mv 12 (.t 60)⟩])
 (.skip)))
 (.seq (.reg [⟨none, .mv 62 (.t 12)⟩,
 ⟨none, .mv 63 (.t 8)⟩,
 ⟨none, .call (some 64) n_ideal_Meet [.t 62, .t 63]⟩,
 ⟨none, .mv 61 (.t 64)⟩,
 ⟨none, .ext 65 0 (.t 61)⟩,
 ⟨none, .ext 66 1 (.t 61)⟩,
 ⟨none, .mv 13 (.t 65)⟩,
 ⟨none, .mv 14 (.t 66)⟩])
 (.seq (.reg [⟨none, .mv 68 (.t 8)⟩,
 ⟨none, .mv 69 (.t 12)⟩,
 ⟨none, .call (some 70) n_ideal_Meet [.t 68, .t 69]⟩,
 ⟨none, .mv 67 (.t 70)⟩,
 ⟨none, .ext 71 0 (.t 67)⟩,
 ⟨none, .ext 72 1 (.t 67)⟩,
 ⟨none, .mv 15 (.t 71)⟩,
 ⟨none, .mv 16 (.t 72)⟩])
 (.seq (.reg [⟨none, .mv 74 (.t 12)⟩,
 ⟨none, .mv 75 (.t 9)⟩,
 ⟨none, .call (some 76) n_ideal_Quotient [.t 74, .t 75]⟩,
 ⟨none, .mv 73 (.t 76)⟩,
 ⟨none, .ext 77 0 (.t 73)⟩,
 ⟨none, .ext 78 1 (.t 73)⟩,
 ⟨none, .mv 17 (.t 77)⟩,
 ⟨none, .mv 18 (.t 78)⟩])
 (.seq (.reg [⟨none, .mv 80 (.t 8)⟩,
 ⟨none, .mv 81 (.t 9)⟩,
 ⟨none, .mv 82 (.t 10)⟩,
 ⟨none, .call (some 83) n_ref06_Add [.t 81, .t 82]⟩,
 ⟨none, .call (some 84) n_ideal_Quotient [.t 80, .t 83]⟩,
 ⟨none, .mv 79 (.t 84)⟩,
 ⟨none, .ext 85 0 (.t 79)⟩,
 ⟨none, .ext 86 1 (.t 79)⟩,
 ⟨none, .mv 19 (.t 85)⟩,
 ⟨none, .mv 20 (.t 86)⟩])
 (.seq (.reg [⟨none, .mv 88 (.t 8)⟩,
 ⟨none, .mv 89 (.t 9)⟩,
 ⟨none, .mv 90 (.t 10)⟩,
 ⟨none, .call (some 91) n_ref06_Add [.t 89, .t 90]⟩,
 ⟨none, .call (some 92) n_ideal_Saturate [.t 88, .t 91]⟩,
 ⟨none, .mv 87 (.t 92)⟩,
 ⟨none, .ext 93 0 (.t 87)⟩,
 ⟨none, .ext 94 1 (.t 87)⟩,
 ⟨none, .ext 95 2 (.t 87)⟩,
 ⟨none, .mv 21 (.t 93)⟩,
 ⟨none, .mv 22 (.t 94)⟩,
 ⟨none, .mv 23 (.t 95)⟩])
 (.seq (.reg [⟨none, .mv 97 (.t 12)⟩,
 ⟨none, .mv 98 (.t 9)⟩,
 ⟨none, .call (some 99) n_ideal_Saturate [.t 97, .t 98]⟩,
 ⟨none, .mv 96 (.t 99)⟩,
 ⟨none, .ext 100 0 (.t 96)⟩,
 ⟨none, .ext 101 1 (.t 96)⟩,
 ⟨none, .ext 102 2 (.t 96)⟩,
 ⟨none, .mv 24 (.t 100)⟩,
 ⟨none, .mv 25 (.t 101)⟩,
 ⟨none, .mv 26 (.t 102)⟩])
 (.seq (.reg [⟨none, .mv 104 (.t 12)⟩,
 ⟨none, .mv 105 (.t 2)⟩,
 ⟨none, .call (some 106) n_ideal_Eliminate [.t 104, .t 105]⟩,
 ⟨none, .mv 103 (.t 106)⟩,
 ⟨none, .ext 107 0 (.t 103)⟩,
 ⟨none, .ext 108 1 (.t 103)⟩,
 ⟨none, .mv 27 (.t 107)⟩,
 ⟨none, .mv 28 (.t 108)⟩])
 (.seq (.reg [⟨none, .mv 110 (.t 9)⟩,
 ⟨none, .mv 111 (.t 10)⟩,
 ⟨none, .call (some 112) n_ref06_Add [.t 110, .t 111]⟩,
 ⟨none, .mv 113 (.t 8)⟩,
 ⟨none, .call (some 114) n_ideal_Power [.t 112, .t 113]⟩,
 ⟨none, .mv 109 (.t 114)⟩,
 ⟨none, .ext 115 0 (.t 109)⟩,
 ⟨none, .ext 116 1 (.t 109)⟩,
 ⟨none, .mv 29 (.t 115)⟩,
 ⟨none, .mv 30 (.t 116)⟩])
 (.seq (.reg [⟨none, .mv 118 (.t 9)⟩,
 ⟨none, .mv 119 (.t 12)⟩,
 ⟨none, .call (some 120) n_ideal_Power [.t 118, .t 119]⟩,
 ⟨none, .mv 117 (.t 120)⟩,
 ⟨none, .ext 121 0 (.t 117)⟩,
 ⟨none, .ext 122 1 (.t 117)⟩,
 ⟨none, .mv 31 (.t 121)⟩,
 ⟨none, .mv 32 (.t 122)⟩])
 (.seq (.seq (.reg [⟨none, .mv 123 (.t 14)⟩,
 ⟨none, .bin 124 .neq (.t 123) (.c (.i .i64 1))⟩,
 ⟨none, .mv 125 (.t 124)⟩,
 ⟨some (125, false, 126), .mv 126 (.t 16)⟩,
 ⟨some (125, false, 127), .mv 127 (.t 14)⟩,
 ⟨some (125, false, 128), .bin 128 .neq (.t 126) (.t 127)⟩,
 ⟨none, .pick 129 (.t 125) (.c (.b true)) (.t 128)⟩,
 ⟨none, .mv 130 (.t 129)⟩,
 ⟨some (130, false, 131), .mv 131 (.t 18)⟩,
 ⟨some (130, false, 132), .mv 132 (.t 14)⟩,
 ⟨some (130, false, 133), .bin 133 .neq (.t 131) (.t 132)⟩,
 ⟨none, .pick 134 (.t 130) (.c (.b true)) (.t 133)⟩,
 ⟨none, .mv 135 (.t 134)⟩,
 ⟨some (135, false, 136), .mv 136 (.t 20)⟩,
 ⟨some (135, false, 137), .mv 137 (.t 14)⟩,
 ⟨some (135, false, 138), .bin 138 .neq (.t 136) (.t 137)⟩,
 ⟨none, .pick 139 (.t 135) (.c (.b true)) (.t 138)⟩,
 ⟨none, .mv 140 (.t 139)⟩,
 ⟨some (140, false, 141), .mv 141 (.t 23)⟩,
 ⟨some (140, false, 142), .mv 142 (.t 14)⟩,
 ⟨some (140, false, 143), .bin 143 .neq (.t 141) (.t 142)⟩,
 ⟨none, .pick 144 (.t 140) (.c (.b true)) (.t 143)⟩,
 ⟨none, .mv 145 (.t 144)⟩,
 ⟨some (145, false, 146), .mv 146 (.t 26)⟩,
 ⟨some (145, false, 147), .mv 147 (.t 14)⟩,
 ⟨some (145, false, 148), .bin 148 .neq (.t 146) (.t 147)⟩,
 ⟨none, .pick 149 (.t 145) (.c (.b true)) (.t 148)⟩,
 ⟨none, .mv 150 (.t 149)⟩,
 ⟨some (150, false, 151), .mv 151 (.t 28)⟩,
 ⟨some (150, false, 152), .mv 152 (.t 14)⟩,
 ⟨some (150, false, 153), .bin 153 .neq (.t 151) (.t 152)⟩,
 ⟨none, .pick 154 (.t 150) (.c (.b true)) (.t 153)⟩,
 ⟨none, .mv 155 (.t 154)⟩,
 ⟨some (155, false, 156), .mv 156 (.t 30)⟩,
 ⟨some (155, false, 157), .mv 157 (.t 14)⟩,
 ⟨some (155, false, 158), .bin 158 .neq (.t 156) (.t 157)⟩,
 ⟨none, .pick 159 (.t 155) (.c (.b true)) (.t 158)⟩,
 ⟨none, .mv 160 (.t 159)⟩,
 ⟨some (160, false, 161), .mv 161 (.t 32)⟩,
 ⟨some (160, false, 162), .mv 162 (.t 14)⟩,
 ⟨some (160, false, 163), .bin 163 .neq (.t 161) (.t 162)⟩,
 ⟨none, .pick 164 (.t 160) (.c (.b true)) (.t 163)⟩])
 (.cond (.t 164) (.seq (.reg [⟨none, .mv 6 (.c (.b false))⟩])
 (.ret))
 (.skip)))
 (.seq (.reg [⟨none, .mv 165 (.t 13)⟩,
 ⟨none, .len 166 (.t 165)⟩,
 ⟨none, .mv 167 (.t 15)⟩,
 ⟨none, .len 168 (.t 167)⟩,
 ⟨none, .bin 169 .add (.t 166) (.t 168)⟩,
 ⟨none, .mv 170 (.t 17)⟩,
 ⟨none, .len 171 (.t 170)⟩,
 ⟨none, .bin 172 .add (.t 169) (.t 171)⟩,
 ⟨none, .mv 173 (.t 19)⟩,
 ⟨none, .len 174 (.t 173)⟩,
 ⟨none, .bin 175 .add (.t 172) (.t 174)⟩,
 ⟨none, .mv 176 (.t 21)⟩,
 ⟨none, .len 177 (.t 176)⟩,
 ⟨none, .bin 178 .add (.t 175) (.t 177)⟩,
 ⟨none, .mv 179 (.t 24)⟩,
 ⟨none, .len 180 (.t 179)⟩,
 ⟨none, .bin 181 .add (.t 178) (.t 180)⟩,
 ⟨none, .mv 182 (.t 27)⟩,
 ⟨none, .len 183 (.t 182)⟩,
 ⟨none, .bin 184 .add (.t 181) (.t 183)⟩,
 ⟨none, .bin 185 .eql (.t 184) (.c (.i .i64 0))⟩,
 ⟨none, .mv 186 (.t 185)⟩,
 ⟨some (186, true, 187), .mv 187 (.t 22)⟩,
 ⟨some (186, true, 188), .bin 188 .eql (.t 187) (.c (.i .i64 0))⟩,
 ⟨none, .pick 189 (.t 186) (.t 188) (.c (.b false))⟩,
 ⟨none, .mv 190 (.t 189)⟩,
 ⟨some (190, true, 191), .mv 191 (.t 25)⟩,
 ⟨some (190, true, 192), .bin 192 .eql (.t 191) (.c (.i .i64 0))⟩,
 ⟨none, .pick 193 (.t 190) (.t 192) (.c (.b false))⟩,
 ⟨none, .mv 194 (.t 193)⟩,
 ⟨some (194, true, 195), .mv 195 (.t 29)⟩,
 ⟨some (194, true, 196), .bin 196 .eql (.t 195) (.c (.i .i64 0))⟩,
 ⟨none, .pick 197 (.t 194) (.t 196) (.c (.b false))⟩,
 ⟨none, .mv 198 (.t 197)⟩,
 ⟨some (198, true, 199), .mv 199 (.t 31)⟩,
 ⟨some (198, true, 200), .bin 200 .eql (.t 199) (.c (.i .i64 0))⟩,
 ⟨none, .pick 201 (.t 198) (.t 200) (.c (.b false))⟩,
 ⟨none, .mv 202 (.t 201)⟩,
 ⟨some (202, true, 203), .mv 203 (.t 7)⟩,
 ⟨none, .pick 204 (.t 202) (.t 203) (.c (.b false))⟩,
 ⟨none, .mv 6 (.t 204)⟩])
 (.ret))))))))))))))))))⟩
/- eliminant/eliminantlaw17.list -/
def c_law17_list : Fun := ⟨1, [.t 2],
 .seq (.reg [⟨none, .mv 2 (.c (.nil))⟩])
 (.seq (.reg [⟨none, .mv 3 (.t 0)⟩,
 ⟨none, .call (some 4) n_ref06_List [.t 3, .c (.i .i64 2), .c (.i .i64 2), .c (.i .i64 3), .c (.i .i64 2)]⟩,
 ⟨none, .mv 2 (.t 4)⟩])
 (.ret))⟩
/- eliminant/eliminantlaw17.small -/
def c_law17_small : Fun := ⟨1, [.t 2],
 .seq (.reg [⟨none, .box 1 1 (.t 0)⟩,
 ⟨none, .mv 2 (.c (.nil))⟩])
 (.seq (.reg [⟨none, .load 3 1 true (.t 1)⟩,
 ⟨none, .call (some 4) n_ref06_Made [.t 3, .c (.i .i64 2), .c (.i .i64 1), .c (.i .i64 3)]⟩,
 ⟨none, .mv 2 (.t 4)⟩])
 (.ret))⟩
end Go.Ev

/- The program has these functions with this code. Printed by a program of mine. -/
namespace Go.Ev
open Go Go.Pm Go.Proofs
set_option maxRecDepth 100000
theorem ne_of_beq {a b : String} (h : (a == b) = false) : a ≠ b := by simpa using h
theorem hm_prog : Tryz.prog.follows .mixedOrders = true := by kernel_rfl
theorem has_ref06_Add : Has Tryz.prog n_ref06_Add c_ref06_Add := ⟨_, Tryz.func8, ne_of_beq (by kernel_rfl), by kernel_rfl⟩
theorem has_ref06_Times : Has Tryz.prog n_ref06_Times c_ref06_Times := ⟨_, Tryz.func40, ne_of_beq (by kernel_rfl), by kernel_rfl⟩
theorem has_ref06_Scale : Has Tryz.prog n_ref06_Scale c_ref06_Scale := ⟨_, Tryz.func46, ne_of_beq (by kernel_rfl), by kernel_rfl⟩
theorem has_ref06_Made : Has Tryz.prog n_ref06_Made c_ref06_Made := ⟨_, Tryz.func22, ne_of_beq (by kernel_rfl), by kernel_rfl⟩
theorem has_ref06_List : Has Tryz.prog n_ref06_List c_ref06_List := ⟨_, Tryz.func21, ne_of_beq (by kernel_rfl), by kernel_rfl⟩
theorem has_ref06_abs : Has Tryz.prog n_ref06_abs c_ref06_abs := ⟨_, Tryz.func51, ne_of_beq (by kernel_rfl), by kernel_rfl⟩
theorem has_ref04_Cmp : Has Tryz.prog n_ref04_Cmp c_ref04_Cmp := ⟨_, Tryz.func24, ne_of_beq (by kernel_rfl), by kernel_rfl⟩
theorem has_ref04_Mul : Has Tryz.prog n_ref04_Mul c_ref04_Mul := ⟨_, Tryz.func73, ne_of_beq (by kernel_rfl), by kernel_rfl⟩
theorem has_ref04_Valid : Has Tryz.prog n_ref04_Valid c_ref04_Valid := ⟨_, Tryz.func115, ne_of_beq (by kernel_rfl), by kernel_rfl⟩
theorem has_monomial_Cmp : Has Tryz.prog n_monomial_Cmp c_monomial_Cmp := ⟨_, Tryz.func135, ne_of_beq (by kernel_rfl), by kernel_rfl⟩
theorem has_slices_Compare_int_int : Has Tryz.prog n_slices_Compare_int_int c_slices_Compare_int_int := ⟨_, Tryz.func167, ne_of_beq (by kernel_rfl), by kernel_rfl⟩
theorem has_cmp_Compare_int : Has Tryz.prog n_cmp_Compare_int c_cmp_Compare_int := ⟨_, Tryz.func161, ne_of_beq (by kernel_rfl), by kernel_rfl⟩
theorem has_cmp_isNaN_int : Has Tryz.prog n_cmp_isNaN_int c_cmp_isNaN_int := ⟨_, Tryz.func181, ne_of_beq (by kernel_rfl), by kernel_rfl⟩
theorem has_rational_Sign : Has Tryz.prog n_rational_Sign c_rational_Sign := ⟨_, Tryz.func61, ne_of_beq (by kernel_rfl), by kernel_rfl⟩
theorem has_ref02_Sign : Has Tryz.prog n_ref02_Sign c_ref02_Sign := ⟨_, Tryz.func26, ne_of_beq (by kernel_rfl), by kernel_rfl⟩
theorem has_integer_Sign : Has Tryz.prog n_integer_Sign c_integer_Sign := ⟨_, Tryz.func102, ne_of_beq (by kernel_rfl), by kernel_rfl⟩
theorem has_ref01_Sign : Has Tryz.prog n_ref01_Sign c_ref01_Sign := ⟨_, Tryz.func56, ne_of_beq (by kernel_rfl), by kernel_rfl⟩
theorem has_slices_Clone_integer_nat_uint32 : Has Tryz.prog n_slices_Clone_integer_nat_uint32 c_slices_Clone_integer_nat_uint32 := ⟨_, Tryz.func149, ne_of_beq (by kernel_rfl), by kernel_rfl⟩
theorem has_law17_IdealReserved : Has Tryz.prog n_law17_IdealReserved c_law17_IdealReserved := ⟨_, Tryz.func3, ne_of_beq (by kernel_rfl), by kernel_rfl⟩
theorem has_law17_list : Has Tryz.prog n_law17_list c_law17_list := ⟨_, Tryz.func5, ne_of_beq (by kernel_rfl), by kernel_rfl⟩
theorem has_law17_small : Has Tryz.prog n_law17_small c_law17_small := ⟨_, Tryz.func6, ne_of_beq (by kernel_rfl), by kernel_rfl⟩
theorem has_ideal_Meet : Has Tryz.prog n_ideal_Meet c_ideal_Meet := ⟨_, Tryz.func9, ne_of_beq (by kernel_rfl), by kernel_rfl⟩
theorem has_ideal_Quotient : Has Tryz.prog n_ideal_Quotient c_ideal_Quotient := ⟨_, Tryz.func10, ne_of_beq (by kernel_rfl), by kernel_rfl⟩
theorem has_ideal_Saturate : Has Tryz.prog n_ideal_Saturate c_ideal_Saturate := ⟨_, Tryz.func11, ne_of_beq (by kernel_rfl), by kernel_rfl⟩
theorem has_ideal_Eliminate : Has Tryz.prog n_ideal_Eliminate c_ideal_Eliminate := ⟨_, Tryz.func12, ne_of_beq (by kernel_rfl), by kernel_rfl⟩
theorem has_ideal_Power : Has Tryz.prog n_ideal_Power c_ideal_Power := ⟨_, Tryz.func13, ne_of_beq (by kernel_rfl), by kernel_rfl⟩
theorem has_ideal_reserved : Has Tryz.prog n_ideal_reserved c_ideal_reserved := ⟨_, Tryz.func27, ne_of_beq (by kernel_rfl), by kernel_rfl⟩
theorem has_ideal_reserved_1 : Has Tryz.prog n_ideal_reserved_1 c_ideal_reserved_1 := ⟨_, Tryz.func57, ne_of_beq (by kernel_rfl), by kernel_rfl⟩
theorem has_polynomial_Uses : Has Tryz.prog n_polynomial_Uses c_polynomial_Uses := ⟨_, Tryz.func58, ne_of_beq (by kernel_rfl), by kernel_rfl⟩
theorem has_monomial_Support : Has Tryz.prog n_monomial_Support c_monomial_Support := ⟨_, Tryz.func99, ne_of_beq (by kernel_rfl), by kernel_rfl⟩
theorem has_slices_ContainsFunc_api_Poly_api_Poly : Has Tryz.prog n_slices_ContainsFunc_api_Poly_api_Poly c_slices_ContainsFunc_api_Poly_api_Poly := ⟨_, Tryz.func36, ne_of_beq (by kernel_rfl), by kernel_rfl⟩
theorem has_slices_IndexFunc_api_Poly_api_Poly : Has Tryz.prog n_slices_IndexFunc_api_Poly_api_Poly c_slices_IndexFunc_api_Poly_api_Poly := ⟨_, Tryz.func71, ne_of_beq (by kernel_rfl), by kernel_rfl⟩
end Go.Ev

/- A table of code for runs, and that the program has it. Printed by a program of mine. -/
namespace Go.Ev
open Go Go.Pm Go.Proofs
set_option maxRecDepth 100000
def KTL : List (Nat × Fun) := [(n_law17_examples, c_law17_examples), (n_law17_is, c_law17_is), (n_law17_term, c_law17_term), (n_ref06_Add, c_ref06_Add), (n_ref06_Same, c_ref06_Same), (n_ref06_Sub, c_ref06_Sub), (n_ref14_Sum, c_ref14_Sum), (n_ideal_reserved, c_ideal_reserved), (n_polynomial_Same, c_polynomial_Same), (n_slices_EqualFunc_api_Poly_api_Poly_api_Poly_api_Poly, c_slices_EqualFunc_api_Poly_api_Poly_api_Poly_api_Poly), (n_division_Divide, c_division_Divide), (n_ideal_times, c_ideal_times), (n_order_Reverse, c_order_Reverse), (n_polynomial_Add, c_polynomial_Add), (n_ideal_in, c_ideal_in), (n_polynomial_Constant, c_polynomial_Constant), (n_rational_Whole, c_rational_Whole), (n_mgcd_Divide, c_mgcd_Divide), (n_slices_ContainsFunc_api_Poly_api_Poly, c_slices_ContainsFunc_api_Poly_api_Poly), (n_ref02_Whole, c_ref02_Whole), (n_ref06_Constant, c_ref06_Constant), (n_ref06_Times, c_ref06_Times), (n_ref02_Add, c_ref02_Add), (n_ref02_Sign, c_ref02_Sign), (n_ref04_Cmp, c_ref04_Cmp), (n_ref06_SameTerm, c_ref06_SameTerm), (n_ref06_Scale, c_ref06_Scale), (n_ref06_Mul, c_ref06_Mul), (n_order_Eliminating, c_order_Eliminating), (n_ideal_reserved_1, c_ideal_reserved_1), (n_polynomial_Cmp, c_polynomial_Cmp), (n_polynomial_Sub, c_polynomial_Sub), (n_polynomial_Var, c_polynomial_Var), (n_division_divide, c_division_divide), (n_division_leadsOf, c_division_leadsOf), (n_order_Valid, c_order_Valid), (n_groebner_ordering_element, c_groebner_ordering_element), (n_slices_Clone_api_Order_8_int, c_slices_Clone_api_Order_8_int), (n_polynomial_Mul, c_polynomial_Mul), (n_order_Graded, c_order_Graded), (n_order_unit, c_order_unit), (n_polynomial_Add_1, c_polynomial_Add_1), (n_polynomial_merge, c_polynomial_merge), (n_rational_Add, c_rational_Add), (n_rational_Sign, c_rational_Sign), (n_integer_Of, c_integer_Of), (n_rational_of, c_rational_of), (n_monomial_Quo, c_monomial_Quo), (n_polynomial_Times, c_polynomial_Times), (n_rational_Div, c_rational_Div), (n_slices_IndexFunc_api_Poly_api_Poly, c_slices_IndexFunc_api_Poly_api_Poly), (n_ref01_Of, c_ref01_Of), (n_ref02_Mul, c_ref02_Mul), (n_ref04_Mul, c_ref04_Mul), (n_ref01_Add, c_ref01_Add), (n_ref01_Mul, c_ref01_Mul), (n_ref02_lowest, c_ref02_lowest), (n_ref01_Sign, c_ref01_Sign), (n_ref02_Same, c_ref02_Same), (n_polynomial_Uses, c_polynomial_Uses), (n_order_ones, c_order_ones), (n_polynomial_Cmp_1, c_polynomial_Cmp_1), (n_slices_CompareFunc_api_Poly_api_Poly_api_Term_api_Term, c_slices_CompareFunc_api_Poly_api_Poly_api_Term_api_Term), (n_rational_Neg, c_rational_Neg), (n_rational_Sub, c_rational_Sub), (n_division_leadOf, c_division_leadOf), (n_division_lead_under, c_division_lead_under), (n_monomial_Divides, c_monomial_Divides), (n_monomial_Lcm, c_monomial_Lcm), (n_groebner_combine, c_groebner_combine), (n_groebner_ordering_reduce, c_groebner_ordering_reduce), (n_polynomial_Lead, c_polynomial_Lead), (n_rational_Inv, c_rational_Inv), (n_monomial_Mul, c_monomial_Mul), (n_polynomial_sum_add, c_polynomial_sum_add), (n_rational_Mul, c_rational_Mul), (n_monomial_Cmp, c_monomial_Cmp), (n_integer_Add, c_integer_Add), (n_rational_lowest, c_rational_lowest), (n_rational_product, c_rational_product), (n_integer_Sign, c_integer_Sign), (n_integer_nat_signed, c_integer_nat_signed), (n_integer_natural, c_integer_natural), (n_monomial_Quo_1, c_monomial_Quo_1), (n_monomial_each, c_monomial_each), (n_rational_New, c_rational_New), (n_ref01_made, c_ref01_made), (n_ref01_words, c_ref01_words), (n_ref04_Valid, c_ref04_Valid), (n_ref01_added, c_ref01_added), (n_ref01_compared, c_ref01_compared), (n_ref01_taken, c_ref01_taken), (n_ref01_times, c_ref01_times), (n_ref01_Gcd, c_ref01_Gcd), (n_ref02_exact, c_ref02_exact), (n_ref02_same, c_ref02_same), (n_monomial_Support, c_monomial_Support), (n_rational_Cmp, c_rational_Cmp), (n_integer_Neg, c_integer_Neg), (n_integer_Sub, c_integer_Sub), (n_monomial_Gcd, c_monomial_Gcd), (n_monomial_Lcm_1, c_monomial_Lcm_1), (n_groebner_combine_1, c_groebner_combine_1), (n_polynomial_Lead_1, c_polynomial_Lead_1), (n_slices_MaxFunc_api_Poly_api_Term, c_slices_MaxFunc_api_Poly_api_Term), (n_groebner_ordering_compare, c_groebner_ordering_compare), (n_monomial_Mul_1, c_monomial_Mul_1), (n_monomial_Valid, c_monomial_Valid), (n_slices_Compare_int_int, c_slices_Compare_int_int), (n_integer_nat_add, c_integer_nat_add), (n_integer_nat_cmp, c_integer_nat_cmp), (n_integer_nat_sub, c_integer_nat_sub), (n_integer_DivMod, c_integer_DivMod), (n_integer_Gcd, c_integer_Gcd), (n_integer_Mul, c_integer_Mul), (n_integer_nat_norm, c_integer_nat_norm), (n_ref01_trim, c_ref01_trim), (n_ref01_word, c_ref01_word), (n_ref01_common, c_ref01_common), (n_ref01_DivMod, c_ref01_DivMod), (n_integer_Cmp, c_integer_Cmp), (n_monomial_Gcd_1, c_monomial_Gcd_1), (n_order_Cmp, c_order_Cmp), (n_cmp_Compare_int, c_cmp_Compare_int), (n_integer_nat_at, c_integer_nat_at), (n_math_bits_Add32, c_math_bits_Add32), (n_cmp_Compare_uint32, c_cmp_Compare_uint32), (n_math_bits_Sub32, c_math_bits_Sub32), (n_integer_nat_div, c_integer_nat_div), (n_integer_nat_mul, c_integer_nat_mul), (n_ref01_divided, c_ref01_divided), (n_ref01_euclid, c_ref01_euclid), (n_ref01_number, c_ref01_number), (n_cmp_isNaN_int, c_cmp_isNaN_int), (n_cmp_isNaN_uint32, c_cmp_isNaN_uint32), (n_integer_nat_word, c_integer_nat_word), (n_ref01_shortly, c_ref01_shortly), (n_math_bits_Div32, c_math_bits_Div32)]
def KT : Cfg := { fc := fcOf, fn := fun f => (KTL.find? (·.1 == f)).map (·.2) }
instance : NoSh KT := ⟨fun _ => rfl, rfl⟩
theorem KT_law17_examples : HasK KT Tryz.prog n_law17_examples c_law17_examples := ⟨_, Tryz.func4, ne_of_beq (by kernel_rfl), by kernel_rfl⟩
theorem KT_law17_is : HasK KT Tryz.prog n_law17_is c_law17_is := ⟨_, Tryz.func20, ne_of_beq (by kernel_rfl), by kernel_rfl⟩
theorem KT_law17_term : HasK KT Tryz.prog n_law17_term c_law17_term := ⟨_, Tryz.func14, ne_of_beq (by kernel_rfl), by kernel_rfl⟩
theorem KT_ref06_Add : HasK KT Tryz.prog n_ref06_Add c_ref06_Add := ⟨_, Tryz.func8, ne_of_beq (by kernel_rfl), by kernel_rfl⟩
theorem KT_ref06_Same : HasK KT Tryz.prog n_ref06_Same c_ref06_Same := ⟨_, Tryz.func17, ne_of_beq (by kernel_rfl), by kernel_rfl⟩
theorem KT_ref06_Sub : HasK KT Tryz.prog n_ref06_Sub c_ref06_Sub := ⟨_, Tryz.func16, ne_of_beq (by kernel_rfl), by kernel_rfl⟩
theorem KT_ref14_Sum : HasK KT Tryz.prog n_ref14_Sum c_ref14_Sum := ⟨_, Tryz.func18, ne_of_beq (by kernel_rfl), by kernel_rfl⟩
theorem KT_ideal_reserved : HasK KT Tryz.prog n_ideal_reserved c_ideal_reserved := ⟨_, Tryz.func27, ne_of_beq (by kernel_rfl), by kernel_rfl⟩
theorem KT_polynomial_Same : HasK KT Tryz.prog n_polynomial_Same c_polynomial_Same := ⟨_, Tryz.func50, ne_of_beq (by kernel_rfl), by kernel_rfl⟩
theorem KT_slices_EqualFunc_api_Poly_api_Poly_api_Poly_api_Poly : HasK KT Tryz.prog n_slices_EqualFunc_api_Poly_api_Poly_api_Poly_api_Poly c_slices_EqualFunc_api_Poly_api_Poly_api_Poly_api_Poly := ⟨_, Tryz.func49, ne_of_beq (by kernel_rfl), by kernel_rfl⟩
theorem KT_division_Divide : HasK KT Tryz.prog n_division_Divide c_division_Divide := ⟨_, Tryz.func44, ne_of_beq (by kernel_rfl), by kernel_rfl⟩
theorem KT_ideal_times : HasK KT Tryz.prog n_ideal_times c_ideal_times := ⟨_, Tryz.func39, ne_of_beq (by kernel_rfl), by kernel_rfl⟩
theorem KT_order_Reverse : HasK KT Tryz.prog n_order_Reverse c_order_Reverse := ⟨_, Tryz.func43, ne_of_beq (by kernel_rfl), by kernel_rfl⟩
theorem KT_polynomial_Add : HasK KT Tryz.prog n_polynomial_Add c_polynomial_Add := ⟨_, Tryz.func45, ne_of_beq (by kernel_rfl), by kernel_rfl⟩
theorem KT_ideal_in : HasK KT Tryz.prog n_ideal_in c_ideal_in := ⟨_, Tryz.func38, ne_of_beq (by kernel_rfl), by kernel_rfl⟩
theorem KT_polynomial_Constant : HasK KT Tryz.prog n_polynomial_Constant c_polynomial_Constant := ⟨_, Tryz.func29, ne_of_beq (by kernel_rfl), by kernel_rfl⟩
theorem KT_rational_Whole : HasK KT Tryz.prog n_rational_Whole c_rational_Whole := ⟨_, Tryz.func30, ne_of_beq (by kernel_rfl), by kernel_rfl⟩
theorem KT_mgcd_Divide : HasK KT Tryz.prog n_mgcd_Divide c_mgcd_Divide := ⟨_, Tryz.func31, ne_of_beq (by kernel_rfl), by kernel_rfl⟩
theorem KT_slices_ContainsFunc_api_Poly_api_Poly : HasK KT Tryz.prog n_slices_ContainsFunc_api_Poly_api_Poly c_slices_ContainsFunc_api_Poly_api_Poly := ⟨_, Tryz.func36, ne_of_beq (by kernel_rfl), by kernel_rfl⟩
theorem KT_ref02_Whole : HasK KT Tryz.prog n_ref02_Whole c_ref02_Whole := ⟨_, Tryz.func23, ne_of_beq (by kernel_rfl), by kernel_rfl⟩
theorem KT_ref06_Constant : HasK KT Tryz.prog n_ref06_Constant c_ref06_Constant := ⟨_, Tryz.func41, ne_of_beq (by kernel_rfl), by kernel_rfl⟩
theorem KT_ref06_Times : HasK KT Tryz.prog n_ref06_Times c_ref06_Times := ⟨_, Tryz.func40, ne_of_beq (by kernel_rfl), by kernel_rfl⟩
theorem KT_ref02_Add : HasK KT Tryz.prog n_ref02_Add c_ref02_Add := ⟨_, Tryz.func25, ne_of_beq (by kernel_rfl), by kernel_rfl⟩
theorem KT_ref02_Sign : HasK KT Tryz.prog n_ref02_Sign c_ref02_Sign := ⟨_, Tryz.func26, ne_of_beq (by kernel_rfl), by kernel_rfl⟩
theorem KT_ref04_Cmp : HasK KT Tryz.prog n_ref04_Cmp c_ref04_Cmp := ⟨_, Tryz.func24, ne_of_beq (by kernel_rfl), by kernel_rfl⟩
theorem KT_ref06_SameTerm : HasK KT Tryz.prog n_ref06_SameTerm c_ref06_SameTerm := ⟨_, Tryz.func47, ne_of_beq (by kernel_rfl), by kernel_rfl⟩
theorem KT_ref06_Scale : HasK KT Tryz.prog n_ref06_Scale c_ref06_Scale := ⟨_, Tryz.func46, ne_of_beq (by kernel_rfl), by kernel_rfl⟩
theorem KT_ref06_Mul : HasK KT Tryz.prog n_ref06_Mul c_ref06_Mul := ⟨_, Tryz.func48, ne_of_beq (by kernel_rfl), by kernel_rfl⟩
theorem KT_order_Eliminating : HasK KT Tryz.prog n_order_Eliminating c_order_Eliminating := ⟨_, Tryz.func68, ne_of_beq (by kernel_rfl), by kernel_rfl⟩
theorem KT_ideal_reserved_1 : HasK KT Tryz.prog n_ideal_reserved_1 c_ideal_reserved_1 := ⟨_, Tryz.func57, ne_of_beq (by kernel_rfl), by kernel_rfl⟩
theorem KT_polynomial_Cmp : HasK KT Tryz.prog n_polynomial_Cmp c_polynomial_Cmp := ⟨_, Tryz.func89, ne_of_beq (by kernel_rfl), by kernel_rfl⟩
theorem KT_polynomial_Sub : HasK KT Tryz.prog n_polynomial_Sub c_polynomial_Sub := ⟨_, Tryz.func60, ne_of_beq (by kernel_rfl), by kernel_rfl⟩
theorem KT_polynomial_Var : HasK KT Tryz.prog n_polynomial_Var c_polynomial_Var := ⟨_, Tryz.func59, ne_of_beq (by kernel_rfl), by kernel_rfl⟩
theorem KT_division_divide : HasK KT Tryz.prog n_division_divide c_division_divide := ⟨_, Tryz.func83, ne_of_beq (by kernel_rfl), by kernel_rfl⟩
theorem KT_division_leadsOf : HasK KT Tryz.prog n_division_leadsOf c_division_leadsOf := ⟨_, Tryz.func84, ne_of_beq (by kernel_rfl), by kernel_rfl⟩
theorem KT_order_Valid : HasK KT Tryz.prog n_order_Valid c_order_Valid := ⟨_, Tryz.func75, ne_of_beq (by kernel_rfl), by kernel_rfl⟩
theorem KT_groebner_ordering_element : HasK KT Tryz.prog n_groebner_ordering_element c_groebner_ordering_element := ⟨_, Tryz.func77, ne_of_beq (by kernel_rfl), by kernel_rfl⟩
theorem KT_slices_Clone_api_Order_8_int : HasK KT Tryz.prog n_slices_Clone_api_Order_8_int c_slices_Clone_api_Order_8_int := ⟨_, Tryz.func79, ne_of_beq (by kernel_rfl), by kernel_rfl⟩
theorem KT_polynomial_Mul : HasK KT Tryz.prog n_polynomial_Mul c_polynomial_Mul := ⟨_, Tryz.func72, ne_of_beq (by kernel_rfl), by kernel_rfl⟩
theorem KT_order_Graded : HasK KT Tryz.prog n_order_Graded c_order_Graded := ⟨_, Tryz.func81, ne_of_beq (by kernel_rfl), by kernel_rfl⟩
theorem KT_order_unit : HasK KT Tryz.prog n_order_unit c_order_unit := ⟨_, Tryz.func82, ne_of_beq (by kernel_rfl), by kernel_rfl⟩
theorem KT_polynomial_Add_1 : HasK KT Tryz.prog n_polynomial_Add_1 c_polynomial_Add_1 := ⟨_, Tryz.func87, ne_of_beq (by kernel_rfl), by kernel_rfl⟩
theorem KT_polynomial_merge : HasK KT Tryz.prog n_polynomial_merge c_polynomial_merge := ⟨_, Tryz.func85, ne_of_beq (by kernel_rfl), by kernel_rfl⟩
theorem KT_rational_Add : HasK KT Tryz.prog n_rational_Add c_rational_Add := ⟨_, Tryz.func86, ne_of_beq (by kernel_rfl), by kernel_rfl⟩
theorem KT_rational_Sign : HasK KT Tryz.prog n_rational_Sign c_rational_Sign := ⟨_, Tryz.func61, ne_of_beq (by kernel_rfl), by kernel_rfl⟩
theorem KT_integer_Of : HasK KT Tryz.prog n_integer_Of c_integer_Of := ⟨_, Tryz.func63, ne_of_beq (by kernel_rfl), by kernel_rfl⟩
theorem KT_rational_of : HasK KT Tryz.prog n_rational_of c_rational_of := ⟨_, Tryz.func62, ne_of_beq (by kernel_rfl), by kernel_rfl⟩
theorem KT_monomial_Quo : HasK KT Tryz.prog n_monomial_Quo c_monomial_Quo := ⟨_, Tryz.func64, ne_of_beq (by kernel_rfl), by kernel_rfl⟩
theorem KT_polynomial_Times : HasK KT Tryz.prog n_polynomial_Times c_polynomial_Times := ⟨_, Tryz.func66, ne_of_beq (by kernel_rfl), by kernel_rfl⟩
theorem KT_rational_Div : HasK KT Tryz.prog n_rational_Div c_rational_Div := ⟨_, Tryz.func65, ne_of_beq (by kernel_rfl), by kernel_rfl⟩
theorem KT_slices_IndexFunc_api_Poly_api_Poly : HasK KT Tryz.prog n_slices_IndexFunc_api_Poly_api_Poly c_slices_IndexFunc_api_Poly_api_Poly := ⟨_, Tryz.func71, ne_of_beq (by kernel_rfl), by kernel_rfl⟩
theorem KT_ref01_Of : HasK KT Tryz.prog n_ref01_Of c_ref01_Of := ⟨_, Tryz.func52, ne_of_beq (by kernel_rfl), by kernel_rfl⟩
theorem KT_ref02_Mul : HasK KT Tryz.prog n_ref02_Mul c_ref02_Mul := ⟨_, Tryz.func74, ne_of_beq (by kernel_rfl), by kernel_rfl⟩
theorem KT_ref04_Mul : HasK KT Tryz.prog n_ref04_Mul c_ref04_Mul := ⟨_, Tryz.func73, ne_of_beq (by kernel_rfl), by kernel_rfl⟩
theorem KT_ref01_Add : HasK KT Tryz.prog n_ref01_Add c_ref01_Add := ⟨_, Tryz.func54, ne_of_beq (by kernel_rfl), by kernel_rfl⟩
theorem KT_ref01_Mul : HasK KT Tryz.prog n_ref01_Mul c_ref01_Mul := ⟨_, Tryz.func55, ne_of_beq (by kernel_rfl), by kernel_rfl⟩
theorem KT_ref02_lowest : HasK KT Tryz.prog n_ref02_lowest c_ref02_lowest := ⟨_, Tryz.func53, ne_of_beq (by kernel_rfl), by kernel_rfl⟩
theorem KT_ref01_Sign : HasK KT Tryz.prog n_ref01_Sign c_ref01_Sign := ⟨_, Tryz.func56, ne_of_beq (by kernel_rfl), by kernel_rfl⟩
theorem KT_ref02_Same : HasK KT Tryz.prog n_ref02_Same c_ref02_Same := ⟨_, Tryz.func88, ne_of_beq (by kernel_rfl), by kernel_rfl⟩
theorem KT_polynomial_Uses : HasK KT Tryz.prog n_polynomial_Uses c_polynomial_Uses := ⟨_, Tryz.func58, ne_of_beq (by kernel_rfl), by kernel_rfl⟩
theorem KT_order_ones : HasK KT Tryz.prog n_order_ones c_order_ones := ⟨_, Tryz.func112, ne_of_beq (by kernel_rfl), by kernel_rfl⟩
theorem KT_polynomial_Cmp_1 : HasK KT Tryz.prog n_polynomial_Cmp_1 c_polynomial_Cmp_1 := ⟨_, Tryz.func140, ne_of_beq (by kernel_rfl), by kernel_rfl⟩
theorem KT_slices_CompareFunc_api_Poly_api_Poly_api_Term_api_Term : HasK KT Tryz.prog n_slices_CompareFunc_api_Poly_api_Poly_api_Term_api_Term c_slices_CompareFunc_api_Poly_api_Poly_api_Term_api_Term := ⟨_, Tryz.func139, ne_of_beq (by kernel_rfl), by kernel_rfl⟩
theorem KT_rational_Neg : HasK KT Tryz.prog n_rational_Neg c_rational_Neg := ⟨_, Tryz.func101, ne_of_beq (by kernel_rfl), by kernel_rfl⟩
theorem KT_rational_Sub : HasK KT Tryz.prog n_rational_Sub c_rational_Sub := ⟨_, Tryz.func100, ne_of_beq (by kernel_rfl), by kernel_rfl⟩
theorem KT_division_leadOf : HasK KT Tryz.prog n_division_leadOf c_division_leadOf := ⟨_, Tryz.func133, ne_of_beq (by kernel_rfl), by kernel_rfl⟩
theorem KT_division_lead_under : HasK KT Tryz.prog n_division_lead_under c_division_lead_under := ⟨_, Tryz.func134, ne_of_beq (by kernel_rfl), by kernel_rfl⟩
theorem KT_monomial_Divides : HasK KT Tryz.prog n_monomial_Divides c_monomial_Divides := ⟨_, Tryz.func105, ne_of_beq (by kernel_rfl), by kernel_rfl⟩
theorem KT_monomial_Lcm : HasK KT Tryz.prog n_monomial_Lcm c_monomial_Lcm := ⟨_, Tryz.func116, ne_of_beq (by kernel_rfl), by kernel_rfl⟩
theorem KT_groebner_combine : HasK KT Tryz.prog n_groebner_combine c_groebner_combine := ⟨_, Tryz.func124, ne_of_beq (by kernel_rfl), by kernel_rfl⟩
theorem KT_groebner_ordering_reduce : HasK KT Tryz.prog n_groebner_ordering_reduce c_groebner_ordering_reduce := ⟨_, Tryz.func125, ne_of_beq (by kernel_rfl), by kernel_rfl⟩
theorem KT_polynomial_Lead : HasK KT Tryz.prog n_polynomial_Lead c_polynomial_Lead := ⟨_, Tryz.func117, ne_of_beq (by kernel_rfl), by kernel_rfl⟩
theorem KT_rational_Inv : HasK KT Tryz.prog n_rational_Inv c_rational_Inv := ⟨_, Tryz.func118, ne_of_beq (by kernel_rfl), by kernel_rfl⟩
theorem KT_monomial_Mul : HasK KT Tryz.prog n_monomial_Mul c_monomial_Mul := ⟨_, Tryz.func110, ne_of_beq (by kernel_rfl), by kernel_rfl⟩
theorem KT_polynomial_sum_add : HasK KT Tryz.prog n_polynomial_sum_add c_polynomial_sum_add := ⟨_, Tryz.func113, ne_of_beq (by kernel_rfl), by kernel_rfl⟩
theorem KT_rational_Mul : HasK KT Tryz.prog n_rational_Mul c_rational_Mul := ⟨_, Tryz.func111, ne_of_beq (by kernel_rfl), by kernel_rfl⟩
theorem KT_monomial_Cmp : HasK KT Tryz.prog n_monomial_Cmp c_monomial_Cmp := ⟨_, Tryz.func135, ne_of_beq (by kernel_rfl), by kernel_rfl⟩
theorem KT_integer_Add : HasK KT Tryz.prog n_integer_Add c_integer_Add := ⟨_, Tryz.func137, ne_of_beq (by kernel_rfl), by kernel_rfl⟩
theorem KT_rational_lowest : HasK KT Tryz.prog n_rational_lowest c_rational_lowest := ⟨_, Tryz.func136, ne_of_beq (by kernel_rfl), by kernel_rfl⟩
theorem KT_rational_product : HasK KT Tryz.prog n_rational_product c_rational_product := ⟨_, Tryz.func109, ne_of_beq (by kernel_rfl), by kernel_rfl⟩
theorem KT_integer_Sign : HasK KT Tryz.prog n_integer_Sign c_integer_Sign := ⟨_, Tryz.func102, ne_of_beq (by kernel_rfl), by kernel_rfl⟩
theorem KT_integer_nat_signed : HasK KT Tryz.prog n_integer_nat_signed c_integer_nat_signed := ⟨_, Tryz.func104, ne_of_beq (by kernel_rfl), by kernel_rfl⟩
theorem KT_integer_natural : HasK KT Tryz.prog n_integer_natural c_integer_natural := ⟨_, Tryz.func103, ne_of_beq (by kernel_rfl), by kernel_rfl⟩
theorem KT_monomial_Quo_1 : HasK KT Tryz.prog n_monomial_Quo_1 c_monomial_Quo_1 := ⟨_, Tryz.func107, ne_of_beq (by kernel_rfl), by kernel_rfl⟩
theorem KT_monomial_each : HasK KT Tryz.prog n_monomial_each c_monomial_each := ⟨_, Tryz.func106, ne_of_beq (by kernel_rfl), by kernel_rfl⟩
theorem KT_rational_New : HasK KT Tryz.prog n_rational_New c_rational_New := ⟨_, Tryz.func108, ne_of_beq (by kernel_rfl), by kernel_rfl⟩
theorem KT_ref01_made : HasK KT Tryz.prog n_ref01_made c_ref01_made := ⟨_, Tryz.func90, ne_of_beq (by kernel_rfl), by kernel_rfl⟩
theorem KT_ref01_words : HasK KT Tryz.prog n_ref01_words c_ref01_words := ⟨_, Tryz.func91, ne_of_beq (by kernel_rfl), by kernel_rfl⟩
theorem KT_ref04_Valid : HasK KT Tryz.prog n_ref04_Valid c_ref04_Valid := ⟨_, Tryz.func115, ne_of_beq (by kernel_rfl), by kernel_rfl⟩
theorem KT_ref01_added : HasK KT Tryz.prog n_ref01_added c_ref01_added := ⟨_, Tryz.func95, ne_of_beq (by kernel_rfl), by kernel_rfl⟩
theorem KT_ref01_compared : HasK KT Tryz.prog n_ref01_compared c_ref01_compared := ⟨_, Tryz.func96, ne_of_beq (by kernel_rfl), by kernel_rfl⟩
theorem KT_ref01_taken : HasK KT Tryz.prog n_ref01_taken c_ref01_taken := ⟨_, Tryz.func97, ne_of_beq (by kernel_rfl), by kernel_rfl⟩
theorem KT_ref01_times : HasK KT Tryz.prog n_ref01_times c_ref01_times := ⟨_, Tryz.func98, ne_of_beq (by kernel_rfl), by kernel_rfl⟩
theorem KT_ref01_Gcd : HasK KT Tryz.prog n_ref01_Gcd c_ref01_Gcd := ⟨_, Tryz.func92, ne_of_beq (by kernel_rfl), by kernel_rfl⟩
theorem KT_ref02_exact : HasK KT Tryz.prog n_ref02_exact c_ref02_exact := ⟨_, Tryz.func94, ne_of_beq (by kernel_rfl), by kernel_rfl⟩
theorem KT_ref02_same : HasK KT Tryz.prog n_ref02_same c_ref02_same := ⟨_, Tryz.func138, ne_of_beq (by kernel_rfl), by kernel_rfl⟩
theorem KT_monomial_Support : HasK KT Tryz.prog n_monomial_Support c_monomial_Support := ⟨_, Tryz.func99, ne_of_beq (by kernel_rfl), by kernel_rfl⟩
theorem KT_rational_Cmp : HasK KT Tryz.prog n_rational_Cmp c_rational_Cmp := ⟨_, Tryz.func141, ne_of_beq (by kernel_rfl), by kernel_rfl⟩
theorem KT_integer_Neg : HasK KT Tryz.prog n_integer_Neg c_integer_Neg := ⟨_, Tryz.func147, ne_of_beq (by kernel_rfl), by kernel_rfl⟩
theorem KT_integer_Sub : HasK KT Tryz.prog n_integer_Sub c_integer_Sub := ⟨_, Tryz.func146, ne_of_beq (by kernel_rfl), by kernel_rfl⟩
theorem KT_monomial_Gcd : HasK KT Tryz.prog n_monomial_Gcd c_monomial_Gcd := ⟨_, Tryz.func150, ne_of_beq (by kernel_rfl), by kernel_rfl⟩
theorem KT_monomial_Lcm_1 : HasK KT Tryz.prog n_monomial_Lcm_1 c_monomial_Lcm_1 := ⟨_, Tryz.func156, ne_of_beq (by kernel_rfl), by kernel_rfl⟩
theorem KT_groebner_combine_1 : HasK KT Tryz.prog n_groebner_combine_1 c_groebner_combine_1 := ⟨_, Tryz.func164, ne_of_beq (by kernel_rfl), by kernel_rfl⟩
theorem KT_polynomial_Lead_1 : HasK KT Tryz.prog n_polynomial_Lead_1 c_polynomial_Lead_1 := ⟨_, Tryz.func158, ne_of_beq (by kernel_rfl), by kernel_rfl⟩
theorem KT_slices_MaxFunc_api_Poly_api_Term : HasK KT Tryz.prog n_slices_MaxFunc_api_Poly_api_Term c_slices_MaxFunc_api_Poly_api_Term := ⟨_, Tryz.func157, ne_of_beq (by kernel_rfl), by kernel_rfl⟩
theorem KT_groebner_ordering_compare : HasK KT Tryz.prog n_groebner_ordering_compare c_groebner_ordering_compare := ⟨_, Tryz.func129, ne_of_beq (by kernel_rfl), by kernel_rfl⟩
theorem KT_monomial_Mul_1 : HasK KT Tryz.prog n_monomial_Mul_1 c_monomial_Mul_1 := ⟨_, Tryz.func152, ne_of_beq (by kernel_rfl), by kernel_rfl⟩
theorem KT_monomial_Valid : HasK KT Tryz.prog n_monomial_Valid c_monomial_Valid := ⟨_, Tryz.func153, ne_of_beq (by kernel_rfl), by kernel_rfl⟩
theorem KT_slices_Compare_int_int : HasK KT Tryz.prog n_slices_Compare_int_int c_slices_Compare_int_int := ⟨_, Tryz.func167, ne_of_beq (by kernel_rfl), by kernel_rfl⟩
theorem KT_integer_nat_add : HasK KT Tryz.prog n_integer_nat_add c_integer_nat_add := ⟨_, Tryz.func170, ne_of_beq (by kernel_rfl), by kernel_rfl⟩
theorem KT_integer_nat_cmp : HasK KT Tryz.prog n_integer_nat_cmp c_integer_nat_cmp := ⟨_, Tryz.func171, ne_of_beq (by kernel_rfl), by kernel_rfl⟩
theorem KT_integer_nat_sub : HasK KT Tryz.prog n_integer_nat_sub c_integer_nat_sub := ⟨_, Tryz.func172, ne_of_beq (by kernel_rfl), by kernel_rfl⟩
theorem KT_integer_DivMod : HasK KT Tryz.prog n_integer_DivMod c_integer_DivMod := ⟨_, Tryz.func169, ne_of_beq (by kernel_rfl), by kernel_rfl⟩
theorem KT_integer_Gcd : HasK KT Tryz.prog n_integer_Gcd c_integer_Gcd := ⟨_, Tryz.func168, ne_of_beq (by kernel_rfl), by kernel_rfl⟩
theorem KT_integer_Mul : HasK KT Tryz.prog n_integer_Mul c_integer_Mul := ⟨_, Tryz.func151, ne_of_beq (by kernel_rfl), by kernel_rfl⟩
theorem KT_integer_nat_norm : HasK KT Tryz.prog n_integer_nat_norm c_integer_nat_norm := ⟨_, Tryz.func148, ne_of_beq (by kernel_rfl), by kernel_rfl⟩
theorem KT_ref01_trim : HasK KT Tryz.prog n_ref01_trim c_ref01_trim := ⟨_, Tryz.func142, ne_of_beq (by kernel_rfl), by kernel_rfl⟩
theorem KT_ref01_word : HasK KT Tryz.prog n_ref01_word c_ref01_word := ⟨_, Tryz.func145, ne_of_beq (by kernel_rfl), by kernel_rfl⟩
theorem KT_ref01_common : HasK KT Tryz.prog n_ref01_common c_ref01_common := ⟨_, Tryz.func143, ne_of_beq (by kernel_rfl), by kernel_rfl⟩
theorem KT_ref01_DivMod : HasK KT Tryz.prog n_ref01_DivMod c_ref01_DivMod := ⟨_, Tryz.func144, ne_of_beq (by kernel_rfl), by kernel_rfl⟩
theorem KT_integer_Cmp : HasK KT Tryz.prog n_integer_Cmp c_integer_Cmp := ⟨_, Tryz.func173, ne_of_beq (by kernel_rfl), by kernel_rfl⟩
theorem KT_monomial_Gcd_1 : HasK KT Tryz.prog n_monomial_Gcd_1 c_monomial_Gcd_1 := ⟨_, Tryz.func177, ne_of_beq (by kernel_rfl), by kernel_rfl⟩
theorem KT_order_Cmp : HasK KT Tryz.prog n_order_Cmp c_order_Cmp := ⟨_, Tryz.func159, ne_of_beq (by kernel_rfl), by kernel_rfl⟩
theorem KT_cmp_Compare_int : HasK KT Tryz.prog n_cmp_Compare_int c_cmp_Compare_int := ⟨_, Tryz.func161, ne_of_beq (by kernel_rfl), by kernel_rfl⟩
theorem KT_integer_nat_at : HasK KT Tryz.prog n_integer_nat_at c_integer_nat_at := ⟨_, Tryz.func188, ne_of_beq (by kernel_rfl), by kernel_rfl⟩
theorem KT_math_bits_Add32 : HasK KT Tryz.prog n_math_bits_Add32 c_math_bits_Add32 := ⟨_, Tryz.func187, ne_of_beq (by kernel_rfl), by kernel_rfl⟩
theorem KT_cmp_Compare_uint32 : HasK KT Tryz.prog n_cmp_Compare_uint32 c_cmp_Compare_uint32 := ⟨_, Tryz.func189, ne_of_beq (by kernel_rfl), by kernel_rfl⟩
theorem KT_math_bits_Sub32 : HasK KT Tryz.prog n_math_bits_Sub32 c_math_bits_Sub32 := ⟨_, Tryz.func190, ne_of_beq (by kernel_rfl), by kernel_rfl⟩
theorem KT_integer_nat_div : HasK KT Tryz.prog n_integer_nat_div c_integer_nat_div := ⟨_, Tryz.func186, ne_of_beq (by kernel_rfl), by kernel_rfl⟩
theorem KT_integer_nat_mul : HasK KT Tryz.prog n_integer_nat_mul c_integer_nat_mul := ⟨_, Tryz.func178, ne_of_beq (by kernel_rfl), by kernel_rfl⟩
theorem KT_ref01_divided : HasK KT Tryz.prog n_ref01_divided c_ref01_divided := ⟨_, Tryz.func176, ne_of_beq (by kernel_rfl), by kernel_rfl⟩
theorem KT_ref01_euclid : HasK KT Tryz.prog n_ref01_euclid c_ref01_euclid := ⟨_, Tryz.func174, ne_of_beq (by kernel_rfl), by kernel_rfl⟩
theorem KT_ref01_number : HasK KT Tryz.prog n_ref01_number c_ref01_number := ⟨_, Tryz.func175, ne_of_beq (by kernel_rfl), by kernel_rfl⟩
theorem KT_cmp_isNaN_int : HasK KT Tryz.prog n_cmp_isNaN_int c_cmp_isNaN_int := ⟨_, Tryz.func181, ne_of_beq (by kernel_rfl), by kernel_rfl⟩
theorem KT_cmp_isNaN_uint32 : HasK KT Tryz.prog n_cmp_isNaN_uint32 c_cmp_isNaN_uint32 := ⟨_, Tryz.func211, ne_of_beq (by kernel_rfl), by kernel_rfl⟩
theorem KT_integer_nat_word : HasK KT Tryz.prog n_integer_nat_word c_integer_nat_word := ⟨_, Tryz.func206, ne_of_beq (by kernel_rfl), by kernel_rfl⟩
theorem KT_ref01_shortly : HasK KT Tryz.prog n_ref01_shortly c_ref01_shortly := ⟨_, Tryz.func191, ne_of_beq (by kernel_rfl), by kernel_rfl⟩
theorem KT_math_bits_Div32 : HasK KT Tryz.prog n_math_bits_Div32 c_math_bits_Div32 := ⟨_, Tryz.func218, ne_of_beq (by kernel_rfl), by kernel_rfl⟩
theorem KT_all : ∀ x ∈ KTL, HasK KT Tryz.prog x.1 x.2 := by
  simp only [KTL, List.forall_mem_cons, List.not_mem_nil, false_implies, implies_true, and_true]
  exact ⟨KT_law17_examples, KT_law17_is, KT_law17_term, KT_ref06_Add, KT_ref06_Same, KT_ref06_Sub, KT_ref14_Sum, KT_ideal_reserved, KT_polynomial_Same, KT_slices_EqualFunc_api_Poly_api_Poly_api_Poly_api_Poly, KT_division_Divide, KT_ideal_times, KT_order_Reverse, KT_polynomial_Add, KT_ideal_in, KT_polynomial_Constant, KT_rational_Whole, KT_mgcd_Divide, KT_slices_ContainsFunc_api_Poly_api_Poly, KT_ref02_Whole, KT_ref06_Constant, KT_ref06_Times, KT_ref02_Add, KT_ref02_Sign, KT_ref04_Cmp, KT_ref06_SameTerm, KT_ref06_Scale, KT_ref06_Mul, KT_order_Eliminating, KT_ideal_reserved_1, KT_polynomial_Cmp, KT_polynomial_Sub, KT_polynomial_Var, KT_division_divide, KT_division_leadsOf, KT_order_Valid, KT_groebner_ordering_element, KT_slices_Clone_api_Order_8_int, KT_polynomial_Mul, KT_order_Graded, KT_order_unit, KT_polynomial_Add_1, KT_polynomial_merge, KT_rational_Add, KT_rational_Sign, KT_integer_Of, KT_rational_of, KT_monomial_Quo, KT_polynomial_Times, KT_rational_Div, KT_slices_IndexFunc_api_Poly_api_Poly, KT_ref01_Of, KT_ref02_Mul, KT_ref04_Mul, KT_ref01_Add, KT_ref01_Mul, KT_ref02_lowest, KT_ref01_Sign, KT_ref02_Same, KT_polynomial_Uses, KT_order_ones, KT_polynomial_Cmp_1, KT_slices_CompareFunc_api_Poly_api_Poly_api_Term_api_Term, KT_rational_Neg, KT_rational_Sub, KT_division_leadOf, KT_division_lead_under, KT_monomial_Divides, KT_monomial_Lcm, KT_groebner_combine, KT_groebner_ordering_reduce, KT_polynomial_Lead, KT_rational_Inv, KT_monomial_Mul, KT_polynomial_sum_add, KT_rational_Mul, KT_monomial_Cmp, KT_integer_Add, KT_rational_lowest, KT_rational_product, KT_integer_Sign, KT_integer_nat_signed, KT_integer_natural, KT_monomial_Quo_1, KT_monomial_each, KT_rational_New, KT_ref01_made, KT_ref01_words, KT_ref04_Valid, KT_ref01_added, KT_ref01_compared, KT_ref01_taken, KT_ref01_times, KT_ref01_Gcd, KT_ref02_exact, KT_ref02_same, KT_monomial_Support, KT_rational_Cmp, KT_integer_Neg, KT_integer_Sub, KT_monomial_Gcd, KT_monomial_Lcm_1, KT_groebner_combine_1, KT_polynomial_Lead_1, KT_slices_MaxFunc_api_Poly_api_Term, KT_groebner_ordering_compare, KT_monomial_Mul_1, KT_monomial_Valid, KT_slices_Compare_int_int, KT_integer_nat_add, KT_integer_nat_cmp, KT_integer_nat_sub, KT_integer_DivMod, KT_integer_Gcd, KT_integer_Mul, KT_integer_nat_norm, KT_ref01_trim, KT_ref01_word, KT_ref01_common, KT_ref01_DivMod, KT_integer_Cmp, KT_monomial_Gcd_1, KT_order_Cmp, KT_cmp_Compare_int, KT_integer_nat_at, KT_math_bits_Add32, KT_cmp_Compare_uint32, KT_math_bits_Sub32, KT_integer_nat_div, KT_integer_nat_mul, KT_ref01_divided, KT_ref01_euclid, KT_ref01_number, KT_cmp_isNaN_int, KT_cmp_isNaN_uint32, KT_integer_nat_word, KT_ref01_shortly, KT_math_bits_Div32⟩
end Go.Ev

/- Steps by hand beside the interpreter: slots that are not written stay; a frame is begun anew with one row. -/
namespace Go.Ev
open Go.Pm

/-! ### Slots that are not written -/

theorem upon_put {P : Program} {o : Oper} {a : Act} {K K' : Act → World → Prop} {Q Q' : Exit → Act → World → Prop} (hK : ∀ (a1 : Act) v w', a1.tmps = a.tmps → K (a1.put o.dst v) w' → K' (a1.put o.dst v) w')
    (hp : ∀ c a w, Q (.panic c) a w → Q' (.panic c) a w) (ho : ∀ a w, Q .outgrown a w → Q' .outgrown a w) {r : Result Next} (h : o.upon P a K Q r) : o.upon P a K' Q' r := by
  cases r with
  | ok n w' =>
    cases n with
    | value v => exact hK a v w' rfl h
    | skip => exact hK a undef w' rfl h
    | defer d => exact hK { a with defers := d :: a.defers } undef w' rfl h
    | enter f args =>
      rw [Oper.upon_enter] at h ⊢
      refine Calls.mono h fun e w2 he => ?_
      cases e with
      | returned v => exact hK a v w2 rfl he
      | panicked c => exact hp _ _ _ he
      | outgrown => obtain ⟨a, w, he⟩ := he; exact ⟨a, w, ho _ _ he⟩
    | row r args =>
      rw [Oper.upon_row] at h ⊢
      exact Rows.mono h fun v w2 he => hK a v w2 rfl he
    | _ => exact h.elim
  | halt x w' =>
    cases x with
    | panic v => exact hp _ _ _ h
    | _ => exact h.elim

theorem getD_put {a : Act} {d : Option Tmp} {v : Value} {t : Nat} (h : d ≠ some t) : (a.put d v).tmps.getD t undef = a.tmps.getD t undef := by
  cases d with
  | none => rfl
  | some d =>
    simp only [Act.put, Array.getD_eq_getD_getElem?]
    rw [Array.getElem?_setIfInBounds_ne (by intro e; exact h (by rw [e]))]

theorem wpOps_slots {P : Program} {ops : Array Oper} {Q Q' : Exit → Act → World → Prop} (ts : List Nat) (a0 : Act) (hn : ∀ a w, Q .normal a w → (∀ t ∈ ts, a.tmps.getD t undef = a0.tmps.getD t undef) → Q' .normal a w)
    (hp : ∀ c a w, Q (.panic c) a w → Q' (.panic c) a w) (ho : ∀ a w, Q .outgrown a w → Q' .outgrown a w) : ∀ (idx : List Nat) (a : Act) (w : World), (∀ i ∈ idx, ∀ o, ops[i]? = some o → ∀ t ∈ ts, o.dst ≠ some t) →
    (∀ t ∈ ts, a.tmps.getD t undef = a0.tmps.getD t undef) → wpOps P ops Q idx a w → wpOps P ops Q' idx a w
  | [], a, w, _, ha, h => hn _ _ h ha
  | i :: r, a, w, hi, ha, h => by
    have hr : ∀ i ∈ r, ∀ o, ops[i]? = some o → ∀ t ∈ ts, o.dst ≠ some t := fun j hj => hi j (List.mem_cons_of_mem _ hj)
    simp only [wpOps] at h ⊢
    cases ho' : ops[i]? with
    | none => rw [ho'] at h; exact wpOps_slots ts a0 hn hp ho r a w hr ha h
    | some o =>
      rw [ho'] at h
      have hd := hi i (List.mem_cons_self ..) o ho'
      have next : ∀ (a1 : Act) v w', a1.tmps = a.tmps → wpOps P ops Q r (a1.put o.dst v) w' → wpOps P ops Q' r (a1.put o.dst v) w' := fun a1 v w' h1 h2 =>
        wpOps_slots ts a0 hn hp ho r _ w' hr (fun t ht => by rw [getD_put (hd t ht), h1]; exact ha t ht) h2
      simp only at h ⊢
      split
      · rename_i hw
        rw [if_pos hw] at h
        rcases h with h | h
        · left
          unfold Oper.wp at h ⊢
          exact upon_put next hp ho h
        · exact .inr ⟨h.1, let ⟨a, w, h⟩ := h.2; ⟨a, w, ho _ _ h⟩⟩
      · rename_i hw
        rw [if_neg hw] at h
        exact next a undef w rfl h

section
variable {P : Program} {K : Cfg} {cs : Sem} {n : Nat} {base : Nat} {L : Len}

/-- A region in its own order, run by the interpreter from some operation on; some slots stay. -/
theorem ops_ev [ShOK P K] {ops : Array Oper} {l : List Ins} (ts : List Nat) (k : Nat) (hl : toInsL P n ops ops.toList = some l) (hn : n ≤ 1000000) (hsem : SemOK P cs) (hts : (ops.toList.all fun o => ts.all fun t => o.dst != some t) = true)
    {Q : Exit → Act → World → Prop} {S : Pub} {N : Nm} {s sf : St} {a : Act} {w : World} (f : Fr base L S N s a.tmps w.heap) (hb : base ≤ w.heap.size) (ht : n ≤ a.tmps.size) (h : evL K cs s (l.drop k) = some sf)
    (hQ : ∀ a' w', Out base L S sf a w a' w' → (∀ t ∈ ts, a'.tmps.getD t undef = a.tmps.getD t undef) → Q .normal a' w') : wpOps P ops Q ((List.range ops.size).drop k) a w := by
  have hlen := (toInsL_ok hl).1
  simp at hlen
  have e : ((List.range ops.size).drop k).filterMap (l[·]?) = l.drop k := by
    have h0 := range_get l
    have : ∀ (m : Nat) (l2 : List Ins), m + l2.length = l.length → l.drop m = l2 → (List.range' m l2.length).filterMap (l[·]?) = l2 := by
      intro m l2
      induction l2 generalizing m with
      | nil => intros; simp
      | cons x r ih =>
        intro h1 h2
        rw [List.length_cons, List.range'_succ, List.filterMap_cons]
        have e1 : l[m]? = some x := by
          have := congrArg (·[0]?) h2
          simpa using this
        rw [e1]
        simp only
        rw [ih (m + 1) (by simp at h1; omega) (by rw [← List.drop_drop, h2]; rfl)]
    rw [List.range_eq_range', List.drop_range']
    by_cases hk : k ≤ l.length
    · have := this (0 + 1 * k) (l.drop k) (by simp; omega) (by simp)
      rw [List.length_drop, hlen] at this
      simpa using this
    · have e1 : ops.size - k = 0 := by omega
      rw [e1, List.drop_of_length_le (by omega)]; simp
  have h1 : wpOps P ops (fun e a' w' => e = .normal ∧ Out base L S sf a w a' w') ((List.range ops.size).drop k) a w :=
    wpOps_ev (K := K) hl hn hsem _ S N s sf a w (fun i hi => List.mem_range.1 (List.mem_of_mem_drop hi)) f hb ht (by rw [e]; exact h) fun a' w' ho => ⟨rfl, ho⟩
  refine wpOps_slots ts a (fun a' w' h hs => hQ a' w' h.2 hs) (fun c a w h => by cases h.1) (fun a w h => by cases h.1) _ a w (fun i hi o ho t htt => ?_) (fun _ _ => rfl) h1
  have hm : o ∈ ops.toList := by
    have := Array.mem_of_getElem? ho
    simpa using this
  have := List.all_eq_true.1 hts o hm
  have := List.all_eq_true.1 this t htt
  simpa using this
end
end Go.Ev

/- A frame begun anew with one row; the body of a function walked by hand. -/
namespace Go.Ev
open Go.Pm

section
variable {base : Nat} {L : Len} {S : Pub} {N : Nm} {vals : Nat → Option DV} {ol : Nat → List Ob} {Z : Nat × Nat → Prop} {a : Array Value} {hp : Hp}

theorem nth_single {ob ob' : Ob} {e : Nat} (h : nth [ob] e = some ob') : e = 0 ∧ ob' = ob := by
  have hl := nth_lt h
  simp at hl
  subst hl
  unfold nth at h
  simp at h
  exact ⟨rfl, h.2.symm⟩

/-- A frame in which one row is known, and some deep values. -/
theorem FR.restart (f : FR base L S N vals ol Z a hp) {base' : Nat} {L' : Len} (hnm : ∀ p, L'.nm p = none) (hgh : L'.g = []) {t h e m : Nat} {ob : Ob} {b : Nat} (hs : V hp S N (.ref h e 0 m) (a.getD t undef)) (ho : nth (ol h) e = some ob)
    (hN : N h e = some (some (b, ob.sz))) (hk : ob.k = 0) (hz : ¬ Z (h, e)) (hb : base' ≤ b ∨ L' b) (oldc : ∀ b o, S.c b o → L'.s.c b o ∨ base' ≤ b ∨ L' b) (oldm : ∀ b, S.m b → L'.s.m b ∨ base' ≤ b ∨ L' b)
    (vals' : Nat → Option DV) (hv : ∀ i d, vals' i = some d → i ≠ t → isDeep d = true ∧ V hp S N d (a.getD i undef)) (ht : vals' t = some (.ref t 0 0 m)) (ol' : Nat → List Ob) (hol : ∀ p, ol' p = if p = t then [ob] else []) (Z' : Nat × Nat → Prop) (hz' : ∀ p, ¬ Z' p) :
    FR base' L' S (fun p q => if p = t ∧ q = 0 then some (some (b, ob.sz)) else none) vals' ol' Z' a hp := by
  have hob : ∀ {h1 e1 ob1}, nth (ol' h1) e1 = some ob1 → h1 = t ∧ e1 = 0 ∧ ob1 = ob := by
    intro h1 e1 ob1 hn
    rw [hol] at hn
    split at hn
    · rename_i hh
      obtain ⟨g1, g2⟩ := nth_single hn
      exact ⟨hh, g1, g2⟩
    · simp [nth] at hn
  have hown : nth (ol' t) 0 = some ob := by
    rw [hol, if_pos rfl]
    unfold nth
    simp [hk]
  have hnN : ∀ {h1 e1 r}, (fun p q => if p = t ∧ q = 0 then some (some (b, ob.sz)) else none : Nm) h1 e1 = some r → h1 = t ∧ e1 = 0 ∧ r = some (b, ob.sz) := by
    intro h1 e1 r hr
    simp only at hr
    split at hr
    · rename_i hh; cases hr; exact ⟨hh.1, hh.2, rfl⟩
    · cases hr
  refine ⟨fun i d hd => ?_, fun h1 e1 ob1 hn => ?_, fun h1 e1 => ?_, fun h1 e1 p hp => ?_, fun h1 e1 h2 e2 b1 sz sz' g1 g2 => ?_, fun h1 e1 hz1 => absurd hz1 (hz' _), f.pub, f.pubm, oldc, oldm, fun p b1 hp => (by rw [hnm] at hp; cases hp), fun q hq => (by rw [hgh] at hq; cases hq)⟩
  · by_cases hi : i = t
    · subst hi
      rw [ht] at hd; cases hd
      simp only [V] at hs ⊢
      obtain ⟨ad, cap, r, g1, g2, g3, g4, g5⟩ := hs
      rw [hN] at g4; cases g4
      exact ⟨ad, cap, _, g1, g2, g3, by simp, g5⟩
    · obtain ⟨h1, h2⟩ := hv i d hd hi
      exact V.deep _ _ h1 h2
  · obtain ⟨rfl, rfl, rfl⟩ := hob hn
    obtain ⟨b', q1, q2, q3⟩ := f.obs _ _ _ ho
    rw [hN] at q1; simp at q1; subst q1
    have hd : areDeep ob1.cs = true := by
      rcases q2 with ⟨k1, _⟩ | ⟨_, _, _, _, _, _, _, _, _, k6⟩
      · omega
      · exact k6 hk
    exact ⟨b, by simp, (OB.unnamed hd (fun z => absurd z hz) q2).names, hb⟩
  · constructor
    · rintro ⟨r, hr⟩
      obtain ⟨rfl, rfl, _⟩ := hnN hr
      rw [hol, if_pos rfl]; simp
    · intro hl
      rw [hol] at hl
      split at hl
      · rename_i hh
        simp at hl
        exact ⟨_, if_pos ⟨hh, hl⟩⟩
      · simp at hl
  · obtain ⟨rfl, rfl, _⟩ := hnN hp
    exact ⟨ob, hown⟩
  · obtain ⟨rfl, rfl, _⟩ := hnN g1
    obtain ⟨rfl, rfl, _⟩ := hnN g2
    exact ⟨rfl, rfl⟩

/-- A slot of which nothing is said. -/
theorem FR.junk (f : FR base L S N vals ol Z a hp) {d : Nat} {v : Value} (hd : vals d = none) : FR base L S N vals ol Z (a.setIfInBounds d v) hp := by
  refine ⟨fun i y hy => ?_, f.obs, f.known, f.alive, f.inj, f.zk, f.pub, f.pubm, f.oldc, f.oldm, f.lentn, f.ghost⟩
  have hi : i ≠ d := by rintro rfl; rw [hd] at hy; cases hy
  have : (a.setIfInBounds d v).getD i undef = a.getD i undef := by
    simp only [Array.getD_eq_getD_getElem?]
    rw [Array.getElem?_setIfInBounds_ne (Ne.symm hi)]
  rw [this]
  exact f.slots i y hy

/-- A block of which nothing is said is changed. -/
theorem FR.block_free (f : FR base L S N vals ol Z a hp) {r : Nat} {o : Obj} (hc : ∀ x, ¬ S.c r x) (hm : ¬ S.m r) (hn : ∀ h e sz, N h e ≠ some (some (r, sz))) : FR base L S N vals ol Z a (hp.setIfInBounds r o) := by
  have hoth : ∀ b, b ≠ r → (hp.setIfInBounds r o)[b]? = hp[b]? := fun b hb => Array.getElem?_setIfInBounds_ne (Ne.symm hb)
  refine f.heap ⟨fun b x h => cellAt_of_eq (hoth b (by rintro rfl; exact hc x h)), fun b h => hoth b (by rintro rfl; exact hm h)⟩ fun h e b sz hN => hoth b (by rintro rfl; exact hn h e sz hN)
end

/-! ### A body walked by hand -/

/-- A function at one deep argument, walked by hand. -/
theorem FnAt.hand {P : Program} {f : FuncId} {fn : Func} {c : Code} (hf : P.funcs[f]? = some fn) (hname : fn.name ≠ "runtime.NumGoroutine") (hbody : fn.body = some c) {d r : DV} (hd : isDeep d = true) (hr : isDeep r = true) {t : Nat} (hres : fn.results = #[.tmp t])
    (hwalk : ∀ (w : World) (S : Pub) (v : Value) (a : Act), WF S w.heap → V w.heap S N0 d v → a.tmps = (#[v] ++ Array.replicate (fn.ntmps - 1) undef) → a.defers = [] →
      c.wp P (fun e a' w' => e = .ret ∧ a'.defers = [] ∧ ∃ S', Sub S S' ∧ WF S' w'.heap ∧ w.heap.size ≤ w'.heap.size ∧ (∀ b, b < w.heap.size → w'.heap[b]? = w.heap[b]?) ∧ (∀ b, rowSize w.heap b ≤ rowSize w'.heap b) ∧
        (∀ b o, S'.c b o → S.c b o ∨ w.heap.size ≤ b) ∧ (∀ b, S'.m b → S.m b ∨ w.heap.size ≤ b) ∧ V w'.heap S' N0 r (a'.tmps.getD t undef) ∧ Tw w w') a w) :
    FnAt P f [d] r [] := by
  refine ⟨⟨fn, hf, hname, by rw [hbody]; simp⟩, fun w S vs lent wf args lok => ?_⟩
  obtain ⟨rfl, hv⟩ := ArgsR_deep (by simp [areDeep, hd]) args
  simp only [VL] at hv
  obtain ⟨v, u, rfl, hv, rfl⟩ := hv
  refine calls_of_wp hf hbody ?_
  refine wp_mono (hwalk w S v _ wf hv rfl rfl) fun e a' w' h => ?_
  obtain ⟨rfl, h1, S', h2, h3, h4, h5, h6, h7, h8, h9, h10⟩ := h
  refine ⟨h1, a'.tmps.getD t undef, ?_, _, S', rfl, ⟨h2, h3, h4, fun b hb _ => h5 b hb, h6, h7, h8, ?_, rfl, h10⟩⟩
  · unfold results
    simp [hres]
  · refine ⟨[], by rw [adoptR_deep hr]; rfl, by simp, by simp, fun h c N _ => ?_⟩
    rw [adoptR_deep hr]
    exact V.deep _ _ hr h9
end Go.Ev

/- The walk over a map that gathers the terms of a polynomial: whatever the order of the entries. -/
namespace Go.Ev
open Go.Pm
open Go.ChangeMaps (setBlock)

theorem ops_one {P : Program} {ops : Array Oper} {Q : Exit → Act → World → Prop} {i : Nat} {r : List Nat} {a : Act} {w w' : World} {o : Oper} {v : Value} (ho : ops[i]? = some o) (hg : o.guard = none)
    (hrun : (execOp a.eval o).run P w = .ok (.value v) w') (h : wpOps P ops Q r (a.put o.dst v) w') : wpOps P ops Q (i :: r) a w := by
  have hw : Region.wanted o (yielded ops a.tmps) = true := by simp [Region.wanted, hg]
  simp only [wpOps, ho, hw, if_true]
  left
  unfold Oper.wp
  rw [hrun]; exact h

/-- The term of an entry. -/
def termOf (e : Mono × Rat) : Option Tm := if e.2 = 0 then none else some ⟨e.2, e.1⟩
def termsAt (es : Ent) (don : List Nat) : Poly := don.filterMap fun i => (es[i]?).bind termOf

/-- The state at the head of a round. -/
def stP (T : Poly) : St := obj (put st0 3 (.ref 3 0 0 T.length)) 3 [⟨0, 12, pcells T⟩]

theorem stP_v (T : Poly) (i : Nat) : (stP T).v.get i = if i = 3 then some (.ref 3 0 0 T.length) else none := by
  show gt (stP T) i = _
  unfold stP
  rw [gt_obj, gt_put (by omega), gt_st0]

theorem stP_lst (T : Poly) (p : Nat) : lst (stP T) p = if p = 3 then [⟨0, 12, pcells T⟩] else [] := by
  unfold stP
  rw [lst_obj (by omega), lst_put, lst_st0]

def L4 : List Ins := [⟨none, .fail (some 11)⟩,
      ⟨none, .ext 12 0 (.t 11)⟩,
      ⟨none, .ext 13 1 (.t 11)⟩,
      ⟨none, .alloc 4 [.i .i64 0, .i .i64 0, .i .i64 0, .i .i64 0, .i .i64 0, .i .i64 0, .i .i64 0, .i .i64 0]⟩,
      ⟨none, .alloc 5 [.b false, .nil, .b false, .nil]⟩,
      ⟨none, .store 8 (.t 4) (.t 12)⟩,
      ⟨none, .store 4 (.t 5) (.t 13)⟩]
def L5 : List Ins := [⟨none, .load 14 4 true (.t 5)⟩,
       ⟨none, .call (some 15) n_rational_Sign [.t 14]⟩,
       ⟨none, .bin 16 .neq (.t 15) (.c (.i .i64 0))⟩]
def L6 : List Ins := [⟨none, .mv 17 (.t 3)⟩,
        ⟨none, .load 18 4 true (.t 5)⟩,
        ⟨none, .load 19 8 true (.t 4)⟩,
        ⟨none, .build 20 [.b false, .nil, .b false, .nil, .i .i64 0, .i .i64 0, .i .i64 0, .i .i64 0, .i .i64 0, .i .i64 0, .i .i64 0, .i .i64 0] [(0, 4, .t 18), (4, 8, .t 19)]⟩,
        ⟨none, .bslice 21 1 12 [.b false, .sl 0 [], .b false, .sl 0 [], .i .i64 0, .i .i64 0, .i .i64 0, .i .i64 0, .i .i64 0, .i .i64 0, .i .i64 0, .i .i64 0] [(0, 12, .t 20)]⟩,
        ⟨none, .append 22 12 128 (.t 17) (.t 21)⟩,
        ⟨none, .mv 3 (.t 22)⟩]

theorem run4 (cs : Sem) (T : Poly) (m : Mono) (c : Rat) : WL KK cs (L4.drop 1) (app (stP T) (val 11 (.tup [dMono m, dRat c]))) fun s =>
    gt s 3 = some (.ref 3 0 0 T.length) ∧ lst s 3 = [⟨0, 12, pcells T⟩] ∧ gt s 4 = some (.ptr 4 0 0) ∧ lst s 4 = [⟨2, 0, mcells m⟩] ∧ gt s 5 = some (.ptr 5 0 0) ∧ lst s 5 = [⟨2, 0, rcells c⟩] ∧ lst s 21 = [] ∧ s.z = [] := by
  unfold L4 stP
  simp

theorem run5 {cs : Sem} (hsign : ∀ q, cs n_rational_Sign [dRat q] = some (.i .i64 (sgn q), [])) {T : Poly} {m : Mono} {c : Rat} {s : St}
    (h : gt s 3 = some (.ref 3 0 0 T.length) ∧ lst s 3 = [⟨0, 12, pcells T⟩] ∧ gt s 4 = some (.ptr 4 0 0) ∧ lst s 4 = [⟨2, 0, mcells m⟩] ∧ gt s 5 = some (.ptr 5 0 0) ∧ lst s 5 = [⟨2, 0, rcells c⟩] ∧ lst s 21 = [] ∧ s.z = []) :
    WL KK cs L5 s fun s => (gt s 3 = some (.ref 3 0 0 T.length) ∧ lst s 3 = [⟨0, 12, pcells T⟩] ∧ gt s 4 = some (.ptr 4 0 0) ∧ lst s 4 = [⟨2, 0, mcells m⟩] ∧ gt s 5 = some (.ptr 5 0 0) ∧ lst s 5 = [⟨2, 0, rcells c⟩] ∧ lst s 21 = [] ∧ s.z = []) ∧ gt s 16 = some (.b (sgn c != 0)) := by
  obtain ⟨h1, h2, h3, h4, h5, h6, h7, h8⟩ := h
  unfold L5
  simp [h1, h2, h3, h4, h5, h6, h7, h8, hsign]

theorem run6 {cs : Sem} {T : Poly} (hT : T.length ≤ 1000000) {m : Mono} {c : Rat} {s : St}
    (h : gt s 3 = some (.ref 3 0 0 T.length) ∧ lst s 3 = [⟨0, 12, pcells T⟩] ∧ gt s 4 = some (.ptr 4 0 0) ∧ lst s 4 = [⟨2, 0, mcells m⟩] ∧ gt s 5 = some (.ptr 5 0 0) ∧ lst s 5 = [⟨2, 0, rcells c⟩] ∧ lst s 21 = [] ∧ s.z = []) :
    WL KK cs L6 s fun s => ∃ h e, gt s 3 = some (.ref h e 0 (T.length + 1)) ∧ look s h e = some ⟨0, 12, pcells (T ++ [⟨c, m⟩])⟩ ∧ (h, e) ∉ s.z := by
  obtain ⟨h1, h2, h3, h4, h5, h6, h7, h8⟩ := h
  unfold L6
  have hn : ¬ 274877906943 < T.length := by omega
  simp [h1, h2, h3, h4, h5, h6, h7, h8, hn]
  refine ⟨3, 1, ?_⟩
  simp [nth]

/-! ### The loop -/

/-- What is so at the head of a round. -/
structure J (w1 : World) (S1 : Pub) (r bm blk since : Nat) (ms : Array MapEntry) (es : Ent) (don : List Nat) (a : Act) (w : World) : Prop where
  fr : ∃ S N, Sub S1 S ∧ Fr w1.heap.size ⟨fun b => b = blk, S1, fun _ => none, []⟩ S N (stP (termsAt es don)) a.tmps w.heap
  size : a.tmps.size = 26
  defers : a.defers = []
  it : a.tmps.getD 8 undef = .pointer (some ⟨r, 0, none⟩)
  iter : ∃ seen c, w.heap[r]? = some (.mapIter (some bm) since seen c) ∧ since ≤ c ∧ seen.toList = don.filterMap fun i => ms[i]?.map (·.born)
  grow : w1.heap.size ≤ w.heap.size
  old : ∀ b, b < w1.heap.size → b ≠ r → b ≠ blk → w.heap[b]? = w1.heap[b]?
  rows : ∀ b, rowSize w1.heap b ≤ rowSize w.heap b
  tw : Tw w1 w
  nodup : don.Nodup
  lt : ∀ i ∈ don, i < es.length

section
variable {P : Program} {cs : Sem} {w1 : World} {S1 : Pub} {r bm blk since clk : Nat} {ms : Array MapEntry} {es : Ent}

theorem VM.get {hp : Hp} {S : Pub} {N : Nm} : ∀ {ds : List DV} {l : List MapEntry} {i : Nat} {d : DV}, VM hp S N ds l → ds[i]? = some d → ∃ e, l[i]? = some e ∧ V hp S N d (.tuple #[e.key, e.val])
  | [], _, _, _, _, h => by simp at h
  | c :: q, l, i, d, h, hi => by
    simp only [VM] at h
    obtain ⟨m, t, rfl, h1, h2⟩ := h
    cases i with
    | zero => simp at hi; subst hi; exact ⟨m, by simp, h1⟩
    | succ i => simp at hi; simpa using VM.get h2 hi
/-- What is fixed while the loop runs. -/
structure Fixed (w1 : World) (S1 : Pub) (r bm blk since clk : Nat) (ms : Array MapEntry) (es : Ent) : Prop where
  wf : WF S1 w1.heap
  hr : r < w1.heap.size
  ri : ∃ seen c, w1.heap[r]? = some (.mapIter (some bm) since seen c)
  hb : w1.heap[bm]? = some (.map ms clk)
  hbr : bm ≠ r
  hbb : bm ≠ blk
  rb : r ≠ blk
  bl : blk < w1.heap.size
  un : (∀ o, ¬ S1.c blk o) ∧ ¬ S1.m blk
  vm : VM w1.heap S1 N0 (es.map dEnt) ms.toList
  ok : MapOK ms clk
  sc : since = clk
  len : es.length ≤ 1000000

theorem Fixed.keeps (F : Fixed w1 S1 r bm blk since clk ms es) {w : World} (h : ∀ b, b < w1.heap.size → b ≠ r → b ≠ blk → w.heap[b]? = w1.heap[b]?) : Keeps S1 w1.heap w.heap := by
  obtain ⟨seen, c, hri⟩ := F.ri
  constructor
  · intro b o hc
    obtain ⟨v, hv⟩ := F.wf.1 b o hc
    refine cellAt_of_eq (h b (lt_of_cell hv) ?_ ?_)
    · rintro rfl; simp [cellAt, hri] at hv
    · rintro rfl; exact F.un.1 o hc
  · intro b hc
    obtain ⟨x, y, hv⟩ := F.wf.2 b hc
    refine h b (lt_of_get hv) ?_ ?_
    · rintro rfl; rw [hri] at hv; cases hv
    · rintro rfl; exact F.un.2 hc

theorem WL_ev {K : Cfg} {cs : Sem} {ops : List Ins} {s : St} {Q : St → Prop} (h : WL K cs ops s Q) : ∃ sf, evL K cs s ops = some sf ∧ Q sf := by
  unfold WL at h
  split at h
  · exact ⟨_, by assumption, h⟩
  · exact h.elim

theorem Fr.again {base : Nat} {S1 : Pub} {S : Pub} {N : Nm} {s : St} {a : Array Value} {hp : Hp} {blk : Nat} (f : Fr base ⟨fun b => b = blk, S1, fun _ => none, []⟩ S N s a hp) {T : Poly} {h e m : Nat} (hm : m = T.length)
    (h1 : gt s 3 = some (.ref h e 0 m)) (h2 : look s h e = some ⟨0, 12, pcells T⟩) (h3 : (h, e) ∉ s.z) : ∃ N', Fr base ⟨fun b => b = blk, S1, fun _ => none, []⟩ S N' (stP T) a hp := by
  subst hm
  obtain ⟨b, q1, q2, q3⟩ := f.obs h e _ h2
  refine ⟨_, FR.restart f (fun _ => rfl) rfl (t := 3) (f.slots 3 _ h1) h2 q1 rfl h3 q3 f.oldc f.oldm (stP T).v.get (fun i d hd hi => ?_) ?_ (lst (stP T)) (stP_lst T) _ (fun p hp => ?_)⟩
  · rw [stP_v, if_neg hi] at hd; cases hd
  · rw [stP_v, if_pos rfl]
  · have : (stP T).z = [] := rfl
    rw [this] at hp; cases hp

theorem J.put {don : List Nat} {a : Act} {w : World} (j : J w1 S1 r bm blk since ms es don a w) {d : Nat} {v : Value} (h3 : d ≠ 3) (h8 : d ≠ 8) : J w1 S1 r bm blk since ms es don (a.put (some d) v) w := by
  obtain ⟨S, N, h1, h2⟩ := j.fr
  refine ⟨⟨S, N, h1, FR.junk h2 ?_⟩, by simp [put_some, j.size], j.defers, ?_, j.iter, j.grow, j.old, j.rows, j.tw, j.nodup, j.lt⟩
  · rw [stP_v, if_neg h3]
  · rw [getD_put (by intro e; cases e; exact h8 rfl)]; exact j.it

/-- The iterator steps on: its block is changed. -/
theorem Fr.step {S : Pub} {N : Nm} {s : St} {a : Array Value} {w : World} {base : Nat} {L : Len} (f : Fr base L S N s a w.heap) {seen : Array Nat} {c : Nat} (hr : w.heap[r]? = some (.mapIter (some bm) since seen c)) (o : Obj) : Fr base L S N s a (w.heap.setIfInBounds r o) := by
  refine FR.block_free f (fun x hc => ?_) (fun hc => ?_) (fun h e sz hN => ?_)
  · obtain ⟨v, hv⟩ := f.pub _ _ hc
    simp [cellAt, hr] at hv
  · obtain ⟨x, y, hv⟩ := f.pubm _ hc
    rw [hr] at hv; cases hv
  · obtain ⟨ob, ho⟩ := f.alive _ _ _ hN
    obtain ⟨b', g1, g2, _⟩ := f.obs _ _ _ ho
    rw [hN] at g1; simp at g1
    obtain ⟨rfl, _⟩ := g1
    rcases g2 with ⟨_, x, y, hv, _⟩ | ⟨_, x, y, _, _, hv, _⟩ <;> (rw [hr] at hv; cases hv)

theorem termsAt_append (es : Ent) (don : List Nat) (k : Nat) : termsAt es (don ++ [k]) = termsAt es don ++ ((es[k]?).bind termOf).toList := by
  unfold termsAt
  rw [List.filterMap_append]
  congr 1

theorem termsAt_length (es : Ent) (don : List Nat) : (termsAt es don).length ≤ don.length := List.length_filterMap_le _ _

theorem nodup_le : ∀ {n : Nat} {l : List Nat}, l.Nodup → (∀ i ∈ l, i < n) → l.length ≤ n := by
  intro n l hn hl
  have := hn.length_le_of_subset (l₂ := List.range n) (fun i hi => List.mem_range.2 (hl i hi))
  simpa using this

section
variable {r3 r4 r5 r6 : Array Oper} {i3 i4 i5 i6 : Nat} {o30 o31 o40 : Oper} {don : List Nat} {a : Act} {w : World}

/-- What the operations of a round are. -/
structure Ops (P : Program) (r3 r4 r5 r6 : Array Oper) (o30 o31 o40 : Oper) : Prop where
  e3 : r3 = #[o30, o31]
  p30 : o30.op = .next (.tmp 8) false
  d30 : o30.dst = some 9
  g30 : o30.guard = none
  p31 : o31.op = .extract (.tmp 9) 0
  d31 : o31.dst = some 10
  g31 : o31.guard = none
  e40 : r4[0]? = some o40
  s4 : r4.size = 7
  p40 : o40.op = .entry (.tmp 8)
  d40 : o40.dst = some 11
  g40 : o40.guard = none
  t4 : toInsL P 26 r4 r4.toList = some L4
  t5 : toInsL P 26 r5 r5.toList = some L5
  t6 : toInsL P 26 r6 r6.toList = some L6
  k4 : (r4.toList.all fun o => [8].all fun t => o.dst != some t) = true
  k5 : (r5.toList.all fun o => [8].all fun t => o.dst != some t) = true
  k6 : (r6.toList.all fun o => [8].all fun t => o.dst != some t) = true

theorem put_get {a : Act} {d : Nat} {v : Value} (h : d < a.tmps.size) : (a.put (some d) v).tmps.getD d undef = v := by
  simp [Act.put, Array.getD_eq_getD_getElem?, h]

theorem round_done (O : Ops P r3 r4 r5 r6 o30 o31 o40) (F : Fixed w1 S1 r bm blk since clk ms es) (j : J w1 S1 r bm blk since ms es don a w) {seen : Array Nat} (hs : seen.toList = don.filterMap fun i => ms[i]?.map (·.born)) (h0 : (leftOf ms seen).size = 0) :
    ∀ i, i < es.length → i ∈ don := by
  intro i hi
  have hsz : ms.size = es.length := by have := VM.length F.vm; simpa using this
  have him : i < ms.size := by omega
  have hmem : ms[i].born ∈ seen.toList := by
    rcases Classical.em (ms[i].born ∈ seen.toList) with h | h
    · exact h
    · exfalso
      have : ms[i] ∈ leftOf ms seen := by
        unfold leftOf
        rw [Array.mem_filter]
        refine ⟨Array.getElem_mem him, ?_⟩
        simpa using h
      have := Array.size_pos_of_mem this
      omega
  rw [hs] at hmem
  obtain ⟨k, hk, hk2⟩ := List.mem_filterMap.1 hmem
  simp only [Option.map_eq_some_iff] at hk2
  obtain ⟨x, hx1, hx2⟩ := hk2
  have hkl := j.lt k hk
  have hkm : k < ms.size := by omega
  rw [Array.getElem?_eq_getElem hkm] at hx1
  cases hx1
  have hp := F.ok.1
  rw [List.pairwise_iff_getElem] at hp
  rcases Nat.lt_trichotomy i k with h | h | h
  · have := hp i k (by simpa using him) (by simpa using hkm) h
    simp at this; omega
  · rw [h]; exact hk
  · have := hp k i (by simpa using hkm) (by simpa using him) h
    simp at this; omega

/-- What a round leads to. -/
def afterRound (w1 : World) (S1 : Pub) (r bm blk since : Nat) (ms : Array MapEntry) (es : Ent) (don : List Nat) : Exit → Act → World → Prop
  | .normal, a, w => ∃ k, k ∉ don ∧ J w1 S1 r bm blk since ms es (don ++ [k]) a w
  | .exit 0, a, w => J w1 S1 r bm blk since ms es don a w ∧ ∀ i, i < es.length → i ∈ don
  | _, _, _ => False

theorem J.of_out (hl : es.length ≤ 1000000) {k : Nat} (hk : k ∉ don) (hke : k < es.length) (j : J w1 S1 r bm blk since ms es don a w) {S : Pub} {a2 a3 : Act} {w2 w3 : World} {s : St} (hr : ∃ seen c, w2.heap[r]? = some (.mapIter (some bm) since seen c) ∧ since ≤ c ∧ seen.toList = (don ++ [k]).filterMap fun i => ms[i]?.map (·.born))
    (hrl : r < w1.heap.size) (hrb : r ≠ blk) (h2 : w1.heap.size ≤ w2.heap.size) (h2o : ∀ b, b < w1.heap.size → b ≠ r → b ≠ blk → w2.heap[b]? = w1.heap[b]?) (h2r : ∀ b, rowSize w1.heap b ≤ rowSize w2.heap b) (h2t : Tw w1 w2)
    (hsz : a2.tmps.size = 26) (hdf : a2.defers = []) (hit : a2.tmps.getD 8 undef = .pointer (some ⟨r, 0, none⟩)) (sub : Sub S1 S)
    (ho : Out w1.heap.size ⟨fun b => b = blk, S1, fun _ => none, []⟩ S s a2 w2 a3 w3) (hit3 : a3.tmps.getD 8 undef = a2.tmps.getD 8 undef) {h e m : Nat} (hm : m = (termsAt es (don ++ [k])).length)
    (g1 : gt s 3 = some (.ref h e 0 m)) (g2 : look s h e = some ⟨0, 12, pcells (termsAt es (don ++ [k]))⟩) (g3 : (h, e) ∉ s.z) : J w1 S1 r bm blk since ms es (don ++ [k]) a3 w3 := by
  obtain ⟨S', N', o1, o2, o3, o4, o5, o6⟩ := ho
  obtain ⟨N2, f2⟩ := Fr.again o2 hm g1 g2 g3
  obtain ⟨seen, c, q1, q2, q3⟩ := hr
  refine ⟨⟨S', N2, sub.trans o1, f2⟩, o3.trans hsz, o4.trans hdf, hit3.trans hit, ⟨seen, c, ?_, q2, q3⟩, Nat.le_trans h2 o5.1, fun b b1 b2 b3 => (o5.2.1 b b1 b3).trans (h2o b b1 b2 b3), fun b => Nat.le_trans (h2r b) (o5.2.2 b), h2t.trans o6, ?_, ?_⟩
  · rw [o5.2.1 r hrl hrb]; exact q1
  · rw [List.nodup_append]
    refine ⟨j.nodup, by simp, ?_⟩
    intro x hx y hy
    simp at hy; subst hy
    rintro rfl; exact hk hx
  · intro i hi
    rcases List.mem_append.1 hi with hi | hi
    · exact j.lt i hi
    · simp at hi; subst hi; exact hke

theorem sgn_ne {c : Rat} : (sgn c != 0) = decide (c ≠ 0) := by
  by_cases h : c = 0
  · subst h; decide
  · have : sgn c ≠ 0 := fun e => h (sgn_zero.1 e)
    simp [h, this]

set_option maxHeartbeats 1000000 in
theorem round_walk (O : Ops P r3 r4 r5 r6 o30 o31 o40) (hsem : SemOK P cs) (hsign : ∀ q, cs n_rational_Sign [dRat q] = some (.i .i64 (sgn q), [])) (F : Fixed w1 S1 r bm blk since clk ms es)
    (j : J w1 S1 r bm blk since ms es don a w) :
    (Code.seq (.region i3 r3 false) (.seq (.cond (.tmp 10) .skip (.exit 0)) (.block 1 (.seq (.region i4 r4 false) (.seq (.region i5 r5 false) (.cond (.tmp 16) (.region i6 r6 false) .skip)))))).wp P (afterRound w1 S1 r bm blk since ms es don) a w := by
  obtain ⟨seen, c, hr, hsc, hseen⟩ := j.iter
  obtain ⟨S, N, sub, f⟩ := j.fr
  have hms : ms.size = es.length := by have := VM.length F.vm; simpa using this
  have hbm : w.heap[bm]? = some (.map ms clk) := (j.old bm (lt_of_get F.hb) F.hbr F.hbb).trans F.hb
  have e3 := O.e3
  subst e3
  refine wp_seq (wp_region ?_)
  show wpOps P #[o30, o31] _ [0, 1] a w
  have ev8 : a.eval (.tmp 8) = .pointer (some ⟨r, 0, none⟩) := j.it
  rcases run_next_at (P := P) w o30.type r bm since c seen ms clk hr hbm (fun x hx => by rw [F.sc]; exact F.ok.2 x hx) hsc with ⟨h0, hrun⟩ | ⟨e, he, wq, hwq, hrun⟩
  · -- nothing is left
    refine ops_one (i := 0) (o := o30) rfl O.g30 (v := .tuple #[.bool false]) (w' := w) ?_ ?_
    · unfold execOp; rw [O.p30]; simp only [ev8]; simp [hrun]
    refine ops_one (i := 1) (o := o31) rfl O.g31 (v := .bool false) (w' := w) ?_ ?_
    · unfold execOp; rw [O.p31, O.d30]
      have : (a.put (some 9) (.tuple #[.bool false])).eval (.tmp 9) = .tuple #[.bool false] := put_get (by rw [j.size]; omega)
      simp [this, Instr.extract]
    rw [O.d30, O.d31]
    have j2 := (j.put (d := 9) (v := .tuple #[.bool false]) (by omega) (by omega)).put (d := 10) (v := .bool false) (by omega) (by omega)
    refine wp_seq (wp_cond_false ?_ (wp_exit ?_))
    · exact put_get (by simp [put_some, j.size])
    · exact ⟨j2, round_done O F j hseen h0⟩
  · -- an entry
    unfold leftOf at he
    rw [Array.toList_filter] at he
    obtain ⟨he1, he2⟩ := List.mem_filter.1 he
    obtain ⟨k, hkl, hk⟩ := List.getElem_of_mem he1
    have hke : k < es.length := by simp at hkl; omega
    have hkm : ms[k]? = some e := by rw [← Array.getElem?_toList, List.getElem?_eq_getElem hkl, hk]
    have hkd : k ∉ don := by
      intro hk2
      have : e.born ∈ seen.toList := by rw [hseen]; exact List.mem_filterMap.2 ⟨k, hk2, by simp [hkm]⟩
      rw [show seen.contains e.born = true by simpa using this] at he2
      cases he2
    obtain ⟨⟨m, q⟩, hmq⟩ : ∃ x, es[k]? = some x := ⟨_, List.getElem?_eq_getElem hke⟩
    obtain ⟨e', g1, g2⟩ := VM.get F.vm (i := k) (d := dEnt (m, q)) (by simp [hmq])
    rw [Array.getElem?_toList, hkm] at g1
    cases g1
    -- the world behind the step
    have hwh : wq.heap = w.heap := by rcases hwq with rfl | rfl <;> rfl
    have hwt : Tw w wq := by rcases hwq with rfl | rfl; exact Tw.refl _; exact ⟨rfl, rfl, rfl, Nat.le_succ _⟩
    have hrw : r < w.heap.size := lt_of_get hr
    have hoth : ∀ b, b ≠ r → (setBlock wq r (.mapIter (some bm) since (seen.push e.born) clk)).heap[b]? = w.heap[b]? := fun b hb => by
      show (wq.heap.setIfInBounds r _)[b]? = _
      rw [Array.getElem?_setIfInBounds_ne (Ne.symm hb), hwh]
    have hat : (setBlock wq r (.mapIter (some bm) since (seen.push e.born) clk)).heap[r]? = some (.mapIter (some bm) since (seen.push e.born) clk) := by
      show (wq.heap.setIfInBounds r _)[r]? = _
      rw [hwh]; simp [hrw]
    have f2 : Fr w1.heap.size ⟨fun b => b = blk, S1, fun _ => none, []⟩ S N (stP (termsAt es don)) a.tmps (setBlock wq r (.mapIter (some bm) since (seen.push e.born) clk)).heap := by
      show Fr _ _ _ _ _ _ (wq.heap.setIfInBounds r _)
      rw [hwh]; exact Fr.step f hr _
    have hsz2 : w1.heap.size ≤ (setBlock wq r (.mapIter (some bm) since (seen.push e.born) clk)).heap.size := by
      show _ ≤ (wq.heap.setIfInBounds r _).size
      rw [hwh]; simpa using j.grow
    have hrows : ∀ b, rowSize w1.heap b ≤ rowSize (setBlock wq r (.mapIter (some bm) since (seen.push e.born) clk)).heap b := by
      intro b
      refine Nat.le_trans (j.rows b) ?_
      by_cases hb : b = r
      · subst hb; simp [rowSize, hr]
      · exact rowSize_of_eq (hoth b hb)
    have hold : ∀ b, b < w1.heap.size → b ≠ r → b ≠ blk → (setBlock wq r (.mapIter (some bm) since (seen.push e.born) clk)).heap[b]? = w1.heap[b]? := fun b b1 b2 b3 => (hoth b b2).trans (j.old b b1 b2 b3)
    have htw : Tw w1 (setBlock wq r (.mapIter (some bm) since (seen.push e.born) clk)) := j.tw.trans (hwt.trans ⟨rfl, rfl, rfl, Nat.le_refl _⟩)
    have hentry := run_entry_at (P := P) (setBlock wq r (.mapIter (some bm) since (seen.push e.born) clk)) r bm since seen ms clk e hat ((hoth bm F.hbr).trans hbm) he1 (by
      have := F.ok.1
      rw [← List.pairwise_map (f := fun m : MapEntry => m.born) (R := fun a b => a < b)] at this
      exact this.imp fun h => Nat.ne_of_lt h)
    have hseen2 : (seen.push e.born).toList = (don ++ [k]).filterMap fun i => ms[i]?.map (·.born) := by
      rw [List.filterMap_append]; simp [hseen, hkm]
    have hV : V (setBlock wq r (.mapIter (some bm) since (seen.push e.born) clk)).heap S N (.tup [dMono m, dRat q]) (.tuple #[e.key, e.val]) :=
      V.mono (F.keeps hold) sub Later.of_none _ _ g2
    generalize setBlock wq r (.mapIter (some bm) since (seen.push e.born) clk) = w2 at *
    refine ops_one (i := 0) (o := o30) rfl O.g30 (v := .tuple #[.bool true, e.key, e.val]) (w' := w2) ?_ ?_
    · unfold execOp; rw [O.p30]; simp only [ev8]; simp [hrun]
    refine ops_one (i := 1) (o := o31) rfl O.g31 (v := .bool true) (w' := w2) ?_ ?_
    · unfold execOp; rw [O.p31, O.d30]
      have : (a.put (some 9) (.tuple #[.bool true, e.key, e.val])).eval (.tmp 9) = .tuple #[.bool true, e.key, e.val] := put_get (by rw [j.size]; omega)
      simp [this, Instr.extract]
    rw [O.d30, O.d31]
    have f3 : Fr w1.heap.size ⟨fun b => b = blk, S1, fun _ => none, []⟩ S N (stP (termsAt es don)) ((a.put (some 9) (.tuple #[.bool true, e.key, e.val])).put (some 10) (.bool true)).tmps w2.heap :=
      FR.junk (FR.junk f2 (by rw [stP_v, if_neg (by omega)])) (by rw [stP_v, if_neg (by omega)])
    have sz3 : ((a.put (some 9) (.tuple #[.bool true, e.key, e.val])).put (some 10) (.bool true)).tmps.size = 26 := by simp [put_some, j.size]
    have df3 : ((a.put (some 9) (.tuple #[.bool true, e.key, e.val])).put (some 10) (.bool true)).defers = [] := j.defers
    have it3 : ((a.put (some 9) (.tuple #[.bool true, e.key, e.val])).put (some 10) (.bool true)).tmps.getD 8 undef = .pointer (some ⟨r, 0, none⟩) := by
      rw [getD_put (by simp), getD_put (by simp)]; exact j.it
    have c10 : ((a.put (some 9) (.tuple #[.bool true, e.key, e.val])).put (some 10) (.bool true)).eval (.tmp 10) = .bool true := put_get (by simp [put_some, j.size])
    generalize (a.put (some 9) (.tuple #[.bool true, e.key, e.val])).put (some 10) (.bool true) = a3 at *
    refine wp_seq (wp_cond_true c10 (wp_skip ?_))
    refine wp_block (wp_seq (wp_region ?_))
    have hl : List.range r4.size = 0 :: (List.range r4.size).drop 1 := by rw [O.s4]; rfl
    rw [hl]
    refine ops_one (i := 0) O.e40 O.g40 (v := .tuple #[e.key, e.val]) (w' := w2) ?_ ?_
    · unfold execOp; rw [O.p40]
      have : a3.eval (.tmp 8) = .pointer (some ⟨r, 0, none⟩) := it3
      simp only [this]; simp [hentry]
    rw [O.d40]
    have f4 : Fr w1.heap.size ⟨fun b => b = blk, S1, fun _ => none, []⟩ S N (app (stP (termsAt es don)) (val 11 (.tup [dMono m, dRat q]))) (a3.put (some 11) (.tuple #[e.key, e.val])).tmps w2.heap := Fr.val f3 hV (by rw [sz3]; omega) (by omega)
    have sz4 : (a3.put (some 11) (.tuple #[e.key, e.val])).tmps.size = 26 := by simp [put_some, sz3]
    have df4 : (a3.put (some 11) (.tuple #[e.key, e.val])).defers = [] := df3
    have it4 : (a3.put (some 11) (.tuple #[e.key, e.val])).tmps.getD 8 undef = .pointer (some ⟨r, 0, none⟩) := by rw [getD_put (by simp)]; exact it3
    generalize a3.put (some 11) (.tuple #[e.key, e.val]) = a4 at *
    obtain ⟨s5, ev4, q4⟩ := WL_ev (run4 cs (termsAt es don) m q)
    refine ops_ev [8] 1 O.t4 (by omega) hsem O.k4 f4 hsz2 (by rw [sz4]; omega) ev4 fun a5 w5 out5 sl5 => ?_
    obtain ⟨s6, ev5, q5, q5b⟩ := WL_ev (run5 hsign q4)
    have out5' := out5
    obtain ⟨S5, N5, u1, f5, u3, u4, u5, u6⟩ := out5
    refine wp_seq (wp_region ?_)
    have h0 : wpOps P r5 _ ((List.range r5.size).drop 0) a5 w5 := ops_ev [8] 0 O.t5 (by omega) hsem O.k5 f5 (Nat.le_trans hsz2 u5.1) (by omega) ev5 (Q := Exit.then ((Code.cond (.tmp 16) (.region i6 r6 false) .skip).wp P (Exit.inBlock 1 (afterRound w1 S1 r bm blk since ms es don))) (Exit.inBlock 1 (afterRound w1 S1 r bm blk since ms es don))) fun a6 w6 out6 sl6 => ?_
    · exact h0
    have it6 : a6.tmps.getD 8 undef = a4.tmps.getD 8 undef := (sl6 8 (by simp)).trans (sl5 8 (by simp))
    have out6' : Out w1.heap.size ⟨fun b => b = blk, S1, fun _ => none, []⟩ S s6 a4 w2 a6 w6 := out6.trans u1 u3 u4 u5 u6
    have hT : (termsAt es don).length ≤ 1000000 := Nat.le_trans (termsAt_length _ _) (Nat.le_trans (nodup_le j.nodup j.lt) F.len)
    have hbind : (es[k]?).bind termOf = termOf (m, q) := by rw [hmq]; rfl
    obtain ⟨S6, N6, v1, f6, v3, v4, v5, v6⟩ := out6
    have c16 : a6.eval (.tmp 16) = .bool (sgn q != 0) := by
      have := f6.slots 16 _ q5b
      simp only [V] at this
      exact this
    refine wp_cond_split c16 (fun hs => ?_) (fun hs => ?_)
    · have hq : q ≠ 0 := by rw [sgn_ne] at hs; simpa using hs
      obtain ⟨s7, ev6, h7, e7, q7, q8, q9⟩ := WL_ev (run6 hT q5)
      refine wp_region ?_
      have h0 : wpOps P r6 _ ((List.range r6.size).drop 0) a6 w6 := ops_ev [8] 0 O.t6 (by omega) hsem O.k6 f6 (Nat.le_trans (Nat.le_trans hsz2 u5.1) v5.1) (by omega) ev6 (Q := Exit.inBlock 1 (afterRound w1 S1 r bm blk since ms es don)) fun a7 w7 out7 sl7 => ?_
      · exact h0
      have e1 : termsAt es (don ++ [k]) = termsAt es don ++ [⟨q, m⟩] := by rw [termsAt_append, hbind]; simp [termOf, hq]
      have out7' : Out w1.heap.size ⟨fun b => b = blk, S1, fun _ => none, []⟩ S s7 a4 w2 a7 w7 := (out7.trans v1 v3 v4 v5 v6).trans u1 u3 u4 u5 u6
      exact ⟨k, hkd, J.of_out F.len hkd hke j ⟨_, _, hat, by rw [F.sc]; exact Nat.le_refl _, hseen2⟩ F.hr F.rb hsz2 hold hrows htw sz4 df4 it4 sub out7' ((sl7 8 (by simp)).trans it6) (by rw [e1]; simp) q7 (by rw [e1]; exact q8) q9⟩
    · have hq : q = 0 := by rw [sgn_ne] at hs; simpa using hs
      refine wp_skip ?_
      have e1 : termsAt es (don ++ [k]) = termsAt es don := by rw [termsAt_append, hbind]; simp [termOf, hq]
      exact ⟨k, hkd, J.of_out F.len hkd hke j ⟨_, _, hat, by rw [F.sc]; exact Nat.le_refl _, hseen2⟩ F.hr F.rb hsz2 hold hrows htw sz4 df4 it4 sub out6' it6 (by rw [e1]) q5.1 (by rw [e1, look_lst, q5.2.1]; simp [nth]) (by rw [q5.2.2.2.2.2.2.2]; simp)⟩
end
end
end Go.Ev
