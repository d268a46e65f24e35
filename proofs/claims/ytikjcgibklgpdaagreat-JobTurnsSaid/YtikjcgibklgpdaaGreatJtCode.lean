/-
  JtCode: the code of the functions that JobTurns reaches, turned (printed by a program).
-/
import Derived.Test.YtikjcgibklgpdaaGreatRvThree
set_option linter.unusedSimpArgs false
set_option linter.unusedVariables false
set_option linter.unusedSectionVars false

set_option maxRecDepth 20000
namespace Go.Rv.Jt


/-- reveille/reveillelaw18.JobTurns -/
def c5 : CFunc where
  nparams := 2
  ntmps := 71
  results := [.tmp 4]
  body :=
    .seq (
     .region [
       ⟨(some 4), none, .move (.c (.bool false))⟩]) (
    .seq (
     .seq (
      .region [
        ⟨(some 10), none, .call 6 []⟩,
        ⟨(some 11), none, .not (.t 10)⟩]) (
     .cond (.t 11) (
      .seq (
       .region [
         ⟨(some 4), none, .move (.c (.bool false))⟩]) (
      .ret)) (
      .skip))) (
    .seq (
     .region [
       ⟨(some 12), none, .move (.t 0)⟩,
       ⟨(some 13), none, .bin .rem (.t 12) (.c (.int .u8 (3)))⟩,
       ⟨(some 14), none, .conv .i64 (.t 13)⟩,
       ⟨(some 15), none, .bin .add (.t 14) (.c (.int .i64 (1)))⟩,
       ⟨(some 5), none, .move (.t 15)⟩]) (
    .seq (
     .region [
       ⟨(some 16), none, .call 9 [.c (.int .i64 (7))]⟩,
       ⟨(some 6), none, .move (.t 16)⟩]) (
    .seq (
     .region [
       ⟨(some 17), none, .move (.t 6)⟩,
       ⟨(some 18), none, .call 7 [.c (.int .i64 (0))]⟩,
       ⟨(some 19), none, .move (.t 5)⟩,
       ⟨(some 20), none, .build [.int .i64 (0), .str [], .int .i64 (0), .bool false] [(1, 1, .t 18), (2, 1, .t 19)]⟩,
       ⟨(some 21), none, .buildSlice 4 1 (.agg [.int .i64 (0), .str [], .int .i64 (0), .bool false]) [(0, .t 20)]⟩,
       ⟨(some 22), none, .call 10 [.t 17, .t 21]⟩]) (
    .seq (
     .seq (
      .region [
        ⟨(some 23), none, .move (.t 1)⟩,
        ⟨(some 24), none, .move (.t 23)⟩,
        ⟨(some 25), (some (24, true)), .move (.t 6)⟩,
        ⟨(some 26), (some (24, true)), .call 11 [.t 25, .c (.int .i64 (7))]⟩,
        ⟨(some 27), (some (24, true)), .bin .neq (.t 26) (.c (.int .i64 (0)))⟩,
        ⟨(some 28), none, .pick (.t 24) (.t 27) (.c (.bool false))⟩]) (
     .cond (.t 28) (
      .seq (
       .region [
         ⟨(some 4), none, .move (.c (.bool false))⟩]) (
      .ret)) (
      .skip))) (
    .seq (
     .region [
       ⟨(some 29), none, .move (.t 6)⟩,
       ⟨(some 30), none, .call 16 [.t 29, .c (.int .i64 (7))]⟩,
       ⟨(some 7), none, .move (.t 30)⟩]) (
    .seq (
     .region [
       ⟨(some 32), none, .move (.t 6)⟩,
       ⟨(some 33), none, .call 7 [.c (.int .i64 (0))]⟩,
       ⟨(some 34), none, .call 14 [.t 32, .t 33]⟩,
       ⟨(some 31), none, .move (.t 34)⟩,
       ⟨(some 35), none, .extract (.t 31) 0⟩,
       ⟨(some 36), none, .extract (.t 31) 1⟩,
       ⟨(some 8), none, .alloc [.int .i64 (0), .str [], .int .i64 (0), .bool false]⟩,
       ⟨none, none, .store 4 (.t 8) (.t 35)⟩,
       ⟨(some 9), none, .move (.t 36)⟩]) (
    .seq (
     .seq (
      .region [
        ⟨(some 37), none, .move (.t 5)⟩,
        ⟨(some 38), none, .bin .eql (.t 37) (.c (.int .i64 (3)))⟩,
        ⟨(some 39), none, .move (.t 38)⟩,
        ⟨(some 40), (some (39, true)), .move (.t 1)⟩,
        ⟨(some 41), none, .pick (.t 39) (.t 40) (.c (.bool false))⟩]) (
     .cond (.t 41) (
      .seq (
       .regionD [
         (⟨(some 42), none, .move (.t 7)⟩, []),
         (⟨(some 43), none, .bin .eql (.t 42) (.c (.int .i64 (0)))⟩, [0]),
         (⟨(some 44), none, .move (.t 43)⟩, [1]),
         (⟨(some 45), (some (44, true)), .move (.t 9)⟩, [2]),
         (⟨(some 46), none, .pick (.t 44) (.t 45) (.c (.bool false))⟩, [2, 3]),
         (⟨(some 47), none, .move (.t 46)⟩, [4, 2]),
         (⟨(some 48), (some (47, true)), .load true 4 (.t 8)⟩, [5]),
         (⟨(some 49), (some (47, true)), .call 7 [.c (.int .i64 (0))]⟩, [5, 5]),
         (⟨(some 50), (some (47, true)), .build [.int .i64 (0), .str [], .int .i64 (0), .bool false] [(0, 1, .c (.int .i64 (7))), (1, 1, .t 49), (2, 1, .c (.int .i64 (1))), (3, 1, .c (.bool true))]⟩, [7, 5]),
         (⟨(some 51), (some (47, true)), .eqAgg false [.int, .str, .int, .bool] (.t 48) (.t 50)⟩, [6, 8, 5]),
         (⟨(some 52), none, .pick (.t 47) (.t 51) (.c (.bool false))⟩, [5, 9]),
         (⟨(some 53), none, .move (.t 52)⟩, [10, 7]),
         (⟨(some 54), (some (53, true)), .move (.t 6)⟩, [11]),
         (⟨(some 55), (some (53, true)), .call 16 [.t 54, .c (.int .i64 (7))]⟩, [12, 11, 11]),
         (⟨(some 56), (some (53, true)), .bin .eql (.t 55) (.c (.int .i64 (180)))⟩, [13, 11]),
         (⟨(some 57), none, .pick (.t 53) (.t 56) (.c (.bool false))⟩, [11, 14]),
         (⟨(some 4), none, .move (.t 57)⟩, [15, 13, 0, 1, 2, 3, 4, 5, 6, 7, 8, 9, 10, 11, 12, 13, 14, 15])]) (
      .ret)) (
      .skip))) (
    .seq (
     .regionD [
       (⟨(some 58), none, .move (.t 7)⟩, []),
       (⟨(some 59), none, .bin .eql (.t 58) (.c (.int .i64 (180)))⟩, [0]),
       (⟨(some 60), none, .move (.t 59)⟩, [1]),
       (⟨(some 61), (some (60, true)), .move (.t 9)⟩, [2]),
       (⟨(some 62), none, .pick (.t 60) (.t 61) (.c (.bool false))⟩, [2, 3]),
       (⟨(some 63), none, .move (.t 62)⟩, [4, 2]),
       (⟨(some 64), (some (63, true)), .load true 4 (.t 8)⟩, [5]),
       (⟨(some 65), (some (63, true)), .call 7 [.c (.int .i64 (0))]⟩, [5, 5]),
       (⟨(some 66), (some (63, true)), .move (.t 5)⟩, [5]),
       (⟨(some 67), (some (63, true)), .move (.t 1)⟩, [5]),
       (⟨(some 68), (some (63, true)), .build [.int .i64 (0), .str [], .int .i64 (0), .bool false] [(0, 1, .c (.int .i64 (7))), (1, 1, .t 65), (2, 1, .t 66), (3, 1, .t 67)]⟩, [7, 8, 9, 5]),
       (⟨(some 69), (some (63, true)), .eqAgg false [.int, .str, .int, .bool] (.t 64) (.t 68)⟩, [6, 10, 5]),
       (⟨(some 70), none, .pick (.t 63) (.t 69) (.c (.bool false))⟩, [5, 11]),
       (⟨(some 4), none, .move (.t 70)⟩, [12, 7, 0, 1, 2, 3, 4, 5, 6, 7, 8, 9, 10, 11, 12])]) (
    .ret))))))))))

/-- reveille/reveillelaw18.known -/
def c6 : CFunc where
  nparams := 0
  ntmps := 47
  results := [.tmp 0]
  body :=
    .seq (
     .region [
       ⟨(some 0), none, .move (.c (.bool false))⟩]) (
    .seq (
     .region [
       ⟨(some 7), none, .buildSlice 1 1 (.str []) [(0, .c (.str [98, 46, 115, 101, 114, 118, 105, 99, 101]))]⟩,
       ⟨(some 8), none, .build [.str [], .int .i64 (0), .int .i64 (0), .nilSlice, .nilSlice, .nilSlice, .nilSlice, .nilSlice, .nilSlice, .nilSlice, .bool false, .int .i64 (0), .int .i64 (0), .int .i64 (0), .nilSlice, .nilSlice, .nilSlice, .int .i64 (0), .int .i64 (0), .int .i64 (0), .int .i64 (0), .int .i64 (0), .int .i64 (0), .bool false, .str [], .str [], .int .i64 (0), .int .i64 (0), .nilSlice, .nilSlice, .nilSlice, .str [], .str []] [(0, 1, .c (.str [97, 46, 115, 101, 114, 118, 105, 99, 101])), (1, 1, .c (.int .i64 (1))), (4, 1, .t 7)]⟩,
       ⟨(some 9), none, .build [.str [], .int .i64 (0), .int .i64 (0), .nilSlice, .nilSlice, .nilSlice, .nilSlice, .nilSlice, .nilSlice, .nilSlice, .bool false, .int .i64 (0), .int .i64 (0), .int .i64 (0), .nilSlice, .nilSlice, .nilSlice, .int .i64 (0), .int .i64 (0), .int .i64 (0), .int .i64 (0), .int .i64 (0), .int .i64 (0), .bool false, .str [], .str [], .int .i64 (0), .int .i64 (0), .nilSlice, .nilSlice, .nilSlice, .str [], .str []] [(0, 1, .c (.str [98, 46, 115, 101, 114, 118, 105, 99, 101])), (1, 1, .c (.int .i64 (1)))]⟩,
       ⟨(some 10), none, .buildSlice 33 2 (.agg [.str [], .int .i64 (0), .int .i64 (0), .nilSlice, .nilSlice, .nilSlice, .nilSlice, .nilSlice, .nilSlice, .nilSlice, .bool false, .int .i64 (0), .int .i64 (0), .int .i64 (0), .nilSlice, .nilSlice, .nilSlice, .int .i64 (0), .int .i64 (0), .int .i64 (0), .int .i64 (0), .int .i64 (0), .int .i64 (0), .bool false, .str [], .str [], .int .i64 (0), .int .i64 (0), .nilSlice, .nilSlice, .nilSlice, .str [], .str []]) [(0, .t 8), (1, .t 9)]⟩,
       ⟨(some 11), none, .call 8 [.t 10]⟩,
       ⟨(some 6), none, .move (.t 11)⟩,
       ⟨(some 12), none, .extract (.t 6) 0⟩,
       ⟨(some 13), none, .extract (.t 6) 1⟩,
       ⟨(some 1), none, .move (.t 12)⟩,
       ⟨(some 2), none, .move (.t 13)⟩]) (
    .seq (
     .region [
       ⟨(some 14), none, .call 9 [.c (.int .i64 (1))]⟩,
       ⟨(some 3), none, .move (.t 14)⟩]) (
    .seq (
     .seq (
      .region [
        ⟨(some 15), none, .move (.t 3)⟩,
        ⟨(some 16), none, .binK .ptr .eql (.t 15) (.c (.nilPtr))⟩]) (
     .cond (.t 16) (
      .seq (
       .region [
         ⟨(some 0), none, .move (.c (.bool false))⟩]) (
      .ret)) (
      .skip))) (
    .seq (
     .region [
       ⟨(some 17), none, .move (.t 3)⟩,
       ⟨(some 18), none, .build [.int .i64 (0), .str [], .int .i64 (0), .bool false] [(1, 1, .c (.str [98, 46, 115, 101, 114, 118, 105, 99, 101])), (2, 1, .c (.int .i64 (1)))]⟩,
       ⟨(some 19), none, .build [.int .i64 (0), .str [], .int .i64 (0), .bool false] [(1, 1, .c (.str [97, 46, 115, 101, 114, 118, 105, 99, 101])), (2, 1, .c (.int .i64 (1)))]⟩,
       ⟨(some 20), none, .buildSlice 4 2 (.agg [.int .i64 (0), .str [], .int .i64 (0), .bool false]) [(0, .t 18), (1, .t 19)]⟩,
       ⟨(some 21), none, .call 10 [.t 17, .t 20]⟩]) (
    .seq (
     .region [
       ⟨(some 23), none, .move (.t 3)⟩,
       ⟨(some 24), none, .move (.t 1)⟩,
       ⟨(some 25), none, .call 12 [.t 23, .t 24, .c (.int .i64 (1)), .c (.int .i64 (2))]⟩,
       ⟨(some 22), none, .move (.t 25)⟩,
       ⟨(some 26), none, .extract (.t 22) 0⟩,
       ⟨(some 27), none, .extract (.t 22) 1⟩,
       ⟨(some 4), none, .move (.t 26)⟩,
       ⟨(some 5), none, .move (.t 27)⟩]) (
    .seq (
     .region [
       ⟨(some 28), none, .move (.t 5)⟩,
       ⟨(some 29), none, .bin .eql (.t 28) (.c (.int .i64 (0)))⟩,
       ⟨(some 30), none, .move (.t 29)⟩,
       ⟨(some 31), (some (30, true)), .move (.t 4)⟩,
       ⟨(some 32), (some (30, true)), .lenSlice (.t 31)⟩,
       ⟨(some 33), (some (30, true)), .bin .eql (.t 32) (.c (.int .i64 (2)))⟩,
       ⟨(some 34), none, .pick (.t 30) (.t 33) (.c (.bool false))⟩,
       ⟨(some 35), none, .move (.t 34)⟩,
       ⟨(some 36), (some (35, true)), .move (.t 4)⟩,
       ⟨(some 37), (some (35, true)), .indexAddr 4 (.t 36) (.c (.int .i64 (1)))⟩,
       ⟨(some 38), (some (35, true)), .load true 4 (.t 37)⟩,
       ⟨(some 39), (some (35, true)), .build [.int .i64 (0), .str [], .int .i64 (0), .int .i64 (0)] [(0, 1, .c (.int .i64 (2))), (1, 1, .c (.str [97, 46, 115, 101, 114, 118, 105, 99, 101])), (2, 1, .c (.int .i64 (1))), (3, 1, .c (.int .i64 (4)))]⟩,
       ⟨(some 40), (some (35, true)), .eqAgg false [.int, .str, .int, .int] (.t 38) (.t 39)⟩,
       ⟨(some 41), none, .pick (.t 35) (.t 40) (.c (.bool false))⟩,
       ⟨(some 42), none, .move (.t 41)⟩,
       ⟨(some 43), (some (42, true)), .move (.t 3)⟩,
       ⟨(some 44), (some (42, true)), .call 11 [.t 43, .c (.int .i64 (1))]⟩,
       ⟨(some 45), (some (42, true)), .bin .eql (.t 44) (.c (.int .i64 (180)))⟩,
       ⟨(some 46), none, .pick (.t 42) (.t 45) (.c (.bool false))⟩,
       ⟨(some 0), none, .move (.t 46)⟩]) (
    .ret)))))))

/-- reveille/reveillelaw18.letter -/
def c7 : CFunc where
  nparams := 1
  ntmps := 8
  results := [.tmp 2]
  body :=
    .seq (
     .region [
       ⟨(some 2), none, .move (.c (.str []))⟩]) (
    .seq (
     .region [
       ⟨(some 3), none, .move (.t 0)⟩,
       ⟨(some 4), none, .move (.t 0)⟩,
       ⟨(some 5), none, .bin .add (.t 4) (.c (.int .i64 (1)))⟩,
       ⟨(some 6), none, .sliceStr (.c (.str [97, 98, 99, 100, 101, 102, 103, 104, 105, 106, 107, 108, 109, 110, 111, 112])) (some (.t 3)) (some (.t 5))⟩,
       ⟨(some 7), none, .bin .add (.t 6) (.c (.str [46, 115, 101, 114, 118, 105, 99, 101]))⟩,
       ⟨(some 2), none, .move (.t 7)⟩]) (
    .ret))

/-- reveille/reveillelaw18.made -/
def c8 : CFunc where
  nparams := 1
  ntmps := 30
  results := [.tmp 2, .tmp 3]
  body :=
    .seq (
     .region [
       ⟨(some 2), none, .move (.c (.nilPtr))⟩,
       ⟨(some 3), none, .move (.c (.nilPtr))⟩]) (
    .seq (
     .region [
       ⟨(some 7), none, .call 17 []⟩,
       ⟨(some 8), none, .build [.nilSlice, .nilSlice] []⟩,
       ⟨(some 9), none, .box (.t 8)⟩,
       ⟨(some 4), none, .move (.t 7)⟩,
       ⟨(some 5), none, .move (.t 9)⟩]) (
    .seq (
     .seq (
      .region [
        ⟨(some 6), none, .move (.c (.int .i64 (0)))⟩]) (
     .block 0 (
      .loop (
       .seq (
        .seq (
         .region [
           ⟨(some 10), none, .move (.t 6)⟩,
           ⟨(some 11), none, .move (.t 0)⟩,
           ⟨(some 12), none, .lenSlice (.t 11)⟩,
           ⟨(some 13), none, .bin .lss (.t 10) (.t 12)⟩]) (
        .cond (.t 13) (
         .skip) (
         .exit 0))) (
       .seq (
        .block 1 (
         .seq (
          .region [
            ⟨(some 16), none, .move (.t 4)⟩,
            ⟨(some 17), none, .move (.t 0)⟩,
            ⟨(some 18), none, .move (.t 6)⟩,
            ⟨(some 19), none, .indexAddr 33 (.t 17) (.t 18)⟩,
            ⟨(some 20), none, .load true 33 (.t 19)⟩,
            ⟨(some 21), none, .call 18 [.t 16, .t 20]⟩]) (
         .region [
           ⟨(some 22), none, .move (.t 5)⟩,
           ⟨(some 23), none, .move (.t 0)⟩,
           ⟨(some 24), none, .move (.t 6)⟩,
           ⟨(some 25), none, .indexAddr 33 (.t 23) (.t 24)⟩,
           ⟨(some 26), none, .load true 33 (.t 25)⟩,
           ⟨(some 27), none, .call 19 [.t 22, .t 26]⟩]))) (
       .region [
         ⟨(some 14), none, .move (.t 6)⟩,
         ⟨(some 15), none, .bin .add (.t 14) (.c (.int .i64 (1)))⟩,
         ⟨(some 6), none, .move (.t 15)⟩])))))) (
    .seq (
     .region [
       ⟨(some 28), none, .move (.t 4)⟩,
       ⟨(some 29), none, .move (.t 5)⟩,
       ⟨(some 2), none, .move (.t 28)⟩,
       ⟨(some 3), none, .move (.t 29)⟩]) (
    .ret))))

/-- reveille/job.New -/
def c9 : CFunc where
  nparams := 1
  ntmps := 8
  results := [.tmp 2]
  body :=
    .seq (
     .region [
       ⟨(some 2), none, .move (.c (.nilPtr))⟩]) (
    .seq (
     .region [
       ⟨(some 3), none, .makeMap⟩,
       ⟨(some 4), none, .move (.t 0)⟩,
       ⟨(some 5), none, .max2 (.t 4) (.c (.int .i64 (1)))⟩,
       ⟨(some 6), none, .build [.nilMap, .int .i64 (0)] [(0, 1, .t 3), (1, 1, .t 5)]⟩,
       ⟨(some 7), none, .box (.t 6)⟩,
       ⟨(some 2), none, .move (.t 7)⟩]) (
    .ret))

/-- (*reveille/job.Jobs).Add -/
def c10 : CFunc where
  nparams := 2
  ntmps := 75
  results := [.tmp 4]
  body :=
    .seq (
     .region [
       ⟨(some 4), none, .move (.c (.nilSlice))⟩]) (
    .seq (
     .region [
       ⟨(some 5), none, .move (.c (.nilSlice))⟩]) (
    .seq (
     .seq (
      .region [
        ⟨(some 10), none, .move (.t 1)⟩,
        ⟨(some 11), none, .lenSlice (.t 10)⟩,
        ⟨(some 12), none, .move (.c (.int .i64 (0)))⟩]) (
     .block 0 (
      .loop (
       .seq (
        .region [
          ⟨(some 13), none, .bin .lss (.t 12) (.t 11)⟩]) (
       .seq (
        .cond (.t 13) (
         .skip) (
         .exit 0)) (
       .seq (
        .block 1 (
         .seq (
          .region [
            ⟨(some 14), none, .indexAddr 4 (.t 10) (.t 12)⟩,
            ⟨(some 15), none, .load true 4 (.t 14)⟩,
            ⟨(some 7), none, .alloc [.int .i64 (0), .str [], .int .i64 (0), .bool false]⟩,
            ⟨none, none, .store 4 (.t 7) (.t 15)⟩]) (
         .seq (
          .region [
            ⟨(some 17), none, .move (.t 0)⟩,
            ⟨(some 18), none, .fieldAddr 1 (.t 7)⟩,
            ⟨(some 19), none, .load false 1 (.t 18)⟩,
            ⟨(some 20), none, .call 14 [.t 17, .t 19]⟩,
            ⟨(some 16), none, .move (.t 20)⟩,
            ⟨(some 21), none, .extract (.t 16) 0⟩,
            ⟨(some 22), none, .extract (.t 16) 1⟩,
            ⟨(some 8), none, .alloc [.int .i64 (0), .str [], .int .i64 (0), .bool false]⟩,
            ⟨none, none, .store 4 (.t 8) (.t 21)⟩,
            ⟨(some 9), none, .move (.t 22)⟩]) (
         .seq (
          .seq (
           .region [
             ⟨(some 23), none, .fieldAddr 1 (.t 7)⟩,
             ⟨(some 24), none, .load false 1 (.t 23)⟩,
             ⟨(some 25), none, .bin .eql (.t 24) (.c (.str []))⟩,
             ⟨(some 26), none, .move (.t 25)⟩,
             ⟨(some 27), (some (26, false)), .fieldAddr 2 (.t 7)⟩,
             ⟨(some 28), (some (26, false)), .load false 1 (.t 27)⟩,
             ⟨(some 29), (some (26, false)), .call 20 [.t 28]⟩,
             ⟨(some 30), (some (26, false)), .not (.t 29)⟩,
             ⟨(some 31), none, .pick (.t 26) (.c (.bool true)) (.t 30)⟩,
             ⟨(some 32), none, .move (.t 31)⟩,
             ⟨(some 33), (some (32, false)), .move (.t 9)⟩,
             ⟨(some 34), (some (32, false)), .move (.t 33)⟩,
             ⟨(some 35), (some (34, true)), .fieldAddr 2 (.t 8)⟩,
             ⟨(some 36), (some (34, true)), .load false 1 (.t 35)⟩,
             ⟨(some 37), (some (34, true)), .fieldAddr 2 (.t 7)⟩,
             ⟨(some 38), (some (34, true)), .load false 1 (.t 37)⟩,
             ⟨(some 39), (some (34, true)), .bin .eql (.t 36) (.t 38)⟩,
             ⟨(some 40), (some (32, false)), .pick (.t 34) (.t 39) (.c (.bool false))⟩,
             ⟨(some 41), none, .pick (.t 32) (.c (.bool true)) (.t 40)⟩]) (
          .cond (.t 41) (
           .exit 1) (
           .skip))) (
         .seq (
          .seq (
           .region [
             ⟨(some 42), none, .move (.t 9)⟩]) (
          .cond (.t 42) (
           .region [
             ⟨(some 43), none, .move (.t 5)⟩,
             ⟨(some 44), none, .move (.t 0)⟩,
             ⟨(some 45), none, .load true 4 (.t 8)⟩,
             ⟨(some 46), none, .call 21 [.t 44, .t 45, .c (.int .i64 (5))]⟩,
             ⟨(some 47), none, .buildSlice 4 1 (.agg [.int .i64 (0), .str [], .int .i64 (0), .int .i64 (0)]) [(0, .t 46)]⟩,
             ⟨(some 48), none, .append 4 40 (.t 43) (.t 47)⟩,
             ⟨(some 5), none, .move (.t 48)⟩]) (
           .skip))) (
         .seq (
          .regionD [
            (⟨(some 49), none, .move (.t 0)⟩, []),
            (⟨(some 50), none, .nilCheck (.t 49)⟩, [0]),
            (⟨(some 51), none, .fieldAddr 0 (.t 50)⟩, [1]),
            (⟨(some 52), none, .load false 1 (.t 51)⟩, [2]),
            (⟨(some 53), none, .move (.t 0)⟩, []),
            (⟨(some 54), none, .nilCheck (.t 53)⟩, [4]),
            (⟨(some 55), none, .fieldAddr 1 (.t 54)⟩, [5]),
            (⟨(some 56), none, .load false 1 (.t 55)⟩, [6]),
            (⟨(some 57), none, .move (.t 0)⟩, []),
            (⟨(some 58), none, .nilCheck (.t 57)⟩, [8]),
            (⟨(some 59), none, .fieldAddr 1 (.t 58)⟩, [9]),
            (⟨(some 60), none, .load false 1 (.t 59)⟩, [10]),
            (⟨(some 61), none, .fieldAddr 1 (.t 7)⟩, []),
            (⟨(some 62), none, .load false 1 (.t 61)⟩, [12]),
            (⟨(some 63), none, .fieldAddr 2 (.t 7)⟩, []),
            (⟨(some 64), none, .load false 1 (.t 63)⟩, [14]),
            (⟨(some 65), none, .build [.int .i64 (0), .str [], .int .i64 (0), .bool false] [(0, 1, .t 60), (1, 1, .t 62), (2, 1, .t 64)]⟩, [11, 13, 15]),
            (⟨none, none, .mapUpdate (.one .int) (.t 52) (.t 56) (.t 65)⟩, [3, 7, 16, 0, 1, 2, 3, 4, 5, 6, 7, 8, 9, 10, 11, 12, 13, 14, 15, 16])]) (
         .region [
           ⟨(some 66), none, .move (.t 0)⟩,
           ⟨(some 67), none, .nilCheck (.t 66)⟩,
           ⟨(some 68), none, .fieldAddr 1 (.t 67)⟩,
           ⟨(some 69), none, .load false 1 (.t 68)⟩,
           ⟨(some 70), none, .bin .add (.t 69) (.c (.int .i64 (1)))⟩,
           ⟨(some 71), none, .nilCheck (.t 66)⟩,
           ⟨(some 72), none, .fieldAddr 1 (.t 71)⟩,
           ⟨none, none, .store 1 (.t 72) (.t 70)⟩]))))))) (
       .region [
         ⟨(some 73), none, .bin .add (.t 12) (.c (.int .i64 (1)))⟩,
         ⟨(some 12), none, .move (.t 73)⟩]))))))) (
    .seq (
     .region [
       ⟨(some 74), none, .move (.t 5)⟩,
       ⟨(some 4), none, .move (.t 74)⟩]) (
    .ret))))

/-- (*reveille/job.Jobs).Run -/
def c11 : CFunc where
  nparams := 2
  ntmps := 29
  results := [.tmp 4]
  body :=
    .seq (
     .region [
       ⟨(some 4), none, .move (.c (.int .i64 (0)))⟩]) (
    .seq (
     .region [
       ⟨(some 8), none, .move (.t 0)⟩,
       ⟨(some 9), none, .nilCheck (.t 8)⟩,
       ⟨(some 10), none, .fieldAddr 0 (.t 9)⟩,
       ⟨(some 11), none, .load false 1 (.t 10)⟩,
       ⟨(some 12), none, .move (.t 1)⟩,
       ⟨(some 13), none, .lookup (.one .int) (.agg [.int .i64 (0), .str [], .int .i64 (0), .bool false]) (.t 11) (.t 12) true⟩,
       ⟨(some 7), none, .move (.t 13)⟩,
       ⟨(some 14), none, .extract (.t 7) 0⟩,
       ⟨(some 15), none, .extract (.t 7) 1⟩,
       ⟨(some 5), none, .alloc [.int .i64 (0), .str [], .int .i64 (0), .bool false]⟩,
       ⟨none, none, .store 4 (.t 5) (.t 14)⟩,
       ⟨(some 6), none, .move (.t 15)⟩]) (
    .seq (
     .seq (
      .region [
        ⟨(some 16), none, .move (.t 6)⟩,
        ⟨(some 17), none, .not (.t 16)⟩,
        ⟨(some 18), none, .move (.t 17)⟩,
        ⟨(some 19), (some (18, false)), .fieldAddr 3 (.t 5)⟩,
        ⟨(some 20), (some (18, false)), .load false 1 (.t 19)⟩,
        ⟨(some 21), none, .pick (.t 18) (.c (.bool true)) (.t 20)⟩]) (
     .cond (.t 21) (
      .seq (
       .region [
         ⟨(some 4), none, .move (.c (.int .i64 (180)))⟩]) (
      .ret)) (
      .skip))) (
    .seq (
     .region [
       ⟨(some 22), none, .fieldAddr 3 (.t 5)⟩,
       ⟨none, none, .store 1 (.t 22) (.c (.bool true))⟩]) (
    .seq (
     .regionD [
       (⟨(some 23), none, .move (.t 0)⟩, []),
       (⟨(some 24), none, .nilCheck (.t 23)⟩, [0]),
       (⟨(some 25), none, .fieldAddr 0 (.t 24)⟩, [1]),
       (⟨(some 26), none, .load false 1 (.t 25)⟩, [2]),
       (⟨(some 27), none, .move (.t 1)⟩, []),
       (⟨(some 28), none, .load true 4 (.t 5)⟩, []),
       (⟨none, none, .mapUpdate (.one .int) (.t 26) (.t 27) (.t 28)⟩, [3, 4, 5, 0, 1, 2, 3, 4, 5])]) (
    .seq (
     .region [
       ⟨(some 4), none, .move (.c (.int .i64 (0)))⟩]) (
    .ret))))))

/-- (*reveille/job.Jobs).End -/
def c12 : CFunc where
  nparams := 4
  ntmps := 97
  results := [.tmp 8, .tmp 9]
  body :=
    .seq (
     .region [
       ⟨(some 4), none, .box (.t 0)⟩,
       ⟨(some 5), none, .box (.t 1)⟩,
       ⟨(some 8), none, .move (.c (.nilSlice))⟩,
       ⟨(some 9), none, .move (.c (.int .i64 (0)))⟩]) (
    .seq (
     .region [
       ⟨(some 18), none, .load false 1 (.t 4)⟩,
       ⟨(some 19), none, .nilCheck (.t 18)⟩,
       ⟨(some 20), none, .fieldAddr 0 (.t 19)⟩,
       ⟨(some 21), none, .load false 1 (.t 20)⟩,
       ⟨(some 22), none, .move (.t 2)⟩,
       ⟨(some 23), none, .lookup (.one .int) (.agg [.int .i64 (0), .str [], .int .i64 (0), .bool false]) (.t 21) (.t 22) true⟩,
       ⟨(some 17), none, .move (.t 23)⟩,
       ⟨(some 24), none, .extract (.t 17) 0⟩,
       ⟨(some 25), none, .extract (.t 17) 1⟩,
       ⟨(some 10), none, .alloc [.int .i64 (0), .str [], .int .i64 (0), .bool false]⟩,
       ⟨none, none, .store 4 (.t 10) (.t 24)⟩,
       ⟨(some 11), none, .move (.t 25)⟩]) (
    .seq (
     .seq (
      .region [
        ⟨(some 26), none, .move (.t 11)⟩,
        ⟨(some 27), none, .not (.t 26)⟩,
        ⟨(some 28), none, .move (.t 27)⟩,
        ⟨(some 29), (some (28, false)), .move (.t 3)⟩,
        ⟨(some 30), (some (28, false)), .bin .lss (.t 29) (.c (.int .i64 (1)))⟩,
        ⟨(some 31), none, .pick (.t 28) (.c (.bool true)) (.t 30)⟩,
        ⟨(some 32), none, .move (.t 31)⟩,
        ⟨(some 33), (some (32, false)), .move (.t 3)⟩,
        ⟨(some 34), (some (32, false)), .bin .gtr (.t 33) (.c (.int .i64 (6)))⟩,
        ⟨(some 35), none, .pick (.t 32) (.c (.bool true)) (.t 34)⟩]) (
     .cond (.t 35) (
      .seq (
       .region [
         ⟨(some 8), none, .move (.c (.nilSlice))⟩,
         ⟨(some 9), none, .move (.c (.int .i64 (180)))⟩]) (
      .ret)) (
      .skip))) (
    .seq (
     .region [
       ⟨(some 36), none, .load false 1 (.t 4)⟩,
       ⟨(some 37), none, .load true 4 (.t 10)⟩,
       ⟨(some 38), none, .move (.t 3)⟩,
       ⟨(some 39), none, .call 21 [.t 36, .t 37, .t 38]⟩,
       ⟨(some 40), none, .buildSlice 4 1 (.agg [.int .i64 (0), .str [], .int .i64 (0), .int .i64 (0)]) [(0, .t 39)]⟩,
       ⟨(some 12), none, .move (.t 40)⟩]) (
    .seq (
     .seq (
      .region [
        ⟨(some 41), none, .fieldAddr 2 (.t 10)⟩,
        ⟨(some 42), none, .load false 1 (.t 41)⟩,
        ⟨(some 43), none, .bin .eql (.t 42) (.c (.int .i64 (2)))⟩,
        ⟨(some 44), none, .move (.t 43)⟩,
        ⟨(some 45), (some (44, false)), .move (.t 3)⟩,
        ⟨(some 46), (some (44, false)), .bin .eql (.t 45) (.c (.int .i64 (1)))⟩,
        ⟨(some 47), none, .pick (.t 44) (.c (.bool true)) (.t 46)⟩,
        ⟨(some 48), none, .move (.t 47)⟩,
        ⟨(some 49), (some (48, false)), .move (.t 3)⟩,
        ⟨(some 50), (some (48, false)), .bin .eql (.t 49) (.c (.int .i64 (5)))⟩,
        ⟨(some 51), none, .pick (.t 48) (.c (.bool true)) (.t 50)⟩,
        ⟨(some 52), none, .move (.t 51)⟩,
        ⟨(some 53), (some (52, false)), .move (.t 3)⟩,
        ⟨(some 54), (some (52, false)), .bin .eql (.t 53) (.c (.int .i64 (6)))⟩,
        ⟨(some 55), none, .pick (.t 52) (.c (.bool true)) (.t 54)⟩]) (
     .cond (.t 55) (
      .seq (
       .region [
         ⟨(some 56), none, .move (.t 12)⟩,
         ⟨(some 8), none, .move (.t 56)⟩,
         ⟨(some 9), none, .move (.c (.int .i64 (0)))⟩]) (
      .ret)) (
      .skip))) (
    .seq (
     .region [
       ⟨(some 57), none, .makeMap⟩,
       ⟨(some 58), none, .fieldAddr 1 (.t 10)⟩,
       ⟨(some 59), none, .load false 1 (.t 58)⟩,
       ⟨(some 60), none, .build [] []⟩,
       ⟨none, none, .mapUpdate (.one .str) (.t 57) (.t 59) (.t 60)⟩,
       ⟨(some 61), none, .move (.t 57)⟩,
       ⟨(some 13), none, .alloc [.nilMap]⟩,
       ⟨none, none, .store 1 (.t 13) (.t 61)⟩]) (
    .seq (
     .region [
       ⟨(some 14), none, .alloc [.nilSlice]⟩]) (
    .seq (
     .seq (
      .region [
        ⟨(some 15), none, .alloc [.bool false]⟩,
        ⟨none, none, .store 1 (.t 15) (.c (.bool true))⟩]) (
     .block 0 (
      .loop (
       .seq (
        .seq (
         .region [
           ⟨(some 62), none, .load false 1 (.t 15)⟩]) (
        .cond (.t 62) (
         .skip) (
         .exit 0))) (
       .seq (
        .block 1 (
         .seq (
          .region [
            ⟨none, none, .store 1 (.t 15) (.c (.bool false))⟩]) (
         .seq (
          .region [
            ⟨(some 63), none, .load false 1 (.t 4)⟩,
            ⟨(some 64), none, .call 22 [.t 63]⟩]) (
         .block 2 (
          .rangeFunc (.t 64) [65] (
           .region [
             ⟨(some 16), none, .alloc [.int .i64 (0), .str [], .int .i64 (0), .bool false]⟩,
             ⟨none, none, .store 4 (.t 16) (.t 65)⟩]) (
           .block 3 (
            .seq (
             .region [
               ⟨(some 66), none, .fieldAddr 2 (.t 16)⟩,
               ⟨(some 67), none, .load false 1 (.t 66)⟩,
               ⟨(some 68), none, .bin .neq (.t 67) (.c (.int .i64 (2)))⟩,
               ⟨(some 69), none, .move (.t 68)⟩,
               ⟨(some 70), (some (69, true)), .fieldAddr 3 (.t 16)⟩,
               ⟨(some 71), (some (69, true)), .load false 1 (.t 70)⟩,
               ⟨(some 72), (some (69, true)), .not (.t 71)⟩,
               ⟨(some 73), none, .pick (.t 69) (.t 72) (.c (.bool false))⟩,
               ⟨(some 74), none, .move (.t 73)⟩,
               ⟨(some 75), (some (74, true)), .load false 1 (.t 5)⟩,
               ⟨(some 76), (some (74, true)), .fieldAddr 1 (.t 16)⟩,
               ⟨(some 77), (some (74, true)), .load false 1 (.t 76)⟩,
               ⟨(some 78), (some (74, true)), .load false 1 (.t 13)⟩,
               ⟨(some 79), (some (74, true)), .call 23 [.t 75, .t 77, .t 78]⟩,
               ⟨(some 80), none, .pick (.t 74) (.t 79) (.c (.bool false))⟩]) (
            .cond (.t 80) (
             .seq (
              .regionD [
                (⟨(some 81), none, .load false 1 (.t 14)⟩, []),
                (⟨(some 82), none, .load false 1 (.t 4)⟩, []),
                (⟨(some 83), none, .load true 4 (.t 16)⟩, []),
                (⟨(some 84), none, .call 21 [.t 82, .t 83, .c (.int .i64 (4))]⟩, [1, 2]),
                (⟨(some 85), none, .buildSlice 4 1 (.agg [.int .i64 (0), .str [], .int .i64 (0), .int .i64 (0)]) [(0, .t 84)]⟩, [3]),
                (⟨(some 86), none, .append 4 40 (.t 81) (.t 85)⟩, [0, 4, 3]),
                (⟨none, none, .store 1 (.t 14) (.t 86)⟩, [5, 5, 0, 1, 2, 3, 4, 5])]) (
             .seq (
              .region [
                ⟨(some 87), none, .load false 1 (.t 13)⟩,
                ⟨(some 88), none, .fieldAddr 1 (.t 16)⟩,
                ⟨(some 89), none, .load false 1 (.t 88)⟩,
                ⟨(some 90), none, .build [] []⟩,
                ⟨none, none, .mapUpdate (.one .str) (.t 87) (.t 89) (.t 90)⟩]) (
             .region [
               ⟨none, none, .store 1 (.t 15) (.c (.bool true))⟩]))) (
             .skip))))))))) (
       .seq (
        .region [
          ⟨(some 91), none, .load false 1 (.t 15)⟩]) (
       .region [
         ⟨(some 15), none, .alloc [.bool false]⟩,
         ⟨none, none, .store 1 (.t 15) (.t 91)⟩]))))))) (
    .seq (
     .region [
       ⟨(some 92), none, .load false 1 (.t 14)⟩,
       ⟨(some 93), none, .call 24 [.t 92, .c (.func 25 [] [])]⟩]) (
    .seq (
     .region [
       ⟨(some 94), none, .move (.t 12)⟩,
       ⟨(some 95), none, .load false 1 (.t 14)⟩,
       ⟨(some 96), none, .append 4 40 (.t 94) (.t 95)⟩,
       ⟨(some 8), none, .move (.t 96)⟩,
       ⟨(some 9), none, .move (.c (.int .i64 (0)))⟩]) (
    .ret))))))))))

/-- (*reveille/job.Jobs).Of -/
def c14 : CFunc where
  nparams := 2
  ntmps := 16
  results := [.cell 4 true 4, .cell 5 false 1]
  body :=
    .seq (
     .region [
       ⟨(some 3), none, .box (.t 1)⟩,
       ⟨(some 4), none, .alloc [.int .i64 (0), .str [], .int .i64 (0), .bool false]⟩,
       ⟨(some 5), none, .alloc [.bool false]⟩]) (
    .seq (
     .seq (
      .region [
        ⟨(some 7), none, .move (.t 0)⟩,
        ⟨(some 8), none, .call 22 [.t 7]⟩]) (
     .block 0 (
      .rangeFunc (.t 8) [9] (
       .region [
         ⟨(some 6), none, .alloc [.int .i64 (0), .str [], .int .i64 (0), .bool false]⟩,
         ⟨none, none, .store 4 (.t 6) (.t 9)⟩]) (
       .block 1 (
        .seq (
         .region [
           ⟨(some 10), none, .fieldAddr 1 (.t 6)⟩,
           ⟨(some 11), none, .load false 1 (.t 10)⟩,
           ⟨(some 12), none, .load false 1 (.t 3)⟩,
           ⟨(some 13), none, .bin .eql (.t 11) (.t 12)⟩]) (
        .cond (.t 13) (
         .seq (
          .region [
            ⟨(some 14), none, .load true 4 (.t 6)⟩,
            ⟨none, none, .store 4 (.t 4) (.t 14)⟩,
            ⟨none, none, .store 1 (.t 5) (.c (.bool true))⟩]) (
         .ret)) (
         .skip))))))) (
    .seq (
     .region [
       ⟨(some 15), none, .build [.int .i64 (0), .str [], .int .i64 (0), .bool false] []⟩,
       ⟨none, none, .store 4 (.t 4) (.t 15)⟩,
       ⟨none, none, .store 1 (.t 5) (.c (.bool false))⟩]) (
    .ret)))

/-- (*reveille/job.Jobs).Turn -/
def c16 : CFunc where
  nparams := 2
  ntmps := 35
  results := [.tmp 4]
  body :=
    .seq (
     .region [
       ⟨(some 4), none, .move (.c (.int .i64 (0)))⟩]) (
    .seq (
     .region [
       ⟨(some 8), none, .move (.t 0)⟩,
       ⟨(some 9), none, .nilCheck (.t 8)⟩,
       ⟨(some 10), none, .fieldAddr 0 (.t 9)⟩,
       ⟨(some 11), none, .load false 1 (.t 10)⟩,
       ⟨(some 12), none, .move (.t 1)⟩,
       ⟨(some 13), none, .lookup (.one .int) (.agg [.int .i64 (0), .str [], .int .i64 (0), .bool false]) (.t 11) (.t 12) true⟩,
       ⟨(some 7), none, .move (.t 13)⟩,
       ⟨(some 14), none, .extract (.t 7) 0⟩,
       ⟨(some 15), none, .extract (.t 7) 1⟩,
       ⟨(some 5), none, .alloc [.int .i64 (0), .str [], .int .i64 (0), .bool false]⟩,
       ⟨none, none, .store 4 (.t 5) (.t 14)⟩,
       ⟨(some 6), none, .move (.t 15)⟩]) (
    .seq (
     .seq (
      .region [
        ⟨(some 16), none, .move (.t 6)⟩,
        ⟨(some 17), none, .not (.t 16)⟩,
        ⟨(some 18), none, .move (.t 17)⟩,
        ⟨(some 19), (some (18, false)), .fieldAddr 2 (.t 5)⟩,
        ⟨(some 20), (some (18, false)), .load false 1 (.t 19)⟩,
        ⟨(some 21), (some (18, false)), .bin .neq (.t 20) (.c (.int .i64 (3)))⟩,
        ⟨(some 22), none, .pick (.t 18) (.c (.bool true)) (.t 21)⟩,
        ⟨(some 23), none, .move (.t 22)⟩,
        ⟨(some 24), (some (23, false)), .fieldAddr 3 (.t 5)⟩,
        ⟨(some 25), (some (23, false)), .load false 1 (.t 24)⟩,
        ⟨(some 26), (some (23, false)), .not (.t 25)⟩,
        ⟨(some 27), none, .pick (.t 23) (.c (.bool true)) (.t 26)⟩]) (
     .cond (.t 27) (
      .seq (
       .region [
         ⟨(some 4), none, .move (.c (.int .i64 (180)))⟩]) (
      .ret)) (
      .skip))) (
    .seq (
     .region [
       ⟨(some 28), none, .fieldAddr 2 (.t 5)⟩,
       ⟨none, none, .store 1 (.t 28) (.c (.int .i64 (1)))⟩]) (
    .seq (
     .regionD [
       (⟨(some 29), none, .move (.t 0)⟩, []),
       (⟨(some 30), none, .nilCheck (.t 29)⟩, [0]),
       (⟨(some 31), none, .fieldAddr 0 (.t 30)⟩, [1]),
       (⟨(some 32), none, .load false 1 (.t 31)⟩, [2]),
       (⟨(some 33), none, .move (.t 1)⟩, []),
       (⟨(some 34), none, .load true 4 (.t 5)⟩, []),
       (⟨none, none, .mapUpdate (.one .int) (.t 32) (.t 33) (.t 34)⟩, [3, 4, 5, 0, 1, 2, 3, 4, 5])]) (
    .seq (
     .region [
       ⟨(some 4), none, .move (.c (.int .i64 (0)))⟩]) (
    .ret))))))

/-- reveille/graph.New -/
def c17 : CFunc where
  nparams := 0
  ntmps := 4
  results := [.tmp 0]
  body :=
    .seq (
     .region [
       ⟨(some 0), none, .move (.c (.nilPtr))⟩]) (
    .seq (
     .region [
       ⟨(some 1), none, .makeMap⟩,
       ⟨(some 2), none, .build [.nilMap] [(0, 1, .t 1)]⟩,
       ⟨(some 3), none, .box (.t 2)⟩,
       ⟨(some 0), none, .move (.t 3)⟩]) (
    .ret))

/-- (*reveille/graph.Graph).Add -/
def c18 : CFunc where
  nparams := 2
  ntmps := 40
  results := [.tmp 4]
  body :=
    .seq (
     .region [
       ⟨(some 3), none, .box (.t 1)⟩,
       ⟨(some 4), none, .move (.c (.int .i64 (0)))⟩]) (
    .seq (
     .regionD [
       (⟨(some 8), none, .move (.t 0)⟩, []),
       (⟨(some 9), none, .nilCheck (.t 8)⟩, [0]),
       (⟨(some 10), none, .fieldAddr 0 (.t 9)⟩, [1]),
       (⟨(some 11), none, .load false 1 (.t 10)⟩, [2]),
       (⟨(some 12), none, .fieldAddr 0 (.t 3)⟩, []),
       (⟨(some 13), none, .load false 1 (.t 12)⟩, [4]),
       (⟨(some 14), none, .lookup (.one .str) (.agg [.str [], .int .i64 (0), .int .i64 (0), .nilSlice, .nilSlice, .nilSlice, .nilSlice, .nilSlice, .nilSlice, .nilSlice, .bool false, .int .i64 (0), .int .i64 (0), .int .i64 (0), .nilSlice, .nilSlice, .nilSlice, .int .i64 (0), .int .i64 (0), .int .i64 (0), .int .i64 (0), .int .i64 (0), .int .i64 (0), .bool false, .str [], .str [], .int .i64 (0), .int .i64 (0), .nilSlice, .nilSlice, .nilSlice, .str [], .str []]) (.t 11) (.t 13) true⟩, [3, 5]),
       (⟨(some 7), none, .move (.t 14)⟩, [6]),
       (⟨(some 15), none, .extract (.t 7) 0⟩, [7]),
       (⟨(some 16), none, .extract (.t 7) 1⟩, [7]),
       (⟨(some 5), none, .alloc [.str [], .int .i64 (0), .int .i64 (0), .nilSlice, .nilSlice, .nilSlice, .nilSlice, .nilSlice, .nilSlice, .nilSlice, .bool false, .int .i64 (0), .int .i64 (0), .int .i64 (0), .nilSlice, .nilSlice, .nilSlice, .int .i64 (0), .int .i64 (0), .int .i64 (0), .int .i64 (0), .int .i64 (0), .int .i64 (0), .bool false, .str [], .str [], .int .i64 (0), .int .i64 (0), .nilSlice, .nilSlice, .nilSlice, .str [], .str []]⟩, []),
       (⟨none, none, .store 33 (.t 5) (.t 15)⟩, [10, 8, 0, 1, 2, 3, 4, 5, 6, 7, 8, 10]),
       (⟨(some 6), none, .move (.t 16)⟩, [9, 11, 0, 1, 2, 3, 4, 5, 6, 7, 8, 9, 10, 11])]) (
    .seq (
     .block 0 (
      .seq (
       .region [
         ⟨(some 18), none, .fieldAddr 0 (.t 3)⟩,
         ⟨(some 19), none, .load false 1 (.t 18)⟩,
         ⟨(some 20), none, .call 28 [.t 19]⟩,
         ⟨(some 21), none, .not (.t 20)⟩,
         ⟨(some 17), none, .move (.t 21)⟩]) (
      .cond (.t 17) (
       .seq (
        .region [
          ⟨(some 4), none, .move (.c (.int .i64 (150)))⟩]) (
       .ret)) (
       .seq (
        .region [
          ⟨(some 23), none, .move (.t 6)⟩,
          ⟨(some 24), none, .not (.t 23)⟩,
          ⟨(some 25), none, .move (.t 24)⟩,
          ⟨(some 26), (some (25, true)), .move (.t 0)⟩,
          ⟨(some 27), (some (25, true)), .nilCheck (.t 26)⟩,
          ⟨(some 28), (some (25, true)), .fieldAddr 0 (.t 27)⟩,
          ⟨(some 29), (some (25, true)), .load false 1 (.t 28)⟩,
          ⟨(some 30), (some (25, true)), .lenMap (.t 29)⟩,
          ⟨(some 31), (some (25, true)), .bin .geq (.t 30) (.c (.int .i64 (40)))⟩,
          ⟨(some 32), none, .pick (.t 25) (.t 31) (.c (.bool false))⟩,
          ⟨(some 22), none, .move (.t 32)⟩]) (
       .cond (.t 22) (
        .seq (
         .region [
           ⟨(some 4), none, .move (.c (.int .i64 (151)))⟩]) (
        .ret)) (
        .skip)))))) (
    .seq (
     .regionD [
       (⟨(some 33), none, .move (.t 0)⟩, []),
       (⟨(some 34), none, .nilCheck (.t 33)⟩, [0]),
       (⟨(some 35), none, .fieldAddr 0 (.t 34)⟩, [1]),
       (⟨(some 36), none, .load false 1 (.t 35)⟩, [2]),
       (⟨(some 37), none, .fieldAddr 0 (.t 3)⟩, []),
       (⟨(some 38), none, .load false 1 (.t 37)⟩, [4]),
       (⟨(some 39), none, .load true 33 (.t 3)⟩, []),
       (⟨none, none, .mapUpdate (.one .str) (.t 36) (.t 38) (.t 39)⟩, [3, 5, 6, 0, 1, 2, 3, 4, 5, 6])]) (
    .seq (
     .region [
       ⟨(some 4), none, .move (.c (.int .i64 (0)))⟩]) (
    .ret)))))

/-- (*reveille/reveilleref15.Graph).Add -/
def c19 : CFunc where
  nparams := 2
  ntmps := 76
  results := [.tmp 4]
  body :=
    .seq (
     .region [
       ⟨(some 3), none, .box (.t 1)⟩,
       ⟨(some 4), none, .move (.c (.int .i64 (0)))⟩]) (
    .seq (
     .region [
       ⟨(some 8), none, .move (.t 0)⟩,
       ⟨(some 9), none, .fieldAddr 0 (.t 3)⟩,
       ⟨(some 10), none, .load false 1 (.t 9)⟩,
       ⟨(some 11), none, .call 29 [.t 8, .t 10]⟩,
       ⟨(some 7), none, .move (.t 11)⟩,
       ⟨(some 12), none, .extract (.t 7) 0⟩,
       ⟨(some 13), none, .extract (.t 7) 1⟩,
       ⟨(some 5), none, .move (.t 12)⟩,
       ⟨(some 6), none, .move (.t 13)⟩]) (
    .seq (
     .block 0 (
      .seq (
       .region [
         ⟨(some 15), none, .fieldAddr 0 (.t 3)⟩,
         ⟨(some 16), none, .load false 1 (.t 15)⟩,
         ⟨(some 17), none, .call 30 [.t 16]⟩,
         ⟨(some 18), none, .not (.t 17)⟩,
         ⟨(some 14), none, .move (.t 18)⟩]) (
      .cond (.t 14) (
       .seq (
        .region [
          ⟨(some 4), none, .move (.c (.int .i64 (150)))⟩]) (
       .ret)) (
       .seq (
        .region [
          ⟨(some 20), none, .move (.t 6)⟩,
          ⟨(some 19), none, .move (.t 20)⟩]) (
       .cond (.t 19) (
        .seq (
         .regionD [
           (⟨(some 21), none, .move (.t 0)⟩, []),
           (⟨(some 22), none, .nilCheck (.t 21)⟩, [0]),
           (⟨(some 23), none, .fieldAddr 0 (.t 22)⟩, [1]),
           (⟨(some 24), none, .load false 1 (.t 23)⟩, [2]),
           (⟨(some 25), none, .move (.t 5)⟩, []),
           (⟨(some 26), none, .load true 33 (.t 3)⟩, []),
           (⟨(some 27), none, .indexAddr 33 (.t 24) (.t 25)⟩, [3, 4, 0, 1, 2, 3, 4, 5]),
           (⟨none, none, .store 33 (.t 27) (.t 26)⟩, [6, 5, 0, 1, 2, 3, 4, 5])]) (
        .seq (
         .region [
           ⟨(some 28), none, .move (.t 0)⟩,
           ⟨(some 29), none, .move (.t 0)⟩,
           ⟨(some 30), none, .call 31 [.t 29]⟩,
           ⟨(some 31), none, .nilCheck (.t 28)⟩,
           ⟨(some 32), none, .fieldAddr 1 (.t 31)⟩,
           ⟨none, none, .store 1 (.t 32) (.t 30)⟩]) (
        .seq (
         .region [
           ⟨(some 4), none, .move (.c (.int .i64 (0)))⟩]) (
        .ret)))) (
        .seq (
         .region [
           ⟨(some 34), none, .move (.t 0)⟩,
           ⟨(some 35), none, .nilCheck (.t 34)⟩,
           ⟨(some 36), none, .fieldAddr 0 (.t 35)⟩,
           ⟨(some 37), none, .load false 1 (.t 36)⟩,
           ⟨(some 38), none, .lenSlice (.t 37)⟩,
           ⟨(some 39), none, .bin .geq (.t 38) (.c (.int .i64 (40)))⟩,
           ⟨(some 33), none, .move (.t 39)⟩]) (
        .cond (.t 33) (
         .seq (
          .region [
            ⟨(some 4), none, .move (.c (.int .i64 (151)))⟩]) (
         .ret)) (
         .skip)))))))) (
    .seq (
     .region [
       ⟨(some 40), none, .move (.t 0)⟩,
       ⟨(some 41), none, .move (.t 0)⟩,
       ⟨(some 42), none, .nilCheck (.t 41)⟩,
       ⟨(some 43), none, .fieldAddr 0 (.t 42)⟩,
       ⟨(some 44), none, .load false 1 (.t 43)⟩,
       ⟨(some 45), none, .build [.str [], .int .i64 (0), .int .i64 (0), .nilSlice, .nilSlice, .nilSlice, .nilSlice, .nilSlice, .nilSlice, .nilSlice, .bool false, .int .i64 (0), .int .i64 (0), .int .i64 (0), .nilSlice, .nilSlice, .nilSlice, .int .i64 (0), .int .i64 (0), .int .i64 (0), .int .i64 (0), .int .i64 (0), .int .i64 (0), .bool false, .str [], .str [], .int .i64 (0), .int .i64 (0), .nilSlice, .nilSlice, .nilSlice, .str [], .str []] []⟩,
       ⟨(some 46), none, .buildSlice 33 1 (.agg [.str [], .int .i64 (0), .int .i64 (0), .nilSlice, .nilSlice, .nilSlice, .nilSlice, .nilSlice, .nilSlice, .nilSlice, .bool false, .int .i64 (0), .int .i64 (0), .int .i64 (0), .nilSlice, .nilSlice, .nilSlice, .int .i64 (0), .int .i64 (0), .int .i64 (0), .int .i64 (0), .int .i64 (0), .int .i64 (0), .bool false, .str [], .str [], .int .i64 (0), .int .i64 (0), .nilSlice, .nilSlice, .nilSlice, .str [], .str []]) [(0, .t 45)]⟩,
       ⟨(some 47), none, .append 33 512 (.t 44) (.t 46)⟩,
       ⟨(some 48), none, .nilCheck (.t 40)⟩,
       ⟨(some 49), none, .fieldAddr 0 (.t 48)⟩,
       ⟨none, none, .store 1 (.t 49) (.t 47)⟩]) (
    .seq (
     .regionD [
       (⟨(some 50), none, .move (.t 0)⟩, []),
       (⟨(some 51), none, .nilCheck (.t 50)⟩, [0]),
       (⟨(some 52), none, .fieldAddr 0 (.t 51)⟩, [1]),
       (⟨(some 53), none, .load false 1 (.t 52)⟩, [2]),
       (⟨(some 54), none, .move (.t 5)⟩, []),
       (⟨(some 55), none, .bin .add (.t 54) (.c (.int .i64 (1)))⟩, [4]),
       (⟨(some 56), none, .sliceRow 33 (.t 53) (some (.t 55)) none⟩, [3, 5]),
       (⟨(some 57), none, .move (.t 0)⟩, []),
       (⟨(some 58), none, .nilCheck (.t 57)⟩, [7]),
       (⟨(some 59), none, .fieldAddr 0 (.t 58)⟩, [8]),
       (⟨(some 60), none, .load false 1 (.t 59)⟩, [9]),
       (⟨(some 61), none, .move (.t 5)⟩, []),
       (⟨(some 62), none, .sliceRow 33 (.t 60) (some (.t 61)) none⟩, [10, 11]),
       (⟨(some 63), none, .copy 33 (.t 56) (.t 62)⟩, [6, 12])]) (
    .seq (
     .regionD [
       (⟨(some 64), none, .move (.t 0)⟩, []),
       (⟨(some 65), none, .nilCheck (.t 64)⟩, [0]),
       (⟨(some 66), none, .fieldAddr 0 (.t 65)⟩, [1]),
       (⟨(some 67), none, .load false 1 (.t 66)⟩, [2]),
       (⟨(some 68), none, .move (.t 5)⟩, []),
       (⟨(some 69), none, .load true 33 (.t 3)⟩, []),
       (⟨(some 70), none, .indexAddr 33 (.t 67) (.t 68)⟩, [3, 4, 0, 1, 2, 3, 4, 5]),
       (⟨none, none, .store 33 (.t 70) (.t 69)⟩, [6, 5, 0, 1, 2, 3, 4, 5])]) (
    .seq (
     .region [
       ⟨(some 71), none, .move (.t 0)⟩,
       ⟨(some 72), none, .move (.t 0)⟩,
       ⟨(some 73), none, .call 31 [.t 72]⟩,
       ⟨(some 74), none, .nilCheck (.t 71)⟩,
       ⟨(some 75), none, .fieldAddr 1 (.t 74)⟩,
       ⟨none, none, .store 1 (.t 75) (.t 73)⟩]) (
    .seq (
     .region [
       ⟨(some 4), none, .move (.c (.int .i64 (0)))⟩]) (
    .ret))))))))

/-- reveille/job.right -/
def c20 : CFunc where
  nparams := 1
  ntmps := 9
  results := [.tmp 2]
  body :=
    .seq (
     .region [
       ⟨(some 2), none, .move (.c (.bool false))⟩]) (
    .seq (
     .region [
       ⟨(some 3), none, .move (.t 0)⟩,
       ⟨(some 4), none, .bin .geq (.t 3) (.c (.int .i64 (1)))⟩,
       ⟨(some 5), none, .move (.t 4)⟩,
       ⟨(some 6), (some (5, true)), .move (.t 0)⟩,
       ⟨(some 7), (some (5, true)), .bin .leq (.t 6) (.c (.int .i64 (3)))⟩,
       ⟨(some 8), none, .pick (.t 5) (.t 7) (.c (.bool false))⟩,
       ⟨(some 2), none, .move (.t 8)⟩]) (
    .ret))

/-- (*reveille/job.Jobs).ends -/
def c21 : CFunc where
  nparams := 3
  ntmps := 21
  results := [.cell 6 true 4]
  body :=
    .seq (
     .region [
       ⟨(some 4), none, .box (.t 1)⟩,
       ⟨(some 6), none, .alloc [.int .i64 (0), .str [], .int .i64 (0), .int .i64 (0)]⟩]) (
    .seq (
     .regionD [
       (⟨(some 7), none, .move (.t 0)⟩, []),
       (⟨(some 8), none, .nilCheck (.t 7)⟩, [0]),
       (⟨(some 9), none, .fieldAddr 0 (.t 8)⟩, [1]),
       (⟨(some 10), none, .load false 1 (.t 9)⟩, [2]),
       (⟨(some 11), none, .fieldAddr 0 (.t 4)⟩, []),
       (⟨(some 12), none, .load false 1 (.t 11)⟩, [4]),
       (⟨none, none, .delete (.one .int) (.t 10) (.t 12)⟩, [3, 5])]) (
    .seq (
     .region [
       ⟨(some 13), none, .fieldAddr 0 (.t 4)⟩,
       ⟨(some 14), none, .load false 1 (.t 13)⟩,
       ⟨(some 15), none, .fieldAddr 1 (.t 4)⟩,
       ⟨(some 16), none, .load false 1 (.t 15)⟩,
       ⟨(some 17), none, .fieldAddr 2 (.t 4)⟩,
       ⟨(some 18), none, .load false 1 (.t 17)⟩,
       ⟨(some 19), none, .move (.t 2)⟩,
       ⟨(some 20), none, .build [.int .i64 (0), .str [], .int .i64 (0), .int .i64 (0)] [(0, 1, .t 14), (1, 1, .t 16), (2, 1, .t 18), (3, 1, .t 19)]⟩,
       ⟨none, none, .store 4 (.t 6) (.t 20)⟩]) (
    .ret)))

/-- (*reveille/job.Jobs).All -/
def c22 : CFunc where
  nparams := 1
  ntmps := 4
  results := [.tmp 2]
  body :=
    .seq (
     .region [
       ⟨(some 1), none, .box (.t 0)⟩,
       ⟨(some 2), none, .move (.c (.nilFunc))⟩]) (
    .seq (
     .region [
       ⟨(some 3), none, .makeFunc 32 [] [.t 1]⟩,
       ⟨(some 2), none, .move (.t 3)⟩]) (
    .ret))

/-- reveille/job.needs -/
def c23 : CFunc where
  nparams := 3
  ntmps := 32
  results := [.cell 6 false 1]
  body :=
    .seq (
     .region [
       ⟨(some 5), none, .box (.t 2)⟩,
       ⟨(some 6), none, .alloc [.bool false]⟩]) (
    .seq (
     .seq (
      .region [
        ⟨(some 10), none, .move (.t 0)⟩,
        ⟨(some 11), none, .move (.t 1)⟩,
        ⟨(some 12), none, .call 35 [.t 10, .t 11]⟩]) (
     .block 0 (
      .rangeFunc (.t 12) [13] (
       .region [
         ⟨(some 7), none, .alloc [.int .i64 (0), .str [], .str []]⟩,
         ⟨none, none, .store 3 (.t 7) (.t 13)⟩]) (
       .block 1 (
        .seq (
         .region [
           ⟨(some 15), none, .load false 1 (.t 5)⟩,
           ⟨(some 16), none, .fieldAddr 2 (.t 7)⟩,
           ⟨(some 17), none, .load false 1 (.t 16)⟩,
           ⟨(some 18), none, .lookup (.one .str) (.agg []) (.t 15) (.t 17) true⟩,
           ⟨(some 14), none, .move (.t 18)⟩,
           ⟨(some 19), none, .extract (.t 14) 0⟩,
           ⟨(some 20), none, .extract (.t 14) 1⟩,
           ⟨(some 8), none, .alloc []⟩,
           ⟨none, none, .store 0 (.t 8) (.t 19)⟩,
           ⟨(some 9), none, .move (.t 20)⟩]) (
        .seq (
         .region [
           ⟨(some 21), none, .move (.t 9)⟩,
           ⟨(some 22), none, .move (.t 21)⟩,
           ⟨(some 23), (some (22, true)), .fieldAddr 0 (.t 7)⟩,
           ⟨(some 24), (some (22, true)), .load false 1 (.t 23)⟩,
           ⟨(some 25), (some (22, true)), .bin .eql (.t 24) (.c (.int .i64 (2)))⟩,
           ⟨(some 26), (some (22, true)), .move (.t 25)⟩,
           ⟨(some 27), (some (26, false)), .fieldAddr 0 (.t 7)⟩,
           ⟨(some 28), (some (26, false)), .load false 1 (.t 27)⟩,
           ⟨(some 29), (some (26, false)), .bin .eql (.t 28) (.c (.int .i64 (3)))⟩,
           ⟨(some 30), (some (22, true)), .pick (.t 26) (.c (.bool true)) (.t 29)⟩,
           ⟨(some 31), none, .pick (.t 22) (.t 30) (.c (.bool false))⟩]) (
        .cond (.t 31) (
         .seq (
          .region [
            ⟨none, none, .store 1 (.t 6) (.c (.bool true))⟩]) (
         .ret)) (
         .skip)))))))) (
    .seq (
     .region [
       ⟨none, none, .store 1 (.t 6) (.c (.bool false))⟩]) (
    .ret)))

/-- slices.SortFunc[[]reveille/api.Ended,reveille/api.Ended] -/
def c24 : CFunc where
  nparams := 2
  ntmps := 14
  results := []
  body :=
    .seq (
     .region [
       ⟨(some 5), none, .move (.t 0)⟩,
       ⟨(some 6), none, .lenSlice (.t 5)⟩,
       ⟨(some 4), none, .move (.t 6)⟩]) (
    .region [
      ⟨(some 7), none, .move (.t 0)⟩,
      ⟨(some 8), none, .move (.t 4)⟩,
      ⟨(some 9), none, .move (.t 4)⟩,
      ⟨(some 10), none, .conv .u64 (.t 9)⟩,
      ⟨(some 11), none, .call 37 [.t 10]⟩,
      ⟨(some 12), none, .move (.t 1)⟩,
      ⟨(some 13), none, .call 36 [.t 7, .c (.int .i64 (0)), .t 8, .t 11, .t 12]⟩])

/-- (*reveille/job.Jobs).End$1 -/
def c25 : CFunc where
  nparams := 2
  ntmps := 10
  results := [.tmp 4]
  body :=
    .seq (
     .region [
       ⟨(some 2), none, .box (.t 0)⟩,
       ⟨(some 3), none, .box (.t 1)⟩,
       ⟨(some 4), none, .move (.c (.int .i64 (0)))⟩]) (
    .seq (
     .region [
       ⟨(some 5), none, .fieldAddr 0 (.t 2)⟩,
       ⟨(some 6), none, .load false 1 (.t 5)⟩,
       ⟨(some 7), none, .fieldAddr 0 (.t 3)⟩,
       ⟨(some 8), none, .load false 1 (.t 7)⟩,
       ⟨(some 9), none, .call 26 [.t 6, .t 8]⟩,
       ⟨(some 4), none, .move (.t 9)⟩]) (
    .ret))

/-- cmp.Compare[int] -/
def c26 : CFunc where
  nparams := 2
  ntmps := 20
  results := [.tmp 4]
  body :=
    .seq (
     .region [
       ⟨(some 4), none, .move (.c (.int .i64 (0)))⟩]) (
    .seq (
     .region [
       ⟨(some 7), none, .move (.t 0)⟩,
       ⟨(some 8), none, .call 38 [.t 7]⟩,
       ⟨(some 5), none, .move (.t 8)⟩]) (
    .seq (
     .region [
       ⟨(some 9), none, .move (.t 1)⟩,
       ⟨(some 10), none, .call 38 [.t 9]⟩,
       ⟨(some 6), none, .move (.t 10)⟩]) (
    .seq (
     .seq (
      .region [
        ⟨(some 11), none, .move (.t 5)⟩]) (
     .cond (.t 11) (
      .seq (
       .seq (
        .region [
          ⟨(some 12), none, .move (.t 6)⟩]) (
       .cond (.t 12) (
        .seq (
         .region [
           ⟨(some 4), none, .move (.c (.int .i64 (0)))⟩]) (
        .ret)) (
        .skip))) (
      .seq (
       .region [
         ⟨(some 4), none, .move (.c (.int .i64 (-1)))⟩]) (
      .ret))) (
      .skip))) (
    .seq (
     .seq (
      .region [
        ⟨(some 13), none, .move (.t 6)⟩]) (
     .cond (.t 13) (
      .seq (
       .region [
         ⟨(some 4), none, .move (.c (.int .i64 (1)))⟩]) (
      .ret)) (
      .skip))) (
    .seq (
     .seq (
      .region [
        ⟨(some 14), none, .move (.t 0)⟩,
        ⟨(some 15), none, .move (.t 1)⟩,
        ⟨(some 16), none, .bin .lss (.t 14) (.t 15)⟩]) (
     .cond (.t 16) (
      .seq (
       .region [
         ⟨(some 4), none, .move (.c (.int .i64 (-1)))⟩]) (
      .ret)) (
      .skip))) (
    .seq (
     .seq (
      .region [
        ⟨(some 17), none, .move (.t 0)⟩,
        ⟨(some 18), none, .move (.t 1)⟩,
        ⟨(some 19), none, .bin .gtr (.t 17) (.t 18)⟩]) (
     .cond (.t 19) (
      .seq (
       .region [
         ⟨(some 4), none, .move (.c (.int .i64 (1)))⟩]) (
      .ret)) (
      .skip))) (
    .seq (
     .region [
       ⟨(some 4), none, .move (.c (.int .i64 (0)))⟩]) (
    .ret))))))))

/-- reveille/name.Is -/
def c28 : CFunc where
  nparams := 1
  ntmps := 11
  results := [.tmp 2]
  body :=
    .seq (
     .region [
       ⟨(some 2), none, .move (.c (.bool false))⟩]) (
    .seq (
     .region [
       ⟨(some 6), none, .move (.t 0)⟩,
       ⟨(some 7), none, .call 39 [.t 6]⟩,
       ⟨(some 5), none, .move (.t 7)⟩,
       ⟨(some 8), none, .extract (.t 5) 0⟩,
       ⟨(some 9), none, .extract (.t 5) 1⟩,
       ⟨(some 3), none, .alloc [.str [], .str [], .bool false, .int .i64 (0)]⟩,
       ⟨none, none, .store 4 (.t 3) (.t 8)⟩,
       ⟨(some 4), none, .move (.t 9)⟩]) (
    .seq (
     .region [
       ⟨(some 10), none, .move (.t 4)⟩,
       ⟨(some 2), none, .move (.t 10)⟩]) (
    .ret)))

/-- (*reveille/reveilleref15.Graph).at -/
def c29 : CFunc where
  nparams := 2
  ntmps := 48
  results := [.tmp 4, .tmp 5]
  body :=
    .seq (
     .region [
       ⟨(some 4), none, .move (.c (.int .i64 (0)))⟩,
       ⟨(some 5), none, .move (.c (.bool false))⟩]) (
    .seq (
     .region [
       ⟨(some 6), none, .move (.c (.int .i64 (0)))⟩]) (
    .seq (
     .block 0 (
      .loop (
       .seq (
        .seq (
         .region [
           ⟨(some 7), none, .move (.t 6)⟩,
           ⟨(some 8), none, .move (.t 0)⟩,
           ⟨(some 9), none, .nilCheck (.t 8)⟩,
           ⟨(some 10), none, .fieldAddr 0 (.t 9)⟩,
           ⟨(some 11), none, .load false 1 (.t 10)⟩,
           ⟨(some 12), none, .lenSlice (.t 11)⟩,
           ⟨(some 13), none, .bin .lss (.t 7) (.t 12)⟩,
           ⟨(some 14), none, .move (.t 13)⟩,
           ⟨(some 15), (some (14, true)), .move (.t 0)⟩,
           ⟨(some 16), (some (14, true)), .nilCheck (.t 15)⟩,
           ⟨(some 17), (some (14, true)), .fieldAddr 0 (.t 16)⟩,
           ⟨(some 18), (some (14, true)), .load false 1 (.t 17)⟩,
           ⟨(some 19), (some (14, true)), .move (.t 6)⟩,
           ⟨(some 20), (some (14, true)), .indexAddr 33 (.t 18) (.t 19)⟩,
           ⟨(some 21), (some (14, true)), .fieldAddr 0 (.t 20)⟩,
           ⟨(some 22), (some (14, true)), .load false 1 (.t 21)⟩,
           ⟨(some 23), (some (14, true)), .move (.t 1)⟩,
           ⟨(some 24), (some (14, true)), .bin .lss (.t 22) (.t 23)⟩,
           ⟨(some 25), none, .pick (.t 14) (.t 24) (.c (.bool false))⟩]) (
        .cond (.t 25) (
         .skip) (
         .exit 0))) (
       .block 1 (
        .region [
          ⟨(some 26), none, .move (.t 6)⟩,
          ⟨(some 27), none, .bin .add (.t 26) (.c (.int .i64 (1)))⟩,
          ⟨(some 6), none, .move (.t 27)⟩]))))) (
    .seq (
     .regionD [
       (⟨(some 28), none, .move (.t 6)⟩, []),
       (⟨(some 29), none, .move (.t 6)⟩, []),
       (⟨(some 30), none, .move (.t 0)⟩, []),
       (⟨(some 31), none, .nilCheck (.t 30)⟩, [2]),
       (⟨(some 32), none, .fieldAddr 0 (.t 31)⟩, [3]),
       (⟨(some 33), none, .load false 1 (.t 32)⟩, [4]),
       (⟨(some 34), none, .lenSlice (.t 33)⟩, [5]),
       (⟨(some 35), none, .bin .lss (.t 29) (.t 34)⟩, [1, 6]),
       (⟨(some 36), none, .move (.t 35)⟩, [7]),
       (⟨(some 37), (some (36, true)), .move (.t 0)⟩, [8]),
       (⟨(some 38), (some (36, true)), .nilCheck (.t 37)⟩, [9, 8]),
       (⟨(some 39), (some (36, true)), .fieldAddr 0 (.t 38)⟩, [10, 8]),
       (⟨(some 40), (some (36, true)), .load false 1 (.t 39)⟩, [11, 8]),
       (⟨(some 41), (some (36, true)), .move (.t 6)⟩, [8]),
       (⟨(some 42), (some (36, true)), .indexAddr 33 (.t 40) (.t 41)⟩, [12, 13, 8]),
       (⟨(some 43), (some (36, true)), .fieldAddr 0 (.t 42)⟩, [14, 8]),
       (⟨(some 44), (some (36, true)), .load false 1 (.t 43)⟩, [15, 8]),
       (⟨(some 45), (some (36, true)), .move (.t 1)⟩, [8]),
       (⟨(some 46), (some (36, true)), .bin .eql (.t 44) (.t 45)⟩, [16, 17, 8]),
       (⟨(some 47), none, .pick (.t 36) (.t 46) (.c (.bool false))⟩, [8, 18]),
       (⟨(some 4), none, .move (.t 28)⟩, [0, 8, 0]),
       (⟨(some 5), none, .move (.t 47)⟩, [19, 20, 0, 1, 2, 3, 4, 5, 6, 7, 8, 9, 10, 11, 12, 13, 14, 15, 16, 17, 18, 19, 20])]) (
    .ret))))

/-- reveille/reveilleref4.Is -/
def c30 : CFunc where
  nparams := 1
  ntmps := 6
  results := [.tmp 2]
  body :=
    .seq (
     .region [
       ⟨(some 2), none, .move (.c (.bool false))⟩]) (
    .seq (
     .region [
       ⟨(some 3), none, .move (.t 0)⟩,
       ⟨(some 4), none, .call 40 [.t 3]⟩,
       ⟨(some 5), none, .bin .gtr (.t 4) (.c (.int .i64 (0)))⟩,
       ⟨(some 2), none, .move (.t 5)⟩]) (
    .ret))

/-- (*reveille/reveilleref15.Graph).all -/
def c31 : CFunc where
  nparams := 1
  ntmps := 24
  results := [.tmp 2]
  body :=
    .seq (
     .region [
       ⟨(some 2), none, .move (.c (.nilSlice))⟩]) (
    .seq (
     .region [
       ⟨(some 3), none, .move (.c (.nilSlice))⟩]) (
    .seq (
     .seq (
      .region [
        ⟨(some 4), none, .move (.c (.int .i64 (0)))⟩]) (
     .block 0 (
      .loop (
       .seq (
        .seq (
         .region [
           ⟨(some 5), none, .move (.t 4)⟩,
           ⟨(some 6), none, .move (.t 0)⟩,
           ⟨(some 7), none, .nilCheck (.t 6)⟩,
           ⟨(some 8), none, .fieldAddr 0 (.t 7)⟩,
           ⟨(some 9), none, .load false 1 (.t 8)⟩,
           ⟨(some 10), none, .lenSlice (.t 9)⟩,
           ⟨(some 11), none, .bin .lss (.t 5) (.t 10)⟩]) (
        .cond (.t 11) (
         .skip) (
         .exit 0))) (
       .seq (
        .block 1 (
         .region [
           ⟨(some 14), none, .move (.t 3)⟩,
           ⟨(some 15), none, .move (.t 0)⟩,
           ⟨(some 16), none, .nilCheck (.t 15)⟩,
           ⟨(some 17), none, .fieldAddr 0 (.t 16)⟩,
           ⟨(some 18), none, .load false 1 (.t 17)⟩,
           ⟨(some 19), none, .move (.t 4)⟩,
           ⟨(some 20), none, .indexAddr 33 (.t 18) (.t 19)⟩,
           ⟨(some 21), none, .load true 33 (.t 20)⟩,
           ⟨(some 22), none, .call 41 [.t 14, .t 21]⟩,
           ⟨(some 3), none, .move (.t 22)⟩])) (
       .region [
         ⟨(some 12), none, .move (.t 4)⟩,
         ⟨(some 13), none, .bin .add (.t 12) (.c (.int .i64 (1)))⟩,
         ⟨(some 4), none, .move (.t 13)⟩])))))) (
    .seq (
     .region [
       ⟨(some 23), none, .move (.t 3)⟩,
       ⟨(some 2), none, .move (.t 23)⟩]) (
    .ret))))

/-- (*reveille/job.Jobs).All$1 -/
def c32 : CFunc where
  nparams := 1
  ntmps := 35
  results := []
  body :=
    .seq (
     .region [
       ⟨(some 7), none, .load false 1 (.t 1)⟩,
       ⟨(some 8), none, .nilCheck (.t 7)⟩,
       ⟨(some 9), none, .fieldAddr 0 (.t 8)⟩,
       ⟨(some 10), none, .load false 1 (.t 9)⟩,
       ⟨(some 11), none, .call 34 [.t 10]⟩,
       ⟨(some 12), none, .call 33 [.t 11]⟩,
       ⟨(some 13), none, .lenSlice (.t 12)⟩,
       ⟨(some 14), none, .move (.c (.int .i64 (0)))⟩]) (
    .block 0 (
     .loop (
      .seq (
       .region [
         ⟨(some 15), none, .bin .lss (.t 14) (.t 13)⟩]) (
      .seq (
       .cond (.t 15) (
        .skip) (
        .exit 0)) (
      .seq (
       .block 1 (
        .seq (
         .region [
           ⟨(some 16), none, .indexAddr 1 (.t 12) (.t 14)⟩,
           ⟨(some 17), none, .load false 1 (.t 16)⟩,
           ⟨(some 4), none, .move (.t 17)⟩]) (
        .seq (
         .region [
           ⟨(some 19), none, .load false 1 (.t 1)⟩,
           ⟨(some 20), none, .nilCheck (.t 19)⟩,
           ⟨(some 21), none, .fieldAddr 0 (.t 20)⟩,
           ⟨(some 22), none, .load false 1 (.t 21)⟩,
           ⟨(some 23), none, .move (.t 4)⟩,
           ⟨(some 24), none, .lookup (.one .int) (.agg [.int .i64 (0), .str [], .int .i64 (0), .bool false]) (.t 22) (.t 23) true⟩,
           ⟨(some 18), none, .move (.t 24)⟩,
           ⟨(some 25), none, .extract (.t 18) 0⟩,
           ⟨(some 26), none, .extract (.t 18) 1⟩,
           ⟨(some 5), none, .alloc [.int .i64 (0), .str [], .int .i64 (0), .bool false]⟩,
           ⟨none, none, .store 4 (.t 5) (.t 25)⟩,
           ⟨(some 6), none, .move (.t 26)⟩]) (
        .seq (
         .region [
           ⟨(some 27), none, .move (.t 6)⟩,
           ⟨(some 28), none, .move (.t 27)⟩,
           ⟨(some 29), (some (28, true)), .move (.t 0)⟩,
           ⟨(some 30), (some (28, true)), .load true 4 (.t 5)⟩,
           ⟨(some 31), (some (28, true)), .callv (.t 29) [.t 30]⟩,
           ⟨(some 32), (some (28, true)), .not (.t 31)⟩,
           ⟨(some 33), none, .pick (.t 28) (.t 32) (.c (.bool false))⟩]) (
        .cond (.t 33) (
         .ret) (
         .skip)))))) (
      .region [
        ⟨(some 34), none, .bin .add (.t 14) (.c (.int .i64 (1)))⟩,
        ⟨(some 14), none, .move (.t 34)⟩]))))))

/-- slices.Sorted[int] -/
def c33 : CFunc where
  nparams := 1
  ntmps := 9
  results := [.tmp 2]
  body :=
    .seq (
     .region [
       ⟨(some 2), none, .move (.c (.nilSlice))⟩]) (
    .seq (
     .region [
       ⟨(some 4), none, .move (.t 0)⟩,
       ⟨(some 5), none, .call 42 [.t 4]⟩,
       ⟨(some 3), none, .move (.t 5)⟩]) (
    .seq (
     .region [
       ⟨(some 6), none, .move (.t 3)⟩,
       ⟨(some 7), none, .call 43 [.t 6]⟩]) (
    .seq (
     .region [
       ⟨(some 8), none, .move (.t 3)⟩,
       ⟨(some 2), none, .move (.t 8)⟩]) (
    .ret))))

/-- maps.Keys[map[int]reveille/api.Job,int,reveille/api.Job] -/
def c34 : CFunc where
  nparams := 1
  ntmps := 4
  results := [.tmp 2]
  body :=
    .seq (
     .region [
       ⟨(some 1), none, .box (.t 0)⟩,
       ⟨(some 2), none, .move (.c (.nilFunc))⟩]) (
    .seq (
     .region [
       ⟨(some 3), none, .makeFunc 44 [] [.t 1]⟩,
       ⟨(some 2), none, .move (.t 3)⟩]) (
    .ret))

/-- (*reveille/graph.Graph).Edges -/
def c35 : CFunc where
  nparams := 2
  ntmps := 8
  results := [.tmp 4]
  body :=
    .seq (
     .region [
       ⟨(some 3), none, .box (.t 1)⟩,
       ⟨(some 4), none, .move (.c (.nilFunc))⟩]) (
    .seq (
     .region [
       ⟨(some 5), none, .move (.t 0)⟩,
       ⟨(some 6), none, .makeFunc 46 [] [.t 3]⟩,
       ⟨(some 7), none, .call 45 [.t 5, .t 6]⟩,
       ⟨(some 4), none, .move (.t 7)⟩]) (
    .ret))

/-- slices.pdqsortCmpFunc[reveille/api.Ended] -/
def c36 : CFunc where
  nparams := 5
  ntmps := 148
  results := []
  body :=
    .seq (
     .region [
       ⟨(some 10), none, .move (.c (.bool true))⟩]) (
    .seq (
     .region [
       ⟨(some 11), none, .move (.c (.bool true))⟩]) (
    .block 0 (
     .loop (
      .block 1 (
       .seq (
        .region [
          ⟨(some 21), none, .move (.t 2)⟩,
          ⟨(some 22), none, .move (.t 1)⟩,
          ⟨(some 23), none, .bin .sub (.t 21) (.t 22)⟩,
          ⟨(some 12), none, .move (.t 23)⟩]) (
       .seq (
        .seq (
         .region [
           ⟨(some 24), none, .move (.t 12)⟩,
           ⟨(some 25), none, .bin .leq (.t 24) (.c (.int .i64 (12)))⟩]) (
        .cond (.t 25) (
         .seq (
          .region [
            ⟨(some 26), none, .move (.t 0)⟩,
            ⟨(some 27), none, .move (.t 1)⟩,
            ⟨(some 28), none, .move (.t 2)⟩,
            ⟨(some 29), none, .move (.t 4)⟩,
            ⟨(some 30), none, .call 47 [.t 26, .t 27, .t 28, .t 29]⟩]) (
         .ret)) (
         .skip))) (
       .seq (
        .seq (
         .region [
           ⟨(some 31), none, .move (.t 3)⟩,
           ⟨(some 32), none, .bin .eql (.t 31) (.c (.int .i64 (0)))⟩]) (
        .cond (.t 32) (
         .seq (
          .region [
            ⟨(some 33), none, .move (.t 0)⟩,
            ⟨(some 34), none, .move (.t 1)⟩,
            ⟨(some 35), none, .move (.t 2)⟩,
            ⟨(some 36), none, .move (.t 4)⟩,
            ⟨(some 37), none, .call 48 [.t 33, .t 34, .t 35, .t 36]⟩]) (
         .ret)) (
         .skip))) (
       .seq (
        .seq (
         .region [
           ⟨(some 38), none, .move (.t 10)⟩,
           ⟨(some 39), none, .not (.t 38)⟩]) (
        .cond (.t 39) (
         .seq (
          .region [
            ⟨(some 40), none, .move (.t 0)⟩,
            ⟨(some 41), none, .move (.t 1)⟩,
            ⟨(some 42), none, .move (.t 2)⟩,
            ⟨(some 43), none, .move (.t 4)⟩,
            ⟨(some 44), none, .call 49 [.t 40, .t 41, .t 42, .t 43]⟩]) (
         .region [
           ⟨(some 45), none, .move (.t 3)⟩,
           ⟨(some 46), none, .bin .sub (.t 45) (.c (.int .i64 (1)))⟩,
           ⟨(some 3), none, .move (.t 46)⟩])) (
         .skip))) (
       .seq (
        .region [
          ⟨(some 48), none, .move (.t 0)⟩,
          ⟨(some 49), none, .move (.t 1)⟩,
          ⟨(some 50), none, .move (.t 2)⟩,
          ⟨(some 51), none, .move (.t 4)⟩,
          ⟨(some 52), none, .call 50 [.t 48, .t 49, .t 50, .t 51]⟩,
          ⟨(some 47), none, .move (.t 52)⟩,
          ⟨(some 53), none, .extract (.t 47) 0⟩,
          ⟨(some 54), none, .extract (.t 47) 1⟩,
          ⟨(some 13), none, .move (.t 53)⟩,
          ⟨(some 14), none, .move (.t 54)⟩]) (
       .seq (
        .seq (
         .region [
           ⟨(some 55), none, .move (.t 14)⟩,
           ⟨(some 56), none, .bin .eql (.t 55) (.c (.int .i64 (2)))⟩]) (
        .cond (.t 56) (
         .seq (
          .region [
            ⟨(some 57), none, .move (.t 0)⟩,
            ⟨(some 58), none, .move (.t 1)⟩,
            ⟨(some 59), none, .move (.t 2)⟩,
            ⟨(some 60), none, .move (.t 4)⟩,
            ⟨(some 61), none, .call 51 [.t 57, .t 58, .t 59, .t 60]⟩]) (
         .seq (
          .region [
            ⟨(some 62), none, .move (.t 2)⟩,
            ⟨(some 63), none, .bin .sub (.t 62) (.c (.int .i64 (1)))⟩,
            ⟨(some 64), none, .move (.t 13)⟩,
            ⟨(some 65), none, .move (.t 1)⟩,
            ⟨(some 66), none, .bin .sub (.t 64) (.t 65)⟩,
            ⟨(some 67), none, .bin .sub (.t 63) (.t 66)⟩,
            ⟨(some 13), none, .move (.t 67)⟩]) (
         .region [
           ⟨(some 14), none, .move (.c (.int .i64 (1)))⟩]))) (
         .skip))) (
       .seq (
        .seq (
         .region [
           ⟨(some 68), none, .move (.t 10)⟩,
           ⟨(some 69), none, .move (.t 68)⟩,
           ⟨(some 70), (some (69, true)), .move (.t 11)⟩,
           ⟨(some 71), none, .pick (.t 69) (.t 70) (.c (.bool false))⟩,
           ⟨(some 72), none, .move (.t 71)⟩,
           ⟨(some 73), (some (72, true)), .move (.t 14)⟩,
           ⟨(some 74), (some (72, true)), .bin .eql (.t 73) (.c (.int .i64 (1)))⟩,
           ⟨(some 75), none, .pick (.t 72) (.t 74) (.c (.bool false))⟩]) (
        .cond (.t 75) (
         .seq (
          .region [
            ⟨(some 76), none, .move (.t 0)⟩,
            ⟨(some 77), none, .move (.t 1)⟩,
            ⟨(some 78), none, .move (.t 2)⟩,
            ⟨(some 79), none, .move (.t 4)⟩,
            ⟨(some 80), none, .call 52 [.t 76, .t 77, .t 78, .t 79]⟩]) (
         .cond (.t 80) (
          .ret) (
          .skip))) (
         .skip))) (
       .seq (
        .seq (
         .regionD [
           (⟨(some 81), none, .move (.t 1)⟩, []),
           (⟨(some 82), none, .bin .gtr (.t 81) (.c (.int .i64 (0)))⟩, [0]),
           (⟨(some 83), none, .move (.t 82)⟩, [1]),
           (⟨(some 84), (some (83, true)), .move (.t 4)⟩, [2]),
           (⟨(some 85), (some (83, true)), .move (.t 0)⟩, [2]),
           (⟨(some 86), (some (83, true)), .move (.t 1)⟩, [2]),
           (⟨(some 87), (some (83, true)), .bin .sub (.t 86) (.c (.int .i64 (1)))⟩, [5, 2]),
           (⟨(some 88), (some (83, true)), .indexAddr 4 (.t 85) (.t 87)⟩, [4, 6, 2]),
           (⟨(some 89), (some (83, true)), .load true 4 (.t 88)⟩, [7, 2]),
           (⟨(some 90), (some (83, true)), .move (.t 0)⟩, [2]),
           (⟨(some 91), (some (83, true)), .move (.t 13)⟩, [2]),
           (⟨(some 92), (some (83, true)), .indexAddr 4 (.t 90) (.t 91)⟩, [9, 10, 2]),
           (⟨(some 93), (some (83, true)), .load true 4 (.t 92)⟩, [11, 2]),
           (⟨(some 94), (some (83, true)), .callv (.t 84) [.t 89, .t 93]⟩, [3, 8, 12, 2, 2]),
           (⟨(some 95), (some (83, true)), .bin .lss (.t 94) (.c (.int .i64 (0)))⟩, [13, 2]),
           (⟨(some 96), (some (83, true)), .not (.t 95)⟩, [14, 2]),
           (⟨(some 97), none, .pick (.t 83) (.t 96) (.c (.bool false))⟩, [2, 15])]) (
        .cond (.t 97) (
         .seq (
          .region [
            ⟨(some 98), none, .move (.t 0)⟩,
            ⟨(some 99), none, .move (.t 1)⟩,
            ⟨(some 100), none, .move (.t 2)⟩,
            ⟨(some 101), none, .move (.t 13)⟩,
            ⟨(some 102), none, .move (.t 4)⟩,
            ⟨(some 103), none, .call 53 [.t 98, .t 99, .t 100, .t 101, .t 102]⟩,
            ⟨(some 15), none, .move (.t 103)⟩]) (
         .seq (
          .region [
            ⟨(some 104), none, .move (.t 15)⟩,
            ⟨(some 1), none, .move (.t 104)⟩]) (
         .exit 1))) (
         .skip))) (
       .seq (
        .region [
          ⟨(some 106), none, .move (.t 0)⟩,
          ⟨(some 107), none, .move (.t 1)⟩,
          ⟨(some 108), none, .move (.t 2)⟩,
          ⟨(some 109), none, .move (.t 13)⟩,
          ⟨(some 110), none, .move (.t 4)⟩,
          ⟨(some 111), none, .call 54 [.t 106, .t 107, .t 108, .t 109, .t 110]⟩,
          ⟨(some 105), none, .move (.t 111)⟩,
          ⟨(some 112), none, .extract (.t 105) 0⟩,
          ⟨(some 113), none, .extract (.t 105) 1⟩,
          ⟨(some 16), none, .move (.t 112)⟩,
          ⟨(some 17), none, .move (.t 113)⟩]) (
       .seq (
        .region [
          ⟨(some 114), none, .move (.t 17)⟩,
          ⟨(some 11), none, .move (.t 114)⟩]) (
       .seq (
        .region [
          ⟨(some 115), none, .move (.t 16)⟩,
          ⟨(some 116), none, .move (.t 1)⟩,
          ⟨(some 117), none, .bin .sub (.t 115) (.t 116)⟩,
          ⟨(some 118), none, .move (.t 2)⟩,
          ⟨(some 119), none, .move (.t 16)⟩,
          ⟨(some 120), none, .bin .sub (.t 118) (.t 119)⟩,
          ⟨(some 18), none, .move (.t 117)⟩,
          ⟨(some 19), none, .move (.t 120)⟩]) (
       .seq (
        .region [
          ⟨(some 121), none, .move (.t 12)⟩,
          ⟨(some 122), none, .bin .quo (.t 121) (.c (.int .i64 (8)))⟩,
          ⟨(some 20), none, .move (.t 122)⟩]) (
       .seq (
        .region [
          ⟨(some 123), none, .move (.t 18)⟩,
          ⟨(some 124), none, .move (.t 19)⟩,
          ⟨(some 125), none, .bin .lss (.t 123) (.t 124)⟩]) (
       .cond (.t 125) (
        .seq (
         .region [
           ⟨(some 126), none, .move (.t 18)⟩,
           ⟨(some 127), none, .move (.t 20)⟩,
           ⟨(some 128), none, .bin .geq (.t 126) (.t 127)⟩,
           ⟨(some 10), none, .move (.t 128)⟩]) (
        .seq (
         .region [
           ⟨(some 129), none, .move (.t 0)⟩,
           ⟨(some 130), none, .move (.t 1)⟩,
           ⟨(some 131), none, .move (.t 16)⟩,
           ⟨(some 132), none, .move (.t 3)⟩,
           ⟨(some 133), none, .move (.t 4)⟩,
           ⟨(some 134), none, .call 36 [.t 129, .t 130, .t 131, .t 132, .t 133]⟩]) (
        .region [
          ⟨(some 135), none, .move (.t 16)⟩,
          ⟨(some 136), none, .bin .add (.t 135) (.c (.int .i64 (1)))⟩,
          ⟨(some 1), none, .move (.t 136)⟩]))) (
        .seq (
         .region [
           ⟨(some 137), none, .move (.t 19)⟩,
           ⟨(some 138), none, .move (.t 20)⟩,
           ⟨(some 139), none, .bin .geq (.t 137) (.t 138)⟩,
           ⟨(some 10), none, .move (.t 139)⟩]) (
        .seq (
         .region [
           ⟨(some 140), none, .move (.t 0)⟩,
           ⟨(some 141), none, .move (.t 16)⟩,
           ⟨(some 142), none, .bin .add (.t 141) (.c (.int .i64 (1)))⟩,
           ⟨(some 143), none, .move (.t 2)⟩,
           ⟨(some 144), none, .move (.t 3)⟩,
           ⟨(some 145), none, .move (.t 4)⟩,
           ⟨(some 146), none, .call 36 [.t 140, .t 142, .t 143, .t 144, .t 145]⟩]) (
        .region [
          ⟨(some 147), none, .move (.t 16)⟩,
          ⟨(some 2), none, .move (.t 147)⟩])))))))))))))))))))))

/-- math/bits.Len -/
def c37 : CFunc where
  nparams := 1
  ntmps := 8
  results := [.tmp 2]
  body :=
    .seq (
     .region [
       ⟨(some 2), none, .move (.c (.int .i64 (0)))⟩]) (
    .seq (
     .cond (.c (.bool false)) (
      .seq (
       .region [
         ⟨(some 3), none, .move (.t 0)⟩,
         ⟨(some 4), none, .conv .u32 (.t 3)⟩,
         ⟨(some 5), none, .call 55 [.t 4]⟩,
         ⟨(some 2), none, .move (.t 5)⟩]) (
      .ret)) (
      .skip)) (
    .seq (
     .region [
       ⟨(some 6), none, .move (.t 0)⟩,
       ⟨(some 7), none, .call 56 [.t 6]⟩,
       ⟨(some 2), none, .move (.t 7)⟩]) (
    .ret)))

/-- cmp.isNaN[int] -/
def c38 : CFunc where
  nparams := 1
  ntmps := 6
  results := [.tmp 2]
  body :=
    .seq (
     .region [
       ⟨(some 2), none, .move (.c (.bool false))⟩]) (
    .seq (
     .region [
       ⟨(some 3), none, .move (.t 0)⟩,
       ⟨(some 4), none, .move (.t 0)⟩,
       ⟨(some 5), none, .bin .neq (.t 3) (.t 4)⟩,
       ⟨(some 2), none, .move (.t 5)⟩]) (
    .ret))

/-- reveille/name.parts -/
def c39 : CFunc where
  nparams := 1
  ntmps := 57
  results := [.cell 2 true 4, .tmp 3]
  body :=
    .seq (
     .region [
       ⟨(some 2), none, .alloc [.str [], .str [], .bool false, .int .i64 (0)]⟩,
       ⟨(some 3), none, .move (.c (.bool false))⟩]) (
    .seq (
     .region [
       ⟨(some 7), none, .move (.t 0)⟩,
       ⟨(some 8), none, .call 57 [.t 7, .c (.int .u8 (46))]⟩,
       ⟨(some 4), none, .move (.t 8)⟩]) (
    .seq (
     .seq (
      .region [
        ⟨(some 9), none, .move (.t 4)⟩,
        ⟨(some 10), none, .bin .lss (.t 9) (.c (.int .i64 (0)))⟩,
        ⟨(some 11), none, .move (.t 10)⟩,
        ⟨(some 12), (some (11, false)), .move (.t 0)⟩,
        ⟨(some 13), (some (11, false)), .lenStr (.t 12)⟩,
        ⟨(some 14), (some (11, false)), .bin .gtr (.t 13) (.c (.int .i64 (60)))⟩,
        ⟨(some 15), none, .pick (.t 11) (.c (.bool true)) (.t 14)⟩]) (
     .cond (.t 15) (
      .seq (
       .region [
         ⟨(some 16), none, .build [.str [], .str [], .bool false, .int .i64 (0)] []⟩,
         ⟨none, none, .store 4 (.t 2) (.t 16)⟩,
         ⟨(some 3), none, .move (.c (.bool false))⟩]) (
      .ret)) (
      .skip))) (
    .seq (
     .region [
       ⟨(some 17), none, .move (.t 0)⟩,
       ⟨(some 18), none, .move (.t 4)⟩,
       ⟨(some 19), none, .sliceStr (.t 17) (some (.t 18)) none⟩,
       ⟨(some 20), none, .call 58 [.t 19]⟩,
       ⟨(some 21), none, .build [.str [], .str [], .bool false, .int .i64 (0)] [(3, 1, .t 20)]⟩,
       ⟨(some 5), none, .alloc [.str [], .str [], .bool false, .int .i64 (0)]⟩,
       ⟨none, none, .store 4 (.t 5) (.t 21)⟩]) (
    .seq (
     .region [
       ⟨(some 23), none, .move (.t 0)⟩,
       ⟨(some 24), none, .move (.t 4)⟩,
       ⟨(some 25), none, .sliceStr (.t 23) none (some (.t 24))⟩,
       ⟨(some 26), none, .call 59 [.t 25, .c (.str [64])]⟩,
       ⟨(some 22), none, .move (.t 26)⟩,
       ⟨(some 27), none, .extract (.t 22) 0⟩,
       ⟨(some 28), none, .extract (.t 22) 1⟩,
       ⟨(some 29), none, .extract (.t 22) 2⟩,
       ⟨(some 30), none, .fieldAddr 0 (.t 5)⟩,
       ⟨none, none, .store 1 (.t 30) (.t 27)⟩,
       ⟨(some 31), none, .fieldAddr 1 (.t 5)⟩,
       ⟨none, none, .store 1 (.t 31) (.t 28)⟩,
       ⟨(some 32), none, .fieldAddr 2 (.t 5)⟩,
       ⟨none, none, .store 1 (.t 32) (.t 29)⟩]) (
    .seq (
     .region [
       ⟨(some 6), none, .move (.c (.func 60 [] []))⟩]) (
    .seq (
     .seq (
      .region [
        ⟨(some 33), none, .fieldAddr 3 (.t 5)⟩,
        ⟨(some 34), none, .load false 1 (.t 33)⟩,
        ⟨(some 35), none, .bin .eql (.t 34) (.c (.int .i64 (0)))⟩,
        ⟨(some 36), none, .move (.t 35)⟩,
        ⟨(some 37), (some (36, false)), .fieldAddr 0 (.t 5)⟩,
        ⟨(some 38), (some (36, false)), .load false 1 (.t 37)⟩,
        ⟨(some 39), (some (36, false)), .bin .eql (.t 38) (.c (.str []))⟩,
        ⟨(some 40), none, .pick (.t 36) (.c (.bool true)) (.t 39)⟩,
        ⟨(some 41), none, .move (.t 40)⟩,
        ⟨(some 42), (some (41, false)), .fieldAddr 0 (.t 5)⟩,
        ⟨(some 43), (some (41, false)), .load false 1 (.t 42)⟩,
        ⟨(some 44), (some (41, false)), .move (.t 6)⟩,
        ⟨(some 45), (some (41, false)), .call 63 [.t 43, .t 44]⟩,
        ⟨(some 46), (some (41, false)), .not (.t 45)⟩,
        ⟨(some 47), none, .pick (.t 41) (.c (.bool true)) (.t 46)⟩,
        ⟨(some 48), none, .move (.t 47)⟩,
        ⟨(some 49), (some (48, false)), .fieldAddr 1 (.t 5)⟩,
        ⟨(some 50), (some (48, false)), .load false 1 (.t 49)⟩,
        ⟨(some 51), (some (48, false)), .move (.t 6)⟩,
        ⟨(some 52), (some (48, false)), .call 63 [.t 50, .t 51]⟩,
        ⟨(some 53), (some (48, false)), .not (.t 52)⟩,
        ⟨(some 54), none, .pick (.t 48) (.c (.bool true)) (.t 53)⟩]) (
     .cond (.t 54) (
      .seq (
       .region [
         ⟨(some 55), none, .build [.str [], .str [], .bool false, .int .i64 (0)] []⟩,
         ⟨none, none, .store 4 (.t 2) (.t 55)⟩,
         ⟨(some 3), none, .move (.c (.bool false))⟩]) (
      .ret)) (
      .skip))) (
    .seq (
     .region [
       ⟨(some 56), none, .load true 4 (.t 5)⟩,
       ⟨none, none, .store 4 (.t 2) (.t 56)⟩,
       ⟨(some 3), none, .move (.c (.bool true))⟩]) (
    .ret))))))))

/-- reveille/reveilleref4.Kind -/
def c40 : CFunc where
  nparams := 1
  ntmps := 70
  results := [.tmp 2]
  body :=
    .seq (
     .region [
       ⟨(some 2), none, .move (.c (.int .i64 (0)))⟩]) (
    .seq (
     .region [
       ⟨(some 9), none, .move (.t 0)⟩,
       ⟨(some 10), none, .call 64 [.t 9]⟩,
       ⟨(some 8), none, .move (.t 10)⟩,
       ⟨(some 11), none, .extract (.t 8) 0⟩,
       ⟨(some 12), none, .extract (.t 8) 1⟩,
       ⟨(some 3), none, .move (.t 11)⟩,
       ⟨(some 4), none, .move (.t 12)⟩]) (
    .seq (
     .seq (
      .region [
        ⟨(some 13), none, .move (.t 4)⟩,
        ⟨(some 14), none, .bin .eql (.t 13) (.c (.int .i64 (0)))⟩,
        ⟨(some 15), none, .move (.t 14)⟩,
        ⟨(some 16), (some (15, false)), .move (.t 0)⟩,
        ⟨(some 17), (some (15, false)), .lenStr (.t 16)⟩,
        ⟨(some 18), (some (15, false)), .bin .gtr (.t 17) (.c (.int .i64 (60)))⟩,
        ⟨(some 19), none, .pick (.t 15) (.c (.bool true)) (.t 18)⟩,
        ⟨(some 20), none, .move (.t 19)⟩,
        ⟨(some 21), (some (20, false)), .move (.t 3)⟩,
        ⟨(some 22), (some (20, false)), .bin .eql (.t 21) (.c (.str []))⟩,
        ⟨(some 23), none, .pick (.t 20) (.c (.bool true)) (.t 22)⟩]) (
     .cond (.t 23) (
      .seq (
       .region [
         ⟨(some 2), none, .move (.c (.int .i64 (0)))⟩]) (
      .ret)) (
      .skip))) (
    .seq (
     .region [
       ⟨(some 5), none, .move (.c (.int .i64 (0)))⟩]) (
    .seq (
     .seq (
      .region [
        ⟨(some 6), none, .move (.c (.int .i64 (0)))⟩]) (
     .block 0 (
      .loop (
       .seq (
        .seq (
         .region [
           ⟨(some 24), none, .move (.t 6)⟩,
           ⟨(some 25), none, .move (.t 3)⟩,
           ⟨(some 26), none, .lenStr (.t 25)⟩,
           ⟨(some 27), none, .bin .lss (.t 24) (.t 26)⟩]) (
        .cond (.t 27) (
         .skip) (
         .exit 0))) (
       .seq (
        .block 1 (
         .seq (
          .region [
            ⟨(some 30), none, .move (.t 3)⟩,
            ⟨(some 31), none, .move (.t 6)⟩,
            ⟨(some 32), none, .indexStr (.t 30) (.t 31)⟩,
            ⟨(some 7), none, .move (.t 32)⟩]) (
         .block 2 (
          .seq (
           .region [
             ⟨(some 34), none, .move (.t 7)⟩,
             ⟨(some 35), none, .bin .eql (.t 34) (.c (.int .u8 (64)))⟩,
             ⟨(some 33), none, .move (.t 35)⟩]) (
          .cond (.t 33) (
           .region [
             ⟨(some 36), none, .move (.t 5)⟩,
             ⟨(some 37), none, .bin .add (.t 36) (.c (.int .i64 (1)))⟩,
             ⟨(some 5), none, .move (.t 37)⟩]) (
           .seq (
            .region [
              ⟨(some 39), none, .move (.t 7)⟩,
              ⟨(some 40), none, .call 65 [.t 39]⟩,
              ⟨(some 41), none, .not (.t 40)⟩,
              ⟨(some 42), none, .move (.t 41)⟩,
              ⟨(some 43), (some (42, true)), .move (.t 7)⟩,
              ⟨(some 44), (some (42, true)), .bin .neq (.t 43) (.c (.int .u8 (58)))⟩,
              ⟨(some 45), none, .pick (.t 42) (.t 44) (.c (.bool false))⟩,
              ⟨(some 46), none, .move (.t 45)⟩,
              ⟨(some 47), (some (46, true)), .move (.t 7)⟩,
              ⟨(some 48), (some (46, true)), .bin .neq (.t 47) (.c (.int .u8 (45)))⟩,
              ⟨(some 49), none, .pick (.t 46) (.t 48) (.c (.bool false))⟩,
              ⟨(some 50), none, .move (.t 49)⟩,
              ⟨(some 51), (some (50, true)), .move (.t 7)⟩,
              ⟨(some 52), (some (50, true)), .bin .neq (.t 51) (.c (.int .u8 (95)))⟩,
              ⟨(some 53), none, .pick (.t 50) (.t 52) (.c (.bool false))⟩,
              ⟨(some 54), none, .move (.t 53)⟩,
              ⟨(some 55), (some (54, true)), .move (.t 7)⟩,
              ⟨(some 56), (some (54, true)), .bin .neq (.t 55) (.c (.int .u8 (46)))⟩,
              ⟨(some 57), none, .pick (.t 54) (.t 56) (.c (.bool false))⟩,
              ⟨(some 58), none, .move (.t 57)⟩,
              ⟨(some 59), (some (58, true)), .move (.t 7)⟩,
              ⟨(some 60), (some (58, true)), .bin .neq (.t 59) (.c (.int .u8 (92)))⟩,
              ⟨(some 61), none, .pick (.t 58) (.t 60) (.c (.bool false))⟩,
              ⟨(some 38), none, .move (.t 61)⟩]) (
           .cond (.t 38) (
            .seq (
             .region [
               ⟨(some 2), none, .move (.c (.int .i64 (0)))⟩]) (
            .ret)) (
            .skip)))))))) (
       .region [
         ⟨(some 28), none, .move (.t 6)⟩,
         ⟨(some 29), none, .bin .add (.t 28) (.c (.int .i64 (1)))⟩,
         ⟨(some 6), none, .move (.t 29)⟩])))))) (
    .seq (
     .seq (
      .region [
        ⟨(some 62), none, .move (.t 5)⟩,
        ⟨(some 63), none, .bin .gtr (.t 62) (.c (.int .i64 (1)))⟩,
        ⟨(some 64), none, .move (.t 63)⟩,
        ⟨(some 65), (some (64, false)), .move (.t 3)⟩,
        ⟨(some 66), (some (64, false)), .indexStr (.t 65) (.c (.int .i64 (0)))⟩,
        ⟨(some 67), (some (64, false)), .bin .eql (.t 66) (.c (.int .u8 (64)))⟩,
        ⟨(some 68), none, .pick (.t 64) (.c (.bool true)) (.t 67)⟩]) (
     .cond (.t 68) (
      .seq (
       .region [
         ⟨(some 2), none, .move (.c (.int .i64 (0)))⟩]) (
      .ret)) (
      .skip))) (
    .seq (
     .region [
       ⟨(some 69), none, .move (.t 4)⟩,
       ⟨(some 2), none, .move (.t 69)⟩]) (
    .ret)))))))

/-- reveille/reveilleref15.edges -/
def c41 : CFunc where
  nparams := 2
  ntmps := 120
  results := [.tmp 4]
  body :=
    .seq (
     .region [
       ⟨(some 3), none, .box (.t 1)⟩,
       ⟨(some 4), none, .move (.c (.nilSlice))⟩]) (
    .seq (
     .region [
       ⟨(some 6), none, .move (.t 0)⟩,
       ⟨(some 7), none, .fieldAddr 0 (.t 3)⟩,
       ⟨(some 8), none, .load false 1 (.t 7)⟩,
       ⟨(some 9), none, .fieldAddr 3 (.t 3)⟩,
       ⟨(some 10), none, .load false 1 (.t 9)⟩,
       ⟨(some 11), none, .call 66 [.t 6, .c (.int .i64 (1)), .t 8, .t 10]⟩,
       ⟨(some 0), none, .move (.t 11)⟩]) (
    .seq (
     .region [
       ⟨(some 12), none, .move (.t 0)⟩,
       ⟨(some 13), none, .fieldAddr 0 (.t 3)⟩,
       ⟨(some 14), none, .load false 1 (.t 13)⟩,
       ⟨(some 15), none, .fieldAddr 4 (.t 3)⟩,
       ⟨(some 16), none, .load false 1 (.t 15)⟩,
       ⟨(some 17), none, .call 66 [.t 12, .c (.int .i64 (2)), .t 14, .t 16]⟩,
       ⟨(some 0), none, .move (.t 17)⟩]) (
    .seq (
     .region [
       ⟨(some 18), none, .move (.t 0)⟩,
       ⟨(some 19), none, .fieldAddr 0 (.t 3)⟩,
       ⟨(some 20), none, .load false 1 (.t 19)⟩,
       ⟨(some 21), none, .fieldAddr 5 (.t 3)⟩,
       ⟨(some 22), none, .load false 1 (.t 21)⟩,
       ⟨(some 23), none, .call 66 [.t 18, .c (.int .i64 (3)), .t 20, .t 22]⟩,
       ⟨(some 0), none, .move (.t 23)⟩]) (
    .seq (
     .region [
       ⟨(some 24), none, .move (.t 0)⟩,
       ⟨(some 25), none, .fieldAddr 0 (.t 3)⟩,
       ⟨(some 26), none, .load false 1 (.t 25)⟩,
       ⟨(some 27), none, .fieldAddr 6 (.t 3)⟩,
       ⟨(some 28), none, .load false 1 (.t 27)⟩,
       ⟨(some 29), none, .call 66 [.t 24, .c (.int .i64 (4)), .t 26, .t 28]⟩,
       ⟨(some 0), none, .move (.t 29)⟩]) (
    .seq (
     .region [
       ⟨(some 30), none, .move (.t 0)⟩,
       ⟨(some 31), none, .fieldAddr 0 (.t 3)⟩,
       ⟨(some 32), none, .load false 1 (.t 31)⟩,
       ⟨(some 33), none, .fieldAddr 7 (.t 3)⟩,
       ⟨(some 34), none, .load false 1 (.t 33)⟩,
       ⟨(some 35), none, .call 66 [.t 30, .c (.int .i64 (5)), .t 32, .t 34]⟩,
       ⟨(some 0), none, .move (.t 35)⟩]) (
    .seq (
     .region [
       ⟨(some 36), none, .move (.t 0)⟩,
       ⟨(some 37), none, .fieldAddr 0 (.t 3)⟩,
       ⟨(some 38), none, .load false 1 (.t 37)⟩,
       ⟨(some 39), none, .fieldAddr 8 (.t 3)⟩,
       ⟨(some 40), none, .load false 1 (.t 39)⟩,
       ⟨(some 41), none, .call 66 [.t 36, .c (.int .i64 (6)), .t 38, .t 40]⟩,
       ⟨(some 0), none, .move (.t 41)⟩]) (
    .seq (
     .seq (
      .region [
        ⟨(some 5), none, .move (.c (.int .i64 (0)))⟩]) (
     .block 0 (
      .loop (
       .seq (
        .seq (
         .region [
           ⟨(some 42), none, .move (.t 5)⟩,
           ⟨(some 43), none, .fieldAddr 9 (.t 3)⟩,
           ⟨(some 44), none, .load false 1 (.t 43)⟩,
           ⟨(some 45), none, .lenSlice (.t 44)⟩,
           ⟨(some 46), none, .bin .lss (.t 42) (.t 45)⟩]) (
        .cond (.t 46) (
         .skip) (
         .exit 0))) (
       .seq (
        .block 1 (
         .regionD [
           (⟨(some 49), none, .move (.t 0)⟩, []),
           (⟨(some 50), none, .fieldAddr 9 (.t 3)⟩, []),
           (⟨(some 51), none, .load false 1 (.t 50)⟩, [1]),
           (⟨(some 52), none, .move (.t 5)⟩, []),
           (⟨(some 53), none, .indexAddr 1 (.t 51) (.t 52)⟩, [2, 3]),
           (⟨(some 54), none, .load false 1 (.t 53)⟩, [4]),
           (⟨(some 55), none, .fieldAddr 0 (.t 3)⟩, []),
           (⟨(some 56), none, .load false 1 (.t 55)⟩, [6]),
           (⟨(some 57), none, .build [.int .i64 (0), .str [], .str []] [(0, 1, .c (.int .i64 (6))), (1, 1, .t 54), (2, 1, .t 56)]⟩, [5, 7]),
           (⟨(some 58), none, .call 67 [.t 49, .t 57]⟩, [0, 8]),
           (⟨(some 0), none, .move (.t 58)⟩, [9, 9, 0, 1, 2, 3, 4, 5, 6, 7, 8, 9])])) (
       .region [
         ⟨(some 47), none, .move (.t 5)⟩,
         ⟨(some 48), none, .bin .add (.t 47) (.c (.int .i64 (1)))⟩,
         ⟨(some 5), none, .move (.t 48)⟩])))))) (
    .seq (
     .seq (
      .region [
        ⟨(some 59), none, .fieldAddr 1 (.t 3)⟩,
        ⟨(some 60), none, .load false 1 (.t 59)⟩,
        ⟨(some 61), none, .bin .eql (.t 60) (.c (.int .i64 (2)))⟩,
        ⟨(some 62), none, .move (.t 61)⟩,
        ⟨(some 63), (some (62, false)), .fieldAddr 1 (.t 3)⟩,
        ⟨(some 64), (some (62, false)), .load false 1 (.t 63)⟩,
        ⟨(some 65), (some (62, false)), .bin .eql (.t 64) (.c (.int .i64 (3)))⟩,
        ⟨(some 66), none, .pick (.t 62) (.c (.bool true)) (.t 65)⟩,
        ⟨(some 67), none, .move (.t 66)⟩,
        ⟨(some 68), (some (67, false)), .fieldAddr 1 (.t 3)⟩,
        ⟨(some 69), (some (67, false)), .load false 1 (.t 68)⟩,
        ⟨(some 70), (some (67, false)), .bin .eql (.t 69) (.c (.int .i64 (4)))⟩,
        ⟨(some 71), none, .pick (.t 67) (.c (.bool true)) (.t 70)⟩,
        ⟨(some 72), none, .move (.t 71)⟩,
        ⟨(some 73), (some (72, true)), .fieldAddr 25 (.t 3)⟩,
        ⟨(some 74), (some (72, true)), .load false 1 (.t 73)⟩,
        ⟨(some 75), (some (72, true)), .bin .neq (.t 74) (.c (.str []))⟩,
        ⟨(some 76), none, .pick (.t 72) (.t 75) (.c (.bool false))⟩]) (
     .cond (.t 76) (
      .seq (
       .region [
         ⟨(some 77), none, .move (.t 0)⟩,
         ⟨(some 78), none, .fieldAddr 0 (.t 3)⟩,
         ⟨(some 79), none, .load false 1 (.t 78)⟩,
         ⟨(some 80), none, .fieldAddr 25 (.t 3)⟩,
         ⟨(some 81), none, .load false 1 (.t 80)⟩,
         ⟨(some 82), none, .build [.int .i64 (0), .str [], .str []] [(0, 1, .c (.int .i64 (8))), (1, 1, .t 79), (2, 1, .t 81)]⟩,
         ⟨(some 83), none, .call 67 [.t 77, .t 82]⟩,
         ⟨(some 0), none, .move (.t 83)⟩]) (
      .region [
        ⟨(some 84), none, .move (.t 0)⟩,
        ⟨(some 85), none, .fieldAddr 25 (.t 3)⟩,
        ⟨(some 86), none, .load false 1 (.t 85)⟩,
        ⟨(some 87), none, .fieldAddr 0 (.t 3)⟩,
        ⟨(some 88), none, .load false 1 (.t 87)⟩,
        ⟨(some 89), none, .build [.int .i64 (0), .str [], .str []] [(0, 1, .c (.int .i64 (6))), (1, 1, .t 86), (2, 1, .t 88)]⟩,
        ⟨(some 90), none, .call 67 [.t 84, .t 89]⟩,
        ⟨(some 0), none, .move (.t 90)⟩])) (
      .skip))) (
    .seq (
     .block 2 (
      .seq (
       .region [
         ⟨(some 102), none, .fieldAddr 10 (.t 3)⟩,
         ⟨(some 103), none, .load false 1 (.t 102)⟩,
         ⟨(some 101), none, .move (.t 103)⟩]) (
      .cond (.t 101) (
       .skip) (
       .seq (
        .region [
          ⟨(some 105), none, .fieldAddr 1 (.t 3)⟩,
          ⟨(some 106), none, .load false 1 (.t 105)⟩,
          ⟨(some 107), none, .bin .eql (.t 106) (.c (.int .i64 (6)))⟩,
          ⟨(some 104), none, .move (.t 107)⟩]) (
       .cond (.t 104) (
        .regionD [
          (⟨(some 108), none, .move (.t 0)⟩, []),
          (⟨(some 109), none, .fieldAddr 0 (.t 3)⟩, []),
          (⟨(some 110), none, .load false 1 (.t 109)⟩, [1]),
          (⟨(some 111), none, .fieldAddr 3 (.t 3)⟩, []),
          (⟨(some 112), none, .load false 1 (.t 111)⟩, [3]),
          (⟨(some 113), none, .call 66 [.t 108, .c (.int .i64 (6)), .t 110, .t 112]⟩, [0, 2, 4]),
          (⟨(some 114), none, .fieldAddr 0 (.t 3)⟩, []),
          (⟨(some 115), none, .load false 1 (.t 114)⟩, [6]),
          (⟨(some 116), none, .fieldAddr 4 (.t 3)⟩, []),
          (⟨(some 117), none, .load false 1 (.t 116)⟩, [8]),
          (⟨(some 118), none, .call 66 [.t 113, .c (.int .i64 (6)), .t 115, .t 117]⟩, [5, 7, 9, 5]),
          (⟨(some 0), none, .move (.t 118)⟩, [10, 10, 0, 1, 2, 3, 4, 5, 6, 7, 8, 9, 10])]) (
        .seq (
         .region [
           ⟨(some 91), none, .move (.t 0)⟩,
           ⟨(some 92), none, .fieldAddr 0 (.t 3)⟩,
           ⟨(some 93), none, .load false 1 (.t 92)⟩,
           ⟨(some 94), none, .build [.int .i64 (0), .str [], .str []] [(0, 1, .c (.int .i64 (5))), (1, 1, .t 93), (2, 1, .c (.str [115, 104, 117, 116, 100, 111, 119, 110, 46, 116, 97, 114, 103, 101, 116]))]⟩,
           ⟨(some 95), none, .call 67 [.t 91, .t 94]⟩,
           ⟨(some 0), none, .move (.t 95)⟩]) (
        .region [
          ⟨(some 96), none, .move (.t 0)⟩,
          ⟨(some 97), none, .fieldAddr 0 (.t 3)⟩,
          ⟨(some 98), none, .load false 1 (.t 97)⟩,
          ⟨(some 99), none, .build [.int .i64 (0), .str [], .str []] [(0, 1, .c (.int .i64 (6))), (1, 1, .c (.str [115, 104, 117, 116, 100, 111, 119, 110, 46, 116, 97, 114, 103, 101, 116])), (2, 1, .t 98)]⟩,
          ⟨(some 100), none, .call 67 [.t 96, .t 99]⟩,
          ⟨(some 0), none, .move (.t 100)⟩]))))))) (
    .seq (
     .region [
       ⟨(some 119), none, .move (.t 0)⟩,
       ⟨(some 4), none, .move (.t 119)⟩]) (
    .ret)))))))))))

/-- slices.Collect[int] -/
def c42 : CFunc where
  nparams := 1
  ntmps := 5
  results := [.tmp 2]
  body :=
    .seq (
     .region [
       ⟨(some 2), none, .move (.c (.nilSlice))⟩]) (
    .seq (
     .region [
       ⟨(some 3), none, .move (.t 0)⟩,
       ⟨(some 4), none, .call 68 [.c (.nilSlice), .t 3]⟩,
       ⟨(some 2), none, .move (.t 4)⟩]) (
    .ret))

/-- slices.Sort[[]int,int] -/
def c43 : CFunc where
  nparams := 1
  ntmps := 11
  results := []
  body :=
    .seq (
     .region [
       ⟨(some 3), none, .move (.t 0)⟩,
       ⟨(some 4), none, .lenSlice (.t 3)⟩,
       ⟨(some 2), none, .move (.t 4)⟩]) (
    .region [
      ⟨(some 5), none, .move (.t 0)⟩,
      ⟨(some 6), none, .move (.t 2)⟩,
      ⟨(some 7), none, .move (.t 2)⟩,
      ⟨(some 8), none, .conv .u64 (.t 7)⟩,
      ⟨(some 9), none, .call 37 [.t 8]⟩,
      ⟨(some 10), none, .call 69 [.t 5, .c (.int .i64 (0)), .t 6, .t 9]⟩])

/-- maps.Keys[map[int]reveille/api.Job,int,reveille/api.Job]$1 -/
def c44 : CFunc where
  nparams := 1
  ntmps := 14
  results := []
  body :=
    .seq (
     .region [
       ⟨(some 4), none, .load false 1 (.t 1)⟩,
       ⟨(some 5), none, .bad⟩]) (
    .block 0 (
     .loop (
      .seq (
       .region [
         ⟨(some 6), none, .bad⟩,
         ⟨(some 7), none, .extract (.t 6) 0⟩]) (
      .seq (
       .cond (.t 7) (
        .skip) (
        .exit 0)) (
      .block 1 (
       .seq (
        .region [
          ⟨(some 8), none, .bad⟩,
          ⟨(some 9), none, .extract (.t 8) 0⟩,
          ⟨(some 3), none, .move (.t 9)⟩]) (
       .seq (
        .region [
          ⟨(some 10), none, .move (.t 0)⟩,
          ⟨(some 11), none, .move (.t 3)⟩,
          ⟨(some 12), none, .callv (.t 10) [.t 11]⟩,
          ⟨(some 13), none, .not (.t 12)⟩]) (
       .cond (.t 13) (
        .ret) (
        .skip)))))))))

/-- (*reveille/graph.Graph).some -/
def c45 : CFunc where
  nparams := 2
  ntmps := 25
  results := [.tmp 4]
  body :=
    .seq (
     .region [
       ⟨(some 3), none, .box (.t 1)⟩,
       ⟨(some 4), none, .move (.c (.nilFunc))⟩]) (
    .seq (
     .region [
       ⟨(some 7), none, .makeMap⟩,
       ⟨(some 5), none, .alloc [.nilMap]⟩,
       ⟨none, none, .store 1 (.t 5) (.t 7)⟩]) (
    .seq (
     .seq (
      .region [
        ⟨(some 8), none, .move (.t 0)⟩,
        ⟨(some 9), none, .call 70 [.t 8]⟩]) (
     .block 0 (
      .rangeFunc (.t 9) [10] (
       .region [
         ⟨(some 6), none, .alloc [.int .i64 (0), .str [], .str []]⟩,
         ⟨none, none, .store 3 (.t 6) (.t 10)⟩]) (
       .block 1 (
        .seq (
         .region [
           ⟨(some 11), none, .load false 1 (.t 3)⟩,
           ⟨(some 12), none, .load true 3 (.t 6)⟩,
           ⟨(some 13), none, .callv (.t 11) [.t 12]⟩,
           ⟨(some 14), none, .move (.t 13)⟩,
           ⟨(some 15), (some (14, true)), .load true 3 (.t 6)⟩,
           ⟨(some 16), (some (14, true)), .call 71 [.t 15]⟩,
           ⟨(some 17), none, .pick (.t 14) (.t 16) (.c (.bool false))⟩]) (
        .cond (.t 17) (
         .region [
           ⟨(some 18), none, .load false 1 (.t 5)⟩,
           ⟨(some 19), none, .load true 3 (.t 6)⟩,
           ⟨(some 20), none, .build [] []⟩,
           ⟨none, none, .mapUpdate (.many [.int, .str, .str]) (.t 18) (.t 19) (.t 20)⟩]) (
         .skip))))))) (
    .seq (
     .region [
       ⟨(some 21), none, .load false 1 (.t 5)⟩,
       ⟨(some 22), none, .call 74 [.t 21]⟩,
       ⟨(some 23), none, .call 73 [.t 22, .c (.func 75 [] [])]⟩,
       ⟨(some 24), none, .call 72 [.t 23]⟩,
       ⟨(some 4), none, .move (.t 24)⟩]) (
    .ret))))

/-- (*reveille/graph.Graph).Edges$1 -/
def c46 : CFunc where
  nparams := 1
  ntmps := 8
  results := [.tmp 3]
  body :=
    .seq (
     .region [
       ⟨(some 2), none, .box (.t 0)⟩,
       ⟨(some 3), none, .move (.c (.bool false))⟩]) (
    .seq (
     .region [
       ⟨(some 4), none, .fieldAddr 1 (.t 2)⟩,
       ⟨(some 5), none, .load false 1 (.t 4)⟩,
       ⟨(some 6), none, .load false 1 (.t 1)⟩,
       ⟨(some 7), none, .bin .eql (.t 5) (.t 6)⟩,
       ⟨(some 3), none, .move (.t 7)⟩]) (
    .ret))

/-- slices.insertionSortCmpFunc[reveille/api.Ended] -/
def c47 : CFunc where
  nparams := 4
  ntmps := 53
  results := []
  body :=
    .seq (
     .region [
       ⟨(some 10), none, .move (.t 1)⟩,
       ⟨(some 11), none, .bin .add (.t 10) (.c (.int .i64 (1)))⟩,
       ⟨(some 8), none, .move (.t 11)⟩]) (
    .block 0 (
     .loop (
      .seq (
       .seq (
        .region [
          ⟨(some 12), none, .move (.t 8)⟩,
          ⟨(some 13), none, .move (.t 2)⟩,
          ⟨(some 14), none, .bin .lss (.t 12) (.t 13)⟩]) (
       .cond (.t 14) (
        .skip) (
        .exit 0))) (
      .seq (
       .block 1 (
        .seq (
         .region [
           ⟨(some 17), none, .move (.t 8)⟩,
           ⟨(some 9), none, .move (.t 17)⟩]) (
        .block 2 (
         .loop (
          .seq (
           .seq (
            .regionD [
              (⟨(some 18), none, .move (.t 9)⟩, []),
              (⟨(some 19), none, .move (.t 1)⟩, []),
              (⟨(some 20), none, .bin .gtr (.t 18) (.t 19)⟩, [0, 1]),
              (⟨(some 21), none, .move (.t 20)⟩, [2]),
              (⟨(some 22), (some (21, true)), .move (.t 3)⟩, [3]),
              (⟨(some 23), (some (21, true)), .move (.t 0)⟩, [3]),
              (⟨(some 24), (some (21, true)), .move (.t 9)⟩, [3]),
              (⟨(some 25), (some (21, true)), .indexAddr 4 (.t 23) (.t 24)⟩, [5, 6, 3]),
              (⟨(some 26), (some (21, true)), .load true 4 (.t 25)⟩, [7, 3]),
              (⟨(some 27), (some (21, true)), .move (.t 0)⟩, [3]),
              (⟨(some 28), (some (21, true)), .move (.t 9)⟩, [3]),
              (⟨(some 29), (some (21, true)), .bin .sub (.t 28) (.c (.int .i64 (1)))⟩, [10, 3]),
              (⟨(some 30), (some (21, true)), .indexAddr 4 (.t 27) (.t 29)⟩, [9, 11, 3]),
              (⟨(some 31), (some (21, true)), .load true 4 (.t 30)⟩, [12, 3]),
              (⟨(some 32), (some (21, true)), .callv (.t 22) [.t 26, .t 31]⟩, [4, 8, 13, 3, 3]),
              (⟨(some 33), (some (21, true)), .bin .lss (.t 32) (.c (.int .i64 (0)))⟩, [14, 3]),
              (⟨(some 34), none, .pick (.t 21) (.t 33) (.c (.bool false))⟩, [3, 15])]) (
           .cond (.t 34) (
            .skip) (
            .exit 2))) (
          .seq (
           .block 3 (
            .regionD [
              (⟨(some 37), none, .move (.t 0)⟩, []),
              (⟨(some 38), none, .move (.t 9)⟩, []),
              (⟨(some 39), none, .move (.t 0)⟩, []),
              (⟨(some 40), none, .move (.t 9)⟩, []),
              (⟨(some 41), none, .bin .sub (.t 40) (.c (.int .i64 (1)))⟩, [3]),
              (⟨(some 42), none, .move (.t 0)⟩, []),
              (⟨(some 43), none, .move (.t 9)⟩, []),
              (⟨(some 44), none, .bin .sub (.t 43) (.c (.int .i64 (1)))⟩, [6]),
              (⟨(some 45), none, .indexAddr 4 (.t 42) (.t 44)⟩, [5, 7]),
              (⟨(some 46), none, .load true 4 (.t 45)⟩, [8]),
              (⟨(some 47), none, .move (.t 0)⟩, []),
              (⟨(some 48), none, .move (.t 9)⟩, []),
              (⟨(some 49), none, .indexAddr 4 (.t 47) (.t 48)⟩, [10, 11]),
              (⟨(some 50), none, .load true 4 (.t 49)⟩, [12]),
              (⟨(some 51), none, .indexAddr 4 (.t 37) (.t 38)⟩, [0, 1, 0, 1, 5, 6, 7, 8, 9, 13]),
              (⟨none, none, .store 4 (.t 51) (.t 46)⟩, [14, 9, 0, 1, 5, 6, 7, 8, 9, 13]),
              (⟨(some 52), none, .indexAddr 4 (.t 39) (.t 41)⟩, [2, 4, 0, 1, 2, 3, 4, 5, 6, 7, 8, 9, 10, 11, 12, 13, 14, 15]),
              (⟨none, none, .store 4 (.t 52) (.t 50)⟩, [16, 13, 15, 0, 1, 2, 3, 4, 5, 6, 7, 8, 9, 10, 11, 12, 13, 14, 15])])) (
          .region [
            ⟨(some 35), none, .move (.t 9)⟩,
            ⟨(some 36), none, .bin .sub (.t 35) (.c (.int .i64 (1)))⟩,
            ⟨(some 9), none, .move (.t 36)⟩]))))))) (
      .region [
        ⟨(some 15), none, .move (.t 8)⟩,
        ⟨(some 16), none, .bin .add (.t 15) (.c (.int .i64 (1)))⟩,
        ⟨(some 8), none, .move (.t 16)⟩])))))

/-- math/bits.Len32 -/
def c55 : CFunc where
  nparams := 1
  ntmps := 19
  results := [.tmp 2]
  body :=
    .seq (
     .region [
       ⟨(some 2), none, .move (.c (.int .i64 (0)))⟩]) (
    .seq (
     .seq (
      .region [
        ⟨(some 3), none, .move (.t 0)⟩,
        ⟨(some 4), none, .bin .geq (.t 3) (.c (.int .u32 (65536)))⟩]) (
     .cond (.t 4) (
      .seq (
       .region [
         ⟨(some 5), none, .move (.t 0)⟩,
         ⟨(some 6), none, .bin .shr (.t 5) (.c (.int .u64 (16)))⟩,
         ⟨(some 0), none, .move (.t 6)⟩]) (
      .region [
        ⟨(some 2), none, .move (.c (.int .i64 (16)))⟩])) (
      .skip))) (
    .seq (
     .seq (
      .region [
        ⟨(some 7), none, .move (.t 0)⟩,
        ⟨(some 8), none, .bin .geq (.t 7) (.c (.int .u32 (256)))⟩]) (
     .cond (.t 8) (
      .seq (
       .region [
         ⟨(some 9), none, .move (.t 0)⟩,
         ⟨(some 10), none, .bin .shr (.t 9) (.c (.int .u64 (8)))⟩,
         ⟨(some 0), none, .move (.t 10)⟩]) (
      .region [
        ⟨(some 11), none, .move (.t 2)⟩,
        ⟨(some 12), none, .bin .add (.t 11) (.c (.int .i64 (8)))⟩,
        ⟨(some 2), none, .move (.t 12)⟩])) (
      .skip))) (
    .seq (
     .region [
       ⟨(some 13), none, .move (.t 2)⟩,
       ⟨(some 14), none, .move (.t 0)⟩,
       ⟨(some 15), none, .conv .u8 (.t 14)⟩,
       ⟨(some 16), none, .indexStr (.c (.str [0, 1, 2, 2, 3, 3, 3, 3, 4, 4, 4, 4, 4, 4, 4, 4, 5, 5, 5, 5, 5, 5, 5, 5, 5, 5, 5, 5, 5, 5, 5, 5, 6, 6, 6, 6, 6, 6, 6, 6, 6, 6, 6, 6, 6, 6, 6, 6, 6, 6, 6, 6, 6, 6, 6, 6, 6, 6, 6, 6, 6, 6, 6, 6, 7, 7, 7, 7, 7, 7, 7, 7, 7, 7, 7, 7, 7, 7, 7, 7, 7, 7, 7, 7, 7, 7, 7, 7, 7, 7, 7, 7, 7, 7, 7, 7, 7, 7, 7, 7, 7, 7, 7, 7, 7, 7, 7, 7, 7, 7, 7, 7, 7, 7, 7, 7, 7, 7, 7, 7, 7, 7, 7, 7, 7, 7, 7, 7, 8, 8, 8, 8, 8, 8, 8, 8, 8, 8, 8, 8, 8, 8, 8, 8, 8, 8, 8, 8, 8, 8, 8, 8, 8, 8, 8, 8, 8, 8, 8, 8, 8, 8, 8, 8, 8, 8, 8, 8, 8, 8, 8, 8, 8, 8, 8, 8, 8, 8, 8, 8, 8, 8, 8, 8, 8, 8, 8, 8, 8, 8, 8, 8, 8, 8, 8, 8, 8, 8, 8, 8, 8, 8, 8, 8, 8, 8, 8, 8, 8, 8, 8, 8, 8, 8, 8, 8, 8, 8, 8, 8, 8, 8, 8, 8, 8, 8, 8, 8, 8, 8, 8, 8, 8, 8, 8, 8, 8, 8, 8, 8, 8, 8, 8, 8, 8, 8, 8, 8, 8, 8, 8, 8, 8, 8, 8, 8])) (.t 15)⟩,
       ⟨(some 17), none, .conv .i64 (.t 16)⟩,
       ⟨(some 18), none, .bin .add (.t 13) (.t 17)⟩,
       ⟨(some 2), none, .move (.t 18)⟩]) (
    .ret))))

/-- math/bits.Len64 -/
def c56 : CFunc where
  nparams := 1
  ntmps := 25
  results := [.tmp 2]
  body :=
    .seq (
     .region [
       ⟨(some 2), none, .move (.c (.int .i64 (0)))⟩]) (
    .seq (
     .seq (
      .region [
        ⟨(some 3), none, .move (.t 0)⟩,
        ⟨(some 4), none, .bin .geq (.t 3) (.c (.int .u64 (4294967296)))⟩]) (
     .cond (.t 4) (
      .seq (
       .region [
         ⟨(some 5), none, .move (.t 0)⟩,
         ⟨(some 6), none, .bin .shr (.t 5) (.c (.int .u64 (32)))⟩,
         ⟨(some 0), none, .move (.t 6)⟩]) (
      .region [
        ⟨(some 2), none, .move (.c (.int .i64 (32)))⟩])) (
      .skip))) (
    .seq (
     .seq (
      .region [
        ⟨(some 7), none, .move (.t 0)⟩,
        ⟨(some 8), none, .bin .geq (.t 7) (.c (.int .u64 (65536)))⟩]) (
     .cond (.t 8) (
      .seq (
       .region [
         ⟨(some 9), none, .move (.t 0)⟩,
         ⟨(some 10), none, .bin .shr (.t 9) (.c (.int .u64 (16)))⟩,
         ⟨(some 0), none, .move (.t 10)⟩]) (
      .region [
        ⟨(some 11), none, .move (.t 2)⟩,
        ⟨(some 12), none, .bin .add (.t 11) (.c (.int .i64 (16)))⟩,
        ⟨(some 2), none, .move (.t 12)⟩])) (
      .skip))) (
    .seq (
     .seq (
      .region [
        ⟨(some 13), none, .move (.t 0)⟩,
        ⟨(some 14), none, .bin .geq (.t 13) (.c (.int .u64 (256)))⟩]) (
     .cond (.t 14) (
      .seq (
       .region [
         ⟨(some 15), none, .move (.t 0)⟩,
         ⟨(some 16), none, .bin .shr (.t 15) (.c (.int .u64 (8)))⟩,
         ⟨(some 0), none, .move (.t 16)⟩]) (
      .region [
        ⟨(some 17), none, .move (.t 2)⟩,
        ⟨(some 18), none, .bin .add (.t 17) (.c (.int .i64 (8)))⟩,
        ⟨(some 2), none, .move (.t 18)⟩])) (
      .skip))) (
    .seq (
     .region [
       ⟨(some 19), none, .move (.t 2)⟩,
       ⟨(some 20), none, .move (.t 0)⟩,
       ⟨(some 21), none, .conv .u8 (.t 20)⟩,
       ⟨(some 22), none, .indexStr (.c (.str [0, 1, 2, 2, 3, 3, 3, 3, 4, 4, 4, 4, 4, 4, 4, 4, 5, 5, 5, 5, 5, 5, 5, 5, 5, 5, 5, 5, 5, 5, 5, 5, 6, 6, 6, 6, 6, 6, 6, 6, 6, 6, 6, 6, 6, 6, 6, 6, 6, 6, 6, 6, 6, 6, 6, 6, 6, 6, 6, 6, 6, 6, 6, 6, 7, 7, 7, 7, 7, 7, 7, 7, 7, 7, 7, 7, 7, 7, 7, 7, 7, 7, 7, 7, 7, 7, 7, 7, 7, 7, 7, 7, 7, 7, 7, 7, 7, 7, 7, 7, 7, 7, 7, 7, 7, 7, 7, 7, 7, 7, 7, 7, 7, 7, 7, 7, 7, 7, 7, 7, 7, 7, 7, 7, 7, 7, 7, 7, 8, 8, 8, 8, 8, 8, 8, 8, 8, 8, 8, 8, 8, 8, 8, 8, 8, 8, 8, 8, 8, 8, 8, 8, 8, 8, 8, 8, 8, 8, 8, 8, 8, 8, 8, 8, 8, 8, 8, 8, 8, 8, 8, 8, 8, 8, 8, 8, 8, 8, 8, 8, 8, 8, 8, 8, 8, 8, 8, 8, 8, 8, 8, 8, 8, 8, 8, 8, 8, 8, 8, 8, 8, 8, 8, 8, 8, 8, 8, 8, 8, 8, 8, 8, 8, 8, 8, 8, 8, 8, 8, 8, 8, 8, 8, 8, 8, 8, 8, 8, 8, 8, 8, 8, 8, 8, 8, 8, 8, 8, 8, 8, 8, 8, 8, 8, 8, 8, 8, 8, 8, 8, 8, 8, 8, 8, 8, 8])) (.t 21)⟩,
       ⟨(some 23), none, .conv .i64 (.t 22)⟩,
       ⟨(some 24), none, .bin .add (.t 19) (.t 23)⟩,
       ⟨(some 2), none, .move (.t 24)⟩]) (
    .ret)))))

/-- strings.LastIndexByte -/
def c57 : CFunc where
  nparams := 2
  ntmps := 8
  results := [.tmp 4]
  body :=
    .seq (
     .region [
       ⟨(some 4), none, .move (.c (.int .i64 (0)))⟩]) (
    .seq (
     .region [
       ⟨(some 5), none, .move (.t 0)⟩,
       ⟨(some 6), none, .move (.t 1)⟩,
       ⟨(some 7), none, .call 83 [.t 5, .t 6]⟩,
       ⟨(some 4), none, .move (.t 7)⟩]) (
    .ret))

/-- reveille/name.ending -/
def c58 : CFunc where
  nparams := 1
  ntmps := 7
  results := [.tmp 2]
  body :=
    .seq (
     .region [
       ⟨(some 2), none, .move (.c (.int .i64 (0)))⟩]) (
    .seq (
     .region [
       ⟨(some 3), none, .buildSlice 1 6 (.str []) [(0, .c (.str [46, 115, 101, 114, 118, 105, 99, 101])), (1, .c (.str [46, 115, 111, 99, 107, 101, 116])), (2, .c (.str [46, 116, 105, 109, 101, 114])), (3, .c (.str [46, 112, 97, 116, 104])), (4, .c (.str [46, 109, 111, 117, 110, 116])), (5, .c (.str [46, 116, 97, 114, 103, 101, 116]))]⟩,
       ⟨(some 4), none, .move (.t 0)⟩,
       ⟨(some 5), none, .call 84 [.t 3, .t 4]⟩,
       ⟨(some 6), none, .bin .add (.c (.int .i64 (1))) (.t 5)⟩,
       ⟨(some 2), none, .move (.t 6)⟩]) (
    .ret))

/-- strings.Cut -/
def c59 : CFunc where
  nparams := 2
  ntmps := 13
  results := [.tmp 4, .tmp 5, .tmp 6]
  body :=
    .seq (
     .region [
       ⟨(some 4), none, .move (.c (.str []))⟩,
       ⟨(some 5), none, .move (.c (.str []))⟩,
       ⟨(some 6), none, .move (.c (.bool false))⟩]) (
    .seq (
     .region [
       ⟨(some 7), none, .move (.t 0)⟩,
       ⟨(some 8), none, .move (.t 1)⟩,
       ⟨(some 9), none, .call 85 [.t 7, .t 8]⟩,
       ⟨(some 10), none, .extract (.t 9) 0⟩,
       ⟨(some 11), none, .extract (.t 9) 1⟩,
       ⟨(some 12), none, .extract (.t 9) 2⟩,
       ⟨(some 4), none, .move (.t 10)⟩,
       ⟨(some 5), none, .move (.t 11)⟩,
       ⟨(some 6), none, .move (.t 12)⟩]) (
    .ret))

/-- reveille/name.parts$1 -/
def c60 : CFunc where
  nparams := 1
  ntmps := 10
  results := [.tmp 2]
  body :=
    .seq (
     .region [
       ⟨(some 2), none, .move (.c (.bool false))⟩]) (
    .seq (
     .region [
       ⟨(some 3), none, .move (.t 0)⟩,
       ⟨(some 4), none, .call 61 [.t 3]⟩,
       ⟨(some 5), none, .move (.t 4)⟩,
       ⟨(some 6), (some (5, false)), .move (.t 0)⟩,
       ⟨(some 7), (some (5, false)), .call 62 [.c (.str [58, 45, 95, 46, 92]), .t 6]⟩,
       ⟨(some 8), (some (5, false)), .bin .geq (.t 7) (.c (.int .i64 (0)))⟩,
       ⟨(some 9), none, .pick (.t 5) (.c (.bool true)) (.t 8)⟩,
       ⟨(some 2), none, .move (.t 9)⟩]) (
    .ret))

/-- reveille/name.plain -/
def c61 : CFunc where
  nparams := 1
  ntmps := 25
  results := [.tmp 2]
  body :=
    .seq (
     .region [
       ⟨(some 2), none, .move (.c (.bool false))⟩]) (
    .seq (
     .region [
       ⟨(some 3), none, .move (.t 0)⟩,
       ⟨(some 4), none, .bin .geq (.t 3) (.c (.int .u8 (97)))⟩,
       ⟨(some 5), none, .move (.t 4)⟩,
       ⟨(some 6), (some (5, true)), .move (.t 0)⟩,
       ⟨(some 7), (some (5, true)), .bin .leq (.t 6) (.c (.int .u8 (122)))⟩,
       ⟨(some 8), none, .pick (.t 5) (.t 7) (.c (.bool false))⟩,
       ⟨(some 9), none, .move (.t 8)⟩,
       ⟨(some 10), (some (9, false)), .move (.t 0)⟩,
       ⟨(some 11), (some (9, false)), .bin .geq (.t 10) (.c (.int .u8 (65)))⟩,
       ⟨(some 12), (some (9, false)), .move (.t 11)⟩,
       ⟨(some 13), (some (12, true)), .move (.t 0)⟩,
       ⟨(some 14), (some (12, true)), .bin .leq (.t 13) (.c (.int .u8 (90)))⟩,
       ⟨(some 15), (some (9, false)), .pick (.t 12) (.t 14) (.c (.bool false))⟩,
       ⟨(some 16), none, .pick (.t 9) (.c (.bool true)) (.t 15)⟩,
       ⟨(some 17), none, .move (.t 16)⟩,
       ⟨(some 18), (some (17, false)), .move (.t 0)⟩,
       ⟨(some 19), (some (17, false)), .bin .geq (.t 18) (.c (.int .u8 (48)))⟩,
       ⟨(some 20), (some (17, false)), .move (.t 19)⟩,
       ⟨(some 21), (some (20, true)), .move (.t 0)⟩,
       ⟨(some 22), (some (20, true)), .bin .leq (.t 21) (.c (.int .u8 (57)))⟩,
       ⟨(some 23), (some (17, false)), .pick (.t 20) (.t 22) (.c (.bool false))⟩,
       ⟨(some 24), none, .pick (.t 17) (.c (.bool true)) (.t 23)⟩,
       ⟨(some 2), none, .move (.t 24)⟩]) (
    .ret))

/-- strings.IndexByte -/
def c62 : CFunc where
  nparams := 2
  ntmps := 8
  results := [.tmp 4]
  body :=
    .seq (
     .region [
       ⟨(some 4), none, .move (.c (.int .i64 (0)))⟩]) (
    .seq (
     .region [
       ⟨(some 5), none, .move (.t 0)⟩,
       ⟨(some 6), none, .move (.t 1)⟩,
       ⟨(some 7), none, .call 86 [.t 5, .t 6]⟩,
       ⟨(some 4), none, .move (.t 7)⟩]) (
    .ret))

/-- reveille/name.every -/
def c63 : CFunc where
  nparams := 2
  ntmps := 10
  results := [.tmp 4]
  body :=
    .seq (
     .region [
       ⟨(some 3), none, .box (.t 1)⟩,
       ⟨(some 4), none, .move (.c (.bool false))⟩]) (
    .seq (
     .region [
       ⟨(some 5), none, .move (.t 0)⟩,
       ⟨(some 6), none, .toBytes (.t 5)⟩,
       ⟨(some 7), none, .makeFunc 88 [] [.t 3]⟩,
       ⟨(some 8), none, .call 87 [.t 6, .t 7]⟩,
       ⟨(some 9), none, .not (.t 8)⟩,
       ⟨(some 4), none, .move (.t 9)⟩]) (
    .ret))

/-- reveille/reveilleref4.parted -/
def c64 : CFunc where
  nparams := 1
  ntmps := 35
  results := [.tmp 2, .tmp 3]
  body :=
    .seq (
     .region [
       ⟨(some 2), none, .move (.c (.str []))⟩,
       ⟨(some 3), none, .move (.c (.int .i64 (0)))⟩]) (
    .seq (
     .region [
       ⟨(some 7), none, .call 89 []⟩,
       ⟨(some 4), none, .alloc [.str [], .str [], .str [], .str [], .str [], .str []]⟩,
       ⟨none, none, .store 6 (.t 4) (.t 7)⟩]) (
    .seq (
     .seq (
      .region [
        ⟨(some 5), none, .move (.c (.int .i64 (0)))⟩]) (
     .block 0 (
      .loop (
       .seq (
        .seq (
         .region [
           ⟨(some 8), none, .move (.t 5)⟩,
           ⟨(some 9), none, .bin .lss (.t 8) (.c (.int .i64 (6)))⟩]) (
        .cond (.t 9) (
         .skip) (
         .exit 0))) (
       .seq (
        .block 1 (
         .seq (
          .region [
            ⟨(some 12), none, .move (.t 0)⟩,
            ⟨(some 13), none, .lenStr (.t 12)⟩,
            ⟨(some 14), none, .move (.t 5)⟩,
            ⟨(some 15), none, .indexArr 6 1 (.t 4) (.t 14)⟩,
            ⟨(some 16), none, .load false 1 (.t 15)⟩,
            ⟨(some 17), none, .lenStr (.t 16)⟩,
            ⟨(some 18), none, .bin .sub (.t 13) (.t 17)⟩,
            ⟨(some 6), none, .move (.t 18)⟩]) (
         .seq (
          .regionD [
            (⟨(some 19), none, .move (.t 6)⟩, []),
            (⟨(some 20), none, .bin .geq (.t 19) (.c (.int .i64 (0)))⟩, [0]),
            (⟨(some 21), none, .move (.t 20)⟩, [1]),
            (⟨(some 22), (some (21, true)), .move (.t 0)⟩, [2]),
            (⟨(some 23), (some (21, true)), .move (.t 6)⟩, [2]),
            (⟨(some 24), (some (21, true)), .sliceStr (.t 22) (some (.t 23)) none⟩, [3, 4, 2]),
            (⟨(some 25), (some (21, true)), .move (.t 5)⟩, [2]),
            (⟨(some 26), (some (21, true)), .indexArr 6 1 (.t 4) (.t 25)⟩, [6, 2]),
            (⟨(some 27), (some (21, true)), .load false 1 (.t 26)⟩, [7, 2]),
            (⟨(some 28), (some (21, true)), .bin .eql (.t 24) (.t 27)⟩, [5, 8, 2]),
            (⟨(some 29), none, .pick (.t 21) (.t 28) (.c (.bool false))⟩, [2, 9])]) (
         .cond (.t 29) (
          .seq (
           .region [
             ⟨(some 30), none, .move (.t 0)⟩,
             ⟨(some 31), none, .move (.t 6)⟩,
             ⟨(some 32), none, .sliceStr (.t 30) none (some (.t 31))⟩,
             ⟨(some 33), none, .move (.t 5)⟩,
             ⟨(some 34), none, .bin .add (.t 33) (.c (.int .i64 (1)))⟩,
             ⟨(some 2), none, .move (.t 32)⟩,
             ⟨(some 3), none, .move (.t 34)⟩]) (
          .ret)) (
          .skip))))) (
       .region [
         ⟨(some 10), none, .move (.t 5)⟩,
         ⟨(some 11), none, .bin .add (.t 10) (.c (.int .i64 (1)))⟩,
         ⟨(some 5), none, .move (.t 11)⟩])))))) (
    .seq (
     .region [
       ⟨(some 2), none, .move (.c (.str []))⟩,
       ⟨(some 3), none, .move (.c (.int .i64 (0)))⟩]) (
    .ret))))

/-- reveille/reveilleref4.alnum -/
def c65 : CFunc where
  nparams := 1
  ntmps := 25
  results := [.tmp 2]
  body :=
    .seq (
     .region [
       ⟨(some 2), none, .move (.c (.bool false))⟩]) (
    .seq (
     .region [
       ⟨(some 3), none, .move (.t 0)⟩,
       ⟨(some 4), none, .bin .geq (.t 3) (.c (.int .u8 (97)))⟩,
       ⟨(some 5), none, .move (.t 4)⟩,
       ⟨(some 6), (some (5, true)), .move (.t 0)⟩,
       ⟨(some 7), (some (5, true)), .bin .leq (.t 6) (.c (.int .u8 (122)))⟩,
       ⟨(some 8), none, .pick (.t 5) (.t 7) (.c (.bool false))⟩,
       ⟨(some 9), none, .move (.t 8)⟩,
       ⟨(some 10), (some (9, false)), .move (.t 0)⟩,
       ⟨(some 11), (some (9, false)), .bin .geq (.t 10) (.c (.int .u8 (65)))⟩,
       ⟨(some 12), (some (9, false)), .move (.t 11)⟩,
       ⟨(some 13), (some (12, true)), .move (.t 0)⟩,
       ⟨(some 14), (some (12, true)), .bin .leq (.t 13) (.c (.int .u8 (90)))⟩,
       ⟨(some 15), (some (9, false)), .pick (.t 12) (.t 14) (.c (.bool false))⟩,
       ⟨(some 16), none, .pick (.t 9) (.c (.bool true)) (.t 15)⟩,
       ⟨(some 17), none, .move (.t 16)⟩,
       ⟨(some 18), (some (17, false)), .move (.t 0)⟩,
       ⟨(some 19), (some (17, false)), .bin .geq (.t 18) (.c (.int .u8 (48)))⟩,
       ⟨(some 20), (some (17, false)), .move (.t 19)⟩,
       ⟨(some 21), (some (20, true)), .move (.t 0)⟩,
       ⟨(some 22), (some (20, true)), .bin .leq (.t 21) (.c (.int .u8 (57)))⟩,
       ⟨(some 23), (some (17, false)), .pick (.t 20) (.t 22) (.c (.bool false))⟩,
       ⟨(some 24), none, .pick (.t 17) (.c (.bool true)) (.t 23)⟩,
       ⟨(some 2), none, .move (.t 24)⟩]) (
    .ret))

/-- reveille/reveilleref15.many -/
def c66 : CFunc where
  nparams := 4
  ntmps := 26
  results := [.tmp 8]
  body :=
    .seq (
     .region [
       ⟨(some 8), none, .move (.c (.nilSlice))⟩]) (
    .seq (
     .seq (
      .region [
        ⟨(some 9), none, .move (.c (.int .i64 (0)))⟩]) (
     .block 0 (
      .loop (
       .seq (
        .seq (
         .region [
           ⟨(some 10), none, .move (.t 9)⟩,
           ⟨(some 11), none, .move (.t 3)⟩,
           ⟨(some 12), none, .lenSlice (.t 11)⟩,
           ⟨(some 13), none, .bin .lss (.t 10) (.t 12)⟩]) (
        .cond (.t 13) (
         .skip) (
         .exit 0))) (
       .seq (
        .block 1 (
         .region [
           ⟨(some 16), none, .move (.t 0)⟩,
           ⟨(some 17), none, .move (.t 1)⟩,
           ⟨(some 18), none, .move (.t 2)⟩,
           ⟨(some 19), none, .move (.t 3)⟩,
           ⟨(some 20), none, .move (.t 9)⟩,
           ⟨(some 21), none, .indexAddr 1 (.t 19) (.t 20)⟩,
           ⟨(some 22), none, .load false 1 (.t 21)⟩,
           ⟨(some 23), none, .build [.int .i64 (0), .str [], .str []] [(0, 1, .t 17), (1, 1, .t 18), (2, 1, .t 22)]⟩,
           ⟨(some 24), none, .call 67 [.t 16, .t 23]⟩,
           ⟨(some 0), none, .move (.t 24)⟩])) (
       .region [
         ⟨(some 14), none, .move (.t 9)⟩,
         ⟨(some 15), none, .bin .add (.t 14) (.c (.int .i64 (1)))⟩,
         ⟨(some 9), none, .move (.t 15)⟩])))))) (
    .seq (
     .region [
       ⟨(some 25), none, .move (.t 0)⟩,
       ⟨(some 8), none, .move (.t 25)⟩]) (
    .ret)))

/-- reveille/reveilleref15.set -/
def c67 : CFunc where
  nparams := 2
  ntmps := 68
  results := [.tmp 4]
  body :=
    .seq (
     .region [
       ⟨(some 3), none, .box (.t 1)⟩,
       ⟨(some 4), none, .move (.c (.nilSlice))⟩]) (
    .seq (
     .seq (
      .region [
        ⟨(some 6), none, .fieldAddr 1 (.t 3)⟩,
        ⟨(some 7), none, .load false 1 (.t 6)⟩,
        ⟨(some 8), none, .call 30 [.t 7]⟩,
        ⟨(some 9), none, .not (.t 8)⟩,
        ⟨(some 10), none, .move (.t 9)⟩,
        ⟨(some 11), (some (10, false)), .fieldAddr 2 (.t 3)⟩,
        ⟨(some 12), (some (10, false)), .load false 1 (.t 11)⟩,
        ⟨(some 13), (some (10, false)), .call 30 [.t 12]⟩,
        ⟨(some 14), (some (10, false)), .not (.t 13)⟩,
        ⟨(some 15), none, .pick (.t 10) (.c (.bool true)) (.t 14)⟩,
        ⟨(some 16), none, .move (.t 15)⟩,
        ⟨(some 17), (some (16, false)), .fieldAddr 1 (.t 3)⟩,
        ⟨(some 18), (some (16, false)), .load false 1 (.t 17)⟩,
        ⟨(some 19), (some (16, false)), .fieldAddr 2 (.t 3)⟩,
        ⟨(some 20), (some (16, false)), .load false 1 (.t 19)⟩,
        ⟨(some 21), (some (16, false)), .bin .eql (.t 18) (.t 20)⟩,
        ⟨(some 22), none, .pick (.t 16) (.c (.bool true)) (.t 21)⟩]) (
     .cond (.t 22) (
      .seq (
       .region [
         ⟨(some 23), none, .move (.t 0)⟩,
         ⟨(some 4), none, .move (.t 23)⟩]) (
      .ret)) (
      .skip))) (
    .seq (
     .region [
       ⟨(some 5), none, .move (.c (.int .i64 (0)))⟩]) (
    .seq (
     .block 0 (
      .loop (
       .seq (
        .seq (
         .regionD [
           (⟨(some 24), none, .move (.t 5)⟩, []),
           (⟨(some 25), none, .move (.t 0)⟩, []),
           (⟨(some 26), none, .lenSlice (.t 25)⟩, [1]),
           (⟨(some 27), none, .bin .lss (.t 24) (.t 26)⟩, [0, 2]),
           (⟨(some 28), none, .move (.t 27)⟩, [3]),
           (⟨(some 29), (some (28, true)), .move (.t 0)⟩, [4]),
           (⟨(some 30), (some (28, true)), .move (.t 5)⟩, [4]),
           (⟨(some 31), (some (28, true)), .indexAddr 3 (.t 29) (.t 30)⟩, [5, 6, 4]),
           (⟨(some 32), (some (28, true)), .load true 3 (.t 31)⟩, [7, 4]),
           (⟨(some 33), (some (28, true)), .load true 3 (.t 3)⟩, [4]),
           (⟨(some 34), (some (28, true)), .call 90 [.t 32, .t 33]⟩, [8, 9, 4, 4]),
           (⟨(some 35), none, .pick (.t 28) (.t 34) (.c (.bool false))⟩, [4, 10])]) (
        .cond (.t 35) (
         .skip) (
         .exit 0))) (
       .block 1 (
        .region [
          ⟨(some 36), none, .move (.t 5)⟩,
          ⟨(some 37), none, .bin .add (.t 36) (.c (.int .i64 (1)))⟩,
          ⟨(some 5), none, .move (.t 37)⟩]))))) (
    .seq (
     .seq (
      .regionD [
        (⟨(some 38), none, .move (.t 5)⟩, []),
        (⟨(some 39), none, .move (.t 0)⟩, []),
        (⟨(some 40), none, .lenSlice (.t 39)⟩, [1]),
        (⟨(some 41), none, .bin .lss (.t 38) (.t 40)⟩, [0, 2]),
        (⟨(some 42), none, .move (.t 41)⟩, [3]),
        (⟨(some 43), (some (42, true)), .move (.t 0)⟩, [4]),
        (⟨(some 44), (some (42, true)), .move (.t 5)⟩, [4]),
        (⟨(some 45), (some (42, true)), .indexAddr 3 (.t 43) (.t 44)⟩, [5, 6, 4]),
        (⟨(some 46), (some (42, true)), .load true 3 (.t 45)⟩, [7, 4]),
        (⟨(some 47), (some (42, true)), .load true 3 (.t 3)⟩, [4]),
        (⟨(some 48), (some (42, true)), .eqAgg false [.int, .str, .str] (.t 46) (.t 47)⟩, [8, 9, 4]),
        (⟨(some 49), none, .pick (.t 42) (.t 48) (.c (.bool false))⟩, [4, 10])]) (
     .cond (.t 49) (
      .seq (
       .region [
         ⟨(some 50), none, .move (.t 0)⟩,
         ⟨(some 4), none, .move (.t 50)⟩]) (
      .ret)) (
      .skip))) (
    .seq (
     .region [
       ⟨(some 51), none, .move (.t 0)⟩,
       ⟨(some 52), none, .build [.int .i64 (0), .str [], .str []] []⟩,
       ⟨(some 53), none, .buildSlice 3 1 (.agg [.int .i64 (0), .str [], .str []]) [(0, .t 52)]⟩,
       ⟨(some 54), none, .append 3 40 (.t 51) (.t 53)⟩,
       ⟨(some 0), none, .move (.t 54)⟩]) (
    .seq (
     .regionD [
       (⟨(some 55), none, .move (.t 0)⟩, []),
       (⟨(some 56), none, .move (.t 5)⟩, []),
       (⟨(some 57), none, .bin .add (.t 56) (.c (.int .i64 (1)))⟩, [1]),
       (⟨(some 58), none, .sliceRow 3 (.t 55) (some (.t 57)) none⟩, [0, 2]),
       (⟨(some 59), none, .move (.t 0)⟩, []),
       (⟨(some 60), none, .move (.t 5)⟩, []),
       (⟨(some 61), none, .sliceRow 3 (.t 59) (some (.t 60)) none⟩, [4, 5]),
       (⟨(some 62), none, .copy 3 (.t 58) (.t 61)⟩, [3, 6])]) (
    .seq (
     .region [
       ⟨(some 63), none, .move (.t 0)⟩,
       ⟨(some 64), none, .move (.t 5)⟩,
       ⟨(some 65), none, .load true 3 (.t 3)⟩,
       ⟨(some 66), none, .indexAddr 3 (.t 63) (.t 64)⟩,
       ⟨none, none, .store 3 (.t 66) (.t 65)⟩]) (
    .seq (
     .region [
       ⟨(some 67), none, .move (.t 0)⟩,
       ⟨(some 4), none, .move (.t 67)⟩]) (
    .ret)))))))))

/-- slices.AppendSeq[[]int,int] -/
def c68 : CFunc where
  nparams := 2
  ntmps := 13
  results := [.tmp 4]
  body :=
    .seq (
     .region [
       ⟨(some 2), none, .box (.t 0)⟩,
       ⟨(some 4), none, .move (.c (.nilSlice))⟩]) (
    .seq (
     .seq (
      .region [
        ⟨(some 6), none, .move (.t 1)⟩]) (
     .block 0 (
      .rangeFunc (.t 6) [7] (
       .region [
         ⟨(some 5), none, .move (.t 7)⟩]) (
       .block 1 (
        .region [
          ⟨(some 8), none, .load false 1 (.t 2)⟩,
          ⟨(some 9), none, .move (.t 5)⟩,
          ⟨(some 10), none, .buildSlice 1 1 (.int .i64 (0)) [(0, .t 9)]⟩,
          ⟨(some 11), none, .append 1 8 (.t 8) (.t 10)⟩,
          ⟨none, none, .store 1 (.t 2) (.t 11)⟩]))))) (
    .seq (
     .region [
       ⟨(some 12), none, .load false 1 (.t 2)⟩,
       ⟨(some 4), none, .move (.t 12)⟩]) (
    .ret)))

/-- slices.pdqsortOrdered[int] -/
def c69 : CFunc where
  nparams := 4
  ntmps := 134
  results := []
  body :=
    .seq (
     .region [
       ⟨(some 8), none, .move (.c (.bool true))⟩]) (
    .seq (
     .region [
       ⟨(some 9), none, .move (.c (.bool true))⟩]) (
    .block 0 (
     .loop (
      .block 1 (
       .seq (
        .region [
          ⟨(some 19), none, .move (.t 2)⟩,
          ⟨(some 20), none, .move (.t 1)⟩,
          ⟨(some 21), none, .bin .sub (.t 19) (.t 20)⟩,
          ⟨(some 10), none, .move (.t 21)⟩]) (
       .seq (
        .seq (
         .region [
           ⟨(some 22), none, .move (.t 10)⟩,
           ⟨(some 23), none, .bin .leq (.t 22) (.c (.int .i64 (12)))⟩]) (
        .cond (.t 23) (
         .seq (
          .region [
            ⟨(some 24), none, .move (.t 0)⟩,
            ⟨(some 25), none, .move (.t 1)⟩,
            ⟨(some 26), none, .move (.t 2)⟩,
            ⟨(some 27), none, .call 91 [.t 24, .t 25, .t 26]⟩]) (
         .ret)) (
         .skip))) (
       .seq (
        .seq (
         .region [
           ⟨(some 28), none, .move (.t 3)⟩,
           ⟨(some 29), none, .bin .eql (.t 28) (.c (.int .i64 (0)))⟩]) (
        .cond (.t 29) (
         .seq (
          .region [
            ⟨(some 30), none, .move (.t 0)⟩,
            ⟨(some 31), none, .move (.t 1)⟩,
            ⟨(some 32), none, .move (.t 2)⟩,
            ⟨(some 33), none, .call 92 [.t 30, .t 31, .t 32]⟩]) (
         .ret)) (
         .skip))) (
       .seq (
        .seq (
         .region [
           ⟨(some 34), none, .move (.t 8)⟩,
           ⟨(some 35), none, .not (.t 34)⟩]) (
        .cond (.t 35) (
         .seq (
          .region [
            ⟨(some 36), none, .move (.t 0)⟩,
            ⟨(some 37), none, .move (.t 1)⟩,
            ⟨(some 38), none, .move (.t 2)⟩,
            ⟨(some 39), none, .call 93 [.t 36, .t 37, .t 38]⟩]) (
         .region [
           ⟨(some 40), none, .move (.t 3)⟩,
           ⟨(some 41), none, .bin .sub (.t 40) (.c (.int .i64 (1)))⟩,
           ⟨(some 3), none, .move (.t 41)⟩])) (
         .skip))) (
       .seq (
        .region [
          ⟨(some 43), none, .move (.t 0)⟩,
          ⟨(some 44), none, .move (.t 1)⟩,
          ⟨(some 45), none, .move (.t 2)⟩,
          ⟨(some 46), none, .call 94 [.t 43, .t 44, .t 45]⟩,
          ⟨(some 42), none, .move (.t 46)⟩,
          ⟨(some 47), none, .extract (.t 42) 0⟩,
          ⟨(some 48), none, .extract (.t 42) 1⟩,
          ⟨(some 11), none, .move (.t 47)⟩,
          ⟨(some 12), none, .move (.t 48)⟩]) (
       .seq (
        .seq (
         .region [
           ⟨(some 49), none, .move (.t 12)⟩,
           ⟨(some 50), none, .bin .eql (.t 49) (.c (.int .i64 (2)))⟩]) (
        .cond (.t 50) (
         .seq (
          .region [
            ⟨(some 51), none, .move (.t 0)⟩,
            ⟨(some 52), none, .move (.t 1)⟩,
            ⟨(some 53), none, .move (.t 2)⟩,
            ⟨(some 54), none, .call 95 [.t 51, .t 52, .t 53]⟩]) (
         .seq (
          .region [
            ⟨(some 55), none, .move (.t 2)⟩,
            ⟨(some 56), none, .bin .sub (.t 55) (.c (.int .i64 (1)))⟩,
            ⟨(some 57), none, .move (.t 11)⟩,
            ⟨(some 58), none, .move (.t 1)⟩,
            ⟨(some 59), none, .bin .sub (.t 57) (.t 58)⟩,
            ⟨(some 60), none, .bin .sub (.t 56) (.t 59)⟩,
            ⟨(some 11), none, .move (.t 60)⟩]) (
         .region [
           ⟨(some 12), none, .move (.c (.int .i64 (1)))⟩]))) (
         .skip))) (
       .seq (
        .seq (
         .region [
           ⟨(some 61), none, .move (.t 8)⟩,
           ⟨(some 62), none, .move (.t 61)⟩,
           ⟨(some 63), (some (62, true)), .move (.t 9)⟩,
           ⟨(some 64), none, .pick (.t 62) (.t 63) (.c (.bool false))⟩,
           ⟨(some 65), none, .move (.t 64)⟩,
           ⟨(some 66), (some (65, true)), .move (.t 12)⟩,
           ⟨(some 67), (some (65, true)), .bin .eql (.t 66) (.c (.int .i64 (1)))⟩,
           ⟨(some 68), none, .pick (.t 65) (.t 67) (.c (.bool false))⟩]) (
        .cond (.t 68) (
         .seq (
          .region [
            ⟨(some 69), none, .move (.t 0)⟩,
            ⟨(some 70), none, .move (.t 1)⟩,
            ⟨(some 71), none, .move (.t 2)⟩,
            ⟨(some 72), none, .call 96 [.t 69, .t 70, .t 71]⟩]) (
         .cond (.t 72) (
          .ret) (
          .skip))) (
         .skip))) (
       .seq (
        .seq (
         .regionD [
           (⟨(some 73), none, .move (.t 1)⟩, []),
           (⟨(some 74), none, .bin .gtr (.t 73) (.c (.int .i64 (0)))⟩, [0]),
           (⟨(some 75), none, .move (.t 74)⟩, [1]),
           (⟨(some 76), (some (75, true)), .move (.t 0)⟩, [2]),
           (⟨(some 77), (some (75, true)), .move (.t 1)⟩, [2]),
           (⟨(some 78), (some (75, true)), .bin .sub (.t 77) (.c (.int .i64 (1)))⟩, [4, 2]),
           (⟨(some 79), (some (75, true)), .indexAddr 1 (.t 76) (.t 78)⟩, [3, 5, 2]),
           (⟨(some 80), (some (75, true)), .load false 1 (.t 79)⟩, [6, 2]),
           (⟨(some 81), (some (75, true)), .move (.t 0)⟩, [2]),
           (⟨(some 82), (some (75, true)), .move (.t 11)⟩, [2]),
           (⟨(some 83), (some (75, true)), .indexAddr 1 (.t 81) (.t 82)⟩, [8, 9, 2]),
           (⟨(some 84), (some (75, true)), .load false 1 (.t 83)⟩, [10, 2]),
           (⟨(some 85), (some (75, true)), .call 97 [.t 80, .t 84]⟩, [7, 11, 2, 2]),
           (⟨(some 86), (some (75, true)), .not (.t 85)⟩, [12, 2]),
           (⟨(some 87), none, .pick (.t 75) (.t 86) (.c (.bool false))⟩, [2, 13])]) (
        .cond (.t 87) (
         .seq (
          .region [
            ⟨(some 88), none, .move (.t 0)⟩,
            ⟨(some 89), none, .move (.t 1)⟩,
            ⟨(some 90), none, .move (.t 2)⟩,
            ⟨(some 91), none, .move (.t 11)⟩,
            ⟨(some 92), none, .call 98 [.t 88, .t 89, .t 90, .t 91]⟩,
            ⟨(some 13), none, .move (.t 92)⟩]) (
         .seq (
          .region [
            ⟨(some 93), none, .move (.t 13)⟩,
            ⟨(some 1), none, .move (.t 93)⟩]) (
         .exit 1))) (
         .skip))) (
       .seq (
        .region [
          ⟨(some 95), none, .move (.t 0)⟩,
          ⟨(some 96), none, .move (.t 1)⟩,
          ⟨(some 97), none, .move (.t 2)⟩,
          ⟨(some 98), none, .move (.t 11)⟩,
          ⟨(some 99), none, .call 99 [.t 95, .t 96, .t 97, .t 98]⟩,
          ⟨(some 94), none, .move (.t 99)⟩,
          ⟨(some 100), none, .extract (.t 94) 0⟩,
          ⟨(some 101), none, .extract (.t 94) 1⟩,
          ⟨(some 14), none, .move (.t 100)⟩,
          ⟨(some 15), none, .move (.t 101)⟩]) (
       .seq (
        .region [
          ⟨(some 102), none, .move (.t 15)⟩,
          ⟨(some 9), none, .move (.t 102)⟩]) (
       .seq (
        .region [
          ⟨(some 103), none, .move (.t 14)⟩,
          ⟨(some 104), none, .move (.t 1)⟩,
          ⟨(some 105), none, .bin .sub (.t 103) (.t 104)⟩,
          ⟨(some 106), none, .move (.t 2)⟩,
          ⟨(some 107), none, .move (.t 14)⟩,
          ⟨(some 108), none, .bin .sub (.t 106) (.t 107)⟩,
          ⟨(some 16), none, .move (.t 105)⟩,
          ⟨(some 17), none, .move (.t 108)⟩]) (
       .seq (
        .region [
          ⟨(some 109), none, .move (.t 10)⟩,
          ⟨(some 110), none, .bin .quo (.t 109) (.c (.int .i64 (8)))⟩,
          ⟨(some 18), none, .move (.t 110)⟩]) (
       .seq (
        .region [
          ⟨(some 111), none, .move (.t 16)⟩,
          ⟨(some 112), none, .move (.t 17)⟩,
          ⟨(some 113), none, .bin .lss (.t 111) (.t 112)⟩]) (
       .cond (.t 113) (
        .seq (
         .region [
           ⟨(some 114), none, .move (.t 16)⟩,
           ⟨(some 115), none, .move (.t 18)⟩,
           ⟨(some 116), none, .bin .geq (.t 114) (.t 115)⟩,
           ⟨(some 8), none, .move (.t 116)⟩]) (
        .seq (
         .region [
           ⟨(some 117), none, .move (.t 0)⟩,
           ⟨(some 118), none, .move (.t 1)⟩,
           ⟨(some 119), none, .move (.t 14)⟩,
           ⟨(some 120), none, .move (.t 3)⟩,
           ⟨(some 121), none, .call 69 [.t 117, .t 118, .t 119, .t 120]⟩]) (
        .region [
          ⟨(some 122), none, .move (.t 14)⟩,
          ⟨(some 123), none, .bin .add (.t 122) (.c (.int .i64 (1)))⟩,
          ⟨(some 1), none, .move (.t 123)⟩]))) (
        .seq (
         .region [
           ⟨(some 124), none, .move (.t 17)⟩,
           ⟨(some 125), none, .move (.t 18)⟩,
           ⟨(some 126), none, .bin .geq (.t 124) (.t 125)⟩,
           ⟨(some 8), none, .move (.t 126)⟩]) (
        .seq (
         .region [
           ⟨(some 127), none, .move (.t 0)⟩,
           ⟨(some 128), none, .move (.t 14)⟩,
           ⟨(some 129), none, .bin .add (.t 128) (.c (.int .i64 (1)))⟩,
           ⟨(some 130), none, .move (.t 2)⟩,
           ⟨(some 131), none, .move (.t 3)⟩,
           ⟨(some 132), none, .call 69 [.t 127, .t 129, .t 130, .t 131]⟩]) (
        .region [
          ⟨(some 133), none, .move (.t 14)⟩,
          ⟨(some 2), none, .move (.t 133)⟩])))))))))))))))))))))

/-- (*reveille/graph.Graph).all -/
def c70 : CFunc where
  nparams := 1
  ntmps := 4
  results := [.tmp 2]
  body :=
    .seq (
     .region [
       ⟨(some 1), none, .box (.t 0)⟩,
       ⟨(some 2), none, .move (.c (.nilFunc))⟩]) (
    .seq (
     .region [
       ⟨(some 3), none, .makeFunc 100 [] [.t 1]⟩,
       ⟨(some 2), none, .move (.t 3)⟩]) (
    .ret))

/-- reveille/graph.right -/
def c71 : CFunc where
  nparams := 1
  ntmps := 18
  results := [.tmp 2]
  body :=
    .seq (
     .region [
       ⟨(some 1), none, .box (.t 0)⟩,
       ⟨(some 2), none, .move (.c (.bool false))⟩]) (
    .seq (
     .region [
       ⟨(some 3), none, .fieldAddr 1 (.t 1)⟩,
       ⟨(some 4), none, .load false 1 (.t 3)⟩,
       ⟨(some 5), none, .fieldAddr 2 (.t 1)⟩,
       ⟨(some 6), none, .load false 1 (.t 5)⟩,
       ⟨(some 7), none, .bin .neq (.t 4) (.t 6)⟩,
       ⟨(some 8), none, .move (.t 7)⟩,
       ⟨(some 9), (some (8, true)), .fieldAddr 1 (.t 1)⟩,
       ⟨(some 10), (some (8, true)), .load false 1 (.t 9)⟩,
       ⟨(some 11), (some (8, true)), .call 28 [.t 10]⟩,
       ⟨(some 12), none, .pick (.t 8) (.t 11) (.c (.bool false))⟩,
       ⟨(some 13), none, .move (.t 12)⟩,
       ⟨(some 14), (some (13, true)), .fieldAddr 2 (.t 1)⟩,
       ⟨(some 15), (some (13, true)), .load false 1 (.t 14)⟩,
       ⟨(some 16), (some (13, true)), .call 28 [.t 15]⟩,
       ⟨(some 17), none, .pick (.t 13) (.t 16) (.c (.bool false))⟩,
       ⟨(some 2), none, .move (.t 17)⟩]) (
    .ret))

/-- slices.Values[[]reveille/api.Edge,reveille/api.Edge] -/
def c72 : CFunc where
  nparams := 1
  ntmps := 4
  results := [.tmp 2]
  body :=
    .seq (
     .region [
       ⟨(some 1), none, .box (.t 0)⟩,
       ⟨(some 2), none, .move (.c (.nilFunc))⟩]) (
    .seq (
     .region [
       ⟨(some 3), none, .makeFunc 104 [] [.t 1]⟩,
       ⟨(some 2), none, .move (.t 3)⟩]) (
    .ret))

/-- slices.SortedFunc[reveille/api.Edge] -/
def c73 : CFunc where
  nparams := 2
  ntmps := 12
  results := [.tmp 4]
  body :=
    .seq (
     .region [
       ⟨(some 4), none, .move (.c (.nilSlice))⟩]) (
    .seq (
     .region [
       ⟨(some 6), none, .move (.t 0)⟩,
       ⟨(some 7), none, .call 105 [.t 6]⟩,
       ⟨(some 5), none, .move (.t 7)⟩]) (
    .seq (
     .region [
       ⟨(some 8), none, .move (.t 5)⟩,
       ⟨(some 9), none, .move (.t 1)⟩,
       ⟨(some 10), none, .call 106 [.t 8, .t 9]⟩]) (
    .seq (
     .region [
       ⟨(some 11), none, .move (.t 5)⟩,
       ⟨(some 4), none, .move (.t 11)⟩]) (
    .ret))))

/-- maps.Keys[map[reveille/api.Edge]struct{},reveille/api.Edge,struct{}] -/
def c74 : CFunc where
  nparams := 1
  ntmps := 4
  results := [.tmp 2]
  body :=
    .seq (
     .region [
       ⟨(some 1), none, .box (.t 0)⟩,
       ⟨(some 2), none, .move (.c (.nilFunc))⟩]) (
    .seq (
     .region [
       ⟨(some 3), none, .makeFunc 107 [] [.t 1]⟩,
       ⟨(some 2), none, .move (.t 3)⟩]) (
    .ret))

/-- (*reveille/graph.Graph).some$1 -/
def c75 : CFunc where
  nparams := 2
  ntmps := 22
  results := [.tmp 4]
  body :=
    .seq (
     .region [
       ⟨(some 2), none, .box (.t 0)⟩,
       ⟨(some 3), none, .box (.t 1)⟩,
       ⟨(some 4), none, .move (.c (.int .i64 (0)))⟩]) (
    .seq (
     .regionD [
       (⟨(some 5), none, .fieldAddr 0 (.t 2)⟩, []),
       (⟨(some 6), none, .load false 1 (.t 5)⟩, [0]),
       (⟨(some 7), none, .fieldAddr 0 (.t 3)⟩, []),
       (⟨(some 8), none, .load false 1 (.t 7)⟩, [2]),
       (⟨(some 9), none, .call 26 [.t 6, .t 8]⟩, [1, 3]),
       (⟨(some 10), none, .fieldAddr 2 (.t 2)⟩, []),
       (⟨(some 11), none, .load false 1 (.t 10)⟩, [5]),
       (⟨(some 12), none, .fieldAddr 2 (.t 3)⟩, []),
       (⟨(some 13), none, .load false 1 (.t 12)⟩, [7]),
       (⟨(some 14), none, .call 77 [.t 11, .t 13]⟩, [6, 8, 4]),
       (⟨(some 15), none, .fieldAddr 1 (.t 2)⟩, []),
       (⟨(some 16), none, .load false 1 (.t 15)⟩, [10]),
       (⟨(some 17), none, .fieldAddr 1 (.t 3)⟩, []),
       (⟨(some 18), none, .load false 1 (.t 17)⟩, [12]),
       (⟨(some 19), none, .call 77 [.t 16, .t 18]⟩, [11, 13, 9]),
       (⟨(some 20), none, .buildSlice 1 3 (.int .i64 (0)) [(0, .t 9), (1, .t 14), (2, .t 19)]⟩, [4, 9, 14]),
       (⟨(some 21), none, .call 76 [.t 20]⟩, [15, 14]),
       (⟨(some 4), none, .move (.t 21)⟩, [16, 16, 0, 1, 2, 3, 4, 5, 6, 7, 8, 9, 10, 11, 12, 13, 14, 15, 16])]) (
    .ret))

/-- cmp.Or[int] -/
def c76 : CFunc where
  nparams := 1
  ntmps := 18
  results := [.tmp 2]
  body :=
    .seq (
     .region [
       ⟨(some 2), none, .move (.c (.int .i64 (0)))⟩]) (
    .seq (
     .region [
       ⟨(some 3), none, .move (.c (.int .i64 (0)))⟩]) (
    .seq (
     .seq (
      .region [
        ⟨(some 6), none, .move (.t 0)⟩,
        ⟨(some 7), none, .lenSlice (.t 6)⟩,
        ⟨(some 8), none, .move (.c (.int .i64 (0)))⟩]) (
     .block 0 (
      .loop (
       .seq (
        .region [
          ⟨(some 9), none, .bin .lss (.t 8) (.t 7)⟩]) (
       .seq (
        .cond (.t 9) (
         .skip) (
         .exit 0)) (
       .seq (
        .block 1 (
         .seq (
          .region [
            ⟨(some 10), none, .indexAddr 1 (.t 6) (.t 8)⟩,
            ⟨(some 11), none, .load false 1 (.t 10)⟩,
            ⟨(some 5), none, .move (.t 11)⟩]) (
         .seq (
          .region [
            ⟨(some 12), none, .move (.t 5)⟩,
            ⟨(some 13), none, .move (.t 3)⟩,
            ⟨(some 14), none, .bin .neq (.t 12) (.t 13)⟩]) (
         .cond (.t 14) (
          .seq (
           .region [
             ⟨(some 15), none, .move (.t 5)⟩,
             ⟨(some 2), none, .move (.t 15)⟩]) (
          .ret)) (
          .skip))))) (
       .region [
         ⟨(some 16), none, .bin .add (.t 8) (.c (.int .i64 (1)))⟩,
         ⟨(some 8), none, .move (.t 16)⟩]))))))) (
    .seq (
     .region [
       ⟨(some 17), none, .move (.t 3)⟩,
       ⟨(some 2), none, .move (.t 17)⟩]) (
    .ret))))

/-- cmp.Compare[string] -/
def c77 : CFunc where
  nparams := 2
  ntmps := 20
  results := [.tmp 4]
  body :=
    .seq (
     .region [
       ⟨(some 4), none, .move (.c (.int .i64 (0)))⟩]) (
    .seq (
     .region [
       ⟨(some 7), none, .move (.t 0)⟩,
       ⟨(some 8), none, .call 108 [.t 7]⟩,
       ⟨(some 5), none, .move (.t 8)⟩]) (
    .seq (
     .region [
       ⟨(some 9), none, .move (.t 1)⟩,
       ⟨(some 10), none, .call 108 [.t 9]⟩,
       ⟨(some 6), none, .move (.t 10)⟩]) (
    .seq (
     .seq (
      .region [
        ⟨(some 11), none, .move (.t 5)⟩]) (
     .cond (.t 11) (
      .seq (
       .seq (
        .region [
          ⟨(some 12), none, .move (.t 6)⟩]) (
       .cond (.t 12) (
        .seq (
         .region [
           ⟨(some 4), none, .move (.c (.int .i64 (0)))⟩]) (
        .ret)) (
        .skip))) (
      .seq (
       .region [
         ⟨(some 4), none, .move (.c (.int .i64 (-1)))⟩]) (
      .ret))) (
      .skip))) (
    .seq (
     .seq (
      .region [
        ⟨(some 13), none, .move (.t 6)⟩]) (
     .cond (.t 13) (
      .seq (
       .region [
         ⟨(some 4), none, .move (.c (.int .i64 (1)))⟩]) (
      .ret)) (
      .skip))) (
    .seq (
     .seq (
      .region [
        ⟨(some 14), none, .move (.t 0)⟩,
        ⟨(some 15), none, .move (.t 1)⟩,
        ⟨(some 16), none, .bin .lss (.t 14) (.t 15)⟩]) (
     .cond (.t 16) (
      .seq (
       .region [
         ⟨(some 4), none, .move (.c (.int .i64 (-1)))⟩]) (
      .ret)) (
      .skip))) (
    .seq (
     .seq (
      .region [
        ⟨(some 17), none, .move (.t 0)⟩,
        ⟨(some 18), none, .move (.t 1)⟩,
        ⟨(some 19), none, .bin .gtr (.t 17) (.t 18)⟩]) (
     .cond (.t 19) (
      .seq (
       .region [
         ⟨(some 4), none, .move (.c (.int .i64 (1)))⟩]) (
      .ret)) (
      .skip))) (
    .seq (
     .region [
       ⟨(some 4), none, .move (.c (.int .i64 (0)))⟩]) (
    .ret))))))))

/-- internal/bytealg.LastIndexByteString -/
def c83 : CFunc where
  nparams := 2
  ntmps := 19
  results := [.tmp 4]
  body :=
    .seq (
     .region [
       ⟨(some 4), none, .move (.c (.int .i64 (0)))⟩]) (
    .seq (
     .seq (
      .region [
        ⟨(some 6), none, .move (.t 0)⟩,
        ⟨(some 7), none, .lenStr (.t 6)⟩,
        ⟨(some 8), none, .bin .sub (.t 7) (.c (.int .i64 (1)))⟩,
        ⟨(some 5), none, .move (.t 8)⟩]) (
     .block 0 (
      .loop (
       .seq (
        .seq (
         .region [
           ⟨(some 9), none, .move (.t 5)⟩,
           ⟨(some 10), none, .bin .geq (.t 9) (.c (.int .i64 (0)))⟩]) (
        .cond (.t 10) (
         .skip) (
         .exit 0))) (
       .seq (
        .block 1 (
         .seq (
          .region [
            ⟨(some 13), none, .move (.t 0)⟩,
            ⟨(some 14), none, .move (.t 5)⟩,
            ⟨(some 15), none, .indexStr (.t 13) (.t 14)⟩,
            ⟨(some 16), none, .move (.t 1)⟩,
            ⟨(some 17), none, .bin .eql (.t 15) (.t 16)⟩]) (
         .cond (.t 17) (
          .seq (
           .region [
             ⟨(some 18), none, .move (.t 5)⟩,
             ⟨(some 4), none, .move (.t 18)⟩]) (
          .ret)) (
          .skip)))) (
       .region [
         ⟨(some 11), none, .move (.t 5)⟩,
         ⟨(some 12), none, .bin .sub (.t 11) (.c (.int .i64 (1)))⟩,
         ⟨(some 5), none, .move (.t 12)⟩])))))) (
    .seq (
     .region [
       ⟨(some 4), none, .move (.c (.int .i64 (-1)))⟩]) (
    .ret)))

/-- slices.Index[[]string,string] -/
def c84 : CFunc where
  nparams := 2
  ntmps := 19
  results := [.tmp 4]
  body :=
    .seq (
     .region [
       ⟨(some 4), none, .move (.c (.int .i64 (0)))⟩]) (
    .seq (
     .seq (
      .region [
        ⟨(some 6), none, .move (.t 0)⟩,
        ⟨(some 7), none, .lenSlice (.t 6)⟩,
        ⟨(some 8), none, .move (.c (.int .i64 (0)))⟩]) (
     .block 0 (
      .loop (
       .seq (
        .region [
          ⟨(some 9), none, .bin .lss (.t 8) (.t 7)⟩]) (
       .seq (
        .cond (.t 9) (
         .skip) (
         .exit 0)) (
       .seq (
        .block 1 (
         .seq (
          .region [
            ⟨(some 10), none, .move (.t 8)⟩,
            ⟨(some 5), none, .move (.t 10)⟩]) (
         .seq (
          .region [
            ⟨(some 11), none, .move (.t 1)⟩,
            ⟨(some 12), none, .move (.t 0)⟩,
            ⟨(some 13), none, .move (.t 5)⟩,
            ⟨(some 14), none, .indexAddr 1 (.t 12) (.t 13)⟩,
            ⟨(some 15), none, .load false 1 (.t 14)⟩,
            ⟨(some 16), none, .bin .eql (.t 11) (.t 15)⟩]) (
         .cond (.t 16) (
          .seq (
           .region [
             ⟨(some 17), none, .move (.t 5)⟩,
             ⟨(some 4), none, .move (.t 17)⟩]) (
          .ret)) (
          .skip))))) (
       .region [
         ⟨(some 18), none, .bin .add (.t 8) (.c (.int .i64 (1)))⟩,
         ⟨(some 8), none, .move (.t 18)⟩]))))))) (
    .seq (
     .region [
       ⟨(some 4), none, .move (.c (.int .i64 (-1)))⟩]) (
    .ret)))

/-- internal/stringslite.Cut -/
def c85 : CFunc where
  nparams := 2
  ntmps := 23
  results := [.tmp 4, .tmp 5, .tmp 6]
  body :=
    .seq (
     .region [
       ⟨(some 4), none, .move (.c (.str []))⟩,
       ⟨(some 5), none, .move (.c (.str []))⟩,
       ⟨(some 6), none, .move (.c (.bool false))⟩]) (
    .seq (
     .seq (
      .region [
        ⟨(some 8), none, .move (.t 0)⟩,
        ⟨(some 9), none, .move (.t 1)⟩,
        ⟨(some 10), none, .call 110 [.t 8, .t 9]⟩,
        ⟨(some 7), none, .move (.t 10)⟩]) (
     .seq (
      .region [
        ⟨(some 11), none, .move (.t 7)⟩,
        ⟨(some 12), none, .bin .geq (.t 11) (.c (.int .i64 (0)))⟩]) (
     .cond (.t 12) (
      .seq (
       .regionD [
         (⟨(some 13), none, .move (.t 0)⟩, []),
         (⟨(some 14), none, .move (.t 7)⟩, []),
         (⟨(some 15), none, .sliceStr (.t 13) none (some (.t 14))⟩, [0, 1]),
         (⟨(some 16), none, .move (.t 0)⟩, []),
         (⟨(some 17), none, .move (.t 7)⟩, []),
         (⟨(some 18), none, .move (.t 1)⟩, []),
         (⟨(some 19), none, .lenStr (.t 18)⟩, [5]),
         (⟨(some 20), none, .bin .add (.t 17) (.t 19)⟩, [4, 6]),
         (⟨(some 21), none, .sliceStr (.t 16) (some (.t 20)) none⟩, [3, 7]),
         (⟨(some 4), none, .move (.t 15)⟩, [2, 0, 1, 2]),
         (⟨(some 5), none, .move (.t 21)⟩, [8, 9, 0, 1, 2, 3, 4, 5, 6, 7, 8, 9]),
         (⟨(some 6), none, .move (.c (.bool true))⟩, [10, 0, 1, 2, 3, 4, 5, 6, 7, 8, 9, 10])]) (
      .ret)) (
      .skip)))) (
    .seq (
     .region [
       ⟨(some 22), none, .move (.t 0)⟩,
       ⟨(some 4), none, .move (.t 22)⟩,
       ⟨(some 5), none, .move (.c (.str []))⟩,
       ⟨(some 6), none, .move (.c (.bool false))⟩]) (
    .ret)))

/-- internal/stringslite.IndexByte -/
def c86 : CFunc where
  nparams := 2
  ntmps := 8
  results := [.tmp 4]
  body :=
    .seq (
     .region [
       ⟨(some 4), none, .move (.c (.int .i64 (0)))⟩]) (
    .seq (
     .region [
       ⟨(some 5), none, .move (.t 0)⟩,
       ⟨(some 6), none, .move (.t 1)⟩,
       ⟨(some 7), none, .call 111 [.t 5, .t 6]⟩,
       ⟨(some 4), none, .move (.t 7)⟩]) (
    .ret))

/-- slices.ContainsFunc[[]byte,byte] -/
def c87 : CFunc where
  nparams := 2
  ntmps := 9
  results := [.tmp 4]
  body :=
    .seq (
     .region [
       ⟨(some 4), none, .move (.c (.bool false))⟩]) (
    .seq (
     .region [
       ⟨(some 5), none, .move (.t 0)⟩,
       ⟨(some 6), none, .move (.t 1)⟩,
       ⟨(some 7), none, .call 112 [.t 5, .t 6]⟩,
       ⟨(some 8), none, .bin .geq (.t 7) (.c (.int .i64 (0)))⟩,
       ⟨(some 4), none, .move (.t 8)⟩]) (
    .ret))

/-- reveille/name.every$1 -/
def c88 : CFunc where
  nparams := 1
  ntmps := 8
  results := [.tmp 3]
  body :=
    .seq (
     .region [
       ⟨(some 3), none, .move (.c (.bool false))⟩]) (
    .seq (
     .region [
       ⟨(some 4), none, .load false 1 (.t 1)⟩,
       ⟨(some 5), none, .move (.t 0)⟩,
       ⟨(some 6), none, .callv (.t 4) [.t 5]⟩,
       ⟨(some 7), none, .not (.t 6)⟩,
       ⟨(some 3), none, .move (.t 7)⟩]) (
    .ret))

/-- reveille/reveilleref4.endings -/
def c89 : CFunc where
  nparams := 0
  ntmps := 2
  results := [.cell 0 true 6]
  body :=
    .seq (
     .region [
       ⟨(some 0), none, .alloc [.str [], .str [], .str [], .str [], .str [], .str []]⟩]) (
    .seq (
     .region [
       ⟨(some 1), none, .build [.str [], .str [], .str [], .str [], .str [], .str []] [(0, 1, .c (.str [46, 115, 101, 114, 118, 105, 99, 101])), (1, 1, .c (.str [46, 115, 111, 99, 107, 101, 116])), (2, 1, .c (.str [46, 116, 105, 109, 101, 114])), (3, 1, .c (.str [46, 112, 97, 116, 104])), (4, 1, .c (.str [46, 109, 111, 117, 110, 116])), (5, 1, .c (.str [46, 116, 97, 114, 103, 101, 116]))]⟩,
       ⟨none, none, .store 6 (.t 0) (.t 1)⟩]) (
    .ret))

/-- reveille/reveilleref15.less -/
def c90 : CFunc where
  nparams := 2
  ntmps := 30
  results := [.tmp 4]
  body :=
    .seq (
     .region [
       ⟨(some 2), none, .box (.t 0)⟩,
       ⟨(some 3), none, .box (.t 1)⟩,
       ⟨(some 4), none, .move (.c (.bool false))⟩]) (
    .seq (
     .seq (
      .region [
        ⟨(some 5), none, .fieldAddr 1 (.t 2)⟩,
        ⟨(some 6), none, .load false 1 (.t 5)⟩,
        ⟨(some 7), none, .fieldAddr 1 (.t 3)⟩,
        ⟨(some 8), none, .load false 1 (.t 7)⟩,
        ⟨(some 9), none, .bin .neq (.t 6) (.t 8)⟩]) (
     .cond (.t 9) (
      .seq (
       .region [
         ⟨(some 10), none, .fieldAddr 1 (.t 2)⟩,
         ⟨(some 11), none, .load false 1 (.t 10)⟩,
         ⟨(some 12), none, .fieldAddr 1 (.t 3)⟩,
         ⟨(some 13), none, .load false 1 (.t 12)⟩,
         ⟨(some 14), none, .bin .lss (.t 11) (.t 13)⟩,
         ⟨(some 4), none, .move (.t 14)⟩]) (
      .ret)) (
      .skip))) (
    .seq (
     .seq (
      .region [
        ⟨(some 15), none, .fieldAddr 0 (.t 2)⟩,
        ⟨(some 16), none, .load false 1 (.t 15)⟩,
        ⟨(some 17), none, .fieldAddr 0 (.t 3)⟩,
        ⟨(some 18), none, .load false 1 (.t 17)⟩,
        ⟨(some 19), none, .bin .neq (.t 16) (.t 18)⟩]) (
     .cond (.t 19) (
      .seq (
       .region [
         ⟨(some 20), none, .fieldAddr 0 (.t 2)⟩,
         ⟨(some 21), none, .load false 1 (.t 20)⟩,
         ⟨(some 22), none, .fieldAddr 0 (.t 3)⟩,
         ⟨(some 23), none, .load false 1 (.t 22)⟩,
         ⟨(some 24), none, .bin .lss (.t 21) (.t 23)⟩,
         ⟨(some 4), none, .move (.t 24)⟩]) (
      .ret)) (
      .skip))) (
    .seq (
     .region [
       ⟨(some 25), none, .fieldAddr 2 (.t 2)⟩,
       ⟨(some 26), none, .load false 1 (.t 25)⟩,
       ⟨(some 27), none, .fieldAddr 2 (.t 3)⟩,
       ⟨(some 28), none, .load false 1 (.t 27)⟩,
       ⟨(some 29), none, .bin .lss (.t 26) (.t 28)⟩,
       ⟨(some 4), none, .move (.t 29)⟩]) (
    .ret))))

/-- slices.insertionSortOrdered[int] -/
def c91 : CFunc where
  nparams := 3
  ntmps := 49
  results := []
  body :=
    .seq (
     .region [
       ⟨(some 8), none, .move (.t 1)⟩,
       ⟨(some 9), none, .bin .add (.t 8) (.c (.int .i64 (1)))⟩,
       ⟨(some 6), none, .move (.t 9)⟩]) (
    .block 0 (
     .loop (
      .seq (
       .seq (
        .region [
          ⟨(some 10), none, .move (.t 6)⟩,
          ⟨(some 11), none, .move (.t 2)⟩,
          ⟨(some 12), none, .bin .lss (.t 10) (.t 11)⟩]) (
       .cond (.t 12) (
        .skip) (
        .exit 0))) (
      .seq (
       .block 1 (
        .seq (
         .region [
           ⟨(some 15), none, .move (.t 6)⟩,
           ⟨(some 7), none, .move (.t 15)⟩]) (
        .block 2 (
         .loop (
          .seq (
           .seq (
            .regionD [
              (⟨(some 16), none, .move (.t 7)⟩, []),
              (⟨(some 17), none, .move (.t 1)⟩, []),
              (⟨(some 18), none, .bin .gtr (.t 16) (.t 17)⟩, [0, 1]),
              (⟨(some 19), none, .move (.t 18)⟩, [2]),
              (⟨(some 20), (some (19, true)), .move (.t 0)⟩, [3]),
              (⟨(some 21), (some (19, true)), .move (.t 7)⟩, [3]),
              (⟨(some 22), (some (19, true)), .indexAddr 1 (.t 20) (.t 21)⟩, [4, 5, 3]),
              (⟨(some 23), (some (19, true)), .load false 1 (.t 22)⟩, [6, 3]),
              (⟨(some 24), (some (19, true)), .move (.t 0)⟩, [3]),
              (⟨(some 25), (some (19, true)), .move (.t 7)⟩, [3]),
              (⟨(some 26), (some (19, true)), .bin .sub (.t 25) (.c (.int .i64 (1)))⟩, [9, 3]),
              (⟨(some 27), (some (19, true)), .indexAddr 1 (.t 24) (.t 26)⟩, [8, 10, 3]),
              (⟨(some 28), (some (19, true)), .load false 1 (.t 27)⟩, [11, 3]),
              (⟨(some 29), (some (19, true)), .call 97 [.t 23, .t 28]⟩, [7, 12, 3, 3]),
              (⟨(some 30), none, .pick (.t 19) (.t 29) (.c (.bool false))⟩, [3, 13])]) (
           .cond (.t 30) (
            .skip) (
            .exit 2))) (
          .seq (
           .block 3 (
            .regionD [
              (⟨(some 33), none, .move (.t 0)⟩, []),
              (⟨(some 34), none, .move (.t 7)⟩, []),
              (⟨(some 35), none, .move (.t 0)⟩, []),
              (⟨(some 36), none, .move (.t 7)⟩, []),
              (⟨(some 37), none, .bin .sub (.t 36) (.c (.int .i64 (1)))⟩, [3]),
              (⟨(some 38), none, .move (.t 0)⟩, []),
              (⟨(some 39), none, .move (.t 7)⟩, []),
              (⟨(some 40), none, .bin .sub (.t 39) (.c (.int .i64 (1)))⟩, [6]),
              (⟨(some 41), none, .indexAddr 1 (.t 38) (.t 40)⟩, [5, 7]),
              (⟨(some 42), none, .load false 1 (.t 41)⟩, [8]),
              (⟨(some 43), none, .move (.t 0)⟩, []),
              (⟨(some 44), none, .move (.t 7)⟩, []),
              (⟨(some 45), none, .indexAddr 1 (.t 43) (.t 44)⟩, [10, 11]),
              (⟨(some 46), none, .load false 1 (.t 45)⟩, [12]),
              (⟨(some 47), none, .indexAddr 1 (.t 33) (.t 34)⟩, [0, 1, 0, 1, 5, 6, 7, 8, 9, 13]),
              (⟨none, none, .store 1 (.t 47) (.t 42)⟩, [14, 9, 0, 1, 5, 6, 7, 8, 9, 13]),
              (⟨(some 48), none, .indexAddr 1 (.t 35) (.t 37)⟩, [2, 4, 0, 1, 2, 3, 4, 5, 6, 7, 8, 9, 10, 11, 12, 13, 14, 15]),
              (⟨none, none, .store 1 (.t 48) (.t 46)⟩, [16, 13, 15, 0, 1, 2, 3, 4, 5, 6, 7, 8, 9, 10, 11, 12, 13, 14, 15])])) (
          .region [
            ⟨(some 31), none, .move (.t 7)⟩,
            ⟨(some 32), none, .bin .sub (.t 31) (.c (.int .i64 (1)))⟩,
            ⟨(some 7), none, .move (.t 32)⟩]))))))) (
      .region [
        ⟨(some 13), none, .move (.t 6)⟩,
        ⟨(some 14), none, .bin .add (.t 13) (.c (.int .i64 (1)))⟩,
        ⟨(some 6), none, .move (.t 14)⟩])))))

/-- cmp.Less[int] -/
def c97 : CFunc where
  nparams := 2
  ntmps := 17
  results := [.tmp 4]
  body :=
    .seq (
     .region [
       ⟨(some 4), none, .move (.c (.bool false))⟩]) (
    .seq (
     .region [
       ⟨(some 5), none, .move (.t 0)⟩,
       ⟨(some 6), none, .call 38 [.t 5]⟩,
       ⟨(some 7), none, .move (.t 6)⟩,
       ⟨(some 8), (some (7, true)), .move (.t 1)⟩,
       ⟨(some 9), (some (7, true)), .call 38 [.t 8]⟩,
       ⟨(some 10), (some (7, true)), .not (.t 9)⟩,
       ⟨(some 11), none, .pick (.t 7) (.t 10) (.c (.bool false))⟩,
       ⟨(some 12), none, .move (.t 11)⟩,
       ⟨(some 13), (some (12, false)), .move (.t 0)⟩,
       ⟨(some 14), (some (12, false)), .move (.t 1)⟩,
       ⟨(some 15), (some (12, false)), .bin .lss (.t 13) (.t 14)⟩,
       ⟨(some 16), none, .pick (.t 12) (.c (.bool true)) (.t 15)⟩,
       ⟨(some 4), none, .move (.t 16)⟩]) (
    .ret))

/-- (*reveille/graph.Graph).all$1 -/
def c100 : CFunc where
  nparams := 1
  ntmps := 29
  results := []
  body :=
    .seq (
     .region [
       ⟨(some 2), none, .box (.t 0)⟩]) (
    .seq (
     .region [
       ⟨(some 7), none, .load false 1 (.t 1)⟩,
       ⟨(some 8), none, .call 101 [.t 7]⟩]) (
    .block 0 (
     .rangeFunc (.t 8) [9] (
      .region [
        ⟨(some 3), none, .alloc [.str [], .int .i64 (0), .int .i64 (0), .nilSlice, .nilSlice, .nilSlice, .nilSlice, .nilSlice, .nilSlice, .nilSlice, .bool false, .int .i64 (0), .int .i64 (0), .int .i64 (0), .nilSlice, .nilSlice, .nilSlice, .int .i64 (0), .int .i64 (0), .int .i64 (0), .int .i64 (0), .int .i64 (0), .int .i64 (0), .bool false, .str [], .str [], .int .i64 (0), .int .i64 (0), .nilSlice, .nilSlice, .nilSlice, .str [], .str []]⟩,
        ⟨none, none, .store 33 (.t 3) (.t 9)⟩]) (
      .block 1 (
       .seq (
        .seq (
         .region [
           ⟨(some 10), none, .load true 33 (.t 3)⟩,
           ⟨(some 11), none, .call 102 [.t 10]⟩]) (
        .block 2 (
         .rangeFunc (.t 11) [12] (
          .region [
            ⟨(some 4), none, .alloc [.int .i64 (0), .str [], .str []]⟩,
            ⟨none, none, .store 3 (.t 4) (.t 12)⟩]) (
          .block 3 (
           .seq (
            .region [
              ⟨(some 13), none, .load false 1 (.t 2)⟩,
              ⟨(some 14), none, .load true 3 (.t 4)⟩,
              ⟨(some 15), none, .callv (.t 13) [.t 14]⟩,
              ⟨(some 16), none, .not (.t 15)⟩]) (
           .cond (.t 16) (
            .ret) (
            .skip))))))) (
       .seq (
        .region [
          ⟨(some 17), none, .load true 33 (.t 3)⟩,
          ⟨(some 18), none, .call 103 [.t 17]⟩,
          ⟨(some 19), none, .lenSlice (.t 18)⟩,
          ⟨(some 20), none, .move (.c (.int .i64 (0)))⟩]) (
       .block 4 (
        .loop (
         .seq (
          .region [
            ⟨(some 21), none, .bin .lss (.t 20) (.t 19)⟩]) (
         .seq (
          .cond (.t 21) (
           .skip) (
           .exit 4)) (
         .seq (
          .block 5 (
           .seq (
            .region [
              ⟨(some 22), none, .indexAddr 3 (.t 18) (.t 20)⟩,
              ⟨(some 23), none, .load true 3 (.t 22)⟩,
              ⟨(some 6), none, .alloc [.int .i64 (0), .str [], .str []]⟩,
              ⟨none, none, .store 3 (.t 6) (.t 23)⟩]) (
           .seq (
            .region [
              ⟨(some 24), none, .load false 1 (.t 2)⟩,
              ⟨(some 25), none, .load true 3 (.t 6)⟩,
              ⟨(some 26), none, .callv (.t 24) [.t 25]⟩,
              ⟨(some 27), none, .not (.t 26)⟩]) (
           .cond (.t 27) (
            .ret) (
            .skip))))) (
         .region [
           ⟨(some 28), none, .bin .add (.t 20) (.c (.int .i64 (1)))⟩,
           ⟨(some 20), none, .move (.t 28)⟩]))))))))))))

/-- (*reveille/graph.Graph).Units -/
def c101 : CFunc where
  nparams := 1
  ntmps := 4
  results := [.tmp 2]
  body :=
    .seq (
     .region [
       ⟨(some 1), none, .box (.t 0)⟩,
       ⟨(some 2), none, .move (.c (.nilFunc))⟩]) (
    .seq (
     .region [
       ⟨(some 3), none, .makeFunc 116 [] [.t 1]⟩,
       ⟨(some 2), none, .move (.t 3)⟩]) (
    .ret))

/-- reveille/graph.relations -/
def c102 : CFunc where
  nparams := 1
  ntmps := 24
  results := [.tmp 2]
  body :=
    .seq (
     .region [
       ⟨(some 1), none, .box (.t 0)⟩,
       ⟨(some 2), none, .move (.c (.nilFunc))⟩]) (
    .seq (
     .region [
       ⟨(some 4), none, .fieldAddr 3 (.t 1)⟩,
       ⟨(some 5), none, .load false 1 (.t 4)⟩,
       ⟨(some 6), none, .build [.int .i64 (0), .nilSlice] [(0, 1, .c (.int .i64 (1))), (1, 1, .t 5)]⟩,
       ⟨(some 7), none, .fieldAddr 4 (.t 1)⟩,
       ⟨(some 8), none, .load false 1 (.t 7)⟩,
       ⟨(some 9), none, .build [.int .i64 (0), .nilSlice] [(0, 1, .c (.int .i64 (2))), (1, 1, .t 8)]⟩,
       ⟨(some 10), none, .fieldAddr 5 (.t 1)⟩,
       ⟨(some 11), none, .load false 1 (.t 10)⟩,
       ⟨(some 12), none, .build [.int .i64 (0), .nilSlice] [(0, 1, .c (.int .i64 (3))), (1, 1, .t 11)]⟩,
       ⟨(some 13), none, .fieldAddr 6 (.t 1)⟩,
       ⟨(some 14), none, .load false 1 (.t 13)⟩,
       ⟨(some 15), none, .build [.int .i64 (0), .nilSlice] [(0, 1, .c (.int .i64 (4))), (1, 1, .t 14)]⟩,
       ⟨(some 16), none, .fieldAddr 7 (.t 1)⟩,
       ⟨(some 17), none, .load false 1 (.t 16)⟩,
       ⟨(some 18), none, .build [.int .i64 (0), .nilSlice] [(0, 1, .c (.int .i64 (5))), (1, 1, .t 17)]⟩,
       ⟨(some 19), none, .fieldAddr 8 (.t 1)⟩,
       ⟨(some 20), none, .load false 1 (.t 19)⟩,
       ⟨(some 21), none, .build [.int .i64 (0), .nilSlice] [(0, 1, .c (.int .i64 (6))), (1, 1, .t 20)]⟩,
       ⟨(some 22), none, .build [.int .i64 (0), .nilSlice, .int .i64 (0), .nilSlice, .int .i64 (0), .nilSlice, .int .i64 (0), .nilSlice, .int .i64 (0), .nilSlice, .int .i64 (0), .nilSlice] [(0, 2, .t 6), (2, 2, .t 9), (4, 2, .t 12), (6, 2, .t 15), (8, 2, .t 18), (10, 2, .t 21)]⟩,
       ⟨(some 3), none, .alloc [.int .i64 (0), .nilSlice, .int .i64 (0), .nilSlice, .int .i64 (0), .nilSlice, .int .i64 (0), .nilSlice, .int .i64 (0), .nilSlice, .int .i64 (0), .nilSlice]⟩,
       ⟨none, none, .store 12 (.t 3) (.t 22)⟩]) (
    .seq (
     .region [
       ⟨(some 23), none, .makeFunc 119 [] [.t 3, .t 1]⟩,
       ⟨(some 2), none, .move (.t 23)⟩]) (
    .ret)))

/-- reveille/graph.implied -/
def c103 : CFunc where
  nparams := 1
  ntmps := 61
  results := [.tmp 2]
  body :=
    .seq (
     .region [
       ⟨(some 1), none, .box (.t 0)⟩,
       ⟨(some 2), none, .move (.c (.nilSlice))⟩]) (
    .seq (
     .region [
       ⟨(some 3), none, .move (.c (.nilSlice))⟩]) (
    .seq (
     .seq (
      .region [
        ⟨(some 6), none, .fieldAddr 1 (.t 1)⟩,
        ⟨(some 7), none, .load false 1 (.t 6)⟩]) (
     .block 0 (
      .seq (
       .seq (
        .region [
          ⟨(some 9), none, .bin .eql (.t 7) (.c (.int .i64 (2)))⟩,
          ⟨(some 8), none, .move (.t 9)⟩]) (
       .cond (.t 8) (
        .skip) (
        .seq (
         .region [
           ⟨(some 10), none, .bin .eql (.t 7) (.c (.int .i64 (3)))⟩,
           ⟨(some 8), none, .move (.t 10)⟩]) (
        .cond (.t 8) (
         .skip) (
         .region [
           ⟨(some 11), none, .bin .eql (.t 7) (.c (.int .i64 (4)))⟩,
           ⟨(some 8), none, .move (.t 11)⟩]))))) (
      .cond (.t 8) (
       .region [
         ⟨(some 12), none, .move (.t 3)⟩,
         ⟨(some 13), none, .fieldAddr 0 (.t 1)⟩,
         ⟨(some 14), none, .load false 1 (.t 13)⟩,
         ⟨(some 15), none, .fieldAddr 25 (.t 1)⟩,
         ⟨(some 16), none, .load false 1 (.t 15)⟩,
         ⟨(some 17), none, .build [.int .i64 (0), .str [], .str []] [(0, 1, .c (.int .i64 (8))), (1, 1, .t 14), (2, 1, .t 16)]⟩,
         ⟨(some 18), none, .fieldAddr 25 (.t 1)⟩,
         ⟨(some 19), none, .load false 1 (.t 18)⟩,
         ⟨(some 20), none, .fieldAddr 0 (.t 1)⟩,
         ⟨(some 21), none, .load false 1 (.t 20)⟩,
         ⟨(some 22), none, .build [.int .i64 (0), .str [], .str []] [(0, 1, .c (.int .i64 (6))), (1, 1, .t 19), (2, 1, .t 21)]⟩,
         ⟨(some 23), none, .buildSlice 3 2 (.agg [.int .i64 (0), .str [], .str []]) [(0, .t 17), (1, .t 22)]⟩,
         ⟨(some 24), none, .append 3 40 (.t 12) (.t 23)⟩,
         ⟨(some 3), none, .move (.t 24)⟩]) (
       .skip))))) (
    .seq (
     .block 1 (
      .seq (
       .region [
         ⟨(some 35), none, .fieldAddr 10 (.t 1)⟩,
         ⟨(some 36), none, .load false 1 (.t 35)⟩,
         ⟨(some 34), none, .move (.t 36)⟩]) (
      .cond (.t 34) (
       .skip) (
       .seq (
        .region [
          ⟨(some 38), none, .fieldAddr 1 (.t 1)⟩,
          ⟨(some 39), none, .load false 1 (.t 38)⟩,
          ⟨(some 40), none, .bin .eql (.t 39) (.c (.int .i64 (6)))⟩,
          ⟨(some 37), none, .move (.t 40)⟩]) (
       .cond (.t 37) (
        .seq (
         .region [
           ⟨(some 41), none, .fieldAddr 3 (.t 1)⟩,
           ⟨(some 42), none, .load false 1 (.t 41)⟩,
           ⟨(some 43), none, .fieldAddr 4 (.t 1)⟩,
           ⟨(some 44), none, .load false 1 (.t 43)⟩,
           ⟨(some 45), none, .buildSlice 1 2 (.nilSlice) [(0, .t 42), (1, .t 44)]⟩,
           ⟨(some 46), none, .call 120 [.t 45]⟩,
           ⟨(some 47), none, .lenSlice (.t 46)⟩,
           ⟨(some 48), none, .move (.c (.int .i64 (0)))⟩]) (
        .block 2 (
         .loop (
          .seq (
           .region [
             ⟨(some 49), none, .bin .lss (.t 48) (.t 47)⟩]) (
          .seq (
           .cond (.t 49) (
            .skip) (
            .exit 2)) (
          .seq (
           .block 3 (
            .seq (
             .region [
               ⟨(some 50), none, .indexAddr 1 (.t 46) (.t 48)⟩,
               ⟨(some 51), none, .load false 1 (.t 50)⟩,
               ⟨(some 5), none, .move (.t 51)⟩]) (
            .region [
              ⟨(some 52), none, .move (.t 3)⟩,
              ⟨(some 53), none, .fieldAddr 0 (.t 1)⟩,
              ⟨(some 54), none, .load false 1 (.t 53)⟩,
              ⟨(some 55), none, .move (.t 5)⟩,
              ⟨(some 56), none, .build [.int .i64 (0), .str [], .str []] [(0, 1, .c (.int .i64 (6))), (1, 1, .t 54), (2, 1, .t 55)]⟩,
              ⟨(some 57), none, .buildSlice 3 1 (.agg [.int .i64 (0), .str [], .str []]) [(0, .t 56)]⟩,
              ⟨(some 58), none, .append 3 40 (.t 52) (.t 57)⟩,
              ⟨(some 3), none, .move (.t 58)⟩]))) (
          .region [
            ⟨(some 59), none, .bin .add (.t 48) (.c (.int .i64 (1)))⟩,
            ⟨(some 48), none, .move (.t 59)⟩]))))))) (
        .region [
          ⟨(some 25), none, .move (.t 3)⟩,
          ⟨(some 26), none, .fieldAddr 0 (.t 1)⟩,
          ⟨(some 27), none, .load false 1 (.t 26)⟩,
          ⟨(some 28), none, .build [.int .i64 (0), .str [], .str []] [(0, 1, .c (.int .i64 (5))), (1, 1, .t 27), (2, 1, .c (.str [115, 104, 117, 116, 100, 111, 119, 110, 46, 116, 97, 114, 103, 101, 116]))]⟩,
          ⟨(some 29), none, .fieldAddr 0 (.t 1)⟩,
          ⟨(some 30), none, .load false 1 (.t 29)⟩,
          ⟨(some 31), none, .build [.int .i64 (0), .str [], .str []] [(0, 1, .c (.int .i64 (6))), (1, 1, .c (.str [115, 104, 117, 116, 100, 111, 119, 110, 46, 116, 97, 114, 103, 101, 116])), (2, 1, .t 30)]⟩,
          ⟨(some 32), none, .buildSlice 3 2 (.agg [.int .i64 (0), .str [], .str []]) [(0, .t 28), (1, .t 31)]⟩,
          ⟨(some 33), none, .append 3 40 (.t 25) (.t 32)⟩,
          ⟨(some 3), none, .move (.t 33)⟩])))))) (
    .seq (
     .region [
       ⟨(some 60), none, .move (.t 3)⟩,
       ⟨(some 2), none, .move (.t 60)⟩]) (
    .ret)))))

/-- slices.Values[[]reveille/api.Edge,reveille/api.Edge]$1 -/
def c104 : CFunc where
  nparams := 1
  ntmps := 16
  results := []
  body :=
    .seq (
     .region [
       ⟨(some 5), none, .load false 1 (.t 1)⟩,
       ⟨(some 6), none, .lenSlice (.t 5)⟩,
       ⟨(some 7), none, .move (.c (.int .i64 (0)))⟩]) (
    .block 0 (
     .loop (
      .seq (
       .region [
         ⟨(some 8), none, .bin .lss (.t 7) (.t 6)⟩]) (
      .seq (
       .cond (.t 8) (
        .skip) (
        .exit 0)) (
      .seq (
       .block 1 (
        .seq (
         .region [
           ⟨(some 9), none, .indexAddr 3 (.t 5) (.t 7)⟩,
           ⟨(some 10), none, .load true 3 (.t 9)⟩,
           ⟨(some 4), none, .alloc [.int .i64 (0), .str [], .str []]⟩,
           ⟨none, none, .store 3 (.t 4) (.t 10)⟩]) (
        .seq (
         .region [
           ⟨(some 11), none, .move (.t 0)⟩,
           ⟨(some 12), none, .load true 3 (.t 4)⟩,
           ⟨(some 13), none, .callv (.t 11) [.t 12]⟩,
           ⟨(some 14), none, .not (.t 13)⟩]) (
        .cond (.t 14) (
         .ret) (
         .skip))))) (
      .region [
        ⟨(some 15), none, .bin .add (.t 7) (.c (.int .i64 (1)))⟩,
        ⟨(some 7), none, .move (.t 15)⟩]))))))

/-- slices.Collect[reveille/api.Edge] -/
def c105 : CFunc where
  nparams := 1
  ntmps := 5
  results := [.tmp 2]
  body :=
    .seq (
     .region [
       ⟨(some 2), none, .move (.c (.nilSlice))⟩]) (
    .seq (
     .region [
       ⟨(some 3), none, .move (.t 0)⟩,
       ⟨(some 4), none, .call 121 [.c (.nilSlice), .t 3]⟩,
       ⟨(some 2), none, .move (.t 4)⟩]) (
    .ret))

/-- slices.SortFunc[[]reveille/api.Edge,reveille/api.Edge] -/
def c106 : CFunc where
  nparams := 2
  ntmps := 14
  results := []
  body :=
    .seq (
     .region [
       ⟨(some 5), none, .move (.t 0)⟩,
       ⟨(some 6), none, .lenSlice (.t 5)⟩,
       ⟨(some 4), none, .move (.t 6)⟩]) (
    .region [
      ⟨(some 7), none, .move (.t 0)⟩,
      ⟨(some 8), none, .move (.t 4)⟩,
      ⟨(some 9), none, .move (.t 4)⟩,
      ⟨(some 10), none, .conv .u64 (.t 9)⟩,
      ⟨(some 11), none, .call 37 [.t 10]⟩,
      ⟨(some 12), none, .move (.t 1)⟩,
      ⟨(some 13), none, .call 122 [.t 7, .c (.int .i64 (0)), .t 8, .t 11, .t 12]⟩])

/-- maps.Keys[map[reveille/api.Edge]struct{},reveille/api.Edge,struct{}]$1 -/
def c107 : CFunc where
  nparams := 1
  ntmps := 14
  results := []
  body :=
    .seq (
     .region [
       ⟨(some 4), none, .load false 1 (.t 1)⟩,
       ⟨(some 5), none, .bad⟩]) (
    .block 0 (
     .loop (
      .seq (
       .region [
         ⟨(some 6), none, .bad⟩,
         ⟨(some 7), none, .extract (.t 6) 0⟩]) (
      .seq (
       .cond (.t 7) (
        .skip) (
        .exit 0)) (
      .block 1 (
       .seq (
        .region [
          ⟨(some 8), none, .bad⟩,
          ⟨(some 9), none, .extract (.t 8) 0⟩,
          ⟨(some 3), none, .alloc [.int .i64 (0), .str [], .str []]⟩,
          ⟨none, none, .store 3 (.t 3) (.t 9)⟩]) (
       .seq (
        .region [
          ⟨(some 10), none, .move (.t 0)⟩,
          ⟨(some 11), none, .load true 3 (.t 3)⟩,
          ⟨(some 12), none, .callv (.t 10) [.t 11]⟩,
          ⟨(some 13), none, .not (.t 12)⟩]) (
       .cond (.t 13) (
        .ret) (
        .skip)))))))))

/-- cmp.isNaN[string] -/
def c108 : CFunc where
  nparams := 1
  ntmps := 6
  results := [.tmp 2]
  body :=
    .seq (
     .region [
       ⟨(some 2), none, .move (.c (.bool false))⟩]) (
    .seq (
     .region [
       ⟨(some 3), none, .move (.t 0)⟩,
       ⟨(some 4), none, .move (.t 0)⟩,
       ⟨(some 5), none, .bin .neq (.t 3) (.t 4)⟩,
       ⟨(some 2), none, .move (.t 5)⟩]) (
    .ret))

/-- internal/stringslite.Index -/
def c110 : CFunc where
  nparams := 2
  ntmps := 143
  results := [.tmp 4]
  body :=
    .seq (
     .region [
       ⟨(some 4), none, .move (.c (.int .i64 (0)))⟩]) (
    .seq (
     .region [
       ⟨(some 14), none, .move (.t 1)⟩,
       ⟨(some 15), none, .lenStr (.t 14)⟩,
       ⟨(some 5), none, .move (.t 15)⟩]) (
    .seq (
     .block 0 (
      .seq (
       .region [
         ⟨(some 17), none, .move (.t 5)⟩,
         ⟨(some 18), none, .bin .eql (.t 17) (.c (.int .i64 (0)))⟩,
         ⟨(some 19), none, .move (.t 18)⟩,
         ⟨(some 20), (some (19, false)), .move (.t 1)⟩,
         ⟨(some 21), (some (19, false)), .move (.t 0)⟩,
         ⟨(some 22), (some (19, false)), .bin .eql (.t 20) (.t 21)⟩,
         ⟨(some 23), none, .pick (.t 19) (.c (.bool true)) (.t 22)⟩,
         ⟨(some 16), none, .move (.t 23)⟩]) (
      .cond (.t 16) (
       .seq (
        .region [
          ⟨(some 4), none, .move (.c (.int .i64 (0)))⟩]) (
       .ret)) (
       .seq (
        .region [
          ⟨(some 25), none, .move (.t 5)⟩,
          ⟨(some 26), none, .bin .eql (.t 25) (.c (.int .i64 (1)))⟩,
          ⟨(some 24), none, .move (.t 26)⟩]) (
       .cond (.t 24) (
        .seq (
         .region [
           ⟨(some 27), none, .move (.t 0)⟩,
           ⟨(some 28), none, .move (.t 1)⟩,
           ⟨(some 29), none, .indexStr (.t 28) (.c (.int .i64 (0)))⟩,
           ⟨(some 30), none, .call 86 [.t 27, .t 29]⟩,
           ⟨(some 4), none, .move (.t 30)⟩]) (
        .ret)) (
        .seq (
         .region [
           ⟨(some 32), none, .move (.t 5)⟩,
           ⟨(some 33), none, .move (.t 0)⟩,
           ⟨(some 34), none, .lenStr (.t 33)⟩,
           ⟨(some 35), none, .bin .geq (.t 32) (.t 34)⟩,
           ⟨(some 31), none, .move (.t 35)⟩]) (
        .cond (.t 31) (
         .seq (
          .region [
            ⟨(some 4), none, .move (.c (.int .i64 (-1)))⟩]) (
         .ret)) (
         .seq (
          .region [
            ⟨(some 37), none, .move (.t 5)⟩,
            ⟨(some 38), none, .bad⟩,
            ⟨(some 39), none, .bin .leq (.t 37) (.t 38)⟩,
            ⟨(some 40), none, .move (.t 39)⟩,
            ⟨(some 41), (some (40, true)), .move (.t 0)⟩,
            ⟨(some 42), (some (40, true)), .lenStr (.t 41)⟩,
            ⟨(some 43), (some (40, true)), .bin .leq (.t 42) (.c (.int .i64 (64)))⟩,
            ⟨(some 44), none, .pick (.t 40) (.t 43) (.c (.bool false))⟩,
            ⟨(some 36), none, .move (.t 44)⟩]) (
         .cond (.t 36) (
          .seq (
           .region [
             ⟨(some 45), none, .move (.t 0)⟩,
             ⟨(some 46), none, .move (.t 1)⟩,
             ⟨(some 47), none, .call 123 [.t 45, .t 46]⟩,
             ⟨(some 4), none, .move (.t 47)⟩]) (
          .ret)) (
          .skip)))))))))) (
    .seq (
     .region [
       ⟨(some 48), none, .move (.t 1)⟩,
       ⟨(some 49), none, .indexStr (.t 48) (.c (.int .i64 (0)))⟩,
       ⟨(some 6), none, .move (.t 49)⟩]) (
    .seq (
     .region [
       ⟨(some 50), none, .move (.t 1)⟩,
       ⟨(some 51), none, .indexStr (.t 50) (.c (.int .i64 (1)))⟩,
       ⟨(some 7), none, .move (.t 51)⟩]) (
    .seq (
     .region [
       ⟨(some 8), none, .move (.c (.int .i64 (0)))⟩]) (
    .seq (
     .region [
       ⟨(some 52), none, .move (.t 0)⟩,
       ⟨(some 53), none, .lenStr (.t 52)⟩,
       ⟨(some 54), none, .move (.t 5)⟩,
       ⟨(some 55), none, .bin .sub (.t 53) (.t 54)⟩,
       ⟨(some 56), none, .bin .add (.t 55) (.c (.int .i64 (1)))⟩,
       ⟨(some 9), none, .move (.t 56)⟩]) (
    .seq (
     .region [
       ⟨(some 10), none, .move (.c (.int .i64 (0)))⟩]) (
    .seq (
     .block 1 (
      .loop (
       .seq (
        .seq (
         .region [
           ⟨(some 57), none, .move (.t 8)⟩,
           ⟨(some 58), none, .move (.t 9)⟩,
           ⟨(some 59), none, .bin .lss (.t 57) (.t 58)⟩]) (
        .cond (.t 59) (
         .skip) (
         .exit 1))) (
       .block 2 (
        .seq (
         .seq (
          .region [
            ⟨(some 60), none, .move (.t 0)⟩,
            ⟨(some 61), none, .move (.t 8)⟩,
            ⟨(some 62), none, .indexStr (.t 60) (.t 61)⟩,
            ⟨(some 63), none, .move (.t 6)⟩,
            ⟨(some 64), none, .bin .neq (.t 62) (.t 63)⟩]) (
         .cond (.t 64) (
          .seq (
           .region [
             ⟨(some 65), none, .move (.t 0)⟩,
             ⟨(some 66), none, .move (.t 8)⟩,
             ⟨(some 67), none, .bin .add (.t 66) (.c (.int .i64 (1)))⟩,
             ⟨(some 68), none, .move (.t 9)⟩,
             ⟨(some 69), none, .sliceStr (.t 65) (some (.t 67)) (some (.t 68))⟩,
             ⟨(some 70), none, .move (.t 6)⟩,
             ⟨(some 71), none, .call 86 [.t 69, .t 70]⟩,
             ⟨(some 11), none, .move (.t 71)⟩]) (
          .seq (
           .seq (
            .region [
              ⟨(some 72), none, .move (.t 11)⟩,
              ⟨(some 73), none, .bin .lss (.t 72) (.c (.int .i64 (0)))⟩]) (
           .cond (.t 73) (
            .seq (
             .region [
               ⟨(some 4), none, .move (.c (.int .i64 (-1)))⟩]) (
            .ret)) (
            .skip))) (
          .region [
            ⟨(some 74), none, .move (.t 8)⟩,
            ⟨(some 75), none, .move (.t 11)⟩,
            ⟨(some 76), none, .bin .add (.t 75) (.c (.int .i64 (1)))⟩,
            ⟨(some 77), none, .bin .add (.t 74) (.t 76)⟩,
            ⟨(some 8), none, .move (.t 77)⟩]))) (
          .skip))) (
        .seq (
         .seq (
          .region [
            ⟨(some 78), none, .move (.t 0)⟩,
            ⟨(some 79), none, .move (.t 8)⟩,
            ⟨(some 80), none, .bin .add (.t 79) (.c (.int .i64 (1)))⟩,
            ⟨(some 81), none, .indexStr (.t 78) (.t 80)⟩,
            ⟨(some 82), none, .move (.t 7)⟩,
            ⟨(some 83), none, .bin .eql (.t 81) (.t 82)⟩,
            ⟨(some 84), none, .move (.t 83)⟩,
            ⟨(some 85), (some (84, true)), .move (.t 0)⟩,
            ⟨(some 86), (some (84, true)), .move (.t 8)⟩,
            ⟨(some 87), (some (84, true)), .move (.t 8)⟩,
            ⟨(some 88), (some (84, true)), .move (.t 5)⟩,
            ⟨(some 89), (some (84, true)), .bin .add (.t 87) (.t 88)⟩,
            ⟨(some 90), (some (84, true)), .sliceStr (.t 85) (some (.t 86)) (some (.t 89))⟩,
            ⟨(some 91), (some (84, true)), .move (.t 1)⟩,
            ⟨(some 92), (some (84, true)), .bin .eql (.t 90) (.t 91)⟩,
            ⟨(some 93), none, .pick (.t 84) (.t 92) (.c (.bool false))⟩]) (
         .cond (.t 93) (
          .seq (
           .region [
             ⟨(some 94), none, .move (.t 8)⟩,
             ⟨(some 4), none, .move (.t 94)⟩]) (
          .ret)) (
          .skip))) (
        .seq (
         .region [
           ⟨(some 95), none, .move (.t 8)⟩,
           ⟨(some 96), none, .bin .add (.t 95) (.c (.int .i64 (1)))⟩,
           ⟨(some 8), none, .move (.t 96)⟩]) (
        .seq (
         .region [
           ⟨(some 97), none, .move (.t 10)⟩,
           ⟨(some 98), none, .bin .add (.t 97) (.c (.int .i64 (1)))⟩,
           ⟨(some 10), none, .move (.t 98)⟩]) (
        .seq (
         .region [
           ⟨(some 99), none, .move (.t 5)⟩,
           ⟨(some 100), none, .bad⟩,
           ⟨(some 101), none, .bin .leq (.t 99) (.t 100)⟩,
           ⟨(some 102), none, .move (.t 101)⟩,
           ⟨(some 103), (some (102, true)), .move (.t 10)⟩,
           ⟨(some 104), (some (102, true)), .move (.t 8)⟩,
           ⟨(some 105), (some (102, true)), .call 124 [.t 104]⟩,
           ⟨(some 106), (some (102, true)), .bin .gtr (.t 103) (.t 105)⟩,
           ⟨(some 107), none, .pick (.t 102) (.t 106) (.c (.bool false))⟩]) (
        .cond (.t 107) (
         .seq (
          .region [
            ⟨(some 108), none, .move (.t 0)⟩,
            ⟨(some 109), none, .move (.t 8)⟩,
            ⟨(some 110), none, .sliceStr (.t 108) (some (.t 109)) none⟩,
            ⟨(some 111), none, .move (.t 1)⟩,
            ⟨(some 112), none, .call 123 [.t 110, .t 111]⟩,
            ⟨(some 12), none, .move (.t 112)⟩]) (
         .seq (
          .seq (
           .region [
             ⟨(some 113), none, .move (.t 12)⟩,
             ⟨(some 114), none, .bin .geq (.t 113) (.c (.int .i64 (0)))⟩]) (
          .cond (.t 114) (
           .seq (
            .region [
              ⟨(some 115), none, .move (.t 12)⟩,
              ⟨(some 116), none, .move (.t 8)⟩,
              ⟨(some 117), none, .bin .add (.t 115) (.t 116)⟩,
              ⟨(some 4), none, .move (.t 117)⟩]) (
           .ret)) (
           .skip))) (
         .seq (
          .region [
            ⟨(some 4), none, .move (.c (.int .i64 (-1)))⟩]) (
         .ret)))) (
         .seq (
          .region [
            ⟨(some 118), none, .move (.t 5)⟩,
            ⟨(some 119), none, .bad⟩,
            ⟨(some 120), none, .bin .gtr (.t 118) (.t 119)⟩,
            ⟨(some 121), none, .move (.t 120)⟩,
            ⟨(some 122), (some (121, true)), .move (.t 10)⟩,
            ⟨(some 123), (some (121, true)), .move (.t 8)⟩,
            ⟨(some 124), (some (121, true)), .bin .shr (.t 123) (.c (.int .u64 (4)))⟩,
            ⟨(some 125), (some (121, true)), .bin .add (.c (.int .i64 (4))) (.t 124)⟩,
            ⟨(some 126), (some (121, true)), .bin .geq (.t 122) (.t 125)⟩,
            ⟨(some 127), none, .pick (.t 121) (.t 126) (.c (.bool false))⟩,
            ⟨(some 128), none, .move (.t 127)⟩,
            ⟨(some 129), (some (128, true)), .move (.t 8)⟩,
            ⟨(some 130), (some (128, true)), .move (.t 9)⟩,
            ⟨(some 131), (some (128, true)), .bin .lss (.t 129) (.t 130)⟩,
            ⟨(some 132), none, .pick (.t 128) (.t 131) (.c (.bool false))⟩]) (
         .cond (.t 132) (
          .seq (
           .region [
             ⟨(some 133), none, .move (.t 0)⟩,
             ⟨(some 134), none, .move (.t 8)⟩,
             ⟨(some 135), none, .sliceStr (.t 133) (some (.t 134)) none⟩,
             ⟨(some 136), none, .move (.t 1)⟩,
             ⟨(some 137), none, .call 125 [.t 135, .t 136]⟩,
             ⟨(some 13), none, .move (.t 137)⟩]) (
          .seq (
           .seq (
            .region [
              ⟨(some 138), none, .move (.t 13)⟩,
              ⟨(some 139), none, .bin .lss (.t 138) (.c (.int .i64 (0)))⟩]) (
           .cond (.t 139) (
            .seq (
             .region [
               ⟨(some 4), none, .move (.c (.int .i64 (-1)))⟩]) (
            .ret)) (
            .skip))) (
          .seq (
           .region [
             ⟨(some 140), none, .move (.t 8)⟩,
             ⟨(some 141), none, .move (.t 13)⟩,
             ⟨(some 142), none, .bin .add (.t 140) (.t 141)⟩,
             ⟨(some 4), none, .move (.t 142)⟩]) (
          .ret)))) (
          .skip))))))))))))) (
    .seq (
     .region [
       ⟨(some 4), none, .move (.c (.int .i64 (-1)))⟩]) (
    .ret))))))))))

/-- slices.IndexFunc[[]byte,byte] -/
def c112 : CFunc where
  nparams := 2
  ntmps := 19
  results := [.tmp 4]
  body :=
    .seq (
     .region [
       ⟨(some 4), none, .move (.c (.int .i64 (0)))⟩]) (
    .seq (
     .seq (
      .region [
        ⟨(some 6), none, .move (.t 0)⟩,
        ⟨(some 7), none, .lenSlice (.t 6)⟩,
        ⟨(some 8), none, .move (.c (.int .i64 (0)))⟩]) (
     .block 0 (
      .loop (
       .seq (
        .region [
          ⟨(some 9), none, .bin .lss (.t 8) (.t 7)⟩]) (
       .seq (
        .cond (.t 9) (
         .skip) (
         .exit 0)) (
       .seq (
        .block 1 (
         .seq (
          .region [
            ⟨(some 10), none, .move (.t 8)⟩,
            ⟨(some 5), none, .move (.t 10)⟩]) (
         .seq (
          .region [
            ⟨(some 11), none, .move (.t 1)⟩,
            ⟨(some 12), none, .move (.t 0)⟩,
            ⟨(some 13), none, .move (.t 5)⟩,
            ⟨(some 14), none, .indexAddr 1 (.t 12) (.t 13)⟩,
            ⟨(some 15), none, .load false 1 (.t 14)⟩,
            ⟨(some 16), none, .callv (.t 11) [.t 15]⟩]) (
         .cond (.t 16) (
          .seq (
           .region [
             ⟨(some 17), none, .move (.t 5)⟩,
             ⟨(some 4), none, .move (.t 17)⟩]) (
          .ret)) (
          .skip))))) (
       .region [
         ⟨(some 18), none, .bin .add (.t 8) (.c (.int .i64 (1)))⟩,
         ⟨(some 8), none, .move (.t 18)⟩]))))))) (
    .seq (
     .region [
       ⟨(some 4), none, .move (.c (.int .i64 (-1)))⟩]) (
    .ret)))

/-- (*reveille/graph.Graph).Units$1 -/
def c116 : CFunc where
  nparams := 1
  ntmps := 35
  results := []
  body :=
    .seq (
     .region [
       ⟨(some 7), none, .load false 1 (.t 1)⟩,
       ⟨(some 8), none, .nilCheck (.t 7)⟩,
       ⟨(some 9), none, .fieldAddr 0 (.t 8)⟩,
       ⟨(some 10), none, .load false 1 (.t 9)⟩,
       ⟨(some 11), none, .call 118 [.t 10]⟩,
       ⟨(some 12), none, .call 117 [.t 11]⟩,
       ⟨(some 13), none, .lenSlice (.t 12)⟩,
       ⟨(some 14), none, .move (.c (.int .i64 (0)))⟩]) (
    .block 0 (
     .loop (
      .seq (
       .region [
         ⟨(some 15), none, .bin .lss (.t 14) (.t 13)⟩]) (
      .seq (
       .cond (.t 15) (
        .skip) (
        .exit 0)) (
      .seq (
       .block 1 (
        .seq (
         .region [
           ⟨(some 16), none, .indexAddr 1 (.t 12) (.t 14)⟩,
           ⟨(some 17), none, .load false 1 (.t 16)⟩,
           ⟨(some 4), none, .move (.t 17)⟩]) (
        .seq (
         .region [
           ⟨(some 19), none, .load false 1 (.t 1)⟩,
           ⟨(some 20), none, .nilCheck (.t 19)⟩,
           ⟨(some 21), none, .fieldAddr 0 (.t 20)⟩,
           ⟨(some 22), none, .load false 1 (.t 21)⟩,
           ⟨(some 23), none, .move (.t 4)⟩,
           ⟨(some 24), none, .lookup (.one .str) (.agg [.str [], .int .i64 (0), .int .i64 (0), .nilSlice, .nilSlice, .nilSlice, .nilSlice, .nilSlice, .nilSlice, .nilSlice, .bool false, .int .i64 (0), .int .i64 (0), .int .i64 (0), .nilSlice, .nilSlice, .nilSlice, .int .i64 (0), .int .i64 (0), .int .i64 (0), .int .i64 (0), .int .i64 (0), .int .i64 (0), .bool false, .str [], .str [], .int .i64 (0), .int .i64 (0), .nilSlice, .nilSlice, .nilSlice, .str [], .str []]) (.t 22) (.t 23) true⟩,
           ⟨(some 18), none, .move (.t 24)⟩,
           ⟨(some 25), none, .extract (.t 18) 0⟩,
           ⟨(some 26), none, .extract (.t 18) 1⟩,
           ⟨(some 5), none, .alloc [.str [], .int .i64 (0), .int .i64 (0), .nilSlice, .nilSlice, .nilSlice, .nilSlice, .nilSlice, .nilSlice, .nilSlice, .bool false, .int .i64 (0), .int .i64 (0), .int .i64 (0), .nilSlice, .nilSlice, .nilSlice, .int .i64 (0), .int .i64 (0), .int .i64 (0), .int .i64 (0), .int .i64 (0), .int .i64 (0), .bool false, .str [], .str [], .int .i64 (0), .int .i64 (0), .nilSlice, .nilSlice, .nilSlice, .str [], .str []]⟩,
           ⟨none, none, .store 33 (.t 5) (.t 25)⟩,
           ⟨(some 6), none, .move (.t 26)⟩]) (
        .seq (
         .region [
           ⟨(some 27), none, .move (.t 6)⟩,
           ⟨(some 28), none, .move (.t 27)⟩,
           ⟨(some 29), (some (28, true)), .move (.t 0)⟩,
           ⟨(some 30), (some (28, true)), .load true 33 (.t 5)⟩,
           ⟨(some 31), (some (28, true)), .callv (.t 29) [.t 30]⟩,
           ⟨(some 32), (some (28, true)), .not (.t 31)⟩,
           ⟨(some 33), none, .pick (.t 28) (.t 32) (.c (.bool false))⟩]) (
        .cond (.t 33) (
         .ret) (
         .skip)))))) (
      .region [
        ⟨(some 34), none, .bin .add (.t 14) (.c (.int .i64 (1)))⟩,
        ⟨(some 14), none, .move (.t 34)⟩]))))))

/-- slices.Sorted[string] -/
def c117 : CFunc where
  nparams := 1
  ntmps := 9
  results := [.tmp 2]
  body :=
    .seq (
     .region [
       ⟨(some 2), none, .move (.c (.nilSlice))⟩]) (
    .seq (
     .region [
       ⟨(some 4), none, .move (.t 0)⟩,
       ⟨(some 5), none, .call 127 [.t 4]⟩,
       ⟨(some 3), none, .move (.t 5)⟩]) (
    .seq (
     .region [
       ⟨(some 6), none, .move (.t 3)⟩,
       ⟨(some 7), none, .call 128 [.t 6]⟩]) (
    .seq (
     .region [
       ⟨(some 8), none, .move (.t 3)⟩,
       ⟨(some 2), none, .move (.t 8)⟩]) (
    .ret))))

/-- maps.Keys[map[string]reveille/api.Unit,string,reveille/api.Unit] -/
def c118 : CFunc where
  nparams := 1
  ntmps := 4
  results := [.tmp 2]
  body :=
    .seq (
     .region [
       ⟨(some 1), none, .box (.t 0)⟩,
       ⟨(some 2), none, .move (.c (.nilFunc))⟩]) (
    .seq (
     .region [
       ⟨(some 3), none, .makeFunc 129 [] [.t 1]⟩,
       ⟨(some 2), none, .move (.t 3)⟩]) (
    .ret))

/-- reveille/graph.relations$1 -/
def c119 : CFunc where
  nparams := 1
  ntmps := 47
  results := []
  body :=
    .seq (
     .seq (
      .region [
        ⟨(some 10), none, .load true 12 (.t 1)⟩,
        ⟨(some 11), none, .move (.c (.int .i64 (0)))⟩]) (
     .block 0 (
      .loop (
       .seq (
        .region [
          ⟨(some 12), none, .bin .lss (.t 11) (.c (.int .i64 (6)))⟩]) (
       .seq (
        .cond (.t 12) (
         .skip) (
         .exit 0)) (
       .seq (
        .block 1 (
         .seq (
          .region [
            ⟨(some 13), none, .indexAgg 6 2 true (.t 10) (.t 11)⟩,
            ⟨(some 5), none, .alloc [.int .i64 (0), .nilSlice]⟩,
            ⟨none, none, .store 2 (.t 5) (.t 13)⟩]) (
         .seq (
          .region [
            ⟨(some 14), none, .fieldAddr 1 (.t 5)⟩,
            ⟨(some 15), none, .load false 1 (.t 14)⟩,
            ⟨(some 16), none, .lenSlice (.t 15)⟩,
            ⟨(some 17), none, .move (.c (.int .i64 (0)))⟩]) (
         .block 2 (
          .loop (
           .seq (
            .region [
              ⟨(some 18), none, .bin .lss (.t 17) (.t 16)⟩]) (
           .seq (
            .cond (.t 18) (
             .skip) (
             .exit 2)) (
           .seq (
            .block 3 (
             .seq (
              .region [
                ⟨(some 19), none, .indexAddr 1 (.t 15) (.t 17)⟩,
                ⟨(some 20), none, .load false 1 (.t 19)⟩,
                ⟨(some 7), none, .move (.t 20)⟩]) (
             .seq (
              .region [
                ⟨(some 21), none, .move (.t 0)⟩,
                ⟨(some 22), none, .fieldAddr 0 (.t 5)⟩,
                ⟨(some 23), none, .load false 1 (.t 22)⟩,
                ⟨(some 24), none, .fieldAddr 0 (.t 2)⟩,
                ⟨(some 25), none, .load false 1 (.t 24)⟩,
                ⟨(some 26), none, .move (.t 7)⟩,
                ⟨(some 27), none, .build [.int .i64 (0), .str [], .str []] [(0, 1, .t 23), (1, 1, .t 25), (2, 1, .t 26)]⟩,
                ⟨(some 28), none, .callv (.t 21) [.t 27]⟩,
                ⟨(some 29), none, .not (.t 28)⟩]) (
             .cond (.t 29) (
              .ret) (
              .skip))))) (
           .region [
             ⟨(some 30), none, .bin .add (.t 17) (.c (.int .i64 (1)))⟩,
             ⟨(some 17), none, .move (.t 30)⟩]))))))))) (
       .region [
         ⟨(some 31), none, .bin .add (.t 11) (.c (.int .i64 (1)))⟩,
         ⟨(some 11), none, .move (.t 31)⟩]))))))) (
    .seq (
     .region [
       ⟨(some 32), none, .fieldAddr 9 (.t 2)⟩,
       ⟨(some 33), none, .load false 1 (.t 32)⟩,
       ⟨(some 34), none, .lenSlice (.t 33)⟩,
       ⟨(some 35), none, .move (.c (.int .i64 (0)))⟩]) (
    .block 4 (
     .loop (
      .seq (
       .region [
         ⟨(some 36), none, .bin .lss (.t 35) (.t 34)⟩]) (
      .seq (
       .cond (.t 36) (
        .skip) (
        .exit 4)) (
      .seq (
       .block 5 (
        .seq (
         .region [
           ⟨(some 37), none, .indexAddr 1 (.t 33) (.t 35)⟩,
           ⟨(some 38), none, .load false 1 (.t 37)⟩,
           ⟨(some 9), none, .move (.t 38)⟩]) (
        .seq (
         .region [
           ⟨(some 39), none, .move (.t 0)⟩,
           ⟨(some 40), none, .move (.t 9)⟩,
           ⟨(some 41), none, .fieldAddr 0 (.t 2)⟩,
           ⟨(some 42), none, .load false 1 (.t 41)⟩,
           ⟨(some 43), none, .build [.int .i64 (0), .str [], .str []] [(0, 1, .c (.int .i64 (6))), (1, 1, .t 40), (2, 1, .t 42)]⟩,
           ⟨(some 44), none, .callv (.t 39) [.t 43]⟩,
           ⟨(some 45), none, .not (.t 44)⟩]) (
        .cond (.t 45) (
         .ret) (
         .skip))))) (
      .region [
        ⟨(some 46), none, .bin .add (.t 35) (.c (.int .i64 (1)))⟩,
        ⟨(some 35), none, .move (.t 46)⟩])))))))

/-- slices.Concat[[]string,string] -/
def c120 : CFunc where
  nparams := 1
  ntmps := 36
  results := [.tmp 2]
  body :=
    .seq (
     .region [
       ⟨(some 2), none, .move (.c (.nilSlice))⟩]) (
    .seq (
     .region [
       ⟨(some 3), none, .move (.c (.int .i64 (0)))⟩]) (
    .seq (
     .seq (
      .region [
        ⟨(some 9), none, .move (.t 0)⟩,
        ⟨(some 10), none, .lenSlice (.t 9)⟩,
        ⟨(some 11), none, .move (.c (.int .i64 (0)))⟩]) (
     .block 0 (
      .loop (
       .seq (
        .region [
          ⟨(some 12), none, .bin .lss (.t 11) (.t 10)⟩]) (
       .seq (
        .cond (.t 12) (
         .skip) (
         .exit 0)) (
       .seq (
        .block 1 (
         .seq (
          .region [
            ⟨(some 13), none, .indexAddr 1 (.t 9) (.t 11)⟩,
            ⟨(some 14), none, .load false 1 (.t 13)⟩,
            ⟨(some 5), none, .move (.t 14)⟩]) (
         .seq (
          .region [
            ⟨(some 15), none, .move (.t 3)⟩,
            ⟨(some 16), none, .move (.t 5)⟩,
            ⟨(some 17), none, .lenSlice (.t 16)⟩,
            ⟨(some 18), none, .bin .add (.t 15) (.t 17)⟩,
            ⟨(some 3), none, .move (.t 18)⟩]) (
         .seq (
          .region [
            ⟨(some 19), none, .move (.t 3)⟩,
            ⟨(some 20), none, .bin .lss (.t 19) (.c (.int .i64 (0)))⟩]) (
         .cond (.t 20) (
          .region [
            ⟨(some 21), none, .bad⟩,
            ⟨none, none, .bad⟩]) (
          .skip)))))) (
       .region [
         ⟨(some 22), none, .bin .add (.t 11) (.c (.int .i64 (1)))⟩,
         ⟨(some 11), none, .move (.t 22)⟩]))))))) (
    .seq (
     .region [
       ⟨(some 23), none, .move (.t 3)⟩,
       ⟨(some 24), none, .call 130 [.c (.nilSlice), .t 23]⟩,
       ⟨(some 6), none, .move (.t 24)⟩]) (
    .seq (
     .seq (
      .region [
        ⟨(some 25), none, .move (.t 0)⟩,
        ⟨(some 26), none, .lenSlice (.t 25)⟩,
        ⟨(some 27), none, .move (.c (.int .i64 (0)))⟩]) (
     .block 2 (
      .loop (
       .seq (
        .region [
          ⟨(some 28), none, .bin .lss (.t 27) (.t 26)⟩]) (
       .seq (
        .cond (.t 28) (
         .skip) (
         .exit 2)) (
       .seq (
        .block 3 (
         .seq (
          .region [
            ⟨(some 29), none, .indexAddr 1 (.t 25) (.t 27)⟩,
            ⟨(some 30), none, .load false 1 (.t 29)⟩,
            ⟨(some 8), none, .move (.t 30)⟩]) (
         .region [
           ⟨(some 31), none, .move (.t 6)⟩,
           ⟨(some 32), none, .move (.t 8)⟩,
           ⟨(some 33), none, .append 1 16 (.t 31) (.t 32)⟩,
           ⟨(some 6), none, .move (.t 33)⟩]))) (
       .region [
         ⟨(some 34), none, .bin .add (.t 27) (.c (.int .i64 (1)))⟩,
         ⟨(some 27), none, .move (.t 34)⟩]))))))) (
    .seq (
     .region [
       ⟨(some 35), none, .move (.t 6)⟩,
       ⟨(some 2), none, .move (.t 35)⟩]) (
    .ret))))))

/-- slices.AppendSeq[[]reveille/api.Edge,reveille/api.Edge] -/
def c121 : CFunc where
  nparams := 2
  ntmps := 13
  results := [.tmp 4]
  body :=
    .seq (
     .region [
       ⟨(some 2), none, .box (.t 0)⟩,
       ⟨(some 4), none, .move (.c (.nilSlice))⟩]) (
    .seq (
     .seq (
      .region [
        ⟨(some 6), none, .move (.t 1)⟩]) (
     .block 0 (
      .rangeFunc (.t 6) [7] (
       .region [
         ⟨(some 5), none, .alloc [.int .i64 (0), .str [], .str []]⟩,
         ⟨none, none, .store 3 (.t 5) (.t 7)⟩]) (
       .block 1 (
        .region [
          ⟨(some 8), none, .load false 1 (.t 2)⟩,
          ⟨(some 9), none, .load true 3 (.t 5)⟩,
          ⟨(some 10), none, .buildSlice 3 1 (.agg [.int .i64 (0), .str [], .str []]) [(0, .t 9)]⟩,
          ⟨(some 11), none, .append 3 40 (.t 8) (.t 10)⟩,
          ⟨none, none, .store 1 (.t 2) (.t 11)⟩]))))) (
    .seq (
     .region [
       ⟨(some 12), none, .load false 1 (.t 2)⟩,
       ⟨(some 4), none, .move (.t 12)⟩]) (
    .ret)))

/-- slices.pdqsortCmpFunc[reveille/api.Edge] -/
def c122 : CFunc where
  nparams := 5
  ntmps := 148
  results := []
  body :=
    .seq (
     .region [
       ⟨(some 10), none, .move (.c (.bool true))⟩]) (
    .seq (
     .region [
       ⟨(some 11), none, .move (.c (.bool true))⟩]) (
    .block 0 (
     .loop (
      .block 1 (
       .seq (
        .region [
          ⟨(some 21), none, .move (.t 2)⟩,
          ⟨(some 22), none, .move (.t 1)⟩,
          ⟨(some 23), none, .bin .sub (.t 21) (.t 22)⟩,
          ⟨(some 12), none, .move (.t 23)⟩]) (
       .seq (
        .seq (
         .region [
           ⟨(some 24), none, .move (.t 12)⟩,
           ⟨(some 25), none, .bin .leq (.t 24) (.c (.int .i64 (12)))⟩]) (
        .cond (.t 25) (
         .seq (
          .region [
            ⟨(some 26), none, .move (.t 0)⟩,
            ⟨(some 27), none, .move (.t 1)⟩,
            ⟨(some 28), none, .move (.t 2)⟩,
            ⟨(some 29), none, .move (.t 4)⟩,
            ⟨(some 30), none, .call 131 [.t 26, .t 27, .t 28, .t 29]⟩]) (
         .ret)) (
         .skip))) (
       .seq (
        .seq (
         .region [
           ⟨(some 31), none, .move (.t 3)⟩,
           ⟨(some 32), none, .bin .eql (.t 31) (.c (.int .i64 (0)))⟩]) (
        .cond (.t 32) (
         .seq (
          .region [
            ⟨(some 33), none, .move (.t 0)⟩,
            ⟨(some 34), none, .move (.t 1)⟩,
            ⟨(some 35), none, .move (.t 2)⟩,
            ⟨(some 36), none, .move (.t 4)⟩,
            ⟨(some 37), none, .call 132 [.t 33, .t 34, .t 35, .t 36]⟩]) (
         .ret)) (
         .skip))) (
       .seq (
        .seq (
         .region [
           ⟨(some 38), none, .move (.t 10)⟩,
           ⟨(some 39), none, .not (.t 38)⟩]) (
        .cond (.t 39) (
         .seq (
          .region [
            ⟨(some 40), none, .move (.t 0)⟩,
            ⟨(some 41), none, .move (.t 1)⟩,
            ⟨(some 42), none, .move (.t 2)⟩,
            ⟨(some 43), none, .move (.t 4)⟩,
            ⟨(some 44), none, .call 133 [.t 40, .t 41, .t 42, .t 43]⟩]) (
         .region [
           ⟨(some 45), none, .move (.t 3)⟩,
           ⟨(some 46), none, .bin .sub (.t 45) (.c (.int .i64 (1)))⟩,
           ⟨(some 3), none, .move (.t 46)⟩])) (
         .skip))) (
       .seq (
        .region [
          ⟨(some 48), none, .move (.t 0)⟩,
          ⟨(some 49), none, .move (.t 1)⟩,
          ⟨(some 50), none, .move (.t 2)⟩,
          ⟨(some 51), none, .move (.t 4)⟩,
          ⟨(some 52), none, .call 134 [.t 48, .t 49, .t 50, .t 51]⟩,
          ⟨(some 47), none, .move (.t 52)⟩,
          ⟨(some 53), none, .extract (.t 47) 0⟩,
          ⟨(some 54), none, .extract (.t 47) 1⟩,
          ⟨(some 13), none, .move (.t 53)⟩,
          ⟨(some 14), none, .move (.t 54)⟩]) (
       .seq (
        .seq (
         .region [
           ⟨(some 55), none, .move (.t 14)⟩,
           ⟨(some 56), none, .bin .eql (.t 55) (.c (.int .i64 (2)))⟩]) (
        .cond (.t 56) (
         .seq (
          .region [
            ⟨(some 57), none, .move (.t 0)⟩,
            ⟨(some 58), none, .move (.t 1)⟩,
            ⟨(some 59), none, .move (.t 2)⟩,
            ⟨(some 60), none, .move (.t 4)⟩,
            ⟨(some 61), none, .call 135 [.t 57, .t 58, .t 59, .t 60]⟩]) (
         .seq (
          .region [
            ⟨(some 62), none, .move (.t 2)⟩,
            ⟨(some 63), none, .bin .sub (.t 62) (.c (.int .i64 (1)))⟩,
            ⟨(some 64), none, .move (.t 13)⟩,
            ⟨(some 65), none, .move (.t 1)⟩,
            ⟨(some 66), none, .bin .sub (.t 64) (.t 65)⟩,
            ⟨(some 67), none, .bin .sub (.t 63) (.t 66)⟩,
            ⟨(some 13), none, .move (.t 67)⟩]) (
         .region [
           ⟨(some 14), none, .move (.c (.int .i64 (1)))⟩]))) (
         .skip))) (
       .seq (
        .seq (
         .region [
           ⟨(some 68), none, .move (.t 10)⟩,
           ⟨(some 69), none, .move (.t 68)⟩,
           ⟨(some 70), (some (69, true)), .move (.t 11)⟩,
           ⟨(some 71), none, .pick (.t 69) (.t 70) (.c (.bool false))⟩,
           ⟨(some 72), none, .move (.t 71)⟩,
           ⟨(some 73), (some (72, true)), .move (.t 14)⟩,
           ⟨(some 74), (some (72, true)), .bin .eql (.t 73) (.c (.int .i64 (1)))⟩,
           ⟨(some 75), none, .pick (.t 72) (.t 74) (.c (.bool false))⟩]) (
        .cond (.t 75) (
         .seq (
          .region [
            ⟨(some 76), none, .move (.t 0)⟩,
            ⟨(some 77), none, .move (.t 1)⟩,
            ⟨(some 78), none, .move (.t 2)⟩,
            ⟨(some 79), none, .move (.t 4)⟩,
            ⟨(some 80), none, .call 136 [.t 76, .t 77, .t 78, .t 79]⟩]) (
         .cond (.t 80) (
          .ret) (
          .skip))) (
         .skip))) (
       .seq (
        .seq (
         .regionD [
           (⟨(some 81), none, .move (.t 1)⟩, []),
           (⟨(some 82), none, .bin .gtr (.t 81) (.c (.int .i64 (0)))⟩, [0]),
           (⟨(some 83), none, .move (.t 82)⟩, [1]),
           (⟨(some 84), (some (83, true)), .move (.t 4)⟩, [2]),
           (⟨(some 85), (some (83, true)), .move (.t 0)⟩, [2]),
           (⟨(some 86), (some (83, true)), .move (.t 1)⟩, [2]),
           (⟨(some 87), (some (83, true)), .bin .sub (.t 86) (.c (.int .i64 (1)))⟩, [5, 2]),
           (⟨(some 88), (some (83, true)), .indexAddr 3 (.t 85) (.t 87)⟩, [4, 6, 2]),
           (⟨(some 89), (some (83, true)), .load true 3 (.t 88)⟩, [7, 2]),
           (⟨(some 90), (some (83, true)), .move (.t 0)⟩, [2]),
           (⟨(some 91), (some (83, true)), .move (.t 13)⟩, [2]),
           (⟨(some 92), (some (83, true)), .indexAddr 3 (.t 90) (.t 91)⟩, [9, 10, 2]),
           (⟨(some 93), (some (83, true)), .load true 3 (.t 92)⟩, [11, 2]),
           (⟨(some 94), (some (83, true)), .callv (.t 84) [.t 89, .t 93]⟩, [3, 8, 12, 2, 2]),
           (⟨(some 95), (some (83, true)), .bin .lss (.t 94) (.c (.int .i64 (0)))⟩, [13, 2]),
           (⟨(some 96), (some (83, true)), .not (.t 95)⟩, [14, 2]),
           (⟨(some 97), none, .pick (.t 83) (.t 96) (.c (.bool false))⟩, [2, 15])]) (
        .cond (.t 97) (
         .seq (
          .region [
            ⟨(some 98), none, .move (.t 0)⟩,
            ⟨(some 99), none, .move (.t 1)⟩,
            ⟨(some 100), none, .move (.t 2)⟩,
            ⟨(some 101), none, .move (.t 13)⟩,
            ⟨(some 102), none, .move (.t 4)⟩,
            ⟨(some 103), none, .call 137 [.t 98, .t 99, .t 100, .t 101, .t 102]⟩,
            ⟨(some 15), none, .move (.t 103)⟩]) (
         .seq (
          .region [
            ⟨(some 104), none, .move (.t 15)⟩,
            ⟨(some 1), none, .move (.t 104)⟩]) (
         .exit 1))) (
         .skip))) (
       .seq (
        .region [
          ⟨(some 106), none, .move (.t 0)⟩,
          ⟨(some 107), none, .move (.t 1)⟩,
          ⟨(some 108), none, .move (.t 2)⟩,
          ⟨(some 109), none, .move (.t 13)⟩,
          ⟨(some 110), none, .move (.t 4)⟩,
          ⟨(some 111), none, .call 138 [.t 106, .t 107, .t 108, .t 109, .t 110]⟩,
          ⟨(some 105), none, .move (.t 111)⟩,
          ⟨(some 112), none, .extract (.t 105) 0⟩,
          ⟨(some 113), none, .extract (.t 105) 1⟩,
          ⟨(some 16), none, .move (.t 112)⟩,
          ⟨(some 17), none, .move (.t 113)⟩]) (
       .seq (
        .region [
          ⟨(some 114), none, .move (.t 17)⟩,
          ⟨(some 11), none, .move (.t 114)⟩]) (
       .seq (
        .region [
          ⟨(some 115), none, .move (.t 16)⟩,
          ⟨(some 116), none, .move (.t 1)⟩,
          ⟨(some 117), none, .bin .sub (.t 115) (.t 116)⟩,
          ⟨(some 118), none, .move (.t 2)⟩,
          ⟨(some 119), none, .move (.t 16)⟩,
          ⟨(some 120), none, .bin .sub (.t 118) (.t 119)⟩,
          ⟨(some 18), none, .move (.t 117)⟩,
          ⟨(some 19), none, .move (.t 120)⟩]) (
       .seq (
        .region [
          ⟨(some 121), none, .move (.t 12)⟩,
          ⟨(some 122), none, .bin .quo (.t 121) (.c (.int .i64 (8)))⟩,
          ⟨(some 20), none, .move (.t 122)⟩]) (
       .seq (
        .region [
          ⟨(some 123), none, .move (.t 18)⟩,
          ⟨(some 124), none, .move (.t 19)⟩,
          ⟨(some 125), none, .bin .lss (.t 123) (.t 124)⟩]) (
       .cond (.t 125) (
        .seq (
         .region [
           ⟨(some 126), none, .move (.t 18)⟩,
           ⟨(some 127), none, .move (.t 20)⟩,
           ⟨(some 128), none, .bin .geq (.t 126) (.t 127)⟩,
           ⟨(some 10), none, .move (.t 128)⟩]) (
        .seq (
         .region [
           ⟨(some 129), none, .move (.t 0)⟩,
           ⟨(some 130), none, .move (.t 1)⟩,
           ⟨(some 131), none, .move (.t 16)⟩,
           ⟨(some 132), none, .move (.t 3)⟩,
           ⟨(some 133), none, .move (.t 4)⟩,
           ⟨(some 134), none, .call 122 [.t 129, .t 130, .t 131, .t 132, .t 133]⟩]) (
        .region [
          ⟨(some 135), none, .move (.t 16)⟩,
          ⟨(some 136), none, .bin .add (.t 135) (.c (.int .i64 (1)))⟩,
          ⟨(some 1), none, .move (.t 136)⟩]))) (
        .seq (
         .region [
           ⟨(some 137), none, .move (.t 19)⟩,
           ⟨(some 138), none, .move (.t 20)⟩,
           ⟨(some 139), none, .bin .geq (.t 137) (.t 138)⟩,
           ⟨(some 10), none, .move (.t 139)⟩]) (
        .seq (
         .region [
           ⟨(some 140), none, .move (.t 0)⟩,
           ⟨(some 141), none, .move (.t 16)⟩,
           ⟨(some 142), none, .bin .add (.t 141) (.c (.int .i64 (1)))⟩,
           ⟨(some 143), none, .move (.t 2)⟩,
           ⟨(some 144), none, .move (.t 3)⟩,
           ⟨(some 145), none, .move (.t 4)⟩,
           ⟨(some 146), none, .call 122 [.t 140, .t 142, .t 143, .t 144, .t 145]⟩]) (
        .region [
          ⟨(some 147), none, .move (.t 16)⟩,
          ⟨(some 2), none, .move (.t 147)⟩])))))))))))))))))))))

/-- internal/bytealg.Cutover -/
def c124 : CFunc where
  nparams := 1
  ntmps := 6
  results := [.tmp 2]
  body :=
    .seq (
     .region [
       ⟨(some 2), none, .move (.c (.int .i64 (0)))⟩]) (
    .seq (
     .region [
       ⟨(some 3), none, .move (.t 0)⟩,
       ⟨(some 4), none, .bin .add (.t 3) (.c (.int .i64 (16)))⟩,
       ⟨(some 5), none, .bin .quo (.t 4) (.c (.int .i64 (8)))⟩,
       ⟨(some 2), none, .move (.t 5)⟩]) (
    .ret))

/-- internal/bytealg.IndexRabinKarp[string] -/
def c125 : CFunc where
  nparams := 2
  ntmps := 81
  results := [.tmp 4]
  body :=
    .seq (
     .region [
       ⟨(some 4), none, .move (.c (.int .i64 (0)))⟩]) (
    .seq (
     .region [
       ⟨(some 12), none, .move (.t 1)⟩,
       ⟨(some 13), none, .call 139 [.t 12]⟩,
       ⟨(some 11), none, .move (.t 13)⟩,
       ⟨(some 14), none, .extract (.t 11) 0⟩,
       ⟨(some 15), none, .extract (.t 11) 1⟩,
       ⟨(some 5), none, .move (.t 14)⟩,
       ⟨(some 6), none, .move (.t 15)⟩]) (
    .seq (
     .region [
       ⟨(some 16), none, .move (.t 1)⟩,
       ⟨(some 17), none, .lenStr (.t 16)⟩,
       ⟨(some 7), none, .move (.t 17)⟩]) (
    .seq (
     .region [
       ⟨(some 8), none, .move (.c (.int .u32 (0)))⟩]) (
    .seq (
     .seq (
      .region [
        ⟨(some 9), none, .move (.c (.int .i64 (0)))⟩]) (
     .block 0 (
      .loop (
       .seq (
        .seq (
         .region [
           ⟨(some 18), none, .move (.t 9)⟩,
           ⟨(some 19), none, .move (.t 7)⟩,
           ⟨(some 20), none, .bin .lss (.t 18) (.t 19)⟩]) (
        .cond (.t 20) (
         .skip) (
         .exit 0))) (
       .seq (
        .block 1 (
         .region [
           ⟨(some 23), none, .move (.t 8)⟩,
           ⟨(some 24), none, .bin .mul (.t 23) (.c (.int .u32 (16777619)))⟩,
           ⟨(some 25), none, .move (.t 0)⟩,
           ⟨(some 26), none, .move (.t 9)⟩,
           ⟨(some 27), none, .indexStr (.t 25) (.t 26)⟩,
           ⟨(some 28), none, .conv .u32 (.t 27)⟩,
           ⟨(some 29), none, .bin .add (.t 24) (.t 28)⟩,
           ⟨(some 8), none, .move (.t 29)⟩])) (
       .region [
         ⟨(some 21), none, .move (.t 9)⟩,
         ⟨(some 22), none, .bin .add (.t 21) (.c (.int .i64 (1)))⟩,
         ⟨(some 9), none, .move (.t 22)⟩])))))) (
    .seq (
     .seq (
      .region [
        ⟨(some 30), none, .move (.t 8)⟩,
        ⟨(some 31), none, .move (.t 5)⟩,
        ⟨(some 32), none, .bin .eql (.t 30) (.t 31)⟩,
        ⟨(some 33), none, .move (.t 32)⟩,
        ⟨(some 34), (some (33, true)), .move (.t 0)⟩,
        ⟨(some 35), (some (33, true)), .move (.t 7)⟩,
        ⟨(some 36), (some (33, true)), .sliceStr (.t 34) none (some (.t 35))⟩,
        ⟨(some 37), (some (33, true)), .move (.t 1)⟩,
        ⟨(some 38), (some (33, true)), .bin .eql (.t 36) (.t 37)⟩,
        ⟨(some 39), none, .pick (.t 33) (.t 38) (.c (.bool false))⟩]) (
     .cond (.t 39) (
      .seq (
       .region [
         ⟨(some 4), none, .move (.c (.int .i64 (0)))⟩]) (
      .ret)) (
      .skip))) (
    .seq (
     .seq (
      .region [
        ⟨(some 40), none, .move (.t 7)⟩,
        ⟨(some 10), none, .move (.t 40)⟩]) (
     .block 2 (
      .loop (
       .seq (
        .seq (
         .region [
           ⟨(some 41), none, .move (.t 10)⟩,
           ⟨(some 42), none, .move (.t 0)⟩,
           ⟨(some 43), none, .lenStr (.t 42)⟩,
           ⟨(some 44), none, .bin .lss (.t 41) (.t 43)⟩]) (
        .cond (.t 44) (
         .skip) (
         .exit 2))) (
       .block 3 (
        .seq (
         .region [
           ⟨(some 45), none, .move (.t 8)⟩,
           ⟨(some 46), none, .bin .mul (.t 45) (.c (.int .u32 (16777619)))⟩,
           ⟨(some 8), none, .move (.t 46)⟩]) (
        .seq (
         .region [
           ⟨(some 47), none, .move (.t 8)⟩,
           ⟨(some 48), none, .move (.t 0)⟩,
           ⟨(some 49), none, .move (.t 10)⟩,
           ⟨(some 50), none, .indexStr (.t 48) (.t 49)⟩,
           ⟨(some 51), none, .conv .u32 (.t 50)⟩,
           ⟨(some 52), none, .bin .add (.t 47) (.t 51)⟩,
           ⟨(some 8), none, .move (.t 52)⟩]) (
        .seq (
         .region [
           ⟨(some 53), none, .move (.t 8)⟩,
           ⟨(some 54), none, .move (.t 6)⟩,
           ⟨(some 55), none, .move (.t 0)⟩,
           ⟨(some 56), none, .move (.t 10)⟩,
           ⟨(some 57), none, .move (.t 7)⟩,
           ⟨(some 58), none, .bin .sub (.t 56) (.t 57)⟩,
           ⟨(some 59), none, .indexStr (.t 55) (.t 58)⟩,
           ⟨(some 60), none, .conv .u32 (.t 59)⟩,
           ⟨(some 61), none, .bin .mul (.t 54) (.t 60)⟩,
           ⟨(some 62), none, .bin .sub (.t 53) (.t 61)⟩,
           ⟨(some 8), none, .move (.t 62)⟩]) (
        .seq (
         .region [
           ⟨(some 63), none, .move (.t 10)⟩,
           ⟨(some 64), none, .bin .add (.t 63) (.c (.int .i64 (1)))⟩,
           ⟨(some 10), none, .move (.t 64)⟩]) (
        .seq (
         .region [
           ⟨(some 65), none, .move (.t 8)⟩,
           ⟨(some 66), none, .move (.t 5)⟩,
           ⟨(some 67), none, .bin .eql (.t 65) (.t 66)⟩,
           ⟨(some 68), none, .move (.t 67)⟩,
           ⟨(some 69), (some (68, true)), .move (.t 0)⟩,
           ⟨(some 70), (some (68, true)), .move (.t 10)⟩,
           ⟨(some 71), (some (68, true)), .move (.t 7)⟩,
           ⟨(some 72), (some (68, true)), .bin .sub (.t 70) (.t 71)⟩,
           ⟨(some 73), (some (68, true)), .move (.t 10)⟩,
           ⟨(some 74), (some (68, true)), .sliceStr (.t 69) (some (.t 72)) (some (.t 73))⟩,
           ⟨(some 75), (some (68, true)), .move (.t 1)⟩,
           ⟨(some 76), (some (68, true)), .bin .eql (.t 74) (.t 75)⟩,
           ⟨(some 77), none, .pick (.t 68) (.t 76) (.c (.bool false))⟩]) (
        .cond (.t 77) (
         .seq (
          .region [
            ⟨(some 78), none, .move (.t 10)⟩,
            ⟨(some 79), none, .move (.t 7)⟩,
            ⟨(some 80), none, .bin .sub (.t 78) (.t 79)⟩,
            ⟨(some 4), none, .move (.t 80)⟩]) (
         .ret)) (
         .skip)))))))))))) (
    .seq (
     .region [
       ⟨(some 4), none, .move (.c (.int .i64 (-1)))⟩]) (
    .ret))))))))

/-- slices.Collect[string] -/
def c127 : CFunc where
  nparams := 1
  ntmps := 5
  results := [.tmp 2]
  body :=
    .seq (
     .region [
       ⟨(some 2), none, .move (.c (.nilSlice))⟩]) (
    .seq (
     .region [
       ⟨(some 3), none, .move (.t 0)⟩,
       ⟨(some 4), none, .call 140 [.c (.nilSlice), .t 3]⟩,
       ⟨(some 2), none, .move (.t 4)⟩]) (
    .ret))

/-- slices.Sort[[]string,string] -/
def c128 : CFunc where
  nparams := 1
  ntmps := 11
  results := []
  body :=
    .seq (
     .region [
       ⟨(some 3), none, .move (.t 0)⟩,
       ⟨(some 4), none, .lenSlice (.t 3)⟩,
       ⟨(some 2), none, .move (.t 4)⟩]) (
    .region [
      ⟨(some 5), none, .move (.t 0)⟩,
      ⟨(some 6), none, .move (.t 2)⟩,
      ⟨(some 7), none, .move (.t 2)⟩,
      ⟨(some 8), none, .conv .u64 (.t 7)⟩,
      ⟨(some 9), none, .call 37 [.t 8]⟩,
      ⟨(some 10), none, .call 141 [.t 5, .c (.int .i64 (0)), .t 6, .t 9]⟩])

/-- maps.Keys[map[string]reveille/api.Unit,string,reveille/api.Unit]$1 -/
def c129 : CFunc where
  nparams := 1
  ntmps := 14
  results := []
  body :=
    .seq (
     .region [
       ⟨(some 4), none, .load false 1 (.t 1)⟩,
       ⟨(some 5), none, .bad⟩]) (
    .block 0 (
     .loop (
      .seq (
       .region [
         ⟨(some 6), none, .bad⟩,
         ⟨(some 7), none, .extract (.t 6) 0⟩]) (
      .seq (
       .cond (.t 7) (
        .skip) (
        .exit 0)) (
      .block 1 (
       .seq (
        .region [
          ⟨(some 8), none, .bad⟩,
          ⟨(some 9), none, .extract (.t 8) 0⟩,
          ⟨(some 3), none, .move (.t 9)⟩]) (
       .seq (
        .region [
          ⟨(some 10), none, .move (.t 0)⟩,
          ⟨(some 11), none, .move (.t 3)⟩,
          ⟨(some 12), none, .callv (.t 10) [.t 11]⟩,
          ⟨(some 13), none, .not (.t 12)⟩]) (
       .cond (.t 13) (
        .ret) (
        .skip)))))))))

/-- slices.Grow[[]string,string] -/
def c130 : CFunc where
  nparams := 2
  ntmps := 27
  results := [.tmp 4]
  body :=
    .seq (
     .region [
       ⟨(some 4), none, .move (.c (.nilSlice))⟩]) (
    .seq (
     .seq (
      .region [
        ⟨(some 5), none, .move (.t 1)⟩,
        ⟨(some 6), none, .bin .lss (.t 5) (.c (.int .i64 (0)))⟩]) (
     .cond (.t 6) (
      .region [
        ⟨(some 7), none, .bad⟩,
        ⟨none, none, .bad⟩]) (
      .skip))) (
    .seq (
     .seq (
      .region [
        ⟨(some 8), none, .move (.t 1)⟩,
        ⟨(some 9), none, .move (.t 0)⟩,
        ⟨(some 10), none, .bad⟩,
        ⟨(some 11), none, .move (.t 0)⟩,
        ⟨(some 12), none, .lenSlice (.t 11)⟩,
        ⟨(some 13), none, .bin .sub (.t 10) (.t 12)⟩,
        ⟨(some 14), none, .bin .sub (.t 8) (.t 13)⟩,
        ⟨(some 1), none, .move (.t 14)⟩]) (
     .seq (
      .region [
        ⟨(some 15), none, .move (.t 1)⟩,
        ⟨(some 16), none, .bin .gtr (.t 15) (.c (.int .i64 (0)))⟩]) (
     .cond (.t 16) (
      .region [
        ⟨(some 17), none, .move (.t 0)⟩,
        ⟨(some 18), none, .move (.t 0)⟩,
        ⟨(some 19), none, .bad⟩,
        ⟨(some 20), none, .sliceRow 1 (.t 17) none (some (.t 19))⟩,
        ⟨(some 21), none, .move (.t 1)⟩,
        ⟨(some 22), none, .bad⟩,
        ⟨(some 23), none, .move (.t 0)⟩,
        ⟨(some 24), none, .lenSlice (.t 23)⟩,
        ⟨(some 25), none, .sliceRow 1 (.t 22) none (some (.t 24))⟩,
        ⟨(some 0), none, .move (.t 25)⟩]) (
      .skip)))) (
    .seq (
     .region [
       ⟨(some 26), none, .move (.t 0)⟩,
       ⟨(some 4), none, .move (.t 26)⟩]) (
    .ret))))

/-- slices.insertionSortCmpFunc[reveille/api.Edge] -/
def c131 : CFunc where
  nparams := 4
  ntmps := 53
  results := []
  body :=
    .seq (
     .region [
       ⟨(some 10), none, .move (.t 1)⟩,
       ⟨(some 11), none, .bin .add (.t 10) (.c (.int .i64 (1)))⟩,
       ⟨(some 8), none, .move (.t 11)⟩]) (
    .block 0 (
     .loop (
      .seq (
       .seq (
        .region [
          ⟨(some 12), none, .move (.t 8)⟩,
          ⟨(some 13), none, .move (.t 2)⟩,
          ⟨(some 14), none, .bin .lss (.t 12) (.t 13)⟩]) (
       .cond (.t 14) (
        .skip) (
        .exit 0))) (
      .seq (
       .block 1 (
        .seq (
         .region [
           ⟨(some 17), none, .move (.t 8)⟩,
           ⟨(some 9), none, .move (.t 17)⟩]) (
        .block 2 (
         .loop (
          .seq (
           .seq (
            .regionD [
              (⟨(some 18), none, .move (.t 9)⟩, []),
              (⟨(some 19), none, .move (.t 1)⟩, []),
              (⟨(some 20), none, .bin .gtr (.t 18) (.t 19)⟩, [0, 1]),
              (⟨(some 21), none, .move (.t 20)⟩, [2]),
              (⟨(some 22), (some (21, true)), .move (.t 3)⟩, [3]),
              (⟨(some 23), (some (21, true)), .move (.t 0)⟩, [3]),
              (⟨(some 24), (some (21, true)), .move (.t 9)⟩, [3]),
              (⟨(some 25), (some (21, true)), .indexAddr 3 (.t 23) (.t 24)⟩, [5, 6, 3]),
              (⟨(some 26), (some (21, true)), .load true 3 (.t 25)⟩, [7, 3]),
              (⟨(some 27), (some (21, true)), .move (.t 0)⟩, [3]),
              (⟨(some 28), (some (21, true)), .move (.t 9)⟩, [3]),
              (⟨(some 29), (some (21, true)), .bin .sub (.t 28) (.c (.int .i64 (1)))⟩, [10, 3]),
              (⟨(some 30), (some (21, true)), .indexAddr 3 (.t 27) (.t 29)⟩, [9, 11, 3]),
              (⟨(some 31), (some (21, true)), .load true 3 (.t 30)⟩, [12, 3]),
              (⟨(some 32), (some (21, true)), .callv (.t 22) [.t 26, .t 31]⟩, [4, 8, 13, 3, 3]),
              (⟨(some 33), (some (21, true)), .bin .lss (.t 32) (.c (.int .i64 (0)))⟩, [14, 3]),
              (⟨(some 34), none, .pick (.t 21) (.t 33) (.c (.bool false))⟩, [3, 15])]) (
           .cond (.t 34) (
            .skip) (
            .exit 2))) (
          .seq (
           .block 3 (
            .regionD [
              (⟨(some 37), none, .move (.t 0)⟩, []),
              (⟨(some 38), none, .move (.t 9)⟩, []),
              (⟨(some 39), none, .move (.t 0)⟩, []),
              (⟨(some 40), none, .move (.t 9)⟩, []),
              (⟨(some 41), none, .bin .sub (.t 40) (.c (.int .i64 (1)))⟩, [3]),
              (⟨(some 42), none, .move (.t 0)⟩, []),
              (⟨(some 43), none, .move (.t 9)⟩, []),
              (⟨(some 44), none, .bin .sub (.t 43) (.c (.int .i64 (1)))⟩, [6]),
              (⟨(some 45), none, .indexAddr 3 (.t 42) (.t 44)⟩, [5, 7]),
              (⟨(some 46), none, .load true 3 (.t 45)⟩, [8]),
              (⟨(some 47), none, .move (.t 0)⟩, []),
              (⟨(some 48), none, .move (.t 9)⟩, []),
              (⟨(some 49), none, .indexAddr 3 (.t 47) (.t 48)⟩, [10, 11]),
              (⟨(some 50), none, .load true 3 (.t 49)⟩, [12]),
              (⟨(some 51), none, .indexAddr 3 (.t 37) (.t 38)⟩, [0, 1, 0, 1, 5, 6, 7, 8, 9, 13]),
              (⟨none, none, .store 3 (.t 51) (.t 46)⟩, [14, 9, 0, 1, 5, 6, 7, 8, 9, 13]),
              (⟨(some 52), none, .indexAddr 3 (.t 39) (.t 41)⟩, [2, 4, 0, 1, 2, 3, 4, 5, 6, 7, 8, 9, 10, 11, 12, 13, 14, 15]),
              (⟨none, none, .store 3 (.t 52) (.t 50)⟩, [16, 13, 15, 0, 1, 2, 3, 4, 5, 6, 7, 8, 9, 10, 11, 12, 13, 14, 15])])) (
          .region [
            ⟨(some 35), none, .move (.t 9)⟩,
            ⟨(some 36), none, .bin .sub (.t 35) (.c (.int .i64 (1)))⟩,
            ⟨(some 9), none, .move (.t 36)⟩]))))))) (
      .region [
        ⟨(some 15), none, .move (.t 8)⟩,
        ⟨(some 16), none, .bin .add (.t 15) (.c (.int .i64 (1)))⟩,
        ⟨(some 8), none, .move (.t 16)⟩])))))

/-- internal/bytealg.hashStr[string] -/
def c139 : CFunc where
  nparams := 1
  ntmps := 39
  results := [.tmp 2, .tmp 3]
  body :=
    .seq (
     .region [
       ⟨(some 2), none, .move (.c (.int .u32 (0)))⟩,
       ⟨(some 3), none, .move (.c (.int .u32 (0)))⟩]) (
    .seq (
     .region [
       ⟨(some 4), none, .move (.c (.int .u32 (0)))⟩]) (
    .seq (
     .seq (
      .region [
        ⟨(some 5), none, .move (.c (.int .i64 (0)))⟩]) (
     .block 0 (
      .loop (
       .seq (
        .seq (
         .region [
           ⟨(some 9), none, .move (.t 5)⟩,
           ⟨(some 10), none, .move (.t 0)⟩,
           ⟨(some 11), none, .lenStr (.t 10)⟩,
           ⟨(some 12), none, .bin .lss (.t 9) (.t 11)⟩]) (
        .cond (.t 12) (
         .skip) (
         .exit 0))) (
       .seq (
        .block 1 (
         .region [
           ⟨(some 15), none, .move (.t 4)⟩,
           ⟨(some 16), none, .bin .mul (.t 15) (.c (.int .u32 (16777619)))⟩,
           ⟨(some 17), none, .move (.t 0)⟩,
           ⟨(some 18), none, .move (.t 5)⟩,
           ⟨(some 19), none, .indexStr (.t 17) (.t 18)⟩,
           ⟨(some 20), none, .conv .u32 (.t 19)⟩,
           ⟨(some 21), none, .bin .add (.t 16) (.t 20)⟩,
           ⟨(some 4), none, .move (.t 21)⟩])) (
       .region [
         ⟨(some 13), none, .move (.t 5)⟩,
         ⟨(some 14), none, .bin .add (.t 13) (.c (.int .i64 (1)))⟩,
         ⟨(some 5), none, .move (.t 14)⟩])))))) (
    .seq (
     .region [
       ⟨(some 6), none, .move (.c (.int .u32 (1)))⟩,
       ⟨(some 7), none, .move (.c (.int .u32 (16777619)))⟩]) (
    .seq (
     .seq (
      .region [
        ⟨(some 22), none, .move (.t 0)⟩,
        ⟨(some 23), none, .lenStr (.t 22)⟩,
        ⟨(some 8), none, .move (.t 23)⟩]) (
     .block 2 (
      .loop (
       .seq (
        .seq (
         .region [
           ⟨(some 24), none, .move (.t 8)⟩,
           ⟨(some 25), none, .bin .gtr (.t 24) (.c (.int .i64 (0)))⟩]) (
        .cond (.t 25) (
         .skip) (
         .exit 2))) (
       .seq (
        .block 3 (
         .seq (
          .seq (
           .region [
             ⟨(some 28), none, .move (.t 8)⟩,
             ⟨(some 29), none, .bin .and (.t 28) (.c (.int .i64 (1)))⟩,
             ⟨(some 30), none, .bin .neq (.t 29) (.c (.int .i64 (0)))⟩]) (
          .cond (.t 30) (
           .region [
             ⟨(some 31), none, .move (.t 6)⟩,
             ⟨(some 32), none, .move (.t 7)⟩,
             ⟨(some 33), none, .bin .mul (.t 31) (.t 32)⟩,
             ⟨(some 6), none, .move (.t 33)⟩]) (
           .skip))) (
         .region [
           ⟨(some 34), none, .move (.t 7)⟩,
           ⟨(some 35), none, .move (.t 7)⟩,
           ⟨(some 36), none, .bin .mul (.t 34) (.t 35)⟩,
           ⟨(some 7), none, .move (.t 36)⟩]))) (
       .region [
         ⟨(some 26), none, .move (.t 8)⟩,
         ⟨(some 27), none, .bin .shr (.t 26) (.c (.int .u64 (1)))⟩,
         ⟨(some 8), none, .move (.t 27)⟩])))))) (
    .seq (
     .region [
       ⟨(some 37), none, .move (.t 4)⟩,
       ⟨(some 38), none, .move (.t 6)⟩,
       ⟨(some 2), none, .move (.t 37)⟩,
       ⟨(some 3), none, .move (.t 38)⟩]) (
    .ret))))))

/-- slices.AppendSeq[[]string,string] -/
def c140 : CFunc where
  nparams := 2
  ntmps := 13
  results := [.tmp 4]
  body :=
    .seq (
     .region [
       ⟨(some 2), none, .box (.t 0)⟩,
       ⟨(some 4), none, .move (.c (.nilSlice))⟩]) (
    .seq (
     .seq (
      .region [
        ⟨(some 6), none, .move (.t 1)⟩]) (
     .block 0 (
      .rangeFunc (.t 6) [7] (
       .region [
         ⟨(some 5), none, .move (.t 7)⟩]) (
       .block 1 (
        .region [
          ⟨(some 8), none, .load false 1 (.t 2)⟩,
          ⟨(some 9), none, .move (.t 5)⟩,
          ⟨(some 10), none, .buildSlice 1 1 (.str []) [(0, .t 9)]⟩,
          ⟨(some 11), none, .append 1 16 (.t 8) (.t 10)⟩,
          ⟨none, none, .store 1 (.t 2) (.t 11)⟩]))))) (
    .seq (
     .region [
       ⟨(some 12), none, .load false 1 (.t 2)⟩,
       ⟨(some 4), none, .move (.t 12)⟩]) (
    .ret)))

/-- slices.pdqsortOrdered[string] -/
def c141 : CFunc where
  nparams := 4
  ntmps := 134
  results := []
  body :=
    .seq (
     .region [
       ⟨(some 8), none, .move (.c (.bool true))⟩]) (
    .seq (
     .region [
       ⟨(some 9), none, .move (.c (.bool true))⟩]) (
    .block 0 (
     .loop (
      .block 1 (
       .seq (
        .region [
          ⟨(some 19), none, .move (.t 2)⟩,
          ⟨(some 20), none, .move (.t 1)⟩,
          ⟨(some 21), none, .bin .sub (.t 19) (.t 20)⟩,
          ⟨(some 10), none, .move (.t 21)⟩]) (
       .seq (
        .seq (
         .region [
           ⟨(some 22), none, .move (.t 10)⟩,
           ⟨(some 23), none, .bin .leq (.t 22) (.c (.int .i64 (12)))⟩]) (
        .cond (.t 23) (
         .seq (
          .region [
            ⟨(some 24), none, .move (.t 0)⟩,
            ⟨(some 25), none, .move (.t 1)⟩,
            ⟨(some 26), none, .move (.t 2)⟩,
            ⟨(some 27), none, .call 145 [.t 24, .t 25, .t 26]⟩]) (
         .ret)) (
         .skip))) (
       .seq (
        .seq (
         .region [
           ⟨(some 28), none, .move (.t 3)⟩,
           ⟨(some 29), none, .bin .eql (.t 28) (.c (.int .i64 (0)))⟩]) (
        .cond (.t 29) (
         .seq (
          .region [
            ⟨(some 30), none, .move (.t 0)⟩,
            ⟨(some 31), none, .move (.t 1)⟩,
            ⟨(some 32), none, .move (.t 2)⟩,
            ⟨(some 33), none, .call 146 [.t 30, .t 31, .t 32]⟩]) (
         .ret)) (
         .skip))) (
       .seq (
        .seq (
         .region [
           ⟨(some 34), none, .move (.t 8)⟩,
           ⟨(some 35), none, .not (.t 34)⟩]) (
        .cond (.t 35) (
         .seq (
          .region [
            ⟨(some 36), none, .move (.t 0)⟩,
            ⟨(some 37), none, .move (.t 1)⟩,
            ⟨(some 38), none, .move (.t 2)⟩,
            ⟨(some 39), none, .call 147 [.t 36, .t 37, .t 38]⟩]) (
         .region [
           ⟨(some 40), none, .move (.t 3)⟩,
           ⟨(some 41), none, .bin .sub (.t 40) (.c (.int .i64 (1)))⟩,
           ⟨(some 3), none, .move (.t 41)⟩])) (
         .skip))) (
       .seq (
        .region [
          ⟨(some 43), none, .move (.t 0)⟩,
          ⟨(some 44), none, .move (.t 1)⟩,
          ⟨(some 45), none, .move (.t 2)⟩,
          ⟨(some 46), none, .call 148 [.t 43, .t 44, .t 45]⟩,
          ⟨(some 42), none, .move (.t 46)⟩,
          ⟨(some 47), none, .extract (.t 42) 0⟩,
          ⟨(some 48), none, .extract (.t 42) 1⟩,
          ⟨(some 11), none, .move (.t 47)⟩,
          ⟨(some 12), none, .move (.t 48)⟩]) (
       .seq (
        .seq (
         .region [
           ⟨(some 49), none, .move (.t 12)⟩,
           ⟨(some 50), none, .bin .eql (.t 49) (.c (.int .i64 (2)))⟩]) (
        .cond (.t 50) (
         .seq (
          .region [
            ⟨(some 51), none, .move (.t 0)⟩,
            ⟨(some 52), none, .move (.t 1)⟩,
            ⟨(some 53), none, .move (.t 2)⟩,
            ⟨(some 54), none, .call 149 [.t 51, .t 52, .t 53]⟩]) (
         .seq (
          .region [
            ⟨(some 55), none, .move (.t 2)⟩,
            ⟨(some 56), none, .bin .sub (.t 55) (.c (.int .i64 (1)))⟩,
            ⟨(some 57), none, .move (.t 11)⟩,
            ⟨(some 58), none, .move (.t 1)⟩,
            ⟨(some 59), none, .bin .sub (.t 57) (.t 58)⟩,
            ⟨(some 60), none, .bin .sub (.t 56) (.t 59)⟩,
            ⟨(some 11), none, .move (.t 60)⟩]) (
         .region [
           ⟨(some 12), none, .move (.c (.int .i64 (1)))⟩]))) (
         .skip))) (
       .seq (
        .seq (
         .region [
           ⟨(some 61), none, .move (.t 8)⟩,
           ⟨(some 62), none, .move (.t 61)⟩,
           ⟨(some 63), (some (62, true)), .move (.t 9)⟩,
           ⟨(some 64), none, .pick (.t 62) (.t 63) (.c (.bool false))⟩,
           ⟨(some 65), none, .move (.t 64)⟩,
           ⟨(some 66), (some (65, true)), .move (.t 12)⟩,
           ⟨(some 67), (some (65, true)), .bin .eql (.t 66) (.c (.int .i64 (1)))⟩,
           ⟨(some 68), none, .pick (.t 65) (.t 67) (.c (.bool false))⟩]) (
        .cond (.t 68) (
         .seq (
          .region [
            ⟨(some 69), none, .move (.t 0)⟩,
            ⟨(some 70), none, .move (.t 1)⟩,
            ⟨(some 71), none, .move (.t 2)⟩,
            ⟨(some 72), none, .call 150 [.t 69, .t 70, .t 71]⟩]) (
         .cond (.t 72) (
          .ret) (
          .skip))) (
         .skip))) (
       .seq (
        .seq (
         .regionD [
           (⟨(some 73), none, .move (.t 1)⟩, []),
           (⟨(some 74), none, .bin .gtr (.t 73) (.c (.int .i64 (0)))⟩, [0]),
           (⟨(some 75), none, .move (.t 74)⟩, [1]),
           (⟨(some 76), (some (75, true)), .move (.t 0)⟩, [2]),
           (⟨(some 77), (some (75, true)), .move (.t 1)⟩, [2]),
           (⟨(some 78), (some (75, true)), .bin .sub (.t 77) (.c (.int .i64 (1)))⟩, [4, 2]),
           (⟨(some 79), (some (75, true)), .indexAddr 1 (.t 76) (.t 78)⟩, [3, 5, 2]),
           (⟨(some 80), (some (75, true)), .load false 1 (.t 79)⟩, [6, 2]),
           (⟨(some 81), (some (75, true)), .move (.t 0)⟩, [2]),
           (⟨(some 82), (some (75, true)), .move (.t 11)⟩, [2]),
           (⟨(some 83), (some (75, true)), .indexAddr 1 (.t 81) (.t 82)⟩, [8, 9, 2]),
           (⟨(some 84), (some (75, true)), .load false 1 (.t 83)⟩, [10, 2]),
           (⟨(some 85), (some (75, true)), .call 151 [.t 80, .t 84]⟩, [7, 11, 2, 2]),
           (⟨(some 86), (some (75, true)), .not (.t 85)⟩, [12, 2]),
           (⟨(some 87), none, .pick (.t 75) (.t 86) (.c (.bool false))⟩, [2, 13])]) (
        .cond (.t 87) (
         .seq (
          .region [
            ⟨(some 88), none, .move (.t 0)⟩,
            ⟨(some 89), none, .move (.t 1)⟩,
            ⟨(some 90), none, .move (.t 2)⟩,
            ⟨(some 91), none, .move (.t 11)⟩,
            ⟨(some 92), none, .call 152 [.t 88, .t 89, .t 90, .t 91]⟩,
            ⟨(some 13), none, .move (.t 92)⟩]) (
         .seq (
          .region [
            ⟨(some 93), none, .move (.t 13)⟩,
            ⟨(some 1), none, .move (.t 93)⟩]) (
         .exit 1))) (
         .skip))) (
       .seq (
        .region [
          ⟨(some 95), none, .move (.t 0)⟩,
          ⟨(some 96), none, .move (.t 1)⟩,
          ⟨(some 97), none, .move (.t 2)⟩,
          ⟨(some 98), none, .move (.t 11)⟩,
          ⟨(some 99), none, .call 153 [.t 95, .t 96, .t 97, .t 98]⟩,
          ⟨(some 94), none, .move (.t 99)⟩,
          ⟨(some 100), none, .extract (.t 94) 0⟩,
          ⟨(some 101), none, .extract (.t 94) 1⟩,
          ⟨(some 14), none, .move (.t 100)⟩,
          ⟨(some 15), none, .move (.t 101)⟩]) (
       .seq (
        .region [
          ⟨(some 102), none, .move (.t 15)⟩,
          ⟨(some 9), none, .move (.t 102)⟩]) (
       .seq (
        .region [
          ⟨(some 103), none, .move (.t 14)⟩,
          ⟨(some 104), none, .move (.t 1)⟩,
          ⟨(some 105), none, .bin .sub (.t 103) (.t 104)⟩,
          ⟨(some 106), none, .move (.t 2)⟩,
          ⟨(some 107), none, .move (.t 14)⟩,
          ⟨(some 108), none, .bin .sub (.t 106) (.t 107)⟩,
          ⟨(some 16), none, .move (.t 105)⟩,
          ⟨(some 17), none, .move (.t 108)⟩]) (
       .seq (
        .region [
          ⟨(some 109), none, .move (.t 10)⟩,
          ⟨(some 110), none, .bin .quo (.t 109) (.c (.int .i64 (8)))⟩,
          ⟨(some 18), none, .move (.t 110)⟩]) (
       .seq (
        .region [
          ⟨(some 111), none, .move (.t 16)⟩,
          ⟨(some 112), none, .move (.t 17)⟩,
          ⟨(some 113), none, .bin .lss (.t 111) (.t 112)⟩]) (
       .cond (.t 113) (
        .seq (
         .region [
           ⟨(some 114), none, .move (.t 16)⟩,
           ⟨(some 115), none, .move (.t 18)⟩,
           ⟨(some 116), none, .bin .geq (.t 114) (.t 115)⟩,
           ⟨(some 8), none, .move (.t 116)⟩]) (
        .seq (
         .region [
           ⟨(some 117), none, .move (.t 0)⟩,
           ⟨(some 118), none, .move (.t 1)⟩,
           ⟨(some 119), none, .move (.t 14)⟩,
           ⟨(some 120), none, .move (.t 3)⟩,
           ⟨(some 121), none, .call 141 [.t 117, .t 118, .t 119, .t 120]⟩]) (
        .region [
          ⟨(some 122), none, .move (.t 14)⟩,
          ⟨(some 123), none, .bin .add (.t 122) (.c (.int .i64 (1)))⟩,
          ⟨(some 1), none, .move (.t 123)⟩]))) (
        .seq (
         .region [
           ⟨(some 124), none, .move (.t 17)⟩,
           ⟨(some 125), none, .move (.t 18)⟩,
           ⟨(some 126), none, .bin .geq (.t 124) (.t 125)⟩,
           ⟨(some 8), none, .move (.t 126)⟩]) (
        .seq (
         .region [
           ⟨(some 127), none, .move (.t 0)⟩,
           ⟨(some 128), none, .move (.t 14)⟩,
           ⟨(some 129), none, .bin .add (.t 128) (.c (.int .i64 (1)))⟩,
           ⟨(some 130), none, .move (.t 2)⟩,
           ⟨(some 131), none, .move (.t 3)⟩,
           ⟨(some 132), none, .call 141 [.t 127, .t 129, .t 130, .t 131]⟩]) (
        .region [
          ⟨(some 133), none, .move (.t 14)⟩,
          ⟨(some 2), none, .move (.t 133)⟩])))))))))))))))))))))

/-- slices.insertionSortOrdered[string] -/
def c145 : CFunc where
  nparams := 3
  ntmps := 49
  results := []
  body :=
    .seq (
     .region [
       ⟨(some 8), none, .move (.t 1)⟩,
       ⟨(some 9), none, .bin .add (.t 8) (.c (.int .i64 (1)))⟩,
       ⟨(some 6), none, .move (.t 9)⟩]) (
    .block 0 (
     .loop (
      .seq (
       .seq (
        .region [
          ⟨(some 10), none, .move (.t 6)⟩,
          ⟨(some 11), none, .move (.t 2)⟩,
          ⟨(some 12), none, .bin .lss (.t 10) (.t 11)⟩]) (
       .cond (.t 12) (
        .skip) (
        .exit 0))) (
      .seq (
       .block 1 (
        .seq (
         .region [
           ⟨(some 15), none, .move (.t 6)⟩,
           ⟨(some 7), none, .move (.t 15)⟩]) (
        .block 2 (
         .loop (
          .seq (
           .seq (
            .regionD [
              (⟨(some 16), none, .move (.t 7)⟩, []),
              (⟨(some 17), none, .move (.t 1)⟩, []),
              (⟨(some 18), none, .bin .gtr (.t 16) (.t 17)⟩, [0, 1]),
              (⟨(some 19), none, .move (.t 18)⟩, [2]),
              (⟨(some 20), (some (19, true)), .move (.t 0)⟩, [3]),
              (⟨(some 21), (some (19, true)), .move (.t 7)⟩, [3]),
              (⟨(some 22), (some (19, true)), .indexAddr 1 (.t 20) (.t 21)⟩, [4, 5, 3]),
              (⟨(some 23), (some (19, true)), .load false 1 (.t 22)⟩, [6, 3]),
              (⟨(some 24), (some (19, true)), .move (.t 0)⟩, [3]),
              (⟨(some 25), (some (19, true)), .move (.t 7)⟩, [3]),
              (⟨(some 26), (some (19, true)), .bin .sub (.t 25) (.c (.int .i64 (1)))⟩, [9, 3]),
              (⟨(some 27), (some (19, true)), .indexAddr 1 (.t 24) (.t 26)⟩, [8, 10, 3]),
              (⟨(some 28), (some (19, true)), .load false 1 (.t 27)⟩, [11, 3]),
              (⟨(some 29), (some (19, true)), .call 151 [.t 23, .t 28]⟩, [7, 12, 3, 3]),
              (⟨(some 30), none, .pick (.t 19) (.t 29) (.c (.bool false))⟩, [3, 13])]) (
           .cond (.t 30) (
            .skip) (
            .exit 2))) (
          .seq (
           .block 3 (
            .regionD [
              (⟨(some 33), none, .move (.t 0)⟩, []),
              (⟨(some 34), none, .move (.t 7)⟩, []),
              (⟨(some 35), none, .move (.t 0)⟩, []),
              (⟨(some 36), none, .move (.t 7)⟩, []),
              (⟨(some 37), none, .bin .sub (.t 36) (.c (.int .i64 (1)))⟩, [3]),
              (⟨(some 38), none, .move (.t 0)⟩, []),
              (⟨(some 39), none, .move (.t 7)⟩, []),
              (⟨(some 40), none, .bin .sub (.t 39) (.c (.int .i64 (1)))⟩, [6]),
              (⟨(some 41), none, .indexAddr 1 (.t 38) (.t 40)⟩, [5, 7]),
              (⟨(some 42), none, .load false 1 (.t 41)⟩, [8]),
              (⟨(some 43), none, .move (.t 0)⟩, []),
              (⟨(some 44), none, .move (.t 7)⟩, []),
              (⟨(some 45), none, .indexAddr 1 (.t 43) (.t 44)⟩, [10, 11]),
              (⟨(some 46), none, .load false 1 (.t 45)⟩, [12]),
              (⟨(some 47), none, .indexAddr 1 (.t 33) (.t 34)⟩, [0, 1, 0, 1, 5, 6, 7, 8, 9, 13]),
              (⟨none, none, .store 1 (.t 47) (.t 42)⟩, [14, 9, 0, 1, 5, 6, 7, 8, 9, 13]),
              (⟨(some 48), none, .indexAddr 1 (.t 35) (.t 37)⟩, [2, 4, 0, 1, 2, 3, 4, 5, 6, 7, 8, 9, 10, 11, 12, 13, 14, 15]),
              (⟨none, none, .store 1 (.t 48) (.t 46)⟩, [16, 13, 15, 0, 1, 2, 3, 4, 5, 6, 7, 8, 9, 10, 11, 12, 13, 14, 15])])) (
          .region [
            ⟨(some 31), none, .move (.t 7)⟩,
            ⟨(some 32), none, .bin .sub (.t 31) (.c (.int .i64 (1)))⟩,
            ⟨(some 7), none, .move (.t 32)⟩]))))))) (
      .region [
        ⟨(some 13), none, .move (.t 6)⟩,
        ⟨(some 14), none, .bin .add (.t 13) (.c (.int .i64 (1)))⟩,
        ⟨(some 6), none, .move (.t 14)⟩])))))

/-- cmp.Less[string] -/
def c151 : CFunc where
  nparams := 2
  ntmps := 17
  results := [.tmp 4]
  body :=
    .seq (
     .region [
       ⟨(some 4), none, .move (.c (.bool false))⟩]) (
    .seq (
     .region [
       ⟨(some 5), none, .move (.t 0)⟩,
       ⟨(some 6), none, .call 108 [.t 5]⟩,
       ⟨(some 7), none, .move (.t 6)⟩,
       ⟨(some 8), (some (7, true)), .move (.t 1)⟩,
       ⟨(some 9), (some (7, true)), .call 108 [.t 8]⟩,
       ⟨(some 10), (some (7, true)), .not (.t 9)⟩,
       ⟨(some 11), none, .pick (.t 7) (.t 10) (.c (.bool false))⟩,
       ⟨(some 12), none, .move (.t 11)⟩,
       ⟨(some 13), (some (12, false)), .move (.t 0)⟩,
       ⟨(some 14), (some (12, false)), .move (.t 1)⟩,
       ⟨(some 15), (some (12, false)), .bin .lss (.t 13) (.t 14)⟩,
       ⟨(some 16), none, .pick (.t 12) (.c (.bool true)) (.t 15)⟩,
       ⟨(some 4), none, .move (.t 16)⟩]) (
    .ret))


end Go.Rv.Jt
