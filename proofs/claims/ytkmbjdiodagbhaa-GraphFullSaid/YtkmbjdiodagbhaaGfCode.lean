/-
  GfCode: the code of the functions that GraphFull reaches, turned (printed by a program).
-/
import Derived.Test.YtkmbjdiodagbhaaRvThree
set_option linter.unusedSimpArgs false
set_option linter.unusedVariables false
set_option linter.unusedSectionVars false

set_option maxRecDepth 20000
namespace Go.Rv.Gf

/-- reveille/reveillelaw15.GraphFull -/
def c3 : CFunc where
  nparams := 1
  ntmps := 80
  results := [.tmp 2]
  body :=
    .seq (
     .region [
       ⟨(some 2), none, .move (.c (.bool false))⟩]) (
    .seq (
     .seq (
      .region [
        ⟨(some 11), none, .call 7 []⟩,
        ⟨(some 12), none, .not (.t 11)⟩]) (
     .cond (.t 12) (
      .seq (
       .region [
         ⟨(some 2), none, .move (.c (.bool false))⟩]) (
      .ret)) (
      .skip))) (
    .seq (
     .region [
       ⟨(some 13), none, .call 8 []⟩,
       ⟨(some 3), none, .move (.t 13)⟩]) (
    .seq (
     .region [
       ⟨(some 4), none, .move (.c (.str [97, 98, 99, 100, 101, 102, 103, 104, 105, 106, 107, 108, 109, 110, 111, 112, 113, 114, 115, 116, 117, 118, 119, 120, 121, 122, 65, 66, 67, 68, 69, 70, 71, 72, 73, 74, 75, 76, 77, 78, 79, 80, 81, 82, 83, 84, 85, 86, 87, 88, 89, 90]))⟩]) (
    .seq (
     .region [
       ⟨(some 14), none, .move (.t 0)⟩,
       ⟨(some 15), none, .bin .rem (.t 14) (.c (.int .u8 (50)))⟩,
       ⟨(some 16), none, .conv .i64 (.t 15)⟩,
       ⟨(some 5), none, .move (.t 16)⟩]) (
    .seq (
     .seq (
      .region [
        ⟨(some 6), none, .move (.c (.int .i64 (0)))⟩]) (
     .block 0 (
      .loop (
       .seq (
        .seq (
         .region [
           ⟨(some 17), none, .move (.t 6)⟩,
           ⟨(some 18), none, .move (.t 5)⟩,
           ⟨(some 19), none, .bin .lss (.t 17) (.t 18)⟩]) (
        .cond (.t 19) (
         .skip) (
         .exit 0))) (
       .seq (
        .block 1 (
         .seq (
          .region [
            ⟨(some 22), none, .move (.t 3)⟩,
            ⟨(some 23), none, .move (.t 4)⟩,
            ⟨(some 24), none, .move (.t 6)⟩,
            ⟨(some 25), none, .move (.t 6)⟩,
            ⟨(some 26), none, .bin .add (.t 25) (.c (.int .i64 (1)))⟩,
            ⟨(some 27), none, .sliceStr (.t 23) (some (.t 24)) (some (.t 26))⟩,
            ⟨(some 28), none, .bin .add (.t 27) (.c (.str [46, 116, 97, 114, 103, 101, 116]))⟩,
            ⟨(some 29), none, .build [.str [], .int .i64 (0), .int .i64 (0), .nilSlice, .nilSlice, .nilSlice, .nilSlice, .nilSlice, .nilSlice, .nilSlice, .bool false, .int .i64 (0), .int .i64 (0), .int .i64 (0), .nilSlice, .nilSlice, .nilSlice, .int .i64 (0), .int .i64 (0), .int .i64 (0), .int .i64 (0), .int .i64 (0), .int .i64 (0), .bool false, .str [], .str [], .int .i64 (0), .int .i64 (0), .nilSlice, .nilSlice, .nilSlice, .str [], .str []] [(0, 1, .t 28), (1, 1, .c (.int .i64 (6)))]⟩,
            ⟨(some 30), none, .call 9 [.t 22, .t 29]⟩,
            ⟨(some 7), none, .move (.t 30)⟩]) (
         .seq (
          .region [
            ⟨(some 31), none, .move (.t 7)⟩,
            ⟨(some 32), none, .bin .eql (.t 31) (.c (.int .i64 (0)))⟩,
            ⟨(some 33), none, .move (.t 6)⟩,
            ⟨(some 34), none, .bin .lss (.t 33) (.c (.int .i64 (40)))⟩,
            ⟨(some 35), none, .binK .bool .neq (.t 32) (.t 34)⟩,
            ⟨(some 36), none, .move (.t 35)⟩,
            ⟨(some 37), (some (36, false)), .move (.t 7)⟩,
            ⟨(some 38), (some (36, false)), .bin .neq (.t 37) (.c (.int .i64 (0)))⟩,
            ⟨(some 39), (some (36, false)), .move (.t 38)⟩,
            ⟨(some 40), (some (39, true)), .move (.t 7)⟩,
            ⟨(some 41), (some (39, true)), .bin .neq (.t 40) (.c (.int .i64 (151)))⟩,
            ⟨(some 42), (some (36, false)), .pick (.t 39) (.t 41) (.c (.bool false))⟩,
            ⟨(some 43), none, .pick (.t 36) (.c (.bool true)) (.t 42)⟩]) (
         .cond (.t 43) (
          .seq (
           .region [
             ⟨(some 2), none, .move (.c (.bool false))⟩]) (
          .ret)) (
          .skip))))) (
       .region [
         ⟨(some 20), none, .move (.t 6)⟩,
         ⟨(some 21), none, .bin .add (.t 20) (.c (.int .i64 (1)))⟩,
         ⟨(some 6), none, .move (.t 21)⟩])))))) (
    .seq (
     .seq (
      .region [
        ⟨(some 44), none, .move (.t 5)⟩,
        ⟨(some 45), none, .bin .gtr (.t 44) (.c (.int .i64 (0)))⟩,
        ⟨(some 46), none, .move (.t 45)⟩,
        ⟨(some 47), (some (46, true)), .move (.t 3)⟩,
        ⟨(some 48), (some (46, true)), .build [.str [], .int .i64 (0), .int .i64 (0), .nilSlice, .nilSlice, .nilSlice, .nilSlice, .nilSlice, .nilSlice, .nilSlice, .bool false, .int .i64 (0), .int .i64 (0), .int .i64 (0), .nilSlice, .nilSlice, .nilSlice, .int .i64 (0), .int .i64 (0), .int .i64 (0), .int .i64 (0), .int .i64 (0), .int .i64 (0), .bool false, .str [], .str [], .int .i64 (0), .int .i64 (0), .nilSlice, .nilSlice, .nilSlice, .str [], .str []] [(0, 1, .c (.str [97, 46, 116, 97, 114, 103, 101, 116])), (1, 1, .c (.int .i64 (6))), (24, 1, .c (.str [110, 101, 119]))]⟩,
        ⟨(some 49), (some (46, true)), .call 9 [.t 47, .t 48]⟩,
        ⟨(some 50), (some (46, true)), .bin .neq (.t 49) (.c (.int .i64 (0)))⟩,
        ⟨(some 51), none, .pick (.t 46) (.t 50) (.c (.bool false))⟩]) (
     .cond (.t 51) (
      .seq (
       .region [
         ⟨(some 2), none, .move (.c (.bool false))⟩]) (
      .ret)) (
      .skip))) (
    .seq (
     .region [
       ⟨(some 53), none, .move (.t 3)⟩,
       ⟨(some 54), none, .call 10 [.t 53, .c (.str [97, 46, 116, 97, 114, 103, 101, 116])]⟩,
       ⟨(some 52), none, .move (.t 54)⟩,
       ⟨(some 55), none, .extract (.t 52) 0⟩,
       ⟨(some 56), none, .extract (.t 52) 1⟩,
       ⟨(some 8), none, .alloc [.str [], .int .i64 (0), .int .i64 (0), .nilSlice, .nilSlice, .nilSlice, .nilSlice, .nilSlice, .nilSlice, .nilSlice, .bool false, .int .i64 (0), .int .i64 (0), .int .i64 (0), .nilSlice, .nilSlice, .nilSlice, .int .i64 (0), .int .i64 (0), .int .i64 (0), .int .i64 (0), .int .i64 (0), .int .i64 (0), .bool false, .str [], .str [], .int .i64 (0), .int .i64 (0), .nilSlice, .nilSlice, .nilSlice, .str [], .str []]⟩,
       ⟨none, none, .store 33 (.t 8) (.t 55)⟩,
       ⟨(some 9), none, .move (.t 56)⟩]) (
    .seq (
     .region [
       ⟨(some 10), none, .alloc [.int .i64 (0)]⟩,
       ⟨none, none, .store 1 (.t 10) (.c (.int .i64 (0)))⟩]) (
    .seq (
     .region [
       ⟨(some 57), none, .move (.t 3)⟩,
       ⟨(some 58), none, .call 11 [.t 57]⟩,
       ⟨(some 59), none, .makeFunc 12 [] [.t 10]⟩,
       ⟨(some 60), none, .callv (.t 58) [.t 59]⟩]) (
    .seq (
     .region [
       ⟨(some 61), none, .load false 1 (.t 10)⟩,
       ⟨(some 62), none, .move (.t 5)⟩,
       ⟨(some 63), none, .min2 (.t 62) (.c (.int .i64 (40)))⟩,
       ⟨(some 64), none, .bin .eql (.t 61) (.t 63)⟩,
       ⟨(some 65), none, .move (.t 64)⟩,
       ⟨(some 66), (some (65, true)), .move (.t 9)⟩,
       ⟨(some 67), (some (65, true)), .move (.t 5)⟩,
       ⟨(some 68), (some (65, true)), .bin .gtr (.t 67) (.c (.int .i64 (0)))⟩,
       ⟨(some 69), (some (65, true)), .binK .bool .eql (.t 66) (.t 68)⟩,
       ⟨(some 70), none, .pick (.t 65) (.t 69) (.c (.bool false))⟩,
       ⟨(some 71), none, .move (.t 70)⟩,
       ⟨(some 72), (some (71, true)), .move (.t 9)⟩,
       ⟨(some 73), (some (71, true)), .not (.t 72)⟩,
       ⟨(some 74), (some (71, true)), .move (.t 73)⟩,
       ⟨(some 75), (some (74, false)), .fieldAddr 24 (.t 8)⟩,
       ⟨(some 76), (some (74, false)), .load false 1 (.t 75)⟩,
       ⟨(some 77), (some (74, false)), .bin .eql (.t 76) (.c (.str [110, 101, 119]))⟩,
       ⟨(some 78), (some (71, true)), .pick (.t 74) (.c (.bool true)) (.t 77)⟩,
       ⟨(some 79), none, .pick (.t 71) (.t 78) (.c (.bool false))⟩,
       ⟨(some 2), none, .move (.t 79)⟩]) (
    .ret)))))))))))

/-- reveille/reveillelaw15.known -/
def c7 : CFunc where
  nparams := 0
  ntmps := 24
  results := [.tmp 0]
  body :=
    .seq (
     .region [
       ⟨(some 0), none, .move (.c (.bool false))⟩]) (
    .seq (
     .region [
       ⟨(some 2), none, .call 8 []⟩,
       ⟨(some 1), none, .move (.t 2)⟩]) (
    .seq (
     .seq (
      .region [
        ⟨(some 3), none, .move (.t 1)⟩,
        ⟨(some 4), none, .binK .ptr .eql (.t 3) (.c (.nilPtr))⟩,
        ⟨(some 5), none, .move (.t 4)⟩,
        ⟨(some 6), (some (5, false)), .move (.t 1)⟩,
        ⟨(some 7), (some (5, false)), .buildSlice 1 1 (.str []) [(0, .c (.str [98, 46, 115, 101, 114, 118, 105, 99, 101]))]⟩,
        ⟨(some 8), (some (5, false)), .build [.str [], .int .i64 (0), .int .i64 (0), .nilSlice, .nilSlice, .nilSlice, .nilSlice, .nilSlice, .nilSlice, .nilSlice, .bool false, .int .i64 (0), .int .i64 (0), .int .i64 (0), .nilSlice, .nilSlice, .nilSlice, .int .i64 (0), .int .i64 (0), .int .i64 (0), .int .i64 (0), .int .i64 (0), .int .i64 (0), .bool false, .str [], .str [], .int .i64 (0), .int .i64 (0), .nilSlice, .nilSlice, .nilSlice, .str [], .str []] [(0, 1, .c (.str [97, 46, 115, 101, 114, 118, 105, 99, 101])), (1, 1, .c (.int .i64 (1))), (9, 1, .t 7), (10, 1, .c (.bool true))]⟩,
        ⟨(some 9), (some (5, false)), .call 9 [.t 6, .t 8]⟩,
        ⟨(some 10), (some (5, false)), .bin .neq (.t 9) (.c (.int .i64 (0)))⟩,
        ⟨(some 11), none, .pick (.t 5) (.c (.bool true)) (.t 10)⟩]) (
     .cond (.t 11) (
      .seq (
       .region [
         ⟨(some 0), none, .move (.c (.bool false))⟩]) (
      .ret)) (
      .skip))) (
    .seq (
     .region [
       ⟨(some 12), none, .move (.t 1)⟩,
       ⟨(some 13), none, .call 20 [.t 12, .c (.int .i64 (6)), .c (.str [98, 46, 115, 101, 114, 118, 105, 99, 101]), .c (.str [97, 46, 115, 101, 114, 118, 105, 99, 101])]⟩,
       ⟨(some 14), none, .move (.t 13)⟩,
       ⟨(some 15), (some (14, true)), .move (.t 1)⟩,
       ⟨(some 16), (some (14, true)), .call 20 [.t 15, .c (.int .i64 (6)), .c (.str [97, 46, 115, 101, 114, 118, 105, 99, 101]), .c (.str [98, 46, 115, 101, 114, 118, 105, 99, 101])]⟩,
       ⟨(some 17), (some (14, true)), .not (.t 16)⟩,
       ⟨(some 18), none, .pick (.t 14) (.t 17) (.c (.bool false))⟩,
       ⟨(some 19), none, .move (.t 18)⟩,
       ⟨(some 20), (some (19, true)), .move (.t 1)⟩,
       ⟨(some 21), (some (19, true)), .call 21 [.t 20, .c (.str [98, 46, 115, 101, 114, 118, 105, 99, 101])]⟩,
       ⟨(some 22), (some (19, true)), .bin .eql (.t 21) (.c (.int .i64 (150)))⟩,
       ⟨(some 23), none, .pick (.t 19) (.t 22) (.c (.bool false))⟩,
       ⟨(some 0), none, .move (.t 23)⟩]) (
    .ret))))

/-- reveille/graph.New -/
def c8 : CFunc where
  nparams := 0
  ntmps := 4
  results := [.tmp 0]
  body :=
    .seq (
     .region [
       ⟨(some 0), none, .move (.c (.nilPtr))⟩]) (
    .seq (
     .region [
       ⟨(some 1), none, .makeMap⟩,
       ⟨(some 2), none, .build [.nilMap] [(0, 1, .t 1)]⟩,
       ⟨(some 3), none, .box (.t 2)⟩,
       ⟨(some 0), none, .move (.t 3)⟩]) (
    .ret))

/-- (*reveille/graph.Graph).Add -/
def c9 : CFunc where
  nparams := 2
  ntmps := 40
  results := [.tmp 4]
  body :=
    .seq (
     .region [
       ⟨(some 3), none, .box (.t 1)⟩,
       ⟨(some 4), none, .move (.c (.int .i64 (0)))⟩]) (
    .seq (
     .regionD [
       (⟨(some 8), none, .move (.t 0)⟩, []),
       (⟨(some 9), none, .nilCheck (.t 8)⟩, [0]),
       (⟨(some 10), none, .fieldAddr 0 (.t 9)⟩, [1]),
       (⟨(some 11), none, .load false 1 (.t 10)⟩, [2]),
       (⟨(some 12), none, .fieldAddr 0 (.t 3)⟩, []),
       (⟨(some 13), none, .load false 1 (.t 12)⟩, [4]),
       (⟨(some 14), none, .lookup (.one .str) (.agg [.str [], .int .i64 (0), .int .i64 (0), .nilSlice, .nilSlice, .nilSlice, .nilSlice, .nilSlice, .nilSlice, .nilSlice, .bool false, .int .i64 (0), .int .i64 (0), .int .i64 (0), .nilSlice, .nilSlice, .nilSlice, .int .i64 (0), .int .i64 (0), .int .i64 (0), .int .i64 (0), .int .i64 (0), .int .i64 (0), .bool false, .str [], .str [], .int .i64 (0), .int .i64 (0), .nilSlice, .nilSlice, .nilSlice, .str [], .str []]) (.t 11) (.t 13) true⟩, [3, 5]),
       (⟨(some 7), none, .move (.t 14)⟩, [6]),
       (⟨(some 15), none, .extract (.t 7) 0⟩, [7]),
       (⟨(some 16), none, .extract (.t 7) 1⟩, [7]),
       (⟨(some 5), none, .alloc [.str [], .int .i64 (0), .int .i64 (0), .nilSlice, .nilSlice, .nilSlice, .nilSlice, .nilSlice, .nilSlice, .nilSlice, .bool false, .int .i64 (0), .int .i64 (0), .int .i64 (0), .nilSlice, .nilSlice, .nilSlice, .int .i64 (0), .int .i64 (0), .int .i64 (0), .int .i64 (0), .int .i64 (0), .int .i64 (0), .bool false, .str [], .str [], .int .i64 (0), .int .i64 (0), .nilSlice, .nilSlice, .nilSlice, .str [], .str []]⟩, []),
       (⟨none, none, .store 33 (.t 5) (.t 15)⟩, [10, 8, 0, 1, 2, 3, 4, 5, 6, 7, 8, 10]),
       (⟨(some 6), none, .move (.t 16)⟩, [9, 11, 0, 1, 2, 3, 4, 5, 6, 7, 8, 9, 10, 11])]) (
    .seq (
     .block 0 (
      .seq (
       .region [
         ⟨(some 18), none, .fieldAddr 0 (.t 3)⟩,
         ⟨(some 19), none, .load false 1 (.t 18)⟩,
         ⟨(some 20), none, .call 22 [.t 19]⟩,
         ⟨(some 21), none, .not (.t 20)⟩,
         ⟨(some 17), none, .move (.t 21)⟩]) (
      .cond (.t 17) (
       .seq (
        .region [
          ⟨(some 4), none, .move (.c (.int .i64 (150)))⟩]) (
       .ret)) (
       .seq (
        .region [
          ⟨(some 23), none, .move (.t 6)⟩,
          ⟨(some 24), none, .not (.t 23)⟩,
          ⟨(some 25), none, .move (.t 24)⟩,
          ⟨(some 26), (some (25, true)), .move (.t 0)⟩,
          ⟨(some 27), (some (25, true)), .nilCheck (.t 26)⟩,
          ⟨(some 28), (some (25, true)), .fieldAddr 0 (.t 27)⟩,
          ⟨(some 29), (some (25, true)), .load false 1 (.t 28)⟩,
          ⟨(some 30), (some (25, true)), .lenMap (.t 29)⟩,
          ⟨(some 31), (some (25, true)), .bin .geq (.t 30) (.c (.int .i64 (40)))⟩,
          ⟨(some 32), none, .pick (.t 25) (.t 31) (.c (.bool false))⟩,
          ⟨(some 22), none, .move (.t 32)⟩]) (
       .cond (.t 22) (
        .seq (
         .region [
           ⟨(some 4), none, .move (.c (.int .i64 (151)))⟩]) (
        .ret)) (
        .skip)))))) (
    .seq (
     .regionD [
       (⟨(some 33), none, .move (.t 0)⟩, []),
       (⟨(some 34), none, .nilCheck (.t 33)⟩, [0]),
       (⟨(some 35), none, .fieldAddr 0 (.t 34)⟩, [1]),
       (⟨(some 36), none, .load false 1 (.t 35)⟩, [2]),
       (⟨(some 37), none, .fieldAddr 0 (.t 3)⟩, []),
       (⟨(some 38), none, .load false 1 (.t 37)⟩, [4]),
       (⟨(some 39), none, .load true 33 (.t 3)⟩, []),
       (⟨none, none, .mapUpdate (.one .str) (.t 36) (.t 38) (.t 39)⟩, [3, 5, 6, 0, 1, 2, 3, 4, 5, 6])]) (
    .seq (
     .region [
       ⟨(some 4), none, .move (.c (.int .i64 (0)))⟩]) (
    .ret)))))

/-- (*reveille/graph.Graph).Unit -/
def c10 : CFunc where
  nparams := 2
  ntmps := 19
  results := [.cell 4 true 33, .tmp 5]
  body :=
    .seq (
     .region [
       ⟨(some 4), none, .alloc [.str [], .int .i64 (0), .int .i64 (0), .nilSlice, .nilSlice, .nilSlice, .nilSlice, .nilSlice, .nilSlice, .nilSlice, .bool false, .int .i64 (0), .int .i64 (0), .int .i64 (0), .nilSlice, .nilSlice, .nilSlice, .int .i64 (0), .int .i64 (0), .int .i64 (0), .int .i64 (0), .int .i64 (0), .int .i64 (0), .bool false, .str [], .str [], .int .i64 (0), .int .i64 (0), .nilSlice, .nilSlice, .nilSlice, .str [], .str []]⟩,
       ⟨(some 5), none, .move (.c (.bool false))⟩]) (
    .seq (
     .region [
       ⟨(some 9), none, .move (.t 0)⟩,
       ⟨(some 10), none, .nilCheck (.t 9)⟩,
       ⟨(some 11), none, .fieldAddr 0 (.t 10)⟩,
       ⟨(some 12), none, .load false 1 (.t 11)⟩,
       ⟨(some 13), none, .move (.t 1)⟩,
       ⟨(some 14), none, .lookup (.one .str) (.agg [.str [], .int .i64 (0), .int .i64 (0), .nilSlice, .nilSlice, .nilSlice, .nilSlice, .nilSlice, .nilSlice, .nilSlice, .bool false, .int .i64 (0), .int .i64 (0), .int .i64 (0), .nilSlice, .nilSlice, .nilSlice, .int .i64 (0), .int .i64 (0), .int .i64 (0), .int .i64 (0), .int .i64 (0), .int .i64 (0), .bool false, .str [], .str [], .int .i64 (0), .int .i64 (0), .nilSlice, .nilSlice, .nilSlice, .str [], .str []]) (.t 12) (.t 13) true⟩,
       ⟨(some 8), none, .move (.t 14)⟩,
       ⟨(some 15), none, .extract (.t 8) 0⟩,
       ⟨(some 16), none, .extract (.t 8) 1⟩,
       ⟨(some 6), none, .alloc [.str [], .int .i64 (0), .int .i64 (0), .nilSlice, .nilSlice, .nilSlice, .nilSlice, .nilSlice, .nilSlice, .nilSlice, .bool false, .int .i64 (0), .int .i64 (0), .int .i64 (0), .nilSlice, .nilSlice, .nilSlice, .int .i64 (0), .int .i64 (0), .int .i64 (0), .int .i64 (0), .int .i64 (0), .int .i64 (0), .bool false, .str [], .str [], .int .i64 (0), .int .i64 (0), .nilSlice, .nilSlice, .nilSlice, .str [], .str []]⟩,
       ⟨none, none, .store 33 (.t 6) (.t 15)⟩,
       ⟨(some 7), none, .move (.t 16)⟩]) (
    .seq (
     .region [
       ⟨(some 17), none, .load true 33 (.t 6)⟩,
       ⟨(some 18), none, .move (.t 7)⟩,
       ⟨none, none, .store 33 (.t 4) (.t 17)⟩,
       ⟨(some 5), none, .move (.t 18)⟩]) (
    .ret)))

/-- (*reveille/graph.Graph).Units -/
def c11 : CFunc where
  nparams := 1
  ntmps := 4
  results := [.tmp 2]
  body :=
    .seq (
     .region [
       ⟨(some 1), none, .box (.t 0)⟩,
       ⟨(some 2), none, .move (.c (.nilFunc))⟩]) (
    .seq (
     .region [
       ⟨(some 3), none, .makeFunc 23 [] [.t 1]⟩,
       ⟨(some 2), none, .move (.t 3)⟩]) (
    .ret))

/-- reveille/reveillelaw15.GraphFull$1 -/
def c12 : CFunc where
  nparams := 1
  ntmps := 8
  results := [.tmp 3]
  body :=
    .seq (
     .region [
       ⟨(some 2), none, .box (.t 0)⟩,
       ⟨(some 3), none, .move (.c (.bool false))⟩]) (
    .seq (
     .region [
       ⟨(some 4), none, .load false 1 (.t 1)⟩,
       ⟨(some 5), none, .bin .add (.t 4) (.c (.int .i64 (1)))⟩,
       ⟨none, none, .store 1 (.t 1) (.t 5)⟩]) (
    .seq (
     .region [
       ⟨(some 6), none, .load false 1 (.t 1)⟩,
       ⟨(some 7), none, .bin .lss (.t 6) (.c (.int .i64 (100)))⟩,
       ⟨(some 3), none, .move (.t 7)⟩]) (
    .ret)))

/-- (*reveille/graph.Graph).Has -/
def c20 : CFunc where
  nparams := 4
  ntmps := 23
  results := [.cell 8 false 1]
  body :=
    .seq (
     .region [
       ⟨(some 8), none, .alloc [.bool false]⟩]) (
    .seq (
     .region [
       ⟨(some 11), none, .move (.t 1)⟩,
       ⟨(some 12), none, .move (.t 2)⟩,
       ⟨(some 13), none, .move (.t 3)⟩,
       ⟨(some 14), none, .build [.int .i64 (0), .str [], .str []] [(0, 1, .t 11), (1, 1, .t 12), (2, 1, .t 13)]⟩,
       ⟨(some 9), none, .alloc [.int .i64 (0), .str [], .str []]⟩,
       ⟨none, none, .store 3 (.t 9) (.t 14)⟩]) (
    .seq (
     .seq (
      .region [
        ⟨(some 15), none, .move (.t 0)⟩,
        ⟨(some 16), none, .call 32 [.t 15]⟩]) (
     .block 0 (
      .rangeFunc (.t 16) [17] (
       .region [
         ⟨(some 10), none, .alloc [.int .i64 (0), .str [], .str []]⟩,
         ⟨none, none, .store 3 (.t 10) (.t 17)⟩]) (
       .block 1 (
        .seq (
         .region [
           ⟨(some 18), none, .load true 3 (.t 10)⟩,
           ⟨(some 19), none, .load true 3 (.t 9)⟩,
           ⟨(some 20), none, .eqAgg false [.int, .str, .str] (.t 18) (.t 19)⟩]) (
        .cond (.t 20) (
         .seq (
          .region [
            ⟨(some 21), none, .load true 3 (.t 9)⟩,
            ⟨(some 22), none, .call 33 [.t 21]⟩,
            ⟨none, none, .store 1 (.t 8) (.t 22)⟩]) (
         .ret)) (
         .skip))))))) (
    .seq (
     .region [
       ⟨none, none, .store 1 (.t 8) (.c (.bool false))⟩]) (
    .ret))))

/-- (*reveille/graph.Graph).Remove -/
def c21 : CFunc where
  nparams := 2
  ntmps := 23
  results := [.tmp 4]
  body :=
    .seq (
     .region [
       ⟨(some 4), none, .move (.c (.int .i64 (0)))⟩]) (
    .seq (
     .seq (
      .region [
        ⟨(some 8), none, .move (.t 0)⟩,
        ⟨(some 9), none, .nilCheck (.t 8)⟩,
        ⟨(some 10), none, .fieldAddr 0 (.t 9)⟩,
        ⟨(some 11), none, .load false 1 (.t 10)⟩,
        ⟨(some 12), none, .move (.t 1)⟩,
        ⟨(some 13), none, .lookup (.one .str) (.agg [.str [], .int .i64 (0), .int .i64 (0), .nilSlice, .nilSlice, .nilSlice, .nilSlice, .nilSlice, .nilSlice, .nilSlice, .bool false, .int .i64 (0), .int .i64 (0), .int .i64 (0), .nilSlice, .nilSlice, .nilSlice, .int .i64 (0), .int .i64 (0), .int .i64 (0), .int .i64 (0), .int .i64 (0), .int .i64 (0), .bool false, .str [], .str [], .int .i64 (0), .int .i64 (0), .nilSlice, .nilSlice, .nilSlice, .str [], .str []]) (.t 11) (.t 12) true⟩,
        ⟨(some 7), none, .move (.t 13)⟩,
        ⟨(some 14), none, .extract (.t 7) 0⟩,
        ⟨(some 15), none, .extract (.t 7) 1⟩,
        ⟨(some 5), none, .alloc [.str [], .int .i64 (0), .int .i64 (0), .nilSlice, .nilSlice, .nilSlice, .nilSlice, .nilSlice, .nilSlice, .nilSlice, .bool false, .int .i64 (0), .int .i64 (0), .int .i64 (0), .nilSlice, .nilSlice, .nilSlice, .int .i64 (0), .int .i64 (0), .int .i64 (0), .int .i64 (0), .int .i64 (0), .int .i64 (0), .bool false, .str [], .str [], .int .i64 (0), .int .i64 (0), .nilSlice, .nilSlice, .nilSlice, .str [], .str []]⟩,
        ⟨none, none, .store 33 (.t 5) (.t 14)⟩,
        ⟨(some 6), none, .move (.t 15)⟩]) (
     .seq (
      .region [
        ⟨(some 16), none, .move (.t 6)⟩,
        ⟨(some 17), none, .not (.t 16)⟩]) (
     .cond (.t 17) (
      .seq (
       .region [
         ⟨(some 4), none, .move (.c (.int .i64 (150)))⟩]) (
      .ret)) (
      .skip)))) (
    .seq (
     .region [
       ⟨(some 18), none, .move (.t 0)⟩,
       ⟨(some 19), none, .nilCheck (.t 18)⟩,
       ⟨(some 20), none, .fieldAddr 0 (.t 19)⟩,
       ⟨(some 21), none, .load false 1 (.t 20)⟩,
       ⟨(some 22), none, .move (.t 1)⟩,
       ⟨none, none, .delete (.one .str) (.t 21) (.t 22)⟩]) (
    .seq (
     .region [
       ⟨(some 4), none, .move (.c (.int .i64 (0)))⟩]) (
    .ret))))

/-- reveille/name.Is -/
def c22 : CFunc where
  nparams := 1
  ntmps := 11
  results := [.tmp 2]
  body :=
    .seq (
     .region [
       ⟨(some 2), none, .move (.c (.bool false))⟩]) (
    .seq (
     .region [
       ⟨(some 6), none, .move (.t 0)⟩,
       ⟨(some 7), none, .call 34 [.t 6]⟩,
       ⟨(some 5), none, .move (.t 7)⟩,
       ⟨(some 8), none, .extract (.t 5) 0⟩,
       ⟨(some 9), none, .extract (.t 5) 1⟩,
       ⟨(some 3), none, .alloc [.str [], .str [], .bool false, .int .i64 (0)]⟩,
       ⟨none, none, .store 4 (.t 3) (.t 8)⟩,
       ⟨(some 4), none, .move (.t 9)⟩]) (
    .seq (
     .region [
       ⟨(some 10), none, .move (.t 4)⟩,
       ⟨(some 2), none, .move (.t 10)⟩]) (
    .ret)))

/-- (*reveille/graph.Graph).Units$1 -/
def c23 : CFunc where
  nparams := 1
  ntmps := 35
  results := []
  body :=
    .seq (
     .region [
       ⟨(some 7), none, .load false 1 (.t 1)⟩,
       ⟨(some 8), none, .nilCheck (.t 7)⟩,
       ⟨(some 9), none, .fieldAddr 0 (.t 8)⟩,
       ⟨(some 10), none, .load false 1 (.t 9)⟩,
       ⟨(some 11), none, .call 25 [.t 10]⟩,
       ⟨(some 12), none, .call 24 [.t 11]⟩,
       ⟨(some 13), none, .lenSlice (.t 12)⟩,
       ⟨(some 14), none, .move (.c (.int .i64 (0)))⟩]) (
    .block 0 (
     .loop (
      .seq (
       .region [
         ⟨(some 15), none, .bin .lss (.t 14) (.t 13)⟩]) (
      .seq (
       .cond (.t 15) (
        .skip) (
        .exit 0)) (
      .seq (
       .block 1 (
        .seq (
         .region [
           ⟨(some 16), none, .indexAddr 1 (.t 12) (.t 14)⟩,
           ⟨(some 17), none, .load false 1 (.t 16)⟩,
           ⟨(some 4), none, .move (.t 17)⟩]) (
        .seq (
         .region [
           ⟨(some 19), none, .load false 1 (.t 1)⟩,
           ⟨(some 20), none, .nilCheck (.t 19)⟩,
           ⟨(some 21), none, .fieldAddr 0 (.t 20)⟩,
           ⟨(some 22), none, .load false 1 (.t 21)⟩,
           ⟨(some 23), none, .move (.t 4)⟩,
           ⟨(some 24), none, .lookup (.one .str) (.agg [.str [], .int .i64 (0), .int .i64 (0), .nilSlice, .nilSlice, .nilSlice, .nilSlice, .nilSlice, .nilSlice, .nilSlice, .bool false, .int .i64 (0), .int .i64 (0), .int .i64 (0), .nilSlice, .nilSlice, .nilSlice, .int .i64 (0), .int .i64 (0), .int .i64 (0), .int .i64 (0), .int .i64 (0), .int .i64 (0), .bool false, .str [], .str [], .int .i64 (0), .int .i64 (0), .nilSlice, .nilSlice, .nilSlice, .str [], .str []]) (.t 22) (.t 23) true⟩,
           ⟨(some 18), none, .move (.t 24)⟩,
           ⟨(some 25), none, .extract (.t 18) 0⟩,
           ⟨(some 26), none, .extract (.t 18) 1⟩,
           ⟨(some 5), none, .alloc [.str [], .int .i64 (0), .int .i64 (0), .nilSlice, .nilSlice, .nilSlice, .nilSlice, .nilSlice, .nilSlice, .nilSlice, .bool false, .int .i64 (0), .int .i64 (0), .int .i64 (0), .nilSlice, .nilSlice, .nilSlice, .int .i64 (0), .int .i64 (0), .int .i64 (0), .int .i64 (0), .int .i64 (0), .int .i64 (0), .bool false, .str [], .str [], .int .i64 (0), .int .i64 (0), .nilSlice, .nilSlice, .nilSlice, .str [], .str []]⟩,
           ⟨none, none, .store 33 (.t 5) (.t 25)⟩,
           ⟨(some 6), none, .move (.t 26)⟩]) (
        .seq (
         .region [
           ⟨(some 27), none, .move (.t 6)⟩,
           ⟨(some 28), none, .move (.t 27)⟩,
           ⟨(some 29), (some (28, true)), .move (.t 0)⟩,
           ⟨(some 30), (some (28, true)), .load true 33 (.t 5)⟩,
           ⟨(some 31), (some (28, true)), .callv (.t 29) [.t 30]⟩,
           ⟨(some 32), (some (28, true)), .not (.t 31)⟩,
           ⟨(some 33), none, .pick (.t 28) (.t 32) (.c (.bool false))⟩]) (
        .cond (.t 33) (
         .ret) (
         .skip)))))) (
      .region [
        ⟨(some 34), none, .bin .add (.t 14) (.c (.int .i64 (1)))⟩,
        ⟨(some 14), none, .move (.t 34)⟩]))))))

/-- slices.Sorted[string] -/
def c24 : CFunc where
  nparams := 1
  ntmps := 9
  results := [.tmp 2]
  body :=
    .seq (
     .region [
       ⟨(some 2), none, .move (.c (.nilSlice))⟩]) (
    .seq (
     .region [
       ⟨(some 4), none, .move (.t 0)⟩,
       ⟨(some 5), none, .call 35 [.t 4]⟩,
       ⟨(some 3), none, .move (.t 5)⟩]) (
    .seq (
     .region [
       ⟨(some 6), none, .move (.t 3)⟩,
       ⟨(some 7), none, .call 36 [.t 6]⟩]) (
    .seq (
     .region [
       ⟨(some 8), none, .move (.t 3)⟩,
       ⟨(some 2), none, .move (.t 8)⟩]) (
    .ret))))

/-- maps.Keys[map[string]reveille/api.Unit,string,reveille/api.Unit] -/
def c25 : CFunc where
  nparams := 1
  ntmps := 4
  results := [.tmp 2]
  body :=
    .seq (
     .region [
       ⟨(some 1), none, .box (.t 0)⟩,
       ⟨(some 2), none, .move (.c (.nilFunc))⟩]) (
    .seq (
     .region [
       ⟨(some 3), none, .makeFunc 37 [] [.t 1]⟩,
       ⟨(some 2), none, .move (.t 3)⟩]) (
    .ret))

/-- (*reveille/graph.Graph).all -/
def c32 : CFunc where
  nparams := 1
  ntmps := 4
  results := [.tmp 2]
  body :=
    .seq (
     .region [
       ⟨(some 1), none, .box (.t 0)⟩,
       ⟨(some 2), none, .move (.c (.nilFunc))⟩]) (
    .seq (
     .region [
       ⟨(some 3), none, .makeFunc 46 [] [.t 1]⟩,
       ⟨(some 2), none, .move (.t 3)⟩]) (
    .ret))

/-- reveille/graph.right -/
def c33 : CFunc where
  nparams := 1
  ntmps := 18
  results := [.tmp 2]
  body :=
    .seq (
     .region [
       ⟨(some 1), none, .box (.t 0)⟩,
       ⟨(some 2), none, .move (.c (.bool false))⟩]) (
    .seq (
     .region [
       ⟨(some 3), none, .fieldAddr 1 (.t 1)⟩,
       ⟨(some 4), none, .load false 1 (.t 3)⟩,
       ⟨(some 5), none, .fieldAddr 2 (.t 1)⟩,
       ⟨(some 6), none, .load false 1 (.t 5)⟩,
       ⟨(some 7), none, .bin .neq (.t 4) (.t 6)⟩,
       ⟨(some 8), none, .move (.t 7)⟩,
       ⟨(some 9), (some (8, true)), .fieldAddr 1 (.t 1)⟩,
       ⟨(some 10), (some (8, true)), .load false 1 (.t 9)⟩,
       ⟨(some 11), (some (8, true)), .call 22 [.t 10]⟩,
       ⟨(some 12), none, .pick (.t 8) (.t 11) (.c (.bool false))⟩,
       ⟨(some 13), none, .move (.t 12)⟩,
       ⟨(some 14), (some (13, true)), .fieldAddr 2 (.t 1)⟩,
       ⟨(some 15), (some (13, true)), .load false 1 (.t 14)⟩,
       ⟨(some 16), (some (13, true)), .call 22 [.t 15]⟩,
       ⟨(some 17), none, .pick (.t 13) (.t 16) (.c (.bool false))⟩,
       ⟨(some 2), none, .move (.t 17)⟩]) (
    .ret))

/-- reveille/name.parts -/
def c34 : CFunc where
  nparams := 1
  ntmps := 57
  results := [.cell 2 true 4, .tmp 3]
  body :=
    .seq (
     .region [
       ⟨(some 2), none, .alloc [.str [], .str [], .bool false, .int .i64 (0)]⟩,
       ⟨(some 3), none, .move (.c (.bool false))⟩]) (
    .seq (
     .region [
       ⟨(some 7), none, .move (.t 0)⟩,
       ⟨(some 8), none, .call 49 [.t 7, .c (.int .u8 (46))]⟩,
       ⟨(some 4), none, .move (.t 8)⟩]) (
    .seq (
     .seq (
      .region [
        ⟨(some 9), none, .move (.t 4)⟩,
        ⟨(some 10), none, .bin .lss (.t 9) (.c (.int .i64 (0)))⟩,
        ⟨(some 11), none, .move (.t 10)⟩,
        ⟨(some 12), (some (11, false)), .move (.t 0)⟩,
        ⟨(some 13), (some (11, false)), .lenStr (.t 12)⟩,
        ⟨(some 14), (some (11, false)), .bin .gtr (.t 13) (.c (.int .i64 (60)))⟩,
        ⟨(some 15), none, .pick (.t 11) (.c (.bool true)) (.t 14)⟩]) (
     .cond (.t 15) (
      .seq (
       .region [
         ⟨(some 16), none, .build [.str [], .str [], .bool false, .int .i64 (0)] []⟩,
         ⟨none, none, .store 4 (.t 2) (.t 16)⟩,
         ⟨(some 3), none, .move (.c (.bool false))⟩]) (
      .ret)) (
      .skip))) (
    .seq (
     .region [
       ⟨(some 17), none, .move (.t 0)⟩,
       ⟨(some 18), none, .move (.t 4)⟩,
       ⟨(some 19), none, .sliceStr (.t 17) (some (.t 18)) none⟩,
       ⟨(some 20), none, .call 50 [.t 19]⟩,
       ⟨(some 21), none, .build [.str [], .str [], .bool false, .int .i64 (0)] [(3, 1, .t 20)]⟩,
       ⟨(some 5), none, .alloc [.str [], .str [], .bool false, .int .i64 (0)]⟩,
       ⟨none, none, .store 4 (.t 5) (.t 21)⟩]) (
    .seq (
     .region [
       ⟨(some 23), none, .move (.t 0)⟩,
       ⟨(some 24), none, .move (.t 4)⟩,
       ⟨(some 25), none, .sliceStr (.t 23) none (some (.t 24))⟩,
       ⟨(some 26), none, .call 51 [.t 25, .c (.str [64])]⟩,
       ⟨(some 22), none, .move (.t 26)⟩,
       ⟨(some 27), none, .extract (.t 22) 0⟩,
       ⟨(some 28), none, .extract (.t 22) 1⟩,
       ⟨(some 29), none, .extract (.t 22) 2⟩,
       ⟨(some 30), none, .fieldAddr 0 (.t 5)⟩,
       ⟨none, none, .store 1 (.t 30) (.t 27)⟩,
       ⟨(some 31), none, .fieldAddr 1 (.t 5)⟩,
       ⟨none, none, .store 1 (.t 31) (.t 28)⟩,
       ⟨(some 32), none, .fieldAddr 2 (.t 5)⟩,
       ⟨none, none, .store 1 (.t 32) (.t 29)⟩]) (
    .seq (
     .region [
       ⟨(some 6), none, .move (.c (.func 52 [] []))⟩]) (
    .seq (
     .seq (
      .region [
        ⟨(some 33), none, .fieldAddr 3 (.t 5)⟩,
        ⟨(some 34), none, .load false 1 (.t 33)⟩,
        ⟨(some 35), none, .bin .eql (.t 34) (.c (.int .i64 (0)))⟩,
        ⟨(some 36), none, .move (.t 35)⟩,
        ⟨(some 37), (some (36, false)), .fieldAddr 0 (.t 5)⟩,
        ⟨(some 38), (some (36, false)), .load false 1 (.t 37)⟩,
        ⟨(some 39), (some (36, false)), .bin .eql (.t 38) (.c (.str []))⟩,
        ⟨(some 40), none, .pick (.t 36) (.c (.bool true)) (.t 39)⟩,
        ⟨(some 41), none, .move (.t 40)⟩,
        ⟨(some 42), (some (41, false)), .fieldAddr 0 (.t 5)⟩,
        ⟨(some 43), (some (41, false)), .load false 1 (.t 42)⟩,
        ⟨(some 44), (some (41, false)), .move (.t 6)⟩,
        ⟨(some 45), (some (41, false)), .call 55 [.t 43, .t 44]⟩,
        ⟨(some 46), (some (41, false)), .not (.t 45)⟩,
        ⟨(some 47), none, .pick (.t 41) (.c (.bool true)) (.t 46)⟩,
        ⟨(some 48), none, .move (.t 47)⟩,
        ⟨(some 49), (some (48, false)), .fieldAddr 1 (.t 5)⟩,
        ⟨(some 50), (some (48, false)), .load false 1 (.t 49)⟩,
        ⟨(some 51), (some (48, false)), .move (.t 6)⟩,
        ⟨(some 52), (some (48, false)), .call 55 [.t 50, .t 51]⟩,
        ⟨(some 53), (some (48, false)), .not (.t 52)⟩,
        ⟨(some 54), none, .pick (.t 48) (.c (.bool true)) (.t 53)⟩]) (
     .cond (.t 54) (
      .seq (
       .region [
         ⟨(some 55), none, .build [.str [], .str [], .bool false, .int .i64 (0)] []⟩,
         ⟨none, none, .store 4 (.t 2) (.t 55)⟩,
         ⟨(some 3), none, .move (.c (.bool false))⟩]) (
      .ret)) (
      .skip))) (
    .seq (
     .region [
       ⟨(some 56), none, .load true 4 (.t 5)⟩,
       ⟨none, none, .store 4 (.t 2) (.t 56)⟩,
       ⟨(some 3), none, .move (.c (.bool true))⟩]) (
    .ret))))))))

/-- maps.Keys[map[string]reveille/api.Unit,string,reveille/api.Unit]$1 -/
def c37 : CFunc where
  nparams := 1
  ntmps := 14
  results := []
  body :=
    .seq (
     .region [
       ⟨(some 4), none, .load false 1 (.t 1)⟩,
       ⟨(some 5), none, .bad⟩]) (
    .block 0 (
     .loop (
      .seq (
       .region [
         ⟨(some 6), none, .bad⟩,
         ⟨(some 7), none, .extract (.t 6) 0⟩]) (
      .seq (
       .cond (.t 7) (
        .skip) (
        .exit 0)) (
      .block 1 (
       .seq (
        .region [
          ⟨(some 8), none, .bad⟩,
          ⟨(some 9), none, .extract (.t 8) 0⟩,
          ⟨(some 3), none, .move (.t 9)⟩]) (
       .seq (
        .region [
          ⟨(some 10), none, .move (.t 0)⟩,
          ⟨(some 11), none, .move (.t 3)⟩,
          ⟨(some 12), none, .callv (.t 10) [.t 11]⟩,
          ⟨(some 13), none, .not (.t 12)⟩]) (
       .cond (.t 13) (
        .ret) (
        .skip)))))))))

/-- (*reveille/graph.Graph).all$1 -/
def c46 : CFunc where
  nparams := 1
  ntmps := 29
  results := []
  body :=
    .seq (
     .region [
       ⟨(some 2), none, .box (.t 0)⟩]) (
    .seq (
     .region [
       ⟨(some 7), none, .load false 1 (.t 1)⟩,
       ⟨(some 8), none, .call 11 [.t 7]⟩]) (
    .block 0 (
     .rangeFunc (.t 8) [9] (
      .region [
        ⟨(some 3), none, .alloc [.str [], .int .i64 (0), .int .i64 (0), .nilSlice, .nilSlice, .nilSlice, .nilSlice, .nilSlice, .nilSlice, .nilSlice, .bool false, .int .i64 (0), .int .i64 (0), .int .i64 (0), .nilSlice, .nilSlice, .nilSlice, .int .i64 (0), .int .i64 (0), .int .i64 (0), .int .i64 (0), .int .i64 (0), .int .i64 (0), .bool false, .str [], .str [], .int .i64 (0), .int .i64 (0), .nilSlice, .nilSlice, .nilSlice, .str [], .str []]⟩,
        ⟨none, none, .store 33 (.t 3) (.t 9)⟩]) (
      .block 1 (
       .seq (
        .seq (
         .region [
           ⟨(some 10), none, .load true 33 (.t 3)⟩,
           ⟨(some 11), none, .call 47 [.t 10]⟩]) (
        .block 2 (
         .rangeFunc (.t 11) [12] (
          .region [
            ⟨(some 4), none, .alloc [.int .i64 (0), .str [], .str []]⟩,
            ⟨none, none, .store 3 (.t 4) (.t 12)⟩]) (
          .block 3 (
           .seq (
            .region [
              ⟨(some 13), none, .load false 1 (.t 2)⟩,
              ⟨(some 14), none, .load true 3 (.t 4)⟩,
              ⟨(some 15), none, .callv (.t 13) [.t 14]⟩,
              ⟨(some 16), none, .not (.t 15)⟩]) (
           .cond (.t 16) (
            .ret) (
            .skip))))))) (
       .seq (
        .region [
          ⟨(some 17), none, .load true 33 (.t 3)⟩,
          ⟨(some 18), none, .call 48 [.t 17]⟩,
          ⟨(some 19), none, .lenSlice (.t 18)⟩,
          ⟨(some 20), none, .move (.c (.int .i64 (0)))⟩]) (
       .block 4 (
        .loop (
         .seq (
          .region [
            ⟨(some 21), none, .bin .lss (.t 20) (.t 19)⟩]) (
         .seq (
          .cond (.t 21) (
           .skip) (
           .exit 4)) (
         .seq (
          .block 5 (
           .seq (
            .region [
              ⟨(some 22), none, .indexAddr 3 (.t 18) (.t 20)⟩,
              ⟨(some 23), none, .load true 3 (.t 22)⟩,
              ⟨(some 6), none, .alloc [.int .i64 (0), .str [], .str []]⟩,
              ⟨none, none, .store 3 (.t 6) (.t 23)⟩]) (
           .seq (
            .region [
              ⟨(some 24), none, .load false 1 (.t 2)⟩,
              ⟨(some 25), none, .load true 3 (.t 6)⟩,
              ⟨(some 26), none, .callv (.t 24) [.t 25]⟩,
              ⟨(some 27), none, .not (.t 26)⟩]) (
           .cond (.t 27) (
            .ret) (
            .skip))))) (
         .region [
           ⟨(some 28), none, .bin .add (.t 20) (.c (.int .i64 (1)))⟩,
           ⟨(some 20), none, .move (.t 28)⟩]))))))))))))

/-- reveille/graph.relations -/
def c47 : CFunc where
  nparams := 1
  ntmps := 24
  results := [.tmp 2]
  body :=
    .seq (
     .region [
       ⟨(some 1), none, .box (.t 0)⟩,
       ⟨(some 2), none, .move (.c (.nilFunc))⟩]) (
    .seq (
     .region [
       ⟨(some 4), none, .fieldAddr 3 (.t 1)⟩,
       ⟨(some 5), none, .load false 1 (.t 4)⟩,
       ⟨(some 6), none, .build [.int .i64 (0), .nilSlice] [(0, 1, .c (.int .i64 (1))), (1, 1, .t 5)]⟩,
       ⟨(some 7), none, .fieldAddr 4 (.t 1)⟩,
       ⟨(some 8), none, .load false 1 (.t 7)⟩,
       ⟨(some 9), none, .build [.int .i64 (0), .nilSlice] [(0, 1, .c (.int .i64 (2))), (1, 1, .t 8)]⟩,
       ⟨(some 10), none, .fieldAddr 5 (.t 1)⟩,
       ⟨(some 11), none, .load false 1 (.t 10)⟩,
       ⟨(some 12), none, .build [.int .i64 (0), .nilSlice] [(0, 1, .c (.int .i64 (3))), (1, 1, .t 11)]⟩,
       ⟨(some 13), none, .fieldAddr 6 (.t 1)⟩,
       ⟨(some 14), none, .load false 1 (.t 13)⟩,
       ⟨(some 15), none, .build [.int .i64 (0), .nilSlice] [(0, 1, .c (.int .i64 (4))), (1, 1, .t 14)]⟩,
       ⟨(some 16), none, .fieldAddr 7 (.t 1)⟩,
       ⟨(some 17), none, .load false 1 (.t 16)⟩,
       ⟨(some 18), none, .build [.int .i64 (0), .nilSlice] [(0, 1, .c (.int .i64 (5))), (1, 1, .t 17)]⟩,
       ⟨(some 19), none, .fieldAddr 8 (.t 1)⟩,
       ⟨(some 20), none, .load false 1 (.t 19)⟩,
       ⟨(some 21), none, .build [.int .i64 (0), .nilSlice] [(0, 1, .c (.int .i64 (6))), (1, 1, .t 20)]⟩,
       ⟨(some 22), none, .build [.int .i64 (0), .nilSlice, .int .i64 (0), .nilSlice, .int .i64 (0), .nilSlice, .int .i64 (0), .nilSlice, .int .i64 (0), .nilSlice, .int .i64 (0), .nilSlice] [(0, 2, .t 6), (2, 2, .t 9), (4, 2, .t 12), (6, 2, .t 15), (8, 2, .t 18), (10, 2, .t 21)]⟩,
       ⟨(some 3), none, .alloc [.int .i64 (0), .nilSlice, .int .i64 (0), .nilSlice, .int .i64 (0), .nilSlice, .int .i64 (0), .nilSlice, .int .i64 (0), .nilSlice, .int .i64 (0), .nilSlice]⟩,
       ⟨none, none, .store 12 (.t 3) (.t 22)⟩]) (
    .seq (
     .region [
       ⟨(some 23), none, .makeFunc 63 [] [.t 3, .t 1]⟩,
       ⟨(some 2), none, .move (.t 23)⟩]) (
    .ret)))

/-- reveille/graph.implied -/
def c48 : CFunc where
  nparams := 1
  ntmps := 61
  results := [.tmp 2]
  body :=
    .seq (
     .region [
       ⟨(some 1), none, .box (.t 0)⟩,
       ⟨(some 2), none, .move (.c (.nilSlice))⟩]) (
    .seq (
     .region [
       ⟨(some 3), none, .move (.c (.nilSlice))⟩]) (
    .seq (
     .seq (
      .region [
        ⟨(some 6), none, .fieldAddr 1 (.t 1)⟩,
        ⟨(some 7), none, .load false 1 (.t 6)⟩]) (
     .block 0 (
      .seq (
       .seq (
        .region [
          ⟨(some 9), none, .bin .eql (.t 7) (.c (.int .i64 (2)))⟩,
          ⟨(some 8), none, .move (.t 9)⟩]) (
       .cond (.t 8) (
        .skip) (
        .seq (
         .region [
           ⟨(some 10), none, .bin .eql (.t 7) (.c (.int .i64 (3)))⟩,
           ⟨(some 8), none, .move (.t 10)⟩]) (
        .cond (.t 8) (
         .skip) (
         .region [
           ⟨(some 11), none, .bin .eql (.t 7) (.c (.int .i64 (4)))⟩,
           ⟨(some 8), none, .move (.t 11)⟩]))))) (
      .cond (.t 8) (
       .region [
         ⟨(some 12), none, .move (.t 3)⟩,
         ⟨(some 13), none, .fieldAddr 0 (.t 1)⟩,
         ⟨(some 14), none, .load false 1 (.t 13)⟩,
         ⟨(some 15), none, .fieldAddr 25 (.t 1)⟩,
         ⟨(some 16), none, .load false 1 (.t 15)⟩,
         ⟨(some 17), none, .build [.int .i64 (0), .str [], .str []] [(0, 1, .c (.int .i64 (8))), (1, 1, .t 14), (2, 1, .t 16)]⟩,
         ⟨(some 18), none, .fieldAddr 25 (.t 1)⟩,
         ⟨(some 19), none, .load false 1 (.t 18)⟩,
         ⟨(some 20), none, .fieldAddr 0 (.t 1)⟩,
         ⟨(some 21), none, .load false 1 (.t 20)⟩,
         ⟨(some 22), none, .build [.int .i64 (0), .str [], .str []] [(0, 1, .c (.int .i64 (6))), (1, 1, .t 19), (2, 1, .t 21)]⟩,
         ⟨(some 23), none, .buildSlice 3 2 (.agg [.int .i64 (0), .str [], .str []]) [(0, .t 17), (1, .t 22)]⟩,
         ⟨(some 24), none, .append 3 40 (.t 12) (.t 23)⟩,
         ⟨(some 3), none, .move (.t 24)⟩]) (
       .skip))))) (
    .seq (
     .block 1 (
      .seq (
       .region [
         ⟨(some 35), none, .fieldAddr 10 (.t 1)⟩,
         ⟨(some 36), none, .load false 1 (.t 35)⟩,
         ⟨(some 34), none, .move (.t 36)⟩]) (
      .cond (.t 34) (
       .skip) (
       .seq (
        .region [
          ⟨(some 38), none, .fieldAddr 1 (.t 1)⟩,
          ⟨(some 39), none, .load false 1 (.t 38)⟩,
          ⟨(some 40), none, .bin .eql (.t 39) (.c (.int .i64 (6)))⟩,
          ⟨(some 37), none, .move (.t 40)⟩]) (
       .cond (.t 37) (
        .seq (
         .region [
           ⟨(some 41), none, .fieldAddr 3 (.t 1)⟩,
           ⟨(some 42), none, .load false 1 (.t 41)⟩,
           ⟨(some 43), none, .fieldAddr 4 (.t 1)⟩,
           ⟨(some 44), none, .load false 1 (.t 43)⟩,
           ⟨(some 45), none, .buildSlice 1 2 (.nilSlice) [(0, .t 42), (1, .t 44)]⟩,
           ⟨(some 46), none, .call 64 [.t 45]⟩,
           ⟨(some 47), none, .lenSlice (.t 46)⟩,
           ⟨(some 48), none, .move (.c (.int .i64 (0)))⟩]) (
        .block 2 (
         .loop (
          .seq (
           .region [
             ⟨(some 49), none, .bin .lss (.t 48) (.t 47)⟩]) (
          .seq (
           .cond (.t 49) (
            .skip) (
            .exit 2)) (
          .seq (
           .block 3 (
            .seq (
             .region [
               ⟨(some 50), none, .indexAddr 1 (.t 46) (.t 48)⟩,
               ⟨(some 51), none, .load false 1 (.t 50)⟩,
               ⟨(some 5), none, .move (.t 51)⟩]) (
            .region [
              ⟨(some 52), none, .move (.t 3)⟩,
              ⟨(some 53), none, .fieldAddr 0 (.t 1)⟩,
              ⟨(some 54), none, .load false 1 (.t 53)⟩,
              ⟨(some 55), none, .move (.t 5)⟩,
              ⟨(some 56), none, .build [.int .i64 (0), .str [], .str []] [(0, 1, .c (.int .i64 (6))), (1, 1, .t 54), (2, 1, .t 55)]⟩,
              ⟨(some 57), none, .buildSlice 3 1 (.agg [.int .i64 (0), .str [], .str []]) [(0, .t 56)]⟩,
              ⟨(some 58), none, .append 3 40 (.t 52) (.t 57)⟩,
              ⟨(some 3), none, .move (.t 58)⟩]))) (
          .region [
            ⟨(some 59), none, .bin .add (.t 48) (.c (.int .i64 (1)))⟩,
            ⟨(some 48), none, .move (.t 59)⟩]))))))) (
        .region [
          ⟨(some 25), none, .move (.t 3)⟩,
          ⟨(some 26), none, .fieldAddr 0 (.t 1)⟩,
          ⟨(some 27), none, .load false 1 (.t 26)⟩,
          ⟨(some 28), none, .build [.int .i64 (0), .str [], .str []] [(0, 1, .c (.int .i64 (5))), (1, 1, .t 27), (2, 1, .c (.str [115, 104, 117, 116, 100, 111, 119, 110, 46, 116, 97, 114, 103, 101, 116]))]⟩,
          ⟨(some 29), none, .fieldAddr 0 (.t 1)⟩,
          ⟨(some 30), none, .load false 1 (.t 29)⟩,
          ⟨(some 31), none, .build [.int .i64 (0), .str [], .str []] [(0, 1, .c (.int .i64 (6))), (1, 1, .c (.str [115, 104, 117, 116, 100, 111, 119, 110, 46, 116, 97, 114, 103, 101, 116])), (2, 1, .t 30)]⟩,
          ⟨(some 32), none, .buildSlice 3 2 (.agg [.int .i64 (0), .str [], .str []]) [(0, .t 28), (1, .t 31)]⟩,
          ⟨(some 33), none, .append 3 40 (.t 25) (.t 32)⟩,
          ⟨(some 3), none, .move (.t 33)⟩])))))) (
    .seq (
     .region [
       ⟨(some 60), none, .move (.t 3)⟩,
       ⟨(some 2), none, .move (.t 60)⟩]) (
    .ret)))))

/-- strings.LastIndexByte -/
def c49 : CFunc where
  nparams := 2
  ntmps := 8
  results := [.tmp 4]
  body :=
    .seq (
     .region [
       ⟨(some 4), none, .move (.c (.int .i64 (0)))⟩]) (
    .seq (
     .region [
       ⟨(some 5), none, .move (.t 0)⟩,
       ⟨(some 6), none, .move (.t 1)⟩,
       ⟨(some 7), none, .call 65 [.t 5, .t 6]⟩,
       ⟨(some 4), none, .move (.t 7)⟩]) (
    .ret))

/-- reveille/name.ending -/
def c50 : CFunc where
  nparams := 1
  ntmps := 7
  results := [.tmp 2]
  body :=
    .seq (
     .region [
       ⟨(some 2), none, .move (.c (.int .i64 (0)))⟩]) (
    .seq (
     .region [
       ⟨(some 3), none, .buildSlice 1 6 (.str []) [(0, .c (.str [46, 115, 101, 114, 118, 105, 99, 101])), (1, .c (.str [46, 115, 111, 99, 107, 101, 116])), (2, .c (.str [46, 116, 105, 109, 101, 114])), (3, .c (.str [46, 112, 97, 116, 104])), (4, .c (.str [46, 109, 111, 117, 110, 116])), (5, .c (.str [46, 116, 97, 114, 103, 101, 116]))]⟩,
       ⟨(some 4), none, .move (.t 0)⟩,
       ⟨(some 5), none, .call 66 [.t 3, .t 4]⟩,
       ⟨(some 6), none, .bin .add (.c (.int .i64 (1))) (.t 5)⟩,
       ⟨(some 2), none, .move (.t 6)⟩]) (
    .ret))

/-- strings.Cut -/
def c51 : CFunc where
  nparams := 2
  ntmps := 13
  results := [.tmp 4, .tmp 5, .tmp 6]
  body :=
    .seq (
     .region [
       ⟨(some 4), none, .move (.c (.str []))⟩,
       ⟨(some 5), none, .move (.c (.str []))⟩,
       ⟨(some 6), none, .move (.c (.bool false))⟩]) (
    .seq (
     .region [
       ⟨(some 7), none, .move (.t 0)⟩,
       ⟨(some 8), none, .move (.t 1)⟩,
       ⟨(some 9), none, .call 67 [.t 7, .t 8]⟩,
       ⟨(some 10), none, .extract (.t 9) 0⟩,
       ⟨(some 11), none, .extract (.t 9) 1⟩,
       ⟨(some 12), none, .extract (.t 9) 2⟩,
       ⟨(some 4), none, .move (.t 10)⟩,
       ⟨(some 5), none, .move (.t 11)⟩,
       ⟨(some 6), none, .move (.t 12)⟩]) (
    .ret))

/-- reveille/name.parts$1 -/
def c52 : CFunc where
  nparams := 1
  ntmps := 10
  results := [.tmp 2]
  body :=
    .seq (
     .region [
       ⟨(some 2), none, .move (.c (.bool false))⟩]) (
    .seq (
     .region [
       ⟨(some 3), none, .move (.t 0)⟩,
       ⟨(some 4), none, .call 53 [.t 3]⟩,
       ⟨(some 5), none, .move (.t 4)⟩,
       ⟨(some 6), (some (5, false)), .move (.t 0)⟩,
       ⟨(some 7), (some (5, false)), .call 54 [.c (.str [58, 45, 95, 46, 92]), .t 6]⟩,
       ⟨(some 8), (some (5, false)), .bin .geq (.t 7) (.c (.int .i64 (0)))⟩,
       ⟨(some 9), none, .pick (.t 5) (.c (.bool true)) (.t 8)⟩,
       ⟨(some 2), none, .move (.t 9)⟩]) (
    .ret))

/-- reveille/name.plain -/
def c53 : CFunc where
  nparams := 1
  ntmps := 25
  results := [.tmp 2]
  body :=
    .seq (
     .region [
       ⟨(some 2), none, .move (.c (.bool false))⟩]) (
    .seq (
     .region [
       ⟨(some 3), none, .move (.t 0)⟩,
       ⟨(some 4), none, .bin .geq (.t 3) (.c (.int .u8 (97)))⟩,
       ⟨(some 5), none, .move (.t 4)⟩,
       ⟨(some 6), (some (5, true)), .move (.t 0)⟩,
       ⟨(some 7), (some (5, true)), .bin .leq (.t 6) (.c (.int .u8 (122)))⟩,
       ⟨(some 8), none, .pick (.t 5) (.t 7) (.c (.bool false))⟩,
       ⟨(some 9), none, .move (.t 8)⟩,
       ⟨(some 10), (some (9, false)), .move (.t 0)⟩,
       ⟨(some 11), (some (9, false)), .bin .geq (.t 10) (.c (.int .u8 (65)))⟩,
       ⟨(some 12), (some (9, false)), .move (.t 11)⟩,
       ⟨(some 13), (some (12, true)), .move (.t 0)⟩,
       ⟨(some 14), (some (12, true)), .bin .leq (.t 13) (.c (.int .u8 (90)))⟩,
       ⟨(some 15), (some (9, false)), .pick (.t 12) (.t 14) (.c (.bool false))⟩,
       ⟨(some 16), none, .pick (.t 9) (.c (.bool true)) (.t 15)⟩,
       ⟨(some 17), none, .move (.t 16)⟩,
       ⟨(some 18), (some (17, false)), .move (.t 0)⟩,
       ⟨(some 19), (some (17, false)), .bin .geq (.t 18) (.c (.int .u8 (48)))⟩,
       ⟨(some 20), (some (17, false)), .move (.t 19)⟩,
       ⟨(some 21), (some (20, true)), .move (.t 0)⟩,
       ⟨(some 22), (some (20, true)), .bin .leq (.t 21) (.c (.int .u8 (57)))⟩,
       ⟨(some 23), (some (17, false)), .pick (.t 20) (.t 22) (.c (.bool false))⟩,
       ⟨(some 24), none, .pick (.t 17) (.c (.bool true)) (.t 23)⟩,
       ⟨(some 2), none, .move (.t 24)⟩]) (
    .ret))

/-- strings.IndexByte -/
def c54 : CFunc where
  nparams := 2
  ntmps := 8
  results := [.tmp 4]
  body :=
    .seq (
     .region [
       ⟨(some 4), none, .move (.c (.int .i64 (0)))⟩]) (
    .seq (
     .region [
       ⟨(some 5), none, .move (.t 0)⟩,
       ⟨(some 6), none, .move (.t 1)⟩,
       ⟨(some 7), none, .call 68 [.t 5, .t 6]⟩,
       ⟨(some 4), none, .move (.t 7)⟩]) (
    .ret))

/-- reveille/name.every -/
def c55 : CFunc where
  nparams := 2
  ntmps := 10
  results := [.tmp 4]
  body :=
    .seq (
     .region [
       ⟨(some 3), none, .box (.t 1)⟩,
       ⟨(some 4), none, .move (.c (.bool false))⟩]) (
    .seq (
     .region [
       ⟨(some 5), none, .move (.t 0)⟩,
       ⟨(some 6), none, .toBytes (.t 5)⟩,
       ⟨(some 7), none, .makeFunc 70 [] [.t 3]⟩,
       ⟨(some 8), none, .call 69 [.t 6, .t 7]⟩,
       ⟨(some 9), none, .not (.t 8)⟩,
       ⟨(some 4), none, .move (.t 9)⟩]) (
    .ret))

/-- reveille/graph.relations$1 -/
def c63 : CFunc where
  nparams := 1
  ntmps := 47
  results := []
  body :=
    .seq (
     .seq (
      .region [
        ⟨(some 10), none, .load true 12 (.t 1)⟩,
        ⟨(some 11), none, .move (.c (.int .i64 (0)))⟩]) (
     .block 0 (
      .loop (
       .seq (
        .region [
          ⟨(some 12), none, .bin .lss (.t 11) (.c (.int .i64 (6)))⟩]) (
       .seq (
        .cond (.t 12) (
         .skip) (
         .exit 0)) (
       .seq (
        .block 1 (
         .seq (
          .region [
            ⟨(some 13), none, .indexAgg 6 2 true (.t 10) (.t 11)⟩,
            ⟨(some 5), none, .alloc [.int .i64 (0), .nilSlice]⟩,
            ⟨none, none, .store 2 (.t 5) (.t 13)⟩]) (
         .seq (
          .region [
            ⟨(some 14), none, .fieldAddr 1 (.t 5)⟩,
            ⟨(some 15), none, .load false 1 (.t 14)⟩,
            ⟨(some 16), none, .lenSlice (.t 15)⟩,
            ⟨(some 17), none, .move (.c (.int .i64 (0)))⟩]) (
         .block 2 (
          .loop (
           .seq (
            .region [
              ⟨(some 18), none, .bin .lss (.t 17) (.t 16)⟩]) (
           .seq (
            .cond (.t 18) (
             .skip) (
             .exit 2)) (
           .seq (
            .block 3 (
             .seq (
              .region [
                ⟨(some 19), none, .indexAddr 1 (.t 15) (.t 17)⟩,
                ⟨(some 20), none, .load false 1 (.t 19)⟩,
                ⟨(some 7), none, .move (.t 20)⟩]) (
             .seq (
              .region [
                ⟨(some 21), none, .move (.t 0)⟩,
                ⟨(some 22), none, .fieldAddr 0 (.t 5)⟩,
                ⟨(some 23), none, .load false 1 (.t 22)⟩,
                ⟨(some 24), none, .fieldAddr 0 (.t 2)⟩,
                ⟨(some 25), none, .load false 1 (.t 24)⟩,
                ⟨(some 26), none, .move (.t 7)⟩,
                ⟨(some 27), none, .build [.int .i64 (0), .str [], .str []] [(0, 1, .t 23), (1, 1, .t 25), (2, 1, .t 26)]⟩,
                ⟨(some 28), none, .callv (.t 21) [.t 27]⟩,
                ⟨(some 29), none, .not (.t 28)⟩]) (
             .cond (.t 29) (
              .ret) (
              .skip))))) (
           .region [
             ⟨(some 30), none, .bin .add (.t 17) (.c (.int .i64 (1)))⟩,
             ⟨(some 17), none, .move (.t 30)⟩]))))))))) (
       .region [
         ⟨(some 31), none, .bin .add (.t 11) (.c (.int .i64 (1)))⟩,
         ⟨(some 11), none, .move (.t 31)⟩]))))))) (
    .seq (
     .region [
       ⟨(some 32), none, .fieldAddr 9 (.t 2)⟩,
       ⟨(some 33), none, .load false 1 (.t 32)⟩,
       ⟨(some 34), none, .lenSlice (.t 33)⟩,
       ⟨(some 35), none, .move (.c (.int .i64 (0)))⟩]) (
    .block 4 (
     .loop (
      .seq (
       .region [
         ⟨(some 36), none, .bin .lss (.t 35) (.t 34)⟩]) (
      .seq (
       .cond (.t 36) (
        .skip) (
        .exit 4)) (
      .seq (
       .block 5 (
        .seq (
         .region [
           ⟨(some 37), none, .indexAddr 1 (.t 33) (.t 35)⟩,
           ⟨(some 38), none, .load false 1 (.t 37)⟩,
           ⟨(some 9), none, .move (.t 38)⟩]) (
        .seq (
         .region [
           ⟨(some 39), none, .move (.t 0)⟩,
           ⟨(some 40), none, .move (.t 9)⟩,
           ⟨(some 41), none, .fieldAddr 0 (.t 2)⟩,
           ⟨(some 42), none, .load false 1 (.t 41)⟩,
           ⟨(some 43), none, .build [.int .i64 (0), .str [], .str []] [(0, 1, .c (.int .i64 (6))), (1, 1, .t 40), (2, 1, .t 42)]⟩,
           ⟨(some 44), none, .callv (.t 39) [.t 43]⟩,
           ⟨(some 45), none, .not (.t 44)⟩]) (
        .cond (.t 45) (
         .ret) (
         .skip))))) (
      .region [
        ⟨(some 46), none, .bin .add (.t 35) (.c (.int .i64 (1)))⟩,
        ⟨(some 35), none, .move (.t 46)⟩])))))))

/-- slices.Concat[[]string,string] -/
def c64 : CFunc where
  nparams := 1
  ntmps := 36
  results := [.tmp 2]
  body :=
    .seq (
     .region [
       ⟨(some 2), none, .move (.c (.nilSlice))⟩]) (
    .seq (
     .region [
       ⟨(some 3), none, .move (.c (.int .i64 (0)))⟩]) (
    .seq (
     .seq (
      .region [
        ⟨(some 9), none, .move (.t 0)⟩,
        ⟨(some 10), none, .lenSlice (.t 9)⟩,
        ⟨(some 11), none, .move (.c (.int .i64 (0)))⟩]) (
     .block 0 (
      .loop (
       .seq (
        .region [
          ⟨(some 12), none, .bin .lss (.t 11) (.t 10)⟩]) (
       .seq (
        .cond (.t 12) (
         .skip) (
         .exit 0)) (
       .seq (
        .block 1 (
         .seq (
          .region [
            ⟨(some 13), none, .indexAddr 1 (.t 9) (.t 11)⟩,
            ⟨(some 14), none, .load false 1 (.t 13)⟩,
            ⟨(some 5), none, .move (.t 14)⟩]) (
         .seq (
          .region [
            ⟨(some 15), none, .move (.t 3)⟩,
            ⟨(some 16), none, .move (.t 5)⟩,
            ⟨(some 17), none, .lenSlice (.t 16)⟩,
            ⟨(some 18), none, .bin .add (.t 15) (.t 17)⟩,
            ⟨(some 3), none, .move (.t 18)⟩]) (
         .seq (
          .region [
            ⟨(some 19), none, .move (.t 3)⟩,
            ⟨(some 20), none, .bin .lss (.t 19) (.c (.int .i64 (0)))⟩]) (
         .cond (.t 20) (
          .region [
            ⟨(some 21), none, .bad⟩,
            ⟨none, none, .bad⟩]) (
          .skip)))))) (
       .region [
         ⟨(some 22), none, .bin .add (.t 11) (.c (.int .i64 (1)))⟩,
         ⟨(some 11), none, .move (.t 22)⟩]))))))) (
    .seq (
     .region [
       ⟨(some 23), none, .move (.t 3)⟩,
       ⟨(some 24), none, .call 88 [.c (.nilSlice), .t 23]⟩,
       ⟨(some 6), none, .move (.t 24)⟩]) (
    .seq (
     .seq (
      .region [
        ⟨(some 25), none, .move (.t 0)⟩,
        ⟨(some 26), none, .lenSlice (.t 25)⟩,
        ⟨(some 27), none, .move (.c (.int .i64 (0)))⟩]) (
     .block 2 (
      .loop (
       .seq (
        .region [
          ⟨(some 28), none, .bin .lss (.t 27) (.t 26)⟩]) (
       .seq (
        .cond (.t 28) (
         .skip) (
         .exit 2)) (
       .seq (
        .block 3 (
         .seq (
          .region [
            ⟨(some 29), none, .indexAddr 1 (.t 25) (.t 27)⟩,
            ⟨(some 30), none, .load false 1 (.t 29)⟩,
            ⟨(some 8), none, .move (.t 30)⟩]) (
         .region [
           ⟨(some 31), none, .move (.t 6)⟩,
           ⟨(some 32), none, .move (.t 8)⟩,
           ⟨(some 33), none, .append 1 16 (.t 31) (.t 32)⟩,
           ⟨(some 6), none, .move (.t 33)⟩]))) (
       .region [
         ⟨(some 34), none, .bin .add (.t 27) (.c (.int .i64 (1)))⟩,
         ⟨(some 27), none, .move (.t 34)⟩]))))))) (
    .seq (
     .region [
       ⟨(some 35), none, .move (.t 6)⟩,
       ⟨(some 2), none, .move (.t 35)⟩]) (
    .ret))))))

/-- internal/bytealg.LastIndexByteString -/
def c65 : CFunc where
  nparams := 2
  ntmps := 19
  results := [.tmp 4]
  body :=
    .seq (
     .region [
       ⟨(some 4), none, .move (.c (.int .i64 (0)))⟩]) (
    .seq (
     .seq (
      .region [
        ⟨(some 6), none, .move (.t 0)⟩,
        ⟨(some 7), none, .lenStr (.t 6)⟩,
        ⟨(some 8), none, .bin .sub (.t 7) (.c (.int .i64 (1)))⟩,
        ⟨(some 5), none, .move (.t 8)⟩]) (
     .block 0 (
      .loop (
       .seq (
        .seq (
         .region [
           ⟨(some 9), none, .move (.t 5)⟩,
           ⟨(some 10), none, .bin .geq (.t 9) (.c (.int .i64 (0)))⟩]) (
        .cond (.t 10) (
         .skip) (
         .exit 0))) (
       .seq (
        .block 1 (
         .seq (
          .region [
            ⟨(some 13), none, .move (.t 0)⟩,
            ⟨(some 14), none, .move (.t 5)⟩,
            ⟨(some 15), none, .indexStr (.t 13) (.t 14)⟩,
            ⟨(some 16), none, .move (.t 1)⟩,
            ⟨(some 17), none, .bin .eql (.t 15) (.t 16)⟩]) (
         .cond (.t 17) (
          .seq (
           .region [
             ⟨(some 18), none, .move (.t 5)⟩,
             ⟨(some 4), none, .move (.t 18)⟩]) (
          .ret)) (
          .skip)))) (
       .region [
         ⟨(some 11), none, .move (.t 5)⟩,
         ⟨(some 12), none, .bin .sub (.t 11) (.c (.int .i64 (1)))⟩,
         ⟨(some 5), none, .move (.t 12)⟩])))))) (
    .seq (
     .region [
       ⟨(some 4), none, .move (.c (.int .i64 (-1)))⟩]) (
    .ret)))

/-- slices.Index[[]string,string] -/
def c66 : CFunc where
  nparams := 2
  ntmps := 19
  results := [.tmp 4]
  body :=
    .seq (
     .region [
       ⟨(some 4), none, .move (.c (.int .i64 (0)))⟩]) (
    .seq (
     .seq (
      .region [
        ⟨(some 6), none, .move (.t 0)⟩,
        ⟨(some 7), none, .lenSlice (.t 6)⟩,
        ⟨(some 8), none, .move (.c (.int .i64 (0)))⟩]) (
     .block 0 (
      .loop (
       .seq (
        .region [
          ⟨(some 9), none, .bin .lss (.t 8) (.t 7)⟩]) (
       .seq (
        .cond (.t 9) (
         .skip) (
         .exit 0)) (
       .seq (
        .block 1 (
         .seq (
          .region [
            ⟨(some 10), none, .move (.t 8)⟩,
            ⟨(some 5), none, .move (.t 10)⟩]) (
         .seq (
          .region [
            ⟨(some 11), none, .move (.t 1)⟩,
            ⟨(some 12), none, .move (.t 0)⟩,
            ⟨(some 13), none, .move (.t 5)⟩,
            ⟨(some 14), none, .indexAddr 1 (.t 12) (.t 13)⟩,
            ⟨(some 15), none, .load false 1 (.t 14)⟩,
            ⟨(some 16), none, .bin .eql (.t 11) (.t 15)⟩]) (
         .cond (.t 16) (
          .seq (
           .region [
             ⟨(some 17), none, .move (.t 5)⟩,
             ⟨(some 4), none, .move (.t 17)⟩]) (
          .ret)) (
          .skip))))) (
       .region [
         ⟨(some 18), none, .bin .add (.t 8) (.c (.int .i64 (1)))⟩,
         ⟨(some 8), none, .move (.t 18)⟩]))))))) (
    .seq (
     .region [
       ⟨(some 4), none, .move (.c (.int .i64 (-1)))⟩]) (
    .ret)))

/-- internal/stringslite.Cut -/
def c67 : CFunc where
  nparams := 2
  ntmps := 23
  results := [.tmp 4, .tmp 5, .tmp 6]
  body :=
    .seq (
     .region [
       ⟨(some 4), none, .move (.c (.str []))⟩,
       ⟨(some 5), none, .move (.c (.str []))⟩,
       ⟨(some 6), none, .move (.c (.bool false))⟩]) (
    .seq (
     .seq (
      .region [
        ⟨(some 8), none, .move (.t 0)⟩,
        ⟨(some 9), none, .move (.t 1)⟩,
        ⟨(some 10), none, .call 89 [.t 8, .t 9]⟩,
        ⟨(some 7), none, .move (.t 10)⟩]) (
     .seq (
      .region [
        ⟨(some 11), none, .move (.t 7)⟩,
        ⟨(some 12), none, .bin .geq (.t 11) (.c (.int .i64 (0)))⟩]) (
     .cond (.t 12) (
      .seq (
       .regionD [
         (⟨(some 13), none, .move (.t 0)⟩, []),
         (⟨(some 14), none, .move (.t 7)⟩, []),
         (⟨(some 15), none, .sliceStr (.t 13) none (some (.t 14))⟩, [0, 1]),
         (⟨(some 16), none, .move (.t 0)⟩, []),
         (⟨(some 17), none, .move (.t 7)⟩, []),
         (⟨(some 18), none, .move (.t 1)⟩, []),
         (⟨(some 19), none, .lenStr (.t 18)⟩, [5]),
         (⟨(some 20), none, .bin .add (.t 17) (.t 19)⟩, [4, 6]),
         (⟨(some 21), none, .sliceStr (.t 16) (some (.t 20)) none⟩, [3, 7]),
         (⟨(some 4), none, .move (.t 15)⟩, [2, 0, 1, 2]),
         (⟨(some 5), none, .move (.t 21)⟩, [8, 9, 0, 1, 2, 3, 4, 5, 6, 7, 8, 9]),
         (⟨(some 6), none, .move (.c (.bool true))⟩, [10, 0, 1, 2, 3, 4, 5, 6, 7, 8, 9, 10])]) (
      .ret)) (
      .skip)))) (
    .seq (
     .region [
       ⟨(some 22), none, .move (.t 0)⟩,
       ⟨(some 4), none, .move (.t 22)⟩,
       ⟨(some 5), none, .move (.c (.str []))⟩,
       ⟨(some 6), none, .move (.c (.bool false))⟩]) (
    .ret)))

/-- internal/stringslite.IndexByte -/
def c68 : CFunc where
  nparams := 2
  ntmps := 8
  results := [.tmp 4]
  body :=
    .seq (
     .region [
       ⟨(some 4), none, .move (.c (.int .i64 (0)))⟩]) (
    .seq (
     .region [
       ⟨(some 5), none, .move (.t 0)⟩,
       ⟨(some 6), none, .move (.t 1)⟩,
       ⟨(some 7), none, .call 90 [.t 5, .t 6]⟩,
       ⟨(some 4), none, .move (.t 7)⟩]) (
    .ret))

/-- slices.ContainsFunc[[]byte,byte] -/
def c69 : CFunc where
  nparams := 2
  ntmps := 9
  results := [.tmp 4]
  body :=
    .seq (
     .region [
       ⟨(some 4), none, .move (.c (.bool false))⟩]) (
    .seq (
     .region [
       ⟨(some 5), none, .move (.t 0)⟩,
       ⟨(some 6), none, .move (.t 1)⟩,
       ⟨(some 7), none, .call 91 [.t 5, .t 6]⟩,
       ⟨(some 8), none, .bin .geq (.t 7) (.c (.int .i64 (0)))⟩,
       ⟨(some 4), none, .move (.t 8)⟩]) (
    .ret))

/-- reveille/name.every$1 -/
def c70 : CFunc where
  nparams := 1
  ntmps := 8
  results := [.tmp 3]
  body :=
    .seq (
     .region [
       ⟨(some 3), none, .move (.c (.bool false))⟩]) (
    .seq (
     .region [
       ⟨(some 4), none, .load false 1 (.t 1)⟩,
       ⟨(some 5), none, .move (.t 0)⟩,
       ⟨(some 6), none, .callv (.t 4) [.t 5]⟩,
       ⟨(some 7), none, .not (.t 6)⟩,
       ⟨(some 3), none, .move (.t 7)⟩]) (
    .ret))

/-- slices.Grow[[]string,string] -/
def c88 : CFunc where
  nparams := 2
  ntmps := 27
  results := [.tmp 4]
  body :=
    .seq (
     .region [
       ⟨(some 4), none, .move (.c (.nilSlice))⟩]) (
    .seq (
     .seq (
      .region [
        ⟨(some 5), none, .move (.t 1)⟩,
        ⟨(some 6), none, .bin .lss (.t 5) (.c (.int .i64 (0)))⟩]) (
     .cond (.t 6) (
      .region [
        ⟨(some 7), none, .bad⟩,
        ⟨none, none, .bad⟩]) (
      .skip))) (
    .seq (
     .seq (
      .region [
        ⟨(some 8), none, .move (.t 1)⟩,
        ⟨(some 9), none, .move (.t 0)⟩,
        ⟨(some 10), none, .bad⟩,
        ⟨(some 11), none, .move (.t 0)⟩,
        ⟨(some 12), none, .lenSlice (.t 11)⟩,
        ⟨(some 13), none, .bin .sub (.t 10) (.t 12)⟩,
        ⟨(some 14), none, .bin .sub (.t 8) (.t 13)⟩,
        ⟨(some 1), none, .move (.t 14)⟩]) (
     .seq (
      .region [
        ⟨(some 15), none, .move (.t 1)⟩,
        ⟨(some 16), none, .bin .gtr (.t 15) (.c (.int .i64 (0)))⟩]) (
     .cond (.t 16) (
      .region [
        ⟨(some 17), none, .move (.t 0)⟩,
        ⟨(some 18), none, .move (.t 0)⟩,
        ⟨(some 19), none, .bad⟩,
        ⟨(some 20), none, .sliceRow 1 (.t 17) none (some (.t 19))⟩,
        ⟨(some 21), none, .move (.t 1)⟩,
        ⟨(some 22), none, .bad⟩,
        ⟨(some 23), none, .move (.t 0)⟩,
        ⟨(some 24), none, .lenSlice (.t 23)⟩,
        ⟨(some 25), none, .sliceRow 1 (.t 22) none (some (.t 24))⟩,
        ⟨(some 0), none, .move (.t 25)⟩]) (
      .skip)))) (
    .seq (
     .region [
       ⟨(some 26), none, .move (.t 0)⟩,
       ⟨(some 4), none, .move (.t 26)⟩]) (
    .ret))))

/-- internal/stringslite.Index -/
def c89 : CFunc where
  nparams := 2
  ntmps := 143
  results := [.tmp 4]
  body :=
    .seq (
     .region [
       ⟨(some 4), none, .move (.c (.int .i64 (0)))⟩]) (
    .seq (
     .region [
       ⟨(some 14), none, .move (.t 1)⟩,
       ⟨(some 15), none, .lenStr (.t 14)⟩,
       ⟨(some 5), none, .move (.t 15)⟩]) (
    .seq (
     .block 0 (
      .seq (
       .region [
         ⟨(some 17), none, .move (.t 5)⟩,
         ⟨(some 18), none, .bin .eql (.t 17) (.c (.int .i64 (0)))⟩,
         ⟨(some 19), none, .move (.t 18)⟩,
         ⟨(some 20), (some (19, false)), .move (.t 1)⟩,
         ⟨(some 21), (some (19, false)), .move (.t 0)⟩,
         ⟨(some 22), (some (19, false)), .bin .eql (.t 20) (.t 21)⟩,
         ⟨(some 23), none, .pick (.t 19) (.c (.bool true)) (.t 22)⟩,
         ⟨(some 16), none, .move (.t 23)⟩]) (
      .cond (.t 16) (
       .seq (
        .region [
          ⟨(some 4), none, .move (.c (.int .i64 (0)))⟩]) (
       .ret)) (
       .seq (
        .region [
          ⟨(some 25), none, .move (.t 5)⟩,
          ⟨(some 26), none, .bin .eql (.t 25) (.c (.int .i64 (1)))⟩,
          ⟨(some 24), none, .move (.t 26)⟩]) (
       .cond (.t 24) (
        .seq (
         .region [
           ⟨(some 27), none, .move (.t 0)⟩,
           ⟨(some 28), none, .move (.t 1)⟩,
           ⟨(some 29), none, .indexStr (.t 28) (.c (.int .i64 (0)))⟩,
           ⟨(some 30), none, .call 68 [.t 27, .t 29]⟩,
           ⟨(some 4), none, .move (.t 30)⟩]) (
        .ret)) (
        .seq (
         .region [
           ⟨(some 32), none, .move (.t 5)⟩,
           ⟨(some 33), none, .move (.t 0)⟩,
           ⟨(some 34), none, .lenStr (.t 33)⟩,
           ⟨(some 35), none, .bin .geq (.t 32) (.t 34)⟩,
           ⟨(some 31), none, .move (.t 35)⟩]) (
        .cond (.t 31) (
         .seq (
          .region [
            ⟨(some 4), none, .move (.c (.int .i64 (-1)))⟩]) (
         .ret)) (
         .seq (
          .region [
            ⟨(some 37), none, .move (.t 5)⟩,
            ⟨(some 38), none, .bad⟩,
            ⟨(some 39), none, .bin .leq (.t 37) (.t 38)⟩,
            ⟨(some 40), none, .move (.t 39)⟩,
            ⟨(some 41), (some (40, true)), .move (.t 0)⟩,
            ⟨(some 42), (some (40, true)), .lenStr (.t 41)⟩,
            ⟨(some 43), (some (40, true)), .bin .leq (.t 42) (.c (.int .i64 (64)))⟩,
            ⟨(some 44), none, .pick (.t 40) (.t 43) (.c (.bool false))⟩,
            ⟨(some 36), none, .move (.t 44)⟩]) (
         .cond (.t 36) (
          .seq (
           .region [
             ⟨(some 45), none, .move (.t 0)⟩,
             ⟨(some 46), none, .move (.t 1)⟩,
             ⟨(some 47), none, .call 100 [.t 45, .t 46]⟩,
             ⟨(some 4), none, .move (.t 47)⟩]) (
          .ret)) (
          .skip)))))))))) (
    .seq (
     .region [
       ⟨(some 48), none, .move (.t 1)⟩,
       ⟨(some 49), none, .indexStr (.t 48) (.c (.int .i64 (0)))⟩,
       ⟨(some 6), none, .move (.t 49)⟩]) (
    .seq (
     .region [
       ⟨(some 50), none, .move (.t 1)⟩,
       ⟨(some 51), none, .indexStr (.t 50) (.c (.int .i64 (1)))⟩,
       ⟨(some 7), none, .move (.t 51)⟩]) (
    .seq (
     .region [
       ⟨(some 8), none, .move (.c (.int .i64 (0)))⟩]) (
    .seq (
     .region [
       ⟨(some 52), none, .move (.t 0)⟩,
       ⟨(some 53), none, .lenStr (.t 52)⟩,
       ⟨(some 54), none, .move (.t 5)⟩,
       ⟨(some 55), none, .bin .sub (.t 53) (.t 54)⟩,
       ⟨(some 56), none, .bin .add (.t 55) (.c (.int .i64 (1)))⟩,
       ⟨(some 9), none, .move (.t 56)⟩]) (
    .seq (
     .region [
       ⟨(some 10), none, .move (.c (.int .i64 (0)))⟩]) (
    .seq (
     .block 1 (
      .loop (
       .seq (
        .seq (
         .region [
           ⟨(some 57), none, .move (.t 8)⟩,
           ⟨(some 58), none, .move (.t 9)⟩,
           ⟨(some 59), none, .bin .lss (.t 57) (.t 58)⟩]) (
        .cond (.t 59) (
         .skip) (
         .exit 1))) (
       .block 2 (
        .seq (
         .seq (
          .region [
            ⟨(some 60), none, .move (.t 0)⟩,
            ⟨(some 61), none, .move (.t 8)⟩,
            ⟨(some 62), none, .indexStr (.t 60) (.t 61)⟩,
            ⟨(some 63), none, .move (.t 6)⟩,
            ⟨(some 64), none, .bin .neq (.t 62) (.t 63)⟩]) (
         .cond (.t 64) (
          .seq (
           .region [
             ⟨(some 65), none, .move (.t 0)⟩,
             ⟨(some 66), none, .move (.t 8)⟩,
             ⟨(some 67), none, .bin .add (.t 66) (.c (.int .i64 (1)))⟩,
             ⟨(some 68), none, .move (.t 9)⟩,
             ⟨(some 69), none, .sliceStr (.t 65) (some (.t 67)) (some (.t 68))⟩,
             ⟨(some 70), none, .move (.t 6)⟩,
             ⟨(some 71), none, .call 68 [.t 69, .t 70]⟩,
             ⟨(some 11), none, .move (.t 71)⟩]) (
          .seq (
           .seq (
            .region [
              ⟨(some 72), none, .move (.t 11)⟩,
              ⟨(some 73), none, .bin .lss (.t 72) (.c (.int .i64 (0)))⟩]) (
           .cond (.t 73) (
            .seq (
             .region [
               ⟨(some 4), none, .move (.c (.int .i64 (-1)))⟩]) (
            .ret)) (
            .skip))) (
          .region [
            ⟨(some 74), none, .move (.t 8)⟩,
            ⟨(some 75), none, .move (.t 11)⟩,
            ⟨(some 76), none, .bin .add (.t 75) (.c (.int .i64 (1)))⟩,
            ⟨(some 77), none, .bin .add (.t 74) (.t 76)⟩,
            ⟨(some 8), none, .move (.t 77)⟩]))) (
          .skip))) (
        .seq (
         .seq (
          .region [
            ⟨(some 78), none, .move (.t 0)⟩,
            ⟨(some 79), none, .move (.t 8)⟩,
            ⟨(some 80), none, .bin .add (.t 79) (.c (.int .i64 (1)))⟩,
            ⟨(some 81), none, .indexStr (.t 78) (.t 80)⟩,
            ⟨(some 82), none, .move (.t 7)⟩,
            ⟨(some 83), none, .bin .eql (.t 81) (.t 82)⟩,
            ⟨(some 84), none, .move (.t 83)⟩,
            ⟨(some 85), (some (84, true)), .move (.t 0)⟩,
            ⟨(some 86), (some (84, true)), .move (.t 8)⟩,
            ⟨(some 87), (some (84, true)), .move (.t 8)⟩,
            ⟨(some 88), (some (84, true)), .move (.t 5)⟩,
            ⟨(some 89), (some (84, true)), .bin .add (.t 87) (.t 88)⟩,
            ⟨(some 90), (some (84, true)), .sliceStr (.t 85) (some (.t 86)) (some (.t 89))⟩,
            ⟨(some 91), (some (84, true)), .move (.t 1)⟩,
            ⟨(some 92), (some (84, true)), .bin .eql (.t 90) (.t 91)⟩,
            ⟨(some 93), none, .pick (.t 84) (.t 92) (.c (.bool false))⟩]) (
         .cond (.t 93) (
          .seq (
           .region [
             ⟨(some 94), none, .move (.t 8)⟩,
             ⟨(some 4), none, .move (.t 94)⟩]) (
          .ret)) (
          .skip))) (
        .seq (
         .region [
           ⟨(some 95), none, .move (.t 8)⟩,
           ⟨(some 96), none, .bin .add (.t 95) (.c (.int .i64 (1)))⟩,
           ⟨(some 8), none, .move (.t 96)⟩]) (
        .seq (
         .region [
           ⟨(some 97), none, .move (.t 10)⟩,
           ⟨(some 98), none, .bin .add (.t 97) (.c (.int .i64 (1)))⟩,
           ⟨(some 10), none, .move (.t 98)⟩]) (
        .seq (
         .region [
           ⟨(some 99), none, .move (.t 5)⟩,
           ⟨(some 100), none, .bad⟩,
           ⟨(some 101), none, .bin .leq (.t 99) (.t 100)⟩,
           ⟨(some 102), none, .move (.t 101)⟩,
           ⟨(some 103), (some (102, true)), .move (.t 10)⟩,
           ⟨(some 104), (some (102, true)), .move (.t 8)⟩,
           ⟨(some 105), (some (102, true)), .call 101 [.t 104]⟩,
           ⟨(some 106), (some (102, true)), .bin .gtr (.t 103) (.t 105)⟩,
           ⟨(some 107), none, .pick (.t 102) (.t 106) (.c (.bool false))⟩]) (
        .cond (.t 107) (
         .seq (
          .region [
            ⟨(some 108), none, .move (.t 0)⟩,
            ⟨(some 109), none, .move (.t 8)⟩,
            ⟨(some 110), none, .sliceStr (.t 108) (some (.t 109)) none⟩,
            ⟨(some 111), none, .move (.t 1)⟩,
            ⟨(some 112), none, .call 100 [.t 110, .t 111]⟩,
            ⟨(some 12), none, .move (.t 112)⟩]) (
         .seq (
          .seq (
           .region [
             ⟨(some 113), none, .move (.t 12)⟩,
             ⟨(some 114), none, .bin .geq (.t 113) (.c (.int .i64 (0)))⟩]) (
          .cond (.t 114) (
           .seq (
            .region [
              ⟨(some 115), none, .move (.t 12)⟩,
              ⟨(some 116), none, .move (.t 8)⟩,
              ⟨(some 117), none, .bin .add (.t 115) (.t 116)⟩,
              ⟨(some 4), none, .move (.t 117)⟩]) (
           .ret)) (
           .skip))) (
         .seq (
          .region [
            ⟨(some 4), none, .move (.c (.int .i64 (-1)))⟩]) (
         .ret)))) (
         .seq (
          .region [
            ⟨(some 118), none, .move (.t 5)⟩,
            ⟨(some 119), none, .bad⟩,
            ⟨(some 120), none, .bin .gtr (.t 118) (.t 119)⟩,
            ⟨(some 121), none, .move (.t 120)⟩,
            ⟨(some 122), (some (121, true)), .move (.t 10)⟩,
            ⟨(some 123), (some (121, true)), .move (.t 8)⟩,
            ⟨(some 124), (some (121, true)), .bin .shr (.t 123) (.c (.int .u64 (4)))⟩,
            ⟨(some 125), (some (121, true)), .bin .add (.c (.int .i64 (4))) (.t 124)⟩,
            ⟨(some 126), (some (121, true)), .bin .geq (.t 122) (.t 125)⟩,
            ⟨(some 127), none, .pick (.t 121) (.t 126) (.c (.bool false))⟩,
            ⟨(some 128), none, .move (.t 127)⟩,
            ⟨(some 129), (some (128, true)), .move (.t 8)⟩,
            ⟨(some 130), (some (128, true)), .move (.t 9)⟩,
            ⟨(some 131), (some (128, true)), .bin .lss (.t 129) (.t 130)⟩,
            ⟨(some 132), none, .pick (.t 128) (.t 131) (.c (.bool false))⟩]) (
         .cond (.t 132) (
          .seq (
           .region [
             ⟨(some 133), none, .move (.t 0)⟩,
             ⟨(some 134), none, .move (.t 8)⟩,
             ⟨(some 135), none, .sliceStr (.t 133) (some (.t 134)) none⟩,
             ⟨(some 136), none, .move (.t 1)⟩,
             ⟨(some 137), none, .call 102 [.t 135, .t 136]⟩,
             ⟨(some 13), none, .move (.t 137)⟩]) (
          .seq (
           .seq (
            .region [
              ⟨(some 138), none, .move (.t 13)⟩,
              ⟨(some 139), none, .bin .lss (.t 138) (.c (.int .i64 (0)))⟩]) (
           .cond (.t 139) (
            .seq (
             .region [
               ⟨(some 4), none, .move (.c (.int .i64 (-1)))⟩]) (
            .ret)) (
            .skip))) (
          .seq (
           .region [
             ⟨(some 140), none, .move (.t 8)⟩,
             ⟨(some 141), none, .move (.t 13)⟩,
             ⟨(some 142), none, .bin .add (.t 140) (.t 141)⟩,
             ⟨(some 4), none, .move (.t 142)⟩]) (
          .ret)))) (
          .skip))))))))))))) (
    .seq (
     .region [
       ⟨(some 4), none, .move (.c (.int .i64 (-1)))⟩]) (
    .ret))))))))))

/-- slices.IndexFunc[[]byte,byte] -/
def c91 : CFunc where
  nparams := 2
  ntmps := 19
  results := [.tmp 4]
  body :=
    .seq (
     .region [
       ⟨(some 4), none, .move (.c (.int .i64 (0)))⟩]) (
    .seq (
     .seq (
      .region [
        ⟨(some 6), none, .move (.t 0)⟩,
        ⟨(some 7), none, .lenSlice (.t 6)⟩,
        ⟨(some 8), none, .move (.c (.int .i64 (0)))⟩]) (
     .block 0 (
      .loop (
       .seq (
        .region [
          ⟨(some 9), none, .bin .lss (.t 8) (.t 7)⟩]) (
       .seq (
        .cond (.t 9) (
         .skip) (
         .exit 0)) (
       .seq (
        .block 1 (
         .seq (
          .region [
            ⟨(some 10), none, .move (.t 8)⟩,
            ⟨(some 5), none, .move (.t 10)⟩]) (
         .seq (
          .region [
            ⟨(some 11), none, .move (.t 1)⟩,
            ⟨(some 12), none, .move (.t 0)⟩,
            ⟨(some 13), none, .move (.t 5)⟩,
            ⟨(some 14), none, .indexAddr 1 (.t 12) (.t 13)⟩,
            ⟨(some 15), none, .load false 1 (.t 14)⟩,
            ⟨(some 16), none, .callv (.t 11) [.t 15]⟩]) (
         .cond (.t 16) (
          .seq (
           .region [
             ⟨(some 17), none, .move (.t 5)⟩,
             ⟨(some 4), none, .move (.t 17)⟩]) (
          .ret)) (
          .skip))))) (
       .region [
         ⟨(some 18), none, .bin .add (.t 8) (.c (.int .i64 (1)))⟩,
         ⟨(some 8), none, .move (.t 18)⟩]))))))) (
    .seq (
     .region [
       ⟨(some 4), none, .move (.c (.int .i64 (-1)))⟩]) (
    .ret)))

/-- internal/bytealg.Cutover -/
def c101 : CFunc where
  nparams := 1
  ntmps := 6
  results := [.tmp 2]
  body :=
    .seq (
     .region [
       ⟨(some 2), none, .move (.c (.int .i64 (0)))⟩]) (
    .seq (
     .region [
       ⟨(some 3), none, .move (.t 0)⟩,
       ⟨(some 4), none, .bin .add (.t 3) (.c (.int .i64 (16)))⟩,
       ⟨(some 5), none, .bin .quo (.t 4) (.c (.int .i64 (8)))⟩,
       ⟨(some 2), none, .move (.t 5)⟩]) (
    .ret))

/-- internal/bytealg.IndexRabinKarp[string] -/
def c102 : CFunc where
  nparams := 2
  ntmps := 81
  results := [.tmp 4]
  body :=
    .seq (
     .region [
       ⟨(some 4), none, .move (.c (.int .i64 (0)))⟩]) (
    .seq (
     .region [
       ⟨(some 12), none, .move (.t 1)⟩,
       ⟨(some 13), none, .call 105 [.t 12]⟩,
       ⟨(some 11), none, .move (.t 13)⟩,
       ⟨(some 14), none, .extract (.t 11) 0⟩,
       ⟨(some 15), none, .extract (.t 11) 1⟩,
       ⟨(some 5), none, .move (.t 14)⟩,
       ⟨(some 6), none, .move (.t 15)⟩]) (
    .seq (
     .region [
       ⟨(some 16), none, .move (.t 1)⟩,
       ⟨(some 17), none, .lenStr (.t 16)⟩,
       ⟨(some 7), none, .move (.t 17)⟩]) (
    .seq (
     .region [
       ⟨(some 8), none, .move (.c (.int .u32 (0)))⟩]) (
    .seq (
     .seq (
      .region [
        ⟨(some 9), none, .move (.c (.int .i64 (0)))⟩]) (
     .block 0 (
      .loop (
       .seq (
        .seq (
         .region [
           ⟨(some 18), none, .move (.t 9)⟩,
           ⟨(some 19), none, .move (.t 7)⟩,
           ⟨(some 20), none, .bin .lss (.t 18) (.t 19)⟩]) (
        .cond (.t 20) (
         .skip) (
         .exit 0))) (
       .seq (
        .block 1 (
         .region [
           ⟨(some 23), none, .move (.t 8)⟩,
           ⟨(some 24), none, .bin .mul (.t 23) (.c (.int .u32 (16777619)))⟩,
           ⟨(some 25), none, .move (.t 0)⟩,
           ⟨(some 26), none, .move (.t 9)⟩,
           ⟨(some 27), none, .indexStr (.t 25) (.t 26)⟩,
           ⟨(some 28), none, .conv .u32 (.t 27)⟩,
           ⟨(some 29), none, .bin .add (.t 24) (.t 28)⟩,
           ⟨(some 8), none, .move (.t 29)⟩])) (
       .region [
         ⟨(some 21), none, .move (.t 9)⟩,
         ⟨(some 22), none, .bin .add (.t 21) (.c (.int .i64 (1)))⟩,
         ⟨(some 9), none, .move (.t 22)⟩])))))) (
    .seq (
     .seq (
      .region [
        ⟨(some 30), none, .move (.t 8)⟩,
        ⟨(some 31), none, .move (.t 5)⟩,
        ⟨(some 32), none, .bin .eql (.t 30) (.t 31)⟩,
        ⟨(some 33), none, .move (.t 32)⟩,
        ⟨(some 34), (some (33, true)), .move (.t 0)⟩,
        ⟨(some 35), (some (33, true)), .move (.t 7)⟩,
        ⟨(some 36), (some (33, true)), .sliceStr (.t 34) none (some (.t 35))⟩,
        ⟨(some 37), (some (33, true)), .move (.t 1)⟩,
        ⟨(some 38), (some (33, true)), .bin .eql (.t 36) (.t 37)⟩,
        ⟨(some 39), none, .pick (.t 33) (.t 38) (.c (.bool false))⟩]) (
     .cond (.t 39) (
      .seq (
       .region [
         ⟨(some 4), none, .move (.c (.int .i64 (0)))⟩]) (
      .ret)) (
      .skip))) (
    .seq (
     .seq (
      .region [
        ⟨(some 40), none, .move (.t 7)⟩,
        ⟨(some 10), none, .move (.t 40)⟩]) (
     .block 2 (
      .loop (
       .seq (
        .seq (
         .region [
           ⟨(some 41), none, .move (.t 10)⟩,
           ⟨(some 42), none, .move (.t 0)⟩,
           ⟨(some 43), none, .lenStr (.t 42)⟩,
           ⟨(some 44), none, .bin .lss (.t 41) (.t 43)⟩]) (
        .cond (.t 44) (
         .skip) (
         .exit 2))) (
       .block 3 (
        .seq (
         .region [
           ⟨(some 45), none, .move (.t 8)⟩,
           ⟨(some 46), none, .bin .mul (.t 45) (.c (.int .u32 (16777619)))⟩,
           ⟨(some 8), none, .move (.t 46)⟩]) (
        .seq (
         .region [
           ⟨(some 47), none, .move (.t 8)⟩,
           ⟨(some 48), none, .move (.t 0)⟩,
           ⟨(some 49), none, .move (.t 10)⟩,
           ⟨(some 50), none, .indexStr (.t 48) (.t 49)⟩,
           ⟨(some 51), none, .conv .u32 (.t 50)⟩,
           ⟨(some 52), none, .bin .add (.t 47) (.t 51)⟩,
           ⟨(some 8), none, .move (.t 52)⟩]) (
        .seq (
         .region [
           ⟨(some 53), none, .move (.t 8)⟩,
           ⟨(some 54), none, .move (.t 6)⟩,
           ⟨(some 55), none, .move (.t 0)⟩,
           ⟨(some 56), none, .move (.t 10)⟩,
           ⟨(some 57), none, .move (.t 7)⟩,
           ⟨(some 58), none, .bin .sub (.t 56) (.t 57)⟩,
           ⟨(some 59), none, .indexStr (.t 55) (.t 58)⟩,
           ⟨(some 60), none, .conv .u32 (.t 59)⟩,
           ⟨(some 61), none, .bin .mul (.t 54) (.t 60)⟩,
           ⟨(some 62), none, .bin .sub (.t 53) (.t 61)⟩,
           ⟨(some 8), none, .move (.t 62)⟩]) (
        .seq (
         .region [
           ⟨(some 63), none, .move (.t 10)⟩,
           ⟨(some 64), none, .bin .add (.t 63) (.c (.int .i64 (1)))⟩,
           ⟨(some 10), none, .move (.t 64)⟩]) (
        .seq (
         .region [
           ⟨(some 65), none, .move (.t 8)⟩,
           ⟨(some 66), none, .move (.t 5)⟩,
           ⟨(some 67), none, .bin .eql (.t 65) (.t 66)⟩,
           ⟨(some 68), none, .move (.t 67)⟩,
           ⟨(some 69), (some (68, true)), .move (.t 0)⟩,
           ⟨(some 70), (some (68, true)), .move (.t 10)⟩,
           ⟨(some 71), (some (68, true)), .move (.t 7)⟩,
           ⟨(some 72), (some (68, true)), .bin .sub (.t 70) (.t 71)⟩,
           ⟨(some 73), (some (68, true)), .move (.t 10)⟩,
           ⟨(some 74), (some (68, true)), .sliceStr (.t 69) (some (.t 72)) (some (.t 73))⟩,
           ⟨(some 75), (some (68, true)), .move (.t 1)⟩,
           ⟨(some 76), (some (68, true)), .bin .eql (.t 74) (.t 75)⟩,
           ⟨(some 77), none, .pick (.t 68) (.t 76) (.c (.bool false))⟩]) (
        .cond (.t 77) (
         .seq (
          .region [
            ⟨(some 78), none, .move (.t 10)⟩,
            ⟨(some 79), none, .move (.t 7)⟩,
            ⟨(some 80), none, .bin .sub (.t 78) (.t 79)⟩,
            ⟨(some 4), none, .move (.t 80)⟩]) (
         .ret)) (
         .skip)))))))))))) (
    .seq (
     .region [
       ⟨(some 4), none, .move (.c (.int .i64 (-1)))⟩]) (
    .ret))))))))

/-- internal/bytealg.hashStr[string] -/
def c105 : CFunc where
  nparams := 1
  ntmps := 39
  results := [.tmp 2, .tmp 3]
  body :=
    .seq (
     .region [
       ⟨(some 2), none, .move (.c (.int .u32 (0)))⟩,
       ⟨(some 3), none, .move (.c (.int .u32 (0)))⟩]) (
    .seq (
     .region [
       ⟨(some 4), none, .move (.c (.int .u32 (0)))⟩]) (
    .seq (
     .seq (
      .region [
        ⟨(some 5), none, .move (.c (.int .i64 (0)))⟩]) (
     .block 0 (
      .loop (
       .seq (
        .seq (
         .region [
           ⟨(some 9), none, .move (.t 5)⟩,
           ⟨(some 10), none, .move (.t 0)⟩,
           ⟨(some 11), none, .lenStr (.t 10)⟩,
           ⟨(some 12), none, .bin .lss (.t 9) (.t 11)⟩]) (
        .cond (.t 12) (
         .skip) (
         .exit 0))) (
       .seq (
        .block 1 (
         .region [
           ⟨(some 15), none, .move (.t 4)⟩,
           ⟨(some 16), none, .bin .mul (.t 15) (.c (.int .u32 (16777619)))⟩,
           ⟨(some 17), none, .move (.t 0)⟩,
           ⟨(some 18), none, .move (.t 5)⟩,
           ⟨(some 19), none, .indexStr (.t 17) (.t 18)⟩,
           ⟨(some 20), none, .conv .u32 (.t 19)⟩,
           ⟨(some 21), none, .bin .add (.t 16) (.t 20)⟩,
           ⟨(some 4), none, .move (.t 21)⟩])) (
       .region [
         ⟨(some 13), none, .move (.t 5)⟩,
         ⟨(some 14), none, .bin .add (.t 13) (.c (.int .i64 (1)))⟩,
         ⟨(some 5), none, .move (.t 14)⟩])))))) (
    .seq (
     .region [
       ⟨(some 6), none, .move (.c (.int .u32 (1)))⟩,
       ⟨(some 7), none, .move (.c (.int .u32 (16777619)))⟩]) (
    .seq (
     .seq (
      .region [
        ⟨(some 22), none, .move (.t 0)⟩,
        ⟨(some 23), none, .lenStr (.t 22)⟩,
        ⟨(some 8), none, .move (.t 23)⟩]) (
     .block 2 (
      .loop (
       .seq (
        .seq (
         .region [
           ⟨(some 24), none, .move (.t 8)⟩,
           ⟨(some 25), none, .bin .gtr (.t 24) (.c (.int .i64 (0)))⟩]) (
        .cond (.t 25) (
         .skip) (
         .exit 2))) (
       .seq (
        .block 3 (
         .seq (
          .seq (
           .region [
             ⟨(some 28), none, .move (.t 8)⟩,
             ⟨(some 29), none, .bin .and (.t 28) (.c (.int .i64 (1)))⟩,
             ⟨(some 30), none, .bin .neq (.t 29) (.c (.int .i64 (0)))⟩]) (
          .cond (.t 30) (
           .region [
             ⟨(some 31), none, .move (.t 6)⟩,
             ⟨(some 32), none, .move (.t 7)⟩,
             ⟨(some 33), none, .bin .mul (.t 31) (.t 32)⟩,
             ⟨(some 6), none, .move (.t 33)⟩]) (
           .skip))) (
         .region [
           ⟨(some 34), none, .move (.t 7)⟩,
           ⟨(some 35), none, .move (.t 7)⟩,
           ⟨(some 36), none, .bin .mul (.t 34) (.t 35)⟩,
           ⟨(some 7), none, .move (.t 36)⟩]))) (
       .region [
         ⟨(some 26), none, .move (.t 8)⟩,
         ⟨(some 27), none, .bin .shr (.t 26) (.c (.int .u64 (1)))⟩,
         ⟨(some 8), none, .move (.t 27)⟩])))))) (
    .seq (
     .region [
       ⟨(some 37), none, .move (.t 4)⟩,
       ⟨(some 38), none, .move (.t 6)⟩,
       ⟨(some 2), none, .move (.t 37)⟩,
       ⟨(some 3), none, .move (.t 38)⟩]) (
    .ret))))))

end Go.Rv.Gf
