/- The intermediate form of the functions. Printed by a program. -/
import Derived.Test.YtihhgkobmnjamaaFc
namespace Go.DW.Ic
def mill_New : IC :=
 .seq (.reg false [] [⟨(some 4), .mv, [.c .junk], none⟩])
 (.seq (.seq (.reg false [] [⟨(some 5), .mv, [.t 0], none⟩,
      ⟨(some 6), .len, [.t 5], none⟩,
      ⟨(some 7), .mv, [.t 1], none⟩,
      ⟨(some 8), .bin .gtr, [.t 6, .t 7], none⟩])
   (.cond (.t 8)
     (.reg false [] [⟨(some 9), .mv, [.t 0], none⟩,
        ⟨(some 10), .mv, [.t 1], none⟩,
        ⟨(some 11), .slc 1 false true, [.t 9, .t 10], none⟩,
        ⟨(some 0), .mv, [.t 11], none⟩])
     (.skip)))
  (.seq (.reg false [] [⟨(some 12), .mv, [.t 0], none⟩,
      ⟨(some 13), .build [.nils, (.p (.i .i64 0))] [(0, 1)], [.t 12], none⟩,
      ⟨(some 14), .box 2, [.t 13], none⟩,
      ⟨(some 4), .mv, [.t 14], none⟩])
   (.ret)))

def ref24_SameBytes : IC :=
 .seq (.reg false [] [⟨(some 4), .mv, [.c (.p (.b false))], none⟩])
 (.seq (.reg false [] [⟨(some 5), .mv, [.t 0], none⟩,
     ⟨(some 6), .b2s, [.t 5], none⟩,
     ⟨(some 7), .mv, [.t 1], none⟩,
     ⟨(some 8), .b2s, [.t 7], none⟩,
     ⟨(some 9), .beq true false, [.t 6, .t 8], none⟩,
     ⟨(some 4), .mv, [.t 9], none⟩])
  (.ret))

def mill_Case_Int : IC :=
 .seq (.reg false [] [⟨(some 4), .mv, [.c (.p (.i .i64 0))], none⟩])
 (.seq (.seq (.reg true [(3, 7), (4, 7), (5, 7), (6, 7), (3, 8), (4, 8), (5, 8), (6, 8), (3, 9), (4, 9), (5, 9), (6, 9), (3, 10), (4, 10), (5, 10), (6, 10), (3, 11), (4, 11), (5, 11), (6, 11)] [⟨(some 5), .mv, [.t 1], none⟩,
      ⟨(some 6), .bin .lss, [.t 5, .c (.p (.i .i64 2))], none⟩,
      ⟨(some 7), .mv, [.t 6], none⟩,
      ⟨(some 8), .mv, [.t 0], (some (7, false))⟩,
      ⟨(some 9), .nilck, [.t 8], (some (7, false))⟩,
      ⟨(some 10), .fad 1, [.t 9], (some (7, false))⟩,
      ⟨(some 11), .load false 1, [.t 10], (some (7, false))⟩,
      ⟨(some 12), .mv, [.t 0], (some (7, false))⟩,
      ⟨(some 13), .nilck, [.t 12], (some (7, false))⟩,
      ⟨(some 14), .fad 0, [.t 13], (some (7, false))⟩,
      ⟨(some 15), .load false 1, [.t 14], (some (7, false))⟩,
      ⟨(some 16), .len, [.t 15], (some (7, false))⟩,
      ⟨(some 17), .bin .geq, [.t 11, .t 16], (some (7, false))⟩,
      ⟨(some 18), .pick, [.t 7, .c (.p (.b true)), .t 17], none⟩])
   (.cond (.t 18)
     (.seq (.reg false [] [⟨(some 4), .mv, [.c (.p (.i .i64 0))], none⟩])
      (.ret))
     (.skip)))
  (.seq (.reg false [] [⟨(some 19), .mv, [.t 0], none⟩,
      ⟨(some 20), .nilck, [.t 19], none⟩,
      ⟨(some 21), .fad 1, [.t 20], none⟩,
      ⟨(some 22), .load false 1, [.t 21], none⟩,
      ⟨(some 23), .bin .add, [.t 22, .c (.p (.i .i64 1))], none⟩,
      ⟨(some 24), .nilck, [.t 19], none⟩,
      ⟨(some 25), .fad 1, [.t 24], none⟩,
      ⟨none, .store 1, [.t 25, .t 23], none⟩])
   (.seq (.reg true [(0, 4), (1, 4), (2, 4), (3, 4), (0, 5), (1, 5), (2, 5), (3, 5), (0, 6), (1, 6), (2, 6), (3, 6), (0, 7), (1, 7), (2, 7), (3, 7), (0, 8), (1, 8), (2, 8), (3, 8), (0, 12), (1, 12), (2, 12), (3, 12), (4, 12), (5, 12), (6, 12), (7, 12), (8, 12), (9, 12), (10, 12), (11, 12)] [⟨(some 26), .mv, [.t 0], none⟩,
       ⟨(some 27), .nilck, [.t 26], none⟩,
       ⟨(some 28), .fad 0, [.t 27], none⟩,
       ⟨(some 29), .load false 1, [.t 28], none⟩,
       ⟨(some 30), .mv, [.t 0], none⟩,
       ⟨(some 31), .nilck, [.t 30], none⟩,
       ⟨(some 32), .fad 1, [.t 31], none⟩,
       ⟨(some 33), .load false 1, [.t 32], none⟩,
       ⟨(some 34), .bin .sub, [.t 33, .c (.p (.i .i64 1))], none⟩,
       ⟨(some 35), .iad 1, [.t 29, .t 34], none⟩,
       ⟨(some 36), .load false 1, [.t 35], none⟩,
       ⟨(some 37), .conv .i64, [.t 36], none⟩,
       ⟨(some 38), .mv, [.t 1], none⟩,
       ⟨(some 39), .bin .rem, [.t 37, .t 38], none⟩,
       ⟨(some 4), .mv, [.t 39], none⟩])
    (.ret))))

def mill_Case_Left : IC :=
 .seq (.reg false [] [⟨(some 2), .mv, [.c (.p (.b false))], none⟩])
 (.seq (.reg true [(0, 4), (1, 4), (2, 4), (3, 4), (0, 5), (1, 5), (2, 5), (3, 5), (0, 6), (1, 6), (2, 6), (3, 6), (0, 7), (1, 7), (2, 7), (3, 7), (0, 8), (1, 8), (2, 8), (3, 8)] [⟨(some 3), .mv, [.t 0], none⟩,
     ⟨(some 4), .nilck, [.t 3], none⟩,
     ⟨(some 5), .fad 1, [.t 4], none⟩,
     ⟨(some 6), .load false 1, [.t 5], none⟩,
     ⟨(some 7), .mv, [.t 0], none⟩,
     ⟨(some 8), .nilck, [.t 7], none⟩,
     ⟨(some 9), .fad 0, [.t 8], none⟩,
     ⟨(some 10), .load false 1, [.t 9], none⟩,
     ⟨(some 11), .len, [.t 10], none⟩,
     ⟨(some 12), .bin .lss, [.t 6, .t 11], none⟩,
     ⟨(some 2), .mv, [.t 12], none⟩])
  (.ret))

def mill_Case_Bytes (c_mill_Case_Int c_mill_Case_Pick : Nat) : IC :=
 .seq (.reg false [] [⟨(some 4), .mv, [.c .nils], none⟩])
 (.seq (.reg false [] [⟨(some 5), .mv, [.c .nils], none⟩])
  (.seq (.seq (.reg false [] [⟨(some 7), .mv, [.t 0], none⟩,
       ⟨(some 8), .mv, [.t 1], none⟩,
       ⟨(some 9), .bin .add, [.t 8, .c (.p (.i .i64 1))], none⟩,
       ⟨(some 10), .call, [.c (.fn c_mill_Case_Int []), .t 7, .t 9], none⟩,
       ⟨(some 6), .mv, [.t 10], none⟩])
    (.block 0 (
      .loop (
       .seq (.seq (.reg false [] [⟨(some 11), .mv, [.t 6], none⟩,
           ⟨(some 12), .bin .gtr, [.t 11, .c (.p (.i .i64 0))], none⟩])
        (.cond (.t 12)
          (.skip)
          (.exit 0)))
       (.seq (.block 1 (
          .reg false [] [⟨(some 15), .mv, [.t 5], none⟩,
            ⟨(some 16), .mv, [.t 0], none⟩,
            ⟨(some 17), .mv, [.t 0], none⟩,
            ⟨(some 18), .call, [.c (.fn c_mill_Case_Int []), .t 17, .c (.p (.i .i64 256))], none⟩,
            ⟨(some 19), .bslice 1 (.p (.i .i64 0)) 6 [0, 1, 2, 3, 4, 5], [.c (.p (.i .i64 97)), .c (.p (.i .i64 98)), .c (.p (.i .i64 97)), .c (.p (.i .i64 0)), .c (.p (.i .i64 255)), .t 18], none⟩,
            ⟨(some 20), .call, [.c (.fn c_mill_Case_Pick []), .t 16, .t 19], none⟩,
            ⟨(some 21), .conv .u8, [.t 20], none⟩,
            ⟨(some 22), .bslice 1 (.p (.i .u8 0)) 1 [0], [.t 21], none⟩,
            ⟨(some 23), .app 1 1, [.t 15, .t 22], none⟩,
            ⟨(some 5), .mv, [.t 23], none⟩]))
        (.reg false [] [⟨(some 13), .mv, [.t 6], none⟩,
           ⟨(some 14), .bin .sub, [.t 13, .c (.p (.i .i64 1))], none⟩,
           ⟨(some 6), .mv, [.t 14], none⟩]))))))
   (.seq (.reg false [] [⟨(some 24), .mv, [.t 5], none⟩,
       ⟨(some 4), .mv, [.t 24], none⟩])
    (.ret))))

def ref25_Put : IC :=
 .seq (.reg false [] [⟨(some 4), .mv, [.c .nils], none⟩])
 (.seq (.block 0 (
    .loop (
     .seq (.seq (.reg false [] [⟨(some 5), .mv, [.t 1], none⟩,
         ⟨(some 6), .bin .geq, [.t 5, .c (.p (.i .i64 128))], none⟩])
      (.cond (.t 6)
        (.skip)
        (.exit 0)))
     (.block 1 (
       .seq (.reg false [] [⟨(some 7), .mv, [.t 0], none⟩,
          ⟨(some 8), .mv, [.t 1], none⟩,
          ⟨(some 9), .bin .rem, [.t 8, .c (.p (.i .i64 128))], none⟩,
          ⟨(some 10), .conv .u8, [.t 9], none⟩,
          ⟨(some 11), .bin .add, [.t 10, .c (.p (.i .u8 128))], none⟩,
          ⟨(some 12), .bslice 1 (.p (.i .u8 0)) 1 [0], [.t 11], none⟩,
          ⟨(some 13), .app 1 1, [.t 7, .t 12], none⟩,
          ⟨(some 0), .mv, [.t 13], none⟩])
       (.reg false [] [⟨(some 14), .mv, [.t 1], none⟩,
          ⟨(some 15), .bin .quo, [.t 14, .c (.p (.i .i64 128))], none⟩,
          ⟨(some 1), .mv, [.t 15], none⟩]))))))
  (.seq (.reg false [] [⟨(some 16), .mv, [.t 0], none⟩,
      ⟨(some 17), .mv, [.t 1], none⟩,
      ⟨(some 18), .conv .u8, [.t 17], none⟩,
      ⟨(some 19), .bslice 1 (.p (.i .u8 0)) 1 [0], [.t 18], none⟩,
      ⟨(some 20), .app 1 1, [.t 16, .t 19], none⟩,
      ⟨(some 4), .mv, [.t 20], none⟩])
   (.ret)))

def ref25_Take : IC :=
 .seq (.reg false [] [⟨(some 2), .mv, [.c (.p (.i .i64 0))], none⟩,
    ⟨(some 3), .mv, [.c (.p (.i .i64 0))], none⟩,
    ⟨(some 4), .mv, [.c (.p (.b false))], none⟩])
 (.seq (.reg false [] [⟨(some 5), .mv, [.c (.p (.i .i64 0))], none⟩])
  (.seq (.seq (.reg false [] [⟨(some 6), .mv, [.c (.p (.i .i64 0))], none⟩])
    (.block 0 (
      .loop (
       .seq (.seq (.reg false [] [⟨(some 7), .mv, [.t 6], none⟩,
           ⟨(some 8), .mv, [.t 0], none⟩,
           ⟨(some 9), .len, [.t 8], none⟩,
           ⟨(some 10), .bin .lss, [.t 7, .t 9], none⟩,
           ⟨(some 11), .mv, [.t 10], none⟩,
           ⟨(some 12), .mv, [.t 6], (some (11, true))⟩,
           ⟨(some 13), .bin .lss, [.t 12, .c (.p (.i .i64 9))], (some (11, true))⟩,
           ⟨(some 14), .pick, [.t 11, .t 13, .c (.p (.b false))], none⟩])
        (.cond (.t 14)
          (.skip)
          (.exit 0)))
       (.seq (.block 1 (
          .seq (.reg false [] [⟨(some 17), .mv, [.t 5], none⟩,
             ⟨(some 18), .mv, [.t 0], none⟩,
             ⟨(some 19), .mv, [.t 6], none⟩,
             ⟨(some 20), .iad 1, [.t 18, .t 19], none⟩,
             ⟨(some 21), .load false 1, [.t 20], none⟩,
             ⟨(some 22), .bin .and, [.t 21, .c (.p (.i .u8 127))], none⟩,
             ⟨(some 23), .conv .i64, [.t 22], none⟩,
             ⟨(some 24), .mv, [.t 6], none⟩,
             ⟨(some 25), .bin .mul, [.c (.p (.i .i64 7)), .t 24], none⟩,
             ⟨(some 26), .bin .shl, [.t 23, .t 25], none⟩,
             ⟨(some 27), .bin .or, [.t 17, .t 26], none⟩,
             ⟨(some 5), .mv, [.t 27], none⟩])
          (.seq (.reg false [] [⟨(some 28), .mv, [.t 0], none⟩,
              ⟨(some 29), .mv, [.t 6], none⟩,
              ⟨(some 30), .iad 1, [.t 28, .t 29], none⟩,
              ⟨(some 31), .load false 1, [.t 30], none⟩,
              ⟨(some 32), .bin .lss, [.t 31, .c (.p (.i .u8 128))], none⟩])
           (.cond (.t 32)
             (.seq (.reg true [(0, 1), (0, 2), (0, 3), (1, 3), (2, 3), (0, 4), (1, 4), (2, 4), (0, 5), (1, 5), (2, 5), (0, 6), (1, 6), (2, 6), (0, 7), (1, 7), (2, 7), (6, 7), (0, 8), (1, 8), (2, 8), (0, 9), (1, 9), (2, 9), (0, 10), (1, 10), (2, 10), (0, 11), (1, 11), (2, 11), (1, 12), (2, 12), (6, 12), (7, 12), (8, 12), (9, 12), (10, 12), (11, 12), (6, 13), (7, 13), (8, 13), (9, 13), (10, 13), (11, 13)] [⟨(some 33), .mv, [.t 5], none⟩,
                 ⟨(some 34), .mv, [.t 6], none⟩,
                 ⟨(some 35), .bin .add, [.t 34, .c (.p (.i .i64 1))], none⟩,
                 ⟨(some 36), .mv, [.t 6], none⟩,
                 ⟨(some 37), .bin .eql, [.t 36, .c (.p (.i .i64 0))], none⟩,
                 ⟨(some 38), .mv, [.t 37], none⟩,
                 ⟨(some 39), .mv, [.t 0], (some (38, false))⟩,
                 ⟨(some 40), .mv, [.t 6], (some (38, false))⟩,
                 ⟨(some 41), .iad 1, [.t 39, .t 40], (some (38, false))⟩,
                 ⟨(some 42), .load false 1, [.t 41], (some (38, false))⟩,
                 ⟨(some 43), .bin .gtr, [.t 42, .c (.p (.i .u8 0))], (some (38, false))⟩,
                 ⟨(some 44), .pick, [.t 38, .c (.p (.b true)), .t 43], none⟩,
                 ⟨(some 2), .mv, [.t 33], none⟩,
                 ⟨(some 3), .mv, [.t 35], none⟩,
                 ⟨(some 4), .mv, [.t 44], none⟩])
              (.ret))
             (.skip)))))
        (.reg false [] [⟨(some 15), .mv, [.t 6], none⟩,
           ⟨(some 16), .bin .add, [.t 15, .c (.p (.i .i64 1))], none⟩,
           ⟨(some 6), .mv, [.t 16], none⟩]))))))
   (.seq (.reg false [] [⟨(some 2), .mv, [.c (.p (.i .i64 0))], none⟩,
       ⟨(some 3), .mv, [.c (.p (.i .i64 0))], none⟩,
       ⟨(some 4), .mv, [.c (.p (.b false))], none⟩])
    (.ret))))

def mill_Case_Pick (c_mill_Case_Int : Nat) : IC :=
 .seq (.reg false [] [⟨(some 4), .mv, [.c (.p (.i .i64 0))], none⟩])
 (.seq (.reg false [] [⟨(some 5), .mv, [.t 1], none⟩,
     ⟨(some 6), .mv, [.t 0], none⟩,
     ⟨(some 7), .mv, [.t 1], none⟩,
     ⟨(some 8), .len, [.t 7], none⟩,
     ⟨(some 9), .call, [.c (.fn c_mill_Case_Int []), .t 6, .t 8], none⟩,
     ⟨(some 10), .iad 1, [.t 5, .t 9], none⟩,
     ⟨(some 11), .load false 1, [.t 10], none⟩,
     ⟨(some 4), .mv, [.t 11], none⟩])
  (.ret))

def law33_WireEncodes (c_law33_begun c_law33_message c_law33_spoilt c_mill_New c_ref24_SameBytes c_ref33_Encode c_ref33_Valid c_wire_Encode c_wire_Valid : Nat) : IC :=
 .seq (.reg false [] [⟨(some 4), .box 6, [.t 1], none⟩,
    ⟨(some 6), .mv, [.c (.p (.b false))], none⟩])
 (.seq (.reg false [] [⟨(some 16), .mv, [.t 0], none⟩,
     ⟨(some 17), .call, [.c (.fn c_mill_New []), .t 16, .c (.p (.i .i64 100))], none⟩,
     ⟨(some 7), .mv, [.t 17], none⟩])
  (.seq (.reg false [] [⟨(some 18), .mv, [.t 7], none⟩,
      ⟨(some 19), .call, [.c (.fn c_law33_message []), .t 18], none⟩,
      ⟨(some 8), .box 6, [.c (.agg [(.p (.i .i64 0)), (.p (.s [])), (.p (.i .i64 0)), (.p (.i .i64 0)), (.p (.i .i64 0)), .nils])], none⟩,
      ⟨none, .store 6, [.t 8, .t 19], none⟩])
   (.seq (.reg false [] [⟨(some 20), .mv, [.t 2], none⟩,
       ⟨(some 21), .conv .i64, [.t 20], none⟩,
       ⟨(some 22), .bin .rem, [.t 21, .c (.p (.i .i64 5))], none⟩,
       ⟨(some 23), .bin .add, [.c (.p (.i .i64 16318)), .t 22], none⟩,
       ⟨(some 24), .mks 1 1 (.p (.i .u8 0)), [.t 23, .t 23], none⟩,
       ⟨(some 25), .build [(.p (.i .i64 0)), (.p (.s [])), (.p (.i .i64 0)), (.p (.i .i64 0)), (.p (.i .i64 0)), .nils] [(0, 1), (3, 1), (5, 1)], [.c (.p (.i .i64 3)), .c (.p (.i .i64 1)), .t 24], none⟩,
       ⟨(some 9), .box 6, [.c (.agg [(.p (.i .i64 0)), (.p (.s [])), (.p (.i .i64 0)), (.p (.i .i64 0)), (.p (.i .i64 0)), .nils])], none⟩,
       ⟨none, .store 6, [.t 9, .t 25], none⟩])
    (.seq (.seq (.reg true [(0, 1), (0, 2), (1, 2), (0, 3), (0, 4), (1, 4), (2, 4), (3, 4), (0, 5), (1, 5), (2, 5), (3, 5), (4, 5), (0, 6), (1, 6), (2, 6), (3, 6), (4, 6), (5, 6), (0, 7), (4, 7), (0, 8), (0, 9), (1, 9), (2, 9), (3, 9), (4, 9), (5, 9), (6, 9), (7, 9), (8, 9), (0, 10), (1, 10), (2, 10), (3, 10), (4, 10), (5, 10), (6, 10), (7, 10), (8, 10), (9, 10), (0, 13), (1, 13), (2, 13), (3, 13), (4, 13), (5, 13), (6, 13), (7, 13), (8, 13), (9, 13), (10, 13), (11, 13), (12, 13)] [⟨(some 26), .load true 6, [.t 8], none⟩,
         ⟨(some 27), .mv, [.t 7], none⟩,
         ⟨(some 28), .load true 6, [.t 8], none⟩,
         ⟨(some 29), .call, [.c (.fn c_law33_spoilt []), .t 27, .t 28], none⟩,
         ⟨(some 30), .mv, [.t 7], none⟩,
         ⟨(some 31), .mv, [.t 7], none⟩,
         ⟨(some 32), .load true 6, [.t 8], none⟩,
         ⟨(some 33), .call, [.c (.fn c_law33_spoilt []), .t 31, .t 32], none⟩,
         ⟨(some 34), .call, [.c (.fn c_law33_spoilt []), .t 30, .t 33], none⟩,
         ⟨(some 35), .load true 6, [.t 4], none⟩,
         ⟨(some 36), .load true 6, [.t 9], none⟩,
         ⟨(some 37), .bslice 6 (.agg [(.p (.i .i64 0)), (.p (.s [])), (.p (.i .i64 0)), (.p (.i .i64 0)), (.p (.i .i64 0)), .nils]) 5 [0, 1, 2, 3, 4], [.t 26, .t 29, .t 34, .t 35, .t 36], none⟩,
         ⟨(some 38), .len, [.t 37], none⟩,
         ⟨(some 39), .mv, [.c (.p (.i .i64 0))], none⟩])
      (.block 0 (
        .loop (
         .seq (.reg false [] [⟨(some 40), .bin .lss, [.t 39, .t 38], none⟩])
         (.seq (.cond (.t 40)
            (.skip)
            (.exit 0))
          (.seq (.block 1 (
             .seq (.reg false [] [⟨(some 41), .iad 6, [.t 37, .t 39], none⟩,
                ⟨(some 42), .load true 6, [.t 41], none⟩,
                ⟨(some 11), .box 6, [.c (.agg [(.p (.i .i64 0)), (.p (.s [])), (.p (.i .i64 0)), (.p (.i .i64 0)), (.p (.i .i64 0)), .nils])], none⟩,
                ⟨none, .store 6, [.t 11, .t 42], none⟩])
             (.seq (.reg false [] [⟨(some 44), .load true 6, [.t 11], none⟩,
                 ⟨(some 45), .call, [.c (.fn c_wire_Encode []), .t 44], none⟩,
                 ⟨(some 43), .mv, [.t 45], none⟩,
                 ⟨(some 46), .ext 0, [.t 43], none⟩,
                 ⟨(some 47), .ext 1, [.t 43], none⟩,
                 ⟨(some 12), .mv, [.t 46], none⟩,
                 ⟨(some 13), .mv, [.t 47], none⟩])
              (.seq (.reg false [] [⟨(some 49), .load true 6, [.t 11], none⟩,
                  ⟨(some 50), .call, [.c (.fn c_ref33_Encode []), .t 49], none⟩,
                  ⟨(some 48), .mv, [.t 50], none⟩,
                  ⟨(some 51), .ext 0, [.t 48], none⟩,
                  ⟨(some 52), .ext 1, [.t 48], none⟩,
                  ⟨(some 14), .mv, [.t 51], none⟩,
                  ⟨(some 15), .mv, [.t 52], none⟩])
               (.seq (.reg true [(0, 1), (4, 5), (10, 12), (11, 12)] [⟨(some 53), .mv, [.t 13], none⟩,
                   ⟨(some 54), .mv, [.t 15], none⟩,
                   ⟨(some 55), .bin .neq, [.t 53, .t 54], none⟩,
                   ⟨(some 56), .mv, [.t 55], none⟩,
                   ⟨(some 57), .mv, [.t 12], (some (56, false))⟩,
                   ⟨(some 58), .mv, [.t 14], (some (56, false))⟩,
                   ⟨(some 59), .call, [.c (.fn c_ref24_SameBytes []), .t 57, .t 58], (some (56, false))⟩,
                   ⟨(some 60), .not, [.t 59], (some (56, false))⟩,
                   ⟨(some 61), .pick, [.t 56, .c (.p (.b true)), .t 60], none⟩,
                   ⟨(some 62), .mv, [.t 61], none⟩,
                   ⟨(some 63), .load true 6, [.t 11], (some (62, false))⟩,
                   ⟨(some 64), .call, [.c (.fn c_wire_Valid []), .t 63], (some (62, false))⟩,
                   ⟨(some 65), .load true 6, [.t 11], (some (62, false))⟩,
                   ⟨(some 66), .call, [.c (.fn c_ref33_Valid []), .t 65], (some (62, false))⟩,
                   ⟨(some 67), .beq false true, [.t 64, .t 66], (some (62, false))⟩,
                   ⟨(some 68), .pick, [.t 62, .c (.p (.b true)), .t 67], none⟩])
                (.cond (.t 68)
                  (.seq (.reg false [] [⟨(some 6), .mv, [.c (.p (.b false))], none⟩])
                   (.ret))
                  (.skip)))))))
           (.reg false [] [⟨(some 69), .bin .add, [.t 39, .c (.p (.i .i64 1))], none⟩,
              ⟨(some 39), .mv, [.t 69], none⟩])))))))
     (.seq (.reg false [] [⟨(some 70), .load true 6, [.t 8], none⟩,
         ⟨(some 71), .call, [.c (.fn c_wire_Valid []), .t 70], none⟩,
         ⟨(some 72), .mv, [.t 71], none⟩,
         ⟨(some 73), .call, [.c (.fn c_law33_begun [])], (some (72, true))⟩,
         ⟨(some 74), .pick, [.t 72, .t 73, .c (.p (.b false))], none⟩,
         ⟨(some 6), .mv, [.t 74], none⟩])
      (.ret))))))

def law33_WireFeeds (c_law33_begun c_law33_stream c_mill_New c_ref24_SameBytes c_ref33_Feed c_ref33_SameList c_wire_Feed : Nat) : IC :=
 .seq (.reg false [] [⟨(some 12), .mv, [.c (.p (.b false))], none⟩])
 (.seq (.reg false [] [⟨(some 26), .mv, [.t 0], none⟩,
     ⟨(some 27), .call, [.c (.fn c_mill_New []), .t 26, .c (.p (.i .i64 200))], none⟩,
     ⟨(some 13), .mv, [.t 27], none⟩])
  (.seq (.reg false [] [⟨(some 29), .mv, [.t 13], none⟩,
      ⟨(some 30), .call, [.c (.fn c_law33_stream []), .t 29], none⟩,
      ⟨(some 28), .mv, [.t 30], none⟩,
      ⟨(some 31), .ext 0, [.t 28], none⟩,
      ⟨(some 32), .ext 1, [.t 28], none⟩,
      ⟨(some 14), .mv, [.t 31], none⟩,
      ⟨(some 15), .mv, [.t 32], none⟩])
   (.seq (.reg false [] [⟨(some 33), .bslice 1 (.p (.i .u8 0)) 0 [], [], none⟩,
       ⟨(some 34), .mv, [.t 15], none⟩,
       ⟨(some 35), .app 1 1, [.t 33, .t 34], none⟩,
       ⟨(some 16), .mv, [.t 35], none⟩])
    (.seq (.seq (.reg false [] [⟨(some 36), .mv, [.t 15], none⟩,
         ⟨(some 37), .len, [.t 36], none⟩,
         ⟨(some 38), .bin .gtr, [.t 37, .c (.p (.i .i64 0))], none⟩])
      (.cond (.t 38)
        (.seq (.reg false [] [⟨(some 39), .mv, [.t 3], none⟩,
            ⟨(some 40), .conv .i64, [.t 39], none⟩,
            ⟨(some 41), .mv, [.t 15], none⟩,
            ⟨(some 42), .len, [.t 41], none⟩,
            ⟨(some 43), .bin .rem, [.t 40, .t 42], none⟩,
            ⟨(some 17), .mv, [.t 43], none⟩])
         (.seq (.reg false [] [⟨(some 44), .mv, [.t 5], none⟩,
             ⟨(some 45), .bin .rem, [.t 44, .c (.p (.i .u8 4))], none⟩])
          (.block 0 (
            .seq (.reg false [] [⟨(some 59), .bin .eql, [.t 45, .c (.p (.i .u8 0))], none⟩,
               ⟨(some 58), .mv, [.t 59], none⟩])
            (.cond (.t 58)
              (.reg false [] [⟨(some 60), .mv, [.t 16], none⟩,
                 ⟨(some 61), .mv, [.t 17], none⟩,
                 ⟨(some 62), .iad 1, [.t 60, .t 61], none⟩,
                 ⟨(some 63), .load false 1, [.t 62], none⟩,
                 ⟨(some 64), .mv, [.t 4], none⟩,
                 ⟨(some 65), .bin .add, [.t 63, .t 64], none⟩,
                 ⟨(some 66), .iad 1, [.t 60, .t 61], none⟩,
                 ⟨none, .store 1, [.t 66, .t 65], none⟩])
              (.seq (.reg false [] [⟨(some 68), .bin .eql, [.t 45, .c (.p (.i .u8 1))], none⟩,
                  ⟨(some 67), .mv, [.t 68], none⟩])
               (.cond (.t 67)
                 (.reg false [] [⟨(some 69), .mv, [.t 16], none⟩,
                    ⟨(some 70), .mv, [.t 17], none⟩,
                    ⟨(some 71), .slc 1 false true, [.t 69, .t 70], none⟩,
                    ⟨(some 16), .mv, [.t 71], none⟩])
                 (.seq (.reg false [] [⟨(some 73), .bin .eql, [.t 45, .c (.p (.i .u8 2))], none⟩,
                     ⟨(some 72), .mv, [.t 73], none⟩])
                  (.cond (.t 72)
                    (.reg false [] [⟨(some 74), .mv, [.t 16], none⟩,
                       ⟨(some 75), .mv, [.t 4], none⟩,
                       ⟨(some 76), .mv, [.t 4], none⟩,
                       ⟨(some 77), .bslice 1 (.p (.i .u8 0)) 2 [0, 1], [.t 75, .t 76], none⟩,
                       ⟨(some 78), .app 1 1, [.t 74, .t 77], none⟩,
                       ⟨(some 16), .mv, [.t 78], none⟩])
                    (.reg true [(0, 1), (0, 2), (1, 2), (0, 3), (0, 5), (1, 5), (2, 5), (3, 5), (4, 5), (0, 6), (1, 6), (2, 6), (3, 6), (4, 6), (0, 8), (1, 8), (2, 8), (3, 8), (4, 8), (5, 8), (6, 8), (7, 8), (0, 9), (1, 9), (2, 9), (3, 9), (4, 9), (5, 9), (6, 9), (7, 9), (8, 9), (0, 10), (1, 10), (2, 10), (3, 10), (4, 10), (5, 10), (6, 10), (7, 10)] [⟨(some 46), .bslice 1 (.p (.i .u8 0)) 0 [], [], none⟩,
                       ⟨(some 47), .mv, [.t 15], none⟩,
                       ⟨(some 48), .mv, [.t 17], none⟩,
                       ⟨(some 49), .slc 1 false true, [.t 47, .t 48], none⟩,
                       ⟨(some 50), .app 1 1, [.t 46, .t 49], none⟩,
                       ⟨(some 51), .mv, [.t 4], none⟩,
                       ⟨(some 52), .bslice 1 (.p (.i .u8 0)) 1 [0], [.t 51], none⟩,
                       ⟨(some 53), .app 1 1, [.t 50, .t 52], none⟩,
                       ⟨(some 54), .mv, [.t 15], none⟩,
                       ⟨(some 55), .mv, [.t 17], none⟩,
                       ⟨(some 56), .slc 1 true false, [.t 54, .t 55], none⟩,
                       ⟨(some 57), .app 1 1, [.t 53, .t 56], none⟩,
                       ⟨(some 16), .mv, [.t 57], none⟩]))))))))))
        (.skip)))
     (.seq (.seq (.reg false [] [⟨(some 79), .mv, [.t 15], none⟩,
          ⟨(some 80), .build [.nils, .nils] [(0, 1), (1, 1)], [.c .nils, .t 79], none⟩,
          ⟨(some 81), .mv, [.t 16], none⟩,
          ⟨(some 82), .build [.nils, .nils] [(0, 1), (1, 1)], [.c .nils, .t 81], none⟩,
          ⟨(some 83), .mv, [.t 2], none⟩,
          ⟨(some 84), .mv, [.t 1], none⟩,
          ⟨(some 85), .build [.nils, .nils] [(0, 1), (1, 1)], [.t 83, .t 84], none⟩,
          ⟨(some 86), .mv, [.t 15], none⟩,
          ⟨(some 87), .mv, [.t 1], none⟩,
          ⟨(some 88), .build [.nils, .nils] [(0, 1), (1, 1)], [.t 86, .t 87], none⟩,
          ⟨(some 89), .mv, [.t 2], none⟩,
          ⟨(some 90), .mv, [.t 16], none⟩,
          ⟨(some 91), .build [.nils, .nils] [(0, 1), (1, 1)], [.t 89, .t 90], none⟩,
          ⟨(some 92), .bslice 2 (.agg [.nils, .nils]) 5 [0, 1, 2, 3, 4], [.t 80, .t 82, .t 85, .t 88, .t 91], none⟩,
          ⟨(some 93), .len, [.t 92], none⟩,
          ⟨(some 94), .mv, [.c (.p (.i .i64 0))], none⟩])
       (.block 1 (
         .loop (
          .seq (.reg false [] [⟨(some 95), .bin .lss, [.t 94, .t 93], none⟩])
          (.seq (.cond (.t 95)
             (.skip)
             (.exit 1))
           (.seq (.block 2 (
              .seq (.reg false [] [⟨(some 96), .iad 2, [.t 92, .t 94], none⟩,
                 ⟨(some 97), .load true 2, [.t 96], none⟩,
                 ⟨(some 19), .box 2, [.c (.agg [.nils, .nils])], none⟩,
                 ⟨none, .store 2, [.t 19, .t 97], none⟩])
              (.seq (.reg false [] [⟨(some 99), .iaa 1 2, [.t 19, .c (.p (.i .i64 0))], none⟩,
                  ⟨(some 100), .load false 1, [.t 99], none⟩,
                  ⟨(some 101), .iaa 1 2, [.t 19, .c (.p (.i .i64 1))], none⟩,
                  ⟨(some 102), .load false 1, [.t 101], none⟩,
                  ⟨(some 103), .call, [.c (.fn c_wire_Feed []), .t 100, .t 102], none⟩,
                  ⟨(some 98), .mv, [.t 103], none⟩,
                  ⟨(some 104), .ext 0, [.t 98], none⟩,
                  ⟨(some 105), .ext 1, [.t 98], none⟩,
                  ⟨(some 106), .ext 2, [.t 98], none⟩,
                  ⟨(some 20), .mv, [.t 104], none⟩,
                  ⟨(some 21), .mv, [.t 105], none⟩,
                  ⟨(some 22), .mv, [.t 106], none⟩])
               (.seq (.reg false [] [⟨(some 108), .iaa 1 2, [.t 19, .c (.p (.i .i64 0))], none⟩,
                   ⟨(some 109), .load false 1, [.t 108], none⟩,
                   ⟨(some 110), .iaa 1 2, [.t 19, .c (.p (.i .i64 1))], none⟩,
                   ⟨(some 111), .load false 1, [.t 110], none⟩,
                   ⟨(some 112), .call, [.c (.fn c_ref33_Feed []), .t 109, .t 111], none⟩,
                   ⟨(some 107), .mv, [.t 112], none⟩,
                   ⟨(some 113), .ext 0, [.t 107], none⟩,
                   ⟨(some 114), .ext 1, [.t 107], none⟩,
                   ⟨(some 115), .ext 2, [.t 107], none⟩,
                   ⟨(some 23), .mv, [.t 113], none⟩,
                   ⟨(some 24), .mv, [.t 114], none⟩,
                   ⟨(some 25), .mv, [.t 115], none⟩])
                (.seq (.reg false [] [⟨(some 116), .mv, [.t 22], none⟩,
                    ⟨(some 117), .mv, [.t 25], none⟩,
                    ⟨(some 118), .bin .neq, [.t 116, .t 117], none⟩,
                    ⟨(some 119), .mv, [.t 118], none⟩,
                    ⟨(some 120), .mv, [.t 20], (some (119, false))⟩,
                    ⟨(some 121), .mv, [.t 23], (some (119, false))⟩,
                    ⟨(some 122), .call, [.c (.fn c_ref33_SameList []), .t 120, .t 121], (some (119, false))⟩,
                    ⟨(some 123), .not, [.t 122], (some (119, false))⟩,
                    ⟨(some 124), .pick, [.t 119, .c (.p (.b true)), .t 123], none⟩,
                    ⟨(some 125), .mv, [.t 124], none⟩,
                    ⟨(some 126), .mv, [.t 21], (some (125, false))⟩,
                    ⟨(some 127), .mv, [.t 24], (some (125, false))⟩,
                    ⟨(some 128), .call, [.c (.fn c_ref24_SameBytes []), .t 126, .t 127], (some (125, false))⟩,
                    ⟨(some 129), .not, [.t 128], (some (125, false))⟩,
                    ⟨(some 130), .pick, [.t 125, .c (.p (.b true)), .t 129], none⟩])
                 (.cond (.t 130)
                   (.seq (.reg false [] [⟨(some 12), .mv, [.c (.p (.b false))], none⟩])
                    (.ret))
                   (.skip)))))))
            (.reg false [] [⟨(some 131), .bin .add, [.t 94, .c (.p (.i .i64 1))], none⟩,
               ⟨(some 94), .mv, [.t 131], none⟩])))))))
      (.seq (.reg false [] [⟨(some 132), .call, [.c (.fn c_law33_begun [])], none⟩,
          ⟨(some 12), .mv, [.t 132], none⟩])
       (.ret)))))))

def law33_WirePieces (c_law33_begun c_law33_stream c_mill_New c_ref33_SameList c_wire_Feed : Nat) : IC :=
 .seq (.reg false [] [⟨(some 4), .mv, [.c (.p (.b false))], none⟩])
 (.seq (.reg false [] [⟨(some 19), .mv, [.t 0], none⟩,
     ⟨(some 20), .call, [.c (.fn c_mill_New []), .t 19, .c (.p (.i .i64 200))], none⟩,
     ⟨(some 21), .call, [.c (.fn c_law33_stream []), .t 20], none⟩,
     ⟨(some 18), .mv, [.t 21], none⟩,
     ⟨(some 22), .ext 0, [.t 18], none⟩,
     ⟨(some 23), .ext 1, [.t 18], none⟩,
     ⟨(some 5), .mv, [.t 22], none⟩,
     ⟨(some 6), .mv, [.t 23], none⟩])
  (.seq (.reg false [] [⟨(some 7), .mv, [.c .nils], none⟩])
   (.seq (.reg false [] [⟨(some 8), .mv, [.c .nils], none⟩])
    (.seq (.seq (.reg false [] [⟨(some 24), .mv, [.t 1], none⟩,
         ⟨(some 25), .len, [.t 24], none⟩,
         ⟨(some 26), .mv, [.c (.p (.i .i64 0))], none⟩])
      (.block 0 (
        .loop (
         .seq (.reg false [] [⟨(some 27), .bin .lss, [.t 26, .t 25], none⟩])
         (.seq (.cond (.t 27)
            (.skip)
            (.exit 0))
          (.seq (.block 1 (
             .seq (.reg false [] [⟨(some 28), .iad 1, [.t 24, .t 26], none⟩,
                ⟨(some 29), .load false 1, [.t 28], none⟩,
                ⟨(some 10), .mv, [.t 29], none⟩])
             (.seq (.reg false [] [⟨(some 30), .mv, [.t 10], none⟩,
                 ⟨(some 31), .conv .i64, [.t 30], none⟩,
                 ⟨(some 32), .mv, [.t 6], none⟩,
                 ⟨(some 33), .len, [.t 32], none⟩,
                 ⟨(some 34), .mima false, [.t 31, .t 33], none⟩,
                 ⟨(some 11), .mv, [.t 34], none⟩])
              (.seq (.reg false [] [⟨(some 36), .mv, [.t 8], none⟩,
                  ⟨(some 37), .mv, [.t 6], none⟩,
                  ⟨(some 38), .mv, [.t 11], none⟩,
                  ⟨(some 39), .slc 1 false true, [.t 37, .t 38], none⟩,
                  ⟨(some 40), .call, [.c (.fn c_wire_Feed []), .t 36, .t 39], none⟩,
                  ⟨(some 35), .mv, [.t 40], none⟩,
                  ⟨(some 41), .ext 0, [.t 35], none⟩,
                  ⟨(some 42), .ext 1, [.t 35], none⟩,
                  ⟨(some 43), .ext 2, [.t 35], none⟩,
                  ⟨(some 12), .mv, [.t 41], none⟩,
                  ⟨(some 13), .mv, [.t 42], none⟩,
                  ⟨(some 14), .mv, [.t 43], none⟩])
               (.seq (.seq (.reg false [] [⟨(some 44), .mv, [.t 14], none⟩,
                    ⟨(some 45), .bin .neq, [.t 44, .c (.p (.i .i64 0))], none⟩])
                 (.cond (.t 45)
                   (.seq (.reg false [] [⟨(some 4), .mv, [.c (.p (.b false))], none⟩])
                    (.ret))
                   (.skip)))
                (.reg true [(0, 1), (0, 3), (1, 3), (2, 3), (0, 4), (1, 4), (2, 4), (3, 4), (0, 5), (1, 5), (2, 5), (3, 5), (4, 5), (0, 6), (1, 6), (2, 6), (3, 6), (3, 7), (4, 7), (5, 7), (6, 7), (4, 8), (5, 8), (6, 8)] [⟨(some 46), .mv, [.t 7], none⟩,
                   ⟨(some 47), .mv, [.t 12], none⟩,
                   ⟨(some 48), .app 6 72, [.t 46, .t 47], none⟩,
                   ⟨(some 49), .mv, [.t 13], none⟩,
                   ⟨(some 50), .mv, [.t 6], none⟩,
                   ⟨(some 51), .mv, [.t 11], none⟩,
                   ⟨(some 52), .slc 1 true false, [.t 50, .t 51], none⟩,
                   ⟨(some 7), .mv, [.t 48], none⟩,
                   ⟨(some 8), .mv, [.t 49], none⟩,
                   ⟨(some 6), .mv, [.t 52], none⟩]))))))
           (.reg false [] [⟨(some 53), .bin .add, [.t 26, .c (.p (.i .i64 1))], none⟩,
              ⟨(some 26), .mv, [.t 53], none⟩])))))))
     (.seq (.reg false [] [⟨(some 55), .mv, [.t 8], none⟩,
         ⟨(some 56), .mv, [.t 6], none⟩,
         ⟨(some 57), .call, [.c (.fn c_wire_Feed []), .t 55, .t 56], none⟩,
         ⟨(some 54), .mv, [.t 57], none⟩,
         ⟨(some 58), .ext 0, [.t 54], none⟩,
         ⟨(some 59), .ext 1, [.t 54], none⟩,
         ⟨(some 60), .ext 2, [.t 54], none⟩,
         ⟨(some 15), .mv, [.t 58], none⟩,
         ⟨(some 16), .mv, [.t 59], none⟩,
         ⟨(some 17), .mv, [.t 60], none⟩])
      (.seq (.reg false [] [⟨(some 61), .mv, [.t 17], none⟩,
          ⟨(some 62), .bin .eql, [.t 61, .c (.p (.i .i64 0))], none⟩,
          ⟨(some 63), .mv, [.t 62], none⟩,
          ⟨(some 64), .mv, [.t 16], (some (63, true))⟩,
          ⟨(some 65), .len, [.t 64], (some (63, true))⟩,
          ⟨(some 66), .bin .eql, [.t 65, .c (.p (.i .i64 0))], (some (63, true))⟩,
          ⟨(some 67), .pick, [.t 63, .t 66, .c (.p (.b false))], none⟩,
          ⟨(some 68), .mv, [.t 67], none⟩,
          ⟨(some 69), .mv, [.t 7], (some (68, true))⟩,
          ⟨(some 70), .mv, [.t 15], (some (68, true))⟩,
          ⟨(some 71), .app 6 72, [.t 69, .t 70], (some (68, true))⟩,
          ⟨(some 72), .mv, [.t 5], (some (68, true))⟩,
          ⟨(some 73), .call, [.c (.fn c_ref33_SameList []), .t 71, .t 72], (some (68, true))⟩,
          ⟨(some 74), .pick, [.t 68, .t 73, .c (.p (.b false))], none⟩,
          ⟨(some 75), .mv, [.t 74], none⟩,
          ⟨(some 76), .call, [.c (.fn c_law33_begun [])], (some (75, true))⟩,
          ⟨(some 77), .pick, [.t 75, .t 76, .c (.p (.b false))], none⟩,
          ⟨(some 4), .mv, [.t 77], none⟩])
       (.ret)))))))

def law33_WireBack (c_law33_begun c_law33_message c_mill_New c_ref24_SameBytes c_ref33_Same c_wire_Encode c_wire_Feed : Nat) : IC :=
 .seq (.reg false [] [⟨(some 4), .mv, [.c (.p (.b false))], none⟩])
 (.seq (.reg false [] [⟨(some 19), .mv, [.t 0], none⟩,
     ⟨(some 20), .call, [.c (.fn c_mill_New []), .t 19, .c (.p (.i .i64 100))], none⟩,
     ⟨(some 21), .call, [.c (.fn c_law33_message []), .t 20], none⟩,
     ⟨(some 5), .box 6, [.c (.agg [(.p (.i .i64 0)), (.p (.s [])), (.p (.i .i64 0)), (.p (.i .i64 0)), (.p (.i .i64 0)), .nils])], none⟩,
     ⟨none, .store 6, [.t 5, .t 21], none⟩])
  (.seq (.reg false [] [⟨(some 23), .load true 6, [.t 5], none⟩,
      ⟨(some 24), .call, [.c (.fn c_wire_Encode []), .t 23], none⟩,
      ⟨(some 22), .mv, [.t 24], none⟩,
      ⟨(some 25), .ext 0, [.t 22], none⟩,
      ⟨(some 26), .ext 1, [.t 22], none⟩,
      ⟨(some 6), .mv, [.t 25], none⟩,
      ⟨(some 7), .mv, [.t 26], none⟩])
   (.seq (.reg false [] [⟨(some 28), .mv, [.t 6], none⟩,
       ⟨(some 29), .call, [.c (.fn c_wire_Feed []), .c .nils, .t 28], none⟩,
       ⟨(some 27), .mv, [.t 29], none⟩,
       ⟨(some 30), .ext 0, [.t 27], none⟩,
       ⟨(some 31), .ext 1, [.t 27], none⟩,
       ⟨(some 32), .ext 2, [.t 27], none⟩,
       ⟨(some 8), .mv, [.t 30], none⟩,
       ⟨(some 9), .mv, [.t 31], none⟩,
       ⟨(some 10), .mv, [.t 32], none⟩])
    (.seq (.seq (.reg true [(17, 20), (18, 20), (19, 20)] [⟨(some 33), .mv, [.t 7], none⟩,
         ⟨(some 34), .bin .neq, [.t 33, .c (.p (.i .i64 0))], none⟩,
         ⟨(some 35), .mv, [.t 34], none⟩,
         ⟨(some 36), .mv, [.t 10], (some (35, false))⟩,
         ⟨(some 37), .bin .neq, [.t 36, .c (.p (.i .i64 0))], (some (35, false))⟩,
         ⟨(some 38), .pick, [.t 35, .c (.p (.b true)), .t 37], none⟩,
         ⟨(some 39), .mv, [.t 38], none⟩,
         ⟨(some 40), .mv, [.t 8], (some (39, false))⟩,
         ⟨(some 41), .len, [.t 40], (some (39, false))⟩,
         ⟨(some 42), .bin .neq, [.t 41, .c (.p (.i .i64 1))], (some (39, false))⟩,
         ⟨(some 43), .pick, [.t 39, .c (.p (.b true)), .t 42], none⟩,
         ⟨(some 44), .mv, [.t 43], none⟩,
         ⟨(some 45), .mv, [.t 9], (some (44, false))⟩,
         ⟨(some 46), .len, [.t 45], (some (44, false))⟩,
         ⟨(some 47), .bin .neq, [.t 46, .c (.p (.i .i64 0))], (some (44, false))⟩,
         ⟨(some 48), .pick, [.t 44, .c (.p (.b true)), .t 47], none⟩,
         ⟨(some 49), .mv, [.t 48], none⟩,
         ⟨(some 50), .mv, [.t 8], (some (49, false))⟩,
         ⟨(some 51), .iad 6, [.t 50, .c (.p (.i .i64 0))], (some (49, false))⟩,
         ⟨(some 52), .load true 6, [.t 51], (some (49, false))⟩,
         ⟨(some 53), .load true 6, [.t 5], (some (49, false))⟩,
         ⟨(some 54), .call, [.c (.fn c_ref33_Same []), .t 52, .t 53], (some (49, false))⟩,
         ⟨(some 55), .not, [.t 54], (some (49, false))⟩,
         ⟨(some 56), .pick, [.t 49, .c (.p (.b true)), .t 55], none⟩])
      (.cond (.t 56)
        (.seq (.reg false [] [⟨(some 4), .mv, [.c (.p (.b false))], none⟩])
         (.ret))
        (.skip)))
     (.seq (.reg false [] [⟨(some 58), .mv, [.t 1], none⟩,
         ⟨(some 59), .call, [.c (.fn c_wire_Feed []), .c .nils, .t 58], none⟩,
         ⟨(some 57), .mv, [.t 59], none⟩,
         ⟨(some 60), .ext 0, [.t 57], none⟩,
         ⟨(some 61), .ext 1, [.t 57], none⟩,
         ⟨(some 62), .ext 2, [.t 57], none⟩,
         ⟨(some 11), .mv, [.t 60], none⟩,
         ⟨(some 12), .mv, [.t 61], none⟩,
         ⟨(some 13), .mv, [.t 62], none⟩])
      (.seq (.reg false [] [⟨(some 14), .mv, [.c .nils], none⟩])
       (.seq (.seq (.reg false [] [⟨(some 63), .mv, [.t 11], none⟩,
            ⟨(some 64), .len, [.t 63], none⟩,
            ⟨(some 65), .mv, [.c (.p (.i .i64 0))], none⟩])
         (.block 0 (
           .loop (
            .seq (.reg false [] [⟨(some 66), .bin .lss, [.t 65, .t 64], none⟩])
            (.seq (.cond (.t 66)
               (.skip)
               (.exit 0))
             (.seq (.block 1 (
                .seq (.reg false [] [⟨(some 67), .iad 6, [.t 63, .t 65], none⟩,
                   ⟨(some 68), .load true 6, [.t 67], none⟩,
                   ⟨(some 16), .box 6, [.c (.agg [(.p (.i .i64 0)), (.p (.s [])), (.p (.i .i64 0)), (.p (.i .i64 0)), (.p (.i .i64 0)), .nils])], none⟩,
                   ⟨none, .store 6, [.t 16, .t 68], none⟩])
                (.seq (.reg false [] [⟨(some 70), .load true 6, [.t 16], none⟩,
                    ⟨(some 71), .call, [.c (.fn c_wire_Encode []), .t 70], none⟩,
                    ⟨(some 69), .mv, [.t 71], none⟩,
                    ⟨(some 72), .ext 0, [.t 69], none⟩,
                    ⟨(some 73), .ext 1, [.t 69], none⟩,
                    ⟨(some 17), .mv, [.t 72], none⟩,
                    ⟨(some 18), .mv, [.t 73], none⟩])
                 (.seq (.seq (.reg false [] [⟨(some 74), .mv, [.t 18], none⟩,
                      ⟨(some 75), .bin .neq, [.t 74, .c (.p (.i .i64 0))], none⟩])
                   (.cond (.t 75)
                     (.seq (.reg false [] [⟨(some 4), .mv, [.c (.p (.b false))], none⟩])
                      (.ret))
                     (.skip)))
                  (.reg false [] [⟨(some 76), .mv, [.t 14], none⟩,
                     ⟨(some 77), .mv, [.t 17], none⟩,
                     ⟨(some 78), .app 1 1, [.t 76, .t 77], none⟩,
                     ⟨(some 14), .mv, [.t 78], none⟩])))))
              (.reg false [] [⟨(some 79), .bin .add, [.t 65, .c (.p (.i .i64 1))], none⟩,
                 ⟨(some 65), .mv, [.t 79], none⟩])))))))
        (.seq (.seq (.reg false [] [⟨(some 80), .mv, [.t 13], none⟩,
             ⟨(some 81), .bin .neq, [.t 80, .c (.p (.i .i64 0))], none⟩])
          (.cond (.t 81)
            (.seq (.reg false [] [⟨(some 82), .mv, [.t 12], none⟩,
                ⟨(some 83), .len, [.t 82], none⟩,
                ⟨(some 84), .bin .eql, [.t 83, .c (.p (.i .i64 0))], none⟩,
                ⟨(some 85), .mv, [.t 84], none⟩,
                ⟨(some 86), .mv, [.t 14], (some (85, true))⟩,
                ⟨(some 87), .len, [.t 86], (some (85, true))⟩,
                ⟨(some 88), .mv, [.t 1], (some (85, true))⟩,
                ⟨(some 89), .len, [.t 88], (some (85, true))⟩,
                ⟨(some 90), .bin .leq, [.t 87, .t 89], (some (85, true))⟩,
                ⟨(some 91), .pick, [.t 85, .t 90, .c (.p (.b false))], none⟩,
                ⟨(some 92), .mv, [.t 91], none⟩,
                ⟨(some 93), .mv, [.t 14], (some (92, true))⟩,
                ⟨(some 94), .mv, [.t 1], (some (92, true))⟩,
                ⟨(some 95), .mv, [.t 14], (some (92, true))⟩,
                ⟨(some 96), .len, [.t 95], (some (92, true))⟩,
                ⟨(some 97), .slc 1 false true, [.t 94, .t 96], (some (92, true))⟩,
                ⟨(some 98), .call, [.c (.fn c_ref24_SameBytes []), .t 93, .t 97], (some (92, true))⟩,
                ⟨(some 99), .pick, [.t 92, .t 98, .c (.p (.b false))], none⟩,
                ⟨(some 100), .mv, [.t 99], none⟩,
                ⟨(some 101), .call, [.c (.fn c_law33_begun [])], (some (100, true))⟩,
                ⟨(some 102), .pick, [.t 100, .t 101, .c (.p (.b false))], none⟩,
                ⟨(some 4), .mv, [.t 102], none⟩])
             (.ret))
            (.skip)))
         (.seq (.reg false [] [⟨(some 103), .mv, [.t 14], none⟩,
             ⟨(some 104), .mv, [.t 12], none⟩,
             ⟨(some 105), .app 1 1, [.t 103, .t 104], none⟩,
             ⟨(some 106), .mv, [.t 1], none⟩,
             ⟨(some 107), .call, [.c (.fn c_ref24_SameBytes []), .t 105, .t 106], none⟩,
             ⟨(some 108), .mv, [.t 107], none⟩,
             ⟨(some 109), .call, [.c (.fn c_law33_begun [])], (some (108, true))⟩,
             ⟨(some 110), .pick, [.t 108, .t 109, .c (.p (.b false))], none⟩,
             ⟨(some 4), .mv, [.t 110], none⟩])
          (.ret))))))))))

def law33_message (c_mill_Case_Bytes c_mill_Case_Host c_mill_Case_Int c_mill_Case_Pick : Nat) : IC :=
 .seq (.reg false [] [⟨(some 2), .box 6, [.c (.agg [(.p (.i .i64 0)), (.p (.s [])), (.p (.i .i64 0)), (.p (.i .i64 0)), (.p (.i .i64 0)), .nils])], none⟩])
 (.seq (.reg false [] [⟨(some 4), .mv, [.t 0], none⟩,
     ⟨(some 5), .bslice 1 (.p (.i .i64 0)) 6 [0, 1, 2, 3, 4, 5], [.c (.p (.i .i64 1)), .c (.p (.i .i64 2)), .c (.p (.i .i64 127)), .c (.p (.i .i64 128)), .c (.p (.i .i64 300)), .c (.p (.i .i64 1099511627776))], none⟩,
     ⟨(some 6), .call, [.c (.fn c_mill_Case_Pick []), .t 4, .t 5], none⟩,
     ⟨(some 3), .mv, [.t 6], none⟩])
  (.seq (.seq (.reg false [] [⟨(some 7), .mv, [.t 0], none⟩,
       ⟨(some 8), .call, [.c (.fn c_mill_Case_Int []), .t 7, .c (.p (.i .i64 7))], none⟩])
    (.block 0 (
      .seq (.reg false [] [⟨(some 10), .bin .eql, [.t 8, .c (.p (.i .i64 0))], none⟩,
         ⟨(some 9), .mv, [.t 10], none⟩])
      (.cond (.t 9)
        (.seq (.reg false [] [⟨(some 11), .mv, [.t 0], none⟩,
            ⟨(some 12), .call, [.c (.fn c_mill_Case_Host []), .t 11], none⟩,
            ⟨(some 13), .mv, [.t 0], none⟩,
            ⟨(some 14), .call, [.c (.fn c_mill_Case_Int []), .t 13, .c (.p (.i .i64 3))], none⟩,
            ⟨(some 15), .bin .add, [.c (.p (.i .i64 1)), .t 14], none⟩,
            ⟨(some 16), .mv, [.t 3], none⟩,
            ⟨(some 17), .build [(.p (.i .i64 0)), (.p (.s [])), (.p (.i .i64 0)), (.p (.i .i64 0)), (.p (.i .i64 0)), .nils] [(0, 1), (1, 1), (2, 1), (3, 1)], [.c (.p (.i .i64 1)), .t 12, .t 15, .t 16], none⟩,
            ⟨none, .store 6, [.t 2, .t 17], none⟩])
         (.ret))
        (.seq (.reg false [] [⟨(some 19), .bin .eql, [.t 8, .c (.p (.i .i64 1))], none⟩,
            ⟨(some 18), .mv, [.t 19], none⟩])
         (.cond (.t 18)
           (.seq (.reg false [] [⟨(some 20), .mv, [.t 3], none⟩,
               ⟨(some 21), .mv, [.t 0], none⟩,
               ⟨(some 22), .call, [.c (.fn c_mill_Case_Int []), .t 21, .c (.p (.i .i64 2))], none⟩,
               ⟨(some 23), .bin .sub, [.t 20, .t 22], none⟩,
               ⟨(some 24), .build [(.p (.i .i64 0)), (.p (.s [])), (.p (.i .i64 0)), (.p (.i .i64 0)), (.p (.i .i64 0)), .nils] [(0, 1), (3, 1)], [.c (.p (.i .i64 2)), .t 23], none⟩,
               ⟨none, .store 6, [.t 2, .t 24], none⟩])
            (.ret))
           (.seq (.reg false [] [⟨(some 26), .bin .eql, [.t 8, .c (.p (.i .i64 2))], none⟩,
               ⟨(some 25), .mv, [.t 26], none⟩])
            (.cond (.t 25)
              (.seq (.reg false [] [⟨(some 27), .mv, [.t 3], none⟩,
                  ⟨(some 28), .mv, [.t 3], none⟩,
                  ⟨(some 29), .mv, [.t 0], none⟩,
                  ⟨(some 30), .call, [.c (.fn c_mill_Case_Int []), .t 29, .c (.p (.i .i64 200))], none⟩,
                  ⟨(some 31), .bin .add, [.t 28, .t 30], none⟩,
                  ⟨(some 32), .mima false, [.t 31, .c (.p (.i .i64 1099511627776))], none⟩,
                  ⟨(some 33), .build [(.p (.i .i64 0)), (.p (.s [])), (.p (.i .i64 0)), (.p (.i .i64 0)), (.p (.i .i64 0)), .nils] [(0, 1), (3, 1), (4, 1)], [.c (.p (.i .i64 4)), .t 27, .t 32], none⟩,
                  ⟨none, .store 6, [.t 2, .t 33], none⟩])
               (.ret))
              (.seq (.reg false [] [⟨(some 35), .bin .eql, [.t 8, .c (.p (.i .i64 3))], none⟩,
                  ⟨(some 34), .mv, [.t 35], none⟩])
               (.cond (.t 34)
                 (.seq (.reg false [] [⟨(some 36), .mv, [.t 3], none⟩,
                     ⟨(some 37), .mv, [.t 0], none⟩,
                     ⟨(some 38), .call, [.c (.fn c_mill_Case_Int []), .t 37, .c (.p (.i .i64 2))], none⟩,
                     ⟨(some 39), .bin .sub, [.t 36, .t 38], none⟩,
                     ⟨(some 40), .build [(.p (.i .i64 0)), (.p (.s [])), (.p (.i .i64 0)), (.p (.i .i64 0)), (.p (.i .i64 0)), .nils] [(0, 1), (3, 1)], [.c (.p (.i .i64 5)), .t 39], none⟩,
                     ⟨none, .store 6, [.t 2, .t 40], none⟩])
                  (.ret))
                 (.seq (.reg false [] [⟨(some 42), .bin .eql, [.t 8, .c (.p (.i .i64 4))], none⟩,
                     ⟨(some 41), .mv, [.t 42], none⟩])
                  (.cond (.t 41)
                    (.seq (.reg false [] [⟨(some 43), .mv, [.t 0], none⟩,
                        ⟨(some 44), .call, [.c (.fn c_mill_Case_Int []), .t 43, .c (.p (.i .i64 2))], none⟩,
                        ⟨(some 45), .bin .add, [.c (.p (.i .i64 6)), .t 44], none⟩,
                        ⟨(some 46), .build [(.p (.i .i64 0)), (.p (.s [])), (.p (.i .i64 0)), (.p (.i .i64 0)), (.p (.i .i64 0)), .nils] [(0, 1)], [.t 45], none⟩,
                        ⟨none, .store 6, [.t 2, .t 46], none⟩])
                     (.ret))
                    (.skip)))))))))))))
   (.seq (.reg false [] [⟨(some 47), .mv, [.t 3], none⟩,
       ⟨(some 48), .bslice 1 (.p (.i .u8 0)) 1 [0], [.c (.p (.i .u8 1))], none⟩,
       ⟨(some 49), .mv, [.t 0], none⟩,
       ⟨(some 50), .call, [.c (.fn c_mill_Case_Bytes []), .t 49, .c (.p (.i .i64 30))], none⟩,
       ⟨(some 51), .app 1 1, [.t 48, .t 50], none⟩,
       ⟨(some 52), .build [(.p (.i .i64 0)), (.p (.s [])), (.p (.i .i64 0)), (.p (.i .i64 0)), (.p (.i .i64 0)), .nils] [(0, 1), (3, 1), (5, 1)], [.c (.p (.i .i64 3)), .t 47, .t 51], none⟩,
       ⟨none, .store 6, [.t 2, .t 52], none⟩])
    (.ret))))

def law33_spoilt (c_mill_Case_Bytes c_mill_Case_Int c_mill_Case_Pick c_mill_Case_Text : Nat) : IC :=
 .seq (.reg false [] [⟨(some 3), .box 6, [.t 1], none⟩,
    ⟨(some 4), .box 6, [.c (.agg [(.p (.i .i64 0)), (.p (.s [])), (.p (.i .i64 0)), (.p (.i .i64 0)), (.p (.i .i64 0)), .nils])], none⟩])
 (.seq (.reg false [] [⟨(some 6), .mv, [.t 0], none⟩,
     ⟨(some 7), .bslice 1 (.p (.i .i64 0)) 4 [0, 1, 2, 3], [.c (.p (.i .i64 (-1))), .c (.p (.i .i64 0)), .c (.p (.i .i64 1)), .c (.p (.i .i64 1099511627777))], none⟩,
     ⟨(some 8), .call, [.c (.fn c_mill_Case_Pick []), .t 6, .t 7], none⟩,
     ⟨(some 5), .mv, [.t 8], none⟩])
  (.seq (.seq (.reg false [] [⟨(some 9), .mv, [.t 0], none⟩,
       ⟨(some 10), .call, [.c (.fn c_mill_Case_Int []), .t 9, .c (.p (.i .i64 6))], none⟩])
    (.block 0 (
      .seq (.reg false [] [⟨(some 15), .bin .eql, [.t 10, .c (.p (.i .i64 0))], none⟩,
         ⟨(some 14), .mv, [.t 15], none⟩])
      (.cond (.t 14)
        (.reg false [] [⟨(some 16), .mv, [.t 0], none⟩,
           ⟨(some 17), .call, [.c (.fn c_mill_Case_Int []), .t 16, .c (.p (.i .i64 9))], none⟩,
           ⟨(some 18), .fad 0, [.t 3], none⟩,
           ⟨none, .store 1, [.t 18, .t 17], none⟩])
        (.seq (.reg false [] [⟨(some 20), .bin .eql, [.t 10, .c (.p (.i .i64 1))], none⟩,
            ⟨(some 19), .mv, [.t 20], none⟩])
         (.cond (.t 19)
           (.reg false [] [⟨(some 21), .mv, [.t 0], none⟩,
              ⟨(some 22), .call, [.c (.fn c_mill_Case_Text []), .t 21], none⟩,
              ⟨(some 23), .fad 1, [.t 3], none⟩,
              ⟨none, .store 1, [.t 23, .t 22], none⟩])
           (.seq (.reg false [] [⟨(some 25), .bin .eql, [.t 10, .c (.p (.i .i64 2))], none⟩,
               ⟨(some 24), .mv, [.t 25], none⟩])
            (.cond (.t 24)
              (.reg false [] [⟨(some 26), .mv, [.t 5], none⟩,
                 ⟨(some 27), .fad 2, [.t 3], none⟩,
                 ⟨none, .store 1, [.t 27, .t 26], none⟩])
              (.seq (.reg false [] [⟨(some 29), .bin .eql, [.t 10, .c (.p (.i .i64 3))], none⟩,
                  ⟨(some 28), .mv, [.t 29], none⟩])
               (.cond (.t 28)
                 (.reg false [] [⟨(some 30), .mv, [.t 5], none⟩,
                    ⟨(some 31), .fad 3, [.t 3], none⟩,
                    ⟨none, .store 1, [.t 31, .t 30], none⟩])
                 (.seq (.reg false [] [⟨(some 33), .bin .eql, [.t 10, .c (.p (.i .i64 4))], none⟩,
                     ⟨(some 32), .mv, [.t 33], none⟩])
                  (.cond (.t 32)
                    (.reg false [] [⟨(some 34), .mv, [.t 5], none⟩,
                       ⟨(some 35), .fad 4, [.t 3], none⟩,
                       ⟨none, .store 1, [.t 35, .t 34], none⟩])
                    (.reg false [] [⟨(some 11), .mv, [.t 0], none⟩,
                       ⟨(some 12), .call, [.c (.fn c_mill_Case_Bytes []), .t 11, .c (.p (.i .i64 2))], none⟩,
                       ⟨(some 13), .fad 5, [.t 3], none⟩,
                       ⟨none, .store 1, [.t 13, .t 12], none⟩])))))))))))))
   (.seq (.reg false [] [⟨(some 36), .load true 6, [.t 3], none⟩,
       ⟨none, .store 6, [.t 4, .t 36], none⟩])
    (.ret))))

def wire_Encode (c_wire_Valid c_wire_appendNumber c_wire_fields : Nat) : IC :=
 .seq (.reg false [] [⟨(some 1), .box 6, [.t 0], none⟩,
    ⟨(some 2), .mv, [.c .nils], none⟩,
    ⟨(some 3), .mv, [.c (.p (.i .i64 0))], none⟩])
 (.seq (.seq (.reg false [] [⟨(some 11), .load true 6, [.t 1], none⟩,
      ⟨(some 12), .call, [.c (.fn c_wire_Valid []), .t 11], none⟩,
      ⟨(some 13), .not, [.t 12], none⟩])
   (.cond (.t 13)
     (.seq (.reg false [] [⟨(some 2), .mv, [.c .nils], none⟩,
         ⟨(some 3), .mv, [.c (.p (.i .i64 330))], none⟩])
      (.ret))
     (.skip)))
  (.seq (.reg true [(0, 1), (0, 2), (0, 3), (0, 4)] [⟨(some 14), .mks 1 1 (.p (.i .u8 0)), [.c (.p (.i .i64 4)), .c (.p (.i .i64 4))], none⟩,
      ⟨(some 15), .fad 0, [.t 1], none⟩,
      ⟨(some 16), .load false 1, [.t 15], none⟩,
      ⟨(some 17), .conv .u8, [.t 16], none⟩,
      ⟨(some 18), .bslice 1 (.p (.i .u8 0)) 1 [0], [.t 17], none⟩,
      ⟨(some 19), .app 1 1, [.t 14, .t 18], none⟩,
      ⟨(some 4), .mv, [.t 19], none⟩])
   (.seq (.reg false [] [⟨(some 21), .fad 0, [.t 1], none⟩,
       ⟨(some 22), .load false 1, [.t 21], none⟩,
       ⟨(some 23), .call, [.c (.fn c_wire_fields []), .t 22], none⟩,
       ⟨(some 20), .mv, [.t 23], none⟩,
       ⟨(some 24), .ext 0, [.t 20], none⟩,
       ⟨(some 25), .ext 1, [.t 20], none⟩,
       ⟨(some 5), .mv, [.t 24], none⟩,
       ⟨(some 6), .mv, [.t 25], none⟩])
    (.seq (.seq (.reg false [] [⟨(some 26), .mv, [.t 5], none⟩,
         ⟨(some 27), .len, [.t 26], none⟩,
         ⟨(some 28), .mv, [.c (.p (.i .i64 0))], none⟩])
      (.block 0 (
        .loop (
         .seq (.reg false [] [⟨(some 29), .bin .lss, [.t 28, .t 27], none⟩])
         (.seq (.cond (.t 29)
            (.skip)
            (.exit 0))
          (.seq (.block 1 (
             .seq (.reg false [] [⟨(some 30), .iad 1, [.t 26, .t 28], none⟩,
                ⟨(some 31), .load false 1, [.t 30], none⟩,
                ⟨(some 8), .mv, [.t 31], none⟩])
             (.seq (.reg false [] [⟨(some 32), .mv, [.t 8], none⟩])
              (.block 2 (
                .seq (.reg false [] [⟨(some 34), .bin .eql, [.t 32, .c (.p (.i .i64 1))], none⟩,
                   ⟨(some 33), .mv, [.t 34], none⟩])
                (.cond (.t 33)
                  (.reg true [(0, 1), (0, 2), (0, 3), (0, 4), (0, 5), (0, 7), (1, 7), (2, 7), (3, 7), (4, 7), (5, 7), (6, 7), (0, 8), (1, 8), (2, 8), (3, 8), (4, 8), (5, 8), (6, 8)] [⟨(some 35), .mv, [.t 4], none⟩,
                     ⟨(some 36), .fad 1, [.t 1], none⟩,
                     ⟨(some 37), .load false 1, [.t 36], none⟩,
                     ⟨(some 38), .lens, [.t 37], none⟩,
                     ⟨(some 39), .conv .u8, [.t 38], none⟩,
                     ⟨(some 40), .bslice 1 (.p (.i .u8 0)) 1 [0], [.t 39], none⟩,
                     ⟨(some 41), .app 1 1, [.t 35, .t 40], none⟩,
                     ⟨(some 42), .fad 1, [.t 1], none⟩,
                     ⟨(some 43), .load false 1, [.t 42], none⟩,
                     ⟨(some 44), .apps, [.t 41, .t 43], none⟩,
                     ⟨(some 4), .mv, [.t 44], none⟩])
                  (.seq (.reg false [] [⟨(some 46), .bin .eql, [.t 32, .c (.p (.i .i64 2))], none⟩,
                      ⟨(some 45), .mv, [.t 46], none⟩])
                   (.cond (.t 45)
                     (.reg false [] [⟨(some 47), .mv, [.t 4], none⟩,
                        ⟨(some 48), .fad 2, [.t 1], none⟩,
                        ⟨(some 49), .load false 1, [.t 48], none⟩,
                        ⟨(some 50), .call, [.c (.fn c_wire_appendNumber []), .t 47, .t 49], none⟩,
                        ⟨(some 4), .mv, [.t 50], none⟩])
                     (.seq (.reg false [] [⟨(some 52), .bin .eql, [.t 32, .c (.p (.i .i64 3))], none⟩,
                         ⟨(some 51), .mv, [.t 52], none⟩])
                      (.cond (.t 51)
                        (.reg false [] [⟨(some 53), .mv, [.t 4], none⟩,
                           ⟨(some 54), .fad 3, [.t 1], none⟩,
                           ⟨(some 55), .load false 1, [.t 54], none⟩,
                           ⟨(some 56), .call, [.c (.fn c_wire_appendNumber []), .t 53, .t 55], none⟩,
                           ⟨(some 4), .mv, [.t 56], none⟩])
                        (.seq (.reg false [] [⟨(some 58), .bin .eql, [.t 32, .c (.p (.i .i64 4))], none⟩,
                            ⟨(some 57), .mv, [.t 58], none⟩])
                         (.cond (.t 57)
                           (.reg false [] [⟨(some 59), .mv, [.t 4], none⟩,
                              ⟨(some 60), .fad 4, [.t 1], none⟩,
                              ⟨(some 61), .load false 1, [.t 60], none⟩,
                              ⟨(some 62), .call, [.c (.fn c_wire_appendNumber []), .t 59, .t 61], none⟩,
                              ⟨(some 4), .mv, [.t 62], none⟩])
                           (.seq (.reg false [] [⟨(some 64), .bin .eql, [.t 32, .c (.p (.i .i64 5))], none⟩,
                               ⟨(some 63), .mv, [.t 64], none⟩])
                            (.cond (.t 63)
                              (.reg false [] [⟨(some 65), .mv, [.t 4], none⟩,
                                 ⟨(some 66), .fad 5, [.t 1], none⟩,
                                 ⟨(some 67), .load false 1, [.t 66], none⟩,
                                 ⟨(some 68), .app 1 1, [.t 65, .t 67], none⟩,
                                 ⟨(some 4), .mv, [.t 68], none⟩])
                              (.skip)))))))))))))))
           (.reg false [] [⟨(some 69), .bin .add, [.t 28, .c (.p (.i .i64 1))], none⟩,
              ⟨(some 28), .mv, [.t 69], none⟩])))))))
     (.seq (.reg false [] [⟨(some 70), .mv, [.t 4], none⟩,
         ⟨(some 71), .len, [.t 70], none⟩,
         ⟨(some 72), .bin .sub, [.t 71, .c (.p (.i .i64 4))], none⟩,
         ⟨(some 9), .mv, [.t 72], none⟩])
      (.seq (.seq (.reg false [] [⟨(some 73), .mv, [.c (.p (.i .i64 0))], none⟩])
        (.block 3 (
          .loop (
           .seq (.reg false [] [⟨(some 74), .bin .lss, [.t 73, .c (.p (.i .i64 4))], none⟩])
           (.seq (.cond (.t 74)
              (.skip)
              (.exit 3))
            (.seq (.block 4 (
               .seq (.reg false [] [⟨(some 75), .mv, [.t 73], none⟩,
                  ⟨(some 10), .mv, [.t 75], none⟩])
               (.reg false [] [⟨(some 76), .mv, [.t 4], none⟩,
                  ⟨(some 77), .mv, [.t 10], none⟩,
                  ⟨(some 78), .mv, [.t 9], none⟩,
                  ⟨(some 79), .mv, [.t 10], none⟩,
                  ⟨(some 80), .bin .mul, [.c (.p (.i .i64 8)), .t 79], none⟩,
                  ⟨(some 81), .bin .sub, [.c (.p (.i .i64 24)), .t 80], none⟩,
                  ⟨(some 82), .bin .shr, [.t 78, .t 81], none⟩,
                  ⟨(some 83), .conv .u8, [.t 82], none⟩,
                  ⟨(some 84), .iad 1, [.t 76, .t 77], none⟩,
                  ⟨none, .store 1, [.t 84, .t 83], none⟩])))
             (.reg false [] [⟨(some 85), .bin .add, [.t 73, .c (.p (.i .i64 1))], none⟩,
                ⟨(some 73), .mv, [.t 85], none⟩])))))))
       (.seq (.reg false [] [⟨(some 86), .mv, [.t 4], none⟩,
           ⟨(some 2), .mv, [.t 86], none⟩,
           ⟨(some 3), .mv, [.c (.p (.i .i64 0))], none⟩])
        (.ret))))))))

def ref33_Encode (c_ref25_Put c_ref33_Valid c_ref33_uses : Nat) : IC :=
 .seq (.reg false [] [⟨(some 1), .box 6, [.t 0], none⟩,
    ⟨(some 2), .mv, [.c .nils], none⟩,
    ⟨(some 3), .mv, [.c (.p (.i .i64 0))], none⟩])
 (.seq (.seq (.reg false [] [⟨(some 10), .load true 6, [.t 1], none⟩,
      ⟨(some 11), .call, [.c (.fn c_ref33_Valid []), .t 10], none⟩,
      ⟨(some 12), .not, [.t 11], none⟩])
   (.cond (.t 12)
     (.seq (.reg false [] [⟨(some 2), .mv, [.c .nils], none⟩,
         ⟨(some 3), .mv, [.c (.p (.i .i64 330))], none⟩])
      (.ret))
     (.skip)))
  (.seq (.reg false [] [⟨(some 14), .fad 0, [.t 1], none⟩,
      ⟨(some 15), .load false 1, [.t 14], none⟩,
      ⟨(some 16), .call, [.c (.fn c_ref33_uses []), .t 15], none⟩,
      ⟨(some 13), .mv, [.t 16], none⟩,
      ⟨(some 17), .ext 0, [.t 13], none⟩,
      ⟨(some 18), .ext 1, [.t 13], none⟩,
      ⟨(some 19), .ext 2, [.t 13], none⟩,
      ⟨(some 20), .ext 3, [.t 13], none⟩,
      ⟨(some 4), .mv, [.t 17], none⟩,
      ⟨(some 5), .mv, [.t 18], none⟩,
      ⟨(some 6), .mv, [.t 19], none⟩,
      ⟨(some 7), .mv, [.t 20], none⟩])
   (.seq (.reg false [] [⟨(some 21), .fad 0, [.t 1], none⟩,
       ⟨(some 22), .load false 1, [.t 21], none⟩,
       ⟨(some 23), .conv .u8, [.t 22], none⟩,
       ⟨(some 24), .bslice 1 (.p (.i .u8 0)) 1 [0], [.t 23], none⟩,
       ⟨(some 8), .mv, [.t 24], none⟩])
    (.seq (.seq (.reg false [] [⟨(some 25), .mv, [.t 4], none⟩])
      (.cond (.t 25)
        (.seq (.reg true [(0, 1), (0, 2), (0, 3), (0, 4), (0, 5), (0, 7), (1, 7), (2, 7), (3, 7), (4, 7), (5, 7), (6, 7), (0, 8), (1, 8), (2, 8), (3, 8), (4, 8), (5, 8), (6, 8)] [⟨(some 26), .mv, [.t 8], none⟩,
            ⟨(some 27), .fad 1, [.t 1], none⟩,
            ⟨(some 28), .load false 1, [.t 27], none⟩,
            ⟨(some 29), .lens, [.t 28], none⟩,
            ⟨(some 30), .conv .u8, [.t 29], none⟩,
            ⟨(some 31), .bslice 1 (.p (.i .u8 0)) 1 [0], [.t 30], none⟩,
            ⟨(some 32), .app 1 1, [.t 26, .t 31], none⟩,
            ⟨(some 33), .fad 1, [.t 1], none⟩,
            ⟨(some 34), .load false 1, [.t 33], none⟩,
            ⟨(some 35), .apps, [.t 32, .t 34], none⟩,
            ⟨(some 8), .mv, [.t 35], none⟩])
         (.reg false [] [⟨(some 36), .mv, [.t 8], none⟩,
            ⟨(some 37), .fad 2, [.t 1], none⟩,
            ⟨(some 38), .load false 1, [.t 37], none⟩,
            ⟨(some 39), .call, [.c (.fn c_ref25_Put []), .t 36, .t 38], none⟩,
            ⟨(some 8), .mv, [.t 39], none⟩]))
        (.skip)))
     (.seq (.seq (.reg false [] [⟨(some 40), .mv, [.t 5], none⟩])
       (.cond (.t 40)
         (.reg false [] [⟨(some 41), .mv, [.t 8], none⟩,
            ⟨(some 42), .fad 3, [.t 1], none⟩,
            ⟨(some 43), .load false 1, [.t 42], none⟩,
            ⟨(some 44), .call, [.c (.fn c_ref25_Put []), .t 41, .t 43], none⟩,
            ⟨(some 8), .mv, [.t 44], none⟩])
         (.skip)))
      (.seq (.seq (.reg false [] [⟨(some 45), .mv, [.t 6], none⟩])
        (.cond (.t 45)
          (.reg false [] [⟨(some 46), .mv, [.t 8], none⟩,
             ⟨(some 47), .fad 4, [.t 1], none⟩,
             ⟨(some 48), .load false 1, [.t 47], none⟩,
             ⟨(some 49), .call, [.c (.fn c_ref25_Put []), .t 46, .t 48], none⟩,
             ⟨(some 8), .mv, [.t 49], none⟩])
          (.skip)))
       (.seq (.reg false [] [⟨(some 50), .mv, [.t 8], none⟩,
           ⟨(some 51), .fad 5, [.t 1], none⟩,
           ⟨(some 52), .load false 1, [.t 51], none⟩,
           ⟨(some 53), .app 1 1, [.t 50, .t 52], none⟩,
           ⟨(some 8), .mv, [.t 53], none⟩])
        (.seq (.reg false [] [⟨(some 54), .mv, [.t 8], none⟩,
            ⟨(some 55), .len, [.t 54], none⟩,
            ⟨(some 9), .mv, [.t 55], none⟩])
         (.seq (.reg false [] [⟨(some 56), .mv, [.t 9], none⟩,
             ⟨(some 57), .bin .shr, [.t 56, .c (.p (.i .u64 24))], none⟩,
             ⟨(some 58), .conv .u8, [.t 57], none⟩,
             ⟨(some 59), .mv, [.t 9], none⟩,
             ⟨(some 60), .bin .shr, [.t 59, .c (.p (.i .u64 16))], none⟩,
             ⟨(some 61), .conv .u8, [.t 60], none⟩,
             ⟨(some 62), .mv, [.t 9], none⟩,
             ⟨(some 63), .bin .shr, [.t 62, .c (.p (.i .u64 8))], none⟩,
             ⟨(some 64), .conv .u8, [.t 63], none⟩,
             ⟨(some 65), .mv, [.t 9], none⟩,
             ⟨(some 66), .conv .u8, [.t 65], none⟩,
             ⟨(some 67), .bslice 1 (.p (.i .u8 0)) 4 [0, 1, 2, 3], [.t 58, .t 61, .t 64, .t 66], none⟩,
             ⟨(some 68), .mv, [.t 8], none⟩,
             ⟨(some 69), .app 1 1, [.t 67, .t 68], none⟩,
             ⟨(some 2), .mv, [.t 69], none⟩,
             ⟨(some 3), .mv, [.c (.p (.i .i64 0))], none⟩])
          (.ret))))))))))

def wire_Valid (c_slices_Contains_lint_int c_wire_fields c_wire_validField c_wire_zeroField : Nat) : IC :=
 .seq (.reg false [] [⟨(some 1), .box 6, [.t 0], none⟩,
    ⟨(some 2), .mv, [.c (.p (.b false))], none⟩])
 (.seq (.reg false [] [⟨(some 7), .fad 0, [.t 1], none⟩,
     ⟨(some 8), .load false 1, [.t 7], none⟩,
     ⟨(some 9), .call, [.c (.fn c_wire_fields []), .t 8], none⟩,
     ⟨(some 6), .mv, [.t 9], none⟩,
     ⟨(some 10), .ext 0, [.t 6], none⟩,
     ⟨(some 11), .ext 1, [.t 6], none⟩,
     ⟨(some 3), .mv, [.t 10], none⟩,
     ⟨(some 4), .mv, [.t 11], none⟩])
  (.seq (.seq (.reg false [] [⟨(some 12), .mv, [.t 4], none⟩,
       ⟨(some 13), .not, [.t 12], none⟩])
    (.cond (.t 13)
      (.seq (.reg false [] [⟨(some 2), .mv, [.c (.p (.b false))], none⟩])
       (.ret))
      (.skip)))
   (.seq (.seq (.reg false [] [⟨(some 5), .mv, [.c (.p (.i .i64 1))], none⟩])
     (.block 0 (
       .loop (
        .seq (.seq (.reg false [] [⟨(some 14), .mv, [.t 5], none⟩,
            ⟨(some 15), .bin .leq, [.t 14, .c (.p (.i .i64 5))], none⟩])
         (.cond (.t 15)
           (.skip)
           (.exit 0)))
        (.seq (.block 1 (
           .seq (.seq (.reg false [] [⟨(some 18), .mv, [.t 3], none⟩,
               ⟨(some 19), .mv, [.t 5], none⟩,
               ⟨(some 20), .call, [.c (.fn c_slices_Contains_lint_int []), .t 18, .t 19], none⟩])
            (.cond (.t 20)
              (.reg false [] [⟨(some 21), .load true 6, [.t 1], none⟩,
                 ⟨(some 22), .mv, [.t 5], none⟩,
                 ⟨(some 23), .call, [.c (.fn c_wire_validField []), .t 21, .t 22], none⟩,
                 ⟨(some 4), .mv, [.t 23], none⟩])
              (.reg false [] [⟨(some 24), .load true 6, [.t 1], none⟩,
                 ⟨(some 25), .mv, [.t 5], none⟩,
                 ⟨(some 26), .call, [.c (.fn c_wire_zeroField []), .t 24, .t 25], none⟩,
                 ⟨(some 4), .mv, [.t 26], none⟩])))
           (.seq (.reg false [] [⟨(some 27), .mv, [.t 4], none⟩,
               ⟨(some 28), .not, [.t 27], none⟩])
            (.cond (.t 28)
              (.seq (.reg false [] [⟨(some 2), .mv, [.c (.p (.b false))], none⟩])
               (.ret))
              (.skip)))))
         (.reg false [] [⟨(some 16), .mv, [.t 5], none⟩,
            ⟨(some 17), .bin .add, [.t 16, .c (.p (.i .i64 1))], none⟩,
            ⟨(some 5), .mv, [.t 17], none⟩]))))))
    (.seq (.reg false [] [⟨(some 2), .mv, [.c (.p (.b true))], none⟩])
     (.ret)))))

def ref33_Valid (c_ref25_HostName c_ref33_uses : Nat) : IC :=
 .seq (.reg false [] [⟨(some 1), .box 6, [.t 0], none⟩,
    ⟨(some 2), .mv, [.c (.p (.b false))], none⟩])
 (.seq (.seq (.reg false [] [⟨(some 8), .fad 0, [.t 1], none⟩,
      ⟨(some 9), .load false 1, [.t 8], none⟩,
      ⟨(some 10), .bin .lss, [.t 9, .c (.p (.i .i64 1))], none⟩,
      ⟨(some 11), .mv, [.t 10], none⟩,
      ⟨(some 12), .fad 0, [.t 1], (some (11, false))⟩,
      ⟨(some 13), .load false 1, [.t 12], (some (11, false))⟩,
      ⟨(some 14), .bin .gtr, [.t 13, .c (.p (.i .i64 7))], (some (11, false))⟩,
      ⟨(some 15), .pick, [.t 11, .c (.p (.b true)), .t 14], none⟩])
   (.cond (.t 15)
     (.seq (.reg false [] [⟨(some 2), .mv, [.c (.p (.b false))], none⟩])
      (.ret))
     (.skip)))
  (.seq (.reg false [] [⟨(some 17), .fad 0, [.t 1], none⟩,
      ⟨(some 18), .load false 1, [.t 17], none⟩,
      ⟨(some 19), .call, [.c (.fn c_ref33_uses []), .t 18], none⟩,
      ⟨(some 16), .mv, [.t 19], none⟩,
      ⟨(some 20), .ext 0, [.t 16], none⟩,
      ⟨(some 21), .ext 1, [.t 16], none⟩,
      ⟨(some 22), .ext 2, [.t 16], none⟩,
      ⟨(some 23), .ext 3, [.t 16], none⟩,
      ⟨(some 3), .mv, [.t 20], none⟩,
      ⟨(some 4), .mv, [.t 21], none⟩,
      ⟨(some 5), .mv, [.t 22], none⟩,
      ⟨(some 6), .mv, [.t 23], none⟩])
   (.seq (.reg false [] [⟨(some 7), .mv, [.c (.p (.i .i64 1))], none⟩])
    (.seq (.seq (.reg false [] [⟨(some 24), .fad 0, [.t 1], none⟩,
         ⟨(some 25), .load false 1, [.t 24], none⟩,
         ⟨(some 26), .bin .eql, [.t 25, .c (.p (.i .i64 2))], none⟩,
         ⟨(some 27), .mv, [.t 26], none⟩,
         ⟨(some 28), .fad 0, [.t 1], (some (27, false))⟩,
         ⟨(some 29), .load false 1, [.t 28], (some (27, false))⟩,
         ⟨(some 30), .bin .eql, [.t 29, .c (.p (.i .i64 5))], (some (27, false))⟩,
         ⟨(some 31), .pick, [.t 27, .c (.p (.b true)), .t 30], none⟩])
      (.cond (.t 31)
        (.reg false [] [⟨(some 7), .mv, [.c (.p (.i .i64 0))], none⟩])
        (.skip)))
     (.seq (.seq (.reg false [] [⟨(some 32), .mv, [.t 3], none⟩,
          ⟨(some 33), .mv, [.t 32], none⟩,
          ⟨(some 34), .fad 1, [.t 1], (some (33, true))⟩,
          ⟨(some 35), .load false 1, [.t 34], (some (33, true))⟩,
          ⟨(some 36), .call, [.c (.fn c_ref25_HostName []), .t 35], (some (33, true))⟩,
          ⟨(some 37), .not, [.t 36], (some (33, true))⟩,
          ⟨(some 38), .mv, [.t 37], (some (33, true))⟩,
          ⟨(some 39), .fad 2, [.t 1], (some (38, false))⟩,
          ⟨(some 40), .load false 1, [.t 39], (some (38, false))⟩,
          ⟨(some 41), .bin .lss, [.t 40, .c (.p (.i .i64 1))], (some (38, false))⟩,
          ⟨(some 42), .pick, [.t 38, .c (.p (.b true)), .t 41], (some (33, true))⟩,
          ⟨(some 43), .mv, [.t 42], (some (33, true))⟩,
          ⟨(some 44), .fad 2, [.t 1], (some (43, false))⟩,
          ⟨(some 45), .load false 1, [.t 44], (some (43, false))⟩,
          ⟨(some 46), .bin .gtr, [.t 45, .c (.p (.i .i64 1099511627776))], (some (43, false))⟩,
          ⟨(some 47), .pick, [.t 43, .c (.p (.b true)), .t 46], (some (33, true))⟩,
          ⟨(some 48), .pick, [.t 33, .t 47, .c (.p (.b false))], none⟩,
          ⟨(some 49), .mv, [.t 48], none⟩,
          ⟨(some 50), .mv, [.t 3], (some (49, false))⟩,
          ⟨(some 51), .not, [.t 50], (some (49, false))⟩,
          ⟨(some 52), .mv, [.t 51], (some (49, false))⟩,
          ⟨(some 53), .fad 1, [.t 1], (some (52, true))⟩,
          ⟨(some 54), .load false 1, [.t 53], (some (52, true))⟩,
          ⟨(some 55), .beq true true, [.t 54, .c (.p (.s []))], (some (52, true))⟩,
          ⟨(some 56), .mv, [.t 55], (some (52, true))⟩,
          ⟨(some 57), .fad 2, [.t 1], (some (56, false))⟩,
          ⟨(some 58), .load false 1, [.t 57], (some (56, false))⟩,
          ⟨(some 59), .bin .neq, [.t 58, .c (.p (.i .i64 0))], (some (56, false))⟩,
          ⟨(some 60), .pick, [.t 56, .c (.p (.b true)), .t 59], (some (52, true))⟩,
          ⟨(some 61), .pick, [.t 52, .t 60, .c (.p (.b false))], (some (49, false))⟩,
          ⟨(some 62), .pick, [.t 49, .c (.p (.b true)), .t 61], none⟩])
       (.cond (.t 62)
         (.seq (.reg false [] [⟨(some 2), .mv, [.c (.p (.b false))], none⟩])
          (.ret))
         (.skip)))
      (.seq (.seq (.reg false [] [⟨(some 63), .mv, [.t 4], none⟩,
           ⟨(some 64), .mv, [.t 63], none⟩,
           ⟨(some 65), .fad 3, [.t 1], (some (64, true))⟩,
           ⟨(some 66), .load false 1, [.t 65], (some (64, true))⟩,
           ⟨(some 67), .mv, [.t 7], (some (64, true))⟩,
           ⟨(some 68), .bin .lss, [.t 66, .t 67], (some (64, true))⟩,
           ⟨(some 69), .mv, [.t 68], (some (64, true))⟩,
           ⟨(some 70), .fad 3, [.t 1], (some (69, false))⟩,
           ⟨(some 71), .load false 1, [.t 70], (some (69, false))⟩,
           ⟨(some 72), .bin .gtr, [.t 71, .c (.p (.i .i64 1099511627776))], (some (69, false))⟩,
           ⟨(some 73), .pick, [.t 69, .c (.p (.b true)), .t 72], (some (64, true))⟩,
           ⟨(some 74), .pick, [.t 64, .t 73, .c (.p (.b false))], none⟩,
           ⟨(some 75), .mv, [.t 74], none⟩,
           ⟨(some 76), .mv, [.t 4], (some (75, false))⟩,
           ⟨(some 77), .not, [.t 76], (some (75, false))⟩,
           ⟨(some 78), .mv, [.t 77], (some (75, false))⟩,
           ⟨(some 79), .fad 3, [.t 1], (some (78, true))⟩,
           ⟨(some 80), .load false 1, [.t 79], (some (78, true))⟩,
           ⟨(some 81), .bin .neq, [.t 80, .c (.p (.i .i64 0))], (some (78, true))⟩,
           ⟨(some 82), .pick, [.t 78, .t 81, .c (.p (.b false))], (some (75, false))⟩,
           ⟨(some 83), .pick, [.t 75, .c (.p (.b true)), .t 82], none⟩])
        (.cond (.t 83)
          (.seq (.reg false [] [⟨(some 2), .mv, [.c (.p (.b false))], none⟩])
           (.ret))
          (.skip)))
       (.seq (.seq (.reg false [] [⟨(some 84), .mv, [.t 5], none⟩,
            ⟨(some 85), .mv, [.t 84], none⟩,
            ⟨(some 86), .fad 4, [.t 1], (some (85, true))⟩,
            ⟨(some 87), .load false 1, [.t 86], (some (85, true))⟩,
            ⟨(some 88), .fad 3, [.t 1], (some (85, true))⟩,
            ⟨(some 89), .load false 1, [.t 88], (some (85, true))⟩,
            ⟨(some 90), .bin .lss, [.t 87, .t 89], (some (85, true))⟩,
            ⟨(some 91), .mv, [.t 90], (some (85, true))⟩,
            ⟨(some 92), .fad 4, [.t 1], (some (91, false))⟩,
            ⟨(some 93), .load false 1, [.t 92], (some (91, false))⟩,
            ⟨(some 94), .bin .gtr, [.t 93, .c (.p (.i .i64 1099511627776))], (some (91, false))⟩,
            ⟨(some 95), .pick, [.t 91, .c (.p (.b true)), .t 94], (some (85, true))⟩,
            ⟨(some 96), .pick, [.t 85, .t 95, .c (.p (.b false))], none⟩,
            ⟨(some 97), .mv, [.t 96], none⟩,
            ⟨(some 98), .mv, [.t 5], (some (97, false))⟩,
            ⟨(some 99), .not, [.t 98], (some (97, false))⟩,
            ⟨(some 100), .mv, [.t 99], (some (97, false))⟩,
            ⟨(some 101), .fad 4, [.t 1], (some (100, true))⟩,
            ⟨(some 102), .load false 1, [.t 101], (some (100, true))⟩,
            ⟨(some 103), .bin .neq, [.t 102, .c (.p (.i .i64 0))], (some (100, true))⟩,
            ⟨(some 104), .pick, [.t 100, .t 103, .c (.p (.b false))], (some (97, false))⟩,
            ⟨(some 105), .pick, [.t 97, .c (.p (.b true)), .t 104], none⟩])
         (.cond (.t 105)
           (.seq (.reg false [] [⟨(some 2), .mv, [.c (.p (.b false))], none⟩])
            (.ret))
           (.skip)))
        (.seq (.reg false [] [⟨(some 106), .mv, [.t 6], none⟩,
            ⟨(some 107), .mv, [.t 106], none⟩,
            ⟨(some 108), .fad 5, [.t 1], (some (107, true))⟩,
            ⟨(some 109), .load false 1, [.t 108], (some (107, true))⟩,
            ⟨(some 110), .len, [.t 109], (some (107, true))⟩,
            ⟨(some 111), .bin .geq, [.t 110, .c (.p (.i .i64 1))], (some (107, true))⟩,
            ⟨(some 112), .pick, [.t 107, .t 111, .c (.p (.b false))], none⟩,
            ⟨(some 113), .mv, [.t 112], none⟩,
            ⟨(some 114), .fad 5, [.t 1], (some (113, true))⟩,
            ⟨(some 115), .load false 1, [.t 114], (some (113, true))⟩,
            ⟨(some 116), .len, [.t 115], (some (113, true))⟩,
            ⟨(some 117), .bin .leq, [.t 116, .c (.p (.i .i64 16320))], (some (113, true))⟩,
            ⟨(some 118), .pick, [.t 113, .t 117, .c (.p (.b false))], none⟩,
            ⟨(some 119), .mv, [.t 118], none⟩,
            ⟨(some 120), .mv, [.t 6], (some (119, false))⟩,
            ⟨(some 121), .not, [.t 120], (some (119, false))⟩,
            ⟨(some 122), .mv, [.t 121], (some (119, false))⟩,
            ⟨(some 123), .fad 5, [.t 1], (some (122, true))⟩,
            ⟨(some 124), .load false 1, [.t 123], (some (122, true))⟩,
            ⟨(some 125), .len, [.t 124], (some (122, true))⟩,
            ⟨(some 126), .bin .eql, [.t 125, .c (.p (.i .i64 0))], (some (122, true))⟩,
            ⟨(some 127), .pick, [.t 122, .t 126, .c (.p (.b false))], (some (119, false))⟩,
            ⟨(some 128), .pick, [.t 119, .c (.p (.b true)), .t 127], none⟩,
            ⟨(some 2), .mv, [.t 128], none⟩])
         (.ret)))))))))

def law33_begun (c_ref24_SameBytes c_wire_Encode c_wire_Feed : Nat) : IC :=
 .seq (.reg false [] [⟨(some 0), .mv, [.c (.p (.b false))], none⟩])
 (.seq (.reg false [] [⟨(some 7), .build [(.p (.i .i64 0)), (.p (.s [])), (.p (.i .i64 0)), (.p (.i .i64 0)), (.p (.i .i64 0)), .nils] [(0, 1)], [.c (.p (.i .i64 6))], none⟩,
     ⟨(some 8), .call, [.c (.fn c_wire_Encode []), .t 7], none⟩,
     ⟨(some 6), .mv, [.t 8], none⟩,
     ⟨(some 9), .ext 0, [.t 6], none⟩,
     ⟨(some 10), .ext 1, [.t 6], none⟩,
     ⟨(some 1), .mv, [.t 9], none⟩,
     ⟨(some 2), .mv, [.t 10], none⟩])
  (.seq (.reg false [] [⟨(some 12), .mv, [.t 1], none⟩,
      ⟨(some 13), .bslice 1 (.p (.i .u8 0)) 1 [0], [.c (.p (.i .u8 0))], none⟩,
      ⟨(some 14), .call, [.c (.fn c_wire_Feed []), .t 12, .t 13], none⟩,
      ⟨(some 11), .mv, [.t 14], none⟩,
      ⟨(some 15), .ext 0, [.t 11], none⟩,
      ⟨(some 16), .ext 1, [.t 11], none⟩,
      ⟨(some 17), .ext 2, [.t 11], none⟩,
      ⟨(some 3), .mv, [.t 15], none⟩,
      ⟨(some 4), .mv, [.t 16], none⟩,
      ⟨(some 5), .mv, [.t 17], none⟩])
   (.seq (.reg false [] [⟨(some 18), .mv, [.t 2], none⟩,
       ⟨(some 19), .bin .eql, [.t 18, .c (.p (.i .i64 0))], none⟩,
       ⟨(some 20), .mv, [.t 19], none⟩,
       ⟨(some 21), .mv, [.t 5], (some (20, true))⟩,
       ⟨(some 22), .bin .eql, [.t 21, .c (.p (.i .i64 0))], (some (20, true))⟩,
       ⟨(some 23), .pick, [.t 20, .t 22, .c (.p (.b false))], none⟩,
       ⟨(some 24), .mv, [.t 23], none⟩,
       ⟨(some 25), .mv, [.t 1], (some (24, true))⟩,
       ⟨(some 26), .bslice 1 (.p (.i .u8 0)) 5 [0, 1, 2, 3, 4], [.c (.p (.i .u8 0)), .c (.p (.i .u8 0)), .c (.p (.i .u8 0)), .c (.p (.i .u8 1)), .c (.p (.i .u8 6))], (some (24, true))⟩,
       ⟨(some 27), .call, [.c (.fn c_ref24_SameBytes []), .t 25, .t 26], (some (24, true))⟩,
       ⟨(some 28), .pick, [.t 24, .t 27, .c (.p (.b false))], none⟩,
       ⟨(some 29), .mv, [.t 28], none⟩,
       ⟨(some 30), .mv, [.t 3], (some (29, true))⟩,
       ⟨(some 31), .len, [.t 30], (some (29, true))⟩,
       ⟨(some 32), .bin .eql, [.t 31, .c (.p (.i .i64 1))], (some (29, true))⟩,
       ⟨(some 33), .pick, [.t 29, .t 32, .c (.p (.b false))], none⟩,
       ⟨(some 34), .mv, [.t 33], none⟩,
       ⟨(some 35), .mv, [.t 3], (some (34, true))⟩,
       ⟨(some 36), .iad 6, [.t 35, .c (.p (.i .i64 0))], (some (34, true))⟩,
       ⟨(some 37), .fad 0, [.t 36], (some (34, true))⟩,
       ⟨(some 38), .load false 1, [.t 37], (some (34, true))⟩,
       ⟨(some 39), .bin .eql, [.t 38, .c (.p (.i .i64 6))], (some (34, true))⟩,
       ⟨(some 40), .pick, [.t 34, .t 39, .c (.p (.b false))], none⟩,
       ⟨(some 41), .mv, [.t 40], none⟩,
       ⟨(some 42), .mv, [.t 4], (some (41, true))⟩,
       ⟨(some 43), .len, [.t 42], (some (41, true))⟩,
       ⟨(some 44), .bin .eql, [.t 43, .c (.p (.i .i64 1))], (some (41, true))⟩,
       ⟨(some 45), .pick, [.t 41, .t 44, .c (.p (.b false))], none⟩,
       ⟨(some 0), .mv, [.t 45], none⟩])
    (.ret))))

def law33_stream (c_law33_message c_mill_Case_Int c_wire_Encode : Nat) : IC :=
 .seq (.reg false [] [⟨(some 2), .mv, [.c .nils], none⟩,
    ⟨(some 3), .mv, [.c .nils], none⟩])
 (.seq (.reg false [] [⟨(some 4), .mv, [.c .nils], none⟩])
  (.seq (.reg false [] [⟨(some 5), .mv, [.c .nils], none⟩])
   (.seq (.seq (.reg false [] [⟨(some 10), .mv, [.t 0], none⟩,
        ⟨(some 11), .call, [.c (.fn c_mill_Case_Int []), .t 10, .c (.p (.i .i64 5))], none⟩,
        ⟨(some 6), .mv, [.t 11], none⟩])
     (.block 0 (
       .loop (
        .seq (.seq (.reg false [] [⟨(some 12), .mv, [.t 6], none⟩,
            ⟨(some 13), .bin .gtr, [.t 12, .c (.p (.i .i64 0))], none⟩])
         (.cond (.t 13)
           (.skip)
           (.exit 0)))
        (.seq (.block 1 (
           .seq (.reg false [] [⟨(some 16), .mv, [.t 0], none⟩,
              ⟨(some 17), .call, [.c (.fn c_law33_message []), .t 16], none⟩,
              ⟨(some 7), .box 6, [.c (.agg [(.p (.i .i64 0)), (.p (.s [])), (.p (.i .i64 0)), (.p (.i .i64 0)), (.p (.i .i64 0)), .nils])], none⟩,
              ⟨none, .store 6, [.t 7, .t 17], none⟩])
           (.seq (.reg false [] [⟨(some 19), .load true 6, [.t 7], none⟩,
               ⟨(some 20), .call, [.c (.fn c_wire_Encode []), .t 19], none⟩,
               ⟨(some 18), .mv, [.t 20], none⟩,
               ⟨(some 21), .ext 0, [.t 18], none⟩,
               ⟨(some 22), .ext 1, [.t 18], none⟩,
               ⟨(some 8), .mv, [.t 21], none⟩,
               ⟨(some 9), .mv, [.t 22], none⟩])
            (.reg false [] [⟨(some 23), .mv, [.t 4], none⟩,
               ⟨(some 24), .load true 6, [.t 7], none⟩,
               ⟨(some 25), .bslice 6 (.agg [(.p (.i .i64 0)), (.p (.s [])), (.p (.i .i64 0)), (.p (.i .i64 0)), (.p (.i .i64 0)), .nils]) 1 [0], [.t 24], none⟩,
               ⟨(some 26), .app 6 72, [.t 23, .t 25], none⟩,
               ⟨(some 27), .mv, [.t 5], none⟩,
               ⟨(some 28), .mv, [.t 8], none⟩,
               ⟨(some 29), .app 1 1, [.t 27, .t 28], none⟩,
               ⟨(some 4), .mv, [.t 26], none⟩,
               ⟨(some 5), .mv, [.t 29], none⟩]))))
         (.reg false [] [⟨(some 14), .mv, [.t 6], none⟩,
            ⟨(some 15), .bin .sub, [.t 14, .c (.p (.i .i64 1))], none⟩,
            ⟨(some 6), .mv, [.t 15], none⟩]))))))
    (.seq (.reg false [] [⟨(some 30), .mv, [.t 4], none⟩,
        ⟨(some 31), .mv, [.t 5], none⟩,
        ⟨(some 2), .mv, [.t 30], none⟩,
        ⟨(some 3), .mv, [.t 31], none⟩])
     (.ret)))))

def wire_Feed (c_wire_decode : Nat) : IC :=
 .seq (.reg false [] [⟨(some 4), .mv, [.c .nils], none⟩,
    ⟨(some 5), .mv, [.c .nils], none⟩,
    ⟨(some 6), .mv, [.c (.p (.i .i64 0))], none⟩])
 (.seq (.reg false [] [⟨(some 13), .mv, [.t 0], none⟩,
     ⟨(some 14), .app 1 1, [.c .nils, .t 13], none⟩,
     ⟨(some 15), .mv, [.t 1], none⟩,
     ⟨(some 16), .app 1 1, [.t 14, .t 15], none⟩,
     ⟨(some 7), .mv, [.t 16], none⟩])
  (.seq (.reg false [] [⟨(some 8), .mv, [.c .nils], none⟩])
   (.seq (.block 0 (
      .loop (
       .seq (.seq (.reg false [] [⟨(some 17), .mv, [.t 7], none⟩,
           ⟨(some 18), .len, [.t 17], none⟩,
           ⟨(some 19), .bin .geq, [.t 18, .c (.p (.i .i64 4))], none⟩])
        (.cond (.t 19)
          (.skip)
          (.exit 0)))
       (.block 1 (
         .seq (.reg true [(0, 5), (1, 5), (2, 5), (3, 5), (4, 5), (0, 6), (1, 6), (2, 6), (3, 6), (4, 6), (0, 7), (1, 7), (2, 7), (3, 7), (4, 7), (0, 8), (1, 8), (2, 8), (3, 8), (4, 8), (0, 9), (1, 9), (2, 9), (3, 9), (4, 9), (0, 11), (1, 11), (2, 11), (3, 11), (4, 11), (5, 11), (6, 11), (7, 11), (8, 11), (9, 11), (10, 11), (0, 12), (1, 12), (2, 12), (3, 12), (4, 12), (5, 12), (6, 12), (7, 12), (8, 12), (9, 12), (10, 12), (0, 13), (1, 13), (2, 13), (3, 13), (4, 13), (5, 13), (6, 13), (7, 13), (8, 13), (9, 13), (10, 13), (0, 14), (1, 14), (2, 14), (3, 14), (4, 14), (5, 14), (6, 14), (7, 14), (8, 14), (9, 14), (10, 14), (0, 15), (1, 15), (2, 15), (3, 15), (4, 15), (5, 15), (6, 15), (7, 15), (8, 15), (9, 15), (10, 15), (0, 17), (1, 17), (2, 17), (3, 17), (4, 17), (5, 17), (6, 17), (7, 17), (8, 17), (9, 17), (10, 17), (11, 17), (12, 17), (13, 17), (14, 17), (15, 17), (16, 17), (0, 18), (1, 18), (2, 18), (3, 18), (4, 18), (5, 18), (6, 18), (7, 18), (8, 18), (9, 18), (10, 18), (11, 18), (12, 18), (13, 18), (14, 18), (15, 18), (16, 18), (0, 19), (1, 19), (2, 19), (3, 19), (4, 19), (5, 19), (6, 19), (7, 19), (8, 19), (9, 19), (10, 19), (11, 19), (12, 19), (13, 19), (14, 19), (15, 19), (16, 19), (0, 20), (1, 20), (2, 20), (3, 20), (4, 20), (5, 20), (6, 20), (7, 20), (8, 20), (9, 20), (10, 20), (11, 20), (12, 20), (13, 20), (14, 20), (15, 20), (16, 20)] [⟨(some 20), .mv, [.t 7], none⟩,
            ⟨(some 21), .iad 1, [.t 20, .c (.p (.i .i64 0))], none⟩,
            ⟨(some 22), .load false 1, [.t 21], none⟩,
            ⟨(some 23), .conv .i64, [.t 22], none⟩,
            ⟨(some 24), .bin .shl, [.t 23, .c (.p (.i .u64 24))], none⟩,
            ⟨(some 25), .mv, [.t 7], none⟩,
            ⟨(some 26), .iad 1, [.t 25, .c (.p (.i .i64 1))], none⟩,
            ⟨(some 27), .load false 1, [.t 26], none⟩,
            ⟨(some 28), .conv .i64, [.t 27], none⟩,
            ⟨(some 29), .bin .shl, [.t 28, .c (.p (.i .u64 16))], none⟩,
            ⟨(some 30), .bin .or, [.t 24, .t 29], none⟩,
            ⟨(some 31), .mv, [.t 7], none⟩,
            ⟨(some 32), .iad 1, [.t 31, .c (.p (.i .i64 2))], none⟩,
            ⟨(some 33), .load false 1, [.t 32], none⟩,
            ⟨(some 34), .conv .i64, [.t 33], none⟩,
            ⟨(some 35), .bin .shl, [.t 34, .c (.p (.i .u64 8))], none⟩,
            ⟨(some 36), .bin .or, [.t 30, .t 35], none⟩,
            ⟨(some 37), .mv, [.t 7], none⟩,
            ⟨(some 38), .iad 1, [.t 37, .c (.p (.i .i64 3))], none⟩,
            ⟨(some 39), .load false 1, [.t 38], none⟩,
            ⟨(some 40), .conv .i64, [.t 39], none⟩,
            ⟨(some 41), .bin .or, [.t 36, .t 40], none⟩,
            ⟨(some 9), .mv, [.t 41], none⟩])
         (.seq (.seq (.reg false [] [⟨(some 42), .mv, [.t 9], none⟩,
              ⟨(some 43), .bin .eql, [.t 42, .c (.p (.i .i64 0))], none⟩,
              ⟨(some 44), .mv, [.t 43], none⟩,
              ⟨(some 45), .mv, [.t 9], (some (44, false))⟩,
              ⟨(some 46), .bin .gtr, [.t 45, .c (.p (.i .i64 16512))], (some (44, false))⟩,
              ⟨(some 47), .pick, [.t 44, .c (.p (.b true)), .t 46], none⟩])
           (.cond (.t 47)
             (.seq (.reg false [] [⟨(some 48), .mv, [.t 8], none⟩,
                 ⟨(some 4), .mv, [.t 48], none⟩,
                 ⟨(some 5), .mv, [.c .nils], none⟩,
                 ⟨(some 6), .mv, [.c (.p (.i .i64 331))], none⟩])
              (.ret))
             (.skip)))
          (.seq (.reg false [] [⟨(some 49), .mv, [.t 9], none⟩,
              ⟨(some 50), .bin .add, [.c (.p (.i .i64 4)), .t 49], none⟩,
              ⟨(some 10), .mv, [.t 50], none⟩])
           (.seq (.seq (.reg false [] [⟨(some 51), .mv, [.t 7], none⟩,
                ⟨(some 52), .len, [.t 51], none⟩,
                ⟨(some 53), .mv, [.t 10], none⟩,
                ⟨(some 54), .bin .lss, [.t 52, .t 53], none⟩])
             (.cond (.t 54)
               (.exit 0)
               (.skip)))
            (.seq (.reg false [] [⟨(some 56), .mv, [.t 7], none⟩,
                ⟨(some 57), .mv, [.t 10], none⟩,
                ⟨(some 58), .slc 1 false true, [.t 56, .t 57], none⟩,
                ⟨(some 59), .call, [.c (.fn c_wire_decode []), .t 58], none⟩,
                ⟨(some 55), .mv, [.t 59], none⟩,
                ⟨(some 60), .ext 0, [.t 55], none⟩,
                ⟨(some 61), .ext 1, [.t 55], none⟩,
                ⟨(some 11), .box 6, [.c (.agg [(.p (.i .i64 0)), (.p (.s [])), (.p (.i .i64 0)), (.p (.i .i64 0)), (.p (.i .i64 0)), .nils])], none⟩,
                ⟨none, .store 6, [.t 11, .t 60], none⟩,
                ⟨(some 12), .mv, [.t 61], none⟩])
             (.seq (.seq (.reg false [] [⟨(some 62), .mv, [.t 12], none⟩,
                  ⟨(some 63), .not, [.t 62], none⟩])
               (.cond (.t 63)
                 (.seq (.reg false [] [⟨(some 64), .mv, [.t 8], none⟩,
                     ⟨(some 4), .mv, [.t 64], none⟩,
                     ⟨(some 5), .mv, [.c .nils], none⟩,
                     ⟨(some 6), .mv, [.c (.p (.i .i64 331))], none⟩])
                  (.ret))
                 (.skip)))
              (.seq (.reg false [] [⟨(some 65), .mv, [.t 8], none⟩,
                  ⟨(some 66), .load true 6, [.t 11], none⟩,
                  ⟨(some 67), .bslice 6 (.agg [(.p (.i .i64 0)), (.p (.s [])), (.p (.i .i64 0)), (.p (.i .i64 0)), (.p (.i .i64 0)), .nils]) 1 [0], [.t 66], none⟩,
                  ⟨(some 68), .app 6 72, [.t 65, .t 67], none⟩,
                  ⟨(some 8), .mv, [.t 68], none⟩])
               (.reg false [] [⟨(some 69), .mv, [.t 7], none⟩,
                  ⟨(some 70), .mv, [.t 10], none⟩,
                  ⟨(some 71), .slc 1 true false, [.t 69, .t 70], none⟩,
                  ⟨(some 7), .mv, [.t 71], none⟩]))))))))))))
    (.seq (.reg false [] [⟨(some 72), .mv, [.t 8], none⟩,
        ⟨(some 73), .mv, [.t 7], none⟩,
        ⟨(some 74), .app 1 1, [.c .nils, .t 73], none⟩,
        ⟨(some 4), .mv, [.t 72], none⟩,
        ⟨(some 5), .mv, [.t 74], none⟩,
        ⟨(some 6), .mv, [.c (.p (.i .i64 0))], none⟩])
     (.ret)))))

def ref33_Feed (c_ref24_SameBytes c_ref33_Encode c_ref33_decode : Nat) : IC :=
 .seq (.reg false [] [⟨(some 4), .mv, [.c .nils], none⟩,
    ⟨(some 5), .mv, [.c .nils], none⟩,
    ⟨(some 6), .mv, [.c (.p (.i .i64 0))], none⟩])
 (.seq (.reg false [] [⟨(some 14), .bslice 1 (.p (.i .u8 0)) 0 [], [], none⟩,
     ⟨(some 15), .mv, [.t 0], none⟩,
     ⟨(some 16), .app 1 1, [.t 14, .t 15], none⟩,
     ⟨(some 17), .mv, [.t 1], none⟩,
     ⟨(some 18), .app 1 1, [.t 16, .t 17], none⟩,
     ⟨(some 7), .mv, [.t 18], none⟩])
  (.seq (.reg false [] [⟨(some 8), .mv, [.c .nils], none⟩])
   (.seq (.block 0 (
      .loop (
       .seq (.seq (.reg false [] [⟨(some 19), .mv, [.t 7], none⟩,
           ⟨(some 20), .len, [.t 19], none⟩,
           ⟨(some 21), .bin .geq, [.t 20, .c (.p (.i .i64 4))], none⟩])
        (.cond (.t 21)
          (.skip)
          (.exit 0)))
       (.block 1 (
         .seq (.reg true [(0, 5), (1, 5), (2, 5), (3, 5), (4, 5), (0, 6), (1, 6), (2, 6), (3, 6), (4, 6), (0, 7), (1, 7), (2, 7), (3, 7), (4, 7), (0, 8), (1, 8), (2, 8), (3, 8), (4, 8), (0, 9), (1, 9), (2, 9), (3, 9), (4, 9), (0, 11), (1, 11), (2, 11), (3, 11), (4, 11), (5, 11), (6, 11), (7, 11), (8, 11), (9, 11), (10, 11), (0, 12), (1, 12), (2, 12), (3, 12), (4, 12), (5, 12), (6, 12), (7, 12), (8, 12), (9, 12), (10, 12), (0, 13), (1, 13), (2, 13), (3, 13), (4, 13), (5, 13), (6, 13), (7, 13), (8, 13), (9, 13), (10, 13), (0, 14), (1, 14), (2, 14), (3, 14), (4, 14), (5, 14), (6, 14), (7, 14), (8, 14), (9, 14), (10, 14), (0, 15), (1, 15), (2, 15), (3, 15), (4, 15), (5, 15), (6, 15), (7, 15), (8, 15), (9, 15), (10, 15), (0, 17), (1, 17), (2, 17), (3, 17), (4, 17), (5, 17), (6, 17), (7, 17), (8, 17), (9, 17), (10, 17), (11, 17), (12, 17), (13, 17), (14, 17), (15, 17), (16, 17), (0, 18), (1, 18), (2, 18), (3, 18), (4, 18), (5, 18), (6, 18), (7, 18), (8, 18), (9, 18), (10, 18), (11, 18), (12, 18), (13, 18), (14, 18), (15, 18), (16, 18), (0, 19), (1, 19), (2, 19), (3, 19), (4, 19), (5, 19), (6, 19), (7, 19), (8, 19), (9, 19), (10, 19), (11, 19), (12, 19), (13, 19), (14, 19), (15, 19), (16, 19), (0, 20), (1, 20), (2, 20), (3, 20), (4, 20), (5, 20), (6, 20), (7, 20), (8, 20), (9, 20), (10, 20), (11, 20), (12, 20), (13, 20), (14, 20), (15, 20), (16, 20)] [⟨(some 22), .mv, [.t 7], none⟩,
            ⟨(some 23), .iad 1, [.t 22, .c (.p (.i .i64 0))], none⟩,
            ⟨(some 24), .load false 1, [.t 23], none⟩,
            ⟨(some 25), .conv .i64, [.t 24], none⟩,
            ⟨(some 26), .bin .shl, [.t 25, .c (.p (.i .u64 24))], none⟩,
            ⟨(some 27), .mv, [.t 7], none⟩,
            ⟨(some 28), .iad 1, [.t 27, .c (.p (.i .i64 1))], none⟩,
            ⟨(some 29), .load false 1, [.t 28], none⟩,
            ⟨(some 30), .conv .i64, [.t 29], none⟩,
            ⟨(some 31), .bin .shl, [.t 30, .c (.p (.i .u64 16))], none⟩,
            ⟨(some 32), .bin .or, [.t 26, .t 31], none⟩,
            ⟨(some 33), .mv, [.t 7], none⟩,
            ⟨(some 34), .iad 1, [.t 33, .c (.p (.i .i64 2))], none⟩,
            ⟨(some 35), .load false 1, [.t 34], none⟩,
            ⟨(some 36), .conv .i64, [.t 35], none⟩,
            ⟨(some 37), .bin .shl, [.t 36, .c (.p (.i .u64 8))], none⟩,
            ⟨(some 38), .bin .or, [.t 32, .t 37], none⟩,
            ⟨(some 39), .mv, [.t 7], none⟩,
            ⟨(some 40), .iad 1, [.t 39, .c (.p (.i .i64 3))], none⟩,
            ⟨(some 41), .load false 1, [.t 40], none⟩,
            ⟨(some 42), .conv .i64, [.t 41], none⟩,
            ⟨(some 43), .bin .or, [.t 38, .t 42], none⟩,
            ⟨(some 9), .mv, [.t 43], none⟩])
         (.seq (.seq (.reg false [] [⟨(some 44), .mv, [.t 9], none⟩,
              ⟨(some 45), .bin .lss, [.t 44, .c (.p (.i .i64 1))], none⟩,
              ⟨(some 46), .mv, [.t 45], none⟩,
              ⟨(some 47), .mv, [.t 9], (some (46, false))⟩,
              ⟨(some 48), .bin .gtr, [.t 47, .c (.p (.i .i64 16512))], (some (46, false))⟩,
              ⟨(some 49), .pick, [.t 46, .c (.p (.b true)), .t 48], none⟩])
           (.cond (.t 49)
             (.seq (.reg false [] [⟨(some 50), .mv, [.t 8], none⟩,
                 ⟨(some 4), .mv, [.t 50], none⟩,
                 ⟨(some 5), .mv, [.c .nils], none⟩,
                 ⟨(some 6), .mv, [.c (.p (.i .i64 331))], none⟩])
              (.ret))
             (.skip)))
          (.seq (.seq (.reg false [] [⟨(some 51), .mv, [.t 7], none⟩,
               ⟨(some 52), .len, [.t 51], none⟩,
               ⟨(some 53), .mv, [.t 9], none⟩,
               ⟨(some 54), .bin .add, [.c (.p (.i .i64 4)), .t 53], none⟩,
               ⟨(some 55), .bin .lss, [.t 52, .t 54], none⟩])
            (.cond (.t 55)
              (.exit 0)
              (.skip)))
           (.seq (.reg false [] [⟨(some 57), .mv, [.t 7], none⟩,
               ⟨(some 58), .mv, [.t 9], none⟩,
               ⟨(some 59), .bin .add, [.c (.p (.i .i64 4)), .t 58], none⟩,
               ⟨(some 60), .slc 1 true true, [.t 57, .c (.p (.i .i64 4)), .t 59], none⟩,
               ⟨(some 61), .call, [.c (.fn c_ref33_decode []), .t 60], none⟩,
               ⟨(some 56), .mv, [.t 61], none⟩,
               ⟨(some 62), .ext 0, [.t 56], none⟩,
               ⟨(some 63), .ext 1, [.t 56], none⟩,
               ⟨(some 10), .box 6, [.c (.agg [(.p (.i .i64 0)), (.p (.s [])), (.p (.i .i64 0)), (.p (.i .i64 0)), (.p (.i .i64 0)), .nils])], none⟩,
               ⟨none, .store 6, [.t 10, .t 62], none⟩,
               ⟨(some 11), .mv, [.t 63], none⟩])
            (.seq (.reg false [] [⟨(some 65), .load true 6, [.t 10], none⟩,
                ⟨(some 66), .call, [.c (.fn c_ref33_Encode []), .t 65], none⟩,
                ⟨(some 64), .mv, [.t 66], none⟩,
                ⟨(some 67), .ext 0, [.t 64], none⟩,
                ⟨(some 68), .ext 1, [.t 64], none⟩,
                ⟨(some 12), .mv, [.t 67], none⟩,
                ⟨(some 13), .mv, [.t 68], none⟩])
             (.seq (.seq (.reg false [] [⟨(some 69), .mv, [.t 11], none⟩,
                  ⟨(some 70), .not, [.t 69], none⟩,
                  ⟨(some 71), .mv, [.t 70], none⟩,
                  ⟨(some 72), .mv, [.t 13], (some (71, false))⟩,
                  ⟨(some 73), .bin .neq, [.t 72, .c (.p (.i .i64 0))], (some (71, false))⟩,
                  ⟨(some 74), .pick, [.t 71, .c (.p (.b true)), .t 73], none⟩,
                  ⟨(some 75), .mv, [.t 74], none⟩,
                  ⟨(some 76), .mv, [.t 12], (some (75, false))⟩,
                  ⟨(some 77), .mv, [.t 7], (some (75, false))⟩,
                  ⟨(some 78), .mv, [.t 9], (some (75, false))⟩,
                  ⟨(some 79), .bin .add, [.c (.p (.i .i64 4)), .t 78], (some (75, false))⟩,
                  ⟨(some 80), .slc 1 false true, [.t 77, .t 79], (some (75, false))⟩,
                  ⟨(some 81), .call, [.c (.fn c_ref24_SameBytes []), .t 76, .t 80], (some (75, false))⟩,
                  ⟨(some 82), .not, [.t 81], (some (75, false))⟩,
                  ⟨(some 83), .pick, [.t 75, .c (.p (.b true)), .t 82], none⟩])
               (.cond (.t 83)
                 (.seq (.reg false [] [⟨(some 84), .mv, [.t 8], none⟩,
                     ⟨(some 4), .mv, [.t 84], none⟩,
                     ⟨(some 5), .mv, [.c .nils], none⟩,
                     ⟨(some 6), .mv, [.c (.p (.i .i64 331))], none⟩])
                  (.ret))
                 (.skip)))
              (.reg true [(0, 1), (0, 2), (0, 4), (1, 4), (2, 4), (3, 4), (0, 5), (1, 5), (2, 5), (3, 5), (4, 5), (0, 6), (1, 6), (2, 6), (3, 6), (4, 6), (0, 7), (1, 7), (2, 7), (3, 7), (4, 8), (5, 8), (6, 8), (7, 8)] [⟨(some 85), .mv, [.t 8], none⟩,
                 ⟨(some 86), .load true 6, [.t 10], none⟩,
                 ⟨(some 87), .bslice 6 (.agg [(.p (.i .i64 0)), (.p (.s [])), (.p (.i .i64 0)), (.p (.i .i64 0)), (.p (.i .i64 0)), .nils]) 1 [0], [.t 86], none⟩,
                 ⟨(some 88), .app 6 72, [.t 85, .t 87], none⟩,
                 ⟨(some 89), .mv, [.t 7], none⟩,
                 ⟨(some 90), .mv, [.t 9], none⟩,
                 ⟨(some 91), .bin .add, [.c (.p (.i .i64 4)), .t 90], none⟩,
                 ⟨(some 92), .slc 1 true false, [.t 89, .t 91], none⟩,
                 ⟨(some 8), .mv, [.t 88], none⟩,
                 ⟨(some 7), .mv, [.t 92], none⟩])))))))))))
    (.seq (.reg false [] [⟨(some 93), .mv, [.t 8], none⟩,
        ⟨(some 94), .mv, [.t 7], none⟩,
        ⟨(some 4), .mv, [.t 93], none⟩,
        ⟨(some 5), .mv, [.t 94], none⟩,
        ⟨(some 6), .mv, [.c (.p (.i .i64 0))], none⟩])
     (.ret)))))

def ref33_SameList (c_ref33_Same : Nat) : IC :=
 .seq (.reg false [] [⟨(some 4), .mv, [.c (.p (.b false))], none⟩])
 (.seq (.seq (.reg false [] [⟨(some 6), .mv, [.t 0], none⟩,
      ⟨(some 7), .len, [.t 6], none⟩,
      ⟨(some 8), .mv, [.t 1], none⟩,
      ⟨(some 9), .len, [.t 8], none⟩,
      ⟨(some 10), .bin .neq, [.t 7, .t 9], none⟩])
   (.cond (.t 10)
     (.seq (.reg false [] [⟨(some 4), .mv, [.c (.p (.b false))], none⟩])
      (.ret))
     (.skip)))
  (.seq (.seq (.reg false [] [⟨(some 11), .mv, [.t 0], none⟩,
       ⟨(some 12), .len, [.t 11], none⟩,
       ⟨(some 13), .mv, [.c (.p (.i .i64 0))], none⟩])
    (.block 0 (
      .loop (
       .seq (.reg false [] [⟨(some 14), .bin .lss, [.t 13, .t 12], none⟩])
       (.seq (.cond (.t 14)
          (.skip)
          (.exit 0))
        (.seq (.block 1 (
           .seq (.reg false [] [⟨(some 15), .mv, [.t 13], none⟩,
              ⟨(some 5), .mv, [.t 15], none⟩])
           (.seq (.reg true [(0, 1), (0, 4), (1, 4), (2, 4), (3, 4), (0, 5), (1, 5), (2, 5), (3, 5), (4, 5), (0, 6), (1, 6), (2, 6), (3, 6), (0, 7), (1, 7), (2, 7), (3, 7)] [⟨(some 16), .mv, [.t 0], none⟩,
               ⟨(some 17), .mv, [.t 5], none⟩,
               ⟨(some 18), .iad 6, [.t 16, .t 17], none⟩,
               ⟨(some 19), .load true 6, [.t 18], none⟩,
               ⟨(some 20), .mv, [.t 1], none⟩,
               ⟨(some 21), .mv, [.t 5], none⟩,
               ⟨(some 22), .iad 6, [.t 20, .t 21], none⟩,
               ⟨(some 23), .load true 6, [.t 22], none⟩,
               ⟨(some 24), .call, [.c (.fn c_ref33_Same []), .t 19, .t 23], none⟩,
               ⟨(some 25), .not, [.t 24], none⟩])
            (.cond (.t 25)
              (.seq (.reg false [] [⟨(some 4), .mv, [.c (.p (.b false))], none⟩])
               (.ret))
              (.skip)))))
         (.reg false [] [⟨(some 26), .bin .add, [.t 13, .c (.p (.i .i64 1))], none⟩,
            ⟨(some 13), .mv, [.t 26], none⟩])))))))
   (.seq (.reg false [] [⟨(some 4), .mv, [.c (.p (.b true))], none⟩])
    (.ret))))

def ref33_Same (c_ref24_SameBytes : Nat) : IC :=
 .seq (.reg false [] [⟨(some 2), .box 6, [.t 0], none⟩,
    ⟨(some 3), .box 6, [.t 1], none⟩,
    ⟨(some 4), .mv, [.c (.p (.b false))], none⟩])
 (.seq (.reg false [] [⟨(some 5), .fad 0, [.t 2], none⟩,
     ⟨(some 6), .load false 1, [.t 5], none⟩,
     ⟨(some 7), .fad 0, [.t 3], none⟩,
     ⟨(some 8), .load false 1, [.t 7], none⟩,
     ⟨(some 9), .bin .eql, [.t 6, .t 8], none⟩,
     ⟨(some 10), .mv, [.t 9], none⟩,
     ⟨(some 11), .fad 1, [.t 2], (some (10, true))⟩,
     ⟨(some 12), .load false 1, [.t 11], (some (10, true))⟩,
     ⟨(some 13), .fad 1, [.t 3], (some (10, true))⟩,
     ⟨(some 14), .load false 1, [.t 13], (some (10, true))⟩,
     ⟨(some 15), .beq true false, [.t 12, .t 14], (some (10, true))⟩,
     ⟨(some 16), .pick, [.t 10, .t 15, .c (.p (.b false))], none⟩,
     ⟨(some 17), .mv, [.t 16], none⟩,
     ⟨(some 18), .fad 2, [.t 2], (some (17, true))⟩,
     ⟨(some 19), .load false 1, [.t 18], (some (17, true))⟩,
     ⟨(some 20), .fad 2, [.t 3], (some (17, true))⟩,
     ⟨(some 21), .load false 1, [.t 20], (some (17, true))⟩,
     ⟨(some 22), .bin .eql, [.t 19, .t 21], (some (17, true))⟩,
     ⟨(some 23), .pick, [.t 17, .t 22, .c (.p (.b false))], none⟩,
     ⟨(some 24), .mv, [.t 23], none⟩,
     ⟨(some 25), .fad 3, [.t 2], (some (24, true))⟩,
     ⟨(some 26), .load false 1, [.t 25], (some (24, true))⟩,
     ⟨(some 27), .fad 3, [.t 3], (some (24, true))⟩,
     ⟨(some 28), .load false 1, [.t 27], (some (24, true))⟩,
     ⟨(some 29), .bin .eql, [.t 26, .t 28], (some (24, true))⟩,
     ⟨(some 30), .pick, [.t 24, .t 29, .c (.p (.b false))], none⟩,
     ⟨(some 31), .mv, [.t 30], none⟩,
     ⟨(some 32), .fad 4, [.t 2], (some (31, true))⟩,
     ⟨(some 33), .load false 1, [.t 32], (some (31, true))⟩,
     ⟨(some 34), .fad 4, [.t 3], (some (31, true))⟩,
     ⟨(some 35), .load false 1, [.t 34], (some (31, true))⟩,
     ⟨(some 36), .bin .eql, [.t 33, .t 35], (some (31, true))⟩,
     ⟨(some 37), .pick, [.t 31, .t 36, .c (.p (.b false))], none⟩,
     ⟨(some 38), .mv, [.t 37], none⟩,
     ⟨(some 39), .fad 5, [.t 2], (some (38, true))⟩,
     ⟨(some 40), .load false 1, [.t 39], (some (38, true))⟩,
     ⟨(some 41), .fad 5, [.t 3], (some (38, true))⟩,
     ⟨(some 42), .load false 1, [.t 41], (some (38, true))⟩,
     ⟨(some 43), .call, [.c (.fn c_ref24_SameBytes []), .t 40, .t 42], (some (38, true))⟩,
     ⟨(some 44), .pick, [.t 38, .t 43, .c (.p (.b false))], none⟩,
     ⟨(some 4), .mv, [.t 44], none⟩])
  (.ret))

def mill_Case_Host (c_mill_Case_word : Nat) : IC :=
 .seq (.reg false [] [⟨(some 2), .mv, [.c (.p (.s []))], none⟩])
 (.seq (.reg false [] [⟨(some 3), .mv, [.t 0], none⟩,
     ⟨(some 4), .bslice 1 (.p (.s [])) 4 [0, 1, 2, 3], [.c (.p (.s [97])), .c (.p (.s [98])), .c (.p (.s [99, 57])), .c (.p (.s [104, 111, 115, 116, 110, 97, 109, 101, 49, 54, 98, 121, 116, 101, 115, 48]))], none⟩,
     ⟨(some 5), .call, [.c (.fn c_mill_Case_word []), .t 3, .t 4], none⟩,
     ⟨(some 2), .mv, [.t 5], none⟩])
  (.ret))

def mill_Case_Text (c_mill_Case_Int : Nat) : IC :=
 .seq (.reg false [] [⟨(some 2), .mv, [.c (.p (.s []))], none⟩])
 (.seq (.reg false [] [⟨(some 4), .bslice 1 (.p (.s [])) 10 [0, 1, 2, 3, 4, 5, 6, 7, 8, 9], [.c (.p (.s [])), .c (.p (.s [97])), .c (.p (.s [97, 110, 110])), .c (.p (.s [47, 97, 47, 98])), .c (.p (.s [110, 111])), .c (.p (.s [121, 101, 115])), .c (.p (.s [97, 32, 98])), .c (.p (.s [120, 54, 102])), .c (.p (.s [0])), .c (.p (.s [109, 107, 100, 105, 114]))], none⟩,
     ⟨(some 3), .mv, [.t 4], none⟩])
  (.seq (.reg false [] [⟨(some 5), .mv, [.t 3], none⟩,
      ⟨(some 6), .mv, [.t 0], none⟩,
      ⟨(some 7), .mv, [.t 3], none⟩,
      ⟨(some 8), .len, [.t 7], none⟩,
      ⟨(some 9), .call, [.c (.fn c_mill_Case_Int []), .t 6, .t 8], none⟩,
      ⟨(some 10), .iad 1, [.t 5, .t 9], none⟩,
      ⟨(some 11), .load false 1, [.t 10], none⟩,
      ⟨(some 2), .mv, [.t 11], none⟩])
   (.ret)))

def wire_fields : IC :=
 .seq (.reg false [] [⟨(some 2), .mv, [.c .nils], none⟩,
    ⟨(some 3), .mv, [.c (.p (.b false))], none⟩])
 (.seq (.reg false [] [⟨(some 7), .mkmap, [], none⟩,
     ⟨(some 8), .bslice 1 (.p (.i .i64 0)) 3 [0, 1, 2], [.c (.p (.i .i64 1)), .c (.p (.i .i64 2)), .c (.p (.i .i64 3))], none⟩,
     ⟨none, .mins .i64, [.t 7, .c (.p (.i .i64 1)), .t 8], none⟩,
     ⟨(some 9), .bslice 1 (.p (.i .i64 0)) 1 [0], [.c (.p (.i .i64 3))], none⟩,
     ⟨none, .mins .i64, [.t 7, .c (.p (.i .i64 2)), .t 9], none⟩,
     ⟨(some 10), .bslice 1 (.p (.i .i64 0)) 2 [0, 1], [.c (.p (.i .i64 3)), .c (.p (.i .i64 5))], none⟩,
     ⟨none, .mins .i64, [.t 7, .c (.p (.i .i64 3)), .t 10], none⟩,
     ⟨(some 11), .bslice 1 (.p (.i .i64 0)) 2 [0, 1], [.c (.p (.i .i64 3)), .c (.p (.i .i64 4))], none⟩,
     ⟨none, .mins .i64, [.t 7, .c (.p (.i .i64 4)), .t 11], none⟩,
     ⟨(some 12), .bslice 1 (.p (.i .i64 0)) 1 [0], [.c (.p (.i .i64 3))], none⟩,
     ⟨none, .mins .i64, [.t 7, .c (.p (.i .i64 5)), .t 12], none⟩,
     ⟨none, .mins .i64, [.t 7, .c (.p (.i .i64 6)), .c .nils], none⟩,
     ⟨none, .mins .i64, [.t 7, .c (.p (.i .i64 7)), .c .nils], none⟩,
     ⟨(some 13), .mv, [.t 7], none⟩,
     ⟨(some 4), .mv, [.t 13], none⟩])
  (.seq (.reg false [] [⟨(some 15), .mv, [.t 4], none⟩,
      ⟨(some 16), .mv, [.t 0], none⟩,
      ⟨(some 17), .mlook .i64 true .nils, [.t 15, .t 16], none⟩,
      ⟨(some 14), .mv, [.t 17], none⟩,
      ⟨(some 18), .ext 0, [.t 14], none⟩,
      ⟨(some 19), .ext 1, [.t 14], none⟩,
      ⟨(some 5), .mv, [.t 18], none⟩,
      ⟨(some 6), .mv, [.t 19], none⟩])
   (.seq (.reg false [] [⟨(some 20), .mv, [.t 5], none⟩,
       ⟨(some 21), .mv, [.t 6], none⟩,
       ⟨(some 2), .mv, [.t 20], none⟩,
       ⟨(some 3), .mv, [.t 21], none⟩])
    (.ret))))

def wire_appendNumber : IC :=
 .seq (.reg false [] [⟨(some 4), .mv, [.c .nils], none⟩])
 (.seq (.block 0 (
    .loop (
     .seq (.seq (.reg false [] [⟨(some 5), .mv, [.t 1], none⟩,
         ⟨(some 6), .bin .gtr, [.t 5, .c (.p (.i .i64 127))], none⟩])
      (.cond (.t 6)
        (.skip)
        (.exit 0)))
     (.seq (.block 1 (
        .reg false [] [⟨(some 9), .mv, [.t 0], none⟩,
          ⟨(some 10), .mv, [.t 1], none⟩,
          ⟨(some 11), .bin .and, [.t 10, .c (.p (.i .i64 127))], none⟩,
          ⟨(some 12), .bin .or, [.t 11, .c (.p (.i .i64 128))], none⟩,
          ⟨(some 13), .conv .u8, [.t 12], none⟩,
          ⟨(some 14), .bslice 1 (.p (.i .u8 0)) 1 [0], [.t 13], none⟩,
          ⟨(some 15), .app 1 1, [.t 9, .t 14], none⟩,
          ⟨(some 0), .mv, [.t 15], none⟩]))
      (.reg false [] [⟨(some 7), .mv, [.t 1], none⟩,
         ⟨(some 8), .bin .shr, [.t 7, .c (.p (.i .u64 7))], none⟩,
         ⟨(some 1), .mv, [.t 8], none⟩])))))
  (.seq (.reg false [] [⟨(some 16), .mv, [.t 0], none⟩,
      ⟨(some 17), .mv, [.t 1], none⟩,
      ⟨(some 18), .conv .u8, [.t 17], none⟩,
      ⟨(some 19), .bslice 1 (.p (.i .u8 0)) 1 [0], [.t 18], none⟩,
      ⟨(some 20), .app 1 1, [.t 16, .t 19], none⟩,
      ⟨(some 4), .mv, [.t 20], none⟩])
   (.ret)))

def ref33_uses : IC :=
 .seq (.reg false [] [⟨(some 2), .mv, [.c (.p (.b false))], none⟩,
    ⟨(some 3), .mv, [.c (.p (.b false))], none⟩,
    ⟨(some 4), .mv, [.c (.p (.b false))], none⟩,
    ⟨(some 5), .mv, [.c (.p (.b false))], none⟩])
 (.seq (.seq (.reg false [] [⟨(some 6), .mv, [.t 0], none⟩])
   (.block 0 (
     .seq (.reg false [] [⟨(some 8), .bin .eql, [.t 6, .c (.p (.i .i64 1))], none⟩,
        ⟨(some 7), .mv, [.t 8], none⟩])
     (.cond (.t 7)
       (.seq (.reg false [] [⟨(some 2), .mv, [.c (.p (.b true))], none⟩,
           ⟨(some 3), .mv, [.c (.p (.b true))], none⟩,
           ⟨(some 4), .mv, [.c (.p (.b false))], none⟩,
           ⟨(some 5), .mv, [.c (.p (.b false))], none⟩])
        (.ret))
       (.seq (.seq (.reg false [] [⟨(some 10), .bin .eql, [.t 6, .c (.p (.i .i64 2))], none⟩,
            ⟨(some 9), .mv, [.t 10], none⟩])
         (.cond (.t 9)
           (.skip)
           (.reg false [] [⟨(some 11), .bin .eql, [.t 6, .c (.p (.i .i64 5))], none⟩,
              ⟨(some 9), .mv, [.t 11], none⟩])))
        (.cond (.t 9)
          (.seq (.reg false [] [⟨(some 2), .mv, [.c (.p (.b false))], none⟩,
              ⟨(some 3), .mv, [.c (.p (.b true))], none⟩,
              ⟨(some 4), .mv, [.c (.p (.b false))], none⟩,
              ⟨(some 5), .mv, [.c (.p (.b false))], none⟩])
           (.ret))
          (.seq (.reg false [] [⟨(some 13), .bin .eql, [.t 6, .c (.p (.i .i64 3))], none⟩,
              ⟨(some 12), .mv, [.t 13], none⟩])
           (.cond (.t 12)
             (.seq (.reg false [] [⟨(some 2), .mv, [.c (.p (.b false))], none⟩,
                 ⟨(some 3), .mv, [.c (.p (.b true))], none⟩,
                 ⟨(some 4), .mv, [.c (.p (.b false))], none⟩,
                 ⟨(some 5), .mv, [.c (.p (.b true))], none⟩])
              (.ret))
             (.seq (.reg false [] [⟨(some 15), .bin .eql, [.t 6, .c (.p (.i .i64 4))], none⟩,
                 ⟨(some 14), .mv, [.t 15], none⟩])
              (.cond (.t 14)
                (.seq (.reg false [] [⟨(some 2), .mv, [.c (.p (.b false))], none⟩,
                    ⟨(some 3), .mv, [.c (.p (.b true))], none⟩,
                    ⟨(some 4), .mv, [.c (.p (.b true))], none⟩,
                    ⟨(some 5), .mv, [.c (.p (.b false))], none⟩])
                 (.ret))
                (.skip)))))))))))
  (.seq (.reg false [] [⟨(some 2), .mv, [.c (.p (.b false))], none⟩,
      ⟨(some 3), .mv, [.c (.p (.b false))], none⟩,
      ⟨(some 4), .mv, [.c (.p (.b false))], none⟩,
      ⟨(some 5), .mv, [.c (.p (.b false))], none⟩])
   (.ret)))

def slices_Contains_lint_int (c_slices_Index_lint_int : Nat) : IC :=
 .seq (.reg false [] [⟨(some 4), .mv, [.c (.p (.b false))], none⟩])
 (.seq (.reg false [] [⟨(some 5), .mv, [.t 0], none⟩,
     ⟨(some 6), .mv, [.t 1], none⟩,
     ⟨(some 7), .call, [.c (.fn c_slices_Index_lint_int []), .t 5, .t 6], none⟩,
     ⟨(some 8), .bin .geq, [.t 7, .c (.p (.i .i64 0))], none⟩,
     ⟨(some 4), .mv, [.t 8], none⟩])
  (.ret))

def wire_validField (c_logfile_HostName c_wire_within : Nat) : IC :=
 .seq (.reg false [] [⟨(some 2), .box 6, [.t 0], none⟩,
    ⟨(some 4), .mv, [.c (.p (.b false))], none⟩])
 (.seq (.seq (.reg false [] [⟨(some 6), .mv, [.t 1], none⟩])
   (.block 0 (
     .seq (.reg false [] [⟨(some 8), .bin .eql, [.t 6, .c (.p (.i .i64 1))], none⟩,
        ⟨(some 7), .mv, [.t 8], none⟩])
     (.cond (.t 7)
       (.seq (.reg false [] [⟨(some 9), .fad 1, [.t 2], none⟩,
           ⟨(some 10), .load false 1, [.t 9], none⟩,
           ⟨(some 11), .call, [.c (.fn c_logfile_HostName []), .t 10], none⟩,
           ⟨(some 4), .mv, [.t 11], none⟩])
        (.ret))
       (.seq (.reg false [] [⟨(some 13), .bin .eql, [.t 6, .c (.p (.i .i64 2))], none⟩,
           ⟨(some 12), .mv, [.t 13], none⟩])
        (.cond (.t 12)
          (.seq (.reg false [] [⟨(some 14), .fad 2, [.t 2], none⟩,
              ⟨(some 15), .load false 1, [.t 14], none⟩,
              ⟨(some 16), .call, [.c (.fn c_wire_within []), .t 15, .c (.p (.i .i64 1)), .c (.p (.i .i64 1099511627776))], none⟩,
              ⟨(some 4), .mv, [.t 16], none⟩])
           (.ret))
          (.seq (.reg false [] [⟨(some 18), .bin .eql, [.t 6, .c (.p (.i .i64 3))], none⟩,
              ⟨(some 17), .mv, [.t 18], none⟩])
           (.cond (.t 17)
             (.seq (.reg false [] [⟨(some 5), .mv, [.c (.p (.i .i64 1))], none⟩])
              (.seq (.seq (.reg false [] [⟨(some 19), .fad 0, [.t 2], none⟩,
                   ⟨(some 20), .load false 1, [.t 19], none⟩,
                   ⟨(some 21), .bin .eql, [.t 20, .c (.p (.i .i64 2))], none⟩,
                   ⟨(some 22), .mv, [.t 21], none⟩,
                   ⟨(some 23), .fad 0, [.t 2], (some (22, false))⟩,
                   ⟨(some 24), .load false 1, [.t 23], (some (22, false))⟩,
                   ⟨(some 25), .bin .eql, [.t 24, .c (.p (.i .i64 5))], (some (22, false))⟩,
                   ⟨(some 26), .pick, [.t 22, .c (.p (.b true)), .t 25], none⟩])
                (.cond (.t 26)
                  (.reg false [] [⟨(some 5), .mv, [.c (.p (.i .i64 0))], none⟩])
                  (.skip)))
               (.seq (.reg false [] [⟨(some 27), .fad 3, [.t 2], none⟩,
                   ⟨(some 28), .load false 1, [.t 27], none⟩,
                   ⟨(some 29), .mv, [.t 5], none⟩,
                   ⟨(some 30), .call, [.c (.fn c_wire_within []), .t 28, .t 29, .c (.p (.i .i64 1099511627776))], none⟩,
                   ⟨(some 4), .mv, [.t 30], none⟩])
                (.ret))))
             (.seq (.reg false [] [⟨(some 32), .bin .eql, [.t 6, .c (.p (.i .i64 4))], none⟩,
                 ⟨(some 31), .mv, [.t 32], none⟩])
              (.cond (.t 31)
                (.seq (.reg false [] [⟨(some 33), .fad 4, [.t 2], none⟩,
                    ⟨(some 34), .load false 1, [.t 33], none⟩,
                    ⟨(some 35), .fad 3, [.t 2], none⟩,
                    ⟨(some 36), .load false 1, [.t 35], none⟩,
                    ⟨(some 37), .call, [.c (.fn c_wire_within []), .t 34, .t 36, .c (.p (.i .i64 1099511627776))], none⟩,
                    ⟨(some 4), .mv, [.t 37], none⟩])
                 (.ret))
                (.skip)))))))))))
  (.seq (.reg false [] [⟨(some 38), .fad 5, [.t 2], none⟩,
      ⟨(some 39), .load false 1, [.t 38], none⟩,
      ⟨(some 40), .len, [.t 39], none⟩,
      ⟨(some 41), .call, [.c (.fn c_wire_within []), .t 40, .c (.p (.i .i64 1)), .c (.p (.i .i64 16320))], none⟩,
      ⟨(some 4), .mv, [.t 41], none⟩])
   (.ret)))

def wire_zeroField : IC :=
 .seq (.reg false [] [⟨(some 2), .box 6, [.t 0], none⟩,
    ⟨(some 4), .mv, [.c (.p (.b false))], none⟩])
 (.seq (.seq (.reg false [] [⟨(some 5), .mv, [.t 1], none⟩])
   (.block 0 (
     .seq (.reg false [] [⟨(some 7), .bin .eql, [.t 5, .c (.p (.i .i64 1))], none⟩,
        ⟨(some 6), .mv, [.t 7], none⟩])
     (.cond (.t 6)
       (.seq (.reg false [] [⟨(some 8), .fad 1, [.t 2], none⟩,
           ⟨(some 9), .load false 1, [.t 8], none⟩,
           ⟨(some 10), .beq true false, [.t 9, .c (.p (.s []))], none⟩,
           ⟨(some 4), .mv, [.t 10], none⟩])
        (.ret))
       (.seq (.reg false [] [⟨(some 12), .bin .eql, [.t 5, .c (.p (.i .i64 2))], none⟩,
           ⟨(some 11), .mv, [.t 12], none⟩])
        (.cond (.t 11)
          (.seq (.reg false [] [⟨(some 13), .fad 2, [.t 2], none⟩,
              ⟨(some 14), .load false 1, [.t 13], none⟩,
              ⟨(some 15), .bin .eql, [.t 14, .c (.p (.i .i64 0))], none⟩,
              ⟨(some 4), .mv, [.t 15], none⟩])
           (.ret))
          (.seq (.reg false [] [⟨(some 17), .bin .eql, [.t 5, .c (.p (.i .i64 3))], none⟩,
              ⟨(some 16), .mv, [.t 17], none⟩])
           (.cond (.t 16)
             (.seq (.reg false [] [⟨(some 18), .fad 3, [.t 2], none⟩,
                 ⟨(some 19), .load false 1, [.t 18], none⟩,
                 ⟨(some 20), .bin .eql, [.t 19, .c (.p (.i .i64 0))], none⟩,
                 ⟨(some 4), .mv, [.t 20], none⟩])
              (.ret))
             (.seq (.reg false [] [⟨(some 22), .bin .eql, [.t 5, .c (.p (.i .i64 4))], none⟩,
                 ⟨(some 21), .mv, [.t 22], none⟩])
              (.cond (.t 21)
                (.seq (.reg false [] [⟨(some 23), .fad 4, [.t 2], none⟩,
                    ⟨(some 24), .load false 1, [.t 23], none⟩,
                    ⟨(some 25), .bin .eql, [.t 24, .c (.p (.i .i64 0))], none⟩,
                    ⟨(some 4), .mv, [.t 25], none⟩])
                 (.ret))
                (.skip)))))))))))
  (.seq (.reg false [] [⟨(some 26), .fad 5, [.t 2], none⟩,
      ⟨(some 27), .load false 1, [.t 26], none⟩,
      ⟨(some 28), .len, [.t 27], none⟩,
      ⟨(some 29), .bin .eql, [.t 28, .c (.p (.i .i64 0))], none⟩,
      ⟨(some 4), .mv, [.t 29], none⟩])
   (.ret)))

def ref25_HostName : IC :=
 .seq (.reg false [] [⟨(some 2), .mv, [.c (.p (.b false))], none⟩])
 (.seq (.seq (.reg false [] [⟨(some 3), .mv, [.c (.p (.i .i64 0))], none⟩])
   (.block 0 (
     .loop (
      .seq (.seq (.reg false [] [⟨(some 5), .mv, [.t 3], none⟩,
          ⟨(some 6), .mv, [.t 0], none⟩,
          ⟨(some 7), .lens, [.t 6], none⟩,
          ⟨(some 8), .bin .lss, [.t 5, .t 7], none⟩])
       (.cond (.t 8)
         (.skip)
         (.exit 0)))
      (.seq (.block 1 (
         .seq (.reg false [] [⟨(some 11), .mv, [.t 0], none⟩,
            ⟨(some 12), .mv, [.t 3], none⟩,
            ⟨(some 13), .idx, [.t 11, .t 12], none⟩,
            ⟨(some 4), .mv, [.t 13], none⟩])
         (.seq (.reg false [] [⟨(some 14), .mv, [.t 4], none⟩,
             ⟨(some 15), .bin .lss, [.t 14, .c (.p (.i .u8 97))], none⟩,
             ⟨(some 16), .mv, [.t 15], none⟩,
             ⟨(some 17), .mv, [.t 4], (some (16, false))⟩,
             ⟨(some 18), .bin .gtr, [.t 17, .c (.p (.i .u8 122))], (some (16, false))⟩,
             ⟨(some 19), .pick, [.t 16, .c (.p (.b true)), .t 18], none⟩,
             ⟨(some 20), .mv, [.t 19], none⟩,
             ⟨(some 21), .mv, [.t 4], (some (20, true))⟩,
             ⟨(some 22), .bin .lss, [.t 21, .c (.p (.i .u8 48))], (some (20, true))⟩,
             ⟨(some 23), .mv, [.t 22], (some (20, true))⟩,
             ⟨(some 24), .mv, [.t 4], (some (23, false))⟩,
             ⟨(some 25), .bin .gtr, [.t 24, .c (.p (.i .u8 57))], (some (23, false))⟩,
             ⟨(some 26), .pick, [.t 23, .c (.p (.b true)), .t 25], (some (20, true))⟩,
             ⟨(some 27), .pick, [.t 20, .t 26, .c (.p (.b false))], none⟩])
          (.cond (.t 27)
            (.seq (.reg false [] [⟨(some 2), .mv, [.c (.p (.b false))], none⟩])
             (.ret))
            (.skip)))))
       (.reg false [] [⟨(some 9), .mv, [.t 3], none⟩,
          ⟨(some 10), .bin .add, [.t 9, .c (.p (.i .i64 1))], none⟩,
          ⟨(some 3), .mv, [.t 10], none⟩]))))))
  (.seq (.reg false [] [⟨(some 28), .mv, [.t 0], none⟩,
      ⟨(some 29), .lens, [.t 28], none⟩,
      ⟨(some 30), .bin .geq, [.t 29, .c (.p (.i .i64 1))], none⟩,
      ⟨(some 31), .mv, [.t 30], none⟩,
      ⟨(some 32), .mv, [.t 0], (some (31, true))⟩,
      ⟨(some 33), .lens, [.t 32], (some (31, true))⟩,
      ⟨(some 34), .bin .leq, [.t 33, .c (.p (.i .i64 16))], (some (31, true))⟩,
      ⟨(some 35), .pick, [.t 31, .t 34, .c (.p (.b false))], none⟩,
      ⟨(some 2), .mv, [.t 35], none⟩])
   (.ret)))

def wire_decode (c_bytes_Equal c_wire_Encode c_wire_fields c_wire_number : Nat) : IC :=
 .seq (.reg false [] [⟨(some 2), .box 6, [.c (.agg [(.p (.i .i64 0)), (.p (.s [])), (.p (.i .i64 0)), (.p (.i .i64 0)), (.p (.i .i64 0)), .nils])], none⟩,
    ⟨(some 3), .mv, [.c (.p (.b false))], none⟩])
 (.seq (.reg false [] [⟨(some 13), .mv, [.t 0], none⟩,
     ⟨(some 14), .iad 1, [.t 13, .c (.p (.i .i64 4))], none⟩,
     ⟨(some 15), .load false 1, [.t 14], none⟩,
     ⟨(some 16), .conv .i64, [.t 15], none⟩,
     ⟨(some 17), .build [(.p (.i .i64 0)), (.p (.s [])), (.p (.i .i64 0)), (.p (.i .i64 0)), (.p (.i .i64 0)), .nils] [(0, 1)], [.t 16], none⟩,
     ⟨(some 4), .box 6, [.c (.agg [(.p (.i .i64 0)), (.p (.s [])), (.p (.i .i64 0)), (.p (.i .i64 0)), (.p (.i .i64 0)), .nils])], none⟩,
     ⟨none, .store 6, [.t 4, .t 17], none⟩])
  (.seq (.reg false [] [⟨(some 18), .mv, [.t 0], none⟩,
      ⟨(some 19), .slc 1 true false, [.t 18, .c (.p (.i .i64 5))], none⟩,
      ⟨(some 5), .mv, [.t 19], none⟩])
   (.seq (.reg false [] [⟨(some 21), .fad 0, [.t 4], none⟩,
       ⟨(some 22), .load false 1, [.t 21], none⟩,
       ⟨(some 23), .call, [.c (.fn c_wire_fields []), .t 22], none⟩,
       ⟨(some 20), .mv, [.t 23], none⟩,
       ⟨(some 24), .ext 0, [.t 20], none⟩,
       ⟨(some 25), .ext 1, [.t 20], none⟩,
       ⟨(some 6), .mv, [.t 24], none⟩,
       ⟨(some 7), .mv, [.t 25], none⟩])
    (.seq (.seq (.reg false [] [⟨(some 26), .mv, [.t 6], none⟩,
         ⟨(some 27), .len, [.t 26], none⟩,
         ⟨(some 28), .mv, [.c (.p (.i .i64 0))], none⟩])
      (.block 0 (
        .loop (
         .seq (.reg false [] [⟨(some 29), .bin .lss, [.t 28, .t 27], none⟩])
         (.seq (.cond (.t 29)
            (.skip)
            (.exit 0))
          (.seq (.block 1 (
             .seq (.reg false [] [⟨(some 30), .iad 1, [.t 26, .t 28], none⟩,
                ⟨(some 31), .load false 1, [.t 30], none⟩,
                ⟨(some 9), .mv, [.t 31], none⟩])
             (.seq (.seq (.reg false [] [⟨(some 32), .mv, [.t 9], none⟩])
               (.block 2 (
                 .seq (.reg false [] [⟨(some 34), .bin .eql, [.t 32, .c (.p (.i .i64 1))], none⟩,
                    ⟨(some 33), .mv, [.t 34], none⟩])
                 (.cond (.t 33)
                   (.seq (.seq (.reg false [] [⟨(some 35), .mv, [.t 5], none⟩,
                        ⟨(some 36), .len, [.t 35], none⟩,
                        ⟨(some 37), .bin .eql, [.t 36, .c (.p (.i .i64 0))], none⟩,
                        ⟨(some 38), .mv, [.t 37], none⟩,
                        ⟨(some 39), .mv, [.t 5], (some (38, false))⟩,
                        ⟨(some 40), .iad 1, [.t 39, .c (.p (.i .i64 0))], (some (38, false))⟩,
                        ⟨(some 41), .load false 1, [.t 40], (some (38, false))⟩,
                        ⟨(some 42), .conv .i64, [.t 41], (some (38, false))⟩,
                        ⟨(some 43), .mv, [.t 5], (some (38, false))⟩,
                        ⟨(some 44), .len, [.t 43], (some (38, false))⟩,
                        ⟨(some 45), .bin .geq, [.t 42, .t 44], (some (38, false))⟩,
                        ⟨(some 46), .pick, [.t 38, .c (.p (.b true)), .t 45], none⟩])
                     (.cond (.t 46)
                       (.seq (.reg false [] [⟨(some 47), .build [(.p (.i .i64 0)), (.p (.s [])), (.p (.i .i64 0)), (.p (.i .i64 0)), (.p (.i .i64 0)), .nils] [], [], none⟩,
                           ⟨none, .store 6, [.t 2, .t 47], none⟩,
                           ⟨(some 3), .mv, [.c (.p (.b false))], none⟩])
                        (.ret))
                       (.skip)))
                    (.seq (.reg false [] [⟨(some 48), .mv, [.t 5], none⟩,
                        ⟨(some 49), .iad 1, [.t 48, .c (.p (.i .i64 0))], none⟩,
                        ⟨(some 50), .load false 1, [.t 49], none⟩,
                        ⟨(some 51), .conv .i64, [.t 50], none⟩,
                        ⟨(some 10), .mv, [.t 51], none⟩])
                     (.reg true [(0, 1), (0, 2), (0, 5), (1, 5), (2, 5), (3, 5), (4, 5), (0, 6), (1, 6), (2, 6), (3, 6), (4, 6), (5, 6), (0, 7), (1, 7), (2, 7), (3, 7), (4, 7), (5, 7), (0, 8), (1, 8), (2, 8), (3, 8), (4, 8), (5, 9), (6, 9), (7, 9), (8, 9), (5, 10), (6, 10), (7, 10), (8, 10)] [⟨(some 52), .mv, [.t 5], none⟩,
                        ⟨(some 53), .mv, [.t 10], none⟩,
                        ⟨(some 54), .bin .add, [.c (.p (.i .i64 1)), .t 53], none⟩,
                        ⟨(some 55), .slc 1 true true, [.t 52, .c (.p (.i .i64 1)), .t 54], none⟩,
                        ⟨(some 56), .b2s, [.t 55], none⟩,
                        ⟨(some 57), .mv, [.t 5], none⟩,
                        ⟨(some 58), .mv, [.t 10], none⟩,
                        ⟨(some 59), .bin .add, [.c (.p (.i .i64 1)), .t 58], none⟩,
                        ⟨(some 60), .slc 1 true false, [.t 57, .t 59], none⟩,
                        ⟨(some 61), .fad 1, [.t 4], none⟩,
                        ⟨none, .store 1, [.t 61, .t 56], none⟩,
                        ⟨(some 5), .mv, [.t 60], none⟩])))
                   (.seq (.reg false [] [⟨(some 63), .bin .eql, [.t 32, .c (.p (.i .i64 2))], none⟩,
                       ⟨(some 62), .mv, [.t 63], none⟩])
                    (.cond (.t 62)
                      (.reg false [] [⟨(some 65), .mv, [.t 5], none⟩,
                         ⟨(some 66), .call, [.c (.fn c_wire_number []), .t 65], none⟩,
                         ⟨(some 64), .mv, [.t 66], none⟩,
                         ⟨(some 67), .ext 0, [.t 64], none⟩,
                         ⟨(some 68), .ext 1, [.t 64], none⟩,
                         ⟨(some 69), .ext 2, [.t 64], none⟩,
                         ⟨(some 70), .fad 2, [.t 4], none⟩,
                         ⟨none, .store 1, [.t 70, .t 67], none⟩,
                         ⟨(some 5), .mv, [.t 68], none⟩,
                         ⟨(some 7), .mv, [.t 69], none⟩])
                      (.seq (.reg false [] [⟨(some 72), .bin .eql, [.t 32, .c (.p (.i .i64 3))], none⟩,
                          ⟨(some 71), .mv, [.t 72], none⟩])
                       (.cond (.t 71)
                         (.reg false [] [⟨(some 74), .mv, [.t 5], none⟩,
                            ⟨(some 75), .call, [.c (.fn c_wire_number []), .t 74], none⟩,
                            ⟨(some 73), .mv, [.t 75], none⟩,
                            ⟨(some 76), .ext 0, [.t 73], none⟩,
                            ⟨(some 77), .ext 1, [.t 73], none⟩,
                            ⟨(some 78), .ext 2, [.t 73], none⟩,
                            ⟨(some 79), .fad 3, [.t 4], none⟩,
                            ⟨none, .store 1, [.t 79, .t 76], none⟩,
                            ⟨(some 5), .mv, [.t 77], none⟩,
                            ⟨(some 7), .mv, [.t 78], none⟩])
                         (.seq (.reg false [] [⟨(some 81), .bin .eql, [.t 32, .c (.p (.i .i64 4))], none⟩,
                             ⟨(some 80), .mv, [.t 81], none⟩])
                          (.cond (.t 80)
                            (.reg false [] [⟨(some 83), .mv, [.t 5], none⟩,
                               ⟨(some 84), .call, [.c (.fn c_wire_number []), .t 83], none⟩,
                               ⟨(some 82), .mv, [.t 84], none⟩,
                               ⟨(some 85), .ext 0, [.t 82], none⟩,
                               ⟨(some 86), .ext 1, [.t 82], none⟩,
                               ⟨(some 87), .ext 2, [.t 82], none⟩,
                               ⟨(some 88), .fad 4, [.t 4], none⟩,
                               ⟨none, .store 1, [.t 88, .t 85], none⟩,
                               ⟨(some 5), .mv, [.t 86], none⟩,
                               ⟨(some 7), .mv, [.t 87], none⟩])
                            (.seq (.reg false [] [⟨(some 90), .bin .eql, [.t 32, .c (.p (.i .i64 5))], none⟩,
                                ⟨(some 89), .mv, [.t 90], none⟩])
                             (.cond (.t 89)
                               (.reg false [] [⟨(some 91), .mv, [.t 5], none⟩,
                                  ⟨(some 92), .app 1 1, [.c .nils, .t 91], none⟩,
                                  ⟨(some 93), .fad 5, [.t 4], none⟩,
                                  ⟨none, .store 1, [.t 93, .t 92], none⟩,
                                  ⟨(some 5), .mv, [.c .nils], none⟩])
                               (.skip)))))))))))))
              (.seq (.reg false [] [⟨(some 94), .mv, [.t 7], none⟩,
                  ⟨(some 95), .not, [.t 94], none⟩])
               (.cond (.t 95)
                 (.seq (.reg false [] [⟨(some 96), .build [(.p (.i .i64 0)), (.p (.s [])), (.p (.i .i64 0)), (.p (.i .i64 0)), (.p (.i .i64 0)), .nils] [], [], none⟩,
                     ⟨none, .store 6, [.t 2, .t 96], none⟩,
                     ⟨(some 3), .mv, [.c (.p (.b false))], none⟩])
                  (.ret))
                 (.skip))))))
           (.reg false [] [⟨(some 97), .bin .add, [.t 28, .c (.p (.i .i64 1))], none⟩,
              ⟨(some 28), .mv, [.t 97], none⟩])))))))
     (.seq (.seq (.reg false [] [⟨(some 99), .load true 6, [.t 4], none⟩,
          ⟨(some 100), .call, [.c (.fn c_wire_Encode []), .t 99], none⟩,
          ⟨(some 98), .mv, [.t 100], none⟩,
          ⟨(some 101), .ext 0, [.t 98], none⟩,
          ⟨(some 102), .ext 1, [.t 98], none⟩,
          ⟨(some 11), .mv, [.t 101], none⟩,
          ⟨(some 12), .mv, [.t 102], none⟩])
       (.seq (.reg false [] [⟨(some 103), .mv, [.t 7], none⟩,
           ⟨(some 104), .not, [.t 103], none⟩,
           ⟨(some 105), .mv, [.t 104], none⟩,
           ⟨(some 106), .mv, [.t 12], (some (105, false))⟩,
           ⟨(some 107), .bin .neq, [.t 106, .c (.p (.i .i64 0))], (some (105, false))⟩,
           ⟨(some 108), .pick, [.t 105, .c (.p (.b true)), .t 107], none⟩,
           ⟨(some 109), .mv, [.t 108], none⟩,
           ⟨(some 110), .mv, [.t 0], (some (109, false))⟩,
           ⟨(some 111), .mv, [.t 11], (some (109, false))⟩,
           ⟨(some 112), .call, [.c (.fn c_bytes_Equal []), .t 110, .t 111], (some (109, false))⟩,
           ⟨(some 113), .not, [.t 112], (some (109, false))⟩,
           ⟨(some 114), .pick, [.t 109, .c (.p (.b true)), .t 113], none⟩])
        (.cond (.t 114)
          (.seq (.reg false [] [⟨(some 115), .build [(.p (.i .i64 0)), (.p (.s [])), (.p (.i .i64 0)), (.p (.i .i64 0)), (.p (.i .i64 0)), .nils] [], [], none⟩,
              ⟨none, .store 6, [.t 2, .t 115], none⟩,
              ⟨(some 3), .mv, [.c (.p (.b false))], none⟩])
           (.ret))
          (.skip))))
      (.seq (.reg false [] [⟨(some 116), .load true 6, [.t 4], none⟩,
          ⟨none, .store 6, [.t 2, .t 116], none⟩,
          ⟨(some 3), .mv, [.c (.p (.b true))], none⟩])
       (.ret)))))))

def ref33_decode (c_ref33_reader_number c_ref33_uses : Nat) : IC :=
 .seq (.reg false [] [⟨(some 2), .box 6, [.c (.agg [(.p (.i .i64 0)), (.p (.s [])), (.p (.i .i64 0)), (.p (.i .i64 0)), (.p (.i .i64 0)), .nils])], none⟩,
    ⟨(some 3), .mv, [.c (.p (.b false))], none⟩])
 (.seq (.reg false [] [⟨(some 11), .mv, [.t 0], none⟩,
     ⟨(some 12), .iad 1, [.t 11, .c (.p (.i .i64 0))], none⟩,
     ⟨(some 13), .load false 1, [.t 12], none⟩,
     ⟨(some 14), .conv .i64, [.t 13], none⟩,
     ⟨(some 15), .build [(.p (.i .i64 0)), (.p (.s [])), (.p (.i .i64 0)), (.p (.i .i64 0)), (.p (.i .i64 0)), .nils] [(0, 1)], [.t 14], none⟩,
     ⟨(some 4), .box 6, [.c (.agg [(.p (.i .i64 0)), (.p (.s [])), (.p (.i .i64 0)), (.p (.i .i64 0)), (.p (.i .i64 0)), .nils])], none⟩,
     ⟨none, .store 6, [.t 4, .t 15], none⟩])
  (.seq (.reg false [] [⟨(some 17), .fad 0, [.t 4], none⟩,
      ⟨(some 18), .load false 1, [.t 17], none⟩,
      ⟨(some 19), .call, [.c (.fn c_ref33_uses []), .t 18], none⟩,
      ⟨(some 16), .mv, [.t 19], none⟩,
      ⟨(some 20), .ext 0, [.t 16], none⟩,
      ⟨(some 21), .ext 1, [.t 16], none⟩,
      ⟨(some 22), .ext 2, [.t 16], none⟩,
      ⟨(some 23), .ext 3, [.t 16], none⟩,
      ⟨(some 5), .mv, [.t 20], none⟩,
      ⟨(some 6), .mv, [.t 21], none⟩,
      ⟨(some 7), .mv, [.t 22], none⟩,
      ⟨(some 8), .mv, [.t 23], none⟩])
   (.seq (.reg false [] [⟨(some 24), .mv, [.t 0], none⟩,
       ⟨(some 25), .slc 1 true false, [.t 24, .c (.p (.i .i64 1))], none⟩,
       ⟨(some 26), .build [.nils, (.p (.b false))] [(0, 1)], [.t 25], none⟩,
       ⟨(some 27), .box 2, [.t 26], none⟩,
       ⟨(some 9), .mv, [.t 27], none⟩])
    (.seq (.seq (.reg false [] [⟨(some 28), .mv, [.t 5], none⟩])
      (.cond (.t 28)
        (.seq (.seq (.reg true [(7, 14), (8, 14), (9, 14), (10, 14), (11, 14), (12, 14), (13, 14), (7, 15), (8, 15), (9, 15), (10, 15), (11, 15), (12, 15), (13, 15), (7, 16), (8, 16), (9, 16), (10, 16), (11, 16), (12, 16), (13, 16), (7, 17), (8, 17), (9, 17), (10, 17), (11, 17), (12, 17), (13, 17), (7, 18), (8, 18), (9, 18), (10, 18), (11, 18), (12, 18), (13, 18), (7, 19), (8, 19), (9, 19), (10, 19), (11, 19), (12, 19), (13, 19)] [⟨(some 29), .mv, [.t 9], none⟩,
             ⟨(some 30), .nilck, [.t 29], none⟩,
             ⟨(some 31), .fad 0, [.t 30], none⟩,
             ⟨(some 32), .load false 1, [.t 31], none⟩,
             ⟨(some 33), .len, [.t 32], none⟩,
             ⟨(some 34), .bin .eql, [.t 33, .c (.p (.i .i64 0))], none⟩,
             ⟨(some 35), .mv, [.t 34], none⟩,
             ⟨(some 36), .mv, [.t 9], (some (35, false))⟩,
             ⟨(some 37), .nilck, [.t 36], (some (35, false))⟩,
             ⟨(some 38), .fad 0, [.t 37], (some (35, false))⟩,
             ⟨(some 39), .load false 1, [.t 38], (some (35, false))⟩,
             ⟨(some 40), .iad 1, [.t 39, .c (.p (.i .i64 0))], (some (35, false))⟩,
             ⟨(some 41), .load false 1, [.t 40], (some (35, false))⟩,
             ⟨(some 42), .conv .i64, [.t 41], (some (35, false))⟩,
             ⟨(some 43), .mv, [.t 9], (some (35, false))⟩,
             ⟨(some 44), .nilck, [.t 43], (some (35, false))⟩,
             ⟨(some 45), .fad 0, [.t 44], (some (35, false))⟩,
             ⟨(some 46), .load false 1, [.t 45], (some (35, false))⟩,
             ⟨(some 47), .len, [.t 46], (some (35, false))⟩,
             ⟨(some 48), .bin .sub, [.t 47, .c (.p (.i .i64 1))], (some (35, false))⟩,
             ⟨(some 49), .bin .gtr, [.t 42, .t 48], (some (35, false))⟩,
             ⟨(some 50), .pick, [.t 35, .c (.p (.b true)), .t 49], none⟩])
          (.cond (.t 50)
            (.seq (.reg false [] [⟨(some 51), .load true 6, [.t 4], none⟩,
                ⟨none, .store 6, [.t 2, .t 51], none⟩,
                ⟨(some 3), .mv, [.c (.p (.b false))], none⟩])
             (.ret))
            (.skip)))
         (.seq (.reg false [] [⟨(some 52), .mv, [.t 9], none⟩,
             ⟨(some 53), .nilck, [.t 52], none⟩,
             ⟨(some 54), .fad 0, [.t 53], none⟩,
             ⟨(some 55), .load false 1, [.t 54], none⟩,
             ⟨(some 56), .iad 1, [.t 55, .c (.p (.i .i64 0))], none⟩,
             ⟨(some 57), .load false 1, [.t 56], none⟩,
             ⟨(some 58), .conv .i64, [.t 57], none⟩,
             ⟨(some 59), .bin .add, [.c (.p (.i .i64 1)), .t 58], none⟩,
             ⟨(some 10), .mv, [.t 59], none⟩])
          (.seq (.reg true [(0, 1), (0, 2), (0, 3), (0, 4), (0, 5), (1, 5), (2, 5), (3, 5), (4, 5), (0, 6), (0, 7), (0, 8), (1, 8), (2, 8), (3, 8), (4, 8), (5, 8), (6, 8), (7, 8), (0, 9), (1, 9), (2, 9), (3, 9), (4, 9), (5, 9), (6, 9), (7, 9), (0, 10), (1, 10), (2, 10), (3, 10), (4, 10), (5, 10), (6, 10), (7, 10), (0, 11), (1, 11), (2, 11), (3, 11), (4, 11), (5, 11), (6, 11), (7, 11), (0, 12), (1, 12), (2, 12), (3, 12), (4, 12), (5, 12), (6, 12), (7, 12), (8, 12), (9, 12), (10, 12), (11, 12), (0, 13), (1, 13), (2, 13), (3, 13), (4, 13), (5, 13), (6, 13), (7, 13), (0, 14), (8, 14), (9, 14), (10, 14), (11, 14), (12, 14), (13, 14), (0, 15), (8, 15), (9, 15), (10, 15), (11, 15), (12, 15), (13, 15)] [⟨(some 60), .mv, [.t 9], none⟩,
              ⟨(some 61), .mv, [.t 9], none⟩,
              ⟨(some 62), .nilck, [.t 61], none⟩,
              ⟨(some 63), .fad 0, [.t 62], none⟩,
              ⟨(some 64), .load false 1, [.t 63], none⟩,
              ⟨(some 65), .mv, [.t 10], none⟩,
              ⟨(some 66), .slc 1 true true, [.t 64, .c (.p (.i .i64 1)), .t 65], none⟩,
              ⟨(some 67), .b2s, [.t 66], none⟩,
              ⟨(some 68), .mv, [.t 9], none⟩,
              ⟨(some 69), .nilck, [.t 68], none⟩,
              ⟨(some 70), .fad 0, [.t 69], none⟩,
              ⟨(some 71), .load false 1, [.t 70], none⟩,
              ⟨(some 72), .mv, [.t 10], none⟩,
              ⟨(some 73), .slc 1 true false, [.t 71, .t 72], none⟩,
              ⟨(some 74), .fad 1, [.t 4], none⟩,
              ⟨none, .store 1, [.t 74, .t 67], none⟩,
              ⟨(some 75), .nilck, [.t 60], none⟩,
              ⟨(some 76), .fad 0, [.t 75], none⟩,
              ⟨none, .store 1, [.t 76, .t 73], none⟩])
           (.reg false [] [⟨(some 77), .mv, [.t 9], none⟩,
              ⟨(some 78), .call, [.c (.fn c_ref33_reader_number []), .t 77], none⟩,
              ⟨(some 79), .fad 2, [.t 4], none⟩,
              ⟨none, .store 1, [.t 79, .t 78], none⟩]))))
        (.skip)))
     (.seq (.seq (.reg false [] [⟨(some 80), .mv, [.t 6], none⟩])
       (.cond (.t 80)
         (.reg false [] [⟨(some 81), .mv, [.t 9], none⟩,
            ⟨(some 82), .call, [.c (.fn c_ref33_reader_number []), .t 81], none⟩,
            ⟨(some 83), .fad 3, [.t 4], none⟩,
            ⟨none, .store 1, [.t 83, .t 82], none⟩])
         (.skip)))
      (.seq (.seq (.reg false [] [⟨(some 84), .mv, [.t 7], none⟩])
        (.cond (.t 84)
          (.reg false [] [⟨(some 85), .mv, [.t 9], none⟩,
             ⟨(some 86), .call, [.c (.fn c_ref33_reader_number []), .t 85], none⟩,
             ⟨(some 87), .fad 4, [.t 4], none⟩,
             ⟨none, .store 1, [.t 87, .t 86], none⟩])
          (.skip)))
       (.seq (.seq (.reg false [] [⟨(some 88), .mv, [.t 8], none⟩])
         (.cond (.t 88)
           (.reg false [] [⟨(some 89), .mv, [.t 9], none⟩,
              ⟨(some 90), .bslice 1 (.p (.i .u8 0)) 0 [], [], none⟩,
              ⟨(some 91), .mv, [.t 9], none⟩,
              ⟨(some 92), .nilck, [.t 91], none⟩,
              ⟨(some 93), .fad 0, [.t 92], none⟩,
              ⟨(some 94), .load false 1, [.t 93], none⟩,
              ⟨(some 95), .app 1 1, [.t 90, .t 94], none⟩,
              ⟨(some 96), .fad 5, [.t 4], none⟩,
              ⟨none, .store 1, [.t 96, .t 95], none⟩,
              ⟨(some 97), .nilck, [.t 89], none⟩,
              ⟨(some 98), .fad 0, [.t 97], none⟩,
              ⟨none, .store 1, [.t 98, .c .nils], none⟩])
           (.skip)))
        (.seq (.reg true [(0, 1), (0, 2), (0, 3), (0, 4), (0, 5), (0, 6), (0, 7), (0, 8), (0, 9), (0, 10), (0, 11), (0, 12), (0, 13), (7, 14), (8, 14), (9, 14), (10, 14), (11, 14), (12, 14), (13, 14)] [⟨(some 99), .load true 6, [.t 4], none⟩,
            ⟨(some 100), .mv, [.t 9], none⟩,
            ⟨(some 101), .nilck, [.t 100], none⟩,
            ⟨(some 102), .fad 1, [.t 101], none⟩,
            ⟨(some 103), .load false 1, [.t 102], none⟩,
            ⟨(some 104), .not, [.t 103], none⟩,
            ⟨(some 105), .mv, [.t 104], none⟩,
            ⟨(some 106), .mv, [.t 9], (some (105, true))⟩,
            ⟨(some 107), .nilck, [.t 106], (some (105, true))⟩,
            ⟨(some 108), .fad 0, [.t 107], (some (105, true))⟩,
            ⟨(some 109), .load false 1, [.t 108], (some (105, true))⟩,
            ⟨(some 110), .len, [.t 109], (some (105, true))⟩,
            ⟨(some 111), .bin .eql, [.t 110, .c (.p (.i .i64 0))], (some (105, true))⟩,
            ⟨(some 112), .pick, [.t 105, .t 111, .c (.p (.b false))], none⟩,
            ⟨none, .store 6, [.t 2, .t 99], none⟩,
            ⟨(some 3), .mv, [.t 112], none⟩])
         (.ret)))))))))

def mill_Case_word (c_mill_Case_Int : Nat) : IC :=
 .seq (.reg false [] [⟨(some 4), .mv, [.c (.p (.s []))], none⟩])
 (.seq (.reg false [] [⟨(some 5), .mv, [.t 1], none⟩,
     ⟨(some 6), .mv, [.t 0], none⟩,
     ⟨(some 7), .mv, [.t 1], none⟩,
     ⟨(some 8), .len, [.t 7], none⟩,
     ⟨(some 9), .call, [.c (.fn c_mill_Case_Int []), .t 6, .t 8], none⟩,
     ⟨(some 10), .iad 1, [.t 5, .t 9], none⟩,
     ⟨(some 11), .load false 1, [.t 10], none⟩,
     ⟨(some 4), .mv, [.t 11], none⟩])
  (.ret))

def slices_Index_lint_int : IC :=
 .seq (.reg false [] [⟨(some 4), .mv, [.c (.p (.i .i64 0))], none⟩])
 (.seq (.seq (.reg false [] [⟨(some 6), .mv, [.t 0], none⟩,
      ⟨(some 7), .len, [.t 6], none⟩,
      ⟨(some 8), .mv, [.c (.p (.i .i64 0))], none⟩])
   (.block 0 (
     .loop (
      .seq (.reg false [] [⟨(some 9), .bin .lss, [.t 8, .t 7], none⟩])
      (.seq (.cond (.t 9)
         (.skip)
         (.exit 0))
       (.seq (.block 1 (
          .seq (.reg false [] [⟨(some 10), .mv, [.t 8], none⟩,
             ⟨(some 5), .mv, [.t 10], none⟩])
          (.seq (.reg false [] [⟨(some 11), .mv, [.t 1], none⟩,
              ⟨(some 12), .mv, [.t 0], none⟩,
              ⟨(some 13), .mv, [.t 5], none⟩,
              ⟨(some 14), .iad 1, [.t 12, .t 13], none⟩,
              ⟨(some 15), .load false 1, [.t 14], none⟩,
              ⟨(some 16), .bin .eql, [.t 11, .t 15], none⟩])
           (.cond (.t 16)
             (.seq (.reg false [] [⟨(some 17), .mv, [.t 5], none⟩,
                 ⟨(some 4), .mv, [.t 17], none⟩])
              (.ret))
             (.skip)))))
        (.reg false [] [⟨(some 18), .bin .add, [.t 8, .c (.p (.i .i64 1))], none⟩,
           ⟨(some 8), .mv, [.t 18], none⟩])))))))
  (.seq (.reg false [] [⟨(some 4), .mv, [.c (.p (.i .i64 (-1)))], none⟩])
   (.ret)))

def logfile_HostName : IC :=
 .seq (.reg false [] [⟨(some 2), .mv, [.c (.p (.b false))], none⟩])
 (.seq (.seq (.reg false [] [⟨(some 5), .mv, [.t 0], none⟩,
      ⟨(some 6), .lens, [.t 5], none⟩,
      ⟨(some 7), .bin .lss, [.t 6, .c (.p (.i .i64 1))], none⟩,
      ⟨(some 8), .mv, [.t 7], none⟩,
      ⟨(some 9), .mv, [.t 0], (some (8, false))⟩,
      ⟨(some 10), .lens, [.t 9], (some (8, false))⟩,
      ⟨(some 11), .bin .gtr, [.t 10, .c (.p (.i .i64 16))], (some (8, false))⟩,
      ⟨(some 12), .pick, [.t 8, .c (.p (.b true)), .t 11], none⟩])
   (.cond (.t 12)
     (.seq (.reg false [] [⟨(some 2), .mv, [.c (.p (.b false))], none⟩])
      (.ret))
     (.skip)))
  (.seq (.seq (.reg false [] [⟨(some 13), .mv, [.t 0], none⟩,
       ⟨(some 14), .lens, [.t 13], none⟩,
       ⟨(some 15), .mv, [.c (.p (.i .i64 0))], none⟩])
    (.block 0 (
      .loop (
       .seq (.reg false [] [⟨(some 16), .bin .lss, [.t 15, .t 14], none⟩])
       (.seq (.cond (.t 16)
          (.skip)
          (.exit 0))
        (.seq (.block 1 (
           .seq (.reg false [] [⟨(some 17), .mv, [.t 15], none⟩,
              ⟨(some 3), .mv, [.t 17], none⟩])
           (.seq (.reg false [] [⟨(some 18), .mv, [.t 0], none⟩,
               ⟨(some 19), .mv, [.t 3], none⟩,
               ⟨(some 20), .idx, [.t 18, .t 19], none⟩,
               ⟨(some 4), .mv, [.t 20], none⟩])
            (.seq (.reg false [] [⟨(some 21), .mv, [.t 4], none⟩,
                ⟨(some 22), .bin .lss, [.t 21, .c (.p (.i .u8 97))], none⟩,
                ⟨(some 23), .mv, [.t 22], none⟩,
                ⟨(some 24), .mv, [.t 4], (some (23, false))⟩,
                ⟨(some 25), .bin .gtr, [.t 24, .c (.p (.i .u8 122))], (some (23, false))⟩,
                ⟨(some 26), .pick, [.t 23, .c (.p (.b true)), .t 25], none⟩,
                ⟨(some 27), .mv, [.t 26], none⟩,
                ⟨(some 28), .mv, [.t 4], (some (27, true))⟩,
                ⟨(some 29), .bin .lss, [.t 28, .c (.p (.i .u8 48))], (some (27, true))⟩,
                ⟨(some 30), .mv, [.t 29], (some (27, true))⟩,
                ⟨(some 31), .mv, [.t 4], (some (30, false))⟩,
                ⟨(some 32), .bin .gtr, [.t 31, .c (.p (.i .u8 57))], (some (30, false))⟩,
                ⟨(some 33), .pick, [.t 30, .c (.p (.b true)), .t 32], (some (27, true))⟩,
                ⟨(some 34), .pick, [.t 27, .t 33, .c (.p (.b false))], none⟩])
             (.cond (.t 34)
               (.seq (.reg false [] [⟨(some 2), .mv, [.c (.p (.b false))], none⟩])
                (.ret))
               (.skip))))))
         (.reg false [] [⟨(some 35), .bin .add, [.t 15, .c (.p (.i .i64 1))], none⟩,
            ⟨(some 15), .mv, [.t 35], none⟩])))))))
   (.seq (.reg false [] [⟨(some 2), .mv, [.c (.p (.b true))], none⟩])
    (.ret))))

def wire_within : IC :=
 .seq (.reg false [] [⟨(some 6), .mv, [.c (.p (.b false))], none⟩])
 (.seq (.reg false [] [⟨(some 7), .mv, [.t 0], none⟩,
     ⟨(some 8), .mv, [.t 1], none⟩,
     ⟨(some 9), .bin .geq, [.t 7, .t 8], none⟩,
     ⟨(some 10), .mv, [.t 9], none⟩,
     ⟨(some 11), .mv, [.t 0], (some (10, true))⟩,
     ⟨(some 12), .mv, [.t 2], (some (10, true))⟩,
     ⟨(some 13), .bin .leq, [.t 11, .t 12], (some (10, true))⟩,
     ⟨(some 14), .pick, [.t 10, .t 13, .c (.p (.b false))], none⟩,
     ⟨(some 6), .mv, [.t 14], none⟩])
  (.ret))

def wire_number : IC :=
 .seq (.reg false [] [⟨(some 2), .mv, [.c (.p (.i .i64 0))], none⟩,
    ⟨(some 3), .mv, [.c .nils], none⟩,
    ⟨(some 4), .mv, [.c (.p (.b false))], none⟩])
 (.seq (.reg false [] [⟨(some 5), .mv, [.c (.p (.i .i64 0))], none⟩])
  (.seq (.seq (.reg false [] [⟨(some 8), .mv, [.t 0], none⟩,
       ⟨(some 9), .len, [.t 8], none⟩,
       ⟨(some 10), .mv, [.c (.p (.i .i64 0))], none⟩])
    (.block 0 (
      .loop (
       .seq (.reg false [] [⟨(some 11), .bin .lss, [.t 10, .t 9], none⟩])
       (.seq (.cond (.t 11)
          (.skip)
          (.exit 0))
        (.seq (.block 1 (
           .seq (.reg false [] [⟨(some 12), .mv, [.t 10], none⟩,
              ⟨(some 13), .iad 1, [.t 8, .t 10], none⟩,
              ⟨(some 14), .load false 1, [.t 13], none⟩,
              ⟨(some 6), .mv, [.t 12], none⟩,
              ⟨(some 7), .mv, [.t 14], none⟩])
           (.seq (.seq (.reg false [] [⟨(some 15), .mv, [.t 6], none⟩,
                ⟨(some 16), .bin .eql, [.t 15, .c (.p (.i .i64 9))], none⟩])
             (.cond (.t 16)
               (.exit 0)
               (.skip)))
            (.seq (.reg false [] [⟨(some 17), .mv, [.t 5], none⟩,
                ⟨(some 18), .mv, [.t 7], none⟩,
                ⟨(some 19), .bin .and, [.t 18, .c (.p (.i .u8 127))], none⟩,
                ⟨(some 20), .conv .i64, [.t 19], none⟩,
                ⟨(some 21), .mv, [.t 6], none⟩,
                ⟨(some 22), .bin .mul, [.c (.p (.i .i64 7)), .t 21], none⟩,
                ⟨(some 23), .bin .shl, [.t 20, .t 22], none⟩,
                ⟨(some 24), .bin .or, [.t 17, .t 23], none⟩,
                ⟨(some 5), .mv, [.t 24], none⟩])
             (.seq (.reg false [] [⟨(some 25), .mv, [.t 7], none⟩,
                 ⟨(some 26), .bin .lss, [.t 25, .c (.p (.i .u8 128))], none⟩])
              (.cond (.t 26)
                (.seq (.reg true [(0, 1), (0, 2), (1, 2), (0, 3), (1, 3), (0, 4), (1, 5), (2, 5), (3, 5), (4, 5)] [⟨(some 27), .mv, [.t 5], none⟩,
                    ⟨(some 28), .mv, [.t 0], none⟩,
                    ⟨(some 29), .mv, [.t 6], none⟩,
                    ⟨(some 30), .bin .add, [.t 29, .c (.p (.i .i64 1))], none⟩,
                    ⟨(some 31), .slc 1 true false, [.t 28, .t 30], none⟩,
                    ⟨(some 2), .mv, [.t 27], none⟩,
                    ⟨(some 3), .mv, [.t 31], none⟩,
                    ⟨(some 4), .mv, [.c (.p (.b true))], none⟩])
                 (.ret))
                (.skip)))))))
         (.reg false [] [⟨(some 32), .bin .add, [.t 10, .c (.p (.i .i64 1))], none⟩,
            ⟨(some 10), .mv, [.t 32], none⟩])))))))
   (.seq (.reg false [] [⟨(some 2), .mv, [.c (.p (.i .i64 0))], none⟩,
       ⟨(some 3), .mv, [.c .nils], none⟩,
       ⟨(some 4), .mv, [.c (.p (.b false))], none⟩])
    (.ret))))

def bytes_Equal : IC :=
 .seq (.reg false [] [⟨(some 4), .mv, [.c (.p (.b false))], none⟩])
 (.seq (.reg false [] [⟨(some 5), .mv, [.t 0], none⟩,
     ⟨(some 6), .b2s, [.t 5], none⟩,
     ⟨(some 7), .mv, [.t 1], none⟩,
     ⟨(some 8), .b2s, [.t 7], none⟩,
     ⟨(some 9), .beq true false, [.t 6, .t 8], none⟩,
     ⟨(some 4), .mv, [.t 9], none⟩])
  (.ret))

def ref33_reader_number (c_ref25_Take : Nat) : IC :=
 .seq (.reg false [] [⟨(some 2), .mv, [.c (.p (.i .i64 0))], none⟩])
 (.seq (.reg false [] [⟨(some 7), .mv, [.t 0], none⟩,
     ⟨(some 8), .nilck, [.t 7], none⟩,
     ⟨(some 9), .fad 0, [.t 8], none⟩,
     ⟨(some 10), .load false 1, [.t 9], none⟩,
     ⟨(some 11), .call, [.c (.fn c_ref25_Take []), .t 10], none⟩,
     ⟨(some 6), .mv, [.t 11], none⟩,
     ⟨(some 12), .ext 0, [.t 6], none⟩,
     ⟨(some 13), .ext 1, [.t 6], none⟩,
     ⟨(some 14), .ext 2, [.t 6], none⟩,
     ⟨(some 3), .mv, [.t 12], none⟩,
     ⟨(some 4), .mv, [.t 13], none⟩,
     ⟨(some 5), .mv, [.t 14], none⟩])
  (.seq (.seq (.reg false [] [⟨(some 15), .mv, [.t 0], none⟩,
       ⟨(some 16), .nilck, [.t 15], none⟩,
       ⟨(some 17), .fad 1, [.t 16], none⟩,
       ⟨(some 18), .load false 1, [.t 17], none⟩,
       ⟨(some 19), .mv, [.t 18], none⟩,
       ⟨(some 20), .mv, [.t 5], (some (19, false))⟩,
       ⟨(some 21), .not, [.t 20], (some (19, false))⟩,
       ⟨(some 22), .pick, [.t 19, .c (.p (.b true)), .t 21], none⟩])
    (.cond (.t 22)
      (.seq (.reg false [] [⟨(some 23), .mv, [.t 0], none⟩,
          ⟨(some 24), .nilck, [.t 23], none⟩,
          ⟨(some 25), .fad 1, [.t 24], none⟩,
          ⟨none, .store 1, [.t 25, .c (.p (.b true))], none⟩])
       (.seq (.reg false [] [⟨(some 2), .mv, [.c (.p (.i .i64 0))], none⟩])
        (.ret)))
      (.skip)))
   (.seq (.reg false [] [⟨(some 26), .mv, [.t 0], none⟩,
       ⟨(some 27), .mv, [.t 0], none⟩,
       ⟨(some 28), .nilck, [.t 27], none⟩,
       ⟨(some 29), .fad 0, [.t 28], none⟩,
       ⟨(some 30), .load false 1, [.t 29], none⟩,
       ⟨(some 31), .mv, [.t 4], none⟩,
       ⟨(some 32), .slc 1 true false, [.t 30, .t 31], none⟩,
       ⟨(some 33), .nilck, [.t 26], none⟩,
       ⟨(some 34), .fad 0, [.t 33], none⟩,
       ⟨none, .store 1, [.t 34, .t 32], none⟩])
    (.seq (.reg false [] [⟨(some 35), .mv, [.t 3], none⟩,
        ⟨(some 2), .mv, [.t 35], none⟩])
     (.ret)))))

end Go.DW.Ic
