/- Which function of the program has which form. Printed by a program. -/
import Derived.Test.YtihhgkobmnjamaaIc
import Derived.Test.YtihhgkobmnjamaaProg
import Derived.KernelRfl
import Derived.Test.YtihhgkobmnjamaaWc
import Derived.Test.YtihhgkobmnjamaaWd
namespace Go.DW.Ok33
open Go.Proofs.Try
theorem law33_WireEncodes : FnOK prog 3 75 (Ic.law33_WireEncodes 15 8 9 7 12 11 14 10 13) [(6, none)] := ⟨_, _, rfl, by kernel_rfl, rfl, rfl, by kernel_rfl, by kernel_rfl⟩
theorem law33_WireFeeds : FnOK prog 4 133 (Ic.law33_WireFeeds 15 16 7 12 18 19 17) [(12, none)] := ⟨_, _, rfl, by kernel_rfl, rfl, rfl, by kernel_rfl, by kernel_rfl⟩
theorem law33_WirePieces : FnOK prog 5 78 (Ic.law33_WirePieces 15 16 7 19 17) [(4, none)] := ⟨_, _, rfl, by kernel_rfl, rfl, rfl, by kernel_rfl, by kernel_rfl⟩
theorem law33_WireBack : FnOK prog 6 111 (Ic.law33_WireBack 15 8 7 12 20 10 17) [(4, none)] := ⟨_, _, rfl, by kernel_rfl, rfl, rfl, by kernel_rfl, by kernel_rfl⟩
theorem mill_New : FnOK prog 7 15 Ic.mill_New [(4, none)] := ⟨_, _, rfl, by kernel_rfl, rfl, rfl, by kernel_rfl, by kernel_rfl⟩
theorem law33_message : FnOK prog 8 53 (Ic.law33_message 24 23 22 21) [(2, (some (true, 6)))] := ⟨_, _, rfl, by kernel_rfl, rfl, rfl, by kernel_rfl, by kernel_rfl⟩
theorem law33_spoilt : FnOK prog 9 37 (Ic.law33_spoilt 24 22 21 25) [(4, (some (true, 6)))] := ⟨_, _, rfl, by kernel_rfl, rfl, rfl, by kernel_rfl, by kernel_rfl⟩
theorem wire_Encode : FnOK prog 10 87 (Ic.wire_Encode 13 27 26) [(2, none), (3, none)] := ⟨_, _, rfl, by kernel_rfl, rfl, rfl, by kernel_rfl, by kernel_rfl⟩
theorem ref33_Encode : FnOK prog 11 70 (Ic.ref33_Encode 29 14 28) [(2, none), (3, none)] := ⟨_, _, rfl, by kernel_rfl, rfl, rfl, by kernel_rfl, by kernel_rfl⟩
theorem ref24_SameBytes : FnOK prog 12 10 Ic.ref24_SameBytes [(4, none)] := ⟨_, _, rfl, by kernel_rfl, rfl, rfl, by kernel_rfl, by kernel_rfl⟩
theorem wire_Valid : FnOK prog 13 29 (Ic.wire_Valid 30 26 31 32) [(2, none)] := ⟨_, _, rfl, by kernel_rfl, rfl, rfl, by kernel_rfl, by kernel_rfl⟩
theorem ref33_Valid : FnOK prog 14 129 (Ic.ref33_Valid 33 28) [(2, none)] := ⟨_, _, rfl, by kernel_rfl, rfl, rfl, by kernel_rfl, by kernel_rfl⟩
theorem law33_begun : FnOK prog 15 46 (Ic.law33_begun 12 10 17) [(0, none)] := ⟨_, _, rfl, by kernel_rfl, rfl, rfl, by kernel_rfl, by kernel_rfl⟩
theorem law33_stream : FnOK prog 16 32 (Ic.law33_stream 8 22 10) [(2, none), (3, none)] := ⟨_, _, rfl, by kernel_rfl, rfl, rfl, by kernel_rfl, by kernel_rfl⟩
theorem wire_Feed : FnOK prog 17 75 (Ic.wire_Feed 34) [(4, none), (5, none), (6, none)] := ⟨_, _, rfl, by kernel_rfl, rfl, rfl, by kernel_rfl, by kernel_rfl⟩
theorem ref33_Feed : FnOK prog 18 95 (Ic.ref33_Feed 12 11 35) [(4, none), (5, none), (6, none)] := ⟨_, _, rfl, by kernel_rfl, rfl, rfl, by kernel_rfl, by kernel_rfl⟩
theorem ref33_SameList : FnOK prog 19 27 (Ic.ref33_SameList 20) [(4, none)] := ⟨_, _, rfl, by kernel_rfl, rfl, rfl, by kernel_rfl, by kernel_rfl⟩
theorem ref33_Same : FnOK prog 20 45 (Ic.ref33_Same 12) [(4, none)] := ⟨_, _, rfl, by kernel_rfl, rfl, rfl, by kernel_rfl, by kernel_rfl⟩
theorem mill_Case_Pick : FnOK prog 21 12 (Ic.mill_Case_Pick 22) [(4, none)] := ⟨_, _, rfl, by kernel_rfl, rfl, rfl, by kernel_rfl, by kernel_rfl⟩
theorem mill_Case_Int : FnOK prog 22 40 Ic.mill_Case_Int [(4, none)] := ⟨_, _, rfl, by kernel_rfl, rfl, rfl, by kernel_rfl, by kernel_rfl⟩
theorem mill_Case_Host : FnOK prog 23 6 (Ic.mill_Case_Host 36) [(2, none)] := ⟨_, _, rfl, by kernel_rfl, rfl, rfl, by kernel_rfl, by kernel_rfl⟩
theorem mill_Case_Bytes : FnOK prog 24 25 (Ic.mill_Case_Bytes 22 21) [(4, none)] := ⟨_, _, rfl, by kernel_rfl, rfl, rfl, by kernel_rfl, by kernel_rfl⟩
theorem mill_Case_Text : FnOK prog 25 12 (Ic.mill_Case_Text 22) [(2, none)] := ⟨_, _, rfl, by kernel_rfl, rfl, rfl, by kernel_rfl, by kernel_rfl⟩
theorem wire_fields : FnOK prog 26 22 Ic.wire_fields [(2, none), (3, none)] := ⟨_, _, rfl, by kernel_rfl, rfl, rfl, by kernel_rfl, by kernel_rfl⟩
theorem wire_appendNumber : FnOK prog 27 21 Ic.wire_appendNumber [(4, none)] := ⟨_, _, rfl, by kernel_rfl, rfl, rfl, by kernel_rfl, by kernel_rfl⟩
theorem ref33_uses : FnOK prog 28 16 Ic.ref33_uses [(2, none), (3, none), (4, none), (5, none)] := ⟨_, _, rfl, by kernel_rfl, rfl, rfl, by kernel_rfl, by kernel_rfl⟩
theorem ref25_Put : FnOK prog 29 21 Ic.ref25_Put [(4, none)] := ⟨_, _, rfl, by kernel_rfl, rfl, rfl, by kernel_rfl, by kernel_rfl⟩
theorem slices_Contains_lint_int : FnOK prog 30 9 (Ic.slices_Contains_lint_int 37) [(4, none)] := ⟨_, _, rfl, by kernel_rfl, rfl, rfl, by kernel_rfl, by kernel_rfl⟩
theorem wire_validField : FnOK prog 31 42 (Ic.wire_validField 38 39) [(4, none)] := ⟨_, _, rfl, by kernel_rfl, rfl, rfl, by kernel_rfl, by kernel_rfl⟩
theorem wire_zeroField : FnOK prog 32 30 Ic.wire_zeroField [(4, none)] := ⟨_, _, rfl, by kernel_rfl, rfl, rfl, by kernel_rfl, by kernel_rfl⟩
theorem ref25_HostName : FnOK prog 33 36 Ic.ref25_HostName [(2, none)] := ⟨_, _, rfl, by kernel_rfl, rfl, rfl, by kernel_rfl, by kernel_rfl⟩
theorem wire_decode : FnOK prog 34 117 (Ic.wire_decode 41 10 26 40) [(2, (some (true, 6))), (3, none)] := ⟨_, _, rfl, by kernel_rfl, rfl, rfl, by kernel_rfl, by kernel_rfl⟩
theorem ref33_decode : FnOK prog 35 113 (Ic.ref33_decode 42 28) [(2, (some (true, 6))), (3, none)] := ⟨_, _, rfl, by kernel_rfl, rfl, rfl, by kernel_rfl, by kernel_rfl⟩
theorem mill_Case_word : FnOK prog 36 12 (Ic.mill_Case_word 22) [(4, none)] := ⟨_, _, rfl, by kernel_rfl, rfl, rfl, by kernel_rfl, by kernel_rfl⟩
theorem slices_Index_lint_int : FnOK prog 37 19 Ic.slices_Index_lint_int [(4, none)] := ⟨_, _, rfl, by kernel_rfl, rfl, rfl, by kernel_rfl, by kernel_rfl⟩
theorem logfile_HostName : FnOK prog 38 36 Ic.logfile_HostName [(2, none)] := ⟨_, _, rfl, by kernel_rfl, rfl, rfl, by kernel_rfl, by kernel_rfl⟩
theorem wire_within : FnOK prog 39 15 Ic.wire_within [(6, none)] := ⟨_, _, rfl, by kernel_rfl, rfl, rfl, by kernel_rfl, by kernel_rfl⟩
theorem wire_number : FnOK prog 40 33 Ic.wire_number [(2, none), (3, none), (4, none)] := ⟨_, _, rfl, by kernel_rfl, rfl, rfl, by kernel_rfl, by kernel_rfl⟩
theorem bytes_Equal : FnOK prog 41 10 Ic.bytes_Equal [(4, none)] := ⟨_, _, rfl, by kernel_rfl, rfl, rfl, by kernel_rfl, by kernel_rfl⟩
theorem ref33_reader_number : FnOK prog 42 36 (Ic.ref33_reader_number 43) [(2, none)] := ⟨_, _, rfl, by kernel_rfl, rfl, rfl, by kernel_rfl, by kernel_rfl⟩
theorem ref25_Take : FnOK prog 43 45 Ic.ref25_Take [(2, none), (3, none), (4, none)] := ⟨_, _, rfl, by kernel_rfl, rfl, rfl, by kernel_rfl, by kernel_rfl⟩
end Go.DW.Ok33

/- The contracts of the functions of the round of wire. -/
namespace Go.DW.Ok33
open Go.Proofs.Try

theorem hm : prog.follows .mixedOrders = true := by kernel_rfl

theorem c_valid (m : Msg) (_ : m.host.length ≤ 9223372036854775807) : FC prog 13 [.p m.pv] [] (VT (validOk m)) [] := Go.DW.wire_valid slices_Index_lint_int slices_Contains_lint_int wire_fields logfile_HostName wire_within wire_validField wire_zeroField wire_Valid m
theorem c_rvalid (m : Msg) (h : m.host.length ≤ 9223372036854775807) : FC prog 14 [.p m.pv] [] (VT (validOk m)) [] := Go.DW.ref_valid ref25_HostName ref33_uses ref33_Valid m h
theorem c_enc (m : Msg) (h : m.host.length ≤ 9223372036854775807) : FC prog 10 [.p m.pv] [] (.tup [VB (encB m), VI (encE m)]) [] := Go.DW.wire_encode (fh := 0) (fw := 0) (fv := 0) (fz := 0) hm slices_Index_lint_int slices_Contains_lint_int wire_fields c_valid wire_appendNumber wire_Encode m h
theorem c_renc (m : Msg) (h : m.host.length ≤ 9223372036854775807) : FC prog 11 [.p m.pv] [] (.tup [VB (encB m), VI (encE m)]) [] := Go.DW.ref_encode' hm ref25_HostName ref33_uses ref33_Valid ref25_Put ref33_Encode m h
theorem c_dec (b : List UInt8) (h : b.length ≤ 1000000) (h0 : 4 < b.length) : FC prog 34 [VB b] [] (.tup [.p (optM (wdec b)).pv, VT (wdec b).isSome]) [] := Go.DW.wire_decode hm wire_fields wire_number bytes_Equal c_enc wire_decode b h h0
theorem c_feed (rest more : List UInt8) (h : rest.length + more.length ≤ 1000000000) : FC prog 17 [VB rest, VB more] [] (.tup [.p (.sl ((feedR wdec (rest ++ more)).1.map Msg.pv)), VB (feedR wdec (rest ++ more)).2.1, VI (feedR wdec (rest ++ more)).2.2]) [] :=
  Go.DW.wire_feedF hm (feedEq wdec) c_dec wire_Feed rest more h
theorem c_begun : FC prog 15 [] [] (VT true) [] := Go.DW.law_begun ref24_SameBytes c_enc c_feed law33_begun
theorem c_message (l : List UInt8) (a : Nat) (h : l.length ≤ 1000) (h0 : a ≤ l.length) : FC prog 8 [.ptr 1000 0 0] [(1000, some (cb l a))] (.p (kMsg l a).1.pv) [(1000, some (cb l (kMsg l a).2))] :=
  Go.DW.law_message hm mill_Case_Int mill_Case_Pick mill_Case_word mill_Case_Host mill_Case_Bytes law33_message l a h h0
theorem c_spoilt (l : List UInt8) (a : Nat) (m : Msg) (h : l.length ≤ 1000) (h0 : a ≤ l.length) : FC prog 9 [.ptr 1000 0 0, .p m.pv] [(1000, some (cb l a))] (.p (kSpoil l a m).1.pv) [(1000, some (cb l (kSpoil l a m).2))] :=
  Go.DW.law_spoilt hm mill_Case_Int mill_Case_Pick mill_Case_Text mill_Case_Bytes law33_spoilt l a m h h0
theorem c_encodes (codes : List UInt8) (raw : Msg) (long : Int) (hr : raw.host.length ≤ 9223372036854775807) (hlong : 0 ≤ long ∧ long < 65536) : FC prog 3 [VB codes, .p raw.pv, .p (.i .u16 long)] [] (VT true) [] :=
  Go.DW.law_encodes hm mill_New c_message c_spoilt c_enc c_renc ref24_SameBytes c_valid c_rvalid c_begun law33_WireEncodes codes raw long hr hlong
theorem decs : rdecF rdec = wdec := funext fun c => (dec_same c).symm
theorem rdec_host (b : List UInt8) (h : b.length ≤ 1000000) : (rdec b).1.host.length ≤ 1000000 := rdec_hostlen b h
theorem c_rdec (b : List UInt8) (h : b.length ≤ 1000000) (h0 : 0 < b.length) : FC prog 35 [VB b] [] (.tup [.p (rdec b).1.pv, VT (rdec b).2]) [] := Go.DW.ref_decode hm ref33_uses ref25_Take ref33_reader_number ref33_decode b h h0
theorem c_rfeed (rest more : List UInt8) (h : rest.length + more.length ≤ 1000000000) : FC prog 18 [VB rest, VB more] [] (.tup [.p (.sl ((feedR wdec (rest ++ more)).1.map Msg.pv)), VB (feedR wdec (rest ++ more)).2.1, VI (feedR wdec (rest ++ more)).2.2]) [] :=
  Go.DW.ref_feedF hm (rd := rdec) (by rw [decs]; exact feedEq wdec) c_rdec rdec_host c_renc ref24_SameBytes ref33_Feed rest more h
theorem c_sameList (a b : List Msg) (ha : a.length ≤ 1000000000) (hb : b.length ≤ 1000000000) : FC prog 19 [.p (.sl (a.map Msg.pv)), .p (.sl (b.map Msg.pv))] [] (VT (a == b)) [] := Go.DW.ref_sameList hm ref24_SameBytes ref33_Same ref33_SameList a b ha hb
theorem c_stream (l : List UInt8) (a : Nat) (h : l.length ≤ 1000) (h0 : a ≤ l.length) : FC prog 16 [.ptr 1000 0 0] [(1000, some (cb l a))] (.tup [.p (.sl ((kStr l a).1.map Msg.pv)), VB ((kStr l a).1.flatMap enc)]) [(1000, some (cb l (kStr l a).2))] :=
  Go.DW.law_stream hm mill_Case_Int l (fun a h0 => c_message l a h h0) c_enc law33_stream a h h0
theorem c_feeds (codes raw rest : List UInt8) (at_ : Int) (by_ how : UInt8) (hr : raw.length ≤ 4000000) (hrs : rest.length ≤ 4000000) (hat : 0 ≤ at_ ∧ at_ < 65536) : FC prog 4 [VB codes, VB raw, VB rest, .p (.i .u16 at_), .p (B by_), .p (B how)] [] (VT true) [] :=
  Go.DW.law_feeds hm (F := feedR wdec) feedR_len mill_New c_stream c_feed c_rfeed c_sameList ref24_SameBytes c_begun law33_WireFeeds codes raw rest at_ by_ how hr hrs hat
theorem c_pieces (codes cuts : List UInt8) (hc : cuts.length ≤ 4000000) : FC prog 5 [VB codes, VB cuts] [] (VT true) [] :=
  Go.DW.law_pieces hm (feedEq wdec) mill_New c_stream c_feed c_sameList c_begun law33_WirePieces codes cuts hc
theorem c_back (codes raw : List UInt8) (hr : raw.length ≤ 4000000) : FC prog 6 [VB codes, VB raw] [] (VT true) [] :=
  Go.DW.law_back hm (feedEq wdec) mill_New c_message c_enc c_feed ref24_SameBytes (Go.DW.ref_same ref24_SameBytes ref33_Same) c_begun law33_WireBack codes raw hr
end Go.DW.Ok33
