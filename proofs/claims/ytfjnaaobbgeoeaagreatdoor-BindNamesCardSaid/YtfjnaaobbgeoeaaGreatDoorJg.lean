/-
  The seat's functions as the machine takes them.
-/
import Derived.Test.YtfjnaaobbgeoeaaGreatDoorJf
set_option maxRecDepth 100000
set_option linter.all false
namespace Go.Dk.Run
open Go Go.Dk
noncomputable section
/-- umlaut/umlautlaw20.BindRanks -/
def x3 : Ent := .code [⟨.d0, .d0, .d0⟩, ⟨.d0, .d0, .d1⟩, ⟨.d0, .d0, .d2⟩, ⟨.d0, .d0, .d3⟩]
 (.seq (.ops [⟨(some ⟨.d0, .d1, .d0⟩), none, .mv (.c (.bool false))⟩])
 (.seq (.ops [⟨(some ⟨.d0, .d3, .d3⟩), none, .callF ⟨.d0, .d0, .d6⟩ []⟩,
  ⟨(some ⟨.d0, .d3, .d2⟩), none, .mv (.t ⟨.d0, .d3, .d3⟩)⟩,
  ⟨(some ⟨.d0, .d3, .d4⟩), none, .ext (.t ⟨.d0, .d3, .d2⟩) 0⟩,
  ⟨(some ⟨.d0, .d3, .d5⟩), none, .ext (.t ⟨.d0, .d3, .d2⟩) 1⟩,
  ⟨(some ⟨.d0, .d1, .d1⟩), none, .mv (.t ⟨.d0, .d3, .d4⟩)⟩,
  ⟨(some ⟨.d0, .d1, .d2⟩), none, .mv (.t ⟨.d0, .d3, .d5⟩)⟩])
 (.seq (.ops [⟨(some ⟨.d0, .d3, .d6⟩), none, .callF ⟨.d0, .d0, .d7⟩ []⟩,
  ⟨(some ⟨.d0, .d1, .d3⟩), none, .mv (.t ⟨.d0, .d3, .d6⟩)⟩])
 (.seq (.seq (.ops [⟨(some ⟨.d0, .d3, .d7⟩), none, .mv (.t ⟨.d0, .d1, .d3⟩)⟩,
  ⟨(some ⟨.d0, .d4, .d0⟩), none, .eq false .ptr (.t ⟨.d0, .d3, .d7⟩) (.c .nilp)⟩])
 (.cond (.t ⟨.d0, .d4, .d0⟩) (.seq (.ops [⟨(some ⟨.d0, .d1, .d0⟩), none, .mv (.c (.bool false))⟩])
 .ret) .skip))
 (.seq (.ops [⟨(some ⟨.d0, .d4, .d1⟩), none, .buildS none 1 4 [(.str []), (.str []), (.str []), (.str [])] [(0, 1, (.c (.str [98]))), (1, 1, (.c (.str [99]))), (2, 1, (.c (.str [100]))), (3, 1, (.c (.str [102])))]⟩,
  ⟨(some ⟨.d0, .d1, .d4⟩), none, .mv (.t ⟨.d0, .d4, .d1⟩)⟩])
 (.seq (.ops [⟨(some ⟨.d0, .d4, .d2⟩), none, .buildS none 1 4 [(.str []), (.str []), (.str []), (.str [])] [(0, 1, (.c (.str [98, 105, 110, 97, 114, 121]))), (1, 1, (.c (.str [110, 111, 99, 97, 115, 101]))), (2, 1, (.c (.str [114, 111, 111, 116]))), (3, 1, (.c (.str [110, 111, 99, 97, 115, 101])))]⟩,
  ⟨(some ⟨.d0, .d1, .d5⟩), none, .mv (.t ⟨.d0, .d4, .d2⟩)⟩])
 (.seq (.ops [⟨(some ⟨.d0, .d4, .d3⟩), none, .buildS none 1 4 [(.str []), (.str []), (.str []), (.str [])] [(0, 1, (.c (.str []))), (1, 1, (.c (.str [98, 105, 110, 97, 114, 121]))), (2, 1, (.c (.str [110, 111, 99, 97, 115, 101]))), (3, 1, (.c (.str [114, 111, 111, 116])))]⟩,
  ⟨(some ⟨.d0, .d1, .d6⟩), none, .mv (.t ⟨.d0, .d4, .d3⟩)⟩])
 (.seq (.ops [⟨(some ⟨.d0, .d4, .d4⟩), none, .mv (.t ⟨.d0, .d0, .d0⟩)⟩,
  ⟨(some ⟨.d0, .d4, .d5⟩), none, .bin .and (.t ⟨.d0, .d4, .d4⟩) (.c (.int .i64 (.ofNat 3)))⟩,
  ⟨(some ⟨.d0, .d4, .d6⟩), none, .mv (.t ⟨.d0, .d0, .d1⟩)⟩,
  ⟨(some ⟨.d0, .d4, .d7⟩), none, .bin .and (.t ⟨.d0, .d4, .d6⟩) (.c (.int .i64 (.ofNat 3)))⟩,
  ⟨(some ⟨.d0, .d1, .d7⟩), none, .mv (.t ⟨.d0, .d4, .d5⟩)⟩,
  ⟨(some ⟨.d0, .d2, .d0⟩), none, .mv (.t ⟨.d0, .d4, .d7⟩)⟩])
 (.seq (.reg 0 [] [⟨(some ⟨.d0, .d5, .d0⟩), none, .mv (.t ⟨.d0, .d1, .d6⟩)⟩,
  ⟨(some ⟨.d0, .d5, .d1⟩), none, .mv (.t ⟨.d0, .d0, .d2⟩)⟩,
  ⟨(some ⟨.d0, .d5, .d2⟩), none, .bin .and (.t ⟨.d0, .d5, .d1⟩) (.c (.int .i64 (.ofNat 3)))⟩,
  ⟨(some ⟨.d0, .d5, .d3⟩), none, .idxA none 1 (.t ⟨.d0, .d5, .d0⟩) (.t ⟨.d0, .d5, .d2⟩)⟩,
  ⟨(some ⟨.d0, .d5, .d4⟩), none, .load none (.t ⟨.d0, .d5, .d3⟩)⟩,
  ⟨(some ⟨.d0, .d5, .d5⟩), none, .mv (.t ⟨.d0, .d1, .d6⟩)⟩,
  ⟨(some ⟨.d0, .d5, .d6⟩), none, .mv (.t ⟨.d0, .d0, .d3⟩)⟩,
  ⟨(some ⟨.d0, .d5, .d7⟩), none, .bin .and (.t ⟨.d0, .d5, .d6⟩) (.c (.int .i64 (.ofNat 3)))⟩,
  ⟨(some ⟨.d0, .d6, .d0⟩), none, .idxA none 1 (.t ⟨.d0, .d5, .d5⟩) (.t ⟨.d0, .d5, .d7⟩)⟩,
  ⟨(some ⟨.d0, .d6, .d1⟩), none, .load none (.t ⟨.d0, .d6, .d0⟩)⟩,
  ⟨(some ⟨.d0, .d2, .d1⟩), none, .mv (.t ⟨.d0, .d5, .d4⟩)⟩,
  ⟨(some ⟨.d0, .d2, .d2⟩), none, .mv (.t ⟨.d0, .d6, .d1⟩)⟩])
 (.seq (.ops [⟨(some ⟨.d0, .d2, .d3⟩), none, .mv (.c (.func 8 [] []))⟩])
 (.seq (.reg 2 [(14, [9])] [⟨(some ⟨.d0, .d6, .d3⟩), none, .mv (.t ⟨.d0, .d1, .d1⟩)⟩,
  ⟨(some ⟨.d0, .d6, .d4⟩), none, .build [.nils] [(0, 1, (.t ⟨.d0, .d6, .d3⟩))]⟩,
  ⟨(some ⟨.d0, .d6, .d5⟩), none, .mv (.t ⟨.d0, .d1, .d3⟩)⟩,
  ⟨(some ⟨.d0, .d6, .d6⟩), none, .mv (.t ⟨.d0, .d2, .d3⟩)⟩,
  ⟨(some ⟨.d0, .d6, .d7⟩), none, .mv (.t ⟨.d0, .d1, .d4⟩)⟩,
  ⟨(some ⟨.d0, .d7, .d0⟩), none, .mv (.t ⟨.d0, .d1, .d7⟩)⟩,
  ⟨(some ⟨.d0, .d7, .d1⟩), none, .idxA none 1 (.t ⟨.d0, .d6, .d7⟩) (.t ⟨.d0, .d7, .d0⟩)⟩,
  ⟨(some ⟨.d0, .d7, .d2⟩), none, .load none (.t ⟨.d0, .d7, .d1⟩)⟩,
  ⟨(some ⟨.d0, .d7, .d3⟩), none, .mv (.t ⟨.d0, .d2, .d1⟩)⟩,
  ⟨(some ⟨.d0, .d7, .d4⟩), none, .callV (.t ⟨.d0, .d6, .d6⟩) [(.t ⟨.d0, .d7, .d2⟩), (.t ⟨.d0, .d7, .d3⟩)]⟩,
  ⟨(some ⟨.d0, .d7, .d5⟩), none, .mv (.t ⟨.d0, .d2, .d3⟩)⟩,
  ⟨(some ⟨.d0, .d7, .d6⟩), none, .mv (.t ⟨.d0, .d1, .d4⟩)⟩,
  ⟨(some ⟨.d0, .d7, .d7⟩), none, .mv (.t ⟨.d0, .d2, .d0⟩)⟩,
  ⟨(some ⟨.d1, .d0, .d0⟩), none, .idxA none 1 (.t ⟨.d0, .d7, .d6⟩) (.t ⟨.d0, .d7, .d7⟩)⟩,
  ⟨(some ⟨.d1, .d0, .d1⟩), none, .load none (.t ⟨.d1, .d0, .d0⟩)⟩,
  ⟨(some ⟨.d1, .d0, .d2⟩), none, .mv (.t ⟨.d0, .d2, .d2⟩)⟩,
  ⟨(some ⟨.d1, .d0, .d3⟩), none, .callV (.t ⟨.d0, .d7, .d5⟩) [(.t ⟨.d1, .d0, .d1⟩), (.t ⟨.d1, .d0, .d2⟩)]⟩,
  ⟨(some ⟨.d1, .d0, .d4⟩), none, .buildS (some 0) 6 2 [(.int .i64 (.ofNat 0)), (.int .i64 (.ofNat 0)), (.str []), (.str []), (.int .i64 (.ofNat 0)), .nils, (.int .i64 (.ofNat 0)), (.int .i64 (.ofNat 0)), (.str []), (.str []), (.int .i64 (.ofNat 0)), .nils] [(0, 6, (.t ⟨.d0, .d7, .d4⟩)), (6, 6, (.t ⟨.d1, .d0, .d3⟩))]⟩,
  ⟨(some ⟨.d1, .d0, .d5⟩), none, .build [(.int .i64 (.ofNat 0)), (.int .i64 (.ofNat 0)), (.str []), (.str []), (.int .i64 (.ofNat 0)), .nils] [(0, 1, (.c (.int .i64 (.ofNat 6)))), (1, 1, (.c (.int .i64 (.ofNat 3)))), (5, 1, (.t ⟨.d1, .d0, .d4⟩))]⟩,
  ⟨(some ⟨.d1, .d0, .d6⟩), none, .callF ⟨.d0, .d1, .d1⟩ [(.t ⟨.d0, .d6, .d4⟩), (.t ⟨.d0, .d6, .d5⟩), (.t ⟨.d1, .d0, .d5⟩)]⟩,
  ⟨(some ⟨.d0, .d6, .d2⟩), none, .mv (.t ⟨.d1, .d0, .d6⟩)⟩,
  ⟨(some ⟨.d1, .d0, .d7⟩), none, .ext (.t ⟨.d0, .d6, .d2⟩) 0⟩,
  ⟨(some ⟨.d1, .d1, .d0⟩), none, .ext (.t ⟨.d0, .d6, .d2⟩) 1⟩,
  ⟨(some ⟨.d0, .d2, .d4⟩), none, .box (some 1) (.c (.agg [(.int .i64 (.ofNat 0)), (.int .i64 (.ofNat 0)), (.str []), (.str []), (.int .i64 (.ofNat 0)), .nils, (.int .i64 (.ofNat 0)), (.int .i64 (.ofNat 0)), (.str [])]))⟩,
  ⟨none, none, .store 9 (.t ⟨.d0, .d2, .d4⟩) (.t ⟨.d1, .d0, .d7⟩)⟩,
  ⟨(some ⟨.d0, .d2, .d5⟩), none, .mv (.t ⟨.d1, .d1, .d0⟩)⟩])
 (.seq (.ops [⟨(some ⟨.d0, .d2, .d6⟩), none, .mv (.c (.str []))⟩])
 (.seq (.block 0 (.seq (.ops [⟨(some ⟨.d1, .d1, .d2⟩), none, .mv (.t ⟨.d0, .d2, .d1⟩)⟩,
  ⟨(some ⟨.d1, .d1, .d3⟩), none, .bin .neq (.t ⟨.d1, .d1, .d2⟩) (.c (.str []))⟩,
  ⟨(some ⟨.d1, .d1, .d4⟩), none, .mv (.t ⟨.d1, .d1, .d3⟩)⟩,
  ⟨(some ⟨.d1, .d1, .d5⟩), (some (⟨.d1, .d1, .d4⟩, true)), .mv (.t ⟨.d0, .d2, .d2⟩)⟩,
  ⟨(some ⟨.d1, .d1, .d6⟩), (some (⟨.d1, .d1, .d4⟩, true)), .bin .neq (.t ⟨.d1, .d1, .d5⟩) (.c (.str []))⟩,
  ⟨(some ⟨.d1, .d1, .d7⟩), none, .pick (.t ⟨.d1, .d1, .d4⟩) (.t ⟨.d1, .d1, .d6⟩) (.c (.bool false))⟩,
  ⟨(some ⟨.d1, .d2, .d0⟩), none, .mv (.t ⟨.d1, .d1, .d7⟩)⟩,
  ⟨(some ⟨.d1, .d2, .d1⟩), (some (⟨.d1, .d2, .d0⟩, true)), .mv (.t ⟨.d0, .d2, .d1⟩)⟩,
  ⟨(some ⟨.d1, .d2, .d2⟩), (some (⟨.d1, .d2, .d0⟩, true)), .mv (.t ⟨.d0, .d2, .d2⟩)⟩,
  ⟨(some ⟨.d1, .d2, .d3⟩), (some (⟨.d1, .d2, .d0⟩, true)), .bin .neq (.t ⟨.d1, .d2, .d1⟩) (.t ⟨.d1, .d2, .d2⟩)⟩,
  ⟨(some ⟨.d1, .d2, .d4⟩), none, .pick (.t ⟨.d1, .d2, .d0⟩) (.t ⟨.d1, .d2, .d3⟩) (.c (.bool false))⟩,
  ⟨(some ⟨.d1, .d1, .d1⟩), none, .mv (.t ⟨.d1, .d2, .d4⟩)⟩])
 (.cond (.t ⟨.d1, .d1, .d1⟩) .skip (.seq (.ops [⟨(some ⟨.d1, .d2, .d6⟩), none, .mv (.t ⟨.d0, .d2, .d1⟩)⟩,
  ⟨(some ⟨.d1, .d2, .d7⟩), none, .bin .neq (.t ⟨.d1, .d2, .d6⟩) (.c (.str []))⟩,
  ⟨(some ⟨.d1, .d2, .d5⟩), none, .mv (.t ⟨.d1, .d2, .d7⟩)⟩])
 (.cond (.t ⟨.d1, .d2, .d5⟩) (.ops [⟨(some ⟨.d1, .d3, .d0⟩), none, .mv (.t ⟨.d0, .d2, .d1⟩)⟩,
  ⟨(some ⟨.d0, .d2, .d6⟩), none, .mv (.t ⟨.d1, .d3, .d0⟩)⟩]) (.seq (.ops [⟨(some ⟨.d1, .d3, .d2⟩), none, .mv (.t ⟨.d0, .d2, .d2⟩)⟩,
  ⟨(some ⟨.d1, .d3, .d3⟩), none, .bin .neq (.t ⟨.d1, .d3, .d2⟩) (.c (.str []))⟩,
  ⟨(some ⟨.d1, .d3, .d1⟩), none, .mv (.t ⟨.d1, .d3, .d3⟩)⟩])
 (.cond (.t ⟨.d1, .d3, .d1⟩) (.ops [⟨(some ⟨.d1, .d3, .d4⟩), none, .mv (.t ⟨.d0, .d2, .d2⟩)⟩,
  ⟨(some ⟨.d0, .d2, .d6⟩), none, .mv (.t ⟨.d1, .d3, .d4⟩)⟩]) (.seq (.reg 0 [] [⟨(some ⟨.d1, .d3, .d6⟩), none, .mv (.t ⟨.d0, .d1, .d5⟩)⟩,
  ⟨(some ⟨.d1, .d3, .d7⟩), none, .mv (.t ⟨.d0, .d1, .d7⟩)⟩,
  ⟨(some ⟨.d1, .d4, .d0⟩), none, .idxA none 1 (.t ⟨.d1, .d3, .d6⟩) (.t ⟨.d1, .d3, .d7⟩)⟩,
  ⟨(some ⟨.d1, .d4, .d1⟩), none, .load none (.t ⟨.d1, .d4, .d0⟩)⟩,
  ⟨(some ⟨.d1, .d4, .d2⟩), none, .mv (.t ⟨.d0, .d1, .d5⟩)⟩,
  ⟨(some ⟨.d1, .d4, .d3⟩), none, .mv (.t ⟨.d0, .d2, .d0⟩)⟩,
  ⟨(some ⟨.d1, .d4, .d4⟩), none, .idxA none 1 (.t ⟨.d1, .d4, .d2⟩) (.t ⟨.d1, .d4, .d3⟩)⟩,
  ⟨(some ⟨.d1, .d4, .d5⟩), none, .load none (.t ⟨.d1, .d4, .d4⟩)⟩,
  ⟨(some ⟨.d1, .d4, .d6⟩), none, .bin .eql (.t ⟨.d1, .d4, .d1⟩) (.t ⟨.d1, .d4, .d5⟩)⟩,
  ⟨(some ⟨.d1, .d3, .d5⟩), none, .mv (.t ⟨.d1, .d4, .d6⟩)⟩])
 (.cond (.t ⟨.d1, .d3, .d5⟩) (.ops [⟨(some ⟨.d1, .d4, .d7⟩), none, .mv (.t ⟨.d0, .d1, .d5⟩)⟩,
  ⟨(some ⟨.d1, .d5, .d0⟩), none, .mv (.t ⟨.d0, .d1, .d7⟩)⟩,
  ⟨(some ⟨.d1, .d5, .d1⟩), none, .idxA none 1 (.t ⟨.d1, .d4, .d7⟩) (.t ⟨.d1, .d5, .d0⟩)⟩,
  ⟨(some ⟨.d1, .d5, .d2⟩), none, .load none (.t ⟨.d1, .d5, .d1⟩)⟩,
  ⟨(some ⟨.d0, .d2, .d6⟩), none, .mv (.t ⟨.d1, .d5, .d2⟩)⟩]) .skip)))))))))
 (.seq (.seq (.ops [⟨(some ⟨.d1, .d5, .d3⟩), none, .mv (.t ⟨.d0, .d2, .d6⟩)⟩,
  ⟨(some ⟨.d1, .d5, .d4⟩), none, .bin .eql (.t ⟨.d1, .d5, .d3⟩) (.c (.str []))⟩])
 (.cond (.t ⟨.d1, .d5, .d4⟩) (.seq (.ops [⟨(some ⟨.d1, .d5, .d5⟩), none, .mv (.t ⟨.d0, .d2, .d5⟩)⟩,
  ⟨(some ⟨.d1, .d5, .d6⟩), none, .bin .eql (.t ⟨.d1, .d5, .d5⟩) (.c (.int .i64 (.ofNat 13)))⟩,
  ⟨(some ⟨.d1, .d5, .d7⟩), none, .mv (.t ⟨.d1, .d5, .d6⟩)⟩,
  ⟨(some ⟨.d1, .d6, .d0⟩), (some (⟨.d1, .d5, .d7⟩, true)), .fieldA 6 (.t ⟨.d0, .d2, .d4⟩)⟩,
  ⟨(some ⟨.d1, .d6, .d1⟩), (some (⟨.d1, .d5, .d7⟩, true)), .load none (.t ⟨.d1, .d6, .d0⟩)⟩,
  ⟨(some ⟨.d1, .d6, .d2⟩), (some (⟨.d1, .d5, .d7⟩, true)), .bin .eql (.t ⟨.d1, .d6, .d1⟩) (.c (.int .i64 (.ofNat 0)))⟩,
  ⟨(some ⟨.d1, .d6, .d3⟩), none, .pick (.t ⟨.d1, .d5, .d7⟩) (.t ⟨.d1, .d6, .d2⟩) (.c (.bool false))⟩,
  ⟨(some ⟨.d1, .d6, .d4⟩), none, .mv (.t ⟨.d1, .d6, .d3⟩)⟩,
  ⟨(some ⟨.d1, .d6, .d5⟩), (some (⟨.d1, .d6, .d4⟩, true)), .callF ⟨.d0, .d1, .d2⟩ []⟩,
  ⟨(some ⟨.d1, .d6, .d6⟩), none, .pick (.t ⟨.d1, .d6, .d4⟩) (.t ⟨.d1, .d6, .d5⟩) (.c (.bool false))⟩,
  ⟨(some ⟨.d0, .d1, .d0⟩), none, .mv (.t ⟨.d1, .d6, .d6⟩)⟩])
 .ret) .skip))
 (.seq (.ops [⟨(some ⟨.d1, .d7, .d0⟩), none, .mv (.t ⟨.d0, .d1, .d1⟩)⟩,
  ⟨(some ⟨.d1, .d7, .d1⟩), none, .build [.nils] [(0, 1, (.t ⟨.d1, .d7, .d0⟩))]⟩,
  ⟨(some ⟨.d1, .d7, .d2⟩), none, .mv (.t ⟨.d0, .d1, .d3⟩)⟩,
  ⟨(some ⟨.d1, .d7, .d3⟩), none, .mv (.t ⟨.d0, .d2, .d3⟩)⟩,
  ⟨(some ⟨.d1, .d7, .d4⟩), none, .mv (.t ⟨.d0, .d1, .d4⟩)⟩,
  ⟨(some ⟨.d1, .d7, .d5⟩), none, .mv (.t ⟨.d0, .d1, .d7⟩)⟩,
  ⟨(some ⟨.d1, .d7, .d6⟩), none, .idxA none 1 (.t ⟨.d1, .d7, .d4⟩) (.t ⟨.d1, .d7, .d5⟩)⟩,
  ⟨(some ⟨.d1, .d7, .d7⟩), none, .load none (.t ⟨.d1, .d7, .d6⟩)⟩,
  ⟨(some ⟨.d2, .d0, .d0⟩), none, .mv (.t ⟨.d0, .d2, .d1⟩)⟩,
  ⟨(some ⟨.d2, .d0, .d1⟩), none, .callV (.t ⟨.d1, .d7, .d3⟩) [(.t ⟨.d1, .d7, .d7⟩), (.t ⟨.d2, .d0, .d0⟩)]⟩,
  ⟨(some ⟨.d2, .d0, .d2⟩), none, .build [(.int .i64 (.ofNat 0)), (.int .i64 (.ofNat 0)), (.str []), (.str []), (.int .i64 (.ofNat 0)), .nils] [(0, 1, (.c (.int .i64 (.ofNat 3)))), (2, 1, (.c (.str [120])))]⟩,
  ⟨(some ⟨.d2, .d0, .d3⟩), none, .buildS none 6 2 [(.int .i64 (.ofNat 0)), (.int .i64 (.ofNat 0)), (.str []), (.str []), (.int .i64 (.ofNat 0)), .nils, (.int .i64 (.ofNat 0)), (.int .i64 (.ofNat 0)), (.str []), (.str []), (.int .i64 (.ofNat 0)), .nils] [(0, 6, (.t ⟨.d2, .d0, .d1⟩)), (6, 6, (.t ⟨.d2, .d0, .d2⟩))]⟩,
  ⟨(some ⟨.d2, .d0, .d4⟩), none, .build [(.int .i64 (.ofNat 0)), (.int .i64 (.ofNat 0)), (.str []), (.str []), (.int .i64 (.ofNat 0)), .nils] [(0, 1, (.c (.int .i64 (.ofNat 6)))), (1, 1, (.c (.int .i64 (.ofNat 3)))), (5, 1, (.t ⟨.d2, .d0, .d3⟩))]⟩,
  ⟨(some ⟨.d2, .d0, .d5⟩), none, .callF ⟨.d0, .d1, .d1⟩ [(.t ⟨.d1, .d7, .d1⟩), (.t ⟨.d1, .d7, .d2⟩), (.t ⟨.d2, .d0, .d4⟩)]⟩,
  ⟨(some ⟨.d1, .d6, .d7⟩), none, .mv (.t ⟨.d2, .d0, .d5⟩)⟩,
  ⟨(some ⟨.d2, .d0, .d6⟩), none, .ext (.t ⟨.d1, .d6, .d7⟩) 0⟩,
  ⟨(some ⟨.d2, .d0, .d7⟩), none, .ext (.t ⟨.d1, .d6, .d7⟩) 1⟩,
  ⟨(some ⟨.d0, .d2, .d7⟩), none, .box none (.c (.agg [(.int .i64 (.ofNat 0)), (.int .i64 (.ofNat 0)), (.str []), (.str []), (.int .i64 (.ofNat 0)), .nils, (.int .i64 (.ofNat 0)), (.int .i64 (.ofNat 0)), (.str [])]))⟩,
  ⟨none, none, .store 9 (.t ⟨.d0, .d2, .d7⟩) (.t ⟨.d2, .d0, .d6⟩)⟩,
  ⟨(some ⟨.d0, .d3, .d0⟩), none, .mv (.t ⟨.d2, .d0, .d7⟩)⟩])
 (.seq (.ops [⟨(some ⟨.d2, .d1, .d0⟩), none, .mv (.t ⟨.d0, .d2, .d1⟩)⟩,
  ⟨(some ⟨.d0, .d3, .d1⟩), none, .mv (.t ⟨.d2, .d1, .d0⟩)⟩])
 (.seq (.seq (.ops [⟨(some ⟨.d2, .d1, .d1⟩), none, .mv (.t ⟨.d0, .d3, .d1⟩)⟩,
  ⟨(some ⟨.d2, .d1, .d2⟩), none, .bin .eql (.t ⟨.d2, .d1, .d1⟩) (.c (.str []))⟩])
 (.cond (.t ⟨.d2, .d1, .d2⟩) (.ops [⟨(some ⟨.d2, .d1, .d3⟩), none, .mv (.t ⟨.d0, .d1, .d5⟩)⟩,
  ⟨(some ⟨.d2, .d1, .d4⟩), none, .mv (.t ⟨.d0, .d1, .d7⟩)⟩,
  ⟨(some ⟨.d2, .d1, .d5⟩), none, .idxA none 1 (.t ⟨.d2, .d1, .d3⟩) (.t ⟨.d2, .d1, .d4⟩)⟩,
  ⟨(some ⟨.d2, .d1, .d6⟩), none, .load none (.t ⟨.d2, .d1, .d5⟩)⟩,
  ⟨(some ⟨.d0, .d3, .d1⟩), none, .mv (.t ⟨.d2, .d1, .d6⟩)⟩]) .skip))
 (.seq (.ops [⟨(some ⟨.d2, .d1, .d7⟩), none, .mv (.t ⟨.d0, .d2, .d5⟩)⟩,
  ⟨(some ⟨.d2, .d2, .d0⟩), none, .bin .eql (.t ⟨.d2, .d1, .d7⟩) (.c (.int .i64 (.ofNat 0)))⟩,
  ⟨(some ⟨.d2, .d2, .d1⟩), none, .mv (.t ⟨.d2, .d2, .d0⟩)⟩,
  ⟨(some ⟨.d2, .d2, .d2⟩), (some (⟨.d2, .d2, .d1⟩, true)), .fieldA 0 (.t ⟨.d0, .d2, .d4⟩)⟩,
  ⟨(some ⟨.d2, .d2, .d3⟩), (some (⟨.d2, .d2, .d1⟩, true)), .fieldA 2 (.t ⟨.d2, .d2, .d2⟩)⟩,
  ⟨(some ⟨.d2, .d2, .d4⟩), (some (⟨.d2, .d2, .d1⟩, true)), .load none (.t ⟨.d2, .d2, .d3⟩)⟩,
  ⟨(some ⟨.d2, .d2, .d5⟩), (some (⟨.d2, .d2, .d1⟩, true)), .mv (.t ⟨.d0, .d2, .d6⟩)⟩,
  ⟨(some ⟨.d2, .d2, .d6⟩), (some (⟨.d2, .d2, .d1⟩, true)), .bin .eql (.t ⟨.d2, .d2, .d4⟩) (.t ⟨.d2, .d2, .d5⟩)⟩,
  ⟨(some ⟨.d2, .d2, .d7⟩), none, .pick (.t ⟨.d2, .d2, .d1⟩) (.t ⟨.d2, .d2, .d6⟩) (.c (.bool false))⟩,
  ⟨(some ⟨.d2, .d3, .d0⟩), none, .mv (.t ⟨.d2, .d2, .d7⟩)⟩,
  ⟨(some ⟨.d2, .d3, .d1⟩), (some (⟨.d2, .d3, .d0⟩, true)), .fieldA 6 (.t ⟨.d0, .d2, .d4⟩)⟩,
  ⟨(some ⟨.d2, .d3, .d2⟩), (some (⟨.d2, .d3, .d0⟩, true)), .load none (.t ⟨.d2, .d3, .d1⟩)⟩,
  ⟨(some ⟨.d2, .d3, .d3⟩), (some (⟨.d2, .d3, .d0⟩, true)), .bin .eql (.t ⟨.d2, .d3, .d2⟩) (.c (.int .i64 (.ofNat 1)))⟩,
  ⟨(some ⟨.d2, .d3, .d4⟩), none, .pick (.t ⟨.d2, .d3, .d0⟩) (.t ⟨.d2, .d3, .d3⟩) (.c (.bool false))⟩,
  ⟨(some ⟨.d2, .d3, .d5⟩), none, .mv (.t ⟨.d2, .d3, .d4⟩)⟩,
  ⟨(some ⟨.d2, .d3, .d6⟩), (some (⟨.d2, .d3, .d5⟩, true)), .mv (.t ⟨.d0, .d3, .d0⟩)⟩,
  ⟨(some ⟨.d2, .d3, .d7⟩), (some (⟨.d2, .d3, .d5⟩, true)), .bin .eql (.t ⟨.d2, .d3, .d6⟩) (.c (.int .i64 (.ofNat 0)))⟩,
  ⟨(some ⟨.d2, .d4, .d0⟩), none, .pick (.t ⟨.d2, .d3, .d5⟩) (.t ⟨.d2, .d3, .d7⟩) (.c (.bool false))⟩,
  ⟨(some ⟨.d2, .d4, .d1⟩), none, .mv (.t ⟨.d2, .d4, .d0⟩)⟩,
  ⟨(some ⟨.d2, .d4, .d2⟩), (some (⟨.d2, .d4, .d1⟩, true)), .fieldA 0 (.t ⟨.d0, .d2, .d7⟩)⟩,
  ⟨(some ⟨.d2, .d4, .d3⟩), (some (⟨.d2, .d4, .d1⟩, true)), .fieldA 2 (.t ⟨.d2, .d4, .d2⟩)⟩,
  ⟨(some ⟨.d2, .d4, .d4⟩), (some (⟨.d2, .d4, .d1⟩, true)), .load none (.t ⟨.d2, .d4, .d3⟩)⟩,
  ⟨(some ⟨.d2, .d4, .d5⟩), (some (⟨.d2, .d4, .d1⟩, true)), .mv (.t ⟨.d0, .d3, .d1⟩)⟩,
  ⟨(some ⟨.d2, .d4, .d6⟩), (some (⟨.d2, .d4, .d1⟩, true)), .bin .eql (.t ⟨.d2, .d4, .d4⟩) (.t ⟨.d2, .d4, .d5⟩)⟩,
  ⟨(some ⟨.d2, .d4, .d7⟩), none, .pick (.t ⟨.d2, .d4, .d1⟩) (.t ⟨.d2, .d4, .d6⟩) (.c (.bool false))⟩,
  ⟨(some ⟨.d2, .d5, .d0⟩), none, .mv (.t ⟨.d2, .d4, .d7⟩)⟩,
  ⟨(some ⟨.d2, .d5, .d1⟩), (some (⟨.d2, .d5, .d0⟩, true)), .callF ⟨.d0, .d1, .d2⟩ []⟩,
  ⟨(some ⟨.d2, .d5, .d2⟩), none, .pick (.t ⟨.d2, .d5, .d0⟩) (.t ⟨.d2, .d5, .d1⟩) (.c (.bool false))⟩,
  ⟨(some ⟨.d0, .d1, .d0⟩), none, .mv (.t ⟨.d2, .d5, .d2⟩)⟩])
 .ret))))))))))))))))))
 [.tmp ⟨.d0, .d1, .d0⟩]
/-- umlaut/umlautlaw20.BindCombines -/
def x4 : Ent := .code [⟨.d0, .d0, .d0⟩, ⟨.d0, .d0, .d1⟩]
 (.seq (.ops [⟨(some ⟨.d0, .d0, .d2⟩), none, .box none (.t ⟨.d0, .d0, .d0⟩)⟩,
  ⟨(some ⟨.d0, .d0, .d3⟩), none, .box none (.t ⟨.d0, .d0, .d1⟩)⟩,
  ⟨(some ⟨.d0, .d0, .d4⟩), none, .mv (.c (.bool false))⟩])
 (.seq (.seq (.ops [⟨(some ⟨.d0, .d1, .d1⟩), none, .fieldA 0 (.t ⟨.d0, .d0, .d2⟩)⟩,
  ⟨(some ⟨.d0, .d1, .d2⟩), none, .load none (.t ⟨.d0, .d1, .d1⟩)⟩,
  ⟨(some ⟨.d0, .d1, .d3⟩), none, .bin .lss (.t ⟨.d0, .d1, .d2⟩) (.c (.int .i64 (.ofNat 0)))⟩,
  ⟨(some ⟨.d0, .d1, .d4⟩), none, .mv (.t ⟨.d0, .d1, .d3⟩)⟩,
  ⟨(some ⟨.d0, .d1, .d5⟩), (some (⟨.d0, .d1, .d4⟩, false)), .fieldA 0 (.t ⟨.d0, .d0, .d2⟩)⟩,
  ⟨(some ⟨.d0, .d1, .d6⟩), (some (⟨.d0, .d1, .d4⟩, false)), .load none (.t ⟨.d0, .d1, .d5⟩)⟩,
  ⟨(some ⟨.d0, .d1, .d7⟩), (some (⟨.d0, .d1, .d4⟩, false)), .bin .gtr (.t ⟨.d0, .d1, .d6⟩) (.c (.int .i64 (.ofNat 3)))⟩,
  ⟨(some ⟨.d0, .d2, .d0⟩), none, .pick (.t ⟨.d0, .d1, .d4⟩) (.c (.bool true)) (.t ⟨.d0, .d1, .d7⟩)⟩,
  ⟨(some ⟨.d0, .d2, .d1⟩), none, .mv (.t ⟨.d0, .d2, .d0⟩)⟩,
  ⟨(some ⟨.d0, .d2, .d2⟩), (some (⟨.d0, .d2, .d1⟩, false)), .fieldA 0 (.t ⟨.d0, .d0, .d3⟩)⟩,
  ⟨(some ⟨.d0, .d2, .d3⟩), (some (⟨.d0, .d2, .d1⟩, false)), .load none (.t ⟨.d0, .d2, .d2⟩)⟩,
  ⟨(some ⟨.d0, .d2, .d4⟩), (some (⟨.d0, .d2, .d1⟩, false)), .bin .lss (.t ⟨.d0, .d2, .d3⟩) (.c (.int .i64 (.ofNat 0)))⟩,
  ⟨(some ⟨.d0, .d2, .d5⟩), none, .pick (.t ⟨.d0, .d2, .d1⟩) (.c (.bool true)) (.t ⟨.d0, .d2, .d4⟩)⟩,
  ⟨(some ⟨.d0, .d2, .d6⟩), none, .mv (.t ⟨.d0, .d2, .d5⟩)⟩,
  ⟨(some ⟨.d0, .d2, .d7⟩), (some (⟨.d0, .d2, .d6⟩, false)), .fieldA 0 (.t ⟨.d0, .d0, .d3⟩)⟩,
  ⟨(some ⟨.d0, .d3, .d0⟩), (some (⟨.d0, .d2, .d6⟩, false)), .load none (.t ⟨.d0, .d2, .d7⟩)⟩,
  ⟨(some ⟨.d0, .d3, .d1⟩), (some (⟨.d0, .d2, .d6⟩, false)), .bin .gtr (.t ⟨.d0, .d3, .d0⟩) (.c (.int .i64 (.ofNat 3)))⟩,
  ⟨(some ⟨.d0, .d3, .d2⟩), none, .pick (.t ⟨.d0, .d2, .d6⟩) (.c (.bool true)) (.t ⟨.d0, .d3, .d1⟩)⟩,
  ⟨(some ⟨.d0, .d3, .d3⟩), none, .mv (.t ⟨.d0, .d3, .d2⟩)⟩,
  ⟨(some ⟨.d0, .d3, .d4⟩), (some (⟨.d0, .d3, .d3⟩, false)), .fieldA 0 (.t ⟨.d0, .d0, .d2⟩)⟩,
  ⟨(some ⟨.d0, .d3, .d5⟩), (some (⟨.d0, .d3, .d3⟩, false)), .load none (.t ⟨.d0, .d3, .d4⟩)⟩,
  ⟨(some ⟨.d0, .d3, .d6⟩), (some (⟨.d0, .d3, .d3⟩, false)), .bin .eql (.t ⟨.d0, .d3, .d5⟩) (.c (.int .i64 (.ofNat 2)))⟩,
  ⟨(some ⟨.d0, .d3, .d7⟩), (some (⟨.d0, .d3, .d3⟩, false)), .mv (.t ⟨.d0, .d3, .d6⟩)⟩,
  ⟨(some ⟨.d0, .d4, .d0⟩), (some (⟨.d0, .d3, .d7⟩, true)), .fieldA 1 (.t ⟨.d0, .d0, .d2⟩)⟩,
  ⟨(some ⟨.d0, .d4, .d1⟩), (some (⟨.d0, .d3, .d7⟩, true)), .load none (.t ⟨.d0, .d4, .d0⟩)⟩,
  ⟨(some ⟨.d0, .d4, .d2⟩), (some (⟨.d0, .d3, .d7⟩, true)), .bin .neq (.t ⟨.d0, .d4, .d1⟩) (.c (.str []))⟩,
  ⟨(some ⟨.d0, .d4, .d3⟩), (some (⟨.d0, .d3, .d3⟩, false)), .pick (.t ⟨.d0, .d3, .d7⟩) (.t ⟨.d0, .d4, .d2⟩) (.c (.bool false))⟩,
  ⟨(some ⟨.d0, .d4, .d4⟩), none, .pick (.t ⟨.d0, .d3, .d3⟩) (.c (.bool true)) (.t ⟨.d0, .d4, .d3⟩)⟩,
  ⟨(some ⟨.d0, .d4, .d5⟩), none, .mv (.t ⟨.d0, .d4, .d4⟩)⟩,
  ⟨(some ⟨.d0, .d4, .d6⟩), (some (⟨.d0, .d4, .d5⟩, false)), .fieldA 0 (.t ⟨.d0, .d0, .d3⟩)⟩,
  ⟨(some ⟨.d0, .d4, .d7⟩), (some (⟨.d0, .d4, .d5⟩, false)), .load none (.t ⟨.d0, .d4, .d6⟩)⟩,
  ⟨(some ⟨.d0, .d5, .d0⟩), (some (⟨.d0, .d4, .d5⟩, false)), .bin .eql (.t ⟨.d0, .d4, .d7⟩) (.c (.int .i64 (.ofNat 2)))⟩,
  ⟨(some ⟨.d0, .d5, .d1⟩), (some (⟨.d0, .d4, .d5⟩, false)), .mv (.t ⟨.d0, .d5, .d0⟩)⟩,
  ⟨(some ⟨.d0, .d5, .d2⟩), (some (⟨.d0, .d5, .d1⟩, true)), .fieldA 1 (.t ⟨.d0, .d0, .d3⟩)⟩,
  ⟨(some ⟨.d0, .d5, .d3⟩), (some (⟨.d0, .d5, .d1⟩, true)), .load none (.t ⟨.d0, .d5, .d2⟩)⟩,
  ⟨(some ⟨.d0, .d5, .d4⟩), (some (⟨.d0, .d5, .d1⟩, true)), .bin .neq (.t ⟨.d0, .d5, .d3⟩) (.c (.str []))⟩,
  ⟨(some ⟨.d0, .d5, .d5⟩), (some (⟨.d0, .d4, .d5⟩, false)), .pick (.t ⟨.d0, .d5, .d1⟩) (.t ⟨.d0, .d5, .d4⟩) (.c (.bool false))⟩,
  ⟨(some ⟨.d0, .d5, .d6⟩), none, .pick (.t ⟨.d0, .d4, .d5⟩) (.c (.bool true)) (.t ⟨.d0, .d5, .d5⟩)⟩,
  ⟨(some ⟨.d0, .d5, .d7⟩), none, .mv (.t ⟨.d0, .d5, .d6⟩)⟩,
  ⟨(some ⟨.d0, .d6, .d0⟩), (some (⟨.d0, .d5, .d7⟩, false)), .fieldA 0 (.t ⟨.d0, .d0, .d2⟩)⟩,
  ⟨(some ⟨.d0, .d6, .d1⟩), (some (⟨.d0, .d5, .d7⟩, false)), .load none (.t ⟨.d0, .d6, .d0⟩)⟩,
  ⟨(some ⟨.d0, .d6, .d2⟩), (some (⟨.d0, .d5, .d7⟩, false)), .bin .eql (.t ⟨.d0, .d6, .d1⟩) (.c (.int .i64 (.ofNat 0)))⟩,
  ⟨(some ⟨.d0, .d6, .d3⟩), (some (⟨.d0, .d5, .d7⟩, false)), .mv (.t ⟨.d0, .d6, .d2⟩)⟩,
  ⟨(some ⟨.d0, .d6, .d4⟩), (some (⟨.d0, .d6, .d3⟩, true)), .fieldA 1 (.t ⟨.d0, .d0, .d2⟩)⟩,
  ⟨(some ⟨.d0, .d6, .d5⟩), (some (⟨.d0, .d6, .d3⟩, true)), .load none (.t ⟨.d0, .d6, .d4⟩)⟩,
  ⟨(some ⟨.d0, .d6, .d6⟩), (some (⟨.d0, .d6, .d3⟩, true)), .bin .neq (.t ⟨.d0, .d6, .d5⟩) (.c (.str [98, 105, 110, 97, 114, 121]))⟩,
  ⟨(some ⟨.d0, .d6, .d7⟩), (some (⟨.d0, .d5, .d7⟩, false)), .pick (.t ⟨.d0, .d6, .d3⟩) (.t ⟨.d0, .d6, .d6⟩) (.c (.bool false))⟩,
  ⟨(some ⟨.d0, .d7, .d0⟩), none, .pick (.t ⟨.d0, .d5, .d7⟩) (.c (.bool true)) (.t ⟨.d0, .d6, .d7⟩)⟩,
  ⟨(some ⟨.d0, .d7, .d1⟩), none, .mv (.t ⟨.d0, .d7, .d0⟩)⟩,
  ⟨(some ⟨.d0, .d7, .d2⟩), (some (⟨.d0, .d7, .d1⟩, false)), .fieldA 0 (.t ⟨.d0, .d0, .d3⟩)⟩,
  ⟨(some ⟨.d0, .d7, .d3⟩), (some (⟨.d0, .d7, .d1⟩, false)), .load none (.t ⟨.d0, .d7, .d2⟩)⟩,
  ⟨(some ⟨.d0, .d7, .d4⟩), (some (⟨.d0, .d7, .d1⟩, false)), .bin .eql (.t ⟨.d0, .d7, .d3⟩) (.c (.int .i64 (.ofNat 0)))⟩,
  ⟨(some ⟨.d0, .d7, .d5⟩), (some (⟨.d0, .d7, .d1⟩, false)), .mv (.t ⟨.d0, .d7, .d4⟩)⟩,
  ⟨(some ⟨.d0, .d7, .d6⟩), (some (⟨.d0, .d7, .d5⟩, true)), .fieldA 1 (.t ⟨.d0, .d0, .d3⟩)⟩,
  ⟨(some ⟨.d0, .d7, .d7⟩), (some (⟨.d0, .d7, .d5⟩, true)), .load none (.t ⟨.d0, .d7, .d6⟩)⟩,
  ⟨(some ⟨.d1, .d0, .d0⟩), (some (⟨.d0, .d7, .d5⟩, true)), .bin .neq (.t ⟨.d0, .d7, .d7⟩) (.c (.str [98, 105, 110, 97, 114, 121]))⟩,
  ⟨(some ⟨.d1, .d0, .d1⟩), (some (⟨.d0, .d7, .d1⟩, false)), .pick (.t ⟨.d0, .d7, .d5⟩) (.t ⟨.d1, .d0, .d0⟩) (.c (.bool false))⟩,
  ⟨(some ⟨.d1, .d0, .d2⟩), none, .pick (.t ⟨.d0, .d7, .d1⟩) (.c (.bool true)) (.t ⟨.d1, .d0, .d1⟩)⟩])
 (.cond (.t ⟨.d1, .d0, .d2⟩) (.seq (.ops [⟨(some ⟨.d1, .d0, .d3⟩), none, .callF ⟨.d0, .d1, .d2⟩ []⟩,
  ⟨(some ⟨.d0, .d0, .d4⟩), none, .mv (.t ⟨.d1, .d0, .d3⟩)⟩])
 .ret) .skip))
 (.seq (.ops [⟨(some ⟨.d1, .d0, .d5⟩), none, .load (some 2) (.t ⟨.d0, .d0, .d2⟩)⟩,
  ⟨(some ⟨.d1, .d0, .d6⟩), none, .load (some 2) (.t ⟨.d0, .d0, .d3⟩)⟩,
  ⟨(some ⟨.d1, .d0, .d7⟩), none, .callF ⟨.d0, .d1, .d3⟩ [(.t ⟨.d1, .d0, .d5⟩), (.t ⟨.d1, .d0, .d6⟩)]⟩,
  ⟨(some ⟨.d1, .d0, .d4⟩), none, .mv (.t ⟨.d1, .d0, .d7⟩)⟩,
  ⟨(some ⟨.d1, .d1, .d0⟩), none, .ext (.t ⟨.d1, .d0, .d4⟩) 0⟩,
  ⟨(some ⟨.d1, .d1, .d1⟩), none, .ext (.t ⟨.d1, .d0, .d4⟩) 1⟩,
  ⟨(some ⟨.d0, .d0, .d5⟩), none, .box none (.c (.agg [(.int .i64 (.ofNat 0)), (.str [])]))⟩,
  ⟨none, none, .store 2 (.t ⟨.d0, .d0, .d5⟩) (.t ⟨.d1, .d1, .d0⟩)⟩,
  ⟨(some ⟨.d0, .d0, .d6⟩), none, .mv (.t ⟨.d1, .d1, .d1⟩)⟩])
 (.seq (.ops [⟨(some ⟨.d1, .d1, .d3⟩), none, .load (some 2) (.t ⟨.d0, .d0, .d2⟩)⟩,
  ⟨(some ⟨.d1, .d1, .d4⟩), none, .load (some 2) (.t ⟨.d0, .d0, .d3⟩)⟩,
  ⟨(some ⟨.d1, .d1, .d5⟩), none, .callF ⟨.d0, .d1, .d4⟩ [(.t ⟨.d1, .d1, .d3⟩), (.t ⟨.d1, .d1, .d4⟩)]⟩,
  ⟨(some ⟨.d1, .d1, .d2⟩), none, .mv (.t ⟨.d1, .d1, .d5⟩)⟩,
  ⟨(some ⟨.d1, .d1, .d6⟩), none, .ext (.t ⟨.d1, .d1, .d2⟩) 0⟩,
  ⟨(some ⟨.d1, .d1, .d7⟩), none, .ext (.t ⟨.d1, .d1, .d2⟩) 1⟩,
  ⟨(some ⟨.d0, .d0, .d7⟩), none, .box none (.c (.agg [(.int .i64 (.ofNat 0)), (.str [])]))⟩,
  ⟨none, none, .store 2 (.t ⟨.d0, .d0, .d7⟩) (.t ⟨.d1, .d1, .d6⟩)⟩,
  ⟨(some ⟨.d0, .d1, .d0⟩), none, .mv (.t ⟨.d1, .d1, .d7⟩)⟩])
 (.seq (.ops [⟨(some ⟨.d1, .d2, .d0⟩), none, .load (some 2) (.t ⟨.d0, .d0, .d5⟩)⟩,
  ⟨(some ⟨.d1, .d2, .d1⟩), none, .load (some 2) (.t ⟨.d0, .d0, .d7⟩)⟩,
  ⟨(some ⟨.d1, .d2, .d2⟩), none, .eq false (.flat [.i, .s]) (.t ⟨.d1, .d2, .d0⟩) (.t ⟨.d1, .d2, .d1⟩)⟩,
  ⟨(some ⟨.d1, .d2, .d3⟩), none, .mv (.t ⟨.d1, .d2, .d2⟩)⟩,
  ⟨(some ⟨.d1, .d2, .d4⟩), (some (⟨.d1, .d2, .d3⟩, true)), .mv (.t ⟨.d0, .d0, .d6⟩)⟩,
  ⟨(some ⟨.d1, .d2, .d5⟩), (some (⟨.d1, .d2, .d3⟩, true)), .mv (.t ⟨.d0, .d1, .d0⟩)⟩,
  ⟨(some ⟨.d1, .d2, .d6⟩), (some (⟨.d1, .d2, .d3⟩, true)), .bin .eql (.t ⟨.d1, .d2, .d4⟩) (.t ⟨.d1, .d2, .d5⟩)⟩,
  ⟨(some ⟨.d1, .d2, .d7⟩), none, .pick (.t ⟨.d1, .d2, .d3⟩) (.t ⟨.d1, .d2, .d6⟩) (.c (.bool false))⟩,
  ⟨(some ⟨.d1, .d3, .d0⟩), none, .mv (.t ⟨.d1, .d2, .d7⟩)⟩,
  ⟨(some ⟨.d1, .d3, .d1⟩), (some (⟨.d1, .d3, .d0⟩, true)), .callF ⟨.d0, .d1, .d2⟩ []⟩,
  ⟨(some ⟨.d1, .d3, .d2⟩), none, .pick (.t ⟨.d1, .d3, .d0⟩) (.t ⟨.d1, .d3, .d1⟩) (.c (.bool false))⟩,
  ⟨(some ⟨.d0, .d0, .d4⟩), none, .mv (.t ⟨.d1, .d3, .d2⟩)⟩])
 .ret)))))
 [.tmp ⟨.d0, .d0, .d4⟩]
/-- umlaut/umlautlaw20.BindNames -/
def x5 : Ent := .code [⟨.d0, .d0, .d0⟩, ⟨.d0, .d0, .d1⟩]
 (.seq (.ops [⟨(some ⟨.d0, .d0, .d4⟩), none, .mv (.c (.bool false))⟩])
 (.seq (.ops [⟨(some ⟨.d0, .d2, .d3⟩), none, .callF ⟨.d0, .d0, .d6⟩ []⟩,
  ⟨(some ⟨.d0, .d2, .d2⟩), none, .mv (.t ⟨.d0, .d2, .d3⟩)⟩,
  ⟨(some ⟨.d0, .d2, .d4⟩), none, .ext (.t ⟨.d0, .d2, .d2⟩) 0⟩,
  ⟨(some ⟨.d0, .d2, .d5⟩), none, .ext (.t ⟨.d0, .d2, .d2⟩) 1⟩,
  ⟨(some ⟨.d0, .d0, .d5⟩), none, .mv (.t ⟨.d0, .d2, .d4⟩)⟩,
  ⟨(some ⟨.d0, .d0, .d6⟩), none, .mv (.t ⟨.d0, .d2, .d5⟩)⟩])
 (.seq (.ops [⟨(some ⟨.d0, .d2, .d6⟩), none, .callF ⟨.d0, .d0, .d7⟩ []⟩,
  ⟨(some ⟨.d0, .d0, .d7⟩), none, .mv (.t ⟨.d0, .d2, .d6⟩)⟩])
 (.seq (.seq (.ops [⟨(some ⟨.d0, .d2, .d7⟩), none, .mv (.t ⟨.d0, .d0, .d7⟩)⟩,
  ⟨(some ⟨.d0, .d3, .d0⟩), none, .eq false .ptr (.t ⟨.d0, .d2, .d7⟩) (.c .nilp)⟩])
 (.cond (.t ⟨.d0, .d3, .d0⟩) (.seq (.ops [⟨(some ⟨.d0, .d0, .d4⟩), none, .mv (.c (.bool false))⟩])
 .ret) .skip))
 (.seq (.reg 2 [(4, [12]), (521, [3, 8])] [⟨(some ⟨.d0, .d3, .d1⟩), none, .mv (.t ⟨.d0, .d0, .d0⟩)⟩,
  ⟨(some ⟨.d0, .d3, .d2⟩), none, .bin .rem (.t ⟨.d0, .d3, .d1⟩) (.c (.int .u8 (.ofNat 8)))⟩,
  ⟨(some ⟨.d0, .d3, .d3⟩), none, .bin .add (.c (.int .u8 (.ofNat 97))) (.t ⟨.d0, .d3, .d2⟩)⟩,
  ⟨(some ⟨.d0, .d3, .d4⟩), none, .buildS (some 0) 1 1 [(.int .u8 (.ofNat 0))] [(0, 1, (.t ⟨.d0, .d3, .d3⟩))]⟩,
  ⟨(some ⟨.d0, .d3, .d5⟩), none, .convBS (.t ⟨.d0, .d3, .d4⟩)⟩,
  ⟨(some ⟨.d0, .d3, .d6⟩), none, .mv (.t ⟨.d0, .d0, .d1⟩)⟩,
  ⟨(some ⟨.d0, .d3, .d7⟩), none, .bin .rem (.t ⟨.d0, .d3, .d6⟩) (.c (.int .u8 (.ofNat 4)))⟩,
  ⟨(some ⟨.d0, .d4, .d0⟩), none, .bin .add (.c (.int .u8 (.ofNat 115))) (.t ⟨.d0, .d3, .d7⟩)⟩,
  ⟨(some ⟨.d0, .d4, .d1⟩), none, .buildS (some 1) 1 1 [(.int .u8 (.ofNat 0))] [(0, 1, (.t ⟨.d0, .d4, .d0⟩))]⟩,
  ⟨(some ⟨.d0, .d4, .d2⟩), none, .convBS (.t ⟨.d0, .d4, .d1⟩)⟩,
  ⟨(some ⟨.d0, .d1, .d0⟩), none, .mv (.t ⟨.d0, .d3, .d5⟩)⟩,
  ⟨(some ⟨.d0, .d1, .d1⟩), none, .mv (.t ⟨.d0, .d4, .d2⟩)⟩])
 (.seq (.ops [⟨(some ⟨.d0, .d1, .d2⟩), none, .mv (.c (.int .i64 (.ofNat 0)))⟩,
  ⟨(some ⟨.d0, .d1, .d3⟩), none, .mv (.c (.int .i64 (.ofNat 0)))⟩,
  ⟨(some ⟨.d0, .d1, .d4⟩), none, .mv (.c (.int .i64 (.negSucc 0)))⟩])
 (.seq (.seq (.ops [⟨(some ⟨.d0, .d1, .d5⟩), none, .mv (.c (.int .i64 (.ofNat 0)))⟩])
 (.block 0 (.loop (.seq (.seq (.ops [⟨(some ⟨.d0, .d4, .d3⟩), none, .mv (.t ⟨.d0, .d1, .d5⟩)⟩,
  ⟨(some ⟨.d0, .d4, .d4⟩), none, .mv (.t ⟨.d0, .d0, .d5⟩)⟩,
  ⟨(some ⟨.d0, .d4, .d5⟩), none, .len .sli (.t ⟨.d0, .d4, .d4⟩)⟩,
  ⟨(some ⟨.d0, .d4, .d6⟩), none, .bin .lss (.t ⟨.d0, .d4, .d3⟩) (.t ⟨.d0, .d4, .d5⟩)⟩])
 (.cond (.t ⟨.d0, .d4, .d6⟩) .skip (.exit 0)))
 (.seq (.block 1 (.seq (.ops [⟨(some ⟨.d0, .d5, .d1⟩), none, .mv (.t ⟨.d0, .d0, .d5⟩)⟩,
  ⟨(some ⟨.d0, .d5, .d2⟩), none, .mv (.t ⟨.d0, .d1, .d5⟩)⟩,
  ⟨(some ⟨.d0, .d5, .d3⟩), none, .idxA none 4 (.t ⟨.d0, .d5, .d1⟩) (.t ⟨.d0, .d5, .d2⟩)⟩,
  ⟨(some ⟨.d0, .d5, .d4⟩), none, .fieldA 1 (.t ⟨.d0, .d5, .d3⟩)⟩,
  ⟨(some ⟨.d0, .d5, .d5⟩), none, .load none (.t ⟨.d0, .d5, .d4⟩)⟩,
  ⟨(some ⟨.d0, .d5, .d6⟩), none, .mv (.t ⟨.d0, .d1, .d0⟩)⟩,
  ⟨(some ⟨.d0, .d5, .d7⟩), none, .bin .eql (.t ⟨.d0, .d5, .d5⟩) (.t ⟨.d0, .d5, .d6⟩)⟩])
 (.cond (.t ⟨.d0, .d5, .d7⟩) (.seq (.ops [⟨(some ⟨.d0, .d6, .d0⟩), none, .mv (.t ⟨.d0, .d1, .d2⟩)⟩,
  ⟨(some ⟨.d0, .d6, .d1⟩), none, .bin .add (.t ⟨.d0, .d6, .d0⟩) (.c (.int .i64 (.ofNat 1)))⟩,
  ⟨(some ⟨.d0, .d1, .d2⟩), none, .mv (.t ⟨.d0, .d6, .d1⟩)⟩])
 (.seq (.ops [⟨(some ⟨.d0, .d6, .d2⟩), none, .mv (.t ⟨.d0, .d0, .d5⟩)⟩,
  ⟨(some ⟨.d0, .d6, .d3⟩), none, .mv (.t ⟨.d0, .d1, .d5⟩)⟩,
  ⟨(some ⟨.d0, .d6, .d4⟩), none, .idxA none 4 (.t ⟨.d0, .d6, .d2⟩) (.t ⟨.d0, .d6, .d3⟩)⟩,
  ⟨(some ⟨.d0, .d6, .d5⟩), none, .fieldA 0 (.t ⟨.d0, .d6, .d4⟩)⟩,
  ⟨(some ⟨.d0, .d6, .d6⟩), none, .load none (.t ⟨.d0, .d6, .d5⟩)⟩,
  ⟨(some ⟨.d0, .d6, .d7⟩), none, .mv (.t ⟨.d0, .d1, .d1⟩)⟩,
  ⟨(some ⟨.d0, .d7, .d0⟩), none, .bin .eql (.t ⟨.d0, .d6, .d6⟩) (.t ⟨.d0, .d6, .d7⟩)⟩])
 (.cond (.t ⟨.d0, .d7, .d0⟩) (.seq (.ops [⟨(some ⟨.d0, .d7, .d1⟩), none, .mv (.t ⟨.d0, .d1, .d3⟩)⟩,
  ⟨(some ⟨.d0, .d7, .d2⟩), none, .bin .add (.t ⟨.d0, .d7, .d1⟩) (.c (.int .i64 (.ofNat 1)))⟩,
  ⟨(some ⟨.d0, .d1, .d3⟩), none, .mv (.t ⟨.d0, .d7, .d2⟩)⟩])
 (.ops [⟨(some ⟨.d0, .d7, .d3⟩), none, .mv (.t ⟨.d0, .d1, .d5⟩)⟩,
  ⟨(some ⟨.d0, .d1, .d4⟩), none, .mv (.t ⟨.d0, .d7, .d3⟩)⟩])) .skip))) .skip)))
 (.ops [⟨(some ⟨.d0, .d4, .d7⟩), none, .mv (.t ⟨.d0, .d1, .d5⟩)⟩,
  ⟨(some ⟨.d0, .d5, .d0⟩), none, .bin .add (.t ⟨.d0, .d4, .d7⟩) (.c (.int .i64 (.ofNat 1)))⟩,
  ⟨(some ⟨.d0, .d1, .d5⟩), none, .mv (.t ⟨.d0, .d5, .d0⟩)⟩]))))))
 (.seq (.ops [⟨(some ⟨.d0, .d7, .d5⟩), none, .mv (.t ⟨.d0, .d0, .d5⟩)⟩,
  ⟨(some ⟨.d0, .d7, .d6⟩), none, .build [.nils] [(0, 1, (.t ⟨.d0, .d7, .d5⟩))]⟩,
  ⟨(some ⟨.d0, .d7, .d7⟩), none, .mv (.t ⟨.d0, .d0, .d7⟩)⟩,
  ⟨(some ⟨.d1, .d0, .d0⟩), none, .mv (.t ⟨.d0, .d1, .d0⟩)⟩,
  ⟨(some ⟨.d1, .d0, .d1⟩), none, .build [(.int .i64 (.ofNat 0)), (.int .i64 (.ofNat 0)), (.str []), (.str []), (.int .i64 (.ofNat 0)), .nils] [(0, 1, (.c (.int .i64 (.ofNat 4)))), (2, 1, (.t ⟨.d1, .d0, .d0⟩))]⟩,
  ⟨(some ⟨.d1, .d0, .d2⟩), none, .callF ⟨.d0, .d1, .d1⟩ [(.t ⟨.d0, .d7, .d6⟩), (.t ⟨.d0, .d7, .d7⟩), (.t ⟨.d1, .d0, .d1⟩)]⟩,
  ⟨(some ⟨.d0, .d7, .d4⟩), none, .mv (.t ⟨.d1, .d0, .d2⟩)⟩,
  ⟨(some ⟨.d1, .d0, .d3⟩), none, .ext (.t ⟨.d0, .d7, .d4⟩) 0⟩,
  ⟨(some ⟨.d1, .d0, .d4⟩), none, .ext (.t ⟨.d0, .d7, .d4⟩) 1⟩,
  ⟨(some ⟨.d0, .d1, .d6⟩), none, .box none (.c (.agg [(.int .i64 (.ofNat 0)), (.int .i64 (.ofNat 0)), (.str []), (.str []), (.int .i64 (.ofNat 0)), .nils, (.int .i64 (.ofNat 0)), (.int .i64 (.ofNat 0)), (.str [])]))⟩,
  ⟨none, none, .store 9 (.t ⟨.d0, .d1, .d6⟩) (.t ⟨.d1, .d0, .d3⟩)⟩,
  ⟨(some ⟨.d0, .d1, .d7⟩), none, .mv (.t ⟨.d1, .d0, .d4⟩)⟩])
 (.seq (.ops [⟨(some ⟨.d1, .d0, .d6⟩), none, .mv (.t ⟨.d0, .d0, .d5⟩)⟩,
  ⟨(some ⟨.d1, .d0, .d7⟩), none, .build [.nils] [(0, 1, (.t ⟨.d1, .d0, .d6⟩))]⟩,
  ⟨(some ⟨.d1, .d1, .d0⟩), none, .mv (.t ⟨.d0, .d0, .d7⟩)⟩,
  ⟨(some ⟨.d1, .d1, .d1⟩), none, .mv (.t ⟨.d0, .d1, .d0⟩)⟩,
  ⟨(some ⟨.d1, .d1, .d2⟩), none, .mv (.t ⟨.d0, .d1, .d1⟩)⟩,
  ⟨(some ⟨.d1, .d1, .d3⟩), none, .build [(.int .i64 (.ofNat 0)), (.int .i64 (.ofNat 0)), (.str []), (.str []), (.int .i64 (.ofNat 0)), .nils] [(0, 1, (.c (.int .i64 (.ofNat 4)))), (2, 1, (.t ⟨.d1, .d1, .d1⟩)), (3, 1, (.t ⟨.d1, .d1, .d2⟩))]⟩,
  ⟨(some ⟨.d1, .d1, .d4⟩), none, .callF ⟨.d0, .d1, .d1⟩ [(.t ⟨.d1, .d0, .d7⟩), (.t ⟨.d1, .d1, .d0⟩), (.t ⟨.d1, .d1, .d3⟩)]⟩,
  ⟨(some ⟨.d1, .d0, .d5⟩), none, .mv (.t ⟨.d1, .d1, .d4⟩)⟩,
  ⟨(some ⟨.d1, .d1, .d5⟩), none, .ext (.t ⟨.d1, .d0, .d5⟩) 0⟩,
  ⟨(some ⟨.d1, .d1, .d6⟩), none, .ext (.t ⟨.d1, .d0, .d5⟩) 1⟩,
  ⟨(some ⟨.d0, .d2, .d0⟩), none, .box none (.c (.agg [(.int .i64 (.ofNat 0)), (.int .i64 (.ofNat 0)), (.str []), (.str []), (.int .i64 (.ofNat 0)), .nils, (.int .i64 (.ofNat 0)), (.int .i64 (.ofNat 0)), (.str [])]))⟩,
  ⟨none, none, .store 9 (.t ⟨.d0, .d2, .d0⟩) (.t ⟨.d1, .d1, .d5⟩)⟩,
  ⟨(some ⟨.d0, .d2, .d1⟩), none, .mv (.t ⟨.d1, .d1, .d6⟩)⟩])
 (.seq (.seq (.ops [⟨(some ⟨.d1, .d1, .d7⟩), none, .mv (.t ⟨.d0, .d1, .d7⟩)⟩,
  ⟨(some ⟨.d1, .d2, .d0⟩), none, .bin .eql (.t ⟨.d1, .d1, .d7⟩) (.c (.int .i64 (.ofNat 0)))⟩,
  ⟨(some ⟨.d1, .d2, .d1⟩), none, .mv (.t ⟨.d0, .d1, .d2⟩)⟩,
  ⟨(some ⟨.d1, .d2, .d2⟩), none, .bin .eql (.t ⟨.d1, .d2, .d1⟩) (.c (.int .i64 (.ofNat 1)))⟩,
  ⟨(some ⟨.d1, .d2, .d3⟩), none, .eq true .bool (.t ⟨.d1, .d2, .d0⟩) (.t ⟨.d1, .d2, .d2⟩)⟩,
  ⟨(some ⟨.d1, .d2, .d4⟩), none, .mv (.t ⟨.d1, .d2, .d3⟩)⟩,
  ⟨(some ⟨.d1, .d2, .d5⟩), (some (⟨.d1, .d2, .d4⟩, false)), .mv (.t ⟨.d0, .d2, .d1⟩)⟩,
  ⟨(some ⟨.d1, .d2, .d6⟩), (some (⟨.d1, .d2, .d4⟩, false)), .bin .eql (.t ⟨.d1, .d2, .d5⟩) (.c (.int .i64 (.ofNat 0)))⟩,
  ⟨(some ⟨.d1, .d2, .d7⟩), (some (⟨.d1, .d2, .d4⟩, false)), .mv (.t ⟨.d0, .d1, .d3⟩)⟩,
  ⟨(some ⟨.d1, .d3, .d0⟩), (some (⟨.d1, .d2, .d4⟩, false)), .bin .eql (.t ⟨.d1, .d2, .d7⟩) (.c (.int .i64 (.ofNat 1)))⟩,
  ⟨(some ⟨.d1, .d3, .d1⟩), (some (⟨.d1, .d2, .d4⟩, false)), .eq true .bool (.t ⟨.d1, .d2, .d6⟩) (.t ⟨.d1, .d3, .d0⟩)⟩,
  ⟨(some ⟨.d1, .d3, .d2⟩), none, .pick (.t ⟨.d1, .d2, .d4⟩) (.c (.bool true)) (.t ⟨.d1, .d3, .d1⟩)⟩])
 (.cond (.t ⟨.d1, .d3, .d2⟩) (.seq (.ops [⟨(some ⟨.d0, .d0, .d4⟩), none, .mv (.c (.bool false))⟩])
 .ret) .skip))
 (.seq (.reg 0 [] [⟨(some ⟨.d1, .d3, .d3⟩), none, .mv (.t ⟨.d0, .d2, .d1⟩)⟩,
  ⟨(some ⟨.d1, .d3, .d4⟩), none, .bin .neq (.t ⟨.d1, .d3, .d3⟩) (.c (.int .i64 (.ofNat 0)))⟩,
  ⟨(some ⟨.d1, .d3, .d5⟩), none, .mv (.t ⟨.d1, .d3, .d4⟩)⟩,
  ⟨(some ⟨.d1, .d3, .d6⟩), (some (⟨.d1, .d3, .d5⟩, true)), .mv (.t ⟨.d0, .d2, .d1⟩)⟩,
  ⟨(some ⟨.d1, .d3, .d7⟩), (some (⟨.d1, .d3, .d5⟩, true)), .bin .eql (.t ⟨.d1, .d3, .d6⟩) (.c (.int .i64 (.ofNat 11)))⟩,
  ⟨(some ⟨.d1, .d4, .d0⟩), none, .pick (.t ⟨.d1, .d3, .d5⟩) (.t ⟨.d1, .d3, .d7⟩) (.c (.bool false))⟩,
  ⟨(some ⟨.d1, .d4, .d1⟩), none, .mv (.t ⟨.d1, .d4, .d0⟩)⟩,
  ⟨(some ⟨.d1, .d4, .d2⟩), (some (⟨.d1, .d4, .d1⟩, false)), .mv (.t ⟨.d0, .d2, .d1⟩)⟩,
  ⟨(some ⟨.d1, .d4, .d3⟩), (some (⟨.d1, .d4, .d1⟩, false)), .bin .eql (.t ⟨.d1, .d4, .d2⟩) (.c (.int .i64 (.ofNat 0)))⟩,
  ⟨(some ⟨.d1, .d4, .d4⟩), (some (⟨.d1, .d4, .d1⟩, false)), .mv (.t ⟨.d1, .d4, .d3⟩)⟩,
  ⟨(some ⟨.d1, .d4, .d5⟩), (some (⟨.d1, .d4, .d4⟩, true)), .fieldA 0 (.t ⟨.d0, .d2, .d0⟩)⟩,
  ⟨(some ⟨.d1, .d4, .d6⟩), (some (⟨.d1, .d4, .d4⟩, true)), .fieldA 4 (.t ⟨.d1, .d4, .d5⟩)⟩,
  ⟨(some ⟨.d1, .d4, .d7⟩), (some (⟨.d1, .d4, .d4⟩, true)), .load none (.t ⟨.d1, .d4, .d6⟩)⟩,
  ⟨(some ⟨.d1, .d5, .d0⟩), (some (⟨.d1, .d4, .d4⟩, true)), .mv (.t ⟨.d0, .d1, .d4⟩)⟩,
  ⟨(some ⟨.d1, .d5, .d1⟩), (some (⟨.d1, .d4, .d4⟩, true)), .bin .eql (.t ⟨.d1, .d4, .d7⟩) (.t ⟨.d1, .d5, .d0⟩)⟩,
  ⟨(some ⟨.d1, .d5, .d2⟩), (some (⟨.d1, .d4, .d1⟩, false)), .pick (.t ⟨.d1, .d4, .d4⟩) (.t ⟨.d1, .d5, .d1⟩) (.c (.bool false))⟩,
  ⟨(some ⟨.d1, .d5, .d3⟩), (some (⟨.d1, .d4, .d1⟩, false)), .mv (.t ⟨.d1, .d5, .d2⟩)⟩,
  ⟨(some ⟨.d1, .d5, .d4⟩), (some (⟨.d1, .d5, .d3⟩, true)), .fieldA 6 (.t ⟨.d0, .d2, .d0⟩)⟩,
  ⟨(some ⟨.d1, .d5, .d5⟩), (some (⟨.d1, .d5, .d3⟩, true)), .load none (.t ⟨.d1, .d5, .d4⟩)⟩,
  ⟨(some ⟨.d1, .d5, .d6⟩), (some (⟨.d1, .d5, .d3⟩, true)), .mv (.t ⟨.d0, .d0, .d5⟩)⟩,
  ⟨(some ⟨.d1, .d5, .d7⟩), (some (⟨.d1, .d5, .d3⟩, true)), .mv (.t ⟨.d0, .d1, .d4⟩)⟩,
  ⟨(some ⟨.d1, .d6, .d0⟩), (some (⟨.d1, .d5, .d3⟩, true)), .idxA none 4 (.t ⟨.d1, .d5, .d6⟩) (.t ⟨.d1, .d5, .d7⟩)⟩,
  ⟨(some ⟨.d1, .d6, .d1⟩), (some (⟨.d1, .d5, .d3⟩, true)), .fieldA 3 (.t ⟨.d1, .d6, .d0⟩)⟩,
  ⟨(some ⟨.d1, .d6, .d2⟩), (some (⟨.d1, .d5, .d3⟩, true)), .load none (.t ⟨.d1, .d6, .d1⟩)⟩,
  ⟨(some ⟨.d1, .d6, .d3⟩), (some (⟨.d1, .d5, .d3⟩, true)), .bin .eql (.t ⟨.d1, .d5, .d5⟩) (.t ⟨.d1, .d6, .d2⟩)⟩,
  ⟨(some ⟨.d1, .d6, .d4⟩), (some (⟨.d1, .d4, .d1⟩, false)), .pick (.t ⟨.d1, .d5, .d3⟩) (.t ⟨.d1, .d6, .d3⟩) (.c (.bool false))⟩,
  ⟨(some ⟨.d1, .d6, .d5⟩), none, .pick (.t ⟨.d1, .d4, .d1⟩) (.c (.bool true)) (.t ⟨.d1, .d6, .d4⟩)⟩,
  ⟨(some ⟨.d1, .d6, .d6⟩), none, .mv (.t ⟨.d1, .d6, .d5⟩)⟩,
  ⟨(some ⟨.d1, .d6, .d7⟩), (some (⟨.d1, .d6, .d6⟩, true)), .callF ⟨.d0, .d1, .d2⟩ []⟩,
  ⟨(some ⟨.d1, .d7, .d0⟩), none, .pick (.t ⟨.d1, .d6, .d6⟩) (.t ⟨.d1, .d6, .d7⟩) (.c (.bool false))⟩,
  ⟨(some ⟨.d0, .d0, .d4⟩), none, .mv (.t ⟨.d1, .d7, .d0⟩)⟩])
 .ret)))))))))))
 [.tmp ⟨.d0, .d0, .d4⟩]
/-- umlaut/umlautlaw20.Fields -/
def x6 : Ent := .code []
 (.seq (.ops [⟨(some ⟨.d0, .d0, .d0⟩), none, .mv (.c .nils)⟩,
  ⟨(some ⟨.d0, .d0, .d1⟩), none, .mv (.c .nils)⟩])
 (.seq (.ops [⟨(some ⟨.d0, .d0, .d5⟩), none, .build [(.str []), (.str []), (.str []), (.int .i64 (.ofNat 0))] [(0, 1, (.c (.str [116]))), (1, 1, (.c (.str [97]))), (2, 1, (.c (.str [98, 105, 110, 97, 114, 121]))), (3, 1, (.c (.int .i64 (.ofNat 2))))]⟩,
  ⟨(some ⟨.d0, .d0, .d6⟩), none, .build [(.str []), (.str []), (.str []), (.int .i64 (.ofNat 0))] [(0, 1, (.c (.str [116]))), (1, 1, (.c (.str [98]))), (2, 1, (.c (.str [98, 105, 110, 97, 114, 121]))), (3, 1, (.c (.int .i64 (.ofNat 3))))]⟩,
  ⟨(some ⟨.d0, .d0, .d7⟩), none, .build [(.str []), (.str []), (.str []), (.int .i64 (.ofNat 0))] [(0, 1, (.c (.str [116]))), (1, 1, (.c (.str [99]))), (2, 1, (.c (.str [110, 111, 99, 97, 115, 101]))), (3, 1, (.c (.int .i64 (.ofNat 3))))]⟩,
  ⟨(some ⟨.d0, .d1, .d0⟩), none, .build [(.str []), (.str []), (.str []), (.int .i64 (.ofNat 0))] [(0, 1, (.c (.str [116]))), (1, 1, (.c (.str [100]))), (2, 1, (.c (.str [114, 111, 111, 116]))), (3, 1, (.c (.int .i64 (.ofNat 3))))]⟩,
  ⟨(some ⟨.d0, .d1, .d1⟩), none, .build [(.str []), (.str []), (.str []), (.int .i64 (.ofNat 0))] [(0, 1, (.c (.str [116]))), (1, 1, (.c (.str [101]))), (2, 1, (.c (.str [98, 105, 110, 97, 114, 121]))), (3, 1, (.c (.int .i64 (.ofNat 1))))]⟩,
  ⟨(some ⟨.d0, .d1, .d2⟩), none, .build [(.str []), (.str []), (.str []), (.int .i64 (.ofNat 0))] [(0, 1, (.c (.str [117]))), (1, 1, (.c (.str [97]))), (2, 1, (.c (.str [98, 105, 110, 97, 114, 121]))), (3, 1, (.c (.int .i64 (.ofNat 2))))]⟩,
  ⟨(some ⟨.d0, .d1, .d3⟩), none, .build [(.str []), (.str []), (.str []), (.int .i64 (.ofNat 0))] [(0, 1, (.c (.str [117]))), (1, 1, (.c (.str [102]))), (2, 1, (.c (.str [110, 111, 99, 97, 115, 101]))), (3, 1, (.c (.int .i64 (.ofNat 3))))]⟩,
  ⟨(some ⟨.d0, .d1, .d4⟩), none, .buildS none 4 7 [(.str []), (.str []), (.str []), (.int .i64 (.ofNat 0)), (.str []), (.str []), (.str []), (.int .i64 (.ofNat 0)), (.str []), (.str []), (.str []), (.int .i64 (.ofNat 0)), (.str []), (.str []), (.str []), (.int .i64 (.ofNat 0)), (.str []), (.str []), (.str []), (.int .i64 (.ofNat 0)), (.str []), (.str []), (.str []), (.int .i64 (.ofNat 0)), (.str []), (.str []), (.str []), (.int .i64 (.ofNat 0))] [(0, 4, (.t ⟨.d0, .d0, .d5⟩)), (4, 4, (.t ⟨.d0, .d0, .d6⟩)), (8, 4, (.t ⟨.d0, .d0, .d7⟩)), (12, 4, (.t ⟨.d0, .d1, .d0⟩)), (16, 4, (.t ⟨.d0, .d1, .d1⟩)), (20, 4, (.t ⟨.d0, .d1, .d2⟩)), (24, 4, (.t ⟨.d0, .d1, .d3⟩))]⟩,
  ⟨(some ⟨.d0, .d0, .d2⟩), none, .mv (.t ⟨.d0, .d1, .d4⟩)⟩])
 (.seq (.ops [⟨(some ⟨.d0, .d0, .d3⟩), none, .mv (.c .nils)⟩])
 (.seq (.seq (.ops [⟨(some ⟨.d0, .d0, .d4⟩), none, .mv (.c (.int .i64 (.ofNat 0)))⟩])
 (.block 0 (.loop (.seq (.seq (.ops [⟨(some ⟨.d0, .d1, .d5⟩), none, .mv (.t ⟨.d0, .d0, .d4⟩)⟩,
  ⟨(some ⟨.d0, .d1, .d6⟩), none, .mv (.t ⟨.d0, .d0, .d2⟩)⟩,
  ⟨(some ⟨.d0, .d1, .d7⟩), none, .len .sli (.t ⟨.d0, .d1, .d6⟩)⟩,
  ⟨(some ⟨.d0, .d2, .d0⟩), none, .bin .lss (.t ⟨.d0, .d1, .d5⟩) (.t ⟨.d0, .d1, .d7⟩)⟩])
 (.cond (.t ⟨.d0, .d2, .d0⟩) .skip (.exit 0)))
 (.seq (.block 1 (.reg 1 [] [⟨(some ⟨.d0, .d2, .d3⟩), none, .mv (.t ⟨.d0, .d0, .d3⟩)⟩,
  ⟨(some ⟨.d0, .d2, .d4⟩), none, .mv (.t ⟨.d0, .d0, .d2⟩)⟩,
  ⟨(some ⟨.d0, .d2, .d5⟩), none, .mv (.t ⟨.d0, .d0, .d4⟩)⟩,
  ⟨(some ⟨.d0, .d2, .d6⟩), none, .idxA none 4 (.t ⟨.d0, .d2, .d4⟩) (.t ⟨.d0, .d2, .d5⟩)⟩,
  ⟨(some ⟨.d0, .d2, .d7⟩), none, .fieldA 0 (.t ⟨.d0, .d2, .d6⟩)⟩,
  ⟨(some ⟨.d0, .d3, .d0⟩), none, .load none (.t ⟨.d0, .d2, .d7⟩)⟩,
  ⟨(some ⟨.d0, .d3, .d1⟩), none, .mv (.t ⟨.d0, .d0, .d2⟩)⟩,
  ⟨(some ⟨.d0, .d3, .d2⟩), none, .mv (.t ⟨.d0, .d0, .d4⟩)⟩,
  ⟨(some ⟨.d0, .d3, .d3⟩), none, .idxA none 4 (.t ⟨.d0, .d3, .d1⟩) (.t ⟨.d0, .d3, .d2⟩)⟩,
  ⟨(some ⟨.d0, .d3, .d4⟩), none, .fieldA 1 (.t ⟨.d0, .d3, .d3⟩)⟩,
  ⟨(some ⟨.d0, .d3, .d5⟩), none, .load none (.t ⟨.d0, .d3, .d4⟩)⟩,
  ⟨(some ⟨.d0, .d3, .d6⟩), none, .mv (.t ⟨.d0, .d0, .d2⟩)⟩,
  ⟨(some ⟨.d0, .d3, .d7⟩), none, .mv (.t ⟨.d0, .d0, .d4⟩)⟩,
  ⟨(some ⟨.d0, .d4, .d0⟩), none, .idxA none 4 (.t ⟨.d0, .d3, .d6⟩) (.t ⟨.d0, .d3, .d7⟩)⟩,
  ⟨(some ⟨.d0, .d4, .d1⟩), none, .fieldA 2 (.t ⟨.d0, .d4, .d0⟩)⟩,
  ⟨(some ⟨.d0, .d4, .d2⟩), none, .load none (.t ⟨.d0, .d4, .d1⟩)⟩,
  ⟨(some ⟨.d0, .d4, .d3⟩), none, .mv (.t ⟨.d0, .d0, .d2⟩)⟩,
  ⟨(some ⟨.d0, .d4, .d4⟩), none, .mv (.t ⟨.d0, .d0, .d4⟩)⟩,
  ⟨(some ⟨.d0, .d4, .d5⟩), none, .idxA none 4 (.t ⟨.d0, .d4, .d3⟩) (.t ⟨.d0, .d4, .d4⟩)⟩,
  ⟨(some ⟨.d0, .d4, .d6⟩), none, .fieldA 3 (.t ⟨.d0, .d4, .d5⟩)⟩,
  ⟨(some ⟨.d0, .d4, .d7⟩), none, .load none (.t ⟨.d0, .d4, .d6⟩)⟩,
  ⟨(some ⟨.d0, .d5, .d0⟩), none, .build [(.str []), (.str []), (.str []), (.int .i64 (.ofNat 0))] [(0, 1, (.t ⟨.d0, .d3, .d0⟩)), (1, 1, (.t ⟨.d0, .d3, .d5⟩)), (2, 1, (.t ⟨.d0, .d4, .d2⟩)), (3, 1, (.t ⟨.d0, .d4, .d7⟩))]⟩,
  ⟨(some ⟨.d0, .d5, .d1⟩), none, .buildS (some 0) 4 1 [(.str []), (.str []), (.str []), (.int .i64 (.ofNat 0))] [(0, 4, (.t ⟨.d0, .d5, .d0⟩))]⟩,
  ⟨(some ⟨.d0, .d5, .d2⟩), none, .app 4 56 (.t ⟨.d0, .d2, .d3⟩) (.t ⟨.d0, .d5, .d1⟩)⟩,
  ⟨(some ⟨.d0, .d0, .d3⟩), none, .mv (.t ⟨.d0, .d5, .d2⟩)⟩]))
 (.ops [⟨(some ⟨.d0, .d2, .d1⟩), none, .mv (.t ⟨.d0, .d0, .d4⟩)⟩,
  ⟨(some ⟨.d0, .d2, .d2⟩), none, .bin .add (.t ⟨.d0, .d2, .d1⟩) (.c (.int .i64 (.ofNat 1)))⟩,
  ⟨(some ⟨.d0, .d0, .d4⟩), none, .mv (.t ⟨.d0, .d2, .d2⟩)⟩]))))))
 (.seq (.ops [⟨(some ⟨.d0, .d5, .d3⟩), none, .mv (.t ⟨.d0, .d0, .d3⟩)⟩,
  ⟨(some ⟨.d0, .d5, .d4⟩), none, .mv (.t ⟨.d0, .d0, .d2⟩)⟩,
  ⟨(some ⟨.d0, .d0, .d0⟩), none, .mv (.t ⟨.d0, .d5, .d3⟩)⟩,
  ⟨(some ⟨.d0, .d0, .d1⟩), none, .mv (.t ⟨.d0, .d5, .d4⟩)⟩])
 .ret)))))
 [.tmp ⟨.d0, .d0, .d0⟩, .tmp ⟨.d0, .d0, .d1⟩]
/-- umlaut/umlautlaw20.BindRanks$1 -/
def x8 : Ent := .code [⟨.d0, .d0, .d0⟩, ⟨.d0, .d0, .d1⟩]
 (.seq (.ops [⟨(some ⟨.d0, .d0, .d4⟩), none, .box none (.c (.agg [(.int .i64 (.ofNat 0)), (.int .i64 (.ofNat 0)), (.str []), (.str []), (.int .i64 (.ofNat 0)), .nils]))⟩])
 (.seq (.ops [⟨(some ⟨.d0, .d0, .d6⟩), none, .mv (.t ⟨.d0, .d0, .d0⟩)⟩,
  ⟨(some ⟨.d0, .d0, .d7⟩), none, .build [(.int .i64 (.ofNat 0)), (.int .i64 (.ofNat 0)), (.str []), (.str []), (.int .i64 (.ofNat 0)), .nils] [(0, 1, (.c (.int .i64 (.ofNat 4)))), (2, 1, (.t ⟨.d0, .d0, .d6⟩))]⟩,
  ⟨(some ⟨.d0, .d0, .d5⟩), none, .box none (.c (.agg [(.int .i64 (.ofNat 0)), (.int .i64 (.ofNat 0)), (.str []), (.str []), (.int .i64 (.ofNat 0)), .nils]))⟩,
  ⟨none, none, .store 6 (.t ⟨.d0, .d0, .d5⟩) (.t ⟨.d0, .d0, .d7⟩)⟩])
 (.seq (.seq (.ops [⟨(some ⟨.d0, .d1, .d0⟩), none, .mv (.t ⟨.d0, .d0, .d1⟩)⟩,
  ⟨(some ⟨.d0, .d1, .d1⟩), none, .bin .neq (.t ⟨.d0, .d1, .d0⟩) (.c (.str []))⟩])
 (.cond (.t ⟨.d0, .d1, .d1⟩) (.ops [⟨(some ⟨.d0, .d1, .d2⟩), none, .mv (.t ⟨.d0, .d0, .d1⟩)⟩,
  ⟨(some ⟨.d0, .d1, .d3⟩), none, .load (some 6) (.t ⟨.d0, .d0, .d5⟩)⟩,
  ⟨(some ⟨.d0, .d1, .d4⟩), none, .buildS none 6 1 [(.int .i64 (.ofNat 0)), (.int .i64 (.ofNat 0)), (.str []), (.str []), (.int .i64 (.ofNat 0)), .nils] [(0, 6, (.t ⟨.d0, .d1, .d3⟩))]⟩,
  ⟨(some ⟨.d0, .d1, .d5⟩), none, .build [(.int .i64 (.ofNat 0)), (.int .i64 (.ofNat 0)), (.str []), (.str []), (.int .i64 (.ofNat 0)), .nils] [(0, 1, (.c (.int .i64 (.ofNat 11)))), (2, 1, (.t ⟨.d0, .d1, .d2⟩)), (5, 1, (.t ⟨.d0, .d1, .d4⟩))]⟩,
  ⟨none, none, .store 6 (.t ⟨.d0, .d0, .d5⟩) (.t ⟨.d0, .d1, .d5⟩)⟩]) .skip))
 (.seq (.ops [⟨(some ⟨.d0, .d1, .d6⟩), none, .load (some 6) (.t ⟨.d0, .d0, .d5⟩)⟩,
  ⟨none, none, .store 6 (.t ⟨.d0, .d0, .d4⟩) (.t ⟨.d0, .d1, .d6⟩)⟩])
 .ret))))
 [.cell (some 6) ⟨.d0, .d0, .d4⟩]
/-- umlaut/bind.Expr -/
def x9 : Ent := .code [⟨.d0, .d0, .d0⟩, ⟨.d0, .d0, .d1⟩, ⟨.d0, .d0, .d2⟩]
 (.seq (.ops [⟨(some ⟨.d0, .d0, .d3⟩), none, .box none (.t ⟨.d0, .d0, .d0⟩)⟩,
  ⟨(some ⟨.d0, .d0, .d5⟩), none, .box none (.t ⟨.d0, .d0, .d2⟩)⟩,
  ⟨(some ⟨.d0, .d0, .d6⟩), none, .box none (.c (.agg [(.int .i64 (.ofNat 0)), (.int .i64 (.ofNat 0)), (.str []), (.str []), (.int .i64 (.ofNat 0)), .nils, (.int .i64 (.ofNat 0)), (.int .i64 (.ofNat 0)), (.str [])]))⟩,
  ⟨(some ⟨.d0, .d0, .d7⟩), none, .mv (.c (.int .i64 (.ofNat 0)))⟩])
 (.seq (.ops [⟨(some ⟨.d0, .d1, .d1⟩), none, .load (some 1) (.t ⟨.d0, .d0, .d3⟩)⟩,
  ⟨(some ⟨.d0, .d1, .d2⟩), none, .mv (.t ⟨.d0, .d0, .d1⟩)⟩,
  ⟨(some ⟨.d0, .d1, .d3⟩), none, .build [.nils, .nilp, .nilf] [(0, 1, (.t ⟨.d0, .d1, .d1⟩)), (1, 1, (.t ⟨.d0, .d1, .d2⟩))]⟩,
  ⟨(some ⟨.d0, .d1, .d4⟩), none, .box none (.t ⟨.d0, .d1, .d3⟩)⟩,
  ⟨(some ⟨.d0, .d1, .d0⟩), none, .mv (.t ⟨.d0, .d1, .d4⟩)⟩])
 (.seq (.ops [⟨(some ⟨.d0, .d1, .d5⟩), none, .mv (.t ⟨.d0, .d1, .d0⟩)⟩,
  ⟨(some ⟨.d0, .d1, .d6⟩), none, .load (some 6) (.t ⟨.d0, .d0, .d5⟩)⟩,
  ⟨(some ⟨.d0, .d1, .d7⟩), none, .callF ⟨.d0, .d1, .d6⟩ [(.t ⟨.d0, .d1, .d5⟩), (.t ⟨.d0, .d1, .d6⟩)]⟩,
  ⟨(some ⟨.d0, .d2, .d0⟩), none, .ext (.t ⟨.d0, .d1, .d7⟩) 0⟩,
  ⟨(some ⟨.d0, .d2, .d1⟩), none, .ext (.t ⟨.d0, .d1, .d7⟩) 1⟩,
  ⟨none, none, .store 9 (.t ⟨.d0, .d0, .d6⟩) (.t ⟨.d0, .d2, .d0⟩)⟩,
  ⟨(some ⟨.d0, .d0, .d7⟩), none, .mv (.t ⟨.d0, .d2, .d1⟩)⟩])
 .ret)))
 [.cell (some 9) ⟨.d0, .d0, .d6⟩, .tmp ⟨.d0, .d0, .d7⟩]
/-- umlaut/umlautlaw20.awake -/
def x10 : Ent := .code []
 (.seq (.ops [⟨(some ⟨.d0, .d0, .d0⟩), none, .mv (.c (.bool false))⟩])
 (.seq (.ops [⟨(some ⟨.d0, .d1, .d2⟩), none, .callF ⟨.d0, .d0, .d6⟩ []⟩,
  ⟨(some ⟨.d0, .d1, .d1⟩), none, .mv (.t ⟨.d0, .d1, .d2⟩)⟩,
  ⟨(some ⟨.d0, .d1, .d3⟩), none, .ext (.t ⟨.d0, .d1, .d1⟩) 0⟩,
  ⟨(some ⟨.d0, .d1, .d4⟩), none, .ext (.t ⟨.d0, .d1, .d1⟩) 1⟩,
  ⟨(some ⟨.d0, .d0, .d1⟩), none, .mv (.t ⟨.d0, .d1, .d3⟩)⟩,
  ⟨(some ⟨.d0, .d0, .d2⟩), none, .mv (.t ⟨.d0, .d1, .d4⟩)⟩])
 (.seq (.ops [⟨(some ⟨.d0, .d1, .d5⟩), none, .callF ⟨.d0, .d0, .d7⟩ []⟩,
  ⟨(some ⟨.d0, .d0, .d3⟩), none, .mv (.t ⟨.d0, .d1, .d5⟩)⟩])
 (.seq (.ops [⟨(some ⟨.d0, .d1, .d6⟩), none, .build [(.int .i64 (.ofNat 0)), (.int .i64 (.ofNat 0)), (.str []), (.str []), (.int .i64 (.ofNat 0)), .nils] [(0, 1, (.c (.int .i64 (.ofNat 4)))), (2, 1, (.c (.str [99])))]⟩,
  ⟨(some ⟨.d0, .d1, .d7⟩), none, .build [(.int .i64 (.ofNat 0)), (.int .i64 (.ofNat 0)), (.str []), (.str []), (.int .i64 (.ofNat 0)), .nils] [(0, 1, (.c (.int .i64 (.ofNat 3)))), (2, 1, (.c (.str [120])))]⟩,
  ⟨(some ⟨.d0, .d2, .d0⟩), none, .buildS none 6 2 [(.int .i64 (.ofNat 0)), (.int .i64 (.ofNat 0)), (.str []), (.str []), (.int .i64 (.ofNat 0)), .nils, (.int .i64 (.ofNat 0)), (.int .i64 (.ofNat 0)), (.str []), (.str []), (.int .i64 (.ofNat 0)), .nils] [(0, 6, (.t ⟨.d0, .d1, .d6⟩)), (6, 6, (.t ⟨.d0, .d1, .d7⟩))]⟩,
  ⟨(some ⟨.d0, .d2, .d1⟩), none, .build [(.int .i64 (.ofNat 0)), (.int .i64 (.ofNat 0)), (.str []), (.str []), (.int .i64 (.ofNat 0)), .nils] [(0, 1, (.c (.int .i64 (.ofNat 6)))), (1, 1, (.c (.int .i64 (.ofNat 1)))), (5, 1, (.t ⟨.d0, .d2, .d0⟩))]⟩,
  ⟨(some ⟨.d0, .d0, .d4⟩), none, .box none (.c (.agg [(.int .i64 (.ofNat 0)), (.int .i64 (.ofNat 0)), (.str []), (.str []), (.int .i64 (.ofNat 0)), .nils]))⟩,
  ⟨none, none, .store 6 (.t ⟨.d0, .d0, .d4⟩) (.t ⟨.d0, .d2, .d1⟩)⟩])
 (.seq (.ops [⟨(some ⟨.d0, .d2, .d3⟩), none, .mv (.t ⟨.d0, .d0, .d1⟩)⟩,
  ⟨(some ⟨.d0, .d2, .d4⟩), none, .build [.nils] [(0, 1, (.t ⟨.d0, .d2, .d3⟩))]⟩,
  ⟨(some ⟨.d0, .d2, .d5⟩), none, .mv (.t ⟨.d0, .d0, .d3⟩)⟩,
  ⟨(some ⟨.d0, .d2, .d6⟩), none, .load (some 6) (.t ⟨.d0, .d0, .d4⟩)⟩,
  ⟨(some ⟨.d0, .d2, .d7⟩), none, .callF ⟨.d0, .d1, .d1⟩ [(.t ⟨.d0, .d2, .d4⟩), (.t ⟨.d0, .d2, .d5⟩), (.t ⟨.d0, .d2, .d6⟩)]⟩,
  ⟨(some ⟨.d0, .d2, .d2⟩), none, .mv (.t ⟨.d0, .d2, .d7⟩)⟩,
  ⟨(some ⟨.d0, .d3, .d0⟩), none, .ext (.t ⟨.d0, .d2, .d2⟩) 0⟩,
  ⟨(some ⟨.d0, .d3, .d1⟩), none, .ext (.t ⟨.d0, .d2, .d2⟩) 1⟩,
  ⟨(some ⟨.d0, .d0, .d5⟩), none, .box none (.c (.agg [(.int .i64 (.ofNat 0)), (.int .i64 (.ofNat 0)), (.str []), (.str []), (.int .i64 (.ofNat 0)), .nils, (.int .i64 (.ofNat 0)), (.int .i64 (.ofNat 0)), (.str [])]))⟩,
  ⟨none, none, .store 9 (.t ⟨.d0, .d0, .d5⟩) (.t ⟨.d0, .d3, .d0⟩)⟩,
  ⟨(some ⟨.d0, .d0, .d6⟩), none, .mv (.t ⟨.d0, .d3, .d1⟩)⟩])
 (.seq (.ops [⟨(some ⟨.d0, .d3, .d3⟩), none, .mv (.t ⟨.d0, .d0, .d1⟩)⟩,
  ⟨(some ⟨.d0, .d3, .d4⟩), none, .build [.nils] [(0, 1, (.t ⟨.d0, .d3, .d3⟩))]⟩,
  ⟨(some ⟨.d0, .d3, .d5⟩), none, .mv (.t ⟨.d0, .d0, .d3⟩)⟩,
  ⟨(some ⟨.d0, .d3, .d6⟩), none, .build [(.int .i64 (.ofNat 0)), (.int .i64 (.ofNat 0)), (.str []), (.str []), (.int .i64 (.ofNat 0)), .nils] [(0, 1, (.c (.int .i64 (.ofNat 4)))), (2, 1, (.c (.str [97])))]⟩,
  ⟨(some ⟨.d0, .d3, .d7⟩), none, .callF ⟨.d0, .d1, .d1⟩ [(.t ⟨.d0, .d3, .d4⟩), (.t ⟨.d0, .d3, .d5⟩), (.t ⟨.d0, .d3, .d6⟩)]⟩,
  ⟨(some ⟨.d0, .d3, .d2⟩), none, .mv (.t ⟨.d0, .d3, .d7⟩)⟩,
  ⟨(some ⟨.d0, .d4, .d0⟩), none, .ext (.t ⟨.d0, .d3, .d2⟩) 0⟩,
  ⟨(some ⟨.d0, .d4, .d1⟩), none, .ext (.t ⟨.d0, .d3, .d2⟩) 1⟩,
  ⟨(some ⟨.d0, .d0, .d7⟩), none, .box none (.c (.agg [(.int .i64 (.ofNat 0)), (.int .i64 (.ofNat 0)), (.str []), (.str []), (.int .i64 (.ofNat 0)), .nils, (.int .i64 (.ofNat 0)), (.int .i64 (.ofNat 0)), (.str [])]))⟩,
  ⟨none, none, .store 9 (.t ⟨.d0, .d0, .d7⟩) (.t ⟨.d0, .d4, .d0⟩)⟩,
  ⟨(some ⟨.d0, .d1, .d0⟩), none, .mv (.t ⟨.d0, .d4, .d1⟩)⟩])
 (.seq (.ops [⟨(some ⟨.d0, .d4, .d2⟩), none, .mv (.t ⟨.d0, .d0, .d3⟩)⟩,
  ⟨(some ⟨.d0, .d4, .d3⟩), none, .eq true .ptr (.t ⟨.d0, .d4, .d2⟩) (.c .nilp)⟩,
  ⟨(some ⟨.d0, .d4, .d4⟩), none, .mv (.t ⟨.d0, .d4, .d3⟩)⟩,
  ⟨(some ⟨.d0, .d4, .d5⟩), (some (⟨.d0, .d4, .d4⟩, true)), .mv (.t ⟨.d0, .d0, .d6⟩)⟩,
  ⟨(some ⟨.d0, .d4, .d6⟩), (some (⟨.d0, .d4, .d4⟩, true)), .bin .eql (.t ⟨.d0, .d4, .d5⟩) (.c (.int .i64 (.ofNat 0)))⟩,
  ⟨(some ⟨.d0, .d4, .d7⟩), none, .pick (.t ⟨.d0, .d4, .d4⟩) (.t ⟨.d0, .d4, .d6⟩) (.c (.bool false))⟩,
  ⟨(some ⟨.d0, .d5, .d0⟩), none, .mv (.t ⟨.d0, .d4, .d7⟩)⟩,
  ⟨(some ⟨.d0, .d5, .d1⟩), (some (⟨.d0, .d5, .d0⟩, true)), .fieldA 6 (.t ⟨.d0, .d0, .d5⟩)⟩,
  ⟨(some ⟨.d0, .d5, .d2⟩), (some (⟨.d0, .d5, .d0⟩, true)), .load none (.t ⟨.d0, .d5, .d1⟩)⟩,
  ⟨(some ⟨.d0, .d5, .d3⟩), (some (⟨.d0, .d5, .d0⟩, true)), .bin .eql (.t ⟨.d0, .d5, .d2⟩) (.c (.int .i64 (.ofNat 1)))⟩,
  ⟨(some ⟨.d0, .d5, .d4⟩), none, .pick (.t ⟨.d0, .d5, .d0⟩) (.t ⟨.d0, .d5, .d3⟩) (.c (.bool false))⟩,
  ⟨(some ⟨.d0, .d5, .d5⟩), none, .mv (.t ⟨.d0, .d5, .d4⟩)⟩,
  ⟨(some ⟨.d0, .d5, .d6⟩), (some (⟨.d0, .d5, .d5⟩, true)), .fieldA 0 (.t ⟨.d0, .d0, .d5⟩)⟩,
  ⟨(some ⟨.d0, .d5, .d7⟩), (some (⟨.d0, .d5, .d5⟩, true)), .fieldA 2 (.t ⟨.d0, .d5, .d6⟩)⟩,
  ⟨(some ⟨.d0, .d6, .d0⟩), (some (⟨.d0, .d5, .d5⟩, true)), .load none (.t ⟨.d0, .d5, .d7⟩)⟩,
  ⟨(some ⟨.d0, .d6, .d1⟩), (some (⟨.d0, .d5, .d5⟩, true)), .bin .eql (.t ⟨.d0, .d6, .d0⟩) (.c (.str [110, 111, 99, 97, 115, 101]))⟩,
  ⟨(some ⟨.d0, .d6, .d2⟩), none, .pick (.t ⟨.d0, .d5, .d5⟩) (.t ⟨.d0, .d6, .d1⟩) (.c (.bool false))⟩,
  ⟨(some ⟨.d0, .d6, .d3⟩), none, .mv (.t ⟨.d0, .d6, .d2⟩)⟩,
  ⟨(some ⟨.d0, .d6, .d4⟩), (some (⟨.d0, .d6, .d3⟩, true)), .fieldA 0 (.t ⟨.d0, .d0, .d5⟩)⟩,
  ⟨(some ⟨.d0, .d6, .d5⟩), (some (⟨.d0, .d6, .d3⟩, true)), .fieldA 5 (.t ⟨.d0, .d6, .d4⟩)⟩,
  ⟨(some ⟨.d0, .d6, .d6⟩), (some (⟨.d0, .d6, .d3⟩, true)), .load none (.t ⟨.d0, .d6, .d5⟩)⟩,
  ⟨(some ⟨.d0, .d6, .d7⟩), (some (⟨.d0, .d6, .d3⟩, true)), .len .sli (.t ⟨.d0, .d6, .d6⟩)⟩,
  ⟨(some ⟨.d0, .d7, .d0⟩), (some (⟨.d0, .d6, .d3⟩, true)), .bin .eql (.t ⟨.d0, .d6, .d7⟩) (.c (.int .i64 (.ofNat 2)))⟩,
  ⟨(some ⟨.d0, .d7, .d1⟩), none, .pick (.t ⟨.d0, .d6, .d3⟩) (.t ⟨.d0, .d7, .d0⟩) (.c (.bool false))⟩,
  ⟨(some ⟨.d0, .d7, .d2⟩), none, .mv (.t ⟨.d0, .d7, .d1⟩)⟩,
  ⟨(some ⟨.d0, .d7, .d3⟩), (some (⟨.d0, .d7, .d2⟩, true)), .fieldA 0 (.t ⟨.d0, .d0, .d5⟩)⟩,
  ⟨(some ⟨.d0, .d7, .d4⟩), (some (⟨.d0, .d7, .d2⟩, true)), .fieldA 5 (.t ⟨.d0, .d7, .d3⟩)⟩,
  ⟨(some ⟨.d0, .d7, .d5⟩), (some (⟨.d0, .d7, .d2⟩, true)), .load none (.t ⟨.d0, .d7, .d4⟩)⟩,
  ⟨(some ⟨.d0, .d7, .d6⟩), (some (⟨.d0, .d7, .d2⟩, true)), .idxA none 6 (.t ⟨.d0, .d7, .d5⟩) (.c (.int .i64 (.ofNat 0)))⟩,
  ⟨(some ⟨.d0, .d7, .d7⟩), (some (⟨.d0, .d7, .d2⟩, true)), .fieldA 4 (.t ⟨.d0, .d7, .d6⟩)⟩,
  ⟨(some ⟨.d1, .d0, .d0⟩), (some (⟨.d0, .d7, .d2⟩, true)), .load none (.t ⟨.d0, .d7, .d7⟩)⟩,
  ⟨(some ⟨.d1, .d0, .d1⟩), (some (⟨.d0, .d7, .d2⟩, true)), .bin .eql (.t ⟨.d1, .d0, .d0⟩) (.c (.int .i64 (.ofNat 2)))⟩,
  ⟨(some ⟨.d1, .d0, .d2⟩), none, .pick (.t ⟨.d0, .d7, .d2⟩) (.t ⟨.d1, .d0, .d1⟩) (.c (.bool false))⟩,
  ⟨(some ⟨.d1, .d0, .d3⟩), none, .mv (.t ⟨.d1, .d0, .d2⟩)⟩,
  ⟨(some ⟨.d1, .d0, .d4⟩), (some (⟨.d1, .d0, .d3⟩, true)), .mv (.t ⟨.d0, .d1, .d0⟩)⟩,
  ⟨(some ⟨.d1, .d0, .d5⟩), (some (⟨.d1, .d0, .d3⟩, true)), .bin .eql (.t ⟨.d1, .d0, .d4⟩) (.c (.int .i64 (.ofNat 11)))⟩,
  ⟨(some ⟨.d1, .d0, .d6⟩), none, .pick (.t ⟨.d1, .d0, .d3⟩) (.t ⟨.d1, .d0, .d5⟩) (.c (.bool false))⟩,
  ⟨(some ⟨.d0, .d0, .d0⟩), none, .mv (.t ⟨.d1, .d0, .d6⟩)⟩])
 .ret)))))))
 [.tmp ⟨.d0, .d0, .d0⟩]
/-- umlaut/bind.Combine -/
def x11 : Ent := .code [⟨.d0, .d0, .d0⟩, ⟨.d0, .d0, .d1⟩]
 (.seq (.ops [⟨(some ⟨.d0, .d0, .d2⟩), none, .box none (.t ⟨.d0, .d0, .d0⟩)⟩,
  ⟨(some ⟨.d0, .d0, .d3⟩), none, .box none (.t ⟨.d0, .d0, .d1⟩)⟩,
  ⟨(some ⟨.d0, .d0, .d4⟩), none, .box none (.c (.agg [(.int .i64 (.ofNat 0)), (.str [])]))⟩,
  ⟨(some ⟨.d0, .d0, .d5⟩), none, .mv (.c (.int .i64 (.ofNat 0)))⟩])
 (.seq (.seq (.ops [⟨(some ⟨.d0, .d0, .d6⟩), none, .fieldA 0 (.t ⟨.d0, .d0, .d2⟩)⟩,
  ⟨(some ⟨.d0, .d0, .d7⟩), none, .load none (.t ⟨.d0, .d0, .d6⟩)⟩,
  ⟨(some ⟨.d0, .d1, .d0⟩), none, .fieldA 0 (.t ⟨.d0, .d0, .d3⟩)⟩,
  ⟨(some ⟨.d0, .d1, .d1⟩), none, .load none (.t ⟨.d0, .d1, .d0⟩)⟩,
  ⟨(some ⟨.d0, .d1, .d2⟩), none, .build [(.int .i64 (.ofNat 0)), (.int .i64 (.ofNat 0))] [(0, 1, (.t ⟨.d0, .d0, .d7⟩)), (1, 1, (.t ⟨.d0, .d1, .d1⟩))]⟩])
 (.block 0 (.seq (.ops [⟨(some ⟨.d0, .d1, .d4⟩), none, .build [(.int .i64 (.ofNat 0)), (.int .i64 (.ofNat 0))] [(0, 1, (.c (.int .i64 (.ofNat 3)))), (1, 1, (.c (.int .i64 (.ofNat 3))))]⟩,
  ⟨(some ⟨.d0, .d1, .d5⟩), none, .eq false (.flat [.i, .i]) (.t ⟨.d0, .d1, .d2⟩) (.t ⟨.d0, .d1, .d4⟩)⟩,
  ⟨(some ⟨.d0, .d1, .d3⟩), none, .mv (.t ⟨.d0, .d1, .d5⟩)⟩])
 (.cond (.t ⟨.d0, .d1, .d3⟩) (.seq (.ops [⟨(some ⟨.d0, .d1, .d6⟩), none, .fieldA 1 (.t ⟨.d0, .d0, .d2⟩)⟩,
  ⟨(some ⟨.d0, .d1, .d7⟩), none, .load none (.t ⟨.d0, .d1, .d6⟩)⟩,
  ⟨(some ⟨.d0, .d2, .d0⟩), none, .fieldA 1 (.t ⟨.d0, .d0, .d3⟩)⟩,
  ⟨(some ⟨.d0, .d2, .d1⟩), none, .load none (.t ⟨.d0, .d2, .d0⟩)⟩,
  ⟨(some ⟨.d0, .d2, .d2⟩), none, .bin .neq (.t ⟨.d0, .d1, .d7⟩) (.t ⟨.d0, .d2, .d1⟩)⟩])
 (.cond (.t ⟨.d0, .d2, .d2⟩) (.seq (.ops [⟨(some ⟨.d0, .d2, .d3⟩), none, .build [(.int .i64 (.ofNat 0)), (.str [])] []⟩,
  ⟨none, none, .store 2 (.t ⟨.d0, .d0, .d4⟩) (.t ⟨.d0, .d2, .d3⟩)⟩,
  ⟨(some ⟨.d0, .d0, .d5⟩), none, .mv (.c (.int .i64 (.ofNat 13)))⟩])
 .ret) .skip)) (.seq (.ops [⟨(some ⟨.d0, .d2, .d5⟩), none, .build [(.int .i64 (.ofNat 0)), (.int .i64 (.ofNat 0))] [(0, 1, (.c (.int .i64 (.ofNat 1)))), (1, 1, (.c (.int .i64 (.ofNat 1))))]⟩,
  ⟨(some ⟨.d0, .d2, .d6⟩), none, .eq false (.flat [.i, .i]) (.t ⟨.d0, .d1, .d2⟩) (.t ⟨.d0, .d2, .d5⟩)⟩,
  ⟨(some ⟨.d0, .d2, .d4⟩), none, .mv (.t ⟨.d0, .d2, .d6⟩)⟩])
 (.cond (.t ⟨.d0, .d2, .d4⟩) (.seq (.ops [⟨(some ⟨.d0, .d2, .d7⟩), none, .fieldA 1 (.t ⟨.d0, .d0, .d2⟩)⟩,
  ⟨(some ⟨.d0, .d3, .d0⟩), none, .load none (.t ⟨.d0, .d2, .d7⟩)⟩,
  ⟨(some ⟨.d0, .d3, .d1⟩), none, .fieldA 1 (.t ⟨.d0, .d0, .d3⟩)⟩,
  ⟨(some ⟨.d0, .d3, .d2⟩), none, .load none (.t ⟨.d0, .d3, .d1⟩)⟩,
  ⟨(some ⟨.d0, .d3, .d3⟩), none, .bin .neq (.t ⟨.d0, .d3, .d0⟩) (.t ⟨.d0, .d3, .d2⟩)⟩])
 (.cond (.t ⟨.d0, .d3, .d3⟩) (.seq (.ops [⟨(some ⟨.d0, .d3, .d4⟩), none, .build [(.int .i64 (.ofNat 0)), (.str [])] [(0, 1, (.c (.int .i64 (.ofNat 2))))]⟩,
  ⟨none, none, .store 2 (.t ⟨.d0, .d0, .d4⟩) (.t ⟨.d0, .d3, .d4⟩)⟩,
  ⟨(some ⟨.d0, .d0, .d5⟩), none, .mv (.c (.int .i64 (.ofNat 0)))⟩])
 .ret) .skip)) .skip))))))
 (.seq (.seq (.ops [⟨(some ⟨.d0, .d3, .d5⟩), none, .fieldA 0 (.t ⟨.d0, .d0, .d3⟩)⟩,
  ⟨(some ⟨.d0, .d3, .d6⟩), none, .load none (.t ⟨.d0, .d3, .d5⟩)⟩,
  ⟨(some ⟨.d0, .d3, .d7⟩), none, .fieldA 0 (.t ⟨.d0, .d0, .d2⟩)⟩,
  ⟨(some ⟨.d0, .d4, .d0⟩), none, .load none (.t ⟨.d0, .d3, .d7⟩)⟩,
  ⟨(some ⟨.d0, .d4, .d1⟩), none, .bin .gtr (.t ⟨.d0, .d3, .d6⟩) (.t ⟨.d0, .d4, .d0⟩)⟩])
 (.cond (.t ⟨.d0, .d4, .d1⟩) (.seq (.ops [⟨(some ⟨.d0, .d4, .d2⟩), none, .load (some 2) (.t ⟨.d0, .d0, .d3⟩)⟩,
  ⟨none, none, .store 2 (.t ⟨.d0, .d0, .d4⟩) (.t ⟨.d0, .d4, .d2⟩)⟩,
  ⟨(some ⟨.d0, .d0, .d5⟩), none, .mv (.c (.int .i64 (.ofNat 0)))⟩])
 .ret) .skip))
 (.seq (.ops [⟨(some ⟨.d0, .d4, .d3⟩), none, .load (some 2) (.t ⟨.d0, .d0, .d2⟩)⟩,
  ⟨none, none, .store 2 (.t ⟨.d0, .d0, .d4⟩) (.t ⟨.d0, .d4, .d3⟩)⟩,
  ⟨(some ⟨.d0, .d0, .d5⟩), none, .mv (.c (.int .i64 (.ofNat 0)))⟩])
 .ret))))
 [.cell (some 2) ⟨.d0, .d0, .d4⟩, .tmp ⟨.d0, .d0, .d5⟩]
/-- umlaut/umlautref20.Combine -/
def x12 : Ent := .code [⟨.d0, .d0, .d0⟩, ⟨.d0, .d0, .d1⟩]
 (.seq (.ops [⟨(some ⟨.d0, .d0, .d2⟩), none, .box none (.t ⟨.d0, .d0, .d0⟩)⟩,
  ⟨(some ⟨.d0, .d0, .d3⟩), none, .box none (.t ⟨.d0, .d0, .d1⟩)⟩,
  ⟨(some ⟨.d0, .d0, .d4⟩), none, .box none (.c (.agg [(.int .i64 (.ofNat 0)), (.str [])]))⟩,
  ⟨(some ⟨.d0, .d0, .d5⟩), none, .mv (.c (.int .i64 (.ofNat 0)))⟩])
 (.seq (.block 0 (.seq (.ops [⟨(some ⟨.d0, .d0, .d7⟩), none, .fieldA 0 (.t ⟨.d0, .d0, .d2⟩)⟩,
  ⟨(some ⟨.d0, .d1, .d0⟩), none, .load none (.t ⟨.d0, .d0, .d7⟩)⟩,
  ⟨(some ⟨.d0, .d1, .d1⟩), none, .bin .eql (.t ⟨.d0, .d1, .d0⟩) (.c (.int .i64 (.ofNat 3)))⟩,
  ⟨(some ⟨.d0, .d1, .d2⟩), none, .mv (.t ⟨.d0, .d1, .d1⟩)⟩,
  ⟨(some ⟨.d0, .d1, .d3⟩), (some (⟨.d0, .d1, .d2⟩, true)), .fieldA 0 (.t ⟨.d0, .d0, .d3⟩)⟩,
  ⟨(some ⟨.d0, .d1, .d4⟩), (some (⟨.d0, .d1, .d2⟩, true)), .load none (.t ⟨.d0, .d1, .d3⟩)⟩,
  ⟨(some ⟨.d0, .d1, .d5⟩), (some (⟨.d0, .d1, .d2⟩, true)), .bin .eql (.t ⟨.d0, .d1, .d4⟩) (.c (.int .i64 (.ofNat 3)))⟩,
  ⟨(some ⟨.d0, .d1, .d6⟩), none, .pick (.t ⟨.d0, .d1, .d2⟩) (.t ⟨.d0, .d1, .d5⟩) (.c (.bool false))⟩,
  ⟨(some ⟨.d0, .d1, .d7⟩), none, .mv (.t ⟨.d0, .d1, .d6⟩)⟩,
  ⟨(some ⟨.d0, .d2, .d0⟩), (some (⟨.d0, .d1, .d7⟩, true)), .fieldA 1 (.t ⟨.d0, .d0, .d2⟩)⟩,
  ⟨(some ⟨.d0, .d2, .d1⟩), (some (⟨.d0, .d1, .d7⟩, true)), .load none (.t ⟨.d0, .d2, .d0⟩)⟩,
  ⟨(some ⟨.d0, .d2, .d2⟩), (some (⟨.d0, .d1, .d7⟩, true)), .fieldA 1 (.t ⟨.d0, .d0, .d3⟩)⟩,
  ⟨(some ⟨.d0, .d2, .d3⟩), (some (⟨.d0, .d1, .d7⟩, true)), .load none (.t ⟨.d0, .d2, .d2⟩)⟩,
  ⟨(some ⟨.d0, .d2, .d4⟩), (some (⟨.d0, .d1, .d7⟩, true)), .bin .neq (.t ⟨.d0, .d2, .d1⟩) (.t ⟨.d0, .d2, .d3⟩)⟩,
  ⟨(some ⟨.d0, .d2, .d5⟩), none, .pick (.t ⟨.d0, .d1, .d7⟩) (.t ⟨.d0, .d2, .d4⟩) (.c (.bool false))⟩,
  ⟨(some ⟨.d0, .d0, .d6⟩), none, .mv (.t ⟨.d0, .d2, .d5⟩)⟩])
 (.cond (.t ⟨.d0, .d0, .d6⟩) (.seq (.ops [⟨(some ⟨.d0, .d2, .d6⟩), none, .build [(.int .i64 (.ofNat 0)), (.str [])] []⟩,
  ⟨none, none, .store 2 (.t ⟨.d0, .d0, .d4⟩) (.t ⟨.d0, .d2, .d6⟩)⟩,
  ⟨(some ⟨.d0, .d0, .d5⟩), none, .mv (.c (.int .i64 (.ofNat 13)))⟩])
 .ret) (.seq (.ops [⟨(some ⟨.d0, .d3, .d0⟩), none, .fieldA 0 (.t ⟨.d0, .d0, .d2⟩)⟩,
  ⟨(some ⟨.d0, .d3, .d1⟩), none, .load none (.t ⟨.d0, .d3, .d0⟩)⟩,
  ⟨(some ⟨.d0, .d3, .d2⟩), none, .fieldA 0 (.t ⟨.d0, .d0, .d3⟩)⟩,
  ⟨(some ⟨.d0, .d3, .d3⟩), none, .load none (.t ⟨.d0, .d3, .d2⟩)⟩,
  ⟨(some ⟨.d0, .d3, .d4⟩), none, .bin .neq (.t ⟨.d0, .d3, .d1⟩) (.t ⟨.d0, .d3, .d3⟩)⟩,
  ⟨(some ⟨.d0, .d2, .d7⟩), none, .mv (.t ⟨.d0, .d3, .d4⟩)⟩])
 (.cond (.t ⟨.d0, .d2, .d7⟩) (.seq (.seq (.ops [⟨(some ⟨.d0, .d3, .d5⟩), none, .fieldA 0 (.t ⟨.d0, .d0, .d2⟩)⟩,
  ⟨(some ⟨.d0, .d3, .d6⟩), none, .load none (.t ⟨.d0, .d3, .d5⟩)⟩,
  ⟨(some ⟨.d0, .d3, .d7⟩), none, .fieldA 0 (.t ⟨.d0, .d0, .d3⟩)⟩,
  ⟨(some ⟨.d0, .d4, .d0⟩), none, .load none (.t ⟨.d0, .d3, .d7⟩)⟩,
  ⟨(some ⟨.d0, .d4, .d1⟩), none, .bin .gtr (.t ⟨.d0, .d3, .d6⟩) (.t ⟨.d0, .d4, .d0⟩)⟩])
 (.cond (.t ⟨.d0, .d4, .d1⟩) (.seq (.ops [⟨(some ⟨.d0, .d4, .d2⟩), none, .load (some 2) (.t ⟨.d0, .d0, .d2⟩)⟩,
  ⟨none, none, .store 2 (.t ⟨.d0, .d0, .d4⟩) (.t ⟨.d0, .d4, .d2⟩)⟩,
  ⟨(some ⟨.d0, .d0, .d5⟩), none, .mv (.c (.int .i64 (.ofNat 0)))⟩])
 .ret) .skip))
 (.seq (.ops [⟨(some ⟨.d0, .d4, .d3⟩), none, .load (some 2) (.t ⟨.d0, .d0, .d3⟩)⟩,
  ⟨none, none, .store 2 (.t ⟨.d0, .d0, .d4⟩) (.t ⟨.d0, .d4, .d3⟩)⟩,
  ⟨(some ⟨.d0, .d0, .d5⟩), none, .mv (.c (.int .i64 (.ofNat 0)))⟩])
 .ret)) (.seq (.ops [⟨(some ⟨.d0, .d4, .d5⟩), none, .fieldA 0 (.t ⟨.d0, .d0, .d2⟩)⟩,
  ⟨(some ⟨.d0, .d4, .d6⟩), none, .load none (.t ⟨.d0, .d4, .d5⟩)⟩,
  ⟨(some ⟨.d0, .d4, .d7⟩), none, .bin .eql (.t ⟨.d0, .d4, .d6⟩) (.c (.int .i64 (.ofNat 1)))⟩,
  ⟨(some ⟨.d0, .d5, .d0⟩), none, .mv (.t ⟨.d0, .d4, .d7⟩)⟩,
  ⟨(some ⟨.d0, .d5, .d1⟩), (some (⟨.d0, .d5, .d0⟩, true)), .fieldA 1 (.t ⟨.d0, .d0, .d2⟩)⟩,
  ⟨(some ⟨.d0, .d5, .d2⟩), (some (⟨.d0, .d5, .d0⟩, true)), .load none (.t ⟨.d0, .d5, .d1⟩)⟩,
  ⟨(some ⟨.d0, .d5, .d3⟩), (some (⟨.d0, .d5, .d0⟩, true)), .fieldA 1 (.t ⟨.d0, .d0, .d3⟩)⟩,
  ⟨(some ⟨.d0, .d5, .d4⟩), (some (⟨.d0, .d5, .d0⟩, true)), .load none (.t ⟨.d0, .d5, .d3⟩)⟩,
  ⟨(some ⟨.d0, .d5, .d5⟩), (some (⟨.d0, .d5, .d0⟩, true)), .bin .neq (.t ⟨.d0, .d5, .d2⟩) (.t ⟨.d0, .d5, .d4⟩)⟩,
  ⟨(some ⟨.d0, .d5, .d6⟩), none, .pick (.t ⟨.d0, .d5, .d0⟩) (.t ⟨.d0, .d5, .d5⟩) (.c (.bool false))⟩,
  ⟨(some ⟨.d0, .d4, .d4⟩), none, .mv (.t ⟨.d0, .d5, .d6⟩)⟩])
 (.cond (.t ⟨.d0, .d4, .d4⟩) (.seq (.ops [⟨(some ⟨.d0, .d5, .d7⟩), none, .build [(.int .i64 (.ofNat 0)), (.str [])] [(0, 1, (.c (.int .i64 (.ofNat 2))))]⟩,
  ⟨none, none, .store 2 (.t ⟨.d0, .d0, .d4⟩) (.t ⟨.d0, .d5, .d7⟩)⟩,
  ⟨(some ⟨.d0, .d0, .d5⟩), none, .mv (.c (.int .i64 (.ofNat 0)))⟩])
 .ret) .skip)))))))
 (.seq (.ops [⟨(some ⟨.d0, .d6, .d0⟩), none, .load (some 2) (.t ⟨.d0, .d0, .d2⟩)⟩,
  ⟨none, none, .store 2 (.t ⟨.d0, .d0, .d4⟩) (.t ⟨.d0, .d6, .d0⟩)⟩,
  ⟨(some ⟨.d0, .d0, .d5⟩), none, .mv (.c (.int .i64 (.ofNat 0)))⟩])
 .ret)))
 [.cell (some 2) ⟨.d0, .d0, .d4⟩, .tmp ⟨.d0, .d0, .d5⟩]
/-- (*umlaut/bind.binder).node -/
def x14 : Ent := .code [⟨.d0, .d0, .d0⟩, ⟨.d0, .d0, .d1⟩]
 (.seq (.ops [⟨(some ⟨.d0, .d0, .d3⟩), none, .box none (.t ⟨.d0, .d0, .d1⟩)⟩,
  ⟨(some ⟨.d0, .d0, .d4⟩), none, .box none (.c (.agg [(.int .i64 (.ofNat 0)), (.int .i64 (.ofNat 0)), (.str []), (.str []), (.int .i64 (.ofNat 0)), .nils, (.int .i64 (.ofNat 0)), (.int .i64 (.ofNat 0)), (.str [])]))⟩,
  ⟨(some ⟨.d0, .d0, .d5⟩), none, .mv (.c (.int .i64 (.ofNat 0)))⟩])
 (.seq (.seq (.ops [⟨(some ⟨.d0, .d1, .d2⟩), none, .fieldA 0 (.t ⟨.d0, .d0, .d3⟩)⟩,
  ⟨(some ⟨.d0, .d1, .d3⟩), none, .load none (.t ⟨.d0, .d1, .d2⟩)⟩])
 (.block 0 (.seq (.ops [⟨(some ⟨.d0, .d1, .d5⟩), none, .bin .eql (.t ⟨.d0, .d1, .d3⟩) (.c (.int .i64 (.ofNat 4)))⟩,
  ⟨(some ⟨.d0, .d1, .d4⟩), none, .mv (.t ⟨.d0, .d1, .d5⟩)⟩])
 (.cond (.t ⟨.d0, .d1, .d4⟩) (.seq (.ops [⟨(some ⟨.d0, .d1, .d6⟩), none, .mv (.t ⟨.d0, .d0, .d0⟩)⟩,
  ⟨(some ⟨.d0, .d1, .d7⟩), none, .load (some 6) (.t ⟨.d0, .d0, .d3⟩)⟩,
  ⟨(some ⟨.d0, .d2, .d0⟩), none, .callF ⟨.d0, .d2, .d4⟩ [(.t ⟨.d0, .d1, .d6⟩), (.t ⟨.d0, .d1, .d7⟩)]⟩,
  ⟨(some ⟨.d0, .d2, .d1⟩), none, .ext (.t ⟨.d0, .d2, .d0⟩) 0⟩,
  ⟨(some ⟨.d0, .d2, .d2⟩), none, .ext (.t ⟨.d0, .d2, .d0⟩) 1⟩,
  ⟨none, none, .store 9 (.t ⟨.d0, .d0, .d4⟩) (.t ⟨.d0, .d2, .d1⟩)⟩,
  ⟨(some ⟨.d0, .d0, .d5⟩), none, .mv (.t ⟨.d0, .d2, .d2⟩)⟩])
 .ret) (.seq (.ops [⟨(some ⟨.d0, .d2, .d4⟩), none, .bin .eql (.t ⟨.d0, .d1, .d3⟩) (.c (.int .i64 (.ofNat 14)))⟩,
  ⟨(some ⟨.d0, .d2, .d3⟩), none, .mv (.t ⟨.d0, .d2, .d4⟩)⟩])
 (.cond (.t ⟨.d0, .d2, .d3⟩) (.seq (.seq (.ops [⟨(some ⟨.d0, .d2, .d5⟩), none, .mv (.t ⟨.d0, .d0, .d0⟩)⟩,
  ⟨(some ⟨.d0, .d2, .d6⟩), none, .nilck (.t ⟨.d0, .d2, .d5⟩)⟩,
  ⟨(some ⟨.d0, .d2, .d7⟩), none, .fieldA 2 (.t ⟨.d0, .d2, .d6⟩)⟩,
  ⟨(some ⟨.d0, .d3, .d0⟩), none, .load none (.t ⟨.d0, .d2, .d7⟩)⟩,
  ⟨(some ⟨.d0, .d3, .d1⟩), none, .eq false .func (.t ⟨.d0, .d3, .d0⟩) (.c .nilf)⟩])
 (.cond (.t ⟨.d0, .d3, .d1⟩) (.seq (.ops [⟨(some ⟨.d0, .d3, .d2⟩), none, .build [(.int .i64 (.ofNat 0)), (.int .i64 (.ofNat 0)), (.str []), (.str []), (.int .i64 (.ofNat 0)), .nils, (.int .i64 (.ofNat 0)), (.int .i64 (.ofNat 0)), (.str [])] []⟩,
  ⟨none, none, .store 9 (.t ⟨.d0, .d0, .d4⟩) (.t ⟨.d0, .d3, .d2⟩)⟩,
  ⟨(some ⟨.d0, .d0, .d5⟩), none, .mv (.c (.int .i64 (.ofNat 23)))⟩])
 .ret) .skip))
 (.seq (.reg 0 [] [⟨(some ⟨.d0, .d3, .d3⟩), none, .mv (.t ⟨.d0, .d0, .d0⟩)⟩,
  ⟨(some ⟨.d0, .d3, .d4⟩), none, .nilck (.t ⟨.d0, .d3, .d3⟩)⟩,
  ⟨(some ⟨.d0, .d3, .d5⟩), none, .fieldA 2 (.t ⟨.d0, .d3, .d4⟩)⟩,
  ⟨(some ⟨.d0, .d3, .d6⟩), none, .load none (.t ⟨.d0, .d3, .d5⟩)⟩,
  ⟨(some ⟨.d0, .d3, .d7⟩), none, .load (some 6) (.t ⟨.d0, .d0, .d3⟩)⟩,
  ⟨(some ⟨.d0, .d4, .d0⟩), none, .callV (.t ⟨.d0, .d3, .d6⟩) [(.t ⟨.d0, .d3, .d7⟩)]⟩,
  ⟨(some ⟨.d0, .d4, .d1⟩), none, .ext (.t ⟨.d0, .d4, .d0⟩) 0⟩,
  ⟨(some ⟨.d0, .d4, .d2⟩), none, .ext (.t ⟨.d0, .d4, .d0⟩) 1⟩,
  ⟨none, none, .store 9 (.t ⟨.d0, .d0, .d4⟩) (.t ⟨.d0, .d4, .d1⟩)⟩,
  ⟨(some ⟨.d0, .d0, .d5⟩), none, .mv (.t ⟨.d0, .d4, .d2⟩)⟩])
 .ret)) .skip))))))
 (.seq (.ops [⟨(some ⟨.d0, .d4, .d4⟩), none, .mv (.t ⟨.d0, .d0, .d0⟩)⟩,
  ⟨(some ⟨.d0, .d4, .d5⟩), none, .fieldA 5 (.t ⟨.d0, .d0, .d3⟩)⟩,
  ⟨(some ⟨.d0, .d4, .d6⟩), none, .load none (.t ⟨.d0, .d4, .d5⟩)⟩,
  ⟨(some ⟨.d0, .d4, .d7⟩), none, .callF ⟨.d0, .d2, .d5⟩ [(.t ⟨.d0, .d4, .d4⟩), (.t ⟨.d0, .d4, .d6⟩)]⟩,
  ⟨(some ⟨.d0, .d4, .d3⟩), none, .mv (.t ⟨.d0, .d4, .d7⟩)⟩,
  ⟨(some ⟨.d0, .d5, .d0⟩), none, .ext (.t ⟨.d0, .d4, .d3⟩) 0⟩,
  ⟨(some ⟨.d0, .d5, .d1⟩), none, .ext (.t ⟨.d0, .d4, .d3⟩) 1⟩,
  ⟨(some ⟨.d0, .d0, .d6⟩), none, .mv (.t ⟨.d0, .d5, .d0⟩)⟩,
  ⟨(some ⟨.d0, .d0, .d7⟩), none, .mv (.t ⟨.d0, .d5, .d1⟩)⟩])
 (.seq (.seq (.ops [⟨(some ⟨.d0, .d5, .d2⟩), none, .mv (.t ⟨.d0, .d0, .d7⟩)⟩,
  ⟨(some ⟨.d0, .d5, .d3⟩), none, .bin .neq (.t ⟨.d0, .d5, .d2⟩) (.c (.int .i64 (.ofNat 0)))⟩])
 (.cond (.t ⟨.d0, .d5, .d3⟩) (.seq (.ops [⟨(some ⟨.d0, .d5, .d4⟩), none, .build [(.int .i64 (.ofNat 0)), (.int .i64 (.ofNat 0)), (.str []), (.str []), (.int .i64 (.ofNat 0)), .nils, (.int .i64 (.ofNat 0)), (.int .i64 (.ofNat 0)), (.str [])] []⟩,
  ⟨(some ⟨.d0, .d5, .d5⟩), none, .mv (.t ⟨.d0, .d0, .d7⟩)⟩,
  ⟨none, none, .store 9 (.t ⟨.d0, .d0, .d4⟩) (.t ⟨.d0, .d5, .d4⟩)⟩,
  ⟨(some ⟨.d0, .d0, .d5⟩), none, .mv (.t ⟨.d0, .d5, .d5⟩)⟩])
 .ret) .skip))
 (.seq (.ops [⟨(some ⟨.d0, .d5, .d6⟩), none, .fieldA 5 (.t ⟨.d0, .d0, .d3⟩)⟩,
  ⟨none, none, .store 1 (.t ⟨.d0, .d5, .d6⟩) (.c .nils)⟩])
 (.seq (.seq (.ops [⟨(some ⟨.d0, .d5, .d7⟩), none, .mv (.t ⟨.d0, .d0, .d6⟩)⟩,
  ⟨(some ⟨.d0, .d6, .d0⟩), none, .len .sli (.t ⟨.d0, .d5, .d7⟩)⟩,
  ⟨(some ⟨.d0, .d6, .d1⟩), none, .mv (.c (.int .i64 (.ofNat 0)))⟩])
 (.block 1 (.loop (.seq (.ops [⟨(some ⟨.d0, .d6, .d2⟩), none, .bin .lss (.t ⟨.d0, .d6, .d1⟩) (.t ⟨.d0, .d6, .d0⟩)⟩])
 (.seq (.cond (.t ⟨.d0, .d6, .d2⟩) .skip (.exit 1))
 (.seq (.block 2 (.seq (.ops [⟨(some ⟨.d0, .d6, .d3⟩), none, .idxA none 9 (.t ⟨.d0, .d5, .d7⟩) (.t ⟨.d0, .d6, .d1⟩)⟩,
  ⟨(some ⟨.d0, .d6, .d4⟩), none, .load (some 9) (.t ⟨.d0, .d6, .d3⟩)⟩,
  ⟨(some ⟨.d0, .d1, .d1⟩), none, .box none (.c (.agg [(.int .i64 (.ofNat 0)), (.int .i64 (.ofNat 0)), (.str []), (.str []), (.int .i64 (.ofNat 0)), .nils, (.int .i64 (.ofNat 0)), (.int .i64 (.ofNat 0)), (.str [])]))⟩,
  ⟨none, none, .store 9 (.t ⟨.d0, .d1, .d1⟩) (.t ⟨.d0, .d6, .d4⟩)⟩])
 (.ops [⟨(some ⟨.d0, .d6, .d5⟩), none, .fieldA 5 (.t ⟨.d0, .d0, .d3⟩)⟩,
  ⟨(some ⟨.d0, .d6, .d6⟩), none, .load none (.t ⟨.d0, .d6, .d5⟩)⟩,
  ⟨(some ⟨.d0, .d6, .d7⟩), none, .fieldA 0 (.t ⟨.d0, .d1, .d1⟩)⟩,
  ⟨(some ⟨.d0, .d7, .d0⟩), none, .load (some 6) (.t ⟨.d0, .d6, .d7⟩)⟩,
  ⟨(some ⟨.d0, .d7, .d1⟩), none, .buildS none 6 1 [(.int .i64 (.ofNat 0)), (.int .i64 (.ofNat 0)), (.str []), (.str []), (.int .i64 (.ofNat 0)), .nils] [(0, 6, (.t ⟨.d0, .d7, .d0⟩))]⟩,
  ⟨(some ⟨.d0, .d7, .d2⟩), none, .app 6 80 (.t ⟨.d0, .d6, .d6⟩) (.t ⟨.d0, .d7, .d1⟩)⟩,
  ⟨(some ⟨.d0, .d7, .d3⟩), none, .fieldA 5 (.t ⟨.d0, .d0, .d3⟩)⟩,
  ⟨none, none, .store 1 (.t ⟨.d0, .d7, .d3⟩) (.t ⟨.d0, .d7, .d2⟩)⟩])))
 (.ops [⟨(some ⟨.d0, .d7, .d4⟩), none, .bin .add (.t ⟨.d0, .d6, .d1⟩) (.c (.int .i64 (.ofNat 1)))⟩,
  ⟨(some ⟨.d0, .d6, .d1⟩), none, .mv (.t ⟨.d0, .d7, .d4⟩)⟩])))))))
 (.seq (.seq (.ops [⟨(some ⟨.d0, .d7, .d5⟩), none, .fieldA 0 (.t ⟨.d0, .d0, .d3⟩)⟩,
  ⟨(some ⟨.d0, .d7, .d6⟩), none, .load none (.t ⟨.d0, .d7, .d5⟩)⟩])
 (.block 3 (.seq (.ops [⟨(some ⟨.d1, .d0, .d0⟩), none, .bin .eql (.t ⟨.d0, .d7, .d6⟩) (.c (.int .i64 (.ofNat 0)))⟩,
  ⟨(some ⟨.d0, .d7, .d7⟩), none, .mv (.t ⟨.d1, .d0, .d0⟩)⟩])
 (.cond (.t ⟨.d0, .d7, .d7⟩) (.seq (.ops [⟨(some ⟨.d1, .d0, .d1⟩), none, .load (some 6) (.t ⟨.d0, .d0, .d3⟩)⟩,
  ⟨(some ⟨.d1, .d0, .d2⟩), none, .callF ⟨.d0, .d2, .d6⟩ [(.t ⟨.d1, .d0, .d1⟩), (.c (.int .i64 (.ofNat 0)))]⟩,
  ⟨none, none, .store 9 (.t ⟨.d0, .d0, .d4⟩) (.t ⟨.d1, .d0, .d2⟩)⟩,
  ⟨(some ⟨.d0, .d0, .d5⟩), none, .mv (.c (.int .i64 (.ofNat 0)))⟩])
 .ret) (.seq (.ops [⟨(some ⟨.d1, .d0, .d4⟩), none, .bin .eql (.t ⟨.d0, .d7, .d6⟩) (.c (.int .i64 (.ofNat 1)))⟩,
  ⟨(some ⟨.d1, .d0, .d3⟩), none, .mv (.t ⟨.d1, .d0, .d4⟩)⟩])
 (.cond (.t ⟨.d1, .d0, .d3⟩) (.seq (.ops [⟨(some ⟨.d1, .d0, .d5⟩), none, .load (some 6) (.t ⟨.d0, .d0, .d3⟩)⟩,
  ⟨(some ⟨.d1, .d0, .d6⟩), none, .callF ⟨.d0, .d2, .d6⟩ [(.t ⟨.d1, .d0, .d5⟩), (.c (.int .i64 (.ofNat 1)))]⟩,
  ⟨none, none, .store 9 (.t ⟨.d0, .d0, .d4⟩) (.t ⟨.d1, .d0, .d6⟩)⟩,
  ⟨(some ⟨.d0, .d0, .d5⟩), none, .mv (.c (.int .i64 (.ofNat 0)))⟩])
 .ret) (.seq (.ops [⟨(some ⟨.d1, .d1, .d0⟩), none, .bin .eql (.t ⟨.d0, .d7, .d6⟩) (.c (.int .i64 (.ofNat 2)))⟩,
  ⟨(some ⟨.d1, .d0, .d7⟩), none, .mv (.t ⟨.d1, .d1, .d0⟩)⟩])
 (.cond (.t ⟨.d1, .d0, .d7⟩) (.seq (.ops [⟨(some ⟨.d1, .d1, .d1⟩), none, .load (some 6) (.t ⟨.d0, .d0, .d3⟩)⟩,
  ⟨(some ⟨.d1, .d1, .d2⟩), none, .callF ⟨.d0, .d2, .d6⟩ [(.t ⟨.d1, .d1, .d1⟩), (.c (.int .i64 (.ofNat 2)))]⟩,
  ⟨none, none, .store 9 (.t ⟨.d0, .d0, .d4⟩) (.t ⟨.d1, .d1, .d2⟩)⟩,
  ⟨(some ⟨.d0, .d0, .d5⟩), none, .mv (.c (.int .i64 (.ofNat 0)))⟩])
 .ret) (.seq (.ops [⟨(some ⟨.d1, .d1, .d4⟩), none, .bin .eql (.t ⟨.d0, .d7, .d6⟩) (.c (.int .i64 (.ofNat 3)))⟩,
  ⟨(some ⟨.d1, .d1, .d3⟩), none, .mv (.t ⟨.d1, .d1, .d4⟩)⟩])
 (.cond (.t ⟨.d1, .d1, .d3⟩) (.seq (.ops [⟨(some ⟨.d1, .d1, .d5⟩), none, .load (some 6) (.t ⟨.d0, .d0, .d3⟩)⟩,
  ⟨(some ⟨.d1, .d1, .d6⟩), none, .callF ⟨.d0, .d2, .d6⟩ [(.t ⟨.d1, .d1, .d5⟩), (.c (.int .i64 (.ofNat 3)))]⟩,
  ⟨none, none, .store 9 (.t ⟨.d0, .d0, .d4⟩) (.t ⟨.d1, .d1, .d6⟩)⟩,
  ⟨(some ⟨.d0, .d0, .d5⟩), none, .mv (.c (.int .i64 (.ofNat 0)))⟩])
 .ret) (.seq (.ops [⟨(some ⟨.d1, .d2, .d0⟩), none, .bin .eql (.t ⟨.d0, .d7, .d6⟩) (.c (.int .i64 (.ofNat 7)))⟩,
  ⟨(some ⟨.d1, .d1, .d7⟩), none, .mv (.t ⟨.d1, .d2, .d0⟩)⟩])
 (.cond (.t ⟨.d1, .d1, .d7⟩) (.seq (.ops [⟨(some ⟨.d1, .d2, .d1⟩), none, .load (some 6) (.t ⟨.d0, .d0, .d3⟩)⟩,
  ⟨(some ⟨.d1, .d2, .d2⟩), none, .callF ⟨.d0, .d2, .d6⟩ [(.t ⟨.d1, .d2, .d1⟩), (.c (.int .i64 (.ofNat 1)))]⟩,
  ⟨none, none, .store 9 (.t ⟨.d0, .d0, .d4⟩) (.t ⟨.d1, .d2, .d2⟩)⟩,
  ⟨(some ⟨.d0, .d0, .d5⟩), none, .mv (.c (.int .i64 (.ofNat 0)))⟩])
 .ret) (.seq (.ops [⟨(some ⟨.d1, .d2, .d4⟩), none, .bin .eql (.t ⟨.d0, .d7, .d6⟩) (.c (.int .i64 (.ofNat 11)))⟩,
  ⟨(some ⟨.d1, .d2, .d3⟩), none, .mv (.t ⟨.d1, .d2, .d4⟩)⟩])
 (.cond (.t ⟨.d1, .d2, .d3⟩) (.seq (.ops [⟨(some ⟨.d1, .d2, .d5⟩), none, .mv (.t ⟨.d0, .d0, .d0⟩)⟩,
  ⟨(some ⟨.d1, .d2, .d6⟩), none, .load (some 6) (.t ⟨.d0, .d0, .d3⟩)⟩,
  ⟨(some ⟨.d1, .d2, .d7⟩), none, .mv (.t ⟨.d0, .d0, .d6⟩)⟩,
  ⟨(some ⟨.d1, .d3, .d0⟩), none, .callF ⟨.d0, .d2, .d7⟩ [(.t ⟨.d1, .d2, .d5⟩), (.t ⟨.d1, .d2, .d6⟩), (.t ⟨.d1, .d2, .d7⟩)]⟩,
  ⟨(some ⟨.d1, .d3, .d1⟩), none, .ext (.t ⟨.d1, .d3, .d0⟩) 0⟩,
  ⟨(some ⟨.d1, .d3, .d2⟩), none, .ext (.t ⟨.d1, .d3, .d0⟩) 1⟩,
  ⟨none, none, .store 9 (.t ⟨.d0, .d0, .d4⟩) (.t ⟨.d1, .d3, .d1⟩)⟩,
  ⟨(some ⟨.d0, .d0, .d5⟩), none, .mv (.t ⟨.d1, .d3, .d2⟩)⟩])
 .ret) (.seq (.ops [⟨(some ⟨.d1, .d3, .d4⟩), none, .bin .eql (.t ⟨.d0, .d7, .d6⟩) (.c (.int .i64 (.ofNat 13)))⟩,
  ⟨(some ⟨.d1, .d3, .d3⟩), none, .mv (.t ⟨.d1, .d3, .d4⟩)⟩])
 (.cond (.t ⟨.d1, .d3, .d3⟩) (.seq (.ops [⟨(some ⟨.d1, .d3, .d5⟩), none, .load (some 6) (.t ⟨.d0, .d0, .d3⟩)⟩,
  ⟨(some ⟨.d1, .d3, .d6⟩), none, .mv (.t ⟨.d0, .d0, .d6⟩)⟩,
  ⟨(some ⟨.d1, .d3, .d7⟩), none, .callF ⟨.d0, .d3, .d0⟩ [(.t ⟨.d1, .d3, .d5⟩), (.t ⟨.d1, .d3, .d6⟩)]⟩,
  ⟨(some ⟨.d1, .d4, .d0⟩), none, .ext (.t ⟨.d1, .d3, .d7⟩) 0⟩,
  ⟨(some ⟨.d1, .d4, .d1⟩), none, .ext (.t ⟨.d1, .d3, .d7⟩) 1⟩,
  ⟨none, none, .store 9 (.t ⟨.d0, .d0, .d4⟩) (.t ⟨.d1, .d4, .d0⟩)⟩,
  ⟨(some ⟨.d0, .d0, .d5⟩), none, .mv (.t ⟨.d1, .d4, .d1⟩)⟩])
 .ret) (.seq (.ops [⟨(some ⟨.d1, .d4, .d3⟩), none, .bin .eql (.t ⟨.d0, .d7, .d6⟩) (.c (.int .i64 (.ofNat 12)))⟩,
  ⟨(some ⟨.d1, .d4, .d2⟩), none, .mv (.t ⟨.d1, .d4, .d3⟩)⟩])
 (.cond (.t ⟨.d1, .d4, .d2⟩) (.seq (.seq (.ops [⟨(some ⟨.d1, .d4, .d4⟩), none, .fieldA 4 (.t ⟨.d0, .d0, .d3⟩)⟩,
  ⟨(some ⟨.d1, .d4, .d5⟩), none, .load none (.t ⟨.d1, .d4, .d4⟩)⟩,
  ⟨(some ⟨.d1, .d4, .d6⟩), none, .bin .lss (.t ⟨.d1, .d4, .d5⟩) (.c (.int .i64 (.ofNat 1)))⟩,
  ⟨(some ⟨.d1, .d4, .d7⟩), none, .mv (.t ⟨.d1, .d4, .d6⟩)⟩,
  ⟨(some ⟨.d1, .d5, .d0⟩), (some (⟨.d1, .d4, .d7⟩, false)), .fieldA 4 (.t ⟨.d0, .d0, .d3⟩)⟩,
  ⟨(some ⟨.d1, .d5, .d1⟩), (some (⟨.d1, .d4, .d7⟩, false)), .load none (.t ⟨.d1, .d5, .d0⟩)⟩,
  ⟨(some ⟨.d1, .d5, .d2⟩), (some (⟨.d1, .d4, .d7⟩, false)), .bin .gtr (.t ⟨.d1, .d5, .d1⟩) (.c (.int .i64 (.ofNat 3)))⟩,
  ⟨(some ⟨.d1, .d5, .d3⟩), none, .pick (.t ⟨.d1, .d4, .d7⟩) (.c (.bool true)) (.t ⟨.d1, .d5, .d2⟩)⟩])
 (.cond (.t ⟨.d1, .d5, .d3⟩) (.seq (.ops [⟨(some ⟨.d1, .d5, .d4⟩), none, .build [(.int .i64 (.ofNat 0)), (.int .i64 (.ofNat 0)), (.str []), (.str []), (.int .i64 (.ofNat 0)), .nils, (.int .i64 (.ofNat 0)), (.int .i64 (.ofNat 0)), (.str [])] []⟩,
  ⟨none, none, .store 9 (.t ⟨.d0, .d0, .d4⟩) (.t ⟨.d1, .d5, .d4⟩)⟩,
  ⟨(some ⟨.d0, .d0, .d5⟩), none, .mv (.c (.int .i64 (.ofNat 12)))⟩])
 .ret) .skip))
 (.seq (.ops [⟨(some ⟨.d1, .d5, .d5⟩), none, .load (some 6) (.t ⟨.d0, .d0, .d3⟩)⟩,
  ⟨(some ⟨.d1, .d5, .d6⟩), none, .fieldA 4 (.t ⟨.d0, .d0, .d3⟩)⟩,
  ⟨(some ⟨.d1, .d5, .d7⟩), none, .load none (.t ⟨.d1, .d5, .d6⟩)⟩,
  ⟨(some ⟨.d1, .d6, .d0⟩), none, .callF ⟨.d0, .d2, .d6⟩ [(.t ⟨.d1, .d5, .d5⟩), (.t ⟨.d1, .d5, .d7⟩)]⟩,
  ⟨none, none, .store 9 (.t ⟨.d0, .d0, .d4⟩) (.t ⟨.d1, .d6, .d0⟩)⟩,
  ⟨(some ⟨.d0, .d0, .d5⟩), none, .mv (.c (.int .i64 (.ofNat 0)))⟩])
 .ret)) (.seq (.seq (.ops [⟨(some ⟨.d1, .d6, .d2⟩), none, .bin .eql (.t ⟨.d0, .d7, .d6⟩) (.c (.int .i64 (.ofNat 5)))⟩,
  ⟨(some ⟨.d1, .d6, .d1⟩), none, .mv (.t ⟨.d1, .d6, .d2⟩)⟩])
 (.cond (.t ⟨.d1, .d6, .d1⟩) .skip (.ops [⟨(some ⟨.d1, .d6, .d3⟩), none, .bin .eql (.t ⟨.d0, .d7, .d6⟩) (.c (.int .i64 (.ofNat 6)))⟩,
  ⟨(some ⟨.d1, .d6, .d1⟩), none, .mv (.t ⟨.d1, .d6, .d3⟩)⟩])))
 (.cond (.t ⟨.d1, .d6, .d1⟩) (.seq (.ops [⟨(some ⟨.d1, .d6, .d4⟩), none, .fieldA 0 (.t ⟨.d0, .d0, .d3⟩)⟩,
  ⟨(some ⟨.d1, .d6, .d5⟩), none, .load none (.t ⟨.d1, .d6, .d4⟩)⟩,
  ⟨(some ⟨.d1, .d6, .d6⟩), none, .bin .eql (.t ⟨.d1, .d6, .d5⟩) (.c (.int .i64 (.ofNat 5)))⟩,
  ⟨(some ⟨.d1, .d6, .d7⟩), none, .mv (.t ⟨.d1, .d6, .d6⟩)⟩,
  ⟨(some ⟨.d1, .d7, .d0⟩), (some (⟨.d1, .d6, .d7⟩, false)), .fieldA 1 (.t ⟨.d0, .d0, .d3⟩)⟩,
  ⟨(some ⟨.d1, .d7, .d1⟩), (some (⟨.d1, .d6, .d7⟩, false)), .load none (.t ⟨.d1, .d7, .d0⟩)⟩,
  ⟨(some ⟨.d1, .d7, .d2⟩), (some (⟨.d1, .d6, .d7⟩, false)), .bin .lss (.t ⟨.d1, .d7, .d1⟩) (.c (.int .i64 (.ofNat 1)))⟩,
  ⟨(some ⟨.d1, .d7, .d3⟩), none, .pick (.t ⟨.d1, .d6, .d7⟩) (.c (.bool true)) (.t ⟨.d1, .d7, .d2⟩)⟩,
  ⟨(some ⟨.d1, .d7, .d4⟩), none, .mv (.t ⟨.d1, .d7, .d3⟩)⟩,
  ⟨(some ⟨.d1, .d7, .d5⟩), (some (⟨.d1, .d7, .d4⟩, false)), .fieldA 1 (.t ⟨.d0, .d0, .d3⟩)⟩,
  ⟨(some ⟨.d1, .d7, .d6⟩), (some (⟨.d1, .d7, .d4⟩, false)), .load none (.t ⟨.d1, .d7, .d5⟩)⟩,
  ⟨(some ⟨.d1, .d7, .d7⟩), (some (⟨.d1, .d7, .d4⟩, false)), .bin .gtr (.t ⟨.d1, .d7, .d6⟩) (.c (.int .i64 (.ofNat 6)))⟩,
  ⟨(some ⟨.d2, .d0, .d0⟩), none, .pick (.t ⟨.d1, .d7, .d4⟩) (.c (.bool true)) (.t ⟨.d1, .d7, .d7⟩)⟩])
 (.cond (.t ⟨.d2, .d0, .d0⟩) (.seq (.ops [⟨(some ⟨.d2, .d0, .d1⟩), none, .load (some 6) (.t ⟨.d0, .d0, .d3⟩)⟩,
  ⟨(some ⟨.d2, .d0, .d2⟩), none, .mv (.t ⟨.d0, .d0, .d6⟩)⟩,
  ⟨(some ⟨.d2, .d0, .d3⟩), none, .callF ⟨.d0, .d3, .d1⟩ [(.t ⟨.d2, .d0, .d1⟩), (.t ⟨.d2, .d0, .d2⟩)]⟩,
  ⟨(some ⟨.d2, .d0, .d4⟩), none, .ext (.t ⟨.d2, .d0, .d3⟩) 0⟩,
  ⟨(some ⟨.d2, .d0, .d5⟩), none, .ext (.t ⟨.d2, .d0, .d3⟩) 1⟩,
  ⟨none, none, .store 9 (.t ⟨.d0, .d0, .d4⟩) (.t ⟨.d2, .d0, .d4⟩)⟩,
  ⟨(some ⟨.d0, .d0, .d5⟩), none, .mv (.t ⟨.d2, .d0, .d5⟩)⟩])
 .ret) .skip)) .skip))))))))))))))))))))
 (.seq (.ops [⟨(some ⟨.d2, .d0, .d6⟩), none, .load (some 6) (.t ⟨.d0, .d0, .d3⟩)⟩,
  ⟨(some ⟨.d2, .d0, .d7⟩), none, .mv (.t ⟨.d0, .d0, .d6⟩)⟩,
  ⟨(some ⟨.d2, .d1, .d0⟩), none, .callF ⟨.d0, .d3, .d2⟩ [(.t ⟨.d2, .d0, .d6⟩), (.t ⟨.d2, .d0, .d7⟩)]⟩,
  ⟨(some ⟨.d2, .d1, .d1⟩), none, .ext (.t ⟨.d2, .d1, .d0⟩) 0⟩,
  ⟨(some ⟨.d2, .d1, .d2⟩), none, .ext (.t ⟨.d2, .d1, .d0⟩) 1⟩,
  ⟨none, none, .store 9 (.t ⟨.d0, .d0, .d4⟩) (.t ⟨.d2, .d1, .d1⟩)⟩,
  ⟨(some ⟨.d0, .d0, .d5⟩), none, .mv (.t ⟨.d2, .d1, .d2⟩)⟩])
 .ret))))))))
 [.cell (some 9) ⟨.d0, .d0, .d4⟩, .tmp ⟨.d0, .d0, .d5⟩]
/-- (*umlaut/bind.binder).column -/
def x20 : Ent := .code [⟨.d0, .d0, .d0⟩, ⟨.d0, .d0, .d1⟩]
 (.seq (.ops [⟨(some ⟨.d0, .d0, .d3⟩), none, .box none (.t ⟨.d0, .d0, .d1⟩)⟩,
  ⟨(some ⟨.d0, .d0, .d4⟩), none, .box none (.c (.agg [(.int .i64 (.ofNat 0)), (.int .i64 (.ofNat 0)), (.str []), (.str []), (.int .i64 (.ofNat 0)), .nils, (.int .i64 (.ofNat 0)), (.int .i64 (.ofNat 0)), (.str [])]))⟩,
  ⟨(some ⟨.d0, .d0, .d5⟩), none, .mv (.c (.int .i64 (.ofNat 0)))⟩])
 (.seq (.ops [⟨(some ⟨.d0, .d0, .d6⟩), none, .mv (.c (.int .i64 (.negSucc 0)))⟩])
 (.seq (.seq (.ops [⟨(some ⟨.d0, .d1, .d3⟩), none, .mv (.t ⟨.d0, .d0, .d0⟩)⟩,
  ⟨(some ⟨.d0, .d1, .d4⟩), none, .nilck (.t ⟨.d0, .d1, .d3⟩)⟩,
  ⟨(some ⟨.d0, .d1, .d5⟩), none, .fieldA 0 (.t ⟨.d0, .d1, .d4⟩)⟩,
  ⟨(some ⟨.d0, .d1, .d6⟩), none, .fieldA 0 (.t ⟨.d0, .d1, .d5⟩)⟩,
  ⟨(some ⟨.d0, .d1, .d7⟩), none, .load none (.t ⟨.d0, .d1, .d6⟩)⟩,
  ⟨(some ⟨.d0, .d2, .d0⟩), none, .len .sli (.t ⟨.d0, .d1, .d7⟩)⟩,
  ⟨(some ⟨.d0, .d2, .d1⟩), none, .mv (.c (.int .i64 (.ofNat 0)))⟩])
 (.block 0 (.loop (.seq (.ops [⟨(some ⟨.d0, .d2, .d2⟩), none, .bin .lss (.t ⟨.d0, .d2, .d1⟩) (.t ⟨.d0, .d2, .d0⟩)⟩])
 (.seq (.cond (.t ⟨.d0, .d2, .d2⟩) .skip (.exit 0))
 (.seq (.block 1 (.seq (.ops [⟨(some ⟨.d0, .d2, .d3⟩), none, .mv (.t ⟨.d0, .d2, .d1⟩)⟩,
  ⟨(some ⟨.d0, .d2, .d4⟩), none, .idxA none 4 (.t ⟨.d0, .d1, .d7⟩) (.t ⟨.d0, .d2, .d1⟩)⟩,
  ⟨(some ⟨.d0, .d2, .d5⟩), none, .load (some 4) (.t ⟨.d0, .d2, .d4⟩)⟩,
  ⟨(some ⟨.d0, .d1, .d0⟩), none, .box none (.c (.agg [(.str []), (.str []), (.str []), (.int .i64 (.ofNat 0))]))⟩,
  ⟨(some ⟨.d0, .d0, .d7⟩), none, .mv (.t ⟨.d0, .d2, .d3⟩)⟩,
  ⟨none, none, .store 4 (.t ⟨.d0, .d1, .d0⟩) (.t ⟨.d0, .d2, .d5⟩)⟩])
 (.seq (.ops [⟨(some ⟨.d0, .d2, .d6⟩), none, .fieldA 0 (.t ⟨.d0, .d1, .d0⟩)⟩,
  ⟨(some ⟨.d0, .d2, .d7⟩), none, .load none (.t ⟨.d0, .d2, .d6⟩)⟩,
  ⟨(some ⟨.d0, .d3, .d0⟩), none, .fieldA 1 (.t ⟨.d0, .d1, .d0⟩)⟩,
  ⟨(some ⟨.d0, .d3, .d1⟩), none, .load none (.t ⟨.d0, .d3, .d0⟩)⟩,
  ⟨(some ⟨.d0, .d3, .d2⟩), none, .build [(.str []), (.str [])] [(0, 1, (.t ⟨.d0, .d2, .d7⟩)), (1, 1, (.t ⟨.d0, .d3, .d1⟩))]⟩,
  ⟨(some ⟨.d0, .d3, .d3⟩), none, .fieldA 3 (.t ⟨.d0, .d0, .d3⟩)⟩,
  ⟨(some ⟨.d0, .d3, .d4⟩), none, .load none (.t ⟨.d0, .d3, .d3⟩)⟩,
  ⟨(some ⟨.d0, .d3, .d5⟩), none, .fieldA 2 (.t ⟨.d0, .d0, .d3⟩)⟩,
  ⟨(some ⟨.d0, .d3, .d6⟩), none, .load none (.t ⟨.d0, .d3, .d5⟩)⟩,
  ⟨(some ⟨.d0, .d3, .d7⟩), none, .build [(.str []), (.str [])] [(0, 1, (.t ⟨.d0, .d3, .d4⟩)), (1, 1, (.t ⟨.d0, .d3, .d6⟩))]⟩,
  ⟨(some ⟨.d0, .d4, .d0⟩), none, .eq false (.flat [.s, .s]) (.t ⟨.d0, .d3, .d2⟩) (.t ⟨.d0, .d3, .d7⟩)⟩,
  ⟨(some ⟨.d0, .d4, .d1⟩), none, .mv (.t ⟨.d0, .d4, .d0⟩)⟩,
  ⟨(some ⟨.d0, .d4, .d2⟩), (some (⟨.d0, .d4, .d1⟩, false)), .fieldA 3 (.t ⟨.d0, .d0, .d3⟩)⟩,
  ⟨(some ⟨.d0, .d4, .d3⟩), (some (⟨.d0, .d4, .d1⟩, false)), .load none (.t ⟨.d0, .d4, .d2⟩)⟩,
  ⟨(some ⟨.d0, .d4, .d4⟩), (some (⟨.d0, .d4, .d1⟩, false)), .bin .eql (.t ⟨.d0, .d4, .d3⟩) (.c (.str []))⟩,
  ⟨(some ⟨.d0, .d4, .d5⟩), (some (⟨.d0, .d4, .d1⟩, false)), .mv (.t ⟨.d0, .d4, .d4⟩)⟩,
  ⟨(some ⟨.d0, .d4, .d6⟩), (some (⟨.d0, .d4, .d5⟩, true)), .fieldA 1 (.t ⟨.d0, .d1, .d0⟩)⟩,
  ⟨(some ⟨.d0, .d4, .d7⟩), (some (⟨.d0, .d4, .d5⟩, true)), .load none (.t ⟨.d0, .d4, .d6⟩)⟩,
  ⟨(some ⟨.d0, .d5, .d0⟩), (some (⟨.d0, .d4, .d5⟩, true)), .fieldA 2 (.t ⟨.d0, .d0, .d3⟩)⟩,
  ⟨(some ⟨.d0, .d5, .d1⟩), (some (⟨.d0, .d4, .d5⟩, true)), .load none (.t ⟨.d0, .d5, .d0⟩)⟩,
  ⟨(some ⟨.d0, .d5, .d2⟩), (some (⟨.d0, .d4, .d5⟩, true)), .bin .eql (.t ⟨.d0, .d4, .d7⟩) (.t ⟨.d0, .d5, .d1⟩)⟩,
  ⟨(some ⟨.d0, .d5, .d3⟩), (some (⟨.d0, .d4, .d1⟩, false)), .pick (.t ⟨.d0, .d4, .d5⟩) (.t ⟨.d0, .d5, .d2⟩) (.c (.bool false))⟩,
  ⟨(some ⟨.d0, .d5, .d4⟩), none, .pick (.t ⟨.d0, .d4, .d1⟩) (.c (.bool true)) (.t ⟨.d0, .d5, .d3⟩)⟩])
 (.cond (.t ⟨.d0, .d5, .d4⟩) (.seq (.seq (.ops [⟨(some ⟨.d0, .d5, .d5⟩), none, .mv (.t ⟨.d0, .d0, .d6⟩)⟩,
  ⟨(some ⟨.d0, .d5, .d6⟩), none, .bin .geq (.t ⟨.d0, .d5, .d5⟩) (.c (.int .i64 (.ofNat 0)))⟩])
 (.cond (.t ⟨.d0, .d5, .d6⟩) (.seq (.ops [⟨(some ⟨.d0, .d5, .d7⟩), none, .build [(.int .i64 (.ofNat 0)), (.int .i64 (.ofNat 0)), (.str []), (.str []), (.int .i64 (.ofNat 0)), .nils, (.int .i64 (.ofNat 0)), (.int .i64 (.ofNat 0)), (.str [])] []⟩,
  ⟨none, none, .store 9 (.t ⟨.d0, .d0, .d4⟩) (.t ⟨.d0, .d5, .d7⟩)⟩,
  ⟨(some ⟨.d0, .d0, .d5⟩), none, .mv (.c (.int .i64 (.ofNat 11)))⟩])
 .ret) .skip))
 (.ops [⟨(some ⟨.d0, .d6, .d0⟩), none, .mv (.t ⟨.d0, .d0, .d7⟩)⟩,
  ⟨(some ⟨.d0, .d0, .d6⟩), none, .mv (.t ⟨.d0, .d6, .d0⟩)⟩])) .skip))))
 (.ops [⟨(some ⟨.d0, .d6, .d1⟩), none, .bin .add (.t ⟨.d0, .d2, .d1⟩) (.c (.int .i64 (.ofNat 1)))⟩,
  ⟨(some ⟨.d0, .d2, .d1⟩), none, .mv (.t ⟨.d0, .d6, .d1⟩)⟩])))))))
 (.seq (.seq (.ops [⟨(some ⟨.d0, .d6, .d2⟩), none, .mv (.t ⟨.d0, .d0, .d6⟩)⟩,
  ⟨(some ⟨.d0, .d6, .d3⟩), none, .bin .lss (.t ⟨.d0, .d6, .d2⟩) (.c (.int .i64 (.ofNat 0)))⟩])
 (.cond (.t ⟨.d0, .d6, .d3⟩) (.seq (.ops [⟨(some ⟨.d0, .d6, .d4⟩), none, .build [(.int .i64 (.ofNat 0)), (.int .i64 (.ofNat 0)), (.str []), (.str []), (.int .i64 (.ofNat 0)), .nils, (.int .i64 (.ofNat 0)), (.int .i64 (.ofNat 0)), (.str [])] []⟩,
  ⟨none, none, .store 9 (.t ⟨.d0, .d0, .d4⟩) (.t ⟨.d0, .d6, .d4⟩)⟩,
  ⟨(some ⟨.d0, .d0, .d5⟩), none, .mv (.c (.int .i64 (.ofNat 11)))⟩])
 .ret) .skip))
 (.seq (.ops [⟨(some ⟨.d0, .d6, .d5⟩), none, .mv (.t ⟨.d0, .d0, .d0⟩)⟩,
  ⟨(some ⟨.d0, .d6, .d6⟩), none, .nilck (.t ⟨.d0, .d6, .d5⟩)⟩,
  ⟨(some ⟨.d0, .d6, .d7⟩), none, .fieldA 0 (.t ⟨.d0, .d6, .d6⟩)⟩,
  ⟨(some ⟨.d0, .d7, .d0⟩), none, .fieldA 0 (.t ⟨.d0, .d6, .d7⟩)⟩,
  ⟨(some ⟨.d0, .d7, .d1⟩), none, .load none (.t ⟨.d0, .d7, .d0⟩)⟩,
  ⟨(some ⟨.d0, .d7, .d2⟩), none, .mv (.t ⟨.d0, .d0, .d6⟩)⟩,
  ⟨(some ⟨.d0, .d7, .d3⟩), none, .idxA none 4 (.t ⟨.d0, .d7, .d1⟩) (.t ⟨.d0, .d7, .d2⟩)⟩,
  ⟨(some ⟨.d0, .d7, .d4⟩), none, .load (some 4) (.t ⟨.d0, .d7, .d3⟩)⟩,
  ⟨(some ⟨.d0, .d1, .d1⟩), none, .box none (.c (.agg [(.str []), (.str []), (.str []), (.int .i64 (.ofNat 0))]))⟩,
  ⟨none, none, .store 4 (.t ⟨.d0, .d1, .d1⟩) (.t ⟨.d0, .d7, .d4⟩)⟩])
 (.seq (.ops [⟨(some ⟨.d0, .d7, .d5⟩), none, .mv (.t ⟨.d0, .d0, .d6⟩)⟩,
  ⟨(some ⟨.d0, .d7, .d6⟩), none, .fieldA 4 (.t ⟨.d0, .d0, .d3⟩)⟩,
  ⟨none, none, .store 1 (.t ⟨.d0, .d7, .d6⟩) (.t ⟨.d0, .d7, .d5⟩)⟩])
 (.seq (.ops [⟨(some ⟨.d0, .d7, .d7⟩), none, .load (some 6) (.t ⟨.d0, .d0, .d3⟩)⟩,
  ⟨(some ⟨.d1, .d0, .d0⟩), none, .fieldA 3 (.t ⟨.d0, .d1, .d1⟩)⟩,
  ⟨(some ⟨.d1, .d0, .d1⟩), none, .load none (.t ⟨.d1, .d0, .d0⟩)⟩,
  ⟨(some ⟨.d1, .d0, .d2⟩), none, .build [(.int .i64 (.ofNat 0)), (.int .i64 (.ofNat 0)), (.str []), (.str []), (.int .i64 (.ofNat 0)), .nils, (.int .i64 (.ofNat 0)), (.int .i64 (.ofNat 0)), (.str [])] [(0, 6, (.t ⟨.d0, .d7, .d7⟩)), (6, 1, (.t ⟨.d1, .d0, .d1⟩))]⟩,
  ⟨(some ⟨.d0, .d1, .d2⟩), none, .box none (.c (.agg [(.int .i64 (.ofNat 0)), (.int .i64 (.ofNat 0)), (.str []), (.str []), (.int .i64 (.ofNat 0)), .nils, (.int .i64 (.ofNat 0)), (.int .i64 (.ofNat 0)), (.str [])]))⟩,
  ⟨none, none, .store 9 (.t ⟨.d0, .d1, .d2⟩) (.t ⟨.d1, .d0, .d2⟩)⟩])
 (.seq (.seq (.ops [⟨(some ⟨.d1, .d0, .d3⟩), none, .fieldA 3 (.t ⟨.d0, .d1, .d1⟩)⟩,
  ⟨(some ⟨.d1, .d0, .d4⟩), none, .load none (.t ⟨.d1, .d0, .d3⟩)⟩,
  ⟨(some ⟨.d1, .d0, .d5⟩), none, .bin .eql (.t ⟨.d1, .d0, .d4⟩) (.c (.int .i64 (.ofNat 3)))⟩])
 (.cond (.t ⟨.d1, .d0, .d5⟩) (.ops [⟨(some ⟨.d1, .d0, .d6⟩), none, .fieldA 2 (.t ⟨.d0, .d1, .d1⟩)⟩,
  ⟨(some ⟨.d1, .d0, .d7⟩), none, .load none (.t ⟨.d1, .d0, .d6⟩)⟩,
  ⟨(some ⟨.d1, .d1, .d0⟩), none, .build [(.int .i64 (.ofNat 0)), (.str [])] [(0, 1, (.c (.int .i64 (.ofNat 1)))), (1, 1, (.t ⟨.d1, .d0, .d7⟩))]⟩,
  ⟨(some ⟨.d1, .d1, .d1⟩), none, .fieldA 7 (.t ⟨.d0, .d1, .d2⟩)⟩,
  ⟨none, none, .store 2 (.t ⟨.d1, .d1, .d1⟩) (.t ⟨.d1, .d1, .d0⟩)⟩]) .skip))
 (.seq (.ops [⟨(some ⟨.d1, .d1, .d2⟩), none, .load (some 9) (.t ⟨.d0, .d1, .d2⟩)⟩,
  ⟨none, none, .store 9 (.t ⟨.d0, .d0, .d4⟩) (.t ⟨.d1, .d1, .d2⟩)⟩,
  ⟨(some ⟨.d0, .d0, .d5⟩), none, .mv (.c (.int .i64 (.ofNat 0)))⟩])
 .ret)))))))))
 [.cell (some 9) ⟨.d0, .d0, .d4⟩, .tmp ⟨.d0, .d0, .d5⟩]
/-- (*umlaut/bind.binder).all -/
def x21 : Ent := .code [⟨.d0, .d0, .d0⟩, ⟨.d0, .d0, .d1⟩]
 (.seq (.ops [⟨(some ⟨.d0, .d0, .d4⟩), none, .mv (.c .nils)⟩,
  ⟨(some ⟨.d0, .d0, .d5⟩), none, .mv (.c (.int .i64 (.ofNat 0)))⟩])
 (.seq (.ops [⟨(some ⟨.d0, .d0, .d6⟩), none, .mv (.c .nils)⟩])
 (.seq (.seq (.ops [⟨(some ⟨.d0, .d1, .d3⟩), none, .mv (.t ⟨.d0, .d0, .d1⟩)⟩,
  ⟨(some ⟨.d0, .d1, .d4⟩), none, .len .sli (.t ⟨.d0, .d1, .d3⟩)⟩,
  ⟨(some ⟨.d0, .d1, .d5⟩), none, .mv (.c (.int .i64 (.ofNat 0)))⟩])
 (.block 0 (.loop (.seq (.ops [⟨(some ⟨.d0, .d1, .d6⟩), none, .bin .lss (.t ⟨.d0, .d1, .d5⟩) (.t ⟨.d0, .d1, .d4⟩)⟩])
 (.seq (.cond (.t ⟨.d0, .d1, .d6⟩) .skip (.exit 0))
 (.seq (.block 1 (.seq (.ops [⟨(some ⟨.d0, .d1, .d7⟩), none, .idxA none 6 (.t ⟨.d0, .d1, .d3⟩) (.t ⟨.d0, .d1, .d5⟩)⟩,
  ⟨(some ⟨.d0, .d2, .d0⟩), none, .load (some 6) (.t ⟨.d0, .d1, .d7⟩)⟩,
  ⟨(some ⟨.d0, .d1, .d0⟩), none, .box none (.c (.agg [(.int .i64 (.ofNat 0)), (.int .i64 (.ofNat 0)), (.str []), (.str []), (.int .i64 (.ofNat 0)), .nils]))⟩,
  ⟨none, none, .store 6 (.t ⟨.d0, .d1, .d0⟩) (.t ⟨.d0, .d2, .d0⟩)⟩])
 (.seq (.ops [⟨(some ⟨.d0, .d2, .d2⟩), none, .mv (.t ⟨.d0, .d0, .d0⟩)⟩,
  ⟨(some ⟨.d0, .d2, .d3⟩), none, .load (some 6) (.t ⟨.d0, .d1, .d0⟩)⟩,
  ⟨(some ⟨.d0, .d2, .d4⟩), none, .callF ⟨.d0, .d1, .d6⟩ [(.t ⟨.d0, .d2, .d2⟩), (.t ⟨.d0, .d2, .d3⟩)]⟩,
  ⟨(some ⟨.d0, .d2, .d1⟩), none, .mv (.t ⟨.d0, .d2, .d4⟩)⟩,
  ⟨(some ⟨.d0, .d2, .d5⟩), none, .ext (.t ⟨.d0, .d2, .d1⟩) 0⟩,
  ⟨(some ⟨.d0, .d2, .d6⟩), none, .ext (.t ⟨.d0, .d2, .d1⟩) 1⟩,
  ⟨(some ⟨.d0, .d1, .d1⟩), none, .box none (.c (.agg [(.int .i64 (.ofNat 0)), (.int .i64 (.ofNat 0)), (.str []), (.str []), (.int .i64 (.ofNat 0)), .nils, (.int .i64 (.ofNat 0)), (.int .i64 (.ofNat 0)), (.str [])]))⟩,
  ⟨none, none, .store 9 (.t ⟨.d0, .d1, .d1⟩) (.t ⟨.d0, .d2, .d5⟩)⟩,
  ⟨(some ⟨.d0, .d1, .d2⟩), none, .mv (.t ⟨.d0, .d2, .d6⟩)⟩])
 (.seq (.seq (.ops [⟨(some ⟨.d0, .d2, .d7⟩), none, .mv (.t ⟨.d0, .d1, .d2⟩)⟩,
  ⟨(some ⟨.d0, .d3, .d0⟩), none, .bin .neq (.t ⟨.d0, .d2, .d7⟩) (.c (.int .i64 (.ofNat 0)))⟩])
 (.cond (.t ⟨.d0, .d3, .d0⟩) (.seq (.ops [⟨(some ⟨.d0, .d3, .d1⟩), none, .mv (.t ⟨.d0, .d1, .d2⟩)⟩,
  ⟨(some ⟨.d0, .d0, .d4⟩), none, .mv (.c .nils)⟩,
  ⟨(some ⟨.d0, .d0, .d5⟩), none, .mv (.t ⟨.d0, .d3, .d1⟩)⟩])
 .ret) .skip))
 (.ops [⟨(some ⟨.d0, .d3, .d2⟩), none, .mv (.t ⟨.d0, .d0, .d6⟩)⟩,
  ⟨(some ⟨.d0, .d3, .d3⟩), none, .load (some 9) (.t ⟨.d0, .d1, .d1⟩)⟩,
  ⟨(some ⟨.d0, .d3, .d4⟩), none, .buildS none 9 1 [(.int .i64 (.ofNat 0)), (.int .i64 (.ofNat 0)), (.str []), (.str []), (.int .i64 (.ofNat 0)), .nils, (.int .i64 (.ofNat 0)), (.int .i64 (.ofNat 0)), (.str [])] [(0, 9, (.t ⟨.d0, .d3, .d3⟩))]⟩,
  ⟨(some ⟨.d0, .d3, .d5⟩), none, .app 9 112 (.t ⟨.d0, .d3, .d2⟩) (.t ⟨.d0, .d3, .d4⟩)⟩,
  ⟨(some ⟨.d0, .d0, .d6⟩), none, .mv (.t ⟨.d0, .d3, .d5⟩)⟩])))))
 (.ops [⟨(some ⟨.d0, .d3, .d6⟩), none, .bin .add (.t ⟨.d0, .d1, .d5⟩) (.c (.int .i64 (.ofNat 1)))⟩,
  ⟨(some ⟨.d0, .d1, .d5⟩), none, .mv (.t ⟨.d0, .d3, .d6⟩)⟩])))))))
 (.seq (.ops [⟨(some ⟨.d0, .d3, .d7⟩), none, .mv (.t ⟨.d0, .d0, .d6⟩)⟩,
  ⟨(some ⟨.d0, .d0, .d4⟩), none, .mv (.t ⟨.d0, .d3, .d7⟩)⟩,
  ⟨(some ⟨.d0, .d0, .d5⟩), none, .mv (.c (.int .i64 (.ofNat 0)))⟩])
 .ret))))
 [.tmp ⟨.d0, .d0, .d4⟩, .tmp ⟨.d0, .d0, .d5⟩]
/-- umlaut/bind.typed -/
def x22 : Ent := .code [⟨.d0, .d0, .d0⟩, ⟨.d0, .d0, .d1⟩]
 (.seq (.ops [⟨(some ⟨.d0, .d0, .d2⟩), none, .box none (.t ⟨.d0, .d0, .d0⟩)⟩,
  ⟨(some ⟨.d0, .d0, .d4⟩), none, .box none (.c (.agg [(.int .i64 (.ofNat 0)), (.int .i64 (.ofNat 0)), (.str []), (.str []), (.int .i64 (.ofNat 0)), .nils, (.int .i64 (.ofNat 0)), (.int .i64 (.ofNat 0)), (.str [])]))⟩])
 (.seq (.ops [⟨(some ⟨.d0, .d0, .d6⟩), none, .load (some 6) (.t ⟨.d0, .d0, .d2⟩)⟩,
  ⟨(some ⟨.d0, .d0, .d7⟩), none, .mv (.t ⟨.d0, .d0, .d1⟩)⟩,
  ⟨(some ⟨.d0, .d1, .d0⟩), none, .build [(.int .i64 (.ofNat 0)), (.int .i64 (.ofNat 0)), (.str []), (.str []), (.int .i64 (.ofNat 0)), .nils, (.int .i64 (.ofNat 0)), (.int .i64 (.ofNat 0)), (.str [])] [(0, 6, (.t ⟨.d0, .d0, .d6⟩)), (6, 1, (.t ⟨.d0, .d0, .d7⟩))]⟩,
  ⟨(some ⟨.d0, .d0, .d5⟩), none, .box none (.c (.agg [(.int .i64 (.ofNat 0)), (.int .i64 (.ofNat 0)), (.str []), (.str []), (.int .i64 (.ofNat 0)), .nils, (.int .i64 (.ofNat 0)), (.int .i64 (.ofNat 0)), (.str [])]))⟩,
  ⟨none, none, .store 9 (.t ⟨.d0, .d0, .d5⟩) (.t ⟨.d0, .d1, .d0⟩)⟩])
 (.seq (.seq (.ops [⟨(some ⟨.d0, .d1, .d1⟩), none, .mv (.t ⟨.d0, .d0, .d1⟩)⟩,
  ⟨(some ⟨.d0, .d1, .d2⟩), none, .callF ⟨.d0, .d3, .d6⟩ [(.t ⟨.d0, .d1, .d1⟩)]⟩])
 (.cond (.t ⟨.d0, .d1, .d2⟩) (.ops [⟨(some ⟨.d0, .d1, .d3⟩), none, .callF ⟨.d0, .d3, .d7⟩ []⟩,
  ⟨(some ⟨.d0, .d1, .d4⟩), none, .fieldA 7 (.t ⟨.d0, .d0, .d5⟩)⟩,
  ⟨none, none, .store 2 (.t ⟨.d0, .d1, .d4⟩) (.t ⟨.d0, .d1, .d3⟩)⟩]) .skip))
 (.seq (.ops [⟨(some ⟨.d0, .d1, .d5⟩), none, .load (some 9) (.t ⟨.d0, .d0, .d5⟩)⟩,
  ⟨none, none, .store 9 (.t ⟨.d0, .d0, .d4⟩) (.t ⟨.d0, .d1, .d5⟩)⟩])
 .ret))))
 [.cell (some 9) ⟨.d0, .d0, .d4⟩]
/-- (*umlaut/bind.binder).collate -/
def x23 : Ent := .code [⟨.d0, .d0, .d0⟩, ⟨.d0, .d0, .d1⟩, ⟨.d0, .d0, .d2⟩]
 (.seq (.ops [⟨(some ⟨.d0, .d0, .d4⟩), none, .box none (.t ⟨.d0, .d0, .d1⟩)⟩,
  ⟨(some ⟨.d0, .d0, .d6⟩), none, .box none (.c (.agg [(.int .i64 (.ofNat 0)), (.int .i64 (.ofNat 0)), (.str []), (.str []), (.int .i64 (.ofNat 0)), .nils, (.int .i64 (.ofNat 0)), (.int .i64 (.ofNat 0)), (.str [])]))⟩,
  ⟨(some ⟨.d0, .d0, .d7⟩), none, .mv (.c (.int .i64 (.ofNat 0)))⟩])
 (.seq (.seq (.ops [⟨(some ⟨.d0, .d1, .d4⟩), none, .mv (.t ⟨.d0, .d0, .d2⟩)⟩,
  ⟨(some ⟨.d0, .d1, .d5⟩), none, .len .sli (.t ⟨.d0, .d1, .d4⟩)⟩,
  ⟨(some ⟨.d0, .d1, .d6⟩), none, .bin .neq (.t ⟨.d0, .d1, .d5⟩) (.c (.int .i64 (.ofNat 1)))⟩,
  ⟨(some ⟨.d0, .d1, .d7⟩), none, .mv (.t ⟨.d0, .d1, .d6⟩)⟩,
  ⟨(some ⟨.d0, .d2, .d0⟩), (some (⟨.d0, .d1, .d7⟩, false)), .mv (.t ⟨.d0, .d0, .d2⟩)⟩,
  ⟨(some ⟨.d0, .d2, .d1⟩), (some (⟨.d0, .d1, .d7⟩, false)), .idxA none 9 (.t ⟨.d0, .d2, .d0⟩) (.c (.int .i64 (.ofNat 0)))⟩,
  ⟨(some ⟨.d0, .d2, .d2⟩), (some (⟨.d0, .d1, .d7⟩, false)), .fieldA 6 (.t ⟨.d0, .d2, .d1⟩)⟩,
  ⟨(some ⟨.d0, .d2, .d3⟩), (some (⟨.d0, .d1, .d7⟩, false)), .load none (.t ⟨.d0, .d2, .d2⟩)⟩,
  ⟨(some ⟨.d0, .d2, .d4⟩), (some (⟨.d0, .d1, .d7⟩, false)), .callF ⟨.d0, .d3, .d6⟩ [(.t ⟨.d0, .d2, .d3⟩)]⟩,
  ⟨(some ⟨.d0, .d2, .d5⟩), (some (⟨.d0, .d1, .d7⟩, false)), .un .not (.t ⟨.d0, .d2, .d4⟩)⟩,
  ⟨(some ⟨.d0, .d2, .d6⟩), none, .pick (.t ⟨.d0, .d1, .d7⟩) (.c (.bool true)) (.t ⟨.d0, .d2, .d5⟩)⟩])
 (.cond (.t ⟨.d0, .d2, .d6⟩) (.seq (.ops [⟨(some ⟨.d0, .d2, .d7⟩), none, .build [(.int .i64 (.ofNat 0)), (.int .i64 (.ofNat 0)), (.str []), (.str []), (.int .i64 (.ofNat 0)), .nils, (.int .i64 (.ofNat 0)), (.int .i64 (.ofNat 0)), (.str [])] []⟩,
  ⟨none, none, .store 9 (.t ⟨.d0, .d0, .d6⟩) (.t ⟨.d0, .d2, .d7⟩)⟩,
  ⟨(some ⟨.d0, .d0, .d7⟩), none, .mv (.c (.int .i64 (.ofNat 12)))⟩])
 .ret) .skip))
 (.seq (.ops [⟨(some ⟨.d0, .d3, .d1⟩), none, .fieldA 2 (.t ⟨.d0, .d0, .d4⟩)⟩,
  ⟨(some ⟨.d0, .d3, .d2⟩), none, .load none (.t ⟨.d0, .d3, .d1⟩)⟩,
  ⟨(some ⟨.d0, .d3, .d3⟩), none, .callF ⟨.d0, .d4, .d0⟩ [(.t ⟨.d0, .d3, .d2⟩)]⟩,
  ⟨(some ⟨.d0, .d3, .d0⟩), none, .mv (.t ⟨.d0, .d3, .d3⟩)⟩,
  ⟨(some ⟨.d0, .d3, .d4⟩), none, .ext (.t ⟨.d0, .d3, .d0⟩) 0⟩,
  ⟨(some ⟨.d0, .d3, .d5⟩), none, .ext (.t ⟨.d0, .d3, .d0⟩) 1⟩,
  ⟨(some ⟨.d0, .d1, .d0⟩), none, .mv (.t ⟨.d0, .d3, .d4⟩)⟩,
  ⟨(some ⟨.d0, .d1, .d1⟩), none, .mv (.t ⟨.d0, .d3, .d5⟩)⟩])
 (.seq (.seq (.reg 1 [] [⟨(some ⟨.d0, .d3, .d7⟩), none, .mv (.t ⟨.d0, .d0, .d0⟩)⟩,
  ⟨(some ⟨.d0, .d4, .d0⟩), none, .nilck (.t ⟨.d0, .d3, .d7⟩)⟩,
  ⟨(some ⟨.d0, .d4, .d1⟩), none, .fieldA 1 (.t ⟨.d0, .d4, .d0⟩)⟩,
  ⟨(some ⟨.d0, .d4, .d2⟩), none, .load none (.t ⟨.d0, .d4, .d1⟩)⟩,
  ⟨(some ⟨.d0, .d4, .d3⟩), none, .fieldA 2 (.t ⟨.d0, .d0, .d4⟩)⟩,
  ⟨(some ⟨.d0, .d4, .d4⟩), none, .load none (.t ⟨.d0, .d4, .d3⟩)⟩,
  ⟨(some ⟨.d0, .d4, .d5⟩), none, .callF ⟨.d0, .d4, .d1⟩ [(.t ⟨.d0, .d4, .d2⟩), (.t ⟨.d0, .d4, .d4⟩)]⟩,
  ⟨(some ⟨.d0, .d3, .d6⟩), none, .mv (.t ⟨.d0, .d4, .d5⟩)⟩,
  ⟨(some ⟨.d0, .d4, .d6⟩), none, .ext (.t ⟨.d0, .d3, .d6⟩) 0⟩,
  ⟨(some ⟨.d0, .d4, .d7⟩), none, .ext (.t ⟨.d0, .d3, .d6⟩) 1⟩,
  ⟨(some ⟨.d0, .d1, .d2⟩), none, .box (some 0) (.c (.agg [(.int .i64 (.ofNat 0)), (.int .i64 (.ofNat 0)), (.bool false), (.bool false), .nilp]))⟩,
  ⟨none, none, .store 5 (.t ⟨.d0, .d1, .d2⟩) (.t ⟨.d0, .d4, .d6⟩)⟩,
  ⟨(some ⟨.d0, .d1, .d3⟩), none, .mv (.t ⟨.d0, .d4, .d7⟩)⟩])
 (.seq (.ops [⟨(some ⟨.d0, .d5, .d0⟩), none, .mv (.t ⟨.d0, .d1, .d3⟩)⟩,
  ⟨(some ⟨.d0, .d5, .d1⟩), none, .un .not (.t ⟨.d0, .d5, .d0⟩)⟩])
 (.cond (.t ⟨.d0, .d5, .d1⟩) (.seq (.ops [⟨(some ⟨.d0, .d5, .d2⟩), none, .build [(.int .i64 (.ofNat 0)), (.int .i64 (.ofNat 0)), (.str []), (.str []), (.int .i64 (.ofNat 0)), .nils, (.int .i64 (.ofNat 0)), (.int .i64 (.ofNat 0)), (.str [])] []⟩,
  ⟨none, none, .store 9 (.t ⟨.d0, .d0, .d6⟩) (.t ⟨.d0, .d5, .d2⟩)⟩,
  ⟨(some ⟨.d0, .d0, .d7⟩), none, .mv (.c (.int .i64 (.ofNat 11)))⟩])
 .ret) .skip)))
 (.seq (.ops [⟨(some ⟨.d0, .d5, .d3⟩), none, .mv (.t ⟨.d0, .d1, .d0⟩)⟩,
  ⟨(some ⟨.d0, .d5, .d4⟩), none, .fieldA 2 (.t ⟨.d0, .d0, .d4⟩)⟩,
  ⟨none, none, .store 1 (.t ⟨.d0, .d5, .d4⟩) (.t ⟨.d0, .d5, .d3⟩)⟩])
 (.seq (.reg 0 [] [⟨(some ⟨.d0, .d5, .d5⟩), none, .load (some 6) (.t ⟨.d0, .d0, .d4⟩)⟩,
  ⟨(some ⟨.d0, .d5, .d6⟩), none, .mv (.t ⟨.d0, .d0, .d2⟩)⟩,
  ⟨(some ⟨.d0, .d5, .d7⟩), none, .idxA none 9 (.t ⟨.d0, .d5, .d6⟩) (.c (.int .i64 (.ofNat 0)))⟩,
  ⟨(some ⟨.d0, .d6, .d0⟩), none, .fieldA 6 (.t ⟨.d0, .d5, .d7⟩)⟩,
  ⟨(some ⟨.d0, .d6, .d1⟩), none, .load none (.t ⟨.d0, .d6, .d0⟩)⟩,
  ⟨(some ⟨.d0, .d6, .d2⟩), none, .mv (.t ⟨.d0, .d1, .d0⟩)⟩,
  ⟨(some ⟨.d0, .d6, .d3⟩), none, .build [(.int .i64 (.ofNat 0)), (.str [])] [(0, 1, (.c (.int .i64 (.ofNat 3)))), (1, 1, (.t ⟨.d0, .d6, .d2⟩))]⟩,
  ⟨(some ⟨.d0, .d6, .d4⟩), none, .build [(.int .i64 (.ofNat 0)), (.int .i64 (.ofNat 0)), (.str []), (.str []), (.int .i64 (.ofNat 0)), .nils, (.int .i64 (.ofNat 0)), (.int .i64 (.ofNat 0)), (.str [])] [(0, 6, (.t ⟨.d0, .d5, .d5⟩)), (6, 1, (.t ⟨.d0, .d6, .d1⟩)), (7, 2, (.t ⟨.d0, .d6, .d3⟩))]⟩,
  ⟨none, none, .store 9 (.t ⟨.d0, .d0, .d6⟩) (.t ⟨.d0, .d6, .d4⟩)⟩,
  ⟨(some ⟨.d0, .d0, .d7⟩), none, .mv (.c (.int .i64 (.ofNat 0)))⟩])
 .ret))))))
 [.cell (some 9) ⟨.d0, .d0, .d6⟩, .tmp ⟨.d0, .d0, .d7⟩]
/-- umlaut/bind.call -/
def x24 : Ent := .code [⟨.d0, .d0, .d0⟩, ⟨.d0, .d0, .d1⟩]
 (.seq (.ops [⟨(some ⟨.d0, .d0, .d2⟩), none, .box none (.t ⟨.d0, .d0, .d0⟩)⟩,
  ⟨(some ⟨.d0, .d0, .d4⟩), none, .box none (.c (.agg [(.int .i64 (.ofNat 0)), (.int .i64 (.ofNat 0)), (.str []), (.str []), (.int .i64 (.ofNat 0)), .nils, (.int .i64 (.ofNat 0)), (.int .i64 (.ofNat 0)), (.str [])]))⟩,
  ⟨(some ⟨.d0, .d0, .d5⟩), none, .mv (.c (.int .i64 (.ofNat 0)))⟩])
 (.seq (.ops [⟨(some ⟨.d0, .d1, .d1⟩), none, .fieldA 2 (.t ⟨.d0, .d0, .d2⟩)⟩,
  ⟨(some ⟨.d0, .d1, .d2⟩), none, .load none (.t ⟨.d0, .d1, .d1⟩)⟩,
  ⟨(some ⟨.d0, .d1, .d3⟩), none, .callF ⟨.d0, .d4, .d2⟩ [(.t ⟨.d0, .d1, .d2⟩)]⟩,
  ⟨(some ⟨.d0, .d1, .d0⟩), none, .mv (.t ⟨.d0, .d1, .d3⟩)⟩,
  ⟨(some ⟨.d0, .d1, .d4⟩), none, .ext (.t ⟨.d0, .d1, .d0⟩) 0⟩,
  ⟨(some ⟨.d0, .d1, .d5⟩), none, .ext (.t ⟨.d0, .d1, .d0⟩) 1⟩,
  ⟨(some ⟨.d0, .d0, .d6⟩), none, .mv (.t ⟨.d0, .d1, .d4⟩)⟩,
  ⟨(some ⟨.d0, .d0, .d7⟩), none, .mv (.t ⟨.d0, .d1, .d5⟩)⟩])
 (.seq (.block 0 (.seq (.ops [⟨(some ⟨.d0, .d1, .d7⟩), none, .mv (.t ⟨.d0, .d0, .d7⟩)⟩,
  ⟨(some ⟨.d0, .d2, .d0⟩), none, .un .not (.t ⟨.d0, .d1, .d7⟩)⟩,
  ⟨(some ⟨.d0, .d1, .d6⟩), none, .mv (.t ⟨.d0, .d2, .d0⟩)⟩])
 (.cond (.t ⟨.d0, .d1, .d6⟩) (.seq (.ops [⟨(some ⟨.d0, .d2, .d1⟩), none, .build [(.int .i64 (.ofNat 0)), (.int .i64 (.ofNat 0)), (.str []), (.str []), (.int .i64 (.ofNat 0)), .nils, (.int .i64 (.ofNat 0)), (.int .i64 (.ofNat 0)), (.str [])] []⟩,
  ⟨none, none, .store 9 (.t ⟨.d0, .d0, .d4⟩) (.t ⟨.d0, .d2, .d1⟩)⟩,
  ⟨(some ⟨.d0, .d0, .d5⟩), none, .mv (.c (.int .i64 (.ofNat 11)))⟩])
 .ret) (.seq (.ops [⟨(some ⟨.d0, .d2, .d3⟩), none, .mv (.t ⟨.d0, .d0, .d1⟩)⟩,
  ⟨(some ⟨.d0, .d2, .d4⟩), none, .len .sli (.t ⟨.d0, .d2, .d3⟩)⟩,
  ⟨(some ⟨.d0, .d2, .d5⟩), none, .bin .neq (.t ⟨.d0, .d2, .d4⟩) (.c (.int .i64 (.ofNat 1)))⟩,
  ⟨(some ⟨.d0, .d2, .d6⟩), none, .mv (.t ⟨.d0, .d2, .d5⟩)⟩,
  ⟨(some ⟨.d0, .d2, .d7⟩), (some (⟨.d0, .d2, .d6⟩, false)), .mv (.t ⟨.d0, .d0, .d1⟩)⟩,
  ⟨(some ⟨.d0, .d3, .d0⟩), (some (⟨.d0, .d2, .d6⟩, false)), .idxA none 9 (.t ⟨.d0, .d2, .d7⟩) (.c (.int .i64 (.ofNat 0)))⟩,
  ⟨(some ⟨.d0, .d3, .d1⟩), (some (⟨.d0, .d2, .d6⟩, false)), .fieldA 6 (.t ⟨.d0, .d3, .d0⟩)⟩,
  ⟨(some ⟨.d0, .d3, .d2⟩), (some (⟨.d0, .d2, .d6⟩, false)), .load none (.t ⟨.d0, .d3, .d1⟩)⟩,
  ⟨(some ⟨.d0, .d3, .d3⟩), (some (⟨.d0, .d2, .d6⟩, false)), .mv (.t ⟨.d0, .d0, .d6⟩)⟩,
  ⟨(some ⟨.d0, .d3, .d4⟩), (some (⟨.d0, .d2, .d6⟩, false)), .callF ⟨.d0, .d4, .d3⟩ [(.t ⟨.d0, .d3, .d2⟩), (.t ⟨.d0, .d3, .d3⟩)]⟩,
  ⟨(some ⟨.d0, .d3, .d5⟩), (some (⟨.d0, .d2, .d6⟩, false)), .un .not (.t ⟨.d0, .d3, .d4⟩)⟩,
  ⟨(some ⟨.d0, .d3, .d6⟩), none, .pick (.t ⟨.d0, .d2, .d6⟩) (.c (.bool true)) (.t ⟨.d0, .d3, .d5⟩)⟩,
  ⟨(some ⟨.d0, .d2, .d2⟩), none, .mv (.t ⟨.d0, .d3, .d6⟩)⟩])
 (.cond (.t ⟨.d0, .d2, .d2⟩) (.seq (.ops [⟨(some ⟨.d0, .d3, .d7⟩), none, .build [(.int .i64 (.ofNat 0)), (.int .i64 (.ofNat 0)), (.str []), (.str []), (.int .i64 (.ofNat 0)), .nils, (.int .i64 (.ofNat 0)), (.int .i64 (.ofNat 0)), (.str [])] []⟩,
  ⟨none, none, .store 9 (.t ⟨.d0, .d0, .d4⟩) (.t ⟨.d0, .d3, .d7⟩)⟩,
  ⟨(some ⟨.d0, .d0, .d5⟩), none, .mv (.c (.int .i64 (.ofNat 12)))⟩])
 .ret) (.seq (.ops [⟨(some ⟨.d0, .d4, .d1⟩), none, .fieldA 2 (.t ⟨.d0, .d0, .d2⟩)⟩,
  ⟨(some ⟨.d0, .d4, .d2⟩), none, .load none (.t ⟨.d0, .d4, .d1⟩)⟩,
  ⟨(some ⟨.d0, .d4, .d3⟩), none, .bin .eql (.t ⟨.d0, .d4, .d2⟩) (.c (.str [102, 111, 108, 100]))⟩,
  ⟨(some ⟨.d0, .d4, .d0⟩), none, .mv (.t ⟨.d0, .d4, .d3⟩)⟩])
 (.cond (.t ⟨.d0, .d4, .d0⟩) (.seq (.reg 0 [] [⟨(some ⟨.d0, .d4, .d4⟩), none, .load (some 6) (.t ⟨.d0, .d0, .d2⟩)⟩,
  ⟨(some ⟨.d0, .d4, .d5⟩), none, .mv (.t ⟨.d0, .d0, .d1⟩)⟩,
  ⟨(some ⟨.d0, .d4, .d6⟩), none, .idxA none 9 (.t ⟨.d0, .d4, .d5⟩) (.c (.int .i64 (.ofNat 0)))⟩,
  ⟨(some ⟨.d0, .d4, .d7⟩), none, .fieldA 7 (.t ⟨.d0, .d4, .d6⟩)⟩,
  ⟨(some ⟨.d0, .d5, .d0⟩), none, .load (some 2) (.t ⟨.d0, .d4, .d7⟩)⟩,
  ⟨(some ⟨.d0, .d5, .d1⟩), none, .build [(.int .i64 (.ofNat 0)), (.int .i64 (.ofNat 0)), (.str []), (.str []), (.int .i64 (.ofNat 0)), .nils, (.int .i64 (.ofNat 0)), (.int .i64 (.ofNat 0)), (.str [])] [(0, 6, (.t ⟨.d0, .d4, .d4⟩)), (6, 1, (.c (.int .i64 (.ofNat 3)))), (7, 2, (.t ⟨.d0, .d5, .d0⟩))]⟩,
  ⟨none, none, .store 9 (.t ⟨.d0, .d0, .d4⟩) (.t ⟨.d0, .d5, .d1⟩)⟩,
  ⟨(some ⟨.d0, .d0, .d5⟩), none, .mv (.c (.int .i64 (.ofNat 0)))⟩])
 .ret) .skip)))))))
 (.seq (.ops [⟨(some ⟨.d0, .d5, .d2⟩), none, .load (some 6) (.t ⟨.d0, .d0, .d2⟩)⟩,
  ⟨(some ⟨.d0, .d5, .d3⟩), none, .callF ⟨.d0, .d2, .d6⟩ [(.t ⟨.d0, .d5, .d2⟩), (.c (.int .i64 (.ofNat 2)))]⟩,
  ⟨none, none, .store 9 (.t ⟨.d0, .d0, .d4⟩) (.t ⟨.d0, .d5, .d3⟩)⟩,
  ⟨(some ⟨.d0, .d0, .d5⟩), none, .mv (.c (.int .i64 (.ofNat 0)))⟩])
 .ret))))
 [.cell (some 9) ⟨.d0, .d0, .d4⟩, .tmp ⟨.d0, .d0, .d5⟩]
/-- umlaut/bind.op -/
def x25 : Ent := .code [⟨.d0, .d0, .d0⟩, ⟨.d0, .d0, .d1⟩]
 (.seq (.ops [⟨(some ⟨.d0, .d0, .d2⟩), none, .box none (.t ⟨.d0, .d0, .d0⟩)⟩,
  ⟨(some ⟨.d0, .d0, .d4⟩), none, .box none (.c (.agg [(.int .i64 (.ofNat 0)), (.int .i64 (.ofNat 0)), (.str []), (.str []), (.int .i64 (.ofNat 0)), .nils, (.int .i64 (.ofNat 0)), (.int .i64 (.ofNat 0)), (.str [])]))⟩,
  ⟨(some ⟨.d0, .d0, .d5⟩), none, .mv (.c (.int .i64 (.ofNat 0)))⟩])
 (.seq (.ops [⟨(some ⟨.d0, .d2, .d0⟩), none, .fieldA 1 (.t ⟨.d0, .d0, .d2⟩)⟩,
  ⟨(some ⟨.d0, .d2, .d1⟩), none, .load none (.t ⟨.d0, .d2, .d0⟩)⟩,
  ⟨(some ⟨.d0, .d2, .d2⟩), none, .callF ⟨.d0, .d4, .d4⟩ [(.t ⟨.d0, .d2, .d1⟩)]⟩,
  ⟨(some ⟨.d0, .d1, .d7⟩), none, .mv (.t ⟨.d0, .d2, .d2⟩)⟩,
  ⟨(some ⟨.d0, .d2, .d3⟩), none, .ext (.t ⟨.d0, .d1, .d7⟩) 0⟩,
  ⟨(some ⟨.d0, .d2, .d4⟩), none, .ext (.t ⟨.d0, .d1, .d7⟩) 1⟩,
  ⟨(some ⟨.d0, .d2, .d5⟩), none, .ext (.t ⟨.d0, .d1, .d7⟩) 2⟩,
  ⟨(some ⟨.d0, .d0, .d6⟩), none, .mv (.t ⟨.d0, .d2, .d3⟩)⟩,
  ⟨(some ⟨.d0, .d0, .d7⟩), none, .mv (.t ⟨.d0, .d2, .d4⟩)⟩,
  ⟨(some ⟨.d0, .d1, .d0⟩), none, .mv (.t ⟨.d0, .d2, .d5⟩)⟩])
 (.seq (.seq (.ops [⟨(some ⟨.d0, .d2, .d6⟩), none, .mv (.t ⟨.d0, .d1, .d0⟩)⟩,
  ⟨(some ⟨.d0, .d2, .d7⟩), none, .un .not (.t ⟨.d0, .d2, .d6⟩)⟩])
 (.cond (.t ⟨.d0, .d2, .d7⟩) (.seq (.ops [⟨(some ⟨.d0, .d3, .d0⟩), none, .build [(.int .i64 (.ofNat 0)), (.int .i64 (.ofNat 0)), (.str []), (.str []), (.int .i64 (.ofNat 0)), .nils, (.int .i64 (.ofNat 0)), (.int .i64 (.ofNat 0)), (.str [])] []⟩,
  ⟨none, none, .store 9 (.t ⟨.d0, .d0, .d4⟩) (.t ⟨.d0, .d3, .d0⟩)⟩,
  ⟨(some ⟨.d0, .d0, .d5⟩), none, .mv (.c (.int .i64 (.ofNat 12)))⟩])
 .ret) .skip))
 (.seq (.seq (.ops [⟨(some ⟨.d0, .d3, .d1⟩), none, .mv (.t ⟨.d0, .d0, .d1⟩)⟩,
  ⟨(some ⟨.d0, .d3, .d2⟩), none, .len .sli (.t ⟨.d0, .d3, .d1⟩)⟩,
  ⟨(some ⟨.d0, .d3, .d3⟩), none, .mv (.c (.int .i64 (.ofNat 0)))⟩])
 (.block 0 (.loop (.seq (.ops [⟨(some ⟨.d0, .d3, .d4⟩), none, .bin .lss (.t ⟨.d0, .d3, .d3⟩) (.t ⟨.d0, .d3, .d2⟩)⟩])
 (.seq (.cond (.t ⟨.d0, .d3, .d4⟩) .skip (.exit 0))
 (.seq (.block 1 (.seq (.ops [⟨(some ⟨.d0, .d3, .d5⟩), none, .idxA none 9 (.t ⟨.d0, .d3, .d1⟩) (.t ⟨.d0, .d3, .d3⟩)⟩,
  ⟨(some ⟨.d0, .d3, .d6⟩), none, .load (some 9) (.t ⟨.d0, .d3, .d5⟩)⟩,
  ⟨(some ⟨.d0, .d1, .d2⟩), none, .box none (.c (.agg [(.int .i64 (.ofNat 0)), (.int .i64 (.ofNat 0)), (.str []), (.str []), (.int .i64 (.ofNat 0)), .nils, (.int .i64 (.ofNat 0)), (.int .i64 (.ofNat 0)), (.str [])]))⟩,
  ⟨none, none, .store 9 (.t ⟨.d0, .d1, .d2⟩) (.t ⟨.d0, .d3, .d6⟩)⟩])
 (.seq (.ops [⟨(some ⟨.d0, .d3, .d7⟩), none, .fieldA 6 (.t ⟨.d0, .d1, .d2⟩)⟩,
  ⟨(some ⟨.d0, .d4, .d0⟩), none, .load none (.t ⟨.d0, .d3, .d7⟩)⟩,
  ⟨(some ⟨.d0, .d4, .d1⟩), none, .mv (.t ⟨.d0, .d0, .d6⟩)⟩,
  ⟨(some ⟨.d0, .d4, .d2⟩), none, .callF ⟨.d0, .d4, .d3⟩ [(.t ⟨.d0, .d4, .d0⟩), (.t ⟨.d0, .d4, .d1⟩)]⟩,
  ⟨(some ⟨.d0, .d4, .d3⟩), none, .un .not (.t ⟨.d0, .d4, .d2⟩)⟩])
 (.cond (.t ⟨.d0, .d4, .d3⟩) (.seq (.ops [⟨(some ⟨.d0, .d4, .d4⟩), none, .build [(.int .i64 (.ofNat 0)), (.int .i64 (.ofNat 0)), (.str []), (.str []), (.int .i64 (.ofNat 0)), .nils, (.int .i64 (.ofNat 0)), (.int .i64 (.ofNat 0)), (.str [])] []⟩,
  ⟨none, none, .store 9 (.t ⟨.d0, .d0, .d4⟩) (.t ⟨.d0, .d4, .d4⟩)⟩,
  ⟨(some ⟨.d0, .d0, .d5⟩), none, .mv (.c (.int .i64 (.ofNat 12)))⟩])
 .ret) .skip))))
 (.ops [⟨(some ⟨.d0, .d4, .d5⟩), none, .bin .add (.t ⟨.d0, .d3, .d3⟩) (.c (.int .i64 (.ofNat 1)))⟩,
  ⟨(some ⟨.d0, .d3, .d3⟩), none, .mv (.t ⟨.d0, .d4, .d5⟩)⟩])))))))
 (.seq (.ops [⟨(some ⟨.d0, .d4, .d6⟩), none, .load (some 6) (.t ⟨.d0, .d0, .d2⟩)⟩,
  ⟨(some ⟨.d0, .d4, .d7⟩), none, .mv (.t ⟨.d0, .d0, .d7⟩)⟩,
  ⟨(some ⟨.d0, .d5, .d0⟩), none, .callF ⟨.d0, .d2, .d6⟩ [(.t ⟨.d0, .d4, .d6⟩), (.t ⟨.d0, .d4, .d7⟩)]⟩,
  ⟨(some ⟨.d0, .d1, .d3⟩), none, .box none (.c (.agg [(.int .i64 (.ofNat 0)), (.int .i64 (.ofNat 0)), (.str []), (.str []), (.int .i64 (.ofNat 0)), .nils, (.int .i64 (.ofNat 0)), (.int .i64 (.ofNat 0)), (.str [])]))⟩,
  ⟨none, none, .store 9 (.t ⟨.d0, .d1, .d3⟩) (.t ⟨.d0, .d5, .d0⟩)⟩])
 (.seq (.seq (.ops [⟨(some ⟨.d0, .d5, .d1⟩), none, .mv (.t ⟨.d0, .d0, .d7⟩)⟩,
  ⟨(some ⟨.d0, .d5, .d2⟩), none, .bin .eql (.t ⟨.d0, .d5, .d1⟩) (.c (.int .i64 (.ofNat 3)))⟩])
 (.cond (.t ⟨.d0, .d5, .d2⟩) (.seq (.ops [⟨(some ⟨.d0, .d5, .d4⟩), none, .mv (.t ⟨.d0, .d0, .d1⟩)⟩,
  ⟨(some ⟨.d0, .d5, .d5⟩), none, .callF ⟨.d0, .d4, .d5⟩ [(.t ⟨.d0, .d5, .d4⟩)]⟩,
  ⟨(some ⟨.d0, .d5, .d3⟩), none, .mv (.t ⟨.d0, .d5, .d5⟩)⟩,
  ⟨(some ⟨.d0, .d5, .d6⟩), none, .ext (.t ⟨.d0, .d5, .d3⟩) 0⟩,
  ⟨(some ⟨.d0, .d5, .d7⟩), none, .ext (.t ⟨.d0, .d5, .d3⟩) 1⟩,
  ⟨(some ⟨.d0, .d6, .d0⟩), none, .ext (.t ⟨.d0, .d5, .d3⟩) 2⟩,
  ⟨(some ⟨.d0, .d1, .d4⟩), none, .box none (.c (.agg [(.int .i64 (.ofNat 0)), (.str [])]))⟩,
  ⟨none, none, .store 2 (.t ⟨.d0, .d1, .d4⟩) (.t ⟨.d0, .d5, .d6⟩)⟩,
  ⟨(some ⟨.d0, .d1, .d5⟩), none, .mv (.t ⟨.d0, .d5, .d7⟩)⟩,
  ⟨(some ⟨.d0, .d1, .d6⟩), none, .mv (.t ⟨.d0, .d6, .d0⟩)⟩])
 (.seq (.seq (.ops [⟨(some ⟨.d0, .d6, .d1⟩), none, .mv (.t ⟨.d0, .d1, .d6⟩)⟩,
  ⟨(some ⟨.d0, .d6, .d2⟩), none, .bin .neq (.t ⟨.d0, .d6, .d1⟩) (.c (.int .i64 (.ofNat 0)))⟩])
 (.cond (.t ⟨.d0, .d6, .d2⟩) (.seq (.ops [⟨(some ⟨.d0, .d6, .d3⟩), none, .build [(.int .i64 (.ofNat 0)), (.int .i64 (.ofNat 0)), (.str []), (.str []), (.int .i64 (.ofNat 0)), .nils, (.int .i64 (.ofNat 0)), (.int .i64 (.ofNat 0)), (.str [])] []⟩,
  ⟨(some ⟨.d0, .d6, .d4⟩), none, .mv (.t ⟨.d0, .d1, .d6⟩)⟩,
  ⟨none, none, .store 9 (.t ⟨.d0, .d0, .d4⟩) (.t ⟨.d0, .d6, .d3⟩)⟩,
  ⟨(some ⟨.d0, .d0, .d5⟩), none, .mv (.t ⟨.d0, .d6, .d4⟩)⟩])
 .ret) .skip))
 (.ops [⟨(some ⟨.d0, .d6, .d5⟩), none, .load (some 2) (.t ⟨.d0, .d1, .d4⟩)⟩,
  ⟨(some ⟨.d0, .d6, .d6⟩), none, .fieldA 7 (.t ⟨.d0, .d1, .d3⟩)⟩,
  ⟨none, none, .store 2 (.t ⟨.d0, .d6, .d6⟩) (.t ⟨.d0, .d6, .d5⟩)⟩]))) .skip))
 (.seq (.ops [⟨(some ⟨.d0, .d6, .d7⟩), none, .load (some 9) (.t ⟨.d0, .d1, .d3⟩)⟩,
  ⟨none, none, .store 9 (.t ⟨.d0, .d0, .d4⟩) (.t ⟨.d0, .d6, .d7⟩)⟩,
  ⟨(some ⟨.d0, .d0, .d5⟩), none, .mv (.c (.int .i64 (.ofNat 0)))⟩])
 .ret)))))))
 [.cell (some 9) ⟨.d0, .d0, .d4⟩, .tmp ⟨.d0, .d0, .d5⟩]
/-- umlaut/bind.test -/
def x26 : Ent := .code [⟨.d0, .d0, .d0⟩, ⟨.d0, .d0, .d1⟩]
 (.seq (.ops [⟨(some ⟨.d0, .d0, .d2⟩), none, .box none (.t ⟨.d0, .d0, .d0⟩)⟩,
  ⟨(some ⟨.d0, .d0, .d4⟩), none, .box none (.c (.agg [(.int .i64 (.ofNat 0)), (.int .i64 (.ofNat 0)), (.str []), (.str []), (.int .i64 (.ofNat 0)), .nils, (.int .i64 (.ofNat 0)), (.int .i64 (.ofNat 0)), (.str [])]))⟩,
  ⟨(some ⟨.d0, .d0, .d5⟩), none, .mv (.c (.int .i64 (.ofNat 0)))⟩])
 (.seq (.ops [⟨(some ⟨.d0, .d0, .d6⟩), none, .mv (.c (.int .i64 (.ofNat 0)))⟩])
 (.seq (.seq (.ops [⟨(some ⟨.d0, .d1, .d4⟩), none, .mv (.t ⟨.d0, .d0, .d1⟩)⟩,
  ⟨(some ⟨.d0, .d1, .d5⟩), none, .len .sli (.t ⟨.d0, .d1, .d4⟩)⟩,
  ⟨(some ⟨.d0, .d1, .d6⟩), none, .mv (.c (.int .i64 (.ofNat 0)))⟩])
 (.block 0 (.loop (.seq (.ops [⟨(some ⟨.d0, .d1, .d7⟩), none, .bin .lss (.t ⟨.d0, .d1, .d6⟩) (.t ⟨.d0, .d1, .d5⟩)⟩])
 (.seq (.cond (.t ⟨.d0, .d1, .d7⟩) .skip (.exit 0))
 (.seq (.block 1 (.seq (.ops [⟨(some ⟨.d0, .d2, .d0⟩), none, .idxA none 9 (.t ⟨.d0, .d1, .d4⟩) (.t ⟨.d0, .d1, .d6⟩)⟩,
  ⟨(some ⟨.d0, .d2, .d1⟩), none, .load (some 9) (.t ⟨.d0, .d2, .d0⟩)⟩,
  ⟨(some ⟨.d0, .d1, .d0⟩), none, .box none (.c (.agg [(.int .i64 (.ofNat 0)), (.int .i64 (.ofNat 0)), (.str []), (.str []), (.int .i64 (.ofNat 0)), .nils, (.int .i64 (.ofNat 0)), (.int .i64 (.ofNat 0)), (.str [])]))⟩,
  ⟨none, none, .store 9 (.t ⟨.d0, .d1, .d0⟩) (.t ⟨.d0, .d2, .d1⟩)⟩])
 (.seq (.seq (.ops [⟨(some ⟨.d0, .d2, .d2⟩), none, .fieldA 6 (.t ⟨.d0, .d1, .d0⟩)⟩,
  ⟨(some ⟨.d0, .d2, .d3⟩), none, .load none (.t ⟨.d0, .d2, .d2⟩)⟩,
  ⟨(some ⟨.d0, .d2, .d4⟩), none, .mv (.t ⟨.d0, .d0, .d6⟩)⟩,
  ⟨(some ⟨.d0, .d2, .d5⟩), none, .callF ⟨.d0, .d4, .d3⟩ [(.t ⟨.d0, .d2, .d3⟩), (.t ⟨.d0, .d2, .d4⟩)]⟩,
  ⟨(some ⟨.d0, .d2, .d6⟩), none, .un .not (.t ⟨.d0, .d2, .d5⟩)⟩,
  ⟨(some ⟨.d0, .d2, .d7⟩), none, .mv (.t ⟨.d0, .d2, .d6⟩)⟩,
  ⟨(some ⟨.d0, .d3, .d0⟩), (some (⟨.d0, .d2, .d7⟩, true)), .mv (.t ⟨.d0, .d0, .d6⟩)⟩,
  ⟨(some ⟨.d0, .d3, .d1⟩), (some (⟨.d0, .d2, .d7⟩, true)), .bin .neq (.t ⟨.d0, .d3, .d0⟩) (.c (.int .i64 (.ofNat 0)))⟩,
  ⟨(some ⟨.d0, .d3, .d2⟩), none, .pick (.t ⟨.d0, .d2, .d7⟩) (.t ⟨.d0, .d3, .d1⟩) (.c (.bool false))⟩])
 (.cond (.t ⟨.d0, .d3, .d2⟩) (.seq (.ops [⟨(some ⟨.d0, .d3, .d3⟩), none, .build [(.int .i64 (.ofNat 0)), (.int .i64 (.ofNat 0)), (.str []), (.str []), (.int .i64 (.ofNat 0)), .nils, (.int .i64 (.ofNat 0)), (.int .i64 (.ofNat 0)), (.str [])] []⟩,
  ⟨none, none, .store 9 (.t ⟨.d0, .d0, .d4⟩) (.t ⟨.d0, .d3, .d3⟩)⟩,
  ⟨(some ⟨.d0, .d0, .d5⟩), none, .mv (.c (.int .i64 (.ofNat 12)))⟩])
 .ret) .skip))
 (.ops [⟨(some ⟨.d0, .d3, .d4⟩), none, .mv (.t ⟨.d0, .d0, .d6⟩)⟩,
  ⟨(some ⟨.d0, .d3, .d5⟩), none, .fieldA 6 (.t ⟨.d0, .d1, .d0⟩)⟩,
  ⟨(some ⟨.d0, .d3, .d6⟩), none, .load none (.t ⟨.d0, .d3, .d5⟩)⟩,
  ⟨(some ⟨.d0, .d3, .d7⟩), none, .max2 (.t ⟨.d0, .d3, .d4⟩) (.t ⟨.d0, .d3, .d6⟩)⟩,
  ⟨(some ⟨.d0, .d0, .d6⟩), none, .mv (.t ⟨.d0, .d3, .d7⟩)⟩]))))
 (.ops [⟨(some ⟨.d0, .d4, .d0⟩), none, .bin .add (.t ⟨.d0, .d1, .d6⟩) (.c (.int .i64 (.ofNat 1)))⟩,
  ⟨(some ⟨.d0, .d1, .d6⟩), none, .mv (.t ⟨.d0, .d4, .d0⟩)⟩])))))))
 (.seq (.seq (.ops [⟨(some ⟨.d0, .d4, .d1⟩), none, .fieldA 0 (.t ⟨.d0, .d0, .d2⟩)⟩,
  ⟨(some ⟨.d0, .d4, .d2⟩), none, .load none (.t ⟨.d0, .d4, .d1⟩)⟩,
  ⟨(some ⟨.d0, .d4, .d3⟩), none, .bin .eql (.t ⟨.d0, .d4, .d2⟩) (.c (.int .i64 (.ofNat 8)))⟩,
  ⟨(some ⟨.d0, .d4, .d4⟩), none, .mv (.t ⟨.d0, .d4, .d3⟩)⟩,
  ⟨(some ⟨.d0, .d4, .d5⟩), (some (⟨.d0, .d4, .d4⟩, true)), .mv (.t ⟨.d0, .d0, .d6⟩)⟩,
  ⟨(some ⟨.d0, .d4, .d6⟩), (some (⟨.d0, .d4, .d4⟩, true)), .callF ⟨.d0, .d4, .d3⟩ [(.t ⟨.d0, .d4, .d5⟩), (.c (.int .i64 (.ofNat 3)))]⟩,
  ⟨(some ⟨.d0, .d4, .d7⟩), (some (⟨.d0, .d4, .d4⟩, true)), .un .not (.t ⟨.d0, .d4, .d6⟩)⟩,
  ⟨(some ⟨.d0, .d5, .d0⟩), none, .pick (.t ⟨.d0, .d4, .d4⟩) (.t ⟨.d0, .d4, .d7⟩) (.c (.bool false))⟩])
 (.cond (.t ⟨.d0, .d5, .d0⟩) (.seq (.ops [⟨(some ⟨.d0, .d5, .d1⟩), none, .build [(.int .i64 (.ofNat 0)), (.int .i64 (.ofNat 0)), (.str []), (.str []), (.int .i64 (.ofNat 0)), .nils, (.int .i64 (.ofNat 0)), (.int .i64 (.ofNat 0)), (.str [])] []⟩,
  ⟨none, none, .store 9 (.t ⟨.d0, .d0, .d4⟩) (.t ⟨.d0, .d5, .d1⟩)⟩,
  ⟨(some ⟨.d0, .d0, .d5⟩), none, .mv (.c (.int .i64 (.ofNat 12)))⟩])
 .ret) .skip))
 (.seq (.ops [⟨(some ⟨.d0, .d5, .d3⟩), none, .mv (.t ⟨.d0, .d0, .d1⟩)⟩,
  ⟨(some ⟨.d0, .d5, .d4⟩), none, .callF ⟨.d0, .d4, .d5⟩ [(.t ⟨.d0, .d5, .d3⟩)]⟩,
  ⟨(some ⟨.d0, .d5, .d2⟩), none, .mv (.t ⟨.d0, .d5, .d4⟩)⟩,
  ⟨(some ⟨.d0, .d5, .d5⟩), none, .ext (.t ⟨.d0, .d5, .d2⟩) 0⟩,
  ⟨(some ⟨.d0, .d5, .d6⟩), none, .ext (.t ⟨.d0, .d5, .d2⟩) 1⟩,
  ⟨(some ⟨.d0, .d5, .d7⟩), none, .ext (.t ⟨.d0, .d5, .d2⟩) 2⟩,
  ⟨(some ⟨.d0, .d1, .d1⟩), none, .box none (.c (.agg [(.int .i64 (.ofNat 0)), (.str [])]))⟩,
  ⟨none, none, .store 2 (.t ⟨.d0, .d1, .d1⟩) (.t ⟨.d0, .d5, .d5⟩)⟩,
  ⟨(some ⟨.d0, .d1, .d2⟩), none, .mv (.t ⟨.d0, .d5, .d6⟩)⟩,
  ⟨(some ⟨.d0, .d1, .d3⟩), none, .mv (.t ⟨.d0, .d5, .d7⟩)⟩])
 (.seq (.seq (.ops [⟨(some ⟨.d0, .d6, .d0⟩), none, .mv (.t ⟨.d0, .d1, .d2⟩)⟩,
  ⟨(some ⟨.d0, .d6, .d1⟩), none, .mv (.t ⟨.d0, .d6, .d0⟩)⟩,
  ⟨(some ⟨.d0, .d6, .d2⟩), (some (⟨.d0, .d6, .d1⟩, true)), .mv (.t ⟨.d0, .d1, .d3⟩)⟩,
  ⟨(some ⟨.d0, .d6, .d3⟩), (some (⟨.d0, .d6, .d1⟩, true)), .bin .neq (.t ⟨.d0, .d6, .d2⟩) (.c (.int .i64 (.ofNat 0)))⟩,
  ⟨(some ⟨.d0, .d6, .d4⟩), (some (⟨.d0, .d6, .d1⟩, true)), .mv (.t ⟨.d0, .d6, .d3⟩)⟩,
  ⟨(some ⟨.d0, .d6, .d5⟩), (some (⟨.d0, .d6, .d4⟩, false)), .fieldA 0 (.t ⟨.d0, .d1, .d1⟩)⟩,
  ⟨(some ⟨.d0, .d6, .d6⟩), (some (⟨.d0, .d6, .d4⟩, false)), .load none (.t ⟨.d0, .d6, .d5⟩)⟩,
  ⟨(some ⟨.d0, .d6, .d7⟩), (some (⟨.d0, .d6, .d4⟩, false)), .bin .eql (.t ⟨.d0, .d6, .d6⟩) (.c (.int .i64 (.ofNat 2)))⟩,
  ⟨(some ⟨.d0, .d7, .d0⟩), (some (⟨.d0, .d6, .d1⟩, true)), .pick (.t ⟨.d0, .d6, .d4⟩) (.c (.bool true)) (.t ⟨.d0, .d6, .d7⟩)⟩,
  ⟨(some ⟨.d0, .d7, .d1⟩), none, .pick (.t ⟨.d0, .d6, .d1⟩) (.t ⟨.d0, .d7, .d0⟩) (.c (.bool false))⟩])
 (.cond (.t ⟨.d0, .d7, .d1⟩) (.seq (.ops [⟨(some ⟨.d0, .d7, .d2⟩), none, .build [(.int .i64 (.ofNat 0)), (.int .i64 (.ofNat 0)), (.str []), (.str []), (.int .i64 (.ofNat 0)), .nils, (.int .i64 (.ofNat 0)), (.int .i64 (.ofNat 0)), (.str [])] []⟩,
  ⟨none, none, .store 9 (.t ⟨.d0, .d0, .d4⟩) (.t ⟨.d0, .d7, .d2⟩)⟩,
  ⟨(some ⟨.d0, .d0, .d5⟩), none, .mv (.c (.int .i64 (.ofNat 13)))⟩])
 .ret) .skip))
 (.seq (.ops [⟨(some ⟨.d0, .d7, .d3⟩), none, .fieldA 2 (.t ⟨.d0, .d0, .d2⟩)⟩,
  ⟨none, none, .store 1 (.t ⟨.d0, .d7, .d3⟩) (.c (.str []))⟩])
 (.seq (.seq (.ops [⟨(some ⟨.d0, .d7, .d4⟩), none, .mv (.t ⟨.d0, .d1, .d2⟩)⟩])
 (.cond (.t ⟨.d0, .d7, .d4⟩) (.ops [⟨(some ⟨.d0, .d7, .d5⟩), none, .fieldA 1 (.t ⟨.d0, .d1, .d1⟩)⟩,
  ⟨(some ⟨.d0, .d7, .d6⟩), none, .load none (.t ⟨.d0, .d7, .d5⟩)⟩,
  ⟨(some ⟨.d0, .d7, .d7⟩), none, .fieldA 2 (.t ⟨.d0, .d0, .d2⟩)⟩,
  ⟨none, none, .store 1 (.t ⟨.d0, .d7, .d7⟩) (.t ⟨.d0, .d7, .d6⟩)⟩]) .skip))
 (.seq (.seq (.ops [⟨(some ⟨.d1, .d0, .d0⟩), none, .fieldA 0 (.t ⟨.d0, .d0, .d2⟩)⟩,
  ⟨(some ⟨.d1, .d0, .d1⟩), none, .load none (.t ⟨.d1, .d0, .d0⟩)⟩,
  ⟨(some ⟨.d1, .d0, .d2⟩), none, .bin .eql (.t ⟨.d1, .d0, .d1⟩) (.c (.int .i64 (.ofNat 8)))⟩,
  ⟨(some ⟨.d1, .d0, .d3⟩), none, .mv (.t ⟨.d1, .d0, .d2⟩)⟩,
  ⟨(some ⟨.d1, .d0, .d4⟩), (some (⟨.d1, .d0, .d3⟩, true)), .fieldA 5 (.t ⟨.d0, .d0, .d2⟩)⟩,
  ⟨(some ⟨.d1, .d0, .d5⟩), (some (⟨.d1, .d0, .d3⟩, true)), .load none (.t ⟨.d1, .d0, .d4⟩)⟩,
  ⟨(some ⟨.d1, .d0, .d6⟩), (some (⟨.d1, .d0, .d3⟩, true)), .callF ⟨.d0, .d4, .d6⟩ [(.t ⟨.d1, .d0, .d5⟩)]⟩,
  ⟨(some ⟨.d1, .d0, .d7⟩), (some (⟨.d1, .d0, .d3⟩, true)), .un .not (.t ⟨.d1, .d0, .d6⟩)⟩,
  ⟨(some ⟨.d1, .d1, .d0⟩), none, .pick (.t ⟨.d1, .d0, .d3⟩) (.t ⟨.d1, .d0, .d7⟩) (.c (.bool false))⟩])
 (.cond (.t ⟨.d1, .d1, .d0⟩) (.seq (.ops [⟨(some ⟨.d1, .d1, .d1⟩), none, .build [(.int .i64 (.ofNat 0)), (.int .i64 (.ofNat 0)), (.str []), (.str []), (.int .i64 (.ofNat 0)), .nils, (.int .i64 (.ofNat 0)), (.int .i64 (.ofNat 0)), (.str [])] []⟩,
  ⟨none, none, .store 9 (.t ⟨.d0, .d0, .d4⟩) (.t ⟨.d1, .d1, .d1⟩)⟩,
  ⟨(some ⟨.d0, .d0, .d5⟩), none, .mv (.c (.int .i64 (.ofNat 1)))⟩])
 .ret) .skip))
 (.seq (.ops [⟨(some ⟨.d1, .d1, .d2⟩), none, .load (some 6) (.t ⟨.d0, .d0, .d2⟩)⟩,
  ⟨(some ⟨.d1, .d1, .d3⟩), none, .callF ⟨.d0, .d2, .d6⟩ [(.t ⟨.d1, .d1, .d2⟩), (.c (.int .i64 (.ofNat 1)))]⟩,
  ⟨none, none, .store 9 (.t ⟨.d0, .d0, .d4⟩) (.t ⟨.d1, .d1, .d3⟩)⟩,
  ⟨(some ⟨.d0, .d0, .d5⟩), none, .mv (.c (.int .i64 (.ofNat 0)))⟩])
 .ret))))))))))
 [.cell (some 9) ⟨.d0, .d0, .d4⟩, .tmp ⟨.d0, .d0, .d5⟩]
/-- umlaut/bind.text -/
def x30 : Ent := .code [⟨.d0, .d0, .d0⟩]
 (.seq (.ops [⟨(some ⟨.d0, .d0, .d2⟩), none, .mv (.c (.bool false))⟩])
 (.seq (.ops [⟨(some ⟨.d0, .d0, .d3⟩), none, .mv (.t ⟨.d0, .d0, .d0⟩)⟩,
  ⟨(some ⟨.d0, .d0, .d4⟩), none, .bin .eql (.t ⟨.d0, .d0, .d3⟩) (.c (.int .i64 (.ofNat 3)))⟩,
  ⟨(some ⟨.d0, .d0, .d5⟩), none, .mv (.t ⟨.d0, .d0, .d4⟩)⟩,
  ⟨(some ⟨.d0, .d0, .d6⟩), (some (⟨.d0, .d0, .d5⟩, false)), .mv (.t ⟨.d0, .d0, .d0⟩)⟩,
  ⟨(some ⟨.d0, .d0, .d7⟩), (some (⟨.d0, .d0, .d5⟩, false)), .bin .eql (.t ⟨.d0, .d0, .d6⟩) (.c (.int .i64 (.ofNat 0)))⟩,
  ⟨(some ⟨.d0, .d1, .d0⟩), none, .pick (.t ⟨.d0, .d0, .d5⟩) (.c (.bool true)) (.t ⟨.d0, .d0, .d7⟩)⟩,
  ⟨(some ⟨.d0, .d0, .d2⟩), none, .mv (.t ⟨.d0, .d1, .d0⟩)⟩])
 .ret))
 [.tmp ⟨.d0, .d0, .d2⟩]
/-- umlaut/bind.literal -/
def x31 : Ent := .code []
 (.seq (.ops [⟨(some ⟨.d0, .d0, .d0⟩), none, .box none (.c (.agg [(.int .i64 (.ofNat 0)), (.str [])]))⟩])
 (.seq (.ops [⟨(some ⟨.d0, .d0, .d1⟩), none, .build [(.int .i64 (.ofNat 0)), (.str [])] [(0, 1, (.c (.int .i64 (.ofNat 0)))), (1, 1, (.c (.str [98, 105, 110, 97, 114, 121])))]⟩,
  ⟨none, none, .store 2 (.t ⟨.d0, .d0, .d0⟩) (.t ⟨.d0, .d0, .d1⟩)⟩])
 .ret))
 [.cell (some 2) ⟨.d0, .d0, .d0⟩]
/-- umlaut/reg.Name -/
def x32 : Ent := .code [⟨.d0, .d0, .d0⟩]
 (.seq (.ops [⟨(some ⟨.d0, .d0, .d2⟩), none, .mv (.c (.str []))⟩,
  ⟨(some ⟨.d0, .d0, .d3⟩), none, .mv (.c (.bool false))⟩])
 (.seq (.seq (.ops [⟨(some ⟨.d0, .d0, .d5⟩), none, .mv (.t ⟨.d0, .d0, .d0⟩)⟩,
  ⟨(some ⟨.d0, .d0, .d6⟩), none, .bin .eql (.t ⟨.d0, .d0, .d5⟩) (.c (.str []))⟩,
  ⟨(some ⟨.d0, .d0, .d7⟩), none, .mv (.t ⟨.d0, .d0, .d6⟩)⟩,
  ⟨(some ⟨.d0, .d1, .d0⟩), (some (⟨.d0, .d0, .d7⟩, false)), .mv (.t ⟨.d0, .d0, .d0⟩)⟩,
  ⟨(some ⟨.d0, .d1, .d1⟩), (some (⟨.d0, .d0, .d7⟩, false)), .len .str (.t ⟨.d0, .d1, .d0⟩)⟩,
  ⟨(some ⟨.d0, .d1, .d2⟩), (some (⟨.d0, .d0, .d7⟩, false)), .bin .gtr (.t ⟨.d0, .d1, .d1⟩) (.c (.int .i64 (.ofNat 16)))⟩,
  ⟨(some ⟨.d0, .d1, .d3⟩), none, .pick (.t ⟨.d0, .d0, .d7⟩) (.c (.bool true)) (.t ⟨.d0, .d1, .d2⟩)⟩,
  ⟨(some ⟨.d0, .d1, .d4⟩), none, .mv (.t ⟨.d0, .d1, .d3⟩)⟩,
  ⟨(some ⟨.d0, .d1, .d5⟩), (some (⟨.d0, .d1, .d4⟩, false)), .mv (.t ⟨.d0, .d0, .d0⟩)⟩,
  ⟨(some ⟨.d0, .d1, .d6⟩), (some (⟨.d0, .d1, .d4⟩, false)), .idxS (.t ⟨.d0, .d1, .d5⟩) (.c (.int .i64 (.ofNat 0)))⟩,
  ⟨(some ⟨.d0, .d1, .d7⟩), (some (⟨.d0, .d1, .d4⟩, false)), .bin .geq (.t ⟨.d0, .d1, .d6⟩) (.c (.int .u8 (.ofNat 48)))⟩,
  ⟨(some ⟨.d0, .d2, .d0⟩), (some (⟨.d0, .d1, .d4⟩, false)), .mv (.t ⟨.d0, .d1, .d7⟩)⟩,
  ⟨(some ⟨.d0, .d2, .d1⟩), (some (⟨.d0, .d2, .d0⟩, true)), .mv (.t ⟨.d0, .d0, .d0⟩)⟩,
  ⟨(some ⟨.d0, .d2, .d2⟩), (some (⟨.d0, .d2, .d0⟩, true)), .idxS (.t ⟨.d0, .d2, .d1⟩) (.c (.int .i64 (.ofNat 0)))⟩,
  ⟨(some ⟨.d0, .d2, .d3⟩), (some (⟨.d0, .d2, .d0⟩, true)), .bin .leq (.t ⟨.d0, .d2, .d2⟩) (.c (.int .u8 (.ofNat 57)))⟩,
  ⟨(some ⟨.d0, .d2, .d4⟩), (some (⟨.d0, .d1, .d4⟩, false)), .pick (.t ⟨.d0, .d2, .d0⟩) (.t ⟨.d0, .d2, .d3⟩) (.c (.bool false))⟩,
  ⟨(some ⟨.d0, .d2, .d5⟩), none, .pick (.t ⟨.d0, .d1, .d4⟩) (.c (.bool true)) (.t ⟨.d0, .d2, .d4⟩)⟩])
 (.cond (.t ⟨.d0, .d2, .d5⟩) (.seq (.ops [⟨(some ⟨.d0, .d0, .d2⟩), none, .mv (.c (.str []))⟩,
  ⟨(some ⟨.d0, .d0, .d3⟩), none, .mv (.c (.bool false))⟩])
 .ret) .skip))
 (.seq (.ops [⟨(some ⟨.d0, .d2, .d6⟩), none, .mv (.t ⟨.d0, .d0, .d0⟩)⟩,
  ⟨(some ⟨.d0, .d2, .d7⟩), none, .callF ⟨.d0, .d5, .d6⟩ [(.c (.func 47 [] [])), (.t ⟨.d0, .d2, .d6⟩)]⟩,
  ⟨(some ⟨.d0, .d0, .d4⟩), none, .mv (.t ⟨.d0, .d2, .d7⟩)⟩])
 (.seq (.seq (.ops [⟨(some ⟨.d0, .d3, .d0⟩), none, .mv (.t ⟨.d0, .d0, .d4⟩)⟩,
  ⟨(some ⟨.d0, .d3, .d1⟩), none, .callF ⟨.d0, .d6, .d0⟩ [(.t ⟨.d0, .d3, .d0⟩), (.c (.str [97, 98, 99, 100, 101, 102, 103, 104, 105, 106, 107, 108, 109, 110, 111, 112, 113, 114, 115, 116, 117, 118, 119, 120, 121, 122, 48, 49, 50, 51, 52, 53, 54, 55, 56, 57, 95]))]⟩,
  ⟨(some ⟨.d0, .d3, .d2⟩), none, .bin .neq (.t ⟨.d0, .d3, .d1⟩) (.c (.str []))⟩])
 (.cond (.t ⟨.d0, .d3, .d2⟩) (.seq (.ops [⟨(some ⟨.d0, .d0, .d2⟩), none, .mv (.c (.str []))⟩,
  ⟨(some ⟨.d0, .d0, .d3⟩), none, .mv (.c (.bool false))⟩])
 .ret) .skip))
 (.seq (.ops [⟨(some ⟨.d0, .d3, .d3⟩), none, .mv (.t ⟨.d0, .d0, .d4⟩)⟩,
  ⟨(some ⟨.d0, .d0, .d2⟩), none, .mv (.t ⟨.d0, .d3, .d3⟩)⟩,
  ⟨(some ⟨.d0, .d0, .d3⟩), none, .mv (.c (.bool true))⟩])
 .ret)))))
 [.tmp ⟨.d0, .d0, .d2⟩, .tmp ⟨.d0, .d0, .d3⟩]
/-- (*umlaut/reg.Reg).Get -/
def x33 : Ent := .code [⟨.d0, .d0, .d0⟩, ⟨.d0, .d0, .d1⟩]
 (.seq (.ops [⟨(some ⟨.d0, .d0, .d4⟩), none, .box none (.c (.agg [(.int .i64 (.ofNat 0)), (.int .i64 (.ofNat 0)), (.bool false), (.bool false), .nilp]))⟩,
  ⟨(some ⟨.d0, .d0, .d5⟩), none, .mv (.c (.bool false))⟩])
 (.seq (.ops [⟨(some ⟨.d0, .d1, .d2⟩), none, .mv (.t ⟨.d0, .d0, .d1⟩)⟩,
  ⟨(some ⟨.d0, .d1, .d3⟩), none, .callF ⟨.d0, .d4, .d0⟩ [(.t ⟨.d0, .d1, .d2⟩)]⟩,
  ⟨(some ⟨.d0, .d1, .d1⟩), none, .mv (.t ⟨.d0, .d1, .d3⟩)⟩,
  ⟨(some ⟨.d0, .d1, .d4⟩), none, .ext (.t ⟨.d0, .d1, .d1⟩) 0⟩,
  ⟨(some ⟨.d0, .d1, .d5⟩), none, .ext (.t ⟨.d0, .d1, .d1⟩) 1⟩,
  ⟨(some ⟨.d0, .d0, .d6⟩), none, .mv (.t ⟨.d0, .d1, .d4⟩)⟩,
  ⟨(some ⟨.d0, .d0, .d7⟩), none, .mv (.t ⟨.d0, .d1, .d5⟩)⟩])
 (.seq (.seq (.ops [⟨(some ⟨.d0, .d1, .d6⟩), none, .mv (.t ⟨.d0, .d0, .d7⟩)⟩,
  ⟨(some ⟨.d0, .d1, .d7⟩), none, .un .not (.t ⟨.d0, .d1, .d6⟩)⟩])
 (.cond (.t ⟨.d0, .d1, .d7⟩) (.seq (.ops [⟨(some ⟨.d0, .d2, .d0⟩), none, .build [(.int .i64 (.ofNat 0)), (.int .i64 (.ofNat 0)), (.bool false), (.bool false), .nilp] []⟩,
  ⟨none, none, .store 5 (.t ⟨.d0, .d0, .d4⟩) (.t ⟨.d0, .d2, .d0⟩)⟩,
  ⟨(some ⟨.d0, .d0, .d5⟩), none, .mv (.c (.bool false))⟩])
 .ret) .skip))
 (.seq (.ops [⟨(some ⟨.d0, .d2, .d2⟩), none, .mv (.t ⟨.d0, .d0, .d0⟩)⟩,
  ⟨(some ⟨.d0, .d2, .d3⟩), none, .nilck (.t ⟨.d0, .d2, .d2⟩)⟩,
  ⟨(some ⟨.d0, .d2, .d4⟩), none, .fieldA 0 (.t ⟨.d0, .d2, .d3⟩)⟩,
  ⟨(some ⟨.d0, .d2, .d5⟩), none, .load none (.t ⟨.d0, .d2, .d4⟩)⟩,
  ⟨(some ⟨.d0, .d2, .d6⟩), none, .mv (.t ⟨.d0, .d0, .d6⟩)⟩,
  ⟨(some ⟨.d0, .d2, .d7⟩), none, .build [(.str [])] [(0, 1, (.t ⟨.d0, .d2, .d6⟩))]⟩,
  ⟨(some ⟨.d0, .d3, .d0⟩), none, .look (.flat [.s]) (.agg [(.int .i64 (.ofNat 0)), (.int .i64 (.ofNat 0)), (.bool false), (.bool false), .nilp]) true (.t ⟨.d0, .d2, .d5⟩) (.t ⟨.d0, .d2, .d7⟩)⟩,
  ⟨(some ⟨.d0, .d2, .d1⟩), none, .mv (.t ⟨.d0, .d3, .d0⟩)⟩,
  ⟨(some ⟨.d0, .d3, .d1⟩), none, .ext (.t ⟨.d0, .d2, .d1⟩) 0⟩,
  ⟨(some ⟨.d0, .d3, .d2⟩), none, .ext (.t ⟨.d0, .d2, .d1⟩) 1⟩,
  ⟨(some ⟨.d0, .d1, .d0⟩), none, .box none (.c (.agg [(.int .i64 (.ofNat 0)), (.int .i64 (.ofNat 0)), (.bool false), (.bool false), .nilp]))⟩,
  ⟨none, none, .store 5 (.t ⟨.d0, .d1, .d0⟩) (.t ⟨.d0, .d3, .d1⟩)⟩,
  ⟨(some ⟨.d0, .d0, .d7⟩), none, .mv (.t ⟨.d0, .d3, .d2⟩)⟩])
 (.seq (.ops [⟨(some ⟨.d0, .d3, .d3⟩), none, .load (some 5) (.t ⟨.d0, .d1, .d0⟩)⟩,
  ⟨(some ⟨.d0, .d3, .d4⟩), none, .mv (.t ⟨.d0, .d0, .d7⟩)⟩,
  ⟨none, none, .store 5 (.t ⟨.d0, .d0, .d4⟩) (.t ⟨.d0, .d3, .d3⟩)⟩,
  ⟨(some ⟨.d0, .d0, .d5⟩), none, .mv (.t ⟨.d0, .d3, .d4⟩)⟩])
 .ret)))))
 [.cell (some 5) ⟨.d0, .d0, .d4⟩, .tmp ⟨.d0, .d0, .d5⟩]
/-- umlaut/cast.Takes -/
def x34 : Ent := .code [⟨.d0, .d0, .d0⟩]
 (.seq (.ops [⟨(some ⟨.d0, .d0, .d2⟩), none, .mv (.c (.int .i64 (.ofNat 0)))⟩,
  ⟨(some ⟨.d0, .d0, .d3⟩), none, .mv (.c (.bool false))⟩])
 (.seq (.seq (.ops [⟨(some ⟨.d0, .d0, .d4⟩), none, .mv (.t ⟨.d0, .d0, .d0⟩)⟩])
 (.block 0 (.seq (.seq (.ops [⟨(some ⟨.d0, .d0, .d6⟩), none, .bin .eql (.t ⟨.d0, .d0, .d4⟩) (.c (.str [108, 101, 110, 103, 116, 104]))⟩,
  ⟨(some ⟨.d0, .d0, .d5⟩), none, .mv (.t ⟨.d0, .d0, .d6⟩)⟩])
 (.cond (.t ⟨.d0, .d0, .d5⟩) .skip (.ops [⟨(some ⟨.d0, .d0, .d7⟩), none, .bin .eql (.t ⟨.d0, .d0, .d4⟩) (.c (.str [102, 111, 108, 100]))⟩,
  ⟨(some ⟨.d0, .d0, .d5⟩), none, .mv (.t ⟨.d0, .d0, .d7⟩)⟩])))
 (.cond (.t ⟨.d0, .d0, .d5⟩) (.seq (.ops [⟨(some ⟨.d0, .d0, .d2⟩), none, .mv (.c (.int .i64 (.ofNat 3)))⟩,
  ⟨(some ⟨.d0, .d0, .d3⟩), none, .mv (.c (.bool true))⟩])
 .ret) (.seq (.seq (.ops [⟨(some ⟨.d0, .d1, .d1⟩), none, .bin .eql (.t ⟨.d0, .d0, .d4⟩) (.c (.str [97, 98, 115]))⟩,
  ⟨(some ⟨.d0, .d1, .d0⟩), none, .mv (.t ⟨.d0, .d1, .d1⟩)⟩])
 (.cond (.t ⟨.d0, .d1, .d0⟩) .skip (.seq (.ops [⟨(some ⟨.d0, .d1, .d2⟩), none, .bin .eql (.t ⟨.d0, .d0, .d4⟩) (.c (.str [98, 121, 116, 101]))⟩,
  ⟨(some ⟨.d0, .d1, .d0⟩), none, .mv (.t ⟨.d0, .d1, .d2⟩)⟩])
 (.cond (.t ⟨.d0, .d1, .d0⟩) .skip (.ops [⟨(some ⟨.d0, .d1, .d3⟩), none, .bin .eql (.t ⟨.d0, .d0, .d4⟩) (.c (.str [119, 111, 114, 100]))⟩,
  ⟨(some ⟨.d0, .d1, .d0⟩), none, .mv (.t ⟨.d0, .d1, .d3⟩)⟩])))))
 (.cond (.t ⟨.d0, .d1, .d0⟩) (.seq (.ops [⟨(some ⟨.d0, .d0, .d2⟩), none, .mv (.c (.int .i64 (.ofNat 2)))⟩,
  ⟨(some ⟨.d0, .d0, .d3⟩), none, .mv (.c (.bool true))⟩])
 .ret) .skip))))))
 (.seq (.ops [⟨(some ⟨.d0, .d0, .d2⟩), none, .mv (.c (.int .i64 (.ofNat 0)))⟩,
  ⟨(some ⟨.d0, .d0, .d3⟩), none, .mv (.c (.bool false))⟩])
 .ret)))
 [.tmp ⟨.d0, .d0, .d2⟩, .tmp ⟨.d0, .d0, .d3⟩]
/-- umlaut/bind.fits -/
def x35 : Ent := .code [⟨.d0, .d0, .d0⟩, ⟨.d0, .d0, .d1⟩]
 (.seq (.ops [⟨(some ⟨.d0, .d0, .d4⟩), none, .mv (.c (.bool false))⟩])
 (.seq (.ops [⟨(some ⟨.d0, .d0, .d5⟩), none, .mv (.t ⟨.d0, .d0, .d0⟩)⟩,
  ⟨(some ⟨.d0, .d0, .d6⟩), none, .mv (.t ⟨.d0, .d0, .d1⟩)⟩,
  ⟨(some ⟨.d0, .d0, .d7⟩), none, .bin .eql (.t ⟨.d0, .d0, .d5⟩) (.t ⟨.d0, .d0, .d6⟩)⟩,
  ⟨(some ⟨.d0, .d1, .d0⟩), none, .mv (.t ⟨.d0, .d0, .d7⟩)⟩,
  ⟨(some ⟨.d0, .d1, .d1⟩), (some (⟨.d0, .d1, .d0⟩, false)), .mv (.t ⟨.d0, .d0, .d0⟩)⟩,
  ⟨(some ⟨.d0, .d1, .d2⟩), (some (⟨.d0, .d1, .d0⟩, false)), .bin .eql (.t ⟨.d0, .d1, .d1⟩) (.c (.int .i64 (.ofNat 0)))⟩,
  ⟨(some ⟨.d0, .d1, .d3⟩), none, .pick (.t ⟨.d0, .d1, .d0⟩) (.c (.bool true)) (.t ⟨.d0, .d1, .d2⟩)⟩,
  ⟨(some ⟨.d0, .d0, .d4⟩), none, .mv (.t ⟨.d0, .d1, .d3⟩)⟩])
 .ret))
 [.tmp ⟨.d0, .d0, .d4⟩]
/-- umlaut/bind.kinds -/
def x36 : Ent := .code [⟨.d0, .d0, .d0⟩]
 (.seq (.ops [⟨(some ⟨.d0, .d0, .d2⟩), none, .mv (.c (.int .i64 (.ofNat 0)))⟩,
  ⟨(some ⟨.d0, .d0, .d3⟩), none, .mv (.c (.int .i64 (.ofNat 0)))⟩,
  ⟨(some ⟨.d0, .d0, .d4⟩), none, .mv (.c (.bool false))⟩])
 (.seq (.seq (.ops [⟨(some ⟨.d0, .d0, .d5⟩), none, .mv (.t ⟨.d0, .d0, .d0⟩)⟩])
 (.block 0 (.seq (.seq (.ops [⟨(some ⟨.d0, .d0, .d7⟩), none, .bin .eql (.t ⟨.d0, .d0, .d5⟩) (.c (.int .i64 (.ofNat 18)))⟩,
  ⟨(some ⟨.d0, .d0, .d6⟩), none, .mv (.t ⟨.d0, .d0, .d7⟩)⟩])
 (.cond (.t ⟨.d0, .d0, .d6⟩) .skip (.seq (.ops [⟨(some ⟨.d0, .d1, .d0⟩), none, .bin .eql (.t ⟨.d0, .d0, .d5⟩) (.c (.int .i64 (.ofNat 19)))⟩,
  ⟨(some ⟨.d0, .d0, .d6⟩), none, .mv (.t ⟨.d0, .d1, .d0⟩)⟩])
 (.cond (.t ⟨.d0, .d0, .d6⟩) .skip (.seq (.ops [⟨(some ⟨.d0, .d1, .d1⟩), none, .bin .eql (.t ⟨.d0, .d0, .d5⟩) (.c (.int .i64 (.ofNat 22)))⟩,
  ⟨(some ⟨.d0, .d0, .d6⟩), none, .mv (.t ⟨.d0, .d1, .d1⟩)⟩])
 (.cond (.t ⟨.d0, .d0, .d6⟩) .skip (.ops [⟨(some ⟨.d0, .d1, .d2⟩), none, .bin .eql (.t ⟨.d0, .d0, .d5⟩) (.c (.int .i64 (.ofNat 21)))⟩,
  ⟨(some ⟨.d0, .d0, .d6⟩), none, .mv (.t ⟨.d0, .d1, .d2⟩)⟩])))))))
 (.cond (.t ⟨.d0, .d0, .d6⟩) (.seq (.ops [⟨(some ⟨.d0, .d0, .d2⟩), none, .mv (.c (.int .i64 (.ofNat 1)))⟩,
  ⟨(some ⟨.d0, .d0, .d3⟩), none, .mv (.c (.int .i64 (.ofNat 1)))⟩,
  ⟨(some ⟨.d0, .d0, .d4⟩), none, .mv (.c (.bool true))⟩])
 .ret) (.seq (.ops [⟨(some ⟨.d0, .d1, .d4⟩), none, .bin .eql (.t ⟨.d0, .d0, .d5⟩) (.c (.int .i64 (.ofNat 17)))⟩,
  ⟨(some ⟨.d0, .d1, .d3⟩), none, .mv (.t ⟨.d0, .d1, .d4⟩)⟩])
 (.cond (.t ⟨.d0, .d1, .d3⟩) (.seq (.ops [⟨(some ⟨.d0, .d0, .d2⟩), none, .mv (.c (.int .i64 (.ofNat 3)))⟩,
  ⟨(some ⟨.d0, .d0, .d3⟩), none, .mv (.c (.int .i64 (.ofNat 3)))⟩,
  ⟨(some ⟨.d0, .d0, .d4⟩), none, .mv (.c (.bool true))⟩])
 .ret) .skip))))))
 (.seq (.ops [⟨(some ⟨.d0, .d1, .d5⟩), none, .mv (.t ⟨.d0, .d0, .d0⟩)⟩,
  ⟨(some ⟨.d0, .d1, .d6⟩), none, .bin .geq (.t ⟨.d0, .d1, .d5⟩) (.c (.int .i64 (.ofNat 7)))⟩,
  ⟨(some ⟨.d0, .d1, .d7⟩), none, .mv (.t ⟨.d0, .d1, .d6⟩)⟩,
  ⟨(some ⟨.d0, .d2, .d0⟩), (some (⟨.d0, .d1, .d7⟩, true)), .mv (.t ⟨.d0, .d0, .d0⟩)⟩,
  ⟨(some ⟨.d0, .d2, .d1⟩), (some (⟨.d0, .d1, .d7⟩, true)), .bin .leq (.t ⟨.d0, .d2, .d0⟩) (.c (.int .i64 (.ofNat 16)))⟩,
  ⟨(some ⟨.d0, .d2, .d2⟩), none, .pick (.t ⟨.d0, .d1, .d7⟩) (.t ⟨.d0, .d2, .d1⟩) (.c (.bool false))⟩,
  ⟨(some ⟨.d0, .d2, .d3⟩), none, .mv (.t ⟨.d0, .d2, .d2⟩)⟩,
  ⟨(some ⟨.d0, .d2, .d4⟩), (some (⟨.d0, .d2, .d3⟩, false)), .mv (.t ⟨.d0, .d0, .d0⟩)⟩,
  ⟨(some ⟨.d0, .d2, .d5⟩), (some (⟨.d0, .d2, .d3⟩, false)), .bin .eql (.t ⟨.d0, .d2, .d4⟩) (.c (.int .i64 (.ofNat 20)))⟩,
  ⟨(some ⟨.d0, .d2, .d6⟩), none, .pick (.t ⟨.d0, .d2, .d3⟩) (.c (.bool true)) (.t ⟨.d0, .d2, .d5⟩)⟩,
  ⟨(some ⟨.d0, .d0, .d2⟩), none, .mv (.c (.int .i64 (.ofNat 2)))⟩,
  ⟨(some ⟨.d0, .d0, .d3⟩), none, .mv (.c (.int .i64 (.ofNat 2)))⟩,
  ⟨(some ⟨.d0, .d0, .d4⟩), none, .mv (.t ⟨.d0, .d2, .d6⟩)⟩])
 .ret)))
 [.tmp ⟨.d0, .d0, .d2⟩, .tmp ⟨.d0, .d0, .d3⟩, .tmp ⟨.d0, .d0, .d4⟩]
/-- umlaut/bind.combine -/
def x37 : Ent := .code [⟨.d0, .d0, .d0⟩]
 (.seq (.ops [⟨(some ⟨.d0, .d0, .d2⟩), none, .box none (.c (.agg [(.int .i64 (.ofNat 0)), (.str [])]))⟩,
  ⟨(some ⟨.d0, .d0, .d3⟩), none, .mv (.c (.bool false))⟩,
  ⟨(some ⟨.d0, .d0, .d4⟩), none, .mv (.c (.int .i64 (.ofNat 0)))⟩])
 (.seq (.ops [⟨(some ⟨.d0, .d1, .d1⟩), none, .callF ⟨.d0, .d3, .d7⟩ []⟩,
  ⟨none, none, .store 2 (.t ⟨.d0, .d0, .d2⟩) (.t ⟨.d0, .d1, .d1⟩)⟩])
 (.seq (.seq (.ops [⟨(some ⟨.d0, .d1, .d2⟩), none, .mv (.t ⟨.d0, .d0, .d0⟩)⟩,
  ⟨(some ⟨.d0, .d1, .d3⟩), none, .len .sli (.t ⟨.d0, .d1, .d2⟩)⟩,
  ⟨(some ⟨.d0, .d1, .d4⟩), none, .mv (.c (.int .i64 (.ofNat 0)))⟩])
 (.block 0 (.loop (.seq (.ops [⟨(some ⟨.d0, .d1, .d5⟩), none, .bin .lss (.t ⟨.d0, .d1, .d4⟩) (.t ⟨.d0, .d1, .d3⟩)⟩])
 (.seq (.cond (.t ⟨.d0, .d1, .d5⟩) .skip (.exit 0))
 (.seq (.block 1 (.seq (.ops [⟨(some ⟨.d0, .d1, .d6⟩), none, .idxA none 9 (.t ⟨.d0, .d1, .d2⟩) (.t ⟨.d0, .d1, .d4⟩)⟩,
  ⟨(some ⟨.d0, .d1, .d7⟩), none, .load (some 9) (.t ⟨.d0, .d1, .d6⟩)⟩,
  ⟨(some ⟨.d0, .d0, .d6⟩), none, .box none (.c (.agg [(.int .i64 (.ofNat 0)), (.int .i64 (.ofNat 0)), (.str []), (.str []), (.int .i64 (.ofNat 0)), .nils, (.int .i64 (.ofNat 0)), (.int .i64 (.ofNat 0)), (.str [])]))⟩,
  ⟨none, none, .store 9 (.t ⟨.d0, .d0, .d6⟩) (.t ⟨.d0, .d1, .d7⟩)⟩])
 (.ops [⟨(some ⟨.d0, .d2, .d0⟩), none, .mv (.t ⟨.d0, .d0, .d3⟩)⟩,
  ⟨(some ⟨.d0, .d2, .d1⟩), none, .mv (.t ⟨.d0, .d2, .d0⟩)⟩,
  ⟨(some ⟨.d0, .d2, .d2⟩), (some (⟨.d0, .d2, .d1⟩, false)), .fieldA 6 (.t ⟨.d0, .d0, .d6⟩)⟩,
  ⟨(some ⟨.d0, .d2, .d3⟩), (some (⟨.d0, .d2, .d1⟩, false)), .load none (.t ⟨.d0, .d2, .d2⟩)⟩,
  ⟨(some ⟨.d0, .d2, .d4⟩), (some (⟨.d0, .d2, .d1⟩, false)), .bin .eql (.t ⟨.d0, .d2, .d3⟩) (.c (.int .i64 (.ofNat 3)))⟩,
  ⟨(some ⟨.d0, .d2, .d5⟩), none, .pick (.t ⟨.d0, .d2, .d1⟩) (.c (.bool true)) (.t ⟨.d0, .d2, .d4⟩)⟩,
  ⟨(some ⟨.d0, .d0, .d3⟩), none, .mv (.t ⟨.d0, .d2, .d5⟩)⟩])))
 (.ops [⟨(some ⟨.d0, .d2, .d6⟩), none, .bin .add (.t ⟨.d0, .d1, .d4⟩) (.c (.int .i64 (.ofNat 1)))⟩,
  ⟨(some ⟨.d0, .d1, .d4⟩), none, .mv (.t ⟨.d0, .d2, .d6⟩)⟩])))))))
 (.seq (.seq (.ops [⟨(some ⟨.d0, .d2, .d7⟩), none, .mv (.t ⟨.d0, .d0, .d0⟩)⟩,
  ⟨(some ⟨.d0, .d3, .d0⟩), none, .len .sli (.t ⟨.d0, .d2, .d7⟩)⟩,
  ⟨(some ⟨.d0, .d3, .d1⟩), none, .mv (.c (.int .i64 (.ofNat 0)))⟩])
 (.block 2 (.loop (.seq (.ops [⟨(some ⟨.d0, .d3, .d2⟩), none, .bin .lss (.t ⟨.d0, .d3, .d1⟩) (.t ⟨.d0, .d3, .d0⟩)⟩])
 (.seq (.cond (.t ⟨.d0, .d3, .d2⟩) .skip (.exit 2))
 (.seq (.block 3 (.seq (.ops [⟨(some ⟨.d0, .d3, .d3⟩), none, .idxA none 9 (.t ⟨.d0, .d2, .d7⟩) (.t ⟨.d0, .d3, .d1⟩)⟩,
  ⟨(some ⟨.d0, .d3, .d4⟩), none, .load (some 9) (.t ⟨.d0, .d3, .d3⟩)⟩,
  ⟨(some ⟨.d0, .d1, .d0⟩), none, .box none (.c (.agg [(.int .i64 (.ofNat 0)), (.int .i64 (.ofNat 0)), (.str []), (.str []), (.int .i64 (.ofNat 0)), .nils, (.int .i64 (.ofNat 0)), (.int .i64 (.ofNat 0)), (.str [])]))⟩,
  ⟨none, none, .store 9 (.t ⟨.d0, .d1, .d0⟩) (.t ⟨.d0, .d3, .d4⟩)⟩])
 (.seq (.ops [⟨(some ⟨.d0, .d3, .d5⟩), none, .fieldA 6 (.t ⟨.d0, .d1, .d0⟩)⟩,
  ⟨(some ⟨.d0, .d3, .d6⟩), none, .load none (.t ⟨.d0, .d3, .d5⟩)⟩,
  ⟨(some ⟨.d0, .d3, .d7⟩), none, .callF ⟨.d0, .d3, .d6⟩ [(.t ⟨.d0, .d3, .d6⟩)]⟩])
 (.cond (.t ⟨.d0, .d3, .d7⟩) (.seq (.ops [⟨(some ⟨.d0, .d4, .d1⟩), none, .load (some 2) (.t ⟨.d0, .d0, .d2⟩)⟩,
  ⟨(some ⟨.d0, .d4, .d2⟩), none, .fieldA 7 (.t ⟨.d0, .d1, .d0⟩)⟩,
  ⟨(some ⟨.d0, .d4, .d3⟩), none, .load (some 2) (.t ⟨.d0, .d4, .d2⟩)⟩,
  ⟨(some ⟨.d0, .d4, .d4⟩), none, .callF ⟨.d0, .d1, .d3⟩ [(.t ⟨.d0, .d4, .d1⟩), (.t ⟨.d0, .d4, .d3⟩)]⟩,
  ⟨(some ⟨.d0, .d4, .d0⟩), none, .mv (.t ⟨.d0, .d4, .d4⟩)⟩,
  ⟨(some ⟨.d0, .d4, .d5⟩), none, .ext (.t ⟨.d0, .d4, .d0⟩) 0⟩,
  ⟨(some ⟨.d0, .d4, .d6⟩), none, .ext (.t ⟨.d0, .d4, .d0⟩) 1⟩,
  ⟨none, none, .store 2 (.t ⟨.d0, .d0, .d2⟩) (.t ⟨.d0, .d4, .d5⟩)⟩,
  ⟨(some ⟨.d0, .d0, .d4⟩), none, .mv (.t ⟨.d0, .d4, .d6⟩)⟩])
 (.seq (.ops [⟨(some ⟨.d0, .d4, .d7⟩), none, .mv (.t ⟨.d0, .d0, .d4⟩)⟩,
  ⟨(some ⟨.d0, .d5, .d0⟩), none, .bin .neq (.t ⟨.d0, .d4, .d7⟩) (.c (.int .i64 (.ofNat 0)))⟩])
 (.cond (.t ⟨.d0, .d5, .d0⟩) (.seq (.ops [⟨(some ⟨.d0, .d5, .d1⟩), none, .build [(.int .i64 (.ofNat 0)), (.str [])] []⟩,
  ⟨(some ⟨.d0, .d5, .d2⟩), none, .mv (.t ⟨.d0, .d0, .d3⟩)⟩,
  ⟨(some ⟨.d0, .d5, .d3⟩), none, .mv (.t ⟨.d0, .d0, .d4⟩)⟩,
  ⟨none, none, .store 2 (.t ⟨.d0, .d0, .d2⟩) (.t ⟨.d0, .d5, .d1⟩)⟩,
  ⟨(some ⟨.d0, .d0, .d3⟩), none, .mv (.t ⟨.d0, .d5, .d2⟩)⟩,
  ⟨(some ⟨.d0, .d0, .d4⟩), none, .mv (.t ⟨.d0, .d5, .d3⟩)⟩])
 .ret) .skip))) .skip))))
 (.ops [⟨(some ⟨.d0, .d5, .d4⟩), none, .bin .add (.t ⟨.d0, .d3, .d1⟩) (.c (.int .i64 (.ofNat 1)))⟩,
  ⟨(some ⟨.d0, .d3, .d1⟩), none, .mv (.t ⟨.d0, .d5, .d4⟩)⟩])))))))
 (.seq (.ops [⟨(some ⟨.d0, .d5, .d5⟩), none, .load (some 2) (.t ⟨.d0, .d0, .d2⟩)⟩,
  ⟨(some ⟨.d0, .d5, .d6⟩), none, .mv (.t ⟨.d0, .d0, .d3⟩)⟩,
  ⟨none, none, .store 2 (.t ⟨.d0, .d0, .d2⟩) (.t ⟨.d0, .d5, .d5⟩)⟩,
  ⟨(some ⟨.d0, .d0, .d3⟩), none, .mv (.t ⟨.d0, .d5, .d6⟩)⟩,
  ⟨(some ⟨.d0, .d0, .d4⟩), none, .mv (.c (.int .i64 (.ofNat 0)))⟩])
 .ret)))))
 [.cell (some 2) ⟨.d0, .d0, .d2⟩, .tmp ⟨.d0, .d0, .d3⟩, .tmp ⟨.d0, .d0, .d4⟩]
/-- umlaut/bind.pattern -/
def x38 : Ent := .code [⟨.d0, .d0, .d0⟩]
 (.seq (.ops [⟨(some ⟨.d0, .d0, .d2⟩), none, .mv (.c (.bool false))⟩])
 (.seq (.ops [⟨(some ⟨.d0, .d0, .d3⟩), none, .mv (.c (.str []))⟩])
 (.seq (.seq (.ops [⟨(some ⟨.d0, .d0, .d6⟩), none, .mv (.t ⟨.d0, .d0, .d0⟩)⟩,
  ⟨(some ⟨.d0, .d0, .d7⟩), none, .len .sli (.t ⟨.d0, .d0, .d6⟩)⟩,
  ⟨(some ⟨.d0, .d1, .d0⟩), none, .bin .gtr (.t ⟨.d0, .d0, .d7⟩) (.c (.int .i64 (.ofNat 2)))⟩])
 (.cond (.t ⟨.d0, .d1, .d0⟩) (.seq (.seq (.ops [⟨(some ⟨.d0, .d1, .d1⟩), none, .mv (.t ⟨.d0, .d0, .d0⟩)⟩,
  ⟨(some ⟨.d0, .d1, .d2⟩), none, .idxA none 6 (.t ⟨.d0, .d1, .d1⟩) (.c (.int .i64 (.ofNat 2)))⟩,
  ⟨(some ⟨.d0, .d1, .d3⟩), none, .fieldA 0 (.t ⟨.d0, .d1, .d2⟩)⟩,
  ⟨(some ⟨.d0, .d1, .d4⟩), none, .load none (.t ⟨.d0, .d1, .d3⟩)⟩,
  ⟨(some ⟨.d0, .d1, .d5⟩), none, .bin .neq (.t ⟨.d0, .d1, .d4⟩) (.c (.int .i64 (.ofNat 3)))⟩,
  ⟨(some ⟨.d0, .d1, .d6⟩), none, .mv (.t ⟨.d0, .d1, .d5⟩)⟩,
  ⟨(some ⟨.d0, .d1, .d7⟩), (some (⟨.d0, .d1, .d6⟩, false)), .mv (.t ⟨.d0, .d0, .d0⟩)⟩,
  ⟨(some ⟨.d0, .d2, .d0⟩), (some (⟨.d0, .d1, .d6⟩, false)), .idxA none 6 (.t ⟨.d0, .d1, .d7⟩) (.c (.int .i64 (.ofNat 2)))⟩,
  ⟨(some ⟨.d0, .d2, .d1⟩), (some (⟨.d0, .d1, .d6⟩, false)), .fieldA 2 (.t ⟨.d0, .d2, .d0⟩)⟩,
  ⟨(some ⟨.d0, .d2, .d2⟩), (some (⟨.d0, .d1, .d6⟩, false)), .load none (.t ⟨.d0, .d2, .d1⟩)⟩,
  ⟨(some ⟨.d0, .d2, .d3⟩), (some (⟨.d0, .d1, .d6⟩, false)), .callF ⟨.d0, .d6, .d1⟩ [(.t ⟨.d0, .d2, .d2⟩)]⟩,
  ⟨(some ⟨.d0, .d2, .d4⟩), (some (⟨.d0, .d1, .d6⟩, false)), .bin .neq (.t ⟨.d0, .d2, .d3⟩) (.c (.int .i64 (.ofNat 1)))⟩,
  ⟨(some ⟨.d0, .d2, .d5⟩), none, .pick (.t ⟨.d0, .d1, .d6⟩) (.c (.bool true)) (.t ⟨.d0, .d2, .d4⟩)⟩])
 (.cond (.t ⟨.d0, .d2, .d5⟩) (.seq (.ops [⟨(some ⟨.d0, .d0, .d2⟩), none, .mv (.c (.bool false))⟩])
 .ret) .skip))
 (.ops [⟨(some ⟨.d0, .d2, .d6⟩), none, .mv (.t ⟨.d0, .d0, .d0⟩)⟩,
  ⟨(some ⟨.d0, .d2, .d7⟩), none, .idxA none 6 (.t ⟨.d0, .d2, .d6⟩) (.c (.int .i64 (.ofNat 2)))⟩,
  ⟨(some ⟨.d0, .d3, .d0⟩), none, .fieldA 2 (.t ⟨.d0, .d2, .d7⟩)⟩,
  ⟨(some ⟨.d0, .d3, .d1⟩), none, .load none (.t ⟨.d0, .d3, .d0⟩)⟩,
  ⟨(some ⟨.d0, .d0, .d3⟩), none, .mv (.t ⟨.d0, .d3, .d1⟩)⟩])) .skip))
 (.seq (.ops [⟨(some ⟨.d0, .d3, .d3⟩), none, .mv (.t ⟨.d0, .d0, .d3⟩)⟩,
  ⟨(some ⟨.d0, .d3, .d4⟩), none, .callF ⟨.d0, .d6, .d2⟩ [(.c (.str [])), (.t ⟨.d0, .d3, .d3⟩)]⟩,
  ⟨(some ⟨.d0, .d3, .d2⟩), none, .mv (.t ⟨.d0, .d3, .d4⟩)⟩,
  ⟨(some ⟨.d0, .d3, .d5⟩), none, .ext (.t ⟨.d0, .d3, .d2⟩) 0⟩,
  ⟨(some ⟨.d0, .d3, .d6⟩), none, .ext (.t ⟨.d0, .d3, .d2⟩) 1⟩,
  ⟨(some ⟨.d0, .d0, .d4⟩), none, .box none (.c (.agg [.nils]))⟩,
  ⟨none, none, .store 1 (.t ⟨.d0, .d0, .d4⟩) (.t ⟨.d0, .d3, .d5⟩)⟩,
  ⟨(some ⟨.d0, .d0, .d5⟩), none, .mv (.t ⟨.d0, .d3, .d6⟩)⟩])
 (.seq (.seq (.ops [⟨(some ⟨.d0, .d3, .d7⟩), none, .mv (.t ⟨.d0, .d0, .d0⟩)⟩,
  ⟨(some ⟨.d0, .d4, .d0⟩), none, .len .sli (.t ⟨.d0, .d3, .d7⟩)⟩,
  ⟨(some ⟨.d0, .d4, .d1⟩), none, .bin .gtr (.t ⟨.d0, .d4, .d0⟩) (.c (.int .i64 (.ofNat 1)))⟩,
  ⟨(some ⟨.d0, .d4, .d2⟩), none, .mv (.t ⟨.d0, .d4, .d1⟩)⟩,
  ⟨(some ⟨.d0, .d4, .d3⟩), (some (⟨.d0, .d4, .d2⟩, true)), .mv (.t ⟨.d0, .d0, .d0⟩)⟩,
  ⟨(some ⟨.d0, .d4, .d4⟩), (some (⟨.d0, .d4, .d2⟩, true)), .idxA none 6 (.t ⟨.d0, .d4, .d3⟩) (.c (.int .i64 (.ofNat 1)))⟩,
  ⟨(some ⟨.d0, .d4, .d5⟩), (some (⟨.d0, .d4, .d2⟩, true)), .fieldA 0 (.t ⟨.d0, .d4, .d4⟩)⟩,
  ⟨(some ⟨.d0, .d4, .d6⟩), (some (⟨.d0, .d4, .d2⟩, true)), .load none (.t ⟨.d0, .d4, .d5⟩)⟩,
  ⟨(some ⟨.d0, .d4, .d7⟩), (some (⟨.d0, .d4, .d2⟩, true)), .bin .eql (.t ⟨.d0, .d4, .d6⟩) (.c (.int .i64 (.ofNat 3)))⟩,
  ⟨(some ⟨.d0, .d5, .d0⟩), none, .pick (.t ⟨.d0, .d4, .d2⟩) (.t ⟨.d0, .d4, .d7⟩) (.c (.bool false))⟩,
  ⟨(some ⟨.d0, .d5, .d1⟩), none, .mv (.t ⟨.d0, .d5, .d0⟩)⟩,
  ⟨(some ⟨.d0, .d5, .d2⟩), (some (⟨.d0, .d5, .d1⟩, true)), .mv (.t ⟨.d0, .d0, .d5⟩)⟩,
  ⟨(some ⟨.d0, .d5, .d3⟩), (some (⟨.d0, .d5, .d1⟩, true)), .bin .eql (.t ⟨.d0, .d5, .d2⟩) (.c (.int .i64 (.ofNat 0)))⟩,
  ⟨(some ⟨.d0, .d5, .d4⟩), none, .pick (.t ⟨.d0, .d5, .d1⟩) (.t ⟨.d0, .d5, .d3⟩) (.c (.bool false))⟩])
 (.cond (.t ⟨.d0, .d5, .d4⟩) (.ops [⟨(some ⟨.d0, .d5, .d6⟩), none, .mv (.t ⟨.d0, .d0, .d0⟩)⟩,
  ⟨(some ⟨.d0, .d5, .d7⟩), none, .idxA none 6 (.t ⟨.d0, .d5, .d6⟩) (.c (.int .i64 (.ofNat 1)))⟩,
  ⟨(some ⟨.d0, .d6, .d0⟩), none, .fieldA 2 (.t ⟨.d0, .d5, .d7⟩)⟩,
  ⟨(some ⟨.d0, .d6, .d1⟩), none, .load none (.t ⟨.d0, .d6, .d0⟩)⟩,
  ⟨(some ⟨.d0, .d6, .d2⟩), none, .mv (.t ⟨.d0, .d0, .d3⟩)⟩,
  ⟨(some ⟨.d0, .d6, .d3⟩), none, .callF ⟨.d0, .d6, .d2⟩ [(.t ⟨.d0, .d6, .d1⟩), (.t ⟨.d0, .d6, .d2⟩)]⟩,
  ⟨(some ⟨.d0, .d5, .d5⟩), none, .mv (.t ⟨.d0, .d6, .d3⟩)⟩,
  ⟨(some ⟨.d0, .d6, .d4⟩), none, .ext (.t ⟨.d0, .d5, .d5⟩) 0⟩,
  ⟨(some ⟨.d0, .d6, .d5⟩), none, .ext (.t ⟨.d0, .d5, .d5⟩) 1⟩,
  ⟨(some ⟨.d0, .d0, .d5⟩), none, .mv (.t ⟨.d0, .d6, .d5⟩)⟩]) .skip))
 (.seq (.ops [⟨(some ⟨.d0, .d6, .d6⟩), none, .mv (.t ⟨.d0, .d0, .d5⟩)⟩,
  ⟨(some ⟨.d0, .d6, .d7⟩), none, .bin .eql (.t ⟨.d0, .d6, .d6⟩) (.c (.int .i64 (.ofNat 0)))⟩,
  ⟨(some ⟨.d0, .d0, .d2⟩), none, .mv (.t ⟨.d0, .d6, .d7⟩)⟩])
 .ret))))))
 [.tmp ⟨.d0, .d0, .d2⟩]
/-- strings.Map -/
def x46 : Ent := .code [⟨.d0, .d0, .d0⟩, ⟨.d0, .d0, .d1⟩]
 (.seq (.ops [⟨(some ⟨.d0, .d0, .d4⟩), none, .mv (.c (.str []))⟩])
 (.seq (.ops [⟨(some ⟨.d0, .d0, .d5⟩), none, .box none (.c (.agg [.nilp, .nils]))⟩])
 (.seq (.seq (.ops [⟨(some ⟨.d0, .d1, .d5⟩), none, .mv (.t ⟨.d0, .d0, .d1⟩)⟩,
  ⟨(some ⟨.d0, .d1, .d6⟩), none, .rangeS (.t ⟨.d0, .d1, .d5⟩)⟩])
 (.block 0 (.loop (.seq (.ops [⟨(some ⟨.d0, .d1, .d7⟩), none, .nextS (.t ⟨.d0, .d1, .d6⟩)⟩,
  ⟨(some ⟨.d0, .d2, .d0⟩), none, .ext (.t ⟨.d0, .d1, .d7⟩) 0⟩])
 (.seq (.cond (.t ⟨.d0, .d2, .d0⟩) .skip (.exit 0))
 (.block 1 (.seq (.ops [⟨(some ⟨.d0, .d2, .d1⟩), none, .ext (.t ⟨.d0, .d1, .d7⟩) 1⟩,
  ⟨(some ⟨.d0, .d2, .d2⟩), none, .ext (.t ⟨.d0, .d1, .d7⟩) 2⟩,
  ⟨(some ⟨.d0, .d0, .d6⟩), none, .mv (.t ⟨.d0, .d2, .d1⟩)⟩,
  ⟨(some ⟨.d0, .d0, .d7⟩), none, .mv (.t ⟨.d0, .d2, .d2⟩)⟩])
 (.seq (.ops [⟨(some ⟨.d0, .d2, .d3⟩), none, .mv (.t ⟨.d0, .d0, .d0⟩)⟩,
  ⟨(some ⟨.d0, .d2, .d4⟩), none, .mv (.t ⟨.d0, .d0, .d7⟩)⟩,
  ⟨(some ⟨.d0, .d2, .d5⟩), none, .callV (.t ⟨.d0, .d2, .d3⟩) [(.t ⟨.d0, .d2, .d4⟩)]⟩,
  ⟨(some ⟨.d0, .d1, .d0⟩), none, .mv (.t ⟨.d0, .d2, .d5⟩)⟩])
 (.seq (.seq (.ops [⟨(some ⟨.d0, .d2, .d6⟩), none, .mv (.t ⟨.d0, .d1, .d0⟩)⟩,
  ⟨(some ⟨.d0, .d2, .d7⟩), none, .mv (.t ⟨.d0, .d0, .d7⟩)⟩,
  ⟨(some ⟨.d0, .d3, .d0⟩), none, .bin .eql (.t ⟨.d0, .d2, .d6⟩) (.t ⟨.d0, .d2, .d7⟩)⟩,
  ⟨(some ⟨.d0, .d3, .d1⟩), none, .mv (.t ⟨.d0, .d3, .d0⟩)⟩,
  ⟨(some ⟨.d0, .d3, .d2⟩), (some (⟨.d0, .d3, .d1⟩, true)), .mv (.t ⟨.d0, .d0, .d7⟩)⟩,
  ⟨(some ⟨.d0, .d3, .d3⟩), (some (⟨.d0, .d3, .d1⟩, true)), .bin .neq (.t ⟨.d0, .d3, .d2⟩) (.c (.int .i32 (.ofNat 65533)))⟩,
  ⟨(some ⟨.d0, .d3, .d4⟩), none, .pick (.t ⟨.d0, .d3, .d1⟩) (.t ⟨.d0, .d3, .d3⟩) (.c (.bool false))⟩])
 (.cond (.t ⟨.d0, .d3, .d4⟩) (.exit 1) .skip))
 (.seq (.ops [⟨(some ⟨.d0, .d1, .d1⟩), none, .mv (.c (.int .i64 (.ofNat 0)))⟩])
 (.seq (.seq (.ops [⟨(some ⟨.d0, .d3, .d5⟩), none, .mv (.t ⟨.d0, .d0, .d7⟩)⟩,
  ⟨(some ⟨.d0, .d3, .d6⟩), none, .bin .eql (.t ⟨.d0, .d3, .d5⟩) (.c (.int .i32 (.ofNat 65533)))⟩])
 (.cond (.t ⟨.d0, .d3, .d6⟩) (.seq (.ops [⟨(some ⟨.d0, .d4, .d0⟩), none, .mv (.t ⟨.d0, .d0, .d1⟩)⟩,
  ⟨(some ⟨.d0, .d4, .d1⟩), none, .mv (.t ⟨.d0, .d0, .d6⟩)⟩,
  ⟨(some ⟨.d0, .d4, .d2⟩), none, .sliS (.t ⟨.d0, .d4, .d0⟩) (some (.t ⟨.d0, .d4, .d1⟩)) none⟩,
  ⟨(some ⟨.d0, .d4, .d3⟩), none, .callF ⟨.d0, .d7, .d0⟩ [(.t ⟨.d0, .d4, .d2⟩)]⟩,
  ⟨(some ⟨.d0, .d3, .d7⟩), none, .mv (.t ⟨.d0, .d4, .d3⟩)⟩,
  ⟨(some ⟨.d0, .d4, .d4⟩), none, .ext (.t ⟨.d0, .d3, .d7⟩) 0⟩,
  ⟨(some ⟨.d0, .d4, .d5⟩), none, .ext (.t ⟨.d0, .d3, .d7⟩) 1⟩,
  ⟨(some ⟨.d0, .d0, .d7⟩), none, .mv (.t ⟨.d0, .d4, .d4⟩)⟩,
  ⟨(some ⟨.d0, .d1, .d1⟩), none, .mv (.t ⟨.d0, .d4, .d5⟩)⟩])
 (.seq (.ops [⟨(some ⟨.d0, .d4, .d6⟩), none, .mv (.t ⟨.d0, .d1, .d1⟩)⟩,
  ⟨(some ⟨.d0, .d4, .d7⟩), none, .bin .neq (.t ⟨.d0, .d4, .d6⟩) (.c (.int .i64 (.ofNat 1)))⟩,
  ⟨(some ⟨.d0, .d5, .d0⟩), none, .mv (.t ⟨.d0, .d4, .d7⟩)⟩,
  ⟨(some ⟨.d0, .d5, .d1⟩), (some (⟨.d0, .d5, .d0⟩, true)), .mv (.t ⟨.d0, .d1, .d0⟩)⟩,
  ⟨(some ⟨.d0, .d5, .d2⟩), (some (⟨.d0, .d5, .d0⟩, true)), .mv (.t ⟨.d0, .d0, .d7⟩)⟩,
  ⟨(some ⟨.d0, .d5, .d3⟩), (some (⟨.d0, .d5, .d0⟩, true)), .bin .eql (.t ⟨.d0, .d5, .d1⟩) (.t ⟨.d0, .d5, .d2⟩)⟩,
  ⟨(some ⟨.d0, .d5, .d4⟩), none, .pick (.t ⟨.d0, .d5, .d0⟩) (.t ⟨.d0, .d5, .d3⟩) (.c (.bool false))⟩])
 (.cond (.t ⟨.d0, .d5, .d4⟩) (.exit 1) .skip))) (.ops [⟨(some ⟨.d0, .d5, .d5⟩), none, .mv (.t ⟨.d0, .d0, .d7⟩)⟩,
  ⟨(some ⟨.d0, .d5, .d6⟩), none, .callF ⟨.d0, .d7, .d1⟩ [(.t ⟨.d0, .d5, .d5⟩)]⟩,
  ⟨(some ⟨.d0, .d1, .d1⟩), none, .mv (.t ⟨.d0, .d5, .d6⟩)⟩])))
 (.seq (.ops [⟨(some ⟨.d0, .d5, .d7⟩), none, .mv (.t ⟨.d0, .d0, .d1⟩)⟩,
  ⟨(some ⟨.d0, .d6, .d0⟩), none, .len .str (.t ⟨.d0, .d5, .d7⟩)⟩,
  ⟨(some ⟨.d0, .d6, .d1⟩), none, .bin .add (.t ⟨.d0, .d6, .d0⟩) (.c (.int .i64 (.ofNat 4)))⟩,
  ⟨(some ⟨.d0, .d6, .d2⟩), none, .callF ⟨.d0, .d7, .d2⟩ [(.t ⟨.d0, .d0, .d5⟩), (.t ⟨.d0, .d6, .d1⟩)]⟩])
 (.seq (.ops [⟨(some ⟨.d0, .d6, .d3⟩), none, .mv (.t ⟨.d0, .d0, .d1⟩)⟩,
  ⟨(some ⟨.d0, .d6, .d4⟩), none, .mv (.t ⟨.d0, .d0, .d6⟩)⟩,
  ⟨(some ⟨.d0, .d6, .d5⟩), none, .sliS (.t ⟨.d0, .d6, .d3⟩) none (some (.t ⟨.d0, .d6, .d4⟩))⟩,
  ⟨(some ⟨.d0, .d6, .d6⟩), none, .callF ⟨.d0, .d7, .d3⟩ [(.t ⟨.d0, .d0, .d5⟩), (.t ⟨.d0, .d6, .d5⟩)]⟩])
 (.seq (.seq (.ops [⟨(some ⟨.d0, .d6, .d7⟩), none, .mv (.t ⟨.d0, .d1, .d0⟩)⟩,
  ⟨(some ⟨.d0, .d7, .d0⟩), none, .bin .geq (.t ⟨.d0, .d6, .d7⟩) (.c (.int .i32 (.ofNat 0)))⟩])
 (.cond (.t ⟨.d0, .d7, .d0⟩) (.ops [⟨(some ⟨.d0, .d7, .d1⟩), none, .mv (.t ⟨.d0, .d1, .d0⟩)⟩,
  ⟨(some ⟨.d0, .d7, .d2⟩), none, .callF ⟨.d0, .d7, .d4⟩ [(.t ⟨.d0, .d0, .d5⟩), (.t ⟨.d0, .d7, .d1⟩)]⟩]) .skip))
 (.seq (.ops [⟨(some ⟨.d0, .d7, .d3⟩), none, .mv (.t ⟨.d0, .d0, .d1⟩)⟩,
  ⟨(some ⟨.d0, .d7, .d4⟩), none, .mv (.t ⟨.d0, .d0, .d6⟩)⟩,
  ⟨(some ⟨.d0, .d7, .d5⟩), none, .mv (.t ⟨.d0, .d1, .d1⟩)⟩,
  ⟨(some ⟨.d0, .d7, .d6⟩), none, .bin .add (.t ⟨.d0, .d7, .d4⟩) (.t ⟨.d0, .d7, .d5⟩)⟩,
  ⟨(some ⟨.d0, .d7, .d7⟩), none, .sliS (.t ⟨.d0, .d7, .d3⟩) (some (.t ⟨.d0, .d7, .d6⟩)) none⟩,
  ⟨(some ⟨.d0, .d0, .d1⟩), none, .mv (.t ⟨.d0, .d7, .d7⟩)⟩])
 (.exit 0))))))))))))))))
 (.seq (.seq (.ops [⟨(some ⟨.d1, .d0, .d0⟩), none, .callF ⟨.d0, .d7, .d5⟩ [(.t ⟨.d0, .d0, .d5⟩)]⟩,
  ⟨(some ⟨.d1, .d0, .d1⟩), none, .bin .eql (.t ⟨.d1, .d0, .d0⟩) (.c (.int .i64 (.ofNat 0)))⟩])
 (.cond (.t ⟨.d1, .d0, .d1⟩) (.seq (.ops [⟨(some ⟨.d1, .d0, .d2⟩), none, .mv (.t ⟨.d0, .d0, .d1⟩)⟩,
  ⟨(some ⟨.d0, .d0, .d4⟩), none, .mv (.t ⟨.d1, .d0, .d2⟩)⟩])
 .ret) .skip))
 (.seq (.seq (.ops [⟨(some ⟨.d1, .d0, .d3⟩), none, .mv (.t ⟨.d0, .d0, .d1⟩)⟩,
  ⟨(some ⟨.d1, .d0, .d4⟩), none, .rangeS (.t ⟨.d1, .d0, .d3⟩)⟩])
 (.block 2 (.loop (.seq (.ops [⟨(some ⟨.d1, .d0, .d5⟩), none, .nextS (.t ⟨.d1, .d0, .d4⟩)⟩,
  ⟨(some ⟨.d1, .d0, .d6⟩), none, .ext (.t ⟨.d1, .d0, .d5⟩) 0⟩])
 (.seq (.cond (.t ⟨.d1, .d0, .d6⟩) .skip (.exit 2))
 (.block 3 (.seq (.ops [⟨(some ⟨.d1, .d0, .d7⟩), none, .ext (.t ⟨.d1, .d0, .d5⟩) 2⟩,
  ⟨(some ⟨.d0, .d1, .d3⟩), none, .mv (.t ⟨.d1, .d0, .d7⟩)⟩])
 (.seq (.ops [⟨(some ⟨.d1, .d1, .d0⟩), none, .mv (.t ⟨.d0, .d0, .d0⟩)⟩,
  ⟨(some ⟨.d1, .d1, .d1⟩), none, .mv (.t ⟨.d0, .d1, .d3⟩)⟩,
  ⟨(some ⟨.d1, .d1, .d2⟩), none, .callV (.t ⟨.d1, .d1, .d0⟩) [(.t ⟨.d1, .d1, .d1⟩)]⟩,
  ⟨(some ⟨.d0, .d1, .d4⟩), none, .mv (.t ⟨.d1, .d1, .d2⟩)⟩])
 (.seq (.ops [⟨(some ⟨.d1, .d1, .d3⟩), none, .mv (.t ⟨.d0, .d1, .d4⟩)⟩,
  ⟨(some ⟨.d1, .d1, .d4⟩), none, .bin .geq (.t ⟨.d1, .d1, .d3⟩) (.c (.int .i32 (.ofNat 0)))⟩])
 (.cond (.t ⟨.d1, .d1, .d4⟩) (.seq (.ops [⟨(some ⟨.d1, .d1, .d5⟩), none, .mv (.t ⟨.d0, .d1, .d4⟩)⟩,
  ⟨(some ⟨.d1, .d1, .d6⟩), none, .bin .lss (.t ⟨.d1, .d1, .d5⟩) (.c (.int .i32 (.ofNat 128)))⟩])
 (.cond (.t ⟨.d1, .d1, .d6⟩) (.ops [⟨(some ⟨.d1, .d1, .d7⟩), none, .mv (.t ⟨.d0, .d1, .d4⟩)⟩,
  ⟨(some ⟨.d1, .d2, .d0⟩), none, .convI .u8 (.t ⟨.d1, .d1, .d7⟩)⟩,
  ⟨(some ⟨.d1, .d2, .d1⟩), none, .callF ⟨.d0, .d7, .d6⟩ [(.t ⟨.d0, .d0, .d5⟩), (.t ⟨.d1, .d2, .d0⟩)]⟩]) (.ops [⟨(some ⟨.d1, .d2, .d2⟩), none, .mv (.t ⟨.d0, .d1, .d4⟩)⟩,
  ⟨(some ⟨.d1, .d2, .d3⟩), none, .callF ⟨.d0, .d7, .d4⟩ [(.t ⟨.d0, .d0, .d5⟩), (.t ⟨.d1, .d2, .d2⟩)]⟩]))) .skip))))))))))
 (.seq (.ops [⟨(some ⟨.d1, .d2, .d4⟩), none, .callF ⟨.d0, .d7, .d7⟩ [(.t ⟨.d0, .d0, .d5⟩)]⟩,
  ⟨(some ⟨.d0, .d0, .d4⟩), none, .mv (.t ⟨.d1, .d2, .d4⟩)⟩])
 .ret))))))
 [.tmp ⟨.d0, .d0, .d4⟩]
/-- umlaut/reg.Name$1 -/
def x47 : Ent := .code [⟨.d0, .d0, .d0⟩]
 (.seq (.ops [⟨(some ⟨.d0, .d0, .d2⟩), none, .mv (.c (.int .i32 (.ofNat 0)))⟩])
 (.seq (.seq (.ops [⟨(some ⟨.d0, .d0, .d3⟩), none, .mv (.t ⟨.d0, .d0, .d0⟩)⟩,
  ⟨(some ⟨.d0, .d0, .d4⟩), none, .bin .geq (.t ⟨.d0, .d0, .d3⟩) (.c (.int .i32 (.ofNat 65)))⟩,
  ⟨(some ⟨.d0, .d0, .d5⟩), none, .mv (.t ⟨.d0, .d0, .d4⟩)⟩,
  ⟨(some ⟨.d0, .d0, .d6⟩), (some (⟨.d0, .d0, .d5⟩, true)), .mv (.t ⟨.d0, .d0, .d0⟩)⟩,
  ⟨(some ⟨.d0, .d0, .d7⟩), (some (⟨.d0, .d0, .d5⟩, true)), .bin .leq (.t ⟨.d0, .d0, .d6⟩) (.c (.int .i32 (.ofNat 90)))⟩,
  ⟨(some ⟨.d0, .d1, .d0⟩), none, .pick (.t ⟨.d0, .d0, .d5⟩) (.t ⟨.d0, .d0, .d7⟩) (.c (.bool false))⟩])
 (.cond (.t ⟨.d0, .d1, .d0⟩) (.seq (.ops [⟨(some ⟨.d0, .d1, .d1⟩), none, .mv (.t ⟨.d0, .d0, .d0⟩)⟩,
  ⟨(some ⟨.d0, .d1, .d2⟩), none, .bin .add (.t ⟨.d0, .d1, .d1⟩) (.c (.int .i32 (.ofNat 32)))⟩,
  ⟨(some ⟨.d0, .d0, .d2⟩), none, .mv (.t ⟨.d0, .d1, .d2⟩)⟩])
 .ret) .skip))
 (.seq (.ops [⟨(some ⟨.d0, .d1, .d3⟩), none, .mv (.t ⟨.d0, .d0, .d0⟩)⟩,
  ⟨(some ⟨.d0, .d0, .d2⟩), none, .mv (.t ⟨.d0, .d1, .d3⟩)⟩])
 .ret)))
 [.tmp ⟨.d0, .d0, .d2⟩]
/-- strings.Trim -/
def x48 : Ent := .code [⟨.d0, .d0, .d0⟩, ⟨.d0, .d0, .d1⟩]
 (.seq (.ops [⟨(some ⟨.d0, .d0, .d4⟩), none, .mv (.c (.str []))⟩])
 (.seq (.seq (.ops [⟨(some ⟨.d0, .d0, .d7⟩), none, .mv (.t ⟨.d0, .d0, .d0⟩)⟩,
  ⟨(some ⟨.d0, .d1, .d0⟩), none, .bin .eql (.t ⟨.d0, .d0, .d7⟩) (.c (.str []))⟩,
  ⟨(some ⟨.d0, .d1, .d1⟩), none, .mv (.t ⟨.d0, .d1, .d0⟩)⟩,
  ⟨(some ⟨.d0, .d1, .d2⟩), (some (⟨.d0, .d1, .d1⟩, false)), .mv (.t ⟨.d0, .d0, .d1⟩)⟩,
  ⟨(some ⟨.d0, .d1, .d3⟩), (some (⟨.d0, .d1, .d1⟩, false)), .bin .eql (.t ⟨.d0, .d1, .d2⟩) (.c (.str []))⟩,
  ⟨(some ⟨.d0, .d1, .d4⟩), none, .pick (.t ⟨.d0, .d1, .d1⟩) (.c (.bool true)) (.t ⟨.d0, .d1, .d3⟩)⟩])
 (.cond (.t ⟨.d0, .d1, .d4⟩) (.seq (.ops [⟨(some ⟨.d0, .d1, .d5⟩), none, .mv (.t ⟨.d0, .d0, .d0⟩)⟩,
  ⟨(some ⟨.d0, .d0, .d4⟩), none, .mv (.t ⟨.d0, .d1, .d5⟩)⟩])
 .ret) .skip))
 (.seq (.seq (.ops [⟨(some ⟨.d0, .d1, .d6⟩), none, .mv (.t ⟨.d0, .d0, .d1⟩)⟩,
  ⟨(some ⟨.d0, .d1, .d7⟩), none, .len .str (.t ⟨.d0, .d1, .d6⟩)⟩,
  ⟨(some ⟨.d0, .d2, .d0⟩), none, .bin .eql (.t ⟨.d0, .d1, .d7⟩) (.c (.int .i64 (.ofNat 1)))⟩,
  ⟨(some ⟨.d0, .d2, .d1⟩), none, .mv (.t ⟨.d0, .d2, .d0⟩)⟩,
  ⟨(some ⟨.d0, .d2, .d2⟩), (some (⟨.d0, .d2, .d1⟩, true)), .mv (.t ⟨.d0, .d0, .d1⟩)⟩,
  ⟨(some ⟨.d0, .d2, .d3⟩), (some (⟨.d0, .d2, .d1⟩, true)), .idxS (.t ⟨.d0, .d2, .d2⟩) (.c (.int .i64 (.ofNat 0)))⟩,
  ⟨(some ⟨.d0, .d2, .d4⟩), (some (⟨.d0, .d2, .d1⟩, true)), .bin .lss (.t ⟨.d0, .d2, .d3⟩) (.c (.int .u8 (.ofNat 128)))⟩,
  ⟨(some ⟨.d0, .d2, .d5⟩), none, .pick (.t ⟨.d0, .d2, .d1⟩) (.t ⟨.d0, .d2, .d4⟩) (.c (.bool false))⟩])
 (.cond (.t ⟨.d0, .d2, .d5⟩) (.seq (.reg 0 [] [⟨(some ⟨.d0, .d2, .d6⟩), none, .mv (.t ⟨.d0, .d0, .d0⟩)⟩,
  ⟨(some ⟨.d0, .d2, .d7⟩), none, .mv (.t ⟨.d0, .d0, .d1⟩)⟩,
  ⟨(some ⟨.d0, .d3, .d0⟩), none, .idxS (.t ⟨.d0, .d2, .d7⟩) (.c (.int .i64 (.ofNat 0)))⟩,
  ⟨(some ⟨.d0, .d3, .d1⟩), none, .callF ⟨.d1, .d0, .d1⟩ [(.t ⟨.d0, .d2, .d6⟩), (.t ⟨.d0, .d3, .d0⟩)]⟩,
  ⟨(some ⟨.d0, .d3, .d2⟩), none, .mv (.t ⟨.d0, .d0, .d1⟩)⟩,
  ⟨(some ⟨.d0, .d3, .d3⟩), none, .idxS (.t ⟨.d0, .d3, .d2⟩) (.c (.int .i64 (.ofNat 0)))⟩,
  ⟨(some ⟨.d0, .d3, .d4⟩), none, .callF ⟨.d1, .d0, .d0⟩ [(.t ⟨.d0, .d3, .d1⟩), (.t ⟨.d0, .d3, .d3⟩)]⟩,
  ⟨(some ⟨.d0, .d0, .d4⟩), none, .mv (.t ⟨.d0, .d3, .d4⟩)⟩])
 .ret) .skip))
 (.seq (.seq (.ops [⟨(some ⟨.d0, .d3, .d6⟩), none, .mv (.t ⟨.d0, .d0, .d1⟩)⟩,
  ⟨(some ⟨.d0, .d3, .d7⟩), none, .callF ⟨.d1, .d0, .d2⟩ [(.t ⟨.d0, .d3, .d6⟩)]⟩,
  ⟨(some ⟨.d0, .d3, .d5⟩), none, .mv (.t ⟨.d0, .d3, .d7⟩)⟩,
  ⟨(some ⟨.d0, .d4, .d0⟩), none, .ext (.t ⟨.d0, .d3, .d5⟩) 0⟩,
  ⟨(some ⟨.d0, .d4, .d1⟩), none, .ext (.t ⟨.d0, .d3, .d5⟩) 1⟩,
  ⟨(some ⟨.d0, .d0, .d5⟩), none, .box none (.c (.agg [(.bool false), (.bool false), (.bool false), (.bool false), (.bool false), (.bool false), (.bool false), (.bool false), (.bool false), (.bool false), (.bool false), (.bool false), (.bool false), (.bool false), (.bool false), (.bool false), (.bool false), (.bool false), (.bool false), (.bool false), (.bool false), (.bool false), (.bool false), (.bool false), (.bool false), (.bool false), (.bool false), (.bool false), (.bool false), (.bool false), (.bool false), (.bool false), (.bool false), (.bool false), (.bool false), (.bool false), (.bool false), (.bool false), (.bool false), (.bool false), (.bool false), (.bool false), (.bool false), (.bool false), (.bool false), (.bool false), (.bool false), (.bool false), (.bool false), (.bool false), (.bool false), (.bool false), (.bool false), (.bool false), (.bool false), (.bool false), (.bool false), (.bool false), (.bool false), (.bool false), (.bool false), (.bool false), (.bool false), (.bool false), (.bool false), (.bool false), (.bool false), (.bool false), (.bool false), (.bool false), (.bool false), (.bool false), (.bool false), (.bool false), (.bool false), (.bool false), (.bool false), (.bool false), (.bool false), (.bool false), (.bool false), (.bool false), (.bool false), (.bool false), (.bool false), (.bool false), (.bool false), (.bool false), (.bool false), (.bool false), (.bool false), (.bool false), (.bool false), (.bool false), (.bool false), (.bool false), (.bool false), (.bool false), (.bool false), (.bool false), (.bool false), (.bool false), (.bool false), (.bool false), (.bool false), (.bool false), (.bool false), (.bool false), (.bool false), (.bool false), (.bool false), (.bool false), (.bool false), (.bool false), (.bool false), (.bool false), (.bool false), (.bool false), (.bool false), (.bool false), (.bool false), (.bool false), (.bool false), (.bool false), (.bool false), (.bool false), (.bool false), (.bool false), (.bool false), (.bool false), (.bool false), (.bool false), (.bool false), (.bool false), (.bool false), (.bool false), (.bool false), (.bool false), (.bool false), (.bool false), (.bool false), (.bool false), (.bool false), (.bool false), (.bool false), (.bool false), (.bool false), (.bool false), (.bool false), (.bool false), (.bool false), (.bool false), (.bool false), (.bool false), (.bool false), (.bool false), (.bool false), (.bool false), (.bool false), (.bool false), (.bool false), (.bool false), (.bool false), (.bool false), (.bool false), (.bool false), (.bool false), (.bool false), (.bool false), (.bool false), (.bool false), (.bool false), (.bool false), (.bool false), (.bool false), (.bool false), (.bool false), (.bool false), (.bool false), (.bool false), (.bool false), (.bool false), (.bool false), (.bool false), (.bool false), (.bool false), (.bool false), (.bool false), (.bool false), (.bool false), (.bool false), (.bool false), (.bool false), (.bool false), (.bool false), (.bool false), (.bool false), (.bool false), (.bool false), (.bool false), (.bool false), (.bool false), (.bool false), (.bool false), (.bool false), (.bool false), (.bool false), (.bool false), (.bool false), (.bool false), (.bool false), (.bool false), (.bool false), (.bool false), (.bool false), (.bool false), (.bool false), (.bool false), (.bool false), (.bool false), (.bool false), (.bool false), (.bool false), (.bool false), (.bool false), (.bool false), (.bool false), (.bool false), (.bool false), (.bool false), (.bool false), (.bool false), (.bool false), (.bool false), (.bool false), (.bool false), (.bool false), (.bool false), (.bool false), (.bool false), (.bool false), (.bool false), (.bool false), (.bool false), (.bool false), (.bool false), (.bool false), (.bool false), (.bool false), (.bool false), (.bool false), (.bool false), (.bool false), (.bool false), (.bool false), (.bool false)]))⟩,
  ⟨none, none, .store 256 (.t ⟨.d0, .d0, .d5⟩) (.t ⟨.d0, .d4, .d0⟩)⟩,
  ⟨(some ⟨.d0, .d0, .d6⟩), none, .mv (.t ⟨.d0, .d4, .d1⟩)⟩])
 (.seq (.ops [⟨(some ⟨.d0, .d4, .d2⟩), none, .mv (.t ⟨.d0, .d0, .d6⟩)⟩])
 (.cond (.t ⟨.d0, .d4, .d2⟩) (.seq (.ops [⟨(some ⟨.d0, .d4, .d3⟩), none, .mv (.t ⟨.d0, .d0, .d0⟩)⟩,
  ⟨(some ⟨.d0, .d4, .d4⟩), none, .callF ⟨.d1, .d0, .d4⟩ [(.t ⟨.d0, .d4, .d3⟩), (.t ⟨.d0, .d0, .d5⟩)]⟩,
  ⟨(some ⟨.d0, .d4, .d5⟩), none, .callF ⟨.d1, .d0, .d3⟩ [(.t ⟨.d0, .d4, .d4⟩), (.t ⟨.d0, .d0, .d5⟩)]⟩,
  ⟨(some ⟨.d0, .d0, .d4⟩), none, .mv (.t ⟨.d0, .d4, .d5⟩)⟩])
 .ret) .skip)))
 (.seq (.ops [⟨(some ⟨.d0, .d4, .d6⟩), none, .mv (.t ⟨.d0, .d0, .d0⟩)⟩,
  ⟨(some ⟨.d0, .d4, .d7⟩), none, .mv (.t ⟨.d0, .d0, .d1⟩)⟩,
  ⟨(some ⟨.d0, .d5, .d0⟩), none, .callF ⟨.d1, .d0, .d6⟩ [(.t ⟨.d0, .d4, .d6⟩), (.t ⟨.d0, .d4, .d7⟩)]⟩,
  ⟨(some ⟨.d0, .d5, .d1⟩), none, .mv (.t ⟨.d0, .d0, .d1⟩)⟩,
  ⟨(some ⟨.d0, .d5, .d2⟩), none, .callF ⟨.d1, .d0, .d5⟩ [(.t ⟨.d0, .d5, .d0⟩), (.t ⟨.d0, .d5, .d1⟩)]⟩,
  ⟨(some ⟨.d0, .d0, .d4⟩), none, .mv (.t ⟨.d0, .d5, .d2⟩)⟩])
 .ret)))))
 [.tmp ⟨.d0, .d0, .d4⟩]
/-- umlaut/utext.Count -/
def x49 : Ent := .code [⟨.d0, .d0, .d0⟩]
 (.seq (.ops [⟨(some ⟨.d0, .d0, .d2⟩), none, .mv (.c (.int .i64 (.ofNat 0)))⟩])
 (.seq (.ops [⟨(some ⟨.d0, .d0, .d3⟩), none, .mv (.t ⟨.d0, .d0, .d0⟩)⟩,
  ⟨(some ⟨.d0, .d0, .d4⟩), none, .callF ⟨.d1, .d0, .d7⟩ [(.t ⟨.d0, .d0, .d3⟩)]⟩,
  ⟨(some ⟨.d0, .d0, .d2⟩), none, .mv (.t ⟨.d0, .d0, .d4⟩)⟩])
 .ret))
 [.tmp ⟨.d0, .d0, .d2⟩]
/-- umlaut/like.Make -/
def x50 : Ent := .code [⟨.d0, .d0, .d0⟩, ⟨.d0, .d0, .d1⟩]
 (.seq (.ops [⟨(some ⟨.d0, .d0, .d4⟩), none, .box none (.c (.agg [.nils]))⟩,
  ⟨(some ⟨.d0, .d0, .d5⟩), none, .mv (.c (.int .i64 (.ofNat 0)))⟩])
 (.seq (.ops [⟨(some ⟨.d0, .d1, .d4⟩), none, .mv (.t ⟨.d0, .d0, .d1⟩)⟩,
  ⟨(some ⟨.d0, .d1, .d5⟩), none, .callF ⟨.d1, .d1, .d0⟩ [(.t ⟨.d0, .d1, .d4⟩)]⟩,
  ⟨(some ⟨.d0, .d1, .d3⟩), none, .mv (.t ⟨.d0, .d1, .d5⟩)⟩,
  ⟨(some ⟨.d0, .d1, .d6⟩), none, .ext (.t ⟨.d0, .d1, .d3⟩) 0⟩,
  ⟨(some ⟨.d0, .d1, .d7⟩), none, .ext (.t ⟨.d0, .d1, .d3⟩) 1⟩,
  ⟨(some ⟨.d0, .d0, .d6⟩), none, .mv (.t ⟨.d0, .d1, .d6⟩)⟩,
  ⟨(some ⟨.d0, .d0, .d7⟩), none, .mv (.t ⟨.d0, .d1, .d7⟩)⟩])
 (.seq (.seq (.ops [⟨(some ⟨.d0, .d2, .d0⟩), none, .mv (.t ⟨.d0, .d0, .d1⟩)⟩,
  ⟨(some ⟨.d0, .d2, .d1⟩), none, .bin .neq (.t ⟨.d0, .d2, .d0⟩) (.c (.str []))⟩,
  ⟨(some ⟨.d0, .d2, .d2⟩), none, .mv (.t ⟨.d0, .d2, .d1⟩)⟩,
  ⟨(some ⟨.d0, .d2, .d3⟩), (some (⟨.d0, .d2, .d2⟩, true)), .mv (.t ⟨.d0, .d0, .d7⟩)⟩,
  ⟨(some ⟨.d0, .d2, .d4⟩), (some (⟨.d0, .d2, .d2⟩, true)), .un .not (.t ⟨.d0, .d2, .d3⟩)⟩,
  ⟨(some ⟨.d0, .d2, .d5⟩), none, .pick (.t ⟨.d0, .d2, .d2⟩) (.t ⟨.d0, .d2, .d4⟩) (.c (.bool false))⟩])
 (.cond (.t ⟨.d0, .d2, .d5⟩) (.seq (.ops [⟨(some ⟨.d0, .d2, .d6⟩), none, .build [.nils] []⟩,
  ⟨none, none, .store 1 (.t ⟨.d0, .d0, .d4⟩) (.t ⟨.d0, .d2, .d6⟩)⟩,
  ⟨(some ⟨.d0, .d0, .d5⟩), none, .mv (.c (.int .i64 (.ofNat 1)))⟩])
 .ret) .skip))
 (.seq (.ops [⟨(some ⟨.d0, .d1, .d0⟩), none, .mv (.c .nils)⟩])
 (.seq (.ops [⟨(some ⟨.d0, .d2, .d7⟩), none, .mv (.t ⟨.d0, .d0, .d0⟩)⟩,
  ⟨(some ⟨.d0, .d3, .d0⟩), none, .callF ⟨.d1, .d1, .d1⟩ [(.t ⟨.d0, .d2, .d7⟩)]⟩,
  ⟨(some ⟨.d0, .d1, .d1⟩), none, .mv (.t ⟨.d0, .d3, .d0⟩)⟩])
 (.seq (.seq (.ops [⟨(some ⟨.d0, .d1, .d2⟩), none, .mv (.c (.int .i64 (.ofNat 0)))⟩])
 (.block 0 (.loop (.seq (.seq (.ops [⟨(some ⟨.d0, .d3, .d1⟩), none, .mv (.t ⟨.d0, .d1, .d2⟩)⟩,
  ⟨(some ⟨.d0, .d3, .d2⟩), none, .mv (.t ⟨.d0, .d1, .d1⟩)⟩,
  ⟨(some ⟨.d0, .d3, .d3⟩), none, .len .sli (.t ⟨.d0, .d3, .d2⟩)⟩,
  ⟨(some ⟨.d0, .d3, .d4⟩), none, .bin .lss (.t ⟨.d0, .d3, .d1⟩) (.t ⟨.d0, .d3, .d3⟩)⟩])
 (.cond (.t ⟨.d0, .d3, .d4⟩) .skip (.exit 0)))
 (.seq (.block 1 (.block 2 (.seq (.ops [⟨(some ⟨.d0, .d4, .d7⟩), none, .mv (.t ⟨.d0, .d0, .d7⟩)⟩,
  ⟨(some ⟨.d0, .d5, .d0⟩), none, .mv (.t ⟨.d0, .d4, .d7⟩)⟩,
  ⟨(some ⟨.d0, .d5, .d1⟩), (some (⟨.d0, .d5, .d0⟩, true)), .mv (.t ⟨.d0, .d1, .d1⟩)⟩,
  ⟨(some ⟨.d0, .d5, .d2⟩), (some (⟨.d0, .d5, .d0⟩, true)), .mv (.t ⟨.d0, .d1, .d2⟩)⟩,
  ⟨(some ⟨.d0, .d5, .d3⟩), (some (⟨.d0, .d5, .d0⟩, true)), .idxA none 1 (.t ⟨.d0, .d5, .d1⟩) (.t ⟨.d0, .d5, .d2⟩)⟩,
  ⟨(some ⟨.d0, .d5, .d4⟩), (some (⟨.d0, .d5, .d0⟩, true)), .load none (.t ⟨.d0, .d5, .d3⟩)⟩,
  ⟨(some ⟨.d0, .d5, .d5⟩), (some (⟨.d0, .d5, .d0⟩, true)), .mv (.t ⟨.d0, .d0, .d6⟩)⟩,
  ⟨(some ⟨.d0, .d5, .d6⟩), (some (⟨.d0, .d5, .d0⟩, true)), .bin .eql (.t ⟨.d0, .d5, .d4⟩) (.t ⟨.d0, .d5, .d5⟩)⟩,
  ⟨(some ⟨.d0, .d5, .d7⟩), none, .pick (.t ⟨.d0, .d5, .d0⟩) (.t ⟨.d0, .d5, .d6⟩) (.c (.bool false))⟩,
  ⟨(some ⟨.d0, .d4, .d6⟩), none, .mv (.t ⟨.d0, .d5, .d7⟩)⟩])
 (.cond (.t ⟨.d0, .d4, .d6⟩) (.seq (.seq (.ops [⟨(some ⟨.d0, .d6, .d0⟩), none, .mv (.t ⟨.d0, .d1, .d2⟩)⟩,
  ⟨(some ⟨.d0, .d6, .d1⟩), none, .bin .add (.t ⟨.d0, .d6, .d0⟩) (.c (.int .i64 (.ofNat 1)))⟩,
  ⟨(some ⟨.d0, .d1, .d2⟩), none, .mv (.t ⟨.d0, .d6, .d1⟩)⟩])
 (.seq (.ops [⟨(some ⟨.d0, .d6, .d2⟩), none, .mv (.t ⟨.d0, .d1, .d2⟩)⟩,
  ⟨(some ⟨.d0, .d6, .d3⟩), none, .mv (.t ⟨.d0, .d1, .d1⟩)⟩,
  ⟨(some ⟨.d0, .d6, .d4⟩), none, .len .sli (.t ⟨.d0, .d6, .d3⟩)⟩,
  ⟨(some ⟨.d0, .d6, .d5⟩), none, .bin .eql (.t ⟨.d0, .d6, .d2⟩) (.t ⟨.d0, .d6, .d4⟩)⟩])
 (.cond (.t ⟨.d0, .d6, .d5⟩) (.seq (.ops [⟨(some ⟨.d0, .d6, .d6⟩), none, .build [.nils] []⟩,
  ⟨none, none, .store 1 (.t ⟨.d0, .d0, .d4⟩) (.t ⟨.d0, .d6, .d6⟩)⟩,
  ⟨(some ⟨.d0, .d0, .d5⟩), none, .mv (.c (.int .i64 (.ofNat 3)))⟩])
 .ret) .skip)))
 (.ops [⟨(some ⟨.d0, .d6, .d7⟩), none, .mv (.t ⟨.d0, .d1, .d0⟩)⟩,
  ⟨(some ⟨.d0, .d7, .d0⟩), none, .mv (.t ⟨.d0, .d1, .d1⟩)⟩,
  ⟨(some ⟨.d0, .d7, .d1⟩), none, .mv (.t ⟨.d0, .d1, .d2⟩)⟩,
  ⟨(some ⟨.d0, .d7, .d2⟩), none, .idxA none 1 (.t ⟨.d0, .d7, .d0⟩) (.t ⟨.d0, .d7, .d1⟩)⟩,
  ⟨(some ⟨.d0, .d7, .d3⟩), none, .load none (.t ⟨.d0, .d7, .d2⟩)⟩,
  ⟨(some ⟨.d0, .d7, .d4⟩), none, .buildS none 1 1 [(.int .i64 (.ofNat 0))] [(0, 1, (.t ⟨.d0, .d7, .d3⟩))]⟩,
  ⟨(some ⟨.d0, .d7, .d5⟩), none, .app 1 8 (.t ⟨.d0, .d6, .d7⟩) (.t ⟨.d0, .d7, .d4⟩)⟩,
  ⟨(some ⟨.d0, .d1, .d0⟩), none, .mv (.t ⟨.d0, .d7, .d5⟩)⟩])) (.seq (.ops [⟨(some ⟨.d0, .d7, .d7⟩), none, .mv (.t ⟨.d0, .d1, .d1⟩)⟩,
  ⟨(some ⟨.d1, .d0, .d0⟩), none, .mv (.t ⟨.d0, .d1, .d2⟩)⟩,
  ⟨(some ⟨.d1, .d0, .d1⟩), none, .idxA none 1 (.t ⟨.d0, .d7, .d7⟩) (.t ⟨.d1, .d0, .d0⟩)⟩,
  ⟨(some ⟨.d1, .d0, .d2⟩), none, .load none (.t ⟨.d1, .d0, .d1⟩)⟩,
  ⟨(some ⟨.d1, .d0, .d3⟩), none, .bin .eql (.t ⟨.d1, .d0, .d2⟩) (.c (.int .i64 (.ofNat 37)))⟩,
  ⟨(some ⟨.d0, .d7, .d6⟩), none, .mv (.t ⟨.d1, .d0, .d3⟩)⟩])
 (.cond (.t ⟨.d0, .d7, .d6⟩) (.ops [⟨(some ⟨.d1, .d0, .d4⟩), none, .mv (.t ⟨.d0, .d1, .d0⟩)⟩,
  ⟨(some ⟨.d1, .d0, .d5⟩), none, .buildS none 1 1 [(.int .i64 (.ofNat 0))] [(0, 1, (.c (.int .i64 (.negSucc 0))))]⟩,
  ⟨(some ⟨.d1, .d0, .d6⟩), none, .app 1 8 (.t ⟨.d1, .d0, .d4⟩) (.t ⟨.d1, .d0, .d5⟩)⟩,
  ⟨(some ⟨.d0, .d1, .d0⟩), none, .mv (.t ⟨.d1, .d0, .d6⟩)⟩]) (.seq (.ops [⟨(some ⟨.d1, .d1, .d0⟩), none, .mv (.t ⟨.d0, .d1, .d1⟩)⟩,
  ⟨(some ⟨.d1, .d1, .d1⟩), none, .mv (.t ⟨.d0, .d1, .d2⟩)⟩,
  ⟨(some ⟨.d1, .d1, .d2⟩), none, .idxA none 1 (.t ⟨.d1, .d1, .d0⟩) (.t ⟨.d1, .d1, .d1⟩)⟩,
  ⟨(some ⟨.d1, .d1, .d3⟩), none, .load none (.t ⟨.d1, .d1, .d2⟩)⟩,
  ⟨(some ⟨.d1, .d1, .d4⟩), none, .bin .eql (.t ⟨.d1, .d1, .d3⟩) (.c (.int .i64 (.ofNat 95)))⟩,
  ⟨(some ⟨.d1, .d0, .d7⟩), none, .mv (.t ⟨.d1, .d1, .d4⟩)⟩])
 (.cond (.t ⟨.d1, .d0, .d7⟩) (.ops [⟨(some ⟨.d1, .d1, .d5⟩), none, .mv (.t ⟨.d0, .d1, .d0⟩)⟩,
  ⟨(some ⟨.d1, .d1, .d6⟩), none, .buildS none 1 1 [(.int .i64 (.ofNat 0))] [(0, 1, (.c (.int .i64 (.negSucc 1))))]⟩,
  ⟨(some ⟨.d1, .d1, .d7⟩), none, .app 1 8 (.t ⟨.d1, .d1, .d5⟩) (.t ⟨.d1, .d1, .d6⟩)⟩,
  ⟨(some ⟨.d0, .d1, .d0⟩), none, .mv (.t ⟨.d1, .d1, .d7⟩)⟩]) (.ops [⟨(some ⟨.d0, .d3, .d7⟩), none, .mv (.t ⟨.d0, .d1, .d0⟩)⟩,
  ⟨(some ⟨.d0, .d4, .d0⟩), none, .mv (.t ⟨.d0, .d1, .d1⟩)⟩,
  ⟨(some ⟨.d0, .d4, .d1⟩), none, .mv (.t ⟨.d0, .d1, .d2⟩)⟩,
  ⟨(some ⟨.d0, .d4, .d2⟩), none, .idxA none 1 (.t ⟨.d0, .d4, .d0⟩) (.t ⟨.d0, .d4, .d1⟩)⟩,
  ⟨(some ⟨.d0, .d4, .d3⟩), none, .load none (.t ⟨.d0, .d4, .d2⟩)⟩,
  ⟨(some ⟨.d0, .d4, .d4⟩), none, .buildS none 1 1 [(.int .i64 (.ofNat 0))] [(0, 1, (.t ⟨.d0, .d4, .d3⟩))]⟩,
  ⟨(some ⟨.d0, .d4, .d5⟩), none, .app 1 8 (.t ⟨.d0, .d3, .d7⟩) (.t ⟨.d0, .d4, .d4⟩)⟩,
  ⟨(some ⟨.d0, .d1, .d0⟩), none, .mv (.t ⟨.d0, .d4, .d5⟩)⟩])))))))))
 (.ops [⟨(some ⟨.d0, .d3, .d5⟩), none, .mv (.t ⟨.d0, .d1, .d2⟩)⟩,
  ⟨(some ⟨.d0, .d3, .d6⟩), none, .bin .add (.t ⟨.d0, .d3, .d5⟩) (.c (.int .i64 (.ofNat 1)))⟩,
  ⟨(some ⟨.d0, .d1, .d2⟩), none, .mv (.t ⟨.d0, .d3, .d6⟩)⟩]))))))
 (.seq (.ops [⟨(some ⟨.d1, .d2, .d0⟩), none, .mv (.t ⟨.d0, .d1, .d0⟩)⟩,
  ⟨(some ⟨.d1, .d2, .d1⟩), none, .build [.nils] [(0, 1, (.t ⟨.d1, .d2, .d0⟩))]⟩,
  ⟨none, none, .store 1 (.t ⟨.d0, .d0, .d4⟩) (.t ⟨.d1, .d2, .d1⟩)⟩,
  ⟨(some ⟨.d0, .d0, .d5⟩), none, .mv (.c (.int .i64 (.ofNat 0)))⟩])
 .ret)))))))
 [.cell (some 1) ⟨.d0, .d0, .d4⟩, .tmp ⟨.d0, .d0, .d5⟩]
/-- unicode/utf8.DecodeRuneInString -/
def x56 : Ent := .code [⟨.d0, .d0, .d0⟩]
 (.seq (.ops [⟨(some ⟨.d0, .d0, .d2⟩), none, .mv (.c (.int .i32 (.ofNat 0)))⟩,
  ⟨(some ⟨.d0, .d0, .d3⟩), none, .mv (.c (.int .i64 (.ofNat 0)))⟩])
 (.seq (.seq (.ops [⟨(some ⟨.d0, .d0, .d4⟩), none, .mv (.t ⟨.d0, .d0, .d0⟩)⟩,
  ⟨(some ⟨.d0, .d0, .d5⟩), none, .bin .neq (.t ⟨.d0, .d0, .d4⟩) (.c (.str []))⟩,
  ⟨(some ⟨.d0, .d0, .d6⟩), none, .mv (.t ⟨.d0, .d0, .d5⟩)⟩,
  ⟨(some ⟨.d0, .d0, .d7⟩), (some (⟨.d0, .d0, .d6⟩, true)), .mv (.t ⟨.d0, .d0, .d0⟩)⟩,
  ⟨(some ⟨.d0, .d1, .d0⟩), (some (⟨.d0, .d0, .d6⟩, true)), .idxS (.t ⟨.d0, .d0, .d7⟩) (.c (.int .i64 (.ofNat 0)))⟩,
  ⟨(some ⟨.d0, .d1, .d1⟩), (some (⟨.d0, .d0, .d6⟩, true)), .bin .lss (.t ⟨.d0, .d1, .d0⟩) (.c (.int .u8 (.ofNat 128)))⟩,
  ⟨(some ⟨.d0, .d1, .d2⟩), none, .pick (.t ⟨.d0, .d0, .d6⟩) (.t ⟨.d0, .d1, .d1⟩) (.c (.bool false))⟩])
 (.cond (.t ⟨.d0, .d1, .d2⟩) (.seq (.ops [⟨(some ⟨.d0, .d1, .d3⟩), none, .mv (.t ⟨.d0, .d0, .d0⟩)⟩,
  ⟨(some ⟨.d0, .d1, .d4⟩), none, .idxS (.t ⟨.d0, .d1, .d3⟩) (.c (.int .i64 (.ofNat 0)))⟩,
  ⟨(some ⟨.d0, .d1, .d5⟩), none, .convI .i32 (.t ⟨.d0, .d1, .d4⟩)⟩,
  ⟨(some ⟨.d0, .d0, .d2⟩), none, .mv (.t ⟨.d0, .d1, .d5⟩)⟩,
  ⟨(some ⟨.d0, .d0, .d3⟩), none, .mv (.c (.int .i64 (.ofNat 1)))⟩])
 .ret) (.ops [⟨(some ⟨.d0, .d1, .d7⟩), none, .mv (.t ⟨.d0, .d0, .d0⟩)⟩,
  ⟨(some ⟨.d0, .d2, .d0⟩), none, .callF ⟨.d1, .d1, .d6⟩ [(.t ⟨.d0, .d1, .d7⟩)]⟩,
  ⟨(some ⟨.d0, .d1, .d6⟩), none, .mv (.t ⟨.d0, .d2, .d0⟩)⟩,
  ⟨(some ⟨.d0, .d2, .d1⟩), none, .ext (.t ⟨.d0, .d1, .d6⟩) 0⟩,
  ⟨(some ⟨.d0, .d2, .d2⟩), none, .ext (.t ⟨.d0, .d1, .d6⟩) 1⟩,
  ⟨(some ⟨.d0, .d0, .d2⟩), none, .mv (.t ⟨.d0, .d2, .d1⟩)⟩,
  ⟨(some ⟨.d0, .d0, .d3⟩), none, .mv (.t ⟨.d0, .d2, .d2⟩)⟩])))
 .ret))
 [.tmp ⟨.d0, .d0, .d2⟩, .tmp ⟨.d0, .d0, .d3⟩]
/-- unicode/utf8.RuneLen -/
def x57 : Ent := .code [⟨.d0, .d0, .d0⟩]
 (.seq (.ops [⟨(some ⟨.d0, .d0, .d2⟩), none, .mv (.c (.int .i64 (.ofNat 0)))⟩])
 (.seq (.block 0 (.seq (.ops [⟨(some ⟨.d0, .d0, .d4⟩), none, .mv (.t ⟨.d0, .d0, .d0⟩)⟩,
  ⟨(some ⟨.d0, .d0, .d5⟩), none, .bin .lss (.t ⟨.d0, .d0, .d4⟩) (.c (.int .i32 (.ofNat 0)))⟩,
  ⟨(some ⟨.d0, .d0, .d3⟩), none, .mv (.t ⟨.d0, .d0, .d5⟩)⟩])
 (.cond (.t ⟨.d0, .d0, .d3⟩) (.seq (.ops [⟨(some ⟨.d0, .d0, .d2⟩), none, .mv (.c (.int .i64 (.negSucc 0)))⟩])
 .ret) (.seq (.ops [⟨(some ⟨.d0, .d0, .d7⟩), none, .mv (.t ⟨.d0, .d0, .d0⟩)⟩,
  ⟨(some ⟨.d0, .d1, .d0⟩), none, .bin .leq (.t ⟨.d0, .d0, .d7⟩) (.c (.int .i32 (.ofNat 127)))⟩,
  ⟨(some ⟨.d0, .d0, .d6⟩), none, .mv (.t ⟨.d0, .d1, .d0⟩)⟩])
 (.cond (.t ⟨.d0, .d0, .d6⟩) (.seq (.ops [⟨(some ⟨.d0, .d0, .d2⟩), none, .mv (.c (.int .i64 (.ofNat 1)))⟩])
 .ret) (.seq (.ops [⟨(some ⟨.d0, .d1, .d2⟩), none, .mv (.t ⟨.d0, .d0, .d0⟩)⟩,
  ⟨(some ⟨.d0, .d1, .d3⟩), none, .bin .leq (.t ⟨.d0, .d1, .d2⟩) (.c (.int .i32 (.ofNat 2047)))⟩,
  ⟨(some ⟨.d0, .d1, .d1⟩), none, .mv (.t ⟨.d0, .d1, .d3⟩)⟩])
 (.cond (.t ⟨.d0, .d1, .d1⟩) (.seq (.ops [⟨(some ⟨.d0, .d0, .d2⟩), none, .mv (.c (.int .i64 (.ofNat 2)))⟩])
 .ret) (.seq (.ops [⟨(some ⟨.d0, .d1, .d5⟩), none, .mv (.t ⟨.d0, .d0, .d0⟩)⟩,
  ⟨(some ⟨.d0, .d1, .d6⟩), none, .bin .leq (.c (.int .i32 (.ofNat 55296))) (.t ⟨.d0, .d1, .d5⟩)⟩,
  ⟨(some ⟨.d0, .d1, .d7⟩), none, .mv (.t ⟨.d0, .d1, .d6⟩)⟩,
  ⟨(some ⟨.d0, .d2, .d0⟩), (some (⟨.d0, .d1, .d7⟩, true)), .mv (.t ⟨.d0, .d0, .d0⟩)⟩,
  ⟨(some ⟨.d0, .d2, .d1⟩), (some (⟨.d0, .d1, .d7⟩, true)), .bin .leq (.t ⟨.d0, .d2, .d0⟩) (.c (.int .i32 (.ofNat 57343)))⟩,
  ⟨(some ⟨.d0, .d2, .d2⟩), none, .pick (.t ⟨.d0, .d1, .d7⟩) (.t ⟨.d0, .d2, .d1⟩) (.c (.bool false))⟩,
  ⟨(some ⟨.d0, .d1, .d4⟩), none, .mv (.t ⟨.d0, .d2, .d2⟩)⟩])
 (.cond (.t ⟨.d0, .d1, .d4⟩) (.seq (.ops [⟨(some ⟨.d0, .d0, .d2⟩), none, .mv (.c (.int .i64 (.negSucc 0)))⟩])
 .ret) (.seq (.ops [⟨(some ⟨.d0, .d2, .d4⟩), none, .mv (.t ⟨.d0, .d0, .d0⟩)⟩,
  ⟨(some ⟨.d0, .d2, .d5⟩), none, .bin .leq (.t ⟨.d0, .d2, .d4⟩) (.c (.int .i32 (.ofNat 65535)))⟩,
  ⟨(some ⟨.d0, .d2, .d3⟩), none, .mv (.t ⟨.d0, .d2, .d5⟩)⟩])
 (.cond (.t ⟨.d0, .d2, .d3⟩) (.seq (.ops [⟨(some ⟨.d0, .d0, .d2⟩), none, .mv (.c (.int .i64 (.ofNat 3)))⟩])
 .ret) (.seq (.ops [⟨(some ⟨.d0, .d2, .d7⟩), none, .mv (.t ⟨.d0, .d0, .d0⟩)⟩,
  ⟨(some ⟨.d0, .d3, .d0⟩), none, .bin .leq (.t ⟨.d0, .d2, .d7⟩) (.c (.int .i32 (.ofNat 1114111)))⟩,
  ⟨(some ⟨.d0, .d2, .d6⟩), none, .mv (.t ⟨.d0, .d3, .d0⟩)⟩])
 (.cond (.t ⟨.d0, .d2, .d6⟩) (.seq (.ops [⟨(some ⟨.d0, .d0, .d2⟩), none, .mv (.c (.int .i64 (.ofNat 4)))⟩])
 .ret) .skip)))))))))))))
 (.seq (.ops [⟨(some ⟨.d0, .d0, .d2⟩), none, .mv (.c (.int .i64 (.negSucc 0)))⟩])
 .ret)))
 [.tmp ⟨.d0, .d0, .d2⟩]
/-- (*strings.Builder).WriteString -/
def x59 : Ent := .code [⟨.d0, .d0, .d0⟩, ⟨.d0, .d0, .d1⟩]
 (.seq (.ops [⟨(some ⟨.d0, .d0, .d4⟩), none, .mv (.c (.int .i64 (.ofNat 0)))⟩,
  ⟨(some ⟨.d0, .d0, .d5⟩), none, .mv (.c .nili)⟩])
 (.seq (.ops [⟨(some ⟨.d0, .d0, .d6⟩), none, .mv (.t ⟨.d0, .d0, .d0⟩)⟩,
  ⟨(some ⟨.d0, .d0, .d7⟩), none, .callF ⟨.d1, .d1, .d7⟩ [(.t ⟨.d0, .d0, .d6⟩)]⟩])
 (.seq (.ops [⟨(some ⟨.d0, .d1, .d0⟩), none, .mv (.t ⟨.d0, .d0, .d0⟩)⟩,
  ⟨(some ⟨.d0, .d1, .d1⟩), none, .mv (.t ⟨.d0, .d0, .d0⟩)⟩,
  ⟨(some ⟨.d0, .d1, .d2⟩), none, .nilck (.t ⟨.d0, .d1, .d1⟩)⟩,
  ⟨(some ⟨.d0, .d1, .d3⟩), none, .fieldA 1 (.t ⟨.d0, .d1, .d2⟩)⟩,
  ⟨(some ⟨.d0, .d1, .d4⟩), none, .load none (.t ⟨.d0, .d1, .d3⟩)⟩,
  ⟨(some ⟨.d0, .d1, .d5⟩), none, .mv (.t ⟨.d0, .d0, .d1⟩)⟩,
  ⟨(some ⟨.d0, .d1, .d6⟩), none, .app 1 1 (.t ⟨.d0, .d1, .d4⟩) (.t ⟨.d0, .d1, .d5⟩)⟩,
  ⟨(some ⟨.d0, .d1, .d7⟩), none, .nilck (.t ⟨.d0, .d1, .d0⟩)⟩,
  ⟨(some ⟨.d0, .d2, .d0⟩), none, .fieldA 1 (.t ⟨.d0, .d1, .d7⟩)⟩,
  ⟨none, none, .store 1 (.t ⟨.d0, .d2, .d0⟩) (.t ⟨.d0, .d1, .d6⟩)⟩])
 (.seq (.ops [⟨(some ⟨.d0, .d2, .d1⟩), none, .mv (.t ⟨.d0, .d0, .d1⟩)⟩,
  ⟨(some ⟨.d0, .d2, .d2⟩), none, .len .str (.t ⟨.d0, .d2, .d1⟩)⟩,
  ⟨(some ⟨.d0, .d0, .d4⟩), none, .mv (.t ⟨.d0, .d2, .d2⟩)⟩,
  ⟨(some ⟨.d0, .d0, .d5⟩), none, .mv (.c .nili)⟩])
 .ret))))
 [.tmp ⟨.d0, .d0, .d4⟩, .tmp ⟨.d0, .d0, .d5⟩]
/-- (*strings.Builder).WriteRune -/
def x60 : Ent := .code [⟨.d0, .d0, .d0⟩, ⟨.d0, .d0, .d1⟩]
 (.seq (.ops [⟨(some ⟨.d0, .d0, .d4⟩), none, .mv (.c (.int .i64 (.ofNat 0)))⟩,
  ⟨(some ⟨.d0, .d0, .d5⟩), none, .mv (.c .nili)⟩])
 (.seq (.ops [⟨(some ⟨.d0, .d0, .d7⟩), none, .mv (.t ⟨.d0, .d0, .d0⟩)⟩,
  ⟨(some ⟨.d0, .d1, .d0⟩), none, .callF ⟨.d1, .d1, .d7⟩ [(.t ⟨.d0, .d0, .d7⟩)]⟩])
 (.seq (.ops [⟨(some ⟨.d0, .d1, .d1⟩), none, .mv (.t ⟨.d0, .d0, .d0⟩)⟩,
  ⟨(some ⟨.d0, .d1, .d2⟩), none, .nilck (.t ⟨.d0, .d1, .d1⟩)⟩,
  ⟨(some ⟨.d0, .d1, .d3⟩), none, .fieldA 1 (.t ⟨.d0, .d1, .d2⟩)⟩,
  ⟨(some ⟨.d0, .d1, .d4⟩), none, .load none (.t ⟨.d0, .d1, .d3⟩)⟩,
  ⟨(some ⟨.d0, .d1, .d5⟩), none, .len .sli (.t ⟨.d0, .d1, .d4⟩)⟩,
  ⟨(some ⟨.d0, .d0, .d6⟩), none, .mv (.t ⟨.d0, .d1, .d5⟩)⟩])
 (.seq (.ops [⟨(some ⟨.d0, .d1, .d6⟩), none, .mv (.t ⟨.d0, .d0, .d0⟩)⟩,
  ⟨(some ⟨.d0, .d1, .d7⟩), none, .mv (.t ⟨.d0, .d0, .d0⟩)⟩,
  ⟨(some ⟨.d0, .d2, .d0⟩), none, .nilck (.t ⟨.d0, .d1, .d7⟩)⟩,
  ⟨(some ⟨.d0, .d2, .d1⟩), none, .fieldA 1 (.t ⟨.d0, .d2, .d0⟩)⟩,
  ⟨(some ⟨.d0, .d2, .d2⟩), none, .load none (.t ⟨.d0, .d2, .d1⟩)⟩,
  ⟨(some ⟨.d0, .d2, .d3⟩), none, .mv (.t ⟨.d0, .d0, .d1⟩)⟩,
  ⟨(some ⟨.d0, .d2, .d4⟩), none, .callF ⟨.d1, .d2, .d1⟩ [(.t ⟨.d0, .d2, .d2⟩), (.t ⟨.d0, .d2, .d3⟩)]⟩,
  ⟨(some ⟨.d0, .d2, .d5⟩), none, .nilck (.t ⟨.d0, .d1, .d6⟩)⟩,
  ⟨(some ⟨.d0, .d2, .d6⟩), none, .fieldA 1 (.t ⟨.d0, .d2, .d5⟩)⟩,
  ⟨none, none, .store 1 (.t ⟨.d0, .d2, .d6⟩) (.t ⟨.d0, .d2, .d4⟩)⟩])
 (.seq (.ops [⟨(some ⟨.d0, .d2, .d7⟩), none, .mv (.t ⟨.d0, .d0, .d0⟩)⟩,
  ⟨(some ⟨.d0, .d3, .d0⟩), none, .nilck (.t ⟨.d0, .d2, .d7⟩)⟩,
  ⟨(some ⟨.d0, .d3, .d1⟩), none, .fieldA 1 (.t ⟨.d0, .d3, .d0⟩)⟩,
  ⟨(some ⟨.d0, .d3, .d2⟩), none, .load none (.t ⟨.d0, .d3, .d1⟩)⟩,
  ⟨(some ⟨.d0, .d3, .d3⟩), none, .len .sli (.t ⟨.d0, .d3, .d2⟩)⟩,
  ⟨(some ⟨.d0, .d3, .d4⟩), none, .mv (.t ⟨.d0, .d0, .d6⟩)⟩,
  ⟨(some ⟨.d0, .d3, .d5⟩), none, .bin .sub (.t ⟨.d0, .d3, .d3⟩) (.t ⟨.d0, .d3, .d4⟩)⟩,
  ⟨(some ⟨.d0, .d0, .d4⟩), none, .mv (.t ⟨.d0, .d3, .d5⟩)⟩,
  ⟨(some ⟨.d0, .d0, .d5⟩), none, .mv (.c .nili)⟩])
 .ret)))))
 [.tmp ⟨.d0, .d0, .d4⟩, .tmp ⟨.d0, .d0, .d5⟩]
/-- (*strings.Builder).Cap -/
def x61 : Ent := .code [⟨.d0, .d0, .d0⟩]
 (.seq (.ops [⟨(some ⟨.d0, .d0, .d2⟩), none, .mv (.c (.int .i64 (.ofNat 0)))⟩])
 (.seq (.ops [⟨(some ⟨.d0, .d0, .d3⟩), none, .mv (.t ⟨.d0, .d0, .d0⟩)⟩,
  ⟨(some ⟨.d0, .d0, .d4⟩), none, .nilck (.t ⟨.d0, .d0, .d3⟩)⟩,
  ⟨(some ⟨.d0, .d0, .d5⟩), none, .fieldA 1 (.t ⟨.d0, .d0, .d4⟩)⟩,
  ⟨(some ⟨.d0, .d0, .d6⟩), none, .load none (.t ⟨.d0, .d0, .d5⟩)⟩,
  ⟨(some ⟨.d0, .d0, .d7⟩), none, .capS (.t ⟨.d0, .d0, .d6⟩)⟩,
  ⟨(some ⟨.d0, .d0, .d2⟩), none, .mv (.t ⟨.d0, .d0, .d7⟩)⟩])
 .ret))
 [.tmp ⟨.d0, .d0, .d2⟩]
/-- (*strings.Builder).WriteByte -/
def x62 : Ent := .code [⟨.d0, .d0, .d0⟩, ⟨.d0, .d0, .d1⟩]
 (.seq (.ops [⟨(some ⟨.d0, .d0, .d4⟩), none, .mv (.c .nili)⟩])
 (.seq (.ops [⟨(some ⟨.d0, .d0, .d5⟩), none, .mv (.t ⟨.d0, .d0, .d0⟩)⟩,
  ⟨(some ⟨.d0, .d0, .d6⟩), none, .callF ⟨.d1, .d1, .d7⟩ [(.t ⟨.d0, .d0, .d5⟩)]⟩])
 (.seq (.ops [⟨(some ⟨.d0, .d0, .d7⟩), none, .mv (.t ⟨.d0, .d0, .d0⟩)⟩,
  ⟨(some ⟨.d0, .d1, .d0⟩), none, .mv (.t ⟨.d0, .d0, .d0⟩)⟩,
  ⟨(some ⟨.d0, .d1, .d1⟩), none, .nilck (.t ⟨.d0, .d1, .d0⟩)⟩,
  ⟨(some ⟨.d0, .d1, .d2⟩), none, .fieldA 1 (.t ⟨.d0, .d1, .d1⟩)⟩,
  ⟨(some ⟨.d0, .d1, .d3⟩), none, .load none (.t ⟨.d0, .d1, .d2⟩)⟩,
  ⟨(some ⟨.d0, .d1, .d4⟩), none, .mv (.t ⟨.d0, .d0, .d1⟩)⟩,
  ⟨(some ⟨.d0, .d1, .d5⟩), none, .buildS none 1 1 [(.int .u8 (.ofNat 0))] [(0, 1, (.t ⟨.d0, .d1, .d4⟩))]⟩,
  ⟨(some ⟨.d0, .d1, .d6⟩), none, .app 1 1 (.t ⟨.d0, .d1, .d3⟩) (.t ⟨.d0, .d1, .d5⟩)⟩,
  ⟨(some ⟨.d0, .d1, .d7⟩), none, .nilck (.t ⟨.d0, .d0, .d7⟩)⟩,
  ⟨(some ⟨.d0, .d2, .d0⟩), none, .fieldA 1 (.t ⟨.d0, .d1, .d7⟩)⟩,
  ⟨none, none, .store 1 (.t ⟨.d0, .d2, .d0⟩) (.t ⟨.d0, .d1, .d6⟩)⟩])
 (.seq (.ops [⟨(some ⟨.d0, .d0, .d4⟩), none, .mv (.c .nili)⟩])
 .ret))))
 [.tmp ⟨.d0, .d0, .d4⟩]
/-- strings.trimLeftByte -/
def x64 : Ent := .code [⟨.d0, .d0, .d0⟩, ⟨.d0, .d0, .d1⟩]
 (.seq (.ops [⟨(some ⟨.d0, .d0, .d4⟩), none, .mv (.c (.str []))⟩])
 (.seq (.block 0 (.loop (.seq (.seq (.ops [⟨(some ⟨.d0, .d0, .d5⟩), none, .mv (.t ⟨.d0, .d0, .d0⟩)⟩,
  ⟨(some ⟨.d0, .d0, .d6⟩), none, .len .str (.t ⟨.d0, .d0, .d5⟩)⟩,
  ⟨(some ⟨.d0, .d0, .d7⟩), none, .bin .gtr (.t ⟨.d0, .d0, .d6⟩) (.c (.int .i64 (.ofNat 0)))⟩,
  ⟨(some ⟨.d0, .d1, .d0⟩), none, .mv (.t ⟨.d0, .d0, .d7⟩)⟩,
  ⟨(some ⟨.d0, .d1, .d1⟩), (some (⟨.d0, .d1, .d0⟩, true)), .mv (.t ⟨.d0, .d0, .d0⟩)⟩,
  ⟨(some ⟨.d0, .d1, .d2⟩), (some (⟨.d0, .d1, .d0⟩, true)), .idxS (.t ⟨.d0, .d1, .d1⟩) (.c (.int .i64 (.ofNat 0)))⟩,
  ⟨(some ⟨.d0, .d1, .d3⟩), (some (⟨.d0, .d1, .d0⟩, true)), .mv (.t ⟨.d0, .d0, .d1⟩)⟩,
  ⟨(some ⟨.d0, .d1, .d4⟩), (some (⟨.d0, .d1, .d0⟩, true)), .bin .eql (.t ⟨.d0, .d1, .d2⟩) (.t ⟨.d0, .d1, .d3⟩)⟩,
  ⟨(some ⟨.d0, .d1, .d5⟩), none, .pick (.t ⟨.d0, .d1, .d0⟩) (.t ⟨.d0, .d1, .d4⟩) (.c (.bool false))⟩])
 (.cond (.t ⟨.d0, .d1, .d5⟩) .skip (.exit 0)))
 (.block 1 (.ops [⟨(some ⟨.d0, .d1, .d6⟩), none, .mv (.t ⟨.d0, .d0, .d0⟩)⟩,
  ⟨(some ⟨.d0, .d1, .d7⟩), none, .sliS (.t ⟨.d0, .d1, .d6⟩) (some (.c (.int .i64 (.ofNat 1)))) none⟩,
  ⟨(some ⟨.d0, .d0, .d0⟩), none, .mv (.t ⟨.d0, .d1, .d7⟩)⟩])))))
 (.seq (.ops [⟨(some ⟨.d0, .d2, .d0⟩), none, .mv (.t ⟨.d0, .d0, .d0⟩)⟩,
  ⟨(some ⟨.d0, .d0, .d4⟩), none, .mv (.t ⟨.d0, .d2, .d0⟩)⟩])
 .ret)))
 [.tmp ⟨.d0, .d0, .d4⟩]
/-- strings.trimRightByte -/
def x65 : Ent := .code [⟨.d0, .d0, .d0⟩, ⟨.d0, .d0, .d1⟩]
 (.seq (.ops [⟨(some ⟨.d0, .d0, .d4⟩), none, .mv (.c (.str []))⟩])
 (.seq (.block 0 (.loop (.seq (.seq (.ops [⟨(some ⟨.d0, .d0, .d5⟩), none, .mv (.t ⟨.d0, .d0, .d0⟩)⟩,
  ⟨(some ⟨.d0, .d0, .d6⟩), none, .len .str (.t ⟨.d0, .d0, .d5⟩)⟩,
  ⟨(some ⟨.d0, .d0, .d7⟩), none, .bin .gtr (.t ⟨.d0, .d0, .d6⟩) (.c (.int .i64 (.ofNat 0)))⟩,
  ⟨(some ⟨.d0, .d1, .d0⟩), none, .mv (.t ⟨.d0, .d0, .d7⟩)⟩,
  ⟨(some ⟨.d0, .d1, .d1⟩), (some (⟨.d0, .d1, .d0⟩, true)), .mv (.t ⟨.d0, .d0, .d0⟩)⟩,
  ⟨(some ⟨.d0, .d1, .d2⟩), (some (⟨.d0, .d1, .d0⟩, true)), .mv (.t ⟨.d0, .d0, .d0⟩)⟩,
  ⟨(some ⟨.d0, .d1, .d3⟩), (some (⟨.d0, .d1, .d0⟩, true)), .len .str (.t ⟨.d0, .d1, .d2⟩)⟩,
  ⟨(some ⟨.d0, .d1, .d4⟩), (some (⟨.d0, .d1, .d0⟩, true)), .bin .sub (.t ⟨.d0, .d1, .d3⟩) (.c (.int .i64 (.ofNat 1)))⟩,
  ⟨(some ⟨.d0, .d1, .d5⟩), (some (⟨.d0, .d1, .d0⟩, true)), .idxS (.t ⟨.d0, .d1, .d1⟩) (.t ⟨.d0, .d1, .d4⟩)⟩,
  ⟨(some ⟨.d0, .d1, .d6⟩), (some (⟨.d0, .d1, .d0⟩, true)), .mv (.t ⟨.d0, .d0, .d1⟩)⟩,
  ⟨(some ⟨.d0, .d1, .d7⟩), (some (⟨.d0, .d1, .d0⟩, true)), .bin .eql (.t ⟨.d0, .d1, .d5⟩) (.t ⟨.d0, .d1, .d6⟩)⟩,
  ⟨(some ⟨.d0, .d2, .d0⟩), none, .pick (.t ⟨.d0, .d1, .d0⟩) (.t ⟨.d0, .d1, .d7⟩) (.c (.bool false))⟩])
 (.cond (.t ⟨.d0, .d2, .d0⟩) .skip (.exit 0)))
 (.block 1 (.ops [⟨(some ⟨.d0, .d2, .d1⟩), none, .mv (.t ⟨.d0, .d0, .d0⟩)⟩,
  ⟨(some ⟨.d0, .d2, .d2⟩), none, .mv (.t ⟨.d0, .d0, .d0⟩)⟩,
  ⟨(some ⟨.d0, .d2, .d3⟩), none, .len .str (.t ⟨.d0, .d2, .d2⟩)⟩,
  ⟨(some ⟨.d0, .d2, .d4⟩), none, .bin .sub (.t ⟨.d0, .d2, .d3⟩) (.c (.int .i64 (.ofNat 1)))⟩,
  ⟨(some ⟨.d0, .d2, .d5⟩), none, .sliS (.t ⟨.d0, .d2, .d1⟩) none (some (.t ⟨.d0, .d2, .d4⟩))⟩,
  ⟨(some ⟨.d0, .d0, .d0⟩), none, .mv (.t ⟨.d0, .d2, .d5⟩)⟩])))))
 (.seq (.ops [⟨(some ⟨.d0, .d2, .d6⟩), none, .mv (.t ⟨.d0, .d0, .d0⟩)⟩,
  ⟨(some ⟨.d0, .d0, .d4⟩), none, .mv (.t ⟨.d0, .d2, .d6⟩)⟩])
 .ret)))
 [.tmp ⟨.d0, .d0, .d4⟩]
/-- strings.makeASCIISet -/
def x66 : Ent := .code [⟨.d0, .d0, .d0⟩]
 (.seq (.ops [⟨(some ⟨.d0, .d0, .d2⟩), none, .box none (.c (.agg [(.bool false), (.bool false), (.bool false), (.bool false), (.bool false), (.bool false), (.bool false), (.bool false), (.bool false), (.bool false), (.bool false), (.bool false), (.bool false), (.bool false), (.bool false), (.bool false), (.bool false), (.bool false), (.bool false), (.bool false), (.bool false), (.bool false), (.bool false), (.bool false), (.bool false), (.bool false), (.bool false), (.bool false), (.bool false), (.bool false), (.bool false), (.bool false), (.bool false), (.bool false), (.bool false), (.bool false), (.bool false), (.bool false), (.bool false), (.bool false), (.bool false), (.bool false), (.bool false), (.bool false), (.bool false), (.bool false), (.bool false), (.bool false), (.bool false), (.bool false), (.bool false), (.bool false), (.bool false), (.bool false), (.bool false), (.bool false), (.bool false), (.bool false), (.bool false), (.bool false), (.bool false), (.bool false), (.bool false), (.bool false), (.bool false), (.bool false), (.bool false), (.bool false), (.bool false), (.bool false), (.bool false), (.bool false), (.bool false), (.bool false), (.bool false), (.bool false), (.bool false), (.bool false), (.bool false), (.bool false), (.bool false), (.bool false), (.bool false), (.bool false), (.bool false), (.bool false), (.bool false), (.bool false), (.bool false), (.bool false), (.bool false), (.bool false), (.bool false), (.bool false), (.bool false), (.bool false), (.bool false), (.bool false), (.bool false), (.bool false), (.bool false), (.bool false), (.bool false), (.bool false), (.bool false), (.bool false), (.bool false), (.bool false), (.bool false), (.bool false), (.bool false), (.bool false), (.bool false), (.bool false), (.bool false), (.bool false), (.bool false), (.bool false), (.bool false), (.bool false), (.bool false), (.bool false), (.bool false), (.bool false), (.bool false), (.bool false), (.bool false), (.bool false), (.bool false), (.bool false), (.bool false), (.bool false), (.bool false), (.bool false), (.bool false), (.bool false), (.bool false), (.bool false), (.bool false), (.bool false), (.bool false), (.bool false), (.bool false), (.bool false), (.bool false), (.bool false), (.bool false), (.bool false), (.bool false), (.bool false), (.bool false), (.bool false), (.bool false), (.bool false), (.bool false), (.bool false), (.bool false), (.bool false), (.bool false), (.bool false), (.bool false), (.bool false), (.bool false), (.bool false), (.bool false), (.bool false), (.bool false), (.bool false), (.bool false), (.bool false), (.bool false), (.bool false), (.bool false), (.bool false), (.bool false), (.bool false), (.bool false), (.bool false), (.bool false), (.bool false), (.bool false), (.bool false), (.bool false), (.bool false), (.bool false), (.bool false), (.bool false), (.bool false), (.bool false), (.bool false), (.bool false), (.bool false), (.bool false), (.bool false), (.bool false), (.bool false), (.bool false), (.bool false), (.bool false), (.bool false), (.bool false), (.bool false), (.bool false), (.bool false), (.bool false), (.bool false), (.bool false), (.bool false), (.bool false), (.bool false), (.bool false), (.bool false), (.bool false), (.bool false), (.bool false), (.bool false), (.bool false), (.bool false), (.bool false), (.bool false), (.bool false), (.bool false), (.bool false), (.bool false), (.bool false), (.bool false), (.bool false), (.bool false), (.bool false), (.bool false), (.bool false), (.bool false), (.bool false), (.bool false), (.bool false), (.bool false), (.bool false), (.bool false), (.bool false), (.bool false), (.bool false), (.bool false), (.bool false), (.bool false), (.bool false), (.bool false), (.bool false), (.bool false), (.bool false), (.bool false), (.bool false), (.bool false), (.bool false), (.bool false), (.bool false), (.bool false)]))⟩,
  ⟨(some ⟨.d0, .d0, .d3⟩), none, .mv (.c (.bool false))⟩])
 (.seq (.seq (.ops [⟨(some ⟨.d0, .d0, .d4⟩), none, .mv (.c (.int .i64 (.ofNat 0)))⟩])
 (.block 0 (.loop (.seq (.seq (.ops [⟨(some ⟨.d0, .d0, .d6⟩), none, .mv (.t ⟨.d0, .d0, .d4⟩)⟩,
  ⟨(some ⟨.d0, .d0, .d7⟩), none, .mv (.t ⟨.d0, .d0, .d0⟩)⟩,
  ⟨(some ⟨.d0, .d1, .d0⟩), none, .len .str (.t ⟨.d0, .d0, .d7⟩)⟩,
  ⟨(some ⟨.d0, .d1, .d1⟩), none, .bin .lss (.t ⟨.d0, .d0, .d6⟩) (.t ⟨.d0, .d1, .d0⟩)⟩])
 (.cond (.t ⟨.d0, .d1, .d1⟩) .skip (.exit 0)))
 (.seq (.block 1 (.seq (.ops [⟨(some ⟨.d0, .d1, .d4⟩), none, .mv (.t ⟨.d0, .d0, .d0⟩)⟩,
  ⟨(some ⟨.d0, .d1, .d5⟩), none, .mv (.t ⟨.d0, .d0, .d4⟩)⟩,
  ⟨(some ⟨.d0, .d1, .d6⟩), none, .idxS (.t ⟨.d0, .d1, .d4⟩) (.t ⟨.d0, .d1, .d5⟩)⟩,
  ⟨(some ⟨.d0, .d0, .d5⟩), none, .mv (.t ⟨.d0, .d1, .d6⟩)⟩])
 (.seq (.seq (.ops [⟨(some ⟨.d0, .d1, .d7⟩), none, .mv (.t ⟨.d0, .d0, .d5⟩)⟩,
  ⟨(some ⟨.d0, .d2, .d0⟩), none, .bin .geq (.t ⟨.d0, .d1, .d7⟩) (.c (.int .u8 (.ofNat 128)))⟩])
 (.cond (.t ⟨.d0, .d2, .d0⟩) (.seq (.ops [⟨(some ⟨.d0, .d2, .d1⟩), none, .load (some 256) (.t ⟨.d0, .d0, .d2⟩)⟩,
  ⟨none, none, .store 256 (.t ⟨.d0, .d0, .d2⟩) (.t ⟨.d0, .d2, .d1⟩)⟩,
  ⟨(some ⟨.d0, .d0, .d3⟩), none, .mv (.c (.bool false))⟩])
 .ret) .skip))
 (.ops [⟨(some ⟨.d0, .d2, .d2⟩), none, .mv (.t ⟨.d0, .d0, .d5⟩)⟩,
  ⟨(some ⟨.d0, .d2, .d3⟩), none, .idxA (some 256) 1 (.t ⟨.d0, .d0, .d2⟩) (.t ⟨.d0, .d2, .d2⟩)⟩,
  ⟨none, none, .store 1 (.t ⟨.d0, .d2, .d3⟩) (.c (.bool true))⟩]))))
 (.ops [⟨(some ⟨.d0, .d1, .d2⟩), none, .mv (.t ⟨.d0, .d0, .d4⟩)⟩,
  ⟨(some ⟨.d0, .d1, .d3⟩), none, .bin .add (.t ⟨.d0, .d1, .d2⟩) (.c (.int .i64 (.ofNat 1)))⟩,
  ⟨(some ⟨.d0, .d0, .d4⟩), none, .mv (.t ⟨.d0, .d1, .d3⟩)⟩]))))))
 (.seq (.ops [⟨(some ⟨.d0, .d2, .d4⟩), none, .load (some 256) (.t ⟨.d0, .d0, .d2⟩)⟩,
  ⟨none, none, .store 256 (.t ⟨.d0, .d0, .d2⟩) (.t ⟨.d0, .d2, .d4⟩)⟩,
  ⟨(some ⟨.d0, .d0, .d3⟩), none, .mv (.c (.bool true))⟩])
 .ret)))
 [.cell (some 256) ⟨.d0, .d0, .d2⟩, .tmp ⟨.d0, .d0, .d3⟩]
/-- strings.trimLeftASCII -/
def x67 : Ent := .code [⟨.d0, .d0, .d0⟩, ⟨.d0, .d0, .d1⟩]
 (.seq (.ops [⟨(some ⟨.d0, .d0, .d4⟩), none, .mv (.c (.str []))⟩])
 (.seq (.block 0 (.loop (.seq (.seq (.ops [⟨(some ⟨.d0, .d0, .d5⟩), none, .mv (.t ⟨.d0, .d0, .d0⟩)⟩,
  ⟨(some ⟨.d0, .d0, .d6⟩), none, .len .str (.t ⟨.d0, .d0, .d5⟩)⟩,
  ⟨(some ⟨.d0, .d0, .d7⟩), none, .bin .gtr (.t ⟨.d0, .d0, .d6⟩) (.c (.int .i64 (.ofNat 0)))⟩])
 (.cond (.t ⟨.d0, .d0, .d7⟩) .skip (.exit 0)))
 (.block 1 (.seq (.seq (.ops [⟨(some ⟨.d0, .d1, .d0⟩), none, .mv (.t ⟨.d0, .d0, .d1⟩)⟩,
  ⟨(some ⟨.d0, .d1, .d1⟩), none, .mv (.t ⟨.d0, .d0, .d0⟩)⟩,
  ⟨(some ⟨.d0, .d1, .d2⟩), none, .idxS (.t ⟨.d0, .d1, .d1⟩) (.c (.int .i64 (.ofNat 0)))⟩,
  ⟨(some ⟨.d0, .d1, .d3⟩), none, .callF ⟨.d1, .d2, .d2⟩ [(.t ⟨.d0, .d1, .d0⟩), (.t ⟨.d0, .d1, .d2⟩)]⟩,
  ⟨(some ⟨.d0, .d1, .d4⟩), none, .un .not (.t ⟨.d0, .d1, .d3⟩)⟩])
 (.cond (.t ⟨.d0, .d1, .d4⟩) (.exit 0) .skip))
 (.ops [⟨(some ⟨.d0, .d1, .d5⟩), none, .mv (.t ⟨.d0, .d0, .d0⟩)⟩,
  ⟨(some ⟨.d0, .d1, .d6⟩), none, .sliS (.t ⟨.d0, .d1, .d5⟩) (some (.c (.int .i64 (.ofNat 1)))) none⟩,
  ⟨(some ⟨.d0, .d0, .d0⟩), none, .mv (.t ⟨.d0, .d1, .d6⟩)⟩]))))))
 (.seq (.ops [⟨(some ⟨.d0, .d1, .d7⟩), none, .mv (.t ⟨.d0, .d0, .d0⟩)⟩,
  ⟨(some ⟨.d0, .d0, .d4⟩), none, .mv (.t ⟨.d0, .d1, .d7⟩)⟩])
 .ret)))
 [.tmp ⟨.d0, .d0, .d4⟩]
/-- strings.trimRightASCII -/
def x68 : Ent := .code [⟨.d0, .d0, .d0⟩, ⟨.d0, .d0, .d1⟩]
 (.seq (.ops [⟨(some ⟨.d0, .d0, .d4⟩), none, .mv (.c (.str []))⟩])
 (.seq (.block 0 (.loop (.seq (.seq (.ops [⟨(some ⟨.d0, .d0, .d5⟩), none, .mv (.t ⟨.d0, .d0, .d0⟩)⟩,
  ⟨(some ⟨.d0, .d0, .d6⟩), none, .len .str (.t ⟨.d0, .d0, .d5⟩)⟩,
  ⟨(some ⟨.d0, .d0, .d7⟩), none, .bin .gtr (.t ⟨.d0, .d0, .d6⟩) (.c (.int .i64 (.ofNat 0)))⟩])
 (.cond (.t ⟨.d0, .d0, .d7⟩) .skip (.exit 0)))
 (.block 1 (.seq (.seq (.ops [⟨(some ⟨.d0, .d1, .d0⟩), none, .mv (.t ⟨.d0, .d0, .d1⟩)⟩,
  ⟨(some ⟨.d0, .d1, .d1⟩), none, .mv (.t ⟨.d0, .d0, .d0⟩)⟩,
  ⟨(some ⟨.d0, .d1, .d2⟩), none, .mv (.t ⟨.d0, .d0, .d0⟩)⟩,
  ⟨(some ⟨.d0, .d1, .d3⟩), none, .len .str (.t ⟨.d0, .d1, .d2⟩)⟩,
  ⟨(some ⟨.d0, .d1, .d4⟩), none, .bin .sub (.t ⟨.d0, .d1, .d3⟩) (.c (.int .i64 (.ofNat 1)))⟩,
  ⟨(some ⟨.d0, .d1, .d5⟩), none, .idxS (.t ⟨.d0, .d1, .d1⟩) (.t ⟨.d0, .d1, .d4⟩)⟩,
  ⟨(some ⟨.d0, .d1, .d6⟩), none, .callF ⟨.d1, .d2, .d2⟩ [(.t ⟨.d0, .d1, .d0⟩), (.t ⟨.d0, .d1, .d5⟩)]⟩,
  ⟨(some ⟨.d0, .d1, .d7⟩), none, .un .not (.t ⟨.d0, .d1, .d6⟩)⟩])
 (.cond (.t ⟨.d0, .d1, .d7⟩) (.exit 0) .skip))
 (.ops [⟨(some ⟨.d0, .d2, .d0⟩), none, .mv (.t ⟨.d0, .d0, .d0⟩)⟩,
  ⟨(some ⟨.d0, .d2, .d1⟩), none, .mv (.t ⟨.d0, .d0, .d0⟩)⟩,
  ⟨(some ⟨.d0, .d2, .d2⟩), none, .len .str (.t ⟨.d0, .d2, .d1⟩)⟩,
  ⟨(some ⟨.d0, .d2, .d3⟩), none, .bin .sub (.t ⟨.d0, .d2, .d2⟩) (.c (.int .i64 (.ofNat 1)))⟩,
  ⟨(some ⟨.d0, .d2, .d4⟩), none, .sliS (.t ⟨.d0, .d2, .d0⟩) none (some (.t ⟨.d0, .d2, .d3⟩))⟩,
  ⟨(some ⟨.d0, .d0, .d0⟩), none, .mv (.t ⟨.d0, .d2, .d4⟩)⟩]))))))
 (.seq (.ops [⟨(some ⟨.d0, .d2, .d5⟩), none, .mv (.t ⟨.d0, .d0, .d0⟩)⟩,
  ⟨(some ⟨.d0, .d0, .d4⟩), none, .mv (.t ⟨.d0, .d2, .d5⟩)⟩])
 .ret)))
 [.tmp ⟨.d0, .d0, .d4⟩]
/-- strings.trimLeftUnicode -/
def x69 : Ent := .code [⟨.d0, .d0, .d0⟩, ⟨.d0, .d0, .d1⟩]
 (.seq (.ops [⟨(some ⟨.d0, .d0, .d4⟩), none, .mv (.c (.str []))⟩])
 (.seq (.block 0 (.loop (.seq (.seq (.ops [⟨(some ⟨.d0, .d0, .d7⟩), none, .mv (.t ⟨.d0, .d0, .d0⟩)⟩,
  ⟨(some ⟨.d0, .d1, .d0⟩), none, .len .str (.t ⟨.d0, .d0, .d7⟩)⟩,
  ⟨(some ⟨.d0, .d1, .d1⟩), none, .bin .gtr (.t ⟨.d0, .d1, .d0⟩) (.c (.int .i64 (.ofNat 0)))⟩])
 (.cond (.t ⟨.d0, .d1, .d1⟩) .skip (.exit 0)))
 (.block 1 (.seq (.ops [⟨(some ⟨.d0, .d1, .d3⟩), none, .mv (.t ⟨.d0, .d0, .d0⟩)⟩,
  ⟨(some ⟨.d0, .d1, .d4⟩), none, .callF ⟨.d0, .d7, .d0⟩ [(.t ⟨.d0, .d1, .d3⟩)]⟩,
  ⟨(some ⟨.d0, .d1, .d2⟩), none, .mv (.t ⟨.d0, .d1, .d4⟩)⟩,
  ⟨(some ⟨.d0, .d1, .d5⟩), none, .ext (.t ⟨.d0, .d1, .d2⟩) 0⟩,
  ⟨(some ⟨.d0, .d1, .d6⟩), none, .ext (.t ⟨.d0, .d1, .d2⟩) 1⟩,
  ⟨(some ⟨.d0, .d0, .d5⟩), none, .mv (.t ⟨.d0, .d1, .d5⟩)⟩,
  ⟨(some ⟨.d0, .d0, .d6⟩), none, .mv (.t ⟨.d0, .d1, .d6⟩)⟩])
 (.seq (.seq (.ops [⟨(some ⟨.d0, .d1, .d7⟩), none, .mv (.t ⟨.d0, .d0, .d1⟩)⟩,
  ⟨(some ⟨.d0, .d2, .d0⟩), none, .mv (.t ⟨.d0, .d0, .d5⟩)⟩,
  ⟨(some ⟨.d0, .d2, .d1⟩), none, .callF ⟨.d1, .d2, .d3⟩ [(.t ⟨.d0, .d1, .d7⟩), (.t ⟨.d0, .d2, .d0⟩)]⟩,
  ⟨(some ⟨.d0, .d2, .d2⟩), none, .un .not (.t ⟨.d0, .d2, .d1⟩)⟩])
 (.cond (.t ⟨.d0, .d2, .d2⟩) (.exit 0) .skip))
 (.ops [⟨(some ⟨.d0, .d2, .d3⟩), none, .mv (.t ⟨.d0, .d0, .d0⟩)⟩,
  ⟨(some ⟨.d0, .d2, .d4⟩), none, .mv (.t ⟨.d0, .d0, .d6⟩)⟩,
  ⟨(some ⟨.d0, .d2, .d5⟩), none, .sliS (.t ⟨.d0, .d2, .d3⟩) (some (.t ⟨.d0, .d2, .d4⟩)) none⟩,
  ⟨(some ⟨.d0, .d0, .d0⟩), none, .mv (.t ⟨.d0, .d2, .d5⟩)⟩])))))))
 (.seq (.ops [⟨(some ⟨.d0, .d2, .d6⟩), none, .mv (.t ⟨.d0, .d0, .d0⟩)⟩,
  ⟨(some ⟨.d0, .d0, .d4⟩), none, .mv (.t ⟨.d0, .d2, .d6⟩)⟩])
 .ret)))
 [.tmp ⟨.d0, .d0, .d4⟩]
/-- strings.trimRightUnicode -/
def x70 : Ent := .code [⟨.d0, .d0, .d0⟩, ⟨.d0, .d0, .d1⟩]
 (.seq (.ops [⟨(some ⟨.d0, .d0, .d4⟩), none, .mv (.c (.str []))⟩])
 (.seq (.block 0 (.loop (.seq (.seq (.ops [⟨(some ⟨.d0, .d0, .d7⟩), none, .mv (.t ⟨.d0, .d0, .d0⟩)⟩,
  ⟨(some ⟨.d0, .d1, .d0⟩), none, .len .str (.t ⟨.d0, .d0, .d7⟩)⟩,
  ⟨(some ⟨.d0, .d1, .d1⟩), none, .bin .gtr (.t ⟨.d0, .d1, .d0⟩) (.c (.int .i64 (.ofNat 0)))⟩])
 (.cond (.t ⟨.d0, .d1, .d1⟩) .skip (.exit 0)))
 (.block 1 (.seq (.ops [⟨(some ⟨.d0, .d1, .d2⟩), none, .mv (.t ⟨.d0, .d0, .d0⟩)⟩,
  ⟨(some ⟨.d0, .d1, .d3⟩), none, .mv (.t ⟨.d0, .d0, .d0⟩)⟩,
  ⟨(some ⟨.d0, .d1, .d4⟩), none, .len .str (.t ⟨.d0, .d1, .d3⟩)⟩,
  ⟨(some ⟨.d0, .d1, .d5⟩), none, .bin .sub (.t ⟨.d0, .d1, .d4⟩) (.c (.int .i64 (.ofNat 1)))⟩,
  ⟨(some ⟨.d0, .d1, .d6⟩), none, .idxS (.t ⟨.d0, .d1, .d2⟩) (.t ⟨.d0, .d1, .d5⟩)⟩,
  ⟨(some ⟨.d0, .d1, .d7⟩), none, .convI .i32 (.t ⟨.d0, .d1, .d6⟩)⟩,
  ⟨(some ⟨.d0, .d0, .d5⟩), none, .mv (.t ⟨.d0, .d1, .d7⟩)⟩,
  ⟨(some ⟨.d0, .d0, .d6⟩), none, .mv (.c (.int .i64 (.ofNat 1)))⟩])
 (.seq (.seq (.ops [⟨(some ⟨.d0, .d2, .d0⟩), none, .mv (.t ⟨.d0, .d0, .d5⟩)⟩,
  ⟨(some ⟨.d0, .d2, .d1⟩), none, .bin .geq (.t ⟨.d0, .d2, .d0⟩) (.c (.int .i32 (.ofNat 128)))⟩])
 (.cond (.t ⟨.d0, .d2, .d1⟩) (.ops [⟨(some ⟨.d0, .d2, .d3⟩), none, .mv (.t ⟨.d0, .d0, .d0⟩)⟩,
  ⟨(some ⟨.d0, .d2, .d4⟩), none, .callF ⟨.d1, .d2, .d4⟩ [(.t ⟨.d0, .d2, .d3⟩)]⟩,
  ⟨(some ⟨.d0, .d2, .d2⟩), none, .mv (.t ⟨.d0, .d2, .d4⟩)⟩,
  ⟨(some ⟨.d0, .d2, .d5⟩), none, .ext (.t ⟨.d0, .d2, .d2⟩) 0⟩,
  ⟨(some ⟨.d0, .d2, .d6⟩), none, .ext (.t ⟨.d0, .d2, .d2⟩) 1⟩,
  ⟨(some ⟨.d0, .d0, .d5⟩), none, .mv (.t ⟨.d0, .d2, .d5⟩)⟩,
  ⟨(some ⟨.d0, .d0, .d6⟩), none, .mv (.t ⟨.d0, .d2, .d6⟩)⟩]) .skip))
 (.seq (.seq (.ops [⟨(some ⟨.d0, .d2, .d7⟩), none, .mv (.t ⟨.d0, .d0, .d1⟩)⟩,
  ⟨(some ⟨.d0, .d3, .d0⟩), none, .mv (.t ⟨.d0, .d0, .d5⟩)⟩,
  ⟨(some ⟨.d0, .d3, .d1⟩), none, .callF ⟨.d1, .d2, .d3⟩ [(.t ⟨.d0, .d2, .d7⟩), (.t ⟨.d0, .d3, .d0⟩)]⟩,
  ⟨(some ⟨.d0, .d3, .d2⟩), none, .un .not (.t ⟨.d0, .d3, .d1⟩)⟩])
 (.cond (.t ⟨.d0, .d3, .d2⟩) (.exit 0) .skip))
 (.ops [⟨(some ⟨.d0, .d3, .d3⟩), none, .mv (.t ⟨.d0, .d0, .d0⟩)⟩,
  ⟨(some ⟨.d0, .d3, .d4⟩), none, .mv (.t ⟨.d0, .d0, .d0⟩)⟩,
  ⟨(some ⟨.d0, .d3, .d5⟩), none, .len .str (.t ⟨.d0, .d3, .d4⟩)⟩,
  ⟨(some ⟨.d0, .d3, .d6⟩), none, .mv (.t ⟨.d0, .d0, .d6⟩)⟩,
  ⟨(some ⟨.d0, .d3, .d7⟩), none, .bin .sub (.t ⟨.d0, .d3, .d5⟩) (.t ⟨.d0, .d3, .d6⟩)⟩,
  ⟨(some ⟨.d0, .d4, .d0⟩), none, .sliS (.t ⟨.d0, .d3, .d3⟩) none (some (.t ⟨.d0, .d3, .d7⟩))⟩,
  ⟨(some ⟨.d0, .d0, .d0⟩), none, .mv (.t ⟨.d0, .d4, .d0⟩)⟩]))))))))
 (.seq (.ops [⟨(some ⟨.d0, .d4, .d1⟩), none, .mv (.t ⟨.d0, .d0, .d0⟩)⟩,
  ⟨(some ⟨.d0, .d0, .d4⟩), none, .mv (.t ⟨.d0, .d4, .d1⟩)⟩])
 .ret)))
 [.tmp ⟨.d0, .d0, .d4⟩]
/-- unicode/utf8.RuneCountInString -/
def x71 : Ent := .code [⟨.d0, .d0, .d0⟩]
 (.seq (.ops [⟨(some ⟨.d0, .d0, .d2⟩), none, .mv (.c (.int .i64 (.ofNat 0)))⟩])
 (.seq (.seq (.ops [⟨(some ⟨.d0, .d0, .d3⟩), none, .mv (.t ⟨.d0, .d0, .d0⟩)⟩,
  ⟨(some ⟨.d0, .d0, .d4⟩), none, .rangeS (.t ⟨.d0, .d0, .d3⟩)⟩])
 (.block 0 (.loop (.seq (.ops [⟨(some ⟨.d0, .d0, .d5⟩), none, .nextS (.t ⟨.d0, .d0, .d4⟩)⟩,
  ⟨(some ⟨.d0, .d0, .d6⟩), none, .ext (.t ⟨.d0, .d0, .d5⟩) 0⟩])
 (.seq (.cond (.t ⟨.d0, .d0, .d6⟩) .skip (.exit 0))
 (.block 1 (.ops [⟨(some ⟨.d0, .d0, .d7⟩), none, .mv (.t ⟨.d0, .d0, .d2⟩)⟩,
  ⟨(some ⟨.d0, .d1, .d0⟩), none, .bin .add (.t ⟨.d0, .d0, .d7⟩) (.c (.int .i64 (.ofNat 1)))⟩,
  ⟨(some ⟨.d0, .d0, .d2⟩), none, .mv (.t ⟨.d0, .d1, .d0⟩)⟩])))))))
 (.seq (.ops [⟨(some ⟨.d0, .d1, .d1⟩), none, .mv (.t ⟨.d0, .d0, .d2⟩)⟩,
  ⟨(some ⟨.d0, .d0, .d2⟩), none, .mv (.t ⟨.d0, .d1, .d1⟩)⟩])
 .ret)))
 [.tmp ⟨.d0, .d0, .d2⟩]
/-- umlaut/like.sign -/
def x72 : Ent := .code [⟨.d0, .d0, .d0⟩]
 (.seq (.ops [⟨(some ⟨.d0, .d0, .d2⟩), none, .mv (.c (.int .i64 (.ofNat 0)))⟩,
  ⟨(some ⟨.d0, .d0, .d3⟩), none, .mv (.c (.bool false))⟩])
 (.seq (.ops [⟨(some ⟨.d0, .d0, .d5⟩), none, .mv (.t ⟨.d0, .d0, .d0⟩)⟩,
  ⟨(some ⟨.d0, .d0, .d6⟩), none, .callF ⟨.d1, .d1, .d1⟩ [(.t ⟨.d0, .d0, .d5⟩)]⟩,
  ⟨(some ⟨.d0, .d0, .d4⟩), none, .mv (.t ⟨.d0, .d0, .d6⟩)⟩])
 (.seq (.seq (.ops [⟨(some ⟨.d0, .d0, .d7⟩), none, .mv (.t ⟨.d0, .d0, .d4⟩)⟩,
  ⟨(some ⟨.d0, .d1, .d0⟩), none, .len .sli (.t ⟨.d0, .d0, .d7⟩)⟩,
  ⟨(some ⟨.d0, .d1, .d1⟩), none, .bin .neq (.t ⟨.d0, .d1, .d0⟩) (.c (.int .i64 (.ofNat 1)))⟩,
  ⟨(some ⟨.d0, .d1, .d2⟩), none, .mv (.t ⟨.d0, .d1, .d1⟩)⟩,
  ⟨(some ⟨.d0, .d1, .d3⟩), (some (⟨.d0, .d1, .d2⟩, false)), .mv (.t ⟨.d0, .d0, .d0⟩)⟩,
  ⟨(some ⟨.d0, .d1, .d4⟩), (some (⟨.d0, .d1, .d2⟩, false)), .callF ⟨.d1, .d2, .d5⟩ [(.t ⟨.d0, .d1, .d3⟩)]⟩,
  ⟨(some ⟨.d0, .d1, .d5⟩), (some (⟨.d0, .d1, .d2⟩, false)), .un .not (.t ⟨.d0, .d1, .d4⟩)⟩,
  ⟨(some ⟨.d0, .d1, .d6⟩), none, .pick (.t ⟨.d0, .d1, .d2⟩) (.c (.bool true)) (.t ⟨.d0, .d1, .d5⟩)⟩])
 (.cond (.t ⟨.d0, .d1, .d6⟩) (.seq (.ops [⟨(some ⟨.d0, .d0, .d2⟩), none, .mv (.c (.int .i64 (.ofNat 0)))⟩,
  ⟨(some ⟨.d0, .d0, .d3⟩), none, .mv (.c (.bool false))⟩])
 .ret) .skip))
 (.seq (.ops [⟨(some ⟨.d0, .d1, .d7⟩), none, .mv (.t ⟨.d0, .d0, .d4⟩)⟩,
  ⟨(some ⟨.d0, .d2, .d0⟩), none, .idxA none 1 (.t ⟨.d0, .d1, .d7⟩) (.c (.int .i64 (.ofNat 0)))⟩,
  ⟨(some ⟨.d0, .d2, .d1⟩), none, .load none (.t ⟨.d0, .d2, .d0⟩)⟩,
  ⟨(some ⟨.d0, .d0, .d2⟩), none, .mv (.t ⟨.d0, .d2, .d1⟩)⟩,
  ⟨(some ⟨.d0, .d0, .d3⟩), none, .mv (.c (.bool true))⟩])
 .ret))))
 [.tmp ⟨.d0, .d0, .d2⟩, .tmp ⟨.d0, .d0, .d3⟩]
/-- umlaut/utext.Signs -/
def x73 : Ent := .code [⟨.d0, .d0, .d0⟩]
 (.seq (.ops [⟨(some ⟨.d0, .d0, .d2⟩), none, .mv (.c .nils)⟩])
 (.seq (.ops [⟨(some ⟨.d0, .d0, .d3⟩), none, .mv (.c .nils)⟩])
 (.seq (.block 0 (.loop (.seq (.seq (.ops [⟨(some ⟨.d0, .d0, .d6⟩), none, .mv (.t ⟨.d0, .d0, .d0⟩)⟩,
  ⟨(some ⟨.d0, .d0, .d7⟩), none, .len .str (.t ⟨.d0, .d0, .d6⟩)⟩,
  ⟨(some ⟨.d0, .d1, .d0⟩), none, .bin .gtr (.t ⟨.d0, .d0, .d7⟩) (.c (.int .i64 (.ofNat 0)))⟩])
 (.cond (.t ⟨.d0, .d1, .d0⟩) .skip (.exit 0)))
 (.block 1 (.seq (.ops [⟨(some ⟨.d0, .d1, .d2⟩), none, .mv (.t ⟨.d0, .d0, .d0⟩)⟩,
  ⟨(some ⟨.d0, .d1, .d3⟩), none, .callF ⟨.d1, .d2, .d6⟩ [(.t ⟨.d0, .d1, .d2⟩)]⟩,
  ⟨(some ⟨.d0, .d1, .d1⟩), none, .mv (.t ⟨.d0, .d1, .d3⟩)⟩,
  ⟨(some ⟨.d0, .d1, .d4⟩), none, .ext (.t ⟨.d0, .d1, .d1⟩) 0⟩,
  ⟨(some ⟨.d0, .d1, .d5⟩), none, .ext (.t ⟨.d0, .d1, .d1⟩) 1⟩,
  ⟨(some ⟨.d0, .d0, .d4⟩), none, .mv (.t ⟨.d0, .d1, .d4⟩)⟩,
  ⟨(some ⟨.d0, .d0, .d5⟩), none, .mv (.t ⟨.d0, .d1, .d5⟩)⟩])
 (.seq (.ops [⟨(some ⟨.d0, .d1, .d6⟩), none, .mv (.t ⟨.d0, .d0, .d3⟩)⟩,
  ⟨(some ⟨.d0, .d1, .d7⟩), none, .mv (.t ⟨.d0, .d0, .d4⟩)⟩,
  ⟨(some ⟨.d0, .d2, .d0⟩), none, .buildS none 1 1 [(.int .i64 (.ofNat 0))] [(0, 1, (.t ⟨.d0, .d1, .d7⟩))]⟩,
  ⟨(some ⟨.d0, .d2, .d1⟩), none, .app 1 8 (.t ⟨.d0, .d1, .d6⟩) (.t ⟨.d0, .d2, .d0⟩)⟩,
  ⟨(some ⟨.d0, .d0, .d3⟩), none, .mv (.t ⟨.d0, .d2, .d1⟩)⟩])
 (.ops [⟨(some ⟨.d0, .d2, .d2⟩), none, .mv (.t ⟨.d0, .d0, .d0⟩)⟩,
  ⟨(some ⟨.d0, .d2, .d3⟩), none, .mv (.t ⟨.d0, .d0, .d5⟩)⟩,
  ⟨(some ⟨.d0, .d2, .d4⟩), none, .sliS (.t ⟨.d0, .d2, .d2⟩) (some (.t ⟨.d0, .d2, .d3⟩)) none⟩,
  ⟨(some ⟨.d0, .d0, .d0⟩), none, .mv (.t ⟨.d0, .d2, .d4⟩)⟩])))))))
 (.seq (.ops [⟨(some ⟨.d0, .d2, .d5⟩), none, .mv (.t ⟨.d0, .d0, .d3⟩)⟩,
  ⟨(some ⟨.d0, .d2, .d6⟩), none, .callF ⟨.d1, .d2, .d7⟩ [(.t ⟨.d0, .d2, .d5⟩)]⟩,
  ⟨(some ⟨.d0, .d0, .d2⟩), none, .mv (.t ⟨.d0, .d2, .d6⟩)⟩])
 .ret))))
 [.tmp ⟨.d0, .d0, .d2⟩]
/-- unicode/utf8.AppendRune -/
def x81 : Ent := .code [⟨.d0, .d0, .d0⟩, ⟨.d0, .d0, .d1⟩]
 (.seq (.ops [⟨(some ⟨.d0, .d0, .d4⟩), none, .mv (.c .nils)⟩])
 (.seq (.seq (.ops [⟨(some ⟨.d0, .d0, .d5⟩), none, .mv (.t ⟨.d0, .d0, .d1⟩)⟩,
  ⟨(some ⟨.d0, .d0, .d6⟩), none, .convI .u32 (.t ⟨.d0, .d0, .d5⟩)⟩,
  ⟨(some ⟨.d0, .d0, .d7⟩), none, .bin .leq (.t ⟨.d0, .d0, .d6⟩) (.c (.int .u32 (.ofNat 127)))⟩])
 (.cond (.t ⟨.d0, .d0, .d7⟩) (.seq (.ops [⟨(some ⟨.d0, .d1, .d0⟩), none, .mv (.t ⟨.d0, .d0, .d0⟩)⟩,
  ⟨(some ⟨.d0, .d1, .d1⟩), none, .mv (.t ⟨.d0, .d0, .d1⟩)⟩,
  ⟨(some ⟨.d0, .d1, .d2⟩), none, .convI .u8 (.t ⟨.d0, .d1, .d1⟩)⟩,
  ⟨(some ⟨.d0, .d1, .d3⟩), none, .buildS none 1 1 [(.int .u8 (.ofNat 0))] [(0, 1, (.t ⟨.d0, .d1, .d2⟩))]⟩,
  ⟨(some ⟨.d0, .d1, .d4⟩), none, .app 1 1 (.t ⟨.d0, .d1, .d0⟩) (.t ⟨.d0, .d1, .d3⟩)⟩,
  ⟨(some ⟨.d0, .d0, .d4⟩), none, .mv (.t ⟨.d0, .d1, .d4⟩)⟩])
 .ret) .skip))
 (.seq (.ops [⟨(some ⟨.d0, .d1, .d5⟩), none, .mv (.t ⟨.d0, .d0, .d0⟩)⟩,
  ⟨(some ⟨.d0, .d1, .d6⟩), none, .mv (.t ⟨.d0, .d0, .d1⟩)⟩,
  ⟨(some ⟨.d0, .d1, .d7⟩), none, .callF ⟨.d1, .d4, .d5⟩ [(.t ⟨.d0, .d1, .d5⟩), (.t ⟨.d0, .d1, .d6⟩)]⟩,
  ⟨(some ⟨.d0, .d0, .d4⟩), none, .mv (.t ⟨.d0, .d1, .d7⟩)⟩])
 .ret)))
 [.tmp ⟨.d0, .d0, .d4⟩]
/-- (*strings.asciiSet).contains -/
def x82 : Ent := .code [⟨.d0, .d0, .d0⟩, ⟨.d0, .d0, .d1⟩]
 (.seq (.ops [⟨(some ⟨.d0, .d0, .d4⟩), none, .mv (.c (.bool false))⟩])
 (.seq (.ops [⟨(some ⟨.d0, .d0, .d5⟩), none, .mv (.t ⟨.d0, .d0, .d0⟩)⟩,
  ⟨(some ⟨.d0, .d0, .d6⟩), none, .mv (.t ⟨.d0, .d0, .d1⟩)⟩,
  ⟨(some ⟨.d0, .d0, .d7⟩), none, .nilck (.t ⟨.d0, .d0, .d5⟩)⟩,
  ⟨(some ⟨.d0, .d1, .d0⟩), none, .idxA (some 256) 1 (.t ⟨.d0, .d0, .d7⟩) (.t ⟨.d0, .d0, .d6⟩)⟩,
  ⟨(some ⟨.d0, .d1, .d1⟩), none, .load none (.t ⟨.d0, .d1, .d0⟩)⟩,
  ⟨(some ⟨.d0, .d0, .d4⟩), none, .mv (.t ⟨.d0, .d1, .d1⟩)⟩])
 .ret))
 [.tmp ⟨.d0, .d0, .d4⟩]
/-- strings.ContainsRune -/
def x83 : Ent := .code [⟨.d0, .d0, .d0⟩, ⟨.d0, .d0, .d1⟩]
 (.seq (.ops [⟨(some ⟨.d0, .d0, .d4⟩), none, .mv (.c (.bool false))⟩])
 (.seq (.ops [⟨(some ⟨.d0, .d0, .d5⟩), none, .mv (.t ⟨.d0, .d0, .d0⟩)⟩,
  ⟨(some ⟨.d0, .d0, .d6⟩), none, .mv (.t ⟨.d0, .d0, .d1⟩)⟩,
  ⟨(some ⟨.d0, .d0, .d7⟩), none, .callF ⟨.d1, .d4, .d6⟩ [(.t ⟨.d0, .d0, .d5⟩), (.t ⟨.d0, .d0, .d6⟩)]⟩,
  ⟨(some ⟨.d0, .d1, .d0⟩), none, .bin .geq (.t ⟨.d0, .d0, .d7⟩) (.c (.int .i64 (.ofNat 0)))⟩,
  ⟨(some ⟨.d0, .d0, .d4⟩), none, .mv (.t ⟨.d0, .d1, .d0⟩)⟩])
 .ret))
 [.tmp ⟨.d0, .d0, .d4⟩]
/-- unicode/utf8.DecodeLastRuneInString -/
def x84 : Ent := .code [⟨.d0, .d0, .d0⟩]
 (.seq (.ops [⟨(some ⟨.d0, .d0, .d2⟩), none, .mv (.c (.int .i32 (.ofNat 0)))⟩,
  ⟨(some ⟨.d0, .d0, .d3⟩), none, .mv (.c (.int .i64 (.ofNat 0)))⟩])
 (.seq (.ops [⟨(some ⟨.d0, .d0, .d7⟩), none, .mv (.t ⟨.d0, .d0, .d0⟩)⟩,
  ⟨(some ⟨.d0, .d1, .d0⟩), none, .len .str (.t ⟨.d0, .d0, .d7⟩)⟩,
  ⟨(some ⟨.d0, .d0, .d4⟩), none, .mv (.t ⟨.d0, .d1, .d0⟩)⟩])
 (.seq (.seq (.ops [⟨(some ⟨.d0, .d1, .d1⟩), none, .mv (.t ⟨.d0, .d0, .d4⟩)⟩,
  ⟨(some ⟨.d0, .d1, .d2⟩), none, .bin .eql (.t ⟨.d0, .d1, .d1⟩) (.c (.int .i64 (.ofNat 0)))⟩])
 (.cond (.t ⟨.d0, .d1, .d2⟩) (.seq (.ops [⟨(some ⟨.d0, .d0, .d2⟩), none, .mv (.c (.int .i32 (.ofNat 65533)))⟩,
  ⟨(some ⟨.d0, .d0, .d3⟩), none, .mv (.c (.int .i64 (.ofNat 0)))⟩])
 .ret) .skip))
 (.seq (.ops [⟨(some ⟨.d0, .d1, .d3⟩), none, .mv (.t ⟨.d0, .d0, .d4⟩)⟩,
  ⟨(some ⟨.d0, .d1, .d4⟩), none, .bin .sub (.t ⟨.d0, .d1, .d3⟩) (.c (.int .i64 (.ofNat 1)))⟩,
  ⟨(some ⟨.d0, .d0, .d5⟩), none, .mv (.t ⟨.d0, .d1, .d4⟩)⟩])
 (.seq (.ops [⟨(some ⟨.d0, .d1, .d5⟩), none, .mv (.t ⟨.d0, .d0, .d0⟩)⟩,
  ⟨(some ⟨.d0, .d1, .d6⟩), none, .mv (.t ⟨.d0, .d0, .d5⟩)⟩,
  ⟨(some ⟨.d0, .d1, .d7⟩), none, .idxS (.t ⟨.d0, .d1, .d5⟩) (.t ⟨.d0, .d1, .d6⟩)⟩,
  ⟨(some ⟨.d0, .d2, .d0⟩), none, .convI .i32 (.t ⟨.d0, .d1, .d7⟩)⟩,
  ⟨(some ⟨.d0, .d0, .d2⟩), none, .mv (.t ⟨.d0, .d2, .d0⟩)⟩])
 (.seq (.seq (.ops [⟨(some ⟨.d0, .d2, .d1⟩), none, .mv (.t ⟨.d0, .d0, .d2⟩)⟩,
  ⟨(some ⟨.d0, .d2, .d2⟩), none, .bin .lss (.t ⟨.d0, .d2, .d1⟩) (.c (.int .i32 (.ofNat 128)))⟩])
 (.cond (.t ⟨.d0, .d2, .d2⟩) (.seq (.ops [⟨(some ⟨.d0, .d2, .d3⟩), none, .mv (.t ⟨.d0, .d0, .d2⟩)⟩,
  ⟨(some ⟨.d0, .d0, .d2⟩), none, .mv (.t ⟨.d0, .d2, .d3⟩)⟩,
  ⟨(some ⟨.d0, .d0, .d3⟩), none, .mv (.c (.int .i64 (.ofNat 1)))⟩])
 .ret) .skip))
 (.seq (.ops [⟨(some ⟨.d0, .d2, .d4⟩), none, .mv (.t ⟨.d0, .d0, .d4⟩)⟩,
  ⟨(some ⟨.d0, .d2, .d5⟩), none, .bin .sub (.t ⟨.d0, .d2, .d4⟩) (.c (.int .i64 (.ofNat 4)))⟩,
  ⟨(some ⟨.d0, .d2, .d6⟩), none, .max2 (.t ⟨.d0, .d2, .d5⟩) (.c (.int .i64 (.ofNat 0)))⟩,
  ⟨(some ⟨.d0, .d0, .d6⟩), none, .mv (.t ⟨.d0, .d2, .d6⟩)⟩])
 (.seq (.seq (.ops [⟨(some ⟨.d0, .d2, .d7⟩), none, .mv (.t ⟨.d0, .d0, .d5⟩)⟩,
  ⟨(some ⟨.d0, .d3, .d0⟩), none, .bin .sub (.t ⟨.d0, .d2, .d7⟩) (.c (.int .i64 (.ofNat 1)))⟩,
  ⟨(some ⟨.d0, .d0, .d5⟩), none, .mv (.t ⟨.d0, .d3, .d0⟩)⟩])
 (.block 0 (.loop (.seq (.seq (.ops [⟨(some ⟨.d0, .d3, .d1⟩), none, .mv (.t ⟨.d0, .d0, .d5⟩)⟩,
  ⟨(some ⟨.d0, .d3, .d2⟩), none, .mv (.t ⟨.d0, .d0, .d6⟩)⟩,
  ⟨(some ⟨.d0, .d3, .d3⟩), none, .bin .geq (.t ⟨.d0, .d3, .d1⟩) (.t ⟨.d0, .d3, .d2⟩)⟩])
 (.cond (.t ⟨.d0, .d3, .d3⟩) .skip (.exit 0)))
 (.seq (.block 1 (.seq (.ops [⟨(some ⟨.d0, .d3, .d6⟩), none, .mv (.t ⟨.d0, .d0, .d0⟩)⟩,
  ⟨(some ⟨.d0, .d3, .d7⟩), none, .mv (.t ⟨.d0, .d0, .d5⟩)⟩,
  ⟨(some ⟨.d0, .d4, .d0⟩), none, .idxS (.t ⟨.d0, .d3, .d6⟩) (.t ⟨.d0, .d3, .d7⟩)⟩,
  ⟨(some ⟨.d0, .d4, .d1⟩), none, .callF ⟨.d1, .d4, .d7⟩ [(.t ⟨.d0, .d4, .d0⟩)]⟩])
 (.cond (.t ⟨.d0, .d4, .d1⟩) (.exit 0) .skip)))
 (.ops [⟨(some ⟨.d0, .d3, .d4⟩), none, .mv (.t ⟨.d0, .d0, .d5⟩)⟩,
  ⟨(some ⟨.d0, .d3, .d5⟩), none, .bin .sub (.t ⟨.d0, .d3, .d4⟩) (.c (.int .i64 (.ofNat 1)))⟩,
  ⟨(some ⟨.d0, .d0, .d5⟩), none, .mv (.t ⟨.d0, .d3, .d5⟩)⟩]))))))
 (.seq (.seq (.ops [⟨(some ⟨.d0, .d4, .d2⟩), none, .mv (.t ⟨.d0, .d0, .d5⟩)⟩,
  ⟨(some ⟨.d0, .d4, .d3⟩), none, .bin .lss (.t ⟨.d0, .d4, .d2⟩) (.c (.int .i64 (.ofNat 0)))⟩])
 (.cond (.t ⟨.d0, .d4, .d3⟩) (.ops [⟨(some ⟨.d0, .d0, .d5⟩), none, .mv (.c (.int .i64 (.ofNat 0)))⟩]) .skip))
 (.seq (.ops [⟨(some ⟨.d0, .d4, .d5⟩), none, .mv (.t ⟨.d0, .d0, .d0⟩)⟩,
  ⟨(some ⟨.d0, .d4, .d6⟩), none, .mv (.t ⟨.d0, .d0, .d5⟩)⟩,
  ⟨(some ⟨.d0, .d4, .d7⟩), none, .mv (.t ⟨.d0, .d0, .d4⟩)⟩,
  ⟨(some ⟨.d0, .d5, .d0⟩), none, .sliS (.t ⟨.d0, .d4, .d5⟩) (some (.t ⟨.d0, .d4, .d6⟩)) (some (.t ⟨.d0, .d4, .d7⟩))⟩,
  ⟨(some ⟨.d0, .d5, .d1⟩), none, .callF ⟨.d0, .d7, .d0⟩ [(.t ⟨.d0, .d5, .d0⟩)]⟩,
  ⟨(some ⟨.d0, .d4, .d4⟩), none, .mv (.t ⟨.d0, .d5, .d1⟩)⟩,
  ⟨(some ⟨.d0, .d5, .d2⟩), none, .ext (.t ⟨.d0, .d4, .d4⟩) 0⟩,
  ⟨(some ⟨.d0, .d5, .d3⟩), none, .ext (.t ⟨.d0, .d4, .d4⟩) 1⟩,
  ⟨(some ⟨.d0, .d0, .d2⟩), none, .mv (.t ⟨.d0, .d5, .d2⟩)⟩,
  ⟨(some ⟨.d0, .d0, .d3⟩), none, .mv (.t ⟨.d0, .d5, .d3⟩)⟩])
 (.seq (.seq (.ops [⟨(some ⟨.d0, .d5, .d4⟩), none, .mv (.t ⟨.d0, .d0, .d5⟩)⟩,
  ⟨(some ⟨.d0, .d5, .d5⟩), none, .mv (.t ⟨.d0, .d0, .d3⟩)⟩,
  ⟨(some ⟨.d0, .d5, .d6⟩), none, .bin .add (.t ⟨.d0, .d5, .d4⟩) (.t ⟨.d0, .d5, .d5⟩)⟩,
  ⟨(some ⟨.d0, .d5, .d7⟩), none, .mv (.t ⟨.d0, .d0, .d4⟩)⟩,
  ⟨(some ⟨.d0, .d6, .d0⟩), none, .bin .neq (.t ⟨.d0, .d5, .d6⟩) (.t ⟨.d0, .d5, .d7⟩)⟩])
 (.cond (.t ⟨.d0, .d6, .d0⟩) (.seq (.ops [⟨(some ⟨.d0, .d0, .d2⟩), none, .mv (.c (.int .i32 (.ofNat 65533)))⟩,
  ⟨(some ⟨.d0, .d0, .d3⟩), none, .mv (.c (.int .i64 (.ofNat 1)))⟩])
 .ret) .skip))
 (.seq (.ops [⟨(some ⟨.d0, .d6, .d1⟩), none, .mv (.t ⟨.d0, .d0, .d2⟩)⟩,
  ⟨(some ⟨.d0, .d6, .d2⟩), none, .mv (.t ⟨.d0, .d0, .d3⟩)⟩,
  ⟨(some ⟨.d0, .d0, .d2⟩), none, .mv (.t ⟨.d0, .d6, .d1⟩)⟩,
  ⟨(some ⟨.d0, .d0, .d3⟩), none, .mv (.t ⟨.d0, .d6, .d2⟩)⟩])
 .ret))))))))))))
 [.tmp ⟨.d0, .d0, .d2⟩, .tmp ⟨.d0, .d0, .d3⟩]
/-- umlaut/utext.Valid -/
def x85 : Ent := .code [⟨.d0, .d0, .d0⟩]
 (.seq (.ops [⟨(some ⟨.d0, .d0, .d2⟩), none, .mv (.c (.bool false))⟩])
 (.seq (.ops [⟨(some ⟨.d0, .d0, .d3⟩), none, .mv (.t ⟨.d0, .d0, .d0⟩)⟩,
  ⟨(some ⟨.d0, .d0, .d4⟩), none, .callF ⟨.d1, .d5, .d0⟩ [(.t ⟨.d0, .d0, .d3⟩)]⟩,
  ⟨(some ⟨.d0, .d0, .d2⟩), none, .mv (.t ⟨.d0, .d0, .d4⟩)⟩])
 .ret))
 [.tmp ⟨.d0, .d0, .d2⟩]
/-- umlaut/utext.sign -/
def x86 : Ent := .code [⟨.d0, .d0, .d0⟩]
 (.seq (.ops [⟨(some ⟨.d0, .d0, .d2⟩), none, .mv (.c (.int .i64 (.ofNat 0)))⟩,
  ⟨(some ⟨.d0, .d0, .d3⟩), none, .mv (.c (.int .i64 (.ofNat 0)))⟩])
 (.seq (.ops [⟨(some ⟨.d0, .d0, .d6⟩), none, .mv (.t ⟨.d0, .d0, .d0⟩)⟩,
  ⟨(some ⟨.d0, .d0, .d7⟩), none, .callF ⟨.d0, .d7, .d0⟩ [(.t ⟨.d0, .d0, .d6⟩)]⟩,
  ⟨(some ⟨.d0, .d0, .d5⟩), none, .mv (.t ⟨.d0, .d0, .d7⟩)⟩,
  ⟨(some ⟨.d0, .d1, .d0⟩), none, .ext (.t ⟨.d0, .d0, .d5⟩) 0⟩,
  ⟨(some ⟨.d0, .d1, .d1⟩), none, .ext (.t ⟨.d0, .d0, .d5⟩) 1⟩,
  ⟨(some ⟨.d0, .d0, .d4⟩), none, .mv (.t ⟨.d0, .d1, .d0⟩)⟩,
  ⟨(some ⟨.d0, .d0, .d3⟩), none, .mv (.t ⟨.d0, .d1, .d1⟩)⟩])
 (.seq (.seq (.ops [⟨(some ⟨.d0, .d1, .d2⟩), none, .mv (.t ⟨.d0, .d0, .d4⟩)⟩,
  ⟨(some ⟨.d0, .d1, .d3⟩), none, .bin .eql (.t ⟨.d0, .d1, .d2⟩) (.c (.int .i32 (.ofNat 65533)))⟩,
  ⟨(some ⟨.d0, .d1, .d4⟩), none, .mv (.t ⟨.d0, .d1, .d3⟩)⟩,
  ⟨(some ⟨.d0, .d1, .d5⟩), (some (⟨.d0, .d1, .d4⟩, true)), .mv (.t ⟨.d0, .d0, .d3⟩)⟩,
  ⟨(some ⟨.d0, .d1, .d6⟩), (some (⟨.d0, .d1, .d4⟩, true)), .bin .eql (.t ⟨.d0, .d1, .d5⟩) (.c (.int .i64 (.ofNat 1)))⟩,
  ⟨(some ⟨.d0, .d1, .d7⟩), none, .pick (.t ⟨.d0, .d1, .d4⟩) (.t ⟨.d0, .d1, .d6⟩) (.c (.bool false))⟩])
 (.cond (.t ⟨.d0, .d1, .d7⟩) (.seq (.ops [⟨(some ⟨.d0, .d2, .d0⟩), none, .mv (.t ⟨.d0, .d0, .d0⟩)⟩,
  ⟨(some ⟨.d0, .d2, .d1⟩), none, .idxS (.t ⟨.d0, .d2, .d0⟩) (.c (.int .i64 (.ofNat 0)))⟩,
  ⟨(some ⟨.d0, .d2, .d2⟩), none, .convI .i64 (.t ⟨.d0, .d2, .d1⟩)⟩,
  ⟨(some ⟨.d0, .d2, .d3⟩), none, .bin .add (.c (.int .i64 (.ofNat 1114112))) (.t ⟨.d0, .d2, .d2⟩)⟩,
  ⟨(some ⟨.d0, .d0, .d2⟩), none, .mv (.t ⟨.d0, .d2, .d3⟩)⟩,
  ⟨(some ⟨.d0, .d0, .d3⟩), none, .mv (.c (.int .i64 (.ofNat 1)))⟩])
 .ret) .skip))
 (.seq (.ops [⟨(some ⟨.d0, .d2, .d4⟩), none, .mv (.t ⟨.d0, .d0, .d4⟩)⟩,
  ⟨(some ⟨.d0, .d2, .d5⟩), none, .convI .i64 (.t ⟨.d0, .d2, .d4⟩)⟩,
  ⟨(some ⟨.d0, .d2, .d6⟩), none, .mv (.t ⟨.d0, .d0, .d3⟩)⟩,
  ⟨(some ⟨.d0, .d0, .d2⟩), none, .mv (.t ⟨.d0, .d2, .d5⟩)⟩,
  ⟨(some ⟨.d0, .d0, .d3⟩), none, .mv (.t ⟨.d0, .d2, .d6⟩)⟩])
 .ret))))
 [.tmp ⟨.d0, .d0, .d2⟩, .tmp ⟨.d0, .d0, .d3⟩]
/-- slices.Clip[[]int,int] -/
def x87 : Ent := .code [⟨.d0, .d0, .d0⟩]
 (.seq (.ops [⟨(some ⟨.d0, .d0, .d2⟩), none, .mv (.c .nils)⟩])
 (.seq (.ops [⟨(some ⟨.d0, .d0, .d3⟩), none, .mv (.t ⟨.d0, .d0, .d0⟩)⟩,
  ⟨(some ⟨.d0, .d0, .d4⟩), none, .mv (.t ⟨.d0, .d0, .d0⟩)⟩,
  ⟨(some ⟨.d0, .d0, .d5⟩), none, .len .sli (.t ⟨.d0, .d0, .d4⟩)⟩,
  ⟨(some ⟨.d0, .d0, .d6⟩), none, .mv (.t ⟨.d0, .d0, .d0⟩)⟩,
  ⟨(some ⟨.d0, .d0, .d7⟩), none, .len .sli (.t ⟨.d0, .d0, .d6⟩)⟩,
  ⟨(some ⟨.d0, .d1, .d0⟩), none, .sliL 1 (.t ⟨.d0, .d0, .d3⟩) none (some (.t ⟨.d0, .d0, .d5⟩)) (some (.t ⟨.d0, .d0, .d7⟩))⟩,
  ⟨(some ⟨.d0, .d0, .d2⟩), none, .mv (.t ⟨.d0, .d1, .d0⟩)⟩])
 .ret))
 [.tmp ⟨.d0, .d0, .d2⟩]
/-- unicode/utf8.appendRuneNonASCII -/
def x101 : Ent := .code [⟨.d0, .d0, .d0⟩, ⟨.d0, .d0, .d1⟩]
 (.seq (.ops [⟨(some ⟨.d0, .d0, .d4⟩), none, .mv (.c .nils)⟩])
 (.seq (.ops [⟨(some ⟨.d0, .d0, .d6⟩), none, .mv (.t ⟨.d0, .d0, .d1⟩)⟩,
  ⟨(some ⟨.d0, .d0, .d7⟩), none, .convI .u32 (.t ⟨.d0, .d0, .d6⟩)⟩,
  ⟨(some ⟨.d0, .d0, .d5⟩), none, .mv (.t ⟨.d0, .d0, .d7⟩)⟩])
 (.block 0 (.seq (.ops [⟨(some ⟨.d0, .d1, .d4⟩), none, .mv (.t ⟨.d0, .d0, .d5⟩)⟩,
  ⟨(some ⟨.d0, .d1, .d5⟩), none, .bin .leq (.t ⟨.d0, .d1, .d4⟩) (.c (.int .u32 (.ofNat 2047)))⟩,
  ⟨(some ⟨.d0, .d1, .d3⟩), none, .mv (.t ⟨.d0, .d1, .d5⟩)⟩])
 (.cond (.t ⟨.d0, .d1, .d3⟩) (.seq (.ops [⟨(some ⟨.d0, .d1, .d6⟩), none, .mv (.t ⟨.d0, .d0, .d0⟩)⟩,
  ⟨(some ⟨.d0, .d1, .d7⟩), none, .mv (.t ⟨.d0, .d0, .d1⟩)⟩,
  ⟨(some ⟨.d0, .d2, .d0⟩), none, .bin .shr (.t ⟨.d0, .d1, .d7⟩) (.c (.int .u64 (.ofNat 6)))⟩,
  ⟨(some ⟨.d0, .d2, .d1⟩), none, .convI .u8 (.t ⟨.d0, .d2, .d0⟩)⟩,
  ⟨(some ⟨.d0, .d2, .d2⟩), none, .bin .or (.c (.int .u8 (.ofNat 192))) (.t ⟨.d0, .d2, .d1⟩)⟩,
  ⟨(some ⟨.d0, .d2, .d3⟩), none, .mv (.t ⟨.d0, .d0, .d1⟩)⟩,
  ⟨(some ⟨.d0, .d2, .d4⟩), none, .convI .u8 (.t ⟨.d0, .d2, .d3⟩)⟩,
  ⟨(some ⟨.d0, .d2, .d5⟩), none, .bin .and (.t ⟨.d0, .d2, .d4⟩) (.c (.int .u8 (.ofNat 63)))⟩,
  ⟨(some ⟨.d0, .d2, .d6⟩), none, .bin .or (.c (.int .u8 (.ofNat 128))) (.t ⟨.d0, .d2, .d5⟩)⟩,
  ⟨(some ⟨.d0, .d2, .d7⟩), none, .buildS none 1 2 [(.int .u8 (.ofNat 0)), (.int .u8 (.ofNat 0))] [(0, 1, (.t ⟨.d0, .d2, .d2⟩)), (1, 1, (.t ⟨.d0, .d2, .d6⟩))]⟩,
  ⟨(some ⟨.d0, .d3, .d0⟩), none, .app 1 1 (.t ⟨.d0, .d1, .d6⟩) (.t ⟨.d0, .d2, .d7⟩)⟩,
  ⟨(some ⟨.d0, .d0, .d4⟩), none, .mv (.t ⟨.d0, .d3, .d0⟩)⟩])
 .ret) (.seq (.seq (.ops [⟨(some ⟨.d0, .d3, .d2⟩), none, .mv (.t ⟨.d0, .d0, .d5⟩)⟩,
  ⟨(some ⟨.d0, .d3, .d3⟩), none, .bin .lss (.t ⟨.d0, .d3, .d2⟩) (.c (.int .u32 (.ofNat 55296)))⟩,
  ⟨(some ⟨.d0, .d3, .d1⟩), none, .mv (.t ⟨.d0, .d3, .d3⟩)⟩])
 (.cond (.t ⟨.d0, .d3, .d1⟩) .skip (.ops [⟨(some ⟨.d0, .d3, .d4⟩), none, .mv (.t ⟨.d0, .d0, .d5⟩)⟩,
  ⟨(some ⟨.d0, .d3, .d5⟩), none, .bin .lss (.c (.int .u32 (.ofNat 57343))) (.t ⟨.d0, .d3, .d4⟩)⟩,
  ⟨(some ⟨.d0, .d3, .d6⟩), none, .mv (.t ⟨.d0, .d3, .d5⟩)⟩,
  ⟨(some ⟨.d0, .d3, .d7⟩), (some (⟨.d0, .d3, .d6⟩, true)), .mv (.t ⟨.d0, .d0, .d5⟩)⟩,
  ⟨(some ⟨.d0, .d4, .d0⟩), (some (⟨.d0, .d3, .d6⟩, true)), .bin .leq (.t ⟨.d0, .d3, .d7⟩) (.c (.int .u32 (.ofNat 65535)))⟩,
  ⟨(some ⟨.d0, .d4, .d1⟩), none, .pick (.t ⟨.d0, .d3, .d6⟩) (.t ⟨.d0, .d4, .d0⟩) (.c (.bool false))⟩,
  ⟨(some ⟨.d0, .d3, .d1⟩), none, .mv (.t ⟨.d0, .d4, .d1⟩)⟩])))
 (.cond (.t ⟨.d0, .d3, .d1⟩) (.seq (.ops [⟨(some ⟨.d0, .d4, .d2⟩), none, .mv (.t ⟨.d0, .d0, .d0⟩)⟩,
  ⟨(some ⟨.d0, .d4, .d3⟩), none, .mv (.t ⟨.d0, .d0, .d1⟩)⟩,
  ⟨(some ⟨.d0, .d4, .d4⟩), none, .bin .shr (.t ⟨.d0, .d4, .d3⟩) (.c (.int .u64 (.ofNat 12)))⟩,
  ⟨(some ⟨.d0, .d4, .d5⟩), none, .convI .u8 (.t ⟨.d0, .d4, .d4⟩)⟩,
  ⟨(some ⟨.d0, .d4, .d6⟩), none, .bin .or (.c (.int .u8 (.ofNat 224))) (.t ⟨.d0, .d4, .d5⟩)⟩,
  ⟨(some ⟨.d0, .d4, .d7⟩), none, .mv (.t ⟨.d0, .d0, .d1⟩)⟩,
  ⟨(some ⟨.d0, .d5, .d0⟩), none, .bin .shr (.t ⟨.d0, .d4, .d7⟩) (.c (.int .u64 (.ofNat 6)))⟩,
  ⟨(some ⟨.d0, .d5, .d1⟩), none, .convI .u8 (.t ⟨.d0, .d5, .d0⟩)⟩,
  ⟨(some ⟨.d0, .d5, .d2⟩), none, .bin .and (.t ⟨.d0, .d5, .d1⟩) (.c (.int .u8 (.ofNat 63)))⟩,
  ⟨(some ⟨.d0, .d5, .d3⟩), none, .bin .or (.c (.int .u8 (.ofNat 128))) (.t ⟨.d0, .d5, .d2⟩)⟩,
  ⟨(some ⟨.d0, .d5, .d4⟩), none, .mv (.t ⟨.d0, .d0, .d1⟩)⟩,
  ⟨(some ⟨.d0, .d5, .d5⟩), none, .convI .u8 (.t ⟨.d0, .d5, .d4⟩)⟩,
  ⟨(some ⟨.d0, .d5, .d6⟩), none, .bin .and (.t ⟨.d0, .d5, .d5⟩) (.c (.int .u8 (.ofNat 63)))⟩,
  ⟨(some ⟨.d0, .d5, .d7⟩), none, .bin .or (.c (.int .u8 (.ofNat 128))) (.t ⟨.d0, .d5, .d6⟩)⟩,
  ⟨(some ⟨.d0, .d6, .d0⟩), none, .buildS none 1 3 [(.int .u8 (.ofNat 0)), (.int .u8 (.ofNat 0)), (.int .u8 (.ofNat 0))] [(0, 1, (.t ⟨.d0, .d4, .d6⟩)), (1, 1, (.t ⟨.d0, .d5, .d3⟩)), (2, 1, (.t ⟨.d0, .d5, .d7⟩))]⟩,
  ⟨(some ⟨.d0, .d6, .d1⟩), none, .app 1 1 (.t ⟨.d0, .d4, .d2⟩) (.t ⟨.d0, .d6, .d0⟩)⟩,
  ⟨(some ⟨.d0, .d0, .d4⟩), none, .mv (.t ⟨.d0, .d6, .d1⟩)⟩])
 .ret) (.seq (.ops [⟨(some ⟨.d0, .d6, .d3⟩), none, .mv (.t ⟨.d0, .d0, .d5⟩)⟩,
  ⟨(some ⟨.d0, .d6, .d4⟩), none, .bin .gtr (.t ⟨.d0, .d6, .d3⟩) (.c (.int .u32 (.ofNat 65535)))⟩,
  ⟨(some ⟨.d0, .d6, .d5⟩), none, .mv (.t ⟨.d0, .d6, .d4⟩)⟩,
  ⟨(some ⟨.d0, .d6, .d6⟩), (some (⟨.d0, .d6, .d5⟩, true)), .mv (.t ⟨.d0, .d0, .d5⟩)⟩,
  ⟨(some ⟨.d0, .d6, .d7⟩), (some (⟨.d0, .d6, .d5⟩, true)), .bin .leq (.t ⟨.d0, .d6, .d6⟩) (.c (.int .u32 (.ofNat 1114111)))⟩,
  ⟨(some ⟨.d0, .d7, .d0⟩), none, .pick (.t ⟨.d0, .d6, .d5⟩) (.t ⟨.d0, .d6, .d7⟩) (.c (.bool false))⟩,
  ⟨(some ⟨.d0, .d6, .d2⟩), none, .mv (.t ⟨.d0, .d7, .d0⟩)⟩])
 (.cond (.t ⟨.d0, .d6, .d2⟩) (.seq (.ops [⟨(some ⟨.d0, .d7, .d1⟩), none, .mv (.t ⟨.d0, .d0, .d0⟩)⟩,
  ⟨(some ⟨.d0, .d7, .d2⟩), none, .mv (.t ⟨.d0, .d0, .d1⟩)⟩,
  ⟨(some ⟨.d0, .d7, .d3⟩), none, .bin .shr (.t ⟨.d0, .d7, .d2⟩) (.c (.int .u64 (.ofNat 18)))⟩,
  ⟨(some ⟨.d0, .d7, .d4⟩), none, .convI .u8 (.t ⟨.d0, .d7, .d3⟩)⟩,
  ⟨(some ⟨.d0, .d7, .d5⟩), none, .bin .or (.c (.int .u8 (.ofNat 240))) (.t ⟨.d0, .d7, .d4⟩)⟩,
  ⟨(some ⟨.d0, .d7, .d6⟩), none, .mv (.t ⟨.d0, .d0, .d1⟩)⟩,
  ⟨(some ⟨.d0, .d7, .d7⟩), none, .bin .shr (.t ⟨.d0, .d7, .d6⟩) (.c (.int .u64 (.ofNat 12)))⟩,
  ⟨(some ⟨.d1, .d0, .d0⟩), none, .convI .u8 (.t ⟨.d0, .d7, .d7⟩)⟩,
  ⟨(some ⟨.d1, .d0, .d1⟩), none, .bin .and (.t ⟨.d1, .d0, .d0⟩) (.c (.int .u8 (.ofNat 63)))⟩,
  ⟨(some ⟨.d1, .d0, .d2⟩), none, .bin .or (.c (.int .u8 (.ofNat 128))) (.t ⟨.d1, .d0, .d1⟩)⟩,
  ⟨(some ⟨.d1, .d0, .d3⟩), none, .mv (.t ⟨.d0, .d0, .d1⟩)⟩,
  ⟨(some ⟨.d1, .d0, .d4⟩), none, .bin .shr (.t ⟨.d1, .d0, .d3⟩) (.c (.int .u64 (.ofNat 6)))⟩,
  ⟨(some ⟨.d1, .d0, .d5⟩), none, .convI .u8 (.t ⟨.d1, .d0, .d4⟩)⟩,
  ⟨(some ⟨.d1, .d0, .d6⟩), none, .bin .and (.t ⟨.d1, .d0, .d5⟩) (.c (.int .u8 (.ofNat 63)))⟩,
  ⟨(some ⟨.d1, .d0, .d7⟩), none, .bin .or (.c (.int .u8 (.ofNat 128))) (.t ⟨.d1, .d0, .d6⟩)⟩,
  ⟨(some ⟨.d1, .d1, .d0⟩), none, .mv (.t ⟨.d0, .d0, .d1⟩)⟩,
  ⟨(some ⟨.d1, .d1, .d1⟩), none, .convI .u8 (.t ⟨.d1, .d1, .d0⟩)⟩,
  ⟨(some ⟨.d1, .d1, .d2⟩), none, .bin .and (.t ⟨.d1, .d1, .d1⟩) (.c (.int .u8 (.ofNat 63)))⟩,
  ⟨(some ⟨.d1, .d1, .d3⟩), none, .bin .or (.c (.int .u8 (.ofNat 128))) (.t ⟨.d1, .d1, .d2⟩)⟩,
  ⟨(some ⟨.d1, .d1, .d4⟩), none, .buildS none 1 4 [(.int .u8 (.ofNat 0)), (.int .u8 (.ofNat 0)), (.int .u8 (.ofNat 0)), (.int .u8 (.ofNat 0))] [(0, 1, (.t ⟨.d0, .d7, .d5⟩)), (1, 1, (.t ⟨.d1, .d0, .d2⟩)), (2, 1, (.t ⟨.d1, .d0, .d7⟩)), (3, 1, (.t ⟨.d1, .d1, .d3⟩))]⟩,
  ⟨(some ⟨.d1, .d1, .d5⟩), none, .app 1 1 (.t ⟨.d0, .d7, .d1⟩) (.t ⟨.d1, .d1, .d4⟩)⟩,
  ⟨(some ⟨.d0, .d0, .d4⟩), none, .mv (.t ⟨.d1, .d1, .d5⟩)⟩])
 .ret) (.seq (.ops [⟨(some ⟨.d0, .d1, .d0⟩), none, .mv (.t ⟨.d0, .d0, .d0⟩)⟩,
  ⟨(some ⟨.d0, .d1, .d1⟩), none, .buildS none 1 3 [(.int .u8 (.ofNat 0)), (.int .u8 (.ofNat 0)), (.int .u8 (.ofNat 0))] [(0, 1, (.c (.int .u8 (.ofNat 239)))), (1, 1, (.c (.int .u8 (.ofNat 191)))), (2, 1, (.c (.int .u8 (.ofNat 189))))]⟩,
  ⟨(some ⟨.d0, .d1, .d2⟩), none, .app 1 1 (.t ⟨.d0, .d1, .d0⟩) (.t ⟨.d0, .d1, .d1⟩)⟩,
  ⟨(some ⟨.d0, .d0, .d4⟩), none, .mv (.t ⟨.d0, .d1, .d2⟩)⟩])
 .ret))))))))))
 [.tmp ⟨.d0, .d0, .d4⟩]
/-- unicode/utf8.RuneStart -/
def x103 : Ent := .code [⟨.d0, .d0, .d0⟩]
 (.seq (.ops [⟨(some ⟨.d0, .d0, .d2⟩), none, .mv (.c (.bool false))⟩])
 (.seq (.ops [⟨(some ⟨.d0, .d0, .d3⟩), none, .mv (.t ⟨.d0, .d0, .d0⟩)⟩,
  ⟨(some ⟨.d0, .d0, .d4⟩), none, .bin .and (.t ⟨.d0, .d0, .d3⟩) (.c (.int .u8 (.ofNat 192)))⟩,
  ⟨(some ⟨.d0, .d0, .d5⟩), none, .bin .neq (.t ⟨.d0, .d0, .d4⟩) (.c (.int .u8 (.ofNat 128)))⟩,
  ⟨(some ⟨.d0, .d0, .d2⟩), none, .mv (.t ⟨.d0, .d0, .d5⟩)⟩])
 .ret))
 [.tmp ⟨.d0, .d0, .d2⟩]
def FT3 : F3 Ent := ⟨⟨⟨.none, .none, .none, x3, x4, x5, x6, (.law f7)⟩, ⟨x8, x9, x10, x11, x12, .none, x14, .none⟩, ⟨.none, .none, .none, .none, x20, x21, x22, x23⟩, ⟨x24, x25, x26, .none, .none, .none, x30, x31⟩, ⟨x32, x33, x34, x35, x36, x37, x38, .none⟩, ⟨.none, .none, .none, .none, .none, .none, x46, x47⟩, ⟨x48, x49, x50, .none, .none, .none, .none, .none⟩, ⟨x56, x57, .none, x59, x60, x61, x62, .none⟩⟩,
 ⟨⟨x64, x65, x66, x67, x68, x69, x70, x71⟩, ⟨x72, x73, .none, .none, .none, .none, .none, .none⟩, ⟨.none, x81, x82, x83, x84, x85, x86, x87⟩, (N8.rep .none), ⟨.none, .none, .none, .none, .none, x101, .none, x103⟩, (N8.rep .none), (N8.rep .none), (N8.rep .none)⟩,
 (N8.rep (N8.rep .none)),
 (N8.rep (N8.rep .none)),
 (N8.rep (N8.rep .none)),
 (N8.rep (N8.rep .none)),
 (N8.rep (N8.rep .none)),
 (N8.rep (N8.rep .none))⟩
end
end Go.Dk.Run
