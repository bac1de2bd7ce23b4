/-
  The seat's functions as the machine takes them.
-/
import Derived.Test.YtnnmbmgdhlejiaaGreatDoorDkb
set_option maxRecDepth 100000
set_option linter.all false
namespace Go.Dk.Run
open Go Go.Dk
noncomputable section
/-- umlaut/umlautlaw18.ParseDeep -/
def e3 : Ent := .code [⟨.d0, .d0, .d0⟩, ⟨.d0, .d0, .d1⟩]
 (.seq (.ops [⟨(some ⟨.d0, .d0, .d4⟩), none, .mv (.c (.bool false))⟩])
 (.seq (.ops [⟨(some ⟨.d0, .d1, .d6⟩), none, .mv (.t ⟨.d0, .d0, .d0⟩)⟩,
  ⟨(some ⟨.d0, .d1, .d7⟩), none, .bin .and (.t ⟨.d0, .d1, .d6⟩) (.c (.int .i64 (.ofNat 65535)))⟩,
  ⟨(some ⟨.d0, .d2, .d0⟩), none, .bin .rem (.t ⟨.d0, .d1, .d7⟩) (.c (.int .i64 (.ofNat 40)))⟩,
  ⟨(some ⟨.d0, .d2, .d1⟩), none, .bin .add (.t ⟨.d0, .d2, .d0⟩) (.c (.int .i64 (.ofNat 1)))⟩,
  ⟨(some ⟨.d0, .d0, .d0⟩), none, .mv (.t ⟨.d0, .d2, .d1⟩)⟩])
 (.seq (.ops [⟨(some ⟨.d0, .d2, .d2⟩), none, .buildS none 1 6 [(.str []), (.str []), (.str []), (.str []), (.str []), (.str [])] [(0, 1, (.c (.str [40, 32]))), (1, 1, (.c (.str [102, 32, 40, 32]))), (2, 1, (.c (.str [78, 79, 84, 32]))), (3, 1, (.c (.str [45, 32]))), (4, 1, (.c (.str [67, 65, 83, 84, 32, 40, 32]))), (5, 1, (.c (.str [49, 32, 73, 78, 32, 40, 32])))]⟩,
  ⟨(some ⟨.d0, .d2, .d3⟩), none, .mv (.t ⟨.d0, .d0, .d1⟩)⟩,
  ⟨(some ⟨.d0, .d2, .d4⟩), none, .bin .and (.t ⟨.d0, .d2, .d3⟩) (.c (.int .i64 (.ofNat 65535)))⟩,
  ⟨(some ⟨.d0, .d2, .d5⟩), none, .bin .rem (.t ⟨.d0, .d2, .d4⟩) (.c (.int .i64 (.ofNat 6)))⟩,
  ⟨(some ⟨.d0, .d2, .d6⟩), none, .idxA none 1 (.t ⟨.d0, .d2, .d2⟩) (.t ⟨.d0, .d2, .d5⟩)⟩,
  ⟨(some ⟨.d0, .d2, .d7⟩), none, .load none (.t ⟨.d0, .d2, .d6⟩)⟩,
  ⟨(some ⟨.d0, .d0, .d5⟩), none, .mv (.t ⟨.d0, .d2, .d7⟩)⟩])
 (.seq (.ops [⟨(some ⟨.d0, .d3, .d0⟩), none, .buildS none 1 6 [(.str []), (.str []), (.str []), (.str []), (.str []), (.str [])] [(0, 1, (.c (.str [32, 41]))), (1, 1, (.c (.str [32, 41]))), (2, 1, (.c (.str []))), (3, 1, (.c (.str []))), (4, 1, (.c (.str [32, 65, 83, 32, 73, 78, 84, 32, 41]))), (5, 1, (.c (.str [32, 41])))]⟩,
  ⟨(some ⟨.d0, .d3, .d1⟩), none, .mv (.t ⟨.d0, .d0, .d1⟩)⟩,
  ⟨(some ⟨.d0, .d3, .d2⟩), none, .bin .and (.t ⟨.d0, .d3, .d1⟩) (.c (.int .i64 (.ofNat 65535)))⟩,
  ⟨(some ⟨.d0, .d3, .d3⟩), none, .bin .rem (.t ⟨.d0, .d3, .d2⟩) (.c (.int .i64 (.ofNat 6)))⟩,
  ⟨(some ⟨.d0, .d3, .d4⟩), none, .idxA none 1 (.t ⟨.d0, .d3, .d0⟩) (.t ⟨.d0, .d3, .d3⟩)⟩,
  ⟨(some ⟨.d0, .d3, .d5⟩), none, .load none (.t ⟨.d0, .d3, .d4⟩)⟩,
  ⟨(some ⟨.d0, .d0, .d6⟩), none, .mv (.t ⟨.d0, .d3, .d5⟩)⟩])
 (.seq (.ops [⟨(some ⟨.d0, .d0, .d7⟩), none, .mv (.c (.str []))⟩,
  ⟨(some ⟨.d0, .d1, .d0⟩), none, .mv (.c (.str []))⟩])
 (.seq (.seq (.ops [⟨(some ⟨.d0, .d1, .d1⟩), none, .mv (.c (.int .i64 (.ofNat 0)))⟩])
 (.block 0 (.loop (.seq (.seq (.ops [⟨(some ⟨.d0, .d3, .d6⟩), none, .mv (.t ⟨.d0, .d1, .d1⟩)⟩,
  ⟨(some ⟨.d0, .d3, .d7⟩), none, .mv (.t ⟨.d0, .d0, .d0⟩)⟩,
  ⟨(some ⟨.d0, .d4, .d0⟩), none, .bin .lss (.t ⟨.d0, .d3, .d6⟩) (.t ⟨.d0, .d3, .d7⟩)⟩])
 (.cond (.t ⟨.d0, .d4, .d0⟩) .skip (.exit 0)))
 (.seq (.block 1 (.seq (.ops [⟨(some ⟨.d0, .d4, .d3⟩), none, .mv (.t ⟨.d0, .d0, .d7⟩)⟩,
  ⟨(some ⟨.d0, .d4, .d4⟩), none, .mv (.t ⟨.d0, .d0, .d5⟩)⟩,
  ⟨(some ⟨.d0, .d4, .d5⟩), none, .bin .add (.t ⟨.d0, .d4, .d3⟩) (.t ⟨.d0, .d4, .d4⟩)⟩,
  ⟨(some ⟨.d0, .d0, .d7⟩), none, .mv (.t ⟨.d0, .d4, .d5⟩)⟩])
 (.ops [⟨(some ⟨.d0, .d4, .d6⟩), none, .mv (.t ⟨.d0, .d1, .d0⟩)⟩,
  ⟨(some ⟨.d0, .d4, .d7⟩), none, .mv (.t ⟨.d0, .d0, .d6⟩)⟩,
  ⟨(some ⟨.d0, .d5, .d0⟩), none, .bin .add (.t ⟨.d0, .d4, .d6⟩) (.t ⟨.d0, .d4, .d7⟩)⟩,
  ⟨(some ⟨.d0, .d1, .d0⟩), none, .mv (.t ⟨.d0, .d5, .d0⟩)⟩])))
 (.ops [⟨(some ⟨.d0, .d4, .d1⟩), none, .mv (.t ⟨.d0, .d1, .d1⟩)⟩,
  ⟨(some ⟨.d0, .d4, .d2⟩), none, .bin .add (.t ⟨.d0, .d4, .d1⟩) (.c (.int .i64 (.ofNat 1)))⟩,
  ⟨(some ⟨.d0, .d1, .d1⟩), none, .mv (.t ⟨.d0, .d4, .d2⟩)⟩]))))))
 (.seq (.ops [⟨(some ⟨.d0, .d5, .d2⟩), none, .mv (.t ⟨.d0, .d0, .d7⟩)⟩,
  ⟨(some ⟨.d0, .d5, .d3⟩), none, .bin .add (.t ⟨.d0, .d5, .d2⟩) (.c (.str [97]))⟩,
  ⟨(some ⟨.d0, .d5, .d4⟩), none, .mv (.t ⟨.d0, .d1, .d0⟩)⟩,
  ⟨(some ⟨.d0, .d5, .d5⟩), none, .bin .add (.t ⟨.d0, .d5, .d3⟩) (.t ⟨.d0, .d5, .d4⟩)⟩,
  ⟨(some ⟨.d0, .d5, .d6⟩), none, .callF ⟨.d0, .d0, .d5⟩ [(.t ⟨.d0, .d5, .d5⟩)]⟩,
  ⟨(some ⟨.d0, .d5, .d1⟩), none, .mv (.t ⟨.d0, .d5, .d6⟩)⟩,
  ⟨(some ⟨.d0, .d5, .d7⟩), none, .ext (.t ⟨.d0, .d5, .d1⟩) 0⟩,
  ⟨(some ⟨.d0, .d6, .d0⟩), none, .ext (.t ⟨.d0, .d5, .d1⟩) 1⟩,
  ⟨(some ⟨.d0, .d6, .d1⟩), none, .ext (.t ⟨.d0, .d5, .d1⟩) 2⟩,
  ⟨(some ⟨.d0, .d1, .d2⟩), none, .box none (.c (.agg [(.int .i64 (.ofNat 0)), (.int .i64 (.ofNat 0)), (.str []), (.str []), (.int .i64 (.ofNat 0)), .nils]))⟩,
  ⟨none, none, .store 6 (.t ⟨.d0, .d1, .d2⟩) (.t ⟨.d0, .d5, .d7⟩)⟩,
  ⟨(some ⟨.d0, .d1, .d3⟩), none, .mv (.t ⟨.d0, .d6, .d0⟩)⟩,
  ⟨(some ⟨.d0, .d1, .d4⟩), none, .mv (.t ⟨.d0, .d6, .d1⟩)⟩])
 (.seq (.seq (.ops [⟨(some ⟨.d0, .d6, .d2⟩), none, .mv (.t ⟨.d0, .d0, .d0⟩)⟩,
  ⟨(some ⟨.d0, .d6, .d3⟩), none, .bin .leq (.t ⟨.d0, .d6, .d2⟩) (.c (.int .i64 (.ofNat 24)))⟩])
 (.cond (.t ⟨.d0, .d6, .d3⟩) (.seq (.ops [⟨(some ⟨.d0, .d6, .d4⟩), none, .mv (.t ⟨.d0, .d1, .d4⟩)⟩,
  ⟨(some ⟨.d0, .d6, .d5⟩), none, .bin .eql (.t ⟨.d0, .d6, .d4⟩) (.c (.int .i64 (.ofNat 0)))⟩,
  ⟨(some ⟨.d0, .d6, .d6⟩), none, .mv (.t ⟨.d0, .d6, .d5⟩)⟩,
  ⟨(some ⟨.d0, .d6, .d7⟩), (some (⟨.d0, .d6, .d6⟩, true)), .mv (.t ⟨.d0, .d1, .d3⟩)⟩,
  ⟨(some ⟨.d0, .d7, .d0⟩), (some (⟨.d0, .d6, .d6⟩, true)), .bin .eql (.t ⟨.d0, .d6, .d7⟩) (.c (.int .i64 (.ofNat 0)))⟩,
  ⟨(some ⟨.d0, .d7, .d1⟩), none, .pick (.t ⟨.d0, .d6, .d6⟩) (.t ⟨.d0, .d7, .d0⟩) (.c (.bool false))⟩,
  ⟨(some ⟨.d0, .d7, .d2⟩), none, .mv (.t ⟨.d0, .d7, .d1⟩)⟩,
  ⟨(some ⟨.d0, .d7, .d3⟩), (some (⟨.d0, .d7, .d2⟩, true)), .callF ⟨.d0, .d0, .d6⟩ []⟩,
  ⟨(some ⟨.d0, .d7, .d4⟩), none, .pick (.t ⟨.d0, .d7, .d2⟩) (.t ⟨.d0, .d7, .d3⟩) (.c (.bool false))⟩,
  ⟨(some ⟨.d0, .d0, .d4⟩), none, .mv (.t ⟨.d0, .d7, .d4⟩)⟩])
 .ret) .skip))
 (.seq (.ops [⟨(some ⟨.d0, .d7, .d5⟩), none, .mv (.t ⟨.d0, .d0, .d5⟩)⟩,
  ⟨(some ⟨.d0, .d7, .d6⟩), none, .len .str (.t ⟨.d0, .d7, .d5⟩)⟩,
  ⟨(some ⟨.d0, .d7, .d7⟩), none, .bin .mul (.c (.int .i64 (.ofNat 24))) (.t ⟨.d0, .d7, .d6⟩)⟩,
  ⟨(some ⟨.d0, .d1, .d5⟩), none, .mv (.t ⟨.d0, .d7, .d7⟩)⟩])
 (.seq (.seq (.ops [⟨(some ⟨.d1, .d0, .d0⟩), none, .mv (.t ⟨.d0, .d0, .d1⟩)⟩,
  ⟨(some ⟨.d1, .d0, .d1⟩), none, .bin .and (.t ⟨.d1, .d0, .d0⟩) (.c (.int .i64 (.ofNat 65535)))⟩,
  ⟨(some ⟨.d1, .d0, .d2⟩), none, .bin .rem (.t ⟨.d1, .d0, .d1⟩) (.c (.int .i64 (.ofNat 6)))⟩,
  ⟨(some ⟨.d1, .d0, .d3⟩), none, .bin .eql (.t ⟨.d1, .d0, .d2⟩) (.c (.int .i64 (.ofNat 5)))⟩])
 (.cond (.t ⟨.d1, .d0, .d3⟩) (.ops [⟨(some ⟨.d1, .d0, .d4⟩), none, .mv (.t ⟨.d0, .d1, .d5⟩)⟩,
  ⟨(some ⟨.d1, .d0, .d5⟩), none, .bin .add (.t ⟨.d1, .d0, .d4⟩) (.c (.int .i64 (.ofNat 5)))⟩,
  ⟨(some ⟨.d0, .d1, .d5⟩), none, .mv (.t ⟨.d1, .d0, .d5⟩)⟩]) .skip))
 (.seq (.ops [⟨(some ⟨.d1, .d0, .d6⟩), none, .mv (.t ⟨.d0, .d1, .d4⟩)⟩,
  ⟨(some ⟨.d1, .d0, .d7⟩), none, .bin .eql (.t ⟨.d1, .d0, .d6⟩) (.c (.int .i64 (.ofNat 21)))⟩,
  ⟨(some ⟨.d1, .d1, .d0⟩), none, .mv (.t ⟨.d1, .d0, .d7⟩)⟩,
  ⟨(some ⟨.d1, .d1, .d1⟩), (some (⟨.d1, .d1, .d0⟩, true)), .mv (.t ⟨.d0, .d1, .d3⟩)⟩,
  ⟨(some ⟨.d1, .d1, .d2⟩), (some (⟨.d1, .d1, .d0⟩, true)), .mv (.t ⟨.d0, .d1, .d5⟩)⟩,
  ⟨(some ⟨.d1, .d1, .d3⟩), (some (⟨.d1, .d1, .d0⟩, true)), .bin .eql (.t ⟨.d1, .d1, .d1⟩) (.t ⟨.d1, .d1, .d2⟩)⟩,
  ⟨(some ⟨.d1, .d1, .d4⟩), none, .pick (.t ⟨.d1, .d1, .d0⟩) (.t ⟨.d1, .d1, .d3⟩) (.c (.bool false))⟩,
  ⟨(some ⟨.d1, .d1, .d5⟩), none, .mv (.t ⟨.d1, .d1, .d4⟩)⟩,
  ⟨(some ⟨.d1, .d1, .d6⟩), (some (⟨.d1, .d1, .d5⟩, true)), .callF ⟨.d0, .d0, .d6⟩ []⟩,
  ⟨(some ⟨.d1, .d1, .d7⟩), none, .pick (.t ⟨.d1, .d1, .d5⟩) (.t ⟨.d1, .d1, .d6⟩) (.c (.bool false))⟩,
  ⟨(some ⟨.d0, .d0, .d4⟩), none, .mv (.t ⟨.d1, .d1, .d7⟩)⟩])
 .ret)))))))))))
 [.tmp ⟨.d0, .d0, .d4⟩]
/-- umlaut/umlautlaw18.ParseChains -/
def e4 : Ent := .code [⟨.d0, .d0, .d0⟩, ⟨.d0, .d0, .d1⟩, ⟨.d0, .d0, .d2⟩]
 (.seq (.ops [⟨(some ⟨.d0, .d0, .d6⟩), none, .mv (.c (.bool false))⟩])
 (.seq (.ops [⟨(some ⟨.d0, .d2, .d4⟩), none, .buildS none 1 7 [(.str []), (.str []), (.str []), (.str []), (.str []), (.str []), (.str [])] [(0, 1, (.c (.str [79, 82]))), (1, 1, (.c (.str [65, 78, 68]))), (2, 1, (.c (.str [124]))), (3, 1, (.c (.str [38]))), (4, 1, (.c (.str [60, 60]))), (5, 1, (.c (.str [43]))), (6, 1, (.c (.str [42])))]⟩,
  ⟨(some ⟨.d0, .d0, .d7⟩), none, .mv (.t ⟨.d0, .d2, .d4⟩)⟩])
 (.seq (.ops [⟨(some ⟨.d0, .d2, .d5⟩), none, .mv (.t ⟨.d0, .d0, .d0⟩)⟩,
  ⟨(some ⟨.d0, .d2, .d6⟩), none, .bin .and (.t ⟨.d0, .d2, .d5⟩) (.c (.int .i64 (.ofNat 65535)))⟩,
  ⟨(some ⟨.d0, .d2, .d7⟩), none, .bin .rem (.t ⟨.d0, .d2, .d6⟩) (.c (.int .i64 (.ofNat 7)))⟩,
  ⟨(some ⟨.d0, .d3, .d0⟩), none, .mv (.t ⟨.d0, .d0, .d1⟩)⟩,
  ⟨(some ⟨.d0, .d3, .d1⟩), none, .bin .and (.t ⟨.d0, .d3, .d0⟩) (.c (.int .i64 (.ofNat 65535)))⟩,
  ⟨(some ⟨.d0, .d3, .d2⟩), none, .bin .rem (.t ⟨.d0, .d3, .d1⟩) (.c (.int .i64 (.ofNat 7)))⟩,
  ⟨(some ⟨.d0, .d1, .d0⟩), none, .mv (.t ⟨.d0, .d2, .d7⟩)⟩,
  ⟨(some ⟨.d0, .d1, .d1⟩), none, .mv (.t ⟨.d0, .d3, .d2⟩)⟩])
 (.seq (.ops [⟨(some ⟨.d0, .d3, .d3⟩), none, .mv (.t ⟨.d0, .d0, .d2⟩)⟩,
  ⟨(some ⟨.d0, .d3, .d4⟩), none, .bin .and (.t ⟨.d0, .d3, .d3⟩) (.c (.int .i64 (.ofNat 7)))⟩,
  ⟨(some ⟨.d0, .d3, .d5⟩), none, .bin .add (.t ⟨.d0, .d3, .d4⟩) (.c (.int .i64 (.ofNat 2)))⟩,
  ⟨(some ⟨.d0, .d0, .d2⟩), none, .mv (.t ⟨.d0, .d3, .d5⟩)⟩])
 (.seq (.ops [⟨(some ⟨.d0, .d1, .d2⟩), none, .mv (.c (.str [97]))⟩,
  ⟨(some ⟨.d0, .d1, .d3⟩), none, .mv (.c (.int .i64 (.ofNat 0)))⟩])
 (.seq (.seq (.ops [⟨(some ⟨.d0, .d1, .d4⟩), none, .mv (.c (.int .i64 (.ofNat 0)))⟩])
 (.block 0 (.loop (.seq (.seq (.ops [⟨(some ⟨.d0, .d3, .d6⟩), none, .mv (.t ⟨.d0, .d1, .d4⟩)⟩,
  ⟨(some ⟨.d0, .d3, .d7⟩), none, .mv (.t ⟨.d0, .d0, .d2⟩)⟩,
  ⟨(some ⟨.d0, .d4, .d0⟩), none, .bin .lss (.t ⟨.d0, .d3, .d6⟩) (.t ⟨.d0, .d3, .d7⟩)⟩])
 (.cond (.t ⟨.d0, .d4, .d0⟩) .skip (.exit 0)))
 (.seq (.block 1 (.seq (.ops [⟨(some ⟨.d0, .d4, .d3⟩), none, .mv (.t ⟨.d0, .d1, .d0⟩)⟩,
  ⟨(some ⟨.d0, .d1, .d5⟩), none, .mv (.t ⟨.d0, .d4, .d3⟩)⟩])
 (.seq (.seq (.ops [⟨(some ⟨.d0, .d4, .d4⟩), none, .mv (.t ⟨.d0, .d1, .d4⟩)⟩,
  ⟨(some ⟨.d0, .d4, .d5⟩), none, .bin .rem (.t ⟨.d0, .d4, .d4⟩) (.c (.int .i64 (.ofNat 2)))⟩,
  ⟨(some ⟨.d0, .d4, .d6⟩), none, .bin .eql (.t ⟨.d0, .d4, .d5⟩) (.c (.int .i64 (.ofNat 1)))⟩])
 (.cond (.t ⟨.d0, .d4, .d6⟩) (.ops [⟨(some ⟨.d0, .d4, .d7⟩), none, .mv (.t ⟨.d0, .d1, .d1⟩)⟩,
  ⟨(some ⟨.d0, .d1, .d5⟩), none, .mv (.t ⟨.d0, .d4, .d7⟩)⟩]) .skip))
 (.ops [⟨(some ⟨.d0, .d5, .d0⟩), none, .mv (.t ⟨.d0, .d1, .d2⟩)⟩,
  ⟨(some ⟨.d0, .d5, .d1⟩), none, .bin .add (.t ⟨.d0, .d5, .d0⟩) (.c (.str [32]))⟩,
  ⟨(some ⟨.d0, .d5, .d2⟩), none, .mv (.t ⟨.d0, .d0, .d7⟩)⟩,
  ⟨(some ⟨.d0, .d5, .d3⟩), none, .mv (.t ⟨.d0, .d1, .d5⟩)⟩,
  ⟨(some ⟨.d0, .d5, .d4⟩), none, .idxA none 1 (.t ⟨.d0, .d5, .d2⟩) (.t ⟨.d0, .d5, .d3⟩)⟩,
  ⟨(some ⟨.d0, .d5, .d5⟩), none, .load none (.t ⟨.d0, .d5, .d4⟩)⟩,
  ⟨(some ⟨.d0, .d5, .d6⟩), none, .bin .add (.t ⟨.d0, .d5, .d1⟩) (.t ⟨.d0, .d5, .d5⟩)⟩,
  ⟨(some ⟨.d0, .d5, .d7⟩), none, .bin .add (.t ⟨.d0, .d5, .d6⟩) (.c (.str [32, 97]))⟩,
  ⟨(some ⟨.d0, .d1, .d2⟩), none, .mv (.t ⟨.d0, .d5, .d7⟩)⟩]))))
 (.ops [⟨(some ⟨.d0, .d4, .d1⟩), none, .mv (.t ⟨.d0, .d1, .d4⟩)⟩,
  ⟨(some ⟨.d0, .d4, .d2⟩), none, .bin .add (.t ⟨.d0, .d4, .d1⟩) (.c (.int .i64 (.ofNat 1)))⟩,
  ⟨(some ⟨.d0, .d1, .d4⟩), none, .mv (.t ⟨.d0, .d4, .d2⟩)⟩]))))))
 (.seq (.ops [⟨(some ⟨.d0, .d6, .d1⟩), none, .mv (.t ⟨.d0, .d1, .d2⟩)⟩,
  ⟨(some ⟨.d0, .d6, .d2⟩), none, .callF ⟨.d0, .d0, .d5⟩ [(.t ⟨.d0, .d6, .d1⟩)]⟩,
  ⟨(some ⟨.d0, .d6, .d0⟩), none, .mv (.t ⟨.d0, .d6, .d2⟩)⟩,
  ⟨(some ⟨.d0, .d6, .d3⟩), none, .ext (.t ⟨.d0, .d6, .d0⟩) 0⟩,
  ⟨(some ⟨.d0, .d6, .d4⟩), none, .ext (.t ⟨.d0, .d6, .d0⟩) 1⟩,
  ⟨(some ⟨.d0, .d6, .d5⟩), none, .ext (.t ⟨.d0, .d6, .d0⟩) 2⟩,
  ⟨(some ⟨.d0, .d1, .d6⟩), none, .box none (.c (.agg [(.int .i64 (.ofNat 0)), (.int .i64 (.ofNat 0)), (.str []), (.str []), (.int .i64 (.ofNat 0)), .nils]))⟩,
  ⟨none, none, .store 6 (.t ⟨.d0, .d1, .d6⟩) (.t ⟨.d0, .d6, .d3⟩)⟩,
  ⟨(some ⟨.d0, .d1, .d7⟩), none, .mv (.t ⟨.d0, .d6, .d4⟩)⟩,
  ⟨(some ⟨.d0, .d2, .d0⟩), none, .mv (.t ⟨.d0, .d6, .d5⟩)⟩])
 (.seq (.ops [⟨(some ⟨.d0, .d6, .d7⟩), none, .load (some 6) (.t ⟨.d0, .d1, .d6⟩)⟩,
  ⟨(some ⟨.d0, .d7, .d0⟩), none, .callF ⟨.d0, .d0, .d7⟩ [(.t ⟨.d0, .d6, .d7⟩)]⟩,
  ⟨(some ⟨.d0, .d6, .d6⟩), none, .mv (.t ⟨.d0, .d7, .d0⟩)⟩,
  ⟨(some ⟨.d0, .d7, .d1⟩), none, .ext (.t ⟨.d0, .d6, .d6⟩) 0⟩,
  ⟨(some ⟨.d0, .d7, .d2⟩), none, .ext (.t ⟨.d0, .d6, .d6⟩) 1⟩,
  ⟨(some ⟨.d0, .d2, .d1⟩), none, .mv (.t ⟨.d0, .d7, .d1⟩)⟩,
  ⟨(some ⟨.d0, .d2, .d2⟩), none, .mv (.t ⟨.d0, .d7, .d2⟩)⟩])
 (.seq (.ops [⟨(some ⟨.d0, .d7, .d3⟩), none, .load (some 6) (.t ⟨.d0, .d1, .d6⟩)⟩,
  ⟨(some ⟨.d0, .d2, .d3⟩), none, .box none (.c (.agg [(.int .i64 (.ofNat 0)), (.int .i64 (.ofNat 0)), (.str []), (.str []), (.int .i64 (.ofNat 0)), .nils]))⟩,
  ⟨none, none, .store 6 (.t ⟨.d0, .d2, .d3⟩) (.t ⟨.d0, .d7, .d3⟩)⟩])
 (.seq (.block 2 (.loop (.seq (.seq (.ops [⟨(some ⟨.d0, .d7, .d4⟩), none, .fieldA 0 (.t ⟨.d0, .d2, .d3⟩)⟩,
  ⟨(some ⟨.d0, .d7, .d5⟩), none, .load none (.t ⟨.d0, .d7, .d4⟩)⟩,
  ⟨(some ⟨.d0, .d7, .d6⟩), none, .bin .eql (.t ⟨.d0, .d7, .d5⟩) (.c (.int .i64 (.ofNat 6)))⟩,
  ⟨(some ⟨.d0, .d7, .d7⟩), none, .mv (.t ⟨.d0, .d7, .d6⟩)⟩,
  ⟨(some ⟨.d1, .d0, .d0⟩), (some (⟨.d0, .d7, .d7⟩, true)), .fieldA 5 (.t ⟨.d0, .d2, .d3⟩)⟩,
  ⟨(some ⟨.d1, .d0, .d1⟩), (some (⟨.d0, .d7, .d7⟩, true)), .load none (.t ⟨.d1, .d0, .d0⟩)⟩,
  ⟨(some ⟨.d1, .d0, .d2⟩), (some (⟨.d0, .d7, .d7⟩, true)), .len .sli (.t ⟨.d1, .d0, .d1⟩)⟩,
  ⟨(some ⟨.d1, .d0, .d3⟩), (some (⟨.d0, .d7, .d7⟩, true)), .bin .eql (.t ⟨.d1, .d0, .d2⟩) (.c (.int .i64 (.ofNat 2)))⟩,
  ⟨(some ⟨.d1, .d0, .d4⟩), none, .pick (.t ⟨.d0, .d7, .d7⟩) (.t ⟨.d1, .d0, .d3⟩) (.c (.bool false))⟩])
 (.cond (.t ⟨.d1, .d0, .d4⟩) .skip (.exit 2)))
 (.block 3 (.seq (.ops [⟨(some ⟨.d1, .d0, .d5⟩), none, .fieldA 5 (.t ⟨.d0, .d2, .d3⟩)⟩,
  ⟨(some ⟨.d1, .d0, .d6⟩), none, .load none (.t ⟨.d1, .d0, .d5⟩)⟩,
  ⟨(some ⟨.d1, .d0, .d7⟩), none, .idxA none 6 (.t ⟨.d1, .d0, .d6⟩) (.c (.int .i64 (.ofNat 0)))⟩,
  ⟨(some ⟨.d1, .d1, .d0⟩), none, .load (some 6) (.t ⟨.d1, .d0, .d7⟩)⟩,
  ⟨none, none, .store 6 (.t ⟨.d0, .d2, .d3⟩) (.t ⟨.d1, .d1, .d0⟩)⟩])
 (.ops [⟨(some ⟨.d1, .d1, .d1⟩), none, .mv (.t ⟨.d0, .d1, .d3⟩)⟩,
  ⟨(some ⟨.d1, .d1, .d2⟩), none, .bin .add (.t ⟨.d1, .d1, .d1⟩) (.c (.int .i64 (.ofNat 1)))⟩,
  ⟨(some ⟨.d0, .d1, .d3⟩), none, .mv (.t ⟨.d1, .d1, .d2⟩)⟩]))))))
 (.seq (.ops [⟨(some ⟨.d1, .d1, .d3⟩), none, .mv (.t ⟨.d0, .d2, .d0⟩)⟩,
  ⟨(some ⟨.d1, .d1, .d4⟩), none, .bin .eql (.t ⟨.d1, .d1, .d3⟩) (.c (.int .i64 (.ofNat 0)))⟩,
  ⟨(some ⟨.d1, .d1, .d5⟩), none, .mv (.t ⟨.d1, .d1, .d4⟩)⟩,
  ⟨(some ⟨.d1, .d1, .d6⟩), (some (⟨.d1, .d1, .d5⟩, true)), .mv (.t ⟨.d0, .d2, .d2⟩)⟩,
  ⟨(some ⟨.d1, .d1, .d7⟩), (some (⟨.d1, .d1, .d5⟩, true)), .bin .eql (.t ⟨.d1, .d1, .d6⟩) (.c (.int .i64 (.ofNat 0)))⟩,
  ⟨(some ⟨.d1, .d2, .d0⟩), none, .pick (.t ⟨.d1, .d1, .d5⟩) (.t ⟨.d1, .d1, .d7⟩) (.c (.bool false))⟩,
  ⟨(some ⟨.d1, .d2, .d1⟩), none, .mv (.t ⟨.d1, .d2, .d0⟩)⟩,
  ⟨(some ⟨.d1, .d2, .d2⟩), (some (⟨.d1, .d2, .d1⟩, true)), .mv (.t ⟨.d0, .d2, .d1⟩)⟩,
  ⟨(some ⟨.d1, .d2, .d3⟩), (some (⟨.d1, .d2, .d1⟩, true)), .mv (.t ⟨.d0, .d1, .d2⟩)⟩,
  ⟨(some ⟨.d1, .d2, .d4⟩), (some (⟨.d1, .d2, .d1⟩, true)), .bin .eql (.t ⟨.d1, .d2, .d2⟩) (.t ⟨.d1, .d2, .d3⟩)⟩,
  ⟨(some ⟨.d1, .d2, .d5⟩), none, .pick (.t ⟨.d1, .d2, .d1⟩) (.t ⟨.d1, .d2, .d4⟩) (.c (.bool false))⟩,
  ⟨(some ⟨.d1, .d2, .d6⟩), none, .mv (.t ⟨.d1, .d2, .d5⟩)⟩,
  ⟨(some ⟨.d1, .d2, .d7⟩), (some (⟨.d1, .d2, .d6⟩, true)), .mv (.t ⟨.d0, .d1, .d0⟩)⟩,
  ⟨(some ⟨.d1, .d3, .d0⟩), (some (⟨.d1, .d2, .d6⟩, true)), .mv (.t ⟨.d0, .d1, .d1⟩)⟩,
  ⟨(some ⟨.d1, .d3, .d1⟩), (some (⟨.d1, .d2, .d6⟩, true)), .bin .neq (.t ⟨.d1, .d2, .d7⟩) (.t ⟨.d1, .d3, .d0⟩)⟩,
  ⟨(some ⟨.d1, .d3, .d2⟩), (some (⟨.d1, .d2, .d6⟩, true)), .mv (.t ⟨.d1, .d3, .d1⟩)⟩,
  ⟨(some ⟨.d1, .d3, .d3⟩), (some (⟨.d1, .d3, .d2⟩, false)), .mv (.t ⟨.d0, .d1, .d3⟩)⟩,
  ⟨(some ⟨.d1, .d3, .d4⟩), (some (⟨.d1, .d3, .d2⟩, false)), .mv (.t ⟨.d0, .d0, .d2⟩)⟩,
  ⟨(some ⟨.d1, .d3, .d5⟩), (some (⟨.d1, .d3, .d2⟩, false)), .bin .eql (.t ⟨.d1, .d3, .d3⟩) (.t ⟨.d1, .d3, .d4⟩)⟩,
  ⟨(some ⟨.d1, .d3, .d6⟩), (some (⟨.d1, .d2, .d6⟩, true)), .pick (.t ⟨.d1, .d3, .d2⟩) (.c (.bool true)) (.t ⟨.d1, .d3, .d5⟩)⟩,
  ⟨(some ⟨.d1, .d3, .d7⟩), none, .pick (.t ⟨.d1, .d2, .d6⟩) (.t ⟨.d1, .d3, .d6⟩) (.c (.bool false))⟩,
  ⟨(some ⟨.d1, .d4, .d0⟩), none, .mv (.t ⟨.d1, .d3, .d7⟩)⟩,
  ⟨(some ⟨.d1, .d4, .d1⟩), (some (⟨.d1, .d4, .d0⟩, true)), .fieldA 0 (.t ⟨.d0, .d2, .d3⟩)⟩,
  ⟨(some ⟨.d1, .d4, .d2⟩), (some (⟨.d1, .d4, .d0⟩, true)), .load none (.t ⟨.d1, .d4, .d1⟩)⟩,
  ⟨(some ⟨.d1, .d4, .d3⟩), (some (⟨.d1, .d4, .d0⟩, true)), .bin .eql (.t ⟨.d1, .d4, .d2⟩) (.c (.int .i64 (.ofNat 4)))⟩,
  ⟨(some ⟨.d1, .d4, .d4⟩), none, .pick (.t ⟨.d1, .d4, .d0⟩) (.t ⟨.d1, .d4, .d3⟩) (.c (.bool false))⟩,
  ⟨(some ⟨.d1, .d4, .d5⟩), none, .mv (.t ⟨.d1, .d4, .d4⟩)⟩,
  ⟨(some ⟨.d1, .d4, .d6⟩), (some (⟨.d1, .d4, .d5⟩, true)), .callF ⟨.d0, .d0, .d6⟩ []⟩,
  ⟨(some ⟨.d1, .d4, .d7⟩), none, .pick (.t ⟨.d1, .d4, .d5⟩) (.t ⟨.d1, .d4, .d6⟩) (.c (.bool false))⟩,
  ⟨(some ⟨.d0, .d0, .d6⟩), none, .mv (.t ⟨.d1, .d4, .d7⟩)⟩])
 .ret)))))))))))
 [.tmp ⟨.d0, .d0, .d6⟩]
/-- umlaut/parse.Expr -/
def e5 : Ent := .code [⟨.d0, .d0, .d0⟩]
 (.seq (.ops [⟨(some ⟨.d0, .d0, .d2⟩), none, .box none (.c (.agg [(.int .i64 (.ofNat 0)), (.int .i64 (.ofNat 0)), (.str []), (.str []), (.int .i64 (.ofNat 0)), .nils]))⟩,
  ⟨(some ⟨.d0, .d0, .d3⟩), none, .mv (.c (.int .i64 (.ofNat 0)))⟩,
  ⟨(some ⟨.d0, .d0, .d4⟩), none, .mv (.c (.int .i64 (.ofNat 0)))⟩])
 (.seq (.ops [⟨(some ⟨.d0, .d0, .d6⟩), none, .mv (.t ⟨.d0, .d0, .d0⟩)⟩,
  ⟨(some ⟨.d0, .d0, .d7⟩), none, .callF ⟨.d0, .d1, .d0⟩ [(.t ⟨.d0, .d0, .d6⟩)]⟩,
  ⟨(some ⟨.d0, .d0, .d5⟩), none, .mv (.t ⟨.d0, .d0, .d7⟩)⟩])
 (.seq (.ops [⟨(some ⟨.d0, .d1, .d0⟩), none, .mv (.t ⟨.d0, .d0, .d5⟩)⟩,
  ⟨(some ⟨.d0, .d1, .d1⟩), none, .callF ⟨.d0, .d1, .d1⟩ [(.t ⟨.d0, .d1, .d0⟩), (.c (.int .i64 (.ofNat 1)))]⟩,
  ⟨none, none, .store 6 (.t ⟨.d0, .d0, .d2⟩) (.t ⟨.d0, .d1, .d1⟩)⟩])
 (.seq (.seq (.ops [⟨(some ⟨.d0, .d1, .d3⟩), none, .mv (.t ⟨.d0, .d0, .d5⟩)⟩,
  ⟨(some ⟨.d0, .d1, .d4⟩), none, .callF ⟨.d0, .d1, .d2⟩ [(.t ⟨.d0, .d1, .d3⟩)]⟩,
  ⟨(some ⟨.d0, .d1, .d2⟩), none, .mv (.t ⟨.d0, .d1, .d4⟩)⟩,
  ⟨(some ⟨.d0, .d1, .d5⟩), none, .ext (.t ⟨.d0, .d1, .d2⟩) 0⟩,
  ⟨(some ⟨.d0, .d1, .d6⟩), none, .ext (.t ⟨.d0, .d1, .d2⟩) 1⟩,
  ⟨(some ⟨.d0, .d0, .d3⟩), none, .mv (.t ⟨.d0, .d1, .d5⟩)⟩,
  ⟨(some ⟨.d0, .d0, .d4⟩), none, .mv (.t ⟨.d0, .d1, .d6⟩)⟩])
 (.seq (.ops [⟨(some ⟨.d0, .d1, .d7⟩), none, .mv (.t ⟨.d0, .d0, .d4⟩)⟩,
  ⟨(some ⟨.d0, .d2, .d0⟩), none, .bin .neq (.t ⟨.d0, .d1, .d7⟩) (.c (.int .i64 (.ofNat 0)))⟩])
 (.cond (.t ⟨.d0, .d2, .d0⟩) (.seq (.ops [⟨(some ⟨.d0, .d2, .d1⟩), none, .build [(.int .i64 (.ofNat 0)), (.int .i64 (.ofNat 0)), (.str []), (.str []), (.int .i64 (.ofNat 0)), .nils] []⟩,
  ⟨(some ⟨.d0, .d2, .d2⟩), none, .mv (.t ⟨.d0, .d0, .d3⟩)⟩,
  ⟨(some ⟨.d0, .d2, .d3⟩), none, .mv (.t ⟨.d0, .d0, .d4⟩)⟩,
  ⟨none, none, .store 6 (.t ⟨.d0, .d0, .d2⟩) (.t ⟨.d0, .d2, .d1⟩)⟩,
  ⟨(some ⟨.d0, .d0, .d3⟩), none, .mv (.t ⟨.d0, .d2, .d2⟩)⟩,
  ⟨(some ⟨.d0, .d0, .d4⟩), none, .mv (.t ⟨.d0, .d2, .d3⟩)⟩])
 .ret) .skip)))
 (.seq (.ops [⟨(some ⟨.d0, .d2, .d4⟩), none, .load (some 6) (.t ⟨.d0, .d0, .d2⟩)⟩,
  ⟨none, none, .store 6 (.t ⟨.d0, .d0, .d2⟩) (.t ⟨.d0, .d2, .d4⟩)⟩,
  ⟨(some ⟨.d0, .d0, .d3⟩), none, .mv (.c (.int .i64 (.ofNat 0)))⟩,
  ⟨(some ⟨.d0, .d0, .d4⟩), none, .mv (.c (.int .i64 (.ofNat 0)))⟩])
 .ret)))))
 [.cell (some 6) ⟨.d0, .d0, .d2⟩, .tmp ⟨.d0, .d0, .d3⟩, .tmp ⟨.d0, .d0, .d4⟩]
/-- umlaut/umlautlaw18.awake -/
def e6 : Ent := .code []
 (.seq (.ops [⟨(some ⟨.d0, .d0, .d0⟩), none, .mv (.c (.bool false))⟩])
 (.seq (.ops [⟨(some ⟨.d0, .d1, .d2⟩), none, .callF ⟨.d0, .d0, .d5⟩ [(.c (.str [97, 32, 43, 32, 98, 32, 42, 32, 50, 32, 60, 32, 51]))]⟩,
  ⟨(some ⟨.d0, .d1, .d1⟩), none, .mv (.t ⟨.d0, .d1, .d2⟩)⟩,
  ⟨(some ⟨.d0, .d1, .d3⟩), none, .ext (.t ⟨.d0, .d1, .d1⟩) 0⟩,
  ⟨(some ⟨.d0, .d1, .d4⟩), none, .ext (.t ⟨.d0, .d1, .d1⟩) 1⟩,
  ⟨(some ⟨.d0, .d1, .d5⟩), none, .ext (.t ⟨.d0, .d1, .d1⟩) 2⟩,
  ⟨(some ⟨.d0, .d0, .d1⟩), none, .box none (.c (.agg [(.int .i64 (.ofNat 0)), (.int .i64 (.ofNat 0)), (.str []), (.str []), (.int .i64 (.ofNat 0)), .nils]))⟩,
  ⟨none, none, .store 6 (.t ⟨.d0, .d0, .d1⟩) (.t ⟨.d0, .d1, .d3⟩)⟩,
  ⟨(some ⟨.d0, .d0, .d2⟩), none, .mv (.t ⟨.d0, .d1, .d4⟩)⟩,
  ⟨(some ⟨.d0, .d0, .d3⟩), none, .mv (.t ⟨.d0, .d1, .d5⟩)⟩])
 (.seq (.ops [⟨(some ⟨.d0, .d1, .d7⟩), none, .load (some 6) (.t ⟨.d0, .d0, .d1⟩)⟩,
  ⟨(some ⟨.d0, .d2, .d0⟩), none, .callF ⟨.d0, .d0, .d7⟩ [(.t ⟨.d0, .d1, .d7⟩)]⟩,
  ⟨(some ⟨.d0, .d1, .d6⟩), none, .mv (.t ⟨.d0, .d2, .d0⟩)⟩,
  ⟨(some ⟨.d0, .d2, .d1⟩), none, .ext (.t ⟨.d0, .d1, .d6⟩) 0⟩,
  ⟨(some ⟨.d0, .d2, .d2⟩), none, .ext (.t ⟨.d0, .d1, .d6⟩) 1⟩,
  ⟨(some ⟨.d0, .d0, .d4⟩), none, .mv (.t ⟨.d0, .d2, .d1⟩)⟩,
  ⟨(some ⟨.d0, .d0, .d5⟩), none, .mv (.t ⟨.d0, .d2, .d2⟩)⟩])
 (.seq (.ops [⟨(some ⟨.d0, .d2, .d4⟩), none, .callF ⟨.d0, .d1, .d3⟩ [(.c (.str [68, 82, 79, 80, 32, 84, 65, 66, 76, 69, 32, 116]))]⟩,
  ⟨(some ⟨.d0, .d2, .d3⟩), none, .mv (.t ⟨.d0, .d2, .d4⟩)⟩,
  ⟨(some ⟨.d0, .d2, .d5⟩), none, .ext (.t ⟨.d0, .d2, .d3⟩) 0⟩,
  ⟨(some ⟨.d0, .d2, .d6⟩), none, .ext (.t ⟨.d0, .d2, .d3⟩) 1⟩,
  ⟨(some ⟨.d0, .d2, .d7⟩), none, .ext (.t ⟨.d0, .d2, .d3⟩) 2⟩,
  ⟨(some ⟨.d0, .d0, .d6⟩), none, .box none (.c (.agg [(.int .i64 (.ofNat 0)), (.str []), (.str []), (.str []), (.int .i64 (.ofNat 0)), (.int .i64 (.ofNat 0)), .nils, (.bool false), (.bool false), .nils, .nils, .nils, .nils, .nilp, .nilp, .nils, .nils, (.int .i64 (.ofNat 0)), (.int .i64 (.ofNat 0))]))⟩,
  ⟨none, none, .store 19 (.t ⟨.d0, .d0, .d6⟩) (.t ⟨.d0, .d2, .d5⟩)⟩,
  ⟨(some ⟨.d0, .d0, .d7⟩), none, .mv (.t ⟨.d0, .d2, .d6⟩)⟩,
  ⟨(some ⟨.d0, .d1, .d0⟩), none, .mv (.t ⟨.d0, .d2, .d7⟩)⟩])
 (.seq (.ops [⟨(some ⟨.d0, .d3, .d0⟩), none, .mv (.t ⟨.d0, .d0, .d3⟩)⟩,
  ⟨(some ⟨.d0, .d3, .d1⟩), none, .bin .eql (.t ⟨.d0, .d3, .d0⟩) (.c (.int .i64 (.ofNat 0)))⟩,
  ⟨(some ⟨.d0, .d3, .d2⟩), none, .mv (.t ⟨.d0, .d3, .d1⟩)⟩,
  ⟨(some ⟨.d0, .d3, .d3⟩), (some (⟨.d0, .d3, .d2⟩, true)), .fieldA 0 (.t ⟨.d0, .d0, .d1⟩)⟩,
  ⟨(some ⟨.d0, .d3, .d4⟩), (some (⟨.d0, .d3, .d2⟩, true)), .load none (.t ⟨.d0, .d3, .d3⟩)⟩,
  ⟨(some ⟨.d0, .d3, .d5⟩), (some (⟨.d0, .d3, .d2⟩, true)), .bin .eql (.t ⟨.d0, .d3, .d4⟩) (.c (.int .i64 (.ofNat 6)))⟩,
  ⟨(some ⟨.d0, .d3, .d6⟩), none, .pick (.t ⟨.d0, .d3, .d2⟩) (.t ⟨.d0, .d3, .d5⟩) (.c (.bool false))⟩,
  ⟨(some ⟨.d0, .d3, .d7⟩), none, .mv (.t ⟨.d0, .d3, .d6⟩)⟩,
  ⟨(some ⟨.d0, .d4, .d0⟩), (some (⟨.d0, .d3, .d7⟩, true)), .fieldA 1 (.t ⟨.d0, .d0, .d1⟩)⟩,
  ⟨(some ⟨.d0, .d4, .d1⟩), (some (⟨.d0, .d3, .d7⟩, true)), .load none (.t ⟨.d0, .d4, .d0⟩)⟩,
  ⟨(some ⟨.d0, .d4, .d2⟩), (some (⟨.d0, .d3, .d7⟩, true)), .bin .eql (.t ⟨.d0, .d4, .d1⟩) (.c (.int .i64 (.ofNat 3)))⟩,
  ⟨(some ⟨.d0, .d4, .d3⟩), none, .pick (.t ⟨.d0, .d3, .d7⟩) (.t ⟨.d0, .d4, .d2⟩) (.c (.bool false))⟩,
  ⟨(some ⟨.d0, .d4, .d4⟩), none, .mv (.t ⟨.d0, .d4, .d3⟩)⟩,
  ⟨(some ⟨.d0, .d4, .d5⟩), (some (⟨.d0, .d4, .d4⟩, true)), .fieldA 5 (.t ⟨.d0, .d0, .d1⟩)⟩,
  ⟨(some ⟨.d0, .d4, .d6⟩), (some (⟨.d0, .d4, .d4⟩, true)), .load none (.t ⟨.d0, .d4, .d5⟩)⟩,
  ⟨(some ⟨.d0, .d4, .d7⟩), (some (⟨.d0, .d4, .d4⟩, true)), .len .sli (.t ⟨.d0, .d4, .d6⟩)⟩,
  ⟨(some ⟨.d0, .d5, .d0⟩), (some (⟨.d0, .d4, .d4⟩, true)), .bin .eql (.t ⟨.d0, .d4, .d7⟩) (.c (.int .i64 (.ofNat 2)))⟩,
  ⟨(some ⟨.d0, .d5, .d1⟩), none, .pick (.t ⟨.d0, .d4, .d4⟩) (.t ⟨.d0, .d5, .d0⟩) (.c (.bool false))⟩,
  ⟨(some ⟨.d0, .d5, .d2⟩), none, .mv (.t ⟨.d0, .d5, .d1⟩)⟩,
  ⟨(some ⟨.d0, .d5, .d3⟩), (some (⟨.d0, .d5, .d2⟩, true)), .mv (.t ⟨.d0, .d0, .d5⟩)⟩,
  ⟨(some ⟨.d0, .d5, .d4⟩), (some (⟨.d0, .d5, .d2⟩, true)), .bin .eql (.t ⟨.d0, .d5, .d3⟩) (.c (.int .i64 (.ofNat 0)))⟩,
  ⟨(some ⟨.d0, .d5, .d5⟩), none, .pick (.t ⟨.d0, .d5, .d2⟩) (.t ⟨.d0, .d5, .d4⟩) (.c (.bool false))⟩,
  ⟨(some ⟨.d0, .d5, .d6⟩), none, .mv (.t ⟨.d0, .d5, .d5⟩)⟩,
  ⟨(some ⟨.d0, .d5, .d7⟩), (some (⟨.d0, .d5, .d6⟩, true)), .mv (.t ⟨.d0, .d0, .d4⟩)⟩,
  ⟨(some ⟨.d0, .d6, .d0⟩), (some (⟨.d0, .d5, .d6⟩, true)), .bin .eql (.t ⟨.d0, .d5, .d7⟩) (.c (.str [97, 32, 43, 32, 98, 32, 42, 32, 50, 32, 60, 32, 51]))⟩,
  ⟨(some ⟨.d0, .d6, .d1⟩), none, .pick (.t ⟨.d0, .d5, .d6⟩) (.t ⟨.d0, .d6, .d0⟩) (.c (.bool false))⟩,
  ⟨(some ⟨.d0, .d6, .d2⟩), none, .mv (.t ⟨.d0, .d6, .d1⟩)⟩,
  ⟨(some ⟨.d0, .d6, .d3⟩), (some (⟨.d0, .d6, .d2⟩, true)), .mv (.t ⟨.d0, .d1, .d0⟩)⟩,
  ⟨(some ⟨.d0, .d6, .d4⟩), (some (⟨.d0, .d6, .d2⟩, true)), .bin .eql (.t ⟨.d0, .d6, .d3⟩) (.c (.int .i64 (.ofNat 0)))⟩,
  ⟨(some ⟨.d0, .d6, .d5⟩), none, .pick (.t ⟨.d0, .d6, .d2⟩) (.t ⟨.d0, .d6, .d4⟩) (.c (.bool false))⟩,
  ⟨(some ⟨.d0, .d6, .d6⟩), none, .mv (.t ⟨.d0, .d6, .d5⟩)⟩,
  ⟨(some ⟨.d0, .d6, .d7⟩), (some (⟨.d0, .d6, .d6⟩, true)), .fieldA 0 (.t ⟨.d0, .d0, .d6⟩)⟩,
  ⟨(some ⟨.d0, .d7, .d0⟩), (some (⟨.d0, .d6, .d6⟩, true)), .load none (.t ⟨.d0, .d6, .d7⟩)⟩,
  ⟨(some ⟨.d0, .d7, .d1⟩), (some (⟨.d0, .d6, .d6⟩, true)), .bin .eql (.t ⟨.d0, .d7, .d0⟩) (.c (.int .i64 (.ofNat 4)))⟩,
  ⟨(some ⟨.d0, .d7, .d2⟩), none, .pick (.t ⟨.d0, .d6, .d6⟩) (.t ⟨.d0, .d7, .d1⟩) (.c (.bool false))⟩,
  ⟨(some ⟨.d0, .d7, .d3⟩), none, .mv (.t ⟨.d0, .d7, .d2⟩)⟩,
  ⟨(some ⟨.d0, .d7, .d4⟩), (some (⟨.d0, .d7, .d3⟩, true)), .fieldA 1 (.t ⟨.d0, .d0, .d6⟩)⟩,
  ⟨(some ⟨.d0, .d7, .d5⟩), (some (⟨.d0, .d7, .d3⟩, true)), .load none (.t ⟨.d0, .d7, .d4⟩)⟩,
  ⟨(some ⟨.d0, .d7, .d6⟩), (some (⟨.d0, .d7, .d3⟩, true)), .bin .eql (.t ⟨.d0, .d7, .d5⟩) (.c (.str [116]))⟩,
  ⟨(some ⟨.d0, .d7, .d7⟩), none, .pick (.t ⟨.d0, .d7, .d3⟩) (.t ⟨.d0, .d7, .d6⟩) (.c (.bool false))⟩,
  ⟨(some ⟨.d0, .d0, .d0⟩), none, .mv (.t ⟨.d0, .d7, .d7⟩)⟩])
 .ret)))))
 [.tmp ⟨.d0, .d0, .d0⟩]
/-- umlaut/parse.Show -/
def e7 : Ent := .code [⟨.d0, .d0, .d0⟩]
 (.seq (.ops [⟨(some ⟨.d0, .d0, .d1⟩), none, .box none (.t ⟨.d0, .d0, .d0⟩)⟩,
  ⟨(some ⟨.d0, .d0, .d2⟩), none, .mv (.c (.str []))⟩,
  ⟨(some ⟨.d0, .d0, .d3⟩), none, .mv (.c (.int .i64 (.ofNat 0)))⟩])
 (.seq (.ops [⟨(some ⟨.d0, .d0, .d4⟩), none, .box none (.c (.int .i64 (.ofNat 0)))⟩,
  ⟨none, none, .store 1 (.t ⟨.d0, .d0, .d4⟩) (.c (.int .i64 (.ofNat 4000)))⟩])
 (.seq (.seq (.ops [⟨(some ⟨.d0, .d1, .d2⟩), none, .load (some 6) (.t ⟨.d0, .d0, .d1⟩)⟩,
  ⟨(some ⟨.d0, .d1, .d3⟩), none, .callF ⟨.d0, .d1, .d4⟩ [(.t ⟨.d0, .d1, .d2⟩), (.c (.int .i64 (.ofNat 4000)))]⟩,
  ⟨(some ⟨.d0, .d1, .d4⟩), none, .mv (.t ⟨.d0, .d1, .d3⟩)⟩,
  ⟨(some ⟨.d0, .d1, .d5⟩), (some (⟨.d0, .d1, .d4⟩, false)), .load (some 6) (.t ⟨.d0, .d0, .d1⟩)⟩,
  ⟨(some ⟨.d0, .d1, .d6⟩), (some (⟨.d0, .d1, .d4⟩, false)), .buildS none 6 1 [(.int .i64 (.ofNat 0)), (.int .i64 (.ofNat 0)), (.str []), (.str []), (.int .i64 (.ofNat 0)), .nils] [(0, 6, (.t ⟨.d0, .d1, .d5⟩))]⟩,
  ⟨(some ⟨.d0, .d1, .d7⟩), (some (⟨.d0, .d1, .d4⟩, false)), .callF ⟨.d0, .d1, .d5⟩ [(.t ⟨.d0, .d1, .d6⟩), (.t ⟨.d0, .d0, .d4⟩)]⟩,
  ⟨(some ⟨.d0, .d2, .d0⟩), none, .pick (.t ⟨.d0, .d1, .d4⟩) (.c (.bool true)) (.t ⟨.d0, .d1, .d7⟩)⟩])
 (.cond (.t ⟨.d0, .d2, .d0⟩) (.seq (.ops [⟨(some ⟨.d0, .d0, .d2⟩), none, .mv (.c (.str []))⟩,
  ⟨(some ⟨.d0, .d0, .d3⟩), none, .mv (.c (.int .i64 (.ofNat 1)))⟩])
 .ret) .skip))
 (.seq (.ops [⟨(some ⟨.d0, .d2, .d1⟩), none, .build [.nils] []⟩,
  ⟨(some ⟨.d0, .d2, .d2⟩), none, .box none (.t ⟨.d0, .d2, .d1⟩)⟩,
  ⟨(some ⟨.d0, .d0, .d5⟩), none, .mv (.t ⟨.d0, .d2, .d2⟩)⟩])
 (.seq (.ops [⟨(some ⟨.d0, .d2, .d3⟩), none, .mv (.t ⟨.d0, .d0, .d5⟩)⟩,
  ⟨(some ⟨.d0, .d2, .d4⟩), none, .load (some 6) (.t ⟨.d0, .d0, .d1⟩)⟩,
  ⟨(some ⟨.d0, .d2, .d5⟩), none, .callF ⟨.d0, .d1, .d6⟩ [(.t ⟨.d0, .d2, .d3⟩), (.t ⟨.d0, .d2, .d4⟩), (.c (.int .i64 (.ofNat 1)))]⟩])
 (.seq (.ops [⟨(some ⟨.d0, .d2, .d6⟩), none, .mv (.t ⟨.d0, .d0, .d5⟩)⟩,
  ⟨(some ⟨.d0, .d2, .d7⟩), none, .nilck (.t ⟨.d0, .d2, .d6⟩)⟩,
  ⟨(some ⟨.d0, .d3, .d0⟩), none, .fieldA 0 (.t ⟨.d0, .d2, .d7⟩)⟩,
  ⟨(some ⟨.d0, .d3, .d1⟩), none, .load none (.t ⟨.d0, .d3, .d0⟩)⟩,
  ⟨(some ⟨.d0, .d3, .d2⟩), none, .callF ⟨.d0, .d1, .d7⟩ [(.t ⟨.d0, .d3, .d1⟩), (.c (.str [32]))]⟩,
  ⟨(some ⟨.d0, .d0, .d6⟩), none, .mv (.t ⟨.d0, .d3, .d2⟩)⟩])
 (.seq (.ops [⟨(some ⟨.d0, .d3, .d4⟩), none, .mv (.t ⟨.d0, .d0, .d6⟩)⟩,
  ⟨(some ⟨.d0, .d3, .d5⟩), none, .callF ⟨.d0, .d0, .d5⟩ [(.t ⟨.d0, .d3, .d4⟩)]⟩,
  ⟨(some ⟨.d0, .d3, .d3⟩), none, .mv (.t ⟨.d0, .d3, .d5⟩)⟩,
  ⟨(some ⟨.d0, .d3, .d6⟩), none, .ext (.t ⟨.d0, .d3, .d3⟩) 0⟩,
  ⟨(some ⟨.d0, .d3, .d7⟩), none, .ext (.t ⟨.d0, .d3, .d3⟩) 1⟩,
  ⟨(some ⟨.d0, .d4, .d0⟩), none, .ext (.t ⟨.d0, .d3, .d3⟩) 2⟩,
  ⟨(some ⟨.d0, .d0, .d7⟩), none, .box none (.c (.agg [(.int .i64 (.ofNat 0)), (.int .i64 (.ofNat 0)), (.str []), (.str []), (.int .i64 (.ofNat 0)), .nils]))⟩,
  ⟨none, none, .store 6 (.t ⟨.d0, .d0, .d7⟩) (.t ⟨.d0, .d3, .d6⟩)⟩,
  ⟨(some ⟨.d0, .d1, .d0⟩), none, .mv (.t ⟨.d0, .d3, .d7⟩)⟩,
  ⟨(some ⟨.d0, .d1, .d1⟩), none, .mv (.t ⟨.d0, .d4, .d0⟩)⟩])
 (.seq (.seq (.ops [⟨(some ⟨.d0, .d4, .d1⟩), none, .mv (.t ⟨.d0, .d1, .d1⟩)⟩,
  ⟨(some ⟨.d0, .d4, .d2⟩), none, .bin .neq (.t ⟨.d0, .d4, .d1⟩) (.c (.int .i64 (.ofNat 0)))⟩,
  ⟨(some ⟨.d0, .d4, .d3⟩), none, .mv (.t ⟨.d0, .d4, .d2⟩)⟩,
  ⟨(some ⟨.d0, .d4, .d4⟩), (some (⟨.d0, .d4, .d3⟩, false)), .load (some 6) (.t ⟨.d0, .d0, .d1⟩)⟩,
  ⟨(some ⟨.d0, .d4, .d5⟩), (some (⟨.d0, .d4, .d3⟩, false)), .load (some 6) (.t ⟨.d0, .d0, .d7⟩)⟩,
  ⟨(some ⟨.d0, .d4, .d6⟩), (some (⟨.d0, .d4, .d3⟩, false)), .callF ⟨.d0, .d2, .d0⟩ [(.t ⟨.d0, .d4, .d4⟩), (.t ⟨.d0, .d4, .d5⟩)]⟩,
  ⟨(some ⟨.d0, .d4, .d7⟩), (some (⟨.d0, .d4, .d3⟩, false)), .un .not (.t ⟨.d0, .d4, .d6⟩)⟩,
  ⟨(some ⟨.d0, .d5, .d0⟩), none, .pick (.t ⟨.d0, .d4, .d3⟩) (.c (.bool true)) (.t ⟨.d0, .d4, .d7⟩)⟩])
 (.cond (.t ⟨.d0, .d5, .d0⟩) (.seq (.ops [⟨(some ⟨.d0, .d0, .d2⟩), none, .mv (.c (.str []))⟩,
  ⟨(some ⟨.d0, .d0, .d3⟩), none, .mv (.c (.int .i64 (.ofNat 1)))⟩])
 .ret) .skip))
 (.seq (.ops [⟨(some ⟨.d0, .d5, .d1⟩), none, .mv (.t ⟨.d0, .d0, .d6⟩)⟩,
  ⟨(some ⟨.d0, .d0, .d2⟩), none, .mv (.t ⟨.d0, .d5, .d1⟩)⟩,
  ⟨(some ⟨.d0, .d0, .d3⟩), none, .mv (.c (.int .i64 (.ofNat 0)))⟩])
 .ret)))))))))
 [.tmp ⟨.d0, .d0, .d2⟩, .tmp ⟨.d0, .d0, .d3⟩]
/-- umlaut/parse.begin -/
def e8 : Ent := .code [⟨.d0, .d0, .d0⟩]
 (.seq (.ops [⟨(some ⟨.d0, .d0, .d2⟩), none, .mv (.c .nilp)⟩])
 (.seq (.ops [⟨(some ⟨.d0, .d0, .d7⟩), none, .mv (.t ⟨.d0, .d0, .d0⟩)⟩,
  ⟨(some ⟨.d0, .d1, .d0⟩), none, .callF ⟨.d0, .d2, .d1⟩ [(.t ⟨.d0, .d0, .d7⟩)]⟩,
  ⟨(some ⟨.d0, .d0, .d6⟩), none, .mv (.t ⟨.d0, .d1, .d0⟩)⟩,
  ⟨(some ⟨.d0, .d1, .d1⟩), none, .ext (.t ⟨.d0, .d0, .d6⟩) 0⟩,
  ⟨(some ⟨.d0, .d1, .d2⟩), none, .ext (.t ⟨.d0, .d0, .d6⟩) 1⟩,
  ⟨(some ⟨.d0, .d1, .d3⟩), none, .ext (.t ⟨.d0, .d0, .d6⟩) 2⟩,
  ⟨(some ⟨.d0, .d0, .d3⟩), none, .mv (.t ⟨.d0, .d1, .d1⟩)⟩,
  ⟨(some ⟨.d0, .d0, .d4⟩), none, .mv (.t ⟨.d0, .d1, .d2⟩)⟩,
  ⟨(some ⟨.d0, .d0, .d5⟩), none, .mv (.t ⟨.d0, .d1, .d3⟩)⟩])
 (.seq (.ops [⟨(some ⟨.d0, .d1, .d4⟩), none, .mv (.t ⟨.d0, .d0, .d3⟩)⟩,
  ⟨(some ⟨.d0, .d1, .d5⟩), none, .mv (.t ⟨.d0, .d0, .d0⟩)⟩,
  ⟨(some ⟨.d0, .d1, .d6⟩), none, .len .str (.t ⟨.d0, .d1, .d5⟩)⟩,
  ⟨(some ⟨.d0, .d1, .d7⟩), none, .mv (.t ⟨.d0, .d0, .d4⟩)⟩,
  ⟨(some ⟨.d0, .d2, .d0⟩), none, .mv (.t ⟨.d0, .d0, .d5⟩)⟩,
  ⟨(some ⟨.d0, .d2, .d1⟩), none, .build [.nils, (.int .i64 (.ofNat 0)), (.int .i64 (.ofNat 0)), (.int .i64 (.ofNat 0)), (.int .i64 (.ofNat 0)), (.int .i64 (.ofNat 0))] [(0, 1, (.t ⟨.d0, .d1, .d4⟩)), (2, 1, (.t ⟨.d0, .d1, .d6⟩)), (4, 1, (.t ⟨.d0, .d1, .d7⟩)), (5, 1, (.t ⟨.d0, .d2, .d0⟩))]⟩,
  ⟨(some ⟨.d0, .d2, .d2⟩), none, .box none (.t ⟨.d0, .d2, .d1⟩)⟩,
  ⟨(some ⟨.d0, .d0, .d2⟩), none, .mv (.t ⟨.d0, .d2, .d2⟩)⟩])
 .ret)))
 [.tmp ⟨.d0, .d0, .d2⟩]
/-- (*umlaut/parse.parser).level -/
def e9 : Ent := .code [⟨.d0, .d0, .d0⟩, ⟨.d0, .d0, .d1⟩]
 (.seq (.ops [⟨(some ⟨.d0, .d0, .d4⟩), none, .box none (.c (.agg [(.int .i64 (.ofNat 0)), (.int .i64 (.ofNat 0)), (.str []), (.str []), (.int .i64 (.ofNat 0)), .nils]))⟩])
 (.seq (.seq (.ops [⟨(some ⟨.d0, .d0, .d5⟩), none, .mv (.t ⟨.d0, .d0, .d0⟩)⟩,
  ⟨(some ⟨.d0, .d0, .d6⟩), none, .nilck (.t ⟨.d0, .d0, .d5⟩)⟩,
  ⟨(some ⟨.d0, .d0, .d7⟩), none, .fieldA 5 (.t ⟨.d0, .d0, .d6⟩)⟩,
  ⟨(some ⟨.d0, .d1, .d0⟩), none, .load none (.t ⟨.d0, .d0, .d7⟩)⟩,
  ⟨(some ⟨.d0, .d1, .d1⟩), none, .bin .neq (.t ⟨.d0, .d1, .d0⟩) (.c (.int .i64 (.ofNat 0)))⟩])
 (.cond (.t ⟨.d0, .d1, .d1⟩) (.seq (.ops [⟨(some ⟨.d0, .d1, .d2⟩), none, .build [(.int .i64 (.ofNat 0)), (.int .i64 (.ofNat 0)), (.str []), (.str []), (.int .i64 (.ofNat 0)), .nils] []⟩,
  ⟨none, none, .store 6 (.t ⟨.d0, .d0, .d4⟩) (.t ⟨.d0, .d1, .d2⟩)⟩])
 .ret) .skip))
 (.seq (.ops [⟨(some ⟨.d0, .d1, .d3⟩), none, .callF ⟨.d0, .d2, .d2⟩ []⟩,
  ⟨(some ⟨.d0, .d1, .d4⟩), none, .mv (.t ⟨.d0, .d0, .d1⟩)⟩,
  ⟨(some ⟨.d0, .d1, .d5⟩), none, .idxV 13 1 none (.t ⟨.d0, .d1, .d3⟩) (.t ⟨.d0, .d1, .d4⟩)⟩,
  ⟨(some ⟨.d0, .d1, .d6⟩), none, .mv (.t ⟨.d0, .d0, .d0⟩)⟩,
  ⟨(some ⟨.d0, .d1, .d7⟩), none, .mv (.t ⟨.d0, .d0, .d1⟩)⟩,
  ⟨(some ⟨.d0, .d2, .d0⟩), none, .callV (.t ⟨.d0, .d1, .d5⟩) [(.t ⟨.d0, .d1, .d6⟩), (.t ⟨.d0, .d1, .d7⟩)]⟩,
  ⟨none, none, .store 6 (.t ⟨.d0, .d0, .d4⟩) (.t ⟨.d0, .d2, .d0⟩)⟩])
 .ret)))
 [.cell (some 6) ⟨.d0, .d0, .d4⟩]
/-- (*umlaut/parse.parser).end -/
def e10 : Ent := .code [⟨.d0, .d0, .d0⟩]
 (.seq (.ops [⟨(some ⟨.d0, .d0, .d2⟩), none, .mv (.c (.int .i64 (.ofNat 0)))⟩,
  ⟨(some ⟨.d0, .d0, .d3⟩), none, .mv (.c (.int .i64 (.ofNat 0)))⟩])
 (.seq (.seq (.reg 0 [] [⟨(some ⟨.d0, .d0, .d4⟩), none, .mv (.t ⟨.d0, .d0, .d0⟩)⟩,
  ⟨(some ⟨.d0, .d0, .d5⟩), none, .nilck (.t ⟨.d0, .d0, .d4⟩)⟩,
  ⟨(some ⟨.d0, .d0, .d6⟩), none, .fieldA 5 (.t ⟨.d0, .d0, .d5⟩)⟩,
  ⟨(some ⟨.d0, .d0, .d7⟩), none, .load none (.t ⟨.d0, .d0, .d6⟩)⟩,
  ⟨(some ⟨.d0, .d1, .d0⟩), none, .bin .eql (.t ⟨.d0, .d0, .d7⟩) (.c (.int .i64 (.ofNat 0)))⟩,
  ⟨(some ⟨.d0, .d1, .d1⟩), none, .mv (.t ⟨.d0, .d1, .d0⟩)⟩,
  ⟨(some ⟨.d0, .d1, .d2⟩), (some (⟨.d0, .d1, .d1⟩, true)), .mv (.t ⟨.d0, .d0, .d0⟩)⟩,
  ⟨(some ⟨.d0, .d1, .d3⟩), (some (⟨.d0, .d1, .d1⟩, true)), .nilck (.t ⟨.d0, .d1, .d2⟩)⟩,
  ⟨(some ⟨.d0, .d1, .d4⟩), (some (⟨.d0, .d1, .d1⟩, true)), .fieldA 1 (.t ⟨.d0, .d1, .d3⟩)⟩,
  ⟨(some ⟨.d0, .d1, .d5⟩), (some (⟨.d0, .d1, .d1⟩, true)), .load none (.t ⟨.d0, .d1, .d4⟩)⟩,
  ⟨(some ⟨.d0, .d1, .d6⟩), (some (⟨.d0, .d1, .d1⟩, true)), .mv (.t ⟨.d0, .d0, .d0⟩)⟩,
  ⟨(some ⟨.d0, .d1, .d7⟩), (some (⟨.d0, .d1, .d1⟩, true)), .nilck (.t ⟨.d0, .d1, .d6⟩)⟩,
  ⟨(some ⟨.d0, .d2, .d0⟩), (some (⟨.d0, .d1, .d1⟩, true)), .fieldA 0 (.t ⟨.d0, .d1, .d7⟩)⟩,
  ⟨(some ⟨.d0, .d2, .d1⟩), (some (⟨.d0, .d1, .d1⟩, true)), .load none (.t ⟨.d0, .d2, .d0⟩)⟩,
  ⟨(some ⟨.d0, .d2, .d2⟩), (some (⟨.d0, .d1, .d1⟩, true)), .len .sli (.t ⟨.d0, .d2, .d1⟩)⟩,
  ⟨(some ⟨.d0, .d2, .d3⟩), (some (⟨.d0, .d1, .d1⟩, true)), .bin .lss (.t ⟨.d0, .d1, .d5⟩) (.t ⟨.d0, .d2, .d2⟩)⟩,
  ⟨(some ⟨.d0, .d2, .d4⟩), none, .pick (.t ⟨.d0, .d1, .d1⟩) (.t ⟨.d0, .d2, .d3⟩) (.c (.bool false))⟩])
 (.cond (.t ⟨.d0, .d2, .d4⟩) (.ops [⟨(some ⟨.d0, .d2, .d5⟩), none, .mv (.t ⟨.d0, .d0, .d0⟩)⟩,
  ⟨(some ⟨.d0, .d2, .d6⟩), none, .callF ⟨.d0, .d2, .d3⟩ [(.t ⟨.d0, .d2, .d5⟩), (.c (.int .i64 (.ofNat 10)))]⟩]) .skip))
 (.seq (.seq (.ops [⟨(some ⟨.d0, .d2, .d7⟩), none, .mv (.t ⟨.d0, .d0, .d0⟩)⟩,
  ⟨(some ⟨.d0, .d3, .d0⟩), none, .nilck (.t ⟨.d0, .d2, .d7⟩)⟩,
  ⟨(some ⟨.d0, .d3, .d1⟩), none, .fieldA 5 (.t ⟨.d0, .d3, .d0⟩)⟩,
  ⟨(some ⟨.d0, .d3, .d2⟩), none, .load none (.t ⟨.d0, .d3, .d1⟩)⟩,
  ⟨(some ⟨.d0, .d3, .d3⟩), none, .bin .eql (.t ⟨.d0, .d3, .d2⟩) (.c (.int .i64 (.ofNat 0)))⟩])
 (.cond (.t ⟨.d0, .d3, .d3⟩) (.seq (.ops [⟨(some ⟨.d0, .d0, .d2⟩), none, .mv (.c (.int .i64 (.ofNat 0)))⟩,
  ⟨(some ⟨.d0, .d0, .d3⟩), none, .mv (.c (.int .i64 (.ofNat 0)))⟩])
 .ret) .skip))
 (.seq (.reg 0 [] [⟨(some ⟨.d0, .d3, .d4⟩), none, .mv (.t ⟨.d0, .d0, .d0⟩)⟩,
  ⟨(some ⟨.d0, .d3, .d5⟩), none, .nilck (.t ⟨.d0, .d3, .d4⟩)⟩,
  ⟨(some ⟨.d0, .d3, .d6⟩), none, .fieldA 4 (.t ⟨.d0, .d3, .d5⟩)⟩,
  ⟨(some ⟨.d0, .d3, .d7⟩), none, .load none (.t ⟨.d0, .d3, .d6⟩)⟩,
  ⟨(some ⟨.d0, .d4, .d0⟩), none, .mv (.t ⟨.d0, .d0, .d0⟩)⟩,
  ⟨(some ⟨.d0, .d4, .d1⟩), none, .nilck (.t ⟨.d0, .d4, .d0⟩)⟩,
  ⟨(some ⟨.d0, .d4, .d2⟩), none, .fieldA 5 (.t ⟨.d0, .d4, .d1⟩)⟩,
  ⟨(some ⟨.d0, .d4, .d3⟩), none, .load none (.t ⟨.d0, .d4, .d2⟩)⟩,
  ⟨(some ⟨.d0, .d0, .d2⟩), none, .mv (.t ⟨.d0, .d3, .d7⟩)⟩,
  ⟨(some ⟨.d0, .d0, .d3⟩), none, .mv (.t ⟨.d0, .d4, .d3⟩)⟩])
 .ret))))
 [.tmp ⟨.d0, .d0, .d2⟩, .tmp ⟨.d0, .d0, .d3⟩]
/-- umlaut/parse.Stmt -/
def e11 : Ent := .code [⟨.d0, .d0, .d0⟩]
 (.seq (.ops [⟨(some ⟨.d0, .d0, .d2⟩), none, .box none (.c (.agg [(.int .i64 (.ofNat 0)), (.str []), (.str []), (.str []), (.int .i64 (.ofNat 0)), (.int .i64 (.ofNat 0)), .nils, (.bool false), (.bool false), .nils, .nils, .nils, .nils, .nilp, .nilp, .nils, .nils, (.int .i64 (.ofNat 0)), (.int .i64 (.ofNat 0))]))⟩,
  ⟨(some ⟨.d0, .d0, .d3⟩), none, .mv (.c (.int .i64 (.ofNat 0)))⟩,
  ⟨(some ⟨.d0, .d0, .d4⟩), none, .mv (.c (.int .i64 (.ofNat 0)))⟩])
 (.seq (.ops [⟨(some ⟨.d0, .d0, .d6⟩), none, .mv (.t ⟨.d0, .d0, .d0⟩)⟩,
  ⟨(some ⟨.d0, .d0, .d7⟩), none, .callF ⟨.d0, .d1, .d0⟩ [(.t ⟨.d0, .d0, .d6⟩)]⟩,
  ⟨(some ⟨.d0, .d0, .d5⟩), none, .mv (.t ⟨.d0, .d0, .d7⟩)⟩])
 (.seq (.ops [⟨(some ⟨.d0, .d1, .d0⟩), none, .mv (.t ⟨.d0, .d0, .d5⟩)⟩,
  ⟨(some ⟨.d0, .d1, .d1⟩), none, .callF ⟨.d0, .d2, .d4⟩ [(.t ⟨.d0, .d1, .d0⟩)]⟩,
  ⟨none, none, .store 19 (.t ⟨.d0, .d0, .d2⟩) (.t ⟨.d0, .d1, .d1⟩)⟩])
 (.seq (.ops [⟨(some ⟨.d0, .d1, .d2⟩), none, .mv (.t ⟨.d0, .d0, .d5⟩)⟩,
  ⟨(some ⟨.d0, .d1, .d3⟩), none, .callF ⟨.d0, .d2, .d5⟩ [(.t ⟨.d0, .d1, .d2⟩), (.c (.str [59]))]⟩])
 (.seq (.seq (.ops [⟨(some ⟨.d0, .d1, .d5⟩), none, .mv (.t ⟨.d0, .d0, .d5⟩)⟩,
  ⟨(some ⟨.d0, .d1, .d6⟩), none, .callF ⟨.d0, .d1, .d2⟩ [(.t ⟨.d0, .d1, .d5⟩)]⟩,
  ⟨(some ⟨.d0, .d1, .d4⟩), none, .mv (.t ⟨.d0, .d1, .d6⟩)⟩,
  ⟨(some ⟨.d0, .d1, .d7⟩), none, .ext (.t ⟨.d0, .d1, .d4⟩) 0⟩,
  ⟨(some ⟨.d0, .d2, .d0⟩), none, .ext (.t ⟨.d0, .d1, .d4⟩) 1⟩,
  ⟨(some ⟨.d0, .d0, .d3⟩), none, .mv (.t ⟨.d0, .d1, .d7⟩)⟩,
  ⟨(some ⟨.d0, .d0, .d4⟩), none, .mv (.t ⟨.d0, .d2, .d0⟩)⟩])
 (.seq (.ops [⟨(some ⟨.d0, .d2, .d1⟩), none, .mv (.t ⟨.d0, .d0, .d4⟩)⟩,
  ⟨(some ⟨.d0, .d2, .d2⟩), none, .bin .neq (.t ⟨.d0, .d2, .d1⟩) (.c (.int .i64 (.ofNat 0)))⟩])
 (.cond (.t ⟨.d0, .d2, .d2⟩) (.seq (.ops [⟨(some ⟨.d0, .d2, .d3⟩), none, .build [(.int .i64 (.ofNat 0)), (.str []), (.str []), (.str []), (.int .i64 (.ofNat 0)), (.int .i64 (.ofNat 0)), .nils, (.bool false), (.bool false), .nils, .nils, .nils, .nils, .nilp, .nilp, .nils, .nils, (.int .i64 (.ofNat 0)), (.int .i64 (.ofNat 0))] []⟩,
  ⟨(some ⟨.d0, .d2, .d4⟩), none, .mv (.t ⟨.d0, .d0, .d3⟩)⟩,
  ⟨(some ⟨.d0, .d2, .d5⟩), none, .mv (.t ⟨.d0, .d0, .d4⟩)⟩,
  ⟨none, none, .store 19 (.t ⟨.d0, .d0, .d2⟩) (.t ⟨.d0, .d2, .d3⟩)⟩,
  ⟨(some ⟨.d0, .d0, .d3⟩), none, .mv (.t ⟨.d0, .d2, .d4⟩)⟩,
  ⟨(some ⟨.d0, .d0, .d4⟩), none, .mv (.t ⟨.d0, .d2, .d5⟩)⟩])
 .ret) .skip)))
 (.seq (.ops [⟨(some ⟨.d0, .d2, .d6⟩), none, .load (some 19) (.t ⟨.d0, .d0, .d2⟩)⟩,
  ⟨none, none, .store 19 (.t ⟨.d0, .d0, .d2⟩) (.t ⟨.d0, .d2, .d6⟩)⟩,
  ⟨(some ⟨.d0, .d0, .d3⟩), none, .mv (.c (.int .i64 (.ofNat 0)))⟩,
  ⟨(some ⟨.d0, .d0, .d4⟩), none, .mv (.c (.int .i64 (.ofNat 0)))⟩])
 .ret))))))
 [.cell (some 19) ⟨.d0, .d0, .d2⟩, .tmp ⟨.d0, .d0, .d3⟩, .tmp ⟨.d0, .d0, .d4⟩]
/-- umlaut/parse.deep -/
def e12 : Ent := .code [⟨.d0, .d0, .d0⟩, ⟨.d0, .d0, .d1⟩]
 (.seq (.ops [⟨(some ⟨.d0, .d0, .d2⟩), none, .box none (.t ⟨.d0, .d0, .d0⟩)⟩,
  ⟨(some ⟨.d0, .d0, .d3⟩), none, .box none (.t ⟨.d0, .d0, .d1⟩)⟩,
  ⟨(some ⟨.d0, .d0, .d4⟩), none, .mv (.c (.bool false))⟩])
 (.seq (.ops [⟨(some ⟨.d0, .d0, .d5⟩), none, .load none (.t ⟨.d0, .d0, .d3⟩)⟩,
  ⟨(some ⟨.d0, .d0, .d6⟩), none, .bin .eql (.t ⟨.d0, .d0, .d5⟩) (.c (.int .i64 (.ofNat 0)))⟩,
  ⟨(some ⟨.d0, .d0, .d7⟩), none, .mv (.t ⟨.d0, .d0, .d6⟩)⟩,
  ⟨(some ⟨.d0, .d1, .d0⟩), (some (⟨.d0, .d0, .d7⟩, false)), .fieldA 5 (.t ⟨.d0, .d0, .d2⟩)⟩,
  ⟨(some ⟨.d0, .d1, .d1⟩), (some (⟨.d0, .d0, .d7⟩, false)), .load none (.t ⟨.d0, .d1, .d0⟩)⟩,
  ⟨(some ⟨.d0, .d1, .d2⟩), (some (⟨.d0, .d0, .d7⟩, false)), .mkfn 23 [] [(.t ⟨.d0, .d0, .d3⟩)]⟩,
  ⟨(some ⟨.d0, .d1, .d3⟩), (some (⟨.d0, .d0, .d7⟩, false)), .callF ⟨.d0, .d2, .d6⟩ [(.t ⟨.d0, .d1, .d1⟩), (.t ⟨.d0, .d1, .d2⟩)]⟩,
  ⟨(some ⟨.d0, .d1, .d4⟩), none, .pick (.t ⟨.d0, .d0, .d7⟩) (.c (.bool true)) (.t ⟨.d0, .d1, .d3⟩)⟩,
  ⟨(some ⟨.d0, .d0, .d4⟩), none, .mv (.t ⟨.d0, .d1, .d4⟩)⟩])
 .ret))
 [.tmp ⟨.d0, .d0, .d4⟩]
/-- umlaut/parse.great -/
def e13 : Ent := .code [⟨.d0, .d0, .d0⟩, ⟨.d0, .d0, .d1⟩]
 (.seq (.ops [⟨(some ⟨.d0, .d0, .d4⟩), none, .mv (.c (.bool false))⟩])
 (.seq (.seq (.ops [⟨(some ⟨.d0, .d0, .d7⟩), none, .mv (.t ⟨.d0, .d0, .d0⟩)⟩,
  ⟨(some ⟨.d0, .d1, .d0⟩), none, .len .sli (.t ⟨.d0, .d0, .d7⟩)⟩,
  ⟨(some ⟨.d0, .d1, .d1⟩), none, .mv (.c (.int .i64 (.ofNat 0)))⟩])
 (.block 0 (.loop (.seq (.ops [⟨(some ⟨.d0, .d1, .d2⟩), none, .bin .lss (.t ⟨.d0, .d1, .d1⟩) (.t ⟨.d0, .d1, .d0⟩)⟩])
 (.seq (.cond (.t ⟨.d0, .d1, .d2⟩) .skip (.exit 0))
 (.seq (.block 1 (.seq (.ops [⟨(some ⟨.d0, .d1, .d3⟩), none, .idxA none 6 (.t ⟨.d0, .d0, .d7⟩) (.t ⟨.d0, .d1, .d1⟩)⟩,
  ⟨(some ⟨.d0, .d1, .d4⟩), none, .load (some 6) (.t ⟨.d0, .d1, .d3⟩)⟩,
  ⟨(some ⟨.d0, .d0, .d6⟩), none, .box none (.c (.agg [(.int .i64 (.ofNat 0)), (.int .i64 (.ofNat 0)), (.str []), (.str []), (.int .i64 (.ofNat 0)), .nils]))⟩,
  ⟨none, none, .store 6 (.t ⟨.d0, .d0, .d6⟩) (.t ⟨.d0, .d1, .d4⟩)⟩])
 (.seq (.ops [⟨(some ⟨.d0, .d1, .d5⟩), none, .mv (.t ⟨.d0, .d0, .d1⟩)⟩,
  ⟨(some ⟨.d0, .d1, .d6⟩), none, .nilck (.t ⟨.d0, .d1, .d5⟩)⟩,
  ⟨(some ⟨.d0, .d1, .d7⟩), none, .load none (.t ⟨.d0, .d1, .d6⟩)⟩,
  ⟨(some ⟨.d0, .d2, .d0⟩), none, .bin .sub (.t ⟨.d0, .d1, .d7⟩) (.c (.int .i64 (.ofNat 1)))⟩,
  ⟨(some ⟨.d0, .d2, .d1⟩), none, .nilck (.t ⟨.d0, .d1, .d5⟩)⟩,
  ⟨none, none, .store 1 (.t ⟨.d0, .d2, .d1⟩) (.t ⟨.d0, .d2, .d0⟩)⟩])
 (.seq (.ops [⟨(some ⟨.d0, .d2, .d2⟩), none, .mv (.t ⟨.d0, .d0, .d1⟩)⟩,
  ⟨(some ⟨.d0, .d2, .d3⟩), none, .nilck (.t ⟨.d0, .d2, .d2⟩)⟩,
  ⟨(some ⟨.d0, .d2, .d4⟩), none, .load none (.t ⟨.d0, .d2, .d3⟩)⟩,
  ⟨(some ⟨.d0, .d2, .d5⟩), none, .bin .lss (.t ⟨.d0, .d2, .d4⟩) (.c (.int .i64 (.ofNat 0)))⟩,
  ⟨(some ⟨.d0, .d2, .d6⟩), none, .mv (.t ⟨.d0, .d2, .d5⟩)⟩,
  ⟨(some ⟨.d0, .d2, .d7⟩), (some (⟨.d0, .d2, .d6⟩, false)), .fieldA 5 (.t ⟨.d0, .d0, .d6⟩)⟩,
  ⟨(some ⟨.d0, .d3, .d0⟩), (some (⟨.d0, .d2, .d6⟩, false)), .load none (.t ⟨.d0, .d2, .d7⟩)⟩,
  ⟨(some ⟨.d0, .d3, .d1⟩), (some (⟨.d0, .d2, .d6⟩, false)), .mv (.t ⟨.d0, .d0, .d1⟩)⟩,
  ⟨(some ⟨.d0, .d3, .d2⟩), (some (⟨.d0, .d2, .d6⟩, false)), .callF ⟨.d0, .d1, .d5⟩ [(.t ⟨.d0, .d3, .d0⟩), (.t ⟨.d0, .d3, .d1⟩)]⟩,
  ⟨(some ⟨.d0, .d3, .d3⟩), none, .pick (.t ⟨.d0, .d2, .d6⟩) (.c (.bool true)) (.t ⟨.d0, .d3, .d2⟩)⟩])
 (.cond (.t ⟨.d0, .d3, .d3⟩) (.seq (.ops [⟨(some ⟨.d0, .d0, .d4⟩), none, .mv (.c (.bool true))⟩])
 .ret) .skip)))))
 (.ops [⟨(some ⟨.d0, .d3, .d4⟩), none, .bin .add (.t ⟨.d0, .d1, .d1⟩) (.c (.int .i64 (.ofNat 1)))⟩,
  ⟨(some ⟨.d0, .d1, .d1⟩), none, .mv (.t ⟨.d0, .d3, .d4⟩)⟩])))))))
 (.seq (.ops [⟨(some ⟨.d0, .d0, .d4⟩), none, .mv (.c (.bool false))⟩])
 .ret)))
 [.tmp ⟨.d0, .d0, .d4⟩]
/-- (*umlaut/parse.printer).node -/
def e14 : Ent := .code [⟨.d0, .d0, .d0⟩, ⟨.d0, .d0, .d1⟩, ⟨.d0, .d0, .d2⟩]
 (.seq (.ops [⟨(some ⟨.d0, .d0, .d4⟩), none, .box none (.t ⟨.d0, .d0, .d1⟩)⟩])
 (.seq (.seq (.ops [⟨(some ⟨.d0, .d0, .d6⟩), none, .load (some 6) (.t ⟨.d0, .d0, .d4⟩)⟩,
  ⟨(some ⟨.d0, .d0, .d7⟩), none, .callF ⟨.d0, .d3, .d0⟩ [(.t ⟨.d0, .d0, .d6⟩)]⟩,
  ⟨(some ⟨.d0, .d1, .d0⟩), none, .mv (.t ⟨.d0, .d0, .d2⟩)⟩,
  ⟨(some ⟨.d0, .d1, .d1⟩), none, .bin .lss (.t ⟨.d0, .d0, .d7⟩) (.t ⟨.d0, .d1, .d0⟩)⟩])
 (.cond (.t ⟨.d0, .d1, .d1⟩) (.seq (.ops [⟨(some ⟨.d0, .d1, .d2⟩), none, .mv (.t ⟨.d0, .d0, .d0⟩)⟩,
  ⟨(some ⟨.d0, .d1, .d3⟩), none, .buildS none 1 1 [(.str [])] [(0, 1, (.c (.str [40])))]⟩,
  ⟨(some ⟨.d0, .d1, .d4⟩), none, .callF ⟨.d0, .d3, .d1⟩ [(.t ⟨.d0, .d1, .d2⟩), (.t ⟨.d0, .d1, .d3⟩)]⟩])
 (.seq (.ops [⟨(some ⟨.d0, .d1, .d5⟩), none, .mv (.t ⟨.d0, .d0, .d0⟩)⟩,
  ⟨(some ⟨.d0, .d1, .d6⟩), none, .load (some 6) (.t ⟨.d0, .d0, .d4⟩)⟩,
  ⟨(some ⟨.d0, .d1, .d7⟩), none, .callF ⟨.d0, .d3, .d2⟩ [(.t ⟨.d0, .d1, .d5⟩), (.t ⟨.d0, .d1, .d6⟩)]⟩])
 (.seq (.ops [⟨(some ⟨.d0, .d2, .d0⟩), none, .mv (.t ⟨.d0, .d0, .d0⟩)⟩,
  ⟨(some ⟨.d0, .d2, .d1⟩), none, .buildS none 1 1 [(.str [])] [(0, 1, (.c (.str [41])))]⟩,
  ⟨(some ⟨.d0, .d2, .d2⟩), none, .callF ⟨.d0, .d3, .d1⟩ [(.t ⟨.d0, .d2, .d0⟩), (.t ⟨.d0, .d2, .d1⟩)]⟩])
 .ret))) .skip))
 (.ops [⟨(some ⟨.d0, .d2, .d3⟩), none, .mv (.t ⟨.d0, .d0, .d0⟩)⟩,
  ⟨(some ⟨.d0, .d2, .d4⟩), none, .load (some 6) (.t ⟨.d0, .d0, .d4⟩)⟩,
  ⟨(some ⟨.d0, .d2, .d5⟩), none, .callF ⟨.d0, .d3, .d2⟩ [(.t ⟨.d0, .d2, .d3⟩), (.t ⟨.d0, .d2, .d4⟩)]⟩])))
 []
/-- umlaut/parse.Same -/
def e16 : Ent := .code [⟨.d0, .d0, .d0⟩, ⟨.d0, .d0, .d1⟩]
 (.seq (.ops [⟨(some ⟨.d0, .d0, .d2⟩), none, .box none (.t ⟨.d0, .d0, .d0⟩)⟩,
  ⟨(some ⟨.d0, .d0, .d3⟩), none, .box none (.t ⟨.d0, .d0, .d1⟩)⟩,
  ⟨(some ⟨.d0, .d0, .d4⟩), none, .mv (.c (.bool false))⟩])
 (.seq (.ops [⟨(some ⟨.d0, .d0, .d5⟩), none, .fieldA 0 (.t ⟨.d0, .d0, .d2⟩)⟩,
  ⟨(some ⟨.d0, .d0, .d6⟩), none, .load none (.t ⟨.d0, .d0, .d5⟩)⟩,
  ⟨(some ⟨.d0, .d0, .d7⟩), none, .fieldA 0 (.t ⟨.d0, .d0, .d3⟩)⟩,
  ⟨(some ⟨.d0, .d1, .d0⟩), none, .load none (.t ⟨.d0, .d0, .d7⟩)⟩,
  ⟨(some ⟨.d0, .d1, .d1⟩), none, .bin .eql (.t ⟨.d0, .d0, .d6⟩) (.t ⟨.d0, .d1, .d0⟩)⟩,
  ⟨(some ⟨.d0, .d1, .d2⟩), none, .mv (.t ⟨.d0, .d1, .d1⟩)⟩,
  ⟨(some ⟨.d0, .d1, .d3⟩), (some (⟨.d0, .d1, .d2⟩, true)), .fieldA 1 (.t ⟨.d0, .d0, .d2⟩)⟩,
  ⟨(some ⟨.d0, .d1, .d4⟩), (some (⟨.d0, .d1, .d2⟩, true)), .load none (.t ⟨.d0, .d1, .d3⟩)⟩,
  ⟨(some ⟨.d0, .d1, .d5⟩), (some (⟨.d0, .d1, .d2⟩, true)), .fieldA 1 (.t ⟨.d0, .d0, .d3⟩)⟩,
  ⟨(some ⟨.d0, .d1, .d6⟩), (some (⟨.d0, .d1, .d2⟩, true)), .load none (.t ⟨.d0, .d1, .d5⟩)⟩,
  ⟨(some ⟨.d0, .d1, .d7⟩), (some (⟨.d0, .d1, .d2⟩, true)), .bin .eql (.t ⟨.d0, .d1, .d4⟩) (.t ⟨.d0, .d1, .d6⟩)⟩,
  ⟨(some ⟨.d0, .d2, .d0⟩), none, .pick (.t ⟨.d0, .d1, .d2⟩) (.t ⟨.d0, .d1, .d7⟩) (.c (.bool false))⟩,
  ⟨(some ⟨.d0, .d2, .d1⟩), none, .mv (.t ⟨.d0, .d2, .d0⟩)⟩,
  ⟨(some ⟨.d0, .d2, .d2⟩), (some (⟨.d0, .d2, .d1⟩, true)), .fieldA 2 (.t ⟨.d0, .d0, .d2⟩)⟩,
  ⟨(some ⟨.d0, .d2, .d3⟩), (some (⟨.d0, .d2, .d1⟩, true)), .load none (.t ⟨.d0, .d2, .d2⟩)⟩,
  ⟨(some ⟨.d0, .d2, .d4⟩), (some (⟨.d0, .d2, .d1⟩, true)), .fieldA 2 (.t ⟨.d0, .d0, .d3⟩)⟩,
  ⟨(some ⟨.d0, .d2, .d5⟩), (some (⟨.d0, .d2, .d1⟩, true)), .load none (.t ⟨.d0, .d2, .d4⟩)⟩,
  ⟨(some ⟨.d0, .d2, .d6⟩), (some (⟨.d0, .d2, .d1⟩, true)), .bin .eql (.t ⟨.d0, .d2, .d3⟩) (.t ⟨.d0, .d2, .d5⟩)⟩,
  ⟨(some ⟨.d0, .d2, .d7⟩), none, .pick (.t ⟨.d0, .d2, .d1⟩) (.t ⟨.d0, .d2, .d6⟩) (.c (.bool false))⟩,
  ⟨(some ⟨.d0, .d3, .d0⟩), none, .mv (.t ⟨.d0, .d2, .d7⟩)⟩,
  ⟨(some ⟨.d0, .d3, .d1⟩), (some (⟨.d0, .d3, .d0⟩, true)), .fieldA 3 (.t ⟨.d0, .d0, .d2⟩)⟩,
  ⟨(some ⟨.d0, .d3, .d2⟩), (some (⟨.d0, .d3, .d0⟩, true)), .load none (.t ⟨.d0, .d3, .d1⟩)⟩,
  ⟨(some ⟨.d0, .d3, .d3⟩), (some (⟨.d0, .d3, .d0⟩, true)), .fieldA 3 (.t ⟨.d0, .d0, .d3⟩)⟩,
  ⟨(some ⟨.d0, .d3, .d4⟩), (some (⟨.d0, .d3, .d0⟩, true)), .load none (.t ⟨.d0, .d3, .d3⟩)⟩,
  ⟨(some ⟨.d0, .d3, .d5⟩), (some (⟨.d0, .d3, .d0⟩, true)), .bin .eql (.t ⟨.d0, .d3, .d2⟩) (.t ⟨.d0, .d3, .d4⟩)⟩,
  ⟨(some ⟨.d0, .d3, .d6⟩), none, .pick (.t ⟨.d0, .d3, .d0⟩) (.t ⟨.d0, .d3, .d5⟩) (.c (.bool false))⟩,
  ⟨(some ⟨.d0, .d3, .d7⟩), none, .mv (.t ⟨.d0, .d3, .d6⟩)⟩,
  ⟨(some ⟨.d0, .d4, .d0⟩), (some (⟨.d0, .d3, .d7⟩, true)), .fieldA 4 (.t ⟨.d0, .d0, .d2⟩)⟩,
  ⟨(some ⟨.d0, .d4, .d1⟩), (some (⟨.d0, .d3, .d7⟩, true)), .load none (.t ⟨.d0, .d4, .d0⟩)⟩,
  ⟨(some ⟨.d0, .d4, .d2⟩), (some (⟨.d0, .d3, .d7⟩, true)), .fieldA 4 (.t ⟨.d0, .d0, .d3⟩)⟩,
  ⟨(some ⟨.d0, .d4, .d3⟩), (some (⟨.d0, .d3, .d7⟩, true)), .load none (.t ⟨.d0, .d4, .d2⟩)⟩,
  ⟨(some ⟨.d0, .d4, .d4⟩), (some (⟨.d0, .d3, .d7⟩, true)), .bin .eql (.t ⟨.d0, .d4, .d1⟩) (.t ⟨.d0, .d4, .d3⟩)⟩,
  ⟨(some ⟨.d0, .d4, .d5⟩), none, .pick (.t ⟨.d0, .d3, .d7⟩) (.t ⟨.d0, .d4, .d4⟩) (.c (.bool false))⟩,
  ⟨(some ⟨.d0, .d4, .d6⟩), none, .mv (.t ⟨.d0, .d4, .d5⟩)⟩,
  ⟨(some ⟨.d0, .d4, .d7⟩), (some (⟨.d0, .d4, .d6⟩, true)), .fieldA 5 (.t ⟨.d0, .d0, .d2⟩)⟩,
  ⟨(some ⟨.d0, .d5, .d0⟩), (some (⟨.d0, .d4, .d6⟩, true)), .load none (.t ⟨.d0, .d4, .d7⟩)⟩,
  ⟨(some ⟨.d0, .d5, .d1⟩), (some (⟨.d0, .d4, .d6⟩, true)), .fieldA 5 (.t ⟨.d0, .d0, .d3⟩)⟩,
  ⟨(some ⟨.d0, .d5, .d2⟩), (some (⟨.d0, .d4, .d6⟩, true)), .load none (.t ⟨.d0, .d5, .d1⟩)⟩,
  ⟨(some ⟨.d0, .d5, .d3⟩), (some (⟨.d0, .d4, .d6⟩, true)), .callF ⟨.d0, .d3, .d6⟩ [(.t ⟨.d0, .d5, .d0⟩), (.t ⟨.d0, .d5, .d2⟩), (.c (.func 16 [] []))]⟩,
  ⟨(some ⟨.d0, .d5, .d4⟩), none, .pick (.t ⟨.d0, .d4, .d6⟩) (.t ⟨.d0, .d5, .d3⟩) (.c (.bool false))⟩,
  ⟨(some ⟨.d0, .d0, .d4⟩), none, .mv (.t ⟨.d0, .d5, .d4⟩)⟩])
 .ret))
 [.tmp ⟨.d0, .d0, .d4⟩]
/-- umlaut/lex.Tokens -/
def e17 : Ent := .code [⟨.d0, .d0, .d0⟩]
 (.seq (.ops [⟨(some ⟨.d0, .d0, .d2⟩), none, .mv (.c .nils)⟩,
  ⟨(some ⟨.d0, .d0, .d3⟩), none, .mv (.c (.int .i64 (.ofNat 0)))⟩,
  ⟨(some ⟨.d0, .d0, .d4⟩), none, .mv (.c (.int .i64 (.ofNat 0)))⟩])
 (.seq (.seq (.ops [⟨(some ⟨.d0, .d0, .d7⟩), none, .mv (.t ⟨.d0, .d0, .d0⟩)⟩,
  ⟨(some ⟨.d0, .d1, .d0⟩), none, .len .str (.t ⟨.d0, .d0, .d7⟩)⟩,
  ⟨(some ⟨.d0, .d1, .d1⟩), none, .bin .gtr (.t ⟨.d0, .d1, .d0⟩) (.c (.int .i64 (.ofNat 4000)))⟩])
 (.cond (.t ⟨.d0, .d1, .d1⟩) (.seq (.ops [⟨(some ⟨.d0, .d0, .d2⟩), none, .mv (.c .nils)⟩,
  ⟨(some ⟨.d0, .d0, .d3⟩), none, .mv (.c (.int .i64 (.ofNat 0)))⟩,
  ⟨(some ⟨.d0, .d0, .d4⟩), none, .mv (.c (.int .i64 (.ofNat 2)))⟩])
 .ret) .skip))
 (.seq (.seq (.ops [⟨(some ⟨.d0, .d1, .d2⟩), none, .mv (.t ⟨.d0, .d0, .d0⟩)⟩,
  ⟨(some ⟨.d0, .d1, .d3⟩), none, .callF ⟨.d0, .d3, .d7⟩ [(.t ⟨.d0, .d1, .d2⟩)]⟩,
  ⟨(some ⟨.d0, .d0, .d3⟩), none, .mv (.t ⟨.d0, .d1, .d3⟩)⟩])
 (.block 0 (.loop (.seq (.seq (.ops [⟨(some ⟨.d0, .d1, .d4⟩), none, .mv (.t ⟨.d0, .d0, .d3⟩)⟩,
  ⟨(some ⟨.d0, .d1, .d5⟩), none, .mv (.t ⟨.d0, .d0, .d0⟩)⟩,
  ⟨(some ⟨.d0, .d1, .d6⟩), none, .len .str (.t ⟨.d0, .d1, .d5⟩)⟩,
  ⟨(some ⟨.d0, .d1, .d7⟩), none, .bin .lss (.t ⟨.d0, .d1, .d4⟩) (.t ⟨.d0, .d1, .d6⟩)⟩])
 (.cond (.t ⟨.d0, .d1, .d7⟩) .skip (.exit 0)))
 (.seq (.block 1 (.seq (.ops [⟨(some ⟨.d0, .d2, .d7⟩), none, .mv (.t ⟨.d0, .d0, .d0⟩)⟩,
  ⟨(some ⟨.d0, .d3, .d0⟩), none, .mv (.t ⟨.d0, .d0, .d3⟩)⟩,
  ⟨(some ⟨.d0, .d3, .d1⟩), none, .sliS (.t ⟨.d0, .d2, .d7⟩) (some (.t ⟨.d0, .d3, .d0⟩)) none⟩,
  ⟨(some ⟨.d0, .d3, .d2⟩), none, .callF ⟨.d0, .d4, .d0⟩ [(.t ⟨.d0, .d3, .d1⟩)]⟩,
  ⟨(some ⟨.d0, .d2, .d6⟩), none, .mv (.t ⟨.d0, .d3, .d2⟩)⟩,
  ⟨(some ⟨.d0, .d3, .d3⟩), none, .ext (.t ⟨.d0, .d2, .d6⟩) 0⟩,
  ⟨(some ⟨.d0, .d3, .d4⟩), none, .ext (.t ⟨.d0, .d2, .d6⟩) 1⟩,
  ⟨(some ⟨.d0, .d0, .d5⟩), none, .box none (.c (.agg [(.int .i64 (.ofNat 0)), (.str []), (.int .i64 (.ofNat 0)), (.int .i64 (.ofNat 0))]))⟩,
  ⟨none, none, .store 4 (.t ⟨.d0, .d0, .d5⟩) (.t ⟨.d0, .d3, .d3⟩)⟩,
  ⟨(some ⟨.d0, .d0, .d6⟩), none, .mv (.t ⟨.d0, .d3, .d4⟩)⟩])
 (.seq (.seq (.ops [⟨(some ⟨.d0, .d3, .d5⟩), none, .mv (.t ⟨.d0, .d0, .d6⟩)⟩,
  ⟨(some ⟨.d0, .d3, .d6⟩), none, .bin .eql (.t ⟨.d0, .d3, .d5⟩) (.c (.int .i64 (.ofNat 0)))⟩])
 (.cond (.t ⟨.d0, .d3, .d6⟩) (.seq (.ops [⟨(some ⟨.d0, .d3, .d7⟩), none, .mv (.t ⟨.d0, .d0, .d3⟩)⟩,
  ⟨(some ⟨.d0, .d0, .d2⟩), none, .mv (.c .nils)⟩,
  ⟨(some ⟨.d0, .d0, .d3⟩), none, .mv (.t ⟨.d0, .d3, .d7⟩)⟩,
  ⟨(some ⟨.d0, .d0, .d4⟩), none, .mv (.c (.int .i64 (.ofNat 10)))⟩])
 .ret) .skip))
 (.seq (.ops [⟨(some ⟨.d0, .d4, .d0⟩), none, .mv (.t ⟨.d0, .d0, .d3⟩)⟩,
  ⟨(some ⟨.d0, .d4, .d1⟩), none, .fieldA 3 (.t ⟨.d0, .d0, .d5⟩)⟩,
  ⟨none, none, .store 1 (.t ⟨.d0, .d4, .d1⟩) (.t ⟨.d0, .d4, .d0⟩)⟩])
 (.seq (.ops [⟨(some ⟨.d0, .d4, .d2⟩), none, .mv (.t ⟨.d0, .d0, .d2⟩)⟩,
  ⟨(some ⟨.d0, .d4, .d3⟩), none, .load (some 4) (.t ⟨.d0, .d0, .d5⟩)⟩,
  ⟨(some ⟨.d0, .d4, .d4⟩), none, .buildS none 4 1 [(.int .i64 (.ofNat 0)), (.str []), (.int .i64 (.ofNat 0)), (.int .i64 (.ofNat 0))] [(0, 4, (.t ⟨.d0, .d4, .d3⟩))]⟩,
  ⟨(some ⟨.d0, .d4, .d5⟩), none, .app 4 40 (.t ⟨.d0, .d4, .d2⟩) (.t ⟨.d0, .d4, .d4⟩)⟩,
  ⟨(some ⟨.d0, .d0, .d2⟩), none, .mv (.t ⟨.d0, .d4, .d5⟩)⟩])
 (.ops [⟨(some ⟨.d0, .d4, .d6⟩), none, .mv (.t ⟨.d0, .d0, .d3⟩)⟩,
  ⟨(some ⟨.d0, .d4, .d7⟩), none, .mv (.t ⟨.d0, .d0, .d6⟩)⟩,
  ⟨(some ⟨.d0, .d5, .d0⟩), none, .bin .add (.t ⟨.d0, .d4, .d6⟩) (.t ⟨.d0, .d4, .d7⟩)⟩,
  ⟨(some ⟨.d0, .d0, .d3⟩), none, .mv (.t ⟨.d0, .d5, .d0⟩)⟩]))))))
 (.ops [⟨(some ⟨.d0, .d2, .d0⟩), none, .mv (.t ⟨.d0, .d0, .d3⟩)⟩,
  ⟨(some ⟨.d0, .d2, .d1⟩), none, .mv (.t ⟨.d0, .d0, .d0⟩)⟩,
  ⟨(some ⟨.d0, .d2, .d2⟩), none, .mv (.t ⟨.d0, .d0, .d3⟩)⟩,
  ⟨(some ⟨.d0, .d2, .d3⟩), none, .sliS (.t ⟨.d0, .d2, .d1⟩) (some (.t ⟨.d0, .d2, .d2⟩)) none⟩,
  ⟨(some ⟨.d0, .d2, .d4⟩), none, .callF ⟨.d0, .d3, .d7⟩ [(.t ⟨.d0, .d2, .d3⟩)]⟩,
  ⟨(some ⟨.d0, .d2, .d5⟩), none, .bin .add (.t ⟨.d0, .d2, .d0⟩) (.t ⟨.d0, .d2, .d4⟩)⟩,
  ⟨(some ⟨.d0, .d0, .d3⟩), none, .mv (.t ⟨.d0, .d2, .d5⟩)⟩]))))))
 (.seq (.ops [⟨(some ⟨.d0, .d5, .d1⟩), none, .mv (.t ⟨.d0, .d0, .d2⟩)⟩,
  ⟨(some ⟨.d0, .d0, .d2⟩), none, .mv (.t ⟨.d0, .d5, .d1⟩)⟩,
  ⟨(some ⟨.d0, .d0, .d3⟩), none, .mv (.c (.int .i64 (.ofNat 0)))⟩,
  ⟨(some ⟨.d0, .d0, .d4⟩), none, .mv (.c (.int .i64 (.ofNat 0)))⟩])
 .ret))))
 [.tmp ⟨.d0, .d0, .d2⟩, .tmp ⟨.d0, .d0, .d3⟩, .tmp ⟨.d0, .d0, .d4⟩]
/-- umlaut/parse.levels -/
def e18 : Ent := .code []
 (.seq (.ops [⟨(some ⟨.d0, .d0, .d0⟩), none, .box none (.c (.agg [.nilf, .nilf, .nilf, .nilf, .nilf, .nilf, .nilf, .nilf, .nilf, .nilf, .nilf, .nilf, .nilf]))⟩])
 (.seq (.ops [⟨(some ⟨.d0, .d0, .d1⟩), none, .mv (.c (.func 33 [] []))⟩])
 (.seq (.ops [⟨(some ⟨.d0, .d0, .d2⟩), none, .mv (.t ⟨.d0, .d0, .d1⟩)⟩,
  ⟨(some ⟨.d0, .d0, .d3⟩), none, .mv (.t ⟨.d0, .d0, .d1⟩)⟩,
  ⟨(some ⟨.d0, .d0, .d4⟩), none, .mv (.t ⟨.d0, .d0, .d1⟩)⟩,
  ⟨(some ⟨.d0, .d0, .d5⟩), none, .mv (.t ⟨.d0, .d0, .d1⟩)⟩,
  ⟨(some ⟨.d0, .d0, .d6⟩), none, .mv (.t ⟨.d0, .d0, .d1⟩)⟩,
  ⟨(some ⟨.d0, .d0, .d7⟩), none, .mv (.t ⟨.d0, .d0, .d1⟩)⟩,
  ⟨(some ⟨.d0, .d1, .d0⟩), none, .mv (.t ⟨.d0, .d0, .d1⟩)⟩,
  ⟨(some ⟨.d0, .d1, .d1⟩), none, .build [.nilf, .nilf, .nilf, .nilf, .nilf, .nilf, .nilf, .nilf, .nilf, .nilf, .nilf, .nilf, .nilf] [(1, 1, (.t ⟨.d0, .d0, .d2⟩)), (2, 1, (.t ⟨.d0, .d0, .d3⟩)), (3, 1, (.c (.func 34 [] []))), (4, 1, (.c (.func 35 [] []))), (5, 1, (.t ⟨.d0, .d0, .d4⟩)), (6, 1, (.t ⟨.d0, .d0, .d5⟩)), (7, 1, (.t ⟨.d0, .d0, .d6⟩)), (8, 1, (.t ⟨.d0, .d0, .d7⟩)), (9, 1, (.t ⟨.d0, .d1, .d0⟩)), (10, 1, (.c (.func 36 [] []))), (11, 1, (.c (.func 37 [] []))), (12, 1, (.c (.func 38 [] [])))]⟩,
  ⟨none, none, .store 13 (.t ⟨.d0, .d0, .d0⟩) (.t ⟨.d0, .d1, .d1⟩)⟩])
 .ret)))
 [.cell (some 13) ⟨.d0, .d0, .d0⟩]
/-- (*umlaut/parse.parser).wrong -/
def e19 : Ent := .code [⟨.d0, .d0, .d0⟩, ⟨.d0, .d0, .d1⟩]
 (.seq (.seq (.ops [⟨(some ⟨.d0, .d0, .d4⟩), none, .mv (.t ⟨.d0, .d0, .d0⟩)⟩,
  ⟨(some ⟨.d0, .d0, .d5⟩), none, .nilck (.t ⟨.d0, .d0, .d4⟩)⟩,
  ⟨(some ⟨.d0, .d0, .d6⟩), none, .fieldA 5 (.t ⟨.d0, .d0, .d5⟩)⟩,
  ⟨(some ⟨.d0, .d0, .d7⟩), none, .load none (.t ⟨.d0, .d0, .d6⟩)⟩,
  ⟨(some ⟨.d0, .d1, .d0⟩), none, .bin .neq (.t ⟨.d0, .d0, .d7⟩) (.c (.int .i64 (.ofNat 0)))⟩])
 (.cond (.t ⟨.d0, .d1, .d0⟩) .ret .skip))
 (.seq (.ops [⟨(some ⟨.d0, .d1, .d1⟩), none, .mv (.t ⟨.d0, .d0, .d0⟩)⟩,
  ⟨(some ⟨.d0, .d1, .d2⟩), none, .mv (.t ⟨.d0, .d0, .d0⟩)⟩,
  ⟨(some ⟨.d0, .d1, .d3⟩), none, .mv (.t ⟨.d0, .d0, .d1⟩)⟩,
  ⟨(some ⟨.d0, .d1, .d4⟩), none, .mv (.t ⟨.d0, .d0, .d0⟩)⟩,
  ⟨(some ⟨.d0, .d1, .d5⟩), none, .nilck (.t ⟨.d0, .d1, .d4⟩)⟩,
  ⟨(some ⟨.d0, .d1, .d6⟩), none, .fieldA 2 (.t ⟨.d0, .d1, .d5⟩)⟩,
  ⟨(some ⟨.d0, .d1, .d7⟩), none, .load none (.t ⟨.d0, .d1, .d6⟩)⟩,
  ⟨(some ⟨.d0, .d2, .d0⟩), none, .nilck (.t ⟨.d0, .d1, .d1⟩)⟩,
  ⟨(some ⟨.d0, .d2, .d1⟩), none, .fieldA 5 (.t ⟨.d0, .d2, .d0⟩)⟩,
  ⟨none, none, .store 1 (.t ⟨.d0, .d2, .d1⟩) (.t ⟨.d0, .d1, .d3⟩)⟩,
  ⟨(some ⟨.d0, .d2, .d2⟩), none, .nilck (.t ⟨.d0, .d1, .d2⟩)⟩,
  ⟨(some ⟨.d0, .d2, .d3⟩), none, .fieldA 4 (.t ⟨.d0, .d2, .d2⟩)⟩,
  ⟨none, none, .store 1 (.t ⟨.d0, .d2, .d3⟩) (.t ⟨.d0, .d1, .d7⟩)⟩])
 (.seq (.reg 0 [] [⟨(some ⟨.d0, .d2, .d4⟩), none, .mv (.t ⟨.d0, .d0, .d0⟩)⟩,
  ⟨(some ⟨.d0, .d2, .d5⟩), none, .nilck (.t ⟨.d0, .d2, .d4⟩)⟩,
  ⟨(some ⟨.d0, .d2, .d6⟩), none, .fieldA 1 (.t ⟨.d0, .d2, .d5⟩)⟩,
  ⟨(some ⟨.d0, .d2, .d7⟩), none, .load none (.t ⟨.d0, .d2, .d6⟩)⟩,
  ⟨(some ⟨.d0, .d3, .d0⟩), none, .mv (.t ⟨.d0, .d0, .d0⟩)⟩,
  ⟨(some ⟨.d0, .d3, .d1⟩), none, .nilck (.t ⟨.d0, .d3, .d0⟩)⟩,
  ⟨(some ⟨.d0, .d3, .d2⟩), none, .fieldA 0 (.t ⟨.d0, .d3, .d1⟩)⟩,
  ⟨(some ⟨.d0, .d3, .d3⟩), none, .load none (.t ⟨.d0, .d3, .d2⟩)⟩,
  ⟨(some ⟨.d0, .d3, .d4⟩), none, .len .sli (.t ⟨.d0, .d3, .d3⟩)⟩,
  ⟨(some ⟨.d0, .d3, .d5⟩), none, .bin .lss (.t ⟨.d0, .d2, .d7⟩) (.t ⟨.d0, .d3, .d4⟩)⟩])
 (.cond (.t ⟨.d0, .d3, .d5⟩) (.reg 0 [] [⟨(some ⟨.d0, .d3, .d6⟩), none, .mv (.t ⟨.d0, .d0, .d0⟩)⟩,
  ⟨(some ⟨.d0, .d3, .d7⟩), none, .mv (.t ⟨.d0, .d0, .d0⟩)⟩,
  ⟨(some ⟨.d0, .d4, .d0⟩), none, .nilck (.t ⟨.d0, .d3, .d7⟩)⟩,
  ⟨(some ⟨.d0, .d4, .d1⟩), none, .fieldA 0 (.t ⟨.d0, .d4, .d0⟩)⟩,
  ⟨(some ⟨.d0, .d4, .d2⟩), none, .load none (.t ⟨.d0, .d4, .d1⟩)⟩,
  ⟨(some ⟨.d0, .d4, .d3⟩), none, .mv (.t ⟨.d0, .d0, .d0⟩)⟩,
  ⟨(some ⟨.d0, .d4, .d4⟩), none, .nilck (.t ⟨.d0, .d4, .d3⟩)⟩,
  ⟨(some ⟨.d0, .d4, .d5⟩), none, .fieldA 1 (.t ⟨.d0, .d4, .d4⟩)⟩,
  ⟨(some ⟨.d0, .d4, .d6⟩), none, .load none (.t ⟨.d0, .d4, .d5⟩)⟩,
  ⟨(some ⟨.d0, .d4, .d7⟩), none, .idxA none 4 (.t ⟨.d0, .d4, .d2⟩) (.t ⟨.d0, .d4, .d6⟩)⟩,
  ⟨(some ⟨.d0, .d5, .d0⟩), none, .fieldA 3 (.t ⟨.d0, .d4, .d7⟩)⟩,
  ⟨(some ⟨.d0, .d5, .d1⟩), none, .load none (.t ⟨.d0, .d5, .d0⟩)⟩,
  ⟨(some ⟨.d0, .d5, .d2⟩), none, .nilck (.t ⟨.d0, .d3, .d6⟩)⟩,
  ⟨(some ⟨.d0, .d5, .d3⟩), none, .fieldA 4 (.t ⟨.d0, .d5, .d2⟩)⟩,
  ⟨none, none, .store 1 (.t ⟨.d0, .d5, .d3⟩) (.t ⟨.d0, .d5, .d1⟩)⟩]) .skip))))
 []
/-- (*umlaut/parse.parser).statement -/
def e20 : Ent := .code [⟨.d0, .d0, .d0⟩]
 (.seq (.ops [⟨(some ⟨.d0, .d0, .d2⟩), none, .box none (.c (.agg [(.int .i64 (.ofNat 0)), (.str []), (.str []), (.str []), (.int .i64 (.ofNat 0)), (.int .i64 (.ofNat 0)), .nils, (.bool false), (.bool false), .nils, .nils, .nils, .nils, .nilp, .nilp, .nils, .nils, (.int .i64 (.ofNat 0)), (.int .i64 (.ofNat 0))]))⟩])
 (.seq (.block 0 (.seq (.ops [⟨(some ⟨.d0, .d0, .d4⟩), none, .mv (.t ⟨.d0, .d0, .d0⟩)⟩,
  ⟨(some ⟨.d0, .d0, .d5⟩), none, .callF ⟨.d0, .d4, .d7⟩ [(.t ⟨.d0, .d0, .d4⟩), (.c (.str [67, 82, 69, 65, 84, 69]))]⟩,
  ⟨(some ⟨.d0, .d0, .d3⟩), none, .mv (.t ⟨.d0, .d0, .d5⟩)⟩])
 (.cond (.t ⟨.d0, .d0, .d3⟩) (.seq (.ops [⟨(some ⟨.d0, .d0, .d6⟩), none, .mv (.t ⟨.d0, .d0, .d0⟩)⟩,
  ⟨(some ⟨.d0, .d0, .d7⟩), none, .callF ⟨.d0, .d5, .d0⟩ [(.t ⟨.d0, .d0, .d6⟩)]⟩,
  ⟨none, none, .store 19 (.t ⟨.d0, .d0, .d2⟩) (.t ⟨.d0, .d0, .d7⟩)⟩])
 .ret) (.seq (.ops [⟨(some ⟨.d0, .d1, .d1⟩), none, .mv (.t ⟨.d0, .d0, .d0⟩)⟩,
  ⟨(some ⟨.d0, .d1, .d2⟩), none, .callF ⟨.d0, .d4, .d7⟩ [(.t ⟨.d0, .d1, .d1⟩), (.c (.str [68, 82, 79, 80]))]⟩,
  ⟨(some ⟨.d0, .d1, .d0⟩), none, .mv (.t ⟨.d0, .d1, .d2⟩)⟩])
 (.cond (.t ⟨.d0, .d1, .d0⟩) (.seq (.ops [⟨(some ⟨.d0, .d1, .d3⟩), none, .mv (.t ⟨.d0, .d0, .d0⟩)⟩,
  ⟨(some ⟨.d0, .d1, .d4⟩), none, .callF ⟨.d0, .d5, .d1⟩ [(.t ⟨.d0, .d1, .d3⟩)]⟩,
  ⟨none, none, .store 19 (.t ⟨.d0, .d0, .d2⟩) (.t ⟨.d0, .d1, .d4⟩)⟩])
 .ret) (.seq (.ops [⟨(some ⟨.d0, .d1, .d6⟩), none, .mv (.t ⟨.d0, .d0, .d0⟩)⟩,
  ⟨(some ⟨.d0, .d1, .d7⟩), none, .callF ⟨.d0, .d4, .d7⟩ [(.t ⟨.d0, .d1, .d6⟩), (.c (.str [73, 78, 83, 69, 82, 84]))]⟩,
  ⟨(some ⟨.d0, .d1, .d5⟩), none, .mv (.t ⟨.d0, .d1, .d7⟩)⟩])
 (.cond (.t ⟨.d0, .d1, .d5⟩) (.seq (.ops [⟨(some ⟨.d0, .d2, .d0⟩), none, .mv (.t ⟨.d0, .d0, .d0⟩)⟩,
  ⟨(some ⟨.d0, .d2, .d1⟩), none, .callF ⟨.d0, .d5, .d2⟩ [(.t ⟨.d0, .d2, .d0⟩)]⟩,
  ⟨none, none, .store 19 (.t ⟨.d0, .d0, .d2⟩) (.t ⟨.d0, .d2, .d1⟩)⟩])
 .ret) (.seq (.ops [⟨(some ⟨.d0, .d2, .d3⟩), none, .mv (.t ⟨.d0, .d0, .d0⟩)⟩,
  ⟨(some ⟨.d0, .d2, .d4⟩), none, .callF ⟨.d0, .d4, .d7⟩ [(.t ⟨.d0, .d2, .d3⟩), (.c (.str [85, 80, 68, 65, 84, 69]))]⟩,
  ⟨(some ⟨.d0, .d2, .d2⟩), none, .mv (.t ⟨.d0, .d2, .d4⟩)⟩])
 (.cond (.t ⟨.d0, .d2, .d2⟩) (.seq (.ops [⟨(some ⟨.d0, .d2, .d5⟩), none, .mv (.t ⟨.d0, .d0, .d0⟩)⟩,
  ⟨(some ⟨.d0, .d2, .d6⟩), none, .callF ⟨.d0, .d5, .d3⟩ [(.t ⟨.d0, .d2, .d5⟩)]⟩,
  ⟨none, none, .store 19 (.t ⟨.d0, .d0, .d2⟩) (.t ⟨.d0, .d2, .d6⟩)⟩])
 .ret) (.seq (.ops [⟨(some ⟨.d0, .d3, .d0⟩), none, .mv (.t ⟨.d0, .d0, .d0⟩)⟩,
  ⟨(some ⟨.d0, .d3, .d1⟩), none, .callF ⟨.d0, .d4, .d7⟩ [(.t ⟨.d0, .d3, .d0⟩), (.c (.str [68, 69, 76, 69, 84, 69]))]⟩,
  ⟨(some ⟨.d0, .d2, .d7⟩), none, .mv (.t ⟨.d0, .d3, .d1⟩)⟩])
 (.cond (.t ⟨.d0, .d2, .d7⟩) (.seq (.ops [⟨(some ⟨.d0, .d3, .d2⟩), none, .mv (.t ⟨.d0, .d0, .d0⟩)⟩,
  ⟨(some ⟨.d0, .d3, .d3⟩), none, .callF ⟨.d0, .d5, .d4⟩ [(.t ⟨.d0, .d3, .d2⟩)]⟩,
  ⟨none, none, .store 19 (.t ⟨.d0, .d0, .d2⟩) (.t ⟨.d0, .d3, .d3⟩)⟩])
 .ret) .skip)))))))))))
 (.seq (.ops [⟨(some ⟨.d0, .d3, .d4⟩), none, .mv (.t ⟨.d0, .d0, .d0⟩)⟩,
  ⟨(some ⟨.d0, .d3, .d5⟩), none, .buildS none 1 1 [(.str [])] [(0, 1, (.c (.str [83, 69, 76, 69, 67, 84])))]⟩,
  ⟨(some ⟨.d0, .d3, .d6⟩), none, .callF ⟨.d0, .d5, .d5⟩ [(.t ⟨.d0, .d3, .d4⟩), (.t ⟨.d0, .d3, .d5⟩)]⟩])
 (.seq (.ops [⟨(some ⟨.d0, .d3, .d7⟩), none, .mv (.t ⟨.d0, .d0, .d0⟩)⟩,
  ⟨(some ⟨.d0, .d4, .d0⟩), none, .callF ⟨.d0, .d5, .d6⟩ [(.t ⟨.d0, .d3, .d7⟩)]⟩,
  ⟨none, none, .store 19 (.t ⟨.d0, .d0, .d2⟩) (.t ⟨.d0, .d4, .d0⟩)⟩])
 .ret))))
 [.cell (some 19) ⟨.d0, .d0, .d2⟩]
/-- (*umlaut/parse.parser).op -/
def e21 : Ent := .code [⟨.d0, .d0, .d0⟩, ⟨.d0, .d0, .d1⟩]
 (.seq (.ops [⟨(some ⟨.d0, .d0, .d4⟩), none, .mv (.c (.bool false))⟩])
 (.seq (.seq (.ops [⟨(some ⟨.d0, .d0, .d5⟩), none, .mv (.t ⟨.d0, .d0, .d0⟩)⟩,
  ⟨(some ⟨.d0, .d0, .d6⟩), none, .mv (.t ⟨.d0, .d0, .d1⟩)⟩,
  ⟨(some ⟨.d0, .d0, .d7⟩), none, .callF ⟨.d0, .d5, .d7⟩ [(.t ⟨.d0, .d0, .d5⟩), (.c (.int .i64 (.ofNat 5))), (.t ⟨.d0, .d0, .d6⟩)]⟩,
  ⟨(some ⟨.d0, .d1, .d0⟩), none, .un .not (.t ⟨.d0, .d0, .d7⟩)⟩])
 (.cond (.t ⟨.d0, .d1, .d0⟩) (.seq (.ops [⟨(some ⟨.d0, .d0, .d4⟩), none, .mv (.c (.bool false))⟩])
 .ret) .skip))
 (.seq (.ops [⟨(some ⟨.d0, .d1, .d1⟩), none, .mv (.t ⟨.d0, .d0, .d0⟩)⟩,
  ⟨(some ⟨.d0, .d1, .d2⟩), none, .nilck (.t ⟨.d0, .d1, .d1⟩)⟩,
  ⟨(some ⟨.d0, .d1, .d3⟩), none, .fieldA 1 (.t ⟨.d0, .d1, .d2⟩)⟩,
  ⟨(some ⟨.d0, .d1, .d4⟩), none, .load none (.t ⟨.d0, .d1, .d3⟩)⟩,
  ⟨(some ⟨.d0, .d1, .d5⟩), none, .bin .add (.t ⟨.d0, .d1, .d4⟩) (.c (.int .i64 (.ofNat 1)))⟩,
  ⟨(some ⟨.d0, .d1, .d6⟩), none, .nilck (.t ⟨.d0, .d1, .d1⟩)⟩,
  ⟨(some ⟨.d0, .d1, .d7⟩), none, .fieldA 1 (.t ⟨.d0, .d1, .d6⟩)⟩,
  ⟨none, none, .store 1 (.t ⟨.d0, .d1, .d7⟩) (.t ⟨.d0, .d1, .d5⟩)⟩])
 (.seq (.ops [⟨(some ⟨.d0, .d0, .d4⟩), none, .mv (.c (.bool true))⟩])
 .ret))))
 [.tmp ⟨.d0, .d0, .d4⟩]
/-- slices.ContainsFunc[[]umlaut/api.Node,umlaut/api.Node] -/
def e22 : Ent := .code [⟨.d0, .d0, .d0⟩, ⟨.d0, .d0, .d1⟩]
 (.seq (.ops [⟨(some ⟨.d0, .d0, .d4⟩), none, .mv (.c (.bool false))⟩])
 (.seq (.ops [⟨(some ⟨.d0, .d0, .d5⟩), none, .mv (.t ⟨.d0, .d0, .d0⟩)⟩,
  ⟨(some ⟨.d0, .d0, .d6⟩), none, .mv (.t ⟨.d0, .d0, .d1⟩)⟩,
  ⟨(some ⟨.d0, .d0, .d7⟩), none, .callF ⟨.d0, .d6, .d0⟩ [(.t ⟨.d0, .d0, .d5⟩), (.t ⟨.d0, .d0, .d6⟩)]⟩,
  ⟨(some ⟨.d0, .d1, .d0⟩), none, .bin .geq (.t ⟨.d0, .d0, .d7⟩) (.c (.int .i64 (.ofNat 0)))⟩,
  ⟨(some ⟨.d0, .d0, .d4⟩), none, .mv (.t ⟨.d0, .d1, .d0⟩)⟩])
 .ret))
 [.tmp ⟨.d0, .d0, .d4⟩]
/-- umlaut/parse.deep$1 -/
def e23 : Ent := .code [⟨.d0, .d0, .d0⟩, ⟨.d0, .d0, .d1⟩]
 (.seq (.ops [⟨(some ⟨.d0, .d0, .d2⟩), none, .box none (.t ⟨.d0, .d0, .d0⟩)⟩,
  ⟨(some ⟨.d0, .d0, .d3⟩), none, .mv (.c (.bool false))⟩])
 (.seq (.ops [⟨(some ⟨.d0, .d0, .d4⟩), none, .load (some 6) (.t ⟨.d0, .d0, .d2⟩)⟩,
  ⟨(some ⟨.d0, .d0, .d5⟩), none, .load none (.t ⟨.d0, .d0, .d1⟩)⟩,
  ⟨(some ⟨.d0, .d0, .d6⟩), none, .bin .sub (.t ⟨.d0, .d0, .d5⟩) (.c (.int .i64 (.ofNat 1)))⟩,
  ⟨(some ⟨.d0, .d0, .d7⟩), none, .callF ⟨.d0, .d1, .d4⟩ [(.t ⟨.d0, .d0, .d4⟩), (.t ⟨.d0, .d0, .d6⟩)]⟩,
  ⟨(some ⟨.d0, .d0, .d3⟩), none, .mv (.t ⟨.d0, .d0, .d7⟩)⟩])
 .ret))
 [.tmp ⟨.d0, .d0, .d3⟩]
/-- umlaut/parse.strength -/
def e24 : Ent := .code [⟨.d0, .d0, .d0⟩]
 (.seq (.ops [⟨(some ⟨.d0, .d0, .d1⟩), none, .box none (.t ⟨.d0, .d0, .d0⟩)⟩,
  ⟨(some ⟨.d0, .d0, .d2⟩), none, .mv (.c (.int .i64 (.ofNat 0)))⟩])
 (.seq (.seq (.ops [⟨(some ⟨.d0, .d0, .d6⟩), none, .fieldA 0 (.t ⟨.d0, .d0, .d1⟩)⟩,
  ⟨(some ⟨.d0, .d0, .d7⟩), none, .load none (.t ⟨.d0, .d0, .d6⟩)⟩])
 (.block 0 (.seq (.seq (.ops [⟨(some ⟨.d0, .d1, .d1⟩), none, .bin .eql (.t ⟨.d0, .d0, .d7⟩) (.c (.int .i64 (.ofNat 7)))⟩,
  ⟨(some ⟨.d0, .d1, .d0⟩), none, .mv (.t ⟨.d0, .d1, .d1⟩)⟩])
 (.cond (.t ⟨.d0, .d1, .d0⟩) .skip (.seq (.ops [⟨(some ⟨.d0, .d1, .d2⟩), none, .bin .eql (.t ⟨.d0, .d0, .d7⟩) (.c (.int .i64 (.ofNat 8)))⟩,
  ⟨(some ⟨.d0, .d1, .d0⟩), none, .mv (.t ⟨.d0, .d1, .d2⟩)⟩])
 (.cond (.t ⟨.d0, .d1, .d0⟩) .skip (.seq (.ops [⟨(some ⟨.d0, .d1, .d3⟩), none, .bin .eql (.t ⟨.d0, .d0, .d7⟩) (.c (.int .i64 (.ofNat 9)))⟩,
  ⟨(some ⟨.d0, .d1, .d0⟩), none, .mv (.t ⟨.d0, .d1, .d3⟩)⟩])
 (.cond (.t ⟨.d0, .d1, .d0⟩) .skip (.ops [⟨(some ⟨.d0, .d1, .d4⟩), none, .bin .eql (.t ⟨.d0, .d0, .d7⟩) (.c (.int .i64 (.ofNat 10)))⟩,
  ⟨(some ⟨.d0, .d1, .d0⟩), none, .mv (.t ⟨.d0, .d1, .d4⟩)⟩])))))))
 (.cond (.t ⟨.d0, .d1, .d0⟩) (.seq (.ops [⟨(some ⟨.d0, .d0, .d2⟩), none, .mv (.c (.int .i64 (.ofNat 4)))⟩])
 .ret) (.seq (.ops [⟨(some ⟨.d0, .d1, .d6⟩), none, .bin .eql (.t ⟨.d0, .d0, .d7⟩) (.c (.int .i64 (.ofNat 11)))⟩,
  ⟨(some ⟨.d0, .d1, .d5⟩), none, .mv (.t ⟨.d0, .d1, .d6⟩)⟩])
 (.cond (.t ⟨.d0, .d1, .d5⟩) (.seq (.ops [⟨(some ⟨.d0, .d0, .d2⟩), none, .mv (.c (.int .i64 (.ofNat 11)))⟩])
 .ret) (.seq (.ops [⟨(some ⟨.d0, .d2, .d0⟩), none, .bin .eql (.t ⟨.d0, .d0, .d7⟩) (.c (.int .i64 (.ofNat 5)))⟩,
  ⟨(some ⟨.d0, .d1, .d7⟩), none, .mv (.t ⟨.d0, .d2, .d0⟩)⟩])
 (.cond (.t ⟨.d0, .d1, .d7⟩) (.seq (.seq (.ops [⟨(some ⟨.d0, .d2, .d1⟩), none, .fieldA 1 (.t ⟨.d0, .d0, .d1⟩)⟩,
  ⟨(some ⟨.d0, .d2, .d2⟩), none, .load none (.t ⟨.d0, .d2, .d1⟩)⟩,
  ⟨(some ⟨.d0, .d2, .d3⟩), none, .bin .eql (.t ⟨.d0, .d2, .d2⟩) (.c (.int .i64 (.ofNat 21)))⟩])
 (.cond (.t ⟨.d0, .d2, .d3⟩) (.seq (.ops [⟨(some ⟨.d0, .d0, .d2⟩), none, .mv (.c (.int .i64 (.ofNat 3)))⟩])
 .ret) .skip))
 (.seq (.ops [⟨(some ⟨.d0, .d0, .d2⟩), none, .mv (.c (.int .i64 (.ofNat 10)))⟩])
 .ret)) (.seq (.ops [⟨(some ⟨.d0, .d2, .d5⟩), none, .bin .eql (.t ⟨.d0, .d0, .d7⟩) (.c (.int .i64 (.ofNat 6)))⟩,
  ⟨(some ⟨.d0, .d2, .d4⟩), none, .mv (.t ⟨.d0, .d2, .d5⟩)⟩])
 (.cond (.t ⟨.d0, .d2, .d4⟩) (.seq (.ops [⟨(some ⟨.d0, .d0, .d3⟩), none, .mv (.c (.int .i64 (.ofNat 1)))⟩])
 (.block 1 (.loop (.seq (.seq (.ops [⟨(some ⟨.d0, .d2, .d6⟩), none, .mv (.t ⟨.d0, .d0, .d3⟩)⟩,
  ⟨(some ⟨.d0, .d2, .d7⟩), none, .bin .leq (.t ⟨.d0, .d2, .d6⟩) (.c (.int .i64 (.ofNat 9)))⟩])
 (.cond (.t ⟨.d0, .d2, .d7⟩) .skip (.exit 1)))
 (.seq (.block 2 (.seq (.ops [⟨(some ⟨.d0, .d3, .d2⟩), none, .mv (.t ⟨.d0, .d0, .d3⟩)⟩,
  ⟨(some ⟨.d0, .d3, .d3⟩), none, .callF ⟨.d0, .d6, .d1⟩ [(.t ⟨.d0, .d3, .d2⟩)]⟩,
  ⟨(some ⟨.d0, .d3, .d4⟩), none, .len .sli (.t ⟨.d0, .d3, .d3⟩)⟩,
  ⟨(some ⟨.d0, .d3, .d5⟩), none, .mv (.c (.int .i64 (.ofNat 0)))⟩])
 (.block 3 (.loop (.seq (.ops [⟨(some ⟨.d0, .d3, .d6⟩), none, .bin .lss (.t ⟨.d0, .d3, .d5⟩) (.t ⟨.d0, .d3, .d4⟩)⟩])
 (.seq (.cond (.t ⟨.d0, .d3, .d6⟩) .skip (.exit 3))
 (.seq (.block 4 (.seq (.ops [⟨(some ⟨.d0, .d3, .d7⟩), none, .idxA none 3 (.t ⟨.d0, .d3, .d3⟩) (.t ⟨.d0, .d3, .d5⟩)⟩,
  ⟨(some ⟨.d0, .d4, .d0⟩), none, .load (some 3) (.t ⟨.d0, .d3, .d7⟩)⟩,
  ⟨(some ⟨.d0, .d0, .d5⟩), none, .box none (.c (.agg [(.int .i64 (.ofNat 0)), (.str []), (.int .i64 (.ofNat 0))]))⟩,
  ⟨none, none, .store 3 (.t ⟨.d0, .d0, .d5⟩) (.t ⟨.d0, .d4, .d0⟩)⟩])
 (.seq (.ops [⟨(some ⟨.d0, .d4, .d1⟩), none, .fieldA 2 (.t ⟨.d0, .d0, .d5⟩)⟩,
  ⟨(some ⟨.d0, .d4, .d2⟩), none, .load none (.t ⟨.d0, .d4, .d1⟩)⟩,
  ⟨(some ⟨.d0, .d4, .d3⟩), none, .fieldA 1 (.t ⟨.d0, .d0, .d1⟩)⟩,
  ⟨(some ⟨.d0, .d4, .d4⟩), none, .load none (.t ⟨.d0, .d4, .d3⟩)⟩,
  ⟨(some ⟨.d0, .d4, .d5⟩), none, .bin .eql (.t ⟨.d0, .d4, .d2⟩) (.t ⟨.d0, .d4, .d4⟩)⟩])
 (.cond (.t ⟨.d0, .d4, .d5⟩) (.seq (.ops [⟨(some ⟨.d0, .d4, .d6⟩), none, .mv (.t ⟨.d0, .d0, .d3⟩)⟩,
  ⟨(some ⟨.d0, .d0, .d2⟩), none, .mv (.t ⟨.d0, .d4, .d6⟩)⟩])
 .ret) .skip))))
 (.ops [⟨(some ⟨.d0, .d4, .d7⟩), none, .bin .add (.t ⟨.d0, .d3, .d5⟩) (.c (.int .i64 (.ofNat 1)))⟩,
  ⟨(some ⟨.d0, .d3, .d5⟩), none, .mv (.t ⟨.d0, .d4, .d7⟩)⟩]))))))))
 (.ops [⟨(some ⟨.d0, .d3, .d0⟩), none, .mv (.t ⟨.d0, .d0, .d3⟩)⟩,
  ⟨(some ⟨.d0, .d3, .d1⟩), none, .bin .add (.t ⟨.d0, .d3, .d0⟩) (.c (.int .i64 (.ofNat 1)))⟩,
  ⟨(some ⟨.d0, .d0, .d3⟩), none, .mv (.t ⟨.d0, .d3, .d1⟩)⟩])))))) .skip))))))))))
 (.seq (.ops [⟨(some ⟨.d0, .d0, .d2⟩), none, .mv (.c (.int .i64 (.ofNat 12)))⟩])
 .ret)))
 [.tmp ⟨.d0, .d0, .d2⟩]
/-- (*umlaut/parse.printer).put -/
def e25 : Ent := .code [⟨.d0, .d0, .d0⟩, ⟨.d0, .d0, .d1⟩]
 (.ops [⟨(some ⟨.d0, .d0, .d4⟩), none, .mv (.t ⟨.d0, .d0, .d0⟩)⟩,
  ⟨(some ⟨.d0, .d0, .d5⟩), none, .mv (.t ⟨.d0, .d0, .d0⟩)⟩,
  ⟨(some ⟨.d0, .d0, .d6⟩), none, .nilck (.t ⟨.d0, .d0, .d5⟩)⟩,
  ⟨(some ⟨.d0, .d0, .d7⟩), none, .fieldA 0 (.t ⟨.d0, .d0, .d6⟩)⟩,
  ⟨(some ⟨.d0, .d1, .d0⟩), none, .load none (.t ⟨.d0, .d0, .d7⟩)⟩,
  ⟨(some ⟨.d0, .d1, .d1⟩), none, .mv (.t ⟨.d0, .d0, .d1⟩)⟩,
  ⟨(some ⟨.d0, .d1, .d2⟩), none, .app 1 16 (.t ⟨.d0, .d1, .d0⟩) (.t ⟨.d0, .d1, .d1⟩)⟩,
  ⟨(some ⟨.d0, .d1, .d3⟩), none, .nilck (.t ⟨.d0, .d0, .d4⟩)⟩,
  ⟨(some ⟨.d0, .d1, .d4⟩), none, .fieldA 0 (.t ⟨.d0, .d1, .d3⟩)⟩,
  ⟨none, none, .store 1 (.t ⟨.d0, .d1, .d4⟩) (.t ⟨.d0, .d1, .d2⟩)⟩])
 []
/-- (*umlaut/parse.printer).bare -/
def e26 : Ent := .code [⟨.d0, .d0, .d0⟩, ⟨.d0, .d0, .d1⟩]
 (.seq (.ops [⟨(some ⟨.d0, .d0, .d3⟩), none, .box none (.t ⟨.d0, .d0, .d1⟩)⟩])
 (.seq (.ops [⟨(some ⟨.d0, .d0, .d5⟩), none, .fieldA 0 (.t ⟨.d0, .d0, .d3⟩)⟩,
  ⟨(some ⟨.d0, .d0, .d6⟩), none, .load none (.t ⟨.d0, .d0, .d5⟩)⟩])
 (.block 0 (.seq (.ops [⟨(some ⟨.d0, .d1, .d3⟩), none, .bin .eql (.t ⟨.d0, .d0, .d6⟩) (.c (.int .i64 (.ofNat 5)))⟩,
  ⟨(some ⟨.d0, .d1, .d2⟩), none, .mv (.t ⟨.d0, .d1, .d3⟩)⟩])
 (.cond (.t ⟨.d0, .d1, .d2⟩) (.seq (.ops [⟨(some ⟨.d0, .d0, .d4⟩), none, .mv (.c (.str [45]))⟩])
 (.seq (.seq (.ops [⟨(some ⟨.d0, .d1, .d4⟩), none, .fieldA 1 (.t ⟨.d0, .d0, .d3⟩)⟩,
  ⟨(some ⟨.d0, .d1, .d5⟩), none, .load none (.t ⟨.d0, .d1, .d4⟩)⟩,
  ⟨(some ⟨.d0, .d1, .d6⟩), none, .bin .eql (.t ⟨.d0, .d1, .d5⟩) (.c (.int .i64 (.ofNat 21)))⟩])
 (.cond (.t ⟨.d0, .d1, .d6⟩) (.ops [⟨(some ⟨.d0, .d0, .d4⟩), none, .mv (.c (.str [78, 79, 84]))⟩]) .skip))
 (.seq (.ops [⟨(some ⟨.d0, .d1, .d7⟩), none, .mv (.t ⟨.d0, .d0, .d0⟩)⟩,
  ⟨(some ⟨.d0, .d2, .d0⟩), none, .mv (.t ⟨.d0, .d0, .d4⟩)⟩,
  ⟨(some ⟨.d0, .d2, .d1⟩), none, .buildS none 1 1 [(.str [])] [(0, 1, (.t ⟨.d0, .d2, .d0⟩))]⟩,
  ⟨(some ⟨.d0, .d2, .d2⟩), none, .callF ⟨.d0, .d3, .d1⟩ [(.t ⟨.d0, .d1, .d7⟩), (.t ⟨.d0, .d2, .d1⟩)]⟩])
 (.reg 0 [(3, [2])] [⟨(some ⟨.d0, .d2, .d3⟩), none, .mv (.t ⟨.d0, .d0, .d0⟩)⟩,
  ⟨(some ⟨.d0, .d2, .d4⟩), none, .load (some 6) (.t ⟨.d0, .d0, .d3⟩)⟩,
  ⟨(some ⟨.d0, .d2, .d5⟩), none, .callF ⟨.d0, .d6, .d2⟩ [(.t ⟨.d0, .d2, .d4⟩), (.c (.int .i64 (.ofNat 0)))]⟩,
  ⟨(some ⟨.d0, .d2, .d6⟩), none, .load (some 6) (.t ⟨.d0, .d0, .d3⟩)⟩,
  ⟨(some ⟨.d0, .d2, .d7⟩), none, .callF ⟨.d0, .d3, .d0⟩ [(.t ⟨.d0, .d2, .d6⟩)]⟩,
  ⟨(some ⟨.d0, .d3, .d0⟩), none, .callF ⟨.d0, .d1, .d6⟩ [(.t ⟨.d0, .d2, .d3⟩), (.t ⟨.d0, .d2, .d5⟩), (.t ⟨.d0, .d2, .d7⟩)]⟩])))) (.seq (.ops [⟨(some ⟨.d0, .d3, .d2⟩), none, .bin .eql (.t ⟨.d0, .d0, .d6⟩) (.c (.int .i64 (.ofNat 6)))⟩,
  ⟨(some ⟨.d0, .d3, .d1⟩), none, .mv (.t ⟨.d0, .d3, .d2⟩)⟩])
 (.cond (.t ⟨.d0, .d3, .d1⟩) (.ops [⟨(some ⟨.d0, .d3, .d3⟩), none, .mv (.t ⟨.d0, .d0, .d0⟩)⟩,
  ⟨(some ⟨.d0, .d3, .d4⟩), none, .load (some 6) (.t ⟨.d0, .d0, .d3⟩)⟩,
  ⟨(some ⟨.d0, .d3, .d5⟩), none, .callF ⟨.d0, .d6, .d3⟩ [(.t ⟨.d0, .d3, .d3⟩), (.t ⟨.d0, .d3, .d4⟩)]⟩]) (.seq (.ops [⟨(some ⟨.d0, .d3, .d7⟩), none, .bin .eql (.t ⟨.d0, .d0, .d6⟩) (.c (.int .i64 (.ofNat 7)))⟩,
  ⟨(some ⟨.d0, .d3, .d6⟩), none, .mv (.t ⟨.d0, .d3, .d7⟩)⟩])
 (.cond (.t ⟨.d0, .d3, .d6⟩) (.seq (.ops [⟨(some ⟨.d0, .d4, .d0⟩), none, .mv (.t ⟨.d0, .d0, .d0⟩)⟩,
  ⟨(some ⟨.d0, .d4, .d1⟩), none, .load (some 6) (.t ⟨.d0, .d0, .d3⟩)⟩,
  ⟨(some ⟨.d0, .d4, .d2⟩), none, .callF ⟨.d0, .d6, .d2⟩ [(.t ⟨.d0, .d4, .d1⟩), (.c (.int .i64 (.ofNat 0)))]⟩,
  ⟨(some ⟨.d0, .d4, .d3⟩), none, .callF ⟨.d0, .d1, .d6⟩ [(.t ⟨.d0, .d4, .d0⟩), (.t ⟨.d0, .d4, .d2⟩), (.c (.int .i64 (.ofNat 5)))]⟩])
 (.seq (.ops [⟨(some ⟨.d0, .d4, .d4⟩), none, .mv (.t ⟨.d0, .d0, .d0⟩)⟩,
  ⟨(some ⟨.d0, .d4, .d5⟩), none, .buildS none 1 1 [(.str [])] [(0, 1, (.c (.str [73, 83])))]⟩,
  ⟨(some ⟨.d0, .d4, .d6⟩), none, .callF ⟨.d0, .d3, .d1⟩ [(.t ⟨.d0, .d4, .d4⟩), (.t ⟨.d0, .d4, .d5⟩)]⟩])
 (.seq (.ops [⟨(some ⟨.d0, .d4, .d7⟩), none, .mv (.t ⟨.d0, .d0, .d0⟩)⟩,
  ⟨(some ⟨.d0, .d5, .d0⟩), none, .load (some 6) (.t ⟨.d0, .d0, .d3⟩)⟩,
  ⟨(some ⟨.d0, .d5, .d1⟩), none, .callF ⟨.d0, .d6, .d4⟩ [(.t ⟨.d0, .d4, .d7⟩), (.t ⟨.d0, .d5, .d0⟩)]⟩])
 (.ops [⟨(some ⟨.d0, .d5, .d2⟩), none, .mv (.t ⟨.d0, .d0, .d0⟩)⟩,
  ⟨(some ⟨.d0, .d5, .d3⟩), none, .buildS none 1 1 [(.str [])] [(0, 1, (.c (.str [78, 85, 76, 76])))]⟩,
  ⟨(some ⟨.d0, .d5, .d4⟩), none, .callF ⟨.d0, .d3, .d1⟩ [(.t ⟨.d0, .d5, .d2⟩), (.t ⟨.d0, .d5, .d3⟩)]⟩])))) (.seq (.seq (.ops [⟨(some ⟨.d0, .d5, .d6⟩), none, .bin .eql (.t ⟨.d0, .d0, .d6⟩) (.c (.int .i64 (.ofNat 8)))⟩,
  ⟨(some ⟨.d0, .d5, .d5⟩), none, .mv (.t ⟨.d0, .d5, .d6⟩)⟩])
 (.cond (.t ⟨.d0, .d5, .d5⟩) .skip (.seq (.ops [⟨(some ⟨.d0, .d5, .d7⟩), none, .bin .eql (.t ⟨.d0, .d0, .d6⟩) (.c (.int .i64 (.ofNat 9)))⟩,
  ⟨(some ⟨.d0, .d5, .d5⟩), none, .mv (.t ⟨.d0, .d5, .d7⟩)⟩])
 (.cond (.t ⟨.d0, .d5, .d5⟩) .skip (.ops [⟨(some ⟨.d0, .d6, .d0⟩), none, .bin .eql (.t ⟨.d0, .d0, .d6⟩) (.c (.int .i64 (.ofNat 10)))⟩,
  ⟨(some ⟨.d0, .d5, .d5⟩), none, .mv (.t ⟨.d0, .d6, .d0⟩)⟩])))))
 (.cond (.t ⟨.d0, .d5, .d5⟩) (.ops [⟨(some ⟨.d0, .d6, .d1⟩), none, .mv (.t ⟨.d0, .d0, .d0⟩)⟩,
  ⟨(some ⟨.d0, .d6, .d2⟩), none, .load (some 6) (.t ⟨.d0, .d0, .d3⟩)⟩,
  ⟨(some ⟨.d0, .d6, .d3⟩), none, .callF ⟨.d0, .d6, .d5⟩ [(.t ⟨.d0, .d6, .d1⟩), (.t ⟨.d0, .d6, .d2⟩)]⟩]) (.seq (.ops [⟨(some ⟨.d0, .d6, .d5⟩), none, .bin .eql (.t ⟨.d0, .d0, .d6⟩) (.c (.int .i64 (.ofNat 11)))⟩,
  ⟨(some ⟨.d0, .d6, .d4⟩), none, .mv (.t ⟨.d0, .d6, .d5⟩)⟩])
 (.cond (.t ⟨.d0, .d6, .d4⟩) (.seq (.ops [⟨(some ⟨.d0, .d6, .d6⟩), none, .mv (.t ⟨.d0, .d0, .d0⟩)⟩,
  ⟨(some ⟨.d0, .d6, .d7⟩), none, .load (some 6) (.t ⟨.d0, .d0, .d3⟩)⟩,
  ⟨(some ⟨.d0, .d7, .d0⟩), none, .callF ⟨.d0, .d6, .d2⟩ [(.t ⟨.d0, .d6, .d7⟩), (.c (.int .i64 (.ofNat 0)))]⟩,
  ⟨(some ⟨.d0, .d7, .d1⟩), none, .callF ⟨.d0, .d1, .d6⟩ [(.t ⟨.d0, .d6, .d6⟩), (.t ⟨.d0, .d7, .d0⟩), (.c (.int .i64 (.ofNat 11)))]⟩])
 (.ops [⟨(some ⟨.d0, .d7, .d2⟩), none, .mv (.t ⟨.d0, .d0, .d0⟩)⟩,
  ⟨(some ⟨.d0, .d7, .d3⟩), none, .fieldA 2 (.t ⟨.d0, .d0, .d3⟩)⟩,
  ⟨(some ⟨.d0, .d7, .d4⟩), none, .load none (.t ⟨.d0, .d7, .d3⟩)⟩,
  ⟨(some ⟨.d0, .d7, .d5⟩), none, .buildS none 1 2 [(.str []), (.str [])] [(0, 1, (.c (.str [67, 79, 76, 76, 65, 84, 69]))), (1, 1, (.t ⟨.d0, .d7, .d4⟩))]⟩,
  ⟨(some ⟨.d0, .d7, .d6⟩), none, .callF ⟨.d0, .d3, .d1⟩ [(.t ⟨.d0, .d7, .d2⟩), (.t ⟨.d0, .d7, .d5⟩)]⟩])) (.ops [⟨(some ⟨.d0, .d0, .d7⟩), none, .mv (.t ⟨.d0, .d0, .d0⟩)⟩,
  ⟨(some ⟨.d0, .d1, .d0⟩), none, .load (some 6) (.t ⟨.d0, .d0, .d3⟩)⟩,
  ⟨(some ⟨.d0, .d1, .d1⟩), none, .callF ⟨.d0, .d6, .d6⟩ [(.t ⟨.d0, .d0, .d7⟩), (.t ⟨.d0, .d1, .d0⟩)]⟩]))))))))))))))
 []
/-- slices.EqualFunc[[]umlaut/api.Node,[]umlaut/api.Node,umlaut/api.Node,umlaut/api.Node] -/
def e30 : Ent := .code [⟨.d0, .d0, .d0⟩, ⟨.d0, .d0, .d1⟩, ⟨.d0, .d0, .d2⟩]
 (.seq (.ops [⟨(some ⟨.d0, .d0, .d6⟩), none, .mv (.c (.bool false))⟩])
 (.seq (.seq (.ops [⟨(some ⟨.d0, .d1, .d2⟩), none, .mv (.t ⟨.d0, .d0, .d0⟩)⟩,
  ⟨(some ⟨.d0, .d1, .d3⟩), none, .len .sli (.t ⟨.d0, .d1, .d2⟩)⟩,
  ⟨(some ⟨.d0, .d1, .d4⟩), none, .mv (.t ⟨.d0, .d0, .d1⟩)⟩,
  ⟨(some ⟨.d0, .d1, .d5⟩), none, .len .sli (.t ⟨.d0, .d1, .d4⟩)⟩,
  ⟨(some ⟨.d0, .d1, .d6⟩), none, .bin .neq (.t ⟨.d0, .d1, .d3⟩) (.t ⟨.d0, .d1, .d5⟩)⟩])
 (.cond (.t ⟨.d0, .d1, .d6⟩) (.seq (.ops [⟨(some ⟨.d0, .d0, .d6⟩), none, .mv (.c (.bool false))⟩])
 .ret) .skip))
 (.seq (.seq (.ops [⟨(some ⟨.d0, .d1, .d7⟩), none, .mv (.t ⟨.d0, .d0, .d0⟩)⟩,
  ⟨(some ⟨.d0, .d2, .d0⟩), none, .len .sli (.t ⟨.d0, .d1, .d7⟩)⟩,
  ⟨(some ⟨.d0, .d2, .d1⟩), none, .mv (.c (.int .i64 (.ofNat 0)))⟩])
 (.block 0 (.loop (.seq (.ops [⟨(some ⟨.d0, .d2, .d2⟩), none, .bin .lss (.t ⟨.d0, .d2, .d1⟩) (.t ⟨.d0, .d2, .d0⟩)⟩])
 (.seq (.cond (.t ⟨.d0, .d2, .d2⟩) .skip (.exit 0))
 (.seq (.block 1 (.seq (.ops [⟨(some ⟨.d0, .d2, .d3⟩), none, .mv (.t ⟨.d0, .d2, .d1⟩)⟩,
  ⟨(some ⟨.d0, .d2, .d4⟩), none, .idxA none 6 (.t ⟨.d0, .d1, .d7⟩) (.t ⟨.d0, .d2, .d1⟩)⟩,
  ⟨(some ⟨.d0, .d2, .d5⟩), none, .load (some 6) (.t ⟨.d0, .d2, .d4⟩)⟩,
  ⟨(some ⟨.d0, .d1, .d0⟩), none, .box none (.c (.agg [(.int .i64 (.ofNat 0)), (.int .i64 (.ofNat 0)), (.str []), (.str []), (.int .i64 (.ofNat 0)), .nils]))⟩,
  ⟨(some ⟨.d0, .d0, .d7⟩), none, .mv (.t ⟨.d0, .d2, .d3⟩)⟩,
  ⟨none, none, .store 6 (.t ⟨.d0, .d1, .d0⟩) (.t ⟨.d0, .d2, .d5⟩)⟩])
 (.seq (.ops [⟨(some ⟨.d0, .d2, .d6⟩), none, .mv (.t ⟨.d0, .d0, .d1⟩)⟩,
  ⟨(some ⟨.d0, .d2, .d7⟩), none, .mv (.t ⟨.d0, .d0, .d7⟩)⟩,
  ⟨(some ⟨.d0, .d3, .d0⟩), none, .idxA none 6 (.t ⟨.d0, .d2, .d6⟩) (.t ⟨.d0, .d2, .d7⟩)⟩,
  ⟨(some ⟨.d0, .d3, .d1⟩), none, .load (some 6) (.t ⟨.d0, .d3, .d0⟩)⟩,
  ⟨(some ⟨.d0, .d1, .d1⟩), none, .box none (.c (.agg [(.int .i64 (.ofNat 0)), (.int .i64 (.ofNat 0)), (.str []), (.str []), (.int .i64 (.ofNat 0)), .nils]))⟩,
  ⟨none, none, .store 6 (.t ⟨.d0, .d1, .d1⟩) (.t ⟨.d0, .d3, .d1⟩)⟩])
 (.seq (.ops [⟨(some ⟨.d0, .d3, .d2⟩), none, .mv (.t ⟨.d0, .d0, .d2⟩)⟩,
  ⟨(some ⟨.d0, .d3, .d3⟩), none, .load (some 6) (.t ⟨.d0, .d1, .d0⟩)⟩,
  ⟨(some ⟨.d0, .d3, .d4⟩), none, .load (some 6) (.t ⟨.d0, .d1, .d1⟩)⟩,
  ⟨(some ⟨.d0, .d3, .d5⟩), none, .callV (.t ⟨.d0, .d3, .d2⟩) [(.t ⟨.d0, .d3, .d3⟩), (.t ⟨.d0, .d3, .d4⟩)]⟩,
  ⟨(some ⟨.d0, .d3, .d6⟩), none, .un .not (.t ⟨.d0, .d3, .d5⟩)⟩])
 (.cond (.t ⟨.d0, .d3, .d6⟩) (.seq (.ops [⟨(some ⟨.d0, .d0, .d6⟩), none, .mv (.c (.bool false))⟩])
 .ret) .skip)))))
 (.ops [⟨(some ⟨.d0, .d3, .d7⟩), none, .bin .add (.t ⟨.d0, .d2, .d1⟩) (.c (.int .i64 (.ofNat 1)))⟩,
  ⟨(some ⟨.d0, .d2, .d1⟩), none, .mv (.t ⟨.d0, .d3, .d7⟩)⟩])))))))
 (.seq (.ops [⟨(some ⟨.d0, .d0, .d6⟩), none, .mv (.c (.bool true))⟩])
 .ret))))
 [.tmp ⟨.d0, .d0, .d6⟩]
/-- umlaut/lex.skip -/
def e31 : Ent := .code [⟨.d0, .d0, .d0⟩]
 (.seq (.ops [⟨(some ⟨.d0, .d0, .d2⟩), none, .mv (.c (.int .i64 (.ofNat 0)))⟩])
 (.seq (.ops [⟨(some ⟨.d0, .d0, .d3⟩), none, .mv (.c (.int .i64 (.ofNat 0)))⟩])
 (.seq (.block 0 (.loop (.seq (.seq (.ops [⟨(some ⟨.d0, .d0, .d4⟩), none, .mv (.t ⟨.d0, .d0, .d3⟩)⟩,
  ⟨(some ⟨.d0, .d0, .d5⟩), none, .mv (.t ⟨.d0, .d0, .d0⟩)⟩,
  ⟨(some ⟨.d0, .d0, .d6⟩), none, .len .str (.t ⟨.d0, .d0, .d5⟩)⟩,
  ⟨(some ⟨.d0, .d0, .d7⟩), none, .bin .lss (.t ⟨.d0, .d0, .d4⟩) (.t ⟨.d0, .d0, .d6⟩)⟩])
 (.cond (.t ⟨.d0, .d0, .d7⟩) .skip (.exit 0)))
 (.block 1 (.block 2 (.seq (.ops [⟨(some ⟨.d0, .d1, .d2⟩), none, .mv (.t ⟨.d0, .d0, .d0⟩)⟩,
  ⟨(some ⟨.d0, .d1, .d3⟩), none, .mv (.t ⟨.d0, .d0, .d3⟩)⟩,
  ⟨(some ⟨.d0, .d1, .d4⟩), none, .idxS (.t ⟨.d0, .d1, .d2⟩) (.t ⟨.d0, .d1, .d3⟩)⟩,
  ⟨(some ⟨.d0, .d1, .d5⟩), none, .callF ⟨.d0, .d7, .d1⟩ [(.c (.str [32, 9, 10, 13])), (.t ⟨.d0, .d1, .d4⟩)]⟩,
  ⟨(some ⟨.d0, .d1, .d6⟩), none, .bin .geq (.t ⟨.d0, .d1, .d5⟩) (.c (.int .i64 (.ofNat 0)))⟩,
  ⟨(some ⟨.d0, .d1, .d1⟩), none, .mv (.t ⟨.d0, .d1, .d6⟩)⟩])
 (.cond (.t ⟨.d0, .d1, .d1⟩) (.ops [⟨(some ⟨.d0, .d1, .d7⟩), none, .mv (.t ⟨.d0, .d0, .d3⟩)⟩,
  ⟨(some ⟨.d0, .d2, .d0⟩), none, .bin .add (.t ⟨.d0, .d1, .d7⟩) (.c (.int .i64 (.ofNat 1)))⟩,
  ⟨(some ⟨.d0, .d0, .d3⟩), none, .mv (.t ⟨.d0, .d2, .d0⟩)⟩]) (.seq (.ops [⟨(some ⟨.d0, .d2, .d2⟩), none, .mv (.t ⟨.d0, .d0, .d0⟩)⟩,
  ⟨(some ⟨.d0, .d2, .d3⟩), none, .mv (.t ⟨.d0, .d0, .d3⟩)⟩,
  ⟨(some ⟨.d0, .d2, .d4⟩), none, .sliS (.t ⟨.d0, .d2, .d2⟩) (some (.t ⟨.d0, .d2, .d3⟩)) none⟩,
  ⟨(some ⟨.d0, .d2, .d5⟩), none, .callF ⟨.d0, .d7, .d2⟩ [(.t ⟨.d0, .d2, .d4⟩), (.c (.str [45, 45]))]⟩,
  ⟨(some ⟨.d0, .d2, .d1⟩), none, .mv (.t ⟨.d0, .d2, .d5⟩)⟩])
 (.cond (.t ⟨.d0, .d2, .d1⟩) (.ops [⟨(some ⟨.d0, .d2, .d6⟩), none, .mv (.t ⟨.d0, .d0, .d3⟩)⟩,
  ⟨(some ⟨.d0, .d2, .d7⟩), none, .mv (.t ⟨.d0, .d0, .d0⟩)⟩,
  ⟨(some ⟨.d0, .d3, .d0⟩), none, .mv (.t ⟨.d0, .d0, .d3⟩)⟩,
  ⟨(some ⟨.d0, .d3, .d1⟩), none, .sliS (.t ⟨.d0, .d2, .d7⟩) (some (.t ⟨.d0, .d3, .d0⟩)) none⟩,
  ⟨(some ⟨.d0, .d3, .d2⟩), none, .callF ⟨.d0, .d7, .d3⟩ [(.t ⟨.d0, .d3, .d1⟩), (.c (.func 60 [] []))]⟩,
  ⟨(some ⟨.d0, .d3, .d3⟩), none, .bin .add (.t ⟨.d0, .d2, .d6⟩) (.t ⟨.d0, .d3, .d2⟩)⟩,
  ⟨(some ⟨.d0, .d0, .d3⟩), none, .mv (.t ⟨.d0, .d3, .d3⟩)⟩]) (.seq (.ops [⟨(some ⟨.d0, .d1, .d0⟩), none, .mv (.t ⟨.d0, .d0, .d3⟩)⟩,
  ⟨(some ⟨.d0, .d0, .d2⟩), none, .mv (.t ⟨.d0, .d1, .d0⟩)⟩])
 .ret))))))))))
 (.seq (.ops [⟨(some ⟨.d0, .d3, .d4⟩), none, .mv (.t ⟨.d0, .d0, .d3⟩)⟩,
  ⟨(some ⟨.d0, .d0, .d2⟩), none, .mv (.t ⟨.d0, .d3, .d4⟩)⟩])
 .ret))))
 [.tmp ⟨.d0, .d0, .d2⟩]
/-- umlaut/lex.token -/
def e32 : Ent := .code [⟨.d0, .d0, .d0⟩]
 (.seq (.ops [⟨(some ⟨.d0, .d0, .d2⟩), none, .box none (.c (.agg [(.int .i64 (.ofNat 0)), (.str []), (.int .i64 (.ofNat 0)), (.int .i64 (.ofNat 0))]))⟩,
  ⟨(some ⟨.d0, .d0, .d3⟩), none, .mv (.c (.int .i64 (.ofNat 0)))⟩])
 (.seq (.block 0 (.seq (.ops [⟨(some ⟨.d0, .d0, .d5⟩), none, .mv (.t ⟨.d0, .d0, .d0⟩)⟩,
  ⟨(some ⟨.d0, .d0, .d6⟩), none, .idxS (.t ⟨.d0, .d0, .d5⟩) (.c (.int .i64 (.ofNat 0)))⟩,
  ⟨(some ⟨.d0, .d0, .d7⟩), none, .callF ⟨.d0, .d7, .d5⟩ [(.t ⟨.d0, .d0, .d6⟩)]⟩,
  ⟨(some ⟨.d0, .d0, .d4⟩), none, .mv (.t ⟨.d0, .d0, .d7⟩)⟩])
 (.cond (.t ⟨.d0, .d0, .d4⟩) (.seq (.ops [⟨(some ⟨.d0, .d1, .d0⟩), none, .mv (.t ⟨.d0, .d0, .d0⟩)⟩,
  ⟨(some ⟨.d0, .d1, .d1⟩), none, .callF ⟨.d0, .d7, .d6⟩ [(.t ⟨.d0, .d1, .d0⟩)]⟩,
  ⟨(some ⟨.d0, .d1, .d2⟩), none, .ext (.t ⟨.d0, .d1, .d1⟩) 0⟩,
  ⟨(some ⟨.d0, .d1, .d3⟩), none, .ext (.t ⟨.d0, .d1, .d1⟩) 1⟩,
  ⟨none, none, .store 4 (.t ⟨.d0, .d0, .d2⟩) (.t ⟨.d0, .d1, .d2⟩)⟩,
  ⟨(some ⟨.d0, .d0, .d3⟩), none, .mv (.t ⟨.d0, .d1, .d3⟩)⟩])
 .ret) (.seq (.ops [⟨(some ⟨.d0, .d1, .d5⟩), none, .mv (.t ⟨.d0, .d0, .d0⟩)⟩,
  ⟨(some ⟨.d0, .d1, .d6⟩), none, .idxS (.t ⟨.d0, .d1, .d5⟩) (.c (.int .i64 (.ofNat 0)))⟩,
  ⟨(some ⟨.d0, .d1, .d7⟩), none, .callF ⟨.d0, .d7, .d7⟩ [(.t ⟨.d0, .d1, .d6⟩)]⟩,
  ⟨(some ⟨.d0, .d1, .d4⟩), none, .mv (.t ⟨.d0, .d1, .d7⟩)⟩])
 (.cond (.t ⟨.d0, .d1, .d4⟩) (.seq (.ops [⟨(some ⟨.d0, .d2, .d0⟩), none, .mv (.t ⟨.d0, .d0, .d0⟩)⟩,
  ⟨(some ⟨.d0, .d2, .d1⟩), none, .callF ⟨.d1, .d0, .d0⟩ [(.t ⟨.d0, .d2, .d0⟩)]⟩,
  ⟨(some ⟨.d0, .d2, .d2⟩), none, .ext (.t ⟨.d0, .d2, .d1⟩) 0⟩,
  ⟨(some ⟨.d0, .d2, .d3⟩), none, .ext (.t ⟨.d0, .d2, .d1⟩) 1⟩,
  ⟨none, none, .store 4 (.t ⟨.d0, .d0, .d2⟩) (.t ⟨.d0, .d2, .d2⟩)⟩,
  ⟨(some ⟨.d0, .d0, .d3⟩), none, .mv (.t ⟨.d0, .d2, .d3⟩)⟩])
 .ret) (.seq (.ops [⟨(some ⟨.d0, .d2, .d5⟩), none, .mv (.t ⟨.d0, .d0, .d0⟩)⟩,
  ⟨(some ⟨.d0, .d2, .d6⟩), none, .idxS (.t ⟨.d0, .d2, .d5⟩) (.c (.int .i64 (.ofNat 0)))⟩,
  ⟨(some ⟨.d0, .d2, .d7⟩), none, .bin .eql (.t ⟨.d0, .d2, .d6⟩) (.c (.int .u8 (.ofNat 39)))⟩,
  ⟨(some ⟨.d0, .d2, .d4⟩), none, .mv (.t ⟨.d0, .d2, .d7⟩)⟩])
 (.cond (.t ⟨.d0, .d2, .d4⟩) (.seq (.ops [⟨(some ⟨.d0, .d3, .d0⟩), none, .mv (.t ⟨.d0, .d0, .d0⟩)⟩,
  ⟨(some ⟨.d0, .d3, .d1⟩), none, .callF ⟨.d1, .d0, .d1⟩ [(.t ⟨.d0, .d3, .d0⟩)]⟩,
  ⟨(some ⟨.d0, .d3, .d2⟩), none, .ext (.t ⟨.d0, .d3, .d1⟩) 0⟩,
  ⟨(some ⟨.d0, .d3, .d3⟩), none, .ext (.t ⟨.d0, .d3, .d1⟩) 1⟩,
  ⟨none, none, .store 4 (.t ⟨.d0, .d0, .d2⟩) (.t ⟨.d0, .d3, .d2⟩)⟩,
  ⟨(some ⟨.d0, .d0, .d3⟩), none, .mv (.t ⟨.d0, .d3, .d3⟩)⟩])
 .ret) .skip)))))))
 (.seq (.ops [⟨(some ⟨.d0, .d3, .d4⟩), none, .mv (.t ⟨.d0, .d0, .d0⟩)⟩,
  ⟨(some ⟨.d0, .d3, .d5⟩), none, .callF ⟨.d1, .d0, .d2⟩ [(.t ⟨.d0, .d3, .d4⟩)]⟩,
  ⟨(some ⟨.d0, .d3, .d6⟩), none, .ext (.t ⟨.d0, .d3, .d5⟩) 0⟩,
  ⟨(some ⟨.d0, .d3, .d7⟩), none, .ext (.t ⟨.d0, .d3, .d5⟩) 1⟩,
  ⟨none, none, .store 4 (.t ⟨.d0, .d0, .d2⟩) (.t ⟨.d0, .d3, .d6⟩)⟩,
  ⟨(some ⟨.d0, .d0, .d3⟩), none, .mv (.t ⟨.d0, .d3, .d7⟩)⟩])
 .ret)))
 [.cell (some 4) ⟨.d0, .d0, .d2⟩, .tmp ⟨.d0, .d0, .d3⟩]
/-- (*umlaut/parse.parser).row -/
def e33 : Ent := .code [⟨.d0, .d0, .d0⟩, ⟨.d0, .d0, .d1⟩]
 (.seq (.ops [⟨(some ⟨.d0, .d0, .d4⟩), none, .box none (.c (.agg [(.int .i64 (.ofNat 0)), (.int .i64 (.ofNat 0)), (.str []), (.str []), (.int .i64 (.ofNat 0)), .nils]))⟩])
 (.seq (.ops [⟨(some ⟨.d0, .d0, .d7⟩), none, .mv (.t ⟨.d0, .d0, .d0⟩)⟩,
  ⟨(some ⟨.d0, .d1, .d0⟩), none, .mv (.t ⟨.d0, .d0, .d1⟩)⟩,
  ⟨(some ⟨.d0, .d1, .d1⟩), none, .bin .add (.t ⟨.d0, .d1, .d0⟩) (.c (.int .i64 (.ofNat 1)))⟩,
  ⟨(some ⟨.d0, .d1, .d2⟩), none, .callF ⟨.d0, .d1, .d1⟩ [(.t ⟨.d0, .d0, .d7⟩), (.t ⟨.d0, .d1, .d1⟩)]⟩,
  ⟨(some ⟨.d0, .d0, .d5⟩), none, .box none (.c (.agg [(.int .i64 (.ofNat 0)), (.int .i64 (.ofNat 0)), (.str []), (.str []), (.int .i64 (.ofNat 0)), .nils]))⟩,
  ⟨none, none, .store 6 (.t ⟨.d0, .d0, .d5⟩) (.t ⟨.d0, .d1, .d2⟩)⟩])
 (.seq (.seq (.ops [⟨(some ⟨.d0, .d1, .d3⟩), none, .mv (.t ⟨.d0, .d0, .d0⟩)⟩,
  ⟨(some ⟨.d0, .d1, .d4⟩), none, .mv (.t ⟨.d0, .d0, .d1⟩)⟩,
  ⟨(some ⟨.d0, .d1, .d5⟩), none, .callF ⟨.d1, .d0, .d3⟩ [(.t ⟨.d0, .d1, .d3⟩), (.t ⟨.d0, .d1, .d4⟩)]⟩,
  ⟨(some ⟨.d0, .d0, .d6⟩), none, .mv (.t ⟨.d0, .d1, .d5⟩)⟩])
 (.block 0 (.loop (.seq (.seq (.ops [⟨(some ⟨.d0, .d1, .d6⟩), none, .mv (.t ⟨.d0, .d0, .d6⟩)⟩,
  ⟨(some ⟨.d0, .d1, .d7⟩), none, .bin .neq (.t ⟨.d0, .d1, .d6⟩) (.c (.int .i64 (.ofNat 0)))⟩])
 (.cond (.t ⟨.d0, .d1, .d7⟩) .skip (.exit 0)))
 (.seq (.block 1 (.reg 1 [(1, [6])] [⟨(some ⟨.d0, .d2, .d3⟩), none, .mv (.t ⟨.d0, .d0, .d6⟩)⟩,
  ⟨(some ⟨.d0, .d2, .d4⟩), none, .load (some 6) (.t ⟨.d0, .d0, .d5⟩)⟩,
  ⟨(some ⟨.d0, .d2, .d5⟩), none, .mv (.t ⟨.d0, .d0, .d0⟩)⟩,
  ⟨(some ⟨.d0, .d2, .d6⟩), none, .mv (.t ⟨.d0, .d0, .d1⟩)⟩,
  ⟨(some ⟨.d0, .d2, .d7⟩), none, .bin .add (.t ⟨.d0, .d2, .d6⟩) (.c (.int .i64 (.ofNat 1)))⟩,
  ⟨(some ⟨.d0, .d3, .d0⟩), none, .callF ⟨.d0, .d1, .d1⟩ [(.t ⟨.d0, .d2, .d5⟩), (.t ⟨.d0, .d2, .d7⟩)]⟩,
  ⟨(some ⟨.d0, .d3, .d1⟩), none, .buildS (some 0) 6 2 [(.int .i64 (.ofNat 0)), (.int .i64 (.ofNat 0)), (.str []), (.str []), (.int .i64 (.ofNat 0)), .nils, (.int .i64 (.ofNat 0)), (.int .i64 (.ofNat 0)), (.str []), (.str []), (.int .i64 (.ofNat 0)), .nils] [(0, 6, (.t ⟨.d0, .d2, .d4⟩)), (6, 6, (.t ⟨.d0, .d3, .d0⟩))]⟩,
  ⟨(some ⟨.d0, .d3, .d2⟩), none, .build [(.int .i64 (.ofNat 0)), (.int .i64 (.ofNat 0)), (.str []), (.str []), (.int .i64 (.ofNat 0)), .nils] [(0, 1, (.c (.int .i64 (.ofNat 6)))), (1, 1, (.t ⟨.d0, .d2, .d3⟩)), (5, 1, (.t ⟨.d0, .d3, .d1⟩))]⟩,
  ⟨none, none, .store 6 (.t ⟨.d0, .d0, .d5⟩) (.t ⟨.d0, .d3, .d2⟩)⟩]))
 (.ops [⟨(some ⟨.d0, .d2, .d0⟩), none, .mv (.t ⟨.d0, .d0, .d0⟩)⟩,
  ⟨(some ⟨.d0, .d2, .d1⟩), none, .mv (.t ⟨.d0, .d0, .d1⟩)⟩,
  ⟨(some ⟨.d0, .d2, .d2⟩), none, .callF ⟨.d1, .d0, .d3⟩ [(.t ⟨.d0, .d2, .d0⟩), (.t ⟨.d0, .d2, .d1⟩)]⟩,
  ⟨(some ⟨.d0, .d0, .d6⟩), none, .mv (.t ⟨.d0, .d2, .d2⟩)⟩]))))))
 (.seq (.ops [⟨(some ⟨.d0, .d3, .d3⟩), none, .load (some 6) (.t ⟨.d0, .d0, .d5⟩)⟩,
  ⟨none, none, .store 6 (.t ⟨.d0, .d0, .d4⟩) (.t ⟨.d0, .d3, .d3⟩)⟩])
 .ret))))
 [.cell (some 6) ⟨.d0, .d0, .d4⟩]
/-- (*umlaut/parse.parser).not -/
def e34 : Ent := .code [⟨.d0, .d0, .d0⟩, ⟨.d0, .d0, .d1⟩]
 (.seq (.ops [⟨(some ⟨.d0, .d0, .d2⟩), none, .box none (.t ⟨.d0, .d0, .d0⟩)⟩,
  ⟨(some ⟨.d0, .d0, .d3⟩), none, .box none (.t ⟨.d0, .d0, .d1⟩)⟩,
  ⟨(some ⟨.d0, .d0, .d4⟩), none, .box none (.c (.agg [(.int .i64 (.ofNat 0)), (.int .i64 (.ofNat 0)), (.str []), (.str []), (.int .i64 (.ofNat 0)), .nils]))⟩])
 (.seq (.seq (.ops [⟨(some ⟨.d0, .d0, .d5⟩), none, .load none (.t ⟨.d0, .d0, .d2⟩)⟩,
  ⟨(some ⟨.d0, .d0, .d6⟩), none, .callF ⟨.d0, .d5, .d7⟩ [(.t ⟨.d0, .d0, .d5⟩), (.c (.int .i64 (.ofNat 2))), (.c (.str [78, 79, 84]))]⟩,
  ⟨(some ⟨.d0, .d0, .d7⟩), none, .un .not (.t ⟨.d0, .d0, .d6⟩)⟩])
 (.cond (.t ⟨.d0, .d0, .d7⟩) (.seq (.ops [⟨(some ⟨.d0, .d1, .d0⟩), none, .load none (.t ⟨.d0, .d0, .d2⟩)⟩,
  ⟨(some ⟨.d0, .d1, .d1⟩), none, .load none (.t ⟨.d0, .d0, .d3⟩)⟩,
  ⟨(some ⟨.d0, .d1, .d2⟩), none, .bin .add (.t ⟨.d0, .d1, .d1⟩) (.c (.int .i64 (.ofNat 1)))⟩,
  ⟨(some ⟨.d0, .d1, .d3⟩), none, .callF ⟨.d0, .d1, .d1⟩ [(.t ⟨.d0, .d1, .d0⟩), (.t ⟨.d0, .d1, .d2⟩)]⟩,
  ⟨none, none, .store 6 (.t ⟨.d0, .d0, .d4⟩) (.t ⟨.d0, .d1, .d3⟩)⟩])
 .ret) .skip))
 (.seq (.ops [⟨(some ⟨.d0, .d1, .d4⟩), none, .load none (.t ⟨.d0, .d0, .d2⟩)⟩,
  ⟨(some ⟨.d0, .d1, .d5⟩), none, .mkfn 69 [] [(.t ⟨.d0, .d0, .d2⟩), (.t ⟨.d0, .d0, .d3⟩)]⟩,
  ⟨(some ⟨.d0, .d1, .d6⟩), none, .callF ⟨.d1, .d0, .d4⟩ [(.t ⟨.d0, .d1, .d4⟩), (.t ⟨.d0, .d1, .d5⟩)]⟩,
  ⟨none, none, .store 6 (.t ⟨.d0, .d0, .d4⟩) (.t ⟨.d0, .d1, .d6⟩)⟩])
 .ret)))
 [.cell (some 6) ⟨.d0, .d0, .d4⟩]
/-- (*umlaut/parse.parser).test -/
def e35 : Ent := .code [⟨.d0, .d0, .d0⟩, ⟨.d0, .d0, .d1⟩]
 (.seq (.ops [⟨(some ⟨.d0, .d0, .d4⟩), none, .box none (.c (.agg [(.int .i64 (.ofNat 0)), (.int .i64 (.ofNat 0)), (.str []), (.str []), (.int .i64 (.ofNat 0)), .nils]))⟩])
 (.seq (.ops [⟨(some ⟨.d0, .d1, .d3⟩), none, .mv (.t ⟨.d0, .d0, .d0⟩)⟩,
  ⟨(some ⟨.d0, .d1, .d4⟩), none, .mv (.t ⟨.d0, .d0, .d1⟩)⟩,
  ⟨(some ⟨.d0, .d1, .d5⟩), none, .bin .add (.t ⟨.d0, .d1, .d4⟩) (.c (.int .i64 (.ofNat 1)))⟩,
  ⟨(some ⟨.d0, .d1, .d6⟩), none, .callF ⟨.d0, .d1, .d1⟩ [(.t ⟨.d0, .d1, .d3⟩), (.t ⟨.d0, .d1, .d5⟩)]⟩,
  ⟨(some ⟨.d0, .d0, .d5⟩), none, .box none (.c (.agg [(.int .i64 (.ofNat 0)), (.int .i64 (.ofNat 0)), (.str []), (.str []), (.int .i64 (.ofNat 0)), .nils]))⟩,
  ⟨none, none, .store 6 (.t ⟨.d0, .d0, .d5⟩) (.t ⟨.d0, .d1, .d6⟩)⟩])
 (.seq (.seq (.ops [⟨(some ⟨.d0, .d1, .d7⟩), none, .mv (.t ⟨.d0, .d0, .d0⟩)⟩,
  ⟨(some ⟨.d0, .d2, .d0⟩), none, .mv (.t ⟨.d0, .d0, .d1⟩)⟩,
  ⟨(some ⟨.d0, .d2, .d1⟩), none, .callF ⟨.d1, .d0, .d3⟩ [(.t ⟨.d0, .d1, .d7⟩), (.t ⟨.d0, .d2, .d0⟩)]⟩,
  ⟨(some ⟨.d0, .d0, .d6⟩), none, .mv (.t ⟨.d0, .d2, .d1⟩)⟩])
 (.seq (.ops [⟨(some ⟨.d0, .d2, .d2⟩), none, .mv (.t ⟨.d0, .d0, .d6⟩)⟩,
  ⟨(some ⟨.d0, .d2, .d3⟩), none, .bin .neq (.t ⟨.d0, .d2, .d2⟩) (.c (.int .i64 (.ofNat 0)))⟩])
 (.cond (.t ⟨.d0, .d2, .d3⟩) (.seq (.reg 1 [(1, [6])] [⟨(some ⟨.d0, .d2, .d4⟩), none, .mv (.t ⟨.d0, .d0, .d6⟩)⟩,
  ⟨(some ⟨.d0, .d2, .d5⟩), none, .load (some 6) (.t ⟨.d0, .d0, .d5⟩)⟩,
  ⟨(some ⟨.d0, .d2, .d6⟩), none, .mv (.t ⟨.d0, .d0, .d0⟩)⟩,
  ⟨(some ⟨.d0, .d2, .d7⟩), none, .mv (.t ⟨.d0, .d0, .d1⟩)⟩,
  ⟨(some ⟨.d0, .d3, .d0⟩), none, .bin .add (.t ⟨.d0, .d2, .d7⟩) (.c (.int .i64 (.ofNat 1)))⟩,
  ⟨(some ⟨.d0, .d3, .d1⟩), none, .callF ⟨.d0, .d1, .d1⟩ [(.t ⟨.d0, .d2, .d6⟩), (.t ⟨.d0, .d3, .d0⟩)]⟩,
  ⟨(some ⟨.d0, .d3, .d2⟩), none, .buildS (some 0) 6 2 [(.int .i64 (.ofNat 0)), (.int .i64 (.ofNat 0)), (.str []), (.str []), (.int .i64 (.ofNat 0)), .nils, (.int .i64 (.ofNat 0)), (.int .i64 (.ofNat 0)), (.str []), (.str []), (.int .i64 (.ofNat 0)), .nils] [(0, 6, (.t ⟨.d0, .d2, .d5⟩)), (6, 6, (.t ⟨.d0, .d3, .d1⟩))]⟩,
  ⟨(some ⟨.d0, .d3, .d3⟩), none, .build [(.int .i64 (.ofNat 0)), (.int .i64 (.ofNat 0)), (.str []), (.str []), (.int .i64 (.ofNat 0)), .nils] [(0, 1, (.c (.int .i64 (.ofNat 6)))), (1, 1, (.t ⟨.d0, .d2, .d4⟩)), (5, 1, (.t ⟨.d0, .d3, .d2⟩))]⟩,
  ⟨none, none, .store 6 (.t ⟨.d0, .d0, .d4⟩) (.t ⟨.d0, .d3, .d3⟩)⟩])
 .ret) .skip)))
 (.seq (.seq (.ops [⟨(some ⟨.d0, .d3, .d4⟩), none, .mv (.t ⟨.d0, .d0, .d0⟩)⟩,
  ⟨(some ⟨.d0, .d3, .d5⟩), none, .callF ⟨.d0, .d4, .d7⟩ [(.t ⟨.d0, .d3, .d4⟩), (.c (.str [73, 83]))]⟩])
 (.cond (.t ⟨.d0, .d3, .d5⟩) (.seq (.ops [⟨(some ⟨.d0, .d3, .d6⟩), none, .load (some 6) (.t ⟨.d0, .d0, .d5⟩)⟩,
  ⟨(some ⟨.d0, .d3, .d7⟩), none, .buildS none 6 1 [(.int .i64 (.ofNat 0)), (.int .i64 (.ofNat 0)), (.str []), (.str []), (.int .i64 (.ofNat 0)), .nils] [(0, 6, (.t ⟨.d0, .d3, .d6⟩))]⟩,
  ⟨(some ⟨.d0, .d4, .d0⟩), none, .build [(.int .i64 (.ofNat 0)), (.int .i64 (.ofNat 0)), (.str []), (.str []), (.int .i64 (.ofNat 0)), .nils] [(0, 1, (.c (.int .i64 (.ofNat 7)))), (5, 1, (.t ⟨.d0, .d3, .d7⟩))]⟩,
  ⟨(some ⟨.d0, .d0, .d7⟩), none, .box none (.c (.agg [(.int .i64 (.ofNat 0)), (.int .i64 (.ofNat 0)), (.str []), (.str []), (.int .i64 (.ofNat 0)), .nils]))⟩,
  ⟨none, none, .store 6 (.t ⟨.d0, .d0, .d7⟩) (.t ⟨.d0, .d4, .d0⟩)⟩])
 (.seq (.seq (.ops [⟨(some ⟨.d0, .d4, .d1⟩), none, .mv (.t ⟨.d0, .d0, .d0⟩)⟩,
  ⟨(some ⟨.d0, .d4, .d2⟩), none, .callF ⟨.d0, .d4, .d7⟩ [(.t ⟨.d0, .d4, .d1⟩), (.c (.str [78, 79, 84]))]⟩])
 (.cond (.t ⟨.d0, .d4, .d2⟩) (.ops [⟨(some ⟨.d0, .d4, .d3⟩), none, .fieldA 4 (.t ⟨.d0, .d0, .d7⟩)⟩,
  ⟨none, none, .store 1 (.t ⟨.d0, .d4, .d3⟩) (.c (.int .i64 (.ofNat 1)))⟩]) .skip))
 (.seq (.ops [⟨(some ⟨.d0, .d4, .d4⟩), none, .mv (.t ⟨.d0, .d0, .d0⟩)⟩,
  ⟨(some ⟨.d0, .d4, .d5⟩), none, .buildS none 1 1 [(.str [])] [(0, 1, (.c (.str [78, 85, 76, 76])))]⟩,
  ⟨(some ⟨.d0, .d4, .d6⟩), none, .callF ⟨.d0, .d5, .d5⟩ [(.t ⟨.d0, .d4, .d4⟩), (.t ⟨.d0, .d4, .d5⟩)]⟩])
 (.seq (.ops [⟨(some ⟨.d0, .d4, .d7⟩), none, .load (some 6) (.t ⟨.d0, .d0, .d7⟩)⟩,
  ⟨none, none, .store 6 (.t ⟨.d0, .d0, .d4⟩) (.t ⟨.d0, .d4, .d7⟩)⟩])
 .ret)))) .skip))
 (.seq (.ops [⟨(some ⟨.d0, .d1, .d0⟩), none, .mv (.c (.int .i64 (.ofNat 0)))⟩])
 (.seq (.seq (.ops [⟨(some ⟨.d0, .d5, .d0⟩), none, .mv (.t ⟨.d0, .d0, .d0⟩)⟩,
  ⟨(some ⟨.d0, .d5, .d1⟩), none, .callF ⟨.d0, .d4, .d7⟩ [(.t ⟨.d0, .d5, .d0⟩), (.c (.str [78, 79, 84]))]⟩])
 (.cond (.t ⟨.d0, .d5, .d1⟩) (.ops [⟨(some ⟨.d0, .d1, .d0⟩), none, .mv (.c (.int .i64 (.ofNat 1)))⟩]) .skip))
 (.seq (.block 0 (.seq (.ops [⟨(some ⟨.d0, .d5, .d3⟩), none, .mv (.t ⟨.d0, .d0, .d0⟩)⟩,
  ⟨(some ⟨.d0, .d5, .d4⟩), none, .callF ⟨.d0, .d4, .d7⟩ [(.t ⟨.d0, .d5, .d3⟩), (.c (.str [76, 73, 75, 69]))]⟩,
  ⟨(some ⟨.d0, .d5, .d2⟩), none, .mv (.t ⟨.d0, .d5, .d4⟩)⟩])
 (.cond (.t ⟨.d0, .d5, .d2⟩) (.seq (.reg 2 [(1, [6])] [⟨(some ⟨.d0, .d5, .d5⟩), none, .mv (.t ⟨.d0, .d1, .d0⟩)⟩,
  ⟨(some ⟨.d0, .d5, .d6⟩), none, .load (some 6) (.t ⟨.d0, .d0, .d5⟩)⟩,
  ⟨(some ⟨.d0, .d5, .d7⟩), none, .mv (.t ⟨.d0, .d0, .d0⟩)⟩,
  ⟨(some ⟨.d0, .d6, .d0⟩), none, .mv (.t ⟨.d0, .d0, .d1⟩)⟩,
  ⟨(some ⟨.d0, .d6, .d1⟩), none, .bin .add (.t ⟨.d0, .d6, .d0⟩) (.c (.int .i64 (.ofNat 1)))⟩,
  ⟨(some ⟨.d0, .d6, .d2⟩), none, .callF ⟨.d0, .d1, .d1⟩ [(.t ⟨.d0, .d5, .d7⟩), (.t ⟨.d0, .d6, .d1⟩)]⟩,
  ⟨(some ⟨.d0, .d6, .d3⟩), none, .buildS (some 0) 6 2 [(.int .i64 (.ofNat 0)), (.int .i64 (.ofNat 0)), (.str []), (.str []), (.int .i64 (.ofNat 0)), .nils, (.int .i64 (.ofNat 0)), (.int .i64 (.ofNat 0)), (.str []), (.str []), (.int .i64 (.ofNat 0)), .nils] [(0, 6, (.t ⟨.d0, .d5, .d6⟩)), (6, 6, (.t ⟨.d0, .d6, .d2⟩))]⟩,
  ⟨(some ⟨.d0, .d6, .d4⟩), none, .build [(.int .i64 (.ofNat 0)), (.int .i64 (.ofNat 0)), (.str []), (.str []), (.int .i64 (.ofNat 0)), .nils] [(0, 1, (.c (.int .i64 (.ofNat 8)))), (4, 1, (.t ⟨.d0, .d5, .d5⟩)), (5, 1, (.t ⟨.d0, .d6, .d3⟩))]⟩,
  ⟨(some ⟨.d0, .d1, .d1⟩), none, .box (some 1) (.c (.agg [(.int .i64 (.ofNat 0)), (.int .i64 (.ofNat 0)), (.str []), (.str []), (.int .i64 (.ofNat 0)), .nils]))⟩,
  ⟨none, none, .store 6 (.t ⟨.d0, .d1, .d1⟩) (.t ⟨.d0, .d6, .d4⟩)⟩])
 (.seq (.seq (.ops [⟨(some ⟨.d0, .d6, .d5⟩), none, .mv (.t ⟨.d0, .d0, .d0⟩)⟩,
  ⟨(some ⟨.d0, .d6, .d6⟩), none, .callF ⟨.d0, .d4, .d7⟩ [(.t ⟨.d0, .d6, .d5⟩), (.c (.str [69, 83, 67, 65, 80, 69]))]⟩])
 (.cond (.t ⟨.d0, .d6, .d6⟩) (.reg 1 [(1, [6, 7])] [⟨(some ⟨.d0, .d6, .d7⟩), none, .fieldA 5 (.t ⟨.d0, .d1, .d1⟩)⟩,
  ⟨(some ⟨.d0, .d7, .d0⟩), none, .load none (.t ⟨.d0, .d6, .d7⟩)⟩,
  ⟨(some ⟨.d0, .d7, .d1⟩), none, .mv (.t ⟨.d0, .d0, .d0⟩)⟩,
  ⟨(some ⟨.d0, .d7, .d2⟩), none, .mv (.t ⟨.d0, .d0, .d1⟩)⟩,
  ⟨(some ⟨.d0, .d7, .d3⟩), none, .bin .add (.t ⟨.d0, .d7, .d2⟩) (.c (.int .i64 (.ofNat 1)))⟩,
  ⟨(some ⟨.d0, .d7, .d4⟩), none, .callF ⟨.d0, .d1, .d1⟩ [(.t ⟨.d0, .d7, .d1⟩), (.t ⟨.d0, .d7, .d3⟩)]⟩,
  ⟨(some ⟨.d0, .d7, .d5⟩), none, .buildS (some 0) 6 1 [(.int .i64 (.ofNat 0)), (.int .i64 (.ofNat 0)), (.str []), (.str []), (.int .i64 (.ofNat 0)), .nils] [(0, 6, (.t ⟨.d0, .d7, .d4⟩))]⟩,
  ⟨(some ⟨.d0, .d7, .d6⟩), none, .app 6 80 (.t ⟨.d0, .d7, .d0⟩) (.t ⟨.d0, .d7, .d5⟩)⟩,
  ⟨(some ⟨.d0, .d7, .d7⟩), none, .fieldA 5 (.t ⟨.d0, .d1, .d1⟩)⟩,
  ⟨none, none, .store 1 (.t ⟨.d0, .d7, .d7⟩) (.t ⟨.d0, .d7, .d6⟩)⟩]) .skip))
 (.seq (.ops [⟨(some ⟨.d1, .d0, .d0⟩), none, .load (some 6) (.t ⟨.d0, .d1, .d1⟩)⟩,
  ⟨none, none, .store 6 (.t ⟨.d0, .d0, .d4⟩) (.t ⟨.d1, .d0, .d0⟩)⟩])
 .ret))) (.seq (.ops [⟨(some ⟨.d1, .d0, .d2⟩), none, .mv (.t ⟨.d0, .d0, .d0⟩)⟩,
  ⟨(some ⟨.d1, .d0, .d3⟩), none, .callF ⟨.d0, .d4, .d7⟩ [(.t ⟨.d1, .d0, .d2⟩), (.c (.str [66, 69, 84, 87, 69, 69, 78]))]⟩,
  ⟨(some ⟨.d1, .d0, .d1⟩), none, .mv (.t ⟨.d1, .d0, .d3⟩)⟩])
 (.cond (.t ⟨.d1, .d0, .d1⟩) (.seq (.ops [⟨(some ⟨.d1, .d0, .d4⟩), none, .mv (.t ⟨.d0, .d0, .d0⟩)⟩,
  ⟨(some ⟨.d1, .d0, .d5⟩), none, .mv (.t ⟨.d0, .d0, .d1⟩)⟩,
  ⟨(some ⟨.d1, .d0, .d6⟩), none, .bin .add (.t ⟨.d1, .d0, .d5⟩) (.c (.int .i64 (.ofNat 1)))⟩,
  ⟨(some ⟨.d1, .d0, .d7⟩), none, .callF ⟨.d0, .d1, .d1⟩ [(.t ⟨.d1, .d0, .d4⟩), (.t ⟨.d1, .d0, .d6⟩)]⟩,
  ⟨(some ⟨.d0, .d1, .d2⟩), none, .box none (.c (.agg [(.int .i64 (.ofNat 0)), (.int .i64 (.ofNat 0)), (.str []), (.str []), (.int .i64 (.ofNat 0)), .nils]))⟩,
  ⟨none, none, .store 6 (.t ⟨.d0, .d1, .d2⟩) (.t ⟨.d1, .d0, .d7⟩)⟩])
 (.seq (.ops [⟨(some ⟨.d1, .d1, .d0⟩), none, .mv (.t ⟨.d0, .d0, .d0⟩)⟩,
  ⟨(some ⟨.d1, .d1, .d1⟩), none, .buildS none 1 1 [(.str [])] [(0, 1, (.c (.str [65, 78, 68])))]⟩,
  ⟨(some ⟨.d1, .d1, .d2⟩), none, .callF ⟨.d0, .d5, .d5⟩ [(.t ⟨.d1, .d1, .d0⟩), (.t ⟨.d1, .d1, .d1⟩)]⟩])
 (.seq (.reg 1 [(1, [7]), (2, [7])] [⟨(some ⟨.d1, .d1, .d3⟩), none, .mv (.t ⟨.d0, .d1, .d0⟩)⟩,
  ⟨(some ⟨.d1, .d1, .d4⟩), none, .load (some 6) (.t ⟨.d0, .d0, .d5⟩)⟩,
  ⟨(some ⟨.d1, .d1, .d5⟩), none, .load (some 6) (.t ⟨.d0, .d1, .d2⟩)⟩,
  ⟨(some ⟨.d1, .d1, .d6⟩), none, .mv (.t ⟨.d0, .d0, .d0⟩)⟩,
  ⟨(some ⟨.d1, .d1, .d7⟩), none, .mv (.t ⟨.d0, .d0, .d1⟩)⟩,
  ⟨(some ⟨.d1, .d2, .d0⟩), none, .bin .add (.t ⟨.d1, .d1, .d7⟩) (.c (.int .i64 (.ofNat 1)))⟩,
  ⟨(some ⟨.d1, .d2, .d1⟩), none, .callF ⟨.d0, .d1, .d1⟩ [(.t ⟨.d1, .d1, .d6⟩), (.t ⟨.d1, .d2, .d0⟩)]⟩,
  ⟨(some ⟨.d1, .d2, .d2⟩), none, .buildS (some 0) 6 3 [(.int .i64 (.ofNat 0)), (.int .i64 (.ofNat 0)), (.str []), (.str []), (.int .i64 (.ofNat 0)), .nils, (.int .i64 (.ofNat 0)), (.int .i64 (.ofNat 0)), (.str []), (.str []), (.int .i64 (.ofNat 0)), .nils, (.int .i64 (.ofNat 0)), (.int .i64 (.ofNat 0)), (.str []), (.str []), (.int .i64 (.ofNat 0)), .nils] [(0, 6, (.t ⟨.d1, .d1, .d4⟩)), (6, 6, (.t ⟨.d1, .d1, .d5⟩)), (12, 6, (.t ⟨.d1, .d2, .d1⟩))]⟩,
  ⟨(some ⟨.d1, .d2, .d3⟩), none, .build [(.int .i64 (.ofNat 0)), (.int .i64 (.ofNat 0)), (.str []), (.str []), (.int .i64 (.ofNat 0)), .nils] [(0, 1, (.c (.int .i64 (.ofNat 10)))), (4, 1, (.t ⟨.d1, .d1, .d3⟩)), (5, 1, (.t ⟨.d1, .d2, .d2⟩))]⟩,
  ⟨none, none, .store 6 (.t ⟨.d0, .d0, .d4⟩) (.t ⟨.d1, .d2, .d3⟩)⟩])
 .ret))) (.seq (.ops [⟨(some ⟨.d1, .d2, .d5⟩), none, .mv (.t ⟨.d0, .d0, .d0⟩)⟩,
  ⟨(some ⟨.d1, .d2, .d6⟩), none, .callF ⟨.d0, .d4, .d7⟩ [(.t ⟨.d1, .d2, .d5⟩), (.c (.str [73, 78]))]⟩,
  ⟨(some ⟨.d1, .d2, .d4⟩), none, .mv (.t ⟨.d1, .d2, .d6⟩)⟩])
 (.cond (.t ⟨.d1, .d2, .d4⟩) (.seq (.ops [⟨(some ⟨.d1, .d2, .d7⟩), none, .mv (.t ⟨.d0, .d0, .d0⟩)⟩,
  ⟨(some ⟨.d1, .d3, .d0⟩), none, .load (some 6) (.t ⟨.d0, .d0, .d5⟩)⟩,
  ⟨(some ⟨.d1, .d3, .d1⟩), none, .mv (.t ⟨.d0, .d1, .d0⟩)⟩,
  ⟨(some ⟨.d1, .d3, .d2⟩), none, .callF ⟨.d1, .d0, .d6⟩ [(.t ⟨.d1, .d2, .d7⟩), (.t ⟨.d1, .d3, .d0⟩), (.t ⟨.d1, .d3, .d1⟩)]⟩,
  ⟨none, none, .store 6 (.t ⟨.d0, .d0, .d4⟩) (.t ⟨.d1, .d3, .d2⟩)⟩])
 .ret) (.seq (.ops [⟨(some ⟨.d1, .d3, .d4⟩), none, .mv (.t ⟨.d0, .d1, .d0⟩)⟩,
  ⟨(some ⟨.d1, .d3, .d5⟩), none, .bin .eql (.t ⟨.d1, .d3, .d4⟩) (.c (.int .i64 (.ofNat 1)))⟩,
  ⟨(some ⟨.d1, .d3, .d3⟩), none, .mv (.t ⟨.d1, .d3, .d5⟩)⟩])
 (.cond (.t ⟨.d1, .d3, .d3⟩) (.ops [⟨(some ⟨.d1, .d3, .d6⟩), none, .mv (.t ⟨.d0, .d0, .d0⟩)⟩,
  ⟨(some ⟨.d1, .d3, .d7⟩), none, .callF ⟨.d0, .d2, .d3⟩ [(.t ⟨.d1, .d3, .d6⟩), (.c (.int .i64 (.ofNat 10)))]⟩]) .skip)))))))))
 (.seq (.ops [⟨(some ⟨.d1, .d4, .d0⟩), none, .load (some 6) (.t ⟨.d0, .d0, .d5⟩)⟩,
  ⟨none, none, .store 6 (.t ⟨.d0, .d0, .d4⟩) (.t ⟨.d1, .d4, .d0⟩)⟩])
 .ret))))))))
 [.cell (some 6) ⟨.d0, .d0, .d4⟩]
/-- (*umlaut/parse.parser).neg -/
def e36 : Ent := .code [⟨.d0, .d0, .d0⟩, ⟨.d0, .d0, .d1⟩]
 (.seq (.ops [⟨(some ⟨.d0, .d0, .d2⟩), none, .box none (.t ⟨.d0, .d0, .d0⟩)⟩,
  ⟨(some ⟨.d0, .d0, .d3⟩), none, .box none (.t ⟨.d0, .d0, .d1⟩)⟩,
  ⟨(some ⟨.d0, .d0, .d4⟩), none, .box none (.c (.agg [(.int .i64 (.ofNat 0)), (.int .i64 (.ofNat 0)), (.str []), (.str []), (.int .i64 (.ofNat 0)), .nils]))⟩])
 (.seq (.seq (.ops [⟨(some ⟨.d0, .d0, .d5⟩), none, .load none (.t ⟨.d0, .d0, .d2⟩)⟩,
  ⟨(some ⟨.d0, .d0, .d6⟩), none, .callF ⟨.d0, .d5, .d7⟩ [(.t ⟨.d0, .d0, .d5⟩), (.c (.int .i64 (.ofNat 5))), (.c (.str [45]))]⟩,
  ⟨(some ⟨.d0, .d0, .d7⟩), none, .un .not (.t ⟨.d0, .d0, .d6⟩)⟩])
 (.cond (.t ⟨.d0, .d0, .d7⟩) (.seq (.ops [⟨(some ⟨.d0, .d1, .d0⟩), none, .load none (.t ⟨.d0, .d0, .d2⟩)⟩,
  ⟨(some ⟨.d0, .d1, .d1⟩), none, .load none (.t ⟨.d0, .d0, .d3⟩)⟩,
  ⟨(some ⟨.d0, .d1, .d2⟩), none, .bin .add (.t ⟨.d0, .d1, .d1⟩) (.c (.int .i64 (.ofNat 1)))⟩,
  ⟨(some ⟨.d0, .d1, .d3⟩), none, .callF ⟨.d0, .d1, .d1⟩ [(.t ⟨.d0, .d1, .d0⟩), (.t ⟨.d0, .d1, .d2⟩)]⟩,
  ⟨none, none, .store 6 (.t ⟨.d0, .d0, .d4⟩) (.t ⟨.d0, .d1, .d3⟩)⟩])
 .ret) .skip))
 (.seq (.ops [⟨(some ⟨.d0, .d1, .d4⟩), none, .load none (.t ⟨.d0, .d0, .d2⟩)⟩,
  ⟨(some ⟨.d0, .d1, .d5⟩), none, .mkfn 71 [] [(.t ⟨.d0, .d0, .d2⟩), (.t ⟨.d0, .d0, .d3⟩)]⟩,
  ⟨(some ⟨.d0, .d1, .d6⟩), none, .callF ⟨.d1, .d0, .d4⟩ [(.t ⟨.d0, .d1, .d4⟩), (.t ⟨.d0, .d1, .d5⟩)]⟩,
  ⟨none, none, .store 6 (.t ⟨.d0, .d0, .d4⟩) (.t ⟨.d0, .d1, .d6⟩)⟩])
 .ret)))
 [.cell (some 6) ⟨.d0, .d0, .d4⟩]
/-- (*umlaut/parse.parser).collate -/
def e37 : Ent := .code [⟨.d0, .d0, .d0⟩, ⟨.d0, .d0, .d1⟩]
 (.seq (.ops [⟨(some ⟨.d0, .d0, .d4⟩), none, .box none (.c (.agg [(.int .i64 (.ofNat 0)), (.int .i64 (.ofNat 0)), (.str []), (.str []), (.int .i64 (.ofNat 0)), .nils]))⟩])
 (.seq (.ops [⟨(some ⟨.d0, .d0, .d6⟩), none, .mv (.t ⟨.d0, .d0, .d0⟩)⟩,
  ⟨(some ⟨.d0, .d0, .d7⟩), none, .mv (.t ⟨.d0, .d0, .d1⟩)⟩,
  ⟨(some ⟨.d0, .d1, .d0⟩), none, .bin .add (.t ⟨.d0, .d0, .d7⟩) (.c (.int .i64 (.ofNat 1)))⟩,
  ⟨(some ⟨.d0, .d1, .d1⟩), none, .callF ⟨.d0, .d1, .d1⟩ [(.t ⟨.d0, .d0, .d6⟩), (.t ⟨.d0, .d1, .d0⟩)]⟩,
  ⟨(some ⟨.d0, .d0, .d5⟩), none, .box none (.c (.agg [(.int .i64 (.ofNat 0)), (.int .i64 (.ofNat 0)), (.str []), (.str []), (.int .i64 (.ofNat 0)), .nils]))⟩,
  ⟨none, none, .store 6 (.t ⟨.d0, .d0, .d5⟩) (.t ⟨.d0, .d1, .d1⟩)⟩])
 (.seq (.block 0 (.loop (.seq (.seq (.ops [⟨(some ⟨.d0, .d1, .d2⟩), none, .mv (.t ⟨.d0, .d0, .d0⟩)⟩,
  ⟨(some ⟨.d0, .d1, .d3⟩), none, .callF ⟨.d0, .d4, .d7⟩ [(.t ⟨.d0, .d1, .d2⟩), (.c (.str [67, 79, 76, 76, 65, 84, 69]))]⟩])
 (.cond (.t ⟨.d0, .d1, .d3⟩) .skip (.exit 0)))
 (.block 1 (.reg 1 [(3, [1])] [⟨(some ⟨.d0, .d1, .d4⟩), none, .mv (.t ⟨.d0, .d0, .d0⟩)⟩,
  ⟨(some ⟨.d0, .d1, .d5⟩), none, .callF ⟨.d1, .d1, .d0⟩ [(.t ⟨.d0, .d1, .d4⟩), (.c (.int .i64 (.ofNat 1)))]⟩,
  ⟨(some ⟨.d0, .d1, .d6⟩), none, .field 1 none (.t ⟨.d0, .d1, .d5⟩)⟩,
  ⟨(some ⟨.d0, .d1, .d7⟩), none, .load (some 6) (.t ⟨.d0, .d0, .d5⟩)⟩,
  ⟨(some ⟨.d0, .d2, .d0⟩), none, .buildS (some 0) 6 1 [(.int .i64 (.ofNat 0)), (.int .i64 (.ofNat 0)), (.str []), (.str []), (.int .i64 (.ofNat 0)), .nils] [(0, 6, (.t ⟨.d0, .d1, .d7⟩))]⟩,
  ⟨(some ⟨.d0, .d2, .d1⟩), none, .build [(.int .i64 (.ofNat 0)), (.int .i64 (.ofNat 0)), (.str []), (.str []), (.int .i64 (.ofNat 0)), .nils] [(0, 1, (.c (.int .i64 (.ofNat 11)))), (2, 1, (.t ⟨.d0, .d1, .d6⟩)), (5, 1, (.t ⟨.d0, .d2, .d0⟩))]⟩,
  ⟨none, none, .store 6 (.t ⟨.d0, .d0, .d5⟩) (.t ⟨.d0, .d2, .d1⟩)⟩])))))
 (.seq (.ops [⟨(some ⟨.d0, .d2, .d2⟩), none, .load (some 6) (.t ⟨.d0, .d0, .d5⟩)⟩,
  ⟨none, none, .store 6 (.t ⟨.d0, .d0, .d4⟩) (.t ⟨.d0, .d2, .d2⟩)⟩])
 .ret))))
 [.cell (some 6) ⟨.d0, .d0, .d4⟩]
/-- (*umlaut/parse.parser).plain -/
def e38 : Ent := .code [⟨.d0, .d0, .d0⟩, ⟨.d0, .d0, .d1⟩]
 (.seq (.ops [⟨(some ⟨.d0, .d0, .d2⟩), none, .box none (.t ⟨.d0, .d0, .d0⟩)⟩,
  ⟨(some ⟨.d0, .d0, .d4⟩), none, .box none (.c (.agg [(.int .i64 (.ofNat 0)), (.int .i64 (.ofNat 0)), (.str []), (.str []), (.int .i64 (.ofNat 0)), .nils]))⟩])
 (.seq (.block 0 (.seq (.ops [⟨(some ⟨.d0, .d0, .d6⟩), none, .load none (.t ⟨.d0, .d0, .d2⟩)⟩,
  ⟨(some ⟨.d0, .d0, .d7⟩), none, .callF ⟨.d0, .d4, .d7⟩ [(.t ⟨.d0, .d0, .d6⟩), (.c (.str [78, 85, 76, 76]))]⟩,
  ⟨(some ⟨.d0, .d0, .d5⟩), none, .mv (.t ⟨.d0, .d0, .d7⟩)⟩])
 (.cond (.t ⟨.d0, .d0, .d5⟩) (.seq (.ops [⟨(some ⟨.d0, .d1, .d0⟩), none, .build [(.int .i64 (.ofNat 0)), (.int .i64 (.ofNat 0)), (.str []), (.str []), (.int .i64 (.ofNat 0)), .nils] []⟩,
  ⟨none, none, .store 6 (.t ⟨.d0, .d0, .d4⟩) (.t ⟨.d0, .d1, .d0⟩)⟩])
 .ret) (.seq (.ops [⟨(some ⟨.d0, .d1, .d2⟩), none, .load none (.t ⟨.d0, .d0, .d2⟩)⟩,
  ⟨(some ⟨.d0, .d1, .d3⟩), none, .callF ⟨.d0, .d4, .d7⟩ [(.t ⟨.d0, .d1, .d2⟩), (.c (.str [84, 82, 85, 69]))]⟩,
  ⟨(some ⟨.d0, .d1, .d1⟩), none, .mv (.t ⟨.d0, .d1, .d3⟩)⟩])
 (.cond (.t ⟨.d0, .d1, .d1⟩) (.seq (.ops [⟨(some ⟨.d0, .d1, .d4⟩), none, .build [(.int .i64 (.ofNat 0)), (.int .i64 (.ofNat 0)), (.str []), (.str []), (.int .i64 (.ofNat 0)), .nils] [(0, 1, (.c (.int .i64 (.ofNat 1)))), (4, 1, (.c (.int .i64 (.ofNat 1))))]⟩,
  ⟨none, none, .store 6 (.t ⟨.d0, .d0, .d4⟩) (.t ⟨.d0, .d1, .d4⟩)⟩])
 .ret) (.seq (.ops [⟨(some ⟨.d0, .d1, .d6⟩), none, .load none (.t ⟨.d0, .d0, .d2⟩)⟩,
  ⟨(some ⟨.d0, .d1, .d7⟩), none, .callF ⟨.d0, .d4, .d7⟩ [(.t ⟨.d0, .d1, .d6⟩), (.c (.str [70, 65, 76, 83, 69]))]⟩,
  ⟨(some ⟨.d0, .d1, .d5⟩), none, .mv (.t ⟨.d0, .d1, .d7⟩)⟩])
 (.cond (.t ⟨.d0, .d1, .d5⟩) (.seq (.ops [⟨(some ⟨.d0, .d2, .d0⟩), none, .build [(.int .i64 (.ofNat 0)), (.int .i64 (.ofNat 0)), (.str []), (.str []), (.int .i64 (.ofNat 0)), .nils] [(0, 1, (.c (.int .i64 (.ofNat 1))))]⟩,
  ⟨none, none, .store 6 (.t ⟨.d0, .d0, .d4⟩) (.t ⟨.d0, .d2, .d0⟩)⟩])
 .ret) (.seq (.ops [⟨(some ⟨.d0, .d2, .d2⟩), none, .load none (.t ⟨.d0, .d0, .d2⟩)⟩,
  ⟨(some ⟨.d0, .d2, .d3⟩), none, .callF ⟨.d0, .d5, .d7⟩ [(.t ⟨.d0, .d2, .d2⟩), (.c (.int .i64 (.ofNat 2))), (.c (.str [67, 65, 83, 84]))]⟩,
  ⟨(some ⟨.d0, .d2, .d1⟩), none, .mv (.t ⟨.d0, .d2, .d3⟩)⟩])
 (.cond (.t ⟨.d0, .d2, .d1⟩) (.seq (.ops [⟨(some ⟨.d0, .d2, .d4⟩), none, .load none (.t ⟨.d0, .d0, .d2⟩)⟩,
  ⟨(some ⟨.d0, .d2, .d5⟩), none, .load none (.t ⟨.d0, .d0, .d2⟩)⟩,
  ⟨(some ⟨.d0, .d2, .d6⟩), none, .mkfn 73 [(.t ⟨.d0, .d2, .d5⟩)] []⟩,
  ⟨(some ⟨.d0, .d2, .d7⟩), none, .callF ⟨.d1, .d0, .d4⟩ [(.t ⟨.d0, .d2, .d4⟩), (.t ⟨.d0, .d2, .d6⟩)]⟩,
  ⟨none, none, .store 6 (.t ⟨.d0, .d0, .d4⟩) (.t ⟨.d0, .d2, .d7⟩)⟩])
 .ret) (.seq (.ops [⟨(some ⟨.d0, .d3, .d1⟩), none, .load none (.t ⟨.d0, .d0, .d2⟩)⟩,
  ⟨(some ⟨.d0, .d3, .d2⟩), none, .callF ⟨.d0, .d5, .d7⟩ [(.t ⟨.d0, .d3, .d1⟩), (.c (.int .i64 (.ofNat 5))), (.c (.str [40]))]⟩,
  ⟨(some ⟨.d0, .d3, .d0⟩), none, .mv (.t ⟨.d0, .d3, .d2⟩)⟩])
 (.cond (.t ⟨.d0, .d3, .d0⟩) (.seq (.ops [⟨(some ⟨.d0, .d3, .d3⟩), none, .load none (.t ⟨.d0, .d0, .d2⟩)⟩,
  ⟨(some ⟨.d0, .d3, .d4⟩), none, .mkfn 74 [] [(.t ⟨.d0, .d0, .d2⟩)]⟩,
  ⟨(some ⟨.d0, .d3, .d5⟩), none, .callF ⟨.d1, .d0, .d4⟩ [(.t ⟨.d0, .d3, .d3⟩), (.t ⟨.d0, .d3, .d4⟩)]⟩,
  ⟨none, none, .store 6 (.t ⟨.d0, .d0, .d4⟩) (.t ⟨.d0, .d3, .d5⟩)⟩])
 .ret) (.seq (.reg 0 [] [⟨(some ⟨.d0, .d3, .d7⟩), none, .load none (.t ⟨.d0, .d0, .d2⟩)⟩,
  ⟨(some ⟨.d0, .d4, .d0⟩), none, .nilck (.t ⟨.d0, .d3, .d7⟩)⟩,
  ⟨(some ⟨.d0, .d4, .d1⟩), none, .fieldA 1 (.t ⟨.d0, .d4, .d0⟩)⟩,
  ⟨(some ⟨.d0, .d4, .d2⟩), none, .load none (.t ⟨.d0, .d4, .d1⟩)⟩,
  ⟨(some ⟨.d0, .d4, .d3⟩), none, .load none (.t ⟨.d0, .d0, .d2⟩)⟩,
  ⟨(some ⟨.d0, .d4, .d4⟩), none, .nilck (.t ⟨.d0, .d4, .d3⟩)⟩,
  ⟨(some ⟨.d0, .d4, .d5⟩), none, .fieldA 0 (.t ⟨.d0, .d4, .d4⟩)⟩,
  ⟨(some ⟨.d0, .d4, .d6⟩), none, .load none (.t ⟨.d0, .d4, .d5⟩)⟩,
  ⟨(some ⟨.d0, .d4, .d7⟩), none, .len .sli (.t ⟨.d0, .d4, .d6⟩)⟩,
  ⟨(some ⟨.d0, .d5, .d0⟩), none, .bin .lss (.t ⟨.d0, .d4, .d2⟩) (.t ⟨.d0, .d4, .d7⟩)⟩,
  ⟨(some ⟨.d0, .d5, .d1⟩), none, .mv (.t ⟨.d0, .d5, .d0⟩)⟩,
  ⟨(some ⟨.d0, .d5, .d2⟩), (some (⟨.d0, .d5, .d1⟩, true)), .load none (.t ⟨.d0, .d0, .d2⟩)⟩,
  ⟨(some ⟨.d0, .d5, .d3⟩), (some (⟨.d0, .d5, .d1⟩, true)), .nilck (.t ⟨.d0, .d5, .d2⟩)⟩,
  ⟨(some ⟨.d0, .d5, .d4⟩), (some (⟨.d0, .d5, .d1⟩, true)), .fieldA 0 (.t ⟨.d0, .d5, .d3⟩)⟩,
  ⟨(some ⟨.d0, .d5, .d5⟩), (some (⟨.d0, .d5, .d1⟩, true)), .load none (.t ⟨.d0, .d5, .d4⟩)⟩,
  ⟨(some ⟨.d0, .d5, .d6⟩), (some (⟨.d0, .d5, .d1⟩, true)), .load none (.t ⟨.d0, .d0, .d2⟩)⟩,
  ⟨(some ⟨.d0, .d5, .d7⟩), (some (⟨.d0, .d5, .d1⟩, true)), .nilck (.t ⟨.d0, .d5, .d6⟩)⟩,
  ⟨(some ⟨.d0, .d6, .d0⟩), (some (⟨.d0, .d5, .d1⟩, true)), .fieldA 1 (.t ⟨.d0, .d5, .d7⟩)⟩,
  ⟨(some ⟨.d0, .d6, .d1⟩), (some (⟨.d0, .d5, .d1⟩, true)), .load none (.t ⟨.d0, .d6, .d0⟩)⟩,
  ⟨(some ⟨.d0, .d6, .d2⟩), (some (⟨.d0, .d5, .d1⟩, true)), .idxA none 4 (.t ⟨.d0, .d5, .d5⟩) (.t ⟨.d0, .d6, .d1⟩)⟩,
  ⟨(some ⟨.d0, .d6, .d3⟩), (some (⟨.d0, .d5, .d1⟩, true)), .fieldA 0 (.t ⟨.d0, .d6, .d2⟩)⟩,
  ⟨(some ⟨.d0, .d6, .d4⟩), (some (⟨.d0, .d5, .d1⟩, true)), .load none (.t ⟨.d0, .d6, .d3⟩)⟩,
  ⟨(some ⟨.d0, .d6, .d5⟩), (some (⟨.d0, .d5, .d1⟩, true)), .bin .eql (.t ⟨.d0, .d6, .d4⟩) (.c (.int .i64 (.ofNat 3)))⟩,
  ⟨(some ⟨.d0, .d6, .d6⟩), none, .pick (.t ⟨.d0, .d5, .d1⟩) (.t ⟨.d0, .d6, .d5⟩) (.c (.bool false))⟩,
  ⟨(some ⟨.d0, .d3, .d6⟩), none, .mv (.t ⟨.d0, .d6, .d6⟩)⟩])
 (.cond (.t ⟨.d0, .d3, .d6⟩) (.seq (.ops [⟨(some ⟨.d0, .d6, .d7⟩), none, .load none (.t ⟨.d0, .d0, .d2⟩)⟩,
  ⟨(some ⟨.d0, .d7, .d0⟩), none, .callF ⟨.d1, .d1, .d0⟩ [(.t ⟨.d0, .d6, .d7⟩), (.c (.int .i64 (.ofNat 3)))]⟩,
  ⟨(some ⟨.d0, .d7, .d1⟩), none, .field 2 none (.t ⟨.d0, .d7, .d0⟩)⟩,
  ⟨(some ⟨.d0, .d7, .d2⟩), none, .build [(.int .i64 (.ofNat 0)), (.int .i64 (.ofNat 0)), (.str []), (.str []), (.int .i64 (.ofNat 0)), .nils] [(0, 1, (.c (.int .i64 (.ofNat 2)))), (4, 1, (.t ⟨.d0, .d7, .d1⟩))]⟩,
  ⟨none, none, .store 6 (.t ⟨.d0, .d0, .d4⟩) (.t ⟨.d0, .d7, .d2⟩)⟩])
 .ret) (.seq (.reg 0 [] [⟨(some ⟨.d0, .d7, .d4⟩), none, .load none (.t ⟨.d0, .d0, .d2⟩)⟩,
  ⟨(some ⟨.d0, .d7, .d5⟩), none, .nilck (.t ⟨.d0, .d7, .d4⟩)⟩,
  ⟨(some ⟨.d0, .d7, .d6⟩), none, .fieldA 1 (.t ⟨.d0, .d7, .d5⟩)⟩,
  ⟨(some ⟨.d0, .d7, .d7⟩), none, .load none (.t ⟨.d0, .d7, .d6⟩)⟩,
  ⟨(some ⟨.d1, .d0, .d0⟩), none, .load none (.t ⟨.d0, .d0, .d2⟩)⟩,
  ⟨(some ⟨.d1, .d0, .d1⟩), none, .nilck (.t ⟨.d1, .d0, .d0⟩)⟩,
  ⟨(some ⟨.d1, .d0, .d2⟩), none, .fieldA 0 (.t ⟨.d1, .d0, .d1⟩)⟩,
  ⟨(some ⟨.d1, .d0, .d3⟩), none, .load none (.t ⟨.d1, .d0, .d2⟩)⟩,
  ⟨(some ⟨.d1, .d0, .d4⟩), none, .len .sli (.t ⟨.d1, .d0, .d3⟩)⟩,
  ⟨(some ⟨.d1, .d0, .d5⟩), none, .bin .lss (.t ⟨.d0, .d7, .d7⟩) (.t ⟨.d1, .d0, .d4⟩)⟩,
  ⟨(some ⟨.d1, .d0, .d6⟩), none, .mv (.t ⟨.d1, .d0, .d5⟩)⟩,
  ⟨(some ⟨.d1, .d0, .d7⟩), (some (⟨.d1, .d0, .d6⟩, true)), .load none (.t ⟨.d0, .d0, .d2⟩)⟩,
  ⟨(some ⟨.d1, .d1, .d0⟩), (some (⟨.d1, .d0, .d6⟩, true)), .nilck (.t ⟨.d1, .d0, .d7⟩)⟩,
  ⟨(some ⟨.d1, .d1, .d1⟩), (some (⟨.d1, .d0, .d6⟩, true)), .fieldA 0 (.t ⟨.d1, .d1, .d0⟩)⟩,
  ⟨(some ⟨.d1, .d1, .d2⟩), (some (⟨.d1, .d0, .d6⟩, true)), .load none (.t ⟨.d1, .d1, .d1⟩)⟩,
  ⟨(some ⟨.d1, .d1, .d3⟩), (some (⟨.d1, .d0, .d6⟩, true)), .load none (.t ⟨.d0, .d0, .d2⟩)⟩,
  ⟨(some ⟨.d1, .d1, .d4⟩), (some (⟨.d1, .d0, .d6⟩, true)), .nilck (.t ⟨.d1, .d1, .d3⟩)⟩,
  ⟨(some ⟨.d1, .d1, .d5⟩), (some (⟨.d1, .d0, .d6⟩, true)), .fieldA 1 (.t ⟨.d1, .d1, .d4⟩)⟩,
  ⟨(some ⟨.d1, .d1, .d6⟩), (some (⟨.d1, .d0, .d6⟩, true)), .load none (.t ⟨.d1, .d1, .d5⟩)⟩,
  ⟨(some ⟨.d1, .d1, .d7⟩), (some (⟨.d1, .d0, .d6⟩, true)), .idxA none 4 (.t ⟨.d1, .d1, .d2⟩) (.t ⟨.d1, .d1, .d6⟩)⟩,
  ⟨(some ⟨.d1, .d2, .d0⟩), (some (⟨.d1, .d0, .d6⟩, true)), .fieldA 0 (.t ⟨.d1, .d1, .d7⟩)⟩,
  ⟨(some ⟨.d1, .d2, .d1⟩), (some (⟨.d1, .d0, .d6⟩, true)), .load none (.t ⟨.d1, .d2, .d0⟩)⟩,
  ⟨(some ⟨.d1, .d2, .d2⟩), (some (⟨.d1, .d0, .d6⟩, true)), .bin .eql (.t ⟨.d1, .d2, .d1⟩) (.c (.int .i64 (.ofNat 4)))⟩,
  ⟨(some ⟨.d1, .d2, .d3⟩), none, .pick (.t ⟨.d1, .d0, .d6⟩) (.t ⟨.d1, .d2, .d2⟩) (.c (.bool false))⟩,
  ⟨(some ⟨.d0, .d7, .d3⟩), none, .mv (.t ⟨.d1, .d2, .d3⟩)⟩])
 (.cond (.t ⟨.d0, .d7, .d3⟩) (.seq (.ops [⟨(some ⟨.d1, .d2, .d4⟩), none, .load none (.t ⟨.d0, .d0, .d2⟩)⟩,
  ⟨(some ⟨.d1, .d2, .d5⟩), none, .callF ⟨.d1, .d1, .d0⟩ [(.t ⟨.d1, .d2, .d4⟩), (.c (.int .i64 (.ofNat 4)))]⟩,
  ⟨(some ⟨.d1, .d2, .d6⟩), none, .field 1 none (.t ⟨.d1, .d2, .d5⟩)⟩,
  ⟨(some ⟨.d1, .d2, .d7⟩), none, .build [(.int .i64 (.ofNat 0)), (.int .i64 (.ofNat 0)), (.str []), (.str []), (.int .i64 (.ofNat 0)), .nils] [(0, 1, (.c (.int .i64 (.ofNat 3)))), (2, 1, (.t ⟨.d1, .d2, .d6⟩))]⟩,
  ⟨none, none, .store 6 (.t ⟨.d0, .d0, .d4⟩) (.t ⟨.d1, .d2, .d7⟩)⟩])
 .ret) (.seq (.reg 0 [(0, [3])] [⟨(some ⟨.d1, .d3, .d1⟩), none, .load none (.t ⟨.d0, .d0, .d2⟩)⟩,
  ⟨(some ⟨.d1, .d3, .d2⟩), none, .load none (.t ⟨.d0, .d0, .d2⟩)⟩,
  ⟨(some ⟨.d1, .d3, .d3⟩), none, .callF ⟨.d1, .d1, .d5⟩ [(.t ⟨.d1, .d3, .d2⟩)]⟩,
  ⟨(some ⟨.d1, .d3, .d4⟩), none, .callF ⟨.d1, .d1, .d4⟩ [(.t ⟨.d1, .d3, .d1⟩), (.c (.int .i64 (.ofNat 0))), (.c (.int .i64 (.ofNat 1))), (.t ⟨.d1, .d3, .d3⟩)]⟩,
  ⟨(some ⟨.d1, .d3, .d5⟩), none, .mv (.t ⟨.d1, .d3, .d4⟩)⟩,
  ⟨(some ⟨.d1, .d3, .d6⟩), (some (⟨.d1, .d3, .d5⟩, true)), .load none (.t ⟨.d0, .d0, .d2⟩)⟩,
  ⟨(some ⟨.d1, .d3, .d7⟩), (some (⟨.d1, .d3, .d5⟩, true)), .callF ⟨.d1, .d1, .d4⟩ [(.t ⟨.d1, .d3, .d6⟩), (.c (.int .i64 (.ofNat 1))), (.c (.int .i64 (.ofNat 5))), (.c (.str [40]))]⟩,
  ⟨(some ⟨.d1, .d4, .d0⟩), none, .pick (.t ⟨.d1, .d3, .d5⟩) (.t ⟨.d1, .d3, .d7⟩) (.c (.bool false))⟩,
  ⟨(some ⟨.d1, .d3, .d0⟩), none, .mv (.t ⟨.d1, .d4, .d0⟩)⟩])
 (.cond (.t ⟨.d1, .d3, .d0⟩) (.seq (.ops [⟨(some ⟨.d1, .d4, .d1⟩), none, .load none (.t ⟨.d0, .d0, .d2⟩)⟩,
  ⟨(some ⟨.d1, .d4, .d2⟩), none, .load none (.t ⟨.d0, .d0, .d2⟩)⟩,
  ⟨(some ⟨.d1, .d4, .d3⟩), none, .mkfn 78 [(.t ⟨.d1, .d4, .d2⟩)] []⟩,
  ⟨(some ⟨.d1, .d4, .d4⟩), none, .callF ⟨.d1, .d0, .d4⟩ [(.t ⟨.d1, .d4, .d1⟩), (.t ⟨.d1, .d4, .d3⟩)]⟩,
  ⟨none, none, .store 6 (.t ⟨.d0, .d0, .d4⟩) (.t ⟨.d1, .d4, .d4⟩)⟩])
 .ret) .skip)))))))))))))))))
 (.seq (.ops [⟨(some ⟨.d1, .d4, .d5⟩), none, .load none (.t ⟨.d0, .d0, .d2⟩)⟩,
  ⟨(some ⟨.d1, .d4, .d6⟩), none, .callF ⟨.d1, .d1, .d7⟩ [(.t ⟨.d1, .d4, .d5⟩)]⟩,
  ⟨none, none, .store 6 (.t ⟨.d0, .d0, .d4⟩) (.t ⟨.d1, .d4, .d6⟩)⟩])
 .ret)))
 [.cell (some 6) ⟨.d0, .d0, .d4⟩]
/-- (*umlaut/parse.parser).word -/
def e39 : Ent := .code [⟨.d0, .d0, .d0⟩, ⟨.d0, .d0, .d1⟩]
 (.seq (.ops [⟨(some ⟨.d0, .d0, .d4⟩), none, .mv (.c (.bool false))⟩])
 (.seq (.seq (.ops [⟨(some ⟨.d0, .d0, .d5⟩), none, .mv (.t ⟨.d0, .d0, .d0⟩)⟩,
  ⟨(some ⟨.d0, .d0, .d6⟩), none, .mv (.t ⟨.d0, .d0, .d1⟩)⟩,
  ⟨(some ⟨.d0, .d0, .d7⟩), none, .callF ⟨.d0, .d5, .d7⟩ [(.t ⟨.d0, .d0, .d5⟩), (.c (.int .i64 (.ofNat 2))), (.t ⟨.d0, .d0, .d6⟩)]⟩,
  ⟨(some ⟨.d0, .d1, .d0⟩), none, .un .not (.t ⟨.d0, .d0, .d7⟩)⟩])
 (.cond (.t ⟨.d0, .d1, .d0⟩) (.seq (.ops [⟨(some ⟨.d0, .d0, .d4⟩), none, .mv (.c (.bool false))⟩])
 .ret) .skip))
 (.seq (.ops [⟨(some ⟨.d0, .d1, .d1⟩), none, .mv (.t ⟨.d0, .d0, .d0⟩)⟩,
  ⟨(some ⟨.d0, .d1, .d2⟩), none, .nilck (.t ⟨.d0, .d1, .d1⟩)⟩,
  ⟨(some ⟨.d0, .d1, .d3⟩), none, .fieldA 1 (.t ⟨.d0, .d1, .d2⟩)⟩,
  ⟨(some ⟨.d0, .d1, .d4⟩), none, .load none (.t ⟨.d0, .d1, .d3⟩)⟩,
  ⟨(some ⟨.d0, .d1, .d5⟩), none, .bin .add (.t ⟨.d0, .d1, .d4⟩) (.c (.int .i64 (.ofNat 1)))⟩,
  ⟨(some ⟨.d0, .d1, .d6⟩), none, .nilck (.t ⟨.d0, .d1, .d1⟩)⟩,
  ⟨(some ⟨.d0, .d1, .d7⟩), none, .fieldA 1 (.t ⟨.d0, .d1, .d6⟩)⟩,
  ⟨none, none, .store 1 (.t ⟨.d0, .d1, .d7⟩) (.t ⟨.d0, .d1, .d5⟩)⟩])
 (.seq (.ops [⟨(some ⟨.d0, .d0, .d4⟩), none, .mv (.c (.bool true))⟩])
 .ret))))
 [.tmp ⟨.d0, .d0, .d4⟩]
/-- (*umlaut/parse.parser).drop -/
def e41 : Ent := .code [⟨.d0, .d0, .d0⟩]
 (.seq (.ops [⟨(some ⟨.d0, .d0, .d2⟩), none, .box none (.c (.agg [(.int .i64 (.ofNat 0)), (.str []), (.str []), (.str []), (.int .i64 (.ofNat 0)), (.int .i64 (.ofNat 0)), .nils, (.bool false), (.bool false), .nils, .nils, .nils, .nils, .nilp, .nilp, .nils, .nils, (.int .i64 (.ofNat 0)), (.int .i64 (.ofNat 0))]))⟩])
 (.seq (.seq (.ops [⟨(some ⟨.d0, .d0, .d3⟩), none, .mv (.t ⟨.d0, .d0, .d0⟩)⟩,
  ⟨(some ⟨.d0, .d0, .d4⟩), none, .callF ⟨.d0, .d4, .d7⟩ [(.t ⟨.d0, .d0, .d3⟩), (.c (.str [84, 65, 66, 76, 69]))]⟩])
 (.cond (.t ⟨.d0, .d0, .d4⟩) (.seq (.ops [⟨(some ⟨.d0, .d0, .d5⟩), none, .mv (.t ⟨.d0, .d0, .d0⟩)⟩,
  ⟨(some ⟨.d0, .d0, .d6⟩), none, .callF ⟨.d1, .d2, .d3⟩ [(.t ⟨.d0, .d0, .d5⟩)]⟩,
  ⟨(some ⟨.d0, .d0, .d7⟩), none, .build [(.int .i64 (.ofNat 0)), (.str []), (.str []), (.str []), (.int .i64 (.ofNat 0)), (.int .i64 (.ofNat 0)), .nils, (.bool false), (.bool false), .nils, .nils, .nils, .nils, .nilp, .nilp, .nils, .nils, (.int .i64 (.ofNat 0)), (.int .i64 (.ofNat 0))] [(0, 1, (.c (.int .i64 (.ofNat 4)))), (1, 1, (.t ⟨.d0, .d0, .d6⟩))]⟩,
  ⟨none, none, .store 19 (.t ⟨.d0, .d0, .d2⟩) (.t ⟨.d0, .d0, .d7⟩)⟩])
 .ret) .skip))
 (.seq (.ops [⟨(some ⟨.d0, .d1, .d0⟩), none, .mv (.t ⟨.d0, .d0, .d0⟩)⟩,
  ⟨(some ⟨.d0, .d1, .d1⟩), none, .buildS none 1 1 [(.str [])] [(0, 1, (.c (.str [73, 78, 68, 69, 88])))]⟩,
  ⟨(some ⟨.d0, .d1, .d2⟩), none, .callF ⟨.d0, .d5, .d5⟩ [(.t ⟨.d0, .d1, .d0⟩), (.t ⟨.d0, .d1, .d1⟩)]⟩])
 (.seq (.ops [⟨(some ⟨.d0, .d1, .d3⟩), none, .mv (.t ⟨.d0, .d0, .d0⟩)⟩,
  ⟨(some ⟨.d0, .d1, .d4⟩), none, .callF ⟨.d1, .d2, .d3⟩ [(.t ⟨.d0, .d1, .d3⟩)]⟩,
  ⟨(some ⟨.d0, .d1, .d5⟩), none, .build [(.int .i64 (.ofNat 0)), (.str []), (.str []), (.str []), (.int .i64 (.ofNat 0)), (.int .i64 (.ofNat 0)), .nils, (.bool false), (.bool false), .nils, .nils, .nils, .nils, .nilp, .nilp, .nils, .nils, (.int .i64 (.ofNat 0)), (.int .i64 (.ofNat 0))] [(0, 1, (.c (.int .i64 (.ofNat 5)))), (1, 1, (.t ⟨.d0, .d1, .d4⟩))]⟩,
  ⟨none, none, .store 19 (.t ⟨.d0, .d0, .d2⟩) (.t ⟨.d0, .d1, .d5⟩)⟩])
 .ret))))
 [.cell (some 19) ⟨.d0, .d0, .d2⟩]
/-- (*umlaut/parse.parser).want -/
def e45 : Ent := .code [⟨.d0, .d0, .d0⟩, ⟨.d0, .d0, .d1⟩]
 (.seq (.ops [⟨(some ⟨.d0, .d0, .d6⟩), none, .mv (.t ⟨.d0, .d0, .d1⟩)⟩,
  ⟨(some ⟨.d0, .d0, .d7⟩), none, .len .sli (.t ⟨.d0, .d0, .d6⟩)⟩,
  ⟨(some ⟨.d0, .d1, .d0⟩), none, .mv (.c (.int .i64 (.ofNat 0)))⟩])
 (.block 0 (.loop (.seq (.ops [⟨(some ⟨.d0, .d1, .d1⟩), none, .bin .lss (.t ⟨.d0, .d1, .d0⟩) (.t ⟨.d0, .d0, .d7⟩)⟩])
 (.seq (.cond (.t ⟨.d0, .d1, .d1⟩) .skip (.exit 0))
 (.seq (.block 1 (.seq (.ops [⟨(some ⟨.d0, .d1, .d2⟩), none, .idxA none 1 (.t ⟨.d0, .d0, .d6⟩) (.t ⟨.d0, .d1, .d0⟩)⟩,
  ⟨(some ⟨.d0, .d1, .d3⟩), none, .load none (.t ⟨.d0, .d1, .d2⟩)⟩,
  ⟨(some ⟨.d0, .d0, .d5⟩), none, .mv (.t ⟨.d0, .d1, .d3⟩)⟩])
 (.seq (.ops [⟨(some ⟨.d0, .d1, .d4⟩), none, .mv (.t ⟨.d0, .d0, .d0⟩)⟩,
  ⟨(some ⟨.d0, .d1, .d5⟩), none, .mv (.t ⟨.d0, .d0, .d5⟩)⟩,
  ⟨(some ⟨.d0, .d1, .d6⟩), none, .callF ⟨.d0, .d4, .d7⟩ [(.t ⟨.d0, .d1, .d4⟩), (.t ⟨.d0, .d1, .d5⟩)]⟩,
  ⟨(some ⟨.d0, .d1, .d7⟩), none, .un .not (.t ⟨.d0, .d1, .d6⟩)⟩])
 (.cond (.t ⟨.d0, .d1, .d7⟩) (.ops [⟨(some ⟨.d0, .d2, .d0⟩), none, .mv (.t ⟨.d0, .d0, .d0⟩)⟩,
  ⟨(some ⟨.d0, .d2, .d1⟩), none, .callF ⟨.d0, .d2, .d3⟩ [(.t ⟨.d0, .d2, .d0⟩), (.c (.int .i64 (.ofNat 10)))]⟩]) .skip))))
 (.ops [⟨(some ⟨.d0, .d2, .d2⟩), none, .bin .add (.t ⟨.d0, .d1, .d0⟩) (.c (.int .i64 (.ofNat 1)))⟩,
  ⟨(some ⟨.d0, .d1, .d0⟩), none, .mv (.t ⟨.d0, .d2, .d2⟩)⟩])))))))
 []
/-- (*umlaut/parse.parser).is -/
def e47 : Ent := .code [⟨.d0, .d0, .d0⟩, ⟨.d0, .d0, .d1⟩, ⟨.d0, .d0, .d2⟩]
 (.seq (.ops [⟨(some ⟨.d0, .d0, .d6⟩), none, .mv (.c (.bool false))⟩])
 (.seq (.reg 0 [] [⟨(some ⟨.d0, .d0, .d7⟩), none, .mv (.t ⟨.d0, .d0, .d0⟩)⟩,
  ⟨(some ⟨.d0, .d1, .d0⟩), none, .nilck (.t ⟨.d0, .d0, .d7⟩)⟩,
  ⟨(some ⟨.d0, .d1, .d1⟩), none, .fieldA 5 (.t ⟨.d0, .d1, .d0⟩)⟩,
  ⟨(some ⟨.d0, .d1, .d2⟩), none, .load none (.t ⟨.d0, .d1, .d1⟩)⟩,
  ⟨(some ⟨.d0, .d1, .d3⟩), none, .bin .eql (.t ⟨.d0, .d1, .d2⟩) (.c (.int .i64 (.ofNat 0)))⟩,
  ⟨(some ⟨.d0, .d1, .d4⟩), none, .mv (.t ⟨.d0, .d1, .d3⟩)⟩,
  ⟨(some ⟨.d0, .d1, .d5⟩), (some (⟨.d0, .d1, .d4⟩, true)), .mv (.t ⟨.d0, .d0, .d0⟩)⟩,
  ⟨(some ⟨.d0, .d1, .d6⟩), (some (⟨.d0, .d1, .d4⟩, true)), .nilck (.t ⟨.d0, .d1, .d5⟩)⟩,
  ⟨(some ⟨.d0, .d1, .d7⟩), (some (⟨.d0, .d1, .d4⟩, true)), .fieldA 1 (.t ⟨.d0, .d1, .d6⟩)⟩,
  ⟨(some ⟨.d0, .d2, .d0⟩), (some (⟨.d0, .d1, .d4⟩, true)), .load none (.t ⟨.d0, .d1, .d7⟩)⟩,
  ⟨(some ⟨.d0, .d2, .d1⟩), (some (⟨.d0, .d1, .d4⟩, true)), .mv (.t ⟨.d0, .d0, .d0⟩)⟩,
  ⟨(some ⟨.d0, .d2, .d2⟩), (some (⟨.d0, .d1, .d4⟩, true)), .nilck (.t ⟨.d0, .d2, .d1⟩)⟩,
  ⟨(some ⟨.d0, .d2, .d3⟩), (some (⟨.d0, .d1, .d4⟩, true)), .fieldA 0 (.t ⟨.d0, .d2, .d2⟩)⟩,
  ⟨(some ⟨.d0, .d2, .d4⟩), (some (⟨.d0, .d1, .d4⟩, true)), .load none (.t ⟨.d0, .d2, .d3⟩)⟩,
  ⟨(some ⟨.d0, .d2, .d5⟩), (some (⟨.d0, .d1, .d4⟩, true)), .len .sli (.t ⟨.d0, .d2, .d4⟩)⟩,
  ⟨(some ⟨.d0, .d2, .d6⟩), (some (⟨.d0, .d1, .d4⟩, true)), .bin .lss (.t ⟨.d0, .d2, .d0⟩) (.t ⟨.d0, .d2, .d5⟩)⟩,
  ⟨(some ⟨.d0, .d2, .d7⟩), none, .pick (.t ⟨.d0, .d1, .d4⟩) (.t ⟨.d0, .d2, .d6⟩) (.c (.bool false))⟩,
  ⟨(some ⟨.d0, .d3, .d0⟩), none, .mv (.t ⟨.d0, .d2, .d7⟩)⟩,
  ⟨(some ⟨.d0, .d3, .d1⟩), (some (⟨.d0, .d3, .d0⟩, true)), .mv (.t ⟨.d0, .d0, .d0⟩)⟩,
  ⟨(some ⟨.d0, .d3, .d2⟩), (some (⟨.d0, .d3, .d0⟩, true)), .nilck (.t ⟨.d0, .d3, .d1⟩)⟩,
  ⟨(some ⟨.d0, .d3, .d3⟩), (some (⟨.d0, .d3, .d0⟩, true)), .fieldA 0 (.t ⟨.d0, .d3, .d2⟩)⟩,
  ⟨(some ⟨.d0, .d3, .d4⟩), (some (⟨.d0, .d3, .d0⟩, true)), .load none (.t ⟨.d0, .d3, .d3⟩)⟩,
  ⟨(some ⟨.d0, .d3, .d5⟩), (some (⟨.d0, .d3, .d0⟩, true)), .mv (.t ⟨.d0, .d0, .d0⟩)⟩,
  ⟨(some ⟨.d0, .d3, .d6⟩), (some (⟨.d0, .d3, .d0⟩, true)), .nilck (.t ⟨.d0, .d3, .d5⟩)⟩,
  ⟨(some ⟨.d0, .d3, .d7⟩), (some (⟨.d0, .d3, .d0⟩, true)), .fieldA 1 (.t ⟨.d0, .d3, .d6⟩)⟩,
  ⟨(some ⟨.d0, .d4, .d0⟩), (some (⟨.d0, .d3, .d0⟩, true)), .load none (.t ⟨.d0, .d3, .d7⟩)⟩,
  ⟨(some ⟨.d0, .d4, .d1⟩), (some (⟨.d0, .d3, .d0⟩, true)), .idxA none 4 (.t ⟨.d0, .d3, .d4⟩) (.t ⟨.d0, .d4, .d0⟩)⟩,
  ⟨(some ⟨.d0, .d4, .d2⟩), (some (⟨.d0, .d3, .d0⟩, true)), .fieldA 0 (.t ⟨.d0, .d4, .d1⟩)⟩,
  ⟨(some ⟨.d0, .d4, .d3⟩), (some (⟨.d0, .d3, .d0⟩, true)), .load none (.t ⟨.d0, .d4, .d2⟩)⟩,
  ⟨(some ⟨.d0, .d4, .d4⟩), (some (⟨.d0, .d3, .d0⟩, true)), .mv (.t ⟨.d0, .d0, .d1⟩)⟩,
  ⟨(some ⟨.d0, .d4, .d5⟩), (some (⟨.d0, .d3, .d0⟩, true)), .bin .eql (.t ⟨.d0, .d4, .d3⟩) (.t ⟨.d0, .d4, .d4⟩)⟩,
  ⟨(some ⟨.d0, .d4, .d6⟩), none, .pick (.t ⟨.d0, .d3, .d0⟩) (.t ⟨.d0, .d4, .d5⟩) (.c (.bool false))⟩,
  ⟨(some ⟨.d0, .d4, .d7⟩), none, .mv (.t ⟨.d0, .d4, .d6⟩)⟩,
  ⟨(some ⟨.d0, .d5, .d0⟩), (some (⟨.d0, .d4, .d7⟩, true)), .mv (.t ⟨.d0, .d0, .d0⟩)⟩,
  ⟨(some ⟨.d0, .d5, .d1⟩), (some (⟨.d0, .d4, .d7⟩, true)), .nilck (.t ⟨.d0, .d5, .d0⟩)⟩,
  ⟨(some ⟨.d0, .d5, .d2⟩), (some (⟨.d0, .d4, .d7⟩, true)), .fieldA 0 (.t ⟨.d0, .d5, .d1⟩)⟩,
  ⟨(some ⟨.d0, .d5, .d3⟩), (some (⟨.d0, .d4, .d7⟩, true)), .load none (.t ⟨.d0, .d5, .d2⟩)⟩,
  ⟨(some ⟨.d0, .d5, .d4⟩), (some (⟨.d0, .d4, .d7⟩, true)), .mv (.t ⟨.d0, .d0, .d0⟩)⟩,
  ⟨(some ⟨.d0, .d5, .d5⟩), (some (⟨.d0, .d4, .d7⟩, true)), .nilck (.t ⟨.d0, .d5, .d4⟩)⟩,
  ⟨(some ⟨.d0, .d5, .d6⟩), (some (⟨.d0, .d4, .d7⟩, true)), .fieldA 1 (.t ⟨.d0, .d5, .d5⟩)⟩,
  ⟨(some ⟨.d0, .d5, .d7⟩), (some (⟨.d0, .d4, .d7⟩, true)), .load none (.t ⟨.d0, .d5, .d6⟩)⟩,
  ⟨(some ⟨.d0, .d6, .d0⟩), (some (⟨.d0, .d4, .d7⟩, true)), .idxA none 4 (.t ⟨.d0, .d5, .d3⟩) (.t ⟨.d0, .d5, .d7⟩)⟩,
  ⟨(some ⟨.d0, .d6, .d1⟩), (some (⟨.d0, .d4, .d7⟩, true)), .fieldA 1 (.t ⟨.d0, .d6, .d0⟩)⟩,
  ⟨(some ⟨.d0, .d6, .d2⟩), (some (⟨.d0, .d4, .d7⟩, true)), .load none (.t ⟨.d0, .d6, .d1⟩)⟩,
  ⟨(some ⟨.d0, .d6, .d3⟩), (some (⟨.d0, .d4, .d7⟩, true)), .mv (.t ⟨.d0, .d0, .d2⟩)⟩,
  ⟨(some ⟨.d0, .d6, .d4⟩), (some (⟨.d0, .d4, .d7⟩, true)), .bin .eql (.t ⟨.d0, .d6, .d2⟩) (.t ⟨.d0, .d6, .d3⟩)⟩,
  ⟨(some ⟨.d0, .d6, .d5⟩), none, .pick (.t ⟨.d0, .d4, .d7⟩) (.t ⟨.d0, .d6, .d4⟩) (.c (.bool false))⟩,
  ⟨(some ⟨.d0, .d0, .d6⟩), none, .mv (.t ⟨.d0, .d6, .d5⟩)⟩])
 .ret))
 [.tmp ⟨.d0, .d0, .d6⟩]
/-- slices.IndexFunc[[]umlaut/api.Node,umlaut/api.Node] -/
def e48 : Ent := .code [⟨.d0, .d0, .d0⟩, ⟨.d0, .d0, .d1⟩]
 (.seq (.ops [⟨(some ⟨.d0, .d0, .d4⟩), none, .mv (.c (.int .i64 (.ofNat 0)))⟩])
 (.seq (.seq (.ops [⟨(some ⟨.d0, .d0, .d6⟩), none, .mv (.t ⟨.d0, .d0, .d0⟩)⟩,
  ⟨(some ⟨.d0, .d0, .d7⟩), none, .len .sli (.t ⟨.d0, .d0, .d6⟩)⟩,
  ⟨(some ⟨.d0, .d1, .d0⟩), none, .mv (.c (.int .i64 (.ofNat 0)))⟩])
 (.block 0 (.loop (.seq (.ops [⟨(some ⟨.d0, .d1, .d1⟩), none, .bin .lss (.t ⟨.d0, .d1, .d0⟩) (.t ⟨.d0, .d0, .d7⟩)⟩])
 (.seq (.cond (.t ⟨.d0, .d1, .d1⟩) .skip (.exit 0))
 (.seq (.block 1 (.seq (.ops [⟨(some ⟨.d0, .d1, .d2⟩), none, .mv (.t ⟨.d0, .d1, .d0⟩)⟩,
  ⟨(some ⟨.d0, .d0, .d5⟩), none, .mv (.t ⟨.d0, .d1, .d2⟩)⟩])
 (.seq (.ops [⟨(some ⟨.d0, .d1, .d3⟩), none, .mv (.t ⟨.d0, .d0, .d1⟩)⟩,
  ⟨(some ⟨.d0, .d1, .d4⟩), none, .mv (.t ⟨.d0, .d0, .d0⟩)⟩,
  ⟨(some ⟨.d0, .d1, .d5⟩), none, .mv (.t ⟨.d0, .d0, .d5⟩)⟩,
  ⟨(some ⟨.d0, .d1, .d6⟩), none, .idxA none 6 (.t ⟨.d0, .d1, .d4⟩) (.t ⟨.d0, .d1, .d5⟩)⟩,
  ⟨(some ⟨.d0, .d1, .d7⟩), none, .load (some 6) (.t ⟨.d0, .d1, .d6⟩)⟩,
  ⟨(some ⟨.d0, .d2, .d0⟩), none, .callV (.t ⟨.d0, .d1, .d3⟩) [(.t ⟨.d0, .d1, .d7⟩)]⟩])
 (.cond (.t ⟨.d0, .d2, .d0⟩) (.seq (.ops [⟨(some ⟨.d0, .d2, .d1⟩), none, .mv (.t ⟨.d0, .d0, .d5⟩)⟩,
  ⟨(some ⟨.d0, .d0, .d4⟩), none, .mv (.t ⟨.d0, .d2, .d1⟩)⟩])
 .ret) .skip))))
 (.ops [⟨(some ⟨.d0, .d2, .d2⟩), none, .bin .add (.t ⟨.d0, .d1, .d0⟩) (.c (.int .i64 (.ofNat 1)))⟩,
  ⟨(some ⟨.d0, .d1, .d0⟩), none, .mv (.t ⟨.d0, .d2, .d2⟩)⟩])))))))
 (.seq (.ops [⟨(some ⟨.d0, .d0, .d4⟩), none, .mv (.c (.int .i64 (.negSucc 0)))⟩])
 .ret)))
 [.tmp ⟨.d0, .d0, .d4⟩]
/-- umlaut/parse.binaries -/
def e49 : Ent := .code [⟨.d0, .d0, .d0⟩]
 (.seq (.ops [⟨(some ⟨.d0, .d0, .d2⟩), none, .mv (.c .nils)⟩])
 (.seq (.seq (.ops [⟨(some ⟨.d0, .d0, .d3⟩), none, .mv (.t ⟨.d0, .d0, .d0⟩)⟩])
 (.block 0 (.seq (.ops [⟨(some ⟨.d0, .d0, .d5⟩), none, .bin .eql (.t ⟨.d0, .d0, .d3⟩) (.c (.int .i64 (.ofNat 1)))⟩,
  ⟨(some ⟨.d0, .d0, .d4⟩), none, .mv (.t ⟨.d0, .d0, .d5⟩)⟩])
 (.cond (.t ⟨.d0, .d0, .d4⟩) (.seq (.ops [⟨(some ⟨.d0, .d0, .d6⟩), none, .build [(.int .i64 (.ofNat 0)), (.str []), (.int .i64 (.ofNat 0))] [(0, 1, (.c (.int .i64 (.ofNat 2)))), (1, 1, (.c (.str [79, 82]))), (2, 1, (.c (.int .i64 (.ofNat 19))))]⟩,
  ⟨(some ⟨.d0, .d0, .d7⟩), none, .build [(.int .i64 (.ofNat 0)), (.str []), (.int .i64 (.ofNat 0))] [(0, 1, (.c (.int .i64 (.ofNat 2)))), (1, 1, (.c (.str [88, 79, 82]))), (2, 1, (.c (.int .i64 (.ofNat 22))))]⟩,
  ⟨(some ⟨.d0, .d1, .d0⟩), none, .buildS none 3 2 [(.int .i64 (.ofNat 0)), (.str []), (.int .i64 (.ofNat 0)), (.int .i64 (.ofNat 0)), (.str []), (.int .i64 (.ofNat 0))] [(0, 3, (.t ⟨.d0, .d0, .d6⟩)), (3, 3, (.t ⟨.d0, .d0, .d7⟩))]⟩,
  ⟨(some ⟨.d0, .d0, .d2⟩), none, .mv (.t ⟨.d0, .d1, .d0⟩)⟩])
 .ret) (.seq (.ops [⟨(some ⟨.d0, .d1, .d2⟩), none, .bin .eql (.t ⟨.d0, .d0, .d3⟩) (.c (.int .i64 (.ofNat 2)))⟩,
  ⟨(some ⟨.d0, .d1, .d1⟩), none, .mv (.t ⟨.d0, .d1, .d2⟩)⟩])
 (.cond (.t ⟨.d0, .d1, .d1⟩) (.seq (.ops [⟨(some ⟨.d0, .d1, .d3⟩), none, .build [(.int .i64 (.ofNat 0)), (.str []), (.int .i64 (.ofNat 0))] [(0, 1, (.c (.int .i64 (.ofNat 2)))), (1, 1, (.c (.str [65, 78, 68]))), (2, 1, (.c (.int .i64 (.ofNat 18))))]⟩,
  ⟨(some ⟨.d0, .d1, .d4⟩), none, .buildS none 3 1 [(.int .i64 (.ofNat 0)), (.str []), (.int .i64 (.ofNat 0))] [(0, 3, (.t ⟨.d0, .d1, .d3⟩))]⟩,
  ⟨(some ⟨.d0, .d0, .d2⟩), none, .mv (.t ⟨.d0, .d1, .d4⟩)⟩])
 .ret) (.seq (.ops [⟨(some ⟨.d0, .d1, .d6⟩), none, .bin .eql (.t ⟨.d0, .d0, .d3⟩) (.c (.int .i64 (.ofNat 4)))⟩,
  ⟨(some ⟨.d0, .d1, .d5⟩), none, .mv (.t ⟨.d0, .d1, .d6⟩)⟩])
 (.cond (.t ⟨.d0, .d1, .d5⟩) (.seq (.ops [⟨(some ⟨.d0, .d1, .d7⟩), none, .build [(.int .i64 (.ofNat 0)), (.str []), (.int .i64 (.ofNat 0))] [(0, 1, (.c (.int .i64 (.ofNat 5)))), (1, 1, (.c (.str [61]))), (2, 1, (.c (.int .i64 (.ofNat 1))))]⟩,
  ⟨(some ⟨.d0, .d2, .d0⟩), none, .build [(.int .i64 (.ofNat 0)), (.str []), (.int .i64 (.ofNat 0))] [(0, 1, (.c (.int .i64 (.ofNat 5)))), (1, 1, (.c (.str [60, 62]))), (2, 1, (.c (.int .i64 (.ofNat 2))))]⟩,
  ⟨(some ⟨.d0, .d2, .d1⟩), none, .build [(.int .i64 (.ofNat 0)), (.str []), (.int .i64 (.ofNat 0))] [(0, 1, (.c (.int .i64 (.ofNat 5)))), (1, 1, (.c (.str [60]))), (2, 1, (.c (.int .i64 (.ofNat 3))))]⟩,
  ⟨(some ⟨.d0, .d2, .d2⟩), none, .build [(.int .i64 (.ofNat 0)), (.str []), (.int .i64 (.ofNat 0))] [(0, 1, (.c (.int .i64 (.ofNat 5)))), (1, 1, (.c (.str [60, 61]))), (2, 1, (.c (.int .i64 (.ofNat 4))))]⟩,
  ⟨(some ⟨.d0, .d2, .d3⟩), none, .build [(.int .i64 (.ofNat 0)), (.str []), (.int .i64 (.ofNat 0))] [(0, 1, (.c (.int .i64 (.ofNat 5)))), (1, 1, (.c (.str [62]))), (2, 1, (.c (.int .i64 (.ofNat 5))))]⟩,
  ⟨(some ⟨.d0, .d2, .d4⟩), none, .build [(.int .i64 (.ofNat 0)), (.str []), (.int .i64 (.ofNat 0))] [(0, 1, (.c (.int .i64 (.ofNat 5)))), (1, 1, (.c (.str [62, 61]))), (2, 1, (.c (.int .i64 (.ofNat 6))))]⟩,
  ⟨(some ⟨.d0, .d2, .d5⟩), none, .buildS none 3 6 [(.int .i64 (.ofNat 0)), (.str []), (.int .i64 (.ofNat 0)), (.int .i64 (.ofNat 0)), (.str []), (.int .i64 (.ofNat 0)), (.int .i64 (.ofNat 0)), (.str []), (.int .i64 (.ofNat 0)), (.int .i64 (.ofNat 0)), (.str []), (.int .i64 (.ofNat 0)), (.int .i64 (.ofNat 0)), (.str []), (.int .i64 (.ofNat 0)), (.int .i64 (.ofNat 0)), (.str []), (.int .i64 (.ofNat 0))] [(0, 3, (.t ⟨.d0, .d1, .d7⟩)), (3, 3, (.t ⟨.d0, .d2, .d0⟩)), (6, 3, (.t ⟨.d0, .d2, .d1⟩)), (9, 3, (.t ⟨.d0, .d2, .d2⟩)), (12, 3, (.t ⟨.d0, .d2, .d3⟩)), (15, 3, (.t ⟨.d0, .d2, .d4⟩))]⟩,
  ⟨(some ⟨.d0, .d0, .d2⟩), none, .mv (.t ⟨.d0, .d2, .d5⟩)⟩])
 .ret) (.seq (.ops [⟨(some ⟨.d0, .d2, .d7⟩), none, .bin .eql (.t ⟨.d0, .d0, .d3⟩) (.c (.int .i64 (.ofNat 5)))⟩,
  ⟨(some ⟨.d0, .d2, .d6⟩), none, .mv (.t ⟨.d0, .d2, .d7⟩)⟩])
 (.cond (.t ⟨.d0, .d2, .d6⟩) (.seq (.ops [⟨(some ⟨.d0, .d3, .d0⟩), none, .build [(.int .i64 (.ofNat 0)), (.str []), (.int .i64 (.ofNat 0))] [(0, 1, (.c (.int .i64 (.ofNat 5)))), (1, 1, (.c (.str [124]))), (2, 1, (.c (.int .i64 (.ofNat 15))))]⟩,
  ⟨(some ⟨.d0, .d3, .d1⟩), none, .build [(.int .i64 (.ofNat 0)), (.str []), (.int .i64 (.ofNat 0))] [(0, 1, (.c (.int .i64 (.ofNat 5)))), (1, 1, (.c (.str [94]))), (2, 1, (.c (.int .i64 (.ofNat 16))))]⟩,
  ⟨(some ⟨.d0, .d3, .d2⟩), none, .buildS none 3 2 [(.int .i64 (.ofNat 0)), (.str []), (.int .i64 (.ofNat 0)), (.int .i64 (.ofNat 0)), (.str []), (.int .i64 (.ofNat 0))] [(0, 3, (.t ⟨.d0, .d3, .d0⟩)), (3, 3, (.t ⟨.d0, .d3, .d1⟩))]⟩,
  ⟨(some ⟨.d0, .d0, .d2⟩), none, .mv (.t ⟨.d0, .d3, .d2⟩)⟩])
 .ret) (.seq (.ops [⟨(some ⟨.d0, .d3, .d4⟩), none, .bin .eql (.t ⟨.d0, .d0, .d3⟩) (.c (.int .i64 (.ofNat 6)))⟩,
  ⟨(some ⟨.d0, .d3, .d3⟩), none, .mv (.t ⟨.d0, .d3, .d4⟩)⟩])
 (.cond (.t ⟨.d0, .d3, .d3⟩) (.seq (.ops [⟨(some ⟨.d0, .d3, .d5⟩), none, .build [(.int .i64 (.ofNat 0)), (.str []), (.int .i64 (.ofNat 0))] [(0, 1, (.c (.int .i64 (.ofNat 5)))), (1, 1, (.c (.str [38]))), (2, 1, (.c (.int .i64 (.ofNat 14))))]⟩,
  ⟨(some ⟨.d0, .d3, .d6⟩), none, .buildS none 3 1 [(.int .i64 (.ofNat 0)), (.str []), (.int .i64 (.ofNat 0))] [(0, 3, (.t ⟨.d0, .d3, .d5⟩))]⟩,
  ⟨(some ⟨.d0, .d0, .d2⟩), none, .mv (.t ⟨.d0, .d3, .d6⟩)⟩])
 .ret) (.seq (.ops [⟨(some ⟨.d0, .d4, .d0⟩), none, .bin .eql (.t ⟨.d0, .d0, .d3⟩) (.c (.int .i64 (.ofNat 7)))⟩,
  ⟨(some ⟨.d0, .d3, .d7⟩), none, .mv (.t ⟨.d0, .d4, .d0⟩)⟩])
 (.cond (.t ⟨.d0, .d3, .d7⟩) (.seq (.ops [⟨(some ⟨.d0, .d4, .d1⟩), none, .build [(.int .i64 (.ofNat 0)), (.str []), (.int .i64 (.ofNat 0))] [(0, 1, (.c (.int .i64 (.ofNat 5)))), (1, 1, (.c (.str [60, 60]))), (2, 1, (.c (.int .i64 (.ofNat 12))))]⟩,
  ⟨(some ⟨.d0, .d4, .d2⟩), none, .build [(.int .i64 (.ofNat 0)), (.str []), (.int .i64 (.ofNat 0))] [(0, 1, (.c (.int .i64 (.ofNat 5)))), (1, 1, (.c (.str [62, 62]))), (2, 1, (.c (.int .i64 (.ofNat 13))))]⟩,
  ⟨(some ⟨.d0, .d4, .d3⟩), none, .buildS none 3 2 [(.int .i64 (.ofNat 0)), (.str []), (.int .i64 (.ofNat 0)), (.int .i64 (.ofNat 0)), (.str []), (.int .i64 (.ofNat 0))] [(0, 3, (.t ⟨.d0, .d4, .d1⟩)), (3, 3, (.t ⟨.d0, .d4, .d2⟩))]⟩,
  ⟨(some ⟨.d0, .d0, .d2⟩), none, .mv (.t ⟨.d0, .d4, .d3⟩)⟩])
 .ret) (.seq (.ops [⟨(some ⟨.d0, .d4, .d5⟩), none, .bin .eql (.t ⟨.d0, .d0, .d3⟩) (.c (.int .i64 (.ofNat 8)))⟩,
  ⟨(some ⟨.d0, .d4, .d4⟩), none, .mv (.t ⟨.d0, .d4, .d5⟩)⟩])
 (.cond (.t ⟨.d0, .d4, .d4⟩) (.seq (.ops [⟨(some ⟨.d0, .d4, .d6⟩), none, .build [(.int .i64 (.ofNat 0)), (.str []), (.int .i64 (.ofNat 0))] [(0, 1, (.c (.int .i64 (.ofNat 5)))), (1, 1, (.c (.str [43]))), (2, 1, (.c (.int .i64 (.ofNat 7))))]⟩,
  ⟨(some ⟨.d0, .d4, .d7⟩), none, .build [(.int .i64 (.ofNat 0)), (.str []), (.int .i64 (.ofNat 0))] [(0, 1, (.c (.int .i64 (.ofNat 5)))), (1, 1, (.c (.str [45]))), (2, 1, (.c (.int .i64 (.ofNat 8))))]⟩,
  ⟨(some ⟨.d0, .d5, .d0⟩), none, .build [(.int .i64 (.ofNat 0)), (.str []), (.int .i64 (.ofNat 0))] [(0, 1, (.c (.int .i64 (.ofNat 5)))), (1, 1, (.c (.str [124, 124]))), (2, 1, (.c (.int .i64 (.ofNat 17))))]⟩,
  ⟨(some ⟨.d0, .d5, .d1⟩), none, .buildS none 3 3 [(.int .i64 (.ofNat 0)), (.str []), (.int .i64 (.ofNat 0)), (.int .i64 (.ofNat 0)), (.str []), (.int .i64 (.ofNat 0)), (.int .i64 (.ofNat 0)), (.str []), (.int .i64 (.ofNat 0))] [(0, 3, (.t ⟨.d0, .d4, .d6⟩)), (3, 3, (.t ⟨.d0, .d4, .d7⟩)), (6, 3, (.t ⟨.d0, .d5, .d0⟩))]⟩,
  ⟨(some ⟨.d0, .d0, .d2⟩), none, .mv (.t ⟨.d0, .d5, .d1⟩)⟩])
 .ret) (.seq (.ops [⟨(some ⟨.d0, .d5, .d3⟩), none, .bin .eql (.t ⟨.d0, .d0, .d3⟩) (.c (.int .i64 (.ofNat 9)))⟩,
  ⟨(some ⟨.d0, .d5, .d2⟩), none, .mv (.t ⟨.d0, .d5, .d3⟩)⟩])
 (.cond (.t ⟨.d0, .d5, .d2⟩) (.seq (.ops [⟨(some ⟨.d0, .d5, .d4⟩), none, .build [(.int .i64 (.ofNat 0)), (.str []), (.int .i64 (.ofNat 0))] [(0, 1, (.c (.int .i64 (.ofNat 5)))), (1, 1, (.c (.str [42]))), (2, 1, (.c (.int .i64 (.ofNat 9))))]⟩,
  ⟨(some ⟨.d0, .d5, .d5⟩), none, .build [(.int .i64 (.ofNat 0)), (.str []), (.int .i64 (.ofNat 0))] [(0, 1, (.c (.int .i64 (.ofNat 5)))), (1, 1, (.c (.str [47]))), (2, 1, (.c (.int .i64 (.ofNat 10))))]⟩,
  ⟨(some ⟨.d0, .d5, .d6⟩), none, .build [(.int .i64 (.ofNat 0)), (.str []), (.int .i64 (.ofNat 0))] [(0, 1, (.c (.int .i64 (.ofNat 5)))), (1, 1, (.c (.str [37]))), (2, 1, (.c (.int .i64 (.ofNat 11))))]⟩,
  ⟨(some ⟨.d0, .d5, .d7⟩), none, .buildS none 3 3 [(.int .i64 (.ofNat 0)), (.str []), (.int .i64 (.ofNat 0)), (.int .i64 (.ofNat 0)), (.str []), (.int .i64 (.ofNat 0)), (.int .i64 (.ofNat 0)), (.str []), (.int .i64 (.ofNat 0))] [(0, 3, (.t ⟨.d0, .d5, .d4⟩)), (3, 3, (.t ⟨.d0, .d5, .d5⟩)), (6, 3, (.t ⟨.d0, .d5, .d6⟩))]⟩,
  ⟨(some ⟨.d0, .d0, .d2⟩), none, .mv (.t ⟨.d0, .d5, .d7⟩)⟩])
 .ret) .skip))))))))))))))))))
 (.seq (.ops [⟨(some ⟨.d0, .d0, .d2⟩), none, .mv (.c .nils)⟩])
 .ret)))
 [.tmp ⟨.d0, .d0, .d2⟩]
/-- umlaut/parse.at -/
def e50 : Ent := .code [⟨.d0, .d0, .d0⟩, ⟨.d0, .d0, .d1⟩]
 (.seq (.ops [⟨(some ⟨.d0, .d0, .d2⟩), none, .box none (.t ⟨.d0, .d0, .d0⟩)⟩,
  ⟨(some ⟨.d0, .d0, .d4⟩), none, .box none (.c (.agg [(.int .i64 (.ofNat 0)), (.int .i64 (.ofNat 0)), (.str []), (.str []), (.int .i64 (.ofNat 0)), .nils]))⟩])
 (.seq (.seq (.ops [⟨(some ⟨.d0, .d0, .d5⟩), none, .mv (.t ⟨.d0, .d0, .d1⟩)⟩,
  ⟨(some ⟨.d0, .d0, .d6⟩), none, .fieldA 5 (.t ⟨.d0, .d0, .d2⟩)⟩,
  ⟨(some ⟨.d0, .d0, .d7⟩), none, .load none (.t ⟨.d0, .d0, .d6⟩)⟩,
  ⟨(some ⟨.d0, .d1, .d0⟩), none, .len .sli (.t ⟨.d0, .d0, .d7⟩)⟩,
  ⟨(some ⟨.d0, .d1, .d1⟩), none, .bin .lss (.t ⟨.d0, .d0, .d5⟩) (.t ⟨.d0, .d1, .d0⟩)⟩])
 (.cond (.t ⟨.d0, .d1, .d1⟩) (.seq (.ops [⟨(some ⟨.d0, .d1, .d2⟩), none, .fieldA 5 (.t ⟨.d0, .d0, .d2⟩)⟩,
  ⟨(some ⟨.d0, .d1, .d3⟩), none, .load none (.t ⟨.d0, .d1, .d2⟩)⟩,
  ⟨(some ⟨.d0, .d1, .d4⟩), none, .mv (.t ⟨.d0, .d0, .d1⟩)⟩,
  ⟨(some ⟨.d0, .d1, .d5⟩), none, .idxA none 6 (.t ⟨.d0, .d1, .d3⟩) (.t ⟨.d0, .d1, .d4⟩)⟩,
  ⟨(some ⟨.d0, .d1, .d6⟩), none, .load (some 6) (.t ⟨.d0, .d1, .d5⟩)⟩,
  ⟨none, none, .store 6 (.t ⟨.d0, .d0, .d4⟩) (.t ⟨.d0, .d1, .d6⟩)⟩])
 .ret) .skip))
 (.seq (.ops [⟨(some ⟨.d0, .d1, .d7⟩), none, .build [(.int .i64 (.ofNat 0)), (.int .i64 (.ofNat 0)), (.str []), (.str []), (.int .i64 (.ofNat 0)), .nils] []⟩,
  ⟨none, none, .store 6 (.t ⟨.d0, .d0, .d4⟩) (.t ⟨.d0, .d1, .d7⟩)⟩])
 .ret)))
 [.cell (some 6) ⟨.d0, .d0, .d4⟩]
/-- (*umlaut/parse.printer).binary -/
def e51 : Ent := .code [⟨.d0, .d0, .d0⟩, ⟨.d0, .d0, .d1⟩]
 (.seq (.ops [⟨(some ⟨.d0, .d0, .d3⟩), none, .box none (.t ⟨.d0, .d0, .d1⟩)⟩])
 (.seq (.ops [⟨(some ⟨.d0, .d0, .d6⟩), none, .load (some 6) (.t ⟨.d0, .d0, .d3⟩)⟩,
  ⟨(some ⟨.d0, .d0, .d7⟩), none, .callF ⟨.d0, .d3, .d0⟩ [(.t ⟨.d0, .d0, .d6⟩)]⟩,
  ⟨(some ⟨.d0, .d0, .d4⟩), none, .mv (.t ⟨.d0, .d0, .d7⟩)⟩])
 (.seq (.ops [⟨(some ⟨.d0, .d1, .d0⟩), none, .mv (.t ⟨.d0, .d0, .d4⟩)⟩,
  ⟨(some ⟨.d0, .d0, .d5⟩), none, .mv (.t ⟨.d0, .d1, .d0⟩)⟩])
 (.seq (.seq (.ops [⟨(some ⟨.d0, .d1, .d1⟩), none, .mv (.t ⟨.d0, .d0, .d4⟩)⟩,
  ⟨(some ⟨.d0, .d1, .d2⟩), none, .bin .eql (.t ⟨.d0, .d1, .d1⟩) (.c (.int .i64 (.ofNat 4)))⟩])
 (.cond (.t ⟨.d0, .d1, .d2⟩) (.ops [⟨(some ⟨.d0, .d1, .d3⟩), none, .mv (.t ⟨.d0, .d0, .d5⟩)⟩,
  ⟨(some ⟨.d0, .d1, .d4⟩), none, .bin .add (.t ⟨.d0, .d1, .d3⟩) (.c (.int .i64 (.ofNat 1)))⟩,
  ⟨(some ⟨.d0, .d0, .d5⟩), none, .mv (.t ⟨.d0, .d1, .d4⟩)⟩]) .skip))
 (.seq (.ops [⟨(some ⟨.d0, .d1, .d5⟩), none, .mv (.t ⟨.d0, .d0, .d0⟩)⟩,
  ⟨(some ⟨.d0, .d1, .d6⟩), none, .load (some 6) (.t ⟨.d0, .d0, .d3⟩)⟩,
  ⟨(some ⟨.d0, .d1, .d7⟩), none, .callF ⟨.d0, .d6, .d2⟩ [(.t ⟨.d0, .d1, .d6⟩), (.c (.int .i64 (.ofNat 0)))]⟩,
  ⟨(some ⟨.d0, .d2, .d0⟩), none, .mv (.t ⟨.d0, .d0, .d5⟩)⟩,
  ⟨(some ⟨.d0, .d2, .d1⟩), none, .callF ⟨.d0, .d1, .d6⟩ [(.t ⟨.d0, .d1, .d5⟩), (.t ⟨.d0, .d1, .d7⟩), (.t ⟨.d0, .d2, .d0⟩)]⟩])
 (.seq (.ops [⟨(some ⟨.d0, .d2, .d2⟩), none, .mv (.t ⟨.d0, .d0, .d0⟩)⟩,
  ⟨(some ⟨.d0, .d2, .d3⟩), none, .fieldA 1 (.t ⟨.d0, .d0, .d3⟩)⟩,
  ⟨(some ⟨.d0, .d2, .d4⟩), none, .load none (.t ⟨.d0, .d2, .d3⟩)⟩,
  ⟨(some ⟨.d0, .d2, .d5⟩), none, .callF ⟨.d1, .d3, .d3⟩ [(.t ⟨.d0, .d2, .d4⟩)]⟩,
  ⟨(some ⟨.d0, .d2, .d6⟩), none, .buildS none 1 1 [(.str [])] [(0, 1, (.t ⟨.d0, .d2, .d5⟩))]⟩,
  ⟨(some ⟨.d0, .d2, .d7⟩), none, .callF ⟨.d0, .d3, .d1⟩ [(.t ⟨.d0, .d2, .d2⟩), (.t ⟨.d0, .d2, .d6⟩)]⟩])
 (.ops [⟨(some ⟨.d0, .d3, .d0⟩), none, .mv (.t ⟨.d0, .d0, .d0⟩)⟩,
  ⟨(some ⟨.d0, .d3, .d1⟩), none, .load (some 6) (.t ⟨.d0, .d0, .d3⟩)⟩,
  ⟨(some ⟨.d0, .d3, .d2⟩), none, .callF ⟨.d0, .d6, .d2⟩ [(.t ⟨.d0, .d3, .d1⟩), (.c (.int .i64 (.ofNat 1)))]⟩,
  ⟨(some ⟨.d0, .d3, .d3⟩), none, .mv (.t ⟨.d0, .d0, .d4⟩)⟩,
  ⟨(some ⟨.d0, .d3, .d4⟩), none, .bin .add (.t ⟨.d0, .d3, .d3⟩) (.c (.int .i64 (.ofNat 1)))⟩,
  ⟨(some ⟨.d0, .d3, .d5⟩), none, .callF ⟨.d0, .d1, .d6⟩ [(.t ⟨.d0, .d3, .d0⟩), (.t ⟨.d0, .d3, .d2⟩), (.t ⟨.d0, .d3, .d4⟩)]⟩])))))))
 []
/-- (*umlaut/parse.printer).plain -/
def e54 : Ent := .code [⟨.d0, .d0, .d0⟩, ⟨.d0, .d0, .d1⟩]
 (.seq (.ops [⟨(some ⟨.d0, .d0, .d3⟩), none, .box none (.t ⟨.d0, .d0, .d1⟩)⟩])
 (.seq (.ops [⟨(some ⟨.d0, .d0, .d4⟩), none, .fieldA 0 (.t ⟨.d0, .d0, .d3⟩)⟩,
  ⟨(some ⟨.d0, .d0, .d5⟩), none, .load none (.t ⟨.d0, .d0, .d4⟩)⟩])
 (.block 0 (.seq (.ops [⟨(some ⟨.d0, .d1, .d2⟩), none, .bin .eql (.t ⟨.d0, .d0, .d5⟩) (.c (.int .i64 (.ofNat 1)))⟩,
  ⟨(some ⟨.d0, .d1, .d1⟩), none, .mv (.t ⟨.d0, .d1, .d2⟩)⟩])
 (.cond (.t ⟨.d0, .d1, .d1⟩) (.ops [⟨(some ⟨.d0, .d1, .d3⟩), none, .mv (.t ⟨.d0, .d0, .d0⟩)⟩,
  ⟨(some ⟨.d0, .d1, .d4⟩), none, .fieldA 4 (.t ⟨.d0, .d0, .d3⟩)⟩,
  ⟨(some ⟨.d0, .d1, .d5⟩), none, .load none (.t ⟨.d0, .d1, .d4⟩)⟩,
  ⟨(some ⟨.d0, .d1, .d6⟩), none, .bin .eql (.t ⟨.d0, .d1, .d5⟩) (.c (.int .i64 (.ofNat 1)))⟩,
  ⟨(some ⟨.d0, .d1, .d7⟩), none, .callF ⟨.d1, .d3, .d6⟩ [(.t ⟨.d0, .d1, .d6⟩)]⟩,
  ⟨(some ⟨.d0, .d2, .d0⟩), none, .callF ⟨.d1, .d3, .d5⟩ [(.t ⟨.d0, .d1, .d7⟩)]⟩,
  ⟨(some ⟨.d0, .d2, .d1⟩), none, .buildS none 1 1 [(.str [])] [(0, 1, (.t ⟨.d0, .d2, .d0⟩))]⟩,
  ⟨(some ⟨.d0, .d2, .d2⟩), none, .callF ⟨.d0, .d3, .d1⟩ [(.t ⟨.d0, .d1, .d3⟩), (.t ⟨.d0, .d2, .d1⟩)]⟩]) (.seq (.ops [⟨(some ⟨.d0, .d2, .d4⟩), none, .bin .eql (.t ⟨.d0, .d0, .d5⟩) (.c (.int .i64 (.ofNat 2)))⟩,
  ⟨(some ⟨.d0, .d2, .d3⟩), none, .mv (.t ⟨.d0, .d2, .d4⟩)⟩])
 (.cond (.t ⟨.d0, .d2, .d3⟩) (.ops [⟨(some ⟨.d0, .d2, .d5⟩), none, .mv (.t ⟨.d0, .d0, .d0⟩)⟩,
  ⟨(some ⟨.d0, .d2, .d6⟩), none, .fieldA 4 (.t ⟨.d0, .d0, .d3⟩)⟩,
  ⟨(some ⟨.d0, .d2, .d7⟩), none, .load none (.t ⟨.d0, .d2, .d6⟩)⟩,
  ⟨(some ⟨.d0, .d3, .d0⟩), none, .callF ⟨.d1, .d3, .d7⟩ [(.t ⟨.d0, .d2, .d7⟩)]⟩,
  ⟨(some ⟨.d0, .d3, .d1⟩), none, .buildS none 1 1 [(.str [])] [(0, 1, (.t ⟨.d0, .d3, .d0⟩))]⟩,
  ⟨(some ⟨.d0, .d3, .d2⟩), none, .callF ⟨.d0, .d3, .d1⟩ [(.t ⟨.d0, .d2, .d5⟩), (.t ⟨.d0, .d3, .d1⟩)]⟩]) (.seq (.ops [⟨(some ⟨.d0, .d3, .d4⟩), none, .bin .eql (.t ⟨.d0, .d0, .d5⟩) (.c (.int .i64 (.ofNat 3)))⟩,
  ⟨(some ⟨.d0, .d3, .d3⟩), none, .mv (.t ⟨.d0, .d3, .d4⟩)⟩])
 (.cond (.t ⟨.d0, .d3, .d3⟩) (.ops [⟨(some ⟨.d0, .d3, .d5⟩), none, .mv (.t ⟨.d0, .d0, .d0⟩)⟩,
  ⟨(some ⟨.d0, .d3, .d6⟩), none, .fieldA 2 (.t ⟨.d0, .d0, .d3⟩)⟩,
  ⟨(some ⟨.d0, .d3, .d7⟩), none, .load none (.t ⟨.d0, .d3, .d6⟩)⟩,
  ⟨(some ⟨.d0, .d4, .d0⟩), none, .callF ⟨.d1, .d4, .d0⟩ [(.t ⟨.d0, .d3, .d7⟩)]⟩,
  ⟨(some ⟨.d0, .d4, .d1⟩), none, .callF ⟨.d1, .d3, .d5⟩ [(.t ⟨.d0, .d4, .d0⟩)]⟩,
  ⟨(some ⟨.d0, .d4, .d2⟩), none, .buildS none 1 1 [(.str [])] [(0, 1, (.t ⟨.d0, .d4, .d1⟩))]⟩,
  ⟨(some ⟨.d0, .d4, .d3⟩), none, .callF ⟨.d0, .d3, .d1⟩ [(.t ⟨.d0, .d3, .d5⟩), (.t ⟨.d0, .d4, .d2⟩)]⟩]) (.seq (.ops [⟨(some ⟨.d0, .d4, .d5⟩), none, .bin .eql (.t ⟨.d0, .d0, .d5⟩) (.c (.int .i64 (.ofNat 4)))⟩,
  ⟨(some ⟨.d0, .d4, .d4⟩), none, .mv (.t ⟨.d0, .d4, .d5⟩)⟩])
 (.cond (.t ⟨.d0, .d4, .d4⟩) (.seq (.seq (.ops [⟨(some ⟨.d0, .d4, .d6⟩), none, .fieldA 3 (.t ⟨.d0, .d0, .d3⟩)⟩,
  ⟨(some ⟨.d0, .d4, .d7⟩), none, .load none (.t ⟨.d0, .d4, .d6⟩)⟩,
  ⟨(some ⟨.d0, .d5, .d0⟩), none, .bin .neq (.t ⟨.d0, .d4, .d7⟩) (.c (.str []))⟩])
 (.cond (.t ⟨.d0, .d5, .d0⟩) (.ops [⟨(some ⟨.d0, .d5, .d1⟩), none, .mv (.t ⟨.d0, .d0, .d0⟩)⟩,
  ⟨(some ⟨.d0, .d5, .d2⟩), none, .fieldA 3 (.t ⟨.d0, .d0, .d3⟩)⟩,
  ⟨(some ⟨.d0, .d5, .d3⟩), none, .load none (.t ⟨.d0, .d5, .d2⟩)⟩,
  ⟨(some ⟨.d0, .d5, .d4⟩), none, .buildS none 1 2 [(.str []), (.str [])] [(0, 1, (.t ⟨.d0, .d5, .d3⟩)), (1, 1, (.c (.str [46])))]⟩,
  ⟨(some ⟨.d0, .d5, .d5⟩), none, .callF ⟨.d0, .d3, .d1⟩ [(.t ⟨.d0, .d5, .d1⟩), (.t ⟨.d0, .d5, .d4⟩)]⟩]) .skip))
 (.ops [⟨(some ⟨.d0, .d5, .d6⟩), none, .mv (.t ⟨.d0, .d0, .d0⟩)⟩,
  ⟨(some ⟨.d0, .d5, .d7⟩), none, .fieldA 2 (.t ⟨.d0, .d0, .d3⟩)⟩,
  ⟨(some ⟨.d0, .d6, .d0⟩), none, .load none (.t ⟨.d0, .d5, .d7⟩)⟩,
  ⟨(some ⟨.d0, .d6, .d1⟩), none, .buildS none 1 1 [(.str [])] [(0, 1, (.t ⟨.d0, .d6, .d0⟩))]⟩,
  ⟨(some ⟨.d0, .d6, .d2⟩), none, .callF ⟨.d0, .d3, .d1⟩ [(.t ⟨.d0, .d5, .d6⟩), (.t ⟨.d0, .d6, .d1⟩)]⟩])) (.seq (.ops [⟨(some ⟨.d0, .d6, .d4⟩), none, .bin .eql (.t ⟨.d0, .d0, .d5⟩) (.c (.int .i64 (.ofNat 12)))⟩,
  ⟨(some ⟨.d0, .d6, .d3⟩), none, .mv (.t ⟨.d0, .d6, .d4⟩)⟩])
 (.cond (.t ⟨.d0, .d6, .d3⟩) (.seq (.ops [⟨(some ⟨.d0, .d6, .d5⟩), none, .mv (.t ⟨.d0, .d0, .d0⟩)⟩,
  ⟨(some ⟨.d0, .d6, .d6⟩), none, .buildS none 1 2 [(.str []), (.str [])] [(0, 1, (.c (.str [67, 65, 83, 84]))), (1, 1, (.c (.str [40])))]⟩,
  ⟨(some ⟨.d0, .d6, .d7⟩), none, .callF ⟨.d0, .d3, .d1⟩ [(.t ⟨.d0, .d6, .d5⟩), (.t ⟨.d0, .d6, .d6⟩)]⟩])
 (.seq (.ops [⟨(some ⟨.d0, .d7, .d0⟩), none, .mv (.t ⟨.d0, .d0, .d0⟩)⟩,
  ⟨(some ⟨.d0, .d7, .d1⟩), none, .load (some 6) (.t ⟨.d0, .d0, .d3⟩)⟩,
  ⟨(some ⟨.d0, .d7, .d2⟩), none, .callF ⟨.d0, .d6, .d2⟩ [(.t ⟨.d0, .d7, .d1⟩), (.c (.int .i64 (.ofNat 0)))]⟩,
  ⟨(some ⟨.d0, .d7, .d3⟩), none, .callF ⟨.d0, .d1, .d6⟩ [(.t ⟨.d0, .d7, .d0⟩), (.t ⟨.d0, .d7, .d2⟩), (.c (.int .i64 (.ofNat 1)))]⟩])
 (.ops [⟨(some ⟨.d0, .d7, .d4⟩), none, .mv (.t ⟨.d0, .d0, .d0⟩)⟩,
  ⟨(some ⟨.d0, .d7, .d5⟩), none, .fieldA 4 (.t ⟨.d0, .d0, .d3⟩)⟩,
  ⟨(some ⟨.d0, .d7, .d6⟩), none, .load none (.t ⟨.d0, .d7, .d5⟩)⟩,
  ⟨(some ⟨.d0, .d7, .d7⟩), none, .callF ⟨.d1, .d4, .d1⟩ [(.t ⟨.d0, .d7, .d6⟩)]⟩,
  ⟨(some ⟨.d1, .d0, .d0⟩), none, .buildS none 1 3 [(.str []), (.str []), (.str [])] [(0, 1, (.c (.str [65, 83]))), (1, 1, (.t ⟨.d0, .d7, .d7⟩)), (2, 1, (.c (.str [41])))]⟩,
  ⟨(some ⟨.d1, .d0, .d1⟩), none, .callF ⟨.d0, .d3, .d1⟩ [(.t ⟨.d0, .d7, .d4⟩), (.t ⟨.d1, .d0, .d0⟩)]⟩]))) (.seq (.seq (.ops [⟨(some ⟨.d1, .d0, .d3⟩), none, .bin .eql (.t ⟨.d0, .d0, .d5⟩) (.c (.int .i64 (.ofNat 13)))⟩,
  ⟨(some ⟨.d1, .d0, .d2⟩), none, .mv (.t ⟨.d1, .d0, .d3⟩)⟩])
 (.cond (.t ⟨.d1, .d0, .d2⟩) .skip (.ops [⟨(some ⟨.d1, .d0, .d4⟩), none, .bin .eql (.t ⟨.d0, .d0, .d5⟩) (.c (.int .i64 (.ofNat 14)))⟩,
  ⟨(some ⟨.d1, .d0, .d2⟩), none, .mv (.t ⟨.d1, .d0, .d4⟩)⟩])))
 (.cond (.t ⟨.d1, .d0, .d2⟩) (.seq (.ops [⟨(some ⟨.d1, .d0, .d5⟩), none, .mv (.t ⟨.d0, .d0, .d0⟩)⟩,
  ⟨(some ⟨.d1, .d0, .d6⟩), none, .fieldA 2 (.t ⟨.d0, .d0, .d3⟩)⟩,
  ⟨(some ⟨.d1, .d0, .d7⟩), none, .load none (.t ⟨.d1, .d0, .d6⟩)⟩,
  ⟨(some ⟨.d1, .d1, .d0⟩), none, .buildS none 1 2 [(.str []), (.str [])] [(0, 1, (.t ⟨.d1, .d0, .d7⟩)), (1, 1, (.c (.str [40])))]⟩,
  ⟨(some ⟨.d1, .d1, .d1⟩), none, .callF ⟨.d0, .d3, .d1⟩ [(.t ⟨.d1, .d0, .d5⟩), (.t ⟨.d1, .d1, .d0⟩)]⟩])
 (.seq (.seq (.ops [⟨(some ⟨.d1, .d1, .d2⟩), none, .fieldA 5 (.t ⟨.d0, .d0, .d3⟩)⟩,
  ⟨(some ⟨.d1, .d1, .d3⟩), none, .load none (.t ⟨.d1, .d1, .d2⟩)⟩,
  ⟨(some ⟨.d1, .d1, .d4⟩), none, .len .sli (.t ⟨.d1, .d1, .d3⟩)⟩,
  ⟨(some ⟨.d1, .d1, .d5⟩), none, .bin .eql (.t ⟨.d1, .d1, .d4⟩) (.c (.int .i64 (.ofNat 0)))⟩])
 (.cond (.t ⟨.d1, .d1, .d5⟩) (.ops [⟨(some ⟨.d1, .d1, .d6⟩), none, .mv (.t ⟨.d0, .d0, .d0⟩)⟩,
  ⟨(some ⟨.d1, .d1, .d7⟩), none, .buildS none 1 1 [(.str [])] [(0, 1, (.c (.str [42])))]⟩,
  ⟨(some ⟨.d1, .d2, .d0⟩), none, .callF ⟨.d0, .d3, .d1⟩ [(.t ⟨.d1, .d1, .d6⟩), (.t ⟨.d1, .d1, .d7⟩)]⟩]) .skip))
 (.seq (.ops [⟨(some ⟨.d1, .d2, .d1⟩), none, .mv (.t ⟨.d0, .d0, .d0⟩)⟩,
  ⟨(some ⟨.d1, .d2, .d2⟩), none, .fieldA 5 (.t ⟨.d0, .d0, .d3⟩)⟩,
  ⟨(some ⟨.d1, .d2, .d3⟩), none, .load none (.t ⟨.d1, .d2, .d2⟩)⟩,
  ⟨(some ⟨.d1, .d2, .d4⟩), none, .callF ⟨.d1, .d3, .d4⟩ [(.t ⟨.d1, .d2, .d1⟩), (.t ⟨.d1, .d2, .d3⟩)]⟩])
 (.ops [⟨(some ⟨.d1, .d2, .d5⟩), none, .mv (.t ⟨.d0, .d0, .d0⟩)⟩,
  ⟨(some ⟨.d1, .d2, .d6⟩), none, .buildS none 1 1 [(.str [])] [(0, 1, (.c (.str [41])))]⟩,
  ⟨(some ⟨.d1, .d2, .d7⟩), none, .callF ⟨.d0, .d3, .d1⟩ [(.t ⟨.d1, .d2, .d5⟩), (.t ⟨.d1, .d2, .d6⟩)]⟩])))) (.ops [⟨(some ⟨.d0, .d0, .d6⟩), none, .mv (.t ⟨.d0, .d0, .d0⟩)⟩,
  ⟨(some ⟨.d0, .d0, .d7⟩), none, .buildS none 1 1 [(.str [])] [(0, 1, (.c (.str [78, 85, 76, 76])))]⟩,
  ⟨(some ⟨.d0, .d1, .d0⟩), none, .callF ⟨.d0, .d3, .d1⟩ [(.t ⟨.d0, .d0, .d6⟩), (.t ⟨.d0, .d0, .d7⟩)]⟩]))))))))))))))))
 []
/-- strings.HasPrefix -/
def e58 : Ent := .code [⟨.d0, .d0, .d0⟩, ⟨.d0, .d0, .d1⟩]
 (.seq (.ops [⟨(some ⟨.d0, .d0, .d4⟩), none, .mv (.c (.bool false))⟩])
 (.seq (.ops [⟨(some ⟨.d0, .d0, .d5⟩), none, .mv (.t ⟨.d0, .d0, .d0⟩)⟩,
  ⟨(some ⟨.d0, .d0, .d6⟩), none, .mv (.t ⟨.d0, .d0, .d1⟩)⟩,
  ⟨(some ⟨.d0, .d0, .d7⟩), none, .callF ⟨.d1, .d4, .d5⟩ [(.t ⟨.d0, .d0, .d5⟩), (.t ⟨.d0, .d0, .d6⟩)]⟩,
  ⟨(some ⟨.d0, .d0, .d4⟩), none, .mv (.t ⟨.d0, .d0, .d7⟩)⟩])
 .ret))
 [.tmp ⟨.d0, .d0, .d4⟩]
/-- umlaut/lex.span -/
def e59 : Ent := .code [⟨.d0, .d0, .d0⟩, ⟨.d0, .d0, .d1⟩]
 (.seq (.ops [⟨(some ⟨.d0, .d0, .d4⟩), none, .mv (.c (.int .i64 (.ofNat 0)))⟩])
 (.seq (.ops [⟨(some ⟨.d0, .d0, .d5⟩), none, .mv (.c (.int .i64 (.ofNat 0)))⟩])
 (.seq (.block 0 (.loop (.seq (.seq (.ops [⟨(some ⟨.d0, .d0, .d6⟩), none, .mv (.t ⟨.d0, .d0, .d5⟩)⟩,
  ⟨(some ⟨.d0, .d0, .d7⟩), none, .mv (.t ⟨.d0, .d0, .d0⟩)⟩,
  ⟨(some ⟨.d0, .d1, .d0⟩), none, .len .str (.t ⟨.d0, .d0, .d7⟩)⟩,
  ⟨(some ⟨.d0, .d1, .d1⟩), none, .bin .lss (.t ⟨.d0, .d0, .d6⟩) (.t ⟨.d0, .d1, .d0⟩)⟩,
  ⟨(some ⟨.d0, .d1, .d2⟩), none, .mv (.t ⟨.d0, .d1, .d1⟩)⟩,
  ⟨(some ⟨.d0, .d1, .d3⟩), (some (⟨.d0, .d1, .d2⟩, true)), .mv (.t ⟨.d0, .d0, .d1⟩)⟩,
  ⟨(some ⟨.d0, .d1, .d4⟩), (some (⟨.d0, .d1, .d2⟩, true)), .mv (.t ⟨.d0, .d0, .d0⟩)⟩,
  ⟨(some ⟨.d0, .d1, .d5⟩), (some (⟨.d0, .d1, .d2⟩, true)), .mv (.t ⟨.d0, .d0, .d5⟩)⟩,
  ⟨(some ⟨.d0, .d1, .d6⟩), (some (⟨.d0, .d1, .d2⟩, true)), .idxS (.t ⟨.d0, .d1, .d4⟩) (.t ⟨.d0, .d1, .d5⟩)⟩,
  ⟨(some ⟨.d0, .d1, .d7⟩), (some (⟨.d0, .d1, .d2⟩, true)), .callV (.t ⟨.d0, .d1, .d3⟩) [(.t ⟨.d0, .d1, .d6⟩)]⟩,
  ⟨(some ⟨.d0, .d2, .d0⟩), none, .pick (.t ⟨.d0, .d1, .d2⟩) (.t ⟨.d0, .d1, .d7⟩) (.c (.bool false))⟩])
 (.cond (.t ⟨.d0, .d2, .d0⟩) .skip (.exit 0)))
 (.block 1 (.ops [⟨(some ⟨.d0, .d2, .d1⟩), none, .mv (.t ⟨.d0, .d0, .d5⟩)⟩,
  ⟨(some ⟨.d0, .d2, .d2⟩), none, .bin .add (.t ⟨.d0, .d2, .d1⟩) (.c (.int .i64 (.ofNat 1)))⟩,
  ⟨(some ⟨.d0, .d0, .d5⟩), none, .mv (.t ⟨.d0, .d2, .d2⟩)⟩])))))
 (.seq (.ops [⟨(some ⟨.d0, .d2, .d3⟩), none, .mv (.t ⟨.d0, .d0, .d5⟩)⟩,
  ⟨(some ⟨.d0, .d0, .d4⟩), none, .mv (.t ⟨.d0, .d2, .d3⟩)⟩])
 .ret))))
 [.tmp ⟨.d0, .d0, .d4⟩]
/-- umlaut/lex.skip$1 -/
def e60 : Ent := .code [⟨.d0, .d0, .d0⟩]
 (.seq (.ops [⟨(some ⟨.d0, .d0, .d2⟩), none, .mv (.c (.bool false))⟩])
 (.seq (.ops [⟨(some ⟨.d0, .d0, .d3⟩), none, .mv (.t ⟨.d0, .d0, .d0⟩)⟩,
  ⟨(some ⟨.d0, .d0, .d4⟩), none, .bin .neq (.t ⟨.d0, .d0, .d3⟩) (.c (.int .u8 (.ofNat 10)))⟩,
  ⟨(some ⟨.d0, .d0, .d2⟩), none, .mv (.t ⟨.d0, .d0, .d4⟩)⟩])
 .ret))
 [.tmp ⟨.d0, .d0, .d2⟩]
/-- umlaut/lex.letter -/
def e61 : Ent := .code [⟨.d0, .d0, .d0⟩]
 (.seq (.ops [⟨(some ⟨.d0, .d0, .d2⟩), none, .mv (.c (.bool false))⟩])
 (.seq (.ops [⟨(some ⟨.d0, .d0, .d3⟩), none, .mv (.t ⟨.d0, .d0, .d0⟩)⟩,
  ⟨(some ⟨.d0, .d0, .d4⟩), none, .bin .geq (.t ⟨.d0, .d0, .d3⟩) (.c (.int .u8 (.ofNat 64)))⟩,
  ⟨(some ⟨.d0, .d0, .d5⟩), none, .mv (.t ⟨.d0, .d0, .d4⟩)⟩,
  ⟨(some ⟨.d0, .d0, .d6⟩), (some (⟨.d0, .d0, .d5⟩, true)), .mv (.t ⟨.d0, .d0, .d0⟩)⟩,
  ⟨(some ⟨.d0, .d0, .d7⟩), (some (⟨.d0, .d0, .d5⟩, true)), .bin .lss (.t ⟨.d0, .d0, .d6⟩) (.c (.int .u8 (.ofNat 128)))⟩,
  ⟨(some ⟨.d0, .d1, .d0⟩), none, .pick (.t ⟨.d0, .d0, .d5⟩) (.t ⟨.d0, .d0, .d7⟩) (.c (.bool false))⟩,
  ⟨(some ⟨.d0, .d1, .d1⟩), none, .mv (.t ⟨.d0, .d1, .d0⟩)⟩,
  ⟨(some ⟨.d0, .d1, .d2⟩), (some (⟨.d0, .d1, .d1⟩, true)), .mv (.t ⟨.d0, .d0, .d0⟩)⟩,
  ⟨(some ⟨.d0, .d1, .d3⟩), (some (⟨.d0, .d1, .d1⟩, true)), .bin .and (.t ⟨.d0, .d1, .d2⟩) (.c (.int .u8 (.ofNat 31)))⟩,
  ⟨(some ⟨.d0, .d1, .d4⟩), (some (⟨.d0, .d1, .d1⟩, true)), .bin .shr (.c (.int .i64 (.ofNat 134217726))) (.t ⟨.d0, .d1, .d3⟩)⟩,
  ⟨(some ⟨.d0, .d1, .d5⟩), (some (⟨.d0, .d1, .d1⟩, true)), .bin .and (.t ⟨.d0, .d1, .d4⟩) (.c (.int .i64 (.ofNat 1)))⟩,
  ⟨(some ⟨.d0, .d1, .d6⟩), (some (⟨.d0, .d1, .d1⟩, true)), .bin .eql (.t ⟨.d0, .d1, .d5⟩) (.c (.int .i64 (.ofNat 1)))⟩,
  ⟨(some ⟨.d0, .d1, .d7⟩), (some (⟨.d0, .d1, .d1⟩, true)), .mv (.t ⟨.d0, .d1, .d6⟩)⟩,
  ⟨(some ⟨.d0, .d2, .d0⟩), (some (⟨.d0, .d1, .d7⟩, false)), .mv (.t ⟨.d0, .d0, .d0⟩)⟩,
  ⟨(some ⟨.d0, .d2, .d1⟩), (some (⟨.d0, .d1, .d7⟩, false)), .bin .eql (.t ⟨.d0, .d2, .d0⟩) (.c (.int .u8 (.ofNat 95)))⟩,
  ⟨(some ⟨.d0, .d2, .d2⟩), (some (⟨.d0, .d1, .d1⟩, true)), .pick (.t ⟨.d0, .d1, .d7⟩) (.c (.bool true)) (.t ⟨.d0, .d2, .d1⟩)⟩,
  ⟨(some ⟨.d0, .d2, .d3⟩), none, .pick (.t ⟨.d0, .d1, .d1⟩) (.t ⟨.d0, .d2, .d2⟩) (.c (.bool false))⟩,
  ⟨(some ⟨.d0, .d0, .d2⟩), none, .mv (.t ⟨.d0, .d2, .d3⟩)⟩])
 .ret))
 [.tmp ⟨.d0, .d0, .d2⟩]
/-- umlaut/lex.name -/
def e62 : Ent := .code [⟨.d0, .d0, .d0⟩]
 (.seq (.ops [⟨(some ⟨.d0, .d0, .d2⟩), none, .box none (.c (.agg [(.int .i64 (.ofNat 0)), (.str []), (.int .i64 (.ofNat 0)), (.int .i64 (.ofNat 0))]))⟩,
  ⟨(some ⟨.d0, .d0, .d3⟩), none, .mv (.c (.int .i64 (.ofNat 0)))⟩])
 (.seq (.ops [⟨(some ⟨.d0, .d0, .d6⟩), none, .mv (.t ⟨.d0, .d0, .d0⟩)⟩,
  ⟨(some ⟨.d0, .d0, .d7⟩), none, .callF ⟨.d0, .d7, .d3⟩ [(.t ⟨.d0, .d0, .d6⟩), (.c (.func 102 [] []))]⟩,
  ⟨(some ⟨.d0, .d0, .d4⟩), none, .mv (.t ⟨.d0, .d0, .d7⟩)⟩])
 (.seq (.seq (.ops [⟨(some ⟨.d0, .d1, .d0⟩), none, .mv (.t ⟨.d0, .d0, .d4⟩)⟩,
  ⟨(some ⟨.d0, .d1, .d1⟩), none, .bin .gtr (.t ⟨.d0, .d1, .d0⟩) (.c (.int .i64 (.ofNat 16)))⟩])
 (.cond (.t ⟨.d0, .d1, .d1⟩) (.seq (.ops [⟨(some ⟨.d0, .d1, .d2⟩), none, .build [(.int .i64 (.ofNat 0)), (.str []), (.int .i64 (.ofNat 0)), (.int .i64 (.ofNat 0))] []⟩,
  ⟨none, none, .store 4 (.t ⟨.d0, .d0, .d2⟩) (.t ⟨.d0, .d1, .d2⟩)⟩,
  ⟨(some ⟨.d0, .d0, .d3⟩), none, .mv (.c (.int .i64 (.ofNat 0)))⟩])
 .ret) .skip))
 (.seq (.seq (.ops [⟨(some ⟨.d0, .d1, .d3⟩), none, .mv (.t ⟨.d0, .d0, .d0⟩)⟩,
  ⟨(some ⟨.d0, .d1, .d4⟩), none, .mv (.t ⟨.d0, .d0, .d4⟩)⟩,
  ⟨(some ⟨.d0, .d1, .d5⟩), none, .sliS (.t ⟨.d0, .d1, .d3⟩) none (some (.t ⟨.d0, .d1, .d4⟩))⟩,
  ⟨(some ⟨.d0, .d1, .d6⟩), none, .callF ⟨.d1, .d4, .d7⟩ [(.t ⟨.d0, .d1, .d5⟩)]⟩,
  ⟨(some ⟨.d0, .d0, .d5⟩), none, .mv (.t ⟨.d0, .d1, .d6⟩)⟩])
 (.seq (.ops [⟨(some ⟨.d0, .d1, .d7⟩), none, .mv (.t ⟨.d0, .d0, .d5⟩)⟩,
  ⟨(some ⟨.d0, .d2, .d0⟩), none, .bin .add (.c (.str [32])) (.t ⟨.d0, .d1, .d7⟩)⟩,
  ⟨(some ⟨.d0, .d2, .d1⟩), none, .bin .add (.t ⟨.d0, .d2, .d0⟩) (.c (.str [32]))⟩,
  ⟨(some ⟨.d0, .d2, .d2⟩), none, .callF ⟨.d1, .d5, .d0⟩ [(.c (.str [32, 65, 76, 76, 32, 65, 78, 68, 32, 65, 83, 32, 65, 83, 67, 32, 66, 65, 67, 75, 32, 66, 69, 84, 87, 69, 69, 78, 32, 66, 79, 79, 76, 32, 66, 89, 32, 67, 65, 83, 84, 32, 67, 79, 76, 76, 65, 84, 69, 32, 67, 79, 76, 76, 65, 84, 73, 79, 78, 32, 67, 82, 69, 65, 84, 69, 32, 68, 69, 76, 69, 84, 69, 32, 68, 69, 83, 67, 32, 68, 73, 83, 84, 73, 78, 67, 84, 32, 68, 82, 79, 80, 32, 69, 83, 67, 65, 80, 69, 32, 70, 65, 76, 83, 69, 32, 70, 82, 79, 77, 32, 71, 82, 79, 85, 80, 32, 72, 65, 86, 73, 78, 71, 32, 73, 78, 32, 73, 78, 68, 69, 88, 32, 73, 78, 83, 69, 82, 84, 32, 73, 78, 84, 32, 73, 78, 84, 79, 32, 73, 83, 32, 74, 79, 73, 78, 32, 76, 69, 86, 69, 76, 32, 76, 73, 75, 69, 32, 76, 73, 77, 73, 84, 32, 78, 79, 84, 32, 78, 85, 76, 76, 32, 79, 70, 70, 83, 69, 84, 32, 79, 78, 32, 79, 82, 32, 79, 82, 68, 69, 82, 32, 83, 69, 76, 69, 67, 84, 32, 83, 69, 84, 32, 83, 72, 73, 70, 84, 32, 84, 65, 66, 76, 69, 32, 84, 69, 88, 84, 32, 84, 82, 85, 69, 32, 85, 78, 73, 81, 85, 69, 32, 85, 80, 68, 65, 84, 69, 32, 86, 65, 76, 85, 69, 83, 32, 87, 72, 69, 82, 69, 32, 88, 79, 82, 32])), (.t ⟨.d0, .d2, .d1⟩)]⟩])
 (.cond (.t ⟨.d0, .d2, .d2⟩) (.seq (.ops [⟨(some ⟨.d0, .d2, .d3⟩), none, .mv (.t ⟨.d0, .d0, .d5⟩)⟩,
  ⟨(some ⟨.d0, .d2, .d4⟩), none, .build [(.int .i64 (.ofNat 0)), (.str []), (.int .i64 (.ofNat 0)), (.int .i64 (.ofNat 0))] [(0, 1, (.c (.int .i64 (.ofNat 2)))), (1, 1, (.t ⟨.d0, .d2, .d3⟩))]⟩,
  ⟨(some ⟨.d0, .d2, .d5⟩), none, .mv (.t ⟨.d0, .d0, .d4⟩)⟩,
  ⟨none, none, .store 4 (.t ⟨.d0, .d0, .d2⟩) (.t ⟨.d0, .d2, .d4⟩)⟩,
  ⟨(some ⟨.d0, .d0, .d3⟩), none, .mv (.t ⟨.d0, .d2, .d5⟩)⟩])
 .ret) .skip)))
 (.seq (.ops [⟨(some ⟨.d0, .d2, .d6⟩), none, .mv (.t ⟨.d0, .d0, .d0⟩)⟩,
  ⟨(some ⟨.d0, .d2, .d7⟩), none, .mv (.t ⟨.d0, .d0, .d4⟩)⟩,
  ⟨(some ⟨.d0, .d3, .d0⟩), none, .sliS (.t ⟨.d0, .d2, .d6⟩) none (some (.t ⟨.d0, .d2, .d7⟩))⟩,
  ⟨(some ⟨.d0, .d3, .d1⟩), none, .callF ⟨.d1, .d5, .d1⟩ [(.t ⟨.d0, .d3, .d0⟩)]⟩,
  ⟨(some ⟨.d0, .d3, .d2⟩), none, .build [(.int .i64 (.ofNat 0)), (.str []), (.int .i64 (.ofNat 0)), (.int .i64 (.ofNat 0))] [(0, 1, (.c (.int .i64 (.ofNat 1)))), (1, 1, (.t ⟨.d0, .d3, .d1⟩))]⟩,
  ⟨(some ⟨.d0, .d3, .d3⟩), none, .mv (.t ⟨.d0, .d0, .d4⟩)⟩,
  ⟨none, none, .store 4 (.t ⟨.d0, .d0, .d2⟩) (.t ⟨.d0, .d3, .d2⟩)⟩,
  ⟨(some ⟨.d0, .d0, .d3⟩), none, .mv (.t ⟨.d0, .d3, .d3⟩)⟩])
 .ret)))))
 [.cell (some 4) ⟨.d0, .d0, .d2⟩, .tmp ⟨.d0, .d0, .d3⟩]
/-- umlaut/lex.digit -/
def e63 : Ent := .code [⟨.d0, .d0, .d0⟩]
 (.seq (.ops [⟨(some ⟨.d0, .d0, .d2⟩), none, .mv (.c (.bool false))⟩])
 (.seq (.ops [⟨(some ⟨.d0, .d0, .d3⟩), none, .mv (.t ⟨.d0, .d0, .d0⟩)⟩,
  ⟨(some ⟨.d0, .d0, .d4⟩), none, .bin .geq (.t ⟨.d0, .d0, .d3⟩) (.c (.int .u8 (.ofNat 48)))⟩,
  ⟨(some ⟨.d0, .d0, .d5⟩), none, .mv (.t ⟨.d0, .d0, .d4⟩)⟩,
  ⟨(some ⟨.d0, .d0, .d6⟩), (some (⟨.d0, .d0, .d5⟩, true)), .mv (.t ⟨.d0, .d0, .d0⟩)⟩,
  ⟨(some ⟨.d0, .d0, .d7⟩), (some (⟨.d0, .d0, .d5⟩, true)), .bin .leq (.t ⟨.d0, .d0, .d6⟩) (.c (.int .u8 (.ofNat 57)))⟩,
  ⟨(some ⟨.d0, .d1, .d0⟩), none, .pick (.t ⟨.d0, .d0, .d5⟩) (.t ⟨.d0, .d0, .d7⟩) (.c (.bool false))⟩,
  ⟨(some ⟨.d0, .d0, .d2⟩), none, .mv (.t ⟨.d0, .d1, .d0⟩)⟩])
 .ret))
 [.tmp ⟨.d0, .d0, .d2⟩]
/-- umlaut/lex.number -/
def e64 : Ent := .code [⟨.d0, .d0, .d0⟩]
 (.seq (.ops [⟨(some ⟨.d0, .d0, .d2⟩), none, .box none (.c (.agg [(.int .i64 (.ofNat 0)), (.str []), (.int .i64 (.ofNat 0)), (.int .i64 (.ofNat 0))]))⟩,
  ⟨(some ⟨.d0, .d0, .d3⟩), none, .mv (.c (.int .i64 (.ofNat 0)))⟩])
 (.seq (.ops [⟨(some ⟨.d0, .d0, .d7⟩), none, .mv (.t ⟨.d0, .d0, .d0⟩)⟩,
  ⟨(some ⟨.d0, .d1, .d0⟩), none, .callF ⟨.d0, .d7, .d3⟩ [(.t ⟨.d0, .d0, .d7⟩), (.c (.func 63 [] []))]⟩,
  ⟨(some ⟨.d0, .d0, .d4⟩), none, .mv (.t ⟨.d0, .d1, .d0⟩)⟩])
 (.seq (.ops [⟨(some ⟨.d0, .d1, .d2⟩), none, .mv (.t ⟨.d0, .d0, .d0⟩)⟩,
  ⟨(some ⟨.d0, .d1, .d3⟩), none, .mv (.t ⟨.d0, .d0, .d4⟩)⟩,
  ⟨(some ⟨.d0, .d1, .d4⟩), none, .sliS (.t ⟨.d0, .d1, .d2⟩) none (some (.t ⟨.d0, .d1, .d3⟩))⟩,
  ⟨(some ⟨.d0, .d1, .d5⟩), none, .callF ⟨.d1, .d5, .d2⟩ [(.t ⟨.d0, .d1, .d4⟩), (.c (.int .i64 (.ofNat 10))), (.c (.int .i64 (.ofNat 64)))]⟩,
  ⟨(some ⟨.d0, .d1, .d1⟩), none, .mv (.t ⟨.d0, .d1, .d5⟩)⟩,
  ⟨(some ⟨.d0, .d1, .d6⟩), none, .ext (.t ⟨.d0, .d1, .d1⟩) 0⟩,
  ⟨(some ⟨.d0, .d1, .d7⟩), none, .ext (.t ⟨.d0, .d1, .d1⟩) 1⟩,
  ⟨(some ⟨.d0, .d0, .d5⟩), none, .mv (.t ⟨.d0, .d1, .d6⟩)⟩,
  ⟨(some ⟨.d0, .d0, .d6⟩), none, .mv (.t ⟨.d0, .d1, .d7⟩)⟩])
 (.seq (.seq (.ops [⟨(some ⟨.d0, .d2, .d0⟩), none, .mv (.t ⟨.d0, .d0, .d6⟩)⟩,
  ⟨(some ⟨.d0, .d2, .d1⟩), none, .eq true .iface (.t ⟨.d0, .d2, .d0⟩) (.c .nili)⟩,
  ⟨(some ⟨.d0, .d2, .d2⟩), none, .mv (.t ⟨.d0, .d2, .d1⟩)⟩,
  ⟨(some ⟨.d0, .d2, .d3⟩), (some (⟨.d0, .d2, .d2⟩, false)), .mv (.t ⟨.d0, .d0, .d4⟩)⟩,
  ⟨(some ⟨.d0, .d2, .d4⟩), (some (⟨.d0, .d2, .d2⟩, false)), .mv (.t ⟨.d0, .d0, .d0⟩)⟩,
  ⟨(some ⟨.d0, .d2, .d5⟩), (some (⟨.d0, .d2, .d2⟩, false)), .len .str (.t ⟨.d0, .d2, .d4⟩)⟩,
  ⟨(some ⟨.d0, .d2, .d6⟩), (some (⟨.d0, .d2, .d2⟩, false)), .bin .lss (.t ⟨.d0, .d2, .d3⟩) (.t ⟨.d0, .d2, .d5⟩)⟩,
  ⟨(some ⟨.d0, .d2, .d7⟩), (some (⟨.d0, .d2, .d2⟩, false)), .mv (.t ⟨.d0, .d2, .d6⟩)⟩,
  ⟨(some ⟨.d0, .d3, .d0⟩), (some (⟨.d0, .d2, .d7⟩, true)), .mv (.t ⟨.d0, .d0, .d0⟩)⟩,
  ⟨(some ⟨.d0, .d3, .d1⟩), (some (⟨.d0, .d2, .d7⟩, true)), .mv (.t ⟨.d0, .d0, .d4⟩)⟩,
  ⟨(some ⟨.d0, .d3, .d2⟩), (some (⟨.d0, .d2, .d7⟩, true)), .idxS (.t ⟨.d0, .d3, .d0⟩) (.t ⟨.d0, .d3, .d1⟩)⟩,
  ⟨(some ⟨.d0, .d3, .d3⟩), (some (⟨.d0, .d2, .d7⟩, true)), .callF ⟨.d0, .d7, .d5⟩ [(.t ⟨.d0, .d3, .d2⟩)]⟩,
  ⟨(some ⟨.d0, .d3, .d4⟩), (some (⟨.d0, .d2, .d2⟩, false)), .pick (.t ⟨.d0, .d2, .d7⟩) (.t ⟨.d0, .d3, .d3⟩) (.c (.bool false))⟩,
  ⟨(some ⟨.d0, .d3, .d5⟩), none, .pick (.t ⟨.d0, .d2, .d2⟩) (.c (.bool true)) (.t ⟨.d0, .d3, .d4⟩)⟩])
 (.cond (.t ⟨.d0, .d3, .d5⟩) (.seq (.ops [⟨(some ⟨.d0, .d3, .d6⟩), none, .build [(.int .i64 (.ofNat 0)), (.str []), (.int .i64 (.ofNat 0)), (.int .i64 (.ofNat 0))] []⟩,
  ⟨none, none, .store 4 (.t ⟨.d0, .d0, .d2⟩) (.t ⟨.d0, .d3, .d6⟩)⟩,
  ⟨(some ⟨.d0, .d0, .d3⟩), none, .mv (.c (.int .i64 (.ofNat 0)))⟩])
 .ret) .skip))
 (.seq (.ops [⟨(some ⟨.d0, .d3, .d7⟩), none, .mv (.t ⟨.d0, .d0, .d5⟩)⟩,
  ⟨(some ⟨.d0, .d4, .d0⟩), none, .build [(.int .i64 (.ofNat 0)), (.str []), (.int .i64 (.ofNat 0)), (.int .i64 (.ofNat 0))] [(0, 1, (.c (.int .i64 (.ofNat 3)))), (2, 1, (.t ⟨.d0, .d3, .d7⟩))]⟩,
  ⟨(some ⟨.d0, .d4, .d1⟩), none, .mv (.t ⟨.d0, .d0, .d4⟩)⟩,
  ⟨none, none, .store 4 (.t ⟨.d0, .d0, .d2⟩) (.t ⟨.d0, .d4, .d0⟩)⟩,
  ⟨(some ⟨.d0, .d0, .d3⟩), none, .mv (.t ⟨.d0, .d4, .d1⟩)⟩])
 .ret)))))
 [.cell (some 4) ⟨.d0, .d0, .d2⟩, .tmp ⟨.d0, .d0, .d3⟩]
/-- umlaut/lex.text -/
def e65 : Ent := .code [⟨.d0, .d0, .d0⟩]
 (.seq (.ops [⟨(some ⟨.d0, .d0, .d2⟩), none, .box none (.c (.agg [(.int .i64 (.ofNat 0)), (.str []), (.int .i64 (.ofNat 0)), (.int .i64 (.ofNat 0))]))⟩,
  ⟨(some ⟨.d0, .d0, .d3⟩), none, .mv (.c (.int .i64 (.ofNat 0)))⟩])
 (.seq (.ops [⟨(some ⟨.d0, .d0, .d4⟩), none, .box none (.c (.agg [.nilp, .nils]))⟩])
 (.seq (.seq (.ops [⟨(some ⟨.d0, .d0, .d5⟩), none, .mv (.c (.int .i64 (.ofNat 1)))⟩])
 (.block 0 (.loop (.seq (.seq (.ops [⟨(some ⟨.d0, .d0, .d6⟩), none, .mv (.t ⟨.d0, .d0, .d5⟩)⟩,
  ⟨(some ⟨.d0, .d0, .d7⟩), none, .mv (.t ⟨.d0, .d0, .d0⟩)⟩,
  ⟨(some ⟨.d0, .d1, .d0⟩), none, .len .str (.t ⟨.d0, .d0, .d7⟩)⟩,
  ⟨(some ⟨.d0, .d1, .d1⟩), none, .bin .lss (.t ⟨.d0, .d0, .d6⟩) (.t ⟨.d0, .d1, .d0⟩)⟩])
 (.cond (.t ⟨.d0, .d1, .d1⟩) .skip (.exit 0)))
 (.seq (.block 1 (.seq (.seq (.ops [⟨(some ⟨.d0, .d1, .d4⟩), none, .mv (.t ⟨.d0, .d0, .d0⟩)⟩,
  ⟨(some ⟨.d0, .d1, .d5⟩), none, .mv (.t ⟨.d0, .d0, .d5⟩)⟩,
  ⟨(some ⟨.d0, .d1, .d6⟩), none, .idxS (.t ⟨.d0, .d1, .d4⟩) (.t ⟨.d0, .d1, .d5⟩)⟩,
  ⟨(some ⟨.d0, .d1, .d7⟩), none, .bin .eql (.t ⟨.d0, .d1, .d6⟩) (.c (.int .u8 (.ofNat 39)))⟩])
 (.cond (.t ⟨.d0, .d1, .d7⟩) (.seq (.seq (.ops [⟨(some ⟨.d0, .d2, .d0⟩), none, .mv (.t ⟨.d0, .d0, .d0⟩)⟩,
  ⟨(some ⟨.d0, .d2, .d1⟩), none, .mv (.t ⟨.d0, .d0, .d5⟩)⟩,
  ⟨(some ⟨.d0, .d2, .d2⟩), none, .bin .add (.t ⟨.d0, .d2, .d1⟩) (.c (.int .i64 (.ofNat 1)))⟩,
  ⟨(some ⟨.d0, .d2, .d3⟩), none, .sliS (.t ⟨.d0, .d2, .d0⟩) (some (.t ⟨.d0, .d2, .d2⟩)) none⟩,
  ⟨(some ⟨.d0, .d2, .d4⟩), none, .callF ⟨.d0, .d7, .d2⟩ [(.t ⟨.d0, .d2, .d3⟩), (.c (.str [39]))]⟩,
  ⟨(some ⟨.d0, .d2, .d5⟩), none, .un .not (.t ⟨.d0, .d2, .d4⟩)⟩])
 (.cond (.t ⟨.d0, .d2, .d5⟩) (.seq (.ops [⟨(some ⟨.d0, .d2, .d6⟩), none, .callF ⟨.d0, .d3, .d5⟩ [(.t ⟨.d0, .d0, .d4⟩)]⟩,
  ⟨(some ⟨.d0, .d2, .d7⟩), none, .build [(.int .i64 (.ofNat 0)), (.str []), (.int .i64 (.ofNat 0)), (.int .i64 (.ofNat 0))] [(0, 1, (.c (.int .i64 (.ofNat 4)))), (1, 1, (.t ⟨.d0, .d2, .d6⟩))]⟩,
  ⟨(some ⟨.d0, .d3, .d0⟩), none, .mv (.t ⟨.d0, .d0, .d5⟩)⟩,
  ⟨(some ⟨.d0, .d3, .d1⟩), none, .bin .add (.t ⟨.d0, .d3, .d0⟩) (.c (.int .i64 (.ofNat 1)))⟩,
  ⟨none, none, .store 4 (.t ⟨.d0, .d0, .d2⟩) (.t ⟨.d0, .d2, .d7⟩)⟩,
  ⟨(some ⟨.d0, .d0, .d3⟩), none, .mv (.t ⟨.d0, .d3, .d1⟩)⟩])
 .ret) .skip))
 (.ops [⟨(some ⟨.d0, .d3, .d2⟩), none, .mv (.t ⟨.d0, .d0, .d5⟩)⟩,
  ⟨(some ⟨.d0, .d3, .d3⟩), none, .bin .add (.t ⟨.d0, .d3, .d2⟩) (.c (.int .i64 (.ofNat 1)))⟩,
  ⟨(some ⟨.d0, .d0, .d5⟩), none, .mv (.t ⟨.d0, .d3, .d3⟩)⟩])) .skip))
 (.ops [⟨(some ⟨.d0, .d3, .d4⟩), none, .mv (.t ⟨.d0, .d0, .d0⟩)⟩,
  ⟨(some ⟨.d0, .d3, .d5⟩), none, .mv (.t ⟨.d0, .d0, .d5⟩)⟩,
  ⟨(some ⟨.d0, .d3, .d6⟩), none, .idxS (.t ⟨.d0, .d3, .d4⟩) (.t ⟨.d0, .d3, .d5⟩)⟩,
  ⟨(some ⟨.d0, .d3, .d7⟩), none, .callF ⟨.d1, .d5, .d3⟩ [(.t ⟨.d0, .d0, .d4⟩), (.t ⟨.d0, .d3, .d6⟩)]⟩])))
 (.ops [⟨(some ⟨.d0, .d1, .d2⟩), none, .mv (.t ⟨.d0, .d0, .d5⟩)⟩,
  ⟨(some ⟨.d0, .d1, .d3⟩), none, .bin .add (.t ⟨.d0, .d1, .d2⟩) (.c (.int .i64 (.ofNat 1)))⟩,
  ⟨(some ⟨.d0, .d0, .d5⟩), none, .mv (.t ⟨.d0, .d1, .d3⟩)⟩]))))))
 (.seq (.ops [⟨(some ⟨.d0, .d4, .d0⟩), none, .build [(.int .i64 (.ofNat 0)), (.str []), (.int .i64 (.ofNat 0)), (.int .i64 (.ofNat 0))] []⟩,
  ⟨none, none, .store 4 (.t ⟨.d0, .d0, .d2⟩) (.t ⟨.d0, .d4, .d0⟩)⟩,
  ⟨(some ⟨.d0, .d0, .d3⟩), none, .mv (.c (.int .i64 (.ofNat 0)))⟩])
 .ret))))
 [.cell (some 4) ⟨.d0, .d0, .d2⟩, .tmp ⟨.d0, .d0, .d3⟩]
/-- umlaut/lex.op -/
def e66 : Ent := .code [⟨.d0, .d0, .d0⟩]
 (.seq (.ops [⟨(some ⟨.d0, .d0, .d2⟩), none, .box none (.c (.agg [(.int .i64 (.ofNat 0)), (.str []), (.int .i64 (.ofNat 0)), (.int .i64 (.ofNat 0))]))⟩,
  ⟨(some ⟨.d0, .d0, .d3⟩), none, .mv (.c (.int .i64 (.ofNat 0)))⟩])
 (.seq (.seq (.ops [⟨(some ⟨.d0, .d0, .d6⟩), none, .buildS none 1 6 [(.str []), (.str []), (.str []), (.str []), (.str []), (.str [])] [(0, 1, (.c (.str [60, 62]))), (1, 1, (.c (.str [60, 61]))), (2, 1, (.c (.str [62, 61]))), (3, 1, (.c (.str [60, 60]))), (4, 1, (.c (.str [62, 62]))), (5, 1, (.c (.str [124, 124])))]⟩,
  ⟨(some ⟨.d0, .d0, .d7⟩), none, .len .sli (.t ⟨.d0, .d0, .d6⟩)⟩,
  ⟨(some ⟨.d0, .d1, .d0⟩), none, .mv (.c (.int .i64 (.ofNat 0)))⟩])
 (.block 0 (.loop (.seq (.ops [⟨(some ⟨.d0, .d1, .d1⟩), none, .bin .lss (.t ⟨.d0, .d1, .d0⟩) (.t ⟨.d0, .d0, .d7⟩)⟩])
 (.seq (.cond (.t ⟨.d0, .d1, .d1⟩) .skip (.exit 0))
 (.seq (.block 1 (.seq (.ops [⟨(some ⟨.d0, .d1, .d2⟩), none, .idxA none 1 (.t ⟨.d0, .d0, .d6⟩) (.t ⟨.d0, .d1, .d0⟩)⟩,
  ⟨(some ⟨.d0, .d1, .d3⟩), none, .load none (.t ⟨.d0, .d1, .d2⟩)⟩,
  ⟨(some ⟨.d0, .d0, .d5⟩), none, .mv (.t ⟨.d0, .d1, .d3⟩)⟩])
 (.seq (.ops [⟨(some ⟨.d0, .d1, .d4⟩), none, .mv (.t ⟨.d0, .d0, .d0⟩)⟩,
  ⟨(some ⟨.d0, .d1, .d5⟩), none, .mv (.t ⟨.d0, .d0, .d5⟩)⟩,
  ⟨(some ⟨.d0, .d1, .d6⟩), none, .callF ⟨.d0, .d7, .d2⟩ [(.t ⟨.d0, .d1, .d4⟩), (.t ⟨.d0, .d1, .d5⟩)]⟩])
 (.cond (.t ⟨.d0, .d1, .d6⟩) (.seq (.ops [⟨(some ⟨.d0, .d1, .d7⟩), none, .mv (.t ⟨.d0, .d0, .d5⟩)⟩,
  ⟨(some ⟨.d0, .d2, .d0⟩), none, .build [(.int .i64 (.ofNat 0)), (.str []), (.int .i64 (.ofNat 0)), (.int .i64 (.ofNat 0))] [(0, 1, (.c (.int .i64 (.ofNat 5)))), (1, 1, (.t ⟨.d0, .d1, .d7⟩))]⟩,
  ⟨none, none, .store 4 (.t ⟨.d0, .d0, .d2⟩) (.t ⟨.d0, .d2, .d0⟩)⟩,
  ⟨(some ⟨.d0, .d0, .d3⟩), none, .mv (.c (.int .i64 (.ofNat 2)))⟩])
 .ret) .skip))))
 (.ops [⟨(some ⟨.d0, .d2, .d1⟩), none, .bin .add (.t ⟨.d0, .d1, .d0⟩) (.c (.int .i64 (.ofNat 1)))⟩,
  ⟨(some ⟨.d0, .d1, .d0⟩), none, .mv (.t ⟨.d0, .d2, .d1⟩)⟩])))))))
 (.seq (.seq (.ops [⟨(some ⟨.d0, .d2, .d2⟩), none, .mv (.t ⟨.d0, .d0, .d0⟩)⟩,
  ⟨(some ⟨.d0, .d2, .d3⟩), none, .idxS (.t ⟨.d0, .d2, .d2⟩) (.c (.int .i64 (.ofNat 0)))⟩,
  ⟨(some ⟨.d0, .d2, .d4⟩), none, .callF ⟨.d0, .d7, .d1⟩ [(.c (.str [40, 41, 44, 46, 59, 42, 61, 60, 62, 43, 45, 47, 37, 38, 124, 94])), (.t ⟨.d0, .d2, .d3⟩)]⟩,
  ⟨(some ⟨.d0, .d2, .d5⟩), none, .bin .geq (.t ⟨.d0, .d2, .d4⟩) (.c (.int .i64 (.ofNat 0)))⟩])
 (.cond (.t ⟨.d0, .d2, .d5⟩) (.seq (.ops [⟨(some ⟨.d0, .d2, .d6⟩), none, .mv (.t ⟨.d0, .d0, .d0⟩)⟩,
  ⟨(some ⟨.d0, .d2, .d7⟩), none, .sliS (.t ⟨.d0, .d2, .d6⟩) none (some (.c (.int .i64 (.ofNat 1))))⟩,
  ⟨(some ⟨.d0, .d3, .d0⟩), none, .build [(.int .i64 (.ofNat 0)), (.str []), (.int .i64 (.ofNat 0)), (.int .i64 (.ofNat 0))] [(0, 1, (.c (.int .i64 (.ofNat 5)))), (1, 1, (.t ⟨.d0, .d2, .d7⟩))]⟩,
  ⟨none, none, .store 4 (.t ⟨.d0, .d0, .d2⟩) (.t ⟨.d0, .d3, .d0⟩)⟩,
  ⟨(some ⟨.d0, .d0, .d3⟩), none, .mv (.c (.int .i64 (.ofNat 1)))⟩])
 .ret) .skip))
 (.seq (.ops [⟨(some ⟨.d0, .d3, .d1⟩), none, .build [(.int .i64 (.ofNat 0)), (.str []), (.int .i64 (.ofNat 0)), (.int .i64 (.ofNat 0))] []⟩,
  ⟨none, none, .store 4 (.t ⟨.d0, .d0, .d2⟩) (.t ⟨.d0, .d3, .d1⟩)⟩,
  ⟨(some ⟨.d0, .d0, .d3⟩), none, .mv (.c (.int .i64 (.ofNat 0)))⟩])
 .ret))))
 [.cell (some 4) ⟨.d0, .d0, .d2⟩, .tmp ⟨.d0, .d0, .d3⟩]
/-- (*umlaut/parse.parser).find -/
def e67 : Ent := .code [⟨.d0, .d0, .d0⟩, ⟨.d0, .d0, .d1⟩]
 (.seq (.ops [⟨(some ⟨.d0, .d0, .d4⟩), none, .mv (.c (.int .i64 (.ofNat 0)))⟩])
 (.seq (.seq (.ops [⟨(some ⟨.d0, .d0, .d7⟩), none, .mv (.t ⟨.d0, .d0, .d1⟩)⟩,
  ⟨(some ⟨.d0, .d1, .d0⟩), none, .callF ⟨.d0, .d6, .d1⟩ [(.t ⟨.d0, .d0, .d7⟩)]⟩,
  ⟨(some ⟨.d0, .d1, .d1⟩), none, .len .sli (.t ⟨.d0, .d1, .d0⟩)⟩,
  ⟨(some ⟨.d0, .d1, .d2⟩), none, .mv (.c (.int .i64 (.ofNat 0)))⟩])
 (.block 0 (.loop (.seq (.ops [⟨(some ⟨.d0, .d1, .d3⟩), none, .bin .lss (.t ⟨.d0, .d1, .d2⟩) (.t ⟨.d0, .d1, .d1⟩)⟩])
 (.seq (.cond (.t ⟨.d0, .d1, .d3⟩) .skip (.exit 0))
 (.seq (.block 1 (.seq (.ops [⟨(some ⟨.d0, .d1, .d4⟩), none, .idxA none 3 (.t ⟨.d0, .d1, .d0⟩) (.t ⟨.d0, .d1, .d2⟩)⟩,
  ⟨(some ⟨.d0, .d1, .d5⟩), none, .load (some 3) (.t ⟨.d0, .d1, .d4⟩)⟩,
  ⟨(some ⟨.d0, .d0, .d6⟩), none, .box none (.c (.agg [(.int .i64 (.ofNat 0)), (.str []), (.int .i64 (.ofNat 0))]))⟩,
  ⟨none, none, .store 3 (.t ⟨.d0, .d0, .d6⟩) (.t ⟨.d0, .d1, .d5⟩)⟩])
 (.seq (.ops [⟨(some ⟨.d0, .d1, .d6⟩), none, .mv (.t ⟨.d0, .d0, .d0⟩)⟩,
  ⟨(some ⟨.d0, .d1, .d7⟩), none, .fieldA 0 (.t ⟨.d0, .d0, .d6⟩)⟩,
  ⟨(some ⟨.d0, .d2, .d0⟩), none, .load none (.t ⟨.d0, .d1, .d7⟩)⟩,
  ⟨(some ⟨.d0, .d2, .d1⟩), none, .fieldA 1 (.t ⟨.d0, .d0, .d6⟩)⟩,
  ⟨(some ⟨.d0, .d2, .d2⟩), none, .load none (.t ⟨.d0, .d2, .d1⟩)⟩,
  ⟨(some ⟨.d0, .d2, .d3⟩), none, .callF ⟨.d0, .d5, .d7⟩ [(.t ⟨.d0, .d1, .d6⟩), (.t ⟨.d0, .d2, .d0⟩), (.t ⟨.d0, .d2, .d2⟩)]⟩])
 (.cond (.t ⟨.d0, .d2, .d3⟩) (.seq (.ops [⟨(some ⟨.d0, .d2, .d4⟩), none, .mv (.t ⟨.d0, .d0, .d0⟩)⟩,
  ⟨(some ⟨.d0, .d2, .d5⟩), none, .nilck (.t ⟨.d0, .d2, .d4⟩)⟩,
  ⟨(some ⟨.d0, .d2, .d6⟩), none, .fieldA 1 (.t ⟨.d0, .d2, .d5⟩)⟩,
  ⟨(some ⟨.d0, .d2, .d7⟩), none, .load none (.t ⟨.d0, .d2, .d6⟩)⟩,
  ⟨(some ⟨.d0, .d3, .d0⟩), none, .bin .add (.t ⟨.d0, .d2, .d7⟩) (.c (.int .i64 (.ofNat 1)))⟩,
  ⟨(some ⟨.d0, .d3, .d1⟩), none, .nilck (.t ⟨.d0, .d2, .d4⟩)⟩,
  ⟨(some ⟨.d0, .d3, .d2⟩), none, .fieldA 1 (.t ⟨.d0, .d3, .d1⟩)⟩,
  ⟨none, none, .store 1 (.t ⟨.d0, .d3, .d2⟩) (.t ⟨.d0, .d3, .d0⟩)⟩])
 (.seq (.ops [⟨(some ⟨.d0, .d3, .d3⟩), none, .fieldA 2 (.t ⟨.d0, .d0, .d6⟩)⟩,
  ⟨(some ⟨.d0, .d3, .d4⟩), none, .load none (.t ⟨.d0, .d3, .d3⟩)⟩,
  ⟨(some ⟨.d0, .d0, .d4⟩), none, .mv (.t ⟨.d0, .d3, .d4⟩)⟩])
 .ret)) .skip))))
 (.ops [⟨(some ⟨.d0, .d3, .d5⟩), none, .bin .add (.t ⟨.d0, .d1, .d2⟩) (.c (.int .i64 (.ofNat 1)))⟩,
  ⟨(some ⟨.d0, .d1, .d2⟩), none, .mv (.t ⟨.d0, .d3, .d5⟩)⟩])))))))
 (.seq (.ops [⟨(some ⟨.d0, .d0, .d4⟩), none, .mv (.c (.int .i64 (.ofNat 0)))⟩])
 .ret)))
 [.tmp ⟨.d0, .d0, .d4⟩]
/-- (*umlaut/parse.parser).within -/
def e68 : Ent := .code [⟨.d0, .d0, .d0⟩, ⟨.d0, .d0, .d1⟩]
 (.seq (.ops [⟨(some ⟨.d0, .d0, .d4⟩), none, .box none (.c (.agg [(.int .i64 (.ofNat 0)), (.int .i64 (.ofNat 0)), (.str []), (.str []), (.int .i64 (.ofNat 0)), .nils]))⟩])
 (.seq (.seq (.ops [⟨(some ⟨.d0, .d0, .d6⟩), none, .mv (.t ⟨.d0, .d0, .d0⟩)⟩,
  ⟨(some ⟨.d0, .d0, .d7⟩), none, .nilck (.t ⟨.d0, .d0, .d6⟩)⟩,
  ⟨(some ⟨.d0, .d1, .d0⟩), none, .fieldA 3 (.t ⟨.d0, .d0, .d7⟩)⟩,
  ⟨(some ⟨.d0, .d1, .d1⟩), none, .load none (.t ⟨.d0, .d1, .d0⟩)⟩,
  ⟨(some ⟨.d0, .d1, .d2⟩), none, .bin .geq (.t ⟨.d0, .d1, .d1⟩) (.c (.int .i64 (.ofNat 24)))⟩])
 (.cond (.t ⟨.d0, .d1, .d2⟩) (.ops [⟨(some ⟨.d0, .d1, .d3⟩), none, .mv (.t ⟨.d0, .d0, .d0⟩)⟩,
  ⟨(some ⟨.d0, .d1, .d4⟩), none, .callF ⟨.d0, .d2, .d3⟩ [(.t ⟨.d0, .d1, .d3⟩), (.c (.int .i64 (.ofNat 21)))]⟩]) .skip))
 (.seq (.seq (.ops [⟨(some ⟨.d0, .d1, .d5⟩), none, .mv (.t ⟨.d0, .d0, .d0⟩)⟩,
  ⟨(some ⟨.d0, .d1, .d6⟩), none, .nilck (.t ⟨.d0, .d1, .d5⟩)⟩,
  ⟨(some ⟨.d0, .d1, .d7⟩), none, .fieldA 5 (.t ⟨.d0, .d1, .d6⟩)⟩,
  ⟨(some ⟨.d0, .d2, .d0⟩), none, .load none (.t ⟨.d0, .d1, .d7⟩)⟩,
  ⟨(some ⟨.d0, .d2, .d1⟩), none, .bin .neq (.t ⟨.d0, .d2, .d0⟩) (.c (.int .i64 (.ofNat 0)))⟩])
 (.cond (.t ⟨.d0, .d2, .d1⟩) (.seq (.ops [⟨(some ⟨.d0, .d2, .d2⟩), none, .build [(.int .i64 (.ofNat 0)), (.int .i64 (.ofNat 0)), (.str []), (.str []), (.int .i64 (.ofNat 0)), .nils] []⟩,
  ⟨none, none, .store 6 (.t ⟨.d0, .d0, .d4⟩) (.t ⟨.d0, .d2, .d2⟩)⟩])
 .ret) .skip))
 (.seq (.ops [⟨(some ⟨.d0, .d2, .d3⟩), none, .mv (.t ⟨.d0, .d0, .d0⟩)⟩,
  ⟨(some ⟨.d0, .d2, .d4⟩), none, .nilck (.t ⟨.d0, .d2, .d3⟩)⟩,
  ⟨(some ⟨.d0, .d2, .d5⟩), none, .fieldA 3 (.t ⟨.d0, .d2, .d4⟩)⟩,
  ⟨(some ⟨.d0, .d2, .d6⟩), none, .load none (.t ⟨.d0, .d2, .d5⟩)⟩,
  ⟨(some ⟨.d0, .d2, .d7⟩), none, .bin .add (.t ⟨.d0, .d2, .d6⟩) (.c (.int .i64 (.ofNat 1)))⟩,
  ⟨(some ⟨.d0, .d3, .d0⟩), none, .nilck (.t ⟨.d0, .d2, .d3⟩)⟩,
  ⟨(some ⟨.d0, .d3, .d1⟩), none, .fieldA 3 (.t ⟨.d0, .d3, .d0⟩)⟩,
  ⟨none, none, .store 1 (.t ⟨.d0, .d3, .d1⟩) (.t ⟨.d0, .d2, .d7⟩)⟩])
 (.seq (.ops [⟨(some ⟨.d0, .d3, .d2⟩), none, .mv (.t ⟨.d0, .d0, .d1⟩)⟩,
  ⟨(some ⟨.d0, .d3, .d3⟩), none, .callV (.t ⟨.d0, .d3, .d2⟩) []⟩,
  ⟨(some ⟨.d0, .d0, .d5⟩), none, .box none (.c (.agg [(.int .i64 (.ofNat 0)), (.int .i64 (.ofNat 0)), (.str []), (.str []), (.int .i64 (.ofNat 0)), .nils]))⟩,
  ⟨none, none, .store 6 (.t ⟨.d0, .d0, .d5⟩) (.t ⟨.d0, .d3, .d3⟩)⟩])
 (.seq (.ops [⟨(some ⟨.d0, .d3, .d4⟩), none, .mv (.t ⟨.d0, .d0, .d0⟩)⟩,
  ⟨(some ⟨.d0, .d3, .d5⟩), none, .nilck (.t ⟨.d0, .d3, .d4⟩)⟩,
  ⟨(some ⟨.d0, .d3, .d6⟩), none, .fieldA 3 (.t ⟨.d0, .d3, .d5⟩)⟩,
  ⟨(some ⟨.d0, .d3, .d7⟩), none, .load none (.t ⟨.d0, .d3, .d6⟩)⟩,
  ⟨(some ⟨.d0, .d4, .d0⟩), none, .bin .sub (.t ⟨.d0, .d3, .d7⟩) (.c (.int .i64 (.ofNat 1)))⟩,
  ⟨(some ⟨.d0, .d4, .d1⟩), none, .nilck (.t ⟨.d0, .d3, .d4⟩)⟩,
  ⟨(some ⟨.d0, .d4, .d2⟩), none, .fieldA 3 (.t ⟨.d0, .d4, .d1⟩)⟩,
  ⟨none, none, .store 1 (.t ⟨.d0, .d4, .d2⟩) (.t ⟨.d0, .d4, .d0⟩)⟩])
 (.seq (.ops [⟨(some ⟨.d0, .d4, .d3⟩), none, .load (some 6) (.t ⟨.d0, .d0, .d5⟩)⟩,
  ⟨none, none, .store 6 (.t ⟨.d0, .d0, .d4⟩) (.t ⟨.d0, .d4, .d3⟩)⟩])
 .ret)))))))
 [.cell (some 6) ⟨.d0, .d0, .d4⟩]
/-- (*umlaut/parse.parser).not$1 -/
def e69 : Ent := .code [⟨.d0, .d0, .d0⟩, ⟨.d0, .d0, .d1⟩]
 (.seq (.ops [⟨(some ⟨.d0, .d0, .d2⟩), none, .box none (.c (.agg [(.int .i64 (.ofNat 0)), (.int .i64 (.ofNat 0)), (.str []), (.str []), (.int .i64 (.ofNat 0)), .nils]))⟩])
 (.seq (.ops [⟨(some ⟨.d0, .d0, .d3⟩), none, .load none (.t ⟨.d0, .d0, .d0⟩)⟩,
  ⟨(some ⟨.d0, .d0, .d4⟩), none, .nilck (.t ⟨.d0, .d0, .d3⟩)⟩,
  ⟨(some ⟨.d0, .d0, .d5⟩), none, .fieldA 1 (.t ⟨.d0, .d0, .d4⟩)⟩,
  ⟨(some ⟨.d0, .d0, .d6⟩), none, .load none (.t ⟨.d0, .d0, .d5⟩)⟩,
  ⟨(some ⟨.d0, .d0, .d7⟩), none, .bin .add (.t ⟨.d0, .d0, .d6⟩) (.c (.int .i64 (.ofNat 1)))⟩,
  ⟨(some ⟨.d0, .d1, .d0⟩), none, .nilck (.t ⟨.d0, .d0, .d3⟩)⟩,
  ⟨(some ⟨.d0, .d1, .d1⟩), none, .fieldA 1 (.t ⟨.d0, .d1, .d0⟩)⟩,
  ⟨none, none, .store 1 (.t ⟨.d0, .d1, .d1⟩) (.t ⟨.d0, .d0, .d7⟩)⟩])
 (.seq (.ops [⟨(some ⟨.d0, .d1, .d2⟩), none, .load none (.t ⟨.d0, .d0, .d0⟩)⟩,
  ⟨(some ⟨.d0, .d1, .d3⟩), none, .load none (.t ⟨.d0, .d0, .d1⟩)⟩,
  ⟨(some ⟨.d0, .d1, .d4⟩), none, .callF ⟨.d0, .d1, .d1⟩ [(.t ⟨.d0, .d1, .d2⟩), (.t ⟨.d0, .d1, .d3⟩)]⟩,
  ⟨(some ⟨.d0, .d1, .d5⟩), none, .buildS none 6 1 [(.int .i64 (.ofNat 0)), (.int .i64 (.ofNat 0)), (.str []), (.str []), (.int .i64 (.ofNat 0)), .nils] [(0, 6, (.t ⟨.d0, .d1, .d4⟩))]⟩,
  ⟨(some ⟨.d0, .d1, .d6⟩), none, .build [(.int .i64 (.ofNat 0)), (.int .i64 (.ofNat 0)), (.str []), (.str []), (.int .i64 (.ofNat 0)), .nils] [(0, 1, (.c (.int .i64 (.ofNat 5)))), (1, 1, (.c (.int .i64 (.ofNat 21)))), (5, 1, (.t ⟨.d0, .d1, .d5⟩))]⟩,
  ⟨none, none, .store 6 (.t ⟨.d0, .d0, .d2⟩) (.t ⟨.d0, .d1, .d6⟩)⟩])
 .ret)))
 [.cell (some 6) ⟨.d0, .d0, .d2⟩]
/-- (*umlaut/parse.parser).in -/
def e70 : Ent := .code [⟨.d0, .d0, .d0⟩, ⟨.d0, .d0, .d1⟩, ⟨.d0, .d0, .d2⟩]
 (.seq (.ops [⟨(some ⟨.d0, .d0, .d3⟩), none, .box none (.t ⟨.d0, .d0, .d0⟩)⟩,
  ⟨(some ⟨.d0, .d0, .d4⟩), none, .box none (.t ⟨.d0, .d0, .d1⟩)⟩,
  ⟨(some ⟨.d0, .d0, .d5⟩), none, .box none (.t ⟨.d0, .d0, .d2⟩)⟩,
  ⟨(some ⟨.d0, .d0, .d6⟩), none, .box none (.c (.agg [(.int .i64 (.ofNat 0)), (.int .i64 (.ofNat 0)), (.str []), (.str []), (.int .i64 (.ofNat 0)), .nils]))⟩])
 (.seq (.seq (.ops [⟨(some ⟨.d0, .d0, .d7⟩), none, .load none (.t ⟨.d0, .d0, .d3⟩)⟩,
  ⟨(some ⟨.d0, .d1, .d0⟩), none, .callF ⟨.d0, .d5, .d7⟩ [(.t ⟨.d0, .d0, .d7⟩), (.c (.int .i64 (.ofNat 5))), (.c (.str [40]))]⟩,
  ⟨(some ⟨.d0, .d1, .d1⟩), none, .un .not (.t ⟨.d0, .d1, .d0⟩)⟩])
 (.cond (.t ⟨.d0, .d1, .d1⟩) (.ops [⟨(some ⟨.d0, .d1, .d2⟩), none, .load none (.t ⟨.d0, .d0, .d3⟩)⟩,
  ⟨(some ⟨.d0, .d1, .d3⟩), none, .callF ⟨.d0, .d2, .d3⟩ [(.t ⟨.d0, .d1, .d2⟩), (.c (.int .i64 (.ofNat 10)))]⟩]) .skip))
 (.seq (.ops [⟨(some ⟨.d0, .d1, .d4⟩), none, .load none (.t ⟨.d0, .d0, .d3⟩)⟩,
  ⟨(some ⟨.d0, .d1, .d5⟩), none, .mkfn 108 [] [(.t ⟨.d0, .d0, .d3⟩), (.t ⟨.d0, .d0, .d5⟩), (.t ⟨.d0, .d0, .d4⟩)]⟩,
  ⟨(some ⟨.d0, .d1, .d6⟩), none, .callF ⟨.d1, .d0, .d4⟩ [(.t ⟨.d0, .d1, .d4⟩), (.t ⟨.d0, .d1, .d5⟩)]⟩,
  ⟨none, none, .store 6 (.t ⟨.d0, .d0, .d6⟩) (.t ⟨.d0, .d1, .d6⟩)⟩])
 .ret)))
 [.cell (some 6) ⟨.d0, .d0, .d6⟩]
/-- (*umlaut/parse.parser).neg$1 -/
def e71 : Ent := .code [⟨.d0, .d0, .d0⟩, ⟨.d0, .d0, .d1⟩]
 (.seq (.ops [⟨(some ⟨.d0, .d0, .d2⟩), none, .box none (.c (.agg [(.int .i64 (.ofNat 0)), (.int .i64 (.ofNat 0)), (.str []), (.str []), (.int .i64 (.ofNat 0)), .nils]))⟩])
 (.seq (.ops [⟨(some ⟨.d0, .d0, .d3⟩), none, .load none (.t ⟨.d0, .d0, .d0⟩)⟩,
  ⟨(some ⟨.d0, .d0, .d4⟩), none, .nilck (.t ⟨.d0, .d0, .d3⟩)⟩,
  ⟨(some ⟨.d0, .d0, .d5⟩), none, .fieldA 1 (.t ⟨.d0, .d0, .d4⟩)⟩,
  ⟨(some ⟨.d0, .d0, .d6⟩), none, .load none (.t ⟨.d0, .d0, .d5⟩)⟩,
  ⟨(some ⟨.d0, .d0, .d7⟩), none, .bin .add (.t ⟨.d0, .d0, .d6⟩) (.c (.int .i64 (.ofNat 1)))⟩,
  ⟨(some ⟨.d0, .d1, .d0⟩), none, .nilck (.t ⟨.d0, .d0, .d3⟩)⟩,
  ⟨(some ⟨.d0, .d1, .d1⟩), none, .fieldA 1 (.t ⟨.d0, .d1, .d0⟩)⟩,
  ⟨none, none, .store 1 (.t ⟨.d0, .d1, .d1⟩) (.t ⟨.d0, .d0, .d7⟩)⟩])
 (.seq (.ops [⟨(some ⟨.d0, .d1, .d2⟩), none, .load none (.t ⟨.d0, .d0, .d0⟩)⟩,
  ⟨(some ⟨.d0, .d1, .d3⟩), none, .load none (.t ⟨.d0, .d0, .d1⟩)⟩,
  ⟨(some ⟨.d0, .d1, .d4⟩), none, .callF ⟨.d0, .d1, .d1⟩ [(.t ⟨.d0, .d1, .d2⟩), (.t ⟨.d0, .d1, .d3⟩)]⟩,
  ⟨(some ⟨.d0, .d1, .d5⟩), none, .buildS none 6 1 [(.int .i64 (.ofNat 0)), (.int .i64 (.ofNat 0)), (.str []), (.str []), (.int .i64 (.ofNat 0)), .nils] [(0, 6, (.t ⟨.d0, .d1, .d4⟩))]⟩,
  ⟨(some ⟨.d0, .d1, .d6⟩), none, .build [(.int .i64 (.ofNat 0)), (.int .i64 (.ofNat 0)), (.str []), (.str []), (.int .i64 (.ofNat 0)), .nils] [(0, 1, (.c (.int .i64 (.ofNat 5)))), (1, 1, (.c (.int .i64 (.ofNat 20)))), (5, 1, (.t ⟨.d0, .d1, .d5⟩))]⟩,
  ⟨none, none, .store 6 (.t ⟨.d0, .d0, .d2⟩) (.t ⟨.d0, .d1, .d6⟩)⟩])
 .ret)))
 [.cell (some 6) ⟨.d0, .d0, .d2⟩]
/-- (*umlaut/parse.parser).take -/
def e72 : Ent := .code [⟨.d0, .d0, .d0⟩, ⟨.d0, .d0, .d1⟩]
 (.seq (.ops [⟨(some ⟨.d0, .d0, .d4⟩), none, .box none (.c (.agg [(.int .i64 (.ofNat 0)), (.str []), (.int .i64 (.ofNat 0)), (.int .i64 (.ofNat 0))]))⟩])
 (.seq (.seq (.reg 0 [] [⟨(some ⟨.d0, .d0, .d5⟩), none, .mv (.t ⟨.d0, .d0, .d0⟩)⟩,
  ⟨(some ⟨.d0, .d0, .d6⟩), none, .nilck (.t ⟨.d0, .d0, .d5⟩)⟩,
  ⟨(some ⟨.d0, .d0, .d7⟩), none, .fieldA 5 (.t ⟨.d0, .d0, .d6⟩)⟩,
  ⟨(some ⟨.d0, .d1, .d0⟩), none, .load none (.t ⟨.d0, .d0, .d7⟩)⟩,
  ⟨(some ⟨.d0, .d1, .d1⟩), none, .bin .neq (.t ⟨.d0, .d1, .d0⟩) (.c (.int .i64 (.ofNat 0)))⟩,
  ⟨(some ⟨.d0, .d1, .d2⟩), none, .mv (.t ⟨.d0, .d1, .d1⟩)⟩,
  ⟨(some ⟨.d0, .d1, .d3⟩), (some (⟨.d0, .d1, .d2⟩, false)), .mv (.t ⟨.d0, .d0, .d0⟩)⟩,
  ⟨(some ⟨.d0, .d1, .d4⟩), (some (⟨.d0, .d1, .d2⟩, false)), .nilck (.t ⟨.d0, .d1, .d3⟩)⟩,
  ⟨(some ⟨.d0, .d1, .d5⟩), (some (⟨.d0, .d1, .d2⟩, false)), .fieldA 1 (.t ⟨.d0, .d1, .d4⟩)⟩,
  ⟨(some ⟨.d0, .d1, .d6⟩), (some (⟨.d0, .d1, .d2⟩, false)), .load none (.t ⟨.d0, .d1, .d5⟩)⟩,
  ⟨(some ⟨.d0, .d1, .d7⟩), (some (⟨.d0, .d1, .d2⟩, false)), .mv (.t ⟨.d0, .d0, .d0⟩)⟩,
  ⟨(some ⟨.d0, .d2, .d0⟩), (some (⟨.d0, .d1, .d2⟩, false)), .nilck (.t ⟨.d0, .d1, .d7⟩)⟩,
  ⟨(some ⟨.d0, .d2, .d1⟩), (some (⟨.d0, .d1, .d2⟩, false)), .fieldA 0 (.t ⟨.d0, .d2, .d0⟩)⟩,
  ⟨(some ⟨.d0, .d2, .d2⟩), (some (⟨.d0, .d1, .d2⟩, false)), .load none (.t ⟨.d0, .d2, .d1⟩)⟩,
  ⟨(some ⟨.d0, .d2, .d3⟩), (some (⟨.d0, .d1, .d2⟩, false)), .len .sli (.t ⟨.d0, .d2, .d2⟩)⟩,
  ⟨(some ⟨.d0, .d2, .d4⟩), (some (⟨.d0, .d1, .d2⟩, false)), .bin .eql (.t ⟨.d0, .d1, .d6⟩) (.t ⟨.d0, .d2, .d3⟩)⟩,
  ⟨(some ⟨.d0, .d2, .d5⟩), none, .pick (.t ⟨.d0, .d1, .d2⟩) (.c (.bool true)) (.t ⟨.d0, .d2, .d4⟩)⟩,
  ⟨(some ⟨.d0, .d2, .d6⟩), none, .mv (.t ⟨.d0, .d2, .d5⟩)⟩,
  ⟨(some ⟨.d0, .d2, .d7⟩), (some (⟨.d0, .d2, .d6⟩, false)), .mv (.t ⟨.d0, .d0, .d0⟩)⟩,
  ⟨(some ⟨.d0, .d3, .d0⟩), (some (⟨.d0, .d2, .d6⟩, false)), .nilck (.t ⟨.d0, .d2, .d7⟩)⟩,
  ⟨(some ⟨.d0, .d3, .d1⟩), (some (⟨.d0, .d2, .d6⟩, false)), .fieldA 0 (.t ⟨.d0, .d3, .d0⟩)⟩,
  ⟨(some ⟨.d0, .d3, .d2⟩), (some (⟨.d0, .d2, .d6⟩, false)), .load none (.t ⟨.d0, .d3, .d1⟩)⟩,
  ⟨(some ⟨.d0, .d3, .d3⟩), (some (⟨.d0, .d2, .d6⟩, false)), .mv (.t ⟨.d0, .d0, .d0⟩)⟩,
  ⟨(some ⟨.d0, .d3, .d4⟩), (some (⟨.d0, .d2, .d6⟩, false)), .nilck (.t ⟨.d0, .d3, .d3⟩)⟩,
  ⟨(some ⟨.d0, .d3, .d5⟩), (some (⟨.d0, .d2, .d6⟩, false)), .fieldA 1 (.t ⟨.d0, .d3, .d4⟩)⟩,
  ⟨(some ⟨.d0, .d3, .d6⟩), (some (⟨.d0, .d2, .d6⟩, false)), .load none (.t ⟨.d0, .d3, .d5⟩)⟩,
  ⟨(some ⟨.d0, .d3, .d7⟩), (some (⟨.d0, .d2, .d6⟩, false)), .idxA none 4 (.t ⟨.d0, .d3, .d2⟩) (.t ⟨.d0, .d3, .d6⟩)⟩,
  ⟨(some ⟨.d0, .d4, .d0⟩), (some (⟨.d0, .d2, .d6⟩, false)), .fieldA 0 (.t ⟨.d0, .d3, .d7⟩)⟩,
  ⟨(some ⟨.d0, .d4, .d1⟩), (some (⟨.d0, .d2, .d6⟩, false)), .load none (.t ⟨.d0, .d4, .d0⟩)⟩,
  ⟨(some ⟨.d0, .d4, .d2⟩), (some (⟨.d0, .d2, .d6⟩, false)), .mv (.t ⟨.d0, .d0, .d1⟩)⟩,
  ⟨(some ⟨.d0, .d4, .d3⟩), (some (⟨.d0, .d2, .d6⟩, false)), .bin .neq (.t ⟨.d0, .d4, .d1⟩) (.t ⟨.d0, .d4, .d2⟩)⟩,
  ⟨(some ⟨.d0, .d4, .d4⟩), none, .pick (.t ⟨.d0, .d2, .d6⟩) (.c (.bool true)) (.t ⟨.d0, .d4, .d3⟩)⟩])
 (.cond (.t ⟨.d0, .d4, .d4⟩) (.seq (.ops [⟨(some ⟨.d0, .d4, .d5⟩), none, .mv (.t ⟨.d0, .d0, .d0⟩)⟩,
  ⟨(some ⟨.d0, .d4, .d6⟩), none, .callF ⟨.d0, .d2, .d3⟩ [(.t ⟨.d0, .d4, .d5⟩), (.c (.int .i64 (.ofNat 10)))]⟩])
 (.seq (.ops [⟨(some ⟨.d0, .d4, .d7⟩), none, .build [(.int .i64 (.ofNat 0)), (.str []), (.int .i64 (.ofNat 0)), (.int .i64 (.ofNat 0))] []⟩,
  ⟨none, none, .store 4 (.t ⟨.d0, .d0, .d4⟩) (.t ⟨.d0, .d4, .d7⟩)⟩])
 .ret)) .skip))
 (.seq (.ops [⟨(some ⟨.d0, .d5, .d0⟩), none, .mv (.t ⟨.d0, .d0, .d0⟩)⟩,
  ⟨(some ⟨.d0, .d5, .d1⟩), none, .nilck (.t ⟨.d0, .d5, .d0⟩)⟩,
  ⟨(some ⟨.d0, .d5, .d2⟩), none, .fieldA 1 (.t ⟨.d0, .d5, .d1⟩)⟩,
  ⟨(some ⟨.d0, .d5, .d3⟩), none, .load none (.t ⟨.d0, .d5, .d2⟩)⟩,
  ⟨(some ⟨.d0, .d5, .d4⟩), none, .bin .add (.t ⟨.d0, .d5, .d3⟩) (.c (.int .i64 (.ofNat 1)))⟩,
  ⟨(some ⟨.d0, .d5, .d5⟩), none, .nilck (.t ⟨.d0, .d5, .d0⟩)⟩,
  ⟨(some ⟨.d0, .d5, .d6⟩), none, .fieldA 1 (.t ⟨.d0, .d5, .d5⟩)⟩,
  ⟨none, none, .store 1 (.t ⟨.d0, .d5, .d6⟩) (.t ⟨.d0, .d5, .d4⟩)⟩])
 (.seq (.reg 0 [] [⟨(some ⟨.d0, .d5, .d7⟩), none, .mv (.t ⟨.d0, .d0, .d0⟩)⟩,
  ⟨(some ⟨.d0, .d6, .d0⟩), none, .nilck (.t ⟨.d0, .d5, .d7⟩)⟩,
  ⟨(some ⟨.d0, .d6, .d1⟩), none, .fieldA 0 (.t ⟨.d0, .d6, .d0⟩)⟩,
  ⟨(some ⟨.d0, .d6, .d2⟩), none, .load none (.t ⟨.d0, .d6, .d1⟩)⟩,
  ⟨(some ⟨.d0, .d6, .d3⟩), none, .mv (.t ⟨.d0, .d0, .d0⟩)⟩,
  ⟨(some ⟨.d0, .d6, .d4⟩), none, .nilck (.t ⟨.d0, .d6, .d3⟩)⟩,
  ⟨(some ⟨.d0, .d6, .d5⟩), none, .fieldA 1 (.t ⟨.d0, .d6, .d4⟩)⟩,
  ⟨(some ⟨.d0, .d6, .d6⟩), none, .load none (.t ⟨.d0, .d6, .d5⟩)⟩,
  ⟨(some ⟨.d0, .d6, .d7⟩), none, .bin .sub (.t ⟨.d0, .d6, .d6⟩) (.c (.int .i64 (.ofNat 1)))⟩,
  ⟨(some ⟨.d0, .d7, .d0⟩), none, .idxA none 4 (.t ⟨.d0, .d6, .d2⟩) (.t ⟨.d0, .d6, .d7⟩)⟩,
  ⟨(some ⟨.d0, .d7, .d1⟩), none, .load (some 4) (.t ⟨.d0, .d7, .d0⟩)⟩,
  ⟨none, none, .store 4 (.t ⟨.d0, .d0, .d4⟩) (.t ⟨.d0, .d7, .d1⟩)⟩])
 .ret))))
 [.cell (some 4) ⟨.d0, .d0, .d4⟩]
/-- (*umlaut/parse.parser).cast -/
def e73 : Ent := .code [⟨.d0, .d0, .d0⟩]
 (.seq (.ops [⟨(some ⟨.d0, .d0, .d2⟩), none, .box none (.c (.agg [(.int .i64 (.ofNat 0)), (.int .i64 (.ofNat 0)), (.str []), (.str []), (.int .i64 (.ofNat 0)), .nils]))⟩])
 (.seq (.ops [⟨(some ⟨.d0, .d0, .d4⟩), none, .mv (.t ⟨.d0, .d0, .d0⟩)⟩,
  ⟨(some ⟨.d0, .d0, .d5⟩), none, .nilck (.t ⟨.d0, .d0, .d4⟩)⟩,
  ⟨(some ⟨.d0, .d0, .d6⟩), none, .fieldA 1 (.t ⟨.d0, .d0, .d5⟩)⟩,
  ⟨(some ⟨.d0, .d0, .d7⟩), none, .load none (.t ⟨.d0, .d0, .d6⟩)⟩,
  ⟨(some ⟨.d0, .d1, .d0⟩), none, .bin .add (.t ⟨.d0, .d0, .d7⟩) (.c (.int .i64 (.ofNat 1)))⟩,
  ⟨(some ⟨.d0, .d1, .d1⟩), none, .nilck (.t ⟨.d0, .d0, .d4⟩)⟩,
  ⟨(some ⟨.d0, .d1, .d2⟩), none, .fieldA 1 (.t ⟨.d0, .d1, .d1⟩)⟩,
  ⟨none, none, .store 1 (.t ⟨.d0, .d1, .d2⟩) (.t ⟨.d0, .d1, .d0⟩)⟩])
 (.seq (.ops [⟨(some ⟨.d0, .d1, .d3⟩), none, .mv (.t ⟨.d0, .d0, .d0⟩)⟩,
  ⟨(some ⟨.d0, .d1, .d4⟩), none, .callF ⟨.d1, .d1, .d3⟩ [(.t ⟨.d0, .d1, .d3⟩), (.c (.str [40]))]⟩])
 (.seq (.ops [⟨(some ⟨.d0, .d1, .d5⟩), none, .mv (.t ⟨.d0, .d0, .d0⟩)⟩,
  ⟨(some ⟨.d0, .d1, .d6⟩), none, .callF ⟨.d0, .d1, .d1⟩ [(.t ⟨.d0, .d1, .d5⟩), (.c (.int .i64 (.ofNat 1)))]⟩,
  ⟨(some ⟨.d0, .d1, .d7⟩), none, .buildS none 6 1 [(.int .i64 (.ofNat 0)), (.int .i64 (.ofNat 0)), (.str []), (.str []), (.int .i64 (.ofNat 0)), .nils] [(0, 6, (.t ⟨.d0, .d1, .d6⟩))]⟩,
  ⟨(some ⟨.d0, .d2, .d0⟩), none, .build [(.int .i64 (.ofNat 0)), (.int .i64 (.ofNat 0)), (.str []), (.str []), (.int .i64 (.ofNat 0)), .nils] [(0, 1, (.c (.int .i64 (.ofNat 12)))), (5, 1, (.t ⟨.d0, .d1, .d7⟩))]⟩,
  ⟨(some ⟨.d0, .d0, .d3⟩), none, .box none (.c (.agg [(.int .i64 (.ofNat 0)), (.int .i64 (.ofNat 0)), (.str []), (.str []), (.int .i64 (.ofNat 0)), .nils]))⟩,
  ⟨none, none, .store 6 (.t ⟨.d0, .d0, .d3⟩) (.t ⟨.d0, .d2, .d0⟩)⟩])
 (.seq (.ops [⟨(some ⟨.d0, .d2, .d1⟩), none, .mv (.t ⟨.d0, .d0, .d0⟩)⟩,
  ⟨(some ⟨.d0, .d2, .d2⟩), none, .buildS none 1 1 [(.str [])] [(0, 1, (.c (.str [65, 83])))]⟩,
  ⟨(some ⟨.d0, .d2, .d3⟩), none, .callF ⟨.d0, .d5, .d5⟩ [(.t ⟨.d0, .d2, .d1⟩), (.t ⟨.d0, .d2, .d2⟩)]⟩])
 (.seq (.ops [⟨(some ⟨.d0, .d2, .d4⟩), none, .mv (.t ⟨.d0, .d0, .d0⟩)⟩,
  ⟨(some ⟨.d0, .d2, .d5⟩), none, .callF ⟨.d1, .d5, .d5⟩ [(.t ⟨.d0, .d2, .d4⟩)]⟩,
  ⟨(some ⟨.d0, .d2, .d6⟩), none, .fieldA 4 (.t ⟨.d0, .d0, .d3⟩)⟩,
  ⟨none, none, .store 1 (.t ⟨.d0, .d2, .d6⟩) (.t ⟨.d0, .d2, .d5⟩)⟩])
 (.seq (.ops [⟨(some ⟨.d0, .d2, .d7⟩), none, .mv (.t ⟨.d0, .d0, .d0⟩)⟩,
  ⟨(some ⟨.d0, .d3, .d0⟩), none, .callF ⟨.d1, .d1, .d3⟩ [(.t ⟨.d0, .d2, .d7⟩), (.c (.str [41]))]⟩])
 (.seq (.ops [⟨(some ⟨.d0, .d3, .d1⟩), none, .load (some 6) (.t ⟨.d0, .d0, .d3⟩)⟩,
  ⟨none, none, .store 6 (.t ⟨.d0, .d0, .d2⟩) (.t ⟨.d0, .d3, .d1⟩)⟩])
 .ret))))))))
 [.cell (some 6) ⟨.d0, .d0, .d2⟩]
/-- (*umlaut/parse.parser).plain$1 -/
def e74 : Ent := .code [⟨.d0, .d0, .d0⟩]
 (.seq (.ops [⟨(some ⟨.d0, .d0, .d1⟩), none, .box none (.c (.agg [(.int .i64 (.ofNat 0)), (.int .i64 (.ofNat 0)), (.str []), (.str []), (.int .i64 (.ofNat 0)), .nils]))⟩])
 (.seq (.ops [⟨(some ⟨.d0, .d0, .d3⟩), none, .load none (.t ⟨.d0, .d0, .d0⟩)⟩,
  ⟨(some ⟨.d0, .d0, .d4⟩), none, .nilck (.t ⟨.d0, .d0, .d3⟩)⟩,
  ⟨(some ⟨.d0, .d0, .d5⟩), none, .fieldA 1 (.t ⟨.d0, .d0, .d4⟩)⟩,
  ⟨(some ⟨.d0, .d0, .d6⟩), none, .load none (.t ⟨.d0, .d0, .d5⟩)⟩,
  ⟨(some ⟨.d0, .d0, .d7⟩), none, .bin .add (.t ⟨.d0, .d0, .d6⟩) (.c (.int .i64 (.ofNat 1)))⟩,
  ⟨(some ⟨.d0, .d1, .d0⟩), none, .nilck (.t ⟨.d0, .d0, .d3⟩)⟩,
  ⟨(some ⟨.d0, .d1, .d1⟩), none, .fieldA 1 (.t ⟨.d0, .d1, .d0⟩)⟩,
  ⟨none, none, .store 1 (.t ⟨.d0, .d1, .d1⟩) (.t ⟨.d0, .d0, .d7⟩)⟩])
 (.seq (.ops [⟨(some ⟨.d0, .d1, .d2⟩), none, .load none (.t ⟨.d0, .d0, .d0⟩)⟩,
  ⟨(some ⟨.d0, .d1, .d3⟩), none, .callF ⟨.d0, .d1, .d1⟩ [(.t ⟨.d0, .d1, .d2⟩), (.c (.int .i64 (.ofNat 1)))]⟩,
  ⟨(some ⟨.d0, .d0, .d2⟩), none, .box none (.c (.agg [(.int .i64 (.ofNat 0)), (.int .i64 (.ofNat 0)), (.str []), (.str []), (.int .i64 (.ofNat 0)), .nils]))⟩,
  ⟨none, none, .store 6 (.t ⟨.d0, .d0, .d2⟩) (.t ⟨.d0, .d1, .d3⟩)⟩])
 (.seq (.ops [⟨(some ⟨.d0, .d1, .d4⟩), none, .load none (.t ⟨.d0, .d0, .d0⟩)⟩,
  ⟨(some ⟨.d0, .d1, .d5⟩), none, .callF ⟨.d1, .d1, .d3⟩ [(.t ⟨.d0, .d1, .d4⟩), (.c (.str [41]))]⟩])
 (.seq (.ops [⟨(some ⟨.d0, .d1, .d6⟩), none, .load (some 6) (.t ⟨.d0, .d0, .d2⟩)⟩,
  ⟨none, none, .store 6 (.t ⟨.d0, .d0, .d1⟩) (.t ⟨.d0, .d1, .d6⟩)⟩])
 .ret)))))
 [.cell (some 6) ⟨.d0, .d0, .d1⟩]
/-- (*umlaut/parse.parser).wantOp -/
def e75 : Ent := .code [⟨.d0, .d0, .d0⟩, ⟨.d0, .d0, .d1⟩]
 (.seq (.ops [⟨(some ⟨.d0, .d0, .d4⟩), none, .mv (.t ⟨.d0, .d0, .d0⟩)⟩,
  ⟨(some ⟨.d0, .d0, .d5⟩), none, .mv (.t ⟨.d0, .d0, .d1⟩)⟩,
  ⟨(some ⟨.d0, .d0, .d6⟩), none, .callF ⟨.d0, .d2, .d5⟩ [(.t ⟨.d0, .d0, .d4⟩), (.t ⟨.d0, .d0, .d5⟩)]⟩,
  ⟨(some ⟨.d0, .d0, .d7⟩), none, .un .not (.t ⟨.d0, .d0, .d6⟩)⟩])
 (.cond (.t ⟨.d0, .d0, .d7⟩) (.ops [⟨(some ⟨.d0, .d1, .d0⟩), none, .mv (.t ⟨.d0, .d0, .d0⟩)⟩,
  ⟨(some ⟨.d0, .d1, .d1⟩), none, .callF ⟨.d0, .d2, .d3⟩ [(.t ⟨.d0, .d1, .d0⟩), (.c (.int .i64 (.ofNat 10)))]⟩]) .skip))
 []
/-- (*umlaut/parse.parser).ahead -/
def e76 : Ent := .code [⟨.d0, .d0, .d0⟩, ⟨.d0, .d0, .d1⟩, ⟨.d0, .d0, .d2⟩, ⟨.d0, .d0, .d3⟩]
 (.seq (.ops [⟨(some ⟨.d0, .d1, .d0⟩), none, .mv (.c (.bool false))⟩])
 (.seq (.reg 0 [] [⟨(some ⟨.d0, .d1, .d1⟩), none, .mv (.t ⟨.d0, .d0, .d0⟩)⟩,
  ⟨(some ⟨.d0, .d1, .d2⟩), none, .nilck (.t ⟨.d0, .d1, .d1⟩)⟩,
  ⟨(some ⟨.d0, .d1, .d3⟩), none, .fieldA 1 (.t ⟨.d0, .d1, .d2⟩)⟩,
  ⟨(some ⟨.d0, .d1, .d4⟩), none, .load none (.t ⟨.d0, .d1, .d3⟩)⟩,
  ⟨(some ⟨.d0, .d1, .d5⟩), none, .mv (.t ⟨.d0, .d0, .d1⟩)⟩,
  ⟨(some ⟨.d0, .d1, .d6⟩), none, .bin .add (.t ⟨.d0, .d1, .d4⟩) (.t ⟨.d0, .d1, .d5⟩)⟩,
  ⟨(some ⟨.d0, .d1, .d7⟩), none, .mv (.t ⟨.d0, .d0, .d0⟩)⟩,
  ⟨(some ⟨.d0, .d2, .d0⟩), none, .nilck (.t ⟨.d0, .d1, .d7⟩)⟩,
  ⟨(some ⟨.d0, .d2, .d1⟩), none, .fieldA 0 (.t ⟨.d0, .d2, .d0⟩)⟩,
  ⟨(some ⟨.d0, .d2, .d2⟩), none, .load none (.t ⟨.d0, .d2, .d1⟩)⟩,
  ⟨(some ⟨.d0, .d2, .d3⟩), none, .len .sli (.t ⟨.d0, .d2, .d2⟩)⟩,
  ⟨(some ⟨.d0, .d2, .d4⟩), none, .bin .lss (.t ⟨.d0, .d1, .d6⟩) (.t ⟨.d0, .d2, .d3⟩)⟩,
  ⟨(some ⟨.d0, .d2, .d5⟩), none, .mv (.t ⟨.d0, .d2, .d4⟩)⟩,
  ⟨(some ⟨.d0, .d2, .d6⟩), (some (⟨.d0, .d2, .d5⟩, true)), .mv (.t ⟨.d0, .d0, .d0⟩)⟩,
  ⟨(some ⟨.d0, .d2, .d7⟩), (some (⟨.d0, .d2, .d5⟩, true)), .nilck (.t ⟨.d0, .d2, .d6⟩)⟩,
  ⟨(some ⟨.d0, .d3, .d0⟩), (some (⟨.d0, .d2, .d5⟩, true)), .fieldA 0 (.t ⟨.d0, .d2, .d7⟩)⟩,
  ⟨(some ⟨.d0, .d3, .d1⟩), (some (⟨.d0, .d2, .d5⟩, true)), .load none (.t ⟨.d0, .d3, .d0⟩)⟩,
  ⟨(some ⟨.d0, .d3, .d2⟩), (some (⟨.d0, .d2, .d5⟩, true)), .mv (.t ⟨.d0, .d0, .d0⟩)⟩,
  ⟨(some ⟨.d0, .d3, .d3⟩), (some (⟨.d0, .d2, .d5⟩, true)), .nilck (.t ⟨.d0, .d3, .d2⟩)⟩,
  ⟨(some ⟨.d0, .d3, .d4⟩), (some (⟨.d0, .d2, .d5⟩, true)), .fieldA 1 (.t ⟨.d0, .d3, .d3⟩)⟩,
  ⟨(some ⟨.d0, .d3, .d5⟩), (some (⟨.d0, .d2, .d5⟩, true)), .load none (.t ⟨.d0, .d3, .d4⟩)⟩,
  ⟨(some ⟨.d0, .d3, .d6⟩), (some (⟨.d0, .d2, .d5⟩, true)), .mv (.t ⟨.d0, .d0, .d1⟩)⟩,
  ⟨(some ⟨.d0, .d3, .d7⟩), (some (⟨.d0, .d2, .d5⟩, true)), .bin .add (.t ⟨.d0, .d3, .d5⟩) (.t ⟨.d0, .d3, .d6⟩)⟩,
  ⟨(some ⟨.d0, .d4, .d0⟩), (some (⟨.d0, .d2, .d5⟩, true)), .idxA none 4 (.t ⟨.d0, .d3, .d1⟩) (.t ⟨.d0, .d3, .d7⟩)⟩,
  ⟨(some ⟨.d0, .d4, .d1⟩), (some (⟨.d0, .d2, .d5⟩, true)), .fieldA 0 (.t ⟨.d0, .d4, .d0⟩)⟩,
  ⟨(some ⟨.d0, .d4, .d2⟩), (some (⟨.d0, .d2, .d5⟩, true)), .load none (.t ⟨.d0, .d4, .d1⟩)⟩,
  ⟨(some ⟨.d0, .d4, .d3⟩), (some (⟨.d0, .d2, .d5⟩, true)), .mv (.t ⟨.d0, .d0, .d2⟩)⟩,
  ⟨(some ⟨.d0, .d4, .d4⟩), (some (⟨.d0, .d2, .d5⟩, true)), .bin .eql (.t ⟨.d0, .d4, .d2⟩) (.t ⟨.d0, .d4, .d3⟩)⟩,
  ⟨(some ⟨.d0, .d4, .d5⟩), none, .pick (.t ⟨.d0, .d2, .d5⟩) (.t ⟨.d0, .d4, .d4⟩) (.c (.bool false))⟩,
  ⟨(some ⟨.d0, .d4, .d6⟩), none, .mv (.t ⟨.d0, .d4, .d5⟩)⟩,
  ⟨(some ⟨.d0, .d4, .d7⟩), (some (⟨.d0, .d4, .d6⟩, true)), .mv (.t ⟨.d0, .d0, .d0⟩)⟩,
  ⟨(some ⟨.d0, .d5, .d0⟩), (some (⟨.d0, .d4, .d6⟩, true)), .nilck (.t ⟨.d0, .d4, .d7⟩)⟩,
  ⟨(some ⟨.d0, .d5, .d1⟩), (some (⟨.d0, .d4, .d6⟩, true)), .fieldA 0 (.t ⟨.d0, .d5, .d0⟩)⟩,
  ⟨(some ⟨.d0, .d5, .d2⟩), (some (⟨.d0, .d4, .d6⟩, true)), .load none (.t ⟨.d0, .d5, .d1⟩)⟩,
  ⟨(some ⟨.d0, .d5, .d3⟩), (some (⟨.d0, .d4, .d6⟩, true)), .mv (.t ⟨.d0, .d0, .d0⟩)⟩,
  ⟨(some ⟨.d0, .d5, .d4⟩), (some (⟨.d0, .d4, .d6⟩, true)), .nilck (.t ⟨.d0, .d5, .d3⟩)⟩,
  ⟨(some ⟨.d0, .d5, .d5⟩), (some (⟨.d0, .d4, .d6⟩, true)), .fieldA 1 (.t ⟨.d0, .d5, .d4⟩)⟩,
  ⟨(some ⟨.d0, .d5, .d6⟩), (some (⟨.d0, .d4, .d6⟩, true)), .load none (.t ⟨.d0, .d5, .d5⟩)⟩,
  ⟨(some ⟨.d0, .d5, .d7⟩), (some (⟨.d0, .d4, .d6⟩, true)), .mv (.t ⟨.d0, .d0, .d1⟩)⟩,
  ⟨(some ⟨.d0, .d6, .d0⟩), (some (⟨.d0, .d4, .d6⟩, true)), .bin .add (.t ⟨.d0, .d5, .d6⟩) (.t ⟨.d0, .d5, .d7⟩)⟩,
  ⟨(some ⟨.d0, .d6, .d1⟩), (some (⟨.d0, .d4, .d6⟩, true)), .idxA none 4 (.t ⟨.d0, .d5, .d2⟩) (.t ⟨.d0, .d6, .d0⟩)⟩,
  ⟨(some ⟨.d0, .d6, .d2⟩), (some (⟨.d0, .d4, .d6⟩, true)), .fieldA 1 (.t ⟨.d0, .d6, .d1⟩)⟩,
  ⟨(some ⟨.d0, .d6, .d3⟩), (some (⟨.d0, .d4, .d6⟩, true)), .load none (.t ⟨.d0, .d6, .d2⟩)⟩,
  ⟨(some ⟨.d0, .d6, .d4⟩), (some (⟨.d0, .d4, .d6⟩, true)), .mv (.t ⟨.d0, .d0, .d3⟩)⟩,
  ⟨(some ⟨.d0, .d6, .d5⟩), (some (⟨.d0, .d4, .d6⟩, true)), .bin .eql (.t ⟨.d0, .d6, .d3⟩) (.t ⟨.d0, .d6, .d4⟩)⟩,
  ⟨(some ⟨.d0, .d6, .d6⟩), none, .pick (.t ⟨.d0, .d4, .d6⟩) (.t ⟨.d0, .d6, .d5⟩) (.c (.bool false))⟩,
  ⟨(some ⟨.d0, .d1, .d0⟩), none, .mv (.t ⟨.d0, .d6, .d6⟩)⟩])
 .ret))
 [.tmp ⟨.d0, .d1, .d0⟩]
/-- (*umlaut/parse.parser).text -/
def e77 : Ent := .code [⟨.d0, .d0, .d0⟩]
 (.seq (.ops [⟨(some ⟨.d0, .d0, .d2⟩), none, .mv (.c (.str []))⟩])
 (.seq (.seq (.reg 0 [] [⟨(some ⟨.d0, .d0, .d3⟩), none, .mv (.t ⟨.d0, .d0, .d0⟩)⟩,
  ⟨(some ⟨.d0, .d0, .d4⟩), none, .nilck (.t ⟨.d0, .d0, .d3⟩)⟩,
  ⟨(some ⟨.d0, .d0, .d5⟩), none, .fieldA 1 (.t ⟨.d0, .d0, .d4⟩)⟩,
  ⟨(some ⟨.d0, .d0, .d6⟩), none, .load none (.t ⟨.d0, .d0, .d5⟩)⟩,
  ⟨(some ⟨.d0, .d0, .d7⟩), none, .mv (.t ⟨.d0, .d0, .d0⟩)⟩,
  ⟨(some ⟨.d0, .d1, .d0⟩), none, .nilck (.t ⟨.d0, .d0, .d7⟩)⟩,
  ⟨(some ⟨.d0, .d1, .d1⟩), none, .fieldA 0 (.t ⟨.d0, .d1, .d0⟩)⟩,
  ⟨(some ⟨.d0, .d1, .d2⟩), none, .load none (.t ⟨.d0, .d1, .d1⟩)⟩,
  ⟨(some ⟨.d0, .d1, .d3⟩), none, .len .sli (.t ⟨.d0, .d1, .d2⟩)⟩,
  ⟨(some ⟨.d0, .d1, .d4⟩), none, .bin .eql (.t ⟨.d0, .d0, .d6⟩) (.t ⟨.d0, .d1, .d3⟩)⟩])
 (.cond (.t ⟨.d0, .d1, .d4⟩) (.seq (.ops [⟨(some ⟨.d0, .d0, .d2⟩), none, .mv (.c (.str []))⟩])
 .ret) .skip))
 (.seq (.reg 0 [] [⟨(some ⟨.d0, .d1, .d5⟩), none, .mv (.t ⟨.d0, .d0, .d0⟩)⟩,
  ⟨(some ⟨.d0, .d1, .d6⟩), none, .nilck (.t ⟨.d0, .d1, .d5⟩)⟩,
  ⟨(some ⟨.d0, .d1, .d7⟩), none, .fieldA 0 (.t ⟨.d0, .d1, .d6⟩)⟩,
  ⟨(some ⟨.d0, .d2, .d0⟩), none, .load none (.t ⟨.d0, .d1, .d7⟩)⟩,
  ⟨(some ⟨.d0, .d2, .d1⟩), none, .mv (.t ⟨.d0, .d0, .d0⟩)⟩,
  ⟨(some ⟨.d0, .d2, .d2⟩), none, .nilck (.t ⟨.d0, .d2, .d1⟩)⟩,
  ⟨(some ⟨.d0, .d2, .d3⟩), none, .fieldA 1 (.t ⟨.d0, .d2, .d2⟩)⟩,
  ⟨(some ⟨.d0, .d2, .d4⟩), none, .load none (.t ⟨.d0, .d2, .d3⟩)⟩,
  ⟨(some ⟨.d0, .d2, .d5⟩), none, .idxA none 4 (.t ⟨.d0, .d2, .d0⟩) (.t ⟨.d0, .d2, .d4⟩)⟩,
  ⟨(some ⟨.d0, .d2, .d6⟩), none, .fieldA 1 (.t ⟨.d0, .d2, .d5⟩)⟩,
  ⟨(some ⟨.d0, .d2, .d7⟩), none, .load none (.t ⟨.d0, .d2, .d6⟩)⟩,
  ⟨(some ⟨.d0, .d0, .d2⟩), none, .mv (.t ⟨.d0, .d2, .d7⟩)⟩])
 .ret)))
 [.tmp ⟨.d0, .d0, .d2⟩]
/-- (*umlaut/parse.parser).call -/
def e78 : Ent := .code [⟨.d0, .d0, .d0⟩]
 (.seq (.ops [⟨(some ⟨.d0, .d0, .d2⟩), none, .box none (.c (.agg [(.int .i64 (.ofNat 0)), (.int .i64 (.ofNat 0)), (.str []), (.str []), (.int .i64 (.ofNat 0)), .nils]))⟩])
 (.seq (.ops [⟨(some ⟨.d0, .d0, .d4⟩), none, .mv (.t ⟨.d0, .d0, .d0⟩)⟩,
  ⟨(some ⟨.d0, .d0, .d5⟩), none, .callF ⟨.d1, .d1, .d0⟩ [(.t ⟨.d0, .d0, .d4⟩), (.c (.int .i64 (.ofNat 1)))]⟩,
  ⟨(some ⟨.d0, .d0, .d6⟩), none, .field 1 none (.t ⟨.d0, .d0, .d5⟩)⟩,
  ⟨(some ⟨.d0, .d0, .d7⟩), none, .build [(.int .i64 (.ofNat 0)), (.int .i64 (.ofNat 0)), (.str []), (.str []), (.int .i64 (.ofNat 0)), .nils] [(0, 1, (.c (.int .i64 (.ofNat 13)))), (2, 1, (.t ⟨.d0, .d0, .d6⟩))]⟩,
  ⟨(some ⟨.d0, .d0, .d3⟩), none, .box none (.c (.agg [(.int .i64 (.ofNat 0)), (.int .i64 (.ofNat 0)), (.str []), (.str []), (.int .i64 (.ofNat 0)), .nils]))⟩,
  ⟨none, none, .store 6 (.t ⟨.d0, .d0, .d3⟩) (.t ⟨.d0, .d0, .d7⟩)⟩])
 (.seq (.seq (.ops [⟨(some ⟨.d0, .d1, .d0⟩), none, .fieldA 2 (.t ⟨.d0, .d0, .d3⟩)⟩,
  ⟨(some ⟨.d0, .d1, .d1⟩), none, .load none (.t ⟨.d0, .d1, .d0⟩)⟩,
  ⟨(some ⟨.d0, .d1, .d2⟩), none, .callF ⟨.d1, .d5, .d6⟩ [(.t ⟨.d0, .d1, .d1⟩)]⟩])
 (.cond (.t ⟨.d0, .d1, .d2⟩) (.ops [⟨(some ⟨.d0, .d1, .d3⟩), none, .fieldA 0 (.t ⟨.d0, .d0, .d3⟩)⟩,
  ⟨none, none, .store 1 (.t ⟨.d0, .d1, .d3⟩) (.c (.int .i64 (.ofNat 14)))⟩]) .skip))
 (.seq (.ops [⟨(some ⟨.d0, .d1, .d4⟩), none, .mv (.t ⟨.d0, .d0, .d0⟩)⟩,
  ⟨(some ⟨.d0, .d1, .d5⟩), none, .callF ⟨.d1, .d1, .d3⟩ [(.t ⟨.d0, .d1, .d4⟩), (.c (.str [40]))]⟩])
 (.seq (.seq (.ops [⟨(some ⟨.d0, .d1, .d6⟩), none, .fieldA 2 (.t ⟨.d0, .d0, .d3⟩)⟩,
  ⟨(some ⟨.d0, .d1, .d7⟩), none, .load none (.t ⟨.d0, .d1, .d6⟩)⟩,
  ⟨(some ⟨.d0, .d2, .d0⟩), none, .bin .neq (.t ⟨.d0, .d1, .d7⟩) (.c (.str [99, 111, 117, 110, 116]))⟩,
  ⟨(some ⟨.d0, .d2, .d1⟩), none, .mv (.t ⟨.d0, .d2, .d0⟩)⟩,
  ⟨(some ⟨.d0, .d2, .d2⟩), (some (⟨.d0, .d2, .d1⟩, false)), .mv (.t ⟨.d0, .d0, .d0⟩)⟩,
  ⟨(some ⟨.d0, .d2, .d3⟩), (some (⟨.d0, .d2, .d1⟩, false)), .callF ⟨.d0, .d2, .d5⟩ [(.t ⟨.d0, .d2, .d2⟩), (.c (.str [42]))]⟩,
  ⟨(some ⟨.d0, .d2, .d4⟩), (some (⟨.d0, .d2, .d1⟩, false)), .un .not (.t ⟨.d0, .d2, .d3⟩)⟩,
  ⟨(some ⟨.d0, .d2, .d5⟩), none, .pick (.t ⟨.d0, .d2, .d1⟩) (.c (.bool true)) (.t ⟨.d0, .d2, .d4⟩)⟩])
 (.cond (.t ⟨.d0, .d2, .d5⟩) (.ops [⟨(some ⟨.d0, .d2, .d6⟩), none, .mv (.t ⟨.d0, .d0, .d0⟩)⟩,
  ⟨(some ⟨.d0, .d2, .d7⟩), none, .callF ⟨.d0, .d1, .d1⟩ [(.t ⟨.d0, .d2, .d6⟩), (.c (.int .i64 (.ofNat 1)))]⟩,
  ⟨(some ⟨.d0, .d3, .d0⟩), none, .buildS none 6 1 [(.int .i64 (.ofNat 0)), (.int .i64 (.ofNat 0)), (.str []), (.str []), (.int .i64 (.ofNat 0)), .nils] [(0, 6, (.t ⟨.d0, .d2, .d7⟩))]⟩,
  ⟨(some ⟨.d0, .d3, .d1⟩), none, .fieldA 5 (.t ⟨.d0, .d0, .d3⟩)⟩,
  ⟨none, none, .store 1 (.t ⟨.d0, .d3, .d1⟩) (.t ⟨.d0, .d3, .d0⟩)⟩]) .skip))
 (.seq (.ops [⟨(some ⟨.d0, .d3, .d2⟩), none, .mv (.t ⟨.d0, .d0, .d0⟩)⟩,
  ⟨(some ⟨.d0, .d3, .d3⟩), none, .callF ⟨.d1, .d1, .d3⟩ [(.t ⟨.d0, .d3, .d2⟩), (.c (.str [41]))]⟩])
 (.seq (.ops [⟨(some ⟨.d0, .d3, .d4⟩), none, .load (some 6) (.t ⟨.d0, .d0, .d3⟩)⟩,
  ⟨none, none, .store 6 (.t ⟨.d0, .d0, .d2⟩) (.t ⟨.d0, .d3, .d4⟩)⟩])
 .ret)))))))
 [.cell (some 6) ⟨.d0, .d0, .d2⟩]
/-- (*umlaut/parse.parser).column -/
def e79 : Ent := .code [⟨.d0, .d0, .d0⟩]
 (.seq (.ops [⟨(some ⟨.d0, .d0, .d2⟩), none, .box none (.c (.agg [(.int .i64 (.ofNat 0)), (.int .i64 (.ofNat 0)), (.str []), (.str []), (.int .i64 (.ofNat 0)), .nils]))⟩])
 (.seq (.ops [⟨(some ⟨.d0, .d0, .d4⟩), none, .mv (.t ⟨.d0, .d0, .d0⟩)⟩,
  ⟨(some ⟨.d0, .d0, .d5⟩), none, .callF ⟨.d1, .d1, .d0⟩ [(.t ⟨.d0, .d0, .d4⟩), (.c (.int .i64 (.ofNat 1)))]⟩,
  ⟨(some ⟨.d0, .d0, .d6⟩), none, .field 1 none (.t ⟨.d0, .d0, .d5⟩)⟩,
  ⟨(some ⟨.d0, .d0, .d7⟩), none, .build [(.int .i64 (.ofNat 0)), (.int .i64 (.ofNat 0)), (.str []), (.str []), (.int .i64 (.ofNat 0)), .nils] [(0, 1, (.c (.int .i64 (.ofNat 4)))), (2, 1, (.t ⟨.d0, .d0, .d6⟩))]⟩,
  ⟨(some ⟨.d0, .d0, .d3⟩), none, .box none (.c (.agg [(.int .i64 (.ofNat 0)), (.int .i64 (.ofNat 0)), (.str []), (.str []), (.int .i64 (.ofNat 0)), .nils]))⟩,
  ⟨none, none, .store 6 (.t ⟨.d0, .d0, .d3⟩) (.t ⟨.d0, .d0, .d7⟩)⟩])
 (.seq (.seq (.ops [⟨(some ⟨.d0, .d1, .d0⟩), none, .mv (.t ⟨.d0, .d0, .d0⟩)⟩,
  ⟨(some ⟨.d0, .d1, .d1⟩), none, .callF ⟨.d0, .d2, .d5⟩ [(.t ⟨.d0, .d1, .d0⟩), (.c (.str [46]))]⟩])
 (.cond (.t ⟨.d0, .d1, .d1⟩) (.reg 0 [(1, [6])] [⟨(some ⟨.d0, .d1, .d2⟩), none, .fieldA 2 (.t ⟨.d0, .d0, .d3⟩)⟩,
  ⟨(some ⟨.d0, .d1, .d3⟩), none, .load none (.t ⟨.d0, .d1, .d2⟩)⟩,
  ⟨(some ⟨.d0, .d1, .d4⟩), none, .mv (.t ⟨.d0, .d0, .d0⟩)⟩,
  ⟨(some ⟨.d0, .d1, .d5⟩), none, .callF ⟨.d1, .d1, .d0⟩ [(.t ⟨.d0, .d1, .d4⟩), (.c (.int .i64 (.ofNat 1)))]⟩,
  ⟨(some ⟨.d0, .d1, .d6⟩), none, .field 1 none (.t ⟨.d0, .d1, .d5⟩)⟩,
  ⟨(some ⟨.d0, .d1, .d7⟩), none, .fieldA 3 (.t ⟨.d0, .d0, .d3⟩)⟩,
  ⟨none, none, .store 1 (.t ⟨.d0, .d1, .d7⟩) (.t ⟨.d0, .d1, .d3⟩)⟩,
  ⟨(some ⟨.d0, .d2, .d0⟩), none, .fieldA 2 (.t ⟨.d0, .d0, .d3⟩)⟩,
  ⟨none, none, .store 1 (.t ⟨.d0, .d2, .d0⟩) (.t ⟨.d0, .d1, .d6⟩)⟩]) .skip))
 (.seq (.ops [⟨(some ⟨.d0, .d2, .d1⟩), none, .load (some 6) (.t ⟨.d0, .d0, .d3⟩)⟩,
  ⟨none, none, .store 6 (.t ⟨.d0, .d0, .d2⟩) (.t ⟨.d0, .d2, .d1⟩)⟩])
 .ret))))
 [.cell (some 6) ⟨.d0, .d0, .d2⟩]
/-- (*umlaut/parse.parser).collation -/
def e80 : Ent := .code [⟨.d0, .d0, .d0⟩]
 (.seq (.ops [⟨(some ⟨.d0, .d0, .d2⟩), none, .box none (.c (.agg [(.int .i64 (.ofNat 0)), (.str []), (.str []), (.str []), (.int .i64 (.ofNat 0)), (.int .i64 (.ofNat 0)), .nils, (.bool false), (.bool false), .nils, .nils, .nils, .nils, .nilp, .nilp, .nils, .nils, (.int .i64 (.ofNat 0)), (.int .i64 (.ofNat 0))]))⟩])
 (.seq (.ops [⟨(some ⟨.d0, .d0, .d4⟩), none, .mv (.t ⟨.d0, .d0, .d0⟩)⟩,
  ⟨(some ⟨.d0, .d0, .d5⟩), none, .callF ⟨.d1, .d2, .d3⟩ [(.t ⟨.d0, .d0, .d4⟩)]⟩,
  ⟨(some ⟨.d0, .d0, .d6⟩), none, .mv (.t ⟨.d0, .d0, .d0⟩)⟩,
  ⟨(some ⟨.d0, .d0, .d7⟩), none, .callF ⟨.d1, .d1, .d0⟩ [(.t ⟨.d0, .d0, .d6⟩), (.c (.int .i64 (.ofNat 4)))]⟩,
  ⟨(some ⟨.d0, .d1, .d0⟩), none, .field 1 none (.t ⟨.d0, .d0, .d7⟩)⟩,
  ⟨(some ⟨.d0, .d1, .d1⟩), none, .build [(.int .i64 (.ofNat 0)), (.str []), (.str []), (.str []), (.int .i64 (.ofNat 0)), (.int .i64 (.ofNat 0)), .nils, (.bool false), (.bool false), .nils, .nils, .nils, .nils, .nilp, .nilp, .nils, .nils, (.int .i64 (.ofNat 0)), (.int .i64 (.ofNat 0))] [(0, 1, (.c (.int .i64 (.ofNat 1)))), (1, 1, (.t ⟨.d0, .d0, .d5⟩)), (3, 1, (.t ⟨.d0, .d1, .d0⟩)), (4, 1, (.c (.int .i64 (.ofNat 3))))]⟩,
  ⟨(some ⟨.d0, .d0, .d3⟩), none, .box none (.c (.agg [(.int .i64 (.ofNat 0)), (.str []), (.str []), (.str []), (.int .i64 (.ofNat 0)), (.int .i64 (.ofNat 0)), .nils, (.bool false), (.bool false), .nils, .nils, .nils, .nils, .nilp, .nilp, .nils, .nils, (.int .i64 (.ofNat 0)), (.int .i64 (.ofNat 0))]))⟩,
  ⟨none, none, .store 19 (.t ⟨.d0, .d0, .d3⟩) (.t ⟨.d0, .d1, .d1⟩)⟩])
 (.seq (.seq (.ops [⟨(some ⟨.d0, .d1, .d2⟩), none, .mv (.t ⟨.d0, .d0, .d0⟩)⟩,
  ⟨(some ⟨.d0, .d1, .d3⟩), none, .callF ⟨.d0, .d4, .d7⟩ [(.t ⟨.d0, .d1, .d2⟩), (.c (.str [76, 69, 86, 69, 76]))]⟩])
 (.cond (.t ⟨.d0, .d1, .d3⟩) (.ops [⟨(some ⟨.d0, .d1, .d4⟩), none, .mv (.t ⟨.d0, .d0, .d0⟩)⟩,
  ⟨(some ⟨.d0, .d1, .d5⟩), none, .callF ⟨.d1, .d1, .d0⟩ [(.t ⟨.d0, .d1, .d4⟩), (.c (.int .i64 (.ofNat 3)))]⟩,
  ⟨(some ⟨.d0, .d1, .d6⟩), none, .field 2 none (.t ⟨.d0, .d1, .d5⟩)⟩,
  ⟨(some ⟨.d0, .d1, .d7⟩), none, .fieldA 4 (.t ⟨.d0, .d0, .d3⟩)⟩,
  ⟨none, none, .store 1 (.t ⟨.d0, .d1, .d7⟩) (.t ⟨.d0, .d1, .d6⟩)⟩]) .skip))
 (.seq (.seq (.ops [⟨(some ⟨.d0, .d2, .d0⟩), none, .mv (.t ⟨.d0, .d0, .d0⟩)⟩,
  ⟨(some ⟨.d0, .d2, .d1⟩), none, .callF ⟨.d0, .d4, .d7⟩ [(.t ⟨.d0, .d2, .d0⟩), (.c (.str [83, 72, 73, 70, 84]))]⟩])
 (.cond (.t ⟨.d0, .d2, .d1⟩) (.ops [⟨(some ⟨.d0, .d2, .d2⟩), none, .fieldA 5 (.t ⟨.d0, .d0, .d3⟩)⟩,
  ⟨(some ⟨.d0, .d2, .d3⟩), none, .load none (.t ⟨.d0, .d2, .d2⟩)⟩,
  ⟨(some ⟨.d0, .d2, .d4⟩), none, .bin .or (.t ⟨.d0, .d2, .d3⟩) (.c (.int .i64 (.ofNat 1)))⟩,
  ⟨(some ⟨.d0, .d2, .d5⟩), none, .fieldA 5 (.t ⟨.d0, .d0, .d3⟩)⟩,
  ⟨none, none, .store 1 (.t ⟨.d0, .d2, .d5⟩) (.t ⟨.d0, .d2, .d4⟩)⟩]) .skip))
 (.seq (.seq (.ops [⟨(some ⟨.d0, .d2, .d6⟩), none, .mv (.t ⟨.d0, .d0, .d0⟩)⟩,
  ⟨(some ⟨.d0, .d2, .d7⟩), none, .callF ⟨.d0, .d4, .d7⟩ [(.t ⟨.d0, .d2, .d6⟩), (.c (.str [66, 65, 67, 75]))]⟩])
 (.cond (.t ⟨.d0, .d2, .d7⟩) (.ops [⟨(some ⟨.d0, .d3, .d0⟩), none, .fieldA 5 (.t ⟨.d0, .d0, .d3⟩)⟩,
  ⟨(some ⟨.d0, .d3, .d1⟩), none, .load none (.t ⟨.d0, .d3, .d0⟩)⟩,
  ⟨(some ⟨.d0, .d3, .d2⟩), none, .bin .or (.t ⟨.d0, .d3, .d1⟩) (.c (.int .i64 (.ofNat 2)))⟩,
  ⟨(some ⟨.d0, .d3, .d3⟩), none, .fieldA 5 (.t ⟨.d0, .d0, .d3⟩)⟩,
  ⟨none, none, .store 1 (.t ⟨.d0, .d3, .d3⟩) (.t ⟨.d0, .d3, .d2⟩)⟩]) .skip))
 (.seq (.ops [⟨(some ⟨.d0, .d3, .d4⟩), none, .load (some 19) (.t ⟨.d0, .d0, .d3⟩)⟩,
  ⟨none, none, .store 19 (.t ⟨.d0, .d0, .d2⟩) (.t ⟨.d0, .d3, .d4⟩)⟩])
 .ret))))))
 [.cell (some 19) ⟨.d0, .d0, .d2⟩]
/-- (*umlaut/parse.parser).name -/
def e83 : Ent := .code [⟨.d0, .d0, .d0⟩]
 (.seq (.ops [⟨(some ⟨.d0, .d0, .d2⟩), none, .mv (.c (.str []))⟩])
 (.seq (.ops [⟨(some ⟨.d0, .d0, .d3⟩), none, .mv (.t ⟨.d0, .d0, .d0⟩)⟩,
  ⟨(some ⟨.d0, .d0, .d4⟩), none, .callF ⟨.d1, .d1, .d0⟩ [(.t ⟨.d0, .d0, .d3⟩), (.c (.int .i64 (.ofNat 1)))]⟩,
  ⟨(some ⟨.d0, .d0, .d5⟩), none, .field 1 none (.t ⟨.d0, .d0, .d4⟩)⟩,
  ⟨(some ⟨.d0, .d0, .d2⟩), none, .mv (.t ⟨.d0, .d0, .d5⟩)⟩])
 .ret))
 [.tmp ⟨.d0, .d0, .d2⟩]
/-- umlaut/parse.sign -/
def e91 : Ent := .code [⟨.d0, .d0, .d0⟩]
 (.seq (.ops [⟨(some ⟨.d0, .d0, .d2⟩), none, .mv (.c (.str []))⟩])
 (.seq (.seq (.ops [⟨(some ⟨.d0, .d0, .d3⟩), none, .mv (.c (.int .i64 (.ofNat 1)))⟩])
 (.block 0 (.loop (.seq (.seq (.ops [⟨(some ⟨.d0, .d0, .d6⟩), none, .mv (.t ⟨.d0, .d0, .d3⟩)⟩,
  ⟨(some ⟨.d0, .d0, .d7⟩), none, .bin .leq (.t ⟨.d0, .d0, .d6⟩) (.c (.int .i64 (.ofNat 9)))⟩])
 (.cond (.t ⟨.d0, .d0, .d7⟩) .skip (.exit 0)))
 (.seq (.block 1 (.seq (.ops [⟨(some ⟨.d0, .d1, .d2⟩), none, .mv (.t ⟨.d0, .d0, .d3⟩)⟩,
  ⟨(some ⟨.d0, .d1, .d3⟩), none, .callF ⟨.d0, .d6, .d1⟩ [(.t ⟨.d0, .d1, .d2⟩)]⟩,
  ⟨(some ⟨.d0, .d1, .d4⟩), none, .len .sli (.t ⟨.d0, .d1, .d3⟩)⟩,
  ⟨(some ⟨.d0, .d1, .d5⟩), none, .mv (.c (.int .i64 (.ofNat 0)))⟩])
 (.block 2 (.loop (.seq (.ops [⟨(some ⟨.d0, .d1, .d6⟩), none, .bin .lss (.t ⟨.d0, .d1, .d5⟩) (.t ⟨.d0, .d1, .d4⟩)⟩])
 (.seq (.cond (.t ⟨.d0, .d1, .d6⟩) .skip (.exit 2))
 (.seq (.block 3 (.seq (.ops [⟨(some ⟨.d0, .d1, .d7⟩), none, .idxA none 3 (.t ⟨.d0, .d1, .d3⟩) (.t ⟨.d0, .d1, .d5⟩)⟩,
  ⟨(some ⟨.d0, .d2, .d0⟩), none, .load (some 3) (.t ⟨.d0, .d1, .d7⟩)⟩,
  ⟨(some ⟨.d0, .d0, .d5⟩), none, .box none (.c (.agg [(.int .i64 (.ofNat 0)), (.str []), (.int .i64 (.ofNat 0))]))⟩,
  ⟨none, none, .store 3 (.t ⟨.d0, .d0, .d5⟩) (.t ⟨.d0, .d2, .d0⟩)⟩])
 (.seq (.ops [⟨(some ⟨.d0, .d2, .d1⟩), none, .fieldA 2 (.t ⟨.d0, .d0, .d5⟩)⟩,
  ⟨(some ⟨.d0, .d2, .d2⟩), none, .load none (.t ⟨.d0, .d2, .d1⟩)⟩,
  ⟨(some ⟨.d0, .d2, .d3⟩), none, .mv (.t ⟨.d0, .d0, .d0⟩)⟩,
  ⟨(some ⟨.d0, .d2, .d4⟩), none, .bin .eql (.t ⟨.d0, .d2, .d2⟩) (.t ⟨.d0, .d2, .d3⟩)⟩])
 (.cond (.t ⟨.d0, .d2, .d4⟩) (.seq (.ops [⟨(some ⟨.d0, .d2, .d5⟩), none, .fieldA 1 (.t ⟨.d0, .d0, .d5⟩)⟩,
  ⟨(some ⟨.d0, .d2, .d6⟩), none, .load none (.t ⟨.d0, .d2, .d5⟩)⟩,
  ⟨(some ⟨.d0, .d0, .d2⟩), none, .mv (.t ⟨.d0, .d2, .d6⟩)⟩])
 .ret) .skip))))
 (.ops [⟨(some ⟨.d0, .d2, .d7⟩), none, .bin .add (.t ⟨.d0, .d1, .d5⟩) (.c (.int .i64 (.ofNat 1)))⟩,
  ⟨(some ⟨.d0, .d1, .d5⟩), none, .mv (.t ⟨.d0, .d2, .d7⟩)⟩]))))))))
 (.ops [⟨(some ⟨.d0, .d1, .d0⟩), none, .mv (.t ⟨.d0, .d0, .d3⟩)⟩,
  ⟨(some ⟨.d0, .d1, .d1⟩), none, .bin .add (.t ⟨.d0, .d1, .d0⟩) (.c (.int .i64 (.ofNat 1)))⟩,
  ⟨(some ⟨.d0, .d0, .d3⟩), none, .mv (.t ⟨.d0, .d1, .d1⟩)⟩]))))))
 (.seq (.ops [⟨(some ⟨.d0, .d0, .d2⟩), none, .mv (.c (.str []))⟩])
 .ret)))
 [.tmp ⟨.d0, .d0, .d2⟩]
/-- umlaut/ints.Text -/
def e95 : Ent := .code [⟨.d0, .d0, .d0⟩]
 (.seq (.ops [⟨(some ⟨.d0, .d0, .d2⟩), none, .mv (.c (.str []))⟩])
 (.seq (.ops [⟨(some ⟨.d0, .d0, .d3⟩), none, .mv (.t ⟨.d0, .d0, .d0⟩)⟩,
  ⟨(some ⟨.d0, .d0, .d4⟩), none, .callF ⟨.d1, .d6, .d2⟩ [(.t ⟨.d0, .d0, .d3⟩), (.c (.int .i64 (.ofNat 10)))]⟩,
  ⟨(some ⟨.d0, .d0, .d2⟩), none, .mv (.t ⟨.d0, .d0, .d4⟩)⟩])
 .ret))
 [.tmp ⟨.d0, .d0, .d2⟩]
/-- internal/stringslite.HasPrefix -/
def e101 : Ent := .code [⟨.d0, .d0, .d0⟩, ⟨.d0, .d0, .d1⟩]
 (.seq (.ops [⟨(some ⟨.d0, .d0, .d4⟩), none, .mv (.c (.bool false))⟩])
 (.seq (.ops [⟨(some ⟨.d0, .d0, .d5⟩), none, .mv (.t ⟨.d0, .d0, .d0⟩)⟩,
  ⟨(some ⟨.d0, .d0, .d6⟩), none, .len .str (.t ⟨.d0, .d0, .d5⟩)⟩,
  ⟨(some ⟨.d0, .d0, .d7⟩), none, .mv (.t ⟨.d0, .d0, .d1⟩)⟩,
  ⟨(some ⟨.d0, .d1, .d0⟩), none, .len .str (.t ⟨.d0, .d0, .d7⟩)⟩,
  ⟨(some ⟨.d0, .d1, .d1⟩), none, .bin .geq (.t ⟨.d0, .d0, .d6⟩) (.t ⟨.d0, .d1, .d0⟩)⟩,
  ⟨(some ⟨.d0, .d1, .d2⟩), none, .mv (.t ⟨.d0, .d1, .d1⟩)⟩,
  ⟨(some ⟨.d0, .d1, .d3⟩), (some (⟨.d0, .d1, .d2⟩, true)), .mv (.t ⟨.d0, .d0, .d0⟩)⟩,
  ⟨(some ⟨.d0, .d1, .d4⟩), (some (⟨.d0, .d1, .d2⟩, true)), .mv (.t ⟨.d0, .d0, .d1⟩)⟩,
  ⟨(some ⟨.d0, .d1, .d5⟩), (some (⟨.d0, .d1, .d2⟩, true)), .len .str (.t ⟨.d0, .d1, .d4⟩)⟩,
  ⟨(some ⟨.d0, .d1, .d6⟩), (some (⟨.d0, .d1, .d2⟩, true)), .sliS (.t ⟨.d0, .d1, .d3⟩) none (some (.t ⟨.d0, .d1, .d5⟩))⟩,
  ⟨(some ⟨.d0, .d1, .d7⟩), (some (⟨.d0, .d1, .d2⟩, true)), .mv (.t ⟨.d0, .d0, .d1⟩)⟩,
  ⟨(some ⟨.d0, .d2, .d0⟩), (some (⟨.d0, .d1, .d2⟩, true)), .bin .eql (.t ⟨.d0, .d1, .d6⟩) (.t ⟨.d0, .d1, .d7⟩)⟩,
  ⟨(some ⟨.d0, .d2, .d1⟩), none, .pick (.t ⟨.d0, .d1, .d2⟩) (.t ⟨.d0, .d2, .d0⟩) (.c (.bool false))⟩,
  ⟨(some ⟨.d0, .d0, .d4⟩), none, .mv (.t ⟨.d0, .d2, .d1⟩)⟩])
 .ret))
 [.tmp ⟨.d0, .d0, .d4⟩]
/-- umlaut/lex.name$1 -/
def e102 : Ent := .code [⟨.d0, .d0, .d0⟩]
 (.seq (.ops [⟨(some ⟨.d0, .d0, .d2⟩), none, .mv (.c (.bool false))⟩])
 (.seq (.ops [⟨(some ⟨.d0, .d0, .d3⟩), none, .mv (.t ⟨.d0, .d0, .d0⟩)⟩,
  ⟨(some ⟨.d0, .d0, .d4⟩), none, .callF ⟨.d0, .d7, .d5⟩ [(.t ⟨.d0, .d0, .d3⟩)]⟩,
  ⟨(some ⟨.d0, .d0, .d5⟩), none, .mv (.t ⟨.d0, .d0, .d4⟩)⟩,
  ⟨(some ⟨.d0, .d0, .d6⟩), (some (⟨.d0, .d0, .d5⟩, false)), .mv (.t ⟨.d0, .d0, .d0⟩)⟩,
  ⟨(some ⟨.d0, .d0, .d7⟩), (some (⟨.d0, .d0, .d5⟩, false)), .callF ⟨.d0, .d7, .d7⟩ [(.t ⟨.d0, .d0, .d6⟩)]⟩,
  ⟨(some ⟨.d0, .d1, .d0⟩), none, .pick (.t ⟨.d0, .d0, .d5⟩) (.c (.bool true)) (.t ⟨.d0, .d0, .d7⟩)⟩,
  ⟨(some ⟨.d0, .d0, .d2⟩), none, .mv (.t ⟨.d0, .d1, .d0⟩)⟩])
 .ret))
 [.tmp ⟨.d0, .d0, .d2⟩]
/-- (*umlaut/parse.parser).in$1 -/
def e108 : Ent := .code [⟨.d0, .d0, .d0⟩, ⟨.d0, .d0, .d1⟩, ⟨.d0, .d0, .d2⟩]
 (.seq (.ops [⟨(some ⟨.d0, .d0, .d3⟩), none, .box none (.c (.agg [(.int .i64 (.ofNat 0)), (.int .i64 (.ofNat 0)), (.str []), (.str []), (.int .i64 (.ofNat 0)), .nils]))⟩])
 (.seq (.ops [⟨(some ⟨.d0, .d0, .d5⟩), none, .load none (.t ⟨.d0, .d0, .d0⟩)⟩,
  ⟨(some ⟨.d0, .d0, .d6⟩), none, .nilck (.t ⟨.d0, .d0, .d5⟩)⟩,
  ⟨(some ⟨.d0, .d0, .d7⟩), none, .fieldA 1 (.t ⟨.d0, .d0, .d6⟩)⟩,
  ⟨(some ⟨.d0, .d1, .d0⟩), none, .load none (.t ⟨.d0, .d0, .d7⟩)⟩,
  ⟨(some ⟨.d0, .d1, .d1⟩), none, .bin .add (.t ⟨.d0, .d1, .d0⟩) (.c (.int .i64 (.ofNat 1)))⟩,
  ⟨(some ⟨.d0, .d1, .d2⟩), none, .nilck (.t ⟨.d0, .d0, .d5⟩)⟩,
  ⟨(some ⟨.d0, .d1, .d3⟩), none, .fieldA 1 (.t ⟨.d0, .d1, .d2⟩)⟩,
  ⟨none, none, .store 1 (.t ⟨.d0, .d1, .d3⟩) (.t ⟨.d0, .d1, .d1⟩)⟩])
 (.seq (.reg 2 [(0, [4, 6, 7]), (1, [4])] [⟨(some ⟨.d0, .d1, .d4⟩), none, .load none (.t ⟨.d0, .d0, .d1⟩)⟩,
  ⟨(some ⟨.d0, .d1, .d5⟩), none, .load (some 6) (.t ⟨.d0, .d0, .d2⟩)⟩,
  ⟨(some ⟨.d0, .d1, .d6⟩), none, .load none (.t ⟨.d0, .d0, .d0⟩)⟩,
  ⟨(some ⟨.d0, .d1, .d7⟩), none, .callF ⟨.d0, .d1, .d1⟩ [(.t ⟨.d0, .d1, .d6⟩), (.c (.int .i64 (.ofNat 1)))]⟩,
  ⟨(some ⟨.d0, .d2, .d0⟩), none, .buildS (some 0) 6 2 [(.int .i64 (.ofNat 0)), (.int .i64 (.ofNat 0)), (.str []), (.str []), (.int .i64 (.ofNat 0)), .nils, (.int .i64 (.ofNat 0)), (.int .i64 (.ofNat 0)), (.str []), (.str []), (.int .i64 (.ofNat 0)), .nils] [(0, 6, (.t ⟨.d0, .d1, .d5⟩)), (6, 6, (.t ⟨.d0, .d1, .d7⟩))]⟩,
  ⟨(some ⟨.d0, .d2, .d1⟩), none, .build [(.int .i64 (.ofNat 0)), (.int .i64 (.ofNat 0)), (.str []), (.str []), (.int .i64 (.ofNat 0)), .nils] [(0, 1, (.c (.int .i64 (.ofNat 9)))), (4, 1, (.t ⟨.d0, .d1, .d4⟩)), (5, 1, (.t ⟨.d0, .d2, .d0⟩))]⟩,
  ⟨(some ⟨.d0, .d0, .d4⟩), none, .box (some 1) (.c (.agg [(.int .i64 (.ofNat 0)), (.int .i64 (.ofNat 0)), (.str []), (.str []), (.int .i64 (.ofNat 0)), .nils]))⟩,
  ⟨none, none, .store 6 (.t ⟨.d0, .d0, .d4⟩) (.t ⟨.d0, .d2, .d1⟩)⟩])
 (.seq (.block 0 (.loop (.seq (.seq (.ops [⟨(some ⟨.d0, .d2, .d2⟩), none, .load none (.t ⟨.d0, .d0, .d0⟩)⟩,
  ⟨(some ⟨.d0, .d2, .d3⟩), none, .callF ⟨.d0, .d2, .d5⟩ [(.t ⟨.d0, .d2, .d2⟩), (.c (.str [44]))]⟩])
 (.cond (.t ⟨.d0, .d2, .d3⟩) .skip (.exit 0)))
 (.block 1 (.reg 1 [(1, [4, 5])] [⟨(some ⟨.d0, .d2, .d4⟩), none, .fieldA 5 (.t ⟨.d0, .d0, .d4⟩)⟩,
  ⟨(some ⟨.d0, .d2, .d5⟩), none, .load none (.t ⟨.d0, .d2, .d4⟩)⟩,
  ⟨(some ⟨.d0, .d2, .d6⟩), none, .load none (.t ⟨.d0, .d0, .d0⟩)⟩,
  ⟨(some ⟨.d0, .d2, .d7⟩), none, .callF ⟨.d0, .d1, .d1⟩ [(.t ⟨.d0, .d2, .d6⟩), (.c (.int .i64 (.ofNat 1)))]⟩,
  ⟨(some ⟨.d0, .d3, .d0⟩), none, .buildS (some 0) 6 1 [(.int .i64 (.ofNat 0)), (.int .i64 (.ofNat 0)), (.str []), (.str []), (.int .i64 (.ofNat 0)), .nils] [(0, 6, (.t ⟨.d0, .d2, .d7⟩))]⟩,
  ⟨(some ⟨.d0, .d3, .d1⟩), none, .app 6 80 (.t ⟨.d0, .d2, .d5⟩) (.t ⟨.d0, .d3, .d0⟩)⟩,
  ⟨(some ⟨.d0, .d3, .d2⟩), none, .fieldA 5 (.t ⟨.d0, .d0, .d4⟩)⟩,
  ⟨none, none, .store 1 (.t ⟨.d0, .d3, .d2⟩) (.t ⟨.d0, .d3, .d1⟩)⟩])))))
 (.seq (.ops [⟨(some ⟨.d0, .d3, .d3⟩), none, .load none (.t ⟨.d0, .d0, .d0⟩)⟩,
  ⟨(some ⟨.d0, .d3, .d4⟩), none, .callF ⟨.d1, .d1, .d3⟩ [(.t ⟨.d0, .d3, .d3⟩), (.c (.str [41]))]⟩])
 (.seq (.ops [⟨(some ⟨.d0, .d3, .d5⟩), none, .load (some 6) (.t ⟨.d0, .d0, .d4⟩)⟩,
  ⟨none, none, .store 6 (.t ⟨.d0, .d0, .d3⟩) (.t ⟨.d0, .d3, .d5⟩)⟩])
 .ret))))))
 [.cell (some 6) ⟨.d0, .d0, .d3⟩]
/-- (*umlaut/parse.parser).kind -/
def e109 : Ent := .code [⟨.d0, .d0, .d0⟩]
 (.seq (.ops [⟨(some ⟨.d0, .d0, .d2⟩), none, .mv (.c (.int .i64 (.ofNat 0)))⟩])
 (.seq (.block 0 (.seq (.ops [⟨(some ⟨.d0, .d0, .d4⟩), none, .mv (.t ⟨.d0, .d0, .d0⟩)⟩,
  ⟨(some ⟨.d0, .d0, .d5⟩), none, .callF ⟨.d0, .d4, .d7⟩ [(.t ⟨.d0, .d0, .d4⟩), (.c (.str [66, 79, 79, 76]))]⟩,
  ⟨(some ⟨.d0, .d0, .d3⟩), none, .mv (.t ⟨.d0, .d0, .d5⟩)⟩])
 (.cond (.t ⟨.d0, .d0, .d3⟩) (.seq (.ops [⟨(some ⟨.d0, .d0, .d2⟩), none, .mv (.c (.int .i64 (.ofNat 1)))⟩])
 .ret) (.seq (.ops [⟨(some ⟨.d0, .d0, .d7⟩), none, .mv (.t ⟨.d0, .d0, .d0⟩)⟩,
  ⟨(some ⟨.d0, .d1, .d0⟩), none, .callF ⟨.d0, .d4, .d7⟩ [(.t ⟨.d0, .d0, .d7⟩), (.c (.str [73, 78, 84]))]⟩,
  ⟨(some ⟨.d0, .d0, .d6⟩), none, .mv (.t ⟨.d0, .d1, .d0⟩)⟩])
 (.cond (.t ⟨.d0, .d0, .d6⟩) (.seq (.ops [⟨(some ⟨.d0, .d0, .d2⟩), none, .mv (.c (.int .i64 (.ofNat 2)))⟩])
 .ret) (.seq (.ops [⟨(some ⟨.d0, .d1, .d2⟩), none, .mv (.t ⟨.d0, .d0, .d0⟩)⟩,
  ⟨(some ⟨.d0, .d1, .d3⟩), none, .callF ⟨.d0, .d4, .d7⟩ [(.t ⟨.d0, .d1, .d2⟩), (.c (.str [84, 69, 88, 84]))]⟩,
  ⟨(some ⟨.d0, .d1, .d1⟩), none, .mv (.t ⟨.d0, .d1, .d3⟩)⟩])
 (.cond (.t ⟨.d0, .d1, .d1⟩) (.seq (.ops [⟨(some ⟨.d0, .d0, .d2⟩), none, .mv (.c (.int .i64 (.ofNat 3)))⟩])
 .ret) .skip)))))))
 (.seq (.ops [⟨(some ⟨.d0, .d1, .d4⟩), none, .mv (.t ⟨.d0, .d0, .d0⟩)⟩,
  ⟨(some ⟨.d0, .d1, .d5⟩), none, .callF ⟨.d0, .d2, .d3⟩ [(.t ⟨.d0, .d1, .d4⟩), (.c (.int .i64 (.ofNat 10)))]⟩])
 (.seq (.ops [⟨(some ⟨.d0, .d0, .d2⟩), none, .mv (.c (.int .i64 (.ofNat 0)))⟩])
 .ret))))
 [.tmp ⟨.d0, .d0, .d2⟩]
/-- umlaut/parse.aggregate -/
def e110 : Ent := .code [⟨.d0, .d0, .d0⟩]
 (.seq (.ops [⟨(some ⟨.d0, .d0, .d2⟩), none, .mv (.c (.bool false))⟩])
 (.seq (.ops [⟨(some ⟨.d0, .d0, .d3⟩), none, .mv (.t ⟨.d0, .d0, .d0⟩)⟩,
  ⟨(some ⟨.d0, .d0, .d4⟩), none, .bin .eql (.t ⟨.d0, .d0, .d3⟩) (.c (.str [99, 111, 117, 110, 116]))⟩,
  ⟨(some ⟨.d0, .d0, .d5⟩), none, .mv (.t ⟨.d0, .d0, .d4⟩)⟩,
  ⟨(some ⟨.d0, .d0, .d6⟩), (some (⟨.d0, .d0, .d5⟩, false)), .mv (.t ⟨.d0, .d0, .d0⟩)⟩,
  ⟨(some ⟨.d0, .d0, .d7⟩), (some (⟨.d0, .d0, .d5⟩, false)), .bin .eql (.t ⟨.d0, .d0, .d6⟩) (.c (.str [115, 117, 109]))⟩,
  ⟨(some ⟨.d0, .d1, .d0⟩), none, .pick (.t ⟨.d0, .d0, .d5⟩) (.c (.bool true)) (.t ⟨.d0, .d0, .d7⟩)⟩,
  ⟨(some ⟨.d0, .d1, .d1⟩), none, .mv (.t ⟨.d0, .d1, .d0⟩)⟩,
  ⟨(some ⟨.d0, .d1, .d2⟩), (some (⟨.d0, .d1, .d1⟩, false)), .mv (.t ⟨.d0, .d0, .d0⟩)⟩,
  ⟨(some ⟨.d0, .d1, .d3⟩), (some (⟨.d0, .d1, .d1⟩, false)), .bin .eql (.t ⟨.d0, .d1, .d2⟩) (.c (.str [109, 105, 110]))⟩,
  ⟨(some ⟨.d0, .d1, .d4⟩), none, .pick (.t ⟨.d0, .d1, .d1⟩) (.c (.bool true)) (.t ⟨.d0, .d1, .d3⟩)⟩,
  ⟨(some ⟨.d0, .d1, .d5⟩), none, .mv (.t ⟨.d0, .d1, .d4⟩)⟩,
  ⟨(some ⟨.d0, .d1, .d6⟩), (some (⟨.d0, .d1, .d5⟩, false)), .mv (.t ⟨.d0, .d0, .d0⟩)⟩,
  ⟨(some ⟨.d0, .d1, .d7⟩), (some (⟨.d0, .d1, .d5⟩, false)), .bin .eql (.t ⟨.d0, .d1, .d6⟩) (.c (.str [109, 97, 120]))⟩,
  ⟨(some ⟨.d0, .d2, .d0⟩), none, .pick (.t ⟨.d0, .d1, .d5⟩) (.c (.bool true)) (.t ⟨.d0, .d1, .d7⟩)⟩,
  ⟨(some ⟨.d0, .d0, .d2⟩), none, .mv (.t ⟨.d0, .d2, .d0⟩)⟩])
 .ret))
 [.tmp ⟨.d0, .d0, .d2⟩]
def FT : F3 Ent := ⟨⟨⟨.none, .none, .none, e3, e4, e5, e6, e7⟩, ⟨e8, e9, e10, e11, e12, e13, e14, (.law (lawG gJn))⟩, ⟨e16, e17, e18, e19, e20, e21, e22, e23⟩, ⟨e24, e25, e26, .none, .none, .none, e30, e31⟩, ⟨e32, e33, e34, e35, e36, e37, e38, e39⟩, ⟨.none, e41, .none, .none, .none, e45, .none, e47⟩, ⟨e48, e49, e50, e51, .none, .none, e54, .none⟩, ⟨.none, (.law (lawG gIB)), e58, e59, e60, e61, e62, e63⟩⟩,
 ⟨⟨e64, e65, e66, e67, e68, e69, e70, e71⟩, ⟨e72, e73, e74, e75, e76, e77, e78, e79⟩, ⟨e80, .none, .none, e83, .none, .none, .none, .none⟩, ⟨.none, .none, .none, e91, .none, .none, .none, e95⟩, ⟨.none, .none, .none, .none, .none, e101, e102, (.law (lawG (gMap upN)))⟩, ⟨(.law (lawG gCt)), (.law (lawG (gMap loN))), (.law (lawG gPI)), .none, e108, e109, e110, .none⟩, ⟨.none, .none, (.law (lawG gFI)), .none, .none, .none, .none, .none⟩, (N8.rep .none)⟩,
 (N8.rep (N8.rep .none)),
 (N8.rep (N8.rep .none)),
 (N8.rep (N8.rep .none)),
 (N8.rep (N8.rep .none)),
 (N8.rep (N8.rep .none)),
 (N8.rep (N8.rep .none))⟩
def gAw (args : List AV) (_ : H) : Option AV := match args with | [] => some (.bool true) | _ => none
def FA0 : F3 Ent := ⟨⟨⟨.none, .none, .none, e3, e4, e5, (.law (lawG gAw)), e7⟩, ⟨e8, e9, e10, e11, e12, e13, e14, (.law (lawG gJn))⟩, ⟨e16, e17, e18, e19, e20, e21, e22, e23⟩, ⟨e24, e25, e26, .none, .none, .none, e30, e31⟩, ⟨e32, e33, e34, e35, e36, e37, e38, e39⟩, ⟨.none, e41, .none, .none, .none, e45, .none, e47⟩, ⟨e48, e49, e50, e51, .none, .none, e54, .none⟩, ⟨.none, (.law (lawG gIB)), e58, e59, e60, e61, e62, e63⟩⟩,
 ⟨⟨e64, e65, e66, e67, e68, e69, e70, e71⟩, ⟨e72, e73, e74, e75, e76, e77, e78, e79⟩, ⟨e80, .none, .none, e83, .none, .none, .none, .none⟩, ⟨.none, .none, .none, e91, .none, .none, .none, e95⟩, ⟨.none, .none, .none, .none, .none, e101, e102, (.law (lawG (gMap upN)))⟩, ⟨(.law (lawG gCt)), (.law (lawG (gMap loN))), (.law (lawG gPI)), .none, e108, e109, e110, .none⟩, ⟨.none, .none, (.law (lawG gFI)), .none, .none, .none, .none, .none⟩, (N8.rep .none)⟩,
 (N8.rep (N8.rep .none)),
 (N8.rep (N8.rep .none)),
 (N8.rep (N8.rep .none)),
 (N8.rep (N8.rep .none)),
 (N8.rep (N8.rep .none)),
 (N8.rep (N8.rep .none))⟩
end
end Go.Dk.Run
