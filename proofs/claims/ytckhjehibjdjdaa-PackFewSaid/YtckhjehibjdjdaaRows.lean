/-
  No cell of these rows narrows 'for every input' (looked for: loops, veiled, ifaces, maps, wideKeys, modest, calm, conditions, laid).
  DERIVED. THE GIVEN ROWS OF THIS SEAT. 22 by the template 'for every input the law returns true; each argument reads behind the call as it read before'; 0 by the template 'total and deterministic' (their statements: YtckhjehibjdjdaaTotals.lean).
  GIVEN WITH THE SEED: the statements are not yours to turn. If you find one false, say at which input.
  Laid BY PROGRAM, IN A SANDBOX (cutbox-rows.mjs): the forced cells as the released guide's own fill.sh prints them over the translation 903601f4f4617b89… (all of the seat's roots in one cut). By AI agents, Wed Nov 11 2026. No macro, syntax, notation, axiom, sorry.
-/
import Derived.Test.YtckhjehibjdjdaaChecked
import GoSem.Claim
import GoSem.ClaimJoined
import GoSem.ClaimMapViews
import Derived.JoinedTies
import Derived.KernelRfl
namespace Go.Proofs.Ytckhjehibjdjdaa
/- THE CELL 'sum', in the pinned program and in every row, IS THE sha256 OF THE DUMP (.gsa) THAT YtckhjehibjdjdaaProg.lean LOADS. Nothing in Lean hashes anything: it is a label: what it is worth is what the hold of that sum in a sandbox is worth. -/
noncomputable def Try.pinned : Pinned := { name := "ytckhjehibjdjdaa", sum := "903601f4f4617b897aa298afd8ea609b6801ae8fb732dcf0bd58fec123648d5d", checked := Try.checked }
namespace Rows
def none {H : Type} : Left H := { results := [], args := [] }

/-- 'ensemblelaw12.PromiseTells': WHATEVER THE INPUT: true; the input reads as it did. -/
def promiseTellsSpec : ChangeSpec := { name := "promiseTells", fn := fun _ => fun
  | [d1, d2, d3, d4, d5] => { results := [.lit (.bool true)], args := [d1, d2, d3, d4, d5] }
  | _ => none }
def promiseTellsRow : OpenClaim := { program := "ytckhjehibjdjdaa", sum := "903601f4f4617b897aa298afd8ea609b6801ae8fb732dcf0bd58fec123648d5d", func := "ensemble/ensemblelaw12.PromiseTells", spec := "promiseTells", unfollowed := true, recurses := true, plainKeys := false, apart := false }
def PromiseTellsSaid : Prop := promiseTellsRow.holds Try.pinned (OpenSpec.ofChange promiseTellsSpec)

/-- ITS FALSE NEIGHBOUR: 'it returns false'. Refute it at one input. -/
def promiseTellsWrong : ChangeSpec := { name := "promiseTells", fn := fun _ => fun
  | [d1, d2, d3, d4, d5] => { results := [.lit (.bool false)], args := [d1, d2, d3, d4, d5] }
  | _ => none }
def PromiseTellsWrongFalsely : Prop := promiseTellsRow.holds Try.pinned (OpenSpec.ofChange promiseTellsWrong)

/-- 'ensemblelaw12.PromiseKeeps': WHATEVER THE INPUT: true; the input reads as it did. -/
def promiseKeepsSpec : ChangeSpec := { name := "promiseKeeps", fn := fun _ => fun
  | [d1, d2, d3, d4, d5] => { results := [.lit (.bool true)], args := [d1, d2, d3, d4, d5] }
  | _ => none }
def promiseKeepsRow : OpenClaim := { program := "ytckhjehibjdjdaa", sum := "903601f4f4617b897aa298afd8ea609b6801ae8fb732dcf0bd58fec123648d5d", func := "ensemble/ensemblelaw12.PromiseKeeps", spec := "promiseKeeps", unfollowed := true, recurses := true, plainKeys := false, apart := false }
def PromiseKeepsSaid : Prop := promiseKeepsRow.holds Try.pinned (OpenSpec.ofChange promiseKeepsSpec)

/-- ITS FALSE NEIGHBOUR: 'it returns false'. Refute it at one input. -/
def promiseKeepsWrong : ChangeSpec := { name := "promiseKeeps", fn := fun _ => fun
  | [d1, d2, d3, d4, d5] => { results := [.lit (.bool false)], args := [d1, d2, d3, d4, d5] }
  | _ => none }
def PromiseKeepsWrongFalsely : Prop := promiseKeepsRow.holds Try.pinned (OpenSpec.ofChange promiseKeepsWrong)

/-- 'ensemblelaw12.PromiseLess': WHATEVER THE INPUT: true; the input reads as it did. -/
def promiseLessSpec : ChangeSpec := { name := "promiseLess", fn := fun _ => fun
  | [d1, d2, d3, d4, d5, d6, d7] => { results := [.lit (.bool true)], args := [d1, d2, d3, d4, d5, d6, d7] }
  | _ => none }
def promiseLessRow : OpenClaim := { program := "ytckhjehibjdjdaa", sum := "903601f4f4617b897aa298afd8ea609b6801ae8fb732dcf0bd58fec123648d5d", func := "ensemble/ensemblelaw12.PromiseLess", spec := "promiseLess", unfollowed := true, recurses := true, plainKeys := false, apart := false }
def PromiseLessSaid : Prop := promiseLessRow.holds Try.pinned (OpenSpec.ofChange promiseLessSpec)

/-- ITS FALSE NEIGHBOUR: 'it returns false'. Refute it at one input. -/
def promiseLessWrong : ChangeSpec := { name := "promiseLess", fn := fun _ => fun
  | [d1, d2, d3, d4, d5, d6, d7] => { results := [.lit (.bool false)], args := [d1, d2, d3, d4, d5, d6, d7] }
  | _ => none }
def PromiseLessWrongFalsely : Prop := promiseLessRow.holds Try.pinned (OpenSpec.ofChange promiseLessWrong)

/-- 'ensemblelaw12.PromiseOnly': WHATEVER THE INPUT: true; the input reads as it did. -/
def promiseOnlySpec : ChangeSpec := { name := "promiseOnly", fn := fun _ => fun
  | [d1, d2, d3, d4, d5] => { results := [.lit (.bool true)], args := [d1, d2, d3, d4, d5] }
  | _ => none }
def promiseOnlyRow : OpenClaim := { program := "ytckhjehibjdjdaa", sum := "903601f4f4617b897aa298afd8ea609b6801ae8fb732dcf0bd58fec123648d5d", func := "ensemble/ensemblelaw12.PromiseOnly", spec := "promiseOnly", unfollowed := true, recurses := true, plainKeys := false, apart := false }
def PromiseOnlySaid : Prop := promiseOnlyRow.holds Try.pinned (OpenSpec.ofChange promiseOnlySpec)

/-- ITS FALSE NEIGHBOUR: 'it returns false'. Refute it at one input. -/
def promiseOnlyWrong : ChangeSpec := { name := "promiseOnly", fn := fun _ => fun
  | [d1, d2, d3, d4, d5] => { results := [.lit (.bool false)], args := [d1, d2, d3, d4, d5] }
  | _ => none }
def PromiseOnlyWrongFalsely : Prop := promiseOnlyRow.holds Try.pinned (OpenSpec.ofChange promiseOnlyWrong)

/-- 'ensemblelaw12.PromiseRoom': WHATEVER THE INPUT: true; the input reads as it did. -/
def promiseRoomSpec : ChangeSpec := { name := "promiseRoom", fn := fun _ => fun
  | [d1, d2, d3, d4] => { results := [.lit (.bool true)], args := [d1, d2, d3, d4] }
  | _ => none }
def promiseRoomRow : OpenClaim := { program := "ytckhjehibjdjdaa", sum := "903601f4f4617b897aa298afd8ea609b6801ae8fb732dcf0bd58fec123648d5d", func := "ensemble/ensemblelaw12.PromiseRoom", spec := "promiseRoom", unfollowed := true, recurses := true, plainKeys := false, apart := false }
def PromiseRoomSaid : Prop := promiseRoomRow.holds Try.pinned (OpenSpec.ofChange promiseRoomSpec)

/-- ITS FALSE NEIGHBOUR: 'it returns false'. Refute it at one input. -/
def promiseRoomWrong : ChangeSpec := { name := "promiseRoom", fn := fun _ => fun
  | [d1, d2, d3, d4] => { results := [.lit (.bool false)], args := [d1, d2, d3, d4] }
  | _ => none }
def PromiseRoomWrongFalsely : Prop := promiseRoomRow.holds Try.pinned (OpenSpec.ofChange promiseRoomWrong)

/-- 'ensemblelaw13.FillTells': WHATEVER THE INPUT: true; the input reads as it did. -/
def fillTellsSpec : ChangeSpec := { name := "fillTells", fn := fun _ => fun
  | [d1, d2, d3, d4, d5, d6, d7] => { results := [.lit (.bool true)], args := [d1, d2, d3, d4, d5, d6, d7] }
  | _ => none }
def fillTellsRow : OpenClaim := { program := "ytckhjehibjdjdaa", sum := "903601f4f4617b897aa298afd8ea609b6801ae8fb732dcf0bd58fec123648d5d", func := "ensemble/ensemblelaw13.FillTells", spec := "fillTells", unfollowed := true, recurses := true, plainKeys := false, apart := false }
def FillTellsSaid : Prop := fillTellsRow.holds Try.pinned (OpenSpec.ofChange fillTellsSpec)

/-- ITS FALSE NEIGHBOUR: 'it returns false'. Refute it at one input. -/
def fillTellsWrong : ChangeSpec := { name := "fillTells", fn := fun _ => fun
  | [d1, d2, d3, d4, d5, d6, d7] => { results := [.lit (.bool false)], args := [d1, d2, d3, d4, d5, d6, d7] }
  | _ => none }
def FillTellsWrongFalsely : Prop := fillTellsRow.holds Try.pinned (OpenSpec.ofChange fillTellsWrong)

/-- 'ensemblelaw13.FillLate': WHATEVER THE INPUT: true; the input reads as it did. -/
def fillLateSpec : ChangeSpec := { name := "fillLate", fn := fun _ => fun
  | [d1, d2, d3, d4, d5, d6, d7, d8] => { results := [.lit (.bool true)], args := [d1, d2, d3, d4, d5, d6, d7, d8] }
  | _ => none }
def fillLateRow : OpenClaim := { program := "ytckhjehibjdjdaa", sum := "903601f4f4617b897aa298afd8ea609b6801ae8fb732dcf0bd58fec123648d5d", func := "ensemble/ensemblelaw13.FillLate", spec := "fillLate", unfollowed := true, recurses := true, plainKeys := false, apart := false }
def FillLateSaid : Prop := fillLateRow.holds Try.pinned (OpenSpec.ofChange fillLateSpec)

/-- ITS FALSE NEIGHBOUR: 'it returns false'. Refute it at one input. -/
def fillLateWrong : ChangeSpec := { name := "fillLate", fn := fun _ => fun
  | [d1, d2, d3, d4, d5, d6, d7, d8] => { results := [.lit (.bool false)], args := [d1, d2, d3, d4, d5, d6, d7, d8] }
  | _ => none }
def FillLateWrongFalsely : Prop := fillLateRow.holds Try.pinned (OpenSpec.ofChange fillLateWrong)

/-- 'ensemblelaw13.FillNone': WHATEVER THE INPUT: true; the input reads as it did. -/
def fillNoneSpec : ChangeSpec := { name := "fillNone", fn := fun _ => fun
  | [d1, d2, d3, d4, d5, d6, d7] => { results := [.lit (.bool true)], args := [d1, d2, d3, d4, d5, d6, d7] }
  | _ => none }
def fillNoneRow : OpenClaim := { program := "ytckhjehibjdjdaa", sum := "903601f4f4617b897aa298afd8ea609b6801ae8fb732dcf0bd58fec123648d5d", func := "ensemble/ensemblelaw13.FillNone", spec := "fillNone", unfollowed := true, recurses := true, plainKeys := false, apart := false }
def FillNoneSaid : Prop := fillNoneRow.holds Try.pinned (OpenSpec.ofChange fillNoneSpec)

/-- ITS FALSE NEIGHBOUR: 'it returns false'. Refute it at one input. -/
def fillNoneWrong : ChangeSpec := { name := "fillNone", fn := fun _ => fun
  | [d1, d2, d3, d4, d5, d6, d7] => { results := [.lit (.bool false)], args := [d1, d2, d3, d4, d5, d6, d7] }
  | _ => none }
def FillNoneWrongFalsely : Prop := fillNoneRow.holds Try.pinned (OpenSpec.ofChange fillNoneWrong)

/-- 'ensemblelaw13.FillMany': WHATEVER THE INPUT: true; the input reads as it did. -/
def fillManySpec : ChangeSpec := { name := "fillMany", fn := fun _ => fun
  | [d1, d2, d3, d4, d5, d6] => { results := [.lit (.bool true)], args := [d1, d2, d3, d4, d5, d6] }
  | _ => none }
def fillManyRow : OpenClaim := { program := "ytckhjehibjdjdaa", sum := "903601f4f4617b897aa298afd8ea609b6801ae8fb732dcf0bd58fec123648d5d", func := "ensemble/ensemblelaw13.FillMany", spec := "fillMany", unfollowed := true, recurses := true, plainKeys := false, apart := false }
def FillManySaid : Prop := fillManyRow.holds Try.pinned (OpenSpec.ofChange fillManySpec)

/-- ITS FALSE NEIGHBOUR: 'it returns false'. Refute it at one input. -/
def fillManyWrong : ChangeSpec := { name := "fillMany", fn := fun _ => fun
  | [d1, d2, d3, d4, d5, d6] => { results := [.lit (.bool false)], args := [d1, d2, d3, d4, d5, d6] }
  | _ => none }
def FillManyWrongFalsely : Prop := fillManyRow.holds Try.pinned (OpenSpec.ofChange fillManyWrong)

/-- 'ensemblelaw13.FillPast': WHATEVER THE INPUT: true; the input reads as it did. -/
def fillPastSpec : ChangeSpec := { name := "fillPast", fn := fun _ => fun
  | [d1, d2, d3, d4, d5, d6, d7] => { results := [.lit (.bool true)], args := [d1, d2, d3, d4, d5, d6, d7] }
  | _ => none }
def fillPastRow : OpenClaim := { program := "ytckhjehibjdjdaa", sum := "903601f4f4617b897aa298afd8ea609b6801ae8fb732dcf0bd58fec123648d5d", func := "ensemble/ensemblelaw13.FillPast", spec := "fillPast", unfollowed := true, recurses := true, plainKeys := false, apart := false }
def FillPastSaid : Prop := fillPastRow.holds Try.pinned (OpenSpec.ofChange fillPastSpec)

/-- ITS FALSE NEIGHBOUR: 'it returns false'. Refute it at one input. -/
def fillPastWrong : ChangeSpec := { name := "fillPast", fn := fun _ => fun
  | [d1, d2, d3, d4, d5, d6, d7] => { results := [.lit (.bool false)], args := [d1, d2, d3, d4, d5, d6, d7] }
  | _ => none }
def FillPastWrongFalsely : Prop := fillPastRow.holds Try.pinned (OpenSpec.ofChange fillPastWrong)

/-- 'ensemblelaw05.PackFew': WHATEVER THE INPUT: true; the input reads as it did. -/
def packFewSpec : ChangeSpec := { name := "packFew", fn := fun _ => fun
  | [d1, d2, d3] => { results := [.lit (.bool true)], args := [d1, d2, d3] }
  | _ => none }
def packFewRow : OpenClaim := { program := "ytckhjehibjdjdaa", sum := "903601f4f4617b897aa298afd8ea609b6801ae8fb732dcf0bd58fec123648d5d", func := "ensemble/ensemblelaw05.PackFew", spec := "packFew", inPlace := ["internal/reflectlite.ValueOf", "internal/reflectlite.Swapper", "(internal/reflectlite.Value).Len"], unfollowed := true, recurses := true, plainKeys := false, apart := false }
def PackFewSaid : Prop := packFewRow.holds Try.pinned (OpenSpec.ofChange packFewSpec)

/-- ITS FALSE NEIGHBOUR: 'it returns false'. Refute it at one input. -/
def packFewWrong : ChangeSpec := { name := "packFew", fn := fun _ => fun
  | [d1, d2, d3] => { results := [.lit (.bool false)], args := [d1, d2, d3] }
  | _ => none }
def PackFewWrongFalsely : Prop := packFewRow.holds Try.pinned (OpenSpec.ofChange packFewWrong)

/-- 'ensemblelaw05.PackFront': WHATEVER THE INPUT: true; the input reads as it did. -/
def packFrontSpec : ChangeSpec := { name := "packFront", fn := fun _ => fun
  | [d1, d2, d3] => { results := [.lit (.bool true)], args := [d1, d2, d3] }
  | _ => none }
def packFrontRow : OpenClaim := { program := "ytckhjehibjdjdaa", sum := "903601f4f4617b897aa298afd8ea609b6801ae8fb732dcf0bd58fec123648d5d", func := "ensemble/ensemblelaw05.PackFront", spec := "packFront", inPlace := ["internal/reflectlite.ValueOf", "internal/reflectlite.Swapper", "(internal/reflectlite.Value).Len"], unfollowed := true, recurses := true, plainKeys := false, apart := false }
def PackFrontSaid : Prop := packFrontRow.holds Try.pinned (OpenSpec.ofChange packFrontSpec)

/-- ITS FALSE NEIGHBOUR: 'it returns false'. Refute it at one input. -/
def packFrontWrong : ChangeSpec := { name := "packFront", fn := fun _ => fun
  | [d1, d2, d3] => { results := [.lit (.bool false)], args := [d1, d2, d3] }
  | _ => none }
def PackFrontWrongFalsely : Prop := packFrontRow.holds Try.pinned (OpenSpec.ofChange packFrontWrong)

/-- 'ensemblelaw05.PackTells': WHATEVER THE INPUT: true; the input reads as it did. -/
def packTellsSpec : ChangeSpec := { name := "packTells", fn := fun _ => fun
  | [d1, d2, d3] => { results := [.lit (.bool true)], args := [d1, d2, d3] }
  | _ => none }
def packTellsRow : OpenClaim := { program := "ytckhjehibjdjdaa", sum := "903601f4f4617b897aa298afd8ea609b6801ae8fb732dcf0bd58fec123648d5d", func := "ensemble/ensemblelaw05.PackTells", spec := "packTells", inPlace := ["internal/reflectlite.ValueOf", "internal/reflectlite.Swapper", "(internal/reflectlite.Value).Len"], unfollowed := true, recurses := true, plainKeys := false, apart := false }
def PackTellsSaid : Prop := packTellsRow.holds Try.pinned (OpenSpec.ofChange packTellsSpec)

/-- ITS FALSE NEIGHBOUR: 'it returns false'. Refute it at one input. -/
def packTellsWrong : ChangeSpec := { name := "packTells", fn := fun _ => fun
  | [d1, d2, d3] => { results := [.lit (.bool false)], args := [d1, d2, d3] }
  | _ => none }
def PackTellsWrongFalsely : Prop := packTellsRow.holds Try.pinned (OpenSpec.ofChange packTellsWrong)

/-- 'ensemblelaw05.PackRooms': WHATEVER THE INPUT: true; the input reads as it did. -/
def packRoomsSpec : ChangeSpec := { name := "packRooms", fn := fun _ => fun
  | [d1, d2, d3] => { results := [.lit (.bool true)], args := [d1, d2, d3] }
  | _ => none }
def packRoomsRow : OpenClaim := { program := "ytckhjehibjdjdaa", sum := "903601f4f4617b897aa298afd8ea609b6801ae8fb732dcf0bd58fec123648d5d", func := "ensemble/ensemblelaw05.PackRooms", spec := "packRooms", inPlace := ["internal/reflectlite.ValueOf", "internal/reflectlite.Swapper", "(internal/reflectlite.Value).Len"], unfollowed := true, recurses := true, plainKeys := false, apart := false }
def PackRoomsSaid : Prop := packRoomsRow.holds Try.pinned (OpenSpec.ofChange packRoomsSpec)

/-- ITS FALSE NEIGHBOUR: 'it returns false'. Refute it at one input. -/
def packRoomsWrong : ChangeSpec := { name := "packRooms", fn := fun _ => fun
  | [d1, d2, d3] => { results := [.lit (.bool false)], args := [d1, d2, d3] }
  | _ => none }
def PackRoomsWrongFalsely : Prop := packRoomsRow.holds Try.pinned (OpenSpec.ofChange packRoomsWrong)

/-- 'ensemblelaw05.PackLeft': WHATEVER THE INPUT: true; the input reads as it did. -/
def packLeftSpec : ChangeSpec := { name := "packLeft", fn := fun _ => fun
  | [d1, d2, d3] => { results := [.lit (.bool true)], args := [d1, d2, d3] }
  | _ => none }
def packLeftRow : OpenClaim := { program := "ytckhjehibjdjdaa", sum := "903601f4f4617b897aa298afd8ea609b6801ae8fb732dcf0bd58fec123648d5d", func := "ensemble/ensemblelaw05.PackLeft", spec := "packLeft", inPlace := ["internal/reflectlite.ValueOf", "internal/reflectlite.Swapper", "(internal/reflectlite.Value).Len"], unfollowed := true, recurses := true, plainKeys := false, apart := false }
def PackLeftSaid : Prop := packLeftRow.holds Try.pinned (OpenSpec.ofChange packLeftSpec)

/-- ITS FALSE NEIGHBOUR: 'it returns false'. Refute it at one input. -/
def packLeftWrong : ChangeSpec := { name := "packLeft", fn := fun _ => fun
  | [d1, d2, d3] => { results := [.lit (.bool false)], args := [d1, d2, d3] }
  | _ => none }
def PackLeftWrongFalsely : Prop := packLeftRow.holds Try.pinned (OpenSpec.ofChange packLeftWrong)

/-- 'ensemblelaw05.PackMore': WHATEVER THE INPUT: true; the input reads as it did. -/
def packMoreSpec : ChangeSpec := { name := "packMore", fn := fun _ => fun
  | [d1, d2, d3, d4] => { results := [.lit (.bool true)], args := [d1, d2, d3, d4] }
  | _ => none }
def packMoreRow : OpenClaim := { program := "ytckhjehibjdjdaa", sum := "903601f4f4617b897aa298afd8ea609b6801ae8fb732dcf0bd58fec123648d5d", func := "ensemble/ensemblelaw05.PackMore", spec := "packMore", inPlace := ["internal/reflectlite.ValueOf", "internal/reflectlite.Swapper", "(internal/reflectlite.Value).Len"], unfollowed := true, recurses := true, plainKeys := false, apart := false }
def PackMoreSaid : Prop := packMoreRow.holds Try.pinned (OpenSpec.ofChange packMoreSpec)

/-- ITS FALSE NEIGHBOUR: 'it returns false'. Refute it at one input. -/
def packMoreWrong : ChangeSpec := { name := "packMore", fn := fun _ => fun
  | [d1, d2, d3, d4] => { results := [.lit (.bool false)], args := [d1, d2, d3, d4] }
  | _ => none }
def PackMoreWrongFalsely : Prop := packMoreRow.holds Try.pinned (OpenSpec.ofChange packMoreWrong)

/-- 'ensemblelaw05.PackWhole': WHATEVER THE INPUT: true; the input reads as it did. -/
def packWholeSpec : ChangeSpec := { name := "packWhole", fn := fun _ => fun
  | [d1, d2, d3] => { results := [.lit (.bool true)], args := [d1, d2, d3] }
  | _ => none }
def packWholeRow : OpenClaim := { program := "ytckhjehibjdjdaa", sum := "903601f4f4617b897aa298afd8ea609b6801ae8fb732dcf0bd58fec123648d5d", func := "ensemble/ensemblelaw05.PackWhole", spec := "packWhole", inPlace := ["internal/reflectlite.ValueOf", "internal/reflectlite.Swapper", "(internal/reflectlite.Value).Len"], unfollowed := true, recurses := true, plainKeys := false, apart := false }
def PackWholeSaid : Prop := packWholeRow.holds Try.pinned (OpenSpec.ofChange packWholeSpec)

/-- ITS FALSE NEIGHBOUR: 'it returns false'. Refute it at one input. -/
def packWholeWrong : ChangeSpec := { name := "packWhole", fn := fun _ => fun
  | [d1, d2, d3] => { results := [.lit (.bool false)], args := [d1, d2, d3] }
  | _ => none }
def PackWholeWrongFalsely : Prop := packWholeRow.holds Try.pinned (OpenSpec.ofChange packWholeWrong)

/-- 'ensemblelaw14.ElasticMost': WHATEVER THE INPUT: true; the input reads as it did. -/
def elasticMostSpec : ChangeSpec := { name := "elasticMost", fn := fun _ => fun
  | [d1, d2] => { results := [.lit (.bool true)], args := [d1, d2] }
  | _ => none }
def elasticMostRow : OpenClaim := { program := "ytckhjehibjdjdaa", sum := "903601f4f4617b897aa298afd8ea609b6801ae8fb732dcf0bd58fec123648d5d", func := "ensemble/ensemblelaw14.ElasticMost", spec := "elasticMost", inPlace := ["internal/reflectlite.ValueOf", "internal/reflectlite.Swapper", "(internal/reflectlite.Value).Len"], unfollowed := true, recurses := true, plainKeys := false, apart := false }
def ElasticMostSaid : Prop := elasticMostRow.holds Try.pinned (OpenSpec.ofChange elasticMostSpec)

/-- ITS FALSE NEIGHBOUR: 'it returns false'. Refute it at one input. -/
def elasticMostWrong : ChangeSpec := { name := "elasticMost", fn := fun _ => fun
  | [d1, d2] => { results := [.lit (.bool false)], args := [d1, d2] }
  | _ => none }
def ElasticMostWrongFalsely : Prop := elasticMostRow.holds Try.pinned (OpenSpec.ofChange elasticMostWrong)

/-- 'ensemblelaw14.ElasticMore': WHATEVER THE INPUT: true; the input reads as it did. -/
def elasticMoreSpec : ChangeSpec := { name := "elasticMore", fn := fun _ => fun
  | [d1, d2, d3, d4] => { results := [.lit (.bool true)], args := [d1, d2, d3, d4] }
  | _ => none }
def elasticMoreRow : OpenClaim := { program := "ytckhjehibjdjdaa", sum := "903601f4f4617b897aa298afd8ea609b6801ae8fb732dcf0bd58fec123648d5d", func := "ensemble/ensemblelaw14.ElasticMore", spec := "elasticMore", inPlace := ["internal/reflectlite.ValueOf", "internal/reflectlite.Swapper", "(internal/reflectlite.Value).Len"], unfollowed := true, recurses := true, plainKeys := false, apart := false }
def ElasticMoreSaid : Prop := elasticMoreRow.holds Try.pinned (OpenSpec.ofChange elasticMoreSpec)

/-- ITS FALSE NEIGHBOUR: 'it returns false'. Refute it at one input. -/
def elasticMoreWrong : ChangeSpec := { name := "elasticMore", fn := fun _ => fun
  | [d1, d2, d3, d4] => { results := [.lit (.bool false)], args := [d1, d2, d3, d4] }
  | _ => none }
def ElasticMoreWrongFalsely : Prop := elasticMoreRow.holds Try.pinned (OpenSpec.ofChange elasticMoreWrong)

/-- 'ensemblelaw14.ElasticSafe': WHATEVER THE INPUT: true; the input reads as it did. -/
def elasticSafeSpec : ChangeSpec := { name := "elasticSafe", fn := fun _ => fun
  | [d1, d2, d3, d4] => { results := [.lit (.bool true)], args := [d1, d2, d3, d4] }
  | _ => none }
def elasticSafeRow : OpenClaim := { program := "ytckhjehibjdjdaa", sum := "903601f4f4617b897aa298afd8ea609b6801ae8fb732dcf0bd58fec123648d5d", func := "ensemble/ensemblelaw14.ElasticSafe", spec := "elasticSafe", inPlace := ["internal/reflectlite.ValueOf", "internal/reflectlite.Swapper", "(internal/reflectlite.Value).Len"], unfollowed := true, recurses := true, plainKeys := false, apart := false }
def ElasticSafeSaid : Prop := elasticSafeRow.holds Try.pinned (OpenSpec.ofChange elasticSafeSpec)

/-- ITS FALSE NEIGHBOUR: 'it returns false'. Refute it at one input. -/
def elasticSafeWrong : ChangeSpec := { name := "elasticSafe", fn := fun _ => fun
  | [d1, d2, d3, d4] => { results := [.lit (.bool false)], args := [d1, d2, d3, d4] }
  | _ => none }
def ElasticSafeWrongFalsely : Prop := elasticSafeRow.holds Try.pinned (OpenSpec.ofChange elasticSafeWrong)

/-- 'ensemblelaw15.WorkerMay': WHATEVER THE INPUT: true; the input reads as it did. -/
def workerMaySpec : ChangeSpec := { name := "workerMay", fn := fun _ => fun
  | [d] => { results := [.lit (.bool true)], args := [d] }
  | _ => none }
def workerMayRow : OpenClaim := { program := "ytckhjehibjdjdaa", sum := "903601f4f4617b897aa298afd8ea609b6801ae8fb732dcf0bd58fec123648d5d", func := "ensemble/ensemblelaw15.WorkerMay", spec := "workerMay", inPlace := ["internal/reflectlite.ValueOf", "internal/reflectlite.Swapper", "(internal/reflectlite.Value).Len"], unfollowed := true, recurses := true, plainKeys := false, apart := false }
def WorkerMaySaid : Prop := workerMayRow.holds Try.pinned (OpenSpec.ofChange workerMaySpec)

/-- ITS FALSE NEIGHBOUR: 'it returns false'. Refute it at one input. -/
def workerMayWrong : ChangeSpec := { name := "workerMay", fn := fun _ => fun
  | [d] => { results := [.lit (.bool false)], args := [d] }
  | _ => none }
def WorkerMayWrongFalsely : Prop := workerMayRow.holds Try.pinned (OpenSpec.ofChange workerMayWrong)

/-- 'ensemblelaw15.WorkerRests': WHATEVER THE INPUT: true; the input reads as it did. -/
def workerRestsSpec : ChangeSpec := { name := "workerRests", fn := fun _ => fun
  | [d] => { results := [.lit (.bool true)], args := [d] }
  | _ => none }
def workerRestsRow : OpenClaim := { program := "ytckhjehibjdjdaa", sum := "903601f4f4617b897aa298afd8ea609b6801ae8fb732dcf0bd58fec123648d5d", func := "ensemble/ensemblelaw15.WorkerRests", spec := "workerRests", inPlace := ["internal/reflectlite.ValueOf", "internal/reflectlite.Swapper", "(internal/reflectlite.Value).Len"], unfollowed := true, recurses := true, plainKeys := false, apart := false }
def WorkerRestsSaid : Prop := workerRestsRow.holds Try.pinned (OpenSpec.ofChange workerRestsSpec)

/-- ITS FALSE NEIGHBOUR: 'it returns false'. Refute it at one input. -/
def workerRestsWrong : ChangeSpec := { name := "workerRests", fn := fun _ => fun
  | [d] => { results := [.lit (.bool false)], args := [d] }
  | _ => none }
def WorkerRestsWrongFalsely : Prop := workerRestsRow.holds Try.pinned (OpenSpec.ofChange workerRestsWrong)

/- THE SECOND FORM. 'bulk': how many values and letters a reading holds, each counted each time it is reached (what is shared counts as often as it is met; a slice's spare places count too). A statement '..UptoSaid' is the law's where the arguments, and the package variables that the reading takes, are together of bulk at most 1048576: NARROWER than '..Said'. Prove '..Said' where nothing that the law and all that it calls make is longer than what came in: it says more and counts as full. Else prove '..UptoSaid'. A law counts once. -/
mutual
def uptoBulk {H : Type} : DataW H → Nat
  | .lit (.string bytes) => bytes.length + 1
  | .lit _ => 1
  | .nil => 1
  | .ptr d => uptoBulk d + 1
  | .slice elems spare => uptoBulkAll elems + uptoBulkAll spare + 1
  | .agg parts => uptoBulkAll parts + 1
  | .iface _ d => uptoBulk d + 1
  | .map entries => uptoBulkEntries entries + 1
  | .held _ => 1
def uptoBulkAll {H : Type} : List (DataW H) → Nat
  | [] => 0
  | d :: r => uptoBulk d + uptoBulkAll r
def uptoBulkEntries {H : Type} : List (Lit × DataW H) → Nat
  | [] => 0
  | x :: r => uptoBulkEntry x + uptoBulkEntries r
def uptoBulkEntry {H : Type} : Lit × DataW H → Nat
  | (.string bytes, d) => bytes.length + uptoBulk d + 1
  | (_, d) => uptoBulk d + 1
 end
def uptoSmall : (H : Type) → List (DataW H) → Bool := fun _ ds => decide (uptoBulkAll ds ≤ 1048576)
def OpenSpec.upto (s : _root_.Go.ChangeSpec) : _root_.Go.OpenSpec := { _root_.Go.OpenSpec.ofChange s with cond := some uptoSmall }

/-- 'ensemblelaw12.PromiseTells', WHERE WHAT IT READS IS OF BULK AT MOST 1048576: true; the input reads as it did. -/
def promiseTellsUptoRow : OpenClaim := { program := "ytckhjehibjdjdaa", sum := "903601f4f4617b897aa298afd8ea609b6801ae8fb732dcf0bd58fec123648d5d", func := "ensemble/ensemblelaw12.PromiseTells", spec := "promiseTells", unfollowed := true, recurses := true, plainKeys := false, apart := false, narrowed := true }
def PromiseTellsUptoSaid : Prop := promiseTellsUptoRow.holds Try.pinned (OpenSpec.upto promiseTellsSpec)

/-- 'ensemblelaw12.PromiseKeeps', WHERE WHAT IT READS IS OF BULK AT MOST 1048576: true; the input reads as it did. -/
def promiseKeepsUptoRow : OpenClaim := { program := "ytckhjehibjdjdaa", sum := "903601f4f4617b897aa298afd8ea609b6801ae8fb732dcf0bd58fec123648d5d", func := "ensemble/ensemblelaw12.PromiseKeeps", spec := "promiseKeeps", unfollowed := true, recurses := true, plainKeys := false, apart := false, narrowed := true }
def PromiseKeepsUptoSaid : Prop := promiseKeepsUptoRow.holds Try.pinned (OpenSpec.upto promiseKeepsSpec)

/-- 'ensemblelaw12.PromiseLess', WHERE WHAT IT READS IS OF BULK AT MOST 1048576: true; the input reads as it did. -/
def promiseLessUptoRow : OpenClaim := { program := "ytckhjehibjdjdaa", sum := "903601f4f4617b897aa298afd8ea609b6801ae8fb732dcf0bd58fec123648d5d", func := "ensemble/ensemblelaw12.PromiseLess", spec := "promiseLess", unfollowed := true, recurses := true, plainKeys := false, apart := false, narrowed := true }
def PromiseLessUptoSaid : Prop := promiseLessUptoRow.holds Try.pinned (OpenSpec.upto promiseLessSpec)

/-- 'ensemblelaw12.PromiseOnly', WHERE WHAT IT READS IS OF BULK AT MOST 1048576: true; the input reads as it did. -/
def promiseOnlyUptoRow : OpenClaim := { program := "ytckhjehibjdjdaa", sum := "903601f4f4617b897aa298afd8ea609b6801ae8fb732dcf0bd58fec123648d5d", func := "ensemble/ensemblelaw12.PromiseOnly", spec := "promiseOnly", unfollowed := true, recurses := true, plainKeys := false, apart := false, narrowed := true }
def PromiseOnlyUptoSaid : Prop := promiseOnlyUptoRow.holds Try.pinned (OpenSpec.upto promiseOnlySpec)

/-- 'ensemblelaw12.PromiseRoom', WHERE WHAT IT READS IS OF BULK AT MOST 1048576: true; the input reads as it did. -/
def promiseRoomUptoRow : OpenClaim := { program := "ytckhjehibjdjdaa", sum := "903601f4f4617b897aa298afd8ea609b6801ae8fb732dcf0bd58fec123648d5d", func := "ensemble/ensemblelaw12.PromiseRoom", spec := "promiseRoom", unfollowed := true, recurses := true, plainKeys := false, apart := false, narrowed := true }
def PromiseRoomUptoSaid : Prop := promiseRoomUptoRow.holds Try.pinned (OpenSpec.upto promiseRoomSpec)

/-- 'ensemblelaw13.FillTells', WHERE WHAT IT READS IS OF BULK AT MOST 1048576: true; the input reads as it did. -/
def fillTellsUptoRow : OpenClaim := { program := "ytckhjehibjdjdaa", sum := "903601f4f4617b897aa298afd8ea609b6801ae8fb732dcf0bd58fec123648d5d", func := "ensemble/ensemblelaw13.FillTells", spec := "fillTells", unfollowed := true, recurses := true, plainKeys := false, apart := false, narrowed := true }
def FillTellsUptoSaid : Prop := fillTellsUptoRow.holds Try.pinned (OpenSpec.upto fillTellsSpec)

/-- 'ensemblelaw13.FillLate', WHERE WHAT IT READS IS OF BULK AT MOST 1048576: true; the input reads as it did. -/
def fillLateUptoRow : OpenClaim := { program := "ytckhjehibjdjdaa", sum := "903601f4f4617b897aa298afd8ea609b6801ae8fb732dcf0bd58fec123648d5d", func := "ensemble/ensemblelaw13.FillLate", spec := "fillLate", unfollowed := true, recurses := true, plainKeys := false, apart := false, narrowed := true }
def FillLateUptoSaid : Prop := fillLateUptoRow.holds Try.pinned (OpenSpec.upto fillLateSpec)

/-- 'ensemblelaw13.FillNone', WHERE WHAT IT READS IS OF BULK AT MOST 1048576: true; the input reads as it did. -/
def fillNoneUptoRow : OpenClaim := { program := "ytckhjehibjdjdaa", sum := "903601f4f4617b897aa298afd8ea609b6801ae8fb732dcf0bd58fec123648d5d", func := "ensemble/ensemblelaw13.FillNone", spec := "fillNone", unfollowed := true, recurses := true, plainKeys := false, apart := false, narrowed := true }
def FillNoneUptoSaid : Prop := fillNoneUptoRow.holds Try.pinned (OpenSpec.upto fillNoneSpec)

/-- 'ensemblelaw13.FillMany', WHERE WHAT IT READS IS OF BULK AT MOST 1048576: true; the input reads as it did. -/
def fillManyUptoRow : OpenClaim := { program := "ytckhjehibjdjdaa", sum := "903601f4f4617b897aa298afd8ea609b6801ae8fb732dcf0bd58fec123648d5d", func := "ensemble/ensemblelaw13.FillMany", spec := "fillMany", unfollowed := true, recurses := true, plainKeys := false, apart := false, narrowed := true }
def FillManyUptoSaid : Prop := fillManyUptoRow.holds Try.pinned (OpenSpec.upto fillManySpec)

/-- 'ensemblelaw13.FillPast', WHERE WHAT IT READS IS OF BULK AT MOST 1048576: true; the input reads as it did. -/
def fillPastUptoRow : OpenClaim := { program := "ytckhjehibjdjdaa", sum := "903601f4f4617b897aa298afd8ea609b6801ae8fb732dcf0bd58fec123648d5d", func := "ensemble/ensemblelaw13.FillPast", spec := "fillPast", unfollowed := true, recurses := true, plainKeys := false, apart := false, narrowed := true }
def FillPastUptoSaid : Prop := fillPastUptoRow.holds Try.pinned (OpenSpec.upto fillPastSpec)

/-- 'ensemblelaw05.PackFew', WHERE WHAT IT READS IS OF BULK AT MOST 1048576: true; the input reads as it did. -/
def packFewUptoRow : OpenClaim := { program := "ytckhjehibjdjdaa", sum := "903601f4f4617b897aa298afd8ea609b6801ae8fb732dcf0bd58fec123648d5d", func := "ensemble/ensemblelaw05.PackFew", spec := "packFew", inPlace := ["internal/reflectlite.ValueOf", "internal/reflectlite.Swapper", "(internal/reflectlite.Value).Len"], unfollowed := true, recurses := true, plainKeys := false, apart := false, narrowed := true }
def PackFewUptoSaid : Prop := packFewUptoRow.holds Try.pinned (OpenSpec.upto packFewSpec)

/-- 'ensemblelaw05.PackFront', WHERE WHAT IT READS IS OF BULK AT MOST 1048576: true; the input reads as it did. -/
def packFrontUptoRow : OpenClaim := { program := "ytckhjehibjdjdaa", sum := "903601f4f4617b897aa298afd8ea609b6801ae8fb732dcf0bd58fec123648d5d", func := "ensemble/ensemblelaw05.PackFront", spec := "packFront", inPlace := ["internal/reflectlite.ValueOf", "internal/reflectlite.Swapper", "(internal/reflectlite.Value).Len"], unfollowed := true, recurses := true, plainKeys := false, apart := false, narrowed := true }
def PackFrontUptoSaid : Prop := packFrontUptoRow.holds Try.pinned (OpenSpec.upto packFrontSpec)

/-- 'ensemblelaw05.PackTells', WHERE WHAT IT READS IS OF BULK AT MOST 1048576: true; the input reads as it did. -/
def packTellsUptoRow : OpenClaim := { program := "ytckhjehibjdjdaa", sum := "903601f4f4617b897aa298afd8ea609b6801ae8fb732dcf0bd58fec123648d5d", func := "ensemble/ensemblelaw05.PackTells", spec := "packTells", inPlace := ["internal/reflectlite.ValueOf", "internal/reflectlite.Swapper", "(internal/reflectlite.Value).Len"], unfollowed := true, recurses := true, plainKeys := false, apart := false, narrowed := true }
def PackTellsUptoSaid : Prop := packTellsUptoRow.holds Try.pinned (OpenSpec.upto packTellsSpec)

/-- 'ensemblelaw05.PackRooms', WHERE WHAT IT READS IS OF BULK AT MOST 1048576: true; the input reads as it did. -/
def packRoomsUptoRow : OpenClaim := { program := "ytckhjehibjdjdaa", sum := "903601f4f4617b897aa298afd8ea609b6801ae8fb732dcf0bd58fec123648d5d", func := "ensemble/ensemblelaw05.PackRooms", spec := "packRooms", inPlace := ["internal/reflectlite.ValueOf", "internal/reflectlite.Swapper", "(internal/reflectlite.Value).Len"], unfollowed := true, recurses := true, plainKeys := false, apart := false, narrowed := true }
def PackRoomsUptoSaid : Prop := packRoomsUptoRow.holds Try.pinned (OpenSpec.upto packRoomsSpec)

/-- 'ensemblelaw05.PackLeft', WHERE WHAT IT READS IS OF BULK AT MOST 1048576: true; the input reads as it did. -/
def packLeftUptoRow : OpenClaim := { program := "ytckhjehibjdjdaa", sum := "903601f4f4617b897aa298afd8ea609b6801ae8fb732dcf0bd58fec123648d5d", func := "ensemble/ensemblelaw05.PackLeft", spec := "packLeft", inPlace := ["internal/reflectlite.ValueOf", "internal/reflectlite.Swapper", "(internal/reflectlite.Value).Len"], unfollowed := true, recurses := true, plainKeys := false, apart := false, narrowed := true }
def PackLeftUptoSaid : Prop := packLeftUptoRow.holds Try.pinned (OpenSpec.upto packLeftSpec)

/-- 'ensemblelaw05.PackMore', WHERE WHAT IT READS IS OF BULK AT MOST 1048576: true; the input reads as it did. -/
def packMoreUptoRow : OpenClaim := { program := "ytckhjehibjdjdaa", sum := "903601f4f4617b897aa298afd8ea609b6801ae8fb732dcf0bd58fec123648d5d", func := "ensemble/ensemblelaw05.PackMore", spec := "packMore", inPlace := ["internal/reflectlite.ValueOf", "internal/reflectlite.Swapper", "(internal/reflectlite.Value).Len"], unfollowed := true, recurses := true, plainKeys := false, apart := false, narrowed := true }
def PackMoreUptoSaid : Prop := packMoreUptoRow.holds Try.pinned (OpenSpec.upto packMoreSpec)

/-- 'ensemblelaw05.PackWhole', WHERE WHAT IT READS IS OF BULK AT MOST 1048576: true; the input reads as it did. -/
def packWholeUptoRow : OpenClaim := { program := "ytckhjehibjdjdaa", sum := "903601f4f4617b897aa298afd8ea609b6801ae8fb732dcf0bd58fec123648d5d", func := "ensemble/ensemblelaw05.PackWhole", spec := "packWhole", inPlace := ["internal/reflectlite.ValueOf", "internal/reflectlite.Swapper", "(internal/reflectlite.Value).Len"], unfollowed := true, recurses := true, plainKeys := false, apart := false, narrowed := true }
def PackWholeUptoSaid : Prop := packWholeUptoRow.holds Try.pinned (OpenSpec.upto packWholeSpec)

/-- 'ensemblelaw14.ElasticMost', WHERE WHAT IT READS IS OF BULK AT MOST 1048576: true; the input reads as it did. -/
def elasticMostUptoRow : OpenClaim := { program := "ytckhjehibjdjdaa", sum := "903601f4f4617b897aa298afd8ea609b6801ae8fb732dcf0bd58fec123648d5d", func := "ensemble/ensemblelaw14.ElasticMost", spec := "elasticMost", inPlace := ["internal/reflectlite.ValueOf", "internal/reflectlite.Swapper", "(internal/reflectlite.Value).Len"], unfollowed := true, recurses := true, plainKeys := false, apart := false, narrowed := true }
def ElasticMostUptoSaid : Prop := elasticMostUptoRow.holds Try.pinned (OpenSpec.upto elasticMostSpec)

/-- 'ensemblelaw14.ElasticMore', WHERE WHAT IT READS IS OF BULK AT MOST 1048576: true; the input reads as it did. -/
def elasticMoreUptoRow : OpenClaim := { program := "ytckhjehibjdjdaa", sum := "903601f4f4617b897aa298afd8ea609b6801ae8fb732dcf0bd58fec123648d5d", func := "ensemble/ensemblelaw14.ElasticMore", spec := "elasticMore", inPlace := ["internal/reflectlite.ValueOf", "internal/reflectlite.Swapper", "(internal/reflectlite.Value).Len"], unfollowed := true, recurses := true, plainKeys := false, apart := false, narrowed := true }
def ElasticMoreUptoSaid : Prop := elasticMoreUptoRow.holds Try.pinned (OpenSpec.upto elasticMoreSpec)

/-- 'ensemblelaw14.ElasticSafe', WHERE WHAT IT READS IS OF BULK AT MOST 1048576: true; the input reads as it did. -/
def elasticSafeUptoRow : OpenClaim := { program := "ytckhjehibjdjdaa", sum := "903601f4f4617b897aa298afd8ea609b6801ae8fb732dcf0bd58fec123648d5d", func := "ensemble/ensemblelaw14.ElasticSafe", spec := "elasticSafe", inPlace := ["internal/reflectlite.ValueOf", "internal/reflectlite.Swapper", "(internal/reflectlite.Value).Len"], unfollowed := true, recurses := true, plainKeys := false, apart := false, narrowed := true }
def ElasticSafeUptoSaid : Prop := elasticSafeUptoRow.holds Try.pinned (OpenSpec.upto elasticSafeSpec)

/-- 'ensemblelaw15.WorkerMay', WHERE WHAT IT READS IS OF BULK AT MOST 1048576: true; the input reads as it did. -/
def workerMayUptoRow : OpenClaim := { program := "ytckhjehibjdjdaa", sum := "903601f4f4617b897aa298afd8ea609b6801ae8fb732dcf0bd58fec123648d5d", func := "ensemble/ensemblelaw15.WorkerMay", spec := "workerMay", inPlace := ["internal/reflectlite.ValueOf", "internal/reflectlite.Swapper", "(internal/reflectlite.Value).Len"], unfollowed := true, recurses := true, plainKeys := false, apart := false, narrowed := true }
def WorkerMayUptoSaid : Prop := workerMayUptoRow.holds Try.pinned (OpenSpec.upto workerMaySpec)

/-- 'ensemblelaw15.WorkerRests', WHERE WHAT IT READS IS OF BULK AT MOST 1048576: true; the input reads as it did. -/
def workerRestsUptoRow : OpenClaim := { program := "ytckhjehibjdjdaa", sum := "903601f4f4617b897aa298afd8ea609b6801ae8fb732dcf0bd58fec123648d5d", func := "ensemble/ensemblelaw15.WorkerRests", spec := "workerRests", inPlace := ["internal/reflectlite.ValueOf", "internal/reflectlite.Swapper", "(internal/reflectlite.Value).Len"], unfollowed := true, recurses := true, plainKeys := false, apart := false, narrowed := true }
def WorkerRestsUptoSaid : Prop := workerRestsUptoRow.holds Try.pinned (OpenSpec.upto workerRestsSpec)

end Rows
end Go.Proofs.Ytckhjehibjdjdaa
