/- A part of the proof: what a machine of our own over the model's code answers is what the model does; no condition. -/
import Derived.Test.YtglejgncbghngaaGreatDoorRows
import Derived.LaidByTextLater
import Derived.SevenTiedAt
set_option linter.all false
set_option linter.all false
set_option maxRecDepth 100000
namespace Go.Proofs.YtglejgncbghngaaGreatDoor
open Go
noncomputable  def memQ (i : Nat) (l : List Nat) : Bool := List.rec false (fun j _ ih => Bool.rec ih true (Nat.beq i j)) l
noncomputable def nodupQ (l : List Nat) : Bool := List.rec true (fun i r ih => Bool.rec ih false (memQ i r)) l
def placeQ (p : MemPlace) : Nat := match p with | .cell b off => Nat.add (Nat.mul b 65536) off | .map b => b
theorem memQ_of {i : Nat} : ∀ {l : List Nat}, i ∈ l → memQ i l = true
  | j :: l, h => by
    show (Bool.rec (memQ i l) true (Nat.beq i j) : Bool) = true
    rcases List.mem_cons.1 h with rfl | h
    · rw [Nat.beq_refl]
    · cases Nat.beq i j
      · exact memQ_of h
      · rfl
theorem nodupQ_of : ∀ {l : List Nat}, nodupQ l = true → l.Nodup
  | [], _ => List.nodup_nil
  | i :: l, h => by
    change (Bool.rec (nodupQ l) false (memQ i l) : Bool) = true at h
    cases hm : memQ i l with
    | true => rw [hm] at h; cases h
    | false =>
      rw [hm] at h
      exact List.nodup_cons.2 ⟨fun hi => (by rw [memQ_of hi] at hm; cases hm), nodupQ_of h⟩
theorem nodup_key {ps : List MemPlace} (h : nodupQ (ps.map placeQ) = true) : ps.Nodup := (List.pairwise_map.1 (nodupQ_of h)).imp fun hne he => hne (congrArg placeQ he)
theorem tie2_9k : ∀ os tape, (DataW.laidRun Tryz.prog (varsWorld Tryz.prog 400 (varsId Tryz.prog) os tape).memory 8 (([("internal/strconv.uint64pow10", Rows.laid_internal_strconv_uint64pow10), ("math/bits.deBruijn32tab", Rows.laid_math_bits_deBruijn32tab), ("math/bits.deBruijn64tab", Rows.laid_math_bits_deBruijn64tab), ("unicode/utf8.acceptRanges", Rows.laid_unicode_utf8_acceptRanges), ("strings.asciiSpace", Rows.laid_strings_asciiSpace), ("unicode.White_Space", Rows.laid_unicode_White_Space)] : List (String × DataW Unit)).map (·.1))).map (fun x => nodupQ (x.2.map placeQ)) = some true := fun _ _ => by kernel_rfl
theorem tie2_9a : ∀ os tape, (DataW.laidRun Tryz.prog (varsWorld Tryz.prog 400 (varsId Tryz.prog) os tape).memory 8 (([("internal/strconv.uint64pow10", Rows.laid_internal_strconv_uint64pow10), ("math/bits.deBruijn32tab", Rows.laid_math_bits_deBruijn32tab), ("math/bits.deBruijn64tab", Rows.laid_math_bits_deBruijn64tab), ("unicode/utf8.acceptRanges", Rows.laid_unicode_utf8_acceptRanges), ("strings.asciiSpace", Rows.laid_strings_asciiSpace), ("unicode.White_Space", Rows.laid_unicode_White_Space)] : List (String × DataW Unit)).map (·.1))).map (fun x => decide x.2.Nodup) = some true := fun os tape => by
  have h := tie2_9k os tape
  revert h
  generalize (DataW.laidRun Tryz.prog (varsWorld Tryz.prog 400 (varsId Tryz.prog) os tape).memory 8 (([("internal/strconv.uint64pow10", Rows.laid_internal_strconv_uint64pow10), ("math/bits.deBruijn32tab", Rows.laid_math_bits_deBruijn32tab), ("math/bits.deBruijn64tab", Rows.laid_math_bits_deBruijn64tab), ("unicode/utf8.acceptRanges", Rows.laid_unicode_utf8_acceptRanges), ("strings.asciiSpace", Rows.laid_strings_asciiSpace), ("unicode.White_Space", Rows.laid_unicode_White_Space)] : List (String × DataW Unit)).map (·.1))) = o
  intro h
  cases o with
  | none => cases h
  | some x => exact congrArg some (decide_eq_true (nodup_key (Option.some.inj h)))
end Go.Proofs.YtglejgncbghngaaGreatDoor
