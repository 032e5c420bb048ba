/- LexerMatchesReference holds: for every text the law returns true, where the listed package-level variables (strconv's two errors and tables of the library) read as the program's own text lays them; the card ties that to the text. No other condition. -/
import Derived.Test.YtdiekinmoklonabDoorLxQ
import Derived.Test.YtdiekinmoklonabDoorRows
import Derived.Test.YtdiekinmoklonabDoorCards
import Derived.Test.YtdiekinmoklonabDoorTie
import Derived.Stop.LaidErr
import Derived.ChangeSame
import Derived.ChangeVars
import Derived.JoinedOf
import Derived.SevenTiedAt
namespace Go.Proofs.YtdiekinmoklonabDoor
open Go.RowKit Go.Ab Go.Rp Go.ChangeShapes Go.WideShapes

theorem lex_fun (a : ByteArray) : Fun Tryd.prog 3 [.d (.lit (.string a))] (fun r _ => r = .d (.lit (.bool true))) :=
 (p3 9223372036854775808 a true (law_ok a)).2.mono fun _ _ h => h.1

theorem own_lexer : ownKnob Tryd.prog.godebug = none := by kernel_rfl
theorem laidOut_lexer : laidOutB Tryd.prog = true := by kernel_rfl
theorem ty_lexer : Rep.Ty ByteArray Tryd.prog 9 := ⟨by kernel_rfl, by kernel_rfl, by kernel_rfl⟩

/-! ### what the listed variables hold -/
theorem g0 : Tryd.prog.globalNamed "strconv.ErrSyntax" = some 0 := by kernel_rfl
theorem g1 : Tryd.prog.globalNamed "strconv.ErrRange" = some 1 := by kernel_rfl
theorem g5 : Tryd.prog.globalNamed "math/bits.deBruijn64tab" = some 5 := by kernel_rfl
theorem ty0 : (Tryd.prog.globals[0]?).map (·.type) = some 44 := by kernel_rfl
theorem ty1 : (Tryd.prog.globals[1]?).map (·.type) = some 44 := by kernel_rfl
theorem ty3g : (Tryd.prog.globals[3]?).map (·.type) = some 78 := by kernel_rfl
theorem row73 (u : TypeId) (h : Tryd.prog.typeName? 3 u = some "*errors.errorString") : u = 73 :=
 typeName_ptr_named (nm := "errors.errorString") (by rw [show "*" ++ "errors.errorString" = "*errors.errorString" by decide]; kernel_rfl) (by kernel_rfl) (by decide) u (by rw [show "*" ++ "errors.errorString" = "*errors.errorString" by decide]; exact h)

abbrev theLaid : List (String × DataW Unit) := Rows.lexerMatchesReferenceRow.laid
theorem gw_of_laid {W : World} (h : laidMet Tryd.prog theLaid W) : GW W := by
 have h3 := h.tail.tail
 have h4 := h3.tail
 have h5 := h4.tail
 obtain ⟨a1, s1, v1, _⟩ := laid_sentinel h4 g1 ty1 Tryd.underlying44 row73 Tryd.underlying73 Tryd.underlying75 rfl rfl Tryd.underlying9 (by kernel_rfl) (by kernel_rfl)
 obtain ⟨a0, s0, v0, _⟩ := laid_sentinel h5 g0 ty0 Tryd.underlying44 row73 Tryd.underlying73 Tryd.underlying75 rfl rfl Tryd.underlying9 (by kernel_rfl) (by kernel_rfl)
 refine ⟨⟨⟨_, _, by simpa using World.var?_cell g0 v0 0⟩, ⟨_, _, by simpa using World.var?_cell g1 v1 0⟩, ?_⟩, ?_⟩
 ·exact Lib.tabIs_of_head (k := .u64) (zs := Lib.pow10Tab) gtab ty3g Tryd.underlying78 (by kernel_rfl) (by kernel_rfl) (by kernel_rfl) h3
 ·obtain ⟨ps, ⟨g, t, cs, fuel, p, q, hg, _, hvar, _⟩, _⟩ := h.tail
  obtain rfl := Option.some.inj (g5.symm.trans hg)
  show 6 ≤ W.heap.size
  simp only [World.var?, g5, Option.bind_some] at hvar
  rcases Nat.lt_or_ge 5 W.heap.size with h | h
  ·omega
  ·rw [Array.getElem?_eq_none h] at hvar
   cases hvar

/-! ### a world that meets the condition -/
noncomputable def low0 : Nat := (World.holding Tryd.prog default ⟨#[], #[], []⟩).heap.size
def putB (cs : Array Value) : Obj → Obj
 | .cells _ t frozen => .cells cs t frozen
 | o => o
def ints (k : IntKind) (l : List Int) : Array Value := (l.map fun n => Value.int k n).toArray
def tab32 : List Int := [0, 1, 28, 2, 29, 14, 24, 3, 30, 22, 20, 15, 25, 17, 4, 8, 31, 27, 13, 23, 21, 19, 16, 7, 26, 12, 18, 6, 11, 5, 10, 9]
def tab64 : List Int := [0, 1, 56, 2, 57, 49, 28, 3, 61, 58, 42, 50, 38, 29, 17, 4, 62, 47, 59, 36, 45, 43, 51, 22, 53, 39, 33, 30, 24, 18, 12, 5, 63, 55, 48, 27, 60, 41, 37, 16, 46, 35, 44, 21, 52, 32, 23, 11, 54, 26, 40, 15, 34, 20, 31, 10, 25, 14, 19, 9, 13, 8, 7, 6]
def txtRange : ByteArray := ⟨#[118, 97, 108, 117, 101, 32, 111, 117, 116, 32, 111, 102, 32, 114, 97, 110, 103, 101]⟩
def txtSyntax : ByteArray := ⟨#[105, 110, 118, 97, 108, 105, 100, 32, 115, 121, 110, 116, 97, 120]⟩
noncomputable def laidWorld (os : Os) : World :=
 let w0 := World.holding Tryd.prog os ⟨#[.cells #[.string txtSyntax] 75, .cells #[.string txtRange] 75], #[], []⟩
 { w0 with heap := ((((w0.heap.modify 0 (putB #[.iface 73 (.pointer (some ⟨low0, 0, none⟩))])).modify 1 (putB #[.iface 73 (.pointer (some ⟨low0 + 1, 0, none⟩))])).modify 3 (putB (ints .u64 Lib.pow10Tab))).modify 4 (putB (ints .u8 tab32))).modify 5 (putB (ints .u8 tab64)) }
theorem laidWorld_met (os : Os) (args : Array Value) : laidMet Tryd.prog theLaid ((laidWorld os).forCall (fun _ _ => 0) ⟨#[], args, []⟩).memory :=
 laidMet_of_run' 8 (by kernel_rfl) (by kernel_rfl)

set_option maxRecDepth 100000 in
theorem lexer_lifted (os : Os) (started : os.Started) (H : Type) (enc : TypeId × Value → H) :
  ReturnsInHanded {} Tryd.checked os 3 .any (fun w args => (Rows.lexerMatchesReferenceSpec.pre enc Tryd.prog Tryd.f3 [] false w args ∧ laidMet Tryd.prog theLaid w) ∧ sizedMet enc Tryd.prog Tryd.f3 (OpenSpec.ofChange Rows.lexerMatchesReferenceSpec) false w args)
   (Rows.lexerMatchesReferenceSpec.post enc Tryd.prog Tryd.f3 false true false false) := by
 refine returnsInHanded_of_change_and (C := Tryd.checked) (X := fun w _ => laidMet Tryd.prog theLaid w) (fun _ _ _ hh h => h.of_heap hh) own_lexer started (by kernel_rfl) Tryd.func3
  (ChangeSpec.witness_at (enc := enc) (C := Tryd.checked) (os := os) (X := fun w _ => laidMet Tryd.prog theLaid w) false (laidWorld os) #[.string ⟨#[]⟩] 8 rfl (by kernel_rfl) (by kernel_rfl) (by kernel_rfl) (by kernel_rfl) (by kernel_rfl) (laidWorld_met os _)) ?_
 intro W base args ds gs before hval0 hW _ hz0 hL _
 have hval : ∀ (j : Nat) t v, Tryd.f3.params[j]? = some t → args[j]? = some v → Value.okWide Tryd.prog W .any base t v := hval0
 have hW' := hW
 obtain ⟨p, q, hA, hV, rfl, hfz, hnd⟩ := hW
 have hA : DataW.TrodAll enc Tryd.prog W 0 (fun _ => true) true Tryd.f3.params.toList args.toList ds p := hA
 obtain ⟨rfl, rfl⟩ := trodVars_none hV
 have hz' : (DataW.weightsEach Tryd.prog Tryd.f3.params.toList ds).all (· ≤ reachBytes) = true := by
  have e : Rows.lexerMatchesReferenceSpec.plain.varTypes Tryd.prog = [] := by unfold ChangeSpec.plain DataSpec.varTypes; rfl
  have hz : (DataW.weightsEach Tryd.prog (Tryd.f3.params.toList ++ Rows.lexerMatchesReferenceSpec.plain.varTypes Tryd.prog) (ds ++ [])).all (· ≤ reachBytes) = true := hz0
  simpa [e] using hz
 have hpar : ∀ t ∈ Tryd.f3.params.toList, Tryd.prog.readableRec t = true ∧ t < Tryd.prog.types.size := by
  have : Tryd.f3.params.toList.all (fun t => Tryd.prog.readableRec t && decide (t < Tryd.prog.types.size)) = true := by kernel_rfl
  intro t ht
  have := List.all_eq_true.1 this t ht
  rw [Bool.and_eq_true] at this
  exact ⟨this.1, of_decide_eq_true this.2⟩
 have htys : Tys Tryd.prog [⟨ByteArray, inferInstance⟩] Tryd.f3.params.toList := ⟨9, _, rfl, ty_lexer, rfl⟩
 have hargs := args_open htys hA (fun j t v h1 h2 => hval j t v (by simpa using h1) (by simpa using h2)) hz'
 obtain ⟨a, csa, _, hal, ha, rfl⟩ := hargs
 have walk : Calls Tryd.prog 3 args W fun e W' => e = .returned (.bool true) ∧ Below W.heap.size W W' := by
  refine calls_true (gw_of_laid hL) (lex_fun a) ?_
  rw [hal]
  exact ⟨_, _, rfl, Enc.soundV (E := oneE default (· < W.heap.size)) (fun _ hb => hb) ha, rfl⟩
 refine walk.mono fun e W' ⟨he, hb⟩ => ?_
 obtain ⟨d, rfl⟩ : ∃ d, ds = [d] := by
  have hA2 := hA
  rw [Tryd.params3] at hA2
  obtain ⟨v0, d0, _, rfl, _⟩ := trodAll_one hA2
  exact ⟨_, rfl⟩
 refine ⟨_, he, [d], [], p ++ [], [], p, [], hW', ?_, ?_, ?_, hb.frame _, (fun h => by cases h)⟩
 ·exact trodAll_mk1 (shut_bool Tryd.underlying4 true)
 ·exact trodAll_below laidOut_lexer hb hpar hA (fun x hx => hW'.lt x (by simpa using hx))
 ·exact rfl

theorem lexer_row : Rows.LexerMatchesReferenceSaid :=
 OpenClaim.holds_of_wide 3 Tryd.f3 rfl rfl rfl rfl rfl rfl rfl ⟨rfl, rfl, rfl, rfl, rfl⟩ rfl rfl rfl rfl rfl (by kernel_rfl) Tryd.func3 (by kernel_rfl)
  (of_decide_eq_true (by kernel_rfl)) (by unfold Func.isWrapper; rw [if_neg (of_decide_eq_false (by kernel_rfl))]; exact ⟨rfl, rfl⟩)
  (fun os started H enc _ => lexer_lifted os started H enc)

theorem lexer_holds : Rows.LexerMatchesReferenceCardSaid :=
 Claim7.holds_tied_plain_at .later [] [.data, .data, .data, .sentinel, .sentinel] true (true, "5a6fb9bf05c15f6caba90ff0e3d10b313b30a4352a34c3edbbe841d7d19a28bb") true
  lexer_row (fun _ h => by cases h) (by kernel_rfl) (fun _ h => by cases h) lexerMatchesReference_row_tie rfl ⟨rfl, rfl⟩ (by kernel_rfl) rfl
  (fun f fn hf hfn => by
   obtain rfl : f = 3 := Option.some.inj ((show Tryd.prog.funcNamed "stemma/stemlaw3.LexerMatchesReference" = some 3 by kernel_rfl).symm.trans hf) |>.symm
   obtain rfl : fn = Tryd.f3 := (Option.some.inj (Tryd.func3.symm.trans hfn)).symm
   exact ⟨by kernel_rfl, fun j t ht => by
    rw [Tryd.params3] at ht
    have h3 : t = 9 := by
     rcases j with _ | j
     ·simpa using ht.symm
     ·simp at ht
    subst h3
    exact (show Tryd.prog.wantsStandIn 9 = false by kernel_rfl)⟩)
  (by kernel_rfl)
#print axioms lexer_holds
end Go.Proofs.YtdiekinmoklonabDoor
