/- RunningAggregateMatchesReference holds: for all rows, every partition, ordering, list of aggregates and memory the law returns true, where the listed package-level variables (strconv's two errors and tables of the library) read as the program's own text lays them; the card ties that to the text. No other condition. -/
import Derived.Test.YtimkkjiplioohaaGreatDoorQ1
import Derived.Test.YtimkkjiplioohaaGreatDoorRaG
import Derived.Test.YtimkkjiplioohaaGreatDoorRows
import Derived.Test.YtimkkjiplioohaaGreatDoorCards
import Derived.Test.YtimkkjiplioohaaGreatDoorTie
import Derived.Stop.LaidErr
import Derived.ChangeSame
import Derived.ChangeVars
import Derived.JoinedOf
import Derived.SevenTiedAt
namespace Go.Proofs.YtimkkjiplioohaaGreatDoor
open Go.RowKit Go.Ab Go.Rp Go.ChangeShapes Go.WideShapes

theorem own_jo : ownKnob Tryz.prog.godebug = none := by kernel_rfl
theorem laidOut_jo : laidOutB Tryz.prog = true := by kernel_rfl
theorem ty_v : Rep.Ty RVal Tryz.prog 61 := ⟨_, Tryz.underlying61, by kernel_rfl, of_decide_eq_true (by kernel_rfl), _, _, rfl, rfl, ⟨by kernel_rfl, by kernel_rfl, by kernel_rfl⟩, _, _, rfl, rfl, ⟨by kernel_rfl, by kernel_rfl, by kernel_rfl⟩, _, _, rfl, rfl, ⟨by kernel_rfl, by kernel_rfl, by kernel_rfl⟩, rfl⟩
theorem ty_r : Rep.Ty RRow Tryz.prog 57 := ⟨61, by kernel_rfl, by kernel_rfl, by kernel_rfl, ty_v, by decide⟩
theorem ty_rs : Rep.Ty RRows Tryz.prog 48 := ⟨57, by kernel_rfl, by kernel_rfl, by kernel_rfl, ty_r, by decide⟩
theorem ty_is : Rep.Ty (List Int) Tryz.prog 22 := ⟨3, by kernel_rfl, by kernel_rfl, by kernel_rfl, ⟨by kernel_rfl, by kernel_rfl, by kernel_rfl⟩, by decide⟩
theorem ty_bs : Rep.Ty (List Bool) Tryz.prog 35 := ⟨4, by kernel_rfl, by kernel_rfl, by kernel_rfl, ⟨Tryz.underlying4, by kernel_rfl, by kernel_rfl⟩, by decide⟩
theorem ty_on : Rep.Ty ROn Tryz.prog 65 := ⟨_, Tryz.underlying65, by kernel_rfl, of_decide_eq_true (by kernel_rfl), _, _, rfl, rfl, ty_is, _, _, rfl, rfl, ty_bs, rfl⟩
theorem ty_g : Rep.Ty RAg Tryz.prog 75 := ⟨_, Tryz.underlying75, by kernel_rfl, of_decide_eq_true (by kernel_rfl), _, _, rfl, rfl, ⟨by kernel_rfl, by kernel_rfl, by kernel_rfl⟩, _, _, rfl, rfl, ⟨by kernel_rfl, by kernel_rfl, by kernel_rfl⟩, rfl⟩
theorem ty_gs : Rep.Ty RAgs Tryz.prog 66 := ⟨75, by kernel_rfl, by kernel_rfl, by kernel_rfl, ty_g, by decide⟩
theorem ty_i : Rep.Ty Int Tryz.prog 3 := ⟨by kernel_rfl, by kernel_rfl, by kernel_rfl⟩

/-! ### what the listed variables hold -/
abbrev theLaid : List (String × DataW Unit) := Rows.runningAggregateMatchesReferenceRow.laid

theorem g5 : Tryz.prog.globalNamed "strconv.ErrRange" = some 5 := by kernel_rfl
set_option maxRecDepth 100000 in
theorem gw_of_laid {W : World} (h : laidMet Tryz.prog theLaid W) : GW W := by
  have h1 := h.tail.tail
  refine ⟨trivial, ?_⟩
  obtain ⟨ps, ⟨g, t, cs, fuel, p, q, hg, _, hvar, _⟩, _⟩ := h1.tail
  obtain rfl := Option.some.inj (g5.symm.trans hg)
  show 6 ≤ W.heap.size
  simp only [World.var?, g5, Option.bind_some] at hvar
  rcases Nat.lt_or_ge 5 W.heap.size with h | h
  · omega
  · rw [Array.getElem?_eq_none h] at hvar
    cases hvar

/-! ### a world that meets the condition -/
noncomputable def low0 : Nat := (World.holding Tryz.prog default ⟨#[], #[], []⟩).heap.size
def putB (cs : Array Value) : Obj → Obj
  | .cells _ t frozen => .cells cs t frozen
  | o => o
def laidInts (k : IntKind) (l : List Int) : Array Value := (l.map fun n => Value.int k n).toArray
def tab32 : List Int := [0, 1, 28, 2, 29, 14, 24, 3, 30, 22, 20, 15, 25, 17, 4, 8, 31, 27, 13, 23, 21, 19, 16, 7, 26, 12, 18, 6, 11, 5, 10, 9]
def tab64 : List Int := [0, 1, 56, 2, 57, 49, 28, 3, 61, 58, 42, 50, 38, 29, 17, 4, 62, 47, 59, 36, 45, 43, 51, 22, 53, 39, 33, 30, 24, 18, 12, 5, 63, 55, 48, 27, 60, 41, 37, 16, 46, 35, 44, 21, 52, 32, 23, 11, 54, 26, 40, 15, 34, 20, 31, 10, 25, 14, 19, 9, 13, 8, 7, 6]
def pow10 : List Int := (List.range 20).map fun i => (10 : Int) ^ i
def txtRange : ByteArray := ⟨#[118, 97, 108, 117, 101, 32, 111, 117, 116, 32, 111, 102, 32, 114, 97, 110, 103, 101]⟩
def txtSyntax : ByteArray := ⟨#[105, 110, 118, 97, 108, 105, 100, 32, 115, 121, 110, 116, 97, 120]⟩
noncomputable def laidWorld (os : Os) : World :=
  let w0 := World.holding Tryz.prog os ⟨#[.cells #[.string txtSyntax] 340, .cells #[.string txtRange] 340], #[], []⟩
  { w0 with heap := ((((w0.heap.modify 4 (putB #[.iface 338 (.pointer (some ⟨low0, 0, none⟩))])).modify 5 (putB #[.iface 338 (.pointer (some ⟨low0 + 1, 0, none⟩))])).modify 2 (putB (laidInts .u64 pow10))).modify 0 (putB (laidInts .u8 tab32))).modify 1 (putB (laidInts .u8 tab64)) }
theorem laidWorld_met (os : Os) (args : Array Value) : laidMet Tryz.prog theLaid ((laidWorld os).forCall (fun _ _ => 0) ⟨#[], args, []⟩).memory :=
  laidMet_of_run' 8 (by kernel_rfl) (by kernel_rfl)

set_option maxRecDepth 100000 in
theorem ra_lifted (os : Os) (started : os.Started) (H : Type) (enc : TypeId × Value → H) :
    ReturnsInHanded {} Tryz.checked os 7 .any (fun w args => (Rows.runningAggregateMatchesReferenceSpec.pre enc Tryz.prog Tryz.f7 [] false w args ∧ laidMet Tryz.prog theLaid w) ∧ sizedMet enc Tryz.prog Tryz.f7 (OpenSpec.ofChange Rows.runningAggregateMatchesReferenceSpec) false w args)
      (Rows.runningAggregateMatchesReferenceSpec.post enc Tryz.prog Tryz.f7 false true false false) := by
  refine returnsInHanded_of_change_and (C := Tryz.checked) (X := fun w _ => laidMet Tryz.prog theLaid w) (fun _ _ _ hh h => h.of_heap hh) own_jo started (by kernel_rfl) Tryz.func7
    (ChangeSpec.witness_at (enc := enc) (C := Tryz.checked) (os := os) (X := fun w _ => laidMet Tryz.prog theLaid w) false (laidWorld os) #[.slice none 0 0, .agg #[.slice none 0 0, .slice none 0 0], .agg #[.slice none 0 0, .slice none 0 0], .slice none 0 0, .int .i64 0] 8 rfl (by kernel_rfl) (by kernel_rfl) (by kernel_rfl) (by kernel_rfl) (by kernel_rfl) (laidWorld_met os _)) ?_
  intro W base args ds gs before hval0 hW _ hz0 hL _
  have hval : ∀ (j : Nat) t v, Tryz.f7.params[j]? = some t → args[j]? = some v → Value.okWide Tryz.prog W .any base t v := hval0
  have hW' := hW
  obtain ⟨p, q, hA, hV, rfl, hfz, hnd⟩ := hW
  have hA : DataW.TrodAll enc Tryz.prog W 0 (fun _ => true) true Tryz.f7.params.toList args.toList ds p := hA
  obtain ⟨rfl, rfl⟩ := trodVars_none hV
  have hz' : (DataW.weightsEach Tryz.prog Tryz.f7.params.toList ds).all (· ≤ reachBytes) = true := by
    have e : Rows.runningAggregateMatchesReferenceSpec.plain.varTypes Tryz.prog = [] := by unfold ChangeSpec.plain DataSpec.varTypes; rfl
    have hz : (DataW.weightsEach Tryz.prog (Tryz.f7.params.toList ++ Rows.runningAggregateMatchesReferenceSpec.plain.varTypes Tryz.prog) (ds ++ [])).all (· ≤ reachBytes) = true := hz0
    simpa [e] using hz
  have hpar : ∀ t ∈ Tryz.f7.params.toList, Tryz.prog.readableRec t = true ∧ t < Tryz.prog.types.size := by
    have : Tryz.f7.params.toList.all (fun t => Tryz.prog.readableRec t && decide (t < Tryz.prog.types.size)) = true := by kernel_rfl
    intro t ht
    have := List.all_eq_true.1 this t ht
    rw [Bool.and_eq_true] at this
    exact ⟨this.1, of_decide_eq_true this.2⟩
  have htys : Tys Tryz.prog [⟨RRows, inferInstance⟩, ⟨ROn, inferInstance⟩, ⟨ROn, inferInstance⟩, ⟨RAgs, inferInstance⟩, ⟨Int, inferInstance⟩] Tryz.f7.params.toList := ⟨48, _, rfl, ty_rs, 65, _, rfl, ty_on, 65, _, rfl, ty_on, 66, _, rfl, ty_gs, 3, _, rfl, ty_i, rfl⟩
  have hargs := args_open htys hA (fun j t v h1 h2 => hval j t v (by simpa using h1) (by simpa using h2)) hz'
  obtain ⟨a, csa, _, hal, ha, wi, cswi, _, rfl, hwi, o, cso, _, rfl, ho, m, csm, _, rfl, hm, k, csn, _, rfl, hn, rfl⟩ := hargs
  have walk : Calls Tryz.prog 7 args W fun e W' => e = .returned (.bool true) ∧ Below W.heap.size W W' := by
    refine calls_true (gw_of_laid hL) (ra_fun a wi o m k) ?_
    rw [hal]
    have sv : ∀ {α : Type} [Rep α] [Enc α] {a : α} {cs : List Value}, Rep.is W W.heap.size a cs → RV (oneE default (· < W.heap.size)) W (Enc.eV a) (Rep.box α cs) := fun h => Enc.soundV (E := oneE default (· < W.heap.size)) (fun _ hb => hb) h
    exact ⟨_, _, rfl, sv ha, _, _, rfl, sv hwi, _, _, rfl, sv ho, _, _, rfl, sv hm, _, _, rfl, sv hn, rfl⟩
  refine walk.mono fun e W' ⟨he, hb⟩ => ?_
  obtain ⟨d, d', d2, d3, d4, rfl⟩ : ∃ d d' d2 d3 d4, ds = [d, d', d2, d3, d4] := by
    have hA2 := hA
    rw [Tryz.params7] at hA2
    obtain ⟨_, _, d, ds', _, _, _, rfl, _, _, h2⟩ := trodAll_cons hA2
    obtain ⟨_, _, d', ds'', _, _, _, rfl, _, _, h3⟩ := trodAll_cons h2
    obtain ⟨_, _, d2, ds3, _, _, _, rfl, _, _, h4⟩ := trodAll_cons h3
    obtain ⟨_, _, d3, ds4, _, _, _, rfl, _, _, h5⟩ := trodAll_cons h4
    obtain ⟨_, _, d4, ds5, _, _, _, rfl, _, _, h6⟩ := trodAll_cons h5
    obtain ⟨_, rfl, _⟩ := trodAll_nil h6
    exact ⟨_, _, _, _, _, rfl⟩
  refine ⟨_, he, [d, d', d2, d3, d4], [], p ++ [], [], p, [], hW', ?_, ?_, ?_, hb.frame _, (fun h => by cases h)⟩
  · exact trodAll_mk1 (shut_bool Tryz.underlying4 true)
  · exact trodAll_below laidOut_jo hb hpar hA (fun x hx => hW'.lt x (by simpa using hx))
  · exact rfl

theorem ra_row : Rows.RunningAggregateMatchesReferenceSaid :=
  OpenClaim.holds_of_wide 7 Tryz.f7 rfl rfl rfl rfl rfl rfl rfl ⟨rfl, rfl, rfl, rfl, rfl⟩ rfl rfl rfl rfl rfl (by kernel_rfl) Tryz.func7 ra_closed
    (of_decide_eq_true (by kernel_rfl)) (by unfold Func.isWrapper; rw [if_neg (of_decide_eq_false (by kernel_rfl))]; exact ⟨rfl, rfl⟩)
    (fun os started H enc _ => ra_lifted os started H enc)

theorem ra_holds : Rows.RunningAggregateMatchesReferenceCardSaid :=
  Claim7.holds_tied_plain_at .later [] [.data, .data, .data, .sentinel, .sentinel] true (true, "f26cd95aade22ecff280a615a716af14c486920fdb4227299497156766b695a8") true
    ra_row (fun _ h => by cases h) (by kernel_rfl) (fun _ h => by cases h) runningAggregateMatchesReference_row_tie rfl ⟨rfl, rfl⟩ (by kernel_rfl) rfl
    (fun f fn hf hfn => by
      obtain rfl : f = 7 := Option.some.inj ((show Tryz.prog.funcNamed "stemma/stemlaw3.RunningAggregateMatchesReference" = some 7 by kernel_rfl).symm.trans hf) |>.symm
      obtain rfl : fn = Tryz.f7 := (Option.some.inj (Tryz.func7.symm.trans hfn)).symm
      exact ⟨by kernel_rfl, fun j t ht => by
        rw [Tryz.params7] at ht
        have h3 : t = 48 ∨ t = 65 ∨ t = 66 ∨ t = 3 := by
          rcases j with _ | _ | _ | _ | _ | j
          · exact .inl (by simpa using ht.symm)
          · exact .inr (.inl (by simpa using ht.symm))
          · exact .inr (.inl (by simpa using ht.symm))
          · exact .inr (.inr (.inl (by simpa using ht.symm)))
          · exact .inr (.inr (.inr (by simpa using ht.symm)))
          · simp at ht
        rcases h3 with rfl | rfl | rfl | rfl
        · exact (show Tryz.prog.wantsStandIn 48 = false by kernel_rfl)
        · exact (show Tryz.prog.wantsStandIn 65 = false by kernel_rfl)
        · exact (show Tryz.prog.wantsStandIn 66 = false by kernel_rfl)
        · exact (show Tryz.prog.wantsStandIn 3 = false by kernel_rfl)⟩)
    (by kernel_rfl)
#print axioms ra_holds
end Go.Proofs.YtimkkjiplioohaaGreatDoor
