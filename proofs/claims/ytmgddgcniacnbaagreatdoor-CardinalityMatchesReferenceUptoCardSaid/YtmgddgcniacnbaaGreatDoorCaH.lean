/- CardinalityMatchesReference, second form: for every schema, list of table sizes and query that are together of bulk at most 1048576 the law returns true, where the listed package-level variables (strconv's two errors and tables of the library) read as the program's own text lays them; the card ties that to the text. The bound on the bulk is the given row's own condition. -/
import Derived.Test.YtmgddgcniacnbaaGreatDoorQ1
import Derived.Test.YtmgddgcniacnbaaGreatDoorCaG
import Derived.Test.YtmgddgcniacnbaaGreatDoorRows
import Derived.Test.YtmgddgcniacnbaaGreatDoorCards
import Derived.Test.YtmgddgcniacnbaaGreatDoorTie
import Derived.Stop.LaidErr
import Derived.ChangeSame
import Derived.ChangeVars
import Derived.JoinedOf
import Derived.JoinedCond
import Derived.Deep.CondSized
import Derived.SevenTiedAt
namespace Go.Proofs.YtmgddgcniacnbaaGreatDoor
open Go.RowKit Go.Ab Go.Rp Go.ChangeShapes Go.WideShapes

theorem own_jo : ownKnob Tryz.prog.godebug = none := by kernel_rfl
theorem laidOut_jo : laidOutB Tryz.prog = true := by kernel_rfl
theorem ty_i : Rep.Ty Int Tryz.prog 3 := ⟨by kernel_rfl, by kernel_rfl, by kernel_rfl⟩
theorem ty_b : Rep.Ty Bool Tryz.prog 4 := ⟨by kernel_rfl, by kernel_rfl, by kernel_rfl⟩
theorem ty_t : Rep.Ty ByteArray Tryz.prog 9 := ⟨by kernel_rfl, by kernel_rfl, by kernel_rfl⟩
theorem ty_v : Rep.Ty RVal Tryz.prog 58 := ⟨_, Tryz.underlying58, by kernel_rfl, of_decide_eq_true (by kernel_rfl), _, _, rfl, rfl, ty_i, _, _, rfl, rfl, ty_i, _, _, rfl, rfl, ty_t, rfl⟩
theorem ty_is : Rep.Ty (List Int) Tryz.prog 54 := ⟨3, by kernel_rfl, by kernel_rfl, by kernel_rfl, ty_i, by decide⟩
theorem ty_bs : Rep.Ty (List Bool) Tryz.prog 31 := ⟨4, by kernel_rfl, by kernel_rfl, by kernel_rfl, ty_b, by decide⟩
theorem ty_ts : Rep.Ty (List ByteArray) Tryz.prog 28 := ⟨9, by kernel_rfl, by kernel_rfl, by kernel_rfl, ty_t, by decide⟩
theorem ty_c : Rep.Ty RCol Tryz.prog 53 := ⟨_, Tryz.underlying53, by kernel_rfl, of_decide_eq_true (by kernel_rfl), _, _, rfl, rfl, ty_t, _, _, rfl, rfl, ty_i, _, _, rfl, rfl, ty_b, rfl⟩
theorem ty_cs : Rep.Ty (List RCol) Tryz.prog 43 := ⟨53, by kernel_rfl, by kernel_rfl, by kernel_rfl, ty_c, by decide⟩
theorem ty_tab : Rep.Ty RTab Tryz.prog 56 := ⟨_, Tryz.underlying56, by kernel_rfl, of_decide_eq_true (by kernel_rfl), _, _, rfl, rfl, ty_t, _, _, rfl, rfl, ty_cs, _, _, rfl, rfl, ty_is, rfl⟩
theorem ty_fk : Rep.Ty RFk Tryz.prog 82 := ⟨_, Tryz.underlying82, by kernel_rfl, of_decide_eq_true (by kernel_rfl), _, _, rfl, rfl, ty_t, _, _, rfl, rfl, ty_is, _, _, rfl, rfl, ty_t, rfl⟩
theorem ty_con : Rep.Ty RCon Tryz.prog 88 := ⟨_, Tryz.underlying88, by kernel_rfl, of_decide_eq_true (by kernel_rfl), _, _, rfl, rfl, ty_t, _, _, rfl, rfl, ty_i, _, _, rfl, rfl, ty_t, _, _, rfl, rfl, ty_i, _, _, rfl, rfl, ty_v, rfl⟩
theorem ty_sch : Rep.Ty RSch Tryz.prog 26 := ⟨_, Tryz.underlying26, by kernel_rfl, of_decide_eq_true (by kernel_rfl), _, _, rfl, rfl, ⟨56, by kernel_rfl, by kernel_rfl, by kernel_rfl, ty_tab, by decide⟩, _, _, rfl, rfl, ⟨82, by kernel_rfl, by kernel_rfl, by kernel_rfl, ty_fk, by decide⟩, _, _, rfl, rfl, ⟨88, by kernel_rfl, by kernel_rfl, by kernel_rfl, ty_con, by decide⟩, rfl⟩
theorem ty_sz : Rep.Ty RSz Tryz.prog 41 := ⟨_, Tryz.underlying41, by kernel_rfl, of_decide_eq_true (by kernel_rfl), _, _, rfl, rfl, ty_t, _, _, rfl, rfl, ty_i, rfl⟩
theorem ty_szs : Rep.Ty (List RSz) Tryz.prog 27 := ⟨41, by kernel_rfl, by kernel_rfl, by kernel_rfl, ty_sz, by decide⟩
theorem ty_e : Rep.Ty RExp Tryz.prog 76 :=
  ⟨#[Field.mk "Kind" 3 0 false "" "" 0, Field.mk "Name" 9 1 false "" "" 8, Field.mk "Index" 3 2 false "" "" 24, Field.mk "Value" 58 3 false "" "" 32, Field.mk "Args" 29 6 false "" "" 64], [Field.mk "Kind" 3 0 false "" "" 0, Field.mk "Name" 9 1 false "" "" 8, Field.mk "Index" 3 2 false "" "" 24, Field.mk "Value" 58 3 false "" "" 32], [], Field.mk "Args" 29 6 false "" "" 64,
   by kernel_rfl, by kernel_rfl, of_decide_eq_true (by kernel_rfl), rfl,
   ⟨_, _, rfl, rfl, ty_i, _, _, rfl, rfl, ty_t, _, _, rfl, rfl, ty_i, _, _, rfl, rfl, ty_v, rfl⟩, rfl, by kernel_rfl, by kernel_rfl, rfl⟩
theorem ty_es : Rep.Ty (List RExp) Tryz.prog 29 := ⟨76, by kernel_rfl, by kernel_rfl, by kernel_rfl, ty_e, by decide⟩
theorem ty_a : Rep.Ty RAgg Tryz.prog 79 := ⟨_, Tryz.underlying79, by kernel_rfl, of_decide_eq_true (by kernel_rfl), _, _, rfl, rfl, ty_t, _, _, rfl, rfl, ty_t, _, _, rfl, rfl, ty_es, rfl⟩
theorem ty_q : Rep.Ty RQ Tryz.prog 34 :=
  ⟨#[Field.mk "Kind" 3 0 false "" "" 0, Field.mk "Table" 9 1 false "" "" 8, Field.mk "Names" 28 2 false "" "" 24, Field.mk "Exprs" 29 3 false "" "" 48, Field.mk "Aggregates" 30 4 false "" "" 72, Field.mk "Descending" 31 5 false "" "" 96, Field.mk "Count" 3 6 false "" "" 120, Field.mk "Offset" 3 7 false "" "" 128, Field.mk "Inputs" 32 8 false "" "" 136], [Field.mk "Kind" 3 0 false "" "" 0, Field.mk "Table" 9 1 false "" "" 8, Field.mk "Names" 28 2 false "" "" 24, Field.mk "Exprs" 29 3 false "" "" 48, Field.mk "Aggregates" 30 4 false "" "" 72, Field.mk "Descending" 31 5 false "" "" 96, Field.mk "Count" 3 6 false "" "" 120, Field.mk "Offset" 3 7 false "" "" 128], [], Field.mk "Inputs" 32 8 false "" "" 136,
   by kernel_rfl, by kernel_rfl, of_decide_eq_true (by kernel_rfl), rfl,
   ⟨_, _, rfl, rfl, ty_i, _, _, rfl, rfl, ty_t, _, _, rfl, rfl, ty_ts, _, _, rfl, rfl, ty_es, _, _, rfl, rfl, ⟨79, by kernel_rfl, by kernel_rfl, by kernel_rfl, ty_a, by decide⟩, _, _, rfl, rfl, ty_bs, _, _, rfl, rfl, ty_i, _, _, rfl, rfl, ty_i, rfl⟩, rfl, by kernel_rfl, by kernel_rfl, rfl⟩

/-! ### what the listed variables hold -/
abbrev theLaid : List (String × DataW Unit) := Rows.cardinalityMatchesReferenceUptoRow.laid

theorem g5 : Tryz.prog.globalNamed "math/bits.deBruijn64tab" = some 5 := by kernel_rfl
set_option maxRecDepth 100000 in
theorem gw_of_laid {W : World} (h : laidMet Tryz.prog theLaid W) : GW W := by
  refine ⟨trivial, ?_⟩
  obtain ⟨ps, ⟨g, t, cs, fuel, p, q, hg, _, hvar, _⟩, _⟩ := h.tail
  obtain rfl := Option.some.inj (g5.symm.trans hg)
  show 6 ≤ W.heap.size
  simp only [World.var?, g5, Option.bind_some] at hvar
  rcases Nat.lt_or_ge 5 W.heap.size with h | h
  · omega
  · rw [Array.getElem?_eq_none h] at hvar
    cases hvar

/-! ### a world that meets the condition -/
noncomputable def low0 : Nat := (World.holding Tryz.prog default ⟨#[], #[], []⟩).heap.size
def putB (cs : Array Value) : Obj → Obj
  | .cells _ t frozen => .cells cs t frozen
  | o => o
def laidInts (k : IntKind) (l : List Int) : Array Value := (l.map fun n => Value.int k n).toArray
def tab32 : List Int := [0, 1, 28, 2, 29, 14, 24, 3, 30, 22, 20, 15, 25, 17, 4, 8, 31, 27, 13, 23, 21, 19, 16, 7, 26, 12, 18, 6, 11, 5, 10, 9]
def tab64 : List Int := [0, 1, 56, 2, 57, 49, 28, 3, 61, 58, 42, 50, 38, 29, 17, 4, 62, 47, 59, 36, 45, 43, 51, 22, 53, 39, 33, 30, 24, 18, 12, 5, 63, 55, 48, 27, 60, 41, 37, 16, 46, 35, 44, 21, 52, 32, 23, 11, 54, 26, 40, 15, 34, 20, 31, 10, 25, 14, 19, 9, 13, 8, 7, 6]
def pow10 : List Int := (List.range 20).map fun i => (10 : Int) ^ i
def txtRange : ByteArray := ⟨#[118, 97, 108, 117, 101, 32, 111, 117, 116, 32, 111, 102, 32, 114, 97, 110, 103, 101]⟩
def txtSyntax : ByteArray := ⟨#[105, 110, 118, 97, 108, 105, 100, 32, 115, 121, 110, 116, 97, 120]⟩
noncomputable def laidWorld (os : Os) : World :=
  let w0 := World.holding Tryz.prog os ⟨#[.cells #[.string txtSyntax] 269, .cells #[.string txtRange] 269], #[], []⟩
  { w0 with heap := ((((w0.heap.modify 1 (putB #[.iface 267 (.pointer (some ⟨low0, 0, none⟩))])).modify 2 (putB #[.iface 267 (.pointer (some ⟨low0 + 1, 0, none⟩))])).modify 3 (putB (laidInts .u64 pow10))).modify 4 (putB (laidInts .u8 tab32))).modify 5 (putB (laidInts .u8 tab64)) }
theorem laidWorld_met (os : Os) (args : Array Value) : laidMet Tryz.prog theLaid ((laidWorld os).forCall (fun _ _ => 0) ⟨#[], args, []⟩).memory :=
  laidMet_of_run' 8 (by kernel_rfl) (by kernel_rfl)


/-! ### the lift: a condition on the bulk, beside what the variables hold -/
theorem returnsInHanded_of_cond_and {H : Type} {enc : TypeId × Value → H} {a : Assume} {C : Checked} {os : Os} {f : FuncId} {fn : Func} {s : OpenSpec} {k : (H : Type) → List (DataW H) → Bool} (hk : s.cond = some k) {F : Stop.Interp} {conds : List PathCond} {apart fresh handsOn again : Bool} {X : World → Array Value → Prop}
    (hX : ∀ (w w' : World) (args : Array Value), w.heap = w'.heap → X w args → X w' args)
    (own : ownKnob C.prog.godebug = none) (started : os.Started) (noInit : C.prog.inits.idxOf? f = none) (hfn : C.prog.funcs[f]? = some fn)
    (witness : ∃ (w : World) (tape : Tape) (i : Input), w.os = os ∧ (w.forCall tape i).Shaped C.prog ∧ i.vars = [] ∧ Input.okWide C.prog (w.forCall tape i) .any w.heap.size f i ∧
      ((s.pre enc C.prog fn conds apart (w.forCall tape i).memory i.args ∧ X (w.forCall tape i).memory i.args) ∧ sizedMet enc C.prog fn s apart (w.forCall tape i).memory i.args) ∧ a.holds C.prog (lone (Frame.enter C.prog f i.args .normal) [] (w.forCall tape i)))
    (contract : ∀ (W : World) (base : Nat) (args : Array Value) (ds gs : List (DataW H)) (before : List MemPlace),
      (∀ (j : Nat) t v, fn.params[j]? = some t → args[j]? = some v → Value.okWide C.prog W .any base t v) →
      DataW.Whole enc C.prog fn.params.toList s.vars apart W args.toList ds gs before →
      conds.all (PathCond.test C.prog ⟨fn.params.toList, ds, s.bare.plain.varTypes C.prog, gs⟩) = true → k H (ds ++ gs) = true →
      (DataW.weightsEach C.prog (fn.params.toList ++ s.bare.plain.varTypes C.prog) (ds ++ gs)).all (· ≤ reachBytes) = true → X W args →
      a.holds C.prog (lone (Frame.enter C.prog f args .normal) [] W) →
      Calls C.prog f args W fun e W' => ∃ v, e = .returned v ∧ (s.at F).post enc C.prog fn apart fresh handsOn again W args v W') :
    ReturnsInHanded a C os f .any (fun w args => (s.pre enc C.prog fn conds apart w args ∧ X w args) ∧ sizedMet enc C.prog fn s apart w args) ((s.at F).post enc C.prog fn apart fresh handsOn again) := by
  refine returnsInHanded_of_calls own started noInit witness ?_
  intro w tape i _ _ _ hok hpre hholds
  obtain ⟨_, _, _, fn', hfn', _, _, _, _, hval⟩ := hok
  have e : fn' = fn := Option.some.inj (hfn'.symm.trans hfn)
  subst e
  obtain ⟨⟨hp, hx⟩, hz⟩ := hpre
  obtain ⟨ds, gs, before, hw, hc, hkk⟩ := (OpenSpec.pre_some hk conds apart _ _).1 hp
  have hw' := DataW.Whole.of_heap (w' := w.forCall tape i) (by rfl) hw
  refine (contract (w.forCall tape i) w.heap.size i.args ds gs before hval hw' hc hkk (hz.weights hw) (hX _ _ _ (by rfl) hx) hholds).mono fun e W' ⟨v, he, hp⟩ => ?_
  subst he
  exact ChangeSpec.post_blind hp
theorem cond_witness {H : Type} {enc : TypeId × Value → H} {C : Checked} {os : Os} {f : FuncId} {fn : Func} {s : OpenSpec} {k : (H : Type) → List (DataW H) → Bool} (hk : s.cond = some k) {conds : List PathCond} {apart : Bool} {X : World → Array Value → Prop} (modest : Bool) (w0 : World) (args : Array Value) (fuel : Nat) (hos : w0.os = os)
    (hv : (w0.forCall (fun _ _ => 0) ⟨#[], args, []⟩).variablesB C.prog = true)
    (hr : ((w0.forCall (fun _ _ => 0) ⟨#[], args, []⟩).heap.toList.drop C.prog.globals.size).take ((begin C.prog (fun _ _ => 0) default).world.heap.size - C.prog.globals.size) =
      (begin C.prog (fun _ _ => 0) default).world.heap.toList.drop C.prog.globals.size)
    (hok : Input.okWideB C.prog (w0.forCall (fun _ _ => 0) ⟨#[], args, []⟩) f ⟨#[], args, []⟩ = true)
    {x : List (DataW H) × List (DataW H) × List MemPlace} (hx : DataW.whole enc C.prog (w0.forCall (fun _ _ => 0) ⟨#[], args, []⟩).memory fn.params.toList s.vars apart args.toList fuel = some x)
    (hconds : conds.all (PathCond.test C.prog ⟨fn.params.toList, x.1, s.bare.plain.varTypes C.prog, x.2.1⟩) = true) (hkk : k H (x.1 ++ x.2.1) = true)
    (hsz : s.bare.sizedB enc C.prog fn apart (w0.forCall (fun _ _ => 0) ⟨#[], args, []⟩).memory args fuel = true)
    (hX : X (w0.forCall (fun _ _ => 0) ⟨#[], args, []⟩).memory args) :
    ∃ (w : World) (tape : Tape) (i : Input), w.os = os ∧ (w.forCall tape i).Shaped C.prog ∧ i.vars = [] ∧ Input.okWide C.prog (w.forCall tape i) .any w.heap.size f i ∧
      ((s.pre enc C.prog fn conds apart (w.forCall tape i).memory i.args ∧ X (w.forCall tape i).memory i.args) ∧ sizedMet enc C.prog fn s apart (w.forCall tape i).memory i.args) ∧ ({ modest := modest } : Assume).holds C.prog (lone (Frame.enter C.prog f i.args .normal) [] (w.forCall tape i)) :=
  ⟨w0, fun _ _ => 0, ⟨#[], args, []⟩, hos, World.shaped_of_B hv hr, (Input.okWide_of_okWideB (base := 0) hok).1, (Input.okWide_of_okWideB hok).2,
    ⟨⟨(OpenSpec.pre_some hk conds apart _ _).2 ⟨x.1, x.2.1, x.2.2, DataW.Whole_of_whole hx, hconds, hkk⟩, hX⟩, sizedMet_of_sizedB hsz⟩, by
    simp only [Assume.holds]
    exact ⟨by simp, by simp, fun _ => Modest.zero, by simp, by simp⟩⟩

set_option maxRecDepth 100000 in
theorem ca_lifted (os : Os) (started : os.Started) (H : Type) (enc : TypeId × Value → H) (F : Stop.Interp) :
    ReturnsInHanded {} Tryz.checked os 3 .any (fun w args => ((Rows.OpenSpec.upto Rows.cardinalityMatchesReferenceSpec).pre enc Tryz.prog Tryz.f3 [] false w args ∧ laidMet Tryz.prog theLaid w) ∧ sizedMet enc Tryz.prog Tryz.f3 (Rows.OpenSpec.upto Rows.cardinalityMatchesReferenceSpec) false w args)
      (((Rows.OpenSpec.upto Rows.cardinalityMatchesReferenceSpec).at F).post enc Tryz.prog Tryz.f3 false true false false) := by
  refine returnsInHanded_of_cond_and (C := Tryz.checked) (k := Rows.uptoSmall) (s := Rows.OpenSpec.upto Rows.cardinalityMatchesReferenceSpec) rfl (X := fun w _ => laidMet Tryz.prog theLaid w) (fun _ _ _ hh h => h.of_heap hh) own_jo started (by kernel_rfl) Tryz.func3
    (cond_witness (enc := enc) (C := Tryz.checked) (os := os) (s := Rows.OpenSpec.upto Rows.cardinalityMatchesReferenceSpec) (k := Rows.uptoSmall) rfl (X := fun w _ => laidMet Tryz.prog theLaid w) false (laidWorld os) #[.agg #[.slice none 0 0, .slice none 0 0, .slice none 0 0], .slice none 0 0, .agg #[.int .i64 0, .string ⟨#[]⟩, .slice none 0 0, .slice none 0 0, .slice none 0 0, .slice none 0 0, .int .i64 0, .int .i64 0, .slice none 0 0]] 8 rfl (by kernel_rfl) (by kernel_rfl) (by kernel_rfl)
      (x := ([.agg [.nil, .nil, .nil], .nil, .agg [.lit (.int .i64 0), .lit (.string []), .nil, .nil, .nil, .nil, .lit (.int .i64 0), .lit (.int .i64 0), .nil]], [], [])) (by kernel_rfl) rfl (by kernel_rfl) (by kernel_rfl) (laidWorld_met os _)) ?_
  intro W base args ds gs before hval0 hW _ hkk hz0 hL _
  have hval : ∀ (j : Nat) t v, Tryz.f3.params[j]? = some t → args[j]? = some v → Value.okWide Tryz.prog W .any base t v := hval0
  have hW' := hW
  obtain ⟨p, q, hA, hV, rfl, hfz, hnd⟩ := hW
  have hA : DataW.TrodAll enc Tryz.prog W 0 (fun _ => true) true Tryz.f3.params.toList args.toList ds p := hA
  obtain ⟨rfl, rfl⟩ := trodVars_none hV
  have hm : Rows.uptoBulkAll ds ≤ 1048576 := by
    have h : Rows.uptoBulkAll (ds ++ []) ≤ 1048576 := of_decide_eq_true hkk
    simpa using h
  have hz' : (DataW.weightsEach Tryz.prog Tryz.f3.params.toList ds).all (· ≤ reachBytes) = true := by
    have e : (Rows.OpenSpec.upto Rows.cardinalityMatchesReferenceSpec).bare.plain.varTypes Tryz.prog = [] := by unfold ChangeSpec.plain DataSpec.varTypes; rfl
    have hz : (DataW.weightsEach Tryz.prog (Tryz.f3.params.toList ++ (Rows.OpenSpec.upto Rows.cardinalityMatchesReferenceSpec).bare.plain.varTypes Tryz.prog) (ds ++ [])).all (· ≤ reachBytes) = true := hz0
    rw [e] at hz
    simpa using hz
  have hpar : ∀ t ∈ Tryz.f3.params.toList, Tryz.prog.readableRec t = true ∧ t < Tryz.prog.types.size := by
    have : Tryz.f3.params.toList.all (fun t => Tryz.prog.readableRec t && decide (t < Tryz.prog.types.size)) = true := by kernel_rfl
    intro t ht
    have := List.all_eq_true.1 this t ht
    rw [Bool.and_eq_true] at this
    exact ⟨this.1, of_decide_eq_true this.2⟩
  have htys : TysB Tryz.prog [⟨RSch, inferInstance, inferInstance⟩, ⟨List RSz, inferInstance, inferInstance⟩, ⟨RQ, inferInstance, inferInstance⟩] Tryz.f3.params.toList := ⟨26, _, rfl, ty_sch, 27, _, rfl, ty_szs, 34, _, rfl, ty_q, rfl⟩
  have hargs := argsB_open htys hA (fun j t v h1 h2 => ⟨_, hval j t v (by simpa using h1) (by simpa using h2)⟩) hz' hm
  obtain ⟨a, csa, _, hal, ha, la, o, cso, _, rfl, ho, _, r, csr, _, rfl, hr, lr, rfl⟩ := hargs
  have walk : Calls Tryz.prog 3 args W fun e W' => e = .returned (.bool true) ∧ Below W.heap.size W W' := by
    refine calls_true (gw_of_laid hL) (ca_fun a o r la lr) ?_
    rw [hal]
    have sv : ∀ {α : Type} [Rep α] [Enc α] {a : α} {cs : List Value}, Rep.is W W.heap.size a cs → RV (oneE default (· < W.heap.size)) W (Enc.eV a) (Rep.box α cs) := fun h => Enc.soundV (E := oneE default (· < W.heap.size)) (fun _ hb => hb) h
    exact ⟨_, _, rfl, sv ha, _, _, rfl, sv ho, _, _, rfl, sv hr, rfl⟩
  refine walk.mono fun e W' ⟨he, hb⟩ => ?_
  obtain ⟨d, d', d2, rfl⟩ : ∃ d d' d2, ds = [d, d', d2] := by
    have hA2 := hA
    rw [Tryz.params3] at hA2
    obtain ⟨_, _, d, ds', _, _, _, rfl, _, _, h2⟩ := trodAll_cons hA2
    obtain ⟨_, _, d', ds'', _, _, _, rfl, _, _, h3⟩ := trodAll_cons h2
    obtain ⟨_, _, d2, ds3, _, _, _, rfl, _, _, h4⟩ := trodAll_cons h3
    obtain ⟨_, rfl, _⟩ := trodAll_nil h4
    exact ⟨_, _, _, rfl⟩
  refine ⟨_, he, [d, d', d2], [], p ++ [], [], p, [], hW', ?_, ?_, ?_, hb.frame _, (fun h => by cases h)⟩
  · exact trodAll_mk1 (shut_bool Tryz.underlying4 true)
  · exact trodAll_below laidOut_jo hb hpar hA (fun x hx => hW'.lt x (by simpa using hx))
  · exact rfl

theorem ca_row : Rows.CardinalityMatchesReferenceUptoSaid :=
  OpenClaim.holds_of_cond 3 Tryz.f3 rfl rfl rfl rfl rfl rfl rfl ⟨rfl, rfl, rfl, rfl, rfl⟩ rfl rfl rfl rfl rfl (by kernel_rfl) Tryz.func3 ca_closed
    (of_decide_eq_true (by kernel_rfl)) (by unfold Func.isWrapper; rw [if_neg (of_decide_eq_false (by kernel_rfl))]; exact ⟨rfl, rfl⟩)
    (fun os started H enc _ F => ca_lifted os started H enc F)

theorem ca_holds : Rows.CardinalityMatchesReferenceUptoCardSaid :=
  Claim7.holds_tied_plain_at .later [] [.data, .data, .data, .sentinel, .sentinel] true (true, "bba4ccb4ff2ba49d9bb28e6253623cece90ba52fec0cc24ba772e21ad6cf3dd7") true
    ca_row (fun _ h => by cases h) (by kernel_rfl) (fun _ h => by cases h) cardinalityMatchesReferenceUpto_row_tie rfl ⟨rfl, rfl⟩ (by kernel_rfl) rfl
    (fun f fn hf hfn => by
      obtain rfl : f = 3 := Option.some.inj ((show Tryz.prog.funcNamed "stemma/stemlaw3.CardinalityMatchesReference" = some 3 by kernel_rfl).symm.trans hf) |>.symm
      obtain rfl : fn = Tryz.f3 := (Option.some.inj (Tryz.func3.symm.trans hfn)).symm
      exact ⟨by kernel_rfl, fun j t ht => by
        rw [Tryz.params3] at ht
        have h3 : t = 26 ∨ t = 27 ∨ t = 34 := by
          rcases j with _ | _ | _ | j
          · exact .inl (by simpa using ht.symm)
          · exact .inr (.inl (by simpa using ht.symm))
          · exact .inr (.inr (by simpa using ht.symm))
          · simp at ht
        rcases h3 with rfl | rfl | rfl
        · exact (show Tryz.prog.wantsStandIn 26 = false by kernel_rfl)
        · exact (show Tryz.prog.wantsStandIn 27 = false by kernel_rfl)
        · exact (show Tryz.prog.wantsStandIn 34 = false by kernel_rfl)⟩)
    (by kernel_rfl)
#print axioms ca_holds
end Go.Proofs.YtmgddgcniacnbaaGreatDoor
