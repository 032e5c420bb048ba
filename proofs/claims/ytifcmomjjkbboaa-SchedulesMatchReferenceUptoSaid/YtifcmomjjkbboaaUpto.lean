/- The lift of a law's second form: its walk, for arguments of small bulk, ends in 'true' and leaves old memory alone. -/
import Derived.Test.YtifcmomjjkbboaaRep
import Derived.Test.YtifcmomjjkbboaaRows
import Derived.Deep.CondSized
namespace Go.Proofs.Ytifcmomjjkbboaa
open Go.RowKit Go.ChangeShapes Go.WideShapes Go.Rp

theorem bulk_pos {H : Type} (d : DataW H) : 1 ≤ Rows.uptoBulk d := by
  cases d with
  | lit l => cases l <;> simp [Rows.uptoBulk]
  | _ => simp [Rows.uptoBulk]

/-- so much of a value's bulk is known -/
class Bulk (α : Type) [Rep α] where
  sz : α → Nat
  le : ∀ {H : Type} {enc : TypeId × Value → H} {P : Program} {w : World} {B fuel : Nat} {T : TypeId} {a : α} {cs : List Value} {x : DataW H × List MemPlace},
    Rep.Ty α P T → DataW.trod enc P w 0 (fun _ => true) true fuel T cs = some x → Rep.is w B a cs → sz a ≤ Rows.uptoBulk x.1
instance : Bulk Int := ⟨fun _ => 1, fun _ _ _ => bulk_pos _⟩
instance : Bulk Bool := ⟨fun _ => 1, fun _ _ _ => bulk_pos _⟩
instance : Bulk ByteArray where
  sz a := a.size + 1
  le {H enc P w B fuel T a cs x} ht h hi := by
    have h1 := hi.1
    subst h1
    cases fuel with
    | zero => simp [DataW.trod] at h
    | succ n =>
      obtain ⟨hu, _⟩ := ht
      unfold DataW.trod at h
      rw [hu] at h
      simp only at h
      split at h
      · injection h with h
        subst h
        show a.size + 1 ≤ a.data.toList.length + 1
        rw [Array.length_toList]
        exact Nat.le_refl _
      · cases h
instance {α : Type} [Flds α] : Bulk (Rp.St α) := ⟨fun _ => 1, fun _ _ _ => bulk_pos _⟩
theorem bulk_sum {H : Type} {α : Type} (sz : α → Nat) : ∀ (xs : List α) (ds : List (DataW H)), xs.length = ds.length → (∀ (i : Nat) (x : α) (d : DataW H), xs[i]? = some x → ds[i]? = some d → sz x ≤ Rows.uptoBulk d) → (xs.map sz).sum ≤ Rows.uptoBulkAll ds
  | [], ds, _, _ => by simp
  | x :: xs, [], h, _ => by simp at h
  | x :: xs, d :: ds, h, hle => by
    have h1 := hle 0 x d rfl rfl
    have h2 := bulk_sum sz xs ds (by simpa using h) (fun i y e hy he => hle (i + 1) y e (by simpa using hy) (by simpa using he))
    simp only [List.map_cons, List.sum_cons, Rows.uptoBulkAll]
    omega
instance {α : Type} [Rep α] [Bulk α] : Bulk (List α) where
  sz xs := (xs.map Bulk.sz).sum + 1
  le {H enc P w B fuel T a cs x} ht h hi := by
    obtain ⟨e, hu, _, _, hte, hn⟩ := ht
    have hce : P.cellsOf e = Rep.n α := Rep.ty_cells hte
    obtain ⟨A, cap, hcs, h1, h2, h3, h4, h5⟩ := hi
    rcases DataW.trod_slice hu h with ⟨hc, rfl⟩ | ⟨a', len, cap', elems, rest, n, _, hc, rfl, _, hl, hm, hlen, hel, hsp, _⟩
    · rw [hcs] at hc
      injection hc with hc _
      injection hc with _ hl _
      have : a = [] := List.eq_nil_of_length_eq_zero hl
      subst this
      simp [Rows.uptoBulk]
    · rw [hcs] at hc
      injection hc with hc _
      injection hc with hA hl' hcap'
      simp only [Rows.uptoBulk]
      have key := bulk_sum (Bulk.sz (α := α)) a (elems.map (·.1)) (by rw [List.length_map, hlen, hl']) (fun i y d hy hd => by
        obtain ⟨hi1, hy2⟩ := List.getElem?_eq_some_iff.1 hy
        obtain ⟨b, off, es, hAe, hbB, hes, hcell⟩ := h5 i hi1
        have hi2 : i < elems.length := by omega
        have he := hel i (by omega)
        rw [List.getElem?_eq_getElem hi2] at he
        rw [List.getElem?_map, List.getElem?_eq_getElem hi2] at hd
        simp only [Option.map_some, Option.some.injEq] at hd
        subst hd
        cases hcc : w.cells? 0 (a'.add (i * P.cellsOf e)) (P.cellsOf e) with
        | none => rw [hcc] at he; cases he
        | some es' =>
          rw [hcc] at he
          simp only [Option.bind_some] at he
          have hg := cells?_get hcc
          have hgl := cells?_length hcc
          have hA' : a' = ⟨b, off, none⟩ := by
            rw [hAe] at hA
            injection hA with hA
            exact hA.symm
          have hsame : es' = es := by
            refine List.ext_getElem? fun j => ?_
            by_cases hj : j < Rep.n α
            · rw [← hg j (by rw [hce]; exact hj), hA', addr_add, hce]
              exact hcell j hj
            · rw [List.getElem?_eq_none (by rw [hgl, hce]; omega), List.getElem?_eq_none (by rw [Rep.len hes]; omega)]
          subst hsame
          rw [hy2] at hes
          exact Bulk.le hte he hes)
      omega

structure RepB where
  α : Type
  r : Rep α
  b : @Bulk α r
def ArgsB (w : World) (B m : Nat) : List RepB → List Value → Prop
  | [], vs => vs = []
  | ⟨α, _, _⟩ :: r, vs => ∃ (a : α) (cs : List Value) (vs' : List Value), vs = Rep.box α cs :: vs' ∧ Rep.is w B a cs ∧ Bulk.sz a ≤ m ∧ ArgsB w B m r vs'
def TysB (P : Program) : List RepB → List TypeId → Prop
  | [], ts => ts = []
  | ⟨α, _, _⟩ :: r, ts => ∃ t ts', ts = t :: ts' ∧ Rep.Ty α P t ∧ TysB P r ts'

theorem argsB_open {H : Type} {enc : TypeId × Value → H} {P : Program} {w : World} {m : Nat} : ∀ {αs : List RepB} {ts : List TypeId} {vs : List Value} {ds : List (DataW H)} {p : List MemPlace} {b : Nat}, TysB P αs ts → DataW.TrodAll enc P w 0 (fun _ => true) true ts vs ds p →
    (∀ (j : Nat) (t : TypeId) (v : Value), ts[j]? = some t → vs[j]? = some v → Value.okWide P w .any b t v) → (DataW.weightsEach P ts ds).all (· ≤ reachBytes) = true → Rows.uptoBulkAll ds ≤ m → ArgsB w w.heap.size m αs vs
  | [], ts, vs, ds, p, b, ht, hA, _, _, _ => by
    have : ts = [] := ht
    subst this
    obtain ⟨rfl, _, _⟩ := trodAll_nil hA
    rfl
  | ⟨α, _, _⟩ :: r, ts, vs, ds, p, b, ht, hA, hok, hz, hm => by
    obtain ⟨t, ts', rfl, hty, hr⟩ := ht
    obtain ⟨v, vs', d, ds', p, q, rfl, rfl, rfl, hd, hrest⟩ := trodAll_cons hA
    obtain ⟨hz1, hz2⟩ := weightsEach_cons hz
    obtain ⟨fuel, hf⟩ := hd
    obtain ⟨a, ha⟩ := Rep.opens hty hf hz1
    have hle := Bulk.le hty hf ha
    simp only [Rows.uptoBulkAll] at hm
    refine ⟨a, _, vs', by rw [Rep.okBox hty (hok 0 t v rfl rfl)], ?_, by dsimp only at hle; omega, argsB_open hr hrest (fun j t' v' h1 h2 => hok (j + 1) t' v' (by simpa using h1) (by simpa using h2)) hz2 (by omega)⟩
    exact ha

theorem liftedB {H : Type} {enc : TypeId × Value → H} {C : Checked} {os : Os} {f : FuncId} {fn : Func} {s : ChangeSpec} {tb : TypeId} {αs : List RepB} {F : Stop.Interp}
    (own : ownKnob C.prog.godebug = none) (laid : laidOutB C.prog = true) (started : os.Started) (noInit : C.prog.inits.idxOf? f = none) (hfn : C.prog.funcs[f]? = some fn)
    (hpar : ∀ t ∈ fn.params.toList, C.prog.readableRec t = true ∧ t < C.prog.types.size) (htys : TysB C.prog αs fn.params.toList)
    (hres : fn.resultTypes = #[tb]) (htb : C.prog.underlying tb = some .bool)
    (hv : s.vars = []) (hs : ∀ ds : List (DataW H), ds.length = fn.params.size → s.fn H (ds ++ []) = { results := [.lit (.bool true)], args := ds })
    (witness : ∃ (w : World) (tape : Tape) (i : Input), w.os = os ∧ (w.forCall tape i).Shaped C.prog ∧ i.vars = [] ∧ Input.okWide C.prog (w.forCall tape i) .any w.heap.size f i ∧
      (Rows.OpenSpec.upto s).pre6 enc C.prog fn [] false (w.forCall tape i).memory i.args ∧ ({} : Assume).holds C.prog (lone (Frame.enter C.prog f i.args .normal) [] (w.forCall tape i)))
    (walk : ∀ (W : World) (args : Array Value), ArgsB W W.heap.size 1048576 αs args.toList → Calls C.prog f args W fun e W' => e = .returned (.bool true) ∧ Below W.heap.size W W') :
    ReturnsInHanded {} C os f .any ((Rows.OpenSpec.upto s).pre6 enc C.prog fn [] false) (((Rows.OpenSpec.upto s).at F).post enc C.prog fn false true false false) := by
  refine returnsInHanded_of_cond_sized (k := Rows.uptoSmall) rfl own started noInit hfn witness ?_
  intro W base args ds gs before hval hW _ hk hz _
  have hW' := hW
  obtain ⟨p, q, hA, hV, rfl, hfz, hnd⟩ := hW
  have hvars : (Rows.OpenSpec.upto s).vars = [] := hv
  rw [hvars] at hV
  obtain ⟨rfl, rfl⟩ := trodVars_none hV
  have hz' : (DataW.weightsEach C.prog fn.params.toList ds).all (· ≤ reachBytes) = true := by
    have e : (Rows.OpenSpec.upto s).bare.plain.varTypes C.prog = [] := by
      have : (Rows.OpenSpec.upto s).bare.plain.vars = [] := hv
      unfold DataSpec.varTypes; rw [this]; rfl
    rw [e] at hz
    simpa using hz
  have hm : Rows.uptoBulkAll ds ≤ 1048576 := by
    have h : Rows.uptoBulkAll (ds ++ []) ≤ 1048576 := of_decide_eq_true hk
    simpa using h
  have hlen : ds.length = fn.params.size := by
    have : ∀ {ts : List TypeId} {vs : List Value} {ds : List (DataW H)} {p : List MemPlace}, DataW.TrodAll enc C.prog W 0 (fun _ => true) true ts vs ds p → ds.length = ts.length := by
      intro ts
      induction ts with
      | nil => intro vs ds p h; obtain ⟨_, rfl, _⟩ := trodAll_nil h; rfl
      | cons t ts ih => intro vs ds p h; obtain ⟨v, vs', d, ds', p1, q1, rfl, rfl, rfl, hd, hrest⟩ := trodAll_cons h; simp [ih hrest]
    simpa using this hA
  have hfn' : ((Rows.OpenSpec.upto s).at F).fn H (ds ++ []) = { results := [.lit (.bool true)], args := ds } := hs ds hlen
  refine (walk W args (argsB_open htys hA (fun j t v h1 h2 => hval j t v (by simpa using h1) (by simpa using h2)) hz' hm)).mono fun e W' ⟨he, hb⟩ => ?_
  refine ⟨_, he, ds, [], p ++ [], [], p, [], hW', ?_, ?_, ?_, hb.frame _, (fun h => by cases h)⟩
  · rw [hfn', hres]
    exact trodAll_mk1 (shut_bool htb true)
  · rw [hfn']
    exact trodAll_below laid hb hpar hA (fun x hx => hW'.lt x (by simpa using hx))
  · rw [hfn']
    show DataW.TrodVars enc C.prog W' (fun b => decide (b < W.heap.size)) ((Rows.OpenSpec.upto s).at F).vars _ _
    rw [show ((Rows.OpenSpec.upto s).at F).vars = [] from hv]
    rfl
end Go.Proofs.Ytifcmomjjkbboaa
