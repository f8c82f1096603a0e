/- The law AutomorphismImages: for every input the call returns true and each argument reads as before. No conditions. -/
import Derived.Test.YtehieobniamagaaGreatZi39
import Derived.ShutString
import Derived.Below
namespace Go.Proofs.YtehieobniamagaaGreat.automorphismImages
open Go.ChangeShapes Go.WideShapes Go.ChangeAt Go.RowKit
open Go.ChangeMaps (open_string shut_string)
set_option linter.all false

theorem own : ownKnob Tryz.prog.godebug = none := ah
theorem laidOut : laidOutB Tryz.prog = true := ah
set_option maxRecDepth 100000 in
theorem lifted(os : Os)(aA : os.Started)(H : Type)(enc : TypeId × Value -> H) :
    ReturnsInHanded {} Tryz.checked os 7 .any (Rows.automorphismImagesSpec.pre6 enc Tryz.prog Tryz.f7 Rows.automorphismImagesRow.domain false) (Rows.automorphismImagesSpec.post enc Tryz.prog Tryz.f7 false true false false) := by
  refine returnsInHanded_of_change (C := Tryz.checked) own aA ah Tryz.func7
    (ChangeSpec.witness6 (enc := enc) (C := Tryz.checked) false ⟨#[], #[.agg #[Ω, .int .i64 0,(), .int .i64 0,()]], []⟩ 8 ah ah ah ah) ?_
  intro W base args ds gs before hval0 hW hcnd _;have hval : ∀ (j : Nat) t v, Tryz.f7.params[j]? = some t -> args[j]? = some v -> Value.okWide Tryz.prog W .any base t v := hval0;have aD := hW;obtain⟨p, q, aB, hV, rfl, hfz, hnd⟩ := hW;have hA : DataW.TrodAll enc Tryz.prog W 0 (fun _ =>true) true Tryz.f7.params.toList args.toList ds p := aB;rw[Tryz.params7]at hA hval;obtain⟨v0, vs0, d0, ds0, p0, q0, hargs, rfl, rfl, h0, r0⟩ := trodAll_cons hA;obtain⟨rfl, rfl, rfl⟩ := trodAll_nil r0;obtain rfl : args = #[v0] := by cases args; simp_all
  obtain⟨rfl, rfl⟩ := trodVars_none hV;have k0 := h0;have lt0 : ∀ x ∈ p0, x.block<W.heap.size := by obtain⟨m, hm⟩ := k0; exact DataW.trod_lt m _ _ _ hm
  obtain⟨c0, aC, aE, rfl, i0⟩ := U0 (hval 0 39 v0 rfl rfl) h0;clear aB hval0;refine(F4 W c0 aC aE i0).mono fun e W' ⟨he, bel⟩ =>?_;subst he;exact⟨_, rfl, _, _, _, [], _, [], aD, trodAll_mk1 (shut_bool Tryz.underlying4 _), (trodAll_cons_mk (Below.trod laidOut ah (of_decide_eq_true ah) k0 bel lt0) trodAll_mk0), rfl, bel.frame _, fun h =>by cases h⟩
theorem ov0 : (Rows.automorphismImagesRow.wf (OpenSpec.ofChange Rows.automorphismImagesSpec)) = true := ah
theorem ov1 : (laidOutB Tryz.pinned.checked.prog) = true := ah
theorem ov2 : (mapsRowed Tryz.pinned.checked.prog) = true := ah
theorem ov3 : (Tryz.f7.params.all (Tryz.pinned.checked.prog.readableRec ·)) = true := ah
theorem ov4 : (namedTie Tryz.pinned.checked.prog Rows.automorphismImagesRow.named Rows.automorphismImagesSpec.vars) = true := ah
theorem ov5 : ((Rows.automorphismImagesRow.stops == [])) = true := ah
theorem ov6 : ((Tryz.pinned.checked.prog.stops == [])) = true := ah
theorem ov7 : ((Rows.automorphismImagesRow.knobs == [])) = true := ah
theorem ov8 : ((Tryz.pinned.checked.prog.stopKnobs == [])) = true := ah
theorem ov9 : ((Rows.automorphismImagesRow.inPlace == Tryz.pinned.checked.prog.inPlace 7)) = true := ah
theorem ov10 : ((Rows.automorphismImagesRow.unfollowed == Tryz.pinned.checked.prog.unfollowed 7)) = true := ah
theorem ov11 : ((Rows.automorphismImagesRow.recurses == Tryz.pinned.checked.prog.recurses 7)) = true := ah
theorem ov12 : ((Rows.automorphismImagesRow.named == Tryz.pinned.checked.prog.varsNamed 7)) = true := ah
theorem ov13 : ((Rows.automorphismImagesRow.maps == (Tryz.f7.params.toList++Rows.automorphismImagesSpec.plain.varTypes Tryz.pinned.checked.prog).any (Tryz.pinned.checked.prog.mapsRec ·))) = true := ah
theorem ov14 : ((Rows.automorphismImagesRow.ifaces == (Tryz.f7.params.toList++Rows.automorphismImagesSpec.plain.varTypes Tryz.pinned.checked.prog).any (Tryz.pinned.checked.prog.ifacesRec ·))) = true := ah
theorem ov15 : ((Rows.automorphismImagesRow.mapsOut == Tryz.pinned.checked.prog.mapsAmong Tryz.f7.resultTypes.toList)) = true := ah
theorem ov16 : ((Rows.automorphismImagesRow.loops == (Tryz.f7.params.toList++Rows.automorphismImagesSpec.plain.varTypes Tryz.pinned.checked.prog).any (Tryz.pinned.checked.prog.loopsFrom ·))) = true := ah
theorem ov17 : ((Rows.automorphismImagesRow.wideKeys == (Tryz.f7.params.toList++Rows.automorphismImagesSpec.plain.varTypes Tryz.pinned.checked.prog++Tryz.f7.resultTypes.toList).any (Tryz.pinned.checked.prog.wideKeysFrom ·))) = true := ah
theorem ov18 : (Rows.automorphismImagesSpec.vars.all (Tryz.pinned.checked.prog.varReadable ·)) = true := ah
theorem ov19 : (Tryz.f7.resultTypes.all (fun t =>Tryz.pinned.checked.prog.readableRec t&&decide (t<Tryz.pinned.checked.prog.types.size))) = true := ah
theorem ov20 : ((Rows.automorphismImagesRow.ifacesOut == Tryz.f7.resultTypes.toList.any (Tryz.pinned.checked.prog.ifacesRec ·))) = true := ah
theorem ov21 : ((Rows.automorphismImagesRow.loopsOut == Tryz.f7.resultTypes.toList.any (Tryz.pinned.checked.prog.loopsFrom ·))) = true := ah
theorem ov22 : ((Rows.automorphismImagesRow.plainKeys == Tryz.pinned.checked.prog.plainKeys)) = true := ah
theorem ov23 : (Rows.automorphismImagesRow.shortTexts.isNone) = true := ah
theorem ov24 : (Tryz.pinned.checked.prog.stopsHeard) = true := ah
theorem ov25 : (Tryz.pinned.checked.prog.mayEnter) = true := ah
theorem ov26 : ((Rows.automorphismImagesRow.lifted == Tryz.pinned.checked.prog.liftsFinal)) = true := ah
theorem ov27 : ((Tryz.pinned.checked.prog.make == some Rows.automorphismImagesRow.make)) = true := ah
theorem ov28 : ((Rows.automorphismImagesRow.kinds == (if Rows.automorphismImagesRow.domain.isEmpty then [] else Tryz.f7.params.toList.map fun t =>match Tryz.pinned.checked.prog.underlying t with|some (.int k) =>some k | _ =>none))) = true := ah
theorem ov29 : ((Rows.automorphismImagesRow.pinned == Rows.automorphismImagesRow.pinnedBy)) = true := ah
theorem ov30 : ((Rows.automorphismImagesRow.veiled == (Tryz.f7.params.toList++Rows.automorphismImagesSpec.plain.varTypes Tryz.pinned.checked.prog++Tryz.f7.resultTypes.toList).any (Tryz.pinned.checked.prog.veiledRec ·))) = true := ah
theorem ov31 : (Rows.automorphismImagesRow.veiledFits Tryz.pinned.checked.prog Tryz.f7.params.toList (Tryz.f7.params.toList++Rows.automorphismImagesSpec.plain.varTypes Tryz.pinned.checked.prog++Tryz.f7.resultTypes.toList)) = true := ah
theorem Ds{a b : Bool}(h : a = true)(k : b = true) : (a&&b) = true := by rw[h, k]; rfl
theorem ovJoin(P : Program)(f : FuncId)(fn : Func)(s : ChangeSpec)(c : OpenClaim)(h0 : (c.wf (OpenSpec.ofChange s)) = true)(h1 : (laidOutB P) = true)(h2 : (mapsRowed P) = true)(h3 : (fn.params.all (P.readableRec ·)) = true)(h4 : (namedTie P c.named s.vars) = true)(h5 : ((c.stops == [])) = true)(h6 : ((P.stops == [])) = true)(h7 : ((c.knobs == [])) = true)(h8 : ((P.stopKnobs == [])) = true)(h9 : ((c.inPlace == P.inPlace f)) = true)(aV : ((c.unfollowed == P.unfollowed f)) = true)(aU : ((c.recurses == P.recurses f)) = true)(aT : ((c.named == P.varsNamed f)) = true)(aS : ((c.maps == (fn.params.toList++s.plain.varTypes P).any (P.mapsRec ·))) = true)(aR : ((c.ifaces == (fn.params.toList++s.plain.varTypes P).any (P.ifacesRec ·))) = true)(aQ : ((c.mapsOut == P.mapsAmong fn.resultTypes.toList)) = true)(aP : ((c.loops == (fn.params.toList++s.plain.varTypes P).any (P.loopsFrom ·))) = true)(aO : ((c.wideKeys == (fn.params.toList++s.plain.varTypes P++fn.resultTypes.toList).any (P.wideKeysFrom ·))) = true)(aN : (s.vars.all (P.varReadable ·)) = true)(aM : (fn.resultTypes.all (fun t =>P.readableRec t&&decide (t<P.types.size))) = true)(aL : ((c.ifacesOut == fn.resultTypes.toList.any (P.ifacesRec ·))) = true)(aK : ((c.loopsOut == fn.resultTypes.toList.any (P.loopsFrom ·))) = true)(aJ : ((c.plainKeys == P.plainKeys)) = true)(aI : (c.shortTexts.isNone) = true)(aH : (P.stopsHeard) = true)(aG : (P.mayEnter) = true)(aF : ((c.lifted == P.liftsFinal)) = true)(aE : ((P.make == some c.make)) = true)(aD : ((c.kinds == (if c.domain.isEmpty then [] else fn.params.toList.map fun t =>match P.underlying t with|some (.int k) =>some k | _ =>none))) = true)(aC : ((c.pinned == c.pinnedBy)) = true)(aB : ((c.veiled == (fn.params.toList++s.plain.varTypes P++fn.resultTypes.toList).any (P.veiledRec ·))) = true)(aA : (c.veiledFits P fn.params.toList (fn.params.toList++s.plain.varTypes P++fn.resultTypes.toList)) = true) : joinedFacts P f fn s c = true := Ds (Ds (Ds (Ds (Ds (Ds (Ds (Ds (Ds (Ds (Ds (Ds (Ds (Ds (Ds (Ds (Ds (Ds (Ds (Ds (Ds (Ds (Ds (Ds (Ds (Ds (Ds (Ds (Ds (Ds (Ds (h0) h1) h2) h3) h4) h5) h6) h7) h8) h9) aV) aU) aT) aS) aR) aQ) aP) aO) aN) aM) aL) aK) aJ) aI) aH) aG) aF) aE) aD) aC) aB) aA
theorem ovAll : joinedFacts Tryz.pinned.checked.prog 7 Tryz.f7 Rows.automorphismImagesSpec Rows.automorphismImagesRow = true := ovJoin _ _ _ _ _ ov0 ov1 ov2 ov3 ov4 ov5 ov6 ov7 ov8 ov9 ov10 ov11 ov12 ov13 ov14 ov15 ov16 ov17 ov18 ov19 ov20 ov21 ov22 ov23 ov24 ov25 ov26 ov27 ov28 ov29 ov30 ov31
theorem ovInst : Tryz.f7.isInstance Tryz.pinned.checked.prog Rows.automorphismImagesRow.origin Rows.automorphismImagesRow.targs := of_decide_eq_true ah
theorem ovWrap : Tryz.f7.isWrapper Tryz.pinned.checked.prog Rows.automorphismImagesRow.wrapper Rows.automorphismImagesRow.mainSum := by unfold Func.isWrapper; first|(rw[if_pos ak]; kernel_rfl)|(rw[if_neg ak]; exact⟨rfl, rfl⟩)
theorem ovName : Tryz.pinned.checked.prog.funcNamed Rows.automorphismImagesRow.func = some 7 := ah
theorem over : Rows.automorphismImagesRow.holds Tryz.pinned (OpenSpec.ofChange Rows.automorphismImagesSpec) :=
  OpenClaim.holds_of_wide 7 Tryz.f7 rfl rfl rfl rfl rfl rfl rfl ⟨rfl, rfl, rfl, rfl, rfl⟩ rfl rfl rfl rfl rfl ovName Tryz.func7 ovAll ovInst ovWrap
    (fun os aA H enc _ =>lifted os aA H enc)
/-- The statement. -/
theorem proved : Rows.AutomorphismImagesSaid := over
end Go.Proofs.YtehieobniamagaaGreat.automorphismImages
