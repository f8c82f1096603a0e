/- The law AutomorphismAction: for every input the call returns true and each argument reads as before. No conditions. -/
import Derived.Test.YtehieobniamagaaGreatZa39
import Derived.ShutString
import Derived.Below
namespace Go.Proofs.YtehieobniamagaaGreat.automorphismAction
open Go.ChangeShapes Go.WideShapes Go.ChangeAt Go.RowKit
open Go.ChangeMaps (open_string shut_string)
set_option linter.all false

theorem own : ownKnob Tryz.prog.godebug = none := ah
theorem laidOut : laidOutB Tryz.prog = true := ah
set_option maxRecDepth 100000 in
theorem lifted(os : Os)(aA : os.Started)(H : Type)(enc : TypeId × Value -> H) :
    ReturnsInHanded {} Tryz.checked os 11 .any (Rows.automorphismActionSpec.pre6 enc Tryz.prog Tryz.f11 Rows.automorphismActionRow.domain false) (Rows.automorphismActionSpec.post enc Tryz.prog Tryz.f11 false true false false) := by
  refine returnsInHanded_of_change (C := Tryz.checked) own aA ah Tryz.func11
    (ChangeSpec.witness6 (enc := enc) (C := Tryz.checked) false ⟨#[], #[.agg #[.int .i64 0, .int .i64 0, .slice none 0 0], .agg #[.slice none 0 0, .slice none 0 0, .int .i64 0], .agg #[.slice none 0 0, .slice none 0 0, .int .i64 0]], []⟩ 8 ah ah ah ah) ?_
  intro W base args ds gs before hval0 hW hcnd _;have hval : ∀ (j : Nat) t v, Tryz.f11.params[j]? = some t -> args[j]? = some v -> Value.okWide Tryz.prog W .any base t v := hval0;have aM := hW;obtain⟨p, q, aB, hV, rfl, hfz, hnd⟩ := hW;have hA : DataW.TrodAll enc Tryz.prog W 0 (fun _ =>true) true Tryz.f11.params.toList args.toList ds p := aB;rw[Tryz.params11]at hA hval;obtain⟨v0, vs0, d0, ds0, p0, q0, hargs, rfl, rfl, h0, r0⟩ := trodAll_cons hA;obtain⟨v1, vs1, d1, ds1, p1, q1, rfl, rfl, rfl, h1, r1⟩ := trodAll_cons r0;obtain⟨v2, vs2, d2, ds2, p2, q2, rfl, rfl, rfl, h2, r2⟩ := trodAll_cons r1;obtain⟨rfl, rfl, rfl⟩ := trodAll_nil r2;obtain rfl : args = #[v0, v1, v2] := by cases args; simp_all
  obtain⟨rfl, rfl⟩ := trodVars_none hV;have k0 := h0;have lt0 : ∀ x ∈ p0, x.block<W.heap.size := by obtain⟨m, hm⟩ := k0; exact DataW.trod_lt m _ _ _ hm
  obtain⟨P0, M0, aK, aL, rfl, i0⟩ := Pc (hval 0 24 v0 rfl rfl) h0;have k1 := h1;have lt1 : ∀ x ∈ p1, x.block<W.heap.size := by obtain⟨m, hm⟩ := k1; exact DataW.trod_lt m _ _ _ hm
  obtain⟨aH, aD, aJ, aF, aO, rfl, i1, j1⟩ := Nu (hval 1 26 v1 rfl rfl) h1;have k2 := h2;have lt2 : ∀ x ∈ p2, x.block<W.heap.size := by obtain⟨m, hm⟩ := k2; exact DataW.trod_lt m _ _ _ hm
  obtain⟨aG, aC, aI, aE, aN, rfl, i2, j2⟩ := Nu (hval 2 26 v2 rfl rfl) h2;clear aB hval0;refine(EW W P0 M0 aK aL i0 aH aD aJ aF aO i1 j1 aG aC aI aE aN i2 j2).mono fun e W' ⟨he, bel⟩ =>?_;subst he;exact⟨_, rfl, _, _, _, [], _, [], aM, trodAll_mk1 (shut_bool Tryz.underlying4 _), (trodAll_cons_mk (Below.trod laidOut ah (of_decide_eq_true ah) k0 bel lt0) (trodAll_cons_mk (Below.trod laidOut ah (of_decide_eq_true ah) k1 bel lt1) (trodAll_cons_mk (Below.trod laidOut ah (of_decide_eq_true ah) k2 bel lt2) trodAll_mk0))), rfl, bel.frame _, fun h =>by cases h⟩
theorem ov0 : (Rows.automorphismActionRow.wf (OpenSpec.ofChange Rows.automorphismActionSpec)) = true := ah
theorem ov1 : (laidOutB Tryz.pinned.checked.prog) = true := ah
theorem ov2 : (mapsRowed Tryz.pinned.checked.prog) = true := ah
theorem ov3 : (Tryz.f11.params.all (Tryz.pinned.checked.prog.readableRec ·)) = true := ah
theorem ov4 : (namedTie Tryz.pinned.checked.prog Rows.automorphismActionRow.named Rows.automorphismActionSpec.vars) = true := ah
theorem ov5 : ((Rows.automorphismActionRow.stops == [])) = true := ah
theorem ov6 : ((Tryz.pinned.checked.prog.stops == [])) = true := ah
theorem ov7 : ((Rows.automorphismActionRow.knobs == [])) = true := ah
theorem ov8 : ((Tryz.pinned.checked.prog.stopKnobs == [])) = true := ah
theorem Z9 : ((Rows.automorphismActionRow.inPlace == Tryz.pinned.checked.prog.inPlace 11)) = true := ah
theorem ZK : ((Rows.automorphismActionRow.unfollowed == Tryz.pinned.checked.prog.unfollowed 11)) = true := ah
theorem ZJ : ((Rows.automorphismActionRow.recurses == Tryz.pinned.checked.prog.recurses 11)) = true := ah
theorem ZI : ((Rows.automorphismActionRow.named == Tryz.pinned.checked.prog.varsNamed 11)) = true := ah
theorem ZH : ((Rows.automorphismActionRow.maps == (Tryz.f11.params.toList++Rows.automorphismActionSpec.plain.varTypes Tryz.pinned.checked.prog).any (Tryz.pinned.checked.prog.mapsRec ·))) = true := ah
theorem ZG : ((Rows.automorphismActionRow.ifaces == (Tryz.f11.params.toList++Rows.automorphismActionSpec.plain.varTypes Tryz.pinned.checked.prog).any (Tryz.pinned.checked.prog.ifacesRec ·))) = true := ah
theorem ZF : ((Rows.automorphismActionRow.mapsOut == Tryz.pinned.checked.prog.mapsAmong Tryz.f11.resultTypes.toList)) = true := ah
theorem ZE : ((Rows.automorphismActionRow.loops == (Tryz.f11.params.toList++Rows.automorphismActionSpec.plain.varTypes Tryz.pinned.checked.prog).any (Tryz.pinned.checked.prog.loopsFrom ·))) = true := ah
theorem ZD : ((Rows.automorphismActionRow.wideKeys == (Tryz.f11.params.toList++Rows.automorphismActionSpec.plain.varTypes Tryz.pinned.checked.prog++Tryz.f11.resultTypes.toList).any (Tryz.pinned.checked.prog.wideKeysFrom ·))) = true := ah
theorem ZC : (Rows.automorphismActionSpec.vars.all (Tryz.pinned.checked.prog.varReadable ·)) = true := ah
theorem ZB : (Tryz.f11.resultTypes.all (fun t =>Tryz.pinned.checked.prog.readableRec t&&decide (t<Tryz.pinned.checked.prog.types.size))) = true := ah
theorem ZA : ((Rows.automorphismActionRow.ifacesOut == Tryz.f11.resultTypes.toList.any (Tryz.pinned.checked.prog.ifacesRec ·))) = true := ah
theorem Zz : ((Rows.automorphismActionRow.loopsOut == Tryz.f11.resultTypes.toList.any (Tryz.pinned.checked.prog.loopsFrom ·))) = true := ah
theorem Zy : ((Rows.automorphismActionRow.plainKeys == Tryz.pinned.checked.prog.plainKeys)) = true := ah
theorem Zx : (Rows.automorphismActionRow.shortTexts.isNone) = true := ah
theorem Zw : (Tryz.pinned.checked.prog.stopsHeard) = true := ah
theorem Zv : (Tryz.pinned.checked.prog.mayEnter) = true := ah
theorem Zu : ((Rows.automorphismActionRow.lifted == Tryz.pinned.checked.prog.liftsFinal)) = true := ah
theorem Zt : ((Tryz.pinned.checked.prog.make == some Rows.automorphismActionRow.make)) = true := ah
theorem Zs : ((Rows.automorphismActionRow.kinds == (if Rows.automorphismActionRow.domain.isEmpty then [] else Tryz.f11.params.toList.map fun t =>match Tryz.pinned.checked.prog.underlying t with|some (.int k) =>some k | _ =>none))) = true := ah
theorem Zr : ((Rows.automorphismActionRow.pinned == Rows.automorphismActionRow.pinnedBy)) = true := ah
theorem Zq : ((Rows.automorphismActionRow.veiled == (Tryz.f11.params.toList++Rows.automorphismActionSpec.plain.varTypes Tryz.pinned.checked.prog++Tryz.f11.resultTypes.toList).any (Tryz.pinned.checked.prog.veiledRec ·))) = true := ah
theorem Zp : (Rows.automorphismActionRow.veiledFits Tryz.pinned.checked.prog Tryz.f11.params.toList (Tryz.f11.params.toList++Rows.automorphismActionSpec.plain.varTypes Tryz.pinned.checked.prog++Tryz.f11.resultTypes.toList)) = true := ah
theorem CF{a b : Bool}(h : a = true)(k : b = true) : (a&&b) = true := by rw[h, k]; rfl
theorem Xo(P : Program)(f : FuncId)(fn : Func)(s : ChangeSpec)(c : OpenClaim)(h0 : (c.wf (OpenSpec.ofChange s)) = true)(h1 : (laidOutB P) = true)(h2 : (mapsRowed P) = true)(h3 : (fn.params.all (P.readableRec ·)) = true)(h4 : (namedTie P c.named s.vars) = true)(h5 : ((c.stops == [])) = true)(h6 : ((P.stops == [])) = true)(h7 : ((c.knobs == [])) = true)(h8 : ((P.stopKnobs == [])) = true)(h9 : ((c.inPlace == P.inPlace f)) = true)(aV : ((c.unfollowed == P.unfollowed f)) = true)(aU : ((c.recurses == P.recurses f)) = true)(aT : ((c.named == P.varsNamed f)) = true)(aS : ((c.maps == (fn.params.toList++s.plain.varTypes P).any (P.mapsRec ·))) = true)(aR : ((c.ifaces == (fn.params.toList++s.plain.varTypes P).any (P.ifacesRec ·))) = true)(aQ : ((c.mapsOut == P.mapsAmong fn.resultTypes.toList)) = true)(aP : ((c.loops == (fn.params.toList++s.plain.varTypes P).any (P.loopsFrom ·))) = true)(aO : ((c.wideKeys == (fn.params.toList++s.plain.varTypes P++fn.resultTypes.toList).any (P.wideKeysFrom ·))) = true)(aN : (s.vars.all (P.varReadable ·)) = true)(aM : (fn.resultTypes.all (fun t =>P.readableRec t&&decide (t<P.types.size))) = true)(aL : ((c.ifacesOut == fn.resultTypes.toList.any (P.ifacesRec ·))) = true)(aK : ((c.loopsOut == fn.resultTypes.toList.any (P.loopsFrom ·))) = true)(aJ : ((c.plainKeys == P.plainKeys)) = true)(aI : (c.shortTexts.isNone) = true)(aH : (P.stopsHeard) = true)(aG : (P.mayEnter) = true)(aF : ((c.lifted == P.liftsFinal)) = true)(aE : ((P.make == some c.make)) = true)(aD : ((c.kinds == (if c.domain.isEmpty then [] else fn.params.toList.map fun t =>match P.underlying t with|some (.int k) =>some k | _ =>none))) = true)(aC : ((c.pinned == c.pinnedBy)) = true)(aB : ((c.veiled == (fn.params.toList++s.plain.varTypes P++fn.resultTypes.toList).any (P.veiledRec ·))) = true)(aA : (c.veiledFits P fn.params.toList (fn.params.toList++s.plain.varTypes P++fn.resultTypes.toList)) = true) : joinedFacts P f fn s c = true := CF (CF (CF (CF (CF (CF (CF (CF (CF (CF (CF (CF (CF (CF (CF (CF (CF (CF (CF (CF (CF (CF (CF (CF (CF (CF (CF (CF (CF (CF (CF (h0) h1) h2) h3) h4) h5) h6) h7) h8) h9) aV) aU) aT) aS) aR) aQ) aP) aO) aN) aM) aL) aK) aJ) aI) aH) aG) aF) aE) aD) aC) aB) aA
theorem YA : joinedFacts Tryz.pinned.checked.prog 11 Tryz.f11 Rows.automorphismActionSpec Rows.automorphismActionRow = true := Xo _ _ _ _ _ ov0 ov1 ov2 ov3 ov4 ov5 ov6 ov7 ov8 Z9 ZK ZJ ZI ZH ZG ZF ZE ZD ZC ZB ZA Zz Zy Zx Zw Zv Zu Zt Zs Zr Zq Zp
theorem Xp : Tryz.f11.isInstance Tryz.pinned.checked.prog Rows.automorphismActionRow.origin Rows.automorphismActionRow.targs := of_decide_eq_true ah
theorem Xm : Tryz.f11.isWrapper Tryz.pinned.checked.prog Rows.automorphismActionRow.wrapper Rows.automorphismActionRow.mainSum := by unfold Func.isWrapper; first|(rw[if_pos ak]; kernel_rfl)|(rw[if_neg ak]; exact⟨rfl, rfl⟩)
theorem Xn : Tryz.pinned.checked.prog.funcNamed Rows.automorphismActionRow.func = some 11 := ah
theorem over : Rows.automorphismActionRow.holds Tryz.pinned (OpenSpec.ofChange Rows.automorphismActionSpec) :=
  OpenClaim.holds_of_wide 11 Tryz.f11 rfl rfl rfl rfl rfl rfl rfl ⟨rfl, rfl, rfl, rfl, rfl⟩ rfl rfl rfl rfl rfl Xn Tryz.func11 YA Xp Xm
    (fun os aA H enc _ =>lifted os aA H enc)
/-- The statement. -/
theorem proved : Rows.AutomorphismActionSaid := over
end Go.Proofs.YtehieobniamagaaGreat.automorphismAction
