import Derived.Below
import Derived.ChangeOld
import Derived.Lib.SmallJoins
import Derived.OpenShut
import Derived.ProofKit
import Derived.ShutString
import Derived.WalkKit
import Derived.Test.YtnbclgbicnpmnaaGreatRows
import Derived.Test.YtnbclgbicnpmnaaGreatFacts
import Derived.Test.YtnbclgbicnpmnaaGreatA53
namespace Go.Proofs.YtnbclgbicnpmnaaGreat.historyMade
open Go.ChangeShapes Go.WideShapes Go.ChangeAt Go.RowKit Go.Joins
open Go.ChangeMaps (open_string shut_string)
set_option linter.unusedVariables false

set_option maxRecDepth 100000 in
theorem lifted (os : Os) (started : os.Started) (H : Type) (enc : TypeId × Value → H) :
    ReturnsInHanded {} Tryz.checked os 4 .any (Rows.historyMadeSpec.pre6 enc Tryz.prog Tryz.f4 Rows.historyMadeRow.domain false) (Rows.historyMadeSpec.post enc Tryz.prog Tryz.f4 false true false false):=by
  refine returnsInHanded_of_change (C:=Tryz.checked) Fact.own started (by kernel_rfl) Tryz.func4
    (ChangeSpec.witness6 (enc:=enc) (C:=Tryz.checked) false ⟨#[],#[.slice none 0 0,.slice none 0 0,.slice none 0 0,.int .i64 0,.int .i64 0,.int .i64 0,.int .i64 0,.int .i64 0,.int .i64 0],[]⟩ 8 (by kernel_rfl) (by kernel_rfl) (by kernel_rfl) (by kernel_rfl)) ?_
  intro W base args ds gs before hval0 hW hcnd _
  have hval : ∀ (j : Nat) t v,Tryz.f4.params[j]? = some t → args[j]? = some v → Value.okWide Tryz.prog W .any base t v:=hval0
  have hW':=hW
  obtain ⟨p,q,hA0,hV,rfl,hfz,hnd⟩:=hW
  have hA : DataW.TrodAll enc Tryz.prog W 0 (fun _ => true) true Tryz.f4.params.toList args.toList ds p:=hA0
  rw [Tryz.params4] at hA hval
  obtain ⟨v0,vs0,d0,ds0,p0,q0,hargs,rfl,rfl,h0,r0⟩:=trodAll_cons hA
  obtain ⟨v1,vs1,d1,ds1,p1,q1,rfl,rfl,rfl,h1,r1⟩:=trodAll_cons r0
  obtain ⟨v2,vs2,d2,ds2,p2,q2,rfl,rfl,rfl,h2,r2⟩:=trodAll_cons r1
  obtain ⟨v3,vs3,d3,ds3,p3,q3,rfl,rfl,rfl,h3,r3⟩:=trodAll_cons r2
  obtain ⟨v4,vs4,d4,ds4,p4,q4,rfl,rfl,rfl,h4,r4⟩:=trodAll_cons r3
  obtain ⟨v5,vs5,d5,ds5,p5,q5,rfl,rfl,rfl,h5,r5⟩:=trodAll_cons r4
  obtain ⟨v6,vs6,d6,ds6,p6,q6,rfl,rfl,rfl,h6,r6⟩:=trodAll_cons r5
  obtain ⟨v7,vs7,d7,ds7,p7,q7,rfl,rfl,rfl,h7,r7⟩:=trodAll_cons r6
  obtain ⟨v8,vs8,d8,ds8,p8,q8,rfl,rfl,rfl,h8,r8⟩:=trodAll_cons r7
  obtain ⟨rfl,rfl,rfl⟩:=trodAll_nil r8
  obtain rfl : args = #[v0,v1,v2,v3,v4,v5,v6,v7,v8]:=by cases args; simp_all
  obtain ⟨rfl,rfl⟩:=trodVars_none hV
  obtain ⟨a0,len0,cap0,rfl⟩:=okWide_slice Tryz.underlying22 (hval 0 22 v0 rfl rfl)
  obtain ⟨a1,len1,cap1,rfl⟩:=okWide_slice Tryz.underlying22 (hval 1 22 v1 rfl rfl)
  obtain ⟨a2,len2,cap2,rfl⟩:=okWide_slice Tryz.underlying22 (hval 2 22 v2 rfl rfl)
  obtain ⟨⟨z0,w0⟩,⟨z1,w1⟩,z2,w2⟩ : (∃ zs,IsRow .i64 W a0 len0 cap0 zs)∧(∃ zs,IsRow .i64 W a1 len1 cap1 zs)∧∃ zs,IsRow .i64 W a2 len2 cap2 zs:=by
    refine ⟨?_,?_,?_⟩
    obtain ⟨_,hf⟩:=h0
    rotate_left
    obtain ⟨_,hf⟩:=h1
    rotate_left
    obtain ⟨_,hf⟩:=h2
    rotate_left
    all_goals
      rcases open_ints Tryz.underlying22 Tryz.underlying3 (by kernel_rfl) hf with ⟨hcs,_⟩ | ⟨x,l,c,zs,hcs,_,hl,hm,hz,_,hcell,hwz⟩
      · simp [Value.cells] at hcs
        obtain ⟨rfl,rfl,rfl⟩:=hcs
        exact ⟨[],.inl ⟨rfl,rfl,rfl,rfl⟩⟩
      · simp [Value.cells] at hcs
        obtain ⟨rfl,rfl,rfl⟩:=hcs
        exact ⟨zs,.inr ⟨_,rfl,hl,hm,by simpa using hz,hcell,hwz⟩⟩
  obtain ⟨a3,rfl,rfl,rfl,w3⟩:=open_int Tryz.underlying3 (hval 3 3 v3 rfl rfl) h3
  obtain ⟨a4,rfl,rfl,rfl,w4⟩:=open_int Tryz.underlying3 (hval 4 3 v4 rfl rfl) h4
  obtain ⟨a5,rfl,rfl,rfl,w5⟩:=open_int Tryz.underlying3 (hval 5 3 v5 rfl rfl) h5
  obtain ⟨a6,rfl,rfl,rfl,w6⟩:=open_int Tryz.underlying3 (hval 6 3 v6 rfl rfl) h6
  obtain ⟨a7,rfl,rfl,rfl,w7⟩:=open_int Tryz.underlying3 (hval 7 3 v7 rfl rfl) h7
  obtain ⟨a8,rfl,rfl,rfl,w8⟩:=open_int Tryz.underlying3 (hval 8 3 v8 rfl rfl) h8
  clear hA0 hval0
  refine (walk a0 len0 cap0 z0 a1 len1 cap1 z1 a2 len2 cap2 z2 a3 a4 a5 a6 a7 a8 W w0 w1 w2 (i64_of_wf w3) (i64_of_wf w4) (i64_of_wf w5) (i64_of_wf w6) (i64_of_wf w7) (i64_of_wf w8)).mono fun e W' ⟨he,bel⟩ => ?_
  subst he
  exact ⟨_,rfl,_,_,_,[],_,[],hW',trodAll_mk1 (shut_bool Tryz.underlying4 _),(trodAll_cons_mk (Below.trod Fact.laidOut (by kernel_rfl) (of_decide_eq_true (by kernel_rfl)) h0 bel (h0.elim fun _=>DataW.trod_lt _ _ _ _)) (trodAll_cons_mk (Below.trod Fact.laidOut (by kernel_rfl) (of_decide_eq_true (by kernel_rfl)) h1 bel (h1.elim fun _=>DataW.trod_lt _ _ _ _)) (trodAll_cons_mk (Below.trod Fact.laidOut (by kernel_rfl) (of_decide_eq_true (by kernel_rfl)) h2 bel (h2.elim fun _=>DataW.trod_lt _ _ _ _)) (trodAll_cons_mk (Below.trod Fact.laidOut (by kernel_rfl) (of_decide_eq_true (by kernel_rfl)) h3 bel (h3.elim fun _=>DataW.trod_lt _ _ _ _)) (trodAll_cons_mk (Below.trod Fact.laidOut (by kernel_rfl) (of_decide_eq_true (by kernel_rfl)) h4 bel (h4.elim fun _=>DataW.trod_lt _ _ _ _)) (trodAll_cons_mk (Below.trod Fact.laidOut (by kernel_rfl) (of_decide_eq_true (by kernel_rfl)) h5 bel (h5.elim fun _=>DataW.trod_lt _ _ _ _)) (trodAll_cons_mk (Below.trod Fact.laidOut (by kernel_rfl) (of_decide_eq_true (by kernel_rfl)) h6 bel (h6.elim fun _=>DataW.trod_lt _ _ _ _)) (trodAll_cons_mk (Below.trod Fact.laidOut (by kernel_rfl) (of_decide_eq_true (by kernel_rfl)) h7 bel (h7.elim fun _=>DataW.trod_lt _ _ _ _)) (trodAll_cons_mk (Below.trod Fact.laidOut (by kernel_rfl) (of_decide_eq_true (by kernel_rfl)) h8 bel (h8.elim fun _=>DataW.trod_lt _ _ _ _)) trodAll_mk0))))))))),rfl,bel.frame _,fun h => by cases h⟩

set_option maxHeartbeats 4000000 in
theorem closed : joinedFacts Tryz.prog 4 Tryz.f4 Rows.historyMadeSpec Rows.historyMadeRow = true :=
  Head.joined (by as_aux_lemma => kernel_rfl) Fact.laidOut Fact.mapsRowed (by as_aux_lemma => kernel_rfl) (by as_aux_lemma => kernel_rfl) (by as_aux_lemma => kernel_rfl) Fact.stops (by as_aux_lemma => kernel_rfl) Fact.stopKnobs (by as_aux_lemma => kernel_rfl) (by as_aux_lemma => kernel_rfl) (by as_aux_lemma => kernel_rfl) (by as_aux_lemma => kernel_rfl) (by as_aux_lemma => kernel_rfl) (by as_aux_lemma => kernel_rfl) (by as_aux_lemma => kernel_rfl) (by as_aux_lemma => kernel_rfl) (by as_aux_lemma => kernel_rfl) (by as_aux_lemma => kernel_rfl) (by as_aux_lemma => kernel_rfl) (by as_aux_lemma => kernel_rfl) (by as_aux_lemma => kernel_rfl) (by rw [Fact.plainKeys]; rfl) (by as_aux_lemma => kernel_rfl) Fact.stopsHeard Fact.mayEnter (by rw [Fact.liftsFinal]; rfl) (by rw [Fact.make]; rfl) (by as_aux_lemma => kernel_rfl) (by as_aux_lemma => kernel_rfl) (by as_aux_lemma => kernel_rfl) (by as_aux_lemma => kernel_rfl)

theorem closedC : joinedFacts Tryz.pinned.checked.prog 4 Tryz.f4 Rows.historyMadeSpec Rows.historyMadeRow = true:=by rw [show Tryz.pinned.checked.prog = Tryz.prog from rfl]; exact closed

theorem over : Rows.historyMadeRow.holds Tryz.pinned (OpenSpec.ofChange Rows.historyMadeSpec) :=
  OpenClaim.holds_of_wide 4 Tryz.f4 rfl rfl rfl rfl rfl rfl rfl ⟨rfl,rfl,rfl,rfl,rfl⟩ rfl rfl rfl rfl rfl (by as_aux_lemma => kernel_rfl) Tryz.func4 closedC
    (of_decide_eq_true (by as_aux_lemma => kernel_rfl)) (by unfold Func.isWrapper; rw [if_neg (by decide +kernel)]; exact ⟨rfl,rfl⟩)
    (fun os started H enc _ => lifted os started H enc)

theorem proved : Rows.HistoryMadeSaid:=over
end Go.Proofs.YtnbclgbicnpmnaaGreat.historyMade
