/- GameRoots: the row and the card. -/
import Derived.Test.YtcfajdgeejeieaaGreatDoorR49
import Derived.Test.YtcfajdgeejeieaaGreatDoorTie
import Derived.Test.YtcfajdgeejeieaaGreatDoorCards
import Derived.SevenTiedAt
set_option maxHeartbeats 4000000
set_option maxRecDepth 100000
set_option linter.unusedSimpArgs false
set_option linter.unusedVariables false
namespace Go.Proofs.YtcfajdgeejeieaaGreatDoor
open Go.ChangeShapes Go.WideShapes Go.ChangeAt Go.RowKit
noncomputable def laidWorld (os:Os):World:=World.laidAll Tryz.prog os Rows.gameRootsRow.laid
theorem roots_lifted (os:Os) (started:os.Started) (H:Type) (enc:TypeId × Value -> H) :
    ReturnsInHanded {} Tryz.checked os 3 .any (λ w args=>(Rows.gameRootsSpec.pre enc Tryz.prog Tryz.f3 [] false w args /\ laidMetH Tryz.prog Rows.gameRootsRow.laid w) /\ sizedMet enc Tryz.prog Tryz.f3 (OpenSpec.ofChange Rows.gameRootsSpec) false w args)
      (Rows.gameRootsSpec.post enc Tryz.prog Tryz.f3 false true false false):=by
  refine returnsInHanded_shaped (C:=Tryz.checked) (X:=λ w _=>laidMetH Tryz.prog Rows.gameRootsRow.laid w) (λ _ _ _ hh h=>h.of_heap hh) own_knob started (by kernel_rfl) Tryz.func3
    (ChangeSpec.witness_at (enc:=enc) (C:=Tryz.checked) (os:=os) (X:=λ w _=>laidMetH Tryz.prog Rows.gameRootsRow.laid w) false (laidWorld os) #[.slice none 0 0,.int .i64 0,.slice none 0 0,.int .i64 0] 8 (World.laidAll_os _ _ _) (by kernel_rfl) (by kernel_rfl) (by kernel_rfl) (by kernel_rfl) (by kernel_rfl) (laidMetH_of_parts (laidMet_laidAll _ (by kernel_rfl) (by kernel_rfl)) (by kernel_rfl))) ?_
  intro W base args ds gs before hsh hval0 hW hL
  have hval:∀ (j:Nat) t v,Tryz.f3.params[j]?=some t -> args[j]?=some v -> Value.okWide Tryz.prog W .any base t v:=hval0
  have hW':=hW
  obtain ⟨p,q,hA0,hV,rfl,hfz,hnd⟩:=hW
  have hA:DataW.TrodAll enc Tryz.prog W 0 (λ _=>true) true Tryz.f3.params.toList args.toList ds p:=hA0
  have hAA:=hA
  rw [Tryz.params3] at hA hval
  obtain ⟨v0,vs0,d0,ds0,p0,q0,hargs,rfl,rfl,h0r,r0⟩:=trodAll_cons hA
  obtain ⟨v1,vs1,d1,ds1,p1,q1,rfl,rfl,rfl,h1r,r1⟩:=trodAll_cons r0
  obtain ⟨v2,vs2,d2,ds2,p2,q2,rfl,rfl,rfl,h2r,r2⟩:=trodAll_cons r1
  obtain ⟨v3,vs3,d3,ds3,p3,q3,rfl,rfl,rfl,h3r,r3⟩:=trodAll_cons r2
  obtain ⟨rfl,rfl,rfl⟩:=trodAll_nil r3
  obtain rfl:args=#[v0,v1,v2,v3]:=by cases args;simp_all
  obtain ⟨rfl,rfl⟩:=trodVars_none hV
  obtain ⟨A0,n0,c0,x0,rfl,b0,h0,k0⟩:=open_arg (hval 0 22 v0 rfl rfl) h0r
  obtain ⟨a1,rfl,rfl,rfl,w1z⟩:=open_int Tryz.underlying3 (hval 1 3 v1 rfl rfl) h1r
  have w1:=int_range w1z
  obtain ⟨A2,n2,c2,x2,rfl,b2,h2,k2⟩:=open_arg (hval 2 22 v2 rfl rfl) h2r
  obtain ⟨a3,rfl,rfl,rfl,w3z⟩:=open_int Tryz.underlying3 (hval 3 3 v3 rfl rfl) h3r
  have w3:=int_range w3z
  clear hA0 hval0
  simp only [List.append_nil,List.nil_append] at hW' hAA
  obtain ⟨g0,g1⟩:=glob_of hsh hL
  have eW:=worldE_den g0 g1
  refine (Sp.callsW W ((roots_any A0 A2 n0 c0 n2 c2 x0 x2 a1 a3 (worldE W) (worldE_c g0) (worldE_e g1) (h0.d eW) b0 (h2.d eW) b2 w1 w3).den eW.symm)).mono λ e W' ⟨he,hb⟩=>?_
  subst he
  exact ⟨_,rfl,post_law laid_out (by rw [Tryz.params3];intro t ht;simp at ht;first | (subst ht;exact ⟨by kernel_rfl,of_decide_eq_true (by kernel_rfl)⟩) | (rcases ht with rfl | rfl <;> exact ⟨by kernel_rfl,of_decide_eq_true (by kernel_rfl)⟩) | (rcases ht with rfl | rfl | rfl <;> exact ⟨by kernel_rfl,of_decide_eq_true (by kernel_rfl)⟩) | (rcases ht with rfl | rfl | rfl | rfl <;> exact ⟨by kernel_rfl,of_decide_eq_true (by kernel_rfl)⟩)) hW' rfl hAA (λ _ _ _=>trodAll_cons_mk (shut_bool Tryz.underlying4 _) trodAll_mk0) rfl (λ _=>rfl) hb⟩
theorem roots_over:Rows.GameRootsSaid :=
  OpenClaim.holds_of_wide 3 Tryz.f3 rfl rfl rfl rfl rfl rfl rfl ⟨rfl,rfl,rfl,rfl,rfl⟩ rfl rfl rfl rfl rfl (by kernel_rfl) Tryz.func3 (by kernel_rfl)
    (of_decide_eq_true (by kernel_rfl)) (by unfold Func.isWrapper;first | (rw [if_pos (by decide +kernel)];kernel_rfl) | (rw [if_neg (by decide +kernel)];exact ⟨rfl,rfl⟩))
    (λ os started H enc _=>roots_lifted os started H enc)
theorem roots_card:Rows.GameRootsCardSaid :=
  Claim7.holds_tied_plain_at .later [] [.data,.data] true _ false
    roots_over (λ _ h=>by cases h) (by kernel_rfl) (λ _ h=>by cases h) gameRoots_row_tie rfl ⟨rfl,rfl⟩ (by kernel_rfl) rfl
    (λ f fn hf hfn=>by
      obtain rfl:f=3:=Option.some.inj ((show Tryz.prog.funcNamed "arenanet/arenanetlaw19.GameRoots"=some 3 by kernel_rfl).symm.trans hf) |>.symm
      obtain rfl:fn=Tryz.f3:=(Option.some.inj (Tryz.func3.symm.trans hfn)).symm
      exact ⟨by kernel_rfl,λ j t ht=>by
        rw [Tryz.params3] at ht
        have h3:t=3 \/ t=22:=by
          rcases j with _ | _ | _ | _ | j <;> simp at ht <;> simp [ht.symm]
        rcases h3 with rfl | rfl
        · exact (show Tryz.prog.wantsStandIn 3=false by kernel_rfl)
        · exact (show Tryz.prog.wantsStandIn 22=false by kernel_rfl)⟩)
    (by kernel_rfl)
#print axioms roots_card
end Go.Proofs.YtcfajdgeejeieaaGreatDoor
