import Derived.Test.YtghjbimijeinfaaGreatDoorTie
import Derived.Test.YtghjbimijeinfaaGreatDoorCards
import Derived.SevenTiedAt
import Derived.Test.YtghjbimijeinfaaGreatDoorV33
set_option maxHeartbeats 4000000
set_option maxRecDepth 100000
set_option linter.all false
namespace Go.Proofs.YtghjbimijeinfaaGreatDoor
open Go.ChangeShapes Go.WideShapes Go.ChangeAt Go.RowKit
noncomputable def Gp(os:Os):World:=World.laidAll Tryz.prog os Rows.disputeRevealsRow.laid
theorem t6(os:Os)(started:os.Started)(H:Type)(enc:TypeId × Value -> H) :
  ReturnsInHanded {} Tryz.checked os 4 .any (λ w args=>(Rows.disputeRevealsSpec.pre enc Tryz.prog Tryz.f4 [] false w args /\ laidMetH Tryz.prog Rows.disputeRevealsRow.laid w) /\ sizedMet enc Tryz.prog Tryz.f4 (OpenSpec.ofChange Rows.disputeRevealsSpec) false w args)
   (Rows.disputeRevealsSpec.post enc Tryz.prog Tryz.f4 false true false false):=by
 refine lr (C:=Tryz.checked) (X:=λ w _=>laidMetH Tryz.prog Rows.disputeRevealsRow.laid w) (λ _ _ _ hh h=>h.of_heap hh) Kw started (by kernel_rfl) Tryz.func4
  (ChangeSpec.witness_at (enc:=enc) (C:=Tryz.checked) (os:=os) (X:=λ w _=>laidMetH Tryz.prog Rows.disputeRevealsRow.laid w) false (Gp os) #[.slice none 0 0,.int .i64 0,.slice none 0 0,.int .i64 0,.int .i64 0] 8 (World.laidAll_os _ _ _) (by kernel_rfl) (by kernel_rfl) (by kernel_rfl) (by kernel_rfl) (by kernel_rfl) (laidMetH_of_parts (laidMet_laidAll _ (by kernel_rfl) (by kernel_rfl)) (by kernel_rfl))) ?_
 intro W base args ds gs before Wv Zi hW hL;have ID:∀ (j:Nat) t v,Tryz.f4.params[j]?=some t -> args[j]?=some v -> Value.okWide Tryz.prog W .any base t v:=Zi;have hW':=hW;obtain⟨p,q,hA0,hV,rfl,hfz,Tl⟩:=hW;have hA:DataW.TrodAll enc Tryz.prog W 0 (λ _=>true) true Tryz.f4.params.toList args.toList ds p:=hA0;have hAA:=hA;rw[Tryz.params4] at hA ID;obtain⟨v0,vs0,d0,ds0,p0,q0,V1,rfl,rfl,h0r,r0⟩:=trodAll_cons hA;obtain⟨v1,vs1,d1,ds1,p1,q1,rfl,rfl,rfl,h1r,r1⟩:=trodAll_cons r0;obtain⟨v2,vs2,d2,ds2,p2,q2,rfl,rfl,rfl,h2r,r2⟩:=trodAll_cons r1;obtain⟨v3,vs3,d3,ds3,p3,q3,rfl,rfl,rfl,h3r,r3⟩:=trodAll_cons r2;obtain⟨v4,vs4,d4,ds4,p4,q4,rfl,rfl,rfl,h4r,r4⟩:=trodAll_cons r3;obtain⟨rfl,rfl,rfl⟩:=trodAll_nil r4;obtain rfl:args=#[v0,v1,v2,v3,v4]:=by cases args;simp_all
 obtain⟨rfl,rfl⟩:=trodVars_none hV;obtain⟨A0,n0,c0,x0,rfl,b0,h0,k0⟩:=Ar (ID 0 22 v0 rfl rfl) h0r;obtain⟨a1,rfl,rfl,rfl,w1z⟩:=open_int Tryz.underlying3 (ID 1 3 v1 rfl rfl) h1r;have w1:=mS w1z;obtain⟨A2,n2,c2,x2,rfl,b2,h2,k2⟩:=Ar (ID 2 22 v2 rfl rfl) h2r;obtain⟨a3,rfl,rfl,rfl,w3z⟩:=open_int Tryz.underlying3 (ID 3 3 v3 rfl rfl) h3r;have w3:=mS w3z;obtain⟨a4,rfl,rfl,rfl,w4z⟩:=open_int Tryz.underlying3 (ID 4 3 v4 rfl rfl) h4r;have w4:=mS w4z;clear hA0 Zi;simp only[List.append_nil,List.nil_append] at hW' hAA;obtain⟨g0,g1⟩:=M7 Wv hL;have eW:=Cx g0 g1;refine(Gl W ((Aq A0 A2 n0 c0 n2 c2 x0 x2 a1 a3 a4 (tZ W) (KB g0) (KC g1) (h0.d eW) b0 (h2.d eW) b2 w1 w3 w4).den eW.symm)).mono λ e W' ⟨he,hb⟩=>?_;subst he;exact⟨_,rfl,Ky Kx (by rw[Tryz.params4];intro t ht;simp at ht;first|(subst ht;exact⟨by kernel_rfl,abq (by kernel_rfl)⟩)|(rcases ht with rfl|rfl <;> exact⟨by kernel_rfl,abq (by kernel_rfl)⟩)|(rcases ht with rfl|rfl|rfl <;> exact⟨by kernel_rfl,abq (by kernel_rfl)⟩)|(rcases ht with rfl|rfl|rfl|rfl <;> exact⟨by kernel_rfl,abq (by kernel_rfl)⟩)|(rcases ht with rfl|rfl|rfl|rfl|rfl <;> exact⟨by kernel_rfl,abq (by kernel_rfl)⟩)) hW' rfl hAA (λ _ _ _=>trodAll_cons_mk (shut_bool Tryz.underlying4 _) trodAll_mk0) rfl (λ _=>rfl) hb⟩
end Go.Proofs.YtghjbimijeinfaaGreatDoor
