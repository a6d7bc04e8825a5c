import Derived.Test.YtcfajdgeejeieaaGreatDoorR26
set_option maxHeartbeats 4000000
set_option maxRecDepth 100000
set_option linter.unusedSimpArgs false
set_option linter.unusedVariables false
namespace Go.Proofs.YtcfajdgeejeieaaGreatDoor
open Go.RowKit
def inRP (n:Int):Prop:=-32768 <= n /\ n <= 32768
instance (n:Int):Decidable (inRP n):=inferInstanceAs (Decidable (_ /\ _))
def circOk (r:Int):Prop:=1 <= r /\ r <= 32768
instance (r:Int):Decidable (circOk r):=inferInstanceAs (Decidable (_ /\ _))
def polOk (r:Int) (f:Nat -> V2) (n:Nat):Prop:=(r=0 /\ 3 <= n /\ n <= 6) /\ (∀ k,k < n -> inRP (f k).x /\ inRP (f k).y) /\ convF f n
instance (r:Int) (f:Nat -> V2) (n:Nat):Decidable (polOk r f n):=inferInstanceAs (Decidable (_ /\ _ /\ _))
theorem polOk_congr {r:Int} {f g:Nat -> V2} {n:Nat} (h:∀ k,k < n -> f k=g k) (hf:polOk r f n):polOk r g n :=
 ⟨hf.1,λ k hk=>by rw [<- h k hk];exact hf.2.1 k hk,convF_congr h hf.2.2⟩
def shOk (s:Shp):Prop:=if s.poly.length=0 then circOk s.r else polOk s.r (vat s.poly) s.poly.length
instance (s:Shp):Decidable (shOk s):=inferInstanceAs (Decidable (if s.poly.length=0 then circOk s.r else polOk s.r (vat s.poly) s.poly.length))
theorem shOk_circ {r:Int} {A:Option Addr} {cap:Nat}:shOk ⟨r,[],A,cap⟩ ↔ circOk r:=by
 show (if (0:Nat)=0 then circOk r else _) ↔ _
 rw [if_pos rfl]
def shE (s:Shp):Int:=if shOk s then 0 else 10
theorem inRP_any (n:Int)  (F:HL):Sp Tryz.prog 139 #[vI n] [] F (λ u H'=>u=.bool (decide (inRP n)) /\ H'=[]):=by
 refine Sp.run Tryz.func139 rfl mn (A:=[]) (Ts:=[]) rfl λ w0=>?_
 refine RN.go 10 [] λ _=>RN.em ((-32768) <= n) 5 (λ h1=>?_) λ h1=>?_
 ·refine RN.go 6 [] λ _=>RN.ret [] [] [] (v:=.bool (decide (n <= 32768))) (H':=[]) ?_
  exact ⟨by simp [inRP, *],rfl⟩
 ·refine RN.go 6 [] λ _=>RN.ret [] [] [] (v:=.bool false) (H':=[]) ?_
  exact ⟨by simp [inRP, *],rfl⟩
theorem shv_circle (r:Int) (A:Option Addr) (cap:Nat) (F:HL):Sp Tryz.prog 99 #[.agg #[vI r,.slice A 0 cap]] [] F (λ u H'=>u=vI (shE ⟨r,[],A,cap⟩) /\ H'=[]):=by
 refine Sp.run Tryz.func99 rfl mn (A:=[]) (Ts:=[]) rfl λ w0=>?_
 refine RN.go 10 [.own 0,.own 0] λ n1=>RN.cp (sc_any r A 0 cap _)<|RN.go 10 [.own 0] λ _=>RN.em (r < 1) 10 (λ h2=>?_) λ h2=>?_
 ·refine RN.go 12 [] λ _=>RN.ret [] [] [] (v:=vI 10) (H':=[]) ?_
  exact ⟨by rw [shE,if_neg (λ h_=>by have h2_:=shOk_circ.1 h_;unfold circOk at h2_;omega)],rfl⟩
 ·refine RN.go 6 [.own 0] λ _=>RN.em (r > 32768) 14 (λ h3=>?_) λ h3=>?_
  ·refine RN.go 6 [] λ _=>RN.ret [] [] [] (v:=vI 10) (H':=[]) ?_
   exact ⟨by rw [shE,if_neg (λ h_=>by have h2_:=shOk_circ.1 h_;unfold circOk at h2_;omega)],rfl⟩
  ·refine RN.go 8 [] λ _=>RN.ret [] [] [] (v:=vI 0) (H':=[]) ?_
   exact ⟨by rw [shE,if_pos (shOk_circ.2 ⟨by omega,by omega⟩)],rfl⟩
theorem shv_poly (r:Int) (full:List V2) (b o N n cap:Nat) (fz:Nat × Nat) (F:HL) (hb:(b,.rows 2 N (vrow full) 29 fz) ∈ F) (ho:o+n <= N) (h1:1 <= n) (hnn:n <= 1000000):Sp Tryz.prog 99 #[.agg #[vI r,vS b (o * 2) n cap]] [] F (λ u H'=>u=vI (if polOk r (λ k_=>full.getD (o+k_) ⟨0,0⟩) n then 0 else 10) /\ H'=[]):=by
 refine Sp.run Tryz.func99 rfl (mc hb mn) (A:=[]) (Ts:=[]) rfl λ w0=>?_
 refine RN.go 10 [.own 0,.own 0] λ n1=>RN.cp (sc_any r (some ⟨b,o * 2,none⟩) n cap _)<|RN.go 2 [] λ _=>RN.fx 6 (decide_eq_false (show ¬ ((n:Int)=0) by omega))<|RN.go 10 [.own 0] λ _=>RN.en (r=0) 18 (λ h2=>?_) λ h2=>?_
 ·refine RN.go 6 [.own 0] λ _=>RN.em ((n:Int) < 3) 24 (λ h3=>?_) λ h3=>?_
  ·refine RN.go 13 [] λ _=>RN.ret [] [] [] (v:=vI 10) (H':=[]) ?_
   exact ⟨by rw [if_neg (show ¬ polOk r (λ k_=>full.getD (o+k_) ⟨0,0⟩) n from λ h_=>by have:=h_.1;omega)],rfl⟩
  ·refine RN.go 7 [.own 0] λ _=>RN.em ((n:Int) > 6) 29 (λ h4=>?_) λ h4=>?_
   ·refine RN.go 6 [] λ _=>RN.ret [] [] [] (v:=vI 10) (H':=[]) ?_
    exact ⟨by rw [if_neg (show ¬ polOk r (λ k_=>full.getD (o+k_) ⟨0,0⟩) n from λ h_=>by have:=h_.1;omega)],rfl⟩
   ·refine RN.go 13 [.own 0] λ _=>RN.loop (σ:=Nat) (λ k=>⟨[(1,vP (n1+0) 0),(31,vS b (o * 2) n cap),(32,vI (n:Int)),(33,vI (k:Int))],[((n1+0),.lit [vI r,vS b (o * 2) n cap] 82 (0,0))],[],k <= n /\ ∀ t,t < k -> inRP (full.getD (o+t) (⟨0,0⟩:V2)).x /\ inRP (full.getD (o+t) (⟨0,0⟩:V2)).y,n - k⟩) 0 [0] [] (⟨Nat.zero_le _,λ t ht=>absurd ht (Nat.not_lt_zero _)⟩) ?_
    rintro k ⟨hkl,hin⟩ mt6
    refine RN.go 6 [] λ _=>RN.em ((k:Int) < (n:Int)) 34 (λ h7=>?_) λ h7=>?_
    ·refine RN.goP 17 [.ix k,.rorow 0 (o+k) 0,.rorow 0 (o+k) 1,.own 0,.own 0,.own 0] [((o * 2+k * 2)+1)=(o+k) * 2+1 /\ (o+k) < N,(o * 2+k * 2)=(o+k) * 2+0 /\ (o+k) < N,(k:Int)=((k:Nat):Int) /\ k < n] λ n8=>RN.cp (inRP_any ((full.getD (o+k) ⟨0,0⟩).x)  _)<|RN.go 2 [] λ _=>RN.en (inRP ((full.getD (o+k) ⟨0,0⟩).x)) 41 (λ h9=>?_) λ h9=>?_
     ·refine RN.go 2 [.own 0] λ _=>RN.cp (inRP_any ((full.getD (o+k) ⟨0,0⟩).y)  _)<|RN.go 4 [] λ _=>RN.en (inRP ((full.getD (o+k) ⟨0,0⟩).y)) 46 (λ h10=>?_) λ h10=>?_
      ·refine RN.goP 8 [.nw] [I64 ((k:Int)+1)] λ _=>?_
       refine mt6 (k+1) [1] [] ?_
       try dsimp only
       refine ⟨⟨by omega,λ t ht=>?_⟩,by omega⟩
       rcases Nat.lt_or_ge t k with h_ | h_
       ·exact hin t h_
       ·obtain rfl:t=k:=by omega
        exact ⟨h9,h10⟩
      ·refine RN.go 6 [] λ _=>RN.ret [] [] [] (v:=vI 10) (H':=[]) ?_
       exact ⟨by rw [if_neg (show ¬ polOk r (λ k_=>full.getD (o+k_) ⟨0,0⟩) n from λ h_=>h10 (h_.2.1 k (by omega)).2)],rfl⟩
     ·refine RN.go 13 [] λ _=>RN.ret [] [] [] (v:=vI 10) (H':=[]) ?_
      exact ⟨by rw [if_neg (show ¬ polOk r (λ k_=>full.getD (o+k_) ⟨0,0⟩) n from λ h_=>h9 (h_.2.1 k (by omega)).1)],rfl⟩
    ·refine RN.go 11 [.own 0] λ _=>RN.cp (conv_any full b o N n cap fz _ (ro_ap hb) ho hnn)<|RN.go 3 [] λ _=>RN.en (convF (λ k_=>full.getD (o+k_) ⟨0,0⟩) n) 51 (λ h11=>?_) λ h11=>?_
     ·refine RN.go 8 [] λ _=>RN.ret [] [] [] (v:=vI 0) (H':=[]) ?_
      exact ⟨by rw [if_pos (show polOk r (λ k_=>full.getD (o+k_) ⟨0,0⟩) n from ⟨⟨by omega,by omega,by omega⟩,λ t ht=>hin t (by omega),h11⟩)],rfl⟩
     ·refine RN.go 6 [] λ _=>RN.ret [] [] [] (v:=vI 10) (H':=[]) ?_
      exact ⟨by rw [if_neg (show ¬ polOk r (λ k_=>full.getD (o+k_) ⟨0,0⟩) n from λ h_=>h11 h_.2.2)],rfl⟩
 ·refine RN.go 19 [] λ _=>RN.ret [] [] [] (v:=vI 10) (H':=[]) ?_
  exact ⟨by rw [if_neg (show ¬ polOk r (λ k_=>full.getD (o+k_) ⟨0,0⟩) n from λ h_=>by have:=h_.1;omega)],rfl⟩
theorem shv_any (s:Shp) (F:HL) (h:RowL vecE 29 F s.A s.poly.length s.poly) (hn:s.poly.length <= 1000000):Sp Tryz.prog 99 #[shV s] [] F (λ u H'=>u=vI (shE s) /\ H'=[]):=by
 obtain ⟨r,l,A,cap⟩:=s
 simp only at h hn
 rcases Nat.eq_zero_or_pos l.length with h0 | h0
 ·obtain rfl:l=[]:=List.eq_nil_of_length_eq_zero h0
  exact shv_circle r A cap F
 ·generalize hm:l.length=m at h h0 hn
  cases h with
  | zero=>omega
  | rows q o N full fz n xs hq ho hn' hx =>
   have:=shv_poly r full q o N m cap fz F hq ho h0 hn
   have e:shE ⟨r,l,some ⟨q,o * 2,none⟩,cap⟩=if polOk r (λ k_=>full.getD (o+k_) ⟨0,0⟩) m then 0 else 10:=by
    have e1:shOk ⟨r,l,some ⟨q,o * 2,none⟩,cap⟩ ↔ polOk r (λ k_=>full.getD (o+k_) ⟨0,0⟩) m:=by
     unfold shOk
     simp only
     rw [if_neg (by omega),hm]
     exact ⟨polOk_congr λ k hk=>(hx k hk).symm,polOk_congr λ k hk=>hx k hk⟩
    unfold shE
    by_cases hc:polOk r (λ k_=>full.getD (o+k_) ⟨0,0⟩) m
    ·rw [if_pos hc,if_pos (e1.2 hc)]
    ·rw [if_neg hc,if_neg λ h=>hc (e1.1 h)]
   show Sp _ _ #[.agg #[vI r,.slice (some ⟨q,o * 2,none⟩) l.length cap]] _ _ (λ u H'=>u=vI (shE ⟨r,l,some ⟨q,o * 2,none⟩,cap⟩) /\ H'=[])
   rw [e,hm]
   exact this
structure SetSh (F:HL) (S:Setup):Prop where
 nb:S.nb <= 1000000
 blk:(S.bb,.rows 9 S.bR (brow S.bods) 87 (0,0)) ∈ F
 room:S.bo+S.nb <= S.bR
 pol:∀ k,k < S.nb -> RowL vecE 29 F (S.body k).sh.A (S.body k).sh.poly.length (S.body k).sh.poly /\ (S.body k).sh.poly.length <= 1000000
theorem ShIn.rowL {F:HL} {s:Shp} (h:ShIn F s):RowL vecE 29 F s.A s.poly.length s.poly /\ s.poly.length <= 1000000:=by
 cases h with
 | circle r A cap=>exact ⟨.zero _,Nat.zero_le _⟩
 | poly r l b cap h h3 h4 h5=>exact ⟨RowL.whole (e:=vecE) h h4,h5⟩
def valP (S:Setup) (rs:List Bx) (ds:List Dr):Prop:=vnumP S /\ properP S.box /\ vmapP S rs ds
instance (S:Setup) (rs:List Bx) (ds:List Dr):Decidable (valP S rs ds):=inferInstanceAs (Decidable (_ /\ _))
def valE (S:Setup) (rs:List Bx) (ds:List Dr):Int:=if ∀ k,k < S.nb -> shOk (S.body k).sh then (if valP S rs ds then (if ∀ k,k < S.nb -> vbodyP (S.body k) S.box then 0 else 11) else 11) else 10
theorem shE_ok {s:Shp} (h:shE s=0):shOk s:=by
 unfold shE at h
 split at h
 ·assumption
 ·omega
theorem shE_no {s:Shp} (h:¬ shE s=0):¬ shOk s:=λ hc=>h (by rw [shE,if_pos hc])
theorem val_any (S:Setup) (rs:List Bx) (ds:List Dr) (F:HL) (hS:SetSh F S) (hM:MapIn F S rs ds):Sp Tryz.prog 74 #[(Setup.v S)] [] F (λ u H'=>u=vI (valE S rs ds) /\ H'=[]):=by
 have hn:=hS.nb
 have hr:=hS.room
 refine Sp.run Tryz.func74 rfl (mc hS.blk mn) (A:=[]) (Ts:=[]) rfl λ w0=>?_
 refine RN.go 16 [.own 0] λ n1=>RN.loop (σ:=Nat) (λ k=>⟨[(1,vP (n1+0) 0),(8,vS S.bb (S.bo * 9) S.nb S.bc),(9,vI (S.nb:Int)),(10,vI (k:Int))],[((n1+0),.lit (Setup.l S) 31 (0,0))],[],k <= S.nb /\ ∀ t,t < k -> shOk (S.body t).sh,S.nb - k⟩) 0 [0] [] (⟨Nat.zero_le _,λ t ht=>absurd ht (Nat.not_lt_zero _)⟩) ?_
 rintro k ⟨hkl,hsh⟩ mt3
 refine RN.go 6 [] λ _=>RN.em ((k:Int) < (S.nb:Int)) 11 (λ h4=>?_) λ h4=>?_
 ·refine RN.goP 17 ([.ix k,.rorow 0 (S.bo+k) 0,.rorow 0 (S.bo+k) 1,.rorow 0 (S.bo+k) 2,.rorow 0 (S.bo+k) 3,.rorow 0 (S.bo+k) 4,.rorow 0 (S.bo+k) 5,.rorow 0 (S.bo+k) 6,.rorow 0 (S.bo+k) 7,.rorow 0 (S.bo+k) 8]++ow 0 11) [((S.bo * 9+k * 9)+8)=(S.bo+k) * 9+8 /\ (S.bo+k) < S.bR,((S.bo * 9+k * 9)+7)=(S.bo+k) * 9+7 /\ (S.bo+k) < S.bR,((S.bo * 9+k * 9)+6)=(S.bo+k) * 9+6 /\ (S.bo+k) < S.bR,((S.bo * 9+k * 9)+5)=(S.bo+k) * 9+5 /\ (S.bo+k) < S.bR,((S.bo * 9+k * 9)+4)=(S.bo+k) * 9+4 /\ (S.bo+k) < S.bR,((S.bo * 9+k * 9)+3)=(S.bo+k) * 9+3 /\ (S.bo+k) < S.bR,((S.bo * 9+k * 9)+2)=(S.bo+k) * 9+2 /\ (S.bo+k) < S.bR,((S.bo * 9+k * 9)+1)=(S.bo+k) * 9+1 /\ (S.bo+k) < S.bR,(S.bo * 9+k * 9)=(S.bo+k) * 9+0 /\ (S.bo+k) < S.bR,(k:Int)=((k:Nat):Int) /\ k < S.nb] λ n5=>RN.cp (shv_any ((S.bods.getD (S.bo+k) dB).sh) _ (hS.pol k (by omega)).1.up (hS.pol k (by omega)).2)<|RN.go 3 [] λ _=>RN.en (shE ((S.bods.getD (S.bo+k) dB).sh)=0) 17 (λ h6=>?_) λ h6=>?_
  ·refine RN.goP 8 [.nw] [I64 ((k:Int)+1)] λ _=>?_
   refine mt3 (k+1) [1] [] ?_
   try dsimp only
   refine ⟨⟨by omega,λ t ht=>?_⟩,by omega⟩
   rcases Nat.lt_or_ge t k with h_ | h_
   ·exact hsh t h_
   ·obtain rfl:t=k:=by omega
    exact shE_ok h6
  ·refine RN.go 6 [] λ _=>RN.ret [] [] [] (v:=vI 10) (H':=[]) ?_
   exact ⟨by rw [valE,if_neg (show ¬ ∀ k,k < S.nb -> shOk (S.body k).sh from λ h_=>shE_no h6 (h_ k (by omega)))],rfl⟩
 ·refine RN.go 10 (ow 0 16) λ _=>RN.cp (vnum_any S _)<|RN.go 2 [] λ _=>RN.en (vnumP S) 22 (λ h7=>?_) λ h7=>?_
  ·refine RN.go 2 [.own 0,.own 0,.own 0,.own 0] λ _=>RN.cp (proper_any S.box  _)<|RN.go 3 [] λ _=>RN.en (properP S.box) 28 (λ h8=>?_) λ h8=>?_
   ·refine RN.go 1 (ow 0 16) λ _=>RN.cp (vmap_any S rs ds _ hM.up)<|RN.go 4 [] λ _=>RN.en (vmapP S rs ds) 32 (λ h9=>?_) λ h9=>?_
    ·refine RN.go 13 [.own 0] λ _=>RN.loop (σ:=Nat) (λ j=>⟨[(1,vP (n1+0) 0),(34,vS S.bb (S.bo * 9) S.nb S.bc),(35,vI (S.nb:Int)),(36,vI (j:Int))],[((n1+0),.lit (Setup.l S) 31 (0,0))],[],j <= S.nb /\ ∀ t,t < j -> vbodyP (S.body t) S.box,S.nb - j⟩) 0 [0] [] (⟨Nat.zero_le _,λ t ht=>absurd ht (Nat.not_lt_zero _)⟩) ?_
     rintro j ⟨hjl,hvb⟩ mt11
     refine RN.go 6 [] λ _=>RN.em ((j:Int) < (S.nb:Int)) 37 (λ h12=>?_) λ h12=>?_
     ·refine RN.goP 18 ([.ix j,.rorow 0 (S.bo+j) 0,.rorow 0 (S.bo+j) 1,.rorow 0 (S.bo+j) 2,.rorow 0 (S.bo+j) 3,.rorow 0 (S.bo+j) 4,.rorow 0 (S.bo+j) 5,.rorow 0 (S.bo+j) 6,.rorow 0 (S.bo+j) 7,.rorow 0 (S.bo+j) 8]++ow 0 18++[.own 1,.own 1,.own 1,.own 1]) [((S.bo * 9+j * 9)+8)=(S.bo+j) * 9+8 /\ (S.bo+j) < S.bR,((S.bo * 9+j * 9)+7)=(S.bo+j) * 9+7 /\ (S.bo+j) < S.bR,((S.bo * 9+j * 9)+6)=(S.bo+j) * 9+6 /\ (S.bo+j) < S.bR,((S.bo * 9+j * 9)+5)=(S.bo+j) * 9+5 /\ (S.bo+j) < S.bR,((S.bo * 9+j * 9)+4)=(S.bo+j) * 9+4 /\ (S.bo+j) < S.bR,((S.bo * 9+j * 9)+3)=(S.bo+j) * 9+3 /\ (S.bo+j) < S.bR,((S.bo * 9+j * 9)+2)=(S.bo+j) * 9+2 /\ (S.bo+j) < S.bR,((S.bo * 9+j * 9)+1)=(S.bo+j) * 9+1 /\ (S.bo+j) < S.bR,(S.bo * 9+j * 9)=(S.bo+j) * 9+0 /\ (S.bo+j) < S.bR,(j:Int)=((j:Nat):Int) /\ j < S.nb] λ n13=>RN.cp (vbody_any (S.bods.getD (S.bo+j) dB) S.box _)<|RN.go 3 [] λ _=>RN.en (vbodyP (S.bods.getD (S.bo+j) dB) S.box) 44 (λ h14=>?_) λ h14=>?_
      ·refine RN.goP 8 [.nw] [I64 ((j:Int)+1)] λ _=>?_
       refine mt11 (j+1) [1] [] ?_
       try dsimp only
       refine ⟨⟨by omega,λ t ht=>?_⟩,by omega⟩
       rcases Nat.lt_or_ge t j with h_ | h_
       ·exact hvb t h_
       ·obtain rfl:t=j:=by omega
        exact h14
      ·refine RN.go 6 [] λ _=>RN.ret [] [] [] (v:=vI 11) (H':=[]) ?_
       exact ⟨by rw [valE,if_pos (show ∀ k,k < S.nb -> shOk (S.body k).sh from λ t ht=>hsh t (by omega)),if_pos (show valP S rs ds from ⟨h7,h8,h9⟩),if_neg (show ¬ ∀ k,k < S.nb -> vbodyP (S.body k) S.box from λ h_=>h14 (h_ j (by omega)))],rfl⟩
     ·refine RN.go 11 [] λ _=>RN.ret [] [] [] (v:=vI 0) (H':=[]) ?_
      exact ⟨by rw [valE,if_pos (show ∀ k,k < S.nb -> shOk (S.body k).sh from λ t ht=>hsh t (by omega)),if_pos (show valP S rs ds from ⟨h7,h8,h9⟩),if_pos (show ∀ k,k < S.nb -> vbodyP (S.body k) S.box from λ t ht=>hvb t (by omega))],rfl⟩
    ·refine RN.go 6 [] λ _=>RN.ret [] [] [] (v:=vI 11) (H':=[]) ?_
     exact ⟨by rw [valE,if_pos (show ∀ k,k < S.nb -> shOk (S.body k).sh from λ t ht=>hsh t (by omega)),if_neg (show ¬ valP S rs ds from λ h_=>h9 h_.2.2)],rfl⟩
   ·refine RN.go 12 [] λ _=>RN.ret [] [] [] (v:=vI 11) (H':=[]) ?_
    exact ⟨by rw [valE,if_pos (show ∀ k,k < S.nb -> shOk (S.body k).sh from λ t ht=>hsh t (by omega)),if_neg (show ¬ valP S rs ds from λ h_=>h8 h_.2.1)],rfl⟩
  ·refine RN.go 18 [] λ _=>RN.ret [] [] [] (v:=vI 11) (H':=[]) ?_
   exact ⟨by rw [valE,if_pos (show ∀ k,k < S.nb -> shOk (S.body k).sh from λ t ht=>hsh t (by omega)),if_neg (show ¬ valP S rs ds from λ h_=>h7 h_.1)],rfl⟩
def sbods (S:Setup):List Bod:=(List.range S.nb).map S.body
theorem sbods_len (S:Setup):(sbods S).length=S.nb:=by simp [sbods]
theorem sbods_get {S:Setup} {k:Nat} (h:k < S.nb):(sbods S).getD k dB=S.body k:=by simp [sbods,h]
theorem bods_rowL {F:HL} {S:Setup} (hS:SetSh F S):RowL bodE 87 F (some ⟨S.bb,S.bo * 9,none⟩) S.nb (sbods S) :=
 .rows S.bb S.bo S.bR S.bods (0,0) S.nb (sbods S) hS.blk hS.room (sbods_len S) (λ k hk=>(sbods_get hk).symm)
theorem ClS.open {α:Type} {e:Enc α} {T:TypeId} {xs:List α} {A:Option Addr} {c:Nat} {Hl:HL} (h:ClS e T xs A c Hl) (hx:0 < xs.length):∃ b,A=some ⟨b,0,none⟩ /\ Hl=[(b,.rows e.w c (rowE e xs) T (0,0))] /\ xs.length <= c:=by
 obtain ⟨A0,h⟩:=h
 rcases h with ⟨rfl,_⟩ | ⟨b,h1,h2,h3⟩
 ·simp at hx
 ·exact ⟨b,h1,h2,h3⟩
structure SetCl (F:HL) (S:Setup):Prop extends SetN S where
 blk:(S.bb,.rows 9 S.bR (brow S.bods) 87 (0,0)) ∈ F
 room:S.bo+S.nb <= S.bR
 shp:∀ k,k < S.nb -> (RowL vecE 29 F (S.body k).sh.A (S.body k).sh.poly.length (S.body k).sh.poly /\ (S.body k).sh.poly.length <= 1000000) /\ ((S.body k).sh.poly=[] \/ 3 <= (S.body k).sh.poly.length)
theorem SetIn.cl {F:HL} {S:Setup} (h:SetIn F S):SetCl F S:=⟨h.toSetN,h.blk,h.room,λ k hk=>⟨(h.shp k hk).rowL,by
 have h1:=h.shp k hk
 generalize (S.body k).sh=s at h1
 cases h1 with
 | circle r A cap=>exact .inl rfl
 | poly r l b cap h h3 h4 h5=>exact .inr h3⟩⟩
theorem SetCl.up {F X:HL} {S:Setup} (h:SetCl F S):SetCl (X++F) S:=⟨h.toSetN,List.mem_append_right _ h.blk,h.room,λ k hk=>⟨⟨(h.shp k hk).1.1.up,(h.shp k hk).1.2⟩,(h.shp k hk).2⟩⟩
theorem SetCl.toSh {F:HL} {S:Setup} (h:SetCl F S):SetSh F S:=⟨h.nb,h.blk,h.room,λ k hk=>(h.shp k hk).1⟩
theorem ShH.clone {s:Shp} (h:s.poly=[] \/ 3 <= s.poly.length) (hl:s.poly.length <= 1000000) {A:Option Addr} {c:Nat} {T:HL} (hc:ClS vecE 29 s.poly A c T):ShH ⟨s.r,s.poly,A,c⟩ T:=by
 intro F' hF
 rcases h with h | h
 ·rw [h];exact .circle _ _ _
 ·obtain ⟨b2,rfl,rfl,h6⟩:=hc.open (by omega)
  exact .poly _ _ _ _ (hF _ (List.mem_singleton.2 rfl)) h h6 hl
def Bod.at (b:Bod) (A:Option Addr) (c:Nat):Bod:=⟨⟨b.sh.r,b.sh.poly,A,c⟩,b.mot,b.a,b.b⟩
theorem getD_set_same {α:Type} {l:List α} {i:Nat} {x d:α} (h:i < l.length):(l.set i x).getD i d=x:=by simp [h]
theorem getD_set_not {α:Type} {l:List α} {i k:Nat} {x d:α} (h:¬ i=k):(l.set i x).getD k d=l.getD k d:=by simp [List.getElem?_set,h]
theorem brow_at {l:List Bod} {i:Nat} (h:i < l.length) (A:Option Addr) (c:Nat):updG (brow l) i 1 (.slice A (l.getD i dB).sh.poly.length c)=brow (l.set i ((l.getD i dB).at A c)):=by
 funext j k
 unfold updG
 by_cases h1:j=i
 ·subst h1
  show _=bodE.cell ((l.set j ((l.getD j dB).at A c)).getD j dB) k
  rw [getD_set_same h]
  by_cases h2:k=1
  ·subst h2;simp;rfl
  ·rw [if_neg (by simp [h2])]
   show bodE.cell (l.getD j dB) k=_
   rcases k with _ | _ | k
   ·rfl
   ·exact absurd rfl h2
   ·rcases k with _ | _ | _ | _ | _ | _ | k <;> rfl
 ·rw [if_neg (by simp [h1])]
  show bodE.cell (l.getD j dB) k=bodE.cell ((l.set i _).getD j dB) k
  rw [getD_set_not (λ e=>h1 e.symm)]
structure SetEq (S S':Setup):Prop where
 nums:S'.players=S.players /\ S'.nb=S.nb /\ S'.box=S.box /\ S'.rn=S.rn /\ S'.dn=S.dn /\ S'.fog=S.fog /\ S'.g=S.g /\ S'.push=S.push /\ S'.drag=S.drag /\ S'.rest=S.rest /\ S'.rounds=S.rounds /\ S'.fuel=S.fuel
 bod:∀ k,k < S.nb -> ∃ A c,S'.body k=(S.body k).at A c
 whole:S'.bo=0 /\ S'.bods.length=S.nb
def SetTl (S:Setup) (rs:List Bx) (ds:List Dr) (U:HL):Prop:=∀ F,(∀ y ∈ U,y ∈ F) -> SetIn F S /\ MapIn F S rs ds
theorem gclone_run (S:Setup) (rs:List Bx) (ds:List Dr) (F:HL) (hS:SetCl F S) (hM:MapIn F S rs ds) (h1:1 <= S.nb) (hrn:S.rn <= 1000000) (hdn:S.dn <= 1000000):Sp Tryz.prog 75 #[(Setup.v S)] [] F (λ u H'=>∃ x:Setup × HL,H'=ap [] [x.2] /\ (u=Setup.v x.1 /\ SetEq S x.1 /\ SetTl x.1 rs ds x.2)):=by
 have hp:=hS.pl
 have hn:=hS.nb
 have hr:=hS.room
 refine Sp.run Tryz.func75 rfl (mc hS.blk mn) (A:=[]) (Ts:=[]) rfl λ w0=>?_
 refine RN.go 10 [.own 1] λ n1=>RN.ct (Hp:=[]) (Tp:=[]) [] [] (clone_Body_any (some ⟨S.bb,S.bo * 9,none⟩) S.nb S.bc (sbods S) _ (RowL.src bodEOk (by decide) (bods_rowL hS.toSh).up) (by omega)) ?_
 rintro _ ⟨A2,c3,T4⟩ ⟨rfl,hc5⟩
 dsimp only at hc5
 refine RN.go 7 [.own 1] λ _=>?_
 obtain ⟨bb,rfl,rfl,hcap0⟩:=hc5.open (by rw [sbods_len];omega)
 have hcap:S.nb <= c3:=by rw [sbods_len] at hcap0;exact hcap0
 refine RN.ot 0 (x:=(bb,.rows 9 c3 (brow (sbods S)) 87 (0,0)))<|RN.go 7 [.own 2] λ _=>RN.nt<|RN.loop (σ:=Nat × List Bod × HL) (λ ⟨i,bods,U_⟩=>⟨[(1,vP (n1+0) 0),(2,vP (n1+1) 0),(10,vI (S.nb:Int)),(11,vI (i:Int))],[(bb,.rows 9 c3 (brow bods) 87 (0,0)),((n1+1),.lit [vI 0,.slice none 0 0,vI 0,vI 0,vI 0,vI 0,.slice none 0 0,.slice none 0 0,vI 0,vI 0,vI 0,vI 0,vI 0,vI 0,vI 0,vI 0] 31 (0,0)),((n1+0),.lit [vI S.players,vS bb 0 S.nb c3,vI S.box.x0,vI S.box.y0,vI S.box.x1,vI S.box.y1,.slice S.rA S.rn S.rc,.slice S.dA S.dn S.dc,vI S.fog,vI S.g.x,vI S.g.y,vI S.push,vI S.drag,vI S.rest,vI S.rounds,vI S.fuel] 31 (0,0))],[U_],i <= S.nb /\ bods.length=S.nb /\ (∀ k,k < S.nb -> ∃ A c,bods.getD k dB=(S.body k).at A c) /\ (∀ k,k < i -> ShH (bods.getD k dB).sh U_) /\ ∀ k,i <= k -> k < S.nb -> bods.getD k dB=S.body k,S.nb - i⟩) (0,sbods S,[]) [0,1,2] [0] (⟨Nat.zero_le _,sbods_len S,λ k hk=>⟨_,_,sbods_get hk⟩,λ k hk=>absurd hk (Nat.not_lt_zero _),λ k _ hk=>sbods_get hk⟩) ?_
 rintro ⟨i,bods,U_⟩ ⟨hil,hbl_,hsame,hsh_,hfar⟩ mt7
 refine RN.go 6 [] λ _=>RN.em ((i:Int) < (S.nb:Int)) 12 (λ h8=>?_) λ h8=>?_
 ·refine RN.go 7 [] λ _=>?_
  have hsi_:(RowL vecE 29 F (bods.getD i dB).sh.A (bods.getD i dB).sh.poly.length (bods.getD i dB).sh.poly /\ (bods.getD i dB).sh.poly.length <= 1000000) /\ ((bods.getD i dB).sh.poly=[] \/ 3 <= (bods.getD i dB).sh.poly.length):=by rw [hfar i (Nat.le_refl _) (by omega)];exact hS.shp i (by omega)
  have hrl_:=hsi_.1.1
  have hpl_:(bods.getD i dB).sh.poly.length <= 100000000:=by have:=hsi_.1.2;omega
  refine RN.go 4 [] λ _=>RN.draw [14] []<|RD.goP [] [0,2,3,5,1,4,6,7,8,9] [.own 2,.own 2,.ix i,.row 0 i 1] [((0+i * 9)+1)=i * 9+1 /\ i < c3,(i:Int)=((i:Nat):Int) /\ i < S.nb]<|RD.one 10 (RDO.ct [] (Hp:=[]) (Tp:=[]) [] [] (clone_Vec_any ((bods.getD i dB).sh.A) ((bods.getD i dB).sh.poly.length) ((bods.getD i dB).sh.cap) ((bods.getD i dB).sh.poly) _ (RowL.src vecEOk (by decide) hrl_.up) hpl_) ?_)
  rintro _ ⟨A9,c10,T11⟩ ⟨rfl,hc12⟩
  dsimp only at hc12
  refine RD.goP [] [11,12,13] [.ix i] [(i:Int)=((i:Nat):Int) /\ i < S.nb]<|RD.one 14 (RDO.evP [] [.row 0 i 1] [((0+i * 9)+1)=i * 9+1 /\ i < c3] λ _=>?_)
  refine RD.fin<|RN.goP 6 [.nw] [I64 ((i:Int)+1)] λ _=>RN.bv 0 (congrArg (λ v_=>(.rows 9 c3 v_ 87 (0,0):Blk)) (show (updG (brow bods) i 1 (.slice A9 ((bods.getD i dB).sh.poly.length) c10))=(brow (bods.set i ((bods.getD i dB).at A9 c10))) from (brow_at (by omega) A9 c10)))<|RN.pt [1,0]<|RN.jt ?_
  refine mt7 (i+1,(bods.set i ((bods.getD i dB).at A9 c10)),U_++T11) [0,1,2] [0] ?_
  try dsimp only
  refine ⟨⟨by omega,by rw [List.length_set];exact hbl_,λ t ht=>?_,λ t ht=>?_,λ t h1_ h2_=>?_⟩,by omega⟩
  ·rcases Decidable.em (i=t) with rfl | h_
   ·rw [getD_set_same (by omega),hfar i (Nat.le_refl _) ht];exact ⟨_,_,rfl⟩
   ·rw [getD_set_not h_];exact hsame t ht
  ·rcases Decidable.em (i=t) with rfl | h_
   ·rw [getD_set_same (by omega)];exact ShH.right (ShH.clone hsi_.2 hsi_.1.2 hc12)
   ·rw [getD_set_not h_];exact (hsh_ t (by omega)).left
  ·rw [getD_set_not (by omega)];exact hfar t (by omega) h2_
 ·refine RN.go 10 [.own 2] λ _=>RN.ct (Hp:=[]) (Tp:=[]) [] [] (clone_Box_any S.rA S.rn S.rc rs _ (RowL.src bxEOk (by decide) hM.rooms.up) (by omega)) ?_
  rintro _ ⟨A13,c14,T15⟩ ⟨rfl,hc16⟩
  dsimp only at hc16
  refine RN.go 8 [.own 2,.own 2] λ _=>RN.ct (Hp:=[]) (Tp:=[]) [] [] (clone_Door_any S.dA S.dn S.dc ds _ (RowL.src drEOk (by decide) hM.doors.up) (by omega)) ?_
  rintro _ ⟨A17,c18,T19⟩ ⟨rfl,hc20⟩
  dsimp only at hc20
  refine RN.go 10 (ow 2 17++ow 1 16) λ _=>RN.ret (ow 1 16) [0] [0,1,2] (v:=.agg #[vI S.players,vS bb 0 S.nb c3,vI S.box.x0,vI S.box.y0,vI S.box.x1,vI S.box.y1,.slice A13 S.rn c14,.slice A17 S.dn c18,vI S.fog,vI S.g.x,vI S.g.y,vI S.push,vI S.drag,vI S.rest,vI S.rounds,vI S.fuel]) (H':=(ap [(bb,.rows 9 c3 (brow bods) 87 (0,0))] [T19,T15,U_])) ?_
  have ei:i=S.nb:=by omega
  subst ei
  have hbod:∀ k,bods.getD (0+k) dB=bods.getD k dB:=λ k=>by rw [Nat.zero_add]
  refine ⟨((⟨S.players,bb,0,S.nb,c3,c3,bods,S.box,A13,S.rn,c14,A17,S.dn,c18,S.fog,S.g,S.push,S.drag,S.rest,S.rounds,S.fuel⟩:Setup),[(bb,.rows 9 c3 (brow bods) 87 (0,0))]++(T19++T15++U_)),(by simp [ap]),rfl,⟨⟨rfl,rfl,rfl,rfl,rfl,rfl,rfl,rfl,rfl,rfl,rfl,rfl⟩,λ k hk=>?_,rfl,hbl_⟩,λ F2 hF=>⟨⟨⟨hp,by omega⟩,hF _ (by simp),(by show 0+S.nb <= c3;omega),λ k hk=>?_⟩,?_,?_⟩⟩
  ·obtain ⟨A,c,h⟩:=hsame k hk;exact ⟨A,c,by show bods.getD (0+k) dB=_;rw [hbod];exact h⟩
  ·show ShIn F2 (bods.getD (0+k) dB).sh;rw [hbod];exact hsh_ k hk F2 λ x hx=>hF x (by simp [hx])
  ·have h_:=hc16.rowL (F:=F2) λ x hx=>hF x (by simp [hx]);rw [hM.rooms.len] at h_;exact h_
  ·have h_:=hc20.rowL (F:=F2) λ x hx=>hF x (by simp [hx]);rw [hM.doors.len] at h_;exact h_
theorem gclone_any (S:Setup) (rs:List Bx) (ds:List Dr) (F:HL) (hS:SetCl F S) (hM:MapIn F S rs ds) (h1:1 <= S.nb) (hrn:S.rn <= 1000000) (hdn:S.dn <= 1000000):Sp Tryz.prog 75 #[Setup.v S] (ap [] []) F (λ u H'=>∃ x:Setup × HL,H'=ap [] [x.2] /\ (u=Setup.v x.1 /\ SetEq S x.1 /\ SetTl x.1 rs ds x.2)):=gclone_run S rs ds F hS hM h1 hrn hdn
end Go.Proofs.YtcfajdgeejeieaaGreatDoor
