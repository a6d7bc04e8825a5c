import Derived.Test.YtghjbimijeinfaaGreatDoorY19
import Derived.Test.YtghjbimijeinfaaGreatDoorY16
set_option maxHeartbeats 4000000
set_option maxRecDepth 100000
set_option linter.unusedSimpArgs false
set_option linter.unusedVariables false
namespace Go.Proofs.YtghjbimijeinfaaGreatDoor
open Go.RowKit
def rF (n:Int):Prop:=-32768 <= n /\ n <= 32768
instance (n:Int):Decidable (rF n):=inferInstanceAs (Decidable (_ /\ _))
def mi (r:Int):Prop:=1 <= r /\ r <= 32768
instance (r:Int):Decidable (mi r):=inferInstanceAs (Decidable (_ /\ _))
def gO (r:Int) (f:Nat -> V2) (n:Nat):Prop:=(r=0 /\ 3 <= n /\ n <= 6) /\ (∀ k,k < n -> rF (f k).x /\ rF (f k).y) /\ oN f n
instance (r:Int) (f:Nat -> V2) (n:Nat):Decidable (gO r f n):=inferInstanceAs (Decidable (_ /\ _ /\ _))
theorem oO {r:Int} {f g:Nat -> V2} {n:Nat} (h:∀ k,k < n -> f k=g k) (hf:gO r f n):gO r g n :=
 ⟨hf.1,λ k hk=>by rw [<- h k hk];exact hf.2.1 k hk,vW h hf.2.2⟩
def kq (s:Shp):Prop:=if s.poly.length=0 then mi s.r else gO s.r (vat s.poly) s.poly.length
instance (s:Shp):Decidable (kq s):=inferInstanceAs (Decidable (if s.poly.length=0 then mi s.r else gO s.r (vat s.poly) s.poly.length))
theorem nP {r:Int} {A:Option Addr} {cap:Nat}:kq ⟨r,[],A,cap⟩ ↔ mi r:=by
 show (if (0:Nat)=0 then mi r else _) ↔ _
 rw [if_pos rfl]
def B1 (s:Shp):Int:=if kq s then 0 else 10
theorem vX (n:Int)  (F:HL):Sp Tryz.prog 191 #[vI n] [] F (λ u H'=>u=.bool (decide (rF n)) /\ H'=[]):=by
 refine Sp.run Tryz.func191 rfl mn (A:=[]) (Ts:=[]) rfl λ w0=>?_
 refine ae 10 [] λ _=>RN.em ((-32768) <= n) 5 (λ h1=>?_) λ h1=>?_
 ·refine ae 6 [] λ _=>RN.ret [] [] [] (v:=.bool (decide (n <= 32768))) (H':=[]) ?_
  exact ⟨by simp [rF, *],rfl⟩
 ·refine ae 6 [] λ _=>RN.ret [] [] [] (v:=.bool false) (H':=[]) ?_
  exact ⟨by simp [rF, *],rfl⟩
theorem yc (r:Int) (A:Option Addr) (cap:Nat) (F:HL):Sp Tryz.prog 129 #[.agg #[vI r,.slice A 0 cap]] [] F (λ u H'=>u=vI (B1 ⟨r,[],A,cap⟩) /\ H'=[]):=by
 refine Sp.run Tryz.func129 rfl mn (A:=[]) (Ts:=[]) rfl λ w0=>?_
 refine ae 10 [.own 0,.own 0] λ n1=>aj (nC r A 0 cap _)<|ae 10 [.own 0] λ _=>RN.em (r < 1) 10 (λ h2=>?_) λ h2=>?_
 ·refine ae 12 [] λ _=>RN.ret [] [] [] (v:=vI 10) (H':=[]) ?_
  exact ⟨by rw [B1,if_neg (λ h_=>by have h2_:=nP.1 h_;unfold mi at h2_;omega)],rfl⟩
 ·refine ae 6 [.own 0] λ _=>RN.em (r > 32768) 14 (λ h3=>?_) λ h3=>?_
  ·refine ae 6 [] λ _=>RN.ret [] [] [] (v:=vI 10) (H':=[]) ?_
   exact ⟨by rw [B1,if_neg (λ h_=>by have h2_:=nP.1 h_;unfold mi at h2_;omega)],rfl⟩
  ·refine ae 8 [] λ _=>RN.ret [] [] [] (v:=vI 0) (H':=[]) ?_
   exact ⟨by rw [B1,if_pos (nP.2 ⟨by omega,by omega⟩)],rfl⟩
theorem Ep (r:Int) (full:List V2) (b o N n cap:Nat) (fz:Nat × Nat) (F:HL) (hb:(b,.rows 2 N (jm full) 29 fz) ∈ F) (ho:o+n <= N) (h1:1 <= n) (hnn:n <= 1000000):Sp Tryz.prog 129 #[.agg #[vI r,vS b (o * 2) n cap]] [] F (λ u H'=>u=vI (if gO r (λ k_=>full.getD (o+k_) ⟨0,0⟩) n then 0 else 10) /\ H'=[]):=by
 refine Sp.run Tryz.func129 rfl (mc hb mn) (A:=[]) (Ts:=[]) rfl λ w0=>?_
 refine ae 10 [.own 0,.own 0] λ n1=>aj (nC r (some ⟨b,o * 2,none⟩) n cap _)<|ae 2 [] λ _=>cV 6 (decide_eq_false (show ¬ ((n:Int)=0) by omega))<|ae 10 [.own 0] λ _=>RN.en (r=0) 18 (λ h2=>?_) λ h2=>?_
 ·refine ae 6 [.own 0] λ _=>RN.em ((n:Int) < 3) 24 (λ h3=>?_) λ h3=>?_
  ·refine ae 13 [] λ _=>RN.ret [] [] [] (v:=vI 10) (H':=[]) ?_
   exact ⟨by rw [if_neg (show ¬ gO r (λ k_=>full.getD (o+k_) ⟨0,0⟩) n from λ h_=>by have:=h_.1;omega)],rfl⟩
  ·refine ae 7 [.own 0] λ _=>RN.em ((n:Int) > 6) 29 (λ h4=>?_) λ h4=>?_
   ·refine ae 6 [] λ _=>RN.ret [] [] [] (v:=vI 10) (H':=[]) ?_
    exact ⟨by rw [if_neg (show ¬ gO r (λ k_=>full.getD (o+k_) ⟨0,0⟩) n from λ h_=>by have:=h_.1;omega)],rfl⟩
   ·refine ae 13 [.own 0] λ _=>RN.loop (σ:=Nat) (λ k=>⟨[(1,vP (n1+0) 0),(31,vS b (o * 2) n cap),(32,vI (n:Int)),(33,vI (k:Int))],[((n1+0),.lit [vI r,vS b (o * 2) n cap] 101 (0,0))],[],k <= n /\ ∀ t,t < k -> rF (full.getD (o+t) (⟨0,0⟩:V2)).x /\ rF (full.getD (o+t) (⟨0,0⟩:V2)).y,n - k⟩) 0 [0] [] (⟨Nat.zero_le _,λ t ht=>absurd ht (Nat.not_lt_zero _)⟩) ?_
    rintro k ⟨hkl,hin⟩ mt6
    refine ae 6 [] λ _=>RN.em ((k:Int) < (n:Int)) 34 (λ h7=>?_) λ h7=>?_
    ·refine al 17 [.ix k,.rorow 0 (o+k) 0,.rorow 0 (o+k) 1,.own 0,.own 0,.own 0] [((o * 2+k * 2)+1)=(o+k) * 2+1 /\ (o+k) < N,(o * 2+k * 2)=(o+k) * 2+0 /\ (o+k) < N,(k:Int)=((k:Nat):Int) /\ k < n] λ n8=>aj (vX ((full.getD (o+k) ⟨0,0⟩).x)  _)<|ae 2 [] λ _=>RN.en (rF ((full.getD (o+k) ⟨0,0⟩).x)) 41 (λ h9=>?_) λ h9=>?_
     ·refine ae 2 [.own 0] λ _=>aj (vX ((full.getD (o+k) ⟨0,0⟩).y)  _)<|ae 4 [] λ _=>RN.en (rF ((full.getD (o+k) ⟨0,0⟩).y)) 46 (λ h10=>?_) λ h10=>?_
      ·refine al 8 [.nw] [br ((k:Int)+1)] λ _=>?_
       refine mt6 (k+1) [1] [] ?_
       try dsimp only
       refine ⟨⟨by omega,λ t ht=>?_⟩,by omega⟩
       rcases Nat.lt_or_ge t k with h_ | h_
       ·exact hin t h_
       ·obtain rfl:t=k:=by omega
        exact ⟨h9,h10⟩
      ·refine ae 6 [] λ _=>RN.ret [] [] [] (v:=vI 10) (H':=[]) ?_
       exact ⟨by rw [if_neg (show ¬ gO r (λ k_=>full.getD (o+k_) ⟨0,0⟩) n from λ h_=>h10 (h_.2.1 k (by omega)).2)],rfl⟩
     ·refine ae 13 [] λ _=>RN.ret [] [] [] (v:=vI 10) (H':=[]) ?_
      exact ⟨by rw [if_neg (show ¬ gO r (λ k_=>full.getD (o+k_) ⟨0,0⟩) n from λ h_=>h9 (h_.2.1 k (by omega)).1)],rfl⟩
    ·refine ae 11 [.own 0] λ _=>aj (Eo full b o N n cap fz _ (au hb) ho hnn)<|ae 3 [] λ _=>RN.en (oN (λ k_=>full.getD (o+k_) ⟨0,0⟩) n) 51 (λ h11=>?_) λ h11=>?_
     ·refine ae 8 [] λ _=>RN.ret [] [] [] (v:=vI 0) (H':=[]) ?_
      exact ⟨by rw [if_pos (show gO r (λ k_=>full.getD (o+k_) ⟨0,0⟩) n from ⟨⟨by omega,by omega,by omega⟩,λ t ht=>hin t (by omega),h11⟩)],rfl⟩
     ·refine ae 6 [] λ _=>RN.ret [] [] [] (v:=vI 10) (H':=[]) ?_
      exact ⟨by rw [if_neg (show ¬ gO r (λ k_=>full.getD (o+k_) ⟨0,0⟩) n from λ h_=>h11 h_.2.2)],rfl⟩
 ·refine ae 19 [] λ _=>RN.ret [] [] [] (v:=vI 10) (H':=[]) ?_
  exact ⟨by rw [if_neg (show ¬ gO r (λ k_=>full.getD (o+k_) ⟨0,0⟩) n from λ h_=>by have:=h_.1;omega)],rfl⟩
theorem HV (s:Shp) (F:HL) (h:RowL kH 29 F s.A s.poly.length s.poly) (hn:s.poly.length <= 1000000):Sp Tryz.prog 129 #[LI s] [] F (λ u H'=>u=vI (B1 s) /\ H'=[]):=by
 obtain ⟨r,l,A,cap⟩:=s
 simp only at h hn
 rcases Nat.eq_zero_or_pos l.length with h0 | h0
 ·obtain rfl:l=[]:=List.eq_nil_of_length_eq_zero h0
  exact yc r A cap F
 ·generalize hm:l.length=m at h h0 hn
  cases h with
  | zero=>omega
  | rows q o N full fz n xs hq ho hn' hx =>
   have:=Ep r full q o N m cap fz F hq ho h0 hn
   have e:B1 ⟨r,l,some ⟨q,o * 2,none⟩,cap⟩=if gO r (λ k_=>full.getD (o+k_) ⟨0,0⟩) m then 0 else 10:=by
    have e1:kq ⟨r,l,some ⟨q,o * 2,none⟩,cap⟩ ↔ gO r (λ k_=>full.getD (o+k_) ⟨0,0⟩) m:=by
     unfold kq
     simp only
     rw [if_neg (by omega),hm]
     exact ⟨oO λ k hk=>(hx k hk).symm,oO λ k hk=>hx k hk⟩
    unfold B1
    by_cases hc:gO r (λ k_=>full.getD (o+k_) ⟨0,0⟩) m
    ·rw [if_pos hc,if_pos (e1.2 hc)]
    ·rw [if_neg hc,if_neg λ h=>hc (e1.1 h)]
   show Sp _ _ #[.agg #[vI r,.slice (some ⟨q,o * 2,none⟩) l.length cap]] _ _ (λ u H'=>u=vI (B1 ⟨r,l,some ⟨q,o * 2,none⟩,cap⟩) /\ H'=[])
   rw [e,hm]
   exact this
structure SetSh (F:HL) (S:Setup):Prop where
 nb:S.nb <= 1000000
 blk:(S.bb,.rows 9 S.bR (fF S.bods) 106 (0,0)) ∈ F
 room:S.bo+S.nb <= S.bR
 pol:∀ k,k < S.nb -> RowL kH 29 F (S.body k).sh.A (S.body k).sh.poly.length (S.body k).sh.poly /\ (S.body k).sh.poly.length <= 1000000
theorem ShIn.rowL {F:HL} {s:Shp} (h:ShIn F s):RowL kH 29 F s.A s.poly.length s.poly /\ s.poly.length <= 1000000:=by
 cases h with
 | circle r A cap=>exact ⟨.zero _,Nat.zero_le _⟩
 | poly r l b cap h h3 h4 h5=>exact ⟨RowL.whole (e:=kH) h h4,h5⟩
def yd (S:Setup) (rs:List Bx) (ds:List Dr):Prop:=jv S /\ ge S.box /\ lR S rs ds
instance (S:Setup) (rs:List Bx) (ds:List Dr):Decidable (yd S rs ds):=inferInstanceAs (Decidable (_ /\ _))
def fJ (S:Setup) (rs:List Bx) (ds:List Dr):Int:=if ∀ k,k < S.nb -> kq (S.body k).sh then (if yd S rs ds then (if ∀ k,k < S.nb -> fv (S.body k) S.box then 0 else 11) else 11) else 10
theorem KD {s:Shp} (h:B1 s=0):kq s:=by
 unfold B1 at h
 split at h
 ·assumption
 ·omega
theorem KE {s:Shp} (h:¬ B1 s=0):¬ kq s:=λ hc=>h (by rw [B1,if_pos hc])
theorem HW (S:Setup) (rs:List Bx) (ds:List Dr) (F:HL) (hS:SetSh F S) (hM:MapIn F S rs ds):Sp Tryz.prog 80 #[(Setup.v S)] [] F (λ u H'=>u=vI (fJ S rs ds) /\ H'=[]):=by
 have hn:=hS.nb
 have hr:=hS.room
 refine Sp.run Tryz.func80 rfl (mc hS.blk mn) (A:=[]) (Ts:=[]) rfl λ w0=>?_
 refine ae 16 [.own 0] λ n1=>RN.loop (σ:=Nat) (λ k=>⟨[(1,vP (n1+0) 0),(8,vS S.bb (S.bo * 9) S.nb S.bc),(9,vI (S.nb:Int)),(10,vI (k:Int))],[((n1+0),.lit (Setup.l S) 31 (0,0))],[],k <= S.nb /\ ∀ t,t < k -> kq (S.body t).sh,S.nb - k⟩) 0 [0] [] (⟨Nat.zero_le _,λ t ht=>absurd ht (Nat.not_lt_zero _)⟩) ?_
 rintro k ⟨hkl,hsh⟩ mt3
 refine ae 6 [] λ _=>RN.em ((k:Int) < (S.nb:Int)) 11 (λ h4=>?_) λ h4=>?_
 ·refine al 17 ([.ix k,.rorow 0 (S.bo+k) 0,.rorow 0 (S.bo+k) 1,.rorow 0 (S.bo+k) 2,.rorow 0 (S.bo+k) 3,.rorow 0 (S.bo+k) 4,.rorow 0 (S.bo+k) 5,.rorow 0 (S.bo+k) 6,.rorow 0 (S.bo+k) 7,.rorow 0 (S.bo+k) 8]++ow 0 11) [((S.bo * 9+k * 9)+8)=(S.bo+k) * 9+8 /\ (S.bo+k) < S.bR,((S.bo * 9+k * 9)+7)=(S.bo+k) * 9+7 /\ (S.bo+k) < S.bR,((S.bo * 9+k * 9)+6)=(S.bo+k) * 9+6 /\ (S.bo+k) < S.bR,((S.bo * 9+k * 9)+5)=(S.bo+k) * 9+5 /\ (S.bo+k) < S.bR,((S.bo * 9+k * 9)+4)=(S.bo+k) * 9+4 /\ (S.bo+k) < S.bR,((S.bo * 9+k * 9)+3)=(S.bo+k) * 9+3 /\ (S.bo+k) < S.bR,((S.bo * 9+k * 9)+2)=(S.bo+k) * 9+2 /\ (S.bo+k) < S.bR,((S.bo * 9+k * 9)+1)=(S.bo+k) * 9+1 /\ (S.bo+k) < S.bR,(S.bo * 9+k * 9)=(S.bo+k) * 9+0 /\ (S.bo+k) < S.bR,(k:Int)=((k:Nat):Int) /\ k < S.nb] λ n5=>aj (HV ((S.bods.getD (S.bo+k) dB).sh) _ (hS.pol k (by omega)).1.up (hS.pol k (by omega)).2)<|ae 3 [] λ _=>RN.en (B1 ((S.bods.getD (S.bo+k) dB).sh)=0) 17 (λ h6=>?_) λ h6=>?_
  ·refine al 8 [.nw] [br ((k:Int)+1)] λ _=>?_
   refine mt3 (k+1) [1] [] ?_
   try dsimp only
   refine ⟨⟨by omega,λ t ht=>?_⟩,by omega⟩
   rcases Nat.lt_or_ge t k with h_ | h_
   ·exact hsh t h_
   ·obtain rfl:t=k:=by omega
    exact KD h6
  ·refine ae 6 [] λ _=>RN.ret [] [] [] (v:=vI 10) (H':=[]) ?_
   exact ⟨by rw [fJ,if_neg (show ¬ ∀ k,k < S.nb -> kq (S.body k).sh from λ h_=>KE h6 (h_ k (by omega)))],rfl⟩
 ·refine ae 10 (ow 0 16) λ _=>aj (Eh S _)<|ae 2 [] λ _=>RN.en (jv S) 22 (λ h7=>?_) λ h7=>?_
  ·refine ae 2 [.own 0,.own 0,.own 0,.own 0] λ _=>aj (qm S.box  _)<|ae 3 [] λ _=>RN.en (ge S.box) 28 (λ h8=>?_) λ h8=>?_
   ·refine ae 1 (ow 0 16) λ _=>aj (Ei S rs ds _ hM.up)<|ae 4 [] λ _=>RN.en (lR S rs ds) 32 (λ h9=>?_) λ h9=>?_
    ·refine ae 13 [.own 0] λ _=>RN.loop (σ:=Nat) (λ j=>⟨[(1,vP (n1+0) 0),(34,vS S.bb (S.bo * 9) S.nb S.bc),(35,vI (S.nb:Int)),(36,vI (j:Int))],[((n1+0),.lit (Setup.l S) 31 (0,0))],[],j <= S.nb /\ ∀ t,t < j -> fv (S.body t) S.box,S.nb - j⟩) 0 [0] [] (⟨Nat.zero_le _,λ t ht=>absurd ht (Nat.not_lt_zero _)⟩) ?_
     rintro j ⟨hjl,hvb⟩ mt11
     refine ae 6 [] λ _=>RN.em ((j:Int) < (S.nb:Int)) 37 (λ h12=>?_) λ h12=>?_
     ·refine al 18 ([.ix j,.rorow 0 (S.bo+j) 0,.rorow 0 (S.bo+j) 1,.rorow 0 (S.bo+j) 2,.rorow 0 (S.bo+j) 3,.rorow 0 (S.bo+j) 4,.rorow 0 (S.bo+j) 5,.rorow 0 (S.bo+j) 6,.rorow 0 (S.bo+j) 7,.rorow 0 (S.bo+j) 8]++ow 0 18++[.own 1,.own 1,.own 1,.own 1]) [((S.bo * 9+j * 9)+8)=(S.bo+j) * 9+8 /\ (S.bo+j) < S.bR,((S.bo * 9+j * 9)+7)=(S.bo+j) * 9+7 /\ (S.bo+j) < S.bR,((S.bo * 9+j * 9)+6)=(S.bo+j) * 9+6 /\ (S.bo+j) < S.bR,((S.bo * 9+j * 9)+5)=(S.bo+j) * 9+5 /\ (S.bo+j) < S.bR,((S.bo * 9+j * 9)+4)=(S.bo+j) * 9+4 /\ (S.bo+j) < S.bR,((S.bo * 9+j * 9)+3)=(S.bo+j) * 9+3 /\ (S.bo+j) < S.bR,((S.bo * 9+j * 9)+2)=(S.bo+j) * 9+2 /\ (S.bo+j) < S.bR,((S.bo * 9+j * 9)+1)=(S.bo+j) * 9+1 /\ (S.bo+j) < S.bR,(S.bo * 9+j * 9)=(S.bo+j) * 9+0 /\ (S.bo+j) < S.bR,(j:Int)=((j:Nat):Int) /\ j < S.nb] λ n13=>aj (BX (S.bods.getD (S.bo+j) dB) S.box _)<|ae 3 [] λ _=>RN.en (fv (S.bods.getD (S.bo+j) dB) S.box) 44 (λ h14=>?_) λ h14=>?_
      ·refine al 8 [.nw] [br ((j:Int)+1)] λ _=>?_
       refine mt11 (j+1) [1] [] ?_
       try dsimp only
       refine ⟨⟨by omega,λ t ht=>?_⟩,by omega⟩
       rcases Nat.lt_or_ge t j with h_ | h_
       ·exact hvb t h_
       ·obtain rfl:t=j:=by omega
        exact h14
      ·refine ae 6 [] λ _=>RN.ret [] [] [] (v:=vI 11) (H':=[]) ?_
       exact ⟨by rw [fJ,if_pos (show ∀ k,k < S.nb -> kq (S.body k).sh from λ t ht=>hsh t (by omega)),if_pos (show yd S rs ds from ⟨h7,h8,h9⟩),if_neg (show ¬ ∀ k,k < S.nb -> fv (S.body k) S.box from λ h_=>h14 (h_ j (by omega)))],rfl⟩
     ·refine ae 11 [] λ _=>RN.ret [] [] [] (v:=vI 0) (H':=[]) ?_
      exact ⟨by rw [fJ,if_pos (show ∀ k,k < S.nb -> kq (S.body k).sh from λ t ht=>hsh t (by omega)),if_pos (show yd S rs ds from ⟨h7,h8,h9⟩),if_pos (show ∀ k,k < S.nb -> fv (S.body k) S.box from λ t ht=>hvb t (by omega))],rfl⟩
    ·refine ae 6 [] λ _=>RN.ret [] [] [] (v:=vI 11) (H':=[]) ?_
     exact ⟨by rw [fJ,if_pos (show ∀ k,k < S.nb -> kq (S.body k).sh from λ t ht=>hsh t (by omega)),if_neg (show ¬ yd S rs ds from λ h_=>h9 h_.2.2)],rfl⟩
   ·refine ae 12 [] λ _=>RN.ret [] [] [] (v:=vI 11) (H':=[]) ?_
    exact ⟨by rw [fJ,if_pos (show ∀ k,k < S.nb -> kq (S.body k).sh from λ t ht=>hsh t (by omega)),if_neg (show ¬ yd S rs ds from λ h_=>h8 h_.2.1)],rfl⟩
  ·refine ae 18 [] λ _=>RN.ret [] [] [] (v:=vI 11) (H':=[]) ?_
   exact ⟨by rw [fJ,if_pos (show ∀ k,k < S.nb -> kq (S.body k).sh from λ t ht=>hsh t (by omega)),if_neg (show ¬ yd S rs ds from λ h_=>h7 h_.1)],rfl⟩
def iY (S:Setup):List Bod:=(List.range S.nb).map S.body
theorem fD (S:Setup):(iY S).length=S.nb:=by simp [iY]
theorem gZ {S:Setup} {k:Nat} (h:k < S.nb):(iY S).getD k dB=S.body k:=by simp [iY,h]
theorem sD {F:HL} {S:Setup} (hS:SetSh F S):RowL kl 106 F (some ⟨S.bb,S.bo * 9,none⟩) S.nb (iY S) :=
 .rows S.bb S.bo S.bR S.bods (0,0) S.nb (iY S) hS.blk hS.room (fD S) (λ k hk=>(gZ hk).symm)
theorem ClS.open {α:Type} {e:Enc α} {T:TypeId} {xs:List α} {A:Option Addr} {c:Nat} {Hl:HL} (h:ClS e T xs A c Hl) (hx:0 < xs.length):∃ b,A=some ⟨b,0,none⟩ /\ Hl=[(b,.rows e.w c (cu e xs) T (0,0))] /\ xs.length <= c:=by
 obtain ⟨A0,h⟩:=h
 rcases h with ⟨rfl,_⟩ | ⟨b,h1,h2,h3⟩
 ·simp at hx
 ·exact ⟨b,h1,h2,h3⟩
structure SetCl (F:HL) (S:Setup):Prop extends SetN S where
 blk:(S.bb,.rows 9 S.bR (fF S.bods) 106 (0,0)) ∈ F
 room:S.bo+S.nb <= S.bR
 shp:∀ k,k < S.nb -> (RowL kH 29 F (S.body k).sh.A (S.body k).sh.poly.length (S.body k).sh.poly /\ (S.body k).sh.poly.length <= 1000000) /\ ((S.body k).sh.poly=[] \/ 3 <= (S.body k).sh.poly.length)
theorem SetIn.cl {F:HL} {S:Setup} (h:SetIn F S):SetCl F S:=⟨h.toSetN,h.blk,h.room,λ k hk=>⟨(h.shp k hk).rowL,by
 have h1:=h.shp k hk
 generalize (S.body k).sh=s at h1
 cases h1 with
 | circle r A cap=>exact .inl rfl
 | poly r l b cap h h3 h4 h5=>exact .inr h3⟩⟩
theorem SetCl.up {F X:HL} {S:Setup} (h:SetCl F S):SetCl (X++F) S:=⟨h.toSetN,List.mem_append_right _ h.blk,h.room,λ k hk=>⟨⟨(h.shp k hk).1.1.up,(h.shp k hk).1.2⟩,(h.shp k hk).2⟩⟩
theorem SetCl.toSh {F:HL} {S:Setup} (h:SetCl F S):SetSh F S:=⟨h.nb,h.blk,h.room,λ k hk=>(h.shp k hk).1⟩
theorem sE {s:Shp} (h:s.poly=[] \/ 3 <= s.poly.length) (hl:s.poly.length <= 1000000) {A:Option Addr} {c:Nat} {T:HL} (hc:ClS kH 29 s.poly A c T):ShH ⟨s.r,s.poly,A,c⟩ T:=by
 intro F' hF
 rcases h with h | h
 ·rw [h];exact .circle _ _ _
 ·obtain ⟨b2,rfl,rfl,h6⟩:=hc.open (by omega)
  exact .poly _ _ _ _ (hF _ (List.mem_singleton.2 rfl)) h h6 hl
def Bod.at (b:Bod) (A:Option Addr) (c:Nat):Bod:=⟨⟨b.sh.r,b.sh.poly,A,c⟩,b.mot,b.a,b.b⟩
theorem cr {α:Type} {l:List α} {i:Nat} {x d:α} (h:i < l.length):(l.set i x).getD i d=x:=by simp [h]
theorem b6 {α:Type} {l:List α} {i k:Nat} {x d:α} (h:¬ i=k):(l.set i x).getD k d=l.getD k d:=by simp [List.getElem?_set,h]
theorem zR {l:List Bod} {i:Nat} (h:i < l.length) (A:Option Addr) (c:Nat):dN (fF l) i 1 (.slice A (l.getD i dB).sh.poly.length c)=fF (l.set i ((l.getD i dB).at A c)):=by
 funext j k
 unfold dN
 by_cases h1:j=i
 ·subst h1
  show _=kl.cell ((l.set j ((l.getD j dB).at A c)).getD j dB) k
  rw [cr h]
  by_cases h2:k=1
  ·subst h2;simp;rfl
  ·rw [if_neg (by simp [h2])]
   show kl.cell (l.getD j dB) k=_
   rcases k with _ | _ | k
   ·rfl
   ·exact absurd rfl h2
   ·rcases k with _ | _ | _ | _ | _ | _ | k <;> rfl
 ·rw [if_neg (by simp [h1])]
  show kl.cell (l.getD j dB) k=kl.cell ((l.set i _).getD j dB) k
  rw [b6 (λ e=>h1 e.symm)]
structure SetEq (S S':Setup):Prop where
 nums:S'.players=S.players /\ S'.nb=S.nb /\ S'.box=S.box /\ S'.rn=S.rn /\ S'.dn=S.dn /\ S'.fog=S.fog /\ S'.g=S.g /\ S'.push=S.push /\ S'.drag=S.drag /\ S'.rest=S.rest /\ S'.rounds=S.rounds /\ S'.fuel=S.fuel
 bod:∀ k,k < S.nb -> ∃ A c,S'.body k=(S.body k).at A c
 whole:S'.bo=0 /\ S'.bods.length=S.nb
def m0 (S:Setup) (rs:List Bx) (ds:List Dr) (U:HL):Prop:=∀ F,(∀ y ∈ U,y ∈ F) -> SetIn F S /\ MapIn F S rs ds
theorem ye (S:Setup) (rs:List Bx) (ds:List Dr) (F:HL) (hS:SetCl F S) (hM:MapIn F S rs ds) (h1:1 <= S.nb) (hrn:S.rn <= 1000000) (hdn:S.dn <= 1000000):Sp Tryz.prog 81 #[(Setup.v S)] [] F (λ u H'=>∃ x:Setup × HL,H'=ap [] [x.2] /\ (u=Setup.v x.1 /\ SetEq S x.1 /\ m0 x.1 rs ds x.2)):=by
 have hp:=hS.pl
 have hn:=hS.nb
 have hr:=hS.room
 refine Sp.run Tryz.func81 rfl (mc hS.blk mn) (A:=[]) (Ts:=[]) rfl λ w0=>?_
 refine ae 10 [.own 1] λ n1=>RN.ct (Hp:=[]) (Tp:=[]) [] [] (kI (some ⟨S.bb,S.bo * 9,none⟩) S.nb S.bc (iY S) _ (RowL.src tL (by decide) (sD hS.toSh).up) (by omega)) ?_
 rintro _ ⟨A2,c3,T4⟩ ⟨rfl,hc5⟩
 dsimp only at hc5
 refine ae 7 [.own 1] λ _=>?_
 obtain ⟨bb,rfl,rfl,hcap0⟩:=hc5.open (by rw [fD];omega)
 have hcap:S.nb <= c3:=by rw [fD] at hcap0;exact hcap0
 refine uV 0 (x:=(bb,.rows 9 c3 (fF (iY S)) 106 (0,0)))<|ae 7 [.own 2] λ _=>RN.nt<|RN.loop (σ:=Nat × List Bod × HL) (λ ⟨i,bods,U_⟩=>⟨[(1,vP (n1+0) 0),(2,vP (n1+1) 0),(10,vI (S.nb:Int)),(11,vI (i:Int))],[(bb,.rows 9 c3 (fF bods) 106 (0,0)),((n1+1),.lit [vI 0,.slice none 0 0,vI 0,vI 0,vI 0,vI 0,.slice none 0 0,.slice none 0 0,vI 0,vI 0,vI 0,vI 0,vI 0,vI 0,vI 0,vI 0] 31 (0,0)),((n1+0),.lit [vI S.players,vS bb 0 S.nb c3,vI S.box.x0,vI S.box.y0,vI S.box.x1,vI S.box.y1,.slice S.rA S.rn S.rc,.slice S.dA S.dn S.dc,vI S.fog,vI S.g.x,vI S.g.y,vI S.push,vI S.drag,vI S.rest,vI S.rounds,vI S.fuel] 31 (0,0))],[U_],i <= S.nb /\ bods.length=S.nb /\ (∀ k,k < S.nb -> ∃ A c,bods.getD k dB=(S.body k).at A c) /\ (∀ k,k < i -> ShH (bods.getD k dB).sh U_) /\ ∀ k,i <= k -> k < S.nb -> bods.getD k dB=S.body k,S.nb - i⟩) (0,iY S,[]) [0,1,2] [0] (⟨Nat.zero_le _,fD S,λ k hk=>⟨_,_,gZ hk⟩,λ k hk=>absurd hk (Nat.not_lt_zero _),λ k _ hk=>gZ hk⟩) ?_
 rintro ⟨i,bods,U_⟩ ⟨hil,hbl_,hsame,hsh_,hfar⟩ mt7
 refine ae 6 [] λ _=>RN.em ((i:Int) < (S.nb:Int)) 12 (λ h8=>?_) λ h8=>?_
 ·refine ae 7 [] λ _=>?_
  have hsi_:(RowL kH 29 F (bods.getD i dB).sh.A (bods.getD i dB).sh.poly.length (bods.getD i dB).sh.poly /\ (bods.getD i dB).sh.poly.length <= 1000000) /\ ((bods.getD i dB).sh.poly=[] \/ 3 <= (bods.getD i dB).sh.poly.length):=by rw [hfar i (Nat.le_refl _) (by omega)];exact hS.shp i (by omega)
  have hrl_:=hsi_.1.1
  have hpl_:(bods.getD i dB).sh.poly.length <= 100000000:=by have:=hsi_.1.2;omega
  refine ae 4 [] λ _=>RN.draw [14] []<|aJ [] [0,2,3,5,1,4,6,7,8,9] [.own 2,.own 2,.ix i,.row 0 i 1] [((0+i * 9)+1)=i * 9+1 /\ i < c3,(i:Int)=((i:Nat):Int) /\ i < S.nb]<|RD.one 10 (RDO.ct [] (Hp:=[]) (Tp:=[]) [] [] (lP ((bods.getD i dB).sh.A) ((bods.getD i dB).sh.poly.length) ((bods.getD i dB).sh.cap) ((bods.getD i dB).sh.poly) _ (RowL.src xZ (by decide) hrl_.up) hpl_) ?_)
  rintro _ ⟨A9,c10,T11⟩ ⟨rfl,hc12⟩
  dsimp only at hc12
  refine aJ [] [11,12,13] [.ix i] [(i:Int)=((i:Nat):Int) /\ i < S.nb]<|RD.one 14 (dX [] [.row 0 i 1] [((0+i * 9)+1)=i * 9+1 /\ i < c3] λ _=>?_)
  refine RD.fin<|al 6 [.nw] [br ((i:Int)+1)] λ _=>eI 0 (congrArg (λ v_=>(.rows 9 c3 v_ 106 (0,0):Blk)) (show (dN (fF bods) i 1 (.slice A9 ((bods.getD i dB).sh.poly.length) c10))=(fF (bods.set i ((bods.getD i dB).at A9 c10))) from (zR (by omega) A9 c10)))<|oG [1,0]<|pP ?_
  refine mt7 (i+1,(bods.set i ((bods.getD i dB).at A9 c10)),U_++T11) [0,1,2] [0] ?_
  try dsimp only
  refine ⟨⟨by omega,by rw [List.length_set];exact hbl_,λ t ht=>?_,λ t ht=>?_,λ t h1_ h2_=>?_⟩,by omega⟩
  ·rcases Decidable.em (i=t) with rfl | h_
   ·rw [cr (by omega),hfar i (Nat.le_refl _) ht];exact ⟨_,_,rfl⟩
   ·rw [b6 h_];exact hsame t ht
  ·rcases Decidable.em (i=t) with rfl | h_
   ·rw [cr (by omega)];exact ShH.right (sE hsi_.2 hsi_.1.2 hc12)
   ·rw [b6 h_];exact (hsh_ t (by omega)).left
  ·rw [b6 (by omega)];exact hfar t (by omega) h2_
 ·refine ae 10 [.own 2] λ _=>RN.ct (Hp:=[]) (Tp:=[]) [] [] (lQ S.rA S.rn S.rc rs _ (RowL.src Ec (by decide) hM.rooms.up) (by omega)) ?_
  rintro _ ⟨A13,c14,T15⟩ ⟨rfl,hc16⟩
  dsimp only at hc16
  refine ae 8 [.own 2,.own 2] λ _=>RN.ct (Hp:=[]) (Tp:=[]) [] [] (kJ S.dA S.dn S.dc ds _ (RowL.src Ed (by decide) hM.doors.up) (by omega)) ?_
  rintro _ ⟨A17,c18,T19⟩ ⟨rfl,hc20⟩
  dsimp only at hc20
  refine ae 10 (ow 2 17++ow 1 16) λ _=>RN.ret (ow 1 16) [0] [0,1,2] (v:=.agg #[vI S.players,vS bb 0 S.nb c3,vI S.box.x0,vI S.box.y0,vI S.box.x1,vI S.box.y1,.slice A13 S.rn c14,.slice A17 S.dn c18,vI S.fog,vI S.g.x,vI S.g.y,vI S.push,vI S.drag,vI S.rest,vI S.rounds,vI S.fuel]) (H':=(ap [(bb,.rows 9 c3 (fF bods) 106 (0,0))] [T19,T15,U_])) ?_
  have ei:i=S.nb:=by omega
  subst ei
  have hbod:∀ k,bods.getD (0+k) dB=bods.getD k dB:=λ k=>by rw [Nat.zero_add]
  refine ⟨((⟨S.players,bb,0,S.nb,c3,c3,bods,S.box,A13,S.rn,c14,A17,S.dn,c18,S.fog,S.g,S.push,S.drag,S.rest,S.rounds,S.fuel⟩:Setup),[(bb,.rows 9 c3 (fF bods) 106 (0,0))]++(T19++T15++U_)),(by simp [ap]),rfl,⟨⟨rfl,rfl,rfl,rfl,rfl,rfl,rfl,rfl,rfl,rfl,rfl,rfl⟩,λ k hk=>?_,rfl,hbl_⟩,λ F2 hF=>⟨⟨⟨hp,by omega⟩,hF _ (by simp),(by show 0+S.nb <= c3;omega),λ k hk=>?_⟩,?_,?_⟩⟩
  ·obtain ⟨A,c,h⟩:=hsame k hk;exact ⟨A,c,by show bods.getD (0+k) dB=_;rw [hbod];exact h⟩
  ·show ShIn F2 (bods.getD (0+k) dB).sh;rw [hbod];exact hsh_ k hk F2 λ x hx=>hF x (by simp [hx])
  ·have h_:=hc16.rowL (F:=F2) λ x hx=>hF x (by simp [hx]);rw [hM.rooms.len] at h_;exact h_
  ·have h_:=hc20.rowL (F:=F2) λ x hx=>hF x (by simp [hx]);rw [hM.doors.len] at h_;exact h_
theorem yf (S:Setup) (rs:List Bx) (ds:List Dr) (F:HL) (hS:SetCl F S) (hM:MapIn F S rs ds) (h1:1 <= S.nb) (hrn:S.rn <= 1000000) (hdn:S.dn <= 1000000):Sp Tryz.prog 81 #[Setup.v S] (ap [] []) F (λ u H'=>∃ x:Setup × HL,H'=ap [] [x.2] /\ (u=Setup.v x.1 /\ SetEq S x.1 /\ m0 x.1 rs ds x.2)):=ye S rs ds F hS hM h1 hrn hdn
theorem yg {S:Setup} (h:SetN S) {i:Nat} (hi:i < S.nb):dN (dN (dN (dN (dN (dN (aL (aK S i)) ((af S i).toNat+0) 0 (vI (S.body i).mot.px)) ((af S i).toNat+1) 0 (vI (S.body i).mot.py)) ((af S i).toNat+2) 0 (vI (S.body i).mot.vx)) ((af S i).toNat+3) 0 (vI (S.body i).mot.vy)) ((af S i).toNat+4) 0 (vI (S.body i).a)) ((af S i).toNat+5) 0 (vI (S.body i).b)=aL (aK S (i+1)):=by
 have hb:=nL h hi
 rw [<- BV h hi]
 rw [show (af S i+1).toNat=(af S i).toNat+1 by omega,show (af S i+2).toNat=(af S i).toNat+2 by omega,show (af S i+3).toNat=(af S i).toNat+3 by omega,show (af S i+4).toNat=(af S i).toNat+4 by omega,show (af S i+5).toNat=(af S i).toNat+5 by omega]
 rfl
theorem sF (S:Setup) (F:HL) (hS:SetCl F S):Sp Tryz.prog 82 #[(Setup.v S)] [] F (λ u H'=>∃ q,H'=ap [(q,.rows 1 (sizeOf S).toNat (aL (aK S S.nb)) 3 (0,0))] [] /\ u=vS q 0 (sizeOf S).toNat (sizeOf S).toNat):=by
 have hp:=hS.pl
 have hn:=hS.nb
 have hr:=hS.room
 have hz:=BU hS.toSetN
 refine Sp.run Tryz.func82 rfl (mc hS.blk mn) (A:=[]) (Ts:=[]) rfl λ w0=>?_
 refine ae 13 [.own 0] λ n1=>RN.em (S.players < 0) 10 (λ h2=>?_) λ h2=>?_
 ·(exfalso;omega)
 ·refine ae 6 [.own 0] λ _=>RN.em (S.players > 1048576) 14 (λ h3=>?_) λ h3=>?_
  ·(exfalso;omega)
  ·refine ae 6 (ow 0 16) λ _=>aj (ld S _ hS.toSetN)<|al 14 [.mk ((sizeOf S).toNat) ((sizeOf S).toNat),.own 1] [sizeOf S=(((sizeOf S).toNat:Nat):Int) /\ sizeOf S=(((sizeOf S).toNat:Nat):Int) /\ (sizeOf S).toNat <= (sizeOf S).toNat /\ 8 * ((sizeOf S).toNat) <= 140737488355328 /\ 1=1 /\ (sizeOf S).toNat <= 9223372036854775807] λ n4=>eI 0 (congrArg (λ v_=>(.rows 1 ((sizeOf S).toNat) v_ 3 (0,0):Blk)) (show (oV [vI 0])=(aL (aK S 0)) from (by rw [sw (sizeOf S).toNat] <;> rfl)))<|RN.loop (σ:=Nat) (λ i=>⟨[(1,vP (n1+0) 0),(3,vS (n4+0) 0 ((sizeOf S).toNat) ((sizeOf S).toNat)),(19,vS S.bb (S.bo * 9) S.nb S.bc),(20,vI (S.nb:Int)),(21,vI (i:Int))],[((n4+0),.rows 1 ((sizeOf S).toNat) (aL (aK S i)) 3 (0,0)),((n1+0),.lit (Setup.l S) 31 (0,0))],[],i <= S.nb,S.nb - i⟩) 0 [0,1] [] (Nat.zero_le _) ?_
   rintro i hI5 mt6
   refine ae 6 [] λ _=>RN.em ((i:Int) < (S.nb:Int)) 22 (λ h7=>?_) λ h7=>?_
   ·have hbi:=nL hS.toSetN (i:=i) (by omega)
    refine al 20 ([.ix i,.rorow 0 (S.bo+i) 0,.rorow 0 (S.bo+i) 1,.rorow 0 (S.bo+i) 2,.rorow 0 (S.bo+i) 3,.rorow 0 (S.bo+i) 4,.rorow 0 (S.bo+i) 5,.rorow 0 (S.bo+i) 6,.rorow 0 (S.bo+i) 7,.rorow 0 (S.bo+i) 8]++ow 0 9++ow 2 16) [((S.bo * 9+i * 9)+8)=(S.bo+i) * 9+8 /\ (S.bo+i) < S.bR,((S.bo * 9+i * 9)+7)=(S.bo+i) * 9+7 /\ (S.bo+i) < S.bR,((S.bo * 9+i * 9)+6)=(S.bo+i) * 9+6 /\ (S.bo+i) < S.bR,((S.bo * 9+i * 9)+5)=(S.bo+i) * 9+5 /\ (S.bo+i) < S.bR,((S.bo * 9+i * 9)+4)=(S.bo+i) * 9+4 /\ (S.bo+i) < S.bR,((S.bo * 9+i * 9)+3)=(S.bo+i) * 9+3 /\ (S.bo+i) < S.bR,((S.bo * 9+i * 9)+2)=(S.bo+i) * 9+2 /\ (S.bo+i) < S.bR,((S.bo * 9+i * 9)+1)=(S.bo+i) * 9+1 /\ (S.bo+i) < S.bR,(S.bo * 9+i * 9)=(S.bo+i) * 9+0 /\ (S.bo+i) < S.bR,(i:Int)=((i:Nat):Int) /\ i < S.nb] λ n8=>aj (bS S (i:Int) _ hS.toSetN) ?_
    have hb9:=cB hS.toSetN (i:Int)
    refine al 5 [.sl ((af S (i:Int)).toNat) ((sizeOf S).toNat) false] [af S (i:Int)=(((af S (i:Int)).toNat:Nat):Int) /\ (sizeOf S).toNat=(sizeOf S).toNat /\ (af S (i:Int)).toNat <= (sizeOf S).toNat /\ (sizeOf S).toNat <= (sizeOf S).toNat /\ (sizeOf S).toNat ≠ (af S (i:Int)).toNat] λ _=>RN.draw [11,13] [0,2]<|aJ [0,2] [0,1,2,6,3,7,4,8,5,9,10] [.own 0,.ro 0,.ix 0] [0=((0:Nat):Int) /\ 0 < ((sizeOf S).toNat - (af S (i:Int)).toNat)]<|RD.one 11 (dX [0,2] [.row 1 (((af S (i:Int)).toNat)+0) 0] [((0+((af S (i:Int)).toNat) * 1)+0 * 1)=(((af S (i:Int)).toNat)+0) * 1+0 /\ (((af S (i:Int)).toNat)+0) < ((sizeOf S).toNat)] λ _=>?_)
    refine aJ [0,2] [12] [.ix 1] [1=((1:Nat):Int) /\ 1 < ((sizeOf S).toNat - (af S (i:Int)).toNat)]<|RD.one 13 (dX [0,2] [.row 1 (((af S (i:Int)).toNat)+1) 0] [((0+((af S (i:Int)).toNat) * 1)+1 * 1)=(((af S (i:Int)).toNat)+1) * 1+0 /\ (((af S (i:Int)).toNat)+1) < ((sizeOf S).toNat)] λ _=>?_)
    refine RD.fin<|ae 2 [] λ _=>RN.draw [11,13] [0,2]<|aJ [0,2] [0,1,2,6,3,7,4,8,5,9,10] [.own 0,.ro 0,.ix 2] [2=((2:Nat):Int) /\ 2 < ((sizeOf S).toNat - (af S (i:Int)).toNat)]<|RD.one 11 (dX [0,2] [.row 1 (((af S (i:Int)).toNat)+2) 0] [((0+((af S (i:Int)).toNat) * 1)+2 * 1)=(((af S (i:Int)).toNat)+2) * 1+0 /\ (((af S (i:Int)).toNat)+2) < ((sizeOf S).toNat)] λ _=>?_)
    refine aJ [0,2] [12] [.ix 3] [3=((3:Nat):Int) /\ 3 < ((sizeOf S).toNat - (af S (i:Int)).toNat)]<|RD.one 13 (dX [0,2] [.row 1 (((af S (i:Int)).toNat)+3) 0] [((0+((af S (i:Int)).toNat) * 1)+3 * 1)=(((af S (i:Int)).toNat)+3) * 1+0 /\ (((af S (i:Int)).toNat)+3) < ((sizeOf S).toNat)] λ _=>?_)
    refine RD.fin<|ae 1 [] λ _=>RN.draw [7,9] [0,2]<|aJ [0,2] [0,1,2,4,3,5,6] [.own 0,.ro 0,.ix 4] [4=((4:Nat):Int) /\ 4 < ((sizeOf S).toNat - (af S (i:Int)).toNat)]<|RD.one 7 (dX [0,2] [.row 1 (((af S (i:Int)).toNat)+4) 0] [((0+((af S (i:Int)).toNat) * 1)+4 * 1)=(((af S (i:Int)).toNat)+4) * 1+0 /\ (((af S (i:Int)).toNat)+4) < ((sizeOf S).toNat)] λ _=>?_)
    refine aJ [0,2] [8] [.ix 5] [5=((5:Nat):Int) /\ 5 < ((sizeOf S).toNat - (af S (i:Int)).toNat)]<|RD.one 9 (dX [0,2] [.row 1 (((af S (i:Int)).toNat)+5) 0] [((0+((af S (i:Int)).toNat) * 1)+5 * 1)=(((af S (i:Int)).toNat)+5) * 1+0 /\ (((af S (i:Int)).toNat)+5) < ((sizeOf S).toNat)] λ _=>?_)
    refine RD.fin<|al 6 [.nw] [br ((i:Int)+1)] λ _=>eI 1 (congrArg (λ v_=>(.rows 1 ((sizeOf S).toNat) v_ 3 (0,0):Blk)) (show (dN (dN (dN (dN (dN (dN (aL (aK S i)) (((af S (i:Int)).toNat)+0) 0 (vI ((S.bods.getD (S.bo+i) dB).mot.px))) (((af S (i:Int)).toNat)+1) 0 (vI ((S.bods.getD (S.bo+i) dB).mot.py))) (((af S (i:Int)).toNat)+2) 0 (vI ((S.bods.getD (S.bo+i) dB).mot.vx))) (((af S (i:Int)).toNat)+3) 0 (vI ((S.bods.getD (S.bo+i) dB).mot.vy))) (((af S (i:Int)).toNat)+4) 0 (vI ((S.bods.getD (S.bo+i) dB).a))) (((af S (i:Int)).toNat)+5) 0 (vI ((S.bods.getD (S.bo+i) dB).b)))=(aL (aK S (i+1))) from (by rw [<- yg hS.toSetN (i:=i) (by omega)] <;> kernel_rfl))) ?_
    refine mt6 (i+1) [1,2] [] ?_
    try dsimp only
    exact ⟨by omega,by omega⟩
   ·refine ae 12 [] λ _=>RN.ret [] [0] [] (v:=vS (n4+0) 0 ((sizeOf S).toNat) ((sizeOf S).toNat)) (H':=[((n4+0),.rows 1 ((sizeOf S).toNat) (aL (aK S i)) 3 (0,0))]) ?_
    have ei:i=S.nb:=by omega
    subst ei
    exact ⟨_,rfl,rfl⟩
abbrev ez (S:Setup) (bp mb:Nat):List Value:=[vI S.players,vS S.bb (S.bo * 9) S.nb S.bc,vI S.box.x0,vI S.box.y0,vI S.box.x1,vI S.box.y1,.slice S.rA S.rn S.rc,.slice S.dA S.dn S.dc,vI S.fog,vI S.g.x,vI S.g.y,vI S.push,vI S.drag,vI S.rest,vI S.rounds,vI S.fuel,vP bp 0,vP mb 0]
inductive GameH (rs:List Bx) (ds:List Dr) (bp gb:Nat) (S:Setup) (M:MemS) (k:Nat):HL -> Prop
 | mk (mb:Nat) (T U:HL) (hM:MemH mb M k T) (hU:m0 S rs ds U):GameH rs ds bp gb S M k (ap [(gb,.lit (ez S bp mb) 115 (0,0))] [T,U])
theorem Et (S:Setup) (F:HL) (hS:SetCl F S):Sp Tryz.prog 82 #[Setup.v S] (ap [] []) F (λ u H'=>∃ q,H'=ap [(q,.rows 1 (sizeOf S).toNat (aL (aK S S.nb)) 3 (0,0))] [] /\ u=vS q 0 (sizeOf S).toNat (sizeOf S).toNat):=sF S F hS
theorem vY (q:Nat) (cs:List Int) (n k cap:Nat) (F:HL) (hn:cs.length=n) (hq:(q,.rows 1 n (aL cs) 3 (0,0)) ∈ F) (hc:n <= 1000000) (hk:k <= 100000000) (hcap:n <= cap):Sp Tryz.prog 14 #[vS q 0 n cap] (ap [] []) F (λ u H'=>∃ x:Nat × HL,H'=ap [] [x.2] /\ (u=vP x.1 0 /\ MemH x.1 ⟨cs,[],0⟩ k x.2)):=by
 subst hn
 exact HP q cs k cap F hq hc hk hcap
theorem Eu (S:Setup) (rs:List Bx) (ds:List Dr) (bp:Nat) (F:HL) (hS:SetCl F S) (hM:MapIn F S rs ds) (h1:1 <= S.nb) (hrn:S.rn <= 1000000) (hdn:S.dn <= 1000000) (hsz:(sizeOf S).toNat <= 1000000) (hv:fJ S rs ds=0) (k:Nat) (hk:k <= 100000000):Sp Tryz.prog 38 #[(Setup.v S),vP bp 0] [] F (λ u H'=>∃ x:Nat × Setup × HL,H'=ap [] [x.2.2] /\ (u=.tuple #[vP x.1 0,vI 0] /\ SetEq S x.2.1 /\ GameH rs ds bp x.1 x.2.1 ⟨aK S S.nb,[],0⟩ k x.2.2)):=by
 refine Sp.run Tryz.func38 rfl mn (A:=[]) (Ts:=[]) rfl λ w0=>?_
 refine ae 11 (ow 0 16) λ n1=>aj (HW S rs ds _ hS.up.toSh hM.up)<|ae 9 [] λ _=>cV 10 (nt (decide_eq_true hv))<|ae 4 [] λ _=>RN.draw [] []<|ag [] [0,2,3] (ow 0 32)<|RD.one 1 (RDO.ct [] (Hp:=[]) (Tp:=[]) [] [] (yf S rs ds _ hS.up hM.up h1 hrn hdn) ?_)
 rintro _ ⟨S2,U3⟩ ⟨rfl,he4,hU5⟩
 dsimp only at he4 hU5
 refine RD.one 4 (RDO.ct [] (Hp:=[]) (Tp:=[]) [] [] (Et S _ hS.up) ?_)
 rintro _ q6 rfl
 refine RD.one 5 (RDO.ct [] (Hp:=[]) (Tp:=[]) [] [] (vY q6 (aK S S.nb) ((sizeOf S).toNat) k ((sizeOf S).toNat) _ (fk _ _) (aB 0) hsz hk (Nat.le_refl _)) ?_)
 rintro _ ⟨m7,T8⟩ ⟨rfl,hM9⟩
 dsimp only at hM9
 refine ag [] [6] []<|RD.one 7 (RDO.ev [] [] λ n10=>?_)
 refine ag [] [8,9] []<|RD.fin<|ae 1 [] λ _=>RN.ret [] [0] [0,1] (v:=.tuple #[vP (n10+0) 0,vI 0]) (H':=(ap [((n10+0),.lit [vI S2.players,vS S2.bb (S2.bo * 9) S2.nb S2.bc,vI S2.box.x0,vI S2.box.y0,vI S2.box.x1,vI S2.box.y1,.slice S2.rA S2.rn S2.rc,.slice S2.dA S2.dn S2.dc,vI S2.fog,vI S2.g.x,vI S2.g.y,vI S2.push,vI S2.drag,vI S2.rest,vI S2.rounds,vI S2.fuel,vP bp 0,vP m7 0] 115 (0,0))] [T8,U3])) ?_
 exact ⟨((n10+0),S2,ap [((n10+0),.lit (ez S2 bp m7) 115 (0,0))] [T8,U3]),by simp [ap],rfl,he4,.mk _ _ _ hM9 hU5⟩
theorem vZ (S:Setup) (rs:List Bx) (ds:List Dr) (bp:Nat) (F:HL) (hS:SetCl F S) (hM:MapIn F S rs ds) (h1:1 <= S.nb) (hrn:S.rn <= 1000000) (hdn:S.dn <= 1000000) (hsz:(sizeOf S).toNat <= 1000000) (hv:fJ S rs ds=0) (k:Nat) (hk:k <= 100000000):Sp Tryz.prog 38 #[Setup.v S,vP bp 0] (ap [] []) F (λ u H'=>∃ x:Nat × Setup × HL,H'=ap [] [x.2.2] /\ (u=.tuple #[vP x.1 0,vI 0] /\ SetEq S x.2.1 /\ GameH rs ds bp x.1 x.2.1 ⟨aK S S.nb,[],0⟩ k x.2.2)):=Eu S rs ds bp F hS hM h1 hrn hdn hsz hv k hk
def NT (cs:List Int):Prop:=(cs.getD 1 0=0 /\ cs.getD 2 0=0 /\ cs.getD 3 0=0 /\ cs.getD 4 0=0 /\ cs.getD 5 0=0 /\ cs.getD 6 0=0 /\ cs.getD 7 0=0 /\ cs.getD 8 0=0 /\ cs.getD 9 0=0 /\ cs.getD 10 0=0) /\ cs.getD 0 0 >= 0 /\ cs.getD 0 0 <= 6000
instance (cs:List Int):Decidable (NT cs):=inferInstanceAs (Decidable (_ /\ _))
theorem MemH.len2 {mb:Nat} {M:MemS} {k:Nat} {T:HL} (h:MemH mb M k T):M.lg.length+k <= 100000000:=by
 cases h with
 | mk cb A cap Hl hs hc hl=>exact hl
def Mu (na nb:Nat) (xs ys:List Int):Prop:=na=nb /\ ∀ k,k < na -> xs.getD k 0=ys.getD k 0
instance (na nb:Nat) (xs ys:List Int):Decidable (Mu na nb xs ys):=inferInstanceAs (Decidable (_ /\ _))
theorem wa (mb:Nat) (M:MemS) (k:Nat) (T F:HL) (hM:MemH mb M k T) (hT:∀ x ∈ T,x ∈ F):Sp Tryz.prog 13 #[vP mb 0] (ap [] []) F (λ u H'=>∃ q,H'=ap [(q,.rows 1 M.cs.length (aL M.cs) 3 (0,0))] [] /\ u=vS q 0 M.cs.length M.cs.length):=BT mb M k T F hM hT
theorem Ev (A:Option Addr) (n cap:Nat) (xs:List Int) (F:HL) (hl:ArgL F A n xs) (hn:n <= 9223372036854775807):Sp Tryz.prog 7 #[.slice A n cap] (ap [] []) F (λ u H'=>∃ x:Setup × HL,H'=ap [(x.1.bb,.rows 9 x.1.bR (fF x.1.bods) 106 (0,0))] [x.2] /\ (u=Setup.v x.1 /\ SetG xs x.1 x.2)):=BW A n cap xs F hl hn
def m5 (x:Inp):Prop:=(¬ x.dx < -1 /\ ¬ x.dx > 1) /\ (¬ x.dy < -1 /\ ¬ x.dy > 1) /\ ¬ x.act < 0 /\ ¬ x.act > 3
instance (x:Inp):Decidable (m5 x):=inferInstanceAs (Decidable (_ /\ _))
def cO (pl:Int) (n:Nat) (xs:List Inp) (now:Int):Int:=if (n:Int)=pl then (if ∀ k,k < n -> m5 (xs.getD k dI) then (if now >= 6000 then 2 else 0) else 1) else 17
theorem wb (mb cb n:Nat) (A:Option Addr) (m cap:Nat) (base:Int) (F:HL) (hm:(mb,.lit [vS cb 0 n n,.slice A m cap,vI base] 119 (0,0)) ∈ F):Sp Tryz.prog 58 #[vP mb 0] [] F (λ u H'=>u=vI (aY (base+(m:Int))) /\ H'=[]):=by
 refine Sp.run Tryz.func58 rfl (mc hm mn) (A:=[]) (Ts:=[]) rfl λ w0=>?_
 refine ae 6 [] λ _=>RN.draw [] []<|ag [] [0,4,1,5,2,6,3,7,8,9,10] [.ro 0,.ro 0]<|RD.fin<|ae 1 [] λ _=>?_
 exact RN.ret [] [] [] ⟨rfl,rfl⟩
theorem wc {mb:Nat} {M:MemS} {k:Nat} {T F:HL} (h:MemH mb M k T) (hs:∀ x ∈ T,x ∈ F):Sp Tryz.prog 58 #[vP mb 0] [] F (λ u H'=>u=vI (aY (M.base+(M.lg.length:Int))) /\ H'=[]):=by
 cases h with
 | mk cb A cap Hl hsl hc hl=>exact wb mb cb M.cs.length A M.lg.length cap M.base F (hs _ (by simp))
theorem we (S:Setup) (bp gb mb:Nat) (M:MemS) (k:Nat) (T F:HL) (hg:(gb,.lit (ez S bp mb) 115 (0,0)) ∈ F) (hM:MemH mb M k T) (hT:∀ x ∈ T,x ∈ F):Sp Tryz.prog 63 #[vP gb 0] [] F (λ u H'=>u=vI (M.get 0) /\ H'=[]):=by
 refine Sp.run Tryz.func63 rfl (mc hg mn) (A:=[]) (Ts:=[]) rfl λ w0=>?_
 refine ae 11 [.ro 0] λ _=>aj (aw 0 hM (λ x hx=>au (hT x hx)))<|ae 3 [] λ _=>?_
 exact RN.ret [] [] [] ⟨rfl,rfl⟩
theorem yh (S:Setup) (bp gb mb:Nat) (M:MemS) (k:Nat) (A:Option Addr) (n cap:Nat) (xs:List Inp) (T F:HL) (hg:(gb,.lit (ez S bp mb) 115 (0,0)) ∈ F) (hM:MemH mb M k T) (hT:∀ x ∈ T,x ∈ F) (hl:RowL gC 151 F A n xs) (hn:n <= 1000000):Sp Tryz.prog 57 #[vP gb 0,.slice A n cap] [] F (λ u H'=>u=vI (cO S.players n xs (M.get 0)) /\ H'=[]):=by
 refine Sp.run Tryz.func57 rfl (mc hg mn) (A:=[]) (Ts:=[]) rfl λ w0=>?_
 refine ae 18 [.ro 0] λ _=>RN.en ((n:Int)=S.players) 14 (λ h1=>?_) λ h1=>?_
 ·refine ae 12 [] λ _=>RN.loop (σ:=Nat) (λ k_=>⟨[(0,vP gb 0),(15,.slice A n cap),(16,vI (n:Int)),(17,vI (k_:Int))],[],[],k_ <= n /\ ∀ t,t < k_ -> m5 (xs.getD t dI),n - k_⟩) 0 [] [] (⟨Nat.zero_le _,λ t ht=>absurd ht (Nat.not_lt_zero _)⟩) ?_
  rintro k_ ⟨hkl,hok⟩ mt3
  refine ae 6 [] λ _=>RN.em ((k_:Int) < (n:Int)) 18 (λ h4=>?_) λ h4=>?_
  ·refine ae 7 [] λ _=>?_
   obtain ⟨qx5,ox5,Nx5,fx5,fzx5,hAx5,hqx5,hox5,hgx5⟩:=hl.at (k:=k_) (by omega)
   refine bn 15 (congrArg (λ v_=>(.slice v_ n cap:Value)) hAx5)<|RN.ro (λ _=>(mc hg (mc hqx5 mn)))<|al 2 [.ix k_,.rorow 1 (ox5+k_) 0,.rorow 1 (ox5+k_) 1,.rorow 1 (ox5+k_) 2] [((ox5 * 3+k_ * 3)+2)=(ox5+k_) * 3+2 /\ (ox5+k_) < Nx5,((ox5 * 3+k_ * 3)+1)=(ox5+k_) * 3+1 /\ (ox5+k_) < Nx5,(ox5 * 3+k_ * 3)=(ox5+k_) * 3+0 /\ (ox5+k_) < Nx5,(k_:Int)=((k_:Nat):Int) /\ k_ < n] λ _=>bn 20 (congrArg (λ v_=>(.agg #[vI v_.dx,vI v_.dy,vI v_.act]:Value)) hgx5)<|ae 10 [.own 0,.own 0,.own 0,.own 0] λ n6=>RN.em ((xs.getD k_ dI).dx < (-1)) 24 (λ h7=>?_) λ h7=>?_
   ·refine ae 32 [] λ _=>RN.ret [] [] [] (v:=vI 1) (H':=[]) ?_
    exact ⟨by rw [cO,if_pos (by omega),if_neg (λ h_=>by have h2_:=h_ k_ (by omega);unfold m5 at h2_;omega)],rfl⟩
   ·refine ae 5 [.own 0] λ _=>RN.em ((xs.getD k_ dI).dx > 1) 29 (λ h8=>?_) λ h8=>?_
    ·refine ae 27 [] λ _=>RN.ret [] [] [] (v:=vI 1) (H':=[]) ?_
     exact ⟨by rw [cO,if_pos (by omega),if_neg (λ h_=>by have h2_:=h_ k_ (by omega);unfold m5 at h2_;omega)],rfl⟩
    ·refine ae 5 [.own 0] λ _=>RN.em ((xs.getD k_ dI).dy < (-1)) 34 (λ h9=>?_) λ h9=>?_
     ·refine ae 22 [] λ _=>RN.ret [] [] [] (v:=vI 1) (H':=[]) ?_
      exact ⟨by rw [cO,if_pos (by omega),if_neg (λ h_=>by have h2_:=h_ k_ (by omega);unfold m5 at h2_;omega)],rfl⟩
     ·refine ae 5 [.own 0] λ _=>RN.em ((xs.getD k_ dI).dy > 1) 39 (λ h10=>?_) λ h10=>?_
      ·refine ae 17 [] λ _=>RN.ret [] [] [] (v:=vI 1) (H':=[]) ?_
       exact ⟨by rw [cO,if_pos (by omega),if_neg (λ h_=>by have h2_:=h_ k_ (by omega);unfold m5 at h2_;omega)],rfl⟩
      ·refine ae 5 [.own 0] λ _=>RN.em ((xs.getD k_ dI).act < 0) 44 (λ h11=>?_) λ h11=>?_
       ·refine ae 12 [] λ _=>RN.ret [] [] [] (v:=vI 1) (H':=[]) ?_
        exact ⟨by rw [cO,if_pos (by omega),if_neg (λ h_=>by have h2_:=h_ k_ (by omega);unfold m5 at h2_;omega)],rfl⟩
       ·refine ae 6 [.own 0] λ _=>RN.em ((xs.getD k_ dI).act > 3) 48 (λ h12=>?_) λ h12=>?_
        ·refine ae 6 [] λ _=>RN.ret [] [] [] (v:=vI 1) (H':=[]) ?_
         exact ⟨by rw [cO,if_pos (by omega),if_neg (λ h_=>by have h2_:=h_ k_ (by omega);unfold m5 at h2_;omega)],rfl⟩
        ·refine al 8 [.nw] [br ((k_:Int)+1)] λ _=>bn 15 (congrArg (λ v_=>(.slice v_ n cap:Value)) hAx5.symm) ?_
         refine mt3 (k_+1) [] [] ?_
         try dsimp only
         refine ⟨⟨by omega,λ t ht=>?_⟩,by omega⟩
         rcases Nat.lt_or_ge t k_ with h_ | h_
         ·exact hok t h_
         ·obtain rfl:t=k_:=by omega
          exact ⟨⟨h7,h8⟩,⟨h9,h10⟩,h11,h12⟩
  ·refine ae 10 [] λ _=>aj (we S bp gb mb M k T _ (au hg) hM (λ x hx=>au (hT x hx)))<|ae 3 [] λ _=>RN.em (M.get 0 >= 6000) 52 (λ h13=>?_) λ h13=>?_
   ·refine ae 6 [] λ _=>RN.ret [] [] [] (v:=vI 2) (H':=[]) ?_
    exact ⟨by rw [cO,if_pos (by omega),if_pos (λ t ht=>hok t (by omega)),if_pos (by omega)],rfl⟩
   ·refine ae 8 [] λ _=>RN.ret [] [] [] (v:=vI 0) (H':=[]) ?_
    exact ⟨by rw [cO,if_pos (by omega),if_pos (λ t ht=>hok t (by omega)),if_neg (by omega)],rfl⟩
 ·refine ae 6 [] λ _=>RN.ret [] [] [] (v:=vI 17) (H':=[]) ?_
  exact ⟨by rw [cO,if_neg (by omega)],rfl⟩
theorem B2 (gb ib io ni ic:Nat) (F:HL):Sp Tryz.prog 61 #[vP gb 0,vS ib (io * 3) ni ic] [] F (λ u H'=>∃ n:Nat,H'=ap [((n+1),.lit [vS ib (io * 3) ni ic] 56 (0,0)),((n+0),.lit [vP gb 0] 35 (0,0))] [] /\ u=.func (.func 100) #[] #[vP (n+0) 0,vP (n+1) 0]):=by
 refine Sp.run Tryz.func61 rfl mn (A:=[]) (Ts:=[]) rfl λ w0=>?_
 refine ae 13 [] λ n1=>RN.ret [] [0,1] [] (v:=.func (.func 100) #[] #[vP (n1+0) 0,vP (n1+1) 0]) (H':=(ap [((n1+1),.lit [vS ib (io * 3) ni ic] 56 (0,0)),((n1+0),.lit [vP gb 0] 35 (0,0))] [])) ?_
 exact ⟨_,rfl,rfl⟩
theorem yi (gb ib io ni ic:Nat) (F:HL):Sp Tryz.prog 61 #[vP gb 0,vS ib (io * 3) ni ic] (ap [] []) F (λ u H'=>∃ n:Nat,H'=ap [((n+1),.lit [vS ib (io * 3) ni ic] 56 (0,0)),((n+0),.lit [vP gb 0] 35 (0,0))] [] /\ u=.func (.func 100) #[] #[vP (n+0) 0,vP (n+1) 0]):=B2 gb ib io ni ic F
end Go.Proofs.YtghjbimijeinfaaGreatDoor
