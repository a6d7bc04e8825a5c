import Derived.Test.YtghjbimijeinfaaGreatDoorV15
set_option maxHeartbeats 4000000
set_option maxRecDepth 100000
set_option linter.all false
namespace Go.Proofs.YtghjbimijeinfaaGreatDoor
open Go.RowKit
def ui(n:Int):Prop:=-32768 <= n /\ n <= 32768
instance (n:Int):Decidable (ui n):=inferInstanceAs (Decidable (_ /\ _))
def nT(r:Int):Prop:=1 <= r /\ r <= 32768
instance (r:Int):Decidable (nT r):=inferInstanceAs (Decidable (_ /\ _))
def iA(r:Int)(f:Nat -> V2)(n:Nat):Prop:=(r=0 /\ 3 <= n /\ n <= 6) /\ (∀k,k<n -> ui (f k).x /\ ui (f k).y) /\ qW f n
instance (r:Int) (f:Nat -> V2) (n:Nat):Decidable (iA r f n):=inferInstanceAs (Decidable (_ /\ _ /\ _))
theorem qX{r:Int}{f g:Nat -> V2}{n:Nat}(h:∀k,k<n -> f k=g k)(hf:iA r f n):iA r g n :=
 ⟨hf.1,λ k hk=>by rw[<- h k hk];exact hf.2.1 k hk,yQ h hf.2.2⟩
def lJ(s:Shp):Prop:=if s.poly.length=0 then nT s.r else iA s.r (vat s.poly) s.poly.length
instance (s:Shp):Decidable (lJ s):=inferInstanceAs (Decidable (if s.poly.length=0 then nT s.r else iA s.r (vat s.poly) s.poly.length))
theorem p6{r:Int}{A:Option Addr}{cap:Nat}:lJ ⟨r,[],A,cap⟩↔nT r:=by
 show (if (0:Nat)=0 then nT r else _)↔_;rw[if_pos rfl]
def Fc(s:Shp):Int:=if lJ s then 0 else 10
theorem yR(n:Int)  (F:HL):Sp Tryz.prog 191 #[vI n] [] F (λ u H'=>u=.bool (decide (ui n)) /\ H'=[]):=by
 refine aas Tryz.func191 rfl mn (A:=[]) (Ts:=[]) rfl λ w0=>?_;refine ae 10 [] λ _=>aal ((-32768) <= n) 5 (λ h1=>?_) λ h1=>?_
 ·refine ae 6 [] λ _=>aap [] [] [] (v:=.bool (decide (n <= 32768))) (H':=[]) ?_;exact⟨by simp[ui, *],rfl⟩
 ·refine ae 6 [] λ _=>aap [] [] [] (v:=.bool false) (H':=[]) ?_;exact⟨by simp[ui, *],rfl⟩
theorem Bp(r:Int)(A:Option Addr)(cap:Nat)(F:HL):Sp Tryz.prog 129 #[.agg #[vI r,.slice A 0 cap]] [] F (λ u H'=>u=vI (Fc ⟨r,[],A,cap⟩) /\ H'=[]):=by
 refine aas Tryz.func129 rfl mn (A:=[]) (Ts:=[]) rfl λ w0=>?_;refine ae 10 (aab 2) λ n1=>aah (pO r A 0 cap _)<|ae 10 [.own 0] λ _=>aal (r<1) 10 (λ h2=>?_) λ h2=>?_
 ·refine ae 12 [] λ _=>aap [] [] [] (v:=vI 10) (H':=[]) ?_;exact⟨by rw[Fc,if_neg (λ h_=>by have Tu:=p6.1 h_;unfold nT at Tu;omega)],rfl⟩
 ·refine ae 6 [.own 0] λ _=>aal (r>32768) 14 (λ h3=>?_) λ h3=>?_
  ·refine ae 6 [] λ _=>aap [] [] [] (v:=vI 10) (H':=[]) ?_;exact⟨by rw[Fc,if_neg (λ h_=>by have Tu:=p6.1 h_;unfold nT at Tu;omega)],rfl⟩
  ·refine ae 8 [] λ _=>aap [] [] [] (v:=vI 0) (H':=[]) ?_;exact⟨by rw[Fc,if_pos (p6.2 ⟨by omega,by omega⟩)],rfl⟩
theorem H8(r:Int)(full:List V2)(b o N n cap:Nat)(fz:Nat × Nat)(F:HL)(hb:(b,.rows 2 N (j7 full) 29 fz)∈F)(ho:o+n <= N)(h1:1 <= n)(hnn:n <= 1000000):Sp Tryz.prog 129 #[.agg #[vI r,vS b (o*2) n cap]] [] F (λ u H'=>u=vI (if iA r (λ k_=>full.getD (o+k_) ⟨0,0⟩) n then 0 else 10) /\ H'=[]):=by
 refine aas Tryz.func129 rfl (mc hb mn) (A:=[]) (Ts:=[]) rfl λ w0=>?_;refine ae 10 (aab 2) λ n1=>aah (pO r (some ⟨b,o*2,none⟩) n cap _)<|ae 2 [] λ _=>cD 6 (abz (show ¬ ((n:Int)=0) by omega))<|ae 10 [.own 0] λ _=>aam (r=0) 18 (λ h2=>?_) λ h2=>?_
 ·refine ae 6 [.own 0] λ _=>aal ((n:Int)<3) 24 (λ h3=>?_) λ h3=>?_
  ·refine ae 13 [] λ _=>aap [] [] [] (v:=vI 10) (H':=[]) ?_;exact⟨by rw[if_neg (show ¬ iA r (λ k_=>full.getD (o+k_) ⟨0,0⟩) n from λ h_=>by have:=h_.1;omega)],rfl⟩
  ·refine ae 7 [.own 0] λ _=>aal ((n:Int)>6) 29 (λ h4=>?_) λ h4=>?_
   ·refine ae 6 [] λ _=>aap [] [] [] (v:=vI 10) (H':=[]) ?_;exact⟨by rw[if_neg (show ¬ iA r (λ k_=>full.getD (o+k_) ⟨0,0⟩) n from λ h_=>by have:=h_.1;omega)],rfl⟩
   ·refine ae 13 [.own 0] λ _=>aan (σ:=Nat) (λ k=>⟨[(1,vP (n1+0) 0),(31,vS b (o*2) n cap),(32,vI (n:Int)),(33,vI (k:Int))],[((n1+0),.lit [vI r,vS b (o*2) n cap] 101 (0,0))],[],k <= n /\ ∀t,t<k -> ui (full.getD (o+t) (⟨0,0⟩:V2)).x /\ ui (full.getD (o+t) (⟨0,0⟩:V2)).y,n-k⟩) 0 [0] [] (⟨aaU _,λ t ht=>absurd ht (Nat.not_lt_zero _)⟩) ?_;rintro k ⟨hkl,Ue⟩ ZV;refine ae 6 [] λ _=>aal ((k:Int)<(n:Int)) 34 (λ h7=>?_) λ h7=>?_
    ·refine ai 17 [.ix k,.rorow 0 (o+k) 0,.rorow 0 (o+k) 1,.own 0,.own 0,.own 0] [((o*2+k*2)+1)=(o+k)*2+1 /\ (o+k)<N,(o*2+k*2)=(o+k)*2+0 /\ (o+k)<N,(k:Int)=((k:Nat):Int) /\ k<n] λ n8=>aah (yR ((full.getD (o+k) ⟨0,0⟩).x)  _)<|ae 2 [] λ _=>aam (ui ((full.getD (o+k) ⟨0,0⟩).x)) 41 (λ h9=>?_) λ h9=>?_
     ·refine ae 2 [.own 0] λ _=>aah (yR ((full.getD (o+k) ⟨0,0⟩).y)  _)<|ae 4 [] λ _=>aam (ui ((full.getD (o+k) ⟨0,0⟩).y)) 46 (λ Ti=>?_) λ Ti=>?_
      ·refine ai 8 [.nw] [bm ((k:Int)+1)] λ _=>?_;refine ZV (k+1) [1] [] ?_
       try dsimp only
       refine⟨⟨by omega,λ t ht=>?_⟩,by omega⟩;rcases abd t k with h_|h_
       ·exact Ue t h_
       ·obtain rfl:t=k:=by omega
        exact⟨h9,Ti⟩
      ·refine ae 6 [] λ _=>aap [] [] [] (v:=vI 10) (H':=[]) ?_;exact⟨by rw[if_neg (show ¬ iA r (λ k_=>full.getD (o+k_) ⟨0,0⟩) n from λ h_=>Ti (h_.2.1 k (by omega)).2)],rfl⟩
     ·refine ae 13 [] λ _=>aap [] [] [] (v:=vI 10) (H':=[]) ?_;exact⟨by rw[if_neg (show ¬ iA r (λ k_=>full.getD (o+k_) ⟨0,0⟩) n from λ h_=>h9 (h_.2.1 k (by omega)).1)],rfl⟩
    ·refine ae 11 [.own 0] λ _=>aah (H7 full b o N n cap fz _ (aq hb) ho hnn)<|ae 3 [] λ _=>aam (qW (λ k_=>full.getD (o+k_) ⟨0,0⟩) n) 51 (λ TZ=>?_) λ TZ=>?_
     ·refine ae 8 [] λ _=>aap [] [] [] (v:=vI 0) (H':=[]) ?_;exact⟨by rw[if_pos (show iA r (λ k_=>full.getD (o+k_) ⟨0,0⟩) n from ⟨⟨by omega,by omega,by omega⟩,λ t ht=>Ue t (by omega),TZ⟩)],rfl⟩
     ·refine ae 6 [] λ _=>aap [] [] [] (v:=vI 10) (H':=[]) ?_;exact⟨by rw[if_neg (show ¬ iA r (λ k_=>full.getD (o+k_) ⟨0,0⟩) n from λ h_=>TZ h_.2.2)],rfl⟩
 ·refine ae 19 [] λ _=>aap [] [] [] (v:=vI 10) (H':=[]) ?_;exact⟨by rw[if_neg (show ¬ iA r (λ k_=>full.getD (o+k_) ⟨0,0⟩) n from λ h_=>by have:=h_.1;omega)],rfl⟩
theorem Lw(s:Shp)(F:HL)(h:RowL lY 29 F s.A s.poly.length s.poly)(hn:s.poly.length <= 1000000):Sp Tryz.prog 129 #[PW s] [] F (λ u H'=>u=vI (Fc s) /\ H'=[]):=by
 obtain⟨r,l,A,cap⟩:=s;simp only at h hn;rcases Nat.eq_zero_or_pos l.length with h0|h0
 ·obtain rfl:l=[]:=abb h0;exact Bp r A cap F
 ·generalize hm:l.length=m at h h0 hn;cases h with
  | zero=>omega
  | rows q o N full fz n xs hq ho Yq hx =>
   have:=H8 r full q o N m cap fz F hq ho h0 hn;have e:Fc ⟨r,l,some ⟨q,o*2,none⟩,cap⟩=if iA r (λ k_=>full.getD (o+k_) ⟨0,0⟩) m then 0 else 10:=by
    have e1:lJ ⟨r,l,some ⟨q,o*2,none⟩,cap⟩↔iA r (λ k_=>full.getD (o+k_) ⟨0,0⟩) m:=by
     unfold lJ;simp only;rw[if_neg (by omega),hm];exact⟨qX λ k hk=>(hx k hk).symm,qX λ k hk=>hx k hk⟩
    unfold Fc
    by_cases hc:iA r (λ k_=>full.getD (o+k_) ⟨0,0⟩) m
    ·rw[if_pos hc,if_pos (e1.2 hc)]
    ·rw[if_neg hc,if_neg λ h=>hc (e1.1 h)]
   show Sp _ _ #[.agg #[vI r,.slice (some ⟨q,o*2,none⟩) l.length cap]] _ _ (λ u H'=>u=vI (Fc ⟨r,l,some ⟨q,o*2,none⟩,cap⟩) /\ H'=[]);rw[e,hm];exact this
structure SetSh(F:HL)(S:Setup):Prop where
 nb:S.nb <= 1000000
 blk:(S.bb,.rows 9 S.bR (gz S.bods) 106 (0,0))∈F
 room:S.bo+S.nb <= S.bR
 pol:∀k,k<S.nb -> RowL lY 29 F (S.body k).sh.A (S.body k).sh.poly.length (S.body k).sh.poly /\ (S.body k).sh.poly.length <= 1000000
theorem ShIn.rowL{F:HL}{s:Shp}(h:ShIn F s):RowL lY 29 F s.A s.poly.length s.poly /\ s.poly.length <= 1000000:=by
 cases h with
 | circle r A cap=>exact⟨.zero _,aaU _⟩
 | poly r l b cap h h3 h4 h5=>exact⟨RowL.whole (e:=lY) h h4,h5⟩
def Bq(S:Setup)(rs:List Bx)(ds:List Dr):Prop:=kg S /\ gM S.box /\ nj S rs ds
instance (S:Setup) (rs:List Bx) (ds:List Dr):Decidable (Bq S rs ds):=inferInstanceAs (Decidable (_ /\ _))
def lK(S:Setup)(rs:List Bx)(ds:List Dr):Int:=if ∀k,k<S.nb -> lJ (S.body k).sh then (if Bq S rs ds then (if ∀k,k<S.nb -> f8 (S.body k) S.box then 0 else 11) else 11) else 10
theorem OI{s:Shp}(h:Fc s=0):lJ s:=by
 unfold Fc at h;split at h
 ·assumption
 ·omega
theorem OJ{s:Shp}(h:¬ Fc s=0):¬ lJ s:=λ hc=>h (by rw[Fc,if_pos hc])
theorem Ly(S:Setup)(rs:List Bx)(ds:List Dr)(F:HL)(hS:SetSh F S)(hM:MapIn F S rs ds):Sp Tryz.prog 80 #[(Setup.v S)] [] F (λ u H'=>u=vI (lK S rs ds) /\ H'=[]):=by
 have hn:=hS.nb;have hr:=hS.room;refine aas Tryz.func80 rfl (mc hS.blk mn) (A:=[]) (Ts:=[]) rfl λ w0=>?_;refine ae 16 [.own 0] λ n1=>aan (σ:=Nat) (λ k=>⟨[(1,vP (n1+0) 0),(8,vS S.bb (S.bo*9) S.nb S.bc),(9,vI (S.nb:Int)),(10,vI (k:Int))],[((n1+0),.lit (Setup.l S) 31 (0,0))],[],k <= S.nb /\ ∀t,t<k -> lJ (S.body t).sh,S.nb-k⟩) 0 [0] [] (⟨aaU _,λ t ht=>absurd ht (Nat.not_lt_zero _)⟩) ?_;rintro k ⟨hkl,Wv⟩ Uj;refine ae 6 [] λ _=>aal ((k:Int)<(S.nb:Int)) 11 (λ h4=>?_) λ h4=>?_
 ·refine ai 17 ([.ix k,.rorow 0 (S.bo+k) 0,.rorow 0 (S.bo+k) 1,.rorow 0 (S.bo+k) 2,.rorow 0 (S.bo+k) 3,.rorow 0 (S.bo+k) 4,.rorow 0 (S.bo+k) 5,.rorow 0 (S.bo+k) 6,.rorow 0 (S.bo+k) 7,.rorow 0 (S.bo+k) 8]++ow 0 11) [((S.bo*9+k*9)+8)=(S.bo+k)*9+8 /\ (S.bo+k)<S.bR,((S.bo*9+k*9)+7)=(S.bo+k)*9+7 /\ (S.bo+k)<S.bR,((S.bo*9+k*9)+6)=(S.bo+k)*9+6 /\ (S.bo+k)<S.bR,((S.bo*9+k*9)+5)=(S.bo+k)*9+5 /\ (S.bo+k)<S.bR,((S.bo*9+k*9)+4)=(S.bo+k)*9+4 /\ (S.bo+k)<S.bR,((S.bo*9+k*9)+3)=(S.bo+k)*9+3 /\ (S.bo+k)<S.bR,((S.bo*9+k*9)+2)=(S.bo+k)*9+2 /\ (S.bo+k)<S.bR,((S.bo*9+k*9)+1)=(S.bo+k)*9+1 /\ (S.bo+k)<S.bR,(S.bo*9+k*9)=(S.bo+k)*9+0 /\ (S.bo+k)<S.bR,(k:Int)=((k:Nat):Int) /\ k<S.nb] λ n5=>aah (Lw ((S.bods.getD (S.bo+k) dB).sh) _ (hS.pol k (by omega)).1.up (hS.pol k (by omega)).2)<|ae 3 [] λ _=>aam (Fc ((S.bods.getD (S.bo+k) dB).sh)=0) 17 (λ h6=>?_) λ h6=>?_
  ·refine ai 8 [.nw] [bm ((k:Int)+1)] λ _=>?_;refine Uj (k+1) [1] [] ?_
   try dsimp only
   refine⟨⟨by omega,λ t ht=>?_⟩,by omega⟩;rcases abd t k with h_|h_
   ·exact Wv t h_
   ·obtain rfl:t=k:=by omega
    exact OI h6
  ·refine ae 6 [] λ _=>aap [] [] [] (v:=vI 10) (H':=[]) ?_;exact⟨by rw[lK,if_neg (show ¬ ∀k,k<S.nb -> lJ (S.body k).sh from λ h_=>OJ h6 (h_ k (by omega)))],rfl⟩
 ·refine ae 10 (ow 0 16) λ _=>aah (HZ S _)<|ae 2 [] λ _=>aam (kg S) 22 (λ h7=>?_) λ h7=>?_
  ·refine ae 2 (aab 4) λ _=>aah (sN S.box  _)<|ae 3 [] λ _=>aam (gM S.box) 28 (λ h8=>?_) λ h8=>?_
   ·refine ae 1 (ow 0 16) λ _=>aah (H4 S rs ds _ hM.up)<|ae 4 [] λ _=>aam (nj S rs ds) 32 (λ h9=>?_) λ h9=>?_
    ·refine ae 13 [.own 0] λ _=>aan (σ:=Nat) (λ j=>⟨[(1,vP (n1+0) 0),(34,vS S.bb (S.bo*9) S.nb S.bc),(35,vI (S.nb:Int)),(36,vI (j:Int))],[((n1+0),.lit (Setup.l S) 31 (0,0))],[],j <= S.nb /\ ∀t,t<j -> f8 (S.body t) S.box,S.nb-j⟩) 0 [0] [] (⟨aaU _,λ t ht=>absurd ht (Nat.not_lt_zero _)⟩) ?_;rintro j ⟨VZ,hvb⟩ Vn;refine ae 6 [] λ _=>aal ((j:Int)<(S.nb:Int)) 37 (λ TH=>?_) λ TH=>?_
     ·refine ai 18 ([.ix j,.rorow 0 (S.bo+j) 0,.rorow 0 (S.bo+j) 1,.rorow 0 (S.bo+j) 2,.rorow 0 (S.bo+j) 3,.rorow 0 (S.bo+j) 4,.rorow 0 (S.bo+j) 5,.rorow 0 (S.bo+j) 6,.rorow 0 (S.bo+j) 7,.rorow 0 (S.bo+j) 8]++ow 0 18++[.own 1,.own 1,.own 1,.own 1]) [((S.bo*9+j*9)+8)=(S.bo+j)*9+8 /\ (S.bo+j)<S.bR,((S.bo*9+j*9)+7)=(S.bo+j)*9+7 /\ (S.bo+j)<S.bR,((S.bo*9+j*9)+6)=(S.bo+j)*9+6 /\ (S.bo+j)<S.bR,((S.bo*9+j*9)+5)=(S.bo+j)*9+5 /\ (S.bo+j)<S.bR,((S.bo*9+j*9)+4)=(S.bo+j)*9+4 /\ (S.bo+j)<S.bR,((S.bo*9+j*9)+3)=(S.bo+j)*9+3 /\ (S.bo+j)<S.bR,((S.bo*9+j*9)+2)=(S.bo+j)*9+2 /\ (S.bo+j)<S.bR,((S.bo*9+j*9)+1)=(S.bo+j)*9+1 /\ (S.bo+j)<S.bR,(S.bo*9+j*9)=(S.bo+j)*9+0 /\ (S.bo+j)<S.bR,(j:Int)=((j:Nat):Int) /\ j<S.nb] λ n13=>aah (Fa (S.bods.getD (S.bo+j) dB) S.box _)<|ae 3 [] λ _=>aam (f8 (S.bods.getD (S.bo+j) dB) S.box) 44 (λ Uh=>?_) λ Uh=>?_
      ·refine ai 8 [.nw] [bm ((j:Int)+1)] λ _=>?_;refine Vn (j+1) [1] [] ?_
       try dsimp only
       refine⟨⟨by omega,λ t ht=>?_⟩,by omega⟩;rcases abd t j with h_|h_
       ·exact hvb t h_
       ·obtain rfl:t=j:=by omega
        exact Uh
      ·refine ae 6 [] λ _=>aap [] [] [] (v:=vI 11) (H':=[]) ?_;exact⟨by rw[lK,if_pos (show ∀k,k<S.nb -> lJ (S.body k).sh from λ t ht=>Wv t (by omega)),if_pos (show Bq S rs ds from ⟨h7,h8,h9⟩),if_neg (show ¬ ∀k,k<S.nb -> f8 (S.body k) S.box from λ h_=>Uh (h_ j (by omega)))],rfl⟩
     ·refine ae 11 [] λ _=>aap [] [] [] (v:=vI 0) (H':=[]) ?_;exact⟨by rw[lK,if_pos (show ∀k,k<S.nb -> lJ (S.body k).sh from λ t ht=>Wv t (by omega)),if_pos (show Bq S rs ds from ⟨h7,h8,h9⟩),if_pos (show ∀k,k<S.nb -> f8 (S.body k) S.box from λ t ht=>hvb t (by omega))],rfl⟩
    ·refine ae 6 [] λ _=>aap [] [] [] (v:=vI 11) (H':=[]) ?_;exact⟨by rw[lK,if_pos (show ∀k,k<S.nb -> lJ (S.body k).sh from λ t ht=>Wv t (by omega)),if_neg (show ¬ Bq S rs ds from λ h_=>h9 h_.2.2)],rfl⟩
   ·refine ae 12 [] λ _=>aap [] [] [] (v:=vI 11) (H':=[]) ?_;exact⟨by rw[lK,if_pos (show ∀k,k<S.nb -> lJ (S.body k).sh from λ t ht=>Wv t (by omega)),if_neg (show ¬ Bq S rs ds from λ h_=>h8 h_.2.1)],rfl⟩
  ·refine ae 18 [] λ _=>aap [] [] [] (v:=vI 11) (H':=[]) ?_;exact⟨by rw[lK,if_pos (show ∀k,k<S.nb -> lJ (S.body k).sh from λ t ht=>Wv t (by omega)),if_neg (show ¬ Bq S rs ds from λ h_=>h7 h_.1)],rfl⟩
def je(S:Setup):List Bod:=(List.range S.nb).map S.body
theorem gj(S:Setup):(je S).length=S.nb:=by simp[je]
theorem gG{S:Setup}{k:Nat}(h:k<S.nb):(je S).getD k dB=S.body k:=by simp[je,h]
theorem vc{F:HL}{S:Setup}(hS:SetSh F S):RowL lI 106 F (some ⟨S.bb,S.bo*9,none⟩) S.nb (je S) :=
 .rows S.bb S.bo S.bR S.bods (0,0) S.nb (je S) hS.blk hS.room (gj S) (λ k hk=>(gG hk).symm)
theorem ClS.open{α:Type}{e:Enc α}{T:TypeId}{xs:List α}{A:Option Addr}{c:Nat}{Hl:HL}(h:ClS e T xs A c Hl)(hx:0<xs.length):∃b,A=some ⟨b,0,none⟩ /\ Hl=[(b,.rows e.w c (bu e xs) T (0,0))] /\ xs.length <= c:=by
 obtain⟨A0,h⟩:=h;rcases h with ⟨rfl,_⟩|⟨b,h1,h2,h3⟩
 ·simp at hx
 ·exact⟨b,h1,h2,h3⟩
structure SetCl(F:HL)(S:Setup):Prop extends SetN S where
 blk:(S.bb,.rows 9 S.bR (gz S.bods) 106 (0,0))∈F
 room:S.bo+S.nb <= S.bR
 shp:∀k,k<S.nb -> (RowL lY 29 F (S.body k).sh.A (S.body k).sh.poly.length (S.body k).sh.poly /\ (S.body k).sh.poly.length <= 1000000) /\ ((S.body k).sh.poly=[] \/ 3 <= (S.body k).sh.poly.length)
theorem SetIn.cl{F:HL}{S:Setup}(h:SetIn F S):SetCl F S:=⟨h.toSetN,h.blk,h.room,λ k hk=>⟨(h.shp k hk).rowL,by
 have h1:=h.shp k hk;generalize (S.body k).sh=s at h1;cases h1 with
 | circle r A cap=>exact .inl rfl
 | poly r l b cap h h3 h4 h5=>exact .inr h3⟩⟩
theorem SetCl.up{F X:HL}{S:Setup}(h:SetCl F S):SetCl (X++F) S:=⟨h.toSetN,aau _ h.blk,h.room,λ k hk=>⟨⟨(h.shp k hk).1.1.up,(h.shp k hk).1.2⟩,(h.shp k hk).2⟩⟩
theorem SetCl.toSh{F:HL}{S:Setup}(h:SetCl F S):SetSh F S:=⟨h.nb,h.blk,h.room,λ k hk=>(h.shp k hk).1⟩
theorem vd{s:Shp}(h:s.poly=[] \/ 3 <= s.poly.length)(hl:s.poly.length <= 1000000){A:Option Addr}{c:Nat}{T:HL}(hc:ClS lY 29 s.poly A c T):ShH ⟨s.r,s.poly,A,c⟩ T:=by
 intro F' hF;rcases h with h|h
 ·rw[h];exact .circle _ _ _
 ·obtain⟨b2,rfl,rfl,h6⟩:=hc.open (by omega);exact .poly _ _ _ _ (hF _ (List.mem_singleton.2 rfl)) h h6 hl
def Bod.at(b:Bod)(A:Option Addr)(c:Nat):Bod:=⟨⟨b.sh.r,b.sh.poly,A,c⟩,b.mot,b.a,b.b⟩
theorem fW{α:Type}{l:List α}{i:Nat}{x d:α}(h:i<l.length):(l.set i x).getD i d=x:=by simp[h]
theorem eT{α:Type}{l:List α}{i k:Nat}{x d:α}(h:¬ i=k):(l.set i x).getD k d=l.getD k d:=by simp[List.getElem?_set,h]
theorem C3{l:List Bod}{i:Nat}(h:i<l.length)(A:Option Addr)(c:Nat):eF (gz l) i 1 (.slice A (l.getD i dB).sh.poly.length c)=gz (l.set i ((l.getD i dB).at A c)):=by
 funext j k;unfold eF
 by_cases h1:j=i
 ·subst h1;show _=lI.cell ((l.set j ((l.getD j dB).at A c)).getD j dB) k;rw[fW h]
  by_cases h2:k=1
  ·subst h2;simp;rfl
  ·rw[if_neg (by simp[h2])];show lI.cell (l.getD j dB) k=_;rcases k with _|_|k
   ·rfl
   ·exact absurd rfl h2
   ·rcases k with _|_|_|_|_|_|k <;> rfl
 ·rw[if_neg (by simp[h1])];show lI.cell (l.getD j dB) k=lI.cell ((l.set i _).getD j dB) k;rw[eT (λ e=>h1 e.symm)]
structure SetEq(S S':Setup):Prop where
 nums:S'.players=S.players /\ S'.nb=S.nb /\ S'.box=S.box /\ S'.rn=S.rn /\ S'.dn=S.dn /\ S'.fog=S.fog /\ S'.g=S.g /\ S'.push=S.push /\ S'.drag=S.drag /\ S'.rest=S.rest /\ S'.rounds=S.rounds /\ S'.fuel=S.fuel
 bod:∀k,k<S.nb -> ∃A c,S'.body k=(S.body k).at A c
 whole:S'.bo=0 /\ S'.bods.length=S.nb
def sQ(S:Setup)(rs:List Bx)(ds:List Dr)(U:HL):Prop:=∀F,(∀y∈U,y∈F) -> SetIn F S /\ MapIn F S rs ds
theorem Br(S:Setup)(rs:List Bx)(ds:List Dr)(F:HL)(hS:SetCl F S)(hM:MapIn F S rs ds)(h1:1 <= S.nb)(VV:S.rn <= 1000000)(V0:S.dn <= 1000000):Sp Tryz.prog 81 #[Setup.v S] (ap [] []) F (λ u H'=>∃x:Setup × HL,H'=ap [] [x.2] /\ (u=Setup.v x.1 /\ SetEq S x.1 /\ sQ x.1 rs ds x.2)):=by
 have hp:=hS.pl;have hn:=hS.nb;have hr:=hS.room;refine aas Tryz.func81 rfl (mc hS.blk mn) (A:=[]) (Ts:=[]) rfl λ w0=>?_;refine ae 10 [.own 1] λ n1=>aai (Hp:=[]) (Tp:=[]) [] [] (lZ (some ⟨S.bb,S.bo*9,none⟩) S.nb S.bc (je S) _ (RowL.src wC (by decide) (vc hS.toSh).up) (by omega)) ?_;rintro _ ⟨A2,c3,T4⟩ ⟨rfl,YB⟩;dsimp only at YB;refine ae 7 [.own 1] λ _=>?_;obtain⟨bb,rfl,rfl,TK⟩:=YB.open (by rw[gj];omega);have hcap:S.nb <= c3:=by rw[gj] at TK;exact TK
 refine qO 0 (x:=(bb,.rows 9 c3 (gz (je S)) 106 (0,0)))<|ae 7 [.own 2] λ _=>aao<|aan (σ:=Nat × List Bod × HL) (λ ⟨i,bods,U_⟩=>⟨[(1,vP (n1+0) 0),(2,vP (n1+1) 0),(10,vI (S.nb:Int)),(11,vI (i:Int))],[(bb,.rows 9 c3 (gz bods) 106 (0,0)),((n1+1),.lit [vI 0,.slice none 0 0,vI 0,vI 0,vI 0,vI 0,.slice none 0 0,.slice none 0 0,vI 0,vI 0,vI 0,vI 0,vI 0,vI 0,vI 0,vI 0] 31 (0,0)),((n1+0),.lit [vI S.players,vS bb 0 S.nb c3,vI S.box.x0,vI S.box.y0,vI S.box.x1,vI S.box.y1,.slice S.rA S.rn S.rc,.slice S.dA S.dn S.dc,vI S.fog,vI S.g.x,vI S.g.y,vI S.push,vI S.drag,vI S.rest,vI S.rounds,vI S.fuel] 31 (0,0))],[U_],i <= S.nb /\ bods.length=S.nb /\ (∀k,k<S.nb -> ∃A c,bods.getD k dB=(S.body k).at A c) /\ (∀k,k<i -> ShH (bods.getD k dB).sh U_) /\ ∀k,i <= k -> k<S.nb -> bods.getD k dB=S.body k,S.nb-i⟩) (0,je S,[]) [0,1,2] [0] (⟨aaU _,gj S,λ k hk=>⟨_,_,gG hk⟩,λ k hk=>absurd hk (Nat.not_lt_zero _),λ k _ hk=>gG hk⟩) ?_;rintro⟨i,bods,U_⟩ ⟨Um,Tn,U5,U4,VC⟩ VQ;refine ae 6 [] λ _=>aal ((i:Int)<(S.nb:Int)) 12 (λ h8=>?_) λ h8=>?_
 ·refine ae 7 [] λ _=>?_;have UH:(RowL lY 29 F (bods.getD i dB).sh.A (bods.getD i dB).sh.poly.length (bods.getD i dB).sh.poly /\ (bods.getD i dB).sh.poly.length <= 1000000) /\ ((bods.getD i dB).sh.poly=[] \/ 3 <= (bods.getD i dB).sh.poly.length):=by rw[VC i (aaS _) (by omega)];exact hS.shp i (by omega)
  have Td:=UH.1.1;have aaJ:(bods.getD i dB).sh.poly.length <= 100000000:=by have:=UH.1.2;omega
  refine ae 4 [] λ _=>aak [14] []<|aF [] [0,2,3,5,1,4,6,7,8,9] [.own 2,.own 2,.ix i,.row 0 i 1] [((0+i*9)+1)=i*9+1 /\ i<c3,(i:Int)=((i:Nat):Int) /\ i<S.nb]<|aae 10 (aaf [] (Hp:=[]) (Tp:=[]) [] [] (ng ((bods.getD i dB).sh.A) ((bods.getD i dB).sh.poly.length) ((bods.getD i dB).sh.cap) ((bods.getD i dB).sh.poly) _ (RowL.src Bm (by decide) Td.up) aaJ) ?_);rintro _ ⟨A9,XG,SX⟩ ⟨rfl,Xm⟩;dsimp only at Xm;refine aF [] [11,12,13] [.ix i] [(i:Int)=((i:Nat):Int) /\ i<S.nb]<|aae 14 (eh [] [.row 0 i 1] [((0+i*9)+1)=i*9+1 /\ i<c3] λ _=>?_);refine aad<|ai 6 [.nw] [bm ((i:Int)+1)] λ _=>ez 0 (congrArg (λ v_=>(.rows 9 c3 v_ 106 (0,0):Blk)) (show (eF (gz bods) i 1 (.slice A9 ((bods.getD i dB).sh.poly.length) XG))=(gz (bods.set i ((bods.getD i dB).at A9 XG))) from (C3 (by omega) A9 XG)))<|oO [1,0]<|qP ?_;refine VQ (i+1,(bods.set i ((bods.getD i dB).at A9 XG)),U_++SX) [0,1,2] [0] ?_
  try dsimp only
  refine⟨⟨by omega,by rw[List.length_set];exact Tn,λ t ht=>?_,λ t ht=>?_,λ t ZM Tu=>?_⟩,by omega⟩
  ·rcases Decidable.em (i=t) with rfl|h_
   ·rw[fW (by omega),VC i (aaS _) ht];exact⟨_,_,rfl⟩
   ·rw[eT h_];exact U5 t ht
  ·rcases Decidable.em (i=t) with rfl|h_
   ·rw[fW (by omega)];exact ShH.right (vd UH.2 UH.1.2 Xm)
   ·rw[eT h_];exact(U4 t (by omega)).left
  ·rw[eT (by omega)];exact VC t (by omega) Tu
 ·refine ae 10 [.own 2] λ _=>aai (Hp:=[]) (Tp:=[]) [] [] (nh S.rA S.rn S.rc rs _ (RowL.src HV (by decide) hM.rooms.up) (by omega)) ?_;rintro _ ⟨Wz,Vb,TM⟩ ⟨rfl,TP⟩;dsimp only at TP;refine ae 8 [.own 2,.own 2] λ _=>aai (Hp:=[]) (Tp:=[]) [] [] (l7 S.dA S.dn S.dc ds _ (RowL.src HW (by decide) hM.doors.up) (by omega)) ?_;rintro _ ⟨A17,c18,VM⟩ ⟨rfl,Xl⟩;dsimp only at Xl;refine ae 10 (ow 2 17++ow 1 16) λ _=>aap (ow 1 16) [0] [0,1,2] (v:=.agg #[vI S.players,vS bb 0 S.nb c3,vI S.box.x0,vI S.box.y0,vI S.box.x1,vI S.box.y1,.slice Wz S.rn Vb,.slice A17 S.dn c18,vI S.fog,vI S.g.x,vI S.g.y,vI S.push,vI S.drag,vI S.rest,vI S.rounds,vI S.fuel]) (H':=(ap [(bb,.rows 9 c3 (gz bods) 106 (0,0))] [VM,TM,U_])) ?_;have ei:i=S.nb:=by omega
  subst ei;have Va:∀k,bods.getD (0+k) dB=bods.getD k dB:=λ k=>by rw[Nat.zero_add]
  refine⟨((⟨S.players,bb,0,S.nb,c3,c3,bods,S.box,Wz,S.rn,Vb,A17,S.dn,c18,S.fog,S.g,S.push,S.drag,S.rest,S.rounds,S.fuel⟩:Setup),[(bb,.rows 9 c3 (gz bods) 106 (0,0))]++(VM++TM++U_)),(by simp[ap]),rfl,⟨⟨rfl,rfl,rfl,rfl,rfl,rfl,rfl,rfl,rfl,rfl,rfl,rfl⟩,λ k hk=>?_,rfl,Tn⟩,λ F2 hF=>⟨⟨⟨hp,by omega⟩,hF _ (by simp),(by show 0+S.nb <= c3;omega),λ k hk=>?_⟩,?_,?_⟩⟩
  ·obtain⟨A,c,h⟩:=U5 k hk;exact⟨A,c,by show bods.getD (0+k) dB=_;rw[Va];exact h⟩
  ·show ShIn F2 (bods.getD (0+k) dB).sh;rw[Va];exact U4 k hk F2 λ x hx=>hF x (by simp[hx])
  ·have h_:=TP.rowL (F:=F2) λ x hx=>hF x (by simp[hx]);rw[hM.rooms.len] at h_;exact h_
  ·have h_:=Xl.rowL (F:=F2) λ x hx=>hF x (by simp[hx]);rw[hM.doors.len] at h_;exact h_
theorem Bt{S:Setup}(h:SetN S){i:Nat}(hi:i<S.nb):eF (eF (eF (eF (eF (eF (aM (bJ S i)) ((af S i).toNat+0) 0 (vI (S.body i).mot.px)) ((af S i).toNat+1) 0 (vI (S.body i).mot.py)) ((af S i).toNat+2) 0 (vI (S.body i).mot.vx)) ((af S i).toNat+3) 0 (vI (S.body i).mot.vy)) ((af S i).toNat+4) 0 (vI (S.body i).a)) ((af S i).toNat+5) 0 (vI (S.body i).b)=aM (bJ S (i+1)):=by
 have hb:=pX h hi;rw[<- E8 h hi];rw[show (af S i+1).toNat=(af S i).toNat+1 by omega,show (af S i+2).toNat=(af S i).toNat+2 by omega,show (af S i+3).toNat=(af S i).toNat+3 by omega,show (af S i+4).toNat=(af S i).toNat+4 by omega,show (af S i+5).toNat=(af S i).toNat+5 by omega];rfl
theorem ve(S:Setup)(F:HL)(hS:SetCl F S):Sp Tryz.prog 82 #[Setup.v S] (ap [] []) F (λ u H'=>∃q,H'=ap [(q,.rows 1 (sizeOf S).toNat (aM (bJ S S.nb)) 3 (0,0))] [] /\ u=vS q 0 (sizeOf S).toNat (sizeOf S).toNat):=by
 have hp:=hS.pl;have hn:=hS.nb;have hr:=hS.room;have hz:=E7 hS.toSetN;refine aas Tryz.func82 rfl (mc hS.blk mn) (A:=[]) (Ts:=[]) rfl λ w0=>?_;refine ae 13 [.own 0] λ n1=>aal (S.players<0) 10 (λ h2=>?_) λ h2=>?_
 ·(exfalso;omega)
 ·refine ae 6 [.own 0] λ _=>aal (S.players>1048576) 14 (λ h3=>?_) λ h3=>?_
  ·(exfalso;omega)
  ·refine ae 6 (ow 0 16) λ _=>aah (uJ S _ hS.toSetN)<|ai 14 [.mk ((sizeOf S).toNat) ((sizeOf S).toNat),.own 1] [sizeOf S=(((sizeOf S).toNat:Nat):Int) /\ sizeOf S=(((sizeOf S).toNat:Nat):Int) /\ (sizeOf S).toNat <= (sizeOf S).toNat /\ 8*((sizeOf S).toNat) <= 140737488355328 /\ 1=1 /\ (sizeOf S).toNat <= 9223372036854775807] λ n4=>ez 0 (congrArg (λ v_=>(.rows 1 ((sizeOf S).toNat) v_ 3 (0,0):Blk)) (show (mU [vI 0])=(aM (bJ S 0)) from (by rw[pV (sizeOf S).toNat] <;> rfl)))<|aan (σ:=Nat) (λ i=>⟨[(1,vP (n1+0) 0),(3,vS (n4+0) 0 ((sizeOf S).toNat) ((sizeOf S).toNat)),(19,vS S.bb (S.bo*9) S.nb S.bc),(20,vI (S.nb:Int)),(21,vI (i:Int))],[((n4+0),.rows 1 ((sizeOf S).toNat) (aM (bJ S i)) 3 (0,0)),((n1+0),.lit (Setup.l S) 31 (0,0))],[],i <= S.nb,S.nb-i⟩) 0 [0,1] [] (aaU _) ?_;rintro i hI5 ZV;refine ae 6 [] λ _=>aal ((i:Int)<(S.nb:Int)) 22 (λ h7=>?_) λ h7=>?_
   ·have hbi:=pX hS.toSetN (i:=i) (by omega);refine ai 20 ([.ix i,.rorow 0 (S.bo+i) 0,.rorow 0 (S.bo+i) 1,.rorow 0 (S.bo+i) 2,.rorow 0 (S.bo+i) 3,.rorow 0 (S.bo+i) 4,.rorow 0 (S.bo+i) 5,.rorow 0 (S.bo+i) 6,.rorow 0 (S.bo+i) 7,.rorow 0 (S.bo+i) 8]++ow 0 9++ow 2 16) [((S.bo*9+i*9)+8)=(S.bo+i)*9+8 /\ (S.bo+i)<S.bR,((S.bo*9+i*9)+7)=(S.bo+i)*9+7 /\ (S.bo+i)<S.bR,((S.bo*9+i*9)+6)=(S.bo+i)*9+6 /\ (S.bo+i)<S.bR,((S.bo*9+i*9)+5)=(S.bo+i)*9+5 /\ (S.bo+i)<S.bR,((S.bo*9+i*9)+4)=(S.bo+i)*9+4 /\ (S.bo+i)<S.bR,((S.bo*9+i*9)+3)=(S.bo+i)*9+3 /\ (S.bo+i)<S.bR,((S.bo*9+i*9)+2)=(S.bo+i)*9+2 /\ (S.bo+i)<S.bR,((S.bo*9+i*9)+1)=(S.bo+i)*9+1 /\ (S.bo+i)<S.bR,(S.bo*9+i*9)=(S.bo+i)*9+0 /\ (S.bo+i)<S.bR,(i:Int)=((i:Nat):Int) /\ i<S.nb] λ n8=>aah (cL S (i:Int) _ hS.toSetN) ?_;have hb9:=cK hS.toSetN (i:Int);refine ai 5 [.sl ((af S (i:Int)).toNat) ((sizeOf S).toNat) false] [af S (i:Int)=(((af S (i:Int)).toNat:Nat):Int) /\ (sizeOf S).toNat=(sizeOf S).toNat /\ (af S (i:Int)).toNat <= (sizeOf S).toNat /\ (sizeOf S).toNat <= (sizeOf S).toNat /\ (sizeOf S).toNat≠(af S (i:Int)).toNat] λ _=>aak [11,13] [0,2]<|aF [0,2] [0,1,2,6,3,7,4,8,5,9,10] [.own 0,.ro 0,.ix 0] [0=((0:Nat):Int) /\ 0<((sizeOf S).toNat-(af S (i:Int)).toNat)]<|aae 11 (eh [0,2] [.row 1 (((af S (i:Int)).toNat)+0) 0] [((0+((af S (i:Int)).toNat)*1)+0*1)=(((af S (i:Int)).toNat)+0)*1+0 /\ (((af S (i:Int)).toNat)+0)<((sizeOf S).toNat)] λ _=>?_);refine aF [0,2] [12] [.ix 1] [1=((1:Nat):Int) /\ 1<((sizeOf S).toNat-(af S (i:Int)).toNat)]<|aae 13 (eh [0,2] [.row 1 (((af S (i:Int)).toNat)+1) 0] [((0+((af S (i:Int)).toNat)*1)+1*1)=(((af S (i:Int)).toNat)+1)*1+0 /\ (((af S (i:Int)).toNat)+1)<((sizeOf S).toNat)] λ _=>?_);refine aad<|ae 2 [] λ _=>aak [11,13] [0,2]<|aF [0,2] [0,1,2,6,3,7,4,8,5,9,10] [.own 0,.ro 0,.ix 2] [2=((2:Nat):Int) /\ 2<((sizeOf S).toNat-(af S (i:Int)).toNat)]<|aae 11 (eh [0,2] [.row 1 (((af S (i:Int)).toNat)+2) 0] [((0+((af S (i:Int)).toNat)*1)+2*1)=(((af S (i:Int)).toNat)+2)*1+0 /\ (((af S (i:Int)).toNat)+2)<((sizeOf S).toNat)] λ _=>?_);refine aF [0,2] [12] [.ix 3] [3=((3:Nat):Int) /\ 3<((sizeOf S).toNat-(af S (i:Int)).toNat)]<|aae 13 (eh [0,2] [.row 1 (((af S (i:Int)).toNat)+3) 0] [((0+((af S (i:Int)).toNat)*1)+3*1)=(((af S (i:Int)).toNat)+3)*1+0 /\ (((af S (i:Int)).toNat)+3)<((sizeOf S).toNat)] λ _=>?_);refine aad<|ae 1 [] λ _=>aak [7,9] [0,2]<|aF [0,2] [0,1,2,4,3,5,6] [.own 0,.ro 0,.ix 4] [4=((4:Nat):Int) /\ 4<((sizeOf S).toNat-(af S (i:Int)).toNat)]<|aae 7 (eh [0,2] [.row 1 (((af S (i:Int)).toNat)+4) 0] [((0+((af S (i:Int)).toNat)*1)+4*1)=(((af S (i:Int)).toNat)+4)*1+0 /\ (((af S (i:Int)).toNat)+4)<((sizeOf S).toNat)] λ _=>?_);refine aF [0,2] [8] [.ix 5] [5=((5:Nat):Int) /\ 5<((sizeOf S).toNat-(af S (i:Int)).toNat)]<|aae 9 (eh [0,2] [.row 1 (((af S (i:Int)).toNat)+5) 0] [((0+((af S (i:Int)).toNat)*1)+5*1)=(((af S (i:Int)).toNat)+5)*1+0 /\ (((af S (i:Int)).toNat)+5)<((sizeOf S).toNat)] λ _=>?_);refine aad<|ai 6 [.nw] [bm ((i:Int)+1)] λ _=>ez 1 (congrArg (λ v_=>(.rows 1 ((sizeOf S).toNat) v_ 3 (0,0):Blk)) (show (eF (eF (eF (eF (eF (eF (aM (bJ S i)) (((af S (i:Int)).toNat)+0) 0 (vI ((S.bods.getD (S.bo+i) dB).mot.px))) (((af S (i:Int)).toNat)+1) 0 (vI ((S.bods.getD (S.bo+i) dB).mot.py))) (((af S (i:Int)).toNat)+2) 0 (vI ((S.bods.getD (S.bo+i) dB).mot.vx))) (((af S (i:Int)).toNat)+3) 0 (vI ((S.bods.getD (S.bo+i) dB).mot.vy))) (((af S (i:Int)).toNat)+4) 0 (vI ((S.bods.getD (S.bo+i) dB).a))) (((af S (i:Int)).toNat)+5) 0 (vI ((S.bods.getD (S.bo+i) dB).b)))=(aM (bJ S (i+1))) from (by rw[<- Bt hS.toSetN (i:=i) (by omega)] <;> kernel_rfl))) ?_;refine ZV (i+1) [1,2] [] ?_
    try dsimp only
    exact⟨by omega,by omega⟩
   ·refine ae 12 [] λ _=>aap [] [0] [] (v:=vS (n4+0) 0 ((sizeOf S).toNat) ((sizeOf S).toNat)) (H':=[((n4+0),.rows 1 ((sizeOf S).toNat) (aM (bJ S i)) 3 (0,0))]) ?_;have ei:i=S.nb:=by omega
    subst ei;exact⟨_,rfl,rfl⟩
abbrev gl(S:Setup)(bp mb:Nat):List Value:=[vI S.players,vS S.bb (S.bo*9) S.nb S.bc,vI S.box.x0,vI S.box.y0,vI S.box.x1,vI S.box.y1,.slice S.rA S.rn S.rc,.slice S.dA S.dn S.dc,vI S.fog,vI S.g.x,vI S.g.y,vI S.push,vI S.drag,vI S.rest,vI S.rounds,vI S.fuel,vP bp 0,vP mb 0]
inductive GameH(rs:List Bx)(ds:List Dr)(bp gb:Nat)(S:Setup)(M:MemS)(k:Nat):HL -> Prop
 | mk (mb:Nat) (T U:HL) (hM:MemH mb M k T) (hU:sQ S rs ds U):GameH rs ds bp gb S M k (ap [(gb,.lit (gl S bp mb) 115 (0,0))] [T,U])
theorem sR(q:Nat)(cs:List Int)(n k cap:Nat)(F:HL)(hn:cs.length=n)(hq:(q,.rows 1 n (aM cs) 3 (0,0))∈F)(hc:n <= 1000000)(hk:k <= 100000000)(hcap:n <= cap):Sp Tryz.prog 14 #[vS q 0 n cap] (ap [] []) F (λ u H'=>∃x:Nat × HL,H'=ap [] [x.2] /\ (u=vP x.1 0 /\ MemH x.1 ⟨cs,[],0⟩ k x.2)):=by
 subst hn;exact Lr q cs k cap F hq hc hk hcap
theorem H9(S:Setup)(rs:List Bx)(ds:List Dr)(bp:Nat)(F:HL)(hS:SetCl F S)(hM:MapIn F S rs ds)(h1:1 <= S.nb)(VV:S.rn <= 1000000)(V0:S.dn <= 1000000)(C_:(sizeOf S).toNat <= 1000000)(hv:lK S rs ds=0)(k:Nat)(hk:k <= 100000000):Sp Tryz.prog 38 #[Setup.v S,vP bp 0] (ap [] []) F (λ u H'=>∃x:Nat × Setup × HL,H'=ap [] [x.2.2] /\ (u=.tuple #[vP x.1 0,vI 0] /\ SetEq S x.2.1 /\ GameH rs ds bp x.1 x.2.1 ⟨bJ S S.nb,[],0⟩ k x.2.2)):=by
 refine aas Tryz.func38 rfl mn (A:=[]) (Ts:=[]) rfl λ w0=>?_;refine ae 11 (ow 0 16) λ n1=>aah (Ly S rs ds _ hS.up.toSh hM.up)<|ae 9 [] λ _=>cD 10 (nt (abA hv))<|ae 4 [] λ _=>aak [] []<|ag [] [0,2,3] (ow 0 32)<|aae 1 (aaf [] (Hp:=[]) (Tp:=[]) [] [] (Br S rs ds _ hS.up hM.up h1 VV V0) ?_);rintro _ ⟨S2,U3⟩ ⟨rfl,he4,hU5⟩;dsimp only at he4 hU5;refine aae 4 (aaf [] (Hp:=[]) (Tp:=[]) [] [] (ve S _ hS.up) ?_);rintro _ q6 rfl;refine aae 5 (aaf [] (Hp:=[]) (Tp:=[]) [] [] (sR q6 (bJ S S.nb) ((sizeOf S).toNat) k ((sizeOf S).toNat) _ (fU _ _) (au 0) C_ hk (aaS _)) ?_);rintro _ ⟨m7,T8⟩ ⟨rfl,Wg⟩;dsimp only at Wg;refine ag [] [6] []<|aae 7 (aag [] [] λ UF=>?_);refine ag [] [8,9] []<|aad<|ae 1 [] λ _=>aap [] [0] [0,1] (v:=.tuple #[vP (UF+0) 0,vI 0]) (H':=(ap [((UF+0),.lit [vI S2.players,vS S2.bb (S2.bo*9) S2.nb S2.bc,vI S2.box.x0,vI S2.box.y0,vI S2.box.x1,vI S2.box.y1,.slice S2.rA S2.rn S2.rc,.slice S2.dA S2.dn S2.dc,vI S2.fog,vI S2.g.x,vI S2.g.y,vI S2.push,vI S2.drag,vI S2.rest,vI S2.rounds,vI S2.fuel,vP bp 0,vP m7 0] 115 (0,0))] [T8,U3])) ?_;exact⟨((UF+0),S2,ap [((UF+0),.lit (gl S2 bp m7) 115 (0,0))] [T8,U3]),by simp[ap],rfl,he4,.mk _ _ _ Wg hU5⟩
def Sj(cs:List Int):Prop:=(cs.getD 1 0=0 /\ cs.getD 2 0=0 /\ cs.getD 3 0=0 /\ cs.getD 4 0=0 /\ cs.getD 5 0=0 /\ cs.getD 6 0=0 /\ cs.getD 7 0=0 /\ cs.getD 8 0=0 /\ cs.getD 9 0=0 /\ cs.getD 10 0=0) /\ cs.getD 0 0 >= 0 /\ cs.getD 0 0 <= 6000
instance (cs:List Int):Decidable (Sj cs):=inferInstanceAs (Decidable (_ /\ _))
theorem MemH.len2{mb:Nat}{M:MemS}{k:Nat}{T:HL}(h:MemH mb M k T):M.lg.length+k <= 100000000:=by
 cases h with
 | mk cb A cap Hl hs hc hl=>exact hl
def QE(na nb:Nat)(xs ys:List Int):Prop:=na=nb /\ ∀k,k<na -> xs.getD k 0=ys.getD k 0
instance (na nb:Nat) (xs ys:List Int):Decidable (QE na nb xs ys):=inferInstanceAs (Decidable (_ /\ _))
def o8(x:Inp):Prop:=(¬ x.dx < -1 /\ ¬ x.dx>1) /\ (¬ x.dy < -1 /\ ¬ x.dy>1) /\ ¬ x.act<0 /\ ¬ x.act>3
instance (x:Inp):Decidable (o8 x):=inferInstanceAs (Decidable (_ /\ _))
def dL(pl:Int)(n:Nat)(xs:List Inp)(now:Int):Int:=if (n:Int)=pl then (if ∀k,k<n -> o8 (xs.getD k dI) then (if now >= 6000 then 2 else 0) else 1) else 17
theorem yS(mb cb n:Nat)(A:Option Addr)(m cap:Nat)(base:Int)(F:HL)(hm:(mb,.lit [vS cb 0 n n,.slice A m cap,vI base] 119 (0,0))∈F):Sp Tryz.prog 58 #[vP mb 0] [] F (λ u H'=>u=vI (aV (base+(m:Int))) /\ H'=[]):=by
 refine aas Tryz.func58 rfl (mc hm mn) (A:=[]) (Ts:=[]) rfl λ w0=>?_;refine ae 6 [] λ _=>aak [] []<|ag [] [0,4,1,5,2,6,3,7,8,9,10] [.ro 0,.ro 0]<|aad<|ae 1 [] λ _=>?_;exact aap [] [] [] ⟨rfl,rfl⟩
theorem yT{mb:Nat}{M:MemS}{k:Nat}{T F:HL}(h:MemH mb M k T)(hs:∀x∈T,x∈F):Sp Tryz.prog 58 #[vP mb 0] [] F (λ u H'=>u=vI (aV (M.base+(M.lg.length:Int))) /\ H'=[]):=by
 cases h with
 | mk cb A cap Hl hsl hc hl=>exact yS mb cb M.cs.length A M.lg.length cap M.base F (hs _ (by simp))
theorem yU(S:Setup)(bp gb mb:Nat)(M:MemS)(k:Nat)(T F:HL)(hg:(gb,.lit (gl S bp mb) 115 (0,0))∈F)(hM:MemH mb M k T)(hT:∀x∈T,x∈F):Sp Tryz.prog 63 #[vP gb 0] [] F (λ u H'=>u=vI (M.get 0) /\ H'=[]):=by
 refine aas Tryz.func63 rfl (mc hg mn) (A:=[]) (Ts:=[]) rfl λ w0=>?_;refine ae 11 [.ro 0] λ _=>aah (ar 0 hM (λ x hx=>aq (hT x hx)))<|ae 3 [] λ _=>?_;exact aap [] [] [] ⟨rfl,rfl⟩
theorem Bu(S:Setup)(bp gb mb:Nat)(M:MemS)(k:Nat)(A:Option Addr)(n cap:Nat)(xs:List Inp)(T F:HL)(hg:(gb,.lit (gl S bp mb) 115 (0,0))∈F)(hM:MemH mb M k T)(hT:∀x∈T,x∈F)(hl:RowL iE 151 F A n xs)(hn:n <= 1000000):Sp Tryz.prog 57 #[vP gb 0,.slice A n cap] [] F (λ u H'=>u=vI (dL S.players n xs (M.get 0)) /\ H'=[]):=by
 refine aas Tryz.func57 rfl (mc hg mn) (A:=[]) (Ts:=[]) rfl λ w0=>?_;refine ae 18 [.ro 0] λ _=>aam ((n:Int)=S.players) 14 (λ h1=>?_) λ h1=>?_
 ·refine ae 12 [] λ _=>aan (σ:=Nat) (λ k_=>⟨[(0,vP gb 0),(15,.slice A n cap),(16,vI (n:Int)),(17,vI (k_:Int))],[],[],k_ <= n /\ ∀t,t<k_ -> o8 (xs.getD t dI),n-k_⟩) 0 [] [] (⟨aaU _,λ t ht=>absurd ht (Nat.not_lt_zero _)⟩) ?_;rintro k_ ⟨hkl,dO⟩ Uj;refine ae 6 [] λ _=>aal ((k_:Int)<(n:Int)) 18 (λ h4=>?_) λ h4=>?_
  ·refine ae 7 [] λ _=>?_;obtain⟨qx5,Ws,Nx5,fx5,aor,aen,agI,amT,ahx⟩:=hl.at (k:=k_) (by omega);refine aS 15 (congrArg (λ v_=>(.slice v_ n cap:Value)) aen)<|RN.ro (λ _=>(mc hg (mc agI mn)))<|ai 2 [.ix k_,.rorow 1 (Ws+k_) 0,.rorow 1 (Ws+k_) 1,.rorow 1 (Ws+k_) 2] [((Ws*3+k_*3)+2)=(Ws+k_)*3+2 /\ (Ws+k_)<Nx5,((Ws*3+k_*3)+1)=(Ws+k_)*3+1 /\ (Ws+k_)<Nx5,(Ws*3+k_*3)=(Ws+k_)*3+0 /\ (Ws+k_)<Nx5,(k_:Int)=((k_:Nat):Int) /\ k_<n] λ _=>aS 20 (congrArg (λ v_=>(.agg #[vI v_.dx,vI v_.dy,vI v_.act]:Value)) ahx)<|ae 10 (aab 4) λ n6=>aal ((xs.getD k_ dI).dx<(-1)) 24 (λ h7=>?_) λ h7=>?_
   ·refine ae 32 [] λ _=>aap [] [] [] (v:=vI 1) (H':=[]) ?_;exact⟨by rw[dL,if_pos (by omega),if_neg (λ h_=>by have Tu:=h_ k_ (by omega);unfold o8 at Tu;omega)],rfl⟩
   ·refine ae 5 [.own 0] λ _=>aal ((xs.getD k_ dI).dx>1) 29 (λ h8=>?_) λ h8=>?_
    ·refine ae 27 [] λ _=>aap [] [] [] (v:=vI 1) (H':=[]) ?_;exact⟨by rw[dL,if_pos (by omega),if_neg (λ h_=>by have Tu:=h_ k_ (by omega);unfold o8 at Tu;omega)],rfl⟩
    ·refine ae 5 [.own 0] λ _=>aal ((xs.getD k_ dI).dy<(-1)) 34 (λ h9=>?_) λ h9=>?_
     ·refine ae 22 [] λ _=>aap [] [] [] (v:=vI 1) (H':=[]) ?_;exact⟨by rw[dL,if_pos (by omega),if_neg (λ h_=>by have Tu:=h_ k_ (by omega);unfold o8 at Tu;omega)],rfl⟩
     ·refine ae 5 [.own 0] λ _=>aal ((xs.getD k_ dI).dy>1) 39 (λ Ti=>?_) λ Ti=>?_
      ·refine ae 17 [] λ _=>aap [] [] [] (v:=vI 1) (H':=[]) ?_;exact⟨by rw[dL,if_pos (by omega),if_neg (λ h_=>by have Tu:=h_ k_ (by omega);unfold o8 at Tu;omega)],rfl⟩
      ·refine ae 5 [.own 0] λ _=>aal ((xs.getD k_ dI).act<0) 44 (λ TZ=>?_) λ TZ=>?_
       ·refine ae 12 [] λ _=>aap [] [] [] (v:=vI 1) (H':=[]) ?_;exact⟨by rw[dL,if_pos (by omega),if_neg (λ h_=>by have Tu:=h_ k_ (by omega);unfold o8 at Tu;omega)],rfl⟩
       ·refine ae 6 [.own 0] λ _=>aal ((xs.getD k_ dI).act>3) 48 (λ TH=>?_) λ TH=>?_
        ·refine ae 6 [] λ _=>aap [] [] [] (v:=vI 1) (H':=[]) ?_;exact⟨by rw[dL,if_pos (by omega),if_neg (λ h_=>by have Tu:=h_ k_ (by omega);unfold o8 at Tu;omega)],rfl⟩
        ·refine ai 8 [.nw] [bm ((k_:Int)+1)] λ _=>aS 15 (congrArg (λ v_=>(.slice v_ n cap:Value)) aen.symm) ?_;refine Uj (k_+1) [] [] ?_
         try dsimp only
         refine⟨⟨by omega,λ t ht=>?_⟩,by omega⟩;rcases abd t k_ with h_|h_
         ·exact dO t h_
         ·obtain rfl:t=k_:=by omega
          exact⟨⟨h7,h8⟩,⟨h9,Ti⟩,TZ,TH⟩
  ·refine ae 10 [] λ _=>aah (yU S bp gb mb M k T _ (aq hg) hM (λ x hx=>aq (hT x hx)))<|ae 3 [] λ _=>aal (M.get 0 >= 6000) 52 (λ Ux=>?_) λ Ux=>?_
   ·refine ae 6 [] λ _=>aap [] [] [] (v:=vI 2) (H':=[]) ?_;exact⟨by rw[dL,if_pos (by omega),if_pos (λ t ht=>dO t (by omega)),if_pos (by omega)],rfl⟩
   ·refine ae 8 [] λ _=>aap [] [] [] (v:=vI 0) (H':=[]) ?_;exact⟨by rw[dL,if_pos (by omega),if_pos (λ t ht=>dO t (by omega)),if_neg (by omega)],rfl⟩
 ·refine ae 6 [] λ _=>aap [] [] [] (v:=vI 17) (H':=[]) ?_;exact⟨by rw[dL,if_neg (by omega)],rfl⟩
theorem Fd(gb ib io ni ic:Nat)(F:HL):Sp Tryz.prog 61 #[vP gb 0,vS ib (io*3) ni ic] (ap [] []) F (λ u H'=>∃n:Nat,H'=ap [((n+1),.lit [vS ib (io*3) ni ic] 56 (0,0)),((n+0),.lit [vP gb 0] 35 (0,0))] [] /\ u=.func (.func 100) #[] #[vP (n+0) 0,vP (n+1) 0]):=by
 refine aas Tryz.func61 rfl mn (A:=[]) (Ts:=[]) rfl λ w0=>?_;refine ae 13 [] λ n1=>aap [] [0,1] [] (v:=.func (.func 100) #[] #[vP (n1+0) 0,vP (n1+1) 0]) (H':=(ap [((n1+1),.lit [vS ib (io*3) ni ic] 56 (0,0)),((n1+0),.lit [vP gb 0] 35 (0,0))] [])) ?_;exact⟨_,rfl,rfl⟩
end Go.Proofs.YtghjbimijeinfaaGreatDoor
