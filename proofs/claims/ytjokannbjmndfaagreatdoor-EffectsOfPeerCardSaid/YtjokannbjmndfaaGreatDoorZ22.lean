import Derived.Test.YtjokannbjmndfaaGreatDoorZ21
import Derived.Test.YtjokannbjmndfaaGreatDoorZ17
set_option linter.all false
set_option maxHeartbeats 4000000
set_option maxRecDepth 100000
namespace Go.Proofs.YtjokannbjmndfaaGreatDoor
open Go.RowKit
variable {A:Option Addr} {F T:HL} {M:MemS} {S:Setup} {bp cap gb i k mb n:Nat} {ds:List Dr} {r:Int} {rs:List Bx} {s:Shp} {α:Type}
def tJ(n:Int):Prop:=-32768<=n/\n<=32768
instance (n:Int):Decidable (tJ n):=inferInstanceAs (Decidable (_/\_))
def nh(r:Int):Prop:=1<=r/\r<=32768
instance (r:Int):Decidable (nh r):=inferInstanceAs (Decidable (_/\_))
def iw(r:Int)(f:Nat->V2)(n:Nat):Prop:=(r=0/\3<=n/\n<=6)/\(∀k,k<n->tJ (f k).x/\tJ (f k).y)/\qm f n
instance (r:Int) (f:Nat->V2) (n:Nat):Decidable (iw r f n):=inferInstanceAs (Decidable (_/\_/\_))
theorem qn{f g:Nat->V2}(h:∀k,k<n->f k=g k)(hf:iw r f n):iw r g n :=
 ⟨hf.1,λ k hk=>by rw[<- h k hk];exact hf.2.1 k hk,yL h hf.2.2⟩
def lD(s:Shp):Prop:=if s.poly.length=0 then nh s.r else iw s.r (vat s.poly) s.poly.length
instance (s:Shp):Decidable (lD s):=inferInstanceAs (Decidable (if s.poly.length=0 then nh s.r else iw s.r (vat s.poly) s.poly.length))
theorem pB:lD ⟨r,[],A,cap⟩↔nh r:=by
 show (if (0:Nat)=0 then nh r else _)↔_;rw[if_pos rfl]
def Fx(s:Shp):Int:=if lD s then 0 else 10
theorem yM(n:Int):af0 120 #[vI n] F (.bool (decide (tJ n))):=by
 refine QG Tryz.func120<|OG 10<|aal ((-32768)<=n) 5 (λ h1=>?_) λ h1=>?_
 ·refine OG 6<|QJ (.bool (decide (n<=32768))) [] ⟨by simp[tJ, *],rfl⟩
 ·refine OG 6<|QJ (.bool false) [] ⟨by simp[tJ, *],rfl⟩
theorem BI(r:Int)(A:Option Addr)(cap:Nat)(F:HL):af0 79 #[.agg #[vI r,.slice A 0 cap]] F (vI (Fx ⟨r,[],A,cap⟩)):=by
 refine QG Tryz.func79<|ae 10 (aab 2) λ n1=>aah (pg r A 0 cap)<|Sr 10 [.o 0]<|aal (r<1) 10 (λ h2=>?_) λ h2=>?_
 ·refine OG 12<|QJ (vI 10) [] ⟨by rw[Fx,if_neg (λ h_=>by have Ur:=pB.1 h_;unfold nh at Ur;omega)],rfl⟩
 ·refine Sr 6 [.o 0]<|aal (r>32768) 14 (λ h3=>?_) λ h3=>?_
  ·refine OG 6<|QJ (vI 10) [] ⟨by rw[Fx,if_neg (λ h_=>by have Ur:=pB.1 h_;unfold nh at Ur;omega)],rfl⟩
  ·refine OG 8<|QJ (vI 0) [] ⟨by rw[Fx,if_pos (pB.2 ⟨by omega,by omega⟩)],rfl⟩
theorem IY(r:Int){full:List V2}{b:Nat} (o:Nat) {N:Nat} (cap:Nat){fz:Nat×Nat}(hb:(b,.rows 2 N (jL full) 30 fz)∈F)(ho:o+n<=N)(h1:1<=n)(hnn:n<=1000000):af0 79 #[.agg #[vI r,vS b (o*2) n cap]] F (vI (if iw r (λ k_=>full.getD (o+k_) ⟨0,0⟩) n then 0 else 10)):=by
 refine QH Tryz.func79 hb<|ae 10 (aab 2) λ n1=>aah (pg r (some ⟨b,o*2,none⟩) n cap)<|OG 2<|ci 6 (abv (show ¬ ((n:Int)=0) by omega))<|Sr 10 [.o 0]<|aam (r=0) 18 (λ h2=>?_) λ h2=>?_
 ·refine Sr 6 [.o 0]<|aal ((n:Int)<3) 24 (λ h3=>?_) λ h3=>?_
  ·refine OG 13<|QJ (vI 10) [] ⟨by rw[if_neg (show ¬ iw r (λ k_=>full.getD (o+k_) ⟨0,0⟩) n from λ h_=>by have:=h_.1;omega)],rfl⟩
  ·refine Sr 7 [.o 0]<|aal ((n:Int)>6) 29 (λ h4=>?_) λ h4=>?_
   ·refine OG 6<|QJ (vI 10) [] ⟨by rw[if_neg (show ¬ iw r (λ k_=>full.getD (o+k_) ⟨0,0⟩) n from λ h_=>by have:=h_.1;omega)],rfl⟩
   ·refine Sr 13 [.o 0]<|aan (σ:=Nat) (λ k=>⟨[(1,vP (n1+0) 0),(31,vS b (o*2) n cap),(32,vI (n:Int)),(33,vI (k:Int))],[((n1+0),.lit [vI r,vS b (o*2) n cap] 71 (0,0))],[],k<=n/\∀t,t<k->tJ (full.getD (o+t) (⟨0,0⟩:V2)).x/\tJ (full.getD (o+t) (⟨0,0⟩:V2)).y,n-k⟩) 0 [0] [] (⟨aaJ _,λ t ht=>absurd ht (ot _)⟩) ?_;rintro k ⟨hkl,Vb⟩ Wx;refine OG 6<|aal ((k:Int)<(n:Int)) 34 (λ h7=>?_) λ h7=>?_
    ·refine ah 17 [.ix k,.rorow 0 (o+k) 0,.rorow 0 (o+k) 1,.o 0,.o 0,.o 0] [((o*2+k*2)+1)=(o+k)*2+1/\(o+k)<N,(o*2+k*2)=(o+k)*2+0/\(o+k)<N,(k:Int)=((k:Nat):Int)/\k<n] λ n8=>aah (yM ((full.getD (o+k) ⟨0,0⟩).x))<|OG 2<|aam (tJ ((full.getD (o+k) ⟨0,0⟩).x)) 41 (λ h9=>?_) λ h9=>?_
     ·refine Sr 2 [.o 0]<|aah (yM ((full.getD (o+k) ⟨0,0⟩).y))<|OG 4<|aam (tJ ((full.getD (o+k) ⟨0,0⟩).y)) 46 (λ UE=>?_) λ UE=>?_
      ·refine ah 8 [.nw] [aX ((k:Int)+1)] λ _=>Wx (k+1) [1] [] ?_
       try dsimp only
       refine⟨⟨by omega,λ t ht=>?_⟩,by omega⟩;rcases aa9 t k with h_|h_
       ·exact Vb t h_
       ·obtain rfl:t=k:=by omega
        exact⟨h9,UE⟩
      ·refine OG 6<|QJ (vI 10) [] ⟨by rw[if_neg (show ¬ iw r (λ k_=>full.getD (o+k_) ⟨0,0⟩) n from λ h_=>UE (h_.2.1 k (by omega)).2)],rfl⟩
     ·refine OG 13<|QJ (vI 10) [] ⟨by rw[if_neg (show ¬ iw r (λ k_=>full.getD (o+k_) ⟨0,0⟩) n from λ h_=>h9 (h_.2.1 k (by omega)).1)],rfl⟩
    ·refine Sr 11 [.o 0]<|aah (IX o cap (aC hb) ho hnn)<|OG 3<|aam (qm (λ k_=>full.getD (o+k_) ⟨0,0⟩) n) 51 (λ Ve=>?_) λ Ve=>?_
     ·refine OG 8<|QJ (vI 0) [] ⟨by rw[if_pos (show iw r (λ k_=>full.getD (o+k_) ⟨0,0⟩) n from ⟨⟨by omega,by omega,by omega⟩,λ t ht=>Vb t (by omega),Ve⟩)],rfl⟩
     ·refine OG 6<|QJ (vI 10) [] ⟨by rw[if_neg (show ¬ iw r (λ k_=>full.getD (o+k_) ⟨0,0⟩) n from λ h_=>Ve h_.2.2)],rfl⟩
 ·refine OG 19<|QJ (vI 10) [] ⟨by rw[if_neg (show ¬ iw r (λ k_=>full.getD (o+k_) ⟨0,0⟩) n from λ h_=>by have:=h_.1;omega)],rfl⟩
theorem Mo(s:Shp)(h:RowL mD 30 F s.A s.poly.length s.poly)(hn:s.poly.length<=1000000):af0 79 #[Qw s] F (vI (Fx s)):=by
 obtain⟨r,l,A,cap⟩:=s;simp only at h hn;rcases acq l.length with h0|h0
 ·obtain rfl:l=[]:=aa6 h0;exact BI r A cap F
 ·generalize hm:l.length=m at h h0 hn;cases h with
  |zero=>omega
  |rows q o N full fz n xs hq ho ZT hx=>
   have:=IY r o cap hq ho h0 hn;have e:Fx ⟨r,l,some ⟨q,o*2,none⟩,cap⟩=if iw r (λ k_=>full.getD (o+k_) ⟨0,0⟩) m then 0 else 10:=by
    have e1:lD ⟨r,l,some ⟨q,o*2,none⟩,cap⟩↔iw r (λ k_=>full.getD (o+k_) ⟨0,0⟩) m:=by
     unfold lD;simp only;rw[if_neg (by omega),hm];exact⟨qn λ k hk=>(hx k hk).symm,qn λ k hk=>hx k hk⟩
    unfold Fx
    by_cases hc:iw r (λ k_=>full.getD (o+k_) ⟨0,0⟩) m
    ·rw[if_pos hc,if_pos (e1.2 hc)]
    ·rw[if_neg hc,if_neg λ h=>hc (e1.1 h)]
   show Sp _ _ #[.agg #[vI r,.slice (some ⟨q,o*2,none⟩) l.length cap]] _ _ (λ u H'=>u=vI (Fx ⟨r,l,some ⟨q,o*2,none⟩,cap⟩)/\H'=[]);rw[e,hm];exact this
structure SetSh(F:HL)(S:Setup):Prop where
 nb:S.nb<=1000000
 blk:(S.bb,.rows 9 S.bR (lw S.bods) 76 (0,0))∈F
 room:S.bo+S.nb<=S.bR
 pol:∀k,k<S.nb->RowL mD 30 F (S.body k).sh.A (S.body k).sh.poly.length (S.body k).sh.poly/\(S.body k).sh.poly.length<=1000000
theorem ShIn.rowL(h:ShIn F s):RowL mD 30 F s.A s.poly.length s.poly/\s.poly.length<=1000000:=by
 cases h with
 |circle r A cap=>exact⟨.zero _,aaJ _⟩
 |poly r l b cap h h3 h4 h5=>exact⟨RowL.whole (e:=mD) h h4,h5⟩
def BJ(S:Setup)(rs:List Bx)(ds:List Dr):Prop:=jS S/\gF S.box/\mM S rs ds
instance (S:Setup) (rs:List Bx) (ds:List Dr):Decidable (BJ S rs ds):=inferInstanceAs (Decidable (_/\_))
def oq(S:Setup)(rs:List Bx)(ds:List Dr):Int:=if ∀k,k<S.nb->lD (S.body k).sh then (if BJ S rs ds then (if ∀k,k<S.nb->fX (S.body k) S.box then 0 else 11) else 11) else 10
theorem Pp(h:Fx s=0):lD s:=by
 unfold Fx at h;split at h
 ·assumption
 ·omega
theorem Pq(h:¬ Fx s=0):¬ lD s:=λ hc=>h (by rw[Fx,if_pos hc])
theorem Mp(hS:SetSh F S)(hM:MapIn F S rs ds):af0 50 #[(Setup.v S)] F (vI (oq S rs ds)):=by
 have hn:=hS.nb;have hr:=hS.room;refine QH Tryz.func50 hS.blk<|ae 16 [.o 0] λ n1=>aan (σ:=Nat) (λ k=>⟨[(1,vP (n1+0) 0),(8,vS S.bb (S.bo*9) S.nb S.bc),(9,vI (S.nb:Int)),(10,vI (k:Int))],[((n1+0),.lit (Setup.l S) 32 (0,0))],[],k<=S.nb/\∀t,t<k->lD (S.body t).sh,S.nb-k⟩) 0 [0] [] (⟨aaJ _,λ t ht=>absurd ht (ot _)⟩) ?_;rintro k ⟨hkl,X3⟩ UC;refine OG 6<|aal ((k:Int)<(S.nb:Int)) 11 (λ h4=>?_) λ h4=>?_
 ·refine ah 17 ([.ix k,.rorow 0 (S.bo+k) 0,.rorow 0 (S.bo+k) 1,.rorow 0 (S.bo+k) 2,.rorow 0 (S.bo+k) 3,.rorow 0 (S.bo+k) 4,.rorow 0 (S.bo+k) 5,.rorow 0 (S.bo+k) 6,.rorow 0 (S.bo+k) 7,.rorow 0 (S.bo+k) 8]++ow 0 11) [((S.bo*9+k*9)+8)=(S.bo+k)*9+8/\(S.bo+k)<S.bR,((S.bo*9+k*9)+7)=(S.bo+k)*9+7/\(S.bo+k)<S.bR,((S.bo*9+k*9)+6)=(S.bo+k)*9+6/\(S.bo+k)<S.bR,((S.bo*9+k*9)+5)=(S.bo+k)*9+5/\(S.bo+k)<S.bR,((S.bo*9+k*9)+4)=(S.bo+k)*9+4/\(S.bo+k)<S.bR,((S.bo*9+k*9)+3)=(S.bo+k)*9+3/\(S.bo+k)<S.bR,((S.bo*9+k*9)+2)=(S.bo+k)*9+2/\(S.bo+k)<S.bR,((S.bo*9+k*9)+1)=(S.bo+k)*9+1/\(S.bo+k)<S.bR,(S.bo*9+k*9)=(S.bo+k)*9+0/\(S.bo+k)<S.bR,(k:Int)=((k:Nat):Int)/\k<S.nb] λ n5=>aah (Mo ((S.bods.getD (S.bo+k) dB).sh) (hS.pol k (by omega)).1.up (hS.pol k (by omega)).2)<|OG 3<|aam (Fx ((S.bods.getD (S.bo+k) dB).sh)=0) 17 (λ h6=>?_) λ h6=>?_
  ·refine ah 8 [.nw] [aX ((k:Int)+1)] λ _=>UC (k+1) [1] [] ?_
   try dsimp only
   refine⟨⟨by omega,λ t ht=>?_⟩,by omega⟩;rcases aa9 t k with h_|h_
   ·exact X3 t h_
   ·obtain rfl:t=k:=by omega
    exact Pp h6
  ·refine OG 6<|QJ (vI 10) [] ⟨by rw[oq,if_neg (show ¬ ∀k,k<S.nb->lD (S.body k).sh from λ h_=>Pq h6 (h_ k (by omega)))],rfl⟩
 ·refine Sr 10 (ow 0 16)<|aah (IR S)<|OG 2<|aam (jS S) 22 (λ h7=>?_) λ h7=>?_
  ·refine Sr 2 (aab 4)<|aah (r7 S.box)<|OG 3<|aam (gF S.box) 28 (λ h8=>?_) λ h8=>?_
   ·refine Sr 1 (ow 0 16)<|aah (IU hM.up)<|OG 4<|aam (mM S rs ds) 32 (λ h9=>?_) λ h9=>?_
    ·refine Sr 13 [.o 0]<|aan (σ:=Nat) (λ j=>⟨[(1,vP (n1+0) 0),(34,vS S.bb (S.bo*9) S.nb S.bc),(35,vI (S.nb:Int)),(36,vI (j:Int))],[((n1+0),.lit (Setup.l S) 32 (0,0))],[],j<=S.nb/\∀t,t<j->fX (S.body t) S.box,S.nb-j⟩) 0 [0] [] (⟨aaJ _,λ t ht=>absurd ht (ot _)⟩) ?_;rintro j ⟨W0,hvb⟩ abm;refine OG 6<|aal ((j:Int)<(S.nb:Int)) 37 (λ UO=>?_) λ UO=>?_
     ·refine ah 18 ([.ix j,.rorow 0 (S.bo+j) 0,.rorow 0 (S.bo+j) 1,.rorow 0 (S.bo+j) 2,.rorow 0 (S.bo+j) 3,.rorow 0 (S.bo+j) 4,.rorow 0 (S.bo+j) 5,.rorow 0 (S.bo+j) 6,.rorow 0 (S.bo+j) 7,.rorow 0 (S.bo+j) 8]++ow 0 18++(ow 1 4)) [((S.bo*9+j*9)+8)=(S.bo+j)*9+8/\(S.bo+j)<S.bR,((S.bo*9+j*9)+7)=(S.bo+j)*9+7/\(S.bo+j)<S.bR,((S.bo*9+j*9)+6)=(S.bo+j)*9+6/\(S.bo+j)<S.bR,((S.bo*9+j*9)+5)=(S.bo+j)*9+5/\(S.bo+j)<S.bR,((S.bo*9+j*9)+4)=(S.bo+j)*9+4/\(S.bo+j)<S.bR,((S.bo*9+j*9)+3)=(S.bo+j)*9+3/\(S.bo+j)<S.bR,((S.bo*9+j*9)+2)=(S.bo+j)*9+2/\(S.bo+j)<S.bR,((S.bo*9+j*9)+1)=(S.bo+j)*9+1/\(S.bo+j)<S.bR,(S.bo*9+j*9)=(S.bo+j)*9+0/\(S.bo+j)<S.bR,(j:Int)=((j:Nat):Int)/\j<S.nb] λ n13=>aah (Fv (S.bods.getD (S.bo+j) dB) S.box)<|OG 3<|aam (fX (S.bods.getD (S.bo+j) dB) S.box) 44 (λ XI=>?_) λ XI=>?_
      ·refine ah 8 [.nw] [aX ((j:Int)+1)] λ _=>abm (j+1) [1] [] ?_
       try dsimp only
       refine⟨⟨by omega,λ t ht=>?_⟩,by omega⟩;rcases aa9 t j with h_|h_
       ·exact hvb t h_
       ·obtain rfl:t=j:=by omega
        exact XI
      ·refine OG 6<|QJ (vI 11) [] ⟨by rw[oq,if_pos (show ∀k,k<S.nb->lD (S.body k).sh from λ t ht=>X3 t (by omega)),if_pos (show BJ S rs ds from ⟨h7,h8,h9⟩),if_neg (show ¬ ∀k,k<S.nb->fX (S.body k) S.box from λ h_=>XI (h_ j (by omega)))],rfl⟩
     ·refine OG 11<|QJ (vI 0) [] ⟨by rw[oq,if_pos (show ∀k,k<S.nb->lD (S.body k).sh from λ t ht=>X3 t (by omega)),if_pos (show BJ S rs ds from ⟨h7,h8,h9⟩),if_pos (show ∀k,k<S.nb->fX (S.body k) S.box from λ t ht=>hvb t (by omega))],rfl⟩
    ·refine OG 6<|QJ (vI 11) [] ⟨by rw[oq,if_pos (show ∀k,k<S.nb->lD (S.body k).sh from λ t ht=>X3 t (by omega)),if_neg (show ¬ BJ S rs ds from λ h_=>h9 h_.2.2)],rfl⟩
   ·refine OG 12<|QJ (vI 11) [] ⟨by rw[oq,if_pos (show ∀k,k<S.nb->lD (S.body k).sh from λ t ht=>X3 t (by omega)),if_neg (show ¬ BJ S rs ds from λ h_=>h8 h_.2.1)],rfl⟩
  ·refine OG 18<|QJ (vI 11) [] ⟨by rw[oq,if_pos (show ∀k,k<S.nb->lD (S.body k).sh from λ t ht=>X3 t (by omega)),if_neg (show ¬ BJ S rs ds from λ h_=>h7 h_.1)],rfl⟩
def lE(S:Setup):List Bod:=(List.range S.nb).map S.body
theorem jT(S:Setup):(lE S).length=S.nb:=by simp[lE]
theorem l8(h:k<S.nb):(lE S).getD k dB=S.body k:=by simp[lE,h]
theorem Fy(hS:SetSh F S):RowL lc 76 F (some ⟨S.bb,S.bo*9,none⟩) S.nb (lE S) :=
 .rows S.bb S.bo S.bR S.bods (0,0) S.nb (lE S) hS.blk hS.room (jT S) (λ k hk=>(l8 hk).symm)
theorem ClS.open{e:Enc α}{T:TypeId}{xs:List α}{c:Nat}{Hl:HL}(h:ClS e T xs A c Hl)(hx:0<xs.length):∃b,A=some ⟨b,0,none⟩/\Hl=[(b,.rows e.w c (aD e xs) T (0,0))]/\xs.length<=c:=by
 obtain⟨A0,h⟩:=h;rcases h with ⟨rfl,_⟩|⟨b,h1,h2,h3⟩
 ·simp at hx
 ·exact⟨b,h1,h2,h3⟩
structure SetCl(F:HL)(S:Setup):Prop extends SetN S where
 blk:(S.bb,.rows 9 S.bR (lw S.bods) 76 (0,0))∈F
 room:S.bo+S.nb<=S.bR
 shp:∀k,k<S.nb->(RowL mD 30 F (S.body k).sh.A (S.body k).sh.poly.length (S.body k).sh.poly/\(S.body k).sh.poly.length<=1000000)/\((S.body k).sh.poly=[]\/3<=(S.body k).sh.poly.length)
theorem SetIn.cl(h:SetIn F S):SetCl F S:=⟨h.toSetN,h.blk,h.room,λ k hk=>⟨(h.shp k hk).rowL,by
 have h1:=h.shp k hk;generalize (S.body k).sh=s at h1;cases h1 with
 |circle r A cap=>exact .inl rfl
 |poly r l b cap h h3 h4 h5=>exact .inr h3⟩⟩
theorem SetCl.up{X:HL}(h:SetCl F S):SetCl (X++F) S:=⟨h.toSetN,aaz _ h.blk,h.room,λ k hk=>⟨⟨(h.shp k hk).1.1.up,(h.shp k hk).1.2⟩,(h.shp k hk).2⟩⟩
theorem SetCl.toSh(h:SetCl F S):SetSh F S:=⟨h.nb,h.blk,h.room,λ k hk=>(h.shp k hk).1⟩
theorem Fz(h:s.poly=[]\/3<=s.poly.length)(hl:s.poly.length<=1000000){c:Nat}(hc:ClS mD 30 s.poly A c T):ShH ⟨s.r,s.poly,A,c⟩ T:=by
 intro F' hF;rcases h with h|h
 ·rw[h];exact .circle _ _ _
 ·obtain⟨b2,rfl,rfl,h6⟩:=hc.open (by omega);exact .poly _ _ _ _ (hF _ (eb.2 rfl)) h h6 hl
def Bod.at(b:Bod)(A:Option Addr)(c:Nat):Bod:=⟨⟨b.sh.r,b.sh.poly,A,c⟩,b.mot,b.a,b.b⟩
theorem fF{l:List α}{x d:α}(h:i<l.length):(l.set i x).getD i d=x:=by simp[h]
theorem fl{l:List α}{x d:α}(h:¬ i=k):(l.set i x).getD k d=l.getD k d:=by simp[acS,h]
theorem Mq{l:List Bod}(h:i<l.length)(A:Option Addr)(c:Nat):db (lw l) i 1 (.slice A (l.getD i dB).sh.poly.length c)=lw (l.set i ((l.getD i dB).at A c)):=by
 funext j k;unfold db
 by_cases h1:j=i
 ·subst h1;show _=lc.cell ((l.set j ((l.getD j dB).at A c)).getD j dB) k;rw[fF h]
  by_cases h2:k=1
  ·subst h2;simp;rfl
  ·rw[if_neg (by simp[h2])];show lc.cell (l.getD j dB) k=_;rcases k with _|_|k
   ·rfl
   ·exact absurd rfl h2
   ·rcases k with _|_|_|_|_|_|k <;> rfl
 ·rw[if_neg (by simp[h1])];show lc.cell (l.getD j dB) k=lc.cell ((l.set i _).getD j dB) k;rw[fl (λ e=>h1 e.symm)]
structure SetEq(S S':Setup):Prop where
 nums:S'.players=S.players/\S'.nb=S.nb/\S'.box=S.box/\S'.rn=S.rn/\S'.dn=S.dn/\S'.fog=S.fog/\S'.g=S.g/\S'.push=S.push/\S'.drag=S.drag/\S'.rest=S.rest/\S'.rounds=S.rounds/\S'.fuel=S.fuel
 bod:∀k,k<S.nb->∃A c,S'.body k=(S.body k).at A c
 whole:S'.bo=0/\S'.bods.length=S.nb
def uH(S:Setup)(rs:List Bx)(ds:List Dr)(U:HL):Prop:=∀F,(∀y∈U,y∈F)->SetIn F S/\MapIn F S rs ds
theorem BK(hS:SetCl F S)(hM:MapIn F S rs ds)(h1:1<=S.nb)(Vu:S.rn<=1000000)(Zr:S.dn<=1000000):af1 51 #[Setup.v S] (ap [] []) F (λ u H'=>∃x:Setup×HL,H'=ap [] [x.2]/\(u=Setup.v x.1/\SetEq S x.1/\uH x.1 rs ds x.2)):=by
 have hp:=hS.pl;have hn:=hS.nb;have hr:=hS.room;refine QH Tryz.func51 hS.blk<|ae 10 [.o 1] λ n1=>Ss (rR S.bc (RowL.src Bb (by decide) (Fy hS.toSh).up) (by omega)) ?_;rintro _ ⟨A2,c3,T4⟩ ⟨rfl,hc5⟩;dsimp only at hc5;refine ae 7 [.o 1] λ _=>?_;obtain⟨bb,rfl,rfl,WM⟩:=hc5.open (by rw[jT];omega);have hcap:S.nb<=c3:=by rw[jT] at WM;exact WM
 refine rz 0 (x:=(bb,.rows 9 c3 (lw (lE S)) 76 (0,0)))<|Sr 7 [.o 2]<|aao<|aan (σ:=Nat×List Bod×HL) (λ ⟨i,bods,U_⟩=>⟨[(1,vP (n1+0) 0),(2,vP (n1+1) 0),(10,vI (S.nb:Int)),(11,vI (i:Int))],[(bb,.rows 9 c3 (lw bods) 76 (0,0)),((n1+1),.lit [vI 0,.slice none 0 0,vI 0,vI 0,vI 0,vI 0,.slice none 0 0,.slice none 0 0,vI 0,vI 0,vI 0,vI 0,vI 0,vI 0,vI 0,vI 0] 32 (0,0)),((n1+0),.lit [vI S.players,vS bb 0 S.nb c3,vI S.box.x0,vI S.box.y0,vI S.box.x1,vI S.box.y1,.slice S.rA S.rn S.rc,.slice S.dA S.dn S.dc,vI S.fog,vI S.g.x,vI S.g.y,vI S.push,vI S.drag,vI S.rest,vI S.rounds,vI S.fuel] 32 (0,0))],[U_],i<=S.nb/\bods.length=S.nb/\(∀k,k<S.nb->∃A c,bods.getD k dB=(S.body k).at A c)/\(∀k,k<i->ShH (bods.getD k dB).sh U_)/\∀k,i<=k->k<S.nb->bods.getD k dB=S.body k,S.nb-i⟩) (0,lE S,[]) [0,1,2] [0] (⟨aaJ _,jT S,λ k hk=>⟨_,_,l8 hk⟩,λ k hk=>absurd hk (ot _),λ k _ hk=>l8 hk⟩) ?_;rintro⟨i,bods,U_⟩ ⟨W4,VA,aaS,Yq,ab2⟩ mt7;refine OG 6<|aal ((i:Int)<(S.nb:Int)) 12 (λ h8=>?_) λ h8=>?_
 ·refine ae 7 [] λ _=>?_;have ZJ:(RowL mD 30 F (bods.getD i dB).sh.A (bods.getD i dB).sh.poly.length (bods.getD i dB).sh.poly/\(bods.getD i dB).sh.poly.length<=1000000)/\((bods.getD i dB).sh.poly=[]\/3<=(bods.getD i dB).sh.poly.length):=by rw[ab2 i (aaI _) (by omega)];exact hS.shp i (by omega)
  have XQ:=ZJ.1.1;have ahw:(bods.getD i dB).sh.poly.length<=100000000:=by have:=ZJ.1.2;omega
  refine OG 4<|aak [14] []<|aH [] [0,2,3,5,1,4,6,7,8,9] [.o 2,.o 2,.ix i,.row 0 i 1] [((0+i*9)+1)=i*9+1/\i<c3,(i:Int)=((i:Nat):Int)/\i<S.nb]<|aae 10 (QP [] (tH ((bods.getD i dB).sh.cap) (RowL.src IM (by decide) XQ.up) ahw) ?_);rintro _ ⟨A9,X9,Ub⟩ ⟨rfl,aeU⟩;dsimp only at aeU;refine aH [] [11,12,13] [.ix i] [(i:Int)=((i:Nat):Int)/\i<S.nb]<|aae 14 (fR [] [.row 0 i 1] [((0+i*9)+1)=i*9+1/\i<c3] λ _=>?_);refine aad<|ah 6 [.nw] [aX ((i:Int)+1)] λ _=>RN.bv 0 (congrArg (λ v_=>(.rows 9 c3 v_ 76 (0,0):Blk)) (show (db (lw bods) i 1 (.slice A9 ((bods.getD i dB).sh.poly.length) X9))=(lw (bods.set i ((bods.getD i dB).at A9 X9))) from (Mq (by omega) A9 X9)))<|uh [1,0]<|xE<|mt7 (i+1,(bods.set i ((bods.getD i dB).at A9 X9)),U_++Ub) [0,1,2] [0] ?_
  try dsimp only
  refine⟨⟨by omega,by rw[ack];exact VA,λ t ht=>?_,λ t ht=>?_,λ t VZ Ur=>?_⟩,by omega⟩
  ·rcases Decidable.em (i=t) with rfl|h_
   ·rw[fF (by omega),ab2 i (aaI _) ht];exact⟨_,_,rfl⟩
   ·rw[fl h_];exact aaS t ht
  ·rcases Decidable.em (i=t) with rfl|h_
   ·rw[fF (by omega)];exact ShH.right (Fz ZJ.2 ZJ.1.2 aeU)
   ·rw[fl h_];exact(Yq t (by omega)).left
  ·rw[fl (by omega)];exact ab2 t (by omega) Ur
 ·refine Sr 10 [.o 2]<|Ss (tI S.rc (RowL.src Oe (by decide) hM.rooms.up) (by omega)) ?_;rintro _ ⟨A13,c14,Vf⟩ ⟨rfl,aeS⟩;dsimp only at aeS;refine Sr 8 [.o 2,.o 2]<|Ss (rX S.dc (RowL.src Og (by decide) hM.doors.up) (by omega)) ?_;rintro _ ⟨Zy,Zg,Wv⟩ ⟨rfl,aeR⟩;dsimp only at aeR;refine Sr 10 (ow 2 17++ow 1 16)<|QI (ow 1 16) [0] [0,1,2] (.agg #[vI S.players,vS bb 0 S.nb c3,vI S.box.x0,vI S.box.y0,vI S.box.x1,vI S.box.y1,.slice A13 S.rn c14,.slice Zy S.dn Zg,vI S.fog,vI S.g.x,vI S.g.y,vI S.push,vI S.drag,vI S.rest,vI S.rounds,vI S.fuel]) (ap [(bb,.rows 9 c3 (lw bods) 76 (0,0))] [Wv,Vf,U_]) ?_;have ei:i=S.nb:=by omega
  subst ei;have YT:∀k,bods.getD (0+k) dB=bods.getD k dB:=λ k=>by rw[abP]
  refine⟨((⟨S.players,bb,0,S.nb,c3,c3,bods,S.box,A13,S.rn,c14,Zy,S.dn,Zg,S.fog,S.g,S.push,S.drag,S.rest,S.rounds,S.fuel⟩:Setup),[(bb,.rows 9 c3 (lw bods) 76 (0,0))]++(Wv++Vf++U_)),(by simp[ap]),rfl,⟨⟨rfl,rfl,rfl,rfl,rfl,rfl,rfl,rfl,rfl,rfl,rfl,rfl⟩,λ k hk=>?_,rfl,VA⟩,λ F2 hF=>⟨⟨⟨hp,by omega⟩,hF _ (by simp),(by show 0+S.nb<=c3;omega),λ k hk=>?_⟩,?_,?_⟩⟩
  ·obtain⟨A,c,h⟩:=aaS k hk;exact⟨A,c,by show bods.getD (0+k) dB=_;rw[YT];exact h⟩
  ·show ShIn F2 (bods.getD (0+k) dB).sh;rw[YT];exact Yq k hk F2 λ x hx=>hF x (by simp[hx])
  ·have h_:=aeS.rowL (F:=F2) λ x hx=>hF x (by simp[hx]);rw[hM.rooms.len] at h_;exact h_
  ·have h_:=aeR.rowL (F:=F2) λ x hx=>hF x (by simp[hx]);rw[hM.doors.len] at h_;exact h_
theorem BL(h:SetN S)(hi:i<S.nb):db (db (db (db (db (db (aY (bz S i)) ((ag S i).toNat+0) 0 (vI (S.body i).mot.px)) ((ag S i).toNat+1) 0 (vI (S.body i).mot.py)) ((ag S i).toNat+2) 0 (vI (S.body i).mot.vx)) ((ag S i).toNat+3) 0 (vI (S.body i).mot.vy)) ((ag S i).toNat+4) 0 (vI (S.body i).a)) ((ag S i).toNat+5) 0 (vI (S.body i).b)=aY (bz S (i+1)):=by
 have hb:=pr h hi;rw[<- Ft h hi];rw[show (ag S i+1).toNat=(ag S i).toNat+1 by omega,show (ag S i+2).toNat=(ag S i).toNat+2 by omega,show (ag S i+3).toNat=(ag S i).toNat+3 by omega,show (ag S i+4).toNat=(ag S i).toNat+4 by omega,show (ag S i+5).toNat=(ag S i).toNat+5 by omega];rfl
theorem FB(hS:SetCl F S):af1 53 #[Setup.v S] (ap [] []) F (λ u H'=>∃q,H'=ap [(q,.rows 1 (sizeOf S).toNat (aY (bz S S.nb)) 3 (0,0))] []/\u=vS q 0 (sizeOf S).toNat (sizeOf S).toNat):=by
 have hp:=hS.pl;have hn:=hS.nb;have hr:=hS.room;have hz:=Fs hS.toSetN;refine QH Tryz.func53 hS.blk<|ae 13 [.o 0] λ n1=>aal (S.players<0) 10 (λ h2=>?_) λ h2=>?_
 ·(exfalso;omega)
 ·refine Sr 6 [.o 0]<|aal (S.players>1048576) 14 (λ h3=>?_) λ h3=>?_
  ·(exfalso;omega)
  ·refine Sr 6 (ow 0 16)<|aah (Ey hS.toSetN)<|ah 14 [.mk ((sizeOf S).toNat) ((sizeOf S).toNat),.o 1] [sizeOf S=(((sizeOf S).toNat:Nat):Int)/\sizeOf S=(((sizeOf S).toNat:Nat):Int)/\(sizeOf S).toNat<=(sizeOf S).toNat/\8*((sizeOf S).toNat)<=140737488355328/\1=1/\(sizeOf S).toNat<=9223372036854775807] λ n4=>RN.bv 0 (congrArg (λ v_=>(.rows 1 ((sizeOf S).toNat) v_ 3 (0,0):Blk)) (show (vJ [vI 0])=(aY (bz S 0)) from (by rw[uB (sizeOf S).toNat] <;> rfl)))<|aan (σ:=Nat) (λ i=>⟨[(1,vP (n1+0) 0),(3,vS (n4+0) 0 ((sizeOf S).toNat) ((sizeOf S).toNat)),(19,vS S.bb (S.bo*9) S.nb S.bc),(20,vI (S.nb:Int)),(21,vI (i:Int))],[((n4+0),.rows 1 ((sizeOf S).toNat) (aY (bz S i)) 3 (0,0)),((n1+0),.lit (Setup.l S) 32 (0,0))],[],i<=S.nb,S.nb-i⟩) 0 [0,1] [] (aaJ _) ?_;rintro i hI5 Wx;refine OG 6<|aal ((i:Int)<(S.nb:Int)) 22 (λ h7=>?_) λ h7=>?_
   ·have hbi:=pr hS.toSetN (i:=i) (by omega);refine ah 20 ([.ix i,.rorow 0 (S.bo+i) 0,.rorow 0 (S.bo+i) 1,.rorow 0 (S.bo+i) 2,.rorow 0 (S.bo+i) 3,.rorow 0 (S.bo+i) 4,.rorow 0 (S.bo+i) 5,.rorow 0 (S.bo+i) 6,.rorow 0 (S.bo+i) 7,.rorow 0 (S.bo+i) 8]++ow 0 9++ow 2 16) [((S.bo*9+i*9)+8)=(S.bo+i)*9+8/\(S.bo+i)<S.bR,((S.bo*9+i*9)+7)=(S.bo+i)*9+7/\(S.bo+i)<S.bR,((S.bo*9+i*9)+6)=(S.bo+i)*9+6/\(S.bo+i)<S.bR,((S.bo*9+i*9)+5)=(S.bo+i)*9+5/\(S.bo+i)<S.bR,((S.bo*9+i*9)+4)=(S.bo+i)*9+4/\(S.bo+i)<S.bR,((S.bo*9+i*9)+3)=(S.bo+i)*9+3/\(S.bo+i)<S.bR,((S.bo*9+i*9)+2)=(S.bo+i)*9+2/\(S.bo+i)<S.bR,((S.bo*9+i*9)+1)=(S.bo+i)*9+1/\(S.bo+i)<S.bR,(S.bo*9+i*9)=(S.bo+i)*9+0/\(S.bo+i)<S.bR,(i:Int)=((i:Nat):Int)/\i<S.nb] λ n8=>aah (dh (i:Int) hS.toSetN) ?_;have hb9:=dg hS.toSetN (i:Int);refine ah 5 [.sl ((ag S (i:Int)).toNat) ((sizeOf S).toNat) false] [ag S (i:Int)=(((ag S (i:Int)).toNat:Nat):Int)/\(sizeOf S).toNat=(sizeOf S).toNat/\(ag S (i:Int)).toNat<=(sizeOf S).toNat/\(sizeOf S).toNat<=(sizeOf S).toNat/\(sizeOf S).toNat≠(ag S (i:Int)).toNat] λ _=>aak [11,13] [0,2]<|aH [0,2] [0,1,2,6,3,7,4,8,5,9,10] [.o 0,.ro 0,.ix 0] [0=((0:Nat):Int)/\0<((sizeOf S).toNat-(ag S (i:Int)).toNat)]<|aae 11 (fR [0,2] [.row 1 (((ag S (i:Int)).toNat)+0) 0] [((0+((ag S (i:Int)).toNat)*1)+0*1)=(((ag S (i:Int)).toNat)+0)*1+0/\(((ag S (i:Int)).toNat)+0)<((sizeOf S).toNat)] λ _=>?_);refine aH [0,2] [12] [.ix 1] [1=((1:Nat):Int)/\1<((sizeOf S).toNat-(ag S (i:Int)).toNat)]<|aae 13 (fR [0,2] [.row 1 (((ag S (i:Int)).toNat)+1) 0] [((0+((ag S (i:Int)).toNat)*1)+1*1)=(((ag S (i:Int)).toNat)+1)*1+0/\(((ag S (i:Int)).toNat)+1)<((sizeOf S).toNat)] λ _=>?_);refine QQ 2<|aak [11,13] [0,2]<|aH [0,2] [0,1,2,6,3,7,4,8,5,9,10] [.o 0,.ro 0,.ix 2] [2=((2:Nat):Int)/\2<((sizeOf S).toNat-(ag S (i:Int)).toNat)]<|aae 11 (fR [0,2] [.row 1 (((ag S (i:Int)).toNat)+2) 0] [((0+((ag S (i:Int)).toNat)*1)+2*1)=(((ag S (i:Int)).toNat)+2)*1+0/\(((ag S (i:Int)).toNat)+2)<((sizeOf S).toNat)] λ _=>?_);refine aH [0,2] [12] [.ix 3] [3=((3:Nat):Int)/\3<((sizeOf S).toNat-(ag S (i:Int)).toNat)]<|aae 13 (fR [0,2] [.row 1 (((ag S (i:Int)).toNat)+3) 0] [((0+((ag S (i:Int)).toNat)*1)+3*1)=(((ag S (i:Int)).toNat)+3)*1+0/\(((ag S (i:Int)).toNat)+3)<((sizeOf S).toNat)] λ _=>?_);refine QQ 1<|aak [7,9] [0,2]<|aH [0,2] [0,1,2,4,3,5,6] [.o 0,.ro 0,.ix 4] [4=((4:Nat):Int)/\4<((sizeOf S).toNat-(ag S (i:Int)).toNat)]<|aae 7 (fR [0,2] [.row 1 (((ag S (i:Int)).toNat)+4) 0] [((0+((ag S (i:Int)).toNat)*1)+4*1)=(((ag S (i:Int)).toNat)+4)*1+0/\(((ag S (i:Int)).toNat)+4)<((sizeOf S).toNat)] λ _=>?_);refine aH [0,2] [8] [.ix 5] [5=((5:Nat):Int)/\5<((sizeOf S).toNat-(ag S (i:Int)).toNat)]<|aae 9 (fR [0,2] [.row 1 (((ag S (i:Int)).toNat)+5) 0] [((0+((ag S (i:Int)).toNat)*1)+5*1)=(((ag S (i:Int)).toNat)+5)*1+0/\(((ag S (i:Int)).toNat)+5)<((sizeOf S).toNat)] λ _=>?_);refine aad<|ah 6 [.nw] [aX ((i:Int)+1)] λ _=>RN.bv 1 (congrArg (λ v_=>(.rows 1 ((sizeOf S).toNat) v_ 3 (0,0):Blk)) (show (db (db (db (db (db (db (aY (bz S i)) (((ag S (i:Int)).toNat)+0) 0 (vI ((S.bods.getD (S.bo+i) dB).mot.px))) (((ag S (i:Int)).toNat)+1) 0 (vI ((S.bods.getD (S.bo+i) dB).mot.py))) (((ag S (i:Int)).toNat)+2) 0 (vI ((S.bods.getD (S.bo+i) dB).mot.vx))) (((ag S (i:Int)).toNat)+3) 0 (vI ((S.bods.getD (S.bo+i) dB).mot.vy))) (((ag S (i:Int)).toNat)+4) 0 (vI ((S.bods.getD (S.bo+i) dB).a))) (((ag S (i:Int)).toNat)+5) 0 (vI ((S.bods.getD (S.bo+i) dB).b)))=(aY (bz S (i+1))) from (by rw[<- BL hS.toSetN (i:=i) (by omega)] <;> kernel_rfl)))<|Wx (i+1) [1,2] [] ?_
    try dsimp only
    exact⟨by omega,by omega⟩
   ·refine OG 12<|QI [] [0] [] (vS (n4+0) 0 ((sizeOf S).toNat) ((sizeOf S).toNat)) [((n4+0),.rows 1 ((sizeOf S).toNat) (aY (bz S i)) 3 (0,0))] ?_;have ei:i=S.nb:=by omega
    subst ei;exact⟨_,rfl,rfl⟩
abbrev dW(S:Setup)(bp mb:Nat):List Value:=[vI S.players,vS S.bb (S.bo*9) S.nb S.bc,vI S.box.x0,vI S.box.y0,vI S.box.x1,vI S.box.y1,.slice S.rA S.rn S.rc,.slice S.dA S.dn S.dc,vI S.fog,vI S.g.x,vI S.g.y,vI S.push,vI S.drag,vI S.rest,vI S.rounds,vI S.fuel,vP bp 0,vP mb 0]
inductive GameH(rs:List Bx)(ds:List Dr)(bp gb:Nat)(S:Setup)(M:MemS)(k:Nat):HL->Prop
 |mk (mb:Nat) (T U:HL) (hM:MemH mb M k T) (hU:uH S rs ds U):GameH rs ds bp gb S M k (ap [(gb,.lit (dW S bp mb) 119 (0,0))] [T,U])
theorem IZ{q:Nat}{cs:List Int}(hn:cs.length=n)(hq:(q,.rows 1 n (aY cs) 3 (0,0))∈F)(hc:n<=1000000)(hk:k<=100000000)(hcap:n<=cap):af1 52 #[vS q 0 n cap] (ap [] []) F (λ u H'=>∃x:Nat×HL,H'=ap [] [x.2]/\(u=vP x.1 0/\MemH x.1 ⟨cs,[],0⟩ k x.2)):=by
 subst hn;exact Mi hq hc hk hcap
theorem sa(bp:Nat)(hS:SetCl F S)(hM:MapIn F S rs ds)(h1:1<=S.nb)(Vu:S.rn<=1000000)(Zr:S.dn<=1000000)(L_:(sizeOf S).toNat<=1000000)(hv:oq S rs ds=0)(k:Nat)(hk:k<=100000000):af1 27 #[Setup.v S,vP bp 0] (ap [] []) F (λ u H'=>∃x:Nat×Setup×HL,H'=ap [] [x.2.2]/\(u=.tuple #[vP x.1 0,vI 0]/\SetEq S x.2.1/\GameH rs ds bp x.1 x.2.1 ⟨bz S S.nb,[],0⟩ k x.2.2)):=by
 refine QG Tryz.func27<|ae 11 (ow 0 16) λ n1=>aah (Mp hS.up.toSh hM.up)<|OG 9<|ci 10 (nt (abw hv))<|OG 4<|aak [] []<|af [] [0,2,3] (ow 0 32)<|aae 1 (QP [] (BK hS.up hM.up h1 Vu Zr) ?_);rintro _ ⟨S2,U3⟩ ⟨rfl,he4,hU5⟩;dsimp only at he4 hU5;refine aae 4 (QP [] (FB hS.up) ?_);rintro _ q6 rfl;refine aae 5 (QP [] (IZ (q:=q6) (cs:=bz S S.nb) (cap:=(sizeOf S).toNat) (jQ _ _) (ay 0) L_ hk (aaI _)) ?_);rintro _ ⟨m7,T8⟩ ⟨rfl,XW⟩;dsimp only at XW;refine afZ [6]<|aae 7 (aag [] [] λ n10=>?_);refine afZ [8,9]<|QQ 1<|QI [] [0] [0,1] (.tuple #[vP (n10+0) 0,vI 0]) (ap [((n10+0),.lit [vI S2.players,vS S2.bb (S2.bo*9) S2.nb S2.bc,vI S2.box.x0,vI S2.box.y0,vI S2.box.x1,vI S2.box.y1,.slice S2.rA S2.rn S2.rc,.slice S2.dA S2.dn S2.dc,vI S2.fog,vI S2.g.x,vI S2.g.y,vI S2.push,vI S2.drag,vI S2.rest,vI S2.rounds,vI S2.fuel,vP bp 0,vP m7 0] 119 (0,0))] [T8,U3]) ⟨((n10+0),S2,ap [((n10+0),.lit (dW S2 bp m7) 119 (0,0))] [T8,U3]),by simp[ap],rfl,he4,.mk _ _ _ XW hU5⟩
theorem I0(hg:(gb,.lit (dW S bp mb) 119 (0,0))∈F):af0 29 #[vP gb 0] F (vP mb 0):=by
 refine QH Tryz.func29 hg<|ae 14 [.ro 0] λ _=>QJ _ _ ⟨rfl,rfl⟩
def Tc(cs:List Int):Prop:=(cs.getD 1 0=0/\cs.getD 2 0=0/\cs.getD 3 0=0/\cs.getD 4 0=0/\cs.getD 5 0=0/\cs.getD 6 0=0/\cs.getD 7 0=0/\cs.getD 8 0=0/\cs.getD 9 0=0/\cs.getD 10 0=0)/\cs.getD 0 0>=0/\cs.getD 0 0<=6000
instance (cs:List Int):Decidable (Tc cs):=inferInstanceAs (Decidable (_/\_))
theorem MemH.len2(h:MemH mb M k T):M.lg.length+k<=100000000:=by
 cases h with
 |mk cb A cap Hl hs hc hl=>exact hl
def Rx(na nb:Nat)(xs ys:List Int):Prop:=na=nb/\∀k,k<na->xs.getD k 0=ys.getD k 0
instance (na nb:Nat) (xs ys:List Int):Decidable (Rx na nb xs ys):=inferInstanceAs (Decidable (_/\_))
def fy(x:Inp):Prop:=(¬ x.dx< -1/\¬ x.dx>1)/\(¬ x.dy< -1/\¬ x.dy>1)/\¬ x.act<0/\¬ x.act>3
instance (x:Inp):Decidable (fy x):=inferInstanceAs (Decidable (_/\_))
def dq(pl:Int)(n:Nat)(xs:List Inp)(now:Int):Int:=if (n:Int)=pl then (if ∀k,k<n->fy (xs.getD k dI) then (if now>=6000 then 2 else 0) else 1) else 17
theorem yN{cb:Nat}{m:Nat}{base:Int}(hm:(mb,.lit [vS cb 0 n n,.slice A m cap,vI base] 164 (0,0))∈F):af0 41 #[vP mb 0] F (vI (aV (base+(m:Int)))):=by
 refine QH Tryz.func41 hm<|OG 6<|aak [] []<|af [] [0,4,1,5,2,6,3,7,8,9,10] [.ro 0,.ro 0]<|aad<|ae 1 [] λ _=>QJ _ _ ⟨rfl,rfl⟩
theorem yO(h:MemH mb M k T)(hs:∀x∈T,x∈F):af0 41 #[vP mb 0] F (vI (aV (M.base+(M.lg.length:Int)))):=by
 cases h with
 |mk cb A cap Hl Wp hc hl=>exact yN (mb:=mb) (cb:=cb) (n:=M.cs.length) (A:=A) (m:=M.lg.length) (cap:=cap) (base:=M.base) (F:=F) (hs _ (by simp))
theorem sc(hg:(gb,.lit (dW S bp mb) 119 (0,0))∈F)(hM:MemH mb M k T)(hT:∀x∈T,x∈F):af0 34 #[vP gb 0] F (vI (M.get 0)):=by
 refine QH Tryz.func34 hg<|Sr 11 [.ro 0]<|aah (aA 0 hM (λ x hx=>aC (hT x hx)))<|ae 3 [] λ _=>QJ _ _ ⟨rfl,rfl⟩
theorem BM (cap:Nat){xs:List Inp}(hg:(gb,.lit (dW S bp mb) 119 (0,0))∈F)(hM:MemH mb M k T)(hT:∀x∈T,x∈F)(hl:RowL cT 106 F A n xs)(hn:n<=1000000):af0 66 #[vP gb 0,.slice A n cap] F (vI (dq S.players n xs (M.get 0))):=by
 refine QH Tryz.func66 hg<|Sr 18 [.ro 0]<|aam ((n:Int)=S.players) 14 (λ h1=>?_) λ h1=>?_
 ·refine OG 12<|aan (σ:=Nat) (λ k_=>⟨[(0,vP gb 0),(15,.slice A n cap),(16,vI (n:Int)),(17,vI (k_:Int))],[],[],k_<=n/\∀t,t<k_->fy (xs.getD t dI),n-k_⟩) 0 [] [] (⟨aaJ _,λ t ht=>absurd ht (ot _)⟩) ?_;rintro k_ ⟨hkl,iF⟩ UC;refine OG 6<|aal ((k_:Int)<(n:Int)) 18 (λ h4=>?_) λ h4=>?_
  ·refine ae 7 [] λ _=>?_;obtain⟨qx5,oF,U5,fx5,XY,Un,UH,XR,UX⟩:=hl.at (k:=k_) (by omega);refine aw 15 (congrArg (λ v_=>(.slice v_ n cap:Value)) Un)<|RN.ro (λ _=>(mc hg (mc UH mn)))<|ah 2 [.ix k_,.rorow 1 (oF+k_) 0,.rorow 1 (oF+k_) 1,.rorow 1 (oF+k_) 2] [((oF*3+k_*3)+2)=(oF+k_)*3+2/\(oF+k_)<U5,((oF*3+k_*3)+1)=(oF+k_)*3+1/\(oF+k_)<U5,(oF*3+k_*3)=(oF+k_)*3+0/\(oF+k_)<U5,(k_:Int)=((k_:Nat):Int)/\k_<n] λ _=>aw 20 (congrArg (λ v_=>(.agg #[vI v_.dx,vI v_.dy,vI v_.act]:Value)) UX)<|ae 10 (aab 4) λ n6=>aal ((xs.getD k_ dI).dx<(-1)) 24 (λ h7=>?_) λ h7=>?_
   ·refine OG 32<|QJ (vI 1) [] ⟨by rw[dq,if_pos (by omega),if_neg (λ h_=>by have Ur:=h_ k_ (by omega);unfold fy at Ur;omega)],rfl⟩
   ·refine Sr 5 [.o 0]<|aal ((xs.getD k_ dI).dx>1) 29 (λ h8=>?_) λ h8=>?_
    ·refine OG 27<|QJ (vI 1) [] ⟨by rw[dq,if_pos (by omega),if_neg (λ h_=>by have Ur:=h_ k_ (by omega);unfold fy at Ur;omega)],rfl⟩
    ·refine Sr 5 [.o 0]<|aal ((xs.getD k_ dI).dy<(-1)) 34 (λ h9=>?_) λ h9=>?_
     ·refine OG 22<|QJ (vI 1) [] ⟨by rw[dq,if_pos (by omega),if_neg (λ h_=>by have Ur:=h_ k_ (by omega);unfold fy at Ur;omega)],rfl⟩
     ·refine Sr 5 [.o 0]<|aal ((xs.getD k_ dI).dy>1) 39 (λ UE=>?_) λ UE=>?_
      ·refine OG 17<|QJ (vI 1) [] ⟨by rw[dq,if_pos (by omega),if_neg (λ h_=>by have Ur:=h_ k_ (by omega);unfold fy at Ur;omega)],rfl⟩
      ·refine Sr 5 [.o 0]<|aal ((xs.getD k_ dI).act<0) 44 (λ Ve=>?_) λ Ve=>?_
       ·refine OG 12<|QJ (vI 1) [] ⟨by rw[dq,if_pos (by omega),if_neg (λ h_=>by have Ur:=h_ k_ (by omega);unfold fy at Ur;omega)],rfl⟩
       ·refine Sr 6 [.o 0]<|aal ((xs.getD k_ dI).act>3) 48 (λ UO=>?_) λ UO=>?_
        ·refine OG 6<|QJ (vI 1) [] ⟨by rw[dq,if_pos (by omega),if_neg (λ h_=>by have Ur:=h_ k_ (by omega);unfold fy at Ur;omega)],rfl⟩
        ·refine ah 8 [.nw] [aX ((k_:Int)+1)] λ _=>aw 15 (congrArg (λ v_=>(.slice v_ n cap:Value)) Un.symm)<|UC (k_+1) [] [] ?_
         try dsimp only
         refine⟨⟨by omega,λ t ht=>?_⟩,by omega⟩;rcases aa9 t k_ with h_|h_
         ·exact iF t h_
         ·obtain rfl:t=k_:=by omega
          exact⟨⟨h7,h8⟩,⟨h9,UE⟩,Ve,UO⟩
  ·refine OG 10<|aah (sc (aC hg) hM (λ x hx=>aC (hT x hx)))<|OG 3<|aal (M.get 0>=6000) 52 (λ Zd=>?_) λ Zd=>?_
   ·refine OG 6<|QJ (vI 2) [] ⟨by rw[dq,if_pos (by omega),if_pos (λ t ht=>iF t (by omega)),if_pos (by omega)],rfl⟩
   ·refine OG 8<|QJ (vI 0) [] ⟨by rw[dq,if_pos (by omega),if_pos (λ t ht=>iF t (by omega)),if_neg (by omega)],rfl⟩
 ·refine OG 6<|QJ (vI 17) [] ⟨by rw[dq,if_neg (by omega)],rfl⟩
theorem FC(gb ib io ni ic:Nat):af1 69 #[vP gb 0,vS ib (io*3) ni ic] (ap [] []) F (λ u H'=>∃n:Nat,H'=ap [((n+1),.lit [vS ib (io*3) ni ic] 57 (0,0)),((n+0),.lit [vP gb 0] 90 (0,0))] []/\u=.func (.func 102) #[] #[vP (n+0) 0,vP (n+1) 0]):=by
 refine QG Tryz.func69<|ae 13 [] λ n1=>QI [] [0,1] [] (.func (.func 102) #[] #[vP (n1+0) 0,vP (n1+1) 0]) (ap [((n1+1),.lit [vS ib (io*3) ni ic] 57 (0,0)),((n1+0),.lit [vP gb 0] 90 (0,0))] []) ⟨_,rfl,rfl⟩
end Go.Proofs.YtjokannbjmndfaaGreatDoor
