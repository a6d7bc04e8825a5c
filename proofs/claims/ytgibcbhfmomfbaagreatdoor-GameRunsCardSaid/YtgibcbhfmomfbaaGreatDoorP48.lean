import Derived.Test.YtgibcbhfmomfbaaGreatDoorP47
import Derived.Test.YtgibcbhfmomfbaaGreatDoorP25
import Derived.Test.YtgibcbhfmomfbaaGreatDoorP44
import Derived.Test.YtgibcbhfmomfbaaGreatDoorP45
set_option maxHeartbeats 4000000
set_option maxRecDepth 100000
set_option linter.unusedSimpArgs false
set_option linter.unusedVariables false
namespace Go.Proofs.YtgibcbhfmomfbaaGreatDoor
open Go.RowKit
def bndN (p n r f : Int) : Int:=IntKind.i64.wrap ((IntKind.i64.wrap ((IntKind.i64.wrap ((IntKind.i64.wrap ((IntKind.i64.wrap (p + (IntKind.i64.wrap ((IntKind.i64.wrap ((IntKind.i64.wrap (p + 1)) + n)) * (IntKind.i64.wrap (f + 3)))))) + (IntKind.i64.wrap (2 * n)))) + 3)) + (IntKind.i64.wrap ((IntKind.i64.wrap ((IntKind.i64.wrap (r * n)) * (IntKind.i64.wrap (n - 1)))).tdiv 2)))) + (IntKind.i64.wrap (n * (IntKind.i64.wrap (n + 1)))))
theorem bound_ok {S : Setup} (hS : SetV S) : l0 S.players S.nb S.rounds 0 <= bndN S.players S.nb S.rounds S.fuel /\ bndN S.players S.nb S.rounds S.fuel <= 650:=by
  have hp:=hS.pl
  have hn:=hS.nb
  have hr:=hS.ro
  rw [hS.fu]
  have key : ∀ p : Fin 3,∀ n : Fin 5,∀ r : Fin 3,l0 ((p.1 + 1 : Nat) : Int) ((n.1 + 1 : Nat) : Int) ((r.1 + 1 : Nat) : Int) 0 <= bndN ((p.1 + 1 : Nat) : Int) ((n.1 + 1 : Nat) : Int) ((r.1 + 1 : Nat) : Int) 60 /\ bndN ((p.1 + 1 : Nat) : Int) ((n.1 + 1 : Nat) : Int) ((r.1 + 1 : Nat) : Int) 60 <= 650:=by decide +kernel
  have:=key ⟨S.players.toNat - 1,by omega⟩ ⟨S.nb - 1,by omega⟩ ⟨S.rounds.toNat - 1,by omega⟩
  dsimp only at this
  rwa [show ((S.players.toNat - 1 + 1 : Nat) : Int) = S.players by omega,show S.nb - 1 + 1 = S.nb by omega,show ((S.rounds.toNat - 1 + 1 : Nat) : Int) = S.rounds by omega] at this
theorem setV {xs : List Int} {F : HL} {A : Option Addr} {n : Nat} (hl : ArgL F A n xs) {S : Setup} {T : HL} (h : SetG xs S T) : SetV S:=by
  have h1:=sCnt_bd hl
  have h2:=sPl_bd hl
  have hn:=h.nb
  have k2:=kv_bd hl 2
  obtain ⟨e1,e2,e3,e4,e5,e6,e7,e8⟩:=h.nums
  exact ⟨by rw [h.pl]; exact h2,by omega,by rw [e7]; omega,e8⟩
theorem vgetD_ne {l : List Int} {i j : Nat} {v : Int} (h : i ≠ j) : (l.set i v).getD j 0 = l.getD j 0:=by
  rw [List.getD_eq_getElem?_getD,List.getD_eq_getElem?_getD,List.getElem?_set_ne h]
theorem viniL_low {S : Setup} (hp : 0 <= S.players) {j : Nat} (hj : j < 48) : ∀ i,i <= S.nb -> (iniL S i).getD j 0 = 0
  | 0,_ => by
    rw [iniL,List.getD_eq_getElem?_getD,List.getElem?_replicate]
    split <;> rfl
  | i + 1,hi => by
    have hb : bodyAt S (i : Int) = 48 + 4 * S.players + 8 * (i : Int):=by
      rcases vbodyAt hp (i : Int) with e | ⟨_,_,e⟩
      · unfold bodyAt at e
        rw [if_neg (by omega),if_neg (by omega)] at e; omega
      · exact e
    rw [iniL,vgetD_ne (by omega),vgetD_ne (by omega),vgetD_ne (by omega),vgetD_ne (by omega),vgetD_ne (by omega),vgetD_ne (by omega)]
    exact viniL_low hp hj i (by omega)
structure TE2 (S : Setup) (t : Int) (M : MemS) : Prop where
  len : (M.cs.length : Int) = sizeOf S
  z : ∀ k : Int,1 <= k -> k <= 10 -> M.get k = 0
  t0 : M.get 0 = t
theorem ini_te2 {S : Setup} (hS : SetV S) : TE2 S 0 ⟨iniL S S.nb,[],0⟩:=by
  have hp:=hS.pl
  have hlen : (((⟨iniL S S.nb,[],0⟩ : MemS).cs.length : Nat) : Int) = sizeOf S:=by
    show ((iniL S S.nb).length : Int) = _
    rw [iniL_len]; unfold sizeOf; omega
  have g : ∀ k : Int,0 <= k -> k < 48 -> (⟨iniL S S.nb,[],0⟩ : MemS).get k = 0:=λ k h0 h1 => by
    unfold MemS.get
    split
    · exact viniL_low (by omega) (by omega) S.nb (Nat.le_refl _)
    · rfl
  exact ⟨hlen,λ k h1 h2 => g k (by omega) (by omega),g 0 (by omega) (by omega)⟩
theorem TE2.tv {S : Setup} (hS : SetV S) {t : Int} (ht : 0 <= t /\ t <= 1000) {M : MemS} (h : TE2 S t M) (ins : Nat -> Inp) : TV S ins M /\ lfM S M = l0 S.players S.nb S.rounds 0 /\ stV M:=by
  have h1:=h.z 1 (by omega) (by omega)
  have h2:=h.z 2 (by omega) (by omega)
  have hp:=hS.pl
  refine ⟨⟨h.len,by rw [h.t0]; omega,by rw [h1,h2]; exact .inl ⟨rfl,by omega,by omega⟩,λ q hq => by rw [h1,if_pos rfl,h2] at hq; omega,.inl ⟨h1,h2⟩⟩,?_,h1,h2⟩
  unfold lfM
  rw [h1,h2]; rfl
theorem tickE {S : Setup} (hS : SetV S) {g : Gm} (hg : g.S = S) (hni : S.players <= g.ni) {t : Int} (ht : 0 <= t /\ t <= 1000) {M : MemS} (h : TE2 S t M) : ∃ m,((m + 1 : Nat) : Int) <= bndN S.players S.nb S.rounds S.fuel /\ goodRun g (m + 1) M /\ TE2 S (t + 1) (runM g (m + 1) M) /\
    Numb t 0 (effsV g (m + 1) M) /\ (runM g (m + 1) M).get 11 = ((effsV g (m + 1) M).length : Int) /\ ((effsV g (m + 1) M).length : Int) <= 40:=by
  obtain ⟨h1,h2,h3⟩:=h.tv hS ht (λ q => g.ins.getD (g.io + q) dI)
  have hb:=bound_ok hS
  have hpos:=lfV_pos hS.pl ⟨by have:=hS.nb; omega,by have:=hS.nb; omega⟩ hS.ro h1.ct
  unfold lfM at h2
  obtain ⟨m,a1,a2,a3,a4,a5,a6,a7,a8⟩:=tick_ok hS hg (λ _ _ => rfl) hni (l0 S.players S.nb S.rounds 0).toNat M h1 (by unfold lfM; omega)
  rw [if_pos h3] at a6 a7
  rw [h.t0] at a5 a6
  exact ⟨m,by omega,a2,⟨a4,a3,a5⟩,a6,by rw [a7]; omega,by omega⟩
theorem SetEq.pl {S S1 : Setup} (h : SetEq S S1) : S1.players = S.players:=h.nums.1
theorem SetEq.nb {S S1 : Setup} (h : SetEq S S1) : S1.nb = S.nb:=h.nums.2.1
theorem SetEq.size {S S1 : Setup} (h : SetEq S S1) : sizeOf S1 = sizeOf S:=by unfold sizeOf; rw [h.pl,h.nb]
theorem SetEq.setV {S S1 : Setup} (h : SetEq S S1) (hV : SetV S) : SetV S1:=by
  obtain ⟨e1,e2,_,_,_,_,_,_,_,_,e3,e4⟩:=h.nums
  exact ⟨by rw [e1]; exact hV.pl,by rw [e2]; exact hV.nb,by rw [e3]; exact hV.ro,by rw [e4]; exact hV.fu⟩
theorem TE2.eq {S S1 : Setup} (h : SetEq S S1) {t : Int} {M : MemS} (hT : TE2 S t M) : TE2 S1 t M:=⟨by rw [h.size]; exact hT.len,hT.z,hT.t0⟩
theorem nm_bods {S S' : Setup} (h : SetEq S S') : (S'.bods.drop S'.bo).map Bod.nm = (List.range S.nb).map λ k => (S.body k).nm:=by
  rw [h.whole.1,List.drop_zero]
  apply List.ext_getElem?
  intro k
  by_cases hk : k < S.nb
  · obtain ⟨A,c,e⟩:=h.bod k hk
    have hl : k < S'.bods.length:=by rw [h.whole.2]; exact hk
    have e2 : S'.bods[k]? = some (S'.body k):=by
      show _ = some (S'.bods.getD (S'.bo + k) dB)
      rw [h.whole.1,Nat.zero_add,List.getD_eq_getElem?_getD,List.getElem?_eq_getElem hl]; rfl
    rw [List.getElem?_map,e2,e]
    simp [hk]
    rfl
  · rw [List.getElem?_eq_none (by rw [List.length_map,h.whole.2]; omega),List.getElem?_eq_none (by simp; omega)]
theorem SetEq.nm2 {S S1 S2 : Setup} (h1 : SetEq S S1) (h2 : SetEq S S2) : S1.nm = S2.nm:=by
  have b1:=nm_bods h1
  have b2:=nm_bods h2
  obtain ⟨x1,x2,x3,x4,x5,x6,x7,x8,x9,x10,x11,x12⟩:=h1.nums
  obtain ⟨y1,y2,y3,y4,y5,y6,y7,y8,y9,y10,y11,y12⟩:=h2.nums
  unfold Setup.nm
  rw [b1,b2,x1,x2,x3,x4,x5,x6,x7,x8,x9,x10,x11,x12,y1,y2,y3,y4,y5,y6,y7,y8,y9,y10,y11,y12]
theorem gmB_eq2 {S1 S2 : Setup} (h : S1.nm = S2.nm) (j n : Nat) (xs : List Inp) : GEq (gmB S1 j n xs) (gmB S2 j n xs):=by
  refine ⟨?_,λ k hk => rfl⟩
  unfold Gm.nm
  simp only [h]
theorem plM_eq {G G' : Nat -> Gm} (h : ∀ k,GEq (G k) (G' k)) (M : MemS) : ∀ k,plM G M k = plM G' M k
  | 0 => rfl
  | k + 1 => by rw [plM,plM,plM_eq h M k,tkM_eq (h k)]
theorem plE_eq {G G' : Nat -> Gm} (h : ∀ k,GEq (G k) (G' k)) (M : MemS) : ∀ k,plE G M k = plE G' M k
  | 0 => rfl
  | k + 1 => by rw [plE,plE,plE_eq h M k,plM_eq h M k,tkE_eq (h k)]
theorem rG_eq {S S1 S2 : Setup} (h1 : SetEq S S1) (h2 : SetEq S S2) (j : Nat) (xss : List (List Inp)) : ∀ k,GEq (rG S1 j xss k) (rG S2 j xss k):=λ k => gmB_eq2 (h1.nm2 h2) _ _ _
theorem wrong0 {pl : Int} {n : Nat} {xs : List Inp} {now : Int} (h1 : (n : Int) = pl) (h2 : ∀ k,k < n -> okIn (xs.getD k dI)) (h3 : now < 6000) : wrongE pl n xs now = 0:=by
  unfold wrongE
  rw [if_pos h1,if_pos h2,if_neg (by omega)]
theorem wrong1 {pl : Int} {n : Nat} {xs : List Inp} {now : Int} (h1 : (n : Int) = pl) (h2 : ¬ ∀ k,k < n -> okIn (xs.getD k dI)) : wrongE pl n xs now = 1:=by
  unfold wrongE
  rw [if_pos h1,if_neg h2]
theorem tk_ok1 {S1 : Setup} (hV : SetV S1) {t : Int} (ht : 0 <= t /\ t <= 1000) {M : MemS} (hT : TE2 S1 t M) {xs : List Inp} (h1 : (xs.length : Int) = S1.players) (h2 : ∀ k,k < xs.length -> okIn (xs.getD k dI)) (j : Nat) : TkOk S1 j xs M /\ TE2 S1 (t + 1) (tkM (gmX S1 j xs) M):=by
  obtain ⟨m,a1,a2,a3,_⟩:=tickE hV (g:=gmX S1 j xs) rfl (by show S1.players <= (xs.length : Int); omega) ht hT
  have hb:=(bound_ok hV).2
  refine ⟨⟨⟨m,by omega,a2⟩,by rw [hT.t0]; exact ht.1,by rw [hT.t0]; exact wrong0 h1 h2 (by omega)⟩,?_⟩
  rw [<- (tk_of (by omega) a2).1]
  exact a3
def RowOk (pl : Int) (xs : List Inp) : Prop:=(xs.length : Int) = pl /\ ∀ k,k < xs.length -> okIn (xs.getD k dI)
theorem pl_ok {S1 : Setup} (hV : SetV S1) {M0 : MemS} (hT : TE2 S1 0 M0) {xss : List (List Inp)} (j n : Nat) (hn : n <= 50) (hr : ∀ i,i < n -> RowOk S1.players (xss.getD i [])) : ∀ i,i <= n -> TE2 S1 (i : Int) (plM (rG S1 j xss) M0 i)
  | 0,_ => hT
  | i + 1,h => by
    have ih:=pl_ok hV hT j n hn hr i (by omega)
    have:=(tk_ok1 hV (t:=(i : Int)) (by omega) ih (hr i (by omega)).1 (hr i (by omega)).2 j).2
    rw [plM]
    exact_mod_cast this
theorem pl_tk {S1 : Setup} (hV : SetV S1) {M0 : MemS} (hT : TE2 S1 0 M0) {xss : List (List Inp)} (j n : Nat) (hn : n <= 50) (hr : ∀ i,i < n -> RowOk S1.players (xss.getD i [])) (i : Nat) (hi : i < n) : TkOk S1 j (xss.getD i []) (plM (rG S1 j xss) M0 i) :=
  (tk_ok1 hV (t:=(i : Int)) (by omega) (pl_ok hV hT j n hn hr i (by omega)) (hr i hi).1 (hr i hi).2 j).1
theorem rowOf_ok {n : Int} (h : 0 <= n) : okIn (rowOf n):=by
  unfold okIn rowOf
  dsimp only
  split <;> omega
theorem gen_row {F : HL} {A : Option Addr} {n : Nat} {xs : List Int} (hl : ArgL F A n xs) {pl : Int} (hp : 0 <= pl) (t : Int) : RowOk pl (rowL pl xs t pl.toNat):=by
  refine ⟨by rw [rowL_len]; omega,λ k hk => ?_⟩
  rw [rowL_len] at hk
  rw [rowL_get hk]
  exact rowOf_ok (rowN_bd hl pl t k).1
theorem gen_rows {F : HL} {A : Option Addr} {n : Nat} {xs : List Int} (hl : ArgL F A n xs) {pl : Int} (hp : 0 <= pl) (cnt i : Nat) (hi : i < cnt) : RowOk pl ((rowsG pl xs cnt).getD i []):=by
  rw [rowsG_get hi]
  exact gen_row hl hp _
theorem ini_eq {S S1 : Setup} (hV : SetV S) (he : SetEq S S1) : TE2 S1 0 ⟨iniL S S.nb,[],0⟩:=(ini_te2 hV).eq he
section
variable {S S1 : Setup} {rs_ : List Bx} {ds_ : List Dr} {bp n cap j : Nat} {A : Option Addr} {rs : List Rw} {xss : List (List Inp)} {TB F : HL}
theorem run_ok (hS : SetIn F S) (hM : MapIn F S rs_ ds_) (hV : SetV S) (hrn : S.rn <= 1000000) (hdn : S.dn <= 1000000) (hsz : (sizeOf S).toNat <= 1000000) (hv : valE S rs_ ds_ = 0) (hj : j < 5) (hB : Book1 j bp TB) (hTB : ∀ x ∈ TB,x ∈ F) (hE : EffIn F) (hr : RowL rwE 44 F A n rs) (hw : RwsIn F rs xss) (h9 : n <= 9) (hrow : ∀ i,i < n -> RowOk S.players (xss.getD i [])) (he : SetEq S S1) :
    Sp Tryz.prog 22 #[Setup.v S,vP bp 0,.slice A n cap] (ap [] []) F (λ u H' => ∃ x : (Nat × Option Addr × Nat) × HL,H' = ap [(x.1.1,.rows 1 (plM (rG S1 j xss) ⟨iniL S S.nb,[],0⟩ n).cs.length (irow (plM (rG S1 j xss) ⟨iniL S S.nb,[],0⟩ n).cs) 3 (0,0))] [x.2] /\
      (SlIs effE 99 (plE (rG S1 j xss) ⟨iniL S S.nb,[],0⟩ n) x.1.2.1 x.1.2.2 x.2 /\ u = .tuple #[vS x.1.1 0 (plM (rG S1 j xss) ⟨iniL S S.nb,[],0⟩ n).cs.length (plM (rG S1 j xss) ⟨iniL S S.nb,[],0⟩ n).cs.length,.slice x.1.2.1 (plE (rG S1 j xss) ⟨iniL S S.nb,[],0⟩ n).length x.1.2.2,vI 0])):=by
  have hp:=hV.pl
  have htk : ∀ S2,SetEq S S2 -> ∀ i,i < n -> TkOk S2 j (xss.getD i []) (plM (rG S2 j xss) ⟨iniL S S.nb,[],0⟩ i):=λ S2 h2 i hi => pl_tk (h2.setV hV) (ini_eq hV h2) j n (by omega) (λ i hi => by rw [h2.pl]; exact hrow i hi) i hi
  refine (run_any S rs_ ds_ bp n cap j A rs xss TB F hS hM (by have:=hV.nb; omega) hrn hdn hsz hv hj hB hTB hE hr hw (λ k hk => by have:=(hrow k hk).1; omega) (by omega) h9 (λ S2 h2 i hi _ => .inl (htk S2 h2 i hi))).mono λ u H' h => ?_
  obtain ⟨⟨⟨S2,q,A2,c2⟩,C,E⟩,rfl,h2,h3⟩:=h
  dsimp only at h2 h3
  rcases h3 with ⟨_,h4,h5,h6⟩ | ⟨i,hi,_,h4,_⟩
  · have e1:=plM_eq (rG_eq h2 he j xss) ⟨iniL S S.nb,[],0⟩ n
    have e2:=plE_eq (rG_eq h2 he j xss) ⟨iniL S S.nb,[],0⟩ n
    rw [e1] at h4 h6
    rw [e2] at h5 h6
    subst h4
    exact ⟨((q,A2,c2),E),by simp [ap],h5,h6⟩
  · exact absurd (htk S2 h2 i hi).ok h4
theorem run_bent (hS : SetIn F S) (hM : MapIn F S rs_ ds_) (hV : SetV S) (hrn : S.rn <= 1000000) (hdn : S.dn <= 1000000) (hsz : (sizeOf S).toNat <= 1000000) (hv : valE S rs_ ds_ = 0) (hj : j < 5) (hB : Book1 j bp TB) (hTB : ∀ x ∈ TB,x ∈ F) (hE : EffIn F) (hr : RowL rwE 44 F A n rs) (hw : RwsIn F rs xss) (h9 : n <= 9) (kk : Nat) (hkk : kk < n) (hrow : ∀ i,i < n -> ¬ i = kk -> RowOk S.players (xss.getD i [])) (hlk : ((xss.getD kk []).length : Int) = S.players) {xk : List Inp} (hxk : xss.getD kk [] = xk) :
    Sp Tryz.prog 22 #[Setup.v S,vP bp 0,.slice A n cap] (ap [] []) F (λ u H' => ∃ x : (Value × Value) × HL × HL,H' = ap [] [x.2.1,x.2.2] /\ u = .tuple #[x.1.1,x.1.2,vI (wrongE S.players xk.length xk 0)]):=by
  subst hxk
  have hp:=hV.pl
  have hle : ∀ k,k < n -> (xss.getD k []).length <= 1000000:=λ k hk => by
    by_cases e : k = kk
    · subst e; omega
    · have:=(hrow k hk e).1; omega
  by_cases hall : ∀ q,q < (xss.getD kk []).length -> okIn ((xss.getD kk []).getD q dI)
  · have hrow2 : ∀ i,i < n -> RowOk S.players (xss.getD i []):=λ i hi => by
      by_cases e : i = kk
      · subst e; exact ⟨hlk,hall⟩
      · exact hrow i hi e
    have htk : ∀ S2,SetEq S S2 -> ∀ i,i < n -> TkOk S2 j (xss.getD i []) (plM (rG S2 j xss) ⟨iniL S S.nb,[],0⟩ i):=λ S2 h2 i hi => pl_tk (h2.setV hV) (ini_eq hV h2) j n (by omega) (λ i hi => by rw [h2.pl]; exact hrow2 i hi) i hi
    refine (run_any S rs_ ds_ bp n cap j A rs xss TB F hS hM (by have:=hV.nb; omega) hrn hdn hsz hv hj hB hTB hE hr hw hle (by omega) h9 (λ S2 h2 i hi _ => .inl (htk S2 h2 i hi))).mono λ u H' h => ?_
    obtain ⟨⟨⟨S2,q,A2,c2⟩,C,E⟩,rfl,h2,h3⟩:=h
    dsimp only at h2 h3
    rw [wrong0 hlk hall (by decide)]
    rcases h3 with ⟨_,h4,h5,h6⟩ | ⟨i,hi,_,h4,_⟩
    · exact ⟨((_,_),C,E),rfl,h6⟩
    · exact absurd (htk S2 h2 i hi).ok h4
  · have hw1 : ∀ now,wrongE S.players (xss.getD kk []).length (xss.getD kk []) now = 1:=λ now => wrong1 hlk hall
    have htk : ∀ S2,SetEq S S2 -> ∀ i,i < kk -> TkOk S2 j (xss.getD i []) (plM (rG S2 j xss) ⟨iniL S S.nb,[],0⟩ i):=λ S2 h2 i hi => pl_tk (h2.setV hV) (ini_eq hV h2) j kk (by omega) (λ i hi => by rw [h2.pl]; exact hrow i (by omega) (by omega)) i hi
    have hno : ∀ S2,SetEq S S2 -> ¬ TkOk S2 j (xss.getD kk []) (plM (rG S2 j xss) ⟨iniL S S.nb,[],0⟩ kk):=λ S2 h2 h => by
      have:=h.ok
      rw [h2.pl,hw1] at this
      exact absurd this (by decide)
    refine (run_any S rs_ ds_ bp n cap j A rs xss TB F hS hM (by have:=hV.nb; omega) hrn hdn hsz hv hj hB hTB hE hr hw hle (by omega) h9 (λ S2 h2 i hi hk => ?_)).mono λ u H' h => ?_
    · rcases Nat.lt_trichotomy i kk with e | e | e
      · exact .inl (htk S2 h2 i e)
      · subst e
        exact .inr (by rw [h2.pl,hw1]; decide)
      · exact absurd (hk kk e) (hno S2 h2)
    · obtain ⟨⟨⟨S2,q,A2,c2⟩,C,E⟩,rfl,h2,h3⟩:=h
      dsimp only at h2 h3
      rcases h3 with ⟨h4,_⟩ | ⟨i,hi,h4,h5,h6⟩
      · exact absurd (h4 kk hkk) (hno S2 h2)
      · rcases Nat.lt_trichotomy i kk with e | e | e
        · exact absurd (htk S2 h2 i e).ok h5
        · subst e
          rw [h2.pl,hw1] at h6
          rw [hw1]
          exact ⟨((_,_),C,E),rfl,h6⟩
        · exact absurd (h4 kk e) (hno S2 h2)
end
theorem SlIs.rowN {α : Type} {e : Enc α} {T : TypeId} {l : List α} {A : Option Addr} {cap n : Nat} {Hl F : HL} (h : SlIs e T l A cap Hl) (hF : ∀ x ∈ Hl,x ∈ F) (hn : l.length = n) : RowL e T F A n l:=hn ▸ h.toRowL hF
theorem around_b {n m k : Int} (e : around n m = k) (hm : 0 < m) (F : HL) : Sp Tryz.prog 12 #[vI n,vI m] [] F (λ u H' => u = vI k /\ H' = []):=e ▸ around_any n m (by omega) F
theorem wrong_b {S : Setup} {A : Option Addr} {n cap : Nat} {xs : List Inp} {F : HL} (hl : RowL inpE 24 F A n xs) (hn : n <= 1000000) (e : n = xs.length) (now : Int) : Sp Tryz.prog 16 #[Setup.v S,vI now,.slice A n cap] [] F (λ u H' => u = vI (wrongE S.players xs.length xs now) /\ H' = []):=e ▸ wrong_any S now A n cap xs F hl hn
theorem len_one (p : Inp) (l : List Inp) : 1 + l.length = ([p] ++ l).length:=by simp [Nat.add_comm]
theorem row_tail {F : HL} {b o N : Nat} {full xs : List Inp} (hI : (b,.rows 3 N (inrow full) 24 (0,0)) ∈ F) (hi : o + xs.length <= N) (hx : ∀ k,k < xs.length -> full.getD (o + k) dI = xs.getD k dI) (h1 : 1 <= xs.length) : SrcIn Tryz.prog inpE F (some ⟨b,o * 3 + 1 * 3,none⟩) (xs.length - 1) (xs.drop 1):=by
 rw [<- Nat.add_mul]
 refine RowL.src inpEOk (by decide) (.rows b (o + 1) N full (0,0) _ _ hI (by omega) (by simp) (λ k hk => ?_))
 show full.getD (o + 1 + k) dI = (xs.drop 1).getD k dI
 rw [show o + 1 + k = o + (1 + k) by omega,hx _ (by omega),List.getD_eq_getElem?_getD,List.getD_eq_getElem?_getD,List.getElem?_drop]
theorem row_tail0 {F : HL} {b o : Nat} {xs : List Inp} (h1 : xs.length = 1) : SrcIn Tryz.prog inpE F (some ⟨b,o * 3,none⟩) (xs.length - 1) (xs.drop 1):=by
 have e : xs.drop 1 = []:=List.eq_nil_of_length_eq_zero (by simp; omega)
 rw [e,h1]
 exact RowL.src inpEOk (by decide) (.zero _)
theorem rwset {l : List Rw} {i : Nat} (h : i < l.length) (p : Rw) : updG (rowE rwE l) i 0 (.slice p.A p.n p.c) = rowE rwE (l.set i p):=by
 funext i' k'
 unfold updG rowE
 by_cases h1 : i' = i
 ·subst h1
  rw [getD_set_same h]
  rcases k' with _ | k'
  ·rw [if_pos ⟨rfl,rfl⟩]; rfl
  ·rw [if_neg (by omega)]
   rcases k' with _ | k' <;> rfl
 ·rw [if_neg (by simp [h1]),getD_set_not (λ e => h1 e.symm)]
theorem RwsIn.set {F : HL} {rs : List Rw} {xss : List (List Inp)} (h : RwsIn F rs xss) {k : Nat} {p : Rw} {xs : List Inp} (hk : k < rs.length) (hp : RwIn F xs p) : RwsIn F (rs.set k p) (xss.set k xs):=by
 have hl:=h.len
 refine ⟨by simp [hl],λ i hi => ?_⟩
 rw [List.length_set] at hi
 by_cases e : k = i
 ·subst e
  rw [getD_set_same hk,getD_set_same (by omega)]
  exact hp
 ·rw [getD_set_not e,getD_set_not e]
  exact h.row i hi
theorem take_drop_get {α : Type} {l r : List α} {o : Nat} (h : (l.drop o).take r.length = r) {k : Nat} (hk : k < r.length) (d : α) : l.getD (o + k) d = r.getD k d:=by
 have h1 : ((l.drop o).take r.length)[k]? = r[k]?:=by rw [h]
 rw [List.getElem?_take,if_pos hk,List.getElem?_drop] at h1
 rw [List.getD_eq_getElem?_getD,List.getD_eq_getElem?_getD,h1]
theorem set_rowL {F : HL} {b o c kk n : Nat} {full rs : List Rw} {p : Rw} (hq : (b,.rows 1 (o + c) (rowE rwE (full.set (o + kk) p)) 44 (0,0)) ∈ F) (hf : full.length = o + c) (hc : rs.length <= c) (hfd : (full.drop o).take rs.length = rs) (hk : kk < rs.length) (hn : rs.length = n) : RowL rwE 44 F (some ⟨b,o * 1,none⟩) n (rs.set kk p):=by
 refine .rows b o (o + c) _ (0,0) n _ hq (by omega) (by simp [hn]) (λ k h => ?_)
 by_cases e : kk = k
 ·subst e
  rw [getD_set_same (by omega),getD_set_same hk]
 ·rw [getD_set_not (by omega),getD_set_not e]
  exact take_drop_get hfd (by omega) _
theorem runs_any (A0 AI : Option Addr) (n0 c0 nI cI : Nat) (xs xI : List Int) (i1 i3 i4 : Int) (p5 : Inp) (F : HL) (hE0 : TabIn F) (hE1 : EffIn F) (hl0 : ArgD F A0 n0 xs) (hn0 : n0 <= 9223372036854775807) (hl2 : ArgD F AI nI xI) (hn2 : nI <= 9223372036854775807) (hi1 : i64r i1) (hi3 : i64r i3) (hi4 : i64r i4) : Sp Tryz.prog 4 #[.slice A0 n0 c0,vI i1,.slice AI nI cI,vI i3,vI i4,.agg #[vI p5.dx,vI p5.dy,vI p5.act]] [] F (λ u H' => u = .bool true /\ H' = []):=by
 refine Sp.run Tryz.func4 rfl mn (A:=[]) (Ts:=[]) rfl λ w0 => ?_
 refine RN.go 9 [] λ n1 => RN.ct (Hp:=[]) (Tp:=[]) [] [] (hl0.up.use λ F_ h_ => setup_ap A0 n0 c0 xs _ h_ hn0) ?_
 rintro _ ⟨S,TS⟩ ⟨rfl,hG⟩
 dsimp only at hG
 have hF:=gfacts hl0 hG
 have hpl:=hF.pl
 have hnb:=hF.nb
 have hrn:=hF.rn
 have hdn:=hF.dn
 have hsz:=hF.sz
 have hil:=iniL_len S S.nb
 have hV : SetV S:=hl0.ex.elim λ _ h_ => setV h_ hG
 refine RN.go 7 (ow 0 16) λ n2 => RN.ct (Hp:=[]) (Tp:=[]) [] [] (bookm_any i1 _ hi1 (ro_ap hE0)) ?_
 rintro _ ⟨b3,T4⟩ ⟨rfl,hB5⟩
 dsimp only at hB5
 have hj : (around i1 5).toNat < 5:=by have:=around_bd (n:=i1) hi1 5 (by decide); omega
 refine RN.go 7 (ow 0 16) λ _ => RN.ct (Hp:=[]) (Tp:=[]) [] [] (started_any S genR (genD (kv xs 3 % 3).toNat) b3 _ (hG.sin _ (in_ap 1) (sub_ap 1)) (hG.maps.2 _ (sub_ap 1)) (by omega) (by omega) (by omega) (by omega) hF.val 1000000 (by decide)) ?_
 rintro _ ⟨g6,S7,T8⟩ ⟨rfl,he9,hg10⟩
 dsimp only at he9 hg10
 refine RN.go 14 [] λ _ => RN.draw [] [] <| RD.go [] [0,1,2] (ow 0 16) <| RD.cp [] 3 (λ X_ => (around_any i3 7 (by decide) _)) ?_
 have hA11:=around_bd (n:=i3) hi3 7 (by decide)
 obtain ⟨cnt,hcnt,hcl⟩ : ∃ cnt : Nat,around i3 7 = (cnt : Int) /\ cnt <= 6:=⟨(around i3 7).toNat,by omega,by omega⟩
 refine RD.one 4 (RDO.ct [] (Hp:=[]) (Tp:=[]) [] [] (hl2.up.use λ F_ h_ => rows_ap S AI nI cI xI (around i3 7) cnt F_ h_ hn2 (by omega) hcnt (by omega)) ?_)
 rintro _ ⟨⟨A12,c13,rs14⟩,E15,T16⟩ ⟨rfl,hs17,hl18,hT19⟩
 dsimp only at hs17 hl18 hT19
 have hgr : ∀ i,i < cnt -> RowOk S.players ((rowsG S.players xI cnt).getD i []):=λ i hi => hl2.ex.elim λ _ h_ => gen_rows h_ (by omega) cnt i hi
 refine RD.go [] [5] [] <| RD.fin <| RN.go 5 [] λ _ => RN.ct [] [2] (play_run genR (genD (kv xs 3 % 3).toNat) S7 b3 g6 cnt c13 ((around i1 5).toNat) 0 A12 rs14 (rowsG S.players xI cnt) ⟨iniL S S.nb,[],0⟩ T4 T8 _ (hg10.weak (by omega)) hj hB5 (sub_ap 2) (ro_ap hE1) (hs17.rowN (sub_ap 0) hl18) (hT19 _ (sub_ap 1)) (λ k hk => by have:=(hgr k hk).1; omega) (by omega) (λ i hi => pl_tk (he9.setV hV) (ini_eq hV he9) _ cnt (by omega) (λ i hi => by rw [he9.pl]; exact hgr i hi) i hi)) ?_
 rintro _ ⟨⟨A20,c21⟩,T22,E23⟩ ⟨hg24,hs25,rfl⟩
 dsimp only at hg24 hs25
 have hT2_:=pl_ok (he9.setV hV) (ini_eq hV he9) (xss:=(rowsG S.players xI cnt)) (around i1 5).toNat cnt (by omega) (λ i hi => by rw [he9.pl]; exact hgr i hi) cnt (Nat.le_refl _)
 have hcsl_ : (plM (rG S7 (around i1 5).toNat (rowsG S.players xI cnt)) ⟨iniL S S.nb,[],0⟩ cnt).cs.length <= 1000000:=by have h1_:=hT2_.len; rw [he9.size] at h1_; omega
 have hesl_ : (plE (rG S7 (around i1 5).toNat (rowsG S.players xI cnt)) ⟨iniL S S.nb,[],0⟩ cnt).length <= 1000000:=by have h1_:=plE_len (rG S7 (around i1 5).toNat (rowsG S.players xI cnt)) ⟨iniL S S.nb,[],0⟩ cnt; omega
 refine RN.go 12 (ow 0 16) λ _ => RN.ct (Hp:=[]) (Tp:=[]) [] [] (run_ok (cap:=c13) (hG.sin _ (in_ap 1) (sub_ap 5)) (hG.maps.2 _ (sub_ap 5)) hV (by omega) (by omega) (by omega) hF.val hj hB5 (sub_ap 4) (ro_ap hE1) (hs17.rowN (sub_ap 2) hl18) (hT19 _ (sub_ap 3)) (by omega) hgr he9) ?_
 rintro _ ⟨⟨q26,A27,c28⟩,E29⟩ ⟨hs30,rfl⟩
 dsimp only at hs30
 refine RN.go 21 [] λ _ => ?_
 obtain ⟨m31,Tm31,Mm31,Sm31,sm31⟩:=gmem_of hg24
 refine RN.cp (sm31 _ (sub_ap 1)) <| RN.ct (Hp:=[]) (Tp:=[]) [] [] (cells_ap m31 (plM (rG S7 (around i1 5).toNat (rowsG S.players xI cnt)) ⟨iniL S S.nb,[],0⟩ cnt) 0 Tm31 _ Mm31 (λ x hx => (sub_ap 1) x (Sm31 x hx))) ?_
 rintro _ q32 rfl
 refine RN.cp (sameI_b true q26 q32 ((plM (rG S7 (around i1 5).toNat (rowsG S.players xI cnt)) ⟨iniL S S.nb,[],0⟩ cnt).cs.length) ((plM (rG S7 (around i1 5).toNat (rowsG S.players xI cnt)) ⟨iniL S S.nb,[],0⟩ cnt).cs.length) ((plM (rG S7 (around i1 5).toNat (rowsG S.players xI cnt)) ⟨iniL S S.nb,[],0⟩ cnt).cs.length) ((plM (rG S7 (around i1 5).toNat (rowsG S.players xI cnt)) ⟨iniL S S.nb,[],0⟩ cnt).cs.length) ((plM (rG S7 (around i1 5).toNat (rowsG S.players xI cnt)) ⟨iniL S S.nb,[],0⟩ cnt).cs.length) ((plM (rG S7 (around i1 5).toNat (rowsG S.players xI cnt)) ⟨iniL S S.nb,[],0⟩ cnt).cs.length) ((plM (rG S7 (around i1 5).toNat (rowsG S.players xI cnt)) ⟨iniL S S.nb,[],0⟩ cnt).cs) ((plM (rG S7 (around i1 5).toNat (rowsG S.players xI cnt)) ⟨iniL S S.nb,[],0⟩ cnt).cs) _ (in_ap 1) (in_ap 0) (Nat.le_refl _) (Nat.le_refl _) hcsl_ (decide_eq_true ⟨rfl,λ t ht => rfl⟩)) <| RN.go 5 [] λ _ => RN.cp (samee_any A27 A20 ((plE (rG S7 (around i1 5).toNat (rowsG S.players xI cnt)) ⟨iniL S S.nb,[],0⟩ cnt).length) c28 c21 (plE (rG S7 (around i1 5).toNat (rowsG S.players xI cnt)) ⟨iniL S S.nb,[],0⟩ cnt) _ (hs30.toRowL (sub_ap 0)) (hs25.toRowL (sub_ap 2)) hesl_) <| RN.go 15 [] λ _ => RN.em ((cnt : Int) > 0) 76 (λ h33 => ?_) λ h33 => ?_
 ·refine RN.go 6 [] λ _ => ?_
  obtain ⟨kk,hkk,hkl⟩ : ∃ kk : Nat,around i4 (cnt : Int) = (kk : Int) /\ kk < cnt:=⟨(around i4 (cnt : Int)).toNat,by have:=around_bd (n:=i4) hi4 (cnt : Int) (by omega); omega,by have:=around_bd (n:=i4) hi4 (cnt : Int) (by omega); omega⟩
  refine RN.cp (around_b hkk (by omega) _) <| RN.go 4 [] λ _ => ?_
  obtain ⟨bR,oR,fR,rfl,rfl,hfl,hrc,hfd⟩:=hs17.resolve_left (λ h_ => by have h1_:=h_.2.2.1; subst h1_; simp at hl18; omega)
  refine RN.ot 3 (x:=(bR,.rows 1 (oR + c13) (rowE rwE fR) 44 (0,0))) ?_
  obtain ⟨bk,ok,Nk,fk,ck,ek,hIk,hik,hxk,hck⟩:=(hT19 T16 (λ x hx => hx)).get (k:=kk) (by omega)
  have hlk_ : (((rowsG S.players xI cnt).getD kk []).length : Int) = S.players:=(hgr kk hkl).1
  have hgk_ : fR.getD (oR + kk) rwE.dflt = rs14.getD kk rwE.dflt:=take_drop_get hfd (by omega) _
  by_cases hce : ck = 1
  ·refine RN.draw [9,11] [] <| RD.goP [] [0,1,2,4,5,6,7] [.own 5,.own 5,.own 5,.ix kk,.row 0 (oR + kk) 0] [(oR * 1 + kk * 1) = (oR + kk) * 1 + 0 /\ (oR + kk) < (oR + c13),(kk : Int) = ((kk : Nat) : Int) /\ kk < cnt] <| RD.sv 88 (congrArg (λ v_ : Rw => Value.slice v_.A v_.n v_.c) (hgk_.trans ek)) <| RD.goP [] [8] [.sl 1 (((rowsG S.players xI cnt).getD kk []).length) true] [1 = ((1 : Nat) : Int) /\ ((rowsG S.players xI cnt).getD kk []).length = ((rowsG S.players xI cnt).getD kk []).length /\ 1 <= ((rowsG S.players xI cnt).getD kk []).length /\ ((rowsG S.players xI cnt).getD kk []).length <= ck /\ ck = 1] <| RD.one 3 (RDO.ev [] [] λ n35 => ?_)
   refine RD.dn 0 (.rows 3 1 (rowE inpE [p5]) 24 (0,0)) <| RD.bt 0 <| RD.one 9 (RDO.appU (c':=(ck - 1)) (tx:=44) [] inpEOk ([p5]) (((rowsG S.players xI cnt).getD kk []).drop 1) 0 rfl (SlIs.one (b:=(n35 + 0))) (by rw [List.length_drop,List.length_singleton]; omega) (row_tail0 (b:=bk) (o:=ok) (by omega)) ?_)
   rintro A36 c37 T38 ⟨hs39,hz40⟩
   refine RD.goP [] [10] [.ix kk] [(kk : Int) = ((kk : Nat) : Int) /\ kk < cnt] <| RD.one 11 (RDO.evP [] [.row 0 (oR + kk) 0] [(oR * 1 + kk * 1) = (oR + kk) * 1 + 0 /\ (oR + kk) < (oR + c13)] λ _ => ?_)
   refine RD.fin <| RN.go 2 [] λ _ => RN.bv 0 (congrArg (λ v_ => (.rows 1 (oR + c13) v_ 44 (0,0) : Blk)) (show (updG (rowE rwE fR) (oR + kk) 0 (.slice A36 (1 + (((rowsG S.players xI cnt).getD kk []).drop 1).length) c37)) = (rowE rwE (fR.set (oR + kk) (⟨A36,(1 + (((rowsG S.players xI cnt).getD kk []).drop 1).length),c37⟩ : Rw))) from (rwset (by omega) (⟨A36,(1 + (((rowsG S.players xI cnt).getD kk []).drop 1).length),c37⟩ : Rw)))) <| RN.go 4 (ow 3 16) λ _ => ?_
   have hxk_ : ((rowsG S.players xI cnt).set kk ([p5] ++ ((rowsG S.players xI cnt).getD kk []).drop 1)).getD kk [] = ([p5] ++ ((rowsG S.players xI cnt).getD kk []).drop 1):=getD_set_same (by rw [rowsG_len]; exact hkl)
   have hxl_ : ((([p5] ++ ((rowsG S.players xI cnt).getD kk []).drop 1)).length : Int) = S.players:=by have h1_:=(hgr kk hkl).1; rw [List.length_append,List.length_drop]; show ((1 + _ : Nat) : Int) = _; omega
   refine RN.ct (Hp:=[]) (Tp:=[]) [] [] (run_bent (cap:=c13) (hG.sin _ (in_ap 4) (sub_ap 6)) (hG.maps.2 _ (sub_ap 6)) hV (by omega) (by omega) (by omega) hF.val hj hB5 (sub_ap 5) (ro_ap hE1) (set_rowL (b:=bR) (in_ap 0) hfl hrc hfd (by omega) hl18) ((hT19 _ (sub_ap 4)).set (by omega) (hs39.rw (sub_ap 0) (by rw [<- len_one]; exact Nat.le_add_right 1 _) (len_one _ _))) (by omega) kk hkl (λ i hi hne => by rw [getD_set_not (λ e => hne e.symm)]; exact hgr i hi) (by rw [hxk_]; exact hxl_) hxk_) ?_
   rintro _ ⟨⟨u41,v42⟩,C43,E44⟩ rfl
   refine RN.go 10 [] λ _ => RN.draw [] [] <| RD.goP [] [0,1,2,3,4,5] (ow 3 16 ++ [.ix kk,.row 0 (oR + kk) 0]) [(oR * 1 + kk * 1) = (oR + kk) * 1 + 0 /\ (oR + kk) < (oR + c13),(kk : Int) = ((kk : Nat) : Int) /\ kk < cnt] <| RD.sv 105 (congrArg (λ v_ : Rw => Value.slice v_.A v_.n v_.c) (getD_set_same (l:=fR) (i:=oR + kk) (x:=(⟨A36,(1 + (((rowsG S.players xI cnt).getD kk []).drop 1).length),c37⟩ : Rw)) (d:=rwE.dflt) (by omega))) <| RD.cp [] 6 (λ X_ => (wrong_b (S:=S) (cap:=c37) (hs39.rowN (sub_apX 2) (len_one _ _).symm) (by rw [List.length_drop]; omega) (len_one _ _) 0)) <| RD.go [] [7] [] <| RD.fin <| RN.go 1 [] λ _ => RN.fx 107 (nt (decide_eq_true (rfl : wrongE S.players ([p5] ++ ((rowsG S.players xI cnt).getD kk []).drop 1).length ([p5] ++ ((rowsG S.players xI cnt).getD kk []).drop 1) 0 = _))) <| RN.go 5 [] λ _ => RN.cp (lives_in (ro_ap hE0)) <| RN.go 3 [] λ _ => ?_
   exact RN.ret [] [] [] ⟨rfl,rfl⟩
  ·refine RN.draw [9,11] [] <| RD.goP [] [0,1,2,4,5,6,7] [.own 5,.own 5,.own 5,.ix kk,.row 0 (oR + kk) 0] [(oR * 1 + kk * 1) = (oR + kk) * 1 + 0 /\ (oR + kk) < (oR + c13),(kk : Int) = ((kk : Nat) : Int) /\ kk < cnt] <| RD.sv 88 (congrArg (λ v_ : Rw => Value.slice v_.A v_.n v_.c) (hgk_.trans ek)) <| RD.goP [] [8] [.sl 1 (((rowsG S.players xI cnt).getD kk []).length) false] [1 = ((1 : Nat) : Int) /\ ((rowsG S.players xI cnt).getD kk []).length = ((rowsG S.players xI cnt).getD kk []).length /\ 1 <= ((rowsG S.players xI cnt).getD kk []).length /\ ((rowsG S.players xI cnt).getD kk []).length <= ck /\ ck ≠ 1] <| RD.one 3 (RDO.ev [] [] λ n46 => ?_)
   refine RD.dn 0 (.rows 3 1 (rowE inpE [p5]) 24 (0,0)) <| RD.bt 0 <| RD.one 9 (RDO.appU (c':=(ck - 1)) (tx:=44) [] inpEOk ([p5]) (((rowsG S.players xI cnt).getD kk []).drop 1) 0 rfl (SlIs.one (b:=(n46 + 0))) (by rw [List.length_drop,List.length_singleton]; omega) (row_tail ((sub_ap 4) _ hIk) hik hxk (by omega)) ?_)
   rintro A47 c48 T49 ⟨hs50,hz51⟩
   refine RD.goP [] [10] [.ix kk] [(kk : Int) = ((kk : Nat) : Int) /\ kk < cnt] <| RD.one 11 (RDO.evP [] [.row 0 (oR + kk) 0] [(oR * 1 + kk * 1) = (oR + kk) * 1 + 0 /\ (oR + kk) < (oR + c13)] λ _ => ?_)
   refine RD.fin <| RN.go 2 [] λ _ => RN.bv 0 (congrArg (λ v_ => (.rows 1 (oR + c13) v_ 44 (0,0) : Blk)) (show (updG (rowE rwE fR) (oR + kk) 0 (.slice A47 (1 + (((rowsG S.players xI cnt).getD kk []).drop 1).length) c48)) = (rowE rwE (fR.set (oR + kk) (⟨A47,(1 + (((rowsG S.players xI cnt).getD kk []).drop 1).length),c48⟩ : Rw))) from (rwset (by omega) (⟨A47,(1 + (((rowsG S.players xI cnt).getD kk []).drop 1).length),c48⟩ : Rw)))) <| RN.go 4 (ow 3 16) λ _ => ?_
   have hxk_ : ((rowsG S.players xI cnt).set kk ([p5] ++ ((rowsG S.players xI cnt).getD kk []).drop 1)).getD kk [] = ([p5] ++ ((rowsG S.players xI cnt).getD kk []).drop 1):=getD_set_same (by rw [rowsG_len]; exact hkl)
   have hxl_ : ((([p5] ++ ((rowsG S.players xI cnt).getD kk []).drop 1)).length : Int) = S.players:=by have h1_:=(hgr kk hkl).1; rw [List.length_append,List.length_drop]; show ((1 + _ : Nat) : Int) = _; omega
   refine RN.ct (Hp:=[]) (Tp:=[]) [] [] (run_bent (cap:=c13) (hG.sin _ (in_ap 4) (sub_ap 6)) (hG.maps.2 _ (sub_ap 6)) hV (by omega) (by omega) (by omega) hF.val hj hB5 (sub_ap 5) (ro_ap hE1) (set_rowL (b:=bR) (in_ap 0) hfl hrc hfd (by omega) hl18) ((hT19 _ (sub_ap 4)).set (by omega) (hs50.rw (sub_ap 0) (by rw [<- len_one]; exact Nat.le_add_right 1 _) (len_one _ _))) (by omega) kk hkl (λ i hi hne => by rw [getD_set_not (λ e => hne e.symm)]; exact hgr i hi) (by rw [hxk_]; exact hxl_) hxk_) ?_
   rintro _ ⟨⟨u52,v53⟩,C54,E55⟩ rfl
   refine RN.go 10 [] λ _ => RN.draw [] [] <| RD.goP [] [0,1,2,3,4,5] (ow 3 16 ++ [.ix kk,.row 0 (oR + kk) 0]) [(oR * 1 + kk * 1) = (oR + kk) * 1 + 0 /\ (oR + kk) < (oR + c13),(kk : Int) = ((kk : Nat) : Int) /\ kk < cnt] <| RD.sv 105 (congrArg (λ v_ : Rw => Value.slice v_.A v_.n v_.c) (getD_set_same (l:=fR) (i:=oR + kk) (x:=(⟨A47,(1 + (((rowsG S.players xI cnt).getD kk []).drop 1).length),c48⟩ : Rw)) (d:=rwE.dflt) (by omega))) <| RD.cp [] 6 (λ X_ => (wrong_b (S:=S) (cap:=c48) (hs50.rowN (sub_apX 2) (len_one _ _).symm) (by rw [List.length_drop]; omega) (len_one _ _) 0)) <| RD.go [] [7] [] <| RD.fin <| RN.go 1 [] λ _ => RN.fx 107 (nt (decide_eq_true (rfl : wrongE S.players ([p5] ++ ((rowsG S.players xI cnt).getD kk []).drop 1).length ([p5] ++ ((rowsG S.players xI cnt).getD kk []).drop 1) 0 = _))) <| RN.go 5 [] λ _ => RN.cp (lives_in (ro_ap hE0)) <| RN.go 3 [] λ _ => ?_
   exact RN.ret [] [] [] ⟨rfl,rfl⟩
 ·refine RN.go 5 [] λ _ => RN.cp (lives_in (ro_ap hE0)) <| RN.go 3 [] λ _ => ?_
  exact RN.ret [] [] [] ⟨rfl,rfl⟩
end Go.Proofs.YtgibcbhfmomfbaaGreatDoor
