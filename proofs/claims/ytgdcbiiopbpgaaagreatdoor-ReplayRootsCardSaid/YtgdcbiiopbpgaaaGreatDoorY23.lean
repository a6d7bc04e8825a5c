import Derived.Test.YtgdcbiiopbpgaaaGreatDoorY22
set_option maxHeartbeats 4000000
set_option maxRecDepth 100000
set_option linter.unusedSimpArgs false
set_option linter.unusedVariables false
namespace Go.Proofs.YtgdcbiiopbpgaaaGreatDoor
open Go.RowKit
def rowN (pl:Int) (xs:List Int) (t:Int) (q:Nat):Int:=if xs.length > 0 then au (xs.getD ((t * pl+(q:Int)) % (xs.length:Int)).toNat 0) 1000000 else 0
def vX (n:Int):Inp:=⟨n % 3 - 1,n / 3 % 3 - 1,if n / 9 % 3=0 then n / 27 % 4 else 0⟩
def ue (pl:Int) (xs:List Int) (t:Int) (q:Nat):Inp:=vX (rowN pl xs t q)
def rowL (pl:Int) (xs:List Int) (t:Int) (n:Nat):List Inp:=(List.range n).map (ue pl xs t)
theorem fj (pl:Int) (xs:List Int) (t:Int) (n:Nat):(rowL pl xs t n).length=n:=by simp [rowL]
theorem og (pl:Int) (xs:List Int) (t:Int) (n:Nat):rowL pl xs t (n+1)=rowL pl xs t n++[ue pl xs t n]:=by simp [rowL,List.range_succ]
theorem EG {pl:Int} {xs:List Int} {t:Int} {n i:Nat} (h:i < n):(rowL pl xs t n).getD i dI=ue pl xs t i:=by simp [rowL,h]
theorem Ic {F:HL} {A:Option Addr} {n:Nat} {xs:List Int} (h:ArgL F A n xs) (pl t:Int) (q:Nat):0 <= rowN pl xs t q /\ rowN pl xs t q < 1000000:=by
 unfold rowN
 split
 ·next hi =>
  rw [h.len] at hi
  have h1:=Int.emod_nonneg (t * pl+(q:Int)) (show (n:Int) ≠ 0 by omega)
  have h2:=Int.emod_lt_of_pos (t * pl+(q:Int)) (show (0:Int) < n by omega)
  rw [h.len]
  obtain ⟨_,_,_,_,_,_,_,_,_,_,hr⟩:=h.at (k:=((t * pl+(q:Int)) % (n:Int)).toNat) (by omega)
  exact cK hr 1000000 (by decide)
 ·omega
theorem Ie (S:Setup) (A:Option Addr) (n cap:Nat) (xs:List Int) (t:Int) (F:HL) (hl:ArgL F A n xs) (hn:n <= 9223372036854775807) (hp:0 <= S.players /\ S.players <= 1000000) (ht:0 <= t /\ t <= 1000000):Sp Tryz.prog 58 #[(Setup.v S),.slice A n cap,vI t] [] F (λ u H'=>∃ x:Option Addr × Nat × HL,H'=ap [] [x.2.2] /\ (u=.slice x.1 S.players.toNat x.2.1 /\ SlIs fI 119 (rowL S.players xs t S.players.toNat) x.1 x.2.1 x.2.2 /\ bU x.1)):=by
 have hm:0 <= t * S.players /\ t * S.players <= 1000000000000:=⟨Int.mul_nonneg ht.1 hp.1,Int.le_trans (Int.mul_le_mul ht.2 hp.2 hp.1 (by decide)) (by decide)⟩
 refine Sp.run Tryz.func58 rfl mn (A:=[]) (Ts:=[]) rfl λ w0=>?_
 refine ae 18 [] λ n1=>RN.nt<|RN.loop (σ:=Nat × Option Addr × Nat × HL) (λ ⟨q,A_,c_,T_⟩=>⟨[(1,.slice A n cap),(2,vI t),(3,vP (n1+0) 0),(7,.slice A_ q c_),(8,vI (q:Int))],[((n1+0),.lit (Setup.l S) 31 (0,0))],[T_],(q:Int) <= S.players /\ SlIs fI 119 (rowL S.players xs t q) A_ c_ T_ /\ bU A_,S.players.toNat - q⟩) (0,none,0,[]) [0] [0] (⟨by show (0:Int) <= _;omega,SlIs.nil _ _,trivial⟩) ?_
 rintro ⟨q,A_,c_,T_⟩ ⟨hi_,hs_,hz_⟩ mt3
 refine ae 9 [.own 0] λ _=>RN.em ((q:Int) < S.players) 14 (λ h4=>?_) λ h4=>?_
 ·refine ae 18 [] λ _=>RN.em ((n:Int) > 0) 19 (λ h5=>?_) λ h5=>?_
  ·refine ai 12 [.own 0,.nw,.nw,.nw] [0 <= (t * S.players)+(q:Int) /\ (0:Int) < (n:Int) /\ (t * S.players)+(q:Int) <= 9223372036854775807,bd ((t * S.players)+(q:Int)),bd (t * S.players)] λ _=>?_
   have hix1:=Int.emod_nonneg (t * S.players+(q:Int)) (show (n:Int) ≠ 0 by omega)
   have hix2:=Int.emod_lt_of_pos (t * S.players+(q:Int)) (show (0:Int) < n by omega)
   obtain ⟨qx6,ox6,Nx6,gx6,tyx6,fzx6,hAx6,hqx6,hox6,hgx6,hrx6⟩:=hl.at (k:=((t * S.players+(q:Int)) % (n:Int)).toNat) (by omega)
   refine aJ 20 (congrArg (λ v_=>(.slice v_ n cap:Value)) hAx6)<|RN.ro (λ _=>(mc hqx6 mn))<|ai 2 [.ix ((((t * S.players)+(q:Int)) % (n:Int)).toNat),.rorow 0 (ox6+((((t * S.players)+(q:Int)) % (n:Int)).toNat)) 0] [(ox6+((((t * S.players)+(q:Int)) % (n:Int)).toNat) * 1)=(ox6+((((t * S.players)+(q:Int)) % (n:Int)).toNat)) * 1+0 /\ (ox6+((((t * S.players)+(q:Int)) % (n:Int)).toNat)) < Nx6,((t * S.players)+(q:Int)) % (n:Int)=(((((t * S.players)+(q:Int)) % (n:Int)).toNat:Nat):Int) /\ (((t * S.players)+(q:Int)) % (n:Int)).toNat < n] λ _=>aJ 31 (congrArg (λ v_=>(v_:Value)) hgx6)<|aj (fW (xs.getD (((t * S.players+(q:Int)) % (n:Int)).toNat) 0) 1000000 (by decide) _) ?_
   have hA7:=cK (n:=xs.getD (((t * S.players+(q:Int)) % (n:Int)).toNat) 0) hrx6 1000000 (by decide)
   refine ae 4 [] λ _=>ai 22 [.nw,.nw,.nw,.nw,.nw,.own 0,.own 0,.own 0,.nw,.nw] [0 <= (au (xs.getD (((t * S.players+(q:Int)) % (n:Int)).toNat) 0) 1000000) / 9 /\ (0:Int) < 3 /\ (au (xs.getD (((t * S.players+(q:Int)) % (n:Int)).toNat) 0) 1000000) / 9 <= 9223372036854775807,0 <= au (xs.getD (((t * S.players+(q:Int)) % (n:Int)).toNat) 0) 1000000 /\ (0:Int) < 9 /\ au (xs.getD (((t * S.players+(q:Int)) % (n:Int)).toNat) 0) 1000000 <= 9223372036854775807,bd ((((au (xs.getD (((t * S.players+(q:Int)) % (n:Int)).toNat) 0) 1000000) / 3) % 3) - 1),0 <= (au (xs.getD (((t * S.players+(q:Int)) % (n:Int)).toNat) 0) 1000000) / 3 /\ (0:Int) < 3 /\ (au (xs.getD (((t * S.players+(q:Int)) % (n:Int)).toNat) 0) 1000000) / 3 <= 9223372036854775807,0 <= au (xs.getD (((t * S.players+(q:Int)) % (n:Int)).toNat) 0) 1000000 /\ (0:Int) < 3 /\ au (xs.getD (((t * S.players+(q:Int)) % (n:Int)).toNat) 0) 1000000 <= 9223372036854775807,bd (((au (xs.getD (((t * S.players+(q:Int)) % (n:Int)).toNat) 0) 1000000) % 3) - 1),0 <= au (xs.getD (((t * S.players+(q:Int)) % (n:Int)).toNat) 0) 1000000 /\ (0:Int) < 3 /\ au (xs.getD (((t * S.players+(q:Int)) % (n:Int)).toNat) 0) 1000000 <= 9223372036854775807] λ n8=>RN.em (((au (xs.getD (((t * S.players+(q:Int)) % (n:Int)).toNat) 0) 1000000) / 9) % 3=0) 44 (λ h9=>?_) λ h9=>?_
   ·refine ai 13 [.nw,.nw,.own 0,.own 0,.own 0,.own 0] [0 <= (au (xs.getD (((t * S.players+(q:Int)) % (n:Int)).toNat) 0) 1000000) / 27 /\ (0:Int) < 4 /\ (au (xs.getD (((t * S.players+(q:Int)) % (n:Int)).toNat) 0) 1000000) / 27 <= 9223372036854775807,0 <= au (xs.getD (((t * S.players+(q:Int)) % (n:Int)).toNat) 0) 1000000 /\ (0:Int) < 27 /\ au (xs.getD (((t * S.players+(q:Int)) % (n:Int)).toNat) 0) 1000000 <= 9223372036854775807] λ n10=>?_
    have he_:ue S.players xs t q=(⟨((au (xs.getD (((t * S.players+(q:Int)) % (n:Int)).toNat) 0) 1000000) % 3) - 1,(((au (xs.getD (((t * S.players+(q:Int)) % (n:Int)).toNat) 0) 1000000) / 3) % 3) - 1,((au (xs.getD (((t * S.players+(q:Int)) % (n:Int)).toNat) 0) 1000000) / 27) % 4⟩:Inp):=by
     unfold ue
     rw [show rowN S.players xs t q=au (xs.getD (((t * S.players+(q:Int)) % (n:Int)).toNat) 0) 1000000 from by unfold rowN;rw [hl.len];rw [if_pos (by omega)]]
     first | rfl | (unfold vX;simp only [if_pos h9])
    refine gD p7 (rowL S.players xs t q) [(⟨((au (xs.getD (((t * S.players+(q:Int)) % (n:Int)).toNat) 0) 1000000) % 3) - 1,(((au (xs.getD (((t * S.players+(q:Int)) % (n:Int)).toNat) 0) 1000000) / 3) % 3) - 1,((au (xs.getD (((t * S.players+(q:Int)) % (n:Int)).toNat) 0) 1000000) / 27) % 4⟩:Inp)] 0 0 (fj _ _ _ _).symm hs_ (by rw [fj];show q+1 <= 100000000;omega) ?_
    rintro A11 c12 T13 ⟨hs14,hz15⟩
    refine ai 9 [.nw] [bd ((q:Int)+1)] λ _=>?_
    have hz2:=hz15 hz_
    refine mt3 (q+1,A11,c12,T13) [2] [0] ?_
    try dsimp only
    refine ⟨⟨by omega,?_,hz2⟩,by omega⟩
    rw [og,he_]
    exact hs14
   ·refine ae 7 [.own 0,.own 0,.own 0] λ n16=>?_
    have he_:ue S.players xs t q=(⟨((au (xs.getD (((t * S.players+(q:Int)) % (n:Int)).toNat) 0) 1000000) % 3) - 1,(((au (xs.getD (((t * S.players+(q:Int)) % (n:Int)).toNat) 0) 1000000) / 3) % 3) - 1,0⟩:Inp):=by
     unfold ue
     rw [show rowN S.players xs t q=au (xs.getD (((t * S.players+(q:Int)) % (n:Int)).toNat) 0) 1000000 from by unfold rowN;rw [hl.len];rw [if_pos (by omega)]]
     first | rfl | (unfold vX;simp only [if_neg h9])
    refine gD p7 (rowL S.players xs t q) [(⟨((au (xs.getD (((t * S.players+(q:Int)) % (n:Int)).toNat) 0) 1000000) % 3) - 1,(((au (xs.getD (((t * S.players+(q:Int)) % (n:Int)).toNat) 0) 1000000) / 3) % 3) - 1,0⟩:Inp)] 0 0 (fj _ _ _ _).symm hs_ (by rw [fj];show q+1 <= 100000000;omega) ?_
    rintro A17 c18 T19 ⟨hs20,hz21⟩
    refine ai 9 [.nw] [bd ((q:Int)+1)] λ _=>?_
    have hz2:=hz21 hz_
    refine mt3 (q+1,A17,c18,T19) [2] [0] ?_
    try dsimp only
    refine ⟨⟨by omega,?_,hz2⟩,by omega⟩
    rw [og,he_]
    exact hs20
  ·refine ae 4 [] λ _=>ae 35 (ow 0 7) λ n22=>?_
   have he_:ue S.players xs t q=(⟨(-1),(-1),0⟩:Inp):=by
    unfold ue
    rw [show rowN S.players xs t q=0 from by unfold rowN;rw [hl.len];rw [if_neg (by omega)]]
    rfl
   refine gD p7 (rowL S.players xs t q) [(⟨(-1),(-1),0⟩:Inp)] 0 0 (fj _ _ _ _).symm hs_ (by rw [fj];show q+1 <= 100000000;omega) ?_
   rintro A23 c24 T25 ⟨hs26,hz27⟩
   refine ai 9 [.nw] [bd ((q:Int)+1)] λ _=>?_
   have hz2:=hz27 hz_
   refine mt3 (q+1,A23,c24,T25) [2] [0] ?_
   try dsimp only
   refine ⟨⟨by omega,?_,hz2⟩,by omega⟩
   rw [og,he_]
   exact hs26
 ·refine ae 12 [] λ _=>RN.ret [] [] [0] (v:=.slice A_ q c_) (H':=(ap [] [T_])) ?_
  have ei:q=S.players.toNat:=by omega
  subst ei
  exact ⟨(A_,c_,T_),rfl,rfl,hs_,hz_⟩
theorem po (a:Addr) (n c:Nat) (xs:List Bod) (F:HL) (hl:SrcIn Tryz.prog kx F (some a) n xs) (hb:n <= 100000000):Sp Tryz.prog 79 #[.slice (some a) n c] [] F (λ u H'=>∃ x:Option Addr × Nat × HL,H'=ap [] [x.2.2] /\ (u=.slice x.1 n x.2.1 /\ ClS kx 78 xs x.1 x.2.1 x.2.2)):=by
 refine Sp.run Tryz.func79 rfl mn (A:=[]) (Ts:=[]) rfl λ w0=>?_
 refine ae 19 [] λ n1=>RN.nt<|i8 (A:=(some ⟨(n1+0),0,none⟩)) (B:=(some a)) (c':=c) tU xs 0 (λ a_ e_=>by cases e_;rfl) (m:=n) (tx:=23) hl.1.1.symm (by rw [hl.1.1];exact hb) (λ e_ he X w hR=>hl.2 c he X w hR) ?_
 rintro A2 c3 T4 hs5
 refine ae 3 [] λ _=>RN.ret [] [] [0] (v:=.slice A2 xs.length c3) (H':=(ap [] [T4])) ?_
 exact ⟨(A2,c3,T4),rfl,by rw [hl.1.1],_,hs5⟩
theorem pp (c:Nat) (F:HL):Sp Tryz.prog 79 #[.slice none 0 c] [] F (λ u H'=>∃ x:Option Addr × Nat × HL,H'=ap [] [x.2.2] /\ (u=.slice x.1 0 x.2.1 /\ ClS kx 78 [] x.1 x.2.1 x.2.2)):=by
 refine Sp.run Tryz.func79 rfl mn (A:=[]) (Ts:=[]) rfl λ w0=>?_
 refine ae 18 [] λ _=>RN.ret [] [] [] (v:=.slice none 0 0) (H':=(ap [] [])) ?_
 exact ⟨(none,0,[]),rfl,rfl,.nil _ _ _⟩
theorem kP (A:Option Addr) (n c:Nat) (xs:List Bod) (F:HL) (hl:SrcIn Tryz.prog kx F A n xs) (hb:n <= 100000000):Sp Tryz.prog 79 #[.slice A n c] (ap [] []) F (λ u H'=>∃ x:Option Addr × Nat × HL,H'=ap [] [x.2.2] /\ (u=.slice x.1 n x.2.1 /\ ClS kx 78 xs x.1 x.2.1 x.2.2)):=by
 cases A with
 | some a=>exact po a n c xs F hl hb
 | none =>
  obtain rfl:n=0:=hl.1.2 rfl
  obtain rfl:xs=[]:=List.eq_nil_of_length_eq_zero hl.1.1
  exact pp c F
theorem qo (a:Addr) (n c:Nat) (xs:List V2) (F:HL) (hl:SrcIn Tryz.prog kO F (some a) n xs) (hb:n <= 100000000):Sp Tryz.prog 80 #[.slice (some a) n c] [] F (λ u H'=>∃ x:Option Addr × Nat × HL,H'=ap [] [x.2.2] /\ (u=.slice x.1 n x.2.1 /\ ClS kO 29 xs x.1 x.2.1 x.2.2)):=by
 refine Sp.run Tryz.func80 rfl mn (A:=[]) (Ts:=[]) rfl λ w0=>?_
 refine ae 19 [] λ n1=>RN.nt<|i8 (A:=(some ⟨(n1+0),0,none⟩)) (B:=(some a)) (c':=c) ym xs 0 (λ a_ e_=>by cases e_;rfl) (m:=n) (tx:=71) hl.1.1.symm (by rw [hl.1.1];exact hb) (λ e_ he X w hR=>hl.2 c he X w hR) ?_
 rintro A2 c3 T4 hs5
 refine ae 3 [] λ _=>RN.ret [] [] [0] (v:=.slice A2 xs.length c3) (H':=(ap [] [T4])) ?_
 exact ⟨(A2,c3,T4),rfl,by rw [hl.1.1],_,hs5⟩
theorem qp (c:Nat) (F:HL):Sp Tryz.prog 80 #[.slice none 0 c] [] F (λ u H'=>∃ x:Option Addr × Nat × HL,H'=ap [] [x.2.2] /\ (u=.slice x.1 0 x.2.1 /\ ClS kO 29 [] x.1 x.2.1 x.2.2)):=by
 refine Sp.run Tryz.func80 rfl mn (A:=[]) (Ts:=[]) rfl λ w0=>?_
 refine ae 18 [] λ _=>RN.ret [] [] [] (v:=.slice none 0 0) (H':=(ap [] [])) ?_
 exact ⟨(none,0,[]),rfl,rfl,.nil _ _ _⟩
theorem lW (A:Option Addr) (n c:Nat) (xs:List V2) (F:HL) (hl:SrcIn Tryz.prog kO F A n xs) (hb:n <= 100000000):Sp Tryz.prog 80 #[.slice A n c] (ap [] []) F (λ u H'=>∃ x:Option Addr × Nat × HL,H'=ap [] [x.2.2] /\ (u=.slice x.1 n x.2.1 /\ ClS kO 29 xs x.1 x.2.1 x.2.2)):=by
 cases A with
 | some a=>exact qo a n c xs F hl hb
 | none =>
  obtain rfl:n=0:=hl.1.2 rfl
  obtain rfl:xs=[]:=List.eq_nil_of_length_eq_zero hl.1.1
  exact qp c F
theorem qr (a:Addr) (n c:Nat) (xs:List Bx) (F:HL) (hl:SrcIn Tryz.prog vU F (some a) n xs) (hb:n <= 100000000):Sp Tryz.prog 81 #[.slice (some a) n c] [] F (λ u H'=>∃ x:Option Addr × Nat × HL,H'=ap [] [x.2.2] /\ (u=.slice x.1 n x.2.1 /\ ClS vU 25 xs x.1 x.2.1 x.2.2)):=by
 refine Sp.run Tryz.func81 rfl mn (A:=[]) (Ts:=[]) rfl λ w0=>?_
 refine ae 19 [] λ n1=>RN.nt<|i8 (A:=(some ⟨(n1+0),0,none⟩)) (B:=(some a)) (c':=c) ED xs 0 (λ a_ e_=>by cases e_;rfl) (m:=n) (tx:=26) hl.1.1.symm (by rw [hl.1.1];exact hb) (λ e_ he X w hR=>hl.2 c he X w hR) ?_
 rintro A2 c3 T4 hs5
 refine ae 3 [] λ _=>RN.ret [] [] [0] (v:=.slice A2 xs.length c3) (H':=(ap [] [T4])) ?_
 exact ⟨(A2,c3,T4),rfl,by rw [hl.1.1],_,hs5⟩
theorem qs (c:Nat) (F:HL):Sp Tryz.prog 81 #[.slice none 0 c] [] F (λ u H'=>∃ x:Option Addr × Nat × HL,H'=ap [] [x.2.2] /\ (u=.slice x.1 0 x.2.1 /\ ClS vU 25 [] x.1 x.2.1 x.2.2)):=by
 refine Sp.run Tryz.func81 rfl mn (A:=[]) (Ts:=[]) rfl λ w0=>?_
 refine ae 18 [] λ _=>RN.ret [] [] [] (v:=.slice none 0 0) (H':=(ap [] [])) ?_
 exact ⟨(none,0,[]),rfl,rfl,.nil _ _ _⟩
theorem lX (A:Option Addr) (n c:Nat) (xs:List Bx) (F:HL) (hl:SrcIn Tryz.prog vU F A n xs) (hb:n <= 100000000):Sp Tryz.prog 81 #[.slice A n c] (ap [] []) F (λ u H'=>∃ x:Option Addr × Nat × HL,H'=ap [] [x.2.2] /\ (u=.slice x.1 n x.2.1 /\ ClS vU 25 xs x.1 x.2.1 x.2.2)):=by
 cases A with
 | some a=>exact qr a n c xs F hl hb
 | none =>
  obtain rfl:n=0:=hl.1.2 rfl
  obtain rfl:xs=[]:=List.eq_nil_of_length_eq_zero hl.1.1
  exact qs c F
theorem pq (a:Addr) (n c:Nat) (xs:List Dr) (F:HL) (hl:SrcIn Tryz.prog my F (some a) n xs) (hb:n <= 100000000):Sp Tryz.prog 82 #[.slice (some a) n c] [] F (λ u H'=>∃ x:Option Addr × Nat × HL,H'=ap [] [x.2.2] /\ (u=.slice x.1 n x.2.1 /\ ClS my 69 xs x.1 x.2.1 x.2.2)):=by
 refine Sp.run Tryz.func82 rfl mn (A:=[]) (Ts:=[]) rfl λ w0=>?_
 refine ae 19 [] λ n1=>RN.nt<|i8 (A:=(some ⟨(n1+0),0,none⟩)) (B:=(some a)) (c':=c) EE xs 0 (λ a_ e_=>by cases e_;rfl) (m:=n) (tx:=27) hl.1.1.symm (by rw [hl.1.1];exact hb) (λ e_ he X w hR=>hl.2 c he X w hR) ?_
 rintro A2 c3 T4 hs5
 refine ae 3 [] λ _=>RN.ret [] [] [0] (v:=.slice A2 xs.length c3) (H':=(ap [] [T4])) ?_
 exact ⟨(A2,c3,T4),rfl,by rw [hl.1.1],_,hs5⟩
theorem pr (c:Nat) (F:HL):Sp Tryz.prog 82 #[.slice none 0 c] [] F (λ u H'=>∃ x:Option Addr × Nat × HL,H'=ap [] [x.2.2] /\ (u=.slice x.1 0 x.2.1 /\ ClS my 69 [] x.1 x.2.1 x.2.2)):=by
 refine Sp.run Tryz.func82 rfl mn (A:=[]) (Ts:=[]) rfl λ w0=>?_
 refine ae 18 [] λ _=>RN.ret [] [] [] (v:=.slice none 0 0) (H':=(ap [] [])) ?_
 exact ⟨(none,0,[]),rfl,rfl,.nil _ _ _⟩
theorem kQ (A:Option Addr) (n c:Nat) (xs:List Dr) (F:HL) (hl:SrcIn Tryz.prog my F A n xs) (hb:n <= 100000000):Sp Tryz.prog 82 #[.slice A n c] (ap [] []) F (λ u H'=>∃ x:Option Addr × Nat × HL,H'=ap [] [x.2.2] /\ (u=.slice x.1 n x.2.1 /\ ClS my 69 xs x.1 x.2.1 x.2.2)):=by
 cases A with
 | some a=>exact pq a n c xs F hl hb
 | none =>
  obtain rfl:n=0:=hl.1.2 rfl
  obtain rfl:xs=[]:=List.eq_nil_of_length_eq_zero hl.1.1
  exact pr c F
theorem qt (a:Addr) (n c:Nat) (xs:List Ins) (F:HL) (hl:SrcIn Tryz.prog gR F (some a) n xs) (hb:n <= 100000000):Sp Tryz.prog 147 #[.slice (some a) n c] [] F (λ u H'=>∃ x:Option Addr × Nat × HL,H'=ap [] [x.2.2] /\ (u=.slice x.1 n x.2.1 /\ ClS gR 155 xs x.1 x.2.1 x.2.2)):=by
 refine Sp.run Tryz.func147 rfl mn (A:=[]) (Ts:=[]) rfl λ w0=>?_
 refine ae 19 [] λ n1=>RN.nt<|i8 (A:=(some ⟨(n1+0),0,none⟩)) (B:=(some a)) (c':=c) DN xs 0 (λ a_ e_=>by cases e_;rfl) (m:=n) (tx:=106) hl.1.1.symm (by rw [hl.1.1];exact hb) (λ e_ he X w hR=>hl.2 c he X w hR) ?_
 rintro A2 c3 T4 hs5
 refine ae 3 [] λ _=>RN.ret [] [] [0] (v:=.slice A2 xs.length c3) (H':=(ap [] [T4])) ?_
 exact ⟨(A2,c3,T4),rfl,by rw [hl.1.1],_,hs5⟩
theorem qu (c:Nat) (F:HL):Sp Tryz.prog 147 #[.slice none 0 c] [] F (λ u H'=>∃ x:Option Addr × Nat × HL,H'=ap [] [x.2.2] /\ (u=.slice x.1 0 x.2.1 /\ ClS gR 155 [] x.1 x.2.1 x.2.2)):=by
 refine Sp.run Tryz.func147 rfl mn (A:=[]) (Ts:=[]) rfl λ w0=>?_
 refine ae 18 [] λ _=>RN.ret [] [] [] (v:=.slice none 0 0) (H':=(ap [] [])) ?_
 exact ⟨(none,0,[]),rfl,rfl,.nil _ _ _⟩
theorem lY (A:Option Addr) (n c:Nat) (xs:List Ins) (F:HL) (hl:SrcIn Tryz.prog gR F A n xs) (hb:n <= 100000000):Sp Tryz.prog 147 #[.slice A n c] (ap [] []) F (λ u H'=>∃ x:Option Addr × Nat × HL,H'=ap [] [x.2.2] /\ (u=.slice x.1 n x.2.1 /\ ClS gR 155 xs x.1 x.2.1 x.2.2)):=by
 cases A with
 | some a=>exact qt a n c xs F hl hb
 | none =>
  obtain rfl:n=0:=hl.1.2 rfl
  obtain rfl:xs=[]:=List.eq_nil_of_length_eq_zero hl.1.1
  exact qu c F
theorem oh (a:Addr) (n c:Nat) (xs:List Inp) (F:HL) (hl:SrcIn Tryz.prog fI F (some a) n xs) (hb:n <= 100000000):Sp Tryz.prog 51 #[.slice (some a) n c] [] F (λ u H'=>∃ x:Option Addr × Nat × HL,H'=ap [] [x.2.2] /\ (u=.slice x.1 n x.2.1 /\ ClS fI 119 xs x.1 x.2.1 x.2.2)):=by
 refine Sp.run Tryz.func51 rfl mn (A:=[]) (Ts:=[]) rfl λ w0=>?_
 refine ae 19 [] λ n1=>RN.nt<|i8 (A:=(some ⟨(n1+0),0,none⟩)) (B:=(some a)) (c':=c) p7 xs 0 (λ a_ e_=>by cases e_;rfl) (m:=n) (tx:=54) hl.1.1.symm (by rw [hl.1.1];exact hb) (λ e_ he X w hR=>hl.2 c he X w hR) ?_
 rintro A2 c3 T4 hs5
 refine ae 3 [] λ _=>RN.ret [] [] [0] (v:=.slice A2 xs.length c3) (H':=(ap [] [T4])) ?_
 exact ⟨(A2,c3,T4),rfl,by rw [hl.1.1],_,hs5⟩
theorem ol (c:Nat) (F:HL):Sp Tryz.prog 51 #[.slice none 0 c] [] F (λ u H'=>∃ x:Option Addr × Nat × HL,H'=ap [] [x.2.2] /\ (u=.slice x.1 0 x.2.1 /\ ClS fI 119 [] x.1 x.2.1 x.2.2)):=by
 refine Sp.run Tryz.func51 rfl mn (A:=[]) (Ts:=[]) rfl λ w0=>?_
 refine ae 18 [] λ _=>RN.ret [] [] [] (v:=.slice none 0 0) (H':=(ap [] [])) ?_
 exact ⟨(none,0,[]),rfl,rfl,.nil _ _ _⟩
theorem pv (A:Option Addr) (n c:Nat) (xs:List Inp) (F:HL) (hl:SrcIn Tryz.prog fI F A n xs) (hb:n <= 100000000):Sp Tryz.prog 51 #[.slice A n c] (ap [] []) F (λ u H'=>∃ x:Option Addr × Nat × HL,H'=ap [] [x.2.2] /\ (u=.slice x.1 n x.2.1 /\ ClS fI 119 xs x.1 x.2.1 x.2.2)):=by
 cases A with
 | some a=>exact oh a n c xs F hl hb
 | none =>
  obtain rfl:n=0:=hl.1.2 rfl
  obtain rfl:xs=[]:=List.eq_nil_of_length_eq_zero hl.1.1
  exact ol c F
def ew (lo hi:Int) (ns:List Int):Prop:=∀ k,k < ns.length -> lo <= ns.getD k 0 /\ ns.getD k 0 <= hi
instance (lo hi:Int) (ns:List Int):Decidable (ew lo hi ns):=inferInstanceAs (Decidable (∀ k,k < ns.length -> _))
theorem vY (lo hi:Int):ew lo hi []:=λ k hk=>absurd hk (Nat.not_lt_zero _)
theorem sI {lo hi x:Int} {ns:List Int}:ew lo hi (x :: ns) ↔ (lo <= x /\ x <= hi) /\ ew lo hi ns:=by
 constructor
 ·intro h
  exact ⟨h 0 (Nat.succ_pos _),λ k hk=>h (k+1) (Nat.succ_lt_succ hk)⟩
 ·rintro ⟨h1,h2⟩ k hk
  cases k with
  | zero=>exact h1
  | succ k=>exact h2 k (Nat.lt_of_succ_lt_succ hk)
theorem ep (lo hi:Int) (ns:List Int) (q:Nat) (F:HL) (hq:(q,.rows 1 ns.length (aK ns) 3 (0,0)) ∈ F) (hn:ns.length <= 1000000):Sp Tryz.prog 120 #[vI lo,vI hi,vS q 0 ns.length ns.length] [] F (λ u H'=>u=.bool (decide (ew lo hi ns)) /\ H'=[]):=by
 refine Sp.run Tryz.func120 rfl (mc hq mn) (A:=[]) (Ts:=[]) rfl λ w0=>?_
 refine ae 14 [] λ _=>RN.loop (σ:=Nat) (λ k=>⟨[(0,vI lo),(1,vI hi),(9,vS q 0 ns.length ns.length),(10,vI (ns.length:Int)),(11,vI (k:Int))],[],[],k <= ns.length /\ ∀ t,t < k -> lo <= ns.getD t 0 /\ ns.getD t 0 <= hi,ns.length - k⟩) 0 [] [] (⟨Nat.zero_le _,λ t ht=>absurd ht (Nat.not_lt_zero _)⟩) ?_
 rintro k ⟨hkl,hwk⟩ mt2
 refine ae 6 [] λ _=>RN.em ((k:Int) < (ns.length:Int)) 12 (λ h3=>?_) λ h3=>?_
 ·refine ai 18 [.ix k,.rorow 0 k 0] [(0+k * 1)=k * 1+0 /\ k < ns.length,(k:Int)=((k:Nat):Int) /\ k < ns.length] λ _=>RN.em (ns.getD k 0 < lo) 18 (λ h4=>?_) λ h4=>?_
  ·refine ae 12 [] λ _=>RN.ret [] [] [] (v:=.bool false) (H':=[]) ?_
   exact ⟨by rw [decide_eq_false (show ¬ ew lo hi ns from λ h_=>by have:=h_ k (by omega);omega)],rfl⟩
  ·refine ae 6 [] λ _=>RN.em (ns.getD k 0 > hi) 22 (λ h5=>?_) λ h5=>?_
   ·refine ae 6 [] λ _=>RN.ret [] [] [] (v:=.bool false) (H':=[]) ?_
    exact ⟨by rw [decide_eq_false (show ¬ ew lo hi ns from λ h_=>by have:=h_ k (by omega);omega)],rfl⟩
   ·refine ai 8 [.nw] [bd ((k:Int)+1)] λ _=>?_
    refine mt2 (k+1) [] [] ?_
    try dsimp only
    refine ⟨⟨by omega,λ t ht=>?_⟩,by omega⟩
    rcases Nat.lt_or_ge t k with h_ | h_
    ·exact hwk t h_
    ·obtain rfl:t=k:=by omega
     exact ⟨by omega,by omega⟩
 ·refine ae 11 [] λ _=>RN.ret [] [] [] (v:=.bool true) (H':=[]) ?_
  exact ⟨by rw [decide_eq_true (show ew lo hi ns from λ t ht=>hwk t (by omega))],rfl⟩
def gh (b:Bx):Prop:=(b.x0 <= b.x1 /\ b.y0 <= b.y1) /\ ew (-1048576) 1048576 [b.x0,b.y0,b.x1,b.y1]
instance (b:Bx):Decidable (gh b):=inferInstanceAs (Decidable (_ /\ _))
def fg (b:Bod) (x:Bx):Prop:=ew 0 4096 [b.mot.inv] /\ ew (-16384) 16384 [b.mot.vx,b.mot.vy] /\ ew x.x0 x.x1 [b.mot.px] /\ ew x.y0 x.y1 [b.mot.py] /\ ew (-2147483647) 2147483647 [b.a,b.b]
instance (b:Bod) (x:Bx):Decidable (fg b x):=inferInstanceAs (Decidable (_ /\ _))
def i9 (S:Setup):Prop:=ew 1 8 [S.players] /\ ew S.players 24 [(S.nb:Int)] /\ ew 0 4194304 [S.fog] /\ ew (-16384) 16384 [S.g.x,S.g.y] /\ ew 0 16384 [S.push] /\ ew 0 1024 [S.drag,S.rest] /\ ew 1 4 [S.rounds] /\ ew 0 1000 [S.fuel]
instance (S:Setup):Decidable (i9 S):=inferInstanceAs (Decidable (_ /\ _))
theorem qx (b:Bx)  (F:HL):Sp Tryz.prog 95 #[.agg #[vI b.x0,vI b.y0,vI b.x1,vI b.y1]] [] F (λ u H'=>u=.bool (decide (gh b)) /\ H'=[]):=by
 refine Sp.run Tryz.func95 rfl mn (A:=[]) (Ts:=[]) rfl λ w0=>?_
 refine ae 14 [.own 0,.own 0] λ n1=>RN.em (b.x0 <= b.x1) 8 (λ h2=>?_) λ h2=>?_
 ·refine ae 7 [.own 0,.own 0] λ _=>RN.em (b.y0 <= b.y1) 15 (λ h3=>?_) λ h3=>?_
  ·refine ae 9 [.own 0,.own 0,.own 0,.own 0] λ n4=>RN.dn 0 (.rows 1 4 (aK [b.x0,b.y0,b.x1,b.y1]) 3 (0,0))<|aj (ep (-1048576) 1048576 [b.x0,b.y0,b.x1,b.y1] (n4+0) _ (aB 0) (Nat.le_of_ble_eq_true rfl))<|ae 4 [] λ _=>RN.ret [] [] [] (v:=.bool (decide (ew (-1048576) 1048576 [b.x0,b.y0,b.x1,b.y1]))) (H':=[]) ?_
   exact ⟨by simp [gh, *],rfl⟩
  ·refine ae 14 [] λ _=>RN.ret [] [] [] (v:=.bool false) (H':=[]) ?_
   exact ⟨by simp [gh, *],rfl⟩
 ·refine ae 21 [] λ _=>RN.ret [] [] [] (v:=.bool false) (H':=[]) ?_
  exact ⟨by simp [gh, *],rfl⟩
theorem Ca (b:Bod) (x:Bx) (F:HL):Sp Tryz.prog 97 #[.agg #[vI b.sh.r,.slice b.sh.A b.sh.poly.length b.sh.cap,vI b.mot.px,vI b.mot.py,vI b.mot.vx,vI b.mot.vy,vI b.mot.inv,vI b.a,vI b.b],.agg #[vI x.x0,vI x.y0,vI x.x1,vI x.y1]] [] F (λ u H'=>u=.bool (decide (fg b x)) /\ H'=[]):=by
 refine Sp.run Tryz.func97 rfl mn (A:=[]) (Ts:=[]) rfl λ w0=>?_
 refine ae 20 (ow 1 5++ow 0 6) λ n1=>RN.dn 0 (.rows 1 1 (aK [b.mot.inv]) 3 (0,0))<|aj (ep 0 4096 [b.mot.inv] (n1+3) _ (aB 0) (Nat.le_of_ble_eq_true rfl))<|ae 1 [] λ _=>RN.em (ew 0 4096 [b.mot.inv]) 12 (λ h2=>?_) λ h2=>?_
 ·refine ae 7 [.own 1,.own 1] λ n3=>RN.dn 0 (.rows 1 2 (aK [b.mot.vx,b.mot.vy]) 3 (0,0))<|aj (ep (-16384) 16384 [b.mot.vx,b.mot.vy] (n3+0) _ (aB 0) (Nat.le_of_ble_eq_true rfl))<|ae 2 [] λ _=>RN.em (ew (-16384) 16384 [b.mot.vx,b.mot.vy]) 22 (λ h4=>?_) λ h4=>?_
  ·refine ae 8 [.own 3,.own 3,.own 2] λ n5=>RN.dn 0 (.rows 1 1 (aK [b.mot.px]) 3 (0,0))<|aj (ep x.x0 x.x1 [b.mot.px] (n5+0) _ (aB 0) (Nat.le_of_ble_eq_true rfl))<|ae 2 [] λ _=>RN.em (ew x.x0 x.x1 [b.mot.px]) 33 (λ h6=>?_) λ h6=>?_
   ·refine ae 8 [.own 4,.own 4,.own 3] λ n7=>RN.dn 0 (.rows 1 1 (aK [b.mot.py]) 3 (0,0))<|aj (ep x.y0 x.y1 [b.mot.py] (n7+0) _ (aB 0) (Nat.le_of_ble_eq_true rfl))<|ae 2 [] λ _=>RN.em (ew x.y0 x.y1 [b.mot.py]) 44 (λ h8=>?_) λ h8=>?_
    ·refine ae 5 [.own 6,.own 6] λ n9=>RN.dn 0 (.rows 1 2 (aK [b.a,b.b]) 3 (0,0))<|aj (ep (-2147483647) 2147483647 [b.a,b.b] (n9+0) _ (aB 0) (Nat.le_of_ble_eq_true rfl))<|ae 4 [] λ _=>RN.ret [] [] [] (v:=.bool (decide (ew (-2147483647) 2147483647 [b.a,b.b]))) (H':=[]) ?_
     exact ⟨by simp [fg, *],rfl⟩
    ·refine ae 10 [] λ _=>RN.ret [] [] [] (v:=.bool false) (H':=[]) ?_
     exact ⟨by simp [fg, *],rfl⟩
   ·refine ae 21 [] λ _=>RN.ret [] [] [] (v:=.bool false) (H':=[]) ?_
    exact ⟨by simp [fg, *],rfl⟩
  ·refine ae 32 [] λ _=>RN.ret [] [] [] (v:=.bool false) (H':=[]) ?_
   exact ⟨by simp [fg, *],rfl⟩
 ·refine ae 42 [] λ _=>RN.ret [] [] [] (v:=.bool false) (H':=[]) ?_
  exact ⟨by simp [fg, *],rfl⟩
theorem EH (S:Setup) (F:HL):Sp Tryz.prog 94 #[(Setup.v S)] [] F (λ u H'=>u=.bool (decide (i9 S)) /\ H'=[]):=by
 refine Sp.run Tryz.func94 rfl mn (A:=[]) (Ts:=[]) rfl λ w0=>?_
 refine ae 11 [.own 0] λ n1=>RN.dn 0 (.rows 1 1 (aK [S.players]) 3 (0,0))<|aj (ep 1 8 [S.players] (n1+1) _ (aB 0) (Nat.le_of_ble_eq_true rfl))<|ae 1 [] λ _=>RN.em (ew 1 8 [S.players]) 7 (λ h2=>?_) λ h2=>?_
 ·refine ae 6 [.own 1,.own 1] λ n3=>RN.dn 0 (.rows 1 1 (aK [(S.nb:Int)]) 3 (0,0))<|aj (ep S.players 24 [(S.nb:Int)] (n3+0) _ (aB 0) (Nat.le_of_ble_eq_true rfl))<|ae 2 [] λ _=>RN.em (ew S.players 24 [(S.nb:Int)]) 16 (λ h4=>?_) λ h4=>?_
  ·refine ae 3 [.own 2] λ n5=>RN.dn 0 (.rows 1 1 (aK [S.fog]) 3 (0,0))<|aj (ep 0 4194304 [S.fog] (n5+0) _ (aB 0) (Nat.le_of_ble_eq_true rfl))<|ae 2 [] λ _=>RN.em (ew 0 4194304 [S.fog]) 22 (λ h6=>?_) λ h6=>?_
   ·refine ae 7 [.own 3,.own 3] λ n7=>RN.dn 0 (.rows 1 2 (aK [S.g.x,S.g.y]) 3 (0,0))<|aj (ep (-16384) 16384 [S.g.x,S.g.y] (n7+0) _ (aB 0) (Nat.le_of_ble_eq_true rfl))<|ae 2 [] λ _=>RN.em (ew (-16384) 16384 [S.g.x,S.g.y]) 32 (λ h8=>?_) λ h8=>?_
    ·refine ae 3 [.own 4] λ n9=>RN.dn 0 (.rows 1 1 (aK [S.push]) 3 (0,0))<|aj (ep 0 16384 [S.push] (n9+0) _ (aB 0) (Nat.le_of_ble_eq_true rfl))<|ae 2 [] λ _=>RN.em (ew 0 16384 [S.push]) 38 (λ h10=>?_) λ h10=>?_
     ·refine ae 5 [.own 5,.own 5] λ n11=>RN.dn 0 (.rows 1 2 (aK [S.drag,S.rest]) 3 (0,0))<|aj (ep 0 1024 [S.drag,S.rest] (n11+0) _ (aB 0) (Nat.le_of_ble_eq_true rfl))<|ae 2 [] λ _=>RN.em (ew 0 1024 [S.drag,S.rest]) 46 (λ h12=>?_) λ h12=>?_
      ·refine ae 3 [.own 6] λ n13=>RN.dn 0 (.rows 1 1 (aK [S.rounds]) 3 (0,0))<|aj (ep 1 4 [S.rounds] (n13+0) _ (aB 0) (Nat.le_of_ble_eq_true rfl))<|ae 2 [] λ _=>RN.em (ew 1 4 [S.rounds]) 52 (λ h14=>?_) λ h14=>?_
       ·refine ae 3 [.own 7] λ n15=>RN.dn 0 (.rows 1 1 (aK [S.fuel]) 3 (0,0))<|aj (ep 0 1000 [S.fuel] (n15+0) _ (aB 0) (Nat.le_of_ble_eq_true rfl))<|ae 4 [] λ _=>RN.ret [] [] [] (v:=.bool (decide (ew 0 1000 [S.fuel]))) (H':=[]) ?_
        exact ⟨by simp [i9, *],rfl⟩
       ·refine ae 8 [] λ _=>RN.ret [] [] [] (v:=.bool false) (H':=[]) ?_
        exact ⟨by simp [i9, *],rfl⟩
      ·refine ae 14 [] λ _=>RN.ret [] [] [] (v:=.bool false) (H':=[]) ?_
       exact ⟨by simp [i9, *],rfl⟩
     ·refine ae 22 [] λ _=>RN.ret [] [] [] (v:=.bool false) (H':=[]) ?_
      exact ⟨by simp [i9, *],rfl⟩
    ·refine ae 28 [] λ _=>RN.ret [] [] [] (v:=.bool false) (H':=[]) ?_
     exact ⟨by simp [i9, *],rfl⟩
   ·refine ae 38 [] λ _=>RN.ret [] [] [] (v:=.bool false) (H':=[]) ?_
    exact ⟨by simp [i9, *],rfl⟩
  ·refine ae 44 [] λ _=>RN.ret [] [] [] (v:=.bool false) (H':=[]) ?_
   exact ⟨by simp [i9, *],rfl⟩
 ·refine ae 53 [] λ _=>RN.ret [] [] [] (v:=.bool false) (H':=[]) ?_
  exact ⟨by simp [i9, *],rfl⟩
def qy (n:Nat) (d:Dr):Prop:=ew 0 ((n:Int) - 1) [d.a,d.b] /\ ¬ d.a=d.b
instance (n:Nat) (d:Dr):Decidable (qy n d):=inferInstanceAs (Decidable (_ /\ _))
def kR (S:Setup) (rs:List Bx) (ds:List Dr):Prop:=((S.rn:Int) <= 8 /\ (S.dn:Int) <= 16) /\ (∀ k,k < S.rn -> gh (rs.getD k vU.dflt)) /\ ∀ k,k < S.dn -> qy S.rn (ds.getD k my.dflt)
instance (S:Setup) (rs:List Bx) (ds:List Dr):Decidable (kR S rs ds):=inferInstanceAs (Decidable (_ /\ _ /\ _))
theorem EI (S:Setup) (rs:List Bx) (ds:List Dr) (F:HL) (hM:MapIn F S rs ds):Sp Tryz.prog 96 #[(Setup.v S)] [] F (λ u H'=>u=.bool (decide (kR S rs ds)) /\ H'=[]):=by
 refine Sp.run Tryz.func96 rfl mn (A:=[]) (Ts:=[]) rfl λ w0=>?_
 refine ae 14 [.own 0] λ n1=>RN.em ((S.rn:Int) > 8) 11 (λ h2=>?_) λ h2=>?_
 ·refine ae 13 [] λ _=>RN.ret [] [] [] (v:=.bool false) (H':=[]) ?_
  exact ⟨by rw [decide_eq_false (show ¬ kR S rs ds from λ h_=>by have:=h_.1;omega)],rfl⟩
 ·refine ae 7 [.own 0] λ _=>RN.em ((S.dn:Int) > 16) 16 (λ h3=>?_) λ h3=>?_
  ·refine ae 6 [] λ _=>RN.ret [] [] [] (v:=.bool false) (H':=[]) ?_
   exact ⟨by rw [decide_eq_false (show ¬ kR S rs ds from λ h_=>by have:=h_.1;omega)],rfl⟩
  ·refine ae 13 [.own 0] λ _=>RN.loop (σ:=Nat) (λ k=>⟨[(1,vP (n1+0) 0),(18,.slice S.rA S.rn S.rc),(19,vI (S.rn:Int)),(20,vI (k:Int))],[((n1+0),.lit (Setup.l S) 31 (0,0))],[],k <= S.rn /\ ∀ t,t < k -> gh (rs.getD t vU.dflt),S.rn - k⟩) 0 [0] [] (⟨Nat.zero_le _,λ t ht=>absurd ht (Nat.not_lt_zero _)⟩) ?_
   rintro k ⟨hkl,hr1⟩ mt5
   refine ae 6 [] λ _=>RN.em ((k:Int) < (S.rn:Int)) 21 (λ h6=>?_) λ h6=>?_
   ·refine ae 7 [] λ _=>?_
    obtain ⟨qx7,ox7,Nx7,fx7,fzx7,hAx7,hqx7,hox7,hgx7⟩:=hM.rooms.at (k:=k) (by omega)
    refine aJ 18 (congrArg (λ v_=>(.slice v_ S.rn S.rc:Value)) hAx7)<|RN.ro (λ _=>(mc hqx7 mn))<|ai 2 [.ix k,.rorow 0 (ox7+k) 0,.rorow 0 (ox7+k) 1,.rorow 0 (ox7+k) 2,.rorow 0 (ox7+k) 3] [((ox7 * 4+k * 4)+3)=(ox7+k) * 4+3 /\ (ox7+k) < Nx7,((ox7 * 4+k * 4)+2)=(ox7+k) * 4+2 /\ (ox7+k) < Nx7,((ox7 * 4+k * 4)+1)=(ox7+k) * 4+1 /\ (ox7+k) < Nx7,(ox7 * 4+k * 4)=(ox7+k) * 4+0 /\ (ox7+k) < Nx7,(k:Int)=((k:Nat):Int) /\ k < S.rn] λ _=>aJ 23 (congrArg (λ v_=>(.agg #[vI v_.x0,vI v_.y0,vI v_.x1,vI v_.y1]:Value)) hgx7)<|ae 7 (ow 0 8) λ n8=>aj (qx (rs.getD k vU.dflt)  _)<|ae 3 [] λ _=>RN.en (gh (rs.getD k vU.dflt)) 26 (λ h9=>?_) λ h9=>?_
    ·refine ai 8 [.nw] [bd ((k:Int)+1)] λ _=>aJ 18 (congrArg (λ v_=>(.slice v_ S.rn S.rc:Value)) hAx7.symm) ?_
     refine mt5 (k+1) [1] [] ?_
     try dsimp only
     refine ⟨⟨by omega,λ t ht=>?_⟩,by omega⟩
     rcases Nat.lt_or_ge t k with h_ | h_
     ·exact hr1 t h_
     ·obtain rfl:t=k:=by omega
      exact h9
    ·refine ae 6 [] λ _=>RN.ret [] [] [] (v:=.bool false) (H':=[]) ?_
     exact ⟨by rw [decide_eq_false (show ¬ kR S rs ds from λ h_=>h9 (h_.2.1 k (by omega)))],rfl⟩
   ·refine ae 16 [.own 0] λ _=>RN.loop (σ:=Nat) (λ j=>⟨[(1,vP (n1+0) 0),(29,.slice S.dA S.dn S.dc),(30,vI (S.dn:Int)),(31,vI (j:Int))],[((n1+0),.lit (Setup.l S) 31 (0,0))],[],j <= S.dn /\ ∀ t,t < j -> qy S.rn (ds.getD t my.dflt),S.dn - j⟩) 0 [0] [] (⟨Nat.zero_le _,λ t ht=>absurd ht (Nat.not_lt_zero _)⟩) ?_
    rintro j ⟨hjl,hd1⟩ mt11
    refine ae 6 [] λ _=>RN.em ((j:Int) < (S.dn:Int)) 32 (λ h12=>?_) λ h12=>?_
    ·refine ae 7 [] λ _=>?_
     obtain ⟨qx13,ox13,Nx13,fx13,fzx13,hAx13,hqx13,hox13,hgx13⟩:=hM.doors.at (k:=j) (by omega)
     refine aJ 29 (congrArg (λ v_=>(.slice v_ S.dn S.dc:Value)) hAx13)<|RN.ro (λ _=>(mc hqx13 mn))<|ai 2 [.ix j,.rorow 0 (ox13+j) 0,.rorow 0 (ox13+j) 1] [((ox13 * 2+j * 2)+1)=(ox13+j) * 2+1 /\ (ox13+j) < Nx13,(ox13 * 2+j * 2)=(ox13+j) * 2+0 /\ (ox13+j) < Nx13,(j:Int)=((j:Nat):Int) /\ j < S.dn] λ _=>aJ 34 (congrArg (λ v_=>(.agg #[vI v_.a,vI v_.b]:Value)) hgx13)<|ai 15 [.own 0,.own 0,.own 1,.nw,.own 0,.own 0] [bd ((S.rn:Int) - 1)] λ n14=>RN.dn 0 (.rows 1 2 (aK [(ds.getD j my.dflt).a,(ds.getD j my.dflt).b]) 3 (0,0))<|aj (ep 0 ((S.rn:Int) - 1) [(ds.getD j my.dflt).a,(ds.getD j my.dflt).b] (n14+1) _ (aB 0) (Nat.le_of_ble_eq_true rfl))<|ae 2 [] λ _=>RN.en (ew 0 ((S.rn:Int) - 1) [(ds.getD j my.dflt).a,(ds.getD j my.dflt).b]) 46 (λ h15=>?_) λ h15=>?_
     ·refine ae 8 [.own 1,.own 1] λ _=>RN.em ((ds.getD j my.dflt).a=(ds.getD j my.dflt).b) 52 (λ h16=>?_) λ h16=>?_
      ·refine ae 6 [] λ _=>RN.ret [] [] [] (v:=.bool false) (H':=[]) ?_
       exact ⟨by rw [decide_eq_false (show ¬ kR S rs ds from λ h_=>(h_.2.2 j (by omega)).2 h16)],rfl⟩
      ·refine ai 8 [.nw] [bd ((j:Int)+1)] λ _=>aJ 29 (congrArg (λ v_=>(.slice v_ S.dn S.dc:Value)) hAx13.symm) ?_
       refine mt11 (j+1) [2] [] ?_
       try dsimp only
       refine ⟨⟨by omega,λ t ht=>?_⟩,by omega⟩
       rcases Nat.lt_or_ge t j with h_ | h_
       ·exact hd1 t h_
       ·obtain rfl:t=j:=by omega
        exact ⟨h15,h16⟩
     ·refine ae 14 [] λ _=>RN.ret [] [] [] (v:=.bool false) (H':=[]) ?_
      exact ⟨by rw [decide_eq_false (show ¬ kR S rs ds from λ h_=>h15 (h_.2.2 j (by omega)).1)],rfl⟩
    ·refine ae 11 [] λ _=>RN.ret [] [] [] (v:=.bool true) (H':=[]) ?_
     exact ⟨by rw [decide_eq_true (show kR S rs ds from ⟨⟨by omega,by omega⟩,λ t ht=>hr1 t (by omega),λ t ht=>hd1 t (by omega)⟩)],rfl⟩
end Go.Proofs.YtgdcbiiopbpgaaaGreatDoor
