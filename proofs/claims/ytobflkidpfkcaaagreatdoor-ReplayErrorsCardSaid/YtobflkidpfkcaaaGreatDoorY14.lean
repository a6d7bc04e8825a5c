import Derived.Test.YtobflkidpfkcaaaGreatDoorY13
import Derived.Test.YtobflkidpfkcaaaGreatDoorY04
set_option maxHeartbeats 4000000
set_option maxRecDepth 100000
set_option linter.unusedSimpArgs false
set_option linter.unusedVariables false
namespace Go.Proofs.YtobflkidpfkcaaaGreatDoor
open Go.RowKit
def rowN (pl:Int) (xs:List Int) (t:Int) (q:Nat):Int:=if xs.length > 0 then aC (xs.getD ((t * pl+(q:Int)) % (xs.length:Int)).toNat 0) 1000000 else 0
def vQ (n:Int):Inp:=⟨n % 3 - 1,n / 3 % 3 - 1,if n / 9 % 3=0 then n / 27 % 4 else 0⟩
def ua (pl:Int) (xs:List Int) (t:Int) (q:Nat):Inp:=vQ (rowN pl xs t q)
def rowL (pl:Int) (xs:List Int) (t:Int) (n:Nat):List Inp:=(List.range n).map (ua pl xs t)
theorem ff (pl:Int) (xs:List Int) (t:Int) (n:Nat):(rowL pl xs t n).length=n:=by simp [rowL]
theorem nV (pl:Int) (xs:List Int) (t:Int) (n:Nat):rowL pl xs t (n+1)=rowL pl xs t n++[ua pl xs t n]:=by simp [rowL,List.range_succ]
theorem EZ {pl:Int} {xs:List Int} {t:Int} {n i:Nat} (h:i < n):(rowL pl xs t n).getD i dI=ua pl xs t i:=by simp [rowL,h]
theorem Iw {F:HL} {A:Option Addr} {n:Nat} {xs:List Int} (h:ArgL F A n xs) (pl t:Int) (q:Nat):0 <= rowN pl xs t q /\ rowN pl xs t q < 1000000:=by
 unfold rowN
 split
 ·next hi =>
  rw [h.len] at hi
  have h1:=Int.emod_nonneg (t * pl+(q:Int)) (show (n:Int) ≠ 0 by omega)
  have h2:=Int.emod_lt_of_pos (t * pl+(q:Int)) (show (0:Int) < n by omega)
  rw [h.len]
  obtain ⟨_,_,_,_,_,_,_,_,_,_,hr⟩:=h.at (k:=((t * pl+(q:Int)) % (n:Int)).toNat) (by omega)
  exact dF hr 1000000 (by decide)
 ·omega
theorem Iy (S:Setup) (A:Option Addr) (n cap:Nat) (xs:List Int) (t:Int) (F:HL) (hl:ArgL F A n xs) (hn:n <= 9223372036854775807) (hp:0 <= S.players /\ S.players <= 1000000) (ht:0 <= t /\ t <= 1000000):Sp Tryz.prog 52 #[Setup.v S,.slice A n cap,vI t] (ap [] []) F (λ u H'=>∃ x:Option Addr × Nat × HL,H'=ap [] [x.2.2] /\ (u=.slice x.1 S.players.toNat x.2.1 /\ SlIs gC 76 (rowL S.players xs t S.players.toNat) x.1 x.2.1 x.2.2 /\ cq x.1)):=by
 have hm:0 <= t * S.players /\ t * S.players <= 1000000000000:=⟨Int.mul_nonneg ht.1 hp.1,Int.le_trans (Int.mul_le_mul ht.2 hp.2 hp.1 (by decide)) (by decide)⟩
 refine Sp.run Tryz.func52 rfl mn (A:=[]) (Ts:=[]) rfl λ w0=>?_
 refine ae 18 [] λ n1=>RN.nt<|RN.loop (σ:=Nat × Option Addr × Nat × HL) (λ ⟨q,A_,c_,T_⟩=>⟨[(1,.slice A n cap),(2,vI t),(3,vP (n1+0) 0),(7,.slice A_ q c_),(8,vI (q:Int))],[((n1+0),.lit (Setup.l S) 32 (0,0))],[T_],(q:Int) <= S.players /\ SlIs gC 76 (rowL S.players xs t q) A_ c_ T_ /\ cq A_,S.players.toNat - q⟩) (0,none,0,[]) [0] [0] (⟨by show (0:Int) <= _;omega,SlIs.nil _ _,trivial⟩) ?_
 rintro ⟨q,A_,c_,T_⟩ ⟨hi_,hs_,hz_⟩ mt3
 refine ae 9 [.own 0] λ _=>RN.em ((q:Int) < S.players) 14 (λ h4=>?_) λ h4=>?_
 ·refine ae 18 [] λ _=>RN.em ((n:Int) > 0) 19 (λ h5=>?_) λ h5=>?_
  ·refine ai 12 [.own 0,.nw,.nw,.nw] [0 <= (t * S.players)+(q:Int) /\ (0:Int) < (n:Int) /\ (t * S.players)+(q:Int) <= 9223372036854775807,bg ((t * S.players)+(q:Int)),bg (t * S.players)] λ _=>?_
   have hix1:=Int.emod_nonneg (t * S.players+(q:Int)) (show (n:Int) ≠ 0 by omega)
   have hix2:=Int.emod_lt_of_pos (t * S.players+(q:Int)) (show (0:Int) < n by omega)
   obtain ⟨qx6,ox6,Nx6,gx6,tyx6,fzx6,hAx6,hqx6,hox6,hgx6,hrx6⟩:=hl.at (k:=((t * S.players+(q:Int)) % (n:Int)).toNat) (by omega)
   refine aK 20 (congrArg (λ v_=>(.slice v_ n cap:Value)) hAx6)<|RN.ro (λ _=>(mc hqx6 mn))<|ai 2 [.ix ((((t * S.players)+(q:Int)) % (n:Int)).toNat),.rorow 0 (ox6+((((t * S.players)+(q:Int)) % (n:Int)).toNat)) 0] [(ox6+((((t * S.players)+(q:Int)) % (n:Int)).toNat) * 1)=(ox6+((((t * S.players)+(q:Int)) % (n:Int)).toNat)) * 1+0 /\ (ox6+((((t * S.players)+(q:Int)) % (n:Int)).toNat)) < Nx6,((t * S.players)+(q:Int)) % (n:Int)=(((((t * S.players)+(q:Int)) % (n:Int)).toNat:Nat):Int) /\ (((t * S.players)+(q:Int)) % (n:Int)).toNat < n] λ _=>aK 31 (congrArg (λ v_=>(v_:Value)) hgx6)<|aj (iE (xs.getD (((t * S.players+(q:Int)) % (n:Int)).toNat) 0) 1000000 (by decide) _) ?_
   have hA7:=dF (n:=xs.getD (((t * S.players+(q:Int)) % (n:Int)).toNat) 0) hrx6 1000000 (by decide)
   refine ae 4 [] λ _=>ai 22 [.nw,.nw,.nw,.nw,.nw,.own 0,.own 0,.own 0,.nw,.nw] [0 <= (aC (xs.getD (((t * S.players+(q:Int)) % (n:Int)).toNat) 0) 1000000) / 9 /\ (0:Int) < 3 /\ (aC (xs.getD (((t * S.players+(q:Int)) % (n:Int)).toNat) 0) 1000000) / 9 <= 9223372036854775807,0 <= aC (xs.getD (((t * S.players+(q:Int)) % (n:Int)).toNat) 0) 1000000 /\ (0:Int) < 9 /\ aC (xs.getD (((t * S.players+(q:Int)) % (n:Int)).toNat) 0) 1000000 <= 9223372036854775807,bg ((((aC (xs.getD (((t * S.players+(q:Int)) % (n:Int)).toNat) 0) 1000000) / 3) % 3) - 1),0 <= (aC (xs.getD (((t * S.players+(q:Int)) % (n:Int)).toNat) 0) 1000000) / 3 /\ (0:Int) < 3 /\ (aC (xs.getD (((t * S.players+(q:Int)) % (n:Int)).toNat) 0) 1000000) / 3 <= 9223372036854775807,0 <= aC (xs.getD (((t * S.players+(q:Int)) % (n:Int)).toNat) 0) 1000000 /\ (0:Int) < 3 /\ aC (xs.getD (((t * S.players+(q:Int)) % (n:Int)).toNat) 0) 1000000 <= 9223372036854775807,bg (((aC (xs.getD (((t * S.players+(q:Int)) % (n:Int)).toNat) 0) 1000000) % 3) - 1),0 <= aC (xs.getD (((t * S.players+(q:Int)) % (n:Int)).toNat) 0) 1000000 /\ (0:Int) < 3 /\ aC (xs.getD (((t * S.players+(q:Int)) % (n:Int)).toNat) 0) 1000000 <= 9223372036854775807] λ n8=>RN.em (((aC (xs.getD (((t * S.players+(q:Int)) % (n:Int)).toNat) 0) 1000000) / 9) % 3=0) 44 (λ h9=>?_) λ h9=>?_
   ·refine ai 13 [.nw,.nw,.own 0,.own 0,.own 0,.own 0] [0 <= (aC (xs.getD (((t * S.players+(q:Int)) % (n:Int)).toNat) 0) 1000000) / 27 /\ (0:Int) < 4 /\ (aC (xs.getD (((t * S.players+(q:Int)) % (n:Int)).toNat) 0) 1000000) / 27 <= 9223372036854775807,0 <= aC (xs.getD (((t * S.players+(q:Int)) % (n:Int)).toNat) 0) 1000000 /\ (0:Int) < 27 /\ aC (xs.getD (((t * S.players+(q:Int)) % (n:Int)).toNat) 0) 1000000 <= 9223372036854775807] λ n10=>?_
    have he_:ua S.players xs t q=(⟨((aC (xs.getD (((t * S.players+(q:Int)) % (n:Int)).toNat) 0) 1000000) % 3) - 1,(((aC (xs.getD (((t * S.players+(q:Int)) % (n:Int)).toNat) 0) 1000000) / 3) % 3) - 1,((aC (xs.getD (((t * S.players+(q:Int)) % (n:Int)).toNat) 0) 1000000) / 27) % 4⟩:Inp):=by
     unfold ua
     rw [show rowN S.players xs t q=aC (xs.getD (((t * S.players+(q:Int)) % (n:Int)).toNat) 0) 1000000 from by unfold rowN;rw [hl.len];rw [if_pos (by omega)]]
     first | rfl | (unfold vQ;simp only [if_pos h9])
    refine gB p6 (rowL S.players xs t q) [(⟨((aC (xs.getD (((t * S.players+(q:Int)) % (n:Int)).toNat) 0) 1000000) % 3) - 1,(((aC (xs.getD (((t * S.players+(q:Int)) % (n:Int)).toNat) 0) 1000000) / 3) % 3) - 1,((aC (xs.getD (((t * S.players+(q:Int)) % (n:Int)).toNat) 0) 1000000) / 27) % 4⟩:Inp)] 0 0 (ff _ _ _ _).symm hs_ (by rw [ff];show q+1 <= 100000000;omega) ?_
    rintro A11 c12 T13 ⟨hs14,hz15⟩
    refine ai 9 [.nw] [bg ((q:Int)+1)] λ _=>?_
    have hz2:=hz15 hz_
    refine mt3 (q+1,A11,c12,T13) [2] [0] ?_
    try dsimp only
    refine ⟨⟨by omega,?_,hz2⟩,by omega⟩
    rw [nV,he_]
    exact hs14
   ·refine ae 7 [.own 0,.own 0,.own 0] λ n16=>?_
    have he_:ua S.players xs t q=(⟨((aC (xs.getD (((t * S.players+(q:Int)) % (n:Int)).toNat) 0) 1000000) % 3) - 1,(((aC (xs.getD (((t * S.players+(q:Int)) % (n:Int)).toNat) 0) 1000000) / 3) % 3) - 1,0⟩:Inp):=by
     unfold ua
     rw [show rowN S.players xs t q=aC (xs.getD (((t * S.players+(q:Int)) % (n:Int)).toNat) 0) 1000000 from by unfold rowN;rw [hl.len];rw [if_pos (by omega)]]
     first | rfl | (unfold vQ;simp only [if_neg h9])
    refine gB p6 (rowL S.players xs t q) [(⟨((aC (xs.getD (((t * S.players+(q:Int)) % (n:Int)).toNat) 0) 1000000) % 3) - 1,(((aC (xs.getD (((t * S.players+(q:Int)) % (n:Int)).toNat) 0) 1000000) / 3) % 3) - 1,0⟩:Inp)] 0 0 (ff _ _ _ _).symm hs_ (by rw [ff];show q+1 <= 100000000;omega) ?_
    rintro A17 c18 T19 ⟨hs20,hz21⟩
    refine ai 9 [.nw] [bg ((q:Int)+1)] λ _=>?_
    have hz2:=hz21 hz_
    refine mt3 (q+1,A17,c18,T19) [2] [0] ?_
    try dsimp only
    refine ⟨⟨by omega,?_,hz2⟩,by omega⟩
    rw [nV,he_]
    exact hs20
  ·refine ae 4 [] λ _=>ae 35 (ow 0 7) λ n22=>?_
   have he_:ua S.players xs t q=(⟨(-1),(-1),0⟩:Inp):=by
    unfold ua
    rw [show rowN S.players xs t q=0 from by unfold rowN;rw [hl.len];rw [if_neg (by omega)]]
    rfl
   refine gB p6 (rowL S.players xs t q) [(⟨(-1),(-1),0⟩:Inp)] 0 0 (ff _ _ _ _).symm hs_ (by rw [ff];show q+1 <= 100000000;omega) ?_
   rintro A23 c24 T25 ⟨hs26,hz27⟩
   refine ai 9 [.nw] [bg ((q:Int)+1)] λ _=>?_
   have hz2:=hz27 hz_
   refine mt3 (q+1,A23,c24,T25) [2] [0] ?_
   try dsimp only
   refine ⟨⟨by omega,?_,hz2⟩,by omega⟩
   rw [nV,he_]
   exact hs26
 ·refine ae 12 [] λ _=>RN.ret [] [] [0] (v:=.slice A_ q c_) (H':=(ap [] [T_])) ?_
  have ei:q=S.players.toNat:=by omega
  subst ei
  exact ⟨(A_,c_,T_),rfl,rfl,hs_,hz_⟩
theorem pj (a:Addr) (n c:Nat) (xs:List Bod) (F:HL) (hl:SrcIn Tryz.prog kx F (some a) n xs) (hb:n <= 100000000):Sp Tryz.prog 45 #[.slice (some a) n c] [] F (λ u H'=>∃ x:Option Addr × Nat × HL,H'=ap [] [x.2.2] /\ (u=.slice x.1 n x.2.1 /\ ClS kx 62 xs x.1 x.2.1 x.2.2)):=by
 refine Sp.run Tryz.func45 rfl mn (A:=[]) (Ts:=[]) rfl λ w0=>?_
 refine ae 19 [] λ n1=>RN.nt<|i3 (A:=(some ⟨(n1+0),0,none⟩)) (B:=(some a)) (c':=c) tQ xs 0 (λ a_ e_=>by cases e_;rfl) (m:=n) (tx:=24) hl.1.1.symm (by rw [hl.1.1];exact hb) (λ e_ he X w hR=>hl.2 c he X w hR) ?_
 rintro A2 c3 T4 hs5
 refine ae 3 [] λ _=>RN.ret [] [] [0] (v:=.slice A2 xs.length c3) (H':=(ap [] [T4])) ?_
 exact ⟨(A2,c3,T4),rfl,by rw [hl.1.1],_,hs5⟩
theorem pk (c:Nat) (F:HL):Sp Tryz.prog 45 #[.slice none 0 c] [] F (λ u H'=>∃ x:Option Addr × Nat × HL,H'=ap [] [x.2.2] /\ (u=.slice x.1 0 x.2.1 /\ ClS kx 62 [] x.1 x.2.1 x.2.2)):=by
 refine Sp.run Tryz.func45 rfl mn (A:=[]) (Ts:=[]) rfl λ w0=>?_
 refine ae 18 [] λ _=>RN.ret [] [] [] (v:=.slice none 0 0) (H':=(ap [] [])) ?_
 exact ⟨(none,0,[]),rfl,rfl,.nil _ _ _⟩
theorem kO (A:Option Addr) (n c:Nat) (xs:List Bod) (F:HL) (hl:SrcIn Tryz.prog kx F A n xs) (hb:n <= 100000000):Sp Tryz.prog 45 #[.slice A n c] (ap [] []) F (λ u H'=>∃ x:Option Addr × Nat × HL,H'=ap [] [x.2.2] /\ (u=.slice x.1 n x.2.1 /\ ClS kx 62 xs x.1 x.2.1 x.2.2)):=by
 cases A with
 | some a=>exact pj a n c xs F hl hb
 | none =>
  obtain rfl:n=0:=hl.1.2 rfl
  obtain rfl:xs=[]:=List.eq_nil_of_length_eq_zero hl.1.1
  exact pk c F
theorem qo (a:Addr) (n c:Nat) (xs:List V2) (F:HL) (hl:SrcIn Tryz.prog kM F (some a) n xs) (hb:n <= 100000000):Sp Tryz.prog 46 #[.slice (some a) n c] [] F (λ u H'=>∃ x:Option Addr × Nat × HL,H'=ap [] [x.2.2] /\ (u=.slice x.1 n x.2.1 /\ ClS kM 30 xs x.1 x.2.1 x.2.2)):=by
 refine Sp.run Tryz.func46 rfl mn (A:=[]) (Ts:=[]) rfl λ w0=>?_
 refine ae 19 [] λ n1=>RN.nt<|i3 (A:=(some ⟨(n1+0),0,none⟩)) (B:=(some a)) (c':=c) yq xs 0 (λ a_ e_=>by cases e_;rfl) (m:=n) (tx:=55) hl.1.1.symm (by rw [hl.1.1];exact hb) (λ e_ he X w hR=>hl.2 c he X w hR) ?_
 rintro A2 c3 T4 hs5
 refine ae 3 [] λ _=>RN.ret [] [] [0] (v:=.slice A2 xs.length c3) (H':=(ap [] [T4])) ?_
 exact ⟨(A2,c3,T4),rfl,by rw [hl.1.1],_,hs5⟩
theorem qp (c:Nat) (F:HL):Sp Tryz.prog 46 #[.slice none 0 c] [] F (λ u H'=>∃ x:Option Addr × Nat × HL,H'=ap [] [x.2.2] /\ (u=.slice x.1 0 x.2.1 /\ ClS kM 30 [] x.1 x.2.1 x.2.2)):=by
 refine Sp.run Tryz.func46 rfl mn (A:=[]) (Ts:=[]) rfl λ w0=>?_
 refine ae 18 [] λ _=>RN.ret [] [] [] (v:=.slice none 0 0) (H':=(ap [] [])) ?_
 exact ⟨(none,0,[]),rfl,rfl,.nil _ _ _⟩
theorem lR (A:Option Addr) (n c:Nat) (xs:List V2) (F:HL) (hl:SrcIn Tryz.prog kM F A n xs) (hb:n <= 100000000):Sp Tryz.prog 46 #[.slice A n c] (ap [] []) F (λ u H'=>∃ x:Option Addr × Nat × HL,H'=ap [] [x.2.2] /\ (u=.slice x.1 n x.2.1 /\ ClS kM 30 xs x.1 x.2.1 x.2.2)):=by
 cases A with
 | some a=>exact qo a n c xs F hl hb
 | none =>
  obtain rfl:n=0:=hl.1.2 rfl
  obtain rfl:xs=[]:=List.eq_nil_of_length_eq_zero hl.1.1
  exact qp c F
theorem qr (a:Addr) (n c:Nat) (xs:List Bx) (F:HL) (hl:SrcIn Tryz.prog vN F (some a) n xs) (hb:n <= 100000000):Sp Tryz.prog 47 #[.slice (some a) n c] [] F (λ u H'=>∃ x:Option Addr × Nat × HL,H'=ap [] [x.2.2] /\ (u=.slice x.1 n x.2.1 /\ ClS vN 26 xs x.1 x.2.1 x.2.2)):=by
 refine Sp.run Tryz.func47 rfl mn (A:=[]) (Ts:=[]) rfl λ w0=>?_
 refine ae 19 [] λ n1=>RN.nt<|i3 (A:=(some ⟨(n1+0),0,none⟩)) (B:=(some a)) (c':=c) EV xs 0 (λ a_ e_=>by cases e_;rfl) (m:=n) (tx:=27) hl.1.1.symm (by rw [hl.1.1];exact hb) (λ e_ he X w hR=>hl.2 c he X w hR) ?_
 rintro A2 c3 T4 hs5
 refine ae 3 [] λ _=>RN.ret [] [] [0] (v:=.slice A2 xs.length c3) (H':=(ap [] [T4])) ?_
 exact ⟨(A2,c3,T4),rfl,by rw [hl.1.1],_,hs5⟩
theorem qs (c:Nat) (F:HL):Sp Tryz.prog 47 #[.slice none 0 c] [] F (λ u H'=>∃ x:Option Addr × Nat × HL,H'=ap [] [x.2.2] /\ (u=.slice x.1 0 x.2.1 /\ ClS vN 26 [] x.1 x.2.1 x.2.2)):=by
 refine Sp.run Tryz.func47 rfl mn (A:=[]) (Ts:=[]) rfl λ w0=>?_
 refine ae 18 [] λ _=>RN.ret [] [] [] (v:=.slice none 0 0) (H':=(ap [] [])) ?_
 exact ⟨(none,0,[]),rfl,rfl,.nil _ _ _⟩
theorem lS (A:Option Addr) (n c:Nat) (xs:List Bx) (F:HL) (hl:SrcIn Tryz.prog vN F A n xs) (hb:n <= 100000000):Sp Tryz.prog 47 #[.slice A n c] (ap [] []) F (λ u H'=>∃ x:Option Addr × Nat × HL,H'=ap [] [x.2.2] /\ (u=.slice x.1 n x.2.1 /\ ClS vN 26 xs x.1 x.2.1 x.2.2)):=by
 cases A with
 | some a=>exact qr a n c xs F hl hb
 | none =>
  obtain rfl:n=0:=hl.1.2 rfl
  obtain rfl:xs=[]:=List.eq_nil_of_length_eq_zero hl.1.1
  exact qs c F
theorem pm (a:Addr) (n c:Nat) (xs:List Dr) (F:HL) (hl:SrcIn Tryz.prog mt F (some a) n xs) (hb:n <= 100000000):Sp Tryz.prog 48 #[.slice (some a) n c] [] F (λ u H'=>∃ x:Option Addr × Nat × HL,H'=ap [] [x.2.2] /\ (u=.slice x.1 n x.2.1 /\ ClS mt 53 xs x.1 x.2.1 x.2.2)):=by
 refine Sp.run Tryz.func48 rfl mn (A:=[]) (Ts:=[]) rfl λ w0=>?_
 refine ae 19 [] λ n1=>RN.nt<|i3 (A:=(some ⟨(n1+0),0,none⟩)) (B:=(some a)) (c':=c) EW xs 0 (λ a_ e_=>by cases e_;rfl) (m:=n) (tx:=28) hl.1.1.symm (by rw [hl.1.1];exact hb) (λ e_ he X w hR=>hl.2 c he X w hR) ?_
 rintro A2 c3 T4 hs5
 refine ae 3 [] λ _=>RN.ret [] [] [0] (v:=.slice A2 xs.length c3) (H':=(ap [] [T4])) ?_
 exact ⟨(A2,c3,T4),rfl,by rw [hl.1.1],_,hs5⟩
theorem pn (c:Nat) (F:HL):Sp Tryz.prog 48 #[.slice none 0 c] [] F (λ u H'=>∃ x:Option Addr × Nat × HL,H'=ap [] [x.2.2] /\ (u=.slice x.1 0 x.2.1 /\ ClS mt 53 [] x.1 x.2.1 x.2.2)):=by
 refine Sp.run Tryz.func48 rfl mn (A:=[]) (Ts:=[]) rfl λ w0=>?_
 refine ae 18 [] λ _=>RN.ret [] [] [] (v:=.slice none 0 0) (H':=(ap [] [])) ?_
 exact ⟨(none,0,[]),rfl,rfl,.nil _ _ _⟩
theorem kP (A:Option Addr) (n c:Nat) (xs:List Dr) (F:HL) (hl:SrcIn Tryz.prog mt F A n xs) (hb:n <= 100000000):Sp Tryz.prog 48 #[.slice A n c] (ap [] []) F (λ u H'=>∃ x:Option Addr × Nat × HL,H'=ap [] [x.2.2] /\ (u=.slice x.1 n x.2.1 /\ ClS mt 53 xs x.1 x.2.1 x.2.2)):=by
 cases A with
 | some a=>exact pm a n c xs F hl hb
 | none =>
  obtain rfl:n=0:=hl.1.2 rfl
  obtain rfl:xs=[]:=List.eq_nil_of_length_eq_zero hl.1.1
  exact pn c F
theorem qt (a:Addr) (n c:Nat) (xs:List Ins) (F:HL) (hl:SrcIn Tryz.prog gQ F (some a) n xs) (hb:n <= 100000000):Sp Tryz.prog 139 #[.slice (some a) n c] [] F (λ u H'=>∃ x:Option Addr × Nat × HL,H'=ap [] [x.2.2] /\ (u=.slice x.1 n x.2.1 /\ ClS gQ 176 xs x.1 x.2.1 x.2.2)):=by
 refine Sp.run Tryz.func139 rfl mn (A:=[]) (Ts:=[]) rfl λ w0=>?_
 refine ae 19 [] λ n1=>RN.nt<|i3 (A:=(some ⟨(n1+0),0,none⟩)) (B:=(some a)) (c':=c) Ea xs 0 (λ a_ e_=>by cases e_;rfl) (m:=n) (tx:=100) hl.1.1.symm (by rw [hl.1.1];exact hb) (λ e_ he X w hR=>hl.2 c he X w hR) ?_
 rintro A2 c3 T4 hs5
 refine ae 3 [] λ _=>RN.ret [] [] [0] (v:=.slice A2 xs.length c3) (H':=(ap [] [T4])) ?_
 exact ⟨(A2,c3,T4),rfl,by rw [hl.1.1],_,hs5⟩
theorem qu (c:Nat) (F:HL):Sp Tryz.prog 139 #[.slice none 0 c] [] F (λ u H'=>∃ x:Option Addr × Nat × HL,H'=ap [] [x.2.2] /\ (u=.slice x.1 0 x.2.1 /\ ClS gQ 176 [] x.1 x.2.1 x.2.2)):=by
 refine Sp.run Tryz.func139 rfl mn (A:=[]) (Ts:=[]) rfl λ w0=>?_
 refine ae 18 [] λ _=>RN.ret [] [] [] (v:=.slice none 0 0) (H':=(ap [] [])) ?_
 exact ⟨(none,0,[]),rfl,rfl,.nil _ _ _⟩
theorem lT (A:Option Addr) (n c:Nat) (xs:List Ins) (F:HL) (hl:SrcIn Tryz.prog gQ F A n xs) (hb:n <= 100000000):Sp Tryz.prog 139 #[.slice A n c] (ap [] []) F (λ u H'=>∃ x:Option Addr × Nat × HL,H'=ap [] [x.2.2] /\ (u=.slice x.1 n x.2.1 /\ ClS gQ 176 xs x.1 x.2.1 x.2.2)):=by
 cases A with
 | some a=>exact qt a n c xs F hl hb
 | none =>
  obtain rfl:n=0:=hl.1.2 rfl
  obtain rfl:xs=[]:=List.eq_nil_of_length_eq_zero hl.1.1
  exact qu c F
theorem nW (a:Addr) (n c:Nat) (xs:List Inp) (F:HL) (hl:SrcIn Tryz.prog gC F (some a) n xs) (hb:n <= 100000000):Sp Tryz.prog 29 #[.slice (some a) n c] [] F (λ u H'=>∃ x:Option Addr × Nat × HL,H'=ap [] [x.2.2] /\ (u=.slice x.1 n x.2.1 /\ ClS gC 76 xs x.1 x.2.1 x.2.2)):=by
 refine Sp.run Tryz.func29 rfl mn (A:=[]) (Ts:=[]) rfl λ w0=>?_
 refine ae 19 [] λ n1=>RN.nt<|i3 (A:=(some ⟨(n1+0),0,none⟩)) (B:=(some a)) (c':=c) p6 xs 0 (λ a_ e_=>by cases e_;rfl) (m:=n) (tx:=23) hl.1.1.symm (by rw [hl.1.1];exact hb) (λ e_ he X w hR=>hl.2 c he X w hR) ?_
 rintro A2 c3 T4 hs5
 refine ae 3 [] λ _=>RN.ret [] [] [0] (v:=.slice A2 xs.length c3) (H':=(ap [] [T4])) ?_
 exact ⟨(A2,c3,T4),rfl,by rw [hl.1.1],_,hs5⟩
theorem nX (c:Nat) (F:HL):Sp Tryz.prog 29 #[.slice none 0 c] [] F (λ u H'=>∃ x:Option Addr × Nat × HL,H'=ap [] [x.2.2] /\ (u=.slice x.1 0 x.2.1 /\ ClS gC 76 [] x.1 x.2.1 x.2.2)):=by
 refine Sp.run Tryz.func29 rfl mn (A:=[]) (Ts:=[]) rfl λ w0=>?_
 refine ae 18 [] λ _=>RN.ret [] [] [] (v:=.slice none 0 0) (H':=(ap [] [])) ?_
 exact ⟨(none,0,[]),rfl,rfl,.nil _ _ _⟩
theorem po (A:Option Addr) (n c:Nat) (xs:List Inp) (F:HL) (hl:SrcIn Tryz.prog gC F A n xs) (hb:n <= 100000000):Sp Tryz.prog 29 #[.slice A n c] (ap [] []) F (λ u H'=>∃ x:Option Addr × Nat × HL,H'=ap [] [x.2.2] /\ (u=.slice x.1 n x.2.1 /\ ClS gC 76 xs x.1 x.2.1 x.2.2)):=by
 cases A with
 | some a=>exact nW a n c xs F hl hb
 | none =>
  obtain rfl:n=0:=hl.1.2 rfl
  obtain rfl:xs=[]:=List.eq_nil_of_length_eq_zero hl.1.1
  exact nX c F
def ep (lo hi:Int) (ns:List Int):Prop:=∀ k,k < ns.length -> lo <= ns.getD k 0 /\ ns.getD k 0 <= hi
instance (lo hi:Int) (ns:List Int):Decidable (ep lo hi ns):=inferInstanceAs (Decidable (∀ k,k < ns.length -> _))
theorem vR (lo hi:Int):ep lo hi []:=λ k hk=>absurd hk (Nat.not_lt_zero _)
theorem sE {lo hi x:Int} {ns:List Int}:ep lo hi (x :: ns) ↔ (lo <= x /\ x <= hi) /\ ep lo hi ns:=by
 constructor
 ·intro h
  exact ⟨h 0 (Nat.succ_pos _),λ k hk=>h (k+1) (Nat.succ_lt_succ hk)⟩
 ·rintro ⟨h1,h2⟩ k hk
  cases k with
  | zero=>exact h1
  | succ k=>exact h2 k (Nat.lt_of_succ_lt_succ hk)
theorem eh (lo hi:Int) (ns:List Int) (q:Nat) (F:HL) (hq:(q,.rows 1 ns.length (aO ns) 3 (0,0)) ∈ F) (hn:ns.length <= 1000000):Sp Tryz.prog 108 #[vI lo,vI hi,vS q 0 ns.length ns.length] [] F (λ u H'=>u=.bool (decide (ep lo hi ns)) /\ H'=[]):=by
 refine Sp.run Tryz.func108 rfl (mc hq mn) (A:=[]) (Ts:=[]) rfl λ w0=>?_
 refine ae 14 [] λ _=>RN.loop (σ:=Nat) (λ k=>⟨[(0,vI lo),(1,vI hi),(9,vS q 0 ns.length ns.length),(10,vI (ns.length:Int)),(11,vI (k:Int))],[],[],k <= ns.length /\ ∀ t,t < k -> lo <= ns.getD t 0 /\ ns.getD t 0 <= hi,ns.length - k⟩) 0 [] [] (⟨Nat.zero_le _,λ t ht=>absurd ht (Nat.not_lt_zero _)⟩) ?_
 rintro k ⟨hkl,hwk⟩ mt2
 refine ae 6 [] λ _=>RN.em ((k:Int) < (ns.length:Int)) 12 (λ h3=>?_) λ h3=>?_
 ·refine ai 18 [.ix k,.rorow 0 k 0] [(0+k * 1)=k * 1+0 /\ k < ns.length,(k:Int)=((k:Nat):Int) /\ k < ns.length] λ _=>RN.em (ns.getD k 0 < lo) 18 (λ h4=>?_) λ h4=>?_
  ·refine ae 12 [] λ _=>RN.ret [] [] [] (v:=.bool false) (H':=[]) ?_
   exact ⟨by rw [decide_eq_false (show ¬ ep lo hi ns from λ h_=>by have:=h_ k (by omega);omega)],rfl⟩
  ·refine ae 6 [] λ _=>RN.em (ns.getD k 0 > hi) 22 (λ h5=>?_) λ h5=>?_
   ·refine ae 6 [] λ _=>RN.ret [] [] [] (v:=.bool false) (H':=[]) ?_
    exact ⟨by rw [decide_eq_false (show ¬ ep lo hi ns from λ h_=>by have:=h_ k (by omega);omega)],rfl⟩
   ·refine ai 8 [.nw] [bg ((k:Int)+1)] λ _=>?_
    refine mt2 (k+1) [] [] ?_
    try dsimp only
    refine ⟨⟨by omega,λ t ht=>?_⟩,by omega⟩
    rcases Nat.lt_or_ge t k with h_ | h_
    ·exact hwk t h_
    ·obtain rfl:t=k:=by omega
     exact ⟨by omega,by omega⟩
 ·refine ae 11 [] λ _=>RN.ret [] [] [] (v:=.bool true) (H':=[]) ?_
  exact ⟨by rw [decide_eq_true (show ep lo hi ns from λ t ht=>hwk t (by omega))],rfl⟩
def ge (b:Bx):Prop:=(b.x0 <= b.x1 /\ b.y0 <= b.y1) /\ ep (-1048576) 1048576 [b.x0,b.y0,b.x1,b.y1]
instance (b:Bx):Decidable (ge b):=inferInstanceAs (Decidable (_ /\ _))
def fc (b:Bod) (x:Bx):Prop:=ep 0 4096 [b.mot.inv] /\ ep (-16384) 16384 [b.mot.vx,b.mot.vy] /\ ep x.x0 x.x1 [b.mot.px] /\ ep x.y0 x.y1 [b.mot.py] /\ ep (-2147483647) 2147483647 [b.a,b.b]
instance (b:Bod) (x:Bx):Decidable (fc b x):=inferInstanceAs (Decidable (_ /\ _))
def i8 (S:Setup):Prop:=ep 1 8 [S.players] /\ ep S.players 24 [(S.nb:Int)] /\ ep 0 4194304 [S.fog] /\ ep (-16384) 16384 [S.g.x,S.g.y] /\ ep 0 16384 [S.push] /\ ep 0 1024 [S.drag,S.rest] /\ ep 1 4 [S.rounds] /\ ep 0 1000 [S.fuel]
instance (S:Setup):Decidable (i8 S):=inferInstanceAs (Decidable (_ /\ _))
theorem qx (b:Bx)  (F:HL):Sp Tryz.prog 76 #[.agg #[vI b.x0,vI b.y0,vI b.x1,vI b.y1]] [] F (λ u H'=>u=.bool (decide (ge b)) /\ H'=[]):=by
 refine Sp.run Tryz.func76 rfl mn (A:=[]) (Ts:=[]) rfl λ w0=>?_
 refine ae 14 [.own 0,.own 0] λ n1=>RN.em (b.x0 <= b.x1) 8 (λ h2=>?_) λ h2=>?_
 ·refine ae 7 [.own 0,.own 0] λ _=>RN.em (b.y0 <= b.y1) 15 (λ h3=>?_) λ h3=>?_
  ·refine ae 9 [.own 0,.own 0,.own 0,.own 0] λ n4=>RN.dn 0 (.rows 1 4 (aO [b.x0,b.y0,b.x1,b.y1]) 3 (0,0))<|aj (eh (-1048576) 1048576 [b.x0,b.y0,b.x1,b.y1] (n4+0) _ (aB 0) (Nat.le_of_ble_eq_true rfl))<|ae 4 [] λ _=>RN.ret [] [] [] (v:=.bool (decide (ep (-1048576) 1048576 [b.x0,b.y0,b.x1,b.y1]))) (H':=[]) ?_
   exact ⟨by simp [ge, *],rfl⟩
  ·refine ae 14 [] λ _=>RN.ret [] [] [] (v:=.bool false) (H':=[]) ?_
   exact ⟨by simp [ge, *],rfl⟩
 ·refine ae 21 [] λ _=>RN.ret [] [] [] (v:=.bool false) (H':=[]) ?_
  exact ⟨by simp [ge, *],rfl⟩
theorem Cq (b:Bod) (x:Bx) (F:HL):Sp Tryz.prog 78 #[.agg #[vI b.sh.r,.slice b.sh.A b.sh.poly.length b.sh.cap,vI b.mot.px,vI b.mot.py,vI b.mot.vx,vI b.mot.vy,vI b.mot.inv,vI b.a,vI b.b],.agg #[vI x.x0,vI x.y0,vI x.x1,vI x.y1]] [] F (λ u H'=>u=.bool (decide (fc b x)) /\ H'=[]):=by
 refine Sp.run Tryz.func78 rfl mn (A:=[]) (Ts:=[]) rfl λ w0=>?_
 refine ae 20 (ow 1 5++ow 0 6) λ n1=>RN.dn 0 (.rows 1 1 (aO [b.mot.inv]) 3 (0,0))<|aj (eh 0 4096 [b.mot.inv] (n1+3) _ (aB 0) (Nat.le_of_ble_eq_true rfl))<|ae 1 [] λ _=>RN.em (ep 0 4096 [b.mot.inv]) 12 (λ h2=>?_) λ h2=>?_
 ·refine ae 7 [.own 1,.own 1] λ n3=>RN.dn 0 (.rows 1 2 (aO [b.mot.vx,b.mot.vy]) 3 (0,0))<|aj (eh (-16384) 16384 [b.mot.vx,b.mot.vy] (n3+0) _ (aB 0) (Nat.le_of_ble_eq_true rfl))<|ae 2 [] λ _=>RN.em (ep (-16384) 16384 [b.mot.vx,b.mot.vy]) 22 (λ h4=>?_) λ h4=>?_
  ·refine ae 8 [.own 3,.own 3,.own 2] λ n5=>RN.dn 0 (.rows 1 1 (aO [b.mot.px]) 3 (0,0))<|aj (eh x.x0 x.x1 [b.mot.px] (n5+0) _ (aB 0) (Nat.le_of_ble_eq_true rfl))<|ae 2 [] λ _=>RN.em (ep x.x0 x.x1 [b.mot.px]) 33 (λ h6=>?_) λ h6=>?_
   ·refine ae 8 [.own 4,.own 4,.own 3] λ n7=>RN.dn 0 (.rows 1 1 (aO [b.mot.py]) 3 (0,0))<|aj (eh x.y0 x.y1 [b.mot.py] (n7+0) _ (aB 0) (Nat.le_of_ble_eq_true rfl))<|ae 2 [] λ _=>RN.em (ep x.y0 x.y1 [b.mot.py]) 44 (λ h8=>?_) λ h8=>?_
    ·refine ae 5 [.own 6,.own 6] λ n9=>RN.dn 0 (.rows 1 2 (aO [b.a,b.b]) 3 (0,0))<|aj (eh (-2147483647) 2147483647 [b.a,b.b] (n9+0) _ (aB 0) (Nat.le_of_ble_eq_true rfl))<|ae 4 [] λ _=>RN.ret [] [] [] (v:=.bool (decide (ep (-2147483647) 2147483647 [b.a,b.b]))) (H':=[]) ?_
     exact ⟨by simp [fc, *],rfl⟩
    ·refine ae 10 [] λ _=>RN.ret [] [] [] (v:=.bool false) (H':=[]) ?_
     exact ⟨by simp [fc, *],rfl⟩
   ·refine ae 21 [] λ _=>RN.ret [] [] [] (v:=.bool false) (H':=[]) ?_
    exact ⟨by simp [fc, *],rfl⟩
  ·refine ae 32 [] λ _=>RN.ret [] [] [] (v:=.bool false) (H':=[]) ?_
   exact ⟨by simp [fc, *],rfl⟩
 ·refine ae 42 [] λ _=>RN.ret [] [] [] (v:=.bool false) (H':=[]) ?_
  exact ⟨by simp [fc, *],rfl⟩
theorem E0 (S:Setup) (F:HL):Sp Tryz.prog 75 #[(Setup.v S)] [] F (λ u H'=>u=.bool (decide (i8 S)) /\ H'=[]):=by
 refine Sp.run Tryz.func75 rfl mn (A:=[]) (Ts:=[]) rfl λ w0=>?_
 refine ae 11 [.own 0] λ n1=>RN.dn 0 (.rows 1 1 (aO [S.players]) 3 (0,0))<|aj (eh 1 8 [S.players] (n1+1) _ (aB 0) (Nat.le_of_ble_eq_true rfl))<|ae 1 [] λ _=>RN.em (ep 1 8 [S.players]) 7 (λ h2=>?_) λ h2=>?_
 ·refine ae 6 [.own 1,.own 1] λ n3=>RN.dn 0 (.rows 1 1 (aO [(S.nb:Int)]) 3 (0,0))<|aj (eh S.players 24 [(S.nb:Int)] (n3+0) _ (aB 0) (Nat.le_of_ble_eq_true rfl))<|ae 2 [] λ _=>RN.em (ep S.players 24 [(S.nb:Int)]) 16 (λ h4=>?_) λ h4=>?_
  ·refine ae 3 [.own 2] λ n5=>RN.dn 0 (.rows 1 1 (aO [S.fog]) 3 (0,0))<|aj (eh 0 4194304 [S.fog] (n5+0) _ (aB 0) (Nat.le_of_ble_eq_true rfl))<|ae 2 [] λ _=>RN.em (ep 0 4194304 [S.fog]) 22 (λ h6=>?_) λ h6=>?_
   ·refine ae 7 [.own 3,.own 3] λ n7=>RN.dn 0 (.rows 1 2 (aO [S.g.x,S.g.y]) 3 (0,0))<|aj (eh (-16384) 16384 [S.g.x,S.g.y] (n7+0) _ (aB 0) (Nat.le_of_ble_eq_true rfl))<|ae 2 [] λ _=>RN.em (ep (-16384) 16384 [S.g.x,S.g.y]) 32 (λ h8=>?_) λ h8=>?_
    ·refine ae 3 [.own 4] λ n9=>RN.dn 0 (.rows 1 1 (aO [S.push]) 3 (0,0))<|aj (eh 0 16384 [S.push] (n9+0) _ (aB 0) (Nat.le_of_ble_eq_true rfl))<|ae 2 [] λ _=>RN.em (ep 0 16384 [S.push]) 38 (λ h10=>?_) λ h10=>?_
     ·refine ae 5 [.own 5,.own 5] λ n11=>RN.dn 0 (.rows 1 2 (aO [S.drag,S.rest]) 3 (0,0))<|aj (eh 0 1024 [S.drag,S.rest] (n11+0) _ (aB 0) (Nat.le_of_ble_eq_true rfl))<|ae 2 [] λ _=>RN.em (ep 0 1024 [S.drag,S.rest]) 46 (λ h12=>?_) λ h12=>?_
      ·refine ae 3 [.own 6] λ n13=>RN.dn 0 (.rows 1 1 (aO [S.rounds]) 3 (0,0))<|aj (eh 1 4 [S.rounds] (n13+0) _ (aB 0) (Nat.le_of_ble_eq_true rfl))<|ae 2 [] λ _=>RN.em (ep 1 4 [S.rounds]) 52 (λ h14=>?_) λ h14=>?_
       ·refine ae 3 [.own 7] λ n15=>RN.dn 0 (.rows 1 1 (aO [S.fuel]) 3 (0,0))<|aj (eh 0 1000 [S.fuel] (n15+0) _ (aB 0) (Nat.le_of_ble_eq_true rfl))<|ae 4 [] λ _=>RN.ret [] [] [] (v:=.bool (decide (ep 0 1000 [S.fuel]))) (H':=[]) ?_
        exact ⟨by simp [i8, *],rfl⟩
       ·refine ae 8 [] λ _=>RN.ret [] [] [] (v:=.bool false) (H':=[]) ?_
        exact ⟨by simp [i8, *],rfl⟩
      ·refine ae 14 [] λ _=>RN.ret [] [] [] (v:=.bool false) (H':=[]) ?_
       exact ⟨by simp [i8, *],rfl⟩
     ·refine ae 22 [] λ _=>RN.ret [] [] [] (v:=.bool false) (H':=[]) ?_
      exact ⟨by simp [i8, *],rfl⟩
    ·refine ae 28 [] λ _=>RN.ret [] [] [] (v:=.bool false) (H':=[]) ?_
     exact ⟨by simp [i8, *],rfl⟩
   ·refine ae 38 [] λ _=>RN.ret [] [] [] (v:=.bool false) (H':=[]) ?_
    exact ⟨by simp [i8, *],rfl⟩
  ·refine ae 44 [] λ _=>RN.ret [] [] [] (v:=.bool false) (H':=[]) ?_
   exact ⟨by simp [i8, *],rfl⟩
 ·refine ae 53 [] λ _=>RN.ret [] [] [] (v:=.bool false) (H':=[]) ?_
  exact ⟨by simp [i8, *],rfl⟩
def qy (n:Nat) (d:Dr):Prop:=ep 0 ((n:Int) - 1) [d.a,d.b] /\ ¬ d.a=d.b
instance (n:Nat) (d:Dr):Decidable (qy n d):=inferInstanceAs (Decidable (_ /\ _))
def kQ (S:Setup) (rs:List Bx) (ds:List Dr):Prop:=((S.rn:Int) <= 8 /\ (S.dn:Int) <= 16) /\ (∀ k,k < S.rn -> ge (rs.getD k vN.dflt)) /\ ∀ k,k < S.dn -> qy S.rn (ds.getD k mt.dflt)
instance (S:Setup) (rs:List Bx) (ds:List Dr):Decidable (kQ S rs ds):=inferInstanceAs (Decidable (_ /\ _ /\ _))
theorem E1 (S:Setup) (rs:List Bx) (ds:List Dr) (F:HL) (hM:MapIn F S rs ds):Sp Tryz.prog 77 #[(Setup.v S)] [] F (λ u H'=>u=.bool (decide (kQ S rs ds)) /\ H'=[]):=by
 refine Sp.run Tryz.func77 rfl mn (A:=[]) (Ts:=[]) rfl λ w0=>?_
 refine ae 14 [.own 0] λ n1=>RN.em ((S.rn:Int) > 8) 11 (λ h2=>?_) λ h2=>?_
 ·refine ae 13 [] λ _=>RN.ret [] [] [] (v:=.bool false) (H':=[]) ?_
  exact ⟨by rw [decide_eq_false (show ¬ kQ S rs ds from λ h_=>by have:=h_.1;omega)],rfl⟩
 ·refine ae 7 [.own 0] λ _=>RN.em ((S.dn:Int) > 16) 16 (λ h3=>?_) λ h3=>?_
  ·refine ae 6 [] λ _=>RN.ret [] [] [] (v:=.bool false) (H':=[]) ?_
   exact ⟨by rw [decide_eq_false (show ¬ kQ S rs ds from λ h_=>by have:=h_.1;omega)],rfl⟩
  ·refine ae 13 [.own 0] λ _=>RN.loop (σ:=Nat) (λ k=>⟨[(1,vP (n1+0) 0),(18,.slice S.rA S.rn S.rc),(19,vI (S.rn:Int)),(20,vI (k:Int))],[((n1+0),.lit (Setup.l S) 32 (0,0))],[],k <= S.rn /\ ∀ t,t < k -> ge (rs.getD t vN.dflt),S.rn - k⟩) 0 [0] [] (⟨Nat.zero_le _,λ t ht=>absurd ht (Nat.not_lt_zero _)⟩) ?_
   rintro k ⟨hkl,hr1⟩ mt5
   refine ae 6 [] λ _=>RN.em ((k:Int) < (S.rn:Int)) 21 (λ h6=>?_) λ h6=>?_
   ·refine ae 7 [] λ _=>?_
    obtain ⟨qx7,ox7,Nx7,fx7,fzx7,hAx7,hqx7,hox7,hgx7⟩:=hM.rooms.at (k:=k) (by omega)
    refine aK 18 (congrArg (λ v_=>(.slice v_ S.rn S.rc:Value)) hAx7)<|RN.ro (λ _=>(mc hqx7 mn))<|ai 2 [.ix k,.rorow 0 (ox7+k) 0,.rorow 0 (ox7+k) 1,.rorow 0 (ox7+k) 2,.rorow 0 (ox7+k) 3] [((ox7 * 4+k * 4)+3)=(ox7+k) * 4+3 /\ (ox7+k) < Nx7,((ox7 * 4+k * 4)+2)=(ox7+k) * 4+2 /\ (ox7+k) < Nx7,((ox7 * 4+k * 4)+1)=(ox7+k) * 4+1 /\ (ox7+k) < Nx7,(ox7 * 4+k * 4)=(ox7+k) * 4+0 /\ (ox7+k) < Nx7,(k:Int)=((k:Nat):Int) /\ k < S.rn] λ _=>aK 23 (congrArg (λ v_=>(.agg #[vI v_.x0,vI v_.y0,vI v_.x1,vI v_.y1]:Value)) hgx7)<|ae 7 (ow 0 8) λ n8=>aj (qx (rs.getD k vN.dflt)  _)<|ae 3 [] λ _=>RN.en (ge (rs.getD k vN.dflt)) 26 (λ h9=>?_) λ h9=>?_
    ·refine ai 8 [.nw] [bg ((k:Int)+1)] λ _=>aK 18 (congrArg (λ v_=>(.slice v_ S.rn S.rc:Value)) hAx7.symm) ?_
     refine mt5 (k+1) [1] [] ?_
     try dsimp only
     refine ⟨⟨by omega,λ t ht=>?_⟩,by omega⟩
     rcases Nat.lt_or_ge t k with h_ | h_
     ·exact hr1 t h_
     ·obtain rfl:t=k:=by omega
      exact h9
    ·refine ae 6 [] λ _=>RN.ret [] [] [] (v:=.bool false) (H':=[]) ?_
     exact ⟨by rw [decide_eq_false (show ¬ kQ S rs ds from λ h_=>h9 (h_.2.1 k (by omega)))],rfl⟩
   ·refine ae 16 [.own 0] λ _=>RN.loop (σ:=Nat) (λ j=>⟨[(1,vP (n1+0) 0),(29,.slice S.dA S.dn S.dc),(30,vI (S.dn:Int)),(31,vI (j:Int))],[((n1+0),.lit (Setup.l S) 32 (0,0))],[],j <= S.dn /\ ∀ t,t < j -> qy S.rn (ds.getD t mt.dflt),S.dn - j⟩) 0 [0] [] (⟨Nat.zero_le _,λ t ht=>absurd ht (Nat.not_lt_zero _)⟩) ?_
    rintro j ⟨hjl,hd1⟩ mt11
    refine ae 6 [] λ _=>RN.em ((j:Int) < (S.dn:Int)) 32 (λ h12=>?_) λ h12=>?_
    ·refine ae 7 [] λ _=>?_
     obtain ⟨qx13,ox13,Nx13,fx13,fzx13,hAx13,hqx13,hox13,hgx13⟩:=hM.doors.at (k:=j) (by omega)
     refine aK 29 (congrArg (λ v_=>(.slice v_ S.dn S.dc:Value)) hAx13)<|RN.ro (λ _=>(mc hqx13 mn))<|ai 2 [.ix j,.rorow 0 (ox13+j) 0,.rorow 0 (ox13+j) 1] [((ox13 * 2+j * 2)+1)=(ox13+j) * 2+1 /\ (ox13+j) < Nx13,(ox13 * 2+j * 2)=(ox13+j) * 2+0 /\ (ox13+j) < Nx13,(j:Int)=((j:Nat):Int) /\ j < S.dn] λ _=>aK 34 (congrArg (λ v_=>(.agg #[vI v_.a,vI v_.b]:Value)) hgx13)<|ai 15 [.own 0,.own 0,.own 1,.nw,.own 0,.own 0] [bg ((S.rn:Int) - 1)] λ n14=>RN.dn 0 (.rows 1 2 (aO [(ds.getD j mt.dflt).a,(ds.getD j mt.dflt).b]) 3 (0,0))<|aj (eh 0 ((S.rn:Int) - 1) [(ds.getD j mt.dflt).a,(ds.getD j mt.dflt).b] (n14+1) _ (aB 0) (Nat.le_of_ble_eq_true rfl))<|ae 2 [] λ _=>RN.en (ep 0 ((S.rn:Int) - 1) [(ds.getD j mt.dflt).a,(ds.getD j mt.dflt).b]) 46 (λ h15=>?_) λ h15=>?_
     ·refine ae 8 [.own 1,.own 1] λ _=>RN.em ((ds.getD j mt.dflt).a=(ds.getD j mt.dflt).b) 52 (λ h16=>?_) λ h16=>?_
      ·refine ae 6 [] λ _=>RN.ret [] [] [] (v:=.bool false) (H':=[]) ?_
       exact ⟨by rw [decide_eq_false (show ¬ kQ S rs ds from λ h_=>(h_.2.2 j (by omega)).2 h16)],rfl⟩
      ·refine ai 8 [.nw] [bg ((j:Int)+1)] λ _=>aK 29 (congrArg (λ v_=>(.slice v_ S.dn S.dc:Value)) hAx13.symm) ?_
       refine mt11 (j+1) [2] [] ?_
       try dsimp only
       refine ⟨⟨by omega,λ t ht=>?_⟩,by omega⟩
       rcases Nat.lt_or_ge t j with h_ | h_
       ·exact hd1 t h_
       ·obtain rfl:t=j:=by omega
        exact ⟨h15,h16⟩
     ·refine ae 14 [] λ _=>RN.ret [] [] [] (v:=.bool false) (H':=[]) ?_
      exact ⟨by rw [decide_eq_false (show ¬ kQ S rs ds from λ h_=>h15 (h_.2.2 j (by omega)).1)],rfl⟩
    ·refine ae 11 [] λ _=>RN.ret [] [] [] (v:=.bool true) (H':=[]) ?_
     exact ⟨by rw [decide_eq_true (show kQ S rs ds from ⟨⟨by omega,by omega⟩,λ t ht=>hr1 t (by omega),λ t ht=>hd1 t (by omega)⟩)],rfl⟩
def sF (v w p:V2):Int:=bd (bd (bd (w.x - v.x) * bd (p.y - v.y)) - bd (bd (w.y - v.y) * bd (p.x - v.x)))
def ub (n:Nat):List (Int × Int):=(List.range n).map λ i:Nat=>((i:Int),((i:Int)+1) % (n:Int))
theorem qz (n:Nat):(ub n).length=n:=by simp [ub]
theorem vT {n k:Nat} (h:k < n):(ub n)[k]?=some ((k:Int),((k:Int)+1) % (n:Int)):=by simp [ub,h]
theorem vU {n k:Nat} {x:Int × Int} (h:(ub n)[k]?=some x):k < n /\ x=((k:Int),((k:Int)+1) % (n:Int)):=by
 have hk:k < n:=by rw [<- qz n];exact (List.getElem?_eq_some_iff.1 h).1
 rw [vT hk] at h
 exact ⟨hk,(Option.some.inj h).symm⟩
abbrev JY (x:Int × Int):Array Value:=#[vI x.1,vI x.2]
def vV (n k:Nat):Int:=((k:Int)+1) % (n:Int)
abbrev vat (l:List V2) (k:Nat):V2:=l.getD k ⟨0,0⟩
def vW (f:Nat -> V2) (n i:Nat):Prop:=¬ sF (f i) (f (vV n i).toNat) ⟨0,0⟩ <= 0 /\ ∀ k,k < n -> ¬ (k:Int)=(i:Int) -> ¬ (k:Int)=vV n i -> ¬ sF (f i) (f (vV n i).toNat) (f k) <= 0
instance (f:Nat -> V2) (n i:Nat):Decidable (vW f n i):=inferInstanceAs (Decidable (_ /\ _))
def oX (f:Nat -> V2) (n:Nat):Prop:=∀ i,i < n -> vW f n i
instance (f:Nat -> V2) (n:Nat):Decidable (oX f n):=inferInstanceAs (Decidable (∀ i,i < n -> _))
theorem Iz {n k:Nat} (h:k < n):0 <= vV n k /\ vV n k < n:=⟨Int.emod_nonneg _ (by omega),Int.emod_lt_of_pos _ (by omega)⟩
theorem vX {f g:Nat -> V2} {n:Nat} (h:∀ k,k < n -> f k=g k) (hf:oX f n):oX g n:=λ i hi=>by
 have hb:=Iz hi
 have h1:=hf i hi
 unfold vW at h1 ⊢
 rw [h i hi,h (vV n i).toNat (by omega)] at h1
 refine ⟨h1.1,λ k hk a b=>?_⟩
 have:=h1.2 k hk a b
 rwa [h k hk] at this
theorem sG (v w p:V2) (qw qv:Nat) (F:HL) (hqw:(qw,.lit [vI w.x,vI w.y] 30 (0,0)) ∈ F) (hqv:(qv,.lit [vI v.x,vI v.y] 30 (0,0)) ∈ F):Sp Tryz.prog 174 #[.agg #[vI p.x,vI p.y],vP qw 0,vP qv 0] [] F (λ u H'=>u=vI (sF v w p) /\ H'=[]):=by
 refine Sp.run Tryz.func174 rfl (mc hqw (mc hqv mn)) (A:=[]) (Ts:=[]) rfl λ w0=>?_
 refine ae 34 [.ro 0,.ro 1,.own 0,.ro 1,.ro 0,.ro 1,.own 0,.ro 1] λ n1=>?_
 exact RN.ret [] [] [] ⟨rfl,rfl⟩
theorem E2 (v w:V2) (F:HL):Sp Tryz.prog 134 #[.agg #[vI v.x,vI v.y],.agg #[vI w.x,vI w.y]] (ap [] []) F (λ u H'=>∃ n:Nat,H'=ap [((n+1),.lit [vI w.x,vI w.y] 30 (0,0)),((n+0),.lit [vI v.x,vI v.y] 30 (0,0))] [] /\ u=.func (.func 174) #[] #[vP (n+1) 0,vP (n+0) 0]):=by
 refine Sp.run Tryz.func134 rfl mn (A:=[]) (Ts:=[]) rfl λ w0=>?_
 refine ae 13 [] λ n1=>RN.ret [] [0,1] [] (v:=.func (.func 174) #[] #[vP (n1+1) 0,vP (n1+0) 0]) (H':=(ap [((n1+1),.lit [vI w.x,vI w.y] 30 (0,0)),((n1+0),.lit [vI v.x,vI v.y] 30 (0,0))] [])) ?_
 exact ⟨_,rfl,rfl⟩
theorem Cr (n:Nat) (F:HL):Sp Tryz.prog 133 #[vI (n:Int)] (ap [] []) F (λ u H'=>∃ q:Nat,H'=ap [(q,.lit [vI (n:Int)] 3 (0,0))] [] /\ u=.func (.func 173) #[] #[vP q 0]):=by
 refine Sp.run Tryz.func133 rfl mn (A:=[]) (Ts:=[]) rfl λ w0=>?_
 refine ae 12 [] λ n1=>RN.ret [] [0] [] (v:=.func (.func 173) #[] #[vP (n1+0) 0]) (H':=(ap [((n1+0),.lit [vI (n:Int)] 3 (0,0))] [])) ?_
 exact ⟨_,rfl,rfl⟩
theorem yt (n q lp:Nat) (X F:HL) (J:Nat -> HL -> Prop) (Jx:HL -> Prop) (T0:HL) (hn:n <= 1000000) (hq:(q,.lit [vI (n:Int)] 3 (0,0)) ∈ F) (hY:∀ i x H Y,(ub n)[i]?=some x -> J i H -> YL Tryz.prog lp (JY x) H (Y++(X++F)) (λ b H'=>(b=true /\ J (i+1) H') \/ (b=false /\ Jx H'))) (hJ0:J 0 T0):Sp Tryz.prog 173 #[.func (.yield lp) #[] #[],vP q 0] (ap [] [T0]) (X++F) (λ _ H'=>J (ub n).length H' \/ Jx H'):=by
 refine Sp.run Tryz.func173 rfl (mc (List.mem_append_right X hq) mn) (A:=[]) (Ts:=[T0]) rfl λ w0=>?_
 refine ae 7 [.ro 0] λ _=>RN.loop (σ:=Nat × HL) (λ ⟨k,T_⟩=>⟨[(0,.func (.yield lp) #[] #[]),(1,vP q 0),(4,vI (n:Int)),(5,vI (k:Int))],[],[T_],k <= n /\ J k T_,n - k⟩) (0,T0) [] [0] (⟨Nat.zero_le _,hJ0⟩) ?_
 rintro ⟨k,T_⟩ ⟨hk_,hJ_⟩ mt2
 refine ae 6 [] λ _=>RN.em ((k:Int) < (n:Int)) 6 (λ h3=>?_) λ h3=>?_
 ·refine ai 19 [.nw,.ro 0,.nw] [0 <= (k:Int)+1 /\ (0:Int) < (n:Int) /\ (k:Int)+1 <= 9223372036854775807,bg ((k:Int)+1)] λ _=>RN.yield 0 (hY k _ _ _ (vT (by omega)) hJ_) ?_
  rintro b_ T4 (⟨rfl,hJ5⟩ | ⟨rfl,hJ5⟩)
  ·refine ai 11 [.gen,.nw] [bg ((k:Int)+1)] λ _=>?_
   refine mt2 (k+1,T4) [] [0] ?_
   try dsimp only
   exact ⟨⟨by omega,hJ5⟩,by omega⟩
  ·refine ae 4 [] λ _=>RN.ret [] [] [0] (v:=.tuple #[]) (H':=(ap [] [T4])) ?_
   rw [bj]
   exact .inr hJ5
 ·refine ae 5 [] λ _=>RN.ret [] [] [0] (v:=.tuple #[]) (H':=(ap [] [T_])) ?_
  rw [bj]
  obtain rfl:k=n:=by omega
  exact .inl (by rw [qz];exact hJ_)
theorem E3 (n q:Nat) (F:HL) (hn:n <= 1000000) (hq:(q,.lit [vI (n:Int)] 3 (0,0)) ∈ F):It Tryz.prog 173 #[vP q 0] F JY (ub n):=by
 intro X l J Jx H0 hY h0
 have key:=yt n q l X F J Jx H0 hn hq hY h0
 rw [bj] at key
 exact key
theorem E4 (full:List V2) (b o N n cap:Nat) (fz:Nat × Nat) (F:HL) (hb:(b,.rows 2 N (jz full) 30 fz) ∈ F) (ho:o+n <= N) (hnn:n <= 1000000):Sp Tryz.prog 107 #[vS b (o * 2) n cap] [] F (λ u H'=>u=.bool (decide (oX (λ k_=>full.getD (o+k_) ⟨0,0⟩) n)) /\ H'=[]):=by
 refine Sp.runM Tryz.func107 rfl (mc hb mn) (A:=[]) (Ts:=[]) rfl λ w0=>?_
 refine ae 9 [] λ n1=>ae 2 [.own 1] λ _=>RN.ct (Hp:=[]) (Tp:=[]) [] [] (Cr n _) ?_
 rintro _ q2 rfl
 refine ae 3 [] λ _=>RN.range (σ:=Nat) (τ:=Nat) (encs:=λ (x_:Int × Int)=>#[vI x_.1,vI x_.2]) (xs:=(ub n)) (enters_of Tryz.func173 (by kernel_rfl) rfl) (λ m_=>([((n1+1),.lit [.bool false] 4 (0,0)),((n1+0),.lit [vS b (o * 2) n cap] 55 (0,0))],[])) (λ i_ m_=>m_=i_ /\ ∀ t,t < m_ -> vW (λ k_=>full.getD (o+k_) ⟨0,0⟩) n t) (λ c_ m_=>c_=Code.ret /\ ¬ oX (λ k_=>full.getD (o+k_) ⟨0,0⟩) n) (λ m_=>⟨[(1,vP (n1+0) 0),(2,vP (n1+1) 0),(3,vI (m_:Int)),(4,vI (((m_:Int)+1) % (n:Int)))],[((n1+1),.lit [.bool false] 4 (0,0)),((n1+0),.lit [vS b (o * 2) n cap] 55 (0,0))],[],True,0⟩) (λ i_ x_ m_=>m_=i_ /\ ∀ t,t < m_ -> vW (λ k_=>full.getD (o+k_) ⟨0,0⟩) n t) 0 (⟨rfl,λ t ht=>absurd ht (Nat.not_lt_zero _)⟩) [1,2] [] (E3 n q2 _ hnn (aB 0)) ?_ ?_ ?_ ?_
 ·rintro l_ i_ x_ m_ Y3 w4 hx5 hI_ mt6
  obtain ⟨rfl,hok⟩:=hI_
  obtain ⟨hm_,rfl⟩:=vU hx5
  refine ae 8 [] λ _=>?_
  refine mt6 m_ [0,1] [] ?_
  try dsimp only
  exact ⟨rfl,hok⟩
 ·rintro l_ i_ x_ m_ Y7 w8 hx9 hI_
  obtain ⟨rfl,hok⟩:=hI_
  obtain ⟨hm_,rfl⟩:=vU hx9
  have hm1:=Int.emod_nonneg ((m_:Int)+1) (show (n:Int) ≠ 0 by omega)
  have hm2:=Int.emod_lt_of_pos ((m_:Int)+1) (show (0:Int) < n by omega)
  refine ae 2 [] λ _=>RN.draw [] []<|aJ [] [0,1,4,5,2,6,3,7] [.own 1,.own 1,.ix m_,.ix (((((m_:Int)+1) % (n:Int))).toNat),.rorow 1 (o+m_) 0,.rorow 1 (o+m_) 1,.rorow 1 (o+(((((m_:Int)+1) % (n:Int))).toNat)) 0,.rorow 1 (o+(((((m_:Int)+1) % (n:Int))).toNat)) 1] [((o * 2+(((((m_:Int)+1) % (n:Int))).toNat) * 2)+1)=(o+(((((m_:Int)+1) % (n:Int))).toNat)) * 2+1 /\ (o+(((((m_:Int)+1) % (n:Int))).toNat)) < N,(o * 2+(((((m_:Int)+1) % (n:Int))).toNat) * 2)=(o+(((((m_:Int)+1) % (n:Int))).toNat)) * 2+0 /\ (o+(((((m_:Int)+1) % (n:Int))).toNat)) < N,((o * 2+m_ * 2)+1)=(o+m_) * 2+1 /\ (o+m_) < N,(o * 2+m_ * 2)=(o+m_) * 2+0 /\ (o+m_) < N,(((m_:Int)+1) % (n:Int))=((((((m_:Int)+1) % (n:Int))).toNat:Nat):Int) /\ ((((m_:Int)+1) % (n:Int))).toNat < n,(m_:Int)=((m_:Nat):Int) /\ m_ < n]<|RD.one 8 (RDO.ct [] (Hp:=[]) (Tp:=[]) [] [] (E2 (full.getD (o+m_) ⟨0,0⟩) (full.getD (o+(((((m_:Int)+1) % (n:Int))).toNat)) ⟨0,0⟩) _) ?_)
  rintro _ m10 rfl
  refine ag [] [9] []<|RD.fin<|ae 6 [] λ _=>aj (sG (full.getD (o+m_) ⟨0,0⟩) (full.getD (o+(((((m_:Int)+1) % (n:Int))).toNat)) ⟨0,0⟩) (⟨0,0⟩:V2) (m10+1) (m10+0) _ (aB 0) (aB 1))<|ae 3 [] λ _=>RN.em (sF (full.getD (o+m_) ⟨0,0⟩) (full.getD (o+(((((m_:Int)+1) % (n:Int))).toNat)) ⟨0,0⟩) (⟨0,0⟩:V2) <= 0) 25 (λ h11=>?_) λ h11=>?_
  ·refine ae 6 [.own 2] λ _=>RN.rr m_ [2,3] [] ?_
   try dsimp only
   exact ⟨rfl,λ hc_=>(hc_ m_ hm_).1 h11⟩
  ·refine ae 11 [.own 3] λ _=>RN.loop (σ:=Nat) (λ k=>⟨[(2,vP (n1+1) 0),(3,vI (m_:Int)),(4,vI (((m_:Int)+1) % (n:Int))),(5,.func (.func 174) #[] #[vP (m10+1) 0,vP (m10+0) 0]),(26,vS b (o * 2) n cap),(27,vI (n:Int)),(28,vI (k:Int))],[((m10+1),.lit [vI ((full.getD (o+(((((m_:Int)+1) % (n:Int))).toNat)) ⟨0,0⟩).x),vI ((full.getD (o+(((((m_:Int)+1) % (n:Int))).toNat)) ⟨0,0⟩).y)] 30 (0,0)),((m10+0),.lit [vI ((full.getD (o+m_) ⟨0,0⟩).x),vI ((full.getD (o+m_) ⟨0,0⟩).y)] 30 (0,0)),((n1+1),.lit [.bool false] 4 (0,0)),((n1+0),.lit [vS b (o * 2) n cap] 55 (0,0))],[],k <= n /\ ∀ t,t < k -> ¬ (t:Int)=(m_:Int) -> ¬ (t:Int)=vV n m_ -> ¬ sF (full.getD (o+m_) ⟨0,0⟩) (full.getD (o+(vV n m_).toNat) ⟨0,0⟩) (full.getD (o+t) ⟨0,0⟩) <= 0,n - k⟩) 0 [0,1,2,3] [] (⟨Nat.zero_le _,λ t ht=>absurd ht (Nat.not_lt_zero _)⟩) ?_
   rintro k ⟨hkl,hin⟩ mt13
   refine ae 6 [] λ _=>RN.em ((k:Int) < (n:Int)) 29 (λ h14=>?_) λ h14=>?_
   ·refine ai 21 [.ix k,.rorow 1 (o+k) 0,.rorow 1 (o+k) 1,.own 0,.own 0] [((o * 2+k * 2)+1)=(o+k) * 2+1 /\ (o+k) < N,(o * 2+k * 2)=(o+k) * 2+0 /\ (o+k) < N,(k:Int)=((k:Nat):Int) /\ k < n] λ n15=>RN.en ((k:Int)=(m_:Int)) 36 (λ h16=>?_) λ h16=>?_
    ·refine ai 20 [.nw] [bg ((k:Int)+1)] λ _=>?_
     refine mt13 (k+1) [1,2,3,4] [] ?_
     try dsimp only
     refine ⟨⟨by omega,λ t ht e1_ e2_=>?_⟩,by omega⟩
     rcases Nat.lt_or_ge t k with h_ | h_
     ·exact hin t h_ e1_ e2_
     ·obtain rfl:t=k:=by omega
      exact absurd h16 e1_
    ·refine ae 5 [] λ _=>RN.en ((k:Int)=(((m_:Int)+1) % (n:Int))) 41 (λ h17=>?_) λ h17=>?_
     ·refine ai 15 [.nw] [bg ((k:Int)+1)] λ _=>?_
      refine mt13 (k+1) [1,2,3,4] [] ?_
      try dsimp only
      refine ⟨⟨by omega,λ t ht e1_ e2_=>?_⟩,by omega⟩
      rcases Nat.lt_or_ge t k with h_ | h_
      ·exact hin t h_ e1_ e2_
      ·obtain rfl:t=k:=by omega
       exact absurd h17 e2_
     ·refine ae 2 [.own 0,.own 0] λ _=>aj (sG (full.getD (o+m_) ⟨0,0⟩) (full.getD (o+(((((m_:Int)+1) % (n:Int))).toNat)) ⟨0,0⟩) (full.getD (o+k) ⟨0,0⟩) (m10+1) (m10+0) _ (aB 1) (aB 2))<|ae 4 [] λ _=>RN.em (sF (full.getD (o+m_) ⟨0,0⟩) (full.getD (o+(((((m_:Int)+1) % (n:Int))).toNat)) ⟨0,0⟩) (full.getD (o+k) ⟨0,0⟩) <= 0) 46 (λ h18=>?_) λ h18=>?_
      ·refine ae 6 [.own 3] λ _=>RN.rr m_ [3,4] [] ?_
       try dsimp only
       refine ⟨rfl,λ hc_=>?_⟩
       exact (hc_ m_ hm_).2 k (by omega) h16 h17 h18
      ·refine ai 8 [.nw] [bg ((k:Int)+1)] λ _=>?_
       refine mt13 (k+1) [1,2,3,4] [] ?_
       try dsimp only
       refine ⟨⟨by omega,λ t ht e1_ e2_=>?_⟩,by omega⟩
       rcases Nat.lt_or_ge t k with h_ | h_
       ·exact hin t h_ e1_ e2_
       ·obtain rfl:t=k:=by omega
        exact h18
   ·refine ae 6 [] λ _=>RN.rn (m_+1) [2,3] [] ?_
    try dsimp only
    refine ⟨rfl,λ t ht=>?_⟩
    rcases Nat.lt_or_ge t m_ with h_ | h_
    ·exact hok t h_
    ·obtain rfl:t=m_:=by omega
     exact ⟨h11,λ s_ hs_=>hin s_ (by omega)⟩
 ·rintro d19 m_  hI_
  obtain ⟨rfl,hok⟩:=hI_
  refine ae 7 [.own 1] λ _=>RN.retM [d19] [0] [.own 0] [] [] (v:=.bool true) (H':=[]) ?_
  exact ⟨by rw [decide_eq_true (show oX (λ k_=>full.getD (o+k_) ⟨0,0⟩) n from λ t ht=>hok t (by rw [qz];exact ht))],rfl⟩
 ·rintro d20 c_ m_ ⟨rfl,hno⟩
  refine RN.retM [d20] [0] [.own 0] [] [] (v:=.bool false) (H':=[]) ?_
  exact ⟨by rw [decide_eq_false hno],rfl⟩
def rO (n:Int):Prop:=-32768 <= n /\ n <= 32768
instance (n:Int):Decidable (rO n):=inferInstanceAs (Decidable (_ /\ _))
def mu (r:Int):Prop:=1 <= r /\ r <= 32768
instance (r:Int):Decidable (mu r):=inferInstanceAs (Decidable (_ /\ _))
def gN (r:Int) (f:Nat -> V2) (n:Nat):Prop:=(r=0 /\ 3 <= n /\ n <= 6) /\ (∀ k,k < n -> rO (f k).x /\ rO (f k).y) /\ oX f n
instance (r:Int) (f:Nat -> V2) (n:Nat):Decidable (gN r f n):=inferInstanceAs (Decidable (_ /\ _ /\ _))
theorem oY {r:Int} {f g:Nat -> V2} {n:Nat} (h:∀ k,k < n -> f k=g k) (hf:gN r f n):gN r g n :=
 ⟨hf.1,λ k hk=>by rw [<- h k hk];exact hf.2.1 k hk,vX h hf.2.2⟩
def jm (s:Shp):Prop:=if s.poly.length=0 then mu s.r else gN s.r (vat s.poly) s.poly.length
instance (s:Shp):Decidable (jm s):=inferInstanceAs (Decidable (if s.poly.length=0 then mu s.r else gN s.r (vat s.poly) s.poly.length))
theorem nY {r:Int} {A:Option Addr} {cap:Nat}:jm ⟨r,[],A,cap⟩ ↔ mu r:=by
 show (if (0:Nat)=0 then mu r else _) ↔ _
 rw [if_pos rfl]
def Cs (s:Shp):Int:=if jm s then 0 else 10
theorem vY (n:Int)  (F:HL):Sp Tryz.prog 106 #[vI n] [] F (λ u H'=>u=.bool (decide (rO n)) /\ H'=[]):=by
 refine Sp.run Tryz.func106 rfl mn (A:=[]) (Ts:=[]) rfl λ w0=>?_
 refine ae 10 [] λ _=>RN.em ((-32768) <= n) 5 (λ h1=>?_) λ h1=>?_
 ·refine ae 6 [] λ _=>RN.ret [] [] [] (v:=.bool (decide (n <= 32768))) (H':=[]) ?_
  exact ⟨by simp [rO, *],rfl⟩
 ·refine ae 6 [] λ _=>RN.ret [] [] [] (v:=.bool false) (H':=[]) ?_
  exact ⟨by simp [rO, *],rfl⟩
theorem yu (r:Int) (A:Option Addr) (cap:Nat) (F:HL):Sp Tryz.prog 74 #[.agg #[vI r,.slice A 0 cap]] [] F (λ u H'=>u=vI (Cs ⟨r,[],A,cap⟩) /\ H'=[]):=by
 refine Sp.run Tryz.func74 rfl mn (A:=[]) (Ts:=[]) rfl λ w0=>?_
 refine ae 10 [.own 0,.own 0] λ n1=>aj (nM r A 0 cap _)<|ae 10 [.own 0] λ _=>RN.em (r < 1) 10 (λ h2=>?_) λ h2=>?_
 ·refine ae 12 [] λ _=>RN.ret [] [] [] (v:=vI 10) (H':=[]) ?_
  exact ⟨by rw [Cs,if_neg (λ h_=>by have h2_:=nY.1 h_;unfold mu at h2_;omega)],rfl⟩
 ·refine ae 6 [.own 0] λ _=>RN.em (r > 32768) 14 (λ h3=>?_) λ h3=>?_
  ·refine ae 6 [] λ _=>RN.ret [] [] [] (v:=vI 10) (H':=[]) ?_
   exact ⟨by rw [Cs,if_neg (λ h_=>by have h2_:=nY.1 h_;unfold mu at h2_;omega)],rfl⟩
  ·refine ae 8 [] λ _=>RN.ret [] [] [] (v:=vI 0) (H':=[]) ?_
   exact ⟨by rw [Cs,if_pos (nY.2 ⟨by omega,by omega⟩)],rfl⟩
theorem E6 (r:Int) (full:List V2) (b o N n cap:Nat) (fz:Nat × Nat) (F:HL) (hb:(b,.rows 2 N (jz full) 30 fz) ∈ F) (ho:o+n <= N) (h1:1 <= n) (hnn:n <= 1000000):Sp Tryz.prog 74 #[.agg #[vI r,vS b (o * 2) n cap]] [] F (λ u H'=>u=vI (if gN r (λ k_=>full.getD (o+k_) ⟨0,0⟩) n then 0 else 10) /\ H'=[]):=by
 refine Sp.run Tryz.func74 rfl (mc hb mn) (A:=[]) (Ts:=[]) rfl λ w0=>?_
 refine ae 10 [.own 0,.own 0] λ n1=>aj (nM r (some ⟨b,o * 2,none⟩) n cap _)<|ae 2 [] λ _=>RN.fx 6 (decide_eq_false (show ¬ ((n:Int)=0) by omega))<|ae 10 [.own 0] λ _=>RN.en (r=0) 18 (λ h2=>?_) λ h2=>?_
 ·refine ae 6 [.own 0] λ _=>RN.em ((n:Int) < 3) 24 (λ h3=>?_) λ h3=>?_
  ·refine ae 13 [] λ _=>RN.ret [] [] [] (v:=vI 10) (H':=[]) ?_
   exact ⟨by rw [if_neg (show ¬ gN r (λ k_=>full.getD (o+k_) ⟨0,0⟩) n from λ h_=>by have:=h_.1;omega)],rfl⟩
  ·refine ae 7 [.own 0] λ _=>RN.em ((n:Int) > 6) 29 (λ h4=>?_) λ h4=>?_
   ·refine ae 6 [] λ _=>RN.ret [] [] [] (v:=vI 10) (H':=[]) ?_
    exact ⟨by rw [if_neg (show ¬ gN r (λ k_=>full.getD (o+k_) ⟨0,0⟩) n from λ h_=>by have:=h_.1;omega)],rfl⟩
   ·refine ae 13 [.own 0] λ _=>RN.loop (σ:=Nat) (λ k=>⟨[(1,vP (n1+0) 0),(31,vS b (o * 2) n cap),(32,vI (n:Int)),(33,vI (k:Int))],[((n1+0),.lit [vI r,vS b (o * 2) n cap] 57 (0,0))],[],k <= n /\ ∀ t,t < k -> rO (full.getD (o+t) (⟨0,0⟩:V2)).x /\ rO (full.getD (o+t) (⟨0,0⟩:V2)).y,n - k⟩) 0 [0] [] (⟨Nat.zero_le _,λ t ht=>absurd ht (Nat.not_lt_zero _)⟩) ?_
    rintro k ⟨hkl,hin⟩ mt6
    refine ae 6 [] λ _=>RN.em ((k:Int) < (n:Int)) 34 (λ h7=>?_) λ h7=>?_
    ·refine ai 17 [.ix k,.rorow 0 (o+k) 0,.rorow 0 (o+k) 1,.own 0,.own 0,.own 0] [((o * 2+k * 2)+1)=(o+k) * 2+1 /\ (o+k) < N,(o * 2+k * 2)=(o+k) * 2+0 /\ (o+k) < N,(k:Int)=((k:Nat):Int) /\ k < n] λ n8=>aj (vY ((full.getD (o+k) ⟨0,0⟩).x)  _)<|ae 2 [] λ _=>RN.en (rO ((full.getD (o+k) ⟨0,0⟩).x)) 41 (λ h9=>?_) λ h9=>?_
     ·refine ae 2 [.own 0] λ _=>aj (vY ((full.getD (o+k) ⟨0,0⟩).y)  _)<|ae 4 [] λ _=>RN.en (rO ((full.getD (o+k) ⟨0,0⟩).y)) 46 (λ h10=>?_) λ h10=>?_
      ·refine ai 8 [.nw] [bg ((k:Int)+1)] λ _=>?_
       refine mt6 (k+1) [1] [] ?_
       try dsimp only
       refine ⟨⟨by omega,λ t ht=>?_⟩,by omega⟩
       rcases Nat.lt_or_ge t k with h_ | h_
       ·exact hin t h_
       ·obtain rfl:t=k:=by omega
        exact ⟨h9,h10⟩
      ·refine ae 6 [] λ _=>RN.ret [] [] [] (v:=vI 10) (H':=[]) ?_
       exact ⟨by rw [if_neg (show ¬ gN r (λ k_=>full.getD (o+k_) ⟨0,0⟩) n from λ h_=>h10 (h_.2.1 k (by omega)).2)],rfl⟩
     ·refine ae 13 [] λ _=>RN.ret [] [] [] (v:=vI 10) (H':=[]) ?_
      exact ⟨by rw [if_neg (show ¬ gN r (λ k_=>full.getD (o+k_) ⟨0,0⟩) n from λ h_=>h9 (h_.2.1 k (by omega)).1)],rfl⟩
    ·refine ae 11 [.own 0] λ _=>aj (E4 full b o N n cap fz _ (aw hb) ho hnn)<|ae 3 [] λ _=>RN.en (oX (λ k_=>full.getD (o+k_) ⟨0,0⟩) n) 51 (λ h11=>?_) λ h11=>?_
     ·refine ae 8 [] λ _=>RN.ret [] [] [] (v:=vI 0) (H':=[]) ?_
      exact ⟨by rw [if_pos (show gN r (λ k_=>full.getD (o+k_) ⟨0,0⟩) n from ⟨⟨by omega,by omega,by omega⟩,λ t ht=>hin t (by omega),h11⟩)],rfl⟩
     ·refine ae 6 [] λ _=>RN.ret [] [] [] (v:=vI 10) (H':=[]) ?_
      exact ⟨by rw [if_neg (show ¬ gN r (λ k_=>full.getD (o+k_) ⟨0,0⟩) n from λ h_=>h11 h_.2.2)],rfl⟩
 ·refine ae 19 [] λ _=>RN.ret [] [] [] (v:=vI 10) (H':=[]) ?_
  exact ⟨by rw [if_neg (show ¬ gN r (λ k_=>full.getD (o+k_) ⟨0,0⟩) n from λ h_=>by have:=h_.1;omega)],rfl⟩
theorem IA (s:Shp) (F:HL) (h:RowL kM 30 F s.A s.poly.length s.poly) (hn:s.poly.length <= 1000000):Sp Tryz.prog 74 #[L3 s] [] F (λ u H'=>u=vI (Cs s) /\ H'=[]):=by
 obtain ⟨r,l,A,cap⟩:=s
 simp only at h hn
 rcases Nat.eq_zero_or_pos l.length with h0 | h0
 ·obtain rfl:l=[]:=List.eq_nil_of_length_eq_zero h0
  exact yu r A cap F
 ·generalize hm:l.length=m at h h0 hn
  cases h with
  | zero=>omega
  | rows q o N full fz n xs hq ho hn' hx =>
   have:=E6 r full q o N m cap fz F hq ho h0 hn
   have e:Cs ⟨r,l,some ⟨q,o * 2,none⟩,cap⟩=if gN r (λ k_=>full.getD (o+k_) ⟨0,0⟩) m then 0 else 10:=by
    have e1:jm ⟨r,l,some ⟨q,o * 2,none⟩,cap⟩ ↔ gN r (λ k_=>full.getD (o+k_) ⟨0,0⟩) m:=by
     unfold jm
     simp only
     rw [if_neg (by omega),hm]
     exact ⟨oY λ k hk=>(hx k hk).symm,oY λ k hk=>hx k hk⟩
    unfold Cs
    by_cases hc:gN r (λ k_=>full.getD (o+k_) ⟨0,0⟩) m
    ·rw [if_pos hc,if_pos (e1.2 hc)]
    ·rw [if_neg hc,if_neg λ h=>hc (e1.1 h)]
   show Sp _ _ #[.agg #[vI r,.slice (some ⟨q,o * 2,none⟩) l.length cap]] _ _ (λ u H'=>u=vI (Cs ⟨r,l,some ⟨q,o * 2,none⟩,cap⟩) /\ H'=[])
   rw [e,hm]
   exact this
structure SetSh (F:HL) (S:Setup):Prop where
 nb:S.nb <= 1000000
 blk:(S.bb,.rows 9 S.bR (iw S.bods) 62 (0,0)) ∈ F
 room:S.bo+S.nb <= S.bR
 pol:∀ k,k < S.nb -> RowL kM 30 F (S.body k).sh.A (S.body k).sh.poly.length (S.body k).sh.poly /\ (S.body k).sh.poly.length <= 1000000
theorem SetSh.up {F X:HL} {S:Setup} (h:SetSh F S):SetSh (X++F) S:=⟨h.nb,List.mem_append_right _ h.blk,h.room,λ k hk=>⟨(h.pol k hk).1.up,(h.pol k hk).2⟩⟩
theorem ShIn.rowL {F:HL} {s:Shp} (h:ShIn F s):RowL kM 30 F s.A s.poly.length s.poly /\ s.poly.length <= 1000000:=by
 cases h with
 | circle r A cap=>exact ⟨.zero _,Nat.zero_le _⟩
 | poly r l b cap h h3 h4 h5=>exact ⟨RowL.whole (e:=kM) h h4,h5⟩
def rP (S:Setup) (rs:List Bx) (ds:List Dr):Prop:=i8 S /\ ge S.box /\ kQ S rs ds
instance (S:Setup) (rs:List Bx) (ds:List Dr):Decidable (rP S rs ds):=inferInstanceAs (Decidable (_ /\ _))
def fh (S:Setup) (rs:List Bx) (ds:List Dr):Int:=if ∀ k,k < S.nb -> jm (S.body k).sh then (if rP S rs ds then (if ∀ k,k < S.nb -> fc (S.body k) S.box then 0 else 11) else 11) else 10
theorem KW {s:Shp} (h:Cs s=0):jm s:=by
 unfold Cs at h
 split at h
 ·assumption
 ·omega
theorem KX {s:Shp} (h:¬ Cs s=0):¬ jm s:=λ hc=>h (by rw [Cs,if_pos hc])
theorem z7 (S:Setup) (rs:List Bx) (ds:List Dr) (F:HL) (hS:SetSh F S) (hM:MapIn F S rs ds):Sp Tryz.prog 41 #[(Setup.v S)] [] F (λ u H'=>u=vI (fh S rs ds) /\ H'=[]):=by
 have hn:=hS.nb
 have hr:=hS.room
 refine Sp.run Tryz.func41 rfl (mc hS.blk mn) (A:=[]) (Ts:=[]) rfl λ w0=>?_
 refine ae 16 [.own 0] λ n1=>RN.loop (σ:=Nat) (λ k=>⟨[(1,vP (n1+0) 0),(8,vS S.bb (S.bo * 9) S.nb S.bc),(9,vI (S.nb:Int)),(10,vI (k:Int))],[((n1+0),.lit (Setup.l S) 32 (0,0))],[],k <= S.nb /\ ∀ t,t < k -> jm (S.body t).sh,S.nb - k⟩) 0 [0] [] (⟨Nat.zero_le _,λ t ht=>absurd ht (Nat.not_lt_zero _)⟩) ?_
 rintro k ⟨hkl,hsh⟩ mt3
 refine ae 6 [] λ _=>RN.em ((k:Int) < (S.nb:Int)) 11 (λ h4=>?_) λ h4=>?_
 ·refine ai 17 ([.ix k,.rorow 0 (S.bo+k) 0,.rorow 0 (S.bo+k) 1,.rorow 0 (S.bo+k) 2,.rorow 0 (S.bo+k) 3,.rorow 0 (S.bo+k) 4,.rorow 0 (S.bo+k) 5,.rorow 0 (S.bo+k) 6,.rorow 0 (S.bo+k) 7,.rorow 0 (S.bo+k) 8]++ow 0 11) [((S.bo * 9+k * 9)+8)=(S.bo+k) * 9+8 /\ (S.bo+k) < S.bR,((S.bo * 9+k * 9)+7)=(S.bo+k) * 9+7 /\ (S.bo+k) < S.bR,((S.bo * 9+k * 9)+6)=(S.bo+k) * 9+6 /\ (S.bo+k) < S.bR,((S.bo * 9+k * 9)+5)=(S.bo+k) * 9+5 /\ (S.bo+k) < S.bR,((S.bo * 9+k * 9)+4)=(S.bo+k) * 9+4 /\ (S.bo+k) < S.bR,((S.bo * 9+k * 9)+3)=(S.bo+k) * 9+3 /\ (S.bo+k) < S.bR,((S.bo * 9+k * 9)+2)=(S.bo+k) * 9+2 /\ (S.bo+k) < S.bR,((S.bo * 9+k * 9)+1)=(S.bo+k) * 9+1 /\ (S.bo+k) < S.bR,(S.bo * 9+k * 9)=(S.bo+k) * 9+0 /\ (S.bo+k) < S.bR,(k:Int)=((k:Nat):Int) /\ k < S.nb] λ n5=>aj (IA ((S.bods.getD (S.bo+k) dB).sh) _ (hS.pol k (by omega)).1.up (hS.pol k (by omega)).2)<|ae 3 [] λ _=>RN.en (Cs ((S.bods.getD (S.bo+k) dB).sh)=0) 17 (λ h6=>?_) λ h6=>?_
  ·refine ai 8 [.nw] [bg ((k:Int)+1)] λ _=>?_
   refine mt3 (k+1) [1] [] ?_
   try dsimp only
   refine ⟨⟨by omega,λ t ht=>?_⟩,by omega⟩
   rcases Nat.lt_or_ge t k with h_ | h_
   ·exact hsh t h_
   ·obtain rfl:t=k:=by omega
    exact KW h6
  ·refine ae 6 [] λ _=>RN.ret [] [] [] (v:=vI 10) (H':=[]) ?_
   exact ⟨by rw [fh,if_neg (show ¬ ∀ k,k < S.nb -> jm (S.body k).sh from λ h_=>KX h6 (h_ k (by omega)))],rfl⟩
 ·refine ae 10 (ow 0 16) λ _=>aj (E0 S _)<|ae 2 [] λ _=>RN.en (i8 S) 22 (λ h7=>?_) λ h7=>?_
  ·refine ae 2 [.own 0,.own 0,.own 0,.own 0] λ _=>aj (qx S.box  _)<|ae 3 [] λ _=>RN.en (ge S.box) 28 (λ h8=>?_) λ h8=>?_
   ·refine ae 1 (ow 0 16) λ _=>aj (E1 S rs ds _ hM.up)<|ae 4 [] λ _=>RN.en (kQ S rs ds) 32 (λ h9=>?_) λ h9=>?_
    ·refine ae 13 [.own 0] λ _=>RN.loop (σ:=Nat) (λ j=>⟨[(1,vP (n1+0) 0),(34,vS S.bb (S.bo * 9) S.nb S.bc),(35,vI (S.nb:Int)),(36,vI (j:Int))],[((n1+0),.lit (Setup.l S) 32 (0,0))],[],j <= S.nb /\ ∀ t,t < j -> fc (S.body t) S.box,S.nb - j⟩) 0 [0] [] (⟨Nat.zero_le _,λ t ht=>absurd ht (Nat.not_lt_zero _)⟩) ?_
     rintro j ⟨hjl,hvb⟩ mt11
     refine ae 6 [] λ _=>RN.em ((j:Int) < (S.nb:Int)) 37 (λ h12=>?_) λ h12=>?_
     ·refine ai 18 ([.ix j,.rorow 0 (S.bo+j) 0,.rorow 0 (S.bo+j) 1,.rorow 0 (S.bo+j) 2,.rorow 0 (S.bo+j) 3,.rorow 0 (S.bo+j) 4,.rorow 0 (S.bo+j) 5,.rorow 0 (S.bo+j) 6,.rorow 0 (S.bo+j) 7,.rorow 0 (S.bo+j) 8]++ow 0 18++[.own 1,.own 1,.own 1,.own 1]) [((S.bo * 9+j * 9)+8)=(S.bo+j) * 9+8 /\ (S.bo+j) < S.bR,((S.bo * 9+j * 9)+7)=(S.bo+j) * 9+7 /\ (S.bo+j) < S.bR,((S.bo * 9+j * 9)+6)=(S.bo+j) * 9+6 /\ (S.bo+j) < S.bR,((S.bo * 9+j * 9)+5)=(S.bo+j) * 9+5 /\ (S.bo+j) < S.bR,((S.bo * 9+j * 9)+4)=(S.bo+j) * 9+4 /\ (S.bo+j) < S.bR,((S.bo * 9+j * 9)+3)=(S.bo+j) * 9+3 /\ (S.bo+j) < S.bR,((S.bo * 9+j * 9)+2)=(S.bo+j) * 9+2 /\ (S.bo+j) < S.bR,((S.bo * 9+j * 9)+1)=(S.bo+j) * 9+1 /\ (S.bo+j) < S.bR,(S.bo * 9+j * 9)=(S.bo+j) * 9+0 /\ (S.bo+j) < S.bR,(j:Int)=((j:Nat):Int) /\ j < S.nb] λ n13=>aj (Cq (S.bods.getD (S.bo+j) dB) S.box _)<|ae 3 [] λ _=>RN.en (fc (S.bods.getD (S.bo+j) dB) S.box) 44 (λ h14=>?_) λ h14=>?_
      ·refine ai 8 [.nw] [bg ((j:Int)+1)] λ _=>?_
       refine mt11 (j+1) [1] [] ?_
       try dsimp only
       refine ⟨⟨by omega,λ t ht=>?_⟩,by omega⟩
       rcases Nat.lt_or_ge t j with h_ | h_
       ·exact hvb t h_
       ·obtain rfl:t=j:=by omega
        exact h14
      ·refine ae 6 [] λ _=>RN.ret [] [] [] (v:=vI 11) (H':=[]) ?_
       exact ⟨by rw [fh,if_pos (show ∀ k,k < S.nb -> jm (S.body k).sh from λ t ht=>hsh t (by omega)),if_pos (show rP S rs ds from ⟨h7,h8,h9⟩),if_neg (show ¬ ∀ k,k < S.nb -> fc (S.body k) S.box from λ h_=>h14 (h_ j (by omega)))],rfl⟩
     ·refine ae 11 [] λ _=>RN.ret [] [] [] (v:=vI 0) (H':=[]) ?_
      exact ⟨by rw [fh,if_pos (show ∀ k,k < S.nb -> jm (S.body k).sh from λ t ht=>hsh t (by omega)),if_pos (show rP S rs ds from ⟨h7,h8,h9⟩),if_pos (show ∀ k,k < S.nb -> fc (S.body k) S.box from λ t ht=>hvb t (by omega))],rfl⟩
    ·refine ae 6 [] λ _=>RN.ret [] [] [] (v:=vI 11) (H':=[]) ?_
     exact ⟨by rw [fh,if_pos (show ∀ k,k < S.nb -> jm (S.body k).sh from λ t ht=>hsh t (by omega)),if_neg (show ¬ rP S rs ds from λ h_=>h9 h_.2.2)],rfl⟩
   ·refine ae 12 [] λ _=>RN.ret [] [] [] (v:=vI 11) (H':=[]) ?_
    exact ⟨by rw [fh,if_pos (show ∀ k,k < S.nb -> jm (S.body k).sh from λ t ht=>hsh t (by omega)),if_neg (show ¬ rP S rs ds from λ h_=>h8 h_.2.1)],rfl⟩
  ·refine ae 18 [] λ _=>RN.ret [] [] [] (v:=vI 11) (H':=[]) ?_
   exact ⟨by rw [fh,if_pos (show ∀ k,k < S.nb -> jm (S.body k).sh from λ t ht=>hsh t (by omega)),if_neg (show ¬ rP S rs ds from λ h_=>h7 h_.1)],rfl⟩
end Go.Proofs.YtobflkidpfkcaaaGreatDoor
