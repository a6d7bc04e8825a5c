import Derived.Test.YthoijjeddhfcnaaGreatDoorZ16
set_option maxHeartbeats 4000000
set_option maxRecDepth 100000
set_option linter.unusedSimpArgs false
set_option linter.unusedVariables false
namespace Go.Proofs.YthoijjeddhfcnaaGreatDoor
open Go.RowKit
def qT(pl:Int)(xs:List Int)(t:Int)(q:Nat):Int:=if xs.length>0 then aP (xs.getD ((t*pl+(q:Int)) % (xs.length:Int)).toNat 0) 1000000 else 0
def vu(n:Int):Inp:=⟨n % 3-1,n / 3 % 3-1,if n / 9 % 3=0 then n / 27 % 4 else 0⟩
def tC(pl:Int)(xs:List Int)(t:Int)(q:Nat):Inp:=vu (qT pl xs t q)
def rowL(pl:Int)(xs:List Int)(t:Int)(n:Nat):List Inp:=(List.range n).map (tC pl xs t)
theorem fc(pl:Int)(xs:List Int)(t:Int)(n:Nat):(rowL pl xs t n).length=n:=by simp[rowL]
theorem nD(pl:Int)(xs:List Int)(t:Int)(n:Nat):rowL pl xs t (n+1)=rowL pl xs t n++[tC pl xs t n]:=by simp[rowL,List.range_succ]
theorem EM{pl:Int}{xs:List Int}{t:Int}{n i:Nat}(h:i<n):(rowL pl xs t n).getD i dI=tC pl xs t i:=by simp[rowL,h]
theorem Io{F:HL}{A:Option Addr}{n:Nat}{xs:List Int}(h:ArgL F A n xs)(pl t:Int)(q:Nat):0 <= qT pl xs t q /\ qT pl xs t q<1000000:=by
 unfold qT
 split
 ·next hi =>
  rw[h.len] at hi
  have h1:=Int.emod_nonneg (t*pl+(q:Int)) (show (n:Int)≠0 by omega)
  have h2:=Int.emod_lt_of_pos (t*pl+(q:Int)) (show (0:Int)<n by omega)
  rw[h.len]
  obtain⟨_,_,_,_,_,_,_,_,_,_,hr⟩:=h.at (k:=((t*pl+(q:Int)) % (n:Int)).toNat) (by omega)
  exact fl hr 1000000 (by decide)
 ·omega
theorem Ip(S:Setup)(A:Option Addr)(n cap:Nat)(xs:List Int)(t:Int)(F:HL)(hl:ArgL F A n xs)(hn:n <= 9223372036854775807)(hp:0 <= S.players /\ S.players <= 1000000)(ht:0 <= t /\ t <= 1000000):Sp Tryz.prog 11 #[(Setup.v S),.slice A n cap,vI t] [] F (λ u H'=>∃x:Option Addr × Nat × HL,H'=ap [] [x.2.2] /\ (u=.slice x.1 S.players.toNat x.2.1 /\ SlIs mN 93 (rowL S.players xs t S.players.toNat) x.1 x.2.1 x.2.2 /\ dV x.1)):=by
 have hm:0 <= t*S.players /\ t*S.players <= 1000000000000:=⟨Int.mul_nonneg ht.1 hp.1,Int.le_trans (Int.mul_le_mul ht.2 hp.2 hp.1 (by decide)) (by decide)⟩
 refine Sp.run Tryz.func11 rfl mn (A:=[]) (Ts:=[]) rfl λ w0=>?_
 refine aa 18 [] λ n1=>RN.nt<|RN.loop (σ:=Nat × Option Addr × Nat × HL) (λ ⟨q,A_,c_,T_⟩=>⟨[(1,.slice A n cap),(2,vI t),(3,vP (n1+0) 0),(7,.slice A_ q c_),(8,vI (q:Int))],[((n1+0),.lit (Setup.l S) 31 (0,0))],[T_],(q:Int) <= S.players /\ SlIs mN 93 (rowL S.players xs t q) A_ c_ T_ /\ dV A_,S.players.toNat-q⟩) (0,none,0,[]) [0] [0] (⟨by show (0:Int) <= _;omega,SlIs.nil _ _,trivial⟩) ?_
 rintro⟨q,A_,c_,T_⟩ ⟨YO,P1,TM⟩ PK
 refine aa 9 [.own 0] λ _=>RN.em ((q:Int)<S.players) 14 (λ h4=>?_) λ h4=>?_
 ·refine aa 18 [] λ _=>RN.em ((n:Int)>0) 19 (λ h5=>?_) λ h5=>?_
  ·refine aq 12 [.own 0,.nw,.nw,.nw] [0 <= (t*S.players)+(q:Int) /\ (0:Int)<(n:Int) /\ (t*S.players)+(q:Int) <= 9223372036854775807,bF ((t*S.players)+(q:Int)),bF (t*S.players)] λ _=>?_
   have hix1:=Int.emod_nonneg (t*S.players+(q:Int)) (show (n:Int)≠0 by omega)
   have hix2:=Int.emod_lt_of_pos (t*S.players+(q:Int)) (show (0:Int)<n by omega)
   obtain⟨qx6,Qo,Ws,gx6,Ze,Yf,R8,SG,Xp,SN,Vu⟩:=hl.at (k:=((t*S.players+(q:Int)) % (n:Int)).toNat) (by omega)
   refine bZ 20 (congrArg (λ v_=>(.slice v_ n cap:Value)) R8)<|RN.ro (λ _=>(mc SG mn))<|aq 2 [.ix ((((t*S.players)+(q:Int)) % (n:Int)).toNat),.rorow 0 (Qo+((((t*S.players)+(q:Int)) % (n:Int)).toNat)) 0] [(Qo+((((t*S.players)+(q:Int)) % (n:Int)).toNat)*1)=(Qo+((((t*S.players)+(q:Int)) % (n:Int)).toNat))*1+0 /\ (Qo+((((t*S.players)+(q:Int)) % (n:Int)).toNat))<Ws,((t*S.players)+(q:Int)) % (n:Int)=(((((t*S.players)+(q:Int)) % (n:Int)).toNat:Nat):Int) /\ (((t*S.players)+(q:Int)) % (n:Int)).toNat<n] λ _=>bZ 31 (congrArg (λ v_=>(v_:Value)) SN)<|al (fZ (xs.getD (((t*S.players+(q:Int)) % (n:Int)).toNat) 0) 1000000 (by decide) _) ?_
   have hA7:=fl (n:=xs.getD (((t*S.players+(q:Int)) % (n:Int)).toNat) 0) Vu 1000000 (by decide)
   refine aa 4 [] λ _=>aq 22 [.nw,.nw,.nw,.nw,.nw,.own 0,.own 0,.own 0,.nw,.nw] [0 <= (aP (xs.getD (((t*S.players+(q:Int)) % (n:Int)).toNat) 0) 1000000) / 9 /\ (0:Int)<3 /\ (aP (xs.getD (((t*S.players+(q:Int)) % (n:Int)).toNat) 0) 1000000) / 9 <= 9223372036854775807,0 <= aP (xs.getD (((t*S.players+(q:Int)) % (n:Int)).toNat) 0) 1000000 /\ (0:Int)<9 /\ aP (xs.getD (((t*S.players+(q:Int)) % (n:Int)).toNat) 0) 1000000 <= 9223372036854775807,bF ((((aP (xs.getD (((t*S.players+(q:Int)) % (n:Int)).toNat) 0) 1000000) / 3) % 3)-1),0 <= (aP (xs.getD (((t*S.players+(q:Int)) % (n:Int)).toNat) 0) 1000000) / 3 /\ (0:Int)<3 /\ (aP (xs.getD (((t*S.players+(q:Int)) % (n:Int)).toNat) 0) 1000000) / 3 <= 9223372036854775807,0 <= aP (xs.getD (((t*S.players+(q:Int)) % (n:Int)).toNat) 0) 1000000 /\ (0:Int)<3 /\ aP (xs.getD (((t*S.players+(q:Int)) % (n:Int)).toNat) 0) 1000000 <= 9223372036854775807,bF (((aP (xs.getD (((t*S.players+(q:Int)) % (n:Int)).toNat) 0) 1000000) % 3)-1),0 <= aP (xs.getD (((t*S.players+(q:Int)) % (n:Int)).toNat) 0) 1000000 /\ (0:Int)<3 /\ aP (xs.getD (((t*S.players+(q:Int)) % (n:Int)).toNat) 0) 1000000 <= 9223372036854775807] λ n8=>RN.em (((aP (xs.getD (((t*S.players+(q:Int)) % (n:Int)).toNat) 0) 1000000) / 9) % 3=0) 44 (λ h9=>?_) λ h9=>?_
   ·refine aq 13 [.nw,.nw,.own 0,.own 0,.own 0,.own 0] [0 <= (aP (xs.getD (((t*S.players+(q:Int)) % (n:Int)).toNat) 0) 1000000) / 27 /\ (0:Int)<4 /\ (aP (xs.getD (((t*S.players+(q:Int)) % (n:Int)).toNat) 0) 1000000) / 27 <= 9223372036854775807,0 <= aP (xs.getD (((t*S.players+(q:Int)) % (n:Int)).toNat) 0) 1000000 /\ (0:Int)<27 /\ aP (xs.getD (((t*S.players+(q:Int)) % (n:Int)).toNat) 0) 1000000 <= 9223372036854775807] λ Qw=>?_
    have Pw:tC S.players xs t q=(⟨((aP (xs.getD (((t*S.players+(q:Int)) % (n:Int)).toNat) 0) 1000000) % 3)-1,(((aP (xs.getD (((t*S.players+(q:Int)) % (n:Int)).toNat) 0) 1000000) / 3) % 3)-1,((aP (xs.getD (((t*S.players+(q:Int)) % (n:Int)).toNat) 0) 1000000) / 27) % 4⟩:Inp):=by
     unfold tC
     rw[show qT S.players xs t q=aP (xs.getD (((t*S.players+(q:Int)) % (n:Int)).toNat) 0) 1000000 from by unfold qT;rw[hl.len];rw[if_pos (by omega)]]
     first|rfl|(unfold vu;simp only[if_pos h9])
    refine kC xA (rowL S.players xs t q) [(⟨((aP (xs.getD (((t*S.players+(q:Int)) % (n:Int)).toNat) 0) 1000000) % 3)-1,(((aP (xs.getD (((t*S.players+(q:Int)) % (n:Int)).toNat) 0) 1000000) / 3) % 3)-1,((aP (xs.getD (((t*S.players+(q:Int)) % (n:Int)).toNat) 0) 1000000) / 27) % 4⟩:Inp)] 0 0 (fc _ _ _ _).symm P1 (by rw[fc];show q+1 <= 100000000;omega) ?_
    rintro A11 c12 Sl ⟨ZN,Zy⟩
    refine aq 9 [.nw] [bF ((q:Int)+1)] λ _=>?_
    have Sy:=Zy TM
    refine PK (q+1,A11,c12,Sl) [2] [0] ?_
    try dsimp only
    refine⟨⟨by omega,?_,Sy⟩,by omega⟩
    rw[nD,Pw]
    exact ZN
   ·refine aa 7 [.own 0,.own 0,.own 0] λ n16=>?_
    have Pw:tC S.players xs t q=(⟨((aP (xs.getD (((t*S.players+(q:Int)) % (n:Int)).toNat) 0) 1000000) % 3)-1,(((aP (xs.getD (((t*S.players+(q:Int)) % (n:Int)).toNat) 0) 1000000) / 3) % 3)-1,0⟩:Inp):=by
     unfold tC
     rw[show qT S.players xs t q=aP (xs.getD (((t*S.players+(q:Int)) % (n:Int)).toNat) 0) 1000000 from by unfold qT;rw[hl.len];rw[if_pos (by omega)]]
     first|rfl|(unfold vu;simp only[if_neg h9])
    refine kC xA (rowL S.players xs t q) [(⟨((aP (xs.getD (((t*S.players+(q:Int)) % (n:Int)).toNat) 0) 1000000) % 3)-1,(((aP (xs.getD (((t*S.players+(q:Int)) % (n:Int)).toNat) 0) 1000000) / 3) % 3)-1,0⟩:Inp)] 0 0 (fc _ _ _ _).symm P1 (by rw[fc];show q+1 <= 100000000;omega) ?_
    rintro Y_ Y1 RS ⟨ZK,Zw⟩
    refine aq 9 [.nw] [bF ((q:Int)+1)] λ _=>?_
    have Sy:=Zw TM
    refine PK (q+1,Y_,Y1,RS) [2] [0] ?_
    try dsimp only
    refine⟨⟨by omega,?_,Sy⟩,by omega⟩
    rw[nD,Pw]
    exact ZK
  ·refine aa 4 [] λ _=>aa 35 (ow 0 7) λ Wv=>?_
   have Pw:tC S.players xs t q=(⟨(-1),(-1),0⟩:Inp):=by
    unfold tC
    rw[show qT S.players xs t q=0 from by unfold qT;rw[hl.len];rw[if_neg (by omega)]]
    rfl
   refine kC xA (rowL S.players xs t q) [(⟨(-1),(-1),0⟩:Inp)] 0 0 (fc _ _ _ _).symm P1 (by rw[fc];show q+1 <= 100000000;omega) ?_
   rintro A23 c24 WT ⟨ZJ,Zv⟩
   refine aq 9 [.nw] [bF ((q:Int)+1)] λ _=>?_
   have Sy:=Zv TM
   refine PK (q+1,A23,c24,WT) [2] [0] ?_
   try dsimp only
   refine⟨⟨by omega,?_,Sy⟩,by omega⟩
   rw[nD,Pw]
   exact ZJ
 ·refine aa 12 [] λ _=>RN.ret [] [] [0] (v:=.slice A_ q c_) (H':=(ap [] [T_])) ?_
  have ei:q=S.players.toNat:=by omega
  subst ei
  exact⟨(A_,c_,T_),rfl,rfl,P1,TM⟩
theorem oD(a:Addr)(n c:Nat)(xs:List Bod)(F:HL)(hl:SrcIn Tryz.prog jM F (some a) n xs)(hb:n <= 100000000):Sp Tryz.prog 56 #[.slice (some a) n c] [] F (λ u H'=>∃x:Option Addr × Nat × HL,H'=ap [] [x.2.2] /\ (u=.slice x.1 n x.2.1 /\ ClS jM 73 xs x.1 x.2.1 x.2.2)):=by
 refine Sp.run Tryz.func56 rfl mn (A:=[]) (Ts:=[]) rfl λ w0=>?_
 refine aa 19 [] λ n1=>RN.nt<|mW (A:=(some ⟨(n1+0),0,none⟩)) (B:=(some a)) (c':=c) xz xs 0 (λ a_ e_=>by cases e_;rfl) (m:=n) (tx:=23) hl.1.1.symm (by rw[hl.1.1];exact hb) (λ e_ he X w hR=>hl.2 c he X w hR) ?_
 rintro A2 c3 T4 TT
 refine aa 3 [] λ _=>RN.ret [] [] [0] (v:=.slice A2 xs.length c3) (H':=(ap [] [T4])) ?_
 exact⟨(A2,c3,T4),rfl,by rw[hl.1.1],_,TT⟩
theorem oE(c:Nat)(F:HL):Sp Tryz.prog 56 #[.slice none 0 c] [] F (λ u H'=>∃x:Option Addr × Nat × HL,H'=ap [] [x.2.2] /\ (u=.slice x.1 0 x.2.1 /\ ClS jM 73 [] x.1 x.2.1 x.2.2)):=by
 refine Sp.run Tryz.func56 rfl mn (A:=[]) (Ts:=[]) rfl λ w0=>?_
 refine aa 18 [] λ _=>RN.ret [] [] [] (v:=.slice none 0 0) (H':=(ap [] [])) ?_
 exact⟨(none,0,[]),rfl,rfl,.nil _ _ _⟩
theorem pE(A:Option Addr)(n c:Nat)(xs:List Bod)(F:HL)(hl:SrcIn Tryz.prog jM F A n xs)(hb:n <= 100000000):Sp Tryz.prog 56 #[.slice A n c] (ap [] []) F (λ u H'=>∃x:Option Addr × Nat × HL,H'=ap [] [x.2.2] /\ (u=.slice x.1 n x.2.1 /\ ClS jM 73 xs x.1 x.2.1 x.2.2)):=by
 cases A with
 | some a=>exact oD a n c xs F hl hb
 | none =>
  obtain rfl:n=0:=hl.1.2 rfl
  obtain rfl:xs=[]:=List.eq_nil_of_length_eq_zero hl.1.1
  exact oE c F
theorem pF(a:Addr)(n c:Nat)(xs:List V2)(F:HL)(hl:SrcIn Tryz.prog lI F (some a) n xs)(hb:n <= 100000000):Sp Tryz.prog 57 #[.slice (some a) n c] [] F (λ u H'=>∃x:Option Addr × Nat × HL,H'=ap [] [x.2.2] /\ (u=.slice x.1 n x.2.1 /\ ClS lI 29 xs x.1 x.2.1 x.2.2)):=by
 refine Sp.run Tryz.func57 rfl mn (A:=[]) (Ts:=[]) rfl λ w0=>?_
 refine aa 19 [] λ n1=>RN.nt<|mW (A:=(some ⟨(n1+0),0,none⟩)) (B:=(some a)) (c':=c) EK xs 0 (λ a_ e_=>by cases e_;rfl) (m:=n) (tx:=69) hl.1.1.symm (by rw[hl.1.1];exact hb) (λ e_ he X w hR=>hl.2 c he X w hR) ?_
 rintro A2 c3 T4 TT
 refine aa 3 [] λ _=>RN.ret [] [] [0] (v:=.slice A2 xs.length c3) (H':=(ap [] [T4])) ?_
 exact⟨(A2,c3,T4),rfl,by rw[hl.1.1],_,TT⟩
theorem pG(c:Nat)(F:HL):Sp Tryz.prog 57 #[.slice none 0 c] [] F (λ u H'=>∃x:Option Addr × Nat × HL,H'=ap [] [x.2.2] /\ (u=.slice x.1 0 x.2.1 /\ ClS lI 29 [] x.1 x.2.1 x.2.2)):=by
 refine Sp.run Tryz.func57 rfl mn (A:=[]) (Ts:=[]) rfl λ w0=>?_
 refine aa 18 [] λ _=>RN.ret [] [] [] (v:=.slice none 0 0) (H':=(ap [] [])) ?_
 exact⟨(none,0,[]),rfl,rfl,.nil _ _ _⟩
theorem qU(A:Option Addr)(n c:Nat)(xs:List V2)(F:HL)(hl:SrcIn Tryz.prog lI F A n xs)(hb:n <= 100000000):Sp Tryz.prog 57 #[.slice A n c] (ap [] []) F (λ u H'=>∃x:Option Addr × Nat × HL,H'=ap [] [x.2.2] /\ (u=.slice x.1 n x.2.1 /\ ClS lI 29 xs x.1 x.2.1 x.2.2)):=by
 cases A with
 | some a=>exact pF a n c xs F hl hb
 | none =>
  obtain rfl:n=0:=hl.1.2 rfl
  obtain rfl:xs=[]:=List.eq_nil_of_length_eq_zero hl.1.1
  exact pG c F
theorem pH(a:Addr)(n c:Nat)(xs:List Bx)(F:HL)(hl:SrcIn Tryz.prog fj F (some a) n xs)(hb:n <= 100000000):Sp Tryz.prog 58 #[.slice (some a) n c] [] F (λ u H'=>∃x:Option Addr × Nat × HL,H'=ap [] [x.2.2] /\ (u=.slice x.1 n x.2.1 /\ ClS fj 25 xs x.1 x.2.1 x.2.2)):=by
 refine Sp.run Tryz.func58 rfl mn (A:=[]) (Ts:=[]) rfl λ w0=>?_
 refine aa 19 [] λ n1=>RN.nt<|mW (A:=(some ⟨(n1+0),0,none⟩)) (B:=(some a)) (c':=c) Kd xs 0 (λ a_ e_=>by cases e_;rfl) (m:=n) (tx:=26) hl.1.1.symm (by rw[hl.1.1];exact hb) (λ e_ he X w hR=>hl.2 c he X w hR) ?_
 rintro A2 c3 T4 TT
 refine aa 3 [] λ _=>RN.ret [] [] [0] (v:=.slice A2 xs.length c3) (H':=(ap [] [T4])) ?_
 exact⟨(A2,c3,T4),rfl,by rw[hl.1.1],_,TT⟩
theorem pI(c:Nat)(F:HL):Sp Tryz.prog 58 #[.slice none 0 c] [] F (λ u H'=>∃x:Option Addr × Nat × HL,H'=ap [] [x.2.2] /\ (u=.slice x.1 0 x.2.1 /\ ClS fj 25 [] x.1 x.2.1 x.2.2)):=by
 refine Sp.run Tryz.func58 rfl mn (A:=[]) (Ts:=[]) rfl λ w0=>?_
 refine aa 18 [] λ _=>RN.ret [] [] [] (v:=.slice none 0 0) (H':=(ap [] [])) ?_
 exact⟨(none,0,[]),rfl,rfl,.nil _ _ _⟩
theorem qV(A:Option Addr)(n c:Nat)(xs:List Bx)(F:HL)(hl:SrcIn Tryz.prog fj F A n xs)(hb:n <= 100000000):Sp Tryz.prog 58 #[.slice A n c] (ap [] []) F (λ u H'=>∃x:Option Addr × Nat × HL,H'=ap [] [x.2.2] /\ (u=.slice x.1 n x.2.1 /\ ClS fj 25 xs x.1 x.2.1 x.2.2)):=by
 cases A with
 | some a=>exact pH a n c xs F hl hb
 | none =>
  obtain rfl:n=0:=hl.1.2 rfl
  obtain rfl:xs=[]:=List.eq_nil_of_length_eq_zero hl.1.1
  exact pI c F
theorem oG(a:Addr)(n c:Nat)(xs:List Dr)(F:HL)(hl:SrcIn Tryz.prog me F (some a) n xs)(hb:n <= 100000000):Sp Tryz.prog 59 #[.slice (some a) n c] [] F (λ u H'=>∃x:Option Addr × Nat × HL,H'=ap [] [x.2.2] /\ (u=.slice x.1 n x.2.1 /\ ClS me 119 xs x.1 x.2.1 x.2.2)):=by
 refine Sp.run Tryz.func59 rfl mn (A:=[]) (Ts:=[]) rfl λ w0=>?_
 refine aa 19 [] λ n1=>RN.nt<|mW (A:=(some ⟨(n1+0),0,none⟩)) (B:=(some a)) (c':=c) Ke xs 0 (λ a_ e_=>by cases e_;rfl) (m:=n) (tx:=27) hl.1.1.symm (by rw[hl.1.1];exact hb) (λ e_ he X w hR=>hl.2 c he X w hR) ?_
 rintro A2 c3 T4 TT
 refine aa 3 [] λ _=>RN.ret [] [] [0] (v:=.slice A2 xs.length c3) (H':=(ap [] [T4])) ?_
 exact⟨(A2,c3,T4),rfl,by rw[hl.1.1],_,TT⟩
theorem oH(c:Nat)(F:HL):Sp Tryz.prog 59 #[.slice none 0 c] [] F (λ u H'=>∃x:Option Addr × Nat × HL,H'=ap [] [x.2.2] /\ (u=.slice x.1 0 x.2.1 /\ ClS me 119 [] x.1 x.2.1 x.2.2)):=by
 refine Sp.run Tryz.func59 rfl mn (A:=[]) (Ts:=[]) rfl λ w0=>?_
 refine aa 18 [] λ _=>RN.ret [] [] [] (v:=.slice none 0 0) (H':=(ap [] [])) ?_
 exact⟨(none,0,[]),rfl,rfl,.nil _ _ _⟩
theorem pJ(A:Option Addr)(n c:Nat)(xs:List Dr)(F:HL)(hl:SrcIn Tryz.prog me F A n xs)(hb:n <= 100000000):Sp Tryz.prog 59 #[.slice A n c] (ap [] []) F (λ u H'=>∃x:Option Addr × Nat × HL,H'=ap [] [x.2.2] /\ (u=.slice x.1 n x.2.1 /\ ClS me 119 xs x.1 x.2.1 x.2.2)):=by
 cases A with
 | some a=>exact oG a n c xs F hl hb
 | none =>
  obtain rfl:n=0:=hl.1.2 rfl
  obtain rfl:xs=[]:=List.eq_nil_of_length_eq_zero hl.1.1
  exact oH c F
theorem pK(a:Addr)(n c:Nat)(xs:List Ins)(F:HL)(hl:SrcIn Tryz.prog kG F (some a) n xs)(hb:n <= 100000000):Sp Tryz.prog 31 #[.slice (some a) n c] [] F (λ u H'=>∃x:Option Addr × Nat × HL,H'=ap [] [x.2.2] /\ (u=.slice x.1 n x.2.1 /\ ClS kG 98 xs x.1 x.2.1 x.2.2)):=by
 refine Sp.run Tryz.func31 rfl mn (A:=[]) (Ts:=[]) rfl λ w0=>?_
 refine aa 19 [] λ n1=>RN.nt<|mW (A:=(some ⟨(n1+0),0,none⟩)) (B:=(some a)) (c':=c) DW xs 0 (λ a_ e_=>by cases e_;rfl) (m:=n) (tx:=47) hl.1.1.symm (by rw[hl.1.1];exact hb) (λ e_ he X w hR=>hl.2 c he X w hR) ?_
 rintro A2 c3 T4 TT
 refine aa 3 [] λ _=>RN.ret [] [] [0] (v:=.slice A2 xs.length c3) (H':=(ap [] [T4])) ?_
 exact⟨(A2,c3,T4),rfl,by rw[hl.1.1],_,TT⟩
theorem pL(c:Nat)(F:HL):Sp Tryz.prog 31 #[.slice none 0 c] [] F (λ u H'=>∃x:Option Addr × Nat × HL,H'=ap [] [x.2.2] /\ (u=.slice x.1 0 x.2.1 /\ ClS kG 98 [] x.1 x.2.1 x.2.2)):=by
 refine Sp.run Tryz.func31 rfl mn (A:=[]) (Ts:=[]) rfl λ w0=>?_
 refine aa 18 [] λ _=>RN.ret [] [] [] (v:=.slice none 0 0) (H':=(ap [] [])) ?_
 exact⟨(none,0,[]),rfl,rfl,.nil _ _ _⟩
theorem qW(A:Option Addr)(n c:Nat)(xs:List Ins)(F:HL)(hl:SrcIn Tryz.prog kG F A n xs)(hb:n <= 100000000):Sp Tryz.prog 31 #[.slice A n c] (ap [] []) F (λ u H'=>∃x:Option Addr × Nat × HL,H'=ap [] [x.2.2] /\ (u=.slice x.1 n x.2.1 /\ ClS kG 98 xs x.1 x.2.1 x.2.2)):=by
 cases A with
 | some a=>exact pK a n c xs F hl hb
 | none =>
  obtain rfl:n=0:=hl.1.2 rfl
  obtain rfl:xs=[]:=List.eq_nil_of_length_eq_zero hl.1.1
  exact pL c F
def eh(lo hi:Int)(ns:List Int):Prop:=∀k,k<ns.length -> lo <= ns.getD k 0 /\ ns.getD k 0 <= hi
instance (lo hi:Int) (ns:List Int):Decidable (eh lo hi ns):=inferInstanceAs (Decidable (∀k,k<ns.length -> _))
theorem mX(lo hi:Int):eh lo hi []:=λ k hk=>absurd hk (Nat.not_lt_zero _)
theorem ll{lo hi x:Int}{ns:List Int}:eh lo hi (x::ns)↔(lo <= x /\ x <= hi) /\ eh lo hi ns:=by
 constructor
 ·intro h
  exact⟨h 0 (Nat.succ_pos _),λ k hk=>h (k+1) (Nat.succ_lt_succ hk)⟩
 ·rintro⟨h1,h2⟩ k hk
  cases k with
  | zero=>exact h1
  | succ k=>exact h2 k (Nat.lt_of_succ_lt_succ hk)
theorem eD(lo hi:Int)(ns:List Int)(q:Nat)(F:HL)(hq:(q,.rows 1 ns.length (bk ns) 3 (0,0))∈F)(hn:ns.length <= 1000000):Sp Tryz.prog 82 #[vI lo,vI hi,vS q 0 ns.length ns.length] [] F (λ u H'=>u=.bool (decide (eh lo hi ns)) /\ H'=[]):=by
 refine Sp.run Tryz.func82 rfl (mc hq mn) (A:=[]) (Ts:=[]) rfl λ w0=>?_
 refine aa 14 [] λ _=>RN.loop (σ:=Nat) (λ k=>⟨[(0,vI lo),(1,vI hi),(9,vS q 0 ns.length ns.length),(10,vI (ns.length:Int)),(11,vI (k:Int))],[],[],k <= ns.length /\ ∀t,t<k -> lo <= ns.getD t 0 /\ ns.getD t 0 <= hi,ns.length-k⟩) 0 [] [] (⟨Nat.zero_le _,λ t ht=>absurd ht (Nat.not_lt_zero _)⟩) ?_
 rintro k ⟨Wy,Yy⟩ QF
 refine aa 6 [] λ _=>RN.em ((k:Int)<(ns.length:Int)) 12 (λ h3=>?_) λ h3=>?_
 ·refine aq 18 [.ix k,.rorow 0 k 0] [(0+k*1)=k*1+0 /\ k<ns.length,(k:Int)=((k:Nat):Int) /\ k<ns.length] λ _=>RN.em (ns.getD k 0<lo) 18 (λ h4=>?_) λ h4=>?_
  ·refine aa 12 [] λ _=>RN.ret [] [] [] (v:=.bool false) (H':=[]) ?_
   exact⟨by rw[decide_eq_false (show ¬ eh lo hi ns from λ h_=>by have:=h_ k (by omega);omega)],rfl⟩
  ·refine aa 6 [] λ _=>RN.em (ns.getD k 0>hi) 22 (λ h5=>?_) λ h5=>?_
   ·refine aa 6 [] λ _=>RN.ret [] [] [] (v:=.bool false) (H':=[]) ?_
    exact⟨by rw[decide_eq_false (show ¬ eh lo hi ns from λ h_=>by have:=h_ k (by omega);omega)],rfl⟩
   ·refine aq 8 [.nw] [bF ((k:Int)+1)] λ _=>?_
    refine QF (k+1) [] [] ?_
    try dsimp only
    refine⟨⟨by omega,λ t ht=>?_⟩,by omega⟩
    rcases Nat.lt_or_ge t k with h_|h_
    ·exact Yy t h_
    ·obtain rfl:t=k:=by omega
     exact⟨by omega,by omega⟩
 ·refine aa 11 [] λ _=>RN.ret [] [] [] (v:=.bool true) (H':=[]) ?_
  exact⟨by rw[decide_eq_true (show eh lo hi ns from λ t ht=>Yy t (by omega))],rfl⟩
def ga(b:Bx):Prop:=(b.x0 <= b.x1 /\ b.y0 <= b.y1) /\ eh (-1048576) 1048576 [b.x0,b.y0,b.x1,b.y1]
instance (b:Bx):Decidable (ga b):=inferInstanceAs (Decidable (_ /\ _))
def fd(b:Bod)(x:Bx):Prop:=eh 0 4096 [b.mot.inv] /\ eh (-16384) 16384 [b.mot.vx,b.mot.vy] /\ eh x.x0 x.x1 [b.mot.px] /\ eh x.y0 x.y1 [b.mot.py] /\ eh (-2147483647) 2147483647 [b.a,b.b]
instance (b:Bod) (x:Bx):Decidable (fd b x):=inferInstanceAs (Decidable (_ /\ _))
def jo(S:Setup):Prop:=eh 1 8 [S.players] /\ eh S.players 24 [(S.nb:Int)] /\ eh 0 4194304 [S.fog] /\ eh (-16384) 16384 [S.g.x,S.g.y] /\ eh 0 16384 [S.push] /\ eh 0 1024 [S.drag,S.rest] /\ eh 1 4 [S.rounds] /\ eh 0 1000 [S.fuel]
instance (S:Setup):Decidable (jo S):=inferInstanceAs (Decidable (_ /\ _))
theorem pM(b:Bx)  (F:HL):Sp Tryz.prog 53 #[.agg #[vI b.x0,vI b.y0,vI b.x1,vI b.y1]] [] F (λ u H'=>u=.bool (decide (ga b)) /\ H'=[]):=by
 refine Sp.run Tryz.func53 rfl mn (A:=[]) (Ts:=[]) rfl λ w0=>?_
 refine aa 14 [.own 0,.own 0] λ n1=>RN.em (b.x0 <= b.x1) 8 (λ h2=>?_) λ h2=>?_
 ·refine aa 7 [.own 0,.own 0] λ _=>RN.em (b.y0 <= b.y1) 15 (λ h3=>?_) λ h3=>?_
  ·refine aa 9 [.own 0,.own 0,.own 0,.own 0] λ n4=>RN.dn 0 (.rows 1 4 (bk [b.x0,b.y0,b.x1,b.y1]) 3 (0,0))<|al (eD (-1048576) 1048576 [b.x0,b.y0,b.x1,b.y1] (n4+0) _ (aC 0) (Nat.le_of_ble_eq_true rfl))<|aa 4 [] λ _=>RN.ret [] [] [] (v:=.bool (decide (eh (-1048576) 1048576 [b.x0,b.y0,b.x1,b.y1]))) (H':=[]) ?_
   exact⟨by simp[ga, *],rfl⟩
  ·refine aa 14 [] λ _=>RN.ret [] [] [] (v:=.bool false) (H':=[]) ?_
   exact⟨by simp[ga, *],rfl⟩
 ·refine aa 21 [] λ _=>RN.ret [] [] [] (v:=.bool false) (H':=[]) ?_
  exact⟨by simp[ga, *],rfl⟩
theorem B5(b:Bod)(x:Bx)(F:HL):Sp Tryz.prog 55 #[.agg #[vI b.sh.r,.slice b.sh.A b.sh.poly.length b.sh.cap,vI b.mot.px,vI b.mot.py,vI b.mot.vx,vI b.mot.vy,vI b.mot.inv,vI b.a,vI b.b],.agg #[vI x.x0,vI x.y0,vI x.x1,vI x.y1]] [] F (λ u H'=>u=.bool (decide (fd b x)) /\ H'=[]):=by
 refine Sp.run Tryz.func55 rfl mn (A:=[]) (Ts:=[]) rfl λ w0=>?_
 refine aa 20 (ow 1 5++ow 0 6) λ n1=>RN.dn 0 (.rows 1 1 (bk [b.mot.inv]) 3 (0,0))<|al (eD 0 4096 [b.mot.inv] (n1+3) _ (aC 0) (Nat.le_of_ble_eq_true rfl))<|aa 1 [] λ _=>RN.em (eh 0 4096 [b.mot.inv]) 12 (λ h2=>?_) λ h2=>?_
 ·refine aa 7 [.own 1,.own 1] λ n3=>RN.dn 0 (.rows 1 2 (bk [b.mot.vx,b.mot.vy]) 3 (0,0))<|al (eD (-16384) 16384 [b.mot.vx,b.mot.vy] (n3+0) _ (aC 0) (Nat.le_of_ble_eq_true rfl))<|aa 2 [] λ _=>RN.em (eh (-16384) 16384 [b.mot.vx,b.mot.vy]) 22 (λ h4=>?_) λ h4=>?_
  ·refine aa 8 [.own 3,.own 3,.own 2] λ n5=>RN.dn 0 (.rows 1 1 (bk [b.mot.px]) 3 (0,0))<|al (eD x.x0 x.x1 [b.mot.px] (n5+0) _ (aC 0) (Nat.le_of_ble_eq_true rfl))<|aa 2 [] λ _=>RN.em (eh x.x0 x.x1 [b.mot.px]) 33 (λ h6=>?_) λ h6=>?_
   ·refine aa 8 [.own 4,.own 4,.own 3] λ n7=>RN.dn 0 (.rows 1 1 (bk [b.mot.py]) 3 (0,0))<|al (eD x.y0 x.y1 [b.mot.py] (n7+0) _ (aC 0) (Nat.le_of_ble_eq_true rfl))<|aa 2 [] λ _=>RN.em (eh x.y0 x.y1 [b.mot.py]) 44 (λ h8=>?_) λ h8=>?_
    ·refine aa 5 [.own 6,.own 6] λ n9=>RN.dn 0 (.rows 1 2 (bk [b.a,b.b]) 3 (0,0))<|al (eD (-2147483647) 2147483647 [b.a,b.b] (n9+0) _ (aC 0) (Nat.le_of_ble_eq_true rfl))<|aa 4 [] λ _=>RN.ret [] [] [] (v:=.bool (decide (eh (-2147483647) 2147483647 [b.a,b.b]))) (H':=[]) ?_
     exact⟨by simp[fd, *],rfl⟩
    ·refine aa 10 [] λ _=>RN.ret [] [] [] (v:=.bool false) (H':=[]) ?_
     exact⟨by simp[fd, *],rfl⟩
   ·refine aa 21 [] λ _=>RN.ret [] [] [] (v:=.bool false) (H':=[]) ?_
    exact⟨by simp[fd, *],rfl⟩
  ·refine aa 32 [] λ _=>RN.ret [] [] [] (v:=.bool false) (H':=[]) ?_
   exact⟨by simp[fd, *],rfl⟩
 ·refine aa 42 [] λ _=>RN.ret [] [] [] (v:=.bool false) (H':=[]) ?_
  exact⟨by simp[fd, *],rfl⟩
theorem EN(S:Setup)(F:HL):Sp Tryz.prog 52 #[(Setup.v S)] [] F (λ u H'=>u=.bool (decide (jo S)) /\ H'=[]):=by
 refine Sp.run Tryz.func52 rfl mn (A:=[]) (Ts:=[]) rfl λ w0=>?_
 refine aa 11 [.own 0] λ n1=>RN.dn 0 (.rows 1 1 (bk [S.players]) 3 (0,0))<|al (eD 1 8 [S.players] (n1+1) _ (aC 0) (Nat.le_of_ble_eq_true rfl))<|aa 1 [] λ _=>RN.em (eh 1 8 [S.players]) 7 (λ h2=>?_) λ h2=>?_
 ·refine aa 6 [.own 1,.own 1] λ n3=>RN.dn 0 (.rows 1 1 (bk [(S.nb:Int)]) 3 (0,0))<|al (eD S.players 24 [(S.nb:Int)] (n3+0) _ (aC 0) (Nat.le_of_ble_eq_true rfl))<|aa 2 [] λ _=>RN.em (eh S.players 24 [(S.nb:Int)]) 16 (λ h4=>?_) λ h4=>?_
  ·refine aa 3 [.own 2] λ n5=>RN.dn 0 (.rows 1 1 (bk [S.fog]) 3 (0,0))<|al (eD 0 4194304 [S.fog] (n5+0) _ (aC 0) (Nat.le_of_ble_eq_true rfl))<|aa 2 [] λ _=>RN.em (eh 0 4194304 [S.fog]) 22 (λ h6=>?_) λ h6=>?_
   ·refine aa 7 [.own 3,.own 3] λ n7=>RN.dn 0 (.rows 1 2 (bk [S.g.x,S.g.y]) 3 (0,0))<|al (eD (-16384) 16384 [S.g.x,S.g.y] (n7+0) _ (aC 0) (Nat.le_of_ble_eq_true rfl))<|aa 2 [] λ _=>RN.em (eh (-16384) 16384 [S.g.x,S.g.y]) 32 (λ h8=>?_) λ h8=>?_
    ·refine aa 3 [.own 4] λ n9=>RN.dn 0 (.rows 1 1 (bk [S.push]) 3 (0,0))<|al (eD 0 16384 [S.push] (n9+0) _ (aC 0) (Nat.le_of_ble_eq_true rfl))<|aa 2 [] λ _=>RN.em (eh 0 16384 [S.push]) 38 (λ Qe=>?_) λ Qe=>?_
     ·refine aa 5 [.own 5,.own 5] λ n11=>RN.dn 0 (.rows 1 2 (bk [S.drag,S.rest]) 3 (0,0))<|al (eD 0 1024 [S.drag,S.rest] (n11+0) _ (aC 0) (Nat.le_of_ble_eq_true rfl))<|aa 2 [] λ _=>RN.em (eh 0 1024 [S.drag,S.rest]) 46 (λ PN=>?_) λ PN=>?_
      ·refine aa 3 [.own 6] λ WZ=>RN.dn 0 (.rows 1 1 (bk [S.rounds]) 3 (0,0))<|al (eD 1 4 [S.rounds] (WZ+0) _ (aC 0) (Nat.le_of_ble_eq_true rfl))<|aa 2 [] λ _=>RN.em (eh 1 4 [S.rounds]) 52 (λ QD=>?_) λ QD=>?_
       ·refine aa 3 [.own 7] λ Yv=>RN.dn 0 (.rows 1 1 (bk [S.fuel]) 3 (0,0))<|al (eD 0 1000 [S.fuel] (Yv+0) _ (aC 0) (Nat.le_of_ble_eq_true rfl))<|aa 4 [] λ _=>RN.ret [] [] [] (v:=.bool (decide (eh 0 1000 [S.fuel]))) (H':=[]) ?_
        exact⟨by simp[jo, *],rfl⟩
       ·refine aa 8 [] λ _=>RN.ret [] [] [] (v:=.bool false) (H':=[]) ?_
        exact⟨by simp[jo, *],rfl⟩
      ·refine aa 14 [] λ _=>RN.ret [] [] [] (v:=.bool false) (H':=[]) ?_
       exact⟨by simp[jo, *],rfl⟩
     ·refine aa 22 [] λ _=>RN.ret [] [] [] (v:=.bool false) (H':=[]) ?_
      exact⟨by simp[jo, *],rfl⟩
    ·refine aa 28 [] λ _=>RN.ret [] [] [] (v:=.bool false) (H':=[]) ?_
     exact⟨by simp[jo, *],rfl⟩
   ·refine aa 38 [] λ _=>RN.ret [] [] [] (v:=.bool false) (H':=[]) ?_
    exact⟨by simp[jo, *],rfl⟩
  ·refine aa 44 [] λ _=>RN.ret [] [] [] (v:=.bool false) (H':=[]) ?_
   exact⟨by simp[jo, *],rfl⟩
 ·refine aa 53 [] λ _=>RN.ret [] [] [] (v:=.bool false) (H':=[]) ?_
  exact⟨by simp[jo, *],rfl⟩
def pN(n:Nat)(d:Dr):Prop:=eh 0 ((n:Int)-1) [d.a,d.b] /\ ¬ d.a=d.b
instance (n:Nat) (d:Dr):Decidable (pN n d):=inferInstanceAs (Decidable (_ /\ _))
def lM(S:Setup)(rs:List Bx)(ds:List Dr):Prop:=((S.rn:Int) <= 8 /\ (S.dn:Int) <= 16) /\ (∀k,k<S.rn -> ga (rs.getD k fj.dflt)) /\ ∀k,k<S.dn -> pN S.rn (ds.getD k me.dflt)
instance (S:Setup) (rs:List Bx) (ds:List Dr):Decidable (lM S rs ds):=inferInstanceAs (Decidable (_ /\ _ /\ _))
theorem EO(S:Setup)(rs:List Bx)(ds:List Dr)(F:HL)(hM:MapIn F S rs ds):Sp Tryz.prog 54 #[(Setup.v S)] [] F (λ u H'=>u=.bool (decide (lM S rs ds)) /\ H'=[]):=by
 refine Sp.run Tryz.func54 rfl mn (A:=[]) (Ts:=[]) rfl λ w0=>?_
 refine aa 14 [.own 0] λ n1=>RN.em ((S.rn:Int)>8) 11 (λ h2=>?_) λ h2=>?_
 ·refine aa 13 [] λ _=>RN.ret [] [] [] (v:=.bool false) (H':=[]) ?_
  exact⟨by rw[decide_eq_false (show ¬ lM S rs ds from λ h_=>by have:=h_.1;omega)],rfl⟩
 ·refine aa 7 [.own 0] λ _=>RN.em ((S.dn:Int)>16) 16 (λ h3=>?_) λ h3=>?_
  ·refine aa 6 [] λ _=>RN.ret [] [] [] (v:=.bool false) (H':=[]) ?_
   exact⟨by rw[decide_eq_false (show ¬ lM S rs ds from λ h_=>by have:=h_.1;omega)],rfl⟩
  ·refine aa 13 [.own 0] λ _=>RN.loop (σ:=Nat) (λ k=>⟨[(1,vP (n1+0) 0),(18,.slice S.rA S.rn S.rc),(19,vI (S.rn:Int)),(20,vI (k:Int))],[((n1+0),.lit (Setup.l S) 31 (0,0))],[],k <= S.rn /\ ∀t,t<k -> ga (rs.getD t fj.dflt),S.rn-k⟩) 0 [0] [] (⟨Nat.zero_le _,λ t ht=>absurd ht (Nat.not_lt_zero _)⟩) ?_
   rintro k ⟨Wy,Vy⟩ UC
   refine aa 6 [] λ _=>RN.em ((k:Int)<(S.rn:Int)) 21 (λ h6=>?_) λ h6=>?_
   ·refine aa 7 [] λ _=>?_
    obtain⟨qx7,Q9,Y6,fx7,fzx7,X9,ZS,hox7,hgx7⟩:=hM.rooms.at (k:=k) (by omega)
    refine bZ 18 (congrArg (λ v_=>(.slice v_ S.rn S.rc:Value)) X9)<|RN.ro (λ _=>(mc ZS mn))<|aq 2 [.ix k,.rorow 0 (Q9+k) 0,.rorow 0 (Q9+k) 1,.rorow 0 (Q9+k) 2,.rorow 0 (Q9+k) 3] [((Q9*4+k*4)+3)=(Q9+k)*4+3 /\ (Q9+k)<Y6,((Q9*4+k*4)+2)=(Q9+k)*4+2 /\ (Q9+k)<Y6,((Q9*4+k*4)+1)=(Q9+k)*4+1 /\ (Q9+k)<Y6,(Q9*4+k*4)=(Q9+k)*4+0 /\ (Q9+k)<Y6,(k:Int)=((k:Nat):Int) /\ k<S.rn] λ _=>bZ 23 (congrArg (λ v_=>(.agg #[vI v_.x0,vI v_.y0,vI v_.x1,vI v_.y1]:Value)) hgx7)<|aa 7 (ow 0 8) λ n8=>al (pM (rs.getD k fj.dflt)  _)<|aa 3 [] λ _=>RN.en (ga (rs.getD k fj.dflt)) 26 (λ h9=>?_) λ h9=>?_
    ·refine aq 8 [.nw] [bF ((k:Int)+1)] λ _=>bZ 18 (congrArg (λ v_=>(.slice v_ S.rn S.rc:Value)) X9.symm) ?_
     refine UC (k+1) [1] [] ?_
     try dsimp only
     refine⟨⟨by omega,λ t ht=>?_⟩,by omega⟩
     rcases Nat.lt_or_ge t k with h_|h_
     ·exact Vy t h_
     ·obtain rfl:t=k:=by omega
      exact h9
    ·refine aa 6 [] λ _=>RN.ret [] [] [] (v:=.bool false) (H':=[]) ?_
     exact⟨by rw[decide_eq_false (show ¬ lM S rs ds from λ h_=>h9 (h_.2.1 k (by omega)))],rfl⟩
   ·refine aa 16 [.own 0] λ _=>RN.loop (σ:=Nat) (λ j=>⟨[(1,vP (n1+0) 0),(29,.slice S.dA S.dn S.dc),(30,vI (S.dn:Int)),(31,vI (j:Int))],[((n1+0),.lit (Setup.l S) 31 (0,0))],[],j <= S.dn /\ ∀t,t<j -> pN S.rn (ds.getD t me.dflt),S.dn-j⟩) 0 [0] [] (⟨Nat.zero_le _,λ t ht=>absurd ht (Nat.not_lt_zero _)⟩) ?_
    rintro j ⟨RK,WD⟩ Ve
    refine aa 6 [] λ _=>RN.em ((j:Int)<(S.dn:Int)) 32 (λ PN=>?_) λ PN=>?_
    ·refine aa 7 [] λ _=>?_
     obtain⟨qx13,QX,Yq,fx13,fzx13,U0,Xj,hox13,XC⟩:=hM.doors.at (k:=j) (by omega)
     refine bZ 29 (congrArg (λ v_=>(.slice v_ S.dn S.dc:Value)) U0)<|RN.ro (λ _=>(mc Xj mn))<|aq 2 [.ix j,.rorow 0 (QX+j) 0,.rorow 0 (QX+j) 1] [((QX*2+j*2)+1)=(QX+j)*2+1 /\ (QX+j)<Yq,(QX*2+j*2)=(QX+j)*2+0 /\ (QX+j)<Yq,(j:Int)=((j:Nat):Int) /\ j<S.dn] λ _=>bZ 34 (congrArg (λ v_=>(.agg #[vI v_.a,vI v_.b]:Value)) XC)<|aq 15 [.own 0,.own 0,.own 1,.nw,.own 0,.own 0] [bF ((S.rn:Int)-1)] λ WY=>RN.dn 0 (.rows 1 2 (bk [(ds.getD j me.dflt).a,(ds.getD j me.dflt).b]) 3 (0,0))<|al (eD 0 ((S.rn:Int)-1) [(ds.getD j me.dflt).a,(ds.getD j me.dflt).b] (WY+1) _ (aC 0) (Nat.le_of_ble_eq_true rfl))<|aa 2 [] λ _=>RN.en (eh 0 ((S.rn:Int)-1) [(ds.getD j me.dflt).a,(ds.getD j me.dflt).b]) 46 (λ Ty=>?_) λ Ty=>?_
     ·refine aa 8 [.own 1,.own 1] λ _=>RN.em ((ds.getD j me.dflt).a=(ds.getD j me.dflt).b) 52 (λ PZ=>?_) λ PZ=>?_
      ·refine aa 6 [] λ _=>RN.ret [] [] [] (v:=.bool false) (H':=[]) ?_
       exact⟨by rw[decide_eq_false (show ¬ lM S rs ds from λ h_=>(h_.2.2 j (by omega)).2 PZ)],rfl⟩
      ·refine aq 8 [.nw] [bF ((j:Int)+1)] λ _=>bZ 29 (congrArg (λ v_=>(.slice v_ S.dn S.dc:Value)) U0.symm) ?_
       refine Ve (j+1) [2] [] ?_
       try dsimp only
       refine⟨⟨by omega,λ t ht=>?_⟩,by omega⟩
       rcases Nat.lt_or_ge t j with h_|h_
       ·exact WD t h_
       ·obtain rfl:t=j:=by omega
        exact⟨Ty,PZ⟩
     ·refine aa 14 [] λ _=>RN.ret [] [] [] (v:=.bool false) (H':=[]) ?_
      exact⟨by rw[decide_eq_false (show ¬ lM S rs ds from λ h_=>Ty (h_.2.2 j (by omega)).1)],rfl⟩
    ·refine aa 11 [] λ _=>RN.ret [] [] [] (v:=.bool true) (H':=[]) ?_
     exact⟨by rw[decide_eq_true (show lM S rs ds from ⟨⟨by omega,by omega⟩,λ t ht=>Vy t (by omega),λ t ht=>WD t (by omega)⟩)],rfl⟩
end Go.Proofs.YthoijjeddhfcnaaGreatDoor
