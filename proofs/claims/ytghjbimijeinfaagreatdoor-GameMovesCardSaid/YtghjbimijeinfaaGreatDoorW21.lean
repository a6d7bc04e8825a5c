import Derived.Test.YtghjbimijeinfaaGreatDoorW20
set_option maxHeartbeats 4000000
set_option maxRecDepth 100000
set_option linter.unusedSimpArgs false
set_option linter.unusedVariables false
namespace Go.Proofs.YtghjbimijeinfaaGreatDoor
open Go.RowKit
def rowN (pl:Int) (xs:List Int) (t:Int) (q:Nat):Int:=if xs.length > 0 then around (xs.getD ((t * pl+(q:Int)) % (xs.length:Int)).toNat 0) 1000000 else 0
def rowOf (n:Int):Inp:=⟨n % 3 - 1,n / 3 % 3 - 1,if n / 9 % 3=0 then n / 27 % 4 else 0⟩
def rowI (pl:Int) (xs:List Int) (t:Int) (q:Nat):Inp:=rowOf (rowN pl xs t q)
def rowL (pl:Int) (xs:List Int) (t:Int) (n:Nat):List Inp:=(List.range n).map (rowI pl xs t)
theorem rowL_len (pl:Int) (xs:List Int) (t:Int) (n:Nat):(rowL pl xs t n).length=n:=by simp [rowL]
theorem rowL_succ (pl:Int) (xs:List Int) (t:Int) (n:Nat):rowL pl xs t (n+1)=rowL pl xs t n++[rowI pl xs t n]:=by simp [rowL,List.range_succ]
theorem rowL_get {pl:Int} {xs:List Int} {t:Int} {n i:Nat} (h:i < n):(rowL pl xs t n).getD i dI=rowI pl xs t i:=by simp [rowL,h]
theorem rowN_bd {F:HL} {A:Option Addr} {n:Nat} {xs:List Int} (h:ArgL F A n xs) (pl t:Int) (q:Nat):0 <= rowN pl xs t q /\ rowN pl xs t q < 1000000:=by
 unfold rowN
 split
 ·next hi =>
  rw [h.len] at hi
  have h1:=Int.emod_nonneg (t * pl+(q:Int)) (show (n:Int) ≠ 0 by omega)
  have h2:=Int.emod_lt_of_pos (t * pl+(q:Int)) (show (0:Int) < n by omega)
  rw [h.len]
  obtain ⟨_,_,_,_,_,_,_,_,_,_,hr⟩:=h.at (k:=((t * pl+(q:Int)) % (n:Int)).toNat) (by omega)
  exact around_bd hr 1000000 (by decide)
 ·omega
theorem row_any (S:Setup) (A:Option Addr) (n cap:Nat) (xs:List Int) (t:Int) (F:HL) (hl:ArgL F A n xs) (hn:n <= 9223372036854775807) (hp:0 <= S.players /\ S.players <= 1000000) (ht:0 <= t /\ t <= 1000000):Sp Tryz.prog 39 #[(Setup.v S),.slice A n cap,vI t] [] F (λ u H'=>∃ x:Option Addr × Nat × HL,H'=ap [] [x.2.2] /\ (u=.slice x.1 S.players.toNat x.2.1 /\ SlIs inpE 151 (rowL S.players xs t S.players.toNat) x.1 x.2.1 x.2.2 /\ zeroOff x.1)):=by
 have hm:0 <= t * S.players /\ t * S.players <= 1000000000000:=⟨Int.mul_nonneg ht.1 hp.1,Int.le_trans (Int.mul_le_mul ht.2 hp.2 hp.1 (by decide)) (by decide)⟩
 refine Sp.run Tryz.func39 rfl mn (A:=[]) (Ts:=[]) rfl λ w0=>?_
 refine RN.go 18 [] λ n1=>RN.nt<|RN.loop (σ:=Nat × Option Addr × Nat × HL) (λ ⟨q,A_,c_,T_⟩=>⟨[(1,.slice A n cap),(2,vI t),(3,vP (n1+0) 0),(7,.slice A_ q c_),(8,vI (q:Int))],[((n1+0),.lit (Setup.l S) 31 (0,0))],[T_],(q:Int) <= S.players /\ SlIs inpE 151 (rowL S.players xs t q) A_ c_ T_ /\ zeroOff A_,S.players.toNat - q⟩) (0,none,0,[]) [0] [0] (⟨by show (0:Int) <= _;omega,SlIs.nil _ _,trivial⟩) ?_
 rintro ⟨q,A_,c_,T_⟩ ⟨hi_,hs_,hz_⟩ mt3
 refine RN.go 9 [.own 0] λ _=>RN.em ((q:Int) < S.players) 14 (λ h4=>?_) λ h4=>?_
 ·refine RN.go 18 [] λ _=>RN.em ((n:Int) > 0) 19 (λ h5=>?_) λ h5=>?_
  ·refine RN.goP 12 [.own 0,.nw,.nw,.nw] [0 <= (t * S.players)+(q:Int) /\ (0:Int) < (n:Int) /\ (t * S.players)+(q:Int) <= 9223372036854775807,I64 ((t * S.players)+(q:Int)),I64 (t * S.players)] λ _=>?_
   have hix1:=Int.emod_nonneg (t * S.players+(q:Int)) (show (n:Int) ≠ 0 by omega)
   have hix2:=Int.emod_lt_of_pos (t * S.players+(q:Int)) (show (0:Int) < n by omega)
   obtain ⟨qx6,ox6,Nx6,gx6,tyx6,fzx6,hAx6,hqx6,hox6,hgx6,hrx6⟩:=hl.at (k:=((t * S.players+(q:Int)) % (n:Int)).toNat) (by omega)
   refine RN.sv 20 (congrArg (λ v_=>(.slice v_ n cap:Value)) hAx6)<|RN.ro (λ _=>(mc hqx6 mn))<|RN.goP 2 [.ix ((((t * S.players)+(q:Int)) % (n:Int)).toNat),.rorow 0 (ox6+((((t * S.players)+(q:Int)) % (n:Int)).toNat)) 0] [(ox6+((((t * S.players)+(q:Int)) % (n:Int)).toNat) * 1)=(ox6+((((t * S.players)+(q:Int)) % (n:Int)).toNat)) * 1+0 /\ (ox6+((((t * S.players)+(q:Int)) % (n:Int)).toNat)) < Nx6,((t * S.players)+(q:Int)) % (n:Int)=(((((t * S.players)+(q:Int)) % (n:Int)).toNat:Nat):Int) /\ (((t * S.players)+(q:Int)) % (n:Int)).toNat < n] λ _=>RN.sv 31 (congrArg (λ v_=>(v_:Value)) hgx6)<|RN.cp (around_any (xs.getD (((t * S.players+(q:Int)) % (n:Int)).toNat) 0) 1000000 (by decide) _) ?_
   have hA7:=around_bd (n:=xs.getD (((t * S.players+(q:Int)) % (n:Int)).toNat) 0) hrx6 1000000 (by decide)
   refine RN.go 4 [] λ _=>RN.goP 22 [.nw,.nw,.nw,.nw,.nw,.own 0,.own 0,.own 0,.nw,.nw] [0 <= (around (xs.getD (((t * S.players+(q:Int)) % (n:Int)).toNat) 0) 1000000) / 9 /\ (0:Int) < 3 /\ (around (xs.getD (((t * S.players+(q:Int)) % (n:Int)).toNat) 0) 1000000) / 9 <= 9223372036854775807,0 <= around (xs.getD (((t * S.players+(q:Int)) % (n:Int)).toNat) 0) 1000000 /\ (0:Int) < 9 /\ around (xs.getD (((t * S.players+(q:Int)) % (n:Int)).toNat) 0) 1000000 <= 9223372036854775807,I64 ((((around (xs.getD (((t * S.players+(q:Int)) % (n:Int)).toNat) 0) 1000000) / 3) % 3) - 1),0 <= (around (xs.getD (((t * S.players+(q:Int)) % (n:Int)).toNat) 0) 1000000) / 3 /\ (0:Int) < 3 /\ (around (xs.getD (((t * S.players+(q:Int)) % (n:Int)).toNat) 0) 1000000) / 3 <= 9223372036854775807,0 <= around (xs.getD (((t * S.players+(q:Int)) % (n:Int)).toNat) 0) 1000000 /\ (0:Int) < 3 /\ around (xs.getD (((t * S.players+(q:Int)) % (n:Int)).toNat) 0) 1000000 <= 9223372036854775807,I64 (((around (xs.getD (((t * S.players+(q:Int)) % (n:Int)).toNat) 0) 1000000) % 3) - 1),0 <= around (xs.getD (((t * S.players+(q:Int)) % (n:Int)).toNat) 0) 1000000 /\ (0:Int) < 3 /\ around (xs.getD (((t * S.players+(q:Int)) % (n:Int)).toNat) 0) 1000000 <= 9223372036854775807] λ n8=>RN.em (((around (xs.getD (((t * S.players+(q:Int)) % (n:Int)).toNat) 0) 1000000) / 9) % 3=0) 44 (λ h9=>?_) λ h9=>?_
   ·refine RN.goP 13 [.nw,.nw,.own 0,.own 0,.own 0,.own 0] [0 <= (around (xs.getD (((t * S.players+(q:Int)) % (n:Int)).toNat) 0) 1000000) / 27 /\ (0:Int) < 4 /\ (around (xs.getD (((t * S.players+(q:Int)) % (n:Int)).toNat) 0) 1000000) / 27 <= 9223372036854775807,0 <= around (xs.getD (((t * S.players+(q:Int)) % (n:Int)).toNat) 0) 1000000 /\ (0:Int) < 27 /\ around (xs.getD (((t * S.players+(q:Int)) % (n:Int)).toNat) 0) 1000000 <= 9223372036854775807] λ n10=>?_
    have he_:rowI S.players xs t q=(⟨((around (xs.getD (((t * S.players+(q:Int)) % (n:Int)).toNat) 0) 1000000) % 3) - 1,(((around (xs.getD (((t * S.players+(q:Int)) % (n:Int)).toNat) 0) 1000000) / 3) % 3) - 1,((around (xs.getD (((t * S.players+(q:Int)) % (n:Int)).toNat) 0) 1000000) / 27) % 4⟩:Inp):=by
     unfold rowI
     rw [show rowN S.players xs t q=around (xs.getD (((t * S.players+(q:Int)) % (n:Int)).toNat) 0) 1000000 from by unfold rowN;rw [hl.len];rw [if_pos (by omega)]]
     first | rfl | (unfold rowOf;simp only [if_pos h9])
    refine RN.app inpEOk (rowL S.players xs t q) [(⟨((around (xs.getD (((t * S.players+(q:Int)) % (n:Int)).toNat) 0) 1000000) % 3) - 1,(((around (xs.getD (((t * S.players+(q:Int)) % (n:Int)).toNat) 0) 1000000) / 3) % 3) - 1,((around (xs.getD (((t * S.players+(q:Int)) % (n:Int)).toNat) 0) 1000000) / 27) % 4⟩:Inp)] 0 0 (rowL_len _ _ _ _).symm hs_ (by rw [rowL_len];show q+1 <= 100000000;omega) ?_
    rintro A11 c12 T13 ⟨hs14,hz15⟩
    refine RN.goP 9 [.nw] [I64 ((q:Int)+1)] λ _=>?_
    have hz2:=hz15 hz_
    refine mt3 (q+1,A11,c12,T13) [2] [0] ?_
    try dsimp only
    refine ⟨⟨by omega,?_,hz2⟩,by omega⟩
    rw [rowL_succ,he_]
    exact hs14
   ·refine RN.go 7 [.own 0,.own 0,.own 0] λ n16=>?_
    have he_:rowI S.players xs t q=(⟨((around (xs.getD (((t * S.players+(q:Int)) % (n:Int)).toNat) 0) 1000000) % 3) - 1,(((around (xs.getD (((t * S.players+(q:Int)) % (n:Int)).toNat) 0) 1000000) / 3) % 3) - 1,0⟩:Inp):=by
     unfold rowI
     rw [show rowN S.players xs t q=around (xs.getD (((t * S.players+(q:Int)) % (n:Int)).toNat) 0) 1000000 from by unfold rowN;rw [hl.len];rw [if_pos (by omega)]]
     first | rfl | (unfold rowOf;simp only [if_neg h9])
    refine RN.app inpEOk (rowL S.players xs t q) [(⟨((around (xs.getD (((t * S.players+(q:Int)) % (n:Int)).toNat) 0) 1000000) % 3) - 1,(((around (xs.getD (((t * S.players+(q:Int)) % (n:Int)).toNat) 0) 1000000) / 3) % 3) - 1,0⟩:Inp)] 0 0 (rowL_len _ _ _ _).symm hs_ (by rw [rowL_len];show q+1 <= 100000000;omega) ?_
    rintro A17 c18 T19 ⟨hs20,hz21⟩
    refine RN.goP 9 [.nw] [I64 ((q:Int)+1)] λ _=>?_
    have hz2:=hz21 hz_
    refine mt3 (q+1,A17,c18,T19) [2] [0] ?_
    try dsimp only
    refine ⟨⟨by omega,?_,hz2⟩,by omega⟩
    rw [rowL_succ,he_]
    exact hs20
  ·refine RN.go 4 [] λ _=>RN.go 35 (ow 0 7) λ n22=>?_
   have he_:rowI S.players xs t q=(⟨(-1),(-1),0⟩:Inp):=by
    unfold rowI
    rw [show rowN S.players xs t q=0 from by unfold rowN;rw [hl.len];rw [if_neg (by omega)]]
    rfl
   refine RN.app inpEOk (rowL S.players xs t q) [(⟨(-1),(-1),0⟩:Inp)] 0 0 (rowL_len _ _ _ _).symm hs_ (by rw [rowL_len];show q+1 <= 100000000;omega) ?_
   rintro A23 c24 T25 ⟨hs26,hz27⟩
   refine RN.goP 9 [.nw] [I64 ((q:Int)+1)] λ _=>?_
   have hz2:=hz27 hz_
   refine mt3 (q+1,A23,c24,T25) [2] [0] ?_
   try dsimp only
   refine ⟨⟨by omega,?_,hz2⟩,by omega⟩
   rw [rowL_succ,he_]
   exact hs26
 ·refine RN.go 12 [] λ _=>RN.ret [] [] [0] (v:=.slice A_ q c_) (H':=(ap [] [T_])) ?_
  have ei:q=S.players.toNat:=by omega
  subst ei
  exact ⟨(A_,c_,T_),rfl,rfl,hs_,hz_⟩
theorem clone_Body_some (a:Addr) (n c:Nat) (xs:List Bod) (F:HL) (hl:SrcIn Tryz.prog bodE F (some a) n xs) (hb:n <= 100000000):Sp Tryz.prog 134 #[.slice (some a) n c] [] F (λ u H'=>∃ x:Option Addr × Nat × HL,H'=ap [] [x.2.2] /\ (u=.slice x.1 n x.2.1 /\ ClS bodE 106 xs x.1 x.2.1 x.2.2)):=by
 refine Sp.run Tryz.func134 rfl mn (A:=[]) (Ts:=[]) rfl λ w0=>?_
 refine RN.go 19 [] λ n1=>RN.nt<|RN.appN (A:=(some ⟨(n1+0),0,none⟩)) (B:=(some a)) (c':=c) bodEOk xs 0 (λ a_ e_=>by cases e_;rfl) (m:=n) (tx:=23) hl.1.1.symm (by rw [hl.1.1];exact hb) (λ e_ he X w hR=>hl.2 c he X w hR) ?_
 rintro A2 c3 T4 hs5
 refine RN.go 3 [] λ _=>RN.ret [] [] [0] (v:=.slice A2 xs.length c3) (H':=(ap [] [T4])) ?_
 exact ⟨(A2,c3,T4),rfl,by rw [hl.1.1],_,hs5⟩
theorem clone_Body_none (c:Nat) (F:HL):Sp Tryz.prog 134 #[.slice none 0 c] [] F (λ u H'=>∃ x:Option Addr × Nat × HL,H'=ap [] [x.2.2] /\ (u=.slice x.1 0 x.2.1 /\ ClS bodE 106 [] x.1 x.2.1 x.2.2)):=by
 refine Sp.run Tryz.func134 rfl mn (A:=[]) (Ts:=[]) rfl λ w0=>?_
 refine RN.go 18 [] λ _=>RN.ret [] [] [] (v:=.slice none 0 0) (H':=(ap [] [])) ?_
 exact ⟨(none,0,[]),rfl,rfl,.nil _ _ _⟩
theorem clone_Body_any (A:Option Addr) (n c:Nat) (xs:List Bod) (F:HL) (hl:SrcIn Tryz.prog bodE F A n xs) (hb:n <= 100000000):Sp Tryz.prog 134 #[.slice A n c] (ap [] []) F (λ u H'=>∃ x:Option Addr × Nat × HL,H'=ap [] [x.2.2] /\ (u=.slice x.1 n x.2.1 /\ ClS bodE 106 xs x.1 x.2.1 x.2.2)):=by
 cases A with
 | some a=>exact clone_Body_some a n c xs F hl hb
 | none =>
  obtain rfl:n=0:=hl.1.2 rfl
  obtain rfl:xs=[]:=List.eq_nil_of_length_eq_zero hl.1.1
  exact clone_Body_none c F
theorem clone_Vec_some (a:Addr) (n c:Nat) (xs:List V2) (F:HL) (hl:SrcIn Tryz.prog vecE F (some a) n xs) (hb:n <= 100000000):Sp Tryz.prog 135 #[.slice (some a) n c] [] F (λ u H'=>∃ x:Option Addr × Nat × HL,H'=ap [] [x.2.2] /\ (u=.slice x.1 n x.2.1 /\ ClS vecE 29 xs x.1 x.2.1 x.2.2)):=by
 refine Sp.run Tryz.func135 rfl mn (A:=[]) (Ts:=[]) rfl λ w0=>?_
 refine RN.go 19 [] λ n1=>RN.nt<|RN.appN (A:=(some ⟨(n1+0),0,none⟩)) (B:=(some a)) (c':=c) vecEOk xs 0 (λ a_ e_=>by cases e_;rfl) (m:=n) (tx:=99) hl.1.1.symm (by rw [hl.1.1];exact hb) (λ e_ he X w hR=>hl.2 c he X w hR) ?_
 rintro A2 c3 T4 hs5
 refine RN.go 3 [] λ _=>RN.ret [] [] [0] (v:=.slice A2 xs.length c3) (H':=(ap [] [T4])) ?_
 exact ⟨(A2,c3,T4),rfl,by rw [hl.1.1],_,hs5⟩
theorem clone_Vec_none (c:Nat) (F:HL):Sp Tryz.prog 135 #[.slice none 0 c] [] F (λ u H'=>∃ x:Option Addr × Nat × HL,H'=ap [] [x.2.2] /\ (u=.slice x.1 0 x.2.1 /\ ClS vecE 29 [] x.1 x.2.1 x.2.2)):=by
 refine Sp.run Tryz.func135 rfl mn (A:=[]) (Ts:=[]) rfl λ w0=>?_
 refine RN.go 18 [] λ _=>RN.ret [] [] [] (v:=.slice none 0 0) (H':=(ap [] [])) ?_
 exact ⟨(none,0,[]),rfl,rfl,.nil _ _ _⟩
theorem clone_Vec_any (A:Option Addr) (n c:Nat) (xs:List V2) (F:HL) (hl:SrcIn Tryz.prog vecE F A n xs) (hb:n <= 100000000):Sp Tryz.prog 135 #[.slice A n c] (ap [] []) F (λ u H'=>∃ x:Option Addr × Nat × HL,H'=ap [] [x.2.2] /\ (u=.slice x.1 n x.2.1 /\ ClS vecE 29 xs x.1 x.2.1 x.2.2)):=by
 cases A with
 | some a=>exact clone_Vec_some a n c xs F hl hb
 | none =>
  obtain rfl:n=0:=hl.1.2 rfl
  obtain rfl:xs=[]:=List.eq_nil_of_length_eq_zero hl.1.1
  exact clone_Vec_none c F
theorem clone_Box_some (a:Addr) (n c:Nat) (xs:List Bx) (F:HL) (hl:SrcIn Tryz.prog bxE F (some a) n xs) (hb:n <= 100000000):Sp Tryz.prog 136 #[.slice (some a) n c] [] F (λ u H'=>∃ x:Option Addr × Nat × HL,H'=ap [] [x.2.2] /\ (u=.slice x.1 n x.2.1 /\ ClS bxE 25 xs x.1 x.2.1 x.2.2)):=by
 refine Sp.run Tryz.func136 rfl mn (A:=[]) (Ts:=[]) rfl λ w0=>?_
 refine RN.go 19 [] λ n1=>RN.nt<|RN.appN (A:=(some ⟨(n1+0),0,none⟩)) (B:=(some a)) (c':=c) bxEOk xs 0 (λ a_ e_=>by cases e_;rfl) (m:=n) (tx:=26) hl.1.1.symm (by rw [hl.1.1];exact hb) (λ e_ he X w hR=>hl.2 c he X w hR) ?_
 rintro A2 c3 T4 hs5
 refine RN.go 3 [] λ _=>RN.ret [] [] [0] (v:=.slice A2 xs.length c3) (H':=(ap [] [T4])) ?_
 exact ⟨(A2,c3,T4),rfl,by rw [hl.1.1],_,hs5⟩
theorem clone_Box_none (c:Nat) (F:HL):Sp Tryz.prog 136 #[.slice none 0 c] [] F (λ u H'=>∃ x:Option Addr × Nat × HL,H'=ap [] [x.2.2] /\ (u=.slice x.1 0 x.2.1 /\ ClS bxE 25 [] x.1 x.2.1 x.2.2)):=by
 refine Sp.run Tryz.func136 rfl mn (A:=[]) (Ts:=[]) rfl λ w0=>?_
 refine RN.go 18 [] λ _=>RN.ret [] [] [] (v:=.slice none 0 0) (H':=(ap [] [])) ?_
 exact ⟨(none,0,[]),rfl,rfl,.nil _ _ _⟩
theorem clone_Box_any (A:Option Addr) (n c:Nat) (xs:List Bx) (F:HL) (hl:SrcIn Tryz.prog bxE F A n xs) (hb:n <= 100000000):Sp Tryz.prog 136 #[.slice A n c] (ap [] []) F (λ u H'=>∃ x:Option Addr × Nat × HL,H'=ap [] [x.2.2] /\ (u=.slice x.1 n x.2.1 /\ ClS bxE 25 xs x.1 x.2.1 x.2.2)):=by
 cases A with
 | some a=>exact clone_Box_some a n c xs F hl hb
 | none =>
  obtain rfl:n=0:=hl.1.2 rfl
  obtain rfl:xs=[]:=List.eq_nil_of_length_eq_zero hl.1.1
  exact clone_Box_none c F
theorem clone_Door_some (a:Addr) (n c:Nat) (xs:List Dr) (F:HL) (hl:SrcIn Tryz.prog drE F (some a) n xs) (hb:n <= 100000000):Sp Tryz.prog 137 #[.slice (some a) n c] [] F (λ u H'=>∃ x:Option Addr × Nat × HL,H'=ap [] [x.2.2] /\ (u=.slice x.1 n x.2.1 /\ ClS drE 97 xs x.1 x.2.1 x.2.2)):=by
 refine Sp.run Tryz.func137 rfl mn (A:=[]) (Ts:=[]) rfl λ w0=>?_
 refine RN.go 19 [] λ n1=>RN.nt<|RN.appN (A:=(some ⟨(n1+0),0,none⟩)) (B:=(some a)) (c':=c) drEOk xs 0 (λ a_ e_=>by cases e_;rfl) (m:=n) (tx:=27) hl.1.1.symm (by rw [hl.1.1];exact hb) (λ e_ he X w hR=>hl.2 c he X w hR) ?_
 rintro A2 c3 T4 hs5
 refine RN.go 3 [] λ _=>RN.ret [] [] [0] (v:=.slice A2 xs.length c3) (H':=(ap [] [T4])) ?_
 exact ⟨(A2,c3,T4),rfl,by rw [hl.1.1],_,hs5⟩
theorem clone_Door_none (c:Nat) (F:HL):Sp Tryz.prog 137 #[.slice none 0 c] [] F (λ u H'=>∃ x:Option Addr × Nat × HL,H'=ap [] [x.2.2] /\ (u=.slice x.1 0 x.2.1 /\ ClS drE 97 [] x.1 x.2.1 x.2.2)):=by
 refine Sp.run Tryz.func137 rfl mn (A:=[]) (Ts:=[]) rfl λ w0=>?_
 refine RN.go 18 [] λ _=>RN.ret [] [] [] (v:=.slice none 0 0) (H':=(ap [] [])) ?_
 exact ⟨(none,0,[]),rfl,rfl,.nil _ _ _⟩
theorem clone_Door_any (A:Option Addr) (n c:Nat) (xs:List Dr) (F:HL) (hl:SrcIn Tryz.prog drE F A n xs) (hb:n <= 100000000):Sp Tryz.prog 137 #[.slice A n c] (ap [] []) F (λ u H'=>∃ x:Option Addr × Nat × HL,H'=ap [] [x.2.2] /\ (u=.slice x.1 n x.2.1 /\ ClS drE 97 xs x.1 x.2.1 x.2.2)):=by
 cases A with
 | some a=>exact clone_Door_some a n c xs F hl hb
 | none =>
  obtain rfl:n=0:=hl.1.2 rfl
  obtain rfl:xs=[]:=List.eq_nil_of_length_eq_zero hl.1.1
  exact clone_Door_none c F
theorem clone_Ins_some (a:Addr) (n c:Nat) (xs:List Ins) (F:HL) (hl:SrcIn Tryz.prog insE F (some a) n xs) (hb:n <= 100000000):Sp Tryz.prog 43 #[.slice (some a) n c] [] F (λ u H'=>∃ x:Option Addr × Nat × HL,H'=ap [] [x.2.2] /\ (u=.slice x.1 n x.2.1 /\ ClS insE 129 xs x.1 x.2.1 x.2.2)):=by
 refine Sp.run Tryz.func43 rfl mn (A:=[]) (Ts:=[]) rfl λ w0=>?_
 refine RN.go 19 [] λ n1=>RN.nt<|RN.appN (A:=(some ⟨(n1+0),0,none⟩)) (B:=(some a)) (c':=c) insEOk xs 0 (λ a_ e_=>by cases e_;rfl) (m:=n) (tx:=44) hl.1.1.symm (by rw [hl.1.1];exact hb) (λ e_ he X w hR=>hl.2 c he X w hR) ?_
 rintro A2 c3 T4 hs5
 refine RN.go 3 [] λ _=>RN.ret [] [] [0] (v:=.slice A2 xs.length c3) (H':=(ap [] [T4])) ?_
 exact ⟨(A2,c3,T4),rfl,by rw [hl.1.1],_,hs5⟩
theorem clone_Ins_none (c:Nat) (F:HL):Sp Tryz.prog 43 #[.slice none 0 c] [] F (λ u H'=>∃ x:Option Addr × Nat × HL,H'=ap [] [x.2.2] /\ (u=.slice x.1 0 x.2.1 /\ ClS insE 129 [] x.1 x.2.1 x.2.2)):=by
 refine Sp.run Tryz.func43 rfl mn (A:=[]) (Ts:=[]) rfl λ w0=>?_
 refine RN.go 18 [] λ _=>RN.ret [] [] [] (v:=.slice none 0 0) (H':=(ap [] [])) ?_
 exact ⟨(none,0,[]),rfl,rfl,.nil _ _ _⟩
theorem clone_Ins_any (A:Option Addr) (n c:Nat) (xs:List Ins) (F:HL) (hl:SrcIn Tryz.prog insE F A n xs) (hb:n <= 100000000):Sp Tryz.prog 43 #[.slice A n c] (ap [] []) F (λ u H'=>∃ x:Option Addr × Nat × HL,H'=ap [] [x.2.2] /\ (u=.slice x.1 n x.2.1 /\ ClS insE 129 xs x.1 x.2.1 x.2.2)):=by
 cases A with
 | some a=>exact clone_Ins_some a n c xs F hl hb
 | none =>
  obtain rfl:n=0:=hl.1.2 rfl
  obtain rfl:xs=[]:=List.eq_nil_of_length_eq_zero hl.1.1
  exact clone_Ins_none c F
def winP (lo hi:Int) (ns:List Int):Prop:=∀ k,k < ns.length -> lo <= ns.getD k 0 /\ ns.getD k 0 <= hi
instance (lo hi:Int) (ns:List Int):Decidable (winP lo hi ns):=inferInstanceAs (Decidable (∀ k,k < ns.length -> _))
theorem winP_nil (lo hi:Int):winP lo hi []:=λ k hk=>absurd hk (Nat.not_lt_zero _)
theorem winP_cons {lo hi x:Int} {ns:List Int}:winP lo hi (x :: ns) ↔ (lo <= x /\ x <= hi) /\ winP lo hi ns:=by
 constructor
 ·intro h
  exact ⟨h 0 (Nat.succ_pos _),λ k hk=>h (k+1) (Nat.succ_lt_succ hk)⟩
 ·rintro ⟨h1,h2⟩ k hk
  cases k with
  | zero=>exact h1
  | succ k=>exact h2 k (Nat.lt_of_succ_lt_succ hk)
theorem win_any (lo hi:Int) (ns:List Int) (q:Nat) (F:HL) (hq:(q,.rows 1 ns.length (irow ns) 3 (0,0)) ∈ F) (hn:ns.length <= 1000000):Sp Tryz.prog 193 #[vI lo,vI hi,vS q 0 ns.length ns.length] [] F (λ u H'=>u=.bool (decide (winP lo hi ns)) /\ H'=[]):=by
 refine Sp.run Tryz.func193 rfl (mc hq mn) (A:=[]) (Ts:=[]) rfl λ w0=>?_
 refine RN.go 14 [] λ _=>RN.loop (σ:=Nat) (λ k=>⟨[(0,vI lo),(1,vI hi),(9,vS q 0 ns.length ns.length),(10,vI (ns.length:Int)),(11,vI (k:Int))],[],[],k <= ns.length /\ ∀ t,t < k -> lo <= ns.getD t 0 /\ ns.getD t 0 <= hi,ns.length - k⟩) 0 [] [] (⟨Nat.zero_le _,λ t ht=>absurd ht (Nat.not_lt_zero _)⟩) ?_
 rintro k ⟨hkl,hwk⟩ mt2
 refine RN.go 6 [] λ _=>RN.em ((k:Int) < (ns.length:Int)) 12 (λ h3=>?_) λ h3=>?_
 ·refine RN.goP 18 [.ix k,.rorow 0 k 0] [(0+k * 1)=k * 1+0 /\ k < ns.length,(k:Int)=((k:Nat):Int) /\ k < ns.length] λ _=>RN.em (ns.getD k 0 < lo) 18 (λ h4=>?_) λ h4=>?_
  ·refine RN.go 12 [] λ _=>RN.ret [] [] [] (v:=.bool false) (H':=[]) ?_
   exact ⟨by rw [decide_eq_false (show ¬ winP lo hi ns from λ h_=>by have:=h_ k (by omega);omega)],rfl⟩
  ·refine RN.go 6 [] λ _=>RN.em (ns.getD k 0 > hi) 22 (λ h5=>?_) λ h5=>?_
   ·refine RN.go 6 [] λ _=>RN.ret [] [] [] (v:=.bool false) (H':=[]) ?_
    exact ⟨by rw [decide_eq_false (show ¬ winP lo hi ns from λ h_=>by have:=h_ k (by omega);omega)],rfl⟩
   ·refine RN.goP 8 [.nw] [I64 ((k:Int)+1)] λ _=>?_
    refine mt2 (k+1) [] [] ?_
    try dsimp only
    refine ⟨⟨by omega,λ t ht=>?_⟩,by omega⟩
    rcases Nat.lt_or_ge t k with h_ | h_
    ·exact hwk t h_
    ·obtain rfl:t=k:=by omega
     exact ⟨by omega,by omega⟩
 ·refine RN.go 11 [] λ _=>RN.ret [] [] [] (v:=.bool true) (H':=[]) ?_
  exact ⟨by rw [decide_eq_true (show winP lo hi ns from λ t ht=>hwk t (by omega))],rfl⟩
def properP (b:Bx):Prop:=(b.x0 <= b.x1 /\ b.y0 <= b.y1) /\ winP (-1048576) 1048576 [b.x0,b.y0,b.x1,b.y1]
instance (b:Bx):Decidable (properP b):=inferInstanceAs (Decidable (_ /\ _))
def vbodyP (b:Bod) (x:Bx):Prop:=winP 0 4096 [b.mot.inv] /\ winP (-16384) 16384 [b.mot.vx,b.mot.vy] /\ winP x.x0 x.x1 [b.mot.px] /\ winP x.y0 x.y1 [b.mot.py] /\ winP (-2147483647) 2147483647 [b.a,b.b]
instance (b:Bod) (x:Bx):Decidable (vbodyP b x):=inferInstanceAs (Decidable (_ /\ _))
def vnumP (S:Setup):Prop:=winP 1 8 [S.players] /\ winP S.players 24 [(S.nb:Int)] /\ winP 0 4194304 [S.fog] /\ winP (-16384) 16384 [S.g.x,S.g.y] /\ winP 0 16384 [S.push] /\ winP 0 1024 [S.drag,S.rest] /\ winP 1 4 [S.rounds] /\ winP 0 1000 [S.fuel]
instance (S:Setup):Decidable (vnumP S):=inferInstanceAs (Decidable (_ /\ _))
theorem proper_any (b:Bx)  (F:HL):Sp Tryz.prog 131 #[.agg #[vI b.x0,vI b.y0,vI b.x1,vI b.y1]] [] F (λ u H'=>u=.bool (decide (properP b)) /\ H'=[]):=by
 refine Sp.run Tryz.func131 rfl mn (A:=[]) (Ts:=[]) rfl λ w0=>?_
 refine RN.go 14 [.own 0,.own 0] λ n1=>RN.em (b.x0 <= b.x1) 8 (λ h2=>?_) λ h2=>?_
 ·refine RN.go 7 [.own 0,.own 0] λ _=>RN.em (b.y0 <= b.y1) 15 (λ h3=>?_) λ h3=>?_
  ·refine RN.go 9 [.own 0,.own 0,.own 0,.own 0] λ n4=>RN.dn 0 (.rows 1 4 (irow [b.x0,b.y0,b.x1,b.y1]) 3 (0,0))<|RN.cp (win_any (-1048576) 1048576 [b.x0,b.y0,b.x1,b.y1] (n4+0) _ (in_ap 0) (Nat.le_of_ble_eq_true rfl))<|RN.go 4 [] λ _=>RN.ret [] [] [] (v:=.bool (decide (winP (-1048576) 1048576 [b.x0,b.y0,b.x1,b.y1]))) (H':=[]) ?_
   exact ⟨by simp [properP, *],rfl⟩
  ·refine RN.go 14 [] λ _=>RN.ret [] [] [] (v:=.bool false) (H':=[]) ?_
   exact ⟨by simp [properP, *],rfl⟩
 ·refine RN.go 21 [] λ _=>RN.ret [] [] [] (v:=.bool false) (H':=[]) ?_
  exact ⟨by simp [properP, *],rfl⟩
theorem vbody_any (b:Bod) (x:Bx) (F:HL):Sp Tryz.prog 133 #[.agg #[vI b.sh.r,.slice b.sh.A b.sh.poly.length b.sh.cap,vI b.mot.px,vI b.mot.py,vI b.mot.vx,vI b.mot.vy,vI b.mot.inv,vI b.a,vI b.b],.agg #[vI x.x0,vI x.y0,vI x.x1,vI x.y1]] [] F (λ u H'=>u=.bool (decide (vbodyP b x)) /\ H'=[]):=by
 refine Sp.run Tryz.func133 rfl mn (A:=[]) (Ts:=[]) rfl λ w0=>?_
 refine RN.go 20 (ow 1 5++ow 0 6) λ n1=>RN.dn 0 (.rows 1 1 (irow [b.mot.inv]) 3 (0,0))<|RN.cp (win_any 0 4096 [b.mot.inv] (n1+3) _ (in_ap 0) (Nat.le_of_ble_eq_true rfl))<|RN.go 1 [] λ _=>RN.em (winP 0 4096 [b.mot.inv]) 12 (λ h2=>?_) λ h2=>?_
 ·refine RN.go 7 [.own 1,.own 1] λ n3=>RN.dn 0 (.rows 1 2 (irow [b.mot.vx,b.mot.vy]) 3 (0,0))<|RN.cp (win_any (-16384) 16384 [b.mot.vx,b.mot.vy] (n3+0) _ (in_ap 0) (Nat.le_of_ble_eq_true rfl))<|RN.go 2 [] λ _=>RN.em (winP (-16384) 16384 [b.mot.vx,b.mot.vy]) 22 (λ h4=>?_) λ h4=>?_
  ·refine RN.go 8 [.own 3,.own 3,.own 2] λ n5=>RN.dn 0 (.rows 1 1 (irow [b.mot.px]) 3 (0,0))<|RN.cp (win_any x.x0 x.x1 [b.mot.px] (n5+0) _ (in_ap 0) (Nat.le_of_ble_eq_true rfl))<|RN.go 2 [] λ _=>RN.em (winP x.x0 x.x1 [b.mot.px]) 33 (λ h6=>?_) λ h6=>?_
   ·refine RN.go 8 [.own 4,.own 4,.own 3] λ n7=>RN.dn 0 (.rows 1 1 (irow [b.mot.py]) 3 (0,0))<|RN.cp (win_any x.y0 x.y1 [b.mot.py] (n7+0) _ (in_ap 0) (Nat.le_of_ble_eq_true rfl))<|RN.go 2 [] λ _=>RN.em (winP x.y0 x.y1 [b.mot.py]) 44 (λ h8=>?_) λ h8=>?_
    ·refine RN.go 5 [.own 6,.own 6] λ n9=>RN.dn 0 (.rows 1 2 (irow [b.a,b.b]) 3 (0,0))<|RN.cp (win_any (-2147483647) 2147483647 [b.a,b.b] (n9+0) _ (in_ap 0) (Nat.le_of_ble_eq_true rfl))<|RN.go 4 [] λ _=>RN.ret [] [] [] (v:=.bool (decide (winP (-2147483647) 2147483647 [b.a,b.b]))) (H':=[]) ?_
     exact ⟨by simp [vbodyP, *],rfl⟩
    ·refine RN.go 10 [] λ _=>RN.ret [] [] [] (v:=.bool false) (H':=[]) ?_
     exact ⟨by simp [vbodyP, *],rfl⟩
   ·refine RN.go 21 [] λ _=>RN.ret [] [] [] (v:=.bool false) (H':=[]) ?_
    exact ⟨by simp [vbodyP, *],rfl⟩
  ·refine RN.go 32 [] λ _=>RN.ret [] [] [] (v:=.bool false) (H':=[]) ?_
   exact ⟨by simp [vbodyP, *],rfl⟩
 ·refine RN.go 42 [] λ _=>RN.ret [] [] [] (v:=.bool false) (H':=[]) ?_
  exact ⟨by simp [vbodyP, *],rfl⟩
theorem vnum_any (S:Setup) (F:HL):Sp Tryz.prog 130 #[(Setup.v S)] [] F (λ u H'=>u=.bool (decide (vnumP S)) /\ H'=[]):=by
 refine Sp.run Tryz.func130 rfl mn (A:=[]) (Ts:=[]) rfl λ w0=>?_
 refine RN.go 11 [.own 0] λ n1=>RN.dn 0 (.rows 1 1 (irow [S.players]) 3 (0,0))<|RN.cp (win_any 1 8 [S.players] (n1+1) _ (in_ap 0) (Nat.le_of_ble_eq_true rfl))<|RN.go 1 [] λ _=>RN.em (winP 1 8 [S.players]) 7 (λ h2=>?_) λ h2=>?_
 ·refine RN.go 6 [.own 1,.own 1] λ n3=>RN.dn 0 (.rows 1 1 (irow [(S.nb:Int)]) 3 (0,0))<|RN.cp (win_any S.players 24 [(S.nb:Int)] (n3+0) _ (in_ap 0) (Nat.le_of_ble_eq_true rfl))<|RN.go 2 [] λ _=>RN.em (winP S.players 24 [(S.nb:Int)]) 16 (λ h4=>?_) λ h4=>?_
  ·refine RN.go 3 [.own 2] λ n5=>RN.dn 0 (.rows 1 1 (irow [S.fog]) 3 (0,0))<|RN.cp (win_any 0 4194304 [S.fog] (n5+0) _ (in_ap 0) (Nat.le_of_ble_eq_true rfl))<|RN.go 2 [] λ _=>RN.em (winP 0 4194304 [S.fog]) 22 (λ h6=>?_) λ h6=>?_
   ·refine RN.go 7 [.own 3,.own 3] λ n7=>RN.dn 0 (.rows 1 2 (irow [S.g.x,S.g.y]) 3 (0,0))<|RN.cp (win_any (-16384) 16384 [S.g.x,S.g.y] (n7+0) _ (in_ap 0) (Nat.le_of_ble_eq_true rfl))<|RN.go 2 [] λ _=>RN.em (winP (-16384) 16384 [S.g.x,S.g.y]) 32 (λ h8=>?_) λ h8=>?_
    ·refine RN.go 3 [.own 4] λ n9=>RN.dn 0 (.rows 1 1 (irow [S.push]) 3 (0,0))<|RN.cp (win_any 0 16384 [S.push] (n9+0) _ (in_ap 0) (Nat.le_of_ble_eq_true rfl))<|RN.go 2 [] λ _=>RN.em (winP 0 16384 [S.push]) 38 (λ h10=>?_) λ h10=>?_
     ·refine RN.go 5 [.own 5,.own 5] λ n11=>RN.dn 0 (.rows 1 2 (irow [S.drag,S.rest]) 3 (0,0))<|RN.cp (win_any 0 1024 [S.drag,S.rest] (n11+0) _ (in_ap 0) (Nat.le_of_ble_eq_true rfl))<|RN.go 2 [] λ _=>RN.em (winP 0 1024 [S.drag,S.rest]) 46 (λ h12=>?_) λ h12=>?_
      ·refine RN.go 3 [.own 6] λ n13=>RN.dn 0 (.rows 1 1 (irow [S.rounds]) 3 (0,0))<|RN.cp (win_any 1 4 [S.rounds] (n13+0) _ (in_ap 0) (Nat.le_of_ble_eq_true rfl))<|RN.go 2 [] λ _=>RN.em (winP 1 4 [S.rounds]) 52 (λ h14=>?_) λ h14=>?_
       ·refine RN.go 3 [.own 7] λ n15=>RN.dn 0 (.rows 1 1 (irow [S.fuel]) 3 (0,0))<|RN.cp (win_any 0 1000 [S.fuel] (n15+0) _ (in_ap 0) (Nat.le_of_ble_eq_true rfl))<|RN.go 4 [] λ _=>RN.ret [] [] [] (v:=.bool (decide (winP 0 1000 [S.fuel]))) (H':=[]) ?_
        exact ⟨by simp [vnumP, *],rfl⟩
       ·refine RN.go 8 [] λ _=>RN.ret [] [] [] (v:=.bool false) (H':=[]) ?_
        exact ⟨by simp [vnumP, *],rfl⟩
      ·refine RN.go 14 [] λ _=>RN.ret [] [] [] (v:=.bool false) (H':=[]) ?_
       exact ⟨by simp [vnumP, *],rfl⟩
     ·refine RN.go 22 [] λ _=>RN.ret [] [] [] (v:=.bool false) (H':=[]) ?_
      exact ⟨by simp [vnumP, *],rfl⟩
    ·refine RN.go 28 [] λ _=>RN.ret [] [] [] (v:=.bool false) (H':=[]) ?_
     exact ⟨by simp [vnumP, *],rfl⟩
   ·refine RN.go 38 [] λ _=>RN.ret [] [] [] (v:=.bool false) (H':=[]) ?_
    exact ⟨by simp [vnumP, *],rfl⟩
  ·refine RN.go 44 [] λ _=>RN.ret [] [] [] (v:=.bool false) (H':=[]) ?_
   exact ⟨by simp [vnumP, *],rfl⟩
 ·refine RN.go 53 [] λ _=>RN.ret [] [] [] (v:=.bool false) (H':=[]) ?_
  exact ⟨by simp [vnumP, *],rfl⟩
def vdoorP (n:Nat) (d:Dr):Prop:=winP 0 ((n:Int) - 1) [d.a,d.b] /\ ¬ d.a=d.b
instance (n:Nat) (d:Dr):Decidable (vdoorP n d):=inferInstanceAs (Decidable (_ /\ _))
def vmapP (S:Setup) (rs:List Bx) (ds:List Dr):Prop:=((S.rn:Int) <= 8 /\ (S.dn:Int) <= 16) /\ (∀ k,k < S.rn -> properP (rs.getD k bxE.dflt)) /\ ∀ k,k < S.dn -> vdoorP S.rn (ds.getD k drE.dflt)
instance (S:Setup) (rs:List Bx) (ds:List Dr):Decidable (vmapP S rs ds):=inferInstanceAs (Decidable (_ /\ _ /\ _))
theorem vmap_any (S:Setup) (rs:List Bx) (ds:List Dr) (F:HL) (hM:MapIn F S rs ds):Sp Tryz.prog 132 #[(Setup.v S)] [] F (λ u H'=>u=.bool (decide (vmapP S rs ds)) /\ H'=[]):=by
 refine Sp.run Tryz.func132 rfl mn (A:=[]) (Ts:=[]) rfl λ w0=>?_
 refine RN.go 14 [.own 0] λ n1=>RN.em ((S.rn:Int) > 8) 11 (λ h2=>?_) λ h2=>?_
 ·refine RN.go 13 [] λ _=>RN.ret [] [] [] (v:=.bool false) (H':=[]) ?_
  exact ⟨by rw [decide_eq_false (show ¬ vmapP S rs ds from λ h_=>by have:=h_.1;omega)],rfl⟩
 ·refine RN.go 7 [.own 0] λ _=>RN.em ((S.dn:Int) > 16) 16 (λ h3=>?_) λ h3=>?_
  ·refine RN.go 6 [] λ _=>RN.ret [] [] [] (v:=.bool false) (H':=[]) ?_
   exact ⟨by rw [decide_eq_false (show ¬ vmapP S rs ds from λ h_=>by have:=h_.1;omega)],rfl⟩
  ·refine RN.go 13 [.own 0] λ _=>RN.loop (σ:=Nat) (λ k=>⟨[(1,vP (n1+0) 0),(18,.slice S.rA S.rn S.rc),(19,vI (S.rn:Int)),(20,vI (k:Int))],[((n1+0),.lit (Setup.l S) 31 (0,0))],[],k <= S.rn /\ ∀ t,t < k -> properP (rs.getD t bxE.dflt),S.rn - k⟩) 0 [0] [] (⟨Nat.zero_le _,λ t ht=>absurd ht (Nat.not_lt_zero _)⟩) ?_
   rintro k ⟨hkl,hr1⟩ mt5
   refine RN.go 6 [] λ _=>RN.em ((k:Int) < (S.rn:Int)) 21 (λ h6=>?_) λ h6=>?_
   ·refine RN.go 7 [] λ _=>?_
    obtain ⟨qx7,ox7,Nx7,fx7,fzx7,hAx7,hqx7,hox7,hgx7⟩:=hM.rooms.at (k:=k) (by omega)
    refine RN.sv 18 (congrArg (λ v_=>(.slice v_ S.rn S.rc:Value)) hAx7)<|RN.ro (λ _=>(mc hqx7 mn))<|RN.goP 2 [.ix k,.rorow 0 (ox7+k) 0,.rorow 0 (ox7+k) 1,.rorow 0 (ox7+k) 2,.rorow 0 (ox7+k) 3] [((ox7 * 4+k * 4)+3)=(ox7+k) * 4+3 /\ (ox7+k) < Nx7,((ox7 * 4+k * 4)+2)=(ox7+k) * 4+2 /\ (ox7+k) < Nx7,((ox7 * 4+k * 4)+1)=(ox7+k) * 4+1 /\ (ox7+k) < Nx7,(ox7 * 4+k * 4)=(ox7+k) * 4+0 /\ (ox7+k) < Nx7,(k:Int)=((k:Nat):Int) /\ k < S.rn] λ _=>RN.sv 23 (congrArg (λ v_=>(.agg #[vI v_.x0,vI v_.y0,vI v_.x1,vI v_.y1]:Value)) hgx7)<|RN.go 7 (ow 0 8) λ n8=>RN.cp (proper_any (rs.getD k bxE.dflt)  _)<|RN.go 3 [] λ _=>RN.en (properP (rs.getD k bxE.dflt)) 26 (λ h9=>?_) λ h9=>?_
    ·refine RN.goP 8 [.nw] [I64 ((k:Int)+1)] λ _=>RN.sv 18 (congrArg (λ v_=>(.slice v_ S.rn S.rc:Value)) hAx7.symm) ?_
     refine mt5 (k+1) [1] [] ?_
     try dsimp only
     refine ⟨⟨by omega,λ t ht=>?_⟩,by omega⟩
     rcases Nat.lt_or_ge t k with h_ | h_
     ·exact hr1 t h_
     ·obtain rfl:t=k:=by omega
      exact h9
    ·refine RN.go 6 [] λ _=>RN.ret [] [] [] (v:=.bool false) (H':=[]) ?_
     exact ⟨by rw [decide_eq_false (show ¬ vmapP S rs ds from λ h_=>h9 (h_.2.1 k (by omega)))],rfl⟩
   ·refine RN.go 16 [.own 0] λ _=>RN.loop (σ:=Nat) (λ j=>⟨[(1,vP (n1+0) 0),(29,.slice S.dA S.dn S.dc),(30,vI (S.dn:Int)),(31,vI (j:Int))],[((n1+0),.lit (Setup.l S) 31 (0,0))],[],j <= S.dn /\ ∀ t,t < j -> vdoorP S.rn (ds.getD t drE.dflt),S.dn - j⟩) 0 [0] [] (⟨Nat.zero_le _,λ t ht=>absurd ht (Nat.not_lt_zero _)⟩) ?_
    rintro j ⟨hjl,hd1⟩ mt11
    refine RN.go 6 [] λ _=>RN.em ((j:Int) < (S.dn:Int)) 32 (λ h12=>?_) λ h12=>?_
    ·refine RN.go 7 [] λ _=>?_
     obtain ⟨qx13,ox13,Nx13,fx13,fzx13,hAx13,hqx13,hox13,hgx13⟩:=hM.doors.at (k:=j) (by omega)
     refine RN.sv 29 (congrArg (λ v_=>(.slice v_ S.dn S.dc:Value)) hAx13)<|RN.ro (λ _=>(mc hqx13 mn))<|RN.goP 2 [.ix j,.rorow 0 (ox13+j) 0,.rorow 0 (ox13+j) 1] [((ox13 * 2+j * 2)+1)=(ox13+j) * 2+1 /\ (ox13+j) < Nx13,(ox13 * 2+j * 2)=(ox13+j) * 2+0 /\ (ox13+j) < Nx13,(j:Int)=((j:Nat):Int) /\ j < S.dn] λ _=>RN.sv 34 (congrArg (λ v_=>(.agg #[vI v_.a,vI v_.b]:Value)) hgx13)<|RN.goP 15 [.own 0,.own 0,.own 1,.nw,.own 0,.own 0] [I64 ((S.rn:Int) - 1)] λ n14=>RN.dn 0 (.rows 1 2 (irow [(ds.getD j drE.dflt).a,(ds.getD j drE.dflt).b]) 3 (0,0))<|RN.cp (win_any 0 ((S.rn:Int) - 1) [(ds.getD j drE.dflt).a,(ds.getD j drE.dflt).b] (n14+1) _ (in_ap 0) (Nat.le_of_ble_eq_true rfl))<|RN.go 2 [] λ _=>RN.en (winP 0 ((S.rn:Int) - 1) [(ds.getD j drE.dflt).a,(ds.getD j drE.dflt).b]) 46 (λ h15=>?_) λ h15=>?_
     ·refine RN.go 8 [.own 1,.own 1] λ _=>RN.em ((ds.getD j drE.dflt).a=(ds.getD j drE.dflt).b) 52 (λ h16=>?_) λ h16=>?_
      ·refine RN.go 6 [] λ _=>RN.ret [] [] [] (v:=.bool false) (H':=[]) ?_
       exact ⟨by rw [decide_eq_false (show ¬ vmapP S rs ds from λ h_=>(h_.2.2 j (by omega)).2 h16)],rfl⟩
      ·refine RN.goP 8 [.nw] [I64 ((j:Int)+1)] λ _=>RN.sv 29 (congrArg (λ v_=>(.slice v_ S.dn S.dc:Value)) hAx13.symm) ?_
       refine mt11 (j+1) [2] [] ?_
       try dsimp only
       refine ⟨⟨by omega,λ t ht=>?_⟩,by omega⟩
       rcases Nat.lt_or_ge t j with h_ | h_
       ·exact hd1 t h_
       ·obtain rfl:t=j:=by omega
        exact ⟨h15,h16⟩
     ·refine RN.go 14 [] λ _=>RN.ret [] [] [] (v:=.bool false) (H':=[]) ?_
      exact ⟨by rw [decide_eq_false (show ¬ vmapP S rs ds from λ h_=>h15 (h_.2.2 j (by omega)).1)],rfl⟩
    ·refine RN.go 11 [] λ _=>RN.ret [] [] [] (v:=.bool true) (H':=[]) ?_
     exact ⟨by rw [decide_eq_true (show vmapP S rs ds from ⟨⟨by omega,by omega⟩,λ t ht=>hr1 t (by omega),λ t ht=>hd1 t (by omega)⟩)],rfl⟩
end Go.Proofs.YtghjbimijeinfaaGreatDoor
