import Derived.Test.YtkhifpbokgabbaaGreatDoorW22
set_option maxHeartbeats 4000000
set_option maxRecDepth 100000
set_option linter.unusedSimpArgs false
set_option linter.unusedVariables false
namespace Go.Proofs.YtkhifpbokgabbaaGreatDoor
open Go.RowKit
def rowN (pl:Int) (xs:List Int) (t:Int) (q:Nat):Int:=if xs.length > 0 then around (xs.getD ((t * pl+(q:Int)) % (xs.length:Int)).toNat 0) 1000000 else 0
def rowOf (n:Int):Inp:=⟨n % 3 - 1,n / 3 % 3 - 1,if n / 9 % 3=0 then n / 27 % 4 else 0⟩
def rowI (pl:Int) (xs:List Int) (t:Int) (q:Nat):Inp:=rowOf (rowN pl xs t q)
def rowL (pl:Int) (xs:List Int) (t:Int) (n:Nat):List Inp:=(List.range n).map (rowI pl xs t)
theorem rowL_len (pl:Int) (xs:List Int) (t:Int) (n:Nat):(rowL pl xs t n).length=n:=by simp [rowL]
theorem rowL_succ (pl:Int) (xs:List Int) (t:Int) (n:Nat):rowL pl xs t (n+1)=rowL pl xs t n++[rowI pl xs t n]:=by simp [rowL,List.range_succ]
theorem rowL_get {pl:Int} {xs:List Int} {t:Int} {n i:Nat} (h:i < n):(rowL pl xs t n).getD i dI=rowI pl xs t i:=by simp [rowL,h]
theorem row_any (S:Setup) (A:Option Addr) (n cap:Nat) (xs:List Int) (t:Int) (F:HL) (hl:ArgL F A n xs) (hn:n <= 9223372036854775807) (hp:0 <= S.players /\ S.players <= 1000000) (ht:0 <= t /\ t <= 1000000):Sp Tryz.prog 10 #[(Setup.v S),.slice A n cap,vI t] [] F (λ u H'=>∃ x:Option Addr × Nat × HL,H'=ap [] [x.2.2] /\ (u=.slice x.1 S.players.toNat x.2.1 /\ SlIs inpE 89 (rowL S.players xs t S.players.toNat) x.1 x.2.1 x.2.2 /\ zeroOff x.1)):=by
 have hm:0 <= t * S.players /\ t * S.players <= 1000000000000:=⟨Int.mul_nonneg ht.1 hp.1,Int.le_trans (Int.mul_le_mul ht.2 hp.2 hp.1 (by decide)) (by decide)⟩
 refine Sp.run Tryz.func10 rfl mn (A:=[]) (Ts:=[]) rfl λ w0=>?_
 refine RN.go 18 [] λ n1=>RN.nt<|RN.loop (σ:=Nat × Option Addr × Nat × HL) (λ ⟨q,A_,c_,T_⟩=>⟨[(1,.slice A n cap),(2,vI t),(3,vP (n1+0) 0),(7,.slice A_ q c_),(8,vI (q:Int))],[((n1+0),.lit (Setup.l S) 31 (0,0))],[T_],(q:Int) <= S.players /\ SlIs inpE 89 (rowL S.players xs t q) A_ c_ T_ /\ zeroOff A_,S.players.toNat - q⟩) (0,none,0,[]) [0] [0] (⟨by show (0:Int) <= _;omega,SlIs.nil _ _,trivial⟩) ?_
 rintro ⟨q,A_,c_,T_⟩ ⟨hi_,hs_,hz_⟩ mt3
 refine RN.go 9 [.own 0] λ _=>RN.em ((q:Int) < S.players) 14 (λ h4=>?_) λ h4=>?_
 ·refine RN.go 18 [] λ _=>RN.em ((n:Int) > 0) 19 (λ h5=>?_) λ h5=>?_
  ·refine RN.goP 12 [.own 0,.nw,.nw,.nw] [0 <= (t * S.players)+(q:Int) /\ (0:Int) < (n:Int) /\ (t * S.players)+(q:Int) <= 9223372036854775807,I64 ((t * S.players)+(q:Int)),I64 (t * S.players)] λ _=>?_
   have hix1:=Int.emod_nonneg (t * S.players+(q:Int)) (show (n:Int) ≠ 0 by omega)
   have hix2:=Int.emod_lt_of_pos (t * S.players+(q:Int)) (show (0:Int) < n by omega)
   obtain ⟨qx6,ox6,Nx6,gx6,tyx6,fzx6,hAx6,hqx6,hox6,hgx6,hrx6⟩:=hl.at (k:=((t * S.players+(q:Int)) % (n:Int)).toNat) (by omega)
   refine RN.sv 20 (congrArg (λ v_=>(.slice v_ n cap:Value)) hAx6)<|RN.ro (λ _=>(mc hqx6 mn))<|RN.goP 2 [.ix ((((t * S.players)+(q:Int)) % (n:Int)).toNat),.rorow 0 (ox6+((((t * S.players)+(q:Int)) % (n:Int)).toNat)) 0] [(ox6+((((t * S.players)+(q:Int)) % (n:Int)).toNat) * 1)=(ox6+((((t * S.players)+(q:Int)) % (n:Int)).toNat)) * 1+0 /\ (ox6+((((t * S.players)+(q:Int)) % (n:Int)).toNat)) < Nx6,((t * S.players)+(q:Int)) % (n:Int)=(((((t * S.players)+(q:Int)) % (n:Int)).toNat:Nat):Int) /\ (((t * S.players)+(q:Int)) % (n:Int)).toNat < n] λ _=>RN.sv 31 (congrArg (λ v_=>(v_:Value)) hgx6)<|RN.cp (around_any (xs.getD (((t * S.players+(q:Int)) % (n:Int)).toNat) 0) 1000000 (by decide) _) ?_
   have hA7:=around_bd (n:=xs.getD (((t * S.players+(q:Int)) % (n:Int)).toNat) 0) hrx6 1000000 (by decide)
   refine RN.go 4 [] λ _=>RN.goP 22 [.nw,.nw,.nw,.nw,.nw,.own 0,.own 0,.own 0,.nw,.nw] [0 <= (around (xs.getD (((t * S.players+(q:Int)) % (n:Int)).toNat) 0) 1000000) / 9 /\ (0:Int) < 3 /\ (around (xs.getD (((t * S.players+(q:Int)) % (n:Int)).toNat) 0) 1000000) / 9 <= 9223372036854775807,0 <= around (xs.getD (((t * S.players+(q:Int)) % (n:Int)).toNat) 0) 1000000 /\ (0:Int) < 9 /\ around (xs.getD (((t * S.players+(q:Int)) % (n:Int)).toNat) 0) 1000000 <= 9223372036854775807,I64 ((((around (xs.getD (((t * S.players+(q:Int)) % (n:Int)).toNat) 0) 1000000) / 3) % 3) - 1),0 <= (around (xs.getD (((t * S.players+(q:Int)) % (n:Int)).toNat) 0) 1000000) / 3 /\ (0:Int) < 3 /\ (around (xs.getD (((t * S.players+(q:Int)) % (n:Int)).toNat) 0) 1000000) / 3 <= 9223372036854775807,0 <= around (xs.getD (((t * S.players+(q:Int)) % (n:Int)).toNat) 0) 1000000 /\ (0:Int) < 3 /\ around (xs.getD (((t * S.players+(q:Int)) % (n:Int)).toNat) 0) 1000000 <= 9223372036854775807,I64 (((around (xs.getD (((t * S.players+(q:Int)) % (n:Int)).toNat) 0) 1000000) % 3) - 1),0 <= around (xs.getD (((t * S.players+(q:Int)) % (n:Int)).toNat) 0) 1000000 /\ (0:Int) < 3 /\ around (xs.getD (((t * S.players+(q:Int)) % (n:Int)).toNat) 0) 1000000 <= 9223372036854775807] λ n8=>RN.em (((around (xs.getD (((t * S.players+(q:Int)) % (n:Int)).toNat) 0) 1000000) / 9) % 3=0) 44 (λ h9=>?_) λ h9=>?_
   ·refine RN.goP 13 [.nw,.nw,.own 0,.own 0,.own 0,.own 0] [0 <= (around (xs.getD (((t * S.players+(q:Int)) % (n:Int)).toNat) 0) 1000000) / 27 /\ (0:Int) < 4 /\ (around (xs.getD (((t * S.players+(q:Int)) % (n:Int)).toNat) 0) 1000000) / 27 <= 9223372036854775807,0 <= around (xs.getD (((t * S.players+(q:Int)) % (n:Int)).toNat) 0) 1000000 /\ (0:Int) < 27 /\ around (xs.getD (((t * S.players+(q:Int)) % (n:Int)).toNat) 0) 1000000 <= 9223372036854775807] λ n10=>?_
    have he_:rowI S.players xs t q=(⟨((around (xs.getD (((t * S.players+(q:Int)) % (n:Int)).toNat) 0) 1000000) % 3) - 1,(((around (xs.getD (((t * S.players+(q:Int)) % (n:Int)).toNat) 0) 1000000) / 3) % 3) - 1,((around (xs.getD (((t * S.players+(q:Int)) % (n:Int)).toNat) 0) 1000000) / 27) % 4⟩:Inp):=by
     unfold rowI
     rw [show rowN S.players xs t q=around (xs.getD (((t * S.players+(q:Int)) % (n:Int)).toNat) 0) 1000000 from by unfold rowN;rw [hl.len];rw [if_pos (by omega)]]
     first | rfl | (unfold rowOf;simp only [if_pos h9])
    refine RN.app inpEOk (rowL S.players xs t q) [(⟨((around (xs.getD (((t * S.players+(q:Int)) % (n:Int)).toNat) 0) 1000000) % 3) - 1,(((around (xs.getD (((t * S.players+(q:Int)) % (n:Int)).toNat) 0) 1000000) / 3) % 3) - 1,((around (xs.getD (((t * S.players+(q:Int)) % (n:Int)).toNat) 0) 1000000) / 27) % 4⟩:Inp)] 0 0 (rowL_len _ _ _ _).symm hs_ (by rw [rowL_len];show q+1 <= 100000000;omega) ?_
    rintro A11 c12 T13 ⟨hs14,hz15⟩
    refine RN.goP 9 [.nw] [I64 ((q:Int)+1)] λ _=>?_
    have hz2:=hz15 hz_
    refine mt3 (q+1,A11,c12,T13) [2] [0] ?_
    try dsimp only
    refine ⟨⟨by omega,?_,hz2⟩,by omega⟩
    rw [rowL_succ,he_]
    exact hs14
   ·refine RN.go 7 [.own 0,.own 0,.own 0] λ n16=>?_
    have he_:rowI S.players xs t q=(⟨((around (xs.getD (((t * S.players+(q:Int)) % (n:Int)).toNat) 0) 1000000) % 3) - 1,(((around (xs.getD (((t * S.players+(q:Int)) % (n:Int)).toNat) 0) 1000000) / 3) % 3) - 1,0⟩:Inp):=by
     unfold rowI
     rw [show rowN S.players xs t q=around (xs.getD (((t * S.players+(q:Int)) % (n:Int)).toNat) 0) 1000000 from by unfold rowN;rw [hl.len];rw [if_pos (by omega)]]
     first | rfl | (unfold rowOf;simp only [if_neg h9])
    refine RN.app inpEOk (rowL S.players xs t q) [(⟨((around (xs.getD (((t * S.players+(q:Int)) % (n:Int)).toNat) 0) 1000000) % 3) - 1,(((around (xs.getD (((t * S.players+(q:Int)) % (n:Int)).toNat) 0) 1000000) / 3) % 3) - 1,0⟩:Inp)] 0 0 (rowL_len _ _ _ _).symm hs_ (by rw [rowL_len];show q+1 <= 100000000;omega) ?_
    rintro A17 c18 T19 ⟨hs20,hz21⟩
    refine RN.goP 9 [.nw] [I64 ((q:Int)+1)] λ _=>?_
    have hz2:=hz21 hz_
    refine mt3 (q+1,A17,c18,T19) [2] [0] ?_
    try dsimp only
    refine ⟨⟨by omega,?_,hz2⟩,by omega⟩
    rw [rowL_succ,he_]
    exact hs20
  ·refine RN.go 4 [] λ _=>RN.go 35 (ow 0 7) λ n22=>?_
   have he_:rowI S.players xs t q=(⟨(-1),(-1),0⟩:Inp):=by
    unfold rowI
    rw [show rowN S.players xs t q=0 from by unfold rowN;rw [hl.len];rw [if_neg (by omega)]]
    rfl
   refine RN.app inpEOk (rowL S.players xs t q) [(⟨(-1),(-1),0⟩:Inp)] 0 0 (rowL_len _ _ _ _).symm hs_ (by rw [rowL_len];show q+1 <= 100000000;omega) ?_
   rintro A23 c24 T25 ⟨hs26,hz27⟩
   refine RN.goP 9 [.nw] [I64 ((q:Int)+1)] λ _=>?_
   have hz2:=hz27 hz_
   refine mt3 (q+1,A23,c24,T25) [2] [0] ?_
   try dsimp only
   refine ⟨⟨by omega,?_,hz2⟩,by omega⟩
   rw [rowL_succ,he_]
   exact hs26
 ·refine RN.go 12 [] λ _=>RN.ret [] [] [0] (v:=.slice A_ q c_) (H':=(ap [] [T_])) ?_
  have ei:q=S.players.toNat:=by omega
  subst ei
  exact ⟨(A_,c_,T_),rfl,rfl,hs_,hz_⟩
theorem newn_any (q:Nat) (cs:List Int) (n k cap:Nat) (F:HL) (hn:cs.length=n) (hq:(q,.rows 1 n (irow cs) 3 (0,0)) ∈ F) (hc:n <= 1000000) (hk:k <= 100000000) (hcap:n <= cap):Sp Tryz.prog 9 #[vS q 0 n cap] (ap [] []) F (λ u H'=>∃ x:Nat × HL,H'=ap [] [x.2] /\ (u=vP x.1 0 /\ MemH x.1 ⟨cs,[],0⟩ k x.2)):=by
 subst hn
 exact new_any q cs k cap F hq hc hk hcap
theorem rinit_ap (S:Setup) (F:HL) (hS:SetIn F S):Sp Tryz.prog 6 #[Setup.v S] (ap [] []) F (λ u H'=>∃ q,H'=ap [(q,.rows 1 (sizeOf S).toNat (irow (iniL S S.nb)) 3 (0,0))] [] /\ u=vS q 0 (sizeOf S).toNat (sizeOf S).toNat):=rinit_any S F hS
abbrev livB:Bod:=⟨⟨5,[],none,0⟩,⟨0,0,0,0,1024⟩,0,0⟩
abbrev livS (b:Nat):Setup:=⟨1,b,0,1,1,1,[livB],⟨0,0,0,0⟩,none,0,0,none,0,0,0,⟨0,0⟩,0,0,0,1,0⟩
abbrev livG (b c:Nat):Gm:=⟨livS b,none,0,0,-1,-1,-1,0,c,0,1,1,1,[dI],[]⟩
def goodB (g:Gm):Nat -> MemS -> Bool
 | 0,_=>false
 | n+1,M=>decide (phOk M) && (if trE g M then n == 0 else goodB g n (trM g M))
theorem goodB_ok {g:Gm}:∀ (n:Nat) (M:MemS),goodB g n M=true -> goodRun g n M
 | 0,M,h=>by simp [goodB] at h
 | n+1,M,h=>by
  simp only [goodB,Bool.and_eq_true] at h
  refine ⟨of_decide_eq_true h.1,?_⟩
  have h2:=h.2
  by_cases e:trE g M=true
  ·rw [if_pos e] at h2
   exact .inl ⟨by simpa using h2,e⟩
  ·rw [if_neg e] at h2
   exact .inr ⟨by simpa using e,goodB_ok n _ h2⟩
theorem liv_good (b c:Nat):goodB (livG b c) 11 ⟨iniL (livS b) 1,[],0⟩=true:=by kernel_rfl
theorem liv_tick (b c:Nat):(runM (livG b c) 11 ⟨iniL (livS b) 1,[],0⟩).get 0=1:=by kernel_rfl
theorem liv_still (b c:Nat):(runM (livG b c) 11 ⟨iniL (livS b) 1,[],0⟩).get (bodyAt (livS b) 0+7)=1:=by kernel_rfl
theorem liv_setN (b:Nat):SetN (livS b):=⟨⟨by show (0:Int) <= 1;decide,by show (1:Int) <= 1000000;decide⟩,Nat.le_of_ble_eq_true rfl⟩
theorem liv_set {b:Nat} {F:HL} (h:(b,.rows 9 1 (brow [livB]) 64 (0,0)) ∈ F):SetIn F (livS b) :=
 ⟨liv_setN b,h,Nat.le_of_ble_eq_true rfl,λ k hk=>by
  obtain rfl:k=0:=by simp only at hk;omega
  exact .circle _ _ _⟩
theorem lives_any (F:HL) (hE:EffIn F):Sp Tryz.prog 12 #[] [] F (λ u H'=>u=.bool true /\ H'=[]):=by
 refine Sp.run Tryz.func12 rfl mn (A:=[]) (Ts:=[]) rfl λ w0=>?_
 refine RN.go 18 (ow 0 16) λ n1=>RN.dn 1 (.rows 9 1 (brow [livB]) 64 (0,0))<|RN.go 1 (ow 0 16) λ _=>RN.ct (Hp:=[]) (Tp:=[]) [] [] (rinit_ap (livS (n1+0)) _ (liv_set (in_ap 1))) ?_
 rintro _ q2 rfl
 refine RN.ct (Hp:=[]) (Tp:=[]) [] [] (newn_any q2 (iniL (livS (n1+0)) ((livS (n1+0))).nb) ((sizeOf (livS (n1+0))).toNat) 100000000 ((sizeOf (livS (n1+0))).toNat) _ (iniL_len _ _) (in_ap 0) (Nat.le_of_ble_eq_true rfl) (by decide) (Nat.le_refl _)) ?_
 rintro _ ⟨mb,T⟩ ⟨rfl,hM⟩
 dsimp only at hM
 refine RN.go 14 [] λ _=>RN.draw [5] []<|RD.go [] [0,1,3] (ow 1 16)<|RD.cp [] 2 (λ X_=>(none_any _))<|RD.one 4 (RDO.ev [] [] λ n4=>?_)
 refine RD.dn 0 (.rows 3 1 (inrow [dI]) 89 (0,0))<|RD.one 5 (RDO.ct [] [] [0] (count_any (livG (n1+0) (n4+0)) mb ⟨(iniL (livS (n1+0)) ((livS (n1+0))).nb),[],0⟩ 0 10 50 T _ (hM.weak (by decide)) ⟨liv_set (in_ap 3),in_ap 0,⟨Nat.le_of_ble_eq_true rfl,Nat.le_of_ble_eq_true rfl⟩,ro_ap hE,.nil _⟩ rfl (goodB_ok _ _ (liv_good _ _)) (by omega) (by omega)) ?_)
 rintro _ ⟨T5,A7,c8,E9⟩ ⟨hM6,hs10,rfl⟩
 dsimp only at hM6 hs10
 refine RD.go [] [6,7,8,9,10] []<|RD.fin<|RN.go 7 [] λ _=>RN.cp (get_lit 0 (liv_tick _ _) hM6 trivial (sub_ap 0))<|RN.go 5 (ow 2 16) λ _=>RN.cp (rbody_any (livS (n1+0)) 0 _ (liv_setN (n1+0))) ?_
 have hb11:=bodyAt_bd (liv_setN (n1+0)) 0
 refine RN.goP 1 [.nw] [I64 ((bodyAt (livS (n1+0)) 0)+7)] λ _=>RN.cp (get_lit ((bodyAt (livS (n1+0)) 0)+7) (liv_still _ _) hM6 trivial (sub_ap 0))<|RN.go 5 [] λ _=>?_
 exact RN.ret [] [] [] ⟨rfl,rfl⟩
inductive GIn (F:HL):Option Addr -> Nat -> Prop
 | zero (A:Option Addr):GIn F A 0
 | cells (q N n:Nat) (ys:List Int) (hq:(q,.rows 1 N (rowE intE ys) 3 (0,0)) ∈ F) (hn:n <= N) (hb:∀ k,k < n -> i64r (ys.getD k 0)):GIn F (some ⟨q,0,none⟩) n
theorem GIn.up {F X:HL} {A:Option Addr} {n:Nat} (h:GIn F A n):GIn (X++F) A n:=by
 cases h with
 | zero=>exact .zero _
 | cells q N n ys hq hn hb=>exact .cells q N n ys (List.mem_append_right _ hq) hn hb
theorem tmod_bd {x m:Int} (h:0 <= x) (hm:0 < m):0 <= x.tmod m /\ x.tmod m < m:=⟨Int.tmod_nonneg _ h,Int.tmod_lt_of_pos _ hm⟩
theorem pick_z (g c i n:Nat) (A:Option Addr) (most:Int) (hm:0 < most) (hi:i=n) (hn:n <= 60) (F:HL):Sp Tryz.prog 41 #[vP g 0,vI most] [(g,.lit [.slice A n c,vI (i:Int)] 113 (0,0))] F (λ u H'=>∃ x:Nat × Nat,H'=ap [(g,.lit [.slice A n c,vI (x.2:Int)] 113 (0,0))] [] /\ (u=vI (x.1:Int) /\ (x.1:Int) < most /\ x.2 <= n)):=by
 refine Sp.run Tryz.func41 rfl mn (A:=[(g,.lit [.slice A n c,vI (i:Int)] 113 (0,0))]) (Ts:=[]) rfl λ w0=>?_
 refine RN.go 7 [] λ _=>RN.draw [] []<|RD.go [] [0,4,1,5,2,6,3,7,8,9] [.own 0,.own 0]<|RD.fin<|RN.go 1 [] λ _=>RN.em ((i:Int) >= (n:Int)) 15 (λ h1=>?_) λ h1=>?_
 ·refine RN.go 6 [] λ _=>RN.ret [] [0] [] (v:=vI 0) (H':=[(g,.lit [.slice A n c,vI (i:Int)] 113 (0,0))]) ?_
  exact ⟨(0,i),rfl,rfl,hm,by omega⟩
 ·exact absurd (show (i:Int) >= (n:Int) by omega) h1
theorem pick_s (g q c i n N:Nat) (ys:List Int) (most:Int) (hm:0 < most) (hi:i <= n) (hn:n <= 60) (F:HL) (hq:(q,.rows 1 N (rowE intE ys) 3 (0,0)) ∈ F) (hN:n <= N) (hb:∀ k,k < n -> i64r (ys.getD k 0)):Sp Tryz.prog 41 #[vP g 0,vI most] [(g,.lit [vS q 0 n c,vI (i:Int)] 113 (0,0))] F (λ u H'=>∃ x:Nat × Nat,H'=ap [(g,.lit [.slice (some ⟨q,0,none⟩) n c,vI (x.2:Int)] 113 (0,0))] [] /\ (u=vI (x.1:Int) /\ (x.1:Int) < most /\ x.2 <= n)):=by
 refine Sp.run Tryz.func41 rfl (mc hq mn) (A:=[(g,.lit [vS q 0 n c,vI (i:Int)] 113 (0,0))]) (Ts:=[]) rfl λ w0=>?_
 refine RN.go 7 [] λ _=>RN.draw [] []<|RD.go [] [0,4,1,5,2,6,3,7,8,9] [.own 0,.own 0]<|RD.fin<|RN.go 1 [] λ _=>RN.em ((i:Int) >= (n:Int)) 15 (λ h1=>?_) λ h1=>?_
 ·refine RN.go 6 [] λ _=>RN.ret [] [0] [] (v:=vI 0) (H':=[(g,.lit [vS q 0 n c,vI (i:Int)] 113 (0,0))]) ?_
  exact ⟨(0,i),rfl,rfl,hm,by omega⟩
 ·refine RN.go 4 [] λ _=>RN.draw [] []<|RD.goP [] [0,4,1,5,2,6,3,7,8,9] [.own 0,.own 0,.ix i,.rorow 0 i 0] [(0+i * 1)=i * 1+0 /\ i < N,(i:Int)=((i:Nat):Int) /\ i < n]<|RD.cp [] 10 (λ X_=>(around_any (ys.getD i 0) 1000000 (by decide) _)) ?_
  have hA2:=around_bd (n:=ys.getD i 0) (hb i (by omega)) 1000000 (by decide)
  refine RD.go [] [11] []<|RD.fin<|RN.goP 21 [.own 0,.nw,.own 0,.dv] [most ≠ 0,I64 ((i:Int)+1)] λ _=>RN.ret [] [0] [] (v:=vI ((around (ys.getD i 0) 1000000).tmod most)) (H':=[(g,.lit [vS q 0 n c,vI ((i:Int)+1)] 113 (0,0))]) ?_
  have hz:=tmod_bd hA2.1 hm
  obtain ⟨z,hzz⟩:=Int.eq_ofNat_of_zero_le hz.1
  have hz2:=hz.2
  rw [hzz] at hz2 ⊢
  exact ⟨(z,i+1),rfl,rfl,hz2,by omega⟩
theorem pick_any (g c i n:Nat) (A:Option Addr) (most:Int) (hm:0 < most) (hi:i <= n) (hn:n <= 60) (F:HL) (hG:GIn F A n):Sp Tryz.prog 41 #[vP g 0,vI most] (ap [(g,.lit [.slice A n c,vI (i:Int)] 113 (0,0))] []) F (λ u H'=>∃ x:Nat × Nat,H'=ap [(g,.lit [.slice A n c,vI (x.2:Int)] 113 (0,0))] [] /\ (u=vI (x.1:Int) /\ (x.1:Int) < most /\ x.2 <= n)):=by
 cases hG with
 | zero=>exact pick_z g c i 0 A most hm (by omega) hn F
 | cells q N n ys hq hN hb=>exact pick_s g q c i n N ys most hm hi hn F hq hN hb
inductive Nd
 | mk (k n:Int) (s:ByteArray) (A:Option Addr) (c:Nat) (kids:List Nd)
def Nd.k:Nd -> Int | .mk k _ _ _ _ _=>k
def Nd.n:Nd -> Int | .mk _ n _ _ _ _=>n
def Nd.s:Nd -> ByteArray | .mk _ _ s _ _ _=>s
def Nd.A:Nd -> Option Addr | .mk _ _ _ A _ _=>A
def Nd.c:Nd -> Nat | .mk _ _ _ _ c _=>c
def Nd.kids:Nd -> List Nd | .mk _ _ _ _ _ l=>l
abbrev dN:Nd:=.mk 0 0 ⟨#[]⟩ none 0 []
def ndE:Enc Nd:=⟨4,λ p k=>match k with | 0=>vI p.k | 1=>vI p.n | 2=>.string p.s | _=>.slice p.A p.kids.length p.c,dN⟩
noncomputable def ndEI:TypeInfo:=match Tryz.prog.info? 70 with | some i=>i | none=>⟨.bool,"",0,0,false,0,0,none,false,#[]⟩
noncomputable def ndEZ:Value:=match ndEI.zero with | some z=>z | none=>.bool false
theorem ndEOk:EncOk ndE Tryz.prog 70 ndEI ndEZ where
 info:=by kernel_rfl
 zero:=by kernel_rfl
 size:=by kernel_rfl
 zsize:=by kernel_rfl
 zcell:=λ k hk=>by
  have h:∀ k < 4,ndEZ.cells[k]?=some (ndE.cell ndE.dflt k):=by intro k hk;(iterate 4 (rcases k with _ | k;· kernel_rfl));omega
  exact h k hk
 one:=λ x k=>by unfold ndE;dsimp only;split <;> rfl
 bytes:=Nat.le_of_ble_eq_true (by kernel_rfl)
abbrev nrow (l:List Nd):Nat -> Nat -> Value:=rowE ndE l
abbrev ndV (x:Nd):Value:=.agg #[vI x.k,vI x.n,.string x.s,.slice x.A x.kids.length x.c]
inductive NdIn (F:HL):Nd -> Prop
 | leaf (k n:Int) (s:ByteArray) (A:Option Addr) (c:Nat):NdIn F (.mk k n s A c [])
 | node (k n:Int) (s:ByteArray) (q N c:Nat) (l rest:List Nd) (hq:(q,.rows 4 N (nrow (l++rest)) 70 (0,0)) ∈ F) (hN:l.length <= N) (hk:∀ x ∈ l,NdIn F x):NdIn F (.mk k n s (some ⟨q,0,none⟩) c l)
theorem NdIn.mono {F F':HL} {x:Nd} (h:NdIn F x) (hs:∀ y ∈ F,y ∈ F'):NdIn F' x:=by
 induction h with
 | leaf k n s A c=>exact .leaf k n s A c
 | node k n s q N c l rest hq hN hk ih=>exact .node k n s q N c l rest (hs _ hq) hN ih
def NdH (x:Nd) (T:HL):Prop:=∀ F,(∀ y ∈ T,y ∈ F) -> NdIn F x
def strow (l:List ByteArray):Nat -> Nat -> Value:=λ i _=>.string (l.getD i ⟨#[]⟩)
theorem getD_mem' {α:Type} {l:List α} {i:Nat} {d:α} (h:i < l.length):l.getD i d ∈ l:=by
 rw [List.getD_eq_getElem?_getD,List.getElem?_eq_getElem h];exact List.getElem_mem h
theorem one_any (k:Int) (s:ByteArray) (x:Nd) (F:HL):Sp Tryz.prog 105 #[vI k,.string s,.agg #[vI x.k,vI x.n,.string x.s,.slice x.A x.kids.length x.c]] [] F (λ u H'=>∃ q,H'=ap [(q,.rows 4 1 (nrow [x]) 70 (0,0))] [] /\ u=.agg #[vI k,vI 0,.string s,.slice (some ⟨q,0,none⟩) 1 1]):=by
 refine Sp.run Tryz.func105 rfl mn (A:=[]) (Ts:=[]) rfl λ w0=>?_
 refine RN.go 16 (ow 1 8) λ n1=>RN.dn 0 (.rows 4 1 (nrow [x]) 70 (0,0))<|RN.ret [.own 1,.own 1,.own 1,.own 1] [0] [] (v:=.agg #[vI k,vI 0,.string s,vS (n1+2) 0 1 1]) (H':=[((n1+2),.rows 4 1 (nrow [x]) 70 (0,0))]) ?_
 exact ⟨_,rfl,rfl⟩
theorem two_any (k:Int) (s:ByteArray) (x y:Nd) (F:HL):Sp Tryz.prog 107 #[vI k,.string s,.agg #[vI x.k,vI x.n,.string x.s,.slice x.A x.kids.length x.c],.agg #[vI y.k,vI y.n,.string y.s,.slice y.A y.kids.length y.c]] [] F (λ u H'=>∃ q,H'=ap [(q,.rows 4 2 (nrow [x,y]) 70 (0,0))] [] /\ u=.agg #[vI k,vI 0,.string s,.slice (some ⟨q,0,none⟩) 2 2]):=by
 refine Sp.run Tryz.func107 rfl mn (A:=[]) (Ts:=[]) rfl λ w0=>?_
 refine RN.go 18 ([.own 2,.own 2,.own 2,.own 2]++ow 1 8) λ n1=>RN.dn 0 (.rows 4 2 (nrow [x,y]) 70 (0,0))<|RN.ret [.own 1,.own 1,.own 1,.own 1] [0] [] (v:=.agg #[vI k,vI 0,.string s,vS (n1+3) 0 2 2]) (H':=[((n1+3),.rows 4 2 (nrow [x,y]) 70 (0,0))]) ?_
 exact ⟨_,rfl,rfl⟩
def vsL:List ByteArray:=[⟨#[105]⟩,⟨#[110]⟩,⟨#[115,117,109]⟩,⟨#[118,51]⟩]
def naL:List ByteArray:=[⟨#[115,101,108,102]⟩,⟨#[111,116,104,101,114]⟩,⟨#[116,105,99,107]⟩]
def fdL:List ByteArray:=[⟨#[120]⟩,⟨#[121]⟩,⟨#[118,120]⟩,⟨#[118,121]⟩,⟨#[97]⟩,⟨#[98]⟩,⟨#[104,105,116]⟩,⟨#[115,116,105,108,108]⟩]
def opL:List ByteArray:=[⟨#[43]⟩,⟨#[45]⟩,⟨#[42]⟩,⟨#[47]⟩]
def cmL:List ByteArray:=[⟨#[60]⟩,⟨#[60,61]⟩,⟨#[62]⟩,⟨#[62,61]⟩,⟨#[61,61]⟩,⟨#[33,61]⟩]
def loL:List ByteArray:=[⟨#[38,38]⟩,⟨#[124,124]⟩]
def stL:List ByteArray:=[⟨#[120]⟩,⟨#[121]⟩,⟨#[118,120]⟩,⟨#[118,121]⟩,⟨#[97]⟩,⟨#[98]⟩]
def iL:List Int:=[0,1,2,3,7,100,1024,2147483647]
inductive Ht:Nat -> Nd -> Prop
 | mk (h:Nat) (k n:Int) (s:ByteArray) (A:Option Addr) (c:Nat) (l:List Nd) (hl:l.length <= 3) (hx:∀ x ∈ l,Ht h x):Ht (h+1) (.mk k n s A c l)
theorem Ht.up {h h':Nat} {x:Nd} (hx:Ht h x) (hh:h <= h'):Ht h' x:=by
 induction hx generalizing h' with
 | mk h k n s A c l hl hx ih =>
  obtain ⟨m,rfl⟩:∃ m,h'=m+1:=⟨h' - 1,by omega⟩
  exact .mk m k n s A c l hl λ x hm=>ih x hm (by omega)
theorem Ht.zero {h:Nat} {k n:Int} {s:ByteArray} {A:Option Addr} {c:Nat}:Ht (h+1) (.mk k n s A c []):=.mk h k n s A c [] (by decide) λ x hx=>by simp at hx
theorem Ht.one {h a:Nat} {x:Nd} (hx:Ht a x) (ha:a <= h) {k n:Int} {s:ByteArray} {A:Option Addr} {c:Nat}:Ht (h+1) (.mk k n s A c [x]):=.mk h k n s A c [x] (Nat.le_of_ble_eq_true rfl) λ y hy=>by
 simp only [List.mem_singleton] at hy;subst hy;exact hx.up ha
theorem Ht.two {h a b:Nat} {x y:Nd} (hx:Ht a x) (hy:Ht b y) (ha:a <= h) (hb:b <= h) {k n:Int} {s:ByteArray} {A:Option Addr} {c:Nat}:Ht (h+1) (.mk k n s A c [x,y]):=.mk h k n s A c [x,y] (Nat.le_of_ble_eq_true rfl) λ z hz=>by
 simp only [List.mem_cons,List.not_mem_nil,or_false] at hz
 rcases hz with rfl | rfl
 ·exact hx.up ha
 ·exact hy.up hb
theorem Ht.three {h a b d:Nat} {x y z:Nd} (hx:Ht a x) (hy:Ht b y) (hz:Ht d z) (ha:a <= h) (hb:b <= h) (hd:d <= h) {k n:Int} {s:ByteArray} {A:Option Addr} {c:Nat}:Ht (h+1) (.mk k n s A c [x,y,z]):=.mk h k n s A c [x,y,z] (Nat.le_of_ble_eq_true rfl) λ w hw=>by
 simp only [List.mem_cons,List.not_mem_nil,or_false] at hw
 rcases hw with rfl | rfl | rfl
 ·exact hx.up ha
 ·exact hy.up hb
 ·exact hz.up hd
theorem NdH.zero {k n:Int} {s:ByteArray} {A:Option Addr} {c:Nat} {T:HL}:NdH (.mk k n s A c []) T:=λ F _=>.leaf k n s A c
theorem NdH.one {x:Nd} {T:HL} (h:NdH x T) {k n:Int} {s:ByteArray} {q c:Nat}:NdH (.mk k n s (some ⟨q,0,none⟩) c [x]) ((q,.rows 4 1 (nrow [x]) 70 (0,0)) :: T):=λ F hF =>
 .node k n s q 1 c [x] [] (hF _ (by simp)) (Nat.le_refl _) λ y hy=>by
  simp only [List.mem_singleton] at hy;subst hy;exact h F λ z hz=>hF z (by simp [hz])
theorem NdH.two {x y:Nd} {T U:HL} (h:NdH x T) (h2:NdH y U) {k n:Int} {s:ByteArray} {q c:Nat}:NdH (.mk k n s (some ⟨q,0,none⟩) c [x,y]) ((q,.rows 4 2 (nrow [x,y]) 70 (0,0)) :: (U++T)):=λ F hF =>
 .node k n s q 2 c [x,y] [] (hF _ (by simp)) (Nat.le_refl _) λ z hz=>by
  simp only [List.mem_cons,List.not_mem_nil,or_false] at hz
  rcases hz with rfl | rfl
  ·exact h F λ z hz=>hF z (by simp [hz])
  ·exact h2 F λ z hz=>hF z (by simp [hz])
abbrev GenS (f:FuncId) (args:Array Value) (G:Nd -> Prop) (g c n:Nat) (A:Option Addr) (i:Nat) (F:HL):Prop :=
 Sp Tryz.prog f args (ap [(g,.lit [.slice A n c,vI (i:Int)] 113 (0,0))] []) F (λ u H'=>∃ x:Nd × Nat × HL,H'=ap [(g,.lit [.slice A n c,vI (x.2.1:Int)] 113 (0,0))] [x.2.2] /\ (u=ndV x.1 /\ x.2.1 <= n /\ G x.1 /\ NdH x.1 x.2.2))
theorem int_step (g c i n:Nat) (A:Option Addr) (d:Int) (hd:-100 <= d /\ d <= 1000) (hi:i <= n) (hn:n <= 60) (F:HL) (hG:GIn F A n) (ih:0 < d -> ∀ (i:Nat) (F:HL),i <= n -> GIn F A n -> GenS 106 #[vP g 0,vI (d - 1)] (Ht ((d - 1).toNat+1)) g c n A i F):Sp Tryz.prog 106 #[vP g 0,vI d] [(g,.lit [.slice A n c,vI (i:Int)] 113 (0,0))] F (λ u H'=>∃ x:Nd × Nat × HL,H'=ap [(g,.lit [.slice A n c,vI (x.2.1:Int)] 113 (0,0))] [x.2.2] /\ (u=ndV x.1 /\ x.2.1 <= n /\ Ht (d.toNat+1) x.1 /\ NdH x.1 x.2.2)):=by
 refine Sp.run Tryz.func106 rfl mn (A:=[(g,.lit [.slice A n c,vI (i:Int)] 113 (0,0))]) (Ts:=[]) rfl λ w0=>?_
 refine RN.go 8 [] λ n1=>RN.ct [1] [] (pick_any g c i n A 12 (by omega) (by omega) hn _ hG.up) ?_
 rintro _ ⟨k2,i3⟩ ⟨rfl,hk4,hi5⟩
 dsimp only at hk4 hi5
 refine RN.go 10 [] λ _=>RN.em (d <= 0) 12 (λ h6=>?_) λ h6=>?_
 ·refine RN.goP 21 [.nw] [0 <= (k2:Int) /\ (0:Int) < 6 /\ (k2:Int) <= 9223372036854775807] λ _=>RN.em ((k2:Int) % 6=0) 16 (λ h7=>?_) λ h7=>?_
  ·refine RN.go 8 [] λ n8=>RN.ct [1] [] (pick_any g c i3 n A 8 (by omega) (by omega) hn _ hG.up) ?_
   rintro _ ⟨k9,i10⟩ ⟨rfl,hk11,hi12⟩
   dsimp only at hk11 hi12
   refine RN.dn 1 (.rows 1 8 (irow iL) 3 (0,0))<|RN.goP 6 [.ix k9,.row 1 k9 0,.own 2,.own 2,.own 2,.own 2] [(0+k9 * 1)=k9 * 1+0 /\ k9 < 8,(k9:Int)=((k9:Nat):Int) /\ k9 < 8] λ _=>RN.ret [.own 2,.own 2,.own 2,.own 2] [0] [] (v:=.agg #[vI 8,vI (iL.getD k9 0),.string ⟨#[]⟩,.slice none 0 0]) (H':=(ap [(g,.lit [.slice A n c,vI (i10:Int)] 113 (0,0))] [])) ?_
   exact ⟨(.mk 8 (iL.getD k9 0) ⟨#[]⟩ none 0 [],i10,[]),(by simp [ap]),rfl,(by dsimp only;omega),.zero,.zero⟩
  ·refine RN.go 6 [] λ _=>RN.em ((k2:Int) % 6=1) 16 (λ h13=>?_) λ h13=>?_
   ·refine RN.go 5 [] λ n14=>RN.ct [1] [] (pick_any g c i3 n A 8 (by omega) (by omega) hn _ hG.up) ?_
    rintro _ ⟨k15,i16⟩ ⟨rfl,hk17,hi18⟩
    dsimp only at hk17 hi18
    refine RN.dn 1 (.rows 1 8 (irow iL) 3 (0,0))<|RN.goP 6 [.ix k15,.row 1 k15 0,.own 2,.own 2,.own 2,.own 2] [(0+k15 * 1)=k15 * 1+0 /\ k15 < 8,(k15:Int)=((k15:Nat):Int) /\ k15 < 8] λ _=>RN.ret [.own 2,.own 2,.own 2,.own 2] [0] [] (v:=.agg #[vI 8,vI (iL.getD k15 0),.string ⟨#[]⟩,.slice none 0 0]) (H':=(ap [(g,.lit [.slice A n c,vI (i16:Int)] 113 (0,0))] [])) ?_
    exact ⟨(.mk 8 (iL.getD k15 0) ⟨#[]⟩ none 0 [],i16,[]),(by simp [ap]),rfl,(by dsimp only;omega),.zero,.zero⟩
   ·refine RN.go 8 [] λ _=>RN.em ((k2:Int) % 6=2) 25 (λ h19=>?_) λ h19=>?_
    ·refine RN.go 8 [] λ n20=>RN.ct [1] [] (pick_any g c i3 n A 4 (by omega) (by omega) hn _ hG.up) ?_
     rintro _ ⟨k21,i22⟩ ⟨rfl,hk23,hi24⟩
     dsimp only at hk23 hi24
     refine RN.dn 1 (.rows 1 4 (strow vsL) 9 (0,0))<|RN.goP 6 [.ix k21,.row 1 k21 0,.own 2,.own 2,.own 2,.own 2] [(0+k21 * 1)=k21 * 1+0 /\ k21 < 4,(k21:Int)=((k21:Nat):Int) /\ k21 < 4] λ _=>RN.ret [.own 2,.own 2,.own 2,.own 2] [0] [] (v:=.agg #[vI 10,vI 0,.string (vsL.getD k21 ⟨#[]⟩),.slice none 0 0]) (H':=(ap [(g,.lit [.slice A n c,vI (i22:Int)] 113 (0,0))] [])) ?_
     exact ⟨(.mk 10 0 (vsL.getD k21 ⟨#[]⟩) none 0 [],i22,[]),(by simp [ap]),rfl,(by dsimp only;omega),.zero,.zero⟩
    ·refine RN.go 6 [] λ _=>RN.em ((k2:Int) % 6=3) 25 (λ h25=>?_) λ h25=>?_
     ·refine RN.go 5 [] λ n26=>RN.ct [1] [] (pick_any g c i3 n A 4 (by omega) (by omega) hn _ hG.up) ?_
      rintro _ ⟨k27,i28⟩ ⟨rfl,hk29,hi30⟩
      dsimp only at hk29 hi30
      refine RN.dn 1 (.rows 1 4 (strow vsL) 9 (0,0))<|RN.goP 6 [.ix k27,.row 1 k27 0,.own 2,.own 2,.own 2,.own 2] [(0+k27 * 1)=k27 * 1+0 /\ k27 < 4,(k27:Int)=((k27:Nat):Int) /\ k27 < 4] λ _=>RN.ret [.own 2,.own 2,.own 2,.own 2] [0] [] (v:=.agg #[vI 10,vI 0,.string (vsL.getD k27 ⟨#[]⟩),.slice none 0 0]) (H':=(ap [(g,.lit [.slice A n c,vI (i28:Int)] 113 (0,0))] [])) ?_
      exact ⟨(.mk 10 0 (vsL.getD k27 ⟨#[]⟩) none 0 [],i28,[]),(by simp [ap]),rfl,(by dsimp only;omega),.zero,.zero⟩
     ·refine RN.go 8 [] λ _=>RN.em ((k2:Int) % 6=4) 34 (λ h31=>?_) λ h31=>?_
      ·refine RN.go 8 [] λ n32=>RN.ct [1] [] (pick_any g c i3 n A 3 (by omega) (by omega) hn _ hG.up) ?_
       rintro _ ⟨k33,i34⟩ ⟨rfl,hk35,hi36⟩
       dsimp only at hk35 hi36
       refine RN.dn 1 (.rows 1 3 (strow naL) 9 (0,0))<|RN.goP 6 [.ix k33,.row 1 k33 0,.own 2,.own 2,.own 2,.own 2] [(0+k33 * 1)=k33 * 1+0 /\ k33 < 3,(k33:Int)=((k33:Nat):Int) /\ k33 < 3] λ _=>RN.ret [.own 2,.own 2,.own 2,.own 2] [0] [] (v:=.agg #[vI 12,vI 0,.string (naL.getD k33 ⟨#[]⟩),.slice none 0 0]) (H':=(ap [(g,.lit [.slice A n c,vI (i34:Int)] 113 (0,0))] [])) ?_
       exact ⟨(.mk 12 0 (naL.getD k33 ⟨#[]⟩) none 0 [],i34,[]),(by simp [ap]),rfl,(by dsimp only;omega),.zero,.zero⟩
      ·refine RN.go 6 [] λ _=>RN.em ((k2:Int) % 6=5) 34 (λ h37=>?_) λ h37=>?_
       ·refine RN.go 5 [] λ n38=>RN.ct [1] [] (pick_any g c i3 n A 3 (by omega) (by omega) hn _ hG.up) ?_
        rintro _ ⟨k39,i40⟩ ⟨rfl,hk41,hi42⟩
        dsimp only at hk41 hi42
        refine RN.dn 1 (.rows 1 3 (strow naL) 9 (0,0))<|RN.goP 6 [.ix k39,.row 1 k39 0,.own 2,.own 2,.own 2,.own 2] [(0+k39 * 1)=k39 * 1+0 /\ k39 < 3,(k39:Int)=((k39:Nat):Int) /\ k39 < 3] λ _=>RN.ret [.own 2,.own 2,.own 2,.own 2] [0] [] (v:=.agg #[vI 12,vI 0,.string (naL.getD k39 ⟨#[]⟩),.slice none 0 0]) (H':=(ap [(g,.lit [.slice A n c,vI (i40:Int)] 113 (0,0))] [])) ?_
        exact ⟨(.mk 12 0 (naL.getD k39 ⟨#[]⟩) none 0 [],i40,[]),(by simp [ap]),rfl,(by dsimp only;omega),.zero,.zero⟩
       ·omega
 ·refine RN.go 17 [] λ _=>RN.em ((k2:Int)=0) 16 (λ h43=>?_) λ h43=>?_
  ·refine RN.go 8 [] λ n44=>RN.ct [1] [] (pick_any g c i3 n A 8 (by omega) (by omega) hn _ hG.up) ?_
   rintro _ ⟨k45,i46⟩ ⟨rfl,hk47,hi48⟩
   dsimp only at hk47 hi48
   refine RN.dn 1 (.rows 1 8 (irow iL) 3 (0,0))<|RN.goP 6 [.ix k45,.row 1 k45 0,.own 2,.own 2,.own 2,.own 2] [(0+k45 * 1)=k45 * 1+0 /\ k45 < 8,(k45:Int)=((k45:Nat):Int) /\ k45 < 8] λ _=>RN.ret [.own 2,.own 2,.own 2,.own 2] [0] [] (v:=.agg #[vI 8,vI (iL.getD k45 0),.string ⟨#[]⟩,.slice none 0 0]) (H':=(ap [(g,.lit [.slice A n c,vI (i46:Int)] 113 (0,0))] [])) ?_
   exact ⟨(.mk 8 (iL.getD k45 0) ⟨#[]⟩ none 0 [],i46,[]),(by simp [ap]),rfl,(by dsimp only;omega),.zero,.zero⟩
  ·refine RN.go 6 [] λ _=>RN.em ((k2:Int)=1) 16 (λ h49=>?_) λ h49=>?_
   ·refine RN.go 5 [] λ n50=>RN.ct [1] [] (pick_any g c i3 n A 8 (by omega) (by omega) hn _ hG.up) ?_
    rintro _ ⟨k51,i52⟩ ⟨rfl,hk53,hi54⟩
    dsimp only at hk53 hi54
    refine RN.dn 1 (.rows 1 8 (irow iL) 3 (0,0))<|RN.goP 6 [.ix k51,.row 1 k51 0,.own 2,.own 2,.own 2,.own 2] [(0+k51 * 1)=k51 * 1+0 /\ k51 < 8,(k51:Int)=((k51:Nat):Int) /\ k51 < 8] λ _=>RN.ret [.own 2,.own 2,.own 2,.own 2] [0] [] (v:=.agg #[vI 8,vI (iL.getD k51 0),.string ⟨#[]⟩,.slice none 0 0]) (H':=(ap [(g,.lit [.slice A n c,vI (i52:Int)] 113 (0,0))] [])) ?_
    exact ⟨(.mk 8 (iL.getD k51 0) ⟨#[]⟩ none 0 [],i52,[]),(by simp [ap]),rfl,(by dsimp only;omega),.zero,.zero⟩
   ·refine RN.go 8 [] λ _=>RN.em ((k2:Int)=2) 25 (λ h55=>?_) λ h55=>?_
    ·refine RN.go 8 [] λ n56=>RN.ct [1] [] (pick_any g c i3 n A 4 (by omega) (by omega) hn _ hG.up) ?_
     rintro _ ⟨k57,i58⟩ ⟨rfl,hk59,hi60⟩
     dsimp only at hk59 hi60
     refine RN.dn 1 (.rows 1 4 (strow vsL) 9 (0,0))<|RN.goP 6 [.ix k57,.row 1 k57 0,.own 2,.own 2,.own 2,.own 2] [(0+k57 * 1)=k57 * 1+0 /\ k57 < 4,(k57:Int)=((k57:Nat):Int) /\ k57 < 4] λ _=>RN.ret [.own 2,.own 2,.own 2,.own 2] [0] [] (v:=.agg #[vI 10,vI 0,.string (vsL.getD k57 ⟨#[]⟩),.slice none 0 0]) (H':=(ap [(g,.lit [.slice A n c,vI (i58:Int)] 113 (0,0))] [])) ?_
     exact ⟨(.mk 10 0 (vsL.getD k57 ⟨#[]⟩) none 0 [],i58,[]),(by simp [ap]),rfl,(by dsimp only;omega),.zero,.zero⟩
    ·refine RN.go 6 [] λ _=>RN.em ((k2:Int)=3) 25 (λ h61=>?_) λ h61=>?_
     ·refine RN.go 5 [] λ n62=>RN.ct [1] [] (pick_any g c i3 n A 4 (by omega) (by omega) hn _ hG.up) ?_
      rintro _ ⟨k63,i64⟩ ⟨rfl,hk65,hi66⟩
      dsimp only at hk65 hi66
      refine RN.dn 1 (.rows 1 4 (strow vsL) 9 (0,0))<|RN.goP 6 [.ix k63,.row 1 k63 0,.own 2,.own 2,.own 2,.own 2] [(0+k63 * 1)=k63 * 1+0 /\ k63 < 4,(k63:Int)=((k63:Nat):Int) /\ k63 < 4] λ _=>RN.ret [.own 2,.own 2,.own 2,.own 2] [0] [] (v:=.agg #[vI 10,vI 0,.string (vsL.getD k63 ⟨#[]⟩),.slice none 0 0]) (H':=(ap [(g,.lit [.slice A n c,vI (i64:Int)] 113 (0,0))] [])) ?_
      exact ⟨(.mk 10 0 (vsL.getD k63 ⟨#[]⟩) none 0 [],i64,[]),(by simp [ap]),rfl,(by dsimp only;omega),.zero,.zero⟩
     ·refine RN.go 8 [] λ _=>RN.em ((k2:Int)=4) 34 (λ h67=>?_) λ h67=>?_
      ·refine RN.go 8 [] λ n68=>RN.ct [1] [] (pick_any g c i3 n A 3 (by omega) (by omega) hn _ hG.up) ?_
       rintro _ ⟨k69,i70⟩ ⟨rfl,hk71,hi72⟩
       dsimp only at hk71 hi72
       refine RN.dn 1 (.rows 1 3 (strow naL) 9 (0,0))<|RN.goP 6 [.ix k69,.row 1 k69 0,.own 2,.own 2,.own 2,.own 2] [(0+k69 * 1)=k69 * 1+0 /\ k69 < 3,(k69:Int)=((k69:Nat):Int) /\ k69 < 3] λ _=>RN.ret [.own 2,.own 2,.own 2,.own 2] [0] [] (v:=.agg #[vI 12,vI 0,.string (naL.getD k69 ⟨#[]⟩),.slice none 0 0]) (H':=(ap [(g,.lit [.slice A n c,vI (i70:Int)] 113 (0,0))] [])) ?_
       exact ⟨(.mk 12 0 (naL.getD k69 ⟨#[]⟩) none 0 [],i70,[]),(by simp [ap]),rfl,(by dsimp only;omega),.zero,.zero⟩
      ·refine RN.go 6 [] λ _=>RN.em ((k2:Int)=5) 34 (λ h73=>?_) λ h73=>?_
       ·refine RN.go 5 [] λ n74=>RN.ct [1] [] (pick_any g c i3 n A 3 (by omega) (by omega) hn _ hG.up) ?_
        rintro _ ⟨k75,i76⟩ ⟨rfl,hk77,hi78⟩
        dsimp only at hk77 hi78
        refine RN.dn 1 (.rows 1 3 (strow naL) 9 (0,0))<|RN.goP 6 [.ix k75,.row 1 k75 0,.own 2,.own 2,.own 2,.own 2] [(0+k75 * 1)=k75 * 1+0 /\ k75 < 3,(k75:Int)=((k75:Nat):Int) /\ k75 < 3] λ _=>RN.ret [.own 2,.own 2,.own 2,.own 2] [0] [] (v:=.agg #[vI 12,vI 0,.string (naL.getD k75 ⟨#[]⟩),.slice none 0 0]) (H':=(ap [(g,.lit [.slice A n c,vI (i76:Int)] 113 (0,0))] [])) ?_
        exact ⟨(.mk 12 0 (naL.getD k75 ⟨#[]⟩) none 0 [],i76,[]),(by simp [ap]),rfl,(by dsimp only;omega),.zero,.zero⟩
       ·refine RN.go 8 [] λ _=>RN.em ((k2:Int)=6) 43 (λ h79=>?_) λ h79=>?_
        ·refine RN.go 8 [] λ n80=>RN.ct [1] [] (pick_any g c i3 n A 8 (by omega) (by omega) hn _ hG.up) ?_
         rintro _ ⟨k81,i82⟩ ⟨rfl,hk83,hi84⟩
         dsimp only at hk83 hi84
         refine RN.dn 1 (.rows 1 8 (strow fdL) 9 (0,0))<|RN.goP 11 [.ix k81,.row 1 k81 0,.nw] [I64 (d - 1),(0+k81 * 1)=k81 * 1+0 /\ k81 < 8,(k81:Int)=((k81:Nat):Int) /\ k81 < 8] λ _=>RN.ct [0] [] (ih (by omega) i82 _ (by omega) hG.up) ?_
         rintro _ ⟨x85,i86,T87⟩ ⟨rfl,hi88,hg89,hT90⟩
         dsimp only at hi88 hg89 hT90
         refine RN.ct (Hp:=[]) (Tp:=[]) [] [] (one_any 11 (fdL.getD k81 ⟨#[]⟩) x85 _) ?_
         rintro _ q91 rfl
         refine RN.go 3 [.own 3,.own 3,.own 3,.own 3] λ _=>RN.ret [.own 3,.own 3,.own 3,.own 3] [1,0] [0] (v:=.agg #[vI 11,vI 0,.string (fdL.getD k81 ⟨#[]⟩),vS q91 0 1 1]) (H':=(ap [(g,.lit [.slice A n c,vI (i86:Int)] 113 (0,0)),(q91,.rows 4 1 (nrow [x85]) 70 (0,0))] [T87])) ?_
         exact ⟨(.mk 11 0 (fdL.getD k81 ⟨#[]⟩) (some ⟨q91,0,none⟩) 1 [x85],i86,(q91,.rows 4 1 (nrow [x85]) 70 (0,0)) :: (T87)),(by simp [ap]),rfl,(by dsimp only;omega),.one hg89 (by omega),.one hT90⟩
        ·refine RN.go 6 [] λ _=>RN.em ((k2:Int)=7) 43 (λ h92=>?_) λ h92=>?_
         ·refine RN.go 5 [] λ n93=>RN.ct [1] [] (pick_any g c i3 n A 8 (by omega) (by omega) hn _ hG.up) ?_
          rintro _ ⟨k94,i95⟩ ⟨rfl,hk96,hi97⟩
          dsimp only at hk96 hi97
          refine RN.dn 1 (.rows 1 8 (strow fdL) 9 (0,0))<|RN.goP 11 [.ix k94,.row 1 k94 0,.nw] [I64 (d - 1),(0+k94 * 1)=k94 * 1+0 /\ k94 < 8,(k94:Int)=((k94:Nat):Int) /\ k94 < 8] λ _=>RN.ct [0] [] (ih (by omega) i95 _ (by omega) hG.up) ?_
          rintro _ ⟨x98,i99,T100⟩ ⟨rfl,hi101,hg102,hT103⟩
          dsimp only at hi101 hg102 hT103
          refine RN.ct (Hp:=[]) (Tp:=[]) [] [] (one_any 11 (fdL.getD k94 ⟨#[]⟩) x98 _) ?_
          rintro _ q104 rfl
          refine RN.go 3 [.own 3,.own 3,.own 3,.own 3] λ _=>RN.ret [.own 3,.own 3,.own 3,.own 3] [1,0] [0] (v:=.agg #[vI 11,vI 0,.string (fdL.getD k94 ⟨#[]⟩),vS q104 0 1 1]) (H':=(ap [(g,.lit [.slice A n c,vI (i99:Int)] 113 (0,0)),(q104,.rows 4 1 (nrow [x98]) 70 (0,0))] [T100])) ?_
          exact ⟨(.mk 11 0 (fdL.getD k94 ⟨#[]⟩) (some ⟨q104,0,none⟩) 1 [x98],i99,(q104,.rows 4 1 (nrow [x98]) 70 (0,0)) :: (T100)),(by simp [ap]),rfl,(by dsimp only;omega),.one hg102 (by omega),.one hT103⟩
         ·refine RN.go 7 [] λ _=>RN.em ((k2:Int)=8) 57 (λ h105=>?_) λ h105=>?_
          ·refine RN.goP 6 [.nw] [I64 (d - 1)] λ _=>RN.ct [0] [] (ih (by omega) i3 _ (by omega) hG.up) ?_
           rintro _ ⟨x106,i107,T108⟩ ⟨rfl,hi109,hg110,hT111⟩
           dsimp only at hi109 hg110 hT111
           refine RN.ct (Hp:=[]) (Tp:=[]) [] [] (one_any 13 ⟨#[45]⟩ x106 _) ?_
           rintro _ q112 rfl
           refine RN.go 3 [.own 2,.own 2,.own 2,.own 2] λ _=>RN.ret [.own 2,.own 2,.own 2,.own 2] [1,0] [0] (v:=.agg #[vI 13,vI 0,.string ⟨#[45]⟩,vS q112 0 1 1]) (H':=(ap [(g,.lit [.slice A n c,vI (i107:Int)] 113 (0,0)),(q112,.rows 4 1 (nrow [x106]) 70 (0,0))] [T108])) ?_
           exact ⟨(.mk 13 0 ⟨#[45]⟩ (some ⟨q112,0,none⟩) 1 [x106],i107,(q112,.rows 4 1 (nrow [x106]) 70 (0,0)) :: (T108)),(by simp [ap]),rfl,(by dsimp only;omega),.one hg110 (by omega),.one hT111⟩
          ·refine RN.go 8 [] λ n113=>RN.ct [1] [] (pick_any g c i3 n A 4 (by omega) (by omega) hn _ hG.up) ?_
           rintro _ ⟨k114,i115⟩ ⟨rfl,hk116,hi117⟩
           dsimp only at hk116 hi117
           refine RN.dn 1 (.rows 1 4 (strow opL) 9 (0,0))<|RN.goP 10 [.ix k114,.row 1 k114 0,.nw] [I64 (d - 1),(0+k114 * 1)=k114 * 1+0 /\ k114 < 4,(k114:Int)=((k114:Nat):Int) /\ k114 < 4] λ _=>RN.ct [0] [] (ih (by omega) i115 _ (by omega) hG.up) ?_
           rintro _ ⟨x118,i119,T120⟩ ⟨rfl,hi121,hg122,hT123⟩
           dsimp only at hi121 hg122 hT123
           refine RN.go 5 [.own 0,.own 0,.own 0,.own 0] λ n124=>RN.draw [5,6,7] []<|RD.goP [] [0,2,3,4] [.nw] [I64 (d - 1)]<|RD.two 1 5 ?_ ?_
           ·refine RDO.ev [] [.own 0,.own 0,.own 0,.own 0] λ _=>RD.one 5 (RDO.ct [] [1] [] (ih (by omega) i119 _ (by omega) hG.up) ?_)
            rintro _ ⟨x125,i126,T127⟩ ⟨rfl,hi128,hg129,hT130⟩
            dsimp only at hi128 hg129 hT130
            refine RD.one 6 (RDO.ct [] (Hp:=[]) (Tp:=[]) [] [] (two_any 14 (opL.getD k114 ⟨#[]⟩) x118 x125 _) ?_)
            rintro _ q131 rfl
            refine RD.one 7 (RDO.ev [] [.own 4,.own 4,.own 4,.own 4] λ _=>?_)
            refine RD.fin<|RN.go 1 [] λ _=>RN.ret [.own 4,.own 4,.own 4,.own 4] [1,0] [0,1] (v:=.agg #[vI 14,vI 0,.string (opL.getD k114 ⟨#[]⟩),vS q131 0 2 2]) (H':=(ap [(g,.lit [.slice A n c,vI (i126:Int)] 113 (0,0)),(q131,.rows 4 2 (nrow [x118,x125]) 70 (0,0))] [T127,T120])) ?_
            exact ⟨(.mk 14 0 (opL.getD k114 ⟨#[]⟩) (some ⟨q131,0,none⟩) 2 [x118,x125],i126,(q131,.rows 4 2 (nrow [x118,x125]) 70 (0,0)) :: (T127++T120)),(by simp [ap]),rfl,(by dsimp only;omega),.two hg122 hg129 (by omega) (by omega),.two hT123 hT130⟩
           ·refine RDO.ct [] [1] [] (ih (by omega) i119 _ (by omega) hG.up) ?_
            rintro _ ⟨x132,i133,T134⟩ ⟨rfl,hi135,hg136,hT137⟩
            dsimp only at hi135 hg136 hT137
            refine RD.one 1 (RDO.ev [] [.own 1,.own 1,.own 1,.own 1] λ _=>?_)
            refine RD.one 6 (RDO.ct [] (Hp:=[]) (Tp:=[]) [] [] (two_any 14 (opL.getD k114 ⟨#[]⟩) x118 x132 _) ?_)
            rintro _ q138 rfl
            refine RD.one 7 (RDO.ev [] [.own 4,.own 4,.own 4,.own 4] λ _=>?_)
            refine RD.fin<|RN.go 1 [] λ _=>RN.ret [.own 4,.own 4,.own 4,.own 4] [1,0] [0,1] (v:=.agg #[vI 14,vI 0,.string (opL.getD k114 ⟨#[]⟩),vS q138 0 2 2]) (H':=(ap [(g,.lit [.slice A n c,vI (i133:Int)] 113 (0,0)),(q138,.rows 4 2 (nrow [x118,x132]) 70 (0,0))] [T134,T120])) ?_
            exact ⟨(.mk 14 0 (opL.getD k114 ⟨#[]⟩) (some ⟨q138,0,none⟩) 2 [x118,x132],i133,(q138,.rows 4 2 (nrow [x118,x132]) 70 (0,0)) :: (T134++T120)),(by simp [ap]),rfl,(by dsimp only;omega),.two hg122 hg136 (by omega) (by omega),.two hT123 hT137⟩
theorem int_any {g c n:Nat} {A:Option Addr} (hn:n <= 60):∀ (m:Nat) (d:Int),d <= m -> -100 <= d -> m <= 1000 -> ∀ (i:Nat) (F:HL),i <= n -> GIn F A n -> GenS 106 #[vP g 0,vI d] (Ht (d.toNat+1)) g c n A i F
 | 0,d,h,h2,h3,i,F,hi,hG=>int_step g c i n A d (by omega) hi hn F hG λ h=>absurd h (by omega)
 | m+1,d,h,h2,h3,i,F,hi,hG=>int_step g c i n A d (by omega) hi hn F hG λ h i F hi hG=>int_any hn m (d - 1) (by omega) (by omega) (by omega) i F hi hG
end Go.Proofs.YtkhifpbokgabbaaGreatDoor
