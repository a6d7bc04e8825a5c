import Derived.Test.YtgibcbhfmomfbaaGreatDoorS27
import Derived.Test.YtgibcbhfmomfbaaGreatDoorS22
set_option maxHeartbeats 4000000
set_option maxRecDepth 100000
set_option linter.unusedSimpArgs false
set_option linter.unusedVariables false
namespace Go.Proofs.YtgibcbhfmomfbaaGreatDoor
open Go.RowKit
def btwP (cs:List Int):Prop:=(cs.getD 1 0=0 /\ cs.getD 2 0=0 /\ cs.getD 3 0=0 /\ cs.getD 4 0=0 /\ cs.getD 5 0=0 /\ cs.getD 6 0=0 /\ cs.getD 7 0=0 /\ cs.getD 8 0=0 /\ cs.getD 9 0=0 /\ cs.getD 10 0=0) /\ cs.getD 0 0 >= 0 /\ cs.getD 0 0 <= 6000
instance (cs:List Int):Decidable (btwP cs):=inferInstanceAs (Decidable (_ /\ _))
def resM (cs:List Int) (M:MemS):Nat -> MemS
 | 0=>M
 | i+1=>if (resM cs M i).get (i:Int)=cs.getD i 0 then resM cs M i else (resM cs M i).set (i:Int) (cs.getD i 0)
theorem set_len (M:MemS) (i v:Int):(M.set i v).cs.length=M.cs.length:=by
 unfold MemS.set;split <;> simp
theorem resM_len (cs:List Int) (M:MemS):∀ i,(resM cs M i).cs.length=M.cs.length
 | 0=>rfl
 | i+1=>by
  rw [resM];split
  ·exact resM_len cs M i
  ·rw [set_len];exact resM_len cs M i
theorem resM_cs (cs:List Int) (M:MemS):∀ i,i <= M.cs.length -> ∀ k,(resM cs M i).cs.getD k 0=if k < i then cs.getD k 0 else M.cs.getD k 0
 | 0,_,k=>by rw [if_neg (Nat.not_lt_zero k)];rfl
 | i+1,h,k=>by
  have ih:=resM_cs cs M i (by omega)
  have hl:=resM_len cs M i
  rw [resM]
  split
  ·next he =>
   unfold MemS.get at he
   rw [if_pos (by omega),Int.toNat_natCast] at he
   by_cases h1:k=i
   ·subst h1;rw [if_pos (by omega)];exact he
   ·rw [ih k]
    by_cases h2:k < i
    ·rw [if_pos h2,if_pos (by omega)]
    ·rw [if_neg h2,if_neg (by omega)]
  ·unfold MemS.set
   rw [if_pos (by omega),Int.toNat_natCast]
   by_cases h1:k=i
   ·subst h1
    rw [if_pos (by omega)]
    exact getD_set_same (by omega)
   ·show ((resM cs M i).cs.set i _).getD k 0=_
    rw [getD_set_not (λ e=>h1 e.symm),ih k]
    by_cases h2:k < i
    ·rw [if_pos h2,if_pos (by omega)]
    ·rw [if_neg h2,if_neg (by omega)]
theorem resM_all {cs:List Int} {M:MemS} {n:Nat} (h:n=M.cs.length) (hc:n <= cs.length):(resM cs M n).cs=cs.take n:=by
 apply List.ext_getElem?
 intro k
 have h1:=resM_cs cs M n (by omega) k
 have hl:=resM_len cs M n
 by_cases hk:k < n
 ·rw [if_pos hk,List.getD_eq_getElem?_getD,List.getD_eq_getElem?_getD,List.getElem?_eq_getElem (by omega),List.getElem?_eq_getElem (by omega)] at h1
  rw [List.getElem?_take,if_pos hk,List.getElem?_eq_getElem (by omega),List.getElem?_eq_getElem (by omega)]
  exact congrArg some h1
 ·rw [List.getElem?_eq_none (by omega),List.getElem?_eq_none (by rw [List.length_take];omega)]
theorem btw_any (cs:List Int) (q n N cap:Nat) (F:HL) (hq:(q,.rows 1 N (irow cs) 3 (0,0)) ∈ F) (hN:n <= N) (h48:48 <= n):Sp Tryz.prog 46 #[vS q 0 n cap] [] F (λ u H'=>u=.bool (decide (btwP cs)) /\ H'=[]):=by
 refine Sp.run Tryz.func46 rfl (mc hq mn) (A:=[]) (Ts:=[]) rfl λ w0=>?_
 refine RN.go 20 (ow 0 20) λ n1=>RN.rounds 10<|RN.goP 26 [.gen,.gen,.ix 1,.rorow 0 1 0] [(0+1 * 1)=1 * 1+0 /\ 1 < N,1=((1:Nat):Int) /\ 1 < n] λ _=>RN.en (cs.getD 1 0=0) 15 (λ h2=>?_) λ h2=>?_
 ·refine RN.goP 35 [.gen,.gen,.gen,.ix 2,.rorow 0 2 0] [(0+2 * 1)=2 * 1+0 /\ 2 < N,2=((2:Nat):Int) /\ 2 < n] λ _=>RN.en (cs.getD 2 0=0) 15 (λ h3=>?_) λ h3=>?_
  ·refine RN.goP 35 [.gen,.gen,.gen,.ix 3,.rorow 0 3 0] [(0+3 * 1)=3 * 1+0 /\ 3 < N,3=((3:Nat):Int) /\ 3 < n] λ _=>RN.en (cs.getD 3 0=0) 15 (λ h4=>?_) λ h4=>?_
   ·refine RN.goP 35 [.gen,.gen,.gen,.ix 4,.rorow 0 4 0] [(0+4 * 1)=4 * 1+0 /\ 4 < N,4=((4:Nat):Int) /\ 4 < n] λ _=>RN.en (cs.getD 4 0=0) 15 (λ h5=>?_) λ h5=>?_
    ·refine RN.goP 35 [.gen,.gen,.gen,.ix 5,.rorow 0 5 0] [(0+5 * 1)=5 * 1+0 /\ 5 < N,5=((5:Nat):Int) /\ 5 < n] λ _=>RN.en (cs.getD 5 0=0) 15 (λ h6=>?_) λ h6=>?_
     ·refine RN.goP 35 [.gen,.gen,.gen,.ix 6,.rorow 0 6 0] [(0+6 * 1)=6 * 1+0 /\ 6 < N,6=((6:Nat):Int) /\ 6 < n] λ _=>RN.en (cs.getD 6 0=0) 15 (λ h7=>?_) λ h7=>?_
      ·refine RN.goP 35 [.gen,.gen,.gen,.ix 7,.rorow 0 7 0] [(0+7 * 1)=7 * 1+0 /\ 7 < N,7=((7:Nat):Int) /\ 7 < n] λ _=>RN.en (cs.getD 7 0=0) 15 (λ h8=>?_) λ h8=>?_
       ·refine RN.goP 35 [.gen,.gen,.gen,.ix 8,.rorow 0 8 0] [(0+8 * 1)=8 * 1+0 /\ 8 < N,8=((8:Nat):Int) /\ 8 < n] λ _=>RN.en (cs.getD 8 0=0) 15 (λ h9=>?_) λ h9=>?_
        ·refine RN.goP 35 [.gen,.gen,.gen,.ix 9,.rorow 0 9 0] [(0+9 * 1)=9 * 1+0 /\ 9 < N,9=((9:Nat):Int) /\ 9 < n] λ _=>RN.en (cs.getD 9 0=0) 15 (λ h10=>?_) λ h10=>?_
         ·refine RN.goP 35 [.gen,.gen,.gen,.ix 10,.rorow 0 10 0] [(0+10 * 1)=10 * 1+0 /\ 10 < N,10=((10:Nat):Int) /\ 10 < n] λ _=>RN.en (cs.getD 10 0=0) 15 (λ h11=>?_) λ h11=>?_
          ·refine RN.goP 28 [.ix 0,.rorow 0 0 0] [(0+0 * 1)=0 * 1+0 /\ 0 < N,0=((0:Nat):Int) /\ 0 < n] λ _=>RN.em (cs.getD 0 0 >= 0) 21 (λ h12=>?_) λ h12=>?_
           ·refine RN.goP 8 [.ix 0,.rorow 0 0 0] [(0+0 * 1)=0 * 1+0 /\ 0 < N,0=((0:Nat):Int) /\ 0 < n] λ _=>RN.ret [] [] [] (v:=.bool (decide (cs.getD 0 0 <= 6000))) (H':=[]) ?_
            exact ⟨congrArg Value.bool (decide_eq_decide.2 ⟨λ h_=>by unfold btwP;omega,λ h_=>by unfold btwP at h_;omega⟩),rfl⟩
           ·refine RN.go 8 [] λ _=>RN.ret [] [] [] (v:=.bool false) (H':=[]) ?_
            exact ⟨congrArg Value.bool (decide_eq_false (show ¬ btwP cs from λ h_=>by unfold btwP at h_;omega)).symm,rfl⟩
          ·refine RN.go 6 [] λ _=>RN.ret [] [] [] (v:=.bool false) (H':=[]) ?_
           exact ⟨congrArg Value.bool (decide_eq_false (show ¬ btwP cs from λ h_=>by unfold btwP at h_;omega)).symm,rfl⟩
         ·refine RN.go 6 [] λ _=>RN.ret [] [] [] (v:=.bool false) (H':=[]) ?_
          exact ⟨congrArg Value.bool (decide_eq_false (show ¬ btwP cs from λ h_=>by unfold btwP at h_;omega)).symm,rfl⟩
        ·refine RN.go 6 [] λ _=>RN.ret [] [] [] (v:=.bool false) (H':=[]) ?_
         exact ⟨congrArg Value.bool (decide_eq_false (show ¬ btwP cs from λ h_=>by unfold btwP at h_;omega)).symm,rfl⟩
       ·refine RN.go 6 [] λ _=>RN.ret [] [] [] (v:=.bool false) (H':=[]) ?_
        exact ⟨congrArg Value.bool (decide_eq_false (show ¬ btwP cs from λ h_=>by unfold btwP at h_;omega)).symm,rfl⟩
      ·refine RN.go 6 [] λ _=>RN.ret [] [] [] (v:=.bool false) (H':=[]) ?_
       exact ⟨congrArg Value.bool (decide_eq_false (show ¬ btwP cs from λ h_=>by unfold btwP at h_;omega)).symm,rfl⟩
     ·refine RN.go 6 [] λ _=>RN.ret [] [] [] (v:=.bool false) (H':=[]) ?_
      exact ⟨congrArg Value.bool (decide_eq_false (show ¬ btwP cs from λ h_=>by unfold btwP at h_;omega)).symm,rfl⟩
    ·refine RN.go 6 [] λ _=>RN.ret [] [] [] (v:=.bool false) (H':=[]) ?_
     exact ⟨congrArg Value.bool (decide_eq_false (show ¬ btwP cs from λ h_=>by unfold btwP at h_;omega)).symm,rfl⟩
   ·refine RN.go 6 [] λ _=>RN.ret [] [] [] (v:=.bool false) (H':=[]) ?_
    exact ⟨congrArg Value.bool (decide_eq_false (show ¬ btwP cs from λ h_=>by unfold btwP at h_;omega)).symm,rfl⟩
  ·refine RN.go 6 [] λ _=>RN.ret [] [] [] (v:=.bool false) (H':=[]) ?_
   exact ⟨congrArg Value.bool (decide_eq_false (show ¬ btwP cs from λ h_=>by unfold btwP at h_;omega)).symm,rfl⟩
 ·refine RN.go 6 [] λ _=>RN.ret [] [] [] (v:=.bool false) (H':=[]) ?_
  exact ⟨congrArg Value.bool (decide_eq_false (show ¬ btwP cs from λ h_=>by unfold btwP at h_;omega)).symm,rfl⟩
theorem restore_run (S:Setup) (bp gb mb:Nat) (cs:List Int) (q n N cap:Nat) (M:MemS) (k:Nat) (T U F:HL) (hM:MemH mb M (k+n) T) (hq:(q,.rows 1 N (irow cs) 3 (0,0)) ∈ F) (hN:n <= N) (h48:48 <= M.cs.length):Sp Tryz.prog 24 #[vP gb 0,vS q 0 n cap] (ap [(gb,.lit (gameL S bp mb) 88 (0,0))] [T,U]) F (λ u H'=>∃ x:HL,H'=ap [(gb,.lit (gameL S bp mb) 88 (0,0))] [x,U] /\ ((((n:Int)=(M.cs.length:Int) /\ btwP cs) /\ u=vI 0 /\ MemH mb (resM cs M n) k x) \/ (¬ ((n:Int)=(M.cs.length:Int) /\ btwP cs) /\ u=vI 1 /\ x=T))):=by
 have hl_:=hM.len
 refine Sp.run Tryz.func24 rfl (mc hq mn) (A:=[(gb,.lit (gameL S bp mb) 88 (0,0))]) (Ts:=[T,U]) rfl λ w0=>?_
 refine RN.go 14 [.own 0] λ _=>RN.cp (len_any hM (sub_ap 0))<|RN.go 2 [] λ _=>RN.en ((n:Int)=(M.cs.length:Int)) 15 (λ h1=>?_) λ h1=>?_
 ·refine RN.go 1 [] λ _=>RN.cp (btw_any cs q n N cap _ (ro_ap hq) hN (by omega))<|RN.go 4 [] λ _=>RN.en (btwP cs) 19 (λ h2=>?_) λ h2=>?_
  ·refine RN.go 12 [] λ _=>RN.loop (σ:=Nat × HL) (λ ⟨i,T_⟩=>⟨[(0,vP gb 0),(20,vS q 0 n cap),(21,vI (n:Int)),(22,vI (i:Int))],[(gb,.lit (gameL S bp mb) 88 (0,0))],[T_,U],i <= n /\ MemH mb (resM cs M i) (k+(n - i)) T_,n - i⟩) (0,T) [0] [0,1] (⟨Nat.zero_le _,hM⟩) ?_
   rintro ⟨i,T_⟩ ⟨hin,hT_⟩ mt4
   refine RN.go 6 [] λ _=>RN.em ((i:Int) < (n:Int)) 23 (λ h5=>?_) λ h5=>?_
   ·refine RN.go 7 [] λ _=>?_
    replace hT_:=hT_.weak (k':=k+(n - (i+1))+1) (by omega)
    refine RN.goP 14 [.ix i,.rorow 0 i 0,.own 0] [(0+i * 1)=i * 1+0 /\ i < N,(i:Int)=((i:Nat):Int) /\ i < n] λ _=>RN.cp (get_any (i:Int) hT_ (sub_ap 0))<|RN.go 4 [] λ _=>RN.en ((resM cs M i).get (i:Int)=cs.getD i 0) 34 (λ h6=>?_) λ h6=>?_
    ·refine RN.goP 8 [.nw] [I64 ((i:Int)+1)] λ _=>?_
     refine mt4 (i+1,T_) [0] [0,1] ?_
     try dsimp only
     exact ⟨⟨by omega,hT_.cast (by rw [resM,if_pos h6]) (by omega)⟩,by omega⟩
    ·refine RN.go 8 [.own 0] λ _=>RN.ct [] [0] (set_any (i:Int) (cs.getD i 0) hT_) ?_
     rintro _ T7 hM8
     refine RN.goP 7 [.nw] [I64 ((i:Int)+1)] λ _=>?_
     refine mt4 (i+1,T7) [0] [0,1] ?_
     try dsimp only
     exact ⟨⟨by omega,hM8.cast (by rw [resM,if_neg h6]) (by omega)⟩,by omega⟩
   ·refine RN.go 11 [] λ _=>RN.ret [] [0] [0,1] (v:=vI 0) (H':=(ap [(gb,.lit (gameL S bp mb) 88 (0,0))] [T_,U])) ?_
    obtain rfl:i=n:=by omega
    exact ⟨T_,rfl,.inl ⟨⟨by omega,by assumption⟩,rfl,hT_.weak (by omega)⟩⟩
  ·refine RN.go 6 [] λ _=>RN.ret [] [0] [0,1] (v:=vI 1) (H':=(ap [(gb,.lit (gameL S bp mb) 88 (0,0))] [T,U])) ?_
   exact ⟨T,rfl,.inr ⟨λ h_=>by first | exact absurd h_.2 (by assumption) | omega,rfl,rfl⟩⟩
 ·refine RN.go 12 [] λ _=>RN.ret [] [0] [0,1] (v:=vI 1) (H':=(ap [(gb,.lit (gameL S bp mb) 88 (0,0))] [T,U])) ?_
  exact ⟨T,rfl,.inr ⟨λ h_=>by first | exact absurd h_.2 (by assumption) | omega,rfl,rfl⟩⟩
theorem restore_any (rs:List Bx) (ds:List Dr) (S:Setup) (bp gb:Nat) (cs:List Int) (q n N cap:Nat) (M:MemS) (k:Nat) (G F:HL) (hG:GameH rs ds bp gb S M (k+n) G) (hq:(q,.rows 1 N (irow cs) 3 (0,0)) ∈ F) (hN:n <= N) (h48:48 <= M.cs.length):Sp Tryz.prog 24 #[vP gb 0,vS q 0 n cap] (ap [] [G]) F
  (λ u H'=>∃ x:HL,H'=ap [] [x] /\ ((((n:Int)=(M.cs.length:Int) /\ btwP cs) /\ u=vI 0 /\ GameH rs ds bp gb S (resM cs M n) k x) \/ (¬ ((n:Int)=(M.cs.length:Int) /\ btwP cs) /\ u=vI 1 /\ GameH rs ds bp gb S M k x))):=by
 cases hG with
 | mk mb T U hM hU =>
  rw [ap_one]
  refine (restore_run S bp gb mb cs q n N cap M k T U F hM hq hN h48).mono λ u H' h=>?_
  obtain ⟨x,rfl,h⟩:=h
  refine ⟨_,(ap_one _).symm,?_⟩
  rcases h with ⟨h1,h2,h3⟩ | ⟨h1,h2,rfl⟩
  ·exact .inl ⟨h1,h2,.mk _ _ _ h3 hU⟩
  ·exact .inr ⟨h1,h2,.mk _ _ _ (hM.weak (by omega)) hU⟩
def sameP (na nb:Nat) (xs ys:List Int):Prop:=na=nb /\ ∀ k,k < na -> xs.getD k 0=ys.getD k 0
instance (na nb:Nat) (xs ys:List Int):Decidable (sameP na nb xs ys):=inferInstanceAs (Decidable (_ /\ _))
theorem sameI_run (qa qb na nb Na Nb ca cb:Nat) (xs ys:List Int) (F:HL) (ha:(qa,.rows 1 Na (irow xs) 3 (0,0)) ∈ F) (hb:(qb,.rows 1 Nb (irow ys) 3 (0,0)) ∈ F) (hna:na <= Na) (hnb:nb <= Nb) (hn:na <= 1000000):Sp Tryz.prog 18 #[vS qa 0 na ca,vS qb 0 nb cb] [] F (λ u H'=>u=.bool (decide (sameP na nb xs ys)) /\ H'=[]):=by
 refine Sp.run Tryz.func18 rfl (mc ha (mc hb mn)) (A:=[]) (Ts:=[]) rfl λ w0=>?_
 refine RN.go 15 [] λ _=>RN.en ((na:Int)=(nb:Int)) 10 (λ h1=>?_) λ h1=>?_
 ·refine RN.go 10 [] λ _=>RN.loop (σ:=Nat) (λ i=>⟨[(0,vS qa 0 na ca),(1,vS qb 0 nb cb),(5,vI (i:Int))],[],[],i <= na /\ ∀ t,t < i -> xs.getD t 0=ys.getD t 0,na - i⟩) 0 [] [] (⟨Nat.zero_le _,λ t ht=>absurd ht (Nat.not_lt_zero _)⟩) ?_
  rintro i ⟨hil,hs1⟩ mt3
  refine RN.go 9 [] λ _=>RN.em ((i:Int) < (na:Int)) 14 (λ h4=>?_) λ h4=>?_
  ·refine RN.go 6 [] λ _=>RN.draw [] []<|RD.goP [] [0,1,4,5,2,6,3,7,8] [.ix i,.ix i,.rorow 0 i 0,.rorow 1 i 0] [(0+i * 1)=i * 1+0 /\ i < Nb,(0+i * 1)=i * 1+0 /\ i < Na,(i:Int)=((i:Nat):Int) /\ i < nb,(i:Int)=((i:Nat):Int) /\ i < na]<|RD.fin<|RN.go 1 [] λ _=>RN.en (xs.getD i 0=ys.getD i 0) 25 (λ h5=>?_) λ h5=>?_
   ·refine RN.goP 9 [.nw] [I64 ((i:Int)+1)] λ _=>?_
    refine mt3 (i+1) [] [] ?_
    try dsimp only
    refine ⟨⟨by omega,λ t ht=>?_⟩,by omega⟩
    rcases Nat.lt_or_ge t i with h_ | h_
    ·exact hs1 t h_
    ·obtain rfl:t=i:=by omega
     exact h5
   ·refine RN.go 6 [] λ _=>RN.ret [] [] [] (v:=.bool false) (H':=[]) ?_
    exact ⟨congrArg Value.bool (decide_eq_false (show ¬ sameP na nb xs ys from λ h_=>h5 (h_.2 i (by omega)))).symm,rfl⟩
  ·refine RN.go 11 [] λ _=>RN.ret [] [] [] (v:=.bool true) (H':=[]) ?_
   exact ⟨congrArg Value.bool (decide_eq_true (show sameP na nb xs ys from ⟨by omega,λ t ht=>hs1 t (by omega)⟩)).symm,rfl⟩
 ·refine RN.go 6 [] λ _=>RN.ret [] [] [] (v:=.bool false) (H':=[]) ?_
  exact ⟨congrArg Value.bool (decide_eq_false (show ¬ sameP na nb xs ys from λ h_=>by have:=h_.1;omega)).symm,rfl⟩
theorem sameI_b (b:Bool) (qa qb na nb Na Nb ca cb:Nat) (xs ys:List Int) (F:HL) (ha:(qa,.rows 1 Na (irow xs) 3 (0,0)) ∈ F) (hb:(qb,.rows 1 Nb (irow ys) 3 (0,0)) ∈ F) (hna:na <= Na) (hnb:nb <= Nb) (hn:na <= 1000000) (he:decide (sameP na nb xs ys)=b):Sp Tryz.prog 18 #[vS qa 0 na ca,vS qb 0 nb cb] [] F (λ u H'=>u=.bool b /\ H'=[]):=he ▸ sameI_run qa qb na nb Na Nb ca cb xs ys F ha hb hna hnb hn
theorem GameH.weak {rs:List Bx} {ds:List Dr} {bp gb:Nat} {S:Setup} {M:MemS} {k k':Nat} {T:HL} (h:GameH rs ds bp gb S M k T) (hk:k' <= k):GameH rs ds bp gb S M k' T:=by
 cases h with
 | mk mb T U hM hU=>exact .mk mb T U (hM.weak hk) hU
theorem cells_ap (mb:Nat) (M:MemS) (k:Nat) (T F:HL) (hM:MemH mb M k T) (hT:∀ x ∈ T,x ∈ F):Sp Tryz.prog 14 #[vP mb 0] (ap [] []) F (λ u H'=>∃ q,H'=ap [(q,.rows 1 M.cs.length (irow M.cs) 3 (0,0))] [] /\ u=vS q 0 M.cs.length M.cs.length):=cells_any mb M k T F hM hT
theorem setup_ap (A:Option Addr) (n cap:Nat) (xs:List Int) (F:HL) (hl:ArgL F A n xs) (hn:n <= 9223372036854775807):Sp Tryz.prog 6 #[.slice A n cap] (ap [] []) F (λ u H'=>∃ x:Setup × HL,H'=ap [(x.1.bb,.rows 9 x.1.bR (brow x.1.bods) 79 (0,0))] [x.2] /\ (u=Setup.v x.1 /\ SetG xs x.1 x.2)):=setup_any A n cap xs F hl hn
def okIn (x:Inp):Prop:=(¬ x.dx < -1 /\ ¬ x.dx > 1) /\ (¬ x.dy < -1 /\ ¬ x.dy > 1) /\ ¬ x.act < 0 /\ ¬ x.act > 3
instance (x:Inp):Decidable (okIn x):=inferInstanceAs (Decidable (_ /\ _))
def wrongE (pl:Int) (n:Nat) (xs:List Inp) (now:Int):Int:=if (n:Int)=pl then (if ∀ k,k < n -> okIn (xs.getD k dI) then (if now >= 6000 then 2 else 0) else 1) else 17
theorem mark_mem (mb cb n:Nat) (A:Option Addr) (m cap:Nat) (base:Int) (F:HL) (hm:(mb,.lit [vS cb 0 n n,.slice A m cap,vI base] 128 (0,0)) ∈ F):Sp Tryz.prog 40 #[vP mb 0] [] F (λ u H'=>u=vI (w64 (base+(m:Int))) /\ H'=[]):=by
 refine Sp.run Tryz.func40 rfl (mc hm mn) (A:=[]) (Ts:=[]) rfl λ w0=>?_
 refine RN.go 6 [] λ _=>RN.draw [] []<|RD.go [] [0,4,1,5,2,6,3,7,8,9,10] [.ro 0,.ro 0]<|RD.fin<|RN.go 1 [] λ _=>?_
 exact RN.ret [] [] [] ⟨rfl,rfl⟩
theorem mark_any {mb:Nat} {M:MemS} {k:Nat} {T F:HL} (h:MemH mb M k T) (hs:∀ x ∈ T,x ∈ F):Sp Tryz.prog 40 #[vP mb 0] [] F (λ u H'=>u=vI (w64 (M.base+(M.lg.length:Int))) /\ H'=[]):=by
 cases h with
 | mk cb A cap Hl hsl hc hl=>exact mark_mem mb cb M.cs.length A M.lg.length cap M.base F (hs _ (by simp))
theorem gnow_any (S:Setup) (bp gb mb:Nat) (M:MemS) (k:Nat) (T F:HL) (hg:(gb,.lit (gameL S bp mb) 88 (0,0)) ∈ F) (hM:MemH mb M k T) (hT:∀ x ∈ T,x ∈ F):Sp Tryz.prog 17 #[vP gb 0] [] F (λ u H'=>u=vI (M.get 0) /\ H'=[]):=by
 refine Sp.run Tryz.func17 rfl (mc hg mn) (A:=[]) (Ts:=[]) rfl λ w0=>?_
 refine RN.go 11 [.ro 0] λ _=>RN.cp (get_any 0 hM (λ x hx=>ro_ap (hT x hx)))<|RN.go 3 [] λ _=>?_
 exact RN.ret [] [] [] ⟨rfl,rfl⟩
theorem gcheck_any (S:Setup) (bp gb mb:Nat) (M:MemS) (k:Nat) (A:Option Addr) (n cap:Nat) (xs:List Inp) (T F:HL) (hg:(gb,.lit (gameL S bp mb) 88 (0,0)) ∈ F) (hM:MemH mb M k T) (hT:∀ x ∈ T,x ∈ F) (hl:RowL inpE 24 F A n xs) (hn:n <= 1000000):Sp Tryz.prog 39 #[vP gb 0,.slice A n cap] [] F (λ u H'=>u=vI (wrongE S.players n xs (M.get 0)) /\ H'=[]):=by
 refine Sp.run Tryz.func39 rfl (mc hg mn) (A:=[]) (Ts:=[]) rfl λ w0=>?_
 refine RN.go 18 [.ro 0] λ _=>RN.en ((n:Int)=S.players) 14 (λ h1=>?_) λ h1=>?_
 ·refine RN.go 12 [] λ _=>RN.loop (σ:=Nat) (λ k_=>⟨[(0,vP gb 0),(15,.slice A n cap),(16,vI (n:Int)),(17,vI (k_:Int))],[],[],k_ <= n /\ ∀ t,t < k_ -> okIn (xs.getD t dI),n - k_⟩) 0 [] [] (⟨Nat.zero_le _,λ t ht=>absurd ht (Nat.not_lt_zero _)⟩) ?_
  rintro k_ ⟨hkl,hok⟩ mt3
  refine RN.go 6 [] λ _=>RN.em ((k_:Int) < (n:Int)) 18 (λ h4=>?_) λ h4=>?_
  ·refine RN.go 7 [] λ _=>?_
   obtain ⟨qx5,ox5,Nx5,fx5,fzx5,hAx5,hqx5,hox5,hgx5⟩:=hl.at (k:=k_) (by omega)
   refine RN.sv 15 (congrArg (λ v_=>(.slice v_ n cap:Value)) hAx5)<|RN.ro (λ _=>(mc hg (mc hqx5 mn)))<|RN.goP 2 [.ix k_,.rorow 1 (ox5+k_) 0,.rorow 1 (ox5+k_) 1,.rorow 1 (ox5+k_) 2] [((ox5 * 3+k_ * 3)+2)=(ox5+k_) * 3+2 /\ (ox5+k_) < Nx5,((ox5 * 3+k_ * 3)+1)=(ox5+k_) * 3+1 /\ (ox5+k_) < Nx5,(ox5 * 3+k_ * 3)=(ox5+k_) * 3+0 /\ (ox5+k_) < Nx5,(k_:Int)=((k_:Nat):Int) /\ k_ < n] λ _=>RN.sv 20 (congrArg (λ v_=>(.agg #[vI v_.dx,vI v_.dy,vI v_.act]:Value)) hgx5)<|RN.go 10 [.own 0,.own 0,.own 0,.own 0] λ n6=>RN.em ((xs.getD k_ dI).dx < (-1)) 24 (λ h7=>?_) λ h7=>?_
   ·refine RN.go 32 [] λ _=>RN.ret [] [] [] (v:=vI 1) (H':=[]) ?_
    exact ⟨by rw [wrongE,if_pos (by omega),if_neg (λ h_=>by have h2_:=h_ k_ (by omega);unfold okIn at h2_;omega)],rfl⟩
   ·refine RN.go 5 [.own 0] λ _=>RN.em ((xs.getD k_ dI).dx > 1) 29 (λ h8=>?_) λ h8=>?_
    ·refine RN.go 27 [] λ _=>RN.ret [] [] [] (v:=vI 1) (H':=[]) ?_
     exact ⟨by rw [wrongE,if_pos (by omega),if_neg (λ h_=>by have h2_:=h_ k_ (by omega);unfold okIn at h2_;omega)],rfl⟩
    ·refine RN.go 5 [.own 0] λ _=>RN.em ((xs.getD k_ dI).dy < (-1)) 34 (λ h9=>?_) λ h9=>?_
     ·refine RN.go 22 [] λ _=>RN.ret [] [] [] (v:=vI 1) (H':=[]) ?_
      exact ⟨by rw [wrongE,if_pos (by omega),if_neg (λ h_=>by have h2_:=h_ k_ (by omega);unfold okIn at h2_;omega)],rfl⟩
     ·refine RN.go 5 [.own 0] λ _=>RN.em ((xs.getD k_ dI).dy > 1) 39 (λ h10=>?_) λ h10=>?_
      ·refine RN.go 17 [] λ _=>RN.ret [] [] [] (v:=vI 1) (H':=[]) ?_
       exact ⟨by rw [wrongE,if_pos (by omega),if_neg (λ h_=>by have h2_:=h_ k_ (by omega);unfold okIn at h2_;omega)],rfl⟩
      ·refine RN.go 5 [.own 0] λ _=>RN.em ((xs.getD k_ dI).act < 0) 44 (λ h11=>?_) λ h11=>?_
       ·refine RN.go 12 [] λ _=>RN.ret [] [] [] (v:=vI 1) (H':=[]) ?_
        exact ⟨by rw [wrongE,if_pos (by omega),if_neg (λ h_=>by have h2_:=h_ k_ (by omega);unfold okIn at h2_;omega)],rfl⟩
       ·refine RN.go 6 [.own 0] λ _=>RN.em ((xs.getD k_ dI).act > 3) 48 (λ h12=>?_) λ h12=>?_
        ·refine RN.go 6 [] λ _=>RN.ret [] [] [] (v:=vI 1) (H':=[]) ?_
         exact ⟨by rw [wrongE,if_pos (by omega),if_neg (λ h_=>by have h2_:=h_ k_ (by omega);unfold okIn at h2_;omega)],rfl⟩
        ·refine RN.goP 8 [.nw] [I64 ((k_:Int)+1)] λ _=>RN.sv 15 (congrArg (λ v_=>(.slice v_ n cap:Value)) hAx5.symm) ?_
         refine mt3 (k_+1) [] [] ?_
         try dsimp only
         refine ⟨⟨by omega,λ t ht=>?_⟩,by omega⟩
         rcases Nat.lt_or_ge t k_ with h_ | h_
         ·exact hok t h_
         ·obtain rfl:t=k_:=by omega
          exact ⟨⟨h7,h8⟩,⟨h9,h10⟩,h11,h12⟩
  ·refine RN.go 10 [] λ _=>RN.cp (gnow_any S bp gb mb M k T _ (ro_ap hg) hM (λ x hx=>ro_ap (hT x hx)))<|RN.go 3 [] λ _=>RN.em (M.get 0 >= 6000) 52 (λ h13=>?_) λ h13=>?_
   ·refine RN.go 6 [] λ _=>RN.ret [] [] [] (v:=vI 2) (H':=[]) ?_
    exact ⟨by rw [wrongE,if_pos (by omega),if_pos (λ t ht=>hok t (by omega)),if_pos (by omega)],rfl⟩
   ·refine RN.go 8 [] λ _=>RN.ret [] [] [] (v:=vI 0) (H':=[]) ?_
    exact ⟨by rw [wrongE,if_pos (by omega),if_pos (λ t ht=>hok t (by omega)),if_neg (by omega)],rfl⟩
 ·refine RN.go 6 [] λ _=>RN.ret [] [] [] (v:=vI 17) (H':=[]) ?_
  exact ⟨by rw [wrongE,if_neg (by omega)],rfl⟩
theorem trans_run (gb ib io ni ic:Nat) (F:HL):Sp Tryz.prog 43 #[vP gb 0,vS ib (io * 3) ni ic] [] F (λ u H'=>∃ n:Nat,H'=ap [((n+1),.lit [vS ib (io * 3) ni ic] 44 (0,0)),((n+0),.lit [vP gb 0] 38 (0,0))] [] /\ u=.func (.func 66) #[] #[vP (n+0) 0,vP (n+1) 0]):=by
 refine Sp.run Tryz.func43 rfl mn (A:=[]) (Ts:=[]) rfl λ w0=>?_
 refine RN.go 13 [] λ n1=>RN.ret [] [0,1] [] (v:=.func (.func 66) #[] #[vP (n1+0) 0,vP (n1+1) 0]) (H':=(ap [((n1+1),.lit [vS ib (io * 3) ni ic] 44 (0,0)),((n1+0),.lit [vP gb 0] 38 (0,0))] [])) ?_
 exact ⟨_,rfl,rfl⟩
theorem transf_any (gb ib io ni ic:Nat) (F:HL):Sp Tryz.prog 43 #[vP gb 0,vS ib (io * 3) ni ic] (ap [] []) F (λ u H'=>∃ n:Nat,H'=ap [((n+1),.lit [vS ib (io * 3) ni ic] 44 (0,0)),((n+0),.lit [vP gb 0] 38 (0,0))] [] /\ u=.func (.func 66) #[] #[vP (n+0) 0,vP (n+1) 0]):=trans_run gb ib io ni ic F
end Go.Proofs.YtgibcbhfmomfbaaGreatDoor
