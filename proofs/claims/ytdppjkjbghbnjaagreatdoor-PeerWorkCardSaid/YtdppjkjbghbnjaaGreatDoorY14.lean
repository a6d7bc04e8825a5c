import Derived.Test.YtdppjkjbghbnjaaGreatDoorY13
set_option maxHeartbeats 4000000
set_option maxRecDepth 100000
set_option linter.all false
namespace Go.Proofs.YtdppjkjbghbnjaaGreatDoor
open Go.RowKit Go.Shelf
section
variable {r:Option Nat} {P:Program} {N:Nat} {D:List Deferred} {F:HL} {w0:World} {R:HL} {s:Cfg} {Q:Exit -> Act -> World -> Prop} {hards:List Nat} {Rd:HL}
theorem cH(i:Nat)(hk:RN r P N D F w0 R (Qv i s) Q)(h:([i]++oth [i] s.A.length).isPerm (List.range s.A.length)=true:=by kernel_rfl):RN r P N D F w0 R s Q:=by
 obtain⟨c,k,L,A,Ts⟩:=s;exact⟨λ hR a w h1 h2 h3=>hk.h hR a w h1 (h2.perm ((pT h).append_right F)) h3⟩
variable {α:Type} {e:Enc α} {T:TypeId} {inf:TypeInfo} {z:Value}
end
section
variable {rs_:List Bx} {ds_:List Dr} {bp pp pl me w:Nat} {S:Setup} {J:Nat -> Nat × Int} {P:PS (List Inp)} {kv:List (Int × Value × Nat)} {c sn:Nat} {X:Option (Rw × List Inp)} {G F:HL}
theorem cy(h:PeerR rs_ ds_ bp pp pl me w S J P kv c sn X G)(hF:∀x∈G,x∈F):Sp Tryz.prog 19 #[vP pp 0] [] F (λ u H'=>u=vI (P.rows.length:Int) /\ H'=[]):=by
 cases h with
 | mk q1_ q2_ q3_ q4_ q5_ hse_ hg=>rw[q1_];exact eI _ _ _ _ _ _ _ _ _ _ _ _ _ _ _ _ _ _ _ F (hF _ (List.mem_append_left _ List.mem_cons_self))
end
theorem dp(S:Setup)(A:Option Addr)(n cap:Nat)(xs:List Int)(t:Int)(F:HL)(hl:ArgL F A n xs)(hn:n <= 9223372036854775807)(hp:0 <= S.players /\ S.players <= 1000000)(ht:0 <= t /\ t <= 1000000):Sp Tryz.prog 53 #[Setup.v S,.slice A n cap,vI t] (ap [] []) F (λ u H'=>∃x:Option Addr × Nat × HL,H'=ap [] [x.2.2] /\ (u=.slice x.1 S.players.toNat x.2.1 /\ SlIs cS 40 (rowL S.players xs (t / 2) S.players.toNat) x.1 x.2.1 x.2.2 /\ bA x.1)):=by
 refine aav Tryz.func53 rfl mn (A:=[]) (Ts:=[]) rfl λ w0=>?_;refine ah 12 (ow 0 16++[.nw]) [0 <= t /\ (0:Int)<2 /\ t <= 9223372036854775807] λ n1=>aaj (Hp:=[]) (Tp:=[]) [] [] (nR S A n cap xs (t / 2) _ hl.up hn (by omega) (by omega)) ?_;rintro _ ⟨A2,c3,T4⟩ ⟨rfl,Ty,Y2⟩;dsimp only at Ty Y2;refine ae 3 [] λ _=>aaq [] [] [0] (v:=.slice A2 S.players.toNat c3) (H':=(ap [] [T4])) ?_;exact⟨(A2,c3,T4),rfl,rfl,Ty,Y2⟩
structure ActI where (dO bY nN:Int)
def bd:Enc ActI:=⟨3,λ p k=>match k with|0=>vI p.dO|1=>vI p.bY|_=>vI p.nN,⟨0,0,0⟩⟩
noncomputable def nB:TypeInfo:=match Tryz.prog.info? 54 with | some i=>i | none=>⟨.bool,"",0,0,false,0,0,none,false,#[]⟩
noncomputable def nC:Value:=match nB.zero with|some z=>z|none=>.bool false
theorem kl:EncOk bd Tryz.prog 54 nB nC where
 info:=by kernel_rfl
 zero:=by kernel_rfl
 size:=by kernel_rfl
 zsize:=by kernel_rfl
 zcell:=λ k hk=>by
  have h:∀k<3,nC.cells[k]?=some (bd.cell bd.dflt k):=by intro k hk;(iterate 3 (rcases k with _|k;· kernel_rfl));omega
  exact h k hk
 one:=λ x k=>by unfold bd;dsimp only;split <;> rfl
 bytes:=Nat.le_of_ble_eq_true (by kernel_rfl)
def cX(n:Int):ActI:=⟨n % 5,if n / 540 % 9=0 then n / 4860 % 7-3 else n / 180 % 3,n / 5 % 36⟩
def aV(xs:List Int)(k:Nat):List ActI:=(List.range k).map λ i=>cX (ai (xs.getD i 0) 1000000)
theorem ep(xs:List Int)(k:Nat):aV xs (k+1)=aV xs k++[cX (ai (xs.getD k 0) 1000000)]:=by simp[aV,List.range_succ]
theorem bg(xs:List Int)(k:Nat):(aV xs k).length=k:=by simp[aV]
theorem ko(A:Option Addr)(n cap:Nat)(xs:List Int)(F:HL)(hl:ArgL F A n xs)(hn:n <= 9223372036854775807):Sp Tryz.prog 22 #[.slice A n cap] (ap [] []) F (λ u H'=>∃x:Nat × Option Addr × Nat × HL,H'=ap [] [x.2.2.2] /\ (x.1=min n 14 /\ u=.slice x.2.1 x.1 x.2.2.1 /\ SlIs bd 54 (aV xs x.1) x.2.1 x.2.2.1 x.2.2.2)):=by
 refine aav Tryz.func22 rfl mn (A:=[]) (Ts:=[]) rfl λ w0=>?_;refine ae 17 [] λ _=>aap<|aao (σ:=Nat × Option Addr × Nat × HL) (λ ⟨k_,A_,c_,T_⟩=>⟨[(0,.slice A n cap),(3,.slice A_ k_ c_),(4,vI (k_:Int))],[],[T_],k_ <= min n 14 /\ SlIs bd 54 (aV xs k_) A_ c_ T_,min n 14-k_⟩) (0,none,0,[]) [] [0] (⟨Nat.zero_le _,aau _ _⟩) ?_;rintro⟨k_,A_,c_,T_⟩ ⟨X8,IT⟩ Tw;refine ae 8 [] λ _=>aam ((k_:Int)<(n:Int)) 11 (λ h3=>?_) λ h3=>?_
 ·refine ae 5 [] λ _=>aam ((k_:Int)<14) 14 (λ h4=>?_) λ h4=>?_
  ·refine ae 9 [] λ _=>?_;obtain⟨qx5,r_,UZ,gx5,adM,Xx,TH,TK,W_,Ub,XZ⟩:=hl.at (k:=k_) (by omega);refine aC 17 (congrArg (λ v_=>(.slice v_ n cap:Value)) TH)<|aar (λ _=>(mc TK mn))<|ah 2 [.ix k_,.rorow 0 (r_+k_) 0] [(r_+k_*1)=(r_+k_)*1+0 /\ (r_+k_)<UZ,(k_:Int)=((k_:Nat):Int) /\ k_<n] λ _=>aC 20 (congrArg (λ v_=>(v_:Value)) Ub)<|aai (eT (xs.getD k_ 0) 1000000 (by decide) _) ?_;have hA_:=aA (n:=xs.getD k_ 0) XZ 1000000 (by decide);refine ah 27 [.nw,.nw,.nw,.nw,.nw,.own 0,.own 0,.own 0,.nw,.nw] [0 <= (ai (xs.getD k_ 0) 1000000) / 540 /\ (0:Int)<9 /\ (ai (xs.getD k_ 0) 1000000) / 540 <= 9223372036854775807,0 <= ai (xs.getD k_ 0) 1000000 /\ (0:Int)<540 /\ ai (xs.getD k_ 0) 1000000 <= 9223372036854775807,0 <= (ai (xs.getD k_ 0) 1000000) / 180 /\ (0:Int)<3 /\ (ai (xs.getD k_ 0) 1000000) / 180 <= 9223372036854775807,0 <= ai (xs.getD k_ 0) 1000000 /\ (0:Int)<180 /\ ai (xs.getD k_ 0) 1000000 <= 9223372036854775807,0 <= (ai (xs.getD k_ 0) 1000000) / 5 /\ (0:Int)<36 /\ (ai (xs.getD k_ 0) 1000000) / 5 <= 9223372036854775807,0 <= ai (xs.getD k_ 0) 1000000 /\ (0:Int)<5 /\ ai (xs.getD k_ 0) 1000000 <= 9223372036854775807,0 <= ai (xs.getD k_ 0) 1000000 /\ (0:Int)<5 /\ ai (xs.getD k_ 0) 1000000 <= 9223372036854775807] λ n6=>aam (((ai (xs.getD k_ 0) 1000000) / 540) % 9=0) 34 (λ h7=>?_) λ h7=>?_
   ·refine ah 13 [.nw,.nw,.nw,.own 0,.own 0,.own 0,.own 0] [aI ((((ai (xs.getD k_ 0) 1000000) / 4860) % 7)-3),0 <= (ai (xs.getD k_ 0) 1000000) / 4860 /\ (0:Int)<7 /\ (ai (xs.getD k_ 0) 1000000) / 4860 <= 9223372036854775807,0 <= ai (xs.getD k_ 0) 1000000 /\ (0:Int)<4860 /\ ai (xs.getD k_ 0) 1000000 <= 9223372036854775807] λ _=>aC 41 (congrArg (λ v_=>(.agg #[vI ((ai (xs.getD k_ 0) 1000000) % 5),vI v_,vI (((ai (xs.getD k_ 0) 1000000) / 5) % 36)]:Value)) (show (((ai (xs.getD k_ 0) 1000000) / 4860) % 7)-3=(cX (ai (xs.getD k_ 0) 1000000)).bY from (if_pos h7).symm))<|ae 1 [] λ n8=>fG kl (aV xs k_) [cX (ai (xs.getD k_ 0) 1000000)] 0 0 (bg xs k_).symm IT (by rw[bg];simp;omega) ?_;rintro A9 YG Tt ⟨WA,Zx⟩;refine ah 9 [.nw] [aI ((k_:Int)+1)] λ _=>?_;refine Tw (k_+1,A9,YG,Tt) [] [0] ?_
    try dsimp only
    exact⟨⟨by omega,by rw[ep];exact WA⟩,by omega⟩
   ·refine ae 6 (aab 3) λ _=>aC 41 (congrArg (λ v_=>(.agg #[vI ((ai (xs.getD k_ 0) 1000000) % 5),vI v_,vI (((ai (xs.getD k_ 0) 1000000) / 5) % 36)]:Value)) (show ((ai (xs.getD k_ 0) 1000000) / 180) % 3=(cX (ai (xs.getD k_ 0) 1000000)).bY from (if_neg h7).symm))<|ae 1 [] λ n14=>fG kl (aV xs k_) [cX (ai (xs.getD k_ 0) 1000000)] 0 0 (bg xs k_).symm IT (by rw[bg];simp;omega) ?_;rintro A15 c16 Us ⟨TT,YO⟩;refine ah 9 [.nw] [aI ((k_:Int)+1)] λ _=>?_;refine Tw (k_+1,A15,c16,Us) [] [0] ?_
    try dsimp only
    exact⟨⟨by omega,by rw[ep];exact TT⟩,by omega⟩
  ·refine ae 12 [] λ _=>aaq [] [] [0] (v:=.slice A_ k_ c_) (H':=(ap [] [T_])) ?_;obtain⟨XR,Un⟩:∃x,min n 14=x:=⟨_,rfl⟩;obtain rfl:k_=XR:=by omega
   exact⟨(k_,A_,c_,T_),rfl,Un.symm,rfl,IT⟩
 ·refine ae 17 [] λ _=>aaq [] [] [0] (v:=.slice A_ k_ c_) (H':=(ap [] [T_])) ?_;obtain⟨XR,Un⟩:∃x,min n 14=x:=⟨_,rfl⟩;obtain rfl:k_=XR:=by omega
  exact⟨(k_,A_,c_,T_),rfl,Un.symm,rfl,IT⟩
theorem ml{n:Int}(h:0 <= n /\ n<1000000):(0 <= (cX n).dO /\ (cX n).dO <= 4) /\ (-3 <= (cX n).bY /\ (cX n).bY <= 3) /\ (0 <= (cX n).nN /\ (cX n).nN <= 35):=by
 unfold cX;dsimp only;refine⟨by omega,?_,by omega⟩;split <;> omega
theorem iM{F:HL}{A:Option Addr}{n:Nat}{xs:List Int}(hl:ArgD F A n xs){k i:Nat}(hk:k <= n)(hi:i<k):(0 <= ((aV xs k).getD i bd.dflt).dO /\ ((aV xs k).getD i bd.dflt).dO <= 4) /\ (-3 <= ((aV xs k).getD i bd.dflt).bY /\ ((aV xs k).getD i bd.dflt).bY <= 3) /\ (0 <= ((aV xs k).getD i bd.dflt).nN /\ ((aV xs k).getD i bd.dflt).nN <= 35):=by
 obtain⟨F',hl⟩:=hl.ex;have e:(aV xs k).getD i bd.dflt=cX (ai (xs.getD i 0) 1000000):=by simp[aV,hi]
 rw[e];obtain⟨_,_,_,_,_,_,_,_,_,_,hr⟩:=hl.at (k:=i) (by omega);exact ml (aA hr 1000000 (by decide))
end Go.Proofs.YtdppjkjbghbnjaaGreatDoor
