import Derived.Test.YtgibcbhfmomfbaaGreatDoorS42
import Derived.Test.YtgibcbhfmomfbaaGreatDoorS24
import Derived.Test.YtgibcbhfmomfbaaGreatDoorS43
import Derived.Test.YtgibcbhfmomfbaaGreatDoorS26
import Derived.Test.YtgibcbhfmomfbaaGreatDoorS41
import Derived.Test.YtgibcbhfmomfbaaGreatDoorS22
set_option maxHeartbeats 4000000
set_option maxRecDepth 100000
set_option linter.unusedSimpArgs false
set_option linter.unusedVariables false
namespace Go.Proofs.YtgibcbhfmomfbaaGreatDoor
open Go.RowKit Go.Shelf
section
variable {α:Type} {e:Enc α} {P:Program} {T:TypeId} {inf:TypeInfo} {z:Value} {l:List α} {A:Option Addr} {cap:Nat} {Hl F:HL}
theorem SlIs.toRowL (h:SlIs e T l A cap Hl) (hF:∀ x ∈ Hl,x ∈ F):RowL e T F A l.length l:=by
  rcases h with ⟨rfl,rfl,rfl,rfl⟩ | ⟨b,o,full,rfl,rfl,h1,h2,h3⟩
  · exact .zero _
  · refine .rows b o (o+cap) full (0,0) _ l (hF _ (List.mem_singleton.2 rfl)) (by omega) rfl (λ k hk=>?_)
    have h4:((full.drop o).take l.length)[k]?=l[k]?:=by rw [h3]
    rw [List.getElem?_take,if_pos hk,List.getElem?_drop] at h4
    rw [List.getD_eq_getElem?_getD,List.getD_eq_getElem?_getD,h4]
theorem SlIs.src (ok:EncOk e P T inf z) (hw:0 < e.w) (h:SlIs e T l A cap Hl) (hF:∀ x ∈ Hl,x ∈ F):SrcIn P e F A l.length l:=RowL.src ok hw (h.toRowL hF)
theorem SlIs.one {x:α} {b:Nat}:SlIs e T [x] (some ⟨b,0,none⟩) 1 [(b,.rows e.w 1 (rowE e [x]) T (0,0))]:=.inr ⟨b,0,[x],by simp,by simp,rfl,Nat.le_refl _,rfl⟩
end
section
variable {r:Option Nat} {P:Program} {N:Nat} {D:List Deferred} {F:HL} {w0:World} {R:HL} {s:Cfg} {Q:Exit -> Act -> World -> Prop} {hards:List Nat} {Rd:HL}
def btC (i:Nat) (s:Cfg):Cfg:=match s with
  | ⟨c,k,L,A,Ts⟩=>⟨c,k,L,(oth [i] A.length).filterMap (A[·]?),[i].filterMap (A[·]?) :: Ts⟩
theorem bt_perm {A:HL} {Ts:List HL} {i:Nat} (h:([i]++oth [i] A.length).isPerm (List.range A.length)=true):(ap ((oth [i] A.length).filterMap (A[·]?)) ([i].filterMap (A[·]?) :: Ts)).Perm (ap A Ts):=by
  have hp:=pick_perm A [i] (oth [i] A.length) h
  show ((oth [i] A.length).filterMap (A[·]?)++([i].filterMap (A[·]?) :: Ts).flatten).Perm (A++Ts.flatten)
  rw [List.flatten_cons,<- List.append_assoc]
  exact (List.perm_append_comm.trans hp).append_right _
theorem RD.bt (i:Nat) (hk:RD r P N D F w0 R hards Rd (btC i s) Q) (h:([i]++oth [i] s.A.length).isPerm (List.range s.A.length)=true:=by kernel_rfl):RD r P N D F w0 R hards Rd s Q:=by
  obtain ⟨c,k,L,A,Ts⟩:=s
  refine ⟨λ hR hs=>?_⟩
  have h1:=hk.h hR hs
  intro hcl a hF
  exact JJ.perm _ _ _ _ _ (bt_perm h) (h1 hcl a hF)
theorem RD.sv (t:Nat) {u v:Value} (e:u=v) (hk:RD r P N D F w0 R hards Rd (svC t v s) Q) (h:s.L.lookup t=some u:=by kernel_rfl):RD r P N D F w0 R hards Rd s Q:=by
  subst e
  exact ⟨λ hR hs hcl a hF=>hk.h hR hs hcl a (hF.fix h)⟩
variable {α:Type} {e:Enc α} {T:TypeId} {inf:TypeInfo} {z:Value}
theorem RN.appU (ok:EncOk e P T inf z) (l src:List α) (j:Nat) {A:Option Addr} {n cap:Nat} {Hl:HL} {B:Option Addr} {m c':Nat} {tx:TypeId} (hn:n=l.length) (hsl:SlIs e T l A cap Hl) (hb:l.length+src.length <= 100000000)
    (hs:SrcIn P e (ap s.A s.Ts++F) B m src)
    (hk:∀ (A':Option Addr) (cap':Nat) (Hl':HL),(SlIs e T (l++src) A' cap' Hl' /\ (zeroOff A -> zeroOff A')) -> RN r P N D F w0 R (rpC j Hl' (putC N (.slice A' (n+src.length) cap') s)) Q)
    (h:appKS P N j (opAt s) s=some (A,n,cap,T,B,m,c',tx,Hl):=by kernel_rfl):RN r P N D F w0 R s Q:=by
  obtain ⟨o,a1,a2,t,e',q0,q1,q2,q3,q4,q5,q6,q7,q9,q10,q11⟩:=appKS_spec h
  refine ⟨λ hR a w hF hRel hB=>?_⟩
  obtain ⟨c,k,L,Bs,Ts⟩:=s
  unfold opAt at q0
  cases c with
  | code c=>cases q0
  | ex c=>cases q0
  | drw _ _=>cases q0
  | ops ops i =>
    simp only at q0 q3 q4 q5 q9 q10 q11 hF hRel
    have hdrop:ops.toList.drop i=o :: ops.toList.drop (i+1):=by
      have hlt:i < ops.toList.length:=(List.getElem?_eq_some_iff.1 q0).1
      rw [List.drop_eq_getElem_cons hlt,(List.getElem?_eq_some_iff.1 q0).2]
    show wpListIn _ _ _ _ _ _ _ _
    rw [hdrop,wpListIn,if_pos (by simp [Region.wanted,q1])]
    refine ⟨λ _ _=>trivial,?_⟩
    have hperm:=tail_perm (A:=Bs) q9 q10
    refine gives_upon (by rw [q2];intro c hc;cases hc) (app_gives (x:=.slice B m c') (src:=src) (G:=Bs++((oth [j] Ts.length).filterMap (Ts[·]?)).flatten) ok q2 q6 q3 q4 hn q5 hperm hsl (λ w hw=>by have h5:=hs.2 c' q7 [] w hw;rwa [<- ok.size] at h5) hb a hF w hRel) ?_
    rintro u w' ⟨⟨A',cap',Hl'⟩,⟨rfl,hsl'⟩,hR',hB'⟩
    obtain ⟨L',p1⟩:=putL_some q11 (.slice A' (n+src.length) cap')
    have hh:=(hk A' cap' Hl' hsl').h hR
    have hpc:putC N (.slice A' (n+src.length) cap') ⟨.ops ops i,k,L,Bs,Ts⟩=⟨.ops ops (i+1),k,L',Bs,Ts⟩:=by
      unfold putC
      simp only [q0,p1]
    rw [hpc] at hh
    refine hh _ w' (hF.put p1) (hR'.perm (List.Perm.append_right F ?_)) (hB.trans hB')
    show (Bs++(Hl' :: (oth [j] Ts.length).filterMap (Ts[·]?)).flatten).Perm _
    rw [List.flatten_cons,<- List.append_assoc,<- List.append_assoc]
    exact List.Perm.append_right _ List.perm_append_comm
end
structure Rw where (A:Option Addr) (n c:Nat)
def rwE:Enc Rw:=⟨1,λ p k=>match k with | 0=>.slice p.A p.n p.c | _=>default,⟨none,0,0⟩⟩
noncomputable def rwEI:TypeInfo:=match Tryz.prog.info? 44 with | some i=>i | none=>⟨.bool,"",0,0,false,0,0,none,false,#[]⟩
noncomputable def rwEZ:Value:=match rwEI.zero with | some z=>z | none=>.bool false
theorem rwEOk:EncOk rwE Tryz.prog 44 rwEI rwEZ where
 info:=by kernel_rfl
 zero:=by kernel_rfl
 size:=by kernel_rfl
 zsize:=by kernel_rfl
 zcell:=λ k hk=>by
  have h:∀ k < 1,rwEZ.cells[k]?=some (rwE.cell rwE.dflt k):=by intro k hk;(iterate 1 (rcases k with _ | k;· kernel_rfl));omega
  exact h k hk
 one:=λ x k=>by unfold rwE;dsimp only;split <;> rfl
 bytes:=Nat.le_of_ble_eq_true (by kernel_rfl)
inductive RwIn (F:HL) (xs:List Inp):Rw -> Prop
 | mk (b o N:Nat) (full:List Inp) (c:Nat) (hI:(b,.rows 3 N (inrow full) 24 (0,0)) ∈ F) (hir:o+xs.length <= N) (hx:∀ k,k < xs.length -> full.getD (o+k) dI=xs.getD k dI) (hcap:xs.length <= c):RwIn F xs ⟨some ⟨b,o * 3,none⟩,xs.length,c⟩
structure RwsIn (F:HL) (rs:List Rw) (xss:List (List Inp)):Prop where
 len:rs.length=xss.length
 row:∀ k,k < rs.length -> RwIn F (xss.getD k []) (rs.getD k rwE.dflt)
def RwsT (rs:List Rw) (xss:List (List Inp)) (T:HL):Prop:=∀ F,(∀ x ∈ T,x ∈ F) -> RwsIn F rs xss
theorem RwsIn.get {F:HL} {rs:List Rw} {xss:List (List Inp)} (h:RwsIn F rs xss) {k:Nat} (hk:k < rs.length):∃ b o N full c,rs.getD k rwE.dflt=⟨some ⟨b,o * 3,none⟩,(xss.getD k []).length,c⟩ /\ (b,.rows 3 N (inrow full) 24 (0,0)) ∈ F /\ o+(xss.getD k []).length <= N /\ (∀ i,i < (xss.getD k []).length -> full.getD (o+i) dI=(xss.getD k []).getD i dI) /\ (xss.getD k []).length <= c:=by
 have h1:=h.row k hk
 generalize rs.getD k rwE.dflt=p at h1 ⊢
 cases h1 with
 | mk b o N full c hI hir hx hc=>exact ⟨b,o,N,full,c,rfl,hI,hir,hx,hc⟩
theorem SlIs.rw {xs:List Inp} {A:Option Addr} {c:Nat} {T F:HL} (h:SlIs inpE 24 xs A c T) (hF:∀ x ∈ T,x ∈ F) (h1:1 <= xs.length) {n:Nat} (hn:n=xs.length):RwIn F xs ⟨A,n,c⟩:=by
 subst hn
 rcases h with ⟨_,_,rfl,_⟩ | ⟨b,o,full,rfl,rfl,h2,h3,h4⟩
 ·simp at h1
 ·refine .mk b o (o+c) full c (hF _ (List.mem_singleton.2 rfl)) (by omega) (λ k hk=>?_) h3
  have h5:((full.drop o).take xs.length)[k]?=xs[k]?:=by rw [h4]
  rw [List.getElem?_take,if_pos hk,List.getElem?_drop] at h5
  rw [List.getD_eq_getElem?_getD,List.getD_eq_getElem?_getD,h5]
theorem RwsT.nil:RwsT [] [] []:=λ F _=>⟨rfl,λ k hk=>absurd hk (Nat.not_lt_zero _)⟩
theorem getD_snoc {α:Type} (l:List α) (x d:α) (k:Nat):(l++[x]).getD k d=if k < l.length then l.getD k d else if k=l.length then x else d:=by
 rw [List.getD_eq_getElem?_getD,List.getElem?_append]
 split
 ·rw [List.getD_eq_getElem?_getD]
 ·split
  ·next h=>subst h;simp
  ·rw [List.getElem?_eq_none (by simp;omega)];rfl
theorem RwsT.snoc {rs:List Rw} {xss:List (List Inp)} {T T1:HL} {xs:List Inp} {A:Option Addr} {c n:Nat} (h:RwsT rs xss T) (hs:SlIs inpE 24 xs A c T1) (h1:1 <= xs.length) (hn:n=xs.length):RwsT (rs++[⟨A,n,c⟩]) (xss++[xs]) (T++T1):=λ F hF=>by
 have h2:=h F λ x hx=>hF x (List.mem_append_left _ hx)
 refine ⟨by simp [h2.len],λ k hk=>?_⟩
 rw [getD_snoc,getD_snoc,<- h2.len]
 by_cases hk1:k < rs.length
 ·rw [if_pos hk1,if_pos hk1];exact h2.row k hk1
 ·have:k=rs.length:=by simp at hk;omega
  rw [if_neg hk1,if_neg hk1,if_pos this,if_pos this]
  exact hs.rw (λ x hx=>hF x (List.mem_append_right _ hx)) h1 hn
def rowsG (pl:Int) (xs:List Int) (n:Nat):List (List Inp):=(List.range n).map λ t:Nat=>rowL pl xs (t:Int) pl.toNat
theorem rowsG_succ (pl:Int) (xs:List Int) (n:Nat):rowsG pl xs (n+1)=rowsG pl xs n++[rowL pl xs (n:Int) pl.toNat]:=by simp [rowsG,List.range_succ]
theorem rowsG_get {pl:Int} {xs:List Int} {n k:Nat} (h:k < n):(rowsG pl xs n).getD k []=rowL pl xs (k:Int) pl.toNat:=by simp [rowsG,h]
theorem row_ap (S:Setup) (A:Option Addr) (n cap:Nat) (xs:List Int) (t:Int) (F:HL) (hl:ArgL F A n xs) (hn:n <= 9223372036854775807) (hp:0 <= S.players /\ S.players <= 1000000) (ht:0 <= t /\ t <= 1000000):Sp Tryz.prog 44 #[Setup.v S,.slice A n cap,vI t] (ap [] []) F (λ u H'=>∃ x:Option Addr × Nat × HL,H'=ap [] [x.2.2] /\ (u=.slice x.1 S.players.toNat x.2.1 /\ SlIs inpE 24 (rowL S.players xs t S.players.toNat) x.1 x.2.1 x.2.2 /\ zeroOff x.1)):=row_any S A n cap xs t F hl hn hp ht
theorem rows_run (S:Setup) (A:Option Addr) (n cap:Nat) (xs:List Int) (c:Int) (cnt:Nat) (F:HL) (hl:ArgL F A n xs) (hn:n <= 9223372036854775807) (hp:1 <= S.players /\ S.players <= 1000000) (hc:c=(cnt:Int)) (h20:cnt <= 20):Sp Tryz.prog 20 #[(Setup.v S),.slice A n cap,vI c] [] F (λ u H'=>∃ x:(Option Addr × Nat × List Rw) × HL × HL,H'=ap [] [x.2.1,x.2.2] /\ (u=.slice x.1.1 cnt x.1.2.1 /\ SlIs rwE 44 x.1.2.2 x.1.1 x.1.2.1 x.2.1 /\ x.1.2.2.length=cnt /\ RwsT x.1.2.2 (rowsG S.players xs cnt) x.2.2)):=by
 refine Sp.run Tryz.func20 rfl mn (A:=[]) (Ts:=[]) rfl λ w0=>?_
 refine RN.go 18 [] λ n1=>RN.nt<|RN.nt<|RN.loop (σ:=Nat × Option Addr × Nat × List Rw × HL × HL) (λ ⟨t_,A_,c_,rs_,E_,T_⟩=>⟨[(1,.slice A n cap),(2,vI c),(3,vP (n1+0) 0),(7,.slice A_ t_ c_),(8,vI (t_:Int))],[((n1+0),.lit (Setup.l S) 33 (0,0))],[E_,T_],(t_:Int) <= c /\ t_ <= 20 /\ SlIs rwE 44 rs_ A_ c_ E_ /\ rs_.length=t_ /\ RwsT rs_ (rowsG S.players xs t_) T_,20 - t_⟩) (0,none,0,[],[],[]) [0] [0,1] (⟨by omega,Nat.zero_le _,SlIs.nil _ _,rfl,RwsT.nil⟩) ?_
 rintro ⟨t_,A_,c_,rs_,E_,T_⟩ ⟨ht_,h20_,hs_,hrl_,hT_⟩ mt3
 refine RN.go 7 [] λ _=>RN.em ((t_:Int) < c) 12 (λ h4=>?_) λ h4=>?_
 ·refine RN.go 5 [] λ _=>RN.em ((t_:Int) < 20) 15 (λ h5=>?_) λ h5=>?_
  ·refine RN.go 10 (ow 0 16) λ _=>RN.ct (Hp:=[]) (Tp:=[]) [] [] (row_ap S A n cap xs (t_:Int) _ hl.up hn (by omega) (by omega)) ?_
   rintro _ ⟨A6,c7,T8⟩ ⟨rfl,hs9,hz10⟩
   dsimp only at hs9 hz10
   refine RN.go 1 [] λ n11=>RN.app rwEOk rs_ [(⟨A6,S.players.toNat,c7⟩:Rw)] 1 0 hrl_.symm hs_ (by simp;omega) ?_
   rintro A12 c13 T14 ⟨hs15,hz16⟩
   refine RN.goP 9 [.nw] [I64 ((t_:Int)+1)] λ _=>RN.pt [2,1,0]<|RN.jt ?_
   refine mt3 (t_+1,A12,c13,rs_++[(⟨A6,S.players.toNat,c7⟩:Rw)],T14,T_++T8) [1] [1,0] ?_
   try dsimp only
   refine ⟨⟨by omega,by omega,hs15,by simp;omega,?_⟩,by omega⟩
   rw [rowsG_succ]
   exact hT_.snoc hs9 (by rw [rowL_len];omega) (rowL_len _ _ _ _).symm
  ·(exfalso;omega)
 ·refine RN.go 17 [] λ _=>RN.ret [] [] [0,1] (v:=.slice A_ t_ c_) (H':=(ap [] [E_,T_])) ?_
  obtain rfl:t_=cnt:=by omega
  exact ⟨((A_,c_,rs_),E_,T_),rfl,rfl,hs_,hrl_,hT_⟩
theorem rows_ap (S:Setup) (A:Option Addr) (n cap:Nat) (xs:List Int) (c:Int) (cnt:Nat) (F:HL) (hl:ArgL F A n xs) (hn:n <= 9223372036854775807) (hp:1 <= S.players /\ S.players <= 1000000) (hc:c=(cnt:Int)) (h20:cnt <= 20):Sp Tryz.prog 20 #[Setup.v S,.slice A n cap,vI c] (ap [] []) F (λ u H'=>∃ x:(Option Addr × Nat × List Rw) × HL × HL,H'=ap [] [x.2.1,x.2.2] /\ (u=.slice x.1.1 cnt x.1.2.1 /\ SlIs rwE 44 x.1.2.2 x.1.1 x.1.2.1 x.2.1 /\ x.1.2.2.length=cnt /\ RwsT x.1.2.2 (rowsG S.players xs cnt) x.2.2)):=rows_run S A n cap xs c cnt F hl hn hp hc h20
theorem samee_any (A B:Option Addr) (n ca cb:Nat) (es:List Eff) (F:HL) (ha:RowL effE 99 F A n es) (hb:RowL effE 99 F B n es) (hn:n <= 1000000):Sp Tryz.prog 23 #[.slice A n ca,.slice B n cb] [] F (λ u H'=>u=.bool true /\ H'=[]):=by
 refine Sp.run Tryz.func23 rfl mn (A:=[]) (Ts:=[]) rfl λ w0=>?_
 refine RN.go 15 [] λ _=>RN.fx 10 (nt (decide_eq_true (rfl:(n:Int)=(n:Int))))<|RN.go 10 [] λ _=>RN.loop (σ:=Nat) (λ k_=>⟨[(0,.slice A n ca),(1,.slice B n cb),(5,vI (k_:Int))],[],[],k_ <= n,n - k_⟩) 0 [] [] (Nat.zero_le _) ?_
 rintro k_ hI1 mt2
 refine RN.go 9 [] λ _=>RN.em ((k_:Int) < (n:Int)) 14 (λ h3=>?_) λ h3=>?_
 ·refine RN.go 6 [] λ _=>RN.draw [] []<|RD.go [] [0,1,4,5] [] ?_
  obtain ⟨qx4,ox4,Nx4,fx4,fzx4,hAx4,hqx4,hox4,hgx4⟩:=ha.at (k:=k_) (by omega)
  refine RD.sv 17 (congrArg (λ v_=>(.slice v_ n ca:Value)) hAx4)<|RD.ro (λ _=>(mc hqx4 mn)) ?_
  obtain ⟨qx5,ox5,Nx5,fx5,fzx5,hAx5,hqx5,hox5,hgx5⟩:=hb.at (k:=k_) (by omega)
  refine RD.sv 21 (congrArg (λ v_=>(.slice v_ n cb:Value)) hAx5)<|RD.ro (λ _=>(mc hqx4 (mc hqx5 mn)))<|RD.goP [] [2,6,3,7] [.ix k_,.ix k_,.rorow 0 (ox4+k_) 0,.rorow 0 (ox4+k_) 1,.rorow 0 (ox4+k_) 2,.rorow 0 (ox4+k_) 3,.rorow 1 (ox5+k_) 0,.rorow 1 (ox5+k_) 1,.rorow 1 (ox5+k_) 2,.rorow 1 (ox5+k_) 3] [((ox5 * 4+k_ * 4)+3)=(ox5+k_) * 4+3 /\ (ox5+k_) < Nx5,((ox5 * 4+k_ * 4)+2)=(ox5+k_) * 4+2 /\ (ox5+k_) < Nx5,((ox5 * 4+k_ * 4)+1)=(ox5+k_) * 4+1 /\ (ox5+k_) < Nx5,(ox5 * 4+k_ * 4)=(ox5+k_) * 4+0 /\ (ox5+k_) < Nx5,((ox4 * 4+k_ * 4)+3)=(ox4+k_) * 4+3 /\ (ox4+k_) < Nx4,((ox4 * 4+k_ * 4)+2)=(ox4+k_) * 4+2 /\ (ox4+k_) < Nx4,((ox4 * 4+k_ * 4)+1)=(ox4+k_) * 4+1 /\ (ox4+k_) < Nx4,(ox4 * 4+k_ * 4)=(ox4+k_) * 4+0 /\ (ox4+k_) < Nx4,(k_:Int)=((k_:Nat):Int) /\ k_ < n,(k_:Int)=((k_:Nat):Int) /\ k_ < n]<|RD.sv 20 (congrArg (λ v_=>(.agg #[vI v_.t,vI v_.i,vI v_.k,vI v_.v]:Value)) hgx4)<|RD.sv 24 (congrArg (λ v_=>(.agg #[vI v_.t,vI v_.i,vI v_.k,vI v_.v]:Value)) hgx5) ?_
  have hee_:(decide ((es.getD k_ effE.dflt).t=(es.getD k_ effE.dflt).t) && (decide ((es.getD k_ effE.dflt).i=(es.getD k_ effE.dflt).i) && (decide ((es.getD k_ effE.dflt).k=(es.getD k_ effE.dflt).k) && (decide ((es.getD k_ effE.dflt).v=(es.getD k_ effE.dflt).v) && true))))=true:=by simp
  refine RD.go [] [8] [.sq]<|RD.fin<|RN.go 1 [] λ _=>RN.fx 25 (nt hee_)<|RN.goP 9 [.nw] [I64 ((k_:Int)+1)] λ _=>?_
  refine mt2 (k_+1) [] [] ?_
  try dsimp only
  exact ⟨by omega,by omega⟩
 ·refine RN.go 11 [] λ _=>?_
  exact RN.ret [] [] [] ⟨rfl,rfl⟩
def plM (G:Nat -> Gm) (M:MemS):Nat -> MemS
 | 0=>M
 | k+1=>tkM (G k) (plM G M k)
def plE (G:Nat -> Gm) (M:MemS):Nat -> List Eff
 | 0=>[]
 | k+1=>plE G M k++tkE (G k) (plM G M k)
theorem tkN_le (g:Gm):∀ (f:Nat) (M:MemS),tkN g f M <= f
 | 0,_=>Nat.le_refl _
 | f+1,M=>by
  rw [tkN]
  split
  ·omega
  ·have:=tkN_le g f (trM g M);omega
theorem tkE_len (g:Gm) (M:MemS):(tkE g M).length <= 1001:=by
 have h1:=effsV_len g (tkN g 1000 M+1) M
 have h2:=tkN_le g 1000 M
 unfold tkE
 omega
theorem plE_len (G:Nat -> Gm) (M:MemS):∀ k,(plE G M k).length <= 1001 * k
 | 0=>Nat.le_refl _
 | k+1=>by
  have h1:=plE_len G M k
  have h2:=tkE_len (G k) (plM G M k)
  rw [plE,List.length_append]
  omega
abbrev gmX (S:Setup) (j:Nat × Int) (xs:List Inp):Gm:=gmB S j xs.length xs
abbrev rG (S:Setup) (J:Nat -> Nat × Int) (xss:List (List Inp)):Nat -> Gm:=λ k=>gmX S (J k) (xss.getD k [])
structure TkOk (S:Setup) (j:Nat × Int) (xs:List Inp) (M:MemS):Prop where
 ex:∃ m,m <= 999 /\ goodRun (gmX S j xs) (m+1) M
 now:0 <= M.get 0
 ok:wrongE S.players xs.length xs (M.get 0)=0
theorem tk_of {g:Gm} {M:MemS} {m:Nat} (hm:m <= 999) (h:goodRun g (m+1) M):runM g (m+1) M=tkM g M /\ effsV g (m+1) M=tkE g M:=by
 rw [tkM,tkE,tkN_of m 1000 M h (by omega)]
 exact ⟨rfl,rfl⟩
theorem tick_tk {rs:List Bx} {ds:List Dr} {S:Setup} {bp gb b o N c k:Nat} {j:Nat × Int} {full xs:List Inp} {M:MemS} {G0 F:HL} (hG:GameH rs ds bp gb S M (k+20000) G0) (hj:j.1 < 5) (hA:AtOk F bp (M.get 0) j) (hE:EffIn F) (hI:(b,.rows 3 N (inrow full) 24 (0,0)) ∈ F) (hir:o+xs.length <= N) (hni:xs.length <= 1000000) (hx:∀ k,k < xs.length -> full.getD (o+k) dI=xs.getD k dI) (hk:TkOk S j xs M) :
  Sp Tryz.prog 15 #[vP gb 0,vS b (o * 3) xs.length c] (ap [] [G0]) F (λ u H'=>∃ x:(Option Addr × Nat × Nat) × HL × HL,H'=ap [] [x.2.1,x.2.2] /\ (GameH rs ds bp gb S (tkM (gmX S j xs) M) k x.2.1 /\ SlIs effE 99 (tkE (gmX S j xs) M) x.1.1 x.1.2.1 x.2.2 /\ u=.tuple #[.slice x.1.1 (tkE (gmX S j xs) M).length x.1.2.1,vI ((x.1.2.2+1:Nat):Int),vI 0])):=by
 obtain ⟨m,hm,hg⟩:=hk.ex
 obtain ⟨e1,e2⟩:=tk_of hm hg
 refine (tick_any (k:=k) (m:=m) (xs:=xs) (hG.weak (by omega)) hj hA hE hI hir hni (by omega) rfl hx hk.now hg hk.ok).mono λ u H' h=>?_
 obtain ⟨⟨T,A,cc,E⟩,rfl,h1,h2,h3⟩:=h
 dsimp only at h1 h2 h3
 rw [e1] at h1
 rw [e2] at h2 h3
 exact ⟨((A,cc,m),T,E),rfl,h1,h2,h3⟩
theorem play_run (rs_:List Bx) (ds_:List Dr) (S:Setup) (bp gb n cap k:Nat) (J:Nat -> Nat × Int) (A:Option Addr) (rs:List Rw) (xss:List (List Inp)) (M:MemS) (G0 F:HL) (hG:GameH rs_ ds_ bp gb S M (k+20000 * n) G0) (hE:EffIn F) (hr:RowL rwE 44 F A n rs) (hw:RwsIn F rs xss) (hxl:∀ k,k < n -> (xss.getD k []).length <= 1000000) (hn:n <= 50) (hJ:∀ i,i < n -> (J i).1 < 5 /\ AtOk F bp ((plM (rG S J xss) M i).get 0) (J i)) (hP:∀ i,i < n -> TkOk S (J i) (xss.getD i []) (plM (rG S J xss) M i)):Sp Tryz.prog 21 #[vP gb 0,.slice A n cap] (ap [] [G0]) F (λ u H'=>∃ x:(Option Addr × Nat) × HL × HL,H'=ap [] [x.2.1,x.2.2] /\ (GameH rs_ ds_ bp gb S (plM (rG S J xss) M n) k x.2.1 /\ SlIs effE 99 (plE (rG S J xss) M n) x.1.1 x.1.2 x.2.2 /\ u=.tuple #[.slice x.1.1 (plE (rG S J xss) M n).length x.1.2,.bool true])):=by
 refine Sp.run Tryz.func21 rfl mn (A:=[]) (Ts:=[G0]) rfl λ w0=>?_
 refine RN.go 18 [] λ _=>RN.nt<|RN.loop (σ:=Nat × Option Addr × Nat × HL × HL) (λ ⟨i_,A_,c_,G_,E_⟩=>⟨[(0,vP gb 0),(1,.slice A n cap),(6,.slice A_ ((plE (rG S J xss) M i_).length) c_),(7,vI (i_:Int))],[],[G_,E_],i_ <= n /\ GameH rs_ ds_ bp gb S (plM (rG S J xss) M i_) (k+20000 * (n - i_)) G_ /\ SlIs effE 99 (plE (rG S J xss) M i_) A_ c_ E_,n - i_⟩) (0,none,0,G0,[]) [] [1,0] (⟨Nat.zero_le _,hG,SlIs.nil _ _⟩) ?_
 rintro ⟨i_,A_,c_,G_,E_⟩ ⟨hi_,hG_,hs_⟩ mt2
 refine RN.go 9 [] λ _=>RN.em ((i_:Int) < (n:Int)) 14 (λ h3=>?_) λ h3=>?_
 ·refine RN.go 10 [] λ _=>?_
  have hG2_:=hG_.weak (k':=k+20000 * (n - (i_+1))+20000) (by omega)
  obtain ⟨qx4,ox4,Nx4,fx4,fzx4,hAx4,hqx4,hox4,hgx4⟩:=hr.at (k:=i_) (by omega)
  refine RN.sv 19 (congrArg (λ v_=>(.slice v_ n cap:Value)) hAx4)<|RN.ro (λ _=>(mc hqx4 mn))<|RN.goP 2 [.ix i_,.rorow 0 (ox4+i_) 0] [(ox4 * 1+i_ * 1)=(ox4+i_) * 1+0 /\ (ox4+i_) < Nx4,(i_:Int)=((i_:Nat):Int) /\ i_ < n] λ _=>RN.sv 22 (congrArg (λ v_=>(.slice v_.A v_.n v_.c:Value)) hgx4) ?_
  obtain ⟨bw5,ow5,Nw5,fw5,cw5,ew5,hIw5,hiw5,hxw5,hcw5⟩:=hw.get (k:=i_) (by rw [hr.len];omega)
  refine RN.sv 22 (congrArg (λ v_:Rw=>Value.slice v_.A v_.n v_.c) ew5)<|RN.ct [] [0] (tick_tk (c:=cw5) (k:=(k+20000 * (n - (i_+1)))) hG2_ (hJ i_ (by omega)).1 ((hJ i_ (by omega)).2.mono λ x hx=>ro_ap hx) (ro_ap hE) (ro_ap hIw5) hiw5 (by have:=hxl i_ (by omega);omega) hxw5 (hP i_ (by omega))) ?_
  rintro _ ⟨⟨A6,c7,n8⟩,T9,E10⟩ ⟨hG11,hs12,rfl⟩
  dsimp only at hG11 hs12
  refine RN.go 20 [] λ _=>RN.em (((n8+1:Nat):Int) < 1) 32 (λ h13=>?_) λ h13=>?_
  ·(exfalso;omega)
  ·refine RN.go 6 [] λ _=>RN.appU (c':=c7) (tx:=49) effEOk (plE (rG S J xss) M i_) (tkE (gmX S (J i_) (xss.getD i_ [])) (plM (rG S J xss) M i_)) 2 rfl hs_ (by have h1_:=plE_len (rG S J xss) M i_;have h2_:=tkE_len (gmX S (J i_) (xss.getD i_ [])) (plM (rG S J xss) M i_);omega) (hs12.src effEOk (by decide) (sub_ap 1)) ?_
   rintro A14 c15 T16 ⟨hs17,hz18⟩
   refine RN.goP 9 [.nw] [I64 ((i_:Int)+1)] λ _=>RN.sv 6 (congrArg (λ v_=>(.slice A14 v_ c15:Value)) (show (plE (rG S J xss) M i_).length+(tkE (gmX S (J i_) (xss.getD i_ [])) (plM (rG S J xss) M i_)).length=(plE (rG S J xss) M (i_+1)).length by rw [plE,List.length_append])) ?_
   refine mt2 (i_+1,A14,c15,T9,T16) [] [1,0] ?_
   try dsimp only
   exact ⟨⟨by omega,hG11.weak (by omega),hs17⟩,by omega⟩
 ·refine RN.go 13 [] λ _=>RN.ret [] [] [0,1] (v:=.tuple #[.slice A_ ((plE (rG S J xss) M i_).length) c_,.bool true]) (H':=(ap [] [G_,E_])) ?_
  obtain rfl:i_=n:=by omega
  exact ⟨((A_,c_),G_,E_),rfl,hG_.weak (by omega),hs_,rfl⟩
theorem shK_bd {n:Int} (h:i64r n):0 <= shK n /\ shK n < 1000:=around_bd h 1000 (by decide)
theorem around_small {n m:Int} (h0:0 <= n) (h1:n < m):around n m=n:=by
  unfold around
  rw [if_neg (by omega)]
  exact Int.tmod_eq_of_lt h0 h1
theorem shapeS_shK {n:Int} (h:i64r n):shapeS (shK n)=shapeS n:=by
  have hb:=shK_bd h
  have e:shK (shK n)=shK n:=around_small hb.1 hb.2
  unfold shapeS shR
  rw [e]
theorem shape_all:∀ k:Fin 1000,shOk ⟨(shapeS ((k.1:Nat):Int)).1,(shapeS ((k.1:Nat):Int)).2,none,0⟩:=by decide +kernel
theorem shape_ok {n:Int} (h:i64r n) (A:Option Addr) (c:Nat):shOk ⟨(shapeS n).1,(shapeS n).2,A,c⟩:=by
  have hb:=shK_bd h
  have:=shape_all ⟨(shK n).toNat,by omega⟩
  simp only at this
  rw [Int.toNat_of_nonneg hb.1,shapeS_shK h] at this
  exact this
theorem inv_bd (i:Nat):0 <= ([1024,1024,512,2048,0]:List Int).getD i 0 /\ ([1024,1024,512,2048,0]:List Int).getD i 0 <= 4096:=by
  rcases i with _ | _ | _ | _ | _ | i
  all_goals first | decide | simp
section
variable {xs:List Int} {F:HL} {A:Option Addr} {n:Nat} {S:Setup} {T:HL}
theorem body_ok (hl:ArgL F A n xs) (k:Nat) (B:Option Addr) (c:Nat):vbodyP (bodyG xs k B c) ⟨-12000,-9000,12000,9000⟩:=by
  have h1:=kv_bd hl (4+2 * k)
  have h2:=kv_bd hl (5+2 * k)
  have h3:=inv_bd ((bM xs k / 5000) % 5).toNat
  simp only [vbodyP,bodyG,winP_cons,winP_nil,and_true]
  rw [show kv xs (4+2 * k)=bN xs k from rfl] at h1
  rw [show kv xs (5+2 * k)=bM xs k from rfl] at h2
  refine ⟨h3,⟨⟨?_,?_⟩,?_,?_⟩,⟨?_,?_⟩,⟨?_,?_⟩,⟨?_,?_⟩,?_,?_⟩ <;> omega
theorem doors_ok (i:Nat):(doorN i:Int) <= 16 /\ ∀ k,k < doorN i -> vdoorP 3 ((genD i).getD k drE.dflt):=by
  rcases i with _ | _ | i
  · exact ⟨by decide,λ k hk=>absurd hk (Nat.not_lt_zero _)⟩
  · exact ⟨by decide,by decide⟩
  · exact ⟨by show ((2:Nat):Int) <= 16;decide,by show ∀ k,k < 2 -> vdoorP 3 (([⟨0,2⟩,⟨1,2⟩]:List Dr).getD k drE.dflt);decide⟩
theorem gen_valid (hl:ArgL F A n xs) (h:SetG xs S T):valE S genR (genD (kv xs 3 % 3).toNat)=0:=by
  have h1:=sCnt_bd hl
  have h2:=sPl_bd hl
  have hn:=h.nb
  have k0:=kv_bd hl 0
  have k1:=kv_bd hl 1
  have k2:=kv_bd hl 2
  obtain ⟨e1,e2,e3,e4,e5,e6,e7,e8⟩:=h.nums
  obtain ⟨⟨m1,m2⟩,-⟩:=h.maps
  have hd:=doors_ok (kv xs 3 % 3).toNat
  unfold valE
  rw [if_pos,if_pos,if_pos]
  · intro k hk
    obtain ⟨B,c,hb⟩:=h.bod k hk
    rw [hb,e1]
    exact body_ok hl k B c
  · refine ⟨?_,?_,⟨?_,?_⟩,?_,?_⟩
    · have hpl:=h.pl
      simp only [vnumP,winP_cons,winP_nil,and_true,e2,e3,e4,e5,e6,e7,e8,hpl]
      refine ⟨⟨?_,?_⟩,⟨?_,?_⟩,⟨?_,?_⟩,⟨⟨?_,?_⟩,?_,?_⟩,⟨?_,?_⟩,⟨⟨?_,?_⟩,?_,?_⟩,⟨?_,?_⟩,?_,?_⟩ <;> omega
    · rw [e1];decide
    · rw [m1];decide
    · rw [m2];exact hd.1
    · rw [m1];decide
    · rw [m1,m2];exact hd.2
  · intro k hk
    obtain ⟨B,c,hb⟩:=h.bod k hk
    rw [hb]
    have:=kv_bd hl (4+2 * k)
    exact shape_ok ⟨by show _ <= kv xs (4+2 * k);omega,by show kv xs (4+2 * k) <= _;omega⟩ B c
end
theorem Sp.den {P:Program} {f:FuncId} {args:Array Value} {H F F':HL} {R:Value -> HL -> Prop} (h:Sp P f args H F R) (e:denL F=denL F'):Sp P f args H F' R:=by
  have e2:∀ X:HL,denL (X++F)=denL (X++F'):=λ X=>by simp only [denL,List.map_append] at e ⊢;rw [e]
  intro w hR
  refine (h w (hR.den (e2 H).symm)).mono ?_
  rintro e' w' ⟨v,H',h1,h2,h3,h4⟩
  exact ⟨v,H',h1,h2,h3.den (e2 H'),h4⟩
def ArgD (F:HL) (A:Option Addr) (n:Nat) (xs:List Int):Prop:=∃ F',denL F'=denL F /\ ArgL F' A n xs
theorem ArgL.d {F F':HL} {A:Option Addr} {n:Nat} {xs:List Int} (h:ArgL F A n xs) (e:denL F=denL F'):ArgD F' A n xs:=⟨F,e,h⟩
theorem ArgD.up {F X:HL} {A:Option Addr} {n:Nat} {xs:List Int} (h:ArgD F A n xs):ArgD (X++F) A n xs:=by
  obtain ⟨F',e,h⟩:=h
  exact ⟨X++F',by simp only [denL,List.map_append] at e ⊢;rw [e],h.up⟩
theorem ArgD.ex {F:HL} {A:Option Addr} {n:Nat} {xs:List Int} (h:ArgD F A n xs):∃ F',ArgL F' A n xs:=by
  obtain ⟨F',e,h⟩:=h
  exact ⟨F',h⟩
theorem ArgD.use {F:HL} {A:Option Addr} {n:Nat} {xs:List Int} (h:ArgD F A n xs) {P:Program} {f:FuncId} {args:Array Value} {H:HL} {R:Value -> HL -> Prop} (k:∀ F',ArgL F' A n xs -> Sp P f args H F' R):Sp P f args H F R:=by
  obtain ⟨F',e,h⟩:=h
  exact (k F' h).den e
noncomputable def livesQ:Bool:=resQ tabsE [] (.bool true) (runK Tryz.prog 3 100000 (.fn 19 [] (tabH tabsE) 3))
theorem lives_q:livesQ=true:=by kernel_rfl
theorem lives_sp {F:HL}:Sp Tryz.prog 19 #[] (tabsE.map tabB) F λ v' H'=>v'=.bool true /\ H'=tabsE.map tabB :=
  (closed_sp (G:=3) (tabs:=tabsE) (picks:=[]) mixed rfl rfl rfl (by simp [tabsE]) lives_q).mono λ v' H' ⟨ν,rest,h1,h2⟩=>⟨by rw [h1];rfl,by simpa using h2⟩
noncomputable section
theorem lives_in {F:HL} (hF:(0,Blk.lit cefV 234 (0,0)) ∈ F):Sp Tryz.prog 19 #[] [] F λ u H'=>u=.bool true /\ H'=[] :=
  Sp.table hF λ F0=>lives_sp.mono λ u H' ⟨h1,h2⟩=>⟨[],⟨h1,rfl⟩,h2⟩
end
structure GF (xs:List Int) (S:Setup):Prop where
 pl:1 <= S.players /\ S.players <= 3
 nb:1 <= S.nb /\ S.nb <= 5
 rn:S.rn=3
 dn:S.dn <= 2
 sz:48 <= sizeOf S /\ sizeOf S <= 100
 val:valE S genR (genD (kv xs 3 % 3).toNat)=0
theorem gfacts {F:HL} {A:Option Addr} {n:Nat} {xs:List Int} (hl:ArgD F A n xs) {S:Setup} {T:HL} (h:SetG xs S T):GF xs S:=by
 obtain ⟨F',hl⟩:=hl.ex
 have h1:=sCnt_bd hl
 have h2:=sPl_bd hl
 have hn:=h.nb
 have hp:=h.pl
 obtain ⟨⟨m1,m2⟩,-⟩:=h.maps
 have hd:doorN (kv xs 3 % 3).toNat <= 2:=by
  generalize (kv xs 3 % 3).toNat=i
  rcases i with _ | _ | i
  ·exact Nat.zero_le _
  ·exact Nat.le_of_ble_eq_true rfl
  ·exact Nat.le_refl 2
 exact ⟨by omega,by omega,m1,by omega,by unfold sizeOf;omega,gen_valid hl h⟩
structure SetV (S:Setup):Prop where
  pl:1 <= S.players /\ S.players <= 3
  nb:1 <= S.nb /\ S.nb <= 5
  ro:1 <= S.rounds /\ S.rounds <= 3
  fu:S.fuel=60
theorem vset_len (M:MemS) (i v:Int):(M.set i v).cs.length=M.cs.length:=by
  unfold MemS.set;split <;> simp
theorem vget_ne {M:MemS} {i v j:Int} (h:j ≠ i):(M.set i v).get j=M.get j:=by
  unfold MemS.set
  split
  · next hi =>
    unfold MemS.get
    simp only [List.length_set]
    split
    · next hj =>
      rw [List.getD_eq_getElem?_getD,List.getD_eq_getElem?_getD,List.getElem?_set_ne (by omega)]
    · rfl
  · rfl
theorem vget_eq {M:MemS} {i v:Int} (h:0 <= i /\ i < M.cs.length):(M.set i v).get i=v:=by
  unfold MemS.set
  rw [if_pos h]
  unfold MemS.get
  simp only [List.length_set]
  rw [if_pos h,List.getD_eq_getElem?_getD,List.getElem?_set_self (by omega)]
  rfl
theorem vget_lo {M:MemS} {i v:Int} (h:48 <= M.cs.length) (h0:0 <= i) (h1:i < 48) (j:Int):(M.set i v).get j=if j=i then v else M.get j:=by
  by_cases e:j=i
  · rw [if_pos e,e,vget_eq (by omega)]
  · rw [if_neg e,vget_ne e]
theorem vbodyAt {S:Setup} (hp:0 <= S.players) (k:Int):bodyAt S k=-1 \/ (0 <= k /\ k < S.nb /\ bodyAt S k=48+4 * S.players+8 * k):=by
  unfold bodyAt
  split
  · exact .inl rfl
  · split
    · exact .inl rfl
    · exact .inr ⟨by omega,by omega,rfl⟩
theorem vplayerAt {S:Setup} (k:Int):(playerAt S k=-1 /\ (k < 0 \/ S.players <= k)) \/ (0 <= k /\ k < S.players /\ playerAt S k=48+4 * k):=by
  unfold playerAt
  split
  · exact .inl ⟨rfl,by omega⟩
  · split
    · exact .inl ⟨rfl,by omega⟩
    · exact .inr ⟨by omega,by omega,rfl⟩
structure Hi (P:Int) (M M':MemS):Prop where
  len:M'.cs.length=M.cs.length
  get:∀ j,j < 48+4 * P -> M'.get j=M.get j
theorem Hi.refl {P:Int} {M:MemS}:Hi P M M:=⟨rfl,λ _ _=>rfl⟩
theorem Hi.set {P:Int} {A M:MemS} (h:Hi P A M) {k:Int} (hk:48+4 * P <= k) (v:Int):Hi P A (M.set k v):=⟨(vset_len _ _ _).trans h.len,λ j hj=>(vget_ne (by omega)).trans (h.get j hj)⟩
theorem Hi.setB {S:Setup} (hp:0 <= S.players) {A M:MemS} (h:Hi S.players A M) {k c:Int} (hb:bodyAt S k >= 0) (hc:0 <= c) (v:Int):Hi S.players A (M.set (bodyAt S k+c) v):=by
  rcases vbodyAt hp k with e | ⟨h0,h1,e⟩
  · omega
  · exact h.set (by omega) v
structure Kp (P:Int) (M M':MemS):Prop where
  len:M'.cs.length=M.cs.length
  get:∀ j,j <= 5 \/ (48 <= j /\ j < 48+4 * P) -> M'.get j=M.get j
theorem Kp.refl {P:Int} {M:MemS}:Kp P M M:=⟨rfl,λ _ _=>rfl⟩
theorem Kp.set {P:Int} {A M:MemS} (h:Kp P A M) {k:Int} (hk:5 < k /\ (k < 48 \/ 48+4 * P <= k)) (v:Int):Kp P A (M.set k v):=⟨(vset_len _ _ _).trans h.len,λ j hj=>(vget_ne (by omega)).trans (h.get j hj)⟩
theorem Kp.trans {P:Int} {A B C:MemS} (h:Kp P A B) (h':Kp P B C):Kp P A C:=⟨h'.len.trans h.len,λ j hj=>(h'.get j hj).trans (h.get j hj)⟩
structure Ef (M:MemS) (r:VR):Prop where
  yes:r.em=true -> r.e.t=M.get 0 /\ r.e.i=M.get 11 /\ M.get 11 < 40 /\ r.M.get 11=M.get 11+1
  no:r.em=false -> r.M.get 11=M.get 11
theorem e_bd {op:Int} (h:1 <= op /\ op <= 21):(0 <= eP op /\ eP op <= 2) /\ (0 <= eQ op /\ eQ op <= 1):=by
  obtain ⟨n,rfl⟩:=Int.eq_ofNat_of_zero_le (show 0 <= op by omega)
  have hn:n < 22:=by omega
  have key:∀ n:Fin 22,(0 <= (effT.getD n.1 (0,0,0)).1 /\ (effT.getD n.1 (0,0,0)).1 <= 2) /\ (0 <= (effT.getD n.1 (0,0,0)).2.1 /\ (effT.getD n.1 (0,0,0)).2.1 <= 1):=by decide
  exact key ⟨n,hn⟩
theorem exeOk_of {op n sp:Int} (h:exeOk op n sp=true):(1 <= op /\ op <= 21) /\ sp <= 16 /\ eP op <= sp /\ ¬ w64 (w64 (sp - eP op)+eQ op) > 16 /\ (eN op=0 \/ (0 <= n /\ n < eN op)):=by
  unfold exeOk at h
  split at h
  · cases h
  split at h
  · cases h
  split at h
  · cases h
  split at h
  · cases h
  split at h
  · cases h
  refine ⟨by omega,by omega,by omega,by assumption,?_⟩
  split at h
  · left;assumption
  · split at h
    · right;exact ⟨by omega,of_decide_eq_true h⟩
    · cases h
theorem emit_ok {M:MemS} {P k v:Int} (hl:48 <= M.cs.length) (h0:0 <= M.get 11 /\ M.get 11 <= 40):Kp P M (emitV k v M).M /\ (emitV k v M).M.get 8=M.get 8 /\ Ef M (emitV k v M):=by
  unfold emitV
  split
  · exact ⟨.refl,rfl,⟨λ h=>by simp at h,λ _=>rfl⟩⟩
  · refine ⟨((Kp.refl).set (by omega) _).set (by omega) _,?_,⟨λ _=>⟨rfl,rfl,by omega,?_⟩,λ h=>by simp at h⟩⟩
    · simp only
      rw [vget_ne (by decide),vget_ne (by decide)]
    · simp only
      rw [vget_eq (by rw [vset_len];omega),w64_id (by omega)]
def Gd (P:Int) (M:MemS) (r:VR):Prop:=Kp P M r.M /\ r.M.get 8=M.get 8 /\ Ef M r
theorem Gd.ite {P:Int} {M:MemS} {c:Prop} [Decidable c] {x y:VR} (hx:c -> Gd P M x) (hy:¬ c -> Gd P M y):Gd P M (if c then x else y):=by
  split
  · exact hx (by assumption)
  · exact hy (by assumption)
theorem Gd.base {P:Int} {M:MemS} {v:Int}:Gd P M ⟨M,v,eff0,false⟩:=⟨.refl,rfl,⟨λ h=>by simp at h,λ _=>rfl⟩⟩
theorem Gd.st {P:Int} {M:MemS} {k v u:Int} (hk:(5 < k /\ k ≠ 8 /\ k ≠ 11) /\ (k < 48 \/ 48+4 * P <= k)):Gd P M ⟨M.set k v,u,eff0,false⟩ :=
  ⟨(Kp.refl).set (by omega) _,vget_ne (by omega),⟨λ h=>by simp at h,λ _=>vget_ne (by omega)⟩⟩
theorem Gd.mite {P:Int} {M X Y:MemS} {c:Prop} [Decidable c] {u:Int} (hx:c -> Gd P M ⟨X,u,eff0,false⟩) (hy:¬ c -> Gd P M ⟨Y,u,eff0,false⟩):Gd P M ⟨if c then X else Y,u,eff0,false⟩:=by
  split
  · exact hx (by assumption)
  · exact hy (by assumption)
theorem exec_ok {S:Setup} (hS:SetV S) {M:MemS} {op n a b:Int} (hl:48 <= M.cs.length) (h0:0 <= M.get 11 /\ M.get 11 <= 40) (hn:eN op=0 \/ (0 <= n /\ n < eN op)):Gd S.players M (execV S op n a b M):=by
  have hpl:=hS.pl
  have hnb:=hS.nb
  unfold execV
  iterate 14 (refine Gd.ite (λ _=>.base) λ _=>?_)
  refine Gd.ite (λ e=>?_) λ _=>?_
  · subst e
    have h16:0 <= n /\ n < 16:=by
      rcases hn with h | h
      · exact absurd h (by decide)
      · exact h
    rw [w64_id (by omega)]
    exact .st (by omega)
  refine Gd.ite (λ _=>.base) λ _=>?_
  refine Gd.ite (λ e=>?_) λ _=>?_
  · subst e
    have h8:0 <= n /\ n < 8:=by
      rcases hn with h | h
      · exact absurd h (by decide)
      · exact h
    refine Gd.mite (λ hb=>?_) λ _=>.base
    rcases vbodyAt (S:=S) (by omega) a with e | ⟨b0,b1,e⟩
    · omega
    · rw [w64_id (by omega)]
      exact .st (by omega)
  refine Gd.ite (λ _=>.st (by omega)) λ _=>?_
  refine Gd.ite (λ _=>.mite (λ _=>.st (by omega)) λ _=>.base) λ _=>?_
  refine Gd.ite (λ _=>?_) λ _=>.base
  obtain ⟨q1,q2,q3⟩:=emit_ok (P:=S.players) (k:=a) (v:=b) hl h0
  exact ⟨q1,q2,⟨q3.yes,q3.no⟩⟩
theorem memP_ok {P:Int} {M:MemS} {op sp pc fuel:Int} (hl:48 <= M.cs.length):Kp P M (memP op sp pc fuel M) /\ (memP op sp pc fuel M).get 8=w64 (fuel - 1) /\ (memP op sp pc fuel M).get 11=M.get 11:=by
  unfold memP
  split
  · exact ⟨((Kp.refl).set (by omega) _).set (by omega) _,by rw [vget_ne (by decide),vget_eq (by omega)],by rw [vget_ne (by decide),vget_ne (by decide)]⟩
  · exact ⟨(((Kp.refl).set (by omega) _).set (by omega) _).set (by omega) _,by rw [vget_ne (by decide),vget_ne (by decide),vget_eq (by omega)],by rw [vget_ne (by decide),vget_ne (by decide),vget_ne (by decide)]⟩
theorem stepV_ok {S:Setup} (hS:SetV S) {M:MemS} {code:List Ins} {n:Nat} (hl:48 <= M.cs.length) (h0:0 <= M.get 11 /\ M.get 11 <= 40) (hf:0 <= M.get 8 /\ M.get 8 <= 60) :
    Kp S.players M (stepV S code n M).M /\ Ef M (stepV S code n M) /\ ((runsV code n M /\ (stepV S code n M).M.get 8=M.get 8 - 1 /\ 1 <= M.get 8) \/ (¬ runsV code n M /\ endV code n M=true /\ (stepV S code n M).M.get 8=M.get 8)):=by
  unfold stepV
  by_cases hr:runsV code n M
  · rw [if_pos hr]
    obtain ⟨r1,r2,r3,r4⟩:=hr
    obtain ⟨x1,x2,x3,x4,x5⟩:=exeOk_of r4
    have hp:=memP_ok (P:=S.players) (op:=(codeA code M).op) (sp:=M.get 7) (pc:=M.get 6) (fuel:=M.get 8) hl
    generalize hM1:memP (codeA code M).op (M.get 7) (M.get 6) (M.get 8) M=M1 at *
    obtain ⟨p1,p2,p3⟩:=hp
    rw [w64_id (by omega)] at p2
    have he:=exec_ok hS (M:=M1) (op:=(codeA code M).op) (n:=(codeA code M).n) (a:=popA (codeA code M).op (M.get 7) M) (b:=popB (codeA code M).op (M.get 7) M) (by rw [p1.len];exact hl) (by rw [p3];exact h0) x5
    unfold stepI
    rw [hM1]
    generalize execV S (codeA code M).op (codeA code M).n (popA (codeA code M).op (M.get 7) M) (popB (codeA code M).op (M.get 7) M) M1=r at *
    obtain ⟨g1,g2,g3⟩:=he
    have hE:Ef M r:=⟨λ h=>by
      obtain ⟨a1,a2,a3,a4⟩:=g3.yes h
      rw [p1.get 0 (by omega)] at a1
      rw [p3] at a2 a3 a4
      exact ⟨a1,a2,a3,a4⟩,λ h=>by rw [g3.no h,p3]⟩
    have hb:=e_bd x1
    unfold pushV
    split
    · have hq:w64 (w64 (16+M.get 7) - eP (codeA code M).op)=16+M.get 7 - eP (codeA code M).op:=by rw [w64_id (x:=16+M.get 7) (by omega),w64_id (by omega)]
      rw [w64_id (x:=M.get 7 - eP (codeA code M).op) (by omega),w64_id (by omega)] at x4
      rw [hq]
      refine ⟨(p1.trans g1).set (by omega) _,⟨λ h=>?_,λ h=>?_⟩,.inl ⟨⟨r1,r2,r3,r4⟩,?_,by omega⟩⟩
      · obtain ⟨a1,a2,a3,a4⟩:=hE.yes h
        exact ⟨a1,a2,a3,(vget_ne (by omega)).trans a4⟩
      · exact (vget_ne (by omega)).trans (hE.no h)
      · simp only
        rw [vget_ne (by omega),g2,p2]
    · exact ⟨p1.trans g1,hE,.inl ⟨⟨r1,r2,r3,r4⟩,by rw [g2,p2],by omega⟩⟩
  · rw [if_neg hr]
    exact ⟨.refl,⟨λ h=>by simp at h,λ _=>rfl⟩,.inr ⟨hr,by unfold endV;rw [if_neg hr],rfl⟩⟩
end Go.Proofs.YtgibcbhfmomfbaaGreatDoor
