import Derived.Test.YtghjbimijeinfaaGreatDoorY31
import Derived.Test.YtghjbimijeinfaaGreatDoorY17
set_option maxHeartbeats 4000000
set_option maxRecDepth 100000
set_option linter.unusedSimpArgs false
set_option linter.unusedVariables false
namespace Go.Proofs.YtghjbimijeinfaaGreatDoor
open Go.RowKit Go.Shelf
section
variable {α:Type} {e:Enc α} {P:Program} {T:TypeId} {inf:TypeInfo} {z:Value} {l:List α} {A:Option Addr} {cap:Nat} {Hl F:HL}
theorem SlIs.toRowL (h:SlIs e T l A cap Hl) (hF:∀ x ∈ Hl,x ∈ F):RowL e T F A l.length l:=by
 rcases h with ⟨rfl,rfl,rfl,rfl⟩ | ⟨b,o,full,rfl,rfl,h1,h2,h3⟩
 ·exact .zero _
 ·refine .rows b o (o+cap) full (0,0) _ l (hF _ (List.mem_singleton.2 rfl)) (by omega) rfl (λ k hk=>?_)
  have h4:((full.drop o).take l.length)[k]?=l[k]?:=by rw [h3]
  rw [List.getElem?_take,if_pos hk,List.getElem?_drop] at h4
  rw [List.getD_eq_getElem?_getD,List.getD_eq_getElem?_getD,h4]
theorem SlIs.src (ok:EncOk e P T inf z) (hw:0 < e.w) (h:SlIs e T l A cap Hl) (hF:∀ x ∈ Hl,x ∈ F):SrcIn P e F A l.length l:=RowL.src ok hw (h.toRowL hF)
end
section
variable {r:Option Nat} {P:Program} {N:Nat} {D:List Deferred} {F:HL} {w0:World} {R:HL} {s:Cfg} {Q:Exit -> Act -> World -> Prop} {hards:List Nat} {Rd:HL}
def btC (i:Nat) (s:Cfg):Cfg:=match s with
 | ⟨c,k,L,A,Ts⟩=>⟨c,k,L,(oth [i] A.length).filterMap (A[·]?),[i].filterMap (A[·]?) :: Ts⟩
theorem IM {A:HL} {Ts:List HL} {i:Nat} (h:([i]++oth [i] A.length).isPerm (List.range A.length)=true):(ap ((oth [i] A.length).filterMap (A[·]?)) ([i].filterMap (A[·]?) :: Ts)).Perm (ap A Ts):=by
 have hp:=eS A [i] (oth [i] A.length) h
 show ((oth [i] A.length).filterMap (A[·]?)++([i].filterMap (A[·]?) :: Ts).flatten).Perm (A++Ts.flatten)
 rw [List.flatten_cons,<- List.append_assoc]
 exact (List.perm_append_comm.trans hp).append_right _
theorem JP (i:Nat) (hk:RN r P N D F w0 R (btC i s) Q) (h:([i]++oth [i] s.A.length).isPerm (List.range s.A.length)=true:=by kernel_rfl):RN r P N D F w0 R s Q:=by
 obtain ⟨c,k,L,A,Ts⟩:=s
 exact ⟨λ hR a w h1 h2 h3=>hk.h hR a w h1 (h2.perm ((IM h).append_right F)) h3⟩
theorem Aw (t:Nat) {u v:Value} (e:u=v) (hk:RD r P N D F w0 R hards Rd (svC t v s) Q) (h:s.L.lookup t=some u:=by kernel_rfl):RD r P N D F w0 R hards Rd s Q:=by
 subst e
 exact ⟨λ hR hs hcl a hF=>hk.h hR hs hcl a (hF.fix h)⟩
variable {α:Type} {e:Enc α} {T:TypeId} {inf:TypeInfo} {z:Value}
theorem RN.appU (ok:EncOk e P T inf z) (l src:List α) (j:Nat) {A:Option Addr} {n cap:Nat} {Hl:HL} {B:Option Addr} {m c':Nat} {tx:TypeId} (hn:n=l.length) (hsl:SlIs e T l A cap Hl) (hb:l.length+src.length <= 100000000)
  (hs:SrcIn P e (ap s.A s.Ts++F) B m src)
  (hk:∀ (A':Option Addr) (cap':Nat) (Hl':HL),(SlIs e T (l++src) A' cap' Hl' /\ (cQ A -> cQ A')) -> RN r P N D F w0 R (L4 j Hl' (fP N (.slice A' (n+src.length) cap') s)) Q)
  (h:zO P N j (rx s) s=some (A,n,cap,T,B,m,c',tx,Hl):=by kernel_rfl):RN r P N D F w0 R s Q:=by
 obtain ⟨o,a1,a2,t,e',q0,q1,q2,q3,q4,q5,q6,q7,q9,q10,q11⟩:=p8 h
 refine ⟨λ hR a w hF hRel hB=>?_⟩
 obtain ⟨c,k,L,Bs,Ts⟩:=s
 unfold rx at q0
 cases c with
 | code c=>cases q0
 | ex c=>cases q0
 | drw _ _=>cases q0
 | ops ops i =>
  simp only at q0 q3 q4 q5 q9 q10 q11 hF hRel
  have hdrop:ops.toList.drop i=o :: ops.toList.drop (i+1):=by
   have hlt:i < ops.toList.length:=(List.getElem?_eq_some_iff.1 q0).1
   rw [List.drop_eq_getElem_cons hlt,(List.getElem?_eq_some_iff.1 q0).2]
  show wpListIn _ _ _ _ _ _ _ _
  rw [hdrop,wpListIn,if_pos (by simp [Region.wanted,q1])]
  refine ⟨λ _ _=>trivial,?_⟩
  have hperm:=jn (A:=Bs) q9 q10
  refine ie (by rw [q2];intro c hc;cases hc) (nz (x:=.slice B m c') (src:=src) (G:=Bs++((oth [j] Ts.length).filterMap (Ts[·]?)).flatten) ok q2 q6 q3 q4 hn q5 hperm hsl (λ w hw=>by have h5:=hs.2 c' q7 [] w hw;rwa [<- ok.size] at h5) hb a hF w hRel) ?_
  rintro u w' ⟨⟨A',cap',Hl'⟩,⟨rfl,hsl'⟩,hR',hB'⟩
  obtain ⟨L',p1⟩:=eT q11 (.slice A' (n+src.length) cap')
  have hh:=(hk A' cap' Hl' hsl').h hR
  have hpc:fP N (.slice A' (n+src.length) cap') ⟨.ops ops i,k,L,Bs,Ts⟩=⟨.ops ops (i+1),k,L',Bs,Ts⟩:=by
   unfold fP
   simp only [q0,p1]
  rw [hpc] at hh
  refine hh _ w' (hF.put p1) (hR'.perm (List.Perm.append_right F ?_)) (hB.trans hB')
  show (Bs++(Hl' :: (oth [j] Ts.length).filterMap (Ts[·]?)).flatten).Perm _
  rw [List.flatten_cons,<- List.append_assoc,<- List.append_assoc]
  exact List.Perm.append_right _ List.perm_append_comm
end
structure Rw where (A:Option Addr) (n c:Nat)
def fh:Enc Rw:=⟨1,λ p k=>match k with | 0=>.slice p.A p.n p.c | _=>default,⟨none,0,0⟩⟩
noncomputable def M3:TypeInfo:=match Tryz.prog.info? 56 with | some i=>i | none=>⟨.bool,"",0,0,false,0,0,none,false,#[]⟩
noncomputable def M4:Value:=match M3.zero with | some z=>z | none=>.bool false
theorem JQ:EncOk fh Tryz.prog 56 M3 M4 where
 info:=by kernel_rfl
 zero:=by kernel_rfl
 size:=by kernel_rfl
 zsize:=by kernel_rfl
 zcell:=λ k hk=>by
  have h:∀ k < 1,M4.cells[k]?=some (fh.cell fh.dflt k):=by intro k hk;(iterate 1 (rcases k with _ | k;· kernel_rfl));omega
  exact h k hk
 one:=λ x k=>by unfold fh;dsimp only;split <;> rfl
 bytes:=Nat.le_of_ble_eq_true (by kernel_rfl)
inductive RwIn (F:HL) (xs:List Inp):Rw -> Prop
 | mk (b o N:Nat) (full:List Inp) (c:Nat) (hI:(b,.rows 3 N (j9 full) 151 (0,0)) ∈ F) (hir:o+xs.length <= N) (hx:∀ k,k < xs.length -> full.getD (o+k) dI=xs.getD k dI) (hcap:xs.length <= c):RwIn F xs ⟨some ⟨b,o * 3,none⟩,xs.length,c⟩
structure RwsIn (F:HL) (rs:List Rw) (xss:List (List Inp)):Prop where
 len:rs.length=xss.length
 row:∀ k,k < rs.length -> RwIn F (xss.getD k []) (rs.getD k fh.dflt)
def RwsT (rs:List Rw) (xss:List (List Inp)) (T:HL):Prop:=∀ F,(∀ x ∈ T,x ∈ F) -> RwsIn F rs xss
theorem RwIn.mono {F F':HL} {xs:List Inp} {p:Rw} (h:RwIn F xs p) (hs:∀ x ∈ F,x ∈ F'):RwIn F' xs p:=by
 cases h with
 | mk b o N full c hI hir hx hc=>exact .mk b o N full c (hs _ hI) hir hx hc
theorem RwsIn.mono {F F':HL} {rs:List Rw} {xss:List (List Inp)} (h:RwsIn F rs xss) (hs:∀ x ∈ F,x ∈ F'):RwsIn F' rs xss:=⟨h.len,λ k hk=>(h.row k hk).mono hs⟩
theorem RwsIn.get {F:HL} {rs:List Rw} {xss:List (List Inp)} (h:RwsIn F rs xss) {k:Nat} (hk:k < rs.length):∃ b o N full c,rs.getD k fh.dflt=⟨some ⟨b,o * 3,none⟩,(xss.getD k []).length,c⟩ /\ (b,.rows 3 N (j9 full) 151 (0,0)) ∈ F /\ o+(xss.getD k []).length <= N /\ (∀ i,i < (xss.getD k []).length -> full.getD (o+i) dI=(xss.getD k []).getD i dI) /\ (xss.getD k []).length <= c:=by
 have h1:=h.row k hk
 generalize rs.getD k fh.dflt=p at h1 ⊢
 cases h1 with
 | mk b o N full c hI hir hx hc=>exact ⟨b,o,N,full,c,rfl,hI,hir,hx,hc⟩
theorem SlIs.rw {xs:List Inp} {A:Option Addr} {c:Nat} {T F:HL} (h:SlIs gC 151 xs A c T) (hF:∀ x ∈ T,x ∈ F) (h1:1 <= xs.length) {n:Nat} (hn:n=xs.length):RwIn F xs ⟨A,n,c⟩:=by
 subst hn
 rcases h with ⟨_,_,rfl,_⟩ | ⟨b,o,full,rfl,rfl,h2,h3,h4⟩
 ·simp at h1
 ·refine .mk b o (o+c) full c (hF _ (List.mem_singleton.2 rfl)) (by omega) (λ k hk=>?_) h3
  have h5:((full.drop o).take xs.length)[k]?=xs[k]?:=by rw [h4]
  rw [List.getElem?_take,if_pos hk,List.getElem?_drop] at h5
  rw [List.getD_eq_getElem?_getD,List.getD_eq_getElem?_getD,h5]
theorem RwsT.nil:RwsT [] [] []:=λ F _=>⟨rfl,λ k hk=>absurd hk (Nat.not_lt_zero _)⟩
theorem jI {α:Type} (l:List α) (x d:α) (k:Nat):(l++[x]).getD k d=if k < l.length then l.getD k d else if k=l.length then x else d:=by
 rw [List.getD_eq_getElem?_getD,List.getElem?_append]
 split
 ·rw [List.getD_eq_getElem?_getD]
 ·split
  ·next h=>subst h;simp
  ·rw [List.getElem?_eq_none (by simp;omega)];rfl
theorem RwsT.snoc {rs:List Rw} {xss:List (List Inp)} {T T1:HL} {xs:List Inp} {A:Option Addr} {c n:Nat} (h:RwsT rs xss T) (hs:SlIs gC 151 xs A c T1) (h1:1 <= xs.length) (hn:n=xs.length):RwsT (rs++[⟨A,n,c⟩]) (xss++[xs]) (T++T1):=λ F hF=>by
 have h2:=h F λ x hx=>hF x (List.mem_append_left _ hx)
 refine ⟨by simp [h2.len],λ k hk=>?_⟩
 rw [jI,jI,<- h2.len]
 by_cases hk1:k < rs.length
 ·rw [if_pos hk1,if_pos hk1];exact h2.row k hk1
 ·have:k=rs.length:=by simp at hk;omega
  rw [if_neg hk1,if_neg hk1,if_pos this,if_pos this]
  exact hs.rw (λ x hx=>hF x (List.mem_append_right _ hx)) h1 hn
def dW (pl:Int) (xs:List Int) (n:Nat):List (List Inp):=(List.range n).map λ t:Nat=>rowL pl xs (t:Int) pl.toNat
theorem yN (pl:Int) (xs:List Int) (n:Nat):dW pl xs (n+1)=dW pl xs n++[rowL pl xs (n:Int) pl.toNat]:=by simp [dW,List.range_succ]
theorem tf (pl:Int) (xs:List Int) (n:Nat):(dW pl xs n).length=n:=by simp [dW]
theorem fe {pl:Int} {xs:List Int} {n k:Nat} (h:k < n):(dW pl xs n).getD k []=rowL pl xs (k:Int) pl.toNat:=by simp [dW,h]
theorem Lp (S:Setup) (A:Option Addr) (n cap:Nat) (xs:List Int) (t:Int) (F:HL) (hl:ArgL F A n xs) (hn:n <= 9223372036854775807) (hp:0 <= S.players /\ S.players <= 1000000) (ht:0 <= t /\ t <= 1000000):Sp Tryz.prog 39 #[Setup.v S,.slice A n cap,vI t] (ap [] []) F (λ u H'=>∃ x:Option Addr × Nat × HL,H'=ap [] [x.2.2] /\ (u=.slice x.1 S.players.toNat x.2.1 /\ SlIs gC 151 (rowL S.players xs t S.players.toNat) x.1 x.2.1 x.2.2 /\ cQ x.1)):=HT S A n cap xs t F hl hn hp ht
theorem FH (S:Setup) (A:Option Addr) (n cap:Nat) (xs:List Int) (c:Int) (cnt:Nat) (F:HL) (hl:ArgL F A n xs) (hn:n <= 9223372036854775807) (hp:1 <= S.players /\ S.players <= 1000000) (hc:c=(cnt:Int)) (h20:cnt <= 20):Sp Tryz.prog 10 #[(Setup.v S),.slice A n cap,vI c] [] F (λ u H'=>∃ x:(Option Addr × Nat × List Rw) × HL × HL,H'=ap [] [x.2.1,x.2.2] /\ (u=.slice x.1.1 cnt x.1.2.1 /\ SlIs fh 56 x.1.2.2 x.1.1 x.1.2.1 x.2.1 /\ x.1.2.2.length=cnt /\ RwsT x.1.2.2 (dW S.players xs cnt) x.2.2)):=by
 refine Sp.run Tryz.func10 rfl mn (A:=[]) (Ts:=[]) rfl λ w0=>?_
 refine ae 18 [] λ n1=>RN.nt<|RN.nt<|RN.loop (σ:=Nat × Option Addr × Nat × List Rw × HL × HL) (λ ⟨t_,A_,c_,rs_,E_,T_⟩=>⟨[(1,.slice A n cap),(2,vI c),(3,vP (n1+0) 0),(7,.slice A_ t_ c_),(8,vI (t_:Int))],[((n1+0),.lit (Setup.l S) 31 (0,0))],[E_,T_],(t_:Int) <= c /\ t_ <= 20 /\ SlIs fh 56 rs_ A_ c_ E_ /\ rs_.length=t_ /\ RwsT rs_ (dW S.players xs t_) T_,20 - t_⟩) (0,none,0,[],[],[]) [0] [0,1] (⟨by omega,Nat.zero_le _,SlIs.nil _ _,rfl,RwsT.nil⟩) ?_
 rintro ⟨t_,A_,c_,rs_,E_,T_⟩ ⟨ht_,h20_,hs_,hrl_,hT_⟩ mt3
 refine ae 7 [] λ _=>RN.em ((t_:Int) < c) 12 (λ h4=>?_) λ h4=>?_
 ·refine ae 5 [] λ _=>RN.em ((t_:Int) < 20) 15 (λ h5=>?_) λ h5=>?_
  ·refine ae 10 (ow 0 16) λ _=>RN.ct (Hp:=[]) (Tp:=[]) [] [] (Lp S A n cap xs (t_:Int) _ hl.up hn (by omega) (by omega)) ?_
   rintro _ ⟨A6,c7,T8⟩ ⟨rfl,hs9,hz10⟩
   dsimp only at hs9 hz10
   refine ae 1 [] λ n11=>iu JQ rs_ [(⟨A6,S.players.toNat,c7⟩:Rw)] 1 0 hrl_.symm hs_ (by simp;omega) ?_
   rintro A12 c13 T14 ⟨hs15,hz16⟩
   refine al 9 [.nw] [br ((t_:Int)+1)] λ _=>oG [2,1,0]<|pP ?_
   refine mt3 (t_+1,A12,c13,rs_++[(⟨A6,S.players.toNat,c7⟩:Rw)],T14,T_++T8) [1] [1,0] ?_
   try dsimp only
   refine ⟨⟨by omega,by omega,hs15,by simp;omega,?_⟩,by omega⟩
   rw [yN]
   exact hT_.snoc hs9 (by rw [fl];omega) (fl _ _ _ _).symm
  ·(exfalso;omega)
 ·refine ae 17 [] λ _=>RN.ret [] [] [0,1] (v:=.slice A_ t_ c_) (H':=(ap [] [E_,T_])) ?_
  obtain rfl:t_=cnt:=by omega
  exact ⟨((A_,c_,rs_),E_,T_),rfl,rfl,hs_,hrl_,hT_⟩
theorem Ay (S:Setup) (A:Option Addr) (n cap:Nat) (xs:List Int) (c:Int) (cnt:Nat) (F:HL) (hl:ArgL F A n xs) (hn:n <= 9223372036854775807) (hp:1 <= S.players /\ S.players <= 1000000) (hc:c=(cnt:Int)) (h20:cnt <= 20):Sp Tryz.prog 10 #[Setup.v S,.slice A n cap,vI c] (ap [] []) F (λ u H'=>∃ x:(Option Addr × Nat × List Rw) × HL × HL,H'=ap [] [x.2.1,x.2.2] /\ (u=.slice x.1.1 cnt x.1.2.1 /\ SlIs fh 56 x.1.2.2 x.1.1 x.1.2.1 x.2.1 /\ x.1.2.2.length=cnt /\ RwsT x.1.2.2 (dW S.players xs cnt) x.2.2)):=FH S A n cap xs c cnt F hl hn hp hc h20
def gP (G:Nat -> Gm) (M:MemS):Nat -> MemS
 | 0=>M
 | k+1=>lJ (G k) (gP G M k)
def oS (G:Nat -> Gm) (M:MemS):Nat -> List Eff
 | 0=>[]
 | k+1=>oS G M k++rB (G k) (gP G M k)
theorem FI (g:Gm):∀ (f:Nat) (M:MemS),vE g f M <= f
 | 0,_=>Nat.le_refl _
 | f+1,M=>by
  rw [vE]
  split
  ·omega
  ·have:=FI g f (fO g M);omega
theorem uo (g:Gm) (M:MemS):(rB g M).length <= 1001:=by
 have h1:=sj g (vE g 1000 M+1) M
 have h2:=FI g 1000 M
 unfold rB
 omega
theorem uq (G:Nat -> Gm) (M:MemS):∀ k,(oS G M k).length <= 1001 * k
 | 0=>Nat.le_refl _
 | k+1=>by
  have h1:=uq G M k
  have h2:=uo (G k) (gP G M k)
  rw [oS,List.length_append]
  omega
abbrev fo (S:Setup) (j:Nat × Int) (xs:List Inp):Gm:=gh S j xs.length xs
abbrev rG (S:Setup) (J:Nat -> Nat × Int) (xss:List (List Inp)):Nat -> Gm:=λ k=>fo S (J k) (xss.getD k [])
structure TkOk (S:Setup) (j:Nat × Int) (xs:List Inp) (M:MemS):Prop where
 ex:∃ m,m <= 999 /\ dE (fo S j xs) (m+1) M
 now:0 <= M.get 0
 ok:cO S.players xs.length xs (M.get 0)=0
theorem JR {g:Gm} {M:MemS} {m:Nat} (hm:m <= 999) (h:dE g (m+1) M):fI g (m+1) M=lJ g M /\ dt g (m+1) M=rB g M:=by
 rw [lJ,rB,D7 m 1000 M h (by omega)]
 exact ⟨rfl,rfl⟩
theorem oh {M N:MemS} (h:M.cs=N.cs) (i:Int):M.get i=N.get i:=by unfold MemS.get;rw [h]
theorem mz (g:Gm) (l:List (Int × Int)) (b:Int):∀ (n:Nat) (M:MemS),dE g n (M.sh l b) ↔ dE g n M
 | 0,_=>Iff.rfl
 | n+1,M=>by rw [dE,dE,D6,fO,fO,tY,bz,mz g l b n];exact Iff.rfl
theorem yO {g:Gm} {M N:MemS} (h:M.cs=N.cs) (n:Nat) (hg:dE g n M):dE g n N:=by
 rw [<- mf M,mz] at hg
 rw [<- mf N,mz,<- h]
 exact hg
theorem TkOk.cs {S:Setup} {j:Nat × Int} {xs:List Inp} {M N:MemS} (e:M.cs=N.cs) (h:TkOk S j xs M):TkOk S j xs N:=by
 obtain ⟨m,h1,h2⟩:=h.ex
 exact ⟨⟨m,h1,yO e _ h2⟩,by rw [<- oh e];exact h.now,by rw [<- oh e];exact h.ok⟩
theorem nj (g:Gm) (M:MemS):(lJ g M).base=M.base:=by
 have h:=congrArg MemS.base (congrArg (lJ g) (mf M))
 rw [xV] at h
 exact h.symm
theorem Cs (mb cb n:Nat) (A:Option Addr) (m cap:Nat) (base:Int) (F:HL) (hm:(mb,.lit [vS cb 0 n n,.slice A m cap,vI base] 119 (0,0)) ∈ F) (hb:0 <= base /\ base <= 1000000000) (hl:m <= 100000000):Sp Tryz.prog 58 #[vP mb 0] [] F (λ u H'=>u=vI (base+(m:Int)) /\ H'=[]):=by
 have h:=wb mb cb n A m cap base F hm
 rwa [cT (by omega)] at h
theorem FJ {mb:Nat} {M:MemS} {k:Nat} {T F:HL} (h:MemH mb M k T) (hs:∀ x ∈ T,x ∈ F) (hb:0 <= M.base /\ M.base <= 1000000000):Sp Tryz.prog 58 #[vP mb 0] [] F (λ u H'=>u=vI (M.base+(M.lg.length:Int)) /\ H'=[]):=by
 have h1:=h.len2
 have h2:=wc h hs
 rwa [cT (by omega)] at h2
theorem NewS.sl0 {A':Option Addr} {cap':Nat} {Hl':HL} (h:NewS jO 207 ([]:List (Int × Int)) none A' cap' Hl'):SlIs jO 207 [] A' cap' Hl':=by
 rcases h with ⟨_,rfl,rfl,rfl⟩ | ⟨b,rfl,rfl,_⟩
 ·exact SlIs.nil _ _
 ·refine .inr ⟨b,0,List.replicate cap' jO.dflt,by simp,?_,by simp,Nat.zero_le _,rfl⟩
  have:=p9 (e:=jO) [] cap'
  rw [List.nil_append] at this
  rw [this,Nat.zero_add]
theorem Sp.tl {P:Program} {f:FuncId} {args:Array Value} {H F:HL} {R:Value -> HL -> Prop} (h:Sp P f args H F R):Sp P f args H F (λ u H'=>∃ x,H'=ap [] [x] /\ R u x):=h.mono λ u H' h=>⟨H',(cU H').symm,h⟩
theorem M5 {P:Program} {sz:Nat} {tx e':TypeId} {a:Addr} {m c':Nat} {w:World} (hm:m=0) (hk:P.underlying tx=some (.slice e')):Src P sz tx (.slice (some a) m c') 0 [] w:=by
 subst hm
 exact Src.ofSlice w hk a 0 c' [] (by simp) (λ j u h=>by simp at h) (λ u h=>by simp at h)
theorem mA (mb cb n:Nat) (A:Option Addr) (m cap:Nat) (base:Int) (F:HL) (hm:(mb,.lit [vS cb 0 n n,.slice A m cap,vI base] 119 (0,0)) ∈ F) (hb:0 <= base /\ base <= 1000000000) (hl:m <= 100000000):Sp Tryz.prog 98 #[vP mb 0,vI (base+(m:Int))] [] F (λ u H'=>u=vI 0 /\ H'=[]):=by
 refine Sp.run Tryz.func98 rfl (mc hm mn) (A:=[]) (Ts:=[]) rfl λ w0=>?_
 refine ae 18 [.ro 0] λ _=>RN.em (base+(m:Int) < base) 5 (λ h1=>?_) λ h1=>?_
 ·(exfalso;omega)
 ·refine ae 5 [] λ _=>aj (Cs mb cb n A m cap base _ (au hm) hb hl)<|ae 4 [] λ _=>RN.em (base+(m:Int) > base+(m:Int)) 12 (λ h2=>?_) λ h2=>?_
  ·(exfalso;omega)
  ·refine ae 9 [] λ _=>?_
   exact RN.ret [] [] [] ⟨rfl,rfl⟩
theorem FK (mb cb k:Nat) (M:MemS) (F:HL) (hb:0 <= M.base /\ M.base <= 1000000000) (hc:M.cs.length <= 1000000) (hk:k <= 100000000):Sp Tryz.prog 110 #[vP mb 0,vI (M.base+((0:Nat):Int))] [(mb,.lit [vS cb 0 M.cs.length M.cs.length,.slice none 0 0,vI M.base] 119 (0,0)),(cb,.rows 1 M.cs.length (aL M.cs) 3 (0,0))] F (λ u H'=>u=vI 0 /\ MemH mb ⟨M.cs,[],M.base+((0:Nat):Int)⟩ k H'):=by
 refine Sp.run Tryz.func110 rfl mn (A:=[(mb,.lit [vS cb 0 M.cs.length M.cs.length,.slice none 0 0,vI M.base] 119 (0,0)),(cb,.rows 1 M.cs.length (aL M.cs) 3 (0,0))]) (Ts:=[]) rfl λ w0=>?_
 refine ae 10 [] λ _=>aj (mA mb cb M.cs.length none 0 0 M.base _ (aB 0) hb (by omega))<|al 40 [.own 0,.nw,.own 0,.own 0] [br ((M.base+((0:Nat):Int)) - M.base)] λ _=>bn 28 (congrArg (λ v_=>(vI v_:Value)) (show (M.base+((0:Nat):Int)) - M.base=0 by omega))<|ae 18 [.own 0,.own 0] λ _=>RN.em (0 < (M.base+((0:Nat):Int)) - M.base) 38 (λ h1=>?_) λ h1=>?_
 ·(exfalso;omega)
 ·refine ae 8 [] λ _=>RN.ret [] [0,1] [] (v:=vI 0) (H':=(ap [(mb,.lit [vS cb 0 M.cs.length M.cs.length,.slice none 0 0,vI (M.base+((0:Nat):Int))] 119 (0,0)),(cb,.rows 1 M.cs.length (aL M.cs) 3 (0,0))] [])) ?_
  refine ⟨rfl,?_⟩
  have h_:=MemH.mk (mb:=mb) (M:=⟨M.cs,[],M.base+((0:Nat):Int)⟩) (k:=k) cb none 0 ([]) (SlIs.nil _ _) hc (by simp;omega)
  simpa [ap] using h_
theorem FM (mb cb k b o cap:Nat) (M:MemS) (full:List (Int × Int)) (F:HL) (hb:0 <= M.base /\ M.base <= 1000000000) (hc:M.cs.length <= 1000000) (hk:k <= 100000000) (hf:full.length=o+cap) (hn:M.lg.length=cap) (hl:M.lg.length <= 100000000):Sp Tryz.prog 110 #[vP mb 0,vI (M.base+(M.lg.length:Int))] [(mb,.lit [vS cb 0 M.cs.length M.cs.length,vS b (o * 2) M.lg.length cap,vI M.base] 119 (0,0)),(cb,.rows 1 M.cs.length (aL M.cs) 3 (0,0)),(b,.rows 2 (o+cap) (cu jO full) 207 (0,0))] F (λ u H'=>u=vI 0 /\ MemH mb ⟨M.cs,[],M.base+(M.lg.length:Int)⟩ k H'):=by
 refine Sp.run Tryz.func110 rfl mn (A:=[(mb,.lit [vS cb 0 M.cs.length M.cs.length,vS b (o * 2) M.lg.length cap,vI M.base] 119 (0,0)),(cb,.rows 1 M.cs.length (aL M.cs) 3 (0,0)),(b,.rows 2 (o+cap) (cu jO full) 207 (0,0))]) (Ts:=[]) rfl λ w0=>?_
 refine ae 10 [] λ _=>aj (mA mb cb M.cs.length (some ⟨b,o * 2,none⟩) M.lg.length cap M.base _ (aB 0) hb (by omega))<|al 40 [.own 0,.nw,.own 0,.own 0] [br ((M.base+(M.lg.length:Int)) - M.base)] λ _=>bn 28 (congrArg (λ v_=>(vI v_:Value)) (show (M.base+(M.lg.length:Int)) - M.base=(M.lg.length:Int) by omega))<|al 18 [.sl M.lg.length M.lg.length true,.own 0,.own 0] [(M.lg.length:Int)=((M.lg.length:Nat):Int) /\ M.lg.length=M.lg.length /\ M.lg.length <= M.lg.length /\ M.lg.length <= cap /\ cap=M.lg.length] λ _=>RN.em ((((M.lg.length - M.lg.length):Nat):Int) < (M.base+(M.lg.length:Int)) - M.base) 38 (λ h1=>?_) λ h1=>?_
 ·refine ae 7 [.own 0] λ _=>RN.nt<|iX (A:=none) (B:=(some ⟨b,o * 2,none⟩)) (c':=(cap - M.lg.length)) xA ([]:List (Int × Int)) 0 (λ a_ e_=>by cases e_) (m:=(M.lg.length - M.lg.length)) (tx:=117) (by simp) (by simp) (λ e_ he X w hR=>M5 (by simp) he) ?_
  rintro A2 c3 T4 hs5
  refine ae 10 [.own 0] λ _=>RN.ret [] [0,1] [0] (v:=vI 0) (H':=(ap [(mb,.lit [vS cb 0 M.cs.length M.cs.length,.slice A2 0 c3,vI (M.base+(M.lg.length:Int))] 119 (0,0)),(cb,.rows 1 M.cs.length (aL M.cs) 3 (0,0))] [T4])) ?_
  refine ⟨rfl,?_⟩
  have h_:=MemH.mk (mb:=mb) (M:=⟨M.cs,[],M.base+(M.lg.length:Int)⟩) (k:=k) cb A2 c3 T4 hs5.sl0 hc (by simp;omega)
  exact h_
 ·refine ae 8 [] λ _=>RN.ret [] [0,1,2] [] (v:=vI 0) (H':=(ap [(mb,.lit [vS cb 0 M.cs.length M.cs.length,vS b (o * 2) (M.lg.length - M.lg.length) (cap - M.lg.length),vI (M.base+(M.lg.length:Int))] 119 (0,0)),(cb,.rows 1 M.cs.length (aL M.cs) 3 (0,0)),(b,.rows 2 (o+cap) (cu jO full) 207 (0,0))] [])) ?_
  refine ⟨rfl,?_⟩
  rw [Nat.sub_self]
  have h_:=MemH.mk (mb:=mb) (M:=⟨M.cs,[],M.base+(M.lg.length:Int)⟩) (k:=k) cb (some ⟨b,o * 2,none⟩) (cap - M.lg.length) ([(b,.rows 2 (o+cap) (cu jO full) 207 (0,0))]) (.inr ⟨b,o,full,rfl,by rw [show o+(cap - M.lg.length)=o+cap by omega];rfl,by omega,Nat.zero_le _,rfl⟩) hc (by simp;omega)
  simpa [ap] using h_
theorem FN (mb cb k b o cap:Nat) (M:MemS) (full:List (Int × Int)) (F:HL) (hb:0 <= M.base /\ M.base <= 1000000000) (hc:M.cs.length <= 1000000) (hk:k <= 100000000) (hf:full.length=o+cap) (hn:M.lg.length < cap) (hl:M.lg.length <= 100000000):Sp Tryz.prog 110 #[vP mb 0,vI (M.base+(M.lg.length:Int))] [(mb,.lit [vS cb 0 M.cs.length M.cs.length,vS b (o * 2) M.lg.length cap,vI M.base] 119 (0,0)),(cb,.rows 1 M.cs.length (aL M.cs) 3 (0,0)),(b,.rows 2 (o+cap) (cu jO full) 207 (0,0))] F (λ u H'=>u=vI 0 /\ MemH mb ⟨M.cs,[],M.base+(M.lg.length:Int)⟩ k H'):=by
 refine Sp.run Tryz.func110 rfl mn (A:=[(mb,.lit [vS cb 0 M.cs.length M.cs.length,vS b (o * 2) M.lg.length cap,vI M.base] 119 (0,0)),(cb,.rows 1 M.cs.length (aL M.cs) 3 (0,0)),(b,.rows 2 (o+cap) (cu jO full) 207 (0,0))]) (Ts:=[]) rfl λ w0=>?_
 refine ae 10 [] λ _=>aj (mA mb cb M.cs.length (some ⟨b,o * 2,none⟩) M.lg.length cap M.base _ (aB 0) hb (by omega))<|al 40 [.own 0,.nw,.own 0,.own 0] [br ((M.base+(M.lg.length:Int)) - M.base)] λ _=>bn 28 (congrArg (λ v_=>(vI v_:Value)) (show (M.base+(M.lg.length:Int)) - M.base=(M.lg.length:Int) by omega))<|al 18 [.sl M.lg.length M.lg.length false,.own 0,.own 0] [(M.lg.length:Int)=((M.lg.length:Nat):Int) /\ M.lg.length=M.lg.length /\ M.lg.length <= M.lg.length /\ M.lg.length <= cap /\ cap ≠ M.lg.length] λ _=>RN.em ((((M.lg.length - M.lg.length):Nat):Int) < (M.base+(M.lg.length:Int)) - M.base) 38 (λ h1=>?_) λ h1=>?_
 ·refine ae 7 [.own 0] λ _=>RN.nt<|iX (A:=none) (B:=(some ⟨b,(o * 2+M.lg.length * 2),none⟩)) (c':=(cap - M.lg.length)) xA ([]:List (Int × Int)) 0 (λ a_ e_=>by cases e_) (m:=(M.lg.length - M.lg.length)) (tx:=117) (by simp) (by simp) (λ e_ he X w hR=>M5 (by simp) he) ?_
  rintro A2 c3 T4 hs5
  refine ae 10 [.own 0] λ _=>RN.ret [] [0,1] [0] (v:=vI 0) (H':=(ap [(mb,.lit [vS cb 0 M.cs.length M.cs.length,.slice A2 0 c3,vI (M.base+(M.lg.length:Int))] 119 (0,0)),(cb,.rows 1 M.cs.length (aL M.cs) 3 (0,0))] [T4])) ?_
  refine ⟨rfl,?_⟩
  have h_:=MemH.mk (mb:=mb) (M:=⟨M.cs,[],M.base+(M.lg.length:Int)⟩) (k:=k) cb A2 c3 T4 hs5.sl0 hc (by simp;omega)
  exact h_
 ·refine ae 8 [] λ _=>RN.ret [] [0,1,2] [] (v:=vI 0) (H':=(ap [(mb,.lit [vS cb 0 M.cs.length M.cs.length,vS b (o * 2+M.lg.length * 2) (M.lg.length - M.lg.length) (cap - M.lg.length),vI (M.base+(M.lg.length:Int))] 119 (0,0)),(cb,.rows 1 M.cs.length (aL M.cs) 3 (0,0)),(b,.rows 2 (o+cap) (cu jO full) 207 (0,0))] [])) ?_
  refine ⟨rfl,?_⟩
  rw [Nat.sub_self]
  have h_:=MemH.mk (mb:=mb) (M:=⟨M.cs,[],M.base+(M.lg.length:Int)⟩) (k:=k) cb (some ⟨b,o * 2+M.lg.length * 2,none⟩) (cap - M.lg.length) ([(b,.rows 2 (o+cap) (cu jO full) 207 (0,0))]) (.inr ⟨b,o+M.lg.length,full,by rw [Nat.add_mul];rfl,by rw [show o+M.lg.length+(cap - M.lg.length)=o+cap by omega];rfl,by omega,Nat.zero_le _,rfl⟩) hc (by simp;omega)
  simpa [ap] using h_
theorem w9 {mb:Nat} {M:MemS} {k k2:Nat} {T:HL} (F:HL) (h:MemH mb M k T) (hb:0 <= M.base /\ M.base <= 1000000000) (hk:k2 <= 100000000):Sp Tryz.prog 110 #[vP mb 0,vI (M.base+(M.lg.length:Int))] (ap [] [T]) F (λ u H'=>∃ x,H'=ap [] [x] /\ (u=vI 0 /\ MemH mb ⟨M.cs,[],M.base+(M.lg.length:Int)⟩ k2 x)):=by
 rw [cU]
 cases h with
 | mk cb A cap Hl hs hc hl =>
  rcases hs with ⟨rfl,rfl,h1,rfl⟩ | ⟨b,o,full,rfl,rfl,h1,h2,h3⟩
  ·have e:M.lg.length=0:=by rw [h1];rfl
   rw [e]
   have key:=FK mb cb k2 M F hb hc hk
   exact key.tl
  ·rcases Nat.lt_or_ge M.lg.length cap with h4 | h4
   ·have key:=FN mb cb k2 b o cap M full F hb hc hk h1 h4 (by omega)
    exact key.tl
   ·have key:=FM mb cb k2 b o cap M full F hb hc hk h1 (by omega) (by omega)
    exact key.tl
theorem GameH.op {rs:List Bx} {ds:List Dr} {bp gb:Nat} {S:Setup} {M:MemS} {k:Nat} {G:HL} (h:GameH rs ds bp gb S M k G):∃ mb T U,MemH mb M k T /\ m0 S rs ds U /\ G=ap [(gb,.lit (ez S bp mb) 115 (0,0))] [T,U]:=by
 cases h with
 | mk mb T U hM hU=>exact ⟨mb,T,U,hM,hU,rfl⟩
theorem tg {rs:List Bx} {ds:List Dr} {S:Setup} {bp gb mb b o N c k:Nat} {j:Nat × Int} {full xs:List Inp} {M:MemS} {T U F:HL} (now:Int) (hM:MemH mb M (k+20000) T) (hU:m0 S rs ds U) (hnow:M.get 0=now) (hj:j.1 < 5) (hA:AtOk F bp (M.get 0) j) (hE:ck F) (hI:(b,.rows 3 N (j9 full) 151 (0,0)) ∈ F) (hir:o+xs.length <= N) (hni:xs.length <= 1000000) (hx:∀ k,k < xs.length -> full.getD (o+k) dI=xs.getD k dI) (hk:TkOk S j xs M \/ ¬ cO S.players xs.length xs now=0) :
  Sp Tryz.prog 19 #[vP gb 0,vS b (o * 3) xs.length c] (ap [(gb,.lit (ez S bp mb) 115 (0,0))] [T,U]) F (λ u H'=>∃ x:(Option Addr × Nat × Nat) × HL × HL,H'=ap [(gb,.lit (ez S bp mb) 115 (0,0))] [x.2.1,U,x.2.2] /\
   ((TkOk S j xs M /\ MemH mb (lJ (fo S j xs) M) k x.2.1 /\ SlIs oY 53 (rB (fo S j xs) M) x.1.1 x.1.2.1 x.2.2 /\ u=.tuple #[.slice x.1.1 (rB (fo S j xs) M).length x.1.2.1,vI ((x.1.2.2+1:Nat):Int),vI 0]) \/
    (¬ cO S.players xs.length xs now=0 /\ MemH mb M k x.2.1 /\ u=.tuple #[.slice none 0 0,vI 0,vI (cO S.players xs.length xs now)]))):=by
 subst hnow
 have hl:RowL gC 151 F (some ⟨b,o * 3,none⟩) xs.length xs:=.rows b o N full (0,0) _ xs hI hir rfl hx
 rcases hk with hk | hk
 ·obtain ⟨m,hm,hg⟩:=hk.ex
  obtain ⟨e1,e2⟩:=JR hm hg
  refine (FG S rs ds bp gb mb b o N xs.length c m k j full xs M T U F hj hA hU hE hI hir hni (by omega) rfl hx (hM.weak (by omega)) hk.now hg hk.ok).mono λ u H' h=>?_
  obtain ⟨⟨T1,A,cc,E⟩,rfl,h1,h2,h3⟩:=h
  dsimp only at h1 h2 h3
  rw [e1] at h1
  rw [e2] at h2 h3
  exact ⟨((A,cc,m),T1,E),rfl,.inl ⟨hk,h1,h2,h3⟩⟩
 ·refine (td _ S bp gb mb xs.length c (k+20000) (some ⟨b,o * 3,none⟩) xs M T U F hl hni hM rfl hk).mono λ u H' h=>?_
  obtain ⟨rfl,rfl⟩:=h
  exact ⟨((none,0,0),T,[]),by simp [ap],.inr ⟨hk,hM.weak (by omega),rfl⟩⟩
def M6 (S:Setup) (J:Nat -> Nat × Int) (n:Nat) (xss:List (List Inp)) (u:Value) (x:(Setup × Nat × Option Addr × Nat) × HL × HL):Prop :=
 SetEq S x.1.1 /\ (((∀ i,i < n -> TkOk x.1.1 (J i) (xss.getD i []) (gP (rG x.1.1 J xss) ⟨aK S S.nb,[],0⟩ i)) /\ x.2.1=[(x.1.2.1,.rows 1 (gP (rG x.1.1 J xss) ⟨aK S S.nb,[],0⟩ n).cs.length (aL (gP (rG x.1.1 J xss) ⟨aK S S.nb,[],0⟩ n).cs) 3 (0,0))] /\
   SlIs oY 53 (oS (rG x.1.1 J xss) ⟨aK S S.nb,[],0⟩ n) x.1.2.2.1 x.1.2.2.2 x.2.2 /\ u=.tuple #[vS x.1.2.1 0 (gP (rG x.1.1 J xss) ⟨aK S S.nb,[],0⟩ n).cs.length (gP (rG x.1.1 J xss) ⟨aK S S.nb,[],0⟩ n).cs.length,.slice x.1.2.2.1 (oS (rG x.1.1 J xss) ⟨aK S S.nb,[],0⟩ n).length x.1.2.2.2,vI 0]) \/
  (∃ i,i < n /\ (∀ k,k < i -> TkOk x.1.1 (J k) (xss.getD k []) (gP (rG x.1.1 J xss) ⟨aK S S.nb,[],0⟩ k)) /\ ¬ cO x.1.1.players (xss.getD i []).length (xss.getD i []) ((gP (rG x.1.1 J xss) ⟨aK S S.nb,[],0⟩ i).get 0)=0 /\
   u=.tuple #[.slice none 0 0,.slice none 0 0,vI (cO x.1.1.players (xss.getD i []).length (xss.getD i []) ((gP (rG x.1.1 J xss) ⟨aK S S.nb,[],0⟩ i).get 0))]))
theorem IO (S:Setup) (rs_:List Bx) (ds_:List Dr) (bp n cap:Nat) (J:Nat -> Nat × Int) (A:Option Addr) (rs:List Rw) (xss:List (List Inp)) (F:HL) (hS:SetIn F S) (hM:MapIn F S rs_ ds_) (h1:1 <= S.nb) (hrn:S.rn <= 1000000) (hdn:S.dn <= 1000000) (hsz:(sizeOf S).toNat <= 1000000) (hv:fJ S rs_ ds_=0) (hE:ck F) (hr:RowL fh 56 F A n rs) (hw:RwsIn F rs xss) (hxl:∀ k,k < n -> (xss.getD k []).length <= 1000000) (hn:n <= 50) (h9:n <= 900) (hP:∀ S2,SetEq S S2 -> ∀ i,i < n -> (∀ k,k < i -> TkOk S2 (J k) (xss.getD k []) (gP (rG S2 J xss) ⟨aK S S.nb,[],0⟩ k)) -> (TkOk S2 (J i) (xss.getD i []) (gP (rG S2 J xss) ⟨aK S S.nb,[],0⟩ i) \/ ¬ cO S2.players (xss.getD i []).length (xss.getD i []) ((gP (rG S2 J xss) ⟨aK S S.nb,[],0⟩ i).get 0)=0) /\ (J i).1 < 5 /\ AtOk F bp ((gP (rG S2 J xss) ⟨aK S S.nb,[],0⟩ i).get 0) (J i)):Sp Tryz.prog 66 #[(Setup.v S),vP bp 0,.slice A n cap] [] F (λ u H'=>∃ x:(Setup × Nat × Option Addr × Nat) × HL × HL,H'=ap [] [x.2.1,x.2.2] /\ M6 S J n xss u x):=by
 refine Sp.run Tryz.func66 rfl mn (A:=[]) (Ts:=[]) rfl λ w0=>?_
 refine ae 12 (ow 0 16) λ n1=>RN.ct (Hp:=[]) (Tp:=[]) [] [] (vZ S rs_ ds_ bp _ hS.up.cl hM.up h1 hrn hdn hsz hv 99020000 (by decide)) ?_
 rintro _ ⟨g2,S3,T4⟩ ⟨rfl,he5,hG6⟩
 dsimp only at he5 hG6
 obtain ⟨mb,Tm,U,hMm,hU,eG⟩:=hG6.op
 refine Dg 0 [(g2,.lit (ez S3 bp mb) 115 (0,0))] [Tm,U] eG<|ae 31 [] λ _=>RN.nt<|RN.loop (σ:=Nat × Option Addr × Nat × MemS × HL × HL) (λ ⟨i_,A_,c_,N_,T_,E_⟩=>⟨[(9,vP g2 0),(11,.slice A_ ((oS (rG S3 J xss) ⟨aK S S.nb,[],0⟩ i_).length) c_),(26,.slice A n cap),(27,vI (n:Int)),(28,vI (i_:Int))],[(g2,.lit (ez S3 bp mb) 115 (0,0)),((n1+0),.lit (Setup.l S) 31 (0,0))],[T_,E_,U],i_ <= n /\ N_.cs=(gP (rG S3 J xss) ⟨aK S S.nb,[],0⟩ i_).cs /\ MemH mb N_ 99020000 T_ /\ (0 <= N_.base /\ N_.base <= 1000000 * (i_:Int)) /\ SlIs oY 53 (oS (rG S3 J xss) ⟨aK S S.nb,[],0⟩ i_) A_ c_ E_ /\ (∀ k,k < i_ -> TkOk S3 (J k) (xss.getD k []) (gP (rG S3 J xss) ⟨aK S S.nb,[],0⟩ k)),n - i_⟩) (0,none,0,⟨aK S S.nb,[],0⟩,Tm,[]) [0,1] [1,0,2] (⟨Nat.zero_le _,rfl,hMm,⟨Int.le_refl 0,by show (0:Int) <= _;omega⟩,SlIs.nil _ _,λ k hk=>absurd hk (Nat.not_lt_zero _)⟩) ?_
 rintro ⟨i_,A_,c_,N_,T_,E_⟩ ⟨hi_,hcs_,hT_,hbs0_,hs_,hok_⟩ mt8
 refine ae 6 [] λ _=>RN.em ((i_:Int) < (n:Int)) 29 (λ h9=>?_) λ h9=>?_
 ·refine ae 7 [] λ _=>?_
  obtain ⟨qx10,ox10,Nx10,fx10,fzx10,hAx10,hqx10,hox10,hgx10⟩:=hr.at (k:=i_) (by omega)
  refine bn 26 (congrArg (λ v_=>(.slice v_ n cap:Value)) hAx10)<|RN.ro (λ _=>(mc hqx10 mn))<|al 2 [.ix i_,.rorow 0 (ox10+i_) 0] [(ox10 * 1+i_ * 1)=(ox10+i_) * 1+0 /\ (ox10+i_) < Nx10,(i_:Int)=((i_:Nat):Int) /\ i_ < n] λ _=>bn 31 (congrArg (λ v_=>(.slice v_.A v_.n v_.c:Value)) hgx10) ?_
  obtain ⟨bw11,ow11,Nw11,fw11,cw11,ew11,hIw11,hiw11,hxw11,hcw11⟩:=hw.get (k:=i_) (by rw [hr.len];omega)
  refine bn 31 (congrArg (λ v_:Rw=>Value.slice v_.A v_.n v_.c) ew11)<|ae 7 [] λ _=>?_
  have hPi_:=hP S3 he5 i_ (by omega) hok_
  refine RN.ct [0] [0,2] (tg (gb:=g2) (mb:=mb) (c:=cw11) (k:=99000000) (rs:=rs_) (ds:=ds_) (S:=S3) ((gP (rG S3 J xss) ⟨aK S S.nb,[],0⟩ i_).get 0) (hT_.weak (by decide)) hU (oh hcs_ 0) hPi_.2.1 ((show AtOk F bp (N_.get 0) (J i_) by rw [oh hcs_];exact hPi_.2.2).mono λ x hx=>au hx) (au hE) (au hIw11) hiw11 (by have:=hxl i_ (by omega);omega) hxw11 (hPi_.1.imp (λ h_=>h_.cs hcs_.symm) id)) ?_
  rintro _ ⟨⟨A12,c13,n14⟩,T15,E16⟩ (⟨hk17,hM18,hs19,rfl⟩ | ⟨hk17,hM18,rfl⟩)
  ·dsimp only at hM18 hs19
   refine ae 23 [] λ _=>RN.appU (c':=c13) (tx:=57) pY (oS (rG S3 J xss) ⟨aK S S.nb,[],0⟩ i_) (rB (fo S3 (J i_) (xss.getD i_ [])) N_) 3 rfl hs_ (by have h1_:=uq (rG S3 J xss) ⟨aK S S.nb,[],0⟩ i_;have h2_:=uo (fo S3 (J i_) (xss.getD i_ [])) N_;omega) (hs19.src pY (by decide) (aA 2)) ?_
   rintro A20 c21 T22 ⟨hs23,hz24⟩
   refine ae 3 [] λ _=>RN.draw [9] []<|ag [] [0,4,1,5,2,6,3,7] [.own 0,.own 0] ?_
   have hbs_:0 <= (lJ (fo S3 (J i_) (xss.getD i_ [])) N_).base /\ (lJ (fo S3 (J i_) (xss.getD i_ [])) N_).base <= 1000000000:=by rw [nj];omega
   refine ar [] 8 (λ X_=>(FJ hM18 (aR 1) hbs_))<|RD.one 9 (RDO.ct [] [] [1] (w9 (k2:=99020000) _ hM18 hbs_ (by decide)) ?_)
   rintro _ T25 ⟨rfl,hM26⟩
   refine RD.fin<|al 6 [.nw] [br ((i_:Int)+1)] λ _=>bn 26 (congrArg (λ v_=>(.slice v_ n cap:Value)) hAx10.symm)<|bn 11 (congrArg (λ v_=>(.slice A20 v_ c21:Value)) (show (oS (rG S3 J xss) ⟨aK S S.nb,[],0⟩ i_).length+(rB (fo S3 (J i_) (xss.getD i_ [])) N_).length=(oS (rG S3 J xss) ⟨aK S S.nb,[],0⟩ (i_+1)).length by rw [oS,List.length_append,tZ _ hcs_])) ?_
   refine mt8 (i_+1,A20,c21,⟨(lJ (fo S3 (J i_) (xss.getD i_ [])) N_).cs,[],(lJ (fo S3 (J i_) (xss.getD i_ [])) N_).base+((lJ (fo S3 (J i_) (xss.getD i_ [])) N_).lg.length:Int)⟩,T25,T22) [0,1] [0,1,2] ?_
   try dsimp only
   have hl2_:=hM18.len2
   refine ⟨⟨by omega,?_,hM26,⟨?_,?_⟩,?_,?_⟩,by omega⟩
   ·show (lJ (fo S3 (J i_) (xss.getD i_ [])) N_).cs=_;rw [gP];exact D9 _ hcs_
   ·show 0 <= (lJ (fo S3 (J i_) (xss.getD i_ [])) N_).base+_;omega
   ·show (lJ (fo S3 (J i_) (xss.getD i_ [])) N_).base+_ <= _;have hb2_:=nj (fo S3 (J i_) (xss.getD i_ [])) N_;omega
   ·rw [oS,<- tZ _ hcs_];exact hs23
   ·intro k_ hk_;rcases Nat.lt_or_ge k_ i_ with h_ | h_
    ·exact hok_ k_ h_
    ·obtain rfl:k_=i_:=by omega
     exact hk17.cs hcs_
  ·dsimp only at hM18
   refine ae 16 [] λ _=>cV 40 (nf (decide_eq_false hk17))<|ae 9 [] λ _=>RN.ret [] [] [] (v:=.tuple #[.slice none 0 0,.slice none 0 0,vI (cO S3.players (xss.getD i_ []).length (xss.getD i_ []) ((gP (rG S3 J xss) ⟨aK S S.nb,[],0⟩ i_).get 0))]) (H':=(ap [] [])) ?_
   exact ⟨((S3,0,none,0),[],[]),by simp [ap],he5,.inr ⟨i_,by omega,hok_,hk17,rfl⟩⟩
 ·refine ae 12 [.own 0] λ _=>RN.ct (Hp:=[]) (Tp:=[]) [] [] (wa mb N_ 99020000 T_ _ hT_ (aA 0)) ?_
  rintro _ q27 rfl
  refine ae 6 [] λ _=>RN.ret [] [0] [1] (v:=.tuple #[vS q27 0 N_.cs.length N_.cs.length,.slice A_ ((oS (rG S3 J xss) ⟨aK S S.nb,[],0⟩ i_).length) c_,vI 0]) (H':=(ap [(q27,.rows 1 N_.cs.length (aL N_.cs) 3 (0,0))] [E_])) ?_
  obtain rfl:i_=n:=by omega
  refine ⟨((S3,q27,A_,c_),[(q27,.rows 1 N_.cs.length (aL N_.cs) 3 (0,0))],E_),by simp [ap],he5,.inl ⟨hok_,?_,hs_,?_⟩⟩
  ·rw [<- hcs_]
  ·rw [<- hcs_]
theorem IP (S:Setup) (rs_:List Bx) (ds_:List Dr) (bp n cap:Nat) (J:Nat -> Nat × Int) (A:Option Addr) (rs:List Rw) (xss:List (List Inp)) (F:HL) (hS:SetIn F S) (hM:MapIn F S rs_ ds_) (h1:1 <= S.nb) (hrn:S.rn <= 1000000) (hdn:S.dn <= 1000000) (hsz:(sizeOf S).toNat <= 1000000) (hv:fJ S rs_ ds_=0) (hE:ck F) (hr:RowL fh 56 F A n rs) (hw:RwsIn F rs xss) (hxl:∀ k,k < n -> (xss.getD k []).length <= 1000000) (hn:n <= 50) (h9:n <= 900) (hP:∀ S2,SetEq S S2 -> ∀ i,i < n -> (∀ k,k < i -> TkOk S2 (J k) (xss.getD k []) (gP (rG S2 J xss) ⟨aK S S.nb,[],0⟩ k)) -> (TkOk S2 (J i) (xss.getD i []) (gP (rG S2 J xss) ⟨aK S S.nb,[],0⟩ i) \/ ¬ cO S2.players (xss.getD i []).length (xss.getD i []) ((gP (rG S2 J xss) ⟨aK S S.nb,[],0⟩ i).get 0)=0) /\ (J i).1 < 5 /\ AtOk F bp ((gP (rG S2 J xss) ⟨aK S S.nb,[],0⟩ i).get 0) (J i)):Sp Tryz.prog 66 #[Setup.v S,vP bp 0,.slice A n cap] (ap [] []) F (λ u H'=>∃ x:(Setup × Nat × Option Addr × Nat) × HL × HL,H'=ap [] [x.2.1,x.2.2] /\ M6 S J n xss u x):=IO S rs_ ds_ bp n cap J A rs xss F hS hM h1 hrn hdn hsz hv hE hr hw hxl hn h9 hP
end Go.Proofs.YtghjbimijeinfaaGreatDoor
