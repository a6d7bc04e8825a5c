import Derived.Test.YtcfajdgeejeieaaGreatDoorY38
import Derived.Test.YtcfajdgeejeieaaGreatDoorY23
import Derived.Test.YtcfajdgeejeieaaGreatDoorY39
set_option maxHeartbeats 4000000
set_option maxRecDepth 100000
set_option linter.unusedSimpArgs false
set_option linter.unusedVariables false
namespace Go.Proofs.YtcfajdgeejeieaaGreatDoor
open Go.RowKit Go.Shelf
section
variable {α:Type} {e:Enc α} {P:Program} {T:TypeId} {inf:TypeInfo} {z:Value} {l:List α} {A:Option Addr} {cap:Nat} {Hl F:HL}
theorem SlIs.toRowL (h:SlIs e T l A cap Hl) (hF:∀ x ∈ Hl,x ∈ F):RowL e T F A l.length l:=by
 rcases h with ⟨rfl,rfl,rfl,rfl⟩ | ⟨b,o,full,rfl,rfl,h1,h2,h3⟩
 ·exact .zero _
 ·refine .rows b o (o+cap) full (0,0) _ l (hF _ (List.mem_singleton.2 rfl)) (by omega) rfl (λ k hk=>?_)
  have h4:((full.drop o).take l.length)[k]?=l[k]?:=by rw [h3]
  rw [List.getElem?_take,if_pos hk,List.getElem?_drop] at h4
  rw [List.getD_eq_getElem?_getD,List.getD_eq_getElem?_getD,h4]
theorem SlIs.src (ok:EncOk e P T inf z) (hw:0 < e.w) (h:SlIs e T l A cap Hl) (hF:∀ x ∈ Hl,x ∈ F):SrcIn P e F A l.length l:=RowL.src ok hw (h.toRowL hF)
theorem SlIs.one {x:α} {b:Nat}:SlIs e T [x] (some ⟨b,0,none⟩) 1 [(b,.rows e.w 1 (bS e [x]) T (0,0))]:=.inr ⟨b,0,[x],by simp,by simp,rfl,Nat.le_refl _,rfl⟩
end
section
variable {r:Option Nat} {P:Program} {N:Nat} {D:List Deferred} {F:HL} {w0:World} {R:HL} {s:Cfg} {Q:Exit -> Act -> World -> Prop} {hards:List Nat} {Rd:HL}
def btC (i:Nat) (s:Cfg):Cfg:=match s with
 | ⟨c,k,L,A,Ts⟩=>⟨c,k,L,(oth [i] A.length).filterMap (A[·]?),[i].filterMap (A[·]?) :: Ts⟩
theorem Ac {A:HL} {Ts:List HL} {i:Nat} (h:([i]++oth [i] A.length).isPerm (List.range A.length)=true):(ap ((oth [i] A.length).filterMap (A[·]?)) ([i].filterMap (A[·]?) :: Ts)).Perm (ap A Ts):=by
 have hp:=eR A [i] (oth [i] A.length) h
 show ((oth [i] A.length).filterMap (A[·]?)++([i].filterMap (A[·]?) :: Ts).flatten).Perm (A++Ts.flatten)
 rw [List.flatten_cons,<- List.append_assoc]
 exact (List.perm_append_comm.trans hp).append_right _
theorem Ad (i:Nat) (hk:RN r P N D F w0 R (btC i s) Q) (h:([i]++oth [i] s.A.length).isPerm (List.range s.A.length)=true:=by kernel_rfl):RN r P N D F w0 R s Q:=by
 obtain ⟨c,k,L,A,Ts⟩:=s
 exact ⟨λ hR a w h1 h2 h3=>hk.h hR a w h1 (h2.perm ((Ac h).append_right F)) h3⟩
theorem Mr (i:Nat) (hk:RD r P N D F w0 R hards Rd (btC i s) Q) (h:([i]++oth [i] s.A.length).isPerm (List.range s.A.length)=true:=by kernel_rfl):RD r P N D F w0 R hards Rd s Q:=by
 obtain ⟨c,k,L,A,Ts⟩:=s
 refine ⟨λ hR hs=>?_⟩
 have h1:=hk.h hR hs
 intro hcl a hF
 exact JJ.perm _ _ _ _ _ (Ac h) (h1 hcl a hF)
theorem m9 (t:Nat) {u v:Value} (e:u=v) (hk:RD r P N D F w0 R hards Rd (svC t v s) Q) (h:s.L.lookup t=some u:=by kernel_rfl):RD r P N D F w0 R hards Rd s Q:=by
 subst e
 exact ⟨λ hR hs hcl a hF=>hk.h hR hs hcl a (hF.fix h)⟩
variable {α:Type} {e:Enc α} {T:TypeId} {inf:TypeInfo} {z:Value}
theorem RN.appU (ok:EncOk e P T inf z) (l src:List α) (j:Nat) {A:Option Addr} {n cap:Nat} {Hl:HL} {B:Option Addr} {m c':Nat} {tx:TypeId} (hn:n=l.length) (hsl:SlIs e T l A cap Hl) (hb:l.length+src.length <= 100000000)
  (hs:SrcIn P e (ap s.A s.Ts++F) B m src)
  (hk:∀ (A':Option Addr) (cap':Nat) (Hl':HL),(SlIs e T (l++src) A' cap' Hl' /\ (cE A -> cE A')) -> RN r P N D F w0 R (Lm j Hl' (fI N (.slice A' (n+src.length) cap') s)) Q)
  (h:zq P N j (rd s) s=some (A,n,cap,T,B,m,c',tx,Hl):=by kernel_rfl):RN r P N D F w0 R s Q:=by
 obtain ⟨o,a1,a2,t,e',q0,q1,q2,q3,q4,q5,q6,q7,q9,q10,q11⟩:=pO h
 refine ⟨λ hR a w hF hRel hB=>?_⟩
 obtain ⟨c,k,L,Bs,Ts⟩:=s
 unfold rd at q0
 cases c with
 | code c=>cases q0
 | ex c=>cases q0
 | drw _ _=>cases q0
 | ops ops i =>
  simp only at q0 q3 q4 q5 q9 q10 q11 hF hRel
  have hdrop:ops.toList.drop i=o :: ops.toList.drop (i+1):=by
   have hlt:i < ops.toList.length:=(List.getElem?_eq_some_iff.1 q0).1
   rw [List.drop_eq_getElem_cons hlt,(List.getElem?_eq_some_iff.1 q0).2]
  show wpListIn _ _ _ _ _ _ _ _
  rw [hdrop,wpListIn,if_pos (by simp [Region.wanted,q1])]
  refine ⟨λ _ _=>trivial,?_⟩
  have hperm:=jk (A:=Bs) q9 q10
  refine gX (by rw [q2];intro c hc;cases hc) (nl (x:=.slice B m c') (src:=src) (G:=Bs++((oth [j] Ts.length).filterMap (Ts[·]?)).flatten) ok q2 q6 q3 q4 hn q5 hperm hsl (λ w hw=>by have h5:=hs.2 c' q7 [] w hw;rwa [<- ok.size] at h5) hb a hF w hRel) ?_
  rintro u w' ⟨⟨A',cap',Hl'⟩,⟨rfl,hsl'⟩,hR',hB'⟩
  obtain ⟨L',p1⟩:=eS q11 (.slice A' (n+src.length) cap')
  have hh:=(hk A' cap' Hl' hsl').h hR
  have hpc:fI N (.slice A' (n+src.length) cap') ⟨.ops ops i,k,L,Bs,Ts⟩=⟨.ops ops (i+1),k,L',Bs,Ts⟩:=by
   unfold fI
   simp only [q0,p1]
  rw [hpc] at hh
  refine hh _ w' (hF.put p1) (hR'.perm (List.Perm.append_right F ?_)) (hB.trans hB')
  show (Bs++(Hl' :: (oth [j] Ts.length).filterMap (Ts[·]?)).flatten).Perm _
  rw [List.flatten_cons,<- List.append_assoc,<- List.append_assoc]
  exact List.Perm.append_right _ List.perm_append_comm
end
structure Rw where (A:Option Addr) (n c:Nat)
def mj:Enc Rw:=⟨1,λ p k=>match k with | 0=>.slice p.A p.n p.c | _=>default,⟨none,0,0⟩⟩
noncomputable def Ms:TypeInfo:=match Tryz.prog.info? 44 with | some i=>i | none=>⟨.bool,"",0,0,false,0,0,none,false,#[]⟩
noncomputable def Mt:Value:=match Ms.zero with | some z=>z | none=>.bool false
theorem FD:EncOk mj Tryz.prog 44 Ms Mt where
 info:=by kernel_rfl
 zero:=by kernel_rfl
 size:=by kernel_rfl
 zsize:=by kernel_rfl
 zcell:=λ k hk=>by
  have h:∀ k < 1,Mt.cells[k]?=some (mj.cell mj.dflt k):=by intro k hk;(iterate 1 (rcases k with _ | k;· kernel_rfl));omega
  exact h k hk
 one:=λ x k=>by unfold mj;dsimp only;split <;> rfl
 bytes:=Nat.le_of_ble_eq_true (by kernel_rfl)
inductive RwIn (F:HL) (xs:List Inp):Rw -> Prop
 | mk (b o N:Nat) (full:List Inp) (c:Nat) (hI:(b,.rows 3 N (jl full) 122 (0,0)) ∈ F) (hir:o+xs.length <= N) (hx:∀ k,k < xs.length -> full.getD (o+k) dI=xs.getD k dI) (hcap:xs.length <= c):RwIn F xs ⟨some ⟨b,o * 3,none⟩,xs.length,c⟩
structure RwsIn (F:HL) (rs:List Rw) (xss:List (List Inp)):Prop where
 len:rs.length=xss.length
 row:∀ k,k < rs.length -> RwIn F (xss.getD k []) (rs.getD k mj.dflt)
def RwsT (rs:List Rw) (xss:List (List Inp)) (T:HL):Prop:=∀ F,(∀ x ∈ T,x ∈ F) -> RwsIn F rs xss
theorem RwsIn.get {F:HL} {rs:List Rw} {xss:List (List Inp)} (h:RwsIn F rs xss) {k:Nat} (hk:k < rs.length):∃ b o N full c,rs.getD k mj.dflt=⟨some ⟨b,o * 3,none⟩,(xss.getD k []).length,c⟩ /\ (b,.rows 3 N (jl full) 122 (0,0)) ∈ F /\ o+(xss.getD k []).length <= N /\ (∀ i,i < (xss.getD k []).length -> full.getD (o+i) dI=(xss.getD k []).getD i dI) /\ (xss.getD k []).length <= c:=by
 have h1:=h.row k hk
 generalize rs.getD k mj.dflt=p at h1 ⊢
 cases h1 with
 | mk b o N full c hI hir hx hc=>exact ⟨b,o,N,full,c,rfl,hI,hir,hx,hc⟩
theorem SlIs.rw {xs:List Inp} {A:Option Addr} {c:Nat} {T F:HL} (h:SlIs fC 122 xs A c T) (hF:∀ x ∈ T,x ∈ F) (h1:1 <= xs.length) {n:Nat} (hn:n=xs.length):RwIn F xs ⟨A,n,c⟩:=by
 subst hn
 rcases h with ⟨_,_,rfl,_⟩ | ⟨b,o,full,rfl,rfl,h2,h3,h4⟩
 ·simp at h1
 ·refine .mk b o (o+c) full c (hF _ (List.mem_singleton.2 rfl)) (by omega) (λ k hk=>?_) h3
  have h5:((full.drop o).take xs.length)[k]?=xs[k]?:=by rw [h4]
  rw [List.getElem?_take,if_pos hk,List.getElem?_drop] at h5
  rw [List.getD_eq_getElem?_getD,List.getD_eq_getElem?_getD,h5]
theorem RwsT.nil:RwsT [] [] []:=λ F _=>⟨rfl,λ k hk=>absurd hk (Nat.not_lt_zero _)⟩
theorem nY {α:Type} (l:List α) (x d:α) (k:Nat):(l++[x]).getD k d=if k < l.length then l.getD k d else if k=l.length then x else d:=by
 rw [List.getD_eq_getElem?_getD,List.getElem?_append]
 split
 ·rw [List.getD_eq_getElem?_getD]
 ·split
  ·next h=>subst h;simp
  ·rw [List.getElem?_eq_none (by simp;omega)];rfl
theorem RwsT.snoc {rs:List Rw} {xss:List (List Inp)} {T T1:HL} {xs:List Inp} {A:Option Addr} {c n:Nat} (h:RwsT rs xss T) (hs:SlIs fC 122 xs A c T1) (h1:1 <= xs.length) (hn:n=xs.length):RwsT (rs++[⟨A,n,c⟩]) (xss++[xs]) (T++T1):=λ F hF=>by
 have h2:=h F λ x hx=>hF x (List.mem_append_left _ hx)
 refine ⟨by simp [h2.len],λ k hk=>?_⟩
 rw [nY,nY,<- h2.len]
 by_cases hk1:k < rs.length
 ·rw [if_pos hk1,if_pos hk1];exact h2.row k hk1
 ·have:k=rs.length:=by simp at hk;omega
  rw [if_neg hk1,if_neg hk1,if_pos this,if_pos this]
  exact hs.rw (λ x hx=>hF x (List.mem_append_right _ hx)) h1 hn
theorem KG (S:Setup) (A:Option Addr) (n cap:Nat) (xs:List Int) (t:Int) (F:HL) (hl:ArgL F A n xs) (hn:n <= 9223372036854775807) (hp:0 <= S.players /\ S.players <= 1000000) (ht:0 <= t /\ t <= 1000000):Sp Tryz.prog 41 #[Setup.v S,.slice A n cap,vI t] (ap [] []) F (λ u H'=>∃ x:Option Addr × Nat × HL,H'=ap [] [x.2.2] /\ (u=.slice x.1 S.players.toNat x.2.1 /\ SlIs fC 122 (rowL S.players xs t S.players.toNat) x.1 x.2.1 x.2.2 /\ cE x.1)):=Hu S A n cap xs t F hl hn hp ht
def jD (G:Nat -> Gm) (M:MemS):Nat -> MemS
 | 0=>M
 | k+1=>j8 (G k) (jD G M k)
def Cf (G:Nat -> Gm) (M:MemS):Nat -> List Eff
 | 0=>[]
 | k+1=>Cf G M k++ve (G k) (jD G M k)
theorem FF (g:Gm):∀ (f:Nat) (M:MemS),vd g f M <= f
 | 0,_=>Nat.le_refl _
 | f+1,M=>by
  rw [vd]
  split
  ·omega
  ·have:=FF g f (jc g M);omega
theorem Ae (g:Gm) (M:MemS):(ve g M).length <= 1001:=by
 have h1:=rQ g (vd g 1000 M+1) M
 have h2:=FF g 1000 M
 unfold ve
 omega
theorem Af (G:Nat -> Gm) (M:MemS):∀ k,(Cf G M k).length <= 1001 * k
 | 0=>Nat.le_refl _
 | k+1=>by
  have h1:=Af G M k
  have h2:=Ae (G k) (jD G M k)
  rw [Cf,List.length_append]
  omega
abbrev ko (S:Setup) (j:Nat × Int) (xs:List Inp):Gm:=fZ S j xs.length xs
abbrev rG (S:Setup) (J:Nat -> Nat × Int) (xss:List (List Inp)):Nat -> Gm:=λ k=>ko S (J k) (xss.getD k [])
structure TkOk (S:Setup) (j:Nat × Int) (xs:List Inp) (M:MemS):Prop where
 ex:∃ m,m <= 999 /\ dD (ko S j xs) (m+1) M
 now:0 <= M.get 0
 ok:da S.players xs.length xs (M.get 0)=0
theorem FG {g:Gm} {M:MemS} {m:Nat} (hm:m <= 999) (h:dD g (m+1) M):fO g (m+1) M=j8 g M /\ dW g (m+1) M=ve g M:=by
 rw [j8,ve,DX m 1000 M h (by omega)]
 exact ⟨rfl,rfl⟩
theorem ml {M N:MemS} (h:M.cs=N.cs) (i:Int):M.get i=N.get i:=by unfold MemS.get;rw [h]
theorem mm (g:Gm) (l:List (Int × Int)) (b:Int):∀ (n:Nat) (M:MemS),dD g n (M.sh l b) ↔ dD g n M
 | 0,_=>Iff.rfl
 | n+1,M=>by rw [dD,dD,DW,jc,jc,tC,bA,mm g l b n];exact Iff.rfl
theorem yx {g:Gm} {M N:MemS} (h:M.cs=N.cs) (n:Nat) (hg:dD g n M):dD g n N:=by
 rw [<- lY M,mm] at hg
 rw [<- lY N,mm,<- h]
 exact hg
theorem TkOk.cs {S:Setup} {j:Nat × Int} {xs:List Inp} {M N:MemS} (e:M.cs=N.cs) (h:TkOk S j xs M):TkOk S j xs N:=by
 obtain ⟨m,h1,h2⟩:=h.ex
 exact ⟨⟨m,h1,yx e _ h2⟩,by rw [<- ml e];exact h.now,by rw [<- ml e];exact h.ok⟩
theorem ne (g:Gm) (M:MemS):(j8 g M).base=M.base:=by
 have h:=congrArg MemS.base (congrArg (j8 g) (lY M))
 rw [xH] at h
 exact h.symm
theorem Cg (mb cb n:Nat) (A:Option Addr) (m cap:Nat) (base:Int) (F:HL) (hm:(mb,.lit [vS cb 0 n n,.slice A m cap,vI base] 125 (0,0)) ∈ F) (hb:0 <= base /\ base <= 1000000000) (hl:m <= 100000000):Sp Tryz.prog 24 #[vP mb 0] [] F (λ u H'=>u=vI (base+(m:Int)) /\ H'=[]):=by
 have h:=vE mb cb n A m cap base F hm
 rwa [cU (by omega)] at h
theorem FH {mb:Nat} {M:MemS} {k:Nat} {T F:HL} (h:MemH mb M k T) (hs:∀ x ∈ T,x ∈ F) (hb:0 <= M.base /\ M.base <= 1000000000):Sp Tryz.prog 24 #[vP mb 0] [] F (λ u H'=>u=vI (M.base+(M.lg.length:Int)) /\ H'=[]):=by
 have h1:=h.len2
 have h2:=vF h hs
 rwa [cU (by omega)] at h2
theorem NewS.sl0 {A':Option Addr} {cap':Nat} {Hl':HL} (h:NewS jJ 128 ([]:List (Int × Int)) none A' cap' Hl'):SlIs jJ 128 [] A' cap' Hl':=by
 rcases h with ⟨_,rfl,rfl,rfl⟩ | ⟨b,rfl,rfl,_⟩
 ·exact SlIs.nil _ _
 ·refine .inr ⟨b,0,List.replicate cap' jJ.dflt,by simp,?_,by simp,Nat.zero_le _,rfl⟩
  have:=mR (e:=jJ) [] cap'
  rw [List.nil_append] at this
  rw [this,Nat.zero_add]
theorem Sp.tl {P:Program} {f:FuncId} {args:Array Value} {H F:HL} {R:Value -> HL -> Prop} (h:Sp P f args H F R):Sp P f args H F (λ u H'=>∃ x,H'=ap [] [x] /\ R u x):=h.mono λ u H' h=>⟨H',(bF H').symm,h⟩
theorem Mu {P:Program} {sz:Nat} {tx e':TypeId} {a:Addr} {m c':Nat} {w:World} (hm:m=0) (hk:P.underlying tx=some (.slice e')):Src P sz tx (.slice (some a) m c') 0 [] w:=by
 subst hm
 exact Src.ofSlice w hk a 0 c' [] (by simp) (λ j u h=>by simp at h) (λ u h=>by simp at h)
theorem mr (mb cb n:Nat) (A:Option Addr) (m cap:Nat) (base:Int) (F:HL) (hm:(mb,.lit [vS cb 0 n n,.slice A m cap,vI base] 125 (0,0)) ∈ F) (hb:0 <= base /\ base <= 1000000000) (hl:m <= 100000000):Sp Tryz.prog 58 #[vP mb 0,vI (base+(m:Int))] [] F (λ u H'=>u=vI 0 /\ H'=[]):=by
 refine Sp.run Tryz.func58 rfl (mc hm mn) (A:=[]) (Ts:=[]) rfl λ w0=>?_
 refine ae 18 [.ro 0] λ _=>RN.em (base+(m:Int) < base) 5 (λ h1=>?_) λ h1=>?_
 ·(exfalso;omega)
 ·refine ae 5 [] λ _=>ai (Cg mb cb n A m cap base _ (aw hm) hb hl)<|ae 4 [] λ _=>RN.em (base+(m:Int) > base+(m:Int)) 12 (λ h2=>?_) λ h2=>?_
  ·(exfalso;omega)
  ·refine ae 9 [] λ _=>?_
   exact RN.ret [] [] [] ⟨rfl,rfl⟩
theorem FI (mb cb k:Nat) (M:MemS) (F:HL) (hb:0 <= M.base /\ M.base <= 1000000000) (hc:M.cs.length <= 1000000) (hk:k <= 100000000):Sp Tryz.prog 67 #[vP mb 0,vI (M.base+((0:Nat):Int))] [(mb,.lit [vS cb 0 M.cs.length M.cs.length,.slice none 0 0,vI M.base] 125 (0,0)),(cb,.rows 1 M.cs.length (aJ M.cs) 3 (0,0))] F (λ u H'=>u=vI 0 /\ MemH mb ⟨M.cs,[],M.base+((0:Nat):Int)⟩ k H'):=by
 refine Sp.run Tryz.func67 rfl mn (A:=[(mb,.lit [vS cb 0 M.cs.length M.cs.length,.slice none 0 0,vI M.base] 125 (0,0)),(cb,.rows 1 M.cs.length (aJ M.cs) 3 (0,0))]) (Ts:=[]) rfl λ w0=>?_
 refine ae 10 [] λ _=>ai (mr mb cb M.cs.length none 0 0 M.base _ (az 0) hb (by omega))<|ak 40 [.own 0,.nw,.own 0,.own 0] [bn ((M.base+((0:Nat):Int)) - M.base)] λ _=>bx 28 (congrArg (λ v_=>(vI v_:Value)) (show (M.base+((0:Nat):Int)) - M.base=0 by omega))<|ae 18 [.own 0,.own 0] λ _=>RN.em (0 < (M.base+((0:Nat):Int)) - M.base) 38 (λ h1=>?_) λ h1=>?_
 ·(exfalso;omega)
 ·refine ae 8 [] λ _=>RN.ret [] [0,1] [] (v:=vI 0) (H':=(ap [(mb,.lit [vS cb 0 M.cs.length M.cs.length,.slice none 0 0,vI (M.base+((0:Nat):Int))] 125 (0,0)),(cb,.rows 1 M.cs.length (aJ M.cs) 3 (0,0))] [])) ?_
  refine ⟨rfl,?_⟩
  have h_:=MemH.mk (mb:=mb) (M:=⟨M.cs,[],M.base+((0:Nat):Int)⟩) (k:=k) cb none 0 ([]) (SlIs.nil _ _) hc (by simp;omega)
  simpa [ap] using h_
theorem FJ (mb cb k b o cap:Nat) (M:MemS) (full:List (Int × Int)) (F:HL) (hb:0 <= M.base /\ M.base <= 1000000000) (hc:M.cs.length <= 1000000) (hk:k <= 100000000) (hf:full.length=o+cap) (hn:M.lg.length=cap) (hl:M.lg.length <= 100000000):Sp Tryz.prog 67 #[vP mb 0,vI (M.base+(M.lg.length:Int))] [(mb,.lit [vS cb 0 M.cs.length M.cs.length,vS b (o * 2) M.lg.length cap,vI M.base] 125 (0,0)),(cb,.rows 1 M.cs.length (aJ M.cs) 3 (0,0)),(b,.rows 2 (o+cap) (bS jJ full) 128 (0,0))] F (λ u H'=>u=vI 0 /\ MemH mb ⟨M.cs,[],M.base+(M.lg.length:Int)⟩ k H'):=by
 refine Sp.run Tryz.func67 rfl mn (A:=[(mb,.lit [vS cb 0 M.cs.length M.cs.length,vS b (o * 2) M.lg.length cap,vI M.base] 125 (0,0)),(cb,.rows 1 M.cs.length (aJ M.cs) 3 (0,0)),(b,.rows 2 (o+cap) (bS jJ full) 128 (0,0))]) (Ts:=[]) rfl λ w0=>?_
 refine ae 10 [] λ _=>ai (mr mb cb M.cs.length (some ⟨b,o * 2,none⟩) M.lg.length cap M.base _ (az 0) hb (by omega))<|ak 40 [.own 0,.nw,.own 0,.own 0] [bn ((M.base+(M.lg.length:Int)) - M.base)] λ _=>bx 28 (congrArg (λ v_=>(vI v_:Value)) (show (M.base+(M.lg.length:Int)) - M.base=(M.lg.length:Int) by omega))<|ak 18 [.sl M.lg.length M.lg.length true,.own 0,.own 0] [(M.lg.length:Int)=((M.lg.length:Nat):Int) /\ M.lg.length=M.lg.length /\ M.lg.length <= M.lg.length /\ M.lg.length <= cap /\ cap=M.lg.length] λ _=>RN.em ((((M.lg.length - M.lg.length):Nat):Int) < (M.base+(M.lg.length:Int)) - M.base) 38 (λ h1=>?_) λ h1=>?_
 ·refine ae 7 [.own 0] λ _=>RN.nt<|iL (A:=none) (B:=(some ⟨b,o * 2,none⟩)) (c':=(cap - M.lg.length)) xl ([]:List (Int × Int)) 0 (λ a_ e_=>by cases e_) (m:=(M.lg.length - M.lg.length)) (tx:=123) (by simp) (by simp) (λ e_ he X w hR=>Mu (by simp) he) ?_
  rintro A2 c3 T4 hs5
  refine ae 10 [.own 0] λ _=>RN.ret [] [0,1] [0] (v:=vI 0) (H':=(ap [(mb,.lit [vS cb 0 M.cs.length M.cs.length,.slice A2 0 c3,vI (M.base+(M.lg.length:Int))] 125 (0,0)),(cb,.rows 1 M.cs.length (aJ M.cs) 3 (0,0))] [T4])) ?_
  refine ⟨rfl,?_⟩
  have h_:=MemH.mk (mb:=mb) (M:=⟨M.cs,[],M.base+(M.lg.length:Int)⟩) (k:=k) cb A2 c3 T4 hs5.sl0 hc (by simp;omega)
  exact h_
 ·refine ae 8 [] λ _=>RN.ret [] [0,1,2] [] (v:=vI 0) (H':=(ap [(mb,.lit [vS cb 0 M.cs.length M.cs.length,vS b (o * 2) (M.lg.length - M.lg.length) (cap - M.lg.length),vI (M.base+(M.lg.length:Int))] 125 (0,0)),(cb,.rows 1 M.cs.length (aJ M.cs) 3 (0,0)),(b,.rows 2 (o+cap) (bS jJ full) 128 (0,0))] [])) ?_
  refine ⟨rfl,?_⟩
  rw [Nat.sub_self]
  have h_:=MemH.mk (mb:=mb) (M:=⟨M.cs,[],M.base+(M.lg.length:Int)⟩) (k:=k) cb (some ⟨b,o * 2,none⟩) (cap - M.lg.length) ([(b,.rows 2 (o+cap) (bS jJ full) 128 (0,0))]) (.inr ⟨b,o,full,rfl,by rw [show o+(cap - M.lg.length)=o+cap by omega];rfl,by omega,Nat.zero_le _,rfl⟩) hc (by simp;omega)
  simpa [ap] using h_
theorem FK (mb cb k b o cap:Nat) (M:MemS) (full:List (Int × Int)) (F:HL) (hb:0 <= M.base /\ M.base <= 1000000000) (hc:M.cs.length <= 1000000) (hk:k <= 100000000) (hf:full.length=o+cap) (hn:M.lg.length < cap) (hl:M.lg.length <= 100000000):Sp Tryz.prog 67 #[vP mb 0,vI (M.base+(M.lg.length:Int))] [(mb,.lit [vS cb 0 M.cs.length M.cs.length,vS b (o * 2) M.lg.length cap,vI M.base] 125 (0,0)),(cb,.rows 1 M.cs.length (aJ M.cs) 3 (0,0)),(b,.rows 2 (o+cap) (bS jJ full) 128 (0,0))] F (λ u H'=>u=vI 0 /\ MemH mb ⟨M.cs,[],M.base+(M.lg.length:Int)⟩ k H'):=by
 refine Sp.run Tryz.func67 rfl mn (A:=[(mb,.lit [vS cb 0 M.cs.length M.cs.length,vS b (o * 2) M.lg.length cap,vI M.base] 125 (0,0)),(cb,.rows 1 M.cs.length (aJ M.cs) 3 (0,0)),(b,.rows 2 (o+cap) (bS jJ full) 128 (0,0))]) (Ts:=[]) rfl λ w0=>?_
 refine ae 10 [] λ _=>ai (mr mb cb M.cs.length (some ⟨b,o * 2,none⟩) M.lg.length cap M.base _ (az 0) hb (by omega))<|ak 40 [.own 0,.nw,.own 0,.own 0] [bn ((M.base+(M.lg.length:Int)) - M.base)] λ _=>bx 28 (congrArg (λ v_=>(vI v_:Value)) (show (M.base+(M.lg.length:Int)) - M.base=(M.lg.length:Int) by omega))<|ak 18 [.sl M.lg.length M.lg.length false,.own 0,.own 0] [(M.lg.length:Int)=((M.lg.length:Nat):Int) /\ M.lg.length=M.lg.length /\ M.lg.length <= M.lg.length /\ M.lg.length <= cap /\ cap ≠ M.lg.length] λ _=>RN.em ((((M.lg.length - M.lg.length):Nat):Int) < (M.base+(M.lg.length:Int)) - M.base) 38 (λ h1=>?_) λ h1=>?_
 ·refine ae 7 [.own 0] λ _=>RN.nt<|iL (A:=none) (B:=(some ⟨b,(o * 2+M.lg.length * 2),none⟩)) (c':=(cap - M.lg.length)) xl ([]:List (Int × Int)) 0 (λ a_ e_=>by cases e_) (m:=(M.lg.length - M.lg.length)) (tx:=123) (by simp) (by simp) (λ e_ he X w hR=>Mu (by simp) he) ?_
  rintro A2 c3 T4 hs5
  refine ae 10 [.own 0] λ _=>RN.ret [] [0,1] [0] (v:=vI 0) (H':=(ap [(mb,.lit [vS cb 0 M.cs.length M.cs.length,.slice A2 0 c3,vI (M.base+(M.lg.length:Int))] 125 (0,0)),(cb,.rows 1 M.cs.length (aJ M.cs) 3 (0,0))] [T4])) ?_
  refine ⟨rfl,?_⟩
  have h_:=MemH.mk (mb:=mb) (M:=⟨M.cs,[],M.base+(M.lg.length:Int)⟩) (k:=k) cb A2 c3 T4 hs5.sl0 hc (by simp;omega)
  exact h_
 ·refine ae 8 [] λ _=>RN.ret [] [0,1,2] [] (v:=vI 0) (H':=(ap [(mb,.lit [vS cb 0 M.cs.length M.cs.length,vS b (o * 2+M.lg.length * 2) (M.lg.length - M.lg.length) (cap - M.lg.length),vI (M.base+(M.lg.length:Int))] 125 (0,0)),(cb,.rows 1 M.cs.length (aJ M.cs) 3 (0,0)),(b,.rows 2 (o+cap) (bS jJ full) 128 (0,0))] [])) ?_
  refine ⟨rfl,?_⟩
  rw [Nat.sub_self]
  have h_:=MemH.mk (mb:=mb) (M:=⟨M.cs,[],M.base+(M.lg.length:Int)⟩) (k:=k) cb (some ⟨b,o * 2+M.lg.length * 2,none⟩) (cap - M.lg.length) ([(b,.rows 2 (o+cap) (bS jJ full) 128 (0,0))]) (.inr ⟨b,o+M.lg.length,full,by rw [Nat.add_mul];rfl,by rw [show o+M.lg.length+(cap - M.lg.length)=o+cap by omega];rfl,by omega,Nat.zero_le _,rfl⟩) hc (by simp;omega)
  simpa [ap] using h_
theorem wI {mb:Nat} {M:MemS} {k k2:Nat} {T:HL} (F:HL) (h:MemH mb M k T) (hb:0 <= M.base /\ M.base <= 1000000000) (hk:k2 <= 100000000):Sp Tryz.prog 67 #[vP mb 0,vI (M.base+(M.lg.length:Int))] (ap [] [T]) F (λ u H'=>∃ x,H'=ap [] [x] /\ (u=vI 0 /\ MemH mb ⟨M.cs,[],M.base+(M.lg.length:Int)⟩ k2 x)):=by
 rw [bF]
 cases h with
 | mk cb A cap Hl hs hc hl =>
  rcases hs with ⟨rfl,rfl,h1,rfl⟩ | ⟨b,o,full,rfl,rfl,h1,h2,h3⟩
  ·have e:M.lg.length=0:=by rw [h1];rfl
   rw [e]
   have key:=FI mb cb k2 M F hb hc hk
   exact key.tl
  ·rcases Nat.lt_or_ge M.lg.length cap with h4 | h4
   ·have key:=FK mb cb k2 b o cap M full F hb hc hk h1 h4 (by omega)
    exact key.tl
   ·have key:=FJ mb cb k2 b o cap M full F hb hc hk h1 (by omega) (by omega)
    exact key.tl
theorem GameH.op {rs:List Bx} {ds:List Dr} {bp gb:Nat} {S:Setup} {M:MemS} {k:Nat} {G:HL} (h:GameH rs ds bp gb S M k G):∃ mb T U,MemH mb M k T /\ kI S rs ds U /\ G=ap [(gb,.lit (cN S bp mb) 97 (0,0))] [T,U]:=by
 cases h with
 | mk mb T U hM hU=>exact ⟨mb,T,U,hM,hU,rfl⟩
theorem Ch {rs:List Bx} {ds:List Dr} {S:Setup} {bp gb mb b o N c k:Nat} {j:Nat × Int} {full xs:List Inp} {M:MemS} {T U F:HL} (now:Int) (hM:MemH mb M (k+20000) T) (hU:kI S rs ds U) (hnow:M.get 0=now) (hj:j.1 < 5) (hA:AtOk F bp (M.get 0) j) (hE:cK F) (hI:(b,.rows 3 N (jl full) 122 (0,0)) ∈ F) (hir:o+xs.length <= N) (hni:xs.length <= 1000000) (hx:∀ k,k < xs.length -> full.getD (o+k) dI=xs.getD k dI) (hk:TkOk S j xs M \/ ¬ da S.players xs.length xs now=0) :
  Sp Tryz.prog 11 #[vP gb 0,vS b (o * 3) xs.length c] (ap [(gb,.lit (cN S bp mb) 97 (0,0))] [T,U]) F (λ u H'=>∃ x:(Option Addr × Nat × Nat) × HL × HL,H'=ap [(gb,.lit (cN S bp mb) 97 (0,0))] [x.2.1,U,x.2.2] /\
   ((TkOk S j xs M /\ MemH mb (j8 (ko S j xs) M) k x.2.1 /\ SlIs pL 102 (ve (ko S j xs) M) x.1.1 x.1.2.1 x.2.2 /\ u=.tuple #[.slice x.1.1 (ve (ko S j xs) M).length x.1.2.1,vI ((x.1.2.2+1:Nat):Int),vI 0]) \/
    (¬ da S.players xs.length xs now=0 /\ MemH mb M k x.2.1 /\ u=.tuple #[.slice none 0 0,vI 0,vI (da S.players xs.length xs now)]))):=by
 subst hnow
 have hl:RowL fC 122 F (some ⟨b,o * 3,none⟩) xs.length xs:=.rows b o N full (0,0) _ xs hI hir rfl hx
 rcases hk with hk | hk
 ·obtain ⟨m,hm,hg⟩:=hk.ex
  obtain ⟨e1,e2⟩:=FG hm hg
  refine (wH S rs ds bp gb mb b o N xs.length c m k j full xs M T U F hj hA hU hE hI hir hni (by omega) rfl hx (hM.weak (by omega)) hk.now hg hk.ok).mono λ u H' h=>?_
  obtain ⟨⟨T1,A,cc,E⟩,rfl,h1,h2,h3⟩:=h
  dsimp only at h1 h2 h3
  rw [e1] at h1
  rw [e2] at h2 h3
  exact ⟨((A,cc,m),T1,E),rfl,.inl ⟨hk,h1,h2,h3⟩⟩
 ·refine (Ce _ S bp gb mb xs.length c (k+20000) (some ⟨b,o * 3,none⟩) xs M T U F hl hni hM rfl hk).mono λ u H' h=>?_
  obtain ⟨rfl,rfl⟩:=h
  exact ⟨((none,0,0),T,[]),by simp [ap],.inr ⟨hk,hM.weak (by omega),rfl⟩⟩
def Mv (S:Setup) (J:Nat -> Nat × Int) (n:Nat) (xss:List (List Inp)) (u:Value) (x:(Setup × Nat × Option Addr × Nat) × HL × HL):Prop :=
 SetEq S x.1.1 /\ (((∀ i,i < n -> TkOk x.1.1 (J i) (xss.getD i []) (jD (rG x.1.1 J xss) ⟨bC S S.nb,[],0⟩ i)) /\ x.2.1=[(x.1.2.1,.rows 1 (jD (rG x.1.1 J xss) ⟨bC S S.nb,[],0⟩ n).cs.length (aJ (jD (rG x.1.1 J xss) ⟨bC S S.nb,[],0⟩ n).cs) 3 (0,0))] /\
   SlIs pL 102 (Cf (rG x.1.1 J xss) ⟨bC S S.nb,[],0⟩ n) x.1.2.2.1 x.1.2.2.2 x.2.2 /\ u=.tuple #[vS x.1.2.1 0 (jD (rG x.1.1 J xss) ⟨bC S S.nb,[],0⟩ n).cs.length (jD (rG x.1.1 J xss) ⟨bC S S.nb,[],0⟩ n).cs.length,.slice x.1.2.2.1 (Cf (rG x.1.1 J xss) ⟨bC S S.nb,[],0⟩ n).length x.1.2.2.2,vI 0]) \/
  (∃ i,i < n /\ (∀ k,k < i -> TkOk x.1.1 (J k) (xss.getD k []) (jD (rG x.1.1 J xss) ⟨bC S S.nb,[],0⟩ k)) /\ ¬ da x.1.1.players (xss.getD i []).length (xss.getD i []) ((jD (rG x.1.1 J xss) ⟨bC S S.nb,[],0⟩ i).get 0)=0 /\
   u=.tuple #[.slice none 0 0,.slice none 0 0,vI (da x.1.1.players (xss.getD i []).length (xss.getD i []) ((jD (rG x.1.1 J xss) ⟨bC S S.nb,[],0⟩ i).get 0))]))
theorem Il (S:Setup) (rs_:List Bx) (ds_:List Dr) (bp n cap:Nat) (J:Nat -> Nat × Int) (A:Option Addr) (rs:List Rw) (xss:List (List Inp)) (F:HL) (hS:SetIn F S) (hM:MapIn F S rs_ ds_) (h1:1 <= S.nb) (hrn:S.rn <= 1000000) (hdn:S.dn <= 1000000) (hsz:(sizeOf S).toNat <= 1000000) (hv:fQ S rs_ ds_=0) (hE:cK F) (hr:RowL mj 44 F A n rs) (hw:RwsIn F rs xss) (hxl:∀ k,k < n -> (xss.getD k []).length <= 1000000) (hn:n <= 50) (h9:n <= 9) (hP:∀ S2,SetEq S S2 -> ∀ i,i < n -> (∀ k,k < i -> TkOk S2 (J k) (xss.getD k []) (jD (rG S2 J xss) ⟨bC S S.nb,[],0⟩ k)) -> (TkOk S2 (J i) (xss.getD i []) (jD (rG S2 J xss) ⟨bC S S.nb,[],0⟩ i) \/ ¬ da S2.players (xss.getD i []).length (xss.getD i []) ((jD (rG S2 J xss) ⟨bC S S.nb,[],0⟩ i).get 0)=0) /\ (J i).1 < 5 /\ AtOk F bp ((jD (rG S2 J xss) ⟨bC S S.nb,[],0⟩ i).get 0) (J i)):Sp Tryz.prog 33 #[(Setup.v S),vP bp 0,.slice A n cap] [] F (λ u H'=>∃ x:(Setup × Nat × Option Addr × Nat) × HL × HL,H'=ap [] [x.2.1,x.2.2] /\ Mv S J n xss u x):=by
 refine Sp.run Tryz.func33 rfl mn (A:=[]) (Ts:=[]) rfl λ w0=>?_
 refine ae 12 (ow 0 16) λ n1=>RN.ct (Hp:=[]) (Tp:=[]) [] [] (mS S rs_ ds_ bp _ hS.up.cl hM.up h1 hrn hdn hsz hv 1000000 (by decide)) ?_
 rintro _ ⟨g2,S3,T4⟩ ⟨rfl,he5,hG6⟩
 dsimp only at he5 hG6
 obtain ⟨mb,Tm,U,hMm,hU,eG⟩:=hG6.op
 refine Jy 0 [(g2,.lit (cN S3 bp mb) 97 (0,0))] [Tm,U] eG<|ae 31 [] λ _=>RN.nt<|RN.loop (σ:=Nat × Option Addr × Nat × MemS × HL × HL) (λ ⟨i_,A_,c_,N_,T_,E_⟩=>⟨[(9,vP g2 0),(11,.slice A_ ((Cf (rG S3 J xss) ⟨bC S S.nb,[],0⟩ i_).length) c_),(26,.slice A n cap),(27,vI (n:Int)),(28,vI (i_:Int))],[(g2,.lit (cN S3 bp mb) 97 (0,0)),((n1+0),.lit (Setup.l S) 31 (0,0))],[T_,E_,U],i_ <= n /\ N_.cs=(jD (rG S3 J xss) ⟨bC S S.nb,[],0⟩ i_).cs /\ MemH mb N_ 1000000 T_ /\ (0 <= N_.base /\ N_.base <= 100000000 * (i_:Int)) /\ SlIs pL 102 (Cf (rG S3 J xss) ⟨bC S S.nb,[],0⟩ i_) A_ c_ E_ /\ (∀ k,k < i_ -> TkOk S3 (J k) (xss.getD k []) (jD (rG S3 J xss) ⟨bC S S.nb,[],0⟩ k)),n - i_⟩) (0,none,0,⟨bC S S.nb,[],0⟩,Tm,[]) [0,1] [1,0,2] (⟨Nat.zero_le _,rfl,hMm,⟨Int.le_refl 0,by show (0:Int) <= _;omega⟩,SlIs.nil _ _,λ k hk=>absurd hk (Nat.not_lt_zero _)⟩) ?_
 rintro ⟨i_,A_,c_,N_,T_,E_⟩ ⟨hi_,hcs_,hT_,hbs0_,hs_,hok_⟩ mt8
 refine ae 6 [] λ _=>RN.em ((i_:Int) < (n:Int)) 29 (λ h9=>?_) λ h9=>?_
 ·refine ae 7 [] λ _=>?_
  obtain ⟨qx10,ox10,Nx10,fx10,fzx10,hAx10,hqx10,hox10,hgx10⟩:=hr.at (k:=i_) (by omega)
  refine bx 26 (congrArg (λ v_=>(.slice v_ n cap:Value)) hAx10)<|RN.ro (λ _=>(mc hqx10 mn))<|ak 2 [.ix i_,.rorow 0 (ox10+i_) 0] [(ox10 * 1+i_ * 1)=(ox10+i_) * 1+0 /\ (ox10+i_) < Nx10,(i_:Int)=((i_:Nat):Int) /\ i_ < n] λ _=>bx 31 (congrArg (λ v_=>(.slice v_.A v_.n v_.c:Value)) hgx10) ?_
  obtain ⟨bw11,ow11,Nw11,fw11,cw11,ew11,hIw11,hiw11,hxw11,hcw11⟩:=hw.get (k:=i_) (by rw [hr.len];omega)
  refine bx 31 (congrArg (λ v_:Rw=>Value.slice v_.A v_.n v_.c) ew11)<|ae 7 [] λ _=>?_
  have hPi_:=hP S3 he5 i_ (by omega) hok_
  refine RN.ct [0] [0,2] (Ch (gb:=g2) (mb:=mb) (c:=cw11) (k:=980000) (rs:=rs_) (ds:=ds_) (S:=S3) ((jD (rG S3 J xss) ⟨bC S S.nb,[],0⟩ i_).get 0) (hT_.weak (by decide)) hU (ml hcs_ 0) hPi_.2.1 ((show AtOk F bp (N_.get 0) (J i_) by rw [ml hcs_];exact hPi_.2.2).mono λ x hx=>aw hx) (aw hE) (aw hIw11) hiw11 (by have:=hxl i_ (by omega);omega) hxw11 (hPi_.1.imp (λ h_=>h_.cs hcs_.symm) id)) ?_
  rintro _ ⟨⟨A12,c13,n14⟩,T15,E16⟩ (⟨hk17,hM18,hs19,rfl⟩ | ⟨hk17,hM18,rfl⟩)
  ·dsimp only at hM18 hs19
   refine ae 23 [] λ _=>RN.appU (c':=c13) (tx:=40) xw (Cf (rG S3 J xss) ⟨bC S S.nb,[],0⟩ i_) (ve (ko S3 (J i_) (xss.getD i_ [])) N_) 3 rfl hs_ (by have h1_:=Af (rG S3 J xss) ⟨bC S S.nb,[],0⟩ i_;have h2_:=Ae (ko S3 (J i_) (xss.getD i_ [])) N_;omega) (hs19.src xw (by decide) (au 2)) ?_
   rintro A20 c21 T22 ⟨hs23,hz24⟩
   refine ae 3 [] λ _=>RN.draw [9] []<|ag [] [0,4,1,5,2,6,3,7] [.own 0,.own 0] ?_
   have hbs_:0 <= (j8 (ko S3 (J i_) (xss.getD i_ [])) N_).base /\ (j8 (ko S3 (J i_) (xss.getD i_ [])) N_).base <= 1000000000:=by rw [ne];omega
   refine ar [] 8 (λ X_=>(FH hM18 (aR 1) hbs_))<|RD.one 9 (RDO.ct [] [] [1] (wI (k2:=1000000) _ hM18 hbs_ (by decide)) ?_)
   rintro _ T25 ⟨rfl,hM26⟩
   refine RD.fin<|ak 6 [.nw] [bn ((i_:Int)+1)] λ _=>bx 26 (congrArg (λ v_=>(.slice v_ n cap:Value)) hAx10.symm)<|bx 11 (congrArg (λ v_=>(.slice A20 v_ c21:Value)) (show (Cf (rG S3 J xss) ⟨bC S S.nb,[],0⟩ i_).length+(ve (ko S3 (J i_) (xss.getD i_ [])) N_).length=(Cf (rG S3 J xss) ⟨bC S S.nb,[],0⟩ (i_+1)).length by rw [Cf,List.length_append,D2 _ hcs_])) ?_
   refine mt8 (i_+1,A20,c21,⟨(j8 (ko S3 (J i_) (xss.getD i_ [])) N_).cs,[],(j8 (ko S3 (J i_) (xss.getD i_ [])) N_).base+((j8 (ko S3 (J i_) (xss.getD i_ [])) N_).lg.length:Int)⟩,T25,T22) [0,1] [0,1,2] ?_
   try dsimp only
   have hl2_:=hM18.len2
   refine ⟨⟨by omega,?_,hM26,⟨?_,?_⟩,?_,?_⟩,by omega⟩
   ·show (j8 (ko S3 (J i_) (xss.getD i_ [])) N_).cs=_;rw [jD];exact nE _ hcs_
   ·show 0 <= (j8 (ko S3 (J i_) (xss.getD i_ [])) N_).base+_;omega
   ·show (j8 (ko S3 (J i_) (xss.getD i_ [])) N_).base+_ <= _;have hb2_:=ne (ko S3 (J i_) (xss.getD i_ [])) N_;omega
   ·rw [Cf,<- D2 _ hcs_];exact hs23
   ·intro k_ hk_;rcases Nat.lt_or_ge k_ i_ with h_ | h_
    ·exact hok_ k_ h_
    ·obtain rfl:k_=i_:=by omega
     exact hk17.cs hcs_
  ·dsimp only at hM18
   refine ae 16 [] λ _=>cR 40 (nf (decide_eq_false hk17))<|ae 9 [] λ _=>RN.ret [] [] [] (v:=.tuple #[.slice none 0 0,.slice none 0 0,vI (da S3.players (xss.getD i_ []).length (xss.getD i_ []) ((jD (rG S3 J xss) ⟨bC S S.nb,[],0⟩ i_).get 0))]) (H':=(ap [] [])) ?_
   exact ⟨((S3,0,none,0),[],[]),by simp [ap],he5,.inr ⟨i_,by omega,hok_,hk17,rfl⟩⟩
 ·refine ae 12 [.own 0] λ _=>RN.ct (Hp:=[]) (Tp:=[]) [] [] (vD mb N_ 1000000 T_ _ hT_ (au 0)) ?_
  rintro _ q27 rfl
  refine ae 6 [] λ _=>RN.ret [] [0] [1] (v:=.tuple #[vS q27 0 N_.cs.length N_.cs.length,.slice A_ ((Cf (rG S3 J xss) ⟨bC S S.nb,[],0⟩ i_).length) c_,vI 0]) (H':=(ap [(q27,.rows 1 N_.cs.length (aJ N_.cs) 3 (0,0))] [E_])) ?_
  obtain rfl:i_=n:=by omega
  refine ⟨((S3,q27,A_,c_),[(q27,.rows 1 N_.cs.length (aJ N_.cs) 3 (0,0))],E_),by simp [ap],he5,.inl ⟨hok_,?_,hs_,?_⟩⟩
  ·rw [<- hcs_]
  ·rw [<- hcs_]
theorem Im (S:Setup) (rs_:List Bx) (ds_:List Dr) (bp n cap:Nat) (J:Nat -> Nat × Int) (A:Option Addr) (rs:List Rw) (xss:List (List Inp)) (F:HL) (hS:SetIn F S) (hM:MapIn F S rs_ ds_) (h1:1 <= S.nb) (hrn:S.rn <= 1000000) (hdn:S.dn <= 1000000) (hsz:(sizeOf S).toNat <= 1000000) (hv:fQ S rs_ ds_=0) (hE:cK F) (hr:RowL mj 44 F A n rs) (hw:RwsIn F rs xss) (hxl:∀ k,k < n -> (xss.getD k []).length <= 1000000) (hn:n <= 50) (h9:n <= 9) (hP:∀ S2,SetEq S S2 -> ∀ i,i < n -> (∀ k,k < i -> TkOk S2 (J k) (xss.getD k []) (jD (rG S2 J xss) ⟨bC S S.nb,[],0⟩ k)) -> (TkOk S2 (J i) (xss.getD i []) (jD (rG S2 J xss) ⟨bC S S.nb,[],0⟩ i) \/ ¬ da S2.players (xss.getD i []).length (xss.getD i []) ((jD (rG S2 J xss) ⟨bC S S.nb,[],0⟩ i).get 0)=0) /\ (J i).1 < 5 /\ AtOk F bp ((jD (rG S2 J xss) ⟨bC S S.nb,[],0⟩ i).get 0) (J i)):Sp Tryz.prog 33 #[Setup.v S,vP bp 0,.slice A n cap] (ap [] []) F (λ u H'=>∃ x:(Setup × Nat × Option Addr × Nat) × HL × HL,H'=ap [] [x.2.1,x.2.2] /\ Mv S J n xss u x):=Il S rs_ ds_ bp n cap J A rs xss F hS hM h1 hrn hdn hsz hv hE hr hw hxl hn h9 hP
end Go.Proofs.YtcfajdgeejeieaaGreatDoor
