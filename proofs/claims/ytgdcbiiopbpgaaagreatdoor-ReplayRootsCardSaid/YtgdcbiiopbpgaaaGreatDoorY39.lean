import Derived.Test.YtgdcbiiopbpgaaaGreatDoorY37
import Derived.Test.YtgdcbiiopbpgaaaGreatDoorY22
import Derived.Test.YtgdcbiiopbpgaaaGreatDoorY38
set_option maxHeartbeats 4000000
set_option maxRecDepth 100000
set_option linter.unusedSimpArgs false
set_option linter.unusedVariables false
namespace Go.Proofs.YtgdcbiiopbpgaaaGreatDoor
open Go.RowKit Go.Shelf
section
variable {α:Type} {e:Enc α} {P:Program} {T:TypeId} {inf:TypeInfo} {z:Value} {l:List α} {A:Option Addr} {cap:Nat} {Hl F:HL}
theorem SlIs.toRowL (h:SlIs e T l A cap Hl) (hF:∀ x ∈ Hl,x ∈ F):RowL e T F A l.length l:=by
 rcases h with ⟨rfl,rfl,rfl,rfl⟩ | ⟨b,o,full,rfl,rfl,h1,h2,h3⟩
 ·exact .zero _
 ·refine .rows b o (o+cap) full (0,0) _ l (hF _ (List.mem_singleton.2 rfl)) (by omega) rfl (λ k hk=>?_)
  have h4:((full.drop o).take l.length)[k]?=l[k]?:=by rw [h3]
  rw [List.getElem?_take,if_pos hk,List.getElem?_drop] at h4
  rw [List.getD_eq_getElem?_getD,List.getD_eq_getElem?_getD,h4]
theorem SlIs.one {x:α} {b:Nat}:SlIs e T [x] (some ⟨b,0,none⟩) 1 [(b,.rows e.w 1 (aZ e [x]) T (0,0))]:=.inr ⟨b,0,[x],by simp,by simp,rfl,Nat.le_refl _,rfl⟩
end
section
variable {r:Option Nat} {P:Program} {N:Nat} {D:List Deferred} {F:HL} {w0:World} {R:HL} {s:Cfg} {Q:Exit -> Act -> World -> Prop} {hards:List Nat} {Rd:HL}
def btC (i:Nat) (s:Cfg):Cfg:=match s with
 | ⟨c,k,L,A,Ts⟩=>⟨c,k,L,(oth [i] A.length).filterMap (A[·]?),[i].filterMap (A[·]?) :: Ts⟩
theorem AJ {A:HL} {Ts:List HL} {i:Nat} (h:([i]++oth [i] A.length).isPerm (List.range A.length)=true):(ap ((oth [i] A.length).filterMap (A[·]?)) ([i].filterMap (A[·]?) :: Ts)).Perm (ap A Ts):=by
 have hp:=fv A [i] (oth [i] A.length) h
 show ((oth [i] A.length).filterMap (A[·]?)++([i].filterMap (A[·]?) :: Ts).flatten).Perm (A++Ts.flatten)
 rw [List.flatten_cons,<- List.append_assoc]
 exact (List.perm_append_comm.trans hp).append_right _
theorem tp (i:Nat) (hk:RN r P N D F w0 R (btC i s) Q) (h:([i]++oth [i] s.A.length).isPerm (List.range s.A.length)=true:=by kernel_rfl):RN r P N D F w0 R s Q:=by
 obtain ⟨c,k,L,A,Ts⟩:=s
 exact ⟨λ hR a w h1 h2 h3=>hk.h hR a w h1 (h2.perm ((AJ h).append_right F)) h3⟩
theorem Nf (i:Nat) (hk:RD r P N D F w0 R hards Rd (btC i s) Q) (h:([i]++oth [i] s.A.length).isPerm (List.range s.A.length)=true:=by kernel_rfl):RD r P N D F w0 R hards Rd s Q:=by
 obtain ⟨c,k,L,A,Ts⟩:=s
 refine ⟨λ hR hs=>?_⟩
 have h1:=hk.h hR hs
 intro hcl a hF
 exact JJ.perm _ _ _ _ _ (AJ h) (h1 hcl a hF)
theorem kZ (t:Nat) {u v:Value} (e:u=v) (hk:RD r P N D F w0 R hards Rd (svC t v s) Q) (h:s.L.lookup t=some u:=by kernel_rfl):RD r P N D F w0 R hards Rd s Q:=by
 subst e
 exact ⟨λ hR hs hcl a hF=>hk.h hR hs hcl a (hF.fix h)⟩
variable {α:Type} {e:Enc α} {T:TypeId} {inf:TypeInfo} {z:Value}
theorem RN.appU (ok:EncOk e P T inf z) (l src:List α) (j:Nat) {A:Option Addr} {n cap:Nat} {Hl:HL} {B:Option Addr} {m c':Nat} {tx:TypeId} (hn:n=l.length) (hsl:SlIs e T l A cap Hl) (hb:l.length+src.length <= 100000000)
  (hs:SrcIn P e (ap s.A s.Ts++F) B m src)
  (hk:∀ (A':Option Addr) (cap':Nat) (Hl':HL),(SlIs e T (l++src) A' cap' Hl' /\ (bU A -> bU A')) -> RN r P N D F w0 R (LP j Hl' (fO N (.slice A' (n+src.length) cap') s)) Q)
  (h:vT P N j (rN s) s=some (A,n,cap,T,B,m,c',tx,Hl):=by kernel_rfl):RN r P N D F w0 R s Q:=by
 obtain ⟨o,a1,a2,t,e',q0,q1,q2,q3,q4,q5,q6,q7,q9,q10,q11⟩:=mu h
 refine ⟨λ hR a w hF hRel hB=>?_⟩
 obtain ⟨c,k,L,Bs,Ts⟩:=s
 unfold rN at q0
 cases c with
 | code c=>cases q0
 | ex c=>cases q0
 | drw _ _=>cases q0
 | ops ops i =>
  simp only at q0 q3 q4 q5 q9 q10 q11 hF hRel
  have hdrop:ops.toList.drop i=o :: ops.toList.drop (i+1):=by
   have hlt:i < ops.toList.length:=(List.getElem?_eq_some_iff.1 q0).1
   rw [List.drop_eq_getElem_cons hlt,(List.getElem?_eq_some_iff.1 q0).2]
  show wpListIn _ _ _ _ _ _ _ _
  rw [hdrop,wpListIn,if_pos (by simp [Region.wanted,q1])]
  refine ⟨λ _ _=>trivial,?_⟩
  have hperm:=gZ (A:=Bs) q9 q10
  refine ij (by rw [q2];intro c hc;cases hc) (ll (x:=.slice B m c') (src:=src) (G:=Bs++((oth [j] Ts.length).filterMap (Ts[·]?)).flatten) ok q2 q6 q3 q4 hn q5 hperm hsl (λ w hw=>by have h5:=hs.2 c' q7 [] w hw;rwa [<- ok.size] at h5) hb a hF w hRel) ?_
  rintro u w' ⟨⟨A',cap',Hl'⟩,⟨rfl,hsl'⟩,hR',hB'⟩
  obtain ⟨L',p1⟩:=eU q11 (.slice A' (n+src.length) cap')
  have hh:=(hk A' cap' Hl' hsl').h hR
  have hpc:fO N (.slice A' (n+src.length) cap') ⟨.ops ops i,k,L,Bs,Ts⟩=⟨.ops ops (i+1),k,L',Bs,Ts⟩:=by
   unfold fO
   simp only [q0,p1]
  rw [hpc] at hh
  refine hh _ w' (hF.put p1) (hR'.perm (List.Perm.append_right F ?_)) (hB.trans hB')
  show (Bs++(Hl' :: (oth [j] Ts.length).filterMap (Ts[·]?)).flatten).Perm _
  rw [List.flatten_cons,<- List.append_assoc,<- List.append_assoc]
  exact List.Perm.append_right _ List.perm_append_comm
theorem RDO.appU {i:Nat} (ix:List Nat) (ok:EncOk e P T inf z) (l src:List α) (j:Nat) {A:Option Addr} {n cap:Nat} {Hl:HL} {B:Option Addr} {m c':Nat} {tx:TypeId} (hn:n=l.length) (hsl:SlIs e T l A cap Hl) (hb:l.length+src.length <= 100000000)
  (hs:SrcIn P e (ap s.A s.Ts++F) B m src)
  (hk:∀ (A':Option Addr) (cap':Nat) (Hl':HL),(SlIs e T (l++src) A' cap' Hl' /\ (bU A -> bU A')) -> RD r P N D F w0 R hards Rd (LP j Hl' (C7 N i (.slice A' (n+src.length) cap') s)) Q)
  (h:vT P N j (zE i s) s=some (A,n,cap,T,B,m,c',tx,Hl):=by kernel_rfl) (hx:(hards.contains i,xO ix s)=(true,Rd):=by kernel_rfl):RDO r P N D F w0 R hards Rd i s Q:=by
 obtain ⟨o,a1,a2,t,e',q0,q1,q2,q3,q4,q5,q6,q7,q9,q10,q11⟩:=mu h
 obtain ⟨c,k,L,Bs,Ts⟩:=s
 unfold zE at q0
 simp only [Prod.mk.injEq] at hx
 cases c with
 | code c=>cases q0
 | ex c=>cases q0
 | ops _ _=>cases q0
 | drw ops li =>
  refine ⟨λ hR=>?_⟩
  simp only at q0 q3 q4 q5 q9 q10 q11
  have hperm:=gZ (A:=Bs) q9 q10
  have hpc:∀ v L',fe N o.dst v L=some L' -> C7 N i v ⟨.drw ops li,k,L,Bs,Ts⟩=⟨.drw ops (br li i true),k,L',Bs,Ts⟩:=by
   intro v L' hl
   unfold C7
   simp only [q0,hl]
  refine (p5 (Q:=Q) (by simpa using q0) (σ:=Option Addr × Nat × HL) (λ u y=>u=.slice y.1 (n+src.length) y.2.1 /\ (SlIs e T (l++src) y.1 y.2.1 y.2.2 /\ (bU A -> bU y.1))) (λ y=>ap Bs (y.2.2 :: (oth [j] Ts.length).filterMap (Ts[·]?))) q11 (λ a hF=>⟨by simp [Region.wanted,q1],λ w hRel hB=>?_⟩) (λ y=>⟨λ hi=>?_,λ hi x hm=>List.mem_append_left _ (sf ix hx.2 x hm)⟩) ?_:RDO r P N D F w0 R hards Rd i ⟨.drw ops li,k,L,Bs,Ts⟩ Q).h hR
  ·refine eI (ll (x:=.slice B m c') (src:=src) (G:=Bs++((oth [j] Ts.length).filterMap (Ts[·]?)).flatten) ok q2 q6 q3 q4 hn q5 hperm hsl (λ w hw=>by have h5:=hs.2 c' q7 [] w hw;rwa [<- ok.size] at h5) hb a hF w hRel) ?_
   rintro u w' ⟨y,h3,hR',hB'⟩
   refine ⟨y,h3,hR'.perm (List.Perm.append_right F ?_),hB'⟩
   show (Bs++(y.2.2 :: (oth [j] Ts.length).filterMap (Ts[·]?)).flatten).Perm _
   rw [List.flatten_cons,<- List.append_assoc,<- List.append_assoc]
   exact List.Perm.append_right _ List.perm_append_comm
  ·exact absurd (List.contains_iff_mem.1 hx.1) hi
  ·rintro u ⟨A',cap',Hl'⟩ ⟨rfl,h3⟩ L' hl hs
   have h1:=(hk A' cap' Hl' h3).h hR
   rw [hpc _ L' hl] at h1
   exact h1 hs
end
structure Rw where (A:Option Addr) (n c:Nat)
def mJ:Enc Rw:=⟨1,λ p k=>match k with | 0=>.slice p.A p.n p.c | _=>default,⟨none,0,0⟩⟩
noncomputable def Ng:TypeInfo:=match Tryz.prog.info? 54 with | some i=>i | none=>⟨.bool,"",0,0,false,0,0,none,false,#[]⟩
noncomputable def Nh:Value:=match Ng.zero with | some z=>z | none=>.bool false
theorem Gc:EncOk mJ Tryz.prog 54 Ng Nh where
 info:=by kernel_rfl
 zero:=by kernel_rfl
 size:=by kernel_rfl
 zsize:=by kernel_rfl
 zcell:=λ k hk=>by
  have h:∀ k < 1,Nh.cells[k]?=some (mJ.cell mJ.dflt k):=by intro k hk;(iterate 1 (rcases k with _ | k;· kernel_rfl));omega
  exact h k hk
 one:=λ x k=>by unfold mJ;dsimp only;split <;> rfl
 bytes:=Nat.le_of_ble_eq_true (by kernel_rfl)
inductive RwIn (F:HL) (xs:List Inp):Rw -> Prop
 | mk (b o N:Nat) (full:List Inp) (c:Nat) (hI:(b,.rows 3 N (kh full) 119 (0,0)) ∈ F) (hir:o+xs.length <= N) (hx:∀ k,k < xs.length -> full.getD (o+k) dI=xs.getD k dI) (hcap:xs.length <= c):RwIn F xs ⟨some ⟨b,o * 3,none⟩,xs.length,c⟩
structure RwsIn (F:HL) (rs:List Rw) (xss:List (List Inp)):Prop where
 len:rs.length=xss.length
 row:∀ k,k < rs.length -> RwIn F (xss.getD k []) (rs.getD k mJ.dflt)
def RwsT (rs:List Rw) (xss:List (List Inp)) (T:HL):Prop:=∀ F,(∀ x ∈ T,x ∈ F) -> RwsIn F rs xss
theorem RwIn.mono {F F':HL} {xs:List Inp} {p:Rw} (h:RwIn F xs p) (hs:∀ x ∈ F,x ∈ F'):RwIn F' xs p:=by
 cases h with
 | mk b o N full c hI hir hx hc=>exact .mk b o N full c (hs _ hI) hir hx hc
theorem RwsIn.mono {F F':HL} {rs:List Rw} {xss:List (List Inp)} (h:RwsIn F rs xss) (hs:∀ x ∈ F,x ∈ F'):RwsIn F' rs xss:=⟨h.len,λ k hk=>(h.row k hk).mono hs⟩
theorem RwsIn.get {F:HL} {rs:List Rw} {xss:List (List Inp)} (h:RwsIn F rs xss) {k:Nat} (hk:k < rs.length):∃ b o N full c,rs.getD k mJ.dflt=⟨some ⟨b,o * 3,none⟩,(xss.getD k []).length,c⟩ /\ (b,.rows 3 N (kh full) 119 (0,0)) ∈ F /\ o+(xss.getD k []).length <= N /\ (∀ i,i < (xss.getD k []).length -> full.getD (o+i) dI=(xss.getD k []).getD i dI) /\ (xss.getD k []).length <= c:=by
 have h1:=h.row k hk
 generalize rs.getD k mJ.dflt=p at h1 ⊢
 cases h1 with
 | mk b o N full c hI hir hx hc=>exact ⟨b,o,N,full,c,rfl,hI,hir,hx,hc⟩
theorem SlIs.rw {xs:List Inp} {A:Option Addr} {c:Nat} {T F:HL} (h:SlIs fI 119 xs A c T) (hF:∀ x ∈ T,x ∈ F) (h1:1 <= xs.length) {n:Nat} (hn:n=xs.length):RwIn F xs ⟨A,n,c⟩:=by
 subst hn
 rcases h with ⟨_,_,rfl,_⟩ | ⟨b,o,full,rfl,rfl,h2,h3,h4⟩
 ·simp at h1
 ·refine .mk b o (o+c) full c (hF _ (List.mem_singleton.2 rfl)) (by omega) (λ k hk=>?_) h3
  have h5:((full.drop o).take xs.length)[k]?=xs[k]?:=by rw [h4]
  rw [List.getElem?_take,if_pos hk,List.getElem?_drop] at h5
  rw [List.getD_eq_getElem?_getD,List.getD_eq_getElem?_getD,h5]
theorem RwsT.nil:RwsT [] [] []:=λ F _=>⟨rfl,λ k hk=>absurd hk (Nat.not_lt_zero _)⟩
theorem oI {α:Type} (l:List α) (x d:α) (k:Nat):(l++[x]).getD k d=if k < l.length then l.getD k d else if k=l.length then x else d:=by
 rw [List.getD_eq_getElem?_getD,List.getElem?_append]
 split
 ·rw [List.getD_eq_getElem?_getD]
 ·split
  ·next h=>subst h;simp
  ·rw [List.getElem?_eq_none (by simp;omega)];rfl
theorem RwsT.snoc {rs:List Rw} {xss:List (List Inp)} {T T1:HL} {xs:List Inp} {A:Option Addr} {c n:Nat} (h:RwsT rs xss T) (hs:SlIs fI 119 xs A c T1) (h1:1 <= xs.length) (hn:n=xs.length):RwsT (rs++[⟨A,n,c⟩]) (xss++[xs]) (T++T1):=λ F hF=>by
 have h2:=h F λ x hx=>hF x (List.mem_append_left _ hx)
 refine ⟨by simp [h2.len],λ k hk=>?_⟩
 rw [oI,oI,<- h2.len]
 by_cases hk1:k < rs.length
 ·rw [if_pos hk1,if_pos hk1];exact h2.row k hk1
 ·have:k=rs.length:=by simp at hk;omega
  rw [if_neg hk1,if_neg hk1,if_pos this,if_pos this]
  exact hs.rw (λ x hx=>hF x (List.mem_append_right _ hx)) h1 hn
theorem Lp (S:Setup) (A:Option Addr) (n cap:Nat) (xs:List Int) (t:Int) (F:HL) (hl:ArgL F A n xs) (hn:n <= 9223372036854775807) (hp:0 <= S.players /\ S.players <= 1000000) (ht:0 <= t /\ t <= 1000000):Sp Tryz.prog 58 #[Setup.v S,.slice A n cap,vI t] (ap [] []) F (λ u H'=>∃ x:Option Addr × Nat × HL,H'=ap [] [x.2.2] /\ (u=.slice x.1 S.players.toNat x.2.1 /\ SlIs fI 119 (rowL S.players xs t S.players.toNat) x.1 x.2.1 x.2.2 /\ bU x.1)):=Ie S A n cap xs t F hl hn hp ht
def C9 (G:Nat -> Gm) (M:MemS):Nat -> MemS
 | 0=>M
 | k+1=>nl (G k) (C9 G M k)
abbrev tq (S:Setup) (j:Nat × Int) (xs:List Inp):Gm:=gi S j xs.length xs
abbrev rG (S:Setup) (J:Nat -> Nat × Int) (xss:List (List Inp)):Nat -> Gm:=λ k=>tq S (J k) (xss.getD k [])
structure TkOk (S:Setup) (j:Nat × Int) (xs:List Inp) (M:MemS):Prop where
 ex:∃ m,m <= 999 /\ dG (tq S j xs) (m+1) M
 now:0 <= M.get 0
 ok:fp S.players xs.length xs (M.get 0)=0
theorem JT {g:Gm} {M:MemS} {m:Nat} (hm:m <= 999) (h:dG g (m+1) M):fU g (m+1) M=nl g M /\ fA g (m+1) M=NP g M:=by
 rw [nl,NP,Ev m 1000 M h (by omega)]
 exact ⟨rfl,rfl⟩
theorem rf {M N:MemS} (h:M.cs=N.cs) (i:Int):M.get i=N.get i:=by unfold MemS.get;rw [h]
theorem mK (g:Gm) (l:List (Int × Int)) (b:Int):∀ (n:Nat) (M:MemS),dG g n (M.sh l b) ↔ dG g n M
 | 0,_=>Iff.rfl
 | n+1,M=>by rw [dG,dG,Eu,kl,kl,yh,bF,mK g l b n];exact Iff.rfl
theorem yW {g:Gm} {M N:MemS} (h:M.cs=N.cs) (n:Nat) (hg:dG g n M):dG g n N:=by
 rw [<- qg M,mK] at hg
 rw [<- qg N,mK,<- h]
 exact hg
theorem TkOk.cs {S:Setup} {j:Nat × Int} {xs:List Inp} {M N:MemS} (e:M.cs=N.cs) (h:TkOk S j xs M):TkOk S j xs N:=by
 obtain ⟨m,h1,h2⟩:=h.ex
 exact ⟨⟨m,h1,yW e _ h2⟩,by rw [<- rf e];exact h.now,by rw [<- rf e];exact h.ok⟩
theorem xc (g:Gm) (M:MemS):(nl g M).base=M.base:=by
 have h:=congrArg MemS.base (congrArg (nl g) (qg M))
 rw [yi] at h
 exact h.symm
theorem CF (mb cb n:Nat) (A:Option Addr) (m cap:Nat) (base:Int) (F:HL) (hm:(mb,.lit [vS cb 0 n n,.slice A m cap,vI base] 186 (0,0)) ∈ F) (hb:0 <= base /\ base <= 1000000000) (hl:m <= 100000000):Sp Tryz.prog 72 #[vP mb 0] [] F (λ u H'=>u=vI (base+(m:Int)) /\ H'=[]):=by
 have h:=we mb cb n A m cap base F hm
 rwa [cV (by omega)] at h
theorem Lq {mb:Nat} {M:MemS} {k:Nat} {T F:HL} (h:MemH mb M k T) (hs:∀ x ∈ T,x ∈ F) (hb:0 <= M.base /\ M.base <= 1000000000):Sp Tryz.prog 72 #[vP mb 0] [] F (λ u H'=>u=vI (M.base+(M.lg.length:Int)) /\ H'=[]):=by
 have h1:=h.len2
 have h2:=wg h hs
 rwa [cV (by omega)] at h2
theorem NewS.sl0 {A':Option Addr} {cap':Nat} {Hl':HL} (h:NewS jT 192 ([]:List (Int × Int)) none A' cap' Hl'):SlIs jT 192 [] A' cap' Hl':=by
 rcases h with ⟨_,rfl,rfl,rfl⟩ | ⟨b,rfl,rfl,_⟩
 ·exact SlIs.nil _ _
 ·refine .inr ⟨b,0,List.replicate cap' jT.dflt,by simp,?_,by simp,Nat.zero_le _,rfl⟩
  have:=jD (e:=jT) [] cap'
  rw [List.nil_append] at this
  rw [this,Nat.zero_add]
theorem Sp.tl {P:Program} {f:FuncId} {args:Array Value} {H F:HL} {R:Value -> HL -> Prop} (h:Sp P f args H F R):Sp P f args H F (λ u H'=>∃ x,H'=ap [] [x] /\ R u x):=h.mono λ u H' h=>⟨H',(bC H').symm,h⟩
theorem Ni {P:Program} {sz:Nat} {tx e':TypeId} {a:Addr} {m c':Nat} {w:World} (hm:m=0) (hk:P.underlying tx=some (.slice e')):Src P sz tx (.slice (some a) m c') 0 [] w:=by
 subst hm
 exact Src.ofSlice w hk a 0 c' [] (by simp) (λ j u h=>by simp at h) (λ u h=>by simp at h)
theorem mL (mb cb n:Nat) (A:Option Addr) (m cap:Nat) (base:Int) (F:HL) (hm:(mb,.lit [vS cb 0 n n,.slice A m cap,vI base] 186 (0,0)) ∈ F) (hb:0 <= base /\ base <= 1000000000) (hl:m <= 100000000):Sp Tryz.prog 105 #[vP mb 0,vI (base+(m:Int))] [] F (λ u H'=>u=vI 0 /\ H'=[]):=by
 refine Sp.run Tryz.func105 rfl (mc hm mn) (A:=[]) (Ts:=[]) rfl λ w0=>?_
 refine ae 18 [.ro 0] λ _=>RN.em (base+(m:Int) < base) 5 (λ h1=>?_) λ h1=>?_
 ·(exfalso;omega)
 ·refine ae 5 [] λ _=>aj (CF mb cb n A m cap base _ (aw hm) hb hl)<|ae 4 [] λ _=>RN.em (base+(m:Int) > base+(m:Int)) 12 (λ h2=>?_) λ h2=>?_
  ·(exfalso;omega)
  ·refine ae 9 [] λ _=>?_
   exact RN.ret [] [] [] ⟨rfl,rfl⟩
theorem Ge (mb cb k:Nat) (M:MemS) (F:HL) (hb:0 <= M.base /\ M.base <= 1000000000) (hc:M.cs.length <= 1000000) (hk:k <= 100000000):Sp Tryz.prog 71 #[vP mb 0,vI (M.base+((0:Nat):Int))] [(mb,.lit [vS cb 0 M.cs.length M.cs.length,.slice none 0 0,vI M.base] 186 (0,0)),(cb,.rows 1 M.cs.length (aK M.cs) 3 (0,0))] F (λ u H'=>u=vI 0 /\ MemH mb ⟨M.cs,[],M.base+((0:Nat):Int)⟩ k H'):=by
 refine Sp.run Tryz.func71 rfl mn (A:=[(mb,.lit [vS cb 0 M.cs.length M.cs.length,.slice none 0 0,vI M.base] 186 (0,0)),(cb,.rows 1 M.cs.length (aK M.cs) 3 (0,0))]) (Ts:=[]) rfl λ w0=>?_
 refine ae 10 [] λ _=>aj (mL mb cb M.cs.length none 0 0 M.base _ (aB 0) hb (by omega))<|ai 40 [.own 0,.nw,.own 0,.own 0] [bd ((M.base+((0:Nat):Int)) - M.base)] λ _=>aJ 28 (congrArg (λ v_=>(vI v_:Value)) (show (M.base+((0:Nat):Int)) - M.base=0 by omega))<|ae 18 [.own 0,.own 0] λ _=>RN.em (0 < (M.base+((0:Nat):Int)) - M.base) 38 (λ h1=>?_) λ h1=>?_
 ·(exfalso;omega)
 ·refine ae 8 [] λ _=>RN.ret [] [0,1] [] (v:=vI 0) (H':=(ap [(mb,.lit [vS cb 0 M.cs.length M.cs.length,.slice none 0 0,vI (M.base+((0:Nat):Int))] 186 (0,0)),(cb,.rows 1 M.cs.length (aK M.cs) 3 (0,0))] [])) ?_
  refine ⟨rfl,?_⟩
  have h_:=MemH.mk (mb:=mb) (M:=⟨M.cs,[],M.base+((0:Nat):Int)⟩) (k:=k) cb none 0 ([]) (SlIs.nil _ _) hc (by simp;omega)
  simpa [ap] using h_
theorem Gf (mb cb k b o cap:Nat) (M:MemS) (full:List (Int × Int)) (F:HL) (hb:0 <= M.base /\ M.base <= 1000000000) (hc:M.cs.length <= 1000000) (hk:k <= 100000000) (hf:full.length=o+cap) (hn:M.lg.length=cap) (hl:M.lg.length <= 100000000):Sp Tryz.prog 71 #[vP mb 0,vI (M.base+(M.lg.length:Int))] [(mb,.lit [vS cb 0 M.cs.length M.cs.length,vS b (o * 2) M.lg.length cap,vI M.base] 186 (0,0)),(cb,.rows 1 M.cs.length (aK M.cs) 3 (0,0)),(b,.rows 2 (o+cap) (aZ jT full) 192 (0,0))] F (λ u H'=>u=vI 0 /\ MemH mb ⟨M.cs,[],M.base+(M.lg.length:Int)⟩ k H'):=by
 refine Sp.run Tryz.func71 rfl mn (A:=[(mb,.lit [vS cb 0 M.cs.length M.cs.length,vS b (o * 2) M.lg.length cap,vI M.base] 186 (0,0)),(cb,.rows 1 M.cs.length (aK M.cs) 3 (0,0)),(b,.rows 2 (o+cap) (aZ jT full) 192 (0,0))]) (Ts:=[]) rfl λ w0=>?_
 refine ae 10 [] λ _=>aj (mL mb cb M.cs.length (some ⟨b,o * 2,none⟩) M.lg.length cap M.base _ (aB 0) hb (by omega))<|ai 40 [.own 0,.nw,.own 0,.own 0] [bd ((M.base+(M.lg.length:Int)) - M.base)] λ _=>aJ 28 (congrArg (λ v_=>(vI v_:Value)) (show (M.base+(M.lg.length:Int)) - M.base=(M.lg.length:Int) by omega))<|ai 18 [.sl M.lg.length M.lg.length true,.own 0,.own 0] [(M.lg.length:Int)=((M.lg.length:Nat):Int) /\ M.lg.length=M.lg.length /\ M.lg.length <= M.lg.length /\ M.lg.length <= cap /\ cap=M.lg.length] λ _=>RN.em ((((M.lg.length - M.lg.length):Nat):Int) < (M.base+(M.lg.length:Int)) - M.base) 38 (λ h1=>?_) λ h1=>?_
 ·refine ae 7 [.own 0] λ _=>RN.nt<|i8 (A:=none) (B:=(some ⟨b,o * 2,none⟩)) (c':=(cap - M.lg.length)) xP ([]:List (Int × Int)) 0 (λ a_ e_=>by cases e_) (m:=(M.lg.length - M.lg.length)) (tx:=184) (by simp) (by simp) (λ e_ he X w hR=>Ni (by simp) he) ?_
  rintro A2 c3 T4 hs5
  refine ae 10 [.own 0] λ _=>RN.ret [] [0,1] [0] (v:=vI 0) (H':=(ap [(mb,.lit [vS cb 0 M.cs.length M.cs.length,.slice A2 0 c3,vI (M.base+(M.lg.length:Int))] 186 (0,0)),(cb,.rows 1 M.cs.length (aK M.cs) 3 (0,0))] [T4])) ?_
  refine ⟨rfl,?_⟩
  have h_:=MemH.mk (mb:=mb) (M:=⟨M.cs,[],M.base+(M.lg.length:Int)⟩) (k:=k) cb A2 c3 T4 hs5.sl0 hc (by simp;omega)
  exact h_
 ·refine ae 8 [] λ _=>RN.ret [] [0,1,2] [] (v:=vI 0) (H':=(ap [(mb,.lit [vS cb 0 M.cs.length M.cs.length,vS b (o * 2) (M.lg.length - M.lg.length) (cap - M.lg.length),vI (M.base+(M.lg.length:Int))] 186 (0,0)),(cb,.rows 1 M.cs.length (aK M.cs) 3 (0,0)),(b,.rows 2 (o+cap) (aZ jT full) 192 (0,0))] [])) ?_
  refine ⟨rfl,?_⟩
  rw [Nat.sub_self]
  have h_:=MemH.mk (mb:=mb) (M:=⟨M.cs,[],M.base+(M.lg.length:Int)⟩) (k:=k) cb (some ⟨b,o * 2,none⟩) (cap - M.lg.length) ([(b,.rows 2 (o+cap) (aZ jT full) 192 (0,0))]) (.inr ⟨b,o,full,rfl,by rw [show o+(cap - M.lg.length)=o+cap by omega];rfl,by omega,Nat.zero_le _,rfl⟩) hc (by simp;omega)
  simpa [ap] using h_
theorem Gg (mb cb k b o cap:Nat) (M:MemS) (full:List (Int × Int)) (F:HL) (hb:0 <= M.base /\ M.base <= 1000000000) (hc:M.cs.length <= 1000000) (hk:k <= 100000000) (hf:full.length=o+cap) (hn:M.lg.length < cap) (hl:M.lg.length <= 100000000):Sp Tryz.prog 71 #[vP mb 0,vI (M.base+(M.lg.length:Int))] [(mb,.lit [vS cb 0 M.cs.length M.cs.length,vS b (o * 2) M.lg.length cap,vI M.base] 186 (0,0)),(cb,.rows 1 M.cs.length (aK M.cs) 3 (0,0)),(b,.rows 2 (o+cap) (aZ jT full) 192 (0,0))] F (λ u H'=>u=vI 0 /\ MemH mb ⟨M.cs,[],M.base+(M.lg.length:Int)⟩ k H'):=by
 refine Sp.run Tryz.func71 rfl mn (A:=[(mb,.lit [vS cb 0 M.cs.length M.cs.length,vS b (o * 2) M.lg.length cap,vI M.base] 186 (0,0)),(cb,.rows 1 M.cs.length (aK M.cs) 3 (0,0)),(b,.rows 2 (o+cap) (aZ jT full) 192 (0,0))]) (Ts:=[]) rfl λ w0=>?_
 refine ae 10 [] λ _=>aj (mL mb cb M.cs.length (some ⟨b,o * 2,none⟩) M.lg.length cap M.base _ (aB 0) hb (by omega))<|ai 40 [.own 0,.nw,.own 0,.own 0] [bd ((M.base+(M.lg.length:Int)) - M.base)] λ _=>aJ 28 (congrArg (λ v_=>(vI v_:Value)) (show (M.base+(M.lg.length:Int)) - M.base=(M.lg.length:Int) by omega))<|ai 18 [.sl M.lg.length M.lg.length false,.own 0,.own 0] [(M.lg.length:Int)=((M.lg.length:Nat):Int) /\ M.lg.length=M.lg.length /\ M.lg.length <= M.lg.length /\ M.lg.length <= cap /\ cap ≠ M.lg.length] λ _=>RN.em ((((M.lg.length - M.lg.length):Nat):Int) < (M.base+(M.lg.length:Int)) - M.base) 38 (λ h1=>?_) λ h1=>?_
 ·refine ae 7 [.own 0] λ _=>RN.nt<|i8 (A:=none) (B:=(some ⟨b,(o * 2+M.lg.length * 2),none⟩)) (c':=(cap - M.lg.length)) xP ([]:List (Int × Int)) 0 (λ a_ e_=>by cases e_) (m:=(M.lg.length - M.lg.length)) (tx:=184) (by simp) (by simp) (λ e_ he X w hR=>Ni (by simp) he) ?_
  rintro A2 c3 T4 hs5
  refine ae 10 [.own 0] λ _=>RN.ret [] [0,1] [0] (v:=vI 0) (H':=(ap [(mb,.lit [vS cb 0 M.cs.length M.cs.length,.slice A2 0 c3,vI (M.base+(M.lg.length:Int))] 186 (0,0)),(cb,.rows 1 M.cs.length (aK M.cs) 3 (0,0))] [T4])) ?_
  refine ⟨rfl,?_⟩
  have h_:=MemH.mk (mb:=mb) (M:=⟨M.cs,[],M.base+(M.lg.length:Int)⟩) (k:=k) cb A2 c3 T4 hs5.sl0 hc (by simp;omega)
  exact h_
 ·refine ae 8 [] λ _=>RN.ret [] [0,1,2] [] (v:=vI 0) (H':=(ap [(mb,.lit [vS cb 0 M.cs.length M.cs.length,vS b (o * 2+M.lg.length * 2) (M.lg.length - M.lg.length) (cap - M.lg.length),vI (M.base+(M.lg.length:Int))] 186 (0,0)),(cb,.rows 1 M.cs.length (aK M.cs) 3 (0,0)),(b,.rows 2 (o+cap) (aZ jT full) 192 (0,0))] [])) ?_
  refine ⟨rfl,?_⟩
  rw [Nat.sub_self]
  have h_:=MemH.mk (mb:=mb) (M:=⟨M.cs,[],M.base+(M.lg.length:Int)⟩) (k:=k) cb (some ⟨b,o * 2+M.lg.length * 2,none⟩) (cap - M.lg.length) ([(b,.rows 2 (o+cap) (aZ jT full) 192 (0,0))]) (.inr ⟨b,o+M.lg.length,full,by rw [Nat.add_mul];rfl,by rw [show o+M.lg.length+(cap - M.lg.length)=o+cap by omega];rfl,by omega,Nat.zero_le _,rfl⟩) hc (by simp;omega)
  simpa [ap] using h_
theorem Gh {mb:Nat} {M:MemS} {k k2:Nat} {T:HL} (F:HL) (h:MemH mb M k T) (hb:0 <= M.base /\ M.base <= 1000000000) (hk:k2 <= 100000000):Sp Tryz.prog 71 #[vP mb 0,vI (M.base+(M.lg.length:Int))] (ap [] [T]) F (λ u H'=>∃ x,H'=ap [] [x] /\ (u=vI 0 /\ MemH mb ⟨M.cs,[],M.base+(M.lg.length:Int)⟩ k2 x)):=by
 rw [bC]
 cases h with
 | mk cb A cap Hl hs hc hl =>
  rcases hs with ⟨rfl,rfl,h1,rfl⟩ | ⟨b,o,full,rfl,rfl,h1,h2,h3⟩
  ·have e:M.lg.length=0:=by rw [h1];rfl
   rw [e]
   have key:=Ge mb cb k2 M F hb hc hk
   exact key.tl
  ·rcases Nat.lt_or_ge M.lg.length cap with h4 | h4
   ·have key:=Gg mb cb k2 b o cap M full F hb hc hk h1 h4 (by omega)
    exact key.tl
   ·have key:=Gf mb cb k2 b o cap M full F hb hc hk h1 (by omega) (by omega)
    exact key.tl
end Go.Proofs.YtgdcbiiopbpgaaaGreatDoor
