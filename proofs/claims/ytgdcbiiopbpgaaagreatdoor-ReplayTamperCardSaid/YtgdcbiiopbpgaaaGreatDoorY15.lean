import Derived.Test.YtgdcbiiopbpgaaaGreatDoorY14
import Derived.Test.YtgdcbiiopbpgaaaGreatDoorY07
import Derived.Test.YtgdcbiiopbpgaaaGreatDoorY06
set_option maxHeartbeats 4000000
set_option maxRecDepth 100000
set_option linter.unusedSimpArgs false
set_option linter.unusedVariables false
namespace Go.Proofs.YtgdcbiiopbpgaaaGreatDoor
open Go.RowKit Go.Shelf
section
variable {α:Type} {e:Enc α} {P:Program} {T:TypeId} {inf:TypeInfo} {z:Value} {l:List α} {A:Option Addr} {cap:Nat} {Hl F:HL}
theorem SlIs.toRowL(h:SlIs e T l A cap Hl)(hF:∀x∈Hl,x∈F):RowL e T F A l.length l:=by
 rcases h with ⟨rfl,rfl,rfl,rfl⟩|⟨b,o,full,rfl,rfl,h1,h2,h3⟩
 ·exact .zero _
 ·refine .rows b o (o+cap) full (0,0) _ l (hF _ (List.mem_singleton.2 rfl)) (by omega) rfl (λ k hk=>?_)
  have h4:((full.drop o).take l.length)[k]?=l[k]?:=by rw[h3]
  rw[List.getElem?_take,if_pos hk,List.getElem?_drop] at h4
  rw[List.getD_eq_getElem?_getD,List.getD_eq_getElem?_getD,h4]
theorem SlIs.one{x:α}{b:Nat}:SlIs e T [x] (some ⟨b,0,none⟩) 1 [(b,.rows e.w 1 (aJ e [x]) T (0,0))]:=.inr ⟨b,0,[x],by simp,by simp,rfl,Nat.le_refl _,rfl⟩
end
section
variable {r:Option Nat} {P:Program} {N:Nat} {D:List Deferred} {F:HL} {w0:World} {R:HL} {s:Cfg} {Q:Exit -> Act -> World -> Prop} {hards:List Nat} {Rd:HL}
def btC(i:Nat)(s:Cfg):Cfg:=match s with
 | ⟨c,k,L,A,Ts⟩=>⟨c,k,L,(oth [i] A.length).filterMap (A[·]?),[i].filterMap (A[·]?)::Ts⟩
theorem Cd{A:HL}{Ts:List HL}{i:Nat}(h:([i]++oth [i] A.length).isPerm (List.range A.length)=true):(ap ((oth [i] A.length).filterMap (A[·]?)) ([i].filterMap (A[·]?)::Ts)).Perm (ap A Ts):=by
 have hp:=fH A [i] (oth [i] A.length) h
 show ((oth [i] A.length).filterMap (A[·]?)++([i].filterMap (A[·]?)::Ts).flatten).Perm (A++Ts.flatten)
 rw[List.flatten_cons,<- List.append_assoc]
 exact(List.perm_append_comm.trans hp).append_right _
theorem ld(i:Nat)(hk:RN r P N D F w0 R (btC i s) Q)(h:([i]++oth [i] s.A.length).isPerm (List.range s.A.length)=true:=by kernel_rfl):RN r P N D F w0 R s Q:=by
 obtain⟨c,k,L,A,Ts⟩:=s
 exact⟨λ hR a w h1 h2 h3=>hk.h hR a w h1 (h2.perm ((Cd h).append_right F)) h3⟩
theorem Pn(i:Nat)(hk:RD r P N D F w0 R hards Rd (btC i s) Q)(h:([i]++oth [i] s.A.length).isPerm (List.range s.A.length)=true:=by kernel_rfl):RD r P N D F w0 R hards Rd s Q:=by
 obtain⟨c,k,L,A,Ts⟩:=s
 refine⟨λ hR hs=>?_⟩
 have h1:=hk.h hR hs
 intro hcl a hF
 exact JJ.perm _ _ _ _ _ (Cd h) (h1 hcl a hF)
theorem ja(t:Nat){u v:Value}(e:u=v)(hk:RD r P N D F w0 R hards Rd (svC t v s) Q)(h:s.L.lookup t=some u:=by kernel_rfl):RD r P N D F w0 R hards Rd s Q:=by
 subst e
 exact⟨λ hR hs hcl a hF=>hk.h hR hs hcl a (hF.fix h)⟩
variable {α:Type} {e:Enc α} {T:TypeId} {inf:TypeInfo} {z:Value}
theorem RN.appU(ok:EncOk e P T inf z)(l src:List α)(j:Nat){A:Option Addr}{n cap:Nat}{Hl:HL}{B:Option Addr}{m c':Nat}{tx:TypeId}(hn:n=l.length)(Uo:SlIs e T l A cap Hl)(hb:l.length+src.length <= 100000000)
  (hs:SrcIn P e (ap s.A s.Ts++F) B m src)
  (hk:∀ (A':Option Addr) (bY:Nat) (H_:HL),(SlIs e T (l++src) A' bY H_ /\ (cu A -> cu A')) -> RN r P N D F w0 R (NV j H_ (fD N (.slice A' (n+src.length) bY) s)) Q)
  (h:xb P N j (p7 s) s=some (A,n,cap,T,B,m,c',tx,Hl):=by kernel_rfl):RN r P N D F w0 R s Q:=by
 obtain⟨o,a1,a2,t,e',q0,q1,q2,q3,q4,q5,q6,q7,q9,Sc,Ui⟩:=m5 h
 refine⟨λ hR a w hF aT hB=>?_⟩
 obtain⟨c,k,L,Bs,Ts⟩:=s
 unfold p7 at q0
 cases c with
 | code c=>cases q0
 | ex c=>cases q0
 | drw _ _=>cases q0
 | ops ops i =>
  simp only at q0 q3 q4 q5 q9 Sc Ui hF aT
  have K_:ops.toList.drop i=o::ops.toList.drop (i+1):=by
   have iF:i<ops.toList.length:=(List.getElem?_eq_some_iff.1 q0).1
   rw[List.drop_eq_getElem_cons iF,(List.getElem?_eq_some_iff.1 q0).2]
  show wpListIn _ _ _ _ _ _ _ _
  rw[K_,wpListIn,if_pos (by simp[Region.wanted,q1])]
  refine⟨λ _ _=>trivial,?_⟩
  have rW:=iE (A:=Bs) q9 Sc
  refine gh (by rw[q2];intro c hc;cases hc) (lX (x:=.slice B m c') (src:=src) (G:=Bs++((oth [j] Ts.length).filterMap (Ts[·]?)).flatten) ok q2 q6 q3 q4 hn q5 rW Uo (λ w hw=>by have h5:=hs.2 c' q7 [] w hw;rwa [<- ok.size] at h5) hb a hF w aT) ?_
  rintro u w' ⟨⟨A',bY,H_⟩,⟨rfl,Vd⟩,Q1,Tn⟩
  obtain⟨L',p1⟩:=eJ Ui (.slice A' (n+src.length) bY)
  have hh:=(hk A' bY H_ Vd).h hR
  have RZ:fD N (.slice A' (n+src.length) bY) ⟨.ops ops i,k,L,Bs,Ts⟩=⟨.ops ops (i+1),k,L',Bs,Ts⟩:=by
   unfold fD
   simp only[q0,p1]
  rw[RZ] at hh
  refine hh _ w' (hF.put p1) (Q1.perm (List.Perm.append_right F ?_)) (hB.trans Tn)
  show (Bs++(H_::(oth [j] Ts.length).filterMap (Ts[·]?)).flatten).Perm _
  rw[List.flatten_cons,<- List.append_assoc,<- List.append_assoc]
  exact List.Perm.append_right _ List.perm_append_comm
theorem RDO.appU{i:Nat}(ix:List Nat)(ok:EncOk e P T inf z)(l src:List α)(j:Nat){A:Option Addr}{n cap:Nat}{Hl:HL}{B:Option Addr}{m c':Nat}{tx:TypeId}(hn:n=l.length)(Uo:SlIs e T l A cap Hl)(hb:l.length+src.length <= 100000000)
  (hs:SrcIn P e (ap s.A s.Ts++F) B m src)
  (hk:∀ (A':Option Addr) (bY:Nat) (H_:HL),(SlIs e T (l++src) A' bY H_ /\ (cu A -> cu A')) -> RD r P N D F w0 R hards Rd (NV j H_ (EQ N i (.slice A' (n+src.length) bY) s)) Q)
  (h:xb P N j (Bh i s) s=some (A,n,cap,T,B,m,c',tx,Hl):=by kernel_rfl) (hx:(hards.contains i,zf ix s)=(true,Rd):=by kernel_rfl):RDO r P N D F w0 R hards Rd i s Q:=by
 obtain⟨o,a1,a2,t,e',q0,q1,q2,q3,q4,q5,q6,q7,q9,Sc,Ui⟩:=m5 h
 obtain⟨c,k,L,Bs,Ts⟩:=s
 unfold Bh at q0
 simp only[Prod.mk.injEq] at hx
 cases c with
 | code c=>cases q0
 | ex c=>cases q0
 | ops _ _=>cases q0
 | drw ops li =>
  refine⟨λ hR=>?_⟩
  simp only at q0 q3 q4 q5 q9 Sc Ui
  have rW:=iE (A:=Bs) q9 Sc
  have RZ:∀v L',fg N o.dst v L=some L' -> EQ N i v ⟨.drw ops li,k,L,Bs,Ts⟩=⟨.drw ops (bz li i true),k,L',Bs,Ts⟩:=by
   intro v L' hl
   unfold EQ
   simp only[q0,hl]
  refine(qQ (Q:=Q) (by simpa using q0) (σ:=Option Addr × Nat × HL) (λ u y=>u=.slice y.1 (n+src.length) y.2.1 /\ (SlIs e T (l++src) y.1 y.2.1 y.2.2 /\ (cu A -> cu y.1))) (λ y=>ap Bs (y.2.2::(oth [j] Ts.length).filterMap (Ts[·]?))) Ui (λ a hF=>⟨by simp[Region.wanted,q1],λ w aT hB=>?_⟩) (λ y=>⟨λ hi=>?_,λ hi x hm=>List.mem_append_left _ (ti ix hx.2 x hm)⟩) ?_:RDO r P N D F w0 R hards Rd i ⟨.drw ops li,k,L,Bs,Ts⟩ Q).h hR
  ·refine eU (lX (x:=.slice B m c') (src:=src) (G:=Bs++((oth [j] Ts.length).filterMap (Ts[·]?)).flatten) ok q2 q6 q3 q4 hn q5 rW Uo (λ w hw=>by have h5:=hs.2 c' q7 [] w hw;rwa [<- ok.size] at h5) hb a hF w aT) ?_
   rintro u w' ⟨y,h3,Q1,Tn⟩
   refine⟨y,h3,Q1.perm (List.Perm.append_right F ?_),Tn⟩
   show (Bs++(y.2.2::(oth [j] Ts.length).filterMap (Ts[·]?)).flatten).Perm _
   rw[List.flatten_cons,<- List.append_assoc,<- List.append_assoc]
   exact List.Perm.append_right _ List.perm_append_comm
  ·exact absurd (List.contains_iff_mem.1 hx.1) hi
  ·rintro u ⟨A',bY,H_⟩ ⟨rfl,h3⟩ L' hl hs
   have h1:=(hk A' bY H_ h3).h hR
   rw[RZ _ L' hl] at h1
   exact h1 hs
end
structure Rw where (A:Option Addr) (n c:Nat)
def mP:Enc Rw:=⟨1,λ p k=>match k with|0=>.slice p.A p.n p.c|_=>default,⟨none,0,0⟩⟩
noncomputable def Po:TypeInfo:=match Tryz.prog.info? 54 with | some i=>i | none=>⟨.bool,"",0,0,false,0,0,none,false,#[]⟩
noncomputable def Pp:Value:=match Po.zero with|some z=>z|none=>.bool false
theorem Ce:EncOk mP Tryz.prog 54 Po Pp where
 info:=by kernel_rfl
 zero:=by kernel_rfl
 size:=by kernel_rfl
 zsize:=by kernel_rfl
 zcell:=λ k hk=>by
  have h:∀k<1,Pp.cells[k]?=some (mP.cell mP.dflt k):=by intro k hk;(iterate 1 (rcases k with _|k;· kernel_rfl));omega
  exact h k hk
 one:=λ x k=>by unfold mP;dsimp only;split <;> rfl
 bytes:=Nat.le_of_ble_eq_true (by kernel_rfl)
inductive RwIn(F:HL)(xs:List Inp):Rw -> Prop
 | mk (b o N:Nat) (full:List Inp) (c:Nat) (hI:(b,.rows 3 N (gc full) 119 (0,0))∈F) (hir:o+xs.length <= N) (hx:∀k,k<xs.length -> full.getD (o+k) dI=xs.getD k dI) (hcap:xs.length <= c):RwIn F xs ⟨some ⟨b,o*3,none⟩,xs.length,c⟩
structure RwsIn(F:HL)(rs:List Rw)(xss:List (List Inp)):Prop where
 len:rs.length=xss.length
 row:∀k,k<rs.length -> RwIn F (xss.getD k []) (rs.getD k mP.dflt)
def RwsT(rs:List Rw)(xss:List (List Inp))(T:HL):Prop:=∀F,(∀x∈T,x∈F) -> RwsIn F rs xss
theorem RwIn.mono{F F':HL}{xs:List Inp}{p:Rw}(h:RwIn F xs p)(hs:∀x∈F,x∈F'):RwIn F' xs p:=by
 cases h with
 | mk b o N full c hI hir hx hc=>exact .mk b o N full c (hs _ hI) hir hx hc
theorem RwsIn.mono{F F':HL}{rs:List Rw}{xss:List (List Inp)}(h:RwsIn F rs xss)(hs:∀x∈F,x∈F'):RwsIn F' rs xss:=⟨h.len,λ k hk=>(h.row k hk).mono hs⟩
theorem RwsIn.get{F:HL}{rs:List Rw}{xss:List (List Inp)}(h:RwsIn F rs xss){k:Nat}(hk:k<rs.length):∃b o N full c,rs.getD k mP.dflt=⟨some ⟨b,o*3,none⟩,(xss.getD k []).length,c⟩ /\ (b,.rows 3 N (gc full) 119 (0,0))∈F /\ o+(xss.getD k []).length <= N /\ (∀i,i<(xss.getD k []).length -> full.getD (o+i) dI=(xss.getD k []).getD i dI) /\ (xss.getD k []).length <= c:=by
 have h1:=h.row k hk
 generalize rs.getD k mP.dflt=p at h1 ⊢
 cases h1 with
 | mk b o N full c hI hir hx hc=>exact⟨b,o,N,full,c,rfl,hI,hir,hx,hc⟩
theorem SlIs.rw{xs:List Inp}{A:Option Addr}{c:Nat}{T F:HL}(h:SlIs eE 119 xs A c T)(hF:∀x∈T,x∈F)(h1:1 <= xs.length){n:Nat}(hn:n=xs.length):RwIn F xs ⟨A,n,c⟩:=by
 subst hn
 rcases h with ⟨_,_,rfl,_⟩|⟨b,o,full,rfl,rfl,h2,h3,h4⟩
 ·simp at h1
 ·refine .mk b o (o+c) full c (hF _ (List.mem_singleton.2 rfl)) (by omega) (λ k hk=>?_) h3
  have h5:((full.drop o).take xs.length)[k]?=xs[k]?:=by rw[h4]
  rw[List.getElem?_take,if_pos hk,List.getElem?_drop] at h5
  rw[List.getD_eq_getElem?_getD,List.getD_eq_getElem?_getD,h5]
theorem RwsT.nil:RwsT [] [] []:=λ F _=>⟨rfl,λ k hk=>absurd hk (Nat.not_lt_zero _)⟩
theorem pw{α:Type}(l:List α)(x d:α)(k:Nat):(l++[x]).getD k d=if k<l.length then l.getD k d else if k=l.length then x else d:=by
 rw[List.getD_eq_getElem?_getD,List.getElem?_append]
 split
 ·rw[List.getD_eq_getElem?_getD]
 ·split
  ·next h=>subst h;simp
  ·rw[List.getElem?_eq_none (by simp;omega)];rfl
theorem RwsT.snoc{rs:List Rw}{xss:List (List Inp)}{T T1:HL}{xs:List Inp}{A:Option Addr}{c n:Nat}(h:RwsT rs xss T)(hs:SlIs eE 119 xs A c T1)(h1:1 <= xs.length)(hn:n=xs.length):RwsT (rs++[⟨A,n,c⟩]) (xss++[xs]) (T++T1):=λ F hF=>by
 have h2:=h F λ x hx=>hF x (List.mem_append_left _ hx)
 refine⟨by simp[h2.len],λ k hk=>?_⟩
 rw[pw,pw,<- h2.len]
 by_cases Wg:k<rs.length
 ·rw[if_pos Wg,if_pos Wg];exact h2.row k Wg
 ·have:k=rs.length:=by simp at hk;omega
  rw[if_neg Wg,if_neg Wg,if_pos this,if_pos this]
  exact hs.rw (λ x hx=>hF x (List.mem_append_right _ hx)) h1 hn
def ET(G:Nat -> Gm)(M:MemS):Nat -> MemS
 | 0=>M
 | k+1=>oh (G k) (ET G M k)
abbrev uu(S:Setup)(j:Nat × Int)(xs:List Inp):Gm:=gC S j xs.length xs
abbrev rG(S:Setup)(J:Nat -> Nat × Int)(xss:List (List Inp)):Nat -> Gm:=λ k=>uu S (J k) (xss.getD k [])
structure TkOk(S:Setup)(j:Nat × Int)(xs:List Inp)(M:MemS):Prop where
 ex:∃m,m <= 999 /\ dQ (uu S j xs) (m+1) M
 now:0 <= M.get 0
 ok:fF S.players xs.length xs (M.get 0)=0
theorem LY{g:Gm}{M:MemS}{m:Nat}(hm:m <= 999)(h:dQ g (m+1) M):gn g (m+1) M=oh g M /\ fK g (m+1) M=PY g M:=by
 rw[oh,PY,Ge m 1000 M h (by omega)]
 exact⟨rfl,rfl⟩
theorem sc{M N:MemS}(h:M.cs=N.cs)(i:Int):M.get i=N.get i:=by unfold MemS.get;rw[h]
theorem nA(g:Gm)(l:List (Int × Int))(b:Int):∀ (n:Nat) (M:MemS),dQ g n (M.sh l b)↔dQ g n M
 | 0,_=>Iff.rfl
 | n+1,M=>by rw[dQ,dQ,Gc,kX,kX,zA,bH,nA g l b n];exact Iff.rfl
theorem Ah{g:Gm}{M N:MemS}(h:M.cs=N.cs)(n:Nat)(hg:dQ g n M):dQ g n N:=by
 rw[<- qZ M,nA] at hg
 rw[<- qZ N,nA,<- h]
 exact hg
theorem TkOk.cs{S:Setup}{j:Nat × Int}{xs:List Inp}{M N:MemS}(e:M.cs=N.cs)(h:TkOk S j xs M):TkOk S j xs N:=by
 obtain⟨m,h1,h2⟩:=h.ex
 exact⟨⟨m,h1,Ah e _ h2⟩,by rw[<- sc e];exact h.now,by rw[<- sc e];exact h.ok⟩
theorem yj(g:Gm)(M:MemS):(oh g M).base=M.base:=by
 have h:=congrArg MemS.base (congrArg (oh g) (qZ M))
 rw[zB] at h
 exact h.symm
theorem D4(mb cb n:Nat)(A:Option Addr)(m cap:Nat)(base:Int)(F:HL)(hm:(mb,.lit [vS cb 0 n n,.slice A m cap,vI base] 186 (0,0))∈F)(hb:0 <= base /\ base <= 1000000000)(hl:m <= 100000000):Sp Tryz.prog 72 #[vP mb 0] [] F (λ u H'=>u=vI (base+(m:Int)) /\ H'=[]):=by
 have h:=xn mb cb n A m cap base F hm
 rwa [cZ (by omega)] at h
theorem Nt{mb:Nat}{M:MemS}{k:Nat}{T F:HL}(h:MemH mb M k T)(hs:∀x∈T,x∈F)(hb:0 <= M.base /\ M.base <= 1000000000):Sp Tryz.prog 72 #[vP mb 0] [] F (λ u H'=>u=vI (M.base+(M.lg.length:Int)) /\ H'=[]):=by
 have h1:=h.len2
 have h2:=xo h hs
 rwa [cZ (by omega)] at h2
theorem NewS.sl0{A':Option Addr}{bY:Nat}{H_:HL}(h:NewS kz 192 ([]:List (Int × Int)) none A' bY H_):SlIs kz 192 [] A' bY H_:=by
 rcases h with ⟨_,rfl,rfl,rfl⟩|⟨b,rfl,rfl,_⟩
 ·exact SlIs.nil _ _
 ·refine .inr ⟨b,0,List.replicate bY kz.dflt,by simp,?_,by simp,Nat.zero_le _,rfl⟩
  have:=jZ (e:=kz) [] bY
  rw[List.nil_append] at this
  rw[this,Nat.zero_add]
theorem Sp.tl{P:Program}{f:FuncId}{args:Array Value}{H F:HL}{R:Value -> HL -> Prop}(h:Sp P f args H F R):Sp P f args H F (λ u H'=>∃x,H'=ap [] [x] /\ R u x):=h.mono λ u H' h=>⟨H',(bD H').symm,h⟩
theorem Pq{P:Program}{sz:Nat}{tx e':TypeId}{a:Addr}{m c':Nat}{w:World}(hm:m=0)(hk:P.underlying tx=some (.slice e')):Src P sz tx (.slice (some a) m c') 0 [] w:=by
 subst hm
 exact Src.ofSlice w hk a 0 c' [] (by simp) (λ j u h=>by simp at h) (λ u h=>by simp at h)
theorem nB(mb cb n:Nat)(A:Option Addr)(m cap:Nat)(base:Int)(F:HL)(hm:(mb,.lit [vS cb 0 n n,.slice A m cap,vI base] 186 (0,0))∈F)(hb:0 <= base /\ base <= 1000000000)(hl:m <= 100000000):Sp Tryz.prog 105 #[vP mb 0,vI (base+(m:Int))] [] F (λ u H'=>u=vI 0 /\ H'=[]):=by
 refine Sp.run Tryz.func105 rfl (mc hm mn) (A:=[]) (Ts:=[]) rfl λ w0=>?_
 refine ae 18 [.ro 0] λ _=>RN.em (base+(m:Int)<base) 5 (λ h1=>?_) λ h1=>?_
 ·(exfalso;omega)
 ·refine ae 5 [] λ _=>RN.cp (D4 mb cb n A m cap base _ (aq hm) hb hl)<|ae 4 [] λ _=>RN.em (base+(m:Int)>base+(m:Int)) 12 (λ h2=>?_) λ h2=>?_
  ·(exfalso;omega)
  ·refine ae 9 [] λ _=>?_
   exact RN.ret [] [] [] ⟨rfl,rfl⟩
theorem HO(mb cb k:Nat)(M:MemS)(F:HL)(hb:0 <= M.base /\ M.base <= 1000000000)(hc:M.cs.length <= 1000000)(hk:k <= 100000000):Sp Tryz.prog 71 #[vP mb 0,vI (M.base+((0:Nat):Int))] [(mb,.lit [vS cb 0 M.cs.length M.cs.length,.slice none 0 0,vI M.base] 186 (0,0)),(cb,.rows 1 M.cs.length (aN M.cs) 3 (0,0))] F (λ u H'=>u=vI 0 /\ MemH mb ⟨M.cs,[],M.base+((0:Nat):Int)⟩ k H'):=by
 refine Sp.run Tryz.func71 rfl mn (A:=[(mb,.lit [vS cb 0 M.cs.length M.cs.length,.slice none 0 0,vI M.base] 186 (0,0)),(cb,.rows 1 M.cs.length (aN M.cs) 3 (0,0))]) (Ts:=[]) rfl λ w0=>?_
 refine ae 10 [] λ _=>RN.cp (nB mb cb M.cs.length none 0 0 M.base _ (az 0) hb (by omega))<|ai 40 [.own 0,.nw,.own 0,.own 0] [aU ((M.base+((0:Nat):Int))-M.base)] λ _=>aB 28 (congrArg (λ v_=>(vI v_:Value)) (show (M.base+((0:Nat):Int))-M.base=0 by omega))<|ae 18 [.own 0,.own 0] λ _=>RN.em (0<(M.base+((0:Nat):Int))-M.base) 38 (λ h1=>?_) λ h1=>?_
 ·(exfalso;omega)
 ·refine ae 8 [] λ _=>RN.ret [] [0,1] [] (v:=vI 0) (H':=(ap [(mb,.lit [vS cb 0 M.cs.length M.cs.length,.slice none 0 0,vI (M.base+((0:Nat):Int))] 186 (0,0)),(cb,.rows 1 M.cs.length (aN M.cs) 3 (0,0))] [])) ?_
  refine⟨rfl,?_⟩
  have h_:=MemH.mk (mb:=mb) (M:=⟨M.cs,[],M.base+((0:Nat):Int)⟩) (k:=k) cb none 0 ([]) (SlIs.nil _ _) hc (by simp;omega)
  simpa [ap] using h_
theorem HP(mb cb k b o cap:Nat)(M:MemS)(full:List (Int × Int))(F:HL)(hb:0 <= M.base /\ M.base <= 1000000000)(hc:M.cs.length <= 1000000)(hk:k <= 100000000)(hf:full.length=o+cap)(hn:M.lg.length=cap)(hl:M.lg.length <= 100000000):Sp Tryz.prog 71 #[vP mb 0,vI (M.base+(M.lg.length:Int))] [(mb,.lit [vS cb 0 M.cs.length M.cs.length,vS b (o*2) M.lg.length cap,vI M.base] 186 (0,0)),(cb,.rows 1 M.cs.length (aN M.cs) 3 (0,0)),(b,.rows 2 (o+cap) (aJ kz full) 192 (0,0))] F (λ u H'=>u=vI 0 /\ MemH mb ⟨M.cs,[],M.base+(M.lg.length:Int)⟩ k H'):=by
 refine Sp.run Tryz.func71 rfl mn (A:=[(mb,.lit [vS cb 0 M.cs.length M.cs.length,vS b (o*2) M.lg.length cap,vI M.base] 186 (0,0)),(cb,.rows 1 M.cs.length (aN M.cs) 3 (0,0)),(b,.rows 2 (o+cap) (aJ kz full) 192 (0,0))]) (Ts:=[]) rfl λ w0=>?_
 refine ae 10 [] λ _=>RN.cp (nB mb cb M.cs.length (some ⟨b,o*2,none⟩) M.lg.length cap M.base _ (az 0) hb (by omega))<|ai 40 [.own 0,.nw,.own 0,.own 0] [aU ((M.base+(M.lg.length:Int))-M.base)] λ _=>aB 28 (congrArg (λ v_=>(vI v_:Value)) (show (M.base+(M.lg.length:Int))-M.base=(M.lg.length:Int) by omega))<|ai 18 [.sl M.lg.length M.lg.length true,.own 0,.own 0] [(M.lg.length:Int)=((M.lg.length:Nat):Int) /\ M.lg.length=M.lg.length /\ M.lg.length <= M.lg.length /\ M.lg.length <= cap /\ cap=M.lg.length] λ _=>RN.em ((((M.lg.length-M.lg.length):Nat):Int)<(M.base+(M.lg.length:Int))-M.base) 38 (λ h1=>?_) λ h1=>?_
 ·refine ae 7 [.own 0] λ _=>RN.nt<|jy (A:=none) (B:=(some ⟨b,o*2,none⟩)) (c':=(cap-M.lg.length)) zg ([]:List (Int × Int)) 0 (λ a_ e_=>by cases e_) (m:=(M.lg.length-M.lg.length)) (tx:=184) (by simp) (by simp) (λ e_ he X w hR=>Pq (by simp) he) ?_
  rintro A2 c3 T4 Sd
  refine ae 10 [.own 0] λ _=>RN.ret [] [0,1] [0] (v:=vI 0) (H':=(ap [(mb,.lit [vS cb 0 M.cs.length M.cs.length,.slice A2 0 c3,vI (M.base+(M.lg.length:Int))] 186 (0,0)),(cb,.rows 1 M.cs.length (aN M.cs) 3 (0,0))] [T4])) ?_
  refine⟨rfl,?_⟩
  have h_:=MemH.mk (mb:=mb) (M:=⟨M.cs,[],M.base+(M.lg.length:Int)⟩) (k:=k) cb A2 c3 T4 Sd.sl0 hc (by simp;omega)
  exact h_
 ·refine ae 8 [] λ _=>RN.ret [] [0,1,2] [] (v:=vI 0) (H':=(ap [(mb,.lit [vS cb 0 M.cs.length M.cs.length,vS b (o*2) (M.lg.length-M.lg.length) (cap-M.lg.length),vI (M.base+(M.lg.length:Int))] 186 (0,0)),(cb,.rows 1 M.cs.length (aN M.cs) 3 (0,0)),(b,.rows 2 (o+cap) (aJ kz full) 192 (0,0))] [])) ?_
  refine⟨rfl,?_⟩
  rw[Nat.sub_self]
  have h_:=MemH.mk (mb:=mb) (M:=⟨M.cs,[],M.base+(M.lg.length:Int)⟩) (k:=k) cb (some ⟨b,o*2,none⟩) (cap-M.lg.length) ([(b,.rows 2 (o+cap) (aJ kz full) 192 (0,0))]) (.inr ⟨b,o,full,rfl,by rw[show o+(cap-M.lg.length)=o+cap by omega];rfl,by omega,Nat.zero_le _,rfl⟩) hc (by simp;omega)
  simpa [ap] using h_
theorem HQ(mb cb k b o cap:Nat)(M:MemS)(full:List (Int × Int))(F:HL)(hb:0 <= M.base /\ M.base <= 1000000000)(hc:M.cs.length <= 1000000)(hk:k <= 100000000)(hf:full.length=o+cap)(hn:M.lg.length<cap)(hl:M.lg.length <= 100000000):Sp Tryz.prog 71 #[vP mb 0,vI (M.base+(M.lg.length:Int))] [(mb,.lit [vS cb 0 M.cs.length M.cs.length,vS b (o*2) M.lg.length cap,vI M.base] 186 (0,0)),(cb,.rows 1 M.cs.length (aN M.cs) 3 (0,0)),(b,.rows 2 (o+cap) (aJ kz full) 192 (0,0))] F (λ u H'=>u=vI 0 /\ MemH mb ⟨M.cs,[],M.base+(M.lg.length:Int)⟩ k H'):=by
 refine Sp.run Tryz.func71 rfl mn (A:=[(mb,.lit [vS cb 0 M.cs.length M.cs.length,vS b (o*2) M.lg.length cap,vI M.base] 186 (0,0)),(cb,.rows 1 M.cs.length (aN M.cs) 3 (0,0)),(b,.rows 2 (o+cap) (aJ kz full) 192 (0,0))]) (Ts:=[]) rfl λ w0=>?_
 refine ae 10 [] λ _=>RN.cp (nB mb cb M.cs.length (some ⟨b,o*2,none⟩) M.lg.length cap M.base _ (az 0) hb (by omega))<|ai 40 [.own 0,.nw,.own 0,.own 0] [aU ((M.base+(M.lg.length:Int))-M.base)] λ _=>aB 28 (congrArg (λ v_=>(vI v_:Value)) (show (M.base+(M.lg.length:Int))-M.base=(M.lg.length:Int) by omega))<|ai 18 [.sl M.lg.length M.lg.length false,.own 0,.own 0] [(M.lg.length:Int)=((M.lg.length:Nat):Int) /\ M.lg.length=M.lg.length /\ M.lg.length <= M.lg.length /\ M.lg.length <= cap /\ cap≠M.lg.length] λ _=>RN.em ((((M.lg.length-M.lg.length):Nat):Int)<(M.base+(M.lg.length:Int))-M.base) 38 (λ h1=>?_) λ h1=>?_
 ·refine ae 7 [.own 0] λ _=>RN.nt<|jy (A:=none) (B:=(some ⟨b,(o*2+M.lg.length*2),none⟩)) (c':=(cap-M.lg.length)) zg ([]:List (Int × Int)) 0 (λ a_ e_=>by cases e_) (m:=(M.lg.length-M.lg.length)) (tx:=184) (by simp) (by simp) (λ e_ he X w hR=>Pq (by simp) he) ?_
  rintro A2 c3 T4 Sd
  refine ae 10 [.own 0] λ _=>RN.ret [] [0,1] [0] (v:=vI 0) (H':=(ap [(mb,.lit [vS cb 0 M.cs.length M.cs.length,.slice A2 0 c3,vI (M.base+(M.lg.length:Int))] 186 (0,0)),(cb,.rows 1 M.cs.length (aN M.cs) 3 (0,0))] [T4])) ?_
  refine⟨rfl,?_⟩
  have h_:=MemH.mk (mb:=mb) (M:=⟨M.cs,[],M.base+(M.lg.length:Int)⟩) (k:=k) cb A2 c3 T4 Sd.sl0 hc (by simp;omega)
  exact h_
 ·refine ae 8 [] λ _=>RN.ret [] [0,1,2] [] (v:=vI 0) (H':=(ap [(mb,.lit [vS cb 0 M.cs.length M.cs.length,vS b (o*2+M.lg.length*2) (M.lg.length-M.lg.length) (cap-M.lg.length),vI (M.base+(M.lg.length:Int))] 186 (0,0)),(cb,.rows 1 M.cs.length (aN M.cs) 3 (0,0)),(b,.rows 2 (o+cap) (aJ kz full) 192 (0,0))] [])) ?_
  refine⟨rfl,?_⟩
  rw[Nat.sub_self]
  have h_:=MemH.mk (mb:=mb) (M:=⟨M.cs,[],M.base+(M.lg.length:Int)⟩) (k:=k) cb (some ⟨b,o*2+M.lg.length*2,none⟩) (cap-M.lg.length) ([(b,.rows 2 (o+cap) (aJ kz full) 192 (0,0))]) (.inr ⟨b,o+M.lg.length,full,by rw[Nat.add_mul];rfl,by rw[show o+M.lg.length+(cap-M.lg.length)=o+cap by omega];rfl,by omega,Nat.zero_le _,rfl⟩) hc (by simp;omega)
  simpa [ap] using h_
theorem HS{mb:Nat}{M:MemS}{k k2:Nat}{T:HL}(F:HL)(h:MemH mb M k T)(hb:0 <= M.base /\ M.base <= 1000000000)(hk:k2 <= 100000000):Sp Tryz.prog 71 #[vP mb 0,vI (M.base+(M.lg.length:Int))] (ap [] [T]) F (λ u H'=>∃x,H'=ap [] [x] /\ (u=vI 0 /\ MemH mb ⟨M.cs,[],M.base+(M.lg.length:Int)⟩ k2 x)):=by
 rw[bD]
 cases h with
 | mk cb A cap Hl hs hc hl =>
  rcases hs with ⟨rfl,rfl,h1,rfl⟩|⟨b,o,full,rfl,rfl,h1,h2,h3⟩
  ·have e:M.lg.length=0:=by rw[h1];rfl
   rw[e]
   have key:=HO mb cb k2 M F hb hc hk
   exact key.tl
  ·rcases Nat.lt_or_ge M.lg.length cap with h4|h4
   ·have key:=HQ mb cb k2 b o cap M full F hb hc hk h1 h4 (by omega)
    exact key.tl
   ·have key:=HP mb cb k2 b o cap M full F hb hc hk h1 (by omega) (by omega)
    exact key.tl
theorem HT{n:Int}(h:ol n):0 <= rf n /\ rf n<1000:=cq h 1000 (by decide)
theorem vJ{n m:Int}(h0:0 <= n)(h1:n<m):au n m=n:=by
 unfold au
 rw[if_neg (by omega)]
 exact Int.tmod_eq_of_lt h0 h1
theorem Ai{n:Int}(h:ol n):cP (rf n)=cP n:=by
 have hb:=HT h
 have e:rf (rf n)=rf n:=vJ hb.1 hb.2
 unfold cP oX
 rw[e]
theorem D5:∀k:Fin 1000,kC ⟨(cP ((k.1:Nat):Int)).1,(cP ((k.1:Nat):Int)).2,none,0⟩:=by decide +kernel
theorem HU{n:Int}(h:ol n)(A:Option Addr)(c:Nat):kC ⟨(cP n).1,(cP n).2,A,c⟩:=by
 have hb:=HT h
 have:=D5 ⟨(rf n).toNat,by omega⟩
 simp only at this
 rw[Int.toNat_of_nonneg hb.1,Ai h] at this
 exact this
theorem Nv(i:Nat):0 <= ([1024,1024,512,2048,0]:List Int).getD i 0 /\ ([1024,1024,512,2048,0]:List Int).getD i 0 <= 4096:=by
 rcases i with _|_|_|_|_|i
 all_goals first|decide|simp
section
variable {xs:List Int} {F:HL} {A:Option Addr} {n:Nat} {S:Setup} {T:HL}
theorem KT(hl:ArgL F A n xs)(k:Nat)(B:Option Addr)(c:Nat):fv (tP xs k B c) ⟨-12000,-9000,12000,9000⟩:=by
 have h1:=ie hl (4+2*k)
 have h2:=ie hl (5+2*k)
 have h3:=Nv ((bM xs k / 5000) % 5).toNat
 simp only[fv,tP,tR,xf,and_true]
 rw[show kv xs (4+2*k)=bN xs k from rfl] at h1
 rw[show kv xs (5+2*k)=bM xs k from rfl] at h2
 refine⟨h3,⟨⟨?_,?_⟩,?_,?_⟩,⟨?_,?_⟩,⟨?_,?_⟩,⟨?_,?_⟩,?_,?_⟩ <;> omega
theorem HV(i:Nat):(j0 i:Int) <= 16 /\ ∀k,k<j0 i -> rv 3 ((lB i).getD k ne.dflt):=by
 rcases i with _|_|i
 ·exact⟨by decide,λ k hk=>absurd hk (Nat.not_lt_zero _)⟩
 ·exact⟨by decide,by decide⟩
 ·exact⟨by show ((2:Nat):Int) <= 16;decide,by show ∀k,k<2 -> rv 3 (([⟨0,2⟩,⟨1,2⟩]:List Dr).getD k ne.dflt);decide⟩
theorem D6(hl:ArgL F A n xs)(h:SetG xs S T):i0 S vi (lB (kv xs 3 % 3).toNat)=0:=by
 have h1:=qx hl
 have h2:=vj hl
 have hn:=h.nb
 have k0:=ie hl 0
 have k1:=ie hl 1
 have k2:=ie hl 2
 obtain⟨e1,e2,e3,e4,e5,e6,e7,e8⟩:=h.nums
 obtain⟨⟨m1,m2⟩,-⟩:=h.maps
 have hd:=HV (kv xs 3 % 3).toNat
 unfold i0
 rw[if_pos,if_pos,if_pos]
 ·intro k hk
  obtain⟨B,c,hb⟩:=h.bod k hk
  rw[hb,e1]
  exact KT hl k B c
 ·refine⟨?_,?_,⟨?_,?_⟩,?_,?_⟩
  ·have IF:=h.pl
   simp only[jz,tR,xf,and_true,e2,e3,e4,e5,e6,e7,e8,IF]
   refine⟨⟨?_,?_⟩,⟨?_,?_⟩,⟨?_,?_⟩,⟨⟨?_,?_⟩,?_,?_⟩,⟨?_,?_⟩,⟨⟨?_,?_⟩,?_,?_⟩,⟨?_,?_⟩,?_,?_⟩ <;> omega
  ·rw[e1];decide
  ·rw[m1];decide
  ·rw[m2];exact hd.1
  ·rw[m1];decide
  ·rw[m1,m2];exact hd.2
 ·intro k hk
  obtain⟨B,c,hb⟩:=h.bod k hk
  rw[hb]
  have:=ie hl (4+2*k)
  exact HU ⟨by show _ <= kv xs (4+2*k);omega,by show kv xs (4+2*k) <= _;omega⟩ B c
end
theorem Sp.den{P:Program}{f:FuncId}{args:Array Value}{H F F':HL}{R:Value -> HL -> Prop}(h:Sp P f args H F R)(e:dT F=dT F'):Sp P f args H F' R:=by
 have e2:∀X:HL,dT (X++F)=dT (X++F'):=λ X=>by simp only[dT,List.map_append] at e ⊢;rw[e]
 intro w hR
 refine(h w (hR.den (e2 H).symm)).mono ?_
 rintro e' w' ⟨v,H',h1,h2,h3,h4⟩
 exact⟨v,H',h1,h2,h3.den (e2 H'),h4⟩
def ArgD(F:HL)(A:Option Addr)(n:Nat)(xs:List Int):Prop:=∃F',dT F'=dT F /\ ArgL F' A n xs
theorem ArgL.d{F F':HL}{A:Option Addr}{n:Nat}{xs:List Int}(h:ArgL F A n xs)(e:dT F=dT F'):ArgD F' A n xs:=⟨F,e,h⟩
theorem ArgD.up{F X:HL}{A:Option Addr}{n:Nat}{xs:List Int}(h:ArgD F A n xs):ArgD (X++F) A n xs:=by
 obtain⟨F',e,h⟩:=h
 exact⟨X++F',by simp only[dT,List.map_append] at e ⊢;rw[e],h.up⟩
theorem ArgD.ex{F:HL}{A:Option Addr}{n:Nat}{xs:List Int}(h:ArgD F A n xs):∃F',ArgL F' A n xs:=by
 obtain⟨F',e,h⟩:=h
 exact⟨F',h⟩
theorem ArgD.use{F:HL}{A:Option Addr}{n:Nat}{xs:List Int}(h:ArgD F A n xs){P:Program}{f:FuncId}{args:Array Value}{H:HL}{R:Value -> HL -> Prop}(k:∀F',ArgL F' A n xs -> Sp P f args H F' R):Sp P f args H F R:=by
 obtain⟨F',e,h⟩:=h
 exact(k F' h).den e

noncomputable section
end
structure GF(xs:List Int)(S:Setup):Prop where
 pl:1 <= S.players /\ S.players <= 3
 nb:1 <= S.nb /\ S.nb <= 5
 rn:S.rn=3
 dn:S.dn <= 2
 sz:48 <= sizeOf S /\ sizeOf S <= 100
 val:i0 S vi (lB (kv xs 3 % 3).toNat)=0
theorem Nw{F:HL}{A:Option Addr}{n:Nat}{xs:List Int}(hl:ArgD F A n xs){S:Setup}{T:HL}(h:SetG xs S T):GF xs S:=by
 obtain⟨F',hl⟩:=hl.ex
 have h1:=qx hl
 have h2:=vj hl
 have hn:=h.nb
 have hp:=h.pl
 obtain⟨⟨m1,m2⟩,-⟩:=h.maps
 have hd:j0 (kv xs 3 % 3).toNat <= 2:=by
  generalize (kv xs 3 % 3).toNat=i
  rcases i with _|_|i
  ·exact Nat.zero_le _
  ·exact Nat.le_of_ble_eq_true rfl
  ·exact Nat.le_refl 2
 exact⟨by omega,by omega,m1,by omega,by unfold sizeOf;omega,D6 hl h⟩
structure SetV(S:Setup):Prop where
 pl:1 <= S.players /\ S.players <= 3
 nb:1 <= S.nb /\ S.nb <= 5
 ro:1 <= S.rounds /\ S.rounds <= 3
 fu:0 <= S.fuel /\ S.fuel <= 60
theorem aK(M:MemS)(i v:Int):(M.set i v).cs.length=M.cs.length:=by
 unfold MemS.set;split <;> simp
theorem bE{M:MemS}{i v j:Int}(h:j≠i):(M.set i v).get j=M.get j:=by
 unfold MemS.set
 split
 ·next hi =>
  unfold MemS.get
  simp only[List.length_set]
  split
  ·next hj =>
   rw[List.getD_eq_getElem?_getD,List.getD_eq_getElem?_getD,List.getElem?_set_ne (by omega)]
  ·rfl
 ·rfl
theorem jC{M:MemS}{i v:Int}(h:0 <= i /\ i<M.cs.length):(M.set i v).get i=v:=by
 unfold MemS.set
 rw[if_pos h]
 unfold MemS.get
 simp only[List.length_set]
 rw[if_pos h,List.getD_eq_getElem?_getD,List.getElem?_set_self (by omega)]
 rfl
theorem bS{M:MemS}{i v:Int}(h:48 <= M.cs.length)(h0:0 <= i)(h1:i<48)(j:Int):(M.set i v).get j=if j=i then v else M.get j:=by
 by_cases e:j=i
 ·rw[if_pos e,e,jC (by omega)]
 ·rw[if_neg e,bE e]
theorem oD{S:Setup}(hp:0 <= S.players)(k:Int):af S k=-1 \/ (0 <= k /\ k<S.nb /\ af S k=48+4*S.players+8*k):=by
 unfold af
 split
 ·exact .inl rfl
 ·split
  ·exact .inl rfl
  ·exact .inr ⟨by omega,by omega,rfl⟩
theorem uv{S:Setup}(k:Int):(ah S k=-1 /\ (k<0 \/ S.players <= k)) \/ (0 <= k /\ k<S.players /\ ah S k=48+4*k):=by
 unfold ah
 split
 ·exact .inl ⟨rfl,by omega⟩
 ·split
  ·exact .inl ⟨rfl,by omega⟩
  ·exact .inr ⟨by omega,by omega,rfl⟩
structure Hi(P:Int)(M M':MemS):Prop where
 len:M'.cs.length=M.cs.length
 get:∀j,j<48+4*P -> M'.get j=M.get j
theorem Hi.refl{P:Int}{M:MemS}:Hi P M M:=⟨rfl,λ _ _=>rfl⟩
theorem Hi.set{P:Int}{A M:MemS}(h:Hi P A M){k:Int}(hk:48+4*P <= k)(v:Int):Hi P A (M.set k v):=⟨(aK _ _ _).trans h.len,λ j hj=>(bE (by omega)).trans (h.get j hj)⟩
theorem Hi.setB{S:Setup}(hp:0 <= S.players){A M:MemS}(h:Hi S.players A M){k c:Int}(hb:af S k >= 0)(hc:0 <= c)(v:Int):Hi S.players A (M.set (af S k+c) v):=by
 rcases oD hp k with e|⟨h0,h1,e⟩
 ·omega
 ·exact h.set (by omega) v
structure Kp(P:Int)(M M':MemS):Prop where
 len:M'.cs.length=M.cs.length
 get:∀j,j <= 5 \/ (48 <= j /\ j<48+4*P) -> M'.get j=M.get j
theorem Kp.refl{P:Int}{M:MemS}:Kp P M M:=⟨rfl,λ _ _=>rfl⟩
theorem Kp.set{P:Int}{A M:MemS}(h:Kp P A M){k:Int}(hk:5<k /\ (k<48 \/ 48+4*P <= k))(v:Int):Kp P A (M.set k v):=⟨(aK _ _ _).trans h.len,λ j hj=>(bE (by omega)).trans (h.get j hj)⟩
theorem Kp.trans{P:Int}{A B C:MemS}(h:Kp P A B)(h':Kp P B C):Kp P A C:=⟨h'.len.trans h.len,λ j hj=>(h'.get j hj).trans (h.get j hj)⟩
structure Ef(M:MemS)(r:VR):Prop where
 yes:r.em=true -> r.e.t=M.get 0 /\ r.e.i=M.get 11 /\ M.get 11<40 /\ r.M.get 11=M.get 11+1
 no:r.em=false -> r.M.get 11=M.get 11
theorem QQ{op:Int}(h:1 <= op /\ op <= 21):(0 <= eP op /\ eP op <= 2) /\ (0 <= eQ op /\ eQ op <= 1):=by
 obtain⟨n,rfl⟩:=Int.eq_ofNat_of_zero_le (show 0 <= op by omega)
 have hn:n<22:=by omega
 have key:∀n:Fin 22,(0 <= (nY.getD n.1 (0,0,0)).1 /\ (nY.getD n.1 (0,0,0)).1 <= 2) /\ (0 <= (nY.getD n.1 (0,0,0)).2.1 /\ (nY.getD n.1 (0,0,0)).2.1 <= 1):=by decide
 exact key ⟨n,hn⟩
theorem HW{op n sp:Int}(h:eY op n sp=true):(1 <= op /\ op <= 21) /\ sp <= 16 /\ eP op <= sp /\ ¬ bg (bg (sp-eP op)+eQ op)>16 /\ (eN op=0 \/ (0 <= n /\ n<eN op)):=by
 unfold eY at h
 split at h
 ·cases h
 split at h
 ·cases h
 split at h
 ·cases h
 split at h
 ·cases h
 split at h
 ·cases h
 refine⟨by omega,by omega,by omega,by assumption,?_⟩
 split at h
 ·left;assumption
 ·split at h
  ·right;exact⟨by omega,of_decide_eq_true h⟩
  ·cases h
theorem KU{M:MemS}{P k v:Int}(hl:48 <= M.cs.length)(h0:0 <= M.get 11 /\ M.get 11 <= 40):Kp P M (cR k v M).M /\ (cR k v M).M.get 8=M.get 8 /\ Ef M (cR k v M):=by
 unfold cR
 split
 ·exact⟨.refl,rfl,⟨λ h=>by simp at h,λ _=>rfl⟩⟩
 ·refine⟨((Kp.refl).set (by omega) _).set (by omega) _,?_,⟨λ _=>⟨rfl,rfl,by omega,?_⟩,λ h=>by simp at h⟩⟩
  ·simp only
   rw[bE (by decide),bE (by decide)]
  ·simp only
   rw[jC (by rw[aK];omega),cZ (by omega)]
def Gd(P:Int)(M:MemS)(r:VR):Prop:=Kp P M r.M /\ r.M.get 8=M.get 8 /\ Ef M r
theorem nC{P:Int}{M:MemS}{c:Prop}[Decidable c]{x y:VR}(hx:c -> Gd P M x)(hy:¬ c -> Gd P M y):Gd P M (if c then x else y):=by
 split
 ·exact hx (by assumption)
 ·exact hy (by assumption)
theorem Gd.base{P:Int}{M:MemS}{v:Int}:Gd P M ⟨M,v,bA,false⟩:=⟨.refl,rfl,⟨λ h=>by simp at h,λ _=>rfl⟩⟩
theorem Gd.st{P:Int}{M:MemS}{k v u:Int}(hk:(5<k /\ k≠8 /\ k≠11) /\ (k<48 \/ 48+4*P <= k)):Gd P M ⟨M.set k v,u,bA,false⟩ :=
 ⟨(Kp.refl).set (by omega) _,bE (by omega),⟨λ h=>by simp at h,λ _=>bE (by omega)⟩⟩
theorem Gd.mite{P:Int}{M X Y:MemS}{c:Prop}[Decidable c]{u:Int}(hx:c -> Gd P M ⟨X,u,bA,false⟩)(hy:¬ c -> Gd P M ⟨Y,u,bA,false⟩):Gd P M ⟨if c then X else Y,u,bA,false⟩:=by
 split
 ·exact hx (by assumption)
 ·exact hy (by assumption)
theorem KV{S:Setup}(hS:SetV S){M:MemS}{op n a b:Int}(hl:48 <= M.cs.length)(h0:0 <= M.get 11 /\ M.get 11 <= 40)(hn:eN op=0 \/ (0 <= n /\ n<eN op)):Gd S.players M (aE S op n a b M):=by
 have IF:=hS.pl
 have WL:=hS.nb
 unfold aE
 iterate 14 (refine nC (λ _=>.base) λ _=>?_)
 refine nC (λ e=>?_) λ _=>?_
 ·subst e
  have Ru:0 <= n /\ n<16:=by
   rcases hn with h|h
   ·exact absurd h (by decide)
   ·exact h
  rw[cZ (by omega)]
  exact .st (by omega)
 refine nC (λ _=>.base) λ _=>?_
 refine nC (λ e=>?_) λ _=>?_
 ·subst e
  have h8:0 <= n /\ n<8:=by
   rcases hn with h|h
   ·exact absurd h (by decide)
   ·exact h
  refine Gd.mite (λ hb=>?_) λ _=>.base
  rcases oD (S:=S) (by omega) a with e|⟨b0,b1,e⟩
  ·omega
  ·rw[cZ (by omega)]
   exact .st (by omega)
 refine nC (λ _=>.st (by omega)) λ _=>?_
 refine nC (λ _=>.mite (λ _=>.st (by omega)) λ _=>.base) λ _=>?_
 refine nC (λ _=>?_) λ _=>.base
 obtain⟨q1,q2,q3⟩:=KU (P:=S.players) (k:=a) (v:=b) hl h0
 exact⟨q1,q2,⟨q3.yes,q3.no⟩⟩
theorem KW{P:Int}{M:MemS}{op sp pc fuel:Int}(hl:48 <= M.cs.length):Kp P M (dJ op sp pc fuel M) /\ (dJ op sp pc fuel M).get 8=bg (fuel-1) /\ (dJ op sp pc fuel M).get 11=M.get 11:=by
 unfold dJ
 split
 ·exact⟨((Kp.refl).set (by omega) _).set (by omega) _,by rw[bE (by decide),jC (by omega)],by rw[bE (by decide),bE (by decide)]⟩
 ·exact⟨(((Kp.refl).set (by omega) _).set (by omega) _).set (by omega) _,by rw[bE (by decide),bE (by decide),jC (by omega)],by rw[bE (by decide),bE (by decide),bE (by decide)]⟩
theorem yl{S:Setup}(hS:SetV S){M:MemS}{code:List Ins}{n:Nat}(hl:48 <= M.cs.length)(h0:0 <= M.get 11 /\ M.get 11 <= 40)(hf:0 <= M.get 8 /\ M.get 8 <= 60) :
  Kp S.players M (ak S code n M).M /\ Ef M (ak S code n M) /\ ((dX code n M /\ (ak S code n M).M.get 8=M.get 8-1 /\ 1 <= M.get 8) \/ (¬ dX code n M /\ bx code n M=true /\ (ak S code n M).M.get 8=M.get 8)):=by
 unfold ak
 by_cases hr:dX code n M
 ·rw[if_pos hr]
  obtain⟨r1,r2,r3,r4⟩:=hr
  obtain⟨x1,x2,x3,x4,x5⟩:=HW r4
  have hp:=KW (P:=S.players) (op:=(bq code M).op) (sp:=M.get 7) (pc:=M.get 6) (fuel:=M.get 8) hl
  generalize hM1:dJ (bq code M).op (M.get 7) (M.get 6) (M.get 8) M=M1 at *
  obtain⟨p1,p2,p3⟩:=hp
  rw[cZ (by omega)] at p2
  have he:=KV hS (M:=M1) (op:=(bq code M).op) (n:=(bq code M).n) (a:=d9 (bq code M).op (M.get 7) M) (b:=ee (bq code M).op (M.get 7) M) (by rw[p1.len];exact hl) (by rw[p3];exact h0) x5
  unfold bX
  rw[hM1]
  generalize aE S (bq code M).op (bq code M).n (d9 (bq code M).op (M.get 7) M) (ee (bq code M).op (M.get 7) M) M1=r at *
  obtain⟨g1,g2,g3⟩:=he
  have hE:Ef M r:=⟨λ h=>by
   obtain⟨a1,a2,a3,a4⟩:=g3.yes h
   rw[p1.get 0 (by omega)] at a1
   rw[p3] at a2 a3 a4
   exact⟨a1,a2,a3,a4⟩,λ h=>by rw[g3.no h,p3]⟩
  have hb:=QQ x1
  unfold cm
  split
  ·have hq:bg (bg (16+M.get 7)-eP (bq code M).op)=16+M.get 7-eP (bq code M).op:=by rw[cZ (x:=16+M.get 7) (by omega),cZ (by omega)]
   rw[cZ (x:=M.get 7-eP (bq code M).op) (by omega),cZ (by omega)] at x4
   rw[hq]
   refine⟨(p1.trans g1).set (by omega) _,⟨λ h=>?_,λ h=>?_⟩,.inl ⟨⟨r1,r2,r3,r4⟩,?_,by omega⟩⟩
   ·obtain⟨a1,a2,a3,a4⟩:=hE.yes h
    exact⟨a1,a2,a3,(bE (by omega)).trans a4⟩
   ·exact(bE (by omega)).trans (hE.no h)
   ·simp only
    rw[bE (by omega),g2,p2]
  ·exact⟨p1.trans g1,hE,.inl ⟨⟨r1,r2,r3,r4⟩,by rw[g2,p2],by omega⟩⟩
 ·rw[if_neg hr]
  exact⟨.refl,⟨λ h=>by simp at h,λ _=>rfl⟩,.inr ⟨hr,by unfold bx;rw[if_neg hr],rfl⟩⟩
def l6(n i j fu:Int):Int:=(if j=0 then (n-i)*62 else (n-i-1)*62+fu+1)+1+n
def l5(n i j:Int):Int:=n*(n+1)-(i*(n+1)+j)+l6 n 0 0 0
def LZ(n i:Int):Int:=if i=0 then 0 else if i=1 then n-1 else if i=2 then 2*n-3 else 3*n-6
def Ny(n:Int):Int:=if n=2 then 1 else if n=3 then 3 else if n=4 then 6 else if n=5 then 10 else 0
def l4(n R i j r:Int):Int:=(if n<2 then 0 else (R-r)*Ny n-(LZ n i+(j-i-1)))+1+l5 n 0 0
def l3(n R i:Int):Int:=n-i+l4 n R 0 1 0
def l2(n R j fu:Int):Int:=(if j=0 then 62 else fu+1)+l3 n R 0
def l1(P n R i j fu:Int):Int:=(if j=0 then (P-i)*62 else (P-i-1)*62+fu+1)+1+l2 n R 0 0
def l0(P n R i:Int):Int:=P-i+l1 P n R 0 0 0
def EU(P n R p i j r fu:Int):Int:=if p=0 then l0 P n R i else if p=1 then l1 P n R i j fu else if p=2 then l2 n R j fu else if p=3 then l3 n R i else if p=4 then l4 n R i j r else if p=5 then l5 n i j else if p=6 then l6 n i j fu else n-i
def NY(P n R p i j r fu:Int):Prop :=
 (p=0 /\ 0 <= i /\ i<P) \/ (p=1 /\ 0 <= i /\ i <= P /\ (j=0 \/ (j=1 /\ i<P /\ 0 <= fu /\ fu <= 60))) \/ (p=2 /\ (j=0 \/ (j=1 /\ 0 <= fu /\ fu <= 60))) \/ (p=3 /\ 0 <= i /\ i<n) \/
 (p=4 /\ 0 <= r /\ r <= R /\ (2 <= n -> 0 <= i /\ i<j /\ j<n /\ (r=R -> i=0 /\ j=1))) \/ (p=5 /\ 0 <= i /\ i<n /\ 0 <= j /\ j <= n) \/ (p=6 /\ 0 <= i /\ i <= n /\ (j=0 \/ (j=1 /\ i<n /\ 0 <= fu /\ fu <= 60))) \/ (p=7 /\ 0 <= i /\ i<n)
theorem HX{n i j:Int}(hn:1 <= n /\ n <= 5)(hi:0 <= i /\ i<n)(hj:0 <= j /\ j <= n):0<l5 n i j:=by
 unfold l5 l6
 obtain h|h|h|h|h:n=1 \/ n=2 \/ n=3 \/ n=4 \/ n=5:=by omega
 all_goals subst h;simp;omega
theorem Cf{P n R p i j r fu:Int}(hP:1 <= P /\ P <= 3)(hn:1 <= n /\ n <= 5)(hR:1 <= R /\ R <= 3)(h:NY P n R p i j r fu):0<EU P n R p i j r fu:=by
 have h5:=HX hn (i:=0) (j:=0) (by omega) (by omega)
 have h4:∀i j r,0 <= r -> r <= R -> (2 <= n -> 0 <= i /\ i<j /\ j<n) -> -9 <= (if n<2 then 0 else (R-r)*Ny n-(LZ n i+(j-i-1))) -> 0<l4 n R i j r+9:=λ i j r _ _ _ h=>by unfold l4;omega
 have k4:0<l4 n R 0 1 0:=by
  unfold l4 Ny LZ
  obtain h|h|h|h|h:n=1 \/ n=2 \/ n=3 \/ n=4 \/ n=5:=by omega
  all_goals subst h;simp;omega
 have k3:0<l3 n R 0:=by unfold l3;omega
 have k2:∀j fu,(j=0 \/ (j=1 /\ 0 <= fu /\ fu <= 60)) -> 0<l2 n R j fu:=λ j fu h=>by unfold l2;split <;> omega
 have k20:=k2 0 0 (.inl rfl)
 have k1:∀i j fu,0 <= i -> i <= P -> (j=0 \/ (j=1 /\ i<P /\ 0 <= fu /\ fu <= 60)) -> 0<l1 P n R i j fu:=λ i j fu _ _ h=>by unfold l1;split <;> omega
 have k10:=k1 0 0 0 (by omega) (by omega) (.inl rfl)
 rcases h with h|h|h|h|h|h|h|h <;> obtain⟨rfl,h⟩:=h
 ·show 0<l0 P n R i
  unfold l0;omega
 ·exact k1 i j fu h.1 h.2.1 h.2.2
 ·exact k2 j fu h
 ·show 0<l3 n R i
  unfold l3;omega
 ·show 0<l4 n R i j r
  unfold l4
  split
  ·omega
  ·obtain⟨h1,h2,h3⟩:=h
   obtain⟨h3,h4',h5',-⟩:=h3 (by omega)
   have:100<l5 n 0 0:=by
    unfold l5 l6
    obtain h|h|h|h|h:n=1 \/ n=2 \/ n=3 \/ n=4 \/ n=5:=by omega
    all_goals first|omega|(subst h;simp)
   have h6:LZ n i <= 9:=by unfold LZ;(repeat' split) <;> omega
   have h7:0 <= (R-r)*Ny n:=Int.mul_nonneg (by omega) (by unfold Ny;(repeat' split) <;> omega)
   omega
 ·exact HX hn ⟨h.1,h.2.1⟩ h.2.2
 ·show 0<l6 n i j fu
  unfold l6;split <;> omega
 ·show 0<n-i
  omega
abbrev EV(M:MemS):Prop:=M.get 1=0 /\ M.get 2=0
structure TV(S:Setup)(ins:Nat -> Inp)(M:MemS):Prop where
 len:(M.cs.length:Int)=sizeOf S
 t0:0 <= M.get 0 /\ M.get 0 <= 1000000
 ct:NY S.players S.nb S.rounds (M.get 1) (M.get 2) (M.get 3) (M.get 4) (M.get 8)
 pl:∀q:Nat,(q:Int)<(if M.get 1=0 then M.get 2 else S.players) -> M.get (48+4*q)=(ins q).dx /\ M.get (48+4*q+1)=(ins q).dy /\ M.get (48+4*q+2)=(ins q).act
 ec:EV M \/ (0 <= M.get 11 /\ M.get 11 <= 40)
abbrev nH(S:Setup)(M:MemS):Int:=EU S.players S.nb S.rounds (M.get 1) (M.get 2) (M.get 3) (M.get 4) (M.get 8)
structure Nx(S:Setup)(ins:Nat -> Inp)(M:MemS)(r:VR):Prop where
 tv:TV S ins r.M
 lt:nH S r.M<nH S M
 ph:M.get 1 <= r.M.get 1
 t0:r.M.get 0=M.get 0
 ns:¬ EV r.M
 yes:r.em=true -> ¬ EV M /\ r.e.t=M.get 0 /\ r.e.i=M.get 11 /\ r.M.get 11=M.get 11+1
 no:r.em=false -> r.M.get 11=if EV M then 0 else M.get 11
theorem TV.l48{S:Setup}(hS:SetV S){ins:Nat -> Inp}{M:MemS}(h:TV S ins M):48 <= M.cs.length:=by
 have:=h.len;have:=hS.pl;unfold sizeOf at *;omega
theorem ii{S:Setup}(hS:SetV S){ins:Nat -> Inp}{M N:MemS}{r:VR}{p i j q x fu:Int}(h:TV S ins M)(hp:1 <= M.get 1)(hN:Kp S.players M N)(hlen:r.M.cs.length=N.cs.length)
  (g:∀k,r.M.get k=if k=1 then p else if k=2 then i else if k=3 then j else if k=4 then q else if k=5 then x else N.get k) (h8:N.get 8=fu)
  (hE:Ef M ⟨N,r.v,r.e,r.em⟩) (hc:NY S.players S.nb S.rounds p i j q fu) (XC:M.get 1 <= p) (iF:EU S.players S.nb S.rounds p i j q fu<nH S M):Nx S ins M r:=by
 have ha:¬ EV M:=λ e=>by have:=e.1;omega
 have g0:r.M.get 0=M.get 0:=by rw[g];simp;exact hN.get 0 (by omega)
 have g1:r.M.get 1=p:=by rw[g];simp
 have g2:r.M.get 2=i:=by rw[g];simp
 have g3:r.M.get 3=j:=by rw[g];simp
 have g4:r.M.get 4=q:=by rw[g];simp
 have g8:r.M.get 8=fu:=by rw[g];simp;exact h8
 have g11:r.M.get 11=N.get 11:=by rw[g];simp
 have gp:∀k,48 <= k -> k<48+4*S.players -> r.M.get k=M.get k:=λ k h1 h2=>by
  rw[g,if_neg (by omega),if_neg (by omega),if_neg (by omega),if_neg (by omega),if_neg (by omega)]
  exact hN.get k (by omega)
 have YC:0 <= M.get 11 /\ M.get 11 <= 40:=by
  rcases h.ec with e|e
  ·exact absurd e ha
  ·exact e
 refine⟨⟨by rw[hlen,hN.len];exact h.len,by rw[g0];exact h.t0,by rw[g1,g2,g3,g4,g8];exact hc,λ k hk=>?_,.inr ?_⟩,?_,by rw[g1];exact XC,g0,λ e=>by rw[EV,g1] at e;have:=e.1;omega,λ e=>?_,λ e=>?_⟩
 ·rw[g1,if_neg (by omega)] at hk
  have:=h.pl k (by rw[if_neg (by omega)];exact hk)
  rw[gp _ (by omega) (by omega),gp _ (by omega) (by omega),gp _ (by omega) (by omega)]
  exact this
 ·rw[g11]
  cases he:r.em with
  | true=>obtain⟨a,b,c,d⟩:=hE.yes he;simp only at d;omega
  | false=>have:=hE.no he;simp only at this;omega
 ·unfold nH;rw[g1,g2,g3,g4,g8];exact iF
 ·obtain⟨a,b,c,d⟩:=hE.yes e
  exact⟨ha,a,b,by rw[g11];exact d⟩
 ·rw[if_neg ha,g11];exact hE.no e
theorem Hi.kp{P:Int}{M N:MemS}(h:Hi P M N)(hP:0 <= P):Kp P M N:=⟨h.len,λ j hj=>h.get j (by omega)⟩
theorem Hi.ef{P:Int}{M N:MemS}(h:Hi P M N)(hP:0 <= P){v:Int}{e:Eff}:Ef M ⟨N,v,e,false⟩:=⟨λ h=>by simp at h,λ _=>h.get 11 (by omega)⟩
theorem kj{M:MemS}(h:48 <= M.cs.length)(t:Stp)(a b j:Int):(aL t a b M).get j=if j=3 then b else if j=2 then 0 else if j=1 then a else M.get j:=by
 unfold aL
 rw[bS (by simp only[aK];exact h) (by omega) (by omega),bS (by simp only[aK];exact h) (by omega) (by omega),bS h (by omega) (by omega)]
theorem fV{M:MemS}(t:Stp)(a b:Int):(aL t a b M).cs.length=M.cs.length:=by unfold aL;simp only[aK]
theorem if5{k p i j q x z:Int}{f:Int -> Int}(h:(if k=3 then j else if k=2 then i else if k=1 then p else f k)=z)(hq:q=f 4)(hx:x=f 5):z=if k=1 then p else if k=2 then i else if k=3 then j else if k=4 then q else if k=5 then x else f k:=by
 subst h hq hx
 by_cases e1:k=1
 ·subst e1;simp
 by_cases e2:k=2
 ·subst e2;simp
 by_cases e3:k=3
 ·subst e3;simp
 by_cases e4:k=4
 ·subst e4;simp
 by_cases e5:k=5
 ·subst e5;simp
 simp[e1,e2,e3,e4,e5]
theorem QR{k i z:Int}{f:Int -> Int}(h:(if k=2 then i else f k)=z):z=if k=1 then f 1 else if k=2 then i else if k=3 then f 3 else if k=4 then f 4 else if k=5 then f 5 else f k:=by
 subst h
 by_cases e1:k=1
 ·subst e1;simp
 by_cases e2:k=2
 ·subst e2;simp
 by_cases e3:k=3
 ·subst e3;simp
 by_cases e4:k=4
 ·subst e4;simp
 by_cases e5:k=5
 ·subst e5;simp
 simp[e1,e2,e3,e4,e5]
theorem HY{S:Setup}(hS:SetV S){t:Stp}(ht:t.S=S)(M:MemS):Hi S.players M (bO t (bJ t M)):=by
 have hp:0 <= S.players:=by have:=hS.pl;omega
 subst ht
 have ha:Hi t.S.players M (bJ t M):=by
  unfold bJ
  split
  ·exact(Hi.refl).setB hp (by omega) (by omega) _
  ·exact .refl
 unfold bO
 split
 ·next hm =>
  have hb:af t.S t.i >= 0:=by
   rcases oD hp t.i with e|⟨_,_,e⟩
   ·unfold af at e
    rw[if_neg (by have:=hm.1;omega),if_neg (by have:=hm.1;omega)] at e
    have:=hm.1;omega
   ·omega
  exact(ha.setB hp hb (by omega) _).setB hp hb (by omega) _
 ·exact ha
theorem q3{S:Setup}(hS:SetV S){g:Gm}(hg:g.S=S){ins:Nat -> Inp}{M:MemS}(h:TV S ins M)(hp:M.get 1=3):Nx S ins M ⟨aR (g.step M) M,0,bA,false⟩:=by
 have IF:=hS.pl
 have WL:=hS.nb
 have Ry:=hS.ro
 have hc:0 <= M.get 2 /\ M.get 2<S.nb:=by rcases h.ct with h|h|h|h|h|h|h|h <;> omega
 have hh:=HY hS (t:=g.step M) hg M
 have hl:=h.l48 hS
 unfold aR b7
 generalize bO (g.step M) (bJ (g.step M) M)=N at *
 have Rn:48 <= N.cs.length:=by rw[hh.len];exact hl
 have e1:=hh.get 1 (by omega);have e2:=hh.get 2 (by omega);have e3:=hh.get 3 (by omega);have e4:=hh.get 4 (by omega);have e8:=hh.get 8 (by omega)
 show Nx S ins M ⟨if bg (M.get 2+1)<g.S.nb then N.set 2 (bg (M.get 2+1)) else _,0,bA,false⟩
 rw[cZ (by omega),hg]
 split
 ·refine ii hS h (by omega) (hh.kp (by omega)) (aK _ _ _) (λ k=>QR (f:=N.get) (bS Rn (by omega) (by omega) k).symm) e8 (hh.ef (by omega)) ?_ (by omega) ?_
  ·rw[e1,e3,e4,hp];exact .inr (.inr (.inr (.inl ⟨rfl,by omega,by omega⟩)))
  ·unfold nH;rw[e1,e3,e4,hp]
   show l3 S.nb S.rounds (M.get 2+1)<l3 S.nb S.rounds (M.get 2)
   unfold l3;omega
 ·refine ii hS h (by omega) (hh.kp (by omega)) ((aK _ _ _).trans (fV _ _ _)) (p:=4) (i:=0) (j:=1) (q:=0) (x:=N.get 5) (λ k=>?_) e8 (hh.ef (by omega)) ?_ (by omega) ?_
  ·rw[bS (by rw[fV];exact Rn) (by omega) (by omega),kj Rn]
   by_cases k4:k=4
   ·subst k4;simp
   ·rw[if_neg k4]
    by_cases k1:k=1
    ·subst k1;simp
    by_cases k2:k=2
    ·subst k2;simp
    by_cases k3:k=3
    ·subst k3;simp
    by_cases k5:k=5
    ·subst k5;simp
    simp[k1,k2,k3,k4,k5]
  ·exact .inr (.inr (.inr (.inr (.inl ⟨rfl,by omega,by omega,λ _=>by omega⟩))))
  ·unfold nH;rw[hp]
   show l4 S.nb S.rounds 0 1 0<l3 S.nb S.rounds (M.get 2)
   unfold l3;omega
theorem pz{S:Setup}(hp:0 <= S.players){k:Int}(h:0 <= k /\ k<S.nb):af S k >= 0:=by
 unfold af
 rw[if_neg (by omega),if_neg (by omega)];omega
theorem Hi.setMot{S:Setup}(hp:0 <= S.players){A M:MemS}(h:Hi S.players A M){t:Stp}(ht:t.S=S){k:Int}(hb:af S k >= 0)(m:Mot):Hi S.players A (dP t k m M):=by
 subst ht
 unfold dP
 exact(((h.setB hp hb (by omega) _).setB hp hb (by omega) _).setB hp hb (by omega) _).setB hp hb (by omega) _
theorem HZ{S:Setup}(hS:SetV S){t:Stp}(ht:t.S=S)(M:MemS):Hi S.players M (dV t M):=by
 have hp:0 <= S.players:=by have:=hS.pl;omega
 unfold dV
 rw[ht]
 split
 ·next h1 =>
  split
  ·next h2 =>
   split
   ·have b1:=pz hp h1
    have b2:=pz hp h2
    unfold gJ
    rw[ht]
    exact(((((Hi.refl).setMot hp ht b1 _).setMot hp ht b2 _).setB hp b1 (by omega) _).setB hp b2 (by omega) _)
   ·exact .refl
  ·exact .refl
 ·exact .refl
theorem q4{S:Setup}(hS:SetV S){g:Gm}(hg:g.S=S){ins:Nat -> Inp}{M:MemS}(h:TV S ins M)(hp:M.get 1=4):Nx S ins M ⟨bT (g.step M) M,0,bA,false⟩:=by
 have IF:=hS.pl
 have WL:=hS.nb
 have Ry:=hS.ro
 have hc:0 <= M.get 4 /\ M.get 4 <= S.rounds /\ (2 <= (S.nb:Int) -> 0 <= M.get 2 /\ M.get 2<M.get 3 /\ M.get 3<S.nb /\ (M.get 4=S.rounds -> M.get 2=0 /\ M.get 3=1)):=by rcases h.ct with h|h|h|h|h|h|h|h <;> omega
 have hl:=h.l48 hS
 have hh:=HZ hS (t:=g.step M) hg M
 have fin:nH S M>l5 S.nb 0 0 -> Nx S ins M ⟨(aL (g.step M) 5 0 M).set 5 1024,0,bA,false⟩:=λ iF=>by
  refine ii hS h (by omega) ((Hi.refl (P:=S.players)).kp (by omega)) ((aK _ _ _).trans (fV _ _ _)) (p:=5) (i:=0) (j:=0) (q:=M.get 4) (x:=1024) (fu:=M.get 8) (λ k=>?_) rfl ((Hi.refl (P:=S.players)).ef (by omega)) (.inr (.inr (.inr (.inr (.inr (.inl ⟨rfl,by omega,by omega,by omega,by omega⟩)))))) (by omega) iF
  rw[bS (by rw[fV];exact hl) (by omega) (by omega),kj hl]
  by_cases k5:k=5
  ·subst k5;simp
  ·rw[if_neg k5]
   by_cases k1:k=1
   ·subst k1;simp
   by_cases k2:k=2
   ·subst k2;simp
   by_cases k3:k=3
   ·subst k3;simp
   by_cases k4:k=4
   ·subst k4;simp
   simp[k1,k2,k3,k4,k5]
 have e4l:nH S M=l4 S.nb S.rounds (M.get 2) (M.get 3) (M.get 4):=by unfold nH;rw[hp];rfl
 unfold bT
 show Nx S ins M ⟨if (g.S.nb:Int)<2 then _ else if M.get 4 >= g.S.rounds then _ else _,0,bA,false⟩
 rw[hg]
 split
 ·next h2=>exact fin (by rw[e4l];unfold l4;rw[if_pos h2];omega)
 split
 ·next h2 h3 =>
  refine fin ?_
  have e:M.get 4=S.rounds:=by omega
  obtain⟨c1,c2,c3,c4⟩:=hc.2.2 (by omega)
  obtain⟨d1,d2⟩:=c4 e
  rw[e4l,e,d1,d2]
  unfold l4
  rw[if_neg (by omega),Int.sub_self,Int.zero_mul]
  show _>_
  unfold LZ
  simp only[if_true]
  omega
 next h2 h3 =>
 obtain⟨c1,c2,c3,-⟩:=hc.2.2 (by omega)
 show Nx S ins M ⟨(((dV (g.step M) M).set 4 (dt (M.get 2) (M.get 3) g.S.nb (M.get 4)).1).set 2 (dt (M.get 2) (M.get 3) g.S.nb (M.get 4)).2.1).set 3 (dt (M.get 2) (M.get 3) g.S.nb (M.get 4)).2.2,0,bA,false⟩
 rw[hg]
 generalize dV (g.step M) M=N at *
 have Rn:48 <= N.cs.length:=by rw[hh.len];exact hl
 have e1:=hh.get 1 (by omega);have e5:=hh.get 5 (by omega);have e8:=hh.get 8 (by omega)
 have hq:(0 <= (dt (M.get 2) (M.get 3) S.nb (M.get 4)).1 /\ (dt (M.get 2) (M.get 3) S.nb (M.get 4)).1 <= S.rounds) /\ (0 <= (dt (M.get 2) (M.get 3) S.nb (M.get 4)).2.1 /\ (dt (M.get 2) (M.get 3) S.nb (M.get 4)).2.1<(dt (M.get 2) (M.get 3) S.nb (M.get 4)).2.2 /\ (dt (M.get 2) (M.get 3) S.nb (M.get 4)).2.2<S.nb /\ ((dt (M.get 2) (M.get 3) S.nb (M.get 4)).1=S.rounds -> (dt (M.get 2) (M.get 3) S.nb (M.get 4)).2.1=0 /\ (dt (M.get 2) (M.get 3) S.nb (M.get 4)).2.2=1)) /\
   l4 S.nb S.rounds (dt (M.get 2) (M.get 3) S.nb (M.get 4)).2.1 (dt (M.get 2) (M.get 3) S.nb (M.get 4)).2.2 (dt (M.get 2) (M.get 3) S.nb (M.get 4)).1<l4 S.nb S.rounds (M.get 2) (M.get 3) (M.get 4):=by
  have hn2:(2:Int) <= S.nb /\ (S.nb:Int) <= 5:=by omega
  have TO:M.get 4<S.rounds:=by omega
  have hq0:=hc.1
  unfold dt
  rw[cZ (by omega),cZ (by omega),cZ (by omega),cZ (by omega)]
  clear e1 e5 e8 e4l fin hc h
  generalize M.get 2=i at *
  generalize M.get 3=j at *
  generalize M.get 4=q at *
  generalize S.rounds=R at *
  generalize (S.nb:Int)=n at *
  split
  ·simp only
   refine⟨⟨by omega,by omega⟩,⟨by omega,by omega,by omega,λ e=>by omega⟩,?_⟩
   unfold l4;rw[if_neg (by omega),if_neg (by omega)];omega
  ·split
   ·refine⟨⟨by simp only;omega,by simp only;omega⟩,⟨by simp only;omega,by simp only;omega,by simp only;omega,λ e=>by simp only at e;omega⟩,?_⟩
    simp only
    unfold l4 LZ Ny
    obtain h|h|h|h:n=2 \/ n=3 \/ n=4 \/ n=5:=by omega
    all_goals subst h
    all_goals (have:i=0 \/ i=1 \/ i=2:=by omega)
    all_goals (rcases this with rfl|rfl|rfl)
    all_goals first|omega|(simp;omega)
   ·refine⟨⟨by simp only;omega,by simp only;omega⟩,⟨by simp only;omega,by simp only;omega,by simp only;omega,λ e=>⟨rfl,rfl⟩⟩,?_⟩
    simp only
    unfold l4 LZ Ny
    obtain h|h|h|h:n=2 \/ n=3 \/ n=4 \/ n=5:=by omega
    all_goals subst h
    all_goals (have:i=0 \/ i=1 \/ i=2 \/ i=3:=by omega)
    all_goals (rcases this with rfl|rfl|rfl|rfl)
    all_goals first|omega|(simp;omega)
 generalize dt (M.get 2) (M.get 3) S.nb (M.get 4)=z at *
 refine ii hS h (by omega) (hh.kp (by omega)) (by simp only[aK]) (p:=4) (i:=z.2.1) (j:=z.2.2) (q:=z.1) (x:=N.get 5) (λ k=>?_) e8 (hh.ef (by omega)) (.inr (.inr (.inr (.inr (.inl ⟨rfl,hq.1.1,hq.1.2,λ _=>hq.2.1⟩))))) (by omega) (by rw[e4l];exact hq.2.2)
 rw[bS (by simp only[aK];exact Rn) (by omega) (by omega),bS (by simp only[aK];exact Rn) (by omega) (by omega),bS Rn (by omega) (by omega)]
 by_cases k1:k=1
 ·subst k1;simp;omega
 by_cases k2:k=2
 ·subst k2;simp
 by_cases k3:k=3
 ·subst k3;simp
 by_cases k4:k=4
 ·subst k4;simp
 by_cases k5:k=5
 ·subst k5;simp
 simp[k1,k2,k3,k4,k5]
theorem ym{S:Setup}(hp:0 <= S.players){A M:MemS}(h:Hi S.players A M){t:Stp}{k c d:Int}(hb:af S k >= 0)(hc:0 <= c)(hd:0 <= d)(pos lo hi:Int):Hi S.players A (ep t (af S k+c) (af S k+d) pos lo hi M):=by
 unfold ep
 split
 ·exact h.setB hp hb hc _
 ·exact(h.setB hp hb hc _).setB hp hb hd _
theorem D7{S:Setup}(hp:0 <= S.players){t:Stp}(ht:t.S=S)(M:MemS)(hb:af S t.i >= 0):Hi S.players M (dk t M):=by
 subst ht
 unfold dk
 exact ym hp (ym hp .refl hb (by omega) (by omega) _ _ _) hb (by omega) (by omega) _ _ _
theorem H3(t:Stp){M:MemS}(hl:48 <= M.cs.length)(k:Int):(eZ t M).get k=(if k=5 then (eZ t M).get 5 else M.get k) /\ (eZ t M).cs.length=M.cs.length:=by
 have id5:M.get k=if k=5 then M.get 5 else M.get k:=by
  by_cases e:k=5
  ·rw[if_pos e,e]
  ·rw[if_neg e]
 unfold eZ
 split
 ·exact⟨id5,rfl⟩
 ·split
  ·split
   ·refine⟨?_,aK _ _ _⟩
    rw[bS hl (by omega) (by omega),bS hl (by omega) (by omega)]
    split <;> simp
   ·exact⟨id5,rfl⟩
  ·exact⟨id5,rfl⟩
theorem q5{S:Setup}(hS:SetV S){g:Gm}(hg:g.S=S){ins:Nat -> Inp}{M:MemS}(h:TV S ins M)(hp:M.get 1=5):Nx S ins M ⟨dZ (g.step M) M,0,bA,false⟩:=by
 have IF:=hS.pl
 have WL:=hS.nb
 have Ry:=hS.ro
 have hc:(0 <= M.get 2 /\ M.get 2<S.nb) /\ 0 <= M.get 3 /\ M.get 3 <= S.nb:=by rcases h.ct with h|h|h|h|h|h|h|h <;> omega
 have hl:=h.l48 hS
 have e5l:nH S M=l5 S.nb (M.get 2) (M.get 3):=by unfold nH;rw[hp];rfl
 unfold dZ
 show Nx S ins M ⟨if 0 <= M.get 3 /\ M.get 3<g.S.nb then (eZ (g.step M) M).set 3 (bg (M.get 3+1)) else fS (g.step M) (if movP g.S (M.get 2) then dk (g.step M) M else M),0,bA,false⟩
 rw[hg]
 split
 ·next hj =>
  rw[cZ (by omega)]
  have ht:=H3 (g.step M) hl
  refine ii hS h (by omega) ((Hi.refl (P:=S.players)).kp (by omega)) ((aK _ _ _).trans (ht 0).2) (p:=5) (i:=M.get 2) (j:=M.get 3+1) (q:=M.get 4) (x:=(eZ (g.step M) M).get 5) (fu:=M.get 8) (λ k=>?_) rfl ((Hi.refl (P:=S.players)).ef (by omega)) (.inr (.inr (.inr (.inr (.inr (.inl ⟨rfl,by omega,by omega,by omega,by omega⟩)))))) (by omega) ?_
  ·rw[bS (by rw[(ht 0).2];exact hl) (by omega) (by omega),(ht k).1]
   by_cases k1:k=1
   ·subst k1;simp;omega
   by_cases k2:k=2
   ·subst k2;simp
   by_cases k3:k=3
   ·subst k3;simp
   by_cases k4:k=4
   ·subst k4;simp
   by_cases k5:k=5
   ·subst k5;simp
   simp[k1,k2,k3,k4,k5]
  ·rw[e5l]
   show l5 S.nb (M.get 2) (M.get 3+1)<_
   unfold l5;omega
 ·next hj =>
  have ej:M.get 3=S.nb:=by omega
  have hh:Hi S.players M (if movP S (M.get 2) then dk (g.step M) M else M):=by
   split
   ·next hm=>exact D7 (by omega) hg M (pz (by omega) hc.1)
   ·exact .refl
  generalize (if movP S (M.get 2) then dk (g.step M) M else M)=N at *
  have Rn:48 <= N.cs.length:=by rw[hh.len];exact hl
  have e1:=hh.get 1 (by omega);have e4:=hh.get 4 (by omega);have e8:=hh.get 8 (by omega)
  unfold fS
  show Nx S ins M ⟨if bg (M.get 2+1)<g.S.nb then ((N.set 2 (bg (M.get 2+1))).set 3 0).set 5 1024 else (aL (g.step M) 6 0 N).set 5 0,0,bA,false⟩
  rw[cZ (by omega),hg]
  split
  ·refine ii hS h (by omega) (hh.kp (by omega)) (by simp only[aK]) (p:=5) (i:=M.get 2+1) (j:=0) (q:=N.get 4) (x:=1024) (λ k=>?_) e8 (hh.ef (by omega)) (.inr (.inr (.inr (.inr (.inr (.inl ⟨rfl,by omega,by omega,by omega,by omega⟩)))))) (by omega) ?_
   ·rw[bS (by simp only[aK];exact Rn) (by omega) (by omega),bS (by simp only[aK];exact Rn) (by omega) (by omega),bS Rn (by omega) (by omega)]
    by_cases k1:k=1
    ·subst k1;simp;omega
    by_cases k2:k=2
    ·subst k2;simp
    by_cases k3:k=3
    ·subst k3;simp
    by_cases k4:k=4
    ·subst k4;simp
    by_cases k5:k=5
    ·subst k5;simp
    simp[k1,k2,k3,k4,k5]
   ·rw[e5l,ej]
    show l5 S.nb (M.get 2+1) 0<_
    unfold l5
    generalize M.get 2=i at *
    obtain h|h|h|h|h:(S.nb:Int)=1 \/ (S.nb:Int)=2 \/ (S.nb:Int)=3 \/ (S.nb:Int)=4 \/ (S.nb:Int)=5:=by omega
    all_goals rw[h];omega
  ·refine ii hS h (by omega) (hh.kp (by omega)) ((aK _ _ _).trans (fV _ _ _)) (p:=6) (i:=0) (j:=0) (q:=N.get 4) (x:=0) (λ k=>?_) e8 (hh.ef (by omega)) (.inr (.inr (.inr (.inr (.inr (.inr (.inl ⟨rfl,by omega,by omega,.inl rfl⟩))))))) (by omega) ?_
   ·rw[bS (by rw[fV];exact Rn) (by omega) (by omega),kj Rn]
    by_cases k1:k=1
    ·subst k1;simp
    by_cases k2:k=2
    ·subst k2;simp
    by_cases k3:k=3
    ·subst k3;simp
    by_cases k4:k=4
    ·subst k4;simp
    by_cases k5:k=5
    ·subst k5;simp
    simp[k1,k2,k3,k4,k5]
   ·rw[e5l,ej]
    show l6 S.nb 0 0 _<_
    unfold l5 l6
    generalize M.get 2=i at *
    obtain h|h|h|h|h:(S.nb:Int)=1 \/ (S.nb:Int)=2 \/ (S.nb:Int)=3 \/ (S.nb:Int)=4 \/ (S.nb:Int)=5:=by omega
    all_goals rw[h];simp;omega
theorem yn{P:Int}{M:MemS}{e fu a b:Int}(hl:48 <= M.cs.length)(he:¬ e<0):Kp P M (aM e fu a b M) /\ (aM e fu a b M).get 8=fu /\ (aM e fu a b M).get 11=M.get 11:=by
 unfold aM
 rw[if_neg he]
 refine⟨(((((Kp.refl).set (by omega) _).set (by omega) _).set (by omega) _).set (by omega) _).set (by omega) _,?_,?_⟩
 ·rw[bE (by decide),bE (by decide),jC (by simp only[aK];omega)]
 ·rw[bE (by decide),bE (by decide),bE (by decide),bE (by decide),bE (by decide)]
theorem Cg{S:Setup}(hS:SetV S){g:Gm}(hg:g.S=S){ins:Nat -> Inp}{M:MemS}(h:TV S ins M){p:Int}(hp:M.get 1=p)(hp1:1 <= p)(e a o:Int)(c:Bool)(hi:0 <= M.get 2 /\ M.get 2 <= 5)(hj:M.get 3=0 \/ (M.get 3=1 /\ 0 <= M.get 8 /\ M.get 8 <= 60))
  (hc0:∀fu,NY S.players S.nb S.rounds p (M.get 2+1) 0 (M.get 4) fu) (hc1:∀fu,0 <= fu -> fu <= 60 -> NY S.players S.nb S.rounds p (M.get 2) 1 (M.get 4) fu)
  (l0:∀f f',EU S.players S.nb S.rounds p (M.get 2+1) 0 (M.get 4) f<EU S.players S.nb S.rounds p (M.get 2) 0 (M.get 4) f') (l1:∀f fu,fu <= 60 -> EU S.players S.nb S.rounds p (M.get 2) 1 (M.get 4) fu<EU S.players S.nb S.rounds p (M.get 2) 0 (M.get 4) f)
  (l2:∀f f',0 <= f' -> EU S.players S.nb S.rounds p (M.get 2+1) 0 (M.get 4) f<EU S.players S.nb S.rounds p (M.get 2) 1 (M.get 4) f') (l3:∀f,EU S.players S.nb S.rounds p (M.get 2) 1 (M.get 4) (f-1)<EU S.players S.nb S.rounds p (M.get 2) 1 (M.get 4) f) :
  Nx S ins M (dH (eR e (g.step M) a o M) (du e (g.step M) a o M) (g.step M) c M).z:=by
 have hl:=h.l48 hS
 have IF:=hS.pl
 have YC:0 <= M.get 11 /\ M.get 11 <= 40:=by
  rcases h.ec with e|e
  ·have:=e.1;omega
  ·exact e
 have skip:M.get 3=0 -> Nx S ins M ⟨M.set 2 (bg (M.get 2+1)),0,bA,false⟩:=λ R1=>by
  rw[cZ (by omega)]
  refine ii hS h (by omega) ((Hi.refl (P:=S.players)).kp (by omega)) (aK _ _ _) (p:=M.get 1) (i:=M.get 2+1) (j:=M.get 3) (q:=M.get 4) (x:=M.get 5) (fu:=M.get 8) (λ k=>QR (f:=M.get) (bS hl (by omega) (by omega) k).symm) rfl ((Hi.refl (P:=S.players)).ef (by omega)) ?_ (by omega) ?_
  ·rw[hp,R1];exact hc0 _
  ·unfold nH;rw[hp,R1];exact l0 _ _
 unfold dH eR du
 show Nx S ins M (VR.z (if M.get 3=0 then _ else _))
 by_cases R1:M.get 3=0
 ·rw[if_pos R1]
  cases c with
  | false=>exact skip R1
  | true =>
   rw[if_pos rfl]
   by_cases he:e<0
   ·show Nx S ins M (VR.z (if (if M.get 3=0 then decide (e<0) else _)=true then _ else _))
    rw[if_pos R1,if_pos (by simpa using he)]
    show Nx S ins M ⟨(if M.get 3=0 then (if e<0 then (⟨aM e _ a o M,0,_,_⟩:VR) else _) else _).M.set 2 _,0,(if M.get 3=0 then (if e<0 then (⟨aM e _ a o M,0,_,_⟩:VR) else _) else _).e,(if M.get 3=0 then (if e<0 then (⟨aM e _ a o M,0,_,_⟩:VR) else _) else _).em⟩
    rw[if_pos R1,if_pos he]
    show Nx S ins M ⟨(aM e _ a o M).set 2 _,0,bA,false⟩
    rw[show aM e g.S.fuel a o M=M by unfold aM;rw[if_pos he]]
    exact skip R1
   ·show Nx S ins M (VR.z (if (if M.get 3=0 then decide (e<0) else _)=true then _ else _))
    rw[if_pos R1,if_neg (by simpa using he)]
    show Nx S ins M ⟨(if M.get 3=0 then (if e<0 then _ else (⟨(aM e g.S.fuel a o M).set 3 1,0,bA,false⟩:VR)) else _).M,0,(if M.get 3=0 then (if e<0 then _ else (⟨(aM e g.S.fuel a o M).set 3 1,0,bA,false⟩:VR)) else _).e,(if M.get 3=0 then (if e<0 then _ else (⟨(aM e g.S.fuel a o M).set 3 1,0,bA,false⟩:VR)) else _).em⟩
    rw[if_pos R1,if_neg he,hg]
    obtain⟨s1,s2,s3⟩:=yn (P:=S.players) (M:=M) (fu:=S.fuel) (a:=a) (b:=o) hl he
    generalize aM e S.fuel a o M=N at *
    have Rn:48 <= N.cs.length:=by rw[s1.len];exact hl
    refine ii hS h (by omega) s1 (aK _ _ _) (p:=p) (i:=M.get 2) (j:=1) (q:=M.get 4) (x:=M.get 5) (fu:=S.fuel) (λ k=>?_) s2 ⟨λ h=>by simp at h,λ _=>s3⟩ ?_ (by omega) ?_
    ·rw[bS Rn (by omega) (by omega)]
     have n1:=s1.get 1 (by omega);have n2:=s1.get 2 (by omega);have n4:=s1.get 4 (by omega);have n5:=s1.get 5 (by omega)
     by_cases k1:k=1
     ·subst k1;simp;omega
     by_cases k2:k=2
     ·subst k2;simp;omega
     by_cases k3:k=3
     ·subst k3;simp
     by_cases k4:k=4
     ·subst k4;simp;omega
     by_cases k5:k=5
     ·subst k5;simp;omega
     simp[k1,k2,k3,k4,k5]
    ·exact hc1 S.fuel hS.fu.1 hS.fu.2
    ·unfold nH;rw[hp,R1];exact l1 _ _ hS.fu.2
 ·rw[if_neg R1]
  obtain⟨SG,hf⟩:M.get 3=1 /\ (0 <= M.get 8 /\ M.get 8 <= 60):=by omega
  obtain⟨s1,s2,s3⟩:=yl hS (M:=M) (code:=g.code) (n:=g.cn) hl YC hf
  show Nx S ins M (VR.z (if (if M.get 3=0 then _ else bx g.code g.cn M)=true then _ else _))
  rw[if_neg R1]
  show Nx S ins M (VR.z (if bx g.code g.cn M=true then ⟨((if M.get 3=0 then _ else (⟨(ak g.S g.code g.cn M).M,0,(ak g.S g.code g.cn M).e,(ak g.S g.code g.cn M).em⟩:VR)).M.set 3 0).set 2 _,0,(if M.get 3=0 then _ else (⟨(ak g.S g.code g.cn M).M,0,(ak g.S g.code g.cn M).e,(ak g.S g.code g.cn M).em⟩:VR)).e,(if M.get 3=0 then _ else (⟨(ak g.S g.code g.cn M).M,0,(ak g.S g.code g.cn M).e,(ak g.S g.code g.cn M).em⟩:VR)).em⟩ else ⟨(if M.get 3=0 then _ else (⟨(ak g.S g.code g.cn M).M,0,(ak g.S g.code g.cn M).e,(ak g.S g.code g.cn M).em⟩:VR)).M,0,(if M.get 3=0 then _ else (⟨(ak g.S g.code g.cn M).M,0,(ak g.S g.code g.cn M).e,(ak g.S g.code g.cn M).em⟩:VR)).e,(if M.get 3=0 then _ else (⟨(ak g.S g.code g.cn M).M,0,(ak g.S g.code g.cn M).e,(ak g.S g.code g.cn M).em⟩:VR)).em⟩))
  rw[if_neg R1,hg]
  generalize ak S g.code g.cn M=r at *
  have Rn:48 <= r.M.cs.length:=by rw[s1.len];exact hl
  have n1:=s1.get 1 (by omega);have n2:=s1.get 2 (by omega);have n3:=s1.get 3 (by omega);have n4:=s1.get 4 (by omega);have n5:=s1.get 5 (by omega)
  by_cases he:bx g.code g.cn M=true
  ·rw[if_pos he]
   show Nx S ins M ⟨(r.M.set 3 0).set 2 (bg (M.get 2+1)),0,r.e,r.em⟩
   rw[cZ (by omega)]
   refine ii hS h (by omega) s1 (by simp only[aK]) (p:=p) (i:=M.get 2+1) (j:=0) (q:=M.get 4) (x:=M.get 5) (fu:=r.M.get 8) (λ k=>?_) rfl ⟨s2.yes,s2.no⟩ (hc0 _) (by omega) ?_
   ·rw[bS (by simp only[aK];exact Rn) (by omega) (by omega),bS Rn (by omega) (by omega)]
    by_cases k1:k=1
    ·subst k1;simp;omega
    by_cases k2:k=2
    ·subst k2;simp
    by_cases k3:k=3
    ·subst k3;simp
    by_cases k4:k=4
    ·subst k4;simp;omega
    by_cases k5:k=5
    ·subst k5;simp;omega
    simp[k1,k2,k3,k4,k5]
   ·unfold nH;rw[hp,SG];exact l2 _ _ hf.1
  ·rw[if_neg he]
   show Nx S ins M ⟨r.M,0,r.e,r.em⟩
   rcases s3 with ⟨s4,s5,s6⟩|⟨s4,s5,s6⟩
   ·refine ii hS h (by omega) s1 rfl (p:=p) (i:=M.get 2) (j:=1) (q:=M.get 4) (x:=M.get 5) (fu:=M.get 8-1) (λ k=>?_) s5 ⟨s2.yes,s2.no⟩ (hc1 _ (by omega) (by omega)) (by omega) ?_
    ·show r.M.get k=_
     by_cases k1:k=1
     ·subst k1;simp;omega
     by_cases k2:k=2
     ·subst k2;simp;omega
     by_cases k3:k=3
     ·subst k3;simp;omega
     by_cases k4:k=4
     ·subst k4;simp;omega
     by_cases k5:k=5
     ·subst k5;simp;omega
     simp[k1,k2,k3,k4,k5]
    ·unfold nH;rw[hp,SG];exact l3 _
   ·exact absurd s5 he
theorem H4{S:Setup}(hS:SetV S){g:Gm}{ins:Nat -> Inp}{M:MemS}(h:TV S ins M)(h1:1 <= M.get 1){p:Int}(hc:NY S.players S.nb S.rounds p 0 0 (M.get 4) (M.get 8))(hp:M.get 1 <= p)(hl:EU S.players S.nb S.rounds p 0 0 (M.get 4) (M.get 8)<nH S M) :
  Nx S ins M ⟨aL (g.step M) p 0 M,0,bA,false⟩:=by
 have hl48:=h.l48 hS
 have IF:=hS.pl
 refine ii hS h h1 ((Hi.refl (P:=S.players)).kp (by omega)) (fV (g.step M) _ _) (p:=p) (i:=0) (j:=0) (q:=M.get 4) (x:=M.get 5) (fu:=M.get 8) (λ k=>?_) rfl ((Hi.refl (P:=S.players)).ef (by omega)) hc hp hl
 exact if5 (f:=M.get) (kj hl48 (g.step M) _ _ k).symm rfl rfl
theorem q1{S:Setup}(hS:SetV S){g:Gm}(hg:g.S=S){ins:Nat -> Inp}{M:MemS}(h:TV S ins M)(hp:M.get 1=1):Nx S ins M (fi (g.step M) M):=by
 have IF:=hS.pl
 have WL:=hS.nb
 have Ry:=hS.ro
 have hc:0 <= M.get 2 /\ M.get 2 <= S.players /\ (M.get 3=0 \/ (M.get 3=1 /\ M.get 2<S.players /\ 0 <= M.get 8 /\ M.get 8 <= 60)):=by rcases h.ct with h|h|h|h|h|h|h|h <;> omega
 unfold fi
 show Nx S ins M (if ah g.S (M.get 2)<0 then ⟨aL (g.step M) 2 0 M,0,bA,false⟩ else _)
 rw[hg]
 rcases uv (S:=S) (M.get 2) with ⟨e,e2⟩|⟨e1,e2,e3⟩
 ·rw[e,if_pos (by decide)]
  have ei:M.get 2=S.players:=by omega
  refine H4 hS h (by omega) (.inr (.inr (.inl ⟨rfl,.inl rfl⟩))) (by omega) ?_
  unfold nH;rw[hp]
  show l2 _ _ 0 _<l1 _ _ _ (M.get 2) (M.get 3) (M.get 8)
  have:M.get 3=0:=by omega
  rw[this,ei]
  unfold l1 l2;simp;omega
 ·rw[if_neg (by omega)]
  refine Cg hS hg h hp (by omega) g.e0 (M.get 2) _ _ (by omega) (by omega) (λ fu=>.inr (.inl ⟨rfl,by omega,by omega,.inl rfl⟩)) (λ fu f0 f1=>.inr (.inl ⟨rfl,by omega,by omega,.inr ⟨rfl,by omega,f0,f1⟩⟩)) (λ f f'=>?_) (λ f fu hfu=>?_) (λ f f' hf=>?_) (λ f=>?_)
  all_goals (show l1 _ _ _ _ _ _<l1 _ _ _ _ _ _;unfold l1;simp;omega)
theorem q6{S:Setup}(hS:SetV S){g:Gm}(hg:g.S=S){ins:Nat -> Inp}{M:MemS}(h:TV S ins M)(hp:M.get 1=6):Nx S ins M (fj (g.step M) M):=by
 have IF:=hS.pl
 have WL:=hS.nb
 have Ry:=hS.ro
 have hc:0 <= M.get 2 /\ M.get 2 <= S.nb /\ (M.get 3=0 \/ (M.get 3=1 /\ M.get 2<S.nb /\ 0 <= M.get 8 /\ M.get 8 <= 60)):=by rcases h.ct with h|h|h|h|h|h|h|h <;> omega
 unfold fj
 show Nx S ins M (if af g.S (M.get 2)<0 then ⟨aL (g.step M) 7 0 M,0,bA,false⟩ else _)
 rw[hg]
 by_cases hb:af S (M.get 2)<0
 ·rw[if_pos hb]
  have ei:M.get 2=S.nb:=by
   unfold af at hb
   rw[if_neg (by omega)] at hb
   split at hb <;> omega
  refine H4 hS h (by omega) (.inr (.inr (.inr (.inr (.inr (.inr (.inr ⟨rfl,by omega,by omega⟩))))))) (by omega) ?_
  unfold nH;rw[hp]
  show (S.nb:Int)-0<l6 _ (M.get 2) (M.get 3) (M.get 8)
  have:M.get 3=0:=by omega
  rw[this,ei]
  unfold l6;simp;omega
 ·rw[if_neg hb]
  have hi:M.get 2<S.nb:=by
   rcases oD (S:=S) (by omega) (M.get 2) with e|⟨_,e,_⟩ <;> omega
  refine Cg hS hg h hp (by omega) g.e2 (M.get 2) _ _ (by omega) (by omega) (λ fu=>.inr (.inr (.inr (.inr (.inr (.inr (.inl ⟨rfl,by omega,by omega,.inl rfl⟩))))))) (λ fu f0 f1=>.inr (.inr (.inr (.inr (.inr (.inr (.inl ⟨rfl,by omega,by omega,.inr ⟨rfl,by omega,f0,f1⟩⟩))))))) (λ f f'=>?_) (λ f fu hfu=>?_) (λ f f' hf=>?_) (λ f=>?_)
  all_goals (show l6 _ _ _ _<l6 _ _ _ _;unfold l6;simp;omega)
theorem q2{S:Setup}(hS:SetV S){g:Gm}(hg:g.S=S){ins:Nat -> Inp}{M:MemS}(h:TV S ins M)(hp:M.get 1=2):Nx S ins M (cY (g.step M) M):=by
 have IF:=hS.pl
 have WL:=hS.nb
 have Ry:=hS.ro
 have hl:=h.l48 hS
 have YC:0 <= M.get 11 /\ M.get 11 <= 40:=by
  rcases h.ec with e|e
  ·have:=e.1;omega
  ·exact e
 have hj:M.get 3=0 \/ (M.get 3=1 /\ 0 <= M.get 8 /\ M.get 8 <= 60):=by rcases h.ct with h|h|h|h|h|h|h|h <;> omega
 have done:∀ (N:MemS) (e:Eff) (em:Bool),Kp S.players M N -> Ef M ⟨N,0,e,em⟩ -> Nx S ins M ⟨aL (g.step M) 3 0 N,0,e,em⟩:=λ N e em hN hE=>by
  have Rn:48 <= N.cs.length:=by rw[hN.len];exact hl
  refine ii hS h (by omega) hN (fV (g.step M) _ _) (p:=3) (i:=0) (j:=0) (q:=N.get 4) (x:=N.get 5) (fu:=N.get 8) (λ k=>if5 (f:=N.get) (kj Rn (g.step M) _ _ k).symm rfl rfl) rfl ⟨hE.yes,hE.no⟩ (.inr (.inr (.inr (.inl ⟨rfl,by omega,by omega⟩)))) (by omega) ?_
  unfold nH;rw[hp]
  show l3 _ _ 0<l2 _ _ (M.get 3) (M.get 8)
  unfold l2;split <;> omega
 unfold cY di jY eR du
 show Nx S ins M (if (if M.get 3=0 then decide (g.e1<0) else bx g.code g.cn M)=true then ⟨aL (g.step M) 3 0 (if M.get 3=0 then (if g.e1<0 then (⟨aM g.e1 g.S.fuel 0 0 M,0,bA,false⟩:VR) else ⟨(aM g.e1 g.S.fuel 0 0 M).set 3 1,0,bA,false⟩) else ⟨(ak g.S g.code g.cn M).M,0,(ak g.S g.code g.cn M).e,(ak g.S g.code g.cn M).em⟩).M,0,(if M.get 3=0 then (if g.e1<0 then (⟨aM g.e1 g.S.fuel 0 0 M,0,bA,false⟩:VR) else ⟨(aM g.e1 g.S.fuel 0 0 M).set 3 1,0,bA,false⟩) else ⟨(ak g.S g.code g.cn M).M,0,(ak g.S g.code g.cn M).e,(ak g.S g.code g.cn M).em⟩).e,(if M.get 3=0 then (if g.e1<0 then (⟨aM g.e1 g.S.fuel 0 0 M,0,bA,false⟩:VR) else ⟨(aM g.e1 g.S.fuel 0 0 M).set 3 1,0,bA,false⟩) else ⟨(ak g.S g.code g.cn M).M,0,(ak g.S g.code g.cn M).e,(ak g.S g.code g.cn M).em⟩).em⟩
  else ⟨(if M.get 3=0 then (if g.e1<0 then (⟨aM g.e1 g.S.fuel 0 0 M,0,bA,false⟩:VR) else ⟨(aM g.e1 g.S.fuel 0 0 M).set 3 1,0,bA,false⟩) else ⟨(ak g.S g.code g.cn M).M,0,(ak g.S g.code g.cn M).e,(ak g.S g.code g.cn M).em⟩).M,0,(if M.get 3=0 then (if g.e1<0 then (⟨aM g.e1 g.S.fuel 0 0 M,0,bA,false⟩:VR) else ⟨(aM g.e1 g.S.fuel 0 0 M).set 3 1,0,bA,false⟩) else ⟨(ak g.S g.code g.cn M).M,0,(ak g.S g.code g.cn M).e,(ak g.S g.code g.cn M).em⟩).e,(if M.get 3=0 then (if g.e1<0 then (⟨aM g.e1 g.S.fuel 0 0 M,0,bA,false⟩:VR) else ⟨(aM g.e1 g.S.fuel 0 0 M).set 3 1,0,bA,false⟩) else ⟨(ak g.S g.code g.cn M).M,0,(ak g.S g.code g.cn M).e,(ak g.S g.code g.cn M).em⟩).em⟩)
 by_cases R1:M.get 3=0
 ·rw[if_pos R1,if_pos R1]
  by_cases he:g.e1<0
  ·rw[if_pos (by simpa using he),if_pos he]
   show Nx S ins M ⟨aL (g.step M) 3 0 (aM g.e1 g.S.fuel 0 0 M),0,bA,false⟩
   rw[show aM g.e1 g.S.fuel 0 0 M=M by unfold aM;rw[if_pos he]]
   exact done M bA false .refl ⟨λ h=>by simp at h,λ _=>rfl⟩
  ·rw[if_neg (by simpa using he),if_neg he]
   show Nx S ins M ⟨(aM g.e1 g.S.fuel 0 0 M).set 3 1,0,bA,false⟩
   rw[hg]
   obtain⟨s1,s2,s3⟩:=yn (P:=S.players) (M:=M) (fu:=S.fuel) (a:=0) (b:=0) hl he
   generalize aM g.e1 S.fuel 0 0 M=N at *
   have Rn:48 <= N.cs.length:=by rw[s1.len];exact hl
   have n1:=s1.get 1 (by omega);have n2:=s1.get 2 (by omega);have n4:=s1.get 4 (by omega);have n5:=s1.get 5 (by omega)
   refine ii hS h (by omega) s1 (aK _ _ _) (p:=2) (i:=M.get 2) (j:=1) (q:=M.get 4) (x:=M.get 5) (fu:=S.fuel) (λ k=>?_) s2 ⟨λ h=>by simp at h,λ _=>s3⟩ (.inr (.inr (.inl ⟨rfl,.inr ⟨rfl,by have:=hS.fu;omega,by have:=hS.fu;omega⟩⟩))) (by omega) ?_
   ·show (N.set 3 1).get k=_
    rw[bS Rn (by omega) (by omega)]
    by_cases k1:k=1
    ·subst k1;simp;omega
    by_cases k2:k=2
    ·subst k2;simp;omega
    by_cases k3:k=3
    ·subst k3;simp
    by_cases k4:k=4
    ·subst k4;simp;omega
    by_cases k5:k=5
    ·subst k5;simp;omega
    simp[k1,k2,k3,k4,k5]
   ·have hfu:=hS.fu.2
    unfold nH;rw[hp,R1]
    show l2 _ _ 1 S.fuel<l2 _ _ 0 _
    unfold l2;first|(simp;done)|(simp;omega)
 ·rw[if_neg R1,if_neg R1]
  obtain⟨SG,hf⟩:M.get 3=1 /\ (0 <= M.get 8 /\ M.get 8 <= 60):=by omega
  obtain⟨s1,s2,s3⟩:=yl hS (M:=M) (code:=g.code) (n:=g.cn) hl YC hf
  rw[hg]
  generalize ak S g.code g.cn M=r at *
  have n1:=s1.get 1 (by omega);have n2:=s1.get 2 (by omega);have n3:=s1.get 3 (by omega);have n4:=s1.get 4 (by omega);have n5:=s1.get 5 (by omega)
  by_cases he:bx g.code g.cn M=true
  ·rw[if_pos he]
   exact done r.M r.e r.em s1 ⟨s2.yes,s2.no⟩
  ·rw[if_neg he]
   show Nx S ins M ⟨r.M,0,r.e,r.em⟩
   rcases s3 with ⟨s4,s5,s6⟩|⟨s4,s5,s6⟩
   ·refine ii hS h (by omega) s1 rfl (p:=2) (i:=M.get 2) (j:=1) (q:=M.get 4) (x:=M.get 5) (fu:=M.get 8-1) (λ k=>?_) s5 ⟨s2.yes,s2.no⟩ (.inr (.inr (.inl ⟨rfl,.inr ⟨rfl,by omega,by omega⟩⟩))) (by omega) ?_
    ·show r.M.get k=_
     by_cases k1:k=1
     ·subst k1;simp;omega
     by_cases k2:k=2
     ·subst k2;simp;omega
     by_cases k3:k=3
     ·subst k3;simp;omega
     by_cases k4:k=4
     ·subst k4;simp;omega
     by_cases k5:k=5
     ·subst k5;simp;omega
     simp[k1,k2,k3,k4,k5]
    ·unfold nH;rw[hp,SG]
     show l2 _ _ 1 _<l2 _ _ 1 _
     unfold l2;first|(simp;done)|(simp;omega)
   ·exact absurd s5 he
structure En(S:Setup)(ins:Nat -> Inp)(M N:MemS):Prop where
 len:(N.cs.length:Int)=sizeOf S
 z:∀k:Int,1 <= k -> k <= 10 -> N.get k=0
 t0:N.get 0=M.get 0+1
 pl:∀q:Nat,(q:Int)<S.players -> N.get (48+4*q)=(ins q).dx /\ N.get (48+4*q+1)=(ins q).dy /\ N.get (48+4*q+2)=(ins q).act
 n11:N.get 11=M.get 11
theorem sd{M:MemS}(hl:48 <= M.cs.length):∀ (n:Nat),n <= 10 -> (∀k:Int,(cK M n).get k=if 1 <= k /\ k <= n then 0 else M.get k) /\ (cK M n).cs.length=M.cs.length
 | 0,_=>⟨λ k=>by rw[if_neg (by omega)];rfl,rfl⟩
 | n+1,hn=>by
  obtain⟨h1,h2⟩:=sd hl n (by omega)
  refine⟨λ k=>?_,?_⟩
  ·rw[cK,bS (by rw[h2];exact hl) (by omega) (by omega),h1]
   by_cases e:k=((n+1:Nat):Int)
   ·rw[if_pos e,if_pos (by omega)]
   ·rw[if_neg e]
    by_cases e2:1 <= k /\ k <= n
    ·rw[if_pos e2,if_pos (by omega)]
    ·rw[if_neg e2,if_neg (by omega)]
  ·rw[cK,aK];exact h2
theorem KX{S:Setup}(hp:0 <= S.players){t:Stp}(ht:t.S=S)(M:MemS):Hi S.players M (ge t M):=by
 subst ht
 unfold ge
 split
 ·next hb=>exact(Hi.refl).setB hp hb (by omega) _
 ·exact .refl
theorem q7{S:Setup}(hS:SetV S){g:Gm}(hg:g.S=S){ins:Nat -> Inp}{M:MemS}(h:TV S ins M)(hp:M.get 1=7):(fJ (g.step M)=false /\ Nx S ins M ⟨dG (g.step M) M,0,bA,false⟩) \/ (fJ (g.step M)=true /\ En S ins M (dG (g.step M) M)):=by
 have IF:=hS.pl
 have WL:=hS.nb
 have hc:0 <= M.get 2 /\ M.get 2<S.nb:=by rcases h.ct with h|h|h|h|h|h|h|h <;> omega
 have hl:=h.l48 hS
 have ht0:=h.t0
 have hh:=KX (S:=S) (by omega) (t:=g.step M) hg M
 unfold fJ dG hO
 generalize ge (g.step M) M=N at *
 have Rn:48 <= N.cs.length:=by rw[hh.len];exact hl
 have e0:=hh.get 0 (by omega);have e1:=hh.get 1 (by omega);have e3:=hh.get 3 (by omega);have e4:=hh.get 4 (by omega);have e8:=hh.get 8 (by omega)
 show ((if bg (M.get 2+1)<g.S.nb then false else true)=false /\ Nx S ins M ⟨if bg (M.get 2+1)<g.S.nb then N.set 2 (bg (M.get 2+1)) else cK (N.set 0 (bg (N.get 0+1))) 10,0,bA,false⟩) \/ ((if bg (M.get 2+1)<g.S.nb then false else true)=true /\ En S ins M (if bg (M.get 2+1)<g.S.nb then N.set 2 (bg (M.get 2+1)) else cK (N.set 0 (bg (N.get 0+1))) 10))
 rw[cZ (by omega),cZ (by omega),hg]
 by_cases hi:M.get 2+1<S.nb
 ·rw[if_pos hi,if_pos hi]
  refine .inl ⟨rfl,ii hS h (by omega) (hh.kp (by omega)) (aK _ _ _) (λ k=>QR (f:=N.get) (bS Rn (by omega) (by omega) k).symm) e8 (hh.ef (by omega)) ?_ (by omega) ?_⟩
  ·rw[e1,e3,e4,hp];exact .inr (.inr (.inr (.inr (.inr (.inr (.inr ⟨rfl,by omega,by omega⟩))))))
  ·unfold nH;rw[e1,e3,e4,hp]
   show (S.nb:Int)-(M.get 2+1)<(S.nb:Int)-M.get 2
   omega
 ·rw[if_neg hi,if_neg hi]
  obtain⟨z1,z2⟩:=sd (M:=N.set 0 (N.get 0+1)) (by rw[aK];exact Rn) 10 (Nat.le_refl _)
  have g0:=bS (M:=N) (i:=0) (v:=N.get 0+1) Rn (by omega) (by omega)
  refine .inr ⟨rfl,⟨by rw[z2,aK,hh.len];exact h.len,λ k k1 k2=>by rw[z1,if_pos (by omega)],by rw[z1,if_neg (by omega),g0,if_pos rfl,e0],λ q hq=>?_,by rw[z1,if_neg (by omega),g0,if_neg (by omega)];exact hh.get 11 (by omega)⟩⟩
  have:=h.pl q (by rw[hp,if_neg (by omega)];exact hq)
  rw[z1,if_neg (by omega),g0,if_neg (by omega),hh.get _ (by omega),z1,if_neg (by omega),g0,if_neg (by omega),hh.get _ (by omega),z1,if_neg (by omega),g0,if_neg (by omega),hh.get _ (by omega)]
  exact this
theorem q0{S:Setup}(hS:SetV S){g:Gm}(hg:g.S=S){ins:Nat -> Inp}(hi:∀q:Nat,(q:Int)<S.players -> g.ins.getD (g.io+q) dI=ins q)(Tu:S.players <= g.ni){M:MemS}(h:TV S ins M)(hp:M.get 1=0):Nx S ins M ⟨aQ (g.step M) M,0,bA,false⟩:=by
 have IF:=hS.pl
 have WL:=hS.nb
 have hc:0 <= M.get 2 /\ M.get 2<S.players:=by rcases h.ct with h|h|h|h|h|h|h|h <;> omega
 have hl:=h.l48 hS
 obtain⟨i,hii⟩:=Int.eq_ofNat_of_zero_le hc.1
 have hpa:ah S (M.get 2)=48+4*(i:Int):=by
  rcases uv (S:=S) (M.get 2) with ⟨e,e2⟩|⟨e1,e2,e3⟩
  ·omega
  ·rw[e3,hii]
 have hlen:=h.len
 have hA:(br (g.step M) M).cs.length=M.cs.length /\ ∀k,(k <= 10 \/ 48 <= k \/ k=11) -> (br (g.step M) M).get k=if k=11 then (if M.get 2=0 then 0 else M.get 11) else M.get k:=by
  unfold br
  show (if M.get 2=0 then (M.set 13 g.version).set 11 0 else M).cs.length=_ /\ _
  by_cases h0:M.get 2=0
  ·rw[if_pos h0]
   refine⟨by simp only[aK],λ k hk=>?_⟩
   rw[if_pos h0,bS (by rw[aK];exact hl) (by omega) (by omega),bS hl (by omega) (by omega)]
   by_cases e:k=11
   ·rw[if_pos e,if_pos e]
   ·rw[if_neg e,if_neg e,if_neg (by omega)]
  ·rw[if_neg h0]
   refine⟨rfl,λ k hk=>?_⟩
   rw[if_neg h0]
   by_cases e:k=11
   ·rw[if_pos e,e]
   ·rw[if_neg e]
 have hB:(bC (g.step M) (br (g.step M) M)).cs.length=M.cs.length /\ (∀k,(k <= 11 \/ (48 <= k /\ (k<48+4*(i:Int) \/ 51+4*(i:Int) <= k))) -> (bC (g.step M) (br (g.step M) M)).get k=if k=11 then (if M.get 2=0 then 0 else M.get 11) else M.get k) /\
   (bC (g.step M) (br (g.step M) M)).get (48+4*(i:Int))=(ins i).dx /\ (bC (g.step M) (br (g.step M) M)).get (48+4*(i:Int)+1)=(ins i).dy /\ (bC (g.step M) (br (g.step M) M)).get (48+4*(i:Int)+2)=(ins i).act:=by
  generalize br (g.step M) M=A at *
  obtain⟨a1,a2⟩:=hA
  have e:bC (g.step M) A=((A.set (48+4*(i:Int)+0) (ins i).dx).set (48+4*(i:Int)+1) (ins i).dy).set (48+4*(i:Int)+2) (ins i).act:=by
   unfold bC Stp.inp
   show (if ah g.S (M.get 2) >= 0 then if M.get 2<(g.ni:Int) then ((A.set (ah g.S (M.get 2)+0) (g.ins.getD (g.io+(M.get 2).toNat) dI).dx).set (ah g.S (M.get 2)+1) (g.ins.getD (g.io+(M.get 2).toNat) dI).dy).set (ah g.S (M.get 2)+2) (g.ins.getD (g.io+(M.get 2).toNat) dI).act else A else A)=_
   rw[hg,hpa,if_pos (by omega),if_pos (by omega),hii,Int.toNat_natCast,hi i (by omega)]
  rw[e]
  have hal:48+4*(i:Int)+2<A.cs.length:=by rw[a1];unfold sizeOf at hlen;omega
  refine⟨by simp only[aK];exact a1,λ k hk=>?_,?_,?_,?_⟩
  ·rw[bE (by omega),bE (by omega),bE (by omega)]
   exact a2 k (by omega)
  ·rw[bE (by omega),bE (by omega),Int.add_zero,jC (by omega)]
  ·rw[bE (by omega),jC (by rw[aK];omega)]
  ·rw[jC (by simp only[aK];omega)]
 unfold aQ
 generalize bC (g.step M) (br (g.step M) M)=N at *
 obtain⟨b1,b2,b3,b4,b5⟩:=hB
 have Rn:48 <= N.cs.length:=by rw[b1];exact hl
 have n0:=b2 0 (by omega);have n1:=b2 1 (by omega);have n2:=b2 2 (by omega);have n3:=b2 3 (by omega);have n4:=b2 4 (by omega);have n8:=b2 8 (by omega);have n11:=b2 11 (by omega)
 simp only[show ¬ ((0:Int)=11) by decide,show ¬ ((1:Int)=11) by decide,show ¬ ((2:Int)=11) by decide,show ¬ ((3:Int)=11) by decide,show ¬ ((4:Int)=11) by decide,show ¬ ((8:Int)=11) by decide,if_false,if_true] at n0 n1 n2 n3 n4 n8 n11
 have R0:∀q:Nat,(q:Int)<(i:Int)+1 -> N.get (48+4*q)=(ins q).dx /\ N.get (48+4*q+1)=(ins q).dy /\ N.get (48+4*q+2)=(ins q).act:=λ q hq=>by
  by_cases e:q=i
  ·subst e;exact⟨b3,b4,b5⟩
  ·have h2:=h.pl q (by rw[if_pos hp,hii];omega)
   rw[b2 _ (by omega),b2 _ (by omega),b2 _ (by omega),if_neg (by omega),if_neg (by omega),if_neg (by omega)]
   exact h2
 have hsv:EV M↔M.get 2=0:=⟨λ e=>e.2,λ e=>⟨hp,e⟩⟩
 have Sr:N.get 11=if EV M then 0 else M.get 11:=by
  rw[n11]
  by_cases e:M.get 2=0
  ·rw[if_pos e,if_pos (hsv.2 e)]
  ·rw[if_neg e,if_neg (λ x=>e (hsv.1 x))]
 have YC:0 <= N.get 11 /\ N.get 11 <= 40:=by
  rw[Sr]
  split
  ·omega
  ·rcases h.ec with e|e
   ·contradiction
   ·exact e
 unfold bZ
 show Nx S ins M ⟨if bg (M.get 2+1)<g.S.players then N.set 2 (bg (M.get 2+1)) else aL (g.step M) 1 0 N,0,bA,false⟩
 rw[cZ (by omega),hg]
 split
 ·have gg:=bS (M:=N) (i:=2) (v:=M.get 2+1) Rn (by omega) (by omega)
  have g1:(N.set 2 (M.get 2+1)).get 1=0:=by rw[gg,if_neg (by decide),n1,hp]
  have g2:(N.set 2 (M.get 2+1)).get 2=M.get 2+1:=by rw[gg,if_pos rfl]
  refine⟨⟨by rw[aK,b1];exact hlen,by rw[gg,if_neg (by decide),n0];exact h.t0,by rw[g1,g2];exact .inl ⟨rfl,by omega,by omega⟩,λ q hq=>?_,.inr (by rw[gg,if_neg (by decide)];exact YC)⟩,?_,by rw[g1,hp];exact Int.le_refl _,by rw[gg,if_neg (by decide),n0],λ e=>by have:=e.2;rw[g2] at this;omega,λ e=>by simp at e,λ _=>by rw[gg,if_neg (by decide)];exact Sr⟩
  ·rw[g1,if_pos rfl,g2,hii] at hq
   rw[gg,if_neg (by omega),gg,if_neg (by omega),gg,if_neg (by omega)]
   exact R0 q hq
  ·unfold nH;rw[g1,g2,hp]
   show l0 _ _ _ (M.get 2+1)<l0 _ _ _ (M.get 2)
   unfold l0;omega
 ·have gg:=kj Rn (g.step M) 1 0
  have g1:(aL (g.step M) 1 0 N).get 1=1:=by rw[gg];simp
  have g2:(aL (g.step M) 1 0 N).get 2=0:=by rw[gg];simp
  have g3:(aL (g.step M) 1 0 N).get 3=0:=by rw[gg];simp
  have gk:∀k,3<k -> (aL (g.step M) 1 0 N).get k=N.get k:=λ k hk=>by rw[gg,if_neg (by omega),if_neg (by omega),if_neg (by omega)]
  refine⟨⟨by rw[fV,b1];exact hlen,by rw[gg,if_neg (by decide),if_neg (by decide),if_neg (by decide),n0];exact h.t0,by rw[g1,g2,g3];exact .inr (.inl ⟨rfl,by omega,by omega,.inl rfl⟩),λ q hq=>?_,.inr (by rw[gk 11 (by omega)];exact YC)⟩,?_,by rw[g1,hp];decide,by rw[gg,if_neg (by decide),if_neg (by decide),if_neg (by decide),n0],λ e=>by have:=e.1;rw[g1] at this;omega,λ e=>by simp at e,λ _=>by rw[gk 11 (by omega)];exact Sr⟩
  ·rw[g1,if_neg (by decide)] at hq
   rw[gk _ (by omega),gk _ (by omega),gk _ (by omega)]
   exact R0 q (by omega)
  ·unfold nH;rw[g1,g2,g3,hp]
   show l1 _ _ _ 0 0 _<l0 _ _ _ (M.get 2)
   unfold l0 l1;simp;omega
theorem Pr{S:Setup}(hS:SetV S){g:Gm}(hg:g.S=S){ins:Nat -> Inp}(hi:∀q:Nat,(q:Int)<S.players -> g.ins.getD (g.io+q) dI=ins q)(Tu:S.players <= g.ni){M:MemS}(h:TV S ins M) :
  FJ M /\ ((jg g M=false /\ Nx S ins M (eT g M)) \/ (jg g M=true /\ En S ins M (kX g M) /\ (eT g M).em=false /\ ¬ EV M /\ (0 <= M.get 11 /\ M.get 11 <= 40))):=by
 have XC:FJ M:=by
  rcases h.ct with h|h|h|h|h|h|h|h <;> (refine⟨?_,?_⟩ <;> omega)
 refine⟨XC,?_⟩
 by_cases h0:M.get 1=0
 ·left;rw[show eT g M=⟨aQ (g.step M) M,0,bA,false⟩ by simp[eT,h0]];exact⟨by simp[jg,h0],q0 hS hg hi Tu h h0⟩
 by_cases h1:M.get 1=1
 ·left;rw[show eT g M=fi (g.step M) M by simp[eT,h1]];exact⟨by simp[jg,h1],q1 hS hg h h1⟩
 by_cases h2:M.get 1=2
 ·left;rw[show eT g M=cY (g.step M) M by simp[eT,h2]];exact⟨by simp[jg,h2],q2 hS hg h h2⟩
 by_cases h3:M.get 1=3
 ·left;rw[show eT g M=⟨aR (g.step M) M,0,bA,false⟩ by simp[eT,h3]];exact⟨by simp[jg,h3],q3 hS hg h h3⟩
 by_cases h4:M.get 1=4
 ·left;rw[show eT g M=⟨bT (g.step M) M,0,bA,false⟩ by simp[eT,h4]];exact⟨by simp[jg,h4],q4 hS hg h h4⟩
 by_cases h5:M.get 1=5
 ·left;rw[show eT g M=⟨dZ (g.step M) M,0,bA,false⟩ by simp[eT,h5]];exact⟨by simp[jg,h5],q5 hS hg h h5⟩
 by_cases h6:M.get 1=6
 ·left;rw[show eT g M=fj (g.step M) M by simp[eT,h6]];exact⟨by simp[jg,h6],q6 hS hg h h6⟩
 have h7:M.get 1=7:=by have:=XC.1;have:=XC.2;omega
 have e:eT g M=⟨dG (g.step M) M,0,bA,false⟩:=by simp[eT,h7]
 rw[kX,e]
 have e2:jg g M=fJ (g.step M):=by simp[jg,h7]
 rw[e2]
 rcases q7 hS hg h h7 with ⟨a,b⟩|⟨a,b⟩
 ·exact .inl ⟨a,b⟩
 ·refine .inr ⟨a,b,rfl,λ e=>by have:=e.1;omega,?_⟩
  rcases h.ec with e|e
  ·have:=e.1;omega
  ·exact e
def Numb(t c:Int)(es:List Eff):Prop:=∀k,k<es.length -> (es.getD k bA).t=t /\ (es.getD k bA).i=c+k
theorem Numb.nil{t c:Int}:Numb t c []:=λ k hk=>by simp at hk
theorem Numb.cons{t c:Int}{e:Eff}{es:List Eff}(h1:e.t=t)(h2:e.i=c)(h:Numb t (c+1) es):Numb t c (e::es):=λ k hk=>by
 rcases k with _|k
 ·exact⟨h1,by rw[List.getD_cons_zero,h2];omega⟩
 ·have:=h k (by simpa using hk)
  rw[List.getD_cons_succ]
  exact⟨this.1,by rw[this.2];omega⟩
theorem Ch{S:Setup}(hS:SetV S){g:Gm}(hg:g.S=S){ins:Nat -> Inp}(hi:∀q:Nat,(q:Int)<S.players -> g.ins.getD (g.io+q) dI=ins q)(Tu:S.players <= g.ni):∀ (n:Nat) (M:MemS),TV S ins M -> nH S M <= n ->
  ∃m,m+1 <= n /\ dQ g (m+1) M /\ (∀k:Int,1 <= k -> k <= 10 -> (gn g (m+1) M).get k=0) /\ ((gn g (m+1) M).cs.length:Int)=sizeOf S /\ (gn g (m+1) M).get 0=M.get 0+1 /\
   Numb (M.get 0) (if EV M then 0 else M.get 11) (fK g (m+1) M) /\ (gn g (m+1) M).get 11=(if EV M then 0 else M.get 11)+(fK g (m+1) M).length /\ (gn g (m+1) M).get 11 <= 40
 | 0,M,h,hl=>by
  have:=Cf hS.pl ⟨by have:=hS.nb;omega,by have:=hS.nb;omega⟩ hS.ro h.ct
  unfold nH at hl;omega
 | n+1,M,h,hl=>by
  obtain⟨XC,⟨e1,hx⟩|⟨e1,hx,hem,iS,Sr⟩⟩:=Pr hS hg hi Tu h
  ·obtain⟨m,hm,k1,k2,k3,k4,k5,k6,k7⟩:=Ch hS hg hi Tu n (eT g M).M hx.tv (by have:=hx.lt;omega)
   rw[if_neg hx.ns] at k5 k6
   have er:gn g (m+1+1) M=gn g (m+1) (eT g M).M:=rfl
   refine⟨m+1,by omega,⟨XC,.inr ⟨e1,k1⟩⟩,by rw[er];exact k2,by rw[er];exact k3,by rw[er,k4,hx.t0],?_,?_,by rw[er];exact k7⟩
   ·cases he:(eT g M).em with
    | true =>
     obtain⟨a1,a2,a3,a4⟩:=hx.yes he
     rw[tG he,if_neg a1]
     refine Numb.cons a2 a3 ?_
     rw[hx.t0,a4] at k5;exact k5
    | false =>
     rw[oc (by rw[he];decide)]
     have:=hx.no he
     rw[hx.t0,this] at k5;exact k5
   ·rw[er]
    cases he:(eT g M).em with
    | true =>
     obtain⟨a1,a2,a3,a4⟩:=hx.yes he
     rw[tG he,if_neg a1,List.length_cons,k6,a4];show _+(List.length (fK g (m+1) (kX g M)):Int)=_;omega
    | false =>
     rw[oc (by rw[he];decide),k6,hx.no he]
  ·refine⟨0,by omega,⟨XC,.inl ⟨rfl,e1⟩⟩,hx.z,hx.len,hx.t0,?_,?_,?_⟩
   ·rw[oc (by rw[hem];decide)];exact .nil
   ·rw[oc (by rw[hem];decide),if_neg iS]
    show (kX g M).get 11=M.get 11+(([]:List Eff).length:Int)
    rw[hx.n11];simp
   ·show (kX g M).get 11 <= 40
    rw[hx.n11];exact Sr.2
end Go.Proofs.YtgdcbiiopbpgaaaGreatDoor
