import Derived.Test.YtghjbimijeinfaaGreatDoorV24
set_option maxHeartbeats 4000000
set_option maxRecDepth 100000
set_option linter.all false
namespace Go.Proofs.YtghjbimijeinfaaGreatDoor
open Go.RowKit Go.Shelf
section
variable {α:Type} {e:Enc α} {P:Program} {T:TypeId} {inf:TypeInfo} {z:Value} {l:List α} {A:Option Addr} {cap:Nat} {Hl F:HL}
theorem SlIs.toRowL(h:SlIs e T l A cap Hl)(hF:∀x∈Hl,x∈F):RowL e T F A l.length l:=by
 rcases h with ⟨rfl,rfl,rfl,rfl⟩|⟨b,o,full,rfl,rfl,h1,h2,h3⟩
 ·exact .zero _
 ·refine .rows b o (o+cap) full (0,0) _ l (hF _ (List.mem_singleton.2 rfl)) (by omega) rfl (λ k hk=>?_);have h4:((full.drop o).take l.length)[k]?=l[k]?:=by rw[h3]
  rw[List.getElem?_take,if_pos hk,List.getElem?_drop] at h4;rw[aaK,aaK,h4]
theorem SlIs.src(ok:EncOk e P T inf z)(hw:0<e.w)(h:SlIs e T l A cap Hl)(hF:∀x∈Hl,x∈F):SrcIn P e F A l.length l:=RowL.src ok hw (h.toRowL hF)
end
section
variable {r:Option Nat} {P:Program} {N:Nat} {D:List Deferred} {F:HL} {w0:World} {R:HL} {s:Cfg} {Q:Exit -> Act -> World -> Prop} {hards:List Nat} {Rd:HL}
def btC(i:Nat)(s:Cfg):Cfg:=match s with
 | ⟨c,k,L,A,Ts⟩=>⟨c,k,L,(oth [i] A.length).filterMap (A[·]?),[i].filterMap (A[·]?)::Ts⟩
theorem Me{A:HL}{Ts:List HL}{i:Nat}(h:([i]++oth [i] A.length).isPerm (List.range A.length)=true):(ap ((oth [i] A.length).filterMap (A[·]?)) ([i].filterMap (A[·]?)::Ts)).Perm (ap A Ts):=by
 have hp:=fc A [i] (oth [i] A.length) h;show ((oth [i] A.length).filterMap (A[·]?)++([i].filterMap (A[·]?)::Ts).flatten).Perm (A++Ts.flatten);rw[List.flatten_cons,<- aaF];exact(List.perm_append_comm.trans hp).append_right _
theorem Jn(i:Nat)(hk:RN r P N D F w0 R (btC i s) Q)(h:([i]++oth [i] s.A.length).isPerm (List.range s.A.length)=true:=by kernel_rfl):RN r P N D F w0 R s Q:=by
 obtain⟨c,k,L,A,Ts⟩:=s;exact⟨λ hR a w h1 h2 h3=>hk.h hR a w h1 (h2.perm ((Me h).append_right F)) h3⟩
theorem nz(t:Nat){u v:Value}(e:u=v)(hk:RD r P N D F w0 R hards Rd (svC t v s) Q)(h:s.L.lookup t=some u:=by kernel_rfl):RD r P N D F w0 R hards Rd s Q:=by
 subst e;exact⟨λ hR hs BY a hF=>hk.h hR hs BY a (hF.fix h)⟩
variable {α:Type} {e:Enc α} {T:TypeId} {inf:TypeInfo} {z:Value}
theorem RN.appU(ok:EncOk e P T inf z)(l src:List α)(j:Nat){A:Option Addr}{n cap:Nat}{Hl:HL}{B:Option Addr}{m c':Nat}{tx:TypeId}(hn:n=l.length)(hsl:SlIs e T l A cap Hl)(hb:l.length+src.length <= 100000000)
  (hs:SrcIn P e (ap s.A s.Ts++F) B m src)
  (hk:∀ (A':Option Addr) (f_:Nat) (Is:HL),(SlIs e T (l++src) A' f_ Is /\ (bx A -> bx A')) -> RN r P N D F w0 R (Qf j Is (eH N (.slice A' (n+src.length) f_) s)) Q)
  (h:C0 P N j (fN s) s=some (A,n,cap,T,B,m,c',tx,Hl):=by kernel_rfl):RN r P N D F w0 R s Q:=by
 obtain⟨o,a1,a2,t,e',q0,q1,q2,q3,q4,q5,q6,q7,q9,D_,SY⟩:=sD h;refine⟨λ hR a w hF aT hB=>?_⟩;obtain⟨c,k,L,Bs,Ts⟩:=s;unfold fN at q0;cases c with
 | code c=>cases q0
 | ex c=>cases q0
 | drw _ _=>cases q0
 | ops ops i =>
  simp only at q0 q3 q4 q5 q9 D_ SY hF aT;have rW:ops.toList.drop i=o::ops.toList.drop (i+1):=by
   have g_:i<ops.toList.length:=(List.getElem?_eq_some_iff.1 q0).1;rw[List.drop_eq_getElem_cons g_,(List.getElem?_eq_some_iff.1 q0).2]
  show wpListIn _ _ _ _ _ _ _ _;rw[rW,wpListIn,if_pos (by simp[Region.wanted,q1])];refine⟨λ _ _=>trivial,?_⟩;have AT:=j8 (A:=Bs) q9 D_;refine iY (by rw[q2];intro c hc;cases hc) (pK (x:=.slice B m c') (src:=src) (G:=Bs++((oth [j] Ts.length).filterMap (Ts[·]?)).flatten) ok q2 q6 q3 q4 hn q5 AT hsl (λ w hw=>by have h5:=hs.2 c' q7 [] w hw;rwa [<- ok.size] at h5) hb a hF w aT) ?_;rintro u w' ⟨⟨A',f_,Is⟩,⟨rfl,WY⟩,G_,Wl⟩;obtain⟨L',p1⟩:=dU SY (.slice A' (n+src.length) f_);have hh:=(hk A' f_ Is WY).h hR;have Tf:eH N (.slice A' (n+src.length) f_) ⟨.ops ops i,k,L,Bs,Ts⟩=⟨.ops ops (i+1),k,L',Bs,Ts⟩:=by
   unfold eH;simp only[q0,p1]
  rw[Tf] at hh;refine hh _ w' (hF.put p1) (G_.perm (aa8 F ?_)) (hB.trans Wl);show (Bs++(Is::(oth [j] Ts.length).filterMap (Ts[·]?)).flatten).Perm _;rw[List.flatten_cons,<- aaF,<- aaF];exact aa8 _ aa7
end
structure Rw where (A:Option Addr) (n c:Nat)
def jz:Enc Rw:=⟨1,λ p k=>match k with|0=>.slice p.A p.n p.c|_=>default,⟨none,0,0⟩⟩
noncomputable def Rb:TypeInfo:=match Tryz.prog.info? 56 with | some i=>i | none=>⟨.bool,"",0,0,false,0,0,none,false,#[]⟩
noncomputable def Rc:Value:=match Rb.zero with|some z=>z|none=>.bool false
theorem NH:EncOk jz Tryz.prog 56 Rb Rc where
 info:=by kernel_rfl
 zero:=by kernel_rfl
 size:=by kernel_rfl
 zsize:=by kernel_rfl
 zcell:=λ k hk=>by
  have h:∀k<1,Rc.cells[k]?=some (jz.cell jz.dflt k):=by intro k hk;(iterate 1 (rcases k with _|k;· kernel_rfl));omega
  exact h k hk
 one:=λ x k=>by unfold jz;dsimp only;split <;> rfl
 bytes:=aaN (by kernel_rfl)
inductive RwIn(F:HL)(xs:List Inp):Rw -> Prop
 | mk (b o N:Nat) (full:List Inp) (c:Nat) (hI:(b,.rows 3 N (j9 full) 151 (0,0))∈F) (hir:o+xs.length <= N) (hx:∀k,k<xs.length -> full.getD (o+k) dI=xs.getD k dI) (hcap:xs.length <= c):RwIn F xs ⟨some ⟨b,o*3,none⟩,xs.length,c⟩
structure RwsIn(F:HL)(rs:List Rw)(xss:List (List Inp)):Prop where
 len:rs.length=xss.length
 row:∀k,k<rs.length -> RwIn F (xss.getD k []) (rs.getD k jz.dflt)
def RwsT(rs:List Rw)(xss:List (List Inp))(T:HL):Prop:=∀F,(∀x∈T,x∈F) -> RwsIn F rs xss
theorem RwIn.mono{F F':HL}{xs:List Inp}{p:Rw}(h:RwIn F xs p)(hs:∀x∈F,x∈F'):RwIn F' xs p:=by
 cases h with
 | mk b o N full c hI hir hx hc=>exact .mk b o N full c (hs _ hI) hir hx hc
theorem RwsIn.mono{F F':HL}{rs:List Rw}{xss:List (List Inp)}(h:RwsIn F rs xss)(hs:∀x∈F,x∈F'):RwsIn F' rs xss:=⟨h.len,λ k hk=>(h.row k hk).mono hs⟩
theorem RwsIn.get{F:HL}{rs:List Rw}{xss:List (List Inp)}(h:RwsIn F rs xss){k:Nat}(hk:k<rs.length):∃b o N full c,rs.getD k jz.dflt=⟨some ⟨b,o*3,none⟩,(xss.getD k []).length,c⟩ /\ (b,.rows 3 N (j9 full) 151 (0,0))∈F /\ o+(xss.getD k []).length <= N /\ (∀i,i<(xss.getD k []).length -> full.getD (o+i) dI=(xss.getD k []).getD i dI) /\ (xss.getD k []).length <= c:=by
 have h1:=h.row k hk;generalize rs.getD k jz.dflt=p at h1 ⊢;cases h1 with
 | mk b o N full c hI hir hx hc=>exact⟨b,o,N,full,c,rfl,hI,hir,hx,hc⟩
theorem SlIs.rw{xs:List Inp}{A:Option Addr}{c:Nat}{T F:HL}(h:SlIs iE 151 xs A c T)(hF:∀x∈T,x∈F)(h1:1 <= xs.length){n:Nat}(hn:n=xs.length):RwIn F xs ⟨A,n,c⟩:=by
 subst hn;rcases h with ⟨_,_,rfl,_⟩|⟨b,o,full,rfl,rfl,h2,h3,h4⟩
 ·simp at h1
 ·refine .mk b o (o+c) full c (hF _ (List.mem_singleton.2 rfl)) (by omega) (λ k hk=>?_) h3;have h5:((full.drop o).take xs.length)[k]?=xs[k]?:=by rw[h4]
  rw[List.getElem?_take,if_pos hk,List.getElem?_drop] at h5;rw[aaK,aaK,h5]
theorem RwsT.nil:RwsT [] [] []:=λ F _=>⟨rfl,λ k hk=>absurd hk (Nat.not_lt_zero _)⟩
theorem kB{α:Type}(l:List α)(x d:α)(k:Nat):(l++[x]).getD k d=if k<l.length then l.getD k d else if k=l.length then x else d:=by
 rw[aaK,List.getElem?_append];split
 ·rw[aaK]
 ·split
  ·next h=>subst h;simp
  ·rw[List.getElem?_eq_none (by simp;omega)];rfl
theorem RwsT.snoc{rs:List Rw}{xss:List (List Inp)}{T T1:HL}{xs:List Inp}{A:Option Addr}{c n:Nat}(h:RwsT rs xss T)(hs:SlIs iE 151 xs A c T1)(h1:1 <= xs.length)(hn:n=xs.length):RwsT (rs++[⟨A,n,c⟩]) (xss++[xs]) (T++T1):=λ F hF=>by
 have h2:=h F λ x hx=>hF x (aav _ hx);refine⟨by simp[h2.len],λ k hk=>?_⟩;rw[kB,kB,<- h2.len]
 by_cases XL:k<rs.length
 ·rw[if_pos XL,if_pos XL];exact h2.row k XL
 ·have:k=rs.length:=by simp at hk;omega
  rw[if_neg XL,if_neg XL,if_pos this,if_pos this];exact hs.rw (λ x hx=>hF x (aau _ hx)) h1 hn
def fX(pl:Int)(xs:List Int)(n:Nat):List (List Inp):=(List.range n).map λ t:Nat=>rowL pl xs (t:Int) pl.toNat
theorem BX(pl:Int)(xs:List Int)(n:Nat):fX pl xs (n+1)=fX pl xs n++[rowL pl xs (n:Int) pl.toNat]:=by simp[fX,List.range_succ]
theorem FK{pl:Int}{xs:List Int}{n k:Nat}(h:k<n):(fX pl xs n).getD k []=rowL pl xs (k:Int) pl.toNat:=by simp[fX,h]
theorem zO(S:Setup)(A:Option Addr)(n cap:Nat)(xs:List Int)(c:Int)(cnt:Nat)(F:HL)(hl:ArgL F A n xs)(hn:n <= 9223372036854775807)(hp:1 <= S.players /\ S.players <= 1000000)(hc:c=(cnt:Int))(h20:cnt <= 20):Sp Tryz.prog 10 #[Setup.v S,.slice A n cap,vI c] (ap [] []) F (λ u H'=>∃x:(Option Addr × Nat × List Rw) × HL × HL,H'=ap [] [x.2.1,x.2.2] /\ (u=.slice x.1.1 cnt x.1.2.1 /\ SlIs jz 56 x.1.2.2 x.1.1 x.1.2.1 x.2.1 /\ x.1.2.2.length=cnt /\ RwsT x.1.2.2 (fX S.players xs cnt) x.2.2)):=by
 refine aas Tryz.func10 rfl mn (A:=[]) (Ts:=[]) rfl λ w0=>?_;refine ae 18 [] λ n1=>aao<|aao<|aan (σ:=Nat × Option Addr × Nat × List Rw × HL × HL) (λ ⟨t_,A_,c_,rs_,E_,T_⟩=>⟨[(1,.slice A n cap),(2,vI c),(3,vP (n1+0) 0),(7,.slice A_ t_ c_),(8,vI (t_:Int))],[((n1+0),.lit (Setup.l S) 31 (0,0))],[E_,T_],(t_:Int) <= c /\ t_ <= 20 /\ SlIs jz 56 rs_ A_ c_ E_ /\ rs_.length=t_ /\ RwsT rs_ (fX S.players xs t_) T_,20-t_⟩) (0,none,0,[],[],[]) [0] [0,1] (⟨by omega,aaU _,aar _ _,rfl,RwsT.nil⟩) ?_;rintro⟨t_,A_,c_,rs_,E_,T_⟩ ⟨ht_,aoh,IF,Td,YD⟩ Uj;refine ae 7 [] λ _=>aal ((t_:Int)<c) 12 (λ h4=>?_) λ h4=>?_
 ·refine ae 5 [] λ _=>aal ((t_:Int)<20) 15 (λ h5=>?_) λ h5=>?_
  ·refine ae 10 (ow 0 16) λ _=>aai (Hp:=[]) (Tp:=[]) [] [] (Lu S A n cap xs (t_:Int) _ hl.up hn (by omega) (by omega)) ?_;rintro _ ⟨A6,c7,T8⟩ ⟨rfl,hs9,Z5⟩;dsimp only at hs9 Z5;refine ae 1 [] λ n11=>eA NH rs_ [(⟨A6,S.players.toNat,c7⟩:Rw)] 1 0 Td.symm IF (by simp;omega) ?_;rintro A12 c13 VP ⟨V8,acD⟩;refine ai 9 [.nw] [bm ((t_:Int)+1)] λ _=>oO [2,1,0]<|qP ?_;refine Uj (t_+1,A12,c13,rs_++[(⟨A6,S.players.toNat,c7⟩:Rw)],VP,T_++T8) [1] [1,0] ?_
   try dsimp only
   refine⟨⟨by omega,by omega,V8,by simp;omega,?_⟩,by omega⟩;rw[BX];exact YD.snoc hs9 (by rw[fV];omega) (fV _ _ _ _).symm
  ·(exfalso;omega)
 ·refine ae 17 [] λ _=>aap [] [] [0,1] (v:=.slice A_ t_ c_) (H':=(ap [] [E_,T_])) ?_;obtain rfl:t_=cnt:=by omega
  exact⟨((A_,c_,rs_),E_,T_),rfl,rfl,IF,Td,YD⟩
def nA(G:Nat -> Gm)(M:MemS):Nat -> MemS
 | 0=>M
 | k+1=>rm (G k) (nA G M k)
def xf(G:Nat -> Gm)(M:MemS):Nat -> List Eff
 | 0=>[]
 | k+1=>xf G M k++wP (G k) (nA G M k)
theorem Jo(g:Gm):∀ (f:Nat) (M:MemS),yA g f M <= f
 | 0,_=>aaS _
 | f+1,M=>by
  rw[yA];split
  ·omega
  ·have:=Jo g f (eR g M);omega
theorem DA(g:Gm)(M:MemS):(wP g M).length <= 1001:=by
 have h1:=uP g (yA g 1000 M+1) M;have h2:=Jo g 1000 M;unfold wP;omega
theorem DB(G:Nat -> Gm)(M:MemS):∀k,(xf G M k).length <= 1001*k
 | 0=>aaS _
 | k+1=>by
  have h1:=DB G M k;have h2:=DA (G k) (nA G M k);rw[xf,aaV];omega
abbrev eU(S:Setup)(j:Nat × Int)(xs:List Inp):Gm:=gN S j xs.length xs
abbrev rG(S:Setup)(J:Nat -> Nat × Int)(xss:List (List Inp)):Nat -> Gm:=λ k=>eU S (J k) (xss.getD k [])
structure TkOk(S:Setup)(j:Nat × Int)(xs:List Inp)(M:MemS):Prop where
 ex:∃m,m <= 999 /\ cH (eU S j xs) (m+1) M
 now:0 <= M.get 0
 ok:dL S.players xs.length xs (M.get 0)=0
theorem NI{g:Gm}{M:MemS}{m:Nat}(hm:m <= 999)(h:cH g (m+1) M):eI g (m+1) M=rm g M /\ dP g (m+1) M=wP g M:=by
 rw[rm,wP,HP m 1000 M h (by omega)];exact⟨rfl,rfl⟩
theorem xg{M N:MemS}(h:M.cs=N.cs)(i:Int):M.get i=N.get i:=by unfold MemS.get;rw[h]
theorem oh(g:Gm)(l:List (Int × Int))(b:Int):∀ (n:Nat) (M:MemS),cH g n (M.sh l b)↔cH g n M
 | 0,_=>Iff.rfl
 | n+1,M=>by rw[cH,cH,HO,eR,eR,wO,bI,oh g l b n];exact Iff.rfl
theorem BZ{g:Gm}{M N:MemS}(h:M.cs=N.cs)(n:Nat)(hg:cH g n M):cH g n N:=by
 rw[<- nQ M,oh] at hg;rw[<- nQ N,oh,<- h];exact hg
theorem TkOk.cs{S:Setup}{j:Nat × Int}{xs:List Inp}{M N:MemS}(e:M.cs=N.cs)(h:TkOk S j xs M):TkOk S j xs N:=by
 obtain⟨m,h1,h2⟩:=h.ex;exact⟨⟨m,h1,BZ e _ h2⟩,by rw[<- xg e];exact h.now,by rw[<- xg e];exact h.ok⟩
theorem zP(g:Gm)(M:MemS):(rm g M).base=M.base:=by
 have h:=congrArg MemS.base (congrArg (rm g) (nQ M));rw[Bj] at h;exact h.symm
theorem FM(mb cb n:Nat)(A:Option Addr)(m cap:Nat)(base:Int)(F:HL)(hm:(mb,.lit [vS cb 0 n n,.slice A m cap,vI base] 119 (0,0))∈F)(hb:0 <= base /\ base <= 1000000000)(hl:m <= 100000000):Sp Tryz.prog 58 #[vP mb 0] [] F (λ u H'=>u=vI (base+(m:Int)) /\ H'=[]):=by
 have h:=yS mb cb n A m cap base F hm;rwa [bU (by omega)] at h
theorem Po{mb:Nat}{M:MemS}{k:Nat}{T F:HL}(h:MemH mb M k T)(hs:∀x∈T,x∈F)(hb:0 <= M.base /\ M.base <= 1000000000):Sp Tryz.prog 58 #[vP mb 0] [] F (λ u H'=>u=vI (M.base+(M.lg.length:Int)) /\ H'=[]):=by
 have h1:=h.len2;have h2:=yT h hs;rwa [bU (by omega)] at h2
theorem NewS.sl0{A':Option Addr}{f_:Nat}{Is:HL}(h:NewS kQ 207 ([]:List (Int × Int)) none A' f_ Is):SlIs kQ 207 [] A' f_ Is:=by
 rcases h with ⟨_,rfl,rfl,rfl⟩|⟨b,rfl,rfl,_⟩
 ·exact aar _ _
 ·refine .inr ⟨b,0,List.replicate f_ kQ.dflt,by simp,?_,by simp,aaU _,rfl⟩;have:=oZ (e:=kQ) [] f_;rw[List.nil_append] at this;rw[this,Nat.zero_add]
theorem Sp.tl{P:Program}{f:FuncId}{args:Array Value}{H F:HL}{R:Value -> HL -> Prop}(h:Sp P f args H F R):Sp P f args H F (λ u H'=>∃x,H'=ap [] [x] /\ R u x):=h.mono λ u H' h=>⟨H',(cN H').symm,h⟩
theorem Re{P:Program}{sz:Nat}{tx e':TypeId}{a:Addr}{m c':Nat}{w:World}(hm:m=0)(hk:P.underlying tx=some (.slice e')):Src P sz tx (.slice (some a) m c') 0 [] w:=by
 subst hm;exact Src.ofSlice w hk a 0 c' [] (by simp) (λ j u h=>by simp at h) (λ u h=>by simp at h)
theorem ol(mb cb n:Nat)(A:Option Addr)(m cap:Nat)(base:Int)(F:HL)(hm:(mb,.lit [vS cb 0 n n,.slice A m cap,vI base] 119 (0,0))∈F)(hb:0 <= base /\ base <= 1000000000)(hl:m <= 100000000):Sp Tryz.prog 98 #[vP mb 0,vI (base+(m:Int))] [] F (λ u H'=>u=vI 0 /\ H'=[]):=by
 refine aas Tryz.func98 rfl (mc hm mn) (A:=[]) (Ts:=[]) rfl λ w0=>?_;refine ae 18 [.ro 0] λ _=>aal (base+(m:Int)<base) 5 (λ h1=>?_) λ h1=>?_
 ·(exfalso;omega)
 ·refine ae 5 [] λ _=>aah (FM mb cb n A m cap base _ (aq hm) hb hl)<|ae 4 [] λ _=>aal (base+(m:Int)>base+(m:Int)) 12 (λ h2=>?_) λ h2=>?_
  ·(exfalso;omega)
  ·refine ae 9 [] λ _=>?_;exact aap [] [] [] ⟨rfl,rfl⟩
theorem Jp(mb cb k:Nat)(M:MemS)(F:HL)(hb:0 <= M.base /\ M.base <= 1000000000)(hc:M.cs.length <= 1000000)(hk:k <= 100000000):Sp Tryz.prog 110 #[vP mb 0,vI (M.base+((0:Nat):Int))] [(mb,.lit [vS cb 0 M.cs.length M.cs.length,.slice none 0 0,vI M.base] 119 (0,0)),(cb,.rows 1 M.cs.length (aM M.cs) 3 (0,0))] F (λ u H'=>u=vI 0 /\ MemH mb ⟨M.cs,[],M.base+((0:Nat):Int)⟩ k H'):=by
 refine aas Tryz.func110 rfl mn (A:=[(mb,.lit [vS cb 0 M.cs.length M.cs.length,.slice none 0 0,vI M.base] 119 (0,0)),(cb,.rows 1 M.cs.length (aM M.cs) 3 (0,0))]) (Ts:=[]) rfl λ w0=>?_;refine ae 10 [] λ _=>aah (ol mb cb M.cs.length none 0 0 M.base _ (au 0) hb (by omega))<|ai 40 [.own 0,.nw,.own 0,.own 0] [bm ((M.base+((0:Nat):Int))-M.base)] λ _=>aS 28 (congrArg (λ v_=>(vI v_:Value)) (show (M.base+((0:Nat):Int))-M.base=0 by omega))<|ae 18 (aab 2) λ _=>aal (0<(M.base+((0:Nat):Int))-M.base) 38 (λ h1=>?_) λ h1=>?_
 ·(exfalso;omega)
 ·refine ae 8 [] λ _=>aap [] [0,1] [] (v:=vI 0) (H':=(ap [(mb,.lit [vS cb 0 M.cs.length M.cs.length,.slice none 0 0,vI (M.base+((0:Nat):Int))] 119 (0,0)),(cb,.rows 1 M.cs.length (aM M.cs) 3 (0,0))] [])) ?_;refine⟨rfl,?_⟩;have h_:=MemH.mk (mb:=mb) (M:=⟨M.cs,[],M.base+((0:Nat):Int)⟩) (k:=k) cb none 0 ([]) (aar _ _) hc (by simp;omega);simpa [ap] using h_
theorem Jq(mb cb k b o cap:Nat)(M:MemS)(full:List (Int × Int))(F:HL)(hb:0 <= M.base /\ M.base <= 1000000000)(hc:M.cs.length <= 1000000)(hk:k <= 100000000)(hf:full.length=o+cap)(hn:M.lg.length=cap)(hl:M.lg.length <= 100000000):Sp Tryz.prog 110 #[vP mb 0,vI (M.base+(M.lg.length:Int))] [(mb,.lit [vS cb 0 M.cs.length M.cs.length,vS b (o*2) M.lg.length cap,vI M.base] 119 (0,0)),(cb,.rows 1 M.cs.length (aM M.cs) 3 (0,0)),(b,.rows 2 (o+cap) (bu kQ full) 207 (0,0))] F (λ u H'=>u=vI 0 /\ MemH mb ⟨M.cs,[],M.base+(M.lg.length:Int)⟩ k H'):=by
 refine aas Tryz.func110 rfl mn (A:=[(mb,.lit [vS cb 0 M.cs.length M.cs.length,vS b (o*2) M.lg.length cap,vI M.base] 119 (0,0)),(cb,.rows 1 M.cs.length (aM M.cs) 3 (0,0)),(b,.rows 2 (o+cap) (bu kQ full) 207 (0,0))]) (Ts:=[]) rfl λ w0=>?_;refine ae 10 [] λ _=>aah (ol mb cb M.cs.length (some ⟨b,o*2,none⟩) M.lg.length cap M.base _ (au 0) hb (by omega))<|ai 40 [.own 0,.nw,.own 0,.own 0] [bm ((M.base+(M.lg.length:Int))-M.base)] λ _=>aS 28 (congrArg (λ v_=>(vI v_:Value)) (show (M.base+(M.lg.length:Int))-M.base=(M.lg.length:Int) by omega))<|ai 18 [.sl M.lg.length M.lg.length true,.own 0,.own 0] [(M.lg.length:Int)=((M.lg.length:Nat):Int) /\ M.lg.length=M.lg.length /\ M.lg.length <= M.lg.length /\ M.lg.length <= cap /\ cap=M.lg.length] λ _=>aal ((((M.lg.length-M.lg.length):Nat):Int)<(M.base+(M.lg.length:Int))-M.base) 38 (λ h1=>?_) λ h1=>?_
 ·refine ae 7 [.own 0] λ _=>aao<|jL (A:=none) (B:=(some ⟨b,o*2,none⟩)) (c':=(cap-M.lg.length)) AM ([]:List (Int × Int)) 0 (λ a_ e_=>by cases e_) (m:=(M.lg.length-M.lg.length)) (tx:=117) (by simp) (by simp) (λ e_ he X w hR=>Re (by simp) he) ?_;rintro A2 c3 T4 Vv;refine ae 10 [.own 0] λ _=>aap [] [0,1] [0] (v:=vI 0) (H':=(ap [(mb,.lit [vS cb 0 M.cs.length M.cs.length,.slice A2 0 c3,vI (M.base+(M.lg.length:Int))] 119 (0,0)),(cb,.rows 1 M.cs.length (aM M.cs) 3 (0,0))] [T4])) ?_;refine⟨rfl,?_⟩;have h_:=MemH.mk (mb:=mb) (M:=⟨M.cs,[],M.base+(M.lg.length:Int)⟩) (k:=k) cb A2 c3 T4 Vv.sl0 hc (by simp;omega);exact h_
 ·refine ae 8 [] λ _=>aap [] [0,1,2] [] (v:=vI 0) (H':=(ap [(mb,.lit [vS cb 0 M.cs.length M.cs.length,vS b (o*2) (M.lg.length-M.lg.length) (cap-M.lg.length),vI (M.base+(M.lg.length:Int))] 119 (0,0)),(cb,.rows 1 M.cs.length (aM M.cs) 3 (0,0)),(b,.rows 2 (o+cap) (bu kQ full) 207 (0,0))] [])) ?_;refine⟨rfl,?_⟩;rw[Nat.sub_self];have h_:=MemH.mk (mb:=mb) (M:=⟨M.cs,[],M.base+(M.lg.length:Int)⟩) (k:=k) cb (some ⟨b,o*2,none⟩) (cap-M.lg.length) ([(b,.rows 2 (o+cap) (bu kQ full) 207 (0,0))]) (.inr ⟨b,o,full,rfl,by rw[show o+(cap-M.lg.length)=o+cap by omega];rfl,by omega,aaU _,rfl⟩) hc (by simp;omega);simpa [ap] using h_
theorem Jr(mb cb k b o cap:Nat)(M:MemS)(full:List (Int × Int))(F:HL)(hb:0 <= M.base /\ M.base <= 1000000000)(hc:M.cs.length <= 1000000)(hk:k <= 100000000)(hf:full.length=o+cap)(hn:M.lg.length<cap)(hl:M.lg.length <= 100000000):Sp Tryz.prog 110 #[vP mb 0,vI (M.base+(M.lg.length:Int))] [(mb,.lit [vS cb 0 M.cs.length M.cs.length,vS b (o*2) M.lg.length cap,vI M.base] 119 (0,0)),(cb,.rows 1 M.cs.length (aM M.cs) 3 (0,0)),(b,.rows 2 (o+cap) (bu kQ full) 207 (0,0))] F (λ u H'=>u=vI 0 /\ MemH mb ⟨M.cs,[],M.base+(M.lg.length:Int)⟩ k H'):=by
 refine aas Tryz.func110 rfl mn (A:=[(mb,.lit [vS cb 0 M.cs.length M.cs.length,vS b (o*2) M.lg.length cap,vI M.base] 119 (0,0)),(cb,.rows 1 M.cs.length (aM M.cs) 3 (0,0)),(b,.rows 2 (o+cap) (bu kQ full) 207 (0,0))]) (Ts:=[]) rfl λ w0=>?_;refine ae 10 [] λ _=>aah (ol mb cb M.cs.length (some ⟨b,o*2,none⟩) M.lg.length cap M.base _ (au 0) hb (by omega))<|ai 40 [.own 0,.nw,.own 0,.own 0] [bm ((M.base+(M.lg.length:Int))-M.base)] λ _=>aS 28 (congrArg (λ v_=>(vI v_:Value)) (show (M.base+(M.lg.length:Int))-M.base=(M.lg.length:Int) by omega))<|ai 18 [.sl M.lg.length M.lg.length false,.own 0,.own 0] [(M.lg.length:Int)=((M.lg.length:Nat):Int) /\ M.lg.length=M.lg.length /\ M.lg.length <= M.lg.length /\ M.lg.length <= cap /\ cap≠M.lg.length] λ _=>aal ((((M.lg.length-M.lg.length):Nat):Int)<(M.base+(M.lg.length:Int))-M.base) 38 (λ h1=>?_) λ h1=>?_
 ·refine ae 7 [.own 0] λ _=>aao<|jL (A:=none) (B:=(some ⟨b,(o*2+M.lg.length*2),none⟩)) (c':=(cap-M.lg.length)) AM ([]:List (Int × Int)) 0 (λ a_ e_=>by cases e_) (m:=(M.lg.length-M.lg.length)) (tx:=117) (by simp) (by simp) (λ e_ he X w hR=>Re (by simp) he) ?_;rintro A2 c3 T4 Vv;refine ae 10 [.own 0] λ _=>aap [] [0,1] [0] (v:=vI 0) (H':=(ap [(mb,.lit [vS cb 0 M.cs.length M.cs.length,.slice A2 0 c3,vI (M.base+(M.lg.length:Int))] 119 (0,0)),(cb,.rows 1 M.cs.length (aM M.cs) 3 (0,0))] [T4])) ?_;refine⟨rfl,?_⟩;have h_:=MemH.mk (mb:=mb) (M:=⟨M.cs,[],M.base+(M.lg.length:Int)⟩) (k:=k) cb A2 c3 T4 Vv.sl0 hc (by simp;omega);exact h_
 ·refine ae 8 [] λ _=>aap [] [0,1,2] [] (v:=vI 0) (H':=(ap [(mb,.lit [vS cb 0 M.cs.length M.cs.length,vS b (o*2+M.lg.length*2) (M.lg.length-M.lg.length) (cap-M.lg.length),vI (M.base+(M.lg.length:Int))] 119 (0,0)),(cb,.rows 1 M.cs.length (aM M.cs) 3 (0,0)),(b,.rows 2 (o+cap) (bu kQ full) 207 (0,0))] [])) ?_;refine⟨rfl,?_⟩;rw[Nat.sub_self];have h_:=MemH.mk (mb:=mb) (M:=⟨M.cs,[],M.base+(M.lg.length:Int)⟩) (k:=k) cb (some ⟨b,o*2+M.lg.length*2,none⟩) (cap-M.lg.length) ([(b,.rows 2 (o+cap) (bu kQ full) 207 (0,0))]) (.inr ⟨b,o+M.lg.length,full,by rw[Nat.add_mul];rfl,by rw[show o+M.lg.length+(cap-M.lg.length)=o+cap by omega];rfl,by omega,aaU _,rfl⟩) hc (by simp;omega);simpa [ap] using h_
theorem Js{mb:Nat}{M:MemS}{k k2:Nat}{T:HL}(F:HL)(h:MemH mb M k T)(hb:0 <= M.base /\ M.base <= 1000000000)(hk:k2 <= 100000000):Sp Tryz.prog 110 #[vP mb 0,vI (M.base+(M.lg.length:Int))] (ap [] [T]) F (λ u H'=>∃x,H'=ap [] [x] /\ (u=vI 0 /\ MemH mb ⟨M.cs,[],M.base+(M.lg.length:Int)⟩ k2 x)):=by
 rw[cN];cases h with
 | mk cb A cap Hl hs hc hl =>
  rcases hs with ⟨rfl,rfl,h1,rfl⟩|⟨b,o,full,rfl,rfl,h1,h2,h3⟩
  ·have e:M.lg.length=0:=by rw[h1];rfl
   rw[e];have key:=Jp mb cb k2 M F hb hc hk;exact key.tl
  ·rcases abd M.lg.length cap with h4|h4
   ·have key:=Jr mb cb k2 b o cap M full F hb hc hk h1 h4 (by omega);exact key.tl
   ·have key:=Jq mb cb k2 b o cap M full F hb hc hk h1 (by omega) (by omega);exact key.tl
theorem GameH.op{rs:List Bx}{ds:List Dr}{bp gb:Nat}{S:Setup}{M:MemS}{k:Nat}{G:HL}(h:GameH rs ds bp gb S M k G):∃mb T U,MemH mb M k T /\ sQ S rs ds U /\ G=ap [(gb,.lit (gl S bp mb) 115 (0,0))] [T,U]:=by
 cases h with
 | mk mb T U hM hU=>exact⟨mb,T,U,hM,hU,rfl⟩
theorem FN{rs:List Bx}{ds:List Dr}{S:Setup}{bp gb mb b o N c k:Nat}{j:Nat × Int}{full xs:List Inp}{M:MemS}{T U F:HL}(now:Int)(hM:MemH mb M (k+20000) T)(hU:sQ S rs ds U)(agW:M.get 0=now)(hj:j.1<5)(hA:AtOk F bp (M.get 0) j)(hE:dp F)(hI:(b,.rows 3 N (j9 full) 151 (0,0))∈F)(hir:o+xs.length <= N)(Tz:xs.length <= 1000000)(hx:∀k,k<xs.length -> full.getD (o+k) dI=xs.getD k dI)(hk:TkOk S j xs M \/ ¬ dL S.players xs.length xs now=0) :
  Sp Tryz.prog 19 #[vP gb 0,vS b (o*3) xs.length c] (ap [(gb,.lit (gl S bp mb) 115 (0,0))] [T,U]) F (λ u H'=>∃x:(Option Addr × Nat × Nat) × HL × HL,H'=ap [(gb,.lit (gl S bp mb) 115 (0,0))] [x.2.1,U,x.2.2] /\
   ((TkOk S j xs M /\ MemH mb (rm (eU S j xs) M) k x.2.1 /\ SlIs sy 53 (wP (eU S j xs) M) x.1.1 x.1.2.1 x.2.2 /\ u=.tuple #[.slice x.1.1 (wP (eU S j xs) M).length x.1.2.1,vI ((x.1.2.2+1:Nat):Int),vI 0]) \/
    (¬ dL S.players xs.length xs now=0 /\ MemH mb M k x.2.1 /\ u=.tuple #[.slice none 0 0,vI 0,vI (dL S.players xs.length xs now)]))):=by
 subst agW;have hl:RowL iE 151 F (some ⟨b,o*3,none⟩) xs.length xs:=.rows b o N full (0,0) _ xs hI hir rfl hx;rcases hk with hk|hk
 ·obtain⟨m,hm,hg⟩:=hk.ex;obtain⟨e1,e2⟩:=NI hm hg;refine(Jm S rs ds bp gb mb b o N xs.length c m k j full xs M T U F hj hA hU hE hI hir Tz (by omega) rfl hx (hM.weak (by omega)) hk.now hg hk.ok).mono λ u H' h=>?_;obtain⟨⟨T1,A,cc,E⟩,rfl,h1,h2,h3⟩:=h;dsimp only at h1 h2 h3;rw[e1] at h1;rw[e2] at h2 h3;exact⟨((A,cc,m),T1,E),rfl,.inl ⟨hk,h1,h2,h3⟩⟩
 ·refine(FJ _ S bp gb mb xs.length c (k+20000) (some ⟨b,o*3,none⟩) xs M T U F hl Tz hM rfl hk).mono λ u H' h=>?_;obtain⟨rfl,rfl⟩:=h;exact⟨((none,0,0),T,[]),by simp[ap],.inr ⟨hk,hM.weak (by omega),rfl⟩⟩
def SK(S:Setup)(J:Nat -> Nat × Int)(n:Nat)(xss:List (List Inp))(u:Value)(x:(Setup × Nat × Option Addr × Nat) × HL × HL):Prop :=
 SetEq S x.1.1 /\ (((∀i,i<n -> TkOk x.1.1 (J i) (xss.getD i []) (nA (rG x.1.1 J xss) ⟨bJ S S.nb,[],0⟩ i)) /\ x.2.1=[(x.1.2.1,.rows 1 (nA (rG x.1.1 J xss) ⟨bJ S S.nb,[],0⟩ n).cs.length (aM (nA (rG x.1.1 J xss) ⟨bJ S S.nb,[],0⟩ n).cs) 3 (0,0))] /\
   SlIs sy 53 (xf (rG x.1.1 J xss) ⟨bJ S S.nb,[],0⟩ n) x.1.2.2.1 x.1.2.2.2 x.2.2 /\ u=.tuple #[vS x.1.2.1 0 (nA (rG x.1.1 J xss) ⟨bJ S S.nb,[],0⟩ n).cs.length (nA (rG x.1.1 J xss) ⟨bJ S S.nb,[],0⟩ n).cs.length,.slice x.1.2.2.1 (xf (rG x.1.1 J xss) ⟨bJ S S.nb,[],0⟩ n).length x.1.2.2.2,vI 0]) \/
  (∃i,i<n /\ (∀k,k<i -> TkOk x.1.1 (J k) (xss.getD k []) (nA (rG x.1.1 J xss) ⟨bJ S S.nb,[],0⟩ k)) /\ ¬ dL x.1.1.players (xss.getD i []).length (xss.getD i []) ((nA (rG x.1.1 J xss) ⟨bJ S S.nb,[],0⟩ i).get 0)=0 /\
   u=.tuple #[.slice none 0 0,.slice none 0 0,vI (dL x.1.1.players (xss.getD i []).length (xss.getD i []) ((nA (rG x.1.1 J xss) ⟨bJ S S.nb,[],0⟩ i).get 0))]))
theorem Mf(S:Setup)(rs_:List Bx)(ds_:List Dr)(bp n cap:Nat)(J:Nat -> Nat × Int)(A:Option Addr)(rs:List Rw)(xss:List (List Inp))(F:HL)(hS:SetIn F S)(hM:MapIn F S rs_ ds_)(h1:1 <= S.nb)(VV:S.rn <= 1000000)(V0:S.dn <= 1000000)(C_:(sizeOf S).toNat <= 1000000)(hv:lK S rs_ ds_=0)(hE:dp F)(hr:RowL jz 56 F A n rs)(hw:RwsIn F rs xss)(hxl:∀k,k<n -> (xss.getD k []).length <= 1000000)(hn:n <= 50)(h9:n <= 900)(hP:∀S2,SetEq S S2 -> ∀i,i<n -> (∀k,k<i -> TkOk S2 (J k) (xss.getD k []) (nA (rG S2 J xss) ⟨bJ S S.nb,[],0⟩ k)) -> (TkOk S2 (J i) (xss.getD i []) (nA (rG S2 J xss) ⟨bJ S S.nb,[],0⟩ i) \/ ¬ dL S2.players (xss.getD i []).length (xss.getD i []) ((nA (rG S2 J xss) ⟨bJ S S.nb,[],0⟩ i).get 0)=0) /\ (J i).1<5 /\ AtOk F bp ((nA (rG S2 J xss) ⟨bJ S S.nb,[],0⟩ i).get 0) (J i)):Sp Tryz.prog 66 #[Setup.v S,vP bp 0,.slice A n cap] (ap [] []) F (λ u H'=>∃x:(Setup × Nat × Option Addr × Nat) × HL × HL,H'=ap [] [x.2.1,x.2.2] /\ SK S J n xss u x):=by
 refine aas Tryz.func66 rfl mn (A:=[]) (Ts:=[]) rfl λ w0=>?_;refine ae 12 (ow 0 16) λ n1=>aai (Hp:=[]) (Tp:=[]) [] [] (H9 S rs_ ds_ bp _ hS.up.cl hM.up h1 VV V0 C_ hv 99020000 (by decide)) ?_;rintro _ ⟨g2,S3,T4⟩ ⟨rfl,he5,hG6⟩;dsimp only at he5 hG6;obtain⟨mb,Tm,U,hMm,hU,eG⟩:=hG6.op;refine N6 0 [(g2,.lit (gl S3 bp mb) 115 (0,0))] [Tm,U] eG<|ae 31 [] λ _=>aao<|aan (σ:=Nat × Option Addr × Nat × MemS × HL × HL) (λ ⟨i_,A_,c_,N_,T_,E_⟩=>⟨[(9,vP g2 0),(11,.slice A_ ((xf (rG S3 J xss) ⟨bJ S S.nb,[],0⟩ i_).length) c_),(26,.slice A n cap),(27,vI (n:Int)),(28,vI (i_:Int))],[(g2,.lit (gl S3 bp mb) 115 (0,0)),((n1+0),.lit (Setup.l S) 31 (0,0))],[T_,E_,U],i_ <= n /\ N_.cs=(nA (rG S3 J xss) ⟨bJ S S.nb,[],0⟩ i_).cs /\ MemH mb N_ 99020000 T_ /\ (0 <= N_.base /\ N_.base <= 1000000*(i_:Int)) /\ SlIs sy 53 (xf (rG S3 J xss) ⟨bJ S S.nb,[],0⟩ i_) A_ c_ E_ /\ (∀k,k<i_ -> TkOk S3 (J k) (xss.getD k []) (nA (rG S3 J xss) ⟨bJ S S.nb,[],0⟩ k)),n-i_⟩) (0,none,0,⟨bJ S S.nb,[],0⟩,Tm,[]) [0,1] [1,0,2] (⟨aaU _,rfl,hMm,⟨Int.le_refl 0,by show (0:Int) <= _;omega⟩,aar _ _,λ k hk=>absurd hk (Nat.not_lt_zero _)⟩) ?_;rintro⟨i_,A_,c_,N_,T_,E_⟩ ⟨Yu,UL,YD,akG,IF,Yn⟩ XH;refine ae 6 [] λ _=>aal ((i_:Int)<(n:Int)) 29 (λ h9=>?_) λ h9=>?_
 ·refine ae 7 [] λ _=>?_;obtain⟨al2,X6,aju,aow,ak4,ZL,adi,akf,adI⟩:=hr.at (k:=i_) (by omega);refine aS 26 (congrArg (λ v_=>(.slice v_ n cap:Value)) ZL)<|RN.ro (λ _=>(mc adi mn))<|ai 2 [.ix i_,.rorow 0 (X6+i_) 0] [(X6*1+i_*1)=(X6+i_)*1+0 /\ (X6+i_)<aju,(i_:Int)=((i_:Nat):Int) /\ i_<n] λ _=>aS 31 (congrArg (λ v_=>(.slice v_.A v_.n v_.c:Value)) adI) ?_;obtain⟨aoK,ama,aoU,aoy,aiK,aiw,aei,adC,acM,akD⟩:=hw.get (k:=i_) (by rw[hr.len];omega);refine aS 31 (congrArg (λ v_:Rw=>Value.slice v_.A v_.n v_.c) aiw)<|ae 7 [] λ _=>?_;have abg:=hP S3 he5 i_ (by omega) Yn;refine aai [0] [0,2] (FN (gb:=g2) (mb:=mb) (c:=aiK) (k:=99000000) (rs:=rs_) (ds:=ds_) (S:=S3) ((nA (rG S3 J xss) ⟨bJ S S.nb,[],0⟩ i_).get 0) (YD.weak (by decide)) hU (xg UL 0) abg.2.1 ((show AtOk F bp (N_.get 0) (J i_) by rw[xg UL];exact abg.2.2).mono λ x hx=>aq hx) (aq hE) (aq aei) adC (by have:=hxl i_ (by omega);omega) acM (abg.1.imp (λ h_=>h_.cs UL.symm) id)) ?_;rintro _ ⟨⟨A12,c13,n14⟩,TM,E16⟩ (⟨Yt,S9,ac4,rfl⟩|⟨Yt,S9,rfl⟩)
  ·dsimp only at S9 ac4;refine ae 23 [] λ _=>RN.appU (c':=c13) (tx:=57) AZ (xf (rG S3 J xss) ⟨bJ S S.nb,[],0⟩ i_) (wP (eU S3 (J i_) (xss.getD i_ [])) N_) 3 rfl IF (by have ZM:=DB (rG S3 J xss) ⟨bJ S S.nb,[],0⟩ i_;have Tu:=DA (eU S3 (J i_) (xss.getD i_ [])) N_;omega) (ac4.src AZ (by decide) (ay 2)) ?_;rintro A20 c21 UX ⟨U6,Z4⟩;refine ae 3 [] λ _=>aak [9] []<|ag [] [0,4,1,5,2,6,3,7] (aab 2) ?_;have adX:0 <= (rm (eU S3 (J i_) (xss.getD i_ [])) N_).base /\ (rm (eU S3 (J i_) (xss.getD i_ [])) N_).base <= 1000000000:=by rw[zP];omega
   refine aac [] 8 (λ X_=>(Po S9 (aQ 1) adX))<|aae 9 (aaf [] [] [1] (Js (k2:=99020000) _ S9 adX (by decide)) ?_);rintro _ ZQ ⟨rfl,Wj⟩;refine aad<|ai 6 [.nw] [bm ((i_:Int)+1)] λ _=>aS 26 (congrArg (λ v_=>(.slice v_ n cap:Value)) ZL.symm)<|aS 11 (congrArg (λ v_=>(.slice A20 v_ c21:Value)) (show (xf (rG S3 J xss) ⟨bJ S S.nb,[],0⟩ i_).length+(wP (eU S3 (J i_) (xss.getD i_ [])) N_).length=(xf (rG S3 J xss) ⟨bJ S S.nb,[],0⟩ (i_+1)).length by rw[xf,aaV,HS _ UL])) ?_;refine XH (i_+1,A20,c21,⟨(rm (eU S3 (J i_) (xss.getD i_ [])) N_).cs,[],(rm (eU S3 (J i_) (xss.getD i_ [])) N_).base+((rm (eU S3 (J i_) (xss.getD i_ [])) N_).lg.length:Int)⟩,ZQ,UX) [0,1] [0,1,2] ?_
   try dsimp only
   have ahl:=S9.len2;refine⟨⟨by omega,?_,Wj,⟨?_,?_⟩,?_,?_⟩,by omega⟩
   ·show (rm (eU S3 (J i_) (xss.getD i_ [])) N_).cs=_;rw[nA];exact OG _ UL
   ·show 0 <= (rm (eU S3 (J i_) (xss.getD i_ [])) N_).base+_;omega
   ·show (rm (eU S3 (J i_) (xss.getD i_ [])) N_).base+_ <= _;have anK:=zP (eU S3 (J i_) (xss.getD i_ [])) N_;omega
   ·rw[xf,<- HS _ UL];exact U6
   ·intro k_ hk_;rcases abd k_ i_ with h_|h_
    ·exact Yn k_ h_
    ·obtain rfl:k_=i_:=by omega
     exact Yt.cs UL
  ·dsimp only at S9;refine ae 16 [] λ _=>cD 40 (nf (abz Yt))<|ae 9 [] λ _=>aap [] [] [] (v:=.tuple #[.slice none 0 0,.slice none 0 0,vI (dL S3.players (xss.getD i_ []).length (xss.getD i_ []) ((nA (rG S3 J xss) ⟨bJ S S.nb,[],0⟩ i_).get 0))]) (H':=(ap [] [])) ?_;exact⟨((S3,0,none,0),[],[]),by simp[ap],he5,.inr ⟨i_,by omega,Yn,Yt,rfl⟩⟩
 ·refine ae 12 [.own 0] λ _=>aai (Hp:=[]) (Tp:=[]) [] [] (mA mb N_ 99020000 T_ _ YD (ay 0)) ?_;rintro _ q27 rfl;refine ae 6 [] λ _=>aap [] [0] [1] (v:=.tuple #[vS q27 0 N_.cs.length N_.cs.length,.slice A_ ((xf (rG S3 J xss) ⟨bJ S S.nb,[],0⟩ i_).length) c_,vI 0]) (H':=(ap [(q27,.rows 1 N_.cs.length (aM N_.cs) 3 (0,0))] [E_])) ?_;obtain rfl:i_=n:=by omega
  refine⟨((S3,q27,A_,c_),[(q27,.rows 1 N_.cs.length (aM N_.cs) 3 (0,0))],E_),by simp[ap],he5,.inl ⟨Yn,?_,IF,?_⟩⟩
  ·rw[<- UL]
  ·rw[<- UL]
theorem Jt{n:Int}(h:rp n):0 <= sC n /\ sC n<1000:=eC h 1000 (by decide)
theorem xh{n m:Int}(h0:0 <= n)(h1:n<m):aB n m=n:=by
 unfold aB;rw[if_neg (by omega)];exact Int.tmod_eq_of_lt h0 h1
theorem B0{n:Int}(h:rp n):cU (sC n)=cU n:=by
 have hb:=Jt h;have e:sC (sC n)=sC n:=xh hb.1 hb.2;unfold cU pW;rw[e]
theorem FO:∀k:Fin 1000,lJ ⟨(cU ((k.1:Nat):Int)).1,(cU ((k.1:Nat):Int)).2,none,0⟩:=by decide +kernel
theorem Ju{n:Int}(h:rp n)(A:Option Addr)(c:Nat):lJ ⟨(cU n).1,(cU n).2,A,c⟩:=by
 have hb:=Jt h;have:=FO ⟨(sC n).toNat,by omega⟩;simp only at this;rw[Int.toNat_of_nonneg hb.1,B0 h] at this;exact this
theorem Pp(i:Nat):0 <= ([1024,1024,512,2048,0]:List Int).getD i 0 /\ ([1024,1024,512,2048,0]:List Int).getD i 0 <= 4096:=by
 rcases i with _|_|_|_|_|i
 all_goals first|decide|simp
section
variable {xs:List Int} {F:HL} {A:Option Addr} {n:Nat} {S:Setup} {T:HL}
theorem Mg(hl:ArgL F A n xs)(k:Nat)(B:Option Addr)(c:Nat):f8 (uX xs k B c) ⟨-12000,-9000,12000,9000⟩:=by
 have h1:=iz hl (4+2*k);have h2:=iz hl (5+2*k);have h3:=Pp ((bM xs k / 5000) % 5).toNat
 simp only[f8,uX,kf,l8,and_true];rw[show kv xs (4+2*k)=bN xs k from rfl] at h1;rw[show kv xs (5+2*k)=bM xs k from rfl] at h2;refine⟨h3,⟨⟨?_,?_⟩,?_,?_⟩,⟨?_,?_⟩,⟨?_,?_⟩,⟨?_,?_⟩,?_,?_⟩ <;> omega
theorem Jv(i:Nat):(ke i:Int) <= 16 /\ ∀k,k<ke i -> sO 3 ((mZ i).getD k nS.dflt):=by
 rcases i with _|_|i
 ·exact⟨by decide,λ k hk=>absurd hk (Nat.not_lt_zero _)⟩
 ·exact⟨by decide,by decide⟩
 ·exact⟨by show ((2:Nat):Int) <= 16;decide,by show ∀k,k<2 -> sO 3 (([⟨0,2⟩,⟨1,2⟩]:List Dr).getD k nS.dflt);decide⟩
theorem FP(hl:ArgL F A n xs)(h:SetG xs S T):lK S yJ (mZ (kv xs 3 % 3).toNat)=0:=by
 have h1:=o7 hl;have h2:=sF hl;have hn:=h.nb;have k0:=iz hl 0;have k1:=iz hl 1;have k2:=iz hl 2;obtain⟨e1,e2,e3,e4,e5,e6,e7,e8⟩:=h.nums;obtain⟨⟨m1,m2⟩,-⟩:=h.maps;have hd:=Jv (kv xs 3 % 3).toNat
 unfold lK;rw[if_pos,if_pos,if_pos]
 ·intro k hk;obtain⟨B,c,hb⟩:=h.bod k hk;rw[hb,e1];exact Mg hl k B c
 ·refine⟨?_,?_,⟨?_,?_⟩,?_,?_⟩
  ·have iS:=h.pl;simp only[kg,kf,l8,and_true,e2,e3,e4,e5,e6,e7,e8,iS];refine⟨⟨?_,?_⟩,⟨?_,?_⟩,⟨?_,?_⟩,⟨⟨?_,?_⟩,?_,?_⟩,⟨?_,?_⟩,⟨⟨?_,?_⟩,?_,?_⟩,⟨?_,?_⟩,?_,?_⟩ <;> omega
  ·rw[e1];decide
  ·rw[m1];decide
  ·rw[m2];exact hd.1
  ·rw[m1];decide
  ·rw[m1,m2];exact hd.2
 ·intro k hk;obtain⟨B,c,hb⟩:=h.bod k hk;rw[hb];have:=iz hl (4+2*k);exact Ju ⟨by show _ <= kv xs (4+2*k);omega,by show kv xs (4+2*k) <= _;omega⟩ B c
end
theorem Sp.den{P:Program}{f:FuncId}{args:Array Value}{H F F':HL}{R:Value -> HL -> Prop}(h:Sp P f args H F R)(e:i2 F=i2 F'):Sp P f args H F' R:=by
 have e2:∀X:HL,i2 (X++F)=i2 (X++F'):=λ X=>by simp only[i2,List.map_append] at e ⊢;rw[e]
 intro w hR;refine(h w (hR.den (e2 H).symm)).mono ?_;rintro e' w' ⟨v,H',h1,h2,h3,h4⟩;exact⟨v,H',h1,h2,h3.den (e2 H'),h4⟩
def ArgD(F:HL)(A:Option Addr)(n:Nat)(xs:List Int):Prop:=∃F',i2 F'=i2 F /\ ArgL F' A n xs
theorem ArgL.d{F F':HL}{A:Option Addr}{n:Nat}{xs:List Int}(h:ArgL F A n xs)(e:i2 F=i2 F'):ArgD F' A n xs:=⟨F,e,h⟩
theorem ArgD.up{F X:HL}{A:Option Addr}{n:Nat}{xs:List Int}(h:ArgD F A n xs):ArgD (X++F) A n xs:=by
 obtain⟨F',e,h⟩:=h;exact⟨X++F',by simp only[i2,List.map_append] at e ⊢;rw[e],h.up⟩
theorem ArgD.ex{F:HL}{A:Option Addr}{n:Nat}{xs:List Int}(h:ArgD F A n xs):∃F',ArgL F' A n xs:=by
 obtain⟨F',e,h⟩:=h;exact⟨F',h⟩
theorem ArgD.use{F:HL}{A:Option Addr}{n:Nat}{xs:List Int}(h:ArgD F A n xs){P:Program}{f:FuncId}{args:Array Value}{H:HL}{R:Value -> HL -> Prop}(k:∀F',ArgL F' A n xs -> Sp P f args H F' R):Sp P f args H F R:=by
 obtain⟨F',e,h⟩:=h;exact(k F' h).den e
noncomputable section
end
structure GF(xs:List Int)(S:Setup):Prop where
 pl:1 <= S.players /\ S.players <= 3
 nb:1 <= S.nb /\ S.nb <= 5
 rn:S.rn=3
 dn:S.dn <= 2
 sz:48 <= sizeOf S /\ sizeOf S <= 100
 val:lK S yJ (mZ (kv xs 3 % 3).toNat)=0
theorem Jw{F:HL}{A:Option Addr}{n:Nat}{xs:List Int}(hl:ArgD F A n xs){S:Setup}{T:HL}(h:SetG xs S T):GF xs S:=by
 obtain⟨F',hl⟩:=hl.ex;have h1:=o7 hl;have h2:=sF hl;have hn:=h.nb;have hp:=h.pl;obtain⟨⟨m1,m2⟩,-⟩:=h.maps;have hd:ke (kv xs 3 % 3).toNat <= 2:=by
  generalize (kv xs 3 % 3).toNat=i;rcases i with _|_|i
  ·exact aaU _
  ·exact aaN rfl
  ·exact aaS 2
 exact⟨by omega,by omega,m1,by omega,by unfold sizeOf;omega,FP hl h⟩
structure SetV(S:Setup):Prop where
 pl:1 <= S.players /\ S.players <= 3
 nb:1 <= S.nb /\ S.nb <= 5
 ro:1 <= S.rounds /\ S.rounds <= 3
 fu:0 <= S.fuel /\ S.fuel <= 60
theorem aK(M:MemS)(i v:Int):(M.set i v).cs.length=M.cs.length:=by
 unfold MemS.set;split <;> simp
theorem bj{M:MemS}{i v j:Int}(h:j≠i):(M.set i v).get j=M.get j:=by
 unfold MemS.set;split
 ·next hi =>
  unfold MemS.get;simp only[List.length_set];split
  ·next hj =>
   rw[aaK,aaK,List.getElem?_set_ne (by omega)]
  ·rfl
 ·rfl
theorem jN{M:MemS}{i v:Int}(h:0 <= i /\ i<M.cs.length):(M.set i v).get i=v:=by
 unfold MemS.set;rw[if_pos h];unfold MemS.get;simp only[List.length_set];rw[if_pos h,aaK,List.getElem?_set_self (by omega)];rfl
theorem bW{M:MemS}{i v:Int}(h:48 <= M.cs.length)(h0:0 <= i)(h1:i<48)(j:Int):(M.set i v).get j=if j=i then v else M.get j:=by
 by_cases e:j=i
 ·rw[if_pos e,e,jN (by omega)]
 ·rw[if_neg e,bj e]
theorem lh{S:Setup}(hp:0 <= S.players)(k:Int):af S k=-1 \/ (0 <= k /\ k<S.nb /\ af S k=48+4*S.players+8*k):=by
 unfold af;split
 ·exact .inl rfl
 ·split
  ·exact .inl rfl
  ·exact .inr ⟨by omega,by omega,rfl⟩
theorem qm{S:Setup}(k:Int):(ah S k=-1 /\ (k<0 \/ S.players <= k)) \/ (0 <= k /\ k<S.players /\ ah S k=48+4*k):=by
 unfold ah;split
 ·exact .inl ⟨rfl,by omega⟩
 ·split
  ·exact .inl ⟨rfl,by omega⟩
  ·exact .inr ⟨by omega,by omega,rfl⟩
structure Hi(P:Int)(M M':MemS):Prop where
 len:M'.cs.length=M.cs.length
 get:∀j,j<48+4*P -> M'.get j=M.get j
theorem Hi.refl{P:Int}{M:MemS}:Hi P M M:=⟨rfl,λ _ _=>rfl⟩
theorem Hi.set{P:Int}{A M:MemS}(h:Hi P A M){k:Int}(hk:48+4*P <= k)(v:Int):Hi P A (M.set k v):=⟨(aK _ _ _).trans h.len,λ j hj=>(bj (by omega)).trans (h.get j hj)⟩
theorem Hi.setB{S:Setup}(hp:0 <= S.players){A M:MemS}(h:Hi S.players A M){k c:Int}(hb:af S k >= 0)(hc:0 <= c)(v:Int):Hi S.players A (M.set (af S k+c) v):=by
 rcases lh hp k with e|⟨h0,h1,e⟩
 ·omega
 ·exact h.set (by omega) v
structure Kp(P:Int)(M M':MemS):Prop where
 len:M'.cs.length=M.cs.length
 get:∀j,j <= 5 \/ (48 <= j /\ j<48+4*P) -> M'.get j=M.get j
theorem Kp.refl{P:Int}{M:MemS}:Kp P M M:=⟨rfl,λ _ _=>rfl⟩
theorem Kp.set{P:Int}{A M:MemS}(h:Kp P A M){k:Int}(hk:5<k /\ (k<48 \/ 48+4*P <= k))(v:Int):Kp P A (M.set k v):=⟨(aK _ _ _).trans h.len,λ j hj=>(bj (by omega)).trans (h.get j hj)⟩
theorem Kp.trans{P:Int}{A B C:MemS}(h:Kp P A B)(h':Kp P B C):Kp P A C:=⟨h'.len.trans h.len,λ j hj=>(h'.get j hj).trans (h.get j hj)⟩
structure Ef(M:MemS)(r:VR):Prop where
 yes:r.em=true -> r.e.t=M.get 0 /\ r.e.i=M.get 11 /\ M.get 11<40 /\ r.M.get 11=M.get 11+1
 no:r.em=false -> r.M.get 11=M.get 11
theorem Rf{op:Int}(h:1 <= op /\ op <= 21):(0 <= eP op /\ eP op <= 2) /\ (0 <= eQ op /\ eQ op <= 1):=by
 obtain⟨n,rfl⟩:=Int.eq_ofNat_of_zero_le (show 0 <= op by omega);have hn:n<22:=by omega
 have key:∀n:Fin 22,(0 <= (oQ.getD n.1 (0,0,0)).1 /\ (oQ.getD n.1 (0,0,0)).1 <= 2) /\ (0 <= (oQ.getD n.1 (0,0,0)).2.1 /\ (oQ.getD n.1 (0,0,0)).2.1 <= 1):=by decide
 exact key ⟨n,hn⟩
theorem zQ{op n sp:Int}(h:fw op n sp=true):(1 <= op /\ op <= 21) /\ sp <= 16 /\ eP op <= sp /\ ¬ aV (aV (sp-eP op)+eQ op)>16 /\ (eN op=0 \/ (0 <= n /\ n<eN op)):=by
 unfold fw at h;split at h
 ·cases h
 split at h
 ·cases h
 split at h
 ·cases h
 split at h
 ·cases h
 split at h
 ·cases h
 refine⟨by omega,by omega,by omega,by assumption,?_⟩;split at h
 ·left;assumption
 ·split at h
  ·right;exact⟨by omega,abq h⟩
  ·cases h
theorem Mh{M:MemS}{P k v:Int}(hl:48 <= M.cs.length)(h0:0 <= M.get 11 /\ M.get 11 <= 40):Kp P M (cG k v M).M /\ (cG k v M).M.get 8=M.get 8 /\ Ef M (cG k v M):=by
 unfold cG;split
 ·exact⟨.refl,rfl,⟨λ h=>by simp at h,λ _=>rfl⟩⟩
 ·refine⟨((Kp.refl).set (by omega) _).set (by omega) _,?_,⟨λ _=>⟨rfl,rfl,by omega,?_⟩,λ h=>by simp at h⟩⟩
  ·simp only;rw[bj (by decide),bj (by decide)]
  ·simp only;rw[jN (by rw[aK];omega),bU (by omega)]
def Gd(P:Int)(M:MemS)(r:VR):Prop:=Kp P M r.M /\ r.M.get 8=M.get 8 /\ Ef M r
theorem Gd.ite{P:Int}{M:MemS}{c:Prop}[Decidable c]{x y:VR}(hx:c -> Gd P M x)(hy:¬ c -> Gd P M y):Gd P M (if c then x else y):=by
 split
 ·exact hx (by assumption)
 ·exact hy (by assumption)
theorem Gd.base{P:Int}{M:MemS}{v:Int}:Gd P M ⟨M,v,bz,false⟩:=⟨.refl,rfl,⟨λ h=>by simp at h,λ _=>rfl⟩⟩
theorem Gd.st{P:Int}{M:MemS}{k v u:Int}(hk:(5<k /\ k≠8 /\ k≠11) /\ (k<48 \/ 48+4*P <= k)):Gd P M ⟨M.set k v,u,bz,false⟩ :=
 ⟨(Kp.refl).set (by omega) _,bj (by omega),⟨λ h=>by simp at h,λ _=>bj (by omega)⟩⟩
theorem Gd.mite{P:Int}{M X Y:MemS}{c:Prop}[Decidable c]{u:Int}(hx:c -> Gd P M ⟨X,u,bz,false⟩)(hy:¬ c -> Gd P M ⟨Y,u,bz,false⟩):Gd P M ⟨if c then X else Y,u,bz,false⟩:=by
 split
 ·exact hx (by assumption)
 ·exact hy (by assumption)
theorem Mi{S:Setup}(hS:SetV S){M:MemS}{op n a b:Int}(hl:48 <= M.cs.length)(h0:0 <= M.get 11 /\ M.get 11 <= 40)(hn:eN op=0 \/ (0 <= n /\ n<eN op)):Gd S.players M (aD S op n a b M):=by
 have iS:=hS.pl;have W_:=hS.nb;unfold aD
 iterate 14 (refine Gd.ite (λ _=>.base) λ _=>?_)
 refine Gd.ite (λ e=>?_) λ _=>?_
 ·subst e;have TX:0 <= n /\ n<16:=by
   rcases hn with h|h
   ·exact absurd h (by decide)
   ·exact h
  rw[bU (by omega)];exact .st (by omega)
 refine Gd.ite (λ _=>.base) λ _=>?_;refine Gd.ite (λ e=>?_) λ _=>?_
 ·subst e;have h8:0 <= n /\ n<8:=by
   rcases hn with h|h
   ·exact absurd h (by decide)
   ·exact h
  refine Gd.mite (λ hb=>?_) λ _=>.base;rcases lh (S:=S) (by omega) a with e|⟨b0,b1,e⟩
  ·omega
  ·rw[bU (by omega)];exact .st (by omega)
 refine Gd.ite (λ _=>.st (by omega)) λ _=>?_;refine Gd.ite (λ _=>.mite (λ _=>.st (by omega)) λ _=>.base) λ _=>?_;refine Gd.ite (λ _=>?_) λ _=>.base;obtain⟨q1,q2,q3⟩:=Mh (P:=S.players) (k:=a) (v:=b) hl h0;exact⟨q1,q2,⟨q3.yes,q3.no⟩⟩
theorem Mj{P:Int}{M:MemS}{op sp pc fuel:Int}(hl:48 <= M.cs.length):Kp P M (dD op sp pc fuel M) /\ (dD op sp pc fuel M).get 8=aV (fuel-1) /\ (dD op sp pc fuel M).get 11=M.get 11:=by
 unfold dD;split
 ·exact⟨((Kp.refl).set (by omega) _).set (by omega) _,by rw[bj (by decide),jN (by omega)],by rw[bj (by decide),bj (by decide)]⟩
 ·exact⟨(((Kp.refl).set (by omega) _).set (by omega) _).set (by omega) _,by rw[bj (by decide),bj (by decide),jN (by omega)],by rw[bj (by decide),bj (by decide),bj (by decide)]⟩
theorem zR{S:Setup}(hS:SetV S){M:MemS}{code:List Ins}{n:Nat}(hl:48 <= M.cs.length)(h0:0 <= M.get 11 /\ M.get 11 <= 40)(hf:0 <= M.get 8 /\ M.get 8 <= 60) :
  Kp S.players M (ak S code n M).M /\ Ef M (ak S code n M) /\ ((cY code n M /\ (ak S code n M).M.get 8=M.get 8-1 /\ 1 <= M.get 8) \/ (¬ cY code n M /\ bn code n M=true /\ (ak S code n M).M.get 8=M.get 8)):=by
 unfold ak
 by_cases hr:cY code n M
 ·rw[if_pos hr];obtain⟨r1,r2,r3,r4⟩:=hr;obtain⟨x1,x2,x3,x4,x5⟩:=zQ r4;have hp:=Mj (P:=S.players) (op:=(aU code M).op) (sp:=M.get 7) (pc:=M.get 6) (fuel:=M.get 8) hl;generalize hM1:dD (aU code M).op (M.get 7) (M.get 6) (M.get 8) M=M1 at *;obtain⟨p1,p2,p3⟩:=hp;rw[bU (by omega)] at p2;have he:=Mi hS (M:=M1) (op:=(aU code M).op) (n:=(aU code M).n) (a:=dC (aU code M).op (M.get 7) M) (b:=dQ (aU code M).op (M.get 7) M) (by rw[p1.len];exact hl) (by rw[p3];exact h0) x5;unfold bP;rw[hM1];generalize aD S (aU code M).op (aU code M).n (dC (aU code M).op (M.get 7) M) (dQ (aU code M).op (M.get 7) M) M1=r at *;obtain⟨g1,g2,g3⟩:=he;have hE:Ef M r:=⟨λ h=>by
   obtain⟨a1,a2,a3,a4⟩:=g3.yes h;rw[p1.get 0 (by omega)] at a1;rw[p3] at a2 a3 a4;exact⟨a1,a2,a3,a4⟩,λ h=>by rw[g3.no h,p3]⟩
  have hb:=Rf x1;unfold cr;split
  ·have hq:aV (aV (16+M.get 7)-eP (aU code M).op)=16+M.get 7-eP (aU code M).op:=by rw[bU (x:=16+M.get 7) (by omega),bU (by omega)]
   rw[bU (x:=M.get 7-eP (aU code M).op) (by omega),bU (by omega)] at x4;rw[hq];refine⟨(p1.trans g1).set (by omega) _,⟨λ h=>?_,λ h=>?_⟩,.inl ⟨⟨r1,r2,r3,r4⟩,?_,by omega⟩⟩
   ·obtain⟨a1,a2,a3,a4⟩:=hE.yes h;exact⟨a1,a2,a3,(bj (by omega)).trans a4⟩
   ·exact(bj (by omega)).trans (hE.no h)
   ·simp only;rw[bj (by omega),g2,p2]
  ·exact⟨p1.trans g1,hE,.inl ⟨⟨r1,r2,r3,r4⟩,by rw[g2,p2],by omega⟩⟩
 ·rw[if_neg hr];exact⟨.refl,⟨λ h=>by simp at h,λ _=>rfl⟩,.inr ⟨hr,by unfold bn;rw[if_neg hr],rfl⟩⟩
def l6(n i j fu:Int):Int:=(if j=0 then (n-i)*62 else (n-i-1)*62+fu+1)+1+n
def l5(n i j:Int):Int:=n*(n+1)-(i*(n+1)+j)+l6 n 0 0 0
def NJ(n i:Int):Int:=if i=0 then 0 else if i=1 then n-1 else if i=2 then 2*n-3 else 3*n-6
def Pq(n:Int):Int:=if n=2 then 1 else if n=3 then 3 else if n=4 then 6 else if n=5 then 10 else 0
def l4(n R i j r:Int):Int:=(if n<2 then 0 else (R-r)*Pq n-(NJ n i+(j-i-1)))+1+l5 n 0 0
def l3(n R i:Int):Int:=n-i+l4 n R 0 1 0
def l2(n R j fu:Int):Int:=(if j=0 then 62 else fu+1)+l3 n R 0
def l1(P n R i j fu:Int):Int:=(if j=0 then (P-i)*62 else (P-i-1)*62+fu+1)+1+l2 n R 0 0
def l0(P n R i:Int):Int:=P-i+l1 P n R 0 0 0
def Gr(P n R p i j r fu:Int):Int:=if p=0 then l0 P n R i else if p=1 then l1 P n R i j fu else if p=2 then l2 n R j fu else if p=3 then l3 n R i else if p=4 then l4 n R i j r else if p=5 then l5 n i j else if p=6 then l6 n i j fu else n-i
def P0(P n R p i j r fu:Int):Prop :=
 (p=0 /\ 0 <= i /\ i<P) \/ (p=1 /\ 0 <= i /\ i <= P /\ (j=0 \/ (j=1 /\ i<P /\ 0 <= fu /\ fu <= 60))) \/ (p=2 /\ (j=0 \/ (j=1 /\ 0 <= fu /\ fu <= 60))) \/ (p=3 /\ 0 <= i /\ i<n) \/
 (p=4 /\ 0 <= r /\ r <= R /\ (2 <= n -> 0 <= i /\ i<j /\ j<n /\ (r=R -> i=0 /\ j=1))) \/ (p=5 /\ 0 <= i /\ i<n /\ 0 <= j /\ j <= n) \/ (p=6 /\ 0 <= i /\ i <= n /\ (j=0 \/ (j=1 /\ i<n /\ 0 <= fu /\ fu <= 60))) \/ (p=7 /\ 0 <= i /\ i<n)
theorem Jy{n i j:Int}(hn:1 <= n /\ n <= 5)(hi:0 <= i /\ i<n)(hj:0 <= j /\ j <= n):0<l5 n i j:=by
 unfold l5 l6;obtain h|h|h|h|h:n=1 \/ n=2 \/ n=3 \/ n=4 \/ n=5:=by omega
 all_goals subst h;simp;omega
theorem xi{P n R p i j r fu:Int}(hP:1 <= P /\ P <= 3)(hn:1 <= n /\ n <= 5)(hR:1 <= R /\ R <= 3)(h:P0 P n R p i j r fu):0<Gr P n R p i j r fu:=by
 have h5:=Jy hn (i:=0) (j:=0) (by omega) (by omega);have h4:∀i j r,0 <= r -> r <= R -> (2 <= n -> 0 <= i /\ i<j /\ j<n) -> -9 <= (if n<2 then 0 else (R-r)*Pq n-(NJ n i+(j-i-1))) -> 0<l4 n R i j r+9:=λ i j r _ _ _ h=>by unfold l4;omega
 have k4:0<l4 n R 0 1 0:=by
  unfold l4 Pq NJ;obtain h|h|h|h|h:n=1 \/ n=2 \/ n=3 \/ n=4 \/ n=5:=by omega
  all_goals subst h;simp;omega
 have k3:0<l3 n R 0:=by unfold l3;omega
 have k2:∀j fu,(j=0 \/ (j=1 /\ 0 <= fu /\ fu <= 60)) -> 0<l2 n R j fu:=λ j fu h=>by unfold l2;split <;> omega
 have k20:=k2 0 0 (.inl rfl);have k1:∀i j fu,0 <= i -> i <= P -> (j=0 \/ (j=1 /\ i<P /\ 0 <= fu /\ fu <= 60)) -> 0<l1 P n R i j fu:=λ i j fu _ _ h=>by unfold l1;split <;> omega
 have k10:=k1 0 0 0 (by omega) (by omega) (.inl rfl);rcases h with h|h|h|h|h|h|h|h <;> obtain⟨rfl,h⟩:=h
 ·show 0<l0 P n R i;unfold l0;omega
 ·exact k1 i j fu h.1 h.2.1 h.2.2
 ·exact k2 j fu h
 ·show 0<l3 n R i;unfold l3;omega
 ·show 0<l4 n R i j r;unfold l4;split
  ·omega
  ·obtain⟨h1,h2,h3⟩:=h;obtain⟨h3,h4',h5',-⟩:=h3 (by omega);have:100<l5 n 0 0:=by
    unfold l5 l6;obtain h|h|h|h|h:n=1 \/ n=2 \/ n=3 \/ n=4 \/ n=5:=by omega
    all_goals first|omega|(subst h;simp)
   have h6:NJ n i <= 9:=by unfold NJ;(repeat' split) <;> omega
   have h7:0 <= (R-r)*Pq n:=Int.mul_nonneg (by omega) (by unfold Pq;(repeat' split) <;> omega);omega
 ·exact Jy hn ⟨h.1,h.2.1⟩ h.2.2
 ·show 0<l6 n i j fu;unfold l6;split <;> omega
 ·show 0<n-i;omega
abbrev B4(M:MemS):Prop:=M.get 1=0 /\ M.get 2=0
structure TV(S:Setup)(ins:Nat -> Inp)(M:MemS):Prop where
 len:(M.cs.length:Int)=sizeOf S
 t0:0 <= M.get 0 /\ M.get 0 <= 1000000
 ct:P0 S.players S.nb S.rounds (M.get 1) (M.get 2) (M.get 3) (M.get 4) (M.get 8)
 pl:∀q:Nat,(q:Int)<(if M.get 1=0 then M.get 2 else S.players) -> M.get (48+4*q)=(ins q).dx /\ M.get (48+4*q+1)=(ins q).dy /\ M.get (48+4*q+2)=(ins q).act
 ec:B4 M \/ (0 <= M.get 11 /\ M.get 11 <= 40)
abbrev kC(S:Setup)(M:MemS):Int:=Gr S.players S.nb S.rounds (M.get 1) (M.get 2) (M.get 3) (M.get 4) (M.get 8)
structure Nx(S:Setup)(ins:Nat -> Inp)(M:MemS)(r:VR):Prop where
 tv:TV S ins r.M
 lt:kC S r.M<kC S M
 ph:M.get 1 <= r.M.get 1
 t0:r.M.get 0=M.get 0
 ns:¬ B4 r.M
 yes:r.em=true -> ¬ B4 M /\ r.e.t=M.get 0 /\ r.e.i=M.get 11 /\ r.M.get 11=M.get 11+1
 no:r.em=false -> r.M.get 11=if B4 M then 0 else M.get 11
theorem TV.l48{S:Setup}(hS:SetV S){ins:Nat -> Inp}{M:MemS}(h:TV S ins M):48 <= M.cs.length:=by
 have:=h.len;have:=hS.pl;unfold sizeOf at *;omega
theorem iB{S:Setup}(hS:SetV S){ins:Nat -> Inp}{M N:MemS}{r:VR}{p i j q x fu:Int}(h:TV S ins M)(hp:1 <= M.get 1)(hN:Kp S.players M N)(hlen:r.M.cs.length=N.cs.length)
  (g:∀k,r.M.get k=if k=1 then p else if k=2 then i else if k=3 then j else if k=4 then q else if k=5 then x else N.get k) (h8:N.get 8=fu)
  (hE:Ef M ⟨N,r.v,r.e,r.em⟩) (hc:P0 S.players S.nb S.rounds p i j q fu) (Tw:M.get 1 <= p) (g_:Gr S.players S.nb S.rounds p i j q fu<kC S M):Nx S ins M r:=by
 have ha:¬ B4 M:=λ e=>by have:=e.1;omega
 have g0:r.M.get 0=M.get 0:=by rw[g];simp;exact hN.get 0 (by omega)
 have g1:r.M.get 1=p:=by rw[g];simp
 have g2:r.M.get 2=i:=by rw[g];simp
 have g3:r.M.get 3=j:=by rw[g];simp
 have g4:r.M.get 4=q:=by rw[g];simp
 have g8:r.M.get 8=fu:=by rw[g];simp;exact h8
 have g11:r.M.get 11=N.get 11:=by rw[g];simp
 have gp:∀k,48 <= k -> k<48+4*S.players -> r.M.get k=M.get k:=λ k h1 h2=>by
  rw[g,if_neg (by omega),if_neg (by omega),if_neg (by omega),if_neg (by omega),if_neg (by omega)];exact hN.get k (by omega)
 have hec:0 <= M.get 11 /\ M.get 11 <= 40:=by
  rcases h.ec with e|e
  ·exact absurd e ha
  ·exact e
 refine⟨⟨by rw[hlen,hN.len];exact h.len,by rw[g0];exact h.t0,by rw[g1,g2,g3,g4,g8];exact hc,λ k hk=>?_,.inr ?_⟩,?_,by rw[g1];exact Tw,g0,λ e=>by rw[B4,g1] at e;have:=e.1;omega,λ e=>?_,λ e=>?_⟩
 ·rw[g1,if_neg (by omega)] at hk;have:=h.pl k (by rw[if_neg (by omega)];exact hk);rw[gp _ (by omega) (by omega),gp _ (by omega) (by omega),gp _ (by omega) (by omega)];exact this
 ·rw[g11];cases he:r.em with
  | true=>obtain⟨a,b,c,d⟩:=hE.yes he;simp only at d;omega
  | false=>have:=hE.no he;simp only at this;omega
 ·unfold kC;rw[g1,g2,g3,g4,g8];exact g_
 ·obtain⟨a,b,c,d⟩:=hE.yes e;exact⟨ha,a,b,by rw[g11];exact d⟩
 ·rw[if_neg ha,g11];exact hE.no e
theorem Hi.kp{P:Int}{M N:MemS}(h:Hi P M N)(hP:0 <= P):Kp P M N:=⟨h.len,λ j hj=>h.get j (by omega)⟩
theorem Hi.ef{P:Int}{M N:MemS}(h:Hi P M N)(hP:0 <= P){v:Int}{e:Eff}:Ef M ⟨N,v,e,false⟩:=⟨λ h=>by simp at h,λ _=>h.get 11 (by omega)⟩
theorem kD{M:MemS}(h:48 <= M.cs.length)(t:Stp)(a b j:Int):(aO t a b M).get j=if j=3 then b else if j=2 then 0 else if j=1 then a else M.get j:=by
 unfold aO;rw[bW (by simp only[aK];exact h) (by omega) (by omega),bW (by simp only[aK];exact h) (by omega) (by omega),bW h (by omega) (by omega)]
theorem gw{M:MemS}(t:Stp)(a b:Int):(aO t a b M).cs.length=M.cs.length:=by unfold aO;simp only[aK]
theorem if5{k p i j q x z:Int}{f:Int -> Int}(h:(if k=3 then j else if k=2 then i else if k=1 then p else f k)=z)(hq:q=f 4)(hx:x=f 5):z=if k=1 then p else if k=2 then i else if k=3 then j else if k=4 then q else if k=5 then x else f k:=by
 subst h hq hx
 by_cases e1:k=1
 ·subst e1;simp
 by_cases e2:k=2
 ·subst e2;simp
 by_cases e3:k=3
 ·subst e3;simp
 by_cases e4:k=4
 ·subst e4;simp
 by_cases e5:k=5
 ·subst e5;simp
 simp[e1,e2,e3,e4,e5]
theorem SL{k i z:Int}{f:Int -> Int}(h:(if k=2 then i else f k)=z):z=if k=1 then f 1 else if k=2 then i else if k=3 then f 3 else if k=4 then f 4 else if k=5 then f 5 else f k:=by
 subst h
 by_cases e1:k=1
 ·subst e1;simp
 by_cases e2:k=2
 ·subst e2;simp
 by_cases e3:k=3
 ·subst e3;simp
 by_cases e4:k=4
 ·subst e4;simp
 by_cases e5:k=5
 ·subst e5;simp
 simp[e1,e2,e3,e4,e5]
theorem Jz{S:Setup}(hS:SetV S){t:Stp}(ht:t.S=S)(M:MemS):Hi S.players M (bB t (bA t M)):=by
 have hp:0 <= S.players:=by have:=hS.pl;omega
 subst ht;have ha:Hi t.S.players M (bA t M):=by
  unfold bA;split
  ·exact(Hi.refl).setB hp (by omega) (by omega) _
  ·exact .refl
 unfold bB;split
 ·next hm =>
  have hb:af t.S t.i >= 0:=by
   rcases lh hp t.i with e|⟨_,_,e⟩
   ·unfold af at e;rw[if_neg (by have:=hm.1;omega),if_neg (by have:=hm.1;omega)] at e;have:=hm.1;omega
   ·omega
  exact(ha.setB hp hb (by omega) _).setB hp hb (by omega) _
 ·exact ha
theorem q3{S:Setup}(hS:SetV S){g:Gm}(hg:g.S=S){ins:Nat -> Inp}{M:MemS}(h:TV S ins M)(hp:M.get 1=3):Nx S ins M ⟨aL (g.step M) M,0,bz,false⟩:=by
 have iS:=hS.pl;have W_:=hS.nb;have Tv:=hS.ro;have hc:0 <= M.get 2 /\ M.get 2<S.nb:=by rcases h.ct with h|h|h|h|h|h|h|h <;> omega
 have hh:=Jz hS (t:=g.step M) hg M;have hl:=h.l48 hS;unfold aL b7;generalize bB (g.step M) (bA (g.step M) M)=N at *;have Tg:48 <= N.cs.length:=by rw[hh.len];exact hl
 have e1:=hh.get 1 (by omega);have e2:=hh.get 2 (by omega);have e3:=hh.get 3 (by omega);have e4:=hh.get 4 (by omega);have e8:=hh.get 8 (by omega);show Nx S ins M ⟨if aV (M.get 2+1)<g.S.nb then N.set 2 (aV (M.get 2+1)) else _,0,bz,false⟩;rw[bU (by omega),hg];split
 ·refine iB hS h (by omega) (hh.kp (by omega)) (aK _ _ _) (λ k=>SL (f:=N.get) (bW Tg (by omega) (by omega) k).symm) e8 (hh.ef (by omega)) ?_ (by omega) ?_
  ·rw[e1,e3,e4,hp];exact .inr (.inr (.inr (.inl ⟨rfl,by omega,by omega⟩)))
  ·unfold kC;rw[e1,e3,e4,hp];show l3 S.nb S.rounds (M.get 2+1)<l3 S.nb S.rounds (M.get 2);unfold l3;omega
 ·refine iB hS h (by omega) (hh.kp (by omega)) ((aK _ _ _).trans (gw _ _ _)) (p:=4) (i:=0) (j:=1) (q:=0) (x:=N.get 5) (λ k=>?_) e8 (hh.ef (by omega)) ?_ (by omega) ?_
  ·rw[bW (by rw[gw];exact Tg) (by omega) (by omega),kD Tg]
   by_cases k4:k=4
   ·subst k4;simp
   ·rw[if_neg k4]
    by_cases k1:k=1
    ·subst k1;simp
    by_cases k2:k=2
    ·subst k2;simp
    by_cases k3:k=3
    ·subst k3;simp
    by_cases k5:k=5
    ·subst k5;simp
    simp[k1,k2,k3,k4,k5]
  ·exact .inr (.inr (.inr (.inr (.inl ⟨rfl,by omega,by omega,λ _=>by omega⟩))))
  ·unfold kC;rw[hp];show l4 S.nb S.rounds 0 1 0<l3 S.nb S.rounds (M.get 2);unfold l3;omega
end Go.Proofs.YtghjbimijeinfaaGreatDoor
