import Derived.Test.YtgdcbiiopbpgaaaGreatDoorY43
import Derived.Test.YtgdcbiiopbpgaaaGreatDoorY44
import Derived.Test.YtgdcbiiopbpgaaaGreatDoorY25
set_option maxHeartbeats 4000000
set_option maxRecDepth 100000
set_option linter.unusedSimpArgs false
set_option linter.unusedVariables false
namespace Go.Proofs.YtgdcbiiopbpgaaaGreatDoor
open Go.RowKit Go.Shelf
section
variable {r:Option Nat} {P:Program} {N:Nat} {D:List Deferred} {F:HL} {w0:World} {R:HL} {s:Cfg} {Q:Exit -> Act -> World -> Prop}
end
section
variable {α:Type} {e:Enc α} {T:TypeId} {F:HL} {A:Option Addr} {n cap:Nat} {xs:List α} {Hl:HL}
end
def J2 (tk:Int) (j1 j2 i:Nat):Nat × Int:=if tk > (i:Int) then (j1,0) else (j2,1)
theorem AQ {tk:Int} {j1 j2 bp:Nat} {TB F:HL} (hB:Book2 tk j1 j2 bp TB) (hT:∀ x ∈ TB,x ∈ F) (hj1:j1 < 5) (hj2:j2 < 5) {t:Nat} {v:Int} (e:v=(t:Int)):(J2 tk j1 j2 t).1 < 5 /\ AtOk F bp v (J2 tk j1 j2 t):=by
 subst e
 refine ⟨?_,hB.at hT hj1 hj2 _ (by omega)⟩
 unfold J2
 split
 ·exact hj1
 ·exact hj2
theorem TE2.cs {S:Setup} {t:Int} {M N:MemS} (h:M.cs=N.cs) (hT:TE2 S t M):TE2 S t N:=by
 have hg:∀ k,N.get k=M.get k:=λ k=>by unfold MemS.get;rw [h]
 exact ⟨by rw [<- h];exact hT.len,λ k h1 h2=>by rw [hg];exact hT.z k h1 h2,by rw [hg];exact hT.t0⟩
abbrev Dc (tk:Int) (j1 j2 t:Nat):Nat -> Nat × Int:=λ i=>J2 tk j1 j2 (t+i)
section
variable {tk:Int} {S S1 S2:Setup} {rs_:List Bx} {ds_:List Dr} {bp gb n cap k t j1 j2:Nat} {A:Option Addr} {rs:List Rw} {xss:List (List Inp)} {M R:MemS} {G0 F TB:HL}
end
theorem Sp.fr {P:Program} {f:FuncId} {args:Array Value} {H H2 X F:HL} {R R2:Value -> HL -> Prop} (hp:H2.Perm (H++X)) (h:Sp P f args H (X++F) R) (hr:∀ u Y,R u Y -> ∃ H',R2 u H' /\ H'.Perm (Y++X)):Sp P f args H2 F R2:=λ w hR =>
 (h w (by rw [<- List.append_assoc];exact hR.perm (hp.symm.append_right F))).mono λ e w' ⟨v,Y,h1,h2,h3,h4⟩=>by
  obtain ⟨H',h5,h6⟩:=hr v Y h2
  exact ⟨v,H',h1,h5,(by rw [<- List.append_assoc] at h3;exact h3.perm (h6.append_right F)),h4⟩
inductive GameX (rs:List Bx) (ds:List Dr) (bp gb mb:Nat) (S:Setup) (M:MemS) (k:Nat):HL -> Prop
 | mk (T U:HL) (hM:MemH mb M k T) (hU:nr S rs ds U):GameX rs ds bp gb mb S M k (ap [(gb,.lit (dT S bp mb) 140 (0,0))] [T,U])
section
variable {rs:List Bx} {ds:List Dr} {bp gb mb:Nat} {S:Setup} {M:MemS} {k:Nat} {G0:HL}
theorem GameH.x (h:GameH rs ds bp gb S M k G0):∃ mb,GameX rs ds bp gb mb S M k G0:=by
 cases h with
 | mk mb T U hM hU=>exact ⟨mb,.mk T U hM hU⟩
theorem GameX.h (h:GameX rs ds bp gb mb S M k G0):GameH rs ds bp gb S M k G0:=by
 cases h with
 | mk T U hM hU=>exact .mk mb T U hM hU
theorem GameX.weak (h:GameX rs ds bp gb mb S M k G0) {k':Nat} (hk:k' <= k):GameX rs ds bp gb mb S M k' G0:=by
 cases h with
 | mk T U hM hU=>exact .mk T U (hM.weak hk) hU
theorem GameX.mem (h:GameX rs ds bp gb mb S M k G0):∃ T,MemH mb M k T /\ ∀ x ∈ T,x ∈ G0:=by
 cases h with
 | mk T U hM hU=>exact ⟨T,hM,λ x hx=>by simp [ap,hx]⟩
theorem AR (h:GameX rs ds bp gb mb S M k G0) {F:HL} (hF:∀ x ∈ G0,x ∈ F):Sp Tryz.prog 38 #[vP gb 0] [] F (λ u H'=>u=vP mb 0 /\ H'=[]):=by
 cases h with
 | mk T U hM hU=>exact ES S bp gb mb F (hF _ (by simp [ap]))
theorem zd (h:GameX rs ds bp gb mb S M k G0) {F:HL} (hF:∀ x ∈ G0,x ∈ F):Sp Tryz.prog 39 #[vP mb 0] (ap [] []) F (λ u H'=>∃ q,H'=ap [(q,.rows 1 M.cs.length (aK M.cs) 3 (0,0))] [] /\ u=vS q 0 M.cs.length M.cs.length):=by
 obtain ⟨T,hM,hT⟩:=h.mem
 exact EU mb M k T F hM λ x hx=>hF x (hT x hx)
end
theorem GH {rs:List Bx} {ds:List Dr} {S:Setup} {bp gb mb b o N c k:Nat} {j:Nat × Int} {full xs:List Inp} {M:MemS} {G0 F:HL} (hG:GameX rs ds bp gb mb S M (k+20000) G0) (hj:j.1 < 5) (hA:AtOk F bp (M.get 0) j) (hE:dh F) (hI:(b,.rows 3 N (kh full) 119 (0,0)) ∈ F) (hir:o+xs.length <= N) (hni:xs.length <= 1000000) (hx:∀ k,k < xs.length -> full.getD (o+k) dI=xs.getD k dI) (hk:TkOk S j xs M) :
  Sp Tryz.prog 70 #[vP gb 0,vS b (o * 3) xs.length c] (ap [] [G0]) F (λ u H'=>∃ x:(Option Addr × Nat × Nat) × HL × HL,H'=ap [] [x.2.1,x.2.2] /\ (GameX rs ds bp gb mb S (nl (tq S j xs) M) k x.2.1 /\ SlIs vt 197 (NP (tq S j xs) M) x.1.1 x.1.2.1 x.2.2 /\ u=.tuple #[.slice x.1.1 (NP (tq S j xs) M).length x.1.2.1,vI ((x.1.2.2+1:Nat):Int),vI 0])):=by
 obtain ⟨m,hm,hg⟩:=hk.ex
 obtain ⟨e1,e2⟩:=JT hm hg
 cases hG with
 | mk T U hM hU =>
  rw [bC]
  refine (Gb S rs ds bp gb mb b o N xs.length c m k j full xs M T U F hj hA hU hE hI hir hni (by omega) rfl hx (hM.weak (by omega)) hk.now hg hk.ok).mono λ u H' h=>?_
  obtain ⟨x,rfl,h1,h2,h3⟩:=h
  rw [e1] at h1
  rw [e2] at h2 h3
  exact ⟨((x.2.1,x.2.2.1,m),ap [(gb,.lit (dT S bp mb) 140 (0,0))] [x.1,U],x.2.2.2),by simp [ap],.mk x.1 U h1 hU,h2,h3⟩
theorem LB {rs:List Bx} {ds:List Dr} {bp gb mb:Nat} {S:Setup} {M:MemS} {k:Nat} {G0:HL} (h:GameX rs ds bp gb mb S M k G0) {F:HL} (hF:∀ x ∈ G0,x ∈ F) (hb:0 <= M.base /\ M.base <= 1000000000):Sp Tryz.prog 72 #[vP mb 0] [] F (λ u H'=>u=vI (M.base+(M.lg.length:Int)) /\ H'=[]):=by
 obtain ⟨T,hM,hT⟩:=h.mem
 exact Lq hM (λ x hx=>hF x (hT x hx)) hb
theorem Ns {rs:List Bx} {ds:List Dr} {bp gb mb:Nat} {S:Setup} {M:MemS} {k:Nat} {G0:HL} (h:GameX rs ds bp gb mb S M k G0) (F:HL) {k2:Nat} (hk:k2 <= 100000000) (hb:0 <= M.base /\ M.base <= 1000000000):Sp Tryz.prog 71 #[vP mb 0,vI (M.base+(M.lg.length:Int))] (ap [] [G0]) F (λ u H'=>∃ x,H'=ap [] [x] /\ (u=vI 0 /\ GameX rs ds bp gb mb S ⟨M.cs,[],M.base+(M.lg.length:Int)⟩ k2 x)):=by
 cases h with
 | mk T U hM hU =>
  have h1:=Gh (k2:=k2) ([(gb,Blk.lit (dT S bp mb) 140 (0,0))]++(U++F)) hM hb hk
  refine Sp.fr (X:=[(gb,Blk.lit (dT S bp mb) 140 (0,0))]++U) ?_ (F:=F) (by rw [List.append_assoc];exact h1) ?_
  ·rw [bC,bC]
   show (([(gb,Blk.lit (dT S bp mb) 140 (0,0))]++[T,U].flatten)).Perm _
   simp only [List.flatten_cons,List.flatten_nil,List.append_nil]
   exact (List.perm_append_comm_assoc _ _ _)
  ·rintro u Y ⟨x,rfl,rfl,h4⟩
   refine ⟨ap [(gb,Blk.lit (dT S bp mb) 140 (0,0))] [x,U],⟨_,(bC _).symm,rfl,.mk x U h4 hU⟩,?_⟩
   rw [bC]
   show (([(gb,Blk.lit (dT S bp mb) 140 (0,0))]++[x,U].flatten)).Perm _
   simp only [List.flatten_cons,List.flatten_nil,List.append_nil]
   exact (List.perm_append_comm_assoc _ _ _)
structure Ck where (A:Option Addr) (n c:Nat) (r:Int)
def r6:Enc Ck:=⟨2,λ p k=>match k with | 0=>.slice p.A p.n p.c | _=>.int .u64 p.r,⟨none,0,0,0⟩⟩
noncomputable def Nt:TypeInfo:=match Tryz.prog.info? 88 with | some i=>i | none=>⟨.bool,"",0,0,false,0,0,none,false,#[]⟩
noncomputable def Nv:Value:=match Nt.zero with | some z=>z | none=>.bool false
theorem Nw:EncOk r6 Tryz.prog 88 Nt Nv where
 info:=by kernel_rfl
 zero:=by kernel_rfl
 size:=by kernel_rfl
 zsize:=by kernel_rfl
 zcell:=λ k hk=>by
  have h:∀ k < 2,Nv.cells[k]?=some (r6.cell r6.dflt k):=by intro k hk;(iterate 2 (rcases k with _ | k;· kernel_rfl));omega
  exact h k hk
 one:=λ x k=>by unfold r6;dsimp only;split <;> rfl
 bytes:=Nat.le_of_ble_eq_true (by kernel_rfl)
def CksT (cl:List Ck) (css:Nat -> List Int) (T:HL):Prop:=∀ F:HL,(∀ x ∈ T,x ∈ F) -> ∀ k,k < cl.length -> ∃ q,cl.getD k r6.dflt=⟨some ⟨q,0,none⟩,(css k).length,(css k).length,fN (css k)⟩ /\ (q,.rows 1 (css k).length (aK (css k)) 3 (0,0)) ∈ F
theorem CksT.nil (css:Nat -> List Int):CksT [] css []:=λ F _ k hk=>absurd hk (Nat.not_lt_zero _)
theorem CksT.snoc {cl:List Ck} {css:Nat -> List Int} {T:HL} {q:Nat} {cs:List Int} (h:CksT cl css T) (e:css cl.length=cs):CksT (cl++[⟨some ⟨q,0,none⟩,cs.length,cs.length,fN cs⟩]) css (T++[(q,.rows 1 cs.length (aK cs) 3 (0,0))]):=λ F hF k hk=>by
 rw [oI]
 by_cases hk1:k < cl.length
 ·rw [if_pos hk1]
  exact h F (λ x hx=>hF x (List.mem_append_left _ hx)) k hk1
 ·have:k=cl.length:=by simp at hk;omega
  rw [if_neg hk1,if_pos this,this,e]
  exact ⟨q,rfl,hF _ (List.mem_append_right _ (List.mem_singleton.2 rfl))⟩
theorem RwsT.snocC {rs:List Rw} {xss:List (List Inp)} {T T1:HL} {xs:List Inp} {A:Option Addr} {c n:Nat} (h:RwsT rs xss T) (hs:ClS fI 119 xs A c T1) (h1:1 <= xs.length) (hn:n=xs.length):RwsT (rs++[⟨A,n,c⟩]) (xss++[xs]) (T++T1):=by
 obtain ⟨A0,hs⟩:=hs
 rcases hs with ⟨rfl,_⟩ | ⟨b,rfl,rfl,h3⟩
 ·simp at h1
 ·refine h.snoc (A:=some ⟨b,0,none⟩) (c:=c) (T1:=[(b,.rows 3 c (aZ fI xs) 119 (0,0))]) (.inr ⟨b,0,xs++List.replicate (c - xs.length) fI.dflt,by simp,?_,by simp;omega,h3,by simp⟩) h1 hn
  rw [Nat.zero_add,jD];rfl
theorem GI {n ev:Nat} (h:(n+1) % ev=0):(n+1) / ev=n / ev+1:=by rw [Nat.succ_div,if_pos (Nat.dvd_of_mod_eq_zero h)]
theorem LC {n ev:Nat} (h:¬ (n+1) % ev=0):(n+1) / ev=n / ev:=by rw [Nat.succ_div,if_neg (λ e=>h (Nat.mod_eq_zero_of_dvd e))];rfl
theorem LD {n ev:Nat} (h:(n+1) % ev=0):(n / ev+1) * ev=n+1:=by
 rw [<- GI h,Nat.mul_comm]
 have:=Nat.div_add_mod (n+1) ev
 omega
theorem rj (S2 S3:Setup) (rs_:List Bx) (ds_:List Dr) (bp gb mb rp ev rn rc cc k:Nat) (rA cA:Option Addr) (cl:List Ck) (M:MemS) (G0 Hl F:HL) (hG:GameX rs_ ds_ bp gb mb S2 M k G0) (hF:∀ x ∈ G0,x ∈ F) (hs:SlIs r6 88 cl cA cc Hl) (hcl:cl.length <= 100000) (hml:M.cs.length <= 1000000):Sp Tryz.prog 50 #[vP rp 0] (ap [(rp,.lit (Setup.l S3++[vP bp 0,vI (ev:Int),vP gb 0,.slice rA rn rc,.slice cA cl.length cc]) 86 (0,0))] [Hl]) F (λ u H'=>∃ x:(Nat × Option Addr × Nat) × HL,H'=ap [(rp,.lit (Setup.l S3++[vP bp 0,vI (ev:Int),vP gb 0,.slice rA rn rc,.slice x.1.2.1 (cl.length+1) x.1.2.2]) 86 (0,0)),(x.1.1,.rows 1 M.cs.length (aK M.cs) 3 (0,0))] [x.2] /\ (u=.tuple #[] /\ SlIs r6 88 (cl++[⟨some ⟨x.1.1,0,none⟩,M.cs.length,M.cs.length,fN M.cs⟩]) x.1.2.1 x.1.2.2 x.2)):=by
 refine Sp.run Tryz.func50 rfl mn (A:=[(rp,.lit (Setup.l S3++[vP bp 0,vI (ev:Int),vP gb 0,.slice rA rn rc,.slice cA cl.length cc]) 86 (0,0))]) (Ts:=[Hl]) rfl λ w0=>?_
 refine ae 6 [.own 0] λ _=>aj (AR hG (λ x hx=>aw (hF x hx)))<|RN.ct (Hp:=[]) (Tp:=[]) [] [] (zd hG (λ x hx=>aw (hF x hx))) ?_
 rintro _ q1 rfl
 refine ae 3 [] λ _=>RN.draw [10,13] []<|ag [] [0,1,5,6,2,3,4] [.own 1]<|ar [] 7 (λ X_=>(tz q1 M.cs.length M.cs _ (im 0) (Nat.le_refl _) hml))<|ag [] [8] []<|RD.one 9 (RDO.ev [] [] λ n3=>?_)
 refine RD.one 10 (lm [] Nw cl [(⟨some ⟨q1,0,none⟩,M.cs.length,M.cs.length,fN M.cs⟩:Ck)] 0 0 rfl hs (by simp;omega) ?_)
 rintro A4 c5 T6 ⟨hs7,hz8⟩
 refine ag [] [11,12] []<|RD.one 13 (RDO.ev [] [.own 2] λ _=>?_)
 refine RD.fin<|RN.ret [] [2,1] [0] (v:=.tuple #[]) (H':=(ap [(rp,.lit (Setup.l S3++[vP bp 0,vI (ev:Int),vP gb 0,.slice rA rn rc,.slice A4 (cl.length+1) c5]) 86 (0,0)),(q1,.rows 1 M.cs.length (aK M.cs) 3 (0,0))] [T6])) ?_
 exact ⟨((q1,A4,c5),T6),rfl,rfl,hs7⟩
theorem oK {rs_:List Bx} {ds_:List Dr} {S2:Setup} {bp gb mb b o N c:Nat} {j:Nat × Int} {full xs:List Inp} {M:MemS} {G0 F:HL} (hG:GameX rs_ ds_ bp gb mb S2 M (99000000+20000) G0) (hb:0 <= M.base /\ M.base <= 900000000) (hj:j.1 < 5) (hA:AtOk F bp (M.get 0) j) (hE:dh F) (hI:(b,.rows 3 N (kh full) 119 (0,0)) ∈ F) (hir:o+xs.length <= N) (hni:xs.length <= 1000000) (hx:∀ k,k < xs.length -> full.getD (o+k) dI=xs.getD k dI) (hk:TkOk S2 j xs M):Sp Tryz.prog 37 #[vP gb 0,vS b (o * 3) xs.length c] (ap [] [G0]) F (λ u H'=>∃ x:MemS × HL,H'=ap [] [x.2] /\ (u=vI 0 /\ GameX rs_ ds_ bp gb mb S2 x.1 99020000 x.2 /\ x.1.cs=(nl (tq S2 j xs) M).cs /\ 0 <= x.1.base /\ x.1.base <= M.base+1000000)):=by
 refine Sp.run Tryz.func37 rfl mn (A:=[]) (Ts:=[G0]) rfl λ w0=>?_
 refine ae 9 [] λ _=>RN.ct [] [0] (GH (c:=c) (k:=99000000) hG hj (hA.mono λ x hx=>aw hx) (aw hE) (aw hI) hir hni hx hk) ?_
 rintro _ ⟨⟨A1,c2,n3⟩,T4,E5⟩ ⟨hG6,hs7,rfl⟩
 dsimp only at hG6 hs7
 have hb2_:0 <= (nl (tq S2 j xs) M).base /\ (nl (tq S2 j xs) M).base <= 1000000000:=by rw [xc];omega
 refine ae 22 [] λ _=>aj (AR hG6 (aA 0))<|ae 7 [] λ _=>aj (LB hG6 (aA 0) hb2_)<|RN.ct [] [0] (Ns (k2:=99020000) hG6 _ (by decide) hb2_) ?_
 rintro _ T8 ⟨rfl,hG9⟩
 refine ae 3 [] λ _=>RN.ret [] [] [0] (v:=vI 0) (H':=(ap [] [T8])) ?_
 obtain ⟨_,hm_,_⟩:=hG6.mem
 have hl_:=hm_.len2
 have hbe_:=xc (tq S2 j xs) M
 exact ⟨(⟨(nl (tq S2 j xs) M).cs,[],(nl (tq S2 j xs) M).base+((nl (tq S2 j xs) M).lg.length:Int)⟩,T8),rfl,rfl,hG9,rfl,by show 0 <= (nl (tq S2 j xs) M).base+_;omega,by show (nl (tq S2 j xs) M).base+_ <= _;omega⟩
theorem ze (S:Setup) (rs:List Bx) (ds:List Dr) (F:HL) (hS:SetCl F S) (hM:MapIn F S rs ds) (h1:1 <= S.nb) (hrn:S.rn <= 1000000) (hdn:S.dn <= 1000000):Sp Tryz.prog 49 #[(Setup.v S)] [] F (λ u H'=>∃ x:Setup × HL,H'=ap [] [x.2] /\ (u=Setup.v x.1 /\ SetEq S x.1 /\ nr x.1 rs ds x.2)):=by
 have hp:=hS.pl
 have hn:=hS.nb
 have hr:=hS.room
 refine Sp.run Tryz.func49 rfl (mc hS.blk mn) (A:=[]) (Ts:=[]) rfl λ w0=>?_
 refine ae 10 [.own 1] λ n1=>RN.ct (Hp:=[]) (Tp:=[]) [] [] (kP (some ⟨S.bb,S.bo * 9,none⟩) S.nb S.bc (ja S) _ (RowL.src tU (by decide) (sL hS.toSh).up) (by omega)) ?_
 rintro _ ⟨A2,c3,T4⟩ ⟨rfl,hc5⟩
 dsimp only at hc5
 refine ae 7 [.own 1] λ _=>?_
 obtain ⟨bb,rfl,rfl,hcap0⟩:=hc5.open (by rw [fB];omega)
 have hcap:S.nb <= c3:=by rw [fB] at hcap0;exact hcap0
 refine ve 0 (x:=(bb,.rows 9 c3 (iy (ja S)) 78 (0,0)))<|ae 7 [.own 2] λ _=>RN.nt<|RN.loop (σ:=Nat × List Bod × HL) (λ ⟨i,bods,U_⟩=>⟨[(1,vP (n1+0) 0),(2,vP (n1+1) 0),(10,vI (S.nb:Int)),(11,vI (i:Int))],[(bb,.rows 9 c3 (iy bods) 78 (0,0)),((n1+1),.lit [vI 0,.slice none 0 0,vI 0,vI 0,vI 0,vI 0,.slice none 0 0,.slice none 0 0,vI 0,vI 0,vI 0,vI 0,vI 0,vI 0,vI 0,vI 0] 31 (0,0)),((n1+0),.lit [vI S.players,vS bb 0 S.nb c3,vI S.box.x0,vI S.box.y0,vI S.box.x1,vI S.box.y1,.slice S.rA S.rn S.rc,.slice S.dA S.dn S.dc,vI S.fog,vI S.g.x,vI S.g.y,vI S.push,vI S.drag,vI S.rest,vI S.rounds,vI S.fuel] 31 (0,0))],[U_],i <= S.nb /\ bods.length=S.nb /\ (∀ k,k < S.nb -> ∃ A c,bods.getD k dB=(S.body k).at A c) /\ (∀ k,k < i -> ShH (bods.getD k dB).sh U_) /\ ∀ k,i <= k -> k < S.nb -> bods.getD k dB=S.body k,S.nb - i⟩) (0,ja S,[]) [0,1,2] [0] (⟨Nat.zero_le _,fB S,λ k hk=>⟨_,_,hO hk⟩,λ k hk=>absurd hk (Nat.not_lt_zero _),λ k _ hk=>hO hk⟩) ?_
 rintro ⟨i,bods,U_⟩ ⟨hil,hbl_,hsame,hsh_,hfar⟩ mt7
 refine ae 6 [] λ _=>RN.em ((i:Int) < (S.nb:Int)) 12 (λ h8=>?_) λ h8=>?_
 ·refine ae 7 [] λ _=>?_
  have hsi_:(RowL kO 29 F (bods.getD i dB).sh.A (bods.getD i dB).sh.poly.length (bods.getD i dB).sh.poly /\ (bods.getD i dB).sh.poly.length <= 1000000) /\ ((bods.getD i dB).sh.poly=[] \/ 3 <= (bods.getD i dB).sh.poly.length):=by rw [hfar i (Nat.le_refl _) (by omega)];exact hS.shp i (by omega)
  have hrl_:=hsi_.1.1
  have hpl_:(bods.getD i dB).sh.poly.length <= 100000000:=by have:=hsi_.1.2;omega
  refine ae 4 [] λ _=>RN.draw [14] []<|aH [] [0,2,3,5,1,4,6,7,8,9] [.own 2,.own 2,.ix i,.row 0 i 1] [((0+i * 9)+1)=i * 9+1 /\ i < c3,(i:Int)=((i:Nat):Int) /\ i < S.nb]<|RD.one 10 (RDO.ct [] (Hp:=[]) (Tp:=[]) [] [] (lW ((bods.getD i dB).sh.A) ((bods.getD i dB).sh.poly.length) ((bods.getD i dB).sh.cap) ((bods.getD i dB).sh.poly) _ (RowL.src ym (by decide) hrl_.up) hpl_) ?_)
  rintro _ ⟨A9,c10,T11⟩ ⟨rfl,hc12⟩
  dsimp only at hc12
  refine aH [] [11,12,13] [.ix i] [(i:Int)=((i:Nat):Int) /\ i < S.nb]<|RD.one 14 (ee [] [.row 0 i 1] [((0+i * 9)+1)=i * 9+1 /\ i < c3] λ _=>?_)
  refine RD.fin<|ai 6 [.nw] [bd ((i:Int)+1)] λ _=>cR 0 (congrArg (λ v_=>(.rows 9 c3 v_ 78 (0,0):Blk)) (show (dU (iy bods) i 1 (.slice A9 ((bods.getD i dB).sh.poly.length) c10))=(iy (bods.set i ((bods.getD i dB).at A9 c10))) from (zV (by omega) A9 c10)))<|m6 [1,0]<|oY ?_
  refine mt7 (i+1,(bods.set i ((bods.getD i dB).at A9 c10)),U_++T11) [0,1,2] [0] ?_
  try dsimp only
  refine ⟨⟨by omega,by rw [List.length_set];exact hbl_,λ t ht=>?_,λ t ht=>?_,λ t h1_ h2_=>?_⟩,by omega⟩
  ·rcases Decidable.em (i=t) with rfl | h_
   ·rw [dM (by omega),hfar i (Nat.le_refl _) ht];exact ⟨_,_,rfl⟩
   ·rw [db h_];exact hsame t ht
  ·rcases Decidable.em (i=t) with rfl | h_
   ·rw [dM (by omega)];exact ShH.right (sM hsi_.2 hsi_.1.2 hc12)
   ·rw [db h_];exact (hsh_ t (by omega)).left
  ·rw [db (by omega)];exact hfar t (by omega) h2_
 ·refine ae 10 [.own 2] λ _=>RN.ct (Hp:=[]) (Tp:=[]) [] [] (lX S.rA S.rn S.rc rs _ (RowL.src ED (by decide) hM.rooms.up) (by omega)) ?_
  rintro _ ⟨A13,c14,T15⟩ ⟨rfl,hc16⟩
  dsimp only at hc16
  refine ae 8 [.own 2,.own 2] λ _=>RN.ct (Hp:=[]) (Tp:=[]) [] [] (kQ S.dA S.dn S.dc ds _ (RowL.src EE (by decide) hM.doors.up) (by omega)) ?_
  rintro _ ⟨A17,c18,T19⟩ ⟨rfl,hc20⟩
  dsimp only at hc20
  refine ae 10 (ow 2 17++ow 1 16) λ _=>RN.ret (ow 1 16) [0] [0,1,2] (v:=.agg #[vI S.players,vS bb 0 S.nb c3,vI S.box.x0,vI S.box.y0,vI S.box.x1,vI S.box.y1,.slice A13 S.rn c14,.slice A17 S.dn c18,vI S.fog,vI S.g.x,vI S.g.y,vI S.push,vI S.drag,vI S.rest,vI S.rounds,vI S.fuel]) (H':=(ap [(bb,.rows 9 c3 (iy bods) 78 (0,0))] [T19,T15,U_])) ?_
  have ei:i=S.nb:=by omega
  subst ei
  have hbod:∀ k,bods.getD (0+k) dB=bods.getD k dB:=λ k=>by rw [Nat.zero_add]
  refine ⟨((⟨S.players,bb,0,S.nb,c3,c3,bods,S.box,A13,S.rn,c14,A17,S.dn,c18,S.fog,S.g,S.push,S.drag,S.rest,S.rounds,S.fuel⟩:Setup),[(bb,.rows 9 c3 (iy bods) 78 (0,0))]++(T19++T15++U_)),(by simp [ap]),rfl,⟨⟨rfl,rfl,rfl,rfl,rfl,rfl,rfl,rfl,rfl,rfl,rfl,rfl⟩,λ k hk=>?_,rfl,hbl_⟩,λ F2 hF=>⟨⟨⟨hp,by omega⟩,hF _ (by simp),(by show 0+S.nb <= c3;omega),λ k hk=>?_⟩,?_,?_⟩⟩
  ·obtain ⟨A,c,h⟩:=hsame k hk;exact ⟨A,c,by show bods.getD (0+k) dB=_;rw [hbod];exact h⟩
  ·show ShIn F2 (bods.getD (0+k) dB).sh;rw [hbod];exact hsh_ k hk F2 λ x hx=>hF x (by simp [hx])
  ·have h_:=hc16.rowL (F:=F2) λ x hx=>hF x (by simp [hx]);rw [hM.rooms.len] at h_;exact h_
  ·have h_:=hc20.rowL (F:=F2) λ x hx=>hF x (by simp [hx]);rw [hM.doors.len] at h_;exact h_
theorem zf (S:Setup) (rs:List Bx) (ds:List Dr) (F:HL) (hS:SetCl F S) (hM:MapIn F S rs ds) (h1:1 <= S.nb) (hrn:S.rn <= 1000000) (hdn:S.dn <= 1000000):Sp Tryz.prog 49 #[Setup.v S] (ap [] []) F (λ u H'=>∃ x:Setup × HL,H'=ap [] [x.2] /\ (u=Setup.v x.1 /\ SetEq S x.1 /\ nr x.1 rs ds x.2)):=ze S rs ds F hS hM h1 hrn hdn
inductive RecH (rs_:List Bx) (ds_:List Dr) (bp ev rp:Nat) (S S2:Setup) (W:Nat -> List Int) (n:Nat) (pre:List (List Inp)):HL -> Prop
 | mk {gb mb rc cc:Nat} {S3:Setup} {M:MemS} {rA cA:Option Addr} {rl:List Rw} {cl:List Ck} {Tg Ts Tr Trr Tc Tcc:HL} (h3:SetEq S S3) (hs:nr S3 rs_ ds_ Ts) (hg:GameX rs_ ds_ bp gb mb S2 M 99020000 Tg) (hcs:M.cs=W n) (hb:0 <= M.base /\ M.base <= 1000000 * (n:Int)) (hr:SlIs mJ 54 rl rA rc Tr) (hrl:rl.length=n) (hrr:RwsT rl pre Trr) (hc:SlIs r6 88 cl cA cc Tc) (hcl:cl.length=n / ev+1) (hck:CksT cl (λ k=>W (k * ev)) Tcc) :
  RecH rs_ ds_ bp ev rp S S2 W n pre (ap [(rp,.lit (Setup.l S3++[vP bp 0,vI (ev:Int),vP gb 0,.slice rA n rc,.slice cA cl.length cc]) 86 (0,0))] [Tg,Ts,Tr,Trr,Tc,Tcc])
theorem GJ (S S2 S3:Setup) (rs_:List Bx) (ds_:List Dr) (bp gb mb rp ev n rc cc b o N c:Nat) (rA cA:Option Addr) (j:Nat × Int) (full xs:List Inp) (rl:List Rw) (pre:List (List Inp)) (cl:List Ck) (W:Nat -> List Int) (M:MemS) (G0 Ts Tr Trr Tc Tcc F:HL) (h3:SetEq S S3) (hs:nr S3 rs_ ds_ Ts) (hG:GameX rs_ ds_ bp gb mb S2 M 99020000 G0) (hb:0 <= M.base /\ M.base <= 1000000 * (n:Int)) (hn:n <= 800) (hr:SlIs mJ 54 rl rA rc Tr) (hrl:rl.length=n) (hrr:RwsT rl pre Trr) (hc:SlIs r6 88 cl cA cc Tc) (hcl:cl.length=n / ev+1) (hck:CksT cl (λ k=>W (k * ev)) Tcc) (hev:1 <= ev /\ ev <= 60) (hj:j.1 < 5) (hA:AtOk F bp (M.get 0) j) (hE:dh F) (hI:(b,.rows 3 N (kh full) 119 (0,0)) ∈ F) (hir:o+xs.length <= N) (h1:1 <= xs.length) (h2:xs.length <= 1000) (hx:∀ k,k < xs.length -> full.getD (o+k) dI=xs.getD k dI) (hk:TkOk S2 j xs M) (hW:W (n+1)=(nl (tq S2 j xs) M).cs) (hml:(nl (tq S2 j xs) M).cs.length <= 1000000):Sp Tryz.prog 24 #[vP rp 0,vS b (o * 3) xs.length c] (ap [(rp,.lit (Setup.l S3++[vP bp 0,vI (ev:Int),vP gb 0,.slice rA n rc,.slice cA cl.length cc]) 86 (0,0))] [G0,Ts,Tr,Trr,Tc,Tcc]) F (λ u H'=>u=vI 0 /\ RecH rs_ ds_ bp ev rp S S2 W (n+1) (pre++[xs]) H'):=by
 have hl:RowL fI 119 F (some ⟨b,o * 3,none⟩) xs.length xs:=.rows b o N full (0,0) _ xs hI hir rfl hx
 have hd_:n / ev <= n:=Nat.div_le_self _ _
 refine Sp.run Tryz.func24 rfl mn (A:=[(rp,.lit (Setup.l S3++[vP bp 0,vI (ev:Int),vP gb 0,.slice rA n rc,.slice cA cl.length cc]) 86 (0,0))]) (Ts:=[G0,Ts,Tr,Trr,Tc,Tcc]) rfl λ w0=>?_
 refine ae 13 [.own 0] λ _=>RN.ct [] [0] (oK (c:=c) hG (by omega) hj (hA.mono λ x hx=>aw hx) (aw hE) (aw hI) hir (by omega) hx hk) ?_
 rintro _ ⟨M1,T2⟩ ⟨rfl,hG3,he4,hb5⟩
 dsimp only at hG3 he4 hb5
 refine ae 13 [] λ _=>RN.draw [8,11] []<|ag [] [0,1,5,2,3,4] [.own 0]<|RD.one 6 (RDO.ct [] (Hp:=[]) (Tp:=[]) [] [] (pv (some ⟨b,o * 3,none⟩) xs.length c xs _ (hl.up.src p7 (by decide)) (by omega)) ?_)
 rintro _ ⟨A6,c7,T8⟩ ⟨rfl,hc9⟩
 dsimp only at hc9
 refine RD.one 7 (RDO.ev [] [] λ n10=>?_)
 refine RD.one 8 (lm [] Gc rl [(⟨A6,xs.length,c7⟩:Rw)] 3 0 hrl.symm hr (by simp;omega) ?_)
 rintro A11 c12 T13 ⟨hs14,hz15⟩
 refine ag [] [9,10] []<|RD.one 11 (RDO.ev [] [.own 1] λ _=>?_)
 refine RD.fin<|ae 3 [] λ _=>RN.draw [] []<|aH [] [0,5,1,6,2,7,3,8,4,9,10] [.own 1,.own 1,.nw] [0 <= (((n+1):Nat):Int) /\ (0:Int) < (ev:Int) /\ (((n+1):Nat):Int) <= 9223372036854775807]<|RD.fin<|ae 1 [] λ _=>RN.em ((((n+1):Nat):Int) % (ev:Int)=0) 36 (λ h16=>?_) λ h16=>?_
 ·refine ae 3 [] λ _=>RN.ct [1] [5] (rj S2 S3 rs_ ds_ bp gb mb rp ev (n+1) c12 cc 99020000 A11 cA cl M1 T2 Tc _ hG3 (aA 2) hc (by omega) (by rw [he4];exact hml)) ?_
  rintro _ ⟨⟨q17,A18,c19⟩,T20⟩ ⟨rfl,hc21⟩
  dsimp only at hc21
  refine tp 1<|m6 [7,0,1,2,3,4,5,6]<|oY<|ae 7 [] λ _=>m6 [6,3,0,1,2,4,5]<|oY<|RN.ret [] [0] [4,5,3,0,2,1] (v:=vI 0) (H':=(ap [(rp,.lit (Setup.l S3++[vP bp 0,vI (ev:Int),vP gb 0,.slice A11 (n+1) c12,.slice A18 (cl.length+1) c19]) 86 (0,0))] [T2,Ts,T13,(Trr++T8),T20,(Tcc++[(q17,.rows 1 M1.cs.length (aK M1.cs) 3 (0,0))])])) ?_
  have hrr2_:=hrr.snocC hc9 h1 rfl
  have hm_:(n+1) % ev=0:=by have h_:=h16;omega
  have hck2_:=hck.snoc (q:=q17) (cs:=M1.cs) (by show W (cl.length * ev)=_;rw [hcl,LD hm_,hW,he4])
  have hcl2_:(cl++[(⟨some ⟨q17,0,none⟩,M1.cs.length,M1.cs.length,fN M1.cs⟩:Ck)]).length=(n+1) / ev+1:=by rw [List.length_append,hcl,GI hm_];rfl
  exact ⟨rfl,by have h_:=RecH.mk (rp:=rp) h3 hs hG3 (by rw [he4,hW]) ⟨hb5.1,by omega⟩ hs14 (by simp [hrl]) hrr2_ hc21 hcl2_ hck2_;rw [show ((cl++[(⟨some ⟨q17,0,none⟩,M1.cs.length,M1.cs.length,fN M1.cs⟩:Ck)])).length=cl.length+1 by simp] at h_;exact h_⟩
 ·refine ae 8 [] λ _=>m6 [4,1,0,2,3,5,6]<|oY<|RN.ret [] [1] [2,3,1,0,4,5] (v:=vI 0) (H':=(ap [(rp,.lit (Setup.l S3++[vP bp 0,vI (ev:Int),vP gb 0,.slice A11 (n+1) c12,.slice cA cl.length cc]) 86 (0,0))] [T2,Ts,T13,(Trr++T8),Tc,Tcc])) ?_
  have hrr2_:=hrr.snocC hc9 h1 rfl
  have hm_:¬ (n+1) % ev=0:=by have h_:=h16;omega
  exact ⟨rfl,RecH.mk (rp:=rp) h3 hs hG3 (by rw [he4,hW]) ⟨hb5.1,by omega⟩ hs14 (by simp [hrl]) hrr2_ hc (by rw [hcl,LC hm_]) hck⟩
theorem GK {rs_:List Bx} {ds_:List Dr} {bp ev rp n b o N c:Nat} {S S2:Setup} {W:Nat -> List Int} {pre:List (List Inp)} {j:Nat × Int} {full xs:List Inp} {G0 F:HL} (h:RecH rs_ ds_ bp ev rp S S2 W n pre G0) (hn:n <= 800) (hev:1 <= ev /\ ev <= 60) (hj:j.1 < 5) (t:Int) (ht:(⟨W n,[],0⟩:MemS).get 0=t) (hA:AtOk F bp t j) (hE:dh F) (hI:(b,.rows 3 N (kh full) 119 (0,0)) ∈ F) (hir:o+xs.length <= N) (h1:1 <= xs.length) (h2:xs.length <= 1000) (hx:∀ k,k < xs.length -> full.getD (o+k) dI=xs.getD k dI) (hk:TkOk S2 j xs ⟨W n,[],0⟩) (hW:W (n+1)=(nl (tq S2 j xs) ⟨W n,[],0⟩).cs) (hml:(W (n+1)).length <= 1000000):Sp Tryz.prog 24 #[vP rp 0,vS b (o * 3) xs.length c] (ap [] [G0]) F (λ u H'=>∃ x,H'=ap [] [x] /\ (u=vI 0 /\ RecH rs_ ds_ bp ev rp S S2 W (n+1) (pre++[xs]) x)):=by
 rw [bC]
 cases h with
 | mk h3 hs hg hcs hb hr hrl hrr hc hcl hck =>
  rename_i gb mb rc cc S3 M rA cA rl cl Tg Ts Tr Trr Tc Tcc
  have e:M.cs=(⟨W n,[],0⟩:MemS).cs:=hcs
  have key:=GJ S S2 S3 rs_ ds_ bp gb mb rp ev n rc cc b o N c rA cA j full xs rl pre cl W M Tg Ts Tr Trr Tc Tcc F h3 hs hg hb hn hr hrl hrr hc hcl hck hev hj (by rw [rf e,ht];exact hA) hE hI hir h1 h2 hx (hk.cs e.symm) (by rw [hW];exact (qh _ e).symm) (by rw [qh _ e,<- hW];exact hml)
  exact key.tl
def Setup.std (S:Setup):Setup:={ S with bo:=0,bods:=ja S }
theorem uz (S:Setup):SetEq S S.std:=⟨⟨rfl,rfl,rfl,rfl,rfl,rfl,rfl,rfl,rfl,rfl,rfl,rfl⟩,λ k hk=>⟨(S.body k).sh.A,(S.body k).sh.cap,by
 show (ja S).getD (0+k) dB=_
 rw [Nat.zero_add,hO hk]
 rfl⟩,rfl,fB S⟩
def WS (S:Setup) (J:Nat -> Nat × Int) (xss:List (List Inp)) (i:Nat):List Int:=(C9 (rG S.std J xss) ⟨eo S S.nb,[],0⟩ i).cs
theorem SetEq.refl0 {S S2:Setup} (h:SetEq S S2) (J:Nat -> Nat × Int) (xss:List (List Inp)):∀ k,GEq (rG S.std J xss k) (rG S2 J xss k):=Nm (uz S) h J xss
section
variable {S S2:Setup} {J:Nat -> Nat × Int} {xss:List (List Inp)} {n:Nat}
theorem tC (hV:SetV S) (he:SetEq S S2) (hn:n <= 50) (hrow:∀ i,i < n -> iK S.players (xss.getD i [])) {i:Nat} (hi:i <= n):TE2 S2 (i:Int) ⟨WS S J xss i,[],0⟩:=by
 have h:=Gv (he.setV hV) (Gx hV he) (xss:=xss) J n hn (λ i hi=>by rw [he.pl];exact hrow i hi) i hi
 exact TE2.cs (show (C9 (rG S2 J xss) _ i).cs=(⟨WS S J xss i,[],0⟩:MemS).cs by rw [<- yY (he.refl0 J xss)];rfl) h
theorem GL (hV:SetV S) (he:SetEq S S2) (hn:n <= 50) (hrow:∀ i,i < n -> iK S.players (xss.getD i [])) {i:Nat} (hi:i < n):TkOk S2 (J i) (xss.getD i []) ⟨WS S J xss i,[],0⟩:=by
 have h:=Nn (he.setV hV) (Gx hV he) (xss:=xss) J n hn (λ i hi=>by rw [he.pl];exact hrow i hi) i hi
 exact TkOk.cs (show (C9 (rG S2 J xss) _ i).cs=(⟨WS S J xss i,[],0⟩:MemS).cs by rw [<- yY (he.refl0 J xss)];rfl) h
theorem uA (he:SetEq S S2) (i:Nat):WS S J xss (i+1)=(nl (tq S2 (J i) (xss.getD i [])) ⟨WS S J xss i,[],0⟩).cs:=by
 unfold WS
 rw [C9,Ey (he.refl0 J xss i)]
 exact qh _ rfl
theorem uB (hV:SetV S) (he:SetEq S S2) (hn:n <= 50) (hrow:∀ i,i < n -> iK S.players (xss.getD i [])) {i:Nat} (hi:i <= n):((WS S J xss i).length:Int)=sizeOf S:=by
 have h:=(tC (J:=J) hV he hn hrow hi).len
 rw [he.size] at h
 exact h
theorem lF {α:Type} {l:List α} {i:Nat} (h:i < l.length) (d:α):l.take (i+1)=l.take i++[l.getD i d]:=by
 rw [List.take_add_one,List.getElem?_eq_getElem h,List.getD_eq_getElem?_getD,List.getElem?_eq_getElem h]
 rfl
end
theorem GM (S:Setup) (rs:List Bx) (ds:List Dr) (bp ev:Nat) (W:Nat -> List Int) (F:HL) (hS:SetCl F S) (hM:MapIn F S rs ds) (h1:1 <= S.nb) (hrn:S.rn <= 1000000) (hdn:S.dn <= 1000000) (hsz:(sizeOf S).toNat <= 1000000) (hv:gU S rs ds=0) (hev:1 <= ev /\ ev <= 60) (hW:W 0=eo S S.nb):Sp Tryz.prog 21 #[(Setup.v S),vP bp 0,vI (ev:Int)] [] F (λ u H'=>∃ x:Nat × Setup × HL,H'=ap [] [x.2.2] /\ (u=.tuple #[vP x.1 0,vI 0] /\ SetEq S x.2.1 /\ RecH rs ds bp ev x.1 S x.2.1 W 0 [] x.2.2)):=by
 have hil_:=gw S S.nb
 refine Sp.run Tryz.func21 rfl mn (A:=[]) (Ts:=[]) rfl λ w0=>?_
 refine ae 11 (ow 0 16) λ n1=>RN.ct (Hp:=[]) (Tp:=[]) [] [] (qA S rs ds bp _ hS.up hM.up h1 hrn hdn hsz hv 99020000 (by decide)) ?_
 rintro _ ⟨g2,S3,T4⟩ ⟨rfl,he5,hG6⟩
 dsimp only at he5 hG6
 obtain ⟨mb_,hx_⟩:=hG6.x
 refine ae 23 [] λ _=>RN.em ((ev:Int) < 1) 22 (λ h7=>?_) λ h7=>?_
 ·(exfalso;omega)
 ·refine ae 5 [] λ _=>RN.em ((ev:Int) > 60) 25 (λ h8=>?_) λ h8=>?_
  ·(exfalso;omega)
  ·refine ae 6 (ow 0 16) λ _=>RN.ct (Hp:=[]) (Tp:=[]) [] [] (zf S rs ds _ hS.up hM.up h1 hrn hdn) ?_
   rintro _ ⟨S9,U10⟩ ⟨rfl,he11,hU12⟩
   dsimp only at he11 hU12
   refine ae 11 [] λ n13=>RN.nt<|RN.ct [0] [0] (rj S3 S9 rs ds bp g2 mb_ (n13+0) ev 0 0 0 99020000 none none [] (⟨eo S S.nb,[],0⟩:MemS) T4 [] _ hx_ (aA 1) (SlIs.nil _ _) (by decide) (by show (eo S S.nb).length <= _;omega)) ?_
   rintro _ ⟨⟨q14,A15,c16⟩,T17⟩ ⟨rfl,hc18⟩
   dsimp only at hc18
   refine tp 1<|RN.nt<|RN.nt<|ae 9 [] λ _=>RN.ret [] [0] [5,4,0,1,3,2] (v:=.tuple #[vP (n13+0) 0,vI 0]) (H':=(ap [((n13+0),.lit (Setup.l S9++[vP bp 0,vI (ev:Int),vP g2 0,.slice none 0 0,.slice A15 1 c16]) 86 (0,0))] [T4,U10,([]:HL),(List.nil:HL),T17,[(q14,.rows 1 ((⟨eo S S.nb,[],0⟩:MemS).cs.length) (aK (⟨eo S S.nb,[],0⟩:MemS).cs) 3 (0,0))]])) ?_
   have hck_:=(CksT.nil (λ k=>W (k * ev))).snoc (q:=q14) (cs:=eo S S.nb) (by show W (([]:List Ck).length * ev)=_;rw [List.length_nil,Nat.zero_mul];exact hW)
   exact ⟨((n13+0),S3,ap [((n13+0),.lit (Setup.l S9++[vP bp 0,vI (ev:Int),vP g2 0,.slice none 0 0,.slice A15 1 c16]) 86 (0,0))] [T4,U10,[],[],T17,[]++[(q14,.rows 1 ((⟨eo S S.nb,[],0⟩:MemS).cs.length) (aK (⟨eo S S.nb,[],0⟩:MemS).cs) 3 (0,0))]]),by simp [ap],rfl,he5,RecH.mk (rp:=(n13+0)) (rl:=[]) he11 hU12 hx_ hW.symm ⟨Int.le_refl 0,Int.le_refl 0⟩ (SlIs.nil _ _) rfl RwsT.nil hc18 (by rw [Nat.zero_div];rfl) hck_⟩
theorem GN (S:Setup) (rs:List Bx) (ds:List Dr) (bp ev:Nat) (W:Nat -> List Int) (F:HL) (hS:SetCl F S) (hM:MapIn F S rs ds) (h1:1 <= S.nb) (hrn:S.rn <= 1000000) (hdn:S.dn <= 1000000) (hsz:(sizeOf S).toNat <= 1000000) (hv:gU S rs ds=0) (hev:1 <= ev /\ ev <= 60) (hW:W 0=eo S S.nb):Sp Tryz.prog 21 #[Setup.v S,vP bp 0,vI (ev:Int)] (ap [] []) F (λ u H'=>∃ x:Nat × Setup × HL,H'=ap [] [x.2.2] /\ (u=.tuple #[vP x.1 0,vI 0] /\ SetEq S x.2.1 /\ RecH rs ds bp ev x.1 S x.2.1 W 0 [] x.2.2)):=GM S rs ds bp ev W F hS hM h1 hrn hdn hsz hv hev hW
theorem GO (S:Setup) (rs_:List Bx) (ds_:List Dr) (bp ev n cap:Nat) (J:Nat -> Nat × Int) (A:Option Addr) (rs:List Rw) (xss:List (List Inp)) (F:HL) (hS:SetCl F S) (hM:MapIn F S rs_ ds_) (hV:SetV S) (h1:1 <= S.nb) (hrn:S.rn <= 1000000) (hdn:S.dn <= 1000000) (hsz:(sizeOf S).toNat <= 1000000) (hv:gU S rs_ ds_=0) (hev:1 <= ev /\ ev <= 60) (hE:dh F) (hr:RowL mJ 54 F A n rs) (hw:RwsIn F rs xss) (hn50:n <= 50) (hrow:∀ i,i < n -> iK S.players (xss.getD i [])) (hAt:∀ i,i < n -> (J i).1 < 5 /\ AtOk F bp (i:Int) (J i)):Sp Tryz.prog 11 #[(Setup.v S),vP bp 0,vI (ev:Int),.slice A n cap] [] F (λ u H'=>∃ x:Nat × Setup × HL,H'=ap [] [x.2.2] /\ (u=vP x.1 0 /\ SetEq S x.2.1 /\ RecH rs_ ds_ bp ev x.1 S x.2.1 (WS S J xss) n xss x.2.2)):=by
 have hsp_:=hV.pl
 refine Sp.run Tryz.func11 rfl mn (A:=[]) (Ts:=[]) rfl λ w0=>?_
 refine ae 21 (ow 0 16) λ n1=>RN.ct (Hp:=[]) (Tp:=[]) [] [] (GN S rs_ ds_ bp ev (WS S J xss) _ hS.up hM.up h1 hrn hdn hsz hv hev rfl) ?_
 rintro _ ⟨r2,S3,T4⟩ ⟨rfl,he5,hr6⟩
 dsimp only at he5 hr6
 refine ae 28 [] λ _=>RN.loop (σ:=Nat × HL) (λ ⟨i_,T_⟩=>⟨[(3,.slice A n cap),(9,vP r2 0),(11,vI (i_:Int))],[((n1+0),.lit (Setup.l S) 31 (0,0))],[T_],i_ <= n /\ RecH rs_ ds_ bp ev r2 S S3 (WS S J xss) i_ (xss.take i_) T_,n - i_⟩) (0,T4) [0] [0] (⟨Nat.zero_le _,hr6⟩) ?_
 rintro ⟨i_,T_⟩ ⟨hi_,hr_⟩ mt8
 refine ae 9 [] λ _=>RN.em ((i_:Int) < (n:Int)) 30 (λ h9=>?_) λ h9=>?_
 ·refine ae 10 [] λ _=>?_
  obtain ⟨qx10,ox10,Nx10,fx10,fzx10,hAx10,hqx10,hox10,hgx10⟩:=hr.at (k:=i_) (by omega)
  refine aJ 34 (congrArg (λ v_=>(.slice v_ n cap:Value)) hAx10)<|RN.ro (λ _=>(mc hqx10 mn))<|ai 2 [.ix i_,.rorow 0 (ox10+i_) 0] [(ox10 * 1+i_ * 1)=(ox10+i_) * 1+0 /\ (ox10+i_) < Nx10,(i_:Int)=((i_:Nat):Int) /\ i_ < n] λ _=>aJ 37 (congrArg (λ v_=>(.slice v_.A v_.n v_.c:Value)) hgx10) ?_
  obtain ⟨bw11,ow11,Nw11,fw11,cw11,ew11,hIw11,hiw11,hxw11,hcw11⟩:=hw.get (k:=i_) (by rw [hr.len];omega)
  refine aJ 37 (congrArg (λ v_:Rw=>Value.slice v_.A v_.n v_.c) ew11)<|RN.ct [] [0] (GK (c:=cw11) (j:=J i_) hr_ (by omega) hev (hAt i_ (by omega)).1 (i_:Int) (tC hV he5 hn50 hrow (by omega)).t0 ((hAt i_ (by omega)).2.mono λ x hx=>aw hx) (aw hE) (aw hIw11) hiw11 (by have:=(hrow i_ (by omega)).1;have:=hV.pl;omega) (by have:=(hrow i_ (by omega)).1;have:=hV.pl;omega) hxw11 (GL hV he5 hn50 hrow (by omega)) (uA he5 i_) (by have:=uB (J:=J) hV he5 hn50 hrow (i:=i_+1) (by omega);omega)) ?_
  rintro _ T12 ⟨rfl,hr13⟩
  refine ai 12 [.gen,.nw] [bd ((i_:Int)+1)] λ _=>?_
  refine mt8 (i_+1,T12) [0] [0] ?_
  try dsimp only
  exact ⟨⟨by omega,by rw [lF (by rw [<- hw.len,hr.len];omega) []];exact hr13⟩,by omega⟩
 ·refine ae 12 [] λ _=>RN.ret [] [] [0] (v:=vP r2 0) (H':=(ap [] [T_])) ?_
  obtain rfl:i_=n:=by omega
  exact ⟨(r2,S3,T_),rfl,rfl,he5,by rw [List.take_of_length_le (by rw [<- hw.len,hr.len];exact Nat.le_refl _)] at hr_;exact hr_⟩
theorem xh (S:Setup) (rs_:List Bx) (ds_:List Dr) (bp ev n cap:Nat) (J:Nat -> Nat × Int) (A:Option Addr) (rs:List Rw) (xss:List (List Inp)) (F:HL) (hS:SetCl F S) (hM:MapIn F S rs_ ds_) (hV:SetV S) (h1:1 <= S.nb) (hrn:S.rn <= 1000000) (hdn:S.dn <= 1000000) (hsz:(sizeOf S).toNat <= 1000000) (hv:gU S rs_ ds_=0) (hev:1 <= ev /\ ev <= 60) (hE:dh F) (hr:RowL mJ 54 F A n rs) (hw:RwsIn F rs xss) (hn50:n <= 50) (hrow:∀ i,i < n -> iK S.players (xss.getD i [])) (hAt:∀ i,i < n -> (J i).1 < 5 /\ AtOk F bp (i:Int) (J i)):Sp Tryz.prog 11 #[Setup.v S,vP bp 0,vI (ev:Int),.slice A n cap] (ap [] []) F (λ u H'=>∃ x:Nat × Setup × HL,H'=ap [] [x.2.2] /\ (u=vP x.1 0 /\ SetEq S x.2.1 /\ RecH rs_ ds_ bp ev x.1 S x.2.1 (WS S J xss) n xss x.2.2)):=GO S rs_ ds_ bp ev n cap J A rs xss F hS hM hV h1 hrn hdn hsz hv hev hE hr hw hn50 hrow hAt
end Go.Proofs.YtgdcbiiopbpgaaaGreatDoor
