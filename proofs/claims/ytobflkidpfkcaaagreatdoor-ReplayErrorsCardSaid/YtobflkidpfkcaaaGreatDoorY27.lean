import Derived.Test.YtobflkidpfkcaaaGreatDoorY26
import Derived.Test.YtobflkidpfkcaaaGreatDoorY05
import Derived.Test.YtobflkidpfkcaaaGreatDoorY15
set_option maxHeartbeats 4000000
set_option maxRecDepth 100000
set_option linter.unusedSimpArgs false
set_option linter.unusedVariables false
namespace Go.Proofs.YtobflkidpfkcaaaGreatDoor
open Go.RowKit
def J2 (tk:Int) (j1 j2 i:Nat):Nat × Int:=if tk > (i:Int) then (j1,0) else (j2,1)
theorem AZ {tk:Int} {j1 j2 bp:Nat} {TB F:HL} (hB:Book2 tk j1 j2 bp TB) (hT:∀ x ∈ TB,x ∈ F) (hj1:j1 < 5) (hj2:j2 < 5) {t:Nat} {v:Int} (e:v=(t:Int)):(J2 tk j1 j2 t).1 < 5 /\ AtOk F bp v (J2 tk j1 j2 t):=by
 subst e
 refine ⟨?_,hB.at hT hj1 hj2 _ (by omega)⟩
 unfold J2
 split
 ·exact hj1
 ·exact hj2
theorem TE2.cs {S:Setup} {t:Int} {M N:MemS} (h:M.cs=N.cs) (hT:TE2 S t M):TE2 S t N:=by
 have hg:∀ k,N.get k=M.get k:=λ k=>by unfold MemS.get;rw [h]
 exact ⟨by rw [<- h];exact hT.len,λ k h1 h2=>by rw [hg];exact hT.z k h1 h2,by rw [hg];exact hT.t0⟩
abbrev L9 (tk:Int) (j1 j2 t:Nat):Nat -> Nat × Int:=λ i=>J2 tk j1 j2 (t+i)
section
variable {tk:Int} {S S1 S2:Setup} {rs_:List Bx} {ds_:List Dr} {bp gb n cap k t j1 j2:Nat} {A:Option Addr} {rs:List Rw} {xss:List (List Inp)} {M R:MemS} {G0 F TB:HL}
end
theorem Sp.fr {P:Program} {f:FuncId} {args:Array Value} {H H2 X F:HL} {R R2:Value -> HL -> Prop} (hp:H2.Perm (H++X)) (h:Sp P f args H (X++F) R) (hr:∀ u Y,R u Y -> ∃ H',R2 u H' /\ H'.Perm (Y++X)):Sp P f args H2 F R2:=λ w hR =>
 (h w (by rw [<- List.append_assoc];exact hR.perm (hp.symm.append_right F))).mono λ e w' ⟨v,Y,h1,h2,h3,h4⟩=>by
  obtain ⟨H',h5,h6⟩:=hr v Y h2
  exact ⟨v,H',h1,h5,(by rw [<- List.append_assoc] at h3;exact h3.perm (h6.append_right F)),h4⟩
inductive GameX (rs:List Bx) (ds:List Dr) (bp gb mb:Nat) (S:Setup) (M:MemS) (k:Nat):HL -> Prop
 | mk (T U:HL) (hM:MemH mb M k T) (hU:qA S rs ds U):GameX rs ds bp gb mb S M k (ap [(gb,.lit (dp S bp mb) 118 (0,0))] [T,U])
section
variable {rs:List Bx} {ds:List Dr} {bp gb mb:Nat} {S:Setup} {M:MemS} {k:Nat} {G0:HL}
theorem GameH.x (h:GameH rs ds bp gb S M k G0):∃ mb,GameX rs ds bp gb mb S M k G0:=by
 cases h with
 | mk mb T U hM hU=>exact ⟨mb,.mk T U hM hU⟩
theorem GameX.h (h:GameX rs ds bp gb mb S M k G0):GameH rs ds bp gb S M k G0:=by
 cases h with
 | mk T U hM hU=>exact .mk mb T U hM hU
theorem GameX.weak (h:GameX rs ds bp gb mb S M k G0) {k':Nat} (hk:k' <= k):GameX rs ds bp gb mb S M k' G0:=by
 cases h with
 | mk T U hM hU=>exact .mk T U (hM.weak hk) hU
theorem GameX.mem (h:GameX rs ds bp gb mb S M k G0):∃ T,MemH mb M k T /\ ∀ x ∈ T,x ∈ G0:=by
 cases h with
 | mk T U hM hU=>exact ⟨T,hM,λ x hx=>by simp [ap,hx]⟩
theorem Ba (h:GameX rs ds bp gb mb S M k G0) {F:HL} (hF:∀ x ∈ G0,x ∈ F):Sp Tryz.prog 49 #[vP gb 0] [] F (λ u H'=>u=vP mb 0 /\ H'=[]):=by
 cases h with
 | mk T U hM hU=>exact E8 S bp gb mb F (hF _ (by simp [ap]))
theorem zc (h:GameX rs ds bp gb mb S M k G0) {F:HL} (hF:∀ x ∈ G0,x ∈ F):Sp Tryz.prog 50 #[vP mb 0] (ap [] []) F (λ u H'=>∃ q,H'=ap [(q,.rows 1 M.cs.length (aO M.cs) 3 (0,0))] [] /\ u=vS q 0 M.cs.length M.cs.length):=by
 obtain ⟨T,hM,hT⟩:=h.mem
 exact Cm mb M k T F hM λ x hx=>hF x (hT x hx)
end
theorem GQ {rs:List Bx} {ds:List Dr} {S:Setup} {bp gb mb b a c k:Nat} {j:Nat × Int} {xs:List Inp} {M:MemS} {G0 F:HL} (hG:GameX rs ds bp gb mb S M (k+20000) G0) (hj:j.1 < 5) (hA:AtOk F bp (M.get 0) j) (hE:dg F) (hI:InB F b a xs.length λ k=>xs.getD k dI) (hni:xs.length <= 1000000) (hk:TkOk S j xs M) :
  Sp Tryz.prog 60 #[vP gb 0,vS b a xs.length c] (ap [] [G0]) F (λ u H'=>∃ x:(Option Addr × Nat × Nat) × HL × HL,H'=ap [] [x.2.1,x.2.2] /\ (GameX rs ds bp gb mb S (nl (rF S j xs) M) k x.2.1 /\ SlIs vl 183 (N4 (rF S j xs) M) x.1.1 x.1.2.1 x.2.2 /\ u=.tuple #[.slice x.1.1 (N4 (rF S j xs) M).length x.1.2.1,vI ((x.1.2.2+1:Nat):Int),vI 0])):=by
 obtain ⟨m,hm,hg⟩:=hk.ex
 obtain ⟨e1,e2⟩:=J7 hm hg
 cases hG with
 | mk T U hM hU =>
  rw [bj]
  refine (Gl S rs ds bp gb mb b a xs.length c m k j xs M T U F hj hA hU hE hI hni (by omega) (hM.weak (by omega)) hk.now hg hk.ok).mono λ u H' h=>?_
  obtain ⟨x,rfl,h1,h2,h3⟩:=h
  rw [e1] at h1
  rw [e2] at h2 h3
  exact ⟨((x.2.1,x.2.2.1,m),ap [(gb,.lit (dp S bp mb) 118 (0,0))] [x.1,U],x.2.2.2),by simp [ap],.mk x.1 U h1 hU,h2,h3⟩
theorem LL {rs:List Bx} {ds:List Dr} {bp gb mb:Nat} {S:Setup} {M:MemS} {k:Nat} {G0:HL} (h:GameX rs ds bp gb mb S M k G0) {F:HL} (hF:∀ x ∈ G0,x ∈ F) (hb:0 <= M.base /\ M.base <= 1000000000):Sp Tryz.prog 62 #[vP mb 0] [] F (λ u H'=>u=vI (M.base+(M.lg.length:Int)) /\ H'=[]):=by
 obtain ⟨T,hM,hT⟩:=h.mem
 exact LC hM (λ x hx=>hF x (hT x hx)) hb
theorem NG {rs:List Bx} {ds:List Dr} {bp gb mb:Nat} {S:Setup} {M:MemS} {k:Nat} {G0:HL} (h:GameX rs ds bp gb mb S M k G0) (F:HL) {k2:Nat} (hk:k2 <= 100000000) (hb:0 <= M.base /\ M.base <= 1000000000):Sp Tryz.prog 61 #[vP mb 0,vI (M.base+(M.lg.length:Int))] (ap [] [G0]) F (λ u H'=>∃ x,H'=ap [] [x] /\ (u=vI 0 /\ GameX rs ds bp gb mb S ⟨M.cs,[],M.base+(M.lg.length:Int)⟩ k2 x)):=by
 cases h with
 | mk T U hM hU =>
  have h1:=Gs (k2:=k2) ([(gb,Blk.lit (dp S bp mb) 118 (0,0))]++(U++F)) hM hb hk
  refine Sp.fr (X:=[(gb,Blk.lit (dp S bp mb) 118 (0,0))]++U) ?_ (F:=F) (by rw [List.append_assoc];exact h1) ?_
  ·rw [bj,bj]
   show (([(gb,Blk.lit (dp S bp mb) 118 (0,0))]++[T,U].flatten)).Perm _
   simp only [List.flatten_cons,List.flatten_nil,List.append_nil]
   exact (List.perm_append_comm_assoc _ _ _)
  ·rintro u Y ⟨x,rfl,rfl,h4⟩
   refine ⟨ap [(gb,Blk.lit (dp S bp mb) 118 (0,0))] [x,U],⟨_,(bj _).symm,rfl,.mk x U h4 hU⟩,?_⟩
   rw [bj]
   show (([(gb,Blk.lit (dp S bp mb) 118 (0,0))]++[x,U].flatten)).Perm _
   simp only [List.flatten_cons,List.flatten_nil,List.append_nil]
   exact (List.perm_append_comm_assoc _ _ _)
structure Ck where (A:Option Addr) (n c:Nat) (r:Int)
def xd:Enc Ck:=⟨2,λ p k=>match k with | 0=>.slice p.A p.n p.c | _=>.int .u64 p.r,⟨none,0,0,0⟩⟩
noncomputable def NH:TypeInfo:=match Tryz.prog.info? 127 with | some i=>i | none=>⟨.bool,"",0,0,false,0,0,none,false,#[]⟩
noncomputable def NI:Value:=match NH.zero with | some z=>z | none=>.bool false
theorem NJ:EncOk xd Tryz.prog 127 NH NI where
 info:=by kernel_rfl
 zero:=by kernel_rfl
 size:=by kernel_rfl
 zsize:=by kernel_rfl
 zcell:=λ k hk=>by
  have h:∀ k < 2,NI.cells[k]?=some (xd.cell xd.dflt k):=by intro k hk;(iterate 2 (rcases k with _ | k;· kernel_rfl));omega
  exact h k hk
 one:=λ x k=>by unfold xd;dsimp only;split <;> rfl
 bytes:=Nat.le_of_ble_eq_true (by kernel_rfl)
def CksT (cl:List Ck) (css:Nat -> List Int) (T:HL):Prop:=∀ F:HL,(∀ x ∈ T,x ∈ F) -> ∀ k,k < cl.length -> ∃ q,cl.getD k xd.dflt=⟨some ⟨q,0,none⟩,(css k).length,(css k).length,iK (css k)⟩ /\ (q,.rows 1 (css k).length (aO (css k)) 3 (0,0)) ∈ F
theorem CksT.nil (css:Nat -> List Int):CksT [] css []:=λ F _ k hk=>absurd hk (Nat.not_lt_zero _)
theorem CksT.snoc {cl:List Ck} {css:Nat -> List Int} {T:HL} {q:Nat} {cs:List Int} (h:CksT cl css T) (e:css cl.length=cs):CksT (cl++[⟨some ⟨q,0,none⟩,cs.length,cs.length,iK cs⟩]) css (T++[(q,.rows 1 cs.length (aO cs) 3 (0,0))]):=λ F hF k hk=>by
 rw [hO]
 by_cases hk1:k < cl.length
 ·rw [if_pos hk1]
  exact h F (λ x hx=>hF x (List.mem_append_left _ hx)) k hk1
 ·have:k=cl.length:=by simp at hk;omega
  rw [if_neg hk1,if_pos this,this,e]
  exact ⟨q,rfl,hF _ (List.mem_append_right _ (List.mem_singleton.2 rfl))⟩
theorem RwsT.snocC {rs:List Rw} {xss:List (List Inp)} {T T1:HL} {xs:List Inp} {A:Option Addr} {c n:Nat} (h:RwsT rs xss T) (hs:ClS gC 76 xs A c T1) (h1:1 <= xs.length) (hn:n=xs.length):RwsT (rs++[⟨A,n,c⟩]) (xss++[xs]) (T++T1):=by
 obtain ⟨A0,hs⟩:=hs
 rcases hs with ⟨rfl,_⟩ | ⟨b,rfl,rfl,h3⟩
 ·simp at h1
 ·refine h.snoc (A:=some ⟨b,0,none⟩) (c:=c) (T1:=[(b,.rows 3 c (bn gC xs) 76 (0,0))]) (.inr ⟨b,0,xs++List.replicate (c - xs.length) gC.dflt,by simp,?_,by simp;omega,h3,by simp⟩) h1 hn
  rw [Nat.zero_add,jA];rfl
theorem GR {n ev:Nat} (h:(n+1) % ev=0):(n+1) / ev=n / ev+1:=by rw [Nat.succ_div,if_pos (Nat.dvd_of_mod_eq_zero h)]
theorem LM {n ev:Nat} (h:¬ (n+1) % ev=0):(n+1) / ev=n / ev:=by rw [Nat.succ_div,if_neg (λ e=>h (Nat.mod_eq_zero_of_dvd e))];rfl
theorem LN {n ev:Nat} (h:(n+1) % ev=0):(n / ev+1) * ev=n+1:=by
 rw [<- GR h,Nat.mul_comm]
 have:=Nat.div_add_mod (n+1) ev
 omega
theorem rh (S2 S3:Setup) (rs_:List Bx) (ds_:List Dr) (bp gb mb rp ev rn rc cc k:Nat) (rA cA:Option Addr) (cl:List Ck) (M:MemS) (G0 Hl F:HL) (hG:GameX rs_ ds_ bp gb mb S2 M k G0) (hF:∀ x ∈ G0,x ∈ F) (hs:SlIs xd 127 cl cA cc Hl) (hcl:cl.length <= 100000) (hml:M.cs.length <= 1000000):Sp Tryz.prog 22 #[vP rp 0] (ap [(rp,.lit (Setup.l S3++[vP bp 0,vI (ev:Int),vP gb 0,.slice rA rn rc,.slice cA cl.length cc]) 73 (0,0))] [Hl]) F (λ u H'=>∃ x:(Nat × Option Addr × Nat) × HL,H'=ap [(rp,.lit (Setup.l S3++[vP bp 0,vI (ev:Int),vP gb 0,.slice rA rn rc,.slice x.1.2.1 (cl.length+1) x.1.2.2]) 73 (0,0)),(x.1.1,.rows 1 M.cs.length (aO M.cs) 3 (0,0))] [x.2] /\ (u=.tuple #[] /\ SlIs xd 127 (cl++[⟨some ⟨x.1.1,0,none⟩,M.cs.length,M.cs.length,iK M.cs⟩]) x.1.2.1 x.1.2.2 x.2)):=by
 refine Sp.run Tryz.func22 rfl mn (A:=[(rp,.lit (Setup.l S3++[vP bp 0,vI (ev:Int),vP gb 0,.slice rA rn rc,.slice cA cl.length cc]) 73 (0,0))]) (Ts:=[Hl]) rfl λ w0=>?_
 refine ae 6 [.own 0] λ _=>aj (Ba hG (λ x hx=>aw (hF x hx)))<|RN.ct (Hp:=[]) (Tp:=[]) [] [] (zc hG (λ x hx=>aw (hF x hx))) ?_
 rintro _ q1 rfl
 refine ae 3 [] λ _=>RN.draw [10,13] []<|ag [] [0,1,5,6,2,3,4] [.own 1]<|au [] 7 (λ X_=>(C3 q1 M.cs.length M.cs _ (jf 0) (Nat.le_refl _) hml))<|ag [] [8] []<|RD.one 9 (RDO.ev [] [] λ n3=>?_)
 refine RD.one 10 (ld [] NJ cl [(⟨some ⟨q1,0,none⟩,M.cs.length,M.cs.length,iK M.cs⟩:Ck)] 0 0 rfl hs (by simp;omega) ?_)
 rintro A4 c5 T6 ⟨hs7,hz8⟩
 refine ag [] [11,12] []<|RD.one 13 (RDO.ev [] [.own 2] λ _=>?_)
 refine RD.fin<|RN.ret [] [2,1] [0] (v:=.tuple #[]) (H':=(ap [(rp,.lit (Setup.l S3++[vP bp 0,vI (ev:Int),vP gb 0,.slice rA rn rc,.slice A4 (cl.length+1) c5]) 73 (0,0)),(q1,.rows 1 M.cs.length (aO M.cs) 3 (0,0))] [T6])) ?_
 exact ⟨((q1,A4,c5),T6),rfl,rfl,hs7⟩
theorem oC {rs_:List Bx} {ds_:List Dr} {S2:Setup} {bp gb mb b a c:Nat} {j:Nat × Int} {xs:List Inp} {M:MemS} {G0 F:HL} (hG:GameX rs_ ds_ bp gb mb S2 M (99000000+20000) G0) (hb:0 <= M.base /\ M.base <= 900000000) (hj:j.1 < 5) (hA:AtOk F bp (M.get 0) j) (hE:dg F) (hI:InB F b a xs.length λ k=>xs.getD k dI) (hni:xs.length <= 1000000) (hk:TkOk S2 j xs M):Sp Tryz.prog 28 #[vP gb 0,vS b a xs.length c] (ap [] [G0]) F (λ u H'=>∃ x:MemS × HL,H'=ap [] [x.2] /\ (u=vI 0 /\ GameX rs_ ds_ bp gb mb S2 x.1 99020000 x.2 /\ x.1.cs=(nl (rF S2 j xs) M).cs /\ 0 <= x.1.base /\ x.1.base <= M.base+1000000)):=by
 refine Sp.run Tryz.func28 rfl mn (A:=[]) (Ts:=[G0]) rfl λ w0=>?_
 refine ae 9 [] λ _=>RN.ct [] [0] (GQ (c:=c) (k:=99000000) hG hj (hA.mono λ x hx=>aw hx) (aw hE) (hI.mono λ x hx=>aw hx) hni hk) ?_
 rintro _ ⟨⟨A1,c2,n3⟩,T4,E5⟩ ⟨hG6,hs7,rfl⟩
 dsimp only at hG6 hs7
 have hb2_:0 <= (nl (rF S2 j xs) M).base /\ (nl (rF S2 j xs) M).base <= 1000000000:=by rw [wZ];omega
 refine ae 22 [] λ _=>aj (Ba hG6 (av 0))<|ae 7 [] λ _=>aj (LL hG6 (av 0) hb2_)<|RN.ct [] [0] (NG (k2:=99020000) hG6 _ (by decide) hb2_) ?_
 rintro _ T8 ⟨rfl,hG9⟩
 refine ae 3 [] λ _=>RN.ret [] [] [0] (v:=vI 0) (H':=(ap [] [T8])) ?_
 obtain ⟨_,hm_,_⟩:=hG6.mem
 have hl_:=hm_.len2
 have hbe_:=wZ (rF S2 j xs) M
 exact ⟨(⟨(nl (rF S2 j xs) M).cs,[],(nl (rF S2 j xs) M).base+((nl (rF S2 j xs) M).lg.length:Int)⟩,T8),rfl,rfl,hG9,rfl,by show 0 <= (nl (rF S2 j xs) M).base+_;omega,by show (nl (rF S2 j xs) M).base+_ <= _;omega⟩
theorem zd (S:Setup) (rs:List Bx) (ds:List Dr) (F:HL) (hS:SetCl F S) (hM:MapIn F S rs ds) (h1:1 <= S.nb) (hrn:S.rn <= 1000000) (hdn:S.dn <= 1000000):Sp Tryz.prog 21 #[Setup.v S] (ap [] []) F (λ u H'=>∃ x:Setup × HL,H'=ap [] [x.2] /\ (u=Setup.v x.1 /\ SetEq S x.1 /\ qA x.1 rs ds x.2)):=by
 have hp:=hS.pl
 have hn:=hS.nb
 have hr:=hS.room
 refine Sp.run Tryz.func21 rfl (mc hS.blk mn) (A:=[]) (Ts:=[]) rfl λ w0=>?_
 refine ae 10 [.own 1] λ n1=>RN.ct (Hp:=[]) (Tp:=[]) [] [] (kO (some ⟨S.bb,S.bo * 9,none⟩) S.nb S.bc (i9 S) _ (RowL.src tQ (by decide) (sH hS.toSh).up) (by omega)) ?_
 rintro _ ⟨A2,c3,T4⟩ ⟨rfl,hc5⟩
 dsimp only at hc5
 refine ae 7 [.own 1] λ _=>?_
 obtain ⟨bb,rfl,rfl,hcap0⟩:=hc5.open (by rw [fA];omega)
 have hcap:S.nb <= c3:=by rw [fA] at hcap0;exact hcap0
 refine zI 0 (x:=(bb,.rows 9 c3 (iw (i9 S)) 62 (0,0)))<|ae 7 [.own 2] λ _=>RN.nt<|RN.loop (σ:=Nat × List Bod × HL) (λ ⟨i,bods,U_⟩=>⟨[(1,vP (n1+0) 0),(2,vP (n1+1) 0),(10,vI (S.nb:Int)),(11,vI (i:Int))],[(bb,.rows 9 c3 (iw bods) 62 (0,0)),((n1+1),.lit [vI 0,.slice none 0 0,vI 0,vI 0,vI 0,vI 0,.slice none 0 0,.slice none 0 0,vI 0,vI 0,vI 0,vI 0,vI 0,vI 0,vI 0,vI 0] 32 (0,0)),((n1+0),.lit [vI S.players,vS bb 0 S.nb c3,vI S.box.x0,vI S.box.y0,vI S.box.x1,vI S.box.y1,.slice S.rA S.rn S.rc,.slice S.dA S.dn S.dc,vI S.fog,vI S.g.x,vI S.g.y,vI S.push,vI S.drag,vI S.rest,vI S.rounds,vI S.fuel] 32 (0,0))],[U_],i <= S.nb /\ bods.length=S.nb /\ (∀ k,k < S.nb -> ∃ A c,bods.getD k dB=(S.body k).at A c) /\ (∀ k,k < i -> ShH (bods.getD k dB).sh U_) /\ ∀ k,i <= k -> k < S.nb -> bods.getD k dB=S.body k,S.nb - i⟩) (0,i9 S,[]) [0,1,2] [0] (⟨Nat.zero_le _,fA S,λ k hk=>⟨_,_,g9 hk⟩,λ k hk=>absurd hk (Nat.not_lt_zero _),λ k _ hk=>g9 hk⟩) ?_
 rintro ⟨i,bods,U_⟩ ⟨hil,hbl_,hsame,hsh_,hfar⟩ mt7
 refine ae 6 [] λ _=>RN.em ((i:Int) < (S.nb:Int)) 12 (λ h8=>?_) λ h8=>?_
 ·refine ae 7 [] λ _=>?_
  have hsi_:(RowL kM 30 F (bods.getD i dB).sh.A (bods.getD i dB).sh.poly.length (bods.getD i dB).sh.poly /\ (bods.getD i dB).sh.poly.length <= 1000000) /\ ((bods.getD i dB).sh.poly=[] \/ 3 <= (bods.getD i dB).sh.poly.length):=by rw [hfar i (Nat.le_refl _) (by omega)];exact hS.shp i (by omega)
  have hrl_:=hsi_.1.1
  have hpl_:(bods.getD i dB).sh.poly.length <= 100000000:=by have:=hsi_.1.2;omega
  refine ae 4 [] λ _=>RN.draw [14] []<|aJ [] [0,2,3,5,1,4,6,7,8,9] [.own 2,.own 2,.ix i,.row 0 i 1] [((0+i * 9)+1)=i * 9+1 /\ i < c3,(i:Int)=((i:Nat):Int) /\ i < S.nb]<|RD.one 10 (RDO.ct [] (Hp:=[]) (Tp:=[]) [] [] (lR ((bods.getD i dB).sh.A) ((bods.getD i dB).sh.poly.length) ((bods.getD i dB).sh.cap) ((bods.getD i dB).sh.poly) _ (RowL.src yq (by decide) hrl_.up) hpl_) ?_)
  rintro _ ⟨A9,c10,T11⟩ ⟨rfl,hc12⟩
  dsimp only at hc12
  refine aJ [] [11,12,13] [.ix i] [(i:Int)=((i:Nat):Int) /\ i < S.nb]<|RD.one 14 (d9 [] [.row 0 i 1] [((0+i * 9)+1)=i * 9+1 /\ i < c3] λ _=>?_)
  refine RD.fin<|ai 6 [.nw] [bg ((i:Int)+1)] λ _=>cS 0 (congrArg (λ v_=>(.rows 9 c3 v_ 62 (0,0):Blk)) (show (dT (iw bods) i 1 (.slice A9 ((bods.getD i dB).sh.poly.length) c10))=(iw (bods.set i ((bods.getD i dB).at A9 c10))) from (z8 (by omega) A9 c10)))<|mZ [1,0]<|oP ?_
  refine mt7 (i+1,(bods.set i ((bods.getD i dB).at A9 c10)),U_++T11) [0,1,2] [0] ?_
  try dsimp only
  refine ⟨⟨by omega,by rw [List.length_set];exact hbl_,λ t ht=>?_,λ t ht=>?_,λ t h1_ h2_=>?_⟩,by omega⟩
  ·rcases Decidable.em (i=t) with rfl | h_
   ·rw [dN (by omega),hfar i (Nat.le_refl _) ht];exact ⟨_,_,rfl⟩
   ·rw [db h_];exact hsame t ht
  ·rcases Decidable.em (i=t) with rfl | h_
   ·rw [dN (by omega)];exact ShH.right (sI hsi_.2 hsi_.1.2 hc12)
   ·rw [db h_];exact (hsh_ t (by omega)).left
  ·rw [db (by omega)];exact hfar t (by omega) h2_
 ·refine ae 10 [.own 2] λ _=>RN.ct (Hp:=[]) (Tp:=[]) [] [] (lS S.rA S.rn S.rc rs _ (RowL.src EV (by decide) hM.rooms.up) (by omega)) ?_
  rintro _ ⟨A13,c14,T15⟩ ⟨rfl,hc16⟩
  dsimp only at hc16
  refine ae 8 [.own 2,.own 2] λ _=>RN.ct (Hp:=[]) (Tp:=[]) [] [] (kP S.dA S.dn S.dc ds _ (RowL.src EW (by decide) hM.doors.up) (by omega)) ?_
  rintro _ ⟨A17,c18,T19⟩ ⟨rfl,hc20⟩
  dsimp only at hc20
  refine ae 10 (ow 2 17++ow 1 16) λ _=>RN.ret (ow 1 16) [0] [0,1,2] (v:=.agg #[vI S.players,vS bb 0 S.nb c3,vI S.box.x0,vI S.box.y0,vI S.box.x1,vI S.box.y1,.slice A13 S.rn c14,.slice A17 S.dn c18,vI S.fog,vI S.g.x,vI S.g.y,vI S.push,vI S.drag,vI S.rest,vI S.rounds,vI S.fuel]) (H':=(ap [(bb,.rows 9 c3 (iw bods) 62 (0,0))] [T19,T15,U_])) ?_
  have ei:i=S.nb:=by omega
  subst ei
  have hbod:∀ k,bods.getD (0+k) dB=bods.getD k dB:=λ k=>by rw [Nat.zero_add]
  refine ⟨((⟨S.players,bb,0,S.nb,c3,c3,bods,S.box,A13,S.rn,c14,A17,S.dn,c18,S.fog,S.g,S.push,S.drag,S.rest,S.rounds,S.fuel⟩:Setup),[(bb,.rows 9 c3 (iw bods) 62 (0,0))]++(T19++T15++U_)),(by simp [ap]),rfl,⟨⟨rfl,rfl,rfl,rfl,rfl,rfl,rfl,rfl,rfl,rfl,rfl,rfl⟩,λ k hk=>?_,rfl,hbl_⟩,λ F2 hF=>⟨⟨⟨hp,by omega⟩,hF _ (by simp),(by show 0+S.nb <= c3;omega),λ k hk=>?_⟩,?_,?_⟩⟩
  ·obtain ⟨A,c,h⟩:=hsame k hk;exact ⟨A,c,by show bods.getD (0+k) dB=_;rw [hbod];exact h⟩
  ·show ShIn F2 (bods.getD (0+k) dB).sh;rw [hbod];exact hsh_ k hk F2 λ x hx=>hF x (by simp [hx])
  ·have h_:=hc16.rowL (F:=F2) λ x hx=>hF x (by simp [hx]);rw [hM.rooms.len] at h_;exact h_
  ·have h_:=hc20.rowL (F:=F2) λ x hx=>hF x (by simp [hx]);rw [hM.doors.len] at h_;exact h_
theorem LO {F:HL} {b a:Nat} {xs:List Inp} (h:InB F b a xs.length λ k=>xs.getD k dI):SrcIn Tryz.prog gC F (some ⟨b,a,none⟩) xs.length xs:=by
 refine ⟨⟨rfl,λ h=>by cases h⟩,λ c hk X w hR=>Src.ofSlice w hk _ _ _ _ (by rw [aS]) ?_ ?_⟩
 ·intro j u hj
  have hjl:j < xs.length * 3:=by have:=(List.getElem?_eq_some_iff.1 hj).1;rw [aS] at this;exact this
  rw [jV xs (by decide) hjl] at hj
  have hd:j / 3 < xs.length:=by omega
  have h1:=h w (λ x hx=>hR.holds x (List.mem_append_right X hx)) (j / 3) hd (j % 3) u (by
   have h3:j % 3 < 3:=Nat.mod_lt _ (by decide)
   rw [<- hj]
   show _=some (gC.cell (xs.getD (j / 3) dI) (j % 3))
   generalize j % 3=m at h3
   rcases m with _ | _ | _ | m
   ·rfl
   ·rfl
   ·rfl
   ·omega)
  rw [Addr.add_lit]
  rw [show a+j=a+j / 3 * 3+j % 3 by omega]
  exact h1
 ·intro u hu
  simp only [ay,List.mem_flatMap,List.mem_map] at hu
  obtain ⟨x,_,k,_,rfl⟩:=hu
  exact p6.one x k
inductive RecH (rs_:List Bx) (ds_:List Dr) (bp ev rp:Nat) (S S2:Setup) (W:Nat -> List Int) (n:Nat) (pre:List (List Inp)):HL -> Prop
 | mk {gb mb rc cc:Nat} {S3:Setup} {M:MemS} {rA cA:Option Addr} {rl:List Rw} {cl:List Ck} {Tg Ts Tr Trr Tc Tcc:HL} (h3:SetEq S S3) (hs:qA S3 rs_ ds_ Ts) (hg:GameX rs_ ds_ bp gb mb S2 M 99020000 Tg) (hcs:M.cs=W n) (hb:0 <= M.base /\ M.base <= 1000000 * (n:Int)) (hr:SlIs oz 23 rl rA rc Tr) (hrl:rl.length=n) (hrr:RwsT rl pre Trr) (hc:SlIs xd 127 cl cA cc Tc) (hcl:cl.length=n / ev+1) (hck:CksT cl (λ k=>W (k * ev)) Tcc) :
  RecH rs_ ds_ bp ev rp S S2 W n pre (ap [(rp,.lit (Setup.l S3++[vP bp 0,vI (ev:Int),vP gb 0,.slice rA n rc,.slice cA cl.length cc]) 73 (0,0))] [Tg,Ts,Tr,Trr,Tc,Tcc])
theorem GS (S S2 S3:Setup) (rs_:List Bx) (ds_:List Dr) (bp gb mb rp ev n rc cc b a c:Nat) (rA cA:Option Addr) (j:Nat × Int) (xs:List Inp) (rl:List Rw) (pre:List (List Inp)) (cl:List Ck) (W:Nat -> List Int) (M:MemS) (G0 Ts Tr Trr Tc Tcc F:HL) (h3:SetEq S S3) (hs:qA S3 rs_ ds_ Ts) (hG:GameX rs_ ds_ bp gb mb S2 M 99020000 G0) (hb:0 <= M.base /\ M.base <= 1000000 * (n:Int)) (hn:n <= 800) (hr:SlIs oz 23 rl rA rc Tr) (hrl:rl.length=n) (hrr:RwsT rl pre Trr) (hc:SlIs xd 127 cl cA cc Tc) (hcl:cl.length=n / ev+1) (hck:CksT cl (λ k=>W (k * ev)) Tcc) (hev:1 <= ev /\ ev <= 60) (hj:j.1 < 5) (hA:AtOk F bp (M.get 0) j) (hE:dg F) (hI:InB F b a xs.length λ k=>xs.getD k dI) (h1:1 <= xs.length) (h2:xs.length <= 1000) (hk:TkOk S2 j xs M) (hW:W (n+1)=(nl (rF S2 j xs) M).cs) (hml:(nl (rF S2 j xs) M).cs.length <= 1000000):Sp Tryz.prog 12 #[vP rp 0,vS b a xs.length c] (ap [(rp,.lit (Setup.l S3++[vP bp 0,vI (ev:Int),vP gb 0,.slice rA n rc,.slice cA cl.length cc]) 73 (0,0))] [G0,Ts,Tr,Trr,Tc,Tcc]) F (λ u H'=>u=vI 0 /\ RecH rs_ ds_ bp ev rp S S2 W (n+1) (pre++[xs]) H'):=by
 have hd_:n / ev <= n:=Nat.div_le_self _ _
 refine Sp.run Tryz.func12 rfl mn (A:=[(rp,.lit (Setup.l S3++[vP bp 0,vI (ev:Int),vP gb 0,.slice rA n rc,.slice cA cl.length cc]) 73 (0,0))]) (Ts:=[G0,Ts,Tr,Trr,Tc,Tcc]) rfl λ w0=>?_
 refine ae 13 [.own 0] λ _=>RN.ct [] [0] (oC (c:=c) hG (by omega) hj (hA.mono λ x hx=>aw hx) (aw hE) (hI.mono λ x hx=>aw hx) (by omega) hk) ?_
 rintro _ ⟨M1,T2⟩ ⟨rfl,hG3,he4,hb5⟩
 dsimp only at hG3 he4 hb5
 refine ae 13 [] λ _=>RN.draw [8,11] []<|ag [] [0,1,5,2,3,4] [.own 0]<|RD.one 6 (RDO.ct [] (Hp:=[]) (Tp:=[]) [] [] (po (some ⟨b,a,none⟩) xs.length c xs _ (LO hI).up (by omega)) ?_)
 rintro _ ⟨A6,c7,T8⟩ ⟨rfl,hc9⟩
 dsimp only at hc9
 refine RD.one 7 (RDO.ev [] [] λ n10=>?_)
 refine RD.one 8 (ld [] Gn rl [(⟨A6,xs.length,c7⟩:Rw)] 3 0 hrl.symm hr (by simp;omega) ?_)
 rintro A11 c12 T13 ⟨hs14,hz15⟩
 refine ag [] [9,10] []<|RD.one 11 (RDO.ev [] [.own 1] λ _=>?_)
 refine RD.fin<|ae 3 [] λ _=>RN.draw [] []<|aJ [] [0,5,1,6,2,7,3,8,4,9,10] [.own 1,.own 1,.nw] [0 <= (((n+1):Nat):Int) /\ (0:Int) < (ev:Int) /\ (((n+1):Nat):Int) <= 9223372036854775807]<|RD.fin<|ae 1 [] λ _=>RN.em ((((n+1):Nat):Int) % (ev:Int)=0) 36 (λ h16=>?_) λ h16=>?_
 ·refine ae 3 [] λ _=>RN.ct [1] [5] (rh S2 S3 rs_ ds_ bp gb mb rp ev (n+1) c12 cc 99020000 A11 cA cl M1 T2 Tc _ hG3 (av 2) hc (by omega) (by rw [he4];exact hml)) ?_
  rintro _ ⟨⟨q17,A18,c19⟩,T20⟩ ⟨rfl,hc21⟩
  dsimp only at hc21
  refine si 1<|mZ [7,0,1,2,3,4,5,6]<|oP<|ae 7 [] λ _=>mZ [6,3,0,1,2,4,5]<|oP<|RN.ret [] [0] [4,5,3,0,2,1] (v:=vI 0) (H':=(ap [(rp,.lit (Setup.l S3++[vP bp 0,vI (ev:Int),vP gb 0,.slice A11 (n+1) c12,.slice A18 (cl.length+1) c19]) 73 (0,0))] [T2,Ts,T13,(Trr++T8),T20,(Tcc++[(q17,.rows 1 M1.cs.length (aO M1.cs) 3 (0,0))])])) ?_
  have hrr2_:=hrr.snocC hc9 h1 rfl
  have hm_:(n+1) % ev=0:=by have h_:=h16;omega
  have hck2_:=hck.snoc (q:=q17) (cs:=M1.cs) (by show W (cl.length * ev)=_;rw [hcl,LN hm_,hW,he4])
  have hcl2_:(cl++[(⟨some ⟨q17,0,none⟩,M1.cs.length,M1.cs.length,iK M1.cs⟩:Ck)]).length=(n+1) / ev+1:=by rw [List.length_append,hcl,GR hm_];rfl
  exact ⟨rfl,by have h_:=RecH.mk (rp:=rp) h3 hs hG3 (by rw [he4,hW]) ⟨hb5.1,by omega⟩ hs14 (by simp [hrl]) hrr2_ hc21 hcl2_ hck2_;rw [show ((cl++[(⟨some ⟨q17,0,none⟩,M1.cs.length,M1.cs.length,iK M1.cs⟩:Ck)])).length=cl.length+1 by simp] at h_;exact h_⟩
 ·refine ae 8 [] λ _=>mZ [4,1,0,2,3,5,6]<|oP<|RN.ret [] [1] [2,3,1,0,4,5] (v:=vI 0) (H':=(ap [(rp,.lit (Setup.l S3++[vP bp 0,vI (ev:Int),vP gb 0,.slice A11 (n+1) c12,.slice cA cl.length cc]) 73 (0,0))] [T2,Ts,T13,(Trr++T8),Tc,Tcc])) ?_
  have hrr2_:=hrr.snocC hc9 h1 rfl
  have hm_:¬ (n+1) % ev=0:=by have h_:=h16;omega
  exact ⟨rfl,RecH.mk (rp:=rp) h3 hs hG3 (by rw [he4,hW]) ⟨hb5.1,by omega⟩ hs14 (by simp [hrl]) hrr2_ hc (by rw [hcl,LM hm_]) hck⟩
theorem xe {rs_:List Bx} {ds_:List Dr} {bp ev rp n b a c:Nat} {S S2:Setup} {W:Nat -> List Int} {pre:List (List Inp)} {j:Nat × Int} {xs:List Inp} {G0 F:HL} (h:RecH rs_ ds_ bp ev rp S S2 W n pre G0) (hn:n <= 800) (hev:1 <= ev /\ ev <= 60) (hj:j.1 < 5) (t:Int) (ht:(⟨W n,[],0⟩:MemS).get 0=t) (hA:AtOk F bp t j) (hE:dg F) (hI:InB F b a xs.length λ k=>xs.getD k dI) (h1:1 <= xs.length) (h2:xs.length <= 1000) (hk:TkOk S2 j xs ⟨W n,[],0⟩) (hW:W (n+1)=(nl (rF S2 j xs) ⟨W n,[],0⟩).cs) (hml:(W (n+1)).length <= 1000000):Sp Tryz.prog 12 #[vP rp 0,vS b a xs.length c] (ap [] [G0]) F (λ u H'=>∃ x,H'=ap [] [x] /\ (u=vI 0 /\ RecH rs_ ds_ bp ev rp S S2 W (n+1) (pre++[xs]) x)):=by
 rw [bj]
 cases h with
 | mk h3 hs hg hcs hb hr hrl hrr hc hcl hck =>
  rename_i gb mb rc cc S3 M rA cA rl cl Tg Ts Tr Trr Tc Tcc
  have e:M.cs=(⟨W n,[],0⟩:MemS).cs:=hcs
  have key:=GS S S2 S3 rs_ ds_ bp gb mb rp ev n rc cc b a c rA cA j xs rl pre cl W M Tg Ts Tr Trr Tc Tcc F h3 hs hg hb hn hr hrl hrr hc hcl hck hev hj (by rw [oA e,ht];exact hA) hE hI h1 h2 (hk.cs e.symm) (by rw [hW];exact (qg _ e).symm) (by rw [qg _ e,<- hW];exact hml)
  exact key.tl
def Setup.std (S:Setup):Setup:={ S with bo:=0,bods:=i9 S }
theorem ze (S:Setup):SetEq S S.std:=⟨⟨rfl,rfl,rfl,rfl,rfl,rfl,rfl,rfl,rfl,rfl,rfl,rfl⟩,λ k hk=>⟨(S.body k).sh.A,(S.body k).sh.cap,by
 show (i9 S).getD (0+k) dB=_
 rw [Nat.zero_add,g9 hk]
 rfl⟩,rfl,fA S⟩
def WS (S:Setup) (J:Nat -> Nat × Int) (xss:List (List Inp)) (i:Nat):List Int:=(xB (rG S.std J xss) ⟨eA S S.nb,[],0⟩ i).cs
theorem SetEq.refl0 {S S2:Setup} (h:SetEq S S2) (J:Nat -> Nat × Int) (xss:List (List Inp)):∀ k,GEq (rG S.std J xss k) (rG S2 J xss k):=NC (ze S) h J xss
section
variable {S S2:Setup} {J:Nat -> Nat × Int} {xss:List (List Inp)} {n:Nat}
theorem o8 (hV:SetV S) (he:SetEq S S2) (hn:n <= 50) (hrow:∀ i,i < n -> fQ S.players (xss.getD i [])) {i:Nat} (hi:i <= n):TE2 S2 (i:Int) ⟨WS S J xss i,[],0⟩:=by
 have h:=GE (he.setV hV) (GH hV he) (xss:=xss) J n hn (λ i hi=>by rw [he.pl];exact hrow i hi) i hi
 exact TE2.cs (show (xB (rG S2 J xss) _ i).cs=(⟨WS S J xss i,[],0⟩:MemS).cs by rw [<- yY (he.refl0 J xss)];rfl) h
theorem Bb (hV:SetV S) (he:SetEq S S2) (hn:n <= 50) (hrow:∀ i,i < n -> fQ S.players (xss.getD i [])) {i:Nat} (hi:i < n):TkOk S2 (J i) (xss.getD i []) ⟨WS S J xss i,[],0⟩:=by
 have h:=ND (he.setV hV) (GH hV he) (xss:=xss) J n hn (λ i hi=>by rw [he.pl];exact hrow i hi) i hi
 exact TkOk.cs (show (xB (rG S2 J xss) _ i).cs=(⟨WS S J xss i,[],0⟩:MemS).cs by rw [<- yY (he.refl0 J xss)];rfl) h
theorem pQ (he:SetEq S S2) (i:Nat):WS S J xss (i+1)=(nl (rF S2 (J i) (xss.getD i [])) ⟨WS S J xss i,[],0⟩).cs:=by
 unfold WS
 rw [xB,EQ (he.refl0 J xss i)]
 exact qg _ rfl
theorem uv (hV:SetV S) (he:SetEq S S2) (hn:n <= 50) (hrow:∀ i,i < n -> fQ S.players (xss.getD i [])) {i:Nat} (hi:i <= n):((WS S J xss i).length:Int)=sizeOf S:=by
 have h:=(o8 (J:=J) hV he hn hrow hi).len
 rw [he.size] at h
 exact h
theorem lB {α:Type} {l:List α} {i:Nat} (h:i < l.length) (d:α):l.take (i+1)=l.take i++[l.getD i d]:=by
 rw [List.take_add_one,List.getElem?_eq_getElem h,List.getD_eq_getElem?_getD,List.getElem?_eq_getElem h]
 rfl
end
theorem Bc {G G':Nat -> Gm} {M:MemS}:∀ k,(∀ i,i < k -> G i=G' i) -> xB G M k=xB G' M k
 | 0,_=>rfl
 | k+1,h=>by rw [xB,xB,Bc k λ i hi=>h i (by omega),h k (by omega)]
theorem xf (S:Setup) (rs:List Bx) (ds:List Dr) (bp ev:Nat) (W:Nat -> List Int) (F:HL) (hS:SetCl F S) (hM:MapIn F S rs ds) (h1:1 <= S.nb) (hrn:S.rn <= 1000000) (hdn:S.dn <= 1000000) (hsz:(sizeOf S).toNat <= 1000000) (hv:fh S rs ds=0) (hev:1 <= ev /\ ev <= 60) (hW:W 0=eA S S.nb):Sp Tryz.prog 6 #[Setup.v S,vP bp 0,vI (ev:Int)] (ap [] []) F (λ u H'=>∃ x:Nat × Setup × HL,H'=ap [] [x.2.2] /\ (u=.tuple #[vP x.1 0,vI 0] /\ SetEq S x.2.1 /\ RecH rs ds bp ev x.1 S x.2.1 W 0 [] x.2.2)):=by
 have hil_:=gv S S.nb
 refine Sp.run Tryz.func6 rfl mn (A:=[]) (Ts:=[]) rfl λ w0=>?_
 refine ae 11 (ow 0 16) λ n1=>RN.ct (Hp:=[]) (Tp:=[]) [] [] (nq S rs ds bp _ hS.up hM.up h1 hrn hdn hsz hv 99020000 (by decide)) ?_
 rintro _ ⟨g2,S3,T4⟩ ⟨rfl,he5,hG6⟩
 dsimp only at he5 hG6
 obtain ⟨mb_,hx_⟩:=hG6.x
 refine ae 23 [] λ _=>RN.em ((ev:Int) < 1) 22 (λ h7=>?_) λ h7=>?_
 ·(exfalso;omega)
 ·refine ae 5 [] λ _=>RN.em ((ev:Int) > 60) 25 (λ h8=>?_) λ h8=>?_
  ·(exfalso;omega)
  ·refine ae 6 (ow 0 16) λ _=>RN.ct (Hp:=[]) (Tp:=[]) [] [] (zd S rs ds _ hS.up hM.up h1 hrn hdn) ?_
   rintro _ ⟨S9,U10⟩ ⟨rfl,he11,hU12⟩
   dsimp only at he11 hU12
   refine ae 11 [] λ n13=>RN.nt<|RN.ct [0] [0] (rh S3 S9 rs ds bp g2 mb_ (n13+0) ev 0 0 0 99020000 none none [] (⟨eA S S.nb,[],0⟩:MemS) T4 [] _ hx_ (av 1) (SlIs.nil _ _) (by decide) (by show (eA S S.nb).length <= _;omega)) ?_
   rintro _ ⟨⟨q14,A15,c16⟩,T17⟩ ⟨rfl,hc18⟩
   dsimp only at hc18
   refine si 1<|RN.nt<|RN.nt<|ae 9 [] λ _=>RN.ret [] [0] [5,4,0,1,3,2] (v:=.tuple #[vP (n13+0) 0,vI 0]) (H':=(ap [((n13+0),.lit (Setup.l S9++[vP bp 0,vI (ev:Int),vP g2 0,.slice none 0 0,.slice A15 1 c16]) 73 (0,0))] [T4,U10,([]:HL),(List.nil:HL),T17,[(q14,.rows 1 ((⟨eA S S.nb,[],0⟩:MemS).cs.length) (aO (⟨eA S S.nb,[],0⟩:MemS).cs) 3 (0,0))]])) ?_
   have hck_:=(CksT.nil (λ k=>W (k * ev))).snoc (q:=q14) (cs:=eA S S.nb) (by show W (([]:List Ck).length * ev)=_;rw [List.length_nil,Nat.zero_mul];exact hW)
   exact ⟨((n13+0),S3,ap [((n13+0),.lit (Setup.l S9++[vP bp 0,vI (ev:Int),vP g2 0,.slice none 0 0,.slice A15 1 c16]) 73 (0,0))] [T4,U10,[],[],T17,[]++[(q14,.rows 1 ((⟨eA S S.nb,[],0⟩:MemS).cs.length) (aO (⟨eA S S.nb,[],0⟩:MemS).cs) 3 (0,0))]]),by simp [ap],rfl,he5,RecH.mk (rp:=(n13+0)) (rl:=[]) he11 hU12 hx_ hW.symm ⟨Int.le_refl 0,Int.le_refl 0⟩ (SlIs.nil _ _) rfl RwsT.nil hc18 (by rw [Nat.zero_div];rfl) hck_⟩
theorem xg (S:Setup) (rs_:List Bx) (ds_:List Dr) (bp ev n cap:Nat) (J:Nat -> Nat × Int) (A:Option Addr) (rs:List Rw) (xss:List (List Inp)) (F:HL) (hS:SetCl F S) (hM:MapIn F S rs_ ds_) (hV:SetV S) (h1:1 <= S.nb) (hrn:S.rn <= 1000000) (hdn:S.dn <= 1000000) (hsz:(sizeOf S).toNat <= 1000000) (hv:fh S rs_ ds_=0) (hev:1 <= ev /\ ev <= 60) (hE:dg F) (hr:RowL oz 23 F A n rs) (hw:RwsIn F rs xss) (hn50:n <= 50) (hrow:∀ i,i < n -> fQ S.players (xss.getD i [])) (hAt:∀ i,i < n -> (J i).1 < 5 /\ AtOk F bp (i:Int) (J i)):Sp Tryz.prog 7 #[Setup.v S,vP bp 0,vI (ev:Int),.slice A n cap] (ap [] []) F (λ u H'=>∃ x:Nat × Setup × HL,H'=ap [] [x.2.2] /\ (u=vP x.1 0 /\ SetEq S x.2.1 /\ RecH rs_ ds_ bp ev x.1 S x.2.1 (WS S J xss) n xss x.2.2)):=by
 have hsp_:=hV.pl
 refine Sp.run Tryz.func7 rfl mn (A:=[]) (Ts:=[]) rfl λ w0=>?_
 refine ae 21 (ow 0 16) λ n1=>RN.ct (Hp:=[]) (Tp:=[]) [] [] (xf S rs_ ds_ bp ev (WS S J xss) _ hS.up hM.up h1 hrn hdn hsz hv hev rfl) ?_
 rintro _ ⟨r2,S3,T4⟩ ⟨rfl,he5,hr6⟩
 dsimp only at he5 hr6
 refine ae 28 [] λ _=>RN.loop (σ:=Nat × HL) (λ ⟨i_,T_⟩=>⟨[(3,.slice A n cap),(9,vP r2 0),(11,vI (i_:Int))],[((n1+0),.lit (Setup.l S) 32 (0,0))],[T_],i_ <= n /\ RecH rs_ ds_ bp ev r2 S S3 (WS S J xss) i_ (xss.take i_) T_,n - i_⟩) (0,T4) [0] [0] (⟨Nat.zero_le _,hr6⟩) ?_
 rintro ⟨i_,T_⟩ ⟨hi_,hr_⟩ mt8
 refine ae 9 [] λ _=>RN.em ((i_:Int) < (n:Int)) 30 (λ h9=>?_) λ h9=>?_
 ·refine ae 10 [] λ _=>?_
  obtain ⟨qx10,ox10,Nx10,fx10,fzx10,hAx10,hqx10,hox10,hgx10⟩:=hr.at (k:=i_) (by omega)
  refine aK 34 (congrArg (λ v_=>(.slice v_ n cap:Value)) hAx10)<|RN.ro (λ _=>(mc hqx10 mn))<|ai 2 [.ix i_,.rorow 0 (ox10+i_) 0] [(ox10 * 1+i_ * 1)=(ox10+i_) * 1+0 /\ (ox10+i_) < Nx10,(i_:Int)=((i_:Nat):Int) /\ i_ < n] λ _=>aK 37 (congrArg (λ v_=>(.slice v_.A v_.n v_.c:Value)) hgx10) ?_
  obtain ⟨bw11,ow11,Nw11,fw11,cw11,ew11,hIw11,hiw11,hxw11,hcw11⟩:=hw.get (k:=i_) (by rw [hr.len];omega)
  refine aK 37 (congrArg (λ v_:Rw=>Value.slice v_.A v_.n v_.c) ew11)<|RN.ct [] [0] (xe (c:=cw11) (j:=J i_) hr_ (by omega) hev (hAt i_ (by omega)).1 (i_:Int) (o8 hV he5 hn50 hrow (by omega)).t0 ((hAt i_ (by omega)).2.mono λ x hx=>aw hx) (aw hE) (InB.rows (aw hIw11) hiw11 hxw11) (by have:=(hrow i_ (by omega)).1;have:=hV.pl;omega) (by have:=(hrow i_ (by omega)).1;have:=hV.pl;omega) (Bb hV he5 hn50 hrow (by omega)) (pQ he5 i_) (by have:=uv (J:=J) hV he5 hn50 hrow (i:=i_+1) (by omega);omega)) ?_
  rintro _ T12 ⟨rfl,hr13⟩
  refine ai 12 [.gen,.nw] [bg ((i_:Int)+1)] λ _=>?_
  refine mt8 (i_+1,T12) [0] [0] ?_
  try dsimp only
  exact ⟨⟨by omega,by rw [lB (by rw [<- hw.len,hr.len];omega) []];exact hr13⟩,by omega⟩
 ·refine ae 12 [] λ _=>RN.ret [] [] [0] (v:=vP r2 0) (H':=(ap [] [T_])) ?_
  obtain rfl:i_=n:=by omega
  exact ⟨(r2,S3,T_),rfl,rfl,he5,by rw [List.take_of_length_le (by rw [<- hw.len,hr.len];exact Nat.le_refl _)] at hr_;exact hr_⟩
theorem SetEq.val {S S':Setup} (h:SetEq S S') (rs:List Bx) (ds:List Dr):fh S' rs ds=fh S rs ds:=by
 obtain ⟨e1,e2,e3,e4,e5,e6,e7,e8,e9,e10,e11,e12⟩:=h.nums
 have c1:(∀ k,k < S'.nb -> jm (S'.body k).sh) ↔ (∀ k,k < S.nb -> jm (S.body k).sh):=by
  rw [e2]
  refine forall_congr' λ k=>forall_congr' λ hk=>?_
  obtain ⟨A,c,e⟩:=h.bod k hk
  rw [e];exact Iff.rfl
 have c2:rP S' rs ds ↔ rP S rs ds:=by unfold rP i8 kQ;rw [e1,e2,e3,e4,e5,e6,e7,e8,e9,e10,e11,e12]
 have c3:(∀ k,k < S'.nb -> fc (S'.body k) S'.box) ↔ (∀ k,k < S.nb -> fc (S.body k) S.box):=by
  rw [e2,e3]
  refine forall_congr' λ k=>forall_congr' λ hk=>?_
  obtain ⟨A,c,e⟩:=h.bod k hk
  rw [e];exact Iff.rfl
 simp only [fh,c1,c2,c3]
theorem SetEq.trans2 {S S1 S2:Setup} (h:SetEq S S1) (h2:SetEq S1 S2):SetEq S S2:=by
 obtain ⟨e1,e2,e3,e4,e5,e6,e7,e8,e9,e10,e11,e12⟩:=h.nums
 obtain ⟨f1,f2,f3,f4,f5,f6,f7,f8,f9,f10,f11,f12⟩:=h2.nums
 refine ⟨⟨f1.trans e1,f2.trans e2,f3.trans e3,f4.trans e4,f5.trans e5,f6.trans e6,f7.trans e7,f8.trans e8,f9.trans e9,f10.trans e10,f11.trans e11,f12.trans e12⟩,λ k hk=>?_,h2.whole.1,by rw [h2.whole.2];exact e2⟩
 obtain ⟨A,c,e⟩:=h.bod k hk
 obtain ⟨A2,c2,e2'⟩:=h2.bod k (by rw [e2];exact hk)
 exact ⟨A2,c2,by rw [e2',e];rfl⟩
theorem lC (cs:List Int) (M:MemS):∀ i,(ky cs M i).base=M.base
 | 0=>rfl
 | i+1=>by
  rw [ky]
  split
  ·exact lC cs M i
  ·unfold MemS.set
   split
   ·exact lC cs M i
   ·exact lC cs M i
section
variable {S S1:Setup} {rs_:List Bx} {ds_:List Dr} {bp gb mb n cap k t:Nat} {M:MemS} {G0 F:HL}
theorem xh {q:Nat} {M1:MemS} (hG:GameX rs_ ds_ bp gb mb S1 M (k+n) G0) (hq:(q,.rows 1 M1.cs.length (aO M1.cs) 3 (0,0)) ∈ F) (hn:M1.cs.length=n) (hl:M.cs.length=n) (h48:48 <= n) (hT:TE2 S1 (t:Int) M1) (ht:t <= 6000) :
  Sp Tryz.prog 67 #[vP gb 0,vS q 0 M1.cs.length cap] (ap [] [G0]) F (λ u H'=>∃ x:MemS × HL,H'=ap [] [x.2] /\ (u=vI 0 /\ x.1.cs=M1.cs /\ x.1.base=M.base /\ GameX rs_ ds_ bp gb mb S1 x.1 k x.2)):=by
 have hg:∀ i:Nat,i < n -> M1.get (i:Int)=M1.cs.getD i 0:=λ i hi=>by
  unfold MemS.get
  rw [if_pos (by omega),Int.toNat_natCast]
 have hz:∀ i:Nat,1 <= i -> i <= 10 -> M1.cs.getD i 0=0:=λ i ha hb=>by rw [<- hg i (by omega)];exact hT.z _ (by omega) (by omega)
 have h0:M1.cs.getD 0 0=(t:Int):=by rw [<- hg 0 (by omega)];exact hT.t0
 have hb:fD M1.cs:=⟨⟨hz 1 (by omega) (by omega),hz 2 (by omega) (by omega),hz 3 (by omega) (by omega),hz 4 (by omega) (by omega),hz 5 (by omega) (by omega),hz 6 (by omega) (by omega),hz 7 (by omega) (by omega),hz 8 (by omega) (by omega),hz 9 (by omega) (by omega),hz 10 (by omega) (by omega)⟩,by omega,by omega⟩
 have hk:k+n=k+M1.cs.length:=by omega
 rw [hk] at hG
 cases hG with
 | mk T U hM hU =>
  rw [bj]
  refine (vZ S1 bp gb mb M1.cs q M1.cs.length M1.cs.length cap M k T U F hM hq (Nat.le_refl _) (by omega)).mono λ u H' h=>?_
  obtain ⟨x,rfl,h⟩:=h
  rcases h with ⟨_,h3,h4⟩ | ⟨h3,_⟩
  ·refine ⟨(ky M1.cs M M1.cs.length,ap [(gb,.lit (dp S1 bp mb) 118 (0,0))] [x,U]),(bj _).symm,h3,?_,lC _ _ _,.mk x U h4 hU⟩
   show (ky M1.cs M M1.cs.length).cs=M1.cs
   rw [E9 (by omega) (Nat.le_refl _),List.take_length]
  ·exact absurd ⟨by omega,hb⟩ h3
end
abbrev NK (x:Rw):Array Value:=#[.slice x.A x.n x.c]
def GT (rl:List Rw) (f l:Nat):List Rw:=(List.range (l - f)).map λ i=>rl.getD (f+i) oz.dflt
theorem lD (rl:List Rw) (f l:Nat):(GT rl f l).length=l - f:=by simp [GT]
theorem Bd {rl:List Rw} {f l i:Nat} (h:i < l - f):(GT rl f l)[i]?=some (rl.getD (f+i) oz.dflt):=by simp [GT,h]
theorem oD {rl:List Rw} {f l i:Nat} {x:Rw} (e:(GT rl f l)[i]?=some x):i < l - f /\ x=rl.getD (f+i) oz.dflt:=by
 have h1:i < l - f:=by have:=(List.getElem?_eq_some_iff.1 e).1;rwa [lD] at this
 rw [Bd h1] at e
 exact ⟨h1,(Option.some.inj e).symm⟩
theorem GU (S3:Setup) (bp ev gb0 rp n rc cc f l q1 q2 q3 lp:Nat) (rA cA:Option Addr) (rl:List Rw) (cl:List Ck) (X F:HL) (J:Nat -> HL -> Prop) (Jx:HL -> Prop) (T0:HL) (hq1:(q1,.lit [vI (f:Int)] 3 (0,0)) ∈ F) (hq2:(q2,.lit [vI (l:Int)] 3 (0,0)) ∈ F) (hq3:(q3,.lit [vP rp 0] 36 (0,0)) ∈ F) (hrp:(rp,.lit (Setup.l S3++[vP bp 0,vI (ev:Int),vP gb0 0,.slice rA n rc,.slice cA cl.length cc]) 73 (0,0)) ∈ F) (hr:RowL oz 23 F rA n rl) (hfl:f <= l /\ l <= n /\ n <= 1000000) (hY:∀ i x H Y,(GT rl f l)[i]?=some x -> J i H -> YL Tryz.prog lp (NK x) H (Y++(X++F)) (λ b H'=>(b=true /\ J (i+1) H') \/ (b=false /\ Jx H'))) (hJ0:J 0 T0):Sp Tryz.prog 87 #[.func (.yield lp) #[] #[],vP q1 0,vP q2 0,vP q3 0] (ap [] [T0]) (X++F) (λ _ H'=>J (GT rl f l).length H' \/ Jx H'):=by
 refine Sp.run Tryz.func87 rfl (mc (List.mem_append_right _ hq1) (mc (List.mem_append_right _ hq2) (mc (List.mem_append_right _ hq3) (mc (List.mem_append_right _ hrp) mn)))) (A:=[]) (Ts:=[T0]) rfl λ w0=>?_
 refine ae 7 [.ro 0] λ _=>aK 5 (congrArg (λ v_=>(vI v_:Value)) (show (f:Int)=((f+0:Nat):Int) by omega))<|RN.loop (σ:=Nat × HL) (λ ⟨i,T_⟩=>⟨[(0,.func (.yield lp) #[] #[]),(2,vP q2 0),(3,vP q3 0),(5,vI ((f+i:Nat):Int))],[],[T_],i <= l - f /\ J i T_,l - f - i⟩) (0,T0) [] [0] (⟨Nat.zero_le _,hJ0⟩) ?_
 rintro ⟨i,T_⟩ ⟨hi_,hJ_⟩ mt2
 refine ae 8 [.ro 1] λ _=>RN.em (((f+i:Nat):Int) < (l:Int)) 9 (λ h3=>?_) λ h3=>?_
 ·refine ae 13 [.ro 2,.ro 3] λ _=>?_
  obtain ⟨qx4,ox4,Nx4,fx4,fzx4,hAx4,hqx4,hox4,hgx4⟩:=(hr.up (X:=X)).at (k:=(f+i)) (by omega)
  refine aK 16 (congrArg (λ v_=>(.slice v_ n rc:Value)) hAx4)<|RN.ro (λ _=>(mc (List.mem_append_right _ hq1) (mc (List.mem_append_right _ hq2) (mc (List.mem_append_right _ hq3) (mc (List.mem_append_right _ hrp) (mc hqx4 mn))))))<|ai 2 [.ix (f+i),.rorow 4 (ox4+(f+i)) 0] [(ox4 * 1+(f+i) * 1)=(ox4+(f+i)) * 1+0 /\ (ox4+(f+i)) < Nx4,((f+i:Nat):Int)=(((f+i):Nat):Int) /\ (f+i) < n] λ _=>aK 19 (congrArg (λ v_=>(.slice v_.A v_.n v_.c:Value)) hgx4)<|RN.yield 0 (hY i (rl.getD (f+i) oz.dflt) _ _ (Bd (by omega)) hJ_) ?_
  rintro b_ T5 (⟨rfl,hJ6⟩ | ⟨rfl,hJ6⟩)
  ·refine ai 12 [.gen,.nw] [bg (((f+i:Nat):Int)+1)] λ _=>aK 5 (congrArg (λ v_=>(vI v_:Value)) (show ((f+i:Nat):Int)+1=((f+(i+1):Nat):Int) by omega)) ?_
   refine mt2 (i+1,T5) [] [0] ?_
   try dsimp only
   exact ⟨⟨by omega,hJ6⟩,by omega⟩
  ·refine ae 4 [] λ _=>RN.ret [] [] [0] (v:=.tuple #[]) (H':=(ap [] [T5])) ?_
   rw [bj]
   exact .inr hJ6
 ·refine ae 5 [] λ _=>RN.ret [] [] [0] (v:=.tuple #[]) (H':=(ap [] [T_])) ?_
  rw [bj]
  obtain rfl:i=l - f:=by omega
  exact .inl (by rw [lD];exact hJ_)
theorem uw (S3:Setup) (bp ev gb0 rp n rc cc f l q1 q2 q3:Nat) (rA cA:Option Addr) (rl:List Rw) (cl:List Ck) (F:HL) (hq1:(q1,.lit [vI (f:Int)] 3 (0,0)) ∈ F) (hq2:(q2,.lit [vI (l:Int)] 3 (0,0)) ∈ F) (hq3:(q3,.lit [vP rp 0] 36 (0,0)) ∈ F) (hrp:(rp,.lit (Setup.l S3++[vP bp 0,vI (ev:Int),vP gb0 0,.slice rA n rc,.slice cA cl.length cc]) 73 (0,0)) ∈ F) (hr:RowL oz 23 F rA n rl) (hfl:f <= l /\ l <= n /\ n <= 1000000):It Tryz.prog 87 #[vP q1 0,vP q2 0,vP q3 0] F NK (GT rl f l):=by
 intro X lp J Jx H0 hY h0
 have key:=GU S3 bp ev gb0 rp n rc cc f l q1 q2 q3 lp rA cA rl cl X F J Jx H0 hq1 hq2 hq3 hrp hr hfl hY h0
 rw [bj] at key
 exact key
theorem ri (f l:Int) (rp:Nat) (F:HL):Sp Tryz.prog 58 #[vP rp 0,vI f,vI l] (ap [] []) F (λ u H'=>∃ m:Nat,H'=ap [((m+2),.lit [vI l] 3 (0,0)),((m+1),.lit [vI f] 3 (0,0)),((m+0),.lit [vP rp 0] 36 (0,0))] [] /\ u=.func (.func 87) #[] #[vP (m+1) 0,vP (m+2) 0,vP (m+0) 0]):=by
 refine Sp.run Tryz.func58 rfl mn (A:=[]) (Ts:=[]) rfl λ w0=>?_
 refine ae 14 [] λ n1=>RN.ret [] [0,1,2] [] (v:=.func (.func 87) #[] #[vP (n1+1) 0,vP (n1+2) 0,vP (n1+0) 0]) (H':=(ap [((n1+2),.lit [vI l] 3 (0,0)),((n1+1),.lit [vI f] 3 (0,0)),((n1+0),.lit [vP rp 0] 36 (0,0))] [])) ?_
 exact ⟨_,rfl,rfl⟩
theorem GV (S S3:Setup) (rs_:List Bx) (ds_:List Dr) (bp ev gb0 rp n rc cc t:Nat) (J:Nat -> Nat × Int) (rA cA:Option Addr) (rl:List Rw) (cl:List Ck) (xss:List (List Inp)) (F:HL) (hrp:(rp,.lit (Setup.l S3++[vP bp 0,vI (ev:Int),vP gb0 0,.slice rA n rc,.slice cA cl.length cc]) 73 (0,0)) ∈ F) (h3e:SetEq S S3) (hS3:SetIn F S3) (hM:MapIn F S3 rs_ ds_) (hV:SetV S) (hrn:S.rn <= 1000000) (hdn:S.dn <= 1000000) (hsz:48 <= sizeOf S /\ sizeOf S <= 1000) (hv:fh S rs_ ds_=0) (hr:RowL oz 23 F rA n rl) (hw:RwsIn F rl xss) (hc:RowL xd 127 F cA cl.length cl) (hck:∀ k,k < cl.length -> ∃ q,cl.getD k xd.dflt=⟨some ⟨q,0,none⟩,(WS S J xss (k * ev)).length,(WS S J xss (k * ev)).length,iK (WS S J xss (k * ev))⟩ /\ (q,.rows 1 (WS S J xss (k * ev)).length (aO (WS S J xss (k * ev))) 3 (0,0)) ∈ F) (hcl:cl.length=n / ev+1) (hev:1 <= ev /\ ev <= 60) (hE:dg F) (hn50:n <= 50) (hrow:∀ i,i < n -> fQ S.players (xss.getD i [])) (hAt:∀ i,i < n -> (J i).1 < 5 /\ AtOk F bp (i:Int) (J i)) (ht:t <= n):Sp Tryz.prog 38 #[vP rp 0,vI (t:Int)] (ap [] []) F (λ u H'=>∃ q:Nat,H'=ap [(q,.rows 1 (WS S J xss t).length (aO (WS S J xss t)) 3 (0,0))] [] /\ u=.tuple #[vS q 0 (WS S J xss t).length (WS S J xss t).length,vI ((t:Int) % (ev:Int)),vI 0]):=by
 have hm_:(t:Int) % (ev:Int)=((t % ev:Nat):Int):=by first | rfl | norm_cast
 have hdm_:t / ev * ev+t % ev=t:=by rw [Nat.mul_comm];exact Nat.div_add_mod t ev
 have hdl_:t / ev < cl.length:=by rw [hcl];exact Nat.lt_succ_of_le (Nat.div_le_div_right ht)
 have hq_:(t:Int) / (ev:Int)=((t / ev:Nat):Int):=by first | rfl | norm_cast
 obtain ⟨d,hd⟩:∃ d,t / ev=d:=⟨_,rfl⟩
 rw [hd] at hdm_ hdl_ hq_
 obtain ⟨f,hf⟩:∃ f,d * ev=f:=⟨_,rfl⟩
 rw [hf] at hdm_
 have hwl_:=uv (J:=J) hV (ze S) hn50 hrow (i:=f) (by omega)
 refine Sp.runM Tryz.func38 rfl (mc hrp mn) (A:=[]) (Ts:=[]) rfl λ w0=>?_
 refine ae 13 [] λ n1=>RN.em ((t:Int) < 0) 15 (λ h2=>?_) λ h2=>?_
 ·(exfalso;omega)
 ·refine ae 10 [.ro 0] λ _=>RN.em ((t:Int) > (n:Int)) 23 (λ h3=>?_) λ h3=>?_
  ·(exfalso;omega)
  ·refine ae 4 [] λ _=>RN.draw [13] []<|ag [] [0,4,1,5,2,6,3,7] [.ro 0,.ro 0,.ro 0,.ro 0,.ro 0,.ro 0,.ro 0,.ro 0,.ro 0,.ro 0,.ro 0,.ro 0,.ro 0,.ro 0,.ro 0,.ro 0,.ro 0]<|fH 8 12 ?_ ?_
   ·refine RDO.ct [] (Hp:=[]) (Tp:=[]) [] [] (nq S3 rs_ ds_ bp _ hS3.up.cl hM.up (by rw [h3e.nb];have:=hV.nb;omega) (by rw [h3e.nums.2.2.2.1];exact hrn) (by rw [h3e.nums.2.2.2.2.1];exact hdn) (by rw [h3e.size];omega) (by rw [h3e.val];exact hv) 99100000 (by decide)) ?_
    rintro _ ⟨g4,S5,T6⟩ ⟨rfl,he7,hG8⟩
    dsimp only at he7 hG8
    obtain ⟨mb_,hx_⟩:=hG8.x
    have he2_:=h3e.trans2 he7
    refine ag [] [9,10,11] []<|RD.one 12 (RDO.ev [] [] λ n9=>?_)
    refine RD.one 13 (RDO.ev [] [.own 0] λ _=>?_)
    refine ag [] [14] []<|RD.fin<|ae 13 [] λ _=>RN.draw [14] []<|aJ [] [0,1,5,6,2,7,3,8,4,9,10] [.own 0,.ro 0,.ro 0,.nw] [0 <= (t:Int) /\ (0:Int) < (ev:Int) /\ (t:Int) <= 9223372036854775807] ?_
    obtain ⟨qx10,ox10,Nx10,fx10,fzx10,hAx10,hqx10,hox10,hgx10⟩:=hc.at (k:=d) hdl_
    refine lO 43 (congrArg (λ v_=>(.slice v_ cl.length cc:Value)) hAx10)<|RD.ro (λ _=>(mc hrp (mc hqx10 mn)))<|tJ [] [11,12,13] [.ix d,.rorow 1 (ox10+d) 0] [(ox10 * 2+d * 2)=(ox10+d) * 2+0 /\ (ox10+d) < Nx10,(t:Int) / (ev:Int)=((d:Nat):Int) /\ d < cl.length] (ac ⟨by omega,by omega⟩ (ac ⟨hq_,hdl_⟩ an))<|lO 52 (congrArg (λ v_=>(.slice v_.A v_.n v_.c:Value)) hgx10) ?_
    obtain ⟨qk,ek_,hqk⟩:=hck d hdl_
    rw [hf] at ek_ hqk
    refine lO 52 (congrArg (λ v_:Ck=>Value.slice v_.A v_.n v_.c) ek_)<|RD.ro (λ _=>(mc hrp (mc hqx10 (mc hqk mn))))<|RD.one 14 (RDO.ct [] [] [0] (xh (cap:=(WS S J xss f).length) (k:=99020000) (n:=(sizeOf S).toNat) (q:=qk) (t:=f) (M1:=(⟨(WS S J xss f),[],0⟩:MemS)) (hx_.weak (by omega)) (aw hqk) (by show (WS S J xss f).length=_;omega) (by show (eA S3 S3.nb).length=_;rw [gv,h3e.size]) (by omega) (o8 hV he2_ hn50 hrow (by omega)) (by omega)) ?_)
    rintro _ ⟨M11,T12⟩ ⟨rfl,he13,hb14,hG15⟩
    dsimp only at he13 hb14 hG15
    refine ag [] [15] []<|RD.fin<|ai 29 [.ro 0,.nw,.nw] [bg ((t:Int) - ((t:Int) % (ev:Int))),0 <= (t:Int) /\ (0:Int) < (ev:Int) /\ (t:Int) <= 9223372036854775807] λ _=>aK 66 (congrArg (λ v_=>(vI v_:Value)) (show (t:Int) - (t:Int) % (ev:Int)=(f:Int) by rw [hm_];omega))<|RN.ct (Hp:=[]) (Tp:=[]) [] [] (ri (f:Int) (t:Int) rp _) ?_
    rintro _ m16 rfl
    refine ae 3 [] λ _=>RN.range (σ:=Nat × MemS × HL) (τ:=Nat × MemS × HL × Rw) (encs:=λ (x_:Rw)=>#[.slice x_.A x_.n x_.c]) (xs:=(GT rl f t)) (enters_of Tryz.func87 (by kernel_rfl) rfl) (λ ⟨m_,N_,T_⟩=>([],[T_])) (λ i_ ⟨m_,N_,T_⟩=>m_=i_ /\ N_.cs=(⟨WS S J xss (f+m_),[],0⟩:MemS).cs /\ (0 <= N_.base /\ N_.base <= 1000000 * (m_:Int)) /\ GameX rs_ ds_ bp g4 mb_ S5 N_ 99020000 T_) (λ c_ ⟨m_,N_,T_⟩=>False) (λ ⟨m_,N_,T_,p_⟩=>⟨[(4,vP (n1+0) 0),(5,vP (n1+1) 0),(6,vP (n1+2) 0),(7,vP (n9+0) 0),(10,vI ((t:Int) % (ev:Int))),(11,.slice p_.A p_.n p_.c)],[],[T_],True,0⟩) (λ i_ x_ ⟨m_,N_,T_,p_⟩=>m_=i_ /\ p_=rl.getD (f+m_) oz.dflt /\ m_ < t - f /\ N_.cs=(⟨WS S J xss (f+m_),[],0⟩:MemS).cs /\ (0 <= N_.base /\ N_.base <= 1000000 * (m_:Int)) /\ GameX rs_ ds_ bp g4 mb_ S5 N_ 99020000 T_) (0,M11,T12) (⟨rfl,he13,⟨by rw [hb14];exact Int.le_refl 0,by rw [hb14];exact Int.le_refl 0⟩,hG15⟩) [] [0] (uw S3 bp ev gb0 rp n rc cc f t (m16+1) (m16+2) (m16+0) rA cA rl cl _ (aB 1) (aB 0) (aB 2) (aw hrp) hr.up ⟨by omega,ht,by omega⟩) ?_ ?_ ?_ ?_
    ·rintro l_ i_ x_ ⟨m_,N_,T_⟩ Y17 w18 hx19 ⟨rfl,hcs_,hb_,hg_⟩ mt20
     refine ae 3 [] λ _=>?_
     refine mt20 (m_,N_,T_,x_) [] [0] ?_
     try dsimp only
     exact ⟨rfl,(oD hx19).2,(oD hx19).1,hcs_,hb_,hg_⟩
    ·rintro l_ i_ x_ ⟨m_,N_,T_,p_⟩ Y21 w22 hx23 ⟨rfl,hp_,hlt_,hcs_,hb_,hg_⟩
     obtain ⟨bk,ok,Nk,fk,ck,ek2_,hIk,hik,hxk,hck2_⟩:=hw.get (k:=f+m_) (by rw [hr.len];omega)
     refine aK 11 (congrArg (λ v_:Rw=>Value.slice v_.A v_.n v_.c) (hp_.trans ek2_))<|ae 5 [.ro 3] λ _=>RN.ct [] [0] (oC (c:=ck) (j:=J (f+m_)) hg_ (by omega) (hAt (f+m_) (by omega)).1 (by rw [oA hcs_,(o8 hV he2_ hn50 hrow (i:=f+m_) (by omega)).t0];exact (hAt (f+m_) (by omega)).2.mono λ x hx=>aw (List.mem_append_right Y21 (List.mem_append_right _ hx))) (aw (List.mem_append_right Y21 (List.mem_append_right _ hE))) (InB.rows (aw (List.mem_append_right Y21 (List.mem_append_right _ hIk))) hik hxk) (by have h_:=(hrow (f+m_) (by omega)).1;have h2_:=hV.pl;omega) ((Bb hV he2_ hn50 hrow (by omega)).cs hcs_.symm)) ?_
     rintro _ ⟨M24,T25⟩ ⟨rfl,hG26,he27,hb28⟩
     dsimp only at hG26 he27 hb28
     refine ae 12 [] λ _=>RN.rn (m_+1,M24,T25) [] [0] ?_
     try dsimp only
     exact ⟨rfl,he27.trans ((qg _ hcs_).trans (pQ he2_ (f+m_)).symm),⟨hb28.1,by omega⟩,hG26⟩
    ·rintro d29 ⟨m_,N_,T_⟩  ⟨rfl,hcs_,hb_,hg_⟩
     refine ae 5 [.own 4] λ _=>aj (Ba hg_ (av 0))<|RN.ct (Hp:=[]) (Tp:=[]) [] [] (zc hg_ (av 0)) ?_
     rintro _ q30 rfl
     refine ae 6 [.own 8,.own 7,.own 6] λ _=>RN.retM [d29] [1] [.own 7,.own 6,.own 5] [0] [] (v:=.tuple #[vS q30 0 N_.cs.length N_.cs.length,vI ((t:Int) % (ev:Int)),vI 0]) (H':=(ap [(q30,.rows 1 N_.cs.length (aO N_.cs) 3 (0,0))] [])) ?_
     have hct_:N_.cs=WS S J xss t:=by rw [hcs_,lD,show f+(t - f)=t by omega]
     exact ⟨q30,by rw [hct_],by rw [hct_]⟩
    ·exact λ _ _ _ h=>h.elim
   ·refine RDO.ev [] [] λ n31=>RD.one 8 (RDO.ct [] (Hp:=[]) (Tp:=[]) [] [] (nq S3 rs_ ds_ bp _ hS3.up.cl hM.up (by rw [h3e.nb];have:=hV.nb;omega) (by rw [h3e.nums.2.2.2.1];exact hrn) (by rw [h3e.nums.2.2.2.2.1];exact hdn) (by rw [h3e.size];omega) (by rw [h3e.val];exact hv) 99100000 (by decide)) ?_)
    rintro _ ⟨g32,S33,T34⟩ ⟨rfl,he35,hG36⟩
    dsimp only at he35 hG36
    obtain ⟨mb_,hx_⟩:=hG36.x
    have he2_:=h3e.trans2 he35
    refine ag [] [9,10,11] []<|RD.one 13 (RDO.ev [] [.own 0] λ _=>?_)
    refine ag [] [14] []<|RD.fin<|ae 13 [] λ _=>RN.draw [14] []<|aJ [] [0,1,5,6,2,7,3,8,4,9,10] [.own 0,.ro 0,.ro 0,.nw] [0 <= (t:Int) /\ (0:Int) < (ev:Int) /\ (t:Int) <= 9223372036854775807] ?_
    obtain ⟨qx37,ox37,Nx37,fx37,fzx37,hAx37,hqx37,hox37,hgx37⟩:=hc.at (k:=d) hdl_
    refine lO 43 (congrArg (λ v_=>(.slice v_ cl.length cc:Value)) hAx37)<|RD.ro (λ _=>(mc hrp (mc hqx37 mn)))<|tJ [] [11,12,13] [.ix d,.rorow 1 (ox37+d) 0] [(ox37 * 2+d * 2)=(ox37+d) * 2+0 /\ (ox37+d) < Nx37,(t:Int) / (ev:Int)=((d:Nat):Int) /\ d < cl.length] (ac ⟨by omega,by omega⟩ (ac ⟨hq_,hdl_⟩ an))<|lO 52 (congrArg (λ v_=>(.slice v_.A v_.n v_.c:Value)) hgx37) ?_
    obtain ⟨qk,ek_,hqk⟩:=hck d hdl_
    rw [hf] at ek_ hqk
    refine lO 52 (congrArg (λ v_:Ck=>Value.slice v_.A v_.n v_.c) ek_)<|RD.ro (λ _=>(mc hrp (mc hqx37 (mc hqk mn))))<|RD.one 14 (RDO.ct [] [] [0] (xh (cap:=(WS S J xss f).length) (k:=99020000) (n:=(sizeOf S).toNat) (q:=qk) (t:=f) (M1:=(⟨(WS S J xss f),[],0⟩:MemS)) (hx_.weak (by omega)) (aw hqk) (by show (WS S J xss f).length=_;omega) (by show (eA S3 S3.nb).length=_;rw [gv,h3e.size]) (by omega) (o8 hV he2_ hn50 hrow (by omega)) (by omega)) ?_)
    rintro _ ⟨M38,T39⟩ ⟨rfl,he40,hb41,hG42⟩
    dsimp only at he40 hb41 hG42
    refine ag [] [15] []<|RD.fin<|ai 29 [.ro 0,.nw,.nw] [bg ((t:Int) - ((t:Int) % (ev:Int))),0 <= (t:Int) /\ (0:Int) < (ev:Int) /\ (t:Int) <= 9223372036854775807] λ _=>aK 66 (congrArg (λ v_=>(vI v_:Value)) (show (t:Int) - (t:Int) % (ev:Int)=(f:Int) by rw [hm_];omega))<|RN.ct (Hp:=[]) (Tp:=[]) [] [] (ri (f:Int) (t:Int) rp _) ?_
    rintro _ m43 rfl
    refine ae 3 [] λ _=>RN.range (σ:=Nat × MemS × HL) (τ:=Nat × MemS × HL × Rw) (encs:=λ (x_:Rw)=>#[.slice x_.A x_.n x_.c]) (xs:=(GT rl f t)) (enters_of Tryz.func87 (by kernel_rfl) rfl) (λ ⟨m_,N_,T_⟩=>([],[T_])) (λ i_ ⟨m_,N_,T_⟩=>m_=i_ /\ N_.cs=(⟨WS S J xss (f+m_),[],0⟩:MemS).cs /\ (0 <= N_.base /\ N_.base <= 1000000 * (m_:Int)) /\ GameX rs_ ds_ bp g32 mb_ S33 N_ 99020000 T_) (λ c_ ⟨m_,N_,T_⟩=>False) (λ ⟨m_,N_,T_,p_⟩=>⟨[(4,vP (n1+0) 0),(5,vP (n1+1) 0),(6,vP (n1+2) 0),(7,vP (n31+0) 0),(10,vI ((t:Int) % (ev:Int))),(11,.slice p_.A p_.n p_.c)],[],[T_],True,0⟩) (λ i_ x_ ⟨m_,N_,T_,p_⟩=>m_=i_ /\ p_=rl.getD (f+m_) oz.dflt /\ m_ < t - f /\ N_.cs=(⟨WS S J xss (f+m_),[],0⟩:MemS).cs /\ (0 <= N_.base /\ N_.base <= 1000000 * (m_:Int)) /\ GameX rs_ ds_ bp g32 mb_ S33 N_ 99020000 T_) (0,M38,T39) (⟨rfl,he40,⟨by rw [hb41];exact Int.le_refl 0,by rw [hb41];exact Int.le_refl 0⟩,hG42⟩) [] [0] (uw S3 bp ev gb0 rp n rc cc f t (m43+1) (m43+2) (m43+0) rA cA rl cl _ (aB 1) (aB 0) (aB 2) (aw hrp) hr.up ⟨by omega,ht,by omega⟩) ?_ ?_ ?_ ?_
    ·rintro l_ i_ x_ ⟨m_,N_,T_⟩ Y44 w45 hx46 ⟨rfl,hcs_,hb_,hg_⟩ mt47
     refine ae 3 [] λ _=>?_
     refine mt47 (m_,N_,T_,x_) [] [0] ?_
     try dsimp only
     exact ⟨rfl,(oD hx46).2,(oD hx46).1,hcs_,hb_,hg_⟩
    ·rintro l_ i_ x_ ⟨m_,N_,T_,p_⟩ Y48 w49 hx50 ⟨rfl,hp_,hlt_,hcs_,hb_,hg_⟩
     obtain ⟨bk,ok,Nk,fk,ck,ek2_,hIk,hik,hxk,hck2_⟩:=hw.get (k:=f+m_) (by rw [hr.len];omega)
     refine aK 11 (congrArg (λ v_:Rw=>Value.slice v_.A v_.n v_.c) (hp_.trans ek2_))<|ae 5 [.ro 3] λ _=>RN.ct [] [0] (oC (c:=ck) (j:=J (f+m_)) hg_ (by omega) (hAt (f+m_) (by omega)).1 (by rw [oA hcs_,(o8 hV he2_ hn50 hrow (i:=f+m_) (by omega)).t0];exact (hAt (f+m_) (by omega)).2.mono λ x hx=>aw (List.mem_append_right Y48 (List.mem_append_right _ hx))) (aw (List.mem_append_right Y48 (List.mem_append_right _ hE))) (InB.rows (aw (List.mem_append_right Y48 (List.mem_append_right _ hIk))) hik hxk) (by have h_:=(hrow (f+m_) (by omega)).1;have h2_:=hV.pl;omega) ((Bb hV he2_ hn50 hrow (by omega)).cs hcs_.symm)) ?_
     rintro _ ⟨M51,T52⟩ ⟨rfl,hG53,he54,hb55⟩
     dsimp only at hG53 he54 hb55
     refine ae 12 [] λ _=>RN.rn (m_+1,M51,T52) [] [0] ?_
     try dsimp only
     exact ⟨rfl,he54.trans ((qg _ hcs_).trans (pQ he2_ (f+m_)).symm),⟨hb55.1,by omega⟩,hG53⟩
    ·rintro d56 ⟨m_,N_,T_⟩  ⟨rfl,hcs_,hb_,hg_⟩
     refine ae 5 [.own 4] λ _=>aj (Ba hg_ (av 0))<|RN.ct (Hp:=[]) (Tp:=[]) [] [] (zc hg_ (av 0)) ?_
     rintro _ q57 rfl
     refine ae 6 [.own 8,.own 7,.own 6] λ _=>RN.retM [d56] [1] [.own 7,.own 6,.own 5] [0] [] (v:=.tuple #[vS q57 0 N_.cs.length N_.cs.length,vI ((t:Int) % (ev:Int)),vI 0]) (H':=(ap [(q57,.rows 1 N_.cs.length (aO N_.cs) 3 (0,0))] [])) ?_
     have hct_:N_.cs=WS S J xss t:=by rw [hcs_,lD,show f+(t - f)=t by omega]
     exact ⟨q57,by rw [hct_],by rw [hct_]⟩
    ·exact λ _ _ _ h=>h.elim
end Go.Proofs.YtobflkidpfkcaaaGreatDoor
