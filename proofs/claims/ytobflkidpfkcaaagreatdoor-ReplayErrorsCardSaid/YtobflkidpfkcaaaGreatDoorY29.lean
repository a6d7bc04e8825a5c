import Derived.Test.YtobflkidpfkcaaaGreatDoorY28
import Derived.Test.YtobflkidpfkcaaaGreatDoorY04
import Derived.Test.YtobflkidpfkcaaaGreatDoorRows
import Derived.Test.YtobflkidpfkcaaaGreatDoorChecked
import Derived.Test.YtobflkidpfkcaaaGreatDoorY13
import Derived.ProofKit
import Derived.OpenShut
import Derived.Carry
import Derived.Lay
import Derived.LaidHandle
import Derived.ChangeSlices
import Derived.Test.YtobflkidpfkcaaaGreatDoorY24
import Derived.Lib.LaidTab
import Derived.MakeChecks
import Derived.Deep.Slices
import Derived.Test.YtobflkidpfkcaaaGreatDoorTie
import Derived.Test.YtobflkidpfkcaaaGreatDoorCards
import Derived.SevenTiedAt
import Derived.JoinedOf
import Derived.KernelRfl
set_option maxHeartbeats 4000000
set_option maxRecDepth 100000
set_option linter.unusedSimpArgs false
set_option linter.unusedVariables false
namespace Go.Proofs.YtobflkidpfkcaaaGreatDoor
open Go.RowKit
theorem SlIs.capL {α:Type} {e:Enc α} {T:TypeId} {l:List α} {A:Option Addr} {cap:Nat} {Hl:HL} (h:SlIs e T l A cap Hl):l.length <= cap:=by
 rcases h with ⟨_,rfl,rfl,_⟩ | ⟨b,o,full,_,_,h1,h2,h3⟩
 ·exact Nat.le_refl _
 ·exact h2
theorem G8 {tk:Int} {j1 j2 bp:Nat} {TB F:HL} {z:Int} (hB:Book2 tk j1 j2 bp TB) (hT:∀ x ∈ TB,x ∈ F) (hj1:j1 < 5) (hj2:j2 < 5) (e:zo tk j1 j2=z):Sp Tryz.prog 25 #[vP bp 0] [] F (λ u H'=>u=.int .u64 z /\ H'=[]):=e ▸ LT hB hT hj1 hj2
theorem G9 {rs_:List Bx} {ds_:List Dr} {bp ev rp n:Nat} {S S2:Setup} {W:Nat -> List Int} {xss:List (List Inp)} {G F:HL} {z:Int} (h:RecH rs_ ds_ bp ev rp S S2 W n xss G) (hF:∀ x ∈ G,x ∈ F) (hev:ev < 128) (hn:n < 128) (hlen:∀ i,i < n -> (xss.getD i []).length <= 10) (BH:Int) (hBH:∀ F',(∀ x ∈ F,x ∈ F') -> Sp Tryz.prog 25 #[vP bp 0] [] F' (λ u H'=>u=.int .u64 BH /\ H'=[])) (e:G7 BH ev n xss W=z):Sp Tryz.prog 11 #[vP rp 0] [] F (λ u H'=>u=.int .u64 z /\ H'=[]):=e ▸ LU h hF hev hn hlen BH hBH
theorem JB {rs:List Bx} {ds:List Dr} {S:Setup} {bp gb mb n cap k:Nat} {A:Option Addr} {xs:List Inp} {M:MemS} {G0 F:HL} (e:Int) (hG:GameX rs ds bp gb mb S M k G0) (hl:RowB F A n λ k=>xs.getD k dI) (hni:n <= 1000000) (hw:bF S.players n xs (M.get 0)=e) (hne:¬ e=0) :
  Sp Tryz.prog 60 #[vP gb 0,.slice A n cap] (ap [] [G0]) F (λ u H'=>∃ x:HL,H'=ap [] [x] /\ (GameX rs ds bp gb mb S M k x /\ u=.tuple #[.slice none 0 0,vI 0,vI e])):=by
 cases hG with
 | mk T U hM hU =>
  rw [bj]
  refine (CT e S bp gb mb n cap k A xs M T U F hl hni hM hw hne).mono λ u H' h=>?_
  obtain ⟨rfl,h3⟩:=h
  exact ⟨_,(bj _).symm,.mk T U hM hU,h3⟩
theorem zp {rs_:List Bx} {ds_:List Dr} {S2:Setup} {bp gb mb m c k:Nat} {A:Option Addr} {xs:List Inp} {M:MemS} {G0 F:HL} (e:Int) (hG:GameX rs_ ds_ bp gb mb S2 M k G0) (hl:RowB F A m λ k=>xs.getD k dI) (hni:m <= 1000000) (hw:bF S2.players m xs (M.get 0)=e) (hne:¬ e=0):Sp Tryz.prog 28 #[vP gb 0,.slice A m c] (ap [] [G0]) F (λ u H'=>∃ x:HL,H'=ap [] [x] /\ (u=vI e /\ GameX rs_ ds_ bp gb mb S2 M k x)):=by
 refine Sp.run Tryz.func28 rfl mn (A:=[]) (Ts:=[G0]) rfl λ w0=>?_
 refine ae 9 [] λ _=>RN.ct [] [0] (JB (cap:=c) e hG hl.up hni hw hne) ?_
 rintro _ T1 ⟨hG2,rfl⟩
 refine ae 16 [] λ _=>RN.fx 17 (nf (decide_eq_false hne))<|ae 7 [] λ _=>RN.ret [] [] [0] (v:=vI e) (H':=(ap [] [T1])) ?_
 exact ⟨T1,rfl,rfl,hG2⟩
theorem Dg (S2 S3:Setup) (rs_:List Bx) (ds_:List Dr) (bp gb mb rp ev n rc cc m c:Nat) (A rA cA:Option Addr) (xs:List Inp) (cl:List Ck) (M:MemS) (G0 Ts Tr Trr Tc Tcc F:HL) (e:Int) (hG:GameX rs_ ds_ bp gb mb S2 M 99020000 G0) (hl:RowB F A m λ k=>xs.getD k dI) (hni:m <= 1000000) (hw:bF S2.players m xs (M.get 0)=e) (hne:¬ e=0):Sp Tryz.prog 12 #[vP rp 0,.slice A m c] (ap [(rp,.lit (Setup.l S3++[vP bp 0,vI (ev:Int),vP gb 0,.slice rA n rc,.slice cA cl.length cc]) 73 (0,0))] [G0,Ts,Tr,Trr,Tc,Tcc]) F (λ u H'=>∃ x:HL,H'=ap [(rp,.lit (Setup.l S3++[vP bp 0,vI (ev:Int),vP gb 0,.slice rA n rc,.slice cA cl.length cc]) 73 (0,0))] [x,Ts,Tr,Trr,Tc,Tcc] /\ (u=vI e /\ GameX rs_ ds_ bp gb mb S2 M 99020000 x)):=by
 refine Sp.run Tryz.func12 rfl mn (A:=[(rp,.lit (Setup.l S3++[vP bp 0,vI (ev:Int),vP gb 0,.slice rA n rc,.slice cA cl.length cc]) 73 (0,0))]) (Ts:=[G0,Ts,Tr,Trr,Tc,Tcc]) rfl λ w0=>?_
 refine ae 13 [.own 0] λ _=>RN.ct [] [0] (zp (c:=c) e hG hl.up hni hw hne) ?_
 rintro _ T1 ⟨rfl,hG2⟩
 refine ae 9 [] λ _=>RN.fx 13 (nf (decide_eq_false hne))<|ae 7 [] λ _=>RN.ret [] [0] [0,1,2,3,4,5] (v:=vI e) (H':=(ap [(rp,.lit (Setup.l S3++[vP bp 0,vI (ev:Int),vP gb 0,.slice rA n rc,.slice cA cl.length cc]) 73 (0,0))] [T1,Ts,Tr,Trr,Tc,Tcc])) ?_
 exact ⟨T1,rfl,rfl,hG2⟩
theorem Dh {rs_:List Bx} {ds_:List Dr} {bp ev rp n m c:Nat} {S S2:Setup} {W:Nat -> List Int} {pre:List (List Inp)} {A:Option Addr} {xs:List Inp} {G0 F:HL} (h:RecH rs_ ds_ bp ev rp S S2 W n pre G0) (e:Int) (hl:RowB F A m λ k=>xs.getD k dI) (hni:m <= 1000000) (t:Int) (ht:(⟨W n,[],0⟩:MemS).get 0=t) (hw:bF S2.players m xs t=e) (hne:¬ e=0):Sp Tryz.prog 12 #[vP rp 0,.slice A m c] (ap [] [G0]) F (λ u H'=>∃ x,H'=ap [] [x] /\ (u=vI e /\ RecH rs_ ds_ bp ev rp S S2 W n pre x)):=by
 rw [bj]
 cases h with
 | mk h3 hs hg hcs hb hr hrl hrr hc hcl hck =>
  rename_i gb mb rc cc S3 M rA cA rl cl Tg Ts Tr Trr Tc Tcc
  have e1:M.cs=(⟨W n,[],0⟩:MemS).cs:=hcs
  refine (Dg S2 S3 rs_ ds_ bp gb mb rp ev n rc cc m c A rA cA xs cl M Tg Ts Tr Trr Tc Tcc F e hg hl hni (by rw [oA e1,ht];exact hw) hne).mono λ u H' hq=>?_
  obtain ⟨x,rfl,rfl,hx⟩:=hq
  exact ⟨_,(bj _).symm,rfl,.mk h3 hs hx hcs hb hr hrl hrr hc hcl hck⟩
theorem Di (S:Setup) (rs:List Bx) (ds:List Dr) (bp:Nat) (e:Int) (F:HL) (hS:SetCl F S) (hM:MapIn F S rs ds) (h1:1 <= S.nb) (hrn:S.rn <= 1000000) (hdn:S.dn <= 1000000) (hsz:(sizeOf S).toNat <= 1000000) (hv:fh S rs ds=0) (hev:¬ (1 <= e /\ e <= 60)):Sp Tryz.prog 6 #[(Setup.v S),vP bp 0,vI e] [] F (λ u H'=>u=.tuple #[.pointer none,vI 6] /\ H'=[]):=by
 refine Sp.run Tryz.func6 rfl mn (A:=[]) (Ts:=[]) rfl λ w0=>?_
 refine ae 11 (ow 0 16) λ n1=>RN.ct (Hp:=[]) (Tp:=[]) [] [] (nq S rs ds bp _ hS.up hM.up h1 hrn hdn hsz hv 0 (by decide)) ?_
 rintro _ ⟨g2,S3,T4⟩ ⟨rfl,he5,hG6⟩
 refine ae 23 [] λ _=>RN.em (e < 1) 22 (λ h7=>?_) λ h7=>?_
 ·refine ae 12 [] λ _=>?_
  exact RN.ret [] [] [] ⟨rfl,rfl⟩
 ·refine ae 5 [] λ _=>RN.em (e > 60) 25 (λ h8=>?_) λ h8=>?_
  ·refine ae 7 [] λ _=>?_
   exact RN.ret [] [] [] ⟨rfl,rfl⟩
  ·(exfalso;omega)
theorem Hb (S:Setup) (rs:List Bx) (ds:List Dr) (bp:Nat) (e:Int) (F:HL) (hS:SetCl F S) (hM:MapIn F S rs ds) (h1:1 <= S.nb) (hrn:S.rn <= 1000000) (hdn:S.dn <= 1000000) (hsz:(sizeOf S).toNat <= 1000000) (hv:fh S rs ds=0):Sp Tryz.prog 6 #[Setup.v S,vP bp 0,vI e] (ap [] []) F (λ u H'=>∃ x:Nat × HL,H'=ap [] [x.2] /\ (((1 <= e /\ e <= 60) /\ u=.tuple #[vP x.1 0,vI 0]) \/ (¬ (1 <= e /\ e <= 60) /\ u=.tuple #[.pointer none,vI 6]))):=by
 by_cases h:1 <= e /\ e <= 60
 ·obtain ⟨ev,rfl⟩:∃ ev:Nat,e=(ev:Int):=⟨e.toNat,by omega⟩
  refine (xf S rs ds bp ev (λ _=>eA S S.nb) F hS hM h1 hrn hdn hsz hv (by omega) rfl).mono λ u H' hq=>?_
  obtain ⟨x,rfl,rfl,_,_⟩:=hq
  exact ⟨(x.1,x.2.2),rfl,.inl ⟨h,rfl⟩⟩
 ·refine (Di S rs ds bp e F hS hM h1 hrn hdn hsz hv h).mono λ u H' hq=>?_
  obtain ⟨rfl,rfl⟩:=hq
  exact ⟨(0,[]),by simp [ap],.inr ⟨h,rfl⟩⟩
theorem Bh {S:Setup} {rs:List Bx} {ds:List Dr} (bp:Nat) {F:HL} (hS:SetSh F S) (hM:MapIn F S rs ds) (hv:fh S rs ds=11):Sp Tryz.prog 20 #[Setup.v S,vP bp 0] [] F (λ u H'=>u=.tuple #[.pointer none,vI 11] /\ H'=[]):=by
 have h:=Cu S rs ds bp F hS hM (by rw [hv];decide)
 rwa [hv] at h
abbrev Setup.fg (S:Setup) (x:Int):Setup:={ S with fog:=x }
theorem Hc {S:Setup} {rs:List Bx} {ds:List Dr} (hv:fh S rs ds=0):fh (S.fg (-1)) rs ds=11:=by
 have h:∀ k,k < S.nb -> jm (S.body k).sh:=by
  unfold fh at hv
  split at hv
  ·assumption
  ·cases hv
 unfold fh
 rw [if_pos (show ∀ k,k < (S.fg (-1)).nb -> jm ((S.fg (-1)).body k).sh from h),if_neg]
 rintro ⟨h1,_⟩
 have h2:(0:Int) <= -1:=(h1.2.2.1 0 (show 0 < 1 by decide)).1
 omega
theorem Bi {S:Setup} {rs:List Bx} {ds:List Dr} {F:HL} (h:MapIn F S rs ds):MapIn F (S.fg (-1)) rs ds:=⟨h.1,h.2⟩
theorem He {S:Setup} {F:HL} (h:SetCl F S):SetSh F (S.fg (-1)):=⟨h.toSh.nb,h.toSh.blk,h.toSh.room,λ k hk=>h.toSh.pol k hk⟩
theorem Dj (S:Setup) (rs:List Bx) (ds:List Dr) (bp:Nat) (e:Int) (F:HL) (hS:SetSh F S) (hM:MapIn F S rs ds) (hv:fh S rs ds=11):Sp Tryz.prog 6 #[(Setup.v S),vP bp 0,vI e] [] F (λ u H'=>u=.tuple #[.pointer none,vI 11] /\ H'=[]):=by
 refine Sp.run Tryz.func6 rfl mn (A:=[]) (Ts:=[]) rfl λ w0=>?_
 refine ae 11 (ow 0 16) λ n1=>aj (Bh bp hS.up hM.up hv)<|ae 22 [] λ _=>?_
 exact RN.ret [] [] [] ⟨rfl,rfl⟩
theorem Dk (S:Setup) (rs:List Bx) (ds:List Dr) (bp:Nat) (F:HL) (hS:SetSh F S) (hM:MapIn F S rs ds) (hv:fh S rs ds=11):Sp Tryz.prog 13 #[(Setup.v S),vP bp 0,.slice none 0 0] [] F (λ u H'=>u=.tuple #[.pointer none,vI 11] /\ H'=[]):=by
 refine Sp.run Tryz.func13 rfl mn (A:=[]) (Ts:=[]) rfl λ w0=>?_
 refine ae 12 (ow 0 16) λ n1=>aj (Bh bp hS.up hM.up hv)<|ae 21 [] λ _=>?_
 exact RN.ret [] [] [] ⟨rfl,rfl⟩
theorem RecH.w {rs_:List Bx} {ds_:List Dr} {bp ev rp n:Nat} {S S2:Setup} {W W':Nat -> List Int} {xss:List (List Inp)} {G:HL} (h:RecH rs_ ds_ bp ev rp S S2 W n xss G) (e:∀ i,i <= n -> W i=W' i):RecH rs_ ds_ bp ev rp S S2 W' n xss G:=by
 cases h with
 | mk h3 hs hg hcs hb hr hrl hrr hc hcl hck =>
  refine .mk h3 hs hg (hcs.trans (e n (Nat.le_refl _))) hb hr hrl hrr hc hcl (λ F hF k hk=>?_)
  have hk2:k * ev <= n:=Nat.le_trans (Nat.mul_le_mul_right _ (show k <= n / ev by omega)) (Nat.div_mul_le_self _ _)
  have h0:=hck F hF k hk
  have e1:=e _ hk2
  simp only [e1] at h0
  exact h0
theorem JC (S:Setup) (J:Nat -> Nat × Int) (xss:List (List Inp)) (r:List Inp) {i:Nat} (hi:i <= xss.length):WS S J xss i=WS S J (xss++[r]) i:=by
 unfold WS
 refine congrArg MemS.cs (Bc i λ k hk=>?_)
 show rF _ _ _=rF _ _ _
 rw [hO,if_pos (by omega)]
theorem Dl {α:Type} (l:List α) (x d:α) {n:Nat} (h:l.length=n):(l++[x]).getD n d=x:=by rw [hO,if_neg (by omega),if_pos h.symm]
theorem Dm {pl:Int} {xss:List (List Inp)} {r:List Inp} {n:Nat} (hxn:xss.length=n) (h:∀ i,i < n -> fQ pl (xss.getD i [])) (hr:fQ pl r):∀ i,i < n+1 -> fQ pl ((xss++[r]).getD i []):=λ i hi=>by
 rw [hO]
 split
 ·exact h i (by omega)
 ·rw [if_pos (by omega)];exact hr
theorem Hf {pl:Int} {xs:List Inp} {now:Int} (h:bF pl xs.length xs now=0):fQ pl xs:=by
 unfold bF at h
 split at h
 ·next e =>
  split at h
  ·next h2=>exact ⟨e,h2⟩
  ·cases h
 ·cases h
theorem Hg {rs_:List Bx} {ds_:List Dr} {bp ev rp n c:Nat} {S S2:Setup} {J:Nat -> Nat × Int} {xss:List (List Inp)} {A:Option Addr} {xs:List Inp} {G0 F:HL} (h:RecH rs_ ds_ bp ev rp S S2 (WS S J xss) n xss G0) (hV:SetV S) (he:SetEq S S2) (hxn:xss.length=n) (hn:n <= 40) (hev:1 <= ev /\ ev <= 60) (hrow:∀ i,i < n -> fQ S.players (xss.getD i [])) (hl:RowB F A xs.length λ k=>xs.getD k dI) (hxl:xs.length <= 4) (hAt:(J n).1 < 5 /\ AtOk F bp (n:Int) (J n)) (hE:dg F) (hsz:sizeOf S <= 1000) (e:Int) (hw:bF S.players xs.length xs (n:Int)=e) {m:Nat} (hm:xs.length=m):Sp Tryz.prog 12 #[vP rp 0,.slice A m c] (ap [] [G0]) F (λ u H'=>∃ x:HL,H'=ap [] [x] /\ ((e=0 /\ u=vI e /\ RecH rs_ ds_ bp ev rp S S2 (WS S J (xss++[xs])) (n+1) (xss++[xs]) x) \/ (¬ e=0 /\ u=vI e /\ RecH rs_ ds_ bp ev rp S S2 (WS S J xss) n xss x))):=by
 subst hm
 by_cases h0:e=0
 ·subst h0
  have hr:=Hf hw
  have hrow2:=Dm hxn hrow hr
  have hl2:=Dl xss xs [] hxn
  have hp:=hV.pl
  have hrl:=hr.1
  have ht:=(o8 (J:=J) hV he (n:=n+1) (by omega) hrow2 (i:=n) (by omega)).t0
  have hk:=Bb (J:=J) hV he (n:=n+1) (by omega) hrow2 (i:=n) (by omega)
  have hw:=pQ (J:=J) (xss:=xss++[xs]) he n
  have hlen:=uv (J:=J) hV he (n:=n+1) (by omega) hrow2 (i:=n+1) (by omega)
  rw [hl2] at hk hw
  obtain ⟨b,a,rfl,hI⟩:=hl.at (k:=0) (by omega)
  refine (xe (c:=c) (j:=J n) (h.w λ i hi=>JC S J xss xs (by omega)) (by omega) hev hAt.1 (n:Int) ht hAt.2 hE hI (by omega) (by omega) hk hw (by omega)).mono λ u H' hq=>?_
  obtain ⟨x,rfl,rfl,hx⟩:=hq
  exact ⟨x,rfl,.inl ⟨rfl,rfl,hx⟩⟩
 ·have ht:=(o8 (J:=J) hV he (n:=n) (by omega) hrow (i:=n) (by omega)).t0
  refine (Dh (c:=c) h e hl (by omega) (n:Int) ht (by rw [he.pl];exact hw) h0).mono λ u H' hq=>?_
  obtain ⟨x,rfl,rfl,hx⟩:=hq
  exact ⟨x,rfl,.inr ⟨h0,rfl,hx⟩⟩
theorem LW {F:HL} {A:Option Addr} {n:Nat} {xs:List Inp} (h:RowB F A n λ k=>xs.getD k dI) (hx:xs.length=n):∃ fx:List Inp,fx.length=min n 4 /\ RowB F A fx.length λ k=>fx.getD k dI:=by
 refine ⟨xs.take 4,by rw [List.length_take];omega,?_⟩
 rcases h with h | ⟨b,a,rfl,hI⟩
 ·left;rw [List.length_take];omega
 ·refine .inr ⟨b,a,rfl,λ w hw k hk=>?_⟩
  rw [List.length_take] at hk
  have e:(xs.take 4).getD k dI=xs.getD k dI:=by rw [List.getD_eq_getElem?_getD,List.getD_eq_getElem?_getD,List.getElem?_take,if_pos (by omega)]
  show w.rangeAt b (a+k * 3) [vI ((xs.take 4).getD k dI).dx,vI ((xs.take 4).getD k dI).dy,vI ((xs.take 4).getD k dI).act]
  rw [e]
  exact hI w hw k (by omega)
theorem LX {rs_:List Bx} {ds_:List Dr} {bp ev rp n:Nat} {S S2:Setup} {W:Nat -> List Int} {pre:List (List Inp)} {G F:HL} {z:Int} (h:RecH rs_ ds_ bp ev rp S S2 W n pre G) (hF:∀ x ∈ G,x ∈ F) (e:(n:Int)=z):Sp Tryz.prog 10 #[vP rp 0] [] F (λ u H'=>u=vI z /\ H'=[]):=e ▸ xj h hF
open Go.Shelf
section
variable {r:Option Nat} {P:Program} {N:Nat} {D:List Deferred} {F:HL} {w0:World} {R:HL} {s:Cfg} {Q:Exit -> Act -> World -> Prop}
def O8 (K:Act -> World -> Prop) (s:Cfg):Cfg:=match s with
 | ⟨.code c,k,L,A,Ts⟩=>⟨.code c,.met K :: k,L,A,Ts⟩
 | s=>s
def Hh (s:Cfg):Bool:=match s.c with
 | .code _=>true
 | _=>false
def O9 (V:Inv) (s:Cfg):Cfg:=⟨.ex .normal,s.k,V.L,V.A,V.Ts⟩
theorem Hj {σ:Type} (V:σ -> Inv)
  (first:(∀ {s':Cfg} {R':HL} (x':σ) (ip jp:List Nat),(V x').I -> (hm:Bp s'=some (MV N D F w0 V (λ x'=>(V x').I)):=by kernel_rfl) -> (h:tI (V x') ip jp s'=mV (V x'):=by kernel_rfl) -> (hp:bX ip jp s'=true:=by kernel_rfl) -> RN r P N D F w0 R' s' Q) ->
   RN r P N D F w0 R (O8 (MV N D F w0 V (λ x'=>(V x').I)) s) Q)
  (rest:∀ x,(V x).I -> RN r P N D F w0 R (O9 (V x) s) Q) (hc:Hh s=true:=by kernel_rfl):RN r P N D F w0 R s Q:=by
 refine ⟨λ hR a w h1 h2 h3=>?_⟩
 have h4:=(first (λ x' ip jp hi hm h hp=>pC x' ip jp hi hm h hp)).h hR
 obtain ⟨c,k,L,A,Ts⟩:=s
 unfold Hh at hc
 split at hc
 case h_2=>cases hc
 rename_i c' e1
 simp only at e1
 subst e1
 refine wpIn_mono (h4 a w h1 h2 h3) λ e a w q=>?_
 cases e with
 | normal =>
  obtain ⟨x,hI,m1,m2,m3⟩:=q
  exact (rest x hI).h hR a w m1 m2 m3
 | exit id=>exact q
 | goto l=>exact q
 | ret=>exact q
 | panic ch=>exact q
 | outgrown=>exact q
end
def Pa (e:Int) (v:Value) (c:Int):Prop:=((1 <= e /\ e <= 60) /\ c=0 /\ ∃ r:Nat,v=vP r 0) \/ (¬ (1 <= e /\ e <= 60) /\ c=6 /\ v=.pointer none)
theorem LY (S:Setup) (rs:List Bx) (ds:List Dr) (bp:Nat) (e:Int) (F:HL) (hS:SetCl F S) (hM:MapIn F S rs ds) (h1:1 <= S.nb) (hrn:S.rn <= 1000000) (hdn:S.dn <= 1000000) (hsz:(sizeOf S).toNat <= 1000000) (hv:fh S rs ds=0):Sp Tryz.prog 6 #[Setup.v S,vP bp 0,vI e] (ap [] []) F (λ u H'=>∃ x:(Value × Int) × HL,H'=ap [] [x.2] /\ (u=.tuple #[x.1.1,vI x.1.2] /\ Pa e x.1.1 x.1.2)):=by
 refine (Hb S rs ds bp e F hS hM h1 hrn hdn hsz hv).mono λ u H' hq=>?_
 obtain ⟨x,rfl,⟨h,rfl⟩ | ⟨h,rfl⟩⟩:=hq
 ·exact ⟨((vP x.1 0,0),x.2),rfl,rfl,.inl ⟨h,rfl,_,rfl⟩⟩
 ·exact ⟨((.pointer none,6),x.2),rfl,rfl,.inr ⟨h,rfl,rfl⟩⟩
theorem JD {S:Setup} {A:Option Addr} {m cap:Nat} {xs:List Inp} {F:HL} (hl:RowB F A xs.length λ k=>xs.getD k dI) (hm:xs.length=m) (h4:xs.length <= 4) (now e:Int) (he:bF S.players xs.length xs now=e):Sp Tryz.prog 9 #[Setup.v S,vI now,.slice A m cap] [] F (λ u H'=>u=vI e /\ H'=[]):=by
 subst hm;subst he
 exact Jp hl (by omega) rfl now
theorem Dn (A0 AR:Option Addr) (n0 c0 nR cR:Nat) (xs:List Int) (xR:List Inp) (i1:Int) (F:HL) (hE0:o7 F) (hE1:dg F) (hl0:ArgD F A0 n0 xs) (hn0:n0 <= 9223372036854775807) (hi1:mr i1) (hR:RowB F AR nR λ k=>xR.getD k dI) (hRl:xR.length=nR) (hRc:nR <= cR):Sp Tryz.prog 3 #[.slice A0 n0 c0,vI i1,.slice AR nR cR] [] F (λ u H'=>u=.bool true /\ H'=[]):=by
 refine Sp.run Tryz.func3 rfl mn (A:=[]) (Ts:=[]) rfl λ w0=>?_
 refine ae 8 [] λ _=>RN.ct (Hp:=[]) (Tp:=[]) [] [] (hl0.up.use λ F_ h_=>Cp A0 n0 c0 xs _ h_ hn0) ?_
 rintro _ ⟨S,TS⟩ ⟨rfl,hG⟩
 dsimp only at hG
 have hF:=LE hl0 hG
 have hpl:=hF.pl
 have hnb:=hF.nb
 have hrn:=hF.rn
 have hdn:=hF.dn
 have hsz:=hF.sz
 have hil:=gv S S.nb
 have hV:SetV S:=hl0.ex.elim λ _ h_=>setV h_ hG
 refine ae 6 (ow 0 16) λ n1=>RN.ct (Hp:=[]) (Tp:=[]) [] [] (rj 1 _ (by unfold mr;omega) (aw hE0)) ?_
 rintro _ ⟨b2,T3⟩ ⟨rfl,hB4⟩
 dsimp only at hB4
 have hj1:(aC 1 5).toNat < 5:=by have:=dF (n:=1) (by unfold mr;omega) 5 (by decide);omega
 have hj2:(aC (IntKind.i64.wrap (1+1)) 5).toNat < 5:=by have:=dF (n:=(IntKind.i64.wrap (1+1))) (GY _) 5 (by decide);omega
 obtain ⟨j1,ej1⟩:∃ j,(aC 1 5).toNat=j:=⟨_,rfl⟩
 obtain ⟨j2,ej2⟩:∃ j,(aC (IntKind.i64.wrap (1+1)) 5).toNat=j:=⟨_,rfl⟩
 rw [ej1] at hj1
 rw [ej2] at hj2
 rw [ej1,ej2] at hB4
 refine ae 18 (ow 0 16) λ _=>RN.ct (Hp:=[]) (Tp:=[]) [] [] (LY S ql (jY (kv xs 3 % 3).toNat) b2 i1 _ (hG.sin _ (aB 1) (av 1)).cl (hG.maps.2 _ (av 1)) (by omega) (by omega) (by omega) (by omega) hF.val) ?_
 rintro _ ⟨⟨pv5,ec6⟩,T7⟩ ⟨rfl,hN8⟩
 dsimp only at hN8
 refine ae 9 [] λ _=>Hj (σ:=Unit) (λ _=>⟨[(0,.slice A0 n0 c0),(2,.slice AR nR cR),(7,vP (n1+0) 0),(8,vP b2 0),(52,.bool false)],[((n1+0),.lit (Setup.l S) 32 (0,0)),(S.bb,.rows 9 S.bR (iw S.bods) 62 (0,0))],[T7,T3,TS],True,0⟩) ?_ ?_
 ·intro mt9
  rcases hN8 with ⟨hn11,rfl,r10,rfl⟩ | ⟨hn11,rfl,rfl⟩
  ·refine ae 6 [] λ _=>RN.em (i1 >= 1) 36 (λ h12=>?_) λ h12=>?_
   ·refine ae 3 [] λ _=>RN.em (i1 <= 60) 39 (λ h13=>?_) λ h13=>?_
    ·refine ae 14 [] λ _=>?_
     refine mt9 () [0,1] [0,1,2] ?_
     try dsimp only
     all_goals trivial
    ·(exfalso;omega)
   ·(exfalso;omega)
  ·refine ae 6 [] λ _=>RN.em (i1 >= 1) 36 (λ h14=>?_) λ h14=>?_
   ·refine ae 3 [] λ _=>RN.em (i1 <= 60) 39 (λ h15=>?_) λ h15=>?_
    ·(exfalso;omega)
    ·refine ae 14 [] λ _=>?_
     refine mt9 () [0,1] [0,1,2] ?_
     try dsimp only
     all_goals trivial
   ·refine ae 17 [] λ _=>?_
    refine mt9 () [0,1] [0,1,2] ?_
    try dsimp only
    all_goals trivial
 ·rintro _ _
  refine ae 5 [] λ _=>RN.draw [] []<|ag [] [0,1,2,3] (ow 0 32) ?_
  obtain ⟨cnt,hcnt,hcl⟩:∃ cnt:Nat,aC 3 10=(cnt:Int) /\ cnt <= 9:=⟨(aC 3 10).toNat,by have:=dF (n:=3) (by unfold mr;omega) 10 (by decide);omega,by have:=dF (n:=3) (by unfold mr;omega) 10 (by decide);omega⟩
  refine RD.one 4 (RDO.ct [] (Hp:=[]) (Tp:=[]) [] [] (hl0.up.use λ F_ h_=>zj S A0 n0 c0 xs 3 cnt F_ h_ hn0 (by omega) hcnt (by omega)) ?_)
  rintro _ ⟨⟨A16,c17,rs18⟩,E19,T20⟩ ⟨rfl,hs21,hl22,hT23⟩
  dsimp only at hs21 hl22 hT23
  have hgr:∀ i,i < cnt -> fQ S.players ((fM S.players xs cnt).getD i []):=λ i hi=>hl0.ex.elim λ _ h_=>zi h_ (by omega) cnt i hi
  have hcap_:cnt <= c17:=by have h_:=hs21.capL;omega
  obtain ⟨ev1,he1,hev1⟩:∃ ev:Nat,(2:Int)=(ev:Int) /\ (1 <= ev /\ ev <= 60):=⟨2,rfl,by decide⟩
  refine RD.one 5 (RDO.ct [] (Hp:=[]) (Tp:=[]) [] [] (LQ S ql (jY (kv xs 3 % 3).toNat) b2 ev1 cnt c17 (L9 4 j1 j2 0) A16 rs18 (fM S.players xs cnt) _ (hG.sin _ (aB 1) (av 4)).cl (hG.maps.2 _ (av 4)) hV (by omega) (by omega) (by omega) (by omega) hF.val hev1 (aw hE1) (hs21.rowN (av 0) hl22) (hT23 _ (av 1)) (by omega) hgr (λ i hi=>AZ hB4 (av 3) hj1 hj2 (t:=0+i) (by omega)) he1) ?_)
  rintro _ ⟨r24,S25,T26⟩ ⟨rfl,he27,hr28⟩
  dsimp only at he27 hr28
  refine ag [] [6] []<|RD.fin<|ae 17 [] λ _=>?_
  obtain ⟨fx,hfl,hfB⟩:=LW hR hRl
  obtain ⟨mf,hmf⟩:∃ m,fx.length=m:=⟨_,rfl⟩
  refine aK 64 (congrArg (λ v_=>(vI v_:Value)) (show (if 4 < (nR:Int) then 4 else (nR:Int))=(mf:Int) by split <;> omega))<|ai 5 [.sl0 mf] [(mf:Int)=((mf:Nat):Int) /\ mf <= cR] λ _=>RN.draw [] []<|ag [] [0,1,3] (ow 0 16)<|au [] 2 (λ X_=>(xj hr28 (aU 0))) ?_
  obtain ⟨we,hwe⟩:∃ e,bF S.players fx.length fx (cnt:Int)=e:=⟨_,rfl⟩
  refine au [] 4 (λ X_=>(JD (cap:=cR) (hfB.mono λ x hx=>nJ hx) hmf (by omega) (cnt:Int) we hwe))<|ag [] [5] []<|RD.fin<|ae 4 [] λ _=>?_
  obtain ⟨BZ,hBZ⟩:∃ z,zo 4 j1 j2=z:=⟨_,rfl⟩
  obtain ⟨y29,hy29⟩:∃ z,G7 BZ ev1 cnt (fM S.players xs cnt) (WS S (L9 4 j1 j2 0) (fM S.players xs cnt))=z:=⟨_,rfl⟩
  refine aj (G9 hr28 (av 0) (Nat.lt_of_le_of_lt hev1.2 (by decide)) (by omega) (λ i hi=>by have h_:=(hgr i hi).1;omega) BZ (λ F_ hF_=>G8 hB4 (λ x hx=>hF_ x ((av 4) x hx)) hj1 hj2 hBZ) hy29)<|ae 6 [] λ _=>aj (xj hr28 (av 0))<|ae 5 [] λ _=>Hj (σ:=Unit) (λ _=>⟨[(7,vP (n1+0) 0),(8,vP b2 0),(106,.bool false)],[((n1+0),.lit (Setup.l S) 32 (0,0)),(S.bb,.rows 9 S.bR (iw S.bods) 62 (0,0))],[E19,T20,T7,T3,TS],True,0⟩) ?_ ?_
  ·intro mt30
   refine ae 3 [] λ _=>RN.ct [] [0] (Hg (c:=cR) (J:=(L9 4 j1 j2 0)) hr28 hV he27 (zg _ _ _) (by omega) hev1 hgr (hfB.mono λ x hx=>aw hx) (by omega) (AZ hB4 (av 3) hj1 hj2 (t:=0+cnt) (by omega)) (aw hE1) (by omega) we hwe hmf) ?_
   rintro _ T31 (⟨hw32,rfl,hr33⟩ | ⟨hw32,rfl,hr33⟩)
   ·refine ae 3 [] λ _=>RN.en (we=we) 80 (λ h34=>?_) λ h34=>?_
    ·refine ae 3 [] λ _=>RN.fx 83 (nt (decide_eq_true hw32))<|ae 16 [] λ _=>RN.fx 99 (decide_eq_true hw32)<|ae 1 [] λ _=>aj (LX (z:=(cnt:Int)+1) hr33 (av 0) (by omega))<|ai 6 [.nw] [bg ((cnt:Int)+1)] λ _=>aK 106 (show (.bool (!(decide ((cnt:Int)+1=(cnt:Int)+1))):Value)=.bool false by simp) ?_
     refine mt30 () [0,1] [1,2,3,4,5] ?_
     try dsimp only
     all_goals trivial
    ·exact absurd rfl h34
   ·refine ae 3 [] λ _=>RN.en (we=we) 80 (λ h35=>?_) λ h35=>?_
    ·refine ae 3 [] λ _=>RN.fx 83 (nf (decide_eq_false hw32))<|ae 1 [] λ _=>aj (xj hr33 (av 0))<|ae 3 [] λ _=>RN.en ((cnt:Int)=(cnt:Int)) 88 (λ h36=>?_) λ h36=>?_
     ·refine ae 1 [] λ _=>aj (G9 hr33 (av 0) (Nat.lt_of_le_of_lt hev1.2 (by decide)) (by omega) (λ i hi=>by have h_:=(hgr i hi).1;omega) BZ (λ F_ hF_=>G8 hB4 (λ x hx=>hF_ x ((av 4) x hx)) hj1 hj2 hBZ) hy29)<|ae 6 [] λ _=>RN.en (y29=y29) 96 (λ h37=>?_) λ h37=>?_
      ·refine ae 3 [] λ _=>RN.fx 99 (decide_eq_false hw32)<|ae 8 [] λ _=>?_
       refine mt30 () [0,1] [1,2,3,4,5] ?_
       try dsimp only
       all_goals trivial
      ·exact absurd rfl h37
     ·exact absurd rfl h36
    ·exact absurd rfl h35
  ·rintro _ _
   refine ae 14 (ow 0 17) λ _=>aj (Dj (S.fg (-1)) ql (jY (kv xs 3 % 3).toNat) b2 0 _ (He (hG.sin _ (aB 1) (av 4)).cl) (Bi (hG.maps.2 _ (av 4))) (Hc hF.val))<|ae 11 (ow 0 16) λ _=>aj (Dk (S.fg (-1)) ql (jY (kv xs 3 % 3).toNat) b2 _ (He (hG.sin _ (aB 1) (av 4)).cl) (Bi (hG.maps.2 _ (av 4))) (Hc hF.val))<|ae 24 [] λ _=>aj (xm _ (aw hE0) (aw hE1))<|ae 4 [] λ _=>?_
   exact RN.ret [] [] [] ⟨rfl,rfl⟩
open Go.ChangeShapes Go.WideShapes Go.ChangeAt
theorem Hk:ownKnob Tryz.prog.godebug=none:=by kernel_rfl
theorem Hm:laidOutB Tryz.prog=true:=by kernel_rfl
theorem tu {n:Int} (h:(Lit.int .i64 n).wf=true):-9223372036854775808 <= n /\ n <= 9223372036854775807:=bounds_i64 h
section
variable {H:Type} {enc:TypeId × Value -> H} {P:Program} {W W':World}
theorem l8 (hl:laidOutB P=true) (hb:Below W.heap.size W W'):∀ {ts:List TypeId} {vs:List Value} {ds:List (DataW H)} {ps:List MemPlace},(∀ t ∈ ts,P.readableRec t=true /\ t < P.types.size) ->
  DataW.TrodAll enc P W 0 (λ _=>true) true ts vs ds ps -> (∀ x ∈ ps,x.block < W.heap.size) -> DataW.TrodAll enc P W' 0 (λ b=>decide (b < W.heap.size)) true ts vs ds ps
 | [],_,_,_,_,h,_=>by
  obtain ⟨rfl,rfl,rfl⟩:=trodAll_nil h
  exact trodAll_mk0
 | t :: ts,_,_,_,ht,h,hlt=>by
  obtain ⟨v,vs1,d,ds1,a,b,rfl,rfl,rfl,h1,h2⟩:=trodAll_cons h
  have h3:=ht t (by simp)
  exact trodAll_cons_mk (Below.trod hl h3.1 h3.2 h1 hb (λ x hx=>hlt x (by simp [hx]))) (l8 hl hb (λ t h=>ht t (List.mem_cons_of_mem _ h)) h2 (λ x hx=>hlt x (by simp [hx])))
theorem Hn {f:Func} {s:ChangeSpec} {apart fresh handsOn:Bool} {args:Array Value} {v:Value} {ds:List (DataW H)} {before:List MemPlace} (hl:laidOutB P=true)
  (hts:∀ t ∈ f.params.toList,P.readableRec t=true /\ t < P.types.size)
  (hW:DataW.Whole enc P f.params.toList s.vars apart W args.toList ds [] before) (hs:s.vars=[])
  (hA:DataW.TrodAll enc P W 0 (λ _=>true) true f.params.toList args.toList ds before)
  (hres:∀ (b:Nat) (sp:Nat -> Bool) (hd:Bool),DataW.TrodAll enc P W' b sp hd f.resultTypes.toList (v.resultList f.resultTypes.size) (s.fn H (ds++[])).results [])
  (hargs:(s.fn H (ds++[])).args=ds) (hvars:∀ sp,DataW.TrodVars enc P W' sp s.vars (s.fn H (ds++[])).vars []) (hb:Below W.heap.size W W') :
  s.post enc P f apart fresh handsOn false W args v W':=by
 refine ⟨ds,[],before,[],before,[],hW,hres _ _ _,?_,hvars _,hb.frame _,λ h=>by cases h⟩
 rw [hargs]
 exact l8 hl hb hts hA (λ x hx=>hW.lt x hx)
end
def ry:Obj -> Blk
 | .cells cs ty fz=>.rows 1 cs.size (λ i _=>cs.getD i default) ty fz
 | o=>.obj o
theorem jS (o:Obj):(ry o).den=o:=by
 cases o with
 | cells cs ty fz =>
  show Obj.cells ⟨bB 1 (λ i _=>cs.getD i default) cs.size⟩ ty fz=_
  congr 1
  have e:bB 1 (λ i _=>cs.getD i default) cs.size=cs.toList:=by
   refine ie (by simp) ?_
   intro i k hi hk
   obtain rfl:k=0:=by omega
   simp [Array.getD,hi]
  rw [e]
 | _=>rfl
def ke (w:World):HL:=List.ofFn (λ k:Fin w.heap.size=>(k.1,ry w.heap[k.1]))
theorem mL {w:World} {k:Nat} {o:Obj} (h:w.heap[k]?=some o):(k,ry o) ∈ ke w:=by
 obtain ⟨hk,he⟩:=Array.getElem?_eq_some_iff.1 h
 exact List.mem_ofFn.2 ⟨⟨k,hk⟩,by simp [he]⟩
theorem zq (w:World):Rel (ke w) w:=by
 refine ⟨λ x hx=>?_,?_⟩
 ·obtain ⟨k,rfl⟩:=List.mem_ofFn.1 hx
  simp [jS]
 ·unfold ke
  rw [List.map_ofFn]
  have e:List.ofFn ((λ x:Nat × Blk=>x.1) ∘ λ k:Fin w.heap.size=>(k.1,ry w.heap[k.1]))=List.range w.heap.size:=by
   apply List.ext_getElem
   ·simp
   ·intro i h1 h2;simp
  rw [e]
  exact List.nodup_range
theorem Dp {P:Program} {f:FuncId} {args:Array Value} {v:Value} (w:World) (h:Sp P f args [] (ke w) (λ u H'=>u=v /\ H'=[])):Calls P f args w λ e w'=>e=.returned v /\ Below w.heap.size w w':=by
 refine (h w (zq w)).mono ?_
 rintro e w' ⟨u,H',rfl,⟨rfl,rfl⟩,hR',hB⟩
 refine ⟨rfl,hB.os,hB.tape,hB.output,hB.size,λ k hk=>?_⟩
 have:=hR'.holds (k,ry w.heap[k]) (by rw [List.nil_append];exact mL (by simp [hk]))
 rw [this]
 simp [jS,hk]
theorem Hs {H:Type} {enc:TypeId × Value -> H} {w:World} {r:Reach} {b0:Nat} {v:Value} {d:DataW H} {ps:List MemPlace} (hval:Value.okWide Tryz.prog w r b0 22 v) (hd:DataW.Trod enc Tryz.prog w 0 (λ _=>true) true 22 v d ps) :
  ∃ (A:Option Addr) (n cap:Nat) (xs:List Int),v=.slice A n cap /\ n <= 9223372036854775807 /\ ArgL (ke w) A n xs /\ n <= cap:=by
 obtain ⟨a0,len,cap,rfl⟩:=okWide_slice Tryz.underlying22 hval
 obtain ⟨fuel,hf⟩:=hd
 rcases open_ints Tryz.underlying22 Tryz.underlying3 (by kernel_rfl) hf with ⟨hcs,hx⟩ | ⟨a,len',cap',zs,hcs,_,hl,hm,hz,hx,hcell,hwz⟩
 ·simp [Value.cells] at hcs
  obtain ⟨rfl,rfl,rfl⟩:=hcs
  exact ⟨none,0,0,[],rfl,by omega,.zero _,Nat.le_refl _⟩
 ·simp [Value.cells] at hcs
  obtain ⟨rfl,rfl,rfl⟩:=hcs
  unfold maxLen at hm
  simp at hz
  rcases Nat.eq_zero_or_pos len with h0 | hpos
  ·subst h0
   exact ⟨some a,0,_,[],rfl,by omega,.zero _,Nat.zero_le _⟩
  ·have hlz:len <= zs.length:=by omega
   obtain ⟨b,off,spot⟩:=a
   have c0:=hcell 0 (by omega)
   have hsp:spot=none:=by
    cases spot with
    | none=>rfl
    | some s=>simp [Addr.add,World.cell?] at c0;split at c0 <;> simp at c0
   subst hsp
   have hc:∀ i,i < zs.length -> w.cell? ⟨b,off+i,none⟩=some (.int .i64 (zs.getD i 0)):=λ i hi=>by
    have:=hcell i hi
    unfold Addr.add at this
    by_cases h:i=0
    ·subst h;simpa using this
    ·rw [if_neg h] at this;exact this
   have h0:=hc 0 (by omega)
   unfold World.cell? at h0
   split at h0
   case h_2=>cases h0
   rename_i cs ty fz hb
   refine ⟨some ⟨b,off,none⟩,len,cap,zs.take len,rfl,by omega,?_,hl⟩
   have hlen:(zs.take len).length=len:=by rw [List.length_take];omega
   have hcs:∀ k,k < len -> cs[off+k]?=some (vI ((zs.take len).getD k 0)):=λ k hk=>by
    have h1:=hc k (by omega)
    unfold World.cell? at h1
    rw [show w.heap[(⟨b,off+k,none⟩:Addr).block]?=some (.cells cs ty fz) from hb] at h1
    have h2:cs[off+k]?=some (.int .i64 (zs.getD k 0)):=by simpa using h1
    rw [h2]
    simp [List.getD_eq_getElem?_getD,List.getElem?_take,hk]
   have hmem:=mL hb
   have hle:off+len <= cs.size:=by
    have h1:=hcs (len - 1) (by omega)
    have h2:=(Array.getElem?_eq_some_iff.1 h1).1
    omega
   have:=ArgL.cells (F:=ke w) b off cs.size (λ i _=>cs.getD i default) ty fz (zs.take len) hmem (by rw [hlen];exact hle) (λ k hk=>by
    rw [hlen] at hk
    have h1:=hcs k hk
    simp only [Array.getD_eq_getD_getElem?]
    rw [h1];rfl) (λ k hk=>by
    rw [hlen] at hk
    have:(zs.take len).getD k 0 ∈ zs:=by
     rw [List.getD_eq_getElem?_getD,List.getElem?_eq_getElem (by omega)]
     exact List.mem_of_mem_take (List.getElem_mem _)
    exact tu (hwz _ this))
   rw [hlen] at this
   exact this
theorem rV {H:Type} {enc:TypeId × Value -> H} {P:Program} {w:World} {base:Nat} {sp:Nat -> Bool} {held:Bool} {fuel:Nat} {t e:TypeId} {n m:Nat} {k:IntKind} {fs:Array Field} {cs:List Value} {zs:List (List Int)} {p:List MemPlace}
  (ht:P.underlying t=some (.array n e)) (he:P.underlying e=some (.struct fs)) (hce:P.cellsOf e=m) (hct:P.cellsOf t=n * m) (hm:0 < m) (hfl:fs.toList.length=m)
  (hf:∀ (j:Nat) f,fs.toList[j]?=some f -> P.underlying f.type=some (.int k) /\ P.cellsOf f.type=1 /\ f.offset=j) (hz:∀ z ∈ zs,z.length=m)
  (h:DataW.trod enc P w base sp held fuel t cs=some (.agg (zs.map λ z=>.agg (z.map λ x=>.lit (.int k x))),p)) :
  cs.length=n * m /\ zs.length=n /\ ∀ i j,i < n -> j < m -> cs[i * m+j]?=some (.int k ((zs.getD i []).getD j 0)):=by
 cases fuel with
 | zero=>simp [DataW.trod] at h
 | succ fuel =>
  simp only [DataW.trod,ht,hce,hct] at h
  split at h
  case isFalse=>cases h
  rename_i hl
  obtain ⟨xs,hmm,hx⟩:=Option.map_eq_some_iff.1 h
  have hxs:xs.map (·.1)=zs.map λ z=>(DataW.agg (z.map λ x=>.lit (.int k x)):DataW H):=by
   have:=congrArg Prod.fst hx
   simpa using this
  have hxl:xs.length=n:=by simpa using Lib.mapM_length hmm
  have hzl:zs.length=n:=by
   have:=congrArg List.length hxs
   simp at this
   omega
  refine ⟨hl,hzl,λ i j hi hj=>?_⟩
  obtain ⟨b,hb,hfb⟩:=Lib.mapM_at hmm i i (by simp [hi])
  have hbz:b.1=.agg ((zs.getD i []).map λ x=>.lit (.int k x)):=by
   have h2:(xs.map (·.1))[i]?=some b.1:=by simp [hb]
   rw [hxs,List.getElem?_map,List.getElem?_eq_getElem (by omega)] at h2
   simp only [Option.map_some,Option.some.injEq] at h2
   rw [<- h2,List.getD_eq_getElem?_getD,List.getElem?_eq_getElem (by omega)]
   rfl
  have hzi:(zs.getD i []).length=m:=by
   rw [List.getD_eq_getElem?_getD,List.getElem?_eq_getElem (by omega)]
   exact hz _ (List.getElem_mem _)
  cases fuel with
  | zero=>simp [DataW.trod] at hfb
  | succ fuel =>
   have hfb':=hfb
   simp only [DataW.trod,he,hce] at hfb'
   split at hfb'
   case isFalse=>cases hfb'
   rename_i hcl
   obtain ⟨ys,hym,hy⟩:=Option.map_eq_some_iff.1 hfb'
   have hys:ys.map (·.1)=(zs.getD i []).map λ x=>(DataW.lit (.int k x):DataW H):=by
    have:=congrArg Prod.fst hy
    rw [hbz] at this
    simpa using this
   have hfj:fs.toList[j]?=some (fs.toList[j]'(by omega)):=List.getElem?_eq_getElem (by omega)
   obtain ⟨c,hc,hfc⟩:=Lib.mapM_at hym j _ hfj
   obtain ⟨f1,f2,f3⟩:=hf j _ hfj
   rw [f2,f3] at hfc
   obtain ⟨x,hcx,hcd,_⟩:=DataW.trod_int f1 hfc
   have h1:(((cs.drop (i * m)).take m).drop j).take 1=[.int k x]:=hcx
   have h2:cs[i * m+j]?=some (.int k x):=by
    have:=congrArg (·[0]?) h1
    simpa [List.getElem?_take,List.getElem?_drop,hj] using this
   have h3:(ys.map (·.1))[j]?=some (DataW.lit (.int k x):DataW H):=by simp [hc,hcd]
   rw [hys,List.getElem?_map,List.getElem?_eq_getElem (by omega)] at h3
   simp only [Option.map_some,Option.some.injEq,DataW.lit.injEq,Lit.int.injEq,true_and] at h3
   have h4:∀ l:List Int,(hl:j < l.length) -> l[j]=l.getD j 0:=λ l hl=>by simp [List.getD_eq_getElem?_getD,hl]
   rw [h2,<- h3,h4 _ (by omega)]
theorem kf {H:Type} {enc:TypeId × Value -> H} {a:Assume} {C:Checked} {os:Os} {f:FuncId} {fn:Func} {s:ChangeSpec} {conds:List PathCond} {apart fresh handsOn again:Bool} {X:World -> Array Value -> Prop}
  (hX:∀ (w w':World) (args:Array Value),w.heap=w'.heap -> X w args -> X w' args)
  (own:ownKnob C.prog.godebug=none) (started:os.Started) (noInit:C.prog.inits.idxOf? f=none) (hfn:C.prog.funcs[f]?=some fn)
  (witness:∃ (w:World) (tape:Tape) (i:Input),w.os=os /\ (w.forCall tape i).Shaped C.prog /\ i.vars=[] /\ Input.okWide C.prog (w.forCall tape i) .any w.heap.size f i /\
   ((s.pre enc C.prog fn conds apart (w.forCall tape i).memory i.args /\ X (w.forCall tape i).memory i.args) /\ sizedMet enc C.prog fn (OpenSpec.ofChange s) apart (w.forCall tape i).memory i.args) /\ a.holds C.prog (lone (Frame.enter C.prog f i.args .normal) [] (w.forCall tape i)))
  (contract:∀ (W:World) (base:Nat) (args:Array Value) (ds gs:List (DataW H)) (before:List MemPlace),W.ShapedOpen C.prog ->
   (∀ (j:Nat) t v,fn.params[j]?=some t -> args[j]?=some v -> Value.okWide C.prog W .any base t v) ->
   DataW.Whole enc C.prog fn.params.toList s.vars apart W args.toList ds gs before -> X W args ->
   Calls C.prog f args W λ e W'=>∃ v,e=.returned v /\ s.post enc C.prog fn apart fresh handsOn again W args v W') :
  ReturnsInHanded a C os f .any (λ w args=>(s.pre enc C.prog fn conds apart w args /\ X w args) /\ sizedMet enc C.prog fn (OpenSpec.ofChange s) apart w args) (s.post enc C.prog fn apart fresh handsOn again):=by
 refine returnsInHanded_of_calls own started noInit witness ?_
 intro w tape i _ hsh _ hok hpre hholds
 obtain ⟨_,_,_,fn',hfn',_,_,_,_,hval⟩:=hok
 have e:fn'=fn:=Option.some.inj (hfn'.symm.trans hfn)
 subst e
 obtain ⟨⟨⟨ds,gs,before,hw,hc⟩,hx⟩,hz⟩:=hpre
 have hw':=DataW.Whole.of_heap (w':=w.forCall tape i) (by rfl) hw
 refine (contract (w.forCall tape i) w.heap.size i.args ds gs before hsh hval hw' (hX _ _ _ (by rfl) hx)).mono λ e W' ⟨v,he,hp⟩=>?_
 subst he
 exact ChangeSpec.post_blind hp
def ceZ:List (List Int):=[[0,0],[0,1],[0,1],[1,0],[1,1],[2,0],[0,1],[0,1],[0,1],[2,1],[2,1],[2,1],[2,1],[1,1],[2,1],[2,1],[2,1],[1,1],[0,0],[1,0],[2,0],[0,0]]
def Bj:Nat -> Nat -> Value:=λ i j=>.int .i64 ((ceZ.getD i []).getD j 0)
theorem Ht:(Blk.rows 2 22 Bj 250 (0,0)).den=(Blk.lit us 250 (0,0)).den:=by kernel_rfl
def efZ:List (List Int):=m9.map λ z=>[z.1,z.2.1,z.2.2]
theorem xw (g:Nat) (t:TypeId) (hg:g < Tryz.prog.globals.size) (h0:(((begin Tryz.prog (λ _ _=>0) default).world.heap[g]?).bind Obj.row?).map (·.2)=some t) {W:World} (hs:W.ShapedOpen Tryz.prog):∃ cs,W.heap[g]?=some (.cells cs t (0,0)):=by
 cases h:((begin Tryz.prog (λ _ _=>0) default).world.heap[g]?).bind Obj.row? with
 | none=>rw [h] at h0;cases h0
 | some x =>
  obtain ⟨z,t'⟩:=x
  rw [h] at h0
  simp only [Option.map_some,Option.some.injEq] at h0
  subst h0
  obtain ⟨cs,h1,_⟩:=hs.1 g z t' hg h
  exact ⟨cs,h1⟩
def Hu (P:Program) (e:TypeId) (m:Nat):Bool :=
 match P.underlying e with
 | some (.struct fs)=>decide (fs.toList.length=m) && (List.range m).all λ j =>
  match fs.toList[j]? with
  | some f=>(match P.underlying f.type with | some (.int .i64)=>true | _=>false) && decide (P.cellsOf f.type=1) && decide (f.offset=j)
  | none=>false
 | _=>false
theorem tw {P:Program} {e:TypeId} {m:Nat} (h:Hu P e m=true):∃ fs:Array Field,P.underlying e=some (.struct fs) /\ fs.toList.length=m /\
  ∀ (j:Nat) f,fs.toList[j]?=some f -> P.underlying f.type=some (.int .i64) /\ P.cellsOf f.type=1 /\ f.offset=j:=by
 unfold Hu at h
 split at h
 case h_2=>cases h
 rename_i fs hfs
 rw [Bool.and_eq_true] at h
 have hm:fs.toList.length=m:=of_decide_eq_true h.1
 refine ⟨fs,hfs,hm,λ j f hj=>?_⟩
 have hjm:j < m:=by rw [<- hm];exact (List.getElem?_eq_some_iff.1 hj).1
 have h2:=List.all_eq_true.1 h.2 j (List.mem_range.2 hjm)
 rw [hj] at h2
 simp only [Bool.and_eq_true,decide_eq_true_eq] at h2
 refine ⟨?_,h2.1.2,h2.2⟩
 have h3:=h2.1.1
 split at h3
 ·assumption
 ·cases h3
theorem Bk {P:Program} {W:World} {name:String} {g n m:Nat} {t e:TypeId} {zs:List (List Int)} {rest:List (String × DataW Unit)} {ps:List MemPlace} {row:Nat -> Nat -> Value} {cs0:Array Value}
  (hb:W.heap[g]?=some (.cells cs0 t (0,0)))
  (hg:P.globalNamed name=some g) (hty:(P.globals[g]?).map (·.type)=some t) (ht:P.underlying t=some (.array n e)) (hE:Hu P e m=true) (hce:P.cellsOf e=m) (hct:P.cellsOf t=n * m) (hm:0 < m) (hz:∀ z ∈ zs,z.length=m)
  (hrow:∀ i j,i < n -> j < m -> row i j=.int .i64 ((zs.getD i []).getD j 0))
  (h:DataW.LaidVars P W ((name,.agg (zs.map λ z=>.agg (z.map λ x=>.lit (.int .i64 x)))) :: rest) ps):W.heap[g]?=some (Blk.rows m n row t (0,0)).den /\ ∃ q,DataW.LaidVars P W rest q:=by
 obtain ⟨fs,he,hfl,hf⟩:=tw hE
 obtain ⟨g',t',cs,fuel,p,q,hg',ht',hvar,hd,hr,_⟩:=h
 obtain rfl:=Option.some.inj (hg.symm.trans hg')
 obtain rfl:=Option.some.inj (hty.symm.trans ht')
 have hv:W.var? P name=some cs0:=by
  unfold World.var?
  rw [hg]
  simp only [Option.bind_some,hb]
 obtain rfl:=Option.some.inj (hv.symm.trans hvar)
 obtain ⟨h1,h2,h3⟩:=rV ht he hce hct hm hfl hf hz hd
 refine ⟨?_,q,hr⟩
 rw [hb]
 show some (Obj.cells cs0 t (0,0))=some (Obj.cells ⟨bB m row n⟩ t (0,0))
 congr 2
 obtain ⟨l⟩:=cs0
 congr 1
 symm
 exact ie (w:=m) h1 λ i j hi hj=>by rw [hrow i j hi hj];exact h3 i j hi hj
def rz (W:World):HL:=List.ofFn (λ k:Fin W.heap.size=>(k.1,if k.1=1 then Blk.lit us 250 (0,0) else if k.1=2 then Blk.rows 3 22 mm 320 (0,0) else ry W.heap[k.1]))
theorem zr {W:World} (h0:W.heap[1]?=some (Blk.lit us 250 (0,0)).den) (h1:W.heap[2]?=some (Blk.rows 3 22 mm 320 (0,0)).den):du (ke W)=du (rz W):=by
 unfold du ke rz
 rw [List.map_ofFn,List.map_ofFn]
 congr 1
 funext k
 show (k.1,(ry W.heap[k.1]).den)=(k.1,Blk.den (if k.1=1 then _ else if k.1=2 then _ else _))
 rw [jS]
 congr 1
 by_cases e0:k.1=1
 ·rw [if_pos e0]
  have h2:W.heap[k.1]?=some (Blk.lit us 250 (0,0)).den:=by rw [show W.heap[k.1]?=W.heap[1]? by rw [e0]];exact h0
  rw [Array.getElem?_eq_getElem k.2] at h2
  exact Option.some.inj h2
 ·rw [if_neg e0]
  by_cases e1:k.1=2
  ·rw [if_pos e1]
   have h2:W.heap[k.1]?=some (Blk.rows 3 22 mm 320 (0,0)).den:=by rw [show W.heap[k.1]?=W.heap[2]? by rw [e1]];exact h1
   rw [Array.getElem?_eq_getElem k.2] at h2
   exact Option.some.inj h2
  ·rw [if_neg e1,jS]
theorem Hv {W:World} (h0:W.heap[1]?=some (Blk.lit us 250 (0,0)).den):o7 (rz W) :=
 List.mem_ofFn.2 ⟨⟨1,(Array.getElem?_eq_some_iff.1 h0).1⟩,rfl⟩
theorem Hw {W:World} (h1:W.heap[2]?=some (Blk.rows 3 22 mm 320 (0,0)).den):dg (rz W) :=
 List.mem_ofFn.2 ⟨⟨2,(Array.getElem?_eq_some_iff.1 h1).1⟩,rfl⟩
theorem Dq {P:Program} {W:World} {x:String × DataW Unit} {rest:List (String × DataW Unit)} {ps:List MemPlace} (h:DataW.LaidVars P W (x :: rest) ps):∃ q,DataW.LaidVars P W rest q:=by
 obtain ⟨n,d⟩:=x
 obtain ⟨_,_,_,_,_,q,_,_,_,_,hr,_⟩:=h
 exact ⟨q,hr⟩
theorem Ds {W:World} (hs:W.ShapedOpen Tryz.prog) (hL:laidMetH Tryz.prog [("arenanet/input.inputs",Rows.laid_arenanet_input_inputs),("arenanet/compile.effects",Rows.laid_arenanet_compile_effects),("arenanet/vm.effects",Rows.laid_arenanet_vm_effects)] W):W.heap[1]?=some (Blk.lit us 250 (0,0)).den /\ W.heap[2]?=some (Blk.rows 3 22 mm 320 (0,0)).den:=by
 rw [MakeChecks.laidMetH_plain _ _ _ (by kernel_rfl)] at hL
 obtain ⟨ps,hv,_,_⟩:=hL
 obtain ⟨q1,hv1⟩:=Dq hv
 obtain ⟨cs0,hb0⟩:=xw 1 250 (of_decide_eq_true (by kernel_rfl)) (by kernel_rfl) hs
 obtain ⟨cs1,hb1⟩:=xw 2 320 (of_decide_eq_true (by kernel_rfl)) (by kernel_rfl) hs
 have hv0:DataW.LaidVars Tryz.prog W (("arenanet/compile.effects",.agg (ceZ.map λ z=>.agg (z.map λ x=>.lit (.int .i64 x)))) :: [("arenanet/vm.effects",.agg (efZ.map λ z=>.agg (z.map λ x=>.lit (.int .i64 x))))]) q1:=hv1
 obtain ⟨h0,q,hq⟩:=Bk (n:=22) (m:=2) (e:=249) (row:=Bj) hb0 (by kernel_rfl) (by kernel_rfl) (by kernel_rfl) (by kernel_rfl) (by kernel_rfl) (by kernel_rfl) (by decide) (by decide) (λ i j hi hj=>rfl) hv0
 obtain ⟨h1,_⟩:=Bk (n:=22) (m:=3) (e:=319) (row:=mm) hb1 (by kernel_rfl) (by kernel_rfl) (by kernel_rfl) (by kernel_rfl) (by kernel_rfl) (by kernel_rfl) (by decide) (by decide) (λ i j hi hj=>by
  have key:∀ i:Fin 22,∀ j:Fin 3,(if j.1=0 then (m9.getD i.1 (0,0,0)).1 else if j.1=1 then (m9.getD i.1 (0,0,0)).2.1 else (m9.getD i.1 (0,0,0)).2.2)=(efZ.getD i.1 []).getD j.1 0:=by decide
  have:=key ⟨i,hi⟩ ⟨j,hj⟩
  rcases j with _ | _ | _ | j
  ·exact congrArg (Value.int .i64) this
  ·exact congrArg (Value.int .i64) this
  ·exact congrArg (Value.int .i64) this
  ·omega) hq
 exact ⟨h0.trans (congrArg some Ht),h1⟩
instance instInpInh:Inhabited Inp:=⟨dI⟩
theorem RowB.den {F F':HL} {A:Option Addr} {n:Nat} {f:Nat -> Inp} (h:RowB F A n f) (e:du F=du F'):RowB F' A n f:=h.imp id λ ⟨b,a,e1,hI⟩=>⟨b,a,e1,λ w hw=>hI w λ x hx=>by
 have h1:(x.1,x.2.den) ∈ du F':=e ▸ List.mem_map_of_mem (f:=λ x:Nat × Blk=>(x.1,x.2.den)) hx
 obtain ⟨y,hy,ey⟩:=List.mem_map.1 h1
 have h2:=hw y hy
 rw [Prod.mk.injEq] at ey
 rw [<- ey.1,<- ey.2]
 exact h2⟩
theorem Hy {H:Type} {enc:TypeId × Value -> H} {w:World} {r:Reach} {b0:Nat} {v:Value} {d:DataW H} {ps:List MemPlace} (hval:Value.okWide Tryz.prog w r b0 23 v) (hd:DataW.Trod enc Tryz.prog w 0 (λ _=>true) true 23 v d ps) :
  ∃ (A:Option Addr) (n cap:Nat) (xs:List Inp),v=.slice A n cap /\ RowB (ke w) A n (λ k=>xs.getD k dI) /\ xs.length=n /\ n <= cap:=by
 obtain ⟨a0,len,cap,rfl⟩:=okWide_slice Tryz.underlying23 hval
 obtain ⟨fuel,hf⟩:=hd
 rcases Go.Deep.open_slice Tryz.underlying23 hf with ⟨hcs,_⟩ | ⟨a,len',cap',m,n,D,Pl,hcs,hb,hl,hm,hmm,_,hx⟩
 ·simp [Value.cells] at hcs
  obtain ⟨rfl,rfl,rfl⟩:=hcs
  exact ⟨none,0,0,[],rfl,.inl rfl,rfl,Nat.le_refl _⟩
 ·simp [Value.cells] at hcs
  obtain ⟨rfl,rfl,rfl⟩:=hcs
  have hlm:len <= m:=by rw [hmm];split <;> omega
  obtain ⟨fs,he,hfl,hfd⟩:=tw (P:=Tryz.prog) (e:=76) (m:=3) (by kernel_rfl)
  have each:∀ i,i < len -> ∃ x:Inp,∀ j u,[vI x.dx,vI x.dy,vI x.act][j]?=some u -> w.cell? ((a.add (i * 3)).add j)=some u:=by
   intro i hi
   obtain ⟨cs',h1,h2⟩:=hx i (by omega)
   rw [show Tryz.prog.cellsOf 76=3 by kernel_rfl] at h1
   obtain ⟨_,hlen,hcell⟩:=World.cells?_some h1
   obtain ⟨xs,k,_,_,_,hxl,hfx⟩:=DataW.trod_struct he h2
   have hsz:fs.size=3:=by rw [<- Array.length_toList];exact hfl
   have one:∀ j,j < 3 -> ∃ z:Int,cs'[j]?=some (vI z):=by
    intro j hj
    have hfj:fs.toList[j]?=some (fs.toList[j]'(by omega)):=List.getElem?_eq_getElem (by omega)
    obtain ⟨f1,f2,f3⟩:=hfd j _ hfj
    have h4:=hfx j _ (by rw [<- Array.getElem?_toList];exact hfj)
    rw [f2,f3,List.getElem?_eq_getElem (show j < xs.length by omega)] at h4
    obtain ⟨z,hz,_,_⟩:=DataW.trod_int f1 h4
    refine ⟨z,?_⟩
    have h5:=congrArg (·[0]?) hz
    simpa [List.getElem?_take,List.getElem?_drop] using h5
   obtain ⟨z0,e0⟩:=one 0 (by omega)
   obtain ⟨z1,e1⟩:=one 1 (by omega)
   obtain ⟨z2,e2⟩:=one 2 (by omega)
   refine ⟨⟨z0,z1,z2⟩,λ j u hu=>?_⟩
   rcases j with _ | _ | _ | j
   ·rw [hcell 0 (by omega),e0];exact hu
   ·rw [hcell 1 (by omega),e1];exact hu
   ·rw [hcell 2 (by omega),e2];exact hu
   ·simp at hu
  obtain ⟨g,hg⟩:=Go.Deep.choose_lt each
  refine ⟨some a,len,cap,(List.range len).map g,rfl,?_,by simp,hl⟩
  rcases Nat.eq_zero_or_pos len with h0 | hpos
  ·exact .inl h0
  ·right
   obtain ⟨b,off,spot⟩:=a
   have c0:=hg 0 hpos 0 _ rfl
   have hsp:spot=none:=by
    cases spot with
    | none=>rfl
    | some s=>simp [Addr.add,World.cell?] at c0;split at c0 <;> simp at c0
   subst hsp
   refine ⟨b,off,rfl,λ w' hw' k hk j u hu=>?_⟩
   have hgk:((List.range len).map g).getD k dI=g k:=by simp [List.getD_eq_getElem?_getD,hk]
   simp only [hgk] at hu
   have h1:=hg k hk j u hu
   rw [Go.WideShapes.add_plain,Go.WideShapes.add_plain] at h1
   have hbb:∃ o,w.heap[b]?=some o:=by
    unfold World.cell? at h1
    split at h1
    ·rename_i hb;exact ⟨_,hb⟩
    ·cases h1
   obtain ⟨o,ho⟩:=hbb
   have h2:=hw' _ (mL ho)
   dsimp only at h2
   rw [jS] at h2
   rw [<- h1]
   unfold World.cell?
   rw [show w'.heap[(⟨b,off+k * 3+j,none⟩:Addr).block]?=some o from h2,show w.heap[(⟨b,off+k * 3+j,none⟩:Addr).block]?=some o from ho]
noncomputable def Dt (os:Os):World:=World.laidAll Tryz.prog os Rows.replayErrorsRow.laid
theorem uy (os:Os) (started:os.Started) (H:Type) (enc:TypeId × Value -> H) :
  ReturnsInHanded {} Tryz.checked os 3 .any (λ w args=>(Rows.replayErrorsSpec.pre enc Tryz.prog Tryz.f3 [] false w args /\ laidMetH Tryz.prog Rows.replayErrorsRow.laid w) /\ sizedMet enc Tryz.prog Tryz.f3 (OpenSpec.ofChange Rows.replayErrorsSpec) false w args)
   (Rows.replayErrorsSpec.post enc Tryz.prog Tryz.f3 false true false false):=by
 refine kf (C:=Tryz.checked) (X:=λ w _=>laidMetH Tryz.prog Rows.replayErrorsRow.laid w) (λ _ _ _ hh h=>h.of_heap hh) Hk started (by kernel_rfl) Tryz.func3
  (ChangeSpec.witness_at (enc:=enc) (C:=Tryz.checked) (os:=os) (X:=λ w _=>laidMetH Tryz.prog Rows.replayErrorsRow.laid w) false (Dt os) #[.slice none 0 0,.int .i64 0,.slice none 0 0] 8 (World.laidAll_os _ _ _) (by kernel_rfl) (by kernel_rfl) (by kernel_rfl) (by kernel_rfl) (by kernel_rfl) (laidMetH_of_parts (laidMet_laidAll _ (by kernel_rfl) (by kernel_rfl)) (by kernel_rfl))) ?_
 intro W base args ds gs before hsh hval0 hW hL
 have hval:∀ (j:Nat) t v,Tryz.f3.params[j]?=some t -> args[j]?=some v -> Value.okWide Tryz.prog W .any base t v:=hval0
 have hW':=hW
 obtain ⟨p,q,hA0,hV,rfl,hfz,hnd⟩:=hW
 have hA:DataW.TrodAll enc Tryz.prog W 0 (λ _=>true) true Tryz.f3.params.toList args.toList ds p:=hA0
 have hAA:=hA
 rw [Tryz.params3] at hA hval
 obtain ⟨v0,vs0,d0,ds0,p0,q0,hargs,rfl,rfl,h0r,r0⟩:=trodAll_cons hA
 obtain ⟨v1,vs1,d1,ds1,p1,q1,rfl,rfl,rfl,h1r,r1⟩:=trodAll_cons r0
 obtain ⟨v2,vs2,d2,ds2,p2,q2,rfl,rfl,rfl,h2r,r2⟩:=trodAll_cons r1
 obtain ⟨rfl,rfl,rfl⟩:=trodAll_nil r2
 obtain rfl:args=#[v0,v1,v2]:=by cases args;simp_all
 obtain ⟨rfl,rfl⟩:=trodVars_none hV
 obtain ⟨A0,n0,c0,x0,rfl,b0,h0,k0⟩:=Hs (hval 0 22 v0 rfl rfl) h0r
 obtain ⟨a1,rfl,rfl,rfl,w1z⟩:=open_int Tryz.underlying3 (hval 1 3 v1 rfl rfl) h1r
 have w1:=tu w1z
 obtain ⟨A2,n2,c2,x2,rfl,h2,b2,k2⟩:=Hy (hval 2 23 v2 rfl rfl) h2r
 clear hA0 hval0
 simp only [List.append_nil,List.nil_append] at hW' hAA
 obtain ⟨g0,g1⟩:=Ds hsh hL
 have eW:=zr g0 g1
 refine (Dp W ((Dn A0 A2 n0 c0 n2 c2 x0 x2 a1 (rz W) (Hv g0) (Hw g1) (h0.d eW) b0 w1 (h2.den eW) b2 k2).den eW.symm)).mono λ e W' ⟨he,hb⟩=>?_
 subst he
 exact ⟨_,rfl,Hn Hm (by rw [Tryz.params3];intro t ht;simp at ht;first | (subst ht;exact ⟨by kernel_rfl,of_decide_eq_true (by kernel_rfl)⟩) | (rcases ht with rfl | rfl <;> exact ⟨by kernel_rfl,of_decide_eq_true (by kernel_rfl)⟩) | (rcases ht with rfl | rfl | rfl <;> exact ⟨by kernel_rfl,of_decide_eq_true (by kernel_rfl)⟩)) hW' rfl hAA (λ _ _ _=>trodAll_cons_mk (shut_bool Tryz.underlying4 _) trodAll_mk0) rfl (λ _=>rfl) hb⟩
theorem rX:(Rows.replayErrorsRow.inPlace == Tryz.prog.inPlace 3)=true:=by kernel_rfl
theorem pr:(Rows.replayErrorsRow.named == Tryz.prog.varsNamed 3)=true:=by kernel_rfl
theorem oI:(Rows.replayErrorsRow.unfollowed == Tryz.prog.unfollowed 3)=true:=by kernel_rfl
theorem rC:(Rows.replayErrorsRow.recurses == Tryz.prog.recurses 3)=true:=by kernel_rfl
theorem rY:laidOutB Tryz.prog=true:=by kernel_rfl
theorem pv:mapsRowed Tryz.prog=true:=by kernel_rfl
theorem pw:(Rows.replayErrorsRow.plainKeys == Tryz.prog.plainKeys)=true:=by kernel_rfl
theorem xx:Tryz.prog.mayEnter=true:=by kernel_rfl
theorem xy:Tryz.prog.stopsHeard=true:=by kernel_rfl
theorem uz:joinedFacts Tryz.prog 3 Tryz.f3 Rows.replayErrorsSpec Rows.replayErrorsRow=true:=by
 unfold joinedFacts
 simp only [rX,pr,oI,rC,rY,pv,pw,xx,xy,Bool.and_true,Bool.true_and]
 kernel_rfl
theorem zt:Rows.ReplayErrorsSaid :=
 OpenClaim.holds_of_wide 3 Tryz.f3 rfl rfl rfl rfl rfl rfl rfl ⟨rfl,rfl,rfl,rfl,rfl⟩ rfl rfl rfl rfl rfl (by kernel_rfl) Tryz.func3 uz
  (of_decide_eq_true (by kernel_rfl)) (by unfold Func.isWrapper;first | (rw [if_pos (by decide +kernel)];kernel_rfl) | (rw [if_neg (by decide +kernel)];exact ⟨rfl,rfl⟩))
  (λ os started H enc _=>uy os started H enc)
theorem zu:false=Rows.replayErrorsRow.goesBy Tryz.prog:=by kernel_rfl
theorem xz:Tryz.prog.funcNamed "arenanet/arenanetlaw32.ReplayErrors"=some 3:=by kernel_rfl
theorem zw:false=Tryz.prog.looks []:=by kernel_rfl
end Go.Proofs.YtobflkidpfkcaaaGreatDoor
