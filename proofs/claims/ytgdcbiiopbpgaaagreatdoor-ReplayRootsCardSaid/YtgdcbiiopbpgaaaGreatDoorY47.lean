import Derived.Test.YtgdcbiiopbpgaaaGreatDoorY44
import Derived.Test.YtgdcbiiopbpgaaaGreatDoorY46
import Derived.Test.YtgdcbiiopbpgaaaGreatDoorY43
import Derived.Test.YtgdcbiiopbpgaaaGreatDoorY37
import Derived.Test.YtgdcbiiopbpgaaaGreatDoorY45
set_option maxHeartbeats 4000000
set_option maxRecDepth 100000
set_option linter.unusedSimpArgs false
set_option linter.unusedVariables false
namespace Go.Proofs.YtgdcbiiopbpgaaaGreatDoor
open Go.RowKit
def kB:Enc Int:=⟨1,λ p k=>match k with | 0=>.int .u64 p | _=>default,0⟩
noncomputable def J0:TypeInfo:=match Tryz.prog.info? 45 with | some i=>i | none=>⟨.bool,"",0,0,false,0,0,none,false,#[]⟩
noncomputable def J1:Value:=match J0.zero with | some z=>z | none=>.bool false
theorem LE:EncOk kB Tryz.prog 45 J0 J1 where
 info:=by kernel_rfl
 zero:=by kernel_rfl
 size:=by kernel_rfl
 zsize:=by kernel_rfl
 zcell:=λ k hk=>by
  have h:∀ k < 1,J1.cells[k]?=some (kB.cell kB.dflt k):=by intro k hk;(iterate 1 (rcases k with _ | k;· kernel_rfl));omega
  exact h k hk
 one:=λ x k=>by unfold kB;dsimp only;split <;> rfl
 bytes:=Nat.le_of_ble_eq_true (by kernel_rfl)
theorem GT (h:Nat):iT [.int .u64 0]=aZ kB (List.replicate h 0):=by
 have e:=jD (e:=kB) ([]:List Int) h
 rw [List.nil_append] at e
 rw [show List.replicate h (0:Int)=List.replicate h kB.dflt from rfl,e]
 funext i k
 cases k with
 | zero=>rfl
 | succ k=>simp [iT,aZ,kB]
theorem CP {h:Nat} {b:Nat} {T:TypeId}:SlIs kB T [] (some ⟨b,0,none⟩) h [(b,.rows 1 h (aZ kB (List.replicate h 0)) T (0,0))]:=.inr ⟨b,0,List.replicate h 0,by simp,by rw [Nat.zero_add];rfl,by simp,Nat.zero_le _,by simp⟩
theorem GU (S3:Setup) (bp ev gb0 rp n rc cc:Nat) (rA cA:Option Addr) (cl:List Ck) (F:HL) (hrp:(rp,.lit (Setup.l S3++[vP bp 0,vI (ev:Int),vP gb0 0,.slice rA n rc,.slice cA cl.length cc]) 86 (0,0)) ∈ F):Sp Tryz.prog 23 #[vP rp 0] [] F (λ u H'=>u=vI (n:Int) /\ H'=[]):=by
 refine Sp.run Tryz.func23 rfl (mc hrp mn) (A:=[]) (Ts:=[]) rfl λ w0=>?_
 refine ae 15 [.ro 0] λ _=>?_
 exact RN.ret [] [] [] ⟨rfl,rfl⟩
def bq (W:Nat -> List Int) (ev m:Nat):List Int:=(List.range m).map λ k=>fN (W (k * ev))
theorem dP (W:Nat -> List Int) (ev m:Nat):(bq W ev m).length=m:=by simp [bq]
theorem xj (W:Nat -> List Int) (ev m:Nat):bq W ev (m+1)=bq W ev m++[fN (W (m * ev))]:=by simp [bq,List.range_succ]
theorem zg (S3:Setup) (bp ev gb0 rp n rc cc:Nat) (rA cA:Option Addr) (cl:List Ck) (W:Nat -> List Int) (F:HL) (hrp:(rp,.lit (Setup.l S3++[vP bp 0,vI (ev:Int),vP gb0 0,.slice rA n rc,.slice cA cl.length cc]) 86 (0,0)) ∈ F) (hc:RowL r6 88 F cA cl.length cl) (hck:∀ k,k < cl.length -> ∃ q,cl.getD k r6.dflt=⟨some ⟨q,0,none⟩,(W (k * ev)).length,(W (k * ev)).length,fN (W (k * ev))⟩ /\ (q,.rows 1 (W (k * ev)).length (aK (W (k * ev))) 3 (0,0)) ∈ F) (hcl:cl.length <= 1000000):Sp Tryz.prog 12 #[vP rp 0] [] F (λ u H'=>∃ x:Option Addr × Nat × HL,H'=ap [] [x.2.2] /\ (u=.slice x.1 cl.length x.2.1 /\ SlIs kB 45 (bq W ev cl.length) x.1 x.2.1 x.2.2)):=by
 refine Sp.run Tryz.func12 rfl (mc hrp mn) (A:=[]) (Ts:=[]) rfl λ w0=>?_
 refine ai 28 [.ro 0,.mk 0 cl.length,.ro 0] [0=((0:Nat):Int) /\ (cl.length:Int)=((cl.length:Nat):Int) /\ 0 <= cl.length /\ 8 * cl.length <= 140737488355328 /\ 1=1 /\ cl.length <= 9223372036854775807] λ n1=>cR 0 (congrArg (λ v_=>(.rows 1 cl.length v_ 45 (0,0):Blk)) (show (iT [.int .u64 0])=(aZ kB (List.replicate cl.length 0)) from (GT _)))<|tp 0<|RN.loop (σ:=Nat × Option Addr × Nat × HL) (λ ⟨k_,A_,c_,T_⟩=>⟨[(3,.slice A_ k_ c_),(15,.slice cA cl.length cc),(16,vI (cl.length:Int)),(17,vI (k_:Int))],[],[T_],k_ <= cl.length /\ SlIs kB 45 (bq W ev k_) A_ c_ T_,cl.length - k_⟩) (0,some ⟨(n1+0),0,none⟩,cl.length,[((n1+0),.rows 1 cl.length (aZ kB (List.replicate cl.length 0)) 45 (0,0))]) [] [0] (⟨Nat.zero_le _,CP⟩) ?_
 rintro ⟨k_,A_,c_,T_⟩ ⟨hk_,hs_⟩ mt3
 refine ae 6 [] λ _=>RN.em ((k_:Int) < (cl.length:Int)) 18 (λ h4=>?_) λ h4=>?_
 ·refine ae 7 [] λ _=>?_
  obtain ⟨qx5,ox5,Nx5,fx5,fzx5,hAx5,hqx5,hox5,hgx5⟩:=hc.at (k:=k_) (by omega)
  refine aJ 15 (congrArg (λ v_=>(.slice v_ cl.length cc:Value)) hAx5)<|RN.ro (λ _=>(mc hrp (mc hqx5 mn)))<|ai 2 [.ix k_,.rorow 1 (ox5+k_) 0,.rorow 1 (ox5+k_) 1] [((ox5 * 2+k_ * 2)+1)=(ox5+k_) * 2+1 /\ (ox5+k_) < Nx5,(ox5 * 2+k_ * 2)=(ox5+k_) * 2+0 /\ (ox5+k_) < Nx5,(k_:Int)=((k_:Nat):Int) /\ k_ < cl.length] λ _=>aJ 20 (congrArg (λ v_=>(.agg #[.slice v_.A v_.n v_.c,.int .u64 v_.r]:Value)) hgx5) ?_
  obtain ⟨qk,ek_,hqk⟩:=hck k_ (by omega)
  refine aJ 20 (congrArg (λ v_:Ck=>(.agg #[.slice v_.A v_.n v_.c,.int .u64 v_.r]:Value)) ek_)<|ae 9 [.own 0,.own 0,.own 0] λ n6=>gD LE (bq W ev k_) [fN (W (k_ * ev))] 0 0 (dP W ev k_).symm hs_ (by rw [dP,List.length_singleton];omega) ?_
  rintro A7 c8 T9 ⟨hs10,hz11⟩
  refine ai 8 [.nw] [bd ((k_:Int)+1)] λ _=>aJ 15 (congrArg (λ v_=>(.slice v_ cl.length cc:Value)) hAx5.symm) ?_
  refine mt3 (k_+1,A7,c8,T9) [] [0] ?_
  try dsimp only
  exact ⟨⟨by omega,by rw [xj];exact hs10⟩,by omega⟩
 ·refine ae 12 [] λ _=>RN.ret [] [] [0] (v:=.slice A_ k_ c_) (H':=(ap [] [T_])) ?_
  obtain rfl:k_=cl.length:=by omega
  exact ⟨(A_,c_,T_),rfl,rfl,hs_⟩
section
variable {rs_:List Bx} {ds_:List Dr} {bp ev rp n:Nat} {S S2:Setup} {J:Nat -> Nat × Int} {W:Nat -> List Int} {pre xss:List (List Inp)} {G F:HL}
theorem Nz (h:RecH rs_ ds_ bp ev rp S S2 W n pre G) (hF:∀ x ∈ G,x ∈ F):Sp Tryz.prog 23 #[vP rp 0] [] F (λ u H'=>u=vI (n:Int) /\ H'=[]):=by
 cases h with
 | mk h3 hs hg hcs hb hr hrl hrr hc hcl hck=>exact GU _ _ _ _ _ _ _ _ _ _ _ _ (hF _ (List.mem_append_left _ (List.mem_singleton.2 rfl)))
theorem AV (h:RecH rs_ ds_ bp ev rp S S2 W n pre G) (hF:∀ x ∈ G,x ∈ F) (hn:n <= 1000):Sp Tryz.prog 12 #[vP rp 0] (ap [] []) F (λ u H'=>∃ x:Option Addr × Nat × HL,H'=ap [] [x.2.2] /\ (u=.slice x.1 (n / ev+1) x.2.1 /\ SlIs kB 45 (bq W ev (n / ev+1)) x.1 x.2.1 x.2.2)):=by
 cases h with
 | mk h3 hs hg hcs hb hr hrl hrr hc hcl hck =>
  have hd:n / ev <= n:=Nat.div_le_self _ _
  have key:=zg _ _ _ _ _ _ _ _ _ _ _ W F (hF _ (List.mem_append_left _ (List.mem_singleton.2 rfl))) (hc.toRowL λ x hx=>hF x (by simp [ap,hx])) (hck F λ x hx=>hF x (by simp [ap,hx])) (by omega)
  rw [hcl] at key
  exact key
theorem J3 (h:RecH rs_ ds_ bp ev rp S S2 (WS S J xss) n xss G) (hF:∀ x ∈ G,x ∈ F) (hV:SetV S) (hrn:S.rn <= 1000000) (hdn:S.dn <= 1000000) (hsz:48 <= sizeOf S /\ sizeOf S <= 1000) (hv:gU S rs_ ds_=0) (hev:1 <= ev /\ ev <= 60) (hE:dh F) (hn50:n <= 50) (hrow:∀ i,i < n -> iK S.players (xss.getD i [])) (hAt:∀ i,i < n -> (J i).1 < 5 /\ AtOk F bp (i:Int) (J i)) {t:Nat} (ht:t <= n):Sp Tryz.prog 13 #[vP rp 0,vI (t:Int)] (ap [] []) F (λ u H'=>∃ q:Nat,H'=ap [(q,.rows 1 (WS S J xss t).length (aK (WS S J xss t)) 3 (0,0))] [] /\ u=.tuple #[vS q 0 (WS S J xss t).length (WS S J xss t).length,vI ((t:Int) % (ev:Int)),vI 0]):=by
 cases h with
 | mk h3 hs hg hcs hb hr hrl hrr hc hcl hck =>
  have h4:=hs F λ x hx=>hF x (by simp [ap,hx])
  have h5:=hr.toRowL (F:=F) λ x hx=>hF x (by simp [ap,hx])
  rw [hrl] at h5
  exact Ji S _ rs_ ds_ bp ev _ rp n _ _ t J _ _ _ _ xss F (hF _ (List.mem_append_left _ (List.mem_singleton.2 rfl))) h3 h4.1 h4.2 hV hrn hdn hsz hv h5 (hrr F λ x hx=>hF x (by simp [ap,hx])) (hc.toRowL λ x hx=>hF x (by simp [ap,hx])) (hck F λ x hx=>hF x (by simp [ap,hx])) hcl hev hE hn50 hrow hAt ht
end
theorem GV (x:Int):nq (IntKind.i64.wrap x):=by
 unfold nq
 rw [IntKind.wrap_i64]
 omega
theorem zh (n:Int) (F:HL) (hn:nq n) (hE:md F):Sp Tryz.prog 8 #[vI n] [] F (λ u H'=>∃ x:Nat × HL,H'=ap [] [x.2] /\ (u=vP x.1 0 /\ Book2 4 (au n 5).toNat (au (IntKind.i64.wrap (n+1)) 5).toNat x.1 x.2)):=by
 refine Sp.run Tryz.func8 rfl mn (A:=[]) (Ts:=[]) rfl λ w0=>?_
 refine ae 8 [] λ _=>aj (re n _ hn) ?_
 have hA1:=cK (n:=n) hn 5 (by decide)
 refine RN.ct (Hp:=[]) (Tp:=[]) [] [] (F7 (au n 5).toNat _ (by omega) (aw hE)) ?_
 rintro _ ⟨b2,T3⟩ ⟨rfl,hB4⟩
 dsimp only at hB4
 refine ae 27 [] λ _=>aj (re (IntKind.i64.wrap (n+1)) _ (GV _)) ?_
 have hA5:=cK (n:=IntKind.i64.wrap (n+1)) (GV _) 5 (by decide)
 refine RN.ct [] [0] (Je hB4 4 (by decide) (au (IntKind.i64.wrap (n+1)) 5).toNat _ (by omega) (aw hE)) ?_
 rintro _ T6 ⟨rfl,hB7⟩
 refine ae 12 [] λ _=>RN.ret [] [] [0] (v:=vP b2 0) (H':=(ap [] [T6])) ?_
 exact ⟨(b2,T6),rfl,rfl,hB7⟩
theorem rk (n:Int) (F:HL) (hn:nq n) (hE:md F):Sp Tryz.prog 8 #[vI n] (ap [] []) F (λ u H'=>∃ x:Nat × HL,H'=ap [] [x.2] /\ (u=vP x.1 0 /\ Book2 4 (au n 5).toNat (au (IntKind.i64.wrap (n+1)) 5).toNat x.1 x.2)):=zh n F hn hE
theorem CQ (S:Setup) (A:Option Addr) (n cap:Nat) (xs:List Int) (t:Int) (F:HL) (hl:ArgL F A n xs) (hn:n <= 9223372036854775807) (hp:0 <= S.players /\ S.players <= 1000000) (ht:0 <= t /\ t <= 1000000):Sp Tryz.prog 29 #[(Setup.v S),.slice A n cap,vI t] [] F (λ u H'=>∃ x:Option Addr × Nat × HL,H'=ap [] [x.2.2] /\ (u=.slice x.1 S.players.toNat x.2.1 /\ SlIs fI 119 (rowL S.players xs (t / 2) S.players.toNat) x.1 x.2.1 x.2.2 /\ bU x.1)):=by
 refine Sp.run Tryz.func29 rfl mn (A:=[]) (Ts:=[]) rfl λ w0=>?_
 refine ai 12 (ow 0 16++[.nw]) [0 <= t /\ (0:Int) < 2 /\ t <= 9223372036854775807] λ n1=>RN.ct (Hp:=[]) (Tp:=[]) [] [] (Lp S A n cap xs (t / 2) _ hl.up hn (by omega) (by omega)) ?_
 rintro _ ⟨A2,c3,T4⟩ ⟨rfl,hs5,hz6⟩
 dsimp only at hs5 hz6
 refine ae 3 [] λ _=>RN.ret [] [] [0] (v:=.slice A2 S.players.toNat c3) (H':=(ap [] [T4])) ?_
 exact ⟨(A2,c3,T4),rfl,rfl,hs5,hz6⟩
theorem GW (S:Setup) (A:Option Addr) (n cap:Nat) (xs:List Int) (t:Int) (F:HL) (hl:ArgL F A n xs) (hn:n <= 9223372036854775807) (hp:0 <= S.players /\ S.players <= 1000000) (ht:0 <= t /\ t <= 1000000):Sp Tryz.prog 29 #[Setup.v S,.slice A n cap,vI t] (ap [] []) F (λ u H'=>∃ x:Option Addr × Nat × HL,H'=ap [] [x.2.2] /\ (u=.slice x.1 S.players.toNat x.2.1 /\ SlIs fI 119 (rowL S.players xs (t / 2) S.players.toNat) x.1 x.2.1 x.2.2 /\ bU x.1)):=CQ S A n cap xs t F hl hn hp ht
def de (pl:Int) (xs:List Int) (n:Nat):List (List Inp):=(List.range n).map λ t:Nat=>rowL pl xs ((t:Int) / 2) pl.toNat
theorem xk (pl:Int) (xs:List Int) (n:Nat):de pl xs (n+1)=de pl xs n++[rowL pl xs ((n:Int) / 2) pl.toNat]:=by simp [de,List.range_succ]
theorem rm (pl:Int) (xs:List Int) (n:Nat):(de pl xs n).length=n:=by simp [de]
theorem zi {pl:Int} {xs:List Int} {n k:Nat} (h:k < n):(de pl xs n).getD k []=rowL pl xs ((k:Int) / 2) pl.toNat:=by simp [de,h]
theorem zj {F:HL} {A:Option Addr} {n:Nat} {xs:List Int} (hl:ArgL F A n xs) {pl:Int} (hp:0 <= pl) (cnt i:Nat) (hi:i < cnt):iK pl ((de pl xs cnt).getD i []):=by
 rw [zi hi]
 exact Jc hl hp _
theorem zk (S:Setup) (A:Option Addr) (n cap:Nat) (xs:List Int) (c:Int) (cnt:Nat) (F:HL) (hl:ArgL F A n xs) (hn:n <= 9223372036854775807) (hp:1 <= S.players /\ S.players <= 1000000) (hc:au c 10=(cnt:Int)) (h20:cnt <= 19):Sp Tryz.prog 9 #[(Setup.v S),.slice A n cap,vI c] [] F (λ u H'=>∃ x:(Option Addr × Nat × List Rw) × HL × HL,H'=ap [] [x.2.1,x.2.2] /\ (u=.slice x.1.1 cnt x.1.2.1 /\ SlIs mJ 54 x.1.2.2 x.1.1 x.1.2.1 x.2.1 /\ x.1.2.2.length=cnt /\ RwsT x.1.2.2 (de S.players xs cnt) x.2.2)):=by
 refine Sp.run Tryz.func9 rfl mn (A:=[]) (Ts:=[]) rfl λ w0=>?_
 refine ae 18 [] λ n1=>RN.nt<|RN.nt<|RN.loop (σ:=Nat × Option Addr × Nat × List Rw × HL × HL) (λ ⟨t_,A_,c_,rs_,E_,T_⟩=>⟨[(1,.slice A n cap),(2,vI c),(3,vP (n1+0) 0),(7,.slice A_ t_ c_),(8,vI (t_:Int))],[((n1+0),.lit (Setup.l S) 31 (0,0))],[E_,T_],t_ <= cnt /\ t_ <= 20 /\ SlIs mJ 54 rs_ A_ c_ E_ /\ rs_.length=t_ /\ RwsT rs_ (de S.players xs t_) T_,20 - t_⟩) (0,none,0,[],[],[]) [0] [0,1] (⟨Nat.zero_le _,Nat.zero_le _,SlIs.nil _ _,rfl,RwsT.nil⟩) ?_
 rintro ⟨t_,A_,c_,rs_,E_,T_⟩ ⟨ht_,h20_,hs_,hrl_,hT_⟩ mt3
 refine ae 5 [] λ _=>aj (Gy hc (by decide) _)<|ae 3 [] λ _=>RN.em ((t_:Int) < (cnt:Int)) 12 (λ h4=>?_) λ h4=>?_
 ·refine ae 10 (ow 0 16) λ _=>RN.ct (Hp:=[]) (Tp:=[]) [] [] (GW S A n cap xs (t_:Int) _ hl.up hn (by omega) (by omega)) ?_
  rintro _ ⟨A5,c6,T7⟩ ⟨rfl,hs8,hz9⟩
  dsimp only at hs8 hz9
  refine ae 1 [] λ n10=>gD Gc rs_ [(⟨A5,S.players.toNat,c6⟩:Rw)] 1 0 hrl_.symm hs_ (by simp;omega) ?_
  rintro A11 c12 T13 ⟨hs14,hz15⟩
  refine ai 9 [.nw] [bd ((t_:Int)+1)] λ _=>m6 [2,1,0]<|oY ?_
  refine mt3 (t_+1,A11,c12,rs_++[(⟨A5,S.players.toNat,c6⟩:Rw)],T13,T_++T7) [1] [1,0] ?_
  try dsimp only
  refine ⟨⟨by omega,by omega,hs14,by simp;omega,?_⟩,by omega⟩
  rw [xk]
  exact hT_.snoc hs8 (by rw [fj];omega) (fj _ _ _ _).symm
 ·refine ae 12 [] λ _=>RN.ret [] [] [0,1] (v:=.slice A_ t_ c_) (H':=(ap [] [E_,T_])) ?_
  obtain rfl:t_=cnt:=by omega
  exact ⟨((A_,c_,rs_),E_,T_),rfl,rfl,hs_,hrl_,hT_⟩
theorem CS (S:Setup) (A:Option Addr) (n cap:Nat) (xs:List Int) (c:Int) (cnt:Nat) (F:HL) (hl:ArgL F A n xs) (hn:n <= 9223372036854775807) (hp:1 <= S.players /\ S.players <= 1000000) (hc:au c 10=(cnt:Int)) (h20:cnt <= 19):Sp Tryz.prog 9 #[Setup.v S,.slice A n cap,vI c] (ap [] []) F (λ u H'=>∃ x:(Option Addr × Nat × List Rw) × HL × HL,H'=ap [] [x.2.1,x.2.2] /\ (u=.slice x.1.1 cnt x.1.2.1 /\ SlIs mJ 54 x.1.2.2 x.1.1 x.1.2.1 x.2.1 /\ x.1.2.2.length=cnt /\ RwsT x.1.2.2 (de S.players xs cnt) x.2.2)):=zk S A n cap xs c cnt F hl hn hp hc h20
def k8 (b:Nat):Setup:=⟨1,b,0,1,1,1,[⟨⟨5,[],none,0⟩,⟨0,0,0,0,0⟩,0,0⟩],⟨0,0,0,0⟩,none,0,0,none,0,0,0,⟨0,0⟩,0,0,0,1,0⟩
theorem xl (b:Nat):gU (k8 b) [] []=0:=by kernel_rfl
theorem zl (b:Nat):SetV (k8 b):=⟨⟨show (1:Int) <= 1 by decide,show (1:Int) <= 3 by decide⟩,⟨show 1 <= 1 by decide,show 1 <= 5 by decide⟩,⟨show (1:Int) <= 1 by decide,show (1:Int) <= 3 by decide⟩,⟨show (0:Int) <= 0 by decide,show (0:Int) <= 60 by decide⟩⟩
theorem Jj {b:Nat} {F:HL} (hb:(b,.rows 9 1 (iy (k8 b).bods) 78 (0,0)) ∈ F):SetCl F (k8 b):=⟨⟨⟨show (0:Int) <= 1 by decide,show (1:Int) <= 1000000 by decide⟩,show 1 <= 1000000 by decide⟩,hb,show 0+1 <= 1 by decide,λ k hk=>by
 obtain rfl:k=0:=by have:k < 1:=hk;omega
 exact ⟨⟨.zero _,Nat.zero_le _⟩,.inl rfl⟩⟩
theorem GX (b:Nat) (F:HL):MapIn F (k8 b) [] []:=⟨.zero _,.zero _⟩
theorem CT (b:Nat):sizeOf (k8 b)=60:=rfl
abbrev pj (n:Nat):List (List Inp):=List.replicate n [⟨0,0,0⟩]
theorem CU {n i:Nat} (h:i < n):(pj n).getD i []=[⟨0,0,0⟩]:=by simp [pj,List.getD_eq_getElem?_getD,h]
theorem rq {n i:Nat} (h:i < n):iK 1 ((pj n).getD i []):=by
 rw [CU h]
 refine ⟨rfl,λ k hk=>?_⟩
 obtain rfl:k=0:=by have:k < 1:=hk;omega
 decide
theorem LF {e:Int} (S:Setup) (rs_:List Bx) (ds_:List Dr) (bp ev n cap:Nat) (J:Nat -> Nat × Int) (A:Option Addr) (rs:List Rw) (xss:List (List Inp)) (F:HL) (hS:SetCl F S) (hM:MapIn F S rs_ ds_) (hV:SetV S) (h1:1 <= S.nb) (hrn:S.rn <= 1000000) (hdn:S.dn <= 1000000) (hsz:(sizeOf S).toNat <= 1000000) (hv:gU S rs_ ds_=0) (hev:1 <= ev /\ ev <= 60) (hE:dh F) (hr:RowL mJ 54 F A n rs) (hw:RwsIn F rs xss) (hn50:n <= 50) (hrow:∀ i,i < n -> iK S.players (xss.getD i [])) (hAt:∀ i,i < n -> (J i).1 < 5 /\ AtOk F bp (i:Int) (J i)) (he:e=(ev:Int)):Sp Tryz.prog 11 #[Setup.v S,vP bp 0,vI e,.slice A n cap] (ap [] []) F (λ u H'=>∃ x:Nat × Setup × HL,H'=ap [] [x.2.2] /\ (u=vP x.1 0 /\ SetEq S x.2.1 /\ RecH rs_ ds_ bp ev x.1 S x.2.1 (WS S J xss) n xss x.2.2)):=by
 subst he
 exact xh S rs_ ds_ bp ev n cap J A rs xss F hS hM hV h1 hrn hdn hsz hv hev hE hr hw hn50 hrow hAt
theorem GY (F:HL):Sp Tryz.prog 48 #[] [] F (λ u H'=>∃ b:Nat,H'=ap [(b,.lit [vI 5,.slice none 0 0,vI 0,vI 0,vI 0,vI 0,vI 0,vI 0,vI 0] 78 (0,0))] [] /\ u=Setup.v (k8 b)):=by
 refine Sp.run Tryz.func48 rfl mn (A:=[]) (Ts:=[]) rfl λ w0=>?_
 refine ae 14 (ow 1 16) λ n1=>RN.ret (ow 1 16) [0] [] (v:=.agg #[vI 1,vS (n1+1) 0 1 1,vI 0,vI 0,vI 0,vI 0,.slice none 0 0,.slice none 0 0,vI 0,vI 0,vI 0,vI 0,vI 0,vI 0,vI 1,vI 0]) (H':=(ap [((n1+1),.lit [vI 5,.slice none 0 0,vI 0,vI 0,vI 0,vI 0,vI 0,vI 0,vI 0] 78 (0,0))] [])) ?_
 exact ⟨_,rfl,rfl⟩
theorem Jk (F:HL):Sp Tryz.prog 48 #[] (ap [] []) F (λ u H'=>∃ b:Nat,H'=ap [(b,.lit [vI 5,.slice none 0 0,vI 0,vI 0,vI 0,vI 0,vI 0,vI 0,vI 0] 78 (0,0))] [] /\ u=Setup.v (k8 b)):=GY F
theorem xm (F:HL) (hE0:md F) (hE1:dh F):Sp Tryz.prog 20 #[] [] F (λ u H'=>u=.bool true /\ H'=[]):=by
 refine Sp.run Tryz.func20 rfl mn (A:=[]) (Ts:=[]) rfl λ w0=>?_
 refine ae 17 [] λ _=>RN.nt<|RN.nt<|RN.loop (σ:=Nat × Option Addr × Nat × List Rw × HL × HL) (λ ⟨t_,A_,c_,rs_,E_,T_⟩=>⟨[(1,.slice A_ t_ c_),(2,vI (t_:Int))],[],[E_,T_],t_ <= 25 /\ SlIs mJ 54 rs_ A_ c_ E_ /\ rs_.length=t_ /\ RwsT rs_ (pj t_) T_,25 - t_⟩) (0,none,0,[],[],[]) [] [0,1] (⟨Nat.zero_le _,SlIs.nil _ _,rfl,RwsT.nil⟩) ?_
 rintro ⟨t_,A_,c_,rs_,E_,T_⟩ ⟨ht_,hs_,hrl_,hT_⟩ mt2
 refine ae 7 [] λ _=>RN.em ((t_:Int) < 25) 8 (λ h3=>?_) λ h3=>?_
 ·refine ae 10 [] λ n4=>gD Gc rs_ [(⟨some ⟨(n4+0),0,none⟩,1,1⟩:Rw)] 0 0 hrl_.symm hs_ (by simp;omega) ?_
  rintro A5 c6 T7 ⟨hs8,hz9⟩
  refine ai 9 [.nw] [bd ((t_:Int)+1)] λ _=>RN.dn 1 (.rows 3 1 (aZ fI [⟨0,0,0⟩]) 119 (0,0))<|tp 1<|m6 [2,0,1]<|oY ?_
  refine mt2 (t_+1,A5,c6,rs_++[(⟨some ⟨(n4+0),0,none⟩,1,1⟩:Rw)],T7,T_++[((n4+0),.rows 3 1 (aZ fI [⟨0,0,0⟩]) 119 (0,0))]) [] [1,0] ?_
  try dsimp only
  refine ⟨⟨by omega,hs8,by simp;omega,?_⟩,by omega⟩
  rw [show pj (t_+1)=pj t_++[[⟨0,0,0⟩]] from List.replicate_succ']
  exact hT_.snoc (SlIs.one (e:=fI) (x:=⟨0,0,0⟩) (b:=(n4+0))) (by decide) rfl
 ·obtain rfl:t_=25:=by omega
  refine ae 8 [] λ _=>RN.ct (Hp:=[]) (Tp:=[]) [] [] (Jk _) ?_
  rintro _ b10 rfl
  refine RN.dn 0 (.rows 9 1 (iy (k8 b10).bods) 78 (0,0))<|RN.ct (Hp:=[]) (Tp:=[]) [] [] (rk 0 _ (by decide) (aw hE0)) ?_
  rintro _ ⟨b11,T12⟩ ⟨rfl,hB13⟩
  dsimp only at hB13
  replace hB13:Book2 4 (au 0 5).toNat (au 1 5).toNat b11 T12:=hB13
  refine ae 1 [] λ _=>RN.ct (Hp:=[]) (Tp:=[]) [] [] (xh (k8 b10) [] [] b11 10 25 c_ (Dc 4 (au 0 5).toNat (au 1 5).toNat 0) A_ rs_ (pj 25) _ (Jj (aB 0)) (GX _ _) (zl _) (show 1 <= 1 by decide) (show 0 <= 1000000 by decide) (show 0 <= 1000000 by decide) (show (60:Int).toNat <= 1000000 by decide) (xl _) (by decide) (aw hE1) (hs_.rowN (aA 1) hrl_) (hT_ _ (aA 2)) (by decide) (λ i hi=>rq hi) (λ i hi=>AQ hB13 (aA 0) (by decide) (by decide) (t:=0+i) (by omega))) ?_
  rintro _ ⟨r14,S15,T16⟩ ⟨rfl,he17,hr18⟩
  dsimp only at he17 hr18
  refine ae 16 [] λ _=>RN.ct (Hp:=[]) (Tp:=[]) [] [] (J3 (t:=25) hr18 (aA 0) (zl _) (show 0 <= 1000000 by decide) (show 0 <= 1000000 by decide) (by rw [CT];decide) (xl _) (by decide) (aw hE1) (by decide) (λ i hi=>rq hi) (λ i hi=>AQ hB13 (aA 1) (by decide) (by decide) (t:=0+i) (by omega)) (Nat.le_refl _)) ?_
  rintro _ q19 rfl
  have hwl_:((WS (k8 b10) (Dc 4 (au 0 5).toNat (au 1 5).toNat 0) (pj 25) 25).length:Int)=60:=uB (J:=(Dc 4 (au 0 5).toNat (au 1 5).toNat 0)) (zl b10) (uz _) (n:=25) (by decide) (λ i hi=>rq hi) (Nat.le_refl _)
  refine ae 12 [] λ _=>RN.ct (Hp:=[]) (Tp:=[]) [] [] (AV hr18 (aA 0) (n:=25) (by decide)) ?_
  rintro _ ⟨A20,c21,T22⟩ ⟨rfl,hs23⟩
  refine ae 11 [] λ _=>cT 40 (decide_eq_true (show ((25:Nat):Int) % ((10:Nat):Int)=5 by decide))<|ae 5 [] λ _=>cT 45 (decide_eq_true hwl_)<|ae 1 [] λ _=>aj (Nz hr18 (aA 1))<|ae 5 [] λ _=>?_
  exact RN.ret [] [] [] ⟨rfl,rfl⟩
def lS:Enc Int:=⟨1,λ p k=>match k with | 0=>.int .u8 p | _=>default,0⟩
noncomputable def NA:TypeInfo:=match Tryz.prog.info? 5 with | some i=>i | none=>⟨.bool,"",0,0,false,0,0,none,false,#[]⟩
noncomputable def NB:Value:=match NA.zero with | some z=>z | none=>.bool false
theorem AW:EncOk lS Tryz.prog 5 NA NB where
 info:=by kernel_rfl
 zero:=by kernel_rfl
 size:=by kernel_rfl
 zsize:=by kernel_rfl
 zcell:=λ k hk=>by
  have h:∀ k < 1,NB.cells[k]?=some (lS.cell lS.dflt k):=by intro k hk;(iterate 1 (rcases k with _ | k;· kernel_rfl));omega
  exact h k hk
 one:=λ x k=>by unfold lS;dsimp only;split <;> rfl
 bytes:=Nat.le_of_ble_eq_true (by kernel_rfl)
def Jl (x:Inp):Int:=IntKind.u8.wrap (IntKind.i64.wrap (IntKind.i64.wrap (IntKind.i64.wrap (x.dx+1)+IntKind.i64.wrap (3 * IntKind.i64.wrap (x.dy+1)))+IntKind.i64.wrap (9 * x.act)))
def nM (xs:List Inp):List Int:=xs.map Jl
theorem iM (xs:List Inp):(nM xs).length=xs.length:=by simp [nM]
def iO (xs:List Inp) (k:Nat):List Int:=(nM xs).take k++List.replicate (xs.length - k) 0
theorem CV {xs:List Inp} {k:Nat} (h:k <= xs.length):(iO xs k).length=xs.length:=by simp [iO,iM];omega
theorem zm (xs:List Inp):iO xs 0=List.replicate xs.length 0:=by simp [iO]
theorem CW (xs:List Inp):iO xs xs.length=nM xs:=by simp [iO,<- iM]
theorem CX {xs:List Inp} {k:Nat} (h:k < xs.length):(iO xs k).set k (Jl (xs.getD k dI))=iO xs (k+1):=by
 have hl:(nM xs).length=xs.length:=iM xs
 apply List.ext_getElem?
 intro i
 unfold iO
 rw [List.getElem?_set]
 by_cases e:k=i
 ·subst e
  rw [if_pos rfl,if_pos (by simp;omega),List.getElem?_append,if_pos (by simp;omega),List.getElem?_take,if_pos (by omega)]
  simp [nM,h,List.getD_eq_getElem?_getD]
 ·rw [if_neg e,List.getElem?_append,List.getElem?_append]
  by_cases h1:i < k
  ·rw [if_pos (by simp;omega),if_pos (by simp;omega),List.getElem?_take,List.getElem?_take,if_pos h1,if_pos (by omega)]
  ·rw [if_neg (by simp;omega),if_neg (by simp;omega)]
   simp only [List.getElem?_replicate,List.length_take]
   congr 1
   simp only [eq_iff_iff]
   omega
theorem NC {l:List Int} {i:Nat} (h:i < l.length) (v:Int):dU (aZ lS l) i 0 (.int .u8 v)=aZ lS (l.set i v):=by
 funext i' k'
 unfold dU aZ
 by_cases h1:i'=i
 ·subst h1
  rw [dM h]
  rcases k' with _ | k'
  ·rw [if_pos ⟨rfl,rfl⟩];rfl
  ·rw [if_neg (by omega)]
   rcases k' with _ | k' <;> rfl
 ·rw [if_neg (by simp [h1]),db (λ e=>h1 e.symm)]
def iP (r:Int) (k:Nat):List Int:=(List.range k).map λ i=>IntKind.u8.wrap (r.fdiv (2 ^ (8 * i)))
theorem xn (r:Int) (k:Nat):iP r (k+1)=iP r k++[IntKind.u8.wrap (r.fdiv (2 ^ (8 * k)))]:=by simp [iP,List.range_succ]
theorem rt (r:Int) (k:Nat):(iP r k).length=k:=by simp [iP]
theorem GZ {r:Int} {k:Nat} (h:k < 8):IntKind.u8.wrap (r.fdiv (2 ^ min (8 * (k:Int)).toNat 64))=IntKind.u8.wrap (r.fdiv (2 ^ (8 * k))):=by rw [show min (8 * (k:Int)).toNat 64=8 * k by omega]
def j9 (ev n:Nat) (xss:List (List Inp)) (roots:List Int):List Int:=[IntKind.u8.wrap (ev:Int)]++[IntKind.u8.wrap (n:Int)]++(xss.map nM).flatten++(roots.map λ r=>iP r 8).flatten
def fl (ev n:Nat) (xss:List (List Inp)) (m:Nat):List Int:=[IntKind.u8.wrap (ev:Int)]++[IntKind.u8.wrap (n:Int)]++((xss.take m).map nM).flatten
theorem lI {ev n:Nat} {xss:List (List Inp)} {m:Nat} (h:m < xss.length):fl ev n xss (m+1)=fl ev n xss m++nM (xss.getD m []):=by
 unfold fl
 rw [lF h [],List.map_append,List.flatten_append]
 simp
theorem uE {ev n:Nat} {xss:List (List Inp)} (hx:∀ i,i < xss.length -> (xss.getD i []).length <= 1000):∀ m,m <= xss.length -> (fl ev n xss m).length <= 2+1000 * m
 | 0,_=>by simp [fl]
 | m+1,h=>by
  rw [lI (by omega),List.length_append,iM]
  have:=uE (ev:=ev) (n:=n) hx m (by omega)
  have:=hx m (by omega)
  omega
def fQ (P roots:List Int) (k j:Nat):List Int:=P++((roots.take k).map λ r=>iP r 8).flatten++iP (roots.getD k 0) j
theorem AX (P roots:List Int):fQ P roots 0 0=P:=by simp [fQ,iP]
theorem tD (P roots:List Int) (k j:Nat):fQ P roots k (j+1)=fQ P roots k j++[IntKind.u8.wrap ((roots.getD k 0).fdiv (2 ^ (8 * j)))]:=by
 unfold fQ
 rw [xn]
 simp
theorem oM {P roots:List Int} {k:Nat} (h:k < roots.length):fQ P roots k 8=fQ P roots (k+1) 0:=by
 unfold fQ
 rw [lF h 0,List.map_append,List.flatten_append]
 simp [iP]
theorem ru {P roots:List Int}:∀ {k:Nat},k <= roots.length -> ∀ j,(fQ P roots k j).length=P.length+8 * k+j
 | 0,_,j=>by simp [fQ,rt]
 | k+1,h,j=>by
  have:=ru (P:=P) (show k <= roots.length by omega) 8
  rw [oM (by omega)] at this
  have e:(fQ P roots (k+1) j).length=(fQ P roots (k+1) 0).length+j:=by
   unfold fQ
   simp only [List.length_append,rt]
   omega
  omega
theorem xo {ev n m:Nat} {xss:List (List Inp)} {roots:List Int} (h:n=xss.length) (hm:m=roots.length):fQ (fl ev n xss n) roots m 0=j9 ev n xss roots:=by
 subst hm
 unfold fQ fl j9
 rw [List.take_of_length_le (by omega),List.take_of_length_le (Nat.le_refl _)]
 simp [iP]
theorem Jm (xs:List Inp):iT [.int .u8 0]=aZ lS (iO xs 0):=by
 rw [zm]
 have e:=jD (e:=lS) ([]:List Int) xs.length
 rw [List.nil_append] at e
 rw [show List.replicate xs.length (0:Int)=List.replicate xs.length lS.dflt from rfl,e]
 funext i k
 cases k with
 | zero=>rfl
 | succ k=>simp [iT,aZ,lS]
theorem G1 {F:HL} {q n N:Nat} {l:List Int} {fz:Nat × Nat} (hq:(q,.rows 1 N (aZ lS l) 5 fz) ∈ F) (hn:l.length=n) (hN:n <= N):SrcIn Tryz.prog lS F (some ⟨q,0,none⟩) n l:=by
 subst hn
 exact RowL.src AW (by decide) (RowL.whole hq hN)
def oN (l:List Int) (i:Nat):Nat -> Int
 | 0=>0
 | k+1=>orU (oN l i k) (IntKind.u64.wrap (IntKind.u64.wrap (l.getD (8 * i+k) 0) * 2 ^ min (8 * (k:Int)).toNat 64))
def J4 (l:List Int) (i:Nat):Nat:=min 8 (l.length - 8 * i)
def kC (l:List Int):Nat:=(l.length+7) / 8
def bu (l:List Int):List Int:=(List.range (kC l)).map λ i=>oN l i (J4 l i)
theorem k9 (l:List Int):(bu l).length=kC l:=by simp [bu]
theorem pk {l:List Int} {i:Nat} (h:8 * i < l.length):(bu l)[i]?=some (oN l i (J4 l i)):=by
 have:i < kC l:=by unfold kC;omega
 simp [bu,this]
def fC (s:Int) (ws:List Int):Nat -> Int
 | 0=>s
 | k+1=>jA (fC s ws k) (ws.getD k 0)
def oO (b:ByteArray) (l:List Int):Int:=jA (jA (fC (cH b ((kC l:Nat)+1:Int)) (bu l) (kC l)) (IntKind.u64.wrap (l.length:Int))) 0
open Go.Shelf
section
variable {P:Program} {N:Nat} {D:List Deferred} {F:HL} {w0:World} {L:FL} {Q:Exit -> Act -> World -> Prop}
end
section
variable {P:Program} {N:Nat} {D:List Deferred} {F:HL} {w0:World} {R:HL} {s:Cfg} {Q:Exit -> Act -> World -> Prop}
end
section
variable {α:Type} {e:Enc α} {T:TypeId} {F:HL} {A:Option Addr} {n cap:Nat} {xs:List α}
end
section
variable {r:Option Nat} {P:Program} {N:Nat} {D:List Deferred} {F:HL} {w0:World} {R:HL} {s:Cfg} {Q:Exit -> Act -> World -> Prop}
end
theorem G2 (x:Inp) (F:HL):Sp Tryz.prog 78 #[.agg #[vI x.dx,vI x.dy,vI x.act]] [] F (λ u H'=>u=.int .u8 (Jl x) /\ H'=[]):=by
 refine Sp.run Tryz.func78 rfl mn (A:=[]) (Ts:=[]) rfl λ w0=>?_
 refine ae 24 [.own 0,.own 0,.own 0] λ n1=>?_
 exact RN.ret [] [] [] ⟨rfl,rfl⟩
theorem G3 (A:Option Addr) (n c:Nat) (xs:List Inp) (F:HL) (hl:RowL fI 119 F A n xs) (hn:n <= 1000000):Sp Tryz.prog 47 #[.slice A n c] [] F (λ u H'=>∃ q:Nat,H'=ap [(q,.rows 1 n (aZ lS (nM xs)) 5 (0,0))] [] /\ u=vS q 0 n n):=by
 have hxl_:=hl.len
 refine Sp.run Tryz.func47 rfl mn (A:=[]) (Ts:=[]) rfl λ w0=>?_
 refine ai 22 [.mk n n] [(n:Int)=((n:Nat):Int) /\ (n:Int)=((n:Nat):Int) /\ n <= n /\ 1 * n <= 140737488355328 /\ 1=1 /\ n <= 9223372036854775807] λ n1=>cR 0 (congrArg (λ v_=>(.rows 1 n v_ 5 (0,0):Blk)) (show (iT [.int .u8 0])=(aZ lS (iO xs 0)) from (Jm _)))<|RN.loop (σ:=Nat) (λ k_=>⟨[(3,vS (n1+0) 0 n n),(9,.slice A n c),(10,vI (n:Int)),(11,vI (k_:Int))],[((n1+0),.rows 1 n (aZ lS (iO xs k_)) 5 (0,0))],[],k_ <= n,n - k_⟩) 0 [0] [] (Nat.zero_le _) ?_
 rintro k_ hk_ mt3
 refine ae 6 [] λ _=>RN.em ((k_:Int) < (n:Int)) 12 (λ h4=>?_) λ h4=>?_
 ·refine ae 8 [] λ _=>?_
  obtain ⟨qx5,ox5,Nx5,fx5,fzx5,hAx5,hqx5,hox5,hgx5⟩:=hl.at (k:=k_) (by omega)
  refine aJ 9 (congrArg (λ v_=>(.slice v_ n c:Value)) hAx5)<|RN.ro (λ _=>(mc hqx5 mn))<|ai 2 [.ix k_,.rorow 0 (ox5+k_) 0,.rorow 0 (ox5+k_) 1,.rorow 0 (ox5+k_) 2] [((ox5 * 3+k_ * 3)+2)=(ox5+k_) * 3+2 /\ (ox5+k_) < Nx5,((ox5 * 3+k_ * 3)+1)=(ox5+k_) * 3+1 /\ (ox5+k_) < Nx5,(ox5 * 3+k_ * 3)=(ox5+k_) * 3+0 /\ (ox5+k_) < Nx5,(k_:Int)=((k_:Nat):Int) /\ k_ < n] λ _=>aJ 15 (congrArg (λ v_=>(.agg #[vI v_.dx,vI v_.dy,vI v_.act]:Value)) hgx5)<|ae 9 (ow 0 6) λ n6=>aj (G2 (xs.getD k_ dI) _)<|ai 9 [.ix k_,.row 1 k_ 0,.nw] [bd ((k_:Int)+1),(0+k_ * 1)=k_ * 1+0 /\ k_ < n,(k_:Int)=((k_:Nat):Int) /\ k_ < n] λ _=>aJ 9 (congrArg (λ v_=>(.slice v_ n c:Value)) hAx5.symm)<|cR 1 (congrArg (λ v_=>(.rows 1 n v_ 5 (0,0):Blk)) (show (dU (aZ lS (iO xs k_)) k_ 0 (.int .u8 (Jl (xs.getD k_ dI))))=(aZ lS (iO xs (k_+1))) from (by rw [NC (by rw [CV (by omega)];omega),CX (by omega)]))) ?_
  refine mt3 (k_+1) [1] [] ?_
  try dsimp only
  exact ⟨by omega,by omega⟩
 ·refine ae 12 [] λ _=>RN.ret [] [0] [] (v:=vS (n1+0) 0 n n) (H':=(ap [((n1+0),.rows 1 n (aZ lS (iO xs k_)) 5 (0,0))] [])) ?_
  obtain rfl:k_=n:=by omega
  exact ⟨(n1+0),by rw [<- CW,hxl_],rfl⟩
theorem Jn (A:Option Addr) (n c:Nat) (xs:List Inp) (F:HL) (hl:RowL fI 119 F A n xs) (hn:n <= 1000000):Sp Tryz.prog 47 #[.slice A n c] (ap [] []) F (λ u H'=>∃ q:Nat,H'=ap [(q,.rows 1 n (aZ lS (nM xs)) 5 (0,0))] [] /\ u=vS q 0 n n):=G3 A n c xs F hl hn
theorem xp (A:Option Addr) (n c m:Nat) (l:List Int) (T0 F:HL) (hs:SlIs lS 5 l A c T0) (hn:n=l.length) (hm:m < 128) (hb:n <= 1000000):Sp Tryz.prog 46 #[.slice A n c,vI (m:Int)] (ap [] [T0]) F (λ u H'=>∃ x:Option Addr × Nat × HL,H'=ap [] [x.2.2] /\ (u=.slice x.1 (n+1) x.2.1 /\ SlIs lS 5 (l++[IntKind.u8.wrap (m:Int)]) x.1 x.2.1 x.2.2)):=by
 refine Sp.run Tryz.func46 rfl mn (A:=[]) (Ts:=[T0]) rfl λ w0=>?_
 refine ae 7 [] λ _=>RN.rounds 1<|ae 7 [] λ _=>cT 6 (decide_eq_false (show ¬ (m:Int) >= 128 by omega))<|ae 12 [] λ n1=>gD AW l [IntKind.u8.wrap (m:Int)] 0 0 hn hs (by rw [List.length_singleton];omega) ?_
 rintro A2 c3 T4 ⟨hs5,hz6⟩
 refine ae 3 [] λ _=>RN.ret [] [] [0] (v:=.slice A2 (n+1) c3) (H':=(ap [] [T4])) ?_
 exact ⟨(A2,c3,T4),rfl,rfl,hs5⟩
theorem rv {W:Nat -> List Int} {ev m k:Nat} (h:k < m):(bq W ev m).getD k 0=fN (W (k * ev)):=by simp [bq,h]
theorem G4 (S3:Setup) (bp ev gb0 rp n rc cc:Nat) (rA cA:Option Addr) (rl:List Rw) (cl:List Ck) (xss:List (List Inp)) (W:Nat -> List Int) (F:HL) (hrp:(rp,.lit (Setup.l S3++[vP bp 0,vI (ev:Int),vP gb0 0,.slice rA n rc,.slice cA cl.length cc]) 86 (0,0)) ∈ F) (hr:RowL mJ 54 F rA n rl) (hw:RwsIn F rl xss) (hc:RowL r6 88 F cA cl.length cl) (hck:∀ k,k < cl.length -> ∃ q,cl.getD k r6.dflt=⟨some ⟨q,0,none⟩,(W (k * ev)).length,(W (k * ev)).length,fN (W (k * ev))⟩ /\ (q,.rows 1 (W (k * ev)).length (aK (W (k * ev))) 3 (0,0)) ∈ F) (hcl:cl.length <= 1000) (hev:ev < 128) (hn:n < 128) (hlen:∀ i,i < n -> (xss.getD i []).length <= 1000):Sp Tryz.prog 19 #[vP rp 0] [] F (λ u H'=>∃ x:Option Addr × Nat × HL,H'=ap [] [x.2.2] /\ (u=.slice x.1 (j9 ev n xss (bq W ev cl.length)).length x.2.1 /\ SlIs lS 5 (j9 ev n xss (bq W ev cl.length)) x.1 x.2.1 x.2.2)):=by
 have hxn_:xss.length=n:=by rw [<- hw.len,hr.len]
 have hlen2:∀ i,i < xss.length -> (xss.getD i []).length <= 1000:=λ i hi=>hlen i (by omega)
 have hpl_:=uE (ev:=ev) (n:=n) hlen2 (n - 0) (by omega)
 refine Sp.runM Tryz.func19 rfl (mc hrp mn) (A:=[]) (Ts:=[]) rfl λ w0=>?_
 refine ae 11 [.ro 0] λ _=>RN.nt<|RN.ct [] [0] (xp none 0 0 ev [] ([]:HL) _ (SlIs.nil _ _) rfl (by omega) (by decide)) ?_
 rintro _ ⟨A1,c2,T3⟩ ⟨rfl,hs4⟩
 dsimp only at hs4
 refine ae 5 [.own 0] λ n5=>RN.draw [6,7] []<|ag [] [0,1,2,3,4,5] [.own 0,.ro 0]<|RD.one 6 (RDO.ct [] [] [0] (xp A1 1 c2 n ([]++[IntKind.u8.wrap (ev:Int)]) T3 _ hs4 rfl (by omega) (by decide)) ?_)
 rintro _ ⟨A6,c7,T8⟩ ⟨rfl,hs9⟩
 dsimp only at hs9
 refine RD.one 7 (RDO.ev [] [.own 0] λ _=>?_)
 refine RD.fin<|ae 10 [.ro 0] λ _=>RN.ct (Hp:=[]) (Tp:=[]) [] [] (uD 0 (n:Int) rp _) ?_
 rintro _ m10 rfl
 refine ae 3 [] λ _=>cR 3 (congrArg (λ v_=>(.lit [.slice A6 v_ c7] 50 (0,0):Blk)) (show 2=(fl ev n xss 0).length from rfl))<|RN.range (σ:=Nat × Option Addr × Nat × HL) (τ:=Nat × Option Addr × Nat × HL × Rw) (encs:=λ (x_:Rw)=>#[.slice x_.A x_.n x_.c]) (xs:=(GP rl 0 n)) (enters_of Tryz.func69 (by kernel_rfl) rfl) (λ ⟨m_,A_,c_,T_⟩=>([((n5+0),.lit [.slice A_ ((fl ev n xss m_).length) c_] 50 (0,0))],[T_])) (λ i_ ⟨m_,A_,c_,T_⟩=>m_=i_ /\ SlIs lS 5 (fl ev n xss m_) A_ c_ T_) (λ c_ ⟨m_,A_,c_,T_⟩=>False) (λ ⟨m_,A_,c_,T_,p_⟩=>⟨[(0,vP rp 0),(3,vP (n5+0) 0),(4,.slice p_.A p_.n p_.c)],[((n5+0),.lit [.slice A_ ((fl ev n xss m_).length) c_] 50 (0,0))],[T_],True,0⟩) (λ i_ x_ ⟨m_,A_,c_,T_,p_⟩=>m_=i_ /\ p_=rl.getD (0+m_) mJ.dflt /\ m_ < n - 0 /\ SlIs lS 5 (fl ev n xss m_) A_ c_ T_) (0,A6,c7,T8) (⟨rfl,hs9⟩) [3] [0] (uC S3 bp ev gb0 rp n rc cc 0 n (m10+1) (m10+2) (m10+0) rA cA rl cl _ (aB 1) (aB 0) (aB 2) (aw hrp) hr.up ⟨by omega,by omega,by omega⟩) ?_ ?_ ?_ ?_
 ·rintro l_ i_ x_ ⟨m_,A_,c_,T_⟩ Y11 w12 hx13 ⟨rfl,hs_⟩ mt14
  refine ae 3 [] λ _=>?_
  refine mt14 (m_,A_,c_,T_,x_) [0] [0] ?_
  try dsimp only
  exact ⟨rfl,(oL hx13).2,(oL hx13).1,hs_⟩
 ·rintro l_ i_ x_ ⟨m_,A_,c_,T_,p_⟩ Y15 w16 hx17 ⟨rfl,hp_,hlt_,hs_⟩
  obtain ⟨bk,ok,Nk,fk,ck,ek2_,hIk,hik,hxk,hck2_⟩:=hw.get (k:=0+m_) (by rw [hr.len];omega)
  rw [Nat.zero_add] at ek2_ hik hxk
  have hle_:=uE (ev:=ev) (n:=n) hlen2 m_ (by omega)
  refine aJ 4 (congrArg (λ v_:Rw=>Value.slice v_.A v_.n v_.c) (hp_.trans ((congrArg (λ z_=>rl.getD z_ mJ.dflt) (Nat.zero_add m_)).trans ek2_)))<|ae 1 [] λ _=>RN.draw [3,4] []<|ag [] [0,1] [.own 0]<|RD.one 2 (RDO.ct [] (Hp:=[]) (Tp:=[]) [] [] (Jn _ (xss.getD m_ []).length ck (xss.getD m_ []) _ (.rows bk ok Nk fk (0,0) _ _ (aw (List.mem_append_right Y15 (List.mem_append_right _ hIk))) hik rfl hxk) (by have h_:=hlen m_ (by omega);omega)) ?_)
  rintro _ q18 rfl
  refine RD.one 3 (RDO.appU (c':=((xss.getD m_ []).length)) (tx:=50) [] AW (fl ev n xss m_) (nM (xss.getD m_ [])) 0 rfl hs_ (by rw [iM];have h_:=hlen m_ (by omega);omega) (G1 (q:=q18) (n:=(xss.getD m_ []).length) (N:=(xss.getD m_ []).length) (l:=nM (xss.getD m_ [])) (fz:=(0,0)) (aB 0) (iM _) (Nat.le_refl _)) ?_)
  rintro A19 c20 T21 ⟨hs22,hz23⟩
  refine RD.one 4 (RDO.ev [] [.own 1] λ _=>?_)
  refine RD.fin<|ae 1 [] λ _=>cR 1 (congrArg (λ v_=>(.lit [.slice A19 v_ c20] 50 (0,0):Blk)) (show (fl ev n xss m_).length+(nM (xss.getD m_ [])).length=(fl ev n xss (m_+1)).length by rw [lI (by omega),List.length_append]))<|RN.rn (m_+1,A19,c20,T21) [1] [0] ?_
  try dsimp only
  exact ⟨rfl,by rw [lI (by omega)];exact hs22⟩
 ·rintro d24 ⟨m_,A_,c_,T_⟩  ⟨rfl,hs_⟩
  rw [lH] at hs_
  refine cR 1 (congrArg (λ v_=>(.lit [.slice A_ (fl ev n xss v_).length c_] 50 (0,0):Blk)) (lH rl 0 n)) ?_
  have hq0_:SlIs lS 5 (fQ (fl ev n xss (n - 0)) (bq W ev cl.length) 0 0) A_ c_ T_:=by rw [AX];exact hs_
  refine cR 1 (congrArg (λ v_=>(.lit [.slice A_ v_ c_] 50 (0,0):Blk)) (show (fl ev n xss (n - 0)).length=(fQ (fl ev n xss (n - 0)) (bq W ev cl.length) 0 0).length by rw [AX]))<|ae 14 [.ro 0] λ _=>RN.loop (σ:=Nat × Option Addr × Nat × HL) (λ ⟨k_,A2_,c2_,T2_⟩=>⟨[(3,vP (n5+0) 0),(35,.slice cA cl.length cc),(36,vI (cl.length:Int)),(37,vI (k_:Int))],[(d24,.obj (.deferred (some []))),((n5+0),.lit [.slice A2_ ((fQ (fl ev n xss (n - 0)) (bq W ev cl.length) k_ 0).length) c2_] 50 (0,0))],[T2_],k_ <= cl.length /\ SlIs lS 5 (fQ (fl ev n xss (n - 0)) (bq W ev cl.length) k_ 0) A2_ c2_ T2_,cl.length - k_⟩) (0,A_,c_,T_) [0,1] [0] (⟨Nat.zero_le _,hq0_⟩) ?_
  rintro ⟨k_,A2_,c2_,T2_⟩ ⟨hk_,hs2_⟩ mt26
  refine ae 6 [] λ _=>RN.em ((k_:Int) < (cl.length:Int)) 38 (λ h27=>?_) λ h27=>?_
  ·refine ae 7 [] λ _=>?_
   obtain ⟨qx28,ox28,Nx28,fx28,fzx28,hAx28,hqx28,hox28,hgx28⟩:=hc.at (k:=k_) (by omega)
   refine aJ 35 (congrArg (λ v_=>(.slice v_ cl.length cc:Value)) hAx28)<|RN.ro (λ _=>(mc hrp (mc hqx28 mn)))<|ai 2 [.ix k_,.rorow 1 (ox28+k_) 0,.rorow 1 (ox28+k_) 1] [((ox28 * 2+k_ * 2)+1)=(ox28+k_) * 2+1 /\ (ox28+k_) < Nx28,(ox28 * 2+k_ * 2)=(ox28+k_) * 2+0 /\ (ox28+k_) < Nx28,(k_:Int)=((k_:Nat):Int) /\ k_ < cl.length] λ _=>aJ 40 (congrArg (λ v_=>(.agg #[.slice v_.A v_.n v_.c,.int .u64 v_.r]:Value)) hgx28) ?_
   obtain ⟨qk,ek_,hqk⟩:=hck k_ (by omega)
   refine aJ 40 (congrArg (λ v_:Ck=>(.agg #[.slice v_.A v_.n v_.c,.int .u64 v_.r]:Value)) ek_)<|aJ 40 (congrArg (λ v_=>(.agg #[vS qk 0 (W (k_ * ev)).length (W (k_ * ev)).length,.int .u64 v_]:Value)) (rv (W:=W) (ev:=ev) (m:=cl.length) (k:=k_) (by omega)).symm)<|ae 10 [.own 0,.own 0] λ n29=>RN.loop (σ:=Nat × Option Addr × Nat × HL) (λ ⟨j_,A3_,c3_,T3_⟩=>⟨[(3,vP (n5+0) 0),(6,vP (n29+0) 0),(35,vS qx28 (ox28 * 2) cl.length cc),(36,vI (cl.length:Int)),(37,vI (k_:Int)),(41,vI (j_:Int))],[((n29+0),.lit [vS qk 0 ((W (k_ * ev)).length) ((W (k_ * ev)).length),.int .u64 ((bq W ev cl.length).getD k_ 0)] 88 (0,0)),(d24,.obj (.deferred (some []))),((n5+0),.lit [.slice A3_ ((fQ (fl ev n xss (n - 0)) (bq W ev cl.length) k_ j_).length) c3_] 50 (0,0))],[T3_],j_ <= 8 /\ SlIs lS 5 (fQ (fl ev n xss (n - 0)) (bq W ev cl.length) k_ j_) A3_ c3_ T3_,8 - j_⟩) (0,A2_,c2_,T2_) [0,1,2] [0] (⟨Nat.zero_le _,hs2_⟩) ?_
   rintro ⟨j_,A3_,c3_,T3_⟩ ⟨hj_,hs3_⟩ mt31
   refine ae 6 [] λ _=>RN.em ((j_:Int) < 8) 42 (λ h32=>?_) λ h32=>?_
   ·refine ae 11 [] λ _=>RN.draw [8,9] []<|aH [] [0,1,3,2,4,5,6] [.own 2,.own 0,.nw,.dv] [0 <= 8 * (j_:Int),bd (8 * (j_:Int))]<|kZ 50 (congrArg (λ v_=>(.int .u8 v_:Value)) (GZ (r:=(bq W ev cl.length).getD k_ 0) (k:=j_) (by omega)))<|RD.one 7 (RDO.ev [] [] λ n33=>?_)
    refine RD.one 8 (lm [] AW (fQ (fl ev n xss (n - 0)) (bq W ev cl.length) k_ j_) [IntKind.u8.wrap (((bq W ev cl.length).getD k_ 0).fdiv (2 ^ (8 * j_)))] 0 0 rfl hs3_ (by rw [List.length_singleton,ru (by rw [dP];omega)];omega) ?_)
    rintro A34 c35 T36 ⟨hs37,hz38⟩
    refine RD.one 9 (RDO.ev [] [.own 3] λ _=>?_)
    refine RD.fin<|ai 6 [.nw] [bd ((j_:Int)+1)] λ _=>cR 3 (congrArg (λ v_=>(.lit [.slice A34 v_ c35] 50 (0,0):Blk)) (show (fQ (fl ev n xss (n - 0)) (bq W ev cl.length) k_ j_).length+1=(fQ (fl ev n xss (n - 0)) (bq W ev cl.length) k_ (j_+1)).length by rw [tD,List.length_append,List.length_singleton])) ?_
    refine mt31 (j_+1,A34,c35,T36) [1,2,3] [0] ?_
    try dsimp only
    exact ⟨⟨by omega,by rw [tD];exact hs37⟩,by omega⟩
   ·refine ai 11 [.nw] [bd ((k_:Int)+1)] λ _=>aJ 35 (congrArg (λ v_=>(.slice v_ cl.length cc:Value)) hAx28.symm)<|cR 2 (congrArg (λ v_=>(.lit [.slice A3_ v_ c3_] 50 (0,0):Blk)) (show (fQ (fl ev n xss (n - 0)) (bq W ev cl.length) k_ j_).length=(fQ (fl ev n xss (n - 0)) (bq W ev cl.length) (k_+1) 0).length by rw [show j_=8 by omega,oM (by rw [dP];omega)])) ?_
    refine mt26 (k_+1,A3_,c3_,T3_) [1,2] [0] ?_
    try dsimp only
    exact ⟨⟨by omega,by rw [<- oM (by rw [dP];omega),show 8=j_ by omega];exact hs3_⟩,by omega⟩
  ·refine ae 12 [.own 1] λ _=>RN.retM [d24] [0] [] [] [0] (v:=.slice A2_ ((fQ (fl ev n xss (n - 0)) (bq W ev cl.length) k_ 0).length) c2_) (H':=(ap [] [T2_])) ?_
   obtain rfl:k_=cl.length:=by omega
   have he_:(fQ (fl ev n xss (n - 0)) (bq W ev cl.length) cl.length 0)=(j9 ev n xss (bq W ev cl.length)):=xo (by omega) (by rw [dP])
   rw [he_] at hs2_
   exact ⟨(A2_,c2_,T2_),rfl,by rw [<- he_],hs2_⟩
 ·exact λ _ _ _ h=>h.elim
end Go.Proofs.YtgdcbiiopbpgaaaGreatDoor
