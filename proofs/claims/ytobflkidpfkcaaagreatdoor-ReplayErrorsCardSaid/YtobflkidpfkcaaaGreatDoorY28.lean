import Derived.Test.YtobflkidpfkcaaaGreatDoorY26
import Derived.Test.YtobflkidpfkcaaaGreatDoorY27
import Derived.Test.YtobflkidpfkcaaaGreatDoorY04
import Derived.Test.YtobflkidpfkcaaaGreatDoorY05
set_option maxHeartbeats 4000000
set_option maxRecDepth 100000
set_option linter.unusedSimpArgs false
set_option linter.unusedVariables false
namespace Go.Proofs.YtobflkidpfkcaaaGreatDoor
open Go.RowKit
def mI:Enc Int:=⟨1,λ p k=>match k with | 0=>.int .u64 p | _=>default,0⟩
noncomputable def Kf:TypeInfo:=match Tryz.prog.info? 45 with | some i=>i | none=>⟨.bool,"",0,0,false,0,0,none,false,#[]⟩
noncomputable def Kg:Value:=match Kf.zero with | some z=>z | none=>.bool false
theorem LP:EncOk mI Tryz.prog 45 Kf Kg where
 info:=by kernel_rfl
 zero:=by kernel_rfl
 size:=by kernel_rfl
 zsize:=by kernel_rfl
 zcell:=λ k hk=>by
  have h:∀ k < 1,Kg.cells[k]?=some (mI.cell mI.dflt k):=by intro k hk;(iterate 1 (rcases k with _ | k;· kernel_rfl));omega
  exact h k hk
 one:=λ x k=>by unfold mI;dsimp only;split <;> rfl
 bytes:=Nat.le_of_ble_eq_true (by kernel_rfl)
theorem GW (h:Nat):iU [.int .u64 0]=bn mI (List.replicate h 0):=by
 have e:=jA (e:=mI) ([]:List Int) h
 rw [List.nil_append] at e
 rw [show List.replicate h (0:Int)=List.replicate h mI.dflt from rfl,e]
 funext i k
 cases k with
 | zero=>rfl
 | succ k=>simp [iU,bn,mI]
theorem C4 {h:Nat} {b:Nat} {T:TypeId}:SlIs mI T [] (some ⟨b,0,none⟩) h [(b,.rows 1 h (bn mI (List.replicate h 0)) T (0,0))]:=.inr ⟨b,0,List.replicate h 0,by simp,by rw [Nat.zero_add];rfl,by simp,Nat.zero_le _,by simp⟩
theorem GX (S3:Setup) (bp ev gb0 rp n rc cc:Nat) (rA cA:Option Addr) (cl:List Ck) (F:HL) (hrp:(rp,.lit (Setup.l S3++[vP bp 0,vI (ev:Int),vP gb0 0,.slice rA n rc,.slice cA cl.length cc]) 73 (0,0)) ∈ F):Sp Tryz.prog 10 #[vP rp 0] [] F (λ u H'=>u=vI (n:Int) /\ H'=[]):=by
 refine Sp.run Tryz.func10 rfl (mc hrp mn) (A:=[]) (Ts:=[]) rfl λ w0=>?_
 refine ae 15 [.ro 0] λ _=>?_
 exact RN.ret [] [] [] ⟨rfl,rfl⟩
def bG (W:Nat -> List Int) (ev m:Nat):List Int:=(List.range m).map λ k=>iK (W (k * ev))
theorem fp (W:Nat -> List Int) (ev m:Nat):(bG W ev m).length=m:=by simp [bG]
theorem xi (W:Nat -> List Int) (ev m:Nat):bG W ev (m+1)=bG W ev m++[iK (W (m * ev))]:=by simp [bG,List.range_succ]
theorem zf (S3:Setup) (bp ev gb0 rp n rc cc:Nat) (rA cA:Option Addr) (cl:List Ck) (W:Nat -> List Int) (F:HL) (hrp:(rp,.lit (Setup.l S3++[vP bp 0,vI (ev:Int),vP gb0 0,.slice rA n rc,.slice cA cl.length cc]) 73 (0,0)) ∈ F) (hc:RowL xd 127 F cA cl.length cl) (hck:∀ k,k < cl.length -> ∃ q,cl.getD k xd.dflt=⟨some ⟨q,0,none⟩,(W (k * ev)).length,(W (k * ev)).length,iK (W (k * ev))⟩ /\ (q,.rows 1 (W (k * ev)).length (aO (W (k * ev))) 3 (0,0)) ∈ F) (hcl:cl.length <= 1000000):Sp Tryz.prog 36 #[vP rp 0] [] F (λ u H'=>∃ x:Option Addr × Nat × HL,H'=ap [] [x.2.2] /\ (u=.slice x.1 cl.length x.2.1 /\ SlIs mI 45 (bG W ev cl.length) x.1 x.2.1 x.2.2)):=by
 refine Sp.run Tryz.func36 rfl (mc hrp mn) (A:=[]) (Ts:=[]) rfl λ w0=>?_
 refine ai 28 [.ro 0,.mk 0 cl.length,.ro 0] [0=((0:Nat):Int) /\ (cl.length:Int)=((cl.length:Nat):Int) /\ 0 <= cl.length /\ 8 * cl.length <= 140737488355328 /\ 1=1 /\ cl.length <= 9223372036854775807] λ n1=>cS 0 (congrArg (λ v_=>(.rows 1 cl.length v_ 45 (0,0):Blk)) (show (iU [.int .u64 0])=(bn mI (List.replicate cl.length 0)) from (GW _)))<|si 0<|RN.loop (σ:=Nat × Option Addr × Nat × HL) (λ ⟨k_,A_,c_,T_⟩=>⟨[(3,.slice A_ k_ c_),(15,.slice cA cl.length cc),(16,vI (cl.length:Int)),(17,vI (k_:Int))],[],[T_],k_ <= cl.length /\ SlIs mI 45 (bG W ev k_) A_ c_ T_,cl.length - k_⟩) (0,some ⟨(n1+0),0,none⟩,cl.length,[((n1+0),.rows 1 cl.length (bn mI (List.replicate cl.length 0)) 45 (0,0))]) [] [0] (⟨Nat.zero_le _,C4⟩) ?_
 rintro ⟨k_,A_,c_,T_⟩ ⟨hk_,hs_⟩ mt3
 refine ae 6 [] λ _=>RN.em ((k_:Int) < (cl.length:Int)) 18 (λ h4=>?_) λ h4=>?_
 ·refine ae 7 [] λ _=>?_
  obtain ⟨qx5,ox5,Nx5,fx5,fzx5,hAx5,hqx5,hox5,hgx5⟩:=hc.at (k:=k_) (by omega)
  refine aK 15 (congrArg (λ v_=>(.slice v_ cl.length cc:Value)) hAx5)<|RN.ro (λ _=>(mc hrp (mc hqx5 mn)))<|ai 2 [.ix k_,.rorow 1 (ox5+k_) 0,.rorow 1 (ox5+k_) 1] [((ox5 * 2+k_ * 2)+1)=(ox5+k_) * 2+1 /\ (ox5+k_) < Nx5,(ox5 * 2+k_ * 2)=(ox5+k_) * 2+0 /\ (ox5+k_) < Nx5,(k_:Int)=((k_:Nat):Int) /\ k_ < cl.length] λ _=>aK 20 (congrArg (λ v_=>(.agg #[.slice v_.A v_.n v_.c,.int .u64 v_.r]:Value)) hgx5) ?_
  obtain ⟨qk,ek_,hqk⟩:=hck k_ (by omega)
  refine aK 20 (congrArg (λ v_:Ck=>(.agg #[.slice v_.A v_.n v_.c,.int .u64 v_.r]:Value)) ek_)<|ae 9 [.own 0,.own 0,.own 0] λ n6=>gB LP (bG W ev k_) [iK (W (k_ * ev))] 0 0 (fp W ev k_).symm hs_ (by rw [fp,List.length_singleton];omega) ?_
  rintro A7 c8 T9 ⟨hs10,hz11⟩
  refine ai 8 [.nw] [bg ((k_:Int)+1)] λ _=>aK 15 (congrArg (λ v_=>(.slice v_ cl.length cc:Value)) hAx5.symm) ?_
  refine mt3 (k_+1,A7,c8,T9) [] [0] ?_
  try dsimp only
  exact ⟨⟨by omega,by rw [xi];exact hs10⟩,by omega⟩
 ·refine ae 12 [] λ _=>RN.ret [] [] [0] (v:=.slice A_ k_ c_) (H':=(ap [] [T_])) ?_
  obtain rfl:k_=cl.length:=by omega
  exact ⟨(A_,c_,T_),rfl,rfl,hs_⟩
section
variable {rs_:List Bx} {ds_:List Dr} {bp ev rp n:Nat} {S S2:Setup} {J:Nat -> Nat × Int} {W:Nat -> List Int} {pre xss:List (List Inp)} {G F:HL}
theorem xj (h:RecH rs_ ds_ bp ev rp S S2 W n pre G) (hF:∀ x ∈ G,x ∈ F):Sp Tryz.prog 10 #[vP rp 0] [] F (λ u H'=>u=vI (n:Int) /\ H'=[]):=by
 cases h with
 | mk h3 hs hg hcs hb hr hrl hrr hc hcl hck=>exact GX _ _ _ _ _ _ _ _ _ _ _ _ (hF _ (List.mem_append_left _ (List.mem_singleton.2 rfl)))
theorem Ju (h:RecH rs_ ds_ bp ev rp S S2 W n pre G) (hF:∀ x ∈ G,x ∈ F) (hn:n <= 1000):Sp Tryz.prog 36 #[vP rp 0] (ap [] []) F (λ u H'=>∃ x:Option Addr × Nat × HL,H'=ap [] [x.2.2] /\ (u=.slice x.1 (n / ev+1) x.2.1 /\ SlIs mI 45 (bG W ev (n / ev+1)) x.1 x.2.1 x.2.2)):=by
 cases h with
 | mk h3 hs hg hcs hb hr hrl hrr hc hcl hck =>
  have hd:n / ev <= n:=Nat.div_le_self _ _
  have key:=zf _ _ _ _ _ _ _ _ _ _ _ W F (hF _ (List.mem_append_left _ (List.mem_singleton.2 rfl))) (hc.toRowL λ x hx=>hF x (by simp [ap,hx])) (hck F λ x hx=>hF x (by simp [ap,hx])) (by omega)
  rw [hcl] at key
  exact key
theorem NL (h:RecH rs_ ds_ bp ev rp S S2 (WS S J xss) n xss G) (hF:∀ x ∈ G,x ∈ F) (hV:SetV S) (hrn:S.rn <= 1000000) (hdn:S.dn <= 1000000) (hsz:48 <= sizeOf S /\ sizeOf S <= 1000) (hv:fh S rs_ ds_=0) (hev:1 <= ev /\ ev <= 60) (hE:dg F) (hn50:n <= 50) (hrow:∀ i,i < n -> fQ S.players (xss.getD i [])) (hAt:∀ i,i < n -> (J i).1 < 5 /\ AtOk F bp (i:Int) (J i)) {t:Nat} (ht:t <= n):Sp Tryz.prog 38 #[vP rp 0,vI (t:Int)] (ap [] []) F (λ u H'=>∃ q:Nat,H'=ap [(q,.rows 1 (WS S J xss t).length (aO (WS S J xss t)) 3 (0,0))] [] /\ u=.tuple #[vS q 0 (WS S J xss t).length (WS S J xss t).length,vI ((t:Int) % (ev:Int)),vI 0]):=by
 cases h with
 | mk h3 hs hg hcs hb hr hrl hrr hc hcl hck =>
  have h4:=hs F λ x hx=>hF x (by simp [ap,hx])
  have h5:=hr.toRowL (F:=F) λ x hx=>hF x (by simp [ap,hx])
  rw [hrl] at h5
  exact GV S _ rs_ ds_ bp ev _ rp n _ _ t J _ _ _ _ xss F (hF _ (List.mem_append_left _ (List.mem_singleton.2 rfl))) h3 h4.1 h4.2 hV hrn hdn hsz hv h5 (hrr F λ x hx=>hF x (by simp [ap,hx])) (hc.toRowL λ x hx=>hF x (by simp [ap,hx])) (hck F λ x hx=>hF x (by simp [ap,hx])) hcl hev hE hn50 hrow hAt ht
end
theorem GY (x:Int):mr (IntKind.i64.wrap x):=by
 unfold mr
 rw [IntKind.wrap_i64]
 omega
theorem rj (n:Int) (F:HL) (hn:mr n) (hE:o7 F):Sp Tryz.prog 5 #[vI n] (ap [] []) F (λ u H'=>∃ x:Nat × HL,H'=ap [] [x.2] /\ (u=vP x.1 0 /\ Book2 4 (aC n 5).toNat (aC (IntKind.i64.wrap (n+1)) 5).toNat x.1 x.2)):=by
 refine Sp.run Tryz.func5 rfl mn (A:=[]) (Ts:=[]) rfl λ w0=>?_
 refine ae 8 [] λ _=>aj (re n _ hn) ?_
 have hA1:=dF (n:=n) hn 5 (by decide)
 refine RN.ct (Hp:=[]) (Tp:=[]) [] [] (Gi (aC n 5).toNat _ (by omega) (aw hE)) ?_
 rintro _ ⟨b2,T3⟩ ⟨rfl,hB4⟩
 dsimp only at hB4
 refine ae 27 [] λ _=>aj (re (IntKind.i64.wrap (n+1)) _ (GY _)) ?_
 have hA5:=dF (n:=IntKind.i64.wrap (n+1)) (GY _) 5 (by decide)
 refine RN.ct [] [0] (Jr hB4 4 (by decide) (aC (IntKind.i64.wrap (n+1)) 5).toNat _ (by omega) (aw hE)) ?_
 rintro _ T6 ⟨rfl,hB7⟩
 refine ae 12 [] λ _=>RN.ret [] [] [0] (v:=vP b2 0) (H':=(ap [] [T6])) ?_
 exact ⟨(b2,T6),rfl,rfl,hB7⟩
theorem C5 (S:Setup) (A:Option Addr) (n cap:Nat) (xs:List Int) (t:Int) (F:HL) (hl:ArgL F A n xs) (hn:n <= 9223372036854775807) (hp:0 <= S.players /\ S.players <= 1000000) (ht:0 <= t /\ t <= 1000000):Sp Tryz.prog 23 #[Setup.v S,.slice A n cap,vI t] (ap [] []) F (λ u H'=>∃ x:Option Addr × Nat × HL,H'=ap [] [x.2.2] /\ (u=.slice x.1 S.players.toNat x.2.1 /\ SlIs gC 76 (rowL S.players xs (t / 2) S.players.toNat) x.1 x.2.1 x.2.2 /\ cq x.1)):=by
 refine Sp.run Tryz.func23 rfl mn (A:=[]) (Ts:=[]) rfl λ w0=>?_
 refine ai 12 (ow 0 16++[.nw]) [0 <= t /\ (0:Int) < 2 /\ t <= 9223372036854775807] λ n1=>RN.ct (Hp:=[]) (Tp:=[]) [] [] (Iy S A n cap xs (t / 2) _ hl.up hn (by omega) (by omega)) ?_
 rintro _ ⟨A2,c3,T4⟩ ⟨rfl,hs5,hz6⟩
 dsimp only at hs5 hz6
 refine ae 3 [] λ _=>RN.ret [] [] [0] (v:=.slice A2 S.players.toNat c3) (H':=(ap [] [T4])) ?_
 exact ⟨(A2,c3,T4),rfl,rfl,hs5,hz6⟩
def fM (pl:Int) (xs:List Int) (n:Nat):List (List Inp):=(List.range n).map λ t:Nat=>rowL pl xs ((t:Int) / 2) pl.toNat
theorem xk (pl:Int) (xs:List Int) (n:Nat):fM pl xs (n+1)=fM pl xs n++[rowL pl xs ((n:Int) / 2) pl.toNat]:=by simp [fM,List.range_succ]
theorem zg (pl:Int) (xs:List Int) (n:Nat):(fM pl xs n).length=n:=by simp [fM]
theorem zh {pl:Int} {xs:List Int} {n k:Nat} (h:k < n):(fM pl xs n).getD k []=rowL pl xs ((k:Int) / 2) pl.toNat:=by simp [fM,h]
theorem zi {F:HL} {A:Option Addr} {n:Nat} {xs:List Int} (hl:ArgL F A n xs) {pl:Int} (hp:0 <= pl) (cnt i:Nat) (hi:i < cnt):fQ pl ((fM pl xs cnt).getD i []):=by
 rw [zh hi]
 exact Jo hl hp _
theorem zj (S:Setup) (A:Option Addr) (n cap:Nat) (xs:List Int) (c:Int) (cnt:Nat) (F:HL) (hl:ArgL F A n xs) (hn:n <= 9223372036854775807) (hp:1 <= S.players /\ S.players <= 1000000) (hc:aC c 10=(cnt:Int)) (h20:cnt <= 19):Sp Tryz.prog 8 #[Setup.v S,.slice A n cap,vI c] (ap [] []) F (λ u H'=>∃ x:(Option Addr × Nat × List Rw) × HL × HL,H'=ap [] [x.2.1,x.2.2] /\ (u=.slice x.1.1 cnt x.1.2.1 /\ SlIs oz 23 x.1.2.2 x.1.1 x.1.2.1 x.2.1 /\ x.1.2.2.length=cnt /\ RwsT x.1.2.2 (fM S.players xs cnt) x.2.2)):=by
 refine Sp.run Tryz.func8 rfl mn (A:=[]) (Ts:=[]) rfl λ w0=>?_
 refine ae 18 [] λ n1=>RN.nt<|RN.nt<|RN.loop (σ:=Nat × Option Addr × Nat × List Rw × HL × HL) (λ ⟨t_,A_,c_,rs_,E_,T_⟩=>⟨[(1,.slice A n cap),(2,vI c),(3,vP (n1+0) 0),(7,.slice A_ t_ c_),(8,vI (t_:Int))],[((n1+0),.lit (Setup.l S) 32 (0,0))],[E_,T_],t_ <= cnt /\ t_ <= 20 /\ SlIs oz 23 rs_ A_ c_ E_ /\ rs_.length=t_ /\ RwsT rs_ (fM S.players xs t_) T_,20 - t_⟩) (0,none,0,[],[],[]) [0] [0,1] (⟨Nat.zero_le _,Nat.zero_le _,SlIs.nil _ _,rfl,RwsT.nil⟩) ?_
 rintro ⟨t_,A_,c_,rs_,E_,T_⟩ ⟨ht_,h20_,hs_,hrl_,hT_⟩ mt3
 refine ae 5 [] λ _=>aj (GI hc (by decide) _)<|ae 3 [] λ _=>RN.em ((t_:Int) < (cnt:Int)) 12 (λ h4=>?_) λ h4=>?_
 ·refine ae 10 (ow 0 16) λ _=>RN.ct (Hp:=[]) (Tp:=[]) [] [] (C5 S A n cap xs (t_:Int) _ hl.up hn (by omega) (by omega)) ?_
  rintro _ ⟨A5,c6,T7⟩ ⟨rfl,hs8,hz9⟩
  dsimp only at hs8 hz9
  refine ae 1 [] λ n10=>gB Gn rs_ [(⟨A5,S.players.toNat,c6⟩:Rw)] 1 0 hrl_.symm hs_ (by simp;omega) ?_
  rintro A11 c12 T13 ⟨hs14,hz15⟩
  refine ai 9 [.nw] [bg ((t_:Int)+1)] λ _=>mZ [2,1,0]<|oP ?_
  refine mt3 (t_+1,A11,c12,rs_++[(⟨A5,S.players.toNat,c6⟩:Rw)],T13,T_++T7) [1] [1,0] ?_
  try dsimp only
  refine ⟨⟨by omega,by omega,hs14,by simp;omega,?_⟩,by omega⟩
  rw [xk]
  exact hT_.snoc hs8 (by rw [ff];omega) (ff _ _ _ _).symm
 ·refine ae 12 [] λ _=>RN.ret [] [] [0,1] (v:=.slice A_ t_ c_) (H':=(ap [] [E_,T_])) ?_
  obtain rfl:t_=cnt:=by omega
  exact ⟨((A_,c_,rs_),E_,T_),rfl,rfl,hs_,hrl_,hT_⟩
def l7 (b:Nat):Setup:=⟨1,b,0,1,1,1,[⟨⟨5,[],none,0⟩,⟨0,0,0,0,0⟩,0,0⟩],⟨0,0,0,0⟩,none,0,0,none,0,0,0,⟨0,0⟩,0,0,0,1,0⟩
theorem xl (b:Nat):fh (l7 b) [] []=0:=by kernel_rfl
theorem zk (b:Nat):SetV (l7 b):=⟨⟨show (1:Int) <= 1 by decide,show (1:Int) <= 3 by decide⟩,⟨show 1 <= 1 by decide,show 1 <= 5 by decide⟩,⟨show (1:Int) <= 1 by decide,show (1:Int) <= 3 by decide⟩,⟨show (0:Int) <= 0 by decide,show (0:Int) <= 60 by decide⟩⟩
theorem Jv {b:Nat} {F:HL} (hb:(b,.rows 9 1 (iw (l7 b).bods) 62 (0,0)) ∈ F):SetCl F (l7 b):=⟨⟨⟨show (0:Int) <= 1 by decide,show (1:Int) <= 1000000 by decide⟩,show 1 <= 1000000 by decide⟩,hb,show 0+1 <= 1 by decide,λ k hk=>by
 obtain rfl:k=0:=by have:k < 1:=hk;omega
 exact ⟨⟨.zero _,Nat.zero_le _⟩,.inl rfl⟩⟩
theorem GZ (b:Nat) (F:HL):MapIn F (l7 b) [] []:=⟨.zero _,.zero _⟩
theorem C6 (b:Nat):sizeOf (l7 b)=60:=rfl
abbrev o9 (n:Nat):List (List Inp):=List.replicate n [⟨0,0,0⟩]
theorem C7 {n i:Nat} (h:i < n):(o9 n).getD i []=[⟨0,0,0⟩]:=by simp [o9,List.getD_eq_getElem?_getD,h]
theorem rk {n i:Nat} (h:i < n):fQ 1 ((o9 n).getD i []):=by
 rw [C7 h]
 refine ⟨rfl,λ k hk=>?_⟩
 obtain rfl:k=0:=by have:k < 1:=hk;omega
 decide
theorem LQ {e:Int} (S:Setup) (rs_:List Bx) (ds_:List Dr) (bp ev n cap:Nat) (J:Nat -> Nat × Int) (A:Option Addr) (rs:List Rw) (xss:List (List Inp)) (F:HL) (hS:SetCl F S) (hM:MapIn F S rs_ ds_) (hV:SetV S) (h1:1 <= S.nb) (hrn:S.rn <= 1000000) (hdn:S.dn <= 1000000) (hsz:(sizeOf S).toNat <= 1000000) (hv:fh S rs_ ds_=0) (hev:1 <= ev /\ ev <= 60) (hE:dg F) (hr:RowL oz 23 F A n rs) (hw:RwsIn F rs xss) (hn50:n <= 50) (hrow:∀ i,i < n -> fQ S.players (xss.getD i [])) (hAt:∀ i,i < n -> (J i).1 < 5 /\ AtOk F bp (i:Int) (J i)) (he:e=(ev:Int)):Sp Tryz.prog 7 #[Setup.v S,vP bp 0,vI e,.slice A n cap] (ap [] []) F (λ u H'=>∃ x:Nat × Setup × HL,H'=ap [] [x.2.2] /\ (u=vP x.1 0 /\ SetEq S x.2.1 /\ RecH rs_ ds_ bp ev x.1 S x.2.1 (WS S J xss) n xss x.2.2)):=by
 subst he
 exact xg S rs_ ds_ bp ev n cap J A rs xss F hS hM hV h1 hrn hdn hsz hv hev hE hr hw hn50 hrow hAt
theorem G1 (F:HL):Sp Tryz.prog 37 #[] (ap [] []) F (λ u H'=>∃ b:Nat,H'=ap [(b,.lit [vI 5,.slice none 0 0,vI 0,vI 0,vI 0,vI 0,vI 0,vI 0,vI 0] 62 (0,0))] [] /\ u=Setup.v (l7 b)):=by
 refine Sp.run Tryz.func37 rfl mn (A:=[]) (Ts:=[]) rfl λ w0=>?_
 refine ae 14 (ow 1 16) λ n1=>RN.ret (ow 1 16) [0] [] (v:=.agg #[vI 1,vS (n1+1) 0 1 1,vI 0,vI 0,vI 0,vI 0,.slice none 0 0,.slice none 0 0,vI 0,vI 0,vI 0,vI 0,vI 0,vI 0,vI 1,vI 0]) (H':=(ap [((n1+1),.lit [vI 5,.slice none 0 0,vI 0,vI 0,vI 0,vI 0,vI 0,vI 0,vI 0] 62 (0,0))] [])) ?_
 exact ⟨_,rfl,rfl⟩
theorem xm (F:HL) (hE0:o7 F) (hE1:dg F):Sp Tryz.prog 14 #[] [] F (λ u H'=>u=.bool true /\ H'=[]):=by
 refine Sp.run Tryz.func14 rfl mn (A:=[]) (Ts:=[]) rfl λ w0=>?_
 refine ae 17 [] λ _=>RN.nt<|RN.nt<|RN.loop (σ:=Nat × Option Addr × Nat × List Rw × HL × HL) (λ ⟨t_,A_,c_,rs_,E_,T_⟩=>⟨[(1,.slice A_ t_ c_),(2,vI (t_:Int))],[],[E_,T_],t_ <= 25 /\ SlIs oz 23 rs_ A_ c_ E_ /\ rs_.length=t_ /\ RwsT rs_ (o9 t_) T_,25 - t_⟩) (0,none,0,[],[],[]) [] [0,1] (⟨Nat.zero_le _,SlIs.nil _ _,rfl,RwsT.nil⟩) ?_
 rintro ⟨t_,A_,c_,rs_,E_,T_⟩ ⟨ht_,hs_,hrl_,hT_⟩ mt2
 refine ae 7 [] λ _=>RN.em ((t_:Int) < 25) 8 (λ h3=>?_) λ h3=>?_
 ·refine ae 10 [] λ n4=>gB Gn rs_ [(⟨some ⟨(n4+0),0,none⟩,1,1⟩:Rw)] 0 0 hrl_.symm hs_ (by simp;omega) ?_
  rintro A5 c6 T7 ⟨hs8,hz9⟩
  refine ai 9 [.nw] [bg ((t_:Int)+1)] λ _=>RN.dn 1 (.rows 3 1 (bn gC [⟨0,0,0⟩]) 76 (0,0))<|si 1<|mZ [2,0,1]<|oP ?_
  refine mt2 (t_+1,A5,c6,rs_++[(⟨some ⟨(n4+0),0,none⟩,1,1⟩:Rw)],T7,T_++[((n4+0),.rows 3 1 (bn gC [⟨0,0,0⟩]) 76 (0,0))]) [] [1,0] ?_
  try dsimp only
  refine ⟨⟨by omega,hs8,by simp;omega,?_⟩,by omega⟩
  rw [show o9 (t_+1)=o9 t_++[[⟨0,0,0⟩]] from List.replicate_succ']
  exact hT_.snoc (SlIs.one (e:=gC) (x:=⟨0,0,0⟩) (b:=(n4+0))) (by decide) rfl
 ·obtain rfl:t_=25:=by omega
  refine ae 8 [] λ _=>RN.ct (Hp:=[]) (Tp:=[]) [] [] (G1 _) ?_
  rintro _ b10 rfl
  refine RN.dn 0 (.rows 9 1 (iw (l7 b10).bods) 62 (0,0))<|RN.ct (Hp:=[]) (Tp:=[]) [] [] (rj 0 _ (by decide) (aw hE0)) ?_
  rintro _ ⟨b11,T12⟩ ⟨rfl,hB13⟩
  dsimp only at hB13
  replace hB13:Book2 4 (aC 0 5).toNat (aC 1 5).toNat b11 T12:=hB13
  refine ae 1 [] λ _=>RN.ct (Hp:=[]) (Tp:=[]) [] [] (xg (l7 b10) [] [] b11 10 25 c_ (L9 4 (aC 0 5).toNat (aC 1 5).toNat 0) A_ rs_ (o9 25) _ (Jv (aB 0)) (GZ _ _) (zk _) (show 1 <= 1 by decide) (show 0 <= 1000000 by decide) (show 0 <= 1000000 by decide) (show (60:Int).toNat <= 1000000 by decide) (xl _) (by decide) (aw hE1) (hs_.rowN (av 1) hrl_) (hT_ _ (av 2)) (by decide) (λ i hi=>rk hi) (λ i hi=>AZ hB13 (av 0) (by decide) (by decide) (t:=0+i) (by omega))) ?_
  rintro _ ⟨r14,S15,T16⟩ ⟨rfl,he17,hr18⟩
  dsimp only at he17 hr18
  refine ae 16 [] λ _=>RN.ct (Hp:=[]) (Tp:=[]) [] [] (NL (t:=25) hr18 (av 0) (zk _) (show 0 <= 1000000 by decide) (show 0 <= 1000000 by decide) (by rw [C6];decide) (xl _) (by decide) (aw hE1) (by decide) (λ i hi=>rk hi) (λ i hi=>AZ hB13 (av 1) (by decide) (by decide) (t:=0+i) (by omega)) (Nat.le_refl _)) ?_
  rintro _ q19 rfl
  have hwl_:((WS (l7 b10) (L9 4 (aC 0 5).toNat (aC 1 5).toNat 0) (o9 25) 25).length:Int)=60:=uv (J:=(L9 4 (aC 0 5).toNat (aC 1 5).toNat 0)) (zk b10) (ze _) (n:=25) (by decide) (λ i hi=>rk hi) (Nat.le_refl _)
  refine ae 12 [] λ _=>RN.ct (Hp:=[]) (Tp:=[]) [] [] (Ju hr18 (av 0) (n:=25) (by decide)) ?_
  rintro _ ⟨A20,c21,T22⟩ ⟨rfl,hs23⟩
  refine ae 11 [] λ _=>RN.fx 40 (decide_eq_true (show ((25:Nat):Int) % ((10:Nat):Int)=5 by decide))<|ae 5 [] λ _=>RN.fx 45 (decide_eq_true hwl_)<|ae 1 [] λ _=>aj (xj hr18 (av 1))<|ae 5 [] λ _=>?_
  exact RN.ret [] [] [] ⟨rfl,rfl⟩
def mJ:Enc Int:=⟨1,λ p k=>match k with | 0=>.int .u8 p | _=>default,0⟩
noncomputable def NM:TypeInfo:=match Tryz.prog.info? 5 with | some i=>i | none=>⟨.bool,"",0,0,false,0,0,none,false,#[]⟩
noncomputable def NN:Value:=match NM.zero with | some z=>z | none=>.bool false
theorem Be:EncOk mJ Tryz.prog 5 NM NN where
 info:=by kernel_rfl
 zero:=by kernel_rfl
 size:=by kernel_rfl
 zsize:=by kernel_rfl
 zcell:=λ k hk=>by
  have h:∀ k < 1,NN.cells[k]?=some (mJ.cell mJ.dflt k):=by intro k hk;(iterate 1 (rcases k with _ | k;· kernel_rfl));omega
  exact h k hk
 one:=λ x k=>by unfold mJ;dsimp only;split <;> rfl
 bytes:=Nat.le_of_ble_eq_true (by kernel_rfl)
def Jw (x:Inp):Int:=IntKind.u8.wrap (IntKind.i64.wrap (IntKind.i64.wrap (IntKind.i64.wrap (x.dx+1)+IntKind.i64.wrap (3 * IntKind.i64.wrap (x.dy+1)))+IntKind.i64.wrap (9 * x.act)))
def oE (xs:List Inp):List Int:=xs.map Jw
theorem iL (xs:List Inp):(oE xs).length=xs.length:=by simp [oE]
def iM (xs:List Inp) (k:Nat):List Int:=(oE xs).take k++List.replicate (xs.length - k) 0
theorem C8 {xs:List Inp} {k:Nat} (h:k <= xs.length):(iM xs k).length=xs.length:=by simp [iM,iL];omega
theorem zl (xs:List Inp):iM xs 0=List.replicate xs.length 0:=by simp [iM]
theorem C9 (xs:List Inp):iM xs xs.length=oE xs:=by simp [iM,<- iL]
theorem Da {xs:List Inp} {k:Nat} (h:k < xs.length):(iM xs k).set k (Jw (xs.getD k dI))=iM xs (k+1):=by
 have hl:(oE xs).length=xs.length:=iL xs
 apply List.ext_getElem?
 intro i
 unfold iM
 rw [List.getElem?_set]
 by_cases e:k=i
 ·subst e
  rw [if_pos rfl,if_pos (by simp;omega),List.getElem?_append,if_pos (by simp;omega),List.getElem?_take,if_pos (by omega)]
  simp [oE,h,List.getD_eq_getElem?_getD]
 ·rw [if_neg e,List.getElem?_append,List.getElem?_append]
  by_cases h1:i < k
  ·rw [if_pos (by simp;omega),if_pos (by simp;omega),List.getElem?_take,List.getElem?_take,if_pos h1,if_pos (by omega)]
  ·rw [if_neg (by simp;omega),if_neg (by simp;omega)]
   simp only [List.getElem?_replicate,List.length_take]
   congr 1
   simp only [eq_iff_iff]
   omega
theorem NO {l:List Int} {i:Nat} (h:i < l.length) (v:Int):dT (bn mJ l) i 0 (.int .u8 v)=bn mJ (l.set i v):=by
 funext i' k'
 unfold dT bn
 by_cases h1:i'=i
 ·subst h1
  rw [dN h]
  rcases k' with _ | k'
  ·rw [if_pos ⟨rfl,rfl⟩];rfl
  ·rw [if_neg (by omega)]
   rcases k' with _ | k' <;> rfl
 ·rw [if_neg (by simp [h1]),db (λ e=>h1 e.symm)]
def iO (r:Int) (k:Nat):List Int:=(List.range k).map λ i=>IntKind.u8.wrap (r.fdiv (2 ^ (8 * i)))
theorem xn (r:Int) (k:Nat):iO r (k+1)=iO r k++[IntKind.u8.wrap (r.fdiv (2 ^ (8 * k)))]:=by simp [iO,List.range_succ]
theorem rm (r:Int) (k:Nat):(iO r k).length=k:=by simp [iO]
theorem G2 {r:Int} {k:Nat} (h:k < 8):IntKind.u8.wrap (r.fdiv (2 ^ min (8 * (k:Int)).toNat 64))=IntKind.u8.wrap (r.fdiv (2 ^ (8 * k))):=by rw [show min (8 * (k:Int)).toNat 64=8 * k by omega]
def mK (ev n:Nat) (xss:List (List Inp)) (roots:List Int):List Int:=[IntKind.u8.wrap (ev:Int)]++[IntKind.u8.wrap (n:Int)]++(xss.map oE).flatten++(roots.map λ r=>iO r 8).flatten
def fi (ev n:Nat) (xss:List (List Inp)) (m:Nat):List Int:=[IntKind.u8.wrap (ev:Int)]++[IntKind.u8.wrap (n:Int)]++((xss.take m).map oE).flatten
theorem lE {ev n:Nat} {xss:List (List Inp)} {m:Nat} (h:m < xss.length):fi ev n xss (m+1)=fi ev n xss m++oE (xss.getD m []):=by
 unfold fi
 rw [lB h [],List.map_append,List.flatten_append]
 simp
theorem ux {ev n:Nat} {xss:List (List Inp)} (hx:∀ i,i < xss.length -> (xss.getD i []).length <= 1000):∀ m,m <= xss.length -> (fi ev n xss m).length <= 2+1000 * m
 | 0,_=>by simp [fi]
 | m+1,h=>by
  rw [lE (by omega),List.length_append,iL]
  have:=ux (ev:=ev) (n:=n) hx m (by omega)
  have:=hx m (by omega)
  omega
def fO (P roots:List Int) (k j:Nat):List Int:=P++((roots.take k).map λ r=>iO r 8).flatten++iO (roots.getD k 0) j
theorem Bf (P roots:List Int):fO P roots 0 0=P:=by simp [fO,iO]
theorem tn (P roots:List Int) (k j:Nat):fO P roots k (j+1)=fO P roots k j++[IntKind.u8.wrap ((roots.getD k 0).fdiv (2 ^ (8 * j)))]:=by
 unfold fO
 rw [xn]
 simp
theorem oG {P roots:List Int} {k:Nat} (h:k < roots.length):fO P roots k 8=fO P roots (k+1) 0:=by
 unfold fO
 rw [lB h 0,List.map_append,List.flatten_append]
 simp [iO]
theorem rq {P roots:List Int}:∀ {k:Nat},k <= roots.length -> ∀ j,(fO P roots k j).length=P.length+8 * k+j
 | 0,_,j=>by simp [fO,rm]
 | k+1,h,j=>by
  have:=rq (P:=P) (show k <= roots.length by omega) 8
  rw [oG (by omega)] at this
  have e:(fO P roots (k+1) j).length=(fO P roots (k+1) 0).length+j:=by
   unfold fO
   simp only [List.length_append,rm]
   omega
  omega
theorem xo {ev n m:Nat} {xss:List (List Inp)} {roots:List Int} (h:n=xss.length) (hm:m=roots.length):fO (fi ev n xss n) roots m 0=mK ev n xss roots:=by
 subst hm
 unfold fO fi mK
 rw [List.take_of_length_le (by omega),List.take_of_length_le (Nat.le_refl _)]
 simp [iO]
theorem Jy (xs:List Inp):iU [.int .u8 0]=bn mJ (iM xs 0):=by
 rw [zl]
 have e:=jA (e:=mJ) ([]:List Int) xs.length
 rw [List.nil_append] at e
 rw [show List.replicate xs.length (0:Int)=List.replicate xs.length mJ.dflt from rfl,e]
 funext i k
 cases k with
 | zero=>rfl
 | succ k=>simp [iU,bn,mJ]
theorem G3 {F:HL} {q n N:Nat} {l:List Int} {fz:Nat × Nat} (hq:(q,.rows 1 N (bn mJ l) 5 fz) ∈ F) (hn:l.length=n) (hN:n <= N):SrcIn Tryz.prog mJ F (some ⟨q,0,none⟩) n l:=by
 subst hn
 exact RowL.src Be (by decide) (RowL.whole hq hN)
def oH (l:List Int) (i:Nat):Nat -> Int
 | 0=>0
 | k+1=>orU (oH l i k) (IntKind.u64.wrap (IntKind.u64.wrap (l.getD (8 * i+k) 0) * 2 ^ min (8 * (k:Int)).toNat 64))
def Kh (l:List Int) (i:Nat):Nat:=min 8 (l.length - 8 * i)
def kB (l:List Int):Nat:=(l.length+7) / 8
def bx (l:List Int):List Int:=(List.range (kB l)).map λ i=>oH l i (Kh l i)
theorem kY (l:List Int):(bx l).length=kB l:=by simp [bx]
theorem pd {l:List Int} {i:Nat} (h:8 * i < l.length):(bx l)[i]?=some (oH l i (Kh l i)):=by
 have:i < kB l:=by unfold kB;omega
 simp [bx,this]
def fB (s:Int) (ws:List Int):Nat -> Int
 | 0=>s
 | k+1=>jB (fB s ws k) (ws.getD k 0)
def rt (b:ByteArray) (l:List Int):Int:=jB (jB (fB (cJ b ((kB l:Nat)+1:Int)) (bx l) (kB l)) (IntKind.u64.wrap (l.length:Int))) 0
open Go.Shelf
section
variable {P:Program} {N:Nat} {D:List Deferred} {F:HL} {w0:World} {L:FL} {Q:Exit -> Act -> World -> Prop}
end
section
variable {P:Program} {N:Nat} {D:List Deferred} {F:HL} {w0:World} {R:HL} {s:Cfg} {Q:Exit -> Act -> World -> Prop}
end
section
variable {α:Type} {e:Enc α} {T:TypeId} {F:HL} {A:Option Addr} {n cap:Nat} {xs:List α}
end
section
variable {r:Option Nat} {P:Program} {N:Nat} {D:List Deferred} {F:HL} {w0:World} {R:HL} {s:Cfg} {Q:Exit -> Act -> World -> Prop}
end
theorem G4 (x:Inp) (F:HL):Sp Tryz.prog 88 #[.agg #[vI x.dx,vI x.dy,vI x.act]] [] F (λ u H'=>u=.int .u8 (Jw x) /\ H'=[]):=by
 refine Sp.run Tryz.func88 rfl mn (A:=[]) (Ts:=[]) rfl λ w0=>?_
 refine ae 24 [.own 0,.own 0,.own 0] λ n1=>?_
 exact RN.ret [] [] [] ⟨rfl,rfl⟩
theorem G5 (A:Option Addr) (n c:Nat) (xs:List Inp) (F:HL) (hl:RowL gC 76 F A n xs) (hn:n <= 1000000):Sp Tryz.prog 59 #[.slice A n c] (ap [] []) F (λ u H'=>∃ q:Nat,H'=ap [(q,.rows 1 n (bn mJ (oE xs)) 5 (0,0))] [] /\ u=vS q 0 n n):=by
 have hxl_:=hl.len
 refine Sp.run Tryz.func59 rfl mn (A:=[]) (Ts:=[]) rfl λ w0=>?_
 refine ai 22 [.mk n n] [(n:Int)=((n:Nat):Int) /\ (n:Int)=((n:Nat):Int) /\ n <= n /\ 1 * n <= 140737488355328 /\ 1=1 /\ n <= 9223372036854775807] λ n1=>cS 0 (congrArg (λ v_=>(.rows 1 n v_ 5 (0,0):Blk)) (show (iU [.int .u8 0])=(bn mJ (iM xs 0)) from (Jy _)))<|RN.loop (σ:=Nat) (λ k_=>⟨[(3,vS (n1+0) 0 n n),(9,.slice A n c),(10,vI (n:Int)),(11,vI (k_:Int))],[((n1+0),.rows 1 n (bn mJ (iM xs k_)) 5 (0,0))],[],k_ <= n,n - k_⟩) 0 [0] [] (Nat.zero_le _) ?_
 rintro k_ hk_ mt3
 refine ae 6 [] λ _=>RN.em ((k_:Int) < (n:Int)) 12 (λ h4=>?_) λ h4=>?_
 ·refine ae 8 [] λ _=>?_
  obtain ⟨qx5,ox5,Nx5,fx5,fzx5,hAx5,hqx5,hox5,hgx5⟩:=hl.at (k:=k_) (by omega)
  refine aK 9 (congrArg (λ v_=>(.slice v_ n c:Value)) hAx5)<|RN.ro (λ _=>(mc hqx5 mn))<|ai 2 [.ix k_,.rorow 0 (ox5+k_) 0,.rorow 0 (ox5+k_) 1,.rorow 0 (ox5+k_) 2] [((ox5 * 3+k_ * 3)+2)=(ox5+k_) * 3+2 /\ (ox5+k_) < Nx5,((ox5 * 3+k_ * 3)+1)=(ox5+k_) * 3+1 /\ (ox5+k_) < Nx5,(ox5 * 3+k_ * 3)=(ox5+k_) * 3+0 /\ (ox5+k_) < Nx5,(k_:Int)=((k_:Nat):Int) /\ k_ < n] λ _=>aK 15 (congrArg (λ v_=>(.agg #[vI v_.dx,vI v_.dy,vI v_.act]:Value)) hgx5)<|ae 9 (ow 0 6) λ n6=>aj (G4 (xs.getD k_ dI) _)<|ai 9 [.ix k_,.row 1 k_ 0,.nw] [bg ((k_:Int)+1),(0+k_ * 1)=k_ * 1+0 /\ k_ < n,(k_:Int)=((k_:Nat):Int) /\ k_ < n] λ _=>aK 9 (congrArg (λ v_=>(.slice v_ n c:Value)) hAx5.symm)<|cS 1 (congrArg (λ v_=>(.rows 1 n v_ 5 (0,0):Blk)) (show (dT (bn mJ (iM xs k_)) k_ 0 (.int .u8 (Jw (xs.getD k_ dI))))=(bn mJ (iM xs (k_+1))) from (by rw [NO (by rw [C8 (by omega)];omega),Da (by omega)]))) ?_
  refine mt3 (k_+1) [1] [] ?_
  try dsimp only
  exact ⟨by omega,by omega⟩
 ·refine ae 12 [] λ _=>RN.ret [] [0] [] (v:=vS (n1+0) 0 n n) (H':=(ap [((n1+0),.rows 1 n (bn mJ (iM xs k_)) 5 (0,0))] [])) ?_
  obtain rfl:k_=n:=by omega
  exact ⟨(n1+0),by rw [<- C9,hxl_],rfl⟩
theorem xp (A:Option Addr) (n c m:Nat) (l:List Int) (T0 F:HL) (hs:SlIs mJ 5 l A c T0) (hn:n=l.length) (hm:m < 128) (hb:n <= 1000000):Sp Tryz.prog 57 #[.slice A n c,vI (m:Int)] (ap [] [T0]) F (λ u H'=>∃ x:Option Addr × Nat × HL,H'=ap [] [x.2.2] /\ (u=.slice x.1 (n+1) x.2.1 /\ SlIs mJ 5 (l++[IntKind.u8.wrap (m:Int)]) x.1 x.2.1 x.2.2)):=by
 refine Sp.run Tryz.func57 rfl mn (A:=[]) (Ts:=[T0]) rfl λ w0=>?_
 refine ae 7 [] λ _=>RN.rounds 1<|ae 7 [] λ _=>RN.fx 6 (decide_eq_false (show ¬ (m:Int) >= 128 by omega))<|ae 12 [] λ n1=>gB Be l [IntKind.u8.wrap (m:Int)] 0 0 hn hs (by rw [List.length_singleton];omega) ?_
 rintro A2 c3 T4 ⟨hs5,hz6⟩
 refine ae 3 [] λ _=>RN.ret [] [] [0] (v:=.slice A2 (n+1) c3) (H':=(ap [] [T4])) ?_
 exact ⟨(A2,c3,T4),rfl,rfl,hs5⟩
theorem zm {W:Nat -> List Int} {ev m k:Nat} (h:k < m):(bG W ev m).getD k 0=iK (W (k * ev)):=by simp [bG,h]
theorem xq (S3:Setup) (bp ev gb0 rp n rc cc:Nat) (rA cA:Option Addr) (rl:List Rw) (cl:List Ck) (xss:List (List Inp)) (W:Nat -> List Int) (F:HL) (hrp:(rp,.lit (Setup.l S3++[vP bp 0,vI (ev:Int),vP gb0 0,.slice rA n rc,.slice cA cl.length cc]) 73 (0,0)) ∈ F) (hr:RowL oz 23 F rA n rl) (hw:RwsIn F rl xss) (hc:RowL xd 127 F cA cl.length cl) (hck:∀ k,k < cl.length -> ∃ q,cl.getD k xd.dflt=⟨some ⟨q,0,none⟩,(W (k * ev)).length,(W (k * ev)).length,iK (W (k * ev))⟩ /\ (q,.rows 1 (W (k * ev)).length (aO (W (k * ev))) 3 (0,0)) ∈ F) (hcl:cl.length <= 1000) (hev:ev < 128) (hn:n < 128) (hlen:∀ i,i < n -> (xss.getD i []).length <= 1000):Sp Tryz.prog 27 #[vP rp 0] (ap [] []) F (λ u H'=>∃ x:Option Addr × Nat × HL,H'=ap [] [x.2.2] /\ (u=.slice x.1 (mK ev n xss (bG W ev cl.length)).length x.2.1 /\ SlIs mJ 5 (mK ev n xss (bG W ev cl.length)) x.1 x.2.1 x.2.2)):=by
 have hxn_:xss.length=n:=by rw [<- hw.len,hr.len]
 have hlen2:∀ i,i < xss.length -> (xss.getD i []).length <= 1000:=λ i hi=>hlen i (by omega)
 have hpl_:=ux (ev:=ev) (n:=n) hlen2 (n - 0) (by omega)
 refine Sp.runM Tryz.func27 rfl (mc hrp mn) (A:=[]) (Ts:=[]) rfl λ w0=>?_
 refine ae 11 [.ro 0] λ _=>RN.nt<|RN.ct [] [0] (xp none 0 0 ev [] ([]:HL) _ (SlIs.nil _ _) rfl (by omega) (by decide)) ?_
 rintro _ ⟨A1,c2,T3⟩ ⟨rfl,hs4⟩
 dsimp only at hs4
 refine ae 5 [.own 0] λ n5=>RN.draw [6,7] []<|ag [] [0,1,2,3,4,5] [.own 0,.ro 0]<|RD.one 6 (RDO.ct [] [] [0] (xp A1 1 c2 n ([]++[IntKind.u8.wrap (ev:Int)]) T3 _ hs4 rfl (by omega) (by decide)) ?_)
 rintro _ ⟨A6,c7,T8⟩ ⟨rfl,hs9⟩
 dsimp only at hs9
 refine RD.one 7 (RDO.ev [] [.own 0] λ _=>?_)
 refine RD.fin<|ae 10 [.ro 0] λ _=>RN.ct (Hp:=[]) (Tp:=[]) [] [] (ri 0 (n:Int) rp _) ?_
 rintro _ m10 rfl
 refine ae 3 [] λ _=>cS 3 (congrArg (λ v_=>(.lit [.slice A6 v_ c7] 79 (0,0):Blk)) (show 2=(fi ev n xss 0).length from rfl))<|RN.range (σ:=Nat × Option Addr × Nat × HL) (τ:=Nat × Option Addr × Nat × HL × Rw) (encs:=λ (x_:Rw)=>#[.slice x_.A x_.n x_.c]) (xs:=(GT rl 0 n)) (enters_of Tryz.func87 (by kernel_rfl) rfl) (λ ⟨m_,A_,c_,T_⟩=>([((n5+0),.lit [.slice A_ ((fi ev n xss m_).length) c_] 79 (0,0))],[T_])) (λ i_ ⟨m_,A_,c_,T_⟩=>m_=i_ /\ SlIs mJ 5 (fi ev n xss m_) A_ c_ T_) (λ c_ ⟨m_,A_,c_,T_⟩=>False) (λ ⟨m_,A_,c_,T_,p_⟩=>⟨[(0,vP rp 0),(3,vP (n5+0) 0),(4,.slice p_.A p_.n p_.c)],[((n5+0),.lit [.slice A_ ((fi ev n xss m_).length) c_] 79 (0,0))],[T_],True,0⟩) (λ i_ x_ ⟨m_,A_,c_,T_,p_⟩=>m_=i_ /\ p_=rl.getD (0+m_) oz.dflt /\ m_ < n - 0 /\ SlIs mJ 5 (fi ev n xss m_) A_ c_ T_) (0,A6,c7,T8) (⟨rfl,hs9⟩) [3] [0] (uw S3 bp ev gb0 rp n rc cc 0 n (m10+1) (m10+2) (m10+0) rA cA rl cl _ (aB 1) (aB 0) (aB 2) (aw hrp) hr.up ⟨by omega,by omega,by omega⟩) ?_ ?_ ?_ ?_
 ·rintro l_ i_ x_ ⟨m_,A_,c_,T_⟩ Y11 w12 hx13 ⟨rfl,hs_⟩ mt14
  refine ae 3 [] λ _=>?_
  refine mt14 (m_,A_,c_,T_,x_) [0] [0] ?_
  try dsimp only
  exact ⟨rfl,(oD hx13).2,(oD hx13).1,hs_⟩
 ·rintro l_ i_ x_ ⟨m_,A_,c_,T_,p_⟩ Y15 w16 hx17 ⟨rfl,hp_,hlt_,hs_⟩
  obtain ⟨bk,ok,Nk,fk,ck,ek2_,hIk,hik,hxk,hck2_⟩:=hw.get (k:=0+m_) (by rw [hr.len];omega)
  rw [Nat.zero_add] at ek2_ hik hxk
  have hle_:=ux (ev:=ev) (n:=n) hlen2 m_ (by omega)
  refine aK 4 (congrArg (λ v_:Rw=>Value.slice v_.A v_.n v_.c) (hp_.trans ((congrArg (λ z_=>rl.getD z_ oz.dflt) (Nat.zero_add m_)).trans ek2_)))<|ae 1 [] λ _=>RN.draw [3,4] []<|ag [] [0,1] [.own 0]<|RD.one 2 (RDO.ct [] (Hp:=[]) (Tp:=[]) [] [] (G5 _ (xss.getD m_ []).length ck (xss.getD m_ []) _ (.rows bk ok Nk fk (0,0) _ _ (aw (List.mem_append_right Y15 (List.mem_append_right _ hIk))) hik rfl hxk) (by have h_:=hlen m_ (by omega);omega)) ?_)
  rintro _ q18 rfl
  refine RD.one 3 (RDO.appU (c':=((xss.getD m_ []).length)) (tx:=79) [] Be (fi ev n xss m_) (oE (xss.getD m_ [])) 0 rfl hs_ (by rw [iL];have h_:=hlen m_ (by omega);omega) (G3 (q:=q18) (n:=(xss.getD m_ []).length) (N:=(xss.getD m_ []).length) (l:=oE (xss.getD m_ [])) (fz:=(0,0)) (aB 0) (iL _) (Nat.le_refl _)) ?_)
  rintro A19 c20 T21 ⟨hs22,hz23⟩
  refine RD.one 4 (RDO.ev [] [.own 1] λ _=>?_)
  refine RD.fin<|ae 1 [] λ _=>cS 1 (congrArg (λ v_=>(.lit [.slice A19 v_ c20] 79 (0,0):Blk)) (show (fi ev n xss m_).length+(oE (xss.getD m_ [])).length=(fi ev n xss (m_+1)).length by rw [lE (by omega),List.length_append]))<|RN.rn (m_+1,A19,c20,T21) [1] [0] ?_
  try dsimp only
  exact ⟨rfl,by rw [lE (by omega)];exact hs22⟩
 ·rintro d24 ⟨m_,A_,c_,T_⟩  ⟨rfl,hs_⟩
  rw [lD] at hs_
  refine cS 1 (congrArg (λ v_=>(.lit [.slice A_ (fi ev n xss v_).length c_] 79 (0,0):Blk)) (lD rl 0 n)) ?_
  have hq0_:SlIs mJ 5 (fO (fi ev n xss (n - 0)) (bG W ev cl.length) 0 0) A_ c_ T_:=by rw [Bf];exact hs_
  refine cS 1 (congrArg (λ v_=>(.lit [.slice A_ v_ c_] 79 (0,0):Blk)) (show (fi ev n xss (n - 0)).length=(fO (fi ev n xss (n - 0)) (bG W ev cl.length) 0 0).length by rw [Bf]))<|ae 14 [.ro 0] λ _=>RN.loop (σ:=Nat × Option Addr × Nat × HL) (λ ⟨k_,A2_,c2_,T2_⟩=>⟨[(3,vP (n5+0) 0),(35,.slice cA cl.length cc),(36,vI (cl.length:Int)),(37,vI (k_:Int))],[(d24,.obj (.deferred (some []))),((n5+0),.lit [.slice A2_ ((fO (fi ev n xss (n - 0)) (bG W ev cl.length) k_ 0).length) c2_] 79 (0,0))],[T2_],k_ <= cl.length /\ SlIs mJ 5 (fO (fi ev n xss (n - 0)) (bG W ev cl.length) k_ 0) A2_ c2_ T2_,cl.length - k_⟩) (0,A_,c_,T_) [0,1] [0] (⟨Nat.zero_le _,hq0_⟩) ?_
  rintro ⟨k_,A2_,c2_,T2_⟩ ⟨hk_,hs2_⟩ mt26
  refine ae 6 [] λ _=>RN.em ((k_:Int) < (cl.length:Int)) 38 (λ h27=>?_) λ h27=>?_
  ·refine ae 7 [] λ _=>?_
   obtain ⟨qx28,ox28,Nx28,fx28,fzx28,hAx28,hqx28,hox28,hgx28⟩:=hc.at (k:=k_) (by omega)
   refine aK 35 (congrArg (λ v_=>(.slice v_ cl.length cc:Value)) hAx28)<|RN.ro (λ _=>(mc hrp (mc hqx28 mn)))<|ai 2 [.ix k_,.rorow 1 (ox28+k_) 0,.rorow 1 (ox28+k_) 1] [((ox28 * 2+k_ * 2)+1)=(ox28+k_) * 2+1 /\ (ox28+k_) < Nx28,(ox28 * 2+k_ * 2)=(ox28+k_) * 2+0 /\ (ox28+k_) < Nx28,(k_:Int)=((k_:Nat):Int) /\ k_ < cl.length] λ _=>aK 40 (congrArg (λ v_=>(.agg #[.slice v_.A v_.n v_.c,.int .u64 v_.r]:Value)) hgx28) ?_
   obtain ⟨qk,ek_,hqk⟩:=hck k_ (by omega)
   refine aK 40 (congrArg (λ v_:Ck=>(.agg #[.slice v_.A v_.n v_.c,.int .u64 v_.r]:Value)) ek_)<|aK 40 (congrArg (λ v_=>(.agg #[vS qk 0 (W (k_ * ev)).length (W (k_ * ev)).length,.int .u64 v_]:Value)) (zm (W:=W) (ev:=ev) (m:=cl.length) (k:=k_) (by omega)).symm)<|ae 10 [.own 0,.own 0] λ n29=>RN.loop (σ:=Nat × Option Addr × Nat × HL) (λ ⟨j_,A3_,c3_,T3_⟩=>⟨[(3,vP (n5+0) 0),(6,vP (n29+0) 0),(35,vS qx28 (ox28 * 2) cl.length cc),(36,vI (cl.length:Int)),(37,vI (k_:Int)),(41,vI (j_:Int))],[((n29+0),.lit [vS qk 0 ((W (k_ * ev)).length) ((W (k_ * ev)).length),.int .u64 ((bG W ev cl.length).getD k_ 0)] 127 (0,0)),(d24,.obj (.deferred (some []))),((n5+0),.lit [.slice A3_ ((fO (fi ev n xss (n - 0)) (bG W ev cl.length) k_ j_).length) c3_] 79 (0,0))],[T3_],j_ <= 8 /\ SlIs mJ 5 (fO (fi ev n xss (n - 0)) (bG W ev cl.length) k_ j_) A3_ c3_ T3_,8 - j_⟩) (0,A2_,c2_,T2_) [0,1,2] [0] (⟨Nat.zero_le _,hs2_⟩) ?_
   rintro ⟨j_,A3_,c3_,T3_⟩ ⟨hj_,hs3_⟩ mt31
   refine ae 6 [] λ _=>RN.em ((j_:Int) < 8) 42 (λ h32=>?_) λ h32=>?_
   ·refine ae 11 [] λ _=>RN.draw [8,9] []<|aJ [] [0,1,3,2,4,5,6] [.own 2,.own 0,.nw,.dv] [0 <= 8 * (j_:Int),bg (8 * (j_:Int))]<|lO 50 (congrArg (λ v_=>(.int .u8 v_:Value)) (G2 (r:=(bG W ev cl.length).getD k_ 0) (k:=j_) (by omega)))<|RD.one 7 (RDO.ev [] [] λ n33=>?_)
    refine RD.one 8 (ld [] Be (fO (fi ev n xss (n - 0)) (bG W ev cl.length) k_ j_) [IntKind.u8.wrap (((bG W ev cl.length).getD k_ 0).fdiv (2 ^ (8 * j_)))] 0 0 rfl hs3_ (by rw [List.length_singleton,rq (by rw [fp];omega)];omega) ?_)
    rintro A34 c35 T36 ⟨hs37,hz38⟩
    refine RD.one 9 (RDO.ev [] [.own 3] λ _=>?_)
    refine RD.fin<|ai 6 [.nw] [bg ((j_:Int)+1)] λ _=>cS 3 (congrArg (λ v_=>(.lit [.slice A34 v_ c35] 79 (0,0):Blk)) (show (fO (fi ev n xss (n - 0)) (bG W ev cl.length) k_ j_).length+1=(fO (fi ev n xss (n - 0)) (bG W ev cl.length) k_ (j_+1)).length by rw [tn,List.length_append,List.length_singleton])) ?_
    refine mt31 (j_+1,A34,c35,T36) [1,2,3] [0] ?_
    try dsimp only
    exact ⟨⟨by omega,by rw [tn];exact hs37⟩,by omega⟩
   ·refine ai 11 [.nw] [bg ((k_:Int)+1)] λ _=>aK 35 (congrArg (λ v_=>(.slice v_ cl.length cc:Value)) hAx28.symm)<|cS 2 (congrArg (λ v_=>(.lit [.slice A3_ v_ c3_] 79 (0,0):Blk)) (show (fO (fi ev n xss (n - 0)) (bG W ev cl.length) k_ j_).length=(fO (fi ev n xss (n - 0)) (bG W ev cl.length) (k_+1) 0).length by rw [show j_=8 by omega,oG (by rw [fp];omega)])) ?_
    refine mt26 (k_+1,A3_,c3_,T3_) [1,2] [0] ?_
    try dsimp only
    exact ⟨⟨by omega,by rw [<- oG (by rw [fp];omega),show 8=j_ by omega];exact hs3_⟩,by omega⟩
  ·refine ae 12 [.own 1] λ _=>RN.retM [d24] [0] [] [] [0] (v:=.slice A2_ ((fO (fi ev n xss (n - 0)) (bG W ev cl.length) k_ 0).length) c2_) (H':=(ap [] [T2_])) ?_
   obtain rfl:k_=cl.length:=by omega
   have he_:(fO (fi ev n xss (n - 0)) (bG W ev cl.length) cl.length 0)=(mK ev n xss (bG W ev cl.length)):=xo (by omega) (by rw [fp])
   rw [he_] at hs2_
   exact ⟨(A2_,c2_,T2_),rfl,by rw [<- he_],hs2_⟩
 ·exact λ _ _ _ h=>h.elim
theorem Db (l:List Int) (A:Option Addr) (n c q:Nat) (lp:Nat) (X F:HL) (J:Nat -> HL -> Prop) (Jx:HL -> Prop) (T0:HL) (hb:n <= 1000000) (hl:RowL mJ 5 F A n l) (hq:(q,.lit [.slice A n c] 79 (0,0)) ∈ F) (hY:∀ i x H Y,(bx l)[i]?=some x -> J i H -> YL Tryz.prog lp (HZ x) H (Y++(X++F)) (λ b H'=>(b=true /\ J (i+1) H') \/ (b=false /\ Jx H'))) (hJ0:J 0 T0):Sp Tryz.prog 86 #[.func (.yield lp) #[] #[],vP q 0] (ap [] [T0]) (X++F) (λ _ H'=>J (bx l).length H' \/ Jx H'):=by
 have hln_:=hl.len
 refine Sp.run Tryz.func86 rfl (mc (List.mem_append_right _ hq) mn) (A:=[]) (Ts:=[T0]) rfl λ w0=>?_
 refine ae 6 [] λ _=>RN.loop (σ:=Nat × HL) (λ ⟨i,T_⟩=>⟨[(0,.func (.yield lp) #[] #[]),(1,vP q 0),(3,vI (8 * (i:Int)))],[],[T_],i <= kB l /\ J i T_,kB l - i⟩) (0,T0) [] [0] (⟨Nat.zero_le _,hJ0⟩) ?_
 rintro ⟨i,T_⟩ ⟨hi_,hJ_⟩ mt2
 refine ae 9 [.ro 0] λ _=>RN.em (8 * (i:Int) < (n:Int)) 9 (λ h3=>?_) λ h3=>?_
 ·refine ae 17 [] λ _=>RN.loop (σ:=Nat) (λ k=>⟨[(0,.func (.yield lp) #[] #[]),(1,vP q 0),(3,vI (8 * (i:Int))),(4,.int .u64 (oH l i k)),(5,vI (k:Int))],[],[T_],k <= 8 /\ 8 * i+k <= n,8 - k⟩) 0 [] [0] (⟨by omega,by omega⟩) ?_
  rintro k ⟨hk_,hk2_⟩ mt5
  refine ae 6 [] λ _=>RN.em ((k:Int) < 8) 14 (λ h6=>?_) λ h6=>?_
  ·refine ai 9 [.nw,.ro 0] [bg ((8 * (i:Int))+(k:Int))] λ _=>RN.em ((8 * (i:Int))+(k:Int) < (n:Int)) 21 (λ h7=>?_) λ h7=>?_
   ·refine ai 11 [.ro 0,.nw] [bg ((8 * (i:Int))+(k:Int))] λ _=>?_
    obtain ⟨qx8,ox8,Nx8,fx8,fzx8,hAx8,hqx8,hox8,hgx8⟩:=(hl.up (X:=X)).at (k:=(8 * i+k)) (by omega)
    refine aK 25 (congrArg (λ v_=>(.slice v_ n c:Value)) hAx8)<|RN.ro (λ _=>(mc (List.mem_append_right _ hq) (mc hqx8 mn)))<|ai 2 [.ix (8 * i+k),.rorow 1 (ox8+(8 * i+k)) 0] [(ox8 * 1+(8 * i+k) * 1)=(ox8+(8 * i+k)) * 1+0 /\ (ox8+(8 * i+k)) < Nx8,(8 * (i:Int))+(k:Int)=(((8 * i+k):Nat):Int) /\ (8 * i+k) < n] λ _=>aK 30 (congrArg (λ v_=>(.int .u8 v_:Value)) hgx8)<|ai 14 [.nw,.dv,.gen,.nw] [bg ((k:Int)+1),0 <= 8 * (k:Int),bg (8 * (k:Int))] λ _=>?_
    refine mt5 (k+1) [] [0] ?_
    try dsimp only
    exact ⟨⟨by omega,by omega⟩,by omega⟩
   ·obtain rfl:k=Kh l i:=by unfold Kh;omega
    refine ae 10 [] λ _=>RN.yield 0 (hY i (oH l i (Kh l i)) _ _ (pd (by omega)) hJ_) ?_
    rintro b_ T9 (⟨rfl,hJ10⟩ | ⟨rfl,hJ10⟩)
    ·refine ai 12 [.gen,.nw] [bg ((8 * (i:Int))+8)] λ _=>aK 3 (congrArg (λ v_=>(vI v_:Value)) (show (8 * (i:Int)+8)=8 * ((i+1:Nat):Int) by omega)) ?_
     refine mt2 (i+1,T9) [] [0] ?_
     try dsimp only
     exact ⟨⟨by unfold kB at *;omega,hJ10⟩,by unfold kB at *;omega⟩
    ·refine ae 4 [] λ _=>RN.ret [] [] [0] (v:=.tuple #[]) (H':=(ap [] [T9])) ?_
     rw [bj]
     exact .inr hJ10
  ·obtain rfl:k=Kh l i:=by unfold Kh;omega
   refine ae 19 [] λ _=>RN.yield 0 (hY i (oH l i (Kh l i)) _ _ (pd (by omega)) hJ_) ?_
   rintro b_ T11 (⟨rfl,hJ12⟩ | ⟨rfl,hJ12⟩)
   ·refine ai 12 [.gen,.nw] [bg ((8 * (i:Int))+8)] λ _=>aK 3 (congrArg (λ v_=>(vI v_:Value)) (show (8 * (i:Int)+8)=8 * ((i+1:Nat):Int) by omega)) ?_
    refine mt2 (i+1,T11) [] [0] ?_
    try dsimp only
    exact ⟨⟨by unfold kB at *;omega,hJ12⟩,by unfold kB at *;omega⟩
   ·refine ae 4 [] λ _=>RN.ret [] [] [0] (v:=.tuple #[]) (H':=(ap [] [T11])) ?_
    rw [bj]
    exact .inr hJ12
 ·obtain rfl:i=kB l:=by unfold kB at *;omega
  refine ae 5 [] λ _=>RN.ret [] [] [0] (v:=.tuple #[]) (H':=(ap [] [T_])) ?_
  rw [bj]
  exact .inl (by rw [kY];exact hJ_)
theorem xr (l:List Int) (A:Option Addr) (n c q:Nat) (F:HL) (hb:n <= 1000000) (hl:RowL mJ 5 F A n l) (hq:(q,.lit [.slice A n c] 79 (0,0)) ∈ F):It Tryz.prog 86 #[vP q 0] F HZ (bx l):=by
 intro X lp J Jx H0 hY h0
 have key:=Db l A n c q lp X F J Jx H0 hb hl hq hY h0
 rw [bj] at key
 exact key
theorem tp (A:Option Addr) (n c:Nat) (F:HL):Sp Tryz.prog 56 #[.slice A n c] (ap [] []) F (λ u H'=>∃ m:Nat,H'=ap [((m+0),.lit [.slice A n c] 79 (0,0))] [] /\ u=.func (.func 86) #[] #[vP (m+0) 0]):=by
 refine Sp.run Tryz.func56 rfl mn (A:=[]) (Ts:=[]) rfl λ w0=>?_
 refine ae 12 [] λ n1=>RN.ret [] [0] [] (v:=.func (.func 86) #[] #[vP (n1+0) 0]) (H':=(ap [((n1+0),.lit [.slice A n c] 79 (0,0))] [])) ?_
 exact ⟨_,rfl,rfl⟩
theorem zn (b:ByteArray) (l:List Int) (A:Option Addr) (n c:Nat) (F:HL) (hbb:b.size <= 1000000) (hb:n <= 1000000) (hl:RowL mJ 5 F A n l):Sp Tryz.prog 26 #[.string b,.slice A n c] [] F (λ u H'=>u=.int .u64 (rt b l) /\ H'=[]):=by
 have hln_:=hl.len
 refine Sp.runM Tryz.func26 rfl mn (A:=[]) (Ts:=[]) rfl λ w0=>?_
 refine ai 22 [.nw,.nw] [0 <= (n:Int) /\ (0:Int) < 8 /\ (n:Int) <= 9223372036854775807,0 <= (n:Int) /\ (0:Int) < 8 /\ (n:Int) <= 9223372036854775807] λ _=>RN.en ((n:Int) % 8=0) 14 (λ h1=>?_) λ h1=>?_
 ·refine ai 8 [.nw] [bg (((n:Int) / 8)+1)] λ _=>aK 19 (congrArg (λ v_=>(vI v_:Value)) (show ((n:Int) / 8)+1=((kB l:Nat):Int)+1 by unfold kB;omega))<|aj (iA b (((kB l:Nat):Int)+1) _ hbb)<|ae 8 [.own 0] λ n2=>RN.ct (Hp:=[]) (Tp:=[]) [] [] (tp A n c _) ?_
  rintro _ m3 rfl
  refine ae 3 [] λ _=>RN.range (σ:=Nat) (τ:=Nat × Int) (encs:=λ (x_:Int)=>#[.int .u64 x_]) (xs:=(bx l)) (enters_of Tryz.func86 (by kernel_rfl) rfl) (λ m_=>([((n2+0),.lit [.int .u64 (fB (cJ b (((kB l:Nat):Int)+1)) (bx l) m_)] 45 (0,0))],[])) (λ i_ m_=>m_=i_) (λ c_ m_=>False) (λ ⟨m_,y_⟩=>⟨[(1,.slice A n c),(6,vP (n2+0) 0),(7,.int .u64 y_)],[((n2+0),.lit [.int .u64 (fB (cJ b (((kB l:Nat):Int)+1)) (bx l) m_)] 45 (0,0))],[],True,0⟩) (λ i_ x_ ⟨m_,y_⟩=>m_=i_ /\ y_=x_) 0 rfl [1] [] (xr l A n c (m3+0) _ hb (hl.mono λ x hx=>aw hx) (aB 0)) ?_ ?_ ?_ ?_
  ·rintro l_ i_ x_ m_ Y4 w5 hx6 rfl mt7
   refine ae 3 [] λ _=>?_
   refine mt7 (m_,x_) [0] [] ?_
   try dsimp only
   exact ⟨rfl,rfl⟩
  ·rintro l_ i_ x_ ⟨m_,y_⟩ Y8 w9 hx10 ⟨rfl,ey_⟩
   refine ae 4 [.own 0] λ _=>aj (eE (fB (cJ b (((kB l:Nat):Int)+1)) (bx l) m_) y_ _)<|ae 3 [.own 0] λ _=>?_
   have e_:fB (cJ b (((kB l:Nat):Int)+1)) (bx l) (m_+1)=jB (fB (cJ b (((kB l:Nat):Int)+1)) (bx l) m_) y_:=by rw [fB,ey_,p9 hx10]
   refine cS 0 (congrArg (λ v_=>(.lit [.int .u64 v_] 45 (0,0):Blk)) e_.symm)<|RN.rn (m_+1) [0] [] ?_
   try dsimp only
   first | done | rfl
  ·rintro d11 m_  rfl
   refine ae 8 [.own 1] λ _=>aj (eE (fB (cJ b (((kB l:Nat):Int)+1)) (bx l) (bx l).length) (IntKind.u64.wrap (n:Int)) _)<|aj (eE (jB (fB (cJ b (((kB l:Nat):Int)+1)) (bx l) (bx l).length) (IntKind.u64.wrap (n:Int))) 0 _)<|ae 3 [] λ _=>RN.retM [d11] [0] [] [] [] (v:=.int .u64 (jB (jB (fB (cJ b (((kB l:Nat):Int)+1)) (bx l) (bx l).length) (IntKind.u64.wrap (n:Int))) 0)) (H':=[]) ?_
   exact ⟨by rw [kY,<- hln_];rfl,rfl⟩
  ·exact λ _ _ _ h=>h.elim
 ·refine ai 12 [.nw,.nw] [bg ((((n:Int) / 8)+1)+1),bg (((n:Int) / 8)+1)] λ _=>aK 19 (congrArg (λ v_=>(vI v_:Value)) (show (((n:Int) / 8)+1)+1=((kB l:Nat):Int)+1 by unfold kB;omega))<|aj (iA b (((kB l:Nat):Int)+1) _ hbb)<|ae 8 [.own 0] λ n12=>RN.ct (Hp:=[]) (Tp:=[]) [] [] (tp A n c _) ?_
  rintro _ m13 rfl
  refine ae 3 [] λ _=>RN.range (σ:=Nat) (τ:=Nat × Int) (encs:=λ (x_:Int)=>#[.int .u64 x_]) (xs:=(bx l)) (enters_of Tryz.func86 (by kernel_rfl) rfl) (λ m_=>([((n12+0),.lit [.int .u64 (fB (cJ b (((kB l:Nat):Int)+1)) (bx l) m_)] 45 (0,0))],[])) (λ i_ m_=>m_=i_) (λ c_ m_=>False) (λ ⟨m_,y_⟩=>⟨[(1,.slice A n c),(6,vP (n12+0) 0),(7,.int .u64 y_)],[((n12+0),.lit [.int .u64 (fB (cJ b (((kB l:Nat):Int)+1)) (bx l) m_)] 45 (0,0))],[],True,0⟩) (λ i_ x_ ⟨m_,y_⟩=>m_=i_ /\ y_=x_) 0 rfl [1] [] (xr l A n c (m13+0) _ hb (hl.mono λ x hx=>aw hx) (aB 0)) ?_ ?_ ?_ ?_
  ·rintro l_ i_ x_ m_ Y14 w15 hx16 rfl mt17
   refine ae 3 [] λ _=>?_
   refine mt17 (m_,x_) [0] [] ?_
   try dsimp only
   exact ⟨rfl,rfl⟩
  ·rintro l_ i_ x_ ⟨m_,y_⟩ Y18 w19 hx20 ⟨rfl,ey_⟩
   refine ae 4 [.own 0] λ _=>aj (eE (fB (cJ b (((kB l:Nat):Int)+1)) (bx l) m_) y_ _)<|ae 3 [.own 0] λ _=>?_
   have e_:fB (cJ b (((kB l:Nat):Int)+1)) (bx l) (m_+1)=jB (fB (cJ b (((kB l:Nat):Int)+1)) (bx l) m_) y_:=by rw [fB,ey_,p9 hx20]
   refine cS 0 (congrArg (λ v_=>(.lit [.int .u64 v_] 45 (0,0):Blk)) e_.symm)<|RN.rn (m_+1) [0] [] ?_
   try dsimp only
   first | done | rfl
  ·rintro d21 m_  rfl
   refine ae 8 [.own 1] λ _=>aj (eE (fB (cJ b (((kB l:Nat):Int)+1)) (bx l) (bx l).length) (IntKind.u64.wrap (n:Int)) _)<|aj (eE (jB (fB (cJ b (((kB l:Nat):Int)+1)) (bx l) (bx l).length) (IntKind.u64.wrap (n:Int))) 0 _)<|ae 3 [] λ _=>RN.retM [d21] [0] [] [] [] (v:=.int .u64 (jB (jB (fB (cJ b (((kB l:Nat):Int)+1)) (bx l) (bx l).length) (IntKind.u64.wrap (n:Int))) 0)) (H':=[]) ?_
   exact ⟨by rw [kY,<- hln_];rfl,rfl⟩
  ·exact λ _ _ _ h=>h.elim
def rH:Enc Int:=⟨1,λ p k=>match k with | 0=>vI p | _=>default,0⟩
noncomputable def NP:TypeInfo:=match Tryz.prog.info? 3 with | some i=>i | none=>⟨.bool,"",0,0,false,0,0,none,false,#[]⟩
noncomputable def NQ:Value:=match NP.zero with | some z=>z | none=>.bool false
theorem Bg:EncOk rH Tryz.prog 3 NP NQ where
 info:=by kernel_rfl
 zero:=by kernel_rfl
 size:=by kernel_rfl
 zsize:=by kernel_rfl
 zcell:=λ k hk=>by
  have h:∀ k < 1,NQ.cells[k]?=some (rH.cell rH.dflt k):=by intro k hk;(iterate 1 (rcases k with _ | k;· kernel_rfl));omega
  exact h k hk
 one:=λ x k=>by unfold rH;dsimp only;split <;> rfl
 bytes:=Nat.le_of_ble_eq_true (by kernel_rfl)
theorem tq (b:ByteArray) (xs:List Int) (A:Option Addr) (n c:Nat) (F:HL) (hbb:b.size <= 1000000) (hb:n <= 1000000) (hl:RowL rH 3 F A n xs):Sp Tryz.prog 24 #[.string b,.slice A n c] [] F (λ u H'=>u=.int .u64 (kK b xs) /\ H'=[]):=by
 have hln_:=hl.len
 refine Sp.run Tryz.func24 rfl mn (A:=[]) (Ts:=[]) rfl λ w0=>?_
 refine ae 10 [] λ _=>aj (iA b (n:Int) _ hbb)<|ae 12 [] λ _=>RN.loop (σ:=Nat) (λ k=>⟨[(5,.int .u64 (tR (cJ b (n:Int)) xs k)),(12,.slice A n c),(13,vI (n:Int)),(14,vI (k:Int))],[],[],k <= n,n - k⟩) 0 [] [] (Nat.zero_le _) ?_
 rintro k hk_ mt2
 refine ae 6 [] λ _=>RN.em ((k:Int) < (n:Int)) 15 (λ h3=>?_) λ h3=>?_
 ·refine ae 7 [] λ _=>?_
  obtain ⟨qx4,ox4,Nx4,fx4,fzx4,hAx4,hqx4,hox4,hgx4⟩:=hl.at (k:=k) (by omega)
  refine aK 12 (congrArg (λ v_=>(.slice v_ n c:Value)) hAx4)<|RN.ro (λ _=>(mc hqx4 mn))<|ai 2 [.ix k,.rorow 0 (ox4+k) 0] [(ox4 * 1+k * 1)=(ox4+k) * 1+0 /\ (ox4+k) < Nx4,(k:Int)=((k:Nat):Int) /\ k < n] λ _=>aK 17 (congrArg (λ v_=>(vI v_:Value)) hgx4)<|ae 7 [] λ _=>aj (eE (tR (cJ b (n:Int)) xs k) (IntKind.u64.wrap (xs.getD k 0)) _)<|ai 8 [.nw] [bg ((k:Int)+1)] λ _=>aK 12 (congrArg (λ v_=>(.slice v_ n c:Value)) hAx4.symm) ?_
  refine mt2 (k+1) [] [] ?_
  try dsimp only
  exact ⟨by omega,by omega⟩
 ·refine ae 9 [] λ _=>aj (eE (tR (cJ b (n:Int)) xs k) 0 _)<|ae 3 [] λ _=>RN.ret [] [] [] (v:=.int .u64 (jB (tR (cJ b (n:Int)) xs k) 0)) (H':=[]) ?_
  obtain rfl:k=n:=by omega
  exact ⟨by unfold kK;rw [hln_],rfl⟩
def xt (cs:List Value):Nat -> Nat -> Value:=λ i k=>match k with | 0=>cs.getD i default | _=>default
theorem NR:∀ cs:List Value,bB 1 (xt cs) cs.length=cs:=λ cs=>by
 have h:∀ n,n <= cs.length -> bB 1 (xt cs) n=cs.take n:=λ n=>by
  induction n with
  | zero=>intro _;rfl
  | succ n ih =>
   intro hn
   rw [bB,ih (by omega),List.take_add_one,List.getElem?_eq_getElem (by omega)]
   simp [xt,List.getD_eq_getElem?_getD,List.getElem?_eq_getElem (show n < cs.length by omega),List.range_one]
 rw [h _ (Nat.le_refl _),List.take_length]
def O7:Nat × Blk -> Nat × Blk
 | (b,.lit cs ty fz)=>(b,.rows 1 cs.length (xt cs) ty fz)
 | x=>x
theorem Jz (F:HL):du (F.map O7)=du F:=by
 unfold du
 rw [List.map_map]
 refine List.map_congr_left λ x _=>?_
 obtain ⟨b,k⟩:=x
 cases k with
 | lit cs ty fz=>simp [O7,Blk.den,NR]
 | rows w n g ty fz=>rfl
 | obj o=>rfl
def nG (j k:Nat):List Int:=[bA j 0,bA j 1,bA j 2]++((fE j).take k).flatMap λ x=>[x.op,x.n]
theorem ru {j k:Nat} (h:k < (fE j).length):nG j (k+1)=nG j k++[((fE j).getD k dIns).op,((fE j).getD k dIns).n]:=by
 unfold nG
 rw [lB h dIns,List.flatMap_append]
 simp
theorem lF {j:Nat}:∀ k,k <= (fE j).length -> (nG j k).length=3+2 * k
 | 0,_=>rfl
 | k+1,h=>by
  rw [ru (by omega),List.length_append,lF k (by omega)]
  simp
  omega
def xu (j:Nat):Int:=kK ⟨#[112,114,111,103,114,97,109]⟩ (nG j (cD j))
theorem xv (h:Nat):iU [.int .i64 0]=bn rH (List.replicate h 0):=by
 have e:=jA (e:=rH) ([]:List Int) h
 rw [List.nil_append] at e
 rw [show List.replicate h (0:Int)=List.replicate h rH.dflt from rfl,e]
 funext i k
 cases k with
 | zero=>rfl
 | succ k=>simp [iU,bn,rH]
theorem rv {h:Nat} {b:Nat} {T:TypeId}:SlIs rH T [] (some ⟨b,0,none⟩) h [(b,.rows 1 h (bn rH (List.replicate h 0)) T (0,0))]:=.inr ⟨b,0,List.replicate h 0,by simp,by rw [Nat.zero_add];rfl,by simp,Nat.zero_le _,rfl⟩
theorem SrcIn.off {P:Program} {F:HL} {q o:Nat} {xs:List Int} {cs:List Value} {ty:TypeId} {fz:Nat × Nat} (hq:(q,.lit cs ty fz) ∈ F) (hc:∀ j,j < xs.length -> cs[o+j]?=some (vI (xs.getD j 0))):SrcIn P rH F (some ⟨q,o,Option.none⟩) xs.length xs:=by
 have hlen:(ay rH xs).length=xs.length:=by rw [aS];exact Nat.mul_one _
 have bO:∀ j,j < xs.length -> (ay rH xs)[j]?=some (vI (xs.getD j 0)):=λ j hj=>by
  rw [jV (e:=rH) xs (by decide) (by rw [show rH.w=1 from rfl];omega)]
  rw [show rH.w=1 from rfl,Nat.div_one,Nat.mod_one]
  rfl
 refine ⟨⟨rfl,λ h=>by cases h⟩,λ c hk X w hR=>Src.ofSlice w hk _ _ _ _ (by rw [hlen];exact (Nat.mul_one _).symm) ?_ ?_⟩
 ·intro j u hj
  have hl:j < xs.length:=by rw [<- hlen];exact (List.getElem?_eq_some_iff.1 hj).1
  rw [bO j hl] at hj
  obtain rfl:=Option.some.inj hj
  have hb:=hR.holds _ (List.mem_append_right X hq)
  simp only [Blk.den] at hb
  rw [Addr.add_lit]
  simp [World.cell?,hb,hc j hl]
 ·intro u hu
  simp only [ay,List.mem_flatMap,List.mem_map] at hu
  obtain ⟨x,_,k,_,rfl⟩:=hu
  exact Bg.one x k
def NS (F:HL) (j:Nat) (A:Option Addr):Prop:=0 < cD j -> ∃ b rest,A=some ⟨b,0,none⟩ /\ (b,Blk.rows 1 (oy j++rest).length (xt (oy j++rest)) 176 (0,0)) ∈ F
theorem InsW.r {F:HL} {j:Nat} {A:Option Addr} (h:InsW F j A):NS (F.map O7) j A:=λ h0=>by
 obtain ⟨b,rest,h1,h2⟩:=h h0
 exact ⟨b,rest,h1,List.mem_map.2 ⟨_,h2,rfl⟩⟩
theorem LS {j:Nat} (hj:j < 5) (rest:List Value) {k:Nat} (hk:k < cD j):(.agg #[(oy j++rest).getD (k * 2) default,(oy j++rest).getD (1+k * 2) default]:Value)=.agg #[vI ((fE j).getD k dIns).op,vI ((fE j).getD k dIns).n]:=by
 have hl:=kX hj
 have e:∀ m,m < 2 -> (oy j++rest).getD (m+k * 2) default=gQ.cell ((fE j).getD k dIns) m:=λ m hm=>by
  rw [mE hj,List.getD_eq_getElem?_getD,List.getElem?_append_left (by rw [aS,show gQ.w=2 from rfl];omega),jV (e:=gQ) (fE j) (by decide) (by rw [show gQ.w=2 from rfl];omega),show gQ.w=2 from rfl,show (m+k * 2) / 2=k by omega,show (m+k * 2) % 2=m by omega]
  rfl
 have e0:=e 0 (by decide)
 rw [Nat.zero_add] at e0
 rw [e0,e 1 (by decide)]
 rfl
theorem Dc (j:Nat) (A:Option Addr) (c:Nat) (F:HL) (hj:j < 5) (hw:NS F j A):Sp Tryz.prog 55 #[.agg #[.slice A (cD j) c,vI (bA j 0),vI (bA j 1),vI (bA j 2)]] [] F (λ u H'=>u=.int .u64 (xu j) /\ H'=[]):=by
 have hl_:=kX hj
 have hl32_:=pP hj
 refine Sp.run Tryz.func55 rfl mn (A:=[]) (Ts:=[]) rfl λ w0=>?_
 refine ai 22 [.own 0,.nw,.nw,.mk 0 ((3+(2 * (((cD j):Nat):Int))).toNat)] [0=((0:Nat):Int) /\ 3+(2 * (((cD j):Nat):Int))=(((3+(2 * (((cD j):Nat):Int))).toNat:Nat):Int) /\ 0 <= (3+(2 * (((cD j):Nat):Int))).toNat /\ 8 * ((3+(2 * (((cD j):Nat):Int))).toNat) <= 140737488355328 /\ 1=1 /\ (3+(2 * (((cD j):Nat):Int))).toNat <= 9223372036854775807,bg (3+(2 * (((cD j):Nat):Int))),bg (2 * (((cD j):Nat):Int))] λ n1=>cS 0 (congrArg (λ v_=>(.rows 1 ((3+(2 * (((cD j):Nat):Int))).toNat) v_ 3 (0,0):Blk)) (show (iU [vI 0])=(bn rH (List.replicate ((3+(2 * (((cD j):Nat):Int))).toNat) 0)) from (xv _)))<|si 0<|RN.appU (c':=3) (tx:=22) Bg ([]:List Int) ([bA j 0,bA j 1,bA j 2]) 0 rfl (rv (h:=(3+(2 * (((cD j):Nat):Int))).toNat) (b:=(n1+1)) (T:=3)) (Nat.le_of_ble_eq_true rfl) (SrcIn.off (q:=(n1+0)) (o:=1) (ty:=103) (fz:=(0,0)) (cs:=[.slice A (cD j) c,vI (bA j 0),vI (bA j 1),vI (bA j 2)]) (aB 0) (λ j_ hj_=>by obtain rfl | rfl | rfl:j_=0 \/ j_=1 \/ j_=2:=by { have:j_ < 3:=hj_;omega } <;> rfl)) ?_
 rintro A2 c3 T4 ⟨hs5,hz6⟩
 refine ae 13 [.own 0] λ _=>RN.loop (σ:=Nat × Option Addr × Nat × HL) (λ ⟨k_,A_,c_,T_⟩=>⟨[(3,.slice A_ (3+2 * k_) c_),(17,.slice A (cD j) c),(18,vI (((cD j):Nat):Int)),(19,vI (k_:Int))],[((n1+0),.lit [.slice A (cD j) c,vI (bA j 0),vI (bA j 1),vI (bA j 2)] 103 (0,0))],[T_],k_ <= cD j /\ SlIs rH 3 (nG j k_) A_ c_ T_,cD j - k_⟩) (0,A2,c3,T4) [0] [0] (⟨Nat.zero_le _,hs5⟩) ?_
 rintro ⟨k_,A_,c_,T_⟩ ⟨hk_,hs_⟩ mt8
 refine ae 6 [] λ _=>RN.em ((k_:Int) < (((cD j):Nat):Int)) 20 (λ h9=>?_) λ h9=>?_
 ·refine ae 7 [] λ _=>?_
  obtain ⟨qi,rst,hAi,hqi⟩:=hw (by omega)
  refine aK 17 (congrArg (λ v_=>(.slice v_ (cD j) c:Value)) hAi)<|RN.ro (λ _=>(mc hqi mn)) ?_
  have hcl_:2 * cD j <= (oy j++rst).length:=by rw [List.length_append,mE hj,aS,kX hj,show gQ.w=2 from rfl];omega
  refine ai 2 [.ix k_,.rorow 0 (k_ * 2) 0,.rorow 0 (1+k_ * 2) 0] [((0+k_ * 2)+1)=(1+k_ * 2) * 1+0 /\ (1+k_ * 2) < ((oy j++rst).length),(0+k_ * 2)=k_ * 2 * 1+0 /\ k_ * 2 < ((oy j++rst).length),(k_:Int)=((k_:Nat):Int) /\ k_ < (cD j)] λ _=>aK 22 (LS hj rst (k:=k_) (by omega))<|ae 11 [.own 0,.own 0,.own 0,.own 0] λ n10=>gB Bg (nG j k_) [((fE j).getD k_ dIns).op,((fE j).getD k_ dIns).n] 0 0 (lF k_ (by omega)).symm hs_ (by rw [lF k_ (by omega)];show _+2 <= _;omega) ?_
  rintro A11 c12 T13 ⟨hs14,hz15⟩
  refine ai 8 [.nw] [bg ((k_:Int)+1)] λ _=>aK 17 (congrArg (λ v_=>(.slice v_ (cD j) c:Value)) hAi.symm) ?_
  refine mt8 (k_+1,A11,c12,T13) [2] [0] ?_
  try dsimp only
  exact ⟨⟨by omega,by rw [ru (by omega)];exact hs14⟩,by omega⟩
 ·refine ae 9 [] λ _=>aj (tq ⟨#[112,114,111,103,114,97,109]⟩ (nG j k_) A_ (3+2 * k_) c_ _ (by decide) (by omega) (hs_.rowN (av 0) (lF k_ (by omega))))<|ae 3 [] λ _=>RN.ret [] [] [] (v:=.int .u64 (kK ⟨#[112,114,111,103,114,97,109]⟩ (nG j k_))) (H':=[]) ?_
  obtain rfl:k_=cD j:=by omega
  exact ⟨rfl,rfl⟩
theorem Dd (j:Nat) (A:Option Addr) (c:Nat) (F:HL) (hj:j < 5) (hw:InsW F j A):Sp Tryz.prog 55 #[.agg #[.slice A (cD j) c,vI (bA j 0),vI (bA j 1),vI (bA j 2)]] [] F (λ u H'=>u=.int .u64 (xu j) /\ H'=[]):=(Dc j A c _ hj hw.r).den (Jz F)
def nH (tt:Nat -> Int) (jj:Nat -> Nat) (k:Nat):List Int:=(List.range k).flatMap λ i=>[tt i,IntKind.i64.wrap (xu (jj i))]
theorem rx (tt:Nat -> Int) (jj:Nat -> Nat) (k:Nat):nH tt jj (k+1)=nH tt jj k++[tt k,IntKind.i64.wrap (xu (jj k))]:=by simp [nH,List.range_succ]
theorem lG (tt:Nat -> Int) (jj:Nat -> Nat):∀ k,(nH tt jj k).length=2 * k
 | 0=>rfl
 | k+1=>by
  rw [rx,List.length_append,lG tt jj k]
  simp
  omega
def Ki (tt:Nat -> Int) (jj:Nat -> Nat) (n:Nat):Int:=kK ⟨#[98,111,111,107]⟩ (nH tt jj n)
theorem De (bp:Nat) (A:Option Addr) (n c:Nat) (vs:List Ver) (tt:Nat -> Int) (jj:Nat -> Nat) (F:HL) (hbp:(bp,.lit [.slice A n c] 110 (0,0)) ∈ F) (hl:RowL fd 107 F A n vs) (hn:n <= 1000) (hv:∀ k,k < n -> ∃ Av cv,vs.getD k fd.dflt=jR (tt k) (jj k) Av cv /\ jj k < 5 /\ InsW F (jj k) Av):Sp Tryz.prog 25 #[vP bp 0] [] F (λ u H'=>u=.int .u64 (Ki tt jj n) /\ H'=[]):=by
 refine Sp.run Tryz.func25 rfl (mc hbp mn) (A:=[]) (Ts:=[]) rfl λ w0=>?_
 refine ai 29 [.ro 0,.nw,.mk 0 ((2 * (n:Int)).toNat),.ro 0] [0=((0:Nat):Int) /\ 2 * (n:Int)=(((2 * (n:Int)).toNat:Nat):Int) /\ 0 <= (2 * (n:Int)).toNat /\ 8 * ((2 * (n:Int)).toNat) <= 140737488355328 /\ 1=1 /\ (2 * (n:Int)).toNat <= 9223372036854775807,bg (2 * (n:Int))] λ n1=>cS 0 (congrArg (λ v_=>(.rows 1 ((2 * (n:Int)).toNat) v_ 3 (0,0):Blk)) (show (iU [vI 0])=(bn rH (List.replicate ((2 * (n:Int)).toNat) 0)) from (xv _)))<|si 0<|RN.loop (σ:=Nat × Option Addr × Nat × HL) (λ ⟨k_,A_,c_,T_⟩=>⟨[(3,.slice A_ (2 * k_) c_),(16,.slice A n c),(17,vI (n:Int)),(18,vI (k_:Int))],[],[T_],k_ <= n /\ SlIs rH 3 (nH tt jj k_) A_ c_ T_,n - k_⟩) (0,some ⟨(n1+0),0,none⟩,(2 * (n:Int)).toNat,[((n1+0),.rows 1 ((2 * (n:Int)).toNat) (bn rH (List.replicate ((2 * (n:Int)).toNat) 0)) 3 (0,0))]) [] [0] (⟨Nat.zero_le _,rv⟩) ?_
 rintro ⟨k_,A_,c_,T_⟩ ⟨hk_,hs_⟩ mt3
 refine ae 6 [] λ _=>RN.em ((k_:Int) < (n:Int)) 19 (λ h4=>?_) λ h4=>?_
 ·refine ae 7 [] λ _=>?_
  obtain ⟨qx5,ox5,Nx5,fx5,fzx5,hAx5,hqx5,hox5,hgx5⟩:=hl.at (k:=k_) (by omega)
  refine aK 16 (congrArg (λ v_=>(.slice v_ n c:Value)) hAx5)<|RN.ro (λ _=>(mc hbp (mc hqx5 mn)))<|ai 2 [.ix k_,.rorow 1 (ox5+k_) 0,.rorow 1 (ox5+k_) 1,.rorow 1 (ox5+k_) 2,.rorow 1 (ox5+k_) 3,.rorow 1 (ox5+k_) 4] [((ox5 * 5+k_ * 5)+4)=(ox5+k_) * 5+4 /\ (ox5+k_) < Nx5,((ox5 * 5+k_ * 5)+3)=(ox5+k_) * 5+3 /\ (ox5+k_) < Nx5,((ox5 * 5+k_ * 5)+2)=(ox5+k_) * 5+2 /\ (ox5+k_) < Nx5,((ox5 * 5+k_ * 5)+1)=(ox5+k_) * 5+1 /\ (ox5+k_) < Nx5,(ox5 * 5+k_ * 5)=(ox5+k_) * 5+0 /\ (ox5+k_) < Nx5,(k_:Int)=((k_:Nat):Int) /\ k_ < n] λ _=>aK 21 (congrArg (λ v_=>(.agg #[vI v_.t,.slice v_.A v_.n v_.c,vI v_.e0,vI v_.e1,vI v_.e2]:Value)) hgx5) ?_
  obtain ⟨Av,cv,ev_,hj_,hw_⟩:=hv k_ (by omega)
  refine aK 21 (congrArg (λ v_:Ver=>(.agg #[vI v_.t,.slice v_.A v_.n v_.c,vI v_.e0,vI v_.e1,vI v_.e2]:Value)) ev_)<|ae 4 (ow 0 5) λ n6=>RN.draw [8] []<|ag [] [0,1,3,2,4] (ow 0 5)<|au [] 5 (λ X_=>(Dd (jj k_) Av cv _ hj_ (λ h0_=>(hw_ h0_).imp λ _ h1_=>h1_.imp λ _ h2_=>⟨h2_.1,nJ h2_.2⟩)))<|ag [] [6] []<|RD.one 7 (RDO.ev [] [] λ n8=>?_)
  refine RD.one 8 (ld [] Bg (nH tt jj k_) [tt k_,IntKind.i64.wrap (xu (jj k_))] 0 0 (lG tt jj k_).symm hs_ (by rw [lG];show _+2 <= _;omega) ?_)
  rintro A9 c10 T11 ⟨hs12,hz13⟩
  refine ag [] [9] []<|RD.fin<|ai 6 [.nw] [bg ((k_:Int)+1)] λ _=>aK 16 (congrArg (λ v_=>(.slice v_ n c:Value)) hAx5.symm) ?_
  refine mt3 (k_+1,A9,c10,T11) [] [0] ?_
  try dsimp only
  exact ⟨⟨by omega,by rw [rx];exact hs12⟩,by omega⟩
 ·refine ae 9 [] λ _=>aj (tq ⟨#[98,111,111,107]⟩ (nH tt jj k_) A_ (2 * k_) c_ _ (by decide) (by omega) (hs_.rowN (av 0) (lG tt jj k_)))<|ae 3 [] λ _=>RN.ret [] [] [] (v:=.int .u64 (kK ⟨#[98,111,111,107]⟩ (nH tt jj k_))) (H':=[]) ?_
  obtain rfl:k_=n:=by omega
  exact ⟨rfl,rfl⟩
def zo (tk:Int) (j1 j2:Nat):Int:=Ki (λ k=>if k=0 then 0 else tk) (λ k=>if k=0 then j1 else j2) 2
theorem LT {tk:Int} {j1 j2 bp:Nat} {TB F:HL} (hB:Book2 tk j1 j2 bp TB) (hT:∀ x ∈ TB,x ∈ F) (hj1:j1 < 5) (hj2:j2 < 5):Sp Tryz.prog 25 #[vP bp 0] [] F (λ u H'=>u=.int .u64 (zo tk j1 j2) /\ H'=[]):=by
 cases hB with
 | mk A c A1 A2 c1 c2 Hl T1 T2 hs h1 h2 =>
  refine De bp A 2 c _ _ _ F (hT _ (by simp [ap])) (hs.rowN (λ x hx=>hT x (by simp [ap,hx])) rfl) (by decide) (λ k hk=>?_)
  obtain rfl | rfl:k=0 \/ k=1:=by omega
  ·exact ⟨A1,c1,rfl,hj1,h1.wrd F λ x hx=>hT x (by simp [ap,hx])⟩
  ·exact ⟨A2,c2,rfl,hj2,h2.wrd F λ x hx=>hT x (by simp [ap,hx])⟩
theorem G6 {b:ByteArray} {l:List Int} {Z:Int} (e:rt b l=Z) (A:Option Addr) (n c:Nat) (F:HL) (hbb:b.size <= 1000000) (hb:n <= 1000000) (hl:RowL mJ 5 F A n l):Sp Tryz.prog 26 #[.string b,.slice A n c] [] F (λ u H'=>u=.int .u64 Z /\ H'=[]):=e ▸ zn b l A n c F hbb hb hl
theorem RwsIn.up {F X:HL} {rs:List Rw} {xss:List (List Inp)} (h:RwsIn F rs xss):RwsIn (X++F) rs xss:=h.mono λ x hx=>List.mem_append_right _ hx
theorem JA {ev n:Nat} {xss:List (List Inp)} {roots:List Int} (hn:xss.length <= 1000) (hr:roots.length <= 1000) (hx:∀ i,i < xss.length -> (xss.getD i []).length <= 10):(mK ev n xss roots).length <= 100000:=by
 have h0:=xo (ev:=ev) (n:=xss.length) (xss:=xss) (roots:=roots) rfl rfl
 have h2:(mK ev n xss roots).length=(mK ev xss.length xss roots).length:=by simp [mK]
 rw [h2,<- h0,rq (Nat.le_refl _)]
 have h1:∀ m,m <= xss.length -> (fi ev xss.length xss m).length <= 2+10 * m:=λ m=>by
  induction m with
  | zero=>intro _;simp [fi]
  | succ m ih =>
   intro hm
   rw [lE (by omega),List.length_append,iL]
   have:=ih (by omega)
   have:=hx m (by omega)
   omega
 have:=h1 xss.length (Nat.le_refl _)
 omega
theorem Df (S3:Setup) (bp ev gb0 rp n rc cc:Nat) (rA cA:Option Addr) (rl:List Rw) (cl:List Ck) (xss:List (List Inp)) (W:Nat -> List Int) (F:HL) (hrp:(rp,.lit (Setup.l S3++[vP bp 0,vI (ev:Int),vP gb0 0,.slice rA n rc,.slice cA cl.length cc]) 73 (0,0)) ∈ F) (hr:RowL oz 23 F rA n rl) (hw:RwsIn F rl xss) (hc:RowL xd 127 F cA cl.length cl) (hck:∀ k,k < cl.length -> ∃ q,cl.getD k xd.dflt=⟨some ⟨q,0,none⟩,(W (k * ev)).length,(W (k * ev)).length,iK (W (k * ev))⟩ /\ (q,.rows 1 (W (k * ev)).length (aO (W (k * ev))) 3 (0,0)) ∈ F) (hcl:cl.length <= 1000) (hev:ev < 128) (hn:n < 128) (hlen:∀ i,i < n -> (xss.getD i []).length <= 1000) (BH:Int) (hel_:(mK ev n xss (bG W ev cl.length)).length <= 1000000) (hBH:∀ F',(∀ x ∈ F,x ∈ F') -> Sp Tryz.prog 25 #[vP bp 0] [] F' (λ u H'=>u=.int .u64 BH /\ H'=[])):Sp Tryz.prog 11 #[vP rp 0] [] F (λ u H'=>u=.int .u64 (kK ⟨#[114,101,112,108,97,121]⟩ [IntKind.i64.wrap BH,(ev:Int),IntKind.i64.wrap (rt ⟨#[114,101,112,108,97,121]⟩ (mK ev n xss (bG W ev cl.length)))]) /\ H'=[]):=by
 obtain ⟨Z,hZ⟩:∃ Z,rt ⟨#[114,101,112,108,97,121]⟩ (mK ev n xss (bG W ev cl.length))=Z:=⟨_,rfl⟩
 rw [hZ]
 refine Sp.run Tryz.func11 rfl (mc hrp mn) (A:=[]) (Ts:=[]) rfl λ w0=>?_
 refine ae 6 [] λ _=>RN.draw [] []<|ag [] [0,6,10,1,7,2,8,3,9] [.ro 0,.ro 0]<|au [] 4 (λ X_=>(hBH _ (λ x hx=>nJ hx)))<|ag [] [5] []<|RD.one 11 (RDO.ct [] (Hp:=[]) (Tp:=[]) [] [] (xq S3 bp ev gb0 rp n rc cc rA cA rl cl xss W _ (aw hrp) hr.up hw.up hc.up (λ k hk=>(hck k hk).imp λ q h_=>⟨h_.1,aw h_.2⟩) hcl hev hn hlen) ?_)
 rintro _ ⟨A1,c2,T3⟩ ⟨rfl,hs4⟩
 dsimp only at hs4
 refine au [] 12 (λ X_=>(G6 hZ A1 _ c2 _ (by decide) hel_ (hs4.rowN (aU 0) rfl)))<|ag [] [13] []<|RD.one 14 (RDO.ev [] [] λ n5=>?_)
 refine RD.dn 0 (.rows 1 3 (aO [IntKind.i64.wrap BH,(ev:Int),IntKind.i64.wrap Z]) 3 (0,0))<|au [] 15 (λ X_=>(m8 (⟨#[114,101,112,108,97,121]⟩) ([IntKind.i64.wrap BH,(ev:Int),IntKind.i64.wrap Z]) (n5+0) 3 _ (by decide) (Nat.le_of_ble_eq_true rfl) (Nat.le_of_ble_eq_true rfl) (jf 0)))<|ag [] [16] []<|RD.fin<|ae 1 [] λ _=>?_
 exact RN.ret [] [] [] ⟨rfl,rfl⟩
def G7 (BH:Int) (ev n:Nat) (xss:List (List Inp)) (W:Nat -> List Int):Int:=kK ⟨#[114,101,112,108,97,121]⟩ [IntKind.i64.wrap BH,(ev:Int),IntKind.i64.wrap (rt ⟨#[114,101,112,108,97,121]⟩ (mK ev n xss (bG W ev (n / ev+1))))]
section
variable {rs_:List Bx} {ds_:List Dr} {bp ev rp n:Nat} {S S2:Setup} {W:Nat -> List Int} {xss:List (List Inp)} {G F:HL}
theorem rencH (h:RecH rs_ ds_ bp ev rp S S2 W n xss G) (hF:∀ x ∈ G,x ∈ F) (hev:ev < 128) (hn:n < 128) (hlen:∀ i,i < n -> (xss.getD i []).length <= 10):Sp Tryz.prog 27 #[vP rp 0] (ap [] []) F (λ u H'=>∃ x:Option Addr × Nat × HL,H'=ap [] [x.2.2] /\ (u=.slice x.1 (mK ev n xss (bG W ev (n / ev+1))).length x.2.1 /\ SlIs mJ 5 (mK ev n xss (bG W ev (n / ev+1))) x.1 x.2.1 x.2.2)):=by
 cases h with
 | mk h3 hs hg hcs hb hr hrl hrr hc hcl hck =>
  have hd:n / ev <= n:=Nat.div_le_self _ _
  have h5:=hr.toRowL (F:=F) λ x hx=>hF x (by simp [ap,hx])
  rw [hrl] at h5
  have key:=xq _ bp ev _ rp n _ _ _ _ _ _ xss W F (hF _ (List.mem_append_left _ (List.mem_singleton.2 rfl))) h5 (hrr F λ x hx=>hF x (by simp [ap,hx])) (hc.toRowL λ x hx=>hF x (by simp [ap,hx])) (hck F λ x hx=>hF x (by simp [ap,hx])) (by omega) hev hn (λ i hi=>by have:=hlen i hi;omega)
  rw [hcl] at key
  exact key
theorem LU (h:RecH rs_ ds_ bp ev rp S S2 W n xss G) (hF:∀ x ∈ G,x ∈ F) (hev:ev < 128) (hn:n < 128) (hlen:∀ i,i < n -> (xss.getD i []).length <= 10) (BH:Int) (hBH:∀ F',(∀ x ∈ F,x ∈ F') -> Sp Tryz.prog 25 #[vP bp 0] [] F' (λ u H'=>u=.int .u64 BH /\ H'=[])):Sp Tryz.prog 11 #[vP rp 0] [] F (λ u H'=>u=.int .u64 (G7 BH ev n xss W) /\ H'=[]):=by
 cases h with
 | mk h3 hs hg hcs hb hr hrl hrr hc hcl hck =>
  have hd:n / ev <= n:=Nat.div_le_self _ _
  have h5:=hr.toRowL (F:=F) λ x hx=>hF x (by simp [ap,hx])
  rw [hrl] at h5
  have hw:=hrr F λ x hx=>hF x (by simp [ap,hx])
  have hx:=hw.len
  have key:=Df _ bp ev _ rp n _ _ _ _ _ _ xss W F (hF _ (List.mem_append_left _ (List.mem_singleton.2 rfl))) h5 hw (hc.toRowL λ x hx=>hF x (by simp [ap,hx])) (hck F λ x hx=>hF x (by simp [ap,hx])) (by omega) hev hn (λ i hi=>by have:=hlen i hi;omega) BH (by rw [hcl];exact Nat.le_trans (JA (by omega) (by rw [fp];omega) (λ i hi=>hlen i (by omega))) (by decide)) hBH
  rw [hcl] at key
  exact key
end
end Go.Proofs.YtobflkidpfkcaaaGreatDoor
