import Derived.Test.YtcfajdgeejeieaaGreatDoorY45
import Derived.Test.YtcfajdgeejeieaaGreatDoorY46
import Derived.Laws.IdiomStrings
import Derived.Test.YtcfajdgeejeieaaGreatDoorY47
import Derived.Test.YtcfajdgeejeieaaGreatDoorY44
set_option maxHeartbeats 4000000
set_option maxRecDepth 100000
set_option linter.unusedSimpArgs false
set_option linter.unusedVariables false
namespace Go.Proofs.YtcfajdgeejeieaaGreatDoor
open Go.RowKit
section
variable (xs:List Int) (sz:Nat)
end
open Go.Shelf
section
variable {r:Option Nat} {P:Program} {N:Nat} {D:List Deferred} {F:HL} {w0:World} {R:HL} {s:Cfg} {Q:Exit -> Act -> World -> Prop}
end
def mt:Enc Int:=⟨1,λ p k=>match k with | 0=>.int .u64 p | _=>default,0⟩
noncomputable def Jp:TypeInfo:=match Tryz.prog.info? 50 with | some i=>i | none=>⟨.bool,"",0,0,false,0,0,none,false,#[]⟩
noncomputable def Jq:Value:=match Jp.zero with | some z=>z | none=>.bool false
theorem KV:EncOk mt Tryz.prog 50 Jp Jq where
 info:=by kernel_rfl
 zero:=by kernel_rfl
 size:=by kernel_rfl
 zsize:=by kernel_rfl
 zcell:=λ k hk=>by
  have h:∀ k < 1,Jq.cells[k]?=some (mt.cell mt.dflt k):=by intro k hk;(iterate 1 (rcases k with _ | k;· kernel_rfl));omega
  exact h k hk
 one:=λ x k=>by unfold mt;dsimp only;split <;> rfl
 bytes:=Nat.le_of_ble_eq_true (by kernel_rfl)
theorem Gj (h:Nat):lS [.int .u64 0]=bS mt (List.replicate h 0):=by
 have e:=mR (e:=mt) ([]:List Int) h
 rw [List.nil_append] at e
 rw [show List.replicate h (0:Int)=List.replicate h mt.dflt from rfl,e]
 funext i k
 cases k with
 | zero=>rfl
 | succ k=>simp [lS,bS,mt]
theorem Cv {h:Nat} {b:Nat} {T:TypeId}:SlIs mt T [] (some ⟨b,0,none⟩) h [(b,.rows 1 h (bS mt (List.replicate h 0)) T (0,0))]:=.inr ⟨b,0,List.replicate h 0,by simp,by rw [Nat.zero_add];rfl,by simp,Nat.zero_le _,by simp⟩
theorem Gk (S3:Setup) (bp ev gb0 rp n rc cc:Nat) (rA cA:Option Addr) (cl:List Ck) (F:HL) (hrp:(rp,.lit (Setup.l S3++[vP bp 0,vI (ev:Int),vP gb0 0,.slice rA n rc,.slice cA cl.length cc]) 138 (0,0)) ∈ F):Sp Tryz.prog 73 #[vP rp 0] [] F (λ u H'=>u=vI (n:Int) /\ H'=[]):=by
 refine Sp.run Tryz.func73 rfl (mc hrp mn) (A:=[]) (Ts:=[]) rfl λ w0=>?_
 refine ae 15 [.ro 0] λ _=>?_
 exact RN.ret [] [] [] ⟨rfl,rfl⟩
def jZ (W:Nat -> List Int) (ev m:Nat):List Int:=(List.range m).map λ k=>jG (W (k * ev))
theorem qO (W:Nat -> List Int) (ev m:Nat):(jZ W ev m).length=m:=by simp [jZ]
theorem wP (W:Nat -> List Int) (ev m:Nat):jZ W ev (m+1)=jZ W ev m++[jG (W (m * ev))]:=by simp [jZ,List.range_succ]
theorem yI (S3:Setup) (bp ev gb0 rp n rc cc:Nat) (rA cA:Option Addr) (cl:List Ck) (W:Nat -> List Int) (F:HL) (hrp:(rp,.lit (Setup.l S3++[vP bp 0,vI (ev:Int),vP gb0 0,.slice rA n rc,.slice cA cl.length cc]) 138 (0,0)) ∈ F) (hc:RowL yF 141 F cA cl.length cl) (hck:∀ k,k < cl.length -> ∃ q,cl.getD k yF.dflt=⟨some ⟨q,0,none⟩,(W (k * ev)).length,(W (k * ev)).length,jG (W (k * ev))⟩ /\ (q,.rows 1 (W (k * ev)).length (aJ (W (k * ev))) 3 (0,0)) ∈ F) (hcl:cl.length <= 1000000):Sp Tryz.prog 72 #[vP rp 0] [] F (λ u H'=>∃ x:Option Addr × Nat × HL,H'=ap [] [x.2.2] /\ (u=.slice x.1 cl.length x.2.1 /\ SlIs mt 50 (jZ W ev cl.length) x.1 x.2.1 x.2.2)):=by
 refine Sp.run Tryz.func72 rfl (mc hrp mn) (A:=[]) (Ts:=[]) rfl λ w0=>?_
 refine ak 28 [.ro 0,.mk 0 cl.length,.ro 0] [0=((0:Nat):Int) /\ (cl.length:Int)=((cl.length:Nat):Int) /\ 0 <= cl.length /\ 8 * cl.length <= 140737488355328 /\ 1=1 /\ cl.length <= 9223372036854775807] λ n1=>eH 0 (congrArg (λ v_=>(.rows 1 cl.length v_ 50 (0,0):Blk)) (show (lS [.int .u64 0])=(bS mt (List.replicate cl.length 0)) from (Gj _)))<|Ad 0<|RN.loop (σ:=Nat × Option Addr × Nat × HL) (λ ⟨k_,A_,c_,T_⟩=>⟨[(3,.slice A_ k_ c_),(15,.slice cA cl.length cc),(16,vI (cl.length:Int)),(17,vI (k_:Int))],[],[T_],k_ <= cl.length /\ SlIs mt 50 (jZ W ev k_) A_ c_ T_,cl.length - k_⟩) (0,some ⟨(n1+0),0,none⟩,cl.length,[((n1+0),.rows 1 cl.length (bS mt (List.replicate cl.length 0)) 50 (0,0))]) [] [0] (⟨Nat.zero_le _,Cv⟩) ?_
 rintro ⟨k_,A_,c_,T_⟩ ⟨hk_,hs_⟩ mt3
 refine ae 6 [] λ _=>RN.em ((k_:Int) < (cl.length:Int)) 18 (λ h4=>?_) λ h4=>?_
 ·refine ae 7 [] λ _=>?_
  obtain ⟨qx5,ox5,Nx5,fx5,fzx5,hAx5,hqx5,hox5,hgx5⟩:=hc.at (k:=k_) (by omega)
  refine bx 15 (congrArg (λ v_=>(.slice v_ cl.length cc:Value)) hAx5)<|RN.ro (λ _=>(mc hrp (mc hqx5 mn)))<|ak 2 [.ix k_,.rorow 1 (ox5+k_) 0,.rorow 1 (ox5+k_) 1] [((ox5 * 2+k_ * 2)+1)=(ox5+k_) * 2+1 /\ (ox5+k_) < Nx5,(ox5 * 2+k_ * 2)=(ox5+k_) * 2+0 /\ (ox5+k_) < Nx5,(k_:Int)=((k_:Nat):Int) /\ k_ < cl.length] λ _=>bx 20 (congrArg (λ v_=>(.agg #[.slice v_.A v_.n v_.c,.int .u64 v_.r]:Value)) hgx5) ?_
  obtain ⟨qk,ek_,hqk⟩:=hck k_ (by omega)
  refine bx 20 (congrArg (λ v_:Ck=>(.agg #[.slice v_.A v_.n v_.c,.int .u64 v_.r]:Value)) ek_)<|ae 9 [.own 0,.own 0,.own 0] λ n6=>iY KV (jZ W ev k_) [jG (W (k_ * ev))] 0 0 (qO W ev k_).symm hs_ (by rw [qO,List.length_singleton];omega) ?_
  rintro A7 c8 T9 ⟨hs10,hz11⟩
  refine ak 8 [.nw] [bn ((k_:Int)+1)] λ _=>bx 15 (congrArg (λ v_=>(.slice v_ cl.length cc:Value)) hAx5.symm) ?_
  refine mt3 (k_+1,A7,c8,T9) [] [0] ?_
  try dsimp only
  exact ⟨⟨by omega,by rw [wP];exact hs10⟩,by omega⟩
 ·refine ae 12 [] λ _=>RN.ret [] [] [0] (v:=.slice A_ k_ c_) (H':=(ap [] [T_])) ?_
  obtain rfl:k_=cl.length:=by omega
  exact ⟨(A_,c_,T_),rfl,rfl,hs_⟩
section
variable {rs_:List Bx} {ds_:List Dr} {bp ev rp n:Nat} {S S2:Setup} {J:Nat -> Nat × Int} {W:Nat -> List Int} {pre xss:List (List Inp)} {G F:HL}
theorem MG (h:RecH rs_ ds_ bp ev rp S S2 W n pre G) (hF:∀ x ∈ G,x ∈ F):Sp Tryz.prog 73 #[vP rp 0] [] F (λ u H'=>u=vI (n:Int) /\ H'=[]):=by
 cases h with
 | mk h3 hs hg hcs hb hr hrl hrr hc hcl hck=>exact Gk _ _ _ _ _ _ _ _ _ _ _ _ (hF _ (List.mem_append_left _ (List.mem_singleton.2 rfl)))
theorem IH (h:RecH rs_ ds_ bp ev rp S S2 W n pre G) (hF:∀ x ∈ G,x ∈ F) (hn:n <= 1000):Sp Tryz.prog 72 #[vP rp 0] (ap [] []) F (λ u H'=>∃ x:Option Addr × Nat × HL,H'=ap [] [x.2.2] /\ (u=.slice x.1 (n / ev+1) x.2.1 /\ SlIs mt 50 (jZ W ev (n / ev+1)) x.1 x.2.1 x.2.2)):=by
 cases h with
 | mk h3 hs hg hcs hb hr hrl hrr hc hcl hck =>
  have hd:n / ev <= n:=Nat.div_le_self _ _
  have key:=yI _ _ _ _ _ _ _ _ _ _ _ W F (hF _ (List.mem_append_left _ (List.mem_singleton.2 rfl))) (hc.toRowL λ x hx=>hF x (by simp [ap,hx])) (hck F λ x hx=>hF x (by simp [ap,hx])) (by omega)
  rw [hcl] at key
  exact key
theorem wQ (h:RecH rs_ ds_ bp ev rp S S2 (WS S J xss) n xss G) (hF:∀ x ∈ G,x ∈ F) (hV:SetV S) (hrn:S.rn <= 1000000) (hdn:S.dn <= 1000000) (hsz:48 <= sizeOf S /\ sizeOf S <= 1000) (hv:fQ S rs_ ds_=0) (hev:1 <= ev /\ ev <= 60) (hE:cK F) (hn50:n <= 50) (hrow:∀ i,i < n -> fL S.players (xss.getD i [])) (hAt:∀ i,i < n -> (J i).1 < 5 /\ AtOk F bp (i:Int) (J i)) {t:Nat} (ht:t <= n):Sp Tryz.prog 34 #[vP rp 0,vI (t:Int)] (ap [] []) F (λ u H'=>∃ q:Nat,H'=ap [(q,.rows 1 (WS S J xss t).length (aJ (WS S J xss t)) 3 (0,0))] [] /\ u=.tuple #[vS q 0 (WS S J xss t).length (WS S J xss t).length,vI ((t:Int) % (ev:Int)),vI 0]):=by
 cases h with
 | mk h3 hs hg hcs hb hr hrl hrr hc hcl hck =>
  have h4:=hs F λ x hx=>hF x (by simp [ap,hx])
  have h5:=hr.toRowL (F:=F) λ x hx=>hF x (by simp [ap,hx])
  rw [hrl] at h5
  exact IG S _ rs_ ds_ bp ev _ rp n _ _ t J _ _ _ _ xss F (hF _ (List.mem_append_left _ (List.mem_singleton.2 rfl))) h3 h4.1 h4.2 hV hrn hdn hsz hv h5 (hrr F λ x hx=>hF x (by simp [ap,hx])) (hc.toRowL λ x hx=>hF x (by simp [ap,hx])) (hck F λ x hx=>hF x (by simp [ap,hx])) hcl hev hE hn50 hrow hAt ht
end
theorem Gl (x:Int):kC (IntKind.i64.wrap x):=by
 unfold kC
 rw [IntKind.wrap_i64]
 omega
theorem yJ (n:Int) (F:HL) (hn:kC n) (hE:lK F):Sp Tryz.prog 30 #[vI n] [] F (λ u H'=>∃ x:Nat × HL,H'=ap [] [x.2] /\ (u=vP x.1 0 /\ Book2 4 (av n 5).toNat (av (IntKind.i64.wrap (n+1)) 5).toNat x.1 x.2)):=by
 refine Sp.run Tryz.func30 rfl mn (A:=[]) (Ts:=[]) rfl λ w0=>?_
 refine ae 8 [] λ _=>ai (qH n _ hn) ?_
 have hA1:=bq (n:=n) hn 5 (by decide)
 refine RN.ct (Hp:=[]) (Tp:=[]) [] [] (Fz (av n 5).toNat _ (by omega) (aw hE)) ?_
 rintro _ ⟨b2,T3⟩ ⟨rfl,hB4⟩
 dsimp only at hB4
 refine ae 27 [] λ _=>ai (qH (IntKind.i64.wrap (n+1)) _ (Gl _)) ?_
 have hA5:=bq (n:=IntKind.i64.wrap (n+1)) (Gl _) 5 (by decide)
 refine RN.ct [] [0] (IA hB4 4 (by decide) (av (IntKind.i64.wrap (n+1)) 5).toNat _ (by omega) (aw hE)) ?_
 rintro _ T6 ⟨rfl,hB7⟩
 refine ae 12 [] λ _=>RN.ret [] [] [0] (v:=vP b2 0) (H':=(ap [] [T6])) ?_
 exact ⟨(b2,T6),rfl,rfl,hB7⟩
theorem qP (n:Int) (F:HL) (hn:kC n) (hE:lK F):Sp Tryz.prog 30 #[vI n] (ap [] []) F (λ u H'=>∃ x:Nat × HL,H'=ap [] [x.2] /\ (u=vP x.1 0 /\ Book2 4 (av n 5).toNat (av (IntKind.i64.wrap (n+1)) 5).toNat x.1 x.2)):=yJ n F hn hE
theorem Cw (S:Setup) (A:Option Addr) (n cap:Nat) (xs:List Int) (t:Int) (F:HL) (hl:ArgL F A n xs) (hn:n <= 9223372036854775807) (hp:0 <= S.players /\ S.players <= 1000000) (ht:0 <= t /\ t <= 1000000):Sp Tryz.prog 64 #[(Setup.v S),.slice A n cap,vI t] [] F (λ u H'=>∃ x:Option Addr × Nat × HL,H'=ap [] [x.2.2] /\ (u=.slice x.1 S.players.toNat x.2.1 /\ SlIs fC 122 (rowL S.players xs (t / 2) S.players.toNat) x.1 x.2.1 x.2.2 /\ cE x.1)):=by
 refine Sp.run Tryz.func64 rfl mn (A:=[]) (Ts:=[]) rfl λ w0=>?_
 refine ak 12 (ow 0 16++[.nw]) [0 <= t /\ (0:Int) < 2 /\ t <= 9223372036854775807] λ n1=>RN.ct (Hp:=[]) (Tp:=[]) [] [] (KG S A n cap xs (t / 2) _ hl.up hn (by omega) (by omega)) ?_
 rintro _ ⟨A2,c3,T4⟩ ⟨rfl,hs5,hz6⟩
 dsimp only at hs5 hz6
 refine ae 3 [] λ _=>RN.ret [] [] [0] (v:=.slice A2 S.players.toNat c3) (H':=(ap [] [T4])) ?_
 exact ⟨(A2,c3,T4),rfl,rfl,hs5,hz6⟩
theorem Gn (S:Setup) (A:Option Addr) (n cap:Nat) (xs:List Int) (t:Int) (F:HL) (hl:ArgL F A n xs) (hn:n <= 9223372036854775807) (hp:0 <= S.players /\ S.players <= 1000000) (ht:0 <= t /\ t <= 1000000):Sp Tryz.prog 64 #[Setup.v S,.slice A n cap,vI t] (ap [] []) F (λ u H'=>∃ x:Option Addr × Nat × HL,H'=ap [] [x.2.2] /\ (u=.slice x.1 S.players.toNat x.2.1 /\ SlIs fC 122 (rowL S.players xs (t / 2) S.players.toNat) x.1 x.2.1 x.2.2 /\ cE x.1)):=Cw S A n cap xs t F hl hn hp ht
def aQ (pl:Int) (xs:List Int) (n:Nat):List (List Inp):=(List.range n).map λ t:Nat=>rowL pl xs ((t:Int) / 2) pl.toNat
theorem wR (pl:Int) (xs:List Int) (n:Nat):aQ pl xs (n+1)=aQ pl xs n++[rowL pl xs ((n:Int) / 2) pl.toNat]:=by simp [aQ,List.range_succ]
theorem yK {pl:Int} {xs:List Int} {n k:Nat} (h:k < n):(aQ pl xs n).getD k []=rowL pl xs ((k:Int) / 2) pl.toNat:=by simp [aQ,h]
theorem yL {F:HL} {A:Option Addr} {n:Nat} {xs:List Int} (hl:ArgL F A n xs) {pl:Int} (hp:0 <= pl) (cnt i:Nat) (hi:i < cnt):fL pl ((aQ pl xs cnt).getD i []):=by
 rw [yK hi]
 exact Iy hl hp _
theorem yM (S:Setup) (A:Option Addr) (n cap:Nat) (xs:List Int) (c:Int) (cnt:Nat) (F:HL) (hl:ArgL F A n xs) (hn:n <= 9223372036854775807) (hp:1 <= S.players /\ S.players <= 1000000) (hc:av c 10=(cnt:Int)) (h20:cnt <= 19):Sp Tryz.prog 31 #[(Setup.v S),.slice A n cap,vI c] [] F (λ u H'=>∃ x:(Option Addr × Nat × List Rw) × HL × HL,H'=ap [] [x.2.1,x.2.2] /\ (u=.slice x.1.1 cnt x.1.2.1 /\ SlIs mj 44 x.1.2.2 x.1.1 x.1.2.1 x.2.1 /\ x.1.2.2.length=cnt /\ RwsT x.1.2.2 (aQ S.players xs cnt) x.2.2)):=by
 refine Sp.run Tryz.func31 rfl mn (A:=[]) (Ts:=[]) rfl λ w0=>?_
 refine ae 18 [] λ n1=>RN.nt<|RN.nt<|RN.loop (σ:=Nat × Option Addr × Nat × List Rw × HL × HL) (λ ⟨t_,A_,c_,rs_,E_,T_⟩=>⟨[(1,.slice A n cap),(2,vI c),(3,vP (n1+0) 0),(7,.slice A_ t_ c_),(8,vI (t_:Int))],[((n1+0),.lit (Setup.l S) 31 (0,0))],[E_,T_],t_ <= cnt /\ t_ <= 20 /\ SlIs mj 44 rs_ A_ c_ E_ /\ rs_.length=t_ /\ RwsT rs_ (aQ S.players xs t_) T_,20 - t_⟩) (0,none,0,[],[],[]) [0] [0,1] (⟨Nat.zero_le _,Nat.zero_le _,SlIs.nil _ _,rfl,RwsT.nil⟩) ?_
 rintro ⟨t_,A_,c_,rs_,E_,T_⟩ ⟨ht_,h20_,hs_,hrl_,hT_⟩ mt3
 refine ae 5 [] λ _=>ai (qJ hc (by decide) _)<|ae 3 [] λ _=>RN.em ((t_:Int) < (cnt:Int)) 12 (λ h4=>?_) λ h4=>?_
 ·refine ae 10 (ow 0 16) λ _=>RN.ct (Hp:=[]) (Tp:=[]) [] [] (Gn S A n cap xs (t_:Int) _ hl.up hn (by omega) (by omega)) ?_
  rintro _ ⟨A5,c6,T7⟩ ⟨rfl,hs8,hz9⟩
  dsimp only at hs8 hz9
  refine ae 1 [] λ n10=>iY FD rs_ [(⟨A5,S.players.toNat,c6⟩:Rw)] 1 0 hrl_.symm hs_ (by simp;omega) ?_
  rintro A11 c12 T13 ⟨hs14,hz15⟩
  refine ak 9 [.nw] [bn ((t_:Int)+1)] λ _=>mJ [2,1,0]<|ox ?_
  refine mt3 (t_+1,A11,c12,rs_++[(⟨A5,S.players.toNat,c6⟩:Rw)],T13,T_++T7) [1] [1,0] ?_
  try dsimp only
  refine ⟨⟨by omega,by omega,hs14,by simp;omega,?_⟩,by omega⟩
  rw [wR]
  exact hT_.snoc hs8 (by rw [fg];omega) (fg _ _ _ _).symm
 ·refine ae 12 [] λ _=>RN.ret [] [] [0,1] (v:=.slice A_ t_ c_) (H':=(ap [] [E_,T_])) ?_
  obtain rfl:t_=cnt:=by omega
  exact ⟨((A_,c_,rs_),E_,T_),rfl,rfl,hs_,hrl_,hT_⟩
theorem Cx (S:Setup) (A:Option Addr) (n cap:Nat) (xs:List Int) (c:Int) (cnt:Nat) (F:HL) (hl:ArgL F A n xs) (hn:n <= 9223372036854775807) (hp:1 <= S.players /\ S.players <= 1000000) (hc:av c 10=(cnt:Int)) (h20:cnt <= 19):Sp Tryz.prog 31 #[Setup.v S,.slice A n cap,vI c] (ap [] []) F (λ u H'=>∃ x:(Option Addr × Nat × List Rw) × HL × HL,H'=ap [] [x.2.1,x.2.2] /\ (u=.slice x.1.1 cnt x.1.2.1 /\ SlIs mj 44 x.1.2.2 x.1.1 x.1.2.1 x.2.1 /\ x.1.2.2.length=cnt /\ RwsT x.1.2.2 (aQ S.players xs cnt) x.2.2)):=yM S A n cap xs c cnt F hl hn hp hc h20
def kQ (b:Nat):Setup:=⟨1,b,0,1,1,1,[⟨⟨5,[],none,0⟩,⟨0,0,0,0,0⟩,0,0⟩],⟨0,0,0,0⟩,none,0,0,none,0,0,0,⟨0,0⟩,0,0,0,1,0⟩
theorem wS (b:Nat):fQ (kQ b) [] []=0:=by kernel_rfl
theorem yN (b:Nat):SetV (kQ b):=⟨⟨show (1:Int) <= 1 by decide,show (1:Int) <= 3 by decide⟩,⟨show 1 <= 1 by decide,show 1 <= 5 by decide⟩,⟨show (1:Int) <= 1 by decide,show (1:Int) <= 3 by decide⟩,⟨show (0:Int) <= 0 by decide,show (0:Int) <= 60 by decide⟩⟩
theorem II {b:Nat} {F:HL} (hb:(b,.rows 9 1 (iw (kQ b).bods) 87 (0,0)) ∈ F):SetCl F (kQ b):=⟨⟨⟨show (0:Int) <= 1 by decide,show (1:Int) <= 1000000 by decide⟩,show 1 <= 1000000 by decide⟩,hb,show 0+1 <= 1 by decide,λ k hk=>by
 obtain rfl:k=0:=by have:k < 1:=hk;omega
 exact ⟨⟨.zero _,Nat.zero_le _⟩,.inl rfl⟩⟩
theorem Gp (b:Nat) (F:HL):MapIn F (kQ b) [] []:=⟨.zero _,.zero _⟩
theorem Cy (b:Nat):sizeOf (kQ b)=60:=rfl
abbrev oI (n:Nat):List (List Inp):=List.replicate n [⟨0,0,0⟩]
theorem Cz {n i:Nat} (h:i < n):(oI n).getD i []=[⟨0,0,0⟩]:=by simp [oI,List.getD_eq_getElem?_getD,h]
theorem qQ {n i:Nat} (h:i < n):fL 1 ((oI n).getD i []):=by
 rw [Cz h]
 refine ⟨rfl,λ k hk=>?_⟩
 obtain rfl:k=0:=by have:k < 1:=hk;omega
 decide
theorem Gq {e:Int} (S:Setup) (rs_:List Bx) (ds_:List Dr) (bp ev n cap:Nat) (J:Nat -> Nat × Int) (A:Option Addr) (rs:List Rw) (xss:List (List Inp)) (F:HL) (hS:SetCl F S) (hM:MapIn F S rs_ ds_) (hV:SetV S) (h1:1 <= S.nb) (hrn:S.rn <= 1000000) (hdn:S.dn <= 1000000) (hsz:(sizeOf S).toNat <= 1000000) (hv:fQ S rs_ ds_=0) (hev:1 <= ev /\ ev <= 60) (hE:cK F) (hr:RowL mj 44 F A n rs) (hw:RwsIn F rs xss) (hn50:n <= 50) (hrow:∀ i,i < n -> fL S.players (xss.getD i [])) (hAt:∀ i,i < n -> (J i).1 < 5 /\ AtOk F bp (i:Int) (J i)) (he:e=(ev:Int)):Sp Tryz.prog 32 #[Setup.v S,vP bp 0,vI e,.slice A n cap] (ap [] []) F (λ u H'=>∃ x:Nat × Setup × HL,H'=ap [] [x.2.2] /\ (u=vP x.1 0 /\ SetEq S x.2.1 /\ RecH rs_ ds_ bp ev x.1 S x.2.1 (WS S J xss) n xss x.2.2)):=by
 subst he
 exact wN S rs_ ds_ bp ev n cap J A rs xss F hS hM hV h1 hrn hdn hsz hv hev hE hr hw hn50 hrow hAt
theorem Gr (F:HL):Sp Tryz.prog 71 #[] [] F (λ u H'=>∃ b:Nat,H'=ap [(b,.lit [vI 5,.slice none 0 0,vI 0,vI 0,vI 0,vI 0,vI 0,vI 0,vI 0] 87 (0,0))] [] /\ u=Setup.v (kQ b)):=by
 refine Sp.run Tryz.func71 rfl mn (A:=[]) (Ts:=[]) rfl λ w0=>?_
 refine ae 14 (ow 1 16) λ n1=>RN.ret (ow 1 16) [0] [] (v:=.agg #[vI 1,vS (n1+1) 0 1 1,vI 0,vI 0,vI 0,vI 0,.slice none 0 0,.slice none 0 0,vI 0,vI 0,vI 0,vI 0,vI 0,vI 0,vI 1,vI 0]) (H':=(ap [((n1+1),.lit [vI 5,.slice none 0 0,vI 0,vI 0,vI 0,vI 0,vI 0,vI 0,vI 0] 87 (0,0))] [])) ?_
 exact ⟨_,rfl,rfl⟩
theorem IJ (F:HL):Sp Tryz.prog 71 #[] (ap [] []) F (λ u H'=>∃ b:Nat,H'=ap [(b,.lit [vI 5,.slice none 0 0,vI 0,vI 0,vI 0,vI 0,vI 0,vI 0,vI 0] 87 (0,0))] [] /\ u=Setup.v (kQ b)):=Gr F
theorem wT (F:HL) (hE0:lK F) (hE1:cK F):Sp Tryz.prog 35 #[] [] F (λ u H'=>u=.bool true /\ H'=[]):=by
 refine Sp.run Tryz.func35 rfl mn (A:=[]) (Ts:=[]) rfl λ w0=>?_
 refine ae 17 [] λ _=>RN.nt<|RN.nt<|RN.loop (σ:=Nat × Option Addr × Nat × List Rw × HL × HL) (λ ⟨t_,A_,c_,rs_,E_,T_⟩=>⟨[(1,.slice A_ t_ c_),(2,vI (t_:Int))],[],[E_,T_],t_ <= 25 /\ SlIs mj 44 rs_ A_ c_ E_ /\ rs_.length=t_ /\ RwsT rs_ (oI t_) T_,25 - t_⟩) (0,none,0,[],[],[]) [] [0,1] (⟨Nat.zero_le _,SlIs.nil _ _,rfl,RwsT.nil⟩) ?_
 rintro ⟨t_,A_,c_,rs_,E_,T_⟩ ⟨ht_,hs_,hrl_,hT_⟩ mt2
 refine ae 7 [] λ _=>RN.em ((t_:Int) < 25) 8 (λ h3=>?_) λ h3=>?_
 ·refine ae 10 [] λ n4=>iY FD rs_ [(⟨some ⟨(n4+0),0,none⟩,1,1⟩:Rw)] 0 0 hrl_.symm hs_ (by simp;omega) ?_
  rintro A5 c6 T7 ⟨hs8,hz9⟩
  refine ak 9 [.nw] [bn ((t_:Int)+1)] λ _=>RN.dn 1 (.rows 3 1 (bS fC [⟨0,0,0⟩]) 122 (0,0))<|Ad 1<|mJ [2,0,1]<|ox ?_
  refine mt2 (t_+1,A5,c6,rs_++[(⟨some ⟨(n4+0),0,none⟩,1,1⟩:Rw)],T7,T_++[((n4+0),.rows 3 1 (bS fC [⟨0,0,0⟩]) 122 (0,0))]) [] [1,0] ?_
  try dsimp only
  refine ⟨⟨by omega,hs8,by simp;omega,?_⟩,by omega⟩
  rw [show oI (t_+1)=oI t_++[[⟨0,0,0⟩]] from List.replicate_succ']
  exact hT_.snoc (SlIs.one (e:=fC) (x:=⟨0,0,0⟩) (b:=(n4+0))) (by decide) rfl
 ·obtain rfl:t_=25:=by omega
  refine ae 8 [] λ _=>RN.ct (Hp:=[]) (Tp:=[]) [] [] (IJ _) ?_
  rintro _ b10 rfl
  refine RN.dn 0 (.rows 9 1 (iw (kQ b10).bods) 87 (0,0))<|RN.ct (Hp:=[]) (Tp:=[]) [] [] (qP 0 _ (by decide) (aw hE0)) ?_
  rintro _ ⟨b11,T12⟩ ⟨rfl,hB13⟩
  dsimp only at hB13
  replace hB13:Book2 4 (av 0 5).toNat (av 1 5).toNat b11 T12:=hB13
  refine ae 1 [] λ _=>RN.ct (Hp:=[]) (Tp:=[]) [] [] (wN (kQ b10) [] [] b11 10 25 c_ (jb 4 (av 0 5).toNat (av 1 5).toNat 0) A_ rs_ (oI 25) _ (II (az 0)) (Gp _ _) (yN _) (show 1 <= 1 by decide) (show 0 <= 1000000 by decide) (show 0 <= 1000000 by decide) (show (60:Int).toNat <= 1000000 by decide) (wS _) (by decide) (aw hE1) (hs_.rowN (au 1) hrl_) (hT_ _ (au 2)) (by decide) (λ i hi=>qQ hi) (λ i hi=>lM hB13 (au 0) (by decide) (by decide) (t:=0+i) (by omega))) ?_
  rintro _ ⟨r14,S15,T16⟩ ⟨rfl,he17,hr18⟩
  dsimp only at he17 hr18
  refine ae 16 [] λ _=>RN.ct (Hp:=[]) (Tp:=[]) [] [] (wQ (t:=25) hr18 (au 0) (yN _) (show 0 <= 1000000 by decide) (show 0 <= 1000000 by decide) (by rw [Cy];decide) (wS _) (by decide) (aw hE1) (by decide) (λ i hi=>qQ hi) (λ i hi=>lM hB13 (au 1) (by decide) (by decide) (t:=0+i) (by omega)) (Nat.le_refl _)) ?_
  rintro _ q19 rfl
  have hwl_:((WS (kQ b10) (jb 4 (av 0 5).toNat (av 1 5).toNat 0) (oI 25) 25).length:Int)=60:=qN (J:=(jb 4 (av 0 5).toNat (av 1 5).toNat 0)) (yN b10) (oc _) (n:=25) (by decide) (λ i hi=>qQ hi) (Nat.le_refl _)
  refine ae 12 [] λ _=>RN.ct (Hp:=[]) (Tp:=[]) [] [] (IH hr18 (au 0) (n:=25) (by decide)) ?_
  rintro _ ⟨A20,c21,T22⟩ ⟨rfl,hs23⟩
  refine ae 11 [] λ _=>cR 40 (decide_eq_true (show ((25:Nat):Int) % ((10:Nat):Int)=5 by decide))<|ae 5 [] λ _=>cR 45 (decide_eq_true hwl_)<|ae 1 [] λ _=>ai (MG hr18 (au 1))<|ae 5 [] λ _=>?_
  exact RN.ret [] [] [] ⟨rfl,rfl⟩
end Go.Proofs.YtcfajdgeejeieaaGreatDoor
