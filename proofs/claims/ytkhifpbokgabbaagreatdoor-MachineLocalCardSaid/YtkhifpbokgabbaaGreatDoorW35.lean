import Derived.Test.YtkhifpbokgabbaaGreatDoorW22
import Derived.Test.YtkhifpbokgabbaaGreatDoorW34
import Derived.Test.YtkhifpbokgabbaaGreatDoorW26
import Derived.Test.YtkhifpbokgabbaaGreatDoorW21
set_option maxHeartbeats 4000000
set_option maxRecDepth 100000
set_option linter.unusedSimpArgs false
set_option linter.unusedVariables false
namespace Go.Proofs.YtkhifpbokgabbaaGreatDoor
open Go.RowKit
theorem Sp.den {P:Program} {f:FuncId} {args:Array Value} {H F F':HL} {R:Value -> HL -> Prop} (h:Sp P f args H F R) (e:denL F=denL F'):Sp P f args H F' R:=by
  have e2:∀ X:HL,denL (X++F)=denL (X++F'):=λ X=>by simp only [denL,List.map_append] at e ⊢;rw [e]
  intro w hR
  refine (h w (hR.den (e2 H).symm)).mono ?_
  rintro e' w' ⟨v,H',h1,h2,h3,h4⟩
  exact ⟨v,H',h1,h2,h3.den (e2 H'),h4⟩
def ArgD (F:HL) (A:Option Addr) (n:Nat) (xs:List Int):Prop:=∃ F',denL F'=denL F /\ ArgL F' A n xs
theorem ArgL.d {F F':HL} {A:Option Addr} {n:Nat} {xs:List Int} (h:ArgL F A n xs) (e:denL F=denL F'):ArgD F' A n xs:=⟨F,e,h⟩
theorem ArgD.up {F X:HL} {A:Option Addr} {n:Nat} {xs:List Int} (h:ArgD F A n xs):ArgD (X++F) A n xs:=by
  obtain ⟨F',e,h⟩:=h
  exact ⟨X++F',by simp only [denL,List.map_append] at e ⊢;rw [e],h.up⟩
theorem ArgD.ex {F:HL} {A:Option Addr} {n:Nat} {xs:List Int} (h:ArgD F A n xs):∃ F',ArgL F' A n xs:=by
  obtain ⟨F',e,h⟩:=h
  exact ⟨F',h⟩
theorem ArgD.use {F:HL} {A:Option Addr} {n:Nat} {xs:List Int} (h:ArgD F A n xs) {P:Program} {f:FuncId} {args:Array Value} {H:HL} {R:Value -> HL -> Prop} (k:∀ F',ArgL F' A n xs -> Sp P f args H F' R):Sp P f args H F R:=by
  obtain ⟨F',e,h⟩:=h
  exact (k F' h).den e
theorem CodeIn.of {l:List Ins} {A:Option Addr} {c:Nat} {T:HL} (hs:SlIs insE 136 l A c T) (hz:zeroOff A) (hl:l.length <= 400):∃ code,∀ F:HL,(∀ y ∈ T,y ∈ F) -> CodeIn F code A l.length:=by
 by_cases h:l=[]
 ·subst h;exact ⟨[],λ F _=>.nil A⟩
 ·obtain ⟨b,rest,rfl,rfl,hc⟩:=hs.openL hz (by decide) (List.length_pos_iff.2 h)
  exact ⟨l++rest,λ F hF=>.mk b c l.length (hF _ (List.mem_singleton.2 rfl)) (by rw [<- hc,List.length_append];omega) (by omega)⟩
abbrev prgR (u:Value) (H':HL):Prop:=∃ x:List Ins × Option Addr × Nat × Nat × HL × Int × Int × Int,H'=ap [] [x.2.2.2.2.1] /\ (u=.agg #[.slice x.2.1 x.2.2.1 x.2.2.2.1,vI x.2.2.2.2.2.1,vI x.2.2.2.2.2.2.1,vI x.2.2.2.2.2.2.2] /\ ∀ F:HL,(∀ y ∈ x.2.2.2.2.1,y ∈ F) -> CodeIn F x.1 x.2.1 x.2.2.1)
theorem lprog_any (A:Option Addr) (n cap:Nat) (xs:List Int) (F:HL) (hl:ArgD F A n xs) (hn:n <= 9223372036854775807) (hc:n <= cap) (hE:CefIn F):Sp Tryz.prog 5 #[.slice A n cap] [] F prgR:=by
 obtain ⟨F_,hl_⟩:=hl.ex
 refine Sp.run Tryz.func5 rfl mn (A:=[]) (Ts:=[]) rfl λ w0=>?_
 refine RN.go 8 [] λ n1=>RN.ct (Hp:=[]) (Tp:=[]) [] [] (prog_any A n cap (min n 60) xs _ (by rw [List.length_take];omega) (hl_.take (Nat.min_le_left _ _)) (λ X=>hl.up.up.use λ F_ h_=>ints_any A n cap xs _ h_ hn hc (min n 60) rfl)) ?_
 rintro _ ⟨⟨x2,y3,z4⟩,T5⟩ ⟨rfl,h6,h7,h8⟩
 dsimp only at h6 h7 h8
 refine RN.ct (Hp:=[]) (Tp:=[]) [] [] (comp_any x2 y3 z4 _ h6.1 h7.1 h8.1 (h6.2 _ (sub_ap 0)) (h7.2 _ (sub_ap 0)) (h8.2 _ (sub_ap 0)) (ro_ap hE)) ?_
 rintro _ ⟨l9,A10,c11,T12,e13,e14,e15,er16⟩ ⟨rfl,hs17,hz18,hl19⟩
 dsimp only at hs17 hz18 hl19
 refine RN.go 15 [.own 0,.own 0,.own 0,.own 0] λ n20=>RN.en (er16=0) 12 (λ h21=>?_) λ h21=>?_
 ·refine RN.go 9 [.own 0,.own 0,.own 0,.own 0,.own 1,.own 1,.own 1,.own 1] λ _=>RN.ret [.own 1,.own 1,.own 1,.own 1] [] [0] (v:=.agg #[.slice A10 l9.length c11,vI e13,vI e14,vI e15]) (H':=(ap [] [T12])) ?_
  obtain ⟨code,hcode⟩:=CodeIn.of hs17 hz18 hl19
  exact ⟨(code,A10,l9.length,c11,T12,e13,e14,e15),rfl,rfl,hcode⟩
 ·refine RN.go 3 [] λ _=>RN.cp (none_any _)<|RN.go 3 [.own 1,.own 1,.own 1,.own 1] λ _=>RN.ret [.own 1,.own 1,.own 1,.own 1] [] [] (v:=.agg #[.slice none 0 0,vI (-1),vI (-1),vI (-1)]) (H':=(ap [] [])) ?_
  exact ⟨([],none,0,0,[],(-1),(-1),(-1)),by simp [ap],rfl,λ F _=>.nil _⟩
structure SetV (S:Setup):Prop where
  pl:1 <= S.players /\ S.players <= 3
  nb:1 <= S.nb /\ S.nb <= 5
  ro:1 <= S.rounds /\ S.rounds <= 3
  fu:0 <= S.fuel /\ S.fuel <= 60
theorem vset_len (M:MemS) (i v:Int):(M.set i v).cs.length=M.cs.length:=by
  unfold MemS.set;split <;> simp
theorem vget_ne {M:MemS} {i v j:Int} (h:j ≠ i):(M.set i v).get j=M.get j:=by
  unfold MemS.set
  split
  · next hi =>
    unfold MemS.get
    simp only [List.length_set]
    split
    · next hj =>
      rw [List.getD_eq_getElem?_getD,List.getD_eq_getElem?_getD,List.getElem?_set_ne (by omega)]
    · rfl
  · rfl
theorem vget_eq {M:MemS} {i v:Int} (h:0 <= i /\ i < M.cs.length):(M.set i v).get i=v:=by
  unfold MemS.set
  rw [if_pos h]
  unfold MemS.get
  simp only [List.length_set]
  rw [if_pos h,List.getD_eq_getElem?_getD,List.getElem?_set_self (by omega)]
  rfl
theorem vget_lo {M:MemS} {i v:Int} (h:48 <= M.cs.length) (h0:0 <= i) (h1:i < 48) (j:Int):(M.set i v).get j=if j=i then v else M.get j:=by
  by_cases e:j=i
  · rw [if_pos e,e,vget_eq (by omega)]
  · rw [if_neg e,vget_ne e]
theorem vbodyAt {S:Setup} (hp:0 <= S.players) (k:Int):bodyAt S k=-1 \/ (0 <= k /\ k < S.nb /\ bodyAt S k=48+4 * S.players+8 * k):=by
  unfold bodyAt
  split
  · exact .inl rfl
  · split
    · exact .inl rfl
    · exact .inr ⟨by omega,by omega,rfl⟩
theorem vplayerAt {S:Setup} (k:Int):(playerAt S k=-1 /\ (k < 0 \/ S.players <= k)) \/ (0 <= k /\ k < S.players /\ playerAt S k=48+4 * k):=by
  unfold playerAt
  split
  · exact .inl ⟨rfl,by omega⟩
  · split
    · exact .inl ⟨rfl,by omega⟩
    · exact .inr ⟨by omega,by omega,rfl⟩
structure Hi (P:Int) (M M':MemS):Prop where
  len:M'.cs.length=M.cs.length
  get:∀ j,j < 48+4 * P -> M'.get j=M.get j
theorem Hi.refl {P:Int} {M:MemS}:Hi P M M:=⟨rfl,λ _ _=>rfl⟩
theorem Hi.set {P:Int} {A M:MemS} (h:Hi P A M) {k:Int} (hk:48+4 * P <= k) (v:Int):Hi P A (M.set k v):=⟨(vset_len _ _ _).trans h.len,λ j hj=>(vget_ne (by omega)).trans (h.get j hj)⟩
theorem Hi.setB {S:Setup} (hp:0 <= S.players) {A M:MemS} (h:Hi S.players A M) {k c:Int} (hb:bodyAt S k >= 0) (hc:0 <= c) (v:Int):Hi S.players A (M.set (bodyAt S k+c) v):=by
  rcases vbodyAt hp k with e | ⟨h0,h1,e⟩
  · omega
  · exact h.set (by omega) v
structure Kp (P:Int) (M M':MemS):Prop where
  len:M'.cs.length=M.cs.length
  get:∀ j,j <= 5 \/ (48 <= j /\ j < 48+4 * P) -> M'.get j=M.get j
theorem Kp.refl {P:Int} {M:MemS}:Kp P M M:=⟨rfl,λ _ _=>rfl⟩
theorem Kp.set {P:Int} {A M:MemS} (h:Kp P A M) {k:Int} (hk:5 < k /\ (k < 48 \/ 48+4 * P <= k)) (v:Int):Kp P A (M.set k v):=⟨(vset_len _ _ _).trans h.len,λ j hj=>(vget_ne (by omega)).trans (h.get j hj)⟩
theorem Kp.trans {P:Int} {A B C:MemS} (h:Kp P A B) (h':Kp P B C):Kp P A C:=⟨h'.len.trans h.len,λ j hj=>(h'.get j hj).trans (h.get j hj)⟩
structure Ef (M:MemS) (r:VR):Prop where
  yes:r.em=true -> r.e.t=M.get 0 /\ r.e.i=M.get 11 /\ M.get 11 < 40 /\ r.M.get 11=M.get 11+1
  no:r.em=false -> r.M.get 11=M.get 11
theorem e_bd {op:Int} (h:1 <= op /\ op <= 21):(0 <= eP op /\ eP op <= 2) /\ (0 <= eQ op /\ eQ op <= 1):=by
  obtain ⟨n,rfl⟩:=Int.eq_ofNat_of_zero_le (show 0 <= op by omega)
  have hn:n < 22:=by omega
  have key:∀ n:Fin 22,(0 <= (effT.getD n.1 (0,0,0)).1 /\ (effT.getD n.1 (0,0,0)).1 <= 2) /\ (0 <= (effT.getD n.1 (0,0,0)).2.1 /\ (effT.getD n.1 (0,0,0)).2.1 <= 1):=by decide
  exact key ⟨n,hn⟩
theorem exeOk_of {op n sp:Int} (h:exeOk op n sp=true):(1 <= op /\ op <= 21) /\ sp <= 16 /\ eP op <= sp /\ ¬ w64 (w64 (sp - eP op)+eQ op) > 16 /\ (eN op=0 \/ (0 <= n /\ n < eN op)):=by
  unfold exeOk at h
  split at h
  · cases h
  split at h
  · cases h
  split at h
  · cases h
  split at h
  · cases h
  split at h
  · cases h
  refine ⟨by omega,by omega,by omega,by assumption,?_⟩
  split at h
  · left;assumption
  · split at h
    · right;exact ⟨by omega,of_decide_eq_true h⟩
    · cases h
theorem emit_ok {M:MemS} {P k v:Int} (hl:48 <= M.cs.length) (h0:0 <= M.get 11 /\ M.get 11 <= 40):Kp P M (emitV k v M).M /\ (emitV k v M).M.get 8=M.get 8 /\ Ef M (emitV k v M):=by
  unfold emitV
  split
  · exact ⟨.refl,rfl,⟨λ h=>by simp at h,λ _=>rfl⟩⟩
  · refine ⟨((Kp.refl).set (by omega) _).set (by omega) _,?_,⟨λ _=>⟨rfl,rfl,by omega,?_⟩,λ h=>by simp at h⟩⟩
    · simp only
      rw [vget_ne (by decide),vget_ne (by decide)]
    · simp only
      rw [vget_eq (by rw [vset_len];omega),w64_id (by omega)]
def Gd (P:Int) (M:MemS) (r:VR):Prop:=Kp P M r.M /\ r.M.get 8=M.get 8 /\ Ef M r
theorem Gd.ite {P:Int} {M:MemS} {c:Prop} [Decidable c] {x y:VR} (hx:c -> Gd P M x) (hy:¬ c -> Gd P M y):Gd P M (if c then x else y):=by
  split
  · exact hx (by assumption)
  · exact hy (by assumption)
theorem Gd.base {P:Int} {M:MemS} {v:Int}:Gd P M ⟨M,v,eff0,false⟩:=⟨.refl,rfl,⟨λ h=>by simp at h,λ _=>rfl⟩⟩
theorem Gd.st {P:Int} {M:MemS} {k v u:Int} (hk:(5 < k /\ k ≠ 8 /\ k ≠ 11) /\ (k < 48 \/ 48+4 * P <= k)):Gd P M ⟨M.set k v,u,eff0,false⟩ :=
  ⟨(Kp.refl).set (by omega) _,vget_ne (by omega),⟨λ h=>by simp at h,λ _=>vget_ne (by omega)⟩⟩
theorem Gd.mite {P:Int} {M X Y:MemS} {c:Prop} [Decidable c] {u:Int} (hx:c -> Gd P M ⟨X,u,eff0,false⟩) (hy:¬ c -> Gd P M ⟨Y,u,eff0,false⟩):Gd P M ⟨if c then X else Y,u,eff0,false⟩:=by
  split
  · exact hx (by assumption)
  · exact hy (by assumption)
theorem exec_ok {S:Setup} (hS:SetV S) {M:MemS} {op n a b:Int} (hl:48 <= M.cs.length) (h0:0 <= M.get 11 /\ M.get 11 <= 40) (hn:eN op=0 \/ (0 <= n /\ n < eN op)):Gd S.players M (execV S op n a b M):=by
  have hpl:=hS.pl
  have hnb:=hS.nb
  unfold execV
  iterate 14 (refine Gd.ite (λ _=>.base) λ _=>?_)
  refine Gd.ite (λ e=>?_) λ _=>?_
  · subst e
    have h16:0 <= n /\ n < 16:=by
      rcases hn with h | h
      · exact absurd h (by decide)
      · exact h
    rw [w64_id (by omega)]
    exact .st (by omega)
  refine Gd.ite (λ _=>.base) λ _=>?_
  refine Gd.ite (λ e=>?_) λ _=>?_
  · subst e
    have h8:0 <= n /\ n < 8:=by
      rcases hn with h | h
      · exact absurd h (by decide)
      · exact h
    refine Gd.mite (λ hb=>?_) λ _=>.base
    rcases vbodyAt (S:=S) (by omega) a with e | ⟨b0,b1,e⟩
    · omega
    · rw [w64_id (by omega)]
      exact .st (by omega)
  refine Gd.ite (λ _=>.st (by omega)) λ _=>?_
  refine Gd.ite (λ _=>.mite (λ _=>.st (by omega)) λ _=>.base) λ _=>?_
  refine Gd.ite (λ _=>?_) λ _=>.base
  obtain ⟨q1,q2,q3⟩:=emit_ok (P:=S.players) (k:=a) (v:=b) hl h0
  exact ⟨q1,q2,⟨q3.yes,q3.no⟩⟩
theorem memP_ok {P:Int} {M:MemS} {op sp pc fuel:Int} (hl:48 <= M.cs.length):Kp P M (memP op sp pc fuel M) /\ (memP op sp pc fuel M).get 8=w64 (fuel - 1) /\ (memP op sp pc fuel M).get 11=M.get 11:=by
  unfold memP
  split
  · exact ⟨((Kp.refl).set (by omega) _).set (by omega) _,by rw [vget_ne (by decide),vget_eq (by omega)],by rw [vget_ne (by decide),vget_ne (by decide)]⟩
  · exact ⟨(((Kp.refl).set (by omega) _).set (by omega) _).set (by omega) _,by rw [vget_ne (by decide),vget_ne (by decide),vget_eq (by omega)],by rw [vget_ne (by decide),vget_ne (by decide),vget_ne (by decide)]⟩
theorem stepV_ok {S:Setup} (hS:SetV S) {M:MemS} {code:List Ins} {n:Nat} (hl:48 <= M.cs.length) (h0:0 <= M.get 11 /\ M.get 11 <= 40) (hf:0 <= M.get 8 /\ M.get 8 <= 60) :
    Kp S.players M (stepV S code n M).M /\ Ef M (stepV S code n M) /\ ((runsV code n M /\ (stepV S code n M).M.get 8=M.get 8 - 1 /\ 1 <= M.get 8) \/ (¬ runsV code n M /\ endV code n M=true /\ (stepV S code n M).M.get 8=M.get 8)):=by
  unfold stepV
  by_cases hr:runsV code n M
  · rw [if_pos hr]
    obtain ⟨r1,r2,r3,r4⟩:=hr
    obtain ⟨x1,x2,x3,x4,x5⟩:=exeOk_of r4
    have hp:=memP_ok (P:=S.players) (op:=(codeA code M).op) (sp:=M.get 7) (pc:=M.get 6) (fuel:=M.get 8) hl
    generalize hM1:memP (codeA code M).op (M.get 7) (M.get 6) (M.get 8) M=M1 at *
    obtain ⟨p1,p2,p3⟩:=hp
    rw [w64_id (by omega)] at p2
    have he:=exec_ok hS (M:=M1) (op:=(codeA code M).op) (n:=(codeA code M).n) (a:=popA (codeA code M).op (M.get 7) M) (b:=popB (codeA code M).op (M.get 7) M) (by rw [p1.len];exact hl) (by rw [p3];exact h0) x5
    unfold stepI
    rw [hM1]
    generalize execV S (codeA code M).op (codeA code M).n (popA (codeA code M).op (M.get 7) M) (popB (codeA code M).op (M.get 7) M) M1=r at *
    obtain ⟨g1,g2,g3⟩:=he
    have hE:Ef M r:=⟨λ h=>by
      obtain ⟨a1,a2,a3,a4⟩:=g3.yes h
      rw [p1.get 0 (by omega)] at a1
      rw [p3] at a2 a3 a4
      exact ⟨a1,a2,a3,a4⟩,λ h=>by rw [g3.no h,p3]⟩
    have hb:=e_bd x1
    unfold pushV
    split
    · have hq:w64 (w64 (16+M.get 7) - eP (codeA code M).op)=16+M.get 7 - eP (codeA code M).op:=by rw [w64_id (x:=16+M.get 7) (by omega),w64_id (by omega)]
      rw [w64_id (x:=M.get 7 - eP (codeA code M).op) (by omega),w64_id (by omega)] at x4
      rw [hq]
      refine ⟨(p1.trans g1).set (by omega) _,⟨λ h=>?_,λ h=>?_⟩,.inl ⟨⟨r1,r2,r3,r4⟩,?_,by omega⟩⟩
      · obtain ⟨a1,a2,a3,a4⟩:=hE.yes h
        exact ⟨a1,a2,a3,(vget_ne (by omega)).trans a4⟩
      · exact (vget_ne (by omega)).trans (hE.no h)
      · simp only
        rw [vget_ne (by omega),g2,p2]
    · exact ⟨p1.trans g1,hE,.inl ⟨⟨r1,r2,r3,r4⟩,by rw [g2,p2],by omega⟩⟩
  · rw [if_neg hr]
    exact ⟨.refl,⟨λ h=>by simp at h,λ _=>rfl⟩,.inr ⟨hr,by unfold endV;rw [if_neg hr],rfl⟩⟩
def l6 (n i j fu:Int):Int:=(if j=0 then (n - i) * 62 else (n - i - 1) * 62+fu+1)+1+n
def l5 (n i j:Int):Int:=n * (n+1) - (i * (n+1)+j)+l6 n 0 0 0
def ixP (n i:Int):Int:=if i=0 then 0 else if i=1 then n - 1 else if i=2 then 2 * n - 3 else 3 * n - 6
def npP (n:Int):Int:=if n=2 then 1 else if n=3 then 3 else if n=4 then 6 else if n=5 then 10 else 0
def l4 (n R i j r:Int):Int:=(if n < 2 then 0 else (R - r) * npP n - (ixP n i+(j - i - 1)))+1+l5 n 0 0
def l3 (n R i:Int):Int:=n - i+l4 n R 0 1 0
def l2 (n R j fu:Int):Int:=(if j=0 then 62 else fu+1)+l3 n R 0
def l1 (P n R i j fu:Int):Int:=(if j=0 then (P - i) * 62 else (P - i - 1) * 62+fu+1)+1+l2 n R 0 0
def l0 (P n R i:Int):Int:=P - i+l1 P n R 0 0 0
def lfV (P n R p i j r fu:Int):Int:=if p=0 then l0 P n R i else if p=1 then l1 P n R i j fu else if p=2 then l2 n R j fu else if p=3 then l3 n R i else if p=4 then l4 n R i j r else if p=5 then l5 n i j else if p=6 then l6 n i j fu else n - i
def CtV (P n R p i j r fu:Int):Prop :=
  (p=0 /\ 0 <= i /\ i < P) \/ (p=1 /\ 0 <= i /\ i <= P /\ (j=0 \/ (j=1 /\ i < P /\ 0 <= fu /\ fu <= 60))) \/ (p=2 /\ (j=0 \/ (j=1 /\ 0 <= fu /\ fu <= 60))) \/ (p=3 /\ 0 <= i /\ i < n) \/
  (p=4 /\ 0 <= r /\ r <= R /\ (2 <= n -> 0 <= i /\ i < j /\ j < n /\ (r=R -> i=0 /\ j=1))) \/ (p=5 /\ 0 <= i /\ i < n /\ 0 <= j /\ j <= n) \/ (p=6 /\ 0 <= i /\ i <= n /\ (j=0 \/ (j=1 /\ i < n /\ 0 <= fu /\ fu <= 60))) \/ (p=7 /\ 0 <= i /\ i < n)
abbrev stV (M:MemS):Prop:=M.get 1=0 /\ M.get 2=0
structure TV (S:Setup) (ins:Nat -> Inp) (M:MemS):Prop where
  len:(M.cs.length:Int)=sizeOf S
  t0:0 <= M.get 0 /\ M.get 0 <= 1000000
  ct:CtV S.players S.nb S.rounds (M.get 1) (M.get 2) (M.get 3) (M.get 4) (M.get 8)
  pl:∀ q:Nat,(q:Int) < (if M.get 1=0 then M.get 2 else S.players) -> M.get (48+4 * q)=(ins q).dx /\ M.get (48+4 * q+1)=(ins q).dy /\ M.get (48+4 * q+2)=(ins q).act
  ec:stV M \/ (0 <= M.get 11 /\ M.get 11 <= 40)
abbrev lfM (S:Setup) (M:MemS):Int:=lfV S.players S.nb S.rounds (M.get 1) (M.get 2) (M.get 3) (M.get 4) (M.get 8)
structure Nx (S:Setup) (ins:Nat -> Inp) (M:MemS) (r:VR):Prop where
  tv:TV S ins r.M
  lt:lfM S r.M < lfM S M
  ph:M.get 1 <= r.M.get 1
  t0:r.M.get 0=M.get 0
  ns:¬ stV r.M
  yes:r.em=true -> ¬ stV M /\ r.e.t=M.get 0 /\ r.e.i=M.get 11 /\ r.M.get 11=M.get 11+1
  no:r.em=false -> r.M.get 11=if stV M then 0 else M.get 11
  up:r.M.get 1 <= M.get 1+1
theorem TV.l48 {S:Setup} (hS:SetV S) {ins:Nat -> Inp} {M:MemS} (h:TV S ins M):48 <= M.cs.length:=by
  have:=h.len;have:=hS.pl;unfold sizeOf at *;omega
theorem nx_of {S:Setup} (hS:SetV S) {ins:Nat -> Inp} {M N:MemS} {r:VR} {p i j q x fu:Int} (h:TV S ins M) (hp:1 <= M.get 1) (hN:Kp S.players M N) (hlen:r.M.cs.length=N.cs.length)
    (g:∀ k,r.M.get k=if k=1 then p else if k=2 then i else if k=3 then j else if k=4 then q else if k=5 then x else N.get k) (h8:N.get 8=fu)
    (hE:Ef M ⟨N,r.v,r.e,r.em⟩) (hc:CtV S.players S.nb S.rounds p i j q fu) (hph:M.get 1 <= p) (hlt:lfV S.players S.nb S.rounds p i j q fu < lfM S M) (hup:p <= M.get 1+1:=by omega):Nx S ins M r:=by
  have ha:¬ stV M:=λ e=>by have:=e.1;omega
  have g0:r.M.get 0=M.get 0:=by rw [g];simp;exact hN.get 0 (by omega)
  have g1:r.M.get 1=p:=by rw [g];simp
  have g2:r.M.get 2=i:=by rw [g];simp
  have g3:r.M.get 3=j:=by rw [g];simp
  have g4:r.M.get 4=q:=by rw [g];simp
  have g8:r.M.get 8=fu:=by rw [g];simp;exact h8
  have g11:r.M.get 11=N.get 11:=by rw [g];simp
  have gp:∀ k,48 <= k -> k < 48+4 * S.players -> r.M.get k=M.get k:=λ k h1 h2=>by
    rw [g,if_neg (by omega),if_neg (by omega),if_neg (by omega),if_neg (by omega),if_neg (by omega)]
    exact hN.get k (by omega)
  have hec:0 <= M.get 11 /\ M.get 11 <= 40:=by
    rcases h.ec with e | e
    · exact absurd e ha
    · exact e
  refine ⟨⟨by rw [hlen,hN.len];exact h.len,by rw [g0];exact h.t0,by rw [g1,g2,g3,g4,g8];exact hc,λ k hk=>?_,.inr ?_⟩,?_,by rw [g1];exact hph,g0,λ e=>by rw [stV,g1] at e;have:=e.1;omega,λ e=>?_,λ e=>?_,by rw [g1];exact hup⟩
  · rw [g1,if_neg (by omega)] at hk
    have:=h.pl k (by rw [if_neg (by omega)];exact hk)
    rw [gp _ (by omega) (by omega),gp _ (by omega) (by omega),gp _ (by omega) (by omega)]
    exact this
  · rw [g11]
    cases he:r.em with
    | true=>obtain ⟨a,b,c,d⟩:=hE.yes he;simp only at d;omega
    | false=>have:=hE.no he;simp only at this;omega
  · unfold lfM;rw [g1,g2,g3,g4,g8];exact hlt
  · obtain ⟨a,b,c,d⟩:=hE.yes e
    exact ⟨ha,a,b,by rw [g11];exact d⟩
  · rw [if_neg ha,g11];exact hE.no e
theorem Hi.kp {P:Int} {M N:MemS} (h:Hi P M N) (hP:0 <= P):Kp P M N:=⟨h.len,λ j hj=>h.get j (by omega)⟩
theorem Hi.ef {P:Int} {M N:MemS} (h:Hi P M N) (hP:0 <= P) {v:Int} {e:Eff}:Ef M ⟨N,v,e,false⟩:=⟨λ h=>by simp at h,λ _=>h.get 11 (by omega)⟩
theorem vbeg_get {M:MemS} (h:48 <= M.cs.length) (t:Stp) (a b j:Int):(beginM t a b M).get j=if j=3 then b else if j=2 then 0 else if j=1 then a else M.get j:=by
  unfold beginM
  rw [vget_lo (by simp only [vset_len];exact h) (by omega) (by omega),vget_lo (by simp only [vset_len];exact h) (by omega) (by omega),vget_lo h (by omega) (by omega)]
theorem vbeg_len {M:MemS} (t:Stp) (a b:Int):(beginM t a b M).cs.length=M.cs.length:=by unfold beginM;simp only [vset_len]
theorem if5 {k p i j q x z:Int} {f:Int -> Int} (h:(if k=3 then j else if k=2 then i else if k=1 then p else f k)=z) (hq:q=f 4) (hx:x=f 5):z=if k=1 then p else if k=2 then i else if k=3 then j else if k=4 then q else if k=5 then x else f k:=by
  subst h hq hx
  by_cases e1:k=1
  · subst e1;simp
  by_cases e2:k=2
  · subst e2;simp
  by_cases e3:k=3
  · subst e3;simp
  by_cases e4:k=4
  · subst e4;simp
  by_cases e5:k=5
  · subst e5;simp
  simp [e1,e2,e3,e4,e5]
theorem if2 {k i z:Int} {f:Int -> Int} (h:(if k=2 then i else f k)=z):z=if k=1 then f 1 else if k=2 then i else if k=3 then f 3 else if k=4 then f 4 else if k=5 then f 5 else f k:=by
  subst h
  by_cases e1:k=1
  · subst e1;simp
  by_cases e2:k=2
  · subst e2;simp
  by_cases e3:k=3
  · subst e3;simp
  by_cases e4:k=4
  · subst e4;simp
  by_cases e5:k=5
  · subst e5;simp
  simp [e1,e2,e3,e4,e5]
theorem force_hi {S:Setup} (hS:SetV S) {t:Stp} (ht:t.S=S) (M:MemS):Hi S.players M (forceB t (forceA t M)):=by
  have hp:0 <= S.players:=by have:=hS.pl;omega
  subst ht
  have ha:Hi t.S.players M (forceA t M):=by
    unfold forceA
    split
    · exact (Hi.refl).setB hp (by omega) (by omega) _
    · exact .refl
  unfold forceB
  split
  · next hm =>
    have hb:bodyAt t.S t.i >= 0:=by
      rcases vbodyAt hp t.i with e | ⟨_,_,e⟩
      · unfold bodyAt at e
        rw [if_neg (by have:=hm.1;omega),if_neg (by have:=hm.1;omega)] at e
        have:=hm.1;omega
      · omega
    exact (ha.setB hp hb (by omega) _).setB hp hb (by omega) _
  · exact ha
theorem q3 {S:Setup} (hS:SetV S) {g:Gm} (hg:g.S=S) {ins:Nat -> Inp} {M:MemS} (h:TV S ins M) (hp:M.get 1=3):Nx S ins M ⟨forceM (g.step M) M,0,eff0,false⟩:=by
  have hpl:=hS.pl
  have hnb:=hS.nb
  have hro:=hS.ro
  have hc:0 <= M.get 2 /\ M.get 2 < S.nb:=by rcases h.ct with h | h | h | h | h | h | h | h <;> omega
  have hh:=force_hi hS (t:=g.step M) hg M
  have hl:=h.l48 hS
  unfold forceM forceC
  generalize forceB (g.step M) (forceA (g.step M) M)=N at *
  have hlN:48 <= N.cs.length:=by rw [hh.len];exact hl
  have e1:=hh.get 1 (by omega);have e2:=hh.get 2 (by omega);have e3:=hh.get 3 (by omega);have e4:=hh.get 4 (by omega);have e8:=hh.get 8 (by omega)
  show Nx S ins M ⟨if w64 (M.get 2+1) < g.S.nb then N.set 2 (w64 (M.get 2+1)) else _,0,eff0,false⟩
  rw [w64_id (by omega),hg]
  split
  · refine nx_of hS h (by omega) (hh.kp (by omega)) (vset_len _ _ _) (λ k=>if2 (f:=N.get) (vget_lo hlN (by omega) (by omega) k).symm) e8 (hh.ef (by omega)) ?_ (by omega) ?_
    · rw [e1,e3,e4,hp];exact .inr (.inr (.inr (.inl ⟨rfl,by omega,by omega⟩)))
    · unfold lfM;rw [e1,e3,e4,hp]
      show l3 S.nb S.rounds (M.get 2+1) < l3 S.nb S.rounds (M.get 2)
      unfold l3;omega
  · refine nx_of hS h (by omega) (hh.kp (by omega)) ((vset_len _ _ _).trans (vbeg_len _ _ _)) (p:=4) (i:=0) (j:=1) (q:=0) (x:=N.get 5) (λ k=>?_) e8 (hh.ef (by omega)) ?_ (by omega) ?_
    · rw [vget_lo (by rw [vbeg_len];exact hlN) (by omega) (by omega),vbeg_get hlN]
      by_cases k4:k=4
      · subst k4;simp
      · rw [if_neg k4]
        by_cases k1:k=1
        · subst k1;simp
        by_cases k2:k=2
        · subst k2;simp
        by_cases k3:k=3
        · subst k3;simp
        by_cases k5:k=5
        · subst k5;simp
        simp [k1,k2,k3,k4,k5]
    · exact .inr (.inr (.inr (.inr (.inl ⟨rfl,by omega,by omega,λ _=>by omega⟩))))
    · unfold lfM;rw [hp]
      show l4 S.nb S.rounds 0 1 0 < l3 S.nb S.rounds (M.get 2)
      unfold l3;omega
end Go.Proofs.YtkhifpbokgabbaaGreatDoor
