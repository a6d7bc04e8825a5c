import Derived.Test.YtcfajdgeejeieaaGreatDoorV23
import Derived.Test.YtcfajdgeejeieaaGreatDoorV22
import Derived.Test.YtcfajdgeejeieaaGreatDoorV09
set_option maxHeartbeats 4000000
set_option maxRecDepth 100000
set_option linter.unusedSimpArgs false
set_option linter.unusedVariables false
namespace Go.Proofs.YtcfajdgeejeieaaGreatDoor
open Go.RowKit
theorem ite_cl {p:MemS -> Prop} {c:Prop} [Decidable c] {A B:MemS} (h1:p A) (h2:p B):p (if c then A else B):=by split <;> assumption
theorem vite_cl {p:MemS -> Prop} {c:Prop} [Decidable c] {A B:VR} (h1:p A.M) (h2:p B.M):p (if c then A else B).M:=by split <;> assumption
theorem vz_cl {p:MemS -> Prop} {r:VR} (h:p r.M):p r.z.M:=h
theorem beginM_cl {p:MemS -> Prop} (hp:∀ (M:MemS) (i v:Int),p M -> p (M.set i v)) (t:Stp) (ph j:Int) (M:MemS) (h0_:p M):p (beginM t ph j M):=by
 unfold beginM
 repeat' (first | with_reducible assumption | with_reducible apply hp | with_reducible apply ite_cl | with_reducible apply vite_cl | with_reducible apply vz_cl | split | assumption)
theorem setMotM_cl {p:MemS -> Prop} (hp:∀ (M:MemS) (i v:Int),p M -> p (M.set i v)) (t:Stp) (k:Int) (m:Mot) (M:MemS) (h0_:p M):p (setMotM t k m M):=by
 unfold setMotM
 repeat' (first | with_reducible assumption | with_reducible apply hp | with_reducible apply ite_cl | with_reducible apply vite_cl | with_reducible apply vz_cl | split | assumption)
theorem placeM_cl {p:MemS -> Prop} (hp:∀ (M:MemS) (i v:Int),p M -> p (M.set i v)) (t:Stp) (c sp pos lo hi:Int) (M:MemS) (h0_:p M):p (placeM t c sp pos lo hi M):=by
 unfold placeM
 repeat' (first | with_reducible assumption | with_reducible apply hp | with_reducible apply ite_cl | with_reducible apply vite_cl | with_reducible apply vz_cl | split | assumption)
theorem inputA_cl {p:MemS -> Prop} (hp:∀ (M:MemS) (i v:Int),p M -> p (M.set i v)) (t:Stp) (M:MemS) (h0_:p M):p (inputA t M):=by
 unfold inputA
 repeat' (first | with_reducible assumption | with_reducible apply hp | with_reducible apply ite_cl | with_reducible apply vite_cl | with_reducible apply vz_cl | split | assumption)
theorem inputB_cl {p:MemS -> Prop} (hp:∀ (M:MemS) (i v:Int),p M -> p (M.set i v)) (t:Stp) (M:MemS) (h0_:p M):p (inputB t M):=by
 unfold inputB
 repeat' (first | with_reducible assumption | with_reducible apply hp | with_reducible apply ite_cl | with_reducible apply vite_cl | with_reducible apply vz_cl | split | assumption)
theorem inputC_cl {p:MemS -> Prop} (hp:∀ (M:MemS) (i v:Int),p M -> p (M.set i v)) (t:Stp) (M:MemS) (h0_:p M):p (inputC t M):=by
 unfold inputC
 repeat' (first | with_reducible assumption | with_reducible apply hp | with_reducible apply beginM_cl hp | with_reducible apply ite_cl | with_reducible apply vite_cl | with_reducible apply vz_cl | split | assumption)
theorem inputM_cl {p:MemS -> Prop} (hp:∀ (M:MemS) (i v:Int),p M -> p (M.set i v)) (t:Stp) (M:MemS) (h0_:p M):p (inputM t M):=by
 unfold inputM
 repeat' (first | with_reducible assumption | with_reducible apply hp | with_reducible apply inputA_cl hp | with_reducible apply inputB_cl hp | with_reducible apply inputC_cl hp | with_reducible apply ite_cl | with_reducible apply vite_cl | with_reducible apply vz_cl | split | assumption)
theorem restA_cl {p:MemS -> Prop} (hp:∀ (M:MemS) (i v:Int),p M -> p (M.set i v)) (t:Stp) (M:MemS) (h0_:p M):p (restA t M):=by
 unfold restA
 repeat' (first | with_reducible assumption | with_reducible apply hp | with_reducible apply ite_cl | with_reducible apply vite_cl | with_reducible apply vz_cl | split | assumption)
theorem zeroTo_cl {p:MemS -> Prop} (hp:∀ (M:MemS) (i v:Int),p M -> p (M.set i v)) (M:MemS) (h:p M):∀ n,p (zeroTo M n)
 | 0=>h
 | n+1=>by rw [zeroTo];exact hp _ _ _ (zeroTo_cl hp M h n)
theorem restC_cl {p:MemS -> Prop} (hp:∀ (M:MemS) (i v:Int),p M -> p (M.set i v)) (t:Stp) (M:MemS) (h0_:p M):p (restC t M):=by
 unfold restC
 repeat' (first | with_reducible assumption | with_reducible apply hp | with_reducible apply zeroTo_cl hp | with_reducible apply ite_cl | with_reducible apply vite_cl | with_reducible apply vz_cl | split | assumption)
theorem restM_cl {p:MemS -> Prop} (hp:∀ (M:MemS) (i v:Int),p M -> p (M.set i v)) (t:Stp) (M:MemS) (h0_:p M):p (restM t M):=by
 unfold restM
 repeat' (first | with_reducible assumption | with_reducible apply hp | with_reducible apply restA_cl hp | with_reducible apply restC_cl hp | with_reducible apply ite_cl | with_reducible apply vite_cl | with_reducible apply vz_cl | split | assumption)
theorem forceA_cl {p:MemS -> Prop} (hp:∀ (M:MemS) (i v:Int),p M -> p (M.set i v)) (t:Stp) (M:MemS) (h0_:p M):p (forceA t M):=by
 unfold forceA
 repeat' (first | with_reducible assumption | with_reducible apply hp | with_reducible apply ite_cl | with_reducible apply vite_cl | with_reducible apply vz_cl | split | assumption)
theorem forceB_cl {p:MemS -> Prop} (hp:∀ (M:MemS) (i v:Int),p M -> p (M.set i v)) (t:Stp) (M:MemS) (h0_:p M):p (forceB t M):=by
 unfold forceB
 repeat' (first | with_reducible assumption | with_reducible apply hp | with_reducible apply ite_cl | with_reducible apply vite_cl | with_reducible apply vz_cl | split | assumption)
theorem forceC_cl {p:MemS -> Prop} (hp:∀ (M:MemS) (i v:Int),p M -> p (M.set i v)) (t:Stp) (M:MemS) (h0_:p M):p (forceC t M):=by
 unfold forceC
 repeat' (first | with_reducible assumption | with_reducible apply hp | with_reducible apply beginM_cl hp | with_reducible apply ite_cl | with_reducible apply vite_cl | with_reducible apply vz_cl | split | assumption)
theorem forceM_cl {p:MemS -> Prop} (hp:∀ (M:MemS) (i v:Int),p M -> p (M.set i v)) (t:Stp) (M:MemS) (h0_:p M):p (forceM t M):=by
 unfold forceM
 repeat' (first | with_reducible assumption | with_reducible apply hp | with_reducible apply forceA_cl hp | with_reducible apply forceB_cl hp | with_reducible apply forceC_cl hp | with_reducible apply ite_cl | with_reducible apply vite_cl | with_reducible apply vz_cl | split | assumption)
theorem travelM_cl {p:MemS -> Prop} (hp:∀ (M:MemS) (i v:Int),p M -> p (M.set i v)) (t:Stp) (M:MemS) (h0_:p M):p (travelM t M):=by
 unfold travelM
 repeat' (first | with_reducible assumption | with_reducible apply hp | with_reducible apply placeM_cl hp | with_reducible apply ite_cl | with_reducible apply vite_cl | with_reducible apply vz_cl | split | assumption)
theorem emitV_cl {p:MemS -> Prop} (hp:∀ (M:MemS) (i v:Int),p M -> p (M.set i v)) (k v:Int) (M:MemS) (h0_:p M):p (emitV k v M).M:=by
 unfold emitV
 repeat' (first | with_reducible assumption | with_reducible apply hp | with_reducible apply ite_cl | with_reducible apply vite_cl | with_reducible apply vz_cl | split | assumption)
theorem execV_cl {p:MemS -> Prop} (hp:∀ (M:MemS) (i v:Int),p M -> p (M.set i v)) (S:Setup) (op n a b:Int) (M:MemS) (h0_:p M):p (execV S op n a b M).M:=by
 unfold execV
 repeat' (first | with_reducible assumption | with_reducible apply hp | with_reducible apply emitV_cl hp | with_reducible apply ite_cl | with_reducible apply vite_cl | with_reducible apply vz_cl | split | assumption)
theorem memP_cl {p:MemS -> Prop} (hp:∀ (M:MemS) (i v:Int),p M -> p (M.set i v)) (op sp pc fuel:Int) (M:MemS) (h0_:p M):p (memP op sp pc fuel M):=by
 unfold memP
 repeat' (first | with_reducible assumption | with_reducible apply hp | with_reducible apply ite_cl | with_reducible apply vite_cl | with_reducible apply vz_cl | split | assumption)
theorem stepI_cl {p:MemS -> Prop} (hp:∀ (M:MemS) (i v:Int),p M -> p (M.set i v)) (S:Setup) (op n sp pc fuel:Int) (M:MemS) (h0_:p M):p (stepI S op n sp pc fuel M).M:=by
 unfold stepI
 repeat' (first | with_reducible assumption | with_reducible apply hp | with_reducible apply execV_cl hp | with_reducible apply memP_cl hp | with_reducible apply ite_cl | with_reducible apply vite_cl | with_reducible apply vz_cl | split | assumption)
theorem pushV_cl {p:MemS -> Prop} (hp:∀ (M:MemS) (i v:Int),p M -> p (M.set i v)) (op sp:Int) (r:VR) (h0_:p r.M):p (pushV op sp r).M:=by
 unfold pushV
 repeat' (first | with_reducible assumption | with_reducible apply hp | with_reducible apply ite_cl | with_reducible apply vite_cl | with_reducible apply vz_cl | split | assumption)
theorem stepV_cl {p:MemS -> Prop} (hp:∀ (M:MemS) (i v:Int),p M -> p (M.set i v)) (S:Setup) (code:List Ins) (n:Nat) (M:MemS) (h0_:p M):p (stepV S code n M).M:=by
 unfold stepV
 repeat' (first | with_reducible assumption | with_reducible apply hp | with_reducible apply stepI_cl hp | with_reducible apply pushV_cl hp | with_reducible apply ite_cl | with_reducible apply vite_cl | with_reducible apply vz_cl | split | assumption)
theorem startV_cl {p:MemS -> Prop} (hp:∀ (M:MemS) (i v:Int),p M -> p (M.set i v)) (e fuel self other:Int) (M:MemS) (h0_:p M):p (startV e fuel self other M):=by
 unfold startV
 repeat' (first | with_reducible assumption | with_reducible apply hp | with_reducible apply ite_cl | with_reducible apply vite_cl | with_reducible apply vz_cl | split | assumption)
theorem runV_cl {p:MemS -> Prop} (hp:∀ (M:MemS) (i v:Int),p M -> p (M.set i v)) (e:Int) (t:Stp) (self other:Int) (M:MemS) (h0_:p M):p (runV e t self other M).M:=by
 unfold runV
 repeat' (first | with_reducible assumption | with_reducible apply hp | with_reducible apply stepV_cl hp | with_reducible apply startV_cl hp | with_reducible apply ite_cl | with_reducible apply vite_cl | with_reducible apply vz_cl | split | assumption)
theorem turnV_cl {p:MemS -> Prop} (hp:∀ (M:MemS) (i v:Int),p M -> p (M.set i v)) (r:VR) (over:Bool) (t:Stp) (cause:Bool) (M:MemS) (h0_:p r.M) (h1_:p M):p (turnV r over t cause M).M:=by
 unfold turnV
 repeat' (first | with_reducible assumption | with_reducible apply hp | with_reducible apply ite_cl | with_reducible apply vite_cl | with_reducible apply vz_cl | split | assumption)
theorem turn0_cl {p:MemS -> Prop} (hp:∀ (M:MemS) (i v:Int),p M -> p (M.set i v)) (t:Stp) (o:Int) (c:Bool) (M:MemS) (h:p M):p (turn0 t o c M).M:=by
 unfold turn0 run0 end0
 first | exact turnV_cl hp _ _ _ _ _ h | exact turnV_cl hp _ _ _ _ h | (repeat' (first | assumption | apply turnV_cl hp | apply runV_cl hp | split))
theorem turn2_cl {p:MemS -> Prop} (hp:∀ (M:MemS) (i v:Int),p M -> p (M.set i v)) (t:Stp) (o:Int) (c:Bool) (M:MemS) (h:p M):p (turn2 t o c M).M:=by
 unfold turn2 run2 end2
 first | exact turnV_cl hp _ _ _ _ _ h | exact turnV_cl hp _ _ _ _ h | (repeat' (first | assumption | apply turnV_cl hp | apply runV_cl hp | split))
theorem actV_cl {p:MemS -> Prop} (hp:∀ (M:MemS) (i v:Int),p M -> p (M.set i v)) (t:Stp) (M:MemS) (h0_:p M):p (actV t M).M:=by
 unfold actV
 repeat' (first | with_reducible assumption | with_reducible apply hp | with_reducible apply beginM_cl hp | with_reducible apply turn0_cl hp | with_reducible apply ite_cl | with_reducible apply vite_cl | with_reducible apply vz_cl | split | assumption)
theorem tickV_cl {p:MemS -> Prop} (hp:∀ (M:MemS) (i v:Int),p M -> p (M.set i v)) (t:Stp) (M:MemS) (h0_:p M):p (tickV t M).M:=by
 unfold tickV
 repeat' (first | with_reducible assumption | with_reducible apply hp | with_reducible apply beginM_cl hp | with_reducible apply runV_cl hp | with_reducible apply ite_cl | with_reducible apply vite_cl | with_reducible apply vz_cl | split | assumption)
theorem touchSet_cl {p:MemS -> Prop} (hp:∀ (M:MemS) (i v:Int),p M -> p (M.set i v)) (t:Stp) (M:MemS) (h0_:p M):p (touchSet t M):=by
 unfold touchSet
 repeat' (first | with_reducible assumption | with_reducible apply hp | with_reducible apply setMotM_cl hp | with_reducible apply ite_cl | with_reducible apply vite_cl | with_reducible apply vz_cl | split | assumption)
theorem touchF_cl {p:MemS -> Prop} (hp:∀ (M:MemS) (i v:Int),p M -> p (M.set i v)) (t:Stp) (M:MemS) (h0_:p M):p (touchF t M):=by
 unfold touchF
 repeat' (first | with_reducible assumption | with_reducible apply hp | with_reducible apply touchSet_cl hp | with_reducible apply ite_cl | with_reducible apply vite_cl | with_reducible apply vz_cl | split | assumption)
theorem testF_cl {p:MemS -> Prop} (hp:∀ (M:MemS) (i v:Int),p M -> p (M.set i v)) (t:Stp) (M:MemS) (h0_:p M):p (testF t M):=by
 unfold testF
 repeat' (first | with_reducible assumption | with_reducible apply hp | with_reducible apply ite_cl | with_reducible apply vite_cl | with_reducible apply vz_cl | split | assumption)
theorem moveA_cl {p:MemS -> Prop} (hp:∀ (M:MemS) (i v:Int),p M -> p (M.set i v)) (t:Stp) (M:MemS) (h0_:p M):p (moveA t M):=by
 unfold moveA
 repeat' (first | with_reducible assumption | with_reducible apply hp | with_reducible apply beginM_cl hp | with_reducible apply ite_cl | with_reducible apply vite_cl | with_reducible apply vz_cl | split | assumption)
theorem moveF_cl {p:MemS -> Prop} (hp:∀ (M:MemS) (i v:Int),p M -> p (M.set i v)) (t:Stp) (M:MemS) (h0_:p M):p (moveF t M):=by
 unfold moveF
 repeat' (first | with_reducible assumption | with_reducible apply hp | with_reducible apply travelM_cl hp | with_reducible apply testF_cl hp | with_reducible apply moveA_cl hp | with_reducible apply ite_cl | with_reducible apply vite_cl | with_reducible apply vz_cl | split | assumption)
theorem contactF_cl {p:MemS -> Prop} (hp:∀ (M:MemS) (i v:Int),p M -> p (M.set i v)) (t:Stp) (M:MemS) (h0_:p M):p (contactF t M):=by
 unfold contactF
 repeat' (first | with_reducible assumption | with_reducible apply hp | with_reducible apply beginM_cl hp | with_reducible apply touchF_cl hp | with_reducible apply ite_cl | with_reducible apply vite_cl | with_reducible apply vz_cl | split | assumption)
theorem hitV_cl {p:MemS -> Prop} (hp:∀ (M:MemS) (i v:Int),p M -> p (M.set i v)) (t:Stp) (M:MemS) (h0_:p M):p (hitV t M).M:=by
 unfold hitV
 repeat' (first | with_reducible assumption | with_reducible apply hp | with_reducible apply beginM_cl hp | with_reducible apply turn2_cl hp | with_reducible apply ite_cl | with_reducible apply vite_cl | with_reducible apply vz_cl | split | assumption)
theorem trV_cl {p:MemS -> Prop} (hp:∀ (M:MemS) (i v:Int),p M -> p (M.set i v)) (g:Gm) (M:MemS) (h:p M):p (trV g M).M:=by
 unfold trV
 repeat' (first | with_reducible assumption | with_reducible apply inputM_cl hp | with_reducible apply restM_cl hp | with_reducible apply forceM_cl hp | with_reducible apply actV_cl hp | with_reducible apply tickV_cl hp | with_reducible apply moveF_cl hp | with_reducible apply contactF_cl hp | with_reducible apply hitV_cl hp | with_reducible apply ite_cl | with_reducible apply vite_cl | split)
theorem runM_cl {p:MemS -> Prop} (hp:∀ (M:MemS) (i v:Int),p M -> p (M.set i v)) (g:Gm):∀ (n:Nat) (M:MemS),p M -> p (runM g n M)
 | 0,_,h=>h
 | n+1,M,h=>by rw [runM,trM];exact runM_cl hp g n _ (trV_cl hp g M h)
theorem tkM_cl {p:MemS -> Prop} (hp:∀ (M:MemS) (i v:Int),p M -> p (M.set i v)) (g:Gm) (M:MemS) (h:p M):p (tkM g M):=runM_cl hp g _ M h
def undL (cs:List Int) (es:List (Int × Int)):List Int:=es.foldr (λ e c=>c.set e.1.toNat e.2) cs
structure UndP (c:List Int) (M:MemS):Prop where
 und:undL M.cs M.lg=c
 len:M.cs.length=c.length
 ent:∀ e ∈ M.lg,0 <= e.1 /\ e.1 < (c.length:Int)
theorem UndP.set {c:List Int} (M:MemS) (i v:Int) (h:UndP c M):UndP c (M.set i v):=by
 unfold MemS.set
 split
 ·next hi =>
  have hl:=h.len
  refine ⟨?_,by show (M.cs.set _ _).length=_;rw [List.length_set];exact hl,?_⟩
  ·show undL (M.cs.set _ _) (M.lg++[_])=c
   unfold undL
   rw [List.foldr_append]
   show M.lg.foldr _ ((M.cs.set i.toNat v).set i.toNat (M.cs.getD i.toNat 0))=c
   have e:(M.cs.set i.toNat v).set i.toNat (M.cs.getD i.toNat 0)=M.cs:=by
    rw [List.set_set]
    apply List.ext_getElem?
    intro k
    rw [List.getElem?_set]
    split
    ·next e=>subst e;rw [if_pos (by omega),List.getD_eq_getElem?_getD,List.getElem?_eq_getElem (by omega)];rfl
    ·rfl
   rw [e]
   exact h.und
  ·intro e he
   rcases List.mem_append.1 he with he | he
   ·exact h.ent e he
   ·rw [List.mem_singleton] at he
    subst he
    exact ⟨by omega,by show i < _;omega⟩
 ·exact h
theorem UndP.start (c:List Int) (b:Int):UndP c ⟨c,[],b⟩:=⟨rfl,rfl,λ _ h=>by cases h⟩
theorem tk_und (g:Gm) (M:MemS):∃ es,(tkM g M).lg=M.lg++es /\ (tkM g M).base=M.base /\ UndP M.cs ⟨(tkM g M).cs,es,0⟩:=by
 have h:=tkM_cl (p:=UndP M.cs) UndP.set g ⟨M.cs,[],0⟩ (UndP.start M.cs 0)
 have e:tkM g M=(tkM g ⟨M.cs,[],0⟩).sh M.lg M.base:=by rw [<- tkM_sh,sh_eta]
 rw [e]
 refine ⟨(tkM g ⟨M.cs,[],0⟩).lg,rfl,rfl,?_⟩
 exact ⟨h.und,h.len,h.ent⟩
def cpy (cs:List Int) (i:Nat):List Int:=cs.take i++List.replicate (cs.length - i) 0
theorem zrow_irow (n:Nat):zrow [vI 0]=irow (List.replicate n 0):=by
 funext i k
 rcases k with _ | k
 ·have:(List.replicate n (0:Int)).getD i 0=0:=by
   rw [List.getD_eq_getElem?_getD,List.getElem?_replicate];split <;> rfl
  show vI 0=vI _
  rw [this]
 ·simp [zrow,irow]
theorem cpy_zero (cs:List Int):zrow [vI 0]=irow (cpy cs 0):=by rw [zrow_irow cs.length];simp [cpy]
theorem cpy_end (cs:List Int):cpy cs cs.length=cs:=by simp [cpy]
theorem cpy_next {cs:List Int} {i:Nat} (h:i < cs.length):updG (irow (cpy cs i)) i 0 (vI (cs.getD i 0))=irow (cpy cs (i+1)):=by
 rw [irow_set (by simp [cpy];omega)]
 congr 1
 unfold cpy
 rw [List.set_append_right _ _ (by simp;omega)]
 have e:cs.length - i=(cs.length - (i+1))+1:=by omega
 rw [e,List.replicate_succ,List.take_succ_eq_append_getElem h,List.append_assoc]
 simp [List.length_take,Nat.min_eq_left (Nat.le_of_lt h),h]
theorem MemH.len {mb:Nat} {M:MemS} {k:Nat} {T:HL} (h:MemH mb M k T):M.cs.length <= 1000000:=by
 cases h with
 | mk cb A cap Hl hs hc hl=>exact hc
theorem len_mem (mb cb n:Nat) (A:Option Addr) (m cap:Nat) (base:Int) (F:HL) (hm:(mb,.lit [vS cb 0 n n,.slice A m cap,vI base] 125 (0,0)) ∈ F):Sp Tryz.prog 49 #[vP mb 0] [] F (λ u H'=>u=vI (n:Int) /\ H'=[]):=by
 refine Sp.run Tryz.func49 rfl (mc hm mn) (A:=[]) (Ts:=[]) rfl λ w0=>?_
 refine RN.go 15 [.ro 0] λ _=>?_
 exact RN.ret [] [] [] ⟨rfl,rfl⟩
theorem len_any {mb:Nat} {M:MemS} {k:Nat} {T:HL} {F:HL} (h:MemH mb M k T) (hs:∀ x ∈ T,x ∈ F):Sp Tryz.prog 49 #[vP mb 0] [] F (λ u H'=>u=vI (M.cs.length:Int) /\ H'=[]):=by
 cases h with
 | mk cb A cap Hl hsl hc hl=>exact len_mem mb cb M.cs.length A M.lg.length cap M.base F (hs _ (by simp))
theorem get_nat {M:MemS} {i:Nat} (h:i < M.cs.length):M.get (i:Int)=M.cs.getD i 0:=by
 unfold MemS.get
 rw [if_pos (by omega),Int.toNat_natCast]
theorem cells_any (mb:Nat) (M:MemS) (k:Nat) (T F:HL) (hM:MemH mb M k T) (hT:∀ x ∈ T,x ∈ F):Sp Tryz.prog 14 #[vP mb 0] [] F (λ u H'=>∃ q,H'=ap [(q,.rows 1 M.cs.length (irow M.cs) 3 (0,0))] [] /\ u=vS q 0 M.cs.length M.cs.length):=by
 have hl:=hM.len
 refine Sp.run Tryz.func14 rfl mn (A:=[]) (Ts:=[]) rfl λ w0=>?_
 refine RN.go 8 [] λ _=>RN.cp (len_any hM (λ x hx=>List.mem_append_right _ (hT x hx)))<|RN.goP 8 [.mk M.cs.length M.cs.length] [(M.cs.length:Int)=((M.cs.length:Nat):Int) /\ (M.cs.length:Int)=((M.cs.length:Nat):Int) /\ M.cs.length <= M.cs.length /\ 8 * M.cs.length <= 140737488355328 /\ 1=1 /\ M.cs.length <= 9223372036854775807] λ n1=>RN.cp (len_any hM (λ x hx=>List.mem_append_right _ (hT x hx)))<|RN.go 4 [] λ _=>RN.bv 0 (congrArg (λ v_=>(.rows 1 M.cs.length v_ 3 (0,0):Blk)) (show (zrow [vI 0])=(irow (cpy M.cs 0)) from (by rw [cpy_zero M.cs])))<|RN.loop (σ:=Nat) (λ i=>⟨[(0,vP mb 0),(3,vS (n1+0) 0 M.cs.length M.cs.length),(9,vI (M.cs.length:Int)),(10,vI (i:Int))],[((n1+0),.rows 1 M.cs.length (irow (cpy M.cs i)) 3 (0,0))],[],i <= M.cs.length,M.cs.length - i⟩) 0 [0] [] (Nat.zero_le _) ?_
 rintro i hI2 mt3
 refine RN.go 6 [] λ _=>RN.em ((i:Int) < (M.cs.length:Int)) 11 (λ h4=>?_) λ h4=>?_
 ·refine RN.go 16 [] λ _=>RN.cp (get_any (i:Int) hM (λ x hx=>List.mem_append_right _ (hT x hx)))<|RN.goP 9 [.ix i,.row 0 i 0,.nw] [I64 ((i:Int)+1),(0+i * 1)=i * 1+0 /\ i < M.cs.length,(i:Int)=((i:Nat):Int) /\ i < M.cs.length] λ _=>RN.bv 0 (congrArg (λ v_=>(.rows 1 M.cs.length v_ 3 (0,0):Blk)) (show (updG (irow (cpy M.cs i)) i 0 (vI (M.get (i:Int))))=(irow (cpy M.cs (i+1))) from (by rw [<- cpy_next (cs:=M.cs) (i:=i) (by omega)];rw [get_nat (by omega)]))) ?_
  refine mt3 (i+1) [0] [] ?_
  try dsimp only
  exact ⟨by omega,by omega⟩
 ·refine RN.go 12 [] λ _=>RN.ret [] [0] [] (v:=vS (n1+0) 0 M.cs.length M.cs.length) (H':=[((n1+0),.rows 1 M.cs.length (irow (cpy M.cs i)) 3 (0,0))]) ?_
  have ei:i=M.cs.length:=by omega
  subst ei
  exact ⟨_,by rw [cpy_end];rfl,rfl⟩
theorem new_any (q:Nat) (cs:List Int) (k cap:Nat) (F:HL) (hq:(q,.rows 1 cs.length (irow cs) 3 (0,0)) ∈ F) (hc:cs.length <= 1000000) (hk:k <= 100000000) (hcap:cs.length <= cap):Sp Tryz.prog 76 #[vS q 0 cs.length cap] [] F (λ u H'=>∃ x:Nat × HL,H'=ap [] [x.2] /\ (u=vP x.1 0 /\ MemH x.1 ⟨cs,[],0⟩ k x.2)):=by
 refine Sp.run Tryz.func76 rfl (mc hq mn) (A:=[]) (Ts:=[]) rfl λ w0=>?_
 refine RN.goP 24 [.mk cs.length cs.length] [(cs.length:Int)=((cs.length:Nat):Int) /\ (cs.length:Int)=((cs.length:Nat):Int) /\ cs.length <= cs.length /\ 8 * cs.length <= 140737488355328 /\ 1=1 /\ cs.length <= 9223372036854775807] λ n1=>RN.bv 1 (congrArg (λ v_=>(.rows 1 cs.length v_ 3 (0,0):Blk)) (show (zrow [vI 0])=(irow (cpy cs 0)) from (by rw [cpy_zero cs])))<|RN.loop (σ:=Nat) (λ i=>⟨[(0,vS q 0 cs.length cap),(3,vP (n1+1) 0),(11,vI (cs.length:Int)),(12,vI (i:Int))],[((n1+1),.lit [vS (n1+0) 0 cs.length cs.length,.slice none 0 0,vI 0] 125 (0,0)),((n1+0),.rows 1 cs.length (irow (cpy cs i)) 3 (0,0))],[],i <= cs.length,cs.length - i⟩) 0 [0,1] [] (Nat.zero_le _) ?_
 rintro i hI2 mt3
 refine RN.go 6 [] λ _=>RN.em ((i:Int) < (cs.length:Int)) 13 (λ h4=>?_) λ h4=>?_
 ·refine RN.go 11 [] λ _=>RN.draw [10] []<|RD.goP [] [0,4,5,6,1,7,2,8,3,9] [.ix i,.rorow 0 i 0,.own 0,.ix i] [(i:Int)=((i:Nat):Int) /\ i < cs.length,(0+i * 1)=i * 1+0 /\ i < cs.length,(i:Int)=((i:Nat):Int) /\ i < cs.length]<|RD.one 10 (RDO.evP [] [.row 1 i 0] [(0+i * 1)=i * 1+0 /\ i < cs.length] λ _=>?_)
  refine RD.fin<|RN.goP 6 [.nw] [I64 ((i:Int)+1)] λ _=>RN.bv 1 (congrArg (λ v_=>(.rows 1 cs.length v_ 3 (0,0):Blk)) (show (updG (irow (cpy cs i)) i 0 (vI (cs.getD i 0)))=(irow (cpy cs (i+1))) from (by rw [<- cpy_next (cs:=cs) (i:=i) (by omega)]))) ?_
  refine mt3 (i+1) [0,1] [] ?_
  try dsimp only
  exact ⟨by omega,by omega⟩
 ·refine RN.go 12 [] λ _=>RN.ret [] [0,1] [] (v:=vP (n1+1) 0) (H':=[((n1+1),.lit [vS (n1+0) 0 cs.length cs.length,.slice none 0 0,vI 0] 125 (0,0)),((n1+0),.rows 1 cs.length (irow (cpy cs i)) 3 (0,0))]) ?_
  have ei:i=cs.length:=by omega
  subst ei
  rw [cpy_end]
  have hmm:=MemH.mk (mb:=(n1+1)) (M:=⟨cs,[],0⟩) (k:=k) (n1+0) none 0 [] (SlIs.nil _ _) hc (show ([]:List (Int × Int)).length+k <= 100000000 by simpa using hk)
  exact ⟨((n1+1),_),rfl,rfl,hmm⟩
def around (n most:Int):Int:=(if n < 0 then w64 (0 - w64 (n+1)) else n).tmod most
theorem around_any (n:Int) (most:Int) (h0:most ≠ 0) (F:HL):Sp Tryz.prog 10 #[vI n,vI most] [] F (λ u H'=>u=vI (around n most) /\ H'=[]):=by
 refine Sp.run Tryz.func10 rfl mn (A:=[]) (Ts:=[]) rfl λ w0=>?_
 refine RN.go 12 [] λ _=>RN.em (n < 0) 6 (λ h1=>?_) λ h1=>?_
 ·refine RN.goO 16 [.gen,.dv] (λ _=>[most ≠ 0]) (λ _=>(ac h0 an)) λ _=>RN.ret [] [] [] (v:=vI ((IntKind.i64.wrap (0 - (IntKind.i64.wrap (n+1)))).tmod most)) (H':=[]) ?_
  exact ⟨by unfold around;simp [*],rfl⟩
 ·refine RN.goO 11 [.dv] (λ _=>[most ≠ 0]) (λ _=>(ac h0 an)) λ _=>RN.ret [] [] [] (v:=vI (n.tmod most)) (H':=[]) ?_
  exact ⟨by unfold around;simp [*],rfl⟩
def shK (n:Int):Int:=around n 1000
def shR (n:Int):Int:=w64 (512 * w64 (1+(w64 ((shK n).tdiv 7)).tmod 5))
def shSq (r:Int):List V2:=[⟨w64 (0 - r),w64 (0 - r)⟩,⟨r,w64 (0 - r)⟩,⟨r,r⟩,⟨w64 (0 - r),r⟩]
def shTri (r:Int):List V2:=[⟨w64 (0 - r),w64 (0 - r)⟩,⟨r,w64 (0 - r)⟩,⟨0,r⟩]
def shBar (r:Int):List V2:=[⟨w64 (-2 * r),-300⟩,⟨w64 (2 * r),-300⟩,⟨w64 (2 * r),300⟩,⟨w64 (-2 * r),300⟩]
def shapeS (n:Int):Int × List V2:=if (shK n).tmod 7=0 then (shR n,[]) else if (shK n).tmod 7=1 then (shR n,[]) else if (shK n).tmod 7=2 then (shR n,[]) else if (shK n).tmod 7=3 then (0,shSq (shR n)) else if (shK n).tmod 7=4 then (0,shSq (shR n)) else if (shK n).tmod 7=5 then (0,shTri (shR n)) else (0,shBar (shR n))
def ShH (s:Shp) (T:HL):Prop:=∀ F,(∀ x ∈ T,x ∈ F) -> ShIn F s
theorem ShH.circle (r:Int) (A:Option Addr) (cap:Nat):ShH ⟨r,[],A,cap⟩ []:=λ F _=>.circle r A cap
theorem ShH.poly (r:Int) (l:List V2) (b cap:Nat) (h3:3 <= l.length) (h4:l.length <= cap) (h5:l.length <= 1000000):ShH ⟨r,l,some ⟨b,0,none⟩,cap⟩ [(b,.rows 2 cap (vrow l) 29 (0,0))]:=λ F h=>.poly r l b cap (h _ (by simp)) h3 h4 h5
theorem shapeOf_any (n:Int) (F:HL):Sp Tryz.prog 36 #[vI n] [] F (λ u H'=>∃ x:Option Addr × Nat × HL,H'=ap [] [x.2.2] /\ (u=shV ⟨(shapeS n).1,(shapeS n).2,x.1,x.2.1⟩ /\ ShH ⟨(shapeS n).1,(shapeS n).2,x.1,x.2.1⟩ x.2.2)):=by
 refine Sp.run Tryz.func36 rfl mn (A:=[]) (Ts:=[]) rfl λ w0=>?_
 refine RN.go 8 [] λ n1=>RN.cp (around_any n 1000 (by decide) _)<|RN.go 28 [] λ _=>RN.em ((shK n).tmod 7=0) 14 (λ h2=>?_) λ h2=>?_
 ·refine RN.go 11 [.own 0,.own 0] λ _=>RN.ret [.own 0,.own 0] [] [] (v:=.agg #[vI (IntKind.i64.wrap (512 * (IntKind.i64.wrap (1+((IntKind.i64.wrap ((shK n).tdiv 7)).tmod 5))))),.slice none 0 0]) (H':=[]) ?_
  have e:shapeS n=(shR n,[]):=by simp only [shapeS,if_pos h2]
  rw [e]
  exact ⟨(none,0,[]),rfl,rfl,ShH.circle _ _ _⟩
 ·refine RN.go 7 [] λ _=>RN.em ((shK n).tmod 7=1) 14 (λ h3=>?_) λ h3=>?_
  ·refine RN.go 11 [.own 0,.own 0] λ _=>RN.ret [.own 0,.own 0] [] [] (v:=.agg #[vI (IntKind.i64.wrap (512 * (IntKind.i64.wrap (1+((IntKind.i64.wrap ((shK n).tdiv 7)).tmod 5))))),.slice none 0 0]) (H':=[]) ?_
   have e:shapeS n=(shR n,[]):=by simp only [shapeS,if_neg h2,if_pos h3]
   rw [e]
   exact ⟨(none,0,[]),rfl,rfl,ShH.circle _ _ _⟩
  ·refine RN.go 6 [] λ _=>RN.em ((shK n).tmod 7=2) 14 (λ h4=>?_) λ h4=>?_
   ·refine RN.go 8 [.own 0,.own 0] λ _=>RN.ret [.own 0,.own 0] [] [] (v:=.agg #[vI (IntKind.i64.wrap (512 * (IntKind.i64.wrap (1+((IntKind.i64.wrap ((shK n).tdiv 7)).tmod 5))))),.slice none 0 0]) (H':=[]) ?_
    have e:shapeS n=(shR n,[]):=by simp only [shapeS,if_neg h2,if_neg h3,if_pos h4]
    rw [e]
    exact ⟨(none,0,[]),rfl,rfl,ShH.circle _ _ _⟩
   ·refine RN.go 8 [] λ _=>RN.em ((shK n).tmod 7=3) 20 (λ h5=>?_) λ h5=>?_
    ·refine RN.go 27 [.own 1,.own 1] λ n6=>RN.dn 0 (.rows 2 4 (vrow (shSq (shR n))) 29 (0,0))<|RN.ret [.own 1,.own 1] [0] [] (v:=.agg #[vI 0,vS (n6+0) 0 4 4]) (H':=[((n6+0),.rows 2 4 (vrow (shSq (shR n))) 29 (0,0))]) ?_
     have e:shapeS n=(0,shSq (shR n)):=by simp only [shapeS,if_neg h2,if_neg h3,if_neg h4,if_pos h5]
     rw [e]
     exact ⟨(some ⟨(n6+0),0,none⟩,4,_),rfl,rfl,ShH.poly 0 (shSq (shR n)) (n6+0) 4 (Nat.le_of_ble_eq_true rfl) (Nat.le_of_ble_eq_true rfl) (Nat.le_of_ble_eq_true rfl)⟩
    ·refine RN.go 6 [] λ _=>RN.em ((shK n).tmod 7=4) 20 (λ h7=>?_) λ h7=>?_
     ·refine RN.go 24 [.own 1,.own 1] λ n8=>RN.dn 0 (.rows 2 4 (vrow (shSq (shR n))) 29 (0,0))<|RN.ret [.own 1,.own 1] [0] [] (v:=.agg #[vI 0,vS (n8+0) 0 4 4]) (H':=[((n8+0),.rows 2 4 (vrow (shSq (shR n))) 29 (0,0))]) ?_
      have e:shapeS n=(0,shSq (shR n)):=by simp only [shapeS,if_neg h2,if_neg h3,if_neg h4,if_neg h5,if_pos h7]
      rw [e]
      exact ⟨(some ⟨(n8+0),0,none⟩,4,_),rfl,rfl,ShH.poly 0 (shSq (shR n)) (n8+0) 4 (Nat.le_of_ble_eq_true rfl) (Nat.le_of_ble_eq_true rfl) (Nat.le_of_ble_eq_true rfl)⟩
     ·refine RN.go 7 [] λ _=>RN.em ((shK n).tmod 7=5) 41 (λ h9=>?_) λ h9=>?_
      ·refine RN.go 19 [.own 1,.own 1] λ n10=>RN.dn 0 (.rows 2 3 (vrow (shTri (shR n))) 29 (0,0))<|RN.ret [.own 1,.own 1] [0] [] (v:=.agg #[vI 0,vS (n10+0) 0 3 3]) (H':=[((n10+0),.rows 2 3 (vrow (shTri (shR n))) 29 (0,0))]) ?_
       have e:shapeS n=(0,shTri (shR n)):=by simp only [shapeS,if_neg h2,if_neg h3,if_neg h4,if_neg h5,if_neg h7,if_pos h9]
       rw [e]
       exact ⟨(some ⟨(n10+0),0,none⟩,3,_),rfl,rfl,ShH.poly 0 (shTri (shR n)) (n10+0) 3 (Nat.le_of_ble_eq_true rfl) (Nat.le_of_ble_eq_true rfl) (Nat.le_of_ble_eq_true rfl)⟩
      ·refine RN.go 23 [.own 1,.own 1] λ n11=>RN.dn 0 (.rows 2 4 (vrow (shBar (shR n))) 29 (0,0))<|RN.ret [.own 1,.own 1] [0] [] (v:=.agg #[vI 0,vS (n11+0) 0 4 4]) (H':=[((n11+0),.rows 2 4 (vrow (shBar (shR n))) 29 (0,0))]) ?_
       have e:shapeS n=(0,shBar (shR n)):=by simp only [shapeS,if_neg h2,if_neg h3,if_neg h4,if_neg h5,if_neg h7,if_neg h9]
       rw [e]
       exact ⟨(some ⟨(n11+0),0,none⟩,4,_),rfl,rfl,ShH.poly 0 (shBar (shR n)) (n11+0) 4 (Nat.le_of_ble_eq_true rfl) (Nat.le_of_ble_eq_true rfl) (Nat.le_of_ble_eq_true rfl)⟩
theorem bodyAt_in {S:Setup} (h:SetN S) {i:Nat} (hi:i < S.nb):0 <= bodyAt S i /\ bodyAt S i+8 <= sizeOf S /\ sizeOf S <= 20000000:=by
 have:=h.pl
 have:=h.nb
 unfold bodyAt sizeOf
 rw [if_neg (by omega),if_neg (by omega)]
 omega
theorem sizeOf_bd {S:Setup} (h:SetN S):48 <= sizeOf S /\ sizeOf S <= 20000000:=by
 have:=h.pl
 have:=h.nb
 unfold sizeOf
 omega
def iniL (S:Setup):Nat -> List Int
 | 0=>List.replicate (sizeOf S).toNat 0
 | i+1=>((((((iniL S i).set (bodyAt S i).toNat (S.body i).mot.px).set (bodyAt S i+1).toNat (S.body i).mot.py).set (bodyAt S i+2).toNat (S.body i).mot.vx).set (bodyAt S i+3).toNat (S.body i).mot.vy).set (bodyAt S i+4).toNat (S.body i).a).set (bodyAt S i+5).toNat (S.body i).b
theorem iniL_len (S:Setup):∀ i,(iniL S i).length=(sizeOf S).toNat
 | 0=>by simp [iniL]
 | i+1=>by simp [iniL,iniL_len S i]
theorem iniL_next {S:Setup} (h:SetN S) {i:Nat} (hi:i < S.nb):updG (updG (updG (updG (updG (updG (irow (iniL S i)) (bodyAt S i).toNat 0 (vI (S.body i).mot.px)) (bodyAt S i+1).toNat 0 (vI (S.body i).mot.py)) (bodyAt S i+2).toNat 0 (vI (S.body i).mot.vx)) (bodyAt S i+3).toNat 0 (vI (S.body i).mot.vy)) (bodyAt S i+4).toNat 0 (vI (S.body i).a)) (bodyAt S i+5).toNat 0 (vI (S.body i).b)=irow (iniL S (i+1)):=by
 have:=bodyAt_in h hi
 rw [irow_set,irow_set,irow_set,irow_set,irow_set,irow_set,iniL] <;> (simp only [List.length_set,iniL_len];omega)
open Go.Shelf
section
variable {r:Option Nat} {P:Program} {N:Nat} {D:List Deferred} {F:HL} {w0:World} {R:HL} {s:Cfg} {Q:Exit -> Act -> World -> Prop}
variable {α:Type} {e:Enc α} {T:TypeId} {inf:TypeInfo} {z:Value}
def appKS (P:Program) (N j:Nat) (oo:Option Oper) (s:Cfg):Option (Option Addr × Nat × Nat × TypeId × Option Addr × Nat × Nat × TypeId × HL):=match oo with
  | some o=>match appV P o s.L,s.Ts[j]?,([j]++oth [j] s.Ts.length).isPerm (List.range s.Ts.length) && (putL N o.dst undef s.L).isSome with
    | some (A,n,cap,T,B,m,c',tx),some Hl,true=>some (A,n,cap,T,B,m,c',tx,Hl)
    | _,_,_=>none
  | none=>none
theorem appKS_spec {j:Nat} {oo:Option Oper} {A:Option Addr} {n cap m c':Nat} {B:Option Addr} {tx:TypeId} {Hl:HL} (h:appKS P N j oo s=some (A,n,cap,T,B,m,c',tx,Hl)) :
    ∃ o a1 a2 t e',oo=some o /\ o.guard=none /\ o.op=.call { callee:=.builtin .append,args:=#[a1,a2],argTypes:=#[t,tx] } /\ (inL s.L a1 && inL s.L a2)=true /\ rho s.L a1=.slice A n cap /\ rho s.L a2=.slice B m c' /\ P.underlying t=some (.slice T) /\ P.underlying tx=some (.slice e') /\
      s.Ts[j]?=some Hl /\ ([j]++oth [j] s.Ts.length).isPerm (List.range s.Ts.length)=true /\ (putL N o.dst undef s.L).isSome=true:=by
  unfold appKS at h
  split at h
  case h_2=>cases h
  rename_i o
  split at h
  case h_2=>cases h
  rename_i A' n' cap' T' B' m' c2 tx' Hl' h1 h3 h4
  simp only [Option.some.injEq,Prod.mk.injEq] at h
  obtain ⟨e1,e2,e3,e4,e5,e6,e7,e8,e9⟩:=h
  subst e1;subst e2;subst e3;subst e4;subst e5;subst e6;subst e7;subst e8;subst e9
  obtain ⟨a1,a2,t,e',q1,q2,q3,q4,q5,q6,q7⟩:=appV_spec h1
  rw [Bool.and_eq_true] at h4
  exact ⟨o,a1,a2,t,e',rfl,q1,q2,q3,q4,q5,q6,q7,h3,h4.1,h4.2⟩
end
end Go.Proofs.YtcfajdgeejeieaaGreatDoor
