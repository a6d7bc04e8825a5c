import Derived.Test.YtghjbimijeinfaaGreatDoorW18
import Derived.Test.YtghjbimijeinfaaGreatDoorW08
set_option maxHeartbeats 4000000
set_option maxRecDepth 100000
set_option linter.unusedSimpArgs false
set_option linter.unusedVariables false
namespace Go.Proofs.YtghjbimijeinfaaGreatDoor
open Go.RowKit
def MemS.sh (M:MemS) (l:List (Int × Int)) (b:Int):MemS:=⟨M.cs,l++M.lg,b⟩
def VR.sh (r:VR) (l:List (Int × Int)) (b:Int):VR:={ r with M:=r.M.sh l b }
theorem sh_get (M:MemS) (l:List (Int × Int)) (b i:Int):(M.sh l b).get i=M.get i:=rfl
theorem sh_set (M:MemS) (l:List (Int × Int)) (b i v:Int):(M.sh l b).set i v=(M.set i v).sh l b:=by
 unfold MemS.set MemS.sh
 dsimp only
 split
 ·simp
 ·rfl
theorem sh_ite (M N:MemS) (l:List (Int × Int)) (b:Int) (c:Prop) [Decidable c]:(if c then M.sh l b else N.sh l b)=(if c then M else N).sh l b:=by split <;> rfl
theorem vsh_ite (M N:VR) (l:List (Int × Int)) (b:Int) (c:Prop) [Decidable c]:(if c then M.sh l b else N.sh l b)=(if c then M else N).sh l b:=by split <;> rfl
theorem vsh_mk (M:MemS) (l:List (Int × Int)) (b v:Int) (e:Eff) (em:Bool):(⟨M.sh l b,v,e,em⟩:VR)=VR.sh ⟨M,v,e,em⟩ l b:=rfl
theorem codeA_sh (code:List Ins) (M:MemS) (l:List (Int × Int)) (b:Int):codeA code (M.sh l b)=codeA code M:=rfl
theorem vsh_z (r:VR) (l:List (Int × Int)) (b:Int):(r.sh l b).z=r.z.sh l b:=rfl
theorem vsh_M (r:VR) (l:List (Int × Int)) (b:Int):(r.sh l b).M=r.M.sh l b:=rfl
theorem vsh_v (r:VR) (l:List (Int × Int)) (b:Int):(r.sh l b).v=r.v:=rfl
theorem vsh_e (r:VR) (l:List (Int × Int)) (b:Int):(r.sh l b).e=r.e:=rfl
theorem vsh_em (r:VR) (l:List (Int × Int)) (b:Int):(r.sh l b).em=r.em:=rfl
theorem motM_sh (S:Setup) (M:MemS) (k:Int) (l_:List (Int × Int)) (b_:Int):motM S (M.sh l_ b_) k=motM S M k:=by
 unfold motM
 simp only [sh_get,sh_set,sh_ite,vsh_ite,vsh_mk,vsh_M,vsh_v,vsh_e,vsh_em,codeA_sh,vsh_z] <;> rfl
theorem beginM_sh (t:Stp) (ph j:Int) (M:MemS) (l_:List (Int × Int)) (b_:Int):beginM t ph j (M.sh l_ b_)=(beginM t ph j M).sh l_ b_:=by
 unfold beginM
 simp only [sh_get,sh_set,sh_ite,vsh_ite,vsh_mk,vsh_M,vsh_v,vsh_e,vsh_em,codeA_sh,vsh_z] <;> rfl
theorem setMotM_sh (t:Stp) (k:Int) (m:Mot) (M:MemS) (l_:List (Int × Int)) (b_:Int):setMotM t k m (M.sh l_ b_)=(setMotM t k m M).sh l_ b_:=by
 unfold setMotM
 simp only [sh_get,sh_set,sh_ite,vsh_ite,vsh_mk,vsh_M,vsh_v,vsh_e,vsh_em,codeA_sh,vsh_z] <;> rfl
theorem placeM_sh (t:Stp) (c sp pos lo hi:Int) (M:MemS) (l_:List (Int × Int)) (b_:Int):placeM t c sp pos lo hi (M.sh l_ b_)=(placeM t c sp pos lo hi M).sh l_ b_:=by
 unfold placeM
 simp only [sh_get,sh_set,sh_ite,vsh_ite,vsh_mk,vsh_M,vsh_v,vsh_e,vsh_em,codeA_sh,vsh_z] <;> rfl
theorem inputA_sh (t:Stp) (M:MemS) (l_:List (Int × Int)) (b_:Int):inputA t (M.sh l_ b_)=(inputA t M).sh l_ b_:=by
 unfold inputA
 simp only [sh_get,sh_set,sh_ite,vsh_ite,vsh_mk,vsh_M,vsh_v,vsh_e,vsh_em,codeA_sh,vsh_z] <;> rfl
theorem inputB_sh (t:Stp) (M:MemS) (l_:List (Int × Int)) (b_:Int):inputB t (M.sh l_ b_)=(inputB t M).sh l_ b_:=by
 unfold inputB
 simp only [sh_get,sh_set,sh_ite,vsh_ite,vsh_mk,vsh_M,vsh_v,vsh_e,vsh_em,codeA_sh,vsh_z] <;> rfl
theorem inputC_sh (t:Stp) (M:MemS) (l_:List (Int × Int)) (b_:Int):inputC t (M.sh l_ b_)=(inputC t M).sh l_ b_:=by
 unfold inputC
 simp only [sh_get,sh_set,sh_ite,vsh_ite,vsh_mk,vsh_M,vsh_v,vsh_e,vsh_em,codeA_sh,vsh_z,beginM_sh] <;> rfl
theorem inputM_sh (t:Stp) (M:MemS) (l_:List (Int × Int)) (b_:Int):inputM t (M.sh l_ b_)=(inputM t M).sh l_ b_:=by
 unfold inputM
 simp only [sh_get,sh_set,sh_ite,vsh_ite,vsh_mk,vsh_M,vsh_v,vsh_e,vsh_em,codeA_sh,vsh_z,inputA_sh,inputB_sh,inputC_sh] <;> rfl
theorem restA_sh (t:Stp) (M:MemS) (l_:List (Int × Int)) (b_:Int):restA t (M.sh l_ b_)=(restA t M).sh l_ b_:=by
 unfold restA
 simp only [sh_get,sh_set,sh_ite,vsh_ite,vsh_mk,vsh_M,vsh_v,vsh_e,vsh_em,codeA_sh,vsh_z] <;> rfl
theorem zeroTo_sh (M:MemS) (l_:List (Int × Int)) (b_:Int):∀ n,zeroTo (M.sh l_ b_) n=(zeroTo M n).sh l_ b_
 | 0=>rfl
 | n+1=>by rw [zeroTo,zeroTo,zeroTo_sh M l_ b_ n,sh_set]
theorem restC_sh (t:Stp) (M:MemS) (l_:List (Int × Int)) (b_:Int):restC t (M.sh l_ b_)=(restC t M).sh l_ b_:=by
 unfold restC
 simp only [sh_get,sh_set,sh_ite,vsh_ite,vsh_mk,vsh_M,vsh_v,vsh_e,vsh_em,codeA_sh,vsh_z,zeroTo_sh] <;> rfl
theorem restM_sh (t:Stp) (M:MemS) (l_:List (Int × Int)) (b_:Int):restM t (M.sh l_ b_)=(restM t M).sh l_ b_:=by
 unfold restM
 simp only [sh_get,sh_set,sh_ite,vsh_ite,vsh_mk,vsh_M,vsh_v,vsh_e,vsh_em,codeA_sh,vsh_z,restA_sh,restC_sh] <;> rfl
theorem forceV_sh (t:Stp) (M:MemS) (l_:List (Int × Int)) (b_:Int):forceV t (M.sh l_ b_)=forceV t M:=by
 unfold forceV
 simp only [sh_get,sh_set,sh_ite,vsh_ite,vsh_mk,vsh_M,vsh_v,vsh_e,vsh_em,codeA_sh,vsh_z,motM_sh] <;> rfl
theorem forceA_sh (t:Stp) (M:MemS) (l_:List (Int × Int)) (b_:Int):forceA t (M.sh l_ b_)=(forceA t M).sh l_ b_:=by
 unfold forceA
 simp only [sh_get,sh_set,sh_ite,vsh_ite,vsh_mk,vsh_M,vsh_v,vsh_e,vsh_em,codeA_sh,vsh_z] <;> rfl
theorem forceB_sh (t:Stp) (M:MemS) (l_:List (Int × Int)) (b_:Int):forceB t (M.sh l_ b_)=(forceB t M).sh l_ b_:=by
 unfold forceB
 simp only [sh_get,sh_set,sh_ite,vsh_ite,vsh_mk,vsh_M,vsh_v,vsh_e,vsh_em,codeA_sh,vsh_z,forceV_sh] <;> rfl
theorem forceC_sh (t:Stp) (M:MemS) (l_:List (Int × Int)) (b_:Int):forceC t (M.sh l_ b_)=(forceC t M).sh l_ b_:=by
 unfold forceC
 simp only [sh_get,sh_set,sh_ite,vsh_ite,vsh_mk,vsh_M,vsh_v,vsh_e,vsh_em,codeA_sh,vsh_z,beginM_sh] <;> rfl
theorem forceM_sh (t:Stp) (M:MemS) (l_:List (Int × Int)) (b_:Int):forceM t (M.sh l_ b_)=(forceM t M).sh l_ b_:=by
 unfold forceM
 simp only [sh_get,sh_set,sh_ite,vsh_ite,vsh_mk,vsh_M,vsh_v,vsh_e,vsh_em,codeA_sh,vsh_z,forceA_sh,forceB_sh,forceC_sh] <;> rfl
theorem travelF_sh (M:MemS) (l_:List (Int × Int)) (b_:Int):travelF (M.sh l_ b_)=travelF M:=by
 unfold travelF
 simp only [sh_get,sh_set,sh_ite,vsh_ite,vsh_mk,vsh_M,vsh_v,vsh_e,vsh_em,codeA_sh,vsh_z] <;> rfl
theorem travelP_sh (t:Stp) (M:MemS) (l_:List (Int × Int)) (b_:Int):travelP t (M.sh l_ b_)=travelP t M:=by
 unfold travelP
 simp only [sh_get,sh_set,sh_ite,vsh_ite,vsh_mk,vsh_M,vsh_v,vsh_e,vsh_em,codeA_sh,vsh_z,motM_sh,travelF_sh] <;> rfl
theorem travelM_sh (t:Stp) (M:MemS) (l_:List (Int × Int)) (b_:Int):travelM t (M.sh l_ b_)=(travelM t M).sh l_ b_:=by
 unfold travelM
 simp only [sh_get,sh_set,sh_ite,vsh_ite,vsh_mk,vsh_M,vsh_v,vsh_e,vsh_em,codeA_sh,vsh_z,placeM_sh,travelP_sh] <;> rfl
theorem emitV_sh (k v:Int) (M:MemS) (l_:List (Int × Int)) (b_:Int):emitV k v (M.sh l_ b_)=(emitV k v M).sh l_ b_:=by
 unfold emitV
 simp only [sh_get,sh_set,sh_ite,vsh_ite,vsh_mk,vsh_M,vsh_v,vsh_e,vsh_em,codeA_sh,vsh_z] <;> rfl
theorem execV_sh (S:Setup) (op n a b:Int) (M:MemS) (l_:List (Int × Int)) (b_:Int):execV S op n a b (M.sh l_ b_)=(execV S op n a b M).sh l_ b_:=by
 unfold execV
 simp only [sh_get,sh_set,sh_ite,vsh_ite,vsh_mk,vsh_M,vsh_v,vsh_e,vsh_em,codeA_sh,vsh_z,emitV_sh] <;> rfl
theorem popA_sh (op sp:Int) (M:MemS) (l_:List (Int × Int)) (b_:Int):popA op sp (M.sh l_ b_)=popA op sp M:=by
 unfold popA
 simp only [sh_get,sh_set,sh_ite,vsh_ite,vsh_mk,vsh_M,vsh_v,vsh_e,vsh_em,codeA_sh,vsh_z] <;> rfl
theorem popB_sh (op sp:Int) (M:MemS) (l_:List (Int × Int)) (b_:Int):popB op sp (M.sh l_ b_)=popB op sp M:=by
 unfold popB
 simp only [sh_get,sh_set,sh_ite,vsh_ite,vsh_mk,vsh_M,vsh_v,vsh_e,vsh_em,codeA_sh,vsh_z] <;> rfl
theorem memP_sh (op sp pc fuel:Int) (M:MemS) (l_:List (Int × Int)) (b_:Int):memP op sp pc fuel (M.sh l_ b_)=(memP op sp pc fuel M).sh l_ b_:=by
 unfold memP
 simp only [sh_get,sh_set,sh_ite,vsh_ite,vsh_mk,vsh_M,vsh_v,vsh_e,vsh_em,codeA_sh,vsh_z] <;> rfl
theorem stepI_sh (S:Setup) (op n sp pc fuel:Int) (M:MemS) (l_:List (Int × Int)) (b_:Int):stepI S op n sp pc fuel (M.sh l_ b_)=(stepI S op n sp pc fuel M).sh l_ b_:=by
 unfold stepI
 simp only [sh_get,sh_set,sh_ite,vsh_ite,vsh_mk,vsh_M,vsh_v,vsh_e,vsh_em,codeA_sh,vsh_z,execV_sh,popA_sh,popB_sh,memP_sh] <;> rfl
theorem runsV_sh (code:List Ins) (n:Nat) (M:MemS) (l_:List (Int × Int)) (b_:Int):(runsV code n (M.sh l_ b_))=(runsV code n M):=by
 unfold runsV
 simp only [sh_get,sh_set,sh_ite,vsh_ite,vsh_mk,vsh_M,vsh_v,vsh_e,vsh_em,codeA_sh,vsh_z] <;> rfl
theorem pushV_sh (op sp:Int) (r:VR) (l_:List (Int × Int)) (b_:Int):pushV op sp (r.sh l_ b_)=(pushV op sp r).sh l_ b_:=by
 unfold pushV
 simp only [sh_get,sh_set,sh_ite,vsh_ite,vsh_mk,vsh_M,vsh_v,vsh_e,vsh_em,codeA_sh,vsh_z] <;> rfl
theorem stepV_sh (S:Setup) (code:List Ins) (n:Nat) (M:MemS) (l_:List (Int × Int)) (b_:Int):stepV S code n (M.sh l_ b_)=(stepV S code n M).sh l_ b_:=by
 unfold stepV
 simp only [sh_get,sh_set,sh_ite,vsh_ite,vsh_mk,vsh_M,vsh_v,vsh_e,vsh_em,codeA_sh,vsh_z,stepI_sh,runsV_sh,pushV_sh] <;> rfl
theorem endV_sh (code:List Ins) (n:Nat) (M:MemS) (l_:List (Int × Int)) (b_:Int):endV code n (M.sh l_ b_)=endV code n M:=by
 unfold endV
 simp only [sh_get,sh_set,sh_ite,vsh_ite,vsh_mk,vsh_M,vsh_v,vsh_e,vsh_em,codeA_sh,vsh_z,runsV_sh] <;> rfl
theorem startV_sh (e fuel self other:Int) (M:MemS) (l_:List (Int × Int)) (b_:Int):startV e fuel self other (M.sh l_ b_)=(startV e fuel self other M).sh l_ b_:=by
 unfold startV
 simp only [sh_get,sh_set,sh_ite,vsh_ite,vsh_mk,vsh_M,vsh_v,vsh_e,vsh_em,codeA_sh,vsh_z] <;> rfl
theorem runV_sh (e:Int) (t:Stp) (self other:Int) (M:MemS) (l_:List (Int × Int)) (b_:Int):runV e t self other (M.sh l_ b_)=(runV e t self other M).sh l_ b_:=by
 unfold runV
 simp only [sh_get,sh_set,sh_ite,vsh_ite,vsh_mk,vsh_M,vsh_v,vsh_e,vsh_em,codeA_sh,vsh_z,stepV_sh,startV_sh] <;> rfl
theorem runE_sh (e:Int) (t:Stp) (self other:Int) (M:MemS) (l_:List (Int × Int)) (b_:Int):runE e t self other (M.sh l_ b_)=runE e t self other M:=by
 unfold runE
 simp only [sh_get,sh_set,sh_ite,vsh_ite,vsh_mk,vsh_M,vsh_v,vsh_e,vsh_em,codeA_sh,vsh_z,endV_sh] <;> rfl
theorem turnV_sh (r:VR) (over:Bool) (t:Stp) (cause:Bool) (M:MemS) (l_:List (Int × Int)) (b_:Int):turnV (r.sh l_ b_) over t cause (M.sh l_ b_)=(turnV r over t cause M).sh l_ b_:=by
 unfold turnV
 simp only [sh_get,sh_set,sh_ite,vsh_ite,vsh_mk,vsh_M,vsh_v,vsh_e,vsh_em,codeA_sh,vsh_z] <;> rfl
theorem turn0_sh (t:Stp) (o:Int) (c:Bool) (M:MemS) (l_:List (Int × Int)) (b_:Int):turn0 t o c (M.sh l_ b_)=(turn0 t o c M).sh l_ b_:=by
 unfold turn0 run0 end0
 rw [runV_sh,runE_sh,turnV_sh]
theorem turn2_sh (t:Stp) (o:Int) (c:Bool) (M:MemS) (l_:List (Int × Int)) (b_:Int):turn2 t o c (M.sh l_ b_)=(turn2 t o c M).sh l_ b_:=by
 unfold turn2 run2 end2
 rw [runV_sh,runE_sh,turnV_sh]
theorem actV_sh (t:Stp) (M:MemS) (l_:List (Int × Int)) (b_:Int):actV t (M.sh l_ b_)=(actV t M).sh l_ b_:=by
 unfold actV
 simp only [sh_get,sh_set,sh_ite,vsh_ite,vsh_mk,vsh_M,vsh_v,vsh_e,vsh_em,codeA_sh,vsh_z,beginM_sh,turn0_sh] <;> rfl
theorem tickV_sh (t:Stp) (M:MemS) (l_:List (Int × Int)) (b_:Int):tickV t (M.sh l_ b_)=(tickV t M).sh l_ b_:=by
 unfold tickV
 simp only [sh_get,sh_set,sh_ite,vsh_ite,vsh_mk,vsh_M,vsh_v,vsh_e,vsh_em,codeA_sh,vsh_z,beginM_sh,runV_sh,runE_sh] <;> rfl
theorem colT_sh (t:Stp) (M:MemS) (l_:List (Int × Int)) (b_:Int):colT t (M.sh l_ b_)=colT t M:=by
 unfold colT
 simp only [sh_get,sh_set,sh_ite,vsh_ite,vsh_mk,vsh_M,vsh_v,vsh_e,vsh_em,codeA_sh,vsh_z,motM_sh] <;> rfl
theorem resT_sh (t:Stp) (M:MemS) (l_:List (Int × Int)) (b_:Int):resT t (M.sh l_ b_)=resT t M:=by
 unfold resT
 simp only [sh_get,sh_set,sh_ite,vsh_ite,vsh_mk,vsh_M,vsh_v,vsh_e,vsh_em,codeA_sh,vsh_z,motM_sh,colT_sh] <;> rfl
theorem touchSet_sh (t:Stp) (M:MemS) (l_:List (Int × Int)) (b_:Int):touchSet t (M.sh l_ b_)=(touchSet t M).sh l_ b_:=by
 unfold touchSet
 simp only [sh_get,sh_set,sh_ite,vsh_ite,vsh_mk,vsh_M,vsh_v,vsh_e,vsh_em,codeA_sh,vsh_z,setMotM_sh,resT_sh] <;> rfl
theorem touchF_sh (t:Stp) (M:MemS) (l_:List (Int × Int)) (b_:Int):touchF t (M.sh l_ b_)=(touchF t M).sh l_ b_:=by
 unfold touchF
 simp only [sh_get,sh_set,sh_ite,vsh_ite,vsh_mk,vsh_M,vsh_v,vsh_e,vsh_em,codeA_sh,vsh_z,colT_sh,touchSet_sh] <;> rfl
theorem earT_sh (t:Stp) (M:MemS) (l_:List (Int × Int)) (b_:Int):earT t (M.sh l_ b_)=earT t M:=by
 unfold earT
 simp only [sh_get,sh_set,sh_ite,vsh_ite,vsh_mk,vsh_M,vsh_v,vsh_e,vsh_em,codeA_sh,vsh_z,motM_sh] <;> rfl
theorem testF_sh (t:Stp) (M:MemS) (l_:List (Int × Int)) (b_:Int):testF t (M.sh l_ b_)=(testF t M).sh l_ b_:=by
 unfold testF
 simp only [sh_get,sh_set,sh_ite,vsh_ite,vsh_mk,vsh_M,vsh_v,vsh_e,vsh_em,codeA_sh,vsh_z,earT_sh] <;> rfl
theorem moveA_sh (t:Stp) (M:MemS) (l_:List (Int × Int)) (b_:Int):moveA t (M.sh l_ b_)=(moveA t M).sh l_ b_:=by
 unfold moveA
 simp only [sh_get,sh_set,sh_ite,vsh_ite,vsh_mk,vsh_M,vsh_v,vsh_e,vsh_em,codeA_sh,vsh_z,beginM_sh] <;> rfl
theorem moveF_sh (t:Stp) (M:MemS) (l_:List (Int × Int)) (b_:Int):moveF t (M.sh l_ b_)=(moveF t M).sh l_ b_:=by
 unfold moveF
 simp only [sh_get,sh_set,sh_ite,vsh_ite,vsh_mk,vsh_M,vsh_v,vsh_e,vsh_em,codeA_sh,vsh_z,travelM_sh,testF_sh,moveA_sh] <;> rfl
theorem contactF_sh (t:Stp) (M:MemS) (l_:List (Int × Int)) (b_:Int):contactF t (M.sh l_ b_)=(contactF t M).sh l_ b_:=by
 unfold contactF
 simp only [sh_get,sh_set,sh_ite,vsh_ite,vsh_mk,vsh_M,vsh_v,vsh_e,vsh_em,codeA_sh,vsh_z,beginM_sh,touchF_sh] <;> rfl
theorem hitV_sh (t:Stp) (M:MemS) (l_:List (Int × Int)) (b_:Int):hitV t (M.sh l_ b_)=(hitV t M).sh l_ b_:=by
 unfold hitV
 simp only [sh_get,sh_set,sh_ite,vsh_ite,vsh_mk,vsh_M,vsh_v,vsh_e,vsh_em,codeA_sh,vsh_z,beginM_sh,turn2_sh] <;> rfl
theorem step_sh (g:Gm) (M:MemS) (l:List (Int × Int)) (b:Int):g.step (M.sh l b)=g.step M:=rfl
theorem trV_sh (g:Gm) (M:MemS) (l:List (Int × Int)) (b:Int):trV g (M.sh l b)=(trV g M).sh l b:=by
 unfold trV
 simp only [step_sh,sh_get,inputM_sh,actV_sh,tickV_sh,forceM_sh,contactF_sh,moveF_sh,hitV_sh,restM_sh,vsh_mk,vsh_ite]
theorem trE_sh (g:Gm) (M:MemS) (l:List (Int × Int)) (b:Int):trE g (M.sh l b)=trE g M:=rfl
theorem runM_sh (g:Gm) (l:List (Int × Int)) (b:Int):∀ (n:Nat) (M:MemS),runM g n (M.sh l b)=(runM g n M).sh l b
 | 0,_=>rfl
 | n+1,M=>by rw [runM,runM,trM,trM,trV_sh,vsh_M];exact runM_sh g l b n _
def tkN (g:Gm):Nat -> MemS -> Nat
 | 0,_=>0
 | f+1,M=>if trE g M=true then 0 else tkN g f (trM g M)+1
theorem tkN_of {g:Gm}:∀ (m f:Nat) (M:MemS),goodRun g (m+1) M -> m < f -> tkN g f M=m
 | m,0,M,_,h=>by omega
 | 0,f+1,M,h,_=>by
  rcases h.2 with ⟨_,e⟩ | ⟨_,e⟩
  ·rw [tkN,if_pos e]
  ·exact e.elim
 | m+1,f+1,M,h,hf=>by
  rcases h.2 with ⟨e,_⟩ | ⟨e1,e2⟩
  ·omega
  ·rw [tkN,if_neg (by rw [e1];simp),tkN_of m f _ e2 (by omega)]
def tkM (g:Gm) (M:MemS):MemS:=runM g (tkN g 1000 M+1) M
def tkE (g:Gm) (M:MemS):List Eff:=effsV g (tkN g 1000 M+1) M
theorem tkN_sh (g:Gm) (l:List (Int × Int)) (b:Int):∀ (f:Nat) (M:MemS),tkN g f (M.sh l b)=tkN g f M
 | 0,_=>rfl
 | f+1,M=>by rw [tkN,tkN,trE_sh,trM,trM,trV_sh,vsh_M,tkN_sh g l b f]
theorem tkM_sh (g:Gm) (M:MemS) (l:List (Int × Int)) (b:Int):tkM g (M.sh l b)=(tkM g M).sh l b:=by rw [tkM,tkM,tkN_sh,runM_sh]
theorem sh_eta (M:MemS):(MemS.sh ⟨M.cs,[],0⟩ M.lg M.base)=M:=by cases M;simp [MemS.sh]
theorem tkM_cs (g:Gm) {M N:MemS} (h:M.cs=N.cs):(tkM g M).cs=(tkM g N).cs:=by
 rw [<- sh_eta M,<- sh_eta N,tkM_sh,tkM_sh,h];rfl
def trsV (g:Gm):Nat -> MemS -> List (Eff × Bool)
 | 0,_=>[]
 | n+1,M=>((trV g M).e,(trV g M).em) :: trsV g n (trM g M)
theorem trsV_len (g:Gm):∀ (n:Nat) (M:MemS),(trsV g n M).length=n
 | 0,_=>rfl
 | n+1,M=>by rw [trsV,List.length_cons,trsV_len g n]
def effP:List (Eff × Bool) -> List Eff
 | []=>[]
 | x :: l=>(if x.2=true then [x.1] else [])++effP l
theorem effP_trs (g:Gm):∀ (n:Nat) (M:MemS),effP (trsV g n M)=effsV g n M
 | 0,_=>rfl
 | n+1,M=>by rw [trsV,effP,effP_trs g n,effsV]
theorem effP_app:∀ (l m:List (Eff × Bool)),effP (l++m)=effP l++effP m
 | [],m=>rfl
 | x :: l,m=>by rw [List.cons_append,effP,effP,effP_app l m,List.append_assoc]
theorem effP_len:∀ (l:List (Eff × Bool)),(effP l).length <= l.length
 | []=>Nat.le_refl _
 | x :: l=>by
  have:=effP_len l
  rw [effP,List.length_append,List.length_cons]
  split
  ·simp;omega
  ·simp;omega
theorem effP_yes {l:List (Eff × Bool)} {i:Nat} {x:Eff × Bool} (h:l[i]?=some x) (e:x.2=true):effP (l.take (i+1))=effP (l.take i)++[x.1]:=by
 rw [List.take_add_one,h,effP_app]
 show _++((if x.2=true then [x.1] else [])++[])=_
 rw [if_pos e];rfl
theorem effP_no {l:List (Eff × Bool)} {i:Nat} {x:Eff × Bool} (h:l[i]?=some x) (e:¬ x.2=true):effP (l.take (i+1))=effP (l.take i):=by
 rw [List.take_add_one,h,effP_app]
 show _++((if x.2=true then [x.1] else [])++[])=_
 rw [if_neg e];simp
theorem trs_head {g:Gm} {l:List (Eff × Bool)} {i r:Nat} {M:MemS} (h:l.drop i=trsV g (r+1) M):l[i]?=some ((trV g M).e,(trV g M).em) /\ l.drop (i+1)=trsV g r (trM g M):=by
 constructor
 ·have:=congrArg (·[0]?) h
  simpa [trsV] using this
 ·have:=congrArg List.tail h
  rwa [List.tail_drop] at this
def cpy (cs:List Int) (i:Nat):List Int:=cs.take i++List.replicate (cs.length - i) 0
theorem zrow_irow (n:Nat):zrow [vI 0]=irow (List.replicate n 0):=by
 funext i k
 rcases k with _ | k
 ·have:(List.replicate n (0:Int)).getD i 0=0:=by
   rw [List.getD_eq_getElem?_getD,List.getElem?_replicate];split <;> rfl
  show vI 0=vI _
  rw [this]
 ·simp [zrow,irow]
theorem cpy_zero (cs:List Int):zrow [vI 0]=irow (cpy cs 0):=by rw [zrow_irow cs.length];simp [cpy]
theorem cpy_end (cs:List Int):cpy cs cs.length=cs:=by simp [cpy]
theorem cpy_next {cs:List Int} {i:Nat} (h:i < cs.length):updG (irow (cpy cs i)) i 0 (vI (cs.getD i 0))=irow (cpy cs (i+1)):=by
 rw [irow_set (by simp [cpy];omega)]
 congr 1
 unfold cpy
 rw [List.set_append_right _ _ (by simp;omega)]
 have e:cs.length - i=(cs.length - (i+1))+1:=by omega
 rw [e,List.replicate_succ,List.take_succ_eq_append_getElem h,List.append_assoc]
 simp [List.length_take,Nat.min_eq_left (Nat.le_of_lt h),h]
theorem MemH.len {mb:Nat} {M:MemS} {k:Nat} {T:HL} (h:MemH mb M k T):M.cs.length <= 1000000:=by
 cases h with
 | mk cb A cap Hl hs hc hl=>exact hc
theorem len_mem (mb cb n:Nat) (A:Option Addr) (m cap:Nat) (base:Int) (F:HL) (hm:(mb,.lit [vS cb 0 n n,.slice A m cap,vI base] 119 (0,0)) ∈ F):Sp Tryz.prog 40 #[vP mb 0] [] F (λ u H'=>u=vI (n:Int) /\ H'=[]):=by
 refine Sp.run Tryz.func40 rfl (mc hm mn) (A:=[]) (Ts:=[]) rfl λ w0=>?_
 refine RN.go 15 [.ro 0] λ _=>?_
 exact RN.ret [] [] [] ⟨rfl,rfl⟩
theorem len_any {mb:Nat} {M:MemS} {k:Nat} {T:HL} {F:HL} (h:MemH mb M k T) (hs:∀ x ∈ T,x ∈ F):Sp Tryz.prog 40 #[vP mb 0] [] F (λ u H'=>u=vI (M.cs.length:Int) /\ H'=[]):=by
 cases h with
 | mk cb A cap Hl hsl hc hl=>exact len_mem mb cb M.cs.length A M.lg.length cap M.base F (hs _ (by simp))
theorem get_nat {M:MemS} {i:Nat} (h:i < M.cs.length):M.get (i:Int)=M.cs.getD i 0:=by
 unfold MemS.get
 rw [if_pos (by omega),Int.toNat_natCast]
theorem cells_any (mb:Nat) (M:MemS) (k:Nat) (T F:HL) (hM:MemH mb M k T) (hT:∀ x ∈ T,x ∈ F):Sp Tryz.prog 13 #[vP mb 0] [] F (λ u H'=>∃ q,H'=ap [(q,.rows 1 M.cs.length (irow M.cs) 3 (0,0))] [] /\ u=vS q 0 M.cs.length M.cs.length):=by
 have hl:=hM.len
 refine Sp.run Tryz.func13 rfl mn (A:=[]) (Ts:=[]) rfl λ w0=>?_
 refine RN.go 8 [] λ _=>RN.cp (len_any hM (λ x hx=>List.mem_append_right _ (hT x hx)))<|RN.goP 8 [.mk M.cs.length M.cs.length] [(M.cs.length:Int)=((M.cs.length:Nat):Int) /\ (M.cs.length:Int)=((M.cs.length:Nat):Int) /\ M.cs.length <= M.cs.length /\ 8 * M.cs.length <= 140737488355328 /\ 1=1 /\ M.cs.length <= 9223372036854775807] λ n1=>RN.cp (len_any hM (λ x hx=>List.mem_append_right _ (hT x hx)))<|RN.go 4 [] λ _=>RN.bv 0 (congrArg (λ v_=>(.rows 1 M.cs.length v_ 3 (0,0):Blk)) (show (zrow [vI 0])=(irow (cpy M.cs 0)) from (by rw [cpy_zero M.cs])))<|RN.loop (σ:=Nat) (λ i=>⟨[(0,vP mb 0),(3,vS (n1+0) 0 M.cs.length M.cs.length),(9,vI (M.cs.length:Int)),(10,vI (i:Int))],[((n1+0),.rows 1 M.cs.length (irow (cpy M.cs i)) 3 (0,0))],[],i <= M.cs.length,M.cs.length - i⟩) 0 [0] [] (Nat.zero_le _) ?_
 rintro i hI2 mt3
 refine RN.go 6 [] λ _=>RN.em ((i:Int) < (M.cs.length:Int)) 11 (λ h4=>?_) λ h4=>?_
 ·refine RN.go 16 [] λ _=>RN.cp (get_any (i:Int) hM (λ x hx=>List.mem_append_right _ (hT x hx)))<|RN.goP 9 [.ix i,.row 0 i 0,.nw] [I64 ((i:Int)+1),(0+i * 1)=i * 1+0 /\ i < M.cs.length,(i:Int)=((i:Nat):Int) /\ i < M.cs.length] λ _=>RN.bv 0 (congrArg (λ v_=>(.rows 1 M.cs.length v_ 3 (0,0):Blk)) (show (updG (irow (cpy M.cs i)) i 0 (vI (M.get (i:Int))))=(irow (cpy M.cs (i+1))) from (by rw [<- cpy_next (cs:=M.cs) (i:=i) (by omega)];rw [get_nat (by omega)]))) ?_
  refine mt3 (i+1) [0] [] ?_
  try dsimp only
  exact ⟨by omega,by omega⟩
 ·refine RN.go 12 [] λ _=>RN.ret [] [0] [] (v:=vS (n1+0) 0 M.cs.length M.cs.length) (H':=[((n1+0),.rows 1 M.cs.length (irow (cpy M.cs i)) 3 (0,0))]) ?_
  have ei:i=M.cs.length:=by omega
  subst ei
  exact ⟨_,by rw [cpy_end];rfl,rfl⟩
theorem new_any (q:Nat) (cs:List Int) (k cap:Nat) (F:HL) (hq:(q,.rows 1 cs.length (irow cs) 3 (0,0)) ∈ F) (hc:cs.length <= 1000000) (hk:k <= 100000000) (hcap:cs.length <= cap):Sp Tryz.prog 14 #[vS q 0 cs.length cap] [] F (λ u H'=>∃ x:Nat × HL,H'=ap [] [x.2] /\ (u=vP x.1 0 /\ MemH x.1 ⟨cs,[],0⟩ k x.2)):=by
 refine Sp.run Tryz.func14 rfl (mc hq mn) (A:=[]) (Ts:=[]) rfl λ w0=>?_
 refine RN.goP 24 [.mk cs.length cs.length] [(cs.length:Int)=((cs.length:Nat):Int) /\ (cs.length:Int)=((cs.length:Nat):Int) /\ cs.length <= cs.length /\ 8 * cs.length <= 140737488355328 /\ 1=1 /\ cs.length <= 9223372036854775807] λ n1=>RN.bv 1 (congrArg (λ v_=>(.rows 1 cs.length v_ 3 (0,0):Blk)) (show (zrow [vI 0])=(irow (cpy cs 0)) from (by rw [cpy_zero cs])))<|RN.loop (σ:=Nat) (λ i=>⟨[(0,vS q 0 cs.length cap),(3,vP (n1+1) 0),(11,vI (cs.length:Int)),(12,vI (i:Int))],[((n1+1),.lit [vS (n1+0) 0 cs.length cs.length,.slice none 0 0,vI 0] 119 (0,0)),((n1+0),.rows 1 cs.length (irow (cpy cs i)) 3 (0,0))],[],i <= cs.length,cs.length - i⟩) 0 [0,1] [] (Nat.zero_le _) ?_
 rintro i hI2 mt3
 refine RN.go 6 [] λ _=>RN.em ((i:Int) < (cs.length:Int)) 13 (λ h4=>?_) λ h4=>?_
 ·refine RN.go 11 [] λ _=>RN.draw [10] []<|RD.goP [] [0,4,5,6,1,7,2,8,3,9] [.ix i,.rorow 0 i 0,.own 0,.ix i] [(i:Int)=((i:Nat):Int) /\ i < cs.length,(0+i * 1)=i * 1+0 /\ i < cs.length,(i:Int)=((i:Nat):Int) /\ i < cs.length]<|RD.one 10 (RDO.evP [] [.row 1 i 0] [(0+i * 1)=i * 1+0 /\ i < cs.length] λ _=>?_)
  refine RD.fin<|RN.goP 6 [.nw] [I64 ((i:Int)+1)] λ _=>RN.bv 1 (congrArg (λ v_=>(.rows 1 cs.length v_ 3 (0,0):Blk)) (show (updG (irow (cpy cs i)) i 0 (vI (cs.getD i 0)))=(irow (cpy cs (i+1))) from (by rw [<- cpy_next (cs:=cs) (i:=i) (by omega)]))) ?_
  refine mt3 (i+1) [0,1] [] ?_
  try dsimp only
  exact ⟨by omega,by omega⟩
 ·refine RN.go 12 [] λ _=>RN.ret [] [0,1] [] (v:=vP (n1+1) 0) (H':=[((n1+1),.lit [vS (n1+0) 0 cs.length cs.length,.slice none 0 0,vI 0] 119 (0,0)),((n1+0),.rows 1 cs.length (irow (cpy cs i)) 3 (0,0))]) ?_
  have ei:i=cs.length:=by omega
  subst ei
  rw [cpy_end]
  have hmm:=MemH.mk (mb:=(n1+1)) (M:=⟨cs,[],0⟩) (k:=k) (n1+0) none 0 [] (SlIs.nil _ _) hc (show ([]:List (Int × Int)).length+k <= 100000000 by simpa using hk)
  exact ⟨((n1+1),_),rfl,rfl,hmm⟩
def around (n most:Int):Int:=(if n < 0 then w64 (0 - w64 (n+1)) else n).tmod most
theorem around_any (n:Int) (most:Int) (h0:most ≠ 0) (F:HL):Sp Tryz.prog 11 #[vI n,vI most] [] F (λ u H'=>u=vI (around n most) /\ H'=[]):=by
 refine Sp.run Tryz.func11 rfl mn (A:=[]) (Ts:=[]) rfl λ w0=>?_
 refine RN.go 12 [] λ _=>RN.em (n < 0) 6 (λ h1=>?_) λ h1=>?_
 ·refine RN.goO 16 [.gen,.dv] (λ _=>[most ≠ 0]) (λ _=>(ac h0 an)) λ _=>RN.ret [] [] [] (v:=vI ((IntKind.i64.wrap (0 - (IntKind.i64.wrap (n+1)))).tmod most)) (H':=[]) ?_
  exact ⟨by unfold around;simp [*],rfl⟩
 ·refine RN.goO 11 [.dv] (λ _=>[most ≠ 0]) (λ _=>(ac h0 an)) λ _=>RN.ret [] [] [] (v:=vI (n.tmod most)) (H':=[]) ?_
  exact ⟨by unfold around;simp [*],rfl⟩
def boundI (S:Setup):Int:=IntKind.i64.wrap ((IntKind.i64.wrap ((IntKind.i64.wrap ((IntKind.i64.wrap ((IntKind.i64.wrap (S.players+(IntKind.i64.wrap ((IntKind.i64.wrap ((IntKind.i64.wrap (S.players+1))+(S.nb:Int))) * (IntKind.i64.wrap (S.fuel+3))))))+(IntKind.i64.wrap (2 * (S.nb:Int)))))+3))+(IntKind.i64.wrap ((IntKind.i64.wrap ((IntKind.i64.wrap (S.rounds * (S.nb:Int))) * (IntKind.i64.wrap ((S.nb:Int) - 1)))).tdiv 2))))+(IntKind.i64.wrap ((S.nb:Int) * (IntKind.i64.wrap ((S.nb:Int)+1)))))
theorem bound_any (S:Setup) (F:HL):Sp Tryz.prog 16 #[(Setup.v S)] [] F (λ u H'=>u=vI (boundI S) /\ H'=[]):=by
 refine Sp.run Tryz.func16 rfl mn (A:=[]) (Ts:=[]) rfl λ w0=>?_
 refine RN.go 54 [.own 0,.own 0,.own 0,.own 0] λ n1=>?_
 exact RN.ret [] [] [] ⟨rfl,rfl⟩
def shK (n:Int):Int:=around n 1000
def shR (n:Int):Int:=w64 (512 * w64 (1+(w64 ((shK n).tdiv 7)).tmod 5))
def shSq (r:Int):List V2:=[⟨w64 (0 - r),w64 (0 - r)⟩,⟨r,w64 (0 - r)⟩,⟨r,r⟩,⟨w64 (0 - r),r⟩]
def shTri (r:Int):List V2:=[⟨w64 (0 - r),w64 (0 - r)⟩,⟨r,w64 (0 - r)⟩,⟨0,r⟩]
def shBar (r:Int):List V2:=[⟨w64 (-2 * r),-300⟩,⟨w64 (2 * r),-300⟩,⟨w64 (2 * r),300⟩,⟨w64 (-2 * r),300⟩]
def shapeS (n:Int):Int × List V2:=if (shK n).tmod 7=0 then (shR n,[]) else if (shK n).tmod 7=1 then (shR n,[]) else if (shK n).tmod 7=2 then (shR n,[]) else if (shK n).tmod 7=3 then (0,shSq (shR n)) else if (shK n).tmod 7=4 then (0,shSq (shR n)) else if (shK n).tmod 7=5 then (0,shTri (shR n)) else (0,shBar (shR n))
def ShH (s:Shp) (T:HL):Prop:=∀ F,(∀ x ∈ T,x ∈ F) -> ShIn F s
theorem ShH.circle (r:Int) (A:Option Addr) (cap:Nat):ShH ⟨r,[],A,cap⟩ []:=λ F _=>.circle r A cap
theorem ShH.poly (r:Int) (l:List V2) (b cap:Nat) (h3:3 <= l.length) (h4:l.length <= cap) (h5:l.length <= 1000000):ShH ⟨r,l,some ⟨b,0,none⟩,cap⟩ [(b,.rows 2 cap (vrow l) 29 (0,0))]:=λ F h=>.poly r l b cap (h _ (by simp)) h3 h4 h5
theorem shapeOf_any (n:Int) (F:HL):Sp Tryz.prog 34 #[vI n] [] F (λ u H'=>∃ x:Option Addr × Nat × HL,H'=ap [] [x.2.2] /\ (u=shV ⟨(shapeS n).1,(shapeS n).2,x.1,x.2.1⟩ /\ ShH ⟨(shapeS n).1,(shapeS n).2,x.1,x.2.1⟩ x.2.2)):=by
 refine Sp.run Tryz.func34 rfl mn (A:=[]) (Ts:=[]) rfl λ w0=>?_
 refine RN.go 8 [] λ n1=>RN.cp (around_any n 1000 (by decide) _)<|RN.go 28 [] λ _=>RN.em ((shK n).tmod 7=0) 14 (λ h2=>?_) λ h2=>?_
 ·refine RN.go 11 [.own 0,.own 0] λ _=>RN.ret [.own 0,.own 0] [] [] (v:=.agg #[vI (IntKind.i64.wrap (512 * (IntKind.i64.wrap (1+((IntKind.i64.wrap ((shK n).tdiv 7)).tmod 5))))),.slice none 0 0]) (H':=[]) ?_
  have e:shapeS n=(shR n,[]):=by simp only [shapeS,if_pos h2]
  rw [e]
  exact ⟨(none,0,[]),rfl,rfl,ShH.circle _ _ _⟩
 ·refine RN.go 7 [] λ _=>RN.em ((shK n).tmod 7=1) 14 (λ h3=>?_) λ h3=>?_
  ·refine RN.go 11 [.own 0,.own 0] λ _=>RN.ret [.own 0,.own 0] [] [] (v:=.agg #[vI (IntKind.i64.wrap (512 * (IntKind.i64.wrap (1+((IntKind.i64.wrap ((shK n).tdiv 7)).tmod 5))))),.slice none 0 0]) (H':=[]) ?_
   have e:shapeS n=(shR n,[]):=by simp only [shapeS,if_neg h2,if_pos h3]
   rw [e]
   exact ⟨(none,0,[]),rfl,rfl,ShH.circle _ _ _⟩
  ·refine RN.go 6 [] λ _=>RN.em ((shK n).tmod 7=2) 14 (λ h4=>?_) λ h4=>?_
   ·refine RN.go 8 [.own 0,.own 0] λ _=>RN.ret [.own 0,.own 0] [] [] (v:=.agg #[vI (IntKind.i64.wrap (512 * (IntKind.i64.wrap (1+((IntKind.i64.wrap ((shK n).tdiv 7)).tmod 5))))),.slice none 0 0]) (H':=[]) ?_
    have e:shapeS n=(shR n,[]):=by simp only [shapeS,if_neg h2,if_neg h3,if_pos h4]
    rw [e]
    exact ⟨(none,0,[]),rfl,rfl,ShH.circle _ _ _⟩
   ·refine RN.go 8 [] λ _=>RN.em ((shK n).tmod 7=3) 20 (λ h5=>?_) λ h5=>?_
    ·refine RN.go 27 [.own 1,.own 1] λ n6=>RN.dn 0 (.rows 2 4 (vrow (shSq (shR n))) 29 (0,0))<|RN.ret [.own 1,.own 1] [0] [] (v:=.agg #[vI 0,vS (n6+0) 0 4 4]) (H':=[((n6+0),.rows 2 4 (vrow (shSq (shR n))) 29 (0,0))]) ?_
     have e:shapeS n=(0,shSq (shR n)):=by simp only [shapeS,if_neg h2,if_neg h3,if_neg h4,if_pos h5]
     rw [e]
     exact ⟨(some ⟨(n6+0),0,none⟩,4,_),rfl,rfl,ShH.poly 0 (shSq (shR n)) (n6+0) 4 (Nat.le_of_ble_eq_true rfl) (Nat.le_of_ble_eq_true rfl) (Nat.le_of_ble_eq_true rfl)⟩
    ·refine RN.go 6 [] λ _=>RN.em ((shK n).tmod 7=4) 20 (λ h7=>?_) λ h7=>?_
     ·refine RN.go 24 [.own 1,.own 1] λ n8=>RN.dn 0 (.rows 2 4 (vrow (shSq (shR n))) 29 (0,0))<|RN.ret [.own 1,.own 1] [0] [] (v:=.agg #[vI 0,vS (n8+0) 0 4 4]) (H':=[((n8+0),.rows 2 4 (vrow (shSq (shR n))) 29 (0,0))]) ?_
      have e:shapeS n=(0,shSq (shR n)):=by simp only [shapeS,if_neg h2,if_neg h3,if_neg h4,if_neg h5,if_pos h7]
      rw [e]
      exact ⟨(some ⟨(n8+0),0,none⟩,4,_),rfl,rfl,ShH.poly 0 (shSq (shR n)) (n8+0) 4 (Nat.le_of_ble_eq_true rfl) (Nat.le_of_ble_eq_true rfl) (Nat.le_of_ble_eq_true rfl)⟩
     ·refine RN.go 7 [] λ _=>RN.em ((shK n).tmod 7=5) 41 (λ h9=>?_) λ h9=>?_
      ·refine RN.go 19 [.own 1,.own 1] λ n10=>RN.dn 0 (.rows 2 3 (vrow (shTri (shR n))) 29 (0,0))<|RN.ret [.own 1,.own 1] [0] [] (v:=.agg #[vI 0,vS (n10+0) 0 3 3]) (H':=[((n10+0),.rows 2 3 (vrow (shTri (shR n))) 29 (0,0))]) ?_
       have e:shapeS n=(0,shTri (shR n)):=by simp only [shapeS,if_neg h2,if_neg h3,if_neg h4,if_neg h5,if_neg h7,if_pos h9]
       rw [e]
       exact ⟨(some ⟨(n10+0),0,none⟩,3,_),rfl,rfl,ShH.poly 0 (shTri (shR n)) (n10+0) 3 (Nat.le_of_ble_eq_true rfl) (Nat.le_of_ble_eq_true rfl) (Nat.le_of_ble_eq_true rfl)⟩
      ·refine RN.go 23 [.own 1,.own 1] λ n11=>RN.dn 0 (.rows 2 4 (vrow (shBar (shR n))) 29 (0,0))<|RN.ret [.own 1,.own 1] [0] [] (v:=.agg #[vI 0,vS (n11+0) 0 4 4]) (H':=[((n11+0),.rows 2 4 (vrow (shBar (shR n))) 29 (0,0))]) ?_
       have e:shapeS n=(0,shBar (shR n)):=by simp only [shapeS,if_neg h2,if_neg h3,if_neg h4,if_neg h5,if_neg h7,if_neg h9]
       rw [e]
       exact ⟨(some ⟨(n11+0),0,none⟩,4,_),rfl,rfl,ShH.poly 0 (shBar (shR n)) (n11+0) 4 (Nat.le_of_ble_eq_true rfl) (Nat.le_of_ble_eq_true rfl) (Nat.le_of_ble_eq_true rfl)⟩
theorem bodyAt_in {S:Setup} (h:SetN S) {i:Nat} (hi:i < S.nb):0 <= bodyAt S i /\ bodyAt S i+8 <= sizeOf S /\ sizeOf S <= 20000000:=by
 have:=h.pl
 have:=h.nb
 unfold bodyAt sizeOf
 rw [if_neg (by omega),if_neg (by omega)]
 omega
theorem sizeOf_bd {S:Setup} (h:SetN S):48 <= sizeOf S /\ sizeOf S <= 20000000:=by
 have:=h.pl
 have:=h.nb
 unfold sizeOf
 omega
def iniL (S:Setup):Nat -> List Int
 | 0=>List.replicate (sizeOf S).toNat 0
 | i+1=>((((((iniL S i).set (bodyAt S i).toNat (S.body i).mot.px).set (bodyAt S i+1).toNat (S.body i).mot.py).set (bodyAt S i+2).toNat (S.body i).mot.vx).set (bodyAt S i+3).toNat (S.body i).mot.vy).set (bodyAt S i+4).toNat (S.body i).a).set (bodyAt S i+5).toNat (S.body i).b
theorem iniL_len (S:Setup):∀ i,(iniL S i).length=(sizeOf S).toNat
 | 0=>by simp [iniL]
 | i+1=>by simp [iniL,iniL_len S i]
theorem iniL_next {S:Setup} (h:SetN S) {i:Nat} (hi:i < S.nb):updG (updG (updG (updG (updG (updG (irow (iniL S i)) (bodyAt S i).toNat 0 (vI (S.body i).mot.px)) (bodyAt S i+1).toNat 0 (vI (S.body i).mot.py)) (bodyAt S i+2).toNat 0 (vI (S.body i).mot.vx)) (bodyAt S i+3).toNat 0 (vI (S.body i).mot.vy)) (bodyAt S i+4).toNat 0 (vI (S.body i).a)) (bodyAt S i+5).toNat 0 (vI (S.body i).b)=irow (iniL S (i+1)):=by
 have:=bodyAt_in h hi
 rw [irow_set,irow_set,irow_set,irow_set,irow_set,irow_set,iniL] <;> (simp only [List.length_set,iniL_len];omega)
open Go.Shelf
section
variable {r:Option Nat} {P:Program} {N:Nat} {D:List Deferred} {F:HL} {w0:World} {R:HL} {s:Cfg} {Q:Exit -> Act -> World -> Prop}
variable {α:Type} {e:Enc α} {T:TypeId} {inf:TypeInfo} {z:Value}
def appKS (P:Program) (N j:Nat) (oo:Option Oper) (s:Cfg):Option (Option Addr × Nat × Nat × TypeId × Option Addr × Nat × Nat × TypeId × HL):=match oo with
  | some o=>match appV P o s.L,s.Ts[j]?,([j]++oth [j] s.Ts.length).isPerm (List.range s.Ts.length) && (putL N o.dst undef s.L).isSome with
    | some (A,n,cap,T,B,m,c',tx),some Hl,true=>some (A,n,cap,T,B,m,c',tx,Hl)
    | _,_,_=>none
  | none=>none
theorem appKS_spec {j:Nat} {oo:Option Oper} {A:Option Addr} {n cap m c':Nat} {B:Option Addr} {tx:TypeId} {Hl:HL} (h:appKS P N j oo s=some (A,n,cap,T,B,m,c',tx,Hl)) :
    ∃ o a1 a2 t e',oo=some o /\ o.guard=none /\ o.op=.call { callee:=.builtin .append,args:=#[a1,a2],argTypes:=#[t,tx] } /\ (inL s.L a1 && inL s.L a2)=true /\ rho s.L a1=.slice A n cap /\ rho s.L a2=.slice B m c' /\ P.underlying t=some (.slice T) /\ P.underlying tx=some (.slice e') /\
      s.Ts[j]?=some Hl /\ ([j]++oth [j] s.Ts.length).isPerm (List.range s.Ts.length)=true /\ (putL N o.dst undef s.L).isSome=true:=by
  unfold appKS at h
  split at h
  case h_2=>cases h
  rename_i o
  split at h
  case h_2=>cases h
  rename_i A' n' cap' T' B' m' c2 tx' Hl' h1 h3 h4
  simp only [Option.some.injEq,Prod.mk.injEq] at h
  obtain ⟨e1,e2,e3,e4,e5,e6,e7,e8,e9⟩:=h
  subst e1;subst e2;subst e3;subst e4;subst e5;subst e6;subst e7;subst e8;subst e9
  obtain ⟨a1,a2,t,e',q1,q2,q3,q4,q5,q6,q7⟩:=appV_spec h1
  rw [Bool.and_eq_true] at h4
  exact ⟨o,a1,a2,t,e',rfl,q1,q2,q3,q4,q5,q6,q7,h3,h4.1,h4.2⟩
end
end Go.Proofs.YtghjbimijeinfaaGreatDoor
