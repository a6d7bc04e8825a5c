import Derived.Test.YtcfajdgeejeieaaGreatDoorV22
set_option maxHeartbeats 4000000
set_option maxRecDepth 100000
set_option linter.unusedSimpArgs false
set_option linter.unusedVariables false
namespace Go.Proofs.YtcfajdgeejeieaaGreatDoor
open Go.RowKit
def MemS.sh (M:MemS) (l:List (Int × Int)) (b:Int):MemS:=⟨M.cs,l++M.lg,b⟩
def VR.sh (r:VR) (l:List (Int × Int)) (b:Int):VR:={ r with M:=r.M.sh l b }
theorem sh_get (M:MemS) (l:List (Int × Int)) (b i:Int):(M.sh l b).get i=M.get i:=rfl
theorem sh_set (M:MemS) (l:List (Int × Int)) (b i v:Int):(M.sh l b).set i v=(M.set i v).sh l b:=by
 unfold MemS.set MemS.sh
 dsimp only
 split
 ·simp
 ·rfl
theorem sh_ite (M N:MemS) (l:List (Int × Int)) (b:Int) (c:Prop) [Decidable c]:(if c then M.sh l b else N.sh l b)=(if c then M else N).sh l b:=by split <;> rfl
theorem vsh_ite (M N:VR) (l:List (Int × Int)) (b:Int) (c:Prop) [Decidable c]:(if c then M.sh l b else N.sh l b)=(if c then M else N).sh l b:=by split <;> rfl
theorem vsh_mk (M:MemS) (l:List (Int × Int)) (b v:Int) (e:Eff) (em:Bool):(⟨M.sh l b,v,e,em⟩:VR)=VR.sh ⟨M,v,e,em⟩ l b:=rfl
theorem codeA_sh (code:List Ins) (M:MemS) (l:List (Int × Int)) (b:Int):codeA code (M.sh l b)=codeA code M:=rfl
theorem vsh_z (r:VR) (l:List (Int × Int)) (b:Int):(r.sh l b).z=r.z.sh l b:=rfl
theorem vsh_M (r:VR) (l:List (Int × Int)) (b:Int):(r.sh l b).M=r.M.sh l b:=rfl
theorem vsh_v (r:VR) (l:List (Int × Int)) (b:Int):(r.sh l b).v=r.v:=rfl
theorem vsh_e (r:VR) (l:List (Int × Int)) (b:Int):(r.sh l b).e=r.e:=rfl
theorem vsh_em (r:VR) (l:List (Int × Int)) (b:Int):(r.sh l b).em=r.em:=rfl
theorem motM_sh (S:Setup) (M:MemS) (k:Int) (l_:List (Int × Int)) (b_:Int):motM S (M.sh l_ b_) k=motM S M k:=by
 unfold motM
 simp only [sh_get,sh_set,sh_ite,vsh_ite,vsh_mk,vsh_M,vsh_v,vsh_e,vsh_em,codeA_sh,vsh_z] <;> rfl
theorem beginM_sh (t:Stp) (ph j:Int) (M:MemS) (l_:List (Int × Int)) (b_:Int):beginM t ph j (M.sh l_ b_)=(beginM t ph j M).sh l_ b_:=by
 unfold beginM
 simp only [sh_get,sh_set,sh_ite,vsh_ite,vsh_mk,vsh_M,vsh_v,vsh_e,vsh_em,codeA_sh,vsh_z] <;> rfl
theorem setMotM_sh (t:Stp) (k:Int) (m:Mot) (M:MemS) (l_:List (Int × Int)) (b_:Int):setMotM t k m (M.sh l_ b_)=(setMotM t k m M).sh l_ b_:=by
 unfold setMotM
 simp only [sh_get,sh_set,sh_ite,vsh_ite,vsh_mk,vsh_M,vsh_v,vsh_e,vsh_em,codeA_sh,vsh_z] <;> rfl
theorem placeM_sh (t:Stp) (c sp pos lo hi:Int) (M:MemS) (l_:List (Int × Int)) (b_:Int):placeM t c sp pos lo hi (M.sh l_ b_)=(placeM t c sp pos lo hi M).sh l_ b_:=by
 unfold placeM
 simp only [sh_get,sh_set,sh_ite,vsh_ite,vsh_mk,vsh_M,vsh_v,vsh_e,vsh_em,codeA_sh,vsh_z] <;> rfl
theorem inputA_sh (t:Stp) (M:MemS) (l_:List (Int × Int)) (b_:Int):inputA t (M.sh l_ b_)=(inputA t M).sh l_ b_:=by
 unfold inputA
 simp only [sh_get,sh_set,sh_ite,vsh_ite,vsh_mk,vsh_M,vsh_v,vsh_e,vsh_em,codeA_sh,vsh_z] <;> rfl
theorem inputB_sh (t:Stp) (M:MemS) (l_:List (Int × Int)) (b_:Int):inputB t (M.sh l_ b_)=(inputB t M).sh l_ b_:=by
 unfold inputB
 simp only [sh_get,sh_set,sh_ite,vsh_ite,vsh_mk,vsh_M,vsh_v,vsh_e,vsh_em,codeA_sh,vsh_z] <;> rfl
theorem inputC_sh (t:Stp) (M:MemS) (l_:List (Int × Int)) (b_:Int):inputC t (M.sh l_ b_)=(inputC t M).sh l_ b_:=by
 unfold inputC
 simp only [sh_get,sh_set,sh_ite,vsh_ite,vsh_mk,vsh_M,vsh_v,vsh_e,vsh_em,codeA_sh,vsh_z,beginM_sh] <;> rfl
theorem inputM_sh (t:Stp) (M:MemS) (l_:List (Int × Int)) (b_:Int):inputM t (M.sh l_ b_)=(inputM t M).sh l_ b_:=by
 unfold inputM
 simp only [sh_get,sh_set,sh_ite,vsh_ite,vsh_mk,vsh_M,vsh_v,vsh_e,vsh_em,codeA_sh,vsh_z,inputA_sh,inputB_sh,inputC_sh] <;> rfl
theorem restA_sh (t:Stp) (M:MemS) (l_:List (Int × Int)) (b_:Int):restA t (M.sh l_ b_)=(restA t M).sh l_ b_:=by
 unfold restA
 simp only [sh_get,sh_set,sh_ite,vsh_ite,vsh_mk,vsh_M,vsh_v,vsh_e,vsh_em,codeA_sh,vsh_z] <;> rfl
theorem zeroTo_sh (M:MemS) (l_:List (Int × Int)) (b_:Int):∀ n,zeroTo (M.sh l_ b_) n=(zeroTo M n).sh l_ b_
 | 0=>rfl
 | n+1=>by rw [zeroTo,zeroTo,zeroTo_sh M l_ b_ n,sh_set]
theorem restC_sh (t:Stp) (M:MemS) (l_:List (Int × Int)) (b_:Int):restC t (M.sh l_ b_)=(restC t M).sh l_ b_:=by
 unfold restC
 simp only [sh_get,sh_set,sh_ite,vsh_ite,vsh_mk,vsh_M,vsh_v,vsh_e,vsh_em,codeA_sh,vsh_z,zeroTo_sh] <;> rfl
theorem restM_sh (t:Stp) (M:MemS) (l_:List (Int × Int)) (b_:Int):restM t (M.sh l_ b_)=(restM t M).sh l_ b_:=by
 unfold restM
 simp only [sh_get,sh_set,sh_ite,vsh_ite,vsh_mk,vsh_M,vsh_v,vsh_e,vsh_em,codeA_sh,vsh_z,restA_sh,restC_sh] <;> rfl
theorem forceV_sh (t:Stp) (M:MemS) (l_:List (Int × Int)) (b_:Int):forceV t (M.sh l_ b_)=forceV t M:=by
 unfold forceV
 simp only [sh_get,sh_set,sh_ite,vsh_ite,vsh_mk,vsh_M,vsh_v,vsh_e,vsh_em,codeA_sh,vsh_z,motM_sh] <;> rfl
theorem forceA_sh (t:Stp) (M:MemS) (l_:List (Int × Int)) (b_:Int):forceA t (M.sh l_ b_)=(forceA t M).sh l_ b_:=by
 unfold forceA
 simp only [sh_get,sh_set,sh_ite,vsh_ite,vsh_mk,vsh_M,vsh_v,vsh_e,vsh_em,codeA_sh,vsh_z] <;> rfl
theorem forceB_sh (t:Stp) (M:MemS) (l_:List (Int × Int)) (b_:Int):forceB t (M.sh l_ b_)=(forceB t M).sh l_ b_:=by
 unfold forceB
 simp only [sh_get,sh_set,sh_ite,vsh_ite,vsh_mk,vsh_M,vsh_v,vsh_e,vsh_em,codeA_sh,vsh_z,forceV_sh] <;> rfl
theorem forceC_sh (t:Stp) (M:MemS) (l_:List (Int × Int)) (b_:Int):forceC t (M.sh l_ b_)=(forceC t M).sh l_ b_:=by
 unfold forceC
 simp only [sh_get,sh_set,sh_ite,vsh_ite,vsh_mk,vsh_M,vsh_v,vsh_e,vsh_em,codeA_sh,vsh_z,beginM_sh] <;> rfl
theorem forceM_sh (t:Stp) (M:MemS) (l_:List (Int × Int)) (b_:Int):forceM t (M.sh l_ b_)=(forceM t M).sh l_ b_:=by
 unfold forceM
 simp only [sh_get,sh_set,sh_ite,vsh_ite,vsh_mk,vsh_M,vsh_v,vsh_e,vsh_em,codeA_sh,vsh_z,forceA_sh,forceB_sh,forceC_sh] <;> rfl
theorem travelF_sh (M:MemS) (l_:List (Int × Int)) (b_:Int):travelF (M.sh l_ b_)=travelF M:=by
 unfold travelF
 simp only [sh_get,sh_set,sh_ite,vsh_ite,vsh_mk,vsh_M,vsh_v,vsh_e,vsh_em,codeA_sh,vsh_z] <;> rfl
theorem travelP_sh (t:Stp) (M:MemS) (l_:List (Int × Int)) (b_:Int):travelP t (M.sh l_ b_)=travelP t M:=by
 unfold travelP
 simp only [sh_get,sh_set,sh_ite,vsh_ite,vsh_mk,vsh_M,vsh_v,vsh_e,vsh_em,codeA_sh,vsh_z,motM_sh,travelF_sh] <;> rfl
theorem travelM_sh (t:Stp) (M:MemS) (l_:List (Int × Int)) (b_:Int):travelM t (M.sh l_ b_)=(travelM t M).sh l_ b_:=by
 unfold travelM
 simp only [sh_get,sh_set,sh_ite,vsh_ite,vsh_mk,vsh_M,vsh_v,vsh_e,vsh_em,codeA_sh,vsh_z,placeM_sh,travelP_sh] <;> rfl
theorem emitV_sh (k v:Int) (M:MemS) (l_:List (Int × Int)) (b_:Int):emitV k v (M.sh l_ b_)=(emitV k v M).sh l_ b_:=by
 unfold emitV
 simp only [sh_get,sh_set,sh_ite,vsh_ite,vsh_mk,vsh_M,vsh_v,vsh_e,vsh_em,codeA_sh,vsh_z] <;> rfl
theorem execV_sh (S:Setup) (op n a b:Int) (M:MemS) (l_:List (Int × Int)) (b_:Int):execV S op n a b (M.sh l_ b_)=(execV S op n a b M).sh l_ b_:=by
 unfold execV
 simp only [sh_get,sh_set,sh_ite,vsh_ite,vsh_mk,vsh_M,vsh_v,vsh_e,vsh_em,codeA_sh,vsh_z,emitV_sh] <;> rfl
theorem popA_sh (op sp:Int) (M:MemS) (l_:List (Int × Int)) (b_:Int):popA op sp (M.sh l_ b_)=popA op sp M:=by
 unfold popA
 simp only [sh_get,sh_set,sh_ite,vsh_ite,vsh_mk,vsh_M,vsh_v,vsh_e,vsh_em,codeA_sh,vsh_z] <;> rfl
theorem popB_sh (op sp:Int) (M:MemS) (l_:List (Int × Int)) (b_:Int):popB op sp (M.sh l_ b_)=popB op sp M:=by
 unfold popB
 simp only [sh_get,sh_set,sh_ite,vsh_ite,vsh_mk,vsh_M,vsh_v,vsh_e,vsh_em,codeA_sh,vsh_z] <;> rfl
theorem memP_sh (op sp pc fuel:Int) (M:MemS) (l_:List (Int × Int)) (b_:Int):memP op sp pc fuel (M.sh l_ b_)=(memP op sp pc fuel M).sh l_ b_:=by
 unfold memP
 simp only [sh_get,sh_set,sh_ite,vsh_ite,vsh_mk,vsh_M,vsh_v,vsh_e,vsh_em,codeA_sh,vsh_z] <;> rfl
theorem stepI_sh (S:Setup) (op n sp pc fuel:Int) (M:MemS) (l_:List (Int × Int)) (b_:Int):stepI S op n sp pc fuel (M.sh l_ b_)=(stepI S op n sp pc fuel M).sh l_ b_:=by
 unfold stepI
 simp only [sh_get,sh_set,sh_ite,vsh_ite,vsh_mk,vsh_M,vsh_v,vsh_e,vsh_em,codeA_sh,vsh_z,execV_sh,popA_sh,popB_sh,memP_sh] <;> rfl
theorem runsV_sh (code:List Ins) (n:Nat) (M:MemS) (l_:List (Int × Int)) (b_:Int):(runsV code n (M.sh l_ b_))=(runsV code n M):=by
 unfold runsV
 simp only [sh_get,sh_set,sh_ite,vsh_ite,vsh_mk,vsh_M,vsh_v,vsh_e,vsh_em,codeA_sh,vsh_z] <;> rfl
theorem pushV_sh (op sp:Int) (r:VR) (l_:List (Int × Int)) (b_:Int):pushV op sp (r.sh l_ b_)=(pushV op sp r).sh l_ b_:=by
 unfold pushV
 simp only [sh_get,sh_set,sh_ite,vsh_ite,vsh_mk,vsh_M,vsh_v,vsh_e,vsh_em,codeA_sh,vsh_z] <;> rfl
theorem stepV_sh (S:Setup) (code:List Ins) (n:Nat) (M:MemS) (l_:List (Int × Int)) (b_:Int):stepV S code n (M.sh l_ b_)=(stepV S code n M).sh l_ b_:=by
 unfold stepV
 simp only [sh_get,sh_set,sh_ite,vsh_ite,vsh_mk,vsh_M,vsh_v,vsh_e,vsh_em,codeA_sh,vsh_z,stepI_sh,runsV_sh,pushV_sh] <;> rfl
theorem endV_sh (code:List Ins) (n:Nat) (M:MemS) (l_:List (Int × Int)) (b_:Int):endV code n (M.sh l_ b_)=endV code n M:=by
 unfold endV
 simp only [sh_get,sh_set,sh_ite,vsh_ite,vsh_mk,vsh_M,vsh_v,vsh_e,vsh_em,codeA_sh,vsh_z,runsV_sh] <;> rfl
theorem startV_sh (e fuel self other:Int) (M:MemS) (l_:List (Int × Int)) (b_:Int):startV e fuel self other (M.sh l_ b_)=(startV e fuel self other M).sh l_ b_:=by
 unfold startV
 simp only [sh_get,sh_set,sh_ite,vsh_ite,vsh_mk,vsh_M,vsh_v,vsh_e,vsh_em,codeA_sh,vsh_z] <;> rfl
theorem runV_sh (e:Int) (t:Stp) (self other:Int) (M:MemS) (l_:List (Int × Int)) (b_:Int):runV e t self other (M.sh l_ b_)=(runV e t self other M).sh l_ b_:=by
 unfold runV
 simp only [sh_get,sh_set,sh_ite,vsh_ite,vsh_mk,vsh_M,vsh_v,vsh_e,vsh_em,codeA_sh,vsh_z,stepV_sh,startV_sh] <;> rfl
theorem runE_sh (e:Int) (t:Stp) (self other:Int) (M:MemS) (l_:List (Int × Int)) (b_:Int):runE e t self other (M.sh l_ b_)=runE e t self other M:=by
 unfold runE
 simp only [sh_get,sh_set,sh_ite,vsh_ite,vsh_mk,vsh_M,vsh_v,vsh_e,vsh_em,codeA_sh,vsh_z,endV_sh] <;> rfl
theorem turnV_sh (r:VR) (over:Bool) (t:Stp) (cause:Bool) (M:MemS) (l_:List (Int × Int)) (b_:Int):turnV (r.sh l_ b_) over t cause (M.sh l_ b_)=(turnV r over t cause M).sh l_ b_:=by
 unfold turnV
 simp only [sh_get,sh_set,sh_ite,vsh_ite,vsh_mk,vsh_M,vsh_v,vsh_e,vsh_em,codeA_sh,vsh_z] <;> rfl
theorem turn0_sh (t:Stp) (o:Int) (c:Bool) (M:MemS) (l_:List (Int × Int)) (b_:Int):turn0 t o c (M.sh l_ b_)=(turn0 t o c M).sh l_ b_:=by
 unfold turn0 run0 end0
 rw [runV_sh,runE_sh,turnV_sh]
theorem turn2_sh (t:Stp) (o:Int) (c:Bool) (M:MemS) (l_:List (Int × Int)) (b_:Int):turn2 t o c (M.sh l_ b_)=(turn2 t o c M).sh l_ b_:=by
 unfold turn2 run2 end2
 rw [runV_sh,runE_sh,turnV_sh]
theorem actV_sh (t:Stp) (M:MemS) (l_:List (Int × Int)) (b_:Int):actV t (M.sh l_ b_)=(actV t M).sh l_ b_:=by
 unfold actV
 simp only [sh_get,sh_set,sh_ite,vsh_ite,vsh_mk,vsh_M,vsh_v,vsh_e,vsh_em,codeA_sh,vsh_z,beginM_sh,turn0_sh] <;> rfl
theorem tickV_sh (t:Stp) (M:MemS) (l_:List (Int × Int)) (b_:Int):tickV t (M.sh l_ b_)=(tickV t M).sh l_ b_:=by
 unfold tickV
 simp only [sh_get,sh_set,sh_ite,vsh_ite,vsh_mk,vsh_M,vsh_v,vsh_e,vsh_em,codeA_sh,vsh_z,beginM_sh,runV_sh,runE_sh] <;> rfl
theorem colT_sh (t:Stp) (M:MemS) (l_:List (Int × Int)) (b_:Int):colT t (M.sh l_ b_)=colT t M:=by
 unfold colT
 simp only [sh_get,sh_set,sh_ite,vsh_ite,vsh_mk,vsh_M,vsh_v,vsh_e,vsh_em,codeA_sh,vsh_z,motM_sh] <;> rfl
theorem resT_sh (t:Stp) (M:MemS) (l_:List (Int × Int)) (b_:Int):resT t (M.sh l_ b_)=resT t M:=by
 unfold resT
 simp only [sh_get,sh_set,sh_ite,vsh_ite,vsh_mk,vsh_M,vsh_v,vsh_e,vsh_em,codeA_sh,vsh_z,motM_sh,colT_sh] <;> rfl
theorem touchSet_sh (t:Stp) (M:MemS) (l_:List (Int × Int)) (b_:Int):touchSet t (M.sh l_ b_)=(touchSet t M).sh l_ b_:=by
 unfold touchSet
 simp only [sh_get,sh_set,sh_ite,vsh_ite,vsh_mk,vsh_M,vsh_v,vsh_e,vsh_em,codeA_sh,vsh_z,setMotM_sh,resT_sh] <;> rfl
theorem touchF_sh (t:Stp) (M:MemS) (l_:List (Int × Int)) (b_:Int):touchF t (M.sh l_ b_)=(touchF t M).sh l_ b_:=by
 unfold touchF
 simp only [sh_get,sh_set,sh_ite,vsh_ite,vsh_mk,vsh_M,vsh_v,vsh_e,vsh_em,codeA_sh,vsh_z,colT_sh,touchSet_sh] <;> rfl
theorem earT_sh (t:Stp) (M:MemS) (l_:List (Int × Int)) (b_:Int):earT t (M.sh l_ b_)=earT t M:=by
 unfold earT
 simp only [sh_get,sh_set,sh_ite,vsh_ite,vsh_mk,vsh_M,vsh_v,vsh_e,vsh_em,codeA_sh,vsh_z,motM_sh] <;> rfl
theorem testF_sh (t:Stp) (M:MemS) (l_:List (Int × Int)) (b_:Int):testF t (M.sh l_ b_)=(testF t M).sh l_ b_:=by
 unfold testF
 simp only [sh_get,sh_set,sh_ite,vsh_ite,vsh_mk,vsh_M,vsh_v,vsh_e,vsh_em,codeA_sh,vsh_z,earT_sh] <;> rfl
theorem moveA_sh (t:Stp) (M:MemS) (l_:List (Int × Int)) (b_:Int):moveA t (M.sh l_ b_)=(moveA t M).sh l_ b_:=by
 unfold moveA
 simp only [sh_get,sh_set,sh_ite,vsh_ite,vsh_mk,vsh_M,vsh_v,vsh_e,vsh_em,codeA_sh,vsh_z,beginM_sh] <;> rfl
theorem moveF_sh (t:Stp) (M:MemS) (l_:List (Int × Int)) (b_:Int):moveF t (M.sh l_ b_)=(moveF t M).sh l_ b_:=by
 unfold moveF
 simp only [sh_get,sh_set,sh_ite,vsh_ite,vsh_mk,vsh_M,vsh_v,vsh_e,vsh_em,codeA_sh,vsh_z,travelM_sh,testF_sh,moveA_sh] <;> rfl
theorem contactF_sh (t:Stp) (M:MemS) (l_:List (Int × Int)) (b_:Int):contactF t (M.sh l_ b_)=(contactF t M).sh l_ b_:=by
 unfold contactF
 simp only [sh_get,sh_set,sh_ite,vsh_ite,vsh_mk,vsh_M,vsh_v,vsh_e,vsh_em,codeA_sh,vsh_z,beginM_sh,touchF_sh] <;> rfl
theorem hitV_sh (t:Stp) (M:MemS) (l_:List (Int × Int)) (b_:Int):hitV t (M.sh l_ b_)=(hitV t M).sh l_ b_:=by
 unfold hitV
 simp only [sh_get,sh_set,sh_ite,vsh_ite,vsh_mk,vsh_M,vsh_v,vsh_e,vsh_em,codeA_sh,vsh_z,beginM_sh,turn2_sh] <;> rfl
theorem step_sh (g:Gm) (M:MemS) (l:List (Int × Int)) (b:Int):g.step (M.sh l b)=g.step M:=rfl
theorem trV_sh (g:Gm) (M:MemS) (l:List (Int × Int)) (b:Int):trV g (M.sh l b)=(trV g M).sh l b:=by
 unfold trV
 simp only [step_sh,sh_get,inputM_sh,actV_sh,tickV_sh,forceM_sh,contactF_sh,moveF_sh,hitV_sh,restM_sh,vsh_mk,vsh_ite]
theorem trE_sh (g:Gm) (M:MemS) (l:List (Int × Int)) (b:Int):trE g (M.sh l b)=trE g M:=rfl
theorem runM_sh (g:Gm) (l:List (Int × Int)) (b:Int):∀ (n:Nat) (M:MemS),runM g n (M.sh l b)=(runM g n M).sh l b
 | 0,_=>rfl
 | n+1,M=>by rw [runM,runM,trM,trM,trV_sh,vsh_M];exact runM_sh g l b n _
def tkN (g:Gm):Nat -> MemS -> Nat
 | 0,_=>0
 | f+1,M=>if trE g M=true then 0 else tkN g f (trM g M)+1
theorem tkN_of {g:Gm}:∀ (m f:Nat) (M:MemS),goodRun g (m+1) M -> m < f -> tkN g f M=m
 | m,0,M,_,h=>by omega
 | 0,f+1,M,h,_=>by
  rcases h.2 with ⟨_,e⟩ | ⟨_,e⟩
  ·rw [tkN,if_pos e]
  ·exact e.elim
 | m+1,f+1,M,h,hf=>by
  rcases h.2 with ⟨e,_⟩ | ⟨e1,e2⟩
  ·omega
  ·rw [tkN,if_neg (by rw [e1];simp),tkN_of m f _ e2 (by omega)]
def tkM (g:Gm) (M:MemS):MemS:=runM g (tkN g 1000 M+1) M
def tkE (g:Gm) (M:MemS):List Eff:=effsV g (tkN g 1000 M+1) M
theorem tkN_sh (g:Gm) (l:List (Int × Int)) (b:Int):∀ (f:Nat) (M:MemS),tkN g f (M.sh l b)=tkN g f M
 | 0,_=>rfl
 | f+1,M=>by rw [tkN,tkN,trE_sh,trM,trM,trV_sh,vsh_M,tkN_sh g l b f]
theorem tkM_sh (g:Gm) (M:MemS) (l:List (Int × Int)) (b:Int):tkM g (M.sh l b)=(tkM g M).sh l b:=by rw [tkM,tkM,tkN_sh,runM_sh]
theorem sh_eta (M:MemS):(MemS.sh ⟨M.cs,[],0⟩ M.lg M.base)=M:=by cases M;simp [MemS.sh]
def trsV (g:Gm):Nat -> MemS -> List (Eff × Bool)
 | 0,_=>[]
 | n+1,M=>((trV g M).e,(trV g M).em) :: trsV g n (trM g M)
theorem trsV_len (g:Gm):∀ (n:Nat) (M:MemS),(trsV g n M).length=n
 | 0,_=>rfl
 | n+1,M=>by rw [trsV,List.length_cons,trsV_len g n]
def effP:List (Eff × Bool) -> List Eff
 | []=>[]
 | x :: l=>(if x.2=true then [x.1] else [])++effP l
theorem effP_trs (g:Gm):∀ (n:Nat) (M:MemS),effP (trsV g n M)=effsV g n M
 | 0,_=>rfl
 | n+1,M=>by rw [trsV,effP,effP_trs g n,effsV]
theorem effP_app:∀ (l m:List (Eff × Bool)),effP (l++m)=effP l++effP m
 | [],m=>rfl
 | x :: l,m=>by rw [List.cons_append,effP,effP,effP_app l m,List.append_assoc]
theorem effP_len:∀ (l:List (Eff × Bool)),(effP l).length <= l.length
 | []=>Nat.le_refl _
 | x :: l=>by
  have:=effP_len l
  rw [effP,List.length_append,List.length_cons]
  split
  ·simp;omega
  ·simp;omega
theorem effP_yes {l:List (Eff × Bool)} {i:Nat} {x:Eff × Bool} (h:l[i]?=some x) (e:x.2=true):effP (l.take (i+1))=effP (l.take i)++[x.1]:=by
 rw [List.take_add_one,h,effP_app]
 show _++((if x.2=true then [x.1] else [])++[])=_
 rw [if_pos e];rfl
theorem effP_no {l:List (Eff × Bool)} {i:Nat} {x:Eff × Bool} (h:l[i]?=some x) (e:¬ x.2=true):effP (l.take (i+1))=effP (l.take i):=by
 rw [List.take_add_one,h,effP_app]
 show _++((if x.2=true then [x.1] else [])++[])=_
 rw [if_neg e];simp
theorem trs_head {g:Gm} {l:List (Eff × Bool)} {i r:Nat} {M:MemS} (h:l.drop i=trsV g (r+1) M):l[i]?=some ((trV g M).e,(trV g M).em) /\ l.drop (i+1)=trsV g r (trM g M):=by
 constructor
 ·have:=congrArg (·[0]?) h
  simpa [trsV] using this
 ·have:=congrArg List.tail h
  rwa [List.tail_drop] at this
end Go.Proofs.YtcfajdgeejeieaaGreatDoor
