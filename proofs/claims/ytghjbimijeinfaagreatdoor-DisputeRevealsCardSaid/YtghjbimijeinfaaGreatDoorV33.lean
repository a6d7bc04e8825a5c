import Derived.Test.YtghjbimijeinfaaGreatDoorRows
import Derived.Test.YtghjbimijeinfaaGreatDoorChecked
import Derived.ProofKit
import Derived.OpenShut
import Derived.Carry
import Derived.Lay
import Derived.LaidHandle
import Derived.ChangeSlices
import Derived.Lib.LaidTab
import Derived.MakeChecks
import Derived.Test.YtghjbimijeinfaaGreatDoorV32
set_option maxHeartbeats 4000000
set_option maxRecDepth 100000
set_option linter.all false
namespace Go.Proofs.YtghjbimijeinfaaGreatDoor
open Go.RowKit
theorem D6{S:Setup}(hS:SetN S){e:Int}(he:sizeOf S=e)(F:HL):Sp Tryz.prog 27 #[Setup.v S] [] F (λ u H'=>u=vI e /\ H'=[]):=he ▸ uJ S F hS
theorem M6(pp cb nb h lf uc cc:Nat)(v x:Int)(us:NU)(ks:CU)(F:HL)(hp:(pp,.lit [vI (h:Int),.map (some cb),.map (some nb)] 173 (0,0))∈F)(hx:ga ks (lf:Int)=some x)(hh:h <= 20)(hlf:lf <= 1000000):Sp Tryz.prog 28 #[vP pp 0,vI (lf:Int),vI v] (ap [(nb,.obj (fY us uc)),(cb,.obj (iO ks cc))] []) F (λ u H'=>∃x:Unit,H'=ap [(nb,.obj (fY ((xn h lf us uc (aI (lf:Int) v)).1) ((xn h lf us uc (aI (lf:Int) v)).2))),(cb,.obj (iO (fh ks cc (lf:Int) v) (eE ks cc (lf:Int))))] [] /\ u=.bool true) :=
 (JV pp cb nb h lf uc cc v x us ks F hp hx hh hlf).mono λ u H' h_=>⟨(),by rw[h_.2];rfl,h_.1⟩
theorem Kv(pp cb nb h uc:Nat)(us:NU)(r:Int)(F:HL)(hp:(pp,.lit [vI (h:Int),.map (some cb),.map (some nb)] 173 (0,0))∈F)(e:lM us ((h:Int),0)=r):Sp Tryz.prog 30 #[vP pp 0] (ap [(nb,.obj (fY us uc))] []) F (λ u H'=>∃x:Unit,H'=ap [(nb,.obj (fY us uc))] [] /\ u=.int .u64 r) :=
 (F4 pp cb nb h uc us F hp).mono λ u H' h_=>⟨(),by rw[h_.2];rfl,by rw[h_.1,e]⟩
theorem Aq(A0 AI:Option Addr)(n0 c0 nI cI:Nat)(xs xI:List Int)(i1 i3 i4:Int)(F:HL)(YO:pk F)(XQ:dp F)(UR:ArgD F A0 n0 xs)(VY:n0 <= 9223372036854775807)(Of:ArgD F AI nI xI)(hn2:nI <= 9223372036854775807)(Yw:rp i1)(hi3:rp i3)(hi4:rp i4):Sp Tryz.prog 4 #[.slice A0 n0 c0,vI i1,.slice AI nI cI,vI i3,vI i4] [] F (λ u H'=>u=.bool true /\ H'=[]):=by
 refine aas Tryz.func4 rfl mn (A:=[]) (Ts:=[]) rfl λ w0=>?_;refine ae 11 [] λ _=>aah (gF i3 3 (by decide) _) ?_;have hA1:=eC (n:=i3) hi3 3 (by decide);refine ai 1 [.nw] [bm (1+(aB i3 3))] λ _=>?_;obtain⟨cnt,aa9,adU⟩:∃cnt:Nat,aB (1+(aB i3 3)) 4=(cnt:Int) /\ cnt <= 3:=by have h_:=eC (n:=(1+(aB i3 3))) (by unfold rp;omega) 4 (by decide);exact⟨(aB (1+(aB i3 3)) 4).toNat,by omega,by omega⟩
 refine aai (Hp:=[]) (Tp:=[]) [] [] (PQ A0 AI n0 c0 nI cI cnt xs xI i1 (1+(aB i3 3)) _ (aq YO) UR.up VY Of.up hn2 Yw aa9 adU) ?_;rintro _ ⟨⟨S,nn⟩,⟨bp_,qs_,AR,cR,rs⟩,TS,TB,ER,RT⟩ ⟨rfl,adl,hG,TO,hB_,IF,Td,YD⟩;dsimp only at adl hG TO hB_ IF Td YD;obtain⟨X1,XV,XY,X0,XZ,XX,rfl⟩:=D5 adl;have hF:=Jw UR hG;have iS:=hF.pl;have VV:=hF.rn;have V0:=hF.dn;have hV_:=ST TO;have agt:=M5 TO;have acQ:=PO (nn:=nn) TO hF.val;have ang:=fU (S.mt nn) (S.mt nn).nb;have hj:(aB i1 5).toNat<5:=by have h_:=eC (n:=i1) Yw 5 (by decide);omega
 generalize (aB i1 5).toNat=jj at *;have hgr:∀i,i<cnt -> lF (S.mt nn).players ((fX S.players xI cnt).getD i []):=λ i hi=>Of.ex.elim λ _ h_=>tF h_ (by show 0 <= S.players;omega) cnt i hi;refine ae 27 (ow 1 16++(aab 4)) λ n2=>aal ((cnt:Int)=0) 48 (λ h3=>?_) λ h3=>?_
 ·refine ae 5 [] λ _=>aah (ri _ (aq YO) (aq XQ))<|ae 4 [] λ _=>?_;exact aap [] [] [] ⟨rfl,rfl⟩
 ·refine ae 8 (ow 1 16) λ _=>aai (Hp:=[]) (Tp:=[]) [] [] (DZ (S.mt nn) yJ (mZ (kv xs 3 % 3).toNat) bp_ cnt cR jj AR rs (fX S.players xI cnt) _ (NX TO (hG.sin _ (au 2) (ay 0))) (PP (hG.maps.2 _ (ay 0))) hV_ (by show S.rn <= _;omega) (by show S.dn <= _;omega) (by omega) acQ hj (λ t ht=>hB_.at (ay 1) hj t ht) (aq XQ) (IF.rowN (ay 2) Td) (YD _ (ay 3)) hgr (by omega)) ?_;rintro _ ⟨x4,S5,G6⟩ ⟨rfl,he7,hX8⟩;dsimp only at he7 hX8;refine ai 26 [.gen,.gen,.gen,.gen,.nw] [bm ((cnt:Int)-1)] λ _=>?_;obtain⟨tt,amy⟩:∃tt:Nat,cnt=tt+1:=⟨cnt-1,by omega⟩;have ahT:=he7.setV hV_;obtain⟨m,N_,hH_,hm_,aed,ahZ⟩:=PS hX8 he7 hV_ (by omega) adU hgr (show tt<cnt by omega) hj hB_;have ad9:SetN (S.mt nn):=⟨by show 0 <= S.players /\ S.players <= _;have h_:=TO.pl;omega,by show nn <= _;have h_:=TO.nb;omega⟩;refine aS 68 (congrArg (λ v_=>(vI v_:Value)) (show (cnt:Int)-1=(tt:Int) by omega))<|ae 8 [] λ _=>aah ((hH_ _ (ay 0) (ay 2) (aq XQ)).len _ (λ x hx=>hx))<|ae 1 [] λ _=>aS 73 (congrArg (λ v_=>(vI v_:Value)) (show (if 1>((m+1:Nat):Int) then 1 else ((m+1:Nat):Int))=((m+1:Nat):Int) from if_neg (by omega))) ?_;obtain⟨κ,acz,hκ_⟩:∃κ:Nat,aB i4 ((m+1:Nat):Int)=(κ:Int) /\ κ <= m:=by have h_:=eC (n:=i4) hi4 ((m+1:Nat):Int) (by omega);exact⟨(aB i4 ((m+1:Nat):Int)).toNat,by omega,by omega⟩
  have anV:=ahZ κ (by omega);have Xp:(N_ κ).cs.length <= 1000000:=by omega
  have agq:=xu S5 (N_ κ);have ahu:=jl Xp;refine aah (zU acz (by omega) _)<|ae 8 [] λ _=>aai (Hp:=[]) (Tp:=[]) [] [] ((hH_ _ (ay 0) (ay 2) (aq XQ)).rev κ (by omega) _ (λ x hx=>hx)) ?_;rintro _ ⟨⟨lA_,Uz,X8⟩,E_,P_⟩ ⟨rfl,acX,TN,V3⟩;dsimp only at acX TN V3;obtain⟨lb,lo,lf_,rfl,rfl,am5,ahl,Vz⟩:=acX.open (by rw[TN];exact List.length_pos_of_mem (iP (S:=S5) (M:=N_ κ) (y:=0) |>.2 (.inl (.inl (.inl ⟨by decide,by decide⟩)))));refine qO 0 (x:=(lb,.rows 3 (lo+Uz) (bu Cf lf_) 81 (0,0)))<|ae 4 [] λ _=>aak [] []<|ag [] [0,1,2,4,6] (ow 2 16)<|aac [] 3 (λ X_=>((hH_ _ (aQ 1) (aQ 3) (sf XQ)).inn κ (by omega) _ (λ x hx=>hx)))<|aac [] 5 (λ X_=>(D6 ad9 (show sizeOf (S.mt nn)=((N_ κ).cs.length:Int) by omega) _))<|aae 7 (aaf [] (Hp:=[]) (Tp:=[]) [] [] (Ai lb lo (lo+Uz) Uz (cW S5 (N_ κ)).length lf_ X8 (jB S5 (N_ κ)) (N_ κ).cs _ Xp (au 0) (by omega) TN (by omega) (λ k hk=>Vz k (by omega)) (V3 _ (ay 0))) ?_);rintro _ ⟨⟨pp,cb,nb⟩,⟨ks0,cc0,us0,uc0⟩⟩ ⟨rfl,aec⟩;dsimp only at aec;refine ag [] [8,9,10,11,12] []<|aad<|ae 18 (ow 5 16) λ _=>aah (D6 ad9 (show sizeOf (S.mt nn)=((N_ κ).cs.length:Int) by omega) _)<|ai 6 [.mk ((N_ κ).cs.length) ((N_ κ).cs.length)] [((N_ κ).cs.length:Int)=(((N_ κ).cs.length:Nat):Int) /\ ((N_ κ).cs.length:Int)=(((N_ κ).cs.length:Nat):Int) /\ (N_ κ).cs.length <= (N_ κ).cs.length /\ 8*((N_ κ).cs.length) <= 140737488355328 /\ 1=1 /\ (N_ κ).cs.length <= 9223372036854775807] λ n9=>ez 0 (congrArg (λ v_=>(.rows 1 ((N_ κ).cs.length) v_ 3 (0,0):Blk)) (show (mU [vI 0])=(aM (List.replicate (N_ κ).cs.length 0)) from (pV _)))<|ae 5 [] λ _=>aan (σ:=Nat) (λ i_=>⟨[(11,vP (n2+0) 0),(12,vP bp_ 0),(14,.slice AR cnt cR),(16,.iface 164 (vP x4 0)),(18,vI (tt:Int)),(19,vI (κ:Int)),(20,vS lb (lo*3) ((cW S5 (N_ κ)).length) Uz),(21,vP pp 0),(23,vS (n9+0) 0 ((N_ κ).cs.length) ((N_ κ).cs.length)),(24,vI (i_:Int))],[((n9+0),.rows 1 ((N_ κ).cs.length) (aM (ia (List.replicate (N_ κ).cs.length 0) (((jB S5 (N_ κ)).take i_).map λ j=>(j,(N_ κ).cs.getD j 0)))) 3 (0,0)),(pp,.lit [vI (aA (N_ κ).cs.length:Int),.map (some cb),.map (some nb)] 173 (0,0)),(cb,.obj (iO ks0 cc0)),(nb,.obj (fY us0 uc0)),(lb,.rows 3 (lo+Uz) (bu Cf lf_) 81 (0,0)),((n2+1),.lit [.slice X1 XV XY,vI X0,vI XZ,vI XX] 47 (0,0)),((n2+0),.lit (Setup.l (S.mt nn)) 31 (0,0)),(S.bb,.rows 9 S.bR (gz S.bods) 106 (0,0))],[P_,G6,TS,TB,ER,RT],i_ <= (cW S5 (N_ κ)).length,(cW S5 (N_ κ)).length-i_⟩) 0 [0,1,2,3,4,5,6,7] [0,1,2,3,4,5] (aaU _) ?_;rintro i_ Yu Vn;refine ae 9 [] λ _=>aal ((i_:Int)<(((cW S5 (N_ κ)).length:Nat):Int)) 102 (λ TH=>?_) λ TH=>?_
  ·refine ae 7 [] λ _=>?_;obtain⟨yy,pb_,po_,pN_,pf_,pc_,Ye,acI,Vs,_⟩:=(V3 _ (λ x hx=>hx)).get (k:=i_) (by omega);refine ai 6 [.ix i_,.row 4 (lo+i_) 0] [(lo*3+i_*3)=(lo+i_)*3+0 /\ (lo+i_)<(lo+Uz),(i_:Int)=((i_:Nat):Int) /\ i_<((cW S5 (N_ κ)).length)] λ _=>aS 109 (congrArg (λ v_=>(vI v_:Value)) (congrArg Lf.i ((Vz i_ (by omega)).trans Vs)))<|ae 2 [] λ _=>cD 111 (abz (show ¬ (yy:Int)<0 by omega))<|ai 7 [.ix i_,.row 4 (lo+i_) 0] [(lo*3+i_*3)=(lo+i_)*3+0 /\ (lo+i_)<(lo+Uz),(i_:Int)=((i_:Nat):Int) /\ i_<((cW S5 (N_ κ)).length)] λ _=>aS 116 (congrArg (λ v_=>(vI v_:Value)) (congrArg Lf.i ((Vz i_ (by omega)).trans Vs)))<|ae 4 [] λ _=>cD 120 (abz (show ¬ (yy:Int) >= (((N_ κ).cs.length:Nat):Int) by omega))<|ae 3 [] λ _=>aak [12] []<|aF [] [0,1,2,6,7,3,8,4,9,5,10] [.ix i_,.ix i_,.row 4 (lo+i_) 0,.row 4 (lo+i_) 1] [((lo*3+i_*3)+1)=(lo+i_)*3+1 /\ (lo+i_)<(lo+Uz),(lo*3+i_*3)=(lo+i_)*3+0 /\ (lo+i_)<(lo+Uz),(i_:Int)=((i_:Nat):Int) /\ i_<((cW S5 (N_ κ)).length),(i_:Int)=((i_:Nat):Int) /\ i_<((cW S5 (N_ κ)).length)]<|nz 126 (congrArg (λ v_=>(vI v_:Value)) (congrArg Lf.i ((Vz i_ (by omega)).trans Vs)))<|nz 131 (congrArg (λ v_=>(vI v_:Value)) (congrArg Lf.v ((Vz i_ (by omega)).trans Vs))) ?_;refine aF [] [11] [.ix yy] [(yy:Int)=((yy:Nat):Int) /\ yy<((N_ κ).cs.length)]<|aae 12 (eh [] [.row 0 yy 0] [(0+yy*1)=yy*1+0 /\ yy<((N_ κ).cs.length)] λ _=>?_);refine aad<|ai 7 [.nw] [bm ((i_:Int)+1)] λ _=>ez 0 (congrArg (λ v_=>(.rows 1 ((N_ κ).cs.length) v_ 3 (0,0):Blk)) (show (eF (aM (ia (List.replicate (N_ κ).cs.length 0) (((jB S5 (N_ κ)).take i_).map λ j=>(j,(N_ κ).cs.getD j 0)))) yy 0 (vI ((N_ κ).cs.getD yy 0)))=(aM (ia (List.replicate (N_ κ).cs.length 0) (((jB S5 (N_ κ)).take (i_+1)).map λ j=>(j,(N_ κ).cs.getD j 0)))) from (by rw[gt (by rw[gm,List.length_replicate];exact acI),Ye,List.map_append];exact congrArg aM (oy _ _ (yy,_)).symm)))<|aS 24 (congrArg (λ v_=>(vI v_:Value)) (show (i_:Int)+1=((i_+1:Nat):Int) by omega)) ?_;refine Vn (i_+1) [0,1,2,3,4,5,6,7] [0,1,2,3,4,5] ?_
   try dsimp only
   exact⟨by omega,by omega⟩
  ·refine ae 7 [] λ _=>?_;obtain⟨RV,hRV⟩:∃RV,RV=Gf S5 (N_ κ):=⟨_,rfl⟩;have aeb:RV.length=(N_ κ).cs.length:=by rw[hRV,An]
   refine ez 0 (congrArg (λ v_=>(.rows 1 ((N_ κ).cs.length) v_ 3 (0,0):Blk)) (show (aM (ia (List.replicate (N_ κ).cs.length 0) (((jB S5 (N_ κ)).take i_).map λ j=>(j,(N_ κ).cs.getD j 0))))=(aM RV) from (by rw[hRV,Gf,List.take_of_length_le (by rw[tT];omega)])))<|ae 2 [] λ _=>aai (Hp:=[]) (Tp:=[]) [] [] (sR (n9+0) RV (N_ κ).cs.length 40 ((N_ κ).cs.length) _ aeb (au 0) (by omega) (by omega) (aaS _)) ?_;rintro _ ⟨mq,Tq⟩ ⟨rfl,VG⟩;dsimp only at VG;refine ae 7 [] λ _=>aai (Hp:=[]) (Tp:=[]) [] [] (hB_.at (ay 4) hj (tt:Int) (by omega) _ (λ x hx=>hx)) ?_;rintro _ ⟨Wz,Vb,TM⟩ ⟨rfl,TP⟩;dsimp only at TP;refine ae 9 (aab 4) λ n17=>?_;obtain⟨bR,oR,fR,rfl,rfl,TJ,hrc,hfd⟩:=IF.open (by omega);refine qO 6 (x:=(bR,.rows 1 (oR+cR) (bu jz fR) 56 (0,0))) ?_;obtain⟨bk,ok,Nk,fk,ck,ek,hIk,hik,hxk,hck⟩:=(YD RT (λ x hx=>hx)).get (k:=tt) (by omega);have ahz:fR.getD (oR+tt) jz.dflt=rs.getD tt jz.dflt:=hfd tt (by omega);have ada:=hgr tt (by omega);have adb:(((fX S.players xI cnt).getD tt [])).length <= 1000000:=by have h_:=ada.1;have Tu:=hV_.pl;omega
   have aj7:=he7.size;obtain⟨agN,_,Xi⟩:=Gg (g:=(eU S5 (jj,0) ((fX S.players xI cnt).getD tt []))) (g':=(eU (S.mt nn) (jj,0) ((fX S.players xI cnt).getD tt []))) (PT he7 (jj,0) ((fX S.players xI cnt).getD tt [])) ahT (M:=N_ κ) (N:=⟨RV,[],0⟩) hRV rfl (show ((N_ κ).cs.length:Int)=sizeOf S5 by omega) (aed κ hκ_).1;have ZD:ia (N_ κ).cs ((jB S5 (N_ κ)).map λ j=>(j,(eR (eU (S.mt nn) (jj,0) ((fX S.players xI cnt).getD tt [])) ⟨RV,[],0⟩).get (j:Int)))=(N_ (κ+1)).cs:=Xi.trans (congrArg MemS.cs (aed κ hκ_).2).symm;clear Xi;refine aak [9] []<|aF [] [0,2,3,4,5,6,1,7,8] (ow 8 16++[.own 1,.own 1,.own 1,.own 1,.ix tt,.row 0 (oR+tt) 0]) [(oR*1+tt*1)=(oR+tt)*1+0 /\ (oR+tt)<(oR+cR),(tt:Int)=((tt:Nat):Int) /\ tt<cnt]<|nz 149 (congrArg (λ v_:Rw=>Value.slice v_.A v_.n v_.c) (ahz.trans ek))<|aae 9 (aaf [] [] [1] (jk (g:=(⟨S.mt nn,Wz,fP jj,Vb,bD jj 0,bD jj 1,bD jj 2,0,bk,ok,((fX S.players xI cnt).getD tt []).length,ck,Nk,fk,kz jj⟩:Gm)) (g0:=(eU (S.mt nn) (jj,0) ((fX S.players xI cnt).getD tt []))) (og (j:=(jj,0)) hxk) mq ⟨RV,[],0⟩ 20 Tq _ VG ⟨(NX TO (hG.sin _ (au 9) (ay 3))),(ay 5) _ hIk,⟨hik,adb⟩,aq XQ,TP.code hj (ay 0)⟩ agN 0 rfl) ?_);rintro _ YS ⟨Wi,rfl⟩;generalize hR_:eR (eU (S.mt nn) (jj,0) ((fX S.players xI cnt).getD tt [])) ⟨RV,[],0⟩=R_ at Wi ZD;refine aad<|ae 8 [] λ _=>aan (σ:=Nat × CU × Nat × NU × Nat) (λ ⟨z_,ks,cc,us,uc⟩=>⟨[(16,.iface 164 (vP x4 0)),(18,vI (tt:Int)),(19,vI (κ:Int)),(20,vS lb (lo*3) ((cW S5 (N_ κ)).length) Uz),(21,vP pp 0),(25,vP mq 0),(28,vI (z_:Int))],[(bR,.rows 1 (oR+cR) (bu jz fR) 56 (0,0)),((n17+0),.lit [.slice Wz (fP jj) Vb,vI (bD jj 0),vI (bD jj 1),vI (bD jj 2)] 47 (0,0)),((n9+0),.rows 1 ((N_ κ).cs.length) (aM RV) 3 (0,0)),(pp,.lit [vI (aA (N_ κ).cs.length:Int),.map (some cb),.map (some nb)] 173 (0,0)),(cb,.obj (iO ks cc)),(nb,.obj (fY us uc)),(lb,.rows 3 (lo+Uz) (bu Cf lf_) 81 (0,0)),((n2+1),.lit [.slice X1 XV XY,vI X0,vI XZ,vI XX] 47 (0,0)),((n2+0),.lit (Setup.l (S.mt nn)) 31 (0,0)),(S.bb,.rows 9 S.bR (gz S.bods) 106 (0,0))],[YS,TM,P_,G6,TS,TB,RT],z_ <= (cW S5 (N_ κ)).length /\ PI (ia (N_ κ).cs (((jB S5 (N_ κ)).take z_).map λ j=>(j,R_.get (j:Int)))) (jB S5 (N_ κ)) ks us,(cW S5 (N_ κ)).length-z_⟩) (0,ks0,cc0,us0,uc0) [0,1,2,3,4,5,6,7,8,9] [0,1,2,3,4,5,6] (⟨aaU _,aec⟩) ?_;rintro⟨z_,ks,cc,us,uc⟩ ⟨Yu,abh⟩ afP;refine ae 9 [] λ _=>aal ((z_:Int)<(((cW S5 (N_ κ)).length:Nat):Int)) 154 (λ h20=>?_) λ h20=>?_
   ·refine ae 6 [] λ _=>?_;obtain⟨yy,pb_,po_,pN_,pf_,pc_,Ye,acI,Vs,_⟩:=(V3 _ (λ x hx=>hx)).get (k:=z_) (by omega);have acJ:yy∈(jB S5 (N_ κ)):=List.mem_of_mem_take (i:=z_+1) (by rw[Ye];exact aau _ (List.mem_singleton.2 rfl));have acK:=abh.cel yy;rw[if_pos acJ] at acK;refine aak [13] []<|aF [] [0,1,2,6,7,8,3,9,4,10,5,11] [.ix z_,.ix z_,.row 6 (lo+z_) 0,.row 6 (lo+z_) 0] [(lo*3+z_*3)=(lo+z_)*3+0 /\ (lo+z_)<(lo+Uz),(lo*3+z_*3)=(lo+z_)*3+0 /\ (lo+z_)<(lo+Uz),(z_:Int)=((z_:Nat):Int) /\ z_<((cW S5 (N_ κ)).length),(z_:Int)=((z_:Nat):Int) /\ z_<((cW S5 (N_ κ)).length)]<|nz 162 (congrArg (λ v_=>(vI v_:Value)) (congrArg Lf.i ((Vz z_ (by omega)).trans Vs)))<|nz 168 (congrArg (λ v_=>(vI v_:Value)) (congrArg Lf.i ((Vz z_ (by omega)).trans Vs)))<|aac [] 12 (λ X_=>(ar (yy:Int) Wi (aQ 0)))<|aae 13 (aaf [] [5,4] [] (M6 pp cb nb (aA (N_ κ).cs.length) yy uc cc (R_.get (yy:Int)) _ us ks _ (au 3) acK ahu.1 (by omega)) ?_);rintro _ ⟨⟩ rfl;refine ag [] [14] []<|aad<|ai 10 [.nw] [bm ((z_:Int)+1)] λ _=>aS 28 (congrArg (λ v_=>(vI v_:Value)) (show (z_:Int)+1=((z_+1:Nat):Int) by omega)) ?_;refine afP (z_+1,(fh ks cc (yy:Int) (R_.get (yy:Int))),(eE ks cc (yy:Int)),((xn (aA (N_ κ).cs.length) yy us uc (aI (yy:Int) (R_.get (yy:Int)))).1),((xn (aA (N_ κ).cs.length) yy us uc (aI (yy:Int) (R_.get (yy:Int)))).2)) [2,3,4,5,1,0,6,7,8,9] [0,1,2,3,4,5,6] ?_
    try dsimp only
    have h_:=abh.set (lf:=yy) (by rw[gm];exact Xp) acJ (R_.get (yy:Int)) uc cc;rw[gm] at h_;refine⟨⟨by omega,?_⟩,by omega⟩;rw[Ye,List.map_append];exact(oy _ _ (yy,R_.get (yy:Int))).symm ▸ h_
   ·refine ae 7 [] λ _=>?_;have ac_:=abh.root;rw[gm,List.take_of_length_le (by rw[tT];omega),ZD] at ac_;refine ae 2 [] λ _=>aai [5] [] (Kv pp cb nb (aA (N_ κ).cs.length) uc us (gx (N_ (κ+1)).cs) _ (au 3) ac_) ?_;rintro _ ⟨⟩ rfl;refine ai 4 [.nw] [bm ((κ:Int)+1)] λ _=>aS 177 (congrArg (λ v_=>(vI v_:Value)) (show (κ:Int)+1=((κ+1:Nat):Int) by omega))<|aah ((hH_ _ (ay 3) (ay 5) (aq XQ)).inn (κ+1) (by omega) _ (λ x hx=>hx))<|ae 2 [] λ _=>cD 180 (abA (rfl:gx (N_ (κ+1)).cs=_))<|aah (ri _ (aq YO) (aq XQ))<|ae 4 [] λ _=>?_;exact aap [] [] [] ⟨rfl,rfl⟩
open Go.ChangeShapes Go.WideShapes Go.ChangeAt
theorem Kw:ownKnob Tryz.prog.godebug=none:=by kernel_rfl
theorem Kx:laidOutB Tryz.prog=true:=by kernel_rfl
theorem mS{n:Int}(h:(Lit.int .i64 n).wf=true):-9223372036854775808 <= n /\ n <= 9223372036854775807:=bounds_i64 h
section
variable {H:Type} {enc:TypeId × Value -> H} {P:Program} {W W':World}
theorem nE(hl:laidOutB P=true)(hb:Below W.heap.size W W'):∀ {ts:List TypeId} {vs:List Value} {ds:List (DataW H)} {ps:List MemPlace},(∀t∈ts,P.readableRec t=true /\ t<P.types.size) ->
  DataW.TrodAll enc P W 0 (λ _=>true) true ts vs ds ps -> (∀x∈ps,x.block<W.heap.size) -> DataW.TrodAll enc P W' 0 (λ b=>decide (b<W.heap.size)) true ts vs ds ps
 | [],_,_,_,_,h,_=>by
  obtain⟨rfl,rfl,rfl⟩:=trodAll_nil h;exact trodAll_mk0
 | t::ts,_,_,_,ht,h,g_=>by
  obtain⟨v,vs1,d,ds1,a,b,rfl,rfl,rfl,h1,h2⟩:=trodAll_cons h;have h3:=ht t (by simp);exact trodAll_cons_mk (Below.trod hl h3.1 h3.2 h1 hb (λ x hx=>g_ x (by simp[hx]))) (nE hl hb (λ t h=>ht t (aaC _ h)) h2 (λ x hx=>g_ x (by simp[hx])))
theorem Ky{f:Func}{s:ChangeSpec}{apart fresh handsOn:Bool}{args:Array Value}{v:Value}{ds:List (DataW H)}{before:List MemPlace}(hl:laidOutB P=true)
  (hts:∀t∈f.params.toList,P.readableRec t=true /\ t<P.types.size)
  (hW:DataW.Whole enc P f.params.toList s.vars apart W args.toList ds [] before) (hs:s.vars=[])
  (hA:DataW.TrodAll enc P W 0 (λ _=>true) true f.params.toList args.toList ds before)
  (L_:∀ (b:Nat) (sp:Nat -> Bool) (hd:Bool),DataW.TrodAll enc P W' b sp hd f.resultTypes.toList (v.resultList f.resultTypes.size) (s.fn H (ds++[])).results [])
  (V1:(s.fn H (ds++[])).args=ds) (acP:∀sp,DataW.TrodVars enc P W' sp s.vars (s.fn H (ds++[])).vars []) (hb:Below W.heap.size W W') :
  s.post enc P f apart fresh handsOn false W args v W':=by
 refine⟨ds,[],before,[],before,[],hW,L_ _ _ _,?_,acP _,hb.frame _,λ h=>by cases h⟩;rw[V1];exact nE hl hb hts hA (λ x hx=>hW.lt x hx)
end
def tX:Obj -> Blk
 | .cells cs ty fz=>.rows 1 cs.size (λ i _=>cs.getD i default) ty fz
 | o=>.obj o
theorem mT(o:Obj):(tX o).den=o:=by
 cases o with
 | cells cs ty fz =>
  show Obj.cells ⟨bC 1 (λ i _=>cs.getD i default) cs.size⟩ ty fz=_;congr 1;have e:bC 1 (λ i _=>cs.getD i default) cs.size=cs.toList:=by
   refine iT (by simp) ?_;intro i k hi hk;obtain rfl:k=0:=by omega
   simp[Array.getD,hi]
  rw[e]
 | _=>rfl
def mr(w:World):HL:=List.ofFn (λ k:Fin w.heap.size=>(k.1,tX w.heap[k.1]))
theorem tY{w:World}{k:Nat}{o:Obj}(h:w.heap[k]?=some o):(k,tX o)∈mr w:=by
 obtain⟨hk,he⟩:=Array.getElem?_eq_some_iff.1 h;exact List.mem_ofFn.2 ⟨⟨k,hk⟩,by simp[he]⟩
theorem Cw(w:World):Rel (mr w) w:=by
 refine⟨λ x hx=>?_,?_⟩
 ·obtain⟨k,rfl⟩:=List.mem_ofFn.1 hx;simp[mT]
 ·unfold mr;rw[List.map_ofFn];have e:List.ofFn ((λ x:Nat × Blk=>x.1) ∘ λ k:Fin w.heap.size=>(k.1,tX w.heap[k.1]))=List.range w.heap.size:=by
   apply List.ext_getElem
   ·simp
   ·intro i h1 h2;simp
  rw[e];exact List.nodup_range
theorem Gl{P:Program}{f:FuncId}{args:Array Value}{v:Value}(w:World)(h:Sp P f args [] (mr w) (λ u H'=>u=v /\ H'=[])):Calls P f args w λ e w'=>e=.returned v /\ Below w.heap.size w w':=by
 refine(h w (Cw w)).mono ?_;rintro e w' ⟨u,H',rfl,⟨rfl,rfl⟩,G_,hB⟩;refine⟨rfl,hB.os,hB.tape,hB.output,hB.size,λ k hk=>?_⟩;have:=G_.holds (k,tX w.heap[k]) (by rw[List.nil_append];exact tY (by simp[hk]));rw[this];simp[mT,hk]
theorem Ar{H:Type}{enc:TypeId × Value -> H}{w:World}{r:Reach}{b0:Nat}{v:Value}{d:DataW H}{ps:List MemPlace}(ID:Value.okWide Tryz.prog w r b0 22 v)(hd:DataW.Trod enc Tryz.prog w 0 (λ _=>true) true 22 v d ps) :
  ∃ (A:Option Addr) (n cap:Nat) (xs:List Int),v=.slice A n cap /\ n <= 9223372036854775807 /\ ArgL (mr w) A n xs /\ n <= cap:=by
 obtain⟨a0,len,cap,rfl⟩:=okWide_slice Tryz.underlying22 ID;obtain⟨fuel,hf⟩:=hd;rcases open_ints Tryz.underlying22 Tryz.underlying3 (by kernel_rfl) hf with ⟨Vg,hx⟩|⟨a,amc,f_,zs,Vg,_,hl,hm,hz,hx,Ta,hwz⟩
 ·simp[Value.cells] at Vg;obtain⟨rfl,rfl,rfl⟩:=Vg;exact⟨none,0,0,[],rfl,by omega,.zero _,aaS _⟩
 ·simp[Value.cells] at Vg;obtain⟨rfl,rfl,rfl⟩:=Vg;unfold maxLen at hm;simp at hz;rcases Nat.eq_zero_or_pos len with h0|aaI
  ·subst h0;exact⟨some a,0,_,[],rfl,by omega,.zero _,aaU _⟩
  ·have hlz:len <= zs.length:=by omega
   obtain⟨b,off,spot⟩:=a;have c0:=Ta 0 (by omega);have Vu:spot=none:=by
    cases spot with
    | none=>rfl
    | some s=>simp[Addr.add,World.cell?] at c0;split at c0 <;> simp at c0
   subst Vu;have hc:∀i,i<zs.length -> w.cell? ⟨b,off+i,none⟩=some (.int .i64 (zs.getD i 0)):=λ i hi=>by
    have:=Ta i hi;unfold Addr.add at this
    by_cases h:i=0
    ·subst h;simpa using this
    ·rw[if_neg h] at this;exact this
   have h0:=hc 0 (by omega);unfold World.cell? at h0;split at h0
   case h_2=>cases h0
   rename_i cs ty fz hb;refine⟨some ⟨b,off,none⟩,len,cap,zs.take len,rfl,by omega,?_,hl⟩;have hlen:(zs.take len).length=len:=by rw[aaW];omega
   have Vg:∀k,k<len -> cs[off+k]?=some (vI ((zs.take len).getD k 0)):=λ k hk=>by
    have h1:=hc k (by omega);unfold World.cell? at h1;rw[show w.heap[(⟨b,off+k,none⟩:Addr).block]?=some (.cells cs ty fz) from hb] at h1;have h2:cs[off+k]?=some (.int .i64 (zs.getD k 0)):=by simpa using h1
    rw[h2];simp[aaK,List.getElem?_take,hk]
   have ahd:=tY hb;have hle:off+len <= cs.size:=by
    have h1:=Vg (len-1) (by omega);have h2:=(Array.getElem?_eq_some_iff.1 h1).1;omega
   have:=ArgL.cells (F:=mr w) b off cs.size (λ i _=>cs.getD i default) ty fz (zs.take len) ahd (by rw[hlen];exact hle) (λ k hk=>by
    rw[hlen] at hk;have h1:=Vg k hk;simp only[Array.getD_eq_getD_getElem?];rw[h1];rfl) (λ k hk=>by
    rw[hlen] at hk;have:(zs.take len).getD k 0∈zs:=by
     rw[aaK,aa3 (by omega)];exact List.mem_of_mem_take (List.getElem_mem _)
    exact mS (hwz _ this))
   rw[hlen] at this;exact this
theorem uu{H:Type}{enc:TypeId × Value -> H}{P:Program}{w:World}{base:Nat}{sp:Nat -> Bool}{held:Bool}{fuel:Nat}{t e:TypeId}{n m:Nat}{k:IntKind}{fs:Array Field}{cs:List Value}{zs:List (List Int)}{p:List MemPlace}
  (ht:P.underlying t=some (.array n e)) (he:P.underlying e=some (.struct fs)) (hce:P.cellsOf e=m) (hct:P.cellsOf t=n*m) (hm:0<m) (TJ:fs.toList.length=m)
  (hf:∀ (j:Nat) f,fs.toList[j]?=some f -> P.underlying f.type=some (.int k) /\ P.cellsOf f.type=1 /\ f.offset=j) (hz:∀z∈zs,z.length=m)
  (h:DataW.trod enc P w base sp held fuel t cs=some (.agg (zs.map λ z=>.agg (z.map λ x=>.lit (.int k x))),p)) :
  cs.length=n*m /\ zs.length=n /\ ∀i j,i<n -> j<m -> cs[i*m+j]?=some (.int k ((zs.getD i []).getD j 0)):=by
 cases fuel with
 | zero=>simp[DataW.trod] at h
 | succ fuel =>
  simp only[DataW.trod,ht,hce,hct] at h;split at h
  case isFalse=>cases h
  rename_i hl;obtain⟨xs,hmm,hx⟩:=Option.map_eq_some_iff.1 h;have hxs:xs.map (·.1)=zs.map λ z=>(DataW.agg (z.map λ x=>.lit (.int k x)):DataW H):=by
   have:=congrArg Prod.fst hx;simpa using this
  have hxl:xs.length=n:=by simpa using Lib.mapM_length hmm
  have Vq:zs.length=n:=by
   have:=congrArg List.length hxs;simp at this;omega
  refine⟨hl,Vq,λ i j hi hj=>?_⟩;obtain⟨b,hb,hfb⟩:=Lib.mapM_at hmm i i (by simp[hi]);have hbz:b.1=.agg ((zs.getD i []).map λ x=>.lit (.int k x)):=by
   have h2:(xs.map (·.1))[i]?=some b.1:=by simp[hb]
   rw[hxs,abv,aa3 (by omega)] at h2;simp only[Option.map_some,Option.some.injEq] at h2;rw[<- h2,aaK,aa3 (by omega)];rfl
  have hzi:(zs.getD i []).length=m:=by
   rw[aaK,aa3 (by omega)];exact hz _ (List.getElem_mem _)
  cases fuel with
  | zero=>simp[DataW.trod] at hfb
  | succ fuel =>
   have Yy:=hfb;simp only[DataW.trod,he,hce] at Yy;split at Yy
   case isFalse=>cases Yy
   rename_i BY;obtain⟨ys,hym,hy⟩:=Option.map_eq_some_iff.1 Yy;have hys:ys.map (·.1)=(zs.getD i []).map λ x=>(DataW.lit (.int k x):DataW H):=by
    have:=congrArg Prod.fst hy;rw[hbz] at this;simpa using this
   have hfj:fs.toList[j]?=some (fs.toList[j]'(by omega)):=aa3 (by omega);obtain⟨c,hc,hfc⟩:=Lib.mapM_at hym j _ hfj;obtain⟨f1,f2,f3⟩:=hf j _ hfj;rw[f2,f3] at hfc;obtain⟨x,hcx,hcd,_⟩:=DataW.trod_int f1 hfc;have h1:(((cs.drop (i*m)).take m).drop j).take 1=[.int k x]:=hcx;have h2:cs[i*m+j]?=some (.int k x):=by
    have:=congrArg (·[0]?) h1;simpa [List.getElem?_take,List.getElem?_drop,hj] using this
   have h3:(ys.map (·.1))[j]?=some (DataW.lit (.int k x):DataW H):=by simp[hc,hcd]
   rw[hys,abv,aa3 (by omega)] at h3;simp only[Option.map_some,Option.some.injEq,DataW.lit.injEq,Lit.int.injEq,true_and] at h3;have h4:∀l:List Int,(hl:j<l.length) -> l[j]=l.getD j 0:=λ l hl=>by simp[aaK,hl]
   rw[h2,<- h3,h4 _ (by omega)]
theorem lr{H:Type}{enc:TypeId × Value -> H}{a:Assume}{C:Checked}{os:Os}{f:FuncId}{fn:Func}{s:ChangeSpec}{conds:List PathCond}{apart fresh handsOn again:Bool}{X:World -> Array Value -> Prop}
  (hX:∀ (w w':World) (args:Array Value),w.heap=w'.heap -> X w args -> X w' args)
  (own:ownKnob C.prog.godebug=none) (started:os.Started) (ZU:C.prog.inits.idxOf? f=none) (hfn:C.prog.funcs[f]?=some fn)
  (witness:∃ (w:World) (tape:Tape) (i:Input),w.os=os /\ (w.forCall tape i).Shaped C.prog /\ i.vars=[] /\ Input.okWide C.prog (w.forCall tape i) .any w.heap.size f i /\
   ((s.pre enc C.prog fn conds apart (w.forCall tape i).memory i.args /\ X (w.forCall tape i).memory i.args) /\ sizedMet enc C.prog fn (OpenSpec.ofChange s) apart (w.forCall tape i).memory i.args) /\ a.holds C.prog (lone (Frame.enter C.prog f i.args .normal) [] (w.forCall tape i)))
  (XF:∀ (W:World) (base:Nat) (args:Array Value) (ds gs:List (DataW H)) (before:List MemPlace),W.ShapedOpen C.prog ->
   (∀ (j:Nat) t v,fn.params[j]?=some t -> args[j]?=some v -> Value.okWide C.prog W .any base t v) ->
   DataW.Whole enc C.prog fn.params.toList s.vars apart W args.toList ds gs before -> X W args ->
   Calls C.prog f args W λ e W'=>∃v,e=.returned v /\ s.post enc C.prog fn apart fresh handsOn again W args v W') :
  ReturnsInHanded a C os f .any (λ w args=>(s.pre enc C.prog fn conds apart w args /\ X w args) /\ sizedMet enc C.prog fn (OpenSpec.ofChange s) apart w args) (s.post enc C.prog fn apart fresh handsOn again):=by
 refine returnsInHanded_of_calls own started ZU witness ?_;intro w tape i _ Wv _ dO S4 ahs;obtain⟨_,_,_,fn',ahB,_,_,_,_,ID⟩:=dO;have e:fn'=fn:=Option.some.inj (ahB.symm.trans hfn);subst e;obtain⟨⟨⟨ds,gs,before,hw,hc⟩,hx⟩,hz⟩:=S4;have Z8:=DataW.Whole.of_heap (w':=w.forCall tape i) (by rfl) hw;refine(XF (w.forCall tape i) w.heap.size i.args ds gs before Wv ID Z8 (hX _ _ _ (by rfl) hx)).mono λ e W' ⟨v,he,hp⟩=>?_;subst he;exact ChangeSpec.post_blind hp
def ceZ:List (List Int):=[[0,0],[0,1],[0,1],[1,0],[1,1],[2,0],[0,1],[0,1],[0,1],[2,1],[2,1],[2,1],[2,1],[1,1],[2,1],[2,1],[2,1],[1,1],[0,0],[1,0],[2,0],[0,0]]
def D7:Nat -> Nat -> Value:=λ i j=>.int .i64 ((ceZ.getD i []).getD j 0)
theorem Kz:(Blk.rows 2 22 D7 302 (0,0)).den=(Blk.lit tC 302 (0,0)).den:=by kernel_rfl
def efZ:List (List Int):=oQ.map λ z=>[z.1,z.2.1,z.2.2]
theorem Au(g:Nat)(t:TypeId)(hg:g<Tryz.prog.globals.size)(h0:(((begin Tryz.prog (λ _ _=>0) default).world.heap[g]?).bind Obj.row?).map (·.2)=some t){W:World}(hs:W.ShapedOpen Tryz.prog):∃cs,W.heap[g]?=some (.cells cs t (0,0)):=by
 cases h:((begin Tryz.prog (λ _ _=>0) default).world.heap[g]?).bind Obj.row? with
 | none=>rw[h] at h0;cases h0
 | some x =>
  obtain⟨z,t'⟩:=x;rw[h] at h0;simp only[Option.map_some,Option.some.injEq] at h0;subst h0;obtain⟨cs,h1,_⟩:=hs.1 g z t' hg h;exact⟨cs,h1⟩
def KA(P:Program)(e:TypeId)(m:Nat):Bool :=
 match P.underlying e with
 | some (.struct fs)=>decide (fs.toList.length=m) && (List.range m).all λ j =>
  match fs.toList[j]? with
  | some f=>(match P.underlying f.type with|some (.int .i64)=>true|_=>false) && decide (P.cellsOf f.type=1) && decide (f.offset=j)
  | none=>false
 | _=>false
theorem Gn{P:Program}{e:TypeId}{m:Nat}(h:KA P e m=true):∃fs:Array Field,P.underlying e=some (.struct fs) /\ fs.toList.length=m /\
  ∀ (j:Nat) f,fs.toList[j]?=some f -> P.underlying f.type=some (.int .i64) /\ P.cellsOf f.type=1 /\ f.offset=j:=by
 unfold KA at h;split at h
 case h_2=>cases h
 rename_i fs hfs;rw[abe] at h;have hm:fs.toList.length=m:=abq h.1;refine⟨fs,hfs,hm,λ j f hj=>?_⟩;have hjm:j<m:=by rw[<- hm];exact(List.getElem?_eq_some_iff.1 hj).1
 have h2:=List.all_eq_true.1 h.2 j (List.mem_range.2 hjm);rw[hj] at h2;simp only[abe,decide_eq_true_eq] at h2;refine⟨?_,h2.1.2,h2.2⟩;have h3:=h2.1.1;split at h3
 ·assumption
 ·cases h3
theorem D8{P:Program}{W:World}{name:String}{g n m:Nat}{t e:TypeId}{zs:List (List Int)}{rest:List (String × DataW Unit)}{ps:List MemPlace}{row:Nat -> Nat -> Value}{cs0:Array Value}
  (hb:W.heap[g]?=some (.cells cs0 t (0,0)))
  (hg:P.globalNamed name=some g) (hty:(P.globals[g]?).map (·.type)=some t) (ht:P.underlying t=some (.array n e)) (hE:KA P e m=true) (hce:P.cellsOf e=m) (hct:P.cellsOf t=n*m) (hm:0<m) (hz:∀z∈zs,z.length=m)
  (Tc:∀i j,i<n -> j<m -> row i j=.int .i64 ((zs.getD i []).getD j 0))
  (h:DataW.LaidVars P W ((name,.agg (zs.map λ z=>.agg (z.map λ x=>.lit (.int .i64 x))))::rest) ps):W.heap[g]?=some (Blk.rows m n row t (0,0)).den /\ ∃q,DataW.LaidVars P W rest q:=by
 obtain⟨fs,he,TJ,hf⟩:=Gn hE;obtain⟨g',t',cs,fuel,p,q,hg',ht',agn,hd,hr,_⟩:=h;obtain rfl:=Option.some.inj (hg.symm.trans hg');obtain rfl:=Option.some.inj (hty.symm.trans ht');have hv:W.var? P name=some cs0:=by
  unfold World.var?;rw[hg];simp only[Option.bind_some,hb]
 obtain rfl:=Option.some.inj (hv.symm.trans agn);obtain⟨h1,h2,h3⟩:=uu ht he hce hct hm TJ hf hz hd;refine⟨?_,q,hr⟩;rw[hb];show some (Obj.cells cs0 t (0,0))=some (Obj.cells ⟨bC m row n⟩ t (0,0));congr 2;obtain⟨l⟩:=cs0;congr 1
 symm
 exact iT (w:=m) h1 λ i j hi hj=>by rw[Tc i j hi hj];exact h3 i j hi hj
theorem M7 {W:World} (hs:W.ShapedOpen Tryz.prog) (hL:laidMetH Tryz.prog [("arenanet/compile.effects",Rows.laid_arenanet_compile_effects),("arenanet/vm.effects",Rows.laid_arenanet_vm_effects)] W):W.heap[0]?=some (Blk.lit tC 302 (0,0)).den /\ W.heap[1]?=some (Blk.rows 3 22 nN 323 (0,0)).den:=by
 rw[MakeChecks.laidMetH_plain _ _ _ (by kernel_rfl)] at hL;obtain⟨ps,hv,_,_⟩:=hL;obtain⟨cs0,hb0⟩:=Au 0 302 (abq (by kernel_rfl)) (by kernel_rfl) hs;obtain⟨cs1,UD⟩:=Au 1 323 (abq (by kernel_rfl)) (by kernel_rfl) hs;have Zj:DataW.LaidVars Tryz.prog W (("arenanet/compile.effects",.agg (ceZ.map λ z=>.agg (z.map λ x=>.lit (.int .i64 x)))) :: [("arenanet/vm.effects",.agg (efZ.map λ z=>.agg (z.map λ x=>.lit (.int .i64 x))))]) ps:=hv;obtain⟨h0,q,hq⟩:=D8 (n:=22) (m:=2) (e:=301) (row:=D7) hb0 (by kernel_rfl) (by kernel_rfl) (by kernel_rfl) (by kernel_rfl) (by kernel_rfl) (by kernel_rfl) (by decide) (by decide) (λ i j hi hj=>rfl) Zj;obtain⟨h1,_⟩:=D8 (n:=22) (m:=3) (e:=322) (row:=nN) UD (by kernel_rfl) (by kernel_rfl) (by kernel_rfl) (by kernel_rfl) (by kernel_rfl) (by kernel_rfl) (by decide) (by decide) (λ i j hi hj=>by
  have key:∀i:Fin 22,∀j:Fin 3,(if j.1=0 then (oQ.getD i.1 (0,0,0)).1 else if j.1=1 then (oQ.getD i.1 (0,0,0)).2.1 else (oQ.getD i.1 (0,0,0)).2.2)=(efZ.getD i.1 []).getD j.1 0:=by decide
  have:=key ⟨i,hi⟩ ⟨j,hj⟩;rcases j with _|_|_|j
  ·exact congrArg (Value.int .i64) this
  ·exact congrArg (Value.int .i64) this
  ·exact congrArg (Value.int .i64) this
  ·omega) hq
 exact⟨h0.trans (congrArg some Kz),h1⟩
def tZ(W:World):HL:=List.ofFn (λ k:Fin W.heap.size=>(k.1,if k.1=0 then Blk.lit tC 302 (0,0) else if k.1=1 then Blk.rows 3 22 nN 323 (0,0) else tX W.heap[k.1]))
theorem Cx{W:World}(h0:W.heap[0]?=some (Blk.lit tC 302 (0,0)).den)(h1:W.heap[1]?=some (Blk.rows 3 22 nN 323 (0,0)).den):i2 (mr W)=i2 (tZ W):=by
 unfold i2 mr tZ;rw[List.map_ofFn,List.map_ofFn];congr 1;funext k;show (k.1,(tX W.heap[k.1]).den)=(k.1,Blk.den (if k.1=0 then _ else if k.1=1 then _ else _));rw[mT];congr 1
 by_cases e0:k.1=0
 ·rw[if_pos e0];have h2:W.heap[k.1]?=some (Blk.lit tC 302 (0,0)).den:=by rw[show W.heap[k.1]?=W.heap[0]? by rw[e0]];exact h0
  rw[Array.getElem?_eq_getElem k.2] at h2;exact Option.some.inj h2
 ·rw[if_neg e0]
  by_cases e1:k.1=1
  ·rw[if_pos e1];have h2:W.heap[k.1]?=some (Blk.rows 3 22 nN 323 (0,0)).den:=by rw[show W.heap[k.1]?=W.heap[1]? by rw[e1]];exact h1
   rw[Array.getElem?_eq_getElem k.2] at h2;exact Option.some.inj h2
  ·rw[if_neg e1,mT]
theorem KB{W:World}(h0:W.heap[0]?=some (Blk.lit tC 302 (0,0)).den):pk (tZ W) :=
 List.mem_ofFn.2 ⟨⟨0,(Array.getElem?_eq_some_iff.1 h0).1⟩,rfl⟩
theorem KC{W:World}(h1:W.heap[1]?=some (Blk.rows 3 22 nN 323 (0,0)).den):dp (tZ W) :=
 List.mem_ofFn.2 ⟨⟨1,(Array.getElem?_eq_some_iff.1 h1).1⟩,rfl⟩
end Go.Proofs.YtghjbimijeinfaaGreatDoor
