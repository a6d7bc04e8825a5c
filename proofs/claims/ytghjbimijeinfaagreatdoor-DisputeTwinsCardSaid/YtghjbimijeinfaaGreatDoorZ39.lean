import Derived.Test.YtghjbimijeinfaaGreatDoorZ38
import Derived.Test.YtghjbimijeinfaaGreatDoorRows
import Derived.Test.YtghjbimijeinfaaGreatDoorChecked
import Derived.Test.YtghjbimijeinfaaGreatDoorZ18
import Derived.ProofKit
import Derived.OpenShut
import Derived.Carry
import Derived.Lay
import Derived.LaidHandle
import Derived.ChangeSlices
import Derived.Test.YtghjbimijeinfaaGreatDoorZ34
import Derived.Lib.LaidTab
import Derived.MakeChecks
import Derived.Lib.SmallJoins
import Derived.Test.YtghjbimijeinfaaGreatDoorTie
import Derived.Test.YtghjbimijeinfaaGreatDoorCards
import Derived.SevenTiedAt
import Derived.JoinedOf
import Derived.KernelRfl
set_option maxHeartbeats 4000000
set_option maxRecDepth 100000
set_option linter.unusedSimpArgs false
set_option linter.unusedVariables false
namespace Go.Proofs.YtghjbimijeinfaaGreatDoor
theorem Gp:oa KV.toUTF8=true:=by kernel_rfl
theorem Gq:oa KW.toUTF8=true:=by kernel_rfl
theorem Gr:oa KX.toUTF8=true:=by kernel_rfl
theorem Gs:oa KY.toUTF8=true:=by kernel_rfl
open Go.RowKit
noncomputable section
theorem Ay {j:Nat} (hj:j < 5):oa (kP j)=true:=by
 match j,hj with
 | 0,_=>exact Gn
 | 1,_=>exact Gp
 | 2,_=>exact Gq
 | 3,_=>exact Gr
 | 4,_=>exact Gs
def Az (j:Nat) (cs:List Value) (T:HL):Prop:=N7 Tryz.prog 3 100000 64 gt [.string (kP j)] 3 cs T
theorem Gt {j:Nat} (hj:j < 5) {F:HL} (hF:(0,Blk.lit qI 302 (0,0)) ∈ F):Sp Tryz.prog 64 #[.string (kP j)] [] F λ u H'=>∃ cs p,Az j cs H' /\ dh cs=[0,0,1,2,0,0,1,2,0,0,1,2] /\ u=.tuple ⟨[.agg ⟨cs⟩,p,.int .i64 0]⟩ :=
 wF hF λ F0=>(CA (G:=3) (n0:=3) (tabs:=gt) mixed rfl rfl rfl (by simp [gt]) (Ay hj)).mono λ u H' ⟨cs,T,p,h1,h2,h3,h4⟩=>⟨T,⟨cs,p,h1,h2,h3⟩,h4⟩
theorem yT {j:Nat} (hj:j < 5) {F T:HL} {cs:List Value} (h:Az j cs T) (hF:(0,Blk.lit qI 302 (0,0)) ∈ F):Sp Tryz.prog 65 #[.agg ⟨cs⟩] T F λ u H'=>∃ qs,dh qs=[2,0,0,0] /\ u=.tuple ⟨[.agg ⟨qs⟩,.int .i64 0]⟩ /\ H'=[] :=
 CC hF λ F0=>(CB (tabs:=gt) mixed (Ay hj) rfl (by simp [gt]) h).mono λ u H' ⟨qs,h1,h2,h3⟩=>⟨[],⟨qs,h1,h2,rfl⟩,h3⟩
end
theorem Gu {j:Nat} (hj:j < 5) (F:HL) (hE:kQ F):Sp Tryz.prog 64 #[.string (kP j)] (ap [] []) F (λ u H'=>∃ x:List Value × Value × HL,H'=ap [] [x.2.2] /\ (u=.tuple #[.agg ⟨x.1⟩,x.2.1,vI 0] /\ Az j x.1 x.2.2 /\ dh x.1=[0,0,1,2,0,0,1,2,0,0,1,2])) :=
 (Gt hj hE).mono λ u H' ⟨cs,p,h1,h2,h3⟩=>⟨(cs,p,H'),(cQ _).symm,h3,h1,h2⟩
theorem IX {j:Nat} (hj:j < 5) {T:HL} (F:HL) {cs:List Value} (h:Az j cs T) (hE:kQ F):Sp Tryz.prog 65 #[.agg ⟨cs⟩] (ap [] [T]) F (λ u H'=>∃ x:List Value,H'=ap [] [] /\ (u=.tuple #[.agg ⟨x⟩,vI 0] /\ dh x=[2,0,0,0])):=by
 rw [cQ]
 exact (yT hj h hE).mono λ u H' ⟨qs,h1,h2,h3⟩=>⟨qs,h3,h2,h1⟩
theorem Gv {l:List Value} (h:dh l=[0,0,1,2,0,0,1,2,0,0,1,2]):∃ x:(Int × Int × ByteArray × Option Addr × Nat × Nat) × (Int × Int × ByteArray × Option Addr × Nat × Nat) × (Int × Int × ByteArray × Option Addr × Nat × Nat),l=[vI x.1.1,vI x.1.2.1,.string x.1.2.2.1,.slice x.1.2.2.2.1 x.1.2.2.2.2.1 x.1.2.2.2.2.2,vI x.2.1.1,vI x.2.1.2.1,.string x.2.1.2.2.1,.slice x.2.1.2.2.2.1 x.2.1.2.2.2.2.1 x.2.1.2.2.2.2.2,vI x.2.2.1,vI x.2.2.2.1,.string x.2.2.2.2.1,.slice x.2.2.2.2.2.1 x.2.2.2.2.2.2.1 x.2.2.2.2.2.2.2]:=by
 obtain ⟨v1,_,rfl,k1,h⟩:=bP h
 obtain ⟨v2,_,rfl,k2,h⟩:=bP h
 obtain ⟨v3,_,rfl,k3,h⟩:=bP h
 obtain ⟨v4,_,rfl,k4,h⟩:=bP h
 obtain ⟨v5,_,rfl,k5,h⟩:=bP h
 obtain ⟨v6,_,rfl,k6,h⟩:=bP h
 obtain ⟨v7,_,rfl,k7,h⟩:=bP h
 obtain ⟨v8,_,rfl,k8,h⟩:=bP h
 obtain ⟨v9,_,rfl,k9,h⟩:=bP h
 obtain ⟨v10,_,rfl,k10,h⟩:=bP h
 obtain ⟨v11,_,rfl,k11,h⟩:=bP h
 obtain ⟨v12,_,rfl,k12,h⟩:=bP h
 rw [sW h]
 obtain ⟨a1,rfl⟩:=nh k1
 obtain ⟨a2,rfl⟩:=nh k2
 obtain ⟨a3,rfl⟩:=Gj k3
 obtain ⟨a4,b4,c4,rfl⟩:=Aw k4
 obtain ⟨a5,rfl⟩:=nh k5
 obtain ⟨a6,rfl⟩:=nh k6
 obtain ⟨a7,rfl⟩:=Gj k7
 obtain ⟨a8,b8,c8,rfl⟩:=Aw k8
 obtain ⟨a9,rfl⟩:=nh k9
 obtain ⟨a10,rfl⟩:=nh k10
 obtain ⟨a11,rfl⟩:=Gj k11
 obtain ⟨a12,b12,c12,rfl⟩:=Aw k12
 exact ⟨((a1,a2,a3,a4,b4,c4),(a5,a6,a7,a8,b8,c8),(a9,a10,a11,a12,b12,c12)),rfl⟩
theorem AA {l:List Value} (h:dh l=[2,0,0,0]):∃ (A:Option Addr) (n c:Nat) (a b d:Int),l=[.slice A n c,vI a,vI b,vI d]:=by
 obtain ⟨v1,_,rfl,k1,h⟩:=bP h
 obtain ⟨v2,_,rfl,k2,h⟩:=bP h
 obtain ⟨v3,_,rfl,k3,h⟩:=bP h
 obtain ⟨v4,_,rfl,k4,h⟩:=bP h
 rw [sW h]
 obtain ⟨A,n,c,rfl⟩:=Aw k1
 obtain ⟨a,rfl⟩:=nh k2
 obtain ⟨b,rfl⟩:=nh k3
 obtain ⟨d,rfl⟩:=nh k4
 exact ⟨A,n,c,a,b,d,rfl⟩
def Setup.mt (S:Setup) (nn:Nat):Setup:={ S with nb:=nn,rounds:=1,fuel:=12 }
structure MtN (S:Setup) (nn:Nat):Prop where
 pl:1 <= S.players /\ S.players <= 3
 nb:S.players <= (nn:Int) /\ 1 <= nn /\ nn <= S.nb /\ S.nb <= 5
theorem wS {F:HL} {S:Setup} {nn:Nat} (h:MtN S nn) (hS:SetIn F S):SetIn F (S.mt nn):=⟨⟨hS.pl,by have h1:=h.nb;show nn <= 1000000;omega⟩,hS.blk,by have h1:=hS.room;have h2:=h.nb;show S.bo+nn <= S.bR;omega,λ k hk=>hS.shp k (by have h2:=h.nb;have h3:k < nn:=hk;omega)⟩
theorem N8 {S:Setup} {nn:Nat} (h:MtN S nn):SetV (S.mt nn):=⟨h.pl,⟨h.nb.2.1,by have h1:=h.nb;show nn <= 5;omega⟩,⟨show (1:Int) <= 1 by decide,show (1:Int) <= 3 by decide⟩,⟨show (0:Int) <= 12 by decide,show (12:Int) <= 60 by decide⟩⟩
theorem Lm {S:Setup} {nn:Nat} {rs:List Bx} {ds:List Dr} (h:MtN S nn) (hv:iu S rs ds=0):iu (S.mt nn) rs ds=0:=by
 have h2:=h.nb
 unfold iu at hv ⊢
 split at hv
 ·next c1 =>
  split at hv
  ·next c2 =>
   split at hv
   ·next c3 =>
    have d1:∀ k,k < (S.mt nn).nb -> kg ((S.mt nn).body k).sh:=λ k hk=>c1 k (by have h3:k < nn:=hk;omega)
    have d3:∀ k,k < (S.mt nn).nb -> fl ((S.mt nn).body k) (S.mt nn).box:=λ k hk=>c3 k (by have h3:k < nn:=hk;omega)
    rw [if_pos d1,if_pos,if_pos d3]
    obtain ⟨⟨v1,v2,v3,v4,v5,v6,v7,v8⟩,c5,c6⟩:=c2
    refine ⟨⟨v1,?_,v3,v4,v5,v6,?_,?_⟩,c5,c6⟩
    ·simp only [jm,kG,and_true] at v2 ⊢
     show S.players <= ((nn:Nat):Int) /\ ((nn:Nat):Int) <= 24
     omega
    ·simp only [jm,kG,and_true]
     show (1:Int) <= 1 /\ (1:Int) <= 4
     decide
    ·simp only [jm,kG,and_true]
     show (0:Int) <= 12 /\ (12:Int) <= 1000
     decide
   ·cases hv
  ·cases hv
 ·cases hv
theorem yU {F:HL} {S:Setup} {nn:Nat} {rs:List Bx} {ds:List Dr} (hM:MapIn F S rs ds):MapIn F (S.mt nn) rs ds:=⟨hM.rooms,hM.doors⟩
theorem IY {S:Setup} {nn:Nat} (h:MtN S nn):48 <= sizeOf (S.mt nn) /\ sizeOf (S.mt nn) <= 100:=by
 have h1:=h.pl
 have h2:=h.nb
 show 48 <= 48+4 * S.players+8 * ((nn:Nat):Int) /\ 48+4 * S.players+8 * ((nn:Nat):Int) <= 100
 omega
theorem Lo (A0 AI:Option Addr) (n0 c0 nI cI cnt:Nat) (xs xI:List Int) (i1 i3:Int) (F:HL) (hE0:kQ F) (hl0:ArgD F A0 n0 xs) (hn0:n0 <= 9223372036854775807) (hl2:ArgD F AI nI xI) (hn2:nI <= 9223372036854775807) (hi1:mU i1) (hcnt:au i3 4=(cnt:Int)) (hcl:cnt <= 3):Sp Tryz.prog 23 #[.slice A0 n0 c0,vI i1,.slice AI nI cI,vI i3] [] F (λ u H'=>∃ x:(Setup × Nat) × (Nat × List Value × Option Addr × Nat × List Rw) × HL × HL × HL × HL,H'=ap [(x.1.1.bb,.rows 9 x.1.1.bR (fM x.1.1.bods) 106 (0,0))] [x.2.2.1,x.2.2.2.1,x.2.2.2.2.1,x.2.2.2.2.2] /\ (u=.tuple #[Setup.v (x.1.1.mt x.1.2),vP x.2.1.1 0,.agg ⟨x.2.1.2.1⟩,.slice x.2.1.2.2.1 cnt x.2.1.2.2.2.1,.bool true] /\ dh x.2.1.2.1=[2,0,0,0] /\ (SetG xs x.1.1 x.2.2.1 /\ MtN x.1.1 x.1.2 /\ Book1 (au i1 5).toNat x.2.1.1 x.2.2.2.1 /\ SlIs jJ 56 x.2.1.2.2.2.2 x.2.1.2.2.1 x.2.1.2.2.2.1 x.2.2.2.2.1 /\ x.2.1.2.2.2.2.length=cnt /\ RwsT x.2.1.2.2.2.2 (fH x.1.1.players xI cnt) x.2.2.2.2.2))):=by
 refine Sp.run Tryz.func23 rfl mn (A:=[]) (Ts:=[]) rfl λ w0=>?_
 refine ae 12 [] λ n1=>RN.ct (Hp:=[]) (Tp:=[]) [] [] (hl0.up.use λ F_ h_=>Ej A0 n0 c0 xs _ h_ hn0) ?_
 rintro _ ⟨S,TS⟩ ⟨rfl,hG⟩
 dsimp only at hG
 have hF:=FJ hl0 hG
 have hpl:=hF.pl
 have hnb:=hF.nb
 have hrn:=hF.rn
 have hdn:=hF.dn
 have hsz:=hF.sz
 have hil:=fg S S.nb
 have hV:SetV S:=hl0.ex.elim λ _ h_=>setV h_ hG
 refine ae 15 (ow 0 19) λ n2=>?_
 have hcp_:=hG.cap
 have hpn_:S.players <= (S.nb:Int):=hl0.ex.elim λ _ h_=>by have h1_:=mV h_;have h2_:=pW h_;have h3_:=hG.nb;have h4_:=hG.pl;omega
 obtain ⟨nn,hnn,hmt_⟩:∃ nn:Nat,(if (if 2 > S.players then 2 else S.players) < (S.nb:Int) then (if 2 > S.players then 2 else S.players) else (S.nb:Int))=(nn:Int) /\ MtN S nn:=by
  refine ⟨(if (if 2 > S.players then 2 else S.players) < (S.nb:Int) then (if 2 > S.players then 2 else S.players) else (S.nb:Int)).toNat,?_,⟨hpl,?_⟩⟩
  all_goals (repeat' split) <;> omega
 have hnb_:=hmt_.nb
 refine al 20 [.sl 0 nn false,.own 0,.own 0,.own 0] [0=0 /\ (if (if 2 > S.players then 2 else S.players) < (S.nb:Int) then (if 2 > S.players then 2 else S.players) else (S.nb:Int))=((nn:Nat):Int) /\ 0 <= nn /\ nn <= S.bc /\ S.bc ≠ 0] λ _=>aj (yx i1 _ hi1) ?_
 have hj:(au i1 5).toNat < 5:=by have h_:=dw (n:=i1) hi1 5 (by decide);omega
 refine ae 6 [] λ _=>RN.ct (Hp:=[]) (Tp:=[]) [] [] (wI (au i1 5).toNat _ hj (aw hE0)) ?_
 rintro _ ⟨b3,T4⟩ ⟨rfl,hB5⟩
 dsimp only at hB5
 refine ae 10 [] λ _=>RN.ct (Hp:=[]) (Tp:=[]) [] [] (Gu hj _ (aw hE0)) ?_
 rintro _ ⟨cs_,po_,T6⟩ ⟨rfl,ht7,hl12_⟩
 dsimp only at ht7 hl12_
 obtain ⟨⟨⟨ka0_,kb0_,ks0_,kA0_,kn0_,kc0_⟩,⟨ka1_,kb1_,ks1_,kA1_,kn1_,kc1_⟩,⟨ka2_,kb2_,ks2_,kA2_,kn2_,kc2_⟩⟩,rfl⟩:=Gv hl12_
 refine ae 13 (ow 0 24) λ n8=>RN.ct [] [0] (IX hj _ ht7 (aw hE0)) ?_
 rintro _ qs_ ⟨rfl,hl4_⟩
 obtain ⟨qA_,qn_,qc_,qa_,qb_,qd_,rfl⟩:=AA hl4_
 refine ae 28 [.own 0,.own 0,.own 0,.own 0] λ n9=>RN.draw [9,11] []<|ag [] [0,1,3,4,5,8] (ow 2 32)<|ar [] 6 (λ X_=>(FX hcnt (by decide) _))<|ee 2 7 ?_ ?_
 ·refine RDO.ev [] [.own 0,.own 0,.own 0,.own 0] λ _=>RD.one 7 (RDO.ct [] (Hp:=[]) (Tp:=[]) [] [] (hl2.up.use λ F_ h_=>Ak (S.mt nn) AI nI cI xI (cnt:Int) cnt F_ h_ hn2 (by show 1 <= S.players /\ S.players <= 1000000;omega) rfl (by omega)) ?_)
  rintro _ ⟨⟨A10,c11,rs12⟩,E13,T14⟩ ⟨rfl,hs15,hl16,hT17⟩
  dsimp only at hs15 hl16 hT17
  have hgr:∀ i,i < cnt -> gL S.players ((fH S.players xI cnt).getD i []):=λ i hi=>hl2.ex.elim λ _ h_=>qL h_ (by omega) cnt i hi
  refine RD.one 9 (RDO.ev [] (ow 5 16) λ _=>?_)
  refine ag [] [10] []<|RD.one 11 (RDO.ev [] [.own 4,.own 4,.own 4,.own 4] λ _=>?_)
  refine ag [] [12,13] []<|RD.fin<|ae 1 [] λ _=>RN.ret (ow 5 16++[.own 4,.own 4,.own 4,.own 4]) [3] [3,2,0,1] (v:=.tuple #[.agg #[vI S.players,vS S.bb (S.bo * 9+0 * 9) (nn - 0) (S.bc - 0),vI S.box.x0,vI S.box.y0,vI S.box.x1,vI S.box.y1,.slice S.rA S.rn S.rc,.slice S.dA S.dn S.dc,vI S.fog,vI S.g.x,vI S.g.y,vI S.push,vI S.drag,vI S.rest,vI 1,vI 12],vP b3 0,.agg #[.slice qA_ qn_ qc_,vI qa_,vI qb_,vI qd_],.slice A10 cnt c11,.bool true]) (H':=(ap [(S.bb,.rows 9 S.bR (fM S.bods) 106 (0,0))] [TS,T4,E13,T14])) ?_
  exact ⟨((S,nn),(b3,[.slice qA_ qn_ qc_,vI qa_,vI qb_,vI qd_],A10,c11,rs12),TS,T4,E13,T14),rfl,rfl,rfl,hG,hmt_,hB5,hs15,hl16,hT17⟩
 ·refine RDO.ct [] (Hp:=[]) (Tp:=[]) [] [] (hl2.up.use λ F_ h_=>Ak (S.mt nn) AI nI cI xI (cnt:Int) cnt F_ h_ hn2 (by show 1 <= S.players /\ S.players <= 1000000;omega) rfl (by omega)) ?_
  rintro _ ⟨⟨A18,c19,rs20⟩,E21,T22⟩ ⟨rfl,hs23,hl24,hT25⟩
  dsimp only at hs23 hl24 hT25
  have hgr:∀ i,i < cnt -> gL S.players ((fH S.players xI cnt).getD i []):=λ i hi=>hl2.ex.elim λ _ h_=>qL h_ (by omega) cnt i hi
  refine ie (σ:=Unit) (λ _=>⟨[(8,vP (n1+0) 0),(9,vP b3 0),(10,vP (n1+1) 0),(11,.slice A18 cnt c19),(12,.bool true)],[((n9+0),.lit [.slice qA_ qn_ qc_,vI qa_,vI qb_,vI qd_] 47 (0,0)),((n8+0),.lit [vI ka0_,vI kb0_,.string ks0_,.slice kA0_ kn0_ kc0_,vI ka1_,vI kb1_,.string ks1_,.slice kA1_ kn1_ kc1_,vI ka2_,vI kb2_,.string ks2_,.slice kA2_ kn2_ kc2_] 157 (0,0)),((n2+0),.lit [vI S.players,vS S.bb (S.bo * 9+0 * 9) (nn - 0) (S.bc - 0),vI S.box.x0,vI S.box.y0,vI S.box.x1,vI S.box.y1,.slice S.rA S.rn S.rc,.slice S.dA S.dn S.dc,vI S.fog,vI S.g.x,vI S.g.y,vI S.push,vI S.drag,vI S.rest,vI 1,vI 12] 31 (0,0)),(S.bb,.rows 9 S.bR (fM S.bods) 106 (0,0)),((n1+1),.lit [.slice qA_ qn_ qc_,vI qa_,vI qb_,vI qd_] 47 (0,0)),((n1+0),.lit [vI S.players,vS S.bb (S.bo * 9+0 * 9) (nn - 0) (S.bc - 0),vI S.box.x0,vI S.box.y0,vI S.box.x1,vI S.box.y1,.slice S.rA S.rn S.rc,.slice S.dA S.dn S.dc,vI S.fog,vI S.g.x,vI S.g.y,vI S.push,vI S.drag,vI S.rest,vI 1,vI 12] 31 (0,0))],[E21,T22,T4,TS],True,0⟩) ?_ ?_
  ·rintro ⟨⟩
   refine ae 1 [] λ _=>RN.ret (ow 5 16++[.own 4,.own 4,.own 4,.own 4]) [3] [3,2,0,1] (v:=.tuple #[.agg #[vI S.players,vS S.bb (S.bo * 9+0 * 9) (nn - 0) (S.bc - 0),vI S.box.x0,vI S.box.y0,vI S.box.x1,vI S.box.y1,.slice S.rA S.rn S.rc,.slice S.dA S.dn S.dc,vI S.fog,vI S.g.x,vI S.g.y,vI S.push,vI S.drag,vI S.rest,vI 1,vI 12],vP b3 0,.agg #[.slice qA_ qn_ qc_,vI qa_,vI qb_,vI qd_],.slice A18 cnt c19,.bool true]) (H':=(ap [(S.bb,.rows 9 S.bR (fM S.bods) 106 (0,0))] [TS,T4,E21,T22])) ?_
   exact ⟨((S,nn),(b3,[.slice qA_ qn_ qc_,vI qa_,vI qb_,vI qd_],A18,c19,rs20),TS,T4,E21,T22),rfl,rfl,rfl,hG,hmt_,hB5,hs23,hl24,hT25⟩
  ·intro key26
   refine ee 2 9 ?_ ?_
   ·refine RDO.ev [] [.own 0,.own 0,.own 0,.own 0] λ _=>RD.one 9 (RDO.ev [] (ow 5 16) λ _=>?_)
    refine RD.one 10 (RDO.ev [] [] λ _=>?_)
    refine RD.one 11 (RDO.ev [] [.own 4,.own 4,.own 4,.own 4] λ _=>?_)
    refine RD.one 12 (RDO.ev [] [] λ _=>?_)
    refine RD.one 13 (RDO.ev [] [] λ _=>?_)
    exact key26 () [0,1,2,3,4,5] [0,1,2,3]
   ·refine RDO.ev [] (ow 5 16) λ _=>ee 2 10 ?_ ?_
    ·refine RDO.ev [] [.own 0,.own 0,.own 0,.own 0] λ _=>RD.one 10 (RDO.ev [] [] λ _=>?_)
     refine RD.one 11 (RDO.ev [] [.own 4,.own 4,.own 4,.own 4] λ _=>?_)
     refine RD.one 12 (RDO.ev [] [] λ _=>?_)
     refine RD.one 13 (RDO.ev [] [] λ _=>?_)
     exact key26 () [0,1,2,3,4,5] [0,1,2,3]
    ·refine RDO.ev [] [] λ _=>RD.one 2 (RDO.ev [] [.own 0,.own 0,.own 0,.own 0] λ _=>?_)
     refine RD.one 11 (RDO.ev [] [.own 4,.own 4,.own 4,.own 4] λ _=>?_)
     refine RD.one 12 (RDO.ev [] [] λ _=>?_)
     refine RD.one 13 (RDO.ev [] [] λ _=>?_)
     exact key26 () [0,1,2,3,4,5] [0,1,2,3]
theorem Lp (A0 AI:Option Addr) (n0 c0 nI cI cnt:Nat) (xs xI:List Int) (i1 i3:Int) (F:HL) (hE0:kQ F) (hl0:ArgD F A0 n0 xs) (hn0:n0 <= 9223372036854775807) (hl2:ArgD F AI nI xI) (hn2:nI <= 9223372036854775807) (hi1:mU i1) (hcnt:au i3 4=(cnt:Int)) (hcl:cnt <= 3):Sp Tryz.prog 23 #[.slice A0 n0 c0,vI i1,.slice AI nI cI,vI i3] (ap [] []) F (λ u H'=>∃ x:(Setup × Nat) × (Nat × List Value × Option Addr × Nat × List Rw) × HL × HL × HL × HL,H'=ap [(x.1.1.bb,.rows 9 x.1.1.bR (fM x.1.1.bods) 106 (0,0))] [x.2.2.1,x.2.2.2.1,x.2.2.2.2.1,x.2.2.2.2.2] /\ (u=.tuple #[Setup.v (x.1.1.mt x.1.2),vP x.2.1.1 0,.agg ⟨x.2.1.2.1⟩,.slice x.2.1.2.2.1 cnt x.2.1.2.2.2.1,.bool true] /\ dh x.2.1.2.1=[2,0,0,0] /\ (SetG xs x.1.1 x.2.2.1 /\ MtN x.1.1 x.1.2 /\ Book1 (au i1 5).toNat x.2.1.1 x.2.2.2.1 /\ SlIs jJ 56 x.2.1.2.2.2.2 x.2.1.2.2.1 x.2.1.2.2.2.1 x.2.2.2.2.1 /\ x.2.1.2.2.2.2.length=cnt /\ RwsT x.2.1.2.2.2.2 (fH x.1.1.players xI cnt) x.2.2.2.2.2))):=Lo A0 AI n0 c0 nI cI cnt xs xI i1 i3 F hE0 hl0 hn0 hl2 hn2 hi1 hcnt hcl
theorem pw {S:Setup} (hV:SetV S) (hs:sizeOf S <= 100) {J:Nat -> Nat × Int} {xss:List (List Inp)} {n:Nat} (hn:n <= 3) (hr:∀ i,i < n -> gL S.players (xss.getD i [])) {ct tr ix:Int} (v:Int) (hc:ct < 0 \/ ub S ix) {t:Nat} (ht:t <= n):(XW S J xss ct tr ix v t).length <= 1000000:=by
 have h:=Li (J:=J) (tr:=tr) hV (show n <= 900 by omega) hr v hc ht
 omega
theorem CD (A0 AI:Option Addr) (n0 c0 nI cI:Nat) (xs xI:List Int) (i1 i3 b0 b1:Int) (F:HL) (hE0:kQ F) (hE1:cN F) (hl0:ArgD F A0 n0 xs) (hn0:n0 <= 9223372036854775807) (hl2:ArgD F AI nI xI) (hn2:nI <= 9223372036854775807) (hi1:mU i1) (hi3:mU i3) (hb0:mU b0) (hb1:mU b1):Sp Tryz.prog 6 #[.slice A0 n0 c0,vI i1,.slice AI nI cI,vI i3,.agg #[vI b0,vI b1]] [] F (λ u H'=>u=.bool true /\ H'=[]):=by
 refine Sp.run Tryz.func6 rfl mn (A:=[]) (Ts:=[]) rfl λ w0=>?_
 refine ae 12 [] λ n1=>aj (eJ i3 3 (by decide) _) ?_
 have hA2:=dw (n:=i3) hi3 3 (by decide)
 refine al 1 [.nw] [bq (1+(au i3 3))] λ _=>?_
 obtain ⟨cnt,hcnt,hcl_⟩:∃ cnt:Nat,au (1+(au i3 3)) 4=(cnt:Int) /\ cnt <= 3:=by have h_:=dw (n:=(1+(au i3 3))) (by unfold mU;omega) 4 (by decide);exact ⟨(au (1+(au i3 3)) 4).toNat,by omega,by omega⟩
 refine RN.ct (Hp:=[]) (Tp:=[]) [] [] (Lp A0 AI n0 c0 nI cI cnt xs xI i1 (1+(au i3 3)) _ (aw hE0) hl0.up hn0 hl2.up hn2 hi1 hcnt hcl_) ?_
 rintro _ ⟨⟨S,nn⟩,⟨bp_,qs_,AR,cR,rs⟩,TS,TB,ER,RT⟩ ⟨rfl,hq4_,hG,hmt_,hB_,hs_,hrl_,hT_⟩
 dsimp only at hq4_ hG hmt_ hB_ hs_ hrl_ hT_
 obtain ⟨qA_,qn_,qc_,qa_,qb_,qd_,rfl⟩:=AA hq4_
 have hF:=FJ hl0 hG
 have hpl:=hF.pl
 have hrn:=hF.rn
 have hdn:=hF.dn
 have hV_:=N8 hmt_
 have hsz_:=IY hmt_
 have hval_:=Lm (nn:=nn) hmt_ hF.val
 have hil_:=fg (S.mt nn) (S.mt nn).nb
 have hj:(au i1 5).toNat < 5:=by have h_:=dw (n:=i1) hi1 5 (by decide);omega
 generalize (au i1 5).toNat=jj at *
 have hgr:∀ i,i < cnt -> gL (S.mt nn).players ((fH S.players xI cnt).getD i []):=λ i hi=>hl2.ex.elim λ _ h_=>qL h_ (by show 0 <= S.players;omega) cnt i hi
 refine ae 27 (ow 1 16++[.own 0,.own 0,.own 0,.own 0]) λ n3=>RN.em ((cnt:Int)=0) 44 (λ h4=>?_) λ h4=>?_
 ·refine ae 5 [] λ _=>aj (oI _ (aw hE0) (aw hE1))<|ae 4 [] λ _=>?_
  exact RN.ret [] [] [] ⟨rfl,rfl⟩
 ·refine ae 8 (ow 1 16) λ _=>RN.ct (Hp:=[]) (Tp:=[]) [] [] (ud (S.mt nn) rj (kf (kv xs 3 % 3).toNat) bp_ cnt cR jj AR rs (fH S.players xI cnt) _ (wS hmt_ (hG.sin _ (aC 2) (av 0))) (yU (hG.maps.2 _ (av 0))) hV_ (by show S.rn <= _;omega) (by show S.dn <= _;omega) (by omega) hval_ hj (λ t ht=>hB_.at (av 1) hj t ht) (aw hE1) (hs_.rowN (av 2) hrl_) (hT_ _ (av 3)) hgr (by omega)) ?_
  rintro _ ⟨x5,S6,G7⟩ ⟨rfl,he8,hX9⟩
  dsimp only at he8 hX9
  refine ae 12 (ow 1 16) λ _=>RN.ct (Hp:=[]) (Tp:=[]) [] [] (ud (S.mt nn) rj (kf (kv xs 3 % 3).toNat) bp_ cnt cR jj AR rs (fH S.players xI cnt) _ (wS hmt_ (hG.sin _ (aC 2) (av 1))) (yU (hG.maps.2 _ (av 1))) hV_ (by show S.rn <= _;omega) (by show S.dn <= _;omega) (by omega) hval_ hj (λ t ht=>hB_.at (av 2) hj t ht) (aw hE1) (hs_.rowN (av 3) hrl_) (hT_ _ (av 4)) hgr (by omega)) ?_
  rintro _ ⟨x10,S11,G12⟩ ⟨rfl,he13,hX14⟩
  dsimp only at he13 hX14
  refine ae 11 [.own 3] λ _=>aj (eJ b1 16 (by decide) _) ?_
  have hA15:=dw (n:=b1) hb1 16 (by decide)
  refine al 7 [.nw,.own 0,.own 0] [bq (32+(au b1 16))] λ n16=>RN.draw [] []<|ag [] [0,1,2,3,6,4] (ow 2 16++[.own 0,.own 0,.own 4])<|ar [] 5 (λ X_=>(eJ b0 40 (by decide) _)) ?_
  have hA17:=dw (n:=b0) hb0 40 (by decide)
  have hfit_:wP (S.mt nn) cnt 0 (au b0 40) (32+au b1 16) 5:=⟨⟨by decide,by omega⟩,by omega,.inl ⟨by omega,by omega⟩,by decide⟩
  refine RD.one 7 (RDO.ct [] (Hp:=[]) (Tp:=[]) [] [] (IP (S.mt nn) rj (kf (kv xs 3 % 3).toNat) bp_ cnt cR jj AR rs (fH S.players xI cnt) 0 (au b0 40) (32+au b1 16) 5 _ (wS hmt_ (hG.sin _ (aC 3) (av 2))) (yU (hG.maps.2 _ (av 2))) hV_ (by show S.rn <= _;omega) (by show S.dn <= _;omega) (by omega) hval_ hj (λ t ht=>hB_.at (av 3) hj t ht) (aw hE1) (hs_.rowN (av 4) hrl_) (hT_ _ (av 5)) hgr (by omega)) ?_)
  rintro _ ⟨x18,S19,G20⟩ h_
  obtain ⟨_,rfl,he21,hX22⟩:=h_.resolve_right (λ h2_=>h2_.1 hfit_)
  dsimp only at he21 hX22
  refine ag [] [8,9,10,11,12] []<|RD.fin<|ae 39 (ow 2 16) λ _=>RN.ct (Hp:=[]) (Tp:=[]) [] [] (qQ (S.mt nn) bp_ cnt cR x5 x10 AR (lP ((XW (S.mt nn) (λ _=>(jj,0)) (fH S.players xI cnt) (-1) 0 0 0) cnt)) _ (wS hmt_ (hG.sin _ (aC 3) (av 3))).cl (by rw [hil_];omega) (hX9.root (t:=cnt) (av 2) (Nat.le_refl _) (pw (ct:=(-1)) (tr:=0) (ix:=0) hV_ (by omega) hcl_ hgr 0 (.inl (by decide)) (Nat.le_refl _))) (hX14.root (t:=cnt) (av 1) (Nat.le_refl _) (pw (ct:=(-1)) (tr:=0) (ix:=0) hV_ (by omega) hcl_ hgr 0 (.inl (by decide)) (Nat.le_refl _))) (λ h_=>by rw [h_];rfl)) ?_
  rintro _ _ rfl
  refine ae 12 ([.own 0,.own 0,.own 0,.own 0]++ow 3 16) λ n23=>RN.ct (Hp:=[]) (Tp:=[]) [] [] (qQ (S.mt nn) bp_ cnt cR x18 x18 AR (lP ((XW (S.mt nn) (λ _=>(jj,0)) (fH S.players xI cnt) 0 (au b0 40) (32+au b1 16) 5) cnt)) _ (wS hmt_ (hG.sin _ (aC 4) (av 3))).cl (by rw [hil_];omega) (hX22.root (t:=cnt) (av 0) (Nat.le_refl _) (pw (ct:=0) (tr:=(au b0 40)) (ix:=(32+au b1 16)) hV_ (by omega) hcl_ hgr 5 (.inr (ue hV_ hfit_)) (Nat.le_refl _))) (hX22.root (t:=cnt) (av 0) (Nat.le_refl _) (pw (ct:=0) (tr:=(au b0 40)) (ix:=(32+au b1 16)) hV_ (by omega) hcl_ hgr 5 (.inr (ue hV_ hfit_)) (Nat.le_refl _))) (λ h_=>by rw [h_];rfl)) ?_
  rintro _ _ rfl
  refine ae 25 [.own 0,.own 0,.own 0,.own 0,.own 1,.own 1,.own 0,.own 0] λ n24=>aj (oI _ (aw hE0) (aw hE1))<|ae 4 [] λ _=>?_
  exact RN.ret [] [] [] ⟨rfl,rfl⟩
open Go.ChangeShapes Go.WideShapes Go.ChangeAt
theorem Gw:ownKnob Tryz.prog.godebug=none:=by kernel_rfl
theorem Gx:laidOutB Tryz.prog=true:=by kernel_rfl
theorem jI {n:Int} (h:(Lit.int .i64 n).wf=true):-9223372036854775808 <= n /\ n <= 9223372036854775807:=bounds_i64 h
section
variable {H:Type} {enc:TypeId × Value -> H} {P:Program} {W W':World}
theorem lQ (hl:laidOutB P=true) (hb:Below W.heap.size W W'):∀ {ts:List TypeId} {vs:List Value} {ds:List (DataW H)} {ps:List MemPlace},(∀ t ∈ ts,P.readableRec t=true /\ t < P.types.size) ->
  DataW.TrodAll enc P W 0 (λ _=>true) true ts vs ds ps -> (∀ x ∈ ps,x.block < W.heap.size) -> DataW.TrodAll enc P W' 0 (λ b=>decide (b < W.heap.size)) true ts vs ds ps
 | [],_,_,_,_,h,_=>by
  obtain ⟨rfl,rfl,rfl⟩:=trodAll_nil h
  exact trodAll_mk0
 | t :: ts,_,_,_,ht,h,hlt=>by
  obtain ⟨v,vs1,d,ds1,a,b,rfl,rfl,rfl,h1,h2⟩:=trodAll_cons h
  have h3:=ht t (by simp)
  exact trodAll_cons_mk (Below.trod hl h3.1 h3.2 h1 hb (λ x hx=>hlt x (by simp [hx]))) (lQ hl hb (λ t h=>ht t (List.mem_cons_of_mem _ h)) h2 (λ x hx=>hlt x (by simp [hx])))
theorem Gy {f:Func} {s:ChangeSpec} {apart fresh handsOn:Bool} {args:Array Value} {v:Value} {ds:List (DataW H)} {before:List MemPlace} (hl:laidOutB P=true)
  (hts:∀ t ∈ f.params.toList,P.readableRec t=true /\ t < P.types.size)
  (hW:DataW.Whole enc P f.params.toList s.vars apart W args.toList ds [] before) (hs:s.vars=[])
  (hA:DataW.TrodAll enc P W 0 (λ _=>true) true f.params.toList args.toList ds before)
  (hres:∀ (b:Nat) (sp:Nat -> Bool) (hd:Bool),DataW.TrodAll enc P W' b sp hd f.resultTypes.toList (v.resultList f.resultTypes.size) (s.fn H (ds++[])).results [])
  (hargs:(s.fn H (ds++[])).args=ds) (hvars:∀ sp,DataW.TrodVars enc P W' sp s.vars (s.fn H (ds++[])).vars []) (hb:Below W.heap.size W W') :
  s.post enc P f apart fresh handsOn false W args v W':=by
 refine ⟨ds,[],before,[],before,[],hW,hres _ _ _,?_,hvars _,hb.frame _,λ h=>by cases h⟩
 rw [hargs]
 exact lQ hl hb hts hA (λ x hx=>hW.lt x hx)
end
def qT:Obj -> Blk
 | .cells cs ty fz=>.rows 1 cs.size (λ i _=>cs.getD i default) ty fz
 | o=>.obj o
theorem lB (o:Obj):(qT o).den=o:=by
 cases o with
 | cells cs ty fz =>
  show Obj.cells ⟨bz 1 (λ i _=>cs.getD i default) cs.size⟩ ty fz=_
  congr 1
  have e:bz 1 (λ i _=>cs.getD i default) cs.size=cs.toList:=by
   refine gV (by simp) ?_
   intro i k hi hk
   obtain rfl:k=0:=by omega
   simp [Array.getD,hi]
  rw [e]
 | _=>rfl
def kR (w:World):HL:=List.ofFn (λ k:Fin w.heap.size=>(k.1,qT w.heap[k.1]))
theorem qU {w:World} {k:Nat} {o:Obj} (h:w.heap[k]?=some o):(k,qT o) ∈ kR w:=by
 obtain ⟨hk,he⟩:=Array.getElem?_eq_some_iff.1 h
 exact List.mem_ofFn.2 ⟨⟨k,hk⟩,by simp [he]⟩
theorem yV (w:World):Rel (kR w) w:=by
 refine ⟨λ x hx=>?_,?_⟩
 ·obtain ⟨k,rfl⟩:=List.mem_ofFn.1 hx
  simp [lB]
 ·unfold kR
  rw [List.map_ofFn]
  have e:List.ofFn ((λ x:Nat × Blk=>x.1) ∘ λ k:Fin w.heap.size=>(k.1,qT w.heap[k.1]))=List.range w.heap.size:=by
   apply List.ext_getElem
   ·simp
   ·intro i h1 h2;simp
  rw [e]
  exact List.nodup_range
theorem CE {P:Program} {f:FuncId} {args:Array Value} {v:Value} (w:World) (h:Sp P f args [] (kR w) (λ u H'=>u=v /\ H'=[])):Calls P f args w λ e w'=>e=.returned v /\ Below w.heap.size w w':=by
 refine (h w (yV w)).mono ?_
 rintro e w' ⟨u,H',rfl,⟨rfl,rfl⟩,hR',hB⟩
 refine ⟨rfl,hB.os,hB.tape,hB.output,hB.size,λ k hk=>?_⟩
 have:=hR'.holds (k,qT w.heap[k]) (by rw [List.nil_append];exact qU (by simp [hk]))
 rw [this]
 simp [lB,hk]
theorem wT {H:Type} {enc:TypeId × Value -> H} {w:World} {r:Reach} {b0:Nat} {v:Value} {d:DataW H} {ps:List MemPlace} (hval:Value.okWide Tryz.prog w r b0 22 v) (hd:DataW.Trod enc Tryz.prog w 0 (λ _=>true) true 22 v d ps) :
  ∃ (A:Option Addr) (n cap:Nat) (xs:List Int),v=.slice A n cap /\ n <= 9223372036854775807 /\ ArgL (kR w) A n xs /\ n <= cap:=by
 obtain ⟨a0,len,cap,rfl⟩:=okWide_slice Tryz.underlying22 hval
 obtain ⟨fuel,hf⟩:=hd
 rcases open_ints Tryz.underlying22 Tryz.underlying3 (by kernel_rfl) hf with ⟨hcs,hx⟩ | ⟨a,len',cap',zs,hcs,_,hl,hm,hz,hx,hcell,hwz⟩
 ·simp [Value.cells] at hcs
  obtain ⟨rfl,rfl,rfl⟩:=hcs
  exact ⟨none,0,0,[],rfl,by omega,.zero _,Nat.le_refl _⟩
 ·simp [Value.cells] at hcs
  obtain ⟨rfl,rfl,rfl⟩:=hcs
  unfold maxLen at hm
  simp at hz
  rcases Nat.eq_zero_or_pos len with h0 | hpos
  ·subst h0
   exact ⟨some a,0,_,[],rfl,by omega,.zero _,Nat.zero_le _⟩
  ·have hlz:len <= zs.length:=by omega
   obtain ⟨b,off,spot⟩:=a
   have c0:=hcell 0 (by omega)
   have hsp:spot=none:=by
    cases spot with
    | none=>rfl
    | some s=>simp [Addr.add,World.cell?] at c0;split at c0 <;> simp at c0
   subst hsp
   have hc:∀ i,i < zs.length -> w.cell? ⟨b,off+i,none⟩=some (.int .i64 (zs.getD i 0)):=λ i hi=>by
    have:=hcell i hi
    unfold Addr.add at this
    by_cases h:i=0
    ·subst h;simpa using this
    ·rw [if_neg h] at this;exact this
   have h0:=hc 0 (by omega)
   unfold World.cell? at h0
   split at h0
   case h_2=>cases h0
   rename_i cs ty fz hb
   refine ⟨some ⟨b,off,none⟩,len,cap,zs.take len,rfl,by omega,?_,hl⟩
   have hlen:(zs.take len).length=len:=by rw [List.length_take];omega
   have hcs:∀ k,k < len -> cs[off+k]?=some (vI ((zs.take len).getD k 0)):=λ k hk=>by
    have h1:=hc k (by omega)
    unfold World.cell? at h1
    rw [show w.heap[(⟨b,off+k,none⟩:Addr).block]?=some (.cells cs ty fz) from hb] at h1
    have h2:cs[off+k]?=some (.int .i64 (zs.getD k 0)):=by simpa using h1
    rw [h2]
    simp [List.getD_eq_getElem?_getD,List.getElem?_take,hk]
   have hmem:=qU hb
   have hle:off+len <= cs.size:=by
    have h1:=hcs (len - 1) (by omega)
    have h2:=(Array.getElem?_eq_some_iff.1 h1).1
    omega
   have:=ArgL.cells (F:=kR w) b off cs.size (λ i _=>cs.getD i default) ty fz (zs.take len) hmem (by rw [hlen];exact hle) (λ k hk=>by
    rw [hlen] at hk
    have h1:=hcs k hk
    simp only [Array.getD_eq_getD_getElem?]
    rw [h1];rfl) (λ k hk=>by
    rw [hlen] at hk
    have:(zs.take len).getD k 0 ∈ zs:=by
     rw [List.getD_eq_getElem?_getD,List.getElem?_eq_getElem (by omega)]
     exact List.mem_of_mem_take (List.getElem_mem _)
    exact jI (hwz _ this))
   rw [hlen] at this
   exact this
theorem rz {H:Type} {enc:TypeId × Value -> H} {P:Program} {w:World} {base:Nat} {sp:Nat -> Bool} {held:Bool} {fuel:Nat} {t e:TypeId} {n m:Nat} {k:IntKind} {fs:Array Field} {cs:List Value} {zs:List (List Int)} {p:List MemPlace}
  (ht:P.underlying t=some (.array n e)) (he:P.underlying e=some (.struct fs)) (hce:P.cellsOf e=m) (hct:P.cellsOf t=n * m) (hm:0 < m) (hfl:fs.toList.length=m)
  (hf:∀ (j:Nat) f,fs.toList[j]?=some f -> P.underlying f.type=some (.int k) /\ P.cellsOf f.type=1 /\ f.offset=j) (hz:∀ z ∈ zs,z.length=m)
  (h:DataW.trod enc P w base sp held fuel t cs=some (.agg (zs.map λ z=>.agg (z.map λ x=>.lit (.int k x))),p)) :
  cs.length=n * m /\ zs.length=n /\ ∀ i j,i < n -> j < m -> cs[i * m+j]?=some (.int k ((zs.getD i []).getD j 0)):=by
 cases fuel with
 | zero=>simp [DataW.trod] at h
 | succ fuel =>
  simp only [DataW.trod,ht,hce,hct] at h
  split at h
  case isFalse=>cases h
  rename_i hl
  obtain ⟨xs,hmm,hx⟩:=Option.map_eq_some_iff.1 h
  have hxs:xs.map (·.1)=zs.map λ z=>(DataW.agg (z.map λ x=>.lit (.int k x)):DataW H):=by
   have:=congrArg Prod.fst hx
   simpa using this
  have hxl:xs.length=n:=by simpa using Lib.mapM_length hmm
  have hzl:zs.length=n:=by
   have:=congrArg List.length hxs
   simp at this
   omega
  refine ⟨hl,hzl,λ i j hi hj=>?_⟩
  obtain ⟨b,hb,hfb⟩:=Lib.mapM_at hmm i i (by simp [hi])
  have hbz:b.1=.agg ((zs.getD i []).map λ x=>.lit (.int k x)):=by
   have h2:(xs.map (·.1))[i]?=some b.1:=by simp [hb]
   rw [hxs,List.getElem?_map,List.getElem?_eq_getElem (by omega)] at h2
   simp only [Option.map_some,Option.some.injEq] at h2
   rw [<- h2,List.getD_eq_getElem?_getD,List.getElem?_eq_getElem (by omega)]
   rfl
  have hzi:(zs.getD i []).length=m:=by
   rw [List.getD_eq_getElem?_getD,List.getElem?_eq_getElem (by omega)]
   exact hz _ (List.getElem_mem _)
  cases fuel with
  | zero=>simp [DataW.trod] at hfb
  | succ fuel =>
   have hfb':=hfb
   simp only [DataW.trod,he,hce] at hfb'
   split at hfb'
   case isFalse=>cases hfb'
   rename_i hcl
   obtain ⟨ys,hym,hy⟩:=Option.map_eq_some_iff.1 hfb'
   have hys:ys.map (·.1)=(zs.getD i []).map λ x=>(DataW.lit (.int k x):DataW H):=by
    have:=congrArg Prod.fst hy
    rw [hbz] at this
    simpa using this
   have hfj:fs.toList[j]?=some (fs.toList[j]'(by omega)):=List.getElem?_eq_getElem (by omega)
   obtain ⟨c,hc,hfc⟩:=Lib.mapM_at hym j _ hfj
   obtain ⟨f1,f2,f3⟩:=hf j _ hfj
   rw [f2,f3] at hfc
   obtain ⟨x,hcx,hcd,_⟩:=DataW.trod_int f1 hfc
   have h1:(((cs.drop (i * m)).take m).drop j).take 1=[.int k x]:=hcx
   have h2:cs[i * m+j]?=some (.int k x):=by
    have:=congrArg (·[0]?) h1
    simpa [List.getElem?_take,List.getElem?_drop,hj] using this
   have h3:(ys.map (·.1))[j]?=some (DataW.lit (.int k x):DataW H):=by simp [hc,hcd]
   rw [hys,List.getElem?_map,List.getElem?_eq_getElem (by omega)] at h3
   simp only [Option.map_some,Option.some.injEq,DataW.lit.injEq,Lit.int.injEq,true_and] at h3
   have h4:∀ l:List Int,(hl:j < l.length) -> l[j]=l.getD j 0:=λ l hl=>by simp [List.getD_eq_getElem?_getD,hl]
   rw [h2,<- h3,h4 _ (by omega)]
theorem jY {H:Type} {enc:TypeId × Value -> H} {a:Assume} {C:Checked} {os:Os} {f:FuncId} {fn:Func} {s:ChangeSpec} {conds:List PathCond} {apart fresh handsOn again:Bool} {X:World -> Array Value -> Prop}
  (hX:∀ (w w':World) (args:Array Value),w.heap=w'.heap -> X w args -> X w' args)
  (own:ownKnob C.prog.godebug=none) (started:os.Started) (noInit:C.prog.inits.idxOf? f=none) (hfn:C.prog.funcs[f]?=some fn)
  (witness:∃ (w:World) (tape:Tape) (i:Input),w.os=os /\ (w.forCall tape i).Shaped C.prog /\ i.vars=[] /\ Input.okWide C.prog (w.forCall tape i) .any w.heap.size f i /\
   ((s.pre enc C.prog fn conds apart (w.forCall tape i).memory i.args /\ X (w.forCall tape i).memory i.args) /\ sizedMet enc C.prog fn (OpenSpec.ofChange s) apart (w.forCall tape i).memory i.args) /\ a.holds C.prog (lone (Frame.enter C.prog f i.args .normal) [] (w.forCall tape i)))
  (contract:∀ (W:World) (base:Nat) (args:Array Value) (ds gs:List (DataW H)) (before:List MemPlace),W.ShapedOpen C.prog ->
   (∀ (j:Nat) t v,fn.params[j]?=some t -> args[j]?=some v -> Value.okWide C.prog W .any base t v) ->
   DataW.Whole enc C.prog fn.params.toList s.vars apart W args.toList ds gs before -> X W args ->
   Calls C.prog f args W λ e W'=>∃ v,e=.returned v /\ s.post enc C.prog fn apart fresh handsOn again W args v W') :
  ReturnsInHanded a C os f .any (λ w args=>(s.pre enc C.prog fn conds apart w args /\ X w args) /\ sizedMet enc C.prog fn (OpenSpec.ofChange s) apart w args) (s.post enc C.prog fn apart fresh handsOn again):=by
 refine returnsInHanded_of_calls own started noInit witness ?_
 intro w tape i _ hsh _ hok hpre hholds
 obtain ⟨_,_,_,fn',hfn',_,_,_,_,hval⟩:=hok
 have e:fn'=fn:=Option.some.inj (hfn'.symm.trans hfn)
 subst e
 obtain ⟨⟨⟨ds,gs,before,hw,hc⟩,hx⟩,hz⟩:=hpre
 have hw':=DataW.Whole.of_heap (w':=w.forCall tape i) (by rfl) hw
 refine (contract (w.forCall tape i) w.heap.size i.args ds gs before hsh hval hw' (hX _ _ _ (by rfl) hx)).mono λ e W' ⟨v,he,hp⟩=>?_
 subst he
 exact ChangeSpec.post_blind hp
def ceZ:List (List Int):=[[0,0],[0,1],[0,1],[1,0],[1,1],[2,0],[0,1],[0,1],[0,1],[2,1],[2,1],[2,1],[2,1],[1,1],[2,1],[2,1],[2,1],[1,1],[0,0],[1,0],[2,0],[0,0]]
def AC:Nat -> Nat -> Value:=λ i j=>.int .i64 ((ceZ.getD i []).getD j 0)
theorem Gz:(Blk.rows 2 22 AC 302 (0,0)).den=(Blk.lit qI 302 (0,0)).den:=by kernel_rfl
def efZ:List (List Int):=mO.map λ z=>[z.1,z.2.1,z.2.2]
theorem wU (g:Nat) (t:TypeId) (hg:g < Tryz.prog.globals.size) (h0:(((begin Tryz.prog (λ _ _=>0) default).world.heap[g]?).bind Obj.row?).map (·.2)=some t) {W:World} (hs:W.ShapedOpen Tryz.prog):∃ cs,W.heap[g]?=some (.cells cs t (0,0)):=by
 cases h:((begin Tryz.prog (λ _ _=>0) default).world.heap[g]?).bind Obj.row? with
 | none=>rw [h] at h0;cases h0
 | some x =>
  obtain ⟨z,t'⟩:=x
  rw [h] at h0
  simp only [Option.map_some,Option.some.injEq] at h0
  subst h0
  obtain ⟨cs,h1,_⟩:=hs.1 g z t' hg h
  exact ⟨cs,h1⟩
def GA (P:Program) (e:TypeId) (m:Nat):Bool :=
 match P.underlying e with
 | some (.struct fs)=>decide (fs.toList.length=m) && (List.range m).all λ j =>
  match fs.toList[j]? with
  | some f=>(match P.underlying f.type with | some (.int .i64)=>true | _=>false) && decide (P.cellsOf f.type=1) && decide (f.offset=j)
  | none=>false
 | _=>false
theorem CF {P:Program} {e:TypeId} {m:Nat} (h:GA P e m=true):∃ fs:Array Field,P.underlying e=some (.struct fs) /\ fs.toList.length=m /\
  ∀ (j:Nat) f,fs.toList[j]?=some f -> P.underlying f.type=some (.int .i64) /\ P.cellsOf f.type=1 /\ f.offset=j:=by
 unfold GA at h
 split at h
 case h_2=>cases h
 rename_i fs hfs
 rw [Bool.and_eq_true] at h
 have hm:fs.toList.length=m:=of_decide_eq_true h.1
 refine ⟨fs,hfs,hm,λ j f hj=>?_⟩
 have hjm:j < m:=by rw [<- hm];exact (List.getElem?_eq_some_iff.1 hj).1
 have h2:=List.all_eq_true.1 h.2 j (List.mem_range.2 hjm)
 rw [hj] at h2
 simp only [Bool.and_eq_true,decide_eq_true_eq] at h2
 refine ⟨?_,h2.1.2,h2.2⟩
 have h3:=h2.1.1
 split at h3
 ·assumption
 ·cases h3
theorem AD {P:Program} {W:World} {name:String} {g n m:Nat} {t e:TypeId} {zs:List (List Int)} {rest:List (String × DataW Unit)} {ps:List MemPlace} {row:Nat -> Nat -> Value} {cs0:Array Value}
  (hb:W.heap[g]?=some (.cells cs0 t (0,0)))
  (hg:P.globalNamed name=some g) (hty:(P.globals[g]?).map (·.type)=some t) (ht:P.underlying t=some (.array n e)) (hE:GA P e m=true) (hce:P.cellsOf e=m) (hct:P.cellsOf t=n * m) (hm:0 < m) (hz:∀ z ∈ zs,z.length=m)
  (hrow:∀ i j,i < n -> j < m -> row i j=.int .i64 ((zs.getD i []).getD j 0))
  (h:DataW.LaidVars P W ((name,.agg (zs.map λ z=>.agg (z.map λ x=>.lit (.int .i64 x)))) :: rest) ps):W.heap[g]?=some (Blk.rows m n row t (0,0)).den /\ ∃ q,DataW.LaidVars P W rest q:=by
 obtain ⟨fs,he,hfl,hf⟩:=CF hE
 obtain ⟨g',t',cs,fuel,p,q,hg',ht',hvar,hd,hr,_⟩:=h
 obtain rfl:=Option.some.inj (hg.symm.trans hg')
 obtain rfl:=Option.some.inj (hty.symm.trans ht')
 have hv:W.var? P name=some cs0:=by
  unfold World.var?
  rw [hg]
  simp only [Option.bind_some,hb]
 obtain rfl:=Option.some.inj (hv.symm.trans hvar)
 obtain ⟨h1,h2,h3⟩:=rz ht he hce hct hm hfl hf hz hd
 refine ⟨?_,q,hr⟩
 rw [hb]
 show some (Obj.cells cs0 t (0,0))=some (Obj.cells ⟨bz m row n⟩ t (0,0))
 congr 2
 obtain ⟨l⟩:=cs0
 congr 1
 symm
 exact gV (w:=m) h1 λ i j hi hj=>by rw [hrow i j hi hj];exact h3 i j hi hj
theorem IZ {W:World} (hs:W.ShapedOpen Tryz.prog) (hL:laidMetH Tryz.prog [("arenanet/compile.effects",Rows.laid_arenanet_compile_effects),("arenanet/vm.effects",Rows.laid_arenanet_vm_effects)] W):W.heap[0]?=some (Blk.lit qI 302 (0,0)).den /\ W.heap[1]?=some (Blk.rows 3 22 lZ 323 (0,0)).den:=by
 rw [MakeChecks.laidMetH_plain _ _ _ (by kernel_rfl)] at hL
 obtain ⟨ps,hv,_,_⟩:=hL
 obtain ⟨cs0,hb0⟩:=wU 0 302 (of_decide_eq_true (by kernel_rfl)) (by kernel_rfl) hs
 obtain ⟨cs1,hb1⟩:=wU 1 323 (of_decide_eq_true (by kernel_rfl)) (by kernel_rfl) hs
 have hv0:DataW.LaidVars Tryz.prog W (("arenanet/compile.effects",.agg (ceZ.map λ z=>.agg (z.map λ x=>.lit (.int .i64 x)))) :: [("arenanet/vm.effects",.agg (efZ.map λ z=>.agg (z.map λ x=>.lit (.int .i64 x))))]) ps:=hv
 obtain ⟨h0,q,hq⟩:=AD (n:=22) (m:=2) (e:=301) (row:=AC) hb0 (by kernel_rfl) (by kernel_rfl) (by kernel_rfl) (by kernel_rfl) (by kernel_rfl) (by kernel_rfl) (by decide) (by decide) (λ i j hi hj=>rfl) hv0
 obtain ⟨h1,_⟩:=AD (n:=22) (m:=3) (e:=322) (row:=lZ) hb1 (by kernel_rfl) (by kernel_rfl) (by kernel_rfl) (by kernel_rfl) (by kernel_rfl) (by kernel_rfl) (by decide) (by decide) (λ i j hi hj=>by
  have key:∀ i:Fin 22,∀ j:Fin 3,(if j.1=0 then (mO.getD i.1 (0,0,0)).1 else if j.1=1 then (mO.getD i.1 (0,0,0)).2.1 else (mO.getD i.1 (0,0,0)).2.2)=(efZ.getD i.1 []).getD j.1 0:=by decide
  have:=key ⟨i,hi⟩ ⟨j,hj⟩
  rcases j with _ | _ | _ | j
  ·exact congrArg (Value.int .i64) this
  ·exact congrArg (Value.int .i64) this
  ·exact congrArg (Value.int .i64) this
  ·omega) hq
 exact ⟨h0.trans (congrArg some Gz),h1⟩
def qV (W:World):HL:=List.ofFn (λ k:Fin W.heap.size=>(k.1,if k.1=0 then Blk.lit qI 302 (0,0) else if k.1=1 then Blk.rows 3 22 lZ 323 (0,0) else qT W.heap[k.1]))
theorem yW {W:World} (h0:W.heap[0]?=some (Blk.lit qI 302 (0,0)).den) (h1:W.heap[1]?=some (Blk.rows 3 22 lZ 323 (0,0)).den):hZ (kR W)=hZ (qV W):=by
 unfold hZ kR qV
 rw [List.map_ofFn,List.map_ofFn]
 congr 1
 funext k
 show (k.1,(qT W.heap[k.1]).den)=(k.1,Blk.den (if k.1=0 then _ else if k.1=1 then _ else _))
 rw [lB]
 congr 1
 by_cases e0:k.1=0
 ·rw [if_pos e0]
  have h2:W.heap[k.1]?=some (Blk.lit qI 302 (0,0)).den:=by rw [show W.heap[k.1]?=W.heap[0]? by rw [e0]];exact h0
  rw [Array.getElem?_eq_getElem k.2] at h2
  exact Option.some.inj h2
 ·rw [if_neg e0]
  by_cases e1:k.1=1
  ·rw [if_pos e1]
   have h2:W.heap[k.1]?=some (Blk.rows 3 22 lZ 323 (0,0)).den:=by rw [show W.heap[k.1]?=W.heap[1]? by rw [e1]];exact h1
   rw [Array.getElem?_eq_getElem k.2] at h2
   exact Option.some.inj h2
  ·rw [if_neg e1,lB]
theorem GB {W:World} (h0:W.heap[0]?=some (Blk.lit qI 302 (0,0)).den):kQ (qV W) :=
 List.mem_ofFn.2 ⟨⟨0,(Array.getElem?_eq_some_iff.1 h0).1⟩,rfl⟩
theorem GC {W:World} (h1:W.heap[1]?=some (Blk.rows 3 22 lZ 323 (0,0)).den):cN (qV W) :=
 List.mem_ofFn.2 ⟨⟨1,(Array.getElem?_eq_some_iff.1 h1).1⟩,rfl⟩
open Go.Joins
theorem CG {H:Type} {enc:TypeId × Value -> H} {P:Program} {w:World} {base:Nat} {spare:Nat -> Bool} {held:Bool} {r:Reach} {b0:Nat} {t e:TypeId} {v:Value} {d:DataW H} {p:List MemPlace} (hs:P.underlying t=some (.array 2 e)) (hC:P.cellsOf t=2) (hce:P.cellsOf e=1)
  (hv:Value.okWide P w r b0 t v) (h:DataW.Trod enc P w base spare held t v d p) :
  ∃ (v0 v1:Value) (y0 y1:DataW H × List MemPlace) (n:Nat),v=.agg #[v0,v1] /\ d=.agg [y0.1,y1.1] /\ p=y0.2++y1.2 /\
   DataW.trod enc P w base spare held n e [v0]=some y0 /\ DataW.trod enc P w base spare held n e [v1]=some y1:=by
 simp only [Value.okWide,hs] at hv
 obtain ⟨cs,rfl,hsz,_⟩:=hv
 rw [hC] at hsz
 obtain ⟨l⟩:=cs
 match l,hsz with
 | [c0,c1],_ =>
  obtain ⟨fuel,hf⟩:=h
  obtain ⟨xs,m,rfl,hx,_,hlen,hi⟩:=DataW.trod_array hs hf
  match xs,hlen with
  | [y0,y1],_ =>
   simp only [Prod.mk.injEq] at hx
   have i0:=hi 0 (by decide)
   have i1:=hi 1 (by decide)
   simp only [hce,Value.cells] at i0 i1
   exact ⟨c0,c1,y0,y1,m,rfl,by simpa using hx.1,by simpa using hx.2,by simpa using i0,by simpa using i1⟩
noncomputable def CH (os:Os):World:=World.laidAll Tryz.prog os Rows.disputeTwinsRow.laid
theorem uh (os:Os) (started:os.Started) (H:Type) (enc:TypeId × Value -> H) :
  ReturnsInHanded {} Tryz.checked os 6 .any (λ w args=>(Rows.disputeTwinsSpec.pre enc Tryz.prog Tryz.f6 [] false w args /\ laidMetH Tryz.prog Rows.disputeTwinsRow.laid w) /\ sizedMet enc Tryz.prog Tryz.f6 (OpenSpec.ofChange Rows.disputeTwinsSpec) false w args)
   (Rows.disputeTwinsSpec.post enc Tryz.prog Tryz.f6 false true false false):=by
 refine jY (C:=Tryz.checked) (X:=λ w _=>laidMetH Tryz.prog Rows.disputeTwinsRow.laid w) (λ _ _ _ hh h=>h.of_heap hh) Gw started (by kernel_rfl) Tryz.func6
  (ChangeSpec.witness_at (enc:=enc) (C:=Tryz.checked) (os:=os) (X:=λ w _=>laidMetH Tryz.prog Rows.disputeTwinsRow.laid w) false (CH os) #[.slice none 0 0,.int .i64 0,.slice none 0 0,.int .i64 0,.agg #[.int .i64 0,.int .i64 0]] 8 (World.laidAll_os _ _ _) (by kernel_rfl) (by kernel_rfl) (by kernel_rfl) (by kernel_rfl) (by kernel_rfl) (laidMetH_of_parts (laidMet_laidAll _ (by kernel_rfl) (by kernel_rfl)) (by kernel_rfl))) ?_
 intro W base args ds gs before hsh hval0 hW hL
 have hval:∀ (j:Nat) t v,Tryz.f6.params[j]?=some t -> args[j]?=some v -> Value.okWide Tryz.prog W .any base t v:=hval0
 have hW':=hW
 obtain ⟨p,q,hA0,hV,rfl,hfz,hnd⟩:=hW
 have hA:DataW.TrodAll enc Tryz.prog W 0 (λ _=>true) true Tryz.f6.params.toList args.toList ds p:=hA0
 have hAA:=hA
 rw [Tryz.params6] at hA hval
 obtain ⟨v0,vs0,d0,ds0,p0,q0,hargs,rfl,rfl,h0r,r0⟩:=trodAll_cons hA
 obtain ⟨v1,vs1,d1,ds1,p1,q1,rfl,rfl,rfl,h1r,r1⟩:=trodAll_cons r0
 obtain ⟨v2,vs2,d2,ds2,p2,q2,rfl,rfl,rfl,h2r,r2⟩:=trodAll_cons r1
 obtain ⟨v3,vs3,d3,ds3,p3,q3,rfl,rfl,rfl,h3r,r3⟩:=trodAll_cons r2
 obtain ⟨v4,vs4,d4,ds4,p4,q4,rfl,rfl,rfl,h4r,r4⟩:=trodAll_cons r3
 obtain ⟨rfl,rfl,rfl⟩:=trodAll_nil r4
 obtain rfl:args=#[v0,v1,v2,v3,v4]:=by cases args;simp_all
 obtain ⟨rfl,rfl⟩:=trodVars_none hV
 obtain ⟨A0,n0,c0,x0,rfl,b0,h0,k0⟩:=wT (hval 0 22 v0 rfl rfl) h0r
 obtain ⟨a1,rfl,rfl,rfl,w1z⟩:=open_int Tryz.underlying3 (hval 1 3 v1 rfl rfl) h1r
 have w1:=jI w1z
 obtain ⟨A2,n2,c2,x2,rfl,b2,h2,k2⟩:=wT (hval 2 22 v2 rfl rfl) h2r
 obtain ⟨a3,rfl,rfl,rfl,w3z⟩:=open_int Tryz.underlying3 (hval 3 3 v3 rfl rfl) h3r
 have w3:=jI w3z
 obtain ⟨e40,e41,y40,y41,m4,rfl,rfl,rfl,hy40,hy41⟩:=CG Tryz.underlying90 (by kernel_rfl) (by kernel_rfl) (hval 4 90 v4 rfl rfl) h4r
 obtain ⟨a40,hc40,hx40,w40z⟩:=DataW.trod_int Tryz.underlying3 hy40
 obtain rfl:e40=.int .i64 a40:=by simpa using hc40
 subst hx40
 have w40:=jI w40z
 obtain ⟨a41,hc41,hx41,w41z⟩:=DataW.trod_int Tryz.underlying3 hy41
 obtain rfl:e41=.int .i64 a41:=by simpa using hc41
 subst hx41
 have w41:=jI w41z
 clear hA0 hval0
 simp only [List.append_nil,List.nil_append] at hW' hAA
 obtain ⟨g0,g1⟩:=IZ hsh hL
 have eW:=yW g0 g1
 refine (CE W ((CD A0 A2 n0 c0 n2 c2 x0 x2 a1 a3 a40 a41 (qV W) (GB g0) (GC g1) (h0.d eW) b0 (h2.d eW) b2 w1 w3 w40 w41).den eW.symm)).mono λ e W' ⟨he,hb⟩=>?_
 subst he
 exact ⟨_,rfl,Gy Gx (by rw [Tryz.params6];intro t ht;simp at ht;first | (subst ht;exact ⟨by kernel_rfl,of_decide_eq_true (by kernel_rfl)⟩) | (rcases ht with rfl | rfl <;> exact ⟨by kernel_rfl,of_decide_eq_true (by kernel_rfl)⟩) | (rcases ht with rfl | rfl | rfl <;> exact ⟨by kernel_rfl,of_decide_eq_true (by kernel_rfl)⟩) | (rcases ht with rfl | rfl | rfl | rfl <;> exact ⟨by kernel_rfl,of_decide_eq_true (by kernel_rfl)⟩) | (rcases ht with rfl | rfl | rfl | rfl | rfl <;> exact ⟨by kernel_rfl,of_decide_eq_true (by kernel_rfl)⟩)) hW' rfl hAA (λ _ _ _=>trodAll_cons_mk (shut_bool Tryz.underlying4 _) trodAll_mk0) rfl (λ _=>rfl) hb⟩
theorem rB:(Rows.disputeTwinsRow.inPlace == Tryz.prog.inPlace 6)=true:=by kernel_rfl
theorem oW:(Rows.disputeTwinsRow.named == Tryz.prog.varsNamed 6)=true:=by kernel_rfl
theorem oc:(Rows.disputeTwinsRow.unfollowed == Tryz.prog.unfollowed 6)=true:=by kernel_rfl
theorem qW:(Rows.disputeTwinsRow.recurses == Tryz.prog.recurses 6)=true:=by kernel_rfl
theorem rC:laidOutB Tryz.prog=true:=by kernel_rfl
theorem oX:mapsRowed Tryz.prog=true:=by kernel_rfl
theorem oY:(Rows.disputeTwinsRow.plainKeys == Tryz.prog.plainKeys)=true:=by kernel_rfl
theorem wV:Tryz.prog.mayEnter=true:=by kernel_rfl
theorem wW:Tryz.prog.stopsHeard=true:=by kernel_rfl
theorem ui:joinedFacts Tryz.prog 6 Tryz.f6 Rows.disputeTwinsSpec Rows.disputeTwinsRow=true:=by
 unfold joinedFacts
 simp only [rB,oW,oc,qW,rC,oX,oY,wV,wW,Bool.and_true,Bool.true_and]
 kernel_rfl
theorem yX:Rows.DisputeTwinsSaid :=
 OpenClaim.holds_of_wide 6 Tryz.f6 rfl rfl rfl rfl rfl rfl rfl ⟨rfl,rfl,rfl,rfl,rfl⟩ rfl rfl rfl rfl rfl (by kernel_rfl) Tryz.func6 ui
  (of_decide_eq_true (by kernel_rfl)) (by unfold Func.isWrapper;first | (rw [if_pos (by decide +kernel)];kernel_rfl) | (rw [if_neg (by decide +kernel)];exact ⟨rfl,rfl⟩))
  (λ os started H enc _=>uh os started H enc)
theorem yY:false=Rows.disputeTwinsRow.goesBy Tryz.prog:=by kernel_rfl
theorem wX:Tryz.prog.funcNamed "arenanet/arenanetlaw33.DisputeTwins"=some 6:=by kernel_rfl
theorem yZ:false=Tryz.prog.looks []:=by kernel_rfl
end Go.Proofs.YtghjbimijeinfaaGreatDoor
