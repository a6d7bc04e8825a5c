import Derived.Test.YtjokannbjmndfaaGreatDoorZ43
import Derived.Test.YtjokannbjmndfaaGreatDoorZ45
import Derived.Test.YtjokannbjmndfaaGreatDoorZ46
import Derived.Test.YtjokannbjmndfaaGreatDoorZ36
import Derived.Test.YtjokannbjmndfaaGreatDoorZ42
import Derived.Test.YtjokannbjmndfaaGreatDoorRows
import Derived.Test.YtjokannbjmndfaaGreatDoorChecked
import Derived.Test.YtjokannbjmndfaaGreatDoorZ19
import Derived.ProofKit
import Derived.OpenShut
import Derived.Carry
import Derived.Lay
import Derived.LaidHandle
import Derived.ChangeSlices
import Derived.Lib.LaidTab
import Derived.MakeChecks
import Derived.Lib.SmallJoins
import Derived.Test.YtjokannbjmndfaaGreatDoorTie
import Derived.Test.YtjokannbjmndfaaGreatDoorCards
import Derived.SevenTiedAt
import Derived.JoinedOf
import Derived.KernelRfl
set_option linter.all false
set_option maxHeartbeats 4000000
set_option maxRecDepth 100000
namespace Go.Proofs.YtjokannbjmndfaaGreatDoor
open Go.RowKit
variable {F:HL} {H:Type} {P:Program} {W w:World} {apart fresh handsOn held:Bool} {args:Array Value} {b0 g k m n:Nat} {e t:TypeId} {p ps:List MemPlace} {r:Reach} {s:ChangeSpec} {zs:List (List Int)}
theorem Cz{α:Type}{l r:List α}{o:Nat}(h:(l.drop o).take n=r)(hk:k<n){d:α}:l.getD (o+k) d=r.getD k d:=by
 have h1:((l.drop o).take n)[k]?=r[k]?:=by rw[h]
 rw[abn,if_pos hk,abi] at h1;rw[aaG,aaG,h1]
theorem Ap{n:Int}{j:Nat}(hn:pv n)(e:(aq n 5).toNat=j):af0 6 #[vI n] F (.string (oE j)):=by
 subst e;exact Cd F hn
theorem NN{A B:Option Addr}(ca cb:Nat){es1 es2:List Eff}(e:es1=es2)(ha:RowL aB 112 F A es1.length es1)(hb:RowL aB 112 F B es2.length es2)(hn:es1.length<=1000000):af0 20 #[.slice A es1.length ca,.slice B es2.length cb] F (.bool true):=by
 subst e;exact F3 ca cb ha hb hn
theorem xm(S:Setup)(J:Nat->Nat×Int)(xss:List (List Inp))(n:Nat):(nJ S J xss n).length<=1001*n:=wO _ _ _
theorem NO{A0:Option Addr}{n0:Nat} (c0:Nat){xs:List Int}{A2a:Option Addr}{ZA:Nat} (c2a:Nat){UQ:List Int}{A3a:Option Addr}{n3a:Nat} (c3a:Nat){x3a:List Int}{b0 b1:Int}(hE0:vk F)(hE1:cF F)(XA:ArgD F A0 n0 xs)(Vk:n0<=9223372036854775807)(YE:ArgD F A2a ZA UQ)(aei:ZA<=9223372036854775807)(aes:ArgD F A3a n3a x3a)(ahH:n3a<=9223372036854775807)(hb0:pv b0)(Xo:pv b1):af0 3 #[.slice A0 n0 c0,.agg #[vI b0,vI b1],.slice A2a ZA c2a,.slice A3a n3a c3a] F (.bool true):=by
 refine QG Tryz.func3<|ae 9 [] λ n1=>Ss (XA.up.use λ F_ h_=>Fu c0 h_ Vk) ?_;rintro _ ⟨S,TS⟩ ⟨rfl,hG⟩;dsimp only at hG;have hF:=P7 XA hG;have hpl:=hF.pl;have ZS:=hF.nb;have Vu:=hF.rn;have Zr:=hF.dn;have L_:=hF.sz;have W4:=jQ S S.nb;have hV:SetV S:=XA.ex.elim λ _ h_=>setV h_ hG;obtain⟨pl,ahv⟩:∃pl:Nat,S.players=(pl:Int):=⟨S.players.toNat,by omega⟩;have hTR:∀t,RowOk S.players (qt S UQ t):=λ t=>YE.ex.elim λ _ h_=>DU h_ (by omega);refine ae 8 (ow 0 16++[.o 2]) λ n2=>?_;obtain⟨Vh,aju,YG⟩:∃j,(aq b0 5).toNat=j/\j<5:=⟨_,rfl,by have h_:=dH (n:=b0) hb0 5 (by decide);omega⟩;refine aah (Ap hb0 aju)<|Ss (J1 YG (aC hE0)) ?_;rintro _ ⟨b3,T4⟩ ⟨rfl,hB5⟩;dsimp only at hB5;refine ae 27 [.o 2] λ _=>?_;obtain⟨Vg,ajt,YF⟩:∃j,(aq b1 5).toNat=j/\j<5:=⟨_,rfl,by have h_:=dH (n:=b1) Xo 5 (by decide);omega⟩;refine aah (Ap Xo ajt)<|aai [] [0] (Nl hB5 3 (by decide) YF (aC hE0)) ?_;rintro _ T6 ⟨rfl,hB7⟩;refine Sr 10 (ow 0 16)<|Ss (Ao b3 0 4 (tp 3 Vh Vg 0) (hG.sin _ (ay 1) (ar 1)).cl (hG.maps.2 _ (ar 1)) (by omega) (by omega) (by omega) (by omega) hF.val ahv (by omega) (by omega)) ?_;rintro _ ⟨p8,T9⟩ ⟨rfl,abJ⟩;dsimp only at abJ;have afd:PeerI S (tp 3 Vh Vg 0) 4 (qt S UQ) (⟨⟨bz S S.nb,[],0⟩,0,[],[],0,[],[],0⟩:PS (List Inp)) [] 0 0:=zY S (tp 3 Vh Vg 0) 4 (qt S UQ) 0;obtain⟨Pp8,acI⟩:∃x,(⟨⟨bz S S.nb,[],0⟩,0,[],[],0,[],[],0⟩:PS (List Inp))=x:=⟨_,rfl⟩;rw[acI] at abJ afd;have amq:([]:List (List Inp)).length=0:=rfl;have aj5:Pp8.rows.length=0:=by rw[<- acI];rfl
 have aj6:Pp8.rb=0:=by subst acI;rfl
 refine OG 9<|Ss (Aj) ?_;rintro _ ⟨b11,B12⟩ ⟨rfl,afo⟩;dsimp only at afo;refine OG 44<|Ss (aes.up.use λ F_ h_=>K4 c3a h_ ahH) ?_;rintro _ ⟨VP,A15,WR,V8⟩ ⟨ahY,rfl,Yr⟩;dsimp only at ahY Yr;refine OG 10<|aao<|aan (σ:=Nat×PS (List Inp)×List (Int×Value×Nat)×Nat×List (List Inp)×Nat×HL×Int×Int×Nat×Option Addr×Nat×HL×(Nat->List Eff)×HL) (λ ⟨i_,P_,kv_,c_,V_,m_,G_,sh_,en_,Io,Vo,Vn,VH,cb_,GB_⟩=>⟨[(2,.slice A2a ZA c2a),(9,vP (n2+0) 0),(10,vP b3 0),(12,vP p8 0),(14,vP b11 0),(15,vI sh_),(16,vI en_),(17,vI (Io:Int)),(18,.slice Vo ((nJ S (tp 3 Vh Vg 0) (bB S.players UQ 60) Io).length) Vn),(19,.slice A15 VP WR),(20,vI (i_:Int))],[((n2+0),.lit (Setup.l S) 32 (0,0)),(S.bb,.rows 9 S.bR (lw S.bods) 76 (0,0)),((n1+0),.lit [vI b0,vI b1] 23 (0,0))],[G_,V8,VH,GB_,T6,TS],i_<=VP/\PeerR tG (lh (kv xs 3%3).toNat) b3 p8 pl 0 4 S (tp 3 Vh Vg 0) P_ kv_ c_ 0 none G_/\PeerI S (tp 3 Vh Vg 0) 4 (qt S UQ) P_ V_ m_ (2*i_)/\c_<=50*(2*i_)/\Io<=V_.length/\Io<=P_.rows.length/\fg b11 (Io:Int) cb_ GB_/\EoI Io cb_ sh_ en_ (50*i_)/\SlIs aB 112 (nJ S (tp 3 Vh Vg 0) (bB S.players UQ 60) Io) Vo Vn VH,VP-i_⟩) (0,Pp8,[],0,([]:List (List Inp)),0,T9,0,0,0,none,0,[],λ _=>[],B12) [0,1,2] [3,1,0,2,4,5] (⟨aaJ _,abJ,afd,aaJ _,aaJ _,aaJ _,afo,Gx,aas _ _⟩) ?_;rintro⟨i_,P_,kv_,c_,V_,m_,G_,sh_,en_,Io,Vo,Vn,VH,cb_,GB_⟩ ⟨XB,hG_,V7,Zs,aol,aom,XG,W7,hf_⟩ Yd;have aer:=V7.lim;have adO:=V7.vlen;have alf:=W7.bds;have aky:=W7.sm;refine OG 9<|aal ((i_:Int)<(VP:Int)) 75 (λ h22=>?_) λ h22=>?_
 ·refine ae 6 [] λ _=>?_;have YW:=Gu aes (k:=VP) (by omega) (i:=i_) (by omega);obtain⟨ba_,Uu,fl_,rfl,rfl,an_,abU,aeI⟩:=Yr.resolve_left (λ h_=>by have VZ:=congrArg List.length h_.2.2.1;rw[iM,adl] at VZ;omega);rw[iM] at abU aeI;rw[<- Cz aeI (by omega)] at YW;refine rz 1 (x:=(ba_,.rows 3 (Uu+WR) (aD kL fl_) 50 (0,0)))<|aak [7] []<|aH [] [0,1,2,3,4,5,6] (ow 1 16++[.ix i_,.row 0 (Uu+i_) 0,.row 0 (Uu+i_) 1,.row 0 (Uu+i_) 2]) [((Uu*3+i_*3)+2)=(Uu+i_)*3+2/\(Uu+i_)<(Uu+WR),((Uu*3+i_*3)+1)=(Uu+i_)*3+1/\(Uu+i_)<(Uu+WR),(Uu*3+i_*3)=(Uu+i_)*3+0/\(Uu+i_)<(Uu+WR),(i_:Int)=((i_:Nat):Int)/\i_<VP]<|aae 7 (aaf [] [] [0] (K5 c2a (fl_.getD (Uu+i_) kL.dflt) hG_ V7 rfl hTR hV (by omega) (by omega) (by omega) Zs (λ i hi=>DV hB7 (ar 2) YG YF (t:=0+i) (by omega)) (aC hE1) YE.up aei YW) ?_);rintro _ ⟨⟨n23,e24,Us,Ye,c27,VN,m29⟩,T30⟩ ⟨rfl,U9,AI,ach,acA⟩;dsimp only at U9 AI ach acA;have akm:=AI.vlen;have akW:=AI.lim;have aij:=AI.inv.len_cs;unfold DoF Nt at acA;have anP:V_.length<=VN.length/\P_.rows.length<=Us.rows.length:=by omega
  clear acA;refine aad<|ah 11 [.ix i_,.row 0 (Uu+i_) 0] [(Uu*3+i_*3)=(Uu+i_)*3+0/\(Uu+i_)<(Uu+WR),(i_:Int)=((i_:Nat):Int)/\i_<VP] λ _=>aam ((fl_.getD (Uu+i_) kL.dflt).dO=2) 92 (λ h35=>?_) λ h35=>?_
  ·refine OG 20<|aan (σ:=Nat×Int×Int×(Nat->List Eff)×HL) (λ ⟨t_,Uz,Up,r_,Wo⟩=>⟨[(2,.slice A2a ZA c2a),(9,vP (n2+0) 0),(10,vP b3 0),(12,vP p8 0),(14,vP b11 0),(15,vI Uz),(16,vI Up),(17,vI (Io:Int)),(18,.slice Vo ((nJ S (tp 3 Vh Vg 0) (bB S.players UQ 60) Io).length) Vn),(19,vS ba_ (Uu*3) VP WR),(20,vI (i_:Int)),(21,vI (t_:Int))],[(ba_,.rows 3 (Uu+WR) (aD kL fl_) 50 (0,0)),((n2+0),.lit (Setup.l S) 32 (0,0)),(S.bb,.rows 9 S.bR (lw S.bods) 76 (0,0)),((n1+0),.lit [vI b0,vI b1] 23 (0,0))],[Wo,T30,VH,T6,TS],Io<=t_/\t_<=VN.length/\fg b11 (Io:Int) r_ Wo/\EoI Io r_ Uz Up (50*i_+t_)/\∀y,Io<=y->y<t_->r_ y=Us.effs.getD y [],VN.length-t_⟩) (Io,sh_,en_,cb_,GB_) [0,1,2,3] [2,0,1,3,4] (⟨aaI _,by omega,XG,W7.more (by omega),λ y VZ Ur=>by omega⟩) ?_;rintro⟨t_,Uz,Up,r_,Wo⟩ ⟨aiC,ag_,Xr,OF,Xm⟩ agL;refine OG 5<|aah (oM U9 (ar 1) (AI.t0 hV (by have h_:=AI.vlen;have Ur:=AI.lim;omega)))<|OG 3<|aal ((t_:Int)<(VN.length:Int)) 104 (λ h38=>?_) λ h38=>?_
   ·refine OG 11<|Ss (vB (t:=t_) U9 (ar 1) (AI.t0 hV (by have h_:=AI.vlen;have Ur:=AI.lim;omega)) (by omega) (by omega) rfl (by have h_:=AI.eff_len t_;omega)) ?_;rintro _ ⟨A39,c40,T41⟩ ⟨rfl,aeK⟩;dsimp only at aeK;have Vv:=AI.effNum hV (by omega) (t:=t_) (by omega);refine aai [] [1] (p4 Xr t_ c40 (aeK.rowL (ar 0)) (by omega) (by omega) Vv.1 Vv.2 (by have h_:=OF.le t_;omega)) ?_;rintro _ ⟨⟨A43,c44,T45⟩,⟨A46,c47,T48⟩,G49⟩ ⟨rfl,-,-,afm⟩;dsimp only at afm;have aiF:=Ah (λ x=>(r_ t_).count x) (Us.effs.getD t_ []);have ae4:=Ah (λ x=>((Us.effs.getD t_ [])).count x) (r_ t_);have aeP:=OF.le t_;have acj:=OF.bds;have aja:=OF.show (t:=t_) (l:=(Us.effs.getD t_ [])) (by omega) (by omega) Vv.1;refine ah 42 [.gen,.nw,.nw,.nw] [aX ((t_:Int)+1),aX (Up+(((jI (λ x=>((Us.effs.getD t_ [])).count x) (r_ t_)).length:Nat):Int)),aX (Uz+(((jI (λ x=>(r_ t_).count x) (Us.effs.getD t_ [])).length:Nat):Int))] λ _=>agL (t_+1,Uz+(((jI (λ x=>(r_ t_).count x) (Us.effs.getD t_ [])).length:Nat):Int),Up+(((jI (λ x=>((Us.effs.getD t_ [])).count x) (r_ t_)).length:Nat):Int),(ff r_ t_ (Us.effs.getD t_ [])),G49) [0,1,2,3] [0,4,5,6,7] ?_
    try dsimp only
    refine⟨⟨by omega,by omega,afm,aja.more (by omega),λ y VZ Ur=>?_⟩,by omega⟩;unfold ff;split
    ·next h3_=>rw[h3_]
    ·exact Xm y VZ (by omega)
   ·refine OG 9<|aah (oM U9 (ar 1) (AI.t0 hV (by have h_:=AI.vlen;have Ur:=AI.lim;omega)))<|OG 1<|aah (wX U9 (ar 1))<|ae 5 [] λ _=>?_;obtain⟨Uq,ab9⟩:∃k:Nat,min VN.length Us.rows.length=k:=⟨_,rfl⟩;refine aw 25 (congrArg (λ v_=>(vI v_:Value)) (show (if (Us.rows.length:Int)<(VN.length:Int) then (Us.rows.length:Int) else (VN.length:Int))=(Uq:Int) by split <;> omega))<|OG 2<|aai [] [1] (qs U9 AI hTR hV (by omega) (by omega) (by omega) ach (λ i hi=>DV hB7 (ar 2) YG YF (t:=0+i) (by omega)) (aC hE1)) ?_;rintro _ ⟨⟨n54,P55,c56,V57⟩,T58⟩ ⟨rfl,abC,aay,aiA,ag6,ahn,ae8⟩;dsimp only at abC aay aiA ag6 ahn ae8;refine OG 2<|aal ((n54:Int)=0) 133 (λ h65=>?_) λ h65=>?_
    ·refine ae 2 [] λ _=>?_;have abE:=ae8 (by omega);have aby:t_=VN.length:=by omega
     rw[aby] at Xm;have Za:=aay;rw[abE,ab9] at Za;refine OG 3<|aai [] [1] (p5 Xr Uq _ (λ t=>by have h_:=OF.le t;omega)) ?_;rintro _ ⟨⟨A66,c67,T68⟩,G69⟩ ⟨rfl,adW,acB⟩;dsimp only at adW acB;rw[show max (Io:Int) (Uq:Int)=(Uq:Int) by omega] at acB;have aiw:=my r_ Uq (n:=60) (by omega);have acj:=OF.bds;have ahc:=OF.sm;have ai_:=OF.conf (d:=Uq) (by omega) (by omega);have WL:=AI.fin26 (xs:=UQ) (V:=VN) (d:=Uq) Za (by omega) OF.lo Xm (by omega);refine ah 16 [.nw] [aX (Up+(((cf r_ Uq).length:Nat):Int))] λ _=>RN.appU (c':=c67) (tx:=45) fI (nJ S (tp 3 Vh Vg 0) (bB S.players UQ 60) Io) (cf r_ Uq) 3 rfl hf_ (by have VZ:=xm S (tp 3 Vh Vg 0) (bB S.players UQ 60) Io;omega) (adW.src fI (by decide) (ar 1)) ?_;rintro A73 c74 T75 ⟨ahe,amV⟩;have YO:=ahe;rw[WL] at YO;refine ah 16 [.nw] [aX ((i_:Int)+1)] λ _=>p9 0<|aw 17 (congrArg (λ v_=>(vI v_:Value)) (show (if (Uq:Int)>(Io:Int) then (Uq:Int) else (Io:Int))=(Uq:Int) by split <;> omega))<|aw 18 (congrArg (λ v_=>(.slice A73 v_ c74:Value)) (show (nJ S (tp 3 Vh Vg 0) (bB S.players UQ 60) Io).length+(cf r_ Uq).length=(nJ S (tp 3 Vh Vg 0) (bB S.players UQ 60) Uq).length by rw[<- WL,aaK]))<|Yd (i_+1,P55,Ye,c56,V57,(min VN.length Us.rows.length),T58,Uz,Up+(((cf r_ Uq).length:Nat):Int),Uq,A73,c74,T75,(fG r_ Uq),G69) [0,1,2] [4,0,1,2,5,6] ?_
     try dsimp only
     exact⟨⟨by omega,abC,aay.more (by omega),by omega,by omega,by omega,acB,ai_.more (by omega),YO⟩,by omega⟩
    ·refine ah 9 [.nw] [aX ((i_:Int)+1)] λ _=>p9 0<|Yd (i_+1,P55,Ye,c56,V57,(min VN.length Us.rows.length),T58,Uz,Up,Io,Vo,Vn,VH,r_,Wo) [0,1,2] [1,0,3,2,4,5] ?_
     try dsimp only
     exact⟨⟨by omega,abC,aay.more (by omega),by omega,by omega,by omega,Xr,OF.more (by omega),hf_⟩,by omega⟩
  ·refine ah 9 [.ix i_,.row 0 (Uu+i_) 0] [(Uu*3+i_*3)=(Uu+i_)*3+0/\(Uu+i_)<(Uu+WR),(i_:Int)=((i_:Nat):Int)/\i_<VP] λ _=>aam ((fl_.getD (Uu+i_) kL.dflt).dO=3) 99 (λ h78=>?_) λ h78=>?_
   ·refine OG 11<|aan (σ:=Nat×Int×Int×(Nat->List Eff)×HL) (λ ⟨t_,Uz,Up,r_,Wo⟩=>⟨[(2,.slice A2a ZA c2a),(9,vP (n2+0) 0),(10,vP b3 0),(12,vP p8 0),(14,vP b11 0),(15,vI Uz),(16,vI Up),(17,vI (Io:Int)),(18,.slice Vo ((nJ S (tp 3 Vh Vg 0) (bB S.players UQ 60) Io).length) Vn),(19,vS ba_ (Uu*3) VP WR),(20,vI (i_:Int)),(21,vI (t_:Int))],[(ba_,.rows 3 (Uu+WR) (aD kL fl_) 50 (0,0)),((n2+0),.lit (Setup.l S) 32 (0,0)),(S.bb,.rows 9 S.bR (lw S.bods) 76 (0,0)),((n1+0),.lit [vI b0,vI b1] 23 (0,0))],[Wo,T30,VH,T6,TS],Io<=t_/\t_<=VN.length/\fg b11 (Io:Int) r_ Wo/\EoI Io r_ Uz Up (50*i_+t_)/\∀y,Io<=y->y<t_->r_ y=Us.effs.getD y [],VN.length-t_⟩) (Io,sh_,en_,cb_,GB_) [0,1,2,3] [2,0,1,3,4] (⟨aaI _,by omega,XG,W7.more (by omega),λ y VZ Ur=>by omega⟩) ?_;rintro⟨t_,Uz,Up,r_,Wo⟩ ⟨aiC,ag_,Xr,OF,Xm⟩ agK;refine OG 5<|aah (oM U9 (ar 1) (AI.t0 hV (by have h_:=AI.vlen;have Ur:=AI.lim;omega)))<|OG 3<|aal ((t_:Int)<(VN.length:Int)) 104 (λ h81=>?_) λ h81=>?_
    ·refine OG 11<|Ss (vB (t:=t_) U9 (ar 1) (AI.t0 hV (by have h_:=AI.vlen;have Ur:=AI.lim;omega)) (by omega) (by omega) rfl (by have h_:=AI.eff_len t_;omega)) ?_;rintro _ ⟨A82,c83,T84⟩ ⟨rfl,aeJ⟩;dsimp only at aeJ;have Vv:=AI.effNum hV (by omega) (t:=t_) (by omega);refine aai [] [1] (p4 Xr t_ c83 (aeJ.rowL (ar 0)) (by omega) (by omega) Vv.1 Vv.2 (by have h_:=OF.le t_;omega)) ?_;rintro _ ⟨⟨A86,c87,T88⟩,⟨A89,c90,T91⟩,G92⟩ ⟨rfl,-,-,afl⟩;dsimp only at afl;have aiF:=Ah (λ x=>(r_ t_).count x) (Us.effs.getD t_ []);have ae4:=Ah (λ x=>((Us.effs.getD t_ [])).count x) (r_ t_);have aeP:=OF.le t_;have acj:=OF.bds;have ai9:=OF.show (t:=t_) (l:=(Us.effs.getD t_ [])) (by omega) (by omega) Vv.1;refine ah 42 [.gen,.nw,.nw,.nw] [aX ((t_:Int)+1),aX (Up+(((jI (λ x=>((Us.effs.getD t_ [])).count x) (r_ t_)).length:Nat):Int)),aX (Uz+(((jI (λ x=>(r_ t_).count x) (Us.effs.getD t_ [])).length:Nat):Int))] λ _=>agK (t_+1,Uz+(((jI (λ x=>(r_ t_).count x) (Us.effs.getD t_ [])).length:Nat):Int),Up+(((jI (λ x=>((Us.effs.getD t_ [])).count x) (r_ t_)).length:Nat):Int),(ff r_ t_ (Us.effs.getD t_ [])),G92) [0,1,2,3] [0,4,5,6,7] ?_
     try dsimp only
     refine⟨⟨by omega,by omega,afl,ai9.more (by omega),λ y VZ Ur=>?_⟩,by omega⟩;unfold ff;split
     ·next h3_=>rw[h3_]
     ·exact Xm y VZ (by omega)
    ·refine OG 9<|aah (oM U9 (ar 1) (AI.t0 hV (by have h_:=AI.vlen;have Ur:=AI.lim;omega)))<|OG 1<|aah (wX U9 (ar 1))<|ae 5 [] λ _=>?_;obtain⟨Uq,ab9⟩:∃k:Nat,min VN.length Us.rows.length=k:=⟨_,rfl⟩;refine aw 25 (congrArg (λ v_=>(vI v_:Value)) (show (if (Us.rows.length:Int)<(VN.length:Int) then (Us.rows.length:Int) else (VN.length:Int))=(Uq:Int) by split <;> omega))<|OG 2<|aai [] [1] (qs U9 AI hTR hV (by omega) (by omega) (by omega) ach (λ i hi=>DV hB7 (ar 2) YG YF (t:=0+i) (by omega)) (aC hE1)) ?_;rintro _ ⟨⟨n97,P98,c99,afJ⟩,afO⟩ ⟨rfl,Yu,XF,aeV,adQ,ad5,aa8⟩;dsimp only at Yu XF aeV adQ ad5 aa8;refine OG 2<|aal ((n97:Int)=0) 133 (λ ajl=>?_) λ ajl=>?_
     ·refine ae 2 [] λ _=>?_;have abE:=aa8 (by omega);have aby:t_=VN.length:=by omega
      rw[aby] at Xm;have Za:=XF;rw[abE,ab9] at Za;refine OG 3<|aai [] [1] (p5 Xr Uq _ (λ t=>by have h_:=OF.le t;omega)) ?_;rintro _ ⟨⟨apZ,ajC,apF⟩,ajQ⟩ ⟨rfl,aaV,Zb⟩;dsimp only at aaV Zb;rw[show max (Io:Int) (Uq:Int)=(Uq:Int) by omega] at Zb;have aiw:=my r_ Uq (n:=60) (by omega);have acj:=OF.bds;have ahc:=OF.sm;have afj:=OF.conf (d:=Uq) (by omega) (by omega);have WL:=AI.fin26 (xs:=UQ) (V:=VN) (d:=Uq) Za (by omega) OF.lo Xm (by omega);refine ah 16 [.nw] [aX (Up+(((cf r_ Uq).length:Nat):Int))] λ _=>RN.appU (c':=ajC) (tx:=45) fI (nJ S (tp 3 Vh Vg 0) (bB S.players UQ 60) Io) (cf r_ Uq) 3 rfl hf_ (by have VZ:=xm S (tp 3 Vh Vg 0) (bB S.players UQ 60) Io;omega) (aaV.src fI (by decide) (ar 1)) ?_;rintro afS afH ajM ⟨ad3,akf⟩;have YO:=ad3;rw[WL] at YO;refine ah 16 [.nw] [aX ((i_:Int)+1)] λ _=>p9 0<|aw 17 (congrArg (λ v_=>(vI v_:Value)) (show (if (Uq:Int)>(Io:Int) then (Uq:Int) else (Io:Int))=(Uq:Int) by split <;> omega))<|aw 18 (congrArg (λ v_=>(.slice afS v_ afH:Value)) (show (nJ S (tp 3 Vh Vg 0) (bB S.players UQ 60) Io).length+(cf r_ Uq).length=(nJ S (tp 3 Vh Vg 0) (bB S.players UQ 60) Uq).length by rw[<- WL,aaK]))<|Yd (i_+1,P98,Ye,c99,afJ,(min VN.length Us.rows.length),afO,Uz,Up+(((cf r_ Uq).length:Nat):Int),Uq,afS,afH,ajM,(fG r_ Uq),ajQ) [0,1,2] [4,0,1,2,5,6] ?_
      try dsimp only
      exact⟨⟨by omega,Yu,XF.more (by omega),by omega,by omega,by omega,Zb,afj.more (by omega),YO⟩,by omega⟩
     ·refine ah 9 [.nw] [aX ((i_:Int)+1)] λ _=>p9 0<|Yd (i_+1,P98,Ye,c99,afJ,(min VN.length Us.rows.length),afO,Uz,Up,Io,Vo,Vn,VH,r_,Wo) [0,1,2] [1,0,3,2,4,5] ?_
      try dsimp only
      exact⟨⟨by omega,Yu,XF.more (by omega),by omega,by omega,by omega,Xr,OF.more (by omega),hf_⟩,by omega⟩
   ·refine ah 10 [.nw] [aX ((i_:Int)+1)] λ _=>p9 0<|Yd (i_+1,Us,Ye,c27,VN,m29,T30,sh_,en_,Io,Vo,Vn,VH,cb_,GB_) [0,1,2] [1,0,2,3,4,5] ?_
    try dsimp only
    exact⟨⟨by omega,U9,AI.more (by omega),by omega,by omega,by omega,XG,W7.more (by omega),hf_⟩,by omega⟩
 ·refine OG 18<|aao<|aao<|aan (σ:=Nat×Option Addr×Nat×List Rw×HL×HL) (λ ⟨t_,A_,cr_,rs_,E_,T_⟩=>⟨[(2,.slice A2a ZA c2a),(9,vP (n2+0) 0),(10,vP b3 0),(14,vP b11 0),(15,vI sh_),(16,vI en_),(17,vI (Io:Int)),(18,.slice Vo ((nJ S (tp 3 Vh Vg 0) (bB S.players UQ 60) Io).length) Vn),(27,.slice A_ t_ cr_),(28,vI (t_:Int))],[((n2+0),.lit (Setup.l S) 32 (0,0)),(S.bb,.rows 9 S.bR (lw S.bods) 76 (0,0)),((n1+0),.lit [vI b0,vI b1] 23 (0,0))],[E_,T_,G_,V8,VH,GB_,T6,TS],t_<=Io/\SlIs kG 57 rs_ A_ cr_ E_/\rs_.length=t_/\RwsT rs_ (bB S.players UQ t_) T_,Io-t_⟩) (0,none,0,[],[],[]) [0,1,2] [0,1,2,3,4,5,6,7] (⟨aaJ _,aas _ _,rfl,RwsT.nil⟩) ?_;rintro⟨t_,A_,cr_,rs_,E_,T_⟩ ⟨ht_,IT,XQ,hT_⟩ ady;refine OG 8<|aal ((t_:Int)<(Io:Int)) 149 (λ ajk=>?_) λ ajk=>?_
  ·refine Sr 10 (ow 0 16)<|Ss (YE.up.use λ F_ h_=>pX S c2a (t_:Int) h_ aei (by omega) (by omega)) ?_;rintro _ ⟨afR,afG,ajK⟩ ⟨rfl,aaU,adG⟩;dsimp only at aaU adG;refine ae 1 [] λ n129=>gY J5 [(⟨afR,S.players.toNat,afG⟩:Rw)] 1 0 XQ.symm IT (by simp;omega) ?_;rintro ajV ajA ajJ ⟨ad2,ake⟩;refine ah 9 [.nw] [aX ((t_:Int)+1)] λ _=>uh [2,1,0,3,4,5,6,7,8]<|xE<|ady (t_+1,ajV,ajA,rs_++[(⟨afR,S.players.toNat,afG⟩:Rw)],ajJ,T_++ajK) [1,2,3] [1,0,2,3,4,5,6,7] ?_
   try dsimp only
   refine⟨⟨by omega,ad2,by simp;omega,?_⟩,by omega⟩;rw[zZ];exact hT_.snoc aaU (by rw[ez];omega) (ez).symm
  ·refine ae 7 [] λ _=>?_;have et_:t_=Io:=by omega
   rw[et_] at XQ hT_;refine aw 27 (congrArg (λ v_=>(.slice A_ v_ cr_:Value)) et_) ?_;have abZ:∀i,i<Io->RowOk S.players ((bB S.players UQ Io).getD i []):=λ i hi=>YE.ex.elim λ _ h_=>sZ h_ (by omega) hi;refine ae 4 (ow 0 16) λ _=>?_;have ZH:=Qb (J:=(tp 3 Vh Vg 0)) (xss:=bB S.players UQ Io) hV (f6 S) (n:=Io) (by omega) (λ i hi=>YE.ex.elim λ _ h_=>sZ h_ (by omega) hi) (aaI _);obtain⟨ajF,aa7⟩:∃W,WS S (tp 3 Vh Vg 0) (bB S.players UQ Io) Io=W:=⟨_,rfl⟩;rw[aa7] at ZH;have ahS:ajF.length<=1000000:=by omega
   refine Ss (Nz b3 cr_ (hG.sin _ (ay 1) (ar 7)) (hG.maps.2 _ (ar 7)) hV (by omega) (by omega) (by omega) hF.val (aC hE1) (IT.rowN (ar 0) XQ) (hT_ _ (ar 1)) (by omega) abZ (λ i hi=>DV hB7 (ar 6) YG YF (t:=0+i) (by omega)) aa7) ?_;rintro _ ⟨⟨amF,ajU,ajz⟩,apT⟩ ⟨aaT,rfl⟩;dsimp only at aaT;refine OG 16<|aah (NN Vn ajz (Lj (by omega)).symm (hf_.toRowL (ar 5)) (aaT.toRowL (ar 0)) (by have VZ:=xm S (tp 3 Vh Vg 0) (bB S.players UQ 60) Io;omega))<|OG 5<|aai [] [6] (GE XG 60 (λ t=>by have h_:=W7.le t;omega) W7.hi) ?_;rintro _ ⟨⟨apY,apv,apE⟩,apS⟩ ⟨rfl,akA,alq⟩;refine ah 5 [.nw] [aX (en_+(((cf cb_ 60).length:Nat):Int))] λ _=>aal (sh_=en_+(((cf cb_ 60).length:Nat):Int)) 183 (λ ajj=>?_) λ ajj=>?_
   ·refine aah (An)<|ae 4 [] λ _=>QJ _ _ ⟨rfl,rfl⟩
   ·(exfalso;omega)
open Go.ChangeShapes Go.WideShapes Go.ChangeAt
theorem Lo:ownKnob Tryz.prog.godebug=none:=by kernel_rfl
theorem Lp:laidOutB Tryz.prog=true:=by kernel_rfl
theorem p6{n:Int}(h:(Lit.int .i64 n).wf=true):-9223372036854775808<=n/\n<=9223372036854775807:=bounds_i64 h
section
variable {H:Type} {enc:TypeId×Value->H} {P:Program} {W W':World}
theorem mX(hl:laidOutB P=true)(hb:Below W.heap.size W W'):∀ {ts:List TypeId} {vs:List Value} {ds:List (DataW H)} {ps:List MemPlace},(∀t∈ts,P.readableRec t=true/\t<P.types.size)->
  DataW.TrodAll enc P W 0 (λ _=>true) true ts vs ds ps->(∀x∈ps,x.block<W.heap.size)->DataW.TrodAll enc P W' 0 (λ b=>decide (b<W.heap.size)) true ts vs ds ps
 | [],_,_,_,_,h,_=>by
  obtain⟨rfl,rfl,rfl⟩:=trodAll_nil h;exact trodAll_mk0
 |t::ts,_,_,_,ht,h,iN=>by
  obtain⟨v,vs1,d,ds1,a,b,rfl,rfl,rfl,h1,h2⟩:=trodAll_cons h;have h3:=ht t (by simp);exact trodAll_cons_mk (Below.trod hl h3.1 h3.2 h1 hb (λ x hx=>iN x (by simp[hx]))) (mX hl hb (λ t h=>ht t (aaD _ h)) h2 (λ x hx=>iN x (by simp[hx])))
theorem Lq{f:Func}{v:Value}{ds:List (DataW H)}{before:List MemPlace}(hl:laidOutB P=true)
  (hts:∀t∈f.params.toList,P.readableRec t=true/\t<P.types.size)
  (hW:DataW.Whole enc P f.params.toList s.vars apart W args.toList ds [] before) (hs:s.vars=[])
  (hA:DataW.TrodAll enc P W 0 (λ _=>true) true f.params.toList args.toList ds before)
  (Wb:∀ (b:Nat) (sp:Nat->Bool) (hd:Bool),DataW.TrodAll enc P W' b sp hd f.resultTypes.toList (v.resultList f.resultTypes.size) (s.fn H (ds++[])).results [])
  (XC:(s.fn H (ds++[])).args=ds) (adP:∀sp,DataW.TrodVars enc P W' sp s.vars (s.fn H (ds++[])).vars []) (hb:Below W.heap.size W W') :
  s.post enc P f apart fresh handsOn false W args v W':=by
 refine⟨ds,[],before,[],before,[],hW,Wb _ _ _,?_,adP _,hb.frame _,λ h=>by cases h⟩;rw[XC];exact mX hl hb hts hA (λ x hx=>hW.lt x hx)
end
def td:Obj->Blk
 | .cells cs ty fz=>.rows 1 cs.size (λ i _=>cs.getD i default) ty fz
 |o=>.obj o
theorem mz(o:Obj):(td o).den=o:=by
 cases o with
 |cells cs ty fz=>
  show Obj.cells ⟨bj 1 (λ i _=>cs.getD i default) cs.size⟩ ty fz=_;congr 1;have e:bj 1 (λ i _=>cs.getD i default) cs.size=cs.toList:=by
   refine kg (by simp) ?_;intro i k hi hk;obtain rfl:k=0:=by omega
   simp[Array.getD,hi]
  rw[e]
 |_=>rfl
def lQ(w:World):HL:=List.ofFn (λ k:Fin w.heap.size=>(k.1,td w.heap[k.1]))
theorem tf{o:Obj}(h:w.heap[k]?=some o):(k,td o)∈lQ w:=by
 obtain⟨hk,he⟩:=fx.1 h;exact afL.2 ⟨⟨k,hk⟩,by simp[he]⟩
theorem CA(w:World):Rel (lQ w) w:=by
 refine⟨λ x hx=>?_,?_⟩
 ·obtain⟨k,rfl⟩:=afL.1 hx;simp[mz]
 ·unfold lQ;rw[List.map_ofFn];have e:List.ofFn ((λ x:Nat×Blk=>x.1)∘λ k:Fin w.heap.size=>(k.1,td w.heap[k.1]))=List.range w.heap.size:=by
   apply List.ext_getElem
   ·simp
   ·intro i h1 h2;simp
  rw[e];exact List.nodup_range
theorem GH{f:FuncId}{v:Value}(w:World)(h:Sp P f args [] (lQ w) (λ u H'=>u=v/\H'=[])):Calls P f args w λ e w'=>e=.returned v/\Below w.heap.size w w':=by
 refine(h w (CA w)).mono ?_;rintro e w' ⟨u,H',rfl,⟨rfl,rfl⟩,IF,hB⟩;refine⟨rfl,hB.os,hB.tape,hB.output,hB.size,λ k hk=>?_⟩;have:=IF.holds (k,td w.heap[k]) (by rw[WF];exact tf (by simp[hk]));rw[this];simp[mz,hk]
theorem tg{enc:TypeId×Value->H}{v:Value}{d:DataW H}(RW:Value.okWide Tryz.prog w r b0 22 v)(hd:DataW.Trod enc Tryz.prog w 0 (λ _=>true) true 22 v d ps) :
  ∃ (A:Option Addr) (n cap:Nat) (xs:List Int),v=.slice A n cap/\n<=9223372036854775807/\ArgL (lQ w) A n xs/\n<=cap:=by
 obtain⟨a0,len,cap,rfl⟩:=okWide_slice Tryz.underlying22 RW;obtain⟨fuel,hf⟩:=hd;rcases open_ints Tryz.underlying22 Tryz.underlying3 (by kernel_rfl) hf with ⟨XU,hx⟩|⟨a,amR,iD,zs,XU,_,hl,hm,hz,hx,TZ,hwz⟩
 ·simp[Value.cells] at XU;obtain⟨rfl,rfl,rfl⟩:=XU;exact⟨none,0,0,[],rfl,by omega,.zero _,aaI _⟩
 ·simp[Value.cells] at XU;obtain⟨rfl,rfl,rfl⟩:=XU;unfold maxLen at hm;simp at hz;rcases acq len with h0|abM
  ·subst h0;exact⟨some a,0,_,[],rfl,by omega,.zero _,aaJ _⟩
  ·have hlz:len<=zs.length:=by omega
   obtain⟨b,off,spot⟩:=a;have c0:=TZ 0 (by omega);have Xw:spot=none:=by
    cases spot with
    |none=>rfl
    |some s=>simp[Addr.add,World.cell?] at c0;split at c0 <;> simp at c0
   subst Xw;have hc:∀i,i<zs.length->w.cell? ⟨b,off+i,none⟩=some (.int .i64 (zs.getD i 0)):=λ i hi=>by
    have:=TZ i hi;unfold Addr.add at this
    by_cases h:i=0
    ·subst h;simpa using this
    ·rw[if_neg h] at this;exact this
   have h0:=hc 0 (by omega);unfold World.cell? at h0;split at h0
   case h_2=>cases h0
   rename_i cs ty fz hb;refine⟨some ⟨b,off,none⟩,len,cap,zs.take len,rfl,by omega,?_,hl⟩;have hlen:(zs.take len).length=len:=by rw[aaN];omega
   have XU:∀k,k<len->cs[off+k]?=some (vI ((zs.take len).getD k 0)):=λ k hk=>by
    have h1:=hc k (by omega);unfold World.cell? at h1;rw[show w.heap[(⟨b,off+k,none⟩:Addr).block]?=some (.cells cs ty fz) from hb] at h1;have h2:cs[off+k]?=some (.int .i64 (zs.getD k 0)):=by simpa using h1
    rw[h2];simp[aaG,abn,hk]
   have YB:=tf hb;have hle:off+len<=cs.size:=by
    have h1:=XU (len-1) (by omega);have h2:=(fx.1 h1).1;omega
   have:=ArgL.cells (F:=lQ w) b off cs.size (λ i _=>cs.getD i default) ty fz (zs.take len) YB (by rw[hlen];exact hle) (λ k hk=>by
    rw[hlen] at hk;have h1:=XU k hk;simp only[aaA];rw[h1];rfl) (λ k hk=>by
    rw[hlen] at hk;have:(zs.take len).getD k 0∈zs:=by
     rw[aaG,aa1 (by omega)];exact ac9 (ac0 _)
    exact p6 (hwz _ this))
   rw[hlen] at this;exact this
theorem tW{enc:TypeId×Value->H}{base:Nat}{sp:Nat->Bool}{fuel:Nat}{k:IntKind}{fs:Array Field}{cs:List Value}
  (ht:P.underlying t=some (.array n e)) (he:P.underlying e=some (.struct fs)) (hce:P.cellsOf e=m) (hct:P.cellsOf t=n*m) (hm:0<m) (UY:fs.toList.length=m)
  (hf:∀ (j:Nat) f,fs.toList[j]?=some f->P.underlying f.type=some (.int k)/\P.cellsOf f.type=1/\f.offset=j) (hz:∀z∈zs,z.length=m)
  (h:DataW.trod enc P w base sp held fuel t cs=some (.agg (zs.map λ z=>.agg (z.map λ x=>.lit (.int k x))),p)) :
  cs.length=n*m/\zs.length=n/\∀i j,i<n->j<m->cs[i*m+j]?=some (.int k ((zs.getD i []).getD j 0)):=by
 cases fuel with
 |zero=>simp[DataW.trod] at h
 |succ fuel=>
  simp only[DataW.trod,ht,hce,hct] at h;split at h
  case isFalse=>cases h
  rename_i hl;obtain⟨xs,hmm,hx⟩:=acL.1 h;have hxs:xs.map (·.1)=zs.map λ z=>(DataW.agg (z.map λ x=>.lit (.int k x)):DataW H):=by
   have:=congrArg Prod.fst hx;simpa using this
  have hxl:xs.length=n:=by simpa using Lib.mapM_length hmm
  have Xa:zs.length=n:=by
   have:=congrArg List.length hxs;simp at this;omega
  refine⟨hl,Xa,λ i j hi hj=>?_⟩;obtain⟨b,hb,hfb⟩:=Lib.mapM_at hmm i i (by simp[hi]);have hbz:b.1=.agg ((zs.getD i []).map λ x=>.lit (.int k x)):=by
   have h2:(xs.map (·.1))[i]?=some b.1:=by simp[hb]
   rw[hxs,abo,aa1 (by omega)] at h2;simp only[UV,de] at h2;rw[<- h2,aaG,aa1 (by omega)];rfl
  have hzi:(zs.getD i []).length=m:=by
   rw[aaG,aa1 (by omega)];exact hz _ (ac0 _)
  cases fuel with
  |zero=>simp[DataW.trod] at hfb
  |succ fuel=>
   have Z3:=hfb;simp only[DataW.trod,he,hce] at Z3;split at Z3
   case isFalse=>cases Z3
   rename_i Q_;obtain⟨ys,hym,hy⟩:=acL.1 Z3;have hys:ys.map (·.1)=(zs.getD i []).map λ x=>(DataW.lit (.int k x):DataW H):=by
    have:=congrArg Prod.fst hy;rw[hbz] at this;simpa using this
   have hfj:fs.toList[j]?=some (fs.toList[j]'(by omega)):=aa1 (by omega);obtain⟨c,hc,hfc⟩:=Lib.mapM_at hym j _ hfj;obtain⟨f1,f2,f3⟩:=hf j _ hfj;rw[f2,f3] at hfc;obtain⟨x,hcx,hcd,_⟩:=DataW.trod_int f1 hfc;have h1:(((cs.drop (i*m)).take m).drop j).take 1=[.int k x]:=hcx;have h2:cs[i*m+j]?=some (.int k x):=by
    have:=congrArg (·[0]?) h1;simpa [abn,abi,hj] using this
   have h3:(ys.map (·.1))[j]?=some (DataW.lit (.int k x):DataW H):=by simp[hc,hcd]
   rw[hys,abo,aa1 (by omega)] at h3;simp only[UV,de,DataW.lit.injEq,Lit.int.injEq,true_and] at h3;have h4:∀l:List Int,(hl:j<l.length)->l[j]=l.getD j 0:=λ l hl=>by simp[aaG,hl]
   rw[h2,<- h3,h4 _ (by omega)]
theorem kP{enc:TypeId×Value->H}{a:Assume}{C:Checked}{os:Os}{f:FuncId}{fn:Func}{conds:List PathCond}{again:Bool}{X:World->Array Value->Prop}
  (hX:∀ (w w':World) (args:Array Value),w.heap=w'.heap->X w args->X w' args)
  (own:ownKnob C.prog.godebug=none) (started:os.Started) (abj:C.prog.inits.idxOf? f=none) (hfn:C.prog.funcs[f]?=some fn)
  (witness:∃ (w:World) (tape:Tape) (i:Input),w.os=os/\(w.forCall tape i).Shaped C.prog/\i.vars=[]/\Input.okWide C.prog (w.forCall tape i) .any w.heap.size f i/\
   ((s.pre enc C.prog fn conds apart (w.forCall tape i).memory i.args/\X (w.forCall tape i).memory i.args)/\sizedMet enc C.prog fn (OpenSpec.ofChange s) apart (w.forCall tape i).memory i.args)/\a.holds C.prog (lone (Frame.enter C.prog f i.args .normal) [] (w.forCall tape i)))
  (Zf:∀ (W:World) (base:Nat) (args:Array Value) (ds gs:List (DataW H)) (before:List MemPlace),W.ShapedOpen C.prog->
   (∀ (j:Nat) t v,fn.params[j]?=some t->args[j]?=some v->Value.okWide C.prog W .any base t v)->
   DataW.Whole enc C.prog fn.params.toList s.vars apart W args.toList ds gs before->X W args->
   Calls C.prog f args W λ e W'=>∃v,e=.returned v/\s.post enc C.prog fn apart fresh handsOn again W args v W') :
  ReturnsInHanded a C os f .any (λ w args=>(s.pre enc C.prog fn conds apart w args/\X w args)/\sizedMet enc C.prog fn (OpenSpec.ofChange s) apart w args) (s.post enc C.prog fn apart fresh handsOn again):=by
 refine returnsInHanded_of_calls own started abj witness ?_;intro w tape i _ X3 _ iF Uw ah6;obtain⟨_,_,_,fn',aic,_,_,_,_,RW⟩:=iF;have e:fn'=fn:=ab8 (aic.symm.trans hfn);subst e;obtain⟨⟨⟨ds,gs,before,hw,hc⟩,hx⟩,hz⟩:=Uw;have hw':=DataW.Whole.of_heap (w':=w.forCall tape i) (by rfl) hw;refine(Zf (w.forCall tape i) w.heap.size i.args ds gs before X3 RW hw' (hX _ _ _ (by rfl) hx)).mono λ e W' ⟨v,he,hp⟩=>?_;subst he;exact ChangeSpec.post_blind hp
def ceZ:List (List Int):=[[0,0],[0,1],[0,1],[1,0],[1,1],[2,0],[0,1],[0,1],[0,1],[2,1],[2,1],[2,1],[2,1],[1,1],[2,1],[2,1],[2,1],[1,1],[0,0],[1,0],[2,0],[0,0]]
def D8:Nat->Nat->Value:=λ i j=>.int .i64 ((ceZ.getD i []).getD j 0)
theorem Lr:(Blk.rows 2 22 D8 232 (0,0)).den=(Blk.lit wK 232 (0,0)).den:=by kernel_rfl
def efZ:List (List Int):=oc.map λ z=>[z.1,z.2.1,z.2.2]
theorem Aq(t:TypeId)(hg:g<Tryz.prog.globals.size)(h0:(((begin Tryz.prog (λ _ _=>0) default).world.heap[g]?).bind Obj.row?).map (·.2)=some t)(hs:W.ShapedOpen Tryz.prog):∃cs,W.heap[g]?=some (.cells cs t (0,0)):=by
 cases h:((begin Tryz.prog (λ _ _=>0) default).world.heap[g]?).bind Obj.row? with
 |none=>rw[h] at h0;cases h0
 |some x=>
  obtain⟨z,t'⟩:=x;rw[h] at h0;simp only[UV,de] at h0;subst h0;obtain⟨cs,h1,_⟩:=hs.1 g z t' hg h;exact⟨cs,h1⟩
def Ls(P:Program)(e:TypeId)(m:Nat):Bool :=
 match P.underlying e with
 |some (.struct fs)=>decide (fs.toList.length=m) && (List.range m).all λ j=>
  match fs.toList[j]? with
  |some f=>(match P.underlying f.type with|some (.int .i64)=>true|_=>false) && decide (P.cellsOf f.type=1) && decide (f.offset=j)
  |none=>false
 |_=>false
theorem GI(h:Ls P e m=true):∃fs:Array Field,P.underlying e=some (.struct fs)/\fs.toList.length=m/\
  ∀ (j:Nat) f,fs.toList[j]?=some f->P.underlying f.type=some (.int .i64)/\P.cellsOf f.type=1/\f.offset=j:=by
 unfold Ls at h;split at h
 case h_2=>cases h
 rename_i fs hfs;rw[abc] at h;have hm:fs.toList.length=m:=abh h.1;refine⟨fs,hfs,hm,λ j f hj=>?_⟩;have hjm:j<m:=by rw[<- hm];exact(bt.1 hj).1
 have h2:=adt.1 h.2 j (afF.2 hjm);rw[hj] at h2;simp only[abc,decide_eq_true_eq] at h2;refine⟨?_,h2.1.2,h2.2⟩;have h3:=h2.1.1;split at h3
 ·assumption
 ·cases h3
theorem D9{name:String}{rest:List (String×DataW Unit)}{row:Nat->Nat->Value}{cs0:Array Value}
  (hb:W.heap[g]?=some (.cells cs0 t (0,0)))
  (hg:P.globalNamed name=some g) (hty:(P.globals[g]?).map (·.type)=some t) (ht:P.underlying t=some (.array n e)) (hE:Ls P e m=true) (hce:P.cellsOf e=m) (hct:P.cellsOf t=n*m) (hm:0<m) (hz:∀z∈zs,z.length=m)
  (Uh:∀i j,i<n->j<m->row i j=.int .i64 ((zs.getD i []).getD j 0))
  (h:DataW.LaidVars P W ((name,.agg (zs.map λ z=>.agg (z.map λ x=>.lit (.int .i64 x))))::rest) ps):W.heap[g]?=some (Blk.rows m n row t (0,0)).den/\∃q,DataW.LaidVars P W rest q:=by
 obtain⟨fs,he,UY,hf⟩:=GI hE;obtain⟨g',t',cs,fuel,p,q,hg',ht',ag5,hd,hr,_⟩:=h;obtain rfl:=ab8 (hg.symm.trans hg');obtain rfl:=ab8 (hty.symm.trans ht');have hv:W.var? P name=some cs0:=by
  unfold World.var?;rw[hg];simp only[Option.bind_some,hb]
 obtain rfl:=ab8 (hv.symm.trans ag5);obtain⟨h1,h2,h3⟩:=tW ht he hce hct hm UY hf hz hd;refine⟨?_,q,hr⟩;rw[hb];show some (Obj.cells cs0 t (0,0))=some (Obj.cells ⟨bj m row n⟩ t (0,0));congr 2;obtain⟨l⟩:=cs0;congr 1
 symm
 exact kg (w:=m) h1 λ i j hi hj=>by rw[Uh i j hi hj];exact h3 i j hi hj
theorem NP (hs:W.ShapedOpen Tryz.prog) (hL:laidMetH Tryz.prog [("arenanet/compile.effects",Rows.laid_arenanet_compile_effects),("arenanet/vm.effects",Rows.laid_arenanet_vm_effects)] W):W.heap[0]?=some (Blk.lit wK 232 (0,0)).den /\ W.heap[1]?=some (Blk.rows 3 22 m9 329 (0,0)).den:=by
 rw[MakeChecks.laidMetH_plain _ _ _ (by kernel_rfl)] at hL;obtain⟨ps,hv,_,_⟩:=hL;obtain⟨cs0,hb0⟩:=Aq 232 (abh (by kernel_rfl)) (by kernel_rfl) hs;obtain⟨cs1,Xo⟩:=Aq 329 (abh (by kernel_rfl)) (by kernel_rfl) hs;have hv0:DataW.LaidVars Tryz.prog W (("arenanet/compile.effects",.agg (ceZ.map λ z=>.agg (z.map λ x=>.lit (.int .i64 x)))) :: [("arenanet/vm.effects",.agg (efZ.map λ z=>.agg (z.map λ x=>.lit (.int .i64 x))))]) ps:=hv;obtain⟨h0,q,hq⟩:=D9 (n:=22) (m:=2) (e:=231) (row:=D8) hb0 (by kernel_rfl) (by kernel_rfl) (by kernel_rfl) (by kernel_rfl) (by kernel_rfl) (by kernel_rfl) (by decide) (by decide) (λ i j hi hj=>rfl) hv0;obtain⟨h1,_⟩:=D9 (n:=22) (m:=3) (e:=328) (row:=m9) Xo (by kernel_rfl) (by kernel_rfl) (by kernel_rfl) (by kernel_rfl) (by kernel_rfl) (by kernel_rfl) (by decide) (by decide) (λ i j hi hj=>by
  have key:∀i:Fin 22,∀j:Fin 3,(if j.1=0 then (oc.getD i.1 (0,0,0)).1 else if j.1=1 then (oc.getD i.1 (0,0,0)).2.1 else (oc.getD i.1 (0,0,0)).2.2)=(efZ.getD i.1 []).getD j.1 0:=by decide
  have:=key ⟨i,hi⟩ ⟨j,hj⟩;rcases j with _|_|_|j
  ·exact congrArg (Value.int .i64) this
  ·exact congrArg (Value.int .i64) this
  ·exact congrArg (Value.int .i64) this
  ·omega) hq
 exact⟨h0.trans (congrArg some Lr),h1⟩
def th(W:World):HL:=List.ofFn (λ k:Fin W.heap.size=>(k.1,if k.1=0 then Blk.lit wK 232 (0,0) else if k.1=1 then Blk.rows 3 22 m9 329 (0,0) else td W.heap[k.1]))
theorem CB(h0:W.heap[0]?=some (Blk.lit wK 232 (0,0)).den)(h1:W.heap[1]?=some (Blk.rows 3 22 m9 329 (0,0)).den):d5 (lQ W)=d5 (th W):=by
 unfold d5 lQ th;rw[List.map_ofFn,List.map_ofFn];congr 1;funext k;show (k.1,(td W.heap[k.1]).den)=(k.1,Blk.den (if k.1=0 then _ else if k.1=1 then _ else _));rw[mz];congr 1
 by_cases e0:k.1=0
 ·rw[if_pos e0];have h2:W.heap[k.1]?=some (Blk.lit wK 232 (0,0)).den:=by rw[show W.heap[k.1]?=W.heap[0]? by rw[e0]];exact h0
  rw[sv k.2] at h2;exact ab8 h2
 ·rw[if_neg e0]
  by_cases e1:k.1=1
  ·rw[if_pos e1];have h2:W.heap[k.1]?=some (Blk.rows 3 22 m9 329 (0,0)).den:=by rw[show W.heap[k.1]?=W.heap[1]? by rw[e1]];exact h1
   rw[sv k.2] at h2;exact ab8 h2
  ·rw[if_neg e1,mz]
theorem Lt(h0:W.heap[0]?=some (Blk.lit wK 232 (0,0)).den):vk (th W) :=
 afL.2 ⟨⟨0,(fx.1 h0).1⟩,rfl⟩
theorem Lu(h1:W.heap[1]?=some (Blk.rows 3 22 m9 329 (0,0)).den):cF (th W) :=
 afL.2 ⟨⟨1,(fx.1 h1).1⟩,rfl⟩
open Go.Joins
theorem GJ{enc:TypeId×Value->H}{base:Nat}{spare:Nat->Bool}{v:Value}{d:DataW H}(hs:P.underlying t=some (.array 2 e))(hC:P.cellsOf t=2)(hce:P.cellsOf e=1)
  (hv:Value.okWide P w r b0 t v) (h:DataW.Trod enc P w base spare held t v d p) :
  ∃ (v0 v1:Value) (y0 y1:DataW H×List MemPlace) (n:Nat),v=.agg #[v0,v1]/\d=.agg [y0.1,y1.1]/\p=y0.2++y1.2/\
   DataW.trod enc P w base spare held n e [v0]=some y0/\DataW.trod enc P w base spare held n e [v1]=some y1:=by
 simp only[Value.okWide,hs] at hv;obtain⟨cs,rfl,L_,_⟩:=hv;rw[hC] at L_;obtain⟨l⟩:=cs
 match l,L_ with
 | [c0,c1],_=>
  obtain⟨fuel,hf⟩:=h;obtain⟨xs,m,rfl,hx,_,hlen,hi⟩:=DataW.trod_array hs hf
  match xs,hlen with
  | [y0,y1],_=>
   simp only[df] at hx;have i0:=hi 0 (by decide);have i1:=hi 1 (by decide);simp only[hce,Value.cells] at i0 i1;exact⟨c0,c1,y0,y1,m,rfl,by simpa using hx.1,by simpa using hx.2,by simpa using i0,by simpa using i1⟩
noncomputable def GK(os:Os):World:=World.laidAll Tryz.prog os Rows.effectsOfPeerRow.laid
theorem CC(os:Os)(started:os.Started)(H:Type)(enc:TypeId×Value->H) :
  ReturnsInHanded {} Tryz.checked os 3 .any (λ w args=>(Rows.effectsOfPeerSpec.pre enc Tryz.prog Tryz.f3 [] false w args/\laidMetH Tryz.prog Rows.effectsOfPeerRow.laid w)/\sizedMet enc Tryz.prog Tryz.f3 (OpenSpec.ofChange Rows.effectsOfPeerSpec) false w args)
   (Rows.effectsOfPeerSpec.post enc Tryz.prog Tryz.f3 false true false false):=by
 refine kP (C:=Tryz.checked) (X:=λ w _=>laidMetH Tryz.prog Rows.effectsOfPeerRow.laid w) (λ _ _ _ hh h=>h.of_heap hh) Lo started (by kernel_rfl) Tryz.func3
  (ChangeSpec.witness_at (enc:=enc) (C:=Tryz.checked) (os:=os) (X:=λ w _=>laidMetH Tryz.prog Rows.effectsOfPeerRow.laid w) false (GK os) #[.slice none 0 0,.agg #[.int .i64 0,.int .i64 0],.slice none 0 0,.slice none 0 0] 8 (World.laidAll_os _ _ _) (by kernel_rfl) (by kernel_rfl) (by kernel_rfl) (by kernel_rfl) (by kernel_rfl) (laidMetH_of_parts (laidMet_laidAll _ (by kernel_rfl) (by kernel_rfl)) (by kernel_rfl))) ?_
 intro W base args ds gs before X3 aaO hW hL;have RW:∀ (j:Nat) t v,Tryz.f3.params[j]?=some t->args[j]?=some v->Value.okWide Tryz.prog W .any base t v:=aaO;have hW':=hW;obtain⟨p,q,hA0,hV,rfl,hfz,Vj⟩:=hW;have hA:DataW.TrodAll enc Tryz.prog W 0 (λ _=>true) true Tryz.f3.params.toList args.toList ds p:=hA0;have hAA:=hA;rw[Tryz.params3] at hA RW;obtain⟨v0,vs0,d0,ds0,p0,q0,XC,rfl,rfl,h0r,r0⟩:=trodAll_cons hA;obtain⟨v1,vs1,d1,ds1,p1,q1,rfl,rfl,rfl,h1r,r1⟩:=trodAll_cons r0;obtain⟨v2,vs2,d2,ds2,p2,q2,rfl,rfl,rfl,h2r,r2⟩:=trodAll_cons r1;obtain⟨v3,vs3,d3,ds3,p3,q3,rfl,rfl,rfl,h3r,r3⟩:=trodAll_cons r2;obtain⟨rfl,rfl,rfl⟩:=trodAll_nil r3;obtain rfl:args=#[v0,v1,v2,v3]:=by cases args;simp_all
 obtain⟨rfl,rfl⟩:=trodVars_none hV;obtain⟨A0,n0,c0,x0,rfl,b0,h0,k0⟩:=tg (RW 0 22 v0 rfl rfl) h0r;obtain⟨e10,e11,y10,y11,m1,rfl,rfl,rfl,agZ,agY⟩:=GJ Tryz.underlying23 (by kernel_rfl) (by kernel_rfl) (RW 1 23 v1 rfl rfl) h1r;obtain⟨a10,aiB,adM,agC⟩:=DataW.trod_int Tryz.underlying3 agZ;obtain rfl:e10=.int .i64 a10:=by simpa using aiB
 subst adM;have w10:=p6 agC;obtain⟨a11,Xn,Yl,agB⟩:=DataW.trod_int Tryz.underlying3 agY;obtain rfl:e11=.int .i64 a11:=by simpa using Xn
 subst Yl;have w11:=p6 agB;obtain⟨A2,n2,c2,x2,rfl,b2,h2,k2⟩:=tg (RW 2 22 v2 rfl rfl) h2r;obtain⟨A3,n3,c3,x3,rfl,b3,h3,k3⟩:=tg (RW 3 22 v3 rfl rfl) h3r;clear hA0 aaO;simp only[acm,WF] at hW' hAA;obtain⟨g0,g1⟩:=NP X3 hL;have eW:=CB g0 g1;refine(GH W ((NO c0 c2 c3 (Lt g0) (Lu g1) (h0.d eW) b0 (h2.d eW) b2 (h3.d eW) b3 w10 w11).den eW.symm)).mono λ e W' ⟨he,hb⟩=>?_;subst he;exact⟨_,rfl,Lq Lp (by rw[Tryz.params3];intro t ht;simp at ht;first|(subst ht;exact⟨by kernel_rfl,abh (by kernel_rfl)⟩)|(rcases ht with rfl|rfl <;> exact⟨by kernel_rfl,abh (by kernel_rfl)⟩)|(rcases ht with rfl|rfl|rfl <;> exact⟨by kernel_rfl,abh (by kernel_rfl)⟩)|(rcases ht with rfl|rfl|rfl|rfl <;> exact⟨by kernel_rfl,abh (by kernel_rfl)⟩)) hW' rfl hAA (λ _ _ _=>trodAll_cons_mk (shut_bool Tryz.underlying4 _) trodAll_mk0) rfl (λ _=>rfl) hb⟩
theorem Ar:(Rows.effectsOfPeerRow.inPlace == Tryz.prog.inPlace 3)=true:=by kernel_rfl
theorem tX:(Rows.effectsOfPeerRow.named == Tryz.prog.varsNamed 3)=true:=by kernel_rfl
theorem ti:(Rows.effectsOfPeerRow.unfollowed == Tryz.prog.unfollowed 3)=true:=by kernel_rfl
theorem xn:(Rows.effectsOfPeerRow.recurses == Tryz.prog.recurses 3)=true:=by kernel_rfl
theorem Au:laidOutB Tryz.prog=true:=by kernel_rfl
theorem tY:mapsRowed Tryz.prog=true:=by kernel_rfl
theorem tZ:(Rows.effectsOfPeerRow.plainKeys == Tryz.prog.plainKeys)=true:=by kernel_rfl
theorem GL:Tryz.prog.mayEnter=true:=by kernel_rfl
theorem GM:Tryz.prog.stopsHeard=true:=by kernel_rfl
theorem CD:joinedFacts Tryz.prog 3 Tryz.f3 Rows.effectsOfPeerSpec Rows.effectsOfPeerRow=true:=by
 unfold joinedFacts;simp only[Ar,tX,ti,xn,Au,tY,tZ,GL,GM,Bool.and_true,Bool.true_and]
 kernel_rfl
theorem Lv:Rows.EffectsOfPeerSaid :=
 OpenClaim.holds_of_wide 3 Tryz.f3 rfl rfl rfl rfl rfl rfl rfl ⟨rfl,rfl,rfl,rfl,rfl⟩ rfl rfl rfl rfl rfl (by kernel_rfl) Tryz.func3 CD
  (abh (by kernel_rfl)) (by unfold Func.isWrapper;first|(rw[if_pos (by decide+kernel)];kernel_rfl)|(rw[if_neg (by decide+kernel)];exact⟨rfl,rfl⟩))
  (λ os started H enc _=>CC os started H enc)
theorem Lw:false=Rows.effectsOfPeerRow.goesBy Tryz.prog:=by kernel_rfl
theorem GN:Tryz.prog.funcNamed "arenanet/arenanetlaw26.EffectsOfPeer"=some 3:=by kernel_rfl
theorem CE:false=Tryz.prog.looks []:=by kernel_rfl
end Go.Proofs.YtjokannbjmndfaaGreatDoor
