import Derived.Test.YthoijjeddhfcnaaGreatDoorZ33
import Derived.Test.YthoijjeddhfcnaaGreatDoorZ29
import Derived.Test.YthoijjeddhfcnaaGreatDoorZ37
import Derived.Test.YthoijjeddhfcnaaGreatDoorZ38
import Derived.Test.YthoijjeddhfcnaaGreatDoorRows
import Derived.Test.YthoijjeddhfcnaaGreatDoorChecked
import Derived.Test.YthoijjeddhfcnaaGreatDoorZ16
import Derived.ProofKit
import Derived.OpenShut
import Derived.Carry
import Derived.Lay
import Derived.LaidHandle
import Derived.ChangeSlices
import Derived.Test.YthoijjeddhfcnaaGreatDoorZ31
import Derived.Lib.LaidTab
import Derived.MakeChecks
import Derived.Test.YthoijjeddhfcnaaGreatDoorTie
import Derived.Test.YthoijjeddhfcnaaGreatDoorCards
import Derived.SevenTiedAt
import Derived.JoinedOf
import Derived.KernelRfl
set_option maxHeartbeats 4000000
set_option maxRecDepth 100000
set_option linter.unusedSimpArgs false
set_option linter.unusedVariables false
namespace Go.Proofs.YthoijjeddhfcnaaGreatDoor
open Go.RowKit
inductive GameX(rs:List Bx)(ds:List Dr)(bp gb mb:Nat)(S:Setup)(M:MemS)(k:Nat):HL -> Prop
 | mk (T U:HL) (hM:MemH mb M k T) (hU:vD S rs ds U):GameX rs ds bp gb mb S M k (ap [(gb,.lit (ij S bp mb) 86 (0,0))] [T,U])
section
variable {rs:List Bx} {ds:List Dr} {bp gb mb:Nat} {S:Setup} {M:MemS} {k:Nat} {G0:HL}
theorem GameH.x(h:GameH rs ds bp gb S M k G0):∃mb,GameX rs ds bp gb mb S M k G0:=by
 cases h with
 | mk mb T U hM hU=>exact⟨mb,.mk T U hM hU⟩
theorem GameX.h(h:GameX rs ds bp gb mb S M k G0):GameH rs ds bp gb S M k G0:=by
 cases h with
 | mk T U hM hU=>exact .mk mb T U hM hU
theorem GameX.weak(h:GameX rs ds bp gb mb S M k G0){k':Nat}(hk:k' <= k):GameX rs ds bp gb mb S M k' G0:=by
 cases h with
 | mk T U hM hU=>exact .mk T U (hM.weak hk) hU
theorem GameX.mem(h:GameX rs ds bp gb mb S M k G0):∃T,MemH mb M k T /\ ∀x∈T,x∈G0:=by
 cases h with
 | mk T U hM hU=>exact⟨T,hM,λ x hx=>by simp[ap,hx]⟩
theorem N5(h:GameX rs ds bp gb mb S M k G0){F:HL}(hF:∀x∈G0,x∈F):Sp Tryz.prog 17 #[vP gb 0] [] F (λ u H'=>u=vP mb 0 /\ H'=[]):=by
 cases h with
 | mk T U hM hU=>exact EY S bp gb mb F (hF _ (by simp[ap]))
theorem Mt(h:GameX rs ds bp gb mb S M k G0){F:HL}(hF:∀x∈G0,x∈F):Sp Tryz.prog 18 #[vP mb 0] (ap [] []) F (λ u H'=>∃q,H'=ap [(q,.rows 1 M.cs.length (bk M.cs) 3 (0,0))] [] /\ u=vS q 0 M.cs.length M.cs.length):=by
 obtain⟨T,hM,hT⟩:=h.mem
 exact pP mb M k T F hM λ x hx=>hF x (hT x hx)
end
theorem Hg{rs:List Bx}{ds:List Dr}{S:Setup}{bp gb mb b o N c k:Nat}{j:Nat × Int}{full xs:List Inp}{M:MemS}{G0 F:HL}(hG:GameX rs ds bp gb mb S M (k+20000) G0)(hj:j.1<5)(hA:AtOk F bp (M.get 0) j)(hE:fv F)(hI:(b,.rows 3 N (mO full) 93 (0,0))∈F)(hir:o+xs.length <= N)(Pq:xs.length <= 1000000)(hx:∀k,k<xs.length -> full.getD (o+k) dI=xs.getD k dI)(hk:TkOk S j xs M) :
  Sp Tryz.prog 13 #[vP gb 0,vS b (o*3) xs.length c] (ap [] [G0]) F (λ u H'=>∃x:(Option Addr × Nat × Nat) × HL × HL,H'=ap [] [x.2.1,x.2.2] /\ (GameX rs ds bp gb mb S (oC (Hv S j xs) M) k x.2.1 /\ SlIs jm 106 (ov (Hv S j xs) M) x.1.1 x.1.2.1 x.2.2 /\ u=.tuple #[.slice x.1.1 (ov (Hv S j xs) M).length x.1.2.1,vI ((x.1.2.2+1:Nat):Int),vI 0])):=by
 obtain⟨m,hm,hg⟩:=hk.ex
 obtain⟨e1,e2⟩:=Gj hm hg
 cases hG with
 | mk T U hM hU =>
  rw[dS]
  refine(Gh S rs ds bp gb mb b o N xs.length c m k j full xs M T U F hj hA hU hE hI hir Pq (by omega) rfl hx (hM.weak (by omega)) hk.now hg hk.ok).mono λ u H' h=>?_
  obtain⟨x,rfl,h1,h2,h3⟩:=h
  rw[e1] at h1
  rw[e2] at h2 h3
  exact⟨((x.2.1,x.2.2.1,m),ap [(gb,.lit (ij S bp mb) 86 (0,0))] [x.1,U],x.2.2.2),by simp[ap],.mk x.1 U h1 hU,h2,h3⟩
noncomputable section
theorem C2:I3 [] [] (.bool true) (Cz Tryz.prog 3 100000 (.fn 19 [] (tV []) 3))=true:=by kernel_rfl
theorem zc{F:HL}:Sp Tryz.prog 19 #[] [] F λ u H'=>u=.bool true /\ H'=[] :=
 (nS (G:=3) (tabs:=[]) (picks:=[]) mixed rfl rfl rfl (by simp) C2).mono λ v' H' ⟨ν,rest,h1,h2⟩=>⟨by rw[h1];rfl,by simpa using h2⟩
end
theorem xc(n:Int)(F:HL)(hn:pA n):Sp Tryz.prog 10 #[vI n,vI 8] [] F (λ u H'=>u=vI (1+aP n 8) /\ H'=[]):=by
 refine Sp.run Tryz.func10 rfl mn (A:=[]) (Ts:=[]) rfl λ w0=>?_
 refine aa 9 [] λ _=>al (fZ n 8 (by decide) _) ?_
 have hA1:=fl (n:=n) hn 8 (by decide)
 refine aq 4 [.nw] [bF (1+(aP n 8))] λ _=>?_
 exact RN.ret [] [] [] ⟨rfl,rfl⟩
theorem N6(S:Setup)(A:Option Addr)(n cap:Nat)(xs:List Int)(t:Int)(F:HL)(hl:ArgD F A n xs)(hn:n <= 9223372036854775807)(hp:1 <= S.players /\ S.players <= 1000000)(ht:0 <= t /\ t <= 1000000):Sp Tryz.prog 11 #[Setup.v S,.slice A n cap,vI t] (ap [] []) F (λ u H'=>∃x:Nat × Nat × List Inp × List Inp,H'=ap [(x.1,.rows 3 x.2.1 (mO x.2.2.1) 93 (0,0))] [] /\ (u=vS x.1 0 x.2.2.2.length x.2.1 /\ Kq S.players x.2.2.2 /\ 0+x.2.2.2.length <= x.2.1 /\ ∀k,k<x.2.2.2.length -> x.2.2.1.getD (0+k) dI=x.2.2.2.getD k dI)):=by
 refine hl.use λ F1 Tn=>(Ip S A n cap xs t F1 Tn hn (by omega) ht).mono λ u H' h=>?_
 obtain⟨⟨Ai,ci,Ti⟩,rfl,rfl,hsi,Zt⟩:=h
 dsimp only at hsi Zt
 obtain⟨ib,W5,rfl,rfl,hic⟩:=hsi.open0 Zt (by decide) (by rw[fc];omega)
 rw[fc] at hic
 have Vv:=Jn Tn (show 0 <= S.players by omega) t
 have hlen:=fc S.players xs t S.players.toNat
 refine⟨(ib,ci,rowL S.players xs t S.players.toNat++W5,rowL S.players xs t S.players.toNat),by simp;rfl,?_,Vv,by show 0+(rowL S.players xs t S.players.toNat).length <= ci;omega,λ i hi=>by
  dsimp only at hi ⊢
  rw[Nat.zero_add,List.getD_eq_getElem?_getD,List.getElem?_append_left hi,<- List.getD_eq_getElem?_getD]⟩
 dsimp only
 rw[hlen]
theorem C3{n:Int}{cnt:Nat}(h:1+aP n 8=(cnt:Int))(hn:pA n)(F:HL):Sp Tryz.prog 10 #[vI n,vI 8] [] F (λ u H'=>u=vI (cnt:Int) /\ H'=[]):=h ▸ xc n F hn
theorem JP(A0 AI:Option Addr)(n0 c0 nI cI:Nat)(xs xI:List Int)(i1 i3:Int)(F:HL)(hE0:wE F)(hE1:fv F)(Sf:ArgD F A0 n0 xs)(SJ:n0 <= 9223372036854775807)(Qh:ArgD F AI nI xI)(hn2:nI <= 9223372036854775807)(WA:pA i1)(hi3:pA i3):Sp Tryz.prog 3 #[.slice A0 n0 c0,vI i1,.slice AI nI cI,vI i3] [] F (λ u H'=>u=.bool true /\ H'=[]):=by
 obtain⟨cnt,XK,hcl_⟩:∃cnt:Nat,1+aP i3 8=(cnt:Int) /\ cnt <= 8:=by
  have h_:=fl hi3 8 (by decide)
  exact⟨(1+aP i3 8).toNat,by omega,by omega⟩
 refine Sp.run Tryz.func3 rfl mn (A:=[]) (Ts:=[]) rfl λ w0=>?_
 refine aa 8 [] λ _=>RN.ct (Hp:=[]) (Tp:=[]) [] [] (w9 A0 n0 c0 xs _ Sf.up SJ) ?_
 rintro _ ⟨S,TS⟩ ⟨rfl,PM⟩
 dsimp only at PM
 have DO:=PM.pl
 have RJ:=PM.nb
 have UN:=PM.rn
 have UW:=PM.dn
 have Pz:=PM.size
 have QT:=ii S S.nb
 refine aa 7 (ow 0 16) λ n1=>al (yL i1 _ WA) ?_
 have hj:(aP i1 5).toNat<5:=by have h_:=fl (n:=i1) WA 5 (by decide);omega
 refine RN.ct (Hp:=[]) (Tp:=[]) [] [] (F9 (aP i1 5).toNat _ hj (bK hE0)) ?_
 rintro _ ⟨bp_,TB_⟩ ⟨rfl,hB_⟩
 dsimp only at hB_
 generalize (aP i1 5).toNat=jj at *
 refine aa 25 (ow 0 16) λ _=>RN.ct (Hp:=[]) (Tp:=[]) [] [] (EW S pB (jQ (kv xs 3 % 3).toNat) bp_ _ (PM.sin _ (aC 1) (aS 1)).cl (PM.map _ (aS 1)) (by omega) (by omega) (by omega) (by omega) PM.val 1000000 (by decide)) ?_
 rintro _ ⟨gb_,S2,G0_⟩ ⟨rfl,Pw,R0⟩
 dsimp only at Pw R0
 obtain⟨mb_,hgx_⟩:=R0.x
 refine aa 10 (ow 0 16) λ _=>RN.ct (Hp:=[]) (Tp:=[]) [] [] (vE S _ (PM.sin _ (aC 1) (aS 2)).cl) ?_
 rintro _ q0_ rfl
 refine RN.ct (Hp:=[]) (Tp:=[]) [] [] (vF q0_ (d7 S S.nb) (sizeOf S).toNat 1000000 ((sizeOf S).toNat) _ (by omega) (aC 0) (by omega) (by decide) (by omega)) ?_
 rintro _ ⟨Yx,Tq_⟩ ⟨rfl,X4⟩
 dsimp only at X4
 refine aa 28 [] λ _=>RN.loop (σ:=Nat × MemS × MemS × HL × HL) (λ ⟨i_,M_,N_,G_,T_⟩=>⟨[(2,.slice AI nI cI),(3,vI i3),(9,vP (n1+0) 0),(10,vP bp_ 0),(12,vP gb_ 0),(14,vP Yx 0),(15,vI (i_:Int))],[(q0_,.rows 1 ((sizeOf S).toNat) (bk (d7 S S.nb)) 3 (0,0)),((n1+0),.lit (Setup.l S) 31 (0,0)),(S.bb,.rows 9 S.bR (ge S.bods) 73 (0,0))],[T_,G_,TB_,TS],i_ <= cnt /\ TE2 S (i_:Int) M_ /\ N_.cs=M_.cs /\ BiA S N_ /\ GameX pB (jQ (kv xs 3 % 3).toNat) bp_ gb_ mb_ S2 M_ (500000+20000*(cnt-i_)) G_ /\ MemH Yx N_ (500000+20000*(cnt-i_)) T_,cnt-i_⟩) (0,⟨d7 S S.nb,[],0⟩,⟨d7 S S.nb,[],0⟩,G0_,Tq_) [0,1,2] [0,1,2,3] (⟨Nat.zero_le _,AD PM.V,rfl,PM.bi,hgx_.weak (by omega),X4.weak (by omega)⟩) ?_
 rintro⟨i_,M_,N_,G_,T_⟩ ⟨YO,TO,V9,SX,US,PD⟩ PK
 refine aa 5 [] λ _=>al (C3 XK hi3 _)<|aa 3 [] λ _=>RN.em ((i_:Int)<(cnt:Int)) 61 (λ h4=>?_) λ h4=>?_
 ·refine aa 10 (ow 1 16) λ _=>RN.ct (Hp:=[]) (Tp:=[]) [] [] (N6 S AI nI cI xI (i_:Int) _ Qh.up hn2 (by omega) (by omega)) ?_
  rintro _ ⟨ib_,Y0,Yg,Qg⟩ ⟨rfl,TU,Vx,Vt⟩
  dsimp only at TU Vx Vt
  refine aa 7 [] λ _=>RN.ct (Hp:=[]) (Tp:=[]) [] [] (hB_.at (aS 2) hj (i_:Int) (by omega) _ (λ x hx=>hx)) ?_
  rintro _ ⟨A_,c_,T1_⟩ ⟨rfl,Sh⟩
  dsimp only at Sh
  refine aa 9 [.own 0,.own 0,.own 0,.own 0] λ n5=>?_
  have Xl:(Qg.length:Int)=S.players:=TU.1
  obtain⟨Zp,hin_,hI0_⟩:=CY (g:=db S (jj,0) Qg.length Qg) PM.V (by show S.players <= (Qg.length:Int);omega) (t:=(i_:Int)) (by omega) (TO.cs V9.symm) SX PM.fu
  have Vm:=G9 Pw V9 (jj,0) Qg.length Qg
  have Vn:=Gt PM.V (t:=(i_:Int)) (by omega) TO (xs:=Qg) Xl TU.2 (jj,0)
  have UG:=Gt (Pw.setV PM.V) (t:=(i_:Int)) (by omega) (TO.eq Pw) (xs:=Qg) (by rw[Pw.pl];exact Xl) TU.2 (jj,0)
  have UH:TE2 S ((i_+1:Nat):Int) (oC (Hv S2 (jj,0) Qg) M_):=TE2.cs (G9 Pw rfl (jj,0) Qg.length Qg).1 (by have h_:=Vn.2;exact_mod_cast h_)
  have hel_:=Jg (Hv S2 (jj,0) Qg) M_
  have Vo:=UG.1
  have Vi:cV S.players Qg.length Qg (N_.get 0)=0:=by rw[LW V9];exact Vn.1.ok
  clear Vn UG
  have ZG:=TO.t0
  generalize hMn_:oC (Hv S2 (jj,0) Qg) M_=WW at *
  generalize Q4:ov (Hv S2 (jj,0) Qg) M_=IN at *
  refine aa 3 [] λ _=>RN.ct [] [2] (Hg (b:=ib_) (o:=0) (N:=Y0) (c:=Y0) (k:=500000+20000*(cnt-(i_+1))) (j:=(jj,0)) (US.weak (by omega)) hj (hB_.at (aS 2) hj _ (by rw[ZG];omega)) (bK hE1) (aC 1) Vx (by omega) Vt Vo) ?_
  rintro _ ⟨⟨A1_,QE,m1_⟩,G2_,E1_⟩ ⟨SO,Vs,rfl⟩
  dsimp only at SO Vs
  rw[hMn_] at SO
  rw[Q4] at Vs
  refine aa 16 (ow 3 16++[.own 0,.own 0,.own 0,.own 0]) λ _=>RN.ct [] [3] (C1 S Yx ib_ 0 Y0 Qg.length Y0 c_ (500000+20000*(cnt-(i_+1))) A_ (jj,0) Yg Qg N_ (oC (db S (jj,0) Qg.length Qg) N_) (ov (db S (jj,0) Qg.length Qg) N_) Zp T_ _ Vt (PD.weak (by omega)) ⟨PM.sin _ (aC 4) (aS 4),(aC 1),⟨Vx,show Qg.length <= 1000000 by omega⟩,bK hE1,Sh.code hj (aS 2)⟩ PM.V PM.B PM.sm rfl hin_ (by omega) hI0_ Vi) ?_
  rintro _ ⟨Wt,A2_,WL,E2_,Wp,p2_,q2_,TC⟩ ⟨X3,XS,QP,QG,rfl⟩
  dsimp only at X3 XS QP QG
  have V8:Wt.cs=WW.cs:=X3.trans (Vm.1.trans rfl)
  rw[Vm.2] at QG
  refine aa 11 [.own 0,.own 0,.own 0] λ n6=>bZ 19 (congrArg (λ v_=>(.slice A1_ v_ QE:Value)) (congrArg List.length Q4))<|bZ 22 (congrArg (λ v_=>(.slice A2_ v_ WL:Value)) (congrArg List.length Vm.2))<|aa 10 [] λ _=>al (CD A1_ A2_ IN.length QE WL IN _ (Vs.toRowL (aS 3)) (QG.toRowL (aS 1)) (by omega))<|aa 4 [] λ _=>al (N5 SO (aS 2))<|RN.ct (Hp:=[]) (Tp:=[]) [] [] (Mt SO (aS 2)) ?_
  rintro _ q7 rfl
  refine aa 1 [] λ _=>RN.ct (Hp:=[]) (Tp:=[]) [] [] (pP Yx Wt _ Wp _ QP (aS 0)) ?_
  rintro _ q8 rfl
  refine al (Iw true q7 q8 WW.cs.length Wt.cs.length WW.cs.length Wt.cs.length WW.cs.length Wt.cs.length WW.cs Wt.cs _ (aC 1) (aC 0) (Nat.le_refl _) (Nat.le_refl _) (by have h_:=UH.len;omega) (decide_eq_true ⟨by rw[V8],λ t ht=>by rw[V8]⟩))<|aq 13 [.gen,.gen,.nw] [bF ((i_:Int)+1)] λ _=>bZ 15 (congrArg (λ v_=>(vI v_:Value)) (show (i_:Int)+1=((i_+1:Nat):Int) by omega)) ?_
  refine PK (i_+1,WW,Wt,G2_,Wp) [5,6,7] [0,2,5,6] ?_
  try dsimp only
  exact⟨⟨by omega,UH,V8,XS,SO.weak (by omega),QP.weak (by omega)⟩,by omega⟩
 ·refine aa 8 [] λ _=>al zc<|aa 3 [] λ _=>?_
  exact RN.ret [] [] [] ⟨rfl,rfl⟩
open Go.ChangeShapes Go.WideShapes Go.ChangeAt
theorem Hh:ownKnob Tryz.prog.godebug=none:=by kernel_rfl
theorem Hj:laidOutB Tryz.prog=true:=by kernel_rfl
theorem nW{n:Int}(h:(Lit.int .i64 n).wf=true):-9223372036854775808 <= n /\ n <= 9223372036854775807:=bounds_i64 h
section
variable {H:Type} {enc:TypeId × Value -> H} {P:Program} {W W':World}
theorem lS(hl:laidOutB P=true)(hb:Below W.heap.size W W'):∀ {ts:List TypeId} {vs:List Value} {ds:List (DataW H)} {ps:List MemPlace},(∀t∈ts,P.readableRec t=true /\ t<P.types.size) ->
  DataW.TrodAll enc P W 0 (λ _=>true) true ts vs ds ps -> (∀x∈ps,x.block<W.heap.size) -> DataW.TrodAll enc P W' 0 (λ b=>decide (b<W.heap.size)) true ts vs ds ps
 | [],_,_,_,_,h,_=>by
  obtain⟨rfl,rfl,rfl⟩:=trodAll_nil h
  exact trodAll_mk0
 | t::ts,_,_,_,ht,h,iN=>by
  obtain⟨v,vs1,d,ds1,a,b,rfl,rfl,rfl,h1,h2⟩:=trodAll_cons h
  have h3:=ht t (by simp)
  exact trodAll_cons_mk (Below.trod hl h3.1 h3.2 h1 hb (λ x hx=>iN x (by simp[hx]))) (lS hl hb (λ t h=>ht t (List.mem_cons_of_mem _ h)) h2 (λ x hx=>iN x (by simp[hx])))
theorem Hk{f:Func}{s:ChangeSpec}{apart fresh handsOn:Bool}{args:Array Value}{v:Value}{ds:List (DataW H)}{before:List MemPlace}(hl:laidOutB P=true)
  (hts:∀t∈f.params.toList,P.readableRec t=true /\ t<P.types.size)
  (hW:DataW.Whole enc P f.params.toList s.vars apart W args.toList ds [] before) (hs:s.vars=[])
  (hA:DataW.TrodAll enc P W 0 (λ _=>true) true f.params.toList args.toList ds before)
  (QH:∀ (b:Nat) (sp:Nat -> Bool) (hd:Bool),DataW.TrodAll enc P W' b sp hd f.resultTypes.toList (v.resultList f.resultTypes.size) (s.fn H (ds++[])).results [])
  (RL:(s.fn H (ds++[])).args=ds) (Xa:∀sp,DataW.TrodVars enc P W' sp s.vars (s.fn H (ds++[])).vars []) (hb:Below W.heap.size W W') :
  s.post enc P f apart fresh handsOn false W args v W':=by
 refine⟨ds,[],before,[],before,[],hW,QH _ _ _,?_,Xa _,hb.frame _,λ h=>by cases h⟩
 rw[RL]
 exact lS hl hb hts hA (λ x hx=>hW.lt x hx)
end
def qF:Obj -> Blk
 | .cells cs ty fz=>.rows 1 cs.size (λ i _=>cs.getD i default) ty fz
 | o=>.obj o
theorem lF(o:Obj):(qF o).den=o:=by
 cases o with
 | cells cs ty fz =>
  show Obj.cells ⟨bU 1 (λ i _=>cs.getD i default) cs.size⟩ ty fz=_
  congr 1
  have e:bU 1 (λ i _=>cs.getD i default) cs.size=cs.toList:=by
   refine jI (by simp) ?_
   intro i k hi hk
   obtain rfl:k=0:=by omega
   simp[Array.getD,hi]
  rw[e]
 | _=>rfl
def kV(w:World):HL:=List.ofFn (λ k:Fin w.heap.size=>(k.1,qF w.heap[k.1]))
theorem qG{w:World}{k:Nat}{o:Obj}(h:w.heap[k]?=some o):(k,qF o)∈kV w:=by
 obtain⟨hk,he⟩:=Array.getElem?_eq_some_iff.1 h
 exact List.mem_ofFn.2 ⟨⟨k,hk⟩,by simp[he]⟩
theorem zd(w:World):Rel (kV w) w:=by
 refine⟨λ x hx=>?_,?_⟩
 ·obtain⟨k,rfl⟩:=List.mem_ofFn.1 hx
  simp[lF]
 ·unfold kV
  rw[List.map_ofFn]
  have e:List.ofFn ((λ x:Nat × Blk=>x.1) ∘ λ k:Fin w.heap.size=>(k.1,qF w.heap[k.1]))=List.range w.heap.size:=by
   apply List.ext_getElem
   ·simp
   ·intro i h1 h2;simp
  rw[e]
  exact List.nodup_range
theorem C4{P:Program}{f:FuncId}{args:Array Value}{v:Value}(w:World)(h:Sp P f args [] (kV w) (λ u H'=>u=v /\ H'=[])):Calls P f args w λ e w'=>e=.returned v /\ Below w.heap.size w w':=by
 refine(h w (zd w)).mono ?_
 rintro e w' ⟨u,H',rfl,⟨rfl,rfl⟩,Py,hB⟩
 refine⟨rfl,hB.os,hB.tape,hB.output,hB.size,λ k hk=>?_⟩
 have:=Py.holds (k,qF w.heap[k]) (by rw[List.nil_append];exact qG (by simp[hk]))
 rw[this]
 simp[lF,hk]
theorem xd{H:Type}{enc:TypeId × Value -> H}{w:World}{r:Reach}{b0:Nat}{v:Value}{d:DataW H}{ps:List MemPlace}(H_:Value.okWide Tryz.prog w r b0 22 v)(hd:DataW.Trod enc Tryz.prog w 0 (λ _=>true) true 22 v d ps) :
  ∃ (A:Option Addr) (n cap:Nat) (xs:List Int),v=.slice A n cap /\ n <= 9223372036854775807 /\ ArgL (kV w) A n xs /\ n <= cap:=by
 obtain⟨a0,len,cap,rfl⟩:=okWide_slice Tryz.underlying22 H_
 obtain⟨fuel,hf⟩:=hd
 rcases open_ints Tryz.underlying22 Tryz.underlying3 (by kernel_rfl) hf with ⟨Sg,hx⟩|⟨a,len',g_,zs,Sg,_,hl,hm,hz,hx,Px,hwz⟩
 ·simp[Value.cells] at Sg
  obtain⟨rfl,rfl,rfl⟩:=Sg
  exact⟨none,0,0,[],rfl,by omega,.zero _,Nat.le_refl _⟩
 ·simp[Value.cells] at Sg
  obtain⟨rfl,rfl,rfl⟩:=Sg
  unfold maxLen at hm
  simp at hz
  rcases Nat.eq_zero_or_pos len with h0|SH
  ·subst h0
   exact⟨some a,0,_,[],rfl,by omega,.zero _,Nat.zero_le _⟩
  ·have hlz:len <= zs.length:=by omega
   obtain⟨b,off,spot⟩:=a
   have c0:=Px 0 (by omega)
   have Rb:spot=none:=by
    cases spot with
    | none=>rfl
    | some s=>simp[Addr.add,World.cell?] at c0;split at c0 <;> simp at c0
   subst Rb
   have hc:∀i,i<zs.length -> w.cell? ⟨b,off+i,none⟩=some (.int .i64 (zs.getD i 0)):=λ i hi=>by
    have:=Px i hi
    unfold Addr.add at this
    by_cases h:i=0
    ·subst h;simpa using this
    ·rw[if_neg h] at this;exact this
   have h0:=hc 0 (by omega)
   unfold World.cell? at h0
   split at h0
   case h_2=>cases h0
   rename_i cs ty fz hb
   refine⟨some ⟨b,off,none⟩,len,cap,zs.take len,rfl,by omega,?_,hl⟩
   have hlen:(zs.take len).length=len:=by rw[List.length_take];omega
   have Sg:∀k,k<len -> cs[off+k]?=some (vI ((zs.take len).getD k 0)):=λ k hk=>by
    have h1:=hc k (by omega)
    unfold World.cell? at h1
    rw[show w.heap[(⟨b,off+k,none⟩:Addr).block]?=some (.cells cs ty fz) from hb] at h1
    have h2:cs[off+k]?=some (.int .i64 (zs.getD k 0)):=by simpa using h1
    rw[h2]
    simp[List.getD_eq_getElem?_getD,List.getElem?_take,hk]
   have hmem:=qG hb
   have hle:off+len <= cs.size:=by
    have h1:=Sg (len-1) (by omega)
    have h2:=(Array.getElem?_eq_some_iff.1 h1).1
    omega
   have:=ArgL.cells (F:=kV w) b off cs.size (λ i _=>cs.getD i default) ty fz (zs.take len) hmem (by rw[hlen];exact hle) (λ k hk=>by
    rw[hlen] at hk
    have h1:=Sg k hk
    simp only[Array.getD_eq_getD_getElem?]
    rw[h1];rfl) (λ k hk=>by
    rw[hlen] at hk
    have:(zs.take len).getD k 0∈zs:=by
     rw[List.getD_eq_getElem?_getD,List.getElem?_eq_getElem (by omega)]
     exact List.mem_of_mem_take (List.getElem_mem _)
    exact nW (hwz _ this))
   rw[hlen] at this
   exact this
theorem rl{H:Type}{enc:TypeId × Value -> H}{P:Program}{w:World}{base:Nat}{sp:Nat -> Bool}{held:Bool}{fuel:Nat}{t e:TypeId}{n m:Nat}{k:IntKind}{fs:Array Field}{cs:List Value}{zs:List (List Int)}{p:List MemPlace}
  (ht:P.underlying t=some (.array n e)) (he:P.underlying e=some (.struct fs)) (WE:P.cellsOf e=m) (hct:P.cellsOf t=n*m) (hm:0<m) (P3:fs.toList.length=m)
  (hf:∀ (j:Nat) f,fs.toList[j]?=some f -> P.underlying f.type=some (.int k) /\ P.cellsOf f.type=1 /\ f.offset=j) (hz:∀z∈zs,z.length=m)
  (h:DataW.trod enc P w base sp held fuel t cs=some (.agg (zs.map λ z=>.agg (z.map λ x=>.lit (.int k x))),p)) :
  cs.length=n*m /\ zs.length=n /\ ∀i j,i<n -> j<m -> cs[i*m+j]?=some (.int k ((zs.getD i []).getD j 0)):=by
 cases fuel with
 | zero=>simp[DataW.trod] at h
 | succ fuel =>
  simp only[DataW.trod,ht,WE,hct] at h
  split at h
  case isFalse=>cases h
  rename_i hl
  obtain⟨xs,YH,hx⟩:=Option.map_eq_some_iff.1 h
  have hxs:xs.map (·.1)=zs.map λ z=>(DataW.agg (z.map λ x=>.lit (.int k x)):DataW H):=by
   have:=congrArg Prod.fst hx
   simpa using this
  have RF:xs.length=n:=by simpa using Lib.mapM_length YH
  have Rm:zs.length=n:=by
   have:=congrArg List.length hxs
   simp at this
   omega
  refine⟨hl,Rm,λ i j hi hj=>?_⟩
  obtain⟨b,hb,WC⟩:=Lib.mapM_at YH i i (by simp[hi])
  have hbz:b.1=.agg ((zs.getD i []).map λ x=>.lit (.int k x)):=by
   have h2:(xs.map (·.1))[i]?=some b.1:=by simp[hb]
   rw[hxs,List.getElem?_map,List.getElem?_eq_getElem (by omega)] at h2
   simp only[Option.map_some,Option.some.injEq] at h2
   rw[<- h2,List.getD_eq_getElem?_getD,List.getElem?_eq_getElem (by omega)]
   rfl
  have Zt:(zs.getD i []).length=m:=by
   rw[List.getD_eq_getElem?_getD,List.getElem?_eq_getElem (by omega)]
   exact hz _ (List.getElem_mem _)
  cases fuel with
  | zero=>simp[DataW.trod] at WC
  | succ fuel =>
   have Ue:=WC
   simp only[DataW.trod,he,WE] at Ue
   split at Ue
   case isFalse=>cases Ue
   rename_i By
   obtain⟨ys,hym,hy⟩:=Option.map_eq_some_iff.1 Ue
   have hys:ys.map (·.1)=(zs.getD i []).map λ x=>(DataW.lit (.int k x):DataW H):=by
    have:=congrArg Prod.fst hy
    rw[hbz] at this
    simpa using this
   have hfj:fs.toList[j]?=some (fs.toList[j]'(by omega)):=List.getElem?_eq_getElem (by omega)
   obtain⟨c,hc,WB⟩:=Lib.mapM_at hym j _ hfj
   obtain⟨f1,f2,f3⟩:=hf j _ hfj
   rw[f2,f3] at WB
   obtain⟨x,hcx,hcd,_⟩:=DataW.trod_int f1 WB
   have h1:(((cs.drop (i*m)).take m).drop j).take 1=[.int k x]:=hcx
   have h2:cs[i*m+j]?=some (.int k x):=by
    have:=congrArg (·[0]?) h1
    simpa [List.getElem?_take,List.getElem?_drop,hj] using this
   have h3:(ys.map (·.1))[j]?=some (DataW.lit (.int k x):DataW H):=by simp[hc,hcd]
   rw[hys,List.getElem?_map,List.getElem?_eq_getElem (by omega)] at h3
   simp only[Option.map_some,Option.some.injEq,DataW.lit.injEq,Lit.int.injEq,true_and] at h3
   have h4:∀l:List Int,(hl:j<l.length) -> l[j]=l.getD j 0:=λ l hl=>by simp[List.getD_eq_getElem?_getD,hl]
   rw[h2,<- h3,h4 _ (by omega)]
theorem j7{H:Type}{enc:TypeId × Value -> H}{a:Assume}{C:Checked}{os:Os}{f:FuncId}{fn:Func}{s:ChangeSpec}{conds:List PathCond}{apart fresh handsOn again:Bool}{X:World -> Array Value -> Prop}
  (hX:∀ (w w':World) (args:Array Value),w.heap=w'.heap -> X w args -> X w' args)
  (own:ownKnob C.prog.godebug=none) (started:os.Started) (Vd:C.prog.inits.idxOf? f=none) (VQ:C.prog.funcs[f]?=some fn)
  (witness:∃ (w:World) (tape:Tape) (i:Input),w.os=os /\ (w.forCall tape i).Shaped C.prog /\ i.vars=[] /\ Input.okWide C.prog (w.forCall tape i) .any w.heap.size f i /\
   ((s.pre enc C.prog fn conds apart (w.forCall tape i).memory i.args /\ X (w.forCall tape i).memory i.args) /\ sizedMet enc C.prog fn (OpenSpec.ofChange s) apart (w.forCall tape i).memory i.args) /\ a.holds C.prog (lone (Frame.enter C.prog f i.args .normal) [] (w.forCall tape i)))
  (Tj:∀ (W:World) (base:Nat) (args:Array Value) (ds gs:List (DataW H)) (before:List MemPlace),W.ShapedOpen C.prog ->
   (∀ (j:Nat) t v,fn.params[j]?=some t -> args[j]?=some v -> Value.okWide C.prog W .any base t v) ->
   DataW.Whole enc C.prog fn.params.toList s.vars apart W args.toList ds gs before -> X W args ->
   Calls C.prog f args W λ e W'=>∃v,e=.returned v /\ s.post enc C.prog fn apart fresh handsOn again W args v W') :
  ReturnsInHanded a C os f .any (λ w args=>(s.pre enc C.prog fn conds apart w args /\ X w args) /\ sizedMet enc C.prog fn (OpenSpec.ofChange s) apart w args) (s.post enc C.prog fn apart fresh handsOn again):=by
 refine returnsInHanded_of_calls own started Vd witness ?_
 intro w tape i _ Sd _ aT Pt hholds
 obtain⟨_,_,_,fn',hfn',_,_,_,_,H_⟩:=aT
 have e:fn'=fn:=Option.some.inj (hfn'.symm.trans VQ)
 subst e
 obtain⟨⟨⟨ds,gs,before,hw,hc⟩,hx⟩,hz⟩:=Pt
 have Vj:=DataW.Whole.of_heap (w':=w.forCall tape i) (by rfl) hw
 refine(Tj (w.forCall tape i) w.heap.size i.args ds gs before Sd H_ Vj (hX _ _ _ (by rfl) hx)).mono λ e W' ⟨v,he,hp⟩=>?_
 subst he
 exact ChangeSpec.post_blind hp
def ceZ:List (List Int):=[[0,0],[0,1],[0,1],[1,0],[1,1],[2,0],[0,1],[0,1],[0,1],[2,1],[2,1],[2,1],[2,1],[1,1],[2,1],[2,1],[2,1],[1,1],[0,0],[1,0],[2,0],[0,0]]
def A5:Nat -> Nat -> Value:=λ i j=>.int .i64 ((ceZ.getD i []).getD j 0)
theorem Hm:(Blk.rows 2 22 A5 213 (0,0)).den=(Blk.lit tW 213 (0,0)).den:=by kernel_rfl
def efZ:List (List Int):=mR.map λ z=>[z.1,z.2.1,z.2.2]
theorem xe(g:Nat)(t:TypeId)(hg:g<Tryz.prog.globals.size)(h0:(((begin Tryz.prog (λ _ _=>0) default).world.heap[g]?).bind Obj.row?).map (·.2)=some t){W:World}(hs:W.ShapedOpen Tryz.prog):∃cs,W.heap[g]?=some (.cells cs t (0,0)):=by
 cases h:((begin Tryz.prog (λ _ _=>0) default).world.heap[g]?).bind Obj.row? with
 | none=>rw[h] at h0;cases h0
 | some x =>
  obtain⟨z,t'⟩:=x
  rw[h] at h0
  simp only[Option.map_some,Option.some.injEq] at h0
  subst h0
  obtain⟨cs,h1,_⟩:=hs.1 g z t' hg h
  exact⟨cs,h1⟩
def Hn(P:Program)(e:TypeId)(m:Nat):Bool :=
 match P.underlying e with
 | some (.struct fs)=>decide (fs.toList.length=m) && (List.range m).all λ j =>
  match fs.toList[j]? with
  | some f=>(match P.underlying f.type with|some (.int .i64)=>true|_=>false) && decide (P.cellsOf f.type=1) && decide (f.offset=j)
  | none=>false
 | _=>false
theorem C5{P:Program}{e:TypeId}{m:Nat}(h:Hn P e m=true):∃fs:Array Field,P.underlying e=some (.struct fs) /\ fs.toList.length=m /\
  ∀ (j:Nat) f,fs.toList[j]?=some f -> P.underlying f.type=some (.int .i64) /\ P.cellsOf f.type=1 /\ f.offset=j:=by
 unfold Hn at h
 split at h
 case h_2=>cases h
 rename_i fs hfs
 rw[Bool.and_eq_true] at h
 have hm:fs.toList.length=m:=of_decide_eq_true h.1
 refine⟨fs,hfs,hm,λ j f hj=>?_⟩
 have hjm:j<m:=by rw[<- hm];exact(List.getElem?_eq_some_iff.1 hj).1
 have h2:=List.all_eq_true.1 h.2 j (List.mem_range.2 hjm)
 rw[hj] at h2
 simp only[Bool.and_eq_true,decide_eq_true_eq] at h2
 refine⟨?_,h2.1.2,h2.2⟩
 have h3:=h2.1.1
 split at h3
 ·assumption
 ·cases h3
theorem A6{P:Program}{W:World}{name:String}{g n m:Nat}{t e:TypeId}{zs:List (List Int)}{rest:List (String × DataW Unit)}{ps:List MemPlace}{row:Nat -> Nat -> Value}{Yh:Array Value}
  (hb:W.heap[g]?=some (.cells Yh t (0,0)))
  (hg:P.globalNamed name=some g) (ZF:(P.globals[g]?).map (·.type)=some t) (ht:P.underlying t=some (.array n e)) (hE:Hn P e m=true) (WE:P.cellsOf e=m) (hct:P.cellsOf t=n*m) (hm:0<m) (hz:∀z∈zs,z.length=m)
  (Vv:∀i j,i<n -> j<m -> row i j=.int .i64 ((zs.getD i []).getD j 0))
  (h:DataW.LaidVars P W ((name,.agg (zs.map λ z=>.agg (z.map λ x=>.lit (.int .i64 x))))::rest) ps):W.heap[g]?=some (Blk.rows m n row t (0,0)).den /\ ∃q,DataW.LaidVars P W rest q:=by
 obtain⟨fs,he,P3,hf⟩:=C5 hE
 obtain⟨g',t',cs,fuel,p,q,hg',ht',ZD,hd,hr,_⟩:=h
 obtain rfl:=Option.some.inj (hg.symm.trans hg')
 obtain rfl:=Option.some.inj (ZF.symm.trans ht')
 have hv:W.var? P name=some Yh:=by
  unfold World.var?
  rw[hg]
  simp only[Option.bind_some,hb]
 obtain rfl:=Option.some.inj (hv.symm.trans ZD)
 obtain⟨h1,h2,h3⟩:=rl ht he WE hct hm P3 hf hz hd
 refine⟨?_,q,hr⟩
 rw[hb]
 show some (Obj.cells Yh t (0,0))=some (Obj.cells ⟨bU m row n⟩ t (0,0))
 congr 2
 obtain⟨l⟩:=Yh
 congr 1
 symm
 exact jI (w:=m) h1 λ i j hi hj=>by rw[Vv i j hi hj];exact h3 i j hi hj
theorem JQ {W:World} (hs:W.ShapedOpen Tryz.prog) (hL:laidMetH Tryz.prog [("arenanet/compile.effects",Rows.laid_arenanet_compile_effects),("arenanet/vm.effects",Rows.laid_arenanet_vm_effects)] W):W.heap[0]?=some (Blk.lit tW 213 (0,0)).den /\ W.heap[1]?=some (Blk.rows 3 22 ma 283 (0,0)).den:=by
 rw[MakeChecks.laidMetH_plain _ _ _ (by kernel_rfl)] at hL
 obtain⟨ps,hv,_,_⟩:=hL
 obtain⟨Yh,hb0⟩:=xe 0 213 (of_decide_eq_true (by kernel_rfl)) (by kernel_rfl) hs
 obtain⟨cs1,Ri⟩:=xe 1 283 (of_decide_eq_true (by kernel_rfl)) (by kernel_rfl) hs
 have YA:DataW.LaidVars Tryz.prog W (("arenanet/compile.effects",.agg (ceZ.map λ z=>.agg (z.map λ x=>.lit (.int .i64 x)))) :: [("arenanet/vm.effects",.agg (efZ.map λ z=>.agg (z.map λ x=>.lit (.int .i64 x))))]) ps:=hv
 obtain⟨h0,q,hq⟩:=A6 (n:=22) (m:=2) (e:=212) (row:=A5) hb0 (by kernel_rfl) (by kernel_rfl) (by kernel_rfl) (by kernel_rfl) (by kernel_rfl) (by kernel_rfl) (by decide) (by decide) (λ i j hi hj=>rfl) YA
 obtain⟨h1,_⟩:=A6 (n:=22) (m:=3) (e:=282) (row:=ma) Ri (by kernel_rfl) (by kernel_rfl) (by kernel_rfl) (by kernel_rfl) (by kernel_rfl) (by kernel_rfl) (by decide) (by decide) (λ i j hi hj=>by
  have key:∀i:Fin 22,∀j:Fin 3,(if j.1=0 then (mR.getD i.1 (0,0,0)).1 else if j.1=1 then (mR.getD i.1 (0,0,0)).2.1 else (mR.getD i.1 (0,0,0)).2.2)=(efZ.getD i.1 []).getD j.1 0:=by decide
  have:=key ⟨i,hi⟩ ⟨j,hj⟩
  rcases j with _|_|_|j
  ·exact congrArg (Value.int .i64) this
  ·exact congrArg (Value.int .i64) this
  ·exact congrArg (Value.int .i64) this
  ·omega) hq
 exact⟨h0.trans (congrArg some Hm),h1⟩
def qH(W:World):HL:=List.ofFn (λ k:Fin W.heap.size=>(k.1,if k.1=0 then Blk.lit tW 213 (0,0) else if k.1=1 then Blk.rows 3 22 ma 283 (0,0) else qF W.heap[k.1]))
theorem ze{W:World}(h0:W.heap[0]?=some (Blk.lit tW 213 (0,0)).den)(h1:W.heap[1]?=some (Blk.rows 3 22 ma 283 (0,0)).den):gW (kV W)=gW (qH W):=by
 unfold gW kV qH
 rw[List.map_ofFn,List.map_ofFn]
 congr 1
 funext k
 show (k.1,(qF W.heap[k.1]).den)=(k.1,Blk.den (if k.1=0 then _ else if k.1=1 then _ else _))
 rw[lF]
 congr 1
 by_cases e0:k.1=0
 ·rw[if_pos e0]
  have h2:W.heap[k.1]?=some (Blk.lit tW 213 (0,0)).den:=by rw[show W.heap[k.1]?=W.heap[0]? by rw[e0]];exact h0
  rw[Array.getElem?_eq_getElem k.2] at h2
  exact Option.some.inj h2
 ·rw[if_neg e0]
  by_cases e1:k.1=1
  ·rw[if_pos e1]
   have h2:W.heap[k.1]?=some (Blk.rows 3 22 ma 283 (0,0)).den:=by rw[show W.heap[k.1]?=W.heap[1]? by rw[e1]];exact h1
   rw[Array.getElem?_eq_getElem k.2] at h2
   exact Option.some.inj h2
  ·rw[if_neg e1,lF]
theorem Hs{W:World}(h0:W.heap[0]?=some (Blk.lit tW 213 (0,0)).den):wE (qH W) :=
 List.mem_ofFn.2 ⟨⟨0,(Array.getElem?_eq_some_iff.1 h0).1⟩,rfl⟩
theorem Ht{W:World}(h1:W.heap[1]?=some (Blk.rows 3 22 ma 283 (0,0)).den):fv (qH W) :=
 List.mem_ofFn.2 ⟨⟨1,(Array.getElem?_eq_some_iff.1 h1).1⟩,rfl⟩
noncomputable def C6(os:Os):World:=World.laidAll Tryz.prog os Rows.engineGameRow.laid
theorem xf(os:Os)(started:os.Started)(H:Type)(enc:TypeId × Value -> H) :
  ReturnsInHanded {} Tryz.checked os 3 .any (λ w args=>(Rows.engineGameSpec.pre enc Tryz.prog Tryz.f3 [] false w args /\ laidMetH Tryz.prog Rows.engineGameRow.laid w) /\ sizedMet enc Tryz.prog Tryz.f3 (OpenSpec.ofChange Rows.engineGameSpec) false w args)
   (Rows.engineGameSpec.post enc Tryz.prog Tryz.f3 false true false false):=by
 refine j7 (C:=Tryz.checked) (X:=λ w _=>laidMetH Tryz.prog Rows.engineGameRow.laid w) (λ _ _ _ hh h=>h.of_heap hh) Hh started (by kernel_rfl) Tryz.func3
  (ChangeSpec.witness_at (enc:=enc) (C:=Tryz.checked) (os:=os) (X:=λ w _=>laidMetH Tryz.prog Rows.engineGameRow.laid w) false (C6 os) #[.slice none 0 0,.int .i64 0,.slice none 0 0,.int .i64 0] 8 (World.laidAll_os _ _ _) (by kernel_rfl) (by kernel_rfl) (by kernel_rfl) (by kernel_rfl) (by kernel_rfl) (laidMetH_of_parts (laidMet_laidAll _ (by kernel_rfl) (by kernel_rfl)) (by kernel_rfl))) ?_
 intro W base args ds gs before Sd UE hW hL
 have H_:∀ (j:Nat) t v,Tryz.f3.params[j]?=some t -> args[j]?=some v -> Value.okWide Tryz.prog W .any base t v:=UE
 have hW':=hW
 obtain⟨p,q,hA0,hV,rfl,hfz,Rf⟩:=hW
 have hA:DataW.TrodAll enc Tryz.prog W 0 (λ _=>true) true Tryz.f3.params.toList args.toList ds p:=hA0
 have hAA:=hA
 rw[Tryz.params3] at hA H_
 obtain⟨v0,vs0,d0,ds0,p0,q0,RL,rfl,rfl,h0r,r0⟩:=trodAll_cons hA
 obtain⟨v1,vs1,d1,ds1,p1,q1,rfl,rfl,rfl,h1r,r1⟩:=trodAll_cons r0
 obtain⟨v2,vs2,d2,ds2,p2,q2,rfl,rfl,rfl,h2r,r2⟩:=trodAll_cons r1
 obtain⟨v3,vs3,d3,ds3,p3,q3,rfl,rfl,rfl,h3r,r3⟩:=trodAll_cons r2
 obtain⟨rfl,rfl,rfl⟩:=trodAll_nil r3
 obtain rfl:args=#[v0,v1,v2,v3]:=by cases args;simp_all
 obtain⟨rfl,rfl⟩:=trodVars_none hV
 obtain⟨A0,n0,c0,x0,rfl,b0,h0,k0⟩:=xd (H_ 0 22 v0 rfl rfl) h0r
 obtain⟨a1,rfl,rfl,rfl,w1z⟩:=open_int Tryz.underlying3 (H_ 1 3 v1 rfl rfl) h1r
 have w1:=nW w1z
 obtain⟨A2,n2,c2,x2,rfl,b2,h2,k2⟩:=xd (H_ 2 22 v2 rfl rfl) h2r
 obtain⟨a3,rfl,rfl,rfl,w3z⟩:=open_int Tryz.underlying3 (H_ 3 3 v3 rfl rfl) h3r
 have w3:=nW w3z
 clear hA0 UE
 simp only[List.append_nil,List.nil_append] at hW' hAA
 obtain⟨g0,g1⟩:=JQ Sd hL
 have eW:=ze g0 g1
 refine(C4 W ((JP A0 A2 n0 c0 n2 c2 x0 x2 a1 a3 (qH W) (Hs g0) (Ht g1) (h0.d eW) b0 (h2.d eW) b2 w1 w3).den eW.symm)).mono λ e W' ⟨he,hb⟩=>?_
 subst he
 exact⟨_,rfl,Hk Hj (by rw[Tryz.params3];intro t ht;simp at ht;first|(subst ht;exact⟨by kernel_rfl,of_decide_eq_true (by kernel_rfl)⟩)|(rcases ht with rfl|rfl <;> exact⟨by kernel_rfl,of_decide_eq_true (by kernel_rfl)⟩)|(rcases ht with rfl|rfl|rfl <;> exact⟨by kernel_rfl,of_decide_eq_true (by kernel_rfl)⟩)|(rcases ht with rfl|rfl|rfl|rfl <;> exact⟨by kernel_rfl,of_decide_eq_true (by kernel_rfl)⟩)) hW' rfl hAA (λ _ _ _=>trodAll_cons_mk (shut_bool Tryz.underlying4 _) trodAll_mk0) rfl (λ _=>rfl) hb⟩
theorem uj:(Rows.engineGameRow.inPlace == Tryz.prog.inPlace 3)=true:=by kernel_rfl
theorem qI:(Rows.engineGameRow.named == Tryz.prog.varsNamed 3)=true:=by kernel_rfl
theorem oK:(Rows.engineGameRow.unfollowed == Tryz.prog.unfollowed 3)=true:=by kernel_rfl
theorem rm:(Rows.engineGameRow.recurses == Tryz.prog.recurses 3)=true:=by kernel_rfl
theorem uk:laidOutB Tryz.prog=true:=by kernel_rfl
theorem qJ:mapsRowed Tryz.prog=true:=by kernel_rfl
theorem qK:(Rows.engineGameRow.plainKeys == Tryz.prog.plainKeys)=true:=by kernel_rfl
theorem zf:Tryz.prog.mayEnter=true:=by kernel_rfl
theorem zg:Tryz.prog.stopsHeard=true:=by kernel_rfl
theorem xg:joinedFacts Tryz.prog 3 Tryz.f3 Rows.engineGameSpec Rows.engineGameRow=true:=by
 unfold joinedFacts
 simp only[uj,qI,oK,rm,uk,qJ,qK,zf,zg,Bool.and_true,Bool.true_and]
 kernel_rfl
theorem C7:Rows.EngineGameSaid :=
 OpenClaim.holds_of_wide 3 Tryz.f3 rfl rfl rfl rfl rfl rfl rfl ⟨rfl,rfl,rfl,rfl,rfl⟩ rfl rfl rfl rfl rfl (by kernel_rfl) Tryz.func3 xg
  (of_decide_eq_true (by kernel_rfl)) (by unfold Func.isWrapper;first|(rw[if_pos (by decide +kernel)];kernel_rfl)|(rw[if_neg (by decide +kernel)];exact⟨rfl,rfl⟩))
  (λ os started H enc _=>xf os started H enc)
theorem C8:false=Rows.engineGameRow.goesBy Tryz.prog:=by kernel_rfl
theorem zh:Tryz.prog.funcNamed "arenanet/arenanetlaw20.EngineGame"=some 3:=by kernel_rfl
theorem prog_looks:false=Tryz.prog.looks []:=by kernel_rfl
end Go.Proofs.YthoijjeddhfcnaaGreatDoor
