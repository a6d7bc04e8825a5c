import Derived.Test.YtgdcbiiopbpgaaaGreatDoorY16
import Derived.Test.YtgdcbiiopbpgaaaGreatDoorY14
set_option maxHeartbeats 4000000
set_option maxRecDepth 100000
set_option linter.unusedSimpArgs false
set_option linter.unusedVariables false
namespace Go.Proofs.YtgdcbiiopbpgaaaGreatDoor
open IntKind
open Go.RowKit
inductive RecH(rs_:List Bx)(ds_:List Dr)(bp ev rp:Nat)(S S2:Setup)(W:Nat -> List Int)(n:Nat)(pre:List (List Inp)):HL -> Prop
 | mk {gb mb rc cc:Nat} {S3:Setup} {M:MemS} {rA cA:Option Addr} {rl:List Rw} {cl:List Ck} {Tg Ts Tr Trr Tc Tcc:HL} (h3:SetEq S S3) (hs:ry S3 rs_ ds_ Ts) (hg:GameX rs_ ds_ bp gb mb S2 M 99020000 Tg) (hcs:M.cs=W n) (hb:0 <= M.base /\ M.base <= 1000000*(n:Int)) (hr:SlIs mP 54 rl rA rc Tr) (hrl:rl.length=n) (hrr:RwsT rl pre Trr) (hc:SlIs yq 88 cl cA cc Tc) (hcl:cl.length=n / ev+1) (hck:CksT cl (λ k=>W (k*ev)) Tcc) :
  RecH rs_ ds_ bp ev rp S S2 W n pre (ap [(rp,.lit (Setup.l S3++[vP bp 0,vI (ev:Int),vP gb 0,.slice rA n rc,.slice cA cl.length cc]) 86 (0,0))] [Tg,Ts,Tr,Trr,Tc,Tcc])
theorem Iq(S S2 S3:Setup)(rs_:List Bx)(ds_:List Dr)(bp gb mb rp ev n rc cc b o N c:Nat)(rA cA:Option Addr)(j:Nat × Int)(full xs:List Inp)(rl:List Rw)(pre:List (List Inp))(cl:List Ck)(W:Nat -> List Int)(M:MemS)(G0 Ts Tr Trr Tc Tcc F:HL)(h3:SetEq S S3)(hs:ry S3 rs_ ds_ Ts)(hG:GameX rs_ ds_ bp gb mb S2 M 99020000 G0)(hb:0 <= M.base /\ M.base <= 1000000*(n:Int))(hn:n <= 800)(hr:SlIs mP 54 rl rA rc Tr)(hrl:rl.length=n)(hrr:RwsT rl pre Trr)(hc:SlIs yq 88 cl cA cc Tc)(hcl:cl.length=n / ev+1)(hck:CksT cl (λ k=>W (k*ev)) Tcc)(No:1 <= ev /\ ev <= 60)(hj:j.1<5)(hA:AtOk F bp (M.get 0) j)(hE:dh F)(hI:(b,.rows 3 N (gc full) 119 (0,0))∈F)(hir:o+xs.length <= N)(h1:1 <= xs.length)(h2:xs.length <= 1000)(hx:∀k,k<xs.length -> full.getD (o+k) dI=xs.getD k dI)(hk:TkOk S2 j xs M)(hW:W (n+1)=(oh (uu S2 j xs) M).cs)(hml:(oh (uu S2 j xs) M).cs.length <= 1000000):Sp Tryz.prog 24 #[vP rp 0,vS b (o*3) xs.length c] (ap [(rp,.lit (Setup.l S3++[vP bp 0,vI (ev:Int),vP gb 0,.slice rA n rc,.slice cA cl.length cc]) 86 (0,0))] [G0,Ts,Tr,Trr,Tc,Tcc]) F (λ u H'=>u=vI 0 /\ RecH rs_ ds_ bp ev rp S S2 W (n+1) (pre++[xs]) H'):=by
 have hl:RowL eE 119 F (some ⟨b,o*3,none⟩) xs.length xs:=.rows b o N full (0,0) _ xs hI hir rfl hx
 have hd_:n / ev <= n:=Nat.div_le_self _ _
 refine Sp.run Tryz.func24 rfl mn (A:=[(rp,.lit (Setup.l S3++[vP bp 0,vI (ev:Int),vP gb 0,.slice rA n rc,.slice cA cl.length cc]) 86 (0,0))]) (Ts:=[G0,Ts,Tr,Trr,Tc,Tcc]) rfl λ w0=>?_
 refine ae 13 [.own 0] λ _=>RN.ct [] [0] (pA (c:=c) hG (by omega) hj (hA.mono λ x hx=>aq hx) (aq hE) (aq hI) hir (by omega) hx hk) ?_
 rintro _ ⟨M1,T2⟩ ⟨rfl,hG3,XH,hb5⟩
 dsimp only at hG3 XH hb5
 refine ae 13 [] λ _=>RN.draw [8,11] []<|ag [] [0,1,5,2,3,4] [.own 0]<|RD.one 6 (RDO.ct [] (Hp:=[]) (Tp:=[]) [] [] (qd (some ⟨b,o*3,none⟩) xs.length c xs _ (hl.up.src qS (by decide)) (by omega)) ?_)
 rintro _ ⟨A6,c7,T8⟩ ⟨rfl,hc9⟩
 dsimp only at hc9
 refine RD.one 7 (RDO.ev [] [] λ Sg=>?_)
 refine RD.one 8 (lY [] Ce rl [(⟨A6,xs.length,c7⟩:Rw)] 3 0 hrl.symm hr (by simp;omega) ?_)
 rintro Xj Xf To ⟨Ta,WA⟩
 refine ag [] [9,10] []<|RD.one 11 (RDO.ev [] [.own 1] λ _=>?_)
 refine RD.fin<|ae 3 [] λ _=>RN.draw [] []<|aG [] [0,5,1,6,2,7,3,8,4,9,10] [.own 1,.own 1,.nw] [0 <= (((n+1):Nat):Int) /\ (0:Int)<(ev:Int) /\ (((n+1):Nat):Int) <= 9223372036854775807]<|RD.fin<|ae 1 [] λ _=>RN.em ((((n+1):Nat):Int) % (ev:Int)=0) 36 (λ Ru=>?_) λ Ru=>?_
 ·refine ae 3 [] λ _=>RN.ct [1] [5] (sf S2 S3 rs_ ds_ bp gb mb rp ev (n+1) Xf cc 99020000 Xj cA cl M1 T2 Tc _ hG3 (ar 2) hc (by omega) (by rw[XH];exact hml)) ?_
  rintro _ ⟨⟨q17,A18,c19⟩,Uy⟩ ⟨rfl,hc21⟩
  dsimp only at hc21
  refine ld 1<|kV [7,0,1,2,3,4,5,6]<|mE<|ae 7 [] λ _=>kV [6,3,0,1,2,4,5]<|mE<|RN.ret [] [0] [4,5,3,0,2,1] (v:=vI 0) (H':=(ap [(rp,.lit (Setup.l S3++[vP bp 0,vI (ev:Int),vP gb 0,.slice Xj (n+1) Xf,.slice A18 (cl.length+1) c19]) 86 (0,0))] [T2,Ts,To,(Trr++T8),Uy,(Tcc++[(q17,.rows 1 M1.cs.length (aN M1.cs) 3 (0,0))])])) ?_
  have Vh:=hrr.snocC hc9 h1 rfl
  have UC:(n+1) % ev=0:=by have h_:=Ru;omega
  have Us:=hck.snoc (q:=q17) (cs:=M1.cs) (by show W (cl.length*ev)=_;rw[hcl,NH UC,hW,XH])
  have hcl2_:(cl++[(⟨some ⟨q17,0,none⟩,M1.cs.length,M1.cs.length,ij M1.cs⟩:Ck)]).length=(n+1) / ev+1:=by rw[List.length_append,hcl,Ip UC];rfl
  exact⟨rfl,by have h_:=RecH.mk (rp:=rp) h3 hs hG3 (by rw[XH,hW]) ⟨hb5.1,by omega⟩ Ta (by simp[hrl]) Vh hc21 hcl2_ Us;rw[show ((cl++[(⟨some ⟨q17,0,none⟩,M1.cs.length,M1.cs.length,ij M1.cs⟩:Ck)])).length=cl.length+1 by simp] at h_;exact h_⟩
 ·refine ae 8 [] λ _=>kV [4,1,0,2,3,5,6]<|mE<|RN.ret [] [1] [2,3,1,0,4,5] (v:=vI 0) (H':=(ap [(rp,.lit (Setup.l S3++[vP bp 0,vI (ev:Int),vP gb 0,.slice Xj (n+1) Xf,.slice cA cl.length cc]) 86 (0,0))] [T2,Ts,To,(Trr++T8),Tc,Tcc])) ?_
  have Vh:=hrr.snocC hc9 h1 rfl
  have UC:¬ (n+1) % ev=0:=by have h_:=Ru;omega
  exact⟨rfl,RecH.mk (rp:=rp) h3 hs hG3 (by rw[XH,hW]) ⟨hb5.1,by omega⟩ Ta (by simp[hrl]) Vh hc (by rw[hcl,NG UC]) hck⟩
theorem yr{rs_:List Bx}{ds_:List Dr}{bp ev rp n b o N c:Nat}{S S2:Setup}{W:Nat -> List Int}{pre:List (List Inp)}{j:Nat × Int}{full xs:List Inp}{G0 F:HL}(h:RecH rs_ ds_ bp ev rp S S2 W n pre G0)(hn:n <= 800)(No:1 <= ev /\ ev <= 60)(hj:j.1<5)(t:Int)(ht:(⟨W n,[],0⟩:MemS).get 0=t)(hA:AtOk F bp t j)(hE:dh F)(hI:(b,.rows 3 N (gc full) 119 (0,0))∈F)(hir:o+xs.length <= N)(h1:1 <= xs.length)(h2:xs.length <= 1000)(hx:∀k,k<xs.length -> full.getD (o+k) dI=xs.getD k dI)(hk:TkOk S2 j xs ⟨W n,[],0⟩)(hW:W (n+1)=(oh (uu S2 j xs) ⟨W n,[],0⟩).cs)(hml:(W (n+1)).length <= 1000000):Sp Tryz.prog 24 #[vP rp 0,vS b (o*3) xs.length c] (ap [] [G0]) F (λ u H'=>∃x,H'=ap [] [x] /\ (u=vI 0 /\ RecH rs_ ds_ bp ev rp S S2 W (n+1) (pre++[xs]) x)):=by
 rw[bD]
 cases h with
 | mk h3 hs hg hcs hb hr hrl hrr hc hcl hck =>
  rename_i gb mb rc cc S3 M rA cA rl cl Tg Ts Tr Trr Tc Tcc
  have e:M.cs=(⟨W n,[],0⟩:MemS).cs:=hcs
  have key:=Iq S S2 S3 rs_ ds_ bp gb mb rp ev n rc cc b o N c rA cA j full xs rl pre cl W M Tg Ts Tr Trr Tc Tcc F h3 hs hg hb hn hr hrl hrr hc hcl hck No hj (by rw[sc e,ht];exact hA) hE hI hir h1 h2 hx (hk.cs e.symm) (by rw[hW];exact(rd _ e).symm) (by rw[rd _ e,<- hW];exact hml)
  exact key.tl
def Setup.std(S:Setup):Setup:={ S with bo:=0,bods:=jA S }
theorem Ap(S:Setup):SetEq S S.std:=⟨⟨rfl,rfl,rfl,rfl,rfl,rfl,rfl,rfl,rfl,rfl,rfl,rfl⟩,λ k hk=>⟨(S.body k).sh.A,(S.body k).sh.cap,by
 show (jA S).getD (0+k) dB=_
 rw[Nat.zero_add,iH hk]
 rfl⟩,rfl,fL S⟩
def WS(S:Setup)(J:Nat -> Nat × Int)(xss:List (List Inp))(i:Nat):List Int:=(ET (rG S.std J xss) ⟨eS S S.nb,[],0⟩ i).cs
theorem SetEq.refl0{S S2:Setup}(h:SetEq S S2)(J:Nat -> Nat × Int)(xss:List (List Inp)):∀k,GEq (rG S.std J xss k) (rG S2 J xss k):=Pt (Ap S) h J xss
section
variable {S S2:Setup} {J:Nat -> Nat × Int} {xss:List (List Inp)} {n:Nat}
theorem sg(hV:SetV S)(he:SetEq S S2)(hn:n <= 50)(oF:∀i,i<n -> fM S.players (xss.getD i [])){i:Nat}(hi:i <= n):TE2 S2 (i:Int) ⟨WS S J xss i,[],0⟩:=by
 have h:=H7 (he.setV hV) (H9 hV he) (xss:=xss) J n hn (λ i hi=>by rw[he.pl];exact oF i hi) i hi
 exact TE2.cs (show (ET (rG S2 J xss) _ i).cs=(⟨WS S J xss i,[],0⟩:MemS).cs by rw[<- Aj (he.refl0 J xss)];rfl) h
theorem Co(hV:SetV S)(he:SetEq S S2)(hn:n <= 50)(oF:∀i,i<n -> fM S.players (xss.getD i [])){i:Nat}(hi:i<n):TkOk S2 (J i) (xss.getD i []) ⟨WS S J xss i,[],0⟩:=by
 have h:=Pu (he.setV hV) (H9 hV he) (xss:=xss) J n hn (λ i hi=>by rw[he.pl];exact oF i hi) i hi
 exact TkOk.cs (show (ET (rG S2 J xss) _ i).cs=(⟨WS S J xss i,[],0⟩:MemS).cs by rw[<- Aj (he.refl0 J xss)];rfl) h
theorem qF(he:SetEq S S2)(i:Nat):WS S J xss (i+1)=(oh (uu S2 (J i) (xss.getD i [])) ⟨WS S J xss i,[],0⟩).cs:=by
 unfold WS
 rw[ET,Gg (he.refl0 J xss i)]
 exact rd _ rfl
theorem vL(hV:SetV S)(he:SetEq S S2)(hn:n <= 50)(oF:∀i,i<n -> fM S.players (xss.getD i [])){i:Nat}(hi:i <= n):((WS S J xss i).length:Int)=sizeOf S:=by
 have h:=(sg (J:=J) hV he hn oF hi).len
 rw[he.size] at h
 exact h
theorem kq{α:Type}{l:List α}{i:Nat}(h:i<l.length)(d:α):l.take (i+1)=l.take i++[l.getD i d]:=by
 rw[List.take_add_one,List.getElem?_eq_getElem h,List.getD_eq_getElem?_getD,List.getElem?_eq_getElem h]
 rfl
end
theorem yt(S:Setup)(rs:List Bx)(ds:List Dr)(bp ev:Nat)(W:Nat -> List Int)(F:HL)(hS:SetCl F S)(hM:MapIn F S rs ds)(h1:1 <= S.nb)(RY:S.rn <= 1000000)(R3:S.dn <= 1000000)(ID:(sizeOf S).toNat <= 1000000)(hv:i0 S rs ds=0)(No:1 <= ev /\ ev <= 60)(hW:W 0=eS S S.nb):Sp Tryz.prog 21 #[Setup.v S,vP bp 0,vI (ev:Int)] (ap [] []) F (λ u H'=>∃x:Nat × Setup × HL,H'=ap [] [x.2.2] /\ (u=.tuple #[vP x.1 0,vI 0] /\ SetEq S x.2.1 /\ RecH rs ds bp ev x.1 S x.2.1 W 0 [] x.2.2)):=by
 have hil_:=gL S S.nb
 refine Sp.run Tryz.func21 rfl mn (A:=[]) (Ts:=[]) rfl λ w0=>?_
 refine ae 11 (ow 0 16) λ n1=>RN.ct (Hp:=[]) (Tp:=[]) [] [] (om S rs ds bp _ hS.up hM.up h1 RY R3 ID hv 99020000 (by decide)) ?_
 rintro _ ⟨g2,S3,T4⟩ ⟨rfl,Wj,W7⟩
 dsimp only at Wj W7
 obtain⟨X3,Xs⟩:=W7.x
 refine ae 23 [] λ _=>RN.em ((ev:Int)<1) 22 (λ h7=>?_) λ h7=>?_
 ·(exfalso;omega)
 ·refine ae 5 [] λ _=>RN.em ((ev:Int)>60) 25 (λ h8=>?_) λ h8=>?_
  ·(exfalso;omega)
  ·refine ae 6 (ow 0 16) λ _=>RN.ct (Hp:=[]) (Tp:=[]) [] [] (Ao S rs ds _ hS.up hM.up h1 RY R3) ?_
   rintro _ ⟨S9,U10⟩ ⟨rfl,he11,hU12⟩
   dsimp only at he11 hU12
   refine ae 11 [] λ V8=>RN.nt<|RN.ct [0] [0] (sf S3 S9 rs ds bp g2 X3 (V8+0) ev 0 0 0 99020000 none none [] (⟨eS S S.nb,[],0⟩:MemS) T4 [] _ Xs (ar 1) (SlIs.nil _ _) (by decide) (by show (eS S S.nb).length <= _;omega)) ?_
   rintro _ ⟨⟨q14,A15,c16⟩,Sy⟩ ⟨rfl,hc18⟩
   dsimp only at hc18
   refine ld 1<|RN.nt<|RN.nt<|ae 9 [] λ _=>RN.ret [] [0] [5,4,0,1,3,2] (v:=.tuple #[vP (V8+0) 0,vI 0]) (H':=(ap [((V8+0),.lit (Setup.l S9++[vP bp 0,vI (ev:Int),vP g2 0,.slice none 0 0,.slice A15 1 c16]) 86 (0,0))] [T4,U10,([]:HL),(List.nil:HL),Sy,[(q14,.rows 1 ((⟨eS S S.nb,[],0⟩:MemS).cs.length) (aN (⟨eS S S.nb,[],0⟩:MemS).cs) 3 (0,0))]])) ?_
   have hck_:=(CksT.nil (λ k=>W (k*ev))).snoc (q:=q14) (cs:=eS S S.nb) (by show W (([]:List Ck).length*ev)=_;rw[List.length_nil,Nat.zero_mul];exact hW)
   exact⟨((V8+0),S3,ap [((V8+0),.lit (Setup.l S9++[vP bp 0,vI (ev:Int),vP g2 0,.slice none 0 0,.slice A15 1 c16]) 86 (0,0))] [T4,U10,[],[],Sy,[]++[(q14,.rows 1 ((⟨eS S S.nb,[],0⟩:MemS).cs.length) (aN (⟨eS S S.nb,[],0⟩:MemS).cs) 3 (0,0))]]),by simp[ap],rfl,Wj,RecH.mk (rp:=(V8+0)) (rl:=[]) he11 hU12 Xs hW.symm ⟨Int.le_refl 0,Int.le_refl 0⟩ (SlIs.nil _ _) rfl RwsT.nil hc18 (by rw[Nat.zero_div];rfl) hck_⟩
theorem yu(S:Setup)(rs_:List Bx)(ds_:List Dr)(bp ev n cap:Nat)(J:Nat -> Nat × Int)(A:Option Addr)(rs:List Rw)(xss:List (List Inp))(F:HL)(hS:SetCl F S)(hM:MapIn F S rs_ ds_)(hV:SetV S)(h1:1 <= S.nb)(RY:S.rn <= 1000000)(R3:S.dn <= 1000000)(ID:(sizeOf S).toNat <= 1000000)(hv:i0 S rs_ ds_=0)(No:1 <= ev /\ ev <= 60)(hE:dh F)(hr:RowL mP 54 F A n rs)(hw:RwsIn F rs xss)(Is:n <= 50)(oF:∀i,i<n -> fM S.players (xss.getD i []))(SY:∀i,i<n -> (J i).1<5 /\ AtOk F bp (i:Int) (J i)):Sp Tryz.prog 11 #[Setup.v S,vP bp 0,vI (ev:Int),.slice A n cap] (ap [] []) F (λ u H'=>∃x:Nat × Setup × HL,H'=ap [] [x.2.2] /\ (u=vP x.1 0 /\ SetEq S x.2.1 /\ RecH rs_ ds_ bp ev x.1 S x.2.1 (WS S J xss) n xss x.2.2)):=by
 have Ya:=hV.pl
 refine Sp.run Tryz.func11 rfl mn (A:=[]) (Ts:=[]) rfl λ w0=>?_
 refine ae 21 (ow 0 16) λ n1=>RN.ct (Hp:=[]) (Tp:=[]) [] [] (yt S rs_ ds_ bp ev (WS S J xss) _ hS.up hM.up h1 RY R3 ID hv No rfl) ?_
 rintro _ ⟨r2,S3,T4⟩ ⟨rfl,Wj,hr6⟩
 dsimp only at Wj hr6
 refine ae 28 [] λ _=>RN.loop (σ:=Nat × HL) (λ ⟨i_,T_⟩=>⟨[(3,.slice A n cap),(9,vP r2 0),(11,vI (i_:Int))],[((n1+0),.lit (Setup.l S) 31 (0,0))],[T_],i_ <= n /\ RecH rs_ ds_ bp ev r2 S S3 (WS S J xss) i_ (xss.take i_) T_,n-i_⟩) (0,T4) [0] [0] (⟨Nat.zero_le _,hr6⟩) ?_
 rintro⟨i_,T_⟩ ⟨WR,RI⟩ X0
 refine ae 9 [] λ _=>RN.em ((i_:Int)<(n:Int)) 30 (λ h9=>?_) λ h9=>?_
 ·refine ae 10 [] λ _=>?_
  obtain⟨qx10,SB,Zh,fx10,fzx10,V3,Up,hox10,Vu⟩:=hr.at (k:=i_) (by omega)
  refine aB 34 (congrArg (λ v_=>(.slice v_ n cap:Value)) V3)<|RN.ro (λ _=>(mc Up mn))<|ai 2 [.ix i_,.rorow 0 (SB+i_) 0] [(SB*1+i_*1)=(SB+i_)*1+0 /\ (SB+i_)<Zh,(i_:Int)=((i_:Nat):Int) /\ i_<n] λ _=>aB 37 (congrArg (λ v_=>(.slice v_.A v_.n v_.c:Value)) Vu) ?_
  obtain⟨bw11,ow11,Nw11,fw11,cw11,ew11,hIw11,hiw11,ZT,hcw11⟩:=hw.get (k:=i_) (by rw[hr.len];omega)
  refine aB 37 (congrArg (λ v_:Rw=>Value.slice v_.A v_.n v_.c) ew11)<|RN.ct [] [0] (yr (c:=cw11) (j:=J i_) RI (by omega) No (SY i_ (by omega)).1 (i_:Int) (sg hV Wj Is oF (by omega)).t0 ((SY i_ (by omega)).2.mono λ x hx=>aq hx) (aq hE) (aq hIw11) hiw11 (by have:=(oF i_ (by omega)).1;have:=hV.pl;omega) (by have:=(oF i_ (by omega)).1;have:=hV.pl;omega) ZT (Co hV Wj Is oF (by omega)) (qF Wj i_) (by have:=vL (J:=J) hV Wj Is oF (i:=i_+1) (by omega);omega)) ?_
  rintro _ Xi ⟨rfl,WG⟩
  refine ai 12 [.gen,.nw] [aU ((i_:Int)+1)] λ _=>?_
  refine X0 (i_+1,Xi) [0] [0] ?_
  try dsimp only
  exact⟨⟨by omega,by rw[kq (by rw[<- hw.len,hr.len];omega) []];exact WG⟩,by omega⟩
 ·refine ae 12 [] λ _=>RN.ret [] [] [0] (v:=vP r2 0) (H':=(ap [] [T_])) ?_
  obtain rfl:i_=n:=by omega
  exact⟨(r2,S3,T_),rfl,rfl,Wj,by rw[List.take_of_length_le (by rw[<- hw.len,hr.len];exact Nat.le_refl _)] at RI;exact RI⟩
theorem SetEq.val{S S':Setup}(h:SetEq S S')(rs:List Bx)(ds:List Dr):i0 S' rs ds=i0 S rs ds:=by
 obtain⟨e1,e2,e3,e4,e5,e6,e7,e8,e9,e10,e11,e12⟩:=h.nums
 have c1:(∀k,k<S'.nb -> kC (S'.body k).sh)↔(∀k,k<S.nb -> kC (S.body k).sh):=by
  rw[e2]
  refine forall_congr' λ k=>forall_congr' λ hk=>?_
  obtain⟨A,c,e⟩:=h.bod k hk
  rw[e];exact Iff.rfl
 have c2:sX S' rs ds↔sX S rs ds:=by unfold sX jz lE;rw[e1,e2,e3,e4,e5,e6,e7,e8,e9,e10,e11,e12]
 have c3:(∀k,k<S'.nb -> fv (S'.body k) S'.box)↔(∀k,k<S.nb -> fv (S.body k) S.box):=by
  rw[e2,e3]
  refine forall_congr' λ k=>forall_congr' λ hk=>?_
  obtain⟨A,c,e⟩:=h.bod k hk
  rw[e];exact Iff.rfl
 simp only[i0,c1,c2,c3]
theorem SetEq.trans2{S S1 S2:Setup}(h:SetEq S S1)(h2:SetEq S1 S2):SetEq S S2:=by
 obtain⟨e1,e2,e3,e4,e5,e6,e7,e8,e9,e10,e11,e12⟩:=h.nums
 obtain⟨f1,f2,f3,f4,f5,f6,f7,f8,f9,f10,f11,f12⟩:=h2.nums
 refine⟨⟨f1.trans e1,f2.trans e2,f3.trans e3,f4.trans e4,f5.trans e5,f6.trans e6,f7.trans e7,f8.trans e8,f9.trans e9,f10.trans e10,f11.trans e11,f12.trans e12⟩,λ k hk=>?_,h2.whole.1,by rw[h2.whole.2];exact e2⟩
 obtain⟨A,c,e⟩:=h.bod k hk
 obtain⟨A2,c2,e2'⟩:=h2.bod k (by rw[e2];exact hk)
 exact⟨A2,c2,by rw[e2',e];rfl⟩
theorem ms(cs:List Int)(M:MemS):∀i,(lj cs M i).base=M.base
 | 0=>rfl
 | i+1=>by
  rw[lj]
  split
  ·exact ms cs M i
  ·unfold MemS.set
   split
   ·exact ms cs M i
   ·exact ms cs M i
section
variable {S S1:Setup} {rs_:List Bx} {ds_:List Dr} {bp gb mb n cap k t:Nat} {M:MemS} {G0 F:HL}
theorem yv{q:Nat}{M1:MemS}(hG:GameX rs_ ds_ bp gb mb S1 M (k+n) G0)(hq:(q,.rows 1 M1.cs.length (aN M1.cs) 3 (0,0))∈F)(hn:M1.cs.length=n)(hl:M.cs.length=n)(TC:48 <= n)(hT:TE2 S1 (t:Int) M1)(ht:t <= 6000) :
  Sp Tryz.prog 35 #[vP gb 0,vS q 0 M1.cs.length cap] (ap [] [G0]) F (λ u H'=>∃x:MemS × HL,H'=ap [] [x.2] /\ (u=vI 0 /\ x.1.cs=M1.cs /\ x.1.base=M.base /\ GameX rs_ ds_ bp gb mb S1 x.1 k x.2)):=by
 have hg:∀i:Nat,i<n -> M1.get (i:Int)=M1.cs.getD i 0:=λ i hi=>by
  unfold MemS.get
  rw[if_pos (by omega),Int.toNat_natCast]
 have hz:∀i:Nat,1 <= i -> i <= 10 -> M1.cs.getD i 0=0:=λ i ha hb=>by rw[<- hg i (by omega)];exact hT.z _ (by omega) (by omega)
 have h0:M1.cs.getD 0 0=(t:Int):=by rw[<- hg 0 (by omega)];exact hT.t0
 have hb:fN M1.cs:=⟨⟨hz 1 (by omega) (by omega),hz 2 (by omega) (by omega),hz 3 (by omega) (by omega),hz 4 (by omega) (by omega),hz 5 (by omega) (by omega),hz 6 (by omega) (by omega),hz 7 (by omega) (by omega),hz 8 (by omega) (by omega),hz 9 (by omega) (by omega),hz 10 (by omega) (by omega)⟩,by omega,by omega⟩
 have hk:k+n=k+M1.cs.length:=by omega
 rw[hk] at hG
 cases hG with
 | mk T U hM hU =>
  rw[bD]
  refine(xm S1 bp gb mb M1.cs q M1.cs.length M1.cs.length cap M k T U F hM hq (Nat.le_refl _) (by omega)).mono λ u H' h=>?_
  obtain⟨x,rfl,h⟩:=h
  rcases h with ⟨_,h3,h4⟩|⟨h3,_⟩
  ·refine⟨(lj M1.cs M M1.cs.length,ap [(gb,.lit (d8 S1 bp mb) 140 (0,0))] [x,U]),(bD _).symm,h3,?_,ms _ _ _,.mk x U h4 hU⟩
   show (lj M1.cs M M1.cs.length).cs=M1.cs
   rw[Gz (by omega) (Nat.le_refl _),List.take_length]
  ·exact absurd ⟨by omega,hb⟩ h3
end
abbrev PD(x:Rw):Array Value:=#[.slice x.A x.n x.c]
def Ir(rl:List Rw)(f l:Nat):List Rw:=(List.range (l-f)).map λ i=>rl.getD (f+i) mP.dflt
theorem mt(rl:List Rw)(f l:Nat):(Ir rl f l).length=l-f:=by simp[Ir]
theorem Cp{rl:List Rw}{f l i:Nat}(h:i<l-f):(Ir rl f l)[i]?=some (rl.getD (f+i) mP.dflt):=by simp[Ir,h]
theorem pB{rl:List Rw}{f l i:Nat}{x:Rw}(e:(Ir rl f l)[i]?=some x):i<l-f /\ x=rl.getD (f+i) mP.dflt:=by
 have h1:i<l-f:=by have:=(List.getElem?_eq_some_iff.1 e).1;rwa [mt] at this
 rw[Cp h1] at e
 exact⟨h1,(Option.some.inj e).symm⟩
theorem Iu(S3:Setup)(bp ev S0 rp n rc cc f l q1 q2 q3 lp:Nat)(rA cA:Option Addr)(rl:List Rw)(cl:List Ck)(X F:HL)(J:Nat -> HL -> Prop)(Jx:HL -> Prop)(T0:HL)(SF:(q1,.lit [vI (f:Int)] 3 (0,0))∈F)(QY:(q2,.lit [vI (l:Int)] 3 (0,0))∈F)(SE:(q3,.lit [vP rp 0] 38 (0,0))∈F)(RP:(rp,.lit (Setup.l S3++[vP bp 0,vI (ev:Int),vP S0 0,.slice rA n rc,.slice cA cl.length cc]) 86 (0,0))∈F)(hr:RowL mP 54 F rA n rl)(Rt:f <= l /\ l <= n /\ n <= 1000000)(hY:∀i x H Y,(Ir rl f l)[i]?=some x -> J i H -> YL Tryz.prog lp (PD x) H (Y++(X++F)) (λ b H'=>(b=true /\ J (i+1) H') \/ (b=false /\ Jx H')))(Sx:J 0 T0):Sp Tryz.prog 69 #[.func (.yield lp) #[] #[],vP q1 0,vP q2 0,vP q3 0] (ap [] [T0]) (X++F) (λ _ H'=>J (Ir rl f l).length H' \/ Jx H'):=by
 refine Sp.run Tryz.func69 rfl (mc (List.mem_append_right _ SF) (mc (List.mem_append_right _ QY) (mc (List.mem_append_right _ SE) (mc (List.mem_append_right _ RP) mn)))) (A:=[]) (Ts:=[T0]) rfl λ w0=>?_
 refine ae 7 [.ro 0] λ _=>aB 5 (congrArg (λ v_=>(vI v_:Value)) (show (f:Int)=((f+0:Nat):Int) by omega))<|RN.loop (σ:=Nat × HL) (λ ⟨i,T_⟩=>⟨[(0,.func (.yield lp) #[] #[]),(2,vP q2 0),(3,vP q3 0),(5,vI ((f+i:Nat):Int))],[],[T_],i <= l-f /\ J i T_,l-f-i⟩) (0,T0) [] [0] (⟨Nat.zero_le _,Sx⟩) ?_
 rintro⟨i,T_⟩ ⟨WR,Q8⟩ Rx
 refine ae 8 [.ro 1] λ _=>RN.em (((f+i:Nat):Int)<(l:Int)) 9 (λ h3=>?_) λ h3=>?_
 ·refine ae 13 [.ro 2,.ro 3] λ _=>?_
  obtain⟨qx4,Wu,Nx4,fx4,fzx4,Xa,Yi,hox4,Yx⟩:=(hr.up (X:=X)).at (k:=(f+i)) (by omega)
  refine aB 16 (congrArg (λ v_=>(.slice v_ n rc:Value)) Xa)<|RN.ro (λ _=>(mc (List.mem_append_right _ SF) (mc (List.mem_append_right _ QY) (mc (List.mem_append_right _ SE) (mc (List.mem_append_right _ RP) (mc Yi mn))))))<|ai 2 [.ix (f+i),.rorow 4 (Wu+(f+i)) 0] [(Wu*1+(f+i)*1)=(Wu+(f+i))*1+0 /\ (Wu+(f+i))<Nx4,((f+i:Nat):Int)=(((f+i):Nat):Int) /\ (f+i)<n] λ _=>aB 19 (congrArg (λ v_=>(.slice v_.A v_.n v_.c:Value)) Yx)<|RN.yield 0 (hY i (rl.getD (f+i) mP.dflt) _ _ (Cp (by omega)) Q8) ?_
  rintro b_ T5 (⟨rfl,hJ6⟩|⟨rfl,hJ6⟩)
  ·refine ai 12 [.gen,.nw] [aU (((f+i:Nat):Int)+1)] λ _=>aB 5 (congrArg (λ v_=>(vI v_:Value)) (show ((f+i:Nat):Int)+1=((f+(i+1):Nat):Int) by omega)) ?_
   refine Rx (i+1,T5) [] [0] ?_
   try dsimp only
   exact⟨⟨by omega,hJ6⟩,by omega⟩
  ·refine ae 4 [] λ _=>RN.ret [] [] [0] (v:=.tuple #[]) (H':=(ap [] [T5])) ?_
   rw[bD]
   exact .inr hJ6
 ·refine ae 5 [] λ _=>RN.ret [] [] [0] (v:=.tuple #[]) (H':=(ap [] [T_])) ?_
  rw[bD]
  obtain rfl:i=l-f:=by omega
  exact .inl (by rw[mt];exact Q8)
theorem vM(S3:Setup)(bp ev S0 rp n rc cc f l q1 q2 q3:Nat)(rA cA:Option Addr)(rl:List Rw)(cl:List Ck)(F:HL)(SF:(q1,.lit [vI (f:Int)] 3 (0,0))∈F)(QY:(q2,.lit [vI (l:Int)] 3 (0,0))∈F)(SE:(q3,.lit [vP rp 0] 38 (0,0))∈F)(RP:(rp,.lit (Setup.l S3++[vP bp 0,vI (ev:Int),vP S0 0,.slice rA n rc,.slice cA cl.length cc]) 86 (0,0))∈F)(hr:RowL mP 54 F rA n rl)(Rt:f <= l /\ l <= n /\ n <= 1000000):It Tryz.prog 69 #[vP q1 0,vP q2 0,vP q3 0] F PD (Ir rl f l):=by
 intro X lp J Jx H0 hY h0
 have key:=Iu S3 bp ev S0 rp n rc cc f l q1 q2 q3 lp rA cA rl cl X F J Jx H0 SF QY SE RP hr Rt hY h0
 rw[bD] at key
 exact key
theorem si(f l:Int)(rp:Nat)(F:HL):Sp Tryz.prog 36 #[vP rp 0,vI f,vI l] (ap [] []) F (λ u H'=>∃m:Nat,H'=ap [((m+2),.lit [vI l] 3 (0,0)),((m+1),.lit [vI f] 3 (0,0)),((m+0),.lit [vP rp 0] 38 (0,0))] [] /\ u=.func (.func 69) #[] #[vP (m+1) 0,vP (m+2) 0,vP (m+0) 0]):=by
 refine Sp.run Tryz.func36 rfl mn (A:=[]) (Ts:=[]) rfl λ w0=>?_
 refine ae 14 [] λ n1=>RN.ret [] [0,1,2] [] (v:=.func (.func 69) #[] #[vP (n1+1) 0,vP (n1+2) 0,vP (n1+0) 0]) (H':=(ap [((n1+2),.lit [vI l] 3 (0,0)),((n1+1),.lit [vI f] 3 (0,0)),((n1+0),.lit [vP rp 0] 38 (0,0))] [])) ?_
 exact⟨_,rfl,rfl⟩
theorem Iv(S S3:Setup)(rs_:List Bx)(ds_:List Dr)(bp ev S0 rp n rc cc t:Nat)(J:Nat -> Nat × Int)(rA cA:Option Addr)(rl:List Rw)(cl:List Ck)(xss:List (List Inp))(F:HL)(RP:(rp,.lit (Setup.l S3++[vP bp 0,vI (ev:Int),vP S0 0,.slice rA n rc,.slice cA cl.length cc]) 86 (0,0))∈F)(Uw:SetEq S S3)(Zx:SetIn F S3)(hM:MapIn F S3 rs_ ds_)(hV:SetV S)(RY:S.rn <= 1000000)(R3:S.dn <= 1000000)(ID:48 <= sizeOf S /\ sizeOf S <= 1000)(hv:i0 S rs_ ds_=0)(hr:RowL mP 54 F rA n rl)(hw:RwsIn F rl xss)(hc:RowL yq 88 F cA cl.length cl)(hck:∀k,k<cl.length -> ∃q,cl.getD k yq.dflt=⟨some ⟨q,0,none⟩,(WS S J xss (k*ev)).length,(WS S J xss (k*ev)).length,ij (WS S J xss (k*ev))⟩ /\ (q,.rows 1 (WS S J xss (k*ev)).length (aN (WS S J xss (k*ev))) 3 (0,0))∈F)(hcl:cl.length=n / ev+1)(No:1 <= ev /\ ev <= 60)(hE:dh F)(Is:n <= 50)(oF:∀i,i<n -> fM S.players (xss.getD i []))(SY:∀i,i<n -> (J i).1<5 /\ AtOk F bp (i:Int) (J i))(ht:t <= n):Sp Tryz.prog 13 #[vP rp 0,vI (t:Int)] (ap [] []) F (λ u H'=>∃q:Nat,H'=ap [(q,.rows 1 (WS S J xss t).length (aN (WS S J xss t)) 3 (0,0))] [] /\ u=.tuple #[vS q 0 (WS S J xss t).length (WS S J xss t).length,vI ((t:Int) % (ev:Int)),vI 0]):=by
 have UC:(t:Int) % (ev:Int)=((t % ev:Nat):Int):=by first|rfl|norm_cast
 have hdm_:t / ev*ev+t % ev=t:=by rw[Nat.mul_comm];exact Nat.div_add_mod t ev
 have Ti:t / ev<cl.length:=by rw[hcl];exact Nat.lt_succ_of_le (Nat.div_le_div_right ht)
 have hq_:(t:Int) / (ev:Int)=((t / ev:Nat):Int):=by first|rfl|norm_cast
 obtain⟨d,hd⟩:∃d,t / ev=d:=⟨_,rfl⟩
 rw[hd] at hdm_ Ti hq_
 obtain⟨f,hf⟩:∃f,d*ev=f:=⟨_,rfl⟩
 rw[hf] at hdm_
 have ZZ:=vL (J:=J) hV (Ap S) Is oF (i:=f) (by omega)
 refine Sp.runM Tryz.func13 rfl (mc RP mn) (A:=[]) (Ts:=[]) rfl λ w0=>?_
 refine ae 13 [] λ n1=>RN.em ((t:Int)<0) 15 (λ h2=>?_) λ h2=>?_
 ·(exfalso;omega)
 ·refine ae 10 [.ro 0] λ _=>RN.em ((t:Int)>(n:Int)) 23 (λ h3=>?_) λ h3=>?_
  ·(exfalso;omega)
  ·refine ae 4 [] λ _=>RN.draw [13] []<|ag [] [0,4,1,5,2,6,3,7] [.ro 0,.ro 0,.ro 0,.ro 0,.ro 0,.ro 0,.ro 0,.ro 0,.ro 0,.ro 0,.ro 0,.ro 0,.ro 0,.ro 0,.ro 0,.ro 0,.ro 0]<|fQ 8 12 ?_ ?_
   ·refine RDO.ct [] (Hp:=[]) (Tp:=[]) [] [] (om S3 rs_ ds_ bp _ Zx.up.cl hM.up (by rw[Uw.nb];have:=hV.nb;omega) (by rw[Uw.nums.2.2.2.1];exact RY) (by rw[Uw.nums.2.2.2.2.1];exact R3) (by rw[Uw.size];omega) (by rw[Uw.val];exact hv) 99100000 (by decide)) ?_
    rintro _ ⟨g4,S5,T6⟩ ⟨rfl,he7,hG8⟩
    dsimp only at he7 hG8
    obtain⟨X3,Xs⟩:=hG8.x
    have SJ:=Uw.trans2 he7
    refine ag [] [9,10,11] []<|RD.one 12 (RDO.ev [] [] λ n9=>?_)
    refine RD.one 13 (RDO.ev [] [.own 0] λ _=>?_)
    refine ag [] [14] []<|RD.fin<|ae 13 [] λ _=>RN.draw [14] []<|aG [] [0,1,5,6,2,7,3,8,4,9,10] [.own 0,.ro 0,.ro 0,.nw] [0 <= (t:Int) /\ (0:Int)<(ev:Int) /\ (t:Int) <= 9223372036854775807] ?_
    obtain⟨qx10,SB,Zh,fx10,fzx10,V3,Up,hox10,Vu⟩:=hc.at (k:=d) Ti
    refine ja 43 (congrArg (λ v_=>(.slice v_ cl.length cc:Value)) V3)<|RD.ro (λ _=>(mc RP (mc Up mn)))<|qP [] [11,12,13] [.ix d,.rorow 1 (SB+d) 0] [(SB*2+d*2)=(SB+d)*2+0 /\ (SB+d)<Zh,(t:Int) / (ev:Int)=((d:Nat):Int) /\ d<cl.length] (ac ⟨by omega,by omega⟩ (ac ⟨hq_,Ti⟩ an))<|ja 52 (congrArg (λ v_=>(.slice v_.A v_.n v_.c:Value)) Vu) ?_
    obtain⟨qk,Xe,WH⟩:=hck d Ti
    rw[hf] at Xe WH
    refine ja 52 (congrArg (λ v_:Ck=>Value.slice v_.A v_.n v_.c) Xe)<|RD.ro (λ _=>(mc RP (mc Up (mc WH mn))))<|RD.one 14 (RDO.ct [] [] [0] (yv (cap:=(WS S J xss f).length) (k:=99020000) (n:=(sizeOf S).toNat) (q:=qk) (t:=f) (M1:=(⟨(WS S J xss f),[],0⟩:MemS)) (Xs.weak (by omega)) (aq WH) (by show (WS S J xss f).length=_;omega) (by show (eS S3 S3.nb).length=_;rw[gL,Uw.size]) (by omega) (sg hV SJ Is oF (by omega)) (by omega)) ?_)
    rintro _ ⟨M11,Xi⟩ ⟨rfl,he13,YO,hG15⟩
    dsimp only at he13 YO hG15
    refine ag [] [15] []<|RD.fin<|ai 29 [.ro 0,.nw,.nw] [aU ((t:Int)-((t:Int) % (ev:Int))),0 <= (t:Int) /\ (0:Int)<(ev:Int) /\ (t:Int) <= 9223372036854775807] λ _=>aB 66 (congrArg (λ v_=>(vI v_:Value)) (show (t:Int)-(t:Int) % (ev:Int)=(f:Int) by rw[UC];omega))<|RN.ct (Hp:=[]) (Tp:=[]) [] [] (si (f:Int) (t:Int) rp _) ?_
    rintro _ m16 rfl
    refine ae 3 [] λ _=>RN.range (σ:=Nat × MemS × HL) (τ:=Nat × MemS × HL × Rw) (encs:=λ (x_:Rw)=>#[.slice x_.A x_.n x_.c]) (xs:=(Ir rl f t)) (enters_of Tryz.func69 (by kernel_rfl) rfl) (λ ⟨m_,N_,T_⟩=>([],[T_])) (λ i_ ⟨m_,N_,T_⟩=>m_=i_ /\ N_.cs=(⟨WS S J xss (f+m_),[],0⟩:MemS).cs /\ (0 <= N_.base /\ N_.base <= 1000000*(m_:Int)) /\ GameX rs_ ds_ bp g4 X3 S5 N_ 99020000 T_) (λ c_ ⟨m_,N_,T_⟩=>False) (λ ⟨m_,N_,T_,p_⟩=>⟨[(4,vP (n1+0) 0),(5,vP (n1+1) 0),(6,vP (n1+2) 0),(7,vP (n9+0) 0),(10,vI ((t:Int) % (ev:Int))),(11,.slice p_.A p_.n p_.c)],[],[T_],True,0⟩) (λ i_ x_ ⟨m_,N_,T_,p_⟩=>m_=i_ /\ p_=rl.getD (f+m_) mP.dflt /\ m_<t-f /\ N_.cs=(⟨WS S J xss (f+m_),[],0⟩:MemS).cs /\ (0 <= N_.base /\ N_.base <= 1000000*(m_:Int)) /\ GameX rs_ ds_ bp g4 X3 S5 N_ 99020000 T_) (0,M11,Xi) (⟨rfl,he13,⟨by rw[YO];exact Int.le_refl 0,by rw[YO];exact Int.le_refl 0⟩,hG15⟩) [] [0] (vM S3 bp ev S0 rp n rc cc f t (m16+1) (m16+2) (m16+0) rA cA rl cl _ (az 1) (az 0) (az 2) (aq RP) hr.up ⟨by omega,ht,by omega⟩) ?_ ?_ ?_ ?_
    ·rintro l_ i_ x_ ⟨m_,N_,T_⟩ Y17 w18 ZW ⟨rfl,Rh,Wl,Tw⟩ mt20
     refine ae 3 [] λ _=>?_
     refine mt20 (m_,N_,T_,x_) [] [0] ?_
     try dsimp only
     exact⟨rfl,(pB ZW).2,(pB ZW).1,Rh,Wl,Tw⟩
    ·rintro l_ i_ x_ ⟨m_,N_,T_,p_⟩ Y21 w22 hx23 ⟨rfl,hp_,hlt_,Rh,Wl,Tw⟩
     obtain⟨bk,ok,Nk,fk,ck,UN,hIk,Zo,Zm,Us⟩:=hw.get (k:=f+m_) (by rw[hr.len];omega)
     refine aB 11 (congrArg (λ v_:Rw=>Value.slice v_.A v_.n v_.c) (hp_.trans UN))<|ae 5 [.ro 3] λ _=>RN.ct [] [0] (pA (c:=ck) (j:=J (f+m_)) Tw (by omega) (SY (f+m_) (by omega)).1 (by rw[sc Rh,(sg hV SJ Is oF (i:=f+m_) (by omega)).t0];exact(SY (f+m_) (by omega)).2.mono λ x hx=>aq (List.mem_append_right Y21 (List.mem_append_right _ hx))) (aq (List.mem_append_right Y21 (List.mem_append_right _ hE))) (aq (List.mem_append_right Y21 (List.mem_append_right _ hIk))) Zo (by have h_:=(oF (f+m_) (by omega)).1;have Rj:=hV.pl;omega) Zm ((Co hV SJ Is oF (by omega)).cs Rh.symm)) ?_
     rintro _ ⟨M24,XV⟩ ⟨rfl,hG26,he27,hb28⟩
     dsimp only at hG26 he27 hb28
     refine ae 12 [] λ _=>RN.rn (m_+1,M24,XV) [] [0] ?_
     try dsimp only
     exact⟨rfl,he27.trans ((rd _ Rh).trans (qF SJ (f+m_)).symm),⟨hb28.1,by omega⟩,hG26⟩
    ·rintro d29 ⟨m_,N_,T_⟩  ⟨rfl,Rh,Wl,Tw⟩
     refine ae 5 [.own 4] λ _=>RN.cp (Cn Tw (ar 0))<|RN.ct (Hp:=[]) (Tp:=[]) [] [] (An Tw (ar 0)) ?_
     rintro _ q30 rfl
     refine ae 6 [.own 8,.own 7,.own 6] λ _=>RN.retM [d29] [1] [.own 7,.own 6,.own 5] [0] [] (v:=.tuple #[vS q30 0 N_.cs.length N_.cs.length,vI ((t:Int) % (ev:Int)),vI 0]) (H':=(ap [(q30,.rows 1 N_.cs.length (aN N_.cs) 3 (0,0))] [])) ?_
     have Vz:N_.cs=WS S J xss t:=by rw[Rh,mt,show f+(t-f)=t by omega]
     exact⟨q30,by rw[Vz],by rw[Vz]⟩
    ·exact λ _ _ _ h=>h.elim
   ·refine RDO.ev [] [] λ n31=>RD.one 8 (RDO.ct [] (Hp:=[]) (Tp:=[]) [] [] (om S3 rs_ ds_ bp _ Zx.up.cl hM.up (by rw[Uw.nb];have:=hV.nb;omega) (by rw[Uw.nums.2.2.2.1];exact RY) (by rw[Uw.nums.2.2.2.2.1];exact R3) (by rw[Uw.size];omega) (by rw[Uw.val];exact hv) 99100000 (by decide)) ?_)
    rintro _ ⟨g32,S33,XS⟩ ⟨rfl,he35,hG36⟩
    dsimp only at he35 hG36
    obtain⟨X3,Xs⟩:=hG36.x
    have SJ:=Uw.trans2 he35
    refine ag [] [9,10,11] []<|RD.one 13 (RDO.ev [] [.own 0] λ _=>?_)
    refine ag [] [14] []<|RD.fin<|ae 13 [] λ _=>RN.draw [14] []<|aG [] [0,1,5,6,2,7,3,8,4,9,10] [.own 0,.ro 0,.ro 0,.nw] [0 <= (t:Int) /\ (0:Int)<(ev:Int) /\ (t:Int) <= 9223372036854775807] ?_
    obtain⟨qx37,Wv,Nx37,fx37,fzx37,hAx37,Xz,hox37,hgx37⟩:=hc.at (k:=d) Ti
    refine ja 43 (congrArg (λ v_=>(.slice v_ cl.length cc:Value)) hAx37)<|RD.ro (λ _=>(mc RP (mc Xz mn)))<|qP [] [11,12,13] [.ix d,.rorow 1 (Wv+d) 0] [(Wv*2+d*2)=(Wv+d)*2+0 /\ (Wv+d)<Nx37,(t:Int) / (ev:Int)=((d:Nat):Int) /\ d<cl.length] (ac ⟨by omega,by omega⟩ (ac ⟨hq_,Ti⟩ an))<|ja 52 (congrArg (λ v_=>(.slice v_.A v_.n v_.c:Value)) hgx37) ?_
    obtain⟨qk,Xe,WH⟩:=hck d Ti
    rw[hf] at Xe WH
    refine ja 52 (congrArg (λ v_:Ck=>Value.slice v_.A v_.n v_.c) Xe)<|RD.ro (λ _=>(mc RP (mc Xz (mc WH mn))))<|RD.one 14 (RDO.ct [] [] [0] (yv (cap:=(WS S J xss f).length) (k:=99020000) (n:=(sizeOf S).toNat) (q:=qk) (t:=f) (M1:=(⟨(WS S J xss f),[],0⟩:MemS)) (Xs.weak (by omega)) (aq WH) (by show (WS S J xss f).length=_;omega) (by show (eS S3 S3.nb).length=_;rw[gL,Uw.size]) (by omega) (sg hV SJ Is oF (by omega)) (by omega)) ?_)
    rintro _ ⟨M38,V7⟩ ⟨rfl,he40,YM,hG42⟩
    dsimp only at he40 YM hG42
    refine ag [] [15] []<|RD.fin<|ai 29 [.ro 0,.nw,.nw] [aU ((t:Int)-((t:Int) % (ev:Int))),0 <= (t:Int) /\ (0:Int)<(ev:Int) /\ (t:Int) <= 9223372036854775807] λ _=>aB 66 (congrArg (λ v_=>(vI v_:Value)) (show (t:Int)-(t:Int) % (ev:Int)=(f:Int) by rw[UC];omega))<|RN.ct (Hp:=[]) (Tp:=[]) [] [] (si (f:Int) (t:Int) rp _) ?_
    rintro _ m43 rfl
    refine ae 3 [] λ _=>RN.range (σ:=Nat × MemS × HL) (τ:=Nat × MemS × HL × Rw) (encs:=λ (x_:Rw)=>#[.slice x_.A x_.n x_.c]) (xs:=(Ir rl f t)) (enters_of Tryz.func69 (by kernel_rfl) rfl) (λ ⟨m_,N_,T_⟩=>([],[T_])) (λ i_ ⟨m_,N_,T_⟩=>m_=i_ /\ N_.cs=(⟨WS S J xss (f+m_),[],0⟩:MemS).cs /\ (0 <= N_.base /\ N_.base <= 1000000*(m_:Int)) /\ GameX rs_ ds_ bp g32 X3 S33 N_ 99020000 T_) (λ c_ ⟨m_,N_,T_⟩=>False) (λ ⟨m_,N_,T_,p_⟩=>⟨[(4,vP (n1+0) 0),(5,vP (n1+1) 0),(6,vP (n1+2) 0),(7,vP (n31+0) 0),(10,vI ((t:Int) % (ev:Int))),(11,.slice p_.A p_.n p_.c)],[],[T_],True,0⟩) (λ i_ x_ ⟨m_,N_,T_,p_⟩=>m_=i_ /\ p_=rl.getD (f+m_) mP.dflt /\ m_<t-f /\ N_.cs=(⟨WS S J xss (f+m_),[],0⟩:MemS).cs /\ (0 <= N_.base /\ N_.base <= 1000000*(m_:Int)) /\ GameX rs_ ds_ bp g32 X3 S33 N_ 99020000 T_) (0,M38,V7) (⟨rfl,he40,⟨by rw[YM];exact Int.le_refl 0,by rw[YM];exact Int.le_refl 0⟩,hG42⟩) [] [0] (vM S3 bp ev S0 rp n rc cc f t (m43+1) (m43+2) (m43+0) rA cA rl cl _ (az 1) (az 0) (az 2) (aq RP) hr.up ⟨by omega,ht,by omega⟩) ?_ ?_ ?_ ?_
    ·rintro l_ i_ x_ ⟨m_,N_,T_⟩ Y44 w45 ZV ⟨rfl,Rh,Wl,Tw⟩ X2
     refine ae 3 [] λ _=>?_
     refine X2 (m_,N_,T_,x_) [] [0] ?_
     try dsimp only
     exact⟨rfl,(pB ZV).2,(pB ZV).1,Rh,Wl,Tw⟩
    ·rintro l_ i_ x_ ⟨m_,N_,T_,p_⟩ Y48 w49 hx50 ⟨rfl,hp_,hlt_,Rh,Wl,Tw⟩
     obtain⟨bk,ok,Nk,fk,ck,UN,hIk,Zo,Zm,Us⟩:=hw.get (k:=f+m_) (by rw[hr.len];omega)
     refine aB 11 (congrArg (λ v_:Rw=>Value.slice v_.A v_.n v_.c) (hp_.trans UN))<|ae 5 [.ro 3] λ _=>RN.ct [] [0] (pA (c:=ck) (j:=J (f+m_)) Tw (by omega) (SY (f+m_) (by omega)).1 (by rw[sc Rh,(sg hV SJ Is oF (i:=f+m_) (by omega)).t0];exact(SY (f+m_) (by omega)).2.mono λ x hx=>aq (List.mem_append_right Y48 (List.mem_append_right _ hx))) (aq (List.mem_append_right Y48 (List.mem_append_right _ hE))) (aq (List.mem_append_right Y48 (List.mem_append_right _ hIk))) Zo (by have h_:=(oF (f+m_) (by omega)).1;have Rj:=hV.pl;omega) Zm ((Co hV SJ Is oF (by omega)).cs Rh.symm)) ?_
     rintro _ ⟨M51,Wp⟩ ⟨rfl,hG53,he54,hb55⟩
     dsimp only at hG53 he54 hb55
     refine ae 12 [] λ _=>RN.rn (m_+1,M51,Wp) [] [0] ?_
     try dsimp only
     exact⟨rfl,he54.trans ((rd _ Rh).trans (qF SJ (f+m_)).symm),⟨hb55.1,by omega⟩,hG53⟩
    ·rintro d56 ⟨m_,N_,T_⟩  ⟨rfl,Rh,Wl,Tw⟩
     refine ae 5 [.own 4] λ _=>RN.cp (Cn Tw (ar 0))<|RN.ct (Hp:=[]) (Tp:=[]) [] [] (An Tw (ar 0)) ?_
     rintro _ q57 rfl
     refine ae 6 [.own 8,.own 7,.own 6] λ _=>RN.retM [d56] [1] [.own 7,.own 6,.own 5] [0] [] (v:=.tuple #[vS q57 0 N_.cs.length N_.cs.length,vI ((t:Int) % (ev:Int)),vI 0]) (H':=(ap [(q57,.rows 1 N_.cs.length (aN N_.cs) 3 (0,0))] [])) ?_
     have Vz:N_.cs=WS S J xss t:=by rw[Rh,mt,show f+(t-f)=t by omega]
     exact⟨q57,by rw[Vz],by rw[Vz]⟩
    ·exact λ _ _ _ h=>h.elim
def kr:Enc Int:=⟨1,λ p k=>match k with|0=>.int .u64 p|_=>default,0⟩
noncomputable def L5:TypeInfo:=match Tryz.prog.info? 45 with | some i=>i | none=>⟨.bool,"",0,0,false,0,0,none,false,#[]⟩
noncomputable def L6:Value:=match L5.zero with|some z=>z|none=>.bool false
theorem Iw:EncOk kr Tryz.prog 45 L5 L6 where
 info:=by kernel_rfl
 zero:=by kernel_rfl
 size:=by kernel_rfl
 zsize:=by kernel_rfl
 zcell:=λ k hk=>by
  have h:∀k<1,L6.cells[k]?=some (kr.cell kr.dflt k):=by intro k hk;(iterate 1 (rcases k with _|k;· kernel_rfl));omega
  exact h k hk
 one:=λ x k=>by unfold kr;dsimp only;split <;> rfl
 bytes:=Nat.le_of_ble_eq_true (by kernel_rfl)
theorem Iy(h:Nat):il [.int .u64 0]=aJ kr (List.replicate h 0):=by
 have e:=jZ (e:=kr) ([]:List Int) h
 rw[List.nil_append] at e
 rw[show List.replicate h (0:Int)=List.replicate h kr.dflt from rfl,e]
 funext i k
 cases k with
 | zero=>rfl
 | succ k=>simp[il,aJ,kr]
theorem Eg{h:Nat}{b:Nat}{T:TypeId}:SlIs kr T [] (some ⟨b,0,none⟩) h [(b,.rows 1 h (aJ kr (List.replicate h 0)) T (0,0))]:=.inr ⟨b,0,List.replicate h 0,by simp,by rw[Nat.zero_add];rfl,by simp,Nat.zero_le _,by simp⟩
theorem Iz(S3:Setup)(bp ev S0 rp n rc cc:Nat)(rA cA:Option Addr)(cl:List Ck)(F:HL)(RP:(rp,.lit (Setup.l S3++[vP bp 0,vI (ev:Int),vP S0 0,.slice rA n rc,.slice cA cl.length cc]) 86 (0,0))∈F):Sp Tryz.prog 23 #[vP rp 0] [] F (λ u H'=>u=vI (n:Int) /\ H'=[]):=by
 refine Sp.run Tryz.func23 rfl (mc RP mn) (A:=[]) (Ts:=[]) rfl λ w0=>?_
 refine ae 15 [.ro 0] λ _=>?_
 exact RN.ret [] [] [] ⟨rfl,rfl⟩
def av(W:Nat -> List Int)(ev m:Nat):List Int:=(List.range m).map λ k=>ij (W (k*ev))
theorem da(W:Nat -> List Int)(ev m:Nat):(av W ev m).length=m:=by simp[av]
theorem yw(W:Nat -> List Int)(ev m:Nat):av W ev (m+1)=av W ev m++[ij (W (m*ev))]:=by simp[av,List.range_succ]
theorem Aq(S3:Setup)(bp ev S0 rp n rc cc:Nat)(rA cA:Option Addr)(cl:List Ck)(W:Nat -> List Int)(F:HL)(RP:(rp,.lit (Setup.l S3++[vP bp 0,vI (ev:Int),vP S0 0,.slice rA n rc,.slice cA cl.length cc]) 86 (0,0))∈F)(hc:RowL yq 88 F cA cl.length cl)(hck:∀k,k<cl.length -> ∃q,cl.getD k yq.dflt=⟨some ⟨q,0,none⟩,(W (k*ev)).length,(W (k*ev)).length,ij (W (k*ev))⟩ /\ (q,.rows 1 (W (k*ev)).length (aN (W (k*ev))) 3 (0,0))∈F)(hcl:cl.length <= 1000000):Sp Tryz.prog 12 #[vP rp 0] [] F (λ u H'=>∃x:Option Addr × Nat × HL,H'=ap [] [x.2.2] /\ (u=.slice x.1 cl.length x.2.1 /\ SlIs kr 45 (av W ev cl.length) x.1 x.2.1 x.2.2)):=by
 refine Sp.run Tryz.func12 rfl (mc RP mn) (A:=[]) (Ts:=[]) rfl λ w0=>?_
 refine ai 28 [.ro 0,.mk 0 cl.length,.ro 0] [0=((0:Nat):Int) /\ (cl.length:Int)=((cl.length:Nat):Int) /\ 0 <= cl.length /\ 8*cl.length <= 140737488355328 /\ 1=1 /\ cl.length <= 9223372036854775807] λ n1=>cj 0 (congrArg (λ v_=>(.rows 1 cl.length v_ 45 (0,0):Blk)) (show (il [.int .u64 0])=(aJ kr (List.replicate cl.length 0)) from (Iy _)))<|ld 0<|RN.loop (σ:=Nat × Option Addr × Nat × HL) (λ ⟨k_,A_,c_,T_⟩=>⟨[(3,.slice A_ k_ c_),(15,.slice cA cl.length cc),(16,vI (cl.length:Int)),(17,vI (k_:Int))],[],[T_],k_ <= cl.length /\ SlIs kr 45 (av W ev k_) A_ c_ T_,cl.length-k_⟩) (0,some ⟨(n1+0),0,none⟩,cl.length,[((n1+0),.rows 1 cl.length (aJ kr (List.replicate cl.length 0)) 45 (0,0))]) [] [0] (⟨Nat.zero_le _,Eg⟩) ?_
 rintro⟨k_,A_,c_,T_⟩ ⟨TT,IS⟩ Ri
 refine ae 6 [] λ _=>RN.em ((k_:Int)<(cl.length:Int)) 18 (λ h4=>?_) λ h4=>?_
 ·refine ae 7 [] λ _=>?_
  obtain⟨qx5,AS,TH,fx5,Za,R_,TN,Yk,TU⟩:=hc.at (k:=k_) (by omega)
  refine aB 15 (congrArg (λ v_=>(.slice v_ cl.length cc:Value)) R_)<|RN.ro (λ _=>(mc RP (mc TN mn)))<|ai 2 [.ix k_,.rorow 1 (AS+k_) 0,.rorow 1 (AS+k_) 1] [((AS*2+k_*2)+1)=(AS+k_)*2+1 /\ (AS+k_)<TH,(AS*2+k_*2)=(AS+k_)*2+0 /\ (AS+k_)<TH,(k_:Int)=((k_:Nat):Int) /\ k_<cl.length] λ _=>aB 20 (congrArg (λ v_=>(.agg #[.slice v_.A v_.n v_.c,.int .u64 v_.r]:Value)) TU) ?_
  obtain⟨qk,Xe,WH⟩:=hck k_ (by omega)
  refine aB 20 (congrArg (λ v_:Ck=>(.agg #[.slice v_.A v_.n v_.c,.int .u64 v_.r]:Value)) Xe)<|ae 9 [.own 0,.own 0,.own 0] λ n6=>fR Iw (av W ev k_) [ij (W (k_*ev))] 0 0 (da W ev k_).symm IS (by rw[da,List.length_singleton];omega) ?_
  rintro A7 c8 T9 ⟨Vg,hz11⟩
  refine ai 8 [.nw] [aU ((k_:Int)+1)] λ _=>aB 15 (congrArg (λ v_=>(.slice v_ cl.length cc:Value)) R_.symm) ?_
  refine Ri (k_+1,A7,c8,T9) [] [0] ?_
  try dsimp only
  exact⟨⟨by omega,by rw[yw];exact Vg⟩,by omega⟩
 ·refine ae 12 [] λ _=>RN.ret [] [] [0] (v:=.slice A_ k_ c_) (H':=(ap [] [T_])) ?_
  obtain rfl:k_=cl.length:=by omega
  exact⟨(A_,c_,T_),rfl,rfl,IS⟩
section
variable {rs_:List Bx} {ds_:List Dr} {bp ev rp n:Nat} {S S2:Setup} {J:Nat -> Nat × Int} {W:Nat -> List Int} {pre xss:List (List Inp)} {G F:HL}
theorem PE(h:RecH rs_ ds_ bp ev rp S S2 W n pre G)(hF:∀x∈G,x∈F):Sp Tryz.prog 23 #[vP rp 0] [] F (λ u H'=>u=vI (n:Int) /\ H'=[]):=by
 cases h with
 | mk h3 hs hg hcs hb hr hrl hrr hc hcl hck=>exact Iz _ _ _ _ _ _ _ _ _ _ _ _ (hF _ (List.mem_append_left _ (List.mem_singleton.2 rfl)))
theorem Cq(h:RecH rs_ ds_ bp ev rp S S2 W n pre G)(hF:∀x∈G,x∈F)(hn:n <= 1000):Sp Tryz.prog 12 #[vP rp 0] (ap [] []) F (λ u H'=>∃x:Option Addr × Nat × HL,H'=ap [] [x.2.2] /\ (u=.slice x.1 (n / ev+1) x.2.1 /\ SlIs kr 45 (av W ev (n / ev+1)) x.1 x.2.1 x.2.2)):=by
 cases h with
 | mk h3 hs hg hcs hb hr hrl hrr hc hcl hck =>
  have hd:n / ev <= n:=Nat.div_le_self _ _
  have key:=Aq _ _ _ _ _ _ _ _ _ _ _ W F (hF _ (List.mem_append_left _ (List.mem_singleton.2 rfl))) (hc.toRowL λ x hx=>hF x (by simp[ap,hx])) (hck F λ x hx=>hF x (by simp[ap,hx])) (by omega)
  rw[hcl] at key
  exact key
theorem PF(h:RecH rs_ ds_ bp ev rp S S2 (WS S J xss) n xss G)(hF:∀x∈G,x∈F)(hV:SetV S)(RY:S.rn <= 1000000)(R3:S.dn <= 1000000)(ID:48 <= sizeOf S /\ sizeOf S <= 1000)(hv:i0 S rs_ ds_=0)(No:1 <= ev /\ ev <= 60)(hE:dh F)(Is:n <= 50)(oF:∀i,i<n -> fM S.players (xss.getD i []))(SY:∀i,i<n -> (J i).1<5 /\ AtOk F bp (i:Int) (J i)){t:Nat}(ht:t <= n):Sp Tryz.prog 13 #[vP rp 0,vI (t:Int)] (ap [] []) F (λ u H'=>∃q:Nat,H'=ap [(q,.rows 1 (WS S J xss t).length (aN (WS S J xss t)) 3 (0,0))] [] /\ u=.tuple #[vS q 0 (WS S J xss t).length (WS S J xss t).length,vI ((t:Int) % (ev:Int)),vI 0]):=by
 cases h with
 | mk h3 hs hg hcs hb hr hrl hrr hc hcl hck =>
  have h4:=hs F λ x hx=>hF x (by simp[ap,hx])
  have h5:=hr.toRowL (F:=F) λ x hx=>hF x (by simp[ap,hx])
  rw[hrl] at h5
  exact Iv S _ rs_ ds_ bp ev _ rp n _ _ t J _ _ _ _ xss F (hF _ (List.mem_append_left _ (List.mem_singleton.2 rfl))) h3 h4.1 h4.2 hV RY R3 ID hv h5 (hrr F λ x hx=>hF x (by simp[ap,hx])) (hc.toRowL λ x hx=>hF x (by simp[ap,hx])) (hck F λ x hx=>hF x (by simp[ap,hx])) hcl No hE Is oF SY ht
end
theorem IA(x:Int):ol (i64.wrap x):=by
 unfold ol
 rw[IntKind.wrap_i64]
 omega
theorem sj(n:Int)(F:HL)(hn:ol n)(hE:pV F):Sp Tryz.prog 8 #[vI n] (ap [] []) F (λ u H'=>∃x:Nat × HL,H'=ap [] [x.2] /\ (u=vP x.1 0 /\ Book2 4 (au n 5).toNat (au (i64.wrap (n+1)) 5).toNat x.1 x.2)):=by
 refine Sp.run Tryz.func8 rfl mn (A:=[]) (Ts:=[]) rfl λ w0=>?_
 refine ae 8 [] λ _=>RN.cp (sa n _ hn) ?_
 have hA1:=cq (n:=n) hn 5 (by decide)
 refine RN.ct (Hp:=[]) (Tp:=[]) [] [] (HI (au n 5).toNat _ (by omega) (aq hE)) ?_
 rintro _ ⟨b2,T3⟩ ⟨rfl,W_⟩
 dsimp only at W_
 refine ae 27 [] λ _=>RN.cp (sa (i64.wrap (n+1)) _ (IA _)) ?_
 have hA5:=cq (n:=i64.wrap (n+1)) (IA _) 5 (by decide)
 refine RN.ct [] [0] (K5 W_ 4 (by decide) (au (i64.wrap (n+1)) 5).toNat _ (by omega) (aq hE)) ?_
 rintro _ T6 ⟨rfl,hB7⟩
 refine ae 12 [] λ _=>RN.ret [] [] [0] (v:=vP b2 0) (H':=(ap [] [T6])) ?_
 exact⟨(b2,T6),rfl,rfl,hB7⟩
theorem Eh(S:Setup)(A:Option Addr)(n cap:Nat)(xs:List Int)(t:Int)(F:HL)(hl:ArgL F A n xs)(hn:n <= 9223372036854775807)(hp:0 <= S.players /\ S.players <= 1000000)(ht:0 <= t /\ t <= 1000000):Sp Tryz.prog 29 #[Setup.v S,.slice A n cap,vI t] (ap [] []) F (λ u H'=>∃x:Option Addr × Nat × HL,H'=ap [] [x.2.2] /\ (u=.slice x.1 S.players.toNat x.2.1 /\ SlIs eE 119 (rowL S.players xs (t / 2) S.players.toNat) x.1 x.2.1 x.2.2 /\ cu x.1)):=by
 refine Sp.run Tryz.func29 rfl mn (A:=[]) (Ts:=[]) rfl λ w0=>?_
 refine ai 12 (ow 0 16++[.nw]) [0 <= t /\ (0:Int)<2 /\ t <= 9223372036854775807] λ n1=>RN.ct (Hp:=[]) (Tp:=[]) [] [] (J7 S A n cap xs (t / 2) _ hl.up hn (by omega) (by omega)) ?_
 rintro _ ⟨A2,c3,T4⟩ ⟨rfl,Sd,hz6⟩
 dsimp only at Sd hz6
 refine ae 3 [] λ _=>RN.ret [] [] [0] (v:=.slice A2 S.players.toNat c3) (H':=(ap [] [T4])) ?_
 exact⟨(A2,c3,T4),rfl,rfl,Sd,hz6⟩
def aP(pl:Int)(xs:List Int)(n:Nat):List (List Inp):=(List.range n).map λ t:Nat=>rowL pl xs ((t:Int) / 2) pl.toNat
theorem yx(pl:Int)(xs:List Int)(n:Nat):aP pl xs (n+1)=aP pl xs n++[rowL pl xs ((n:Int) / 2) pl.toNat]:=by simp[aP,List.range_succ]
theorem nD(pl:Int)(xs:List Int)(n:Nat):(aP pl xs n).length=n:=by simp[aP]
theorem Ar{pl:Int}{xs:List Int}{n k:Nat}(h:k<n):(aP pl xs n).getD k []=rowL pl xs ((k:Int) / 2) pl.toNat:=by simp[aP,h]
theorem Au{F:HL}{A:Option Addr}{n:Nat}{xs:List Int}(hl:ArgL F A n xs){pl:Int}(hp:0 <= pl)(cnt i:Nat)(hi:i<cnt):fM pl ((aP pl xs cnt).getD i []):=by
 rw[Ar hi]
 exact K3 hl hp _
theorem Aw(S:Setup)(A:Option Addr)(n cap:Nat)(xs:List Int)(c:Int)(cnt:Nat)(F:HL)(hl:ArgL F A n xs)(hn:n <= 9223372036854775807)(hp:1 <= S.players /\ S.players <= 1000000)(hc:au c 10=(cnt:Int))(h20:cnt <= 19):Sp Tryz.prog 9 #[Setup.v S,.slice A n cap,vI c] (ap [] []) F (λ u H'=>∃x:(Option Addr × Nat × List Rw) × HL × HL,H'=ap [] [x.2.1,x.2.2] /\ (u=.slice x.1.1 cnt x.1.2.1 /\ SlIs mP 54 x.1.2.2 x.1.1 x.1.2.1 x.2.1 /\ x.1.2.2.length=cnt /\ RwsT x.1.2.2 (aP S.players xs cnt) x.2.2)):=by
 refine Sp.run Tryz.func9 rfl mn (A:=[]) (Ts:=[]) rfl λ w0=>?_
 refine ae 18 [] λ n1=>RN.nt<|RN.nt<|RN.loop (σ:=Nat × Option Addr × Nat × List Rw × HL × HL) (λ ⟨t_,A_,c_,rs_,E_,T_⟩=>⟨[(1,.slice A n cap),(2,vI c),(3,vP (n1+0) 0),(7,.slice A_ t_ c_),(8,vI (t_:Int))],[((n1+0),.lit (Setup.l S) 31 (0,0))],[E_,T_],t_ <= cnt /\ t_ <= 20 /\ SlIs mP 54 rs_ A_ c_ E_ /\ rs_.length=t_ /\ RwsT rs_ (aP S.players xs t_) T_,20-t_⟩) (0,none,0,[],[],[]) [0] [0,1] (⟨Nat.zero_le _,Nat.zero_le _,SlIs.nil _ _,rfl,RwsT.nil⟩) ?_
 rintro⟨t_,A_,c_,rs_,E_,T_⟩ ⟨ht_,h20_,IS,Q3,SW⟩ Ri
 refine ae 5 [] λ _=>RN.cp (yp hc (by decide) _)<|ae 3 [] λ _=>RN.em ((t_:Int)<(cnt:Int)) 12 (λ h4=>?_) λ h4=>?_
 ·refine ae 10 (ow 0 16) λ _=>RN.ct (Hp:=[]) (Tp:=[]) [] [] (Eh S A n cap xs (t_:Int) _ hl.up hn (by omega) (by omega)) ?_
  rintro _ ⟨A5,c6,T7⟩ ⟨rfl,hs8,hz9⟩
  dsimp only at hs8 hz9
  refine ae 1 [] λ Sg=>fR Ce rs_ [(⟨A5,S.players.toNat,c6⟩:Rw)] 1 0 Q3.symm IS (by simp;omega) ?_
  rintro Xj Xf To ⟨Ta,WA⟩
  refine ai 9 [.nw] [aU ((t_:Int)+1)] λ _=>kV [2,1,0]<|mE ?_
  refine Ri (t_+1,Xj,Xf,rs_++[(⟨A5,S.players.toNat,c6⟩:Rw)],To,T_++T7) [1] [1,0] ?_
  try dsimp only
  refine⟨⟨by omega,by omega,Ta,by simp;omega,?_⟩,by omega⟩
  rw[yx]
  exact SW.snoc hs8 (by rw[fA];omega) (fA _ _ _ _).symm
 ·refine ae 12 [] λ _=>RN.ret [] [] [0,1] (v:=.slice A_ t_ c_) (H':=(ap [] [E_,T_])) ?_
  obtain rfl:t_=cnt:=by omega
  exact⟨((A_,c_,rs_),E_,T_),rfl,rfl,IS,Q3,SW⟩
def mR(b:Nat):Setup:=⟨1,b,0,1,1,1,[⟨⟨5,[],none,0⟩,⟨0,0,0,0,0⟩,0,0⟩],⟨0,0,0,0⟩,none,0,0,none,0,0,0,⟨0,0⟩,0,0,0,1,0⟩
theorem yz(b:Nat):i0 (mR b) [] []=0:=by kernel_rfl
theorem Ay(b:Nat):SetV (mR b):=⟨⟨show (1:Int) <= 1 by decide,show (1:Int) <= 3 by decide⟩,⟨show 1 <= 1 by decide,show 1 <= 5 by decide⟩,⟨show (1:Int) <= 1 by decide,show (1:Int) <= 3 by decide⟩,⟨show (0:Int) <= 0 by decide,show (0:Int) <= 60 by decide⟩⟩
theorem K9{b:Nat}{F:HL}(hb:(b,.rows 9 1 (jJ (mR b).bods) 78 (0,0))∈F):SetCl F (mR b):=⟨⟨⟨show (0:Int) <= 1 by decide,show (1:Int) <= 1000000 by decide⟩,show 1 <= 1000000 by decide⟩,hb,show 0+1 <= 1 by decide,λ k hk=>by
 obtain rfl:k=0:=by have:k<1:=hk;omega
 exact⟨⟨.zero _,Nat.zero_le _⟩,.inl rfl⟩⟩
theorem IB(b:Nat)(F:HL):MapIn F (mR b) [] []:=⟨.zero _,.zero _⟩
theorem Ei(b:Nat):sizeOf (mR b)=60:=rfl
abbrev pW(n:Nat):List (List Inp):=List.replicate n [⟨0,0,0⟩]
theorem Ej{n i:Nat}(h:i<n):(pW n).getD i []=[⟨0,0,0⟩]:=by simp[pW,List.getD_eq_getElem?_getD,h]
theorem sk{n i:Nat}(h:i<n):fM 1 ((pW n).getD i []):=by
 rw[Ej h]
 refine⟨rfl,λ k hk=>?_⟩
 obtain rfl:k=0:=by have:k<1:=hk;omega
 decide
theorem NI{e:Int}(S:Setup)(rs_:List Bx)(ds_:List Dr)(bp ev n cap:Nat)(J:Nat -> Nat × Int)(A:Option Addr)(rs:List Rw)(xss:List (List Inp))(F:HL)(hS:SetCl F S)(hM:MapIn F S rs_ ds_)(hV:SetV S)(h1:1 <= S.nb)(RY:S.rn <= 1000000)(R3:S.dn <= 1000000)(ID:(sizeOf S).toNat <= 1000000)(hv:i0 S rs_ ds_=0)(No:1 <= ev /\ ev <= 60)(hE:dh F)(hr:RowL mP 54 F A n rs)(hw:RwsIn F rs xss)(Is:n <= 50)(oF:∀i,i<n -> fM S.players (xss.getD i []))(SY:∀i,i<n -> (J i).1<5 /\ AtOk F bp (i:Int) (J i))(he:e=(ev:Int)):Sp Tryz.prog 11 #[Setup.v S,vP bp 0,vI e,.slice A n cap] (ap [] []) F (λ u H'=>∃x:Nat × Setup × HL,H'=ap [] [x.2.2] /\ (u=vP x.1 0 /\ SetEq S x.2.1 /\ RecH rs_ ds_ bp ev x.1 S x.2.1 (WS S J xss) n xss x.2.2)):=by
 subst he
 exact yu S rs_ ds_ bp ev n cap J A rs xss F hS hM hV h1 RY R3 ID hv No hE hr hw Is oF SY
theorem IC(F:HL):Sp Tryz.prog 48 #[] (ap [] []) F (λ u H'=>∃b:Nat,H'=ap [(b,.lit [vI 5,.slice none 0 0,vI 0,vI 0,vI 0,vI 0,vI 0,vI 0,vI 0] 78 (0,0))] [] /\ u=Setup.v (mR b)):=by
 refine Sp.run Tryz.func48 rfl mn (A:=[]) (Ts:=[]) rfl λ w0=>?_
 refine ae 14 (ow 1 16) λ n1=>RN.ret (ow 1 16) [0] [] (v:=.agg #[vI 1,vS (n1+1) 0 1 1,vI 0,vI 0,vI 0,vI 0,.slice none 0 0,.slice none 0 0,vI 0,vI 0,vI 0,vI 0,vI 0,vI 0,vI 1,vI 0]) (H':=(ap [((n1+1),.lit [vI 5,.slice none 0 0,vI 0,vI 0,vI 0,vI 0,vI 0,vI 0,vI 0] 78 (0,0))] [])) ?_
 exact⟨_,rfl,rfl⟩
theorem jD(F:HL)(YZ:pV F)(W9:dh F):Sp Tryz.prog 20 #[] [] F (λ u H'=>u=.bool true /\ H'=[]):=by
 refine Sp.run Tryz.func20 rfl mn (A:=[]) (Ts:=[]) rfl λ w0=>?_
 refine ae 17 [] λ _=>RN.nt<|RN.nt<|RN.loop (σ:=Nat × Option Addr × Nat × List Rw × HL × HL) (λ ⟨t_,A_,c_,rs_,E_,T_⟩=>⟨[(1,.slice A_ t_ c_),(2,vI (t_:Int))],[],[E_,T_],t_ <= 25 /\ SlIs mP 54 rs_ A_ c_ E_ /\ rs_.length=t_ /\ RwsT rs_ (pW t_) T_,25-t_⟩) (0,none,0,[],[],[]) [] [0,1] (⟨Nat.zero_le _,SlIs.nil _ _,rfl,RwsT.nil⟩) ?_
 rintro⟨t_,A_,c_,rs_,E_,T_⟩ ⟨ht_,IS,Q3,SW⟩ Rx
 refine ae 7 [] λ _=>RN.em ((t_:Int)<25) 8 (λ h3=>?_) λ h3=>?_
 ·refine ae 10 [] λ n4=>fR Ce rs_ [(⟨some ⟨(n4+0),0,none⟩,1,1⟩:Rw)] 0 0 Q3.symm IS (by simp;omega) ?_
  rintro A5 c6 T7 ⟨hs8,hz9⟩
  refine ai 9 [.nw] [aU ((t_:Int)+1)] λ _=>RN.dn 1 (.rows 3 1 (aJ eE [⟨0,0,0⟩]) 119 (0,0))<|ld 1<|kV [2,0,1]<|mE ?_
  refine Rx (t_+1,A5,c6,rs_++[(⟨some ⟨(n4+0),0,none⟩,1,1⟩:Rw)],T7,T_++[((n4+0),.rows 3 1 (aJ eE [⟨0,0,0⟩]) 119 (0,0))]) [] [1,0] ?_
  try dsimp only
  refine⟨⟨by omega,hs8,by simp;omega,?_⟩,by omega⟩
  rw[show pW (t_+1)=pW t_++[[⟨0,0,0⟩]] from List.replicate_succ']
  exact SW.snoc (SlIs.one (e:=eE) (x:=⟨0,0,0⟩) (b:=(n4+0))) (by decide) rfl
 ·obtain rfl:t_=25:=by omega
  refine ae 8 [] λ _=>RN.ct (Hp:=[]) (Tp:=[]) [] [] (IC _) ?_
  rintro _ b10 rfl
  refine RN.dn 0 (.rows 9 1 (jJ (mR b10).bods) 78 (0,0))<|RN.ct (Hp:=[]) (Tp:=[]) [] [] (sj 0 _ (by decide) (aq YZ)) ?_
  rintro _ ⟨b11,Xi⟩ ⟨rfl,V1⟩
  dsimp only at V1
  replace V1:Book2 4 (au 0 5).toNat (au 1 5).toNat b11 Xi:=V1
  refine ae 1 [] λ _=>RN.ct (Hp:=[]) (Tp:=[]) [] [] (yu (mR b10) [] [] b11 10 25 c_ (qE 4 (au 0 5).toNat (au 1 5).toNat 0) A_ rs_ (pW 25) _ (K9 (az 0)) (IB _ _) (Ay _) (show 1 <= 1 by decide) (show 0 <= 1000000 by decide) (show 0 <= 1000000 by decide) (show (60:Int).toNat <= 1000000 by decide) (yz _) (by decide) (aq W9) (IS.rowN (ar 1) Q3) (SW _ (ar 2)) (by decide) (λ i hi=>sk hi) (λ i hi=>Cm V1 (ar 0) (by decide) (by decide) (t:=0+i) (by omega))) ?_
  rintro _ ⟨r14,S15,TF⟩ ⟨rfl,YD,Sh⟩
  dsimp only at YD Sh
  refine ae 16 [] λ _=>RN.ct (Hp:=[]) (Tp:=[]) [] [] (PF (t:=25) Sh (ar 0) (Ay _) (show 0 <= 1000000 by decide) (show 0 <= 1000000 by decide) (by rw[Ei];decide) (yz _) (by decide) (aq W9) (by decide) (λ i hi=>sk hi) (λ i hi=>Cm V1 (ar 1) (by decide) (by decide) (t:=0+i) (by omega)) (Nat.le_refl _)) ?_
  rintro _ q19 rfl
  have ZZ:((WS (mR b10) (qE 4 (au 0 5).toNat (au 1 5).toNat 0) (pW 25) 25).length:Int)=60:=vL (J:=(qE 4 (au 0 5).toNat (au 1 5).toNat 0)) (Ay b10) (Ap _) (n:=25) (by decide) (λ i hi=>sk hi) (Nat.le_refl _)
  refine ae 12 [] λ _=>RN.ct (Hp:=[]) (Tp:=[]) [] [] (Cq Sh (ar 0) (n:=25) (by decide)) ?_
  rintro _ ⟨A20,ZD,Xh⟩ ⟨rfl,Yc⟩
  refine ae 11 [] λ _=>cH 40 (decide_eq_true (show ((25:Nat):Int) % ((10:Nat):Int)=5 by decide))<|ae 5 [] λ _=>cH 45 (decide_eq_true ZZ)<|ae 1 [] λ _=>RN.cp (PE Sh (ar 1))<|ae 5 [] λ _=>?_
  exact RN.ret [] [] [] ⟨rfl,rfl⟩
def gS:Enc Int:=⟨1,λ p k=>match k with|0=>.int .u8 p|_=>default,0⟩
noncomputable def PG:TypeInfo:=match Tryz.prog.info? 5 with | some i=>i | none=>⟨.bool,"",0,0,false,0,0,none,false,#[]⟩
noncomputable def PH:Value:=match PG.zero with|some z=>z|none=>.bool false
theorem Cr:EncOk gS Tryz.prog 5 PG PH where
 info:=by kernel_rfl
 zero:=by kernel_rfl
 size:=by kernel_rfl
 zsize:=by kernel_rfl
 zcell:=λ k hk=>by
  have h:∀k<1,PH.cells[k]?=some (gS.cell gS.dflt k):=by intro k hk;(iterate 1 (rcases k with _|k;· kernel_rfl));omega
  exact h k hk
 one:=λ x k=>by unfold gS;dsimp only;split <;> rfl
 bytes:=Nat.le_of_ble_eq_true (by kernel_rfl)
def sm(x:Inp):Int:=u8.wrap (i64.wrap (i64.wrap (i64.wrap (x.dx+1)+i64.wrap (3*i64.wrap (x.dy+1)))+i64.wrap (9*x.act)))
def lM(xs:List Inp):List Int:=xs.map sm
theorem jb(xs:List Inp):(lM xs).length=xs.length:=by simp[lM]
def jc(xs:List Inp)(k:Nat):List Int:=(lM xs).take k++List.replicate (xs.length-k) 0
theorem Ek{xs:List Inp}{k:Nat}(h:k <= xs.length):(jc xs k).length=xs.length:=by simp[jc,jb];omega
theorem Az(xs:List Inp):jc xs 0=List.replicate xs.length 0:=by simp[jc]
theorem El(xs:List Inp):jc xs xs.length=lM xs:=by simp[jc,<- jb]
theorem Em{xs:List Inp}{k:Nat}(h:k<xs.length):(jc xs k).set k (sm (xs.getD k dI))=jc xs (k+1):=by
 have hl:(lM xs).length=xs.length:=jb xs
 apply List.ext_getElem?
 intro i
 unfold jc
 rw[List.getElem?_set]
 by_cases e:k=i
 ·subst e
  rw[if_pos rfl,if_pos (by simp;omega),List.getElem?_append,if_pos (by simp;omega),List.getElem?_take,if_pos (by omega)]
  simp[lM,h,List.getD_eq_getElem?_getD]
 ·rw[if_neg e,List.getElem?_append,List.getElem?_append]
  by_cases h1:i<k
  ·rw[if_pos (by simp;omega),if_pos (by simp;omega),List.getElem?_take,List.getElem?_take,if_pos h1,if_pos (by omega)]
  ·rw[if_neg (by simp;omega),if_neg (by simp;omega)]
   simp only[List.getElem?_replicate,List.length_take]
   congr 1
   simp only[eq_iff_iff]
   omega
theorem L7{l:List Int}{i:Nat}(h:i<l.length)(v:Int):db (aJ gS l) i 0 (.int .u8 v)=aJ gS (l.set i v):=by
 funext i' k'
 unfold db aJ
 by_cases h1:i'=i
 ·subst h1
  rw[bF h]
  rcases k' with _|k'
  ·rw[if_pos ⟨rfl,rfl⟩];rfl
  ·rw[if_neg (by omega)]
   rcases k' with _|k' <;> rfl
 ·rw[if_neg (by simp[h1]),bj (λ e=>h1 e.symm)]
def fW(r:Int)(k:Nat):List Int:=(List.range k).map λ i=>u8.wrap (r.fdiv (2 ^ (8*i)))
theorem yA(r:Int)(k:Nat):fW r (k+1)=fW r k++[u8.wrap (r.fdiv (2 ^ (8*k)))]:=by simp[fW,List.range_succ]
theorem sn(r:Int)(k:Nat):(fW r k).length=k:=by simp[fW]
theorem IE{r:Int}{k:Nat}(h:k<8):u8.wrap (r.fdiv (2 ^ min (8*(k:Int)).toNat 64))=u8.wrap (r.fdiv (2 ^ (8*k))):=by rw[show min (8*(k:Int)).toNat 64=8*k by omega]
def cw(ev n:Nat)(xss:List (List Inp))(roots:List Int):List Int:=[u8.wrap (ev:Int)]++[u8.wrap (n:Int)]++(xss.map lM).flatten++(roots.map λ r=>fW r 8).flatten
def fB(ev n:Nat)(xss:List (List Inp))(m:Nat):List Int:=[u8.wrap (ev:Int)]++[u8.wrap (n:Int)]++((xss.take m).map lM).flatten
theorem mu{ev n:Nat}{xss:List (List Inp)}{m:Nat}(h:m<xss.length):fB ev n xss (m+1)=fB ev n xss m++lM (xss.getD m []):=by
 unfold fB
 rw[kq h [],List.map_append,List.flatten_append]
 simp
theorem vN{ev n:Nat}{xss:List (List Inp)}(hx:∀i,i<xss.length -> (xss.getD i []).length <= 1000):∀m,m <= xss.length -> (fB ev n xss m).length <= 2+1000*m
 | 0,_=>by simp[fB]
 | m+1,h=>by
  rw[mu (by omega),List.length_append,jb]
  have:=vN (ev:=ev) (n:=n) hx m (by omega)
  have:=hx m (by omega)
  omega
def ga(P roots:List Int)(k j:Nat):List Int:=P++((roots.take k).map λ r=>fW r 8).flatten++fW (roots.getD k 0) j
theorem Cs(P roots:List Int):ga P roots 0 0=P:=by simp[ga,fW]
theorem ux(P roots:List Int)(k j:Nat):ga P roots k (j+1)=ga P roots k j++[u8.wrap ((roots.getD k 0).fdiv (2 ^ (8*j)))]:=by
 unfold ga
 rw[yA]
 simp
theorem pC{P roots:List Int}{k:Nat}(h:k<roots.length):ga P roots k 8=ga P roots (k+1) 0:=by
 unfold ga
 rw[kq h 0,List.map_append,List.flatten_append]
 simp[fW]
theorem so{P roots:List Int}:∀ {k:Nat},k <= roots.length -> ∀j,(ga P roots k j).length=P.length+8*k+j
 | 0,_,j=>by simp[ga,sn]
 | k+1,h,j=>by
  have:=so (P:=P) (show k <= roots.length by omega) 8
  rw[pC (by omega)] at this
  have e:(ga P roots (k+1) j).length=(ga P roots (k+1) 0).length+j:=by
   unfold ga
   simp only[List.length_append,sn]
   omega
  omega
theorem yB{ev n m:Nat}{xss:List (List Inp)}{roots:List Int}(h:n=xss.length)(hm:m=roots.length):ga (fB ev n xss n) roots m 0=cw ev n xss roots:=by
 subst hm
 unfold ga fB cw
 rw[List.take_of_length_le (by omega),List.take_of_length_le (Nat.le_refl _)]
 simp[fW]
theorem Lb(xs:List Inp):il [.int .u8 0]=aJ gS (jc xs 0):=by
 rw[Az]
 have e:=jZ (e:=gS) ([]:List Int) xs.length
 rw[List.nil_append] at e
 rw[show List.replicate xs.length (0:Int)=List.replicate xs.length gS.dflt from rfl,e]
 funext i k
 cases k with
 | zero=>rfl
 | succ k=>simp[il,aJ,gS]
theorem IG{F:HL}{q n N:Nat}{l:List Int}{fz:Nat × Nat}(hq:(q,.rows 1 N (aJ gS l) 5 fz)∈F)(hn:l.length=n)(hN:n <= N):SrcIn Tryz.prog gS F (some ⟨q,0,none⟩) n l:=by
 subst hn
 exact RowL.src Cr (by decide) (RowL.whole hq hN)
def cQ(l:List Int)(i:Nat):Nat -> Int
 | 0=>0
 | k+1=>PX (cQ l i k) (u64.wrap (u64.wrap (l.getD (8*i+k) 0)*2 ^ min (8*(k:Int)).toNat 64))
def Ct(l:List Int)(i:Nat):Nat:=min 8 (l.length-8*i)
def jk(l:List Int):Nat:=(l.length+7) / 8
def aY(l:List Int):List Int:=(List.range (jk l)).map λ i=>cQ l i (Ct l i)
theorem lN(l:List Int):(aY l).length=jk l:=by simp[aY]
theorem ff{l:List Int}{i:Nat}(h:8*i<l.length):(aY l)[i]?=some (cQ l i (Ct l i)):=by
 have:i<jk l:=by unfold jk;omega
 simp[aY,this]
def dS(s:Int)(ws:List Int):Nat -> Int
 | 0=>s
 | k+1=>gl (dS s ws k) (ws.getD k 0)
def kO(b:ByteArray)(l:List Int):Int:=gl (gl (dS (cL b ((jk l:Nat)+1:Int)) (aY l) (jk l)) (u64.wrap (l.length:Int))) 0
abbrev lm(x:Int):Prop:=0 <= x /\ x<18446744073709551616
theorem Lc(n:Int):u64.wrap n=((BitVec.ofInt 64 n).toNat:Int):=by
 rw[IntKind.wrap_u64,BitVec.toNat_ofInt]
 omega
theorem yC(v:BitVec 64):u64.wrap (v.toNat:Int)=(v.toNat:Int):=by
 rw[IntKind.wrap_u64]
 have:=v.isLt
 omega
theorem IH(v:BitVec 64):BitVec.ofInt 64 (v.toNat:Int)=v:=by
 apply BitVec.eq_of_toNat_eq
 rw[BitVec.toNat_ofInt]
 have:=v.isLt
 omega
theorem Cu(a b:Int):JG a b=((BitVec.ofInt 64 a ^^^ BitVec.ofInt 64 b).toNat:Int):=yC _
theorem NJ(a b:Int):PX a b=((BitVec.ofInt 64 a ||| BitVec.ofInt 64 b).toNat:Int):=yC _
def II(a b:BitVec 64):BitVec 64:=((a ^^^ b)*11400714819323198485#64) ^^^ (((a ^^^ b)*11400714819323198485#64) >>> 32)
theorem oH(a b:Int):gl a b=((II (BitVec.ofInt 64 a) (BitVec.ofInt 64 b)).toNat:Int):=by
 unfold gl II
 rw[Cu a b,Lc]
 generalize BitVec.ofInt 64 a ^^^ BitVec.ofInt 64 b=x
 rw[BitVec.ofInt_mul,IH]
 rw[Cu,IH]
 rw[show BitVec.ofInt 64 11400714819323198485=11400714819323198485#64 from rfl]
 generalize hm:x*11400714819323198485#64=m
 have e:BitVec.ofInt 64 ((m.toNat:Int).fdiv 4294967296)=m >>> 32:=by
  apply BitVec.eq_of_toNat_eq
  rw[BitVec.toNat_ofInt,BitVec.toNat_ushiftRight,Nat.shiftRight_eq_div_pow]
  have:=m.isLt
  rw[Int.fdiv_eq_ediv_of_nonneg _ (by decide)]
  omega
 rw[e]
theorem NK{m n:BitVec 64}(h:m ^^^ (m >>> 32)=n ^^^ (n >>> 32)):m=n:=by
 have key:∀m:BitVec 64,(m ^^^ (m >>> 32)) ^^^ ((m ^^^ (m >>> 32)) >>> 32)=m:=λ m=>by
  apply BitVec.eq_of_getLsbD_eq
  intro i hi
  simp only[BitVec.getLsbD_xor,BitVec.getLsbD_ushiftRight]
  rw[BitVec.getLsbD_of_ge m (32+(32+i)) (by omega)]
  cases m.getLsbD i <;> cases m.getLsbD (32+i) <;> rfl
 rw[<- key m,h,key n]
theorem Ld{m n:BitVec 64}(h:m*11400714819323198485#64=n*11400714819323198485#64):m=n:=by
 have key:∀m:BitVec 64,m*11400714819323198485#64*17428512612931826493#64=m:=λ m=>by
  rw[BitVec.mul_assoc,show 11400714819323198485#64*17428512612931826493#64=1#64 from by decide,BitVec.mul_one]
 rw[<- key m,h,key n]
theorem yD{a b a' b':BitVec 64}(h:II a b=II a' b'):a ^^^ b=a' ^^^ b':=Ld (NK h)
theorem L8{a b b':BitVec 64}(h:a ^^^ b=a ^^^ b'):b=b':=by
 have:a ^^^ (a ^^^ b)=a ^^^ (a ^^^ b'):=by rw[h]
 rwa [<- BitVec.xor_assoc,<- BitVec.xor_assoc,BitVec.xor_self,BitVec.zero_xor,BitVec.zero_xor] at this
theorem PI{a a' b:BitVec 64}(h:a ^^^ b=a' ^^^ b):a=a':=by
 rw[BitVec.xor_comm a,BitVec.xor_comm a'] at h
 exact L8 h
theorem IJ{x y:Int}(hx:lm x)(hy:lm y)(h:BitVec.ofInt 64 x=BitVec.ofInt 64 y):x=y:=by
 have h2:=congrArg BitVec.toNat h
 rw[BitVec.toNat_ofInt,BitVec.toNat_ofInt] at h2
 unfold lm at *
 omega
theorem lO(a b:Int):lm (gl a b):=by
 rw[oH]
 have:=(II (BitVec.ofInt 64 a) (BitVec.ofInt 64 b)).isLt
 unfold lm
 omega
theorem Cv{v w:BitVec 64}(h:(v.toNat:Int)=(w.toNat:Int)):v=w:=BitVec.eq_of_toNat_eq (by omega)
theorem IK{a b b':Int}(hb:lm b)(R6:lm b')(h:gl a b=gl a b'):b=b':=by
 rw[oH,oH] at h
 exact IJ hb R6 (L8 (yD (Cv h)))
theorem vO{a a' b:Int}(ha:lm a)(YP:lm a')(h:gl a b=gl a' b):a=a':=by
 rw[oH,oH] at h
 exact IJ ha YP (PI (yD (Cv h)))
theorem IL{x:Int}(h:lm x):u64.wrap x=x:=by rw[IntKind.wrap_u64];unfold lm at h;omega
theorem qG{x:Int}(h:lm x):u64.wrap (i64.wrap x)=x:=by
 rw[IntKind.wrap_u64,IntKind.wrap_i64];unfold lm at h;omega
theorem Lf{a x k:Nat}(ha:a<2 ^ k)(hx:2 ^ k*x+a<18446744073709551616):PX (a:Int) ((2 ^ k*x:Nat):Int)=((2 ^ k*x+a:Nat):Int):=by
 rw[NJ]
 congr 1
 rw[BitVec.toNat_or,BitVec.toNat_ofInt,BitVec.toNat_ofInt]
 have e1:(((a:Int) % ((2 ^ 64:Nat):Int)).toNat)=a:=by omega
 have e2:((((2 ^ k*x:Nat):Int) % ((2 ^ 64:Nat):Int)).toNat)=2 ^ k*x:=by omega
 rw[e1,e2,Nat.or_comm,Nat.two_pow_add_eq_or_of_lt ha]
theorem gR{l:List Int}(h8:∀i,0 <= l.getD i 0 /\ l.getD i 0<256)(i:Nat):∀k,k <= 8 -> ∃a:Nat,cQ l i k=(a:Int) /\ a<2 ^ (8*k) /\ ∀x:Nat,l.getD (8*i+k) 0=(x:Int) -> k<8 -> cQ l i (k+1)=((2 ^ (8*k)*x+a:Nat):Int):=by
 have step:∀k,k<8 -> ∀a x:Nat,cQ l i k=(a:Int) -> a<2 ^ (8*k) -> l.getD (8*i+k) 0=(x:Int) -> cQ l i (k+1)=((2 ^ (8*k)*x+a:Nat):Int) /\ 2 ^ (8*k)*x+a<2 ^ (8*(k+1)):=λ k hk a x ha hl hx=>by
  have Xt:x<256:=by have:=(h8 (8*i+k)).2;omega
  have hb:2 ^ (8*k)*x+a<2 ^ (8*(k+1)):=by
   rw[show 8*(k+1)=8*k+8 by omega,Nat.pow_add]
   generalize 2 ^ (8*k)=P at *
   have:P*x+P <= P*256:=by rw[<- Nat.mul_succ];exact Nat.mul_le_mul (Nat.le_refl _) Xt
   show P*x+a<P*256
   omega
  have Uu:2 ^ (8*(k+1)) <= 2 ^ 64:=Nat.pow_le_pow_right (by decide) (by omega)
  refine⟨?_,hb⟩
  rw[cQ,ha,hx,IL (x:=(x:Int)) (by unfold lm;omega)]
  have e:(x:Int)*2 ^ min (8*(k:Int)).toNat 64=((2 ^ (8*k)*x:Nat):Int):=by
   rw[show min (8*(k:Int)).toNat 64=8*k by omega,Int.mul_comm]
   simp
  rw[e,IL (by unfold lm;omega)]
  exact Lf hl (by omega)
 intro k
 induction k with
 | zero=>exact λ _=>⟨0,rfl,by decide,λ x hx h=>(step 0 h 0 x rfl (by decide) hx).1⟩
 | succ k ih =>
  intro hk
  obtain⟨a,ha,hl,_⟩:=ih (by omega)
  have hx:=h8 (8*i+k)
  obtain⟨x,ex⟩:=Int.eq_ofNat_of_zero_le hx.1
  obtain⟨e1,e2⟩:=step k (by omega) a x ha hl ex
  exact⟨_,e1,e2,λ y hy h=>(step (k+1) h _ y e1 e2 hy).1⟩
theorem IM{l:List Int}(h8:∀i,0 <= l.getD i 0 /\ l.getD i 0<256)(i k:Nat)(hk:k <= 8):lm (cQ l i k):=by
 obtain⟨a,ha,hl,_⟩:=gR h8 i k hk
 have Uu:2 ^ (8*k) <= 2 ^ 64:=Nat.pow_le_pow_right (by decide) (by omega)
 rw[ha]
 unfold lm
 omega
theorem nE{l l':List Int}(h8:∀i,0 <= l.getD i 0 /\ l.getD i 0<256)(Wn:∀i,0 <= l'.getD i 0 /\ l'.getD i 0<256)(i:Nat):∀k,k <= 8 -> cQ l i k=cQ l' i k -> ∀m,m<k -> l.getD (8*i+m) 0=l'.getD (8*i+m) 0
 | 0,_,_,m,hm=>absurd hm (by omega)
 | k+1,hk,h,m,hm=>by
  obtain⟨a,ha,hl,hs⟩:=gR h8 i k (by omega)
  obtain⟨a',YP,SU,OF⟩:=gR Wn i k (by omega)
  obtain⟨x,ex⟩:=Int.eq_ofNat_of_zero_le (h8 (8*i+k)).1
  obtain⟨x',ex'⟩:=Int.eq_ofNat_of_zero_le (Wn (8*i+k)).1
  rw[hs x ex (by omega),OF x' ex' (by omega)] at h
  have h2:2 ^ (8*k)*x+a=2 ^ (8*k)*x'+a':=by omega
  have hp:0<2 ^ (8*k):=Nat.pow_pos (by decide)
  have e1:a=a':=by
   have:=congrArg (· % 2 ^ (8*k)) h2
   simp only[Nat.mul_add_mod,Nat.mod_eq_of_lt hl,Nat.mod_eq_of_lt SU] at this
   exact this
  have e2:x=x':=by
   have:=congrArg (· / 2 ^ (8*k)) h2
   simp only[Nat.mul_add_div hp,Nat.div_eq_of_lt hl,Nat.div_eq_of_lt SU,Nat.add_zero] at this
   exact this
  by_cases e:m=k
  ·rw[e,ex,ex',e2]
  ·exact nE h8 Wn i k (by omega) (by rw[ha,YP,e1]) m (by omega)
theorem qH{s:Int}(hs:lm s)(ws:List Int):∀k,lm (dS s ws k)
 | 0=>hs
 | _+1=>lO _ _
theorem uy{s:Int}(hs:lm s){ws ZK:List Int}(hw:∀i,lm (ws.getD i 0))(Wb:∀i,lm (ZK.getD i 0)){q:Nat}(hd:∀i,i≠q -> ws.getD i 0=ZK.getD i 0):∀k,q<k -> dS s ws k=dS s ZK k -> ws.getD q 0=ZK.getD q 0
 | 0,h,_=>absurd h (by omega)
 | k+1,h,e=>by
  have same:∀j,j <= q -> dS s ws j=dS s ZK j:=λ j=>by
   induction j with
   | zero=>exact λ _=>rfl
   | succ j ih=>exact λ hj=>by rw[dS,dS,ih (by omega),hd j (by omega)]
  rw[dS,dS] at e
  by_cases hk:k=q
  ·subst hk
   rw[same k (Nat.le_refl _)] at e
   exact IK (hw _) (Wb _) e
  ·rw[hd k hk] at e
   exact uy hs hw Wb hd k (by omega) (vO (qH hs _ _) (qH hs _ _) e)
theorem uz{l:List Int}(h8:∀i,0 <= l.getD i 0 /\ l.getD i 0<256)(i:Nat):lm ((aY l).getD i 0):=by
 rw[List.getD_eq_getElem?_getD]
 by_cases h:8*i<l.length
 ·rw[ff h]
  exact IM h8 _ _ (Nat.min_le_left _ _)
 ·rw[List.getElem?_eq_none (by simp[aY,jk];omega)]
  exact⟨by decide,by decide⟩
theorem pX{l l':List Int}{i:Nat}:∀k,(∀m,m<k -> l.getD (8*i+m) 0=l'.getD (8*i+m) 0) -> cQ l i k=cQ l' i k
 | 0,_=>rfl
 | k+1,h=>by rw[cQ,cQ,pX k λ m hm=>h m (by omega),h k (by omega)]
theorem AA{b:ByteArray}{l l':List Int}(hlen:l.length=l'.length)(h8:∀i,0 <= l.getD i 0 /\ l.getD i 0<256)(Wn:∀i,0 <= l'.getD i 0 /\ l'.getD i 0<256){p:Nat}(hp:p<l.length)(hd:∀i,i≠p -> l.getD i 0=l'.getD i 0)(h:kO b l=kO b l'):l.getD p 0=l'.getD p 0:=by
 unfold kO at h
 have e0:jk l=jk l':=by unfold jk;rw[hlen]
 have ek:∀i,Ct l i=Ct l' i:=λ i=>by unfold Ct;rw[hlen]
 rw[<- e0,<- hlen] at h
 have hb:lm (cL b ((jk l:Nat)+1:Int)):=lO _ _
 have h2:=vO (qH hb _ _) (qH hb _ _) (vO (lO _ _) (lO _ _) h)
 have h3:=uy hb (uz h8) (uz Wn) (q:=p / 8) (λ i hi=>by
  rw[List.getD_eq_getElem?_getD,List.getD_eq_getElem?_getD]
  by_cases hl:8*i<l.length
  ·rw[ff hl,ff (by omega),ek]
   exact pX _ λ m hm=>hd _ λ e=>by have:Ct l' i <= 8:=Nat.min_le_left _ _;omega
  ·rw[List.getElem?_eq_none (by simp[aY,jk];omega),List.getElem?_eq_none (by simp[aY,jk];omega)]) (jk l) (by unfold jk;omega) h2
 rw[List.getD_eq_getElem?_getD,List.getD_eq_getElem?_getD,ff (by omega),ff (by omega),<- ek] at h3
 have h4:=nE h8 Wn (p / 8) (Ct l (p / 8)) (Nat.min_le_left _ _) h3 (p % 8) (by unfold Ct;omega)
 rw[show 8*(p / 8)+p % 8=p by omega] at h4
 exact h4
theorem yE(b:ByteArray)(l:List Int):lm (kO b l):=lO _ _
theorem Eo{b:ByteArray}{x y z z':Int}(hz:lm z)(hz':lm z')(h:jW b [x,y,i64.wrap z]=jW b [x,y,i64.wrap z']):z=z':=by
 have h2:=vO (lO _ _) (lO _ _) h
 have h3:u64.wrap (i64.wrap z)=u64.wrap (i64.wrap z'):=IK (by rw[qG hz];exact hz) (by rw[qG hz'];exact hz') h2
 rwa [qG hz,qG hz'] at h3
def gz(b:Int):Inp:=⟨b % 3-1,b / 3 % 3-1,b / 9⟩
theorem pD{n:Int}(h:-9223372036854775808 <= n /\ n <= 9223372036854775807):i64.wrap n=n:=by rw[IntKind.wrap_i64];omega
theorem sr{x:Inp}(h1:-1 <= x.dx /\ x.dx <= 1)(h2:-1 <= x.dy /\ x.dy <= 1)(h3:0 <= x.act /\ x.act <= 3):sm x=x.dx+1+3*(x.dy+1)+9*x.act:=by
 unfold sm
 rw[pD (n:=x.dx+1) (by omega),pD (n:=x.dy+1) (by omega),pD (n:=3*(x.dy+1)) (by omega),pD (n:=x.dx+1+3*(x.dy+1)) (by omega),pD (n:=9*x.act) (by omega),pD (by omega),IntKind.wrap_u8]
 omega
theorem IO{x:Inp}(h:j4 x):(-1 <= x.dx /\ x.dx <= 1) /\ (-1 <= x.dy /\ x.dy <= 1) /\ (0 <= x.act /\ x.act <= 3):=by unfold j4 at h;omega
theorem Ep{x:Inp}(h:j4 x):gz (sm x)=x:=by
 obtain⟨h1,h2,h3⟩:=IO h
 rw[sr h1 h2 h3]
 obtain⟨dx,dy,act⟩:=x
 unfold gz
 simp only[Inp.mk.injEq] at h1 h2 h3 ⊢
 refine⟨?_,?_,?_⟩ <;> omega
theorem Er{b:Int}(h:0 <= b /\ b<36):sm (gz b)=b:=by
 rw[sr (by unfold gz;simp only;omega) (by unfold gz;simp only;omega) (by unfold gz;simp only;omega)]
 unfold gz
 simp only
 omega
theorem Cw{b:Int}(h:0 <= b /\ b<36):j4 (gz b):=by
 unfold gz j4
 simp only
 omega
theorem Lg{x:Inp}(h:j4 x):0 <= sm x /\ sm x<36:=by
 obtain⟨h1,h2,h3⟩:=IO h
 rw[sr h1 h2 h3]
 omega
theorem lP{α:Type}{pl:Nat}:∀ (ls:List (List α)),(∀x∈ls,x.length=pl) -> ls.flatten.length=ls.length*pl
 | [],_=>by simp
 | a::r,h=>by
  rw[List.flatten_cons,List.length_append,lP r λ x hx=>h x (List.mem_cons_of_mem _ hx),h a List.mem_cons_self,List.length_cons,Nat.succ_mul,Nat.add_comm]
theorem su{α:Type}{pl:Nat}:∀ (ls:List (List α)),(∀x∈ls,x.length=pl) -> ∀i k,k<pl -> ls.flatten[i*pl+k]?=(ls[i]?).bind λ l=>l[k]?
 | [],_,i,k,_=>by simp
 | a::r,h,0,k,hk=>by
  rw[List.flatten_cons,Nat.zero_mul,Nat.zero_add,List.getElem?_append_left (by rw[h a List.mem_cons_self];exact hk)]
  rfl
 | a::r,h,i+1,k,hk=>by
  have ha:=h a List.mem_cons_self
  rw[List.flatten_cons,List.getElem?_append_right (by rw[ha,Nat.succ_mul];omega),ha,show (i+1)*pl+k-pl=i*pl+k by rw[Nat.succ_mul];omega,su r (λ x hx=>h x (List.mem_cons_of_mem _ hx)) i k hk]
  rfl
section
variable {ev n pl:Nat} {xss:List (List Inp)} {roots:List Int}
theorem oI(hl:∀x∈xss,x.length=pl):∀x∈xss.map lM,x.length=pl:=λ x hx=>by
 obtain⟨y,hy,rfl⟩:=List.mem_map.1 hx
 rw[lM,List.length_map,hl y hy]
theorem uA:∀x∈roots.map λ r=>fW r 8,x.length=8:=λ x hx=>by
 obtain⟨y,hy,rfl⟩:=List.mem_map.1 hx
 simp[fW]
theorem sw(hl:∀x∈xss,x.length=pl)(hn:xss.length=n):(cw ev n xss roots).length=2+n*pl+8*roots.length:=by
 unfold cw
 rw[List.length_append,List.length_append,lP _ (oI hl),lP _ uA,List.length_map,List.length_map,hn]
 simp
 omega
theorem IP:(cw ev n xss roots).getD 0 0=u8.wrap (ev:Int):=rfl
theorem IQ:(cw ev n xss roots).getD 1 0=u8.wrap (n:Int):=rfl
theorem sx(hl:∀x∈xss,x.length=pl)(hn:xss.length=n){i k:Nat}(hi:i<n)(hk:k<pl):(cw ev n xss roots).getD (2+i*pl+k) 0=sm ((xss.getD i []).getD k dI):=by
 have hb:i*pl+k<n*pl:=by
  have:(i+1)*pl <= n*pl:=Nat.mul_le_mul_right _ hi
  rw[Nat.succ_mul] at this
  omega
 unfold cw
 rw[List.getD_eq_getElem?_getD,List.getElem?_append_left (by rw[List.length_append,lP _ (oI hl),List.length_map,hn];simp;omega),List.getElem?_append_right (by simp;omega),show 2+i*pl+k-([u8.wrap (ev:Int)]++[u8.wrap (n:Int)]).length=i*pl+k by simp;omega,su _ (oI hl) i k hk]
 have h1:i<xss.length:=by omega
 have h2:xss[i].length=pl:=hl _ (List.getElem_mem h1)
 have h3:k<xss[i].length:=by omega
 simp[h1,lM,h3]
theorem uB(hl:∀x∈xss,x.length=pl)(hn:xss.length=n){r m:Nat}(hr:r<roots.length)(hm:m<8):(cw ev n xss roots).getD (2+n*pl+(8*r+m)) 0=u8.wrap ((roots.getD r 0).fdiv (2 ^ (8*m))):=by
 have e:([u8.wrap (ev:Int)]++[u8.wrap (n:Int)]++(xss.map lM).flatten).length=2+n*pl:=by
  rw[List.length_append,lP _ (oI hl),List.length_map,hn]
  simp
 unfold cw
 rw[List.getD_eq_getElem?_getD,List.getElem?_append_right (by omega),e,show 2+n*pl+(8*r+m)-(2+n*pl)=r*8+m by omega,su _ uA r m hm]
 simp[hr,fW,hm]
theorem lQ{x:Int}(hx:x∈cw ev n xss roots):0 <= x /\ x<256:=by
 have hw:∀y:Int,0 <= u8.wrap y /\ u8.wrap y<256:=λ y=>by rw[IntKind.wrap_u8];omega
 unfold cw at hx
 simp only[List.mem_append,List.mem_singleton,List.mem_flatten,List.mem_map] at hx
 rcases hx with ((rfl|rfl)|⟨l,⟨y,hy,rfl⟩,hx⟩)|⟨l,⟨y,hy,rfl⟩,hx⟩
 ·exact hw _
 ·exact hw _
 ·obtain⟨z,_,rfl⟩:=List.mem_map.1 hx
  exact hw _
 ·obtain⟨z,_,rfl⟩:=List.mem_map.1 hx
  exact hw _
end
theorem sy{l:List Int}(h:∀x∈l,0 <= x /\ x<256)(i:Nat):0 <= l.getD i 0 /\ l.getD i 0<256:=by
 rw[List.getD_eq_getElem?_getD]
 by_cases hi:i<l.length
 ·rw[List.getElem?_eq_getElem hi]
  exact h _ (List.getElem_mem hi)
 ·rw[List.getElem?_eq_none (by omega)]
  exact⟨by decide,by decide⟩
theorem pY{l:List Int}(h8:∀i,0 <= l.getD i 0 /\ l.getD i 0<256)(i:Nat):∀k,k <= 8 -> ∀m,m<k -> u8.wrap ((cQ l i k).fdiv (2 ^ (8*m)))=l.getD (8*i+m) 0
 | 0,_,m,hm=>absurd hm (by omega)
 | k+1,hk,m,hm=>by
  obtain⟨a,ha,hl,hs⟩:=gR h8 i k (by omega)
  obtain⟨x,ex⟩:=Int.eq_ofNat_of_zero_le (h8 (8*i+k)).1
  have hx:x<256:=by have:=(h8 (8*i+k)).2;omega
  have cast:∀b:Nat,((b:Int)).fdiv (2 ^ (8*m))=((b / 2 ^ (8*m):Nat):Int):=λ b=>by
   rw[Int.fdiv_eq_ediv_of_nonneg _ (by exact Int.le_of_lt (Int.pow_pos (by decide)))]
   simp
  by_cases e:m=k
  ·subst e
   rw[hs x ex (by omega),cast,ex,Nat.mul_add_div (Nat.pow_pos (by decide)),Nat.div_eq_of_lt hl,Nat.add_zero,IntKind.wrap_u8]
   omega
  ·have ih:=pY h8 i k (by omega) m (by omega)
   rw[<- ih,hs x ex (by omega),ha,cast,cast,IntKind.wrap_u8,IntKind.wrap_u8]
   have e1:2 ^ (8*k)*x=2 ^ (8*m)*(256*(2 ^ (8*(k-m-1))*x)):=by
    rw[show 8*k=8*m+(8+8*(k-m-1)) by omega,Nat.pow_add,Nat.pow_add,Nat.mul_assoc,Nat.mul_assoc]
   rw[e1,Nat.mul_add_div (Nat.pow_pos (by decide))]
   omega
theorem uC{l:List Int}(h8:∀i,0 <= l.getD i 0 /\ l.getD i 0<256){i:Nat}{z:Nat}:∀k,k <= 8 -> (∀m,m<k -> l.getD (8*i+m) 0=((z / 2 ^ (8*m) % 256:Nat):Int)) -> cQ l i k=((z % 2 ^ (8*k):Nat):Int)
 | 0,_,_=>by simp[cQ,Nat.mod_one]
 | k+1,hk,h=>by
  obtain⟨a,ha,hl,hs⟩:=gR h8 i k (by omega)
  have ih:=uC h8 k (by omega) λ m hm=>h m (by omega)
  rw[hs _ (h k (by omega)) (by omega)]
  have e:a=z % 2 ^ (8*k):=by rw[ha] at ih;exact Int.ofNat_inj.1 ih
  rw[e,show 8*(k+1)=8*k+8 by omega,Nat.pow_add,Nat.mod_mul,Nat.add_comm]
def iC(pl n:Nat)(D:List Int):List (List Inp):=(List.range n).map λ i=>(List.range pl).map λ k=>gz (D.getD (2+i*pl+k) 0)
def dM(pl n m:Nat)(D:List Int):List Int:=(List.range m).map λ r=>cQ (D.drop (2+n*pl)) r 8
theorem lR(pl n:Nat)(D:List Int):(iC pl n D).length=n:=by simp[iC]
theorem sA{pl n:Nat}{D:List Int}{i:Nat}(h:i<n):(iC pl n D).getD i []=(List.range pl).map λ k=>gz (D.getD (2+i*pl+k) 0):=by simp[iC,h]
theorem Lh{pl n:Nat}{D:List Int}(h8:∀i,0 <= D.getD i 0 /\ D.getD i 0<256)(h:∀j,j<n*pl -> D.getD (2+j) 0<36){i:Nat}(hi:i<n):fM pl ((iC pl n D).getD i []):=by
 rw[sA hi]
 refine⟨by simp,λ k hk=>?_⟩
 have hk:k<pl:=by simpa using hk
 have hb:i*pl+k<n*pl:=by
  have:(i+1)*pl <= n*pl:=Nat.mul_le_mul_right _ hi
  rw[Nat.succ_mul] at this
  omega
 have h2:=h _ hb
 rw[<- Nat.add_assoc] at h2
 simp only[List.getD_eq_getElem?_getD,List.getElem?_map,List.getElem?_range hk,Option.map_some,Option.getD_some]
 exact Cw ⟨by have:=(h8 (2+i*pl+k)).1;rwa [List.getD_eq_getElem?_getD] at this,by rwa [List.getD_eq_getElem?_getD] at h2⟩
theorem IR{ev n pl:Nat}{xss:List (List Inp)}{roots:List Int}(hn:xss.length=n)(h:∀i,i<n -> fM pl (xss.getD i [])):iC pl n (cw ev n xss roots)=xss:=by
 have hl:∀x∈xss,x.length=pl:=λ x hx=>by
  obtain⟨i,hi,rfl⟩:=List.getElem_of_mem hx
  have:=(h i (by omega)).1
  rw[List.getD_eq_getElem?_getD,List.getElem?_eq_getElem hi,Option.getD_some] at this
  omega
 apply List.ext_getElem (by rw[lR,hn])
 intro i h1 h2
 have hi:i<n:=by omega
 have e:∀l:List (List Inp),(hl:i<l.length) -> l[i]=l.getD i []:=λ l hl=>by rw[List.getD_eq_getElem?_getD,List.getElem?_eq_getElem hl];rfl
 rw[e _ h1,e _ h2,sA hi]
 have hlen:(xss.getD i []).length=pl:=by have:=(h i hi).1;omega
 apply List.ext_getElem (by simp;exact hlen.symm)
 intro k k1 k2
 have hk:k<pl:=by simpa using k1
 simp only[List.getElem_map,List.getElem_range]
 rw[sx hl hn hi hk,Ep ((h i hi).2 k (by omega)),List.getD_eq_getElem?_getD,List.getElem?_eq_getElem k2]
 rfl
theorem Es{ev n pl:Nat}{xss:List (List Inp)}{roots:List Int}(hn:xss.length=n)(h:∀i,i<n -> fM pl (xss.getD i []))(hp:0<pl):∀j,j<n*pl -> (cw ev n xss roots).getD (2+j) 0<36:=λ j hj=>by
 have hl:∀x∈xss,x.length=pl:=λ x hx=>by
  obtain⟨i,hi,rfl⟩:=List.getElem_of_mem hx
  have:=(h i (by omega)).1
  rw[List.getD_eq_getElem?_getD,List.getElem?_eq_getElem hi,Option.getD_some] at this
  omega
 have hi:j / pl<n:=Nat.div_lt_of_lt_mul (by rw[Nat.mul_comm];exact hj)
 have hk:j % pl<pl:=Nat.mod_lt _ hp
 have:=sx (ev:=ev) (roots:=roots) hl hn hi hk
 rw[show 2+j / pl*pl+j % pl=2+j by have:=Nat.div_add_mod j pl;rw[Nat.mul_comm] at this;omega] at this
 rw[this]
 exact(Lg ((h _ hi).2 _ (by have:=(h _ hi).1;omega))).2
theorem AC{ev n pl:Nat}{xss:List (List Inp)}{roots:List Int}(hn:xss.length=n)(hl:∀x∈xss,x.length=pl)(hu:∀i,lm (roots.getD i 0)):dM pl n roots.length (cw ev n xss roots)=roots:=by
 apply List.ext_getElem (by simp[dM])
 intro r h1 h2
 simp only[dM,List.getElem_map,List.getElem_range]
 have h8:=sy (l:=cw ev n xss roots) λ x hx=>lQ hx
 have e:∀j,((cw ev n xss roots).drop (2+n*pl)).getD j 0=(cw ev n xss roots).getD (2+n*pl+j) 0:=λ j=>by rw[List.getD_eq_getElem?_getD,List.getElem?_drop,<- List.getD_eq_getElem?_getD]
 obtain⟨z,hz⟩:=Int.eq_ofNat_of_zero_le (hu r).1
 have US:=(hu r).2
 have e2:roots[r]=(z:Int):=by rw[<- hz,List.getD_eq_getElem?_getD,List.getElem?_eq_getElem h2];rfl
 rw[uC (z:=z) (λ j=>by rw[e];exact h8 _) 8 (Nat.le_refl _),e2]
 ·rw[Nat.mod_eq_of_lt]
  show z<2 ^ 64
  omega
 ·intro m hm
  rw[e,uB hl hn h2 hm,hz,Int.fdiv_eq_ediv_of_nonneg _ (by exact Int.le_of_lt (Int.pow_pos (by decide))),IntKind.wrap_u8]
  simp
theorem Li{ev n pl m:Nat}{D:List Int}(h8:∀i,0 <= D.getD i 0 /\ D.getD i 0<256)(h:∀j,j<n*pl -> D.getD (2+j) 0<36)(hp:0<pl)(hlen:D.length=2+n*pl+8*m)(h0:D.getD 0 0=u8.wrap (ev:Int))(h1:D.getD 1 0=u8.wrap (n:Int)):cw ev n (iC pl n D) (dM pl n m D)=D:=by
 have hl:∀x∈iC pl n D,x.length=pl:=λ x hx=>by
  obtain⟨i,hi,rfl⟩:=List.mem_map.1 hx
  simp
 have hr:(dM pl n m D).length=m:=by simp[dM]
 have hL:=sw (ev:=ev) (roots:=dM pl n m D) hl (lR pl n D)
 rw[hr] at hL
 have key:∀j,j<D.length -> (cw ev n (iC pl n D) (dM pl n m D)).getD j 0=D.getD j 0:=λ j hj=>by
  by_cases j2:j<2
  ·obtain rfl|rfl:j=0 \/ j=1:=by omega
   ·rw[IP,h0]
   ·rw[IQ,h1]
  ·by_cases j3:j<2+n*pl
   ·have hi:(j-2) / pl<n:=Nat.div_lt_of_lt_mul (by rw[Nat.mul_comm];omega)
    have hk:(j-2) % pl<pl:=Nat.mod_lt _ hp
    have e:2+(j-2) / pl*pl+(j-2) % pl=j:=by have:=Nat.div_add_mod (j-2) pl;rw[Nat.mul_comm] at this;omega
    have:=sx (ev:=ev) (roots:=dM pl n m D) hl (lR pl n D) hi hk
    rw[e] at this
    rw[this,sA hi]
    simp only[List.getD_eq_getElem?_getD,List.getElem?_map,List.getElem?_range hk,Option.map_some,Option.getD_some]
    rw[e,<- List.getD_eq_getElem?_getD]
    have h36:=h (j-2) (by omega)
    rw[show 2+(j-2)=j by omega] at h36
    exact Er ⟨(h8 j).1,h36⟩
   ·obtain⟨q,hq⟩:∃q,j=2+n*pl+q:=⟨j-(2+n*pl),by omega⟩
    have hr2:q / 8<(dM pl n m D).length:=by omega
    have:=uB (ev:=ev) hl (lR pl n D) hr2 (m:=q % 8) (by omega)
    rw[show 8*(q / 8)+q % 8=q by omega,<- hq] at this
    have e:∀j,(D.drop (2+n*pl)).getD j 0=D.getD (2+n*pl+j) 0:=λ j=>by rw[List.getD_eq_getElem?_getD,List.getElem?_drop,<- List.getD_eq_getElem?_getD]
    have e3:(dM pl n m D).getD (q / 8) 0=cQ (D.drop (2+n*pl)) (q / 8) 8:=by
     have:q / 8<m:=by omega
     simp[dM,this]
    rw[this,e3,pY (λ j=>by rw[e];exact h8 _) (q / 8) 8 (Nat.le_refl _) (q % 8) (by omega),e,show 8*(q / 8)+q % 8=q by omega,<- hq]
 apply List.ext_getElem (by omega)
 intro j k1 k2
 have:=key j k2
 rw[List.getD_eq_getElem?_getD,List.getD_eq_getElem?_getD,List.getElem?_eq_getElem k1,List.getElem?_eq_getElem k2] at this
 exact this
theorem Et{pl n m:Nat}{D D':List Int}(h8:∀i,0 <= D.getD i 0 /\ D.getD i 0<256)(Wn:∀i,0 <= D'.getD i 0 /\ D'.getD i 0<256){p:Nat}(hp:2+n*pl <= p)(hm:p<2+n*pl+8*m)(G_:D.getD p 0≠D'.getD p 0):dM pl n m D≠dM pl n m D':=λ e=>by
 have e0:∀ (D:List Int) j,(D.drop (2+n*pl)).getD j 0=D.getD (2+n*pl+j) 0:=λ D j=>by rw[List.getD_eq_getElem?_getD,List.getElem?_drop,<- List.getD_eq_getElem?_getD]
 obtain⟨q,hq⟩:∃q,p=2+n*pl+q:=⟨p-(2+n*pl),by omega⟩
 have hr:q / 8<m:=by omega
 have e2:=congrArg (λ l=>l.getD (q / 8) 0) e
 simp only[dM,List.getD_eq_getElem?_getD,List.getElem?_map,List.getElem?_range hr,Option.map_some,Option.getD_some] at e2
 have:=nE (λ j=>by rw[e0];exact h8 _) (λ j=>by rw[e0];exact Wn _) (q / 8) 8 (Nat.le_refl _) e2 (q % 8) (by omega)
 rw[e0,e0,show 8*(q / 8)+q % 8=q by omega,<- hq] at this
 exact G_ this
theorem Lj{pl n:Nat}{D D':List Int}(h:∀j,j<n*pl -> D.getD (2+j) 0=D'.getD (2+j) 0):iC pl n D=iC pl n D':=by
 unfold iC
 refine List.map_congr_left λ i hi=>List.map_congr_left λ k hk=>?_
 rw[List.mem_range] at hi hk
 have hb:i*pl+k<n*pl:=by
  have:(i+1)*pl <= n*pl:=Nat.mul_le_mul_right _ hi
  rw[Nat.succ_mul] at this
  omega
 have:=h _ hb
 rw[<- Nat.add_assoc] at this
 rw[this]
open Go.Shelf
def Qa(P:Program)(g:FuncId)(lb:Array Value)(own:HL)(F:HL){α:Type}(encs:α -> Array Value)(blks:α -> HL)(Pe:Nat -> α -> Prop)(Te:Nat -> HL -> Prop)(Tx:HL -> Prop):Prop :=
 ∀ (X:HL) (l:Nat) (J:Nat -> HL -> Prop) (Jx:HL -> Prop) (H0:HL),(∀i x H Y,Pe i x -> J i H -> YL P l (encs x) (H++blks x) (Y++(X++F)) (λ b H'=>(b=true /\ J (i+1) H') \/ (b=false /\ Jx H'))) -> J 0 H0 ->
  Sp P g (#[.func (.yield l) #[] #[]]++lb) (H0++own) (X++F) (λ _ H'=>∃H1 T1,H'=H1++T1 /\ ((∃n,J n H1 /\ Te n T1) \/ (Jx H1 /\ Tx T1)))
theorem IU(A:HL)(Ts:List HL)(T:HL):ap A (Ts++[T])=ap A Ts++T:=by simp[ap]
section
variable {P:Program} {N:Nat} {D:List Deferred} {F:HL} {w0:World} {L:FL} {Q:Exit -> Act -> World -> Prop}
theorem Eu{α σ τ:Type}{g:Operand}{ps:Array Tmp}{assign body:Code}{encs:α -> Array Value}{blks:α -> HL}{Pe:Nat -> α -> Prop}{gf:FuncId}{lb:Array Value}(hi:kR L g=true)(hg:ik L g=.func (.func gf) #[] lb)(eg:∀args w,(callFunc gf args).run P w=.ok (.enter gf args) w)
  (Hx:σ -> HL) (I:Nat -> σ -> Prop) (Ix:Code -> σ -> Prop) (La:τ -> FL) (Ha:τ -> HL) (Ia:Nat -> α -> τ -> Prop) (Vl:∀x,(encs x).size=ps.size) (R0:(ps.toList.all λ p=>decide (p<N))=true)
  (x0:σ) (h0:I 0 x0) {A:HL} {Ts:List HL} (ip ir jp jr:List Nat) (hp:(ip++ir).isPerm (List.range A.length)=true) (hj:(jp++jr).isPerm (List.range Ts.length)=true) (Hr:HL) (Tr:List HL) (V0:ir.filterMap (A[·]?)=Hr) (own:HL) {Te:Nat -> HL -> Prop} {Tx:HL -> Prop} (VI:jr.filterMap (Ts[·]?)=own::Tr) (hH:ap (ip.filterMap (A[·]?)) (jp.filterMap (Ts[·]?))=Hx x0)
  (hit:Qa P gf lb own (ap Hr Tr++F) encs blks Pe Te Tx)
  (iD:∀ (l i:Nat) (x:α) (s:σ) (Y:HL) (w1:World),Pe i x -> I i s -> TR (some l) P N [] (Y++(ap Hr Tr++F)) w1 (mY ps.toList (encs x).toList L) (Hx s++blks x) assign (Exit.then (Jo N [] (Y++(ap Hr Tr++F)) w1 La Ha (Ia i x)) (λ _ _ _=>False)))
  (D_:∀ (l i:Nat) (x:α) (t:τ) (Y:HL) (w1:World),Pe i x -> Ia i x t -> TR (some l) P N [] (Y++(ap Hr Tr++F)) w1 (La t) (Ha t) body (RQ (Y++(ap Hr Tr++F)) w1 Hx (I (i+1)) Ix))
  (DO:∀ (d:Nat) (s:σ) (n:Nat) (T1:HL),I n s -> Te n T1 -> EX N (coll d::D) F w0 L (bu d::(Hx s++ap Hr (T1::Tr))) Q .normal)
  (BY:∀ (d:Nat) (c:Code) (s:σ) (T1:HL),Ix c s -> Tx T1 -> TR none P N (coll d::D) F w0 L (bu d::(Hx s++ap Hr (T1::Tr))) c Q) :
  TR none P N D F w0 L (ap A Ts) (.rangeFunc g ps assign body) Q:=by
 intro a w hF hR hB
 have hpo:∀ (X:HL) (T1:HL),((X++T1)++(ap Hr Tr++F)).Perm (X++(ap Hr (T1::Tr)++F)):=λ X T1=>by
  rw[List.append_assoc]
  refine List.Perm.append_left X ?_
  rw[<- List.append_assoc]
  refine List.Perm.append_right F ?_
  show (T1++(Hr++Tr.flatten)).Perm (Hr++(T1::Tr).flatten)
  rw[List.flatten_cons,<- List.append_assoc,<- List.append_assoc]
  exact List.Perm.append_right _ List.perm_append_comm
 have VK:Rel ((Hx x0++own)++(ap Hr Tr++F)) w:=by
  have h1:=kx A Ts ip ir jp jr hp hj
  rw[V0,VI,hH] at h1
  have h2:=hR.perm (h1.append_right F)
  rw[List.append_assoc] at h2
  exact h2.perm (hpo _ _)
 refine wpIn_rangeFunc ?_
 intro fn WT
 obtain⟨rec,C_⟩:∃rec:LoopState -> Option Code -> Loop,rec=λ st pe=>{ state:=st,pending:=pe,fn,tmps:=a.tmps,params:=ps,assign,body,defers:=w.heap.size }:=⟨_,rfl⟩
 obtain⟨W1,VH⟩:∃W1,(w.alloc (.deferred (some []))).alloc (.loop (rec .ready none))=W1:=⟨_,rfl⟩
 have XO:Below 0 w W1:=by rw[<- VH];exact(fh _).trans (fh _)
 have VJ:Rel ((w.heap.size+1,Blk.obj (.loop (rec .ready none)))::bu w.heap.size::((Hx x0++own)++(ap Hr Tr++F))) W1:=by
  rw[<- VH]
  have h1:=(VK.alloc (.obj (.deferred (some [])))).alloc (.obj (.loop (rec .ready none)))
  rw[World.size_alloc] at h1
  exact h1
 refine⟨w.heap.size+1,[coll w.heap.size],W1,{ target:=.fn (.func gf) lb,args:=#[.func (.yield (w.heap.size+1)) #[] #[]] },W1,gf,#[.func (.yield (w.heap.size+1)) #[] #[]]++lb,W1,?_,?_,?_,?_,λ h=>(by cases h),?_⟩
 ·rw[<- VH,C_];exact run_enterLoop_outer _ _ _ _ _
 ·have Vv:a.eval g=.func (.func gf) #[] lb:=(hF.eval hi).trans hg
  simp only[resolve,Vv]
  simp[Deferred.ofValue]
  rfl
 ·intro f' _;trivial
 ·simp[invoke,eg]
 ·refine iL ?_
  obtain⟨l,hl⟩:∃l,w.heap.size+1=l:=⟨_,rfl⟩
  rw[hl] at VJ ⊢
  obtain⟨d,hd⟩:∃d,w.heap.size=d:=⟨_,rfl⟩
  rw[hd] at VJ C_ ⊢
  have key:=hit [] l (λ i H'=>∃s,I i s /\ H'=(l,Blk.obj (.loop (rec .ready none)))::bu d::Hx s) (λ H'=>∃c s,Ix c s /\ H'=(l,Blk.obj (.loop (rec .done (some c))))::bu d::Hx s)
   ((l,Blk.obj (.loop (rec .ready none)))::bu d::Hx x0) ?round ⟨x0,h0,rfl⟩ W1 VJ
  case round =>
   rintro i x H' Y hx ⟨s,hs,rfl⟩ W aT
   have Q4:Rel ((l,Blk.obj (.loop (rec .ready none)))::(bu d::((Hx s++blks x)++(Y++(ap Hr Tr++F))))) W:=aT
   have hlW:W.heap[l]?=some (.loop (rec .ready none)):=Q4.holds _ List.mem_cons_self
   have hy:=run_yield (P:=P) (args:=encs x) hlW (by rw[C_];exact Vl x)
   rw[C_] at hy
   refine⟨fn,_,assign,body,hy,roundIn_of_wpIn (F:=Wr none) (n:=0) WT ?_⟩
   have hFm:Fm N [] (mY ps.toList (encs x).toList L) { tmps:=(ps.zip (encs x)).foldl (λ t (p,v)=>t.setIfInBounds p v) a.tmps,defers:=[] }:=by
    have h1:=Fm.zip (D:=[]) ps.toList (encs x).toList L a.tmps (λ p hp=>of_decide_eq_true (List.all_eq_true.1 R0 p hp)) ⟨hF.size,rfl,hF.has⟩
    have e:(ps.zip (encs x)).foldl (λ t (p,v)=>t.setIfInBounds p v) a.tmps=(ps.toList.zip (encs x).toList).foldl (λ t (p,v)=>t.setIfInBounds p v) a.tmps:=by
     rw[<- Array.foldl_toList,Array.toList_zip]
    rw[e]
    exact h1
   have hRA:Rel ((Hx s++blks x)++(((l,Blk.obj (.loop (rec .ready none)))::bu d::Y)++(ap Hr Tr++F))) W:=by
    have:=Q4
    refine this.perm ?_
    simp only[List.cons_append]
    refine List.perm_middle.trans ?_
    refine List.Perm.cons _ ?_
    exact List.perm_middle
   refine wpIn_mono (iD l i x s ((l,Blk.obj (.loop (rec .ready none)))::bu d::Y) W hx hs _ W hFm hRA (Below.refl _ _)) ?_
   intro e a1 Wa hq
   cases e with
   | normal =>
    obtain⟨t,ht,m1,m2,m3⟩:=hq
    have XK:Rel ((l,Blk.obj (.loop (rec .ready none)))::(bu d::(Ha t++(Y++(ap Hr Tr++F))))) Wa:=by
     refine m2.perm ?_
     simp only[List.cons_append]
     refine(List.Perm.trans ?_ List.perm_middle.symm)
     refine List.Perm.cons _ ?_
     exact List.perm_middle.symm
    have hla:Wa.heap[l]?=some (.loop (rec .ready none)):=XK.holds _ List.mem_cons_self
    refine⟨_,run_beginRound hla (by rw[C_]),?_⟩
    have hRc:=XK.putObj (F:=[]) (.obj (.loop { rec .ready none with state:=.busy }))
    have R7:Rel (Ha t++(((l,Blk.obj (.loop { rec .ready none with state:=.busy }))::bu d::Y)++(ap Hr Tr++F))) (Wa.putObj l (.loop { rec .ready none with state:=.busy })):=by
     refine hRc.perm ?_
     simp only[List.cons_append]
     refine List.perm_middle.trans ?_
     refine List.Perm.cons _ ?_
     exact List.perm_middle
    refine wpIn_mono (D_ l i x t ((l,Blk.obj (.loop { rec .ready none with state:=.busy }))::bu d::Y) W hx ht a1 _ m1 R7 (m3.trans (cz _ _))) ?_
    have fin:∀ (jump:Option Code) (s':σ) (W3:World),Rel (Hx s'++(((l,Blk.obj (.loop { rec .ready none with state:=.busy }))::bu d::Y)++(ap Hr Tr++F))) W3 -> Below 0 W W3 ->
      ∃v w',(Instr.endRound l jump).run P W3=.ok v w' /\ v=.bool jump.isNone /\ Rel (((l,Blk.obj (.loop (rec (if jump.isNone then .ready else .done) jump)))::bu d::Hx s')++(Y++([]++(ap Hr Tr++F)))) w' /\ Below 0 W w':=by
     intro jump s' W3 h3 XJ
     have h4:Rel ((l,Blk.obj (.loop { rec .ready none with state:=.busy }))::(bu d::(Hx s'++(Y++(ap Hr Tr++F))))) W3:=by
      refine h3.perm ?_
      simp only[List.cons_append]
      refine(List.Perm.trans ?_ List.perm_middle.symm)
      refine List.Perm.cons _ ?_
      exact List.perm_middle.symm
     have Sf:W3.heap[l]?=some (.loop { rec .ready none with state:=.busy }):=h4.holds _ List.mem_cons_self
     have f_:=run_endRound (P:=P) jump Sf
     refine⟨_,_,f_,rfl,?_,XJ.trans (cz _ _)⟩
     have h5:=h4.putObj (F:=[]) (.obj (.loop (rec (if jump.isNone then .ready else .done) jump)))
     rw[C_] at h5 ⊢
     exact h5
    intro e2 a2 W3 QY
    cases e2 with
    | normal =>
     obtain⟨s',OF,n2,n3⟩:=QY
     obtain⟨v,w',k1,k2,k3,k4⟩:=fin none s' W3 n2 n3
     exact⟨v,w',k1,true,_,by rw[k2];rfl,.inl ⟨rfl,s',OF,rfl⟩,k3,k4⟩
    | ret =>
     obtain⟨s',OF,n2,n3⟩:=QY
     obtain⟨v,w',k1,k2,k3,k4⟩:=fin (some .ret) s' W3 n2 n3
     exact⟨v,w',k1,false,_,by rw[k2];rfl,.inr ⟨rfl,.ret,s',OF,rfl⟩,k3,k4⟩
    | exit id =>
     obtain⟨s',OF,n2,n3⟩:=QY
     obtain⟨v,w',k1,k2,k3,k4⟩:=fin (some (.exit id)) s' W3 n2 n3
     exact⟨v,w',k1,false,_,by rw[k2];rfl,.inr ⟨rfl,.exit id,s',OF,rfl⟩,k3,k4⟩
    | goto t=>exact QY.elim
    | panic ch=>exact QY.elim
    | outgrown=>exact QY.elim
   | exit id=>exact hq.elim
   | goto t=>exact hq.elim
   | ret=>exact hq.elim
   | panic ch=>exact hq.elim
   | outgrown=>exact hq.elim
  refine key.mono ?_
  rintro e W2 ⟨v,H',rfl,hor,R8,Tm⟩
  have fin:∀ (st:LoopState) (pe:Option Code) (s:σ) (T1:HL) (iS:st ≠ .busy),Rel ((((l,Blk.obj (.loop (rec st pe)))::bu d::Hx s)++T1)++([]++(ap Hr Tr++F))) W2 ->
    ∃w4,(Instr.endLoop l).run P W2=.ok pe w4 /\ Rel ((bu d::(Hx s++ap Hr (T1::Tr)))++F) w4 /\ Below 0 W1 w4:=by
   intro st pe s T1 iS h4
   have h5:Rel ((l,Blk.obj (.loop (rec st pe)))::(bu d::(Hx s++(ap Hr (T1::Tr)++F)))) W2:=h4.perm (((hpo (Hx s) T1).symm.cons _).cons _)
   have Rg:W2.heap[l]?=some (.loop (rec st pe)):=h5.holds _ List.mem_cons_self
   have f_:=run_endLoop (P:=P) Rg (by rw[C_];exact iS)
   refine⟨W2.putObj l (.loop { rec st pe with state:=.exhausted }),?_,?_,Tm.trans (cz _ _)⟩
   ·rw[f_,C_]
   ·have h6:=h5.putObj (F:=[]) (.obj (.loop { rec st pe with state:=.exhausted }))
    have h7:=Rel.drop (X:=[(l,Blk.obj (.loop { rec st pe with state:=.exhausted }))]) (H:=bu d::(Hx s++(ap Hr (T1::Tr)++F))) h6
    rw[<- List.append_assoc] at h7
    exact h7
  have XL:Fm N (coll d::D) L { a with defers:=[coll d]++a.defers }:=⟨hF.size,by rw[hF.defs];rfl,hF.has⟩
  rcases hor with ⟨H1,T1,rfl,⟨n,⟨s,hs,rfl⟩,hT⟩|⟨⟨c,s,hs,rfl⟩,hT⟩⟩
  ·obtain⟨w4,k1,k2,k3⟩:=fin .ready none s T1 (by simp) R8
   exact⟨none,w4,k1,DO d s n T1 hs hT _ w4 XL k2 (hB.trans (XO.trans k3))⟩
  ·obtain⟨w4,k1,k2,k3⟩:=fin .done (some c) s T1 (by simp) R8
   exact⟨some c,w4,k1,BY d c s T1 hs hT _ w4 XL k2 (hB.trans (XO.trans k3))⟩
theorem AD{α σ τ:Type}{g:Operand}{ps:Array Tmp}{assign body:Code}{encs:α -> Array Value}{blks:α -> HL}{Pe:Nat -> α -> Prop}{gf:FuncId}{lb:Array Value}(hi:kR L g=true)(hg:ik L g=.func (.func gf) #[] lb)(eg:∀args w,(callFunc gf args).run P w=.ok (.enter gf args) w)
  (Ax:σ -> HL) (Tx:σ -> List HL) (I:Nat -> σ -> Prop) (Ix:Code -> σ -> Prop) (La:τ -> FL) (Ha:τ -> HL) (Ia:Nat -> α -> τ -> Prop) (Vl:∀x,(encs x).size=ps.size) (R0:(ps.toList.all λ p=>decide (p<N))=true)
  (x0:σ) (h0:I 0 x0) {A:HL} {Ts:List HL} (ip ir jp jr:List Nat) (hp:(ip++ir).isPerm (List.range A.length)=true) (hj:(jp++jr).isPerm (List.range Ts.length)=true) (Hr:HL) (Tr:List HL) (V0:ir.filterMap (A[·]?)=Hr) (own:HL) {Te:Nat -> HL -> Prop} {Tx':HL -> Prop} (VI:jr.filterMap (Ts[·]?)=own::Tr) (hA:ip.filterMap (A[·]?)=Ax x0) (hT:jp.filterMap (Ts[·]?)=Tx x0)
  (hit:Qa P gf lb own (ap Hr Tr++F) encs blks Pe Te Tx')
  (iD:∀ (l i:Nat) (x:α) (s:σ) (Y:HL) (w1:World),Pe i x -> I i s -> TR (some l) P N [] (Y++(ap Hr Tr++F)) w1 (mY ps.toList (encs x).toList L) (ap (Ax s) (Tx s++[blks x])) assign (Exit.then (Jo N [] (Y++(ap Hr Tr++F)) w1 La Ha (Ia i x)) (λ _ _ _=>False)))
  (D_:∀ (l i:Nat) (x:α) (t:τ) (Y:HL) (w1:World),Pe i x -> Ia i x t -> TR (some l) P N [] (Y++(ap Hr Tr++F)) w1 (La t) (Ha t) body (RQ (Y++(ap Hr Tr++F)) w1 (λ s=>ap (Ax s) (Tx s)) (I (i+1)) Ix))
  (DO:∀ (d:Nat) (s:σ) (n:Nat) (T1:HL),I n s -> Te n T1 -> EX N (coll d::D) F w0 L (ap (bu d::(Ax s++Hr)) (Tx s++T1::Tr)) Q .normal)
  (BY:∀ (d:Nat) (c:Code) (s:σ) (T1:HL),Ix c s -> Tx' T1 -> TR none P N (coll d::D) F w0 L (ap (bu d::(Ax s++Hr)) (Tx s++T1::Tr)) c Q) :
  TR none P N D F w0 L (ap A Ts) (.rangeFunc g ps assign body) Q:=by
 have XB:∀ (d:Nat) (s:σ) (Tr:List HL),(ap (bu d::(Ax s++Hr)) (Tx s++Tr)).Perm (bu d::(ap (Ax s) (Tx s)++ap Hr Tr)):=λ d s Tr=>by
  show (bu d::((Ax s++Hr)++(Tx s++Tr).flatten)).Perm _
  refine List.Perm.cons _ ?_
  rw[List.flatten_append]
  show ((Ax s++Hr)++((Tx s).flatten++Tr.flatten)).Perm ((Ax s++(Tx s).flatten)++(Hr++Tr.flatten))
  rw[List.append_assoc,List.append_assoc]
  refine List.Perm.append_left _ ?_
  rw[<- List.append_assoc,<- List.append_assoc]
  exact List.Perm.append_right _ List.perm_append_comm
 exact Eu hi hg eg (λ s=>ap (Ax s) (Tx s)) I Ix La Ha Ia Vl R0 x0 h0 ip ir jp jr hp hj Hr Tr V0 own VI (by rw[hA,hT]) hit (λ l i x s Y w1 hx hi=>(IU (Ax s) (Tx s) (blks x)) ▸ iD l i x s Y w1 hx hi) D_
  (λ d s n T1 hs hT a w h1 h2 h3=>DO d s n T1 hs hT a w h1 (h2.perm ((XB d s _).append_right F)) h3) (λ d c s T1 hs hT a w h1 h2 h3=>BY d c s T1 hs hT a w h1 (h2.perm ((XB d s _).append_right F)) h3)
end
section
variable {P:Program} {N:Nat} {D:List Deferred} {F:HL} {w0:World} {R:HL} {s:Cfg} {Q:Exit -> Act -> World -> Prop}
theorem Ev{α σ τ:Type}{encs:α -> Array Value}{blks:α -> HL}{Pe:Nat -> α -> Prop}{gf:FuncId}{lb:Array Value}(eg:∀args w,(callFunc gf args).run P w=.ok (.enter gf args) w)
  (S:σ -> HL × List HL) (I:Nat -> σ -> Prop) (Ix:Code -> σ -> Prop) (W:τ -> Inv) (Ia:Nat -> α -> τ -> Prop) (x0:σ) (h0:I 0 x0) (ip jp:List Nat)
  (own:HL) {Te:Nat -> HL -> Prop} {Tx:HL -> Prop} (hit:Qa P gf lb own (ap (dF ip s) (eA jp s).tail++F) encs blks Pe Te Tx)
  (iD:∀ (l i:Nat) (x:α) (s1:σ) (Y:HL) (w1:World),Pe i x -> I i s1 ->
   (∀ {s':Cfg} {R':HL} (t:τ) (Ul Uk:List Nat),Ia i x t -> (hm:CG s'=some (MV N [] (Y++(ap (dF ip s) (eA jp s).tail++F)) w1 W (Ia i x)):=by kernel_rfl) -> (h:uO (W t) Ul Uk s'=nR (W t):=by kernel_rfl) -> (hp:bK Ul Uk s'=true:=by kernel_rfl) -> RN (some l) P N [] (Y++(ap (dF ip s) (eA jp s).tail++F)) w1 R' s' (λ _ _ _=>False)) ->
   RN (some l) P N [] (Y++(ap (dF ip s) (eA jp s).tail++F)) w1 (dF ip s++R) (Ml (MV N [] (Y++(ap (dF ip s) (eA jp s).tail++F)) w1 W (Ia i x)) (encs x).toList (S s1).1 ((S s1).2++[blks x]) s) (λ _ _ _=>False))
  (D_:∀ (l i:Nat) (x:α) (t:τ) (Y:HL) (w1:World),Pe i x -> Ia i x t -> RN (some l) P N [] (Y++(ap (dF ip s) (eA jp s).tail++F)) w1 (dF ip s++R) (Mm (W t) s) (RQ (Y++(ap (dF ip s) (eA jp s).tail++F)) w1 (λ s=>ap (S s).1 (S s).2) (I (i+1)) Ix))
  (DO:∀ (d:Nat) (s1:σ) (n:Nat) (T1:HL),I n s1 -> Te n T1 -> RN none P N (coll d::D) F w0 R (KR (.ex .normal) d ip jp (S s1).1 (S s1).2 T1 s) Q)
  (BY:∀ (d:Nat) (c:Code) (s1:σ) (T1:HL),Ix c s1 -> Tx T1 -> RN none P N (coll d::D) F w0 R (KR (.code c) d ip jp (S s1).1 (S s1).2 T1 s) Q)
  (R0:CU N s=true:=by kernel_rfl) (hp:bK ip jp s=true:=by kernel_rfl) (hH:picks ip jp s=((S x0).1,(S x0).2):=by kernel_rfl) (ho:(eA jp s).head?=some own:=by kernel_rfl) (hG:(im s).map (·.1)=some (.func (.func gf) #[] lb):=by kernel_rfl) (G_:∀x:α,(im s).map (·.2)=some (encs x).size:=by intro x;kernel_rfl):RN none P N D F w0 R s Q:=by
 refine⟨λ hR=>?_⟩
 obtain⟨c,k,L,A,Ts⟩:=s
 unfold bK at hp
 unfold picks at hH
 rw[Bool.and_eq_true] at hp
 simp only[Prod.mk.injEq] at hH
 cases c with
 | ops _ _=>simp[im] at hG
 | ex _=>simp[im] at hG
 | drw _ _=>simp[im] at hG
 | code c =>
 cases c with
 | rangeFunc g ps assign body =>
  have hi:kR L g=true:=by
   cases h:kR L g with
   | true=>rfl
   | false=>simp[im,h] at hG
  simp only[im,hi,Option.map_some,Option.some.injEq] at hG G_
  simp only[CU] at R0
  have UY:∀ (Y:HL),∀y∈dF ip ⟨.code (.rangeFunc g ps assign body),k,L,A,Ts⟩++R,y∈Y++(ap (dF ip ⟨.code (.rangeFunc g ps assign body),k,L,A,Ts⟩) (eA jp ⟨.code (.rangeFunc g ps assign body),k,L,A,Ts⟩).tail++F):=by
   intro Y y hy
   rcases List.mem_append.1 hy with hy|hy
   ·exact List.mem_append_right _ (List.mem_append_left _ (List.mem_append_left _ hy))
   ·exact List.mem_append_right _ (List.mem_append_right _ (hR y hy))
  have By:(oth jp Ts.length).filterMap (Ts[·]?)=own::((oth jp Ts.length).filterMap (Ts[·]?)).tail:=by
   have h1:((oth jp Ts.length).filterMap (Ts[·]?)).head?=some own:=ho
   generalize (oth jp Ts.length).filterMap (Ts[·]?)=l at h1 ⊢
   cases l with
   | nil=>cases h1
   | cons x l=>simp only[List.head?_cons,Option.some.injEq] at h1;rw[h1];rfl
  exact AD (assign:=assign) (body:=body) hi hG eg (λ s=>(S s).1) (λ s=>(S s).2) I Ix (λ t=>(W t).L) (λ t=>ap (W t).A (W t).Ts) Ia (λ x=>(G_ x).symm) R0 x0 h0 ip (oth ip A.length) jp (oth jp Ts.length) hp.1 hp.2 _ _ rfl own By hH.1 hH.2 hit
   (λ l i x s1 Y w1 hx hi=>(iD l i x s1 Y w1 hx hi (λ t Ul Uk ht hm h hp=>qn t Ul Uk ht hm h hp)).h (UY Y))
   (λ l i x t Y w1 hx ht=>(D_ l i x t Y w1 hx ht).h (UY Y))
   (λ d s1 n T1 hs hT=>(DO d s1 n T1 hs hT).h hR) (λ d c s1 T1 hs hT=>(BY d c s1 T1 hs hT).h hR)
 | _=>simp[im] at hG
end
end Go.Proofs.YtgdcbiiopbpgaaaGreatDoor
