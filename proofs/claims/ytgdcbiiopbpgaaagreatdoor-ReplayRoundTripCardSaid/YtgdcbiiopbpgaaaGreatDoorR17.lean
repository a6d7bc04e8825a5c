import Derived.Test.YtgdcbiiopbpgaaaGreatDoorR16
set_option maxHeartbeats 4000000
set_option maxRecDepth 100000
set_option linter.unusedSimpArgs false
set_option linter.unusedVariables false
namespace Go.Proofs.YtgdcbiiopbpgaaaGreatDoor
open IntKind
open Go.RowKit
inductive RecH(rs_:List Bx)(ds_:List Dr)(bp ev rp:Nat)(S S2:Setup)(W:Nat -> List Int)(n:Nat)(pre:List (List Inp)):HL -> Prop
 | mk {gb mb rc cc:Nat} {S3:Setup} {M:MemS} {rA cA:Option Addr} {rl:List Rw} {cl:List Ck} {Tg Ts Tr Trr Tc Tcc:HL} (h3:SetEq S S3) (hs:rh S3 rs_ ds_ Ts) (hg:GameX rs_ ds_ bp gb mb S2 M 99020000 Tg) (hcs:M.cs=W n) (hb:0 <= M.base /\ M.base <= 1000000 * (n:Int)) (hr:SlIs mH 54 rl rA rc Tr) (hrl:rl.length=n) (hrr:RwsT rl pre Trr) (hc:SlIs yc 88 cl cA cc Tc) (hcl:cl.length=n / ev+1) (hck:CksT cl (λ k=>W (k * ev)) Tcc) :
  RecH rs_ ds_ bp ev rp S S2 W n pre (ap [(rp,.lit (Setup.l S3++[vP bp 0,vI (ev:Int),vP gb 0,.slice rA n rc,.slice cA cl.length cc]) 86 (0,0))] [Tg,Ts,Tr,Trr,Tc,Tcc])
theorem H7(S S2 S3:Setup)(rs_:List Bx)(ds_:List Dr)(bp gb mb rp ev n rc cc b o N c:Nat)(rA cA:Option Addr)(j:Nat × Int)(full xs:List Inp)(rl:List Rw)(pre:List (List Inp))(cl:List Ck)(W:Nat -> List Int)(M:MemS)(G0 Ts Tr Trr Tc Tcc F:HL)(h3:SetEq S S3)(hs:rh S3 rs_ ds_ Ts)(hG:GameX rs_ ds_ bp gb mb S2 M 99020000 G0)(hb:0 <= M.base /\ M.base <= 1000000 * (n:Int))(hn:n <= 800)(hr:SlIs mH 54 rl rA rc Tr)(hrl:rl.length=n)(hrr:RwsT rl pre Trr)(hc:SlIs yc 88 cl cA cc Tc)(hcl:cl.length=n / ev+1)(hck:CksT cl (λ k=>W (k * ev)) Tcc)(Is:1 <= ev /\ ev <= 60)(hj:j.1<5)(hA:AtOk F bp (M.get 0) j)(hE:cX F)(hI:(b,.rows 3 N (fS full) 119 (0,0))∈F)(hir:o+xs.length <= N)(h1:1 <= xs.length)(h2:xs.length <= 1000)(hx:∀k,k<xs.length -> full.getD (o+k) dI=xs.getD k dI)(hk:TkOk S2 j xs M)(hW:W (n+1)=(nU (sy S2 j xs) M).cs)(hml:(nU (sy S2 j xs) M).cs.length <= 1000000):Sp Tryz.prog 24 #[vP rp 0,vS b (o * 3) xs.length c] (ap [(rp,.lit (Setup.l S3++[vP bp 0,vI (ev:Int),vP gb 0,.slice rA n rc,.slice cA cl.length cc]) 86 (0,0))] [G0,Ts,Tr,Trr,Tc,Tcc]) F (λ u H'=>u=vI 0 /\ RecH rs_ ds_ bp ev rp S S2 W (n+1) (pre++[xs]) H'):=by
 have hl:RowL ep 119 F (some ⟨b,o * 3,none⟩) xs.length xs:=.rows b o N full (0,0) _ xs hI hir rfl hx
 have hd_:n / ev <= n:=Nat.div_le_self _ _
 refine Sp.run Tryz.func24 rfl mn (A:=[(rp,.lit (Setup.l S3++[vP bp 0,vI (ev:Int),vP gb 0,.slice rA n rc,.slice cA cl.length cc]) 86 (0,0))]) (Ts:=[G0,Ts,Tr,Trr,Tc,Tcc]) rfl λ w0=>?_
 refine ae 13 [.own 0] λ _=>RN.ct [] [0] (pi (c:=c) hG (by omega) hj (hA.mono λ x hx=>ar hx) (ar hE) (ar hI) hir (by omega) hx hk) ?_
 rintro _ ⟨M1,T2⟩ ⟨rfl,hG3,XA,hb5⟩
 dsimp only at hG3 XA hb5
 refine ae 13 [] λ _=>RN.draw [8,11] []<|ag [] [0,1,5,2,3,4] [.own 0]<|RD.one 6 (RDO.ct [] (Hp:=[]) (Tp:=[]) [] [] (pX (some ⟨b,o * 3,none⟩) xs.length c xs _ (hl.up.src qI (by decide)) (by omega)) ?_)
 rintro _ ⟨A6,c7,T8⟩ ⟨rfl,hc9⟩
 dsimp only at hc9
 refine RD.one 7 (RDO.ev [] [] λ R3=>?_)
 refine RD.one 8 (lQ [] B4 rl [(⟨A6,xs.length,c7⟩:Rw)] 3 0 hrl.symm hr (by simp;omega) ?_)
 rintro Xd W9 Td ⟨SP,Wt⟩
 refine ag [] [9,10] []<|RD.one 11 (RDO.ev [] [.own 1] λ _=>?_)
 refine RD.fin<|ae 3 [] λ _=>RN.draw [] []<|aC [] [0,5,1,6,2,7,3,8,4,9,10] [.own 1,.own 1,.nw] [0 <= (((n+1):Nat):Int) /\ (0:Int)<(ev:Int) /\ (((n+1):Nat):Int) <= 9223372036854775807]<|RD.fin<|ae 1 [] λ _=>RN.em ((((n+1):Nat):Int) % (ev:Int)=0) 36 (λ Ra=>?_) λ Ra=>?_
 ·refine ae 3 [] λ _=>RN.ct [1] [5] (rV S2 S3 rs_ ds_ bp gb mb rp ev (n+1) W9 cc 99020000 Xd cA cl M1 T2 Tc _ hG3 (aq 2) hc (by omega) (by rw[XA];exact hml)) ?_
  rintro _ ⟨⟨q17,A18,c19⟩,Up⟩ ⟨rfl,hc21⟩
  dsimp only at hc21
  refine kW 1<|kO [7,0,1,2,3,4,5,6]<|mv<|ae 7 [] λ _=>kO [6,3,0,1,2,4,5]<|mv<|RN.ret [] [0] [4,5,3,0,2,1] (v:=vI 0) (H':=(ap [(rp,.lit (Setup.l S3++[vP bp 0,vI (ev:Int),vP gb 0,.slice Xd (n+1) W9,.slice A18 (cl.length+1) c19]) 86 (0,0))] [T2,Ts,Td,(Trr++T8),Up,(Tcc++[(q17,.rows 1 M1.cs.length (aJ M1.cs) 3 (0,0))])])) ?_
  have Va:=hrr.snocC hc9 h1 rfl
  have Uu:(n+1) % ev=0:=by have h_:=Ra;omega
  have Uk:=hck.snoc (q:=q17) (cs:=M1.cs) (by show W (cl.length * ev)=_;rw[hcl,Np Uu,hW,XA])
  have hcl2_:(cl++[(⟨some ⟨q17,0,none⟩,M1.cs.length,M1.cs.length,ia M1.cs⟩:Ck)]).length=(n+1) / ev+1:=by rw[List.length_append,hcl,H6 Uu];rfl
  exact⟨rfl,by have h_:=RecH.mk (rp:=rp) h3 hs hG3 (by rw[XA,hW]) ⟨hb5.1,by omega⟩ SP (by simp[hrl]) Va hc21 hcl2_ Uk;rw[show ((cl++[(⟨some ⟨q17,0,none⟩,M1.cs.length,M1.cs.length,ia M1.cs⟩:Ck)])).length=cl.length+1 by simp] at h_;exact h_⟩
 ·refine ae 8 [] λ _=>kO [4,1,0,2,3,5,6]<|mv<|RN.ret [] [1] [2,3,1,0,4,5] (v:=vI 0) (H':=(ap [(rp,.lit (Setup.l S3++[vP bp 0,vI (ev:Int),vP gb 0,.slice Xd (n+1) W9,.slice cA cl.length cc]) 86 (0,0))] [T2,Ts,Td,(Trr++T8),Tc,Tcc])) ?_
  have Va:=hrr.snocC hc9 h1 rfl
  have Uu:¬ (n+1) % ev=0:=by have h_:=Ra;omega
  exact⟨rfl,RecH.mk (rp:=rp) h3 hs hG3 (by rw[XA,hW]) ⟨hb5.1,by omega⟩ SP (by simp[hrl]) Va hc (by rw[hcl,Nn Uu]) hck⟩
theorem rX{rs_:List Bx}{ds_:List Dr}{bp ev rp n b o N c:Nat}{S S2:Setup}{W:Nat -> List Int}{pre:List (List Inp)}{j:Nat × Int}{full xs:List Inp}{G0 F:HL}(h:RecH rs_ ds_ bp ev rp S S2 W n pre G0)(hn:n <= 800)(Is:1 <= ev /\ ev <= 60)(hj:j.1<5)(t:Int)(ht:(⟨W n,[],0⟩:MemS).get 0=t)(hA:AtOk F bp t j)(hE:cX F)(hI:(b,.rows 3 N (fS full) 119 (0,0))∈F)(hir:o+xs.length <= N)(h1:1 <= xs.length)(h2:xs.length <= 1000)(hx:∀k,k<xs.length -> full.getD (o+k) dI=xs.getD k dI)(hk:TkOk S2 j xs ⟨W n,[],0⟩)(hW:W (n+1)=(nU (sy S2 j xs) ⟨W n,[],0⟩).cs)(hml:(W (n+1)).length <= 1000000):Sp Tryz.prog 24 #[vP rp 0,vS b (o * 3) xs.length c] (ap [] [G0]) F (λ u H'=>∃x,H'=ap [] [x] /\ (u=vI 0 /\ RecH rs_ ds_ bp ev rp S S2 W (n+1) (pre++[xs]) x)):=by
 rw[bB]
 cases h with
 | mk h3 hs hg hcs hb hr hrl hrr hc hcl hck =>
  rename_i gb mb rc cc S3 M rA cA rl cl Tg Ts Tr Trr Tc Tcc
  have e:M.cs=(⟨W n,[],0⟩:MemS).cs:=hcs
  have key:=H7 S S2 S3 rs_ ds_ bp gb mb rp ev n rc cc b o N c rA cA j full xs rl pre cl W M Tg Ts Tr Trr Tc Tcc F h3 hs hg hb hn hr hrl hrr hc hcl hck Is hj (by rw[rS e,ht];exact hA) hE hI hir h1 h2 hx (hk.cs e.symm) (by rw[hW];exact(qQ _ e).symm) (by rw[qQ _ e,<- hW];exact hml)
  exact key.tl
def Setup.std(S:Setup):Setup:={ S with bo:=0,bods:=jx S }
theorem vu(S:Setup):SetEq S S.std:=⟨⟨rfl,rfl,rfl,rfl,rfl,rfl,rfl,rfl,rfl,rfl,rfl,rfl⟩,λ k hk=>⟨(S.body k).sh.A,(S.body k).sh.cap,by
 show (jx S).getD (0+k) dB=_
 rw[Nat.zero_add,iB hk]
 rfl⟩,rfl,fL S⟩
def WS(S:Setup)(J:Nat -> Nat × Int)(xss:List (List Inp))(i:Nat):List Int:=(yJ (rG S.std J xss) ⟨eT S S.nb,[],0⟩ i).cs
theorem SetEq.refl0{S S2:Setup}(h:SetEq S S2)(J:Nat -> Nat × Int)(xss:List (List Inp)):∀k,GEq (rG S.std J xss k) (rG S2 J xss k):=Pg (vu S) h J xss
section
variable {S S2:Setup} {J:Nat -> Nat × Int} {xss:List (List Inp)} {n:Nat}
theorem pO(hV:SetV S)(he:SetEq S S2)(hn:n <= 50)(oF:∀i,i<n -> eR S.players (xss.getD i [])){i:Nat}(hi:i <= n):TE2 S2 (i:Int) ⟨WS S J xss i,[],0⟩:=by
 have h:=HP (he.setV hV) (HS hV he) (xss:=xss) J n hn (λ i hi=>by rw[he.pl];exact oF i hi) i hi
 exact TE2.cs (show (yJ (rG S2 J xss) _ i).cs=(⟨WS S J xss i,[],0⟩:MemS).cs by rw[<- z8 (he.refl0 J xss)];rfl) h
theorem yd(hV:SetV S)(he:SetEq S S2)(hn:n <= 50)(oF:∀i,i<n -> eR S.players (xss.getD i [])){i:Nat}(hi:i<n):TkOk S2 (J i) (xss.getD i []) ⟨WS S J xss i,[],0⟩:=by
 have h:=Ph (he.setV hV) (HS hV he) (xss:=xss) J n hn (λ i hi=>by rw[he.pl];exact oF i hi) i hi
 exact TkOk.cs (show (yJ (rG S2 J xss) _ i).cs=(⟨WS S J xss i,[],0⟩:MemS).cs by rw[<- z8 (he.refl0 J xss)];rfl) h
theorem ov(he:SetEq S S2)(i:Nat):WS S J xss (i+1)=(nU (sy S2 (J i) (xss.getD i [])) ⟨WS S J xss i,[],0⟩).cs:=by
 unfold WS
 rw[yJ,FZ (he.refl0 J xss i)]
 exact qQ _ rfl
theorem pj(hV:SetV S)(he:SetEq S S2)(hn:n <= 50)(oF:∀i,i<n -> eR S.players (xss.getD i [])){i:Nat}(hi:i <= n):((WS S J xss i).length:Int)=sizeOf S:=by
 have h:=(pO (J:=J) hV he hn oF hi).len
 rw[he.size] at h
 exact h
theorem kg{α:Type}{l:List α}{i:Nat}(h:i<l.length)(d:α):l.take (i+1)=l.take i++[l.getD i d]:=by
 rw[List.take_add_one,List.getElem?_eq_getElem h,List.getD_eq_getElem?_getD,List.getElem?_eq_getElem h]
 rfl
end
theorem ye(S:Setup)(rs:List Bx)(ds:List Dr)(bp ev:Nat)(W:Nat -> List Int)(F:HL)(hS:SetCl F S)(hM:MapIn F S rs ds)(h1:1 <= S.nb)(RI:S.rn <= 1000000)(RM:S.dn <= 1000000)(G_:(sizeOf S).toNat <= 1000000)(hv:iY S rs ds=0)(Is:1 <= ev /\ ev <= 60)(hW:W 0=eT S S.nb):Sp Tryz.prog 21 #[Setup.v S,vP bp 0,vI (ev:Int)] (ap [] []) F (λ u H'=>∃x:Nat × Setup × HL,H'=ap [] [x.2.2] /\ (u=.tuple #[vP x.1 0,vI 0] /\ SetEq S x.2.1 /\ RecH rs ds bp ev x.1 S x.2.1 W 0 [] x.2.2)):=by
 have hil_:=gJ S S.nb
 refine Sp.run Tryz.func21 rfl mn (A:=[]) (Ts:=[]) rfl λ w0=>?_
 refine ae 11 (ow 0 16) λ n1=>RN.ct (Hp:=[]) (Tp:=[]) [] [] (nW S rs ds bp _ hS.up hM.up h1 RI RM G_ hv 99020000 (by decide)) ?_
 rintro _ ⟨g2,S3,T4⟩ ⟨rfl,Wd,WZ⟩
 dsimp only at Wd WZ
 obtain⟨XY,Xk⟩:=WZ.x
 refine ae 23 [] λ _=>RN.em ((ev:Int)<1) 22 (λ h7=>?_) λ h7=>?_
 ·(exfalso;omega)
 ·refine ae 5 [] λ _=>RN.em ((ev:Int)>60) 25 (λ h8=>?_) λ h8=>?_
  ·(exfalso;omega)
  ·refine ae 6 (ow 0 16) λ _=>RN.ct (Hp:=[]) (Tp:=[]) [] [] (Ag S rs ds _ hS.up hM.up h1 RI RM) ?_
   rintro _ ⟨S9,U10⟩ ⟨rfl,he11,hU12⟩
   dsimp only at he11 hU12
   refine ae 11 [] λ V4=>RN.nt<|RN.ct [0] [0] (rV S3 S9 rs ds bp g2 XY (V4+0) ev 0 0 0 99020000 none none [] (⟨eT S S.nb,[],0⟩:MemS) T4 [] _ Xk (aq 1) (SlIs.nil _ _) (by decide) (by show (eT S S.nb).length <= _;omega)) ?_
   rintro _ ⟨⟨q14,A15,c16⟩,Sj⟩ ⟨rfl,hc18⟩
   dsimp only at hc18
   refine kW 1<|RN.nt<|RN.nt<|ae 9 [] λ _=>RN.ret [] [0] [5,4,0,1,3,2] (v:=.tuple #[vP (V4+0) 0,vI 0]) (H':=(ap [((V4+0),.lit (Setup.l S9++[vP bp 0,vI (ev:Int),vP g2 0,.slice none 0 0,.slice A15 1 c16]) 86 (0,0))] [T4,U10,([]:HL),(List.nil:HL),Sj,[(q14,.rows 1 ((⟨eT S S.nb,[],0⟩:MemS).cs.length) (aJ (⟨eT S S.nb,[],0⟩:MemS).cs) 3 (0,0))]])) ?_
   have hck_:=(CksT.nil (λ k=>W (k * ev))).snoc (q:=q14) (cs:=eT S S.nb) (by show W (([]:List Ck).length * ev)=_;rw[List.length_nil,Nat.zero_mul];exact hW)
   exact⟨((V4+0),S3,ap [((V4+0),.lit (Setup.l S9++[vP bp 0,vI (ev:Int),vP g2 0,.slice none 0 0,.slice A15 1 c16]) 86 (0,0))] [T4,U10,[],[],Sj,[]++[(q14,.rows 1 ((⟨eT S S.nb,[],0⟩:MemS).cs.length) (aJ (⟨eT S S.nb,[],0⟩:MemS).cs) 3 (0,0))]]),by simp[ap],rfl,Wd,RecH.mk (rp:=(V4+0)) (rl:=[]) he11 hU12 Xk hW.symm ⟨Int.le_refl 0,Int.le_refl 0⟩ (SlIs.nil _ _) rfl RwsT.nil hc18 (by rw[Nat.zero_div];rfl) hck_⟩
theorem yf(S:Setup)(rs_:List Bx)(ds_:List Dr)(bp ev n cap:Nat)(J:Nat -> Nat × Int)(A:Option Addr)(rs:List Rw)(xss:List (List Inp))(F:HL)(hS:SetCl F S)(hM:MapIn F S rs_ ds_)(hV:SetV S)(h1:1 <= S.nb)(RI:S.rn <= 1000000)(RM:S.dn <= 1000000)(G_:(sizeOf S).toNat <= 1000000)(hv:iY S rs_ ds_=0)(Is:1 <= ev /\ ev <= 60)(hE:cX F)(hr:RowL mH 54 F A n rs)(hw:RwsIn F rs xss)(H_:n <= 50)(oF:∀i,i<n -> eR S.players (xss.getD i []))(Sb:∀i,i<n -> (J i).1<5 /\ AtOk F bp (i:Int) (J i)):Sp Tryz.prog 11 #[Setup.v S,vP bp 0,vI (ev:Int),.slice A n cap] (ap [] []) F (λ u H'=>∃x:Nat × Setup × HL,H'=ap [] [x.2.2] /\ (u=vP x.1 0 /\ SetEq S x.2.1 /\ RecH rs_ ds_ bp ev x.1 S x.2.1 (WS S J xss) n xss x.2.2)):=by
 have X8:=hV.pl
 refine Sp.run Tryz.func11 rfl mn (A:=[]) (Ts:=[]) rfl λ w0=>?_
 refine ae 21 (ow 0 16) λ n1=>RN.ct (Hp:=[]) (Tp:=[]) [] [] (ye S rs_ ds_ bp ev (WS S J xss) _ hS.up hM.up h1 RI RM G_ hv Is rfl) ?_
 rintro _ ⟨r2,S3,T4⟩ ⟨rfl,Wd,hr6⟩
 dsimp only at Wd hr6
 refine ae 28 [] λ _=>RN.loop (σ:=Nat × HL) (λ ⟨i_,T_⟩=>⟨[(3,.slice A n cap),(9,vP r2 0),(11,vI (i_:Int))],[((n1+0),.lit (Setup.l S) 31 (0,0))],[T_],i_ <= n /\ RecH rs_ ds_ bp ev r2 S S3 (WS S J xss) i_ (xss.take i_) T_,n-i_⟩) (0,T4) [0] [0] (⟨Nat.zero_le _,hr6⟩) ?_
 rintro⟨i_,T_⟩ ⟨WK,Rn⟩ XV
 refine ae 9 [] λ _=>RN.em ((i_:Int)<(n:Int)) 30 (λ h9=>?_) λ h9=>?_
 ·refine ae 10 [] λ _=>?_
  obtain⟨qx10,Sm,Za,fx10,fzx10,VV,Uh,hox10,Vo⟩:=hr.at (k:=i_) (by omega)
  refine aB 34 (congrArg (λ v_=>(.slice v_ n cap:Value)) VV)<|RN.ro (λ _=>(mc Uh mn))<|ai 2 [.ix i_,.rorow 0 (Sm+i_) 0] [(Sm * 1+i_ * 1)=(Sm+i_) * 1+0 /\ (Sm+i_)<Za,(i_:Int)=((i_:Nat):Int) /\ i_<n] λ _=>aB 37 (congrArg (λ v_=>(.slice v_.A v_.n v_.c:Value)) Vo) ?_
  obtain⟨bw11,ow11,Nw11,fw11,cw11,ew11,hIw11,hiw11,ZM,hcw11⟩:=hw.get (k:=i_) (by rw[hr.len];omega)
  refine aB 37 (congrArg (λ v_:Rw=>Value.slice v_.A v_.n v_.c) ew11)<|RN.ct [] [0] (rX (c:=cw11) (j:=J i_) Rn (by omega) Is (Sb i_ (by omega)).1 (i_:Int) (pO hV Wd H_ oF (by omega)).t0 ((Sb i_ (by omega)).2.mono λ x hx=>ar hx) (ar hE) (ar hIw11) hiw11 (by have:=(oF i_ (by omega)).1;have:=hV.pl;omega) (by have:=(oF i_ (by omega)).1;have:=hV.pl;omega) ZM (yd hV Wd H_ oF (by omega)) (ov Wd i_) (by have:=pj (J:=J) hV Wd H_ oF (i:=i_+1) (by omega);omega)) ?_
  rintro _ Xc ⟨rfl,WA⟩
  refine ai 12 [.gen,.nw] [aS ((i_:Int)+1)] λ _=>?_
  refine XV (i_+1,Xc) [0] [0] ?_
  try dsimp only
  exact⟨⟨by omega,by rw[kg (by rw[<- hw.len,hr.len];omega) []];exact WA⟩,by omega⟩
 ·refine ae 12 [] λ _=>RN.ret [] [] [0] (v:=vP r2 0) (H':=(ap [] [T_])) ?_
  obtain rfl:i_=n:=by omega
  exact⟨(r2,S3,T_),rfl,rfl,Wd,by rw[List.take_of_length_le (by rw[<- hw.len,hr.len];exact Nat.le_refl _)] at Rn;exact Rn⟩
theorem SetEq.val{S S':Setup}(h:SetEq S S')(rs:List Bx)(ds:List Dr):iY S' rs ds=iY S rs ds:=by
 obtain⟨e1,e2,e3,e4,e5,e6,e7,e8,e9,e10,e11,e12⟩:=h.nums
 have c1:(∀k,k<S'.nb -> ku (S'.body k).sh)↔(∀k,k<S.nb -> ku (S.body k).sh):=by
  rw[e2]
  refine forall_congr' λ k=>forall_congr' λ hk=>?_
  obtain⟨A,c,e⟩:=h.bod k hk
  rw[e];exact Iff.rfl
 have c2:sJ S' rs ds↔sJ S rs ds:=by unfold sJ jv ly;rw[e1,e2,e3,e4,e5,e6,e7,e8,e9,e10,e11,e12]
 have c3:(∀k,k<S'.nb -> fw (S'.body k) S'.box)↔(∀k,k<S.nb -> fw (S.body k) S.box):=by
  rw[e2,e3]
  refine forall_congr' λ k=>forall_congr' λ hk=>?_
  obtain⟨A,c,e⟩:=h.bod k hk
  rw[e];exact Iff.rfl
 simp only[iY,c1,c2,c3]
theorem SetEq.trans2{S S1 S2:Setup}(h:SetEq S S1)(h2:SetEq S1 S2):SetEq S S2:=by
 obtain⟨e1,e2,e3,e4,e5,e6,e7,e8,e9,e10,e11,e12⟩:=h.nums
 obtain⟨f1,f2,f3,f4,f5,f6,f7,f8,f9,f10,f11,f12⟩:=h2.nums
 refine⟨⟨f1.trans e1,f2.trans e2,f3.trans e3,f4.trans e4,f5.trans e5,f6.trans e6,f7.trans e7,f8.trans e8,f9.trans e9,f10.trans e10,f11.trans e11,f12.trans e12⟩,λ k hk=>?_,h2.whole.1,by rw[h2.whole.2];exact e2⟩
 obtain⟨A,c,e⟩:=h.bod k hk
 obtain⟨A2,c2,e2'⟩:=h2.bod k (by rw[e2];exact hk)
 exact⟨A2,c2,by rw[e2',e];rfl⟩
theorem mf(cs:List Int)(M:MemS):∀i,(kZ cs M i).base=M.base
 | 0=>rfl
 | i+1=>by
  rw[kZ]
  split
  ·exact mf cs M i
  ·unfold MemS.set
   split
   ·exact mf cs M i
   ·exact mf cs M i
section
variable {S S1:Setup} {rs_:List Bx} {ds_:List Dr} {bp gb mb n cap k t:Nat} {M:MemS} {G0 F:HL}
theorem yg{q:Nat}{M1:MemS}(hG:GameX rs_ ds_ bp gb mb S1 M (k+n) G0)(hq:(q,.rows 1 M1.cs.length (aJ M1.cs) 3 (0,0))∈F)(hn:M1.cs.length=n)(hl:M.cs.length=n)(Tn:48 <= n)(hT:TE2 S1 (t:Int) M1)(ht:t <= 6000) :
  Sp Tryz.prog 35 #[vP gb 0,vS q 0 M1.cs.length cap] (ap [] [G0]) F (λ u H'=>∃x:MemS × HL,H'=ap [] [x.2] /\ (u=vI 0 /\ x.1.cs=M1.cs /\ x.1.base=M.base /\ GameX rs_ ds_ bp gb mb S1 x.1 k x.2)):=by
 have hg:∀i:Nat,i<n -> M1.get (i:Int)=M1.cs.getD i 0:=λ i hi=>by
  unfold MemS.get
  rw[if_pos (by omega),Int.toNat_natCast]
 have hz:∀i:Nat,1 <= i -> i <= 10 -> M1.cs.getD i 0=0:=λ i ha hb=>by rw[<- hg i (by omega)];exact hT.z _ (by omega) (by omega)
 have h0:M1.cs.getD 0 0=(t:Int):=by rw[<- hg 0 (by omega)];exact hT.t0
 have hb:fN M1.cs:=⟨⟨hz 1 (by omega) (by omega),hz 2 (by omega) (by omega),hz 3 (by omega) (by omega),hz 4 (by omega) (by omega),hz 5 (by omega) (by omega),hz 6 (by omega) (by omega),hz 7 (by omega) (by omega),hz 8 (by omega) (by omega),hz 9 (by omega) (by omega),hz 10 (by omega) (by omega)⟩,by omega,by omega⟩
 have hk:k+n=k+M1.cs.length:=by omega
 rw[hk] at hG
 cases hG with
 | mk T U hM hU =>
  rw[bB]
  refine(wZ S1 bp gb mb M1.cs q M1.cs.length M1.cs.length cap M k T U F hM hq (Nat.le_refl _) (by omega)).mono λ u H' h=>?_
  obtain⟨x,rfl,h⟩:=h
  rcases h with ⟨_,h3,h4⟩|⟨h3,_⟩
  ·refine⟨(kZ M1.cs M M1.cs.length,ap [(gb,.lit (dY S1 bp mb) 140 (0,0))] [x,U]),(bB _).symm,h3,?_,mf _ _ _,.mk x U h4 hU⟩
   show (kZ M1.cs M M1.cs.length).cs=M1.cs
   rw[Gj (by omega) (Nat.le_refl _),List.take_length]
  ·exact absurd ⟨by omega,hb⟩ h3
end
abbrev Pp(x:Rw):Array Value:=#[.slice x.A x.n x.c]
def H8(rl:List Rw)(f l:Nat):List Rw:=(List.range (l-f)).map λ i=>rl.getD (f+i) mH.dflt
theorem mg(rl:List Rw)(f l:Nat):(H8 rl f l).length=l-f:=by simp[H8]
theorem Cc{rl:List Rw}{f l i:Nat}(h:i<l-f):(H8 rl f l)[i]?=some (rl.getD (f+i) mH.dflt):=by simp[H8,h]
theorem pk{rl:List Rw}{f l i:Nat}{x:Rw}(e:(H8 rl f l)[i]?=some x):i<l-f /\ x=rl.getD (f+i) mH.dflt:=by
 have h1:i<l-f:=by have:=(List.getElem?_eq_some_iff.1 e).1;rwa [mg] at this
 rw[Cc h1] at e
 exact⟨h1,(Option.some.inj e).symm⟩
theorem H9(S3:Setup)(bp ev SJ rp n rc cc f l q1 q2 q3 lp:Nat)(rA cA:Option Addr)(rl:List Rw)(cl:List Ck)(X F:HL)(J:Nat -> HL -> Prop)(Jx:HL -> Prop)(T0:HL)(Sr:(q1,.lit [vI (f:Int)] 3 (0,0))∈F)(P_:(q2,.lit [vI (l:Int)] 3 (0,0))∈F)(Sq:(q3,.lit [vP rp 0] 38 (0,0))∈F)(RB:(rp,.lit (Setup.l S3++[vP bp 0,vI (ev:Int),vP SJ 0,.slice rA n rc,.slice cA cl.length cc]) 86 (0,0))∈F)(hr:RowL mH 54 F rA n rl)(Q_:f <= l /\ l <= n /\ n <= 1000000)(hY:∀i x H Y,(H8 rl f l)[i]?=some x -> J i H -> YL Tryz.prog lp (Pp x) H (Y++(X++F)) (λ b H'=>(b=true /\ J (i+1) H') \/ (b=false /\ Jx H')))(Si:J 0 T0):Sp Tryz.prog 69 #[.func (.yield lp) #[] #[],vP q1 0,vP q2 0,vP q3 0] (ap [] [T0]) (X++F) (λ _ H'=>J (H8 rl f l).length H' \/ Jx H'):=by
 refine Sp.run Tryz.func69 rfl (mc (List.mem_append_right _ Sr) (mc (List.mem_append_right _ P_) (mc (List.mem_append_right _ Sq) (mc (List.mem_append_right _ RB) mn)))) (A:=[]) (Ts:=[T0]) rfl λ w0=>?_
 refine ae 7 [.ro 0] λ _=>aB 5 (congrArg (λ v_=>(vI v_:Value)) (show (f:Int)=((f+0:Nat):Int) by omega))<|RN.loop (σ:=Nat × HL) (λ ⟨i,T_⟩=>⟨[(0,.func (.yield lp) #[] #[]),(2,vP q2 0),(3,vP q3 0),(5,vI ((f+i:Nat):Int))],[],[T_],i <= l-f /\ J i T_,l-f-i⟩) (0,T0) [] [0] (⟨Nat.zero_le _,Si⟩) ?_
 rintro⟨i,T_⟩ ⟨WK,QQ⟩ Rb
 refine ae 8 [.ro 1] λ _=>RN.em (((f+i:Nat):Int)<(l:Int)) 9 (λ h3=>?_) λ h3=>?_
 ·refine ae 13 [.ro 2,.ro 3] λ _=>?_
  obtain⟨qx4,Wm,Nx4,fx4,fzx4,W4,Yf,hox4,Yu⟩:=(hr.up (X:=X)).at (k:=(f+i)) (by omega)
  refine aB 16 (congrArg (λ v_=>(.slice v_ n rc:Value)) W4)<|RN.ro (λ _=>(mc (List.mem_append_right _ Sr) (mc (List.mem_append_right _ P_) (mc (List.mem_append_right _ Sq) (mc (List.mem_append_right _ RB) (mc Yf mn))))))<|ai 2 [.ix (f+i),.rorow 4 (Wm+(f+i)) 0] [(Wm * 1+(f+i) * 1)=(Wm+(f+i)) * 1+0 /\ (Wm+(f+i))<Nx4,((f+i:Nat):Int)=(((f+i):Nat):Int) /\ (f+i)<n] λ _=>aB 19 (congrArg (λ v_=>(.slice v_.A v_.n v_.c:Value)) Yu)<|RN.yield 0 (hY i (rl.getD (f+i) mH.dflt) _ _ (Cc (by omega)) QQ) ?_
  rintro b_ T5 (⟨rfl,hJ6⟩|⟨rfl,hJ6⟩)
  ·refine ai 12 [.gen,.nw] [aS (((f+i:Nat):Int)+1)] λ _=>aB 5 (congrArg (λ v_=>(vI v_:Value)) (show ((f+i:Nat):Int)+1=((f+(i+1):Nat):Int) by omega)) ?_
   refine Rb (i+1,T5) [] [0] ?_
   try dsimp only
   exact⟨⟨by omega,hJ6⟩,by omega⟩
  ·refine ae 4 [] λ _=>RN.ret [] [] [0] (v:=.tuple #[]) (H':=(ap [] [T5])) ?_
   rw[bB]
   exact .inr hJ6
 ·refine ae 5 [] λ _=>RN.ret [] [] [0] (v:=.tuple #[]) (H':=(ap [] [T_])) ?_
  rw[bB]
  obtain rfl:i=l-f:=by omega
  exact .inl (by rw[mg];exact QQ)
theorem vv(S3:Setup)(bp ev SJ rp n rc cc f l q1 q2 q3:Nat)(rA cA:Option Addr)(rl:List Rw)(cl:List Ck)(F:HL)(Sr:(q1,.lit [vI (f:Int)] 3 (0,0))∈F)(P_:(q2,.lit [vI (l:Int)] 3 (0,0))∈F)(Sq:(q3,.lit [vP rp 0] 38 (0,0))∈F)(RB:(rp,.lit (Setup.l S3++[vP bp 0,vI (ev:Int),vP SJ 0,.slice rA n rc,.slice cA cl.length cc]) 86 (0,0))∈F)(hr:RowL mH 54 F rA n rl)(Q_:f <= l /\ l <= n /\ n <= 1000000):It Tryz.prog 69 #[vP q1 0,vP q2 0,vP q3 0] F Pp (H8 rl f l):=by
 intro X lp J Jx H0 hY h0
 have key:=H9 S3 bp ev SJ rp n rc cc f l q1 q2 q3 lp rA cA rl cl X F J Jx H0 Sr P_ Sq RB hr Q_ hY h0
 rw[bB] at key
 exact key
theorem rY(f l:Int)(rp:Nat)(F:HL):Sp Tryz.prog 36 #[vP rp 0,vI f,vI l] (ap [] []) F (λ u H'=>∃m:Nat,H'=ap [((m+2),.lit [vI l] 3 (0,0)),((m+1),.lit [vI f] 3 (0,0)),((m+0),.lit [vP rp 0] 38 (0,0))] [] /\ u=.func (.func 69) #[] #[vP (m+1) 0,vP (m+2) 0,vP (m+0) 0]):=by
 refine Sp.run Tryz.func36 rfl mn (A:=[]) (Ts:=[]) rfl λ w0=>?_
 refine ae 14 [] λ n1=>RN.ret [] [0,1,2] [] (v:=.func (.func 69) #[] #[vP (n1+1) 0,vP (n1+2) 0,vP (n1+0) 0]) (H':=(ap [((n1+2),.lit [vI l] 3 (0,0)),((n1+1),.lit [vI f] 3 (0,0)),((n1+0),.lit [vP rp 0] 38 (0,0))] [])) ?_
 exact⟨_,rfl,rfl⟩
theorem Ib(S S3:Setup)(rs_:List Bx)(ds_:List Dr)(bp ev SJ rp n rc cc t:Nat)(J:Nat -> Nat × Int)(rA cA:Option Addr)(rl:List Rw)(cl:List Ck)(xss:List (List Inp))(F:HL)(RB:(rp,.lit (Setup.l S3++[vP bp 0,vI (ev:Int),vP SJ 0,.slice rA n rc,.slice cA cl.length cc]) 86 (0,0))∈F)(Un:SetEq S S3)(Zp:SetIn F S3)(hM:MapIn F S3 rs_ ds_)(hV:SetV S)(RI:S.rn <= 1000000)(RM:S.dn <= 1000000)(G_:48 <= sizeOf S /\ sizeOf S <= 1000)(hv:iY S rs_ ds_=0)(hr:RowL mH 54 F rA n rl)(hw:RwsIn F rl xss)(hc:RowL yc 88 F cA cl.length cl)(hck:∀k,k<cl.length -> ∃q,cl.getD k yc.dflt=⟨some ⟨q,0,none⟩,(WS S J xss (k * ev)).length,(WS S J xss (k * ev)).length,ia (WS S J xss (k * ev))⟩ /\ (q,.rows 1 (WS S J xss (k * ev)).length (aJ (WS S J xss (k * ev))) 3 (0,0))∈F)(hcl:cl.length=n / ev+1)(Is:1 <= ev /\ ev <= 60)(hE:cX F)(H_:n <= 50)(oF:∀i,i<n -> eR S.players (xss.getD i []))(Sb:∀i,i<n -> (J i).1<5 /\ AtOk F bp (i:Int) (J i))(ht:t <= n):Sp Tryz.prog 13 #[vP rp 0,vI (t:Int)] (ap [] []) F (λ u H'=>∃q:Nat,H'=ap [(q,.rows 1 (WS S J xss t).length (aJ (WS S J xss t)) 3 (0,0))] [] /\ u=.tuple #[vS q 0 (WS S J xss t).length (WS S J xss t).length,vI ((t:Int) % (ev:Int)),vI 0]):=by
 have Uu:(t:Int) % (ev:Int)=((t % ev:Nat):Int):=by first|rfl|norm_cast
 have hdm_:t / ev * ev+t % ev=t:=by rw[Nat.mul_comm];exact Nat.div_add_mod t ev
 have S0:t / ev<cl.length:=by rw[hcl];exact Nat.lt_succ_of_le (Nat.div_le_div_right ht)
 have hq_:(t:Int) / (ev:Int)=((t / ev:Nat):Int):=by first|rfl|norm_cast
 obtain⟨d,hd⟩:∃d,t / ev=d:=⟨_,rfl⟩
 rw[hd] at hdm_ S0 hq_
 obtain⟨f,hf⟩:∃f,d * ev=f:=⟨_,rfl⟩
 rw[hf] at hdm_
 have ZR:=pj (J:=J) hV (vu S) H_ oF (i:=f) (by omega)
 refine Sp.runM Tryz.func13 rfl (mc RB mn) (A:=[]) (Ts:=[]) rfl λ w0=>?_
 refine ae 13 [] λ n1=>RN.em ((t:Int)<0) 15 (λ h2=>?_) λ h2=>?_
 ·(exfalso;omega)
 ·refine ae 10 [.ro 0] λ _=>RN.em ((t:Int)>(n:Int)) 23 (λ h3=>?_) λ h3=>?_
  ·(exfalso;omega)
  ·refine ae 4 [] λ _=>RN.draw [13] []<|ag [] [0,4,1,5,2,6,3,7] [.ro 0,.ro 0,.ro 0,.ro 0,.ro 0,.ro 0,.ro 0,.ro 0,.ro 0,.ro 0,.ro 0,.ro 0,.ro 0,.ro 0,.ro 0,.ro 0,.ro 0]<|fQ 8 12 ?_ ?_
   ·refine RDO.ct [] (Hp:=[]) (Tp:=[]) [] [] (nW S3 rs_ ds_ bp _ Zp.up.cl hM.up (by rw[Un.nb];have:=hV.nb;omega) (by rw[Un.nums.2.2.2.1];exact RI) (by rw[Un.nums.2.2.2.2.1];exact RM) (by rw[Un.size];omega) (by rw[Un.val];exact hv) 99100000 (by decide)) ?_
    rintro _ ⟨g4,S5,T6⟩ ⟨rfl,he7,hG8⟩
    dsimp only at he7 hG8
    obtain⟨XY,Xk⟩:=hG8.x
    have Sv:=Un.trans2 he7
    refine ag [] [9,10,11] []<|RD.one 12 (RDO.ev [] [] λ n9=>?_)
    refine RD.one 13 (RDO.ev [] [.own 0] λ _=>?_)
    refine ag [] [14] []<|RD.fin<|ae 13 [] λ _=>RN.draw [14] []<|aC [] [0,1,5,6,2,7,3,8,4,9,10] [.own 0,.ro 0,.ro 0,.nw] [0 <= (t:Int) /\ (0:Int)<(ev:Int) /\ (t:Int) <= 9223372036854775807] ?_
    obtain⟨qx10,Sm,Za,fx10,fzx10,VV,Uh,hox10,Vo⟩:=hc.at (k:=d) S0
    refine fg 43 (congrArg (λ v_=>(.slice v_ cl.length cc:Value)) VV)<|RD.ro (λ _=>(mc RB (mc Uh mn)))<|qF [] [11,12,13] [.ix d,.rorow 1 (Sm+d) 0] [(Sm * 2+d * 2)=(Sm+d) * 2+0 /\ (Sm+d)<Za,(t:Int) / (ev:Int)=((d:Nat):Int) /\ d<cl.length] (ac ⟨by omega,by omega⟩ (ac ⟨hq_,S0⟩ an))<|fg 52 (congrArg (λ v_=>(.slice v_.A v_.n v_.c:Value)) Vo) ?_
    obtain⟨qk,W8,WB⟩:=hck d S0
    rw[hf] at W8 WB
    refine fg 52 (congrArg (λ v_:Ck=>Value.slice v_.A v_.n v_.c) W8)<|RD.ro (λ _=>(mc RB (mc Uh (mc WB mn))))<|RD.one 14 (RDO.ct [] [] [0] (yg (cap:=(WS S J xss f).length) (k:=99020000) (n:=(sizeOf S).toNat) (q:=qk) (t:=f) (M1:=(⟨(WS S J xss f),[],0⟩:MemS)) (Xk.weak (by omega)) (ar WB) (by show (WS S J xss f).length=_;omega) (by show (eT S3 S3.nb).length=_;rw[gJ,Un.size]) (by omega) (pO hV Sv H_ oF (by omega)) (by omega)) ?_)
    rintro _ ⟨M11,Xc⟩ ⟨rfl,he13,YI,hG15⟩
    dsimp only at he13 YI hG15
    refine ag [] [15] []<|RD.fin<|ai 29 [.ro 0,.nw,.nw] [aS ((t:Int)-((t:Int) % (ev:Int))),0 <= (t:Int) /\ (0:Int)<(ev:Int) /\ (t:Int) <= 9223372036854775807] λ _=>aB 66 (congrArg (λ v_=>(vI v_:Value)) (show (t:Int)-(t:Int) % (ev:Int)=(f:Int) by rw[Uu];omega))<|RN.ct (Hp:=[]) (Tp:=[]) [] [] (rY (f:Int) (t:Int) rp _) ?_
    rintro _ m16 rfl
    refine ae 3 [] λ _=>RN.range (σ:=Nat × MemS × HL) (τ:=Nat × MemS × HL × Rw) (encs:=λ (x_:Rw)=>#[.slice x_.A x_.n x_.c]) (xs:=(H8 rl f t)) (enters_of Tryz.func69 (by kernel_rfl) rfl) (λ ⟨m_,N_,T_⟩=>([],[T_])) (λ i_ ⟨m_,N_,T_⟩=>m_=i_ /\ N_.cs=(⟨WS S J xss (f+m_),[],0⟩:MemS).cs /\ (0 <= N_.base /\ N_.base <= 1000000 * (m_:Int)) /\ GameX rs_ ds_ bp g4 XY S5 N_ 99020000 T_) (λ c_ ⟨m_,N_,T_⟩=>False) (λ ⟨m_,N_,T_,p_⟩=>⟨[(4,vP (n1+0) 0),(5,vP (n1+1) 0),(6,vP (n1+2) 0),(7,vP (n9+0) 0),(10,vI ((t:Int) % (ev:Int))),(11,.slice p_.A p_.n p_.c)],[],[T_],True,0⟩) (λ i_ x_ ⟨m_,N_,T_,p_⟩=>m_=i_ /\ p_=rl.getD (f+m_) mH.dflt /\ m_<t-f /\ N_.cs=(⟨WS S J xss (f+m_),[],0⟩:MemS).cs /\ (0 <= N_.base /\ N_.base <= 1000000 * (m_:Int)) /\ GameX rs_ ds_ bp g4 XY S5 N_ 99020000 T_) (0,M11,Xc) (⟨rfl,he13,⟨by rw[YI];exact Int.le_refl 0,by rw[YI];exact Int.le_refl 0⟩,hG15⟩) [] [0] (vv S3 bp ev SJ rp n rc cc f t (m16+1) (m16+2) (m16+0) rA cA rl cl _ (av 1) (av 0) (av 2) (ar RB) hr.up ⟨by omega,ht,by omega⟩) ?_ ?_ ?_ ?_
    ·rintro l_ i_ x_ ⟨m_,N_,T_⟩ Y17 w18 ZO ⟨rfl,QZ,Wg,Tk⟩ mt20
     refine ae 3 [] λ _=>?_
     refine mt20 (m_,N_,T_,x_) [] [0] ?_
     try dsimp only
     exact⟨rfl,(pk ZO).2,(pk ZO).1,QZ,Wg,Tk⟩
    ·rintro l_ i_ x_ ⟨m_,N_,T_,p_⟩ Y21 w22 hx23 ⟨rfl,hp_,hlt_,QZ,Wg,Tk⟩
     obtain⟨bk,ok,Nk,fk,ck,UE,hIk,Zi,Zf,Uk⟩:=hw.get (k:=f+m_) (by rw[hr.len];omega)
     refine aB 11 (congrArg (λ v_:Rw=>Value.slice v_.A v_.n v_.c) (hp_.trans UE))<|ae 5 [.ro 3] λ _=>RN.ct [] [0] (pi (c:=ck) (j:=J (f+m_)) Tk (by omega) (Sb (f+m_) (by omega)).1 (by rw[rS QZ,(pO hV Sv H_ oF (i:=f+m_) (by omega)).t0];exact(Sb (f+m_) (by omega)).2.mono λ x hx=>ar (List.mem_append_right Y21 (List.mem_append_right _ hx))) (ar (List.mem_append_right Y21 (List.mem_append_right _ hE))) (ar (List.mem_append_right Y21 (List.mem_append_right _ hIk))) Zi (by have h_:=(oF (f+m_) (by omega)).1;have Q1:=hV.pl;omega) Zf ((yd hV Sv H_ oF (by omega)).cs QZ.symm)) ?_
     rintro _ ⟨M24,XO⟩ ⟨rfl,hG26,Vs,hb28⟩
     dsimp only at hG26 Vs hb28
     refine ae 12 [] λ _=>RN.rn (m_+1,M24,XO) [] [0] ?_
     try dsimp only
     exact⟨rfl,Vs.trans ((qQ _ QZ).trans (ov Sv (f+m_)).symm),⟨hb28.1,by omega⟩,hG26⟩
    ·rintro d29 ⟨m_,N_,T_⟩  ⟨rfl,QZ,Wg,Tk⟩
     refine ae 5 [.own 4] λ _=>RN.cp (Cb Tk (aq 0))<|RN.ct (Hp:=[]) (Tp:=[]) [] [] (Af Tk (aq 0)) ?_
     rintro _ q30 rfl
     refine ae 6 [.own 8,.own 7,.own 6] λ _=>RN.retM [d29] [1] [.own 7,.own 6,.own 5] [0] [] (v:=.tuple #[vS q30 0 N_.cs.length N_.cs.length,vI ((t:Int) % (ev:Int)),vI 0]) (H':=(ap [(q30,.rows 1 N_.cs.length (aJ N_.cs) 3 (0,0))] [])) ?_
     have Vt:N_.cs=WS S J xss t:=by rw[QZ,mg,show f+(t-f)=t by omega]
     exact⟨q30,by rw[Vt],by rw[Vt]⟩
    ·exact λ _ _ _ h=>h.elim
   ·refine RDO.ev [] [] λ n31=>RD.one 8 (RDO.ct [] (Hp:=[]) (Tp:=[]) [] [] (nW S3 rs_ ds_ bp _ Zp.up.cl hM.up (by rw[Un.nb];have:=hV.nb;omega) (by rw[Un.nums.2.2.2.1];exact RI) (by rw[Un.nums.2.2.2.2.1];exact RM) (by rw[Un.size];omega) (by rw[Un.val];exact hv) 99100000 (by decide)) ?_)
    rintro _ ⟨g32,S33,Xb⟩ ⟨rfl,he35,hG36⟩
    dsimp only at he35 hG36
    obtain⟨XY,Xk⟩:=hG36.x
    have Sv:=Un.trans2 he35
    refine ag [] [9,10,11] []<|RD.one 13 (RDO.ev [] [.own 0] λ _=>?_)
    refine ag [] [14] []<|RD.fin<|ae 13 [] λ _=>RN.draw [14] []<|aC [] [0,1,5,6,2,7,3,8,4,9,10] [.own 0,.ro 0,.ro 0,.nw] [0 <= (t:Int) /\ (0:Int)<(ev:Int) /\ (t:Int) <= 9223372036854775807] ?_
    obtain⟨qx37,Wn,Nx37,fx37,fzx37,hAx37,Xq,hox37,hgx37⟩:=hc.at (k:=d) S0
    refine fg 43 (congrArg (λ v_=>(.slice v_ cl.length cc:Value)) hAx37)<|RD.ro (λ _=>(mc RB (mc Xq mn)))<|qF [] [11,12,13] [.ix d,.rorow 1 (Wn+d) 0] [(Wn * 2+d * 2)=(Wn+d) * 2+0 /\ (Wn+d)<Nx37,(t:Int) / (ev:Int)=((d:Nat):Int) /\ d<cl.length] (ac ⟨by omega,by omega⟩ (ac ⟨hq_,S0⟩ an))<|fg 52 (congrArg (λ v_=>(.slice v_.A v_.n v_.c:Value)) hgx37) ?_
    obtain⟨qk,W8,WB⟩:=hck d S0
    rw[hf] at W8 WB
    refine fg 52 (congrArg (λ v_:Ck=>Value.slice v_.A v_.n v_.c) W8)<|RD.ro (λ _=>(mc RB (mc Xq (mc WB mn))))<|RD.one 14 (RDO.ct [] [] [0] (yg (cap:=(WS S J xss f).length) (k:=99020000) (n:=(sizeOf S).toNat) (q:=qk) (t:=f) (M1:=(⟨(WS S J xss f),[],0⟩:MemS)) (Xk.weak (by omega)) (ar WB) (by show (WS S J xss f).length=_;omega) (by show (eT S3 S3.nb).length=_;rw[gJ,Un.size]) (by omega) (pO hV Sv H_ oF (by omega)) (by omega)) ?_)
    rintro _ ⟨M38,V0⟩ ⟨rfl,he40,YH,hG42⟩
    dsimp only at he40 YH hG42
    refine ag [] [15] []<|RD.fin<|ai 29 [.ro 0,.nw,.nw] [aS ((t:Int)-((t:Int) % (ev:Int))),0 <= (t:Int) /\ (0:Int)<(ev:Int) /\ (t:Int) <= 9223372036854775807] λ _=>aB 66 (congrArg (λ v_=>(vI v_:Value)) (show (t:Int)-(t:Int) % (ev:Int)=(f:Int) by rw[Uu];omega))<|RN.ct (Hp:=[]) (Tp:=[]) [] [] (rY (f:Int) (t:Int) rp _) ?_
    rintro _ m43 rfl
    refine ae 3 [] λ _=>RN.range (σ:=Nat × MemS × HL) (τ:=Nat × MemS × HL × Rw) (encs:=λ (x_:Rw)=>#[.slice x_.A x_.n x_.c]) (xs:=(H8 rl f t)) (enters_of Tryz.func69 (by kernel_rfl) rfl) (λ ⟨m_,N_,T_⟩=>([],[T_])) (λ i_ ⟨m_,N_,T_⟩=>m_=i_ /\ N_.cs=(⟨WS S J xss (f+m_),[],0⟩:MemS).cs /\ (0 <= N_.base /\ N_.base <= 1000000 * (m_:Int)) /\ GameX rs_ ds_ bp g32 XY S33 N_ 99020000 T_) (λ c_ ⟨m_,N_,T_⟩=>False) (λ ⟨m_,N_,T_,p_⟩=>⟨[(4,vP (n1+0) 0),(5,vP (n1+1) 0),(6,vP (n1+2) 0),(7,vP (n31+0) 0),(10,vI ((t:Int) % (ev:Int))),(11,.slice p_.A p_.n p_.c)],[],[T_],True,0⟩) (λ i_ x_ ⟨m_,N_,T_,p_⟩=>m_=i_ /\ p_=rl.getD (f+m_) mH.dflt /\ m_<t-f /\ N_.cs=(⟨WS S J xss (f+m_),[],0⟩:MemS).cs /\ (0 <= N_.base /\ N_.base <= 1000000 * (m_:Int)) /\ GameX rs_ ds_ bp g32 XY S33 N_ 99020000 T_) (0,M38,V0) (⟨rfl,he40,⟨by rw[YH];exact Int.le_refl 0,by rw[YH];exact Int.le_refl 0⟩,hG42⟩) [] [0] (vv S3 bp ev SJ rp n rc cc f t (m43+1) (m43+2) (m43+0) rA cA rl cl _ (av 1) (av 0) (av 2) (ar RB) hr.up ⟨by omega,ht,by omega⟩) ?_ ?_ ?_ ?_
    ·rintro l_ i_ x_ ⟨m_,N_,T_⟩ Y44 w45 ZN ⟨rfl,QZ,Wg,Tk⟩ XX
     refine ae 3 [] λ _=>?_
     refine XX (m_,N_,T_,x_) [] [0] ?_
     try dsimp only
     exact⟨rfl,(pk ZN).2,(pk ZN).1,QZ,Wg,Tk⟩
    ·rintro l_ i_ x_ ⟨m_,N_,T_,p_⟩ Y48 w49 hx50 ⟨rfl,hp_,hlt_,QZ,Wg,Tk⟩
     obtain⟨bk,ok,Nk,fk,ck,UE,hIk,Zi,Zf,Uk⟩:=hw.get (k:=f+m_) (by rw[hr.len];omega)
     refine aB 11 (congrArg (λ v_:Rw=>Value.slice v_.A v_.n v_.c) (hp_.trans UE))<|ae 5 [.ro 3] λ _=>RN.ct [] [0] (pi (c:=ck) (j:=J (f+m_)) Tk (by omega) (Sb (f+m_) (by omega)).1 (by rw[rS QZ,(pO hV Sv H_ oF (i:=f+m_) (by omega)).t0];exact(Sb (f+m_) (by omega)).2.mono λ x hx=>ar (List.mem_append_right Y48 (List.mem_append_right _ hx))) (ar (List.mem_append_right Y48 (List.mem_append_right _ hE))) (ar (List.mem_append_right Y48 (List.mem_append_right _ hIk))) Zi (by have h_:=(oF (f+m_) (by omega)).1;have Q1:=hV.pl;omega) Zf ((yd hV Sv H_ oF (by omega)).cs QZ.symm)) ?_
     rintro _ ⟨M51,Wk⟩ ⟨rfl,hG53,he54,hb55⟩
     dsimp only at hG53 he54 hb55
     refine ae 12 [] λ _=>RN.rn (m_+1,M51,Wk) [] [0] ?_
     try dsimp only
     exact⟨rfl,he54.trans ((qQ _ QZ).trans (ov Sv (f+m_)).symm),⟨hb55.1,by omega⟩,hG53⟩
    ·rintro d56 ⟨m_,N_,T_⟩  ⟨rfl,QZ,Wg,Tk⟩
     refine ae 5 [.own 4] λ _=>RN.cp (Cb Tk (aq 0))<|RN.ct (Hp:=[]) (Tp:=[]) [] [] (Af Tk (aq 0)) ?_
     rintro _ q57 rfl
     refine ae 6 [.own 8,.own 7,.own 6] λ _=>RN.retM [d56] [1] [.own 7,.own 6,.own 5] [0] [] (v:=.tuple #[vS q57 0 N_.cs.length N_.cs.length,vI ((t:Int) % (ev:Int)),vI 0]) (H':=(ap [(q57,.rows 1 N_.cs.length (aJ N_.cs) 3 (0,0))] [])) ?_
     have Vt:N_.cs=WS S J xss t:=by rw[QZ,mg,show f+(t-f)=t by omega]
     exact⟨q57,by rw[Vt],by rw[Vt]⟩
    ·exact λ _ _ _ h=>h.elim
def jf:Enc Int:=⟨1,λ p k=>match k with|0=>.int .u64 p|_=>default,0⟩
noncomputable def LL:TypeInfo:=match Tryz.prog.info? 45 with|some i=>i|none=>⟨.bool,"",0,0,false,0,0,none,false,#[]⟩
noncomputable def LM:Value:=match LL.zero with|some z=>z|none=>.bool false
theorem Ic:EncOk jf Tryz.prog 45 LL LM where
 info:=by kernel_rfl
 zero:=by kernel_rfl
 size:=by kernel_rfl
 zsize:=by kernel_rfl
 zcell:=λ k hk=>by
  have h:∀k<1,LM.cells[k]?=some (jf.cell jf.dflt k):=by intro k hk;(iterate 1 (rcases k with _|k;· kernel_rfl));omega
  exact h k hk
 one:=λ x k=>by unfold jf;dsimp only;split <;> rfl
 bytes:=Nat.le_of_ble_eq_true (by kernel_rfl)
theorem Ie(h:Nat):ig [.int .u64 0]=aO jf (List.replicate h 0):=by
 have e:=jU (e:=jf) ([]:List Int) h
 rw[List.nil_append] at e
 rw[show List.replicate h (0:Int)=List.replicate h jf.dflt from rfl,e]
 funext i k
 cases k with
 | zero=>rfl
 | succ k=>simp[ig,aO,jf]
theorem D5{h:Nat}{b:Nat}{T:TypeId}:SlIs jf T [] (some ⟨b,0,none⟩) h [(b,.rows 1 h (aO jf (List.replicate h 0)) T (0,0))]:=.inr ⟨b,0,List.replicate h 0,by simp,by rw[Nat.zero_add];rfl,by simp,Nat.zero_le _,by simp⟩
theorem Ig(S3:Setup)(bp ev SJ rp n rc cc:Nat)(rA cA:Option Addr)(cl:List Ck)(F:HL)(RB:(rp,.lit (Setup.l S3++[vP bp 0,vI (ev:Int),vP SJ 0,.slice rA n rc,.slice cA cl.length cc]) 86 (0,0))∈F):Sp Tryz.prog 23 #[vP rp 0] [] F (λ u H'=>u=vI (n:Int) /\ H'=[]):=by
 refine Sp.run Tryz.func23 rfl (mc RB mn) (A:=[]) (Ts:=[]) rfl λ w0=>?_
 refine ae 15 [.ro 0] λ _=>?_
 exact RN.ret [] [] [] ⟨rfl,rfl⟩
def aI(W:Nat -> List Int)(ev m:Nat):List Int:=(List.range m).map λ k=>ia (W (k * ev))
theorem bV(W:Nat -> List Int)(ev m:Nat):(aI W ev m).length=m:=by simp[aI]
theorem yh(W:Nat -> List Int)(ev m:Nat):aI W ev (m+1)=aI W ev m++[ia (W (m * ev))]:=by simp[aI,List.range_succ]
theorem Ah(S3:Setup)(bp ev SJ rp n rc cc:Nat)(rA cA:Option Addr)(cl:List Ck)(W:Nat -> List Int)(F:HL)(RB:(rp,.lit (Setup.l S3++[vP bp 0,vI (ev:Int),vP SJ 0,.slice rA n rc,.slice cA cl.length cc]) 86 (0,0))∈F)(hc:RowL yc 88 F cA cl.length cl)(hck:∀k,k<cl.length -> ∃q,cl.getD k yc.dflt=⟨some ⟨q,0,none⟩,(W (k * ev)).length,(W (k * ev)).length,ia (W (k * ev))⟩ /\ (q,.rows 1 (W (k * ev)).length (aJ (W (k * ev))) 3 (0,0))∈F)(hcl:cl.length <= 1000000):Sp Tryz.prog 12 #[vP rp 0] [] F (λ u H'=>∃x:Option Addr × Nat × HL,H'=ap [] [x.2.2] /\ (u=.slice x.1 cl.length x.2.1 /\ SlIs jf 45 (aI W ev cl.length) x.1 x.2.1 x.2.2)):=by
 refine Sp.run Tryz.func12 rfl (mc RB mn) (A:=[]) (Ts:=[]) rfl λ w0=>?_
 refine ai 28 [.ro 0,.mk 0 cl.length,.ro 0] [0=((0:Nat):Int) /\ (cl.length:Int)=((cl.length:Nat):Int) /\ 0 <= cl.length /\ 8 * cl.length <= 140737488355328 /\ 1=1 /\ cl.length <= 9223372036854775807] λ n1=>cr 0 (congrArg (λ v_=>(.rows 1 cl.length v_ 45 (0,0):Blk)) (show (ig [.int .u64 0])=(aO jf (List.replicate cl.length 0)) from (Ie _)))<|kW 0<|RN.loop (σ:=Nat × Option Addr × Nat × HL) (λ ⟨k_,A_,c_,T_⟩=>⟨[(3,.slice A_ k_ c_),(15,.slice cA cl.length cc),(16,vI (cl.length:Int)),(17,vI (k_:Int))],[],[T_],k_ <= cl.length /\ SlIs jf 45 (aI W ev k_) A_ c_ T_,cl.length-k_⟩) (0,some ⟨(n1+0),0,none⟩,cl.length,[((n1+0),.rows 1 cl.length (aO jf (List.replicate cl.length 0)) 45 (0,0))]) [] [0] (⟨Nat.zero_le _,D5⟩) ?_
 rintro⟨k_,A_,c_,T_⟩ ⟨SW,ID⟩ QP
 refine ae 6 [] λ _=>RN.em ((k_:Int)<(cl.length:Int)) 18 (λ h4=>?_) λ h4=>?_
 ·refine ae 7 [] λ _=>?_
  obtain⟨qx5,At,Tv,fx5,YW,RV,TE,Yh,TJ⟩:=hc.at (k:=k_) (by omega)
  refine aB 15 (congrArg (λ v_=>(.slice v_ cl.length cc:Value)) RV)<|RN.ro (λ _=>(mc RB (mc TE mn)))<|ai 2 [.ix k_,.rorow 1 (At+k_) 0,.rorow 1 (At+k_) 1] [((At * 2+k_ * 2)+1)=(At+k_) * 2+1 /\ (At+k_)<Tv,(At * 2+k_ * 2)=(At+k_) * 2+0 /\ (At+k_)<Tv,(k_:Int)=((k_:Nat):Int) /\ k_<cl.length] λ _=>aB 20 (congrArg (λ v_=>(.agg #[.slice v_.A v_.n v_.c,.int .u64 v_.r]:Value)) TJ) ?_
  obtain⟨qk,W8,WB⟩:=hck k_ (by omega)
  refine aB 20 (congrArg (λ v_:Ck=>(.agg #[.slice v_.A v_.n v_.c,.int .u64 v_.r]:Value)) W8)<|ae 9 [.own 0,.own 0,.own 0] λ n6=>fR Ic (aI W ev k_) [ia (W (k_ * ev))] 0 0 (bV W ev k_).symm ID (by rw[bV,List.length_singleton];omega) ?_
  rintro A7 c8 T9 ⟨U9,hz11⟩
  refine ai 8 [.nw] [aS ((k_:Int)+1)] λ _=>aB 15 (congrArg (λ v_=>(.slice v_ cl.length cc:Value)) RV.symm) ?_
  refine QP (k_+1,A7,c8,T9) [] [0] ?_
  try dsimp only
  exact⟨⟨by omega,by rw[yh];exact U9⟩,by omega⟩
 ·refine ae 12 [] λ _=>RN.ret [] [] [0] (v:=.slice A_ k_ c_) (H':=(ap [] [T_])) ?_
  obtain rfl:k_=cl.length:=by omega
  exact⟨(A_,c_,T_),rfl,rfl,ID⟩
section
variable {rs_:List Bx} {ds_:List Dr} {bp ev rp n:Nat} {S S2:Setup} {J:Nat -> Nat × Int} {W:Nat -> List Int} {pre xss:List (List Inp)} {G F:HL}
theorem Ii(h:RecH rs_ ds_ bp ev rp S S2 W n pre G)(hF:∀x∈G,x∈F):Sp Tryz.prog 23 #[vP rp 0] [] F (λ u H'=>u=vI (n:Int) /\ H'=[]):=by
 cases h with
 | mk h3 hs hg hcs hb hr hrl hrr hc hcl hck=>exact Ig _ _ _ _ _ _ _ _ _ _ _ _ (hF _ (List.mem_append_left _ (List.mem_singleton.2 rfl)))
theorem Cd(h:RecH rs_ ds_ bp ev rp S S2 W n pre G)(hF:∀x∈G,x∈F)(hn:n <= 1000):Sp Tryz.prog 12 #[vP rp 0] (ap [] []) F (λ u H'=>∃x:Option Addr × Nat × HL,H'=ap [] [x.2.2] /\ (u=.slice x.1 (n / ev+1) x.2.1 /\ SlIs jf 45 (aI W ev (n / ev+1)) x.1 x.2.1 x.2.2)):=by
 cases h with
 | mk h3 hs hg hcs hb hr hrl hrr hc hcl hck =>
  have hd:n / ev <= n:=Nat.div_le_self _ _
  have key:=Ah _ _ _ _ _ _ _ _ _ _ _ W F (hF _ (List.mem_append_left _ (List.mem_singleton.2 rfl))) (hc.toRowL λ x hx=>hF x (by simp[ap,hx])) (hck F λ x hx=>hF x (by simp[ap,hx])) (by omega)
  rw[hcl] at key
  exact key
theorem Ij(h:RecH rs_ ds_ bp ev rp S S2 (WS S J xss) n xss G)(hF:∀x∈G,x∈F)(hV:SetV S)(RI:S.rn <= 1000000)(RM:S.dn <= 1000000)(G_:48 <= sizeOf S /\ sizeOf S <= 1000)(hv:iY S rs_ ds_=0)(Is:1 <= ev /\ ev <= 60)(hE:cX F)(H_:n <= 50)(oF:∀i,i<n -> eR S.players (xss.getD i []))(Sb:∀i,i<n -> (J i).1<5 /\ AtOk F bp (i:Int) (J i)){t:Nat}(ht:t <= n):Sp Tryz.prog 13 #[vP rp 0,vI (t:Int)] (ap [] []) F (λ u H'=>∃q:Nat,H'=ap [(q,.rows 1 (WS S J xss t).length (aJ (WS S J xss t)) 3 (0,0))] [] /\ u=.tuple #[vS q 0 (WS S J xss t).length (WS S J xss t).length,vI ((t:Int) % (ev:Int)),vI 0]):=by
 cases h with
 | mk h3 hs hg hcs hb hr hrl hrr hc hcl hck =>
  have h4:=hs F λ x hx=>hF x (by simp[ap,hx])
  have h5:=hr.toRowL (F:=F) λ x hx=>hF x (by simp[ap,hx])
  rw[hrl] at h5
  exact Ib S _ rs_ ds_ bp ev _ rp n _ _ t J _ _ _ _ xss F (hF _ (List.mem_append_left _ (List.mem_singleton.2 rfl))) h3 h4.1 h4.2 hV RI RM G_ hv h5 (hrr F λ x hx=>hF x (by simp[ap,hx])) (hc.toRowL λ x hx=>hF x (by simp[ap,hx])) (hck F λ x hx=>hF x (by simp[ap,hx])) hcl Is hE H_ oF Sb ht
end
theorem Ik(x:Int):nV (i64.wrap x):=by
 unfold nV
 rw[IntKind.wrap_i64]
 omega
theorem rZ(n:Int)(F:HL)(hn:nV n)(hE:pM F):Sp Tryz.prog 8 #[vI n] (ap [] []) F (λ u H'=>∃x:Nat × HL,H'=ap [] [x.2] /\ (u=vP x.1 0 /\ Book2 4 (au n 5).toNat (au (i64.wrap (n+1)) 5).toNat x.1 x.2)):=by
 refine Sp.run Tryz.func8 rfl mn (A:=[]) (Ts:=[]) rfl λ w0=>?_
 refine ae 8 [] λ _=>RN.cp (rR n _ hn) ?_
 have hA1:=cj (n:=n) hn 5 (by decide)
 refine RN.ct (Hp:=[]) (Tp:=[]) [] [] (Ht (au n 5).toNat _ (by omega) (ar hE)) ?_
 rintro _ ⟨b2,T3⟩ ⟨rfl,TU⟩
 dsimp only at TU
 refine ae 27 [] λ _=>RN.cp (rR (i64.wrap (n+1)) _ (Ik _)) ?_
 have hA5:=cj (n:=i64.wrap (n+1)) (Ik _) 5 (by decide)
 refine RN.ct [] [0] (KO TU 4 (by decide) (au (i64.wrap (n+1)) 5).toNat _ (by omega) (ar hE)) ?_
 rintro _ T6 ⟨rfl,hB7⟩
 refine ae 12 [] λ _=>RN.ret [] [] [0] (v:=vP b2 0) (H':=(ap [] [T6])) ?_
 exact⟨(b2,T6),rfl,rfl,hB7⟩
theorem uj(S:Setup)(A:Option Addr)(n cap:Nat)(xs:List Int)(t:Int)(F:HL)(hl:ArgL F A n xs)(hn:n <= 9223372036854775807)(hp:0 <= S.players /\ S.players <= 1000000)(ht:0 <= t /\ t <= 1000000):Sp Tryz.prog 29 #[Setup.v S,.slice A n cap,vI t] (ap [] []) F (λ u H'=>∃x:Option Addr × Nat × HL,H'=ap [] [x.2.2] /\ (u=.slice x.1 S.players.toNat x.2.1 /\ SlIs ep 119 (rowL S.players xs (t / 2) S.players.toNat) x.1 x.2.1 x.2.2 /\ cq x.1)):=by
 refine Sp.run Tryz.func29 rfl mn (A:=[]) (Ts:=[]) rfl λ w0=>?_
 refine ai 12 (ow 0 16++[.nw]) [0 <= t /\ (0:Int)<2 /\ t <= 9223372036854775807] λ n1=>RN.ct (Hp:=[]) (Tp:=[]) [] [] (JS S A n cap xs (t / 2) _ hl.up hn (by omega) (by omega)) ?_
 rintro _ ⟨A2,c3,T4⟩ ⟨rfl,R0,hz6⟩
 dsimp only at R0 hz6
 refine ae 3 [] λ _=>RN.ret [] [] [0] (v:=.slice A2 S.players.toNat c3) (H':=(ap [] [T4])) ?_
 exact⟨(A2,c3,T4),rfl,rfl,R0,hz6⟩
def bD(pl:Int)(xs:List Int)(n:Nat):List (List Inp):=(List.range n).map λ t:Nat=>rowL pl xs ((t:Int) / 2) pl.toNat
theorem yi(pl:Int)(xs:List Int)(n:Nat):bD pl xs (n+1)=bD pl xs n++[rowL pl xs ((n:Int) / 2) pl.toNat]:=by simp[bD,List.range_succ]
theorem dD(pl:Int)(xs:List Int)(n:Nat):(bD pl xs n).length=n:=by simp[bD]
theorem Ai{pl:Int}{xs:List Int}{n k:Nat}(h:k<n):(bD pl xs n).getD k []=rowL pl xs ((k:Int) / 2) pl.toNat:=by simp[bD,h]
theorem Aj{F:HL}{A:Option Addr}{n:Nat}{xs:List Int}(hl:ArgL F A n xs){pl:Int}(hp:0 <= pl)(cnt i:Nat)(hi:i<cnt):eR pl ((bD pl xs cnt).getD i []):=by
 rw[Ai hi]
 exact B9 hl hp _
theorem Ak(S:Setup)(A:Option Addr)(n cap:Nat)(xs:List Int)(c:Int)(cnt:Nat)(F:HL)(hl:ArgL F A n xs)(hn:n <= 9223372036854775807)(hp:1 <= S.players /\ S.players <= 1000000)(hc:au c 10=(cnt:Int))(h20:cnt <= 19):Sp Tryz.prog 9 #[Setup.v S,.slice A n cap,vI c] (ap [] []) F (λ u H'=>∃x:(Option Addr × Nat × List Rw) × HL × HL,H'=ap [] [x.2.1,x.2.2] /\ (u=.slice x.1.1 cnt x.1.2.1 /\ SlIs mH 54 x.1.2.2 x.1.1 x.1.2.1 x.2.1 /\ x.1.2.2.length=cnt /\ RwsT x.1.2.2 (bD S.players xs cnt) x.2.2)):=by
 refine Sp.run Tryz.func9 rfl mn (A:=[]) (Ts:=[]) rfl λ w0=>?_
 refine ae 18 [] λ n1=>RN.nt<|RN.nt<|RN.loop (σ:=Nat × Option Addr × Nat × List Rw × HL × HL) (λ ⟨t_,A_,c_,rs_,E_,T_⟩=>⟨[(1,.slice A n cap),(2,vI c),(3,vP (n1+0) 0),(7,.slice A_ t_ c_),(8,vI (t_:Int))],[((n1+0),.lit (Setup.l S) 31 (0,0))],[E_,T_],t_ <= cnt /\ t_ <= 20 /\ SlIs mH 54 rs_ A_ c_ E_ /\ rs_.length=t_ /\ RwsT rs_ (bD S.players xs t_) T_,20-t_⟩) (0,none,0,[],[],[]) [0] [0,1] (⟨Nat.zero_le _,Nat.zero_le _,SlIs.nil _ _,rfl,RwsT.nil⟩) ?_
 rintro⟨t_,A_,c_,rs_,E_,T_⟩ ⟨ht_,h20_,ID,Of,SF⟩ QP
 refine ae 5 [] λ _=>RN.cp (yb hc (by decide) _)<|ae 3 [] λ _=>RN.em ((t_:Int)<(cnt:Int)) 12 (λ h4=>?_) λ h4=>?_
 ·refine ae 10 (ow 0 16) λ _=>RN.ct (Hp:=[]) (Tp:=[]) [] [] (uj S A n cap xs (t_:Int) _ hl.up hn (by omega) (by omega)) ?_
  rintro _ ⟨A5,c6,T7⟩ ⟨rfl,hs8,hz9⟩
  dsimp only at hs8 hz9
  refine ae 1 [] λ R3=>fR B4 rs_ [(⟨A5,S.players.toNat,c6⟩:Rw)] 1 0 Of.symm ID (by simp;omega) ?_
  rintro Xd W9 Td ⟨SP,Wt⟩
  refine ai 9 [.nw] [aS ((t_:Int)+1)] λ _=>kO [2,1,0]<|mv ?_
  refine QP (t_+1,Xd,W9,rs_++[(⟨A5,S.players.toNat,c6⟩:Rw)],Td,T_++T7) [1] [1,0] ?_
  try dsimp only
  refine⟨⟨by omega,by omega,SP,by simp;omega,?_⟩,by omega⟩
  rw[yi]
  exact SF.snoc hs8 (by rw[cV];omega) (cV _ _ _ _).symm
 ·refine ae 12 [] λ _=>RN.ret [] [] [0,1] (v:=.slice A_ t_ c_) (H':=(ap [] [E_,T_])) ?_
  obtain rfl:t_=cnt:=by omega
  exact⟨((A_,c_,rs_),E_,T_),rfl,rfl,ID,Of,SF⟩
def mJ(b:Nat):Setup:=⟨1,b,0,1,1,1,[⟨⟨5,[],none,0⟩,⟨0,0,0,0,0⟩,0,0⟩],⟨0,0,0,0⟩,none,0,0,none,0,0,0,⟨0,0⟩,0,0,0,1,0⟩
theorem yj(b:Nat):iY (mJ b) [] []=0:=by kernel_rfl
theorem Al(b:Nat):SetV (mJ b):=⟨⟨show (1:Int) <= 1 by decide,show (1:Int) <= 3 by decide⟩,⟨show 1 <= 1 by decide,show 1 <= 5 by decide⟩,⟨show (1:Int) <= 1 by decide,show (1:Int) <= 3 by decide⟩,⟨show (0:Int) <= 0 by decide,show (0:Int) <= 60 by decide⟩⟩
theorem KS{b:Nat}{F:HL}(hb:(b,.rows 9 1 (jF (mJ b).bods) 78 (0,0))∈F):SetCl F (mJ b):=⟨⟨⟨show (0:Int) <= 1 by decide,show (1:Int) <= 1000000 by decide⟩,show 1 <= 1000000 by decide⟩,hb,show 0+1 <= 1 by decide,λ k hk=>by
 obtain rfl:k=0:=by have:k<1:=hk;omega
 exact⟨⟨.zero _,Nat.zero_le _⟩,.inl rfl⟩⟩
theorem Il(b:Nat)(F:HL):MapIn F (mJ b) [] []:=⟨.zero _,.zero _⟩
theorem D6(b:Nat):sizeOf (mJ b)=60:=rfl
abbrev pP(n:Nat):List (List Inp):=List.replicate n [⟨0,0,0⟩]
theorem D7{n i:Nat}(h:i<n):(pP n).getD i []=[⟨0,0,0⟩]:=by simp[pP,List.getD_eq_getElem?_getD,h]
theorem r6{n i:Nat}(h:i<n):eR 1 ((pP n).getD i []):=by
 rw[D7 h]
 refine⟨rfl,λ k hk=>?_⟩
 obtain rfl:k=0:=by have:k<1:=hk;omega
 decide
theorem Nq{e:Int}(S:Setup)(rs_:List Bx)(ds_:List Dr)(bp ev n cap:Nat)(J:Nat -> Nat × Int)(A:Option Addr)(rs:List Rw)(xss:List (List Inp))(F:HL)(hS:SetCl F S)(hM:MapIn F S rs_ ds_)(hV:SetV S)(h1:1 <= S.nb)(RI:S.rn <= 1000000)(RM:S.dn <= 1000000)(G_:(sizeOf S).toNat <= 1000000)(hv:iY S rs_ ds_=0)(Is:1 <= ev /\ ev <= 60)(hE:cX F)(hr:RowL mH 54 F A n rs)(hw:RwsIn F rs xss)(H_:n <= 50)(oF:∀i,i<n -> eR S.players (xss.getD i []))(Sb:∀i,i<n -> (J i).1<5 /\ AtOk F bp (i:Int) (J i))(he:e=(ev:Int)):Sp Tryz.prog 11 #[Setup.v S,vP bp 0,vI e,.slice A n cap] (ap [] []) F (λ u H'=>∃x:Nat × Setup × HL,H'=ap [] [x.2.2] /\ (u=vP x.1 0 /\ SetEq S x.2.1 /\ RecH rs_ ds_ bp ev x.1 S x.2.1 (WS S J xss) n xss x.2.2)):=by
 subst he
 exact yf S rs_ ds_ bp ev n cap J A rs xss F hS hM hV h1 RI RM G_ hv Is hE hr hw H_ oF Sb
theorem Im(F:HL):Sp Tryz.prog 48 #[] (ap [] []) F (λ u H'=>∃b:Nat,H'=ap [(b,.lit [vI 5,.slice none 0 0,vI 0,vI 0,vI 0,vI 0,vI 0,vI 0,vI 0] 78 (0,0))] [] /\ u=Setup.v (mJ b)):=by
 refine Sp.run Tryz.func48 rfl mn (A:=[]) (Ts:=[]) rfl λ w0=>?_
 refine ae 14 (ow 1 16) λ n1=>RN.ret (ow 1 16) [0] [] (v:=.agg #[vI 1,vS (n1+1) 0 1 1,vI 0,vI 0,vI 0,vI 0,.slice none 0 0,.slice none 0 0,vI 0,vI 0,vI 0,vI 0,vI 0,vI 0,vI 1,vI 0]) (H':=(ap [((n1+1),.lit [vI 5,.slice none 0 0,vI 0,vI 0,vI 0,vI 0,vI 0,vI 0,vI 0] 78 (0,0))] [])) ?_
 exact⟨_,rfl,rfl⟩
theorem yl(F:HL)(hE0:pM F)(Wi:cX F):Sp Tryz.prog 20 #[] [] F (λ u H'=>u=.bool true /\ H'=[]):=by
 refine Sp.run Tryz.func20 rfl mn (A:=[]) (Ts:=[]) rfl λ w0=>?_
 refine ae 17 [] λ _=>RN.nt<|RN.nt<|RN.loop (σ:=Nat × Option Addr × Nat × List Rw × HL × HL) (λ ⟨t_,A_,c_,rs_,E_,T_⟩=>⟨[(1,.slice A_ t_ c_),(2,vI (t_:Int))],[],[E_,T_],t_ <= 25 /\ SlIs mH 54 rs_ A_ c_ E_ /\ rs_.length=t_ /\ RwsT rs_ (pP t_) T_,25-t_⟩) (0,none,0,[],[],[]) [] [0,1] (⟨Nat.zero_le _,SlIs.nil _ _,rfl,RwsT.nil⟩) ?_
 rintro⟨t_,A_,c_,rs_,E_,T_⟩ ⟨ht_,ID,Of,SF⟩ Rb
 refine ae 7 [] λ _=>RN.em ((t_:Int)<25) 8 (λ h3=>?_) λ h3=>?_
 ·refine ae 10 [] λ n4=>fR B4 rs_ [(⟨some ⟨(n4+0),0,none⟩,1,1⟩:Rw)] 0 0 Of.symm ID (by simp;omega) ?_
  rintro A5 c6 T7 ⟨hs8,hz9⟩
  refine ai 9 [.nw] [aS ((t_:Int)+1)] λ _=>RN.dn 1 (.rows 3 1 (aO ep [⟨0,0,0⟩]) 119 (0,0))<|kW 1<|kO [2,0,1]<|mv ?_
  refine Rb (t_+1,A5,c6,rs_++[(⟨some ⟨(n4+0),0,none⟩,1,1⟩:Rw)],T7,T_++[((n4+0),.rows 3 1 (aO ep [⟨0,0,0⟩]) 119 (0,0))]) [] [1,0] ?_
  try dsimp only
  refine⟨⟨by omega,hs8,by simp;omega,?_⟩,by omega⟩
  rw[show pP (t_+1)=pP t_++[[⟨0,0,0⟩]] from List.replicate_succ']
  exact SF.snoc (SlIs.one (e:=ep) (x:=⟨0,0,0⟩) (b:=(n4+0))) (by decide) rfl
 ·obtain rfl:t_=25:=by omega
  refine ae 8 [] λ _=>RN.ct (Hp:=[]) (Tp:=[]) [] [] (Im _) ?_
  rintro _ b10 rfl
  refine RN.dn 0 (.rows 9 1 (jF (mJ b10).bods) 78 (0,0))<|RN.ct (Hp:=[]) (Tp:=[]) [] [] (rZ 0 _ (by decide) (ar hE0)) ?_
  rintro _ ⟨b11,Xc⟩ ⟨rfl,VU⟩
  dsimp only at VU
  replace VU:Book2 4 (au 0 5).toNat (au 1 5).toNat b11 Xc:=VU
  refine ae 1 [] λ _=>RN.ct (Hp:=[]) (Tp:=[]) [] [] (yf (mJ b10) [] [] b11 10 25 c_ (sA 4 (au 0 5).toNat (au 1 5).toNat 0) A_ rs_ (pP 25) _ (KS (av 0)) (Il _ _) (Al _) (show 1 <= 1 by decide) (show 0 <= 1000000 by decide) (show 0 <= 1000000 by decide) (show (60:Int).toNat <= 1000000 by decide) (yj _) (by decide) (ar Wi) (ID.rowN (aq 1) Of) (SF _ (aq 2)) (by decide) (λ i hi=>r6 hi) (λ i hi=>pN VU (aq 0) (by decide) (by decide) (t:=0+i) (by omega))) ?_
  rintro _ ⟨r14,S15,Tt⟩ ⟨rfl,WN,QY⟩
  dsimp only at WN QY
  refine ae 16 [] λ _=>RN.ct (Hp:=[]) (Tp:=[]) [] [] (Ij (t:=25) QY (aq 0) (Al _) (show 0 <= 1000000 by decide) (show 0 <= 1000000 by decide) (by rw[D6];decide) (yj _) (by decide) (ar Wi) (by decide) (λ i hi=>r6 hi) (λ i hi=>pN VU (aq 1) (by decide) (by decide) (t:=0+i) (by omega)) (Nat.le_refl _)) ?_
  rintro _ q19 rfl
  have ZR:((WS (mJ b10) (sA 4 (au 0 5).toNat (au 1 5).toNat 0) (pP 25) 25).length:Int)=60:=pj (J:=(sA 4 (au 0 5).toNat (au 1 5).toNat 0)) (Al b10) (vu _) (n:=25) (by decide) (λ i hi=>r6 hi) (Nat.le_refl _)
  refine ae 12 [] λ _=>RN.ct (Hp:=[]) (Tp:=[]) [] [] (Cd QY (aq 0) (n:=25) (by decide)) ?_
  rintro _ ⟨A20,c21,XQ⟩ ⟨rfl,hs23⟩
  refine ae 11 [] λ _=>cF 40 (decide_eq_true (show ((25:Nat):Int) % ((10:Nat):Int)=5 by decide))<|ae 5 [] λ _=>cF 45 (decide_eq_true ZR)<|ae 1 [] λ _=>RN.cp (Ii QY (aq 1))<|ae 5 [] λ _=>?_
  exact RN.ret [] [] [] ⟨rfl,rfl⟩
def iy:Enc Int:=⟨1,λ p k=>match k with|0=>.int .u8 p|_=>default,0⟩
noncomputable def Pq:TypeInfo:=match Tryz.prog.info? 5 with|some i=>i|none=>⟨.bool,"",0,0,false,0,0,none,false,#[]⟩
noncomputable def Pr:Value:=match Pq.zero with|some z=>z|none=>.bool false
theorem Ce:EncOk iy Tryz.prog 5 Pq Pr where
 info:=by kernel_rfl
 zero:=by kernel_rfl
 size:=by kernel_rfl
 zsize:=by kernel_rfl
 zcell:=λ k hk=>by
  have h:∀k<1,Pr.cells[k]?=some (iy.cell iy.dflt k):=by intro k hk;(iterate 1 (rcases k with _|k;· kernel_rfl));omega
  exact h k hk
 one:=λ x k=>by unfold iy;dsimp only;split <;> rfl
 bytes:=Nat.le_of_ble_eq_true (by kernel_rfl)
def sQ(x:Inp):Int:=u8.wrap (i64.wrap (i64.wrap (i64.wrap (x.dx+1)+i64.wrap (3 * i64.wrap (x.dy+1)))+i64.wrap (9 * x.act)))
def lG(xs:List Inp):List Int:=xs.map sQ
theorem i7(xs:List Inp):(lG xs).length=xs.length:=by simp[lG]
def i8(xs:List Inp)(k:Nat):List Int:=(lG xs).take k++List.replicate (xs.length-k) 0
theorem D8{xs:List Inp}{k:Nat}(h:k <= xs.length):(i8 xs k).length=xs.length:=by simp[i8,i7];omega
theorem Am(xs:List Inp):i8 xs 0=List.replicate xs.length 0:=by simp[i8]
theorem D9(xs:List Inp):i8 xs xs.length=lG xs:=by simp[i8,<- i7]
theorem Ea{xs:List Inp}{k:Nat}(h:k<xs.length):(i8 xs k).set k (sQ (xs.getD k dI))=i8 xs (k+1):=by
 have hl:(lG xs).length=xs.length:=i7 xs
 apply List.ext_getElem?
 intro i
 unfold i8
 rw[List.getElem?_set]
 by_cases e:k=i
 ·subst e
  rw[if_pos rfl,if_pos (by simp;omega),List.getElem?_append,if_pos (by simp;omega),List.getElem?_take,if_pos (by omega)]
  simp[lG,h,List.getD_eq_getElem?_getD]
 ·rw[if_neg e,List.getElem?_append,List.getElem?_append]
  by_cases h1:i<k
  ·rw[if_pos (by simp;omega),if_pos (by simp;omega),List.getElem?_take,List.getElem?_take,if_pos h1,if_pos (by omega)]
  ·rw[if_neg (by simp;omega),if_neg (by simp;omega)]
   simp only[List.getElem?_replicate,List.length_take]
   congr 1
   simp only[eq_iff_iff]
   omega
theorem Ps{l:List Int}{i:Nat}(h:i<l.length)(v:Int):dh (aO iy l) i 0 (.int .u8 v)=aO iy (l.set i v):=by
 funext i' k'
 unfold dh aO
 by_cases h1:i'=i
 ·subst h1
  rw[dq h]
  rcases k' with _|k'
  ·rw[if_pos ⟨rfl,rfl⟩];rfl
  ·rw[if_neg (by omega)]
   rcases k' with _|k' <;> rfl
 ·rw[if_neg (by simp[h1]),cS (λ e=>h1 e.symm)]
def fX(r:Int)(k:Nat):List Int:=(List.range k).map λ i=>u8.wrap (r.fdiv (2 ^ (8 * i)))
theorem ym(r:Int)(k:Nat):fX r (k+1)=fX r k++[u8.wrap (r.fdiv (2 ^ (8 * k)))]:=by simp[fX,List.range_succ]
theorem r7(r:Int)(k:Nat):(fX r k).length=k:=by simp[fX]
theorem Io{r:Int}{k:Nat}(h:k<8):u8.wrap (r.fdiv (2 ^ min (8 * (k:Int)).toNat 64))=u8.wrap (r.fdiv (2 ^ (8 * k))):=by rw[show min (8 * (k:Int)).toNat 64=8 * k by omega]
def eG(ev n:Nat)(xss:List (List Inp))(roots:List Int):List Int:=[u8.wrap (ev:Int)]++[u8.wrap (n:Int)]++(xss.map lG).flatten++(roots.map λ r=>fX r 8).flatten
def fB(ev n:Nat)(xss:List (List Inp))(m:Nat):List Int:=[u8.wrap (ev:Int)]++[u8.wrap (n:Int)]++((xss.take m).map lG).flatten
theorem mh{ev n:Nat}{xss:List (List Inp)}{m:Nat}(h:m<xss.length):fB ev n xss (m+1)=fB ev n xss m++lG (xss.getD m []):=by
 unfold fB
 rw[kg h [],List.map_append,List.flatten_append]
 simp
theorem vw{ev n:Nat}{xss:List (List Inp)}(hx:∀i,i<xss.length -> (xss.getD i []).length <= 1000):∀m,m <= xss.length -> (fB ev n xss m).length <= 2+1000 * m
 | 0,_=>by simp[fB]
 | m+1,h=>by
  rw[mh (by omega),List.length_append,i7]
  have:=vw (ev:=ev) (n:=n) hx m (by omega)
  have:=hx m (by omega)
  omega
def gc(P roots:List Int)(k j:Nat):List Int:=P++((roots.take k).map λ r=>fX r 8).flatten++fX (roots.getD k 0) j
theorem Cf(P roots:List Int):gc P roots 0 0=P:=by simp[gc,fX]
theorem uk(P roots:List Int)(k j:Nat):gc P roots k (j+1)=gc P roots k j++[u8.wrap ((roots.getD k 0).fdiv (2 ^ (8 * j)))]:=by
 unfold gc
 rw[ym]
 simp
theorem pm{P roots:List Int}{k:Nat}(h:k<roots.length):gc P roots k 8=gc P roots (k+1) 0:=by
 unfold gc
 rw[kg h 0,List.map_append,List.flatten_append]
 simp[fX]
theorem r8{P roots:List Int}:∀ {k:Nat},k <= roots.length -> ∀j,(gc P roots k j).length=P.length+8 * k+j
 | 0,_,j=>by simp[gc,r7]
 | k+1,h,j=>by
  have:=r8 (P:=P) (show k <= roots.length by omega) 8
  rw[pm (by omega)] at this
  have e:(gc P roots (k+1) j).length=(gc P roots (k+1) 0).length+j:=by
   unfold gc
   simp only[List.length_append,r7]
   omega
  omega
theorem yn{ev n m:Nat}{xss:List (List Inp)}{roots:List Int}(h:n=xss.length)(hm:m=roots.length):gc (fB ev n xss n) roots m 0=eG ev n xss roots:=by
 subst hm
 unfold gc fB eG
 rw[List.take_of_length_le (by omega),List.take_of_length_le (Nat.le_refl _)]
 simp[fX]
theorem KT(xs:List Inp):ig [.int .u8 0]=aO iy (i8 xs 0):=by
 rw[Am]
 have e:=jU (e:=iy) ([]:List Int) xs.length
 rw[List.nil_append] at e
 rw[show List.replicate xs.length (0:Int)=List.replicate xs.length iy.dflt from rfl,e]
 funext i k
 cases k with
 | zero=>rfl
 | succ k=>simp[ig,aO,iy]
theorem Ip{F:HL}{q n N:Nat}{l:List Int}{fz:Nat × Nat}(hq:(q,.rows 1 N (aO iy l) 5 fz)∈F)(hn:l.length=n)(hN:n <= N):SrcIn Tryz.prog iy F (some ⟨q,0,none⟩) n l:=by
 subst hn
 exact RowL.src Ce (by decide) (RowL.whole hq hN)
def eK(l:List Int)(i:Nat):Nat -> Int
 | 0=>0
 | k+1=>PG (eK l i k) (u64.wrap (u64.wrap (l.getD (8 * i+k) 0) * 2 ^ min (8 * (k:Int)).toNat 64))
def LN(l:List Int)(i:Nat):Nat:=min 8 (l.length-8 * i)
def k9(l:List Int):Nat:=(l.length+7) / 8
def bu(l:List Int):List Int:=(List.range (k9 l)).map λ i=>eK l i (LN l i)
theorem lH(l:List Int):(bu l).length=k9 l:=by simp[bu]
theorem pQ{l:List Int}{i:Nat}(h:8 * i<l.length):(bu l)[i]?=some (eK l i (LN l i)):=by
 have:i<k9 l:=by unfold k9;omega
 simp[bu,this]
def fM(s:Int)(ws:List Int):Nat -> Int
 | 0=>s
 | k+1=>iU (fM s ws k) (ws.getD k 0)
def sa(b:ByteArray)(l:List Int):Int:=iU (iU (fM (cM b ((k9 l:Nat)+1:Int)) (bu l) (k9 l)) (u64.wrap (l.length:Int))) 0
abbrev yK(x:Int):Prop:=0 <= x /\ x<18446744073709551616
theorem KU(n:Int):u64.wrap n=((BitVec.ofInt 64 n).toNat:Int):=by
 rw[IntKind.wrap_u64,BitVec.toNat_ofInt]
 omega
theorem yo(v:BitVec 64):u64.wrap (v.toNat:Int)=(v.toNat:Int):=by
 rw[IntKind.wrap_u64]
 have:=v.isLt
 omega
theorem Iq(v:BitVec 64):BitVec.ofInt 64 (v.toNat:Int)=v:=by
 apply BitVec.eq_of_toNat_eq
 rw[BitVec.toNat_ofInt]
 have:=v.isLt
 omega
theorem Cg(a b:Int):Jr a b=((BitVec.ofInt 64 a ^^^ BitVec.ofInt 64 b).toNat:Int):=yo _
theorem Nr(a b:Int):PG a b=((BitVec.ofInt 64 a ||| BitVec.ofInt 64 b).toNat:Int):=yo _
def Ns(a b:BitVec 64):BitVec 64:=((a ^^^ b) * 11400714819323198485#64) ^^^ (((a ^^^ b) * 11400714819323198485#64) >>> 32)
theorem KV(a b:Int):iU a b=((Ns (BitVec.ofInt 64 a) (BitVec.ofInt 64 b)).toNat:Int):=by
 unfold iU Ns
 rw[Cg a b,KU]
 generalize BitVec.ofInt 64 a ^^^ BitVec.ofInt 64 b=x
 rw[BitVec.ofInt_mul,Iq]
 rw[Cg,Iq]
 rw[show BitVec.ofInt 64 11400714819323198485=11400714819323198485#64 from rfl]
 generalize hm:x * 11400714819323198485#64=m
 have e:BitVec.ofInt 64 ((m.toNat:Int).fdiv 4294967296)=m >>> 32:=by
  apply BitVec.eq_of_toNat_eq
  rw[BitVec.toNat_ofInt,BitVec.toNat_ushiftRight,Nat.shiftRight_eq_div_pow]
  have:=m.isLt
  rw[Int.fdiv_eq_ediv_of_nonneg _ (by decide)]
  omega
 rw[e]
theorem Nt(a b:Int):yK (iU a b):=by
 rw[KV]
 have:=(Ns (BitVec.ofInt 64 a) (BitVec.ofInt 64 b)).isLt
 unfold yK
 omega
theorem Ir{x:Int}(h:yK x):u64.wrap x=x:=by rw[IntKind.wrap_u64];unfold yK at h;omega
theorem KW{a x k:Nat}(ha:a<2 ^ k)(hx:2 ^ k * x+a<18446744073709551616):PG (a:Int) ((2 ^ k * x:Nat):Int)=((2 ^ k * x+a:Nat):Int):=by
 rw[Nr]
 congr 1
 rw[BitVec.toNat_or,BitVec.toNat_ofInt,BitVec.toNat_ofInt]
 have e1:(((a:Int) % ((2 ^ 64:Nat):Int)).toNat)=a:=by omega
 have e2:((((2 ^ k * x:Nat):Int) % ((2 ^ 64:Nat):Int)).toNat)=2 ^ k * x:=by omega
 rw[e1,e2,Nat.or_comm,Nat.two_pow_add_eq_or_of_lt ha]
theorem yp{l:List Int}(h8:∀i,0 <= l.getD i 0 /\ l.getD i 0<256)(i:Nat):∀k,k <= 8 -> ∃a:Nat,eK l i k=(a:Int) /\ a<2 ^ (8 * k) /\ ∀x:Nat,l.getD (8 * i+k) 0=(x:Int) -> k<8 -> eK l i (k+1)=((2 ^ (8 * k) * x+a:Nat):Int):=by
 have step:∀k,k<8 -> ∀a x:Nat,eK l i k=(a:Int) -> a<2 ^ (8 * k) -> l.getD (8 * i+k) 0=(x:Int) -> eK l i (k+1)=((2 ^ (8 * k) * x+a:Nat):Int) /\ 2 ^ (8 * k) * x+a<2 ^ (8 * (k+1)):=λ k hk a x ha hl hx=>by
  have Xl:x<256:=by have:=(h8 (8 * i+k)).2;omega
  have hb:2 ^ (8 * k) * x+a<2 ^ (8 * (k+1)):=by
   rw[show 8 * (k+1)=8 * k+8 by omega,Nat.pow_add]
   generalize 2 ^ (8 * k)=P at *
   have:P * x+P <= P * 256:=by rw[<- Nat.mul_succ];exact Nat.mul_le_mul (Nat.le_refl _) Xl
   show P * x+a<P * 256
   omega
  have Uz:2 ^ (8 * (k+1)) <= 2 ^ 64:=Nat.pow_le_pow_right (by decide) (by omega)
  refine⟨?_,hb⟩
  rw[eK,ha,hx,Ir (x:=(x:Int)) (by unfold yK;omega)]
  have e:(x:Int) * 2 ^ min (8 * (k:Int)).toNat 64=((2 ^ (8 * k) * x:Nat):Int):=by
   rw[show min (8 * (k:Int)).toNat 64=8 * k by omega,Int.mul_comm]
   simp
  rw[e,Ir (by unfold yK;omega)]
  exact KW hl (by omega)
 intro k
 induction k with
 | zero=>exact λ _=>⟨0,rfl,by decide,λ x hx h=>(step 0 h 0 x rfl (by decide) hx).1⟩
 | succ k ih =>
  intro hk
  obtain⟨a,ha,hl,_⟩:=ih (by omega)
  have hx:=h8 (8 * i+k)
  obtain⟨x,ex⟩:=Int.eq_ofNat_of_zero_le hx.1
  obtain⟨e1,e2⟩:=step k (by omega) a x ha hl ex
  exact⟨_,e1,e2,λ y hy h=>(step (k+1) h _ y e1 e2 hy).1⟩
def jg(b:Int):Inp:=⟨b % 3-1,b / 3 % 3-1,b / 9⟩
theorem po{n:Int}(h:-9223372036854775808 <= n /\ n <= 9223372036854775807):i64.wrap n=n:=by rw[IntKind.wrap_i64];omega
theorem yq{x:Inp}(h1:-1 <= x.dx /\ x.dx <= 1)(h2:-1 <= x.dy /\ x.dy <= 1)(h3:0 <= x.act /\ x.act <= 3):sQ x=x.dx+1+3 * (x.dy+1)+9 * x.act:=by
 unfold sQ
 rw[po (n:=x.dx+1) (by omega),po (n:=x.dy+1) (by omega),po (n:=3 * (x.dy+1)) (by omega),po (n:=x.dx+1+3 * (x.dy+1)) (by omega),po (n:=9 * x.act) (by omega),po (by omega),IntKind.wrap_u8]
 omega
theorem Iu{x:Inp}(h:jW x):(-1 <= x.dx /\ x.dx <= 1) /\ (-1 <= x.dy /\ x.dy <= 1) /\ (0 <= x.act /\ x.act <= 3):=by unfold jW at h;omega
theorem Eb{x:Inp}(h:jW x):jg (sQ x)=x:=by
 obtain⟨h1,h2,h3⟩:=Iu h
 rw[yq h1 h2 h3]
 obtain⟨dx,dy,act⟩:=x
 unfold jg
 simp only[Inp.mk.injEq] at h1 h2 h3 ⊢
 refine⟨?_,?_,?_⟩ <;> omega
theorem KX{b:Int}(h:0 <= b /\ b<36):jW (jg b):=by
 unfold jg jW
 simp only
 omega
theorem KY{x:Inp}(h:jW x):0 <= sQ x /\ sQ x<36:=by
 obtain⟨h1,h2,h3⟩:=Iu h
 rw[yq h1 h2 h3]
 omega
theorem lI{α:Type}{pl:Nat}:∀ (ls:List (List α)),(∀x∈ls,x.length=pl) -> ls.flatten.length=ls.length * pl
 | [],_=>by simp
 | a::r,h=>by
  rw[List.flatten_cons,List.length_append,lI r λ x hx=>h x (List.mem_cons_of_mem _ hx),h a List.mem_cons_self,List.length_cons,Nat.succ_mul,Nat.add_comm]
theorem sc{α:Type}{pl:Nat}:∀ (ls:List (List α)),(∀x∈ls,x.length=pl) -> ∀i k,k<pl -> ls.flatten[i * pl+k]?=(ls[i]?).bind λ l=>l[k]?
 | [],_,i,k,_=>by simp
 | a::r,h,0,k,hk=>by
  rw[List.flatten_cons,Nat.zero_mul,Nat.zero_add,List.getElem?_append_left (by rw[h a List.mem_cons_self];exact hk)]
  rfl
 | a::r,h,i+1,k,hk=>by
  have ha:=h a List.mem_cons_self
  rw[List.flatten_cons,List.getElem?_append_right (by rw[ha,Nat.succ_mul];omega),ha,show (i+1) * pl+k-pl=i * pl+k by rw[Nat.succ_mul];omega,sc r (λ x hx=>h x (List.mem_cons_of_mem _ hx)) i k hk]
  rfl
section
variable {ev n pl:Nat} {xss:List (List Inp)} {roots:List Int}
theorem ox(hl:∀x∈xss,x.length=pl):∀x∈xss.map lG,x.length=pl:=λ x hx=>by
 obtain⟨y,hy,rfl⟩:=List.mem_map.1 hx
 rw[lG,List.length_map,hl y hy]
theorem ul:∀x∈roots.map λ r=>fX r 8,x.length=8:=λ x hx=>by
 obtain⟨y,hy,rfl⟩:=List.mem_map.1 hx
 simp[fX]
theorem sd(hl:∀x∈xss,x.length=pl)(hn:xss.length=n):(eG ev n xss roots).length=2+n * pl+8 * roots.length:=by
 unfold eG
 rw[List.length_append,List.length_append,lI _ (ox hl),lI _ ul,List.length_map,List.length_map,hn]
 simp
 omega
theorem Nv:(eG ev n xss roots).getD 0 0=u8.wrap (ev:Int):=rfl
theorem Nw:(eG ev n xss roots).getD 1 0=u8.wrap (n:Int):=rfl
theorem yr(hl:∀x∈xss,x.length=pl)(hn:xss.length=n){i k:Nat}(hi:i<n)(hk:k<pl):(eG ev n xss roots).getD (2+i * pl+k) 0=sQ ((xss.getD i []).getD k dI):=by
 have hb:i * pl+k<n * pl:=by
  have:(i+1) * pl <= n * pl:=Nat.mul_le_mul_right _ hi
  rw[Nat.succ_mul] at this
  omega
 unfold eG
 rw[List.getD_eq_getElem?_getD,List.getElem?_append_left (by rw[List.length_append,lI _ (ox hl),List.length_map,hn];simp;omega),List.getElem?_append_right (by simp;omega),show 2+i * pl+k-([u8.wrap (ev:Int)]++[u8.wrap (n:Int)]).length=i * pl+k by simp;omega,sc _ (ox hl) i k hk]
 have h1:i<xss.length:=by omega
 have h2:xss[i].length=pl:=hl _ (List.getElem_mem h1)
 have h3:k<xss[i].length:=by omega
 simp[h1,lG,h3]
theorem Ec(hl:∀x∈xss,x.length=pl)(hn:xss.length=n){r m:Nat}(hr:r<roots.length)(hm:m<8):(eG ev n xss roots).getD (2+n * pl+(8 * r+m)) 0=u8.wrap ((roots.getD r 0).fdiv (2 ^ (8 * m))):=by
 have e:([u8.wrap (ev:Int)]++[u8.wrap (n:Int)]++(xss.map lG).flatten).length=2+n * pl:=by
  rw[List.length_append,lI _ (ox hl),List.length_map,hn]
  simp
 unfold eG
 rw[List.getD_eq_getElem?_getD,List.getElem?_append_right (by omega),e,show 2+n * pl+(8 * r+m)-(2+n * pl)=r * 8+m by omega,sc _ ul r m hm]
 simp[hr,fX,hm]
theorem yt{x:Int}(hx:x∈eG ev n xss roots):0 <= x /\ x<256:=by
 have hw:∀y:Int,0 <= u8.wrap y /\ u8.wrap y<256:=λ y=>by rw[IntKind.wrap_u8];omega
 unfold eG at hx
 simp only[List.mem_append,List.mem_singleton,List.mem_flatten,List.mem_map] at hx
 rcases hx with ((rfl|rfl)|⟨l,⟨y,hy,rfl⟩,hx⟩)|⟨l,⟨y,hy,rfl⟩,hx⟩
 ·exact hw _
 ·exact hw _
 ·obtain⟨z,_,rfl⟩:=List.mem_map.1 hx
  exact hw _
 ·obtain⟨z,_,rfl⟩:=List.mem_map.1 hx
  exact hw _
end
theorem Iv{l:List Int}(h:∀x∈l,0 <= x /\ x<256)(i:Nat):0 <= l.getD i 0 /\ l.getD i 0<256:=by
 rw[List.getD_eq_getElem?_getD]
 by_cases hi:i<l.length
 ·rw[List.getElem?_eq_getElem hi]
  exact h _ (List.getElem_mem hi)
 ·rw[List.getElem?_eq_none (by omega)]
  exact⟨by decide,by decide⟩
theorem um{l:List Int}(h8:∀i,0 <= l.getD i 0 /\ l.getD i 0<256){i:Nat}{z:Nat}:∀k,k <= 8 -> (∀m,m<k -> l.getD (8 * i+m) 0=((z / 2 ^ (8 * m) % 256:Nat):Int)) -> eK l i k=((z % 2 ^ (8 * k):Nat):Int)
 | 0,_,_=>by simp[eK,Nat.mod_one]
 | k+1,hk,h=>by
  obtain⟨a,ha,hl,hs⟩:=yp h8 i k (by omega)
  have ih:=um h8 k (by omega) λ m hm=>h m (by omega)
  rw[hs _ (h k (by omega)) (by omega)]
  have e:a=z % 2 ^ (8 * k):=by rw[ha] at ih;exact Int.ofNat_inj.1 ih
  rw[e,show 8 * (k+1)=8 * k+8 by omega,Nat.pow_add,Nat.mod_mul,Nat.add_comm]
def p6(pl n:Nat)(D:List Int):List (List Inp):=(List.range n).map λ i=>(List.range pl).map λ k=>jg (D.getD (2+i * pl+k) 0)
def lJ(pl n m:Nat)(D:List Int):List Int:=(List.range m).map λ r=>eK (D.drop (2+n * pl)) r 8
theorem Iw(pl n:Nat)(D:List Int):(p6 pl n D).length=n:=by simp[p6]
theorem Iy{pl n:Nat}{D:List Int}{i:Nat}(h:i<n):(p6 pl n D).getD i []=(List.range pl).map λ k=>jg (D.getD (2+i * pl+k) 0):=by simp[p6,h]
theorem Iz{ev n pl:Nat}{xss:List (List Inp)}{roots:List Int}(hn:xss.length=n)(h:∀i,i<n -> eR pl (xss.getD i [])):p6 pl n (eG ev n xss roots)=xss:=by
 have hl:∀x∈xss,x.length=pl:=λ x hx=>by
  obtain⟨i,hi,rfl⟩:=List.getElem_of_mem hx
  have:=(h i (by omega)).1
  rw[List.getD_eq_getElem?_getD,List.getElem?_eq_getElem hi,Option.getD_some] at this
  omega
 apply List.ext_getElem (by rw[Iw,hn])
 intro i h1 h2
 have hi:i<n:=by omega
 have e:∀l:List (List Inp),(hl:i<l.length) -> l[i]=l.getD i []:=λ l hl=>by rw[List.getD_eq_getElem?_getD,List.getElem?_eq_getElem hl];rfl
 rw[e _ h1,e _ h2,Iy hi]
 have hlen:(xss.getD i []).length=pl:=by have:=(h i hi).1;omega
 apply List.ext_getElem (by simp;exact hlen.symm)
 intro k k1 k2
 have hk:k<pl:=by simpa using k1
 simp only[List.getElem_map,List.getElem_range]
 rw[yr hl hn hi hk,Eb ((h i hi).2 k (by omega)),List.getD_eq_getElem?_getD,List.getElem?_eq_getElem k2]
 rfl
theorem Ed{ev n pl:Nat}{xss:List (List Inp)}{roots:List Int}(hn:xss.length=n)(h:∀i,i<n -> eR pl (xss.getD i []))(hp:0<pl):∀j,j<n * pl -> (eG ev n xss roots).getD (2+j) 0<36:=λ j hj=>by
 have hl:∀x∈xss,x.length=pl:=λ x hx=>by
  obtain⟨i,hi,rfl⟩:=List.getElem_of_mem hx
  have:=(h i (by omega)).1
  rw[List.getD_eq_getElem?_getD,List.getElem?_eq_getElem hi,Option.getD_some] at this
  omega
 have hi:j / pl<n:=Nat.div_lt_of_lt_mul (by rw[Nat.mul_comm];exact hj)
 have hk:j % pl<pl:=Nat.mod_lt _ hp
 have:=yr (ev:=ev) (roots:=roots) hl hn hi hk
 rw[show 2+j / pl * pl+j % pl=2+j by have:=Nat.div_add_mod j pl;rw[Nat.mul_comm] at this;omega] at this
 rw[this]
 exact(KY ((h _ hi).2 _ (by have:=(h _ hi).1;omega))).2
theorem An{ev n pl:Nat}{xss:List (List Inp)}{roots:List Int}(hn:xss.length=n)(hl:∀x∈xss,x.length=pl)(hu:∀i,yK (roots.getD i 0)):lJ pl n roots.length (eG ev n xss roots)=roots:=by
 apply List.ext_getElem (by simp[lJ])
 intro r h1 h2
 simp only[lJ,List.getElem_map,List.getElem_range]
 have h8:=Iv (l:=eG ev n xss roots) λ x hx=>yt hx
 have e:∀j,((eG ev n xss roots).drop (2+n * pl)).getD j 0=(eG ev n xss roots).getD (2+n * pl+j) 0:=λ j=>by rw[List.getD_eq_getElem?_getD,List.getElem?_drop,<- List.getD_eq_getElem?_getD]
 obtain⟨z,hz⟩:=Int.eq_ofNat_of_zero_le (hu r).1
 have UJ:=(hu r).2
 have e2:roots[r]=(z:Int):=by rw[<- hz,List.getD_eq_getElem?_getD,List.getElem?_eq_getElem h2];rfl
 rw[um (z:=z) (λ j=>by rw[e];exact h8 _) 8 (Nat.le_refl _),e2]
 ·rw[Nat.mod_eq_of_lt]
  show z<2 ^ 64
  omega
 ·intro m hm
  rw[e,Ec hl hn h2 hm,hz,Int.fdiv_eq_ediv_of_nonneg _ (by exact Int.le_of_lt (Int.pow_pos (by decide))),IntKind.wrap_u8]
  simp
end Go.Proofs.YtgdcbiiopbpgaaaGreatDoor
