import Derived.Test.YtdppjkjbghbnjaaGreatDoorY22
import Derived.Test.YtdppjkjbghbnjaaGreatDoorY13
set_option maxHeartbeats 4000000
set_option maxRecDepth 100000
set_option linter.all false
namespace Go.Proofs.YtdppjkjbghbnjaaGreatDoor
open IntKind
open Go.RowKit
section
variable {S S2:Setup} {J:Nat -> Nat × Int} {xss:List (List Inp)} {n:Nat}
theorem mt(hV:SetV S)(he:SetEq S S2)(hn:n <= 50)(o_:∀i,i<n -> RowOk S.players (xss.getD i [])){i:Nat}(hi:i <= n):((WS S J xss i).length:Int)=sizeOf S:=by
 have h:=(sj (J:=J) hV he hn o_ hi).len;rw[he.size] at h;exact h
end
section
variable {rs:List Bx} {ds:List Dr} {bp gb mb:Nat} {S:Setup} {M:MemS} {k:Nat} {G0:HL}
theorem mu(h:GameX rs ds bp gb mb S M k G0){F:HL}(hF:∀x∈G0,x∈F):Sp Tryz.prog 56 #[vP mb 0] (ap [] []) F (λ u H'=>∃q,H'=ap [(q,.rows 1 M.cs.length (aB M.cs) 3 (0,0))] [] /\ u=vS q 0 M.cs.length M.cs.length):=by
 obtain⟨T,hM,hT⟩:=h.mem;exact gh mb M k T F hM λ x hx=>hF x (hT x hx)
end
theorem uT{rs:List Bx}{ds:List Dr}{bp gb mb:Nat}{S:Setup}{M:MemS}{k:Nat}{G0:HL}(h:GameX rs ds bp gb mb S M k G0){F:HL}(hF:∀x∈G0,x∈F)(hb:0 <= M.base /\ M.base <= 1000000000):Sp Tryz.prog 59 #[vP mb 0] [] F (λ u H'=>u=vI (M.base+(M.lg.length:Int)) /\ H'=[]):=by
 obtain⟨T,hM,hT⟩:=h.mem;exact pw hM (λ x hx=>hF x (hT x hx)) hb
theorem BO{rs:List Bx}{ds:List Dr}{bp gb mb:Nat}{S:Setup}{M:MemS}{k:Nat}{G0:HL}(h:GameX rs ds bp gb mb S M k G0)(F:HL){k2:Nat}(hk:k2 <= 100000000)(hb:0 <= M.base /\ M.base <= 1000000000):Sp Tryz.prog 58 #[vP mb 0,vI (M.base+(M.lg.length:Int))] (ap [] [G0]) F (λ u H'=>∃x,H'=ap [] [x] /\ (u=vI 0 /\ GameX rs ds bp gb mb S ⟨M.cs,[],M.base+(M.lg.length:Int)⟩ k2 x)):=by
 cases h with
 | mk T U hM hU =>
  have h1:=kq (k2:=k2) ([(gb,Blk.lit (bP S bp mb) 121 (0,0))]++(U++F)) hM hb hk;refine Sp.fr (X:=[(gb,Blk.lit (bP S bp mb) 121 (0,0))]++U) ?_ (F:=F) (by rw[List.append_assoc];exact h1) ?_
  ·rw[aP,aP];show (([(gb,Blk.lit (bP S bp mb) 121 (0,0))]++[T,U].flatten)).Perm _;simp only[List.flatten_cons,List.flatten_nil,List.append_nil];exact(List.perm_append_comm_assoc _ _ _)
  ·rintro u Y ⟨x,rfl,rfl,h4⟩;refine⟨ap [(gb,Blk.lit (bP S bp mb) 121 (0,0))] [x,U],⟨_,(aP _).symm,rfl,.mk x U h4 hU⟩,?_⟩;rw[aP];show (([(gb,Blk.lit (bP S bp mb) 121 (0,0))]++[x,U].flatten)).Perm _;simp only[List.flatten_cons,List.flatten_nil,List.append_nil];exact(List.perm_append_comm_assoc _ _ _)
theorem kw{rs_:List Bx}{ds_:List Dr}{S2:Setup}{M:MemS}{bp mb k:Nat}{Tg:HL}(pp gb rb lb sg pl me w rn rc ck un uc en ec rbk:Nat)(rA uA eA:Option Addr)(F:HL)(hp:(pp,.lit [vI (pl:Int),vI (me:Int),vI (w:Int),vP gb 0,vP rb 0,.map (some lb),.slice rA rn rc,vI (ck:Int),.slice uA un uc,.slice eA en ec,vI (rbk:Int),vP sg 0] 102 (0,0))∈F)(hG:GameX rs_ ds_ bp gb mb S2 M k Tg)(hT:∀x∈Tg,x∈F):Sp Tryz.prog 28 #[vP pp 0] [] F (λ u H'=>∃q:Nat,H'=ap [(q,.rows 1 M.cs.length (aB M.cs) 3 (0,0))] [] /\ u=vS q 0 M.cs.length M.cs.length):=by
 refine aav Tryz.func28 rfl (mc hp mn) (A:=[]) (Ts:=[]) rfl λ w0=>?_;refine ae 11 [.ro 0] λ _=>aai (uN hG (λ x hx=>aq (hT x hx)))<|aaj (Hp:=[]) (Tp:=[]) [] [] (mu hG (λ x hx=>aq (hT x hx))) ?_;rintro _ q1 rfl;refine ae 3 [] λ _=>aaq [] [0] [] (v:=vS q1 0 M.cs.length M.cs.length) (H':=(ap [(q1,.rows 1 M.cs.length (aB M.cs) 3 (0,0))] [])) ?_;exact⟨q1,rfl,rfl⟩
section
variable {rs_:List Bx} {ds_:List Dr} {bp pp pl me w:Nat} {S:Setup} {J:Nat -> Nat × Int} {P:PS (List Inp)} {kv:List (Int × Value × Nat)} {c sn:Nat} {X:Option (Rw × List Inp)} {G F:HL}
theorem kS(h:PeerR rs_ ds_ bp pp pl me w S J P kv c sn X G)(hF:∀x∈G,x∈F){cs:List Int}(he:P.M.cs=cs):Sp Tryz.prog 28 #[vP pp 0] (ap [] []) F (λ u H'=>∃q:Nat,H'=ap [(q,.rows 1 cs.length (aB cs) 3 (0,0))] [] /\ u=vS q 0 cs.length cs.length):=by
 subst he;cases h with
 | mk q1_ q2_ q3_ q4_ q5_ hse_ hg=>exact kw _ _ _ _ _ _ _ _ _ _ _ _ _ _ _ _ _ _ _ F (hF _ (List.mem_append_left _ List.mem_cons_self)) hg (λ x hx=>hF x (by simp[ap,hx]))
end
theorem lN(pp gb rb lb sg pl me w rn rc ck un uc en ec rbk:Nat)(rA uA eA:Option Addr)(now sn k0 bp mb smb k:Nat)(rs_:List Bx)(ds_:List Dr)(S S2 S3:Setup)(J:Nat -> Nat × Int)(M N:MemS)(rows:List (List Inp))(rl:List Rw)(Tg Ts F:HL)(hp:(pp,.lit [vI (pl:Int),vI (me:Int),vI (w:Int),vP gb 0,vP rb 0,.map (some lb),.slice rA rn rc,vI (ck:Int),.slice uA un uc,.slice eA en ec,vI (rbk:Int),vP sg 0] 102 (0,0))∈F)(hg:GameX rs_ ds_ bp gb mb S2 M k Tg)(hT:∀x∈Tg,x∈F)(h0:M.get 0=(now:Int))(ZZ:k0=min now rn)(ZF:sn <= k0)(hs:GameX rs_ ds_ bp sg smb S3 N 99020000 Ts)(hsc:N.cs=WS S J rows sn)(hsb:0 <= N.base /\ N.base <= 1000000*(sn:Int))(hV:SetV S)(hse3_:SetEq S S3)(Vs:rn <= 50)(o_:∀i,i<rn -> RowOk S.players (rows.getD i []))(oR:∀i,i<rn -> (J i).1<5 /\ AtOk F bp (i:Int) (J i))(hE:bF F)(hr:RowL jO 38 F rA rn rl)(hw:RwsIn F rl rows)(TG:now <= 1000):Sp Tryz.prog 31 #[vP pp 0] (ap [] [Ts]) F (λ u H'=>∃x:Nat × MemS × HL,H'=ap [(x.1,.rows 1 (WS S J rows k0).length (aB (WS S J rows k0)) 3 (0,0))] [x.2.2] /\ (u=vS x.1 0 (WS S J rows k0).length (WS S J rows k0).length /\ x.2.1.cs=(WS S J rows k0) /\ (0 <= x.2.1.base /\ x.2.1.base <= 1000000*(k0:Int)) /\ GameX rs_ ds_ bp sg smb S3 x.2.1 99020000 x.2.2)):=by
 refine aav Tryz.func31 rfl (mc hp mn) (A:=[]) (Ts:=[Ts]) rfl λ w0=>?_;refine ae 11 [.ro 0] λ _=>aai (uN hs (ak 0))<|ae 5 [] λ _=>aao (σ:=Nat × MemS × HL) (λ ⟨i_,N_,T_⟩=>⟨[(0,vP pp 0),(3,vP smb 0)],[],[T_],i_ <= k0 /\ N_.cs=(⟨(WS S J rows i_),[],0⟩:MemS).cs /\ (0 <= N_.base /\ N_.base <= 1000000*(i_:Int)) /\ GameX rs_ ds_ bp sg smb S3 N_ 99020000 T_,k0-i_⟩) (sn,N,Ts) [] [0] (⟨ZF,hsc,hsb,hs⟩) ?_;rintro⟨i_,N_,T_⟩ ⟨Xc,By,hb_,VP⟩ Tw;have ZC:=sj (J:=J) hV hse3_ Vs o_ (i:=i_) (by omega);have Ur:N_.get 0=(i_:Int):=by rw[k9 By];exact ZC.t0
 refine ae 7 [.ro 0] λ _=>aai (uO VP (ak 0) Ur)<|ae 1 [] λ _=>aai (gA pp gb rb lb sg pl me w rn rc ck un uc en ec rbk rA uA eA (now:Int) _ (aq hp) hg (λ x hx=>aq (hT x hx)) h0)<|ae 1 [] λ _=>aai (eI pp gb rb lb sg pl me w rn rc ck un uc en ec rbk rA uA eA _ (aq hp))<|ae 1 [] λ _=>aC 21 (congrArg (λ v_=>(vI v_:Value)) (show (if (rn:Int)<(now:Int) then (rn:Int) else (now:Int))=(k0:Int) by split <;> omega))<|ae 3 [] λ _=>aam ((i_:Int)<(k0:Int)) 22 (λ h3=>?_) λ h3=>?_
 ·refine ae 6 [] λ _=>aal [15] []<|ag [] [0,4,8,1,5,9,2,6,10,3,7,11] [.ro 0,.ro 0,.ro 0]<|aac [] 12 (λ X_=>(uO VP (aE 0) Ur)) ?_;obtain⟨qx4,DO,Wo,fx4,YY,UH,Uh,YR,UP⟩:=hr.at (k:=i_) (by omega);refine eK 31 (congrArg (λ v_=>(.slice v_ rn rc:Value)) UH)<|RD.ro (λ _=>(mc hp (mc Uh mn)))<|av [] [13,14] [.ix i_,.rorow 1 (DO+i_) 0] [(DO*1+i_*1)=(DO+i_)*1+0 /\ (DO+i_)<Wo,(i_:Int)=((i_:Nat):Int) /\ i_<rn]<|eK 38 (congrArg (λ v_=>(.slice v_.A v_.n v_.c:Value)) UP) ?_;obtain⟨bk,ok,Nk,fk,ck2,ek,hIk,hik,hxk,ahZ⟩:=hw.get (k:=i_) (by rw[hr.len];omega);refine eK 38 (congrArg (λ v_:Rw=>Value.slice v_.A v_.n v_.c) ek)<|aae 15 (aaf [] [] [0] (qz (c:=ck2) (k:=99000000) VP (oR i_ (by omega)).1 (by rw[Ur];exact(oR i_ (by omega)).2.mono λ x hx=>aq hx) (aq hE) (aq hIk) hik (by have h_:=(o_ i_ (by omega)).1;have R_:=hV.pl;omega) hxk ((E5 hV hse3_ Vs o_ (by omega)).cs By.symm)) ?_);rintro _ ⟨⟨A5,c6,n7⟩,T8,E9⟩ ⟨UF,TF,rfl⟩;dsimp only at UF TF;have ZX:=UF.room;have V4:0 <= (fw (gt S3 (J i_) (rows.getD i_ [])) N_).base /\ (fw (gt S3 (J i_) (rows.getD i_ [])) N_).base <= 1000000000:=by rw[eh];omega
  refine ag [] [16,17,18,19,20,21,22] []<|aad<|ae 13 [] λ _=>aai (uT UF (ak 0) V4)<|aaj [] [0] (BO (k2:=99020000) UF _ (by decide) V4) ?_;rintro _ T12 ⟨rfl,aa4⟩;refine ae 2 [] λ _=>?_;refine Tw (i_+1,⟨(fw (gt S3 (J i_) (rows.getD i_ [])) N_).cs,[],(fw (gt S3 (J i_) (rows.getD i_ [])) N_).base+((fw (gt S3 (J i_) (rows.getD i_ [])) N_).lg.length:Int)⟩,T12) [] [0] ?_
  try dsimp only
  refine⟨⟨by omega,?_,⟨?_,?_⟩,aa4⟩,by omega⟩
  ·exact(o9 _ By).trans (tc hse3_ i_).symm
  ·show 0 <= (fw (gt S3 (J i_) (rows.getD i_ [])) N_).base+_;rw[eh];omega
  ·show (fw (gt S3 (J i_) (rows.getD i_ [])) N_).base+_ <= _;rw[eh];omega
 ·refine ae 9 [] λ _=>aaj (Hp:=[]) (Tp:=[]) [] [] (mu VP (ak 0)) ?_;rintro _ Zl rfl;refine ae 3 [] λ _=>aaq [] [0] [0] (v:=vS Zl 0 N_.cs.length N_.cs.length) (H':=(ap [(Zl,.rows 1 N_.cs.length (aB N_.cs) 3 (0,0))] [T_])) ?_;obtain rfl:i_=k0:=by omega
  have US:N_.cs=(WS S J rows i_):=By;exact⟨(Zl,N_,T_),by rw[US],by rw[US],US,hb_,VP⟩
theorem iP{rs_:List Bx}{ds_:List Dr}{bp pp pl me w:Nat}{S:Setup}{J:Nat -> Nat × Int}{P:PS (List Inp)}{kv:List (Int × Value × Nat)}{c sn:Nat}{X:Option (Rw × List Inp)}{G F:HL}(h:PeerR rs_ ds_ bp pp pl me w S J P kv c sn X G){now k0:Nat}(h0:P.M.get 0=(now:Int))(ZZ:k0=min now P.rows.length)(ZF:sn <= k0)(hV:SetV S)(Vs:P.rows.length <= 50)(o_:∀r∈P.rows,RowOk S.players r)(oR:∀i,i <= 50 -> (J i).1<5 /\ AtOk F bp (i:Int) (J i))(hE:bF F)(TG:now <= 1000){W:List Int}(hW:WS S J P.rows k0=W):Sp Tryz.prog 31 #[vP pp 0] (ap [] [G]) F (λ u H'=>∃x:Nat × HL,H'=ap [(x.1,.rows 1 W.length (aB W) 3 (0,0))] [x.2] /\ (u=vS x.1 0 W.length W.length /\ PeerR rs_ ds_ bp pp pl me w S J P kv c k0 X x.2)):=by
 subst hW;cases h with
 | @mk gb mb rb lb cl rn rc ck un uc en ec rbk sg smb S2 S3 rA uA eA rl ul el N Tg Tn Tr Tu Te Tp Tq Ts q1_ q2_ q3_ q4_ q5_ hse_ hg hb hn hkv hr hrl hrr hu hul huu he hel hee hse3_ hs hsc hsn hsb hpl hX =>
  have hm:∀x∈((pp,.lit [vI (pl:Int),vI (me:Int),vI (w:Int),vP gb 0,vP rb 0,.map (some lb),.slice rA rn rc,vI (ck:Int),.slice uA un uc,.slice eA en ec,vI (rbk:Int),vP sg 0] 102 (0,0))::(lb,.obj (bj kv cl))::(Tg++(Tn++(Tr++(Tu++(Te++(Tp++Tq))))))),x∈((pp,.lit [vI (pl:Int),vI (me:Int),vI (w:Int),vP gb 0,vP rb 0,.map (some lb),.slice rA rn rc,vI (ck:Int),.slice uA un uc,.slice eA en ec,vI (rbk:Int),vP sg 0] 102 (0,0))::(lb,.obj (bj kv cl))::(Tg++(Tn++(Tr++(Tu++(Te++(Tp++Tq)))))))++F:=λ x hx=>List.mem_append_left _ hx;have key:=lN pp gb rb lb sg pl me w rn rc ck un uc en ec rbk rA uA eA now sn k0 bp mb smb 0 rs_ ds_ S S2 S3 J P.M N P.rows rl Tg Ts (((pp,.lit [vI (pl:Int),vI (me:Int),vI (w:Int),vP gb 0,vP rb 0,.map (some lb),.slice rA rn rc,vI (ck:Int),.slice uA un uc,.slice eA en ec,vI (rbk:Int),vP sg 0] 102 (0,0))::(lb,.obj (bj kv cl))::(Tg++(Tn++(Tr++(Tu++(Te++(Tp++Tq)))))))++F) (hm _ (by simp)) hg (λ x hx=>hm x (by simp[hx])) h0 (by omega) ZF hs hsc hsb hV hse3_ (by omega) (λ i hi=>o_ _ (gY (by omega) _)) (λ i hi=>⟨(oR i (by omega)).1,(oR i (by omega)).2.mono λ x hx=>List.mem_append_right _ hx⟩) (List.mem_append_right _ hE) (by have h_:=hr.toRowL λ x hx=>hm x (by simp[hx]);rwa [hrl] at h_) (hrr _ λ x hx=>hm x (by simp[hx])) TG;have e0:∀T9:HL,ap [(pp,.lit [vI (pl:Int),vI (me:Int),vI (w:Int),vP gb 0,vP rb 0,.map (some lb),.slice rA rn rc,vI (ck:Int),.slice uA un uc,.slice eA en ec,vI (rbk:Int),vP sg 0] 102 (0,0)),(lb,.obj (bj kv cl))] [Tg,Tn,Tr,Tu,Te,Tp,Tq,T9]=((pp,.lit [vI (pl:Int),vI (me:Int),vI (w:Int),vP gb 0,vP rb 0,.map (some lb),.slice rA rn rc,vI (ck:Int),.slice uA un uc,.slice eA en ec,vI (rbk:Int),vP sg 0] 102 (0,0))::(lb,.obj (bj kv cl))::(Tg++(Tn++(Tr++(Tu++(Te++(Tp++Tq)))))))++T9:=λ T9=>by simp[ap]
  refine Sp.fr (X:=((pp,.lit [vI (pl:Int),vI (me:Int),vI (w:Int),vP gb 0,vP rb 0,.map (some lb),.slice rA rn rc,vI (ck:Int),.slice uA un uc,.slice eA en ec,vI (rbk:Int),vP sg 0] 102 (0,0))::(lb,.obj (bj kv cl))::(Tg++(Tn++(Tr++(Tu++(Te++(Tp++Tq)))))))) ?_ (F:=F) key ?_
  ·rw[aP,aP,e0];exact List.perm_append_comm
  ·rintro u Y ⟨⟨q,N2,T2⟩,rfl,h5,h6,h7,h8⟩;refine⟨_,⟨(q,ap [(pp,.lit [vI (pl:Int),vI (me:Int),vI (w:Int),vP gb 0,vP rb 0,.map (some lb),.slice rA rn rc,vI (ck:Int),.slice uA un uc,.slice eA en ec,vI (rbk:Int),vP sg 0] 102 (0,0)),(lb,.obj (bj kv cl))] [Tg,Tn,Tr,Tu,Te,Tp,Tq,T2]),rfl,h5,PeerR.mk q1_ q2_ q3_ q4_ q5_ hse_ hg hb hn hkv hr hrl hrr hu hul huu he hel hee hse3_ h8 h6 (by omega) h7 hpl hX⟩,?_⟩;rw[e0];simp only[ap,List.flatten_cons,List.flatten_nil,List.append_nil,List.cons_append,List.nil_append];refine List.Perm.cons _ ?_;simpa using (List.perm_append_comm (l₁:=((pp,.lit [vI (pl:Int),vI (me:Int),vI (w:Int),vP gb 0,vP rb 0,.map (some lb),.slice rA rn rc,vI (ck:Int),.slice uA un uc,.slice eA en ec,vI (rbk:Int),vP sg 0] 102 (0,0))::(lb,.obj (bj kv cl))::(Tg++(Tn++(Tr++(Tu++(Te++(Tp++Tq)))))))) (l₂:=T2))
theorem PeerI.fin{S:Setup}{J:Nat -> Nat × Int}{w:Nat}{TR:Nat -> List Inp}{P:PS (List Inp)}{V:List (List Inp)}{m k:Nat}(h:PeerI S J w TR P V m k)(h1:m=V.length)(h2:V.length=P.rows.length):V=P.rows:=by
 have h3:=h.inv.eq;rwa [h1,List.take_length,h2,List.take_length] at h3
theorem Fi(x:Int):fH (i64.wrap x):=by
 unfold fH;rw[IntKind.wrap_i64];omega
section
variable {S:Setup} {J:Nat -> Nat × Int} {w:Nat} {TR:Nat -> List Inp} {P:PS (List Inp)} {V:List (List Inp)} {m k:Nat}
theorem PeerI.cells(h:PeerI S J w TR P V m k)(hv:V=P.rows){n:Nat}(hn:P.rows.length=n):P.M.cs=WS S J P.rows n:=by
 have h1:=h.inv.ws;rw[hv,hn] at h1;exact h1
end
end Go.Proofs.YtdppjkjbghbnjaaGreatDoor
