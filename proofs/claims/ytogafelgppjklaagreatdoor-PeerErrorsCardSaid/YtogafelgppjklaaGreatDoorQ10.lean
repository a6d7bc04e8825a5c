import Derived.Test.YtogafelgppjklaaGreatDoorQ09
set_option maxHeartbeats 4000000
set_option maxRecDepth 100000
set_option linter.all false
namespace Go.Proofs.YtogafelgppjklaaGreatDoor
open Go.RowKit
open IntKind
section
variable {A:Option Addr} {F G T T1:HL} {K N cb cc m n ni pb q tb:Nat} {S:Setup} {Y_:List (List Eff)} {e0 e1 e2 t:Int} {el rs:List Rw} {rp rt:List Value} {xs:List Inp} {xss:List (List Inp)} {α:Type} (Vl UY:Int) (tc pc:Nat) (me:Int) (sb:Nat) (sl:List Rw)
def jT:Enc Rw:=⟨1,λ p k=>match k with|0=>.slice p.A p.n p.c|_=>default,⟨none,0,0⟩⟩
noncomputable def OM:TypeInfo:=match Tryz.prog.info? 132 with | some i=>i | none=>⟨.bool,"",0,0,false,0,0,none,false,#[]⟩
noncomputable def ON:Value:=match OM.zero with|some z=>z|none=>.bool false
theorem ox:EncOk jT Tryz.prog 132 OM ON where
 info:=by kernel_rfl
 zero:=by kernel_rfl
 size:=by kernel_rfl
 zsize:=by kernel_rfl
 zcell:=λ k hk=>by
  have h:∀k<1,ON.cells[k]?=some (jT.cell jT.dflt k):=by intro k hk;(iterate 1 (rcases k with _|k;· kernel_rfl));omega
  exact h k hk
 one:=λ x k=>by unfold jT;dsimp only;split <;> rfl
 bytes:=aaH (by kernel_rfl)
abbrev Gs(x:Inp):Value:=.agg #[vI x.dx,vI x.dy,vI x.act]
def Qu:Value->Inp
 | .agg ⟨[.int _ a,.int _ b,.int _ c]⟩=>⟨a,b,c⟩
 |_=>dI
theorem Gt(x:Inp):Qu (Gs x)=x:=by cases x;rfl
def jz(kv:List (Int×Value×Nat))(t:Int):Option Inp:=(nh kv t).map Qu
def LocIn(kv:List (Int×Value×Nat)):Prop:=∀x∈kv,∃y,cS y/\x.2.1=Gs y
theorem LocIn.nil:LocIn []:=λ x hx=>by cases hx
theorem Lg{kv:List (Int×Value×Nat)}{v:Value}(h:nh kv t=some v):∃x∈kv,x.2.1=v:=by
 unfold nh at h;cases e:fB kv t 0 with
 |none=>rw[e] at h;cases h
 |some y=>
  obtain⟨j,u⟩:=y;rw[e] at h;obtain rfl:u=v:=by simpa using h
  obtain⟨_,n,hse_⟩:=kG t kv 0 j u e;exact⟨_,np hse_,rfl⟩
theorem LocIn.get{kv:List (Int×Value×Nat)}(h:LocIn kv)(t:Int):(nh kv t=none/\jz kv t=none)\/∃x,cS x/\nh kv t=some (Gs x)/\jz kv t=some x:=by
 cases e:nh kv t with
 |none=>exact .inl ⟨rfl,by unfold jz;rw[e];rfl⟩
 |some v=>
  obtain⟨x,hx,q2_⟩:=Lg e;obtain⟨y,hy,q3_⟩:=h x hx;have q4_:v=Gs y:=q2_.symm.trans q3_;exact .inr ⟨y,hy,by rw[q4_],by unfold jz;rw[e,q4_];show some (Qu (Gs y))=_;rw[Gt]⟩
theorem LocIn.ok{kv:List (Int×Value×Nat)}(h:LocIn kv){x:Inp}(e:jz kv t=some x):cS x:=by
 rcases h.get t with ⟨_,q2_⟩|⟨y,hy,_,q2_⟩
 ·rw[q2_] at e;cases e
 ·rw[q2_] at e;cases e;exact hy
theorem LocIn.put{kv:List (Int×Value×Nat)}(h:LocIn kv)(c:Nat)(k:Int){y:Inp}(hy:cS y):LocIn (lc kv c k (Gs y)):=by
 intro x hx;unfold lc at hx;split at hx
 ·next i v e=>
  obtain⟨j,hj,rfl⟩:=adU.1 hx;rw[List.getElem_modify];split
  ·exact⟨y,hy,rfl⟩
  ·exact h _ (acY _)
 ·rcases abM.1 hx with hx|hx
  ·exact h x hx
  ·rw[jt.1 hx];exact⟨y,hy,rfl⟩
theorem LocIn.del{kv:List (Int×Value×Nat)}(h:LocIn kv)(k:Int):LocIn (ld kv k):=by
 intro x hx;unfold ld at hx;split at hx
 ·exact h x (List.mem_of_mem_eraseIdx hx)
 ·exact h x hx
def EfsT(el:List Rw)(Y_:List (List Eff))(T:HL):Prop:=∀F:HL,(∀x∈T,x∈F)->∀k,k<el.length->(el.getD k jT.dflt).n=(Y_.getD k []).length/\RowL sc 177 F (el.getD k jT.dflt).A (Y_.getD k []).length (Y_.getD k [])
theorem EfsT.nil:EfsT [] [] []:=λ F _ k hk=>absurd hk (pt _)
theorem EfsT.snoc{es:List Eff}{c:Nat}(h:EfsT el Y_ T)(hl:el.length=Y_.length)(hs:SlIs sc 177 es A c T1)(hn:n=es.length):EfsT (el++[⟨A,n,c⟩]) (Y_++[es]) (T++T1):=λ F hF k hk=>by
 rw[gJ,gJ,<- hl]
 by_cases Wl:k<el.length
 ·rw[if_pos Wl,if_pos Wl];exact h F (λ x hx=>hF x (aaC _ hx)) k Wl
 ·have:k=el.length:=by simp at hk;omega
  rw[if_neg Wl,if_neg Wl,if_pos this,if_pos this];exact⟨hn,hs.toRowL λ x hx=>hF x (aaB _ hx)⟩
theorem EfsT.take(h:EfsT el Y_ T)(k:Nat):EfsT (el.take k) (Y_.take k) T:=λ F hF i hi=>by
 rw[aaL] at hi;have q1_:(Y_.take k).getD i []=Y_.getD i []:=by rw[aaG,aaG,abe,if_pos (by omega)]
 have q2_:(el.take k).getD i jT.dflt=el.getD i jT.dflt:=by rw[aaG,aaG,abe,if_pos (by omega)]
 rw[q1_,q2_];exact h F hF i (by omega)
theorem RwsT.more(h:RwsT rs xss T)(T1:HL):RwsT rs xss (T++T1):=λ F hF=>h F λ x hx=>hF x (aaC _ hx)
theorem RwsT.take(h:RwsT rs xss T)(k:Nat):RwsT (rs.take k) (xss.take k) T:=λ F hF=>(h F hF).take k
theorem RwsT.drop(h:RwsT rs xss T)(k:Nat):RwsT (rs.drop k) (xss.drop k) T:=λ F hF=>(h F hF).drop k
theorem RwsT.snocD{c:Nat}(h:RwsT rs xss T)(hs:ClS bS 24 xs A c T1)(h1:1<=xs.length)(hn:n=xs.length):RwsT (rs++[⟨A,n,c⟩]) (xss++[xs]) (T++T1):=by
 obtain⟨A0,hs⟩:=hs;rcases hs with ⟨rfl,_⟩|⟨b,rfl,rfl,hc⟩
 ·simp at h1
 ·refine h.snoc (A:=some ⟨b,0,none⟩) (c:=c) (T1:=[(b,.rows 3 c (ak bS xs) 24 (0,0))]) (.inr ⟨b,0,xs++List.replicate (c-xs.length) bS.dflt,by simp,?_,by simp;omega,hc,by simp⟩) h1 hn;rw[abp,xN];rfl
theorem RwsT.snocI{p:Rw}(h:RwsT rs xss T)(hp:∀F,(∀x∈T,x∈F)->RwIn F xs p):RwsT (rs++[p]) (xss++[xs]) T:=λ F hF=>by
 have hse_:=h F hF;refine⟨by simp[hse_.len],λ k hk=>?_⟩;rw[gJ,gJ,<- hse_.len]
 by_cases Wl:k<rs.length
 ·rw[if_pos Wl,if_pos Wl];exact hse_.row k Wl
 ·have:k=rs.length:=by simp at hk;omega
  rw[if_neg Wl,if_neg Wl,if_pos this,if_pos this];exact hp F hF
section
variable {rs_:List Bx} {ds_:List Dr} {bp gb mb:Nat} {S:Setup} {M:MemS} {k:Nat} {G0:HL}
theorem GameX.room(h:GameX rs_ ds_ bp gb mb S M k G0):M.lg.length+k<=100000000:=by
 obtain⟨_,hm,_⟩:=h.mem;exact hm.len2
theorem GameX.raise(h:GameX rs_ ds_ bp gb mb S M k G0){k':Nat}(hk:M.lg.length+k'<=100000000):GameX rs_ ds_ bp gb mb S M k' G0:=by
 cases h with
 |mk T U hM hU=>
  refine .mk T U ?_ hU;cases hM with
  |mk cb A cap Hl hs hc hl=>exact .mk cb A cap Hl hs hc hk
theorem SE(h:GameX rs_ ds_ bp gb mb S M k G0)(hF:∀x∈G0,x∈F){e:Int}(he:M.get 0=e):aen 53 #[vP gb 0] F (vI e):=by
 subst he;cases h with
 |mk T U hM hU=>exact sI (hF _ (aaC _ (jt.2 rfl))) hM λ x hx=>hF x (by simp[ap,hx])
theorem vH{f:FuncId}{args:Array Value}{R:Value->HL->HL->Prop}{M2:MemS}{k2:Nat}(h:GameX rs_ ds_ bp gb mb S M k G0)
  (hs:∀ (T X:HL),MemH mb M k T->aeo f args (ap [] [G,T]) (X++F) (λ u H'=>∃x:HL×HL,H'=ap [] [x.1,x.2]/\(R u x.1 []/\MemH mb M2 k2 x.2))) :
  aeo f args (ap [] [G,G0]) F (λ u H'=>∃x:HL×HL,H'=ap [] [x.1,x.2]/\(R u x.1 []/\GameX rs_ ds_ bp gb mb S M2 k2 x.2)):=by
 cases h with
 |mk T U hM hU=>
  have perm:∀A B:HL,(ap [] [A,ap [(gb,Blk.lit (gv S bp mb) 125 (0,0))] [B,U]]).Perm (ap [] [A,B]++((gb,Blk.lit (gv S bp mb) 125 (0,0))::U)):=λ A B=>by
   simp only[ap,aa6,aeg,ace,abz,aaF,abl];exact abB A sv.symm
  refine Sp.fr (X:=(gb,Blk.lit (gv S bp mb) 125 (0,0))::U) (perm G T) (hs T _ hM) ?_;rintro u Y ⟨x,rfl,h1,hse_⟩;exact⟨_,⟨(x.1,ap [(gb,Blk.lit (gv S bp mb) 125 (0,0))] [x.2,U]),rfl,h1,.mk x.2 U hse_ hU⟩,perm x.1 x.2⟩
end
theorem Gu{p:α}{Tg Tn Tr Tu Te Tp Tx Tq Ts:List α}:(p::(Tg++(Tn++(Tr++(Tu++(Te++(Tp++(Tx++(Tq++Ts))))))))).Perm (Tx++(p::(Tg++(Tn++(Tr++(Tu++(Te++(Tp++(Tq++Ts))))))))):=by
 have h:=List.perm_append_comm_assoc (p::(Tg++(Tn++(Tr++(Tu++(Te++Tp)))))) Tx (Tq++Ts);simpa [aaF] using h
theorem Ux{rb mb w a:Nat}{ms:List Int}(h:RingH rb mb w a ms G)(hF:∀x∈G,x∈F)(hl:ms.length<=100000000):aen 57 #[vP rb 0] F (vI (CY a ms)):=by
 cases h with
 | @mk A cap n Hl hs hn h0=>exact CZ hs (λ x hx=>hF x (by simp[ap,hx])) hn (by omega) (hF _ (aaC _ aaD))
inductive PeerR(rs_:List Bx)(ds_:List Dr)(bp pp pl me w:Nat)(S:Setup)(J:Nat->Nat×Int)(P:PS (List Inp))(kv:List (Int×Value×Nat))(c sn:Nat)(X:Option (Rw×List Inp)):HL->Prop
 |mk {gb mb rb lb cl rn rc ck un uc en ec rbk sg smb:Nat} {S2 S3:Setup} {rA uA eA:Option Addr} {rl ul el:List Rw} {N:MemS} {Tg Tn Tr Tu Te Tp Tq Ts:HL}
  (q1_:P.rows.length=rn) (q2_:P.ck=ck) (q3_:P.used.length=un) (q4_:P.effs.length=en) (q5_:P.rb=rbk)
  (hse_:SetEq S S2) (hg:GameX rs_ ds_ bp gb mb S2 P.M 0 Tg) (hb:0<=P.M.base/\P.M.base+(P.M.lg.length:Int)<=20000*(c:Int))
  (hn:RingH rb mb w P.a P.ms Tn) (hkv:LocIn kv)
  (hr:SlIs jo 25 rl rA rc Tr) (hrl:rl.length=rn) (hrr:RwsT rl P.rows Tp)
  (hu:SlX jo 25 ul uA uc Tu) (hul:ul.length=un) (huu:RwsT ul P.used Tp)
  (he:SlIs jT 132 el eA ec Te) (hel:el.length=en) (hee:EfsT el P.effs Tq)
  (hse3_:SetEq S S3) (hs:GameX rs_ ds_ bp sg smb S3 N 99020000 Ts) (hsc:N.cs=WS S J P.rows sn) (hsn:sn<=rn) (hsb:0<=N.base/\N.base<=1000000*(sn:Int)) (hpl:S.players=(pl:Int))
  (hX:∀p xs,X=some (p,xs)->∀F:HL,(∀y∈Tp,y∈F)->RwIn F xs p) :
  PeerR rs_ ds_ bp pp pl me w S J P kv c sn X (ap [(pp,.lit [vI (pl:Int),vI (me:Int),vI (w:Int),vP gb 0,vP rb 0,.map (some lb),.slice rA rn rc,vI (ck:Int),.slice uA un uc,.slice eA en ec,vI (rbk:Int),vP sg 0] 89 (0,0)),(lb,.obj (bn kv cl))] [Tg,Tn,Tr,Tu,Te,Tp,Tq,Ts])
theorem NO(Z7:(tb,.lit (vI 0::vI 3::rt) 3 (0,0))∈F)(hpb:(pb,.lit (vS cb 0 m cc::vI e0::vI e1::vI e2::rp) 111 (0,0))∈F):aen 61 #[.agg #[vS tb 0 2 tc,vS pb 0 2 pc],vI 0] F (.tuple #[vI 0,.agg #[vS cb 0 m cc,vI e0,vI e1,vI e2]]):=by
 refine rI Tryz.func61 (mc Z7 (mc hpb mn)) [] []<|ae 19 [] λ n1=>aaw 3<|SO 92 [.o 1,.o 1,.ro 0,.o 1,.o 1,.ro 0,.o 1]<|aap [7] []<|ag [] [0,1,3,2,6,4,5] [.o 1,.ro 1,.ro 1,.ro 1,.ro 1]<|SV 7 [] (aab 4)<|aaf<|ae 1 [] λ _=>aav (aab 4) [] [] ⟨rfl,rfl⟩
theorem NP(Z7:(tb,.lit (vI 0::vI 3::rt) 3 (0,0))∈F)(hpb:(pb,.lit (vS cb 0 m cc::vI e0::vI e1::vI e2::rp) 111 (0,0))∈F):aen 61 #[.agg #[vS tb 0 2 tc,vS pb 0 2 pc],vI 1] F (.tuple #[vI 0,.agg #[vS cb 0 m cc,vI e0,vI e1,vI e2]]):=by
 refine rI Tryz.func61 (mc Z7 (mc hpb mn)) [] []<|ae 19 [] λ n1=>aaw 3<|SO 92 [.o 1,.o 1,.ro 0,.o 1,.o 1,.ro 0,.o 1]<|aap [7] []<|ag [] [0,1,3,2,6,4,5] [.o 1,.ro 1,.ro 1,.ro 1,.ro 1]<|SV 7 [] (aab 4)<|aaf<|ae 1 [] λ _=>aav (aab 4) [] [] ⟨rfl,rfl⟩
def nI:Enc Rw:=⟨1,λ p k=>match k with|0=>.slice p.A p.n p.c|_=>default,⟨none,0,0⟩⟩
noncomputable def SF:TypeInfo:=match Tryz.prog.info? 22 with | some i=>i | none=>⟨.bool,"",0,0,false,0,0,none,false,#[]⟩
noncomputable def SG:Value:=match SF.zero with|some z=>z|none=>.bool false
theorem zZ:EncOk nI Tryz.prog 22 SF SG where
 info:=by kernel_rfl
 zero:=by kernel_rfl
 size:=by kernel_rfl
 zsize:=by kernel_rfl
 zcell:=λ k hk=>by
  have h:∀k<1,SG.cells[k]?=some (nI.cell nI.dflt k):=by intro k hk;(iterate 1 (rcases k with _|k;· kernel_rfl));omega
  exact h k hk
 one:=λ x k=>by unfold nI;dsimp only;split <;> rfl
 bytes:=aaH (by kernel_rfl)
theorem SlIs.rowM{e:Enc α}{T:TypeId}{l:List α}{cap:Nat}{Hl:HL}(h:SlIs e T l A cap Hl)(hF:∀x∈Hl,x∈F)(hn:l.length=n):RowL e T F A n l:=hn▸h.toRowL hF
theorem Lh{l:List Rw}(hq:(q,.rows 1 N (ak nI l) 22 (0,0))∈F)(hN:n<=N):SrcIn Tryz.prog nI F (some ⟨q,0,none⟩) n ((List.range n).map λ i=>l.getD i nI.dflt) :=
 (RowL.rows (e:=nI) q 0 N l (0,0) n ((List.range n).map λ i=>l.getD i nI.dflt) hq (by omega) (by simp) (λ k hk=>by simp[acG,hk,aaG])).src zZ (by decide)
theorem NQ{c:Nat}{l:List Rw}{r:Rw}(hs:SlIs nI 22 (([]++(List.range n).map λ i=>l.getD i nI.dflt)++[r]) A c T)(hz:aX A):∃b l',A=some ⟨b,0,none⟩/\T=[(b,.rows 1 c (ak nI l') 22 (0,0))]/\n+1<=c/\l'.getD n nI.dflt=r:=by
 obtain⟨b,rest,rfl,rfl,h⟩:=hs.open0 hz (by decide) (by simp);refine⟨b,_,rfl,rfl,by simpa using h,?_⟩;simp[aaG]
structure SM where
 q:Nat
 N:Nat
 l:List Int
 b:Nat
 K:Nat
 sl:List Rw
 uA:Option Addr
 uc:Nat
 ul:List Rw
 eA:Option Addr
 ec:Nat
 el:List Rw
 Tu:HL
 Te:HL
theorem Qv{code:Nat->Ins}{l:List Int} (hS:SetIn F S) (hn:n=(sizeOf S).toNat) (hN:n<=N) (Wb:1<=S.nb/\1<=S.players) (hC:InsB F cb 0 m code) (Z7:(tb,.lit (vI 0::vI 3::rt) 3 (0,0))∈F) (hpb:(pb,.lit (vS cb 0 m cc::vI e0::vI e1::vI e2::rp) 111 (0,0))∈F) (UL:S.players=(ni:Int)) (X8:1<=ni) (X7:ni<=1000000) (hr:RefL S l) (hb:0<=eV S/\eV S<=1000000) (iN:sl.getD 0 nI.dflt=⟨some ⟨q,0,none⟩,n,N⟩) (hK:1<=K):aeo 37 #[(yj S [vS tb 0 2 tc,vS pb 0 2 pc,vI me,vI Vl,.slice none 0 0,.slice none 0 0,vS sb 0 1 K,.slice none 0 0,.slice none 0 0,.slice none 0 0,vI UY])] (ap [(q,.rows 1 N (ak bD l) 3 (0,0)),(sb,.rows 1 K (ak nI sl) 22 (0,0))] []) F (λ u H'=>∃x:SM,H'=ap [(x.q,.rows 1 x.N (ak bD x.l) 3 (0,0))] [[(x.b,.rows 1 x.K (ak nI x.sl) 22 (0,0))],x.Tu,x.Te]/\(u=(yj S [vS tb 0 2 tc,vS pb 0 2 pc,vI me,vI Vl,.slice none 0 0,.slice x.uA 1 x.uc,vS x.b 0 2 x.K,.slice x.eA 1 x.ec,.slice none 0 0,.slice none 0 0,vI UY])/\n<=x.N/\RefL S x.l/\x.sl.getD 1 nI.dflt=⟨some ⟨x.q,0,none⟩,n,x.N⟩/\2<=x.K/\SlIs jo 25 x.ul x.uA x.uc x.Tu/\x.ul.length=1/\SlIs jT 132 x.el x.eA x.ec x.Te/\x.el.length=1)):=by
 refine QS Tryz.func37 mn<|ae 18 (ow 1 28) λ n1=>SP (uG S (some ⟨tb,0,none⟩) (some ⟨pb,0,none⟩) none (some ⟨sb,0,none⟩) none 2 tc 2 pc 0 0 1 K 0 0 Vl UY me 0 UL X8 X7 (by decide)) ?_;rintro _ ⟨b2,c3,xs4⟩ ⟨rfl,hc5⟩;dsimp only at hc5;refine SO 8 [.o 2,.o 2]<|aal (NO tc pc (aC Z7) (aC hpb))<|ae 9 (aab 4) λ n6=>aap [10] []<|aA [] [0,2,5,7,8,9,1,6,3,4] ((aab 4)++ow 3 17++[.row 5 0 0]) [0=0*1+0/\0<K]<|gT 31 (congrArg (λ v_=>(.slice v_.A v_.n v_.c:Value)) iN)<|aag 10 (aah [] [4] [] (uE q cc e0 e1 e2 0 (ib:=b2) c3 (xs:=xs4) hS.up hn hN Wb hC.up (aw 1) UL hc5 hr hb) ?_);rintro _ x7 ⟨rfl,hN8,hR9⟩;refine aem [11,12,13,14,15,16,17]<|aaf<|SO 21 [.o 4]<|aau<|aaj (c':=0) (tx:=46) lC ([]:List Rw) ([]:List Rw) 0 rfl (aay _ _) (by simp) ((aay (e:=jo) 25).src lC (by decide) (λ _ h_=>by cases h_)) ?_;rintro A10 c11 T12 ⟨Xp,aeT⟩;refine ae 2 [] λ n15=>ez lC [(⟨some ⟨b2,0,none⟩,ni,c3⟩:Rw)] 0 0 rfl Xp (by simp) ?_;rintro A16 c17 T18 ⟨aa0,aeP⟩;refine SO 9 [.o 5,.o 5]<|aau<|aaj (c':=K) (tx:=47) zZ ([]:List Rw) ((List.range 1).map λ i=>sl.getD i nI.dflt) 0 rfl (aay _ _) (by simp) (Lh (N:=K) (l:=sl) (q:=sb) (aw 6) (by omega)) ?_;rintro A21 c22 Z2 ⟨Zu,acr⟩;refine ae 2 [] λ n26=>ez zZ [(⟨some ⟨x7.q,0,none⟩,n,x7.N⟩:Rw)] 0 0 rfl Zu (by simp) ?_;rintro A27 c28 T29 ⟨ae_,aeN⟩;refine SO 9 [.o 6,.o 6]<|aau<|aaj (c':=0) (tx:=48) ox ([]:List Rw) ([]:List Rw) 0 rfl (aay _ _) (by simp) ((aay (e:=jT) 132).src ox (by decide) (λ _ h_=>by cases h_)) ?_;rintro A32 c33 T34 ⟨acD,ahV⟩;refine ae 2 [] λ n37=>ez ox [(⟨x7.A,x7.m,x7.c⟩:Rw)] 0 0 rfl acD (by simp) ?_;rintro A38 c39 T40 ⟨ae9,ahU⟩;refine ae 10 (ow 7 28++ow 6 27) λ _=>?_;obtain⟨b_,l_,rfl,rfl,Yq,hg_⟩:=NQ ae_ (aeN (acr trivial));exact aav (ow 6 27) [3] [1,2,0] ⟨⟨x7.q,x7.N,x7.l,b_,c28,l_,A16,c17,(([]:List Rw)++([]:List Rw)++[(⟨some ⟨b2,0,none⟩,ni,c3⟩:Rw)]),A38,c39,(([]:List Rw)++([]:List Rw)++[(⟨x7.A,x7.m,x7.c⟩:Rw)]),T18,T40⟩,rfl,rfl,hN8,hR9,hg_,Yq,aa0,rfl,ae9,rfl⟩
theorem Qw{code:Nat->Ins}{l:List Int}{uA eA:Option Addr}{uc ec:Nat}{ul:List Rw}{Tu Te:HL}(hu:SlIs jo 25 ul uA uc Tu)(hul:ul.length=1)(he:SlIs jT 132 el eA ec Te)(hel:el.length=1)(hS:SetIn F S)(hn:n=(sizeOf S).toNat)(hN:n<=N)(Wb:1<=S.nb/\1<=S.players)(hC:InsB F cb 0 m code)(Z7:(tb,.lit (vI 0::vI 3::rt) 3 (0,0))∈F)(hpb:(pb,.lit (vS cb 0 m cc::vI e0::vI e1::vI e2::rp) 111 (0,0))∈F)(UL:S.players=(ni:Int))(X8:1<=ni)(X7:ni<=1000000)(hr:RefL S l)(hb:0<=eV S/\eV S<=1000000)(iN:sl.getD 1 nI.dflt=⟨some ⟨q,0,none⟩,n,N⟩)(hK:2<=K):aeo 37 #[(yj S [vS tb 0 2 tc,vS pb 0 2 pc,vI me,vI Vl,.slice none 0 0,.slice uA 1 uc,vS sb 0 2 K,.slice eA 1 ec,.slice none 0 0,.slice none 0 0,vI UY])] (ap [(q,.rows 1 N (ak bD l) 3 (0,0)),(sb,.rows 1 K (ak nI sl) 22 (0,0))] [Tu,Te]) F (λ u H'=>∃x:Option Addr×Nat×Option Addr×Nat×Option Addr×Nat,H'=ap [] []/\u=(yj S [vS tb 0 2 tc,vS pb 0 2 pc,vI me,vI Vl,.slice none 0 0,.slice x.1 2 x.2.1,.slice x.2.2.1 3 x.2.2.2.1,.slice x.2.2.2.2.1 2 x.2.2.2.2.2,.slice none 0 0,.slice none 0 0,vI UY])):=by
 refine QS Tryz.func37 mn<|ae 18 (ow 1 28) λ n1=>SP (uG S (some ⟨tb,0,none⟩) (some ⟨pb,0,none⟩) uA (some ⟨sb,0,none⟩) eA 2 tc 2 pc 1 uc 2 K 1 ec Vl UY me 1 UL X8 X7 (by decide)) ?_;rintro _ ⟨b2,c3,xs4⟩ ⟨rfl,hc5⟩;dsimp only at hc5;refine SO 8 [.o 2,.o 2]<|aal (NP tc pc (aC Z7) (aC hpb))<|ae 9 (aab 4) λ n6=>aap [10] []<|aA [] [0,2,5,7,8,9,1,6,3,4] ((aab 4)++ow 3 17++[.row 5 1 0]) [1=1*1+0/\1<K]<|gT 31 (congrArg (λ v_=>(.slice v_.A v_.n v_.c:Value)) iN)<|aag 10 (aah [] [4] [] (uE q cc e0 e1 e2 0 (ib:=b2) c3 (xs:=xs4) hS.up hn hN Wb hC.up (aw 1) UL hc5 hr hb) ?_);rintro _ x7 ⟨rfl,hN8,hR9⟩;refine aem [11,12,13,14,15,16,17]<|aaf<|SO 21 [.o 4]<|aau<|aaj (c':=uc) (tx:=46) lC ([]:List Rw) ul 0 rfl (aay _ _) (by simp;omega) ((hu.rowM (ay 1) hul).src lC (by decide)) ?_;rintro A10 c11 T12 ⟨Xp,aeT⟩;refine aM 44 (congrArg (λ v_=>(.slice A10 v_ c11:Value)) (show 0+ul.length=1 by omega))<|ae 2 [] λ n15=>ez lC [(⟨some ⟨b2,0,none⟩,ni,c3⟩:Rw)] 0 0 (show 1=(([]:List Rw)++ul).length by simp;omega) Xp (by simp;omega) ?_;rintro A16 c17 T18 ⟨aa0,aeP⟩;refine SO 9 [.o 5,.o 5]<|aau<|aaj (c':=K) (tx:=47) zZ ([]:List Rw) ((List.range 2).map λ i=>sl.getD i nI.dflt) 0 rfl (aay _ _) (by simp) (Lh (N:=K) (l:=sl) (q:=sb) (aw 6) (by omega)) ?_;rintro A21 c22 Z2 ⟨Zu,acr⟩;refine ae 2 [] λ n26=>ez zZ [(⟨some ⟨x7.q,0,none⟩,n,x7.N⟩:Rw)] 0 0 rfl Zu (by simp) ?_;rintro A27 c28 T29 ⟨ae_,aeN⟩;refine SO 9 [.o 6,.o 6]<|aau<|aaj (c':=ec) (tx:=48) ox ([]:List Rw) el 0 rfl (aay _ _) (by simp;omega) ((he.rowM (ay 4) hel).src ox (by decide)) ?_;rintro A32 c33 T34 ⟨acD,ahV⟩;refine aM 60 (congrArg (λ v_=>(.slice A32 v_ c33:Value)) (show 0+el.length=1 by omega))<|ae 2 [] λ n37=>ez ox [(⟨x7.A,x7.m,x7.c⟩:Rw)] 0 0 (show 1=(([]:List Rw)++el).length by simp;omega) acD (by simp;omega) ?_;rintro A38 c39 T40 ⟨ae9,ahU⟩;refine ae 10 (ow 7 28++ow 6 27) λ _=>aav (ow 6 27) [] [] ⟨(A16,c17,A27,c28,A38,c39),rfl,rfl⟩
theorem fm(VY VZ:Option Addr)(VQ VW VS VX:Nat)(me wi:Int)(hS:SetIn F S):aeo 8 #[(Setup.v S),.agg #[.slice VY VQ VW,.slice VZ VS VX],vI me,vI wi] (ap [] []) F (λ u H'=>∃x:Nat×Nat,H'=ap [(x.1,.rows 1 (sizeOf S).toNat (ak bD (b8 S S.nb)) 3 (0,0)),(x.2,.rows 1 1 (ak nI [(⟨some ⟨x.1,0,none⟩,(sizeOf S).toNat,(sizeOf S).toNat⟩:Rw)]) 22 (0,0))] []/\u=(yj S [.slice VY VQ VW,.slice VZ VS VX,vI me,vI wi,.slice none 0 0,.slice none 0 0,vS x.2 0 1 1,.slice none 0 0,.slice none 0 0,.slice none 0 0,vI 0])):=by
 refine QT Tryz.func8<|ae 8 [] λ n1=>aap [8] []<|ag [] [0,1,2,3,4] (ow 2 16++[.o 1,.o 1]++ow 2 16)<|aag 5 (Q1 [] (EP hS.up) ?_);rintro _ q2 rfl;refine aag 6 (aai [] [] λ n3=>?_);refine aem [7]<|SV 8 [] (ow 2 27)<|Q2 1<|aao 0 (.rows 1 1 (ak nI [(⟨some ⟨q2,0,none⟩,(sizeOf S).toNat,(sizeOf S).toNat⟩:Rw)]) 22 (0,0))<|aav (ow 2 27) [1,0] [] ⟨(q2,(n3+0)),rfl,rfl⟩
theorem Cs{code:Nat->Ins}(q:Nat) (sb:Nat){l:List Int}(sl:List Rw)(hS:SetIn F S)(hn:n=(sizeOf S).toNat)(hN:n<=N)(Wb:1<=S.nb/\1<=S.players)(hC:InsB F cb 0 m code)(Z7:(tb,.lit (vI 0::vI 3::rt) 3 (0,0))∈F)(hpb:(pb,.lit (vS cb 0 m cc::vI e0::vI e1::vI e2::rp) 111 (0,0))∈F)(UL:S.players=(ni:Int))(X8:1<=ni)(X7:ni<=1000000)(hr:RefL S l)(hb:0<=eV S/\eV S<=1000000)(iN:sl.getD 0 nI.dflt=⟨some ⟨q,0,none⟩,n,N⟩)(hK:1<=K):aeo 11 #[(yj S [vS tb 0 2 tc,vS pb 0 2 pc,vI me,vI 4,.slice none 0 0,.slice none 0 0,vS sb 0 1 K,.slice none 0 0,.slice none 0 0,.slice none 0 0,vI UY]),vI 2] (ap [(q,.rows 1 N (ak bD l) 3 (0,0)),(sb,.rows 1 K (ak nI sl) 22 (0,0))] []) F (λ u H'=>∃x:Option Addr×Nat×Option Addr×Nat×Option Addr×Nat,H'=ap [] []/\u=.tuple #[(yj S [vS tb 0 2 tc,vS pb 0 2 pc,vI me,vI 4,.slice none 0 0,.slice x.1 2 x.2.1,.slice x.2.2.1 3 x.2.2.2.1,.slice x.2.2.2.2.1 2 x.2.2.2.2.2,.slice none 0 0,.slice none 0 0,vI UY]),vI 2,vI 0]):=by
 refine QS Tryz.func11 mn<|ae 39 (ow 1 3) λ n1=>aaw 1<|SO 30 [.o 1]<|aaw 3<|SO 17 (ow 1 28)<|aam [2,3] [] (Qv 4 UY tc pc me sb sl hS.up hn hN Wb hC.up (aC Z7) (aC hpb) UL X8 X7 hr hb iN hK) ?_;rintro _ x2 ⟨rfl,h3,h4,h5,h6,h7,h8,h9,No⟩;refine RN.ot 0 (x:=(x2.b,.rows 1 x2.K (ak nI x2.sl) 22 (0,0)))<|SO 27 (ow 3 55)<|aam [1,0] [0,1] (Qw 4 UY tc pc me x2.b x2.sl h7 h8 h9 No hS.up hn h3 Wb hC.up (aC Z7) (aC hpb) UL X8 X7 h4 hb h5 h6) ?_;rintro _ y11 rfl;refine ae 35 (ow 1 55++ow 0 27) λ _=>aav (ow 0 27) [] [] ⟨y11,rfl,rfl⟩
end
section
variable {A A2:Option Addr} {F T1 T2:HL} {c2 n:Nat} {ls:List Inp} {ts:List Int} (S:Setup) (VY VZ WD WE WG:Option Addr) (VQ VW VS VX Wo Wz Wp WA Wq WB:Nat) (Xl Vl UY:Int) (A3:Option Addr)
def gl(x:Inp)(tk:Int)(rn:Nat)(ts:List Int):Int:=if cS x then (if tk<0\/tk>5999 then 18 else if tk<(rn:Int) then 20 else if tk∈ts then 4 else 0) else 1
def f5(pl:Int)(n:Nat)(xs:List Inp)(tk:Int)(rn:Nat):Int:=if bm pl n xs 0=0 then (if tk=(rn:Int) then (if tk>5999 then 2 else 0) else 5) else bm pl n xs 0
structure AM where
 A:Option Addr
 A2:Option Addr
 c:Nat
 c2:Nat
 n:Nat
 ts:List Int
 ls:List Inp
 T1:HL
 T2:HL
theorem Li{x:Inp}(hx:cS x):aen 38 #[.agg #[vI x.dx,vI x.dy,vI x.act]] F (vI 0):=by
 unfold cS at hx;refine QT Tryz.func38<|ae 13 [.o 0] λ n1=>aaq (x.dx<(-1)) 6 (λ h2=>?_) λ h2=>?_
 ·(exfalso;omega)
 ·refine SO 5 [.o 0]<|aaq (x.dx>1) 11 (λ h3=>?_) λ h3=>?_
  ·(exfalso;omega)
  ·refine SO 5 [.o 0]<|aaq (x.dy<(-1)) 16 (λ h4=>?_) λ h4=>?_
   ·(exfalso;omega)
   ·refine SO 5 [.o 0]<|aaq (x.dy>1) 21 (λ h5=>?_) λ h5=>?_
    ·(exfalso;omega)
    ·refine SO 5 [.o 0]<|aaq (x.act<0) 26 (λ h6=>?_) λ h6=>?_
     ·(exfalso;omega)
     ·refine SO 6 [.o 0]<|aaq (x.act>3) 30 (λ h7=>?_) λ h7=>?_
      ·(exfalso;omega)
      ·refine ae 8 [] λ _=>QW _ _ ⟨rfl,rfl⟩
theorem Lj{x:Inp}(hx:¬ cS x):aen 38 #[.agg #[vI x.dx,vI x.dy,vI x.act]] F (vI 1):=by
 refine QT Tryz.func38<|ae 13 [.o 0] λ n1=>aaq (x.dx<(-1)) 6 (λ h2=>?_) λ h2=>?_
 ·refine OU 32<|QW (vI 1) [] ⟨rfl,rfl⟩
 ·refine SO 5 [.o 0]<|aaq (x.dx>1) 11 (λ h3=>?_) λ h3=>?_
  ·refine OU 27<|QW (vI 1) [] ⟨rfl,rfl⟩
  ·refine SO 5 [.o 0]<|aaq (x.dy<(-1)) 16 (λ h4=>?_) λ h4=>?_
   ·refine OU 22<|QW (vI 1) [] ⟨rfl,rfl⟩
   ·refine SO 5 [.o 0]<|aaq (x.dy>1) 21 (λ h5=>?_) λ h5=>?_
    ·refine OU 17<|QW (vI 1) [] ⟨rfl,rfl⟩
    ·refine SO 5 [.o 0]<|aaq (x.act<0) 26 (λ h6=>?_) λ h6=>?_
     ·refine OU 12<|QW (vI 1) [] ⟨rfl,rfl⟩
     ·refine SO 6 [.o 0]<|aaq (x.act>3) 30 (λ h7=>?_) λ h7=>?_
      ·refine OU 6<|QW (vI 1) [] ⟨rfl,rfl⟩
      ·refine OU 8<|QW (vI 0) []<|absurd ⟨⟨by assumption,by assumption⟩,⟨by assumption,by assumption⟩,by assumption,by assumption⟩ hx
theorem Lk{c:Nat} (rn c3:Nat){x:Inp}(tk:Int)(F:HL)(YD:SlIs bD 3 ts A c T1)(YG:SlIs bS 24 ls A2 c2 T2)(Zz:ts.length=n)(Wk:ls.length=n)(hn9:n<=1000)(hx:cS x):aeo 13 #[(yj S [.slice VY VQ VW,.slice VZ VS VX,vI Xl,vI Vl,.slice A3 rn c3,.slice WD Wo Wz,.slice WE Wp WA,.slice WG Wq WB,.slice A n c,.slice A2 n c2,vI UY]),vI tk,.agg #[vI x.dx,vI x.dy,vI x.act]] (ap [] [T1,T2]) F (λ u H'=>∃x_:AM,H'=ap [] [x_.T1,x_.T2]/\(u=.tuple #[(yj S [.slice VY VQ VW,.slice VZ VS VX,vI Xl,vI Vl,.slice A3 rn c3,.slice WD Wo Wz,.slice WE Wp WA,.slice WG Wq WB,.slice x_.A x_.n x_.c,.slice x_.A2 x_.n x_.c2,vI UY]),vI (gl x tk rn ts)]/\SlIs bD 3 x_.ts x_.A x_.c x_.T1/\SlIs bS 24 x_.ls x_.A2 x_.c2 x_.T2/\x_.ts.length=x_.n/\x_.ls.length=x_.n/\x_.n<=n+1/\x_.ts=if gl x tk rn ts=0 then ts++[tk] else ts)):=by
 refine QS Tryz.func13 mn<|ae 11 (ow 1 3) λ n1=>aal (Li hx)<|OU 19<|aaq (tk<0) 21 (λ h2=>?_) λ h2=>?_
 ·refine ae 13 (ow 2 27++ow 0 27) λ _=>?_;have e_:gl x tk rn ts=18:=by rw[gl,if_pos hx,if_pos (by omega)]
  exact aav (ow 0 27) [] [0,1] ⟨⟨A,A2,c,c2,n,ts,ls,T1,T2⟩,rfl,by rw[e_],YD,YG,Zz,Wk,adZ n,by rw[e_];rfl⟩
 ·refine OU 5<|aaq (tk>5999) 24 (λ h3=>?_) λ h3=>?_
  ·refine ae 8 (ow 2 27++ow 0 27) λ _=>?_;have e_:gl x tk rn ts=18:=by rw[gl,if_pos hx,if_pos (by omega)]
   exact aav (ow 0 27) [] [0,1] ⟨⟨A,A2,c,c2,n,ts,ls,T1,T2⟩,rfl,by rw[e_],YD,YG,Zz,Wk,adZ n,by rw[e_];rfl⟩
  ·refine SO 13 [.o 2]<|aaq (tk<(rn:Int)) 30 (λ h4=>?_) λ h4=>?_
   ·refine ae 8 (ow 2 27++ow 0 27) λ _=>?_;have e_:gl x tk rn ts=20:=by rw[gl,if_pos hx,if_neg (by omega),if_pos (by omega)]
    exact aav (ow 0 27) [] [0,1] ⟨⟨A,A2,c,c2,n,ts,ls,T1,T2⟩,rfl,by rw[e_],YD,YG,Zz,Wk,adZ n,by rw[e_];rfl⟩
   ·refine SO 7 (ow 2 27)<|SP (uF S VY VZ A3 WD WE WG VQ VW VS VX rn c3 Wo Wz Wp WA Wq WB Xl Vl UY A A2 n c c2 ts ls tk (YD.rowM (ay 0) Zz) (YG.rowM (ay 1) Wk) (by omega)) ?_;rintro _ x5 ⟨rfl,ho6⟩;refine ae 14 (aab 3) λ n7=>cP (x5.2) 38 (λ h8=>?_) λ h8=>?_
    ·refine ae 8 (ow 3 27++ow 1 27) λ _=>?_;have e_:gl x tk rn ts=4:=by rw[gl,if_pos hx,if_neg (by omega),if_neg (by omega),if_pos (ho6.1 h8)]
     exact aav (ow 1 27) [] [0,1] ⟨⟨A,A2,c,c2,n,ts,ls,T1,T2⟩,rfl,by rw[e_],YD,YG,Zz,Wk,adZ n,by rw[e_];rfl⟩
    ·refine SO 18 [.o 3]<|aau<|aaj (c':=c) (tx:=22) lr ([]:List Int) ts 0 rfl (aay _ _) (by simp;omega) ((YD.rowM (ay 1) Zz).src lr (by decide)) ?_;rintro A9 Yu UQ ⟨Xq,acu⟩;refine aM 43 (congrArg (λ v_=>(.slice A9 v_ Yu:Value)) (show 0+ts.length=n by omega))<|ae 2 [] λ n14=>ez lr [tk] 0 0 (show n=(([]:List Int)++ts).length by simp;omega) Xq (by simp;omega) ?_;rintro A15 c16 W6 ⟨XZ,acs⟩;refine SO 5 [.o 4]<|aau<|aap [3,6,8] []<|ag [] [0,1,2] [.o 4]<|dg 3 4 ?_ ?_
     ·refine RDO.appU (c':=c2) (tx:=25) [] fM ([]:List Inp) ls 0 rfl (aay _ _) (by simp;omega) ((YG.rowM (ay 3) Wk).src fM (by decide)) ?_;rintro A20 c21 T22 ⟨aio,aoD⟩;refine gT 51 (congrArg (λ v_=>(.slice A20 v_ c21:Value)) (show 0+ls.length=n by omega))<|SV 4 [] (ow 3 3)<|aag 5 (aai [] [] λ Z5=>?_);refine aag 6 (iK [] fM [x] 0 0 (show n=(([]:List Inp)++ls).length by simp;omega) aio (by simp;omega) ?_);rintro A26 c27 T28 ⟨aim,aoB⟩;refine aem [7]<|SV 8 [] [.o 5]<|aaf<|ae 8 (ow 5 27++ow 3 27) λ _=>?_;have e_:gl x tk rn ts=0:=by rw[gl,if_pos hx,if_neg (by omega),if_neg (by omega),if_neg (λ h_=>h8 (ho6.2 h_))]
      exact aav (ow 3 27) [] [1,0] ⟨⟨A15,A26,c16,c27,n+1,_,_,W6,T28⟩,rfl,by rw[e_],XZ,aim,by simp;omega,by simp;omega,aaI _,by rw[e_];rfl⟩
     ·refine aai [] (ow 3 3) λ _=>dg 3 5 ?_ ?_
      ·refine RDO.appU (c':=c2) (tx:=25) [] fM ([]:List Inp) ls 0 rfl (aay _ _) (by simp;omega) ((YG.rowM (ay 3) Wk).src fM (by decide)) ?_;rintro A31 c32 T33 ⟨Zt,acq⟩;refine gT 51 (congrArg (λ v_=>(.slice A31 v_ c32:Value)) (show 0+ls.length=n by omega))<|aag 5 (aai [] [] λ n36=>?_);refine aag 6 (iK [] fM [x] 0 0 (show n=(([]:List Inp)++ls).length by simp;omega) Zt (by simp;omega) ?_);rintro A37 c38 T39 ⟨aik,aoA⟩;refine aem [7]<|SV 8 [] [.o 5]<|aaf<|ae 8 (ow 5 27++ow 3 27) λ _=>?_;have e_:gl x tk rn ts=0:=by rw[gl,if_pos hx,if_neg (by omega),if_neg (by omega),if_neg (λ h_=>h8 (ho6.2 h_))]
       exact aav (ow 3 27) [] [1,0] ⟨⟨A15,A37,c16,c38,n+1,_,_,W6,T39⟩,rfl,by rw[e_],XZ,aik,by simp;omega,by simp;omega,aaI _,by rw[e_];rfl⟩
      ·refine aai [] [] λ n42=>aag 3 (RDO.appU (c':=c2) (tx:=25) [] fM ([]:List Inp) ls 0 rfl (aay _ _) (by simp;omega) ((YG.rowM (ay 3) Wk).src fM (by decide)) ?_);rintro A43 c44 T45 ⟨aii,aoy⟩;refine gT 51 (congrArg (λ v_=>(.slice A43 v_ c44:Value)) (show 0+ls.length=n by omega))<|aag 6 (iK [] fM [x] 0 0 (show n=(([]:List Inp)++ls).length by simp;omega) aii (by simp;omega) ?_);rintro A48 c49 T50 ⟨aih,aow⟩;refine aem [7]<|SV 8 [] [.o 5]<|aaf<|ae 8 (ow 5 27++ow 3 27) λ _=>?_;have e_:gl x tk rn ts=0:=by rw[gl,if_pos hx,if_neg (by omega),if_neg (by omega),if_neg (λ h_=>h8 (ho6.2 h_))]
       exact aav (ow 3 27) [] [1,0] ⟨⟨A15,A48,c16,c49,n+1,_,_,W6,T50⟩,rfl,by rw[e_],XZ,aih,by simp;omega,by simp;omega,aaI _,by rw[e_];rfl⟩
theorem Ll{c:Nat} (rn c3:Nat){x:Inp}(tk:Int)(F:HL)(YD:SlIs bD 3 ts A c T1)(YG:SlIs bS 24 ls A2 c2 T2)(Zz:ts.length=n)(Wk:ls.length=n)(hn9:n<=1000)(hx:¬ cS x):aeo 13 #[(yj S [.slice VY VQ VW,.slice VZ VS VX,vI Xl,vI Vl,.slice A3 rn c3,.slice WD Wo Wz,.slice WE Wp WA,.slice WG Wq WB,.slice A n c,.slice A2 n c2,vI UY]),vI tk,.agg #[vI x.dx,vI x.dy,vI x.act]] (ap [] [T1,T2]) F (λ u H'=>∃x_:AM,H'=ap [] [x_.T1,x_.T2]/\(u=.tuple #[(yj S [.slice VY VQ VW,.slice VZ VS VX,vI Xl,vI Vl,.slice A3 rn c3,.slice WD Wo Wz,.slice WE Wp WA,.slice WG Wq WB,.slice x_.A x_.n x_.c,.slice x_.A2 x_.n x_.c2,vI UY]),vI (gl x tk rn ts)]/\SlIs bD 3 x_.ts x_.A x_.c x_.T1/\SlIs bS 24 x_.ls x_.A2 x_.c2 x_.T2/\x_.ts.length=x_.n/\x_.ls.length=x_.n/\x_.n<=n+1/\x_.ts=if gl x tk rn ts=0 then ts++[tk] else ts)):=by
 refine QS Tryz.func13 mn<|ae 11 (ow 1 3) λ n1=>aal (Lj hx)<|ae 19 (ow 2 27++ow 0 27) λ _=>?_;have e_:gl x tk rn ts=1:=by rw[gl,if_neg hx]
 exact aav (ow 0 27) [] [0,1] ⟨⟨A,A2,c,c2,n,ts,ls,T1,T2⟩,rfl,by rw[e_],YD,YG,Zz,Wk,adZ n,by rw[e_];rfl⟩
theorem tu{c:Nat} (rn c3:Nat)(x:Inp)(tk:Int)(YD:SlIs bD 3 ts A c T1)(YG:SlIs bS 24 ls A2 c2 T2)(Zz:ts.length=n)(Wk:ls.length=n)(hn9:n<=1000):aeo 13 #[(yj S [.slice VY VQ VW,.slice VZ VS VX,vI Xl,vI Vl,.slice A3 rn c3,.slice WD Wo Wz,.slice WE Wp WA,.slice WG Wq WB,.slice A n c,.slice A2 n c2,vI UY]),vI tk,.agg #[vI x.dx,vI x.dy,vI x.act]] (ap [] [T1,T2]) F (λ u H'=>∃x_:AM,H'=ap [] [x_.T1,x_.T2]/\(u=.tuple #[(yj S [.slice VY VQ VW,.slice VZ VS VX,vI Xl,vI Vl,.slice A3 rn c3,.slice WD Wo Wz,.slice WE Wp WA,.slice WG Wq WB,.slice x_.A x_.n x_.c,.slice x_.A2 x_.n x_.c2,vI UY]),vI (gl x tk rn ts)]/\SlIs bD 3 x_.ts x_.A x_.c x_.T1/\SlIs bS 24 x_.ls x_.A2 x_.c2 x_.T2/\x_.ts.length=x_.n/\x_.ls.length=x_.n/\x_.n<=n+1/\x_.ts=if gl x tk rn ts=0 then ts++[tk] else ts)):=by
 by_cases hx:cS x
 ·exact Lk S VY VZ WD WE WG VQ VW VS VX Wo Wz Wp WA Wq WB Xl Vl UY A3 rn c3 tk F YD YG Zz Wk hn9 hx
 ·exact Ll S VY VZ WD WE WG VQ VW VS VX Wo Wz Wp WA Wq WB Xl Vl UY A3 rn c3 tk F YD YG Zz Wk hn9 hx
end
end Go.Proofs.YtogafelgppjklaaGreatDoor
namespace Go.Proofs.YtogafelgppjklaaGreatDoor
open Go.RowKit
variable {F:HL} {ck ec gb lb me n pp rb rbk rc sg uc un w:Nat} {eA rA uA:Option Addr} {xs:List Inp}
theorem Qx{b a:Nat}(h:InB F b a xs.length λ k=>xs.getD k dI):SrcIn Tryz.prog bS F (some ⟨b,a,none⟩) xs.length xs:=by
 refine⟨⟨rfl,λ h=>by cases h⟩,λ c hk X w hR=>Src.ofSlice w hk _ _ _ _ (by rw[aE]) ?_ ?_⟩
 ·intro j u hj;have Xa:j<xs.length*3:=by have:=(bt.1 hj).1;rw[aE] at this;exact this
  rw[rP xs (by decide) Xa] at hj;have hd:j/3<xs.length:=by omega
  have h1:=h w (λ x hx=>hR.holds x (aaB X hx)) (j/3) hd (j%3) u (by
   have h3:j%3<3:=Nat.mod_lt _ (by decide);rw[<- hj];show _=some (bS.cell (xs.getD (j/3) dI) (j%3));generalize j%3=m at h3;rcases m with _|_|_|m
   ·rfl
   ·rfl
   ·rfl
   ·omega)
  rw[Addr.add_lit];rw[show a+j=a+j/3*3+j%3 by omega];exact h1
 ·intro u hu;simp only[aq,adT,abG] at hu;obtain⟨x,_,k,_,rfl⟩:=hu;exact fM.one x k
theorem RowB.src{A:Option Addr}(h:RowB F A n λ k=>xs.getD k dI)(h0:0<n)(e:xs.length=n):SrcIn Tryz.prog bS F A n xs:=by
 obtain⟨b,a,rfl,hI⟩:=h.at h0;subst e;exact Qx hI
structure CMd where
 A:Option Addr
 n:Nat
 c:Nat
 rl:List Rw
 T:HL
theorem Lm{pl:Int}{now:Int}(h:bm pl n xs now=0):(n:Int)=pl:=by
 unfold bm at h;split at h
 ·assumption
 ·exact absurd h (by decide)
theorem tw(S:Setup)(VY VZ WD WE WG Ati Alo:Option Addr)(VQ VW VS VX Wo Wz Wp WA Wq WB nti cti nlo clo:Nat)(Xl Vl UY:Int)(AR:Option Addr) {A3:Option Addr}{nR:Nat} (cR:Nat) {rn c3:Nat}(xs:List Inp){rl:List Rw}{T3:HL}(tk:Int)(hl:RowB F AR nR λ k=>xs.getD k dI)(hxn:xs.length=nR)(hn9:nR<=1000000)(hp1:1<=S.players)(Xr:SlIs jo 25 rl A3 c3 T3)(UN:rl.length=rn)(hr9:rn<=1000):aeo 15 #[(yj S [.slice VY VQ VW,.slice VZ VS VX,vI Xl,vI Vl,.slice A3 rn c3,.slice WD Wo Wz,.slice WE Wp WA,.slice WG Wq WB,.slice Ati nti cti,.slice Alo nlo clo,vI UY]),vI tk,.slice AR nR cR] (ap [] [T3]) F (λ u H'=>∃x_:CMd,H'=ap [] [x_.T]/\(u=.tuple #[(yj S [.slice VY VQ VW,.slice VZ VS VX,vI Xl,vI Vl,.slice x_.A x_.n x_.c,.slice WD Wo Wz,.slice WE Wp WA,.slice WG Wq WB,.slice Ati nti cti,.slice Alo nlo clo,vI UY]),vI (f5 S.players nR xs tk rn)]/\SlIs jo 25 x_.rl x_.A x_.c x_.T/\x_.rl.length=x_.n/\x_.n=if f5 S.players nR xs tk rn=0 then rn+1 else rn)):=by
 refine QS Tryz.func15 mn<|ae 12 (ow 1 16) λ n1=>aal (FM S 0 AR cR xs hl.up hn9)<|OU 10<|aar (bm S.players nR xs 0=0) 16 (λ h2=>?_) λ h2=>?_
 ·refine SO 13 [.o 1]<|aar (tk=(rn:Int)) 23 (λ h3=>?_) λ h3=>?_
  ·refine OU 10<|aaq (tk>5999) 26 (λ h4=>?_) λ h4=>?_
   ·refine ae 8 (ow 1 27++ow 0 27) λ _=>?_;have e_:f5 S.players nR xs tk rn=2:=by rw[f5,if_pos h2,if_pos (by omega),if_pos (by omega)]
    exact aav (ow 0 27) [] [0] ⟨⟨A3,rn,c3,rl,T3⟩,rfl,by rw[e_],Xr,UN,by rw[e_];rfl⟩
   ·refine ae 12 [] λ _=>?_;have acN:0<nR:=by have h_:=Lm h2;omega
    refine aau<|aaj (c':=cR) (tx:=25) fM ([]:List Inp) xs 0 rfl (aay _ _) (by simp;omega) ((hl.src acN hxn).up) ?_;rintro A5 c6 T7 ⟨hs8,hz9⟩;refine aM 30 (congrArg (λ v_=>(.slice A5 v_ c6:Value)) (show 0+xs.length=nR by omega))<|SO 13 [.o 1]<|aau<|aaj (c':=c3) (tx:=46) lC ([]:List Rw) rl 0 rfl (aay _ _) (by simp;omega) ((Xr.rowM (ay 2) UN).src lC (by decide)) ?_;rintro A10 c11 T12 ⟨Xp,aeT⟩;refine aM 34 (congrArg (λ v_=>(.slice A10 v_ c11:Value)) (show 0+rl.length=rn by omega))<|ae 2 [] λ n15=>ez lC [(⟨A5,nR,c6⟩:Rw)] 0 0 (show rn=(([]:List Rw)++rl).length by simp;omega) Xp (by simp;omega) ?_;rintro A16 c17 T18 ⟨aa0,aeP⟩;refine ae 11 (ow 2 28++ow 1 27) λ _=>?_;have e_:f5 S.players nR xs tk rn=0:=by rw[f5,if_pos h2,if_pos (by omega),if_neg (by omega)]
    exact aav (ow 1 27) [] [0] ⟨⟨A16,rn+1,c17,_,T18⟩,rfl,by rw[e_],aa0,by simp;omega,by rw[e_];rfl⟩
  ·refine ae 8 (ow 1 27++ow 0 27) λ _=>?_;have e_:f5 S.players nR xs tk rn=5:=by rw[f5,if_pos h2,if_neg (by omega)]
   exact aav (ow 0 27) [] [0] ⟨⟨A3,rn,c3,rl,T3⟩,rfl,by rw[e_],Xr,UN,by rw[e_];rfl⟩
 ·refine ae 9 (ow 1 27++ow 0 27) λ _=>?_;have e_:f5 S.players nR xs tk rn=bm S.players nR xs 0:=by rw[f5,if_neg h2]
  exact aav (ow 0 27) [] [0] ⟨⟨A3,rn,c3,rl,T3⟩,rfl,by rw[e_],Xr,UN,by rw[e_,if_neg h2]⟩
theorem mu{rs_:List Bx}{ds_:List Dr}{S2:Setup}{M:MemS}{bp mb k:Nat}{Tg:HL}{pl rn en:Nat}{e0:Int}(hp:(pp,.lit [vI (pl:Int),vI (me:Int),vI (w:Int),vP gb 0,vP rb 0,.map (some lb),.slice rA rn rc,vI (ck:Int),.slice uA un uc,.slice eA en ec,vI (rbk:Int),vP sg 0] 89 (0,0))∈F)(hG:GameX rs_ ds_ bp gb mb S2 M k Tg)(hT:∀x∈Tg,x∈F)(he0:M.get 0=e0):aen 28 #[vP pp 0] F (vI e0):=by
 refine QU Tryz.func28 hp<|SO 11 [.ro 0]<|aal (SE hG (λ x hx=>aC (hT x hx)) he0)<|ae 3 [] λ _=>QW _ _ ⟨rfl,rfl⟩
theorem iV{pl rn en:Nat}(hp:(pp,.lit [vI (pl:Int),vI (me:Int),vI (w:Int),vP gb 0,vP rb 0,.map (some lb),.slice rA rn rc,vI (ck:Int),.slice uA un uc,.slice eA en ec,vI (rbk:Int),vP sg 0] 89 (0,0))∈F):aen 29 #[vP pp 0] F (vI (rn:Int)):=by
 refine QU Tryz.func29 hp<|ae 15 [.ro 0] λ _=>QW _ _ ⟨rfl,rfl⟩
theorem Gv{pl rn en:Nat}(hp:(pp,.lit [vI (pl:Int),vI (me:Int),vI (w:Int),vP gb 0,vP rb 0,.map (some lb),.slice rA rn rc,vI (ck:Int),.slice uA un uc,.slice eA en ec,vI (rbk:Int),vP sg 0] 89 (0,0))∈F):aen 43 #[vP pp 0] F (vI (rbk:Int)):=by
 refine QU Tryz.func43 hp<|ae 14 [.ro 0] λ _=>QW _ _ ⟨rfl,rfl⟩
section
variable {rs_:List Bx} {ds_:List Dr} {bp pp pl me w:Nat} {S:Setup} {J:Nat->Nat×Int} {P:PS (List Inp)} {kv:List (Int×Value×Nat)} {c sn:Nat} {X:Option (Rw×List Inp)} {G F:HL}
theorem OO(h:PeerR rs_ ds_ bp pp pl me w S J P kv c sn X G)(hF:∀x∈G,x∈F){e:Int}(he:P.M.get 0=e):aen 28 #[vP pp 0] F (vI e):=by
 cases h with
 |mk q1_ q2_ q3_ q4_ q5_ hse_ hg=>exact mu (hF _ (aaC _ aaD)) hg (λ x hx=>hF x (by simp[ap,hx])) he
theorem Qy(h:PeerR rs_ ds_ bp pp pl me w S J P kv c sn X G)(hF:∀x∈G,x∈F):aen 43 #[vP pp 0] F (vI (P.rb:Int)):=by
 cases h with
 |mk q1_ q2_ q3_ q4_ q5_ hse_ hg=>rw[q5_];exact Gv (hF _ (aaC _ aaD))
end
open Go.Shelf
section
variable {r:Option Nat} {P:Program} {N:Nat} {D:List Deferred} {F:HL} {w0:World} {R:HL} {s:Cfg} {Q:Exit->Act->World->Prop} {hards:List Nat}
theorem NR{i:Nat}(p:Nat){kv:List (Int×Value×Nat)}{cl:Nat}{k:Int}{v:Value}(hk:RD r P N D F w0 R hards [] (SC p (bn (lc kv cl k v) (jq kv cl k)) (qI N i undef s)) Q)
  (h:t2 P N p (jd i s) s=some (k,v,Gp (t2 P N p (jd i s) s),Gp (t2 P N p (jd i s) s),bn kv cl):=by kernel_rfl) (hx:hards.contains i=true:=by kernel_rfl):RDO r P N D F w0 R hards [] i s Q:=by
 obtain⟨o,t,m,x,y,kt,et,ik,q0,q1,q2,q3,q3',Zb,q4,q5,q5',q6,q7,P_,U5⟩:=vG h;generalize Gp (t2 P N p (jd i s) s)=b at *;obtain⟨c,kk,L,A,Ts⟩:=s;unfold jd at q0;cases c with
 |code c=>cases q0
 |ex c=>cases q0
 |ops _ _=>cases q0
 |drw ops li=>
  refine⟨λ hR=>?_⟩;simp only at q0 q3 q3' Zb q4 q5 q5' P_ U5;have UF:∀v L',dK N o.dst v L=some L'->qI N i v ⟨.drw ops li,kk,L,A,Ts⟩=⟨.drw ops (aO li i true),kk,L',A,Ts⟩:=by
   intro v L' hl;unfold qI;simp only[q0,hl]
  have iD:∀L':FL,SC p (bn (lc kv cl k v) (jq kv cl k)) ⟨.drw ops (aO li i true),kk,L',A,Ts⟩=⟨.drw ops (aO li i true),kk,L',aO A p (b,.obj (bn (lc kv cl k v) (jq kv cl k))),Ts⟩:=by
   intro L';unfold SC;simp only[P_]
  refine(jX (Q:=Q) (by simpa using q0) (σ:=Unit) (λ u _=>u=undef) (λ _=>ap (aO A p (b,.obj (bn (lc kv cl k v) (jq kv cl k)))) Ts) U5 (λ a hF=>⟨by simp[Region.wanted,q1],λ w aT hB=>?_⟩) (λ _=>⟨λ hi=>?_,λ _ x hm=>by cases hm⟩) ?_:RDO r P N D F w0 R hards [] i ⟨.drw ops li,kk,L,A,Ts⟩ Q).h hR
  ·have hb:=aT.holds _ (aaC _ (aaC _ (np P_)));simp only[Blk.den] at hb;have e1:a.eval m=.map (some b):=(hF.eval q3).trans q4;have e2:a.eval x=.int .i64 k:=(hF.eval q3').trans q5;have e3:a.eval y=v:=(hF.eval Zb).trans q5';have Zp:=qE (P:=P) (w:=w) (k:=k) (v:=v) q6 q7 hb;have hex:(execOp a.eval o).run P w=.ok .skip { w with heap:=w.heap.setIfInBounds b (bn (lc kv cl k v) (jq kv cl k)) }:=by
    rcases q2 with q2|q2
    ·simp only[execOp,q2,e1,e2,e3,aa8,Zp,Result.andThen];rfl
    ·simp only[execOp,q2,e1,e2,e3,aa8,Zp,Result.andThen];rfl
   unfold cI;rw[hex];have g_:=bX hb;rw[eF] at aT;have By:=aT.upd (w':={ w with heap:=w.heap.setIfInBounds b (bn (lc kv cl k v) (jq kv cl k)) }) (bl':=.obj (bn (lc kv cl k v) (jq kv cl k))) P_ (by
    show (w.heap.setIfInBounds b _)[b]?=_;rw[lv g_];rfl) (λ k' XI=>by
    show (w.heap.setIfInBounds b _)[k']?=_;rw[WP (λ e=>XI e.symm)])
   exact⟨(),rfl,by rw[eF];exact By,⟨rfl,rfl,rfl,by simp,λ k hk=>by omega⟩⟩
  ·exact absurd (abC.1 hx) hi
  ·rintro u _ rfl L' Vo hs;have h3:=hk.h hR;rw[UF _ L' Vo,iD] at h3;exact h3 hs
end
end Go.Proofs.YtogafelgppjklaaGreatDoor
namespace Go.Proofs.YtogafelgppjklaaGreatDoor
open Go.RowKit Go.Shelf
variable {A:Option Addr} {F:HL} {J:Nat->Nat×Int} {P:PS (List Inp)} {S:Setup} {X:Option (Rw×List Inp)} {bp me n pp sn w:Nat} {ds_:List Dr} {rs_:List Bx} {t:Int} {ts:List Int} {xs:List Inp} (mb:Nat)
def fdC(T:HL)(s:Cfg):Cfg:=match s with
 | ⟨c,k,L,_,_⟩=>⟨c,k,L,[],[T]⟩
theorem NS{r:Option Nat}{P:Program}{N:Nat}{D:List Deferred}{w0:World}{R:HL}{s:Cfg}{Q:Exit->Act->World->Prop}{B:HL}{Bs:List HL}{T:HL}(e:T=ap B Bs)(hk:RN r P N D F w0 R (fdC T s) Q)(h:(s.A,s.Ts)=(B,Bs):=by kernel_rfl):RN r P N D F w0 R s Q:=by
 obtain⟨c,k,L,A,Ts⟩:=s;simp only[df] at h;obtain⟨rfl,rfl⟩:=h;subst e;exact⟨λ hR a w h1 h2 h3=>hk.h hR a w h1 (by simpa [ap,fdC] using h2) h3⟩
theorem Ln(v lo hi:Int)(apA:lo<=v)(ajg:v<=hi):aen 63 #[vI v,vI lo,vI hi] F (.bool true):=by
 refine QT Tryz.func63<|OU 11<|aaq (lo<=v) 10 (λ h1=>?_) λ h1=>?_
 ·refine ae 7 [] λ _=>QW (.bool (decide (v<=hi))) _ ⟨by rw[abk ajg],rfl⟩
 ·(exfalso;omega)
theorem tz{x:Inp}(h:cS x):aen 40 #[.agg #[vI x.dx,vI x.dy,vI x.act]] F (vI 0):=by
 have UZ:=h;unfold cS at UZ;refine QT Tryz.func40<|ae 11 [.o 0] λ n1=>aal (Ln x.dx (-1) 1 (by omega) (by omega))<|SO 4 [.o 0]<|aal (Ln x.dy (-1) 1 (by omega) (by omega))<|SO 5 [.o 0]<|aal (Ln x.act 0 3 (by omega) (by omega))<|ae 12 [] λ _=>QW _ _ ⟨rfl,rfl⟩
theorem Gw(F:HL)(hw:1<=w/\w<=13):aeo 23 #[vP mb 0,vI (w:Int)] [] F (λ u H'=>∃b:Nat,H'=ap [(b,.lit [vP mb 0,vI (w:Int),.slice none 0 0] 128 (0,0))] []/\u=vP b 0):=by
 refine QT Tryz.func23<|OU 11<|aM 8 (congrArg (λ v_=>(vI v_:Value)) (show (if (if 13<(w:Int) then 13 else (w:Int))>1 then (if 13<(w:Int) then 13 else (w:Int)) else 1)=(w:Int) by (repeat' split) <;> omega))<|ae 5 [] λ n1=>aav [] [0] [] (v:=vP (n1+0) 0) ⟨_,rfl,rfl⟩
theorem vJ(w:Nat)(hw:1<=w/\w<=13):aeo 23 #[vP mb 0,vI (w:Int)] (ap [] []) F (λ u H'=>∃x:Nat×HL,H'=ap [] [x.2]/\(u=vP x.1 0/\RingH x.1 mb w 0 [] x.2)):=(Gw mb F hw).mono λ u H' h=>by
 obtain⟨b,rfl,hse_⟩:=h;refine⟨(b,ap [(b,.lit [vP mb 0,vI (w:Int),.slice none 0 0] 128 (0,0))] [[]]),by simp[ap],hse_,?_⟩;exact RingH.mk (n:=0) (SlX.nil _ _) rfl (λ _=>⟨rfl,rfl,rfl⟩)
theorem qF{rs:List Bx}{ds:List Dr}(bp:Nat) {pl:Nat} (me w:Nat)(J:Nat->Nat×Int)(hS:SetCl F S)(hM:MapIn F S rs ds)(h1:1<=S.nb)(UN:S.rn<=1000000)(Yd:S.dn<=1000000)(RW:(sizeOf S).toNat<=1000000)(hv:gq S rs ds=0)(hpl:S.players=(pl:Int))(Yl:me<pl)(hw:1<=w/\w<=12):aeo 6 #[Setup.v S,vP bp 0,vI (me:Int),vI (w:Int)] (ap [] []) F (λ u H'=>∃x:Nat×HL,H'=ap [] [x.2]/\(u=.tuple #[vP x.1 0,vI 0]/\PeerR rs ds bp x.1 pl me w S J (⟨⟨b8 S S.nb,[],0⟩,0,[],[],0,[],[],0⟩:PS (List Inp)) ([]) 0 0 none x.2)):=by
 have apN:=j7 S S.nb;refine QT Tryz.func6<|ae 11 (ow 0 16) λ n1=>SP (sH bp hS.up hM.up h1 UN Yd RW hv 99020000 (by decide)) ?_;rintro _ ⟨g2,S3,T4⟩ ⟨rfl,he5,hG6⟩;dsimp only at he5 hG6;obtain⟨aeH,acx⟩:=hG6.x;refine OU 23<|aaq ((me:Int)<0) 24 (λ h7=>?_) λ h7=>?_
 ·(exfalso;omega)
 ·refine SO 7 [.o 0]<|aaq ((me:Int)>=S.players) 29 (λ h8=>?_) λ h8=>?_
  ·(exfalso;omega)
  ·refine OU 9<|aaq ((w:Int)<1) 32 (λ h9=>?_) λ h9=>?_
   ·(exfalso;omega)
   ·refine OU 5<|aaq ((w:Int)>12) 35 (λ No=>?_) λ No=>?_
    ·(exfalso;omega)
    ·refine SO 7 (ow 0 16)<|SP (sH bp hS.up hM.up h1 UN Yd RW hv 99020000 (by decide)) ?_;rintro _ ⟨g11,S12,WC⟩ ⟨rfl,ac4,agn⟩;dsimp only at ac4 agn;obtain⟨aos,aeW⟩:=agn.x;refine OU 18<|aap [] []<|ag [] [0,2,3,4,5,7,10,1] [.o 0]<|aae [] 6 (λ X_=>(SB acx (aY 1)))<|dg 8 9 ?_ ?_
     ·refine Q1 [] (vJ aeH w (by omega)) ?_;rintro _ ⟨b16,W6⟩ ⟨rfl,afv⟩;dsimp only at afv;refine aag 9 (aai [] [] λ n19=>?_);refine gT 46 (congrArg (λ v_=>(vI v_:Value)) hpl)<|aem [11]<|aag 12 (aai [] [] λ Yy=>?_);refine aem [13,14]<|Q2 1<|QV [] [0,1] [2,0,1] (.tuple #[vP (Yy+0) 0,vI 0]) (ap [((Yy+0),.lit [vI (pl:Int),vI (me:Int),vI (w:Int),vP g2 0,vP b16 0,.map (some (n19+0)),.slice none 0 0,vI 0,.slice none 0 0,.slice none 0 0,vI 0,vP g11 0] 89 (0,0)),((n19+0),.obj (bn [] 0))] [T4,W6,WC]) ⟨((Yy+0),ap [((Yy+0),.lit [vI (pl:Int),vI (me:Int),vI (w:Int),vP g2 0,vP b16 0,.map (some (n19+0)),.slice none 0 0,vI 0,.slice none 0 0,.slice none 0 0,vI 0,vP g11 0] 89 (0,0)),((n19+0),.obj (bn [] 0))] [T4,W6,[],[],[],[],[],WC]),by simp[ap],rfl,PeerR.mk (P:=(⟨⟨b8 S S.nb,[],0⟩,0,[],[],0,[],[],0⟩:PS (List Inp))) (rl:=[]) (ul:=[]) (el:=[]) rfl rfl rfl rfl rfl he5 (acx.weak (aaJ _)) ⟨acn 0,acn 0⟩ afv LocIn.nil (aay _ _) rfl RwsT.nil (SlX.nil _ _) rfl RwsT.nil (aay _ _) rfl EfsT.nil ac4 aeW rfl (aaI _) ⟨acn 0,acn 0⟩ hpl (λ _ _ h_=>by cases h_)⟩
     ·refine aai [] [] λ UP=>aag 8 (Q1 [] (vJ aeH w (by omega)) ?_);rintro _ ⟨b22,Z2⟩ ⟨rfl,afu⟩;dsimp only at afu;refine gT 46 (congrArg (λ v_=>(vI v_:Value)) hpl)<|aem [11]<|aag 12 (aai [] [] λ Z5=>?_);refine aem [13,14]<|Q2 1<|QV [] [0,1] [2,0,1] (.tuple #[vP (Z5+0) 0,vI 0]) (ap [((Z5+0),.lit [vI (pl:Int),vI (me:Int),vI (w:Int),vP g2 0,vP b22 0,.map (some (UP+0)),.slice none 0 0,vI 0,.slice none 0 0,.slice none 0 0,vI 0,vP g11 0] 89 (0,0)),((UP+0),.obj (bn [] 0))] [T4,Z2,WC]) ⟨((Z5+0),ap [((Z5+0),.lit [vI (pl:Int),vI (me:Int),vI (w:Int),vP g2 0,vP b22 0,.map (some (UP+0)),.slice none 0 0,vI 0,.slice none 0 0,.slice none 0 0,vI 0,vP g11 0] 89 (0,0)),((UP+0),.obj (bn [] 0))] [T4,Z2,[],[],[],[],[],WC]),by simp[ap],rfl,PeerR.mk (P:=(⟨⟨b8 S S.nb,[],0⟩,0,[],[],0,[],[],0⟩:PS (List Inp))) (rl:=[]) (ul:=[]) (el:=[]) rfl rfl rfl rfl rfl he5 (acx.weak (aaJ _)) ⟨acn 0,acn 0⟩ afu LocIn.nil (aay _ _) rfl RwsT.nil (SlX.nil _ _) rfl RwsT.nil (aay _ _) rfl EfsT.nil ac4 aeW rfl (aaI _) ⟨acn 0,acn 0⟩ hpl (λ _ _ h_=>by cases h_)⟩
abbrev Setup.rd(S:Setup)(x:Int):Setup:={ S with rounds:=x }
section
variable {S:Setup} {rs:List Bx} {ds:List Dr} {F:HL}
theorem SH(hv:gq S rs ds=0):gq (S.rd 0) rs ds=11:=by
 have h:∀k,k<S.nb->kf (S.body k).sh:=by
  unfold gq at hv;split at hv
  ·assumption
  ·cases hv
 unfold gq;rw[if_pos (show ∀k,k<(S.rd 0).nb->kf ((S.rd 0).body k).sh from h),if_neg];rintro⟨h1,_⟩;have h2:(1:Int)<=0:=(h1.2.2.2.2.2.2.1 0 (show 0<1 by decide)).1;omega
theorem Uy(hv:gq S rs ds=0):gq (S.rd 1) rs ds=0:=by
 unfold gq at hv ⊢;split at hv
 ·next h1=>
  split at hv
  ·next h2=>
   split at hv
   ·next h3=>
    obtain⟨⟨a1,a2,a3,a4,a5,a6,a7,a8⟩,h4⟩:=h2;rw[if_pos (show ∀k,k<(S.rd 1).nb->kf ((S.rd 1).body k).sh from h1),if_pos (show yQ (S.rd 1) rs ds from ⟨⟨a1,a2,a3,a4,a5,a6,pM.2 ⟨⟨show (1:Int)<=1 by decide,show (1:Int)<=4 by decide⟩,sD⟩,a8⟩,h4⟩),if_pos (show ∀k,k<(S.rd 1).nb->fR ((S.rd 1).body k) (S.rd 1).box from h3)]
   ·cases hv
  ·cases hv
 ·cases hv
theorem Lo(h:MapIn F S rs ds)(r:Int):MapIn F (S.rd r) rs ds:=⟨h.1,h.2⟩
theorem OP(h:SetCl F S)(r:Int):SetCl F (S.rd r):=⟨⟨h.toSetN.pl,h.toSetN.nb⟩,h.blk,h.room,λ k hk=>h.shp k hk⟩
theorem pn(h:SetIn F S)(r:Int):SetIn F (S.rd r):=⟨⟨h.toSetN.pl,h.toSetN.nb⟩,h.blk,h.room,λ k hk=>h.shp k hk⟩
theorem Uz(h:SetV S):SetV (S.rd 1):=⟨h.pl,h.nb,⟨show (1:Int)<=1 by decide,show (1:Int)<=3 by decide⟩,h.fu⟩
end
abbrev xe(kv:List (Int×Value×Nat))(j:Int):Prop:=(nh kv j).isSome=true
theorem D3(j:Int):∀ (kv:List (Int×Value×Nat)) (a b:Nat),(fB kv j a).isSome=(fB kv j b).isSome
 | [],_,_=>rfl
 |x::l,a,b=>by
  rw[fB,fB];split
  ·rfl
  ·exact D3 j l _ _
theorem Ac(j t:Int)(v:Value)(c:Nat):∀ (kv:List (Int×Value×Nat)) (a:Nat),(fB (kv++[(t,v,c)]) j a).isSome=true↔(fB kv j a).isSome=true\/j=t
 | [],a=>by
  show (if (j == t)=true then some (a,v) else fB [] j (a+1)).isSome=true↔(none:Option (Nat×Value)).isSome=true\/j=t;split
  ·next h=>exact⟨λ _=>.inr (by simpa using h),λ _=>rfl⟩
  ·next h=>exact⟨λ h_=>by simp[fB] at h_,λ h_=>h_.elim (λ h2=>by simp[fB] at h2) λ h2=>absurd (by simpa using h2) h⟩
 |x::l,a=>by
  rw[abl,fB,fB];split
  ·exact⟨λ _=>.inl rfl,λ _=>rfl⟩
  ·exact Ac j t v c l _
theorem Gx{kv:List (Int×Value×Nat)}{v:Value}{c:Nat}(h:nh kv t=none)(j:Int):xe (lc kv c t v) j↔xe kv j\/j=t:=by
 have h1:fB kv t 0=none:=by
  unfold nh at h;cases e:fB kv t 0 with
  |none=>rfl
  |some x=>rw[e] at h;cases h
 unfold xe nh lc;rw[h1,adP,adP];exact Ac j t v c kv 0
theorem Ad{j k:Int}(hj:¬ j=k):∀ (kv:List (Int×Value×Nat)) (a n:Nat) (v:Value),fB kv k a=some (a+n,v)->∀b,(fB (kv.eraseIdx n) j b).isSome=(fB kv j b).isSome
 | [],_,_,_,h,_=>by cases h
 |x::l,a,n,v,h,b=>by
  rw[fB] at h;split at h
  ·next hk=>
   simp only[de,df] at h;obtain rfl:n=0:=by omega
   have e:k=x.1:=by simpa using hk
   rw[List.eraseIdx_zero,List.tail_cons,fB,if_neg (by rw[<- e];simpa using hj)];exact D3 j l _ _
  ·next hk=>
   have h2:=(kG k l _ _ _ h).1;obtain⟨m,rfl⟩:∃m,n=m+1:=⟨n-1,by omega⟩;rw[List.eraseIdx_cons_succ,fB,fB];split
   ·rfl
   ·exact Ad hj l (a+1) m v (by rw[h];congr 2;omega) _
theorem Gy{kv:List (Int×Value×Nat)}{k j:Int}(hj:¬ j=k):xe (ld kv k) j↔xe kv j:=by
 unfold xe nh ld;rw[adP,adP];split
 ·next i v e=>rw[Ad hj kv 0 i v (by rw[abp];exact e)]
 ·exact Iff.rfl
def iA(x:Inp)(t:Int)(rn:Nat)(kv:List (Int×Value×Nat)):Int:=if cS x then (if t<0\/t>=6000 then 18 else if t<(rn:Int) then 20 else if (nh kv t).isSome=true then 4 else 0) else 1
def Tie(rn:Nat)(kv:List (Int×Value×Nat))(ts:List Int):Prop:=∀j:Int,(rn:Int)<=j->(xe kv j↔j∈ts)
theorem Tie.same{rn:Nat}{kv:List (Int×Value×Nat)}(h:Tie rn kv ts)(x:Inp)(t:Int):iA x t rn kv=gl x t rn ts:=by
 unfold iA gl;split
 ·by_cases h1:t<0\/t>5999
  ·rw[if_pos h1,if_pos (by omega)]
  ·rw[if_neg h1,if_neg (by omega)]
   by_cases h2:t<(rn:Int)
   ·rw[if_pos h2,if_pos h2]
   ·rw[if_neg h2,if_neg h2];have h3:=h t (by omega)
    by_cases h4:t∈ts
    ·rw[if_pos h4,if_pos (h3.2 h4)]
    ·rw[if_neg h4,if_neg λ h5=>h4 (h3.1 h5)]
 ·rfl
theorem Tie.add{rn:Nat}{kv kv':List (Int×Value×Nat)}{ts':List Int}{x:Inp}(h:Tie rn kv ts)(hk:∀j,xe kv' j↔xe kv j\/(iA x t rn kv=0/\j=t))(ht:ts'=if gl x t rn ts=0 then ts++[t] else ts):Tie rn kv' ts':=λ j hj=>by
 rw[hk j,h.same,h j hj,ht];split
 ·next e=>simp[e]
 ·next e=>simp[e]
theorem Tie.con{rn rn':Nat}{kv kv':List (Int×Value×Nat)}{e:Int}(h:Tie rn kv ts)(hr:rn'=if e=0 then rn+1 else rn)(h0:e=0->kv'=ld kv (rn:Int))(h1:¬ e=0->kv'=kv):Tie rn' kv' ts:=λ j hj=>by
 by_cases e0:e=0
 ·rw[if_pos e0] at hr;subst hr;rw[h0 e0,Gy (by omega)];exact h j (by omega)
 ·rw[if_neg e0] at hr;subst hr;rw[h1 e0];exact h j hj
theorem xf{pl:Nat}{kv:List (Int×Value×Nat)}{c:Nat}{gb mb rb lb cl rn rc ck un uc en ec rbk sg smb:Nat}{S2 S3:Setup}{rA uA eA:Option Addr}{rl ul el:List Rw}{N:MemS}{Tg Tn Tr Tu Te Tp Tq Ts:HL}(q1_:P.rows.length=rn)(q2_:P.ck=ck)(q3_:P.used.length=un)(q4_:P.effs.length=en)(q5_:P.rb=rbk)(hse_:SetEq S S2)(hg:GameX rs_ ds_ bp gb mb S2 P.M 0 Tg)(hb:0<=P.M.base/\P.M.base+(P.M.lg.length:Int)<=20000*(c:Int))(hn:RingH rb mb w P.a P.ms Tn)(hkv:LocIn kv)(hr:SlIs jo 25 rl rA rc Tr)(hrl:rl.length=rn)(hrr:RwsT rl P.rows Tp)(hu:SlX jo 25 ul uA uc Tu)(hul:ul.length=un)(huu:RwsT ul P.used Tp)(he:SlIs jT 132 el eA ec Te)(hel:el.length=en)(hee:EfsT el P.effs Tq)(hse3_:SetEq S S3)(hs:GameX rs_ ds_ bp sg smb S3 N 99020000 Ts)(hsc:N.cs=WS S J P.rows sn)(hsn:sn<=rn)(hsb:0<=N.base/\N.base<=1000000*(sn:Int))(hpl:S.players=(pl:Int))(hX:∀p xs,X=some (p,xs)->∀F:HL,(∀y∈Tp,y∈F)->RwIn F xs p) (cc:Nat)(hl:RowL bS 24 F A n xs)(hn9:n=pl)(U2:n=xs.length)(VE:1<=n)(hn2:n<=1000)(dO:∀k,k<n->cS (xs.getD k dI))(UN:rn<=5000):aeo 16 #[vP pp 0,vI (rn:Int),.slice A n cc] (ap [(pp,.lit [vI (pl:Int),vI (me:Int),vI (w:Int),vP gb 0,vP rb 0,.map (some lb),.slice rA rn rc,vI (ck:Int),.slice uA un uc,.slice eA en ec,vI (rbk:Int),vP sg 0] 89 (0,0)),(lb,.obj (bn kv cl))] [Tg,Tn,Tr,Tu,Te,Tp,Tq,Ts]) F (λ u H'=>u=vI 0/\PeerR rs_ ds_ bp pp pl me w S J (ie P xs) (ld kv (rn:Int)) c sn none H'):=by
 refine QS Tryz.func16 mn<|SO 17 [.o 0]<|aar ((n:Int)=(pl:Int)) 15 (λ h1=>?_) λ h1=>?_
 ·refine OU 12<|aat (σ:=Nat) (λ k_=>⟨[(0,vP pp 0),(1,vI (rn:Int)),(2,.slice A n cc),(16,.slice A n cc),(17,vI (n:Int)),(18,vI (k_:Int))],[(pp,.lit [vI (pl:Int),vI (me:Int),vI (w:Int),vP gb 0,vP rb 0,.map (some lb),.slice rA rn rc,vI (ck:Int),.slice uA un uc,.slice eA en ec,vI (rbk:Int),vP sg 0] 89 (0,0)),(lb,.obj (bn kv cl))],[Tg,Tn,Tr,Tu,Te,Tp,Tq,Ts],k_<=n,n-k_⟩) 0 [0,1] [0,1,2,3,4,5,6,7] (aaJ _) ?_;rintro k_ YJ OF;refine OU 6<|aaq ((k_:Int)<(n:Int)) 19 (λ h4=>?_) λ h4=>?_
  ·refine ae 7 [] λ _=>?_;obtain⟨qx5,VP,Nx5,fx5,agy,VM,X1,afq,ZG⟩:=hl.at (k:=k_) (by omega);refine aM 16 (congrArg (λ v_=>(.slice v_ n cc:Value)) VM)<|RN.ro (λ _=>(mc X1 mn))<|ah 2 [.ix k_,.rorow 0 (VP+k_) 0,.rorow 0 (VP+k_) 1,.rorow 0 (VP+k_) 2] [((VP*3+k_*3)+2)=(VP+k_)*3+2/\(VP+k_)<Nx5,((VP*3+k_*3)+1)=(VP+k_)*3+1/\(VP+k_)<Nx5,(VP*3+k_*3)=(VP+k_)*3+0/\(VP+k_)<Nx5,(k_:Int)=((k_:Nat):Int)/\k_<n] λ _=>aM 21 (congrArg (λ v_=>(.agg #[vI v_.dx,vI v_.dy,vI v_.act]:Value)) ZG)<|ae 7 (ow 0 6) λ n6=>aal (tz (dO k_ (by omega)))<|ah 11 [.gen,.nw] [aI ((k_:Int)+1)] λ _=>aM 16 (congrArg (λ v_=>(.slice v_ n cc:Value)) VM.symm)<|OF (k_+1) [1,2] [0,1,2,3,4,5,6,7] ?_
   try dsimp only
   exact⟨by omega,by omega⟩
  ·refine OU 11<|aal (iV (pp:=pp) (gb:=gb) (rb:=rb) (lb:=lb) (sg:=sg) (pl:=pl) (me:=me) (w:=w) (rn:=rn) (rc:=rc) (ck:=ck) (un:=un) (uc:=uc) (en:=en) (ec:=ec) (rbk:=rbk) (rA:=rA) (uA:=uA) (eA:=eA) (aw 0))<|OU 3<|aas 29 (nt (abk (rfl:(rn:Int)=(rn:Int))))<|OU 10<|aaq ((rn:Int)>=6000) 31 (λ h7=>?_) λ h7=>?_
   ·(exfalso;omega)
   ·refine OU 4<|aap [8,11] []<|ag [] [0,1,5,2,3,4] [.o 0]<|aag 6 (Q1 [] (lu A n cc xs (hl.up.src fM (by decide)) (by omega)) ?_);rintro _ ⟨A8,c9,W7⟩ ⟨rfl,af1⟩;dsimp only at af1;refine aag 7 (aai [] [] λ n12=>?_);refine aag 8 (iK [] lC [(⟨A8,n,c9⟩:Rw)] 3 0 hrl.symm hr (by simp;omega) ?_);rintro A13 c14 VN ⟨YE,aeS⟩;refine aem [9,10]<|SV 11 [] [.o 1]<|aaf<|SO 8 [.o 1]<|Lf 2 (kv:=kv) (cl:=cl) (k:=(rn:Int))<|OU 7<|uq [6,1,0,2,3,4,5,7,8]<|xL<|QV [] [1,2] [2,3,1,4,5,0,6,7] (vI 0) (ap [(pp,.lit [vI (pl:Int),vI (me:Int),vI (w:Int),vP gb 0,vP rb 0,.map (some lb),.slice A13 (rn+1) c14,vI (ck:Int),.slice uA un uc,.slice eA en ec,vI (rbk:Int),vP sg 0] 89 (0,0)),(lb,.obj (bn (ld kv (rn:Int)) cl))] [Tg,Tn,VN,Tu,Te,(Tp++W7),Tq,Ts]) ⟨rfl,PeerR.mk (show (P.rows++[xs]).length=rn+1 by rw[aaK,q1_];rfl) q2_ q3_ q4_ q5_ hse_ hg hb hn (hkv.del _) YE (by simp[hrl]) (hrr.snocD af1 (by omega) U2) hu hul (huu.more _) he hel hee hse3_ hs (hsc.trans (xd xs (by rw[q1_];exact hsn)).symm) (by omega) hsb hpl (λ _ _ h_=>by cases h_)⟩
 ·(exfalso;omega)
theorem xg{pl:Nat}{kv:List (Int×Value×Nat)}{c:Nat}{G:HL}(h:PeerR rs_ ds_ bp pp pl me w S J P kv c sn X G){cc:Nat}(hl:RowL bS 24 F A n xs)(hn9:n=pl)(U2:n=xs.length)(VE:1<=n)(hn2:n<=1000)(dO:∀k,k<n->cS (xs.getD k dI))(UN:P.rows.length<=5000):aeo 16 #[vP pp 0,vI (P.rows.length:Int),.slice A n cc] (ap [] [G]) F (λ u H'=>∃T9,H'=ap [] [T9]/\((λ u H'=>u=vI 0/\PeerR rs_ ds_ bp pp pl me w S J (ie P xs) (ld kv (P.rows.length:Int)) c sn none H') u T9)):=by
 rw[br];cases h with
 |mk q1_ q2_ q3_ q4_ q5_ hse_ hg hb hn hkv hr hrl hrr hu hul huu he hel hee hse3_ hs hsc hsn hsb hpl hX=>
  rw[q1_];exact(xf q1_ q2_ q3_ q4_ q5_ hse_ hg hb hn hkv hr hrl hrr hu hul huu he hel hee hse3_ hs hsc hsn hsb hpl hX cc hl hn9 U2 VE hn2 dO (by omega)).tl
end Go.Proofs.YtogafelgppjklaaGreatDoor
namespace Go.Proofs.YtogafelgppjklaaGreatDoor
open Go.RowKit
open IntKind
section
variable {F G Te Tg Tn Tp Tq Ts Tu:HL} {J:Nat->Nat×Int} {N:MemS} {P:PS (List Inp)} {S S2 S3:Setup} {X:Option (Rw×List Inp)} {bp ck ec gb lb mb me n pp rb rbk rc sg smb sn uc un w:Nat} {ds ds_:List Dr} {eA rA uA:Option Addr} {el rl ul:List Rw} {rs rs_:List Bx} {wi:Int} {xi:Inp}
theorem xh(v lo hi:Int):aeo 63 #[vI v,vI lo,vI hi] [] F (λ u H'=>u=.bool (decide (lo<=v/\v<=hi))/\H'=[]):=by
 refine QT Tryz.func63<|OU 11<|aaq (lo<=v) 10 (λ h1=>?_) λ h1=>?_
 ·refine OU 7<|QW (.bool (decide (v<=hi))) [] ⟨congrArg Value.bool ?_,rfl⟩;exact decide_eq_decide.2 ⟨λ h_=>⟨by omega,h_⟩,λ h_=>h_.2⟩
 ·refine OU 7<|QW (.bool false) [] ⟨congrArg Value.bool ?_,rfl⟩;exact(abh (by omega)).symm
theorem Lp{x:Inp}(hx:¬ cS x):aen 40 #[.agg #[vI x.dx,vI x.dy,vI x.act]] F (vI 1):=by
 refine QT Tryz.func40<|ae 11 [.o 0] λ n1=>aal (xh x.dx (-1) 1)<|OU 2<|aar ((-1)<=x.dx/\x.dx<=1) 7 (λ h2=>?_) λ h2=>?_
 ·refine SO 2 [.o 0]<|aal (xh x.dy (-1) 1)<|OU 3<|aar ((-1)<=x.dy/\x.dy<=1) 13 (λ h3=>?_) λ h3=>?_
  ·refine SO 2 [.o 0]<|aal (xh x.act 0 3)<|OU 4<|aar (0<=x.act/\x.act<=3) 18 (λ h4=>?_) λ h4=>?_
   ·refine OU 8<|QW (vI 0) []<|absurd (by unfold cS;omega) hx
   ·refine OU 6<|QW (vI 1) [] ⟨rfl,rfl⟩
  ·refine OU 13<|QW (vI 1) [] ⟨rfl,rfl⟩
 ·refine OU 19<|QW (vI 1) [] ⟨rfl,rfl⟩
theorem Ae{pl:Nat}{kv:List (Int×Value×Nat)}{c:Nat}{cl rn en:Nat}{Tr:HL}(q1_:P.rows.length=rn)(q2_:P.ck=ck)(q3_:P.used.length=un)(q4_:P.effs.length=en)(q5_:P.rb=rbk)(hse_:SetEq S S2)(hg:GameX rs_ ds_ bp gb mb S2 P.M 0 Tg)(hb:0<=P.M.base/\P.M.base+(P.M.lg.length:Int)<=20000*(c:Int))(hn:RingH rb mb w P.a P.ms Tn)(hkv:LocIn kv)(hr:SlIs jo 25 rl rA rc Tr)(hrl:rl.length=rn)(hrr:RwsT rl P.rows Tp)(hu:SlX jo 25 ul uA uc Tu)(hul:ul.length=un)(huu:RwsT ul P.used Tp)(he:SlIs jT 132 el eA ec Te)(hel:el.length=en)(hee:EfsT el P.effs Tq)(hse3_:SetEq S S3)(hs:GameX rs_ ds_ bp sg smb S3 N 99020000 Ts)(hsc:N.cs=WS S J P.rows sn)(hsn:sn<=rn)(hsb:0<=N.base/\N.base<=1000000*(sn:Int))(hpl:S.players=(pl:Int))(hX:∀p xs,X=some (p,xs)->∀F:HL,(∀y∈Tp,y∈F)->RwIn F xs p)(t:Int)(hi:cS xi):aeo 14 #[vP pp 0,vI t,.agg #[vI xi.dx,vI xi.dy,vI xi.act]] (ap [(pp,.lit [vI (pl:Int),vI (me:Int),vI (w:Int),vP gb 0,vP rb 0,.map (some lb),.slice rA rn rc,vI (ck:Int),.slice uA un uc,.slice eA en ec,vI (rbk:Int),vP sg 0] 89 (0,0)),(lb,.obj (bn kv cl))] [Tg,Tn,Tr,Tu,Te,Tp,Tq,Ts]) F (λ u H'=>∃x:List (Int×Value×Nat),u=vI (iA xi t rn kv)/\PeerR rs_ ds_ bp pp pl me w S J P x c sn X H'/\∀j,xe x j↔xe kv j\/((iA xi t rn kv)=0/\j=t)):=by
 refine QS Tryz.func14 mn<|ae 10 (aab 3) λ n1=>aal (tz hi)<|OU 18<|aaq (t<0) 17 (λ h2=>?_) λ h2=>?_
 ·refine OU 11<|QV [] [1,2] [0,1,2,3,4,5,6,7] (vI 18) (ap [(pp,.lit [vI (pl:Int),vI (me:Int),vI (w:Int),vP gb 0,vP rb 0,.map (some lb),.slice rA rn rc,vI (ck:Int),.slice uA un uc,.slice eA en ec,vI (rbk:Int),vP sg 0] 89 (0,0)),(lb,.obj (bn kv cl))] [Tg,Tn,Tr,Tu,Te,Tp,Tq,Ts]) ?_;have e_:(iA xi t rn kv)=18:=by rw[iA,if_pos hi,if_pos (by omega)]
  exact⟨kv,by rw[e_],PeerR.mk q1_ q2_ q3_ q4_ q5_ hse_ hg hb hn hkv hr hrl hrr hu hul huu he hel hee hse3_ hs hsc hsn hsb hpl hX,λ j=>⟨.inl,λ h_=>h_.elim id λ h2=>absurd (e_.symm.trans h2.1) (by decide)⟩⟩
 ·refine OU 5<|aaq (t>=6000) 20 (λ h3=>?_) λ h3=>?_
  ·refine OU 6<|QV [] [1,2] [0,1,2,3,4,5,6,7] (vI 18) (ap [(pp,.lit [vI (pl:Int),vI (me:Int),vI (w:Int),vP gb 0,vP rb 0,.map (some lb),.slice rA rn rc,vI (ck:Int),.slice uA un uc,.slice eA en ec,vI (rbk:Int),vP sg 0] 89 (0,0)),(lb,.obj (bn kv cl))] [Tg,Tn,Tr,Tu,Te,Tp,Tq,Ts]) ?_;have e_:(iA xi t rn kv)=18:=by rw[iA,if_pos hi,if_pos (by omega)]
   exact⟨kv,by rw[e_],PeerR.mk q1_ q2_ q3_ q4_ q5_ hse_ hg hb hn hkv hr hrl hrr hu hul huu he hel hee hse3_ hs hsc hsn hsb hpl hX,λ j=>⟨.inl,λ h_=>h_.elim id λ h2=>absurd (e_.symm.trans h2.1) (by decide)⟩⟩
  ·refine OU 8<|aal (iV (pp:=pp) (gb:=gb) (rb:=rb) (lb:=lb) (sg:=sg) (pl:=pl) (me:=me) (w:=w) (rn:=rn) (rc:=rc) (ck:=ck) (un:=un) (uc:=uc) (en:=en) (ec:=ec) (rbk:=rbk) (rA:=rA) (uA:=uA) (eA:=eA) (aw 1))<|OU 3<|aaq (t<(rn:Int)) 24 (λ h4=>?_) λ h4=>?_
   ·refine OU 6<|QV [] [1,2] [0,1,2,3,4,5,6,7] (vI 20) (ap [(pp,.lit [vI (pl:Int),vI (me:Int),vI (w:Int),vP gb 0,vP rb 0,.map (some lb),.slice rA rn rc,vI (ck:Int),.slice uA un uc,.slice eA en ec,vI (rbk:Int),vP sg 0] 89 (0,0)),(lb,.obj (bn kv cl))] [Tg,Tn,Tr,Tu,Te,Tp,Tq,Ts]) ?_;have e_:(iA xi t rn kv)=20:=by rw[iA,if_pos hi,if_neg (by omega),if_pos (by omega)]
    exact⟨kv,by rw[e_],PeerR.mk q1_ q2_ q3_ q4_ q5_ hse_ hg hb hn hkv hr hrl hrr hu hul huu he hel hee hse3_ hs hsc hsn hsb hpl hX,λ j=>⟨.inl,λ h_=>h_.elim id λ h2=>absurd (e_.symm.trans h2.1) (by decide)⟩⟩
   ·refine ae 11 [.o 1] λ _=>?_;rcases hkv.get t with ⟨Vp,WV⟩|⟨xl,afD,Vp,WV⟩
    ·refine qf 2 (kv:=kv) (cl:=cl) (k:=t) (ok:=true) (z:=.agg #[vI 0,vI 0,vI 0]) (v:=.tuple #[.agg #[vI 0,vI 0,vI 0],.bool false]) (by simp only[GP,Vp];rfl)<|ae 17 (aab 3) λ n5=>aap [6] []<|ag [] [0,4,5,1,2,3] (ow 1 3++[.o 2])<|aag 6 (NR 3 (kv:=kv) (cl:=cl) (k:=t) (v:=.agg #[vI xi.dx,vI xi.dy,vI xi.act]) ?_);refine Q2 6<|QV [] [2,3] [0,1,2,3,4,5,6,7] (vI 0) (ap [(pp,.lit [vI (pl:Int),vI (me:Int),vI (w:Int),vP gb 0,vP rb 0,.map (some lb),.slice rA rn rc,vI (ck:Int),.slice uA un uc,.slice eA en ec,vI (rbk:Int),vP sg 0] 89 (0,0)),(lb,.obj (bn (lc kv cl t (.agg #[vI xi.dx,vI xi.dy,vI xi.act])) (jq kv cl t)))] [Tg,Tn,Tr,Tu,Te,Tp,Tq,Ts]) ?_;have e_:(iA xi t rn kv)=0:=by rw[iA,if_pos hi,if_neg (by omega),if_neg (by omega),if_neg (by rw[Vp];decide)]
     exact⟨_,by rw[e_],PeerR.mk q1_ q2_ q3_ q4_ q5_ hse_ hg hb hn (hkv.put cl t hi) hr hrl hrr hu hul huu he hel hee hse3_ hs hsc hsn hsb hpl hX,λ j=>(Gx Vp j).trans ⟨λ h_=>h_.imp id λ h2=>⟨e_,h2⟩,λ h_=>h_.imp id λ h2=>h2.2⟩⟩
    ·refine qf 2 (kv:=kv) (cl:=cl) (k:=t) (ok:=true) (z:=.agg #[vI 0,vI 0,vI 0]) (v:=.tuple #[.agg #[vI xl.dx,vI xl.dy,vI xl.act],.bool true]) (by simp only[GP,Vp];rfl)<|ae 19 (aab 3) λ n6=>QV [] [2,3] [0,1,2,3,4,5,6,7] (vI 4) (ap [(pp,.lit [vI (pl:Int),vI (me:Int),vI (w:Int),vP gb 0,vP rb 0,.map (some lb),.slice rA rn rc,vI (ck:Int),.slice uA un uc,.slice eA en ec,vI (rbk:Int),vP sg 0] 89 (0,0)),(lb,.obj (bn kv cl))] [Tg,Tn,Tr,Tu,Te,Tp,Tq,Ts]) ?_;have e_:(iA xi t rn kv)=4:=by rw[iA,if_pos hi,if_neg (by omega),if_neg (by omega),if_pos (by rw[Vp];rfl)]
     exact⟨kv,by rw[e_],PeerR.mk q1_ q2_ q3_ q4_ q5_ hse_ hg hb hn hkv hr hrl hrr hu hul huu he hel hee hse3_ hs hsc hsn hsb hpl hX,λ j=>⟨.inl,λ h_=>h_.elim id λ h2=>absurd (e_.symm.trans h2.1) (by decide)⟩⟩
theorem Af{pl:Nat}{kv:List (Int×Value×Nat)}{c:Nat}(h:PeerR rs_ ds_ bp pp pl me w S J P kv c sn X G){t:Int}(hi:cS xi):aeo 14 #[vP pp 0,vI t,.agg #[vI xi.dx,vI xi.dy,vI xi.act]] (ap [] [G]) F (λ u H'=>∃T9,H'=ap [] [T9]/\((λ u H'=>∃x:List (Int×Value×Nat),u=vI (iA xi t P.rows.length kv)/\PeerR rs_ ds_ bp pp pl me w S J P x c sn X H'/\∀j,xe x j↔xe kv j\/((iA xi t P.rows.length kv)=0/\j=t)) u T9)):=by
 rw[br];cases h with
 |mk q1_ q2_ q3_ q4_ q5_ hse_ hg hb hn hkv hr hrl hrr hu hul huu he hel hee hse3_ hs hsc hsn hsb hpl hX=>
  rw[q1_];exact(Ae q1_ q2_ q3_ q4_ q5_ hse_ hg hb hn hkv hr hrl hrr hu hul huu he hel hee hse3_ hs hsc hsn hsb hpl hX t hi).tl
theorem Ag{pl:Nat}{kv:List (Int×Value×Nat)}{c:Nat}{cl rn en:Nat}{Tr:HL}(q1_:P.rows.length=rn)(q2_:P.ck=ck)(q3_:P.used.length=un)(q4_:P.effs.length=en)(q5_:P.rb=rbk)(hse_:SetEq S S2)(hg:GameX rs_ ds_ bp gb mb S2 P.M 0 Tg)(hb:0<=P.M.base/\P.M.base+(P.M.lg.length:Int)<=20000*(c:Int))(hn:RingH rb mb w P.a P.ms Tn)(hkv:LocIn kv)(hr:SlIs jo 25 rl rA rc Tr)(hrl:rl.length=rn)(hrr:RwsT rl P.rows Tp)(hu:SlX jo 25 ul uA uc Tu)(hul:ul.length=un)(huu:RwsT ul P.used Tp)(he:SlIs jT 132 el eA ec Te)(hel:el.length=en)(hee:EfsT el P.effs Tq)(hse3_:SetEq S S3)(hs:GameX rs_ ds_ bp sg smb S3 N 99020000 Ts)(hsc:N.cs=WS S J P.rows sn)(hsn:sn<=rn)(hsb:0<=N.base/\N.base<=1000000*(sn:Int))(hpl:S.players=(pl:Int))(hX:∀p xs,X=some (p,xs)->∀F:HL,(∀y∈Tp,y∈F)->RwIn F xs p)(t:Int)(hi:¬ cS xi):aeo 14 #[vP pp 0,vI t,.agg #[vI xi.dx,vI xi.dy,vI xi.act]] (ap [(pp,.lit [vI (pl:Int),vI (me:Int),vI (w:Int),vP gb 0,vP rb 0,.map (some lb),.slice rA rn rc,vI (ck:Int),.slice uA un uc,.slice eA en ec,vI (rbk:Int),vP sg 0] 89 (0,0)),(lb,.obj (bn kv cl))] [Tg,Tn,Tr,Tu,Te,Tp,Tq,Ts]) F (λ u H'=>∃x:List (Int×Value×Nat),u=vI (iA xi t rn kv)/\PeerR rs_ ds_ bp pp pl me w S J P x c sn X H'/\∀j,xe x j↔xe kv j\/((iA xi t rn kv)=0/\j=t)):=by
 refine QS Tryz.func14 mn<|ae 10 (aab 3) λ n1=>aal (Lp hi)<|OU 16<|QV [] [1,2] [0,1,2,3,4,5,6,7] (vI 1) (ap [(pp,.lit [vI (pl:Int),vI (me:Int),vI (w:Int),vP gb 0,vP rb 0,.map (some lb),.slice rA rn rc,vI (ck:Int),.slice uA un uc,.slice eA en ec,vI (rbk:Int),vP sg 0] 89 (0,0)),(lb,.obj (bn kv cl))] [Tg,Tn,Tr,Tu,Te,Tp,Tq,Ts]) ?_;have e_:(iA xi t rn kv)=1:=by rw[iA,if_neg hi]
 exact⟨kv,by rw[e_],PeerR.mk q1_ q2_ q3_ q4_ q5_ hse_ hg hb hn hkv hr hrl hrr hu hul huu he hel hee hse3_ hs hsc hsn hsb hpl hX,λ j=>⟨.inl,λ h_=>h_.elim id λ h2=>absurd (e_.symm.trans h2.1) (by decide)⟩⟩
theorem Ah{pl:Nat}{kv:List (Int×Value×Nat)}{c:Nat}(h:PeerR rs_ ds_ bp pp pl me w S J P kv c sn X G){t:Int}(hi:¬ cS xi):aeo 14 #[vP pp 0,vI t,.agg #[vI xi.dx,vI xi.dy,vI xi.act]] (ap [] [G]) F (λ u H'=>∃T9,H'=ap [] [T9]/\((λ u H'=>∃x:List (Int×Value×Nat),u=vI (iA xi t P.rows.length kv)/\PeerR rs_ ds_ bp pp pl me w S J P x c sn X H'/\∀j,xe x j↔xe kv j\/((iA xi t P.rows.length kv)=0/\j=t)) u T9)):=by
 rw[br];cases h with
 |mk q1_ q2_ q3_ q4_ q5_ hse_ hg hb hn hkv hr hrl hrr hu hul huu he hel hee hse3_ hs hsc hsn hsb hpl hX=>
  rw[q1_];exact(Ag q1_ q2_ q3_ q4_ q5_ hse_ hg hb hn hkv hr hrl hrr hu hul huu he hel hee hse3_ hs hsc hsn hsb hpl hX t hi).tl
theorem Ct{pl:Nat}{kv:List (Int×Value×Nat)}{c:Nat}{cl rn en:Nat}{Tr:HL}(q1_:P.rows.length=rn)(q2_:P.ck=ck)(q3_:P.used.length=un)(q4_:P.effs.length=en)(q5_:P.rb=rbk)(hse_:SetEq S S2)(hg:GameX rs_ ds_ bp gb mb S2 P.M 0 Tg)(hb:0<=P.M.base/\P.M.base+(P.M.lg.length:Int)<=20000*(c:Int))(hn:RingH rb mb w P.a P.ms Tn)(hkv:LocIn kv)(hr:SlIs jo 25 rl rA rc Tr)(hrl:rl.length=rn)(hrr:RwsT rl P.rows Tp)(hu:SlX jo 25 ul uA uc Tu)(hul:ul.length=un)(huu:RwsT ul P.used Tp)(he:SlIs jT 132 el eA ec Te)(hel:el.length=en)(hee:EfsT el P.effs Tq)(hse3_:SetEq S S3)(hs:GameX rs_ ds_ bp sg smb S3 N 99020000 Ts)(hsc:N.cs=WS S J P.rows sn)(hsn:sn<=rn)(hsb:0<=N.base/\N.base<=1000000*(sn:Int))(hpl:S.players=(pl:Int))(hX:∀p xs,X=some (p,xs)->∀F:HL,(∀y∈Tp,y∈F)->RwIn F xs p) (cc:Nat)(A:Option Addr)(xs:List Inp)(tq:Int)(hl:RowB F A n λ k=>xs.getD k dI)(U2:n=xs.length)(hn2:n<=1000)(X4:1<=pl)(UN:rn<=5000):aeo 16 #[vP pp 0,vI tq,.slice A n cc] (ap [(pp,.lit [vI (pl:Int),vI (me:Int),vI (w:Int),vP gb 0,vP rb 0,.map (some lb),.slice rA rn rc,vI (ck:Int),.slice uA un uc,.slice eA en ec,vI (rbk:Int),vP sg 0] 89 (0,0)),(lb,.obj (bn kv cl))] [Tg,Tn,Tr,Tu,Te,Tp,Tq,Ts]) F (λ u H'=>∃x:PS (List Inp)×List (Int×Value×Nat),u=vI (f5 (pl:Int) n xs tq rn)/\PeerR rs_ ds_ bp pp pl me w S J x.1 x.2 c sn none H'/\((f5 (pl:Int) n xs tq rn)=0->x.1=ie P xs/\x.2=ld kv (rn:Int))/\(¬ (f5 (pl:Int) n xs tq rn)=0->x.1=P/\x.2=kv)):=by
 refine QS Tryz.func16 mn<|SO 17 [.o 0]<|aar ((n:Int)=(pl:Int)) 15 (λ h1=>?_) λ h1=>?_
 ·refine OU 12<|aat (σ:=Nat) (λ k_=>⟨[(0,vP pp 0),(1,vI tq),(2,.slice A n cc),(16,.slice A n cc),(17,vI (n:Int)),(18,vI (k_:Int))],[(pp,.lit [vI (pl:Int),vI (me:Int),vI (w:Int),vP gb 0,vP rb 0,.map (some lb),.slice rA rn rc,vI (ck:Int),.slice uA un uc,.slice eA en ec,vI (rbk:Int),vP sg 0] 89 (0,0)),(lb,.obj (bn kv cl))],[Tg,Tn,Tr,Tu,Te,Tp,Tq,Ts],k_<=n/\∀j_,j_<k_->cS (xs.getD j_ dI),n-k_⟩) 0 [0,1] [0,1,2,3,4,5,6,7] (⟨aaJ _,λ j_ h_=>absurd h_ (pt _)⟩) ?_;rintro k_ ⟨YJ,VH⟩ OF;refine OU 6<|aaq ((k_:Int)<(n:Int)) 19 (λ h4=>?_) λ h4=>?_
  ·refine ae 7 [] λ _=>?_;obtain⟨qx5,VP,VM,adw⟩:=hl.at (k:=k_) (by omega);refine aM 16 (congrArg (λ v_=>(.slice v_ n cc:Value)) VM)<|ah 1 [.ix k_] [(k_:Int)=((k_:Nat):Int)/\k_<n] λ _=>Bc [vI (xs.getD k_ dI).dx,vI (xs.getD k_ dI).dy,vI (xs.getD k_ dI).act] (λ w_ h_=>adw w_ h_ k_ (by omega))<|ae 7 (ow 0 6) λ n6=>?_;rcases Decidable.em (cS (xs.getD k_ dI)) with hv_|hv_
   ·refine aal (tz hv_)<|ah 11 [.gen,.nw] [aI ((k_:Int)+1)] λ _=>aM 16 (congrArg (λ v_=>(.slice v_ n cc:Value)) VM.symm)<|OF (k_+1) [1,2] [0,1,2,3,4,5,6,7] ?_
    try dsimp only
    refine⟨⟨by omega,λ j_ hj_=>?_⟩,by omega⟩;rcases aaV j_ k_ with h_|h_
    ·exact VH j_ h_
    ·obtain rfl:j_=k_:=by omega
     exact hv_
   ·refine aal (Lp hv_)<|OU 9<|QV [] [1,2] [0,1,2,3,4,5,6,7] (vI 1) (ap [(pp,.lit [vI (pl:Int),vI (me:Int),vI (w:Int),vP gb 0,vP rb 0,.map (some lb),.slice rA rn rc,vI (ck:Int),.slice uA un uc,.slice eA en ec,vI (rbk:Int),vP sg 0] 89 (0,0)),(lb,.obj (bn kv cl))] [Tg,Tn,Tr,Tu,Te,Tp,Tq,Ts]) ?_;have w_:bm (pl:Int) n xs 0=1:=by rw[bm,if_pos (by omega),if_neg (λ h_=>hv_ (h_ k_ (by omega)))]
    have e_:f5 (pl:Int) n xs tq rn=1:=by rw[f5,w_,if_neg (by decide)]
    exact⟨(P,kv),by rw[e_],PeerR.mk q1_ q2_ q3_ q4_ q5_ hse_ hg hb hn hkv hr hrl hrr hu hul huu he hel hee hse3_ hs hsc hsn hsb hpl (λ _ _ h_=>by cases h_),λ h_=>absurd (e_.symm.trans h_) (by decide),λ _=>⟨rfl,rfl⟩⟩
  ·refine OU 11<|aal (iV (pp:=pp) (gb:=gb) (rb:=rb) (lb:=lb) (sg:=sg) (pl:=pl) (me:=me) (w:=w) (rn:=rn) (rc:=rc) (ck:=ck) (un:=un) (uc:=uc) (en:=en) (ec:=ec) (rbk:=rbk) (rA:=rA) (uA:=uA) (eA:=eA) (aw 0))<|OU 3<|aar (tq=(rn:Int)) 29 (λ h7=>?_) λ h7=>?_
   ·refine OU 10<|aaq (tq>=6000) 31 (λ h8=>?_) λ h8=>?_
    ·refine OU 6<|QV [] [0,1] [0,1,2,3,4,5,6,7] (vI 2) (ap [(pp,.lit [vI (pl:Int),vI (me:Int),vI (w:Int),vP gb 0,vP rb 0,.map (some lb),.slice rA rn rc,vI (ck:Int),.slice uA un uc,.slice eA en ec,vI (rbk:Int),vP sg 0] 89 (0,0)),(lb,.obj (bn kv cl))] [Tg,Tn,Tr,Tu,Te,Tp,Tq,Ts]) ?_;have w_:bm (pl:Int) n xs 0=0:=by rw[bm,if_pos (by omega),if_pos (λ k hk=>VH k (by omega)),if_neg (by decide)]
     have e_:f5 (pl:Int) n xs tq rn=2:=by rw[f5,if_pos w_,if_pos (by omega),if_pos (by omega)]
     exact⟨(P,kv),by rw[e_],PeerR.mk q1_ q2_ q3_ q4_ q5_ hse_ hg hb hn hkv hr hrl hrr hu hul huu he hel hee hse3_ hs hsc hsn hsb hpl (λ _ _ h_=>by cases h_),λ h_=>absurd (e_.symm.trans h_) (by decide),λ _=>⟨rfl,rfl⟩⟩
    ·refine ae 4 [] λ _=>?_;obtain rfl:tq=(rn:Int):=by omega
     have acN:0<n:=by omega
     refine aap [8,11] []<|ag [] [0,1,5,2,3,4] [.o 0]<|aag 6 (Q1 [] (lu A n cc xs ((hl.src acN U2.symm).up) (by omega)) ?_);rintro _ ⟨A9,Yu,UQ⟩ ⟨rfl,ZN⟩;dsimp only at ZN;refine aag 7 (aai [] [] λ n13=>?_);refine aag 8 (iK [] lC [(⟨A9,n,Yu⟩:Rw)] 3 0 hrl.symm hr (by simp;omega) ?_);rintro A14 c15 YX ⟨Xo,aeR⟩;refine aem [9,10]<|SV 11 [] [.o 1]<|aaf<|SO 8 [.o 1]<|Lf 2 (kv:=kv) (cl:=cl) (k:=(rn:Int))<|OU 7<|uq [6,1,0,2,3,4,5,7,8]<|xL<|QV [] [1,2] [2,3,1,4,5,0,6,7] (vI 0) (ap [(pp,.lit [vI (pl:Int),vI (me:Int),vI (w:Int),vP gb 0,vP rb 0,.map (some lb),.slice A14 (rn+1) c15,vI (ck:Int),.slice uA un uc,.slice eA en ec,vI (rbk:Int),vP sg 0] 89 (0,0)),(lb,.obj (bn (ld kv (rn:Int)) cl))] [Tg,Tn,YX,Tu,Te,(Tp++UQ),Tq,Ts]) ?_;have w_:bm (pl:Int) n xs 0=0:=by rw[bm,if_pos (by omega),if_pos (λ k hk=>VH k (by omega)),if_neg (by decide)]
     have e_:f5 (pl:Int) n xs (rn:Int) rn=0:=by rw[f5,if_pos w_,if_pos (by omega),if_neg (by omega)]
     exact⟨(ie P xs,ld kv (rn:Int)),by rw[e_],PeerR.mk (show (P.rows++[xs]).length=rn+1 by rw[aaK,q1_];rfl) q2_ q3_ q4_ q5_ hse_ hg hb hn (hkv.del _) Xo (by simp[hrl]) (hrr.snocD ZN (by omega) U2) hu hul (huu.more _) he hel hee hse3_ hs (hsc.trans (xd xs (by rw[q1_];exact hsn)).symm) (by omega) hsb hpl (λ _ _ h_=>by cases h_),λ _=>⟨rfl,rfl⟩,λ h_=>absurd e_ h_⟩
   ·refine OU 6<|QV [] [0,1] [0,1,2,3,4,5,6,7] (vI 5) (ap [(pp,.lit [vI (pl:Int),vI (me:Int),vI (w:Int),vP gb 0,vP rb 0,.map (some lb),.slice rA rn rc,vI (ck:Int),.slice uA un uc,.slice eA en ec,vI (rbk:Int),vP sg 0] 89 (0,0)),(lb,.obj (bn kv cl))] [Tg,Tn,Tr,Tu,Te,Tp,Tq,Ts]) ?_;have w_:bm (pl:Int) n xs 0=0:=by rw[bm,if_pos (by omega),if_pos (λ k hk=>VH k (by omega)),if_neg (by decide)]
    have e_:f5 (pl:Int) n xs tq rn=5:=by rw[f5,if_pos w_,if_neg (by omega)]
    exact⟨(P,kv),by rw[e_],PeerR.mk q1_ q2_ q3_ q4_ q5_ hse_ hg hb hn hkv hr hrl hrr hu hul huu he hel hee hse3_ hs hsc hsn hsb hpl (λ _ _ h_=>by cases h_),λ h_=>absurd (e_.symm.trans h_) (by decide),λ _=>⟨rfl,rfl⟩⟩
 ·refine OU 6<|QV [] [0,1] [0,1,2,3,4,5,6,7] (vI 17) (ap [(pp,.lit [vI (pl:Int),vI (me:Int),vI (w:Int),vP gb 0,vP rb 0,.map (some lb),.slice rA rn rc,vI (ck:Int),.slice uA un uc,.slice eA en ec,vI (rbk:Int),vP sg 0] 89 (0,0)),(lb,.obj (bn kv cl))] [Tg,Tn,Tr,Tu,Te,Tp,Tq,Ts]) ?_;have w_:bm (pl:Int) n xs 0=17:=by rw[bm,if_neg (by omega)]
  have e_:f5 (pl:Int) n xs tq rn=17:=by rw[f5,w_,if_neg (by decide)]
  exact⟨(P,kv),by rw[e_],PeerR.mk q1_ q2_ q3_ q4_ q5_ hse_ hg hb hn hkv hr hrl hrr hu hul huu he hel hee hse3_ hs hsc hsn hsb hpl (λ _ _ h_=>by cases h_),λ h_=>absurd (e_.symm.trans h_) (by decide),λ _=>⟨rfl,rfl⟩⟩
theorem Cu{pl:Nat}{kv:List (Int×Value×Nat)}{c:Nat}(h:PeerR rs_ ds_ bp pp pl me w S J P kv c sn X G){cc:Nat}{A:Option Addr}{xs:List Inp}{tq:Int}(hl:RowB F A n λ k=>xs.getD k dI)(U2:n=xs.length)(hn2:n<=1000)(X4:1<=pl)(UN:P.rows.length<=5000):aeo 16 #[vP pp 0,vI tq,.slice A n cc] (ap [] [G]) F (λ u H'=>∃T9,H'=ap [] [T9]/\((λ u H'=>∃x:PS (List Inp)×List (Int×Value×Nat),u=vI (f5 (pl:Int) n xs tq P.rows.length)/\PeerR rs_ ds_ bp pp pl me w S J x.1 x.2 c sn none H'/\((f5 (pl:Int) n xs tq P.rows.length)=0->x.1=ie P xs/\x.2=ld kv (P.rows.length:Int))/\(¬ (f5 (pl:Int) n xs tq P.rows.length)=0->x.1=P/\x.2=kv)) u T9)):=by
 rw[br];cases h with
 |mk q1_ q2_ q3_ q4_ q5_ hse_ hg hb hn hkv hr hrl hrr hu hul huu he hel hee hse3_ hs hsc hsn hsb hpl hX=>
  rw[q1_];exact(Ct q1_ q2_ q3_ q4_ q5_ hse_ hg hb hn hkv hr hrl hrr hu hul huu he hel hee hse3_ hs hsc hsn hsb hpl hX cc A xs tq hl U2 hn2 X4 (by omega)).tl
def nj(pl me wi:Int):Int:=if me<0\/me>=pl then 17 else if wi<1\/wi>12 then 6 else 0
theorem NT{pl me:Int}(h:(me<0\/me>=pl)\/(wi<1\/wi>12)):¬ nj pl me wi=0:=by
 unfold nj;split
 ·decide
 ·split
  ·decide
  ·omega
theorem Gz(bp:Nat){me:Int}(hS:SetCl F S)(hM:MapIn F S rs ds)(h1:1<=S.nb)(UN:S.rn<=1000000)(Yd:S.dn<=1000000)(RW:(sizeOf S).toNat<=1000000)(hv:gq S rs ds=0)(adh:(me<0\/me>=S.players)\/(wi<1\/wi>12)):aen 6 #[(Setup.v S),vP bp 0,vI me,vI wi] F (.tuple #[.pointer none,vI (nj S.players me wi)]):=by
 refine QT Tryz.func6<|ae 11 (ow 0 16) λ n1=>SP (sH bp hS.up hM.up h1 UN Yd RW hv 0 (by decide)) ?_;rintro _ ⟨g2,S3,T4⟩ ⟨rfl,he5,hG6⟩;refine OU 23<|aaq (me<0) 24 (λ h7=>?_) λ h7=>?_
 ·refine ae 14 [] λ _=>QW (.tuple #[.pointer none,vI 17]) _ ⟨by rw[nj,if_pos (by omega)],rfl⟩
 ·refine SO 7 [.o 0]<|aaq (me>=S.players) 29 (λ h8=>?_) λ h8=>?_
  ·refine ae 7 [] λ _=>QW (.tuple #[.pointer none,vI 17]) _ ⟨by rw[nj,if_pos (by omega)],rfl⟩
  ·refine OU 9<|aaq (wi<1) 32 (λ h9=>?_) λ h9=>?_
   ·refine ae 12 [] λ _=>QW (.tuple #[.pointer none,vI 6]) _ ⟨by rw[nj,if_neg (by omega),if_pos (by omega)],rfl⟩
   ·refine OU 5<|aaq (wi>12) 35 (λ No=>?_) λ No=>?_
    ·refine ae 7 [] λ _=>QW (.tuple #[.pointer none,vI 6]) _ ⟨by rw[nj,if_neg (by omega),if_pos (by omega)],rfl⟩
    ·(exfalso;omega)
theorem Qz(bp:Nat)(me wi:Int)(hS:SetCl F S)(hM:MapIn F S rs ds)(h1:1<=S.nb)(UN:S.rn<=1000000)(Yd:S.dn<=1000000)(RW:(sizeOf S).toNat<=1000000)(hv:gq S rs ds=0)(hp1:1<=S.players):aeo 6 #[Setup.v S,vP bp 0,vI me,vI wi] (ap [] []) F (λ u H'=>∃x:(Value×Int)×HL,H'=ap [] [x.2]/\(u=.tuple #[x.1.1,vI x.1.2]/\x.1.2=nj S.players me wi/\((x.1.2=0/\∃r:Nat,x.1.1=vP r 0)\/(¬ x.1.2=0/\x.1.1=.pointer none)))):=by
 by_cases h:(me<0\/me>=S.players)\/(wi<1\/wi>12)
 ·refine(Gz bp hS hM h1 UN Yd RW hv h).mono λ u H' hq=>?_;obtain⟨rfl,rfl⟩:=hq;exact⟨((_,_),[]),by simp[ap],rfl,rfl,.inr ⟨NT h,rfl⟩⟩
 ·obtain⟨m,rfl⟩:∃m:Nat,me=(m:Int):=⟨me.toNat,by omega⟩;obtain⟨w,rfl⟩:∃w:Nat,wi=(w:Int):=⟨wi.toNat,by omega⟩;obtain⟨pl,hpl⟩:∃pl:Nat,S.players=(pl:Int):=⟨S.players.toNat,by omega⟩;refine(qF bp m w (λ _=>(0,0)) hS hM h1 UN Yd RW hv hpl (by omega) (by omega)).mono λ u H' hq=>?_;obtain⟨x,rfl,rfl,_⟩:=hq;have e:nj S.players (m:Int) (w:Int)=0:=by rw[nj,if_neg (by omega),if_neg (by omega)]
  exact⟨((vP x.1 0,0),x.2),rfl,rfl,e.symm,.inl ⟨rfl,_,rfl⟩⟩
theorem Lq(bp:Nat)(hS:SetSh F S)(hM:MapIn F S rs ds)(hv:gq S rs ds=11):aen 22 #[Setup.v S,vP bp 0] F (.tuple #[.pointer none,vI 11]):=by
 have h:=FK bp hS hM (by rw[hv];decide);rwa [hv] at h
theorem GA(bp:Nat)(me wi:Int)(hS:SetSh F S)(hM:MapIn F S rs ds)(hv:gq S rs ds=11):aen 6 #[(Setup.v S),vP bp 0,vI me,vI wi] F (.tuple #[.pointer none,vI 11]):=by
 refine QT Tryz.func6<|ae 11 (ow 0 16) λ n1=>aal (Lq bp hS.up hM.up hv)<|ae 22 [] λ _=>QW _ _ ⟨rfl,rfl⟩
end
section
variable {F G Te Tg Tn Tp Tq Ts Tu:HL} {J:Nat->Nat×Int} {N:MemS} {P:PS (List Inp)} {S S2 S3:Setup} {X:Option (Rw×List Inp)} {a bp ck ec gb k lb mb me n pp rb rbk rc sg smb sn t uc un w:Nat} {ds_:List Dr} {eA rA uA:Option Addr} {el rl ul:List Rw} {ms:List Int} {rs_:List Bx} {used:List (List Inp)}
noncomputable section
def QA:List PB:=[(1522,[iv 0,iv 3],3),(1525,[.slice (some ⟨690,0,none⟩) 15 lw,iv (-1),iv 0,iv (-1),.slice (some ⟨1450,0,none⟩) 15 lw,iv (-1),iv 0,iv (-1)],111),(690,wV,212)]
theorem NU:Ni [] QA (.agg ⟨[.slice (some ⟨1522,0,none⟩) 2 lw,.slice (some ⟨1525,0,none⟩) 2 lw]⟩) (Ga Tryz.prog 3 100000 (.fn 9 [iv 1,iv 1] (wT []) 3))=true:=by kernel_rfl
theorem GB:aeo 9 #[iv 1,iv 1] [] F λ u H'=>∃tb pb cb tc pc cc rt rp rc,u=.agg #[.slice (some ⟨tb,0,none⟩) 2 tc,.slice (some ⟨pb,0,none⟩) 2 pc]/\
  H'=[(tb,.lit (iv 0::iv 3::rt) 3 (0,0)),(pb,.lit (.slice (some ⟨cb,0,none⟩) 15 cc::iv (-1)::iv 0::iv (-1)::rp) 111 (0,0)),(cb,.lit (wV++rc) 212 (0,0))] :=
 (p6 (G:=3) (tabs:=[]) (picks:=QA) mixed rfl rfl rfl (by simp[QA]) NU).mono λ u H' ⟨ν,rest,h1,h2⟩=>by
  subst h1;subst h2;exact⟨tJ ν 1522,tJ ν 1525,tJ ν 690,_,_,_,_,_,_,rfl,rfl⟩
end
section
variable {α:Type} {e:Enc α} {T:TypeId} {F:HL} {A:Option Addr} {n cap:Nat} {xs:List α}
end
theorem vK{w:Nat}{g g':Nat->Nat->Value}:∀ {n:Nat},(∀i k,i<n->k<w->g i k=g' i k)->bq w g n=bq w g' n
 |0,_=>rfl
 |n+1,h=>by
  rw[bq,bq,vK λ i k hi hk=>h i k (by omega) hk];congr 1;exact adV λ k hk=>h n k (by omega) (ad6.1 hk)
theorem po{g g':Nat->Nat->Value}{ty:TypeId}{fz:Nat×Nat}(h:∀i k,i<n->k<w->g i k=g' i k):(Blk.rows w n g ty fz).den=(Blk.rows w n g' ty fz).den:=by
 simp only[Blk.den,vK h]
section
variable {r:Option Nat} {P:Program} {N:Nat} {D:List Deferred} {F:HL} {w0:World} {R:HL} {s:Cfg} {Q:Exit->Act->World->Prop}
theorem D4(i:Nat)(a b:Blk)(e:a.den=b.den)(hk:RN r P N D F w0 R (Q3 i b s) Q)(h:Q4 i s=some a.den:=by kernel_rfl):RN r P N D F w0 R s Q:=aao i b hk (h.trans (congrArg some e))
end
theorem xj(l:List Inp)(h:k<l.length)(x:Inp):∀i j,i<n->j<3->cF (cF (cF (ak bS l) k 0 (vI x.dx)) k 1 (vI x.dy)) k 2 (vI x.act) i j=ak bS (l.set k x) i j:=λ i j _ hj=>by
 unfold cF ak
 by_cases e:i=k
 ·subst e;rw[fJ h];rcases j with _|_|_|j
  ·simp;rfl
  ·simp;rfl
  ·simp;rfl
  ·omega
 ·rw[fw (λ e2=>e e2.symm)];simp[e]
theorem GC(n:Nat):∀i j,i<n->j<3->vT [vI 0,vI 0,vI 0] i j=ak bS (List.replicate n dI) i j:=λ i j _ hj=>by
 unfold vT ak;have e:(List.replicate n dI).getD i bS.dflt=dI:=by
  rw[aaG,ab3];split <;> rfl
 rw[e];rcases j with _|_|_|j
 ·rfl
 ·rfl
 ·rfl
 ·omega
theorem Lr{pl:Nat}{rows:List (List Inp)}(h:rows=[]):xc pl rows=List.replicate pl dI:=by subst h;rfl
theorem GD{pl:Nat}{rows:List (List Inp)}{last l:List Inp}(h1:1<=rows.length)(hse_:rows.getD (rows.length-1) []=last)(hse3_:l.length=last.length)(h4:∀i,i<last.length->l.getD i dI=kB (last.getD i dI)):xc pl rows=l:=by
 unfold xc;have e:rows.getLast?=some last:=by
  rw[List.getLast?_eq_getElem?,<- hse_,aaG,aaP (by omega)];rfl
 rw[e];show last.map kB=l;refine zR (d:=dI) (by rw[ab2,hse3_]) λ i hi=>?_;rw[ab2] at hi;rw[h4 i hi,aaG,abf,aaG,aaP hi];rfl
theorem xk{q pl:Nat}{l:List Inp}(h:l.length=pl)(hq:(q,.rows 3 pl (ak bS l) 24 (0,0))∈F):RwIn F l ⟨some ⟨q,0,none⟩,pl,pl⟩:=by
 subst h;have:=RwIn.mk (F:=F) (xs:=l) q 0 l.length l l.length hq (by omega) (λ k hk=>by rw[abp]) (aaI _);rwa [adS] at this
theorem Ls{pl rn en:Nat}(cl:Nat){kv:List (Int×Value×Nat)}{rows:List (List Inp)}(hp:(pp,.lit [vI (pl:Int),vI (me:Int),vI (w:Int),vP gb 0,vP rb 0,.map (some lb),.slice rA rn rc,vI (ck:Int),.slice uA un uc,.slice eA en ec,vI (rbk:Int),vP sg 0] 89 (0,0))∈F)(hkv:LocIn kv)(hr:RowL jo 25 F rA rn rl)(hT:RwsT rl rows Tp)(hTF:∀x∈Tp,x∈F)(WT:∀r∈rows,RowOk (pl:Int) r)(UN:rn<=1000000)(ht8:t<=1000000)(hpl:1<=pl/\pl<=1000)(Yl:me<pl):aeo 32 #[vP pp 0,vI (t:Int)] [(lb,.obj (bn kv cl))] F (λ u H'=>∃x:Rw×HL,H'=ap [(lb,.obj (bn kv cl))] [x.2]/\(u=.slice x.1.A x.1.n x.1.c/\∀F2,(∀y∈Tp++x.2,y∈F2)->RwIn F2 (ig pl me rows (jz kv) t) x.1)):=by
 have hw:=hT F hTF;refine rI Tryz.func32 (mc hp mn) [(lb,.obj (bn kv cl))] []<|SO 17 [.ro 0]<|aaq ((t:Int)<(rn:Int)) 17 (λ h1=>?_) λ h1=>?_
 ·have ht_:t<rn:=by omega
  refine ae 8 [.ro 0] λ _=>?_;obtain⟨qx2,ox2,Nx2,fx2,ars,akv,aiy,apo,ajh⟩:=hr.at (k:=t) (by omega);refine aM 21 (congrArg (λ v_=>(.slice v_ rn rc:Value)) akv)<|RN.ro (λ _=>(mc hp (mc aiy mn)))<|ah 2 [.ix t,.rorow 1 (ox2+t) 0] [(ox2*1+t*1)=(ox2+t)*1+0/\(ox2+t)<Nx2,(t:Int)=((t:Nat):Int)/\t<rn] λ _=>aM 24 (congrArg (λ v_=>(.slice v_.A v_.n v_.c:Value)) ajh)<|OU 3<|QV [] [0] [] (.slice ((rl.getD t jo.dflt).A) ((rl.getD t jo.dflt).n) ((rl.getD t jo.dflt).c)) (ap [(lb,.obj (bn kv cl))] []) ⟨(⟨(rl.getD t jo.dflt).A,((rl.getD t jo.dflt).n),((rl.getD t jo.dflt).c)⟩,[]),by simp[ap],rfl,λ F2 hF=>?_⟩;rw[ig,if_pos (by rw[<- hw.len,hr.len];exact ht_)];exact(hT F2 λ x hx=>hF x (by simpa using hx)).row t (by rw[hr.len];exact ht_)
 ·refine ah 15 [.ro 0,.mk pl pl] [(pl:Int)=((pl:Nat):Int)/\(pl:Int)=((pl:Nat):Int)/\pl<=pl/\24*pl<=140737488355328/\3=3/\pl<=9223372036854775807] λ n3=>D4 0 (.rows 3 pl (vT [vI 0,vI 0,vI 0]) 24 (0,0)) (.rows 3 pl (ak bS (List.replicate pl dI)) 24 (0,0)) (po (GC pl))<|SO 15 [.ro 0]<|aaq ((rn:Int)>0) 36 (λ h4=>?_) λ h4=>?_
  ·have ait:1<=rn:=by omega
   refine ah 9 [.ro 0,.nw] [aI ((rn:Int)-1)] λ _=>?_;obtain⟨qx5,VP,Nx5,fx5,agy,VM,X1,afq,ZG⟩:=hr.at (k:=(rn-1)) (by omega);refine aM 40 (congrArg (λ v_=>(.slice v_ rn rc:Value)) VM)<|RN.ro (λ _=>(mc hp (mc X1 mn)))<|ah 2 [.ix (rn-1),.rorow 1 (VP+(rn-1)) 0] [(VP*1+(rn-1)*1)=(VP+(rn-1))*1+0/\(VP+(rn-1))<Nx5,(rn:Int)-1=(((rn-1):Nat):Int)/\(rn-1)<rn] λ _=>aM 44 (congrArg (λ v_=>(.slice v_.A v_.n v_.c:Value)) ZG) ?_;obtain⟨bk,ok,Nk,fk,ck2,ek,hIk,hik,hxk,Yp⟩:=hw.get (k:=rn-1) (by rw[hr.len];omega);obtain⟨last,R_⟩:∃r,rows.getD (rn-1) []=r:=⟨_,rfl⟩;rw[R_] at ek hik hxk Yp;have apB:(last.length:Int)=(pl:Int):=by rw[<- R_];exact(WT _ (jK (by rw[<- hw.len,hr.len];omega) _)).1
   refine aM 44 (congrArg (λ v_:Rw=>Value.slice v_.A v_.n v_.c) ek)<|RN.ro (λ _=>(mc hp (mc X1 (mc hIk mn))))<|OU 5<|aat (σ:=Nat×List Inp) (λ ⟨k_,l_⟩=>⟨[(0,vP pp 0),(1,vI (t:Int)),(5,vS (n3+0) 0 pl pl),(44,vS bk (ok*3) last.length ck2),(45,vI (last.length:Int)),(46,vI (k_:Int))],[((n3+0),.rows 3 pl (ak bS l_) 24 (0,0)),(lb,.obj (bn kv cl))],[],k_<=pl/\l_.length=pl/\∀i,i<k_->l_.getD i dI=kB (last.getD i dI),pl-k_⟩) (0,List.replicate pl dI) [0,1] [] (⟨aaJ _,abo,λ i hi=>absurd hi (pt _)⟩) ?_;rintro⟨k_,l_⟩ ⟨YJ,Yn,hp_⟩ XR;refine OU 6<|aaq ((k_:Int)<(last.length:Int)) 47 (λ h8=>?_) λ h8=>?_
   ·refine ah 11 [.ix k_,.rorow 2 (ok+k_) 0,.rorow 2 (ok+k_) 1,.rorow 2 (ok+k_) 2] [((ok*3+k_*3)+2)=(ok+k_)*3+2/\(ok+k_)<Nk,((ok*3+k_*3)+1)=(ok+k_)*3+1/\(ok+k_)<Nk,(ok*3+k_*3)=(ok+k_)*3+0/\(ok+k_)<Nk,(k_:Int)=((k_:Nat):Int)/\k_<last.length] λ n9=>aM 50 (congrArg (λ v_=>(.agg #[vI v_.dx,vI v_.dy,vI v_.act]:Value)) (hxk k_ (by omega)))<|SO 8 (ow 0 6)<|aal (KQ (last.getD k_ dI))<|ah 9 [.ix k_,.row 1 k_ 0,.row 1 k_ 1,.row 1 k_ 2,.nw] [aI ((k_:Int)+1),((0+k_*3)+2)=k_*3+2/\k_<pl,((0+k_*3)+1)=k_*3+1/\k_<pl,(0+k_*3)=k_*3+0/\k_<pl,(k_:Int)=((k_:Nat):Int)/\k_<pl] λ _=>D4 1 (.rows 3 pl (cF (cF (cF (ak bS l_) k_ 0 (vI ((kB (last.getD k_ dI)).dx))) k_ 1 (vI ((kB (last.getD k_ dI)).dy))) k_ 2 (vI ((kB (last.getD k_ dI)).act))) 24 (0,0)) (.rows 3 pl (ak bS (l_.set k_ (kB (last.getD k_ dI)))) 24 (0,0)) (po (xj l_ (by omega) _))<|XR (k_+1,(l_.set k_ (kB (last.getD k_ dI)))) [1,2] [] ?_
    try dsimp only
    refine⟨⟨by omega,by rw[abE];exact Yn,λ i hi=>?_⟩,by omega⟩
    by_cases ei:k_=i
    ·subst ei;rw[fJ (by omega)]
    ·rw[fw ei];exact hp_ i (by omega)
   ·refine ae 8 [] λ _=>?_;have hB_:xc pl rows=l_:=by
     obtain rfl:k_=last.length:=by omega
     exact GD (by rw[<- hw.len,hr.len];exact ait) (by rw[<- hw.len,hr.len];exact R_) (by omega) hp_
    refine ae 6 [.ro 0] λ _=>?_;rcases hkv.get (t:Int) with ⟨Vp,WV⟩|⟨xl,afD,Vp,WV⟩
    ·refine qf 1 (kv:=kv) (cl:=cl) (k:=(t:Int)) (ok:=true) (z:=.agg #[vI 0,vI 0,vI 0]) (v:=.tuple #[.agg #[vI 0,vI 0,vI 0],.bool false]) (by simp only[GP,Vp];rfl)<|ae 17 (aab 3) λ Wi=>OU 5<|QV [] [2,1] [] (vS (n3+0) 0 pl pl) (ap [(lb,.obj (bn kv cl)),((n3+0),.rows 3 pl (ak bS l_) 24 (0,0))] []) ?_;have V6:ig pl me rows (jz kv) t=l_:=by rw[ig,if_neg (by rw[<- hw.len,hr.len];omega),WV];show _=_;rw[hB_]
     have X9:l_.length=pl:=by first|exact Yn|exact abo|(rw[abE];first|exact Yn|exact abo)
     refine⟨(⟨some ⟨(n3+0),0,none⟩,pl,pl⟩,[((n3+0),.rows 3 pl (ak bS l_) 24 (0,0))]),by simp[ap],rfl,λ F2 hF=>?_⟩;rw[V6];exact xk X9 (hF _ (aaB _ (jt.2 rfl)))
    ·refine qf 1 (kv:=kv) (cl:=cl) (k:=(t:Int)) (ok:=true) (z:=.agg #[vI 0,vI 0,vI 0]) (v:=.tuple #[.agg #[vI xl.dx,vI xl.dy,vI xl.act],.bool true]) (by simp only[GP,Vp];rfl)<|ae 14 (aab 3) λ n11=>aap [7] []<|aA [] [0,1,5,2,3,4,6] [.o 0,.o 0,.o 0,.ro 0,.ix me] [(me:Int)=((me:Nat):Int)/\me<pl]<|aag 7 (fK [] [.row 1 me 0,.row 1 me 1,.row 1 me 2] [((0+me*3)+2)=me*3+2/\me<pl,((0+me*3)+1)=me*3+1/\me<pl,(0+me*3)=me*3+0/\me<pl] λ _=>?_);refine aaf<|ae 2 [] λ _=>?_;have afC:l_.length=pl:=by first|exact Yn|exact abo
     refine D4 1 (.rows 3 pl (cF (cF (cF (ak bS l_) me 0 (vI xl.dx)) me 1 (vI xl.dy)) me 2 (vI xl.act)) 24 (0,0)) (.rows 3 pl (ak bS (l_.set me xl)) 24 (0,0)) (po (xj l_ (by omega) xl))<|OU 5<|QV [] [2,1] [] (vS (n3+0) 0 pl pl) (ap [(lb,.obj (bn kv cl)),((n3+0),.rows 3 pl (ak bS (l_.set me xl)) 24 (0,0))] []) ?_;have V6:ig pl me rows (jz kv) t=(l_.set me xl):=by rw[ig,if_neg (by rw[<- hw.len,hr.len];omega),WV];show _=_;rw[hB_]
     have X9:(l_.set me xl).length=pl:=by first|exact Yn|exact abo|(rw[abE];first|exact Yn|exact abo)
     refine⟨(⟨some ⟨(n3+0),0,none⟩,pl,pl⟩,[((n3+0),.rows 3 pl (ak bS (l_.set me xl)) 24 (0,0))]),by simp[ap],rfl,λ F2 hF=>?_⟩;rw[V6];exact xk X9 (hF _ (aaB _ (jt.2 rfl)))
  ·refine ae 5 [] λ _=>?_;have hB_:xc pl rows=List.replicate pl dI:=Lr (by have h_:=hw.len;rw[hr.len] at h_;exact aaU (by omega));refine ae 6 [.ro 0] λ _=>?_;rcases hkv.get (t:Int) with ⟨Vp,WV⟩|⟨xl,afD,Vp,WV⟩
   ·refine qf 1 (kv:=kv) (cl:=cl) (k:=(t:Int)) (ok:=true) (z:=.agg #[vI 0,vI 0,vI 0]) (v:=.tuple #[.agg #[vI 0,vI 0,vI 0],.bool false]) (by simp only[GP,Vp];rfl)<|ae 17 (aab 3) λ n12=>OU 5<|QV [] [2,1] [] (vS (n3+0) 0 pl pl) (ap [(lb,.obj (bn kv cl)),((n3+0),.rows 3 pl (ak bS (List.replicate pl dI)) 24 (0,0))] []) ?_;have V6:ig pl me rows (jz kv) t=(List.replicate pl dI):=by rw[ig,if_neg (by rw[<- hw.len,hr.len];omega),WV];show _=_;rw[hB_]
    have X9:(List.replicate pl dI).length=pl:=by first|exact Yn|exact abo|(rw[abE];first|exact Yn|exact abo)
    refine⟨(⟨some ⟨(n3+0),0,none⟩,pl,pl⟩,[((n3+0),.rows 3 pl (ak bS (List.replicate pl dI)) 24 (0,0))]),by simp[ap],rfl,λ F2 hF=>?_⟩;rw[V6];exact xk X9 (hF _ (aaB _ (jt.2 rfl)))
   ·refine qf 1 (kv:=kv) (cl:=cl) (k:=(t:Int)) (ok:=true) (z:=.agg #[vI 0,vI 0,vI 0]) (v:=.tuple #[.agg #[vI xl.dx,vI xl.dy,vI xl.act],.bool true]) (by simp only[GP,Vp];rfl)<|ae 14 (aab 3) λ n13=>aap [7] []<|aA [] [0,1,5,2,3,4,6] [.o 0,.o 0,.o 0,.ro 0,.ix me] [(me:Int)=((me:Nat):Int)/\me<pl]<|aag 7 (fK [] [.row 1 me 0,.row 1 me 1,.row 1 me 2] [((0+me*3)+2)=me*3+2/\me<pl,((0+me*3)+1)=me*3+1/\me<pl,(0+me*3)=me*3+0/\me<pl] λ _=>?_);refine aaf<|ae 2 [] λ _=>?_;have afC:(List.replicate pl dI).length=pl:=by first|exact Yn|exact abo
    refine D4 1 (.rows 3 pl (cF (cF (cF (ak bS (List.replicate pl dI)) me 0 (vI xl.dx)) me 1 (vI xl.dy)) me 2 (vI xl.act)) 24 (0,0)) (.rows 3 pl (ak bS ((List.replicate pl dI).set me xl)) 24 (0,0)) (po (xj (List.replicate pl dI) (by omega) xl))<|OU 5<|QV [] [2,1] [] (vS (n3+0) 0 pl pl) (ap [(lb,.obj (bn kv cl)),((n3+0),.rows 3 pl (ak bS ((List.replicate pl dI).set me xl)) 24 (0,0))] []) ?_;have V6:ig pl me rows (jz kv) t=((List.replicate pl dI).set me xl):=by rw[ig,if_neg (by rw[<- hw.len,hr.len];omega),WV];show _=_;rw[hB_]
    have X9:((List.replicate pl dI).set me xl).length=pl:=by first|exact Yn|exact abo|(rw[abE];first|exact Yn|exact abo)
    refine⟨(⟨some ⟨(n3+0),0,none⟩,pl,pl⟩,[((n3+0),.rows 3 pl (ak bS ((List.replicate pl dI).set me xl)) 24 (0,0))]),by simp[ap],rfl,λ F2 hF=>?_⟩;rw[V6];exact xk X9 (hF _ (aaB _ (jt.2 rfl)))
theorem Lt{pl:Nat}{kv:List (Int×Value×Nat)}{c:Nat}(h:PeerR rs_ ds_ bp pp pl me w S J P kv c sn X G)(WT:∀r∈P.rows,RowOk (pl:Int) r)(UN:P.rows.length<=1000000)(ht8:t<=1000000)(X4:1<=pl/\pl<=1000)(Yl:me<pl):aeo 32 #[vP pp 0,vI (t:Int)] (ap [] [G]) F (λ u H'=>∃x:Rw×HL,H'=ap [] [x.2]/\(u=.slice x.1.A x.1.n x.1.c/\PeerR rs_ ds_ bp pp pl me w S J P kv c sn (some (x.1,ig pl me P.rows (jz kv) t)) x.2)):=by
 cases h with
 | @mk gb mb rb lb cl rn rc ck un uc en ec rbk sg smb S2 S3 rA uA eA rl ul el N Tg Tn Tr Tu Te Tp Tq Ts q1_ q2_ q3_ q4_ q5_ hse_ hg hb hn hkv hr hrl hrr hu hul huu he hel hee hse3_ hs hsc hsn hsb hpl hX=>
  have hm:∀x∈[Tg,Tn,Tr,Tu,Te,Tp,Tq,Ts].flatten,x∈((pp,.lit [vI (pl:Int),vI (me:Int),vI (w:Int),vP gb 0,vP rb 0,.map (some lb),.slice rA rn rc,vI (ck:Int),.slice uA un uc,.slice eA en ec,vI (rbk:Int),vP sg 0] 89 (0,0))::[Tg,Tn,Tr,Tu,Te,Tp,Tq,Ts].flatten)++F:=λ x hx=>aaC _ (aaE _ hx);have key:=Ls (pp:=pp) (gb:=gb) (rb:=rb) (lb:=lb) (sg:=sg) (w:=w) (rn:=rn) (rc:=rc) (ck:=ck) (un:=un) (uc:=uc) (en:=en) (ec:=ec) (rbk:=rbk) (rA:=rA) (uA:=uA) (eA:=eA) cl (F:=((pp,.lit [vI (pl:Int),vI (me:Int),vI (w:Int),vP gb 0,vP rb 0,.map (some lb),.slice rA rn rc,vI (ck:Int),.slice uA un uc,.slice eA en ec,vI (rbk:Int),vP sg 0] 89 (0,0))::[Tg,Tn,Tr,Tu,Te,Tp,Tq,Ts].flatten)++F) (aaC _ aaD) hkv (by have h_:=hr.toRowL λ x hx=>hm x (by simp[hx]);rwa [hrl] at h_) hrr (λ x hx=>hm x (by simp[hx])) WT (by omega) ht8 X4 Yl;refine Sp.fr (X:=(pp,.lit [vI (pl:Int),vI (me:Int),vI (w:Int),vP gb 0,vP rb 0,.map (some lb),.slice rA rn rc,vI (ck:Int),.slice uA un uc,.slice eA en ec,vI (rbk:Int),vP sg 0] 89 (0,0))::[Tg,Tn,Tr,Tu,Te,Tp,Tq,Ts].flatten) ?_ (F:=F) key ?_
  ·simp only[ap,aa6,aeg,ace,abz,abl,aaF];exact List.Perm.swap _ _ _
  ·rintro u Y ⟨⟨q,Tx⟩,rfl,h4,h5⟩;refine⟨_,⟨(q,ap [(pp,.lit [vI (pl:Int),vI (me:Int),vI (w:Int),vP gb 0,vP rb 0,.map (some lb),.slice rA rn rc,vI (ck:Int),.slice uA un uc,.slice eA en ec,vI (rbk:Int),vP sg 0] 89 (0,0)),(lb,.obj (bn kv cl))] [Tg,Tn,Tr,Tu,Te,Tp++Tx,Tq,Ts]),(br).symm,h4,PeerR.mk q1_ q2_ q3_ q4_ q5_ hse_ hg hb hn hkv hr hrl (hrr.more _) hu hul (huu.more _) he hel hee hse3_ hs hsc hsn hsb hpl (λ p_ xs_ h_ F2 hF=>by cases h_;exact h5 F2 hF)⟩,?_⟩;simp only[ap,aa6,aeg,ace,abz,abl,aaF];refine(List.Perm.swap _ _ _).trans (List.Perm.cons _ ?_);exact Gu
theorem D5{b o N:Nat}{full xs:List Inp}(hI:(b,.rows 3 N (xP full) 24 (0,0))∈F)(hi:o+xs.length<=N)(hx:∀k,k<xs.length->full.getD (o+k) dI=xs.getD k dI){X:HL}:RowL bS 24 (X++F) (some ⟨b,o*3,none⟩) xs.length xs:=.rows b o N full (0,0) _ xs (aaB _ hI) hi rfl hx
theorem SI{rows:List (List Inp)}(h1:k<used.length)(hse_:ck+k<rows.length)(hse3_:∀i,i<k->used.getD i []=rows.getD (ck+i) [])(h4:¬ used.getD k []=rows.getD (ck+k) []):wr rows ck used=some (ck+k):=by
 induction used generalizing ck k with
 |nil=>simp at h1
 |cons u l ih=>
  rw[wr,aaP (show ck<rows.length by omega)];have e0:rows.getD ck []=rows[ck]'(by omega):=by rw[aaG,aaP (show ck<rows.length by omega)];rfl
  cases k with
  |zero=>
   simp only[abZ] at h4;rw[e0] at h4;simp only[adB] at h4;simp only[if_neg h4,abZ]
  |succ k=>
   have h5:=hse3_ 0 (by omega);rw[abZ,e0] at h5;simp only[adB] at h5;simp only[if_pos h5];rw[ih (ck:=ck+1) (k:=k) (by simpa using h1) (by omega) (λ i hi=>by have:=hse3_ (i+1) (by omega);rw[adD] at this;rw[this];congr 1;omega) (by rw[adD] at h4;rwa [show ck+1+k=ck+(k+1) by omega])];congr 1;omega
theorem D6{rows:List (List Inp)}(hse3_:∀i,i<k->used.getD i []=rows.getD (ck+i) [])(h4:used.length<=k\/rows.length<=ck+k):wr rows ck used=none:=by
 induction used generalizing ck k with
 |nil=>rfl
 |cons u l ih=>
  rw[wr];cases e:rows[ck]? with
  |none=>rfl
  |some r=>
   have hc:ck<rows.length:=(bt.1 e).1;cases k with
   |zero=>simp only[aaN] at h4;omega
   |succ k=>
    have h6:u=r:=by
     have h5:=hse3_ 0 (by omega);rw[abZ] at h5;simp only[adB] at h5;rw[h5,aaG,e];rfl
    simp only[if_pos h6];exact ih (k:=k) (λ i hi=>by have:=hse3_ (i+1) (by omega);rw[adD] at this;rw[this];congr 1;omega) (by simp only[aaN] at h4;omega)
theorem Cv{pl rn en:Nat}{rows:List (List Inp)}(hp:(pp,.lit [vI (pl:Int),vI (me:Int),vI (w:Int),vP gb 0,vP rb 0,.map (some lb),.slice rA rn rc,vI (ck:Int),.slice uA un uc,.slice eA en ec,vI (rbk:Int),vP sg 0] 89 (0,0))∈F)(hr:RowL jo 25 F rA rn rl)(XW:RwsIn F rl rows)(hu:RowL jo 25 F uA un ul)(hwu:RwsIn F ul used)(hln:∀k,k<un->(used.getD k []).length<=1000000)(UN:rn<=1000000)(Yp:ck<=1000000)(hun:un<=1000000):aen 30 #[vP pp 0] F (.tuple #[vI (((wr rows ck used).getD 0:Nat):Int),.bool (wr rows ck used).isSome]):=by
 have afb:=hr.len;have ae2:=hu.len;have alD:=XW.len;have alB:=hwu.len;refine QU Tryz.func30 hp<|SO 18 [.ro 0]<|aat (σ:=Nat) (λ k_=>⟨[(0,vP pp 0),(10,.slice uA un uc),(11,vI (un:Int)),(12,vI (k_:Int))],[],[],k_<=un/\∀i,i<k_->ck+i<rn/\used.getD i []=rows.getD (ck+i) [],un-k_⟩) 0 [] [] (⟨aaJ _,λ i hi=>absurd hi (pt _)⟩) ?_;rintro k_ ⟨YJ,VH⟩ Vx;refine OU 6<|aaq ((k_:Int)<(un:Int)) 13 (λ h3=>?_) λ h3=>?_
 ·refine ae 8 [] λ _=>?_;obtain⟨qx4,Yw,Nx4,fx4,akI,aby,aa3,aiH,acX⟩:=hu.at (k:=k_) (by omega);refine aM 10 (congrArg (λ v_=>(.slice v_ un uc:Value)) aby)<|RN.ro (λ _=>(mc hp (mc aa3 mn)))<|ah 2 [.ix k_,.rorow 1 (Yw+k_) 0] [(Yw*1+k_*1)=(Yw+k_)*1+0/\(Yw+k_)<Nx4,(k_:Int)=((k_:Nat):Int)/\k_<un] λ _=>aM 16 (congrArg (λ v_=>(.slice v_.A v_.n v_.c:Value)) acX) ?_;obtain⟨bu,ou,Nu,fu,cu,eu,hIu,hiu,hxu,hcu⟩:=hwu.get (k:=k_) (by rw[hu.len];omega);refine aM 16 (congrArg (λ v_:Rw=>Value.slice v_.A v_.n v_.c) eu)<|ah 27 [.ro 0,.nw,.ro 0] [aI ((ck:Int)+(k_:Int))] λ _=>aaq ((ck:Int)+(k_:Int)>=(rn:Int)) 29 (λ h5=>?_) λ h5=>?_
  ·refine ae 14 [] λ _=>QW (.tuple #[vI 0,.bool false]) _ ⟨by rw[D6 (k:=k_) (λ i hi=>(VH i hi).2) (by omega)];rfl,rfl⟩
  ·refine ae 11 [.ro 0] λ _=>?_;obtain⟨qx6,Z4,Nx6,fx6,akH,ZZ,acI,aiG,acW⟩:=hr.at (k:=(ck+k_)) (by omega);refine aM 34 (congrArg (λ v_=>(.slice v_ rn rc:Value)) ZZ)<|RN.ro (λ _=>(mc hp (mc aa3 (mc acI mn))))<|ah 2 [.ix (ck+k_),.rorow 2 (Z4+(ck+k_)) 0] [(Z4*1+(ck+k_)*1)=(Z4+(ck+k_))*1+0/\(Z4+(ck+k_))<Nx6,(ck:Int)+(k_:Int)=(((ck+k_):Nat):Int)/\(ck+k_)<rn] λ _=>aM 37 (congrArg (λ v_=>(.slice v_.A v_.n v_.c:Value)) acW) ?_;obtain⟨bv,ov,Nv,fv,cv,ev,hIv,hiv,hxv,hcv⟩:=XW.get (k:=(ck+k_)) (by rw[hr.len];omega);refine aM 37 (congrArg (λ v_:Rw=>Value.slice v_.A v_.n v_.c) ev)<|aal (KP cu cv (D5 hIu hiu hxu) (D5 hIv hiv hxv) (by have h_:=hln k_ (by omega);omega))<|OU 3<|oK ((decide ((used.getD k_ [])=(rows.getD (ck+k_) [])))) 39 (λ h7=>?_) λ h7=>?_
   ·refine ah 8 [.nw] [aI ((k_:Int)+1)] λ _=>aM 10 (congrArg (λ v_=>(.slice v_ un uc:Value)) aby.symm)<|Vx (k_+1) [] [] ?_
    try dsimp only
    refine⟨⟨by omega,λ i hi=>?_⟩,by omega⟩
    by_cases ei:i=k_
    ·subst ei;exact⟨by omega,aa9 h7⟩
    ·exact VH i (by omega)
   ·refine ae 8 [] λ _=>QW (.tuple #[vI ((ck:Int)+(k_:Int)),.bool true]) _ ⟨by rw[SI (k:=k_) (by omega) (by omega) (λ i hi=>(VH i hi).2) (λ e_=>h7 (abk e_))];show _=Value.tuple #[vI ((ck+k_:Nat):Int),.bool true];rfl,rfl⟩
 ·refine ae 12 [] λ _=>QW (.tuple #[vI 0,.bool false]) _ ⟨by rw[D6 (k:=k_) (λ i hi=>(VH i hi).2) (by omega)];rfl,rfl⟩
section
variable {rs_:List Bx} {ds_:List Dr} {bp gb mb:Nat} {S:Setup} {M:MemS} {k:Nat} {G0:HL}
theorem UA{x:Nat}(hX:GameX rs_ ds_ bp gb mb S M k G0)(hG:RingH rb mb w a ms G)(hx:a<=x/\x<a+ms.length)(hx8:x<=1000000)(hl:ms.length<=100000000)(hr:M.base<=ms.getD (x-a) 0/\ms.getD (x-a) 0<=M.base+(M.lg.length:Int))(Vd:∀e∈M.lg.drop (ms.getD (x-a) 0-M.base).toNat,0<=e.1/\e.1<(M.cs.length:Int))(hb:0<=M.base/\M.base<=1000000000):aeo 55 #[vP rb 0,vI (x:Int)] (ap [] [G,G0]) F (λ u H'=>∃y:HL×HL,H'=ap [] [y.1,y.2]/\(u=vI 0/\RingH rb mb w a (ms.take (x-a+1)) y.1/\GameX rs_ ds_ bp gb mb S (mm M (ms.getD (x-a) 0-M.base).toNat) k y.2)):=by
 have h:=vH (F:=F) (G:=G) (R:=λ u A _=>u=vI 0/\RingH rb mb w a (ms.take (x-a+1)) A) (M2:=mm M (ms.getD (x-a) 0-M.base).toNat) (k2:=k) (f:=55) (args:=#[vP rb 0,vI (x:Int)]) hX λ T X hM=>(NB (X++F) hG hx hx8 hl hr Vd hM hb (aaI _)).mono λ u H' h=>by
  obtain⟨y,h1,hse_,hse3_,h4⟩:=h;exact⟨y,h1,⟨hse_,hse3_⟩,h4⟩
 exact h.mono λ u H' h=>by
  obtain⟨y,h1,⟨hse_,hse3_⟩,h4⟩:=h;exact⟨y,h1,hse_,hse3_,h4⟩
theorem SJ(hX:GameX rs_ ds_ bp gb mb S M k G0)(hG:RingH rb mb w a ms G)(ht:ms≠[]->t=a+ms.length)(hr:∀k∈ms,M.base<=k/\k<=M.base+(M.lg.length:Int))(hb:0<=M.base/\M.base<=1000000000)(hw:1<=w/\w<=13)(ht0:t<=1000000)(hl:ms.length<=100000000):aeo 58 #[vP rb 0,vI (t:Int)] (ap [] [G,G0]) F (λ u H'=>∃y:HL×HL,H'=ap [] [y.1,y.2]/\(u=vI 0/\RingH rb mb w (eo w M a ms t).2.1 (eo w M a ms t).2.2 y.1/\GameX rs_ ds_ bp gb mb S (eo w M a ms t).1 k y.2)):=by
 have h:=vH (F:=F) (G:=G) (R:=λ u A _=>u=vI 0/\RingH rb mb w (eo w M a ms t).2.1 (eo w M a ms t).2.2 A) (M2:=(eo w M a ms t).1) (k2:=k) (f:=58) (args:=#[vP rb 0,vI (t:Int)]) hX λ T X hM=>(KO (X++F) hG ht hr hM hb hw (aaI _) ht0 hl).mono λ u H' h=>by
  obtain⟨y,h1,hse_,hse3_,h4⟩:=h;exact⟨y,h1,⟨hse_,hse3_⟩,h4⟩
 exact h.mono λ u H' h=>by
  obtain⟨y,h1,⟨hse_,hse3_⟩,h4⟩:=h;exact⟨y,h1,hse_,hse3_,h4⟩
end
theorem Cw{pl:Nat}{kv:List (Int×Value×Nat)}{c:Nat}{cl rn en:Nat}{Tr:HL}(q1_:P.rows.length=rn)(q2_:P.ck=ck)(q3_:P.used.length=un)(q4_:P.effs.length=en)(q5_:P.rb=rbk)(hse_:SetEq S S2)(hg:GameX rs_ ds_ bp gb mb S2 P.M 0 Tg)(hb:0<=P.M.base/\P.M.base+(P.M.lg.length:Int)<=20000*(c:Int))(hn:RingH rb mb w P.a P.ms Tn)(hkv:LocIn kv)(hr:SlIs jo 25 rl rA rc Tr)(hrl:rl.length=rn)(hrr:RwsT rl P.rows Tp)(hu:SlX jo 25 ul uA uc Tu)(hul:ul.length=un)(huu:RwsT ul P.used Tp)(he:SlIs jT 132 el eA ec Te)(hel:el.length=en)(hee:EfsT el P.effs Tq)(hse3_:SetEq S S3)(hs:GameX rs_ ds_ bp sg smb S3 N 99020000 Ts)(hsc:N.cs=WS S J P.rows sn)(hsn:sn<=rn)(hsb:0<=N.base/\N.base<=1000000*(sn:Int))(hpl:S.players=(pl:Int))(hX:∀p xs,X=some (p,xs)->∀F:HL,(∀y∈Tp,y∈F)->RwIn F xs p){x:Nat}(hx:P.a<=x/\x<P.a+P.ms.length)(hx8:x<=1000000)(hl:P.ms.length<=100000000)(XG:P.M.base<=(P.ms.getD (x-P.a) 0)/\(P.ms.getD (x-P.a) 0)<=P.M.base+(P.M.lg.length:Int))(Vd:∀e∈P.M.lg.drop ((P.ms.getD (x-P.a) 0)-P.M.base).toNat,0<=e.1/\e.1<(P.M.cs.length:Int))(ZM:c<=4000)(Yp:ck<=x)(hu1:x-ck<=un)(he1:x<=en)(Zx:rbk<=1000000):aeo 31 #[vP pp 0,vI (x:Int)] (ap [(pp,.lit [vI (pl:Int),vI (me:Int),vI (w:Int),vP gb 0,vP rb 0,.map (some lb),.slice rA rn rc,vI (ck:Int),.slice uA un uc,.slice eA en ec,vI (rbk:Int),vP sg 0] 89 (0,0)),(lb,.obj (bn kv cl))] [Tg,Tn,Tr,Tu,Te,Tp,Tq,Ts]) F (λ u H'=>u=vI 0/\PeerR rs_ ds_ bp pp pl me w S J (zQ P x) kv c sn none H'):=by
 have acz:=hu.len;have ajp:=he.capLe;rw[hul] at acz;rw[hel] at ajp;refine QS Tryz.func31 mn<|SO 13 [.o 0]<|aam [] [1,0] (UA hg hn hx hx8 hl XG Vd (by omega)) ?_;rintro _ ⟨T1,T2⟩ ⟨rfl,hn3,hg4⟩;dsimp only at hn3 hg4;refine ah 24 [.o 0,.nw] [aI ((x:Int)-(ck:Int))] λ _=>aM 6 (congrArg (λ v_=>(vI v_:Value)) (show (x:Int)-(ck:Int)=((x-ck:Nat):Int) by omega))<|SO 8 [.o 0]<|Bw (A:=uA) (n:=un) (cap:=uc) (l:=0) (h:=x-ck) (m:=x-ck) (sz:=1) (li:=none) (hi:=some ((x-ck:Nat):Int)) (mi:=some ((x-ck:Nat):Int)) rfl rfl rfl (by omega) (by omega) (by omega)<|SO 13 (aab 2)<|Bw (A:=eA) (n:=en) (cap:=ec) (l:=0) (h:=x) (m:=ec) (sz:=1) (li:=none) (hi:=some (x:Int)) (mi:=none) rfl rfl rfl (by omega) (by omega) (by omega)<|ah 12 [.o 0,.o 0,.nw] [aI ((rbk:Int)+1)] λ _=>aM 45 (congrArg (λ v_=>(vI v_:Value)) (show (rbk:Int)+1=((rbk+1:Nat):Int) by omega))<|SO 10 [.o 0]<|QV [] [0,1] [1,0,2,3,4,5,6,7] (vI 0) (ap [(pp,.lit [vI (pl:Int),vI (me:Int),vI (w:Int),vP gb 0,vP rb 0,.map (some lb),.slice rA rn rc,vI (ck:Int),.slice (Bv uA 0 1 (x-ck)) (x-ck-0) (x-ck-0),.slice (Bv eA 0 1 ec) (x-0) (ec-0),vI ((rbk+1:Nat):Int),vP sg 0] 89 (0,0)),(lb,.obj (bn kv cl))] [T2,T1,Tr,Tu,Te,Tp,Tq,Ts]) ⟨rfl,PeerR.mk q1_ q2_ (show (P.used.take (x-P.ck)).length=x-ck-0 by rw[aaL,q3_,q2_];omega) (show (P.effs.take x).length=x-0 by rw[aaL,q4_];omega) (show P.rb+1=rbk+1 by rw[q5_]) hse_ hg4 ⟨hb.1,by show P.M.base+((P.M.lg.take _).length:Int)<=_;rw[aaL];omega⟩ hn3 hkv hr hrl hrr (hu.cut (k:=0) (h:=x-ck) (m:=x-ck) (aaJ _) (by rw[hul];omega) (aaI _) (by omega)) (by rw[aaM,aaL,hul];omega) (by show RwsT (ul.take (x-ck)) (P.used.take (x-P.ck)) _;rw[q2_];exact huu.take _) ((he.take x).dropI (k:=0) (.inl rfl)) (by rw[aaM,aaL,hel];omega) (hee.take x) hse3_ hs hsc hsn hsb hpl (λ _ _ h_=>by cases h_)⟩
theorem Cy{pl:Nat}{kv:List (Int×Value×Nat)}{c:Nat}(h:PeerR rs_ ds_ bp pp pl me w S J P kv c sn X G){x:Nat}(hx:P.a<=x/\x<P.a+P.ms.length)(hx8:x<=1000000)(hl:P.ms.length<=100000000)(XG:P.M.base<=(P.ms.getD (x-P.a) 0)/\(P.ms.getD (x-P.a) 0)<=P.M.base+(P.M.lg.length:Int))(Vd:∀e∈P.M.lg.drop ((P.ms.getD (x-P.a) 0)-P.M.base).toNat,0<=e.1/\e.1<(P.M.cs.length:Int))(ZM:c<=4000)(Yp:P.ck<=x)(hu1:x-P.ck<=P.used.length)(he1:x<=P.effs.length)(Zx:P.rb<=1000000):aeo 31 #[vP pp 0,vI (x:Int)] (ap [] [G]) F (λ u H'=>∃T9,H'=ap [] [T9]/\((λ u H'=>u=vI 0/\PeerR rs_ ds_ bp pp pl me w S J (zQ P x) kv c sn none H') u T9)):=by
 rw[br];cases h with
 |mk q1_ q2_ q3_ q4_ q5_ hse_ hg hb hn hkv hr hrl hrr hu hul huu he hel hee hse3_ hs hsc hsn hsb hpl hX=>
  exact(Cw q1_ q2_ q3_ q4_ q5_ hse_ hg hb hn hkv hr hrl hrr hu hul huu he hel hee hse3_ hs hsc hsn hsb hpl hX hx hx8 hl XG Vd ZM (by omega) (by omega) (by omega) (by omega)).tl
theorem Ai{pl:Nat}{kv:List (Int×Value×Nat)}{c:Nat}{cl rn en:Nat}{Tr:HL}(q1_:P.rows.length=rn)(q2_:P.ck=ck)(q3_:P.used.length=un)(q4_:P.effs.length=en)(q5_:P.rb=rbk)(hse_:SetEq S S2)(hg:GameX rs_ ds_ bp gb mb S2 P.M 0 Tg)(hb:0<=P.M.base/\P.M.base+(P.M.lg.length:Int)<=20000*(c:Int))(hn:RingH rb mb w P.a P.ms Tn)(hkv:LocIn kv)(hr:SlIs jo 25 rl rA rc Tr)(hrl:rl.length=rn)(hrr:RwsT rl P.rows Tp)(hu:SlX jo 25 ul uA uc Tu)(hul:ul.length=un)(huu:RwsT ul P.used Tp)(he:SlIs jT 132 el eA ec Te)(hel:el.length=en)(hee:EfsT el P.effs Tq)(hse3_:SetEq S S3)(hs:GameX rs_ ds_ bp sg smb S3 N 99020000 Ts)(hsc:N.cs=WS S J P.rows sn)(hsn:sn<=rn)(hsb:0<=N.base/\N.base<=1000000*(sn:Int))(hpl:S.players=(pl:Int))(hX:∀p xs,X=some (p,xs)->∀F:HL,(∀y∈Tp,y∈F)->RwIn F xs p){now:Nat}(h0:P.M.get 0=(now:Int))(Yp:ck<=min now rn)(hu1:min now rn-ck<=un)(UN:rn<=1000000)(YF:now<=1000000):aeo 34 #[vP pp 0] (ap [(pp,.lit [vI (pl:Int),vI (me:Int),vI (w:Int),vP gb 0,vP rb 0,.map (some lb),.slice rA rn rc,vI (ck:Int),.slice uA un uc,.slice eA en ec,vI (rbk:Int),vP sg 0] 89 (0,0)),(lb,.obj (bn kv cl))] [Tg,Tn,Tr,Tu,Te,Tp,Tq,Ts]) F (λ u H'=>u=.tuple #[]/\PeerR rs_ ds_ bp pp pl me w S J (Ny P now) kv c sn none H'):=by
 have acz:=hu.len;rw[hul] at acz;refine QS Tryz.func34 mn<|OU 3<|aal (mu (pp:=pp) (rb:=rb) (lb:=lb) (sg:=sg) (pl:=pl) (me:=me) (w:=w) (rn:=rn) (rc:=rc) (ck:=ck) (un:=un) (uc:=uc) (en:=en) (ec:=ec) (rbk:=rbk) (rA:=rA) (uA:=uA) (eA:=eA) (aw 0) hg (ay 0) h0)<|OU 1<|aal (iV (pp:=pp) (gb:=gb) (rb:=rb) (lb:=lb) (sg:=sg) (pl:=pl) (me:=me) (w:=w) (rn:=rn) (rc:=rc) (ck:=ck) (un:=un) (uc:=uc) (en:=en) (ec:=ec) (rbk:=rbk) (rA:=rA) (uA:=uA) (eA:=eA) (aw 0))<|OU 5<|aM 2 (congrArg (λ v_=>(vI v_:Value)) (show (if (rn:Int)<(now:Int) then (rn:Int) else (now:Int))=((min now rn:Nat):Int) by split <;> omega))<|aap [14] []<|aA [] [0,1,5,6,2,7,3,8,4,9,10] [.o 0,.o 0,.nw] [aI (((min now rn:Nat):Int)-(ck:Int))]<|aag 11 (RDO.slA (A:=uA) (n:=un) (cap:=uc) (l:=min now rn-ck) (sz:=1) (show ((min now rn:Nat):Int)-(ck:Int)=((min now rn-ck:Nat):Int) by omega) (by omega) (by omega) ?_);refine aem [12,13]<|SV 14 [] [.o 0]<|aaf<|SO 8 [.o 0]<|QV [] [0,1] [0,1,2,3,4,5,6,7] (.tuple #[]) (ap [(pp,.lit [vI (pl:Int),vI (me:Int),vI (w:Int),vP gb 0,vP rb 0,.map (some lb),.slice rA rn rc,vI ((min now rn:Nat):Int),.slice (slA uA (min now rn-ck) 1 uc) (un-(min now rn-ck)) (uc-(min now rn-ck)),.slice eA en ec,vI (rbk:Int),vP sg 0] 89 (0,0)),(lb,.obj (bn kv cl))] [Tg,Tn,Tr,Tu,Te,Tp,Tq,Ts]) ⟨rfl,PeerR.mk q1_ (show min now P.rows.length=min now rn by rw[q1_]) (show (P.used.drop (min now P.rows.length-P.ck)).length=un-(min now rn-ck) by rw[aaM,q3_,q1_,q2_]) q4_ q5_ hse_ hg hb hn hkv hr hrl hrr (by have h_:=hu.cut (k:=min now rn-ck) (h:=ul.length) (m:=uc) (by rw[hul];omega) (aaI _) hu.len (aaI _);rw[acm] at h_;exact h_) (by rw[aaM,hul]) (by show RwsT _ (P.used.drop (min now P.rows.length-P.ck)) _;rw[q1_,q2_];exact huu.drop _) he hel hee hse3_ hs hsc hsn hsb hpl (λ _ _ h_=>by cases h_)⟩
theorem Aj{pl:Nat}{kv:List (Int×Value×Nat)}{c:Nat}(h:PeerR rs_ ds_ bp pp pl me w S J P kv c sn X G){now:Nat}(h0:P.M.get 0=(now:Int))(Yp:P.ck<=min now P.rows.length)(hu1:min now P.rows.length-P.ck<=P.used.length)(UN:P.rows.length<=1000000)(YF:now<=1000000):aeo 34 #[vP pp 0] (ap [] [G]) F (λ u H'=>∃T9,H'=ap [] [T9]/\((λ u H'=>u=.tuple #[]/\PeerR rs_ ds_ bp pp pl me w S J (Ny P now) kv c sn none H') u T9)):=by
 rw[br];cases h with
 |mk q1_ q2_ q3_ q4_ q5_ hse_ hg hb hn hkv hr hrl hrr hu hul huu he hel hee hse3_ hs hsc hsn hsb hpl hX=>
  exact(Ai q1_ q2_ q3_ q4_ q5_ hse_ hg hb hn hkv hr hrl hrr hu hul huu he hel hee hse3_ hs hsc hsn hsb hpl hX h0 (by omega) (by omega) (by omega) YF).tl
end
section
variable {F G Te Tg Tn Tp Tq Ts Tu:HL} {J:Nat->Nat×Int} {M N:MemS} {P:PS (List Inp)} {S S2 S3:Setup} {T a bp ck ec gb lb m mb me pp rb rbk rc sg smb sn uc un w:Nat} {V:List (List Inp)} {X:Option (Rw×List Inp)} {c0 ms:List Int} {ds_:List Dr} {eA rA uA:Option Addr} {el rl ul:List Rw} {j:Nat×Int} {rs_:List Bx} {xs:List Inp} {ρ:Type}
def t6(w:Nat)(M:MemS)(a:Nat)(ms:List Int)(now:Nat):MemS×Nat×List Int:=if CY a ms=(now:Int) then (M,a,ms) else eo w M a ms now
theorem Lu{now:Nat}{P:PS ρ}:t6 w P.M P.a P.ms now=((d8 w P now).M,(d8 w P now).a,(d8 w P now).ms):=by
 unfold t6
 by_cases h:CY P.a P.ms=(now:Int)
 ·rw[if_pos h];have hse_:=w7.1 h;unfold d8;rw[if_pos hse_]
 ·rw[if_neg h];exact(NC λ hse_=>h (w7.2 hse_)).symm
theorem NV{now:Nat}(h:CY a ms=(now:Int)):t6 w M a ms now=(M,a,ms):=if_pos h
theorem QB{now:Nat}(h:¬ CY a ms=(now:Int)):t6 w M a ms now=eo w M a ms now:=if_neg h
theorem Lv{now:Nat}(hw:1<=w)(hr:∀k∈ms,M.base<=k/\k<=M.base+(M.lg.length:Int)):M.base<=(t6 w M a ms now).1.base/\(t6 w M a ms now).1.base+((t6 w M a ms now).1.lg.length:Int)=M.base+(M.lg.length:Int):=by
 unfold t6;split
 ·exact⟨acn _,rfl⟩
 ·unfold eo;dsimp only;split
  ·next h=>
   have hse_:=vA hr (i:=1) (by omega);generalize (ms++[M.base+(M.lg.length:Int)]).getD 1 0=v at hse_ ⊢;show M.base<=M.base+(((v-M.base).toNat:Nat):Int)/\M.base+(((v-M.base).toNat:Nat):Int)+((M.lg.drop (v-M.base).toNat).length:Int)=_;rw[aaM];omega
  ·exact⟨acn _,rfl⟩
theorem Lw{now:Nat}(h:j=J now)(hse_:SetEq S S2):(mr (gP S J) w P now xs).M=kP (Ay S2 j xs) (t6 w P.M P.a P.ms now).1:=by
 subst h;rw[NM hse_,Lu];rfl
theorem QC{now:Nat}(h:j=J now)(hse_:SetEq S S2):qL (gP S J now xs) (d8 w P now).M=qL (Ay S2 j xs) (t6 w P.M P.a P.ms now).1:=by
 subst h;rw[NN hse_,Lu]
theorem GE{g:Nat->List Inp->Gm}{now:Nat}{w2:Nat}:RingH rb mb w2 (mr g w P now xs).a (mr g w P now xs).ms=RingH rb mb w2 (t6 w P.M P.a P.ms now).2.1 (t6 w P.M P.a P.ms now).2.2:=by
 rw[Lu];rfl
theorem Ly{pl:Nat}{kv:List (Int×Value×Nat)}{c:Nat}{cl rn en:Nat}{Tr:HL}(q1_:P.rows.length=rn)(q2_:P.ck=ck)(q3_:P.used.length=un)(q4_:P.effs.length=en)(q5_:P.rb=rbk)(hse_:SetEq S S2)(hg:GameX rs_ ds_ bp gb mb S2 P.M 0 Tg)(hb:0<=P.M.base/\P.M.base+(P.M.lg.length:Int)<=20000*(c:Int))(hn:RingH rb mb w P.a P.ms Tn)(hkv:LocIn kv)(hr:SlIs jo 25 rl rA rc Tr)(hrl:rl.length=rn)(hrr:RwsT rl P.rows Tp)(hu:SlX jo 25 ul uA uc Tu)(hul:ul.length=un)(huu:RwsT ul P.used Tp)(he:SlIs jT 132 el eA ec Te)(hel:el.length=en)(hee:EfsT el P.effs Tq)(hse3_:SetEq S S3)(hs:GameX rs_ ds_ bp sg smb S3 N 99020000 Ts)(hsc:N.cs=WS S J P.rows sn)(hsn:sn<=rn)(hsb:0<=N.base/\N.base<=1000000*(sn:Int))(hpl:S.players=(pl:Int))(hX:∀p xs,X=some (p,xs)->∀F:HL,(∀y∈Tp,y∈F)->RwIn F xs p){now b:Nat} (o:Nat) {N1:Nat} (cc:Nat)(j:Nat×Int){full:List Inp} (xs:List Inp)(hjj:j=J now)(hI:(b,.rows 3 N1 (xP full) 24 (0,0))∈Tp)(hir:o+xs.length<=N1)(UL:xs.length<=1000000)(hx:∀k,k<xs.length->full.getD (o+k) dI=xs.getD k dI)(hp:∀F2:HL,(∀y∈Tp,y∈F2)->RwIn F2 xs ⟨some ⟨b,o*3,none⟩,xs.length,cc⟩)(h0:P.M.get 0=(now:Int))(hml:P.ms.length<=100000000)(hrg:P.ms≠[]->now=P.a+P.ms.length\/now+1=P.a+P.ms.length)(hmr:∀k∈P.ms,P.M.base<=k/\k<=P.M.base+(P.M.lg.length:Int))(hw:1<=w/\w<=13)(YF:now<=1000000)(ZM:c<=4000)(hj:j.1<5)(hA:AtOk F bp ((t6 w P.M P.a P.ms now).1.get 0) j)(hE:cU F)(hk:TkOk S2 j xs (t6 w P.M P.a P.ms now).1)(hun:un<=1000000)(hen:en<=1000000):aeo 33 #[vP pp 0,vS b (o*3) xs.length cc] (ap [(pp,.lit [vI (pl:Int),vI (me:Int),vI (w:Int),vP gb 0,vP rb 0,.map (some lb),.slice rA rn rc,vI (ck:Int),.slice uA un uc,.slice eA en ec,vI (rbk:Int),vP sg 0] 89 (0,0)),(lb,.obj (bn kv cl))] [Tg,Tn,Tr,Tu,Te,Tp,Tq,Ts]) F (λ u H'=>u=vI 0/\PeerR rs_ ds_ bp pp pl me w S J (mr (gP S J) w P now xs) kv (c+1) sn none H'):=by
 have amo:=Lv (w:=w) (now:=now) (a:=P.a) hw.1 hmr;refine QS Tryz.func33 mn<|OU 9<|aal (mu (pp:=pp) (rb:=rb) (lb:=lb) (sg:=sg) (pl:=pl) (me:=me) (w:=w) (rn:=rn) (rc:=rc) (ck:=ck) (un:=un) (uc:=uc) (en:=en) (ec:=ec) (rbk:=rbk) (rA:=rA) (uA:=uA) (eA:=eA) (aw 0) hg (ay 0) h0)<|OU 3<|aan (σ:=HL×HL) (λ ⟨Tn_,Tg_⟩=>⟨[(0,vP pp 0),(1,vS b (o*3) xs.length cc)],[(pp,.lit [vI (pl:Int),vI (me:Int),vI (w:Int),vP gb 0,vP rb 0,.map (some lb),.slice rA rn rc,vI (ck:Int),.slice uA un uc,.slice eA en ec,vI (rbk:Int),vP sg 0] 89 (0,0)),(lb,.obj (bn kv cl))],[Tn_,Tg_,Tr,Tu,Te,Tp,Tq,Ts],RingH rb mb w (t6 w P.M P.a P.ms now).2.1 (t6 w P.M P.a P.ms now).2.2 Tn_/\GameX rs_ ds_ bp gb mb S2 (t6 w P.M P.a P.ms now).1 0 Tg_,0⟩) ?_ ?_
 ·intro mt1;refine SO 6 [.o 0]<|aal (Ux hn (ay 1) hml)<|OU 4<|aar ((CY P.a P.ms)=(now:Int)) 18 (λ h2=>?_) λ h2=>?_
  ·refine ae 2 [] λ _=>mt1 (Tn,Tg) [0,1] [1,0,2,3,4,5,6,7] ?_
   try dsimp only
   rw[NV h2];exact⟨hn,hg⟩
  ·refine ae 8 [.o 0] λ _=>?_;have aiB:P.ms≠[]->now=P.a+P.ms.length:=λ e_=>(hrg e_).resolve_right λ h_=>h2 (w7.2 ⟨e_,by omega⟩);refine aam [] [1,0] (SJ hg hn aiB hmr (by omega) hw (by omega) hml) ?_;rintro _ ⟨T3,T4⟩ ⟨rfl,hn5,hg6⟩;dsimp only at hn5 hg6;refine ae 11 [] λ _=>mt1 (T3,T4) [0,1] [0,1,2,3,4,5,6,7] ?_
   try dsimp only
   rw[QB h2];exact⟨hn5,hg6⟩
 ·rintro⟨Tn_,Tg_⟩ ⟨WJ,hg_⟩;refine ae 8 [.o 0] λ _=>?_;have aji:=hg_.raise (k':=100000000-20000-(t6 w P.M P.a P.ms now).1.lg.length+20000) (by omega);refine aam [] [1] (Lc (c:=cc) aji hj (hA.mono λ x hx=>aC hx) (aC hE) (InB.rows ((ay 4) _ hI) hir hx) UL hk) ?_;rintro _ ⟨⟨A7,c8,n9⟩,W7,E11⟩ ⟨adz,Xp,rfl⟩;dsimp only at adz Xp;have al9:=adz.room;refine ae 28 [.o 0] λ n14=>RN.appX lC ul [(⟨some ⟨b,o*3,none⟩,xs.length,cc⟩:Rw)] 4 0 hul.symm hu (by simp;omega) ?_;rintro A15 c16 W6 ⟨XZ,acs⟩;refine ae 14 [.o 1,.o 1] λ Yy=>ez ox [(⟨A7,(qL (Ay S2 j xs) (t6 w P.M P.a P.ms now).1).length,c8⟩:Rw)] 5 0 hel.symm he (by simp;omega) ?_;rintro A21 c22 Z2 ⟨Zu,acr⟩;refine SO 10 [.o 2]<|uq [7,3,0,1,2,4,5,6,8]<|xL<|QV [] [2,3] [3,4,5,2,1,6,0,7] (vI 0) (ap [(pp,.lit [vI (pl:Int),vI (me:Int),vI (w:Int),vP gb 0,vP rb 0,.map (some lb),.slice rA rn rc,vI (ck:Int),.slice A15 (un+1) c16,.slice A21 (en+1) c22,vI (rbk:Int),vP sg 0] 89 (0,0)),(lb,.obj (bn kv cl))] [W7,Tn_,Tr,W6,Z2,Tp,(Tq++E11),Ts]) ⟨rfl,PeerR.mk (by rw[(gK (g:=gP S J) (w:=w) P now xs).1];exact q1_) (by rw[(gK (g:=gP S J) (w:=w) P now xs).2.2];exact q2_) (show (P.used++[xs]).length=un+1 by rw[aaK,q3_];rfl) (show (P.effs++[_]).length=en+1 by rw[aaK,q4_];rfl) (by rw[(gK (g:=gP S J) (w:=w) P now xs).2.1];exact q5_) hse_ (by rw[Lw hjj hse_];exact adz.weak (aaJ _)) (by rw[Lw hjj hse_];exact⟨by rw[zL];omega,by rw[zL];omega⟩) (by rw[GE];exact WJ) hkv hr hrl (by rw[(gK (g:=gP S J) (w:=w) P now xs).1];exact hrr) XZ (by simp[hul]) (huu.snocI λ F2 h_=>hp F2 h_) Zu (by simp[hel]) (by show EfsT _ (P.effs++[qL (gP S J now xs) (d8 w P now).M]) _;rw[QC hjj hse_];exact hee.snoc (by rw[hel,q4_]) Xp rfl) hse3_ hs (by rw[(gK (g:=gP S J) (w:=w) P now xs).1];exact hsc) hsn hsb hpl (λ _ _ h_=>by cases h_)⟩
theorem Cz{pl:Nat}{kv:List (Int×Value×Nat)}{c:Nat}(h:PeerR rs_ ds_ bp pp pl me w S J P kv c sn X G)(hF:∀x∈G,x∈F)(hln:∀k,k<P.used.length->(P.used.getD k []).length<=1000000)(UN:P.rows.length<=1000000)(Yp:P.ck<=1000000)(hun:P.used.length<=1000000):aen 30 #[vP pp 0] F (.tuple #[vI (((wr P.rows P.ck P.used).getD 0:Nat):Int),.bool (wr P.rows P.ck P.used).isSome]):=by
 cases h with
 |mk q1_ q2_ q3_ q4_ q5_ hse_ hg hb hn hkv hr hrl hrr hu hul huu he hel hee hse3_ hs hsc hsn hsb hpl hX=>
  subst q1_;subst q2_;subst q3_;exact Cv (hF _ (aaC _ aaD)) (by have h_:=hr.toRowL λ x hx=>hF x (by simp[ap,hx]);rwa [hrl] at h_) (hrr F λ x hx=>hF x (by simp[ap,hx])) (by have h_:=hu.toRowL λ x hx=>hF x (by simp[ap,hx]);rwa [hul] at h_) (huu F λ x hx=>hF x (by simp[ap,hx])) hln UN Yp hun
theorem PInv.ringAt{g:Nat->ρ->Gm}{P:PS ρ}{V:List ρ}(h:PInv g c0 w P V m)(e:P.ms≠[]):V.length=P.a+P.ms.length\/V.length+1=P.a+P.ms.length:=by
 rcases h.ring with ⟨h1,_⟩|⟨_,h1⟩
 ·exact absurd h1 e
 ·omega
theorem Lz{now:Nat}:(t6 w M a ms now).1.cs=M.cs:=by
 unfold t6;split
 ·rfl
 ·unfold eo;dsimp only;split <;> rfl
theorem LA{pl:Nat}{kv:List (Int×Value×Nat)}{c:Nat}{q:Rw}(h:PeerR rs_ ds_ bp pp pl me w S J P kv c sn (some (q,xs)) G)(hI:PInv (gP S J) (b8 S S.nb) w P V m)(hV:SetV S)(hvl:V.length<50)(hr0:∀r∈V,RowOk S.players r)(hxs:RowOk S.players xs)(hw:1<=w/\w<=12)(ZM:c<=4000)(Xe:∀i,i<=50->(J i).1<5/\AtOk F bp (i:Int) (J i))(hE:cU F){t:Nat}(ht:t=V.length):aeo 33 #[vP pp 0,.slice q.A q.n q.c] (ap [] [G]) F (λ u H'=>∃x,H'=ap [] [x]/\(u=vI 0/\PeerR rs_ ds_ bp pp pl me w S J (mr (gP S J) w P V.length xs) kv (c+1) sn none x)):=by
 subst ht;rw[br];have X4:=hV.pl;have hxl:=hxs.1;have ao2:P.used.length=V.length-P.ck:=by rw[hI.used,aaM]
 have Yt:=hI.len_cs;have hI3:=hI.room;cases h with
 |mk q1_ q2_ q3_ q4_ q5_ hse_ hg hb hn hkv hr hrl hrr hu hul huu he hel hee hse3_ hs hsc hsn hsb hpl hX=>
  have hte:=hI.te hV hse_ (by omega) hr0;have hp:=hX q xs rfl;have hx:=hp _ (λ y hy=>hy);cases hx with
  |mk b o N1 full cc hI1 hir hx1 hcap=>
   exact(Ly q1_ q2_ q3_ q4_ q5_ hse_ hg hb hn hkv hr hrl hrr hu hul huu he hel hee hse3_ hs hsc hsn hsb hpl hX o cc (J V.length) xs rfl hI1 hir (by omega) hx1 hp hte.t0 (by omega) (λ e_=>hI.ringAt e_) hI.marks ⟨hw.1,by omega⟩ (by omega) ZM (Xe _ (by omega)).1 (by rw[Cj (N:=P.M) Lz,hte.t0];exact(Xe _ (by omega)).2) hE ((hI.tk hV hse_ hvl hr0 hxs).cs Lz.symm) (by omega) (by omega)).tl
section
variable {S:Setup} {J:Nat->Nat×Int} {w m:Nat} {P:PS (List Inp)} {V:List (List Inp)}
theorem tC{g:Nat->List Inp->Gm}(rf:Nat->List Inp):∀ (n:Nat) (P:PS (List Inp)) (now:Nat),gw g w rf (n+1) P now=mr g w (gw g w rf n P now) (now+n) (rf (now+n))
 |0,_,_=>rfl
 |n+1,P,now=>by
  rw[gw,tC rf n];show mr g w (gw g w rf n (mr g w P now (rf now)) (now+1)) (now+1+n) (rf (now+1+n))=mr g w (gw g w rf (n+1) P now) (now+(n+1)) _;rw[show now+1+n=now+(n+1) by omega];rfl
theorem vL{rf:Nat->List Inp}:∀ (n now:Nat) {r:List Inp},r∈jL rf n now->∃t,r=rf t
 |0,_,_,h=>by cases h
 |n+1,now,r,h=>by
  rw[jL] at h;rcases abs.1 h with h|h
  ·exact⟨_,h⟩
  ·exact vL n (now+1) h
theorem PInv.loop{pl:Int}(h:PInv (gP S J) c0 w P V m)(hw:1<=w)(hT:T<=P.rows.length+w)(rf:Nat->List Inp)(hrf:∀t,RowOk pl (rf t))(hrc:∀t,t<P.rows.length->P.rows[t]?=some (rf t))(hV:∀r∈V,RowOk pl r){n1:Nat}(VE:fl P V.length=n1){P1:PS (List Inp)}(hP1:Go.Proofs.YtogafelgppjklaaGreatDoor.adv1 P=P1){i:Nat}(hi:n1+i<=T) :
  PInv (gP S J) c0 w (gw (gP S J) w rf i P1 n1) (V.take n1++jL rf i n1) (min (n1+i) P.rows.length)/\(V.take n1++jL rf i n1).length=n1+i/\(∀r∈V.take n1++jL rf i n1,RowOk pl r)/\(gw (gP S J) w rf i P1 n1).rows=P.rows:=by
 subst VE;subst hP1;obtain⟨k1,k2,k3,k4,k5⟩:=h.adv1;generalize Go.Proofs.YtogafelgppjklaaGreatDoor.adv1 P=P1 at *;generalize fl P V.length=n1 at *;have lV:(V.take n1).length=n1:=by rw[aaL];omega
 have hse3_:=p9 (g:=gP S J) hw rf i P1 (V.take n1) (by rw[lV,k2];exact k1) (by rw[lV,k2];omega) (by rw[k2];exact hrc);rw[lV,k2] at hse3_;refine⟨hse3_,by rw[aaK,p7,lV],λ r hr=>?_,(k8 (g:=gP S J) (w:=w) rf i P1 n1).1.trans k2⟩;rcases abM.1 hr with hr|hr
 ·exact hV r (List.mem_of_mem_take hr)
 ·obtain⟨t,rfl⟩:=vL _ _ hr;exact hrf t
theorem PInv.rollF{ρ:Type}[DecidableEq ρ]{g:Nat->ρ->Gm}{P:PS ρ}{V:List ρ}(h:PInv g c0 w P V m){x:Nat}(hx:wr P.rows P.ck P.used=some x):(P.a<=x/\x<P.a+P.ms.length)/\(P.M.base<=P.ms.getD (x-P.a) 0/\P.ms.getD (x-P.a) 0<=P.M.base+(P.M.lg.length:Int))/\(∀e∈P.M.lg.drop (P.ms.getD (x-P.a) 0-P.M.base).toNat,0<=e.1/\e.1<(P.M.cs.length:Int))/\P.ck<=x/\x-P.ck<=P.used.length/\x<=P.effs.length/\x<V.length:=by
 obtain⟨k1,k2,k3,k4,k5⟩:=wZ hx;have hu:=h.used;have h1:=h.mV;have hse_:=h.ck;have hse3_:=h.mR;have hl:=h.len_cs;have ku:P.used.length=V.length-P.ck:=by rw[hu,aaM]
 have hxV:x<V.length:=by omega
 have hmx:m<=x:=by
  rcases aaV x m with g_|VT
  ·exfalso;apply k5;rw[hu,abd,show P.ck+(x-P.ck)=x by omega];have:=congrArg (·[x]?) h.eq;simpa [abe,g_] using this
  ·exact VT
 have DO:P.ms≠[]:=by
  rcases h.ring with ⟨_,e⟩|⟨e,_⟩
  ·rw[e] at hxV;simp at hxV
  ·exact e
 have hba:=h.back DO;have hlen:x-P.a<P.ms.length:=by
  rcases h.ring with ⟨e,_⟩|⟨_,e|e⟩
  ·exact absurd e DO
  ·omega
  ·omega
 obtain⟨mk,XG⟩:∃mk,P.ms[x-P.a]?=some mk:=⟨_,aaP hlen⟩;have hr:=h.rst _ _ XG;have eg:P.ms.getD (x-P.a) 0=mk:=by rw[aaG,XG];rfl
 rw[eg];exact⟨by omega,⟨hr.lo,hr.hi⟩,hr.ent,k1,by omega,by omega,hxV⟩
theorem GG{ρ:Type}[DecidableEq ρ]{P:PS ρ}{x:Nat}(hx:wr P.rows P.ck P.used=some x):adv1 P=zQ P x:=by unfold adv1;rw[hx]
theorem GH{ρ:Type}[DecidableEq ρ]{P:PS ρ}(hx:wr P.rows P.ck P.used=none):adv1 P=P:=by unfold adv1;rw[hx]
end
theorem xm{pl:Nat}{kv:List (Int×Value×Nat)}{c:Nat}{cl rn en:Nat}{Tr:HL}(q1_:P.rows.length=rn)(q2_:P.ck=ck)(q3_:P.used.length=un)(q4_:P.effs.length=en)(q5_:P.rb=rbk)(hse_:SetEq S S2)(hg:GameX rs_ ds_ bp gb mb S2 P.M 0 Tg)(hb:0<=P.M.base/\P.M.base+(P.M.lg.length:Int)<=20000*(c:Int))(hn:RingH rb mb w P.a P.ms Tn)(hkv:LocIn kv)(hr:SlIs jo 25 rl rA rc Tr)(hrl:rl.length=rn)(hrr:RwsT rl P.rows Tp)(hu:SlX jo 25 ul uA uc Tu)(hul:ul.length=un)(huu:RwsT ul P.used Tp)(he:SlIs jT 132 el eA ec Te)(hel:el.length=en)(hee:EfsT el P.effs Tq)(hse3_:SetEq S S3)(hs:GameX rs_ ds_ bp sg smb S3 N 99020000 Ts)(hsc:N.cs=WS S J P.rows sn)(hsn:sn<=rn)(hsb:0<=N.base/\N.base<=1000000*(sn:Int))(hpl:S.players=(pl:Int))(hX:∀p xs,X=some (p,xs)->∀F:HL,(∀y∈Tp,y∈F)->RwIn F xs p)(hI:PInv (gP S J) (b8 S S.nb) w P V m)(hV:SetV S)(hVr:∀r∈V,RowOk S.players r)(V5:∀r∈P.rows,RowOk S.players r)(Yl:me<pl)(hw:1<=w/\w<=12)(UN:rn<50)(hvn:V.length<50)(ZM:c<=3900)(Zx:P.rb<=1000)(Xe:∀i,i<=50->(J i).1<5/\AtOk F bp (i:Int) (J i))(hE:cU F){tt:Int}(adh:tt<(V.length:Int)\/tt>(P.rows.length:Int)+(w:Int)):aeo 10 #[vP pp 0,vI tt] (ap [(pp,.lit [vI (pl:Int),vI (me:Int),vI (w:Int),vP gb 0,vP rb 0,.map (some lb),.slice rA rn rc,vI (ck:Int),.slice uA un uc,.slice eA en ec,vI (rbk:Int),vP sg 0] 89 (0,0)),(lb,.obj (bn kv cl))] [Tg,Tn,Tr,Tu,Te,Tp,Tq,Ts]) F (λ u H'=>u=.tuple #[vI 0,vI 18]/\PeerR rs_ ds_ bp pp pl me w S J P kv c sn none H'):=by
 have afo:=hV.pl;have abv:=hI.used;have ako:=hI.len_cs;have akk:=hI.win;have akl:=hI.room;have akn:=hI.ck;have akm:=hI.mV;have ae2:P.used.length=V.length-P.ck:=by rw[abv,aaM]
 have h0:=(hI.te hV (om S) (by omega) hVr).t0;refine QS Tryz.func10 mn<|OU 8<|aap [] []<|aem [0,1]<|aae [] 2 (λ X_=>(mu (pp:=pp) (rb:=rb) (lb:=lb) (sg:=sg) (pl:=pl) (me:=me) (w:=w) (rn:=rn) (rc:=rc) (ck:=ck) (un:=un) (uc:=uc) (en:=en) (ec:=ec) (rbk:=rbk) (rA:=rA) (uA:=uA) (eA:=eA) (fD 0) hg (aY 0) h0))<|aem [3,4]<|RD.em (tt<(V.length:Int)) 16 (λ h1=>?_) λ h1=>?_
 ·refine aem [5,6,8,7,9,10,11,12,13]<|aem [14,15]<|Q2 8<|QV [] [0,1] [0,1,2,3,4,5,6,7] (.tuple #[vI 0,vI 18]) (ap [(pp,.lit [vI (pl:Int),vI (me:Int),vI (w:Int),vP gb 0,vP rb 0,.map (some lb),.slice rA rn rc,vI (ck:Int),.slice uA un uc,.slice eA en ec,vI (rbk:Int),vP sg 0] 89 (0,0)),(lb,.obj (bn kv cl))] [Tg,Tn,Tr,Tu,Te,Tp,Tq,Ts]) ⟨rfl,PeerR.mk q1_ q2_ q3_ q4_ q5_ hse_ hg hb hn hkv hr hrl hrr hu hul huu he hel hee hse3_ hs hsc hsn hsb hpl (λ _ _ h_=>by cases h_)⟩
 ·refine ag [] [5,6,8,9,10,11] [.o 0]<|aae [] 7 (λ X_=>(iV (pp:=pp) (gb:=gb) (rb:=rb) (lb:=lb) (sg:=sg) (pl:=pl) (me:=me) (w:=w) (rn:=rn) (rc:=rc) (ck:=ck) (un:=un) (uc:=uc) (en:=en) (ec:=ec) (rbk:=rbk) (rA:=rA) (uA:=uA) (eA:=eA) (fD 0)))<|aA [] [12,13] [.nw] [aI ((rn:Int)+(w:Int))]<|gT 25 (congrArg (λ v_=>(vI v_:Value)) (show (if 6000<(rn:Int)+(w:Int) then 6000 else (rn:Int)+(w:Int))=(rn:Int)+(w:Int) from if_neg (by omega)))<|aem [14,15]<|Q2 1<|aaq (tt>(rn:Int)+(w:Int)) 27 (λ h2=>?_) λ h2=>?_
  ·refine OU 7<|QV [] [0,1] [0,1,2,3,4,5,6,7] (.tuple #[vI 0,vI 18]) (ap [(pp,.lit [vI (pl:Int),vI (me:Int),vI (w:Int),vP gb 0,vP rb 0,.map (some lb),.slice rA rn rc,vI (ck:Int),.slice uA un uc,.slice eA en ec,vI (rbk:Int),vP sg 0] 89 (0,0)),(lb,.obj (bn kv cl))] [Tg,Tn,Tr,Tu,Te,Tp,Tq,Ts]) ⟨rfl,PeerR.mk q1_ q2_ q3_ q4_ q5_ hse_ hg hb hn hkv hr hrl hrr hu hul huu he hel hee hse3_ hs hsc hsn hsb hpl (λ _ _ h_=>by cases h_)⟩
  ·(exfalso;omega)
theorem LB{pl:Nat}{kv:List (Int×Value×Nat)}{c:Nat}(h:PeerR rs_ ds_ bp pp pl me w S J P kv c sn X G)(hI:PInv (gP S J) (b8 S S.nb) w P V m)(hV:SetV S)(hVr:∀r∈V,RowOk S.players r)(V5:∀r∈P.rows,RowOk S.players r)(Yl:me<pl)(hw:1<=w/\w<=12)(UN:P.rows.length<50)(hvn:V.length<50)(ZM:c<=3900)(Zx:P.rb<=1000)(Xe:∀i,i<=50->(J i).1<5/\AtOk F bp (i:Int) (J i))(hE:cU F)(tt:Int)(adh:tt<(V.length:Int)\/tt>(P.rows.length:Int)+(w:Int)):aeo 10 #[vP pp 0,vI tt] (ap [] [G]) F (λ u H'=>∃x,H'=ap [] [x]/\((λ u H'=>u=.tuple #[vI 0,vI 18]/\PeerR rs_ ds_ bp pp pl me w S J P kv c sn none H') u x)):=by
 rw[br];cases h with
 |mk q1_ q2_ q3_ q4_ q5_ hse_ hg hb hn hkv hr hrl hrr hu hul huu he hel hee hse3_ hs hsc hsn hsb hpl hX=>
  exact(xm q1_ q2_ q3_ q4_ q5_ hse_ hg hb hn hkv hr hrl hrr hu hul huu he hel hee hse3_ hs hsc hsn hsb hpl hX hI hV hVr V5 Yl hw (by omega) hvn ZM Zx Xe hE adh).tl
theorem Ak{pl:Nat}{kv:List (Int×Value×Nat)}{c:Nat}{cl rn en:Nat}{Tr:HL}(q1_:P.rows.length=rn)(q2_:P.ck=ck)(q3_:P.used.length=un)(q4_:P.effs.length=en)(q5_:P.rb=rbk)(hse_:SetEq S S2)(hg:GameX rs_ ds_ bp gb mb S2 P.M 0 Tg)(hb:0<=P.M.base/\P.M.base+(P.M.lg.length:Int)<=20000*(c:Int))(hn:RingH rb mb w P.a P.ms Tn)(hkv:LocIn kv)(hr:SlIs jo 25 rl rA rc Tr)(hrl:rl.length=rn)(hrr:RwsT rl P.rows Tp)(hu:SlX jo 25 ul uA uc Tu)(hul:ul.length=un)(huu:RwsT ul P.used Tp)(he:SlIs jT 132 el eA ec Te)(hel:el.length=en)(hee:EfsT el P.effs Tq)(hse3_:SetEq S S3)(hs:GameX rs_ ds_ bp sg smb S3 N 99020000 Ts)(hsc:N.cs=WS S J P.rows sn)(hsn:sn<=rn)(hsb:0<=N.base/\N.base<=1000000*(sn:Int))(hpl:S.players=(pl:Int))(hX:∀p xs,X=some (p,xs)->∀F:HL,(∀y∈Tp,y∈F)->RwIn F xs p)(hI:PInv (gP S J) (b8 S S.nb) w P V m)(hV:SetV S)(hVr:∀r∈V,RowOk S.players r)(V5:∀r∈P.rows,RowOk S.players r)(Yl:me<pl)(hw:1<=w/\w<=12)(UN:rn<50)(hvn:V.length<50)(ZM:c<=3900)(Zx:P.rb<=1000)(Xe:∀i,i<=50->(J i).1<5/\AtOk F bp (i:Int) (J i))(hE:cU F)(hT1:V.length<=T)(hT2:T<=P.rows.length+w)(hT3:T<50):aeo 10 #[vP pp 0,vI (T:Int)] (ap [(pp,.lit [vI (pl:Int),vI (me:Int),vI (w:Int),vP gb 0,vP rb 0,.map (some lb),.slice rA rn rc,vI (ck:Int),.slice uA un uc,.slice eA en ec,vI (rbk:Int),vP sg 0] 89 (0,0)),(lb,.obj (bn kv cl))] [Tg,Tn,Tr,Tu,Te,Tp,Tq,Ts]) F (λ u H'=>∃x:HL,H'=ap [] [x]/\(u=.tuple #[vI ((T-fl P V.length:Nat):Int),vI 0]/\PeerR rs_ ds_ bp pp pl me w S J (Cn (gP S J) w P V.length T (ig pl me P.rows (jz kv))) kv (c+(T-fl P V.length)) sn none x)):=by
 have h:PeerR rs_ ds_ bp pp pl me w S J P kv c sn none (ap [(pp,.lit [vI (pl:Int),vI (me:Int),vI (w:Int),vP gb 0,vP rb 0,.map (some lb),.slice rA rn rc,vI (ck:Int),.slice uA un uc,.slice eA en ec,vI (rbk:Int),vP sg 0] 89 (0,0)),(lb,.obj (bn kv cl))] [Tg,Tn,Tr,Tu,Te,Tp,Tq,Ts]):=PeerR.mk q1_ q2_ q3_ q4_ q5_ hse_ hg hb hn hkv hr hrl hrr hu hul huu he hel hee hse3_ hs hsc hsn hsb hpl (λ _ _ h_=>by cases h_);obtain⟨G,eG⟩:∃G,G=ap [(pp,.lit [vI (pl:Int),vI (me:Int),vI (w:Int),vP gb 0,vP rb 0,.map (some lb),.slice rA rn rc,vI (ck:Int),.slice uA un uc,.slice eA en ec,vI (rbk:Int),vP sg 0] 89 (0,0)),(lb,.obj (bn kv cl))] [Tg,Tn,Tr,Tu,Te,Tp,Tq,Ts]:=⟨_,rfl⟩;rw[<- eG] at h;have afo:=hV.pl;have abv:=hI.used;have ako:=hI.len_cs;have akk:=hI.win;have akl:=hI.room;have akn:=hI.ck;have akm:=hI.mV;have ae2:P.used.length=V.length-P.ck:=by rw[abv,aaM]
 have h0:=(hI.te hV (om S) (by omega) hVr).t0;have aiY:∀k,k<P.used.length->(P.used.getD k []).length<=1000000:=λ k hk=>by have h_:=(hVr _ (List.mem_of_mem_drop (by rw[<- abv];exact jK hk []))).1;omega
 obtain⟨k1,k2,k3,k4,k5⟩:=hI.adv1;obtain⟨n1,VE⟩:∃n,fl P V.length=n:=⟨_,rfl⟩;obtain⟨P1,hP1⟩:∃p,adv1 P=p:=⟨_,rfl⟩;rw[VE] at k1 k3 k4 k5;rw[hP1] at k1 k2 k5;have afc:∀t,RowOk S.players ((ig pl me P.rows (jz kv)) t):=λ t=>by rw[hpl];exact D2 (by rw[<- hpl];exact V5) (λ t x e=>hkv.ok e) t
 refine QS Tryz.func10 mn<|OU 8<|aap [] []<|aem [0,1]<|aae [] 2 (λ X_=>(mu (pp:=pp) (rb:=rb) (lb:=lb) (sg:=sg) (pl:=pl) (me:=me) (w:=w) (rn:=rn) (rc:=rc) (ck:=ck) (un:=un) (uc:=uc) (en:=en) (ec:=ec) (rbk:=rbk) (rA:=rA) (uA:=uA) (eA:=eA) (fD 0) hg (aY 0) h0))<|aem [3,4]<|RD.em ((T:Int)<(V.length:Int)) 16 (λ h1=>?_) λ h1=>?_
 ·(exfalso;omega)
 ·refine ag [] [5,6,8,9,10,11] [.o 0]<|aae [] 7 (λ X_=>(iV (pp:=pp) (gb:=gb) (rb:=rb) (lb:=lb) (sg:=sg) (pl:=pl) (me:=me) (w:=w) (rn:=rn) (rc:=rc) (ck:=ck) (un:=un) (uc:=uc) (en:=en) (ec:=ec) (rbk:=rbk) (rA:=rA) (uA:=uA) (eA:=eA) (fD 0)))<|aA [] [12,13] [.nw] [aI ((rn:Int)+(w:Int))]<|gT 25 (congrArg (λ v_=>(vI v_:Value)) (show (if 6000<(rn:Int)+(w:Int) then 6000 else (rn:Int)+(w:Int))=(rn:Int)+(w:Int) from if_neg (by omega)))<|aem [14,15]<|Q2 1<|aaq ((T:Int)>(rn:Int)+(w:Int)) 27 (λ h2=>?_) λ h2=>?_
  ·(exfalso;omega)
  ·refine OU 5<|NS eG<|OU 2<|aal (Cz h (ay 0) aiY (by omega) (by omega) (by omega))<|OU 7<|aan (σ:=HL) (λ G_=>⟨[(0,vP pp 0),(1,vI (T:Int))],[],[G_],PeerR rs_ ds_ bp pp pl me w S J P1 kv c sn none G_,0⟩) ?_ ?_
   ·intro OF;refine OU 5<|cP ((wr P.rows P.ck P.used).isSome) 33 (λ h4=>?_) λ h4=>?_
    ·refine ae 5 [] λ _=>?_;obtain⟨x_,UD⟩:=aco.1 h4;obtain⟨r1_,r2_,r3_,r4_,r5_,r6_,r7_⟩:=hI.rollF UD;obtain rfl:x_=(wr P.rows P.ck P.used).getD 0:=by rw[UD];rfl
     refine aam [] [0] (Cy (x:=(wr P.rows P.ck P.used).getD 0) h r1_ (by omega) (by omega) r2_ r3_ (by omega) r4_ r5_ r6_ (by omega)) ?_;rintro _ T5 ⟨rfl,hr6⟩;refine ae 11 [] λ _=>OF T5 [] [0] ?_
     try dsimp only
     rw[<- hP1,GG UD];exact hr6
    ·refine ae 2 [] λ _=>OF G [] [0] ?_
     try dsimp only
     rw[<- hP1,GH (Option.not_isSome_iff_eq_none.1 h4)];exact h
   ·rintro G_ hG_;refine OU 15<|aat (σ:=Nat×HL) (λ ⟨i_,G_⟩=>⟨[(0,vP pp 0),(1,vI (T:Int)),(9,.func (.func 32) #[vP pp 0] #[]),(10,vI (i_:Int))],[],[G_],n1+i_<=T/\PeerR rs_ ds_ bp pp pl me w S J (gw (gP S J) w (ig pl me P.rows (jz kv)) i_ P1 n1) kv (c+i_) sn none G_,T-n1-i_⟩) (0,G_) [] [0] (⟨by omega,hG_⟩) ?_;rintro⟨i_,G_⟩ ⟨hi_,hG_⟩ Zd;obtain⟨li1,li2,li3,li4⟩:=hI.loop hw.1 hT2 (ig pl me P.rows (jz kv)) (λ t=>afc t) (λ t ht=>vE ht) hVr VE hP1 (i:=i_) hi_;obtain⟨Vi,hVi⟩:∃v,V.take n1++jL (ig pl me P.rows (jz kv)) i_ n1=v:=⟨_,rfl⟩;rw[hVi] at li1 li2 li3;have aie:=li1.te hV (om S) (by omega) li3;have adC:(gw (gP S J) w (ig pl me P.rows (jz kv)) i_ P1 n1).M.get 0=((n1+i_:Nat):Int):=by rw[aie.t0,li2]
    refine OU 4<|aal (OO hG_ (ay 0) adC)<|OU 4<|aaq (((n1+i_:Nat):Int)<(T:Int)) 45 (λ h9=>?_) λ h9=>?_
    ·refine OU 10<|aal (OO hG_ (ay 0) adC)<|aam [] [0] (Lt hG_ (t:=n1+i_) (by rw[li4,<- hpl];exact V5) (by rw[li4];omega) (by omega) (by omega) Yl) ?_;rintro _ ⟨P_,UQ⟩ ⟨rfl,acJ⟩;dsimp only at acJ;rw[li4] at acJ;refine aam [] [0] (LA (V:=Vi) acJ li1 hV (by omega) li3 (afc _) hw (by omega) (λ i hi=>⟨(Xe i hi).1,(Xe i hi).2.mono λ x hx=>aC hx⟩) (aC hE) rfl) ?_;rintro _ WC ⟨rfl,aa1⟩;rw[li2] at aa1;refine ah 18 [.gen,.nw] [aI ((i_:Int)+1)] λ _=>Zd (i_+1,WC) [] [0] ?_
     try dsimp only
     refine⟨⟨by omega,?_⟩,by omega⟩;rw[tC];exact aa1
    ·refine OU 9<|aam [] [0] (Aj hG_ (now:=n1+i_) adC (by rw[li4];exact li1.ck) (by rw[li4,li1.used,aaM,li2];omega) (by rw[li4];omega) (by omega)) ?_;rintro _ VN ⟨rfl,YE⟩;refine OU 9<|QV [] [] [0] (.tuple #[vI (i_:Int),vI 0]) (ap [] [VN]) ?_;obtain rfl:i_=T-n1:=by omega
     refine⟨VN,rfl,by rw[VE],?_⟩;unfold Cn;rw[VE,hP1];rw[show n1+(T-n1)=T by omega] at YE;exact YE
theorem xn{pl:Nat}{kv:List (Int×Value×Nat)}{c:Nat}(h:PeerR rs_ ds_ bp pp pl me w S J P kv c sn X G)(hI:PInv (gP S J) (b8 S S.nb) w P V m)(hV:SetV S)(hVr:∀r∈V,RowOk S.players r)(V5:∀r∈P.rows,RowOk S.players r)(Yl:me<pl)(hw:1<=w/\w<=12)(UN:P.rows.length<50)(hvn:V.length<50)(ZM:c<=3900)(Zx:P.rb<=1000)(Xe:∀i,i<=50->(J i).1<5/\AtOk F bp (i:Int) (J i))(hE:cU F)(T:Nat)(hT1:V.length<=T)(hT2:T<=P.rows.length+w)(hT3:T<50):aeo 10 #[vP pp 0,vI (T:Int)] (ap [] [G]) F (λ u H'=>∃x:HL,H'=ap [] [x]/\(u=.tuple #[vI ((T-fl P V.length:Nat):Int),vI 0]/\PeerR rs_ ds_ bp pp pl me w S J (Cn (gP S J) w P V.length T (ig pl me P.rows (jz kv))) kv (c+(T-fl P V.length)) sn none x)):=by
 rw[br];cases h with
 |mk q1_ q2_ q3_ q4_ q5_ hse_ hg hb hn hkv hr hrl hrr hu hul huu he hel hee hse3_ hs hsc hsn hsb hpl hX=>
  exact(Ak q1_ q2_ q3_ q4_ q5_ hse_ hg hb hn hkv hr hrl hrr hu hul huu he hel hee hse3_ hs hsc hsn hsb hpl hX hI hV hVr V5 Yl hw (by omega) hvn ZM Zx Xe hE hT1 hT2 hT3)
end
section
variable {A:Option Addr} {F G:HL} {J:Nat->Nat×Int} {P:PS (List Inp)} {S:Setup} {b bp me n pp:Nat} {ds ds_:List Dr} {rs rs_:List Bx} {ts:List Int} {xs:List Inp}
def mI:List Ins:=[⟨2,0⟩,⟨1,1⟩,⟨9,0⟩,⟨3,0⟩,⟨1,3⟩,⟨2,0⟩,⟨15,0⟩,⟨19,14⟩,⟨1,1⟩,⟨2,0⟩,⟨20,0⟩,⟨1,0⟩,⟨3,0⟩,⟨18,14⟩,⟨21,0⟩]
abbrev SK(k:Nat):Ins:=mI.getD k dIns
theorem NW:∀k,k<15->wV[k*2]?=some (vI (SK k).op)/\wV[k*2+1]?=some (vI (SK k).n):=by
 intro k hk
 iterate 15 (rcases k with _|k;· exact⟨rfl,rfl⟩)
 omega
theorem NX{cb:Nat}{rc:List Value}(h:(cb,.lit (wV++rc) 212 (0,0))∈F):InsB F cb 0 15 SK:=by
 intro w hw k hk j v hj;have h1:=NW k hk;have hl:wV.length=30:=rfl;have YK:j<2:=by have:=(bt.1 hj).1;simpa using this
 refine oC (hw _ h) rfl rfl ?_;show (wV++rc)[0+k*2+j]?=some v;rw[aaQ (by omega),abp,<- hj];rcases j with _|_|j
 ·exact h1.1
 ·exact h1.2
 ·omega
structure MdR where
 tb:Nat
 tc:Nat
 pb:Nat
 pc:Nat
 cb:Nat
 cc:Nat
 rt:List Value
 rp:List Value
def SL(x:MdR)(F:HL):Prop:=(x.tb,.lit (vI 0::vI 3::x.rt) 3 (0,0))∈F/\(x.pb,.lit (vS x.cb 0 15 x.cc::vI (-1)::vI 0::vI (-1)::x.rp) 111 (0,0))∈F/\InsB F x.cb 0 15 SK
theorem pq:aeo 9 #[vI 1,vI 1] (ap [] []) F (λ u H'=>∃x:MdR×HL,H'=ap [] [x.2]/\(u=.agg #[vS x.1.tb 0 2 x.1.tc,vS x.1.pb 0 2 x.1.pc]/\∀F2:HL,(∀y∈x.2,y∈F2)->SL x.1 F2)):=by
 refine(GB (F:=F)).mono λ u H' hq=>?_;obtain⟨tb,pb,cb,tc,pc,cc,rt,rp,rc,rfl,rfl⟩:=hq;exact⟨(⟨tb,tc,pb,pc,cb,cc,rt,rp⟩,_),(br).symm,rfl,λ F2 h=>⟨h _ aaD,h _ (aaE _ aaD),NX (rc:=rc) (h _ (aaE _ (aaE _ aaD)))⟩⟩
theorem UB(h:RowB F A n λ k=>xs.getD k dI)(hx:xs.length=n):∃fx:List Inp,fx.length=min n 5/\RowB F A fx.length λ k=>fx.getD k dI:=by
 refine⟨xs.take 5,by rw[aaL];omega,?_⟩;rcases h with h|⟨b,a,rfl,hI⟩
 ·left;rw[aaL];omega
 ·refine .inr ⟨b,a,rfl,λ w hw k hk=>?_⟩;rw[aaL] at hk;have e:(xs.take 5).getD k dI=xs.getD k dI:=by rw[aaG,aaG,abe,if_pos (by omega)]
  show w.rangeAt b (a+k*3) [vI ((xs.take 5).getD k dI).dx,vI ((xs.take 5).getD k dI).dy,vI ((xs.take 5).getD k dI).act];rw[e];exact hI w hw k (by omega)
theorem NY(hp:1<=S.players):RefL S (b8 S S.nb):=⟨0,0,0,⟨kF (by omega) (by omega) _ (aaI _),kF (by omega) (by omega) _ (aaI _),kF (by omega) (by omega) _ (aaI _)⟩,by unfold cJ;omega⟩
abbrev P0S(S:Setup):PS (List Inp):=⟨⟨b8 S S.nb,[],0⟩,0,[],[],0,[],[],0⟩
theorem SN{pl:Nat}(h:PeerR rs_ ds_ bp pp pl 0 4 S J (P0S S) ([]) 0 0 none G)(hV:SetV S)(hpl:S.players=(pl:Int))(Xe:∀i,i<=50->(J i).1<5/\AtOk F bp (i:Int) (J i))(hE:cU F):aeo 10 #[vP pp 0,vI 2] (ap [] [G]) F (λ u H'=>∃x:(PS (List Inp)×Nat×Int)×HL,H'=ap [] [x.2]/\(u=.tuple #[vI x.1.2.2,vI 0]/\x.1.1.rows.length=0/\PeerR rs_ ds_ bp pp pl 0 4 S J x.1.1 ([]) x.1.2.1 0 none x.2)):=by
 have hp:=hV.pl;refine(xn h (V:=[]) (m:=0) (tn ⟨b8 S S.nb,[],0⟩ 0) hV (λ r hr=>by cases hr) (λ r hr=>by cases hr) (by omega) (by decide) (show 0<50 by decide) (by decide) (by decide) (show 0<=1000 by decide) Xe hE 2 (by decide) (show 2<=0+4 by decide) (by decide)).mono λ u H' hq=>?_;obtain⟨x,rfl,rfl,hx⟩:=hq;exact⟨((_,_,_),x),rfl,rfl,congrArg List.length ((k8 (g:=gP S J) (w:=4) _ _ _ _).1.trans rfl),hx⟩
def UC(p n:Int):Int:=i64.wrap ((i64.wrap ((i64.wrap ((i64.wrap ((i64.wrap (p+(i64.wrap ((i64.wrap ((i64.wrap (p+1))+n))*(i64.wrap (60+3))))))+(i64.wrap (2*n))))+3))+(i64.wrap ((i64.wrap ((i64.wrap (1*n))*(i64.wrap (n-1)))).tdiv 2))))+(i64.wrap (n*(i64.wrap (n+1)))))
theorem LC(hV:SetV S)(hf:S.fuel=60):0<=eV (S.rd 1)/\eV (S.rd 1)<=1000000:=by
 have e:eV (S.rd 1)=UC S.players (S.nb:Int):=by
  have h:(S.rd 1).fuel=60:=hf;unfold eV;rw[h];rfl
 have h1:=hV.pl;have h3:=hV.nb;rcases(show S.players=1\/S.players=2\/S.players=3 by omega) with h|h|h <;> rcases(show (S.nb:Int)=1\/(S.nb:Int)=2\/(S.nb:Int)=3\/(S.nb:Int)=4\/(S.nb:Int)=5 by omega) with h2|h2|h2|h2|h2 <;> rw[e,h,h2] <;> decide
section
variable {rs_:List Bx} {ds_:List Dr} {bp pp pl:Nat} {S:Setup} {J:Nat->Nat×Int} {P:PS (List Inp)} {kv:List (Int×Value×Nat)} {c:Nat} {G F:HL}
theorem LD(h:PeerR rs_ ds_ bp pp pl 0 4 S J P kv c 0 none G){rn:Nat}(hr:P.rows.length=rn)(ht:Tie rn kv ts)(x:Inp)(t e:Int)(he:gl x t rn ts=e):aeo 14 #[vP pp 0,vI t,.agg #[vI x.dx,vI x.dy,vI x.act]] (ap [] [G]) F (λ u H'=>∃x_:List (Int×Value×Nat)×HL,H'=ap [] [x_.2]/\(u=vI e/\PeerR rs_ ds_ bp pp pl 0 4 S J P x_.1 c 0 none x_.2/\Tie rn x_.1 (if e=0 then ts++[t] else ts))):=by
 subst hr;have key:aeo 14 #[vP pp 0,vI t,.agg #[vI x.dx,vI x.dy,vI x.act]] (ap [] [G]) F (λ u H'=>∃T9,H'=ap [] [T9]/\∃k:List (Int×Value×Nat),u=vI (iA x t P.rows.length kv)/\PeerR rs_ ds_ bp pp pl 0 4 S J P k c 0 none T9/\∀j,xe k j↔xe kv j\/(iA x t P.rows.length kv=0/\j=t)):=by
  by_cases hx:cS x
  ·exact Af h hx
  ·exact Ah h hx
 refine key.mono λ u H' hq=>?_;obtain⟨T9,rfl,k,rfl,h2,h3⟩:=hq;exact⟨(k,T9),rfl,by rw[ht.same,he],h2,by have h4:=ht.add h3 rfl;rwa [he] at h4⟩
theorem LE(h:PeerR rs_ ds_ bp pp pl 0 4 S J P kv c 0 none G){rn:Nat}(hr:P.rows.length=rn)(ht:Tie rn kv ts){cc:Nat}(hl:RowB F A n λ k=>xs.getD k dI)(U2:xs.length=n)(hn2:n<=1000)(hpl:S.players=(pl:Int))(X4:1<=pl)(UN:rn<=5000)(tq e:Int)(he:f5 S.players n xs tq rn=e):aeo 16 #[vP pp 0,vI tq,.slice A n cc] (ap [] [G]) F (λ u H'=>∃x_:(PS (List Inp)×List (Int×Value×Nat))×HL,H'=ap [] [x_.2]/\(u=vI e/\PeerR rs_ ds_ bp pp pl 0 4 S J x_.1.1 x_.1.2 c 0 none x_.2/\x_.1.1.rows.length=(if e=0 then rn+1 else rn)/\Tie (if e=0 then rn+1 else rn) x_.1.2 ts)):=by
 subst hr;rw[hpl] at he;refine(Cu h (tq:=tq) (cc:=cc) hl U2.symm hn2 X4 UN).mono λ u H' hq=>?_;obtain⟨T9,rfl,⟨P2,kv2⟩,rfl,h2,h3,h4⟩:=hq;dsimp only at h2 h3 h4;rw[he] at h3 h4 ⊢;refine⟨((P2,kv2),T9),rfl,rfl,h2,?_,ht.con rfl (λ h0=>(h3 h0).2) λ h0=>(h4 h0).2⟩;split
 ·next h0=>rw[(h3 h0).1];show (P.rows++[xs]).length=_;rw[aaK];rfl
 ·next h0=>rw[(h4 h0).1]
end
structure LX where
 P:PS (List Inp)
 kv:List (Int×Value×Nat)
 c:Nat
 A:Option Addr
 A2:Option Addr
 A3:Option Addr
 m:Nat
 c1:Nat
 c2:Nat
 rn:Nat
 c3:Nat
 ts:List Int
 ls:List Inp
 rl:List Rw
 G:HL
 T1:HL
 T2:HL
 T3:HL
structure LOk(rs_:List Bx)(ds_:List Dr)(bp pp pl:Nat)(S:Setup)(J:Nat->Nat×Int)(x:LX)(i:Nat):Prop where
 pr:PeerR rs_ ds_ bp pp pl 0 4 S J x.P x.kv x.c 0 none x.G
 rows:x.P.rows.length=x.rn
 tie:Tie x.rn x.kv x.ts
 ts:SlIs bD 3 x.ts x.A x.c1 x.T1
 ls:SlIs bS 24 x.ls x.A2 x.c2 x.T2
 nt:x.ts.length=x.m
 nl:x.ls.length=x.m
 rl:SlIs jo 25 x.rl x.A3 x.c3 x.T3
 nr:x.rl.length=x.rn
 m9:x.m<=i
 r9:x.rn<=i
theorem Al(bp:Nat) {pl w:Nat}(J:Nat->Nat×Int)(hS:SetCl F S)(hM:MapIn F S rs ds)(h1:1<=S.nb)(UN:S.rn<=1000000)(Yd:S.dn<=1000000)(RW:(sizeOf S).toNat<=1000000)(hv:gq S rs ds=0)(hpl:S.players=(pl:Int))(Yl:me<pl)(hw:1<=w/\w<=12):aeo 7 #[(Setup.v S),vP bp 0,vI (me:Int),vI (w:Int)] [] F (λ u H'=>∃x:Nat×HL,H'=ap [] [x.2]/\(u=vP x.1 0/\PeerR rs ds bp x.1 pl me w S J (⟨⟨b8 S S.nb,[],0⟩,0,[],[],0,[],[],0⟩:PS (List Inp)) ([]) 0 0 none x.2)):=by
 refine QT Tryz.func7<|ae 22 (ow 0 16) λ n1=>SP (qF bp me w J hS.up hM.up h1 UN Yd RW hv hpl Yl hw) ?_;rintro _ ⟨p2,T3⟩ ⟨rfl,hr4⟩;dsimp only at hr4;refine ae 23 [] λ _=>aav [] [] [0] (v:=vP p2 0) ⟨(p2,T3),rfl,rfl,hr4⟩
theorem mv(bp pl me w:Nat)(J:Nat->Nat×Int)(hS:SetCl F S)(hM:MapIn F S rs ds)(h1:1<=S.nb)(UN:S.rn<=1000000)(Yd:S.dn<=1000000)(RW:(sizeOf S).toNat<=1000000)(hv:gq S rs ds=0)(hpl:S.players=(pl:Int))(Yl:me<pl)(hw:1<=w/\w<=12){mi wi:Int}(hmi:mi=(me:Int))(hwi:wi=(w:Int)):aeo 7 #[Setup.v S,vP bp 0,vI mi,vI wi] (ap [] []) F (λ u H'=>∃x:Nat×HL,H'=ap [] [x.2]/\(u=vP x.1 0/\PeerR rs ds bp x.1 pl me w S J (⟨⟨b8 S S.nb,[],0⟩,0,[],[],0,[],[],0⟩:PS (List Inp)) ([]) 0 0 none x.2)):=by
 subst hmi;subst hwi;exact Al bp J hS hM h1 UN Yd RW hv hpl Yl hw
def cg(b:Nat):Setup:=⟨1,b,0,1,1,1,[⟨⟨5,[],none,0⟩,⟨0,0,0,0,0⟩,0,0⟩],⟨0,0,0,0⟩,none,0,0,none,0,0,0,⟨0,0⟩,0,0,0,1,0⟩
theorem Am:gq (cg b) [] []=0:=by kernel_rfl
theorem CA(b:Nat):SetV (cg b):=⟨⟨show (1:Int)<=1 by decide,show (1:Int)<=3 by decide⟩,⟨show 1<=1 by decide,show 1<=5 by decide⟩,⟨show (1:Int)<=1 by decide,show (1:Int)<=3 by decide⟩,⟨show (0:Int)<=0 by decide,show (0:Int)<=60 by decide⟩⟩
theorem D7(hb:(b,.rows 9 1 (jO (cg b).bods) 75 (0,0))∈F):SetCl F (cg b):=⟨⟨⟨show (0:Int)<=1 by decide,show (1:Int)<=1000000 by decide⟩,show 1<=1000000 by decide⟩,hb,show 0+1<=1 by decide,λ k hk=>by
 obtain rfl:k=0:=by have:k<1:=hk;omega
 exact⟨⟨.zero _,aaJ _⟩,.inl rfl⟩⟩
theorem An:MapIn F (cg b) [] []:=⟨.zero _,.zero _⟩
theorem tD(n m:Int)(hn:qK n)(hm:qK m)(hE:qD F):aeo 5 #[vI n,vI m] (ap [] []) F (λ u H'=>∃x:Nat×HL,H'=ap [] [x.2]/\(u=vP x.1 0/\Book2 3 (bj n 5).toNat (bj m 5).toNat x.1 x.2)):=by
 refine QT Tryz.func5<|OU 8<|aal (ti hn) ?_;have hA1:=ee (n:=n) hn 5 (by decide);refine SP (Kw (bj n 5).toNat (by omega) (aC hE)) ?_;rintro _ ⟨b2,T3⟩ ⟨rfl,ZY⟩;dsimp only at ZY;refine OU 26<|aal (ti hm) ?_;have hA5:=ee (n:=m) hm 5 (by decide);refine aam [] [0] (NK ZY 3 (by decide) (bj m 5).toNat (by omega) (aC hE)) ?_;rintro _ T6 ⟨rfl,hB7⟩;refine ae 12 [] λ _=>aav [] [] [0] (v:=vP b2 0) ⟨(b2,T6),rfl,rfl,hB7⟩
section
variable {S:Setup} {J:Nat->Nat×Int} {w:Nat} {TR:Nat->List Inp} {P:PS (List Inp)} {V:List (List Inp)} {m k:Nat}
end
section
variable {rs_:List Bx} {ds_:List Dr} {bp pp pl me w:Nat} {S:Setup} {J:Nat->Nat×Int} {P:PS (List Inp)} {kv:List (Int×Value×Nat)} {c sn:Nat} {TR:Nat->List Inp} {V:List (List Inp)} {m k:Nat} {G F:HL}
end
abbrev v3:List (List Inp):=[[dI],[dI],[dI]]
theorem OQ:∀r∈v3,RowOk 1 r:=λ r hr=>by
 have e:r=[dI]:=by simpa using hr
 subst e;exact mt rfl λ x hx=>by rw[jt.1 hx];exact vD
section
variable {b bp pp:Nat} {J:Nat->Nat×Int} {G F:HL}
theorem LF(h:PeerR [] [] bp pp 1 0 3 (cg b) J (⟨⟨b8 (cg b) (cg b).nb,[],0⟩,0,[],[],0,[],[],0⟩:PS (List Inp)) ([]) 0 0 none G)(Xe:∀i,i<=50->(J i).1<5/\AtOk F bp (i:Int) (J i))(hE:cU F):aeo 10 #[vP pp 0,vI 3] (ap [] [G]) F (λ u H'=>∃y:PS (List Inp)×HL,H'=ap [] [y.2]/\(u=.tuple #[vI 3,vI 0]/\PeerR [] [] bp pp 1 0 3 (cg b) J y.1 ([]) (0+(3-fl (⟨⟨b8 (cg b) (cg b).nb,[],0⟩,0,[],[],0,[],[],0⟩:PS (List Inp)) ([]:List (List Inp)).length)) 0 none y.2/\PInv (gP (cg b) J) (b8 (cg b) (cg b).nb) 3 y.1 v3 0/\y.1.rows=[]/\y.1.rb=0)):=by
 have hI:PInv (gP (cg b) J) (b8 (cg b) (cg b).nb) 3 (⟨⟨b8 (cg b) (cg b).nb,[],0⟩,0,[],[],0,[],[],0⟩:PS (List Inp)) [] 0:=tn (⟨b8 (cg b) (cg b).nb,[],0⟩) 0;have hrc:∀t,t<(([]:List (List Inp)).length)->([]:List (List Inp))[t]?=some (ig 1 0 [] (jz []) t):=λ t ht=>absurd ht (pt _);obtain⟨a1,a2,a3,a4⟩:=hI.adv (by decide) (T:=3) (by decide) (aaI 3) (ig 1 0 [] (jz [])) hrc;refine(xn h hI (CA b) (λ r hr=>by cases hr) (λ r hr=>by cases hr) (by decide) (by decide) (show 0<50 by decide) (by decide) (by decide) (show 0<=1000 by decide) Xe hE 3 (by decide) (aaI 3) (by decide)).mono λ u H' q=>?_;obtain⟨x,rfl,h1,h2⟩:=q;exact⟨(_,x),rfl,h1,h2,a1,a3,a4⟩
theorem QD(h:PeerR [] [] bp pp 1 0 3 (cg b) J P ([]) 3 0 none G)(hI:PInv (gP (cg b) J) (b8 (cg b) (cg b).nb) 3 P v3 0)(hr:P.rows=[])(Zx:P.rb=0)(Xe:∀i,i<=50->(J i).1<5/\AtOk F bp (i:Int) (J i))(hE:cU F):aeo 10 #[vP pp 0,vI 4] (ap [] [G]) F (λ u H'=>∃x,H'=ap [] [x]/\(u=.tuple #[vI 0,vI 18]/\PeerR [] [] bp pp 1 0 3 (cg b) J P ([]) 3 0 none x)) :=
 LB h hI (CA b) OQ (by rw[hr];exact λ r hr=>by cases hr) (by decide) (by decide) (by rw[hr];decide) (by decide) (by decide) (by rw[Zx];decide) Xe hE 4 (by rw[hr];exact .inr (by decide))
theorem LG(h:PeerR [] [] bp pp 1 0 3 (cg b) J P ([]) 3 0 none G)(hr:P.rows=[]){r:Inp}(hi:cS r){q:Nat}(hq:(q,.rows 3 1 (ak bS [r]) 24 (0,0))∈F):aeo 16 #[vP pp 0,vI 0,vS q 0 1 1] (ap [] [G]) F (λ u H'=>∃x,H'=ap [] [x]/\(u=vI 0/\PeerR [] [] bp pp 1 0 3 (cg b) J (ie P [r]) ([]) 3 0 none x)):=by
 have hl:RowL bS 24 F (some ⟨q,0,none⟩) 1 [r]:=.rows q 0 1 [r] (0,0) _ _ hq (by decide) rfl (λ k hk=>by rw[abp]);have h2:=xg (cc:=1) h hl rfl rfl (by decide) (by decide) (λ k hk=>by have e:k=0:=(by omega);subst e;exact hi) (by rw[hr];decide);rw[hr] at h2;exact h2
theorem LH{r:Inp}(h:PeerR [] [] bp pp 1 0 3 (cg b) J (ie P [r]) ([]) 3 0 none G)(hI:PInv (gP (cg b) J) (b8 (cg b) (cg b).nb) 3 P v3 0)(hr:P.rows=[])(Zx:P.rb=0)(hi:cS r)(Xe:∀i,i<=50->(J i).1<5/\AtOk F bp (i:Int) (J i))(hE:cU F)(hn:n=if dI=r then 1 else 4):aeo 10 #[vP pp 0,vI 4] (ap [] [G]) F (λ u H'=>∃y:PS (List Inp)×Nat×HL,H'=ap [] [y.2.2]/\(u=.tuple #[vI (n:Int),vI 0]/\PeerR [] [] bp pp 1 0 3 (cg b) J y.1 ([]) y.2.1 0 none y.2.2/\y.1.rb=if dI=r then 0 else 1)):=by
 have Yt:PInv (gP (cg b) J) (b8 (cg b) (cg b).nb) 3 (ie P [r]) v3 0:=hI.conf _;have hrw:(ie P [r]).rows=[[r]]:=by show P.rows++[[r]]=_;rw[hr];rfl
 have Yp:(ie P [r]).ck=0:=Nat.le_zero.1 hI.ck;have hu:(ie P [r]).used=v3:=by have h_:=Yt.used;rw[Yp] at h_;exact h_
 have afd:(ie P [r]).rb=0:=Zx;have dO:∀x∈(ie P [r]).rows,RowOk 1 x:=by
  rw[hrw];intro x hx;rw[jt.1 hx];exact mt rfl λ y hy=>by rw[jt.1 hy];exact hi
 have hrf:∀t,RowOk 1 (ig 1 0 (ie P [r]).rows (jz []) t):=λ t=>D2 (pl:=1) dO (λ t x e=>by cases e) t;obtain⟨a1,a2,a3,a4⟩:=Yt.adv (by decide) (T:=4) (by decide) (by rw[hrw];exact aaI 4) (ig 1 0 (ie P [r]).rows (jz [])) (λ t ht=>vE ht);have e1:fl (ie P [r]) v3.length=if dI=r then 3 else 0:=by
  unfold fl;rw[hrw,Yp,hu];show (wr [[r]] 0 ([dI]::[[dI],[dI]])).getD 3=_;rw[wr];show ((if [dI]=[r] then wr [[r]] (0+1) [[dI],[dI]] else some 0):Option Nat).getD 3=_
  by_cases e:dI=r
  ·rw[if_pos (by rw[e]),if_pos e];rfl
  ·rw[if_neg (by intro e2;exact e (by simpa using e2)),if_neg e];rfl
 refine(xn h Yt (CA b) OQ dO (by decide) (by decide) (by rw[hrw];show 1<50;decide) (by decide) (by decide) (by rw[afd];decide) Xe hE 4 (by decide) (by rw[hrw];exact aaI 4) (by decide)).mono λ u H' q=>?_;obtain⟨x,rfl,h1,h2⟩:=q;rw[e1] at h1;refine⟨(_,_,x),rfl,?_,h2,?_⟩
 ·rw[h1,hn]
  by_cases e:dI=r
  ·rw[if_pos e,if_pos e]
  ·rw[if_neg e,if_neg e]
 ·refine a4.trans ?_;rw[e1,afd]
  by_cases e:dI=r
  ·rw[if_pos e,if_pos e];rfl
  ·rw[if_neg e,if_neg e];rfl
end
theorem D8{pl w:Nat}{kv:List (Int×Value×Nat)}{c sn:Nat}{X:Option (Rw×List Inp)}(h:PeerR rs_ ds_ bp pp pl me w S J P kv c sn X G)(hF:∀x∈G,x∈F){e:Int}(he:(P.rb:Int)=e):aen 43 #[vP pp 0] F (vI e):=he▸Qy h hF
theorem Ao(hE0:qD F)(hE1:cU F):aen 17 #[] F (.bool true):=by
 refine QT Tryz.func17<|ae 17 (ow 0 16) λ n1=>aao 1 (.rows 9 1 (jO (cg (n1+0)).bods) 75 (0,0))<|SP (tD 0 0 (by decide) (by decide) (aC hE0)) ?_;rintro _ ⟨b2,T3⟩ ⟨rfl,ZY⟩;dsimp only at ZY
 replace ZY:Book2 3 (bj 0 5).toNat (bj 0 5).toNat b2 T3:=ZY
 refine SO 7 (ow 0 16)<|SP (mv (S:=cg (n1+0)) (rs:=[]) (ds:=[]) b2 1 0 3 (QO 3 (bj 0 5).toNat (bj 0 5).toNat 0) (D7 (aw 1)) (An) (show 1<=1 by decide) (show 0<=1000000 by decide) (show 0<=1000000 by decide) (show (60:Int).toNat<=1000000 by decide) (Am) rfl (by decide) (by decide) rfl rfl) ?_;rintro _ ⟨p5,T6⟩ ⟨rfl,hr7⟩;dsimp only at hr7;refine SO 7 (ow 0 16)<|SP (mv (S:=cg (n1+0)) (rs:=[]) (ds:=[]) b2 1 0 3 (QO 3 (bj 0 5).toNat (bj 0 5).toNat 0) (D7 (aw 1)) (An) (show 1<=1 by decide) (show 0<=1000000 by decide) (show 0<=1000000 by decide) (show (60:Int).toNat<=1000000 by decide) (Am) rfl (by decide) (by decide) rfl rfl) ?_;rintro _ ⟨p8,T9⟩ ⟨rfl,afj⟩;dsimp only at afj;refine OU 20<|aam [] [1] (LF hr7 (λ i hi=>vC ZY (ay 1) (by decide) (by decide) (t:=0+i) (by omega)) (aC hE1)) ?_;rintro _ ⟨P11,T12⟩ ⟨rfl,aa2,adx,abj,adi⟩;dsimp only at aa2 adx abj adi
 replace aa2:PeerR [] [] b2 p5 1 0 3 (cg (n1+0)) (QO 3 (bj 0 5).toNat (bj 0 5).toNat 0) P11 ([]) 3 0 none T12:=aa2
 refine OU 10<|aam [] [0] (QD aa2 adx abj adi (λ i hi=>vC ZY (ay 1) (by decide) (by decide) (t:=0+i) (by omega)) (aC hE1)) ?_;rintro _ W6 ⟨rfl,aix⟩;refine OU 10<|aam [] [1] (LF afj (λ i hi=>vC ZY (ay 1) (by decide) (by decide) (t:=0+i) (by omega)) (aC hE1)) ?_;rintro _ ⟨P19,YW⟩ ⟨rfl,X0,agm,ac3,af8⟩;dsimp only at X0 agm ac3 af8
 replace X0:PeerR [] [] b2 p8 1 0 3 (cg (n1+0)) (QO 3 (bj 0 5).toNat (bj 0 5).toNat 0) P19 ([]) 3 0 none YW:=X0
 refine ae 7 [] λ Z5=>aao 0 (.rows 3 1 (ak bS [⟨0,0,0⟩]) 24 (0,0))<|aam [] [1] (LG (q:=(Z5+0)) (r:=⟨0,0,0⟩) aix abj (by decide) (aw 0)) ?_;rintro _ T26 ⟨rfl,aiw⟩;refine ae 7 [] λ n28=>aao 0 (.rows 3 1 (ak bS [⟨1,0,0⟩]) 24 (0,0))<|aam [] [1] (LG (q:=(n28+0)) (r:=⟨1,0,0⟩) X0 ac3 (by decide) (aw 0)) ?_;rintro _ T29 ⟨rfl,aiv⟩;refine OU 5<|aam [] [1] (LH (n:=1) (r:=⟨0,0,0⟩) aiw adx abj adi (by decide) (λ i hi=>vC ZY (ay 1) (by decide) (by decide) (t:=0+i) (by omega)) (aC hE1) (by decide)) ?_;rintro _ ⟨P31,c32,T33⟩ ⟨rfl,afi,YO⟩;dsimp only at afi YO
 replace YO:P31.rb=0:=YO.trans (by decide)
 refine OU 10<|aam [] [1] (LH (n:=4) (r:=⟨1,0,0⟩) aiv agm ac3 af8 (by decide) (λ i hi=>vC ZY (ay 1) (by decide) (by decide) (t:=0+i) (by omega)) (aC hE1) (by decide)) ?_;rintro _ ⟨P36,c37,T38⟩ ⟨rfl,afh,abm⟩;dsimp only at afh abm
 replace abm:P36.rb=1:=abm.trans (by decide)
 refine OU 37<|aal (D8 afi (ay 1) (by rw[YO]))<|OU 4<|aal (D8 afh (ay 0) (by rw[abm]))<|ae 5 [] λ _=>QW _ _ ⟨rfl,rfl⟩
theorem GI{A0:Option Addr} (AR:Option Addr){n0:Nat} (c0:Nat) {nR cR:Nat}{xs:List Int}(xR:List Inp){i1 i2 i3:Int} (b0 b1 b2:Int)(hE0:qD F)(hE1:cU F)(Yo:ArgD F A0 n0 xs)(U2:n0<=9223372036854775807)(hi1:qK i1)(hi2:qK i2)(hi3:qK i3)(hR:RowB F AR nR λ k=>xR.getD k dI)(hRl:xR.length=nR)(hRc:nR<=cR):aen 3 #[.slice A0 n0 c0,vI i1,vI i2,vI i3,.agg #[vI b0,vI b1,vI b2],.slice AR nR cR] F (.bool true):=by
 refine QT Tryz.func3<|ae 9 [] λ n1=>SP (Yo.up.use λ F_ h_=>FC c0 h_ U2) ?_;rintro _ ⟨S,TS⟩ ⟨rfl,hG⟩;dsimp only at hG;have hF:=Qp Yo hG;have hpl:=hF.pl;have hnb:=hF.nb;have UN:=hF.rn;have Yd:=hF.dn;have RW:=hF.sz;have XJ:=j7 S S.nb;have hV:SetV S:=Yo.ex.elim λ _ h_=>setV h_ hG;obtain⟨pl,aa4⟩:∃pl:Nat,S.players=(pl:Int):=⟨S.players.toNat,by omega⟩;refine ae 6 (ow 0 16) λ n2=>SP (tD 1 1 (by decide) (by decide) (aC hE0)) ?_;rintro _ ⟨b3,T4⟩ ⟨rfl,hB5⟩;dsimp only at hB5;obtain⟨j0a,akN,afK⟩:∃j,(bj 1 5).toNat=j/\j<5:=⟨_,rfl,by have h_:=ee (n:=1) (by decide) 5 (by decide);omega⟩;rw[akN] at hB5;refine SO 19 (ow 0 16)<|SP (Qz b3 i1 i2 (hG.sin _ (aw 1) (ay 1)).cl (hG.maps.2 _ (ay 1)) (show 1<=S.nb by omega) (show S.rn<=1000000 by omega) (show S.dn<=1000000 by omega) (show (sizeOf S).toNat<=1000000 by omega) hF.val (by omega)) ?_;rintro _ ⟨⟨pv6,ec7⟩,T8⟩ ⟨rfl,hE9,agk⟩;dsimp only at hE9 agk;refine OU 13<|aan (σ:=Int) (λ wt_=>⟨[(1,vI i1),(2,vI i2),(3,vI i3),(5,.slice AR nR cR),(10,vP (n1+0) 0),(13,vP (n2+0) 0),(14,vP b3 0),(15,pv6),(16,vI ec7),(17,vI wt_)],[((n2+0),.lit (Setup.l S) 34 (0,0)),(S.bb,.rows 9 S.bR (jO S.bods) 75 (0,0)),((n1+0),.lit [vI b0,vI b1,vI b2] 24 (0,0))],[T8,T4,TS],wt_=nj S.players i1 i2,0⟩) ?_ ?_
 ·intro WN;refine OU 5<|aaq (i1<0) 44 (λ H_=>?_) λ H_=>?_
  ·refine ae 11 [] λ _=>WN 17 [0,1,2] [0,1,2] ?_
   try dsimp only
   exact(by rw[nj,if_pos (by omega)])
  ·refine SO 7 [.o 0]<|aaq (i1>=S.players) 49 (λ U8=>?_) λ U8=>?_
   ·refine ae 4 [] λ _=>WN 17 [0,1,2] [0,1,2] ?_
    try dsimp only
    exact(by rw[nj,if_pos (by omega)])
   ·refine OU 6<|aaq (i2<1) 52 (λ Vu=>?_) λ Vu=>?_
    ·refine ae 9 [] λ _=>WN 6 [0,1,2] [0,1,2] ?_
     try dsimp only
     exact(by rw[nj,if_neg (by omega),if_pos (by omega)])
    ·refine OU 5<|aaq (i2>12) 55 (λ Wg=>?_) λ Wg=>?_
     ·refine ae 4 [] λ _=>WN 6 [0,1,2] [0,1,2] ?_
      try dsimp only
      exact(by rw[nj,if_neg (by omega),if_pos (by omega)])
     ·refine ae 2 [] λ _=>WN 0 [0,1,2] [0,1,2] ?_
      try dsimp only
      exact(by rw[nj,if_neg (by omega),if_neg (by omega)])
 ·rintro wt_ aoT;refine OU 3<|aan (σ:=Unit) (λ _=>⟨[(1,vI i1),(2,vI i2),(3,vI i3),(5,.slice AR nR cR),(10,vP (n1+0) 0),(13,vP (n2+0) 0),(14,vP b3 0),(65,.bool false)],[((n2+0),.lit (Setup.l S) 34 (0,0)),(S.bb,.rows 9 S.bR (jO S.bods) 75 (0,0)),((n1+0),.lit [vI b0,vI b1,vI b2] 24 (0,0))],[T4,TS],True,0⟩) ?_ ?_
  ·intro aaO;have afW:ec7=wt_:=by omega
   rcases agk with ⟨adf,r18,rfl⟩|⟨adf,rfl⟩
   ·refine OU 5<|aas 59 (nt (abk afW))<|OU 4<|aas 63 (abk adf)<|ae 3 [] λ _=>aaO () [0,1,2] [1,2] ?_
    try dsimp only
    all_goals trivial
   ·refine OU 5<|aas 59 (nt (abk afW))<|OU 4<|aas 63 (abh adf)<|ae 3 [] λ _=>aaO () [0,1,2] [1,2] ?_
    try dsimp only
    all_goals trivial
  ·rintro _ _;refine SO 16 (ow 0 17)<|aal (GA b3 i1 i2 (OP (hG.sin _ (aw 1) (ay 1)).cl 0).toSh (Lo (hG.maps.2 _ (ay 1)) 0) (SH hF.val))<|SO 31 (ow 0 17)<|SP (mv b3 pl 0 4 (QO 3 j0a j0a 0) (OP (hG.sin _ (aw 1) (ay 1)).cl 1) (Lo (hG.maps.2 _ (ay 1)) 1) (show 1<=S.nb by omega) (show S.rn<=1000000 by omega) (show S.dn<=1000000 by omega) (show (sizeOf S).toNat<=1000000 by omega) (Uy hF.val) aa4 (by omega) (by decide) (mi:=0) (wi:=4) rfl rfl) ?_;rintro _ ⟨p19,YW⟩ ⟨rfl,X0⟩;dsimp only at X0;refine OU 14<|aan (σ:=Nat×Nat×Nat×MdR×HL) (λ ⟨mx_,q_,s_,Is,Tm_⟩=>⟨[(3,vI i3),(5,.slice AR nR cR),(10,vP (n1+0) 0),(20,vP p19 0),(21,vP mx_ 0)],[(mx_,.lit (Setup.l (S.rd 1)++[vS Is.tb 0 2 Is.tc,vS Is.pb 0 2 Is.pc,vI 0,vI 4,.slice none 0 0,.slice none 0 0,vS s_ 0 1 1,.slice none 0 0,.slice none 0 0,.slice none 0 0,vI 0]) 50 (0,0)),(q_,.rows 1 ((sizeOf (S.rd 1)).toNat) (ak bD (b8 (S.rd 1) (S.rd 1).nb)) 3 (0,0)),(s_,.rows 1 1 (ak nI [(⟨some ⟨q_,0,none⟩,(sizeOf (S.rd 1)).toNat,(sizeOf (S.rd 1)).toNat⟩:Rw)]) 22 (0,0)),((n2+0),.lit [vI S.players,vS S.bb (S.bo*9) S.nb S.bc,vI S.box.x0,vI S.box.y0,vI S.box.x1,vI S.box.y1,.slice S.rA S.rn S.rc,.slice S.dA S.dn S.dc,vI S.fog,vI S.g.x,vI S.g.y,vI S.push,vI S.drag,vI S.rest,vI 1,vI S.fuel] 34 (0,0)),(S.bb,.rows 9 S.bR (jO S.bods) 75 (0,0)),((n1+0),.lit [vI b0,vI b1,vI b2] 24 (0,0))],[Tm_,YW,T4,TS],∀F2:HL,(∀y∈Tm_,y∈F2)->SL Is F2,0⟩) ?_ ?_
   ·intro Xi;refine aap [1,2,4] []<|G5 0 1 3 ?_ ?_ ?_
    ·refine aai [] (ow 0 16) λ _=>dg 1 3 ?_ ?_
     ·refine Q1 [] pq ?_;rintro _ ⟨Ws,T24⟩ ⟨rfl,acR⟩;dsimp only at acR;refine dg 2 3 ?_ ?_
      ·refine Q1 [] (fm (some ⟨Ws.tb,0,none⟩) (some ⟨Ws.pb,0,none⟩) 2 Ws.tc 2 Ws.pc 0 4 (pn (hG.sin _ (aw 1) (ay 3)) 1)) ?_;rintro _ ⟨q26,s27⟩ rfl;refine aag 3 (aai [] [] λ n28=>?_);refine SV 4 [] (ow 0 27)<|aaf<|Xi ((n28+0),q26,s27,Ws,T24) [0,1,2,3,4,5] [0,1,2,3] ?_
       try dsimp only
       exact acR
      ·refine aai [] [] λ n29=>aag 2 (Q1 [] (fm (some ⟨Ws.tb,0,none⟩) (some ⟨Ws.pb,0,none⟩) 2 Ws.tc 2 Ws.pc 0 4 (pn (hG.sin _ (aw 2) (ay 3)) 1)) ?_);rintro _ ⟨q30,s31⟩ rfl;refine SV 4 [] (ow 2 27)<|aaf<|Xi ((n29+0),q30,s31,Ws,T24) [2,0,1,3,4,5] [0,1,2,3] ?_
       try dsimp only
       exact acR
     ·refine aai [] [] λ n32=>aag 1 (Q1 [] pq ?_);rintro _ ⟨Zg,T34⟩ ⟨rfl,afy⟩;dsimp only at afy;refine aag 2 (Q1 [] (fm (some ⟨Zg.tb,0,none⟩) (some ⟨Zg.pb,0,none⟩) 2 Zg.tc 2 Zg.pc 0 4 (pn (hG.sin _ (aw 2) (ay 3)) 1)) ?_);rintro _ ⟨q36,s37⟩ rfl;refine SV 4 [] (ow 2 27)<|aaf<|Xi ((n32+0),q36,s37,Zg,T34) [2,0,1,3,4,5] [0,1,2,3] ?_
      try dsimp only
      exact afy
    ·refine Q1 [] pq ?_;rintro _ ⟨U9,T39⟩ ⟨rfl,aa_⟩;dsimp only at aa_;refine dg 0 3 ?_ ?_
     ·refine aai [] (ow 0 16) λ _=>dg 2 3 ?_ ?_
      ·refine Q1 [] (fm (some ⟨U9.tb,0,none⟩) (some ⟨U9.pb,0,none⟩) 2 U9.tc 2 U9.pc 0 4 (pn (hG.sin _ (aw 1) (ay 3)) 1)) ?_;rintro _ ⟨q41,s42⟩ rfl;refine aag 3 (aai [] [] λ n43=>?_);refine SV 4 [] (ow 0 27)<|aaf<|Xi ((n43+0),q41,s42,U9,T39) [0,1,2,3,4,5] [0,1,2,3] ?_
       try dsimp only
       exact aa_
      ·refine aai [] [] λ n44=>aag 2 (Q1 [] (fm (some ⟨U9.tb,0,none⟩) (some ⟨U9.pb,0,none⟩) 2 U9.tc 2 U9.pc 0 4 (pn (hG.sin _ (aw 2) (ay 3)) 1)) ?_);rintro _ ⟨q45,s46⟩ rfl;refine SV 4 [] (ow 2 27)<|aaf<|Xi ((n44+0),q45,s46,U9,T39) [2,0,1,3,4,5] [0,1,2,3] ?_
       try dsimp only
       exact aa_
     ·refine aai [] [] λ n47=>SV 0 [] (ow 1 16)<|aag 2 (Q1 [] (fm (some ⟨U9.tb,0,none⟩) (some ⟨U9.pb,0,none⟩) 2 U9.tc 2 U9.pc 0 4 (pn (hG.sin _ (aw 2) (ay 3)) 1)) ?_);rintro _ ⟨q48,s49⟩ rfl;refine SV 4 [] (ow 2 27)<|aaf<|Xi ((n47+0),q48,s49,U9,T39) [2,0,1,3,4,5] [0,1,2,3] ?_
      try dsimp only
      exact aa_
    ·refine aai [] [] λ n50=>dg 0 1 ?_ ?_
     ·refine aai [] (ow 1 16) λ _=>aag 1 (Q1 [] pq ?_);rintro _ ⟨Zf,T52⟩ ⟨rfl,afx⟩;dsimp only at afx;refine aag 2 (Q1 [] (fm (some ⟨Zf.tb,0,none⟩) (some ⟨Zf.pb,0,none⟩) 2 Zf.tc 2 Zf.pc 0 4 (pn (hG.sin _ (aw 2) (ay 3)) 1)) ?_);rintro _ ⟨q54,s55⟩ rfl;refine SV 4 [] (ow 2 27)<|aaf<|Xi ((n50+0),q54,s55,Zf,T52) [2,0,1,3,4,5] [0,1,2,3] ?_
      try dsimp only
      exact afx
     ·refine Q1 [] pq ?_;rintro _ ⟨Ze,T57⟩ ⟨rfl,afw⟩;dsimp only at afw;refine SV 0 [] (ow 1 16)<|aag 2 (Q1 [] (fm (some ⟨Ze.tb,0,none⟩) (some ⟨Ze.pb,0,none⟩) 2 Ze.tc 2 Ze.pc 0 4 (pn (hG.sin _ (aw 2) (ay 3)) 1)) ?_);rintro _ ⟨q59,s60⟩ rfl;refine SV 4 [] (ow 2 27)<|aaf<|Xi ((n50+0),q59,s60,Ze,T57) [2,0,1,3,4,5] [0,1,2,3] ?_
      try dsimp only
      exact afw
   ·rintro⟨mx_,q_,s_,Is,Tm_⟩ acQ;refine OU 4<|aam [] [1] (SN X0 (Uz hV) aa4 (λ i hi=>vC hB5 (ay 1) afK afK (t:=0+i) (by omega)) (aC hE1)) ?_;rintro _ ⟨⟨P61,c62,r63⟩,T64⟩ ⟨rfl,aeY,aff⟩;dsimp only at aeY aff;refine SO 5 (ow 0 27)<|aam [1,2] [] (Cs 0 Is.tc Is.pc 0 q_ (n:=(sizeOf (S.rd 1)).toNat) (N:=(sizeOf (S.rd 1)).toNat) s_ (K:=1) [(⟨some ⟨q_,0,none⟩,(sizeOf (S.rd 1)).toNat,(sizeOf (S.rd 1)).toNat⟩:Rw)] (pn (hG.sin _ (aw 2) (ay 3)) 1) rfl (aaI _) ⟨show 1<=S.nb by omega,show 1<=S.players by omega⟩ (acQ _ (ay 1)).2.2 (acQ _ (ay 1)).1 (acQ _ (ay 1)).2.1 aa4 (by omega) (by omega) (NY (show 1<=S.players by omega)) (LC hV hG.nums.2.2.2.2.2.2.2) rfl (aaI _)) ?_;rintro _ u_ rfl;refine ae 13 (ow 0 27) λ _=>?_;obtain⟨fx,Vc,hfB⟩:=UB hR hRl;obtain⟨mf,hmf⟩:∃m,fx.length=m:=⟨_,rfl⟩;rw[hmf] at Vc hfB;refine aM 101 (congrArg (λ v_=>(vI v_:Value)) (show (if 5<(nR:Int) then 5 else (nR:Int))=(mf:Int) by split <;> omega))<|ah 8 [.sl0 mf] [(mf:Int)=((mf:Nat):Int)/\mf<=cR] λ _=>?_;obtain⟨UX,aga,ajK⟩:∃k:Nat,bj i3 6=(k:Int)/\(k:Int)<6:=⟨(bj i3 6).toNat,by have h_:=ee (n:=i3) hi3 6 (by decide);omega,by have h_:=ee (n:=i3) hi3 6 (by decide);omega⟩;refine aal (zW aga (by decide))<|ae 1 [] λ _=>?_;obtain⟨UO,af_,ajJ⟩:∃k:Nat,bj i3 4=(k:Int)/\(k:Int)<4:=⟨(bj i3 4).toNat,by have h_:=ee (n:=i3) hi3 4 (by decide);omega,by have h_:=ee (n:=i3) hi3 4 (by decide);omega⟩;refine aal (zW af_ (by decide))<|ah 12 [.nw] [aI ((UO:Int)+5998)] λ n70=>aao 0 (.rows 1 3 (ak bD [i3,(UX:Int),(UO:Int)+5998]) 3 (0,0))<|aau<|aau<|aau<|aat (σ:=Nat×LX) (λ ⟨i_,x_⟩=>⟨[(10,vP (n1+0) 0),(20,vP p19 0),(21,vP mx_ 0),(22,.slice AR mf cR),(23,vS (n70+0) 0 3 3),(24,vI (i_:Int))],[((n70+0),.rows 1 3 (ak bD [i3,(UX:Int),(UO:Int)+5998]) 3 (0,0)),(mx_,.lit (Setup.l (S.rd 1)++[vS Is.tb 0 2 Is.tc,vS Is.pb 0 2 Is.pc,vI 0,vI 4,.slice x_.A3 x_.rn x_.c3,.slice u_.1 2 u_.2.1,.slice u_.2.2.1 3 u_.2.2.2.1,.slice u_.2.2.2.2.1 2 u_.2.2.2.2.2,.slice x_.A x_.m x_.c1,.slice x_.A2 x_.m x_.c2,vI 0]) 50 (0,0)),((n2+0),.lit [vI S.players,vS S.bb (S.bo*9) S.nb S.bc,vI S.box.x0,vI S.box.y0,vI S.box.x1,vI S.box.y1,.slice S.rA S.rn S.rc,.slice S.dA S.dn S.dc,vI S.fog,vI S.g.x,vI S.g.y,vI S.push,vI S.drag,vI S.rest,vI 1,vI S.fuel] 34 (0,0)),(S.bb,.rows 9 S.bR (jO S.bods) 75 (0,0)),((n1+0),.lit [vI b0,vI b1,vI b2] 24 (0,0))],[x_.T1,x_.T2,x_.T3,x_.G,Tm_,T4,TS],i_<=3/\LOk sf (kL (kv xs 3%3).toNat) b3 p19 pl (S.rd 1) (QO 3 j0a j0a 0) x_ i_,3-i_⟩) (0,(⟨P61,[],c62,none,none,none,0,0,0,0,0,[],[],[],T64,[],[],[]⟩:LX)) [0,1,2,3,4] [0,1,2,3,4,5,6] (⟨aaJ _,aff,aeY,λ j_ _=>⟨λ h_=>Bool.noConfusion h_,λ h_=>(by cases h_)⟩,aay _ _,aay _ _,rfl,rfl,aay _ _,rfl,aaI _,aaI _⟩) ?_;rintro⟨i_,x_⟩ ⟨hi_,UD⟩ ahL;refine OU 7<|aaq ((i_:Int)<3) 111 (λ h73=>?_) λ h73=>?_
    ·refine OU 6<|aan (σ:=Nat×AM×Int) (λ ⟨nx_,t_,ea_⟩=>⟨[(10,vP (n1+0) 0),(20,vP p19 0),(21,vP mx_ 0),(22,.slice AR mf cR),(23,vS (n70+0) 0 3 3),(24,vI (i_:Int)),(25,vP nx_ 0),(26,vI ea_)],[(nx_,.lit (Setup.l (S.rd 1)++[vS Is.tb 0 2 Is.tc,vS Is.pb 0 2 Is.pc,vI 0,vI 4,.slice x_.A3 x_.rn x_.c3,.slice u_.1 2 u_.2.1,.slice u_.2.2.1 3 u_.2.2.2.1,.slice u_.2.2.2.2.1 2 u_.2.2.2.2.2,.slice t_.A t_.n t_.c,.slice t_.A2 t_.n t_.c2,vI 0]) 50 (0,0)),((n70+0),.rows 1 3 (ak bD [i3,(UX:Int),(UO:Int)+5998]) 3 (0,0)),(mx_,.lit (Setup.l (S.rd 1)++[vS Is.tb 0 2 Is.tc,vS Is.pb 0 2 Is.pc,vI 0,vI 4,.slice x_.A3 x_.rn x_.c3,.slice u_.1 2 u_.2.1,.slice u_.2.2.1 3 u_.2.2.2.1,.slice u_.2.2.2.2.1 2 u_.2.2.2.2.2,.slice x_.A x_.m x_.c1,.slice x_.A2 x_.m x_.c2,vI 0]) 50 (0,0)),((n2+0),.lit [vI S.players,vS S.bb (S.bo*9) S.nb S.bc,vI S.box.x0,vI S.box.y0,vI S.box.x1,vI S.box.y1,.slice S.rA S.rn S.rc,.slice S.dA S.dn S.dc,vI S.fog,vI S.g.x,vI S.g.y,vI S.push,vI S.drag,vI S.rest,vI 1,vI S.fuel] 34 (0,0)),(S.bb,.rows 9 S.bR (jO S.bods) 75 (0,0)),((n1+0),.lit [vI b0,vI b1,vI b2] 24 (0,0))],[t_.T1,t_.T2,x_.T3,x_.G,Tm_,T4,TS],(gl (⟨b0,b1,b2⟩:Inp) ([i3,(UX:Int),(UO:Int)+5998].getD i_ 0) x_.rn x_.ts)=ea_/\SlIs bD 3 t_.ts t_.A t_.c t_.T1/\SlIs bS 24 t_.ls t_.A2 t_.c2 t_.T2/\t_.ts.length=t_.n/\t_.ls.length=t_.n/\t_.n<=x_.m+1/\t_.ts=if ea_=0 then x_.ts++[([i3,(UX:Int),(UO:Int)+5998].getD i_ 0)] else x_.ts,0⟩) ?_ ?_
     ·intro aeB;refine aap [6,11] []<|aA [] [0,1,2,5,3,4] (ow 1 27++[.o 4,.o 4,.o 4,.ix i_,.row 0 i_ 0]) [(0+i_*1)=i_*1+0/\i_<3,(i_:Int)=((i_:Nat):Int)/\i_<3]<|dg 6 10 ?_ ?_
      ·refine aah [] [] [0,1] (tu (S.rd 1) (some ⟨Is.tb,0,none⟩) (some ⟨Is.pb,0,none⟩) u_.1 u_.2.2.1 u_.2.2.2.2.1 2 Is.tc 2 Is.pc 2 u_.2.1 3 u_.2.2.2.1 2 u_.2.2.2.2.2 0 4 0 x_.A3 x_.rn x_.c3 (⟨b0,b1,b2⟩:Inp) ([i3,(UX:Int),(UO:Int)+5998].getD i_ 0) UD.ts UD.ls UD.nt UD.nl (by have:=UD.m9;omega)) ?_;rintro _ ak0 ⟨rfl,h76,h77,h78,h79,h80,h81⟩;refine aem [7,8,9]<|aag 10 (aai [] [] λ n82=>?_);refine SV 11 [] (ow 0 27)<|aem [12]<|aaf<|aeB ((n82+0),ak0,(gl (⟨b0,b1,b2⟩:Inp) ([i3,(UX:Int),(UO:Int)+5998].getD i_ 0) x_.rn x_.ts)) [0,1,2,3,4,5] [0,1,2,3,4,5,6] ?_
       try dsimp only
       exact⟨rfl,h76,h77,h78,h79,h80,h81⟩
      ·refine aai [] [] λ n83=>aag 6 (aah [] [] [0,1] (tu (S.rd 1) (some ⟨Is.tb,0,none⟩) (some ⟨Is.pb,0,none⟩) u_.1 u_.2.2.1 u_.2.2.2.2.1 2 Is.tc 2 Is.pc 2 u_.2.1 3 u_.2.2.2.1 2 u_.2.2.2.2.2 0 4 0 x_.A3 x_.rn x_.c3 (⟨b0,b1,b2⟩:Inp) ([i3,(UX:Int),(UO:Int)+5998].getD i_ 0) UD.ts UD.ls UD.nt UD.nl (by have:=UD.m9;omega)) ?_);rintro _ akZ ⟨rfl,h85,h86,h87,h88,h89,h90⟩;refine aem [7,8,9]<|SV 11 [] (ow 0 27)<|aem [12]<|aaf<|aeB ((n83+0),akZ,(gl (⟨b0,b1,b2⟩:Inp) ([i3,(UX:Int),(UO:Int)+5998].getD i_ 0) x_.rn x_.ts)) [0,1,2,3,4,5] [0,1,2,3,4,5,6] ?_
       try dsimp only
       exact⟨rfl,h85,h86,h87,h88,h89,h90⟩
     ·rintro⟨nx_,t_,ea_⟩ ⟨ajo,ajR,ajQ,ajP,ajO,ajN,ajM⟩;refine SO 9 (ow 0 27++ow 2 27)<|aap [6] []<|aA [] [0,1,2,5,7,3,4] [.o 5,.o 5,.o 5,.ix i_,.row 1 i_ 0] [(0+i_*1)=i_*1+0/\i_<3,(i_:Int)=((i_:Nat):Int)/\i_<3]<|aag 6 (aah [] [] [3] (LD UD.pr UD.rows UD.tie (⟨b0,b1,b2⟩:Inp) ([i3,(UX:Int),(UO:Int)+5998].getD i_ 0) ea_ ajo) ?_);rintro _ ⟨aot,T92⟩ ⟨rfl,afe,acA⟩;dsimp only at afe acA;rw[<- ajM] at acA;refine aem [8]<|Q2 1<|aas 133 (nt (abk (rfl:ea_=ea_)))<|OU 4<|aan (σ:=Nat×CMd×Int) (λ ⟨ny_,Xg,ec_⟩=>⟨[(10,vP (n1+0) 0),(20,vP p19 0),(21,vP mx_ 0),(22,.slice AR mf cR),(23,vS (n70+0) 0 3 3),(24,vI (i_:Int)),(27,vP ny_ 0),(28,vI ec_)],[(ny_,.lit (Setup.l (S.rd 1)++[vS Is.tb 0 2 Is.tc,vS Is.pb 0 2 Is.pc,vI 0,vI 4,.slice Xg.A Xg.n Xg.c,.slice u_.1 2 u_.2.1,.slice u_.2.2.1 3 u_.2.2.2.1,.slice u_.2.2.2.2.1 2 u_.2.2.2.2.2,.slice t_.A t_.n t_.c,.slice t_.A2 t_.n t_.c2,vI 0]) 50 (0,0)),(nx_,.lit (Setup.l (S.rd 1)++[vS Is.tb 0 2 Is.tc,vS Is.pb 0 2 Is.pc,vI 0,vI 4,.slice x_.A3 x_.rn x_.c3,.slice u_.1 2 u_.2.1,.slice u_.2.2.1 3 u_.2.2.2.1,.slice u_.2.2.2.2.1 2 u_.2.2.2.2.2,.slice t_.A t_.n t_.c,.slice t_.A2 t_.n t_.c2,vI 0]) 50 (0,0)),((n70+0),.rows 1 3 (ak bD [i3,(UX:Int),(UO:Int)+5998]) 3 (0,0)),(mx_,.lit (Setup.l (S.rd 1)++[vS Is.tb 0 2 Is.tc,vS Is.pb 0 2 Is.pc,vI 0,vI 4,.slice x_.A3 x_.rn x_.c3,.slice u_.1 2 u_.2.1,.slice u_.2.2.1 3 u_.2.2.2.1,.slice u_.2.2.2.2.1 2 u_.2.2.2.2.2,.slice t_.A t_.n t_.c,.slice t_.A2 t_.n t_.c2,vI 0]) 50 (0,0)),((n2+0),.lit [vI S.players,vS S.bb (S.bo*9) S.nb S.bc,vI S.box.x0,vI S.box.y0,vI S.box.x1,vI S.box.y1,.slice S.rA S.rn S.rc,.slice S.dA S.dn S.dc,vI S.fog,vI S.g.x,vI S.g.y,vI S.push,vI S.drag,vI S.rest,vI 1,vI S.fuel] 34 (0,0)),(S.bb,.rows 9 S.bR (jO S.bods) 75 (0,0)),((n1+0),.lit [vI b0,vI b1,vI b2] 24 (0,0))],[Xg.T,T92,t_.T1,t_.T2,Tm_,T4,TS],(f5 S.players mf fx (i64.wrap (([i3,(UX:Int),(UO:Int)+5998].getD i_ 0).tdiv 2)) x_.rn)=ec_/\SlIs jo 25 Xg.rl Xg.A Xg.c Xg.T/\Xg.rl.length=Xg.n/\Xg.n=if ec_=0 then x_.rn+1 else x_.rn,0⟩) ?_ ?_
      ·intro aeA;refine aap [7,12] []<|aA [] [0,1,2,6,3,4,5] (ow 2 27++[.ix i_,.row 1 i_ 0]) [(0+i_*1)=i_*1+0/\i_<3,(i_:Int)=((i_:Nat):Int)/\i_<3]<|dg 7 11 ?_ ?_
       ·refine aah [] [] [3] (tw (S.rd 1) (some ⟨Is.tb,0,none⟩) (some ⟨Is.pb,0,none⟩) u_.1 u_.2.2.1 u_.2.2.2.2.1 t_.A t_.A2 2 Is.tc 2 Is.pc 2 u_.2.1 3 u_.2.2.2.1 2 u_.2.2.2.2.2 t_.n t_.c t_.n t_.c2 0 4 0 AR cR fx (i64.wrap (([i3,(UX:Int),(UO:Int)+5998].getD i_ 0).tdiv 2)) (hfB.mono λ x hx=>aC hx) hmf (by omega) (show 1<=S.players by omega) UD.rl UD.nr (by have:=UD.r9;omega)) ?_;rintro _ akQ ⟨rfl,h97,h98,h99⟩;refine aem [8,9,10]<|aag 11 (aai [] [] λ n100=>?_);refine SV 12 [] (ow 0 27)<|aem [13]<|aaf<|aeA ((n100+0),akQ,(f5 S.players mf fx (i64.wrap (([i3,(UX:Int),(UO:Int)+5998].getD i_ 0).tdiv 2)) x_.rn)) [0,1,2,3,4,5,6] [0,1,2,3,4,5,6] ?_
        try dsimp only
        exact⟨rfl,h97,h98,h99⟩
       ·refine aai [] [] λ n101=>aag 7 (aah [] [] [3] (tw (S.rd 1) (some ⟨Is.tb,0,none⟩) (some ⟨Is.pb,0,none⟩) u_.1 u_.2.2.1 u_.2.2.2.2.1 t_.A t_.A2 2 Is.tc 2 Is.pc 2 u_.2.1 3 u_.2.2.2.1 2 u_.2.2.2.2.2 t_.n t_.c t_.n t_.c2 0 4 0 AR cR fx (i64.wrap (([i3,(UX:Int),(UO:Int)+5998].getD i_ 0).tdiv 2)) (hfB.mono λ x hx=>aC hx) hmf (by omega) (show 1<=S.players by omega) UD.rl UD.nr (by have:=UD.r9;omega)) ?_);rintro _ agA ⟨rfl,akE,akD,akC⟩;refine aem [8,9,10]<|SV 12 [] (ow 0 27)<|aem [13]<|aaf<|aeA ((n101+0),agA,(f5 S.players mf fx (i64.wrap (([i3,(UX:Int),(UO:Int)+5998].getD i_ 0).tdiv 2)) x_.rn)) [0,1,2,3,4,5,6] [0,1,2,3,4,5,6] ?_
        try dsimp only
        exact⟨rfl,akE,akD,akC⟩
      ·rintro⟨ny_,Xg,ec_⟩ ⟨ajn,ajF,ajE,afY⟩;refine ah 16 (ow 0 27++ow 3 27++[.ix i_,.row 2 i_ 0]) [(0+i_*1)=i_*1+0/\i_<3,(i_:Int)=((i_:Nat):Int)/\i_<3] λ _=>aam [] [1] (LE (cc:=cR) afe UD.rows acA (hfB.mono λ x hx=>aC hx) hmf (by omega) aa4 (by omega) (by have:=UD.r9;omega) (i64.wrap (([i3,(UX:Int),(UO:Int)+5998].getD i_ 0).tdiv 2)) ec_ ajn) ?_;rintro _ ⟨⟨ak4,aeJ⟩,ak3⟩ ⟨rfl,abU,Zn,Zq⟩;dsimp only at abU Zn Zq;rw[<- afY] at Zn Zq;refine OU 4<|aas 155 (nt (abk (rfl:ec_=ec_)))<|ah 9 [.nw] [aI ((i_:Int)+1)] λ _=>ahL (i_+1,(⟨ak4,aeJ,x_.c,t_.A,t_.A2,Xg.A,t_.n,t_.c,t_.c2,Xg.n,Xg.c,t_.ts,t_.ls,Xg.rl,ak3,t_.T1,t_.T2,Xg.T⟩:LX)) [2,3,4,5,6] [2,3,1,0,4,5,6] ?_
       try dsimp only
       exact⟨⟨by omega,abU,Zn,Zq,ajR,ajQ,ajP,ajO,ajF,ajE,Nat.le_trans ajN (Nat.succ_le_succ UD.m9),by have:=UD.r9;show Xg.n<=i_+1;rw[afY];split <;> omega⟩,by omega⟩
    ·refine OU 8<|aal (Ao (aC hE0) (aC hE1))<|ae 3 [] λ _=>QW _ _ ⟨rfl,rfl⟩
end
end Go.Proofs.YtogafelgppjklaaGreatDoor
