import Derived.Test.YtjokannbjmndfaaGreatDoorZ39
import Derived.Test.YtjokannbjmndfaaGreatDoorZ07
import Derived.Test.YtjokannbjmndfaaGreatDoorZ33
set_option linter.all false
set_option maxHeartbeats 4000000
set_option maxRecDepth 100000
namespace Go.Proofs.YtjokannbjmndfaaGreatDoor
open Go.RowKit
variable {A eA rA uA:Option Addr} {F G T T1:HL} {X8:List (List Eff)} {ck ec gb lb mb me pp rb rbk rc sg uc un w:Nat} {e t:Int} {el rs:List Rw} {xs:List Inp} {xss:List (List Inp)}
def je:Enc Rw:=⟨1,λ p k=>match k with|0=>.slice p.A p.n p.c|_=>default,⟨none,0,0⟩⟩
noncomputable def Oz:TypeInfo:=match Tryz.prog.info? 45 with | some i=>i | none=>⟨.bool,"",0,0,false,0,0,none,false,#[]⟩
noncomputable def OA:Value:=match Oz.zero with|some z=>z|none=>.bool false
theorem Qe:EncOk je Tryz.prog 45 Oz OA where
 info:=by kernel_rfl
 zero:=by kernel_rfl
 size:=by kernel_rfl
 zsize:=by kernel_rfl
 zcell:=λ k hk=>by
  have h:∀k<1,OA.cells[k]?=some (je.cell je.dflt k):=by intro k hk;(iterate 1 (rcases k with _|k;· kernel_rfl));omega
  exact h k hk
 one:=λ x k=>by unfold je;dsimp only;split <;> rfl
 bytes:=aaH (by kernel_rfl)
abbrev Gi(x:Inp):Value:=.agg #[vI x.dx,vI x.dy,vI x.act]
def Cn:Value->Inp
 | .agg ⟨[.int _ a,.int _ b,.int _ c]⟩=>⟨a,b,c⟩
 |_=>dI
theorem Gj(x:Inp):Cn (Gi x)=x:=by cases x;rfl
def ii(kv:List (Int×Value×Nat))(t:Int):Option Inp:=(tR kv t).map Cn
def LocIn(kv:List (Int×Value×Nat)):Prop:=∀x∈kv,∃y,fy y/\x.2.1=Gi y
theorem LocIn.nil:LocIn []:=λ x hx=>by cases hx
theorem KM{kv:List (Int×Value×Nat)}{v:Value}(h:tR kv t=some v):∃x∈kv,x.2.1=v:=by
 unfold tR at h;cases e:oL kv t 0 with
 |none=>rw[e] at h;cases h
 |some y=>
  obtain⟨j,u⟩:=y;rw[e] at h;obtain rfl:u=v:=by simpa using h
  obtain⟨_,n,hse_⟩:=mv t kv 0 j u e;exact⟨_,go hse_,rfl⟩
theorem LocIn.get{kv:List (Int×Value×Nat)}(h:LocIn kv)(t:Int):(tR kv t=none/\ii kv t=none)\/∃x,fy x/\tR kv t=some (Gi x)/\ii kv t=some x:=by
 cases e:tR kv t with
 |none=>exact .inl ⟨rfl,by unfold ii;rw[e];rfl⟩
 |some v=>
  obtain⟨x,hx,q2_⟩:=KM e;obtain⟨y,hy,q3_⟩:=h x hx;have q4_:v=Gi y:=q2_.symm.trans q3_;exact .inr ⟨y,hy,by rw[q4_],by unfold ii;rw[e,q4_];show some (Cn (Gi y))=_;rw[Gj]⟩
theorem LocIn.ok{kv:List (Int×Value×Nat)}(h:LocIn kv){x:Inp}(e:ii kv t=some x):fy x:=by
 rcases h.get t with ⟨_,q2_⟩|⟨y,hy,_,q2_⟩
 ·rw[q2_] at e;cases e
 ·rw[q2_] at e;cases e;exact hy
theorem LocIn.put{kv:List (Int×Value×Nat)}(h:LocIn kv)(c:Nat)(k:Int){y:Inp}(hy:fy y):LocIn (lN kv c k (Gi y)):=by
 intro x hx;unfold lN at hx;split at hx
 ·next i v e=>
  obtain⟨j,hj,rfl⟩:=ae2.1 hx;rw[List.getElem_modify];split
  ·exact⟨y,hy,rfl⟩
  ·exact h _ (ac0 _)
 ·rcases np.1 hx with hx|hx
  ·exact h x hx
  ·rw[eb.1 hx];exact⟨y,hy,rfl⟩
theorem LocIn.del{kv:List (Int×Value×Nat)}(h:LocIn kv)(k:Int):LocIn (nF kv k):=by
 intro x hx;unfold nF at hx;split at hx
 ·exact h x (List.mem_of_mem_eraseIdx hx)
 ·exact h x hx
def EfsT(el:List Rw)(X8:List (List Eff))(T:HL):Prop:=∀F:HL,(∀x∈T,x∈F)->∀k,k<el.length->(el.getD k je.dflt).n=(X8.getD k []).length/\RowL aB 112 F (el.getD k je.dflt).A (X8.getD k []).length (X8.getD k [])
theorem EfsT.nil:EfsT [] [] []:=λ F _ k hk=>absurd hk (ot _)
theorem EfsT.snoc{es:List Eff}{c n:Nat}(h:EfsT el X8 T)(hl:el.length=X8.length)(hs:SlIs aB 112 es A c T1)(hn:n=es.length):EfsT (el++[⟨A,n,c⟩]) (X8++[es]) (T++T1):=λ F hF k hk=>by
 rw[gA,gA,<- hl]
 by_cases VK:k<el.length
 ·rw[if_pos VK,if_pos VK];exact h F (λ x hx=>hF x (aaB _ hx)) k VK
 ·have:k=el.length:=by simp at hk;omega
  rw[if_neg VK,if_neg VK,if_pos this,if_pos this];exact⟨hn,hs.toRowL λ x hx=>hF x (aaz _ hx)⟩
theorem EfsT.take(h:EfsT el X8 T)(k:Nat):EfsT (el.take k) (X8.take k) T:=λ F hF i hi=>by
 rw[aaN] at hi;have q1_:(X8.take k).getD i []=X8.getD i []:=by rw[aaG,aaG,abn,if_pos (by omega)]
 have q2_:(el.take k).getD i je.dflt=el.getD i je.dflt:=by rw[aaG,aaG,abn,if_pos (by omega)]
 rw[q1_,q2_];exact h F hF i (by omega)
theorem RwsT.more(h:RwsT rs xss T)(T1:HL):RwsT rs xss (T++T1):=λ F hF=>h F λ x hx=>hF x (aaB _ hx)
theorem RwsT.take(h:RwsT rs xss T)(k:Nat):RwsT (rs.take k) (xss.take k) T:=λ F hF=>(h F hF).take k
theorem RwsT.drop(h:RwsT rs xss T)(k:Nat):RwsT (rs.drop k) (xss.drop k) T:=λ F hF=>(h F hF).drop k
theorem RwsT.snocD{c n:Nat}(h:RwsT rs xss T)(hs:ClS cT 106 xs A c T1)(h1:1<=xs.length)(hn:n=xs.length):RwsT (rs++[⟨A,n,c⟩]) (xss++[xs]) (T++T1):=by
 obtain⟨A0,hs⟩:=hs;rcases hs with ⟨rfl,_⟩|⟨b,rfl,rfl,hc⟩
 ·simp at h1
 ·refine h.snoc (A:=some ⟨b,0,none⟩) (c:=c) (T1:=[(b,.rows 3 c (aD cT xs) 106 (0,0))]) (.inr ⟨b,0,xs++List.replicate (c-xs.length) cT.dflt,by simp,?_,by simp;omega,hc,by simp⟩) h1 hn;rw[abP,lr];rfl
theorem RwsT.snocI{p:Rw}(h:RwsT rs xss T)(hp:∀F,(∀x∈T,x∈F)->RwIn F xs p):RwsT (rs++[p]) (xss++[xs]) T:=λ F hF=>by
 have hse_:=h F hF;refine⟨by simp[hse_.len],λ k hk=>?_⟩;rw[gA,gA,<- hse_.len]
 by_cases VK:k<rs.length
 ·rw[if_pos VK,if_pos VK];exact hse_.row k VK
 ·have:k=rs.length:=by simp at hk;omega
  rw[if_neg VK,if_neg VK,if_pos this,if_pos this];exact hp F hF
section
variable {rs_:List Bx} {ds_:List Dr} {bp gb mb:Nat} {S:Setup} {M:MemS} {k:Nat} {G0:HL}
theorem GameX.room(h:GameX rs_ ds_ bp gb mb S M k G0):M.lg.length+k<=100000000:=by
 obtain⟨_,hm,_⟩:=h.mem;exact hm.len2
theorem GameX.raise(h:GameX rs_ ds_ bp gb mb S M k G0){k':Nat}(hk:M.lg.length+k'<=100000000):GameX rs_ ds_ bp gb mb S M k' G0:=by
 cases h with
 |mk T U hM hU=>
  refine .mk T U ?_ hU;cases hM with
  |mk cb A cap Hl hs hc hl=>exact .mk cb A cap Hl hs hc hk
theorem Sl(h:GameX rs_ ds_ bp gb mb S M k G0)(hF:∀x∈G0,x∈F)(he:M.get 0=e):af0 34 #[vP gb 0] F (vI e):=by
 subst he;cases h with
 |mk T U hM hU=>exact sc (hF _ (aaB _ (eb.2 rfl))) hM λ x hx=>hF x (by simp[ap,hx])
theorem vz{f:FuncId}{args:Array Value}{R:Value->HL->HL->Prop}{M2:MemS}{k2:Nat}(h:GameX rs_ ds_ bp gb mb S M k G0)
  (hs:∀ (T X:HL),MemH mb M k T->af1 f args (ap [] [G,T]) (X++F) (λ u H'=>∃x:HL×HL,H'=ap [] [x.1,x.2]/\(R u x.1 []/\MemH mb M2 k2 x.2))) :
  af1 f args (ap [] [G,G0]) F (λ u H'=>∃x:HL×HL,H'=ap [] [x.1,x.2]/\(R u x.1 []/\GameX rs_ ds_ bp gb mb S M2 k2 x.2)):=by
 cases h with
 |mk T U hM hU=>
  have perm:∀A B:HL,(ap [] [A,ap [(gb,Blk.lit (dW S bp mb) 119 (0,0))] [B,U]]).Perm (ap [] [A,B]++((gb,Blk.lit (dW S bp mb) 119 (0,0))::U)):=λ A B=>by
   simp only[ap,abe,aeZ,acm,WF,aaF,abB];exact ab0 A abH.symm
  refine Sp.fr (X:=(gb,Blk.lit (dW S bp mb) 119 (0,0))::U) (perm G T) (hs T _ hM) ?_;rintro u Y ⟨x,rfl,h1,hse_⟩;exact⟨_,⟨(x.1,ap [(gb,Blk.lit (dW S bp mb) 119 (0,0))] [x.2,U]),rfl,h1,.mk x.2 U hse_ hU⟩,perm x.1 x.2⟩
end
theorem Gk{α:Type}{p:α}{Tg Tn Tr Tu Te Tp Tx Tq Ts:List α}:(p::(Tg++(Tn++(Tr++(Tu++(Te++(Tp++(Tx++(Tq++Ts))))))))).Perm (Tx++(p::(Tg++(Tn++(Tr++(Tu++(Te++(Tp++(Tq++Ts))))))))):=by
 have h:=afk (p::(Tg++(Tn++(Tr++(Tu++(Te++Tp)))))) Tx (Tq++Ts);simpa [aaF] using h
theorem TW{a:Nat}{ms:List Int}(h:RingH rb mb w a ms G)(hF:∀x∈G,x∈F)(hl:ms.length<=100000000):af0 94 #[vP rb 0] F (vI (CS a ms)):=by
 cases h with
 | @mk A cap n Hl hs hn h0=>exact CT hs (λ x hx=>hF x (by simp[ap,hx])) hn (by omega) (hF _ (aaB _ aaC))
inductive PeerR(rs_:List Bx)(ds_:List Dr)(bp pp pl me w:Nat)(S:Setup)(J:Nat->Nat×Int)(P:PS (List Inp))(kv:List (Int×Value×Nat))(c sn:Nat)(X:Option (Rw×List Inp)):HL->Prop
 |mk {gb mb rb lb cl rn rc ck un uc en ec rbk sg smb:Nat} {S2 S3:Setup} {rA uA eA:Option Addr} {rl ul el:List Rw} {N:MemS} {Tg Tn Tr Tu Te Tp Tq Ts:HL}
  (q1_:P.rows.length=rn) (q2_:P.ck=ck) (q3_:P.used.length=un) (q4_:P.effs.length=en) (q5_:P.rb=rbk)
  (hse_:SetEq S S2) (hg:GameX rs_ ds_ bp gb mb S2 P.M 0 Tg) (hb:0<=P.M.base/\P.M.base+(P.M.lg.length:Int)<=20000*(c:Int))
  (hn:RingH rb mb w P.a P.ms Tn) (hkv:LocIn kv)
  (hr:SlIs kG 57 rl rA rc Tr) (hrl:rl.length=rn) (hrr:RwsT rl P.rows Tp)
  (hu:SlX kG 57 ul uA uc Tu) (hul:ul.length=un) (huu:RwsT ul P.used Tp)
  (he:SlIs je 45 el eA ec Te) (hel:el.length=en) (hee:EfsT el P.effs Tq)
  (hse3_:SetEq S S3) (hs:GameX rs_ ds_ bp sg smb S3 N 99020000 Ts) (hsc:N.cs=WS S J P.rows sn) (hsn:sn<=rn) (hsb:0<=N.base/\N.base<=1000000*(sn:Int)) (hpl:S.players=(pl:Int))
  (hX:∀p xs,X=some (p,xs)->∀F:HL,(∀y∈Tp,y∈F)->RwIn F xs p) :
  PeerR rs_ ds_ bp pp pl me w S J P kv c sn X (ap [(pp,.lit [vI (pl:Int),vI (me:Int),vI (w:Int),vP gb 0,vP rb 0,.map (some lb),.slice rA rn rc,vI (ck:Int),.slice uA un uc,.slice eA en ec,vI (rbk:Int),vP sg 0] 100 (0,0)),(lb,.obj (bG kv cl))] [Tg,Tn,Tr,Tu,Te,Tp,Tq,Ts])
theorem kc{rs_:List Bx}{ds_:List Dr}{S2:Setup}{M:MemS}{bp k:Nat}{Tg:HL}{pl rn en:Nat}{e0:Int}(hp:(pp,.lit [vI (pl:Int),vI (me:Int),vI (w:Int),vP gb 0,vP rb 0,.map (some lb),.slice rA rn rc,vI (ck:Int),.slice uA un uc,.slice eA en ec,vI (rbk:Int),vP sg 0] 100 (0,0))∈F)(hG:GameX rs_ ds_ bp gb mb S2 M k Tg)(hT:∀x∈Tg,x∈F)(he0:M.get 0=e0):af0 12 #[vP pp 0] F (vI e0):=by
 refine QH Tryz.func12 hp<|Sr 11 [.ro 0]<|aah (Sl hG (λ x hx=>aC (hT x hx)) he0)<|ae 3 [] λ _=>QJ _ _ ⟨rfl,rfl⟩
theorem iL{pl rn en:Nat}(hp:(pp,.lit [vI (pl:Int),vI (me:Int),vI (w:Int),vP gb 0,vP rb 0,.map (some lb),.slice rA rn rc,vI (ck:Int),.slice uA un uc,.slice eA en ec,vI (rbk:Int),vP sg 0] 100 (0,0))∈F):af0 15 #[vP pp 0] F (vI (rn:Int)):=by
 refine QH Tryz.func15 hp<|ae 15 [.ro 0] λ _=>QJ _ _ ⟨rfl,rfl⟩
section
variable {rs_:List Bx} {ds_:List Dr} {bp pp pl me w:Nat} {S:Setup} {J:Nat->Nat×Int} {P:PS (List Inp)} {kv:List (Int×Value×Nat)} {c sn:Nat} {X:Option (Rw×List Inp)} {G F:HL}
theorem oM(h:PeerR rs_ ds_ bp pp pl me w S J P kv c sn X G)(hF:∀x∈G,x∈F)(he:P.M.get 0=e):af0 12 #[vP pp 0] F (vI e):=by
 cases h with
 |mk q1_ q2_ q3_ q4_ q5_ hse_ hg=>exact kc (hF _ (aaB _ aaC)) hg (λ x hx=>hF x (by simp[ap,hx])) he
theorem wX(h:PeerR rs_ ds_ bp pp pl me w S J P kv c sn X G)(hF:∀x∈G,x∈F):af0 15 #[vP pp 0] F (vI (P.rows.length:Int)):=by
 cases h with
 |mk q1_ q2_ q3_ q4_ q5_ hse_ hg=>rw[q1_];exact iL (hF _ (aaB _ aaC))
end
open Go.Shelf
section
variable {r:Option Nat} {P:Program} {N:Nat} {D:List Deferred} {F:HL} {w0:World} {R:HL} {s:Cfg} {Q:Exit->Act->World->Prop} {hards:List Nat}
theorem Nq{i:Nat}(p:Nat){kv:List (Int×Value×Nat)}{cl:Nat}{k:Int}{v:Value}(hk:RD r P N D F w0 R hards [] (Sj p (bG (lN kv cl k v) (jd kv cl k)) (mH N i undef s)) Q)
  (h:tS P N p (eL i s) s=some (k,v,Gf (tS P N p (eL i s) s),Gf (tS P N p (eL i s) s),bG kv cl):=by kernel_rfl) (hx:hards.contains i=true:=by kernel_rfl):RDO r P N D F w0 R hards [] i s Q:=by
 obtain⟨o,t,m,x,y,kt,et,ik,q0,q1,q2,q3,q3',Yb,q4,q5,q5',q6,q7,I_,Ud⟩:=vw h;generalize Gf (tS P N p (eL i s) s)=b at *;obtain⟨c,kk,L,A,Ts⟩:=s;unfold eL at q0;cases c with
 |code c=>cases q0
 |ex c=>cases q0
 |ops _ _=>cases q0
 |drw ops li=>
  refine⟨λ hR=>?_⟩;simp only at q0 q3 q3' Yb q4 q5 q5' I_ Ud;have Of:∀v L',cD N o.dst v L=some L'->mH N i v ⟨.drw ops li,kk,L,A,Ts⟩=⟨.drw ops (aS li i true),kk,L',A,Ts⟩:=by
   intro v L' hl;unfold mH;simp only[q0,hl]
  have iS:∀L':FL,Sj p (bG (lN kv cl k v) (jd kv cl k)) ⟨.drw ops (aS li i true),kk,L',A,Ts⟩=⟨.drw ops (aS li i true),kk,L',aS A p (b,.obj (bG (lN kv cl k v) (jd kv cl k))),Ts⟩:=by
   intro L';unfold Sj;simp only[I_]
  refine(iZ (Q:=Q) (by simpa using q0) (σ:=Unit) (λ u _=>u=undef) (λ _=>ap (aS A p (b,.obj (bG (lN kv cl k v) (jd kv cl k)))) Ts) Ud (λ a hF=>⟨by simp[Region.wanted,q1],λ w aT hB=>?_⟩) (λ _=>⟨λ hi=>?_,λ _ x hm=>by cases hm⟩) ?_:RDO r P N D F w0 R hards [] i ⟨.drw ops li,kk,L,A,Ts⟩ Q).h hR
  ·have hb:=aT.holds _ (aaB _ (aaB _ (go I_)));simp only[Blk.den] at hb;have e1:a.eval m=.map (some b):=(hF.eval q3).trans q4;have e2:a.eval x=.int .i64 k:=(hF.eval q3').trans q5;have e3:a.eval y=v:=(hF.eval Yb).trans q5';have Yn:=qr (P:=P) (w:=w) (k:=k) (v:=v) q6 q7 hb;have hex:(execOp a.eval o).run P w=.ok .skip { w with heap:=w.heap.setIfInBounds b (bG (lN kv cl k v) (jd kv cl k)) }:=by
    rcases q2 with q2|q2
    ·simp only[execOp,q2,e1,e2,e3,abg,Yn,Result.andThen];rfl
    ·simp only[execOp,q2,e1,e2,e3,abg,Yn,Result.andThen];rfl
   unfold b9;rw[hex];have iN:=aW hb;rw[eo] at aT;have IF:=aT.upd (w':={ w with heap:=w.heap.setIfInBounds b (bG (lN kv cl k v) (jd kv cl k)) }) (bl':=.obj (bG (lN kv cl k v) (jd kv cl k))) I_ (by
    show (w.heap.setIfInBounds b _)[b]?=_;rw[lv iN];rfl) (λ k' UJ=>by
    show (w.heap.setIfInBounds b _)[k']?=_;rw[vo (λ e=>UJ e.symm)])
   exact⟨(),rfl,by rw[eo];exact IF,⟨rfl,rfl,rfl,by simp,λ k hk=>by omega⟩⟩
  ·exact absurd (abI.1 hx) hi
  ·rintro u _ rfl L' Uy hs;have h3:=hk.h hR;rw[Of _ L' Uy,iS] at h3;exact h3 hs
end
end Go.Proofs.YtjokannbjmndfaaGreatDoor
namespace Go.Proofs.YtjokannbjmndfaaGreatDoor
open Go.RowKit Go.Shelf
variable {F:HL} {J:Nat->Nat×Int} {P:PS (List Inp)} {S:Setup} {X:Option (Rw×List Inp)} {bp me pp sn w:Nat} {ds_:List Dr} {rs_:List Bx} {xi:Inp}
def fdC(T:HL)(s:Cfg):Cfg:=match s with
 | ⟨c,k,L,_,_⟩=>⟨c,k,L,[],[T]⟩
theorem Nr{r:Option Nat}{P:Program}{N:Nat}{D:List Deferred}{w0:World}{R:HL}{s:Cfg}{Q:Exit->Act->World->Prop}{B:HL}{Bs:List HL}{T:HL}(e:T=ap B Bs)(hk:RN r P N D F w0 R (fdC T s) Q)(h:(s.A,s.Ts)=(B,Bs):=by kernel_rfl):RN r P N D F w0 R s Q:=by
 obtain⟨c,k,L,A,Ts⟩:=s;simp only[df] at h;obtain⟨rfl,rfl⟩:=h;subst e;exact⟨λ hR a w h1 h2 h3=>hk.h hR a w h1 (by simpa [ap,fdC] using h2) h3⟩
theorem KN(v lo hi:Int)(anR:lo<=v)(ah8:v<=hi):af0 90 #[vI v,vI lo,vI hi] F (.bool true):=by
 refine QG Tryz.func90<|OG 11<|aal (lo<=v) 10 (λ h1=>?_) λ h1=>?_
 ·refine OG 7<|QJ (.bool (decide (v<=hi))) [] ⟨by rw[abw ah8],rfl⟩
 ·(exfalso;omega)
theorem zU{x:Inp}(h:fy x):af0 54 #[.agg #[vI x.dx,vI x.dy,vI x.act]] F (vI 0):=by
 have S_:=h;unfold fy at S_;refine QG Tryz.func54<|ae 11 [.o 0] λ n1=>aah (KN x.dx (-1) 1 (by omega) (by omega))<|Sr 4 [.o 0]<|aah (KN x.dy (-1) 1 (by omega) (by omega))<|Sr 5 [.o 0]<|aah (KN x.act 0 3 (by omega) (by omega))<|ae 12 [] λ _=>QJ _ _ ⟨rfl,rfl⟩
theorem Co{pl:Nat}{kv:List (Int×Value×Nat)}{c:Nat}{gb mb rb lb cl rn rc ck un uc en ec rbk sg smb:Nat}{S2 S3:Setup}{rA uA eA:Option Addr}{rl ul el:List Rw}{N:MemS}{Tg Tn Tr Tu Te Tp Tq Ts:HL}(q1_:P.rows.length=rn)(q2_:P.ck=ck)(q3_:P.used.length=un)(q4_:P.effs.length=en)(q5_:P.rb=rbk)(hse_:SetEq S S2)(hg:GameX rs_ ds_ bp gb mb S2 P.M 0 Tg)(hb:0<=P.M.base/\P.M.base+(P.M.lg.length:Int)<=20000*(c:Int))(hn:RingH rb mb w P.a P.ms Tn)(hkv:LocIn kv)(hr:SlIs kG 57 rl rA rc Tr)(hrl:rl.length=rn)(hrr:RwsT rl P.rows Tp)(hu:SlX kG 57 ul uA uc Tu)(hul:ul.length=un)(huu:RwsT ul P.used Tp)(he:SlIs je 45 el eA ec Te)(hel:el.length=en)(hee:EfsT el P.effs Tq)(hse3_:SetEq S S3)(hs:GameX rs_ ds_ bp sg smb S3 N 99020000 Ts)(hsc:N.cs=WS S J P.rows sn)(hsn:sn<=rn)(hsb:0<=N.base/\N.base<=1000000*(sn:Int))(hpl:S.players=(pl:Int))(hX:∀p xs,X=some (p,xs)->∀F:HL,(∀y∈Tp,y∈F)->RwIn F xs p)(t:Int)(hi:fy xi):af1 30 #[vP pp 0,vI t,.agg #[vI xi.dx,vI xi.dy,vI xi.act]] (ap [(pp,.lit [vI (pl:Int),vI (me:Int),vI (w:Int),vP gb 0,vP rb 0,.map (some lb),.slice rA rn rc,vI (ck:Int),.slice uA un uc,.slice eA en ec,vI (rbk:Int),vP sg 0] 100 (0,0)),(lb,.obj (bG kv cl))] [Tg,Tn,Tr,Tu,Te,Tp,Tq,Ts]) F (λ u H'=>∃x:List (Int×Value×Nat)×Int,u=vI x.2/\PeerR rs_ ds_ bp pp pl me w S J P x.1 c sn X H'):=by
 refine QF Tryz.func30 mn<|ae 10 (aab 3) λ n1=>aah (zU hi)<|OG 18<|aal (t<0) 17 (λ h2=>?_) λ h2=>?_
 ·refine OG 11<|QI [] [1,2] [0,1,2,3,4,5,6,7] (vI 18) (ap [(pp,.lit [vI (pl:Int),vI (me:Int),vI (w:Int),vP gb 0,vP rb 0,.map (some lb),.slice rA rn rc,vI (ck:Int),.slice uA un uc,.slice eA en ec,vI (rbk:Int),vP sg 0] 100 (0,0)),(lb,.obj (bG kv cl))] [Tg,Tn,Tr,Tu,Te,Tp,Tq,Ts]) ⟨(kv,18),rfl,PeerR.mk q1_ q2_ q3_ q4_ q5_ hse_ hg hb hn hkv hr hrl hrr hu hul huu he hel hee hse3_ hs hsc hsn hsb hpl hX⟩
 ·refine OG 5<|aal (t>=6000) 20 (λ h3=>?_) λ h3=>?_
  ·refine OG 6<|QI [] [1,2] [0,1,2,3,4,5,6,7] (vI 18) (ap [(pp,.lit [vI (pl:Int),vI (me:Int),vI (w:Int),vP gb 0,vP rb 0,.map (some lb),.slice rA rn rc,vI (ck:Int),.slice uA un uc,.slice eA en ec,vI (rbk:Int),vP sg 0] 100 (0,0)),(lb,.obj (bG kv cl))] [Tg,Tn,Tr,Tu,Te,Tp,Tq,Ts]) ⟨(kv,18),rfl,PeerR.mk q1_ q2_ q3_ q4_ q5_ hse_ hg hb hn hkv hr hrl hrr hu hul huu he hel hee hse3_ hs hsc hsn hsb hpl hX⟩
  ·refine OG 8<|aah (iL (pp:=pp) (gb:=gb) (rb:=rb) (lb:=lb) (sg:=sg) (pl:=pl) (me:=me) (w:=w) (rn:=rn) (rc:=rc) (ck:=ck) (un:=un) (uc:=uc) (en:=en) (ec:=ec) (rbk:=rbk) (rA:=rA) (uA:=uA) (eA:=eA) (ay 1))<|OG 3<|aal (t<(rn:Int)) 24 (λ h4=>?_) λ h4=>?_
   ·refine OG 6<|QI [] [1,2] [0,1,2,3,4,5,6,7] (vI 20) (ap [(pp,.lit [vI (pl:Int),vI (me:Int),vI (w:Int),vP gb 0,vP rb 0,.map (some lb),.slice rA rn rc,vI (ck:Int),.slice uA un uc,.slice eA en ec,vI (rbk:Int),vP sg 0] 100 (0,0)),(lb,.obj (bG kv cl))] [Tg,Tn,Tr,Tu,Te,Tp,Tq,Ts]) ⟨(kv,20),rfl,PeerR.mk q1_ q2_ q3_ q4_ q5_ hse_ hg hb hn hkv hr hrl hrr hu hul huu he hel hee hse3_ hs hsc hsn hsb hpl hX⟩
   ·refine ae 11 [.o 1] λ _=>?_;rcases hkv.get t with ⟨Vw,VU⟩|⟨xl,ZY,Vw,VU⟩
    ·refine pV 2 (kv:=kv) (cl:=cl) (k:=t) (ok:=true) (z:=.agg #[vI 0,vI 0,vI 0]) (v:=.tuple #[.agg #[vI 0,vI 0,vI 0],.bool false]) (by simp only[GR,Vw];rfl)<|ae 17 (aab 3) λ n5=>aak [6] []<|af [] [0,4,5,1,2,3] (ow 1 3++[.o 2])<|aae 6 (Nq 3 (kv:=kv) (cl:=cl) (k:=t) (v:=.agg #[vI xi.dx,vI xi.dy,vI xi.act]) ?_);refine QQ 6<|QI [] [2,3] [0,1,2,3,4,5,6,7] (vI 0) (ap [(pp,.lit [vI (pl:Int),vI (me:Int),vI (w:Int),vP gb 0,vP rb 0,.map (some lb),.slice rA rn rc,vI (ck:Int),.slice uA un uc,.slice eA en ec,vI (rbk:Int),vP sg 0] 100 (0,0)),(lb,.obj (bG (lN kv cl t (.agg #[vI xi.dx,vI xi.dy,vI xi.act])) (jd kv cl t)))] [Tg,Tn,Tr,Tu,Te,Tp,Tq,Ts]) ⟨(_,0),rfl,PeerR.mk q1_ q2_ q3_ q4_ q5_ hse_ hg hb hn (hkv.put cl t hi) hr hrl hrr hu hul huu he hel hee hse3_ hs hsc hsn hsb hpl hX⟩
    ·refine pV 2 (kv:=kv) (cl:=cl) (k:=t) (ok:=true) (z:=.agg #[vI 0,vI 0,vI 0]) (v:=.tuple #[.agg #[vI xl.dx,vI xl.dy,vI xl.act],.bool true]) (by simp only[GR,Vw];rfl)<|ae 19 (aab 3) λ n6=>QI [] [2,3] [0,1,2,3,4,5,6,7] (vI 4) (ap [(pp,.lit [vI (pl:Int),vI (me:Int),vI (w:Int),vP gb 0,vP rb 0,.map (some lb),.slice rA rn rc,vI (ck:Int),.slice uA un uc,.slice eA en ec,vI (rbk:Int),vP sg 0] 100 (0,0)),(lb,.obj (bG kv cl))] [Tg,Tn,Tr,Tu,Te,Tp,Tq,Ts]) ⟨(kv,4),rfl,PeerR.mk q1_ q2_ q3_ q4_ q5_ hse_ hg hb hn hkv hr hrl hrr hu hul huu he hel hee hse3_ hs hsc hsn hsb hpl hX⟩
theorem Cp{pl:Nat}{kv:List (Int×Value×Nat)}{c:Nat}{G:HL}(h:PeerR rs_ ds_ bp pp pl me w S J P kv c sn X G){t:Int}(hi:fy xi):af1 30 #[vP pp 0,vI t,.agg #[vI xi.dx,vI xi.dy,vI xi.act]] (ap [] [G]) F (λ u H'=>∃T9,H'=ap [] [T9]/\((λ u H'=>∃x:List (Int×Value×Nat)×Int,u=vI x.2/\PeerR rs_ ds_ bp pp pl me w S J P x.1 c sn X H') u T9)):=by
 rw[bm];cases h with
 |mk q1_ q2_ q3_ q4_ q5_ hse_ hg hb hn hkv hr hrl hrr hu hul huu he hel hee hse3_ hs hsc hsn hsb hpl hX=>
  exact(Co q1_ q2_ q3_ q4_ q5_ hse_ hg hb hn hkv hr hrl hrr hu hul huu he hel hee hse3_ hs hsc hsn hsb hpl hX t hi).tl
section
variable {α:Type} {e:Enc α} {T:TypeId} {F:HL} {A:Option Addr} {n cap:Nat} {xs:List α}
end
theorem vA{w:Nat}{g g':Nat->Nat->Value}:∀ {n:Nat},(∀i k,i<n->k<w->g i k=g' i k)->bj w g n=bj w g' n
 |0,_=>rfl
 |n+1,h=>by
  rw[bj,bj,vA λ i k hi hk=>h i k (by omega) hk];congr 1;exact adB λ k hk=>h n k (by omega) (afF.1 hk)
theorem oN{n:Nat}{g g':Nat->Nat->Value}{ty:TypeId}{fz:Nat×Nat}(h:∀i k,i<n->k<w->g i k=g' i k):(Blk.rows w n g ty fz).den=(Blk.rows w n g' ty fz).den:=by
 simp only[Blk.den,vA h]
section
variable {r:Option Nat} {P:Program} {N:Nat} {D:List Deferred} {F:HL} {w0:World} {R:HL} {s:Cfg} {Q:Exit->Act->World->Prop}
theorem D1(i:Nat)(a b:Blk)(e:a.den=b.den)(hk:RN r P N D F w0 R (QR i b s) Q)(h:QS i s=some a.den:=by kernel_rfl):RN r P N D F w0 R s Q:=aaj i b hk (h.trans (congrArg some e))
end
end Go.Proofs.YtjokannbjmndfaaGreatDoor
