import Derived.Test.YtdppjkjbghbnjaaGreatDoorD19
set_option maxHeartbeats 4000000
set_option maxRecDepth 100000
set_option linter.all false
namespace Go.Proofs.YtdppjkjbghbnjaaGreatDoor
open Go.RowKit
def mt:Enc Rw:=⟨1,λ p k=>match k with|0=>.slice p.A p.n p.c|_=>default,⟨none,0,0⟩⟩
noncomputable def Mt:TypeInfo:=match Tryz.prog.info? 58 with | some i=>i | none=>⟨.bool,"",0,0,false,0,0,none,false,#[]⟩
noncomputable def Mu:Value:=match Mt.zero with|some z=>z|none=>.bool false
theorem Od:EncOk mt Tryz.prog 58 Mt Mu where
 info:=by kernel_rfl
 zero:=by kernel_rfl
 size:=by kernel_rfl
 zsize:=by kernel_rfl
 zcell:=λ k hk=>by
  have h:∀k<1,Mu.cells[k]?=some (mt.cell mt.dflt k):=by intro k hk;(iterate 1 (rcases k with _|k;· kernel_rfl));omega
  exact h k hk
 one:=λ x k=>by unfold mt;dsimp only;split <;> rfl
 bytes:=aaN (by kernel_rfl)
abbrev EU(x:Inp):Value:=.agg #[vI x.dx,vI x.dy,vI x.act]
def Oe:Value -> Inp
 | .agg ⟨[.int _ a,.int _ b,.int _ c]⟩=>⟨a,b,c⟩
 | _=>dI
theorem EV(x:Inp):Oe (EU x)=x:=by cases x;rfl
def gV(kv:List (Int × Value × Nat))(t:Int):Option Inp:=(sD kv t).map Oe
def LocIn(kv:List (Int × Value × Nat)):Prop:=∀x∈kv,∃y,fh y /\ x.2.1=EU y
theorem LocIn.nil:LocIn []:=λ x hx=>by cases hx
theorem Jl{kv:List (Int × Value × Nat)}{t:Int}{v:Value}(h:sD kv t=some v):∃x∈kv,x.2.1=v:=by
 unfold sD at h;cases e:og kv t 0 with
 | none=>rw[e] at h;cases h
 | some y =>
  obtain⟨j,u⟩:=y;rw[e] at h;obtain rfl:u=v:=by simpa using h
  obtain⟨_,n,hse_⟩:=l9 t kv 0 j u e;exact⟨_,List.mem_of_getElem? hse_,rfl⟩
theorem LocIn.get{kv:List (Int × Value × Nat)}(h:LocIn kv)(t:Int):(sD kv t=none /\ gV kv t=none) \/ ∃x,fh x /\ sD kv t=some (EU x) /\ gV kv t=some x:=by
 cases e:sD kv t with
 | none=>exact .inl ⟨rfl,by unfold gV;rw[e];rfl⟩
 | some v =>
  obtain⟨x,hx,q2_⟩:=Jl e;obtain⟨y,hy,q3_⟩:=h x hx;have q4_:v=EU y:=q2_.symm.trans q3_;exact .inr ⟨y,hy,by rw[q4_],by unfold gV;rw[e,q4_];show some (Oe (EU y))=_;rw[EV]⟩
theorem LocIn.ok{kv:List (Int × Value × Nat)}(h:LocIn kv){t:Int}{x:Inp}(e:gV kv t=some x):fh x:=by
 rcases h.get t with ⟨_,q2_⟩|⟨y,hy,_,q2_⟩
 ·rw[q2_] at e;cases e
 ·rw[q2_] at e;cases e;exact hy
theorem LocIn.put{kv:List (Int × Value × Nat)}(h:LocIn kv)(c:Nat)(k:Int){y:Inp}(hy:fh y):LocIn (lD kv c k (EU y)):=by
 intro x hx;unfold lD at hx;split at hx
 ·next i v e =>
  obtain⟨j,hj,rfl⟩:=List.mem_iff_getElem.1 hx;rw[List.getElem_modify];split
  ·exact⟨y,hy,rfl⟩
  ·exact h _ (List.getElem_mem _)
 ·rcases List.mem_append.1 hx with hx|hx
  ·exact h x hx
  ·rw[List.mem_singleton.1 hx];exact⟨y,hy,rfl⟩
theorem LocIn.del{kv:List (Int × Value × Nat)}(h:LocIn kv)(k:Int):LocIn (nj kv k):=by
 intro x hx;unfold nj at hx;split at hx
 ·exact h x (List.mem_of_mem_eraseIdx hx)
 ·exact h x hx
def EfsT(el:List Rw)(Vn:List (List Eff))(T:HL):Prop:=∀F:HL,(∀x∈T,x∈F) -> ∀k,k<el.length -> (el.getD k mt.dflt).n=(Vn.getD k []).length /\ RowL nP 111 F (el.getD k mt.dflt).A (Vn.getD k []).length (Vn.getD k [])
theorem EfsT.nil:EfsT [] [] []:=λ F _ k hk=>absurd hk (Nat.not_lt_zero _)
theorem EfsT.snoc{el:List Rw}{Vn:List (List Eff)}{T T1:HL}{es:List Eff}{A:Option Addr}{c n:Nat}(h:EfsT el Vn T)(hl:el.length=Vn.length)(hs:SlIs nP 111 es A c T1)(hn:n=es.length):EfsT (el++[⟨A,n,c⟩]) (Vn++[es]) (T++T1):=λ F hF k hk=>by
 rw[gx,gx,<- hl]
 by_cases SA:k<el.length
 ·rw[if_pos SA,if_pos SA];exact h F (λ x hx=>hF x (aaw _ hx)) k SA
 ·have:k=el.length:=by simp at hk;omega
  rw[if_neg SA,if_neg SA,if_pos this,if_pos this];exact⟨hn,hs.toRowL λ x hx=>hF x (aav _ hx)⟩
theorem EfsT.take{el:List Rw}{Vn:List (List Eff)}{T:HL}(h:EfsT el Vn T)(k:Nat):EfsT (el.take k) (Vn.take k) T:=λ F hF i hi=>by
 rw[abk] at hi;have q1_:(Vn.take k).getD i []=Vn.getD i []:=by rw[aaJ,aaJ,acm,if_pos (by omega)]
 have q2_:(el.take k).getD i mt.dflt=el.getD i mt.dflt:=by rw[aaJ,aaJ,acm,if_pos (by omega)]
 rw[q1_,q2_];exact h F hF i (by omega)
theorem RwsT.more{rs:List Rw}{xss:List (List Inp)}{T:HL}(h:RwsT rs xss T)(T1:HL):RwsT rs xss (T++T1):=λ F hF=>h F λ x hx=>hF x (aaw _ hx)
theorem RwsT.take{rs:List Rw}{xss:List (List Inp)}{T:HL}(h:RwsT rs xss T)(k:Nat):RwsT (rs.take k) (xss.take k) T:=λ F hF=>(h F hF).take k
theorem RwsT.drop{rs:List Rw}{xss:List (List Inp)}{T:HL}(h:RwsT rs xss T)(k:Nat):RwsT (rs.drop k) (xss.drop k) T:=λ F hF=>(h F hF).drop k
theorem RwsT.snocD{rs:List Rw}{xss:List (List Inp)}{T T1:HL}{xs:List Inp}{A:Option Addr}{c n:Nat}(h:RwsT rs xss T)(hs:ClS cV 40 xs A c T1)(h1:1 <= xs.length)(hn:n=xs.length):RwsT (rs++[⟨A,n,c⟩]) (xss++[xs]) (T++T1):=by
 obtain⟨A0,hs⟩:=hs;rcases hs with ⟨rfl,_⟩|⟨b,rfl,rfl,hc⟩
 ·simp at h1
 ·refine h.snoc (A:=some ⟨b,0,none⟩) (c:=c) (T1:=[(b,.rows 3 c (aQ cV xs) 40 (0,0))]) (.inr ⟨b,0,xs++List.replicate (c-xs.length) cV.dflt,by simp,?_,by simp;omega,hc,by simp⟩) h1 hn;rw[Nat.zero_add,qz];rfl
theorem RwsT.snocI{rs:List Rw}{xss:List (List Inp)}{T:HL}{p:Rw}{xs:List Inp}(h:RwsT rs xss T)(hp:∀F,(∀x∈T,x∈F) -> RwIn F xs p):RwsT (rs++[p]) (xss++[xs]) T:=λ F hF=>by
 have hse_:=h F hF;refine⟨by simp[hse_.len],λ k hk=>?_⟩;rw[gx,gx,<- hse_.len]
 by_cases SA:k<rs.length
 ·rw[if_pos SA,if_pos SA];exact hse_.row k SA
 ·have:k=rs.length:=by simp at hk;omega
  rw[if_neg SA,if_neg SA,if_pos this,if_pos this];exact hp F hF
section
variable {rs_:List Bx} {ds_:List Dr} {bp gb mb:Nat} {S:Setup} {M:MemS} {k:Nat} {G0:HL}
theorem GameX.room(h:GameX rs_ ds_ bp gb mb S M k G0):M.lg.length+k <= 100000000:=by
 obtain⟨_,hm,_⟩:=h.mem;exact hm.len2
theorem GameX.raise(h:GameX rs_ ds_ bp gb mb S M k G0){k':Nat}(hk:M.lg.length+k' <= 100000000):GameX rs_ ds_ bp gb mb S M k' G0:=by
 cases h with
 | mk T U hM hU =>
  refine .mk T U ?_ hU;cases hM with
  | mk cb A cap Hl hs hc hl=>exact .mk cb A cap Hl hs hc hk
theorem Jm{F:HL}(h:GameX rs_ ds_ bp gb mb S M k G0)(hF:∀x∈G0,x∈F){e:Int}(he:M.get 0=e):Sp Tryz.prog 52 #[vP gb 0] [] F (λ u H'=>u=vI e /\ H'=[]):=by
 subst he;cases h with
 | mk T U hM hU=>exact re S bp gb mb M k T F (hF _ (aaw _ (List.mem_singleton.2 rfl))) hM λ x hx=>hF x (by simp[ap,hx])
theorem uk{f:FuncId}{args:Array Value}{F G:HL}{R:Value -> HL -> HL -> Prop}{M2:MemS}{k2:Nat}(h:GameX rs_ ds_ bp gb mb S M k G0)
  (hs:∀ (T X:HL),MemH mb M k T -> Sp Tryz.prog f args (ap [] [G,T]) (X++F) (λ u H'=>∃x:HL × HL,H'=ap [] [x.1,x.2] /\ (R u x.1 [] /\ MemH mb M2 k2 x.2))) :
  Sp Tryz.prog f args (ap [] [G,G0]) F (λ u H'=>∃x:HL × HL,H'=ap [] [x.1,x.2] /\ (R u x.1 [] /\ GameX rs_ ds_ bp gb mb S M2 k2 x.2)):=by
 cases h with
 | mk T U hM hU =>
  have perm:∀A B:HL,(ap [] [A,ap [(gb,Blk.lit (dC S bp mb) 121 (0,0))] [B,U]]).Perm (ap [] [A,B]++((gb,Blk.lit (dC S bp mb) 121 (0,0))::U)):=λ A B=>by
   simp only[ap,acb,List.flatten_nil,List.append_nil,List.nil_append,aaC,List.cons_append];exact List.Perm.append_left A List.perm_middle.symm
  refine Sp.fr (X:=(gb,Blk.lit (dC S bp mb) 121 (0,0))::U) (perm G T) (hs T _ hM) ?_;rintro u Y ⟨x,rfl,h1,hse_⟩;exact⟨_,⟨(x.1,ap [(gb,Blk.lit (dC S bp mb) 121 (0,0))] [x.2,U]),rfl,h1,.mk x.2 U hse_ hU⟩,perm x.1 x.2⟩
end
theorem EW{α:Type}(p:α)(Tg Tn Tr Tu Te Tp Tx Tq Ts:List α):(p::(Tg++(Tn++(Tr++(Tu++(Te++(Tp++(Tx++(Tq++Ts))))))))).Perm (Tx++(p::(Tg++(Tn++(Tr++(Tu++(Te++(Tp++(Tq++Ts))))))))):=by
 have h:=List.perm_append_comm_assoc (p::(Tg++(Tn++(Tr++(Tu++(Te++Tp)))))) Tx (Tq++Ts);simpa [aaC] using h
theorem Rg{rb mb w a:Nat}{ms:List Int}{G F:HL}(h:RingH rb mb w a ms G)(hF:∀x∈G,x∈F)(hl:ms.length <= 100000000):Sp Tryz.prog 76 #[vP rb 0] [] F (λ u H'=>u=vI (BD a ms) /\ H'=[]):=by
 cases h with
 | @mk A cap n Hl hs hn h0=>exact BE hs (λ x hx=>hF x (by simp[ap,hx])) hn (by omega) (hF _ (aaw _ aax))
inductive PeerR(rs_:List Bx)(ds_:List Dr)(bp pp pl me w:Nat)(S:Setup)(J:Nat -> Nat × Int)(P:PS (List Inp))(kv:List (Int × Value × Nat))(c sn:Nat)(X:Option (Rw × List Inp)):HL -> Prop
 | mk {gb mb rb lb cl rn rc ck un uc en ec rbk sg smb:Nat} {S2 S3:Setup} {rA uA eA:Option Addr} {rl ul el:List Rw} {N:MemS} {Tg Tn Tr Tu Te Tp Tq Ts:HL}
  (q1_:P.rows.length=rn) (q2_:P.ck=ck) (q3_:P.used.length=un) (q4_:P.effs.length=en) (q5_:P.rb=rbk)
  (hse_:SetEq S S2) (hg:GameX rs_ ds_ bp gb mb S2 P.M 0 Tg) (hb:0 <= P.M.base /\ P.M.base+(P.M.lg.length:Int) <= 20000*(c:Int))
  (hn:RingH rb mb w P.a P.ms Tn) (hkv:LocIn kv)
  (hr:SlIs jH 38 rl rA rc Tr) (hrl:rl.length=rn) (hrr:RwsT rl P.rows Tp)
  (hu:SlX jH 38 ul uA uc Tu) (hul:ul.length=un) (huu:RwsT ul P.used Tp)
  (he:SlIs mt 58 el eA ec Te) (hel:el.length=en) (hee:EfsT el P.effs Tq)
  (hse3_:SetEq S S3) (hs:GameX rs_ ds_ bp sg smb S3 N 99020000 Ts) (hsc:N.cs=WS S J P.rows sn) (hsn:sn <= rn) (hsb:0 <= N.base /\ N.base <= 1000000*(sn:Int)) (hpl:S.players=(pl:Int))
  (hX:∀p xs,X=some (p,xs) -> ∀F:HL,(∀y∈Tp,y∈F) -> RwIn F xs p) :
  PeerR rs_ ds_ bp pp pl me w S J P kv c sn X (ap [(pp,.lit [vI (pl:Int),vI (me:Int),vI (w:Int),vP gb 0,vP rb 0,.map (some lb),.slice rA rn rc,vI (ck:Int),.slice uA un uc,.slice eA en ec,vI (rbk:Int),vP sg 0] 102 (0,0)),(lb,.obj (bF kv cl))] [Tg,Tn,Tr,Tu,Te,Tp,Tq,Ts])
theorem j9{rs_:List Bx}{ds_:List Dr}{S2:Setup}{M:MemS}{bp mb k:Nat}{Tg:HL}(pp gb rb lb sg pl me w rn rc ck un uc en ec rbk:Nat)(rA uA eA:Option Addr)(e0:Int)(F:HL)(hp:(pp,.lit [vI (pl:Int),vI (me:Int),vI (w:Int),vP gb 0,vP rb 0,.map (some lb),.slice rA rn rc,vI (ck:Int),.slice uA un uc,.slice eA en ec,vI (rbk:Int),vP sg 0] 102 (0,0))∈F)(hG:GameX rs_ ds_ bp gb mb S2 M k Tg)(hT:∀x∈Tg,x∈F)(he0:M.get 0=e0):Sp Tryz.prog 18 #[vP pp 0] [] F (λ u H'=>u=vI e0 /\ H'=[]):=by
 refine aat Tryz.func18 rfl (mc hp mn) (A:=[]) (Ts:=[]) rfl λ w0=>?_;refine ae 11 [.ro 0] λ _=>aah (Jm hG (λ x hx=>az (hT x hx)) he0)<|ae 3 [] λ _=>?_;exact aap [] [] [] ⟨rfl,rfl⟩
theorem gA(pp gb rb lb sg pl me w rn rc ck un uc en ec rbk:Nat)(rA uA eA:Option Addr)(F:HL)(hp:(pp,.lit [vI (pl:Int),vI (me:Int),vI (w:Int),vP gb 0,vP rb 0,.map (some lb),.slice rA rn rc,vI (ck:Int),.slice uA un uc,.slice eA en ec,vI (rbk:Int),vP sg 0] 102 (0,0))∈F):Sp Tryz.prog 19 #[vP pp 0] [] F (λ u H'=>u=vI (rn:Int) /\ H'=[]):=by
 refine aat Tryz.func19 rfl (mc hp mn) (A:=[]) (Ts:=[]) rfl λ w0=>?_;refine ae 15 [.ro 0] λ _=>?_;exact aap [] [] [] ⟨rfl,rfl⟩
theorem EY(pp gb rb lb sg pl me w rn rc ck un uc en ec rbk:Nat)(rA uA eA:Option Addr)(F:HL)(hp:(pp,.lit [vI (pl:Int),vI (me:Int),vI (w:Int),vP gb 0,vP rb 0,.map (some lb),.slice rA rn rc,vI (ck:Int),.slice uA un uc,.slice eA en ec,vI (rbk:Int),vP sg 0] 102 (0,0))∈F):Sp Tryz.prog 20 #[vP pp 0] [] F (λ u H'=>u=vI (rbk:Int) /\ H'=[]):=by
 refine aat Tryz.func20 rfl (mc hp mn) (A:=[]) (Ts:=[]) rfl λ w0=>?_;refine ae 14 [.ro 0] λ _=>?_;exact aap [] [] [] ⟨rfl,rfl⟩
section
variable {rs_:List Bx} {ds_:List Dr} {bp pp pl me w:Nat} {S:Setup} {J:Nat -> Nat × Int} {P:PS (List Inp)} {kv:List (Int × Value × Nat)} {c sn:Nat} {X:Option (Rw × List Inp)} {G F:HL}
theorem yN(h:PeerR rs_ ds_ bp pp pl me w S J P kv c sn X G)(hF:∀x∈G,x∈F){e:Int}(he:P.M.get 0=e):Sp Tryz.prog 18 #[vP pp 0] [] F (λ u H'=>u=vI e /\ H'=[]):=by
 cases h with
 | mk q1_ q2_ q3_ q4_ q5_ hse_ hg=>exact j9 _ _ _ _ _ _ _ _ _ _ _ _ _ _ _ _ _ _ _ e F (hF _ (aaw _ aax)) hg (λ x hx=>hF x (by simp[ap,hx])) he
theorem AW(h:PeerR rs_ ds_ bp pp pl me w S J P kv c sn X G)(hF:∀x∈G,x∈F):Sp Tryz.prog 19 #[vP pp 0] [] F (λ u H'=>u=vI (P.rows.length:Int) /\ H'=[]):=by
 cases h with
 | mk q1_ q2_ q3_ q4_ q5_ hse_ hg=>rw[q1_];exact gA _ _ _ _ _ _ _ _ _ _ _ _ _ _ _ _ _ _ _ F (hF _ (aaw _ aax))
theorem Og(h:PeerR rs_ ds_ bp pp pl me w S J P kv c sn X G)(hF:∀x∈G,x∈F):Sp Tryz.prog 20 #[vP pp 0] [] F (λ u H'=>u=vI (P.rb:Int) /\ H'=[]):=by
 cases h with
 | mk q1_ q2_ q3_ q4_ q5_ hse_ hg=>rw[q5_];exact EY _ _ _ _ _ _ _ _ _ _ _ _ _ _ _ _ _ _ _ F (hF _ (aaw _ aax))
end
open Go.Shelf
section
variable {r:Option Nat} {P:Program} {N:Nat} {D:List Deferred} {F:HL} {w0:World} {R:HL} {s:Cfg} {Q:Exit -> Act -> World -> Prop} {hards:List Nat}
theorem LH{i:Nat}(p:Nat){kv:List (Int × Value × Nat)}{cl:Nat}{k:Int}{v:Value}(hk:RD r P N D F w0 R hards [] (P4 p (bF (lD kv cl k v) (jc kv cl k)) (vX N i undef s)) Q)
  (h:sE P N p (k9 i s) s=some (k,v,EQ (sE P N p (k9 i s) s),EQ (sE P N p (k9 i s) s),bF kv cl):=by kernel_rfl) (hx:hards.contains i=true:=by kernel_rfl):RDO r P N D F w0 R hards [] i s Q:=by
 obtain⟨o,t,m,x,y,kt,et,ik,q0,q1,q2,q3,XD,Vr,q4,q5,Z_,q6,q7,IS,RJ⟩:=uj h;generalize EQ (sE P N p (k9 i s) s)=b at *;obtain⟨c,kk,L,A,Ts⟩:=s;unfold k9 at q0;cases c with
 | code c=>cases q0
 | ex c=>cases q0
 | ops _ _=>cases q0
 | drw ops li =>
  refine⟨λ hR=>?_⟩;simp only at q0 q3 XD Vr q4 q5 Z_ IS RJ;have Ru:∀v L',eh N o.dst v L=some L' -> vX N i v ⟨.drw ops li,kk,L,A,Ts⟩=⟨.drw ops (bn li i true),kk,L',A,Ts⟩:=by
   intro v L' hl;unfold vX;simp only[q0,hl]
  have iN:∀L':FL,P4 p (bF (lD kv cl k v) (jc kv cl k)) ⟨.drw ops (bn li i true),kk,L',A,Ts⟩=⟨.drw ops (bn li i true),kk,L',bn A p (b,.obj (bF (lD kv cl k v) (jc kv cl k))),Ts⟩:=by
   intro L';unfold P4;simp only[IS]
  refine(kZ (Q:=Q) (by simpa using q0) (σ:=Unit) (λ u _=>u=undef) (λ _=>ap (bn A p (b,.obj (bF (lD kv cl k v) (jc kv cl k)))) Ts) RJ (λ a hF=>⟨by simp[Region.wanted,q1],λ w aT hB=>?_⟩) (λ _=>⟨λ hi=>?_,λ _ x hm=>by cases hm⟩) ?_:RDO r P N D F w0 R hards [] i ⟨.drw ops li,kk,L,A,Ts⟩ Q).h hR
  ·have hb:=aT.holds _ (aaw _ (aaw _ (List.mem_of_getElem? IS)));simp only[Blk.den] at hb;have e1:a.eval m=.map (some b):=(hF.eval q3).trans q4;have e2:a.eval x=.int .i64 k:=(hF.eval XD).trans q5;have e3:a.eval y=v:=(hF.eval Vr).trans Z_;have XL:=pI (P:=P) (w:=w) (k:=k) (v:=v) q6 q7 hb;have hex:(execOp a.eval o).run P w=.ok .skip { w with heap:=w.heap.setIfInBounds b (bF (lD kv cl k v) (jc kv cl k)) }:=by
    rcases q2 with q2|q2
    ·simp only[execOp,q2,e1,e2,e3,ace,XL,Result.andThen];rfl
    ·simp only[execOp,q2,e1,e2,e3,ace,XL,Result.andThen];rfl
   unfold dt;rw[hex];have iF:=cw hb;rw[eJ] at aT;have D_:=aT.upd (w':={ w with heap:=w.heap.setIfInBounds b (bF (lD kv cl k v) (jc kv cl k)) }) (bl':=.obj (bF (lD kv cl k v) (jc kv cl k))) IS (by
    show (w.heap.setIfInBounds b _)[b]?=_;rw[Array.getElem?_setIfInBounds_self_of_lt iF];rfl) (λ k' Ua=>by
    show (w.heap.setIfInBounds b _)[k']?=_;rw[Array.getElem?_setIfInBounds_ne (λ e=>Ua e.symm)])
   exact⟨(),rfl,by rw[eJ];exact D_,⟨rfl,rfl,rfl,by simp,λ k hk=>by omega⟩⟩
  ·exact absurd (List.contains_iff_mem.1 hx) hi
  ·rintro u _ rfl L' RX hs;have h3:=hk.h hR;rw[Ru _ L' RX,iN] at h3;exact h3 hs
end
end Go.Proofs.YtdppjkjbghbnjaaGreatDoor
namespace Go.Proofs.YtdppjkjbghbnjaaGreatDoor
open Go.RowKit Go.Shelf
def fdC(T:HL)(s:Cfg):Cfg:=match s with
 | ⟨c,k,L,_,_⟩=>⟨c,k,L,[],[T]⟩
theorem LI{r:Option Nat}{P:Program}{N:Nat}{D:List Deferred}{F:HL}{w0:World}{R:HL}{s:Cfg}{Q:Exit -> Act -> World -> Prop}(B:HL)(Bs:List HL){T:HL}(e:T=ap B Bs)(hk:RN r P N D F w0 R (fdC T s) Q)(h:(s.A,s.Ts)=(B,Bs):=by kernel_rfl):RN r P N D F w0 R s Q:=by
 obtain⟨c,k,L,A,Ts⟩:=s;simp only[Prod.mk.injEq] at h;obtain⟨rfl,rfl⟩:=h;subst e;exact⟨λ hR a w h1 h2 h3=>hk.h hR a w h1 (by simpa [ap,fdC] using h2) h3⟩
theorem Jn(v lo hi:Int)(F:HL)(aj9:lo <= v)(ae8:v <= hi):Sp Tryz.prog 72 #[vI v,vI lo,vI hi] [] F (λ u H'=>u=.bool true /\ H'=[]):=by
 refine aat Tryz.func72 rfl mn (A:=[]) (Ts:=[]) rfl λ w0=>?_;refine ae 11 [] λ _=>aal (lo <= v) 10 (λ h1=>?_) λ h1=>?_
 ·refine ae 7 [] λ _=>aap [] [] [] (v:=.bool (decide (v <= hi))) (H':=[]) ?_;exact⟨by rw[acr ae8],rfl⟩
 ·(exfalso;omega)
theorem yO(x:Inp)(F:HL)(h:fh x):Sp Tryz.prog 45 #[.agg #[vI x.dx,vI x.dy,vI x.act]] [] F (λ u H'=>u=vI 0 /\ H'=[]):=by
 have Rk:=h;unfold fh at Rk;refine aat Tryz.func45 rfl mn (A:=[]) (Ts:=[]) rfl λ w0=>?_;refine ae 11 [.own 0] λ n1=>aah (Jn x.dx (-1) 1 _ (by omega) (by omega))<|ae 4 [.own 0] λ _=>aah (Jn x.dy (-1) 1 _ (by omega) (by omega))<|ae 5 [.own 0] λ _=>aah (Jn x.act 0 3 _ (by omega) (by omega))<|ae 12 [] λ _=>?_;exact aap [] [] [] ⟨rfl,rfl⟩
theorem AX{rs_:List Bx}{ds_:List Dr}{bp pp pl me w:Nat}{S:Setup}{J:Nat -> Nat × Int}{P:PS (List Inp)}{kv:List (Int × Value × Nat)}{c sn:Nat}{X:Option (Rw × List Inp)}{gb mb rb lb cl rn rc ck un uc en ec rbk sg smb:Nat}{S2 S3:Setup}{rA uA eA:Option Addr}{rl ul el:List Rw}{N:MemS}{Tg Tn Tr Tu Te Tp Tq Ts F:HL}(q1_:P.rows.length=rn)(q2_:P.ck=ck)(q3_:P.used.length=un)(q4_:P.effs.length=en)(q5_:P.rb=rbk)(hse_:SetEq S S2)(hg:GameX rs_ ds_ bp gb mb S2 P.M 0 Tg)(hb:0 <= P.M.base /\ P.M.base+(P.M.lg.length:Int) <= 20000*(c:Int))(hn:RingH rb mb w P.a P.ms Tn)(hkv:LocIn kv)(hr:SlIs jH 38 rl rA rc Tr)(hrl:rl.length=rn)(hrr:RwsT rl P.rows Tp)(hu:SlX jH 38 ul uA uc Tu)(hul:ul.length=un)(huu:RwsT ul P.used Tp)(he:SlIs mt 58 el eA ec Te)(hel:el.length=en)(hee:EfsT el P.effs Tq)(hse3_:SetEq S S3)(hs:GameX rs_ ds_ bp sg smb S3 N 99020000 Ts)(hsc:N.cs=WS S J P.rows sn)(hsn:sn <= rn)(hsb:0 <= N.base /\ N.base <= 1000000*(sn:Int))(hpl:S.players=(pl:Int))(hX:∀p xs,X=some (p,xs) -> ∀F:HL,(∀y∈Tp,y∈F) -> RwIn F xs p)(t:Int)(xi:Inp)(hi:fh xi):Sp Tryz.prog 29 #[vP pp 0,vI t,.agg #[vI xi.dx,vI xi.dy,vI xi.act]] (ap [(pp,.lit [vI (pl:Int),vI (me:Int),vI (w:Int),vP gb 0,vP rb 0,.map (some lb),.slice rA rn rc,vI (ck:Int),.slice uA un uc,.slice eA en ec,vI (rbk:Int),vP sg 0] 102 (0,0)),(lb,.obj (bF kv cl))] [Tg,Tn,Tr,Tu,Te,Tp,Tq,Ts]) F (λ u H'=>∃x:List (Int × Value × Nat) × Int,u=vI x.2 /\ PeerR rs_ ds_ bp pp pl me w S J P x.1 c sn X H'):=by
 refine aat Tryz.func29 rfl mn (A:=[(pp,.lit [vI (pl:Int),vI (me:Int),vI (w:Int),vP gb 0,vP rb 0,.map (some lb),.slice rA rn rc,vI (ck:Int),.slice uA un uc,.slice eA en ec,vI (rbk:Int),vP sg 0] 102 (0,0)),(lb,.obj (bF kv cl))]) (Ts:=[Tg,Tn,Tr,Tu,Te,Tp,Tq,Ts]) rfl λ w0=>?_;refine ae 10 (aab 3) λ n1=>aah (yO xi _ hi)<|ae 18 [] λ _=>aal (t<0) 17 (λ h2=>?_) λ h2=>?_
 ·refine ae 11 [] λ _=>aap [] [1,2] [0,1,2,3,4,5,6,7] (v:=vI 18) (H':=(ap [(pp,.lit [vI (pl:Int),vI (me:Int),vI (w:Int),vP gb 0,vP rb 0,.map (some lb),.slice rA rn rc,vI (ck:Int),.slice uA un uc,.slice eA en ec,vI (rbk:Int),vP sg 0] 102 (0,0)),(lb,.obj (bF kv cl))] [Tg,Tn,Tr,Tu,Te,Tp,Tq,Ts])) ?_;exact⟨(kv,18),rfl,PeerR.mk q1_ q2_ q3_ q4_ q5_ hse_ hg hb hn hkv hr hrl hrr hu hul huu he hel hee hse3_ hs hsc hsn hsb hpl hX⟩
 ·refine ae 5 [] λ _=>aal (t >= 6000) 20 (λ h3=>?_) λ h3=>?_
  ·refine ae 6 [] λ _=>aap [] [1,2] [0,1,2,3,4,5,6,7] (v:=vI 18) (H':=(ap [(pp,.lit [vI (pl:Int),vI (me:Int),vI (w:Int),vP gb 0,vP rb 0,.map (some lb),.slice rA rn rc,vI (ck:Int),.slice uA un uc,.slice eA en ec,vI (rbk:Int),vP sg 0] 102 (0,0)),(lb,.obj (bF kv cl))] [Tg,Tn,Tr,Tu,Te,Tp,Tq,Ts])) ?_;exact⟨(kv,18),rfl,PeerR.mk q1_ q2_ q3_ q4_ q5_ hse_ hg hb hn hkv hr hrl hrr hu hul huu he hel hee hse3_ hs hsc hsn hsb hpl hX⟩
  ·refine ae 8 [] λ _=>aah (gA pp gb rb lb sg pl me w rn rc ck un uc en ec rbk rA uA eA _ (av 1))<|ae 3 [] λ _=>aal (t<(rn:Int)) 24 (λ h4=>?_) λ h4=>?_
   ·refine ae 6 [] λ _=>aap [] [1,2] [0,1,2,3,4,5,6,7] (v:=vI 20) (H':=(ap [(pp,.lit [vI (pl:Int),vI (me:Int),vI (w:Int),vP gb 0,vP rb 0,.map (some lb),.slice rA rn rc,vI (ck:Int),.slice uA un uc,.slice eA en ec,vI (rbk:Int),vP sg 0] 102 (0,0)),(lb,.obj (bF kv cl))] [Tg,Tn,Tr,Tu,Te,Tp,Tq,Ts])) ?_;exact⟨(kv,20),rfl,PeerR.mk q1_ q2_ q3_ q4_ q5_ hse_ hg hb hn hkv hr hrl hrr hu hul huu he hel hee hse3_ hs hsc hsn hsb hpl hX⟩
   ·refine ae 11 [.own 1] λ _=>?_;rcases hkv.get t with ⟨Sm,SG⟩|⟨xl,abp,Sm,SG⟩
    ·refine pg 2 (kv:=kv) (cl:=cl) (k:=t) (ok:=true) (z:=.agg #[vI 0,vI 0,vI 0]) (v:=.tuple #[.agg #[vI 0,vI 0,vI 0],.bool false]) (by simp only[Fk,Sm];rfl)<|ae 17 (aab 3) λ n5=>aak [6] []<|ag [] [0,4,5,1,2,3] [.own 1,.own 1,.own 1,.own 2]<|aae 6 (LH 3 (kv:=kv) (cl:=cl) (k:=t) (v:=.agg #[vI xi.dx,vI xi.dy,vI xi.act]) ?_);refine aad<|ae 6 [] λ _=>aap [] [2,3] [0,1,2,3,4,5,6,7] (v:=vI 0) (H':=(ap [(pp,.lit [vI (pl:Int),vI (me:Int),vI (w:Int),vP gb 0,vP rb 0,.map (some lb),.slice rA rn rc,vI (ck:Int),.slice uA un uc,.slice eA en ec,vI (rbk:Int),vP sg 0] 102 (0,0)),(lb,.obj (bF (lD kv cl t (.agg #[vI xi.dx,vI xi.dy,vI xi.act])) (jc kv cl t)))] [Tg,Tn,Tr,Tu,Te,Tp,Tq,Ts])) ?_;exact⟨(_,0),rfl,PeerR.mk q1_ q2_ q3_ q4_ q5_ hse_ hg hb hn (hkv.put cl t hi) hr hrl hrr hu hul huu he hel hee hse3_ hs hsc hsn hsb hpl hX⟩
    ·refine pg 2 (kv:=kv) (cl:=cl) (k:=t) (ok:=true) (z:=.agg #[vI 0,vI 0,vI 0]) (v:=.tuple #[.agg #[vI xl.dx,vI xl.dy,vI xl.act],.bool true]) (by simp only[Fk,Sm];rfl)<|ae 19 (aab 3) λ n6=>aap [] [2,3] [0,1,2,3,4,5,6,7] (v:=vI 4) (H':=(ap [(pp,.lit [vI (pl:Int),vI (me:Int),vI (w:Int),vP gb 0,vP rb 0,.map (some lb),.slice rA rn rc,vI (ck:Int),.slice uA un uc,.slice eA en ec,vI (rbk:Int),vP sg 0] 102 (0,0)),(lb,.obj (bF kv cl))] [Tg,Tn,Tr,Tu,Te,Tp,Tq,Ts])) ?_;exact⟨(kv,4),rfl,PeerR.mk q1_ q2_ q3_ q4_ q5_ hse_ hg hb hn hkv hr hrl hrr hu hul huu he hel hee hse3_ hs hsc hsn hsb hpl hX⟩
theorem AY{rs_:List Bx}{ds_:List Dr}{bp pp pl me w:Nat}{S:Setup}{J:Nat -> Nat × Int}{P:PS (List Inp)}{kv:List (Int × Value × Nat)}{c sn:Nat}{X:Option (Rw × List Inp)}{G F:HL}(h:PeerR rs_ ds_ bp pp pl me w S J P kv c sn X G){t:Int}{xi:Inp}(hi:fh xi):Sp Tryz.prog 29 #[vP pp 0,vI t,.agg #[vI xi.dx,vI xi.dy,vI xi.act]] (ap [] [G]) F (λ u H'=>∃T9,H'=ap [] [T9] /\ ((λ u H'=>∃x:List (Int × Value × Nat) × Int,u=vI x.2 /\ PeerR rs_ ds_ bp pp pl me w S J P x.1 c sn X H') u T9)):=by
 rw[bj];cases h with
 | mk q1_ q2_ q3_ q4_ q5_ hse_ hg hb hn hkv hr hrl hrr hu hul huu he hel hee hse3_ hs hsc hsn hsb hpl hX =>
  exact(AX q1_ q2_ q3_ q4_ q5_ hse_ hg hb hn hkv hr hrl hrr hu hul huu he hel hee hse3_ hs hsc hsn hsb hpl hX t xi hi).tl
theorem um{w:Nat}{g g':Nat -> Nat -> Value}:∀ {n:Nat},(∀i k,i<n -> k<w -> g i k=g' i k) -> bD w g n=bD w g' n
 | 0,_=>rfl
 | n+1,h=>by
  rw[bD,bD,um λ i k hi hk=>h i k (by omega) hk];congr 1;exact List.map_congr_left λ k hk=>h n k (by omega) (List.mem_range.1 hk)
theorem oh{w n:Nat}{g g':Nat -> Nat -> Value}{ty:TypeId}{fz:Nat × Nat}(h:∀i k,i<n -> k<w -> g i k=g' i k):(Blk.rows w n g ty fz).den=(Blk.rows w n g' ty fz).den:=by
 simp only[Blk.den,um h]
section
variable {r:Option Nat} {P:Program} {N:Nat} {D:List Deferred} {F:HL} {w0:World} {R:HL} {s:Cfg} {Q:Exit -> Act -> World -> Prop}
theorem CK(i:Nat)(a b:Blk)(e:a.den=b.den)(hk:RN r P N D F w0 R (OI i b s) Q)(h:OJ i s=some a.den:=by kernel_rfl):RN r P N D F w0 R s Q:=aaj i b hk (h.trans (congrArg some e))
end
theorem vM(l:List Inp){n k:Nat}(h:k<l.length)(x:Inp):∀i j,i<n -> j<3 -> dD (dD (dD (aQ cV l) k 0 (vI x.dx)) k 1 (vI x.dy)) k 2 (vI x.act) i j=aQ cV (l.set k x) i j:=λ i j _ hj=>by
 unfold dD aQ
 by_cases e:i=k
 ·subst e;rw[fG h];rcases j with _|_|_|j
  ·simp;rfl
  ·simp;rfl
  ·simp;rfl
  ·omega
 ·rw[fp (λ e2=>e e2.symm)];simp[e]
theorem EZ(n:Nat):∀i j,i<n -> j<3 -> uv [vI 0,vI 0,vI 0] i j=aQ cV (List.replicate n dI) i j:=λ i j _ hj=>by
 unfold uv aQ;have e:(List.replicate n dI).getD i cV.dflt=dI:=by
  rw[aaJ,List.getElem?_replicate];split <;> rfl
 rw[e];rcases j with _|_|_|j
 ·rfl
 ·rfl
 ·rfl
 ·omega
theorem Jo{pl:Nat}{rows:List (List Inp)}(h:rows=[]):vK pl rows=List.replicate pl dI:=by subst h;rfl
theorem E0{pl:Nat}{rows:List (List Inp)}{last l:List Inp}(h1:1 <= rows.length)(hse_:rows.getD (rows.length-1) []=last)(hse3_:l.length=last.length)(h4:∀i,i<last.length -> l.getD i dI=j6 (last.getD i dI)):vK pl rows=l:=by
 unfold vK;have e:rows.getLast?=some last:=by
  rw[List.getLast?_eq_getElem?,<- hse_,aaJ,abt (by omega)];rfl
 rw[e];show last.map j6=l;refine yE (d:=dI) (by rw[List.length_map,hse3_]) λ i hi=>?_;rw[List.length_map] at hi;rw[h4 i hi,aaJ,List.getElem?_map,aaJ,abt hi];rfl
theorem vN{F:HL}{q pl:Nat}{l:List Inp}(h:l.length=pl)(hq:(q,.rows 3 pl (aQ cV l) 40 (0,0))∈F):RwIn F l ⟨some ⟨q,0,none⟩,pl,pl⟩:=by
 subst h;have:=RwIn.mk (F:=F) (xs:=l) q 0 l.length l l.length hq (by omega) (λ k hk=>by rw[Nat.zero_add]) (aa0 _);rwa [Nat.zero_mul] at this
theorem Jp(pp gb rb lb sg pl me w rn rc ck un uc en ec rbk:Nat)(rA uA eA:Option Addr)(cl t:Nat)(kv:List (Int × Value × Nat))(rows:List (List Inp))(rl:List Rw)(Tp F:HL)(hp:(pp,.lit [vI (pl:Int),vI (me:Int),vI (w:Int),vP gb 0,vP rb 0,.map (some lb),.slice rA rn rc,vI (ck:Int),.slice uA un uc,.slice eA en ec,vI (rbk:Int),vP sg 0] 102 (0,0))∈F)(hkv:LocIn kv)(hr:RowL jH 38 F rA rn rl)(hT:RwsT rl rows Tp)(hTF:∀x∈Tp,x∈F)(L_:∀r∈rows,RowOk (pl:Int) r)(RV:rn <= 1000000)(ht8:t <= 1000000)(hpl:1 <= pl /\ pl <= 1000)(S9:me<pl):Sp Tryz.prog 49 #[vP pp 0,vI (t:Int)] [(lb,.obj (bF kv cl))] F (λ u H'=>∃x:Rw × HL,H'=ap [(lb,.obj (bF kv cl))] [x.2] /\ (u=.slice x.1.A x.1.n x.1.c /\ ∀F2,(∀y∈Tp++x.2,y∈F2) -> RwIn F2 (f5 pl me rows (gV kv) t) x.1)):=by
 have hw:=hT F hTF;refine aat Tryz.func49 rfl (mc hp mn) (A:=[(lb,.obj (bF kv cl))]) (Ts:=[]) rfl λ w0=>?_;refine ae 17 [.ro 0] λ _=>aal ((t:Int)<(rn:Int)) 17 (λ h1=>?_) λ h1=>?_
 ·have ht_:t<rn:=by omega
  refine ae 8 [.ro 0] λ _=>?_;obtain⟨qx2,ox2,Nx2,fx2,alu,af1,aep,aj0,ae_⟩:=hr.at (k:=t) (by omega);refine aN 21 (congrArg (λ v_=>(.slice v_ rn rc:Value)) af1)<|RN.ro (λ _=>(mc hp (mc aep mn)))<|aj 2 [.ix t,.rorow 1 (ox2+t) 0] [(ox2*1+t*1)=(ox2+t)*1+0 /\ (ox2+t)<Nx2,(t:Int)=((t:Nat):Int) /\ t<rn] λ _=>aN 24 (congrArg (λ v_=>(.slice v_.A v_.n v_.c:Value)) ae_)<|ae 3 [] λ _=>aap [] [0] [] (v:=.slice ((rl.getD t jH.dflt).A) ((rl.getD t jH.dflt).n) ((rl.getD t jH.dflt).c)) (H':=(ap [(lb,.obj (bF kv cl))] [])) ?_;refine⟨(⟨(rl.getD t jH.dflt).A,((rl.getD t jH.dflt).n),((rl.getD t jH.dflt).c)⟩,[]),by simp[ap],rfl,λ F2 hF=>?_⟩;rw[f5,if_pos (by rw[<- hw.len,hr.len];exact ht_)];exact(hT F2 λ x hx=>hF x (by simpa using hx)).row t (by rw[hr.len];exact ht_)
 ·refine aj 15 [.ro 0,.mk pl pl] [(pl:Int)=((pl:Nat):Int) /\ (pl:Int)=((pl:Nat):Int) /\ pl <= pl /\ 24*pl <= 140737488355328 /\ 3=3 /\ pl <= 9223372036854775807] λ n3=>CK 0 (.rows 3 pl (uv [vI 0,vI 0,vI 0]) 40 (0,0)) (.rows 3 pl (aQ cV (List.replicate pl dI)) 40 (0,0)) (oh (EZ pl))<|ae 15 [.ro 0] λ _=>aal ((rn:Int)>0) 36 (λ h4=>?_) λ h4=>?_
  ·have aei:1 <= rn:=by omega
   refine aj 9 [.ro 0,.nw] [bx ((rn:Int)-1)] λ _=>?_;obtain⟨qx5,Rn,Wx,fx5,Zv,Ti,TJ,YC,Ur⟩:=hr.at (k:=(rn-1)) (by omega);refine aN 40 (congrArg (λ v_=>(.slice v_ rn rc:Value)) Ti)<|RN.ro (λ _=>(mc hp (mc TJ mn)))<|aj 2 [.ix (rn-1),.rorow 1 (Rn+(rn-1)) 0] [(Rn*1+(rn-1)*1)=(Rn+(rn-1))*1+0 /\ (Rn+(rn-1))<Wx,(rn:Int)-1=(((rn-1):Nat):Int) /\ (rn-1)<rn] λ _=>aN 44 (congrArg (λ v_=>(.slice v_.A v_.n v_.c:Value)) Ur) ?_;obtain⟨bk,ok,Nk,fk,ck2,ek,hIk,hik,hxk,UN⟩:=hw.get (k:=rn-1) (by rw[hr.len];omega);obtain⟨last,I_⟩:∃r,rows.getD (rn-1) []=r:=⟨_,rfl⟩;rw[I_] at ek hik hxk UN;have aj_:(last.length:Int)=(pl:Int):=by rw[<- I_];exact(L_ _ (iG (by rw[<- hw.len,hr.len];omega) _)).1
   refine aN 44 (congrArg (λ v_:Rw=>Value.slice v_.A v_.n v_.c) ek)<|RN.ro (λ _=>(mc hp (mc TJ (mc hIk mn))))<|ae 5 [] λ _=>aan (σ:=Nat × List Inp) (λ ⟨k_,l_⟩=>⟨[(0,vP pp 0),(1,vI (t:Int)),(5,vS (n3+0) 0 pl pl),(44,vS bk (ok*3) last.length ck2),(45,vI (last.length:Int)),(46,vI (k_:Int))],[((n3+0),.rows 3 pl (aQ cV l_) 40 (0,0)),(lb,.obj (bF kv cl))],[],k_ <= pl /\ l_.length=pl /\ ∀i,i<k_ -> l_.getD i dI=j6 (last.getD i dI),pl-k_⟩) (0,List.replicate pl dI) [0,1] [] (⟨aa9 _,List.length_replicate,λ i hi=>absurd hi (Nat.not_lt_zero _)⟩) ?_;rintro⟨k_,l_⟩ ⟨VQ,UK,hp_⟩ XE;refine ae 6 [] λ _=>aal ((k_:Int)<(last.length:Int)) 47 (λ h8=>?_) λ h8=>?_
   ·refine aj 11 [.ix k_,.rorow 2 (ok+k_) 0,.rorow 2 (ok+k_) 1,.rorow 2 (ok+k_) 2] [((ok*3+k_*3)+2)=(ok+k_)*3+2 /\ (ok+k_)<Nk,((ok*3+k_*3)+1)=(ok+k_)*3+1 /\ (ok+k_)<Nk,(ok*3+k_*3)=(ok+k_)*3+0 /\ (ok+k_)<Nk,(k_:Int)=((k_:Nat):Int) /\ k_<last.length] λ n9=>aN 50 (congrArg (λ v_=>(.agg #[vI v_.dx,vI v_.dy,vI v_.act]:Value)) (hxk k_ (by omega)))<|ae 8 (ow 0 6) λ _=>aah (I0 (last.getD k_ dI) _)<|aj 9 [.ix k_,.row 1 k_ 0,.row 1 k_ 1,.row 1 k_ 2,.nw] [bx ((k_:Int)+1),((0+k_*3)+2)=k_*3+2 /\ k_<pl,((0+k_*3)+1)=k_*3+1 /\ k_<pl,(0+k_*3)=k_*3+0 /\ k_<pl,(k_:Int)=((k_:Nat):Int) /\ k_<pl] λ _=>CK 1 (.rows 3 pl (dD (dD (dD (aQ cV l_) k_ 0 (vI ((j6 (last.getD k_ dI)).dx))) k_ 1 (vI ((j6 (last.getD k_ dI)).dy))) k_ 2 (vI ((j6 (last.getD k_ dI)).act))) 40 (0,0)) (.rows 3 pl (aQ cV (l_.set k_ (j6 (last.getD k_ dI)))) 40 (0,0)) (oh (vM l_ (by omega) _)) ?_;refine XE (k_+1,(l_.set k_ (j6 (last.getD k_ dI)))) [1,2] [] ?_
    try dsimp only
    refine⟨⟨by omega,by rw[List.length_set];exact UK,λ i hi=>?_⟩,by omega⟩
    by_cases ei:k_=i
    ·subst ei;rw[fG (by omega)]
    ·rw[fp ei];exact hp_ i (by omega)
   ·refine ae 8 [] λ _=>?_;have hB_:vK pl rows=l_:=by
     obtain rfl:k_=last.length:=by omega
     exact E0 (by rw[<- hw.len,hr.len];exact aei) (by rw[<- hw.len,hr.len];exact I_) (by omega) hp_
    refine ae 6 [.ro 0] λ _=>?_;rcases hkv.get (t:Int) with ⟨Sm,SG⟩|⟨xl,abp,Sm,SG⟩
    ·refine pg 1 (kv:=kv) (cl:=cl) (k:=(t:Int)) (ok:=true) (z:=.agg #[vI 0,vI 0,vI 0]) (v:=.tuple #[.agg #[vI 0,vI 0,vI 0],.bool false]) (by simp only[Fk,Sm];rfl)<|ae 17 (aab 3) λ SZ=>ae 5 [] λ _=>aap [] [2,1] [] (v:=vS (n3+0) 0 pl pl) (H':=(ap [(lb,.obj (bF kv cl)),((n3+0),.rows 3 pl (aQ cV l_) 40 (0,0))] [])) ?_;have Sk:f5 pl me rows (gV kv) t=l_:=by rw[f5,if_neg (by rw[<- hw.len,hr.len];omega),SG];show _=_;rw[hB_]
     have Up:l_.length=pl:=by first|exact UK|exact List.length_replicate|(rw[List.length_set];first|exact UK|exact List.length_replicate)
     refine⟨(⟨some ⟨(n3+0),0,none⟩,pl,pl⟩,[((n3+0),.rows 3 pl (aQ cV l_) 40 (0,0))]),by simp[ap],rfl,λ F2 hF=>?_⟩;rw[Sk];exact vN Up (hF _ (aav _ (List.mem_singleton.2 rfl)))
    ·refine pg 1 (kv:=kv) (cl:=cl) (k:=(t:Int)) (ok:=true) (z:=.agg #[vI 0,vI 0,vI 0]) (v:=.tuple #[.agg #[vI xl.dx,vI xl.dy,vI xl.act],.bool true]) (by simp only[Fk,Sm];rfl)<|ae 14 (aab 3) λ n11=>aak [7] []<|aD [] [0,1,5,2,3,4,6] [.own 0,.own 0,.own 0,.ro 0,.ix me] [(me:Int)=((me:Nat):Int) /\ me<pl]<|aae 7 (fS [] [.row 1 me 0,.row 1 me 1,.row 1 me 2] [((0+me*3)+2)=me*3+2 /\ me<pl,((0+me*3)+1)=me*3+1 /\ me<pl,(0+me*3)=me*3+0 /\ me<pl] λ _=>?_);refine aad<|ae 2 [] λ _=>?_;have aeR:l_.length=pl:=by first|exact UK|exact List.length_replicate
     refine CK 1 (.rows 3 pl (dD (dD (dD (aQ cV l_) me 0 (vI xl.dx)) me 1 (vI xl.dy)) me 2 (vI xl.act)) 40 (0,0)) (.rows 3 pl (aQ cV (l_.set me xl)) 40 (0,0)) (oh (vM l_ (by omega) xl))<|ae 5 [] λ _=>aap [] [2,1] [] (v:=vS (n3+0) 0 pl pl) (H':=(ap [(lb,.obj (bF kv cl)),((n3+0),.rows 3 pl (aQ cV (l_.set me xl)) 40 (0,0))] [])) ?_;have Sk:f5 pl me rows (gV kv) t=(l_.set me xl):=by rw[f5,if_neg (by rw[<- hw.len,hr.len];omega),SG];show _=_;rw[hB_]
     have Up:(l_.set me xl).length=pl:=by first|exact UK|exact List.length_replicate|(rw[List.length_set];first|exact UK|exact List.length_replicate)
     refine⟨(⟨some ⟨(n3+0),0,none⟩,pl,pl⟩,[((n3+0),.rows 3 pl (aQ cV (l_.set me xl)) 40 (0,0))]),by simp[ap],rfl,λ F2 hF=>?_⟩;rw[Sk];exact vN Up (hF _ (aav _ (List.mem_singleton.2 rfl)))
  ·refine ae 5 [] λ _=>?_;have hB_:vK pl rows=List.replicate pl dI:=Jo (by have h_:=hw.len;rw[hr.len] at h_;exact abR (by omega));refine ae 6 [.ro 0] λ _=>?_;rcases hkv.get (t:Int) with ⟨Sm,SG⟩|⟨xl,abp,Sm,SG⟩
   ·refine pg 1 (kv:=kv) (cl:=cl) (k:=(t:Int)) (ok:=true) (z:=.agg #[vI 0,vI 0,vI 0]) (v:=.tuple #[.agg #[vI 0,vI 0,vI 0],.bool false]) (by simp only[Fk,Sm];rfl)<|ae 17 (aab 3) λ ZI=>ae 5 [] λ _=>aap [] [2,1] [] (v:=vS (n3+0) 0 pl pl) (H':=(ap [(lb,.obj (bF kv cl)),((n3+0),.rows 3 pl (aQ cV (List.replicate pl dI)) 40 (0,0))] [])) ?_;have Sk:f5 pl me rows (gV kv) t=(List.replicate pl dI):=by rw[f5,if_neg (by rw[<- hw.len,hr.len];omega),SG];show _=_;rw[hB_]
    have Up:(List.replicate pl dI).length=pl:=by first|exact UK|exact List.length_replicate|(rw[List.length_set];first|exact UK|exact List.length_replicate)
    refine⟨(⟨some ⟨(n3+0),0,none⟩,pl,pl⟩,[((n3+0),.rows 3 pl (aQ cV (List.replicate pl dI)) 40 (0,0))]),by simp[ap],rfl,λ F2 hF=>?_⟩;rw[Sk];exact vN Up (hF _ (aav _ (List.mem_singleton.2 rfl)))
   ·refine pg 1 (kv:=kv) (cl:=cl) (k:=(t:Int)) (ok:=true) (z:=.agg #[vI 0,vI 0,vI 0]) (v:=.tuple #[.agg #[vI xl.dx,vI xl.dy,vI xl.act],.bool true]) (by simp only[Fk,Sm];rfl)<|ae 14 (aab 3) λ n13=>aak [7] []<|aD [] [0,1,5,2,3,4,6] [.own 0,.own 0,.own 0,.ro 0,.ix me] [(me:Int)=((me:Nat):Int) /\ me<pl]<|aae 7 (fS [] [.row 1 me 0,.row 1 me 1,.row 1 me 2] [((0+me*3)+2)=me*3+2 /\ me<pl,((0+me*3)+1)=me*3+1 /\ me<pl,(0+me*3)=me*3+0 /\ me<pl] λ _=>?_);refine aad<|ae 2 [] λ _=>?_;have aeR:(List.replicate pl dI).length=pl:=by first|exact UK|exact List.length_replicate
    refine CK 1 (.rows 3 pl (dD (dD (dD (aQ cV (List.replicate pl dI)) me 0 (vI xl.dx)) me 1 (vI xl.dy)) me 2 (vI xl.act)) 40 (0,0)) (.rows 3 pl (aQ cV ((List.replicate pl dI).set me xl)) 40 (0,0)) (oh (vM (List.replicate pl dI) (by omega) xl))<|ae 5 [] λ _=>aap [] [2,1] [] (v:=vS (n3+0) 0 pl pl) (H':=(ap [(lb,.obj (bF kv cl)),((n3+0),.rows 3 pl (aQ cV ((List.replicate pl dI).set me xl)) 40 (0,0))] [])) ?_;have Sk:f5 pl me rows (gV kv) t=((List.replicate pl dI).set me xl):=by rw[f5,if_neg (by rw[<- hw.len,hr.len];omega),SG];show _=_;rw[hB_]
    have Up:((List.replicate pl dI).set me xl).length=pl:=by first|exact UK|exact List.length_replicate|(rw[List.length_set];first|exact UK|exact List.length_replicate)
    refine⟨(⟨some ⟨(n3+0),0,none⟩,pl,pl⟩,[((n3+0),.rows 3 pl (aQ cV ((List.replicate pl dI).set me xl)) 40 (0,0))]),by simp[ap],rfl,λ F2 hF=>?_⟩;rw[Sk];exact vN Up (hF _ (aav _ (List.mem_singleton.2 rfl)))
theorem Jq{rs_:List Bx}{ds_:List Dr}{bp pp pl me w:Nat}{S:Setup}{J:Nat -> Nat × Int}{P:PS (List Inp)}{kv:List (Int × Value × Nat)}{c sn:Nat}{X:Option (Rw × List Inp)}{G F:HL}(h:PeerR rs_ ds_ bp pp pl me w S J P kv c sn X G){t:Nat}(L_:∀r∈P.rows,RowOk (pl:Int) r)(RV:P.rows.length <= 1000000)(ht8:t <= 1000000)(aba:1 <= pl /\ pl <= 1000)(S9:me<pl):Sp Tryz.prog 49 #[vP pp 0,vI (t:Int)] (ap [] [G]) F (λ u H'=>∃x:Rw × HL,H'=ap [] [x.2] /\ (u=.slice x.1.A x.1.n x.1.c /\ PeerR rs_ ds_ bp pp pl me w S J P kv c sn (some (x.1,f5 pl me P.rows (gV kv) t)) x.2)):=by
 cases h with
 | @mk gb mb rb lb cl rn rc ck un uc en ec rbk sg smb S2 S3 rA uA eA rl ul el N Tg Tn Tr Tu Te Tp Tq Ts q1_ q2_ q3_ q4_ q5_ hse_ hg hb hn hkv hr hrl hrr hu hul huu he hel hee hse3_ hs hsc hsn hsb hpl hX =>
  have hm:∀x∈[Tg,Tn,Tr,Tu,Te,Tp,Tq,Ts].flatten,x∈((pp,.lit [vI (pl:Int),vI (me:Int),vI (w:Int),vP gb 0,vP rb 0,.map (some lb),.slice rA rn rc,vI (ck:Int),.slice uA un uc,.slice eA en ec,vI (rbk:Int),vP sg 0] 102 (0,0))::[Tg,Tn,Tr,Tu,Te,Tp,Tq,Ts].flatten)++F:=λ x hx=>aaw _ (aaA _ hx);have key:=Jp pp gb rb lb sg pl me w rn rc ck un uc en ec rbk rA uA eA cl t kv P.rows rl Tp (((pp,.lit [vI (pl:Int),vI (me:Int),vI (w:Int),vP gb 0,vP rb 0,.map (some lb),.slice rA rn rc,vI (ck:Int),.slice uA un uc,.slice eA en ec,vI (rbk:Int),vP sg 0] 102 (0,0))::[Tg,Tn,Tr,Tu,Te,Tp,Tq,Ts].flatten)++F) (aaw _ aax) hkv (by have h_:=hr.toRowL λ x hx=>hm x (by simp[hx]);rwa [hrl] at h_) hrr (λ x hx=>hm x (by simp[hx])) L_ (by omega) ht8 aba S9;refine Sp.fr (X:=(pp,.lit [vI (pl:Int),vI (me:Int),vI (w:Int),vP gb 0,vP rb 0,.map (some lb),.slice rA rn rc,vI (ck:Int),.slice uA un uc,.slice eA en ec,vI (rbk:Int),vP sg 0] 102 (0,0))::[Tg,Tn,Tr,Tu,Te,Tp,Tq,Ts].flatten) ?_ (F:=F) key ?_
  ·simp only[ap,acb,List.flatten_nil,List.append_nil,List.nil_append,List.cons_append,aaC];exact List.Perm.swap _ _ _
  ·rintro u Y ⟨⟨q,Tx⟩,rfl,h4,h5⟩;refine⟨_,⟨(q,ap [(pp,.lit [vI (pl:Int),vI (me:Int),vI (w:Int),vP gb 0,vP rb 0,.map (some lb),.slice rA rn rc,vI (ck:Int),.slice uA un uc,.slice eA en ec,vI (rbk:Int),vP sg 0] 102 (0,0)),(lb,.obj (bF kv cl))] [Tg,Tn,Tr,Tu,Te,Tp++Tx,Tq,Ts]),(bj _).symm,h4,PeerR.mk q1_ q2_ q3_ q4_ q5_ hse_ hg hb hn hkv hr hrl (hrr.more _) hu hul (huu.more _) he hel hee hse3_ hs hsc hsn hsb hpl (λ p_ xs_ h_ F2 hF=>by cases h_;exact h5 F2 hF)⟩,?_⟩;simp only[ap,acb,List.flatten_nil,List.append_nil,List.nil_append,List.cons_append,aaC];refine(List.Perm.swap _ _ _).trans (List.Perm.cons _ ?_);exact EW _ _ _ _ _ _ _ _ _ _
theorem CL{F:HL}{b o N:Nat}{full xs:List Inp}(hI:(b,.rows 3 N (kK full) 40 (0,0))∈F)(hi:o+xs.length <= N)(hx:∀k,k<xs.length -> full.getD (o+k) dI=xs.getD k dI){X:HL}:RowL cV 40 (X++F) (some ⟨b,o*3,none⟩) xs.length xs:=.rows b o N full (0,0) _ xs (aav _ hI) hi rfl hx
theorem P6{rows used:List (List Inp)}{ck k:Nat}(h1:k<used.length)(hse_:ck+k<rows.length)(hse3_:∀i,i<k -> used.getD i []=rows.getD (ck+i) [])(h4:¬ used.getD k []=rows.getD (ck+k) []):wr rows ck used=some (ck+k):=by
 induction used generalizing ck k with
 | nil=>simp at h1
 | cons u l ih =>
  rw[wr,abt (show ck<rows.length by omega)];have e0:rows.getD ck []=rows[ck]'(by omega):=by rw[aaJ,abt (show ck<rows.length by omega)];rfl
  cases k with
  | zero =>
   simp only[Nat.add_zero] at h4;rw[e0] at h4;simp only[List.getD_cons_zero] at h4;simp only[if_neg h4,Nat.add_zero]
  | succ k =>
   have h5:=hse3_ 0 (by omega);rw[Nat.add_zero,e0] at h5;simp only[List.getD_cons_zero] at h5;simp only[if_pos h5];rw[ih (ck:=ck+1) (k:=k) (by simpa using h1) (by omega) (λ i hi=>by have:=hse3_ (i+1) (by omega);rw[List.getD_cons_succ] at this;rw[this];congr 1;omega) (by rw[List.getD_cons_succ] at h4;rwa [show ck+1+k=ck+(k+1) by omega])];congr 1;omega
theorem CM{rows used:List (List Inp)}{ck k:Nat}(hse3_:∀i,i<k -> used.getD i []=rows.getD (ck+i) [])(h4:used.length <= k \/ rows.length <= ck+k):wr rows ck used=none:=by
 induction used generalizing ck k with
 | nil=>rfl
 | cons u l ih =>
  rw[wr];cases e:rows[ck]? with
  | none=>rfl
  | some r =>
   have hc:ck<rows.length:=(List.getElem?_eq_some_iff.1 e).1;cases k with
   | zero=>simp only[abr] at h4;omega
   | succ k =>
    have h6:u=r:=by
     have h5:=hse3_ 0 (by omega);rw[Nat.add_zero] at h5;simp only[List.getD_cons_zero] at h5;rw[h5,aaJ,e];rfl
    simp only[if_pos h6];exact ih (k:=k) (λ i hi=>by have:=hse3_ (i+1) (by omega);rw[List.getD_cons_succ] at this;rw[this];congr 1;omega) (by simp only[abr] at h4;omega)
theorem AZ(pp gb rb lb sg pl me w rn rc ck un uc en ec rbk:Nat)(rA uA eA:Option Addr)(rows used:List (List Inp))(rl ul:List Rw)(F:HL)(hp:(pp,.lit [vI (pl:Int),vI (me:Int),vI (w:Int),vP gb 0,vP rb 0,.map (some lb),.slice rA rn rc,vI (ck:Int),.slice uA un uc,.slice eA en ec,vI (rbk:Int),vP sg 0] 102 (0,0))∈F)(hr:RowL jH 38 F rA rn rl)(Uj:RwsIn F rl rows)(hu:RowL jH 38 F uA un ul)(hwu:RwsIn F ul used)(ZO:∀k,k<un -> (used.getD k []).length <= 1000000)(RV:rn <= 1000000)(UN:ck <= 1000000)(ZM:un <= 1000000):Sp Tryz.prog 47 #[vP pp 0] [] F (λ u H'=>u=.tuple #[vI (((wr rows ck used).getD 0:Nat):Int),.bool (wr rows ck used).isSome] /\ H'=[]):=by
 have VF:=hr.len;have aaP:=hu.len;have agT:=Uj.len;have agR:=hwu.len;refine aat Tryz.func47 rfl (mc hp mn) (A:=[]) (Ts:=[]) rfl λ w0=>?_;refine ae 18 [.ro 0] λ _=>aan (σ:=Nat) (λ k_=>⟨[(0,vP pp 0),(10,.slice uA un uc),(11,vI (un:Int)),(12,vI (k_:Int))],[],[],k_ <= un /\ ∀i,i<k_ -> ck+i<rn /\ used.getD i []=rows.getD (ck+i) [],un-k_⟩) 0 [] [] (⟨aa9 _,λ i hi=>absurd hi (Nat.not_lt_zero _)⟩) ?_;rintro k_ ⟨VQ,R_⟩ R9;refine ae 6 [] λ _=>aal ((k_:Int)<(un:Int)) 13 (λ h3=>?_) λ h3=>?_
 ·refine ae 8 [] λ _=>?_;obtain⟨qx4,Tj,Z6,fx4,acq,Va,UZ,abd,VW⟩:=hu.at (k:=k_) (by omega);refine aN 10 (congrArg (λ v_=>(.slice v_ un uc:Value)) Va)<|RN.ro (λ _=>(mc hp (mc UZ mn)))<|aj 2 [.ix k_,.rorow 1 (Tj+k_) 0] [(Tj*1+k_*1)=(Tj+k_)*1+0 /\ (Tj+k_)<Z6,(k_:Int)=((k_:Nat):Int) /\ k_<un] λ _=>aN 16 (congrArg (λ v_=>(.slice v_.A v_.n v_.c:Value)) VW) ?_;obtain⟨bu,ou,Nu,fu,cu,eu,hIu,hiu,hxu,Xe⟩:=hwu.get (k:=k_) (by rw[hu.len];omega);refine aN 16 (congrArg (λ v_:Rw=>Value.slice v_.A v_.n v_.c) eu)<|aj 27 [.ro 0,.nw,.ro 0] [bx ((ck:Int)+(k_:Int))] λ _=>aal ((ck:Int)+(k_:Int) >= (rn:Int)) 29 (λ h5=>?_) λ h5=>?_
  ·refine ae 14 [] λ _=>aap [] [] [] (v:=.tuple #[vI 0,.bool false]) (H':=[]) ?_;exact⟨by rw[CM (k:=k_) (λ i hi=>(R_ i hi).2) (by omega)];rfl,rfl⟩
  ·refine ae 11 [.ro 0] λ _=>?_;obtain⟨qx6,UD,Nx6,fx6,acp,Wq,VK,abc,VV⟩:=hr.at (k:=(ck+k_)) (by omega);refine aN 34 (congrArg (λ v_=>(.slice v_ rn rc:Value)) Wq)<|RN.ro (λ _=>(mc hp (mc UZ (mc VK mn))))<|aj 2 [.ix (ck+k_),.rorow 2 (UD+(ck+k_)) 0] [(UD*1+(ck+k_)*1)=(UD+(ck+k_))*1+0 /\ (UD+(ck+k_))<Nx6,(ck:Int)+(k_:Int)=(((ck+k_):Nat):Int) /\ (ck+k_)<rn] λ _=>aN 37 (congrArg (λ v_=>(.slice v_.A v_.n v_.c:Value)) VV) ?_;obtain⟨bv,ov,Nv,fv,cv,ev,hIv,hiv,hxv,hcv⟩:=Uj.get (k:=(ck+k_)) (by rw[hr.len];omega);refine aN 37 (congrArg (λ v_:Rw=>Value.slice v_.A v_.n v_.c) ev)<|aah (IZ (some ⟨bu,ou*3,none⟩) (some ⟨bv,ov*3,none⟩) (used.getD k_ []).length cu (rows.getD (ck+k_) []).length cv (used.getD k_ []) (rows.getD (ck+k_) []) _ (CL hIu hiu hxu) (CL hIv hiv hxv) (by have h_:=ZO k_ (by omega);omega))<|ae 3 [] λ _=>qu ((decide ((used.getD k_ [])=(rows.getD (ck+k_) [])))) 39 (λ h7=>?_) λ h7=>?_
   ·refine aj 8 [.nw] [bx ((k_:Int)+1)] λ _=>aN 10 (congrArg (λ v_=>(.slice v_ un uc:Value)) Va.symm) ?_;refine R9 (k_+1) [] [] ?_
    try dsimp only
    refine⟨⟨by omega,λ i hi=>?_⟩,by omega⟩
    by_cases ei:i=k_
    ·subst ei;exact⟨by omega,aci h7⟩
    ·exact R_ i (by omega)
   ·refine ae 8 [] λ _=>aap [] [] [] (v:=.tuple #[vI ((ck:Int)+(k_:Int)),.bool true]) (H':=[]) ?_;exact⟨by rw[P6 (k:=k_) (by omega) (by omega) (λ i hi=>(R_ i hi).2) (λ e_=>h7 (acr e_))];show _=Value.tuple #[vI ((ck+k_:Nat):Int),.bool true];rfl,rfl⟩
 ·refine ae 12 [] λ _=>aap [] [] [] (v:=.tuple #[vI 0,.bool false]) (H':=[]) ?_;exact⟨by rw[CM (k:=k_) (λ i hi=>(R_ i hi).2) (by omega)];rfl,rfl⟩
section
variable {rs_:List Bx} {ds_:List Dr} {bp gb mb:Nat} {S:Setup} {M:MemS} {k:Nat} {G0:HL}
theorem Rh{rb w a x:Nat}{ms:List Int}{G F:HL}(hX:GameX rs_ ds_ bp gb mb S M k G0)(hG:RingH rb mb w a ms G)(hx:a <= x /\ x<a+ms.length)(XJ:x <= 1000000)(hl:ms.length <= 100000000)(hr:M.base <= ms.getD (x-a) 0 /\ ms.getD (x-a) 0 <= M.base+(M.lg.length:Int))(RG:∀e∈M.lg.drop (ms.getD (x-a) 0-M.base).toNat,0 <= e.1 /\ e.1<(M.cs.length:Int))(hb:0 <= M.base /\ M.base <= 1000000000):Sp Tryz.prog 74 #[vP rb 0,vI (x:Int)] (ap [] [G,G0]) F (λ u H'=>∃y:HL × HL,H'=ap [] [y.1,y.2] /\ (u=vI 0 /\ RingH rb mb w a (ms.take (x-a+1)) y.1 /\ GameX rs_ ds_ bp gb mb S (lz M (ms.getD (x-a) 0-M.base).toNat) k y.2)):=by
 have h:=uk (F:=F) (G:=G) (R:=λ u A _=>u=vI 0 /\ RingH rb mb w a (ms.take (x-a+1)) A) (M2:=lz M (ms.getD (x-a) 0-M.base).toNat) (k2:=k) (f:=74) (args:=#[vP rb 0,vI (x:Int)]) hX λ T X hM=>(Lt (X++F) hG hx XJ hl hr RG hM hb (aa0 _)).mono λ u H' h=>by
  obtain⟨y,h1,hse_,hse3_,h4⟩:=h;exact⟨y,h1,⟨hse_,hse3_⟩,h4⟩
 exact h.mono λ u H' h=>by
  obtain⟨y,h1,⟨hse_,hse3_⟩,h4⟩:=h;exact⟨y,h1,hse_,hse3_,h4⟩
theorem P7{rb w a t:Nat}{ms:List Int}{G F:HL}(hX:GameX rs_ ds_ bp gb mb S M k G0)(hG:RingH rb mb w a ms G)(ht:ms≠[] -> t=a+ms.length)(hr:∀k∈ms,M.base <= k /\ k <= M.base+(M.lg.length:Int))(hb:0 <= M.base /\ M.base <= 1000000000)(hw:1 <= w /\ w <= 13)(WT:t <= 1000000)(hl:ms.length <= 100000000):Sp Tryz.prog 77 #[vP rb 0,vI (t:Int)] (ap [] [G,G0]) F (λ u H'=>∃y:HL × HL,H'=ap [] [y.1,y.2] /\ (u=vI 0 /\ RingH rb mb w (eE w M a ms t).2.1 (eE w M a ms t).2.2 y.1 /\ GameX rs_ ds_ bp gb mb S (eE w M a ms t).1 k y.2)):=by
 have h:=uk (F:=F) (G:=G) (R:=λ u A _=>u=vI 0 /\ RingH rb mb w (eE w M a ms t).2.1 (eE w M a ms t).2.2 A) (M2:=(eE w M a ms t).1) (k2:=k) (f:=77) (args:=#[vP rb 0,vI (t:Int)]) hX λ T X hM=>(IY (X++F) hG ht hr hM hb hw (aa0 _) WT hl).mono λ u H' h=>by
  obtain⟨y,h1,hse_,hse3_,h4⟩:=h;exact⟨y,h1,⟨hse_,hse3_⟩,h4⟩
 exact h.mono λ u H' h=>by
  obtain⟨y,h1,⟨hse_,hse3_⟩,h4⟩:=h;exact⟨y,h1,hse_,hse3_,h4⟩
end
theorem Ba{rs_:List Bx}{ds_:List Dr}{bp pp pl me w:Nat}{S:Setup}{J:Nat -> Nat × Int}{P:PS (List Inp)}{kv:List (Int × Value × Nat)}{c sn:Nat}{X:Option (Rw × List Inp)}{gb mb rb lb cl rn rc ck un uc en ec rbk sg smb:Nat}{S2 S3:Setup}{rA uA eA:Option Addr}{rl ul el:List Rw}{N:MemS}{Tg Tn Tr Tu Te Tp Tq Ts F:HL}(q1_:P.rows.length=rn)(q2_:P.ck=ck)(q3_:P.used.length=un)(q4_:P.effs.length=en)(q5_:P.rb=rbk)(hse_:SetEq S S2)(hg:GameX rs_ ds_ bp gb mb S2 P.M 0 Tg)(hb:0 <= P.M.base /\ P.M.base+(P.M.lg.length:Int) <= 20000*(c:Int))(hn:RingH rb mb w P.a P.ms Tn)(hkv:LocIn kv)(hr:SlIs jH 38 rl rA rc Tr)(hrl:rl.length=rn)(hrr:RwsT rl P.rows Tp)(hu:SlX jH 38 ul uA uc Tu)(hul:ul.length=un)(huu:RwsT ul P.used Tp)(he:SlIs mt 58 el eA ec Te)(hel:el.length=en)(hee:EfsT el P.effs Tq)(hse3_:SetEq S S3)(hs:GameX rs_ ds_ bp sg smb S3 N 99020000 Ts)(hsc:N.cs=WS S J P.rows sn)(hsn:sn <= rn)(hsb:0 <= N.base /\ N.base <= 1000000*(sn:Int))(hpl:S.players=(pl:Int))(hX:∀p xs,X=some (p,xs) -> ∀F:HL,(∀y∈Tp,y∈F) -> RwIn F xs p)(x:Nat)(hx:P.a <= x /\ x<P.a+P.ms.length)(XJ:x <= 1000000)(hl:P.ms.length <= 100000000)(TY:P.M.base <= (P.ms.getD (x-P.a) 0) /\ (P.ms.getD (x-P.a) 0) <= P.M.base+(P.M.lg.length:Int))(RG:∀e∈P.M.lg.drop ((P.ms.getD (x-P.a) 0)-P.M.base).toNat,0 <= e.1 /\ e.1<(P.M.cs.length:Int))(V4:c <= 4000)(UN:ck <= x)(hu1:x-ck <= un)(he1:x <= en)(VI:rbk <= 1000000):Sp Tryz.prog 48 #[vP pp 0,vI (x:Int)] (ap [(pp,.lit [vI (pl:Int),vI (me:Int),vI (w:Int),vP gb 0,vP rb 0,.map (some lb),.slice rA rn rc,vI (ck:Int),.slice uA un uc,.slice eA en ec,vI (rbk:Int),vP sg 0] 102 (0,0)),(lb,.obj (bF kv cl))] [Tg,Tn,Tr,Tu,Te,Tp,Tq,Ts]) F (λ u H'=>u=vI 0 /\ PeerR rs_ ds_ bp pp pl me w S J (yC P x) kv c sn none H'):=by
 have Ys:=hu.len;have afe:=he.capLe;rw[hul] at Ys;rw[hel] at afe;refine aat Tryz.func48 rfl mn (A:=[(pp,.lit [vI (pl:Int),vI (me:Int),vI (w:Int),vP gb 0,vP rb 0,.map (some lb),.slice rA rn rc,vI (ck:Int),.slice uA un uc,.slice eA en ec,vI (rbk:Int),vP sg 0] 102 (0,0)),(lb,.obj (bF kv cl))]) (Ts:=[Tg,Tn,Tr,Tu,Te,Tp,Tq,Ts]) rfl λ w0=>?_;refine ae 13 [.own 0] λ _=>aai [] [1,0] (Rh hg hn hx XJ hl TY RG (by omega)) ?_;rintro _ ⟨T1,T2⟩ ⟨rfl,hn3,hg4⟩;dsimp only at hn3 hg4;refine aj 24 [.own 0,.nw] [bx ((x:Int)-(ck:Int))] λ _=>aN 6 (congrArg (λ v_=>(vI v_:Value)) (show (x:Int)-(ck:Int)=((x-ck:Nat):Int) by omega))<|ae 8 [.own 0] λ _=>zA (A:=uA) (n:=un) (cap:=uc) (l:=0) (h:=x-ck) (m:=x-ck) (sz:=1) (li:=none) (hi:=some ((x-ck:Nat):Int)) (mi:=some ((x-ck:Nat):Int)) rfl rfl rfl (by omega) (by omega) (by omega)<|ae 13 (aab 2) λ _=>zA (A:=eA) (n:=en) (cap:=ec) (l:=0) (h:=x) (m:=ec) (sz:=1) (li:=none) (hi:=some (x:Int)) (mi:=none) rfl rfl rfl (by omega) (by omega) (by omega)<|aj 12 [.own 0,.own 0,.nw] [bx ((rbk:Int)+1)] λ _=>aN 45 (congrArg (λ v_=>(vI v_:Value)) (show (rbk:Int)+1=((rbk+1:Nat):Int) by omega))<|ae 10 [.own 0] λ _=>aap [] [0,1] [1,0,2,3,4,5,6,7] (v:=vI 0) (H':=(ap [(pp,.lit [vI (pl:Int),vI (me:Int),vI (w:Int),vP gb 0,vP rb 0,.map (some lb),.slice rA rn rc,vI (ck:Int),.slice (zz uA 0 1 (x-ck)) (x-ck-0) (x-ck-0),.slice (zz eA 0 1 ec) (x-0) (ec-0),vI ((rbk+1:Nat):Int),vP sg 0] 102 (0,0)),(lb,.obj (bF kv cl))] [T2,T1,Tr,Tu,Te,Tp,Tq,Ts])) ?_;exact⟨rfl,PeerR.mk q1_ q2_ (show (P.used.take (x-P.ck)).length=x-ck-0 by rw[abk,q3_,q2_];omega) (show (P.effs.take x).length=x-0 by rw[abk,q4_];omega) (show P.rb+1=rbk+1 by rw[q5_]) hse_ hg4 ⟨hb.1,by show P.M.base+((P.M.lg.take _).length:Int) <= _;rw[abk];omega⟩ hn3 hkv hr hrl hrr (hu.cut (k:=0) (h:=x-ck) (m:=x-ck) (aa9 _) (by rw[hul];omega) (aa0 _) (by omega)) (by rw[abq,abk,hul];omega) (by show RwsT (ul.take (x-ck)) (P.used.take (x-P.ck)) _;rw[q2_];exact huu.take _) ((he.take x).dropI (k:=0) (.inl rfl)) (by rw[abq,abk,hel];omega) (hee.take x) hse3_ hs hsc hsn hsb hpl (λ _ _ h_=>by cases h_)⟩
theorem Bb{rs_:List Bx}{ds_:List Dr}{bp pp pl me w:Nat}{S:Setup}{J:Nat -> Nat × Int}{P:PS (List Inp)}{kv:List (Int × Value × Nat)}{c sn:Nat}{X:Option (Rw × List Inp)}{G F:HL}(h:PeerR rs_ ds_ bp pp pl me w S J P kv c sn X G){x:Nat}(hx:P.a <= x /\ x<P.a+P.ms.length)(XJ:x <= 1000000)(hl:P.ms.length <= 100000000)(TY:P.M.base <= (P.ms.getD (x-P.a) 0) /\ (P.ms.getD (x-P.a) 0) <= P.M.base+(P.M.lg.length:Int))(RG:∀e∈P.M.lg.drop ((P.ms.getD (x-P.a) 0)-P.M.base).toNat,0 <= e.1 /\ e.1<(P.M.cs.length:Int))(V4:c <= 4000)(UN:P.ck <= x)(hu1:x-P.ck <= P.used.length)(he1:x <= P.effs.length)(VI:P.rb <= 1000000):Sp Tryz.prog 48 #[vP pp 0,vI (x:Int)] (ap [] [G]) F (λ u H'=>∃T9,H'=ap [] [T9] /\ ((λ u H'=>u=vI 0 /\ PeerR rs_ ds_ bp pp pl me w S J (yC P x) kv c sn none H') u T9)):=by
 rw[bj];cases h with
 | mk q1_ q2_ q3_ q4_ q5_ hse_ hg hb hn hkv hr hrl hrr hu hul huu he hel hee hse3_ hs hsc hsn hsb hpl hX =>
  exact(Ba q1_ q2_ q3_ q4_ q5_ hse_ hg hb hn hkv hr hrl hrr hu hul huu he hel hee hse3_ hs hsc hsn hsb hpl hX x hx XJ hl TY RG V4 (by omega) (by omega) (by omega) (by omega)).tl
theorem yP{rs_:List Bx}{ds_:List Dr}{bp pp pl me w:Nat}{S:Setup}{J:Nat -> Nat × Int}{P:PS (List Inp)}{kv:List (Int × Value × Nat)}{c sn:Nat}{X:Option (Rw × List Inp)}{gb mb rb lb cl rn rc ck un uc en ec rbk sg smb:Nat}{S2 S3:Setup}{rA uA eA:Option Addr}{rl ul el:List Rw}{N:MemS}{Tg Tn Tr Tu Te Tp Tq Ts F:HL}(q1_:P.rows.length=rn)(q2_:P.ck=ck)(q3_:P.used.length=un)(q4_:P.effs.length=en)(q5_:P.rb=rbk)(hse_:SetEq S S2)(hg:GameX rs_ ds_ bp gb mb S2 P.M 0 Tg)(hb:0 <= P.M.base /\ P.M.base+(P.M.lg.length:Int) <= 20000*(c:Int))(hn:RingH rb mb w P.a P.ms Tn)(hkv:LocIn kv)(hr:SlIs jH 38 rl rA rc Tr)(hrl:rl.length=rn)(hrr:RwsT rl P.rows Tp)(hu:SlX jH 38 ul uA uc Tu)(hul:ul.length=un)(huu:RwsT ul P.used Tp)(he:SlIs mt 58 el eA ec Te)(hel:el.length=en)(hee:EfsT el P.effs Tq)(hse3_:SetEq S S3)(hs:GameX rs_ ds_ bp sg smb S3 N 99020000 Ts)(hsc:N.cs=WS S J P.rows sn)(hsn:sn <= rn)(hsb:0 <= N.base /\ N.base <= 1000000*(sn:Int))(hpl:S.players=(pl:Int))(hX:∀p xs,X=some (p,xs) -> ∀F:HL,(∀y∈Tp,y∈F) -> RwIn F xs p)(now:Nat)(h0:P.M.get 0=(now:Int))(UN:ck <= min now rn)(hu1:min now rn-ck <= un)(RV:rn <= 1000000)(Sl:now <= 1000000):Sp Tryz.prog 51 #[vP pp 0] (ap [(pp,.lit [vI (pl:Int),vI (me:Int),vI (w:Int),vP gb 0,vP rb 0,.map (some lb),.slice rA rn rc,vI (ck:Int),.slice uA un uc,.slice eA en ec,vI (rbk:Int),vP sg 0] 102 (0,0)),(lb,.obj (bF kv cl))] [Tg,Tn,Tr,Tu,Te,Tp,Tq,Ts]) F (λ u H'=>u=.tuple #[] /\ PeerR rs_ ds_ bp pp pl me w S J (Lq P now) kv c sn none H'):=by
 have Ys:=hu.len;rw[hul] at Ys;refine aat Tryz.func51 rfl mn (A:=[(pp,.lit [vI (pl:Int),vI (me:Int),vI (w:Int),vP gb 0,vP rb 0,.map (some lb),.slice rA rn rc,vI (ck:Int),.slice uA un uc,.slice eA en ec,vI (rbk:Int),vP sg 0] 102 (0,0)),(lb,.obj (bF kv cl))]) (Ts:=[Tg,Tn,Tr,Tu,Te,Tp,Tq,Ts]) rfl λ w0=>?_;refine ae 3 [] λ _=>aah (j9 pp gb rb lb sg pl me w rn rc ck un uc en ec rbk rA uA eA (now:Int) _ (av 0) hg (au 0) h0)<|ae 1 [] λ _=>aah (gA pp gb rb lb sg pl me w rn rc ck un uc en ec rbk rA uA eA _ (av 0))<|ae 5 [] λ _=>aN 2 (congrArg (λ v_=>(vI v_:Value)) (show (if (rn:Int)<(now:Int) then (rn:Int) else (now:Int))=((min now rn:Nat):Int) by split <;> omega))<|aak [14] []<|aD [] [0,1,5,6,2,7,3,8,4,9,10] [.own 0,.own 0,.nw] [bx (((min now rn:Nat):Int)-(ck:Int))]<|aae 11 (RDO.slA (A:=uA) (n:=un) (cap:=uc) (l:=min now rn-ck) (sz:=1) (show ((min now rn:Nat):Int)-(ck:Int)=((min now rn-ck:Nat):Int) by omega) (by omega) (by omega) ?_);refine ag [] [12,13] []<|aae 14 (aag [] [.own 0] λ _=>?_);refine aad<|ae 8 [.own 0] λ _=>aap [] [0,1] [0,1,2,3,4,5,6,7] (v:=.tuple #[]) (H':=(ap [(pp,.lit [vI (pl:Int),vI (me:Int),vI (w:Int),vP gb 0,vP rb 0,.map (some lb),.slice rA rn rc,vI ((min now rn:Nat):Int),.slice (slA uA (min now rn-ck) 1 uc) (un-(min now rn-ck)) (uc-(min now rn-ck)),.slice eA en ec,vI (rbk:Int),vP sg 0] 102 (0,0)),(lb,.obj (bF kv cl))] [Tg,Tn,Tr,Tu,Te,Tp,Tq,Ts])) ?_;exact⟨rfl,PeerR.mk q1_ (show min now P.rows.length=min now rn by rw[q1_]) (show (P.used.drop (min now P.rows.length-P.ck)).length=un-(min now rn-ck) by rw[abq,q3_,q1_,q2_]) q4_ q5_ hse_ hg hb hn hkv hr hrl hrr (by have h_:=hu.cut (k:=min now rn-ck) (h:=ul.length) (m:=uc) (by rw[hul];omega) (aa0 _) hu.len (aa0 _);rw[List.take_length] at h_;exact h_) (by rw[abq,hul]) (by show RwsT _ (P.used.drop (min now P.rows.length-P.ck)) _;rw[q1_,q2_];exact huu.drop _) he hel hee hse3_ hs hsc hsn hsb hpl (λ _ _ h_=>by cases h_)⟩
theorem yQ{rs_:List Bx}{ds_:List Dr}{bp pp pl me w:Nat}{S:Setup}{J:Nat -> Nat × Int}{P:PS (List Inp)}{kv:List (Int × Value × Nat)}{c sn:Nat}{X:Option (Rw × List Inp)}{G F:HL}(h:PeerR rs_ ds_ bp pp pl me w S J P kv c sn X G){now:Nat}(h0:P.M.get 0=(now:Int))(UN:P.ck <= min now P.rows.length)(hu1:min now P.rows.length-P.ck <= P.used.length)(RV:P.rows.length <= 1000000)(Sl:now <= 1000000):Sp Tryz.prog 51 #[vP pp 0] (ap [] [G]) F (λ u H'=>∃T9,H'=ap [] [T9] /\ ((λ u H'=>u=.tuple #[] /\ PeerR rs_ ds_ bp pp pl me w S J (Lq P now) kv c sn none H') u T9)):=by
 rw[bj];cases h with
 | mk q1_ q2_ q3_ q4_ q5_ hse_ hg hb hn hkv hr hrl hrr hu hul huu he hel hee hse3_ hs hsc hsn hsb hpl hX =>
  exact(yP q1_ q2_ q3_ q4_ q5_ hse_ hg hb hn hkv hr hrl hrr hu hul huu he hel hee hse3_ hs hsc hsn hsb hpl hX now h0 (by omega) (by omega) (by omega) Sl).tl
section
variable {r:Option Nat} {P:Program} {N:Nat} {D:List Deferred} {F:HL} {w0:World} {R:HL} {s:Cfg} {Q:Exit -> Act -> World -> Prop}
def Ri(K:Act -> World -> Prop)(s:Cfg):Cfg:=match s with
 | ⟨.code c,k,L,A,Ts⟩=>⟨.code c,.met K::k,L,A,Ts⟩
 | s=>s
def Jr(s:Cfg):Bool:=match s.c with
 | .code _=>true
 | _=>false
def Rj(V:Inv)(s:Cfg):Cfg:=⟨.ex .normal,s.k,V.L,V.A,V.Ts⟩
theorem RN.cut{σ:Type}(V:σ -> Inv)
  (first:(∀ {s':Cfg} {R':HL} (x':σ) (ip jp:List Nat),(V x').I -> (hm:CY s'=some (MV N D F w0 V (λ x'=>(V x').I)):=by kernel_rfl) -> (h:uz (V x') ip jp s'=nE (V x'):=by kernel_rfl) -> (hp:b9 ip jp s'=true:=by kernel_rfl) -> RN r P N D F w0 R' s' Q) ->
   RN r P N D F w0 R (Ri (MV N D F w0 V (λ x'=>(V x').I)) s) Q)
  (rest:∀x,(V x).I -> RN r P N D F w0 R (Rj (V x) s) Q) (hc:Jr s=true:=by kernel_rfl):RN r P N D F w0 R s Q:=by
 refine⟨λ hR a w h1 h2 h3=>?_⟩;have h4:=(first (λ x' ip jp hi hm h hp=>pZ x' ip jp hi hm h hp)).h hR;obtain⟨c,k,L,A,Ts⟩:=s;unfold Jr at hc;split at hc
 case h_2=>cases hc
 rename_i c' e1;simp only at e1;subst e1;refine wpIn_mono (h4 a w h1 h2 h3) λ e a w q=>?_;cases e with
 | normal =>
  obtain⟨x,hI,m1,m2,m3⟩:=q;exact(rest x hI).h hR a w m1 m2 m3
 | exit id=>exact q
 | goto l=>exact q
 | ret=>exact q
 | panic ch=>exact q
 | outgrown=>exact q
end
def sF(w:Nat)(M:MemS)(a:Nat)(ms:List Int)(now:Nat):MemS × Nat × List Int:=if BD a ms=(now:Int) then (M,a,ms) else eE w M a ms now
theorem Js{ρ:Type}{w now:Nat}{P:PS ρ}:sF w P.M P.a P.ms now=((ee w P now).M,(ee w P now).a,(ee w P now).ms):=by
 unfold sF
 by_cases h:BD P.a P.ms=(now:Int)
 ·rw[if_pos h];have hse_:=vE.1 h;unfold ee;rw[if_pos hse_]
 ·rw[if_neg h];exact(Lu λ hse_=>h (vE.2 hse_)).symm
theorem LJ{w now a:Nat}{M:MemS}{ms:List Int}(h:BD a ms=(now:Int)):sF w M a ms now=(M,a,ms):=if_pos h
theorem Oh{w now a:Nat}{M:MemS}{ms:List Int}(h:¬ BD a ms=(now:Int)):sF w M a ms now=eE w M a ms now:=if_neg h
theorem Jt{w now a:Nat}{M:MemS}{ms:List Int}(hw:1 <= w)(hr:∀k∈ms,M.base <= k /\ k <= M.base+(M.lg.length:Int)):M.base <= (sF w M a ms now).1.base /\ (sF w M a ms now).1.base+((sF w M a ms now).1.lg.length:Int)=M.base+(M.lg.length:Int):=by
 unfold sF;split
 ·exact⟨Int.le_refl _,rfl⟩
 ·unfold eE;dsimp only;split
  ·next h =>
   have hse_:=ue hr (i:=1) (by omega);generalize (ms++[M.base+(M.lg.length:Int)]).getD 1 0=v at hse_ ⊢;show M.base <= M.base+(((v-M.base).toNat:Nat):Int) /\ M.base+(((v-M.base).toNat:Nat):Int)+((M.lg.drop (v-M.base).toNat).length:Int)=_;rw[abq];omega
  ·exact⟨Int.le_refl _,rfl⟩
theorem Ju{S S2:Setup}{J:Nat -> Nat × Int}{w now:Nat}{P:PS (List Inp)}{xs:List Inp}{j:Nat × Int}(h:j=J now)(hse_:SetEq S S2):(lA (gP S J) w P now xs).M=gm (kR S2 j xs) (sF w P.M P.a P.ms now).1:=by
 subst h;rw[LF hse_,Js];rfl
theorem Oi{S S2:Setup}{J:Nat -> Nat × Int}{w now:Nat}{P:PS (List Inp)}{xs:List Inp}{j:Nat × Int}(h:j=J now)(hse_:SetEq S S2):my (gP S J now xs) (ee w P now).M=my (kR S2 j xs) (sF w P.M P.a P.ms now).1:=by
 subst h;rw[LG hse_,Js]
theorem E1{g:Nat -> List Inp -> Gm}{w now:Nat}{P:PS (List Inp)}{xs:List Inp}{rb mb w2:Nat}:RingH rb mb w2 (lA g w P now xs).a (lA g w P now xs).ms=RingH rb mb w2 (sF w P.M P.a P.ms now).2.1 (sF w P.M P.a P.ms now).2.2:=by
 rw[Js];rfl
theorem Jv{rs_:List Bx}{ds_:List Dr}{bp pp pl me w:Nat}{S:Setup}{J:Nat -> Nat × Int}{P:PS (List Inp)}{kv:List (Int × Value × Nat)}{c sn:Nat}{X:Option (Rw × List Inp)}{gb mb rb lb cl rn rc ck un uc en ec rbk sg smb:Nat}{S2 S3:Setup}{rA uA eA:Option Addr}{rl ul el:List Rw}{N:MemS}{Tg Tn Tr Tu Te Tp Tq Ts F:HL}(q1_:P.rows.length=rn)(q2_:P.ck=ck)(q3_:P.used.length=un)(q4_:P.effs.length=en)(q5_:P.rb=rbk)(hse_:SetEq S S2)(hg:GameX rs_ ds_ bp gb mb S2 P.M 0 Tg)(hb:0 <= P.M.base /\ P.M.base+(P.M.lg.length:Int) <= 20000*(c:Int))(hn:RingH rb mb w P.a P.ms Tn)(hkv:LocIn kv)(hr:SlIs jH 38 rl rA rc Tr)(hrl:rl.length=rn)(hrr:RwsT rl P.rows Tp)(hu:SlX jH 38 ul uA uc Tu)(hul:ul.length=un)(huu:RwsT ul P.used Tp)(he:SlIs mt 58 el eA ec Te)(hel:el.length=en)(hee:EfsT el P.effs Tq)(hse3_:SetEq S S3)(hs:GameX rs_ ds_ bp sg smb S3 N 99020000 Ts)(hsc:N.cs=WS S J P.rows sn)(hsn:sn <= rn)(hsb:0 <= N.base /\ N.base <= 1000000*(sn:Int))(hpl:S.players=(pl:Int))(hX:∀p xs,X=some (p,xs) -> ∀F:HL,(∀y∈Tp,y∈F) -> RwIn F xs p)(now b o N1 cc:Nat)(j:Nat × Int)(full xs:List Inp)(hjj:j=J now)(hI:(b,.rows 3 N1 (kK full) 40 (0,0))∈Tp)(hir:o+xs.length <= N1)(SE:xs.length <= 1000000)(hx:∀k,k<xs.length -> full.getD (o+k) dI=xs.getD k dI)(hp:∀F2:HL,(∀y∈Tp,y∈F2) -> RwIn F2 xs ⟨some ⟨b,o*3,none⟩,xs.length,cc⟩)(h0:P.M.get 0=(now:Int))(hml:P.ms.length <= 100000000)(hrg:P.ms≠[] -> now=P.a+P.ms.length \/ now+1=P.a+P.ms.length)(hmr:∀k∈P.ms,P.M.base <= k /\ k <= P.M.base+(P.M.lg.length:Int))(hw:1 <= w /\ w <= 13)(Sl:now <= 1000000)(V4:c <= 4000)(hj:j.1<5)(hA:AtOk F bp ((sF w P.M P.a P.ms now).1.get 0) j)(hE:cG F)(hk:TkOk S2 j xs (sF w P.M P.a P.ms now).1)(ZM:un <= 1000000)(hen:en <= 1000000):Sp Tryz.prog 50 #[vP pp 0,vS b (o*3) xs.length cc] (ap [(pp,.lit [vI (pl:Int),vI (me:Int),vI (w:Int),vP gb 0,vP rb 0,.map (some lb),.slice rA rn rc,vI (ck:Int),.slice uA un uc,.slice eA en ec,vI (rbk:Int),vP sg 0] 102 (0,0)),(lb,.obj (bF kv cl))] [Tg,Tn,Tr,Tu,Te,Tp,Tq,Ts]) F (λ u H'=>u=vI 0 /\ PeerR rs_ ds_ bp pp pl me w S J (lA (gP S J) w P now xs) kv (c+1) sn none H'):=by
 have abN:=Jt (w:=w) (now:=now) (a:=P.a) hw.1 hmr;refine aat Tryz.func50 rfl mn (A:=[(pp,.lit [vI (pl:Int),vI (me:Int),vI (w:Int),vP gb 0,vP rb 0,.map (some lb),.slice rA rn rc,vI (ck:Int),.slice uA un uc,.slice eA en ec,vI (rbk:Int),vP sg 0] 102 (0,0)),(lb,.obj (bF kv cl))]) (Ts:=[Tg,Tn,Tr,Tu,Te,Tp,Tq,Ts]) rfl λ w0=>?_;refine ae 9 [] λ _=>aah (j9 pp gb rb lb sg pl me w rn rc ck un uc en ec rbk rA uA eA (now:Int) _ (av 0) hg (au 0) h0)<|ae 3 [] λ _=>RN.cut (σ:=HL × HL) (λ ⟨Tn_,Tg_⟩=>⟨[(0,vP pp 0),(1,vS b (o*3) xs.length cc)],[(pp,.lit [vI (pl:Int),vI (me:Int),vI (w:Int),vP gb 0,vP rb 0,.map (some lb),.slice rA rn rc,vI (ck:Int),.slice uA un uc,.slice eA en ec,vI (rbk:Int),vP sg 0] 102 (0,0)),(lb,.obj (bF kv cl))],[Tn_,Tg_,Tr,Tu,Te,Tp,Tq,Ts],RingH rb mb w (sF w P.M P.a P.ms now).2.1 (sF w P.M P.a P.ms now).2.2 Tn_ /\ GameX rs_ ds_ bp gb mb S2 (sF w P.M P.a P.ms now).1 0 Tg_,0⟩) ?_ ?_
 ·intro mt1;refine ae 6 [.own 0] λ _=>aah (Rg hn (au 1) hml)<|ae 4 [] λ _=>aam ((BD P.a P.ms)=(now:Int)) 18 (λ h2=>?_) λ h2=>?_
  ·refine ae 2 [] λ _=>?_;refine mt1 (Tn,Tg) [0,1] [1,0,2,3,4,5,6,7] ?_
   try dsimp only
   rw[LJ h2];exact⟨hn,hg⟩
  ·refine ae 8 [.own 0] λ _=>?_;have aes:P.ms≠[] -> now=P.a+P.ms.length:=λ e_=>(hrg e_).resolve_right λ h_=>h2 (vE.2 ⟨e_,by omega⟩);refine aai [] [1,0] (P7 hg hn aes hmr (by omega) hw (by omega) hml) ?_;rintro _ ⟨T3,T4⟩ ⟨rfl,hn5,hg6⟩;dsimp only at hn5 hg6;refine ae 11 [] λ _=>?_;refine mt1 (T3,T4) [0,1] [0,1,2,3,4,5,6,7] ?_
   try dsimp only
   rw[Oh h2];exact⟨hn5,hg6⟩
 ·rintro⟨Tn_,Tg_⟩ ⟨ZN,WD⟩;refine ae 8 [.own 0] λ _=>?_;have VX:=WD.raise (k':=100000000-20000-(sF w P.M P.a P.ms now).1.lg.length+20000) (by omega);refine aai [] [1] (yK (c:=cc) VX hj (hA.mono λ x hx=>az hx) (az hE) ((au 4) _ hI) hir SE hx hk) ?_;rintro _ ⟨⟨A7,c8,n9⟩,SX,E11⟩ ⟨Zs,aaZ,rfl⟩;dsimp only at Zs aaZ;have abl:=Zs.room;refine ae 28 [.own 0] λ ZH=>RN.appX IE ul [(⟨some ⟨b,o*3,none⟩,xs.length,cc⟩:Rw)] 4 0 hul.symm hu (by simp;omega) ?_;rintro A15 c16 Sx ⟨VE,Ym⟩;refine ae 14 [.own 1,.own 1] λ UE=>iU Od el [(⟨A7,(my (kR S2 j xs) (sF w P.M P.a P.ms now).1).length,c8⟩:Rw)] 5 0 hel.symm he (by simp;omega) ?_;rintro A21 c22 Yb ⟨aef,ajk⟩;refine ae 10 [.own 2] λ _=>sS [7,3,0,1,2,4,5,6,8]<|wo<|aap [] [2,3] [3,4,5,2,1,6,0,7] (v:=vI 0) (H':=(ap [(pp,.lit [vI (pl:Int),vI (me:Int),vI (w:Int),vP gb 0,vP rb 0,.map (some lb),.slice rA rn rc,vI (ck:Int),.slice A15 (un+1) c16,.slice A21 (en+1) c22,vI (rbk:Int),vP sg 0] 102 (0,0)),(lb,.obj (bF kv cl))] [SX,Tn_,Tr,Sx,Yb,Tp,(Tq++E11),Ts])) ?_;exact⟨rfl,PeerR.mk (by rw[(gy (g:=gP S J) (w:=w) P now xs).1];exact q1_) (by rw[(gy (g:=gP S J) (w:=w) P now xs).2.2];exact q2_) (show (P.used++[xs]).length=un+1 by rw[abi,q3_];rfl) (show (P.effs++[_]).length=en+1 by rw[abi,q4_];rfl) (by rw[(gy (g:=gP S J) (w:=w) P now xs).2.1];exact q5_) hse_ (by rw[Ju hjj hse_];exact Zs.weak (aa9 _)) (by rw[Ju hjj hse_];exact⟨by rw[jb];omega,by rw[jb];omega⟩) (by rw[E1];exact ZN) hkv hr hrl (by rw[(gy (g:=gP S J) (w:=w) P now xs).1];exact hrr) VE (by simp[hul]) (huu.snocI λ F2 h_=>hp F2 h_) aef (by simp[hel]) (by show EfsT _ (P.effs++[my (gP S J now xs) (ee w P now).M]) _;rw[Oi hjj hse_];exact hee.snoc (by rw[hel,q4_]) aaZ rfl) hse3_ hs (by rw[(gy (g:=gP S J) (w:=w) P now xs).1];exact hsc) hsn hsb hpl (λ _ _ h_=>by cases h_)⟩
theorem E2(pp gb rb lb sg pl me w rn rc ck un uc en ec rbk:Nat)(rA uA eA:Option Addr)(now sn k0 bp mb smb k:Nat)(rs_:List Bx)(ds_:List Dr)(S S2 S3:Setup)(J:Nat -> Nat × Int)(M N:MemS)(rows:List (List Inp))(rl:List Rw)(Tg Ts F:HL)(hp:(pp,.lit [vI (pl:Int),vI (me:Int),vI (w:Int),vP gb 0,vP rb 0,.map (some lb),.slice rA rn rc,vI (ck:Int),.slice uA un uc,.slice eA en ec,vI (rbk:Int),vP sg 0] 102 (0,0))∈F)(hg:GameX rs_ ds_ bp gb mb S2 M k Tg)(hT:∀x∈Tg,x∈F)(h0:M.get 0=(now:Int))(YO:k0=min now rn)(hsk:sn <= k0)(hs:GameX rs_ ds_ bp sg smb S3 N 99020000 Ts)(hsc:N.cs=WS S J rows sn)(hsb:0 <= N.base /\ N.base <= 1000000*(sn:Int))(hV:SetV S)(hse3_:SetEq S S3)(YF:rn <= 50)(L_:∀i,i<rn -> RowOk S.players (rows.getD i []))(RH:∀i,i<rn -> (J i).1<5 /\ AtOk F bp (i:Int) (J i))(hE:cG F)(hr:RowL jH 38 F rA rn rl)(hw:RwsIn F rl rows)(Sl:now <= 1000):Sp Tryz.prog 31 #[vP pp 0] (ap [] [Ts]) F (λ u H'=>∃x:Nat × MemS × HL,H'=ap [(x.1,.rows 1 (WS S J rows k0).length (aU (WS S J rows k0)) 3 (0,0))] [x.2.2] /\ (u=vS x.1 0 (WS S J rows k0).length (WS S J rows k0).length /\ x.2.1.cs=(WS S J rows k0) /\ (0 <= x.2.1.base /\ x.2.1.base <= 1000000*(k0:Int)) /\ GameX rs_ ds_ bp sg smb S3 x.2.1 99020000 x.2.2)):=by
 refine aat Tryz.func31 rfl (mc hp mn) (A:=[]) (Ts:=[Ts]) rfl λ w0=>?_;refine ae 11 [.ro 0] λ _=>aah (Ms hs (au 0))<|ae 5 [] λ _=>aan (σ:=Nat × MemS × HL) (λ ⟨i_,N_,T_⟩=>⟨[(0,vP pp 0),(3,vP smb 0)],[],[T_],i_ <= k0 /\ N_.cs=(⟨(WS S J rows i_),[],0⟩:MemS).cs /\ (0 <= N_.base /\ N_.base <= 1000000*(i_:Int)) /\ GameX rs_ ds_ bp sg smb S3 N_ 99020000 T_,k0-i_⟩) (sn,N,Ts) [] [0] (⟨hsk,hsc,hsb,hs⟩) ?_;rintro⟨i_,N_,T_⟩ ⟨VS,RO,ZU,WD⟩ R9;have adW:=Jh (J:=J) hV hse3_ YF L_ (i:=i_) (by omega);have UB:N_.get 0=(i_:Int):=by rw[oZ RO];exact adW.t0
 refine ae 7 [.ro 0] λ _=>aah (Jm WD (au 0) UB)<|ae 1 [] λ _=>aah (j9 pp gb rb lb sg pl me w rn rc ck un uc en ec rbk rA uA eA (now:Int) _ (az hp) hg (λ x hx=>az (hT x hx)) h0)<|ae 1 [] λ _=>aah (gA pp gb rb lb sg pl me w rn rc ck un uc en ec rbk rA uA eA _ (az hp))<|ae 1 [] λ _=>aN 21 (congrArg (λ v_=>(vI v_:Value)) (show (if (rn:Int)<(now:Int) then (rn:Int) else (now:Int))=(k0:Int) by split <;> omega))<|ae 3 [] λ _=>aal ((i_:Int)<(k0:Int)) 22 (λ h3=>?_) λ h3=>?_
 ·refine ae 6 [] λ _=>aak [15] []<|ag [] [0,4,8,1,5,9,2,6,10,3,7,11] [.ro 0,.ro 0,.ro 0]<|aac [] 12 (λ X_=>(Jm WD (aK 0) UB)) ?_;obtain⟨qx4,Tj,Z6,fx4,acq,Va,UZ,abd,VW⟩:=hr.at (k:=i_) (by omega);refine iV 31 (congrArg (λ v_=>(.slice v_ rn rc:Value)) Va)<|RD.ro (λ _=>(mc hp (mc UZ mn)))<|aD [] [13,14] [.ix i_,.rorow 1 (Tj+i_) 0] [(Tj*1+i_*1)=(Tj+i_)*1+0 /\ (Tj+i_)<Z6,(i_:Int)=((i_:Nat):Int) /\ i_<rn]<|iV 38 (congrArg (λ v_=>(.slice v_.A v_.n v_.c:Value)) VW) ?_;obtain⟨bk,ok,Nk,fk,ck2,ek,hIk,hik,hxk,akG⟩:=hw.get (k:=i_) (by rw[hr.len];omega);refine iV 38 (congrArg (λ v_:Rw=>Value.slice v_.A v_.n v_.c) ek)<|aae 15 (aaf [] [] [0] (yK (c:=ck2) (k:=99000000) WD (RH i_ (by omega)).1 (by rw[UB];exact(RH i_ (by omega)).2.mono λ x hx=>az hx) (az hE) (az hIk) hik (by have h_:=(L_ i_ (by omega)).1;have R5:=hV.pl;omega) hxk ((Mr hV hse3_ YF L_ (by omega)).cs RO.symm)) ?_);rintro _ ⟨⟨A5,c6,n7⟩,T8,E9⟩ ⟨Xv,UW,rfl⟩;dsimp only at Xv UW;have abl:=Xv.room;have Zc:0 <= (gm (kR S3 (J i_) (rows.getD i_ [])) N_).base /\ (gm (kR S3 (J i_) (rows.getD i_ [])) N_).base <= 1000000000:=by rw[jb];omega
  refine ag [] [16,17,18,19,20,21,22] []<|aad<|ae 13 [] λ _=>aah (N9 Xv (au 0) Zc)<|aai [] [0] (P3 (k2:=99020000) Xv _ (by decide) Zc) ?_;rintro _ ZC ⟨rfl,afY⟩;refine ae 2 [] λ _=>?_;refine R9 (i_+1,⟨(gm (kR S3 (J i_) (rows.getD i_ [])) N_).cs,[],(gm (kR S3 (J i_) (rows.getD i_ [])) N_).base+((gm (kR S3 (J i_) (rows.getD i_ [])) N_).lg.length:Int)⟩,ZC) [] [0] ?_
  try dsimp only
  refine⟨⟨by omega,?_,⟨?_,?_⟩,afY⟩,by omega⟩
  ·exact(uV _ RO).trans (CG hse3_ i_).symm
  ·show 0 <= (gm (kR S3 (J i_) (rows.getD i_ [])) N_).base+_;rw[jb];omega
  ·show (gm (kR S3 (J i_) (rows.getD i_ [])) N_).base+_ <= _;rw[jb];omega
 ·refine ae 9 [] λ _=>aai (Hp:=[]) (Tp:=[]) [] [] (N8 WD (au 0)) ?_;rintro _ q14 rfl;refine ae 3 [] λ _=>aap [] [0] [0] (v:=vS q14 0 N_.cs.length N_.cs.length) (H':=(ap [(q14,.rows 1 N_.cs.length (aU N_.cs) 3 (0,0))] [T_])) ?_;obtain rfl:i_=k0:=by omega
  have Za:N_.cs=(WS S J rows i_):=RO;exact⟨(q14,N_,T_),by rw[Za],by rw[Za],Za,ZU,WD⟩
theorem Bc{rs_:List Bx}{ds_:List Dr}{bp pp pl me w:Nat}{S:Setup}{J:Nat -> Nat × Int}{P:PS (List Inp)}{kv:List (Int × Value × Nat)}{c sn:Nat}{X:Option (Rw × List Inp)}{G F:HL}(h:PeerR rs_ ds_ bp pp pl me w S J P kv c sn X G)(hF:∀x∈G,x∈F)(ZO:∀k,k<P.used.length -> (P.used.getD k []).length <= 1000000)(RV:P.rows.length <= 1000000)(UN:P.ck <= 1000000)(ZM:P.used.length <= 1000000):Sp Tryz.prog 47 #[vP pp 0] [] F (λ u H'=>u=.tuple #[vI (((wr P.rows P.ck P.used).getD 0:Nat):Int),.bool (wr P.rows P.ck P.used).isSome] /\ H'=[]):=by
 cases h with
 | mk q1_ q2_ q3_ q4_ q5_ hse_ hg hb hn hkv hr hrl hrr hu hul huu he hel hee hse3_ hs hsc hsn hsb hpl hX =>
  subst q1_;subst q2_;subst q3_;exact AZ _ _ _ _ _ _ _ _ _ _ _ _ _ _ _ _ _ _ _ P.rows P.used _ _ F (hF _ (aaw _ aax)) (by have h_:=hr.toRowL λ x hx=>hF x (by simp[ap,hx]);rwa [hrl] at h_) (hrr F λ x hx=>hF x (by simp[ap,hx])) (by have h_:=hu.toRowL λ x hx=>hF x (by simp[ap,hx]);rwa [hul] at h_) (huu F λ x hx=>hF x (by simp[ap,hx])) ZO RV UN ZM
theorem pi{rs_:List Bx}{ds_:List Dr}{bp pp pl me w:Nat}{S:Setup}{J:Nat -> Nat × Int}{P:PS (List Inp)}{kv:List (Int × Value × Nat)}{c sn:Nat}{X:Option (Rw × List Inp)}{G F:HL}(h:PeerR rs_ ds_ bp pp pl me w S J P kv c sn X G){now k0:Nat}(h0:P.M.get 0=(now:Int))(YO:k0=min now P.rows.length)(hsk:sn <= k0)(hV:SetV S)(YF:P.rows.length <= 50)(L_:∀r∈P.rows,RowOk S.players r)(RH:∀i,i <= 50 -> (J i).1<5 /\ AtOk F bp (i:Int) (J i))(hE:cG F)(Sl:now <= 1000){W:List Int}(hW:WS S J P.rows k0=W):Sp Tryz.prog 31 #[vP pp 0] (ap [] [G]) F (λ u H'=>∃x:Nat × HL,H'=ap [(x.1,.rows 1 W.length (aU W) 3 (0,0))] [x.2] /\ (u=vS x.1 0 W.length W.length /\ PeerR rs_ ds_ bp pp pl me w S J P kv c k0 X x.2)):=by
 subst hW;cases h with
 | @mk gb mb rb lb cl rn rc ck un uc en ec rbk sg smb S2 S3 rA uA eA rl ul el N Tg Tn Tr Tu Te Tp Tq Ts q1_ q2_ q3_ q4_ q5_ hse_ hg hb hn hkv hr hrl hrr hu hul huu he hel hee hse3_ hs hsc hsn hsb hpl hX =>
  have hm:∀x∈((pp,.lit [vI (pl:Int),vI (me:Int),vI (w:Int),vP gb 0,vP rb 0,.map (some lb),.slice rA rn rc,vI (ck:Int),.slice uA un uc,.slice eA en ec,vI (rbk:Int),vP sg 0] 102 (0,0))::(lb,.obj (bF kv cl))::(Tg++(Tn++(Tr++(Tu++(Te++(Tp++Tq))))))),x∈((pp,.lit [vI (pl:Int),vI (me:Int),vI (w:Int),vP gb 0,vP rb 0,.map (some lb),.slice rA rn rc,vI (ck:Int),.slice uA un uc,.slice eA en ec,vI (rbk:Int),vP sg 0] 102 (0,0))::(lb,.obj (bF kv cl))::(Tg++(Tn++(Tr++(Tu++(Te++(Tp++Tq)))))))++F:=λ x hx=>aaw _ hx;have key:=E2 pp gb rb lb sg pl me w rn rc ck un uc en ec rbk rA uA eA now sn k0 bp mb smb 0 rs_ ds_ S S2 S3 J P.M N P.rows rl Tg Ts (((pp,.lit [vI (pl:Int),vI (me:Int),vI (w:Int),vP gb 0,vP rb 0,.map (some lb),.slice rA rn rc,vI (ck:Int),.slice uA un uc,.slice eA en ec,vI (rbk:Int),vP sg 0] 102 (0,0))::(lb,.obj (bF kv cl))::(Tg++(Tn++(Tr++(Tu++(Te++(Tp++Tq)))))))++F) (hm _ (by simp)) hg (λ x hx=>hm x (by simp[hx])) h0 (by omega) hsk hs hsc hsb hV hse3_ (by omega) (λ i hi=>L_ _ (iG (by omega) _)) (λ i hi=>⟨(RH i (by omega)).1,(RH i (by omega)).2.mono λ x hx=>aav _ hx⟩) (aav _ hE) (by have h_:=hr.toRowL λ x hx=>hm x (by simp[hx]);rwa [hrl] at h_) (hrr _ λ x hx=>hm x (by simp[hx])) Sl;have e0:∀T9:HL,ap [(pp,.lit [vI (pl:Int),vI (me:Int),vI (w:Int),vP gb 0,vP rb 0,.map (some lb),.slice rA rn rc,vI (ck:Int),.slice uA un uc,.slice eA en ec,vI (rbk:Int),vP sg 0] 102 (0,0)),(lb,.obj (bF kv cl))] [Tg,Tn,Tr,Tu,Te,Tp,Tq,T9]=((pp,.lit [vI (pl:Int),vI (me:Int),vI (w:Int),vP gb 0,vP rb 0,.map (some lb),.slice rA rn rc,vI (ck:Int),.slice uA un uc,.slice eA en ec,vI (rbk:Int),vP sg 0] 102 (0,0))::(lb,.obj (bF kv cl))::(Tg++(Tn++(Tr++(Tu++(Te++(Tp++Tq)))))))++T9:=λ T9=>by simp[ap]
  refine Sp.fr (X:=((pp,.lit [vI (pl:Int),vI (me:Int),vI (w:Int),vP gb 0,vP rb 0,.map (some lb),.slice rA rn rc,vI (ck:Int),.slice uA un uc,.slice eA en ec,vI (rbk:Int),vP sg 0] 102 (0,0))::(lb,.obj (bF kv cl))::(Tg++(Tn++(Tr++(Tu++(Te++(Tp++Tq)))))))) ?_ (F:=F) key ?_
  ·rw[bj,bj,e0];exact abL
  ·rintro u Y ⟨⟨q,N2,T2⟩,rfl,h5,h6,h7,h8⟩;refine⟨_,⟨(q,ap [(pp,.lit [vI (pl:Int),vI (me:Int),vI (w:Int),vP gb 0,vP rb 0,.map (some lb),.slice rA rn rc,vI (ck:Int),.slice uA un uc,.slice eA en ec,vI (rbk:Int),vP sg 0] 102 (0,0)),(lb,.obj (bF kv cl))] [Tg,Tn,Tr,Tu,Te,Tp,Tq,T2]),rfl,h5,PeerR.mk q1_ q2_ q3_ q4_ q5_ hse_ hg hb hn hkv hr hrl hrr hu hul huu he hel hee hse3_ h8 h6 (by omega) h7 hpl hX⟩,?_⟩;rw[e0];simp only[ap,acb,List.flatten_nil,List.append_nil,List.cons_append,List.nil_append];refine List.Perm.cons _ ?_;simpa using (abL (l₁:=((pp,.lit [vI (pl:Int),vI (me:Int),vI (w:Int),vP gb 0,vP rb 0,.map (some lb),.slice rA rn rc,vI (ck:Int),.slice uA un uc,.slice eA en ec,vI (rbk:Int),vP sg 0] 102 (0,0))::(lb,.obj (bF kv cl))::(Tg++(Tn++(Tr++(Tu++(Te++(Tp++Tq)))))))) (l₂:=T2))
theorem PInv.ringAt{ρ:Type}{g:Nat -> ρ -> Gm}{c0:List Int}{w m:Nat}{P:PS ρ}{V:List ρ}(h:PInv g c0 w P V m)(e:P.ms≠[]):V.length=P.a+P.ms.length \/ V.length+1=P.a+P.ms.length:=by
 rcases h.ring with ⟨h1,_⟩|⟨_,h1⟩
 ·exact absurd h1 e
 ·omega
theorem Jw{w now a:Nat}{M:MemS}{ms:List Int}:(sF w M a ms now).1.cs=M.cs:=by
 unfold sF;split
 ·rfl
 ·unfold eE;dsimp only;split <;> rfl
theorem Jy{rs_:List Bx}{ds_:List Dr}{bp pp pl me w:Nat}{S:Setup}{J:Nat -> Nat × Int}{P:PS (List Inp)}{kv:List (Int × Value × Nat)}{c sn:Nat}{q:Rw}{xs:List Inp}{V:List (List Inp)}{m:Nat}{G F:HL}(h:PeerR rs_ ds_ bp pp pl me w S J P kv c sn (some (q,xs)) G)(hI:PInv (gP S J) (br S S.nb) w P V m)(hV:SetV S)(hvl:V.length<50)(hr0:∀r∈V,RowOk S.players r)(Yn:RowOk S.players xs)(hw:1 <= w /\ w <= 12)(V4:c <= 4000)(RH:∀i,i <= 50 -> (J i).1<5 /\ AtOk F bp (i:Int) (J i))(hE:cG F){t:Nat}(ht:t=V.length):Sp Tryz.prog 50 #[vP pp 0,.slice q.A q.n q.c] (ap [] [G]) F (λ u H'=>∃x,H'=ap [] [x] /\ (u=vI 0 /\ PeerR rs_ ds_ bp pp pl me w S J (lA (gP S J) w P V.length xs) kv (c+1) sn none x)):=by
 subst ht;rw[bj];have aba:=hV.pl;have hxl:=Yn.1;have ajB:P.used.length=V.length-P.ck:=by rw[hI.used,abq]
 have Vl:=hI.len_cs;have hI3:=hI.room;cases h with
 | mk q1_ q2_ q3_ q4_ q5_ hse_ hg hb hn hkv hr hrl hrr hu hul huu he hel hee hse3_ hs hsc hsn hsb hpl hX =>
  have hte:=hI.te hV hse_ (by omega) hr0;have hp:=hX q xs rfl;have hx:=hp _ (λ y hy=>hy);cases hx with
  | mk b o N1 full cc hI1 hir hx1 hcap =>
   exact(Jv q1_ q2_ q3_ q4_ q5_ hse_ hg hb hn hkv hr hrl hrr hu hul huu he hel hee hse3_ hs hsc hsn hsb hpl hX V.length b o N1 cc (J V.length) full xs rfl hI1 hir (by omega) hx1 hp hte.t0 (by omega) (λ e_=>hI.ringAt e_) hI.marks ⟨hw.1,by omega⟩ (by omega) V4 (RH _ (by omega)).1 (by rw[oZ (N:=P.M) Jw,hte.t0];exact(RH _ (by omega)).2) hE ((hI.tk hV hse_ hvl hr0 Yn).cs Jw.symm) (by omega) (by omega)).tl
section
variable {S:Setup} {J:Nat -> Nat × Int} {w m:Nat} {P:PS (List Inp)} {V:List (List Inp)}
theorem rU{g:Nat -> List Inp -> Gm}(rf:Nat -> List Inp):∀ (n:Nat) (P:PS (List Inp)) (now:Nat),ga g w rf (n+1) P now=lA g w (ga g w rf n P now) (now+n) (rf (now+n))
 | 0,_,_=>rfl
 | n+1,P,now=>by
  rw[ga,rU rf n];show lA g w (ga g w rf n (lA g w P now (rf now)) (now+1)) (now+1+n) (rf (now+1+n))=lA g w (ga g w rf (n+1) P now) (now+(n+1)) _;rw[show now+1+n=now+(n+1) by omega];rfl
theorem pj{rf:Nat -> List Inp}:∀ (n now:Nat) {r:List Inp},r∈jy rf n now -> ∃t,r=rf t
 | 0,_,_,h=>by cases h
 | n+1,now,r,h=>by
  rw[jy] at h;rcases List.mem_cons.1 h with h|h
  ·exact⟨_,h⟩
  ·exact pj n (now+1) h
theorem PInv.loop{c0:List Int}{pl:Int}(h:PInv (gP S J) c0 w P V m)(hw:1 <= w){T:Nat}(hT:T <= P.rows.length+w)(rf:Nat -> List Inp)(hrf:∀t,RowOk pl (rf t))(WX:∀t,t<P.rows.length -> P.rows[t]?=some (rf t))(hV:∀r∈V,RowOk pl r){n1:Nat}(TK:eD P V.length=n1){P1:PS (List Inp)}(Zj:Go.Proofs.YtdppjkjbghbnjaaGreatDoor.adv1 P=P1){i:Nat}(hi:n1+i <= T) :
  PInv (gP S J) c0 w (ga (gP S J) w rf i P1 n1) (V.take n1++jy rf i n1) (min (n1+i) P.rows.length) /\ (V.take n1++jy rf i n1).length=n1+i /\ (∀r∈V.take n1++jy rf i n1,RowOk pl r) /\ (ga (gP S J) w rf i P1 n1).rows=P.rows:=by
 subst TK;subst Zj;obtain⟨k1,k2,k3,k4,k5⟩:=h.adv1;generalize Go.Proofs.YtdppjkjbghbnjaaGreatDoor.adv1 P=P1 at *;generalize eD P V.length=n1 at *;have lV:(V.take n1).length=n1:=by rw[abk];omega
 have hse3_:=o7 (g:=gP S J) hw rf i P1 (V.take n1) (by rw[lV,k2];exact k1) (by rw[lV,k2];omega) (by rw[k2];exact WX);rw[lV,k2] at hse3_;refine⟨hse3_,by rw[abi,o0,lV],λ r hr=>?_,(ng (g:=gP S J) (w:=w) rf i P1 n1).1.trans k2⟩;rcases List.mem_append.1 hr with hr|hr
 ·exact hV r (List.mem_of_mem_take hr)
 ·obtain⟨t,rfl⟩:=pj _ _ hr;exact hrf t
theorem PInv.rollF{ρ:Type}[DecidableEq ρ]{g:Nat -> ρ -> Gm}{c0:List Int}{P:PS ρ}{V:List ρ}(h:PInv g c0 w P V m){x:Nat}(hx:wr P.rows P.ck P.used=some x):(P.a <= x /\ x<P.a+P.ms.length) /\ (P.M.base <= P.ms.getD (x-P.a) 0 /\ P.ms.getD (x-P.a) 0 <= P.M.base+(P.M.lg.length:Int)) /\ (∀e∈P.M.lg.drop (P.ms.getD (x-P.a) 0-P.M.base).toNat,0 <= e.1 /\ e.1<(P.M.cs.length:Int)) /\ P.ck <= x /\ x-P.ck <= P.used.length /\ x <= P.effs.length /\ x<V.length:=by
 obtain⟨k1,k2,k3,k4,k5⟩:=vD hx;have hu:=h.used;have h1:=h.mV;have hse_:=h.ck;have hse3_:=h.mR;have hl:=h.len_cs;have ku:P.used.length=V.length-P.ck:=by rw[hu,abq]
 have ZL:x<V.length:=by omega
 have YH:m <= x:=by
  rcases abX x m with iF|To
  ·exfalso;apply k5;rw[hu,ack,show P.ck+(x-P.ck)=x by omega];have:=congrArg (·[x]?) h.eq;simpa [acm,iF] using this
  ·exact To
 have At:P.ms≠[]:=by
  rcases h.ring with ⟨_,e⟩|⟨e,_⟩
  ·rw[e] at ZL;simp at ZL
  ·exact e
 have ZT:=h.back At;have hlen:x-P.a<P.ms.length:=by
  rcases h.ring with ⟨e,_⟩|⟨_,e|e⟩
  ·exact absurd e At
  ·omega
  ·omega
 obtain⟨mk,TY⟩:∃mk,P.ms[x-P.a]?=some mk:=⟨_,abt hlen⟩;have hr:=h.rst _ _ TY;have eg:P.ms.getD (x-P.a) 0=mk:=by rw[aaJ,TY];rfl
 rw[eg];exact⟨by omega,⟨hr.lo,hr.hi⟩,hr.ent,k1,by omega,by omega,ZL⟩
theorem E3{ρ:Type}[DecidableEq ρ]{P:PS ρ}{x:Nat}(hx:wr P.rows P.ck P.used=some x):adv1 P=yC P x:=by unfold adv1;rw[hx]
theorem E4{ρ:Type}[DecidableEq ρ]{P:PS ρ}(hx:wr P.rows P.ck P.used=none):adv1 P=P:=by unfold adv1;rw[hx]
end
theorem vO{rs_:List Bx}{ds_:List Dr}{bp pp pl me w:Nat}{S:Setup}{J:Nat -> Nat × Int}{P:PS (List Inp)}{kv:List (Int × Value × Nat)}{c sn:Nat}{X:Option (Rw × List Inp)}{gb mb rb lb cl rn rc ck un uc en ec rbk sg smb:Nat}{S2 S3:Setup}{rA uA eA:Option Addr}{rl ul el:List Rw}{N:MemS}{Tg Tn Tr Tu Te Tp Tq Ts F:HL}(q1_:P.rows.length=rn)(q2_:P.ck=ck)(q3_:P.used.length=un)(q4_:P.effs.length=en)(q5_:P.rb=rbk)(hse_:SetEq S S2)(hg:GameX rs_ ds_ bp gb mb S2 P.M 0 Tg)(hb:0 <= P.M.base /\ P.M.base+(P.M.lg.length:Int) <= 20000*(c:Int))(hn:RingH rb mb w P.a P.ms Tn)(hkv:LocIn kv)(hr:SlIs jH 38 rl rA rc Tr)(hrl:rl.length=rn)(hrr:RwsT rl P.rows Tp)(hu:SlX jH 38 ul uA uc Tu)(hul:ul.length=un)(huu:RwsT ul P.used Tp)(he:SlIs mt 58 el eA ec Te)(hel:el.length=en)(hee:EfsT el P.effs Tq)(hse3_:SetEq S S3)(hs:GameX rs_ ds_ bp sg smb S3 N 99020000 Ts)(hsc:N.cs=WS S J P.rows sn)(hsn:sn <= rn)(hsb:0 <= N.base /\ N.base <= 1000000*(sn:Int))(hpl:S.players=(pl:Int))(hX:∀p xs,X=some (p,xs) -> ∀F:HL,(∀y∈Tp,y∈F) -> RwIn F xs p){V:List (List Inp)}{m:Nat}(hI:PInv (gP S J) (br S S.nb) w P V m)(hV:SetV S)(Xj:∀r∈V,RowOk S.players r)(Sj:∀r∈P.rows,RowOk S.players r)(S9:me<pl)(hw:1 <= w /\ w <= 12)(RV:rn<50)(hvn:V.length<50)(V4:c <= 3900)(VI:P.rb <= 1000)(RH:∀i,i <= 50 -> (J i).1<5 /\ AtOk F bp (i:Int) (J i))(hE:cG F)(tt:Int)(abS:tt<(V.length:Int) \/ tt>(P.rows.length:Int)+(w:Int)):Sp Tryz.prog 17 #[vP pp 0,vI tt] (ap [(pp,.lit [vI (pl:Int),vI (me:Int),vI (w:Int),vP gb 0,vP rb 0,.map (some lb),.slice rA rn rc,vI (ck:Int),.slice uA un uc,.slice eA en ec,vI (rbk:Int),vP sg 0] 102 (0,0)),(lb,.obj (bF kv cl))] [Tg,Tn,Tr,Tu,Te,Tp,Tq,Ts]) F (λ u H'=>u=.tuple #[vI 0,vI 18] /\ PeerR rs_ ds_ bp pp pl me w S J P kv c sn none H'):=by
 have aa_:=hV.pl;have Xu:=hI.used;have afT:=hI.len_cs;have afO:=hI.win;have afP:=hI.room;have afR:=hI.ck;have afQ:=hI.mV;have aaP:P.used.length=V.length-P.ck:=by rw[Xu,abq]
 have h0:=(hI.te hV (gz S) (by omega) Xj).t0;refine aat Tryz.func17 rfl mn (A:=[(pp,.lit [vI (pl:Int),vI (me:Int),vI (w:Int),vP gb 0,vP rb 0,.map (some lb),.slice rA rn rc,vI (ck:Int),.slice uA un uc,.slice eA en ec,vI (rbk:Int),vP sg 0] 102 (0,0)),(lb,.obj (bF kv cl))]) (Ts:=[Tg,Tn,Tr,Tu,Te,Tp,Tq,Ts]) rfl λ w0=>?_;refine ae 8 [] λ _=>aak [] []<|ag [] [0,1] []<|aac [] 2 (λ X_=>(j9 pp gb rb lb sg pl me w rn rc ck un uc en ec rbk rA uA eA (V.length:Int) _ (fB 0) hg (aK 0) h0))<|ag [] [3,4] []<|RD.em (tt<(V.length:Int)) 16 (λ h1=>?_) λ h1=>?_
 ·refine ag [] [5,6,8,7,9,10,11,12,13] []<|ag [] [14,15] []<|aad<|ae 8 [] λ _=>aap [] [0,1] [0,1,2,3,4,5,6,7] (v:=.tuple #[vI 0,vI 18]) (H':=(ap [(pp,.lit [vI (pl:Int),vI (me:Int),vI (w:Int),vP gb 0,vP rb 0,.map (some lb),.slice rA rn rc,vI (ck:Int),.slice uA un uc,.slice eA en ec,vI (rbk:Int),vP sg 0] 102 (0,0)),(lb,.obj (bF kv cl))] [Tg,Tn,Tr,Tu,Te,Tp,Tq,Ts])) ?_;exact⟨rfl,PeerR.mk q1_ q2_ q3_ q4_ q5_ hse_ hg hb hn hkv hr hrl hrr hu hul huu he hel hee hse3_ hs hsc hsn hsb hpl (λ _ _ h_=>by cases h_)⟩
 ·refine ag [] [5,6,8,9,10,11] [.own 0]<|aac [] 7 (λ X_=>(gA pp gb rb lb sg pl me w rn rc ck un uc en ec rbk rA uA eA _ (fB 0)))<|aD [] [12,13] [.nw] [bx ((rn:Int)+(w:Int))]<|iV 25 (congrArg (λ v_=>(vI v_:Value)) (show (if 6000<(rn:Int)+(w:Int) then 6000 else (rn:Int)+(w:Int))=(rn:Int)+(w:Int) from if_neg (by omega)))<|ag [] [14,15] []<|aad<|ae 1 [] λ _=>aal (tt>(rn:Int)+(w:Int)) 27 (λ h2=>?_) λ h2=>?_
  ·refine ae 7 [] λ _=>aap [] [0,1] [0,1,2,3,4,5,6,7] (v:=.tuple #[vI 0,vI 18]) (H':=(ap [(pp,.lit [vI (pl:Int),vI (me:Int),vI (w:Int),vP gb 0,vP rb 0,.map (some lb),.slice rA rn rc,vI (ck:Int),.slice uA un uc,.slice eA en ec,vI (rbk:Int),vP sg 0] 102 (0,0)),(lb,.obj (bF kv cl))] [Tg,Tn,Tr,Tu,Te,Tp,Tq,Ts])) ?_;exact⟨rfl,PeerR.mk q1_ q2_ q3_ q4_ q5_ hse_ hg hb hn hkv hr hrl hrr hu hul huu he hel hee hse3_ hs hsc hsn hsb hpl (λ _ _ h_=>by cases h_)⟩
  ·(exfalso;omega)
theorem yR{rs_:List Bx}{ds_:List Dr}{bp pp pl me w:Nat}{S:Setup}{J:Nat -> Nat × Int}{P:PS (List Inp)}{kv:List (Int × Value × Nat)}{c sn:Nat}{X:Option (Rw × List Inp)}{G F:HL}(h:PeerR rs_ ds_ bp pp pl me w S J P kv c sn X G){V:List (List Inp)}{m:Nat}(hI:PInv (gP S J) (br S S.nb) w P V m)(hV:SetV S)(Xj:∀r∈V,RowOk S.players r)(Sj:∀r∈P.rows,RowOk S.players r)(S9:me<pl)(hw:1 <= w /\ w <= 12)(RV:P.rows.length<50)(hvn:V.length<50)(V4:c <= 3900)(VI:P.rb <= 1000)(RH:∀i,i <= 50 -> (J i).1<5 /\ AtOk F bp (i:Int) (J i))(hE:cG F)(tt:Int)(abS:tt<(V.length:Int) \/ tt>(P.rows.length:Int)+(w:Int)):Sp Tryz.prog 17 #[vP pp 0,vI tt] (ap [] [G]) F (λ u H'=>∃x,H'=ap [] [x] /\ ((λ u H'=>u=.tuple #[vI 0,vI 18] /\ PeerR rs_ ds_ bp pp pl me w S J P kv c sn none H') u x)):=by
 rw[bj];cases h with
 | mk q1_ q2_ q3_ q4_ q5_ hse_ hg hb hn hkv hr hrl hrr hu hul huu he hel hee hse3_ hs hsc hsn hsb hpl hX =>
  exact(vO q1_ q2_ q3_ q4_ q5_ hse_ hg hb hn hkv hr hrl hrr hu hul huu he hel hee hse3_ hs hsc hsn hsb hpl hX hI hV Xj Sj S9 hw (by omega) hvn V4 VI RH hE tt abS).tl
theorem yS{rs_:List Bx}{ds_:List Dr}{bp pp pl me w:Nat}{S:Setup}{J:Nat -> Nat × Int}{P:PS (List Inp)}{kv:List (Int × Value × Nat)}{c sn:Nat}{X:Option (Rw × List Inp)}{gb mb rb lb cl rn rc ck un uc en ec rbk sg smb:Nat}{S2 S3:Setup}{rA uA eA:Option Addr}{rl ul el:List Rw}{N:MemS}{Tg Tn Tr Tu Te Tp Tq Ts F:HL}(q1_:P.rows.length=rn)(q2_:P.ck=ck)(q3_:P.used.length=un)(q4_:P.effs.length=en)(q5_:P.rb=rbk)(hse_:SetEq S S2)(hg:GameX rs_ ds_ bp gb mb S2 P.M 0 Tg)(hb:0 <= P.M.base /\ P.M.base+(P.M.lg.length:Int) <= 20000*(c:Int))(hn:RingH rb mb w P.a P.ms Tn)(hkv:LocIn kv)(hr:SlIs jH 38 rl rA rc Tr)(hrl:rl.length=rn)(hrr:RwsT rl P.rows Tp)(hu:SlX jH 38 ul uA uc Tu)(hul:ul.length=un)(huu:RwsT ul P.used Tp)(he:SlIs mt 58 el eA ec Te)(hel:el.length=en)(hee:EfsT el P.effs Tq)(hse3_:SetEq S S3)(hs:GameX rs_ ds_ bp sg smb S3 N 99020000 Ts)(hsc:N.cs=WS S J P.rows sn)(hsn:sn <= rn)(hsb:0 <= N.base /\ N.base <= 1000000*(sn:Int))(hpl:S.players=(pl:Int))(hX:∀p xs,X=some (p,xs) -> ∀F:HL,(∀y∈Tp,y∈F) -> RwIn F xs p){V:List (List Inp)}{m:Nat}(hI:PInv (gP S J) (br S S.nb) w P V m)(hV:SetV S)(Xj:∀r∈V,RowOk S.players r)(Sj:∀r∈P.rows,RowOk S.players r)(S9:me<pl)(hw:1 <= w /\ w <= 12)(RV:rn<50)(hvn:V.length<50)(V4:c <= 3900)(VI:P.rb <= 1000)(RH:∀i,i <= 50 -> (J i).1<5 /\ AtOk F bp (i:Int) (J i))(hE:cG F)(T:Nat)(hT1:V.length <= T)(hT2:T <= P.rows.length+w)(hT3:T<50):Sp Tryz.prog 17 #[vP pp 0,vI (T:Int)] (ap [(pp,.lit [vI (pl:Int),vI (me:Int),vI (w:Int),vP gb 0,vP rb 0,.map (some lb),.slice rA rn rc,vI (ck:Int),.slice uA un uc,.slice eA en ec,vI (rbk:Int),vP sg 0] 102 (0,0)),(lb,.obj (bF kv cl))] [Tg,Tn,Tr,Tu,Te,Tp,Tq,Ts]) F (λ u H'=>∃x:HL,H'=ap [] [x] /\ (u=.tuple #[vI ((T-eD P V.length:Nat):Int),vI 0] /\ PeerR rs_ ds_ bp pp pl me w S J (rR (gP S J) w P V.length T (f5 pl me P.rows (gV kv))) kv (c+(T-eD P V.length)) sn none x)):=by
 have h:PeerR rs_ ds_ bp pp pl me w S J P kv c sn none (ap [(pp,.lit [vI (pl:Int),vI (me:Int),vI (w:Int),vP gb 0,vP rb 0,.map (some lb),.slice rA rn rc,vI (ck:Int),.slice uA un uc,.slice eA en ec,vI (rbk:Int),vP sg 0] 102 (0,0)),(lb,.obj (bF kv cl))] [Tg,Tn,Tr,Tu,Te,Tp,Tq,Ts]):=PeerR.mk q1_ q2_ q3_ q4_ q5_ hse_ hg hb hn hkv hr hrl hrr hu hul huu he hel hee hse3_ hs hsc hsn hsb hpl (λ _ _ h_=>by cases h_);obtain⟨G,eG⟩:∃G,G=ap [(pp,.lit [vI (pl:Int),vI (me:Int),vI (w:Int),vP gb 0,vP rb 0,.map (some lb),.slice rA rn rc,vI (ck:Int),.slice uA un uc,.slice eA en ec,vI (rbk:Int),vP sg 0] 102 (0,0)),(lb,.obj (bF kv cl))] [Tg,Tn,Tr,Tu,Te,Tp,Tq,Ts]:=⟨_,rfl⟩;rw[<- eG] at h;have aa_:=hV.pl;have Xu:=hI.used;have afT:=hI.len_cs;have afO:=hI.win;have afP:=hI.room;have afR:=hI.ck;have afQ:=hI.mV;have aaP:P.used.length=V.length-P.ck:=by rw[Xu,abq]
 have h0:=(hI.te hV (gz S) (by omega) Xj).t0;have aeO:∀k,k<P.used.length -> (P.used.getD k []).length <= 1000000:=λ k hk=>by have h_:=(Xj _ (List.mem_of_mem_drop (by rw[<- Xu];exact iG hk []))).1;omega
 obtain⟨k1,k2,k3,k4,k5⟩:=hI.adv1;obtain⟨n1,TK⟩:∃n,eD P V.length=n:=⟨_,rfl⟩;obtain⟨P1,Zj⟩:∃p,adv1 P=p:=⟨_,rfl⟩;rw[TK] at k1 k3 k4 k5;rw[Zj] at k1 k2 k5;have aa1:∀t,RowOk S.players ((f5 pl me P.rows (gV kv)) t):=λ t=>by rw[hpl];exact vL (by rw[<- hpl];exact Sj) (λ t x e=>hkv.ok e) t
 refine aat Tryz.func17 rfl mn (A:=[(pp,.lit [vI (pl:Int),vI (me:Int),vI (w:Int),vP gb 0,vP rb 0,.map (some lb),.slice rA rn rc,vI (ck:Int),.slice uA un uc,.slice eA en ec,vI (rbk:Int),vP sg 0] 102 (0,0)),(lb,.obj (bF kv cl))]) (Ts:=[Tg,Tn,Tr,Tu,Te,Tp,Tq,Ts]) rfl λ w0=>?_;refine ae 8 [] λ _=>aak [] []<|ag [] [0,1] []<|aac [] 2 (λ X_=>(j9 pp gb rb lb sg pl me w rn rc ck un uc en ec rbk rA uA eA (V.length:Int) _ (fB 0) hg (aK 0) h0))<|ag [] [3,4] []<|RD.em ((T:Int)<(V.length:Int)) 16 (λ h1=>?_) λ h1=>?_
 ·(exfalso;omega)
 ·refine ag [] [5,6,8,9,10,11] [.own 0]<|aac [] 7 (λ X_=>(gA pp gb rb lb sg pl me w rn rc ck un uc en ec rbk rA uA eA _ (fB 0)))<|aD [] [12,13] [.nw] [bx ((rn:Int)+(w:Int))]<|iV 25 (congrArg (λ v_=>(vI v_:Value)) (show (if 6000<(rn:Int)+(w:Int) then 6000 else (rn:Int)+(w:Int))=(rn:Int)+(w:Int) from if_neg (by omega)))<|ag [] [14,15] []<|aad<|ae 1 [] λ _=>aal ((T:Int)>(rn:Int)+(w:Int)) 27 (λ h2=>?_) λ h2=>?_
  ·(exfalso;omega)
  ·refine ae 5 [] λ _=>LI [(pp,.lit [vI (pl:Int),vI (me:Int),vI (w:Int),vP gb 0,vP rb 0,.map (some lb),.slice rA rn rc,vI (ck:Int),.slice uA un uc,.slice eA en ec,vI (rbk:Int),vP sg 0] 102 (0,0)),(lb,.obj (bF kv cl))] [Tg,Tn,Tr,Tu,Te,Tp,Tq,Ts] eG<|ae 2 [] λ _=>aah (Bc h (au 0) aeO (by omega) (by omega) (by omega))<|ae 7 [] λ _=>RN.cut (σ:=HL) (λ G_=>⟨[(0,vP pp 0),(1,vI (T:Int))],[],[G_],PeerR rs_ ds_ bp pp pl me w S J P1 kv c sn none G_,0⟩) ?_ ?_
   ·intro RF;refine ae 5 [] λ _=>ij ((wr P.rows P.ck P.used).isSome) 33 (λ h4=>?_) λ h4=>?_
    ·refine ae 5 [] λ _=>?_;obtain⟨x_,Wy⟩:=Option.isSome_iff_exists.1 h4;obtain⟨r1_,r2_,r3_,r4_,r5_,r6_,r7_⟩:=hI.rollF Wy;obtain rfl:x_=(wr P.rows P.ck P.used).getD 0:=by rw[Wy];rfl
     refine aai [] [0] (Bb (x:=(wr P.rows P.ck P.used).getD 0) h r1_ (by omega) (by omega) r2_ r3_ (by omega) r4_ r5_ r6_ (by omega)) ?_;rintro _ T5 ⟨rfl,hr6⟩;refine ae 11 [] λ _=>?_;refine RF T5 [] [0] ?_
     try dsimp only
     rw[<- Zj,E3 Wy];exact hr6
    ·refine ae 2 [] λ _=>?_;refine RF G [] [0] ?_
     try dsimp only
     rw[<- Zj,E4 (Option.not_isSome_iff_eq_none.1 h4)];exact h
   ·rintro G_ XZ;refine ae 15 [] λ _=>aan (σ:=Nat × HL) (λ ⟨i_,G_⟩=>⟨[(0,vP pp 0),(1,vI (T:Int)),(9,.func (.func 49) #[vP pp 0] #[]),(10,vI (i_:Int))],[],[G_],n1+i_ <= T /\ PeerR rs_ ds_ bp pp pl me w S J (ga (gP S J) w (f5 pl me P.rows (gV kv)) i_ P1 n1) kv (c+i_) sn none G_,T-n1-i_⟩) (0,G_) [] [0] (⟨by omega,XZ⟩) ?_;rintro⟨i_,G_⟩ ⟨VS,XZ⟩ mt8;obtain⟨li1,XG,li3,ZJ⟩:=hI.loop hw.1 hT2 (f5 pl me P.rows (gV kv)) (λ t=>aa1 t) (λ t ht=>pd ht) Xj TK Zj (i:=i_) VS;obtain⟨Vi,hVi⟩:∃v,V.take n1++jy (f5 pl me P.rows (gV kv)) i_ n1=v:=⟨_,rfl⟩;rw[hVi] at li1 XG li3;have ad6:=li1.te hV (gz S) (by omega) li3;have UB:(ga (gP S J) w (f5 pl me P.rows (gV kv)) i_ P1 n1).M.get 0=((n1+i_:Nat):Int):=by rw[ad6.t0,XG]
    refine ae 4 [] λ _=>aah (yN XZ (au 0) UB)<|ae 4 [] λ _=>aal (((n1+i_:Nat):Int)<(T:Int)) 45 (λ h9=>?_) λ h9=>?_
    ·refine ae 10 [] λ _=>aah (yN XZ (au 0) UB)<|aai [] [0] (Jq XZ (t:=n1+i_) (by rw[ZJ,<- hpl];exact Sj) (by rw[ZJ];omega) (by omega) (by omega) S9) ?_;rintro _ ⟨IS,Rm⟩ ⟨rfl,Yz⟩;dsimp only at Yz;rw[ZJ] at Yz;refine aai [] [0] (Jy (V:=Vi) Yz li1 hV (by omega) li3 (aa1 _) hw (by omega) (λ i hi=>⟨(RH i hi).1,(RH i hi).2.mono λ x hx=>az hx⟩) (az hE) rfl) ?_;rintro _ SC ⟨rfl,TH⟩;rw[XG] at TH;refine aj 18 [.gen,.nw] [bx ((i_:Int)+1)] λ _=>?_;refine mt8 (i_+1,SC) [] [0] ?_
     try dsimp only
     refine⟨⟨by omega,?_⟩,by omega⟩;rw[rU];exact TH
    ·refine ae 9 [] λ _=>aai [] [0] (yQ XZ (now:=n1+i_) UB (by rw[ZJ];exact li1.ck) (by rw[ZJ,li1.used,abq,XG];omega) (by rw[ZJ];omega) (by omega)) ?_;rintro _ Sy ⟨rfl,Ul⟩;refine ae 9 [] λ _=>aap [] [] [0] (v:=.tuple #[vI (i_:Int),vI 0]) (H':=(ap [] [Sy])) ?_;obtain rfl:i_=T-n1:=by omega
     refine⟨Sy,rfl,by rw[TK],?_⟩;unfold rR;rw[TK,Zj];rw[show n1+(T-n1)=T by omega] at Ul;exact Ul
theorem vQ{rs_:List Bx}{ds_:List Dr}{bp pp pl me w:Nat}{S:Setup}{J:Nat -> Nat × Int}{P:PS (List Inp)}{kv:List (Int × Value × Nat)}{c sn:Nat}{X:Option (Rw × List Inp)}{G F:HL}(h:PeerR rs_ ds_ bp pp pl me w S J P kv c sn X G){V:List (List Inp)}{m:Nat}(hI:PInv (gP S J) (br S S.nb) w P V m)(hV:SetV S)(Xj:∀r∈V,RowOk S.players r)(Sj:∀r∈P.rows,RowOk S.players r)(S9:me<pl)(hw:1 <= w /\ w <= 12)(RV:P.rows.length<50)(hvn:V.length<50)(V4:c <= 3900)(VI:P.rb <= 1000)(RH:∀i,i <= 50 -> (J i).1<5 /\ AtOk F bp (i:Int) (J i))(hE:cG F)(T:Nat)(hT1:V.length <= T)(hT2:T <= P.rows.length+w)(hT3:T<50):Sp Tryz.prog 17 #[vP pp 0,vI (T:Int)] (ap [] [G]) F (λ u H'=>∃x:HL,H'=ap [] [x] /\ (u=.tuple #[vI ((T-eD P V.length:Nat):Int),vI 0] /\ PeerR rs_ ds_ bp pp pl me w S J (rR (gP S J) w P V.length T (f5 pl me P.rows (gV kv))) kv (c+(T-eD P V.length)) sn none x)):=by
 rw[bj];cases h with
 | mk q1_ q2_ q3_ q4_ q5_ hse_ hg hb hn hkv hr hrl hrr hu hul huu he hel hee hse3_ hs hsc hsn hsb hpl hX =>
  exact(yS q1_ q2_ q3_ q4_ q5_ hse_ hg hb hn hkv hr hrl hrr hu hul huu he hel hee hse3_ hs hsc hsn hsb hpl hX hI hV Xj Sj S9 hw (by omega) hvn V4 VI RH hE T hT1 hT2 hT3)
end Go.Proofs.YtdppjkjbghbnjaaGreatDoor
