import Derived.Test.YtdppjkjbghbnjaaGreatDoorZ18
set_option maxHeartbeats 4000000
set_option maxRecDepth 100000
set_option linter.all false
namespace Go.Proofs.YtdppjkjbghbnjaaGreatDoor
open Go.RowKit
abbrev IvN:=Int × Value × Nat
def jg:Enc Rw:=⟨1,λ p k=>match k with|0=>.slice p.A p.n p.c|_=>default,⟨none,0,0⟩⟩
noncomputable def MM:TypeInfo:=match Tryz.prog.info? 58 with | some i=>i | none=>⟨.bool,"",0,0,false,0,0,none,false,#[]⟩
noncomputable def MN:Value:=match MM.zero with|some z=>z|none=>.bool false
theorem OB:EncOk jg Tryz.prog 58 MM MN where
 info:=by kernel_rfl
 zero:=by kernel_rfl
 size:=by kernel_rfl
 zsize:=by kernel_rfl
 zcell:=λ k hk=>by
  have h:∀k<1,MN.cells[k]?=some (jg.cell jg.dflt k):=by intro k hk;(iterate 1 (rcases k with _|k;· kernel_rfl));omega
  exact h k hk
 one:=λ x k=>by unfold jg;dsimp only;split <;> rfl
 bytes:=aaF (by kernel_rfl)
abbrev Fc(x:Inp):Value:=.agg #[vI x.dx,vI x.dy,vI x.act]
def OC:Value -> Inp
 | .agg ⟨[.int _ a,.int _ b,.int _ c]⟩=>⟨a,b,c⟩
 | _=>dI
theorem Fd(x:Inp):OC (Fc x)=x:=by cases x;rfl
def gV(kv:List IvN)(t:Int):Option Inp:=(sS kv t).map OC
def LocIn(kv:List IvN):Prop:=∀x∈kv,∃y,fg y /\ x.2.1=Fc y
theorem LocIn.nil:LocIn []:=λ x hx=>by cases hx
theorem JD{kv:List IvN}{t:Int}{v:Value}(h:sS kv t=some v):∃x∈kv,x.2.1=v:=by
 unfold sS at h;cases e:om kv t 0 with
 | none=>rw[e] at h;cases h
 | some y =>
  obtain⟨j,u⟩:=y;rw[e] at h;obtain rfl:u=v:=by simpa using h
  obtain⟨_,n,hse_⟩:=mg t kv 0 j u e;exact⟨_,List.mem_of_getElem? hse_,rfl⟩
theorem LocIn.get{kv:List IvN}(h:LocIn kv)(t:Int):(sS kv t=none /\ gV kv t=none) \/ ∃x,fg x /\ sS kv t=some (Fc x) /\ gV kv t=some x:=by
 cases e:sS kv t with
 | none=>exact .inl ⟨rfl,by unfold gV;rw[e];rfl⟩
 | some v =>
  obtain⟨x,hx,q2_⟩:=JD e;obtain⟨y,hy,q3_⟩:=h x hx;have q4_:v=Fc y:=q2_.symm.trans q3_;exact .inr ⟨y,hy,by rw[q4_],by unfold gV;rw[e,q4_];show some (OC (Fc y))=_;rw[Fd]⟩
theorem LocIn.ok{kv:List IvN}(h:LocIn kv){t:Int}{x:Inp}(e:gV kv t=some x):fg x:=by
 rcases h.get t with ⟨_,q2_⟩|⟨y,hy,_,q2_⟩
 ·rw[q2_] at e;cases e
 ·rw[q2_] at e;cases e;exact hy
theorem LocIn.put{kv:List IvN}(h:LocIn kv)(c:Nat)(k:Int){y:Inp}(hy:fg y):LocIn (lG kv c k (Fc y)):=by
 intro x hx;unfold lG at hx;split at hx
 ·next i v e =>
  obtain⟨j,hj,rfl⟩:=List.mem_iff_getElem.1 hx;rw[List.getElem_modify];split
  ·exact⟨y,hy,rfl⟩
  ·exact h _ (List.getElem_mem _)
 ·rcases List.mem_append.1 hx with hx|hx
  ·exact h x hx
  ·rw[List.mem_singleton.1 hx];exact⟨y,hy,rfl⟩
theorem LocIn.del{kv:List IvN}(h:LocIn kv)(k:Int):LocIn (my kv k):=by
 intro x hx;unfold my at hx;split at hx
 ·exact h x (List.mem_of_mem_eraseIdx hx)
 ·exact h x hx
def EfsT(el:List Rw)(VL:List (List Eff))(T:HL):Prop:=∀F:HL,(∀x∈T,x∈F) -> ∀k,k<el.length -> (el.getD k jg.dflt).n=(VL.getD k []).length /\ RowL fG 111 F (el.getD k jg.dflt).A (VL.getD k []).length (VL.getD k [])
theorem EfsT.nil:EfsT [] [] []:=λ F _ k hk=>absurd hk (Nat.not_lt_zero _)
theorem EfsT.snoc{el:List Rw}{VL:List (List Eff)}{T T1:HL}{es:List Eff}{A:Option Addr}{c n:Nat}(h:EfsT el VL T)(hl:el.length=VL.length)(hs:SlIs fG 111 es A c T1)(hn:n=es.length):EfsT (el++[⟨A,n,c⟩]) (VL++[es]) (T++T1):=λ F hF k hk=>by
 rw[gy,gy,<- hl]
 by_cases S9:k<el.length
 ·rw[if_pos S9,if_pos S9];exact h F (λ x hx=>hF x (aax _ hx)) k S9
 ·have:k=el.length:=by simp at hk;omega
  rw[if_neg S9,if_neg S9,if_pos this,if_pos this];exact⟨hn,hs.toRowL λ x hx=>hF x (aav _ hx)⟩
theorem EfsT.take{el:List Rw}{VL:List (List Eff)}{T:HL}(h:EfsT el VL T)(k:Nat):EfsT (el.take k) (VL.take k) T:=λ F hF i hi=>by
 rw[aaL] at hi;have q1_:(VL.take k).getD i []=VL.getD i []:=by rw[aaE,aaE,aa2,if_pos (by omega)]
 have q2_:(el.take k).getD i jg.dflt=el.getD i jg.dflt:=by rw[aaE,aaE,aa2,if_pos (by omega)]
 rw[q1_,q2_];exact h F hF i (by omega)
theorem RwsT.more{rs:List Rw}{xss:List (List Inp)}{T:HL}(h:RwsT rs xss T)(T1:HL):RwsT rs xss (T++T1):=λ F hF=>h F λ x hx=>hF x (aax _ hx)
theorem RwsT.take{rs:List Rw}{xss:List (List Inp)}{T:HL}(h:RwsT rs xss T)(k:Nat):RwsT (rs.take k) (xss.take k) T:=λ F hF=>(h F hF).take k
theorem RwsT.drop{rs:List Rw}{xss:List (List Inp)}{T:HL}(h:RwsT rs xss T)(k:Nat):RwsT (rs.drop k) (xss.drop k) T:=λ F hF=>(h F hF).drop k
theorem RwsT.snocD{rs:List Rw}{xss:List (List Inp)}{T T1:HL}{xs:List Inp}{A:Option Addr}{c n:Nat}(h:RwsT rs xss T)(hs:ClS cV 40 xs A c T1)(h1:1 <= xs.length)(hn:n=xs.length):RwsT (rs++[⟨A,n,c⟩]) (xss++[xs]) (T++T1):=by
 obtain⟨A0,hs⟩:=hs;rcases hs with ⟨rfl,_⟩|⟨b,rfl,rfl,hc⟩
 ·simp at h1
 ·refine h.snoc (A:=some ⟨b,0,none⟩) (c:=c) (T1:=[(b,.rows 3 c (aP cV xs) 40 (0,0))]) (.inr ⟨b,0,xs++List.replicate (c-xs.length) cV.dflt,by simp,?_,by simp;omega,hc,by simp⟩) h1 hn;rw[Nat.zero_add,qJ];rfl
theorem RwsT.snocI{rs:List Rw}{xss:List (List Inp)}{T:HL}{p:Rw}{xs:List Inp}(h:RwsT rs xss T)(hp:∀F,(∀x∈T,x∈F) -> RwIn F xs p):RwsT (rs++[p]) (xss++[xs]) T:=λ F hF=>by
 have hse_:=h F hF;refine⟨by simp[hse_.len],λ k hk=>?_⟩;rw[gy,gy,<- hse_.len]
 by_cases S9:k<rs.length
 ·rw[if_pos S9,if_pos S9];exact hse_.row k S9
 ·have:k=rs.length:=by simp at hk;omega
  rw[if_neg S9,if_neg S9,if_pos this,if_pos this];exact hp F hF
section
variable {rs_:List Bx} {ds_:List Dr} {bp gb mb:Nat} {S:Setup} {M:MemS} {k:Nat} {G0:HL}
theorem GameX.room(h:GameX rs_ ds_ bp gb mb S M k G0):M.lg.length+k <= 100000000:=by
 obtain⟨_,hm,_⟩:=h.mem;exact hm.len2
theorem GameX.raise(h:GameX rs_ ds_ bp gb mb S M k G0){k':Nat}(hk:M.lg.length+k' <= 100000000):GameX rs_ ds_ bp gb mb S M k' G0:=by
 cases h with
 | mk T U hM hU =>
  refine .mk T U ?_ hU;cases hM with
  | mk cb A cap Hl hs hc hl=>exact .mk cb A cap Hl hs hc hk
theorem JE{F:HL}(h:GameX rs_ ds_ bp gb mb S M k G0)(hF:∀x∈G0,x∈F){e:Int}(he:M.get 0=e):Sp Tryz.prog 52 #[vP gb 0] [] F (λ u H'=>u=vI e /\ H'=[]):=by
 subst he;cases h with
 | mk T U hM hU=>exact rt S bp gb mb M k T F (hF _ (aax _ (List.mem_singleton.2 rfl))) hM λ x hx=>hF x (by simp[ap,hx])
theorem uD{f:FuncId}{args:Array Value}{F G:HL}{R:Value -> HL -> HL -> Prop}{M2:MemS}{k2:Nat}(h:GameX rs_ ds_ bp gb mb S M k G0)
  (hs:∀ (T X:HL),MemH mb M k T -> Sp Tryz.prog f args (ap [] [G,T]) (X++F) (λ u H'=>∃x:HL × HL,H'=ap [] [x.1,x.2] /\ (R u x.1 [] /\ MemH mb M2 k2 x.2))) :
  Sp Tryz.prog f args (ap [] [G,G0]) F (λ u H'=>∃x:HL × HL,H'=ap [] [x.1,x.2] /\ (R u x.1 [] /\ GameX rs_ ds_ bp gb mb S M2 k2 x.2)):=by
 cases h with
 | mk T U hM hU =>
  have perm:∀A B:HL,(ap [] [A,ap [(gb,Blk.lit (dC S bp mb) 121 (0,0))] [B,U]]).Perm (ap [] [A,B]++((gb,Blk.lit (dC S bp mb) 121 (0,0))::U)):=λ A B=>by
   simp only[ap,aaX,List.flatten_nil,List.append_nil,List.nil_append,aaD,List.cons_append];exact List.Perm.append_left A List.perm_middle.symm
  refine Sp.fr (X:=(gb,Blk.lit (dC S bp mb) 121 (0,0))::U) (perm G T) (hs T _ hM) ?_;rintro u Y ⟨x,rfl,h1,hse_⟩;exact⟨_,⟨(x.1,ap [(gb,Blk.lit (dC S bp mb) 121 (0,0))] [x.2,U]),rfl,h1,.mk x.2 U hse_ hU⟩,perm x.1 x.2⟩
end
theorem Ff{α:Type}(p:α)(Tg Tn Tr Tu Te Tp Tx Tq Ts:List α):(p::(Tg++(Tn++(Tr++(Tu++(Te++(Tp++(Tx++(Tq++Ts))))))))).Perm (Tx++(p::(Tg++(Tn++(Tr++(Tu++(Te++(Tp++(Tq++Ts))))))))):=by
 have h:=List.perm_append_comm_assoc (p::(Tg++(Tn++(Tr++(Tu++(Te++Tp)))))) Tx (Tq++Ts);simpa [aaD] using h
theorem RE{rb mb w a:Nat}{ms:List Int}{G F:HL}(h:RingH rb mb w a ms G)(hF:∀x∈G,x∈F)(hl:ms.length <= 100000000):Sp Tryz.prog 76 #[vP rb 0] [] F (λ u H'=>u=vI (BT a ms) /\ H'=[]):=by
 cases h with
 | @mk A cap n Hl hs hn h0=>exact BU hs (λ x hx=>hF x (by simp[ap,hx])) hn (by omega) (hF _ (aax _ aay))
abbrev pBk(pp pl me w gb rb lb:Nat)(rA:Option Addr)(rn rc ck:Nat)(uA:Option Addr)(un uc:Nat)(eA:Option Addr)(en ec rbk sg:Nat):Nat × Blk:=(pp,.lit [vI (pl:Int),vI (me:Int),vI (w:Int),vP gb 0,vP rb 0,.map (some lb),.slice rA rn rc,vI (ck:Int),.slice uA un uc,.slice eA en ec,vI (rbk:Int),vP sg 0] 102 (0,0))
inductive PeerR(rs_:List Bx)(ds_:List Dr)(bp pp pl me w:Nat)(S:Setup)(J:Nat -> Nat × Int)(P:PS (List Inp))(kv:List IvN)(c sn:Nat)(X:Option (Rw × List Inp)):HL -> Prop
 | mk {gb mb rb lb cl rn rc ck un uc en ec rbk sg smb:Nat} {S2 S3:Setup} {rA uA eA:Option Addr} {rl ul el:List Rw} {N:MemS} {Tg Tn Tr Tu Te Tp Tq Ts:HL}
  (q1_:P.rows.length=rn) (q2_:P.ck=ck) (q3_:P.used.length=un) (q4_:P.effs.length=en) (q5_:P.rb=rbk)
  (hse_:SetEq S S2) (hg:GameX rs_ ds_ bp gb mb S2 P.M 0 Tg) (hb:0 <= P.M.base /\ P.M.base+(P.M.lg.length:Int) <= 20000*(c:Int))
  (hn:RingH rb mb w P.a P.ms Tn) (hkv:LocIn kv)
  (hr:SlIs jK 38 rl rA rc Tr) (hrl:rl.length=rn) (hrr:RwsT rl P.rows Tp)
  (hu:SlX jK 38 ul uA uc Tu) (hul:ul.length=un) (huu:RwsT ul P.used Tp)
  (he:SlIs jg 58 el eA ec Te) (hel:el.length=en) (hee:EfsT el P.effs Tq)
  (hse3_:SetEq S S3) (hs:GameX rs_ ds_ bp sg smb S3 N 99020000 Ts) (hsc:N.cs=WS S J P.rows sn) (hsn:sn <= rn) (hsb:0 <= N.base /\ N.base <= 1000000*(sn:Int)) (hpl:S.players=(pl:Int))
  (hX:∀p xs,X=some (p,xs) -> ∀F:HL,(∀y∈Tp,y∈F) -> RwIn F xs p) :
  PeerR rs_ ds_ bp pp pl me w S J P kv c sn X (ap [(pBk pp pl me w gb rb lb rA rn rc ck uA un uc eA en ec rbk sg),(lb,.obj (bE kv cl))] [Tg,Tn,Tr,Tu,Te,Tp,Tq,Ts])
theorem jh{rs_:List Bx}{ds_:List Dr}{S2:Setup}{M:MemS}{bp mb k:Nat}{Tg:HL}(pp gb rb lb sg pl me w rn rc ck un uc en ec rbk:Nat)(rA uA eA:Option Addr)(e0:Int)(F:HL)(hp:(pBk pp pl me w gb rb lb rA rn rc ck uA un uc eA en ec rbk sg)∈F)(hG:GameX rs_ ds_ bp gb mb S2 M k Tg)(hT:∀x∈Tg,x∈F)(he0:M.get 0=e0):Sp Tryz.prog 18 #[vP pp 0] [] F (λ u H'=>u=vI e0 /\ H'=[]):=by
 refine aat Tryz.func18 rfl (mc hp mn) (A:=[]) (Ts:=[]) rfl λ w0=>?_;refine ae 11 [.ro 0] λ _=>aah (JE hG (λ x hx=>av (hT x hx)) he0)<|ae 3 [] λ _=>?_;exact aap [] [] [] ⟨rfl,rfl⟩
theorem gA(pp gb rb lb sg pl me w rn rc ck un uc en ec rbk:Nat)(rA uA eA:Option Addr)(F:HL)(hp:(pBk pp pl me w gb rb lb rA rn rc ck uA un uc eA en ec rbk sg)∈F):Sp Tryz.prog 19 #[vP pp 0] [] F (λ u H'=>u=vI (rn:Int) /\ H'=[]):=by
 refine aat Tryz.func19 rfl (mc hp mn) (A:=[]) (Ts:=[]) rfl λ w0=>?_;refine ae 15 [.ro 0] λ _=>?_;exact aap [] [] [] ⟨rfl,rfl⟩
theorem Fg(pp gb rb lb sg pl me w rn rc ck un uc en ec rbk:Nat)(rA uA eA:Option Addr)(F:HL)(hp:(pBk pp pl me w gb rb lb rA rn rc ck uA un uc eA en ec rbk sg)∈F):Sp Tryz.prog 20 #[vP pp 0] [] F (λ u H'=>u=vI (rbk:Int) /\ H'=[]):=by
 refine aat Tryz.func20 rfl (mc hp mn) (A:=[]) (Ts:=[]) rfl λ w0=>?_;refine ae 14 [.ro 0] λ _=>?_;exact aap [] [] [] ⟨rfl,rfl⟩
theorem Bk{rs_:List Bx}{ds_:List Dr}{S2:Setup}{M:MemS}{bp mb k:Nat}{Tg:HL}(pp gb rb lb sg pl me w rn rc ck un uc en ec rbk:Nat)(rA uA eA:Option Addr)(F:HL)(hp:(pBk pp pl me w gb rb lb rA rn rc ck uA un uc eA en ec rbk sg)∈F)(hG:GameX rs_ ds_ bp gb mb S2 M k Tg)(hT:∀x∈Tg,x∈F):Sp Tryz.prog 28 #[vP pp 0] [] F (λ u H'=>∃q:Nat,H'=ap [(q,.rows 1 M.cs.length (aS M.cs) 3 (0,0))] [] /\ u=vS q 0 M.cs.length M.cs.length):=by
 refine aat Tryz.func28 rfl (mc hp mn) (A:=[]) (Ts:=[]) rfl λ w0=>?_;refine ae 11 [.ro 0] λ _=>aah (JA hG (λ x hx=>av (hT x hx)))<|aai (Hp:=[]) (Tp:=[]) [] [] (JB hG (λ x hx=>av (hT x hx))) ?_;rintro _ q1 rfl;refine ae 3 [] λ _=>aap [] [0] [] (v:=vS q1 0 M.cs.length M.cs.length) (H':=(ap [(q1,.rows 1 M.cs.length (aS M.cs) 3 (0,0))] [])) ?_;exact⟨q1,rfl,rfl⟩
section
variable {rs_:List Bx} {ds_:List Dr} {bp pp pl me w:Nat} {S:Setup} {J:Nat -> Nat × Int} {P:PS (List Inp)} {kv:List IvN} {c sn:Nat} {X:Option (Rw × List Inp)} {G F:HL}
theorem se(h:PeerR rs_ ds_ bp pp pl me w S J P kv c sn X G)(hF:∀x∈G,x∈F){e:Int}(he:P.M.get 0=e):Sp Tryz.prog 18 #[vP pp 0] [] F (λ u H'=>u=vI e /\ H'=[]):=by
 cases h with
 | mk q1_ q2_ q3_ q4_ q5_ hse_ hg=>exact jh _ _ _ _ _ _ _ _ _ _ _ _ _ _ _ _ _ _ _ e F (hF _ (aax _ aay)) hg (λ x hx=>hF x (by simp[ap,hx])) he
theorem kH(h:PeerR rs_ ds_ bp pp pl me w S J P kv c sn X G)(hF:∀x∈G,x∈F):Sp Tryz.prog 19 #[vP pp 0] [] F (λ u H'=>u=vI (P.rows.length:Int) /\ H'=[]):=by
 cases h with
 | mk q1_ q2_ q3_ q4_ q5_ hse_ hg=>rw[q1_];exact gA _ _ _ _ _ _ _ _ _ _ _ _ _ _ _ _ _ _ _ F (hF _ (aax _ aay))
theorem OD(h:PeerR rs_ ds_ bp pp pl me w S J P kv c sn X G)(hF:∀x∈G,x∈F):Sp Tryz.prog 20 #[vP pp 0] [] F (λ u H'=>u=vI (P.rb:Int) /\ H'=[]):=by
 cases h with
 | mk q1_ q2_ q3_ q4_ q5_ hse_ hg=>rw[q5_];exact Fg _ _ _ _ _ _ _ _ _ _ _ _ _ _ _ _ _ _ _ F (hF _ (aax _ aay))
theorem L2(h:PeerR rs_ ds_ bp pp pl me w S J P kv c sn X G)(hF:∀x∈G,x∈F){cs:List Int}(he:P.M.cs=cs):Sp Tryz.prog 28 #[vP pp 0] (ap [] []) F (λ u H'=>∃q:Nat,H'=ap [(q,.rows 1 cs.length (aS cs) 3 (0,0))] [] /\ u=vS q 0 cs.length cs.length):=by
 subst he;cases h with
 | mk q1_ q2_ q3_ q4_ q5_ hse_ hg=>exact Bk _ _ _ _ _ _ _ _ _ _ _ _ _ _ _ _ _ _ _ F (hF _ (aax _ aay)) hg (λ x hx=>hF x (by simp[ap,hx]))
end
open Go.Shelf
section
variable {r:Option Nat} {P:Program} {N:Nat} {D:List Deferred} {F:HL} {w0:World} {R:HL} {s:Cfg} {Q:Exit -> Act -> World -> Prop} {hards:List Nat}
theorem L3{i:Nat}(p:Nat){kv:List IvN}{cl:Nat}{k:Int}{v:Value}(hk:RD r P N D F w0 R hards [] (Qn p (bE (lG kv cl k v) (jf kv cl k)) (wt N i undef s)) Q)
  (h:sT P N p (ld i s) s=some (k,v,E8 (sT P N p (ld i s) s),E8 (sT P N p (ld i s) s),bE kv cl):=by kernel_rfl) (hx:hards.contains i=true:=by kernel_rfl):RDO r P N D F w0 R hards [] i s Q:=by
 obtain⟨o,t,m,x,y,kt,et,ik,q0,q1,q2,q3,Yd,VQ,q4,q5,q5',q6,q7,IF,R8⟩:=uC h;generalize E8 (sT P N p (ld i s) s)=b at *;obtain⟨c,kk,L,A,Ts⟩:=s;unfold ld at q0;cases c with
 | code c=>cases q0
 | ex c=>cases q0
 | ops _ _=>cases q0
 | drw ops li =>
  refine⟨λ hR=>?_⟩;simp only at q0 q3 Yd VQ q4 q5 q5' IF R8;have RU:∀v L',ee N o.dst v L=some L' -> wt N i v ⟨.drw ops li,kk,L,A,Ts⟩=⟨.drw ops (bq li i true),kk,L',A,Ts⟩:=by
   intro v L' hl;unfold wt;simp only[q0,hl]
  have iS:∀L':FL,Qn p (bE (lG kv cl k v) (jf kv cl k)) ⟨.drw ops (bq li i true),kk,L',A,Ts⟩=⟨.drw ops (bq li i true),kk,L',bq A p (b,.obj (bE (lG kv cl k v) (jf kv cl k))),Ts⟩:=by
   intro L';unfold Qn;simp only[IF]
  refine(k9 (Q:=Q) (by simpa using q0) (σ:=Unit) (λ u _=>u=undef) (λ _=>ap (bq A p (b,.obj (bE (lG kv cl k v) (jf kv cl k)))) Ts) R8 (λ a hF=>⟨by simp[Region.wanted,q1],λ w f_ hB=>?_⟩) (λ _=>⟨λ hi=>?_,λ _ x hm=>by cases hm⟩) ?_:RDO r P N D F w0 R hards [] i ⟨.drw ops li,kk,L,A,Ts⟩ Q).h hR
  ·have hb:=f_.holds _ (aax _ (aax _ (List.mem_of_getElem? IF)));simp only[Blk.den] at hb;have e1:a.eval m=.map (some b):=(hF.eval q3).trans q4;have e2:a.eval x=.int .i64 k:=(hF.eval Yd).trans q5;have e3:a.eval y=v:=(hF.eval VQ).trans q5';have Ym:=pR (P:=P) (w:=w) (k:=k) (v:=v) q6 q7 hb;have hex:(execOp a.eval o).run P w=.ok .skip { w with heap:=w.heap.setIfInBounds b (bE (lG kv cl k v) (jf kv cl k)) }:=by
    rcases q2 with q2|q2
    ·simp only[execOp,q2,e1,e2,e3,aaZ,Ym,Result.andThen];rfl
    ·simp only[execOp,q2,e1,e2,e3,aaZ,Ym,Result.andThen];rfl
   unfold dt;rw[hex];have iN:=cr hb;rw[eJ] at f_;have C_:=f_.upd (w':={ w with heap:=w.heap.setIfInBounds b (bE (lG kv cl k v) (jf kv cl k)) }) (bl':=.obj (bE (lG kv cl k v) (jf kv cl k))) IF (by
    show (w.heap.setIfInBounds b _)[b]?=_;rw[Array.getElem?_setIfInBounds_self_of_lt iN];rfl) (λ k' UF=>by
    show (w.heap.setIfInBounds b _)[k']?=_;rw[Array.getElem?_setIfInBounds_ne (λ e=>UF e.symm)])
   exact⟨(),rfl,by rw[eJ];exact C_,⟨rfl,rfl,rfl,by simp,λ k hk=>by omega⟩⟩
  ·exact absurd (List.contains_iff_mem.1 hx) hi
  ·rintro u _ rfl L' R3 hs;have h3:=hk.h hR;rw[RU _ L' R3,iS] at h3;exact h3 hs
end
end Go.Proofs.YtdppjkjbghbnjaaGreatDoor
namespace Go.Proofs.YtdppjkjbghbnjaaGreatDoor
open Go.RowKit Go.Shelf
def fdC(T:HL)(s:Cfg):Cfg:=match s with
 | ⟨c,k,L,_,_⟩=>⟨c,k,L,[],[T]⟩
theorem L4{r:Option Nat}{P:Program}{N:Nat}{D:List Deferred}{F:HL}{w0:World}{R:HL}{s:Cfg}{Q:Exit -> Act -> World -> Prop}(B:HL)(Bs:List HL){T:HL}(e:T=ap B Bs)(hk:RN r P N D F w0 R (fdC T s) Q)(h:(s.A,s.Ts)=(B,Bs):=by kernel_rfl):RN r P N D F w0 R s Q:=by
 obtain⟨c,k,L,A,Ts⟩:=s;simp only[Prod.mk.injEq] at h;obtain⟨rfl,rfl⟩:=h;subst e;exact⟨λ hR a w h1 h2 h3=>hk.h hR a w h1 (by simpa [ap,fdC] using h2) h3⟩
theorem JF(v lo hi:Int)(F:HL)(alW:lo <= v)(agi:v <= hi):Sp Tryz.prog 72 #[vI v,vI lo,vI hi] [] F (λ u H'=>u=.bool true /\ H'=[]):=by
 refine aat Tryz.func72 rfl mn (A:=[]) (Ts:=[]) rfl λ w0=>?_;refine ae 11 [] λ _=>aal (lo <= v) 10 (λ h1=>?_) λ h1=>?_
 ·refine ae 7 [] λ _=>aap [] [] [] (v:=.bool (decide (v <= hi))) (H':=[]) ?_;exact⟨by rw[aa5 agi],rfl⟩
 ·(exfalso;omega)
theorem ze(x:Inp)(F:HL)(h:fg x):Sp Tryz.prog 45 #[.agg #[vI x.dx,vI x.dy,vI x.act]] [] F (λ u H'=>u=vI 0 /\ H'=[]):=by
 have Of:=h;unfold fg at Of;refine aat Tryz.func45 rfl mn (A:=[]) (Ts:=[]) rfl λ w0=>?_;refine ae 11 [.own 0] λ n1=>aah (JF x.dx (-1) 1 _ (by omega) (by omega))<|ae 4 [.own 0] λ _=>aah (JF x.dy (-1) 1 _ (by omega) (by omega))<|ae 5 [.own 0] λ _=>aah (JF x.act 0 3 _ (by omega) (by omega))<|ae 12 [] λ _=>?_;exact aap [] [] [] ⟨rfl,rfl⟩
theorem Bl{rs_:List Bx}{ds_:List Dr}{bp pp pl me w:Nat}{S:Setup}{J:Nat -> Nat × Int}{P:PS (List Inp)}{kv:List IvN}{c sn:Nat}{X:Option (Rw × List Inp)}{gb mb rb lb cl rn rc ck un uc en ec rbk sg smb:Nat}{S2 S3:Setup}{rA uA eA:Option Addr}{rl ul el:List Rw}{N:MemS}{Tg Tn Tr Tu Te Tp Tq Ts F:HL}(q1_:P.rows.length=rn)(q2_:P.ck=ck)(q3_:P.used.length=un)(q4_:P.effs.length=en)(q5_:P.rb=rbk)(hse_:SetEq S S2)(hg:GameX rs_ ds_ bp gb mb S2 P.M 0 Tg)(hb:0 <= P.M.base /\ P.M.base+(P.M.lg.length:Int) <= 20000*(c:Int))(hn:RingH rb mb w P.a P.ms Tn)(hkv:LocIn kv)(hr:SlIs jK 38 rl rA rc Tr)(hrl:rl.length=rn)(hrr:RwsT rl P.rows Tp)(hu:SlX jK 38 ul uA uc Tu)(hul:ul.length=un)(huu:RwsT ul P.used Tp)(he:SlIs jg 58 el eA ec Te)(hel:el.length=en)(hee:EfsT el P.effs Tq)(hse3_:SetEq S S3)(hs:GameX rs_ ds_ bp sg smb S3 N 99020000 Ts)(hsc:N.cs=WS S J P.rows sn)(hsn:sn <= rn)(hsb:0 <= N.base /\ N.base <= 1000000*(sn:Int))(hpl:S.players=(pl:Int))(hX:∀p xs,X=some (p,xs) -> ∀F:HL,(∀y∈Tp,y∈F) -> RwIn F xs p)(t:Int)(xi:Inp)(hi:fg xi):Sp Tryz.prog 29 #[vP pp 0,vI t,.agg #[vI xi.dx,vI xi.dy,vI xi.act]] (ap [(pBk pp pl me w gb rb lb rA rn rc ck uA un uc eA en ec rbk sg),(lb,.obj (bE kv cl))] [Tg,Tn,Tr,Tu,Te,Tp,Tq,Ts]) F (λ u H'=>∃x:List IvN × Int,u=vI x.2 /\ PeerR rs_ ds_ bp pp pl me w S J P x.1 c sn X H'):=by
 refine aat Tryz.func29 rfl mn (A:=[(pBk pp pl me w gb rb lb rA rn rc ck uA un uc eA en ec rbk sg),(lb,.obj (bE kv cl))]) (Ts:=[Tg,Tn,Tr,Tu,Te,Tp,Tq,Ts]) rfl λ w0=>?_;refine ae 10 (aab 3) λ n1=>aah (ze xi _ hi)<|ae 18 [] λ _=>aal (t<0) 17 (λ h2=>?_) λ h2=>?_
 ·refine ae 11 [] λ _=>aap [] [1,2] [0,1,2,3,4,5,6,7] (v:=vI 18) (H':=(ap [(pBk pp pl me w gb rb lb rA rn rc ck uA un uc eA en ec rbk sg),(lb,.obj (bE kv cl))] [Tg,Tn,Tr,Tu,Te,Tp,Tq,Ts])) ?_;exact⟨(kv,18),rfl,PeerR.mk q1_ q2_ q3_ q4_ q5_ hse_ hg hb hn hkv hr hrl hrr hu hul huu he hel hee hse3_ hs hsc hsn hsb hpl hX⟩
 ·refine ae 5 [] λ _=>aal (t >= 6000) 20 (λ h3=>?_) λ h3=>?_
  ·refine ae 6 [] λ _=>aap [] [1,2] [0,1,2,3,4,5,6,7] (v:=vI 18) (H':=(ap [(pBk pp pl me w gb rb lb rA rn rc ck uA un uc eA en ec rbk sg),(lb,.obj (bE kv cl))] [Tg,Tn,Tr,Tu,Te,Tp,Tq,Ts])) ?_;exact⟨(kv,18),rfl,PeerR.mk q1_ q2_ q3_ q4_ q5_ hse_ hg hb hn hkv hr hrl hrr hu hul huu he hel hee hse3_ hs hsc hsn hsb hpl hX⟩
  ·refine ae 8 [] λ _=>aah (gA pp gb rb lb sg pl me w rn rc ck un uc en ec rbk rA uA eA _ (aA 1))<|ae 3 [] λ _=>aal (t<(rn:Int)) 24 (λ h4=>?_) λ h4=>?_
   ·refine ae 6 [] λ _=>aap [] [1,2] [0,1,2,3,4,5,6,7] (v:=vI 20) (H':=(ap [(pBk pp pl me w gb rb lb rA rn rc ck uA un uc eA en ec rbk sg),(lb,.obj (bE kv cl))] [Tg,Tn,Tr,Tu,Te,Tp,Tq,Ts])) ?_;exact⟨(kv,20),rfl,PeerR.mk q1_ q2_ q3_ q4_ q5_ hse_ hg hb hn hkv hr hrl hrr hu hul huu he hel hee hse3_ hs hsc hsn hsb hpl hX⟩
   ·refine ae 11 [.own 1] λ _=>?_;rcases hkv.get t with ⟨SP,Ti⟩|⟨xl,aca,SP,Ti⟩
    ·refine pq 2 (kv:=kv) (cl:=cl) (k:=t) (ok:=true) (z:=.agg #[vI 0,vI 0,vI 0]) (v:=.tuple #[.agg #[vI 0,vI 0,vI 0],.bool false]) (by simp only[FG,SP];rfl)<|ae 17 (aab 3) λ n5=>aak [6] []<|ag [] [0,4,5,1,2,3] [.own 1,.own 1,.own 1,.own 2]<|aae 6 (L3 3 (kv:=kv) (cl:=cl) (k:=t) (v:=.agg #[vI xi.dx,vI xi.dy,vI xi.act]) ?_);refine aad<|ae 6 [] λ _=>aap [] [2,3] [0,1,2,3,4,5,6,7] (v:=vI 0) (H':=(ap [(pBk pp pl me w gb rb lb rA rn rc ck uA un uc eA en ec rbk sg),(lb,.obj (bE (lG kv cl t (.agg #[vI xi.dx,vI xi.dy,vI xi.act])) (jf kv cl t)))] [Tg,Tn,Tr,Tu,Te,Tp,Tq,Ts])) ?_;exact⟨(_,0),rfl,PeerR.mk q1_ q2_ q3_ q4_ q5_ hse_ hg hb hn (hkv.put cl t hi) hr hrl hrr hu hul huu he hel hee hse3_ hs hsc hsn hsb hpl hX⟩
    ·refine pq 2 (kv:=kv) (cl:=cl) (k:=t) (ok:=true) (z:=.agg #[vI 0,vI 0,vI 0]) (v:=.tuple #[.agg #[vI xl.dx,vI xl.dy,vI xl.act],.bool true]) (by simp only[FG,SP];rfl)<|ae 19 (aab 3) λ n6=>aap [] [2,3] [0,1,2,3,4,5,6,7] (v:=vI 4) (H':=(ap [(pBk pp pl me w gb rb lb rA rn rc ck uA un uc eA en ec rbk sg),(lb,.obj (bE kv cl))] [Tg,Tn,Tr,Tu,Te,Tp,Tq,Ts])) ?_;exact⟨(kv,4),rfl,PeerR.mk q1_ q2_ q3_ q4_ q5_ hse_ hg hb hn hkv hr hrl hrr hu hul huu he hel hee hse3_ hs hsc hsn hsb hpl hX⟩
theorem Bm{rs_:List Bx}{ds_:List Dr}{bp pp pl me w:Nat}{S:Setup}{J:Nat -> Nat × Int}{P:PS (List Inp)}{kv:List IvN}{c sn:Nat}{X:Option (Rw × List Inp)}{G F:HL}(h:PeerR rs_ ds_ bp pp pl me w S J P kv c sn X G){t:Int}{xi:Inp}(hi:fg xi):Sp Tryz.prog 29 #[vP pp 0,vI t,.agg #[vI xi.dx,vI xi.dy,vI xi.act]] (ap [] [G]) F (λ u H'=>∃T9,H'=ap [] [T9] /\ ((λ u H'=>∃x:List IvN × Int,u=vI x.2 /\ PeerR rs_ ds_ bp pp pl me w S J P x.1 c sn X H') u T9)):=by
 rw[bj];cases h with
 | mk q1_ q2_ q3_ q4_ q5_ hse_ hg hb hn hkv hr hrl hrr hu hul huu he hel hee hse3_ hs hsc hsn hsb hpl hX =>
  exact(Bl q1_ q2_ q3_ q4_ q5_ hse_ hg hb hn hkv hr hrl hrr hu hul huu he hel hee hse3_ hs hsc hsn hsb hpl hX t xi hi).tl
theorem uE{w:Nat}{g g':Nat -> Nat -> Value}:∀ {n:Nat},(∀i k,i<n -> k<w -> g i k=g' i k) -> bC w g n=bC w g' n
 | 0,_=>rfl
 | n+1,h=>by
  rw[bC,bC,uE λ i k hi hk=>h i k (by omega) hk];congr 1;exact List.map_congr_left λ k hk=>h n k (by omega) (List.mem_range.1 hk)
theorem oq{w n:Nat}{g g':Nat -> Nat -> Value}{ty:TypeId}{fz:Nat × Nat}(h:∀i k,i<n -> k<w -> g i k=g' i k):(Blk.rows w n g ty fz).den=(Blk.rows w n g' ty fz).den:=by
 simp only[Blk.den,uE h]
section
variable {r:Option Nat} {P:Program} {N:Nat} {D:List Deferred} {F:HL} {w0:World} {R:HL} {s:Cfg} {Q:Exit -> Act -> World -> Prop}
theorem C0(i:Nat)(a b:Blk)(e:a.den=b.den)(hk:RN r P N D F w0 R (O4 i b s) Q)(h:O5 i s=some a.den:=by kernel_rfl):RN r P N D F w0 R s Q:=aaj i b hk (h.trans (congrArg some e))
end
theorem we(l:List Inp){n k:Nat}(h:k<l.length)(x:Inp):∀i j,i<n -> j<3 -> dD (dD (dD (aP cV l) k 0 (vI x.dx)) k 1 (vI x.dy)) k 2 (vI x.act) i j=aP cV (l.set k x) i j:=λ i j _ hj=>by
 unfold dD aP
 by_cases e:i=k
 ·subst e;rw[fH h];rcases j with _|_|_|j
  ·simp;rfl
  ·simp;rfl
  ·simp;rfl
  ·omega
 ·rw[fo (λ e2=>e e2.symm)];simp[e]
theorem Fh(n:Nat):∀i j,i<n -> j<3 -> uK [vI 0,vI 0,vI 0] i j=aP cV (List.replicate n dI) i j:=λ i j _ hj=>by
 unfold uK aP;have e:(List.replicate n dI).getD i cV.dflt=dI:=by
  rw[aaE,List.getElem?_replicate];split <;> rfl
 rw[e];rcases j with _|_|_|j
 ·rfl
 ·rfl
 ·rfl
 ·omega
theorem JG{pl:Nat}{rows:List (List Inp)}(h:rows=[]):wb pl rows=List.replicate pl dI:=by subst h;rfl
theorem Fi{pl:Nat}{rows:List (List Inp)}{last l:List Inp}(h1:1 <= rows.length)(hse_:rows.getD (rows.length-1) []=last)(hse3_:l.length=last.length)(h4:∀i,i<last.length -> l.getD i dI=kc (last.getD i dI)):wb pl rows=l:=by
 unfold wb;have e:rows.getLast?=some last:=by
  rw[List.getLast?_eq_getElem?,<- hse_,aaE,aaO (by omega)];rfl
 rw[e];show last.map kc=l;refine yW (d:=dI) (by rw[List.length_map,hse3_]) λ i hi=>?_;rw[List.length_map] at hi;rw[h4 i hi,aaE,List.getElem?_map,aaE,aaO hi];rfl
theorem wg{F:HL}{q pl:Nat}{l:List Inp}(h:l.length=pl)(hq:(q,.rows 3 pl (aP cV l) 40 (0,0))∈F):RwIn F l ⟨some ⟨q,0,none⟩,pl,pl⟩:=by
 subst h;have:=RwIn.mk (F:=F) (xs:=l) q 0 l.length l l.length hq (by omega) (λ k hk=>by rw[Nat.zero_add]) (aaI _);rwa [Nat.zero_mul] at this
theorem JH(pp gb rb lb sg pl me w rn rc ck un uc en ec rbk:Nat)(rA uA eA:Option Addr)(cl t:Nat)(kv:List IvN)(rows:List (List Inp))(rl:List Rw)(Tp F:HL)(hp:(pBk pp pl me w gb rb lb rA rn rc ck uA un uc eA en ec rbk sg)∈F)(hkv:LocIn kv)(hr:RowL jK 38 F rA rn rl)(hT:RwsT rl rows Tp)(hTF:∀x∈Tp,x∈F)(I_:∀r∈rows,RowOk (pl:Int) r)(Si:rn <= 1000000)(ht8:t <= 1000000)(hpl:1 <= pl /\ pl <= 1000)(R5:me<pl):Sp Tryz.prog 49 #[vP pp 0,vI (t:Int)] [(lb,.obj (bE kv cl))] F (λ u H'=>∃x:Rw × HL,H'=ap [(lb,.obj (bE kv cl))] [x.2] /\ (u=.slice x.1.A x.1.n x.1.c /\ ∀F2,(∀y∈Tp++x.2,y∈F2) -> RwIn F2 (f7 pl me rows (gV kv) t) x.1)):=by
 have hw:=hT F hTF;refine aat Tryz.func49 rfl (mc hp mn) (A:=[(lb,.obj (bE kv cl))]) (Ts:=[]) rfl λ w0=>?_;refine ae 17 [.ro 0] λ _=>aal ((t:Int)<(rn:Int)) 17 (λ h1=>?_) λ h1=>?_
 ·have ht_:t<rn:=by omega
  refine ae 8 [.ro 0] λ _=>?_;obtain⟨qx2,ox2,Nx2,fx2,ans,ahi,afy,alO,agl⟩:=hr.at (k:=t) (by omega);refine aK 21 (congrArg (λ v_=>(.slice v_ rn rc:Value)) ahi)<|RN.ro (λ _=>(mc hp (mc afy mn)))<|ai 2 [.ix t,.rorow 1 (ox2+t) 0] [(ox2*1+t*1)=(ox2+t)*1+0 /\ (ox2+t)<Nx2,(t:Int)=((t:Nat):Int) /\ t<rn] λ _=>aK 24 (congrArg (λ v_=>(.slice v_.A v_.n v_.c:Value)) agl)<|ae 3 [] λ _=>aap [] [0] [] (v:=.slice ((rl.getD t jK.dflt).A) ((rl.getD t jK.dflt).n) ((rl.getD t jK.dflt).c)) (H':=(ap [(lb,.obj (bE kv cl))] [])) ?_;refine⟨(⟨(rl.getD t jK.dflt).A,((rl.getD t jK.dflt).n),((rl.getD t jK.dflt).c)⟩,[]),by simp[ap],rfl,λ F2 hF=>?_⟩;rw[f7,if_pos (by rw[<- hw.len,hr.len];exact ht_)];exact(hT F2 λ x hx=>hF x (by simpa using hx)).row t (by rw[hr.len];exact ht_)
 ·refine ai 15 [.ro 0,.mk pl pl] [(pl:Int)=((pl:Nat):Int) /\ (pl:Int)=((pl:Nat):Int) /\ pl <= pl /\ 24*pl <= 140737488355328 /\ 3=3 /\ pl <= 9223372036854775807] λ n3=>C0 0 (.rows 3 pl (uK [vI 0,vI 0,vI 0]) 40 (0,0)) (.rows 3 pl (aP cV (List.replicate pl dI)) 40 (0,0)) (oq (Fh pl))<|ae 15 [.ro 0] λ _=>aal ((rn:Int)>0) 36 (λ h4=>?_) λ h4=>?_
  ·have afr:1 <= rn:=by omega
   refine ai 9 [.ro 0,.nw] [aZ ((rn:Int)-1)] λ _=>?_;obtain⟨qx5,By,UM,fx5,X6,SZ,Td,Xw,TW⟩:=hr.at (k:=(rn-1)) (by omega);refine aK 40 (congrArg (λ v_=>(.slice v_ rn rc:Value)) SZ)<|RN.ro (λ _=>(mc hp (mc Td mn)))<|ai 2 [.ix (rn-1),.rorow 1 (By+(rn-1)) 0] [(By*1+(rn-1)*1)=(By+(rn-1))*1+0 /\ (By+(rn-1))<UM,(rn:Int)-1=(((rn-1):Nat):Int) /\ (rn-1)<rn] λ _=>aK 44 (congrArg (λ v_=>(.slice v_.A v_.n v_.c:Value)) TW) ?_;obtain⟨bk,ok,Nk,fk,ck2,ek,hIk,hik,hxk,Vk⟩:=hw.get (k:=rn-1) (by rw[hr.len];omega);obtain⟨last,IS⟩:∃r,rows.getD (rn-1) []=r:=⟨_,rfl⟩;rw[IS] at ek hik hxk Vk;have alX:(last.length:Int)=(pl:Int):=by rw[<- IS];exact(I_ _ (iH (by rw[<- hw.len,hr.len];omega) _)).1
   refine aK 44 (congrArg (λ v_:Rw=>Value.slice v_.A v_.n v_.c) ek)<|RN.ro (λ _=>(mc hp (mc Td (mc hIk mn))))<|ae 5 [] λ _=>aan (σ:=Nat × List Inp) (λ ⟨k_,l_⟩=>⟨[(0,vP pp 0),(1,vI (t:Int)),(5,vS (n3+0) 0 pl pl),(44,vS bk (ok*3) last.length ck2),(45,vI (last.length:Int)),(46,vI (k_:Int))],[((n3+0),.rows 3 pl (aP cV l_) 40 (0,0)),(lb,.obj (bE kv cl))],[],k_ <= pl /\ l_.length=pl /\ ∀i,i<k_ -> l_.getD i dI=kc (last.getD i dI),pl-k_⟩) (0,List.replicate pl dI) [0,1] [] (⟨aaJ _,List.length_replicate,λ i hi=>absurd hi (Nat.not_lt_zero _)⟩) ?_;rintro⟨k_,l_⟩ ⟨Wj,Vg,hp_⟩ Ye;refine ae 6 [] λ _=>aal ((k_:Int)<(last.length:Int)) 47 (λ h8=>?_) λ h8=>?_
   ·refine ai 11 [.ix k_,.rorow 2 (ok+k_) 0,.rorow 2 (ok+k_) 1,.rorow 2 (ok+k_) 2] [((ok*3+k_*3)+2)=(ok+k_)*3+2 /\ (ok+k_)<Nk,((ok*3+k_*3)+1)=(ok+k_)*3+1 /\ (ok+k_)<Nk,(ok*3+k_*3)=(ok+k_)*3+0 /\ (ok+k_)<Nk,(k_:Int)=((k_:Nat):Int) /\ k_<last.length] λ n9=>aK 50 (congrArg (λ v_=>(.agg #[vI v_.dx,vI v_.dy,vI v_.act]:Value)) (hxk k_ (by omega)))<|ae 8 (ow 0 6) λ _=>aah (Jg (last.getD k_ dI) _)<|ai 9 [.ix k_,.row 1 k_ 0,.row 1 k_ 1,.row 1 k_ 2,.nw] [aZ ((k_:Int)+1),((0+k_*3)+2)=k_*3+2 /\ k_<pl,((0+k_*3)+1)=k_*3+1 /\ k_<pl,(0+k_*3)=k_*3+0 /\ k_<pl,(k_:Int)=((k_:Nat):Int) /\ k_<pl] λ _=>C0 1 (.rows 3 pl (dD (dD (dD (aP cV l_) k_ 0 (vI ((kc (last.getD k_ dI)).dx))) k_ 1 (vI ((kc (last.getD k_ dI)).dy))) k_ 2 (vI ((kc (last.getD k_ dI)).act))) 40 (0,0)) (.rows 3 pl (aP cV (l_.set k_ (kc (last.getD k_ dI)))) 40 (0,0)) (oq (we l_ (by omega) _)) ?_;refine Ye (k_+1,(l_.set k_ (kc (last.getD k_ dI)))) [1,2] [] ?_
    try dsimp only
    refine⟨⟨by omega,by rw[List.length_set];exact Vg,λ i hi=>?_⟩,by omega⟩
    by_cases ei:k_=i
    ·subst ei;rw[fH (by omega)]
    ·rw[fo ei];exact hp_ i (by omega)
   ·refine ae 8 [] λ _=>?_;have hB_:wb pl rows=l_:=by
     obtain rfl:k_=last.length:=by omega
     exact Fi (by rw[<- hw.len,hr.len];exact afr) (by rw[<- hw.len,hr.len];exact IS) (by omega) hp_
    refine ae 6 [.ro 0] λ _=>?_;rcases hkv.get (t:Int) with ⟨SP,Ti⟩|⟨xl,aca,SP,Ti⟩
    ·refine pq 1 (kv:=kv) (cl:=cl) (k:=(t:Int)) (ok:=true) (z:=.agg #[vI 0,vI 0,vI 0]) (v:=.tuple #[.agg #[vI 0,vI 0,vI 0],.bool false]) (by simp only[FG,SP];rfl)<|ae 17 (aab 3) λ TI=>ae 5 [] λ _=>aap [] [2,1] [] (v:=vS (n3+0) 0 pl pl) (H':=(ap [(lb,.obj (bE kv cl)),((n3+0),.rows 3 pl (aP cV l_) 40 (0,0))] [])) ?_;have SN:f7 pl me rows (gV kv) t=l_:=by rw[f7,if_neg (by rw[<- hw.len,hr.len];omega),Ti];show _=_;rw[hB_]
     have UX:l_.length=pl:=by first|exact Vg|exact List.length_replicate|(rw[List.length_set];first|exact Vg|exact List.length_replicate)
     refine⟨(⟨some ⟨(n3+0),0,none⟩,pl,pl⟩,[((n3+0),.rows 3 pl (aP cV l_) 40 (0,0))]),by simp[ap],rfl,λ F2 hF=>?_⟩;rw[SN];exact wg UX (hF _ (aav _ (List.mem_singleton.2 rfl)))
    ·refine pq 1 (kv:=kv) (cl:=cl) (k:=(t:Int)) (ok:=true) (z:=.agg #[vI 0,vI 0,vI 0]) (v:=.tuple #[.agg #[vI xl.dx,vI xl.dy,vI xl.act],.bool true]) (by simp only[FG,SP];rfl)<|ae 14 (aab 3) λ n11=>aak [7] []<|aw [] [0,1,5,2,3,4,6] [.own 0,.own 0,.own 0,.ro 0,.ix me] [(me:Int)=((me:Nat):Int) /\ me<pl]<|aae 7 (fU [] [.row 1 me 0,.row 1 me 1,.row 1 me 2] [((0+me*3)+2)=me*3+2 /\ me<pl,((0+me*3)+1)=me*3+1 /\ me<pl,(0+me*3)=me*3+0 /\ me<pl] λ _=>?_);refine aad<|ae 2 [] λ _=>?_;have af1:l_.length=pl:=by first|exact Vg|exact List.length_replicate
     refine C0 1 (.rows 3 pl (dD (dD (dD (aP cV l_) me 0 (vI xl.dx)) me 1 (vI xl.dy)) me 2 (vI xl.act)) 40 (0,0)) (.rows 3 pl (aP cV (l_.set me xl)) 40 (0,0)) (oq (we l_ (by omega) xl))<|ae 5 [] λ _=>aap [] [2,1] [] (v:=vS (n3+0) 0 pl pl) (H':=(ap [(lb,.obj (bE kv cl)),((n3+0),.rows 3 pl (aP cV (l_.set me xl)) 40 (0,0))] [])) ?_;have SN:f7 pl me rows (gV kv) t=(l_.set me xl):=by rw[f7,if_neg (by rw[<- hw.len,hr.len];omega),Ti];show _=_;rw[hB_]
     have UX:(l_.set me xl).length=pl:=by first|exact Vg|exact List.length_replicate|(rw[List.length_set];first|exact Vg|exact List.length_replicate)
     refine⟨(⟨some ⟨(n3+0),0,none⟩,pl,pl⟩,[((n3+0),.rows 3 pl (aP cV (l_.set me xl)) 40 (0,0))]),by simp[ap],rfl,λ F2 hF=>?_⟩;rw[SN];exact wg UX (hF _ (aav _ (List.mem_singleton.2 rfl)))
  ·refine ae 5 [] λ _=>?_;have hB_:wb pl rows=List.replicate pl dI:=JG (by have h_:=hw.len;rw[hr.len] at h_;exact aaT (by omega));refine ae 6 [.ro 0] λ _=>?_;rcases hkv.get (t:Int) with ⟨SP,Ti⟩|⟨xl,aca,SP,Ti⟩
   ·refine pq 1 (kv:=kv) (cl:=cl) (k:=(t:Int)) (ok:=true) (z:=.agg #[vI 0,vI 0,vI 0]) (v:=.tuple #[.agg #[vI 0,vI 0,vI 0],.bool false]) (by simp only[FG,SP];rfl)<|ae 17 (aab 3) λ n12=>ae 5 [] λ _=>aap [] [2,1] [] (v:=vS (n3+0) 0 pl pl) (H':=(ap [(lb,.obj (bE kv cl)),((n3+0),.rows 3 pl (aP cV (List.replicate pl dI)) 40 (0,0))] [])) ?_;have SN:f7 pl me rows (gV kv) t=(List.replicate pl dI):=by rw[f7,if_neg (by rw[<- hw.len,hr.len];omega),Ti];show _=_;rw[hB_]
    have UX:(List.replicate pl dI).length=pl:=by first|exact Vg|exact List.length_replicate|(rw[List.length_set];first|exact Vg|exact List.length_replicate)
    refine⟨(⟨some ⟨(n3+0),0,none⟩,pl,pl⟩,[((n3+0),.rows 3 pl (aP cV (List.replicate pl dI)) 40 (0,0))]),by simp[ap],rfl,λ F2 hF=>?_⟩;rw[SN];exact wg UX (hF _ (aav _ (List.mem_singleton.2 rfl)))
   ·refine pq 1 (kv:=kv) (cl:=cl) (k:=(t:Int)) (ok:=true) (z:=.agg #[vI 0,vI 0,vI 0]) (v:=.tuple #[.agg #[vI xl.dx,vI xl.dy,vI xl.act],.bool true]) (by simp only[FG,SP];rfl)<|ae 14 (aab 3) λ n13=>aak [7] []<|aw [] [0,1,5,2,3,4,6] [.own 0,.own 0,.own 0,.ro 0,.ix me] [(me:Int)=((me:Nat):Int) /\ me<pl]<|aae 7 (fU [] [.row 1 me 0,.row 1 me 1,.row 1 me 2] [((0+me*3)+2)=me*3+2 /\ me<pl,((0+me*3)+1)=me*3+1 /\ me<pl,(0+me*3)=me*3+0 /\ me<pl] λ _=>?_);refine aad<|ae 2 [] λ _=>?_;have af1:(List.replicate pl dI).length=pl:=by first|exact Vg|exact List.length_replicate
    refine C0 1 (.rows 3 pl (dD (dD (dD (aP cV (List.replicate pl dI)) me 0 (vI xl.dx)) me 1 (vI xl.dy)) me 2 (vI xl.act)) 40 (0,0)) (.rows 3 pl (aP cV ((List.replicate pl dI).set me xl)) 40 (0,0)) (oq (we (List.replicate pl dI) (by omega) xl))<|ae 5 [] λ _=>aap [] [2,1] [] (v:=vS (n3+0) 0 pl pl) (H':=(ap [(lb,.obj (bE kv cl)),((n3+0),.rows 3 pl (aP cV ((List.replicate pl dI).set me xl)) 40 (0,0))] [])) ?_;have SN:f7 pl me rows (gV kv) t=((List.replicate pl dI).set me xl):=by rw[f7,if_neg (by rw[<- hw.len,hr.len];omega),Ti];show _=_;rw[hB_]
    have UX:((List.replicate pl dI).set me xl).length=pl:=by first|exact Vg|exact List.length_replicate|(rw[List.length_set];first|exact Vg|exact List.length_replicate)
    refine⟨(⟨some ⟨(n3+0),0,none⟩,pl,pl⟩,[((n3+0),.rows 3 pl (aP cV ((List.replicate pl dI).set me xl)) 40 (0,0))]),by simp[ap],rfl,λ F2 hF=>?_⟩;rw[SN];exact wg UX (hF _ (aav _ (List.mem_singleton.2 rfl)))
theorem JI{rs_:List Bx}{ds_:List Dr}{bp pp pl me w:Nat}{S:Setup}{J:Nat -> Nat × Int}{P:PS (List Inp)}{kv:List IvN}{c sn:Nat}{X:Option (Rw × List Inp)}{G F:HL}(h:PeerR rs_ ds_ bp pp pl me w S J P kv c sn X G){t:Nat}(I_:∀r∈P.rows,RowOk (pl:Int) r)(Si:P.rows.length <= 1000000)(ht8:t <= 1000000)(abY:1 <= pl /\ pl <= 1000)(R5:me<pl):Sp Tryz.prog 49 #[vP pp 0,vI (t:Int)] (ap [] [G]) F (λ u H'=>∃x:Rw × HL,H'=ap [] [x.2] /\ (u=.slice x.1.A x.1.n x.1.c /\ PeerR rs_ ds_ bp pp pl me w S J P kv c sn (some (x.1,f7 pl me P.rows (gV kv) t)) x.2)):=by
 cases h with
 | @mk gb mb rb lb cl rn rc ck un uc en ec rbk sg smb S2 S3 rA uA eA rl ul el N Tg Tn Tr Tu Te Tp Tq Ts q1_ q2_ q3_ q4_ q5_ hse_ hg hb hn hkv hr hrl hrr hu hul huu he hel hee hse3_ hs hsc hsn hsb hpl hX =>
  have hm:∀x∈[Tg,Tn,Tr,Tu,Te,Tp,Tq,Ts].flatten,x∈((pBk pp pl me w gb rb lb rA rn rc ck uA un uc eA en ec rbk sg)::[Tg,Tn,Tr,Tu,Te,Tp,Tq,Ts].flatten)++F:=λ x hx=>aax _ (aaC _ hx);have key:=JH pp gb rb lb sg pl me w rn rc ck un uc en ec rbk rA uA eA cl t kv P.rows rl Tp (((pBk pp pl me w gb rb lb rA rn rc ck uA un uc eA en ec rbk sg)::[Tg,Tn,Tr,Tu,Te,Tp,Tq,Ts].flatten)++F) (aax _ aay) hkv (by have h_:=hr.toRowL λ x hx=>hm x (by simp[hx]);rwa [hrl] at h_) hrr (λ x hx=>hm x (by simp[hx])) I_ (by omega) ht8 abY R5;refine Sp.fr (X:=(pBk pp pl me w gb rb lb rA rn rc ck uA un uc eA en ec rbk sg)::[Tg,Tn,Tr,Tu,Te,Tp,Tq,Ts].flatten) ?_ (F:=F) key ?_
  ·simp only[ap,aaX,List.flatten_nil,List.append_nil,List.nil_append,List.cons_append,aaD];exact List.Perm.swap _ _ _
  ·rintro u Y ⟨⟨q,Tx⟩,rfl,h4,h5⟩;refine⟨_,⟨(q,ap [(pBk pp pl me w gb rb lb rA rn rc ck uA un uc eA en ec rbk sg),(lb,.obj (bE kv cl))] [Tg,Tn,Tr,Tu,Te,Tp++Tx,Tq,Ts]),(bj _).symm,h4,PeerR.mk q1_ q2_ q3_ q4_ q5_ hse_ hg hb hn hkv hr hrl (hrr.more _) hu hul (huu.more _) he hel hee hse3_ hs hsc hsn hsb hpl (λ p_ xs_ h_ F2 hF=>by cases h_;exact h5 F2 hF)⟩,?_⟩;simp only[ap,aaX,List.flatten_nil,List.append_nil,List.nil_append,List.cons_append,aaD];refine(List.Perm.swap _ _ _).trans (List.Perm.cons _ ?_);exact Ff _ _ _ _ _ _ _ _ _ _
theorem C1{F:HL}{b o N:Nat}{full xs:List Inp}(hI:(b,.rows 3 N (kM full) 40 (0,0))∈F)(hi:o+xs.length <= N)(hx:∀k,k<xs.length -> full.getD (o+k) dI=xs.getD k dI){X:HL}:RowL cV 40 (X++F) (some ⟨b,o*3,none⟩) xs.length xs:=.rows b o N full (0,0) _ xs (aav _ hI) hi rfl hx
theorem Qp{rows used:List (List Inp)}{ck k:Nat}(h1:k<used.length)(hse_:ck+k<rows.length)(hse3_:∀i,i<k -> used.getD i []=rows.getD (ck+i) [])(h4:¬ used.getD k []=rows.getD (ck+k) []):wr rows ck used=some (ck+k):=by
 induction used generalizing ck k with
 | nil=>simp at h1
 | cons u l ih =>
  rw[wr,aaO (show ck<rows.length by omega)];have e0:rows.getD ck []=rows[ck]'(by omega):=by rw[aaE,aaO (show ck<rows.length by omega)];rfl
  cases k with
  | zero =>
   simp only[Nat.add_zero] at h4;rw[e0] at h4;simp only[List.getD_cons_zero] at h4;simp only[if_neg h4,Nat.add_zero]
  | succ k =>
   have h5:=hse3_ 0 (by omega);rw[Nat.add_zero,e0] at h5;simp only[List.getD_cons_zero] at h5;simp only[if_pos h5];rw[ih (ck:=ck+1) (k:=k) (by simpa using h1) (by omega) (λ i hi=>by have:=hse3_ (i+1) (by omega);rw[List.getD_cons_succ] at this;rw[this];congr 1;omega) (by rw[List.getD_cons_succ] at h4;rwa [show ck+1+k=ck+(k+1) by omega])];congr 1;omega
theorem C2{rows used:List (List Inp)}{ck k:Nat}(hse3_:∀i,i<k -> used.getD i []=rows.getD (ck+i) [])(h4:used.length <= k \/ rows.length <= ck+k):wr rows ck used=none:=by
 induction used generalizing ck k with
 | nil=>rfl
 | cons u l ih =>
  rw[wr];cases e:rows[ck]? with
  | none=>rfl
  | some r =>
   have hc:ck<rows.length:=(List.getElem?_eq_some_iff.1 e).1;cases k with
   | zero=>simp only[aaN] at h4;omega
   | succ k =>
    have h6:u=r:=by
     have h5:=hse3_ 0 (by omega);rw[Nat.add_zero] at h5;simp only[List.getD_cons_zero] at h5;rw[h5,aaE,e];rfl
    simp only[if_pos h6];exact ih (k:=k) (λ i hi=>by have:=hse3_ (i+1) (by omega);rw[List.getD_cons_succ] at this;rw[this];congr 1;omega) (by simp only[aaN] at h4;omega)
theorem Bn(pp gb rb lb sg pl me w rn rc ck un uc en ec rbk:Nat)(rA uA eA:Option Addr)(rows used:List (List Inp))(rl ul:List Rw)(F:HL)(hp:(pBk pp pl me w gb rb lb rA rn rc ck uA un uc eA en ec rbk sg)∈F)(hr:RowL jK 38 F rA rn rl)(UR:RwsIn F rl rows)(hu:RowL jK 38 F uA un ul)(hwu:RwsIn F ul used)(hln:∀k,k<un -> (used.getD k []).length <= 1000000)(Si:rn <= 1000000)(Vk:ck <= 1000000)(hun:un <= 1000000):Sp Tryz.prog 47 #[vP pp 0] [] F (λ u H'=>u=.tuple #[vI (((wr rows ck used).getD 0:Nat):Int),.bool (wr rows ck used).isSome] /\ H'=[]):=by
 have V6:=hr.len;have abx:=hu.len;have aip:=UR.len;have ain:=hwu.len;refine aat Tryz.func47 rfl (mc hp mn) (A:=[]) (Ts:=[]) rfl λ w0=>?_;refine ae 18 [.ro 0] λ _=>aan (σ:=Nat) (λ k_=>⟨[(0,vP pp 0),(10,.slice uA un uc),(11,vI (un:Int)),(12,vI (k_:Int))],[],[],k_ <= un /\ ∀i,i<k_ -> ck+i<rn /\ used.getD i []=rows.getD (ck+i) [],un-k_⟩) 0 [] [] (⟨aaJ _,λ i hi=>absurd hi (Nat.not_lt_zero _)⟩) ?_;rintro k_ ⟨Wj,Sx⟩ Sg;refine ae 6 [] λ _=>aal ((k_:Int)<(un:Int)) 13 (λ h3=>?_) λ h3=>?_
 ·refine ae 8 [] λ _=>?_;obtain⟨qx4,RO,WY,fx4,aaz,Ux,TU,Zq,UZ⟩:=hu.at (k:=k_) (by omega);refine aK 10 (congrArg (λ v_=>(.slice v_ un uc:Value)) Ux)<|RN.ro (λ _=>(mc hp (mc TU mn)))<|ai 2 [.ix k_,.rorow 1 (RO+k_) 0] [(RO*1+k_*1)=(RO+k_)*1+0 /\ (RO+k_)<WY,(k_:Int)=((k_:Nat):Int) /\ k_<un] λ _=>aK 16 (congrArg (λ v_=>(.slice v_.A v_.n v_.c:Value)) UZ) ?_;obtain⟨bu,ou,Nu,fu,cu,eu,hIu,hiu,hxu,XI⟩:=hwu.get (k:=k_) (by rw[hu.len];omega);refine aK 16 (congrArg (λ v_:Rw=>Value.slice v_.A v_.n v_.c) eu)<|ai 27 [.ro 0,.nw,.ro 0] [aZ ((ck:Int)+(k_:Int))] λ _=>aal ((ck:Int)+(k_:Int) >= (rn:Int)) 29 (λ h5=>?_) λ h5=>?_
  ·refine ae 14 [] λ _=>aap [] [] [] (v:=.tuple #[vI 0,.bool false]) (H':=[]) ?_;exact⟨by rw[C2 (k:=k_) (λ i hi=>(Sx i hi).2) (by omega)];rfl,rfl⟩
  ·refine ae 11 [.ro 0] λ _=>?_;obtain⟨qx6,Va,Nx6,fx6,adx,WT,Wc,ab0,Wn⟩:=hr.at (k:=(ck+k_)) (by omega);refine aK 34 (congrArg (λ v_=>(.slice v_ rn rc:Value)) WT)<|RN.ro (λ _=>(mc hp (mc TU (mc Wc mn))))<|ai 2 [.ix (ck+k_),.rorow 2 (Va+(ck+k_)) 0] [(Va*1+(ck+k_)*1)=(Va+(ck+k_))*1+0 /\ (Va+(ck+k_))<Nx6,(ck:Int)+(k_:Int)=(((ck+k_):Nat):Int) /\ (ck+k_)<rn] λ _=>aK 37 (congrArg (λ v_=>(.slice v_.A v_.n v_.c:Value)) Wn) ?_;obtain⟨bv,ov,Nv,fv,cv,ev,hIv,hiv,hxv,hcv⟩:=UR.get (k:=(ck+k_)) (by rw[hr.len];omega);refine aK 37 (congrArg (λ v_:Rw=>Value.slice v_.A v_.n v_.c) ev)<|aah (Jf (some ⟨bu,ou*3,none⟩) (some ⟨bv,ov*3,none⟩) (used.getD k_ []).length cu (rows.getD (ck+k_) []).length cv (used.getD k_ []) (rows.getD (ck+k_) []) _ (C1 hIu hiu hxu) (C1 hIv hiv hxv) (by have h_:=hln k_ (by omega);omega))<|ae 3 [] λ _=>qG ((decide ((used.getD k_ [])=(rows.getD (ck+k_) [])))) 39 (λ h7=>?_) λ h7=>?_
   ·refine ai 8 [.nw] [aZ ((k_:Int)+1)] λ _=>aK 10 (congrArg (λ v_=>(.slice v_ un uc:Value)) Ux.symm) ?_;refine Sg (k_+1) [] [] ?_
    try dsimp only
    refine⟨⟨by omega,λ i hi=>?_⟩,by omega⟩
    by_cases ei:i=k_
    ·subst ei;exact⟨by omega,aa0 h7⟩
    ·exact Sx i (by omega)
   ·refine ae 8 [] λ _=>aap [] [] [] (v:=.tuple #[vI ((ck:Int)+(k_:Int)),.bool true]) (H':=[]) ?_;exact⟨by rw[Qp (k:=k_) (by omega) (by omega) (λ i hi=>(Sx i hi).2) (λ e_=>h7 (aa5 e_))];show _=Value.tuple #[vI ((ck+k_:Nat):Int),.bool true];rfl,rfl⟩
 ·refine ae 12 [] λ _=>aap [] [] [] (v:=.tuple #[vI 0,.bool false]) (H':=[]) ?_;exact⟨by rw[C2 (k:=k_) (λ i hi=>(Sx i hi).2) (by omega)];rfl,rfl⟩
section
variable {rs_:List Bx} {ds_:List Dr} {bp gb mb:Nat} {S:Setup} {M:MemS} {k:Nat} {G0:HL}
theorem RF{rb w a x:Nat}{ms:List Int}{G F:HL}(hX:GameX rs_ ds_ bp gb mb S M k G0)(hG:RingH rb mb w a ms G)(hx:a <= x /\ x<a+ms.length)(Yk:x <= 1000000)(hl:ms.length <= 100000000)(hr:M.base <= ms.getD (x-a) 0 /\ ms.getD (x-a) 0 <= M.base+(M.lg.length:Int))(R6:∀e∈M.lg.drop (ms.getD (x-a) 0-M.base).toNat,0 <= e.1 /\ e.1<(M.cs.length:Int))(hb:0 <= M.base /\ M.base <= 1000000000):Sp Tryz.prog 74 #[vP rb 0,vI (x:Int)] (ap [] [G,G0]) F (λ u H'=>∃y:HL × HL,H'=ap [] [y.1,y.2] /\ (u=vI 0 /\ RingH rb mb w a (ms.take (x-a+1)) y.1 /\ GameX rs_ ds_ bp gb mb S (lD M (ms.getD (x-a) 0-M.base).toNat) k y.2)):=by
 have h:=uD (F:=F) (G:=G) (R:=λ u A _=>u=vI 0 /\ RingH rb mb w a (ms.take (x-a+1)) A) (M2:=lD M (ms.getD (x-a) 0-M.base).toNat) (k2:=k) (f:=74) (args:=#[vP rb 0,vI (x:Int)]) hX λ T X hM=>(LM (X++F) hG hx Yk hl hr R6 hM hb (aaI _)).mono λ u H' h=>by
  obtain⟨y,h1,hse_,hse3_,h4⟩:=h;exact⟨y,h1,⟨hse_,hse3_⟩,h4⟩
 exact h.mono λ u H' h=>by
  obtain⟨y,h1,⟨hse_,hse3_⟩,h4⟩:=h;exact⟨y,h1,hse_,hse3_,h4⟩
theorem Qq{rb w a t:Nat}{ms:List Int}{G F:HL}(hX:GameX rs_ ds_ bp gb mb S M k G0)(hG:RingH rb mb w a ms G)(ht:ms≠[] -> t=a+ms.length)(hr:∀k∈ms,M.base <= k /\ k <= M.base+(M.lg.length:Int))(hb:0 <= M.base /\ M.base <= 1000000000)(hw:1 <= w /\ w <= 13)(Xl:t <= 1000000)(hl:ms.length <= 100000000):Sp Tryz.prog 77 #[vP rb 0,vI (t:Int)] (ap [] [G,G0]) F (λ u H'=>∃y:HL × HL,H'=ap [] [y.1,y.2] /\ (u=vI 0 /\ RingH rb mb w (eE w M a ms t).2.1 (eE w M a ms t).2.2 y.1 /\ GameX rs_ ds_ bp gb mb S (eE w M a ms t).1 k y.2)):=by
 have h:=uD (F:=F) (G:=G) (R:=λ u A _=>u=vI 0 /\ RingH rb mb w (eE w M a ms t).2.1 (eE w M a ms t).2.2 A) (M2:=(eE w M a ms t).1) (k2:=k) (f:=77) (args:=#[vP rb 0,vI (t:Int)]) hX λ T X hM=>(Je (X++F) hG ht hr hM hb hw (aaI _) Xl hl).mono λ u H' h=>by
  obtain⟨y,h1,hse_,hse3_,h4⟩:=h;exact⟨y,h1,⟨hse_,hse3_⟩,h4⟩
 exact h.mono λ u H' h=>by
  obtain⟨y,h1,⟨hse_,hse3_⟩,h4⟩:=h;exact⟨y,h1,hse_,hse3_,h4⟩
end
theorem Bo{rs_:List Bx}{ds_:List Dr}{bp pp pl me w:Nat}{S:Setup}{J:Nat -> Nat × Int}{P:PS (List Inp)}{kv:List IvN}{c sn:Nat}{X:Option (Rw × List Inp)}{gb mb rb lb cl rn rc ck un uc en ec rbk sg smb:Nat}{S2 S3:Setup}{rA uA eA:Option Addr}{rl ul el:List Rw}{N:MemS}{Tg Tn Tr Tu Te Tp Tq Ts F:HL}(q1_:P.rows.length=rn)(q2_:P.ck=ck)(q3_:P.used.length=un)(q4_:P.effs.length=en)(q5_:P.rb=rbk)(hse_:SetEq S S2)(hg:GameX rs_ ds_ bp gb mb S2 P.M 0 Tg)(hb:0 <= P.M.base /\ P.M.base+(P.M.lg.length:Int) <= 20000*(c:Int))(hn:RingH rb mb w P.a P.ms Tn)(hkv:LocIn kv)(hr:SlIs jK 38 rl rA rc Tr)(hrl:rl.length=rn)(hrr:RwsT rl P.rows Tp)(hu:SlX jK 38 ul uA uc Tu)(hul:ul.length=un)(huu:RwsT ul P.used Tp)(he:SlIs jg 58 el eA ec Te)(hel:el.length=en)(hee:EfsT el P.effs Tq)(hse3_:SetEq S S3)(hs:GameX rs_ ds_ bp sg smb S3 N 99020000 Ts)(hsc:N.cs=WS S J P.rows sn)(hsn:sn <= rn)(hsb:0 <= N.base /\ N.base <= 1000000*(sn:Int))(hpl:S.players=(pl:Int))(hX:∀p xs,X=some (p,xs) -> ∀F:HL,(∀y∈Tp,y∈F) -> RwIn F xs p)(x:Nat)(hx:P.a <= x /\ x<P.a+P.ms.length)(Yk:x <= 1000000)(hl:P.ms.length <= 100000000)(UD:P.M.base <= (P.ms.getD (x-P.a) 0) /\ (P.ms.getD (x-P.a) 0) <= P.M.base+(P.M.lg.length:Int))(R6:∀e∈P.M.lg.drop ((P.ms.getD (x-P.a) 0)-P.M.base).toNat,0 <= e.1 /\ e.1<(P.M.cs.length:Int))(Wu:c <= 4000)(Vk:ck <= x)(hu1:x-ck <= un)(he1:x <= en)(V9:rbk <= 1000000):Sp Tryz.prog 48 #[vP pp 0,vI (x:Int)] (ap [(pBk pp pl me w gb rb lb rA rn rc ck uA un uc eA en ec rbk sg),(lb,.obj (bE kv cl))] [Tg,Tn,Tr,Tu,Te,Tp,Tq,Ts]) F (λ u H'=>u=vI 0 /\ PeerR rs_ ds_ bp pp pl me w S J (yU P x) kv c sn none H'):=by
 have Ze:=hu.len;have agv:=he.capLe;rw[hul] at Ze;rw[hel] at agv;refine aat Tryz.func48 rfl mn (A:=[(pBk pp pl me w gb rb lb rA rn rc ck uA un uc eA en ec rbk sg),(lb,.obj (bE kv cl))]) (Ts:=[Tg,Tn,Tr,Tu,Te,Tp,Tq,Ts]) rfl λ w0=>?_;refine ae 13 [.own 0] λ _=>aai [] [1,0] (RF hg hn hx Yk hl UD R6 (by omega)) ?_;rintro _ ⟨T1,T2⟩ ⟨rfl,hn3,hg4⟩;dsimp only at hn3 hg4;refine ai 24 [.own 0,.nw] [aZ ((x:Int)-(ck:Int))] λ _=>aK 6 (congrArg (λ v_=>(vI v_:Value)) (show (x:Int)-(ck:Int)=((x-ck:Nat):Int) by omega))<|ae 8 [.own 0] λ _=>zO (A:=uA) (n:=un) (cap:=uc) (l:=0) (h:=x-ck) (m:=x-ck) (sz:=1) (li:=none) (hi:=some ((x-ck:Nat):Int)) (mi:=some ((x-ck:Nat):Int)) rfl rfl rfl (by omega) (by omega) (by omega)<|ae 13 (aab 2) λ _=>zO (A:=eA) (n:=en) (cap:=ec) (l:=0) (h:=x) (m:=ec) (sz:=1) (li:=none) (hi:=some (x:Int)) (mi:=none) rfl rfl rfl (by omega) (by omega) (by omega)<|ai 12 [.own 0,.own 0,.nw] [aZ ((rbk:Int)+1)] λ _=>aK 45 (congrArg (λ v_=>(vI v_:Value)) (show (rbk:Int)+1=((rbk+1:Nat):Int) by omega))<|ae 10 [.own 0] λ _=>aap [] [0,1] [1,0,2,3,4,5,6,7] (v:=vI 0) (H':=(ap [(pp,.lit [vI (pl:Int),vI (me:Int),vI (w:Int),vP gb 0,vP rb 0,.map (some lb),.slice rA rn rc,vI (ck:Int),.slice (zN uA 0 1 (x-ck)) (x-ck-0) (x-ck-0),.slice (zN eA 0 1 ec) (x-0) (ec-0),vI ((rbk+1:Nat):Int),vP sg 0] 102 (0,0)),(lb,.obj (bE kv cl))] [T2,T1,Tr,Tu,Te,Tp,Tq,Ts])) ?_;exact⟨rfl,PeerR.mk q1_ q2_ (show (P.used.take (x-P.ck)).length=x-ck-0 by rw[aaL,q3_,q2_];omega) (show (P.effs.take x).length=x-0 by rw[aaL,q4_];omega) (show P.rb+1=rbk+1 by rw[q5_]) hse_ hg4 ⟨hb.1,by show P.M.base+((P.M.lg.take _).length:Int) <= _;rw[aaL];omega⟩ hn3 hkv hr hrl hrr (hu.cut (k:=0) (h:=x-ck) (m:=x-ck) (aaJ _) (by rw[hul];omega) (aaI _) (by omega)) (by rw[aaM,aaL,hul];omega) (by show RwsT (ul.take (x-ck)) (P.used.take (x-P.ck)) _;rw[q2_];exact huu.take _) ((he.take x).dropI (k:=0) (.inl rfl)) (by rw[aaM,aaL,hel];omega) (hee.take x) hse3_ hs hsc hsn hsb hpl (λ _ _ h_=>by cases h_)⟩
theorem Bp{rs_:List Bx}{ds_:List Dr}{bp pp pl me w:Nat}{S:Setup}{J:Nat -> Nat × Int}{P:PS (List Inp)}{kv:List IvN}{c sn:Nat}{X:Option (Rw × List Inp)}{G F:HL}(h:PeerR rs_ ds_ bp pp pl me w S J P kv c sn X G){x:Nat}(hx:P.a <= x /\ x<P.a+P.ms.length)(Yk:x <= 1000000)(hl:P.ms.length <= 100000000)(UD:P.M.base <= (P.ms.getD (x-P.a) 0) /\ (P.ms.getD (x-P.a) 0) <= P.M.base+(P.M.lg.length:Int))(R6:∀e∈P.M.lg.drop ((P.ms.getD (x-P.a) 0)-P.M.base).toNat,0 <= e.1 /\ e.1<(P.M.cs.length:Int))(Wu:c <= 4000)(Vk:P.ck <= x)(hu1:x-P.ck <= P.used.length)(he1:x <= P.effs.length)(V9:P.rb <= 1000000):Sp Tryz.prog 48 #[vP pp 0,vI (x:Int)] (ap [] [G]) F (λ u H'=>∃T9,H'=ap [] [T9] /\ ((λ u H'=>u=vI 0 /\ PeerR rs_ ds_ bp pp pl me w S J (yU P x) kv c sn none H') u T9)):=by
 rw[bj];cases h with
 | mk q1_ q2_ q3_ q4_ q5_ hse_ hg hb hn hkv hr hrl hrr hu hul huu he hel hee hse3_ hs hsc hsn hsb hpl hX =>
  exact(Bo q1_ q2_ q3_ q4_ q5_ hse_ hg hb hn hkv hr hrl hrr hu hul huu he hel hee hse3_ hs hsc hsn hsb hpl hX x hx Yk hl UD R6 Wu (by omega) (by omega) (by omega) (by omega)).tl
theorem zf{rs_:List Bx}{ds_:List Dr}{bp pp pl me w:Nat}{S:Setup}{J:Nat -> Nat × Int}{P:PS (List Inp)}{kv:List IvN}{c sn:Nat}{X:Option (Rw × List Inp)}{gb mb rb lb cl rn rc ck un uc en ec rbk sg smb:Nat}{S2 S3:Setup}{rA uA eA:Option Addr}{rl ul el:List Rw}{N:MemS}{Tg Tn Tr Tu Te Tp Tq Ts F:HL}(q1_:P.rows.length=rn)(q2_:P.ck=ck)(q3_:P.used.length=un)(q4_:P.effs.length=en)(q5_:P.rb=rbk)(hse_:SetEq S S2)(hg:GameX rs_ ds_ bp gb mb S2 P.M 0 Tg)(hb:0 <= P.M.base /\ P.M.base+(P.M.lg.length:Int) <= 20000*(c:Int))(hn:RingH rb mb w P.a P.ms Tn)(hkv:LocIn kv)(hr:SlIs jK 38 rl rA rc Tr)(hrl:rl.length=rn)(hrr:RwsT rl P.rows Tp)(hu:SlX jK 38 ul uA uc Tu)(hul:ul.length=un)(huu:RwsT ul P.used Tp)(he:SlIs jg 58 el eA ec Te)(hel:el.length=en)(hee:EfsT el P.effs Tq)(hse3_:SetEq S S3)(hs:GameX rs_ ds_ bp sg smb S3 N 99020000 Ts)(hsc:N.cs=WS S J P.rows sn)(hsn:sn <= rn)(hsb:0 <= N.base /\ N.base <= 1000000*(sn:Int))(hpl:S.players=(pl:Int))(hX:∀p xs,X=some (p,xs) -> ∀F:HL,(∀y∈Tp,y∈F) -> RwIn F xs p)(now:Nat)(h0:P.M.get 0=(now:Int))(Vk:ck <= min now rn)(hu1:min now rn-ck <= un)(Si:rn <= 1000000)(SO:now <= 1000000):Sp Tryz.prog 51 #[vP pp 0] (ap [(pBk pp pl me w gb rb lb rA rn rc ck uA un uc eA en ec rbk sg),(lb,.obj (bE kv cl))] [Tg,Tn,Tr,Tu,Te,Tp,Tq,Ts]) F (λ u H'=>u=.tuple #[] /\ PeerR rs_ ds_ bp pp pl me w S J (LJ P now) kv c sn none H'):=by
 have Ze:=hu.len;rw[hul] at Ze;refine aat Tryz.func51 rfl mn (A:=[(pBk pp pl me w gb rb lb rA rn rc ck uA un uc eA en ec rbk sg),(lb,.obj (bE kv cl))]) (Ts:=[Tg,Tn,Tr,Tu,Te,Tp,Tq,Ts]) rfl λ w0=>?_;refine ae 3 [] λ _=>aah (jh pp gb rb lb sg pl me w rn rc ck un uc en ec rbk rA uA eA (now:Int) _ (aA 0) hg (au 0) h0)<|ae 1 [] λ _=>aah (gA pp gb rb lb sg pl me w rn rc ck un uc en ec rbk rA uA eA _ (aA 0))<|ae 5 [] λ _=>aK 2 (congrArg (λ v_=>(vI v_:Value)) (show (if (rn:Int)<(now:Int) then (rn:Int) else (now:Int))=((min now rn:Nat):Int) by split <;> omega))<|aak [14] []<|aw [] [0,1,5,6,2,7,3,8,4,9,10] [.own 0,.own 0,.nw] [aZ (((min now rn:Nat):Int)-(ck:Int))]<|aae 11 (RDO.slA (A:=uA) (n:=un) (cap:=uc) (l:=min now rn-ck) (sz:=1) (show ((min now rn:Nat):Int)-(ck:Int)=((min now rn-ck:Nat):Int) by omega) (by omega) (by omega) ?_);refine ag [] [12,13] []<|aae 14 (aag [] [.own 0] λ _=>?_);refine aad<|ae 8 [.own 0] λ _=>aap [] [0,1] [0,1,2,3,4,5,6,7] (v:=.tuple #[]) (H':=(ap [(pp,.lit [vI (pl:Int),vI (me:Int),vI (w:Int),vP gb 0,vP rb 0,.map (some lb),.slice rA rn rc,vI ((min now rn:Nat):Int),.slice (slA uA (min now rn-ck) 1 uc) (un-(min now rn-ck)) (uc-(min now rn-ck)),.slice eA en ec,vI (rbk:Int),vP sg 0] 102 (0,0)),(lb,.obj (bE kv cl))] [Tg,Tn,Tr,Tu,Te,Tp,Tq,Ts])) ?_;exact⟨rfl,PeerR.mk q1_ (show min now P.rows.length=min now rn by rw[q1_]) (show (P.used.drop (min now P.rows.length-P.ck)).length=un-(min now rn-ck) by rw[aaM,q3_,q1_,q2_]) q4_ q5_ hse_ hg hb hn hkv hr hrl hrr (by have h_:=hu.cut (k:=min now rn-ck) (h:=ul.length) (m:=uc) (by rw[hul];omega) (aaI _) hu.len (aaI _);rw[List.take_length] at h_;exact h_) (by rw[aaM,hul]) (by show RwsT _ (P.used.drop (min now P.rows.length-P.ck)) _;rw[q1_,q2_];exact huu.drop _) he hel hee hse3_ hs hsc hsn hsb hpl (λ _ _ h_=>by cases h_)⟩
theorem zg{rs_:List Bx}{ds_:List Dr}{bp pp pl me w:Nat}{S:Setup}{J:Nat -> Nat × Int}{P:PS (List Inp)}{kv:List IvN}{c sn:Nat}{X:Option (Rw × List Inp)}{G F:HL}(h:PeerR rs_ ds_ bp pp pl me w S J P kv c sn X G){now:Nat}(h0:P.M.get 0=(now:Int))(Vk:P.ck <= min now P.rows.length)(hu1:min now P.rows.length-P.ck <= P.used.length)(Si:P.rows.length <= 1000000)(SO:now <= 1000000):Sp Tryz.prog 51 #[vP pp 0] (ap [] [G]) F (λ u H'=>∃T9,H'=ap [] [T9] /\ ((λ u H'=>u=.tuple #[] /\ PeerR rs_ ds_ bp pp pl me w S J (LJ P now) kv c sn none H') u T9)):=by
 rw[bj];cases h with
 | mk q1_ q2_ q3_ q4_ q5_ hse_ hg hb hn hkv hr hrl hrr hu hul huu he hel hee hse3_ hs hsc hsn hsb hpl hX =>
  exact(zf q1_ q2_ q3_ q4_ q5_ hse_ hg hb hn hkv hr hrl hrr hu hul huu he hel hee hse3_ hs hsc hsn hsb hpl hX now h0 (by omega) (by omega) (by omega) SO).tl
section
variable {r:Option Nat} {P:Program} {N:Nat} {D:List Deferred} {F:HL} {w0:World} {R:HL} {s:Cfg} {Q:Exit -> Act -> World -> Prop}
def RG(K:Act -> World -> Prop)(s:Cfg):Cfg:=match s with
 | ⟨.code c,k,L,A,Ts⟩=>⟨.code c,.met K::k,L,A,Ts⟩
 | s=>s
def JK(s:Cfg):Bool:=match s.c with
 | .code _=>true
 | _=>false
def RH(V:Inv)(s:Cfg):Cfg:=⟨.ex .normal,s.k,V.L,V.A,V.Ts⟩
theorem RN.cut{σ:Type}(V:σ -> Inv)
  (first:(∀ {s':Cfg} {R':HL} (x':σ) (ip jp:List Nat),(V x').I -> (hm:De s'=some (MV N D F w0 V (λ x'=>(V x').I)):=by kernel_rfl) -> (h:uO (V x') ip jp s'=nH (V x'):=by kernel_rfl) -> (hp:b8 ip jp s'=true:=by kernel_rfl) -> RN r P N D F w0 R' s' Q) ->
   RN r P N D F w0 R (RG (MV N D F w0 V (λ x'=>(V x').I)) s) Q)
  (rest:∀x,(V x).I -> RN r P N D F w0 R (RH (V x) s) Q) (hc:JK s=true:=by kernel_rfl):RN r P N D F w0 R s Q:=by
 refine⟨λ hR a w h1 h2 h3=>?_⟩;have h4:=(first (λ x' ip jp hi hm h hp=>qk x' ip jp hi hm h hp)).h hR;obtain⟨c,k,L,A,Ts⟩:=s;unfold JK at hc;split at hc
 case h_2=>cases hc
 rename_i c' e1;simp only at e1;subst e1;refine wpIn_mono (h4 a w h1 h2 h3) λ e a w q=>?_;cases e with
 | normal =>
  obtain⟨x,hI,m1,m2,m3⟩:=q;exact(rest x hI).h hR a w m1 m2 m3
 | exit id=>exact q
 | goto l=>exact q
 | ret=>exact q
 | panic ch=>exact q
 | outgrown=>exact q
end
end Go.Proofs.YtdppjkjbghbnjaaGreatDoor
