import Derived.Test.YtghjbimijeinfaaGreatDoorY34
import Derived.Test.YtghjbimijeinfaaGreatDoorY18
import Derived.Test.YtghjbimijeinfaaGreatDoorY32
import Derived.Test.YtghjbimijeinfaaGreatDoorY33
import Derived.Laws.IdiomCopy
import Derived.Test.YtghjbimijeinfaaGreatDoorY30
set_option maxHeartbeats 4000000
set_option maxRecDepth 100000
set_option linter.unusedSimpArgs false
set_option linter.unusedVariables false
namespace Go.Proofs.YtghjbimijeinfaaGreatDoor
open Go.RowKit
def FY (p n r f:Int):Int:=IntKind.i64.wrap ((IntKind.i64.wrap ((IntKind.i64.wrap ((IntKind.i64.wrap ((IntKind.i64.wrap (p+(IntKind.i64.wrap ((IntKind.i64.wrap ((IntKind.i64.wrap (p+1))+n)) * (IntKind.i64.wrap (f+3))))))+(IntKind.i64.wrap (2 * n))))+3))+(IntKind.i64.wrap ((IntKind.i64.wrap ((IntKind.i64.wrap (r * n)) * (IntKind.i64.wrap (n - 1)))).tdiv 2))))+(IntKind.i64.wrap (n * (IntKind.i64.wrap (n+1)))))
theorem qV {S:Setup} (hS:SetV S):l0 S.players S.nb S.rounds 0 <= FY S.players S.nb S.rounds 60 /\ FY S.players S.nb S.rounds 60 <= 650:=by
 have hp:=hS.pl
 have hn:=hS.nb
 have hr:=hS.ro
 have key:∀ p:Fin 3,∀ n:Fin 5,∀ r:Fin 3,l0 ((p.1+1:Nat):Int) ((n.1+1:Nat):Int) ((r.1+1:Nat):Int) 0 <= FY ((p.1+1:Nat):Int) ((n.1+1:Nat):Int) ((r.1+1:Nat):Int) 60 /\ FY ((p.1+1:Nat):Int) ((n.1+1:Nat):Int) ((r.1+1:Nat):Int) 60 <= 650:=by decide +kernel
 have:=key ⟨S.players.toNat - 1,by omega⟩ ⟨S.nb - 1,by omega⟩ ⟨S.rounds.toNat - 1,by omega⟩
 dsimp only at this
 rwa [show ((S.players.toNat - 1+1:Nat):Int)=S.players by omega,show S.nb - 1+1=S.nb by omega,show ((S.rounds.toNat - 1+1:Nat):Int)=S.rounds by omega] at this
theorem setV {xs:List Int} {F:HL} {A:Option Addr} {n:Nat} (hl:ArgL F A n xs) {S:Setup} {T:HL} (h:SetG xs S T):SetV S:=by
 have h1:=mZ hl
 have h2:=qd hl
 have hn:=h.nb
 have k2:=gN hl 2
 obtain ⟨e1,e2,e3,e4,e5,e6,e7,e8⟩:=h.nums
 exact ⟨by rw [h.pl];exact h2,by omega,by rw [e7];omega,by rw [e8];omega⟩
theorem jL {l:List Int} {i j:Nat} {v:Int} (h:i ≠ j):(l.set i v).getD j 0=l.getD j 0:=by
 rw [List.getD_eq_getElem?_getD,List.getD_eq_getElem?_getD,List.getElem?_set_ne h]
theorem ti {S:Setup} (hp:0 <= S.players) {j:Nat} (hj:j < 48):∀ i,i <= S.nb -> (aK S i).getD j 0=0
 | 0,_=>by
  rw [aK,List.getD_eq_getElem?_getD,List.getElem?_replicate]
  split <;> rfl
 | i+1,hi=>by
  have hb:af S (i:Int)=48+4 * S.players+8 * (i:Int):=by
   rcases lF hp (i:Int) with e | ⟨_,_,e⟩
   ·unfold af at e
    rw [if_neg (by omega),if_neg (by omega)] at e;omega
   ·exact e
  rw [aK,jL (by omega),jL (by omega),jL (by omega),jL (by omega),jL (by omega),jL (by omega)]
  exact ti hp hj i (by omega)
structure TE2 (S:Setup) (t:Int) (M:MemS):Prop where
 len:(M.cs.length:Int)=sizeOf S
 z:∀ k:Int,1 <= k -> k <= 10 -> M.get k=0
 t0:M.get 0=t
theorem IX {S:Setup} (hS:SetV S):TE2 S 0 ⟨aK S S.nb,[],0⟩:=by
 have hp:=hS.pl
 have hlen:(((⟨aK S S.nb,[],0⟩:MemS).cs.length:Nat):Int)=sizeOf S:=by
  show ((aK S S.nb).length:Int)=_
  rw [fk];unfold sizeOf;omega
 have g:∀ k:Int,0 <= k -> k < 48 -> (⟨aK S S.nb,[],0⟩:MemS).get k=0:=λ k h0 h1=>by
  unfold MemS.get
  split
  ·exact ti (by omega) (by omega) S.nb (Nat.le_refl _)
  ·rfl
 exact ⟨hlen,λ k h1 h2=>g k (by omega) (by omega),g 0 (by omega) (by omega)⟩
theorem TE2.tv {S:Setup} (hS:SetV S) {t:Int} (ht:0 <= t /\ t <= 1000) {M:MemS} (h:TE2 S t M) (ins:Nat -> Inp):TV S ins M /\ jJ S M=l0 S.players S.nb S.rounds 0 /\ yQ M:=by
 have h1:=h.z 1 (by omega) (by omega)
 have h2:=h.z 2 (by omega) (by omega)
 have hp:=hS.pl
 refine ⟨⟨h.len,by rw [h.t0];omega,by rw [h1,h2];exact .inl ⟨rfl,by omega,by omega⟩,λ q hq=>by rw [h1,if_pos rfl,h2] at hq;omega,.inl ⟨h1,h2⟩⟩,?_,h1,h2⟩
 unfold jJ
 rw [h1,h2];rfl
theorem M7 {S:Setup} (hS:SetV S) {g:Gm} (hg:g.S=S) (hni:S.players <= g.ni) {t:Int} (ht:0 <= t /\ t <= 1000) {M:MemS} (h:TE2 S t M):∃ m,((m+1:Nat):Int) <= FY S.players S.nb S.rounds 60 /\ dE g (m+1) M /\ TE2 S (t+1) (fI g (m+1) M) /\
  Numb t 0 (dt g (m+1) M) /\ (fI g (m+1) M).get 11=((dt g (m+1) M).length:Int) /\ ((dt g (m+1) M).length:Int) <= 40:=by
 obtain ⟨h1,h2,h3⟩:=h.tv hS ht (λ q=>g.ins.getD (g.io+q) dI)
 have hb:=qV hS
 have hpos:=us hS.pl ⟨by have:=hS.nb;omega,by have:=hS.nb;omega⟩ hS.ro h1.ct
 unfold jJ at h2
 obtain ⟨m,a1,a2,a3,a4,a5,a6,a7,a8⟩:=AA hS hg (λ _ _=>rfl) hni (l0 S.players S.nb S.rounds 0).toNat M h1 (by unfold jJ;omega)
 rw [if_pos h3] at a6 a7
 rw [h.t0] at a5 a6
 exact ⟨m,by omega,a2,⟨a4,a3,a5⟩,a6,by rw [a7];omega,by omega⟩
theorem SetEq.pl {S S1:Setup} (h:SetEq S S1):S1.players=S.players:=h.nums.1
theorem SetEq.nb {S S1:Setup} (h:SetEq S S1):S1.nb=S.nb:=h.nums.2.1
theorem SetEq.size {S S1:Setup} (h:SetEq S S1):sizeOf S1=sizeOf S:=by unfold sizeOf;rw [h.pl,h.nb]
theorem SetEq.setV {S S1:Setup} (h:SetEq S S1) (hV:SetV S):SetV S1:=by
 obtain ⟨e1,e2,_,_,_,_,_,_,_,_,e3,e4⟩:=h.nums
 exact ⟨by rw [e1];exact hV.pl,by rw [e2];exact hV.nb,by rw [e3];exact hV.ro,by rw [e4];exact hV.fu⟩
theorem TE2.eq {S S1:Setup} (h:SetEq S S1) {t:Int} {M:MemS} (hT:TE2 S t M):TE2 S1 t M:=⟨by rw [h.size];exact hT.len,hT.z,hT.t0⟩
theorem AC {S S':Setup} (h:SetEq S S'):(S'.bods.drop S'.bo).map Bod.nm=(List.range S.nb).map λ k=>(S.body k).nm:=by
 rw [h.whole.1,List.drop_zero]
 apply List.ext_getElem?
 intro k
 by_cases hk:k < S.nb
 ·obtain ⟨A,c,e⟩:=h.bod k hk
  have hl:k < S'.bods.length:=by rw [h.whole.2];exact hk
  have e2:S'.bods[k]?=some (S'.body k):=by
   show _=some (S'.bods.getD (S'.bo+k) dB)
   rw [h.whole.1,Nat.zero_add,List.getD_eq_getElem?_getD,List.getElem?_eq_getElem hl];rfl
  rw [List.getElem?_map,e2,e]
  simp [hk]
  rfl
 ·rw [List.getElem?_eq_none (by rw [List.length_map,h.whole.2];omega),List.getElem?_eq_none (by simp;omega)]
theorem SetEq.nm2 {S S1 S2:Setup} (h1:SetEq S S1) (h2:SetEq S S2):S1.nm=S2.nm:=by
 have b1:=AC h1
 have b2:=AC h2
 obtain ⟨x1,x2,x3,x4,x5,x6,x7,x8,x9,x10,x11,x12⟩:=h1.nums
 obtain ⟨y1,y2,y3,y4,y5,y6,y7,y8,y9,y10,y11,y12⟩:=h2.nums
 unfold Setup.nm
 rw [b1,b2,x1,x2,x3,x4,x5,x6,x7,x8,x9,x10,x11,x12,y1,y2,y3,y4,y5,y6,y7,y8,y9,y10,y11,y12]
theorem IY {S1 S2:Setup} (h:S1.nm=S2.nm) (j:Nat × Int) (n:Nat) (xs:List Inp):GEq (gh S1 j n xs) (gh S2 j n xs):=by
 refine ⟨?_,λ k hk=>rfl⟩
 unfold Gm.nm
 simp only [h]
theorem yR {G G':Nat -> Gm} (h:∀ k,GEq (G k) (G' k)) (M:MemS):∀ k,gP G M k=gP G' M k
 | 0=>rfl
 | k+1=>by rw [gP,gP,yR h M k,KA (h k)]
theorem FZ {G G':Nat -> Gm} (h:∀ k,GEq (G k) (G' k)) (M:MemS):∀ k,oS G M k=oS G' M k
 | 0=>rfl
 | k+1=>by rw [oS,oS,FZ h M k,yR h M k,KB (h k)]
theorem F1 {S S1 S2:Setup} (h1:SetEq S S1) (h2:SetEq S S2) (J:Nat -> Nat × Int) (xss:List (List Inp)):∀ k,GEq (rG S1 J xss k) (rG S2 J xss k):=λ k=>IY (h1.nm2 h2) _ _ _
theorem Ls {pl:Int} {n:Nat} {xs:List Inp} {now:Int} (h1:(n:Int)=pl) (h2:∀ k,k < n -> m5 (xs.getD k dI)) (h3:now < 6000):cO pl n xs now=0:=by
 unfold cO
 rw [if_pos h1,if_pos h2,if_neg (by omega)]
theorem F3 {S1:Setup} (hV:SetV S1) {t:Int} (ht:0 <= t /\ t <= 1000) {M:MemS} (hT:TE2 S1 t M) {xs:List Inp} (h1:(xs.length:Int)=S1.players) (h2:∀ k,k < xs.length -> m5 (xs.getD k dI)) (j:Nat × Int):TkOk S1 j xs M /\ TE2 S1 (t+1) (lJ (fo S1 j xs) M):=by
 obtain ⟨m,a1,a2,a3,_⟩:=M7 hV (g:=fo S1 j xs) rfl (by show S1.players <= (xs.length:Int);omega) ht hT
 have hb:=(qV hV).2
 refine ⟨⟨⟨m,by omega,a2⟩,by rw [hT.t0];exact ht.1,by rw [hT.t0];exact Ls h1 h2 (by omega)⟩,?_⟩
 rw [<- (JR (by omega) a2).1]
 exact a3
def fN (pl:Int) (xs:List Inp):Prop:=(xs.length:Int)=pl /\ ∀ k,k < xs.length -> m5 (xs.getD k dI)
theorem JU {S1:Setup} (hV:SetV S1) {M0:MemS} (hT:TE2 S1 0 M0) {xss:List (List Inp)} (J:Nat -> Nat × Int) (n:Nat) (hn:n <= 50) (hr:∀ i,i < n -> fN S1.players (xss.getD i [])):∀ i,i <= n -> TE2 S1 (i:Int) (gP (rG S1 J xss) M0 i)
 | 0,_=>hT
 | i+1,h=>by
  have ih:=JU hV hT J n hn hr i (by omega)
  have:=(F3 hV (t:=(i:Int)) (by omega) ih (hr i (by omega)).1 (hr i (by omega)).2 (J i)).2
  rw [gP]
  exact_mod_cast this
theorem JV {S1:Setup} (hV:SetV S1) {M0:MemS} (hT:TE2 S1 0 M0) {xss:List (List Inp)} (J:Nat -> Nat × Int) (n:Nat) (hn:n <= 50) (hr:∀ i,i < n -> fN S1.players (xss.getD i [])) (i:Nat) (hi:i < n):TkOk S1 (J i) (xss.getD i []) (gP (rG S1 J xss) M0 i) :=
 (F3 hV (t:=(i:Int)) (by omega) (JU hV hT J n hn hr i (by omega)) (hr i hi).1 (hr i hi).2 (J i)).1
theorem F4 {n:Int} (h:0 <= n):m5 (vQ n):=by
 unfold m5 vQ
 dsimp only
 split <;> omega
theorem IZ {F:HL} {A:Option Addr} {n:Nat} {xs:List Int} (hl:ArgL F A n xs) {pl:Int} (hp:0 <= pl) (t:Int):fN pl (rowL pl xs t pl.toNat):=by
 refine ⟨by rw [fl];omega,λ k hk=>?_⟩
 rw [fl] at hk
 rw [Eg hk]
 exact F4 (HS hl pl t k).1
theorem qW {F:HL} {A:Option Addr} {n:Nat} {xs:List Int} (hl:ArgL F A n xs) {pl:Int} (hp:0 <= pl) (cnt i:Nat) (hi:i < cnt):fN pl ((dW pl xs cnt).getD i []):=by
 rw [fe hi]
 exact IZ hl hp _
theorem yS {S S1:Setup} (hV:SetV S) (he:SetEq S S1):TE2 S1 0 ⟨aK S S.nb,[],0⟩:=(IX hV).eq he
section
variable {S S1:Setup} {rs_:List Bx} {ds_:List Dr} {bp n cap:Nat} {j:Nat × Int} {A:Option Addr} {rs:List Rw} {xss:List (List Inp)} {F:HL}
theorem F5 (hS:SetIn F S) (hM:MapIn F S rs_ ds_) (hV:SetV S) (hrn:S.rn <= 1000000) (hdn:S.dn <= 1000000) (hsz:(sizeOf S).toNat <= 1000000) (hv:fJ S rs_ ds_=0) (hj:j.1 < 5) (hA:∀ t,0 <= t -> AtOk F bp t j) (hE:ck F) (hr:RowL fh 56 F A n rs) (hw:RwsIn F rs xss) (h9:n <= 9) (hrow:∀ i,i < n -> fN S.players (xss.getD i [])) (he:SetEq S S1) :
  Sp Tryz.prog 66 #[Setup.v S,vP bp 0,.slice A n cap] (ap [] []) F (λ u H'=>∃ x:(Nat × Option Addr × Nat) × HL,H'=ap [(x.1.1,.rows 1 (gP (rG S1 (λ _=>j) xss) ⟨aK S S.nb,[],0⟩ n).cs.length (aL (gP (rG S1 (λ _=>j) xss) ⟨aK S S.nb,[],0⟩ n).cs) 3 (0,0))] [x.2] /\
   (SlIs oY 53 (oS (rG S1 (λ _=>j) xss) ⟨aK S S.nb,[],0⟩ n) x.1.2.1 x.1.2.2 x.2 /\ u=.tuple #[vS x.1.1 0 (gP (rG S1 (λ _=>j) xss) ⟨aK S S.nb,[],0⟩ n).cs.length (gP (rG S1 (λ _=>j) xss) ⟨aK S S.nb,[],0⟩ n).cs.length,.slice x.1.2.1 (oS (rG S1 (λ _=>j) xss) ⟨aK S S.nb,[],0⟩ n).length x.1.2.2,vI 0])):=by
 have hp:=hV.pl
 have htk:∀ S2,SetEq S S2 -> ∀ i,i < n -> TkOk S2 j (xss.getD i []) (gP (rG S2 (λ _=>j) xss) ⟨aK S S.nb,[],0⟩ i):=λ S2 h2 i hi=>JV (h2.setV hV) (yS hV h2) (λ _=>j) n (by omega) (λ i hi=>by rw [h2.pl];exact hrow i hi) i hi
 refine (IP S rs_ ds_ bp n cap (λ _=>j) A rs xss F hS hM (by have:=hV.nb;omega) hrn hdn hsz hv hE hr hw (λ k hk=>by have:=(hrow k hk).1;omega) (by omega) (by omega) (λ S2 h2 i hi _=>⟨.inl (htk S2 h2 i hi),hj,hA _ (htk S2 h2 i hi).now⟩)).mono λ u H' h=>?_
 obtain ⟨⟨⟨S2,q,A2,c2⟩,C,E⟩,rfl,h2,h3⟩:=h
 dsimp only at h2 h3
 rcases h3 with ⟨_,h4,h5,h6⟩ | ⟨i,hi,_,h4,_⟩
 ·have e1:=yR (F1 h2 he (λ _=>j) xss) ⟨aK S S.nb,[],0⟩ n
  have e2:=FZ (F1 h2 he (λ _=>j) xss) ⟨aK S S.nb,[],0⟩ n
  rw [e1] at h4 h6
  rw [e2] at h5 h6
  subst h4
  exact ⟨((q,A2,c2),E),by simp [ap],h5,h6⟩
 ·exact absurd (htk S2 h2 i hi).ok h4
end
theorem SlIs.rowN {α:Type} {e:Enc α} {T:TypeId} {l:List α} {A:Option Addr} {cap n:Nat} {Hl F:HL} (h:SlIs e T l A cap Hl) (hF:∀ x ∈ Hl,x ∈ F) (hn:l.length=n):RowL e T F A n l:=hn ▸ h.toRowL hF
theorem F6 {n m k:Int} (e:aE n m=k) (hm:0 < m) (F:HL):Sp Tryz.prog 11 #[vI n,vI m] [] F (λ u H'=>u=vI k /\ H'=[]):=e ▸ iB n m (by omega) F
theorem M8 {l:List Rw} {i:Nat} (h:i < l.length) (p:Rw):dN (cu fh l) i 0 (.slice p.A p.n p.c)=cu fh (l.set i p):=by
 funext i' k'
 unfold dN cu
 by_cases h1:i'=i
 ·subst h1
  rw [cr h]
  rcases k' with _ | k'
  ·rw [if_pos ⟨rfl,rfl⟩];rfl
  ·rw [if_neg (by omega)]
   rcases k' with _ | k' <;> rfl
 ·rw [if_neg (by simp [h1]),b6 (λ e=>h1 e.symm)]
theorem rN {α:Type} {l r:List α} {o:Nat} (h:(l.drop o).take r.length=r) {k:Nat} (hk:k < r.length) (d:α):l.getD (o+k) d=r.getD k d:=by
 have h1:((l.drop o).take r.length)[k]?=r[k]?:=by rw [h]
 rw [List.getElem?_take,if_pos hk,List.getElem?_drop] at h1
 rw [List.getD_eq_getElem?_getD,List.getD_eq_getElem?_getD,h1]
theorem xd {F:HL} {b o c kk n:Nat} {full rs:List Rw} {p:Rw} (hq:(b,.rows 1 (o+c) (cu fh (full.set (o+kk) p)) 56 (0,0)) ∈ F) (hf:full.length=o+c) (hc:rs.length <= c) (hfd:(full.drop o).take rs.length=rs) (hk:kk < rs.length) (hn:rs.length=n):RowL fh 56 F (some ⟨b,o * 1,none⟩) n (rs.set kk p):=by
 refine .rows b o (o+c) _ (0,0) n _ hq (by omega) (by simp [hn]) (λ k h=>?_)
 by_cases e:kk=k
 ·subst e
  rw [cr (by omega),cr hk]
 ·rw [b6 (by omega),b6 e]
  exact rN hfd (by omega) _
open Go.Shelf
theorem yT {cs vs:List Value} (h:cs.length=vs.length):i8 cs 0 vs=vs:=by
 apply List.ext_getElem?
 intro j
 rw [l9 vs cs 0 (by omega) j]
 split
 ·rfl
 ·next h1=>rw [List.getElem?_eq_none (by omega),List.getElem?_eq_none (by omega)]
theorem nk {b:Nat} {ty:TypeId} {fz:Nat × Nat}:∀ (vs:List Value) (o:Nat) (W:World) (cs:List Value),W.heap[b]?=some (Blk.lit cs ty fz).den -> (W.setCells b o vs).heap[b]?=some (Blk.lit (i8 cs o vs) ty fz).den
 | [],o,W,cs,h=>h
 | v :: r,o,W,cs,h=>by
  rw [World.setCells,i8]
  have h1:=oz (v:=v) (a:=⟨b,o,none⟩) rfl rfl h
  rw [hO] at h1
  exact nk r (o+1) _ _ h1
theorem nl {b k:Nat} (hk:k ≠ b):∀ (vs:List Value) (o:Nat) (W:World),(W.setCells b o vs).heap[k]?=W.heap[k]?
 | [],_,_=>rfl
 | v :: r,o,W=>by
  rw [World.setCells,nl hk r (o+1)]
  exact Below.heap_setCell _ _ _ _ hk
def Lt (P:Program) (o:Oper) (L:FL):Option (Addr × Nat × Nat × Addr × Nat × Nat × TypeId × TypeId × TypeId):=match o.guard,o.op with
 | none,.call c=>match c.callee,c.args.toList,c.argTypes.toList with
  | .builtin .copy,[a1,a2],[t,tx]=>match mC L a1 && mC L a2,i5 L a1,i5 L a2 with
   | true,.slice (some d) n cap,.slice (some a) m c'=>match P.underlying t with
    | some (.slice T)=>some (d,n,cap,a,m,c',T,t,tx)
    | _=>none
   | _,_,_=>none
  | _,_,_=>none
 | _,_=>none
section
variable {r:Option Nat} {P:Program} {N:Nat} {D:List Deferred} {F:HL} {w0:World} {R:HL} {s:Cfg} {Q:Exit -> Act -> World -> Prop}
theorem Cw {o:Oper} {L:FL} {d:Addr} {n cap:Nat} {a:Addr} {m c':Nat} {T t tx:TypeId} (h:Lt P o L=some (d,n,cap,a,m,c',T,t,tx)) :
  ∃ a1 a2,o.guard=none /\ o.op=.call { callee:=.builtin .copy,args:=#[a1,a2],argTypes:=#[t,tx] } /\ (mC L a1 && mC L a2)=true /\ i5 L a1=.slice (some d) n cap /\ i5 L a2=.slice (some a) m c' /\ P.underlying t=some (.slice T):=by
 unfold Lt at h
 split at h
 case h_2=>cases h
 rename_i c hg hop
 split at h
 case h_2=>cases h
 rename_i a1 a2 t' tx' h1 h2 h3
 split at h
 case h_2=>cases h
 rename_i d' n' cap' a' m' c2 h4 h5 h6
 split at h
 case h_2=>cases h
 rename_i T' h7
 simp only [Option.some.injEq,Prod.mk.injEq] at h
 obtain ⟨e1,e2,e3,e4,e5,e6,e7,e8,e9⟩:=h
 subst e1;subst e2;subst e3;subst e4;subst e5;subst e6;subst e7;subst e8;subst e9
 refine ⟨a1,a2,hg,?_,h4,h5,h6,h7⟩
 obtain ⟨cal,args,ats⟩:=c
 simp only at h1 h2 h3
 subst h1
 have e1:args=#[a1,a2]:=by cases args;simp_all
 have e2:ats=#[t',tx']:=by cases ats;simp_all
 rw [hop,e1,e2]
def M9 (P:Program) (N i:Nat) (oo:Option Oper) (s:Cfg):Option (Addr × Nat × Nat × Addr × Nat × Nat × TypeId × TypeId × TypeId × (Nat × Blk)):=match oo with
 | some o=>match Lt P o s.L,s.A[i]?,(fi N o.dst undef s.L).isSome with
  | some (d,n,cap,a,m,c',T,t,tx),some x,true=>some (d,n,cap,a,m,c',T,t,tx,x)
  | _,_,_=>none
 | none=>none
theorem RN.cpy (i:Nat) (X:Blk) {b n cap m c':Nat} {a:Addr} {T t tx ty:TypeId} {g:Nat -> Nat -> Value} (vs:List Value) (hl:vs.length=n) (hm:m=n) (h1:∀ v ∈ vs,v.oneCell'=true) (hsz:(P.info? T).map (·.size)=some 1)
  (hs:∀ w,Rel (ap s.A s.Ts++F) w -> ∀ j v,vs[j]?=some v -> w.cell? (a.add j)=some v)
  (hX:X.den=(Blk.lit vs ty (0,0)).den) (hk:RN r P N D F w0 R (L3 i X (fP N (vI (n:Int)) s)) Q)
  (h:M9 P N i (rx s) s=some (⟨b,0,none⟩,n,cap,a,m,c',T,t,tx,(b,.rows 1 n g ty (0,0))):=by kernel_rfl):RN r P N D F w0 R s Q:=by
 unfold M9 at h
 split at h
 case h_2=>cases h
 rename_i o q0
 split at h
 case h_2=>cases h
 rename_i d' n' cap' a' m' c2 T' t' tx' x hv hx hp
 simp only [Option.some.injEq,Prod.mk.injEq] at h
 obtain ⟨e1,e2,e3,e4,e5,e6,e7,e8,e9,e10⟩:=h
 subst e1;subst e2;subst e3;subst e4;subst e5;subst e6;subst e7;subst e8;subst e9;subst e10
 obtain ⟨a1,a2,q1,q2,q3,q4,q5,q6⟩:=Cw hv
 refine ⟨λ hR aa w hF hRel hB=>?_⟩
 obtain ⟨c,k,L,Bs,Ts⟩:=s
 unfold rx at q0
 cases c with
 | code c=>cases q0
 | ex c=>cases q0
 | drw _ _=>cases q0
 | ops ops pc =>
  simp only at q0 q3 q4 q5 hx hp hF hRel hs
  have hdrop:ops.toList.drop pc=o :: ops.toList.drop (pc+1):=by
   have hlt:pc < ops.toList.length:=(List.getElem?_eq_some_iff.1 q0).1
   rw [List.drop_eq_getElem_cons hlt,(List.getElem?_eq_some_iff.1 q0).2]
  show wpListIn _ _ _ _ _ _ _ _
  rw [hdrop,wpListIn,if_pos (by simp [Region.wanted,q1])]
  refine ⟨λ _ _=>trivial,?_⟩
  subst hm
  have hx2:(ap Bs Ts)[i]?=some (b,Blk.rows 1 m' g ty (0,0)):=by
   show (Bs++Ts.flatten)[i]?=_
   rw [List.getElem?_append_left (List.getElem?_eq_some_iff.1 hx).1];exact hx
  have hblk:w.heap[b]?=some (Blk.lit (bA 1 g m') ty (0,0)).den:=hRel.holds (b,.rows 1 m' g ty (0,0)) (List.mem_append_left _ (List.mem_of_getElem? hx2))
  have hrl:(bA 1 g m').length=m':=by rw [cL];omega
  have key:eo P o aa w λ u w'=>u=vI (m':Int) /\ Rel (bm (ap Bs Ts) i (b,X)++F) w' /\ Below 0 w w':=by
   simp only [Bool.and_eq_true] at q3
   have e1:=(hF.eval q3.1).trans q4
   have e2:=(hF.eval q3.2).trans q5
   have hrun:=run_copy_cells (P:=P) w t' tx' o.type T' b 0 m' cap' a' m' c2 vs q6 hsz (by simp [hl]) (hs w hRel) (λ j hj=>by
     have hj2:j < (bA 1 g m').length:=by omega
     rw [Nat.zero_add,mF (v:=(bA 1 g m')[j]) hblk rfl rfl (by simp [hj2])];rfl) (λ j hj=>nv hblk rfl rfl) h1
   unfold eo
   have he:(execOp aa.eval o).run P w=.ok (.value (vI (m':Int))) (w.setCells b 0 vs):=by
    simp [execOp,q2,resolve,invoke,builtin,Sem.run_bind,e1,e2,hrun,goInt,hl]
   rw [he]
   refine ⟨rfl,?_,ii b vs 0 w⟩
   have hd:=nk vs 0 w _ hblk
   rw [yT (by omega),<- hX] at hd
   exact hRel.upd hx2 hd (λ k hk=>nl hk vs 0 w)
  refine ie (by rw [q2];intro c hc;cases hc) key ?_
  rintro u w' ⟨rfl,hR',hB'⟩
  obtain ⟨L',p1⟩:=eT hp (vI (m':Int))
  have hh:=hk.h hR
  have hpc:L3 i X (fP N (vI (m':Int)) ⟨.ops ops pc,k,L,Bs,Ts⟩)=⟨.ops ops (pc+1),k,L',bm Bs i (b,X),Ts⟩:=by
   unfold fP
   simp only [q0,p1]
   unfold L3
   simp only [hx]
  rw [hpc] at hh
  refine hh _ w' (hF.put p1) ?_ (hB.trans hB')
  have e3:bm (ap Bs Ts) i (b,X)=ap (bm Bs i (b,X)) Ts:=by
   show bm (Bs++Ts.flatten) i _=bm Bs i _++Ts.flatten
   rw [hO,hO,List.set_append_left _ _ (List.getElem?_eq_some_iff.1 hx).1]
  rw [<- e3]
  exact hR'
end
def F7 (i v:Int):Int:=tM ⟨#[108,101,97,102]⟩ [i,v]
def AD (a b:Int):Int:=tM ⟨#[112,97,105,114]⟩ [aY a,aY b]
def F8:Int:=tM ⟨#[101,109,112,116,121]⟩ []
def j0 (n:Nat):Nat:=if n <= 1 then 0 else Lib.bitLen (n - 1)
def qX (n:Nat):Nat:=2 ^ j0 n
theorem Lu {n:Nat} (h:(n:Int) <= 1):j0 n=0:=by
 unfold j0
 rw [if_pos (by omega)]
theorem Lv {n:Nat} (hl:n <= 1000000) (h:¬ (n:Int) <= 1):tI ((n:Int) - 1)=(j0 n:Int):=by
 unfold j0 tI
 rw [if_neg (by omega)]
 have e:(uN ((n:Int) - 1)).toNat=n - 1:=by
  rw [show uN ((n:Int) - 1)=(n:Int) - 1 by rw [uN,IntKind.wrap];simp [IntKind.signed,IntKind.bits];omega]
  omega
 rw [e]
theorem JW:∀ (f x:Nat),x < 2 ^ f -> x ≠ 0 -> ∃ m,Lib.bitLenAux f x=m+1 /\ 2 ^ m <= x /\ x < 2 ^ (m+1)
 | 0,x,h,h0=>absurd (by simpa using h) h0
 | f+1,x,h,h0=>by
  rw [Lib.bitLenAux,if_neg h0]
  by_cases h2:x / 2=0
  ·have e:Lib.bitLenAux f (x / 2)=0:=by rw [h2];cases f <;> simp [Lib.bitLenAux]
   rw [e]
   exact ⟨0,rfl,by simp;omega,by simp;omega⟩
  ·obtain ⟨m,e,h3,h4⟩:=JW f (x / 2) (by rw [Nat.pow_succ] at h;omega) h2
   rw [e]
   exact ⟨m+1,by omega,by rw [Nat.pow_succ];omega,by rw [Nat.pow_succ];omega⟩
theorem yU {n:Nat} (h:n <= 1000000):j0 n <= 20 /\ n <= qX n /\ 1 <= qX n /\ qX n <= 2000000:=by
 unfold qX j0
 by_cases h1:n <= 1
 ·rw [if_pos h1]
  simp
  omega
 ·rw [if_neg h1]
  obtain ⟨m,e,b2,b3⟩:=JW 64 (n - 1) (by omega) (by omega)
  rw [show Lib.bitLen (n - 1)=m+1 from e]
  have hm:m < 20:=by
   apply Classical.byContradiction
   intro hn
   have:=Nat.pow_le_pow_right (n:=2) (by omega) (show 20 <= m by omega)
   omega
  rw [Nat.pow_succ] at b3 ⊢
  omega
theorem Na {n:Nat} (h:n <= 1000000):IntKind.i64.wrap (1 * 2 ^ min ((j0 n:Int)).toNat 64)=(qX n:Int):=by
 obtain ⟨h1,h2,h3,h4⟩:=yU h
 rw [Int.toNat_natCast,Nat.min_eq_left (by omega),IntKind.wrap_i64]
 have e:(1:Int) * 2 ^ j0 n=(qX n:Int):=by
  unfold qX
  rw [Int.one_mul]
  norm_cast
 rw [e]
 omega
def iI (f:Nat -> Int):Nat -> Nat -> Value:=λ i k=>match k with | 0=>.int .u64 (f i) | _=>default
def yV (f:Nat -> Int) (i:Nat) (v:Int):Nat -> Int:=λ j=>if j=i then v else f j
theorem qY (f:Nat -> Int) (i:Nat) (v:Int):dN (iI f) i 0 (.int .u64 v)=iI (yV f i v):=by
 funext j k
 unfold dN iI yV
 cases k with
 | zero=>by_cases h:j=i <;> simp [h]
 | succ k=>simp
def JX (xs:List Int) (sz:Nat):Nat -> Nat -> Int
 | 0=>λ _=>0
 | i+1=>yV (JX xs sz i) (sz+i) (F7 i (xs.getD i 0))
def GW (xs:List Int) (sz:Nat):Nat -> Nat -> Int
 | 0=>JX xs sz xs.length
 | m+1=>yV (GW xs sz m) (sz+(xs.length+m)) F8
def rO (xs:List Int) (sz:Nat):Nat -> Nat -> Int
 | 0=>GW xs sz (sz - xs.length)
 | m+1=>yV (rO xs sz m) (sz - 1 - m) (AD (rO xs sz m (2 * (sz - 1 - m))) (rO xs sz m (2 * (sz - 1 - m)+1)))
def oT (xs:List Int):Int:=rO xs (qX xs.length) (qX xs.length - 1) 1
theorem Cx (xs:List Int) (sz:Nat):oV [.int .u64 0]=iI (JX xs sz 0):=by
 funext j k
 cases k with
 | zero=>rfl
 | succ k=>simp [oV,iI]
theorem I0 {xs:List Int} {sz j:Nat} (h:xs.length <= j):yV (GW xs sz (j - xs.length)) (sz+j) F8=GW xs sz (j+1 - xs.length):=by
 rw [show j+1 - xs.length=(j - xs.length)+1 by omega,GW,show xs.length+(j - xs.length)=j by omega]
theorem I1 {xs:List Int} {sz k:Nat} (h:k+1 <= sz) (h1:1 <= k):yV (rO xs sz (sz - 1 - k)) k (AD (rO xs sz (sz - 1 - k) (2 * k)) (rO xs sz (sz - 1 - k) (2 * k+1)))=rO xs sz (sz - 1 - (k - 1)):=by
 rw [show sz - 1 - (k - 1)=(sz - 1 - k)+1 by omega,rO,show sz - 1 - (sz - 1 - k)=k by omega]
theorem Cy (xs:List Int) {n:Nat} (h:xs.length=n):bA 1 (aL xs) n=xs.map vI:=by
 refine g9 (by simpa using h) λ i k hi hk=>?_
 obtain rfl:k=0:=by omega
 have hi2:i < xs.length:=by omega
 simp [aL,List.getD_eq_getElem?_getD,List.getElem?_eq_getElem hi2]
theorem F9 {q c:Nat} {ty:TypeId} {xs:List Int} {H F:HL} (hq:(q,.rows 1 c (aL xs) ty (0,0)) ∈ H++F) (hc:xs.length <= c):∀ w,Rel (H++F) w -> ∀ j v,(xs.map vI)[j]?=some v -> w.cell? (Addr.add ⟨q,0,none⟩ j)=some v:=by
 intro w hr j v hv
 have hj:j < xs.length:=by
  have:=(List.getElem?_eq_some_iff.1 hv).1
  simpa using this
 have hb:=hr.holds _ hq
 rw [show Addr.add ⟨q,0,none⟩ j=⟨q,j,none⟩ by unfold Addr.add;split <;> simp_all,jg (i:=j) (k:=0) hb rfl rfl (by simp) (by omega) (by omega)]
 rw [<- hv]
 simp [aL,List.getD_eq_getElem?_getD,List.getElem?_eq_getElem hj]
theorem Lw {xs:List Int}:∀ v ∈ xs.map vI,v.oneCell'=true:=by
 intro v hv
 obtain ⟨x,_,rfl⟩:=List.mem_map.1 hv
 rfl
theorem Ga (b:ByteArray) (F:HL) (hb:b.size <= 1000000):Sp Tryz.prog 114 #[.string b,.slice none 0 0] [] F (λ u H'=>u=.int .u64 (tM b []) /\ H'=[]):=by
 refine Sp.run Tryz.func114 rfl mn (A:=[]) (Ts:=[]) rfl λ w0=>?_
 refine ae 10 [] λ _=>aj (pT b 0 _ (by assumption))<|ae 12 [] λ _=>RN.rounds 1<|ae 15 [] λ _=>aj (lj (nE b 0) 0 _)<|ae 3 [] λ _=>?_
 exact RN.ret [] [] [] ⟨rfl,rfl⟩
theorem yW (n:Nat) (F:HL) (hl:n <= 1000000):Sp Tryz.prog 68 #[vI (n:Int)] [] F (λ u H'=>u=vI (j0 n:Int) /\ H'=[]):=by
 refine Sp.run Tryz.func68 rfl mn (A:=[]) (Ts:=[]) rfl λ w0=>?_
 refine ae 12 [] λ _=>RN.em ((n:Int) <= 1) 4 (λ h1=>?_) λ h1=>?_
 ·refine ae 6 [] λ _=>RN.ret [] [] [] (v:=vI 0) (H':=[]) ?_
  exact ⟨congrArg (λ x:Nat=>vI (x:Int)) (Lu (by assumption)).symm,rfl⟩
 ·refine al 8 [.nw] [br ((n:Int) - 1)] λ _=>aj (uO ((n:Int) - 1) _)<|ae 3 [] λ _=>RN.ret [] [] [] (v:=vI (tI ((n:Int) - 1))) (H':=[]) ?_
  exact ⟨congrArg vI (Lv hl (by assumption)),rfl⟩
theorem Cz (i v:Int) (F:HL):Sp Tryz.prog 71 #[vI i,vI v] [] F (λ u H'=>u=.int .u64 (F7 i v) /\ H'=[]):=by
 refine Sp.run Tryz.func71 rfl mn (A:=[]) (Ts:=[]) rfl λ w0=>?_
 refine ae 10 [] λ n1=>RN.dn 0 (.rows 1 2 (aL [i,v]) 3 (0,0))<|aj (pU (⟨#[108,101,97,102]⟩) ([i,v]) (n1+0) 2 _ (by decide) (Nat.le_of_ble_eq_true rfl) (Nat.le_of_ble_eq_true rfl) (aB 0))<|ae 3 [] λ _=>?_
 exact RN.ret [] [] [] ⟨rfl,rfl⟩
theorem CA (a b:Int) (F:HL):Sp Tryz.prog 116 #[.int .u64 a,.int .u64 b] [] F (λ u H'=>u=.int .u64 (AD a b) /\ H'=[]):=by
 refine Sp.run Tryz.func116 rfl mn (A:=[]) (Ts:=[]) rfl λ w0=>?_
 refine ae 12 [] λ n1=>RN.dn 0 (.rows 1 2 (aL [IntKind.i64.wrap a,IntKind.i64.wrap b]) 3 (0,0))<|aj (pU (⟨#[112,97,105,114]⟩) ([IntKind.i64.wrap a,IntKind.i64.wrap b]) (n1+0) 2 _ (by decide) (Nat.le_of_ble_eq_true rfl) (Nat.le_of_ble_eq_true rfl) (aB 0))<|ae 3 [] λ _=>?_
 exact RN.ret [] [] [] ⟨rfl,rfl⟩
theorem Gb (q c:Nat) (xs:List Int) (F:HL) (hq:(q,.rows 1 c (aL xs) 3 (0,0)) ∈ F) (hc:xs.length <= c) (hl:xs.length <= 1000000):Sp Tryz.prog 181 #[vS q 0 xs.length c] [] F (λ u H'=>∃ x:Nat × Nat × Nat,H'=ap [(x.1,.lit [vI (j0 xs.length:Int),vS x.2.1 0 xs.length xs.length,vS x.2.2 0 (2 * qX xs.length) (2 * qX xs.length)] 353 (0,0)),(x.2.1,.rows 1 xs.length (aL xs) 3 (0,0)),(x.2.2,.rows 1 (2 * qX xs.length) (iI (rO xs (qX xs.length) (qX xs.length - 1))) 77 (0,0))] [] /\ u=vP x.1 0):=by
 obtain ⟨hb1,hb2,hb3,hb4⟩:=yU hl
 have he:=Na hl
 obtain ⟨sz,hsz⟩:∃ sz,qX xs.length=sz:=⟨_,rfl⟩
 rw [hsz] at hb2 hb3 hb4 he
 refine Sp.run Tryz.func181 rfl (mc hq mn) (A:=[]) (Ts:=[]) rfl λ w0=>?_
 refine ae 9 [] λ _=>aj (yW xs.length _ hl)<|al 11 [.dv] [0 <= (j0 xs.length:Int)] λ _=>RN.draw [] []<|Aw 4 (congrArg (λ v_=>(vI v_:Value)) he)<|aJ [] [0,1,4,2,5] [.nw] [br (2 * (sz:Int))]<|il (σ:=Nat × Nat × Nat) (λ ⟨n1,n2,n3⟩=>⟨[(0,vS q 0 xs.length c),(4,vI (sz:Int)),(5,vP (n3+0) 0)],[((n3+0),.lit [vI (j0 xs.length:Int),vS (n1+0) 0 xs.length xs.length,vS (n2+0) 0 (2 * sz) (2 * sz)] 353 (0,0)),((n2+0),.rows 1 (2 * sz) (oV [.int .u64 0]) 77 (0,0)),((n1+0),.rows 1 xs.length (oV [vI 0]) 3 (0,0))],[],True,0⟩) ?_ ?_
 ·rintro ⟨n1,n2,n3⟩
  refine ae 8 [.own 0] λ _=>RN.cpy (b:=(n1+0)) (n:=xs.length) (cap:=xs.length) (m:=xs.length) (c':=c) (a:=⟨q,0,none⟩) (T:=3) (t:=22) (tx:=22) (ty:=3) (g:=(oV [vI 0])) 2 (.rows 1 xs.length (aL xs) 3 (0,0)) (xs.map vI) (by simp) rfl Lw rfl (F9 (List.mem_append_right _ hq) hc) (congrArg (λ l:List Value=>(Obj.cells ⟨l⟩ 3 (0,0))) (Cy xs rfl))<|ae 11 [] λ _=>eI 1 (congrArg (λ v_=>(.rows 1 (2 * sz) v_ 77 (0,0):Blk)) (show (oV [.int .u64 0])=(iI (JX xs sz 0)) from Cx xs sz))<|RN.loop (σ:=Nat) (λ i=>⟨[(0,vS q 0 xs.length c),(4,vI (sz:Int)),(5,vP (n3+0) 0),(31,vS q 0 xs.length c),(32,vI (xs.length:Int)),(33,vI (i:Int))],[((n3+0),.lit [vI (j0 xs.length:Int),vS (n1+0) 0 xs.length xs.length,vS (n2+0) 0 (2 * sz) (2 * sz)] 353 (0,0)),((n2+0),.rows 1 (2 * sz) (iI (JX xs sz i)) 77 (0,0)),((n1+0),.rows 1 xs.length (aL xs) 3 (0,0))],[],i <= xs.length,xs.length - i⟩) 0 [0,1,2] [] (Nat.zero_le _) ?_
  rintro i hI4 mt5
  refine ae 6 [] λ _=>RN.em ((i:Int) < (xs.length:Int)) 34 (λ h6=>?_) λ h6=>?_
  ·refine al 14 [.ix i,.rorow 0 i 0] [(0+i * 1)=i * 1+0 /\ i < c,(i:Int)=((i:Nat):Int) /\ i < xs.length] λ _=>RN.draw [11] []<|aJ [] [0,4,5,7,8,1,6,2,3] [.nw,.own 0] [br ((sz:Int)+(i:Int))]<|ar [] 9 (λ X_=>(Cz (i:Int) (xs.getD i 0) _))<|aJ [] [10] [.ix (sz+i)] [(sz:Int)+(i:Int)=(((sz+i):Nat):Int) /\ (sz+i) < (2 * sz)]<|RD.one 11 (dX [] [.row 1 (sz+i) 0] [(0+(sz+i) * 1)=(sz+i) * 1+0 /\ (sz+i) < (2 * sz)] λ _=>?_)
   refine RD.fin<|al 6 [.nw] [br ((i:Int)+1)] λ _=>eI 1 (congrArg (λ v_=>(.rows 1 (2 * sz) v_ 77 (0,0):Blk)) (show (dN (iI (JX xs sz i)) (sz+i) 0 (.int .u64 (F7 (i:Int) (xs.getD i 0))))=(iI (JX xs sz (i+1))) from (qY _ _ _))) ?_
   refine mt5 (i+1) [0,1,2] [] ?_
   try dsimp only
   exact ⟨by omega,by omega⟩
  ·obtain rfl:i=xs.length:=by omega
   refine ae 8 [] λ _=>aj (Ga (⟨#[101,109,112,116,121]⟩) _ (by decide))<|ae 12 [] λ _=>eI 1 (congrArg (λ v_=>(.rows 1 (2 * sz) v_ 77 (0,0):Blk)) (show (iI (JX xs sz xs.length))=(iI (GW xs sz (xs.length - xs.length))) from (by rw [Nat.sub_self];rfl)))<|RN.loop (σ:=Nat) (λ j=>⟨[(4,vI (sz:Int)),(5,vP (n3+0) 0),(8,.int .u64 (tM (⟨#[101,109,112,116,121]⟩) [])),(9,vI (j:Int))],[((n3+0),.lit [vI (j0 xs.length:Int),vS (n1+0) 0 xs.length xs.length,vS (n2+0) 0 (2 * sz) (2 * sz)] 353 (0,0)),((n2+0),.rows 1 (2 * sz) (iI (GW xs sz (j - xs.length))) 77 (0,0)),((n1+0),.rows 1 xs.length (aL xs) 3 (0,0))],[],xs.length <= j /\ j <= sz,sz - j⟩) xs.length [0,1,2] [] (⟨Nat.le_refl _,by omega⟩) ?_
   rintro j ⟨hj_,hj2_⟩ mt8
   refine ae 8 [] λ _=>RN.em ((j:Int) < (sz:Int)) 55 (λ h9=>?_) λ h9=>?_
   ·refine al 24 [.own 0,.nw,.ix (sz+j),.row 1 (sz+j) 0,.nw] [br ((j:Int)+1),(0+(sz+j) * 1)=(sz+j) * 1+0 /\ (sz+j) < (2 * sz),(sz:Int)+(j:Int)=(((sz+j):Nat):Int) /\ (sz+j) < (2 * sz),br ((sz:Int)+(j:Int))] λ _=>eI 1 (congrArg (λ v_=>(.rows 1 (2 * sz) v_ 77 (0,0):Blk)) (show (dN (iI (GW xs sz (j - xs.length))) (sz+j) 0 (.int .u64 (tM (⟨#[101,109,112,116,121]⟩) [])))=(iI (GW xs sz (j+1 - xs.length))) from (by rw [qY,<- I0 (by omega)];rfl))) ?_
    refine mt8 (j+1) [0,1,2] [] ?_
    try dsimp only
    exact ⟨⟨by omega,by omega⟩,by omega⟩
   ·obtain rfl:sz=j:=by omega
    refine al 15 [.nw] [br ((sz:Int) - 1)] λ _=>eI 1 (congrArg (λ v_=>(.rows 1 (2 * sz) v_ 77 (0,0):Blk)) (show (iI (GW xs sz (sz - xs.length)))=(iI (rO xs sz (sz - 1 - (sz - 1)))) from (by rw [Nat.sub_self];rfl)))<|bn 10 (congrArg (λ v_=>(vI v_:Value)) (show (sz:Int) - 1=((sz - 1:Nat):Int) by omega))<|RN.loop (σ:=Nat) (λ k=>⟨[(5,vP (n3+0) 0),(10,vI (k:Int))],[((n3+0),.lit [vI (j0 xs.length:Int),vS (n1+0) 0 xs.length xs.length,vS (n2+0) 0 (2 * sz) (2 * sz)] 353 (0,0)),((n2+0),.rows 1 (2 * sz) (iI (rO xs sz (sz - 1 - k))) 77 (0,0)),((n1+0),.rows 1 xs.length (aL xs) 3 (0,0))],[],k+1 <= sz,k⟩) (sz - 1) [0,1,2] [] (by omega) ?_
    rintro k hI10 mt11
    refine ae 7 [] λ _=>RN.em ((k:Int) >= 1) 70 (λ h12=>?_) λ h12=>?_
    ·refine ae 5 [] λ _=>RN.draw [24] []<|aJ [] [0,4,5,9,13,17,1,6,10,14,18,2,7,15,19,3,8,16,11,20,12,21] [.nw,.nw,.nw,.own 0,.own 0,.own 0,.ix (2 * k),.ix (2 * k+1),.row 1 (2 * k) 0,.row 1 (2 * k+1) 0] [(0+(2 * k+1) * 1)=(2 * k+1) * 1+0 /\ (2 * k+1) < (2 * sz),(0+(2 * k) * 1)=(2 * k) * 1+0 /\ (2 * k) < (2 * sz),(2 * (k:Int))+1=(((2 * k+1):Nat):Int) /\ (2 * k+1) < (2 * sz),2 * (k:Int)=(((2 * k):Nat):Int) /\ (2 * k) < (2 * sz),br ((2 * (k:Int))+1),br (2 * (k:Int)),br (2 * (k:Int))]<|ar [] 22 (λ X_=>(CA ((rO xs sz (sz - 1 - k)) (2 * k)) ((rO xs sz (sz - 1 - k)) (2 * k+1)) _))<|aJ [] [23] [.ix k] [(k:Int)=((k:Nat):Int) /\ k < (2 * sz)]<|RD.one 24 (dX [] [.row 1 k 0] [(0+k * 1)=k * 1+0 /\ k < (2 * sz)] λ _=>?_)
     refine RD.fin<|al 7 [.nw] [br ((k:Int) - 1)] λ _=>eI 1 (congrArg (λ v_=>(.rows 1 (2 * sz) v_ 77 (0,0):Blk)) (show (dN (iI (rO xs sz (sz - 1 - k))) k 0 (.int .u64 (AD ((rO xs sz (sz - 1 - k)) (2 * k)) ((rO xs sz (sz - 1 - k)) (2 * k+1)))))=(iI (rO xs sz (sz - 1 - (k - 1)))) from (by rw [qY,I1 (by omega) (by omega)])))<|bn 10 (congrArg (λ v_=>(vI v_:Value)) (show (k:Int) - 1=((k - 1:Nat):Int) by omega)) ?_
     refine mt11 (k - 1) [0,1,2] [] ?_
     try dsimp only
     exact ⟨by omega,by omega⟩
    ·obtain rfl:k=0:=by omega
     refine ae 12 [] λ _=>RN.ret [] [0,2,1] [] (v:=vP (n3+0) 0) (H':=[((n3+0),.lit [vI (j0 xs.length:Int),vS (n1+0) 0 xs.length xs.length,vS (n2+0) 0 (2 * sz) (2 * sz)] 353 (0,0)),((n1+0),.rows 1 xs.length (aL xs) 3 (0,0)),((n2+0),.rows 1 (2 * sz) (iI (rO xs sz (sz - 1 - 0))) 77 (0,0))]) ?_
     subst hsz
     exact ⟨(_,_,_),rfl,rfl⟩
 ·intro key13
  refine eh 3 6 ?_ ?_
  ·refine dX [] [.mk xs.length xs.length] [(xs.length:Int)=((xs.length:Nat):Int) /\ (xs.length:Int)=((xs.length:Nat):Int) /\ xs.length <= xs.length /\ 8 * xs.length <= 140737488355328 /\ 1=1 /\ xs.length <= 9223372036854775807] λ n14=>RD.one 6 (dX [] [.mk (2 * sz) (2 * sz)] [2 * (sz:Int)=(((2 * sz):Nat):Int) /\ 2 * (sz:Int)=(((2 * sz):Nat):Int) /\ (2 * sz) <= (2 * sz) /\ 8 * (2 * sz) <= 140737488355328 /\ 1=1 /\ (2 * sz) <= 9223372036854775807] λ n15=>?_)
   refine RD.one 7 (RDO.ev [] [] λ _=>?_)
   refine RD.one 8 (RDO.ev [] [] λ n16=>?_)
   refine RD.one 9 (RDO.ev [] [] λ _=>?_)
   exact key13 ⟨n14,n15,n16⟩ [0,1,2] []
  ·refine dX [] [.mk (2 * sz) (2 * sz)] [2 * (sz:Int)=(((2 * sz):Nat):Int) /\ 2 * (sz:Int)=(((2 * sz):Nat):Int) /\ (2 * sz) <= (2 * sz) /\ 8 * (2 * sz) <= 140737488355328 /\ 1=1 /\ (2 * sz) <= 9223372036854775807] λ n17=>RD.one 3 (dX [] [.mk xs.length xs.length] [(xs.length:Int)=((xs.length:Nat):Int) /\ (xs.length:Int)=((xs.length:Nat):Int) /\ xs.length <= xs.length /\ 8 * xs.length <= 140737488355328 /\ 1=1 /\ xs.length <= 9223372036854775807] λ n18=>?_)
   refine RD.one 7 (RDO.ev [] [] λ _=>?_)
   refine RD.one 8 (RDO.ev [] [] λ n19=>?_)
   refine RD.one 9 (RDO.ev [] [] λ _=>?_)
   exact key13 ⟨n18,n17,n19⟩ [0,2,1] []
theorem CB (t cb nb n c:Nat) (h:Int) (f:Nat -> Int) (F:HL) (ht:(t,.lit [vI h,vS cb 0 n n,vS nb 0 c c] 353 (0,0)) ∈ F) (hn:(nb,.rows 1 c (iI f) 77 (0,0)) ∈ F) (hc:2 <= c):Sp Tryz.prog 182 #[vP t 0] [] F (λ u H'=>u=.int .u64 (f 1) /\ H'=[]):=by
 refine Sp.run Tryz.func182 rfl (mc ht (mc hn mn)) (A:=[]) (Ts:=[]) rfl λ w0=>?_
 refine al 16 [.ro 0,.ix 1,.rorow 1 1 0] [(0+1 * 1)=1 * 1+0 /\ 1 < c,1=((1:Nat):Int) /\ 1 < c] λ _=>?_
 exact RN.ret [] [] [] ⟨rfl,rfl⟩
theorem I2 (q c:Nat) (xs:List Int) (F:HL) (hq:(q,.rows 1 c (aL xs) 3 (0,0)) ∈ F) (hc:xs.length <= c) (hl:xs.length <= 1000000):Sp Tryz.prog 181 #[vS q 0 xs.length c] (ap [] []) F (λ u H'=>∃ x:Nat × Nat × Nat,H'=ap [(x.1,.lit [vI (j0 xs.length:Int),vS x.2.1 0 xs.length xs.length,vS x.2.2 0 (2 * qX xs.length) (2 * qX xs.length)] 353 (0,0)),(x.2.1,.rows 1 xs.length (aL xs) 3 (0,0)),(x.2.2,.rows 1 (2 * qX xs.length) (iI (rO xs (qX xs.length) (qX xs.length - 1))) 77 (0,0))] [] /\ u=vP x.1 0):=Gb q c xs F hq hc hl
theorem tj (q c:Nat) (xs:List Int) (F:HL) (hq:(q,.rows 1 c (aL xs) 3 (0,0)) ∈ F) (hc:xs.length <= c) (hl:xs.length <= 1000000):Sp Tryz.prog 117 #[vS q 0 xs.length c] [] F (λ u H'=>u=.int .u64 (oT xs) /\ H'=[]):=by
 refine Sp.run Tryz.func117 rfl (mc hq mn) (A:=[]) (Ts:=[]) rfl λ w0=>?_
 refine ae 8 [] λ _=>RN.ct (Hp:=[]) (Tp:=[]) [] [] (I2 q c xs _ (au hq) hc hl) ?_
 rintro _ ⟨t1,c2,n3⟩ rfl
 refine aj (CB t1 c2 n3 xs.length (2 * qX xs.length) (j0 xs.length) (rO xs (qX xs.length) (qX xs.length - 1)) _ (aB 0) (aB 2) (by have:=(yU hl).2.2.1;omega))<|ae 3 [] λ _=>?_
 exact RN.ret [] [] [] ⟨rfl,rfl⟩
section
variable {r:Option Nat} {P:Program} {N:Nat} {D:List Deferred} {F:HL} {w0:World} {R:HL} {s:Cfg} {Q:Exit -> Act -> World -> Prop}
end
section
variable {α:Type} {e:Enc α} {T:TypeId} {F:HL} {A:Option Addr} {n cap:Nat} {xs:List α} {Hl:HL}
end
section
variable {tk:Int} {S S1 S2:Setup} {rs_:List Bx} {ds_:List Dr} {bp gb n cap k t j1 j2:Nat} {A:Option Addr} {rs:List Rw} {xss:List (List Inp)} {M R:MemS} {G0 F TB:HL}
end
def Setup.std (S:Setup):Setup:={ S with bo:=0,bods:=iY S }
theorem qZ (S:Setup):SetEq S S.std:=⟨⟨rfl,rfl,rfl,rfl,rfl,rfl,rfl,rfl,rfl,rfl,rfl,rfl⟩,λ k hk=>⟨(S.body k).sh.A,(S.body k).sh.cap,by
 show (iY S).getD (0+k) dB=_
 rw [Nat.zero_add,gZ hk]
 rfl⟩,rfl,fD S⟩
section
variable {S S2:Setup} {J:Nat -> Nat × Int} {xss:List (List Inp)} {n:Nat}
theorem CC {α:Type} {l:List α} {i:Nat} (h:i < l.length) (d:α):l.take (i+1)=l.take i++[l.getD i d]:=by
 rw [List.take_add_one,List.getElem?_eq_getElem h,List.getD_eq_getElem?_getD,List.getElem?_eq_getElem h]
 rfl
end
def rd (on:Bool) (tr ix v:Int) (k:Nat) (M:MemS):MemS:=if on=true then (if (k:Int)=tr then M.set ix v else M) else M
theorem I3 (tr ix v:Int) (k:Nat) (M:MemS):rd false tr ix v k M=M:=rfl
def mE (g:Gm) (f:Nat -> MemS -> MemS):Nat -> Nat -> MemS -> MemS
 | 0,_,M=>M
 | n+1,k,M=>mE g f n (k+1) (fO g (f k M))
def yX (g:Gm) (f:Nat -> MemS -> MemS):Nat -> Nat -> MemS -> Prop
 | 0,_,_=>False
 | n+1,k,M=>Bt (f k M) /\ ((n=0 /\ gM g (f k M)=true) \/ (gM g (f k M)=false /\ yX g f n (k+1) (fO g (f k M))))
def Ly (g:Gm) (f:Nat -> MemS -> MemS):Nat -> Nat -> MemS -> Nat
 | 0,_,_=>0
 | n+1,k,M=>if gM g (f k M)=true then 0 else Ly g f n (k+1) (fO g (f k M))+1
theorem Gc {g:Gm} {f:Nat -> MemS -> MemS}:∀ (m n k:Nat) (M:MemS),yX g f (m+1) k M -> m < n -> Ly g f n k M=m
 | m,0,_,_,_,h=>by omega
 | 0,n+1,k,M,h,_=>by
  rcases h.2 with ⟨_,e⟩ | ⟨_,e⟩
  ·rw [Ly,if_pos e]
  ·exact e.elim
 | m+1,n+1,k,M,h,hn=>by
  rcases h.2 with ⟨e,_⟩ | ⟨e1,e2⟩
  ·omega
  ·rw [Ly,if_neg (by rw [e1];simp),Gc m n _ _ e2 (by omega)]
theorem I4 (g:Gm) (a b c:Int):∀ (n k:Nat) (M:MemS),mE g (rd false a b c) n k M=fI g n M
 | 0,_,_=>rfl
 | n+1,k,M=>by rw [mE,I3,fI,I4 g a b c n]
theorem AE (g:Gm) (f:Nat -> MemS -> MemS):∀ (a b k:Nat) (M:MemS),mE g f (a+b) k M=mE g f b (k+a) (mE g f a k M)
 | 0,b,k,M=>by rw [Nat.zero_add];rfl
 | a+1,b,k,M=>by
  rw [show a+1+b=(a+b)+1 by omega,mE,mE,AE g f a b (k+1),show k+1+a=k+(a+1) by omega]
theorem nq (g:Gm) (f:Nat -> MemS -> MemS) (a k:Nat) (M:MemS):mE g f (a+1) k M=fO g (f (k+a) (mE g f a k M)):=by rw [AE g f a 1];rfl
def CD (S:Setup) (ix:Int):Prop:=(32 <= ix /\ ix < 48) \/ 48+4 * S.players <= ix
theorem TV.ch {S:Setup} {ins:Nat -> Inp} {M:MemS} (hS:SetV S) (h:TV S ins M) {ix:Int} (v:Int) (hc:CD S ix):TV S ins (M.set ix v) /\ jJ S (M.set ix v)=jJ S M /\ (M.set ix v).get 0=M.get 0:=by
 have hp:=hS.pl
 have hne:∀ j:Int,j < 32 \/ (48 <= j /\ j < 48+4 * S.players) -> (M.set ix v).get j=M.get j:=λ j hj=>bj (by rcases hc with hc | hc <;> omega)
 have g0:=hne 0 (by omega)
 have g1:=hne 1 (by omega)
 have g2:=hne 2 (by omega)
 have g3:=hne 3 (by omega)
 have g4:=hne 4 (by omega)
 have g8:=hne 8 (by omega)
 have g11:=hne 11 (by omega)
 refine ⟨⟨by rw [aI];exact h.len,by rw [g0];exact h.t0,by rw [g1,g2,g3,g4,g8];exact h.ct,λ q hq=>?_,?_⟩,?_,g0⟩
 ·rw [g1,g2] at hq
  have hq2:(q:Int) < S.players:=by
   rcases h.ct with k | k | k | k | k | k | k | k <;> (split at hq <;> omega)
  rw [hne _ (by omega),hne _ (by omega),hne _ (by omega)]
  exact h.pl q hq
 ·rw [show yQ (M.set ix v)=yQ M by unfold yQ;rw [g1,g2],g11];exact h.ec
 ·unfold jJ;rw [g1,g2,g3,g4,g8]
theorem JY {S:Setup} (hS:SetV S) {g:Gm} (hg:g.S=S) {ins:Nat -> Inp} (hi:∀ q:Nat,(q:Int) < S.players -> g.ins.getD (g.io+q) dI=ins q) (hni:S.players <= g.ni) {f:Nat -> MemS -> MemS} (hf:∀ k M,TV S ins M -> TV S ins (f k M) /\ jJ S (f k M)=jJ S M /\ (f k M).get 0=M.get 0):∀ (n k:Nat) (M:MemS),TV S ins M -> jJ S M <= n ->
  ∃ m,m+1 <= n /\ yX g f (m+1) k M /\ (∀ j:Int,1 <= j -> j <= 10 -> (mE g f (m+1) k M).get j=0) /\ ((mE g f (m+1) k M).cs.length:Int)=sizeOf S /\ (mE g f (m+1) k M).get 0=M.get 0+1
 | 0,k,M,h,hl=>by
  have:=us hS.pl ⟨by have:=hS.nb;omega,by have:=hS.nb;omega⟩ hS.ro h.ct
  unfold jJ at hl;omega
 | n+1,k,M,h,hl=>by
  obtain ⟨hv,hlf,h0⟩:=hf k M h
  obtain ⟨hph,⟨e1,hx⟩ | ⟨e1,hx,hem,hst,h11⟩⟩:=JT hS hg hi hni hv
  ·obtain ⟨m,hm,k1,k2,k3,k4⟩:=JY hS hg hi hni hf n (k+1) (fO g (f k M)) hx.tv (by have h_:jJ S (fO g (f k M)) < jJ S (f k M):=hx.lt;omega)
   refine ⟨m+1,by omega,⟨hph,.inr ⟨e1,k1⟩⟩,k2,k3,?_⟩
   rw [mE,k4,hx.t0,h0]
  ·exact ⟨0,by omega,⟨hph,.inl ⟨rfl,e1⟩⟩,hx.z,hx.len,by rw [mE,mE];rw [hx.t0,h0]⟩
def WC (S:Setup) (J:Nat -> Nat × Int) (xss:List (List Inp)) (f:Nat -> Nat -> MemS -> MemS) (c0:List Int):Nat -> List Int
 | 0=>c0
 | t+1=>(mE (fo S (J t) (xss.getD t [])) (f t) (Ly (fo S (J t) (xss.getD t [])) (f t) 1000 0 ⟨WC S J xss f c0 t,[],0⟩+1) 0 ⟨WC S J xss f c0 t,[],0⟩).cs
abbrev LC (S:Setup) (J:Nat -> Nat × Int) (xss:List (List Inp)) (f:Nat -> Nat -> MemS -> MemS) (c0:List Int) (t:Nat):Nat:=Ly (fo S (J t) (xss.getD t [])) (f t) 1000 0 ⟨WC S J xss f c0 t,[],0⟩
abbrev fC (ct tr ix v:Int):Nat -> Nat -> MemS -> MemS:=λ t=>rd (decide ((t:Int)=ct)) tr ix v
theorem Nb {S:Setup} (hS:SetV S) {ct tr ix:Int} (v:Int) (hc:ct < 0 \/ CD S ix) (t:Nat) {ins:Nat -> Inp} (k:Nat) (M:MemS) (h:TV S ins M):TV S ins (fC ct tr ix v t k M) /\ jJ S (fC ct tr ix v t k M)=jJ S M /\ (fC ct tr ix v t k M).get 0=M.get 0:=by
 unfold fC rd
 split
 ·next e =>
  have e:=of_decide_eq_true e
  split
  ·exact TV.ch hS h v (hc.resolve_left (by omega))
  ·exact ⟨h,rfl,rfl⟩
 ·exact ⟨h,rfl,rfl⟩
theorem Nc {S:Setup} (hS:SetV S) {J:Nat -> Nat × Int} {xss:List (List Inp)} {n:Nat} (hn:n <= 900) (hr:∀ i,i < n -> fN S.players (xss.getD i [])) {ct tr ix:Int} (v:Int) (hc:ct < 0 \/ CD S ix) {c0:List Int} (h0:TE2 S 0 ⟨c0,[],0⟩):∀ t,t <= n -> TE2 S (t:Int) ⟨WC S J xss (fC ct tr ix v) c0 t,[],0⟩ /\ (t < n -> LC S J xss (fC ct tr ix v) c0 t <= 649 /\ yX (fo S (J t) (xss.getD t [])) (fC ct tr ix v t) (LC S J xss (fC ct tr ix v) c0 t+1) 0 ⟨WC S J xss (fC ct tr ix v) c0 t,[],0⟩):=by
 have key:∀ t,t < n -> TE2 S (t:Int) ⟨WC S J xss (fC ct tr ix v) c0 t,[],0⟩ -> (LC S J xss (fC ct tr ix v) c0 t <= 649 /\ yX (fo S (J t) (xss.getD t [])) (fC ct tr ix v t) (LC S J xss (fC ct tr ix v) c0 t+1) 0 ⟨WC S J xss (fC ct tr ix v) c0 t,[],0⟩) /\ TE2 S ((t+1:Nat):Int) ⟨WC S J xss (fC ct tr ix v) c0 (t+1),[],0⟩:=λ t ht hT=>by
  have hrow:=hr t ht
  obtain ⟨h1,h2,h3⟩:=hT.tv hS (by omega) (λ q=>(fo S (J t) (xss.getD t [])).ins.getD ((fo S (J t) (xss.getD t [])).io+q) dI)
  have hb:=qV hS
  obtain ⟨m,a1,a2,a3,a4,a5⟩:=JY hS (g:=fo S (J t) (xss.getD t [])) rfl (λ _ _=>rfl) (by show S.players <= ((xss.getD t []).length:Int);have:=hrow.1;omega) (λ k M h=>Nb hS v hc t k M h) (l0 S.players S.nb S.rounds 0).toNat 0 _ h1 (by omega)
  have e:LC S J xss (fC ct tr ix v) c0 t=m:=Gc m 1000 0 _ a2 (by omega)
  refine ⟨⟨by omega,by rw [e];exact a2⟩,?_⟩
  have ew:WC S J xss (fC ct tr ix v) c0 (t+1)=(mE (fo S (J t) (xss.getD t [])) (fC ct tr ix v t) (m+1) 0 ⟨WC S J xss (fC ct tr ix v) c0 t,[],0⟩).cs:=by rw [WC,show Ly (fo S (J t) (xss.getD t [])) (fC ct tr ix v t) 1000 0 ⟨WC S J xss (fC ct tr ix v) c0 t,[],0⟩=m from e]
  rw [hT.t0] at a5
  refine ⟨by rw [ew];exact a4,λ j h1 h2=>?_,?_⟩
  ·rw [ew];exact a3 j h1 h2
  ·rw [ew,show (⟨(mE (fo S (J t) (xss.getD t [])) (fC ct tr ix v t) (m+1) 0 ⟨WC S J xss (fC ct tr ix v) c0 t,[],0⟩).cs,[],0⟩:MemS).get 0=(mE (fo S (J t) (xss.getD t [])) (fC ct tr ix v t) (m+1) 0 ⟨WC S J xss (fC ct tr ix v) c0 t,[],0⟩).get 0 from rfl,a5]
   omega
 have hT:∀ t,t <= n -> TE2 S (t:Int) ⟨WC S J xss (fC ct tr ix v) c0 t,[],0⟩:=λ t=>by
  induction t with
  | zero=>exact λ _=>h0
  | succ t ih=>exact λ h=>(key t (by omega) (ih (by omega))).2
 exact λ t ht=>⟨hT t ht,λ h=>(key t h (hT t ht)).1⟩
theorem Ge {g g':Gm} (h:GEq g g') (f:Nat -> MemS -> MemS):∀ (n k:Nat) (M:MemS),mE g f n k M=mE g' f n k M
 | 0,_,_=>rfl
 | n+1,k,M=>by rw [mE,mE,fO,fO,nJ h,Ge h f n]
theorem Gf {g g':Gm} (h:GEq g g') (f:Nat -> MemS -> MemS):∀ (n k:Nat) (M:MemS),yX g f n k M ↔ yX g' f n k M
 | 0,_,_=>Iff.rfl
 | n+1,k,M=>by rw [yX,yX,fO,fO,nJ h,xO h,Gf h f n]
def XW (S:Setup) (J:Nat -> Nat × Int) (xss:List (List Inp)) (ct tr ix v:Int):Nat -> List Int:=WC S.std J xss (fC ct tr ix v) (aK S S.nb)
def XN (S:Setup) (J:Nat -> Nat × Int) (xss:List (List Inp)) (ct tr ix v:Int):Nat -> Nat:=LC S.std J xss (fC ct tr ix v) (aK S S.nb)
structure XTk (S:Setup) (g:Gm) (t:Nat) (ct tr ix v:Int) (W:Nat -> List Int) (L:Nat -> Nat):Prop where
 le:L t <= 649
 gd:yX g (fC ct tr ix v t) (L t+1) 0 ⟨W t,[],0⟩
 next:(mE g (fC ct tr ix v t) (L t+1) 0 ⟨W t,[],0⟩).cs=W (t+1)
 len:((W t).length:Int)=sizeOf S /\ ((W (t+1)).length:Int)=sizeOf S
 te:TE2 S (t:Int) ⟨W t,[],0⟩
theorem Gg {S:Setup} (hV:SetV S) {J:Nat -> Nat × Int} {xss:List (List Inp)} {n:Nat} (hn:n <= 900) (hr:∀ i,i < n -> fN S.players (xss.getD i [])) {ct tr ix:Int} (v:Int) (hc:ct < 0 \/ CD S ix) {S3:Setup} (h3:SetEq S S3) {t:Nat} (ht:t < n):XTk S (fo S3 (J t) (xss.getD t [])) t ct tr ix v (XW S J xss ct tr ix v) (XN S J xss ct tr ix v):=by
 have hS:=(qZ S).setV hV
 have hw:=Nc hS hn (J:=J) (xss:=xss) hr (tr:=tr) v (show ct < 0 \/ CD S.std ix from hc) (yS hV (qZ S))
 obtain ⟨h1,h2⟩:=hw t (by omega)
 obtain ⟨h4,h5⟩:=h2 ht
 have eg:=F1 (qZ S) h3 J xss t
 refine ⟨h4,(Gf eg _ _ _ _).1 h5,?_,⟨h1.len,(hw (t+1) (by omega)).1.len⟩,⟨h1.len,h1.z,h1.t0⟩⟩
 rw [<- Ge eg]
 rfl
section
variable {rs:List Bx} {ds:List Dr} {bp gb mb:Nat} {S:Setup} {M:MemS} {k:Nat} {G0:HL}
end
section
variable {r:Option Nat} {P:Program} {N:Nat} {D:List Deferred} {F:HL} {w0:World} {R:HL} {s:Cfg} {Q:Exit -> Act -> World -> Prop}
def Om (K:Act -> World -> Prop) (s:Cfg):Cfg:=match s with
 | ⟨.code c,k,L,A,Ts⟩=>⟨.code c,.met K :: k,L,A,Ts⟩
 | s=>s
def Gh (s:Cfg):Bool:=match s.c with
 | .code _=>true
 | _=>false
def On (V:Inv) (s:Cfg):Cfg:=⟨.ex .normal,s.k,V.L,V.A,V.Ts⟩
theorem om {σ:Type} (V:σ -> Inv)
  (first:(∀ {s':Cfg} {R':HL} (x':σ) (ip jp:List Nat),(V x').I -> (hm:AY s'=some (MV N D F w0 V (λ x'=>(V x').I)):=by kernel_rfl) -> (h:tF (V x') ip jp s'=mN (V x'):=by kernel_rfl) -> (hp:bT ip jp s'=true:=by kernel_rfl) -> RN r P N D F w0 R' s' Q) ->
   RN r P N D F w0 R (Om (MV N D F w0 V (λ x'=>(V x').I)) s) Q)
  (rest:∀ x,(V x).I -> RN r P N D F w0 R (On (V x) s) Q) (hc:Gh s=true:=by kernel_rfl):RN r P N D F w0 R s Q:=by
 refine ⟨λ hR a w h1 h2 h3=>?_⟩
 have h4:=(first (λ x' ip jp hi hm h hp=>pn x' ip jp hi hm h hp)).h hR
 obtain ⟨c,k,L,A,Ts⟩:=s
 unfold Gh at hc
 split at hc
 case h_2=>cases hc
 rename_i c' e1
 simp only at e1
 subst e1
 refine wpIn_mono (h4 a w h1 h2 h3) λ e a w q=>?_
 cases e with
 | normal =>
  obtain ⟨x,hI,m1,m2,m3⟩:=q
  exact (rest x hI).h hR a w m1 m2 m3
 | exit id=>exact q
 | goto l=>exact q
 | ret=>exact q
 | panic ch=>exact q
 | outgrown=>exact q
end
end Go.Proofs.YtghjbimijeinfaaGreatDoor
