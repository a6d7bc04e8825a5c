import Derived.Test.YtdppjkjbghbnjaaGreatDoorY13
import Derived.Test.YtdppjkjbghbnjaaGreatDoorY70
set_option maxHeartbeats 4000000
set_option maxRecDepth 100000
set_option linter.all false
namespace Go.Proofs.YtdppjkjbghbnjaaGreatDoor
open Go.RowKit
theorem RN.fd {r:Option Nat} {P:Program} {N:Nat} {D:List Deferred} {F F':HL} {w0:World} {R:HL} {s:Cfg} {Q:Exit -> Act -> World -> Prop} (e:fo F'=fo F) (R':HL) (hR':∀ y ∈ R',y ∈ F') (hk:RN r P N D F' w0 R' s Q):RN r P N D F w0 R s Q:=by
 refine ⟨λ _ a w h1 h2 h3=>hk.h hR' a w h1 ?_ h3⟩
 exact h2.den (by simp only [fo,List.map_append] at e ⊢;rw [e])
def dNP (n:Nat) (xs:List Int) (i:Nat):Int:=if i < n then xs.getD i 0 else 0
theorem dNP_r {F:HL} {A:Option Addr} {n:Nat} {xs:List Int} (hl:ArgD F A n xs) (i:Nat):fH (dNP n xs i):=by
 unfold dNP
 split
 ·next hi =>
  obtain ⟨F',hl⟩:=hl.ex
  obtain ⟨_,_,_,_,_,_,_,_,_,_,hr⟩:=hl.at (k:=i) hi
  exact hr
 ·unfold fH;omega
def rowP (n:Nat) (xs:List Int) (k:Nat):List Inp:=(List.range k).map λ i=>lI (qD (ai (dNP n xs i) 36))
theorem rowP_succ (n:Nat) (xs:List Int) (k:Nat):rowP n xs (k+1)=rowP n xs k++[lI (qD (ai (dNP n xs k) 36))]:=by simp [rowP,List.range_succ]
theorem rowP_len (n:Nat) (xs:List Int) (k:Nat):(rowP n xs k).length=k:=by simp [rowP]
theorem rowP_pred (n:Nat) (xs:List Int) (k:Nat):(rowP n xs k).map lI=rowP n xs k:=by
 unfold rowP
 rw [List.map_map]
 rfl
theorem rowP_ok {F:HL} {A:Option Addr} {n:Nat} {xs:List Int} (hl:ArgD F A n xs) (k:Nat):RowOk (k:Int) (rowP n xs k):=nk (by rw [rowP_len]) λ x hx=>by
 obtain ⟨i,_,rfl⟩:=List.mem_map.1 hx
 exact Ls (om (by have h_:=aA (n:=dNP n xs i) (dNP_r hl i) 36 (by decide);omega))
theorem rowF_same {pl me:Nat} {rows:List (List Inp)} {r:List Inp} (hp:r.map lI=r) (hr:∀ x ∈ rows,x=r) (h0:0 < rows.length) (t:Nat):hO pl me rows (jj []) t=r:=by
 unfold hO
 split
 ·next ht=>exact hr _ (gY ht _)
 ·show yz pl rows=r
  unfold yz
  cases hg:rows.getLast? with
  | none=>rw [List.getLast?_eq_none_iff.1 hg] at h0;exact absurd h0 (by decide)
  | some x=>show x.map lI=r;rw [hr x (List.mem_of_getLast? hg),hp]
theorem wr_same {rows l:List (List Inp)} {r:List Inp} (hr:∀ x ∈ rows,x=r) (hl:∀ x ∈ l,x=r) (t:Nat):wr rows t l=none:=by
 cases hx:wr rows t l with
 | none=>rfl
 | some x =>
  exfalso
  obtain ⟨k1,k2,k3,_,k5⟩:=yt hx
  apply k5
  have h1:x - t < l.length:=by omega
  rw [List.getElem?_eq_getElem h1,List.getElem?_eq_getElem k3,hl _ (List.getElem_mem h1),hr _ (List.getElem_mem k3)]
structure PfI (r:List Inp) (P:PS (List Inp)) (V:List (List Inp)):Prop where
 rb:P.rb=0
 all:∀ x ∈ V,x=r
section
variable {S:Setup} {J:Nat -> Nat × Int} {w m:Nat} {P:PS (List Inp)} {V:List (List Inp)} {r:List Inp} {k:Nat}
theorem PeerI.allr (h:PeerI S J w (λ _=>r) P V m k):∀ x ∈ P.rows,x=r:=λ x hx=>by
 rw [h.rows] at hx
 obtain ⟨_,_,rfl⟩:=List.mem_map.1 hx
 rfl
theorem PfI.adv1N (hA:PfI r P V) (hI:PeerI S J w (λ _=>r) P V m k):fj P V.length=V.length:=by
 unfold Go.Proofs.YtdppjkjbghbnjaaGreatDoor.fj
 rw [wr_same hI.allr (λ x hx=>hA.all x (by rw [hI.inv.used] at hx;exact List.mem_of_mem_drop hx))]
 rfl
theorem PfI.adv (hA:PfI r P V) (hI:PeerI S J w (λ _=>r) P V m k) (hw:1 <= w) {T:Nat} (h1:V.length <= T) (h2:T <= P.rows.length+w) {rf:Nat -> List Inp} (hrf:∀ t,rf t=r):PfI r (uK (gP S J) w P V.length T rf) (Bq P V T rf):=by
 obtain ⟨a1,a2,a3,a4⟩:=hI.inv.adv hw h1 h2 rf (λ t ht=>by rw [hrf,List.getElem?_eq_getElem ht,hI.allr _ (List.getElem_mem ht)])
 have e:=hA.adv1N hI
 refine ⟨by rw [a4,e,if_neg (by omega)];exact hA.rb,λ x hx=>?_⟩
 unfold Bq at hx
 rcases List.mem_append.1 hx with hx | hx
 ·exact hA.all x (List.mem_of_mem_take hx)
 ·obtain ⟨t,rfl⟩:=rE _ _ hx
  exact hrf t
end
section
variable {rs_:List Bx} {ds_:List Dr} {bp pp pl me w:Nat} {S:Setup} {J:Nat -> Nat × Int} {P:PS (List Inp)}  {c sn:Nat} {r:List Inp} {V:List (List Inp)} {m k:Nat} {G F:HL}
theorem padvP (h:PeerR rs_ ds_ bp pp pl me w S J P ([]) c sn none G) (hI:PeerI S J w (λ _=>r) P V m k) (hA:PfI r P V) (hp:r.map lI=r) (hro:RowOk S.players r) (h0:0 < P.rows.length) (hV:SetV S) (hme:me < pl) (hw:1 <= w /\ w <= 12) (hk:k <= 36) (hc:c <= 50 * k) (hAt:∀ i,i <= 50 -> (J i).1 < 5 /\ AtOk F bp (i:Int) (J i)) (hE:bF F) {tt:Int} {T:Nat} (ht:tt=(T:Int)) (h1:V.length <= T) (h2:T <= P.rows.length+w):Sp Tryz.prog 17 #[vP pp 0,vI tt] (ap [] [G]) F (λ u H'=>∃ y:(PS (List Inp) × Nat × List (List Inp) × Nat) × HL,H'=ap [] [y.2] /\ (u=.tuple #[vI ((y.1.2.2.1.length:Int) - (V.length:Int)),vI 0] /\ PeerR rs_ ds_ bp pp pl me w S J y.1.1 ([]) y.1.2.1 sn none y.2 /\ PeerI S J w (λ _=>r) y.1.1 y.1.2.2.1 y.1.2.2.2 (k+1) /\ PfI r y.1.1 y.1.2.2.1 /\ y.1.2.1 <= 50 * (k+1) /\ y.1.1.rows.length=P.rows.length /\ y.1.2.2.1.length=T)):=by
 subst ht
 have hl:=hI.lim
 have hv:=hI.vlen
 have hpl:=h.plE
 have hr:=hI.rowsOk λ _=>hro
 have hrf:=rowF_same (pl:=pl) (me:=me) hp hI.allr h0
 refine (yE h hI.inv hV hI.ok hr hme hw (by omega) (by omega) (by omega) (by omega) hAt hE T (by omega) (by omega) (by omega)).mono λ u H' q=>?_
 obtain ⟨x,rfl,q1,q2⟩:=q
 have ha:=hI.adv (λ _=>hro) hw.1 (T:=T) (by omega) (by omega) (hO pl me P.rows (jj [])) (λ t=>by rw [hrf t];exact hro) (λ t ht=>rB ht)
 have hb:=hA.adv hI hw.1 h1 h2 hrf
 have e1:=hA.adv1N hI
 have hrl:(uK (gP S J) w P V.length T (hO pl me P.rows (jj []))).rows.length=P.rows.length:=ha.2.2.1
 refine ⟨((uK (gP S J) w P V.length T (hO pl me P.rows (jj [])),c+(T - fj P V.length),Bq P V T (hO pl me P.rows (jj [])),min T P.rows.length),x),rfl,?_,q2,ha.1,hb,by show c+_ <= _;omega,hrl,ha.2.1⟩
 show u=.tuple #[vI (((Bq P V T (hO pl me P.rows (jj []))).length:Int) - (V.length:Int)),vI 0]
 rw [ha.2.1,q1,e1,show ((T - V.length:Nat):Int)=(T:Int) - (V.length:Int) by omega]
theorem pconfP (h:PeerR rs_ ds_ bp pp pl me w S J P ([]) c sn none G) (hI:PeerI S J w (λ _=>r) P V m k) (hA:PfI r P V) (hro:RowOk S.players r) (hV:SetV S) (hk:k <= 36) (hc:c <= 50 * k) {n cc:Nat} {A:Option Addr} (hl:RowL cS 40 F A n r) {t:Int} (ht:t=(P.rows.length:Int)):Sp Tryz.prog 16 #[vP pp 0,vI t,.slice A n cc] (ap [] [G]) F (λ u H'=>∃ y:PS (List Inp) × HL,H'=ap [] [y.2] /\ (u=vI 0 /\ PeerR rs_ ds_ bp pp pl me w S J y.1 ([]) c sn none y.2 /\ PeerI S J w (λ _=>r) y.1 V m (k+1) /\ PfI r y.1 V /\ y.1.rows.length=P.rows.length+1)):=by
 refine (jz (cc:=cc) h hI (λ _=>hro) hV hk hc hl rfl ht).mono λ u H' q=>?_
 obtain ⟨x,rfl,q1,q2,q3⟩:=q
 exact ⟨(dD P r,x),rfl,q1,q2,q3,⟨hA.rb,hA.all⟩,by show (P.rows++[_]).length=_;simp⟩
end
theorem pred21_any (x:Inp) (F:HL):Sp Tryz.prog 14 #[.agg #[vI x.dx,vI x.dy,vI x.act]] [] F (λ u H'=>u=.agg #[vI (lI x).dx,vI (lI x).dy,vI (lI x).act] /\ H'=[]):=by
 refine Sp.run Tryz.func14 rfl mn (A:=[]) (Ts:=[]) rfl λ w0=>?_
 refine ae 16 [.own 1,.own 1,.own 0,.own 0,.own 0] λ n1=>?_
 exact RN.ret [.own 0,.own 0,.own 0] [] [] ⟨rfl,rfl⟩
end Go.Proofs.YtdppjkjbghbnjaaGreatDoor
