import Derived.Test.YthoijjeddhfcnaaGreatW26
import Derived.Test.YthoijjeddhfcnaaGreatW21
set_option maxHeartbeats 4000000
set_option maxRecDepth 100000
set_option linter.unusedSimpArgs false
set_option linter.unusedVariables false
namespace Go.Proofs.YthoijjeddhfcnaaGreat
open Go.RowKit
theorem turn_no {t:Stp} {e a b:Int} {c:Bool} {M:MemS} (hj:t.j=0) (he:e < 0):turnV (runV e t a b M) (runE e t a b M) t c M=⟨M.set 2 (w64 (t.i+1)),0,t.f,t.emitted⟩:=by
  have e1:runV e t a b M=⟨M,0,t.f,t.emitted⟩:=by unfold runV startV;rw [if_pos hj,if_pos he,if_pos he]
  have e2:runE e t a b M=true:=by unfold runE;rw [if_pos hj];exact decide_eq_true he
  unfold turnV
  rw [if_pos hj,e1,e2]
  cases c <;> rfl
structure NoT (g:Gm) (N:MemS) (p i:Int):Prop where
  em:(trV g N).em=false
  en:trE g N=false
  km:KM g.S N (trM g N)
  g1:(trM g N).get 1=p
  g2:(trM g N).get 2=i
  g3:p ≠ 4 -> (trM g N).get 3=0
theorem NoT.of {g:Gm} {N A:MemS} {v:Value} {e:Eff} {em:Bool} {p i z:Int} (h:trV g N=⟨A,z,e,em⟩) (hem:em=false) (h7:N.get 1 ≠ 7) (km:KM g.S N A) (g1:A.get 1=p) (g2:A.get 2=i) (g3:p ≠ 4 -> A.get 3=0):NoT g N p i:=by
  have e:trM g N=A:=by unfold trM;rw [h]
  exact ⟨by rw [h];exact hem,by unfold trE;rw [if_neg h7],e ▸ km,e ▸ g1,e ▸ g2,λ hp=>e ▸ g3 hp⟩
section
variable {g:Gm} {V:Nat -> V2} (h:FarS g.S V) (h0:g.e0 < 0) (h1:g.e1 < 0) (h2:g.e2 < 0) {N:MemS} (hl:(N.cs.length:Int)=sizeOf g.S)
include h hl
theorem far_48:48 <= N.cs.length:=by
  have hz:sizeOf g.S=48+4 * g.S.players+8 * g.S.nb:=rfl
  have hp:=h.pl
  omega
theorem far_p0 (c1:N.get 1=0) (c2:N.get 2=0):NoT g N 1 0:=by
  have hP:=h.pl
  have h48:=far_48 h hl
  have e:trV g N=⟨inputM (g.step N) N,0,eff0,false⟩:=by unfold trV;rw [if_pos c1]
  have hi:(g.step N).i=0:=c2
  have k1:KM g.S N (inputA (g.step N) N):=by
    unfold inputA
    rw [if_pos hi]
    exact ((KM.refl N).low (by omega) (by omega) _).low (by omega) (by omega) _
  have k2:KM g.S N (inputB (g.step N) (inputA (g.step N) N)):=by
    unfold inputB
    rw [hi]
    rcases vplayerAt (S:=g.S) 0 with ⟨a,_⟩ | ⟨_,_,a⟩
    · rw [show (g.step N).S=g.S from rfl,a,if_neg (by decide)];exact k1
    · rw [show (g.step N).S=g.S from rfl,a,if_pos (by decide)]
      split
      · exact ((k1.low (by omega) (by omega) _).low (by omega) (by omega) _).low (by omega) (by omega) _
      · exact k1
  have e3:inputM (g.step N) N=beginM (g.step N) 1 0 (inputB (g.step N) (inputA (g.step N) N)):=by
    unfold inputM inputC
    rw [hi,if_neg]
    rw [w64_id (by decide),show (g.step N).S.players=1 from hP]
    decide
  have l:48 <= (inputB (g.step N) (inputA (g.step N) N)).cs.length:=by rw [k2.len];exact h48
  rw [e3] at e
  exact NoT.of (v:=default) e rfl (by omega) (km_beg (by omega) k2 _ _ _) (by rw [vbeg_get l];rfl) (by rw [vbeg_get l];rfl) (λ _=>by rw [vbeg_get l];rfl)
include h0 in
theorem far_p1 (c1:N.get 1=1) (c3:N.get 3=0) (c2:N.get 2=0 \/ N.get 2=1):NoT g N (1+N.get 2) (1 - N.get 2):=by
  have hP:=h.pl
  have h48:=far_48 h hl
  have hj:(g.step N).j=0:=c3
  have e:trV g N=actV (g.step N) N:=by unfold trV;rw [if_neg (by omega),if_pos c1]
  rcases c2 with c2 | c2
  · have hi:(g.step N).i=0:=c2
    have hp:playerAt g.S 0=48:=by
      unfold playerAt
      rw [if_neg (by decide),if_neg (by omega)]
      rfl
    have e2:actV (g.step N) N=⟨N.set 2 1,0,(g.step N).f,(g.step N).emitted⟩:=by
      unfold actV
      rw [hi,show (g.step N).S=g.S from rfl,hp,if_neg (by decide)]
      show (turnV (runV g.e0 (g.step N) (g.step N).i _ N) (runE g.e0 (g.step N) (g.step N).i _ N) (g.step N) _ N).z=_
      rw [turn_no hj h0,hi]
      show (⟨N.set 2 (w64 (0+1)),0,(g.step N).f,(g.step N).emitted⟩:VR)=_
      rw [w64_id (by decide)]
      rfl
    rw [e2] at e
    rw [c2]
    exact NoT.of (v:=default) e rfl (by omega) ((KM.refl N).low (by omega) (by omega) _) (by rw [vget_ne (by decide)];exact c1) (by rw [vget_eq (by omega)];rfl) (λ _=>by rw [vget_ne (by decide)];exact c3)
  · have hi:(g.step N).i=1:=c2
    have hp:playerAt g.S 1=-1:=by
      unfold playerAt
      rw [if_neg (by decide),if_pos (by omega)]
    have e2:actV (g.step N) N=⟨beginM (g.step N) 2 0 N,0,(g.step N).f,(g.step N).emitted⟩:=by
      unfold actV
      rw [hi,show (g.step N).S=g.S from rfl,hp,if_pos (by decide)]
    rw [e2] at e
    rw [c2]
    exact NoT.of (v:=default) e rfl (by omega) (km_beg (by omega) (KM.refl N) _ _ _) (by rw [vbeg_get h48];rfl) (by rw [vbeg_get h48];rfl) (λ _=>by rw [vbeg_get h48];rfl)
include h1 in
theorem far_p2 (c1:N.get 1=2) (c3:N.get 3=0):NoT g N 3 0:=by
  have hP:=h.pl
  have h48:=far_48 h hl
  have hj:(g.step N).j=0:=c3
  have e:trV g N=tickV (g.step N) N:=by unfold trV;rw [if_neg (by omega),if_neg (by omega),if_pos c1]
  have e1:runV g.e1 (g.step N) 0 0 N=⟨N,0,(g.step N).f,(g.step N).emitted⟩:=by unfold runV startV;rw [if_pos hj,if_pos h1,if_pos h1]
  have e2:end1 (g.step N) 0 0 N=true:=by show runE g.e1 (g.step N) 0 0 N=true;unfold runE;rw [if_pos hj];exact decide_eq_true h1
  have e3:tickV (g.step N) N=⟨beginM (g.step N) 3 0 N,0,(g.step N).f,(g.step N).emitted⟩:=by
    unfold tickV
    rw [if_pos e2,show run1 (g.step N) 0 0 N=⟨N,0,(g.step N).f,(g.step N).emitted⟩ from e1]
  rw [e3] at e
  exact NoT.of (v:=default) e rfl (by omega) (km_beg (by omega) (KM.refl N) _ _ _) (by rw [vbeg_get h48];rfl) (by rw [vbeg_get h48];rfl) (λ _=>by rw [vbeg_get h48];rfl)
include h2 in
theorem far_p6 (c1:N.get 1=6) (c3:N.get 3=0) (c2:0 <= N.get 2 /\ N.get 2 <= g.S.nb):(N.get 2 < g.S.nb -> NoT g N 6 (N.get 2+1)) /\ (N.get 2=g.S.nb -> NoT g N 7 0):=by
  have hP:=h.pl
  have hn:=h.nb
  have h48:=far_48 h hl
  have hj:(g.step N).j=0:=c3
  have e:trV g N=hitV (g.step N) N:=by unfold trV;rw [if_neg (by omega),if_neg (by omega),if_neg (by omega),if_neg (by omega),if_neg (by omega),if_neg (by omega),if_pos c1]
  constructor
  · intro c4
    have hb:=bat (S:=g.S) c2.1 c4
    have e2:hitV (g.step N) N=⟨N.set 2 (N.get 2+1),0,(g.step N).f,(g.step N).emitted⟩:=by
      unfold hitV
      rw [show bodyAt (g.step N).S (g.step N).i=bodyAt g.S (N.get 2) from rfl,if_neg (by omega)]
      show (turnV (runV g.e2 (g.step N) (g.step N).i _ N) (runE g.e2 (g.step N) (g.step N).i _ N) (g.step N) _ N).z=_
      rw [turn_no hj h2]
      show (⟨N.set 2 (w64 (N.get 2+1)),0,(g.step N).f,(g.step N).emitted⟩:VR)=_
      rw [w64_id (by omega)]
    rw [e2] at e
    exact NoT.of (v:=default) e rfl (by omega) ((KM.refl N).low (by omega) (by omega) _) (by rw [vget_ne (by decide)];exact c1) (by rw [vget_eq (by omega)]) (λ _=>by rw [vget_ne (by decide)];exact c3)
  · intro c4
    have e2:hitV (g.step N) N=⟨beginM (g.step N) 7 0 N,0,(g.step N).f,(g.step N).emitted⟩:=by
      unfold hitV
      rw [show bodyAt (g.step N).S (g.step N).i=bodyAt g.S (N.get 2) from rfl,if_pos]
      rcases vbodyAt (S:=g.S) (by omega) (N.get 2) with a | ⟨_,a,_⟩ <;> omega
    rw [e2] at e
    exact NoT.of (v:=default) e rfl (by omega) (km_beg (by omega) (KM.refl N) _ _ _) (by rw [vbeg_get h48];rfl) (by rw [vbeg_get h48];rfl) (λ _=>by rw [vbeg_get h48];rfl)
theorem far_p7 (c1:N.get 1=7) (c2:0 <= N.get 2 /\ N.get 2 < g.S.nb) (c3:N.get 3=0):(trV g N).em=false /\ KM g.S N (trM g N) /\ (N.get 2+1 < g.S.nb -> trE g N=false /\ (trM g N).get 1=7 /\ (trM g N).get 2=N.get 2+1 /\ (trM g N).get 3=0) /\ (¬ N.get 2+1 < g.S.nb -> trE g N=true):=by
  have hP:=h.pl
  have hn:=h.nb
  have h48:=far_48 h hl
  have e:trV g N=⟨restM (g.step N) N,0,eff0,false⟩:=by unfold trV;rw [if_neg (by omega),if_neg (by omega),if_neg (by omega),if_neg (by omega),if_neg (by omega),if_neg (by omega),if_neg (by omega)]
  have em:trM g N=restM (g.step N) N:=by unfold trM;rw [e]
  have ew:w64 ((g.step N).i+1)=N.get 2+1:=by show w64 (N.get 2+1)=_;rw [w64_id (by omega)]
  have hb:=bat (S:=g.S) c2.1 c2.2
  have k1:KM g.S N (restA (g.step N) N):=by
    unfold restA
    rw [show bodyAt (g.step N).S (g.step N).i=bodyAt g.S (N.get 2) from rfl,if_pos (by omega)]
    exact (KM.refl N).bod (by omega) c2.1 c2.2 (by decide) _
  have lo:∀ y,y < 48 -> (restA (g.step N) N).get y=N.get y:=λ y hy=>by
    unfold restA
    rw [show bodyAt (g.step N).S (g.step N).i=bodyAt g.S (N.get 2) from rfl,if_pos (by omega),vget_ne (by omega)]
  have kz:∀ (A:MemS),KM g.S N A -> ∀ n,n <= 10 -> KM g.S N (zeroTo A n):=λ A hA n=>by
    induction n with
    | zero=>exact λ _=>hA
    | succ n ih =>
      intro hn
      rw [zeroTo]
      exact (ih (by omega)).low (by omega) (by omega) _
  refine ⟨by rw [e],?_,λ c4=>?_,λ c4=>?_⟩
  · rw [em]
    unfold restM restC
    rw [ew]
    split
    · exact k1.low (by omega) (by omega) _
    · exact kz _ (k1.low (by omega) (by omega) _) 10 (Nat.le_refl _)
  · refine ⟨?_,?_⟩
    · unfold trE restB
      rw [if_pos c1,ew,if_pos (show N.get 2+1 < ((g.step N).S.nb:Int) from c4)]
    · rw [em]
      unfold restM restC
      rw [ew,if_pos (show N.get 2+1 < ((g.step N).S.nb:Int) from c4)]
      have l:=k1.len
      exact ⟨by rw [vget_ne (by decide),lo _ (by decide)];exact c1,by rw [vget_eq (by omega)],by rw [vget_ne (by decide),lo _ (by decide)];exact c3⟩
  · unfold trE restB
    rw [if_pos c1,ew,if_neg (show ¬ N.get 2+1 < ((g.step N).S.nb:Int) from c4)]
theorem far_p3 (hJ:FarJ g.S V 0 N) (c1:N.get 1=3) (c2:0 <= N.get 2 /\ N.get 2 < g.S.nb) (c3:N.get 3=0):(N.get 2+1 < g.S.nb -> NoT g N 3 (N.get 2+1)) /\ (¬ N.get 2+1 < g.S.nb -> NoT g N 4 0):=by
  have hP:=h.pl
  have hn:=h.nb
  have h48:=far_48 h hl
  have e:trV g N=⟨forceM (g.step N) N,0,eff0,false⟩:=by unfold trV;rw [if_neg (by omega),if_neg (by omega),if_neg (by omega),if_pos c1]
  have ew:w64 ((g.step N).i+1)=N.get 2+1:=by show w64 (N.get 2+1)=_;rw [w64_id (by omega)]
  have hb:=bat (S:=g.S) c2.1 c2.2
  have k1:KM g.S N (forceA (g.step N) N):=by
    unfold forceA
    rw [show bodyAt (g.step N).S (g.step N).i=bodyAt g.S (N.get 2) from rfl,if_pos (by omega)]
    exact (KM.refl N).bod (by omega) c2.1 c2.2 (by decide) _
  obtain ⟨i,hi⟩:∃ i:Nat,N.get 2=(i:Int):=⟨(N.get 2).toNat,by omega⟩
  have hin:i < g.S.nb:=by omega
  have hv:=h.vb i
  have J1:=k1.far hJ
  have k2:KM g.S N (forceB (g.step N) (forceA (g.step N) N)):=by
    generalize forceA (g.step N) N=A at k1 J1
    have m1:motM g.S A (N.get 2)=far0 V i:=by rw [hi,J1 i hin,if_neg (Nat.not_lt_zero _)]
    have ev:forceV (g.step N) A=V i:=by
      have e1:vadd ⟨(far0 V i).vx,(far0 V i).vy⟩ ⟨0,0⟩=V i:=by
        unfold vadd far0
        dsimp only
        rw [w64_id (by omega),w64_id (by omega),Int.add_zero,Int.add_zero]
      have e2:vadd (V i) ⟨w64 0,w64 0⟩=V i:=by
        unfold vadd
        rw [w64_id (show -9223372036854775808 <= (0:Int) /\ (0:Int) <= 9223372036854775807 by decide)]
        dsimp only
        rw [Int.add_zero,Int.add_zero,w64_id (by omega),w64_id (by omega)]
      have e3:vscale (V i) (w64 (1024 - 0))=V i:=by
        unfold vscale
        rw [w64_id (by decide),show (1024:Int) - 0=1024 from rfl]
        show (⟨mulDivI (V i).x 1024 1024,mulDivI (V i).y 1024 1024⟩:V2)=_
        rw [mulDiv_one (by omega),mulDiv_one (by omega)]
      unfold forceV
      rw [show (g.step N).S=g.S from rfl,show (g.step N).i=N.get 2 from rfl,m1,h.g,h.push,h.drag,Int.mul_zero,Int.mul_zero,e1,e2,ite_self,e3]
    have mp:movP g.S (N.get 2):=by
      obtain ⟨Q,c,eb⟩:=h.bod i hin
      exact ⟨c2,by rw [hi,Int.toNat_natCast,eb];show (1024:Int) > 0;decide⟩
    unfold forceB
    rw [show (g.step N).S=g.S from rfl,show (g.step N).i=N.get 2 from rfl,if_pos mp,ev,clamp_id (by omega) (by omega),clamp_id (by omega) (by omega)]
    have x1:A.get (bodyAt g.S (N.get 2)+2)=(V i).x:=congrArg Mot.vx m1
    have x2:A.get (bodyAt g.S (N.get 2)+3)=(V i).y:=congrArg Mot.vy m1
    exact (k1.same x1).same (by rw [vget_ne (by omega)];exact x2)
  have lo:∀ y,y < 48 -> (forceB (g.step N) (forceA (g.step N) N)).get y=N.get y:=λ y hy=>(force_hi h.setV (t:=g.step N) rfl N).get y (by omega)
  have l:=k2.len
  have e4:forceM (g.step N) N=forceC (g.step N) (forceB (g.step N) (forceA (g.step N) N)):=rfl
  generalize forceB (g.step N) (forceA (g.step N) N)=A at *
  have l48:48 <= A.cs.length:=by rw [l];exact h48
  constructor
  · intro c4
    have e5:forceM (g.step N) N=A.set 2 (N.get 2+1):=by
      rw [e4]
      unfold forceC
      rw [ew,if_pos (show N.get 2+1 < ((g.step N).S.nb:Int) from c4)]
    rw [e5] at e
    exact NoT.of (v:=default) e rfl (by omega) (k2.low (by omega) (by omega) _) (by rw [vget_ne (by decide),lo _ (by decide)];exact c1) (by rw [vget_eq (by omega)]) (λ _=>by rw [vget_ne (by decide),lo _ (by decide)];exact c3)
  · intro c4
    have e5:forceM (g.step N) N=(beginM (g.step N) 4 1 A).set 4 0:=by
      rw [e4]
      unfold forceC
      rw [ew,if_neg (show ¬ N.get 2+1 < ((g.step N).S.nb:Int) from c4)]
    rw [e5] at e
    exact NoT.of (v:=default) e rfl (by omega) ((km_beg (by omega) k2 _ _ _).low (by omega) (by omega) _) (by rw [vget_ne (by decide),vbeg_get l48];rfl) (by rw [vget_ne (by decide),vbeg_get l48];rfl) (λ hp=>absurd rfl hp)
end
structure FaI (S:Setup) (V:Nat -> V2) (N:MemS) (es:List Eff) (j:Nat) (p q s:Int):Prop where
  es:es=[]
  len:(N.cs.length:Int)=sizeOf S
  bi:BiA S N
  g3:N.get 1 ≠ 4 -> N.get 3=0
  ct:(N.get 1=0 /\ N.get 2=0 /\ j=0) \/ (N.get 1=1 /\ (N.get 2=0 \/ N.get 2=1) /\ (j:Int)=1+N.get 2) \/ (N.get 1=2 /\ j=3) \/ (N.get 1=3 /\ (0 <= N.get 2 /\ N.get 2 < S.nb) /\ (j:Int)=4+N.get 2) \/ (N.get 1=4 /\ (j:Int)=4+S.nb) \/ (N.get 1=6 /\ (0 <= N.get 2 /\ N.get 2 <= S.nb) /\ (j:Int)=5+S.nb+N.get 2) \/ (N.get 1=7 /\ (0 <= N.get 2 /\ N.get 2 < S.nb) /\ (j:Int)=6+2 * S.nb+N.get 2)
  lo:N.get 1 <= 4 -> FarJ S V 0 N /\ p=0 /\ q=0 /\ s=0
  hi:5 <= N.get 1 -> FarJ S V S.nb N /\ p=0 /\ q=0 /\ s=(S.nb:Int) * ((S.nb:Int) - 1)
structure FaF (S:Setup) (V:Nat -> V2) (N:MemS) (es:List Eff) (p q s:Int):Prop where
  es:es=[]
  len:(N.cs.length:Int)=sizeOf S
  far:FarJ S V S.nb N
  st:p=0 /\ q=0 /\ s=(S.nb:Int) * ((S.nb:Int) - 1)
theorem FaI.lt {S:Setup} {V:Nat -> V2} (h:FarS S V) {N:MemS} {es:List Eff} {j:Nat} {p q s:Int} (hI:FaI S V N es j p q s):(j:Int) < mostV S /\ es.length <= j:=by
  have hn:=h.nb
  refine ⟨?_,by rw [hI.es];exact Nat.zero_le _⟩
  unfold mostV
  rw [h.pl,h.fuel]
  rcases hI.ct with c | c | c | c | c | c | c <;> omega
theorem FaI.tr {g:Gm} {V:Nat -> V2} (h:FarS g.S V) (h0:g.e0 < 0) (h1:g.e1 < 0) (h2:g.e2 < 0) {N:MemS} {es:List Eff} {j:Nat} {p q s:Int} (hI:FaI g.S V N es j p q s) (h4:N.get 1 ≠ 4) :
    phOk N /\ ((trE g N=false /\ FaI g.S V (trM g N) (es++if (trV g N).em=true then [(trV g N).e] else []) (j+1) p q s) \/ (trE g N=true /\ FaF g.S V (trM g N) (es++if (trV g N).em=true then [(trV g N).e] else []) p q s)):=by
  have hn:=h.nb
  have c3:=hI.g3 h4
  have hV:=h.setV
  have hb:N.get 1 ≠ 5 -> BiA g.S (trM g N):=λ h5=>bi_tr hV hI.bi h4 h5
  have key:∀ {a b:Int},NoT g N a b -> N.get 1 ≠ 5 -> a ≠ 5 -> (N.get 1 <= 4 -> a <= 4) -> (5 <= N.get 1 -> 5 <= a) -> ((a=1 /\ (b=0 \/ b=1) /\ ((j+1:Nat):Int)=1+b) \/ (a=2 /\ j+1=3) \/ (a=3 /\ (0 <= b /\ b < g.S.nb) /\ ((j+1:Nat):Int)=4+b) \/ (a=4 /\ ((j+1:Nat):Int)=4+g.S.nb) \/ (a=6 /\ (0 <= b /\ b <= g.S.nb) /\ ((j+1:Nat):Int)=5+g.S.nb+b) \/ (a=7 /\ (0 <= b /\ b < g.S.nb) /\ ((j+1:Nat):Int)=6+2 * g.S.nb+b)) -> trE g N=false /\ FaI g.S V (trM g N) (es++if (trV g N).em=true then [(trV g N).e] else []) (j+1) p q s:=λ {a b} t n5 a5 hlo hhi hc=>by
    refine ⟨t.en,by rw [t.em,hI.es];rfl,by rw [t.km.len];exact hI.len,hb n5,λ hp=>t.g3 (by rw [t.g1] at hp;exact hp),?_,λ hp=>?_,λ hp=>?_⟩
    · rw [t.g1,t.g2]
      exact .inr hc
    · rw [t.g1] at hp
      have h5:N.get 1 <= 4:=by
        rcases Int.lt_or_le 4 (N.get 1) with x | x
        · have:=hhi (by omega);omega
        · exact x
      exact ⟨t.km.far (hI.lo h5).1,(hI.lo h5).2⟩
    · rw [t.g1] at hp
      have h5:5 <= N.get 1:=by
        rcases Int.lt_or_le 4 (N.get 1) with x | x
        · omega
        · have:=hlo x;omega
      exact ⟨t.km.far (hI.hi h5).1,(hI.hi h5).2⟩
  rcases hI.ct with ⟨a,b,c⟩ | ⟨a,b,c⟩ | ⟨a,c⟩ | ⟨a,b,c⟩ | ⟨a,c⟩ | ⟨a,b,c⟩ | ⟨a,b,c⟩
  · exact ⟨⟨by omega,by omega⟩,.inl (key (far_p0 h hI.len a b) (by omega) (by decide) (λ _=>by decide) (λ h5=>by omega) (.inl ⟨rfl,.inl rfl,by omega⟩))⟩
  · refine ⟨⟨by omega,by omega⟩,.inl ?_⟩
    have t:=far_p1 h h0 hI.len a c3 b
    rcases b with b | b
    · rw [b] at t c
      exact key t (by omega) (by decide) (λ _=>by decide) (λ h5=>by omega) (.inl ⟨rfl,.inr rfl,by omega⟩)
    · rw [b] at t c
      exact key t (by omega) (by decide) (λ _=>by decide) (λ h5=>by omega) (.inr (.inl ⟨rfl,by omega⟩))
  · exact ⟨⟨by omega,by omega⟩,.inl (key (far_p2 h h1 hI.len a c3) (by omega) (by decide) (λ _=>by decide) (λ h5=>by omega) (.inr (.inr (.inl ⟨rfl,by omega,by omega⟩))))⟩
  · refine ⟨⟨by omega,by omega⟩,.inl ?_⟩
    obtain ⟨t1,t2⟩:=far_p3 h hI.len (hI.lo (by omega)).1 a b c3
    by_cases c4:N.get 2+1 < g.S.nb
    · exact key (t1 c4) (by omega) (by decide) (λ _=>by decide) (λ h5=>by omega) (.inr (.inr (.inl ⟨rfl,by omega,by omega⟩)))
    · exact key (t2 c4) (by omega) (by decide) (λ _=>by decide) (λ h5=>by omega) (.inr (.inr (.inr (.inl ⟨rfl,by omega⟩))))
  · exact absurd a h4
  · refine ⟨⟨by omega,by omega⟩,.inl ?_⟩
    obtain ⟨t1,t2⟩:=far_p6 h h2 hI.len a c3 b
    by_cases c4:N.get 2 < g.S.nb
    · exact key (t1 c4) (by omega) (by decide) (λ h5=>by omega) (λ _=>by decide) (.inr (.inr (.inr (.inr (.inl ⟨rfl,by omega,by omega⟩)))))
    · exact key (t2 (by omega)) (by omega) (by decide) (λ h5=>by omega) (λ _=>by decide) (.inr (.inr (.inr (.inr (.inr ⟨rfl,by omega,by omega⟩)))))
  · refine ⟨⟨by omega,by omega⟩,?_⟩
    obtain ⟨t1,t2,t3,t4⟩:=far_p7 h hI.len a b c3
    have fh:=hI.hi (by omega)
    by_cases c4:N.get 2+1 < g.S.nb
    · obtain ⟨u1,u2,u3,u4⟩:=t3 c4
      exact .inl (key ⟨t1,u1,t2,u2,u3,λ _=>u4⟩ (by omega) (by decide) (λ h5=>by omega) (λ _=>by decide) (.inr (.inr (.inr (.inr (.inr ⟨rfl,by omega,by omega⟩))))))
    · exact .inr ⟨t4 c4,by rw [t1,hI.es];rfl,by rw [t2.len];exact hI.len,t2.far fh.1,fh.2⟩
theorem FaI.col {S:Setup} {V:Nat -> V2} (h:FarS S V) {N N':MemS} {es:List Eff} {j:Nat} {p q s p' q' s':Int} (hI:FaI S V N es j p q s) (h4:N.get 1=4) (hc:ColR S N N') (hs:ColS S N p' q' s'):FaI S V N' es (j+1) p' q' s':=by
  have hn:=h.nb
  have hP:=h.pl
  have hJ:=(hI.lo (by omega)).1
  obtain ⟨z1,z2⟩:=hs.1 (far_no h hJ)
  have er:∀ (k:Nat) (W:MemS),(W.cs.length:Int)=sizeOf S -> FarJ S V 0 W -> rndG S k W=W:=λ k=>by
    induction k with
    | zero=>exact λ _ _ _=>rfl
    | succ k ih =>
      intro W hl hW
      have hno:=far_no h hW
      have e1:∀ (n i j:Nat),i < j -> j+n=S.nb -> innG S (i:Int) (j:Int) n W=W:=λ n=>by
        induction n with
        | zero=>exact λ _ _ _ _=>rfl
        | succ n ih2 =>
          intro i j hij hjn
          have ec:conG S i j W=W:=by
            refine con_no ?_
            show (collideS _ _ _ _).2=false
            unfold collideS
            rw [if_neg (hno i j hij (by omega))]
          rw [innG,ec]
          exact ih2 i (j+1) (by omega) (by omega)
      have e2:∀ (n i:Nat),i+n=S.nb -> outG S (i:Int) n W=W:=λ n=>by
        induction n with
        | zero=>exact λ _ _=>rfl
        | succ n ih2 =>
          intro i hin
          rw [outG,show (i:Int)+1=((i+1:Nat):Int) from rfl,e1 n i (i+1) (by omega) (by omega)]
          exact ih2 (i+1) (by omega)
      rw [rndG,show outG S 0 S.nb W=W from e2 S.nb 0 (by omega)]
      exact ih W hl hW
  have e1:=er S.rounds.toNat N hI.len hJ
  obtain ⟨r1,r2⟩:=far_mvs h S.nb 0 (by omega) hI.len hI.bi hJ
  have ec:colG S N=mvsG S 0 S.nb N:=by rw [col_of,e1]
  have e3:s'=(S.nb:Int) * ((S.nb:Int) - 1):=by rw [hs.2,e1];exact r2
  have hl:(N'.cs.length:Int)=sizeOf S:=by
    rw [hc.ag.1,(kc_col S N).len]
    exact hI.len
  have hJ':FarJ S V S.nb N':=λ k hk=>by
    have e:=bat (S:=S) (k:=(k:Int)) (by omega) (by omega)
    have r3:=r1 k hk
    rw [<- r3,show ((0:Nat):Int)=0 from rfl,<- ec]
    unfold motM
    rw [hc.ag.2 _ (by unfold OffC;omega),hc.ag.2 _ (by unfold OffC;omega),hc.ag.2 _ (by unfold OffC;omega),hc.ag.2 _ (by unfold OffC;omega)]
  refine ⟨hI.es,hl,bi_off (by omega) (bi_col h.boxV hI.bi) hc.ag,λ _=>hc.g3,?_,λ hp=>?_,λ hp=>⟨hJ',z1,z2,e3⟩⟩
  · rw [hc.g1,hc.g2]
    rcases hI.ct with c | c | c | c | c | c | c
    · omega
    · omega
    · omega
    · omega
    · exact .inr (.inr (.inr (.inr (.inr (.inl ⟨rfl,by omega,by omega⟩)))))
    · omega
    · omega
  · rw [hc.g1] at hp
    omega
theorem FaI.start {S:Setup} {V:Nat -> V2} (h:FarS S V):FaI S V ⟨iniL S S.nb,[],0⟩ [] 0 0 0 0:=by
  have hV:=h.setV
  have hn:=h.nb
  have ht:=ini_te2 hV
  have z:∀ y:Int,1 <= y -> y < 4 -> (⟨iniL S S.nb,[],0⟩:MemS).get y=0:=λ y h0 h1=>ht.z y (by omega) (by omega)
  have hJ:FarJ S V 0 ⟨iniL S S.nb,[],0⟩:=λ k hk=>by
    obtain ⟨A,c,e⟩:=h.bod k hk
    rw [ini_mot hV hk,e,if_neg (Nat.not_lt_zero _)]
  refine ⟨rfl,ht.len,λ k k0 k1=>?_,λ _=>z 3 (by decide) (by decide),.inl ⟨z 1 (by decide) (by decide),z 2 (by decide) (by decide),rfl⟩,λ _=>⟨hJ,rfl,rfl,rfl⟩,λ hp=>?_⟩
  · obtain ⟨i,rfl⟩:∃ i:Nat,k=(i:Int):=⟨k.toNat,by omega⟩
    have hv:=h.vb i
    have hg:=grid_bd (i:=i) (by omega)
    have e:=hJ i (by omega)
    rw [if_neg (Nat.not_lt_zero _)] at e
    have g0:(⟨iniL S S.nb,[],0⟩:MemS).get (bodyAt S i+0)=gX i:=congrArg Mot.px e
    have g1:(⟨iniL S S.nb,[],0⟩:MemS).get (bodyAt S i+1)=gY i:=congrArg Mot.py e
    have g2:(⟨iniL S S.nb,[],0⟩:MemS).get (bodyAt S i+2)=(V i).x:=congrArg Mot.vx e
    have g3:(⟨iniL S S.nb,[],0⟩:MemS).get (bodyAt S i+3)=(V i).y:=congrArg Mot.vy e
    rw [g0,g1,g2,g3]
    omega
  · have:=z 1 (by decide) (by decide)
    omega
theorem Sp.den {P:Program} {f:FuncId} {args:Array Value} {H F F':HL} {R:Value -> HL -> Prop} (h:Sp P f args H F R) (e:denL F=denL F'):Sp P f args H F' R:=by
  have e2:∀ X:HL,denL (X++F)=denL (X++F'):=λ X=>by simp only [denL,List.map_append] at e ⊢;rw [e]
  intro w hR
  refine (h w (hR.den (e2 H).symm)).mono ?_
  rintro e' w' ⟨v,H',h1,h2,h3,h4⟩
  exact ⟨v,H',h1,h2,h3.den (e2 H'),h4⟩
def ArgD (F:HL) (A:Option Addr) (n:Nat) (xs:List Int):Prop:=∃ F',denL F'=denL F /\ ArgL F' A n xs
theorem ArgL.d {F F':HL} {A:Option Addr} {n:Nat} {xs:List Int} (h:ArgL F A n xs) (e:denL F=denL F'):ArgD F' A n xs:=⟨F,e,h⟩
theorem ArgD.up {F X:HL} {A:Option Addr} {n:Nat} {xs:List Int} (h:ArgD F A n xs):ArgD (X++F) A n xs:=by
  obtain ⟨F',e,h⟩:=h
  exact ⟨X++F',by simp only [denL,List.map_append] at e ⊢;rw [e],h.up⟩
theorem ArgD.use {F:HL} {A:Option Addr} {n:Nat} {xs:List Int} (h:ArgD F A n xs) {P:Program} {f:FuncId} {args:Array Value} {H:HL} {R:Value -> HL -> Prop} (k:∀ F',ArgL F' A n xs -> Sp P f args H F' R):Sp P f args H F R:=by
  obtain ⟨F',e,h⟩:=h
  exact (k F' h).den e
end Go.Proofs.YthoijjeddhfcnaaGreat
